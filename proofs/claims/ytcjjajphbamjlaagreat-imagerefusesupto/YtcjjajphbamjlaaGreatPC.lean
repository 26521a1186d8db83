/- Part of a proof that a law returns true for every input of the second form's bound (no other condition). -/
import Derived.Test.YtcjjajphbamjlaaGreatPB
import Derived.Test.YtcjjajphbamjlaaGreatPA
set_option linter.all false
/- A region that draws its order: somewhere on the way. -/
namespace Go.Ab
open Go Go.RowKit
section
variable {P:Program}
structure GInv (M0:Mp) (B:Nat) (w0:World) (n:Nat) (ts:List TO) (E:Nat→Env) (V':Nat→V) (H0 K:AH) (S:Nat→Prop) (M:Mp) (w:World) (a:Act):Prop where
  sim:Sim M B w K
  env1:∀ t,(∀ i o,ts[i]?=some o→o.d=some t→¬ S i)→VR M K (E 0 t) (a.tmps.getD t undef)
  env2:∀ i o,ts[i]?=some o→S i→∀ t,o.d=some t→VR M K (V' i) (a.tmps.getD t undef)
  gmap:∀ id,id<H0.next→K.live id→M id=M0 id
  below:Below B w0 w
  size:a.tmps.size=n
  defers:a.defers=[]
structure QInv (ts:List TO) (H:Nat→AH) (lo hi:Nat) (S:Nat→Prop) (M:Mp):Prop where
  none_:∀ i t,lo≤i→i<hi→ts[i]?=some t→isPure t.o=false→¬ S i→∀ id,(H i).next≤id→id<(H (i+1)).next→M id=none
  wf:∀ id k m,(H hi).get id=some k→M id=some m→∀ j,lo≤j→j≤hi→id<(H j).next→∀ (el:Nat) (r:List V),k.cs[el]?=some r→∀ (c:Nat) (v:V),r[c]?=some v→VB (H j).next v
variable {M M0:Mp} {B:Nat} {w w0:World} {n:Nat} {tp:TP} {C:Oracle} {ts:List TO} {bar:Nat→Bool} {lim:Nat} {E:Nat→Env} {H:Nat→AH} {V':Nat→V} {a:Act} {S:Nat→Prop} {K:AH}
theorem put_other {d:Option Nat} {x:Value} {t:Nat} (h:d≠some t):(a.put d x).tmps.getD t undef=a.tmps.getD t undef:=by
  cases d with
  | none=>rfl
  | some d=>
    have hne:d≠t:=fun hh=>h (by rw [hh])
    simp only [Act.put]
    rw [Array.getD_eq_getD_getElem?,Array.getElem?_setIfInBounds_ne hne,←Array.getD_eq_getD_getElem?]
theorem put_self {t:Nat} {x:Value} (h:t<a.tmps.size):(a.put (some t) x).tmps.getD t undef=x:=by
  simp [Act.put,Array.getD_eq_getD_getElem?,h]
theorem GInv.step {H0 K' : AH} {M' : Mp} {w' : World} (g : GInv M0 B w0 n ts E V' H0 K S M w a) {j : Nat} {t : TO} (hj : ts[j]? = some t) (hS : ¬ S j) (hdk : dOk n t.d = true)
    (d3:∀ (i:Nat) (o:TO) (d:Nat),i≠j→ts[i]?=some o→o.d=some d→t.d≠some d) {x:Value}
    (hsim:Sim M' B w' K') (hT:∀ {v:V} {y:Value},VR M K v y→VR M' K' v y) (hx:VR M' K' (V' j) x) (hg:∀ id,id<H0.next→K'.live id→M' id=M0 id) (hb:Below B w w'):
    GInv M0 B w0 n ts E V' H0 K' (fun i=>S i∨i=j) M' w' (a.put t.d x):=by
  refine ⟨hsim, ?_, ?_,hg,g.below.trans hb, ?_, ?_⟩
  · intro tt hno
    rw [put_other (fun hh=>hno j t hj hh (.inr rfl))]
    exact hT (g.env1 tt (fun i o ho hod hSi=>hno i o ho hod (.inl hSi)))
  · intro i o ho hSi tt hod
    rcases Decidable.em (i=j) with h1 | h1
    · subst h1
      rw [hj] at ho
      simp only [Option.some.injEq] at ho
      subst ho
      have hlt:tt<a.tmps.size:=by rw [g.size];rw [hod] at hdk;simpa [dOk] using hdk
      rw [hod,put_self hlt]
      exact hx
    · rw [put_other (d3 i o tt h1 ho hod)]
      exact hT (g.env2 i o ho (hSi.resolve_right h1) tt hod)
  · cases t.d<;>simp [Act.put,g.size]
  · cases t.d<;>simp [Act.put,g.defers]
theorem GInv.look {H0 : AH} (htr : Trace tp C ts bar lim E H V') (g : GInv M0 B w0 n ts E V' H0 K S M w a) {j : Nat} {t : TO} (hj : ts[j]? = some t) (hS : ¬ S j)
    (d1:∀ (i:Nat) (o:TO) (sl:Nat),i<j→ts[i]?=some o→o.d=some sl→sl∈t.slots→S i) (d2:∀ (i:Nat) (o:TO) (sl:Nat),j<i→ts[i]?=some o→o.d=some sl→sl∈t.slots→¬ S i):
    ∀ sl∈t.slots,VR M K (E j sl) (a.tmps.getD sl undef):=by
  intro sl hsl
  have hjl:j<ts.length:=(List.getElem?_eq_some_iff.1 hj).1
  rcases htr.slot sl j (by omega) with ⟨i,o,hi,ho,hod,hv⟩ | ⟨hno,hv⟩
  · rw [hv];exact g.env2 i o ho (d1 i o sl hi ho hod hsl) sl hod
  · rw [hv]
    refine g.env1 sl (fun i o ho hod hSi=>?_)
    rcases Nat.lt_trichotomy i j with h1 | h1 | h1
    · exact hno i o h1 ho hod
    · subst h1;exact hS hSi
    · exact d2 i o sl h1 ho hod hsl hSi
theorem look_vb (htr:Trace tp C ts bar lim E H V') (k:Known P n ts bar lim E H V') {j:Nat} (hj:j≤ts.length) (sl:Nat):VB (H j).next (E j sl):=by
  obtain ⟨M',B',w',a',hr'⟩:=k.rel j hj
  exact (hr'.env sl).vb
theorem pure_any {o:O} {ev:X→V} {h h2:AH} {v:V} (hnf:o.fl=false) (hp:isPure o=true) (hal:alive o ev h=true) (hd:doOp o ev h=some (v,h)) (hsz:∀ id k k2,h.get id=some k→h2.get id=some k2→k2.sz=k.sz):doOp o ev h2=some (v,h2):=by
  have mp:∀ {α:Type} {x:Option α} {f:α→V},(x.map fun a=>(f a,h))=some (v,h)→(x.map fun a=>(f a,h2))=some (v,h2):=fun e=>by
    simp only [Option.map_eq_some_iff,Prod.mk.injEq] at e ⊢
    obtain ⟨a,h1,h3,_⟩:=e
    exact ⟨a,h1,h3,trivial⟩
  have mb:∀ {α β:Type} {x:Option α} {y:α→Option β} {f:α→β→V},(x.bind fun a=>(y a).map fun b=>(f a b,h))=some (v,h)→(x.bind fun a=>(y a).map fun b=>(f a b,h2))=some (v,h2):=fun e=>by
    simp only [Option.bind_eq_some_iff,Option.map_eq_some_iff,Prod.mk.injEq] at e ⊢
    obtain ⟨a,h1,b,h3,h4,_⟩:=e
    exact ⟨a,h1,b,h3,h4,trivial⟩
  have sm:∀ {u:V},some (u,h)=some (v,h)→some (u,h2)=some (v,h2):=fun e=>by
    simp only [Option.some.injEq,Prod.mk.injEq] at e ⊢
    exact ⟨e.1,trivial⟩
  cases o<;>simp only [isPure,Bool.false_eq_true] at hp<;>simp only [doOp] at hd ⊢
  case fload n g x=>simp [O.fl] at hnf
  case iad s x i=>
    simp only [alive] at hal
    split at hd
    · rename_i id el len cap hx
      rw [hx] at hal
      simp only at hal
      obtain ⟨kk,hkk⟩:=Option.isSome_iff_exists.1 hal
      split at hd
      case isFalse=>simp at hd
      rename_i hs
      have hs':szB h2 id s=true:=by
        unfold szB at hs ⊢
        rw [hkk] at hs
        cases hg:h2.get id with
        | none=>rfl
        | some k2=>
          have:=hsz id kk k2 hkk hg
          simp only [beq_iff_eq] at hs ⊢
          omega
      rw [if_pos hs']
      exact mp hd
    · simp at hd
  all_goals (try exact mp hd)
  all_goals (try exact sm hd)
  all_goals (repeat' split at hd)
  all_goals (try exact mp hd)
  all_goals (try exact sm hd)
  all_goals (try exact mb hd)
  all_goals (try (simp at hd;done))
  all_goals simp_all
theorem sizes (k:Known P n ts bar lim E H V') {i j:Nat} (hi:i≤ts.length) (hj:j≤ts.length):∀ id k1 k2,(H i).get id=some k1→(H j).get id=some k2→k2.sz=k1.sz:=by
  intro id k1 k2 h1 h2
  have fresh:∀ l,l≤ts.length→∀ q,(H l).get id=some q→id<(H l).next:=fun l hl q hq=>by
    obtain ⟨M',B',w',a',hr'⟩:=k.rel l hl
    exact hr'.sim.fresh id (by simp [AH.live,hq])
  rcases Nat.le_total i j with h | h
  · obtain ⟨q,hq,hs⟩:=(k.steadies i j h hj).2.2 id k2 (fresh i hi k1 h1) h2
    rw [h1] at hq
    simp only [Option.some.injEq] at hq
    rw [hq];exact hs.symm
  · obtain ⟨q,hq,hs⟩:=(k.steadies j i h hi).2.2 id k1 (fresh j hj k2 h2) h1
    rw [h2] at hq
    simp only [Option.some.injEq] at hq
    rw [hq];exact hs
theorem slot_of (tr:Trace tp C ts bar lim E H V') (hu:∀ (i j:Nat) (x y:TO) (d:Nat),i≠j→ts[i]?=some x→ts[j]?=some y→x.d=some d→y.d≠some d) {i m d:Nat} {u:TO} (hi:ts[i]?=some u) (hd:u.d=some d) (him:i<m) (hm:m≤ts.length):E m d=V' i:=by
  rcases tr.slot d m hm with ⟨i',o,hi',ho,hod,hv⟩ | ⟨hno,_⟩
  · by_cases hii:i=i'
    · subst hii;exact hv
    · exact absurd hod (hu i i' u o d hii hi ho hd)
  · exact absurd hd (hno i u him hi)
theorem slot_none (tr:Trace tp C ts bar lim E H V') {a:Nat} (hno:∀ u∈ts,u.d≠some a):∀ m,m≤ts.length→E m a=E 0 a
  | 0,_=>rfl
  | m+1,h=>by
    have ht:ts[m]?=some ts[m]:=List.getElem?_eq_getElem (by omega)
    rw [tr.env m _ ht,←slot_none tr hno m (by omega)]
    have:=hno _ (List.getElem_mem (l:=ts) (n:=m) (by omega))
    cases hd:ts[m].d with
    | none=>rfl
    | some d=>
      show (if a=d then V' m else E m a)=E m a
      rw [if_neg (fun e=>this (by rw [hd,e]))]
theorem fixed_slot (tr:Trace tp C ts bar lim E H V') (hu:∀ (i j:Nat) (x y:TO) (d:Nat),i≠j→ts[i]?=some x→ts[j]?=some y→x.d=some d→y.d≠some d) {j a:Nat} (hjl:j<ts.length) (hor:fixedB ts j a=true):∀ m,j≤m→m≤ts.length→E m a=E j a:=by
  intro m hm hml
  simp only [fixedB,Bool.or_eq_true] at hor
  rcases hor with hor | hor
  · simp only [List.any_eq_true] at hor
    obtain ⟨i,hi,hia⟩:=hor
    have hij:i<j:=by simpa using hi
    cases hti:ts[i]? with
    | none=>simp [hti] at hia
    | some u=>
      simp only [hti,beq_iff_eq] at hia
      rw [slot_of tr hu hti hia (by omega) hml,slot_of tr hu hti hia hij (by omega)]
  · have hno:∀ u∈ts,u.d≠some a:=fun u hu'=>by simpa using List.all_eq_true.1 hor u hu'
    rw [slot_none tr hno m hml,slot_none tr hno j (by omega)]
theorem fl_any {cl : List Nat} (tr : Trace tp C ts bar lim E H V') (k : Known P n ts bar lim E H V') (hu : ∀ (i j : Nat) (x y : TO) (d : Nat), i ≠ j → ts[i]? = some x → ts[j]? = some y → x.d = some d → y.d ≠ some d) (hfo : flOk ts = true)
    (hst:∀ c,bar c=true→∀ j t,j<c→ts[j]?=some t→bar j=false→Unhung cl bar 0 c (0+j) t→Stab (E (c+1)) (H (c+1)) t) {j:Nat} {t:TO} (ht:ts[j]?=some t) (hfl:t.o.fl=true) (hbj:bar j=false) (hwj:wantedT (E j) t.g=some true):∀ c,j<c→c≤ts.length→(∀ c',c'<c→bar c'=true→(cl.getD c' 0).testBit j=false)→doOp t.o (X.ev (E j)) (H c)=some (V' j,H c):=by
  have hjl:=(List.getElem?_eq_some_iff.1 ht).1
  simp only [flOk,List.all_eq_true] at hfo
  have hf:=hfo j (by simpa using hjl)
  simp only [ht] at hf
  cases ho:t.o<;>rw [ho] at hfl<;>simp [O.fl] at hfl
  rename_i n g x
  rw [ho] at hf
  cases x with
  | c v=>simp at hf
  | fn f=>simp at hf
  | t a=>
    simp only [Bool.and_eq_true] at hf
    obtain ⟨⟨hds,hor⟩,hgf⟩:=hf
    obtain ⟨d,hd⟩:=Option.isSome_iff_exists.1 hds
    have hsa:=fixed_slot tr hu hjl hor
    have hsg:∀ m,j≤m→m≤ts.length→wantedT (E m) t.g=wantedT (E j) t.g:=by
      intro m hm hml
      cases htg:t.g with
      | none=>rfl
      | some q=>
        rw [htg] at hgf
        simp only at hgf
        simp only [wantedT,fixed_slot tr hu hjl hgf m hm hml]
    have key:∀ {e1 e2:Env} {h:AH},e1 a=e2 a→doOp (.fload n g (.t a)) (X.ev e1) h=doOp (.fload n g (.t a)) (X.ev e2) h:=fun he=>by simp only [doOp,X.ev,he]
    have base:doOp (.fload n g (.t a)) (X.ev (E j)) (H j)=some (V' j,H j)∧H (j+1)=H j:=by
      rcases tr.step j t ht with ⟨hw,_,_⟩ | hs
      · rw [hwj] at hw;cases hw
      · rw [if_neg (by rw [hbj];simp)] at hs
        rcases hs with ⟨_,_,_,h1,h2⟩ | ⟨_,h1,_⟩
        · rw [ho] at h1;exact ⟨h1,h2⟩
        · rw [ho] at h1;simp [isPure] at h1
    have more:∀ {c:Nat},c<ts.length→(∀ id,id<(H c).next→(H (c+1)).get id=(H c).get id)→doOp (.fload n g (.t a)) (X.ev (E j)) (H c)=some (V' j,H c)→doOp (.fload n g (.t a)) (X.ev (E j)) (H (c+1))=some (V' j,H (c+1)):=by
      intro c hc hget hv
      obtain ⟨M',B',w',a',hr'⟩:=k.rel c (by omega)
      simp only [doOp] at hv ⊢
      split at hv
      · rename_i id el off hx
        simp only [Option.bind_eq_some_iff,Option.map_eq_some_iff,Prod.mk.injEq] at hv ⊢
        obtain ⟨kk,hk,r,hr,v,hv,e1,_⟩:=hv
        exact ⟨kk,by rw [hget id (hr'.sim.fresh id (by simp [AH.live,hk]))];exact hk,r,hr,v,hv,e1,trivial⟩
      · simp at hv
    intro c
    induction c with
    | zero=>intro h;omega
    | succ c ih=>
      intro h1 h2 hun
      rcases Nat.lt_succ_iff_lt_or_eq.1 h1 with h3 | h3
      · have ihc:=ih h3 (by omega) (fun c' hc'=>hun c' (by omega))
        cases hb:bar c with
        | true=>
          have hs:=(hst c hb j t h3 ht hbj (fun _ c' h4 h5=>by rw [Nat.zero_add,Nat.zero_add];exact hun c' (by omega) h5)).1 d n g (.t a) hd ho ((hsg (c+1) (by omega) h2).trans hwj)
          rw [ho] at hs
          rw [slot_of tr hu ht hd (by omega) h2] at hs
          rw [key (e1:=E j) (e2:=E (c+1)) (hsa (c+1) (by omega) h2).symm]
          exact hs
        | false=>exact more (by omega) (k.qget c (by omega) hb) ihc
      · subst h3
        rw [base.2];exact base.1
theorem QInv.down {lo hi:Nat} (k:Known P n ts bar lim E H V') (hb:∀ i,lo≤i→i<hi→bar i=false) (hhi:hi≤ts.length) (q:QInv ts H lo hi S M) (hs:Sim M B w (H hi)) {j:Nat} (h1:lo≤j) (h2:j≤hi):Sim M B w (H j):=by
  have m2:=k.gets hb hhi j hi h1 h2 (Nat.le_refl _)
  obtain ⟨M',B',w',a',hr'⟩:=k.rel j (by omega)
  have hlt:∀ id,(H j).live id→id<(H j).next:=hr'.sim.fresh
  have hup:∀ id,(H j).live id→(H hi).live id:=fun id hl=>by rw [AH.live,m2 id (hlt id hl)];exact hl
  refine ⟨fun id kk m hg hm=>?_,fun id m hl hm ho=>hs.own id m (hup id hl) hm ho,fun id m hl hm hlim=>hs.from_ id m (hup id hl) hm ?_,fun id id' m m' hl hl' hm hm'=>hs.apart id id' m m' (hup id hl) (hup id' hl') hm hm',hlt,hr'.sim.lim,hs.size⟩
  · have hl:(H j).live id:=by rw [AH.live,hg];simp
    have hid:=hlt id hl
    have hg':(H hi).get id=some kk:=by rw [m2 id hid];exact hg
    obtain ⟨c1,c2,c3⟩:=hs.cells id kk m hg' hm
    refine ⟨c1,c2,fun el r hr=>⟨(c3 el r hr).1,fun c v hv=>?_⟩⟩
    obtain ⟨e1,x,e2,e3⟩:=(c3 el r hr).2 c v hv
    exact ⟨e1,x,e2,e3.move (N:=(H j).next) (Nat.le_refl _) (fun id hid hl=>⟨by rw [AH.live,m2 id hid];exact hl,rfl⟩) (q.wf id kk m hg' hm j h1 h2 hid el r hr c v hv)⟩
  · rw [k.lim _ hhi]
    rw [k.lim j (by omega)] at hlim
    exact hlim
theorem GInv.enter {lo hi : Nat} (k : Known P n ts bar lim E H V') (hb : ∀ i, lo ≤ i → i < hi → bar i = false) (hlo : lo ≤ hi) (hhi : hi ≤ ts.length) (g : GInv M0 B w0 n ts E V' (H 0) (H lo) S M w a) :
    ∃ M1,GInv M0 B w0 n ts E V' (H 0) (H hi) S M1 w a∧QInv ts H lo hi S M1∧∀ id,M id=none→M1 id=none:=by
  have m2:=k.gets hb hhi lo hi (Nat.le_refl _) hlo (Nat.le_refl _)
  have m1:=k.next lo hi hlo hhi
  have hmv:∀ {v:V} {x:Value},VR M (H lo) v x→VR (fun id=>if id<(H lo).next then M id else none) (H hi) v x:=fun hv=>
    hv.move (N:=(H lo).next) m1 (fun id hid hl=>⟨by rw [AH.live,←m2 id hid];exact hl,by simp [hid]⟩) hv.vb
  have hin:∀ id m,(if id<(H lo).next then M id else none)=some m→id<(H lo).next∧M id=some m:=fun id m hm=>by
    split at hm
    · exact ⟨‹_›,hm⟩
    · simp at hm
  obtain ⟨M',B',w',a',hr'⟩:=k.rel hi hhi
  refine ⟨fun id=>if id<(H lo).next then M id else none,⟨⟨?_, ?_, ?_, ?_,hr'.sim.fresh,hr'.sim.lim,g.sim.size⟩,fun t ht=>hmv (g.env1 t ht),fun i o ho hS t hod=>hmv (g.env2 i o ho hS t hod), ?_,g.below,g.size,g.defers⟩,⟨?_, ?_⟩,fun id hid=>by simp [hid]⟩
  · intro id kk m hg hm
    obtain ⟨hid,hM⟩:=hin id m hm
    rw [m2 id hid] at hg
    obtain ⟨c1,c2,c3⟩:=g.sim.cells id kk m hg hM
    refine ⟨c1,c2,fun el r hr'=>⟨(c3 el r hr').1,fun j v hv=>?_⟩⟩
    obtain ⟨d1,x,d2,d3⟩:=(c3 el r hr').2 j v hv
    exact ⟨d1,x,d2,hmv d3⟩
  · intro id m hl hm ho
    obtain ⟨hid,hM⟩:=hin id m hm
    exact g.sim.own id m (by rw [AH.live,←m2 id hid];exact hl) hM ho
  · intro id m hl hm hlim
    obtain ⟨hid,hM⟩:=hin id m hm
    refine g.sim.from_ id m (by rw [AH.live,←m2 id hid];exact hl) hM ?_
    rw [k.lim lo (by omega)]
    rw [k.lim hi hhi] at hlim
    exact hlim
  · intro id id' m m' hl hl' hm hm'
    obtain ⟨hid,hM⟩:=hin id m hm
    obtain ⟨hid',hM'⟩:=hin id' m' hm'
    exact g.sim.apart id id' m m' (by rw [AH.live,←m2 id hid];exact hl) (by rw [AH.live,←m2 id' hid'];exact hl') hM hM'
  · intro id hid hl
    have:id<(H lo).next:=Nat.lt_of_lt_of_le hid (k.next 0 lo (Nat.zero_le _) (by omega))
    simp only [this,if_true]
    exact g.gmap id hid (by rw [AH.live,←m2 id this];exact hl)
  · intro i t h1 h2 _ _ _ id h3 h4
    have:=k.next lo i h1 (by omega)
    have:¬ id<(H lo).next:=by omega
    simp [this]
  · intro id kk m hg hm j hj1 hj2 hid el r hr' c v hv
    obtain ⟨hid0,hM⟩:=hin id m hm
    rw [m2 id hid0] at hg
    obtain ⟨c1,c2,c3⟩:=g.sim.cells id kk m hg hM
    obtain ⟨d1,x,d2,d3⟩:=(c3 el r hr').2 c v hv
    exact d3.vb.mono (k.next lo j hj1 (by omega))
theorem GInv.pure_step {ops : Array Oper} {o : Oper} {w' : World} {M' : Mp} {x : Value} (g : GInv M0 B w0 n ts E V' (H 0) K S M w a) {j : Nat} {t : TO} (hj : ts[j]? = some t) (hS : ¬ S j) (hdk : dOk n t.d = true)
    (d3:∀ (i:Nat) (o:TO) (d:Nat),i≠j→ts[i]?=some o→o.d=some d→t.d≠some d) (hdone:Done M B w K (V' j) K x w' M'):GInv M0 B w0 n ts E V' (H 0) K (fun i=>S i∨i=j) M w' (a.put t.d x):=by
  have hM:∀ id,K.live id→M' id=M id:=fun id hl=>hdone.goes.keeps.map id (g.sim.fresh id hl) hl
  have hmv:∀ {v:V} {y:Value},VR M' K v y→VR M K v y:=fun hv=>hv.move (N:=K.next) (Nat.le_refl _) (fun id _ hl=>⟨hl,(hM id hl).symm⟩) hv.vb
  refine g.step hj hS hdk d3 ⟨?_, ?_, ?_, ?_,g.sim.fresh,g.sim.lim,hdone.sim.size⟩ (fun hv=>hv) (hmv hdone.val) g.gmap hdone.below
  · intro id kk m hg hm
    have hl:K.live id:=by simp [AH.live,hg]
    obtain ⟨c1,c2,c3⟩:=hdone.sim.cells id kk m hg (by rw [hM id hl];exact hm)
    refine ⟨c1,c2,fun el r hr=>⟨(c3 el r hr).1,fun c v hv=>?_⟩⟩
    obtain ⟨e1,x,e2,e3⟩:=(c3 el r hr).2 c v hv
    exact ⟨e1,x,e2,hmv e3⟩
  · exact fun id m hl hm ho=>hdone.sim.own id m hl (by rw [hM id hl];exact hm) ho
  · exact fun id m hl hm hlim=>hdone.sim.from_ id m hl (by rw [hM id hl];exact hm) hlim
  · exact fun id id' m m' hl hl' hm hm'=>hdone.sim.apart id id' m m' hl hl' (by rw [hM id hl];exact hm) (by rw [hM id' hl'];exact hm')
theorem QInv.more {lo hi j:Nat} (q:QInv ts H lo hi S M):QInv ts H lo hi (fun i=>S i∨i=j) M:=
  ⟨fun i t h1 h2 ht hp hS=>q.none_ i t h1 h2 ht hp (fun hh=>hS (.inl hh)),q.wf⟩
def lateB (t:TO):Bool:=t.o.late&&t.g.isNone&&t.d.isSome
theorem constP_ev {ps:List (Nat×X)} (h:constP ps=true) (e e':Env):(ps.map fun q=>(q.1,X.ev e q.2))=ps.map fun q=>(q.1,X.ev e' q.2):=by
  refine List.map_congr_left fun q hq=>?_
  simp only [constP,List.all_eq_true] at h
  have:=h q hq
  obtain ⟨i,x⟩:=q
  cases x with
  | c v=>rfl
  | t n=>simp at this
  | fn f=>simp at this
structure LateF (E:Nat→Env) (H:Nat→AH) (V':Nat→V) (p:Nat) (t:TO) (f:Nat→V) (sz:Nat) (r:List (List V)):Prop where
  doo:∀ (e:Env) (h:AH),doOp t.o (X.ev e) h=some (f h.next,h.alloc ⟨sz,r⟩)
  val:V' p=f (H p).next
  shape:(∃ n,∀ i,f i=.sl i 0 n n)∨∀ i,f i=.p i 0 0
  stab:∀ (e:Env) (h:AH) (d id:Nat),Stab e h t→t.d=some d→e d=f id→h.get id=some ⟨sz,r⟩
  next:(H (p+1)).next=(H p).next+1
  get:(H (p+1)).get (H p).next=some ⟨sz,r⟩
theorem late_facts (tr:Trace tp C ts bar lim E H V') {p:Nat} {t:TO} (ht:ts[p]?=some t) (hl:lateB t=true) (hb:bar p=false):∃ f sz r,LateF E H V' p t f sz r:=by
  simp only [lateB,Bool.and_eq_true,Option.isNone_iff_eq_none] at hl
  obtain ⟨⟨hlo,hg⟩,hd⟩:=hl
  have run:∃ q,run1 tp C t.o (X.ev (E p)) (H p).raise=some (V' p,q)∧H (p+1)=q.back lim:=by
    rcases tr.step p t ht with ⟨hw,_,_⟩ | hs
    · rw [hg] at hw;simp [wantedT] at hw
    · rw [if_neg (by rw [hb];simp)] at hs
      rcases hs with ⟨_,h1,_⟩ | ⟨_,_,q,h1,h2⟩
      · cases ho:t.o<;>rw [ho] at hlo h1<;>simp [O.late,isPure] at hlo h1
      · exact ⟨q,h1,h2⟩
  obtain ⟨q,h1,h2⟩:=run
  cases ho:t.o<;>rw [ho] at hlo<;>simp [O.late] at hlo
  case alc z=>
    rw [ho] at h1
    simp only [run1,doOp,Option.some.injEq,Prod.mk.injEq] at h1
    obtain ⟨hv,hq⟩:=h1
    subst hq
    refine ⟨fun i=>.p i 0 0,z.length,[z],fun e h=>by rw [ho];rfl,hv.symm,.inr fun _=>rfl,fun e h d id hst hd' he=>?_,by rw [h2];rfl,by rw [h2];simp [AH.back,AH.alloc,AH.raise]⟩
    obtain ⟨id',q1,q2⟩:=hst.2.2 d z hd' ho
    rw [he] at q1
    simp only [V.p.injEq] at q1
    rw [q1.1];exact q2
  case bslc sz z n ps=>
    rw [ho] at h1
    simp only [run1,doOp,Option.map_eq_some_iff,Prod.mk.injEq] at h1
    obtain ⟨r,hr,hv,hq⟩:=h1
    subst hq
    have row:∀ e:Env,fillE sz (List.replicate n z) (ps.map fun q=>(q.1,X.ev e q.2))=some r:=fun e=>by rw [constP_ev hlo e (E p)];exact hr
    refine ⟨fun i=>.sl i 0 n n,sz,r,fun e h=>by rw [ho];simp only [doOp,row,Option.map_some],hv.symm,.inl ⟨n,fun _=>rfl⟩,fun e h d id hst hd' he=>?_,by rw [h2];rfl,by rw [h2];simp [AH.back,AH.alloc,AH.raise]⟩
    obtain ⟨id',r',q1,q2,q3⟩:=hst.2.1 d sz z n ps hd' ho
    rw [he] at q1
    simp only [V.sl.injEq] at q1
    rw [row] at q2
    simp only [Option.some.injEq] at q2
    subst q2
    rw [q1.1];exact q3
theorem late_get {cl : List Nat} (tr : Trace tp C ts bar lim E H V') (k : Known P n ts bar lim E H V') (hu : ∀ (i j : Nat) (x y : TO) (d : Nat), i ≠ j → ts[i]? = some x → ts[j]? = some y → x.d = some d → y.d ≠ some d)
    (hst:∀ c,bar c=true→∀ j t,j<c→ts[j]?=some t→bar j=false→Unhung cl bar 0 c (0+j) t→Stab (E (c+1)) (H (c+1)) t) {p:Nat} {t:TO} (ht:ts[p]?=some t) (hl:lateB t=true) (hb:bar p=false) {f:Nat→V} {sz:Nat} {r:List (List V)} (F:LateF E H V' p t f sz r):∀ c,p<c→c≤ts.length→(∀ c',c'<c→bar c'=true→(cl.getD c' 0).testBit p=false)→(H c).get (H p).next=some ⟨sz,r⟩:=by
  simp only [lateB,Bool.and_eq_true,Option.isNone_iff_eq_none] at hl
  obtain ⟨d,hd⟩:=Option.isSome_iff_exists.1 hl.2
  intro c
  induction c with
  | zero=>intro h;omega
  | succ c ih=>
    intro h1 h2 hun
    rcases Nat.lt_succ_iff_lt_or_eq.1 h1 with h3 | h3
    · have ihc:=ih h3 (by omega) (fun c' hc'=>hun c' (by omega))
      cases hbc:bar c with
      | true=>
        exact F.stab _ _ d _ (hst c hbc p t h3 ht hb (fun _ c' h4 h5=>by rw [Nat.zero_add,Nat.zero_add];exact hun c' (by omega) h5)) hd (by rw [slot_of tr hu ht hd (by omega) h2,F.val])
      | false=>
        have hn:=F.next
        have:=k.next (p+1) c (by omega) (by omega)
        rw [k.qget c (by omega) hbc _ (by omega)]
        exact ihc
    · subst h3;exact F.get
theorem late_vb (tr : Trace tp C ts bar lim E H V') (k : Known P n ts bar lim E H V') (hu : ∀ (i j : Nat) (x y : TO) (d : Nat), i ≠ j → ts[i]? = some x → ts[j]? = some y → x.d = some d → y.d ≠ some d) {p : Nat} {t : TO} (ht : ts[p]? = some t) (hl : lateB t = true) {f : Nat → V} {sz : Nat} {r : List (List V)} (F : LateF E H V' p t f sz r) :
    ∀ (el:Nat) (row:List V),r[el]?=some row→∀ (c:Nat) (v:V),row[c]?=some v→VB (H (p+1)).next v:=by
  simp only [lateB,Bool.and_eq_true,Option.isNone_iff_eq_none] at hl
  obtain ⟨d,hd⟩:=Option.isSome_iff_exists.1 hl.2
  have hpl:=(List.getElem?_eq_some_iff.1 ht).1
  obtain ⟨M',B',w',a',hr'⟩:=k.rel (p+1) (by omega)
  have hv:=hr'.env d
  rw [slot_of tr hu ht hd (by omega) (by omega),F.val] at hv
  intro el row hrow c v hcv
  generalize a'.tmps.getD d undef=y at hv
  have key:∃ m,M' (H p).next=some m:=by
    rcases F.shape with ⟨nn,hf⟩ | hf
    · rw [hf] at hv
      cases hv with
      | sl _ _ _ _ a rc h1 h2 h3=>
        obtain ⟨m,hm,_⟩:=h3 (by simp [AH.live,F.get])
        exact ⟨m,hm⟩
    · rw [hf] at hv
      cases hv with
      | p _ _ _ a h1 h3=>
        obtain ⟨m,hm,_⟩:=h3 (by simp [AH.live,F.get])
        exact ⟨m,hm⟩
  obtain ⟨m,hm⟩:=key
  obtain ⟨_,_,c3⟩:=hr'.sim.cells _ _ m F.get hm
  obtain ⟨_,x,_,e3⟩:=(c3 el row hrow).2 c v hcv
  exact e3.vb
theorem GInv.late {H0 : AH} (g : GInv M0 B w0 n ts E V' H0 K S M w a) {j : Nat} {t : TO} (hj : ts[j]? = some t) (hS : ¬ S j) (hdk : dOk n t.d = true)
    (d3:∀ (i:Nat) (o:TO) (d:Nat),i≠j→ts[i]?=some o→o.d=some d→t.d≠some d) {id sz:Nat} {f:Nat→V} {r:List (List V)} (hf:(∃ n,∀ i,f i=.sl i 0 n n)∨∀ i,f i=.p i 0 0) (hK:K.get id=some ⟨sz,r⟩) (hno:M id=none) (h0:H0.next≤id) (hV:V' j=f id)
    (hvb:∀ (el:Nat) (row:List V),r[el]?=some row→∀ (c:Nat) (v:V),row[c]?=some v→VB K.next v) {x:Value} {w':World} {M':Mp} (hdone:Done M B w K (f K.next) (K.alloc ⟨sz,r⟩) x w' M'):
    ∃ M2,GInv M0 B w0 n ts E V' H0 K (fun i=>S i∨i=j) M2 w' (a.put t.d x)∧(∀ i,i≠id→M2 i=M i)∧∀ m,M2 id=some m→M' K.next=some m:=by
  have hid:id<K.next:=g.sim.fresh id (by simp [AH.live,hK])
  let M2:Mp:=fun i=>if i=id then M' K.next else M i
  have h2id:M2 id=M' K.next:=by simp [M2]
  have h2ne:∀ i,i≠id→M2 i=M i:=fun i hi=>by simp [M2,hi]
  have hget:∀ i,i<K.next→(K.alloc ⟨sz,r⟩).get i=K.get i:=fun i hi=>by
    have:i≠K.next:=by omega
    simp [AH.alloc,this]
  have hnew:(K.alloc ⟨sz,r⟩).get K.next=some ⟨sz,r⟩:=by simp [AH.alloc]
  have hM':∀ i,i<K.next→K.live i→M' i=M i:=fun i hi hl=>hdone.goes.keeps.map i hi (by rw [AH.live,hget i hi];exact hl)
  have hmv:∀ {v:V} {y:Value},VR M' (K.alloc ⟨sz,r⟩) v y→VB K.next v→VR M2 K v y:=fun hv hb=>
    (hv.move (h2:=K) (M':=M') (N:=K.next) (Nat.le_refl _) (fun i hi hl=>⟨by rw [AH.live,hget i hi];exact hl,rfl⟩) hb).remap fun i m hl hm=>by
      have hi:=g.sim.fresh i hl
      rw [hM' i hi hl] at hm
      rw [h2ne i (by rintro rfl;rw [hno] at hm;cases hm)];exact hm
  have hext:∀ {v:V} {y:Value},VR M K v y→VR M2 K v y:=fun hv=>hv.remap fun i m hl hm=>by
    rw [h2ne i (by rintro rfl;rw [hno] at hm;cases hm)];exact hm
  have up:∀ i m,K.live i→M2 i=some m→∃ i',(K.alloc ⟨sz,r⟩).live i'∧M' i'=some m∧(K.alloc ⟨sz,r⟩).get i'=K.get i∧(i=id→i'=K.next)∧(i≠id→i'=i):=fun i m hl hm=>by
    by_cases he:i=id
    · subst he
      exact ⟨K.next,by simp [AH.live,hnew],by rw [← h2id];exact hm,by rw [hnew,hK],fun _=>rfl,fun h=>absurd rfl h⟩
    · have hi:=g.sim.fresh i hl
      exact ⟨i,by rw [AH.live,hget i hi];exact hl,by rw [hM' i hi hl,←h2ne i he];exact hm,hget i hi,fun h=>absurd h he,fun _=>rfl⟩
  have hlim:(K.alloc ⟨sz,r⟩).lim=K.lim:=rfl
  refine ⟨M2,g.step hj hS hdk d3 ⟨?_, ?_, ?_, ?_,g.sim.fresh,g.sim.lim,hdone.sim.size⟩ hext ?_ ?_ hdone.below,h2ne,fun m hm=>by rw [← h2id];exact hm⟩
  · intro i kk m hg hm
    have hl:K.live i:=by simp [AH.live,hg]
    obtain ⟨i',q1,q2,q3,q4,q5⟩:=up i m hl hm
    obtain ⟨c1,c2,c3⟩:=hdone.sim.cells i' kk m (by rw [q3];exact hg) q2
    refine ⟨c1,c2,fun el row hr=>⟨(c3 el row hr).1,fun c v hv=>?_⟩⟩
    obtain ⟨e1,y,e2,e3⟩:=(c3 el row hr).2 c v hv
    refine ⟨e1,y,e2,hmv e3 ?_⟩
    by_cases he:i=id
    · subst he
      rw [hK] at hg
      simp only [Option.some.injEq] at hg
      subst hg
      exact hvb el row hr c v hv
    · rw [h2ne i he] at hm
      obtain ⟨_,_,c3⟩:=g.sim.cells i kk m hg hm
      obtain ⟨_,_,_,e3⟩:=(c3 el row hr).2 c v hv
      exact e3.vb
  · intro i m hl hm ho
    obtain ⟨i',q1,q2,q3,q4,q5⟩:=up i m hl hm
    exact hdone.sim.own i' m q1 q2 ho
  · intro i m hl hm hnl
    obtain ⟨i',q1,q2,q3,q4,q5⟩:=up i m hl hm
    refine hdone.sim.from_ i' m q1 q2 ?_
    rw [hlim]
    by_cases he:i=id
    · rw [q4 he];have:=g.sim.lim;omega
    · rw [q5 he];exact hnl
  · intro i i2 m m2 hl hl2 hm hm2 hne
    obtain ⟨i',q1,q2,q3,q4,q5⟩:=up i m hl hm
    obtain ⟨i2',r1,r2,r3,r4,r5⟩:=up i2 m2 hl2 hm2
    have f1:=g.sim.fresh i hl
    have f2:=g.sim.fresh i2 hl2
    refine hdone.sim.apart i' i2' m m2 q1 r1 q2 r2 ?_
    intro he
    by_cases ha:i=id
    · by_cases hb:i2=id
      · exact hne (ha.trans hb.symm)
      · rw [q4 ha,r5 hb] at he;omega
    · by_cases hb:i2=id
      · rw [q5 ha,r4 hb] at he;omega
      · rw [q5 ha,r5 hb] at he;exact hne he
  · rw [hV]
    have hx:=hdone.val
    rcases hf with ⟨nn,hf⟩ | hf
    · rw [hf] at hx ⊢
      cases hx with
      | sl _ _ _ _ aa rc h1 h2 h3=>
        obtain ⟨m,hm,q⟩:=h3 (by simp [AH.live,hnew])
        exact .sl id 0 nn nn aa rc hid h2 fun _=>⟨m,by rw [h2id];exact hm,q⟩
    · rw [hf] at hx ⊢
      cases hx with
      | p _ _ _ aa h1 h3=>
        obtain ⟨m,hm,q⟩:=h3 (by simp [AH.live,hnew])
        exact .p id 0 0 aa hid fun _=>⟨m,by rw [h2id];exact hm,q⟩
  · intro i hi hl
    rw [h2ne i (by omega)]
    exact g.gmap i hi hl
theorem QInv.late {lo hi : Nat} (k : Known P n ts bar lim E H V') (hhi : hi ≤ ts.length) (q : QInv ts H lo hi S M) {j : Nat} (hj : j < lo) {sz : Nat} {r : List (List V)} (hn : (H (j + 1)).next = (H j).next + 1) (hK : (H hi).get (H j).next = some ⟨sz, r⟩)
    (hvb:∀ (el:Nat) (row:List V),r[el]?=some row→∀ (c:Nat) (v:V),row[c]?=some v→VB (H (j+1)).next v) {M2:Mp} (h2:∀ i,i≠(H j).next→M2 i=M i):QInv ts H lo hi (fun i=>S i∨i=j) M2:=by
  refine ⟨fun i t h1 h3 ht hp hS id h4 h5=>?_,fun id kk m hg hm j' hj1 hj2 hid el row hr c v hv=>?_⟩
  · have:=k.next (j+1) lo (by omega) (by omega)
    have:=k.next lo i h1 (by omega)
    rw [h2 id (by omega)]
    exact q.none_ i t h1 h3 ht hp (fun h=>hS (.inl h)) id h4 h5
  · by_cases he:id=(H j).next
    · subst he
      rw [hK] at hg
      simp only [Option.some.injEq] at hg
      subst hg
      exact (hvb el row hr c v hv).mono (k.next (j+1) j' (by omega) (by omega))
    · rw [h2 id he] at hm
      exact q.wf id kk m hg hm j' hj1 hj2 hid el row hr c v hv
theorem QInv.put {lo hi : Nat} (k : Known P n ts bar lim E H V') (hb : ∀ i, lo ≤ i → i < hi → bar i = false) (hhi : hi ≤ ts.length) (g : GInv M0 B w0 n ts E V' (H 0) (H hi) S M w a) (q : QInv ts H lo hi S M) {j : Nat} {t : TO} (h1j : lo ≤ j) (h2j : j < hi) (hj : ts[j]? = some t)
    (hnp:isPure t.o=false) (hS:¬ S j) (hdk:dOk n t.d=true) (d3:∀ (i:Nat) (o:TO) (d:Nat),i≠j→ts[i]?=some o→o.d=some d→t.d≠some d) {qq:AH} {x:Value} {w':World} {M':Mp}
    (hH:H (j+1)=qq.back lim) (hdone:Done M w.heap.size w (H j).raise (V' j) qq x w' M'):
    ∃ M2,GInv M0 B w0 n ts E V' (H 0) (H hi) (fun i=>S i∨i=j) M2 w' (a.put t.d x)∧QInv ts H lo hi (fun i=>S i∨i=j) M2∧∀ id,¬ ((H j).next≤id∧id<(H (j+1)).next)→M2 id=M id:=by
  have m1:=k.next (j+1) hi (by omega) hhi
  have m2:=k.gets hb hhi (j+1) hi (by omega) (by omega) (Nat.le_refl _)
  have l1:=k.next j (j+1) (by omega) (by omega)
  have hqn:(H (j+1)).next=qq.next:=by rw [hH];rfl
  have hqg:∀ id,(H (j+1)).get id=qq.get id:=fun id=>by rw [hH];rfl
  let M2:Mp:=fun id=>if (H j).next≤id∧id<(H (j+1)).next then M' id else M id
  have hM2in:∀ id,(H j).next≤id→id<(H (j+1)).next→M2 id=M' id:=fun id h1 h2=>by simp [M2,h1,h2]
  have hM2out:∀ id,¬ ((H j).next≤id∧id<(H (j+1)).next)→M2 id=M id:=fun id h1=>by simp [M2,h1]
  have hlive:∀ id,id<qq.next→((H hi).live id↔qq.live id):=fun id hid=>by
    rw [AH.live,AH.live,m2 id (by omega),hqg]
  have hM':∀ id,id<(H j).next→qq.live id→M' id=M id:=fun id hid hl=>hdone.goes.keeps.map id hid hl
  have T1:∀ {v:V} {y:Value},VR M' qq v y→VR M2 (H hi) v y:=fun hv=>
    hv.move (N:=qq.next) (by omega) (fun id hid hl=>⟨(hlive id hid).1 hl,by
      by_cases h1:(H j).next≤id
      · exact hM2in id h1 (by omega)
      · rw [hM2out id (by omega),hM' id (by omega) ((hlive id hid).1 hl)]⟩) hv.vb
  have hext:∀ id m,M id=some m→M2 id=some m:=fun id m hm=>by
    rw [hM2out id (fun hh=>?_)];exact hm
    have:=q.none_ j t h1j h2j hj hnp hS id hh.1 hh.2
    rw [hm] at this;cases this
  have T2:∀ {v:V} {y:Value},VR M (H hi) v y→VR M2 (H hi) v y:=fun hv=>hv.remap (fun id m _ hm=>hext id m hm)
  have hblk:∀ b,b<w.heap.size→w'.heap[b]?=w.heap[b]?:=hdone.below.block
  have hcase:∀ id m,M2 id=some m→((H j).next≤id∧id<(H (j+1)).next∧M' id=some m)∨(¬ ((H j).next≤id∧id<(H (j+1)).next)∧M id=some m):=fun id m hm=>by
    by_cases h1:(H j).next≤id∧id<(H (j+1)).next
    · exact .inl ⟨h1.1,h1.2,by rw [← hM2in id h1.1 h1.2];exact hm⟩
    · exact .inr ⟨h1,by rw [← hM2out id h1];exact hm⟩
  have hqlim:qq.lim=(H j).next:=hdone.goes.lim
  have hBw:B≤w.heap.size:=g.sim.size
  have hbold:∀ id m,(H hi).live id→M id=some m→m.b<w.heap.size:=fun id m hl hm=>by
    obtain ⟨kk,hkk⟩:=Option.ne_none_iff_exists'.1 hl
    exact (g.sim.cells id kk m hkk hm).1
  refine ⟨M2,g.step hj hS hdk d3 ⟨?_, ?_, ?_, ?_,g.sim.fresh,g.sim.lim,Nat.le_trans hBw hdone.below.size⟩ T2 (T1 hdone.val) ?_ (hdone.below.mono hBw),⟨?_, ?_⟩,hM2out⟩
  · intro id kk m hg hm
    rcases hcase id m hm with ⟨h1,h2,h3⟩ | ⟨h1,h3⟩
    · have hg':qq.get id=some kk:=by rw [← hqg,←m2 id (by omega)];exact hg
      obtain ⟨c1,c2,c3⟩:=hdone.sim.cells id kk m hg' h3
      refine ⟨c1,c2,fun el r hr=>⟨(c3 el r hr).1,fun c v hv=>?_⟩⟩
      obtain ⟨e1,x,e2,e3⟩:=(c3 el r hr).2 c v hv
      exact ⟨e1,x,e2,T1 e3⟩
    · obtain ⟨c1,c2,c3⟩:=g.sim.cells id kk m hg h3
      refine ⟨Nat.lt_of_lt_of_le c1 hdone.below.size,c2,fun el r hr=>⟨(c3 el r hr).1,fun c v hv=>?_⟩⟩
      obtain ⟨e1,x,e2,e3⟩:=(c3 el r hr).2 c v hv
      exact ⟨e1,x,(cell_of_heap (a:=⟨m.b,_,none⟩) (hblk m.b c1)).trans e2,T2 e3⟩
  · intro id m hl hm ho
    rcases hcase id m hm with ⟨h1,h2,h3⟩ | ⟨h1,h3⟩
    · exact hdone.sim.own id m ((hlive id (by omega)).1 hl) h3 ho
    · obtain ⟨arr,e,fr,c1,c2⟩:=g.sim.own id m hl h3 ho
      exact ⟨arr,e,fr,(hblk m.b (hbold id m hl h3)).trans c1,c2⟩
  · intro id m hl hm hlim
    rcases hcase id m hm with ⟨h1,h2,h3⟩ | ⟨h1,h3⟩
    · have:=hdone.sim.from_ id m ((hlive id (by omega)).1 hl) h3 (by rw [hqlim];exact h1)
      exact ⟨this.1,Nat.le_trans hBw this.2⟩
    · exact g.sim.from_ id m hl h3 hlim
  · intro id id' m m' hl hl' hm hm' hne ho
    rcases hcase id m hm with ⟨h1,h2,h3⟩ | ⟨h1,h3⟩<;>rcases hcase id' m' hm' with ⟨h1',h2',h3'⟩ | ⟨h1',h3'⟩
    · exact hdone.sim.apart id id' m m' ((hlive id (by omega)).1 hl) ((hlive id' (by omega)).1 hl') h3 h3' hne ho
    · have:=(hdone.sim.from_ id m ((hlive id (by omega)).1 hl) h3 (by rw [hqlim];exact h1)).2
      have:=hbold id' m' hl' h3'
      omega
    · have:=(hdone.sim.from_ id' m' ((hlive id' (by omega)).1 hl') h3' (by rw [hqlim];exact h1')).2
      have:=hbold id m hl h3
      omega
    · exact g.sim.apart id id' m m' hl hl' h3 h3' hne ho
  · intro id hid hl
    have:=k.next 0 j (Nat.zero_le _) (by omega)
    rw [hM2out id (by omega)]
    exact g.gmap id hid hl
  · intro i t' h1 h2 ht hp hnS id h3 h4
    have hnSi:¬ S i:=fun hh=>hnS (.inl hh)
    have hij:i≠j:=fun hh=>hnS (.inr hh)
    have hn:=q.none_ i t' h1 h2 ht hp hnSi id h3 h4
    rw [hM2out id (fun hh=>?_)];exact hn
    rcases Nat.lt_or_ge i j with h5 | h5
    · have:=k.next (i+1) j (by omega) (by omega)
      omega
    · have:=k.next (j+1) i (by omega) (by omega)
      omega
  · intro id kk m hg hm j' hj1 hj2 hid el r hr c v hv
    rcases hcase id m hm with ⟨h1,h2,h3⟩ | ⟨h1,h3⟩
    · have hg':qq.get id=some kk:=by rw [← hqg,←m2 id (by omega)];exact hg
      obtain ⟨c1,c2,c3⟩:=hdone.sim.cells id kk m hg' h3
      obtain ⟨e1,y,e2,e3⟩:=(c3 el r hr).2 c v hv
      have hjj:j+1≤j':=by
        rcases Nat.lt_or_ge j j' with h4 | h4
        · omega
        · have:=k.next j' j h4 (by omega)
          omega
      exact e3.vb.mono (by rw [← hqn];exact k.next (j+1) j' hjj (by omega))
    · exact q.wf id kk m hg h3 j' hj1 hj2 hid el r hr c v hv
end
end Go.Ab
/- A region that draws its order: every order, piece by piece. -/
namespace Go.Ab
open Go Go.RowKit
section
variable {P:Program}
theorem compOs_get {n:Nat} {fl:List Nat} {ops:Array Oper}:∀ {l:List Oper} {ts:List TO},compOs P n fl ops l=some ts→l.length=ts.length∧∀ (i:Nat) (o:Oper) (t:TO),l[i]?=some o→ts[i]?=some t→compO P n fl ops o=some t
  | [],ts,hc=>by simp [compOs] at hc;subst hc;exact ⟨rfl,fun i o t h=>by simp at h⟩
  | o::l,ts,hc=>by
    simp only [compOs,Option.bind_eq_some_iff,Option.map_eq_some_iff] at hc
    obtain ⟨t,ht,ts',hts,rfl⟩:=hc
    obtain ⟨h1,h2⟩:=compOs_get hts
    refine ⟨by simp [h1],fun i o' t' ho ht'=>?_⟩
    cases i with
    | zero=>
      simp at ho ht'
      subst ho;subst ht'
      exact ht
    | succ i=>exact h2 i o' t' (by simpa using ho) (by simpa using ht')
theorem segsOf_flat (wr:Wr):∀ (l:List (Oper×TO)),((segsOf wr l).map (·.2)).flatten=l.map (·.2)
  | []=>rfl
  | (o,t)::r=>by
    have ih:=segsOf_flat wr r
    simp only [segsOf]
    split
    · simp [ih]
    · split
      · rename_i ll s hs
        rw [hs] at ih
        simp at ih
        simp [ih]
      · simp [ih]
def unl (n:Nat) (L:Array Bool):Nat:=((List.range n).filter fun i=>!L.getD i true).length
theorem unl_set {n i:Nat} {L:Array Bool} (hi:i<n) (hs:L.size=n) (hf:L.getD i true=false):unl n (L.setIfInBounds i true)+1=unl n L:=by
  unfold unl
  have key:∀ (l:List Nat),l.Nodup→i∈l→(l.filter fun j=>!(L.setIfInBounds i true).getD j true).length+1=(l.filter fun j=>!L.getD j true).length:=by
    intro l
    induction l with
    | nil=>intro _ h;simp at h
    | cons j l ih=>
      intro hnd hmem
      have hnd':=List.nodup_cons.1 hnd
      by_cases hji:j=i
      · subst hji
        have h1:(L.setIfInBounds j true).getD j true=true:=by
          rw [Array.getD_eq_getD_getElem?]
          simp [Array.getElem?_setIfInBounds_self_of_lt (by omega:j<L.size)]
        have h2:(l.filter fun k=>!(L.setIfInBounds j true).getD k true)=l.filter fun k=>!L.getD k true:=by
          apply List.filter_congr
          intro k hk
          have:j≠k:=fun hh=>hnd'.1 (hh▸hk)
          rw [getD_set_ne true this]
        rw [List.filter_cons,List.filter_cons]
        simp only [h1,hf,Bool.not_true,Bool.not_false,if_true,if_false,Bool.false_eq_true,h2,List.length_cons]
      · have hmem':i∈l:=by simpa [Ne.symm hji] using hmem
        have:=ih hnd'.2 hmem'
        have he:(L.setIfInBounds i true).getD j true=L.getD j true:=getD_set_ne true (Ne.symm hji)
        rw [List.filter_cons,List.filter_cons,he]
        split
        · simp only [List.length_cons];omega
        · exact this
  exact key _ List.nodup_range (by simpa using hi)
theorem unl_zero {n:Nat} {L:Array Bool} (h:unl n L=0):∀ i,i<n→L.getD i true=true:=by
  intro i hi
  unfold unl at h
  have:=List.length_eq_zero_iff.1 h
  rw [List.filter_eq_nil_iff] at this
  have:=this i (by simpa using hi)
  simpa using this
theorem getD_false_of {L:Array Bool} {i:Nat} (h:L.getD i true=false):L.getD i false=false:=by
  rw [Array.getD_eq_getD_getElem?] at *
  cases hh:L[i]? with
  | none=>rfl
  | some b=>rw [hh] at h;simpa using h
theorem getD_true_iff {L:Array Bool} {i:Nat} (hi:i<L.size):L.getD i false=L.getD i true:=by
  rw [Array.getD_eq_getD_getElem?,Array.getD_eq_getD_getElem?,Array.getElem?_eq_getElem hi];rfl
variable {C:Oracle} {tp:TP} {n:Nat} {fl:List Nat} {ops:Array Oper} {ts:List TO} {Q:Exit→Act→World→Prop}
def LClosed (ops:Array Oper) (L:Array Bool):Prop:=Closed ops (fun i=>L.getD i false=true)
theorem LClosed.set {L:Array Bool} (h:LClosed ops L) {i:Nat} {o:Oper} (ho:ops[i]?=some o) (hd:∀ e∈o.after,Region.binds .any e=true→L.getD e.on false=true):LClosed ops (L.setIfInBounds i true):=by
  intro j oj hoj hj e he hb
  by_cases hji:i=j
  · subst hji
    rw [ho] at hoj
    simp only [Option.some.injEq] at hoj
    subst hoj
    exact getD_set_true (hd e (by simpa using he) hb)
  · rw [getD_set_ne false hji] at hj
    exact getD_set_true (h j oj hoj hj e he hb)
theorem ready_least {L:Array Bool} (hE:edgesOk ops=true) (hs:L.size=ops.size) {i:Nat} (hi:i<ops.size) (hf:L.getD i true=false) (hlow:∀ j,j<i→L.getD j true=true):i∈Region.ready .any ops L:=by
  refine mem_ready.2 ⟨hf,ops[i],by simp [hi],fun e he hb=>?_⟩
  simp only [edgesOk,List.all_eq_true] at hE
  have:=hE i (by simpa using hi)
  simp only [Array.getElem?_eq_getElem hi,List.all_eq_true] at this
  have:=this e (by simpa using he)
  simp only [hb,Bool.not_true,Bool.false_or,decide_eq_true_eq] at this
  rw [getD_true_iff (by omega)]
  exact hlow e.on this
theorem GInv.congr {M0 M:Mp} {B:Nat} {w0 w:World} {E:Nat→Env} {V':Nat→V} {H0 K:AH} {S S':Nat→Prop} {a:Act} (g:GInv M0 B w0 n ts E V' H0 K S M w a) (h:∀ i,S i↔S' i):GInv M0 B w0 n ts E V' H0 K S' M w a:=
  ⟨g.sim,fun t ht=>g.env1 t (fun i o ho hod hS=>ht i o ho hod ((h i).1 hS)),fun i o ho hS t hod=>g.env2 i o ho ((h i).2 hS) t hod,g.gmap,g.below,g.size,g.defers⟩
theorem QInv.congr {H:Nat→AH} {lo hi:Nat} {S S':Nat→Prop} {M:Mp} (q:QInv ts H lo hi S M) (h:∀ i,S i↔S' i):QInv ts H lo hi S' M:=
  ⟨fun i t h1 h2 ht hp hS=>q.none_ i t h1 h2 ht hp (fun hh=>hS ((h i).1 hh)),q.wf⟩
structure Facts (P:Program) (n:Nat) (fl:List Nat) (ops:Array Oper) (ts:List TO) (L:Array Bool) (j:Nat) (o:Oper) (t:TO):Prop where
  ho:ops[j]?=some o
  ht:ts[j]?=some t
  hc:compO P n fl ops o=some t
  hS:¬ (L.getD j true=true)
  dir:∀ e∈o.after,Region.binds .any e=true→L.getD e.on false=true
  d1:∀ (i:Nat) (x:TO) (sl:Nat),i<j→ts[i]?=some x→x.d=some sl→sl∈t.slots→L.getD i true=true
  d2:∀ (i:Nat) (x:TO) (sl:Nat),j<i→ts[i]?=some x→x.d=some sl→sl∈t.slots→¬ (L.getD i true=true)
  d3:∀ (i:Nat) (x:TO) (d:Nat),i≠j→ts[i]?=some x→x.d=some d→t.d≠some d
  anc:∀ i,((clo ops.toList).getD j 0).testBit i=true→i<ops.size→L.getD i true=true
theorem pair_uniq {cl:List Nat} (hp:pairOk cl ts=true) (i j:Nat) (x y:TO) (d:Nat) (hij:i≠j) (hx:ts[i]?=some x) (hy:ts[j]?=some y) (hd:x.d=some d):y.d≠some d:=by
  simp only [pairOk,List.all_eq_true] at hp
  have:=hp i (by simpa using (List.getElem?_eq_some_iff.1 hx).1) j (by simpa using (List.getElem?_eq_some_iff.1 hy).1)
  simp only [hx,hy,hd,Bool.or_eq_true,beq_iff_eq,Bool.and_eq_true,bne_iff_ne,ne_eq] at this
  exact (this.resolve_left hij).1
theorem facts_of (hc:compOs P n fl ops ops.toList=some ts) (hp:pairOk (clo ops.toList) ts=true) {L:Array Bool} (hLs:L.size=ops.size) (hLc:LClosed ops L) {j:Nat} (hj:j∈Region.ready .any ops L):∃ o t,Facts P n fl ops ts L j o t:=by
  have hlen:ops.size=ts.length:=by have:=(compOs_get hc).1;simpa using this
  obtain ⟨hif,o,ho,hdir⟩:=mem_ready.1 hj
  have hlt:=(Array.getElem?_eq_some_iff.1 ho).1
  have ht:ts[j]?=some ts[j]:=List.getElem?_eq_getElem (by omega)
  have pair:∀ (i j:Nat) (x y:TO) (d:Nat),i≠j→ts[i]?=some x→ts[j]?=some y→x.d=some d→y.d≠some d∧(d∈y.slots→if i<j then ((clo ops.toList).getD j 0).testBit i=true else ((clo ops.toList).getD i 0).testBit j=true):=by
    intro i j x y d hij hx hy hd
    simp only [pairOk,List.all_eq_true] at hp
    have hi:=(List.getElem?_eq_some_iff.1 hx).1
    have hj:=(List.getElem?_eq_some_iff.1 hy).1
    have:=hp i (by simpa using hi) j (by simpa using hj)
    simp only [hx,hy,hd,Bool.or_eq_true,beq_iff_eq,Bool.and_eq_true,bne_iff_ne,ne_eq] at this
    rcases this with h1 | ⟨h1,h2⟩
    · exact absurd h1 hij
    · refine ⟨h1,fun hsl=>?_⟩
      rcases h2 with h2 | h2
      · simp [hsl] at h2
      · split
        · rename_i hlt;rw [if_pos hlt] at h2;exact h2
        · rename_i hlt;rw [if_neg hlt] at h2;exact h2
  have dirL:∀ e∈o.after.toList,Region.binds .any e=true→L.getD e.on false=true:=fun e he hb=>hdir e (by simpa using he) hb
  have anc:∀ i,((clo ops.toList).getD j 0).testBit i=true→i<ops.size→L.getD i true=true:=fun i hb hi=>by
    have:=clo_reach hLc j i o ho dirL hb
    rw [getD_true_iff (by omega)] at this
    exact this
  refine ⟨o,ts[j],ho,ht,(compOs_get hc).2 j o _ (by simpa using ho) ht,by rw [hif];simp,hdir,fun i x sl hij hx hd hsl=>?_,fun i x sl hij hx hd hsl hSi=>?_,fun i x d hij hx hd=>(pair i j x ts[j] d hij hx ht hd).1,anc⟩
  · have:=(pair i j x ts[j] sl (by omega) hx ht hd).2 hsl
    rw [if_pos hij] at this
    exact anc i this (by omega)
  · have hil:=(List.getElem?_eq_some_iff.1 hx).1
    have hb:=(pair i j x ts[j] sl (by omega) hx ht hd).2 hsl
    rw [if_neg (by omega)] at hb
    have hio:ops[i]?=some ops[i]:=by simp
    have hLi:L.getD i false=true:=by rw [getD_true_iff (by omega)];exact hSi
    have:=clo_reach hLc i j ops[i] hio (fun e he hb=>hLc i _ hio hLi e he hb) hb
    rw [getD_true_iff (by omega),hif] at this;cases this
theorem listed_iff {L:Array Bool} {j:Nat} (hj:j<L.size) (i:Nat):(L.getD i true=true∨i=j)↔(L.setIfInBounds j true).getD i true=true:=by
  by_cases hij:i=j
  · subst hij
    rw [Array.getD_eq_getD_getElem?,Array.getD_eq_getD_getElem?]
    simp [Array.getElem?_setIfInBounds_self_of_lt hj]
  · rw [getD_set_ne true (Ne.symm hij)]
    simp [hij]
def seen (E:Env) (t:TO):Env:=fun s=>if s∈t.o.slots then E s else .u
theorem seen_env {M:Mp} {K:AH} {e:Env} {a:Act} {t:TO} (h:∀ sl∈t.slots,VR M K (e sl) (a.tmps.getD sl undef)):EnvR M K (seen e t) a:=fun s=>by
  by_cases hs:s∈t.o.slots
  · simp only [seen,hs,if_true]
    exact h s (by simp [TO.slots,hs])
  · simp only [seen,hs,if_false];exact .u _
theorem seen_agree (e:Env) (t:TO):Agree (seen e t) e t.o.slots:=fun s hs=>by simp [seen,hs]
section
variable {M0:Mp} {B:Nat} {w0:World} {bar:Nat→Bool} {lim:Nat} {E:Nat→Env} {H:Nat→AH} {V':Nat→V}
theorem pure_go (tr : Trace tp C ts bar lim E H V') (k : Known P n ts bar lim E H V') (hbp : ∀ j t, ts[j]? = some t → bar j = true → isPure t.o = false) {L : Array Bool} {j : Nat} {o : Oper} {t : TO} (f : Facts P n fl ops ts L j o t) (hpure : isPure t.o = true) {c : Nat} (hc : c ≤ ts.length) {cl : List Nat} (hfa : ∀ {j : Nat} {t : TO}, ts[j]? = some t → t.o.fl = true → bar j = false → wantedT (E j) t.g = some true → ∀ c, j < c → c ≤ ts.length → (∀ c', c' < c → bar c' = true → (cl.getD c' 0).testBit j = false) → doOp t.o (X.ev (E j)) (H c) = some (V' j, H c)) (hun : ∀ c', c' < c → bar c' = true → (cl.getD c' 0).testBit j = false) (hjc : t.o.fl = true → j < c) {M : Mp} {w : World} {a : Act}
    (g:GInv M0 B w0 n ts E V' (H 0) (H c) (fun i=>L.getD i true=true) M w a) {K:Act→World→Prop} (hK:∀ a' w',GInv M0 B w0 n ts E V' (H 0) (H c) (fun i=>L.getD i true=true∨i=j) M w' a'→K a' w'):wpOp P ops Q j K a w:=by
  have hlook:=g.look tr f.ht f.hS f.d1 f.d2
  obtain ⟨⟨ro,hcc,hdr,hrr⟩,hg,hd,hdk,hlt⟩:=compO_some f.hc
  have hjl:j<ts.length:=(List.getElem?_eq_some_iff.1 f.ht).1
  have hwant:∀ {b:Bool},wantedT (E j) t.g=some b→Region.wanted o (yielded ops a.tmps)=b:=fun hw=>wanted_sound (P:=P) (M:=M) (h:=H c) f.hc (fun s x hs=>hlook s (by simp [TO.slots,hs])) g.size hw
  unfold wpOp
  simp only [f.ho]
  rcases tr.step j t f.ht with ⟨hw,hv,hH⟩ | hst
  · rw [hwant hw]
    simp only [Bool.false_eq_true,if_false]
    refine hK _ _ ?_
    rw [← hd]
    exact g.step f.ht f.hS (by rw [hd];exact hdk) f.d3 g.sim (fun hv=>hv) (by rw [hv];exact .tup _ _ .nil) g.gmap (Below.refl B w)
  · by_cases hb:bar j=true
    · have:=hbp j t f.ht hb
      rw [hpure] at this;cases this
    · rw [if_neg hb] at hst
      rcases hst with ⟨hw,hp,hal,hq,hH⟩ | ⟨hw,hp,q,hq,hH⟩
      · rw [hwant hw]
        simp only [if_true]
        left
        have hq2:doOp t.o (X.ev (E j)) (H c)=some (V' j,H c):=by
          cases hfl:t.o.fl with
          | true=>exact hfa f.ht hfl (by simpa using hb) hw c (hjc hfl) hc hun
          | false=>exact pure_any (h2:=H c) hfl hp hal hq (sizes k (by omega) hc)
        have hcall:run1 tp C t.o (X.ev (seen (E j) t)) (H c)=some (V' j,H c):=by
          rw [run1_congr t.o (seen_agree (E j) t)]
          have:run1 tp C t.o (X.ev (E j)) (H c)=doOp t.o (X.ev (E j)) (H c):=by
            cases ht:t.o<;>rw [ht] at hp<;>simp [isPure] at hp<;>rfl
          rw [this];exact hq2
        have hdo:doOp t.o (X.ev (seen (E j) t)) (H c)=some (V' j,H c):=by
          have:run1 tp C t.o (X.ev (seen (E j) t)) (H c)=doOp t.o (X.ev (seen (E j) t)) (H c):=by
            cases ht:t.o<;>rw [ht] at hp<;>simp [isPure] at hp<;>rfl
          rw [← this];exact hcall
        obtain ⟨x,w',M',hrun,hdone⟩:=op_sound (seen_env hlook) g.sim trivial hcc ((hdr _ _).symm.trans hdo)
        have key:=g.pure_step (ops:=ops) (o:=o) f.ht f.hS (by rw [hd];exact hdk) f.d3 hdone
        unfold Oper.wp
        rcases hrun with hrun | ⟨hrun,rfl⟩
        · rw [hrun];simp only [Oper.upon_value];rw [← hd];exact hK _ _ key
        · rw [hrun];simp only [Oper.upon_skip];rw [← hd];exact hK _ _ key
      · rw [hpure] at hp;cases hp
theorem late_go (tr:Trace tp C ts bar lim E H V') (k:Known P n ts bar lim E H V') (hp:pairOk (clo ops.toList) ts=true) (hst:∀ c,bar c=true→∀ j t,j<c→ts[j]?=some t→bar j=false→Unhung (clo ops.toList) bar 0 c (0+j) t→Stab (E (c+1)) (H (c+1)) t)
    {L:Array Bool} {j:Nat} {o:Oper} {t:TO} (f:Facts P n fl ops ts L j o t) (hl:lateB t=true) (hb:bar j=false) {c:Nat} (hjc:j<c) (hc:c≤ts.length) (hun:∀ c',c'<c→bar c'=true→((clo ops.toList).getD c' 0).testBit j=false) {M:Mp} {w:World} {a:Act}
    (g:GInv M0 B w0 n ts E V' (H 0) (H c) (fun i=>L.getD i true=true) M w a) (hno:M (H j).next=none) {K:Act→World→Prop}
    (hK:∀ M2 a' w',GInv M0 B w0 n ts E V' (H 0) (H c) (fun i=>L.getD i true=true∨i=j) M2 w' a'→(∀ i,i≠(H j).next→M2 i=M i)→K a' w'):wpOp P ops Q j K a w:=by
  have hlook:=g.look tr f.ht f.hS f.d1 f.d2
  obtain ⟨⟨ro,hcc,hdr,hrr⟩,hg,hd,hdk,hlt⟩:=compO_some f.hc
  obtain ⟨ff,sz,r,F⟩:=late_facts tr f.ht hl hb
  have hget:=late_get tr k (pair_uniq hp) hst f.ht hl hb F c hjc hc hun
  have hwt:wantedT (E j) t.g=some true:=by
    simp only [lateB,Bool.and_eq_true,Option.isNone_iff_eq_none] at hl
    rw [hl.1.2];rfl
  have hwant:Region.wanted o (yielded ops a.tmps)=true:=wanted_sound (P:=P) (M:=M) (h:=H c) f.hc (fun s x hs=>hlook s (by simp [TO.slots,hs])) g.size hwt
  have hdo:=F.doo (seen (E j) t) (H c)
  unfold wpOp
  simp only [f.ho]
  rw [hwant]
  simp only [if_true]
  left
  obtain ⟨x,w',M',hrun,hdone⟩:=op_sound (seen_env hlook) g.sim trivial hcc ((hdr _ _).symm.trans hdo)
  obtain ⟨M2,g2,h2,_⟩:=g.late f.ht f.hS (by rw [hd];exact hdk) f.d3 F.shape hget hno (k.next 0 j (Nat.zero_le _) (by omega)) F.val (fun el row hr c' v hv=>(late_vb tr k (pair_uniq hp) f.ht hl F el row hr c' v hv).mono (k.next (j+1) c (by omega) hc)) hdone
  unfold Oper.wp
  rcases hrun with hrun | ⟨hrun,rfl⟩
  · rw [hrun];simp only [Oper.upon_value];rw [← hd];exact hK M2 _ _ g2 h2
  · rw [hrun];simp only [Oper.upon_skip];rw [← hd];exact hK M2 _ _ g2 h2
def LInv (ts:List TO) (H:Nat→AH) (s:Nat) (L:Array Bool) (M:Mp):Prop:=∀ i t,i<s→ts[i]?=some t→lateB t=true→L.getD i true=false→M (H i).next=none
theorem LInv.step {s j:Nat} {L:Array Bool} {M M2:Mp} (h:LInv ts H s L M) (h2:∀ i t,i<s→i≠j→ts[i]?=some t→lateB t=true→L.getD i true=false→M2 (H i).next=M (H i).next):LInv ts H s (L.setIfInBounds j true) M2:=by
  intro i t hi ht hl hL
  have hne:j≠i:=by
    rintro rfl
    by_cases hj:j<L.size
    · simp [Array.getD_eq_getD_getElem?,hj] at hL
    · simp [Array.getD_eq_getD_getElem?,hj] at hL
  rw [getD_set_ne true hne] at hL
  rw [h2 i t hi (Ne.symm hne) ht hl hL]
  exact h i t hi ht hl hL
theorem LInv.same {s j:Nat} {L:Array Bool} {M:Mp} (h:LInv ts H s L M):LInv ts H s (L.setIfInBounds j true) M:=h.step fun _ _ _ _ _ _ _=>rfl
set_option maxHeartbeats 4000000 in
theorem region_any (hC:OracleOk P C) (hS:OSteady C) (hm:MethsOk P tp) (hc:compOs P n fl ops ops.toList=some ts) (hE:edgesOk ops=true) (hp:pairOk (clo ops.toList) ts=true) (tr:Trace tp C ts bar lim E H V') (k:Known P n ts bar lim E H V')
    (hbp:∀ j t,ts[j]?=some t→bar j=true→isPure t.o=false) (hbl:∀ j t,ts[j]?=some t→bar j=true→t.o.late=false) (hfo:flOk ts=true) (hst:∀ c,bar c=true→∀ j t,j<c→ts[j]?=some t→bar j=false→Unhung (clo ops.toList) bar 0 c (0+j) t→Stab (E (c+1)) (H (c+1)) t)
    (hQ:∀ M' a' w',Rel M' B w' (H ts.length) (E ts.length) a' n→Goes M0 M' (H 0) (H ts.length)→Below B w0 w'→Q .normal a' w'):∀ (segs:List (Bool×List TO)) (s:Nat),(segs.map (·.2)).flatten=ts.drop s→segsOk (clo ops.toList) ts s segs=true→s≤ts.length→(∀ i,bar (s+i)=barAt segs i) →
    ∀ (fuel:Nat) (L:Array Bool) (M:Mp) (w:World) (a:Act),L.size=ops.size→(∀ i t,ts[i]?=some t→isPure t.o=false→lateB t=false→i<s→L.getD i true=true)→(∀ i t,ts[i]?=some t→isPure t.o=false→s≤i→L.getD i true=false)→LInv ts H s L M→LClosed ops L→unl ops.size L=fuel →
    GInv M0 B w0 n ts E V' (H 0) (H s) (fun i=>L.getD i true=true) M w a→wpAny P .any ops Q fuel L a w:=by
  have hlen:ops.size=ts.length:=by have:=(compOs_get hc).1;simpa using this
  have hfa:∀ {j:Nat} {t:TO},ts[j]?=some t→t.o.fl=true→bar j=false→wantedT (E j) t.g=some true→∀ c,j<c→c≤ts.length→(∀ c',c'<c→bar c'=true→((clo ops.toList).getD c' 0).testBit j=false)→doOp t.o (X.ev (E j)) (H c)=some (V' j,H c):=fun ht hfl hb hw=>fl_any tr k (pair_uniq hp) hfo hst ht hfl hb hw
  -- if nothing is ready all is done
  have noReady:∀ (L:Array Bool),L.size=ops.size→Region.ready .any ops L=[]→∀ i,i<ops.size→L.getD i true=true:=by
    intro L hLs h0
    have aux:∀ c,c≤ops.size→∀ j,j<c→L.getD j true=true:=by
      intro c
      induction c with
      | zero=>intro _ j hj;omega
      | succ c ih=>
        intro hcs j hj
        rcases Nat.lt_succ_iff_lt_or_eq.1 hj with h1 | h1
        · exact ih (by omega) j h1
        · subst h1
          cases hb:L.getD j true with
          | true=>rfl
          | false=>
            have:=ready_least hE hLs (by omega) hb (ih (by omega))
            rw [h0] at this;simp at this
    exact fun i hi=>aux ops.size (Nat.le_refl _) i hi
  -- the end
  have fin:∀ (L:Array Bool) (M:Mp) (w:World) (a:Act),(∀ i,i<ops.size→L.getD i true=true)→GInv M0 B w0 n ts E V' (H 0) (H ts.length) (fun i=>L.getD i true=true) M w a→Q .normal a w:=by
    intro L M w a hall g
    refine hQ M a w ⟨g.sim,fun t=>?_,g.size,g.defers⟩ ⟨⟨k.next 0 _ (Nat.zero_le _) (Nat.le_refl _),fun id hid hl=>?_,g.gmap⟩, ?_,fun id hid=>?_⟩ g.below
    · rcases tr.slot t ts.length (Nat.le_refl _) with ⟨i,o,hi,ho,hod,hv⟩ | ⟨hno,hv⟩
      · rw [hv];exact g.env2 i o ho (hall i (by omega)) t hod
      · rw [hv]
        exact g.env1 t (fun i o ho hod _=>hno i o (List.getElem?_eq_some_iff.1 ho).1 ho hod)
    · obtain ⟨q,hq⟩:=Option.ne_none_iff_exists'.1 hl
      obtain ⟨q2,hq2,_⟩:=(k.steadies 0 ts.length (Nat.zero_le _) (Nat.le_refl _)).2.2 id q hid hq
      simp [AH.live,hq2]
    · rw [k.lim _ (Nat.le_refl _),k.lim 0 (Nat.zero_le _)]
    · exact k.lows _ (Nat.le_refl _) id (by rw [← k.lim 0 (Nat.zero_le _)];exact hid)
  -- what a step does to the list
  have after:∀ {L:Array Bool} {j:Nat} {o:Oper} {t:TO},Facts P n fl ops ts L j o t→L.size=ops.size→LClosed ops L→(L.setIfInBounds j true).size=ops.size∧LClosed ops (L.setIfInBounds j true)∧(∀ m,unl ops.size L=m+1→unl ops.size (L.setIfInBounds j true)=m)∧(∃ m,unl ops.size L=m+1)∧j<L.size:=by
    intro L j o t f hLs hLc
    have hjl:=(Array.getElem?_eq_some_iff.1 f.ho).1
    have hif:L.getD j true=false:=by cases hb:L.getD j true with
      | true=>exact absurd hb f.hS
      | false=>rfl
    have hu:=unl_set hjl hLs hif
    exact ⟨by simpa using hLs,hLc.set f.ho f.dir,fun m hm=>by omega,⟨_,hu.symm⟩,by omega⟩
  have unlisted:∀ {L:Array Bool} {j:Nat} {o:Oper} {t:TO},Facts P n fl ops ts L j o t→L.getD j true=false:=fun {L j o t} f=>by
    cases hb:L.getD j true with
    | true=>exact absurd hb f.hS
    | false=>rfl
  have nobar:∀ {j:Nat} {t:TO},ts[j]?=some t→lateB t=true→bar j=false:=fun {j t} ht hl=>by
    cases hb:bar j with
    | false=>rfl
    | true=>
      have:=hbl j t ht hb
      simp only [lateB,Bool.and_eq_true] at hl
      rw [this] at hl;cases hl.1.1
  have lateNext:∀ {j:Nat} {t:TO},ts[j]?=some t→lateB t=true→(H (j+1)).next=(H j).next+1:=fun {j t} ht hl=>by
    obtain ⟨ff,sz,r,F⟩:=late_facts tr ht hl (nobar ht hl)
    exact F.next
  have lateNe:∀ {j i:Nat} {t u:TO},ts[j]?=some t→lateB t=true→ts[i]?=some u→lateB u=true→i≠j→(H i).next≠(H j).next:=fun {j i t u} ht hl hu hl2 hne=>by
    have a1:=lateNext ht hl
    have a2:=lateNext hu hl2
    have c1:=(List.getElem?_eq_some_iff.1 ht).1
    have c2:=(List.getElem?_eq_some_iff.1 hu).1
    rcases Nat.lt_or_gt_of_ne hne with h | h
    · have:=k.next (i+1) j (by omega) (by omega);omega
    · have:=k.next (j+1) i (by omega) (by omega);omega
  have latePure:∀ {t:TO},lateB t=true→isPure t.o=false:=fun {t} hl=>by
    simp only [lateB,Bool.and_eq_true] at hl
    have:=hl.1.1
    cases ho:t.o<;>rw [ho] at this<;>simp [O.late] at this
    all_goals rfl
  have hang:∀ {L:Array Bool},L.size=ops.size→LClosed ops L→∀ {c' j:Nat},c'<ts.length→L.getD c' true=true→L.getD j true=false→((clo ops.toList).getD c' 0).testBit j=false:=fun {L} hLs hLc {c' j} hc' hd hj=>by
    cases hb:((clo ops.toList).getD c' 0).testBit j with
    | false=>rfl
    | true=>
      have hc2:c'<ops.size:=by omega
      have ho:ops[c']?=some ops[c']:=Array.getElem?_eq_getElem hc2
      have hd2:L.getD c' false=true:=by rw [getD_true_iff (by omega)];exact hd
      have:=clo_reach hLc c' j _ ho (fun e he hbi=>hLc c' _ ho hd2 e he hbi) hb
      rw [getD_false_of hj] at this;cases this
  have hungs:∀ {L:Array Bool} {s:Nat},L.size=ops.size→LClosed ops L→(∀ i t,ts[i]?=some t→isPure t.o=false→lateB t=false→i<s→L.getD i true=true)→s≤ts.length→∀ {j:Nat},L.getD j true=false→∀ c',c'<s→bar c'=true→((clo ops.toList).getD c' 0).testBit j=false:=fun {L s} hLs hLc hLt hs {j} hj c' hc' hb=>by
    have ht:ts[c']?=some ts[c']:=List.getElem?_eq_getElem (by omega)
    exact hang hLs hLc (by omega) (hLt c' _ ht (hbp c' _ ht hb) (by simp only [lateB,hbl c' _ ht hb,Bool.false_and]) hc') hj
  intro segs
  induction segs with
  | nil=>
    intro s hfl hok hso hbar fuel
    have hs:s=ts.length:=by
      have:=congrArg List.length hfl
      simp at this
      omega
    subst hs
    induction fuel with
    | zero=>
      intro L M w a hLs hLt hLf hLi hLc hfuel g
      have hall:=unl_zero hfuel
      refine ⟨?_,fin L M w a hall g⟩
      apply List.eq_nil_iff_forall_not_mem.2
      intro i hi
      obtain ⟨h1,o,ho,_⟩:=mem_ready.1 hi
      rw [hall i (Array.getElem?_eq_some_iff.1 ho).1] at h1;cases h1
    | succ fuel ihf=>
      intro L M w a hLs hLt hLf hLi hLc hfuel g
      refine ⟨fun h0=>fin L M w a (noReady L hLs h0) g,fun i hi=>?_⟩
      obtain ⟨o,t,f⟩:=facts_of hc hp hLs hLc hi
      obtain ⟨b1,b2,b3,_,b5⟩:=after f hLs hLc
      have hil:=(List.getElem?_eq_some_iff.1 f.ht).1
      cases hlt:lateB t with
      | true=>
        refine late_go tr k hp hst f hlt (nobar f.ht hlt) hil (Nat.le_refl _) (hungs hLs hLc hLt (Nat.le_refl _) (unlisted f)) g (hLi i t hil f.ht hlt (unlisted f)) (fun M2 a' w' g' h2=>?_)
        refine ihf _ M2 w' a' b1 (fun i' t' ht' hnp hnl hi'=>?_) (fun i' t' ht' hnp hi'=>?_) (hLi.step fun i' t' hi' hne ht' hl' _=>h2 _ (lateNe f.ht hlt ht' hl' hne)) b2 (b3 fuel hfuel) (g'.congr (listed_iff b5))
        · exact (listed_iff b5 i').1 (.inl (hLt i' t' ht' hnp hnl hi'))
        · have:=(List.getElem?_eq_some_iff.1 ht').1
          omega
      | false=>
      have hpure:isPure t.o=true:=by
        cases hb:isPure t.o with
        | true=>rfl
        | false=>exact absurd (hLt i t f.ht hb hlt hil) f.hS
      refine pure_go tr k hbp f hpure (Nat.le_refl _) hfa (hungs hLs hLc hLt (Nat.le_refl _) (unlisted f)) (fun _=>(List.getElem?_eq_some_iff.1 f.ht).1) g (fun a' w' g'=>?_)
      refine ihf _ M w' a' b1 (fun i' t' ht' hnp hnl hi'=>?_) (fun i' t' ht' hnp hi'=>?_) hLi.same b2 (b3 fuel hfuel) (g'.congr (listed_iff b5))
      · exact (listed_iff b5 i').1 (.inl (hLt i' t' ht' hnp hnl hi'))
      · have:=(List.getElem?_eq_some_iff.1 ht').1
        omega
  | cons sg segs ih=>
    intro s hfl hok hso hbar
    obtain ⟨qt,l⟩:=sg
    simp only [segsOk,Bool.and_eq_true] at hok
    obtain ⟨⟨hahead,hone⟩,hok⟩:=hok
    simp only [List.map_cons,List.flatten_cons] at hfl
    have hfl':(segs.map (·.2)).flatten=ts.drop (s+l.length):=by
      rw [← List.drop_drop,←hfl];simp
    have hlget:∀ (j:Nat) (t:TO),l[j]?=some t→ts[s+j]?=some t:=fun j t hj=>by
      rw [← List.getElem?_drop,←hfl,List.getElem?_append,if_pos (List.getElem?_eq_some_iff.1 hj).1];exact hj
    have hsl:s+l.length≤ts.length:=by
      have:=congrArg List.length hfl
      simp at this
      omega
    have hbar':∀ i,bar (s+l.length+i)=barAt segs i:=fun i=>by
      have:=hbar (l.length+i)
      simp only [barAt] at this
      rw [if_neg (by omega),show l.length+i - l.length=i by omega] at this
      rw [Nat.add_assoc];exact this
    -- whoever looks at the heap and comes behind a place hangs from all that do ahead of it
    have behind:∀ (sg2:List (Bool×List TO)) (s2:Nat),segsOk (clo ops.toList) ts s2 sg2=true→(sg2.map (·.2)).flatten=ts.drop s2→∀ i ti,ts[i]?=some ti→(isPure ti.o=false∨ti.o.fl=true)→s2≤i→∀ j tj,ts[j]?=some tj→isPure tj.o=false→lateB tj=false→j<s2→((clo ops.toList).getD i 0).testBit j=true:=by
      intro sg2
      induction sg2 with
      | nil=>
        intro s2 _ hf i ti hti _ hi1 j tj htj _ _ hj
        have:=congrArg List.length hf
        simp at this
        have:=(List.getElem?_eq_some_iff.1 hti).1
        omega
      | cons sg2 sgs ih2=>
        intro s2 hk hf i ti hti hpi hi1 j tj htj hpj hlj hj
        obtain ⟨q2,l2⟩:=sg2
        simp only [segsOk,Bool.and_eq_true] at hk
        obtain ⟨⟨hk1,_⟩,hk3⟩:=hk
        by_cases hin:i<s2+l2.length
        · simp only [aheadOk,List.all_eq_true,Bool.or_eq_true] at hk1
          have:=hk1 (i - s2) (by simp;omega)
          rw [show s2+(i - s2)=i by omega] at this
          simp only [pureAt,flAt,hti] at this
          have:=(this.resolve_left (by rcases hpi with hpi | hpi<;>simp [hpi])) j (by simpa using hj)
          have hla:lateAt ts j=false:=by simp only [lateAt,htj];exact hlj
          simp only [htj,hpj,hla,Bool.false_eq_true,false_or] at this
          exact this
        · simp only [List.map_cons,List.flatten_cons] at hf
          have hf':(sgs.map (·.2)).flatten=ts.drop (s2+l2.length):=by
            rw [← List.drop_drop,←hf];simp
          exact ih2 (s2+l2.length) hk3 hf' i ti hti hpi (by omega) j tj htj hpj hlj (by omega)
    cases qt with
    | false=>
      simp only [Bool.false_or,Bool.and_eq_true,beq_iff_eq] at hone
      obtain ⟨t0,rfl⟩:=List.length_eq_one_iff.1 hone.1
      have hone2:isPure t0.o=false∧t0.o.late=false:=by simpa using hone.2
      have hnp0:=hone2.1
      have ht0:ts[s]?=some t0:=hlget 0 t0 rfl
      have hslt:=(List.getElem?_eq_some_iff.1 ht0).1
      have hbs:bar s=true:=by have:=hbar 0;simpa [barAt] using this
      have hl0:lateB t0=false:=by simp only [lateB,hbl s t0 ht0 hbs,Bool.false_and]
      intro fuel
      induction fuel with
      | zero=>
        intro L M w a hLs hLt hLf hLi hLc hfuel g
        have:=unl_zero hfuel s (by omega)
        rw [hLf s t0 ht0 hnp0 (Nat.le_refl _)] at this;cases this
      | succ fuel ihf=>
        intro L M w a hLs hLt hLf hLi hLc hfuel g
        refine ⟨fun h0=>(by
          have:=noReady L hLs h0 s (by omega)
          rw [hLf s t0 ht0 hnp0 (Nat.le_refl _)] at this;cases this),fun i hi=>?_⟩
        obtain ⟨o,t,f⟩:=facts_of hc hp hLs hLc hi
        obtain ⟨b1,b2,b3,_,b5⟩:=after f hLs hLc
        cases hpure:isPure t.o with
        | true=>
          refine pure_go tr k hbp f hpure hso hfa (hungs hLs hLc hLt hso (unlisted f)) (fun hfl=>?_) g (fun a' w' g'=>?_)
          · rcases Nat.lt_trichotomy i s with h1 | h1 | h1
            · exact h1
            · subst h1
              rw [f.ht] at ht0
              simp only [Option.some.injEq] at ht0
              rw [← ht0,hpure] at hnp0;cases hnp0
            · have hb:=behind segs (s+1) (by simpa using hok) (by simpa using hfl') i t f.ht (.inr hfl) (by omega) s t0 ht0 hnp0 hl0 (by omega)
              have:=f.anc s hb (by omega)
              rw [hLf s t0 ht0 hnp0 (Nat.le_refl _)] at this;cases this
          refine ihf _ M w' a' b1 (fun i' t' ht' hnp hnl hi'=>(listed_iff b5 i').1 (.inl (hLt i' t' ht' hnp hnl hi'))) (fun i' t' ht' hnp hi'=>?_) hLi.same b2 (b3 fuel hfuel) (g'.congr (listed_iff b5))
          have hne:i≠i':=fun hh=>by
            subst hh
            rw [f.ht] at ht'
            simp only [Option.some.injEq] at ht'
            rw [← ht',hpure] at hnp;cases hnp
          rw [getD_set_ne true hne]
          exact hLf i' t' ht' hnp hi'
        | false=>
          by_cases hlate:lateB t=true∧i<s
          · refine late_go tr k hp hst f hlate.1 (nobar f.ht hlate.1) hlate.2 hso (hungs hLs hLc hLt hso (unlisted f)) g (hLi i t hlate.2 f.ht hlate.1 (unlisted f)) (fun M2 a' w' g' h2=>?_)
            refine ihf _ M2 w' a' b1 (fun i' t' ht' hnp hnl hi'=>(listed_iff b5 i').1 (.inl (hLt i' t' ht' hnp hnl hi'))) (fun i' t' ht' hnp hi'=>?_) (hLi.step fun i' t' hi' hne ht' hl' _=>h2 _ (lateNe f.ht hlate.1 ht' hl' hne)) b2 (b3 fuel hfuel) (g'.congr (listed_iff b5))
            rw [getD_set_ne true (by omega)]
            exact hLf i' t' ht' hnp hi'
          have his:i=s:=by
            rcases Nat.lt_trichotomy i s with h1 | h1 | h1
            · exact absurd (hLt i t f.ht hpure (by cases hb:lateB t with | false=>rfl | true=>exact absurd ⟨hb,h1⟩ hlate) h1) f.hS
            · exact h1
            · have hb:=behind segs (s+1) (by simpa using hok) (by simpa using hfl') i t f.ht (.inl hpure) (by omega) s t0 ht0 hnp0 hl0 (by omega)
              have:=f.anc s hb (by omega)
              rw [hLf s t0 ht0 hnp0 (Nat.le_refl _)] at this;cases this
          subst his
          have htt:t=t0:=by have:=f.ht;rw [ht0] at this;simpa using this.symm
          subst htt
          have hlook:=g.look tr f.ht f.hS f.d1 f.d2
          obtain ⟨⟨ro,hcc,hdr,hrr⟩,hgg,hd,hdk,hlt⟩:=compO_some f.hc
          have hwant:∀ {b:Bool},wantedT (E i) t.g=some b→Region.wanted o (yielded ops a.tmps)=b:=fun hw=>wanted_sound (P:=P) (M:=M) (h:=H i) f.hc (fun s x hs=>hlook s (by simp [TO.slots,hs])) g.size hw
          have goOn:∀ (M2:Mp) (w2:World) (a2:Act),GInv M0 B w0 n ts E V' (H 0) (H (i+1)) (fun k=>L.getD k true=true∨k=i) M2 w2 a2→(∀ p u,p<i→ts[p]?=some u→lateB u=true→L.getD p true=false→M2 (H p).next=M (H p).next)→wpAny P .any ops Q fuel (L.setIfInBounds i true) a2 w2:=fun M2 w2 a2 g2 hM2=>by
            refine ih (i+1) (by simpa using hfl') (by simpa using hok) (by omega) (by simpa using hbar') fuel _ M2 w2 a2 b1 (fun i' t' ht' hnp hnl hi'=>?_) (fun i' t' ht' hnp hi'=>?_) (fun i' t' hi' ht' hl' hL'=>?_) b2 (b3 fuel hfuel) (g2.congr (listed_iff b5))
            rotate_left 2
            · have hne:i'≠i:=by rintro rfl;rw [ht0] at ht';simp only [Option.some.injEq] at ht';rw [← ht',hl0] at hl';cases hl'
              rw [getD_set_ne true (Ne.symm hne)] at hL'
              rw [hM2 i' t' (by omega) ht' hl' hL']
              exact hLi i' t' (by omega) ht' hl' hL'
            · rcases Nat.lt_succ_iff_lt_or_eq.1 hi' with h1 | h1
              · exact (listed_iff b5 i').1 (.inl (hLt i' t' ht' hnp hnl h1))
              · exact (listed_iff b5 i').1 (.inr h1)
            · rw [getD_set_ne true (by omega)]
              exact hLf i' t' ht' hnp (by omega)
          unfold wpOp
          simp only [f.ho]
          rcases tr.step i t f.ht with ⟨hw,hv,hH⟩ | hst
          · rw [hwant hw]
            simp only [Bool.false_eq_true,if_false]
            refine goOn M w _ ?_ (fun _ _ _ _ _ _=>rfl)
            rw [← hd,hH]
            exact g.step f.ht f.hS (by rw [hd];exact hdk) f.d3 g.sim (fun hv=>hv) (by rw [hv];exact .tup _ _ .nil) g.gmap (Below.refl B w)
          · rw [if_pos hbs] at hst
            obtain ⟨hw,hq⟩:=hst
            rw [hwant hw]
            simp only [if_true]
            left
            refine run1_sound hC hm (seen_env hlook) g.sim hcc (by rw [← hrr,run1_congr t.o (seen_agree (E i) t)];exact hq) (fun x w' M' hdone=>?_)
            refine goOn M' w' _ ?_ (fun p u hpi hu hlu hLp=>by
              obtain ⟨ff,sz,r,F⟩:=late_facts tr hu hlu (nobar hu hlu)
              have h1:=late_get tr k (pair_uniq hp) hst hu hlu (nobar hu hlu) F (i+1) (by omega) (by omega) (fun c' hc' hb'=>by
                rcases Nat.lt_succ_iff_lt_or_eq.1 hc' with h5 | h5
                · exact hungs hLs hLc hLt hso hLp c' h5 hb'
                · subst h5
                  cases hbt:((clo ops.toList).getD c' 0).testBit p with
                  | false=>rfl
                  | true=>
                    have:=clo_reach hLc c' p _ f.ho (fun e he hbi=>f.dir e (by simpa using he) hbi) hbt
                    rw [getD_false_of hLp] at this;cases this)
              have h2:=k.next (p+1) i (by omega) (by omega)
              have h3:=F.next
              exact hdone.goes.keeps.map _ (by omega) (by simp [AH.live,h1]))
            rw [← hd]
            refine g.step f.ht f.hS (by rw [hd];exact hdk) f.d3 hdone.sim (fun hv=>hv.keep hdone.goes.keeps) hdone.val (fun id hid hl=>?_) hdone.below
            have hid':id<(H i).next:=Nat.lt_of_lt_of_le hid (k.next 0 i (Nat.zero_le _) (by omega))
            exact (hdone.goes.keeps.map id hid' hl).trans (g.gmap id hid (hdone.goes.keeps.live id hid' hl))
    | true=>
      have hbf:∀ i,s≤i→i<s+l.length→bar i=false:=fun i h1 h2=>by
        have:=hbar (i - s)
        simp only [barAt] at this
        rw [if_pos (by omega),show s+(i - s)=i by omega] at this
        simpa using this
      have inner : ∀ (fuel : Nat) (L : Array Bool) (M : Mp) (w : World) (a : Act), L.size = ops.size → (∀ i t, ts[i]? = some t → isPure t.o = false → lateB t = false → i < s → L.getD i true = true) → (∀ i t, ts[i]? = some t → isPure t.o = false → s + l.length ≤ i → L.getD i true = false) → LInv ts H s L M → LClosed ops L → unl ops.size L = fuel →
          GInv M0 B w0 n ts E V' (H 0) (H (s+l.length)) (fun i=>L.getD i true=true) M w a→QInv ts H s (s+l.length) (fun i=>L.getD i true=true) M→wpAny P .any ops Q fuel L a w:=by
        have endL:∀ (L:Array Bool) (M:Mp),LInv ts H s L M→QInv ts H s (s+l.length) (fun i=>L.getD i true=true) M→LInv ts H (s+l.length) L M:=fun L M hLi q i t hi ht hl hL=>by
          by_cases h1:i<s
          · exact hLi i t h1 ht hl hL
          · have:=lateNext ht hl
            exact q.none_ i t (by omega) hi ht (latePure hl) (by simp [hL]) _ (Nat.le_refl _) (by omega)
        intro fuel
        induction fuel with
        | zero=>
          intro L M w a hLs hLt hLf hLi hLc hfuel g q
          have hall:=unl_zero hfuel
          exact ih (s+l.length) hfl' hok hsl hbar' 0 L M w a hLs (fun i t ht _ _ _=>hall i (by have:=(List.getElem?_eq_some_iff.1 ht).1;omega)) hLf (endL L M hLi q) hLc hfuel g
        | succ fuel ihf=>
          intro L M w a hLs hLt hLf hLi hLc hfuel g q
          by_cases hall:∀ i t,ts[i]?=some t→isPure t.o=false→lateB t=false→i<s+l.length→L.getD i true=true
          · exact ih (s+l.length) hfl' hok hsl hbar' (fuel+1) L M w a hLs hall hLf (endL L M hLi q) hLc hfuel g
          · refine ⟨fun h0=>absurd (fun i t ht _ _ _=>noReady L hLs h0 i (by have:=(List.getElem?_eq_some_iff.1 ht).1;omega)) hall,fun i hi=>?_⟩
            obtain ⟨o,t,f⟩:=facts_of hc hp hLs hLc hi
            obtain ⟨b1,b2,b3,_,b5⟩:=after f hLs hLc
            cases hpure:isPure t.o with
            | true=>
              refine pure_go tr k hbp f hpure hsl hfa (fun c' hc' hb'=>by
                  rcases Nat.lt_or_ge c' s with h5 | h5
                  · exact hungs hLs hLc hLt (by omega) (unlisted f) c' h5 hb'
                  · rw [hbf c' h5 hc'] at hb';cases hb') (fun hfl=>?_) g (fun a' w' g'=>?_)
              · rcases Nat.lt_or_ge i (s+l.length) with h1 | h1
                · exact h1
                · exfalso
                  apply hall
                  intro j tj htj hpj hlj hj
                  have hb:=behind segs (s+l.length) hok hfl' i t f.ht (.inr hfl) h1 j tj htj hpj hlj hj
                  exact f.anc j hb (by have:=(List.getElem?_eq_some_iff.1 htj).1;omega)
              refine ihf _ M w' a' b1 (fun i' t' ht' hnp hnl hi'=>(listed_iff b5 i').1 (.inl (hLt i' t' ht' hnp hnl hi'))) (fun i' t' ht' hnp hi'=>?_) hLi.same b2 (b3 fuel hfuel) (g'.congr (listed_iff b5)) ((q.more (j:=i)).congr (listed_iff b5))
              have hne:i≠i':=fun hh=>by
                subst hh
                rw [f.ht] at ht'
                simp only [Option.some.injEq] at ht'
                rw [← ht',hpure] at hnp;cases hnp
              rw [getD_set_ne true hne]
              exact hLf i' t' ht' hnp hi'
            | false=>
              by_cases hlate:lateB t=true∧i<s
              · have hunq:∀ c',c'<s+l.length→bar c'=true→((clo ops.toList).getD c' 0).testBit i=false:=fun c' hc' hb'=>by
                  rcases Nat.lt_or_ge c' s with h5 | h5
                  · exact hungs hLs hLc hLt (by omega) (unlisted f) c' h5 hb'
                  · rw [hbf c' h5 hc'] at hb';cases hb'
                refine late_go tr k hp hst f hlate.1 (nobar f.ht hlate.1) (by omega) hsl hunq g (hLi i t hlate.2 f.ht hlate.1 (unlisted f)) (fun M2 a' w' g' h2=>?_)
                obtain ⟨ff,sz,r,F⟩:=late_facts tr f.ht hlate.1 (nobar f.ht hlate.1)
                have hget:=late_get tr k (pair_uniq hp) hst f.ht hlate.1 (nobar f.ht hlate.1) F (s+l.length) (by omega) hsl hunq
                have q2:=q.late k hsl hlate.2 F.next hget (late_vb tr k (pair_uniq hp) f.ht hlate.1 F) h2
                refine ihf _ M2 w' a' b1 (fun i' t' ht' hnp hnl hi'=>(listed_iff b5 i').1 (.inl (hLt i' t' ht' hnp hnl hi'))) (fun i' t' ht' hnp hi'=>?_) (hLi.step fun i' t' hi' hne ht' hl' _=>h2 _ (lateNe f.ht hlate.1 ht' hl' hne)) b2 (b3 fuel hfuel) (g'.congr (listed_iff b5)) (q2.congr (listed_iff b5))
                rw [getD_set_ne true (by omega)]
                exact hLf i' t' ht' hnp hi'
              have his:s≤i:=by
                rcases Nat.lt_or_ge i s with h1 | h1
                · exact absurd (hLt i t f.ht hpure (by cases hb:lateB t with | false=>rfl | true=>exact absurd ⟨hb,h1⟩ hlate) h1) f.hS
                · exact h1
              have hil:i<s+l.length:=by
                rcases Nat.lt_or_ge i (s+l.length) with h1 | h1
                · exact h1
                · exfalso
                  apply hall
                  intro j tj htj hpj hlj hj
                  have hb:=behind segs (s+l.length) hok hfl' i t f.ht (.inl hpure) h1 j tj htj hpj hlj hj
                  exact f.anc j hb (by have:=(List.getElem?_eq_some_iff.1 htj).1;omega)
              have hlook:=g.look tr f.ht f.hS f.d1 f.d2
              obtain ⟨⟨ro,hcc,hdr,hrr⟩,hgg,hd,hdk,hlt⟩:=compO_some f.hc
              have hwant:∀ {b:Bool},wantedT (E i) t.g=some b→Region.wanted o (yielded ops a.tmps)=b:=fun hw=>wanted_sound (P:=P) (M:=M) (h:=H (s+l.length)) f.hc (fun s x hs=>hlook s (by simp [TO.slots,hs])) g.size hw
              have goOn:∀ (M2:Mp) (w2:World) (a2:Act),GInv M0 B w0 n ts E V' (H 0) (H (s+l.length)) (fun k=>L.getD k true=true∨k=i) M2 w2 a2→QInv ts H s (s+l.length) (fun k=>L.getD k true=true∨k=i) M2→(∀ p u,p<s→ts[p]?=some u→lateB u=true→M2 (H p).next=M (H p).next)→wpAny P .any ops Q fuel (L.setIfInBounds i true) a2 w2:=fun M2 w2 a2 g2 q2 hM2=>by
                refine ihf _ M2 w2 a2 b1 (fun i' t' ht' hnp hnl hi'=>(listed_iff b5 i').1 (.inl (hLt i' t' ht' hnp hnl hi'))) (fun i' t' ht' hnp hi'=>?_) (hLi.step fun i' t' hi' _ ht' hl' _=>hM2 i' t' hi' ht' hl') b2 (b3 fuel hfuel) (g2.congr (listed_iff b5)) (q2.congr (listed_iff b5))
                rw [getD_set_ne true (by omega)]
                exact hLf i' t' ht' hnp hi'
              unfold wpOp
              simp only [f.ho]
              rcases tr.step i t f.ht with ⟨hw,hv,hH⟩ | hst
              · rw [hwant hw]
                simp only [Bool.false_eq_true,if_false]
                refine goOn M w _ ?_ q.more (fun _ _ _ _ _=>rfl)
                rw [← hd]
                exact g.step f.ht f.hS (by rw [hd];exact hdk) f.d3 g.sim (fun hv=>hv) (by rw [hv];exact .tup _ _ .nil) g.gmap (Below.refl B w)
              · rw [if_neg (by rw [hbf i his hil];simp)] at hst
                rcases hst with ⟨hw,hpp,_⟩ | ⟨hw,hpp,qq,hq,hH⟩
                · rw [hpure] at hpp;cases hpp
                · rw [hwant hw]
                  simp only [if_true]
                  left
                  have hsj:=q.down k hbf hsl g.sim (j:=i) his (by omega)
                  have m2:=k.gets hbf hsl i (s+l.length) his (by omega) (Nat.le_refl _)
                  have hlook':∀ sl∈t.slots,VR M (H i) (E i sl) (a.tmps.getD sl undef):=fun sl hsl'=>
                    (hlook sl hsl').move (N:=(H i).next) (Nat.le_refl _) (fun id hid hl=>⟨by rw [AH.live,m2 id hid];exact hl,rfl⟩) (look_vb tr k (by omega) sl)
                  refine run1_sound hC hm (seen_env hlook').raise hsj.raise hcc (by rw [← hrr,run1_congr t.o (seen_agree (E i) t)];exact hq) (fun x w' M' hdone=>?_)
                  obtain ⟨M2,g2,q2,hM2⟩:=q.put k hbf hsl g his hil f.ht hpure f.hS (by rw [hd];exact hdk) f.d3 hH hdone
                  rw [← hd]
                  exact goOn M2 w' _ g2 q2 (fun p u hps hu hlu=>hM2 _ (fun hh=>by
                    have h1:=lateNext hu hlu
                    have h2:=k.next (p+1) i (by omega) (by omega)
                    omega))
      intro fuel L M w a hLs hLt hLf hLi hLc hfuel g
      obtain ⟨M1,g1,q1,hM1⟩:=g.enter k hbf (Nat.le_add_right _ _) hsl
      exact inner fuel L M1 w a hLs hLt (fun i t ht hnp hi=>hLf i t ht hnp (by omega)) (fun i t hi ht hl hL=>hM1 _ (hLi i t hi ht hl hL)) hLc hfuel g1 q1
end
end
end Go.Ab
/- Code, functions, the whole: what the abstract machine answers the model's machine answers. -/
namespace Go.Ab
open Go Go.RowKit
section
variable {P:Program}
theorem wp_loop_n {c : Code} {Q : Exit → Act → World → Prop} {a : Act} {w : World} (J : Nat → Act → World → Prop) (n : Nat) (h0 : J n a w)
    (round:∀ n a w,J n a w→c.wp P (Exit.then (fun a' w'=>∃ m,m<n∧J m a' w') Q) a w):(Code.loop c).wp P Q a w:=by
  intro b k cs
  have key:∀ n a w,J n a w→∃ e a' w',Q e a' w'∧Arrives P (lone (b.at a (.code c::.inLoop c::k)) cs w) b k cs e a' w':=by
    intro n
    induction n using Nat.strongRecOn with
    | _ n ih=>
      intro a w hI
      obtain ⟨e,a₁,w₁,hq,harr⟩:=round n a w hI b (.inLoop c::k) cs
      cases e with
      | normal=>
        obtain ⟨m,hlt,hI₁⟩:=hq
        obtain ⟨e₂,a₂,w₂,hq₂,harr₂⟩:=ih m hlt a₁ w₁ hI₁
        exact ⟨e₂,a₂,w₂,hq₂,.of_steps (Steps.trans harr (.one step_inLoop)) harr₂⟩
      | exit id=>exact ⟨_,a₁,w₁,hq,.pass (x:=.inLoop c) rfl (fun _ _=>.inl (by simp)) harr⟩
      | goto l=>exact ⟨_,a₁,w₁,hq,.pass (x:=.inLoop c) rfl (fun _ _=>.inl (by simp)) harr⟩
      | ret=>exact ⟨_,a₁,w₁,hq,.pass (x:=.inLoop c) rfl (fun _ _=>.inl (by simp)) harr⟩
      | panic ch=>exact ⟨_,a₁,w₁,hq,.pass (x:=.inLoop c) rfl (fun _ _=>.inl (by simp)) harr⟩
      | outgrown=>exact ⟨_,a₁,w₁,hq,.pass (x:=.inLoop c) rfl (fun _ _=>.inl (by simp)) harr⟩
  obtain ⟨e,a',w',hq,harr⟩:=key n a w h0
  exact ⟨e,a',w',hq,.of_steps (.one step_loop) harr⟩
def Ex.real:Ex→Exit
  | .nm=>.normal
  | .ex id=>.exit id
  | .rt=>.ret
def Ends (M:Mp) (B:Nat) (w:World) (h:AH) (n:Nat) (z:Ex×Env×AH) (Q:Exit→Act→World→Prop):Prop:=
  ∀ M' a' w',Rel M' B w' z.2.2 z.2.1 a' n→Goes M M' h z.2.2→Below B w w'→Q z.1.real a' w'
theorem segs_kind {cl:List Nat} {ts:List TO}:∀ (segs:List (Bool×List TO)) (s:Nat),segsOk cl ts s segs=true→∀ p∈segs,p.1=true∨p.2.length=1
  | [],_,_,p,hp=>by simp at hp
  | (q,l)::r,s,h,p,hp=>by
    simp only [segsOk,Bool.and_eq_true,Bool.or_eq_true,beq_iff_eq] at h
    rcases List.mem_cons.1 hp with rfl | hp
    · rcases h.1.2 with h | h
      · exact .inl h
      · exact .inr h.1
    · exact segs_kind r _ h.2 p hp
theorem segs_bar {cl:List Nat} {ts:List TO}:∀ (segs:List (Bool×List TO)) (s:Nat),segsOk cl ts s segs=true→∀ (j:Nat) (t:TO),(segs.map (·.2)).flatten[j]?=some t→barAt segs j=true→isPure t.o=false∧t.o.late=false
  | [],_,_,j,t,ht,_=>by simp at ht
  | (q,l)::r,s,h,j,t,ht,hb=>by
    simp only [segsOk,Bool.and_eq_true,Bool.or_eq_true,beq_iff_eq] at h
    simp only [barAt] at hb
    simp only [List.map_cons,List.flatten_cons] at ht
    split at hb
    · rename_i hj
      rw [List.getElem?_append_left hj] at ht
      rcases h.1.2 with hq | hq
      · simp [hq] at hb
      · have:=List.all_eq_true.1 hq.2 t (List.mem_of_getElem? ht)
        simpa using this
    · rename_i hj
      rw [List.getElem?_append_right (by omega)] at ht
      exact segs_bar r _ h.2 (j - l.length) t ht hb
theorem draw_any {C : Oracle} {tp : TP} {wr : Wr} (hC : OracleOk P C) (hS : OSteady C) (hm : MethsOk P tp) {n : Nat} {fl : List Nat} {ops : Array Oper} {segs : List (Bool × List TO)} {M : Mp} {B : Nat} {w : World} {h : AH} {e : Env} {a : Act} {y : Env × AH} {Q : Exit → Act → World → Prop}
    (hc:compDraw P wr n fl ops=some (.dreg segs)) (hy:evSegs tp C segs e h=some y) (hr:Rel M B w h e a n) (hQ:∀ M' a' w',Rel M' B w' y.2 y.1 a' n→Goes M M' h y.2→Below B w w'→Q .normal a' w'):
    wpAny P .any ops Q ops.size (Array.replicate ops.size false) a { w with drawn:=w.drawn+1 }:=by
  unfold compDraw at hc
  obtain ⟨ts,hts,hc⟩:=bind_some hc
  simp only at hc
  split at hc
  case isFalse=>simp at hc
  rename_i hok
  simp only [Option.some.injEq,TC.dreg.injEq] at hc
  subst hc
  simp only [Bool.and_eq_true,beq_iff_eq] at hok
  obtain ⟨⟨⟨⟨h1,h2⟩,h2'⟩,hfo⟩,h3⟩:=hok
  have hfl:((segsOf (wrq wr ops) (ops.toList.zip ts)).map (·.2)).flatten=ts:=by
    rw [segsOf_flat,List.map_snd_zip (by simp [h3])]
  obtain ⟨E,H,V',tr,hE0,hH0,hE1,hH1,hstab⟩:=segs_trace hS h.lim (clo ops.toList) (segsOf (wrq wr ops) (ops.toList.zip ts)) 0 [] e y.1 h y.2 rfl (segs_kind _ _ h1) hy
  rw [hfl] at tr hE1 hH1 hstab
  have hr':Rel M B { w with drawn:=w.drawn+1 } h e a n:=⟨hr.sim.heap rfl,hr.env,hr.size,hr.defers⟩
  have hr0:Rel M B { w with drawn:=w.drawn+1 } (H 0) (E 0) a n:=by rw [hE0,hH0];exact hr'
  have kn:=known_of hC hS hm tr hr0 (by rw [hH0]) (fun j t ht=>(by
    have hj:=(List.getElem?_eq_some_iff.1 ht).1
    exact ⟨_,(compOs_get hts).2 j ops.toList[j] t (List.getElem?_eq_getElem (by simp;omega)) ht⟩))
  have hlen:ops.size=ts.length:=h3.symm
  have getF:∀ i,(Array.replicate ops.size false).getD i false=false:=fun i=>by
    rw [Array.getD_eq_getD_getElem?]
    by_cases hi:i<ops.size
    · simp [hi]
    · simp [hi]
  refine region_any (M0:=M) (B:=B) (w0:={ w with drawn:=w.drawn+1 }) hC hS hm hts h2' h2 tr kn (fun j t ht hb=>(segs_bar _ _ h1 j t (by rw [hfl];exact ht) hb).1) (fun j t ht hb=>(segs_bar _ _ h1 j t (by rw [hfl];exact ht) hb).2) hfo (fun c hc j t hj ht hb=>(hstab c hc).2 j t hj ht hb) (fun M' a' w' r' g' b'=>?_) (segsOf (wrq wr ops) (ops.toList.zip ts)) 0 (by simpa using hfl) h1 (Nat.zero_le _) (fun i=>by simp) ops.size (Array.replicate ops.size false) M _ a (by simp) (fun i _ _ _ _ hi=>by omega) (fun i t ht _ _=>?_) (fun i _ hi _ _ _=>absurd hi (Nat.not_lt_zero _)) (fun i o ho hi=>?_) ?_ ?_
  · rw [hE1,hH1] at r'
    rw [hH0,hH1] at g'
    exact hQ M' a' w' r' g' ⟨b'.os,b'.tape,b'.output,b'.size,b'.block⟩
  · have hlt:=(List.getElem?_eq_some_iff.1 ht).1
    rw [Array.getD_eq_getD_getElem?];simp [hlen,hlt]
  · have hlt:=(Array.getElem?_eq_some_iff.1 ho).1
    simp only at hi
    rw [Array.getD_eq_getD_getElem?] at hi
    simp [hlt] at hi
  · unfold unl
    rw [List.filter_eq_self.2 (fun i hi=>by
      have:i<ops.size:=by simpa using hi
      rw [Array.getD_eq_getD_getElem?];simp [this])]
    simp
  · refine ⟨hr0.sim,fun t _=>hr0.env t,fun i o ht hi=>?_,fun _ _ _=>rfl,Below.refl _ _,hr0.size,hr0.defers⟩
    have hlt:=(List.getElem?_eq_some_iff.1 ht).1
    rw [Array.getD_eq_getD_getElem?] at hi
    simp [hlen,hlt] at hi
theorem code_sound {C:Oracle} {tp:TP} {wr:Wr} (hC:OracleOk P C) (hS:OSteady C) (hm:MethsOk P tp) (hx:P.follows .mixedOrders=true) {n k:Nat}:∀ (c:Code) (tc:TC) (M:Mp) (B:Nat) (w:World) (h:AH) (e:Env) (a:Act) (z:Ex×Env×AH) (Q:Exit→Act→World→Prop),
    compC P wr n c=some tc→evC tp C k tc e h=some z→Rel M B w h e a n→Ends M B w h n z Q→c.wp P Q a w:=by
  intro c
  induction c with
  | skip=>
    intro tc M B w h e a z Q hc he hr hQ
    simp [compC] at hc;subst hc
    simp [evC] at he;subst he
    exact wp_skip (hQ M a w hr (Goes.refl M h) (Below.refl B w))
  | region id ops draw=>
    intro tc M B w h e a z Q hc he hr hQ
    simp only [compC,compReg] at hc
    cases draw with
    | true=>
      simp only [if_true] at hc
      have kind:∀ {fl:List Nat} {o2:Array Oper},compDraw P wr n fl o2=some tc→∃ segs,tc=.dreg segs:=fun hh=>by
        unfold compDraw at hh
        obtain ⟨ts,_,hh⟩:=bind_some hh
        simp only at hh
        split at hh
        · exact ⟨_,(Option.some.inj hh).symm⟩
        · simp at hh
      have done:∀ {fl:List Nat} {o2:Array Oper},compDraw P wr n fl o2=some tc→wpAny P .any o2 Q o2.size (Array.replicate o2.size false) a { w with drawn:=w.drawn+1 }:=fun hh=>by
        obtain ⟨segs,rfl⟩:=kind hh
        simp only [evC,Option.map_eq_some_iff] at he
        obtain ⟨y,hy,rfl⟩:=he
        exact draw_any hC hS hm hh hy hr (fun M' a' w' r' g' b'=>hQ M' a' w' r' g' b')
      refine wp_region_any hx ?_
      split at hc
      · rename_i c hcc
        exact done (hcc.trans hc)
      · split at hc
        · rename_i c hcc
          exact done (hcc.trans hc)
        · split at hc
          case isFalse=>simp at hc
          rename_i hok
          simp only [Bool.and_eq_true] at hok
          have p:=permOk_perm hok.1
          refine p.any hok.2 ops.size _ (Array.replicate ops.size false) a _ (by simp) (by simp) (fun i hi=>?_) ?_
          · rw [Array.getD_eq_getD_getElem?,Array.getD_eq_getD_getElem?]
            simp [hi,p.lt i hi]
          · have hd:wpAny P .any (permOps ops (reord (wrq wr ops) ops ops.size [])) Q (permOps ops (reord (wrq wr ops) ops ops.size [])).size (Array.replicate (permOps ops (reord (wrq wr ops) ops ops.size [])).size false) a { w with drawn:=w.drawn+1 }:=by
              split at hc
              · rename_i c hcc
                exact done (hcc.trans hc)
              · exact done hc
            rw [p.size] at hd
            exact hd
    | false=>
      simp only [Bool.false_eq_true,if_false,Option.map_eq_some_iff] at hc
      obtain ⟨ts,hts,rfl⟩:=hc
      simp only [evC,Option.map_eq_some_iff] at he
      obtain ⟨y,hy,rfl⟩:=he
      refine wp_region ?_
      have:=ops_sound hC hm ops.toList ts 0 M w h y.2 e y.1 a (fun j=>by simp) hts hy hr (Q:=Q) (fun M' a' w' r' g' b'=>hQ M' a' w' r' g' b')
      rw [List.range_eq_range']
      simpa using this
  | seq x y ihx ihy=>
    intro tc M B w h e a z Q hc he hr hQ
    simp only [compC] at hc
    obtain ⟨tx,htx,hc⟩:=bind_some hc
    simp only [Option.map_eq_some_iff] at hc
    obtain ⟨ty,hty,rfl⟩:=hc
    simp only [evC] at he
    obtain ⟨y1,hy1,he⟩:=bind_some he
    refine wp_seq (ihx tx M B w h e a y1 _ htx hy1 hr (fun M' a' w' r' g' b'=>?_))
    obtain ⟨ex,e1,h1⟩:=y1
    cases ex with
    | nm=>
      simp only at he
      exact ihy ty M' B w' h1 e1 a' z Q hty he r' (fun M'' a'' w'' r'' g'' b''=>hQ M'' a'' w'' r'' (g'.trans g'') (b'.trans b''))
    | ex id=>simp at he;subst he;exact hQ M' a' w' r' g' b'
    | rt=>simp at he;subst he;exact hQ M' a' w' r' g' b'
  | cond c x y ihx ihy=>
    intro tc M B w h e a z Q hc he hr hQ
    simp only [compC] at hc
    obtain ⟨tq,htq,hc⟩:=bind_some hc
    obtain ⟨tx,htx,hc⟩:=bind_some hc
    simp only [Option.map_eq_some_iff] at hc
    obtain ⟨ty,hty,rfl⟩:=hc
    have hv:=compX_VR hr.env htq
    simp only [evC] at he
    split at he
    · rename_i hq
      rw [hq] at hv
      cases hav:a.eval c<;>rw [hav] at hv<;>cases hv
      exact wp_cond hav (ihx tx M B w h e a z Q htx he hr hQ)
    · rename_i hq
      rw [hq] at hv
      cases hav:a.eval c<;>rw [hav] at hv<;>cases hv
      exact wp_cond hav (ihy ty M B w h e a z Q hty he hr hQ)
    · simp at he
  | block id c ih=>
    intro tc M B w h e a z Q hc he hr hQ
    simp only [compC,Option.map_eq_some_iff] at hc
    obtain ⟨tx,htx,rfl⟩:=hc
    simp only [evC,Option.map_eq_some_iff] at he
    obtain ⟨y,hy,rfl⟩:=he
    refine wp_block (ih tx M B w h e a y _ htx hy hr (fun M' a' w' r' g' b'=>?_))
    obtain ⟨ex,e1,h1⟩:=y
    have:=hQ M' a' w' r' g' b'
    cases ex with
    | nm=>exact this
    | rt=>exact this
    | ex j=>
      simp only [Ex.real,Exit.inBlock] at this ⊢
      split
      · rename_i hji;simpa [hji] using this
      · rename_i hji;simpa [hji] using this
  | loop c ih=>
    intro tc M B w h e a z Q hc he hr hQ
    simp only [compC,Option.map_eq_some_iff] at hc
    obtain ⟨tx,htx,rfl⟩:=hc
    simp only [evC] at he
    refine wp_loop_n (fun m a1 w1=>∃ M1 e1 h1,iter (evC tp C k tx) m e1 h1=some z∧Rel M1 B w1 h1 e1 a1 n∧Goes M M1 h h1∧Below B w w1) k ⟨M,e,h,he,hr,Goes.refl M h,Below.refl B w⟩ ?_
    intro m a1 w1 ⟨M1,e1,h1,hit,hr1,hg1,hb1⟩
    cases m with
    | zero=>simp [iter] at hit
    | succ m=>
      simp only [iter] at hit
      obtain ⟨y,hy,hit⟩:=bind_some hit
      refine ih tx M1 B w1 h1 e1 a1 y _ htx hy hr1 (fun M' a' w' r' g' b'=>?_)
      obtain ⟨ex,e2,h2⟩:=y
      cases ex with
      | nm=>exact ⟨m,Nat.lt_succ_self _,M',e2,h2,hit,r',hg1.trans g',hb1.trans b'⟩
      | ex id=>simp at hit;subst hit;exact hQ M' a' w' r' (hg1.trans g') (hb1.trans b')
      | rt=>simp at hit;subst hit;exact hQ M' a' w' r' (hg1.trans g') (hb1.trans b')
  | exit id=>
    intro tc M B w h e a z Q hc he hr hQ
    simp [compC] at hc;subst hc
    simp [evC] at he;subst he
    exact wp_exit (hQ M a w hr (Goes.refl M h) (Below.refl B w))
  | ret=>
    intro tc M B w h e a z Q hc he hr hQ
    simp [compC] at hc;subst hc
    simp [evC] at he;subst he
    exact wp_ret (hQ M a w hr (Goes.refl M h) (Below.refl B w))
  | _=>intro tc M B w h e a z Q hc;simp [compC] at hc
def rvRun (tmps:Array Value):ResultVar→Sem Value
  | .tmp t=>pure (tmps.getD t undef)
  | .cell b t=>do loadVar t (← asAddr (tmps.getD b undef))
theorem rvs_sound {M : Mp} {B : Nat} {w : World} {h : AH} {e : Env} {a : Act} (hs : Sim M B w h) (hE : EnvR M h e a) : ∀ (l : List ResultVar) (rs : List RV) (vs : List V), compRVs P l = some rs → rvs e h rs = some vs →
    ∃ xs:List Value,VRs M h vs xs∧(l.mapM (rvRun a.tmps)).run P w=.ok xs w
  | [],rs,vs,hc,he=>by
    simp [compRVs] at hc;subst hc
    simp [rvs] at he;subst he
    exact ⟨[],.nil,by simp⟩
  | r::l,rs,vs,hc,he=>by
    simp only [compRVs] at hc
    obtain ⟨x,hx,hc⟩:=bind_some hc
    simp only [Option.map_eq_some_iff] at hc
    obtain ⟨rs',hrs,rfl⟩:=hc
    simp only [rvs] at he
    obtain ⟨v,hv,he⟩:=bind_some he
    simp only [Option.map_eq_some_iff] at he
    obtain ⟨vs',hvs,rfl⟩:=he
    obtain ⟨xs,hxs,hrun⟩:=rvs_sound hs hE l rs' vs' hrs hvs
    cases r with
    | tmp t=>
      simp [compRV] at hx;subst hx
      simp [rvOf] at hv;subst hv
      exact ⟨_::xs,.cons _ _ _ _ (hE t) hxs,by simp only [List.mapM_cons,rvRun,Sem.run_bind,Sem.run_pure,Result.andThen_ok,hrun]⟩
    | cell b t=>
      simp only [compRV] at hx
      obtain ⟨s,hsz,hx⟩:=bind_some hx
      obtain ⟨g,hg,hx⟩:=bind_some hx
      split at hx
      case isFalse=>simp at hx
      simp only [Option.some.injEq] at hx
      subst hx
      simp only [rvOf] at hv
      have hb:=hE b
      split at hv
      case h_2=>simp at hv
      rename_i id el off hp
      rw [hp] at hb
      obtain ⟨kk,hkk,hv⟩:=bind_some hv
      obtain ⟨row,hrow,hv⟩:=bind_some hv
      cases hav:a.tmps.getD b undef<;>rw [hav] at hb<;>try (cases hb;done)
      rename_i ad0
      cases ad0 with
      | none=>cases hb
      | some ad=>
        obtain ⟨y,hy,hvy⟩:=load_VR (P:=P) hs trivial hb hkk hrow hv hsz hg
        refine ⟨y::xs,.cons _ _ _ _ hvy hxs, ?_⟩
        have h1:(rvRun a.tmps (.cell b t)).run P w=.ok y w:=by
          simp only [rvRun,Sem.run_bind]
          rw [hav]
          simp only [asAddr,Sem.run_pure,Result.andThen_ok,hy]
        simp only [List.mapM_cons,Sem.run_bind,Sem.run_pure,h1,Result.andThen_ok,hrun]
def TpOk (P:Program) (wr:Wr) (tp:TP):Prop:=∀ f tf,tp.fn f=some tf→∃ fn,P.funcs[f]?=some fn∧compF P wr fn=some tf
theorem ev_sound {tp:TP} {wr:Wr} (hT:TpOk P wr tp) (hm:MethsOk P tp) (hx:P.follows .mixedOrders=true):∀ k,OracleOk P (ev tp k):=by
  intro k
  induction k with
  | zero=>intro f args h v h' he;simp [ev] at he
  | succ k ih=>
    intro f args h v h' he
    simp only [ev] at he
    obtain ⟨tf,htf,he⟩:=bind_some he
    split at he
    case isFalse=>simp at he
    rename_i hargs
    obtain ⟨z,hz,he⟩:=bind_some he
    obtain ⟨fn,hfn,hcf⟩:=hT f tf htf
    unfold compF at hcf
    cases hb:fn.body with
    | none=>simp [hb] at hcf
    | some c=>
      simp only [hb] at hcf
      split at hcf
      case isTrue=>simp at hcf
      rename_i hname
      obtain ⟨rs,hrs,hcf⟩:=bind_some hcf
      simp only [Option.map_eq_some_iff] at hcf
      obtain ⟨tc,htc,rfl⟩:=hcf
      refine ⟨⟨fn,hfn,by simp [hb],by simpa using hname⟩,fun M B w xs hs hxs=>?_⟩
      have hl:=hxs.length
      have hl':args.length=xs.size:=by simpa using hl
      simp only at hargs
      refine calls_of_wp hfn hb ?_
      have hr0:Rel M B w h (env0 args) { tmps:=xs++Array.replicate (fn.ntmps - xs.size) undef,defers:=[] } fn.ntmps:=by
        refine ⟨hs,fun t=>?_,by simp;omega,rfl⟩
        simp only [env0]
        by_cases ht:t<args.length
        · obtain ⟨x,hx1,hx2⟩:=hxs.get t args[t] (by simp [ht])
          have hget:(xs++Array.replicate (fn.ntmps - xs.size) undef).getD t undef=x:=by
            rw [Array.getD_eq_getD_getElem?,Array.getElem?_append]
            rw [if_pos (by omega)]
            have:xs[t]?=some x:=by simpa using hx1
            rw [this];rfl
          rw [hget]
          have:args.getD t .u=args[t]:=by simp [List.getD,ht]
          rw [this];exact hx2
        · have:args.getD t .u=.u:=by simp [List.getD,List.getElem?_eq_none (Nat.le_of_not_lt ht)]
          rw [this];exact .u _
      refine code_sound (k:=k) ih (ev_steady tp k) hm hx c tc M B w h (env0 args) _ z _ htc hz hr0 (fun M' a' w' r' g' b'=>?_)
      obtain ⟨ex,z1,z2⟩:=z
      have fin:(resOf z1 z2 rs).map (fun v=>(v,z2))=some (v,h')→a'.defers=[]∧∃ x,(results fn a'.tmps).run P w'=.ok x w'∧∃ y M',Ending.returned x=.returned y∧Done M B w h v h' y w' M':=by
        intro hres
        simp only [Option.map_eq_some_iff,Prod.mk.injEq] at hres
        obtain ⟨v',hv',rfl,rfl⟩:=hres
        simp only [resOf,Option.map_eq_some_iff] at hv'
        obtain ⟨vs,hvs,rfl⟩:=hv'
        obtain ⟨ys,hys,hrun⟩:=rvs_sound r'.sim r'.env _ rs vs hrs hvs
        have hrun':(results fn a'.tmps).run P w'=.ok (if hh:ys.toArray.size=1 then ys.toArray[0] else .tuple ys.toArray) w':=by
          have e:results fn a'.tmps=(do let vs←Array.mapM (rvRun a'.tmps) fn.results;pure (if h:vs.size=1 then vs[0] else .tuple vs)):=rfl
          rw [e,Array.mapM_eq_mapM_toList]
          simp only [Sem.run_bind,Sem.run_map,hrun,Result.andThen_ok,Sem.run_pure]
        refine ⟨r'.defers,_,hrun',_,M',rfl,⟨?_,r'.sim,trivial,g',b'⟩⟩
        cases hys with
        | nil=>exact .tup _ _ .nil
        | cons v1 y1 l1 l1' p1 q1=>
          cases q1 with
          | nil=>simpa using p1
          | cons v2 y2 l2 l2' p2 q2=>
            have:¬ (y1::y2::l2').toArray.size=1:=by simp
            rw [dif_neg this]
            exact .tup _ _ (.cons _ _ _ _ p1 (.cons _ _ _ _ p2 q2))
      cases ex with
      | ex id=>simp at he
      | nm=>
        obtain ⟨h1,x,h2,h3⟩:=fin he
        exact ⟨h1,x,h2,h3⟩
      | rt=>
        obtain ⟨h1,x,h2,h3⟩:=fin he
        exact ⟨h1,x,h2,h3⟩
end
end Go.Ab
/- More fuel, the same answer; and the abstract machine without fuel, as conditions ahead of code. -/
namespace Go.Ab
universe u
open Go
def OLe (C D:Oracle):Prop:=∀ f args h z,C f args h=some z→D f args h=some z
theorem run1_mono {tp:TP} {C D:Oracle} (hC:OLe C D) {o:O} {ev:X→V} {h:AH} {z:V×AH} (hd:run1 tp C o ev h=some z):run1 tp D o ev h=some z:=by
  unfold run1 at hd ⊢
  split at hd
  · simp only [Option.bind_eq_some_iff] at hd ⊢
    obtain ⟨c,h1,hd⟩:=hd
    exact ⟨c,h1,hC _ _ _ _ hd⟩
  · simp only [Option.bind_eq_some_iff] at hd ⊢
    obtain ⟨c,h1,hd⟩:=hd
    exact ⟨c,h1,hC _ _ _ _ hd⟩
  · exact hd
theorem ops_mono {tp:TP} {C D:Oracle} (hC:OLe C D):∀ (l:List TO) (e:Env) (h:AH) (z:Env×AH),evOps tp C l e h=some z→evOps tp D l e h=some z
  | [],e,h,z,he=>by simpa [evOps] using he
  | o::l,e,h,z,he=>by
    simp only [evOps] at he ⊢
    split at he
    · simp only [Option.bind_eq_some_iff] at he ⊢
      obtain ⟨q,hq,he⟩:=he
      exact ⟨q,run1_mono hC hq,ops_mono hC l _ _ z he⟩
    · exact ops_mono hC l _ _ z he
    · simp at he
theorem quiet_mono {tp:TP} {C D:Oracle} (hC:OLe C D):∀ (l:List TO) (e:Env) (h:AH) (z:Env×AH),evQuiet tp C l e h=some z→evQuiet tp D l e h=some z
  | [],e,h,z,he=>by simpa [evQuiet] using he
  | o::l,e,h,z,he=>by
    unfold evQuiet at he ⊢
    cases hw:wantedT e o.g with
    | none=>simp [hw] at he
    | some b=>
      cases b with
      | false=>simp only [hw] at he ⊢;exact quiet_mono hC l _ _ z he
      | true=>
        simp only [hw] at he ⊢
        by_cases hp:isPure o.o=true
        · rw [if_pos hp] at he ⊢
          by_cases ha:alive o.o (X.ev e) h=true
          · rw [if_pos ha] at he ⊢
            simp only [Option.bind_eq_some_iff] at he ⊢
            obtain ⟨q,hq,he⟩:=he
            exact ⟨q,hq,quiet_mono hC l _ _ z he⟩
          · rw [if_neg ha] at he;simp at he
        · rw [if_neg hp] at he ⊢
          simp only [Option.bind_eq_some_iff] at he ⊢
          obtain ⟨q,hq,he⟩:=he
          exact ⟨q,run1_mono hC hq,quiet_mono hC l _ _ z he⟩
theorem segs_mono {tp:TP} {C D:Oracle} (hC:OLe C D):∀ (l:List (Bool×List TO)) (e:Env) (h:AH) (z:Env×AH),evSegs tp C l e h=some z→evSegs tp D l e h=some z
  | [],e,h,z,he=>by simpa [evSegs] using he
  | (q,l)::r,e,h,z,he=>by
    simp only [evSegs,Option.bind_eq_some_iff] at he ⊢
    obtain ⟨y,hy,he⟩:=he
    refine ⟨y, ?_,segs_mono hC r _ _ z he⟩
    cases q with
    | true=>exact quiet_mono hC l e h y hy
    | false=>exact ops_mono hC l e h y hy
theorem iter_mono {f g:Env→AH→Out} (hf:∀ e h z,f e h=some z→g e h=some z):∀ (n m:Nat) (e:Env) (h:AH) (z:Ex×Env×AH),n≤m→iter f n e h=some z→iter g m e h=some z
  | 0,_,e,h,z,_,he=>by simp [iter] at he
  | n+1,0,e,h,z,hn,he=>by omega
  | n+1,m+1,e,h,z,hn,he=>by
    simp only [iter,Option.bind_eq_some_iff] at he ⊢
    obtain ⟨y,hy,he⟩:=he
    refine ⟨y,hf _ _ _ hy, ?_⟩
    split at he
    · exact iter_mono hf n m _ _ z (by omega) he
    · exact he
theorem code_mono {tp:TP} {C D:Oracle} (hC:OLe C D) {n m:Nat} (hn:n≤m):∀ (c:TC) (e:Env) (h:AH) (z:Ex×Env×AH),evC tp C n c e h=some z→evC tp D m c e h=some z:=by
  intro c
  induction c with
  | skip=>intro e h z he;simpa [evC] using he
  | reg ops=>intro e h z he;simp only [evC,Option.map_eq_some_iff] at he ⊢;obtain ⟨y,hy,rfl⟩:=he;exact ⟨y,ops_mono hC ops e h y hy,rfl⟩
  | dreg segs=>intro e h z he;simp only [evC,Option.map_eq_some_iff] at he ⊢;obtain ⟨y,hy,rfl⟩:=he;exact ⟨y,segs_mono hC segs e h y hy,rfl⟩
  | seq a b iha ihb=>
    intro e h z he
    simp only [evC,Option.bind_eq_some_iff] at he ⊢
    obtain ⟨y,hy,he⟩:=he
    refine ⟨y,iha e h y hy, ?_⟩
    split at he
    · exact ihb _ _ z he
    · exact he
  | cond c a b iha ihb=>
    intro e h z he
    simp only [evC] at he ⊢
    split at he
    · exact iha e h z he
    · exact ihb e h z he
    · simp at he
  | block id c ih=>intro e h z he;simp only [evC,Option.map_eq_some_iff] at he ⊢;obtain ⟨y,hy,rfl⟩:=he;exact ⟨y,ih e h y hy,rfl⟩
  | loop c ih=>intro e h z he;simp only [evC] at he ⊢;exact iter_mono ih n m e h z hn he
  | exit id=>intro e h z he;simpa [evC] using he
  | ret=>intro e h z he;simpa [evC] using he
theorem ev_step (tp:TP):∀ k,OLe (ev tp k) (ev tp (k+1)):=by
  intro k
  induction k with
  | zero=>intro f args h z he;simp [ev] at he
  | succ k ih=>
    intro f args h z he
    rw [ev] at he ⊢
    simp only [Option.bind_eq_some_iff] at he ⊢
    obtain ⟨tf,h1,he⟩:=he
    refine ⟨tf,h1, ?_⟩
    split at he
    case isFalse=>simp at he
    rename_i hl
    simp only [hl,if_true]
    simp only [Option.bind_eq_some_iff] at he ⊢
    obtain ⟨y,hy,he⟩:=he
    exact ⟨y,code_mono ih (Nat.le_succ k) tf.body _ h y hy,he⟩
theorem ev_mono (tp:TP) {k m:Nat} (hk:k≤m):OLe (ev tp k) (ev tp m):=by
  obtain ⟨d,rfl⟩:=Nat.le.dest hk
  clear hk
  induction d with
  | zero=>intro f args h z he;exact he
  | succ d ih=>intro f args h z he;exact ev_step tp (k+d) f args h z (ih f args h z he)
/-! ### Without fuel -/
section
variable (tp:TP)
theorem nrfl {α:Sort u} {a b:α} (h:a=b):a=b:=h
inductive Fz {α:Sort u} (a:α):Type where
  | mk
def Ev (f:Nat) (args:List V) (h:AH) (Q:V→AH→Prop) (t:Fz Q:=.mk):Prop:=∃ k v h',ev tp k f args h=some (v,h')∧Q v h'
def W1 (o:O) (e:Env) (h:AH) (Q:V→AH→Prop) (t:Fz Q:=.mk):Prop:=∃ k v h',run1 tp (ev tp k) o (X.ev e) h=some (v,h')∧Q v h'
def WOps (l:List TO) (e:Env) (h:AH) (Q:Env→AH→Prop) (t:Fz (PProd.mk e Q):=.mk):Prop:=∃ k e' h',evOps tp (ev tp k) l e h=some (e',h')∧Q e' h'
def WQ (l:List TO) (e:Env) (h:AH) (Q:Env→AH→Prop) (t:Fz (PProd.mk e Q):=.mk):Prop:=∃ k e' h',evQuiet tp (ev tp k) l e h=some (e',h')∧Q e' h'
def WS (l:List (Bool×List TO)) (e:Env) (h:AH) (Q:Env→AH→Prop) (t:Fz (PProd.mk e Q):=.mk):Prop:=∃ k e' h',evSegs tp (ev tp k) l e h=some (e',h')∧Q e' h'
def WC (c:TC) (e:Env) (h:AH) (Q:Ex→Env→AH→Prop) (t:Fz (PProd.mk e Q):=.mk):Prop:=∃ k x e' h',evC tp (ev tp k) k c e h=some (x,e',h')∧Q x e' h'
def Wo {α:Type} (x:Option α) (K:α→Prop) (t:Fz K:=.mk):Prop:=∃ a,x=some a∧K a
def Wv {α:Type} (a:α) (K:α→Prop) (t:Fz K:=.mk):Prop:=K a
def Wb (v:V) (A B:Prop) (t:Fz (PProd.mk A B):=.mk):Prop:=match v with | .b true=>A | .b false=>B | _=>False
def Wg (v:V) (x:Bool) (A B:Prop) (t:Fz (PProd.mk A B):=.mk):Prop:=match v with | .b y=>(if y=x then A else B) | .tup []=>B | _=>False
def nxt (x:Ex) (A B:Prop) (t:Fz (PProd.mk A B):=.mk):Prop:=match x with | .nm=>A | _=>B
def blk (id:Nat) (x:Ex):Ex:=match x with | .ex j=>if j=id then .nm else .ex j | x=>x
variable {tp}
theorem Wo_some {α:Type} {a:α} {K:α→Prop}:Wo (some a) K=K a:=propext ⟨fun ⟨_,h,k⟩=>(by cases h;exact k),fun h=>⟨a,rfl,h⟩⟩
theorem Wo_none {α:Type} {K:α→Prop}:Wo none K=False:=propext ⟨fun ⟨_,h,k⟩=>(by cases h),False.elim⟩
theorem Wo_bind {α β:Type} {x:Option α} {f:α→Option β} {K:β→Prop}:Wo (x.bind f) K=Wo x (fun a=>Wo (f a) K):=propext ⟨fun ⟨b,h,k⟩=>by
  simp only [Option.bind_eq_some_iff] at h;obtain ⟨a,h1,h2⟩:=h;exact ⟨a,h1,b,h2,k⟩,fun ⟨a,h,b,h2,k⟩=>⟨b,by simp only [h,Option.bind_some,h2],k⟩⟩
theorem Wo_map {α β:Type} {x:Option α} {f:α→β} {K:β→Prop}:Wo (x.map f) K=Wo x (fun a=>K (f a)):=propext ⟨fun ⟨b,h,k⟩=>by
  simp only [Option.map_eq_some_iff] at h;obtain ⟨a,h1,rfl⟩:=h;exact ⟨a,h1,k⟩,fun ⟨a,h,k⟩=>⟨f a,by simp only [h,Option.map_some],k⟩⟩
theorem Wo_ite {α:Type} {c:Prop} [Decidable c] {x:Option α} {K:α→Prop}:Wo (if c then x else none) K=(c∧Wo x K):=by
  by_cases hc:c
  · simp [hc]
  · simp [hc,Wo_none]
theorem Wo_ext {α:Type} {x:Option α} {K L:α→Prop} (h:∀ a,K a=L a):Wo x K=Wo x L:=by rw [show K=L from funext h]
theorem Wv_go {α:Type} {a:α} {K:α→Prop}:Wv a K=K a:=nrfl rfl
theorem Wg_dec {p:Prop} [Decidable p] {x:Bool} {A B:Prop} (h1:p→Wg (.b true) x A B) (h2:¬ p→Wg (.b false) x A B):Wg (.b (decide p)) x A B:=by by_cases hp:p<;>simp_all
theorem Wg_of {c x:Bool} {A B:Prop} (h1:c=true→Wg (.b true) x A B) (h2:c=false→Wg (.b false) x A B):Wg (.b c) x A B:=by cases c<;>simp_all
theorem Wb_true {A B:Prop}:Wb (.b true) A B=A:=nrfl rfl
theorem Wb_false {A B:Prop}:Wb (.b false) A B=B:=nrfl rfl
theorem Wb_of {c:Bool} {A B:Prop} (h1:c=true→A) (h2:c=false→B):Wb (.b c) A B:=by cases c<;>simp_all [Wb]
theorem Wb_dec {p:Prop} [Decidable p] {A B:Prop} (h1:p→A) (h2:¬ p→B):Wb (.b (decide p)) A B:=by by_cases hp:p<;>simp_all [Wb]
theorem Wg_skip {x:Bool} {A B:Prop}:Wg (.tup []) x A B=B:=nrfl rfl
theorem Wg_tt {A B:Prop}:Wg (.b true) true A B=A:=by simp [Wg]
theorem Wg_tf {A B:Prop}:Wg (.b true) false A B=B:=by simp [Wg]
theorem Wg_ft {A B:Prop}:Wg (.b false) true A B=B:=by simp [Wg]
theorem Wg_ff {A B:Prop}:Wg (.b false) false A B=A:=by simp [Wg]
theorem nxt_nm {A B:Prop}:nxt .nm A B=A:=nrfl rfl
theorem nxt_rt {A B:Prop}:nxt .rt A B=B:=nrfl rfl
theorem nxt_ex {i:Nat} {A B:Prop}:nxt (.ex i) A B=B:=nrfl rfl
theorem blk_nm {i:Nat}:blk i .nm=.nm:=nrfl rfl
theorem blk_rt {i:Nat}:blk i .rt=.rt:=nrfl rfl
theorem blk_ex {i j:Nat}:blk i (.ex j)=if j=i then .nm else .ex j:=nrfl rfl
theorem WC_skip {e:Env} {h:AH} {Q:Ex→Env→AH→Prop}:WC tp .skip e h Q=Q .nm e h:=propext ⟨fun ⟨k,x,e',h',he,hq⟩=>by simp [evC] at he;obtain ⟨rfl,rfl,rfl⟩:=he;exact hq,fun hq=>⟨0,_,_,_,rfl,hq⟩⟩
theorem WC_ret {e:Env} {h:AH} {Q:Ex→Env→AH→Prop}:WC tp .ret e h Q=Q .rt e h:=propext ⟨fun ⟨k,x,e',h',he,hq⟩=>by simp [evC] at he;obtain ⟨rfl,rfl,rfl⟩:=he;exact hq,fun hq=>⟨0,_,_,_,rfl,hq⟩⟩
theorem WC_exit {id:Nat} {e:Env} {h:AH} {Q:Ex→Env→AH→Prop}:WC tp (.exit id) e h Q=Q (.ex id) e h:=propext ⟨fun ⟨k,x,e',h',he,hq⟩=>by simp [evC] at he;obtain ⟨rfl,rfl,rfl⟩:=he;exact hq,fun hq=>⟨0,_,_,_,rfl,hq⟩⟩
theorem WC_reg {ops:List TO} {e:Env} {h:AH} {Q:Ex→Env→AH→Prop}:WC tp (.reg ops) e h Q=WOps tp ops e h (fun e h=>Q .nm e h):=propext ⟨fun ⟨k,x,e',h',he,hq⟩=>by
  simp only [evC,Option.map_eq_some_iff] at he;obtain ⟨⟨y1,y2⟩,hy,he⟩:=he;cases he;exact ⟨k,_,_,hy,hq⟩,fun ⟨k,e',h',he,hq⟩=>⟨k,_,_,_,by simp only [evC,he,Option.map_some],hq⟩⟩
theorem WC_dreg {ops:List (Bool×List TO)} {e:Env} {h:AH} {Q:Ex→Env→AH→Prop}:WC tp (.dreg ops) e h Q=WS tp ops e h (fun e h=>Q .nm e h):=propext ⟨fun ⟨k,x,e',h',he,hq⟩=>by
  simp only [evC,Option.map_eq_some_iff] at he;obtain ⟨⟨y1,y2⟩,hy,he⟩:=he;cases he;exact ⟨k,_,_,hy,hq⟩,fun ⟨k,e',h',he,hq⟩=>⟨k,_,_,_,by simp only [evC,he,Option.map_some],hq⟩⟩
theorem WC_cond {c:X} {a b:TC} {e:Env} {h:AH} {Q:Ex→Env→AH→Prop}:WC tp (.cond c a b) e h Q=Wb (c.ev e) (WC tp a e h Q) (WC tp b e h Q):=propext ⟨fun ⟨k,x,e',h',he,hq⟩=>by
  simp only [evC] at he
  split at he
  · rename_i hn';simp only [hn',Wb];exact ⟨k,x,e',h',he,hq⟩
  · rename_i hn';simp only [hn',Wb];exact ⟨k,x,e',h',he,hq⟩
  · simp at he,fun hw=>by
  unfold Wb at hw
  split at hw
  · rename_i hn';obtain ⟨k,x,e',h',he,hq⟩:=hw;exact ⟨k,x,e',h',by simp only [evC,hn',he],hq⟩
  · rename_i hn';obtain ⟨k,x,e',h',he,hq⟩:=hw;exact ⟨k,x,e',h',by simp only [evC,hn',he],hq⟩
  · exact hw.elim⟩
theorem WC_block {id:Nat} {c:TC} {e:Env} {h:AH} {Q:Ex→Env→AH→Prop}:WC tp (.block id c) e h Q=WC tp c e h (fun x e h=>Q (blk id x) e h):=propext ⟨fun ⟨k,x,e',h',he,hq⟩=>by
  simp only [evC,Option.map_eq_some_iff] at he;obtain ⟨⟨x1,y1,y2⟩,hy,he⟩:=he;cases he;exact ⟨k,_,_,_,hy,by cases x1<;>exact hq⟩,fun ⟨k,x,e',h',he,hq⟩=>⟨k,blk id x,e',h',by simp only [evC,he,Option.map_some];cases x<;>rfl,hq⟩⟩
theorem WC_seq {a b:TC} {e:Env} {h:AH} {Q:Ex→Env→AH→Prop}:WC tp (.seq a b) e h Q=WC tp a e h (fun x e h=>nxt x (WC tp b e h Q) (Q x e h)):=propext ⟨fun ⟨k,x,e',h',he,hq⟩=>by
  simp only [evC,Option.bind_eq_some_iff] at he
  obtain ⟨⟨x1,e1,h1⟩,hy,he⟩:=he
  refine ⟨k,x1,e1,h1,hy, ?_⟩
  cases x1 with
  | nm=>exact ⟨k,x,e',h',he,hq⟩
  | ex j=>simp at he;obtain ⟨rfl,rfl,rfl⟩:=he;exact hq
  | rt=>simp at he;obtain ⟨rfl,rfl,rfl⟩:=he;exact hq,fun ⟨k,x,e',h',he,hq⟩=>by
  cases x with
  | nm=>
    obtain ⟨k2,x2,e2,h2,he2,hq2⟩:=hq
    refine ⟨max k k2,x2,e2,h2, ?_,hq2⟩
    have p:=code_mono (tp:=tp) (ev_mono tp (Nat.le_max_left k k2)) (Nat.le_max_left k k2) a e h _ he
    have q:=code_mono (tp:=tp) (ev_mono tp (Nat.le_max_right k k2)) (Nat.le_max_right k k2) b e' h' _ he2
    simp only [evC,p,Option.bind_some,q]
  | ex j=>exact ⟨k,_,_,_,by simp only [evC,he,Option.bind_some],hq⟩
  | rt=>exact ⟨k,_,_,_,by simp only [evC,he,Option.bind_some],hq⟩⟩
theorem WC_loop {c:TC} {e:Env} {h:AH} {Q:Ex→Env→AH→Prop} (hw:WC tp c e h (fun x e h=>nxt x (WC tp (.loop c) e h Q) (Q x e h))):WC tp (.loop c) e h Q:=by
  obtain ⟨k,x,e',h',he,hq⟩:=hw
  cases x with
  | nm=>
    obtain ⟨k2,x2,e2,h2,he2,hq2⟩:=hq
    refine ⟨max k k2+1,x2,e2,h2, ?_,hq2⟩
    have p:=code_mono (tp:=tp) (ev_mono tp (Nat.le_succ_of_le (Nat.le_max_left k k2))) (Nat.le_succ_of_le (Nat.le_max_left k k2)) c e h _ he
    simp only [evC] at he2 ⊢
    have q:=iter_mono (fun e h z hz=>code_mono (tp:=tp) (ev_mono tp (Nat.le_succ_of_le (Nat.le_max_right k k2))) (Nat.le_succ_of_le (Nat.le_max_right k k2)) c e h z hz) k2 (max k k2) e' h' _ (Nat.le_max_right k k2) he2
    simp only [iter,p,Option.bind_some]
    exact q
  | ex j=>exact ⟨k+1,_,_,_,by
      have p:=code_mono (tp:=tp) (ev_mono tp (Nat.le_succ k)) (Nat.le_succ k) c e h _ he
      simp only [evC,iter,p,Option.bind_some],hq⟩
  | rt=>exact ⟨k+1,_,_,_,by
      have p:=code_mono (tp:=tp) (ev_mono tp (Nat.le_succ k)) (Nat.le_succ k) c e h _ he
      simp only [evC,iter,p,Option.bind_some],hq⟩
theorem WOps_nil {e:Env} {h:AH} {Q:Env→AH→Prop}:WOps tp [] e h Q=Q e h:=propext ⟨fun ⟨k,e',h',he,hq⟩=>by simp [evOps] at he;obtain ⟨rfl,rfl⟩:=he;exact hq,fun hq=>⟨0,_,_,rfl,hq⟩⟩
theorem WOps_run {d:Option Nat} {o:O} {g:Option (Nat×Bool)} {r:List TO} {e:Env} {h:AH} {Q:Env→AH→Prop} (hg:wantedT e g=some true):WOps tp (⟨d,o,g⟩::r) e h Q=W1 tp o e h (fun v h=>WOps tp r (e.set d v) h Q):=propext ⟨fun ⟨k,e',h',he,hq⟩=>by
  simp only [evOps,hg,Option.bind_eq_some_iff] at he
  obtain ⟨⟨y1,y2⟩,hy,he⟩:=he
  exact ⟨k,y1,y2,hy,k,e',h',he,hq⟩,fun ⟨k,v,h1,he,k2,e2,h2,he2,hq⟩=>by
  refine ⟨max k k2,e2,h2, ?_,hq⟩
  have p:=run1_mono (tp:=tp) (ev_mono tp (Nat.le_max_left k k2)) he
  have q:=ops_mono (tp:=tp) (ev_mono tp (Nat.le_max_right k k2)) r _ _ _ he2
  simp only [evOps,hg,p,Option.bind_some,q]⟩
theorem WOps_skip {d:Option Nat} {o:O} {g:Option (Nat×Bool)} {r:List TO} {e:Env} {h:AH} {Q:Env→AH→Prop} (hg:wantedT e g=some false):WOps tp (⟨d,o,g⟩::r) e h Q=WOps tp r (e.set d (.tup [])) h Q:=by
  unfold WOps;simp only [evOps,hg]
theorem WS_nil {e:Env} {h:AH} {Q:Env→AH→Prop}:WS tp [] e h Q=Q e h:=propext ⟨fun ⟨k,e',h',he,hq⟩=>by simp [evSegs] at he;obtain ⟨rfl,rfl⟩:=he;exact hq,fun hq=>⟨0,_,_,rfl,hq⟩⟩
theorem WS_bar {l:List TO} {r:List (Bool×List TO)} {e:Env} {h:AH} {Q:Env→AH→Prop}:WS tp ((false,l)::r) e h Q=WOps tp l e h (fun e h=>WS tp r e h Q):=propext ⟨fun ⟨k,e',h',he,hq⟩=>by
  simp only [evSegs,Bool.false_eq_true,if_false,Option.bind_eq_some_iff] at he
  obtain ⟨⟨y1,y2⟩,hy,he⟩:=he
  exact ⟨k,y1,y2,hy,k,e',h',he,hq⟩,fun ⟨k,v,h1,he,k2,e2,h2,he2,hq⟩=>by
  refine ⟨max k k2,e2,h2, ?_,hq⟩
  have p:=ops_mono (tp:=tp) (ev_mono tp (Nat.le_max_left k k2)) l _ _ _ he
  have q:=segs_mono (tp:=tp) (ev_mono tp (Nat.le_max_right k k2)) r _ _ _ he2
  simp only [evSegs,Bool.false_eq_true,if_false,p,Option.bind_some,q]⟩
theorem WS_quiet {l:List TO} {r:List (Bool×List TO)} {e:Env} {h:AH} {Q:Env→AH→Prop}:WS tp ((true,l)::r) e h Q=WQ tp l e h (fun e h=>WS tp r e h Q):=propext ⟨fun ⟨k,e',h',he,hq⟩=>by
  simp only [evSegs,if_true,Option.bind_eq_some_iff] at he
  obtain ⟨⟨y1,y2⟩,hy,he⟩:=he
  exact ⟨k,y1,y2,hy,k,e',h',he,hq⟩,fun ⟨k,v,h1,he,k2,e2,h2,he2,hq⟩=>by
  refine ⟨max k k2,e2,h2, ?_,hq⟩
  have p:=quiet_mono (tp:=tp) (ev_mono tp (Nat.le_max_left k k2)) l _ _ _ he
  have q:=segs_mono (tp:=tp) (ev_mono tp (Nat.le_max_right k k2)) r _ _ _ he2
  simp only [evSegs,if_true,p,Option.bind_some,q]⟩
def WQ1 (tp:TP) (o:O) (e:Env) (h:AH) (K:V→AH→Prop) (t:Fz K:=.mk):Prop:=
  if isPure o=true then alive o (X.ev e) h=true∧W1 tp o e h K else W1 tp o e h.raise (fun v h'=>K v (h'.back h.lim))
theorem WQ_nil {e:Env} {h:AH} {Q:Env→AH→Prop}:WQ tp [] e h Q=Q e h:=propext ⟨fun ⟨k,e',h',he,hq⟩=>by simp [evQuiet] at he;obtain ⟨rfl,rfl⟩:=he;exact hq,fun hq=>⟨0,_,_,rfl,hq⟩⟩
theorem run1_pure {C:Oracle} {o:O} {ev:X→V} {h:AH} (hp:isPure o=true):run1 tp C o ev h=doOp o ev h:=by
  unfold run1;split<;>first | rfl | simp [isPure] at hp
theorem WQ_run {d:Option Nat} {o:O} {g:Option (Nat×Bool)} {r:List TO} {e:Env} {h:AH} {Q:Env→AH→Prop} (hg:wantedT e g=some true):WQ tp (⟨d,o,g⟩::r) e h Q=WQ1 tp o e h (fun v h=>WQ tp r (e.set d v) h Q):=propext ⟨fun ⟨k,e',h',he,hq⟩=>by
  simp only [evQuiet,hg] at he
  unfold WQ1
  split at he
  · rename_i hp
    split at he
    · rename_i hal
      simp only [Option.bind_eq_some_iff] at he
      obtain ⟨⟨y1,y2⟩,hy,he⟩:=he
      rw [if_pos hp]
      have hyh:y2=h:=by have:=pure_same hp hy;exact this
      subst hyh
      exact ⟨hal,k,y1,y2,by rw [run1_pure hp];exact hy,k,e',h',he,hq⟩
    · simp at he
  · rename_i hp
    simp only [Option.bind_eq_some_iff] at he
    obtain ⟨⟨y1,y2⟩,hy,he⟩:=he
    rw [if_neg hp]
    exact ⟨k,y1,y2,hy,k,e',h',he,hq⟩,fun hw=>by
  unfold WQ1 at hw
  split at hw
  · rename_i hp
    obtain ⟨hal,k,v,h1,he,k2,e2,h2,he2,hq⟩:=hw
    rw [run1_pure hp] at he
    have hyh:h1=h:=pure_same hp he
    subst hyh
    exact ⟨k2,e2,h2,by simp only [evQuiet,hg,hp,hal,if_true,he,Option.bind_some,he2],hq⟩
  · rename_i hp
    obtain ⟨k,v,h1,he,k2,e2,h2,he2,hq⟩:=hw
    refine ⟨max k k2,e2,h2, ?_,hq⟩
    have p:=run1_mono (tp:=tp) (ev_mono tp (Nat.le_max_left k k2)) he
    have q:=quiet_mono (tp:=tp) (ev_mono tp (Nat.le_max_right k k2)) r _ _ _ he2
    simp only [evQuiet,hg,hp,Bool.false_eq_true,if_false,p,Option.bind_some,q]⟩
theorem WQ_skip {d:Option Nat} {o:O} {g:Option (Nat×Bool)} {r:List TO} {e:Env} {h:AH} {Q:Env→AH→Prop} (hg:wantedT e g=some false):WQ tp (⟨d,o,g⟩::r) e h Q=WQ tp r (e.set d (.tup [])) h Q:=by
  unfold WQ;simp only [evQuiet,hg]
theorem W1_do {o:O} {e:Env} {h:AH} {K:V→AH→Prop} (hn:∀ C:Oracle,run1 tp C o (X.ev e) h=doOp o (X.ev e) h):W1 tp o e h K=Wo (doOp o (X.ev e) h) (fun z=>K z.1 z.2):=propext ⟨fun ⟨k,v,h',he,hk⟩=>⟨(v,h'),by rw [← hn];exact he,hk⟩,fun ⟨⟨v,h'⟩,he,hk⟩=>⟨0,v,h',by rw [hn];exact he,hk⟩⟩
theorem W1_call {f:X} {l:List X} {e:Env} {h:AH} {K:V→AH→Prop}:W1 tp (.call f l) e h K=Wo (callee tp (.call f l) (X.ev e)) (fun c=>Ev tp c.1 c.2 h K):=propext ⟨fun ⟨k,v,h',he,hk⟩=>by
  simp only [run1,Option.bind_eq_some_iff] at he
  obtain ⟨c,hc,he⟩:=he
  exact ⟨c,hc,k,v,h',he,hk⟩,fun ⟨c,hc,k,v,h',he,hk⟩=>⟨k,v,h',by simp only [run1,hc,Option.bind_some,he],hk⟩⟩
theorem W1_inv {x:X} {m:String} {l:List X} {e:Env} {h:AH} {K:V→AH→Prop}:W1 tp (.inv x m l) e h K=Wo (callee tp (.inv x m l) (X.ev e)) (fun c=>Ev tp c.1 c.2 h K):=propext ⟨fun ⟨k,v,h',he,hk⟩=>by
  simp only [run1,Option.bind_eq_some_iff] at he
  obtain ⟨c,hc,he⟩:=he
  exact ⟨c,hc,k,v,h',he,hk⟩,fun ⟨c,hc,k,v,h',he,hk⟩=>⟨k,v,h',by simp only [run1,hc,Option.bind_some,he],hk⟩⟩
def Wend (res:List RV) (x:Ex) (e:Env) (h:AH) (Q:V→AH→Prop) (t:Fz (PProd.mk e Q):=.mk):Prop:=match x with | .ex _=>False | _=>Wo (resOf e h res) (fun v=>Q v h)
theorem Ev_of {f:Nat} {args:List V} {h:AH} {Q:V→AH→Prop} {tf:TF} (hf:tp.fn f=some tf) (hl:args.length≤tf.n) (hw:WC tp tf.body (env0 args) h (fun x e h=>Wend tf.res x e h Q)):Ev tp f args h Q:=by
  obtain ⟨k,x,e',h',he,hq⟩:=hw
  unfold Wend at hq
  split at hq
  · exact hq.elim
  · rename_i hx
    obtain ⟨v,hv,hq⟩:=hq
    refine ⟨k+1,v,h', ?_,hq⟩
    rw [ev]
    simp only [hf,Option.bind_some,if_pos hl,he,hv,Option.map_some]
theorem Ev.imp {f:Nat} {args:List V} {h:AH} {Q R:V→AH→Prop} (hw:Ev tp f args h Q) (hqr:∀ v h',Q v h'→R v h'):Ev tp f args h R:=by
  obtain ⟨k,v,h',he,hq⟩:=hw;exact ⟨k,v,h',he,hqr v h' hq⟩
theorem Ev.steady {f:Nat} {args:List V} {h:AH} {Q:V→AH→Prop} (hw:Ev tp f args h Q):Ev tp f args h (fun v h'=>Q v h'∧Steady h h'):=by
  obtain ⟨k,v,h',he,hq⟩:=hw;exact ⟨k,v,h',he,hq,ev_steady tp k f args h v h' he⟩
theorem WC.imp {c:TC} {e:Env} {h:AH} {Q R:Ex→Env→AH→Prop} (hw:WC tp c e h Q) (hqr:∀ x e' h',Q x e' h'→R x e' h'):WC tp c e h R:=by
  obtain ⟨k,x,e',h',he,hq⟩:=hw;exact ⟨k,x,e',h',he,hqr x e' h' hq⟩
end
end Go.Ab
/- Values that stay (frozen slices as lists), over the abstract machine: when a value, a heap of this is that of the abstract machine; how it goes on. -/
namespace Go.Ab
open Go
def frzLen:Nat:=4000000000
mutual
inductive PR (S:Nat→Prop) (m:Nat→Nat) (g:Nat→Option Blk):Nat→V→V→Prop where
  | u (n:Nat) (x:V):PR S m g n .u x
  | b (n:Nat) (x:Bool):PR S m g n (.b x) (.b x)
  | i (n:Nat) (k:IntKind) (z:Int):PR S m g n (.i k z) (.i k z)
  | s (n:Nat) (x:ByteArray):PR S m g n (.s x) (.s x)
  | np (n:Nat):PR S m g n .np .np
  | ns (n:Nat):PR S m g n .ns .ns
  | e0 (n:Nat):PR S m g n .e0 .e0
  | nf (n:Nat):PR S m g n .nf .nf
  | ni (n:Nat):PR S m g n .ni .ni
  | p (n id el off:Nat):id<n→PR S m g n (.p id el off) (.p (m id) el off)
  | sl (n id el len cap:Nat):id<n→PR S m g n (.sl id el len cap) (.sl (m id) el len cap)
  | fl0 (n sz:Nat):PR S m g n (.fl sz []) .ns
  | fl1 (n sz:Nat):PR S m g n (.fl sz []) .e0
  | fl (n sz:Nat) (xs:List (List V)) (a el cap:Nat) (cs:List (List V)):S a→g a=some ⟨sz,cs⟩→xs.length≤cap→el+xs.length≤cs.length→xs.length<frzLen→PRr S m g 0 xs ((cs.drop el).take xs.length)→PR S m g n (.fl sz xs) (.sl a el xs.length cap)
  | fp (n sz:Nat) (xs:List (List V)) (j off a el:Nat) (cs:List (List V)):S a→g a=some ⟨sz,cs⟩→el+xs.length≤cs.length→PRr S m g 0 xs ((cs.drop el).take xs.length)→PR S m g n (.fp sz xs j off) (.p a (el+j) off)
  | f (n:Nat) (fn:Fn) (a c a' c':List V):PRs S m g n a a'→PRs S m g n c c'→PR S m g n (.f fn a c) (.f fn a' c')
  | ifc (n t:Nat) (v v':V):PR S m g n v v'→PR S m g n (.ifc t v) (.ifc t v')
  | agg (n:Nat) (l l':List V):PRs S m g n l l'→PR S m g n (.agg l) (.agg l')
  | tup (n:Nat) (l l':List V):PRs S m g n l l'→PR S m g n (.tup l) (.tup l')
inductive PRs (S:Nat→Prop) (m:Nat→Nat) (g:Nat→Option Blk):Nat→List V→List V→Prop where
  | nil (n:Nat):PRs S m g n [] []
  | cons (n:Nat) (v v':V) (l l':List V):PR S m g n v v'→PRs S m g n l l'→PRs S m g n (v::l) (v'::l')
inductive PRr (S:Nat→Prop) (m:Nat→Nat) (g:Nat→Option Blk):Nat→List (List V)→List (List V)→Prop where
  | nil (n:Nat):PRr S m g n [] []
  | cons (n:Nat) (v v':List V) (l l':List (List V)):PRs S m g n v v'→PRr S m g n l l'→PRr S m g n (v::l) (v'::l')
end
structure PMon (S:Nat→Prop) (m:Nat→Nat) (g:Nat→Option Blk) (n:Nat) (S':Nat→Prop) (m':Nat→Nat) (g':Nat→Option Blk) (n':Nat):Prop where
  s:∀ a,S a→S' a
  g:∀ a,S a→g' a=g a
  m:∀ i,i<n→m' i=m i
  n:n≤n'
theorem PMon.zero {S S':Nat→Prop} {m m':Nat→Nat} {g g':Nat→Option Blk} {n n':Nat} (k:PMon S m g n S' m' g' n'):PMon S m g 0 S' m' g' 0:=
  ⟨k.s,k.g,fun i hi=>absurd hi (Nat.not_lt_zero _),Nat.le_refl _⟩
mutual
theorem PR.mono {S S':Nat→Prop} {m m':Nat→Nat} {g g':Nat→Option Blk} {n n':Nat} (k:PMon S m g n S' m' g' n'):∀ {v v':V},PR S m g n v v'→PR S' m' g' n' v v'
  | _,_,.u _ x=>.u _ x
  | _,_,.b _ x=>.b _ x
  | _,_,.i _ q z=>.i _ q z
  | _,_,.s _ x=>.s _ x
  | _,_,.np _=>.np _
  | _,_,.ns _=>.ns _
  | _,_,.e0 _=>.e0 _
  | _,_,.nf _=>.nf _
  | _,_,.ni _=>.ni _
  | _,_,.p _ id el off h=>by rw [← k.m id h];exact .p _ id el off (Nat.lt_of_lt_of_le h k.n)
  | _,_,.sl _ id el len cap h=>by rw [← k.m id h];exact .sl _ id el len cap (Nat.lt_of_lt_of_le h k.n)
  | _,_,.fl0 _ sz=>.fl0 _ sz
  | _,_,.fl1 _ sz=>.fl1 _ sz
  | _,_,.fl _ sz xs a el cap cs ha hg h1 h2 h3 r=>.fl _ sz xs a el cap cs (k.s a ha) ((k.g a ha).trans hg) h1 h2 h3 (PRr.mono k.zero r)
  | _,_,.fp _ sz xs j off a el cs ha hg h2 r=>.fp _ sz xs j off a el cs (k.s a ha) ((k.g a ha).trans hg) h2 (PRr.mono k.zero r)
  | _,_,.f _ fn a c a' c' p q=>.f _ fn a c a' c' (PRs.mono k p) (PRs.mono k q)
  | _,_,.ifc _ t v v' p=>.ifc _ t v v' (PR.mono k p)
  | _,_,.agg _ l l' p=>.agg _ l l' (PRs.mono k p)
  | _,_,.tup _ l l' p=>.tup _ l l' (PRs.mono k p)
theorem PRs.mono {S S':Nat→Prop} {m m':Nat→Nat} {g g':Nat→Option Blk} {n n':Nat} (k:PMon S m g n S' m' g' n'):∀ {v v':List V},PRs S m g n v v'→PRs S' m' g' n' v v'
  | _,_,.nil _=>.nil _
  | _,_,.cons _ v v' l l' p q=>.cons _ v v' l l' (PR.mono k p) (PRs.mono k q)
theorem PRr.mono {S S':Nat→Prop} {m m':Nat→Nat} {g g':Nat→Option Blk} {n n':Nat} (k:PMon S m g n S' m' g' n'):∀ {v v':List (List V)},PRr S m g n v v'→PRr S' m' g' n' v v'
  | _,_,.nil _=>.nil _
  | _,_,.cons _ v v' l l' p q=>.cons _ v v' l l' (PRs.mono k p) (PRr.mono k q)
end
section
variable {S:Nat→Prop} {m:Nat→Nat} {g:Nat→Option Blk} {n:Nat}
theorem PRs.len:∀ {l l':List V},PRs S m g n l l'→l.length=l'.length
  | _,_,.nil _=>rfl
  | _,_,.cons _ _ _ _ _ _ q=>by simp [q.len]
theorem PRr.len:∀ {l l':List (List V)},PRr S m g n l l'→l.length=l'.length
  | _,_,.nil _=>rfl
  | _,_,.cons _ _ _ _ _ _ q=>by simp [q.len]
theorem PRs.get:∀ {l l':List V},PRs S m g n l l'→∀ (j:Nat) (v:V),l[j]?=some v→∃ v',l'[j]?=some v'∧PR S m g n v v'
  | _,_,.nil _,j,v,e=>by simp at e
  | _,_,.cons _ v v' l l' p q,0,w,e=>by simp at e;subst e;exact ⟨v',rfl,p⟩
  | _,_,.cons _ v v' l l' p q,j+1,w,e=>by simp at e;simpa using q.get j w e
theorem PRr.get:∀ {l l':List (List V)},PRr S m g n l l'→∀ (j:Nat) (v:List V),l[j]?=some v→∃ v',l'[j]?=some v'∧PRs S m g n v v'
  | _,_,.nil _,j,v,e=>by simp at e
  | _,_,.cons _ v v' l l' p q,0,w,e=>by simp at e;subst e;exact ⟨v',rfl,p⟩
  | _,_,.cons _ v v' l l' p q,j+1,w,e=>by simp at e;simpa using q.get j w e
theorem PRs.app:∀ {a a' b b':List V},PRs S m g n a a'→PRs S m g n b b'→PRs S m g n (a++b) (a'++b')
  | _,_,_,_,.nil _,r=>r
  | _,_,_,_,.cons _ v v' l l' p q,r=>.cons _ v v' _ _ p (q.app r)
theorem PRr.app:∀ {a a' b b':List (List V)},PRr S m g n a a'→PRr S m g n b b'→PRr S m g n (a++b) (a'++b')
  | _,_,_,_,.nil _,r=>r
  | _,_,_,_,.cons _ v v' l l' p q,r=>.cons _ v v' _ _ p (q.app r)
theorem PRs.drop:∀ {a a':List V} (k:Nat),PRs S m g n a a'→PRs S m g n (a.drop k) (a'.drop k)
  | _,_,0,r=>r
  | _,_,_+1,.nil _=>.nil _
  | _,_,k+1,.cons _ v v' l l' p q=>by simpa using q.drop k
theorem PRr.drop:∀ {a a':List (List V)} (k:Nat),PRr S m g n a a'→PRr S m g n (a.drop k) (a'.drop k)
  | _,_,0,r=>r
  | _,_,_+1,.nil _=>.nil _
  | _,_,k+1,.cons _ v v' l l' p q=>by simpa using q.drop k
theorem PRs.take:∀ {a a':List V} (k:Nat),PRs S m g n a a'→PRs S m g n (a.take k) (a'.take k)
  | _,_,0,r=>.nil _
  | _,_,_+1,.nil _=>.nil _
  | _,_,k+1,.cons _ v v' l l' p q=>by simpa using .cons _ v v' _ _ p (q.take k)
theorem PRr.take:∀ {a a':List (List V)} (k:Nat),PRr S m g n a a'→PRr S m g n (a.take k) (a'.take k)
  | _,_,0,r=>.nil _
  | _,_,_+1,.nil _=>.nil _
  | _,_,k+1,.cons _ v v' l l' p q=>by simpa using .cons _ v v' _ _ p (q.take k)
theorem PRs.set:∀ {a a':List V} (k:Nat) {v v':V},PRs S m g n a a'→PR S m g n v v'→PRs S m g n (a.set k v) (a'.set k v')
  | _,_,_,_,_,.nil _,_=>.nil _
  | _,_,0,_,_,.cons _ v v' l l' p q,r=>.cons _ _ _ _ _ r q
  | _,_,k+1,_,_,.cons _ v v' l l' p q,r=>.cons _ _ _ _ _ p (q.set k r)
theorem PRr.set:∀ {a a':List (List V)} (k:Nat) {v v':List V},PRr S m g n a a'→PRs S m g n v v'→PRr S m g n (a.set k v) (a'.set k v')
  | _,_,_,_,_,.nil _,_=>.nil _
  | _,_,0,_,_,.cons _ v v' l l' p q,r=>.cons _ _ _ _ _ r q
  | _,_,k+1,_,_,.cons _ v v' l l' p q,r=>.cons _ _ _ _ _ p (q.set k r)
theorem PRr.rep {r r':List V} (p:PRs S m g n r r'):∀ k,PRr S m g n (List.replicate k r) (List.replicate k r')
  | 0=>.nil _
  | k+1=>.cons _ _ _ _ _ p (PRr.rep p k)
theorem PRs.ov:∀ {c c':List V} (r r':List V) (i:Nat),PRs S m g n c c'→PRs S m g n r r'→PRs S m g n (Go.Ab.over r i c) (Go.Ab.over r' i c')
  | _,_,r,r',i,.nil _,h=>h
  | _,_,r,r',i,.cons _ v v' l l' p q,h=>PRs.ov _ _ (i+1) q (h.set i p)
theorem PRr.ov:∀ {c c':List (List V)} (r r':List (List V)) (i:Nat),PRr S m g n c c'→PRr S m g n r r'→PRr S m g n (overE r i c) (overE r' i c')
  | _,_,r,r',i,.nil _,h=>h
  | _,_,r,r',i,.cons _ v v' l l' p q,h=>PRr.ov _ _ (i+1) q (h.set i p)
theorem PR.cells {v v':V} (hn:v≠.u) (p:PR S m g n v v'):PRs S m g n v.cells v'.cells:=by
  cases p with
  | u=>exact absurd rfl hn
  | agg _ _ _ q=>exact q
  | b=>exact .cons _ _ _ _ _ (.b _ _) (.nil _)
  | i=>exact .cons _ _ _ _ _ (.i _ _ _) (.nil _)
  | s=>exact .cons _ _ _ _ _ (.s _ _) (.nil _)
  | np=>exact .cons _ _ _ _ _ (.np _) (.nil _)
  | ns=>exact .cons _ _ _ _ _ (.ns _) (.nil _)
  | e0=>exact .cons _ _ _ _ _ (.e0 _) (.nil _)
  | nf=>exact .cons _ _ _ _ _ (.nf _) (.nil _)
  | ni=>exact .cons _ _ _ _ _ (.ni _) (.nil _)
  | p _ id el off h=>exact .cons _ _ _ _ _ (.p _ _ _ _ h) (.nil _)
  | sl _ id el len cap h=>exact .cons _ _ _ _ _ (.sl _ _ _ _ _ h) (.nil _)
  | fl0=>exact .cons _ _ _ _ _ (.fl0 _ _) (.nil _)
  | fl1=>exact .cons _ _ _ _ _ (.fl1 _ _) (.nil _)
  | fl _ sz xs a el cap cs h1 h2 h3 h4 h5 r=>exact .cons _ _ _ _ _ (.fl _ _ _ _ _ _ _ h1 h2 h3 h4 h5 r) (.nil _)
  | fp _ sz xs j off a el cs h1 h2 h3 r=>exact .cons _ _ _ _ _ (.fp _ _ _ _ _ _ _ _ h1 h2 h3 r) (.nil _)
  | f _ fn a c a' c' p q=>exact .cons _ _ _ _ _ (.f _ _ _ _ _ _ p q) (.nil _)
  | ifc _ t v v' p=>exact .cons _ _ _ _ _ (.ifc _ _ _ _ p) (.nil _)
  | tup _ l l' p=>exact .cons _ _ _ _ _ (.tup _ _ _ p) (.nil _)
theorem PR.isCell {v v':V} (hv:v.isCell=true) (p:PR S m g n v v'):v'.isCell=true:=by
  cases p<;>first | rfl | (simp [V.isCell] at hv)
theorem PRs.isCell:∀ {l l':List V},PRs S m g n l l'→l.all V.isCell=true→l'.all V.isCell=true
  | _,_,.nil _,_=>rfl
  | _,_,.cons _ v v' l l' p q,h=>by
    simp only [List.all_cons,Bool.and_eq_true] at h ⊢
    exact ⟨p.isCell h.1,q.isCell h.2⟩
theorem ne_u_of_cells {v:V} (h:v.cells.all V.isCell=true):v≠.u:=by
  rintro rfl;simp [V.cells,V.isCell] at h
theorem PR.up {v v':V} (p:PR S m g 0 v v') (m':Nat→Nat) (n':Nat):PR S m' g n' v v':=p.mono ⟨fun _ h=>h,fun _ _=>rfl,fun i hi=>absurd hi (Nat.not_lt_zero _),Nat.zero_le _⟩
end
structure Cfg (S:Nat→Prop) (m:Nat→Nat) (h hc:AH):Prop where
  blk:∀ i k,h.get i=some k→i<h.next∧m i<hc.next∧∃ cs,hc.get (m i)=some ⟨k.sz,cs⟩∧PRr S m hc.get h.next k.cs cs
  inj:∀ i j,h.live i→h.live j→m i=m j→i=j
  off:∀ i,h.live i→¬ S (m i)
  low:∀ a,S a→a<hc.next
  lim:∀ i,h.live i→h.lim≤i→hc.lim≤m i
  bnd:hc.lim≤hc.next
  bnd2:h.lim≤h.next
structure Adv (S:Nat→Prop) (m:Nat→Nat) (h hc:AH) (S':Nat→Prop) (m':Nat→Nat) (h' hc':AH):Prop where
  sub:∀ a,S a→S' a
  new:∀ a,S' a→S a∨hc.next≤a∨∃ i,h.live i∧m i=a
  map:∀ i,i<h.next→m' i=m i
  next2:h.next≤h'.next
  next1:hc.next≤hc'.next
  lim2:h'.lim=h.lim
  lim1:hc'.lim=hc.lim
  frame:∀ a,a<hc.next→(∀ i,h.live i→m i≠a)→hc'.get a=hc.get a
  liv:∀ i,h'.live i→(i<h.next∧h.live i)∨hc.next≤m' i
theorem Adv.refl {S:Nat→Prop} {m:Nat→Nat} {h hc:AH} (c:Cfg S m h hc):Adv S m h hc S m h hc:=
  ⟨fun _ h=>h,fun _ h=>.inl h,fun _ _=>rfl,Nat.le_refl _,Nat.le_refl _,rfl,rfl,fun _ _ _=>rfl,fun i hi=>.inl ⟨by
    obtain ⟨k,hk⟩:=Option.ne_none_iff_exists'.1 hi
    exact (c.blk i k hk).1,hi⟩⟩
theorem Adv.trans {S S' S'':Nat→Prop} {m m' m'':Nat→Nat} {h h' h'' hc hc' hc'':AH} (x:Adv S m h hc S' m' h' hc') (y:Adv S' m' h' hc' S'' m'' h'' hc''):Adv S m h hc S'' m'' h'' hc'':=by
  refine ⟨fun a q=>y.sub a (x.sub a q),fun a q=>?_,fun i hi=>(y.map i (Nat.lt_of_lt_of_le hi x.next2)).trans (x.map i hi),Nat.le_trans x.next2 y.next2,Nat.le_trans x.next1 y.next1,y.lim2.trans x.lim2,y.lim1.trans x.lim1,fun a ha hn=>?_,fun i hi=>?_⟩
  · rcases y.new a q with q | q | ⟨i,hi,rfl⟩
    · exact x.new a q
    · exact .inr (.inl (Nat.le_trans x.next1 q))
    · rcases x.liv i hi with ⟨h1,h2⟩ | h1
      · exact .inr (.inr ⟨i,h2,(x.map i h1).symm⟩)
      · exact .inr (.inl h1)
  · refine (y.frame a (Nat.lt_of_lt_of_le ha x.next1) fun i hi=>?_).trans (x.frame a ha hn)
    rcases x.liv i hi with ⟨h1,h2⟩ | h1
    · rw [x.map i h1];exact hn i h2
    · omega
  · rcases y.liv i hi with ⟨h1,h2⟩ | h1
    · rcases x.liv i h2 with ⟨h3,h4⟩ | h3
      · exact .inl ⟨h3,h4⟩
      · exact .inr (by rw [y.map i h1];exact h3)
    · exact .inr (Nat.le_trans x.next1 h1)
theorem Adv.mon {S S':Nat→Prop} {m m':Nat→Nat} {h h' hc hc':AH} (c:Cfg S m h hc) (x:Adv S m h hc S' m' h' hc'):PMon S m hc.get h.next S' m' hc'.get h'.next:=
  ⟨x.sub,fun a ha=>x.frame a (c.low a ha) fun i hi he=>c.off i hi (by rw [he];exact ha),x.map,x.next2⟩
theorem Cfg.alloc {S : Nat → Prop} {m : Nat → Nat} {h hc : AH} (c : Cfg S m h hc) {k kc : Blk} (hsz : kc.sz = k.sz) (hr : PRr S m hc.get h.next k.cs kc.cs) :
    ∃ m',Cfg S m' (h.alloc k) (hc.alloc kc)∧Adv S m h hc S m' (h.alloc k) (hc.alloc kc)∧m' h.next=hc.next:=by
  let m':Nat→Nat:=fun i=>if i=h.next then hc.next else m i
  have lt:∀ i,h.live i→i<h.next:=fun i hi=>by
    obtain ⟨k,hk⟩:=Option.ne_none_iff_exists'.1 hi;exact (c.blk i k hk).1
  have mlt:∀ i,h.live i→m i<hc.next:=fun i hi=>by
    obtain ⟨k,hk⟩:=Option.ne_none_iff_exists'.1 hi;exact (c.blk i k hk).2.1
  have mm:∀ i,i<h.next→m' i=m i:=fun i hi=>by simp only [m'];rw [if_neg (by omega)]
  have mn:m' h.next=hc.next:=by simp [m']
  have ga:∀ a,a<hc.next→(hc.alloc kc).get a=hc.get a:=fun a ha=>by simp only [AH.alloc];rw [if_neg (by omega)]
  have live:∀ i,(h.alloc k).live i→i=h.next∨h.live i:=fun i hi=>by
    by_cases e:i=h.next
    · exact .inl e
    · exact .inr (by simpa [AH.live,AH.alloc,e] using hi)
  have pm:PMon S m hc.get h.next S m' (hc.alloc kc).get (h.alloc k).next:=⟨fun _ h=>h,fun a ha=>ga a (c.low a ha),mm,Nat.le_succ _⟩
  refine ⟨m',⟨?_, ?_, ?_, ?_, ?_, ?_, ?_⟩,⟨fun _ h=>h,fun _ h=>.inl h,mm,Nat.le_succ _,Nat.le_succ _,rfl,rfl,fun a ha _=>ga a ha,fun i hi=>?_⟩,mn⟩
  · intro i k' hk'
    by_cases e:i=h.next
    · subst e
      have:k'=k:=by simpa [AH.alloc] using hk'.symm
      subst this
      rw [mn]
      refine ⟨Nat.lt_succ_self _,Nat.lt_succ_self _,kc.cs, ?_,hr.mono pm⟩
      simp [AH.alloc,←hsz]
    · have hk2:h.get i=some k':=by simpa [AH.alloc,e] using hk'
      obtain ⟨h1,h2,cs,h3,h4⟩:=c.blk i k' hk2
      rw [mm i h1]
      exact ⟨Nat.lt_succ_of_lt h1,Nat.lt_succ_of_lt h2,cs,by rw [ga _ h2];exact h3,h4.mono pm⟩
  · intro i j hi hj he
    rcases live i hi with rfl | hi'<;>rcases live j hj with rfl | hj'
    · rfl
    · rw [mn,mm j (lt j hj')] at he;have:=mlt j hj';omega
    · rw [mn,mm i (lt i hi')] at he;have:=mlt i hi';omega
    · rw [mm i (lt i hi'),mm j (lt j hj')] at he;exact c.inj i j hi' hj' he
  · intro i hi hs
    rcases live i hi with rfl | hi'
    · rw [mn] at hs;have:=c.low _ hs;omega
    · rw [mm i (lt i hi')] at hs;exact c.off i hi' hs
  · intro a ha;exact Nat.lt_succ_of_lt (c.low a ha)
  · intro i hi hl
    rcases live i hi with rfl | hi'
    · rw [mn];exact c.bnd
    · rw [mm i (lt i hi')];exact c.lim i hi' hl
  · exact Nat.le_succ_of_le c.bnd
  · exact Nat.le_succ_of_le c.bnd2
  · rcases live i hi with rfl | hi'
    · exact .inr (by rw [mn];exact Nat.le_refl _)
    · exact .inl ⟨lt i hi',hi'⟩
theorem Cfg.put {S : Nat → Prop} {m : Nat → Nat} {h hc : AH} (c : Cfg S m h hc) {id : Nat} {k kc : Blk} (hl : h.live id) (hsz : kc.sz = k.sz) (hr : PRr S m hc.get h.next k.cs kc.cs) :
    Cfg S m (h.put id k) (hc.put (m id) kc)∧Adv S m h hc S m (h.put id k) (hc.put (m id) kc):=by
  have lt:∀ i,h.live i→i<h.next:=fun i hi=>by
    obtain ⟨k,hk⟩:=Option.ne_none_iff_exists'.1 hi;exact (c.blk i k hk).1
  have mlt:∀ i,h.live i→m i<hc.next:=fun i hi=>by
    obtain ⟨k,hk⟩:=Option.ne_none_iff_exists'.1 hi;exact (c.blk i k hk).2.1
  have live:∀ i,(h.put id k).live i→h.live i:=fun i hi=>by
    by_cases e:i=id
    · rw [e];exact hl
    · simpa [AH.live,AH.put,e] using hi
  have gS:∀ a,a≠m id→(hc.put (m id) kc).get a=hc.get a:=fun a ha=>by simp only [AH.put];rw [if_neg ha]
  have pm:PMon S m hc.get h.next S m (hc.put (m id) kc).get (h.put id k).next:=⟨fun _ h=>h,fun a ha=>gS a (fun e=>c.off id hl (by rw [← e];exact ha)),fun _ _=>rfl,Nat.le_refl _⟩
  refine ⟨⟨?_,fun i j hi hj=>c.inj i j (live i hi) (live j hj),fun i hi=>c.off i (live i hi),c.low,fun i hi=>c.lim i (live i hi),c.bnd,c.bnd2⟩,⟨fun _ h=>h,fun _ h=>.inl h,fun _ _=>rfl,Nat.le_refl _,Nat.le_refl _,rfl,rfl,fun a _ hn=>gS a (fun e=>hn id hl e.symm),fun i hi=>.inl ⟨lt i (live i hi),live i hi⟩⟩⟩
  intro i k' hk'
  by_cases e:i=id
  · subst e
    have:k'=k:=by simpa [AH.put] using hk'.symm
    subst this
    exact ⟨lt i hl,mlt i hl,kc.cs,by simp [AH.put,←hsz],hr.mono pm⟩
  · have hk2:h.get i=some k':=by simpa [AH.put,e] using hk'
    obtain ⟨h1,h2,cs,h3,h4⟩:=c.blk i k' hk2
    refine ⟨h1,h2,cs, ?_,h4.mono pm⟩
    rw [gS _ (fun he=>e (c.inj i id (by simp [AH.live,hk2]) hl he))];exact h3
theorem Cfg.kill {S : Nat → Prop} {m : Nat → Nat} {h hc : AH} (c : Cfg S m h hc) {id : Nat} (hl : h.live id) :
    Cfg S m (h.kill id) (hc.kill (m id))∧Adv S m h hc S m (h.kill id) (hc.kill (m id)):=by
  have lt:∀ i,h.live i→i<h.next:=fun i hi=>by
    obtain ⟨k,hk⟩:=Option.ne_none_iff_exists'.1 hi;exact (c.blk i k hk).1
  have live:∀ i,(h.kill id).live i→h.live i:=fun i hi=>by
    by_cases e:i=id
    · subst e;simp [AH.live,AH.kill] at hi
    · simpa [AH.live,AH.kill,e] using hi
  have gS:∀ a,a≠m id→(hc.kill (m id)).get a=hc.get a:=fun a ha=>by simp only [AH.kill];rw [if_neg ha]
  have pm:PMon S m hc.get h.next S m (hc.kill (m id)).get (h.kill id).next:=⟨fun _ h=>h,fun a ha=>gS a (fun e=>c.off id hl (by rw [← e];exact ha)),fun _ _=>rfl,Nat.le_refl _⟩
  refine ⟨⟨?_,fun i j hi hj=>c.inj i j (live i hi) (live j hj),fun i hi=>c.off i (live i hi),c.low,fun i hi=>c.lim i (live i hi),c.bnd,c.bnd2⟩,⟨fun _ h=>h,fun _ h=>.inl h,fun _ _=>rfl,Nat.le_refl _,Nat.le_refl _,rfl,rfl,fun a _ hn=>gS a (fun e=>hn id hl e.symm),fun i hi=>.inl ⟨lt i (live i hi),live i hi⟩⟩⟩
  intro i k' hk'
  by_cases e:i=id
  · subst e;simp [AH.kill] at hk'
  · have hk2:h.get i=some k':=by simpa [AH.kill,e] using hk'
    obtain ⟨h1,h2,cs,h3,h4⟩:=c.blk i k' hk2
    refine ⟨h1,h2,cs, ?_,h4.mono pm⟩
    rw [gS _ (fun he=>e (c.inj i id (by simp [AH.live,hk2]) hl he))];exact h3
end Go.Ab
