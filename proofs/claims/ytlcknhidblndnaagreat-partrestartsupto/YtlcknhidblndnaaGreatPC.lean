/- Part of a proof that a law returns true for every input of the second form's bound (no other condition). -/
import Derived.Test.YtlcknhidblndnaaGreatPB
import Derived.Test.YtlcknhidblndnaaGreatPA
set_option linter.all false
/- A region that draws its order: every order, piece by piece. -/
namespace Go.Ab
open Go Go.RowKit
section
variable {P:Program}
theorem DW {n:Nat} {fl:List Nat} {ops:Array Oper}:∀ {l:List Oper} {ts:List TO},DU P n fl ops l=some ts→l.length=ts.length∧∀ (i:Nat) (o:Oper) (t:TO),l[i]?=some o→ts[i]?=some t→IL P n fl ops o=some t
 | [],ts,hc=>by simp [DU] at hc;subst hc;exact ⟨rfl,fun i o t h=>by simp at h⟩
 | o::l,ts,hc=>by
  simp only [DU,Option.bind_eq_some_iff,Option.map_eq_some_iff] at hc
  obtain ⟨t,ht,ts',hts,rfl⟩:=hc
  obtain ⟨h1,h2⟩:=DW hts
  refine ⟨by simp [h1],fun i o' t' ho ht'=>?_⟩
  cases i with
  | zero=>
   simp at ho ht'
   subst ho;subst ht'
   exact ht
  | succ i=>exact h2 i o' t' (by simpa using ho) (by simpa using ht')
theorem HW (wr:Wr):∀ (l:List (Oper×TO)),((Ft wr l).map (·.2)).flatten=l.map (·.2)
 | []=>rfl
 | (o,t)::r=>by
  have ih:=HW wr r
  simp only [Ft]
  split
  ·simp [ih]
  ·split
   ·rename_i ll s hs
    rw [hs] at ih
    simp at ih
    simp [ih]
   ·simp [ih]
def Zh (n:Nat) (L:Array Bool):Nat:=((List.range n).filter fun i=>!L.getD i true).length
theorem mX {n i:Nat} {L:Array Bool} (hi:i<n) (hs:L.size=n) (hf:L.getD i true=false):Zh n (L.setIfInBounds i true)+1=Zh n L:=by
 unfold Zh
 have key:∀ (l:List Nat),l.Nodup→i∈l→(l.filter fun j=>!(L.setIfInBounds i true).getD j true).length+1=(l.filter fun j=>!L.getD j true).length:=by
  intro l
  induction l with
  | nil=>intro _ h;simp at h
  | cons j l ih=>
   intro hnd hmem
   have hnd':=List.nodup_cons.1 hnd
   by_cases hji:j=i
   ·subst hji
    have h1:(L.setIfInBounds j true).getD j true=true:=by
     rw [Array.getD_eq_getD_getElem?]
     simp [Array.getElem?_setIfInBounds_self_of_lt (by omega:j<L.size)]
    have h2:(l.filter fun k=>!(L.setIfInBounds j true).getD k true)=l.filter fun k=>!L.getD k true:=by
     apply List.filter_congr
     intro k hk
     have:j≠k:=fun hh=>hnd'.1 (hh▸hk)
     rw [getD_set_ne true this]
    rw [List.filter_cons,List.filter_cons]
    simp only [h1,hf,Bool.not_true,Bool.not_false,if_true,if_false,Bool.false_eq_true,h2,List.length_cons]
   ·have hmem':i∈l:=by simpa [Ne.symm hji] using hmem
    have:=ih hnd'.2 hmem'
    have he:(L.setIfInBounds i true).getD j true=L.getD j true:=getD_set_ne true (Ne.symm hji)
    rw [List.filter_cons,List.filter_cons,he]
    split
    ·simp only [List.length_cons];omega
    ·exact this
 exact key _ List.nodup_range (by simpa using hi)
theorem Ki {n:Nat} {L:Array Bool} (h:Zh n L=0):∀ i,i<n→L.getD i true=true:=by
 intro i hi
 unfold Zh at h
 have:=List.length_eq_zero_iff.1 h
 rw [List.filter_eq_nil_iff] at this
 have:=this i (by simpa using hi)
 simpa using this
theorem F0 {L:Array Bool} {i:Nat} (h:L.getD i true=false):L.getD i false=false:=by
 rw [Array.getD_eq_getD_getElem?] at *
 cases hh:L[i]? with
 | none=>rfl
 | some b=>rw [hh] at h;simpa using h
theorem Cf {L:Array Bool} {i:Nat} (hi:i<L.size):L.getD i false=L.getD i true:=by
 rw [Array.getD_eq_getD_getElem?,Array.getD_eq_getD_getElem?,Array.getElem?_eq_getElem hi];rfl
variable {C:A0} {tp:TP} {n:Nat} {fl:List Nat} {ops:Array Oper} {ts:List TO} {Q:Exit→Act→World→Prop}
def Di (ops:Array Oper) (L:Array Bool):Prop:=Closed ops (fun i=>L.getD i false=true)
theorem Di.set {L:Array Bool} (h:Di ops L) {i:Nat} {o:Oper} (ho:ops[i]?=some o) (hd:∀ e∈o.after,Region.binds .any e=true→L.getD e.on false=true):Di ops (L.setIfInBounds i true):=by
 intro j oj hoj hj e he hb
 by_cases hji:i=j
 ·subst hji
  rw [ho] at hoj
  simp only [Option.some.injEq] at hoj
  subst hoj
  exact getD_set_true (hd e (by simpa using he) hb)
 ·rw [getD_set_ne false hji] at hj
  exact getD_set_true (h j oj hoj hj e he hb)
theorem M6 {L:Array Bool} (hE:EQ ops=true) (hs:L.size=ops.size) {i:Nat} (hi:i<ops.size) (hf:L.getD i true=false) (hlow:∀ j,j<i→L.getD j true=true):i∈Region.ready .any ops L:=by
 refine mem_ready.2 ⟨hf,ops[i],by simp [hi],fun e he hb=>?_⟩
 simp only [EQ,List.all_eq_true] at hE
 have:=hE i (by simpa using hi)
 simp only [Array.getElem?_eq_getElem hi,List.all_eq_true] at this
 have:=this e (by simpa using he)
 simp only [hb,Bool.not_true,Bool.false_or,decide_eq_true_eq] at this
 rw [Cf (by omega)]
 exact hlow e.on this
theorem GInv.congr {M0 M:Mp} {B:Nat} {w0 w:World} {E:Nat→Env} {V':Nat→V} {H0 K:AH} {S S':Nat→Prop} {a:Act} (g:GInv M0 B w0 n ts E V' H0 K S M w a) (h:∀ i,S i↔S' i):GInv M0 B w0 n ts E V' H0 K S' M w a:=
 ⟨g.sim,fun t ht=>g.env1 t (fun i o ho hod hS=>ht i o ho hod ((h i).1 hS)),fun i o ho hS t hod=>g.env2 i o ho ((h i).2 hS) t hod,g.gmap,g.below,g.size,g.defers⟩
theorem Fc.congr {H:Nat→AH} {lo hi:Nat} {S S':Nat→Prop} {M:Mp} (q:Fc ts H lo hi S M) (h:∀ i,S i↔S' i):Fc ts H lo hi S' M:=
 ⟨fun i t h1 h2 ht hp hS=>q.none_ i t h1 h2 ht hp (fun hh=>hS ((h i).1 hh)),q.wf⟩
structure Facts (P:Program) (n:Nat) (fl:List Nat) (ops:Array Oper) (ts:List TO) (L:Array Bool) (j:Nat) (o:Oper) (t:TO):Prop where
 ho:ops[j]?=some o
 ht:ts[j]?=some t
 hc:IL P n fl ops o=some t
 hS:¬ (L.getD j true=true)
 dir:∀ e∈o.after,Region.binds .any e=true→L.getD e.on false=true
 d1:∀ (i:Nat) (x:TO) (sl:Nat),i<j→ts[i]?=some x→x.d=some sl→sl∈t.slots→L.getD i true=true
 d2:∀ (i:Nat) (x:TO) (sl:Nat),j<i→ts[i]?=some x→x.d=some sl→sl∈t.slots→¬ (L.getD i true=true)
 d3:∀ (i:Nat) (x:TO) (d:Nat),i≠j→ts[i]?=some x→x.d=some d→t.d≠some d
 anc:∀ i,((EI ops.toList).getD j 0).testBit i=true→i<ops.size→L.getD i true=true
theorem DP {cl:List Nat} (hp:Ge cl ts=true) (i j:Nat) (x y:TO) (d:Nat) (hij:i≠j) (hx:ts[i]?=some x) (hy:ts[j]?=some y) (hd:x.d=some d):y.d≠some d:=by
 simp only [Ge,List.all_eq_true] at hp
 have:=hp i (by simpa using (List.getElem?_eq_some_iff.1 hx).1) j (by simpa using (List.getElem?_eq_some_iff.1 hy).1)
 simp only [hx,hy,hd,Bool.or_eq_true,beq_iff_eq,Bool.and_eq_true,bne_iff_ne,ne_eq] at this
 exact (this.resolve_left hij).1
theorem IU (hc:DU P n fl ops ops.toList=some ts) (hp:Ge (EI ops.toList) ts=true) {L:Array Bool} (hLs:L.size=ops.size) (hLc:Di ops L) {j:Nat} (hj:j∈Region.ready .any ops L):∃ o t,Facts P n fl ops ts L j o t:=by
 have hlen:ops.size=ts.length:=by have:=(DW hc).1;simpa using this
 obtain ⟨hif,o,ho,hdir⟩:=mem_ready.1 hj
 have hlt:=(Array.getElem?_eq_some_iff.1 ho).1
 have ht:ts[j]?=some ts[j]:=List.getElem?_eq_getElem (by omega)
 have pair:∀ (i j:Nat) (x y:TO) (d:Nat),i≠j→ts[i]?=some x→ts[j]?=some y→x.d=some d→y.d≠some d∧(d∈y.slots→if i<j then ((EI ops.toList).getD j 0).testBit i=true else ((EI ops.toList).getD i 0).testBit j=true):=by
  intro i j x y d hij hx hy hd
  simp only [Ge,List.all_eq_true] at hp
  have hi:=(List.getElem?_eq_some_iff.1 hx).1
  have hj:=(List.getElem?_eq_some_iff.1 hy).1
  have:=hp i (by simpa using hi) j (by simpa using hj)
  simp only [hx,hy,hd,Bool.or_eq_true,beq_iff_eq,Bool.and_eq_true,bne_iff_ne,ne_eq] at this
  rcases this with h1 | ⟨h1,h2⟩
  ·exact absurd h1 hij
  ·refine ⟨h1,fun hsl=>?_⟩
   rcases h2 with h2 | h2
   ·simp [hsl] at h2
   ·split
    ·rename_i hlt;rw [if_pos hlt] at h2;exact h2
    ·rename_i hlt;rw [if_neg hlt] at h2;exact h2
 have dirL:∀ e∈o.after.toList,Region.binds .any e=true→L.getD e.on false=true:=fun e he hb=>hdir e (by simpa using he) hb
 have anc:∀ i,((EI ops.toList).getD j 0).testBit i=true→i<ops.size→L.getD i true=true:=fun i hb hi=>by
  have:=FC hLc j i o ho dirL hb
  rw [Cf (by omega)] at this
  exact this
 refine ⟨o,ts[j],ho,ht,(DW hc).2 j o _ (by simpa using ho) ht,by rw [hif];simp,hdir,fun i x sl hij hx hd hsl=>?_,fun i x sl hij hx hd hsl hSi=>?_,fun i x d hij hx hd=>(pair i j x ts[j] d hij hx ht hd).1,anc⟩
 ·have:=(pair i j x ts[j] sl (by omega) hx ht hd).2 hsl
  rw [if_pos hij] at this
  exact anc i this (by omega)
 ·have hil:=(List.getElem?_eq_some_iff.1 hx).1
  have hb:=(pair i j x ts[j] sl (by omega) hx ht hd).2 hsl
  rw [if_neg (by omega)] at hb
  have hio:ops[i]?=some ops[i]:=by simp
  have hLi:L.getD i false=true:=by rw [Cf (by omega)];exact hSi
  have:=FC hLc i j ops[i] hio (fun e he hb=>hLc i _ hio hLi e he hb) hb
  rw [Cf (by omega),hif] at this;cases this
theorem AZ {L:Array Bool} {j:Nat} (hj:j<L.size) (i:Nat):(L.getD i true=true∨i=j)↔(L.setIfInBounds j true).getD i true=true:=by
 by_cases hij:i=j
 ·subst hij
  rw [Array.getD_eq_getD_getElem?,Array.getD_eq_getD_getElem?]
  simp [Array.getElem?_setIfInBounds_self_of_lt hj]
 ·rw [getD_set_ne true (Ne.symm hij)]
  simp [hij]
def Kw (E:Env) (t:TO):Env:=fun s=>if s∈t.o.slots then E s else .u
theorem GV {M:Mp} {K:AH} {e:Env} {a:Act} {t:TO} (h:∀ sl∈t.slots,VR M K (e sl) (a.tmps.getD sl undef)):DS M K (Kw e t) a:=fun s=>by
 by_cases hs:s∈t.o.slots
 ·simp only [Kw,hs,if_true]
  exact h s (by simp [TO.slots,hs])
 ·simp only [Kw,hs,if_false];exact .u _
theorem Gp (e:Env) (t:TO):Agree (Kw e t) e t.o.slots:=fun s hs=>by simp [Kw,hs]
section
variable {M0:Mp} {B:Nat} {w0:World} {bar:Nat→Bool} {lim:Nat} {E:Nat→Env} {H:Nat→AH} {V':Nat→V}
theorem LO (hm : BG P tp) (tr : Trace tp C ts bar lim E H V') (k : Ce P n ts bar lim E H V') (hbp : ∀ j t, ts[j]? = some t → bar j = true → AM t.o = false) {L : Array Bool} {j : Nat} {o : Oper} {t : TO} (f : Facts P n fl ops ts L j o t) (hpure : AM t.o = true) {c : Nat} (hc : c ≤ ts.length) {cl : List Nat} (hfa : ∀ {j : Nat} {t : TO}, ts[j]? = some t → t.o.fl = true → bar j = false → AJ (E j) t.g = some true → ∀ c, j < c → c ≤ ts.length → (∀ c', c' < c → bar c' = true → (cl.getD c' 0).testBit j = false) → Ad tp t.o (X.ev (E j)) (H c) = some (V' j, H c)) (hun : ∀ c', c' < c → bar c' = true → (cl.getD c' 0).testBit j = false) (hjc : t.o.fl = true → j < c) {M : Mp} {w : World} {a : Act}
    (g:GInv M0 B w0 n ts E V' (H 0) (H c) (fun i=>L.getD i true=true) M w a) {K:Act→World→Prop} (hK:∀ a' w',GInv M0 B w0 n ts E V' (H 0) (H c) (fun i=>L.getD i true=true∨i=j) M w' a'→K a' w'):wpOp P ops Q j K a w:=by
 have hlook:=g.look tr f.ht f.hS f.d1 f.d2
 obtain ⟨⟨ro,hcc,hdr,hrr⟩,hg,hd,hdk,hlt⟩:=Cp f.hc
 have hjl:j<ts.length:=(List.getElem?_eq_some_iff.1 f.ht).1
 have hwant:∀ {b:Bool},AJ (E j) t.g=some b→Region.wanted o (yielded ops a.tmps)=b:=fun hw=>CX (P:=P) (M:=M) (h:=H c) f.hc (fun s x hs=>hlook s (by simp [TO.slots,hs])) g.size hw
 unfold wpOp
 simp only [f.ho]
 rcases tr.step j t f.ht with ⟨hw,hv,hH⟩ | hst
 ·rw [hwant hw]
  simp only [Bool.false_eq_true,if_false]
  refine hK _ _ ?_
  rw [← hd]
  exact g.step f.ht f.hS (by rw [hd];exact hdk) f.d3 g.sim (fun hv=>hv) (by rw [hv];exact .tup _ _ .nil) g.gmap (Below.refl B w)
 ·by_cases hb:bar j=true
  ·have:=hbp j t f.ht hb
   rw [hpure] at this;cases this
  ·rw [if_neg hb] at hst
   rcases hst with ⟨hw,hp,hal,hq,hH⟩ | ⟨hw,hp,q,hq,hH⟩
   ·rw [hwant hw]
    simp only [if_true]
    left
    have hq2:Ad tp t.o (X.ev (E j)) (H c)=some (V' j,H c):=by
     cases hfl:t.o.fl with
     | true=>exact hfa f.ht hfl (by simpa using hb) hw c (hjc hfl) hc hun
     | false=>exact XZ (h2:=H c) hfl hp hal hq (aP8 k (by omega) hc)
    have hcall:AY tp C t.o (X.ev (Kw (E j) t)) (H c)=some (V' j,H c):=by
     rw [Gk t.o (Gp (E j) t)]
     have:AY tp C t.o (X.ev (E j)) (H c)=Ad tp t.o (X.ev (E j)) (H c):=by
      cases ht:t.o<;>rw [ht] at hp<;>simp [AM] at hp<;>rfl
     rw [this];exact hq2
    have hdo:Ad tp t.o (X.ev (Kw (E j) t)) (H c)=some (V' j,H c):=by
     have:AY tp C t.o (X.ev (Kw (E j) t)) (H c)=Ad tp t.o (X.ev (Kw (E j) t)) (H c):=by
      cases ht:t.o<;>rw [ht] at hp<;>simp [AM] at hp<;>rfl
     rw [← this];exact hcall
    obtain ⟨x,w',M',hrun,hdone⟩:=GP (GV hlook) g.sim trivial hm hcc ((hdr _ _ _).symm.trans hdo)
    have key:=g.pure_step (ops:=ops) (o:=o) f.ht f.hS (by rw [hd];exact hdk) f.d3 hdone
    unfold Oper.wp
    rcases hrun with hrun | ⟨hrun,rfl⟩
    ·rw [hrun];simp only [Oper.upon_value];rw [← hd];exact hK _ _ key
    ·rw [hrun];simp only [Oper.upon_skip];rw [← hd];exact hK _ _ key
   ·rw [hpure] at hp;cases hp
theorem LE (hm:BG P tp) (tr:Trace tp C ts bar lim E H V') (k:Ce P n ts bar lim E H V') (hp:Ge (EI ops.toList) ts=true) (hst:∀ c,bar c=true→∀ j t,j<c→ts[j]?=some t→bar j=false→Co (EI ops.toList) bar 0 c (0+j) t→Gw (E (c+1)) (H (c+1)) t)
    {L:Array Bool} {j:Nat} {o:Oper} {t:TO} (f:Facts P n fl ops ts L j o t) (hl:Bn t=true) (hb:bar j=false) {c:Nat} (hjc:j<c) (hc:c≤ts.length) (hun:∀ c',c'<c→bar c'=true→((EI ops.toList).getD c' 0).testBit j=false) {M:Mp} {w:World} {a:Act}
    (g:GInv M0 B w0 n ts E V' (H 0) (H c) (fun i=>L.getD i true=true) M w a) (hno:M (H j).next=none) {K:Act→World→Prop}
    (hK:∀ M2 a' w',GInv M0 B w0 n ts E V' (H 0) (H c) (fun i=>L.getD i true=true∨i=j) M2 w' a'→(∀ i,i≠(H j).next→M2 i=M i)→K a' w'):wpOp P ops Q j K a w:=by
 have hlook:=g.look tr f.ht f.hS f.d1 f.d2
 obtain ⟨⟨ro,hcc,hdr,hrr⟩,hg,hd,hdk,hlt⟩:=Cp f.hc
 obtain ⟨ff,sz,r,F⟩:=EY tr f.ht hl hb
 have hget:=Jf tr k (DP hp) hst f.ht hl hb F c hjc hc hun
 have hwt:AJ (E j) t.g=some true:=by
  simp only [Bn,Bool.and_eq_true,Option.isNone_iff_eq_none] at hl
  rw [hl.1.2];rfl
 have hwant:Region.wanted o (yielded ops a.tmps)=true:=CX (P:=P) (M:=M) (h:=H c) f.hc (fun s x hs=>hlook s (by simp [TO.slots,hs])) g.size hwt
 have hdo:=F.doo tp (Kw (E j) t) (H c)
 unfold wpOp
 simp only [f.ho]
 rw [hwant]
 simp only [if_true]
 left
 obtain ⟨x,w',M',hrun,hdone⟩:=GP (GV hlook) g.sim trivial hm hcc ((hdr _ _ _).symm.trans hdo)
 obtain ⟨M2,g2,h2,_⟩:=g.late f.ht f.hS (by rw [hd];exact hdk) f.d3 F.shape hget hno (k.next 0 j (Nat.zero_le _) (by omega)) F.val (fun el row hr c' v hv=>(Ru tr k (DP hp) f.ht hl F el row hr c' v hv).mono (k.next (j+1) c (by omega) hc)) hdone
 unfold Oper.wp
 rcases hrun with hrun | ⟨hrun,rfl⟩
 ·rw [hrun];simp only [Oper.upon_value];rw [← hd];exact hK M2 _ _ g2 h2
 ·rw [hrun];simp only [Oper.upon_skip];rw [← hd];exact hK M2 _ _ g2 h2
def Km (ts:List TO) (H:Nat→AH) (s:Nat) (L:Array Bool) (M:Mp):Prop:=∀ i t,i<s→ts[i]?=some t→Bn t=true→L.getD i true=false→M (H i).next=none
theorem Km.step {s j:Nat} {L:Array Bool} {M M2:Mp} (h:Km ts H s L M) (h2:∀ i t,i<s→i≠j→ts[i]?=some t→Bn t=true→L.getD i true=false→M2 (H i).next=M (H i).next):Km ts H s (L.setIfInBounds j true) M2:=by
 intro i t hi ht hl hL
 have hne:j≠i:=by
  rintro rfl
  by_cases hj:j<L.size
  ·simp [Array.getD_eq_getD_getElem?,hj] at hL
  ·simp [Array.getD_eq_getD_getElem?,hj] at hL
 rw [getD_set_ne true hne] at hL
 rw [h2 i t hi (Ne.symm hne) ht hl hL]
 exact h i t hi ht hl hL
theorem Km.same {s j:Nat} {L:Array Bool} {M:Mp} (h:Km ts H s L M):Km ts H s (L.setIfInBounds j true) M:=h.step fun _ _ _ _ _ _ _=>rfl
set_option maxHeartbeats 4000000 in
theorem Qm (hC:Dm P C) (hS:Cl C) (hm:BG P tp) (hc:DU P n fl ops ops.toList=some ts) (hE:EQ ops=true) (hp:Ge (EI ops.toList) ts=true) (tr:Trace tp C ts bar lim E H V') (k:Ce P n ts bar lim E H V')
    (hbp:∀ j t,ts[j]?=some t→bar j=true→AM t.o=false) (hbl:∀ j t,ts[j]?=some t→bar j=true→t.o.late=false) (hfo:eE ts=true) (hst:∀ c,bar c=true→∀ j t,j<c→ts[j]?=some t→bar j=false→Co (EI ops.toList) bar 0 c (0+j) t→Gw (E (c+1)) (H (c+1)) t)
    (hQ:∀ M' a' w',L8 M' B w' (H ts.length) (E ts.length) a' n→Goes M0 M' (H 0) (H ts.length)→Below B w0 w'→Q .normal a' w'):∀ (segs:List (Bool×List TO)) (s:Nat),(segs.map (·.2)).flatten=ts.drop s→Em (EI ops.toList) ts s segs=true→s≤ts.length→(∀ i,bar (s+i)=Bf segs i) →
    ∀ (fuel:Nat) (L:Array Bool) (M:Mp) (w:World) (a:Act),L.size=ops.size→(∀ i t,ts[i]?=some t→AM t.o=false→Bn t=false→i<s→L.getD i true=true)→(∀ i t,ts[i]?=some t→AM t.o=false→s≤i→L.getD i true=false)→Km ts H s L M→Di ops L→Zh ops.size L=fuel →
    GInv M0 B w0 n ts E V' (H 0) (H s) (fun i=>L.getD i true=true) M w a→wpAny P .any ops Q fuel L a w:=by
 have hlen:ops.size=ts.length:=by have:=(DW hc).1;simpa using this
 have hfa:∀ {j:Nat} {t:TO},ts[j]?=some t→t.o.fl=true→bar j=false→AJ (E j) t.g=some true→∀ c,j<c→c≤ts.length→(∀ c',c'<c→bar c'=true→((EI ops.toList).getD c' 0).testBit j=false)→Ad tp t.o (X.ev (E j)) (H c)=some (V' j,H c):=fun ht hfl hb hw=>aCY tr k (DP hp) hfo hst ht hfl hb hw
 -- if nothing is ready all is done
 have noReady:∀ (L:Array Bool),L.size=ops.size→Region.ready .any ops L=[]→∀ i,i<ops.size→L.getD i true=true:=by
  intro L hLs h0
  have aux:∀ c,c≤ops.size→∀ j,j<c→L.getD j true=true:=by
   intro c
   induction c with
   | zero=>intro _ j hj;omega
   | succ c ih=>
    intro hcs j hj
    rcases Nat.lt_succ_iff_lt_or_eq.1 hj with h1 | h1
    ·exact ih (by omega) j h1
    ·subst h1
     cases hb:L.getD j true with
     | true=>rfl
     | false=>
      have:=M6 hE hLs (by omega) hb (ih (by omega))
      rw [h0] at this;simp at this
  exact fun i hi=>aux ops.size (Nat.le_refl _) i hi
 -- the end
 have fin:∀ (L:Array Bool) (M:Mp) (w:World) (a:Act),(∀ i,i<ops.size→L.getD i true=true)→GInv M0 B w0 n ts E V' (H 0) (H ts.length) (fun i=>L.getD i true=true) M w a→Q .normal a w:=by
  intro L M w a hall g
  refine hQ M a w ⟨g.sim,fun t=>?_,g.size,g.defers⟩ ⟨⟨k.next 0 _ (Nat.zero_le _) (Nat.le_refl _),fun id hid hl=>?_,g.gmap⟩, ?_,fun id hid=>?_⟩ g.below
  ·rcases tr.slot t ts.length (Nat.le_refl _) with ⟨i,o,hi,ho,hod,hv⟩ | ⟨hno,hv⟩
   ·rw [hv];exact g.env2 i o ho (hall i (by omega)) t hod
   ·rw [hv]
    exact g.env1 t (fun i o ho hod _=>hno i o (List.getElem?_eq_some_iff.1 ho).1 ho hod)
  ·obtain ⟨q,hq⟩:=Option.ne_none_iff_exists'.1 hl
   obtain ⟨q2,hq2,_⟩:=(k.steadies 0 ts.length (Nat.zero_le _) (Nat.le_refl _)).2.2 id q hid hq
   simp [AH.live,hq2]
  ·rw [k.lim _ (Nat.le_refl _),k.lim 0 (Nat.zero_le _)]
  ·exact k.lows _ (Nat.le_refl _) id (by rw [← k.lim 0 (Nat.zero_le _)];exact hid)
 -- what a step does to the list
 have after:∀ {L:Array Bool} {j:Nat} {o:Oper} {t:TO},Facts P n fl ops ts L j o t→L.size=ops.size→Di ops L→(L.setIfInBounds j true).size=ops.size∧Di ops (L.setIfInBounds j true)∧(∀ m,Zh ops.size L=m+1→Zh ops.size (L.setIfInBounds j true)=m)∧(∃ m,Zh ops.size L=m+1)∧j<L.size:=by
  intro L j o t f hLs hLc
  have hjl:=(Array.getElem?_eq_some_iff.1 f.ho).1
  have hif:L.getD j true=false:=by cases hb:L.getD j true with
   | true=>exact absurd hb f.hS
   | false=>rfl
  have hu:=mX hjl hLs hif
  exact ⟨by simpa using hLs,hLc.set f.ho f.dir,fun m hm=>by omega,⟨_,hu.symm⟩,by omega⟩
 have unlisted:∀ {L:Array Bool} {j:Nat} {o:Oper} {t:TO},Facts P n fl ops ts L j o t→L.getD j true=false:=fun {L j o t} f=>by
  cases hb:L.getD j true with
  | true=>exact absurd hb f.hS
  | false=>rfl
 have nobar:∀ {j:Nat} {t:TO},ts[j]?=some t→Bn t=true→bar j=false:=fun {j t} ht hl=>by
  cases hb:bar j with
  | false=>rfl
  | true=>
   have:=hbl j t ht hb
   simp only [Bn,Bool.and_eq_true] at hl
   rw [this] at hl;cases hl.1.1
 have lateNext:∀ {j:Nat} {t:TO},ts[j]?=some t→Bn t=true→(H (j+1)).next=(H j).next+1:=fun {j t} ht hl=>by
  obtain ⟨ff,sz,r,F⟩:=EY tr ht hl (nobar ht hl)
  exact F.next
 have lateNe:∀ {j i:Nat} {t u:TO},ts[j]?=some t→Bn t=true→ts[i]?=some u→Bn u=true→i≠j→(H i).next≠(H j).next:=fun {j i t u} ht hl hu hl2 hne=>by
  have a1:=lateNext ht hl
  have a2:=lateNext hu hl2
  have c1:=(List.getElem?_eq_some_iff.1 ht).1
  have c2:=(List.getElem?_eq_some_iff.1 hu).1
  rcases Nat.lt_or_gt_of_ne hne with h | h
  ·have:=k.next (i+1) j (by omega) (by omega);omega
  ·have:=k.next (j+1) i (by omega) (by omega);omega
 have latePure:∀ {t:TO},Bn t=true→AM t.o=false:=fun {t} hl=>by
  simp only [Bn,Bool.and_eq_true] at hl
  have:=hl.1.1
  cases ho:t.o<;>rw [ho] at this<;>simp [O.late] at this
  all_goals rfl
 have hang:∀ {L:Array Bool},L.size=ops.size→Di ops L→∀ {c' j:Nat},c'<ts.length→L.getD c' true=true→L.getD j true=false→((EI ops.toList).getD c' 0).testBit j=false:=fun {L} hLs hLc {c' j} hc' hd hj=>by
  cases hb:((EI ops.toList).getD c' 0).testBit j with
  | false=>rfl
  | true=>
   have hc2:c'<ops.size:=by omega
   have ho:ops[c']?=some ops[c']:=Array.getElem?_eq_getElem hc2
   have hd2:L.getD c' false=true:=by rw [Cf (by omega)];exact hd
   have:=FC hLc c' j _ ho (fun e he hbi=>hLc c' _ ho hd2 e he hbi) hb
   rw [F0 hj] at this;cases this
 have hungs:∀ {L:Array Bool} {s:Nat},L.size=ops.size→Di ops L→(∀ i t,ts[i]?=some t→AM t.o=false→Bn t=false→i<s→L.getD i true=true)→s≤ts.length→∀ {j:Nat},L.getD j true=false→∀ c',c'<s→bar c'=true→((EI ops.toList).getD c' 0).testBit j=false:=fun {L s} hLs hLc hLt hs {j} hj c' hc' hb=>by
  have ht:ts[c']?=some ts[c']:=List.getElem?_eq_getElem (by omega)
  exact hang hLs hLc (by omega) (hLt c' _ ht (hbp c' _ ht hb) (by simp only [Bn,hbl c' _ ht hb,Bool.false_and]) hc') hj
 intro segs
 induction segs with
 | nil=>
  intro s hfl hok hso hbar fuel
  have hs:s=ts.length:=by
   have:=congrArg List.length hfl
   simp at this
   omega
  subst hs
  induction fuel with
  | zero=>
   intro L M w a hLs hLt hLf hLi hLc hfuel g
   have hall:=Ki hfuel
   refine ⟨?_,fin L M w a hall g⟩
   apply List.eq_nil_iff_forall_not_mem.2
   intro i hi
   obtain ⟨h1,o,ho,_⟩:=mem_ready.1 hi
   rw [hall i (Array.getElem?_eq_some_iff.1 ho).1] at h1;cases h1
  | succ fuel ihf=>
   intro L M w a hLs hLt hLf hLi hLc hfuel g
   refine ⟨fun h0=>fin L M w a (noReady L hLs h0) g,fun i hi=>?_⟩
   obtain ⟨o,t,f⟩:=IU hc hp hLs hLc hi
   obtain ⟨b1,b2,b3,_,b5⟩:=after f hLs hLc
   have hil:=(List.getElem?_eq_some_iff.1 f.ht).1
   cases hlt:Bn t with
   | true=>
    refine LE hm tr k hp hst f hlt (nobar f.ht hlt) hil (Nat.le_refl _) (hungs hLs hLc hLt (Nat.le_refl _) (unlisted f)) g (hLi i t hil f.ht hlt (unlisted f)) (fun M2 a' w' g' h2=>?_)
    refine ihf _ M2 w' a' b1 (fun i' t' ht' hnp hnl hi'=>?_) (fun i' t' ht' hnp hi'=>?_) (hLi.step fun i' t' hi' hne ht' hl' _=>h2 _ (lateNe f.ht hlt ht' hl' hne)) b2 (b3 fuel hfuel) (g'.congr (AZ b5))
    ·exact (AZ b5 i').1 (.inl (hLt i' t' ht' hnp hnl hi'))
    ·have:=(List.getElem?_eq_some_iff.1 ht').1
     omega
   | false=>
   have hpure:AM t.o=true:=by
    cases hb:AM t.o with
    | true=>rfl
    | false=>exact absurd (hLt i t f.ht hb hlt hil) f.hS
   refine LO hm tr k hbp f hpure (Nat.le_refl _) hfa (hungs hLs hLc hLt (Nat.le_refl _) (unlisted f)) (fun _=>(List.getElem?_eq_some_iff.1 f.ht).1) g (fun a' w' g'=>?_)
   refine ihf _ M w' a' b1 (fun i' t' ht' hnp hnl hi'=>?_) (fun i' t' ht' hnp hi'=>?_) hLi.same b2 (b3 fuel hfuel) (g'.congr (AZ b5))
   ·exact (AZ b5 i').1 (.inl (hLt i' t' ht' hnp hnl hi'))
   ·have:=(List.getElem?_eq_some_iff.1 ht').1
    omega
 | cons sg segs ih=>
  intro s hfl hok hso hbar
  obtain ⟨qt,l⟩:=sg
  simp only [Em,Bool.and_eq_true] at hok
  obtain ⟨⟨hahead,hone⟩,hok⟩:=hok
  simp only [List.map_cons,List.flatten_cons] at hfl
  have hfl':(segs.map (·.2)).flatten=ts.drop (s+l.length):=by
   rw [← List.drop_drop,←hfl];simp
  have hlget:∀ (j:Nat) (t:TO),l[j]?=some t→ts[s+j]?=some t:=fun j t hj=>by
   rw [← List.getElem?_drop,←hfl,List.getElem?_append,if_pos (List.getElem?_eq_some_iff.1 hj).1];exact hj
  have hsl:s+l.length≤ts.length:=by
   have:=congrArg List.length hfl
   simp at this
   omega
  have hbar':∀ i,bar (s+l.length+i)=Bf segs i:=fun i=>by
   have:=hbar (l.length+i)
   simp only [Bf] at this
   rw [if_neg (by omega),show l.length+i - l.length=i by omega] at this
   rw [Nat.add_assoc];exact this
  -- whoever looks at the heap and comes behind a place hangs from all that do ahead of it
  have behind:∀ (sg2:List (Bool×List TO)) (s2:Nat),Em (EI ops.toList) ts s2 sg2=true→(sg2.map (·.2)).flatten=ts.drop s2→∀ i ti,ts[i]?=some ti→(AM ti.o=false∨ti.o.fl=true)→s2≤i→∀ j tj,ts[j]?=some tj→AM tj.o=false→Bn tj=false→j<s2→((EI ops.toList).getD i 0).testBit j=true:=by
   intro sg2
   induction sg2 with
   | nil=>
    intro s2 _ hf i ti hti _ hi1 j tj htj _ _ hj
    have:=congrArg List.length hf
    simp at this
    have:=(List.getElem?_eq_some_iff.1 hti).1
    omega
   | cons sg2 sgs ih2=>
    intro s2 hk hf i ti hti hpi hi1 j tj htj hpj hlj hj
    obtain ⟨q2,l2⟩:=sg2
    simp only [Em,Bool.and_eq_true] at hk
    obtain ⟨⟨hk1,_⟩,hk3⟩:=hk
    by_cases hin:i<s2+l2.length
    ·simp only [QT,List.all_eq_true,Bool.or_eq_true] at hk1
     have:=hk1 (i - s2) (by simp;omega)
     rw [show s2+(i - s2)=i by omega] at this
     simp only [Qk,aPJ,hti] at this
     have:=(this.resolve_left (by rcases hpi with hpi | hpi<;>simp [hpi])) j (by simpa using hj)
     have hla:Qa ts j=false:=by simp only [Qa,htj];exact hlj
     simp only [htj,hpj,hla,Bool.false_eq_true,false_or] at this
     exact this
    ·simp only [List.map_cons,List.flatten_cons] at hf
     have hf':(sgs.map (·.2)).flatten=ts.drop (s2+l2.length):=by
      rw [← List.drop_drop,←hf];simp
     exact ih2 (s2+l2.length) hk3 hf' i ti hti hpi (by omega) j tj htj hpj hlj (by omega)
  cases qt with
  | false=>
   simp only [Bool.false_or,Bool.and_eq_true,beq_iff_eq] at hone
   obtain ⟨t0,rfl⟩:=List.length_eq_one_iff.1 hone.1
   have hone2:AM t0.o=false∧t0.o.late=false:=by simpa using hone.2
   have hnp0:=hone2.1
   have ht0:ts[s]?=some t0:=hlget 0 t0 rfl
   have hslt:=(List.getElem?_eq_some_iff.1 ht0).1
   have hbs:bar s=true:=by have:=hbar 0;simpa [Bf] using this
   have hl0:Bn t0=false:=by simp only [Bn,hbl s t0 ht0 hbs,Bool.false_and]
   intro fuel
   induction fuel with
   | zero=>
    intro L M w a hLs hLt hLf hLi hLc hfuel g
    have:=Ki hfuel s (by omega)
    rw [hLf s t0 ht0 hnp0 (Nat.le_refl _)] at this;cases this
   | succ fuel ihf=>
    intro L M w a hLs hLt hLf hLi hLc hfuel g
    refine ⟨fun h0=>(by
     have:=noReady L hLs h0 s (by omega)
     rw [hLf s t0 ht0 hnp0 (Nat.le_refl _)] at this;cases this),fun i hi=>?_⟩
    obtain ⟨o,t,f⟩:=IU hc hp hLs hLc hi
    obtain ⟨b1,b2,b3,_,b5⟩:=after f hLs hLc
    cases hpure:AM t.o with
    | true=>
     refine LO hm tr k hbp f hpure hso hfa (hungs hLs hLc hLt hso (unlisted f)) (fun hfl=>?_) g (fun a' w' g'=>?_)
     ·rcases Nat.lt_trichotomy i s with h1 | h1 | h1
      ·exact h1
      ·subst h1
       rw [f.ht] at ht0
       simp only [Option.some.injEq] at ht0
       rw [← ht0,hpure] at hnp0;cases hnp0
      ·have hb:=behind segs (s+1) (by simpa using hok) (by simpa using hfl') i t f.ht (.inr hfl) (by omega) s t0 ht0 hnp0 hl0 (by omega)
       have:=f.anc s hb (by omega)
       rw [hLf s t0 ht0 hnp0 (Nat.le_refl _)] at this;cases this
     refine ihf _ M w' a' b1 (fun i' t' ht' hnp hnl hi'=>(AZ b5 i').1 (.inl (hLt i' t' ht' hnp hnl hi'))) (fun i' t' ht' hnp hi'=>?_) hLi.same b2 (b3 fuel hfuel) (g'.congr (AZ b5))
     have hne:i≠i':=fun hh=>by
      subst hh
      rw [f.ht] at ht'
      simp only [Option.some.injEq] at ht'
      rw [← ht',hpure] at hnp;cases hnp
     rw [getD_set_ne true hne]
     exact hLf i' t' ht' hnp hi'
    | false=>
     by_cases hlate:Bn t=true∧i<s
     ·refine LE hm tr k hp hst f hlate.1 (nobar f.ht hlate.1) hlate.2 hso (hungs hLs hLc hLt hso (unlisted f)) g (hLi i t hlate.2 f.ht hlate.1 (unlisted f)) (fun M2 a' w' g' h2=>?_)
      refine ihf _ M2 w' a' b1 (fun i' t' ht' hnp hnl hi'=>(AZ b5 i').1 (.inl (hLt i' t' ht' hnp hnl hi'))) (fun i' t' ht' hnp hi'=>?_) (hLi.step fun i' t' hi' hne ht' hl' _=>h2 _ (lateNe f.ht hlate.1 ht' hl' hne)) b2 (b3 fuel hfuel) (g'.congr (AZ b5))
      rw [getD_set_ne true (by omega)]
      exact hLf i' t' ht' hnp hi'
     have his:i=s:=by
      rcases Nat.lt_trichotomy i s with h1 | h1 | h1
      ·exact absurd (hLt i t f.ht hpure (by cases hb:Bn t with | false=>rfl | true=>exact absurd ⟨hb,h1⟩ hlate) h1) f.hS
      ·exact h1
      ·have hb:=behind segs (s+1) (by simpa using hok) (by simpa using hfl') i t f.ht (.inl hpure) (by omega) s t0 ht0 hnp0 hl0 (by omega)
       have:=f.anc s hb (by omega)
       rw [hLf s t0 ht0 hnp0 (Nat.le_refl _)] at this;cases this
     subst his
     have htt:t=t0:=by have:=f.ht;rw [ht0] at this;simpa using this.symm
     subst htt
     have hlook:=g.look tr f.ht f.hS f.d1 f.d2
     obtain ⟨⟨ro,hcc,hdr,hrr⟩,hgg,hd,hdk,hlt⟩:=Cp f.hc
     have hwant:∀ {b:Bool},AJ (E i) t.g=some b→Region.wanted o (yielded ops a.tmps)=b:=fun hw=>CX (P:=P) (M:=M) (h:=H i) f.hc (fun s x hs=>hlook s (by simp [TO.slots,hs])) g.size hw
     have goOn:∀ (M2:Mp) (w2:World) (a2:Act),GInv M0 B w0 n ts E V' (H 0) (H (i+1)) (fun k=>L.getD k true=true∨k=i) M2 w2 a2→(∀ p u,p<i→ts[p]?=some u→Bn u=true→L.getD p true=false→M2 (H p).next=M (H p).next)→wpAny P .any ops Q fuel (L.setIfInBounds i true) a2 w2:=fun M2 w2 a2 g2 hM2=>by
      refine ih (i+1) (by simpa using hfl') (by simpa using hok) (by omega) (by simpa using hbar') fuel _ M2 w2 a2 b1 (fun i' t' ht' hnp hnl hi'=>?_) (fun i' t' ht' hnp hi'=>?_) (fun i' t' hi' ht' hl' hL'=>?_) b2 (b3 fuel hfuel) (g2.congr (AZ b5))
      rotate_left 2
      ·have hne:i'≠i:=by rintro rfl;rw [ht0] at ht';simp only [Option.some.injEq] at ht';rw [← ht',hl0] at hl';cases hl'
       rw [getD_set_ne true (Ne.symm hne)] at hL'
       rw [hM2 i' t' (by omega) ht' hl' hL']
       exact hLi i' t' (by omega) ht' hl' hL'
      ·rcases Nat.lt_succ_iff_lt_or_eq.1 hi' with h1 | h1
       ·exact (AZ b5 i').1 (.inl (hLt i' t' ht' hnp hnl h1))
       ·exact (AZ b5 i').1 (.inr h1)
      ·rw [getD_set_ne true (by omega)]
       exact hLf i' t' ht' hnp (by omega)
     unfold wpOp
     simp only [f.ho]
     rcases tr.step i t f.ht with ⟨hw,hv,hH⟩ | hst
     ·rw [hwant hw]
      simp only [Bool.false_eq_true,if_false]
      refine goOn M w _ ?_ (fun _ _ _ _ _ _=>rfl)
      rw [← hd,hH]
      exact g.step f.ht f.hS (by rw [hd];exact hdk) f.d3 g.sim (fun hv=>hv) (by rw [hv];exact .tup _ _ .nil) g.gmap (Below.refl B w)
     ·rw [if_pos hbs] at hst
      obtain ⟨hw,hq⟩:=hst
      rw [hwant hw]
      simp only [if_true]
      left
      refine E6 hC hm (GV hlook) g.sim hcc (by rw [← hrr,Gk t.o (Gp (E i) t)];exact hq) (fun x w' M' hdone=>?_)
      refine goOn M' w' _ ?_ (fun p u hpi hu hlu hLp=>by
       obtain ⟨ff,sz,r,F⟩:=EY tr hu hlu (nobar hu hlu)
       have h1:=Jf tr k (DP hp) hst hu hlu (nobar hu hlu) F (i+1) (by omega) (by omega) (fun c' hc' hb'=>by
        rcases Nat.lt_succ_iff_lt_or_eq.1 hc' with h5 | h5
        ·exact hungs hLs hLc hLt hso hLp c' h5 hb'
        ·subst h5
         cases hbt:((EI ops.toList).getD c' 0).testBit p with
         | false=>rfl
         | true=>
          have:=FC hLc c' p _ f.ho (fun e he hbi=>f.dir e (by simpa using he) hbi) hbt
          rw [F0 hLp] at this;cases this)
       have h2:=k.next (p+1) i (by omega) (by omega)
       have h3:=F.next
       exact hdone.goes.keeps.map _ (by omega) (by simp [AH.live,h1]))
      rw [← hd]
      refine g.step f.ht f.hS (by rw [hd];exact hdk) f.d3 hdone.sim (fun hv=>hv.keep hdone.goes.keeps) hdone.val (fun id hid hl=>?_) hdone.below
      have hid':id<(H i).next:=Nat.lt_of_lt_of_le hid (k.next 0 i (Nat.zero_le _) (by omega))
      exact (hdone.goes.keeps.map id hid' hl).trans (g.gmap id hid (hdone.goes.keeps.live id hid' hl))
  | true=>
   have hbf:∀ i,s≤i→i<s+l.length→bar i=false:=fun i h1 h2=>by
    have:=hbar (i - s)
    simp only [Bf] at this
    rw [if_pos (by omega),show s+(i - s)=i by omega] at this
    simpa using this
   have inner : ∀ (fuel : Nat) (L : Array Bool) (M : Mp) (w : World) (a : Act), L.size = ops.size → (∀ i t, ts[i]? = some t → AM t.o = false → Bn t = false → i < s → L.getD i true = true) → (∀ i t, ts[i]? = some t → AM t.o = false → s + l.length ≤ i → L.getD i true = false) → Km ts H s L M → Di ops L → Zh ops.size L = fuel →
       GInv M0 B w0 n ts E V' (H 0) (H (s+l.length)) (fun i=>L.getD i true=true) M w a→Fc ts H s (s+l.length) (fun i=>L.getD i true=true) M→wpAny P .any ops Q fuel L a w:=by
    have endL:∀ (L:Array Bool) (M:Mp),Km ts H s L M→Fc ts H s (s+l.length) (fun i=>L.getD i true=true) M→Km ts H (s+l.length) L M:=fun L M hLi q i t hi ht hl hL=>by
     by_cases h1:i<s
     ·exact hLi i t h1 ht hl hL
     ·have:=lateNext ht hl
      exact q.none_ i t (by omega) hi ht (latePure hl) (by simp [hL]) _ (Nat.le_refl _) (by omega)
    intro fuel
    induction fuel with
    | zero=>
     intro L M w a hLs hLt hLf hLi hLc hfuel g q
     have hall:=Ki hfuel
     exact ih (s+l.length) hfl' hok hsl hbar' 0 L M w a hLs (fun i t ht _ _ _=>hall i (by have:=(List.getElem?_eq_some_iff.1 ht).1;omega)) hLf (endL L M hLi q) hLc hfuel g
    | succ fuel ihf=>
     intro L M w a hLs hLt hLf hLi hLc hfuel g q
     by_cases hall:∀ i t,ts[i]?=some t→AM t.o=false→Bn t=false→i<s+l.length→L.getD i true=true
     ·exact ih (s+l.length) hfl' hok hsl hbar' (fuel+1) L M w a hLs hall hLf (endL L M hLi q) hLc hfuel g
     ·refine ⟨fun h0=>absurd (fun i t ht _ _ _=>noReady L hLs h0 i (by have:=(List.getElem?_eq_some_iff.1 ht).1;omega)) hall,fun i hi=>?_⟩
      obtain ⟨o,t,f⟩:=IU hc hp hLs hLc hi
      obtain ⟨b1,b2,b3,_,b5⟩:=after f hLs hLc
      cases hpure:AM t.o with
      | true=>
       refine LO hm tr k hbp f hpure hsl hfa (fun c' hc' hb'=>by
           rcases Nat.lt_or_ge c' s with h5 | h5
           ·exact hungs hLs hLc hLt (by omega) (unlisted f) c' h5 hb'
           ·rw [hbf c' h5 hc'] at hb';cases hb') (fun hfl=>?_) g (fun a' w' g'=>?_)
       ·rcases Nat.lt_or_ge i (s+l.length) with h1 | h1
        ·exact h1
        ·exfalso
         apply hall
         intro j tj htj hpj hlj hj
         have hb:=behind segs (s+l.length) hok hfl' i t f.ht (.inr hfl) h1 j tj htj hpj hlj hj
         exact f.anc j hb (by have:=(List.getElem?_eq_some_iff.1 htj).1;omega)
       refine ihf _ M w' a' b1 (fun i' t' ht' hnp hnl hi'=>(AZ b5 i').1 (.inl (hLt i' t' ht' hnp hnl hi'))) (fun i' t' ht' hnp hi'=>?_) hLi.same b2 (b3 fuel hfuel) (g'.congr (AZ b5)) ((q.more (j:=i)).congr (AZ b5))
       have hne:i≠i':=fun hh=>by
        subst hh
        rw [f.ht] at ht'
        simp only [Option.some.injEq] at ht'
        rw [← ht',hpure] at hnp;cases hnp
       rw [getD_set_ne true hne]
       exact hLf i' t' ht' hnp hi'
      | false=>
       by_cases hlate:Bn t=true∧i<s
       ·have hunq:∀ c',c'<s+l.length→bar c'=true→((EI ops.toList).getD c' 0).testBit i=false:=fun c' hc' hb'=>by
         rcases Nat.lt_or_ge c' s with h5 | h5
         ·exact hungs hLs hLc hLt (by omega) (unlisted f) c' h5 hb'
         ·rw [hbf c' h5 hc'] at hb';cases hb'
        refine LE hm tr k hp hst f hlate.1 (nobar f.ht hlate.1) (by omega) hsl hunq g (hLi i t hlate.2 f.ht hlate.1 (unlisted f)) (fun M2 a' w' g' h2=>?_)
        obtain ⟨ff,sz,r,F⟩:=EY tr f.ht hlate.1 (nobar f.ht hlate.1)
        have hget:=Jf tr k (DP hp) hst f.ht hlate.1 (nobar f.ht hlate.1) F (s+l.length) (by omega) hsl hunq
        have q2:=q.late k hsl hlate.2 F.next hget (Ru tr k (DP hp) f.ht hlate.1 F) h2
        refine ihf _ M2 w' a' b1 (fun i' t' ht' hnp hnl hi'=>(AZ b5 i').1 (.inl (hLt i' t' ht' hnp hnl hi'))) (fun i' t' ht' hnp hi'=>?_) (hLi.step fun i' t' hi' hne ht' hl' _=>h2 _ (lateNe f.ht hlate.1 ht' hl' hne)) b2 (b3 fuel hfuel) (g'.congr (AZ b5)) (q2.congr (AZ b5))
        rw [getD_set_ne true (by omega)]
        exact hLf i' t' ht' hnp hi'
       have his:s≤i:=by
        rcases Nat.lt_or_ge i s with h1 | h1
        ·exact absurd (hLt i t f.ht hpure (by cases hb:Bn t with | false=>rfl | true=>exact absurd ⟨hb,h1⟩ hlate) h1) f.hS
        ·exact h1
       have hil:i<s+l.length:=by
        rcases Nat.lt_or_ge i (s+l.length) with h1 | h1
        ·exact h1
        ·exfalso
         apply hall
         intro j tj htj hpj hlj hj
         have hb:=behind segs (s+l.length) hok hfl' i t f.ht (.inl hpure) h1 j tj htj hpj hlj hj
         exact f.anc j hb (by have:=(List.getElem?_eq_some_iff.1 htj).1;omega)
       have hlook:=g.look tr f.ht f.hS f.d1 f.d2
       obtain ⟨⟨ro,hcc,hdr,hrr⟩,hgg,hd,hdk,hlt⟩:=Cp f.hc
       have hwant:∀ {b:Bool},AJ (E i) t.g=some b→Region.wanted o (yielded ops a.tmps)=b:=fun hw=>CX (P:=P) (M:=M) (h:=H (s+l.length)) f.hc (fun s x hs=>hlook s (by simp [TO.slots,hs])) g.size hw
       have goOn:∀ (M2:Mp) (w2:World) (a2:Act),GInv M0 B w0 n ts E V' (H 0) (H (s+l.length)) (fun k=>L.getD k true=true∨k=i) M2 w2 a2→Fc ts H s (s+l.length) (fun k=>L.getD k true=true∨k=i) M2→(∀ p u,p<s→ts[p]?=some u→Bn u=true→M2 (H p).next=M (H p).next)→wpAny P .any ops Q fuel (L.setIfInBounds i true) a2 w2:=fun M2 w2 a2 g2 q2 hM2=>by
        refine ihf _ M2 w2 a2 b1 (fun i' t' ht' hnp hnl hi'=>(AZ b5 i').1 (.inl (hLt i' t' ht' hnp hnl hi'))) (fun i' t' ht' hnp hi'=>?_) (hLi.step fun i' t' hi' _ ht' hl' _=>hM2 i' t' hi' ht' hl') b2 (b3 fuel hfuel) (g2.congr (AZ b5)) (q2.congr (AZ b5))
        rw [getD_set_ne true (by omega)]
        exact hLf i' t' ht' hnp hi'
       unfold wpOp
       simp only [f.ho]
       rcases tr.step i t f.ht with ⟨hw,hv,hH⟩ | hst
       ·rw [hwant hw]
        simp only [Bool.false_eq_true,if_false]
        refine goOn M w _ ?_ q.more (fun _ _ _ _ _=>rfl)
        rw [← hd]
        exact g.step f.ht f.hS (by rw [hd];exact hdk) f.d3 g.sim (fun hv=>hv) (by rw [hv];exact .tup _ _ .nil) g.gmap (Below.refl B w)
       ·rw [if_neg (by rw [hbf i his hil];simp)] at hst
        rcases hst with ⟨hw,hpp,_⟩ | ⟨hw,hpp,qq,hq,hH⟩
        ·rw [hpure] at hpp;cases hpp
        ·rw [hwant hw]
         simp only [if_true]
         left
         have hsj:=q.down k hbf hsl g.sim (j:=i) his (by omega)
         have m2:=k.gets hbf hsl i (s+l.length) his (by omega) (Nat.le_refl _)
         have hlook':∀ sl∈t.slots,VR M (H i) (E i sl) (a.tmps.getD sl undef):=fun sl hsl'=>
          (hlook sl hsl').move (N:=(H i).next) (Nat.le_refl _) (fun id hid hl=>⟨by rw [AH.live,m2 id hid];exact hl,rfl⟩) (gG tr k (by omega) sl)
         refine E6 hC hm (GV hlook').raise hsj.raise hcc (by rw [← hrr,Gk t.o (Gp (E i) t)];exact hq) (fun x w' M' hdone=>?_)
         obtain ⟨M2,g2,q2,hM2⟩:=q.put k hbf hsl g his hil f.ht hpure f.hS (by rw [hd];exact hdk) f.d3 hH hdone
         rw [← hd]
         exact goOn M2 w' _ g2 q2 (fun p u hps hu hlu=>hM2 _ (fun hh=>by
          have h1:=lateNext hu hlu
          have h2:=k.next (p+1) i (by omega) (by omega)
          omega))
   intro fuel L M w a hLs hLt hLf hLi hLc hfuel g
   obtain ⟨M1,g1,q1,hM1⟩:=g.enter k hbf (Nat.le_add_right _ _) hsl
   exact inner fuel L M1 w a hLs hLt (fun i t ht hnp hi=>hLf i t ht hnp (by omega)) (fun i t hi ht hl hL=>hM1 _ (hLi i t hi ht hl hL)) hLc hfuel g1 q1
end
end
end Go.Ab
/- Code, functions, the whole: what the abstract machine answers the model's machine answers. -/
namespace Go.Ab
open Go Go.RowKit
section
variable {P:Program}
theorem TK {c : Code} {Q : Exit → Act → World → Prop} {a : Act} {w : World} (J : Nat → Act → World → Prop) (n : Nat) (h0 : J n a w)
    (round:∀ n a w,J n a w→c.wp P (Exit.then (fun a' w'=>∃ m,m<n∧J m a' w') Q) a w):(Code.loop c).wp P Q a w:=by
 intro b k cs
 have key:∀ n a w,J n a w→∃ e a' w',Q e a' w'∧Arrives P (lone (b.at a (.code c::.inLoop c::k)) cs w) b k cs e a' w':=by
  intro n
  induction n using Nat.strongRecOn with
  | _ n ih=>
   intro a w hI
   obtain ⟨e,a₁,w₁,hq,harr⟩:=round n a w hI b (.inLoop c::k) cs
   cases e with
   | normal=>
    obtain ⟨m,hlt,hI₁⟩:=hq
    obtain ⟨e₂,a₂,w₂,hq₂,harr₂⟩:=ih m hlt a₁ w₁ hI₁
    exact ⟨e₂,a₂,w₂,hq₂,.of_steps (Steps.trans harr (.one step_inLoop)) harr₂⟩
   | exit id=>exact ⟨_,a₁,w₁,hq,.pass (x:=.inLoop c) rfl (fun _ _=>.inl (by simp)) harr⟩
   | goto l=>exact ⟨_,a₁,w₁,hq,.pass (x:=.inLoop c) rfl (fun _ _=>.inl (by simp)) harr⟩
   | ret=>exact ⟨_,a₁,w₁,hq,.pass (x:=.inLoop c) rfl (fun _ _=>.inl (by simp)) harr⟩
   | panic ch=>exact ⟨_,a₁,w₁,hq,.pass (x:=.inLoop c) rfl (fun _ _=>.inl (by simp)) harr⟩
   | outgrown=>exact ⟨_,a₁,w₁,hq,.pass (x:=.inLoop c) rfl (fun _ _=>.inl (by simp)) harr⟩
 obtain ⟨e,a',w',hq,harr⟩:=key n a w h0
 exact ⟨e,a',w',hq,.of_steps (.one step_loop) harr⟩
def Ex.real:Ex→Exit
 | .nm=>.normal
 | .ex id=>.exit id
 | .rt=>.ret
def Ends (M:Mp) (B:Nat) (w:World) (h:AH) (n:Nat) (z:Ex×Env×AH) (Q:Exit→Act→World→Prop):Prop:=
 ∀ M' a' w',L8 M' B w' z.2.2 z.2.1 a' n→Goes M M' h z.2.2→Below B w w'→Q z.1.real a' w'
theorem K2 {cl:List Nat} {ts:List TO}:∀ (segs:List (Bool×List TO)) (s:Nat),Em cl ts s segs=true→∀ p∈segs,p.1=true∨p.2.length=1
 | [],_,_,p,hp=>by simp at hp
 | (q,l)::r,s,h,p,hp=>by
  simp only [Em,Bool.and_eq_true,Bool.or_eq_true,beq_iff_eq] at h
  rcases List.mem_cons.1 hp with rfl | hp
  ·rcases h.1.2 with h | h
   ·exact .inl h
   ·exact .inr h.1
  ·exact K2 r _ h.2 p hp
theorem Jy {cl:List Nat} {ts:List TO}:∀ (segs:List (Bool×List TO)) (s:Nat),Em cl ts s segs=true→∀ (j:Nat) (t:TO),(segs.map (·.2)).flatten[j]?=some t→Bf segs j=true→AM t.o=false∧t.o.late=false
 | [],_,_,j,t,ht,_=>by simp at ht
 | (q,l)::r,s,h,j,t,ht,hb=>by
  simp only [Em,Bool.and_eq_true,Bool.or_eq_true,beq_iff_eq] at h
  simp only [Bf] at hb
  simp only [List.map_cons,List.flatten_cons] at ht
  split at hb
  ·rename_i hj
   rw [List.getElem?_append_left hj] at ht
   rcases h.1.2 with hq | hq
   ·simp [hq] at hb
   ·have:=List.all_eq_true.1 hq.2 t (List.mem_of_getElem? ht)
    simpa using this
  ·rename_i hj
   rw [List.getElem?_append_right (by omega)] at ht
   exact Jy r _ h.2 (j - l.length) t ht hb
theorem VC {C : A0} {tp : TP} {wr : Wr} (hC : Dm P C) (hS : Cl C) (hm : BG P tp) {n : Nat} {fl : List Nat} {ops : Array Oper} {segs : List (Bool × List TO)} {M : Mp} {B : Nat} {w : World} {h : AH} {e : Env} {a : Act} {y : Env × AH} {Q : Exit → Act → World → Prop}
    (hc:CH P wr n fl ops=some (.dreg segs)) (hy:BJ tp C segs e h=some y) (hr:L8 M B w h e a n) (hQ:∀ M' a' w',L8 M' B w' y.2 y.1 a' n→Goes M M' h y.2→Below B w w'→Q .normal a' w'):
    wpAny P .any ops Q ops.size (Array.replicate ops.size false) a { w with drawn:=w.drawn+1 }:=by
 unfold CH at hc
 obtain ⟨ts,hts,hc⟩:=bind_some hc
 simp only at hc
 split at hc
 case isFalse=>simp at hc
 rename_i hok
 simp only [Option.some.injEq,TC.dreg.injEq] at hc
 subst hc
 simp only [Bool.and_eq_true,beq_iff_eq] at hok
 obtain ⟨⟨⟨⟨h1,h2⟩,h2'⟩,hfo⟩,h3⟩:=hok
 have hfl:((Ft (Zw wr ops) (ops.toList.zip ts)).map (·.2)).flatten=ts:=by
  rw [HW,List.map_snd_zip (by simp [h3])]
 obtain ⟨E,H,V',tr,hE0,hH0,hE1,hH1,hstab⟩:=Gq hS h.lim (EI ops.toList) (Ft (Zw wr ops) (ops.toList.zip ts)) 0 [] e y.1 h y.2 rfl (K2 _ _ h1) hy
 rw [hfl] at tr hE1 hH1 hstab
 have hr':L8 M B { w with drawn:=w.drawn+1 } h e a n:=⟨hr.sim.heap rfl,hr.env,hr.size,hr.defers⟩
 have hr0:L8 M B { w with drawn:=w.drawn+1 } (H 0) (E 0) a n:=by rw [hE0,hH0];exact hr'
 have kn:=Xs hC hS hm tr hr0 (by rw [hH0]) (fun j t ht=>(by
  have hj:=(List.getElem?_eq_some_iff.1 ht).1
  exact ⟨_,(DW hts).2 j ops.toList[j] t (List.getElem?_eq_getElem (by simp;omega)) ht⟩))
 have hlen:ops.size=ts.length:=h3.symm
 have getF:∀ i,(Array.replicate ops.size false).getD i false=false:=fun i=>by
  rw [Array.getD_eq_getD_getElem?]
  by_cases hi:i<ops.size
  ·simp [hi]
  ·simp [hi]
 refine Qm (M0:=M) (B:=B) (w0:={ w with drawn:=w.drawn+1 }) hC hS hm hts h2' h2 tr kn (fun j t ht hb=>(Jy _ _ h1 j t (by rw [hfl];exact ht) hb).1) (fun j t ht hb=>(Jy _ _ h1 j t (by rw [hfl];exact ht) hb).2) hfo (fun c hc j t hj ht hb=>(hstab c hc).2 j t hj ht hb) (fun M' a' w' r' g' b'=>?_) (Ft (Zw wr ops) (ops.toList.zip ts)) 0 (by simpa using hfl) h1 (Nat.zero_le _) (fun i=>by simp) ops.size (Array.replicate ops.size false) M _ a (by simp) (fun i _ _ _ _ hi=>by omega) (fun i t ht _ _=>?_) (fun i _ hi _ _ _=>absurd hi (Nat.not_lt_zero _)) (fun i o ho hi=>?_) ?_ ?_
 ·rw [hE1,hH1] at r'
  rw [hH0,hH1] at g'
  exact hQ M' a' w' r' g' ⟨b'.os,b'.tape,b'.output,b'.size,b'.block⟩
 ·have hlt:=(List.getElem?_eq_some_iff.1 ht).1
  rw [Array.getD_eq_getD_getElem?];simp [hlen,hlt]
 ·have hlt:=(Array.getElem?_eq_some_iff.1 ho).1
  simp only at hi
  rw [Array.getD_eq_getD_getElem?] at hi
  simp [hlt] at hi
 ·unfold Zh
  rw [List.filter_eq_self.2 (fun i hi=>by
   have:i<ops.size:=by simpa using hi
   rw [Array.getD_eq_getD_getElem?];simp [this])]
  simp
 ·refine ⟨hr0.sim,fun t _=>hr0.env t,fun i o ht hi=>?_,fun _ _ _=>rfl,Below.refl _ _,hr0.size,hr0.defers⟩
  have hlt:=(List.getElem?_eq_some_iff.1 ht).1
  rw [Array.getD_eq_getD_getElem?] at hi
  simp [hlen,hlt] at hi
theorem Pg {C:A0} {tp:TP} {wr:Wr} (hC:Dm P C) (hS:Cl C) (hm:BG P tp) (hx:P.follows .mixedOrders=true) {n k:Nat}:∀ (c:Code) (tc:TC) (M:Mp) (B:Nat) (w:World) (h:AH) (e:Env) (a:Act) (z:Ex×Env×AH) (Q:Exit→Act→World→Prop),
    Dp P wr n c=some tc→CJ tp C k tc e h=some z→L8 M B w h e a n→Ends M B w h n z Q→c.wp P Q a w:=by
 intro c
 induction c with
 | skip=>
  intro tc M B w h e a z Q hc he hr hQ
  simp [Dp] at hc;subst hc
  simp [CJ] at he;subst he
  exact wp_skip (hQ M a w hr (Goes.refl M h) (Below.refl B w))
 | region id ops draw=>
  intro tc M B w h e a z Q hc he hr hQ
  simp only [Dp,QY] at hc
  cases draw with
  | true=>
   simp only [if_true] at hc
   have kind:∀ {fl:List Nat} {o2:Array Oper},CH P wr n fl o2=some tc→∃ segs,tc=.dreg segs:=fun hh=>by
    unfold CH at hh
    obtain ⟨ts,_,hh⟩:=bind_some hh
    simp only at hh
    split at hh
    ·exact ⟨_,(Option.some.inj hh).symm⟩
    ·simp at hh
   have done:∀ {fl:List Nat} {o2:Array Oper},CH P wr n fl o2=some tc→wpAny P .any o2 Q o2.size (Array.replicate o2.size false) a { w with drawn:=w.drawn+1 }:=fun hh=>by
    obtain ⟨segs,rfl⟩:=kind hh
    simp only [CJ,Option.map_eq_some_iff] at he
    obtain ⟨y,hy,rfl⟩:=he
    exact VC hC hS hm hh hy hr (fun M' a' w' r' g' b'=>hQ M' a' w' r' g' b')
   refine wp_region_any hx ?_
   split at hc
   ·rename_i c hcc
    exact done (hcc.trans hc)
   ·split at hc
    ·rename_i c hcc
     exact done (hcc.trans hc)
    ·split at hc
     case isFalse=>simp at hc
     rename_i hok
     simp only [Bool.and_eq_true] at hok
     have p:=MY hok.1
     refine p.any hok.2 ops.size _ (Array.replicate ops.size false) a _ (by simp) (by simp) (fun i hi=>?_) ?_
     ·rw [Array.getD_eq_getD_getElem?,Array.getD_eq_getD_getElem?]
      simp [hi,p.lt i hi]
     ·have hd:wpAny P .any (E3 ops (KW (Zw wr ops) ops ops.size [])) Q (E3 ops (KW (Zw wr ops) ops ops.size [])).size (Array.replicate (E3 ops (KW (Zw wr ops) ops ops.size [])).size false) a { w with drawn:=w.drawn+1 }:=by
       split at hc
       ·rename_i c hcc
        exact done (hcc.trans hc)
       ·exact done hc
      rw [p.size] at hd
      exact hd
  | false=>
   simp only [Bool.false_eq_true,if_false,Option.map_eq_some_iff] at hc
   obtain ⟨ts,hts,rfl⟩:=hc
   simp only [CJ,Option.map_eq_some_iff] at he
   obtain ⟨y,hy,rfl⟩:=he
   refine wp_region ?_
   have:=Hy hC hm ops.toList ts 0 M w h y.2 e y.1 a (fun j=>by simp) hts hy hr (Q:=Q) (fun M' a' w' r' g' b'=>hQ M' a' w' r' g' b')
   rw [List.range_eq_range']
   simpa using this
 | seq x y ihx ihy=>
  intro tc M B w h e a z Q hc he hr hQ
  simp only [Dp] at hc
  obtain ⟨tx,htx,hc⟩:=bind_some hc
  simp only [Option.map_eq_some_iff] at hc
  obtain ⟨ty,hty,rfl⟩:=hc
  simp only [CJ] at he
  obtain ⟨y1,hy1,he⟩:=bind_some he
  refine wp_seq (ihx tx M B w h e a y1 _ htx hy1 hr (fun M' a' w' r' g' b'=>?_))
  obtain ⟨ex,e1,h1⟩:=y1
  cases ex with
  | nm=>
   simp only at he
   exact ihy ty M' B w' h1 e1 a' z Q hty he r' (fun M'' a'' w'' r'' g'' b''=>hQ M'' a'' w'' r'' (g'.trans g'') (b'.trans b''))
  | ex id=>simp at he;subst he;exact hQ M' a' w' r' g' b'
  | rt=>simp at he;subst he;exact hQ M' a' w' r' g' b'
 | cond c x y ihx ihy=>
  intro tc M B w h e a z Q hc he hr hQ
  simp only [Dp] at hc
  obtain ⟨tq,htq,hc⟩:=bind_some hc
  obtain ⟨tx,htx,hc⟩:=bind_some hc
  simp only [Option.map_eq_some_iff] at hc
  obtain ⟨ty,hty,rfl⟩:=hc
  have hv:=Ao hr.env htq
  simp only [CJ] at he
  split at he
  ·rename_i hq
   rw [hq] at hv
   cases hav:a.eval c<;>rw [hav] at hv<;>cases hv
   exact wp_cond hav (ihx tx M B w h e a z Q htx he hr hQ)
  ·rename_i hq
   rw [hq] at hv
   cases hav:a.eval c<;>rw [hav] at hv<;>cases hv
   exact wp_cond hav (ihy ty M B w h e a z Q hty he hr hQ)
  ·simp at he
 | block id c ih=>
  intro tc M B w h e a z Q hc he hr hQ
  simp only [Dp,Option.map_eq_some_iff] at hc
  obtain ⟨tx,htx,rfl⟩:=hc
  simp only [CJ,Option.map_eq_some_iff] at he
  obtain ⟨y,hy,rfl⟩:=he
  refine wp_block (ih tx M B w h e a y _ htx hy hr (fun M' a' w' r' g' b'=>?_))
  obtain ⟨ex,e1,h1⟩:=y
  have:=hQ M' a' w' r' g' b'
  cases ex with
  | nm=>exact this
  | rt=>exact this
  | ex j=>
   simp only [Ex.real,Exit.inBlock] at this ⊢
   split
   ·rename_i hji;simpa [hji] using this
   ·rename_i hji;simpa [hji] using this
 | loop c ih=>
  intro tc M B w h e a z Q hc he hr hQ
  simp only [Dp,Option.map_eq_some_iff] at hc
  obtain ⟨tx,htx,rfl⟩:=hc
  simp only [CJ] at he
  refine TK (fun m a1 w1=>∃ M1 e1 h1,Gb (CJ tp C k tx) m e1 h1=some z∧L8 M1 B w1 h1 e1 a1 n∧Goes M M1 h h1∧Below B w w1) k ⟨M,e,h,he,hr,Goes.refl M h,Below.refl B w⟩ ?_
  intro m a1 w1 ⟨M1,e1,h1,hit,hr1,hg1,hb1⟩
  cases m with
  | zero=>simp [Gb] at hit
  | succ m=>
   simp only [Gb] at hit
   obtain ⟨y,hy,hit⟩:=bind_some hit
   refine ih tx M1 B w1 h1 e1 a1 y _ htx hy hr1 (fun M' a' w' r' g' b'=>?_)
   obtain ⟨ex,e2,h2⟩:=y
   cases ex with
   | nm=>exact ⟨m,Nat.lt_succ_self _,M',e2,h2,hit,r',hg1.trans g',hb1.trans b'⟩
   | ex id=>simp at hit;subst hit;exact hQ M' a' w' r' (hg1.trans g') (hb1.trans b')
   | rt=>simp at hit;subst hit;exact hQ M' a' w' r' (hg1.trans g') (hb1.trans b')
 | exit id=>
  intro tc M B w h e a z Q hc he hr hQ
  simp [Dp] at hc;subst hc
  simp [CJ] at he;subst he
  exact wp_exit (hQ M a w hr (Goes.refl M h) (Below.refl B w))
 | ret=>
  intro tc M B w h e a z Q hc he hr hQ
  simp [Dp] at hc;subst hc
  simp [CJ] at he;subst he
  exact wp_ret (hQ M a w hr (Goes.refl M h) (Below.refl B w))
 | _=>intro tc M B w h e a z Q hc;simp [Dp] at hc
def Nj (tmps:Array Value):ResultVar→Sem Value
 | .tmp t=>pure (tmps.getD t undef)
 | .cell b t=>do loadVar t (← asAddr (tmps.getD b undef))
theorem K1 {M : Mp} {B : Nat} {w : World} {h : AH} {e : Env} {a : Act} (hs : CC M B w h) (hE : DS M h e a) : ∀ (l : List ResultVar) (rs : List RV) (vs : List V), GD P l = some rs → TQ e h rs = some vs →
    ∃ xs:List Value,Bg M h vs xs∧(l.mapM (Nj a.tmps)).run P w=.ok xs w
 | [],rs,vs,hc,he=>by
  simp [GD] at hc;subst hc
  simp [TQ] at he;subst he
  exact ⟨[],.nil,by simp⟩
 | r::l,rs,vs,hc,he=>by
  simp only [GD] at hc
  obtain ⟨x,hx,hc⟩:=bind_some hc
  simp only [Option.map_eq_some_iff] at hc
  obtain ⟨rs',hrs,rfl⟩:=hc
  simp only [TQ] at he
  obtain ⟨v,hv,he⟩:=bind_some he
  simp only [Option.map_eq_some_iff] at he
  obtain ⟨vs',hvs,rfl⟩:=he
  obtain ⟨xs,hxs,hrun⟩:=K1 hs hE l rs' vs' hrs hvs
  cases r with
  | tmp t=>
   simp [Ph] at hx;subst hx
   simp [Qu] at hv;subst hv
   exact ⟨_::xs,.cons _ _ _ _ (hE t) hxs,by simp only [List.mapM_cons,Nj,Sem.run_bind,Sem.run_pure,Result.andThen_ok,hrun]⟩
  | cell b t=>
   simp only [Ph] at hx
   obtain ⟨s,hsz,hx⟩:=bind_some hx
   obtain ⟨g,hg,hx⟩:=bind_some hx
   split at hx
   case isFalse=>simp at hx
   simp only [Option.some.injEq] at hx
   subst hx
   simp only [Qu] at hv
   have hb:=hE b
   split at hv
   case h_2=>simp at hv
   rename_i id el off hp
   rw [hp] at hb
   obtain ⟨kk,hkk,hv⟩:=bind_some hv
   obtain ⟨row,hrow,hv⟩:=bind_some hv
   cases hav:a.tmps.getD b undef<;>rw [hav] at hb<;>try (cases hb;done)
   rename_i ad0
   cases ad0 with
   | none=>cases hb
   | some ad=>
    obtain ⟨y,hy,hvy⟩:=Rx (P:=P) hs trivial hb hkk hrow hv hsz hg
    refine ⟨y::xs,.cons _ _ _ _ hvy hxs, ?_⟩
    have h1:(Nj a.tmps (.cell b t)).run P w=.ok y w:=by
     simp only [Nj,Sem.run_bind]
     rw [hav]
     simp only [asAddr,Sem.run_pure,Result.andThen_ok,hy]
    simp only [List.mapM_cons,Sem.run_bind,Sem.run_pure,h1,Result.andThen_ok,hrun]
def aB0 (P:Program) (wr:Wr) (tp:TP):Prop:=∀ f tf,tp.fn f=some tf→∃ fn,P.funcs[f]?=some fn∧Aj P wr fn=some tf
theorem VK {tp:TP} {wr:Wr} (hT:aB0 P wr tp) (hm:BG P tp) (hx:P.follows .mixedOrders=true):∀ k,Dm P (ev tp k):=by
 intro k
 induction k with
 | zero=>intro f args h v h' he;simp [ev] at he
 | succ k ih=>
  intro f args h v h' he
  simp only [ev] at he
  obtain ⟨tf,htf,he⟩:=bind_some he
  split at he
  case isFalse=>simp at he
  rename_i hargs
  obtain ⟨z,hz,he⟩:=bind_some he
  obtain ⟨fn,hfn,hcf⟩:=hT f tf htf
  unfold Aj at hcf
  cases hb:fn.body with
  | none=>simp [hb] at hcf
  | some c=>
   simp only [hb] at hcf
   split at hcf
   case isTrue=>simp at hcf
   rename_i hname
   obtain ⟨rs,hrs,hcf⟩:=bind_some hcf
   simp only [Option.map_eq_some_iff] at hcf
   obtain ⟨tc,htc,rfl⟩:=hcf
   refine ⟨⟨fn,hfn,by simp [hb],by simpa using hname⟩,fun M B w xs hs hxs=>?_⟩
   have hl:=hxs.length
   have hl':args.length=xs.size:=by simpa using hl
   simp only at hargs
   refine calls_of_wp hfn hb ?_
   have hr0:L8 M B w h (Ey args) { tmps:=xs++Array.replicate (fn.ntmps - xs.size) undef,defers:=[] } fn.ntmps:=by
    refine ⟨hs,fun t=>?_,by simp;omega,rfl⟩
    simp only [Ey]
    by_cases ht:t<args.length
    ·obtain ⟨x,hx1,hx2⟩:=hxs.get t args[t] (by simp [ht])
     have hget:(xs++Array.replicate (fn.ntmps - xs.size) undef).getD t undef=x:=by
      rw [Array.getD_eq_getD_getElem?,Array.getElem?_append]
      rw [if_pos (by omega)]
      have:xs[t]?=some x:=by simpa using hx1
      rw [this];rfl
     rw [hget]
     have:args.getD t .u=args[t]:=by simp [List.getD,ht]
     rw [this];exact hx2
    ·have:args.getD t .u=.u:=by simp [List.getD,List.getElem?_eq_none (Nat.le_of_not_lt ht)]
     rw [this];exact .u _
   refine Pg (k:=k) ih (KI tp k) hm hx c tc M B w h (Ey args) _ z _ htc hz hr0 (fun M' a' w' r' g' b'=>?_)
   obtain ⟨ex,z1,z2⟩:=z
   have fin:(BC z1 z2 rs).map (fun v=>(v,z2))=some (v,h')→a'.defers=[]∧∃ x,(results fn a'.tmps).run P w'=.ok x w'∧∃ y M',Ending.returned x=.returned y∧C4 M B w h v h' y w' M':=by
    intro hres
    simp only [Option.map_eq_some_iff,Prod.mk.injEq] at hres
    obtain ⟨v',hv',rfl,rfl⟩:=hres
    simp only [BC,Option.map_eq_some_iff] at hv'
    obtain ⟨vs,hvs,rfl⟩:=hv'
    obtain ⟨ys,hys,hrun⟩:=K1 r'.sim r'.env _ rs vs hrs hvs
    have hrun':(results fn a'.tmps).run P w'=.ok (if hh:ys.toArray.size=1 then ys.toArray[0] else .tuple ys.toArray) w':=by
     have e:results fn a'.tmps=(do let vs←Array.mapM (Nj a'.tmps) fn.results;pure (if h:vs.size=1 then vs[0] else .tuple vs)):=rfl
     rw [e,Array.mapM_eq_mapM_toList]
     simp only [Sem.run_bind,Sem.run_map,hrun,Result.andThen_ok,Sem.run_pure]
    refine ⟨r'.defers,_,hrun',_,M',rfl,⟨?_,r'.sim,trivial,g',b'⟩⟩
    cases hys with
    | nil=>exact .tup _ _ .nil
    | cons v1 y1 l1 l1' p1 q1=>
     cases q1 with
     | nil=>simpa using p1
     | cons v2 y2 l2 l2' p2 q2=>
      have:¬ (y1::y2::l2').toArray.size=1:=by simp
      rw [dif_neg this]
      exact .tup _ _ (.cons _ _ _ _ p1 (.cons _ _ _ _ p2 q2))
   cases ex with
   | ex id=>simp at he
   | nm=>
    obtain ⟨h1,x,h2,h3⟩:=fin he
    exact ⟨h1,x,h2,h3⟩
   | rt=>
    obtain ⟨h1,x,h2,h3⟩:=fin he
    exact ⟨h1,x,h2,h3⟩
end
end Go.Ab
/- More fuel, the same answer; and the abstract machine without fuel, as conditions ahead of code. -/
namespace Go.Ab
universe u
open Go
def oY (C D:A0):Prop:=∀ f args h z,C f args h=some z→D f args h=some z
theorem FN {tp:TP} {C D:A0} (hC:oY C D) {o:O} {ev:X→V} {h:AH} {z:V×AH} (hd:AY tp C o ev h=some z):AY tp D o ev h=some z:=by
 unfold AY at hd ⊢
 split at hd
 ·simp only [Option.bind_eq_some_iff] at hd ⊢
  obtain ⟨c,h1,hd⟩:=hd
  exact ⟨c,h1,hC _ _ _ _ hd⟩
 ·simp only [Option.bind_eq_some_iff] at hd ⊢
  obtain ⟨c,h1,hd⟩:=hd
  exact ⟨c,h1,hC _ _ _ _ hd⟩
 ·exact hd
theorem ED {tp:TP} {C D:A0} (hC:oY C D):∀ (l:List TO) (e:Env) (h:AH) (z:Env×AH),BS tp C l e h=some z→BS tp D l e h=some z
 | [],e,h,z,he=>by simpa [BS] using he
 | o::l,e,h,z,he=>by
  simp only [BS] at he ⊢
  split at he
  ·simp only [Option.bind_eq_some_iff] at he ⊢
   obtain ⟨q,hq,he⟩:=he
   exact ⟨q,FN hC hq,ED hC l _ _ z he⟩
  ·exact ED hC l _ _ z he
  ·simp at he
theorem Df {tp:TP} {C D:A0} (hC:oY C D):∀ (l:List TO) (e:Env) (h:AH) (z:Env×AH),Bc tp C l e h=some z→Bc tp D l e h=some z
 | [],e,h,z,he=>by simpa [Bc] using he
 | o::l,e,h,z,he=>by
  unfold Bc at he ⊢
  cases hw:AJ e o.g with
  | none=>simp [hw] at he
  | some b=>
   cases b with
   | false=>simp only [hw] at he ⊢;exact Df hC l _ _ z he
   | true=>
    simp only [hw] at he ⊢
    by_cases hp:AM o.o=true
    ·rw [if_pos hp] at he ⊢
     by_cases ha:HK o.o (X.ev e) h=true
     ·rw [if_pos ha] at he ⊢
      simp only [Option.bind_eq_some_iff] at he ⊢
      obtain ⟨q,hq,he⟩:=he
      exact ⟨q,hq,Df hC l _ _ z he⟩
     ·rw [if_neg ha] at he;simp at he
    ·rw [if_neg hp] at he ⊢
     simp only [Option.bind_eq_some_iff] at he ⊢
     obtain ⟨q,hq,he⟩:=he
     exact ⟨q,FN hC hq,Df hC l _ _ z he⟩
theorem FP {tp:TP} {C D:A0} (hC:oY C D):∀ (l:List (Bool×List TO)) (e:Env) (h:AH) (z:Env×AH),BJ tp C l e h=some z→BJ tp D l e h=some z
 | [],e,h,z,he=>by simpa [BJ] using he
 | (q,l)::r,e,h,z,he=>by
  simp only [BJ,Option.bind_eq_some_iff] at he ⊢
  obtain ⟨y,hy,he⟩:=he
  refine ⟨y, ?_,FP hC r _ _ z he⟩
  cases q with
  | true=>exact Df hC l e h y hy
  | false=>exact ED hC l e h y hy
theorem Ht {f g:Env→AH→Out} (hf:∀ e h z,f e h=some z→g e h=some z):∀ (n m:Nat) (e:Env) (h:AH) (z:Ex×Env×AH),n≤m→Gb f n e h=some z→Gb g m e h=some z
 | 0,_,e,h,z,_,he=>by simp [Gb] at he
 | n+1,0,e,h,z,hn,he=>by omega
 | n+1,m+1,e,h,z,hn,he=>by
  simp only [Gb,Option.bind_eq_some_iff] at he ⊢
  obtain ⟨y,hy,he⟩:=he
  refine ⟨y,hf _ _ _ hy, ?_⟩
  split at he
  ·exact Ht hf n m _ _ z (by omega) he
  ·exact he
theorem C8 {tp:TP} {C D:A0} (hC:oY C D) {n m:Nat} (hn:n≤m):∀ (c:TC) (e:Env) (h:AH) (z:Ex×Env×AH),CJ tp C n c e h=some z→CJ tp D m c e h=some z:=by
 intro c
 induction c with
 | skip=>intro e h z he;simpa [CJ] using he
 | reg ops=>intro e h z he;simp only [CJ,Option.map_eq_some_iff] at he ⊢;obtain ⟨y,hy,rfl⟩:=he;exact ⟨y,ED hC ops e h y hy,rfl⟩
 | dreg segs=>intro e h z he;simp only [CJ,Option.map_eq_some_iff] at he ⊢;obtain ⟨y,hy,rfl⟩:=he;exact ⟨y,FP hC segs e h y hy,rfl⟩
 | seq a b iha ihb=>
  intro e h z he
  simp only [CJ,Option.bind_eq_some_iff] at he ⊢
  obtain ⟨y,hy,he⟩:=he
  refine ⟨y,iha e h y hy, ?_⟩
  split at he
  ·exact ihb _ _ z he
  ·exact he
 | cond c a b iha ihb=>
  intro e h z he
  simp only [CJ] at he ⊢
  split at he
  ·exact iha e h z he
  ·exact ihb e h z he
  ·simp at he
 | block id c ih=>intro e h z he;simp only [CJ,Option.map_eq_some_iff] at he ⊢;obtain ⟨y,hy,rfl⟩:=he;exact ⟨y,ih e h y hy,rfl⟩
 | loop c ih=>intro e h z he;simp only [CJ] at he ⊢;exact Ht ih n m e h z hn he
 | exit id=>intro e h z he;simpa [CJ] using he
 | ret=>intro e h z he;simpa [CJ] using he
theorem dX (tp:TP):∀ k,oY (ev tp k) (ev tp (k+1)):=by
 intro k
 induction k with
 | zero=>intro f args h z he;simp [ev] at he
 | succ k ih=>
  intro f args h z he
  rw [ev] at he ⊢
  simp only [Option.bind_eq_some_iff] at he ⊢
  obtain ⟨tf,h1,he⟩:=he
  refine ⟨tf,h1, ?_⟩
  split at he
  case isFalse=>simp at he
  rename_i hl
  simp only [hl,if_true]
  simp only [Option.bind_eq_some_iff] at he ⊢
  obtain ⟨y,hy,he⟩:=he
  exact ⟨y,C8 ih (Nat.le_succ k) tf.body _ h y hy,he⟩
theorem BW (tp:TP) {k m:Nat} (hk:k≤m):oY (ev tp k) (ev tp m):=by
 obtain ⟨d,rfl⟩:=Nat.le.dest hk
 clear hk
 induction d with
 | zero=>intro f args h z he;exact he
 | succ d ih=>intro f args h z he;exact dX tp (k+d) f args h z (ih f args h z he)
/-! ### Without fuel -/
section
variable (tp:TP)
theorem Ak {α:Sort u} {a b:α} (h:a=b):a=b:=h
inductive Fz {α:Sort u} (a:α):Type where
 | mk
def Ev (f:Nat) (args:List V) (h:AH) (Q:V→AH→Prop) (t:Fz Q:=.mk):Prop:=∃ k v h',ev tp k f args h=some (v,h')∧Q v h'
def W1 (o:O) (e:Env) (h:AH) (Q:V→AH→Prop) (t:Fz Q:=.mk):Prop:=∃ k v h',AY tp (ev tp k) o (X.ev e) h=some (v,h')∧Q v h'
def H5 (l:List TO) (e:Env) (h:AH) (Q:Env→AH→Prop) (t:Fz (PProd.mk e Q):=.mk):Prop:=∃ k e' h',BS tp (ev tp k) l e h=some (e',h')∧Q e' h'
def WQ (l:List TO) (e:Env) (h:AH) (Q:Env→AH→Prop) (t:Fz (PProd.mk e Q):=.mk):Prop:=∃ k e' h',Bc tp (ev tp k) l e h=some (e',h')∧Q e' h'
def WS (l:List (Bool×List TO)) (e:Env) (h:AH) (Q:Env→AH→Prop) (t:Fz (PProd.mk e Q):=.mk):Prop:=∃ k e' h',BJ tp (ev tp k) l e h=some (e',h')∧Q e' h'
def WC (c:TC) (e:Env) (h:AH) (Q:Ex→Env→AH→Prop) (t:Fz (PProd.mk e Q):=.mk):Prop:=∃ k x e' h',CJ tp (ev tp k) k c e h=some (x,e',h')∧Q x e' h'
def Wo {α:Type} (x:Option α) (K:α→Prop) (t:Fz K:=.mk):Prop:=∃ a,x=some a∧K a
def Wv {α:Type} (a:α) (K:α→Prop) (t:Fz K:=.mk):Prop:=K a
def Wb (v:V) (A B:Prop) (t:Fz (PProd.mk A B):=.mk):Prop:=match v with | .b true=>A | .b false=>B | _=>False
def Wg (v:V) (x:Bool) (A B:Prop) (t:Fz (PProd.mk A B):=.mk):Prop:=match v with | .b y=>(if y=x then A else B) | .tup []=>B | _=>False
def TN (x:Ex) (A B:Prop) (t:Fz (PProd.mk A B):=.mk):Prop:=match x with | .nm=>A | _=>B
def blk (id:Nat) (x:Ex):Ex:=match x with | .ex j=>if j=id then .nm else .ex j | x=>x
variable {tp}
theorem AQ {α:Type} {a:α} {K:α→Prop}:Wo (some a) K=K a:=propext ⟨fun ⟨_,h,k⟩=>(by cases h;exact k),fun h=>⟨a,rfl,h⟩⟩
theorem AX {α:Type} {K:α→Prop}:Wo none K=False:=propext ⟨fun ⟨_,h,k⟩=>(by cases h),False.elim⟩
theorem Bq {α β:Type} {x:Option α} {f:α→Option β} {K:β→Prop}:Wo (x.bind f) K=Wo x (fun a=>Wo (f a) K):=propext ⟨fun ⟨b,h,k⟩=>by
 simp only [Option.bind_eq_some_iff] at h;obtain ⟨a,h1,h2⟩:=h;exact ⟨a,h1,b,h2,k⟩,fun ⟨a,h,b,h2,k⟩=>⟨b,by simp only [h,Option.bind_some,h2],k⟩⟩
theorem Be {α β:Type} {x:Option α} {f:α→β} {K:β→Prop}:Wo (x.map f) K=Wo x (fun a=>K (f a)):=propext ⟨fun ⟨b,h,k⟩=>by
 simp only [Option.map_eq_some_iff] at h;obtain ⟨a,h1,rfl⟩:=h;exact ⟨a,h1,k⟩,fun ⟨a,h,k⟩=>⟨f a,by simp only [h,Option.map_some],k⟩⟩
theorem Cb {α:Type} {c:Prop} [Decidable c] {x:Option α} {K:α→Prop}:Wo (if c then x else none) K=(c∧Wo x K):=by
 by_cases hc:c
 ·simp [hc]
 ·simp [hc,AX]
theorem EL {α:Type} {x:Option α} {K L:α→Prop} (h:∀ a,K a=L a):Wo x K=Wo x L:=by rw [show K=L from funext h]
theorem Gx {α:Type} {a:α} {K:α→Prop}:Wv a K=K a:=Ak rfl
theorem Av {p:Prop} [Decidable p] {x:Bool} {A B:Prop} (h1:p→Wg (.b true) x A B) (h2:¬ p→Wg (.b false) x A B):Wg (.b (decide p)) x A B:=by by_cases hp:p<;>simp_all
theorem Cw {c x:Bool} {A B:Prop} (h1:c=true→Wg (.b true) x A B) (h2:c=false→Wg (.b false) x A B):Wg (.b c) x A B:=by cases c<;>simp_all
theorem aO {A B:Prop}:Wb (.b true) A B=A:=Ak rfl
theorem UF {A B:Prop}:Wb (.b false) A B=B:=Ak rfl
theorem Bh {c:Bool} {A B:Prop} (h1:c=true→A) (h2:c=false→B):Wb (.b c) A B:=by cases c<;>simp_all [Wb]
theorem Aa {p:Prop} [Decidable p] {A B:Prop} (h1:p→A) (h2:¬ p→B):Wb (.b (decide p)) A B:=by by_cases hp:p<;>simp_all [Wb]
theorem aQ {x:Bool} {A B:Prop}:Wg (.tup []) x A B=B:=Ak rfl
theorem aPj {A B:Prop}:Wg (.b true) true A B=A:=by simp [Wg]
theorem aPi {A B:Prop}:Wg (.b true) false A B=B:=by simp [Wg]
theorem aPh {A B:Prop}:Wg (.b false) true A B=B:=by simp [Wg]
theorem aPg {A B:Prop}:Wg (.b false) false A B=A:=by simp [Wg]
theorem aEy {A B:Prop}:TN .nm A B=A:=Ak rfl
theorem aEz {A B:Prop}:TN .rt A B=B:=Ak rfl
theorem aEx {i:Nat} {A B:Prop}:TN (.ex i) A B=B:=Ak rfl
theorem aCM {i:Nat}:blk i .nm=.nm:=Ak rfl
theorem aCN {i:Nat}:blk i .rt=.rt:=Ak rfl
theorem aCL {i j:Nat}:blk i (.ex j)=if j=i then .nm else .ex j:=Ak rfl
theorem aM {e:Env} {h:AH} {Q:Ex→Env→AH→Prop}:WC tp .skip e h Q=Q .nm e h:=propext ⟨fun ⟨k,x,e',h',he,hq⟩=>by simp [CJ] at he;obtain ⟨rfl,rfl,rfl⟩:=he;exact hq,fun hq=>⟨0,_,_,_,rfl,hq⟩⟩
theorem aB3 {e:Env} {h:AH} {Q:Ex→Env→AH→Prop}:WC tp .ret e h Q=Q .rt e h:=propext ⟨fun ⟨k,x,e',h',he,hq⟩=>by simp [CJ] at he;obtain ⟨rfl,rfl,rfl⟩:=he;exact hq,fun hq=>⟨0,_,_,_,rfl,hq⟩⟩
theorem aK {id:Nat} {e:Env} {h:AH} {Q:Ex→Env→AH→Prop}:WC tp (.exit id) e h Q=Q (.ex id) e h:=propext ⟨fun ⟨k,x,e',h',he,hq⟩=>by simp [CJ] at he;obtain ⟨rfl,rfl,rfl⟩:=he;exact hq,fun hq=>⟨0,_,_,_,rfl,hq⟩⟩
theorem aB2 {ops:List TO} {e:Env} {h:AH} {Q:Ex→Env→AH→Prop}:WC tp (.reg ops) e h Q=H5 tp ops e h (fun e h=>Q .nm e h):=propext ⟨fun ⟨k,x,e',h',he,hq⟩=>by
 simp only [CJ,Option.map_eq_some_iff] at he;obtain ⟨⟨y1,y2⟩,hy,he⟩:=he;cases he;exact ⟨k,_,_,hy,hq⟩,fun ⟨k,e',h',he,hq⟩=>⟨k,_,_,_,by simp only [CJ,he,Option.map_some],hq⟩⟩
theorem aJ {ops:List (Bool×List TO)} {e:Env} {h:AH} {Q:Ex→Env→AH→Prop}:WC tp (.dreg ops) e h Q=WS tp ops e h (fun e h=>Q .nm e h):=propext ⟨fun ⟨k,x,e',h',he,hq⟩=>by
 simp only [CJ,Option.map_eq_some_iff] at he;obtain ⟨⟨y1,y2⟩,hy,he⟩:=he;cases he;exact ⟨k,_,_,hy,hq⟩,fun ⟨k,e',h',he,hq⟩=>⟨k,_,_,_,by simp only [CJ,he,Option.map_some],hq⟩⟩
theorem aI {c:X} {a b:TC} {e:Env} {h:AH} {Q:Ex→Env→AH→Prop}:WC tp (.cond c a b) e h Q=Wb (c.ev e) (WC tp a e h Q) (WC tp b e h Q):=propext ⟨fun ⟨k,x,e',h',he,hq⟩=>by
 simp only [CJ] at he
 split at he
 ·rename_i hn';simp only [hn',Wb];exact ⟨k,x,e',h',he,hq⟩
 ·rename_i hn';simp only [hn',Wb];exact ⟨k,x,e',h',he,hq⟩
 ·simp at he,fun hw=>by
 unfold Wb at hw
 split at hw
 ·rename_i hn';obtain ⟨k,x,e',h',he,hq⟩:=hw;exact ⟨k,x,e',h',by simp only [CJ,hn',he],hq⟩
 ·rename_i hn';obtain ⟨k,x,e',h',he,hq⟩:=hw;exact ⟨k,x,e',h',by simp only [CJ,hn',he],hq⟩
 ·exact hw.elim⟩
theorem UB {id:Nat} {c:TC} {e:Env} {h:AH} {Q:Ex→Env→AH→Prop}:WC tp (.block id c) e h Q=WC tp c e h (fun x e h=>Q (blk id x) e h):=propext ⟨fun ⟨k,x,e',h',he,hq⟩=>by
 simp only [CJ,Option.map_eq_some_iff] at he;obtain ⟨⟨x1,y1,y2⟩,hy,he⟩:=he;cases he;exact ⟨k,_,_,_,hy,by cases x1<;>exact hq⟩,fun ⟨k,x,e',h',he,hq⟩=>⟨k,blk id x,e',h',by simp only [CJ,he,Option.map_some];cases x<;>rfl,hq⟩⟩
theorem aB4 {a b:TC} {e:Env} {h:AH} {Q:Ex→Env→AH→Prop}:WC tp (.seq a b) e h Q=WC tp a e h (fun x e h=>TN x (WC tp b e h Q) (Q x e h)):=propext ⟨fun ⟨k,x,e',h',he,hq⟩=>by
 simp only [CJ,Option.bind_eq_some_iff] at he
 obtain ⟨⟨x1,e1,h1⟩,hy,he⟩:=he
 refine ⟨k,x1,e1,h1,hy, ?_⟩
 cases x1 with
 | nm=>exact ⟨k,x,e',h',he,hq⟩
 | ex j=>simp at he;obtain ⟨rfl,rfl,rfl⟩:=he;exact hq
 | rt=>simp at he;obtain ⟨rfl,rfl,rfl⟩:=he;exact hq,fun ⟨k,x,e',h',he,hq⟩=>by
 cases x with
 | nm=>
  obtain ⟨k2,x2,e2,h2,he2,hq2⟩:=hq
  refine ⟨max k k2,x2,e2,h2, ?_,hq2⟩
  have p:=C8 (tp:=tp) (BW tp (Nat.le_max_left k k2)) (Nat.le_max_left k k2) a e h _ he
  have q:=C8 (tp:=tp) (BW tp (Nat.le_max_right k k2)) (Nat.le_max_right k k2) b e' h' _ he2
  simp only [CJ,p,Option.bind_some,q]
 | ex j=>exact ⟨k,_,_,_,by simp only [CJ,he,Option.bind_some],hq⟩
 | rt=>exact ⟨k,_,_,_,by simp only [CJ,he,Option.bind_some],hq⟩⟩
theorem aL {c:TC} {e:Env} {h:AH} {Q:Ex→Env→AH→Prop} (hw:WC tp c e h (fun x e h=>TN x (WC tp (.loop c) e h Q) (Q x e h))):WC tp (.loop c) e h Q:=by
 obtain ⟨k,x,e',h',he,hq⟩:=hw
 cases x with
 | nm=>
  obtain ⟨k2,x2,e2,h2,he2,hq2⟩:=hq
  refine ⟨max k k2+1,x2,e2,h2, ?_,hq2⟩
  have p:=C8 (tp:=tp) (BW tp (Nat.le_succ_of_le (Nat.le_max_left k k2))) (Nat.le_succ_of_le (Nat.le_max_left k k2)) c e h _ he
  simp only [CJ] at he2 ⊢
  have q:=Ht (fun e h z hz=>C8 (tp:=tp) (BW tp (Nat.le_succ_of_le (Nat.le_max_right k k2))) (Nat.le_succ_of_le (Nat.le_max_right k k2)) c e h z hz) k2 (max k k2) e' h' _ (Nat.le_max_right k k2) he2
  simp only [Gb,p,Option.bind_some]
  exact q
 | ex j=>exact ⟨k+1,_,_,_,by
     have p:=C8 (tp:=tp) (BW tp (Nat.le_succ k)) (Nat.le_succ k) c e h _ he
     simp only [CJ,Gb,p,Option.bind_some],hq⟩
 | rt=>exact ⟨k+1,_,_,_,by
     have p:=C8 (tp:=tp) (BW tp (Nat.le_succ k)) (Nat.le_succ k) c e h _ he
     simp only [CJ,Gb,p,Option.bind_some],hq⟩
theorem UC {e:Env} {h:AH} {Q:Env→AH→Prop}:H5 tp [] e h Q=Q e h:=propext ⟨fun ⟨k,e',h',he,hq⟩=>by simp [BS] at he;obtain ⟨rfl,rfl⟩:=he;exact hq,fun hq=>⟨0,_,_,rfl,hq⟩⟩
theorem UD {d:Option Nat} {o:O} {g:Option (Nat×Bool)} {r:List TO} {e:Env} {h:AH} {Q:Env→AH→Prop} (hg:AJ e g=some true):H5 tp (⟨d,o,g⟩::r) e h Q=W1 tp o e h (fun v h=>H5 tp r (e.set d v) h Q):=propext ⟨fun ⟨k,e',h',he,hq⟩=>by
 simp only [BS,hg,Option.bind_eq_some_iff] at he
 obtain ⟨⟨y1,y2⟩,hy,he⟩:=he
 exact ⟨k,y1,y2,hy,k,e',h',he,hq⟩,fun ⟨k,v,h1,he,k2,e2,h2,he2,hq⟩=>by
 refine ⟨max k k2,e2,h2, ?_,hq⟩
 have p:=FN (tp:=tp) (BW tp (Nat.le_max_left k k2)) he
 have q:=ED (tp:=tp) (BW tp (Nat.le_max_right k k2)) r _ _ _ he2
 simp only [BS,hg,p,Option.bind_some,q]⟩
theorem RX {d:Option Nat} {o:O} {g:Option (Nat×Bool)} {r:List TO} {e:Env} {h:AH} {Q:Env→AH→Prop} (hg:AJ e g=some false):H5 tp (⟨d,o,g⟩::r) e h Q=H5 tp r (e.set d (.tup [])) h Q:=by
 unfold H5;simp only [BS,hg]
theorem aB8 {e:Env} {h:AH} {Q:Env→AH→Prop}:WS tp [] e h Q=Q e h:=propext ⟨fun ⟨k,e',h',he,hq⟩=>by simp [BJ] at he;obtain ⟨rfl,rfl⟩:=he;exact hq,fun hq=>⟨0,_,_,rfl,hq⟩⟩
theorem aB7 {l:List TO} {r:List (Bool×List TO)} {e:Env} {h:AH} {Q:Env→AH→Prop}:WS tp ((false,l)::r) e h Q=H5 tp l e h (fun e h=>WS tp r e h Q):=propext ⟨fun ⟨k,e',h',he,hq⟩=>by
 simp only [BJ,Bool.false_eq_true,if_false,Option.bind_eq_some_iff] at he
 obtain ⟨⟨y1,y2⟩,hy,he⟩:=he
 exact ⟨k,y1,y2,hy,k,e',h',he,hq⟩,fun ⟨k,v,h1,he,k2,e2,h2,he2,hq⟩=>by
 refine ⟨max k k2,e2,h2, ?_,hq⟩
 have p:=ED (tp:=tp) (BW tp (Nat.le_max_left k k2)) l _ _ _ he
 have q:=FP (tp:=tp) (BW tp (Nat.le_max_right k k2)) r _ _ _ he2
 simp only [BJ,Bool.false_eq_true,if_false,p,Option.bind_some,q]⟩
theorem UE {l:List TO} {r:List (Bool×List TO)} {e:Env} {h:AH} {Q:Env→AH→Prop}:WS tp ((true,l)::r) e h Q=WQ tp l e h (fun e h=>WS tp r e h Q):=propext ⟨fun ⟨k,e',h',he,hq⟩=>by
 simp only [BJ,if_true,Option.bind_eq_some_iff] at he
 obtain ⟨⟨y1,y2⟩,hy,he⟩:=he
 exact ⟨k,y1,y2,hy,k,e',h',he,hq⟩,fun ⟨k,v,h1,he,k2,e2,h2,he2,hq⟩=>by
 refine ⟨max k k2,e2,h2, ?_,hq⟩
 have p:=Df (tp:=tp) (BW tp (Nat.le_max_left k k2)) l _ _ _ he
 have q:=FP (tp:=tp) (BW tp (Nat.le_max_right k k2)) r _ _ _ he2
 simp only [BJ,if_true,p,Option.bind_some,q]⟩
def WQ1 (tp:TP) (o:O) (e:Env) (h:AH) (K:V→AH→Prop) (t:Fz K:=.mk):Prop:=
 if AM o=true then HK o (X.ev e) h=true∧W1 tp o e h K else W1 tp o e h.raise (fun v h'=>K v (h'.back h.lim))
theorem aB5 {e:Env} {h:AH} {Q:Env→AH→Prop}:WQ tp [] e h Q=Q e h:=propext ⟨fun ⟨k,e',h',he,hq⟩=>by simp [Bc] at he;obtain ⟨rfl,rfl⟩:=he;exact hq,fun hq=>⟨0,_,_,rfl,hq⟩⟩
theorem K0 {C:A0} {o:O} {ev:X→V} {h:AH} (hp:AM o=true):AY tp C o ev h=Ad tp o ev h:=by
 unfold AY;split<;>first | rfl | simp [AM] at hp
theorem aB6 {d:Option Nat} {o:O} {g:Option (Nat×Bool)} {r:List TO} {e:Env} {h:AH} {Q:Env→AH→Prop} (hg:AJ e g=some true):WQ tp (⟨d,o,g⟩::r) e h Q=WQ1 tp o e h (fun v h=>WQ tp r (e.set d v) h Q):=propext ⟨fun ⟨k,e',h',he,hq⟩=>by
 simp only [Bc,hg] at he
 unfold WQ1
 split at he
 ·rename_i hp
  split at he
  ·rename_i hal
   simp only [Option.bind_eq_some_iff] at he
   obtain ⟨⟨y1,y2⟩,hy,he⟩:=he
   rw [if_pos hp]
   have hyh:y2=h:=by have:=FL hp hy;exact this
   subst hyh
   exact ⟨hal,k,y1,y2,by rw [K0 hp];exact hy,k,e',h',he,hq⟩
  ·simp at he
 ·rename_i hp
  simp only [Option.bind_eq_some_iff] at he
  obtain ⟨⟨y1,y2⟩,hy,he⟩:=he
  rw [if_neg hp]
  exact ⟨k,y1,y2,hy,k,e',h',he,hq⟩,fun hw=>by
 unfold WQ1 at hw
 split at hw
 ·rename_i hp
  obtain ⟨hal,k,v,h1,he,k2,e2,h2,he2,hq⟩:=hw
  rw [K0 hp] at he
  have hyh:h1=h:=FL hp he
  subst hyh
  exact ⟨k2,e2,h2,by simp only [Bc,hg,hp,hal,if_true,he,Option.bind_some,he2],hq⟩
 ·rename_i hp
  obtain ⟨k,v,h1,he,k2,e2,h2,he2,hq⟩:=hw
  refine ⟨max k k2,e2,h2, ?_,hq⟩
  have p:=FN (tp:=tp) (BW tp (Nat.le_max_left k k2)) he
  have q:=Df (tp:=tp) (BW tp (Nat.le_max_right k k2)) r _ _ _ he2
  simp only [Bc,hg,hp,Bool.false_eq_true,if_false,p,Option.bind_some,q]⟩
theorem aN {d:Option Nat} {o:O} {g:Option (Nat×Bool)} {r:List TO} {e:Env} {h:AH} {Q:Env→AH→Prop} (hg:AJ e g=some false):WQ tp (⟨d,o,g⟩::r) e h Q=WQ tp r (e.set d (.tup [])) h Q:=by
 unfold WQ;simp only [Bc,hg]
theorem oE {o:O} {e:Env} {h:AH} {K:V→AH→Prop} (hn:∀ C:A0,AY tp C o (X.ev e) h=Ad tp o (X.ev e) h):W1 tp o e h K=Wo (Ad tp o (X.ev e) h) (fun z=>K z.1 z.2):=propext ⟨fun ⟨k,v,h',he,hk⟩=>⟨(v,h'),by rw [← hn];exact he,hk⟩,fun ⟨⟨v,h'⟩,he,hk⟩=>⟨0,v,h',by rw [hn];exact he,hk⟩⟩
theorem aH {f:X} {l:List X} {e:Env} {h:AH} {K:V→AH→Prop}:W1 tp (.call f l) e h K=Wo (callee tp (.call f l) (X.ev e)) (fun c=>Ev tp c.1 c.2 h K):=propext ⟨fun ⟨k,v,h',he,hk⟩=>by
 simp only [AY,Option.bind_eq_some_iff] at he
 obtain ⟨c,hc,he⟩:=he
 exact ⟨c,hc,k,v,h',he,hk⟩,fun ⟨c,hc,k,v,h',he,hk⟩=>⟨k,v,h',by simp only [AY,hc,Option.bind_some,he],hk⟩⟩
theorem aB1 {x:X} {m:String} {l:List X} {e:Env} {h:AH} {K:V→AH→Prop}:W1 tp (.inv x m l) e h K=Wo (callee tp (.inv x m l) (X.ev e)) (fun c=>Ev tp c.1 c.2 h K):=propext ⟨fun ⟨k,v,h',he,hk⟩=>by
 simp only [AY,Option.bind_eq_some_iff] at he
 obtain ⟨c,hc,he⟩:=he
 exact ⟨c,hc,k,v,h',he,hk⟩,fun ⟨c,hc,k,v,h',he,hk⟩=>⟨k,v,h',by simp only [AY,hc,Option.bind_some,he],hk⟩⟩
def UG (res:List RV) (x:Ex) (e:Env) (h:AH) (Q:V→AH→Prop) (t:Fz (PProd.mk e Q):=.mk):Prop:=match x with | .ex _=>False | _=>Wo (BC e h res) (fun v=>Q v h)
theorem TS {f:Nat} {args:List V} {h:AH} {Q:V→AH→Prop} {tf:TF} (hf:tp.fn f=some tf) (hl:args.length≤tf.n) (hw:WC tp tf.body (Ey args) h (fun x e h=>UG tf.res x e h Q)):Ev tp f args h Q:=by
 obtain ⟨k,x,e',h',he,hq⟩:=hw
 unfold UG at hq
 split at hq
 ·exact hq.elim
 ·rename_i hx
  obtain ⟨v,hv,hq⟩:=hq
  refine ⟨k+1,v,h', ?_,hq⟩
  rw [ev]
  simp only [hf,Option.bind_some,if_pos hl,he,hv,Option.map_some]
theorem Ev.imp {f:Nat} {args:List V} {h:AH} {Q R:V→AH→Prop} (hw:Ev tp f args h Q) (hqr:∀ v h',Q v h'→R v h'):Ev tp f args h R:=by
 obtain ⟨k,v,h',he,hq⟩:=hw;exact ⟨k,v,h',he,hqr v h' hq⟩
theorem Ev.steady {f:Nat} {args:List V} {h:AH} {Q:V→AH→Prop} (hw:Ev tp f args h Q):Ev tp f args h (fun v h'=>Q v h'∧Ay h h'):=by
 obtain ⟨k,v,h',he,hq⟩:=hw;exact ⟨k,v,h',he,hq,KI tp k f args h v h' he⟩
theorem WC.imp {c:TC} {e:Env} {h:AH} {Q R:Ex→Env→AH→Prop} (hw:WC tp c e h Q) (hqr:∀ x e' h',Q x e' h'→R x e' h'):WC tp c e h R:=by
 obtain ⟨k,x,e',h',he,hq⟩:=hw;exact ⟨k,x,e',h',he,hqr x e' h' hq⟩
end
end Go.Ab
/- Values that stay (frozen slices as lists), over the abstract machine: when a value, a heap of this is that of the abstract machine; how it goes on. -/
namespace Go.Ab
open Go
def Ho:Nat:=4000000000
mutual
inductive PR (S:Nat→Prop) (m:Nat→Nat) (g:Nat→Option BA):Nat→V→V→Prop where
 | u (n:Nat) (x:V):PR S m g n .u x
 | b (n:Nat) (x:Bool):PR S m g n (.b x) (.b x)
 | i (n:Nat) (k:IntKind) (z:Int):PR S m g n (.i k z) (.i k z)
 | s (n:Nat) (x:ByteArray):PR S m g n (.s x) (.s x)
 | np (n:Nat):PR S m g n .np .np
 | ns (n:Nat):PR S m g n .ns .ns
 | e0 (n:Nat):PR S m g n .e0 .e0
 | nf (n:Nat):PR S m g n .nf .nf
 | ni (n:Nat):PR S m g n .ni .ni
 | p (n id el off:Nat):id<n→PR S m g n (.p id el off) (.p (m id) el off)
 | sl (n id el len cap:Nat):id<n→PR S m g n (.sl id el len cap) (.sl (m id) el len cap)
 | fl0 (n sz:Nat):PR S m g n (.fl sz []) .ns
 | fl1 (n sz:Nat):PR S m g n (.fl sz []) .e0
 | fl (n sz:Nat) (xs:List (List V)) (a el cap:Nat) (cs:List (List V)):S a→g a=some ⟨sz,cs⟩→xs.length≤cap→el+xs.length≤cs.length→xs.length<Ho→Cv S m g 0 xs ((cs.drop el).take xs.length)→PR S m g n (.fl sz xs) (.sl a el xs.length cap)
 | fp (n sz:Nat) (xs:List (List V)) (j off a el:Nat) (cs:List (List V)):S a→g a=some ⟨sz,cs⟩→el+xs.length≤cs.length→Cv S m g 0 xs ((cs.drop el).take xs.length)→PR S m g n (.fp sz xs j off) (.p a (el+j) off)
 | f (n:Nat) (fn:Fn) (a c a' c':List V):Bi S m g n a a'→Bi S m g n c c'→PR S m g n (.f fn a c) (.f fn a' c')
 | ifc (n t:Nat) (v v':V):PR S m g n v v'→PR S m g n (.ifc t v) (.ifc t v')
 | agg (n:Nat) (l l':List V):Bi S m g n l l'→PR S m g n (.agg l) (.agg l')
 | tup (n:Nat) (l l':List V):Bi S m g n l l'→PR S m g n (.tup l) (.tup l')
inductive Bi (S:Nat→Prop) (m:Nat→Nat) (g:Nat→Option BA):Nat→List V→List V→Prop where
 | nil (n:Nat):Bi S m g n [] []
 | cons (n:Nat) (v v':V) (l l':List V):PR S m g n v v'→Bi S m g n l l'→Bi S m g n (v::l) (v'::l')
inductive Cv (S:Nat→Prop) (m:Nat→Nat) (g:Nat→Option BA):Nat→List (List V)→List (List V)→Prop where
 | nil (n:Nat):Cv S m g n [] []
 | cons (n:Nat) (v v':List V) (l l':List (List V)):Bi S m g n v v'→Cv S m g n l l'→Cv S m g n (v::l) (v'::l')
end
structure Hd (S:Nat→Prop) (m:Nat→Nat) (g:Nat→Option BA) (n:Nat) (S':Nat→Prop) (m':Nat→Nat) (g':Nat→Option BA) (n':Nat):Prop where
 s:∀ a,S a→S' a
 g:∀ a,S a→g' a=g a
 m:∀ i,i<n→m' i=m i
 n:n≤n'
theorem Hd.zero {S S':Nat→Prop} {m m':Nat→Nat} {g g':Nat→Option BA} {n n':Nat} (k:Hd S m g n S' m' g' n'):Hd S m g 0 S' m' g' 0:=
 ⟨k.s,k.g,fun i hi=>absurd hi (Nat.not_lt_zero _),Nat.le_refl _⟩
mutual
theorem PR.mono {S S':Nat→Prop} {m m':Nat→Nat} {g g':Nat→Option BA} {n n':Nat} (k:Hd S m g n S' m' g' n'):∀ {v v':V},PR S m g n v v'→PR S' m' g' n' v v'
 | _,_,.u _ x=>.u _ x
 | _,_,.b _ x=>.b _ x
 | _,_,.i _ q z=>.i _ q z
 | _,_,.s _ x=>.s _ x
 | _,_,.np _=>.np _
 | _,_,.ns _=>.ns _
 | _,_,.e0 _=>.e0 _
 | _,_,.nf _=>.nf _
 | _,_,.ni _=>.ni _
 | _,_,.p _ id el off h=>by rw [← k.m id h];exact .p _ id el off (Nat.lt_of_lt_of_le h k.n)
 | _,_,.sl _ id el len cap h=>by rw [← k.m id h];exact .sl _ id el len cap (Nat.lt_of_lt_of_le h k.n)
 | _,_,.fl0 _ sz=>.fl0 _ sz
 | _,_,.fl1 _ sz=>.fl1 _ sz
 | _,_,.fl _ sz xs a el cap cs ha hg h1 h2 h3 r=>.fl _ sz xs a el cap cs (k.s a ha) ((k.g a ha).trans hg) h1 h2 h3 (Cv.mono k.zero r)
 | _,_,.fp _ sz xs j off a el cs ha hg h2 r=>.fp _ sz xs j off a el cs (k.s a ha) ((k.g a ha).trans hg) h2 (Cv.mono k.zero r)
 | _,_,.f _ fn a c a' c' p q=>.f _ fn a c a' c' (Bi.mono k p) (Bi.mono k q)
 | _,_,.ifc _ t v v' p=>.ifc _ t v v' (PR.mono k p)
 | _,_,.agg _ l l' p=>.agg _ l l' (Bi.mono k p)
 | _,_,.tup _ l l' p=>.tup _ l l' (Bi.mono k p)
theorem Bi.mono {S S':Nat→Prop} {m m':Nat→Nat} {g g':Nat→Option BA} {n n':Nat} (k:Hd S m g n S' m' g' n'):∀ {v v':List V},Bi S m g n v v'→Bi S' m' g' n' v v'
 | _,_,.nil _=>.nil _
 | _,_,.cons _ v v' l l' p q=>.cons _ v v' l l' (PR.mono k p) (Bi.mono k q)
theorem Cv.mono {S S':Nat→Prop} {m m':Nat→Nat} {g g':Nat→Option BA} {n n':Nat} (k:Hd S m g n S' m' g' n'):∀ {v v':List (List V)},Cv S m g n v v'→Cv S' m' g' n' v v'
 | _,_,.nil _=>.nil _
 | _,_,.cons _ v v' l l' p q=>.cons _ v v' l l' (Bi.mono k p) (Cv.mono k q)
end
section
variable {S:Nat→Prop} {m:Nat→Nat} {g:Nat→Option BA} {n:Nat}
theorem Bi.len:∀ {l l':List V},Bi S m g n l l'→l.length=l'.length
 | _,_,.nil _=>rfl
 | _,_,.cons _ _ _ _ _ _ q=>by simp [q.len]
theorem Cv.len:∀ {l l':List (List V)},Cv S m g n l l'→l.length=l'.length
 | _,_,.nil _=>rfl
 | _,_,.cons _ _ _ _ _ _ q=>by simp [q.len]
theorem Bi.get:∀ {l l':List V},Bi S m g n l l'→∀ (j:Nat) (v:V),l[j]?=some v→∃ v',l'[j]?=some v'∧PR S m g n v v'
 | _,_,.nil _,j,v,e=>by simp at e
 | _,_,.cons _ v v' l l' p q,0,w,e=>by simp at e;subst e;exact ⟨v',rfl,p⟩
 | _,_,.cons _ v v' l l' p q,j+1,w,e=>by simp at e;simpa using q.get j w e
theorem Cv.get:∀ {l l':List (List V)},Cv S m g n l l'→∀ (j:Nat) (v:List V),l[j]?=some v→∃ v',l'[j]?=some v'∧Bi S m g n v v'
 | _,_,.nil _,j,v,e=>by simp at e
 | _,_,.cons _ v v' l l' p q,0,w,e=>by simp at e;subst e;exact ⟨v',rfl,p⟩
 | _,_,.cons _ v v' l l' p q,j+1,w,e=>by simp at e;simpa using q.get j w e
theorem Bi.app:∀ {a a' b b':List V},Bi S m g n a a'→Bi S m g n b b'→Bi S m g n (a++b) (a'++b')
 | _,_,_,_,.nil _,r=>r
 | _,_,_,_,.cons _ v v' l l' p q,r=>.cons _ v v' _ _ p (q.app r)
theorem Cv.app:∀ {a a' b b':List (List V)},Cv S m g n a a'→Cv S m g n b b'→Cv S m g n (a++b) (a'++b')
 | _,_,_,_,.nil _,r=>r
 | _,_,_,_,.cons _ v v' l l' p q,r=>.cons _ v v' _ _ p (q.app r)
theorem Bi.drop:∀ {a a':List V} (k:Nat),Bi S m g n a a'→Bi S m g n (a.drop k) (a'.drop k)
 | _,_,0,r=>r
 | _,_,_+1,.nil _=>.nil _
 | _,_,k+1,.cons _ v v' l l' p q=>by simpa using q.drop k
theorem Cv.drop:∀ {a a':List (List V)} (k:Nat),Cv S m g n a a'→Cv S m g n (a.drop k) (a'.drop k)
 | _,_,0,r=>r
 | _,_,_+1,.nil _=>.nil _
 | _,_,k+1,.cons _ v v' l l' p q=>by simpa using q.drop k
theorem Bi.take:∀ {a a':List V} (k:Nat),Bi S m g n a a'→Bi S m g n (a.take k) (a'.take k)
 | _,_,0,r=>.nil _
 | _,_,_+1,.nil _=>.nil _
 | _,_,k+1,.cons _ v v' l l' p q=>by simpa using .cons _ v v' _ _ p (q.take k)
theorem Cv.take:∀ {a a':List (List V)} (k:Nat),Cv S m g n a a'→Cv S m g n (a.take k) (a'.take k)
 | _,_,0,r=>.nil _
 | _,_,_+1,.nil _=>.nil _
 | _,_,k+1,.cons _ v v' l l' p q=>by simpa using .cons _ v v' _ _ p (q.take k)
theorem Bi.set:∀ {a a':List V} (k:Nat) {v v':V},Bi S m g n a a'→PR S m g n v v'→Bi S m g n (a.set k v) (a'.set k v')
 | _,_,_,_,_,.nil _,_=>.nil _
 | _,_,0,_,_,.cons _ v v' l l' p q,r=>.cons _ _ _ _ _ r q
 | _,_,k+1,_,_,.cons _ v v' l l' p q,r=>.cons _ _ _ _ _ p (q.set k r)
theorem Cv.set:∀ {a a':List (List V)} (k:Nat) {v v':List V},Cv S m g n a a'→Bi S m g n v v'→Cv S m g n (a.set k v) (a'.set k v')
 | _,_,_,_,_,.nil _,_=>.nil _
 | _,_,0,_,_,.cons _ v v' l l' p q,r=>.cons _ _ _ _ _ r q
 | _,_,k+1,_,_,.cons _ v v' l l' p q,r=>.cons _ _ _ _ _ p (q.set k r)
theorem Cv.rep {r r':List V} (p:Bi S m g n r r'):∀ k,Cv S m g n (List.replicate k r) (List.replicate k r')
 | 0=>.nil _
 | k+1=>.cons _ _ _ _ _ p (Cv.rep p k)
theorem Bi.ov:∀ {c c':List V} (r r':List V) (i:Nat),Bi S m g n c c'→Bi S m g n r r'→Bi S m g n (Go.Ab.over r i c) (Go.Ab.over r' i c')
 | _,_,r,r',i,.nil _,h=>h
 | _,_,r,r',i,.cons _ v v' l l' p q,h=>Bi.ov _ _ (i+1) q (h.set i p)
theorem Cv.ov:∀ {c c':List (List V)} (r r':List (List V)) (i:Nat),Cv S m g n c c'→Cv S m g n r r'→Cv S m g n (D5 r i c) (D5 r' i c')
 | _,_,r,r',i,.nil _,h=>h
 | _,_,r,r',i,.cons _ v v' l l' p q,h=>Cv.ov _ _ (i+1) q (h.set i p)
theorem PR.cells {v v':V} (hn:v≠.u) (p:PR S m g n v v'):Bi S m g n v.cells v'.cells:=by
 cases p with
 | u=>exact absurd rfl hn
 | agg _ _ _ q=>exact q
 | b=>exact .cons _ _ _ _ _ (.b _ _) (.nil _)
 | i=>exact .cons _ _ _ _ _ (.i _ _ _) (.nil _)
 | s=>exact .cons _ _ _ _ _ (.s _ _) (.nil _)
 | np=>exact .cons _ _ _ _ _ (.np _) (.nil _)
 | ns=>exact .cons _ _ _ _ _ (.ns _) (.nil _)
 | e0=>exact .cons _ _ _ _ _ (.e0 _) (.nil _)
 | nf=>exact .cons _ _ _ _ _ (.nf _) (.nil _)
 | ni=>exact .cons _ _ _ _ _ (.ni _) (.nil _)
 | p _ id el off h=>exact .cons _ _ _ _ _ (.p _ _ _ _ h) (.nil _)
 | sl _ id el len cap h=>exact .cons _ _ _ _ _ (.sl _ _ _ _ _ h) (.nil _)
 | fl0=>exact .cons _ _ _ _ _ (.fl0 _ _) (.nil _)
 | fl1=>exact .cons _ _ _ _ _ (.fl1 _ _) (.nil _)
 | fl _ sz xs a el cap cs h1 h2 h3 h4 h5 r=>exact .cons _ _ _ _ _ (.fl _ _ _ _ _ _ _ h1 h2 h3 h4 h5 r) (.nil _)
 | fp _ sz xs j off a el cs h1 h2 h3 r=>exact .cons _ _ _ _ _ (.fp _ _ _ _ _ _ _ _ h1 h2 h3 r) (.nil _)
 | f _ fn a c a' c' p q=>exact .cons _ _ _ _ _ (.f _ _ _ _ _ _ p q) (.nil _)
 | ifc _ t v v' p=>exact .cons _ _ _ _ _ (.ifc _ _ _ _ p) (.nil _)
 | tup _ l l' p=>exact .cons _ _ _ _ _ (.tup _ _ _ p) (.nil _)
theorem PR.isCell {v v':V} (hv:v.isCell=true) (p:PR S m g n v v'):v'.isCell=true:=by
 cases p<;>first | rfl | (simp [V.isCell] at hv)
theorem Bi.isCell:∀ {l l':List V},Bi S m g n l l'→l.all V.isCell=true→l'.all V.isCell=true
 | _,_,.nil _,_=>rfl
 | _,_,.cons _ v v' l l' p q,h=>by
  simp only [List.all_cons,Bool.and_eq_true] at h ⊢
  exact ⟨p.isCell h.1,q.isCell h.2⟩
theorem Dk {v:V} (h:v.cells.all V.isCell=true):v≠.u:=by
 rintro rfl;simp [V.cells,V.isCell] at h
theorem PR.up {v v':V} (p:PR S m g 0 v v') (m':Nat→Nat) (n':Nat):PR S m' g n' v v':=p.mono ⟨fun _ h=>h,fun _ _=>rfl,fun i hi=>absurd hi (Nat.not_lt_zero _),Nat.zero_le _⟩
end
structure CE (S:Nat→Prop) (m:Nat→Nat) (h hc:AH):Prop where
 blk:∀ i k,h.get i=some k→i<h.next∧m i<hc.next∧∃ cs,hc.get (m i)=some ⟨k.sz,cs⟩∧Cv S m hc.get h.next k.cs cs
 inj:∀ i j,h.live i→h.live j→m i=m j→i=j
 off:∀ i,h.live i→¬ S (m i)
 low:∀ a,S a→a<hc.next
 lim:∀ i,h.live i→h.lim≤i→hc.lim≤m i
 bnd:hc.lim≤hc.next
 bnd2:h.lim≤h.next
structure EH (S:Nat→Prop) (m:Nat→Nat) (h hc:AH) (S':Nat→Prop) (m':Nat→Nat) (h' hc':AH):Prop where
 sub:∀ a,S a→S' a
 new:∀ a,S' a→S a∨hc.next≤a∨∃ i,h.live i∧m i=a
 map:∀ i,i<h.next→m' i=m i
 next2:h.next≤h'.next
 next1:hc.next≤hc'.next
 lim2:h'.lim=h.lim
 lim1:hc'.lim=hc.lim
 frame:∀ a,a<hc.next→(∀ i,h.live i→m i≠a)→hc'.get a=hc.get a
 liv:∀ i,h'.live i→(i<h.next∧h.live i)∨hc.next≤m' i
theorem EH.refl {S:Nat→Prop} {m:Nat→Nat} {h hc:AH} (c:CE S m h hc):EH S m h hc S m h hc:=
 ⟨fun _ h=>h,fun _ h=>.inl h,fun _ _=>rfl,Nat.le_refl _,Nat.le_refl _,rfl,rfl,fun _ _ _=>rfl,fun i hi=>.inl ⟨by
  obtain ⟨k,hk⟩:=Option.ne_none_iff_exists'.1 hi
  exact (c.blk i k hk).1,hi⟩⟩
theorem EH.trans {S S' S'':Nat→Prop} {m m' m'':Nat→Nat} {h h' h'' hc hc' hc'':AH} (x:EH S m h hc S' m' h' hc') (y:EH S' m' h' hc' S'' m'' h'' hc''):EH S m h hc S'' m'' h'' hc'':=by
 refine ⟨fun a q=>y.sub a (x.sub a q),fun a q=>?_,fun i hi=>(y.map i (Nat.lt_of_lt_of_le hi x.next2)).trans (x.map i hi),Nat.le_trans x.next2 y.next2,Nat.le_trans x.next1 y.next1,y.lim2.trans x.lim2,y.lim1.trans x.lim1,fun a ha hn=>?_,fun i hi=>?_⟩
 ·rcases y.new a q with q | q | ⟨i,hi,rfl⟩
  ·exact x.new a q
  ·exact .inr (.inl (Nat.le_trans x.next1 q))
  ·rcases x.liv i hi with ⟨h1,h2⟩ | h1
   ·exact .inr (.inr ⟨i,h2,(x.map i h1).symm⟩)
   ·exact .inr (.inl h1)
 ·refine (y.frame a (Nat.lt_of_lt_of_le ha x.next1) fun i hi=>?_).trans (x.frame a ha hn)
  rcases x.liv i hi with ⟨h1,h2⟩ | h1
  ·rw [x.map i h1];exact hn i h2
  ·omega
 ·rcases y.liv i hi with ⟨h1,h2⟩ | h1
  ·rcases x.liv i h2 with ⟨h3,h4⟩ | h3
   ·exact .inl ⟨h3,h4⟩
   ·exact .inr (by rw [y.map i h1];exact h3)
  ·exact .inr (Nat.le_trans x.next1 h1)
theorem EH.mon {S S':Nat→Prop} {m m':Nat→Nat} {h h' hc hc':AH} (c:CE S m h hc) (x:EH S m h hc S' m' h' hc'):Hd S m hc.get h.next S' m' hc'.get h'.next:=
 ⟨x.sub,fun a ha=>x.frame a (c.low a ha) fun i hi he=>c.off i hi (by rw [he];exact ha),x.map,x.next2⟩
theorem CE.alloc {S : Nat → Prop} {m : Nat → Nat} {h hc : AH} (c : CE S m h hc) {k kc : BA} (hsz : kc.sz = k.sz) (hr : Cv S m hc.get h.next k.cs kc.cs) :
    ∃ m',CE S m' (h.alloc k) (hc.alloc kc)∧EH S m h hc S m' (h.alloc k) (hc.alloc kc)∧m' h.next=hc.next:=by
 let m':Nat→Nat:=fun i=>if i=h.next then hc.next else m i
 have lt:∀ i,h.live i→i<h.next:=fun i hi=>by
  obtain ⟨k,hk⟩:=Option.ne_none_iff_exists'.1 hi;exact (c.blk i k hk).1
 have mlt:∀ i,h.live i→m i<hc.next:=fun i hi=>by
  obtain ⟨k,hk⟩:=Option.ne_none_iff_exists'.1 hi;exact (c.blk i k hk).2.1
 have mm:∀ i,i<h.next→m' i=m i:=fun i hi=>by simp only [m'];rw [if_neg (by omega)]
 have mn:m' h.next=hc.next:=by simp [m']
 have ga:∀ a,a<hc.next→(hc.alloc kc).get a=hc.get a:=fun a ha=>by simp only [AH.alloc];rw [if_neg (by omega)]
 have live:∀ i,(h.alloc k).live i→i=h.next∨h.live i:=fun i hi=>by
  by_cases e:i=h.next
  ·exact .inl e
  ·exact .inr (by simpa [AH.live,AH.alloc,e] using hi)
 have pm:Hd S m hc.get h.next S m' (hc.alloc kc).get (h.alloc k).next:=⟨fun _ h=>h,fun a ha=>ga a (c.low a ha),mm,Nat.le_succ _⟩
 refine ⟨m',⟨?_, ?_, ?_, ?_, ?_, ?_, ?_⟩,⟨fun _ h=>h,fun _ h=>.inl h,mm,Nat.le_succ _,Nat.le_succ _,rfl,rfl,fun a ha _=>ga a ha,fun i hi=>?_⟩,mn⟩
 ·intro i k' hk'
  by_cases e:i=h.next
  ·subst e
   have:k'=k:=by simpa [AH.alloc] using hk'.symm
   subst this
   rw [mn]
   refine ⟨Nat.lt_succ_self _,Nat.lt_succ_self _,kc.cs, ?_,hr.mono pm⟩
   simp [AH.alloc,←hsz]
  ·have hk2:h.get i=some k':=by simpa [AH.alloc,e] using hk'
   obtain ⟨h1,h2,cs,h3,h4⟩:=c.blk i k' hk2
   rw [mm i h1]
   exact ⟨Nat.lt_succ_of_lt h1,Nat.lt_succ_of_lt h2,cs,by rw [ga _ h2];exact h3,h4.mono pm⟩
 ·intro i j hi hj he
  rcases live i hi with rfl | hi'<;>rcases live j hj with rfl | hj'
  ·rfl
  ·rw [mn,mm j (lt j hj')] at he;have:=mlt j hj';omega
  ·rw [mn,mm i (lt i hi')] at he;have:=mlt i hi';omega
  ·rw [mm i (lt i hi'),mm j (lt j hj')] at he;exact c.inj i j hi' hj' he
 ·intro i hi hs
  rcases live i hi with rfl | hi'
  ·rw [mn] at hs;have:=c.low _ hs;omega
  ·rw [mm i (lt i hi')] at hs;exact c.off i hi' hs
 ·intro a ha;exact Nat.lt_succ_of_lt (c.low a ha)
 ·intro i hi hl
  rcases live i hi with rfl | hi'
  ·rw [mn];exact c.bnd
  ·rw [mm i (lt i hi')];exact c.lim i hi' hl
 ·exact Nat.le_succ_of_le c.bnd
 ·exact Nat.le_succ_of_le c.bnd2
 ·rcases live i hi with rfl | hi'
  ·exact .inr (by rw [mn];exact Nat.le_refl _)
  ·exact .inl ⟨lt i hi',hi'⟩
theorem CE.put {S : Nat → Prop} {m : Nat → Nat} {h hc : AH} (c : CE S m h hc) {id : Nat} {k kc : BA} (hl : h.live id) (hsz : kc.sz = k.sz) (hr : Cv S m hc.get h.next k.cs kc.cs) :
    CE S m (h.put id k) (hc.put (m id) kc)∧EH S m h hc S m (h.put id k) (hc.put (m id) kc):=by
 have lt:∀ i,h.live i→i<h.next:=fun i hi=>by
  obtain ⟨k,hk⟩:=Option.ne_none_iff_exists'.1 hi;exact (c.blk i k hk).1
 have mlt:∀ i,h.live i→m i<hc.next:=fun i hi=>by
  obtain ⟨k,hk⟩:=Option.ne_none_iff_exists'.1 hi;exact (c.blk i k hk).2.1
 have live:∀ i,(h.put id k).live i→h.live i:=fun i hi=>by
  by_cases e:i=id
  ·rw [e];exact hl
  ·simpa [AH.live,AH.put,e] using hi
 have gS:∀ a,a≠m id→(hc.put (m id) kc).get a=hc.get a:=fun a ha=>by simp only [AH.put];rw [if_neg ha]
 have pm:Hd S m hc.get h.next S m (hc.put (m id) kc).get (h.put id k).next:=⟨fun _ h=>h,fun a ha=>gS a (fun e=>c.off id hl (by rw [← e];exact ha)),fun _ _=>rfl,Nat.le_refl _⟩
 refine ⟨⟨?_,fun i j hi hj=>c.inj i j (live i hi) (live j hj),fun i hi=>c.off i (live i hi),c.low,fun i hi=>c.lim i (live i hi),c.bnd,c.bnd2⟩,⟨fun _ h=>h,fun _ h=>.inl h,fun _ _=>rfl,Nat.le_refl _,Nat.le_refl _,rfl,rfl,fun a _ hn=>gS a (fun e=>hn id hl e.symm),fun i hi=>.inl ⟨lt i (live i hi),live i hi⟩⟩⟩
 intro i k' hk'
 by_cases e:i=id
 ·subst e
  have:k'=k:=by simpa [AH.put] using hk'.symm
  subst this
  exact ⟨lt i hl,mlt i hl,kc.cs,by simp [AH.put,←hsz],hr.mono pm⟩
 ·have hk2:h.get i=some k':=by simpa [AH.put,e] using hk'
  obtain ⟨h1,h2,cs,h3,h4⟩:=c.blk i k' hk2
  refine ⟨h1,h2,cs, ?_,h4.mono pm⟩
  rw [gS _ (fun he=>e (c.inj i id (by simp [AH.live,hk2]) hl he))];exact h3
theorem CE.kill {S : Nat → Prop} {m : Nat → Nat} {h hc : AH} (c : CE S m h hc) {id : Nat} (hl : h.live id) :
    CE S m (h.kill id) (hc.kill (m id))∧EH S m h hc S m (h.kill id) (hc.kill (m id)):=by
 have lt:∀ i,h.live i→i<h.next:=fun i hi=>by
  obtain ⟨k,hk⟩:=Option.ne_none_iff_exists'.1 hi;exact (c.blk i k hk).1
 have live:∀ i,(h.kill id).live i→h.live i:=fun i hi=>by
  by_cases e:i=id
  ·subst e;simp [AH.live,AH.kill] at hi
  ·simpa [AH.live,AH.kill,e] using hi
 have gS:∀ a,a≠m id→(hc.kill (m id)).get a=hc.get a:=fun a ha=>by simp only [AH.kill];rw [if_neg ha]
 have pm:Hd S m hc.get h.next S m (hc.kill (m id)).get (h.kill id).next:=⟨fun _ h=>h,fun a ha=>gS a (fun e=>c.off id hl (by rw [← e];exact ha)),fun _ _=>rfl,Nat.le_refl _⟩
 refine ⟨⟨?_,fun i j hi hj=>c.inj i j (live i hi) (live j hj),fun i hi=>c.off i (live i hi),c.low,fun i hi=>c.lim i (live i hi),c.bnd,c.bnd2⟩,⟨fun _ h=>h,fun _ h=>.inl h,fun _ _=>rfl,Nat.le_refl _,Nat.le_refl _,rfl,rfl,fun a _ hn=>gS a (fun e=>hn id hl e.symm),fun i hi=>.inl ⟨lt i (live i hi),live i hi⟩⟩⟩
 intro i k' hk'
 by_cases e:i=id
 ·subst e;simp [AH.kill] at hk'
 ·have hk2:h.get i=some k':=by simpa [AH.kill,e] using hk'
  obtain ⟨h1,h2,cs,h3,h4⟩:=c.blk i k' hk2
  refine ⟨h1,h2,cs, ?_,h4.mono pm⟩
  rw [gS _ (fun he=>e (c.inj i id (by simp [AH.live,hk2]) hl he))];exact h3
end Go.Ab
/- Operations over values that stay: what they do, and that the abstract machine does it. -/
namespace Go.Ab
open Go
def plain1:V→Bool
 | .b _ | .i .. | .s _ | .np | .ns | .nf | .ni=>true
 | _=>false
def plain:V→Bool
 | .agg l=>l.all plain1
 | v=>plain1 v
def X.e2 (e:Env):X→V
 | .t n=>e n
 | .c v=>if plain v=true then v else .u
 | .fn f=>.f (.func f) [] []
def ldF (n:Nat) (agg:Bool) (xs:List (List V)) (j off:Nat):Option V:=(xs[j]?).bind fun r=>Hn r off n agg
def Ej (sz:Nat) (h:AH):V→Option (List (List V))
 | .fl s xs=>if s=sz then some xs else none
 | v=>AC sz h v
def ID (sz:Nat) (h:AH) (x:V) (new:List (List V)):Option (V×AH):=
 match x with
 | .e0=>
  if new=[] then some (.e0,h)
  else if new.length<A4 then some (.sl h.next 0 new.length new.length,h.alloc ⟨sz,new⟩) else none
 | .ns=>
  if new=[] then some (.ns,h)
  else if new.length<A4 then some (.sl h.next 0 new.length new.length,h.alloc ⟨sz,new⟩) else none
 | .sl id el len cap=>
  match h.get id with
  | some k=>
   if k.sz=sz∧h.lim≤id∧el+len≤k.cs.length∧len+new.length<A4 then
    if len+new.length≤cap then
     if el+len+new.length≤k.cs.length then some (.sl id el (len+new.length) cap,h.put id ⟨sz,D5 k.cs (el+len) new⟩) else none
    else some (.sl h.next 0 (len+new.length) (len+new.length),(h.kill id).alloc ⟨sz,(k.cs.drop el).take len++new⟩)
   else none
  | none=>none
 | _=>none
theorem aCG {sz:Nat} {h:AH} {x y:V}:R9 sz h x y=(AC sz h y).bind (ID sz h x):=rfl
def fW (g:Option BA) (sz:Nat) (v i:V):Option V:=match v,g with
 | .sl id el len _,some k=>if k.sz=sz then (BB i len).map fun j=>.p id (el+j) 0 else none
 | .fl s xs,_=>if s=sz then (BB i xs.length).map fun j=>.fp s xs j 0 else none
 | _,_=>none
def Mh (h:AH):V→Option BA | .sl id _ _ _=>h.get id | _=>none
def Bj (tp:TP) (o:O) (ev:X→V) (h:AH):Option (V×AH):=
 match o with
 | .alloc z=>if z.all plain1=true then Ad tp (.alloc z) ev h else none
 | .build z ps=>if z.all plain1=true then Ad tp (.build z ps) ev h else none
 | .bsl sz z n ps=>if z.all plain1=true∧n<A4 then Ad tp (.bsl sz z n ps) ev h else none
 | .alc z=>if z.all plain1=true then Ad tp (.alc z) ev h else none
 | .chka z y=>if z.all plain1=true then Ad tp (.chka z y) ev h else none
 | .bslc sz z n ps=>if z.all plain1=true∧n<A4 then Ad tp (.bslc sz z n ps) ev h else none
 | .chkb sz z n ps y=>if z.all plain1=true then Ad tp (.chkb sz z n ps y) ev h else none
 | .mksl z n c=>if z.all plain1=true then Ad tp (.mksl z n c) ev h else none
 | .appz z x n=>if z.all plain1=true then Ad tp (.appz z x n) ev h else none
 | .tas t ok z x=>if plain z=true then Ad tp (.tas t ok z x) ev h else none
 | .load n agg x=>match ev x with
  | .fp _ xs j off=>(ldF n agg xs j off).map fun v=>(v,h)
  | _=>Ad tp (.load n agg x) ev h
 | .fload n agg x=>match ev x with
  | .fp _ xs j off=>(ldF n agg xs j off).map fun v=>(v,h)
  | _=>Ad tp (.fload n agg x) ev h
 | .nck x=>match ev x with
  | .fp s xs j off=>some (.fp s xs j off,h)
  | _=>Ad tp (.nck x) ev h
 | .fad off x=>match ev x with
  | .fp s xs j o=>some (.fp s xs j (o+off),h)
  | _=>Ad tp (.fad off x) ev h
 | .iada sz n x i=>match ev x with
  | .fp s xs j o=>(BB (ev i) n).map fun k=>(.fp s xs j (o+k*sz),h)
  | _=>Ad tp (.iada sz n x i) ev h
 | .iad sz x i=>(fW (Mh h (ev x)) sz (ev x) (ev i)).map fun v=>(v,h)
 | .slice sz x lo hi mx=>match ev x with
  | .fl s xs=>if s=sz∧(mx.isNone||hi.isSome)=true then (AG (mx.map ev) xs.length xs.length).bind fun m=>(AG (hi.map ev) xs.length m).bind fun t=>(AG (lo.map ev) 0 t).map fun l=>(.fl s ((xs.drop l).take (t - l)),h) else none
  | _=>Ad tp (.slice sz x lo hi mx) ev h
 | .len x=>match ev x with
  | .fl _ xs=>some (.i .i64 xs.length,h)
  | _=>Ad tp (.len x) ev h
 | .app sz x y=>(Ej sz h (ev y)).bind (ID sz h (ev x))
 | .b2s x=>match ev x with
  | .fl s xs=>if s=1 then (bytesOf? xs).map fun r=>(.s ⟨r.toArray⟩,h) else none
  | _=>Ad tp (.b2s x) ev h
 | .s2b x=>match ev x with
  | .s b=>if b.size<A4 then Ad tp (.s2b x) ev h else none
  | _=>none
 | o=>Ad tp o ev h
section
variable {S:Nat→Prop} {m:Nat→Nat} {g:Nat→Option BA} {n:Nat}
theorem PR.plain1 {v:V} (h:plain1 v=true):PR S m g n v v:=by
 cases v<;>first | (simp [Go.Ab.plain1] at h;done) | constructor
theorem Bi.plain1:∀ {l:List V},l.all Go.Ab.plain1=true→Bi S m g n l l
 | [],_=>.nil _
 | v::l,h=>by
  simp only [List.all_cons,Bool.and_eq_true] at h
  exact .cons _ _ _ _ _ (PR.plain1 h.1) (Bi.plain1 h.2)
theorem PR.plain {v:V} (h:plain v=true):PR S m g n v v:=by
 unfold Go.Ab.plain at h
 split at h
 ·exact .agg _ _ _ (Bi.plain1 h)
 ·exact PR.plain1 h
theorem PR.of_plain1 {v v':V} (h:Go.Ab.plain1 v=true) (p:PR S m g n v v'):v'=v:=by
 cases p<;>first | rfl | (simp [Go.Ab.plain1] at h)
theorem Mb {e e1:Env} (hE:∀ t,PR S m g n (e t) (e1 t)) (x:X):PR S m g n (x.e2 e) (x.ev e1):=by
 cases x with
 | t k=>exact hE k
 | c v=>
  simp only [X.e2,X.ev]
  split
  ·rename_i h;exact PR.plain h
  ·exact .u _ _
 | fn f=>exact .f _ _ _ _ _ _ (.nil _) (.nil _)
theorem Sc {op:BinOp} {v w r:V} (h:BE op v w=some r):Go.Ab.plain1 v=true∧Go.Ab.plain1 w=true∧Go.Ab.plain1 r=true:=by
 unfold BE at h
 split at h
 ·refine ⟨rfl,rfl, ?_⟩
  split at h
  ·split at h<;>simp at h;rw [← h];rfl
  ·split at h<;>simp at h;rw [← h];rfl
  ·split at h
   ·unfold FU at h
    split at h<;>(try split at h)<;>simp at h<;>rw [← h]<;>rfl
   ·simp at h
 ·refine ⟨rfl,rfl, ?_⟩
  unfold U8 at h
  split at h<;>(try split at h)<;>simp at h<;>rw [← h]<;>rfl
 ·simp at h
theorem Zg {op:UnOp} {v r:V} (h:oP op v=some r):Go.Ab.plain1 v=true∧Go.Ab.plain1 r=true:=by
 unfold oP at h
 split at h<;>(try split at h)<;>simp at h<;>rw [← h]<;>exact ⟨rfl,rfl⟩
theorem S6 {v w r:V} (h:MO v w=some r):Go.Ab.plain1 v=true∧Go.Ab.plain1 w=true∧Go.Ab.plain1 r=true:=by
 unfold MO at h
 split at h<;>(try split at h)<;>simp at h<;>rw [← h]<;>exact ⟨rfl,rfl,rfl⟩
theorem S3 {v w r:V} (h:MN v w=some r):Go.Ab.plain1 v=true∧Go.Ab.plain1 w=true∧Go.Ab.plain1 r=true:=by
 unfold MN at h
 split at h<;>(try split at h)<;>simp at h<;>rw [← h]<;>exact ⟨rfl,rfl,rfl⟩
theorem Lv {f:V→V→Option V} (hf:∀ {v w r:V},f v w=some r→Go.Ab.plain1 v=true∧Go.Ab.plain1 w=true∧Go.Ab.plain1 r=true):∀ {l l':List V} {v v' r:V},Bi S m g n l l'→PR S m g n v v'→D2 f v l=some r→∃ r',D2 f v' l'=some r'∧PR S m g n r r'
 | _,_,_,_,_,.nil _,hv,h=>by simp [D2] at h ⊢;subst h;exact hv
 | _,_,_,_,_,.cons _ w w' l l' p q,hv,h=>by
  simp only [D2,Option.bind_eq_some_iff] at h ⊢
  obtain ⟨z,hz,h⟩:=h
  obtain ⟨h1,h2,h3⟩:=hf hz
  obtain ⟨r',hr,hp⟩:=Lv hf q (PR.plain1 h3) h
  exact ⟨r',⟨z,by rw [PR.of_plain1 h1 hv,PR.of_plain1 h2 p];exact hz,hr⟩,hp⟩
theorem aCU {k:CK} {v w v' w':V} {r:Bool} (h:Pl k v w=some r) (hv:PR S m g n v v') (hw:PR S m g n w w'):Pl k v' w'=some r:=by
 unfold Pl at h
 split at h<;>first | (simp at h;done) | (cases hv;cases hw;simpa [Pl] using h)
theorem VF:∀ {ks:List CK} {l l' q q':List V} {r:Bool},FX ks l q=some r→Bi S m g n l l'→Bi S m g n q q'→FX ks l' q'=some r
 | [],[],_,[],_,r,h,.nil _,.nil _=>h
 | k::ks,a::l,_,c::q,_,r,h,.cons _ _ a' _ l' p1 p2,.cons _ _ c' _ q' p3 p4=>by
  simp only [FX,Option.bind_eq_some_iff,Option.map_eq_some_iff] at h ⊢
  obtain ⟨x,hx,y,hy,rfl⟩:=h
  exact ⟨x,aCU hx p1 p3,y,VF hy p2 p4,rfl⟩
 | [],[],_,_::_,_,r,h,_,_=>by simp [FX] at h
 | [],_::_,_,_,_,r,h,_,_=>by simp [FX] at h
 | _::_,[],_,_,_,r,h,_,_=>by simp [FX] at h
 | _::_,_::_,_,[],_,r,h,_,_=>by simp [FX] at h
theorem VH {k:EK} {v w v' w':V} {r:Bool} (h:ES k v w=some r) (hv:PR S m g n v v') (hw:PR S m g n w w'):ES k v' w'=some r:=by
 unfold ES at h
 split at h
 case h_16=>
  cases hv with
  | agg _ _ _ p=>cases hw with
   | agg _ _ _ q=>simpa [ES] using VF h p q
 all_goals first | (simp at h;done) | (cases hv;cases hw;simpa [ES] using h)
theorem Hr {v v':V} {k j:Nat} (hv:PR S m g n v v') (h:BB v k=some j):BB v' k=some j∧j<k:=by
 unfold BB at h
 split at h
 ·cases hv
  refine ⟨by simpa [BB] using h, ?_⟩
  split at h<;>simp at h
  omega
 ·simp at h
theorem CF {ev2 ev1:X→V} (hE:∀ x,PR S m g n (ev2 x) (ev1 x)) {x:Option X} {d k j:Nat} (h:AG (x.map ev2) d k=some j):AG (x.map ev1) d k=some j∧(j=d∧x=none∨j≤k):=by
 cases x with
 | none=>simp [AG] at h ⊢;exact ⟨h,.inl h.symm⟩
 | some x=>
  have hv:=hE x
  simp only [Option.map_some] at h ⊢
  unfold AG at h
  split at h
  ·simp at *
  ·rename_i k' jj hh
   simp only [Option.some.injEq] at hh
   rw [hh] at hv
   cases hv':ev1 x<;>rw [hv'] at hv<;>cases hv
   refine ⟨by simpa [AG] using h,.inr ?_⟩
   split at h<;>simp at h
   omega
  ·simp at h
theorem Lm {r r':List V} {off k:Nat} {agg:Bool} {v:V} (p:Bi S m g n r r') (h:Hn r off k agg=some v):∃ v',Hn r' off k agg=some v'∧PR S m g n v v':=by
 unfold Hn at h ⊢
 rw [← p.len]
 split at h
 ·rename_i hle
  rw [if_pos hle]
  split at h
  ·rename_i hg;rw [if_pos hg];simp at h;subst h;exact ⟨_,rfl,.agg _ _ _ ((p.drop _).take _)⟩
  ·rename_i hg
   rw [if_neg hg]
   split at h
   ·rename_i h1;rw [if_pos h1];exact p.get _ _ h
   ·simp at h
 ·simp at h
theorem Mu:∀ {ps ps':List (Nat×Nat×V)} {r r' q:List V},(ps.map fun z=>(z.1,z.2.1))=(ps'.map fun z=>(z.1,z.2.1))→Bi S m g n (ps.map (·.2.2)) (ps'.map (·.2.2))→Bi S m g n r r'→Ez r ps=some q→∃ q',Ez r' ps'=some q'∧Bi S m g n q q'
 | [],[],_,_,_,_,_,hr,h=>by simp [Ez] at h ⊢;subst h;exact hr
 | [],_::_,_,_,_,e,_,_,_=>by simp at e
 | _::_,[],_,_,_,e,_,_,_=>by simp at e
 | (o,k,v)::ps,(o',k',v')::ps',r,r',q,e,hp,hr,h=>by
  simp only [List.map_cons,List.cons.injEq,Prod.mk.injEq] at e
  obtain ⟨⟨rfl,rfl⟩,e⟩:=e
  simp only [List.map_cons] at hp
  cases hp with
  | cons _ _ _ _ _ p1 p2=>
   simp only [Ez] at h ⊢
   split at h
   ·rename_i hc
    have hcells:=p1.cells (Dk hc.2.2)
    rw [if_pos ⟨by rw [← hcells.len];exact hc.1,by rw [← hr.len];exact hc.2.1,hcells.isCell hc.2.2⟩]
    exact Mu e p2 (Bi.ov _ _ _ hcells hr) h
   ·simp at h
theorem GH {sz:Nat}:∀ {ps ps':List (Nat×V)} {r r' q:List (List V)},(ps.map (·.1))=(ps'.map (·.1))→Bi S m g n (ps.map (·.2)) (ps'.map (·.2))→Cv S m g n r r'→B3 sz r ps=some q→∃ q',B3 sz r' ps'=some q'∧Cv S m g n q q'
 | [],[],_,_,_,_,_,hr,h=>by simp [B3] at h ⊢;subst h;exact hr
 | [],_::_,_,_,_,e,_,_,_=>by simp at e
 | _::_,[],_,_,_,e,_,_,_=>by simp at e
 | (j,v)::ps,(j',v')::ps',r,r',q,e,hp,hr,h=>by
  simp only [List.map_cons,List.cons.injEq] at e
  obtain ⟨rfl,e⟩:=e
  simp only [List.map_cons] at hp
  cases hp with
  | cons _ _ _ _ _ p1 p2=>
   simp only [B3] at h ⊢
   split at h
   ·rename_i hc
    have hcells:=p1.cells (Dk hc.2.2)
    rw [if_pos ⟨by rw [← hcells.len];exact hc.1,by rw [← hr.len];exact hc.2.1,hcells.isCell hc.2.2⟩]
    exact GH e p2 (hr.set _ hcells) h
   ·simp at h
theorem KC (x:ByteArray):Cv S m g n (BU x) (BU x):=by
 unfold BU
 generalize x.data.toList=l
 induction l with
 | nil=>exact .nil _
 | cons c l ih=>exact .cons _ _ _ _ _ (.cons _ _ _ _ _ (.i _ _ _) (.nil _)) ih
theorem F5:∀ {l l':List (List V)} {r:List UInt8},Cv S m g n l l'→bytesOf? l=some r→bytesOf? l'=some r
 | _,_,r,.nil _,h=>h
 | _,_,r,.cons _ row row' l l' p q,h=>by
  unfold bytesOf? at h
  split at h
  ·rename_i he;simp at he
  ·rename_i he
   simp only [List.cons.injEq] at he
   obtain ⟨rfl,rfl⟩:=he
   cases p with
   | cons _ _ _ _ _ p1 p2=>
    cases p1;cases p2
    simp only [Option.map_eq_some_iff] at h
    obtain ⟨z,hz,rfl⟩:=h
    simp only [bytesOf?,Option.map_eq_some_iff]
    exact ⟨z,F5 q hz,rfl⟩
  ·simp at h
end
section
variable {S:Nat→Prop} {m:Nat→Nat} {h hc:AH} (c:CE S m h hc)
include c
theorem IS {sz:Nat} {y y':V} {new:List (List V)} (p:PR S m hc.get h.next y y') (he:Ej sz h y=some new):∃ new',AC sz hc y'=some new'∧Cv S m hc.get h.next new new':=by
 cases p<;>simp only [Ej,AC] at he ⊢<;>try (simp at he;done)
 case s=>split at he<;>simp at he;rename_i h1;subst he;simp [h1];exact KC _
 case ns=>simp at he;subst he;exact ⟨_,rfl,.nil _⟩
 case e0=>simp at he;subst he;exact ⟨_,rfl,.nil _⟩
 case fl0=>split at he<;>simp at he;subst he;exact ⟨_,rfl,.nil _⟩
 case fl1=>split at he<;>simp at he;subst he;exact ⟨_,rfl,.nil _⟩
 case fl s a el cap cs h1 h2 h3 h4 h5 r=>
  split at he<;>simp at he
  rename_i hs
  subst he;subst hs
  simp only [h2]
  refine ⟨_,by rw [if_pos ⟨trivial,h4⟩],r.mono ⟨fun _ h=>h,fun _ _=>rfl,fun i hi=>absurd hi (Nat.not_lt_zero _),Nat.zero_le _⟩⟩
 case sl id el len cap hid=>
  split at he
  ·rename_i k hk
   obtain ⟨_,_,cs,hcs,hr⟩:=c.blk id k hk
   split at he<;>simp at he
   rename_i h1
   subst he
   simp only [hcs]
   exact ⟨_,by rw [if_pos ⟨h1.1,by rw [← hr.len];exact h1.2⟩],(hr.drop _).take _⟩
  ·simp at he
end
def A3 (S:Nat→Prop) (m:Nat→Nat) (h hc:AH) (v:V) (h':AH) (r:Option (V×AH)):Prop:=
 ∃ v' hc' S' m',r=some (v',hc')∧CE S' m' h' hc'∧EH S m h hc S' m' h' hc'∧PR S' m' hc'.get h'.next v v'
section
variable {tp:TP} {S:Nat→Prop} {m:Nat→Nat} {h hc:AH} (c:CE S m h hc)
include c
theorem A3.same {v v':V} {r:Option (V×AH)} (he:r=some (v',hc)) (p:PR S m hc.get h.next v v'):A3 S m h hc v h r:=⟨v',hc,S,m,he,c,EH.refl c,p⟩
theorem A3.alloc {k kc:BA} (hsz:kc.sz=k.sz) (hr:Cv S m hc.get h.next k.cs kc.cs) (v v':V) (hv:∀ m',m' h.next=hc.next→PR S m' (hc.alloc kc).get (h.next+1) v v') {r:Option (V×AH)} (he:r=some (v',hc.alloc kc)):A3 S m h hc v (h.alloc k) r:=by
 obtain ⟨m',h1,h2,h3⟩:=c.alloc hsz hr
 exact ⟨_,_,_,m',he,h1,h2,hv m' h3⟩
theorem Ik {n id el off : Nat} {agg : Bool} {k : BA} {row : List V} {v : V} (hk : h.get id = some k) (hrow : k.cs[el]? = some row) (hv : Hn row off n agg = some v) :
    ∃ v',((hc.get (m id)).bind fun k=>(k.cs[el]?).bind fun r=>Hn r off n agg)=some v'∧PR S m hc.get h.next v v':=by
 obtain ⟨_,_,cs,hcs,hr⟩:=c.blk id k hk
 obtain ⟨row',h1,h2⟩:=hr.get el row hrow
 obtain ⟨v',h3,h4⟩:=Lm h2 hv
 exact ⟨v',by simp [hcs,h1,h3],h4⟩
theorem Xv {n j off sz : Nat} {agg : Bool} {xs : List (List V)} {a el : Nat} {cs : List (List V)} {v : V} (hg : hc.get a = some ⟨sz, cs⟩) (hr : Cv S m hc.get 0 xs ((cs.drop el).take xs.length)) (hv : ldF n agg xs j off = some v) :
    ∃ v',((hc.get a).bind fun k=>(k.cs[el+j]?).bind fun r=>Hn r off n agg)=some v'∧PR S m hc.get h.next v v':=by
 simp only [ldF,Option.bind_eq_some_iff] at hv
 obtain ⟨row,h1,hv⟩:=hv
 obtain ⟨row',h2,h3⟩:=hr.get j row h1
 obtain ⟨v',h4,h5⟩:=Lm h3 hv
 have hj:j<xs.length:=(List.getElem?_eq_some_iff.1 h1).1
 rw [List.getElem?_take_of_lt hj,List.getElem?_drop] at h2
 exact ⟨v',by simp [hg,h2,h4],h5.up _ _⟩
theorem Nl {v w v' w':V} (hs:sameV v w=true) (hv:PR S m hc.get h.next v v') (hw:PR S m hc.get h.next w w'):sameV v' w'=true:=by
 unfold sameV at hs
 split at hs
 case h_3=>
  simp only [Bool.and_eq_true,beq_iff_eq] at hs
  obtain ⟨⟨⟨rfl,rfl⟩,rfl⟩,rfl⟩:=hs
  cases hv;cases hw;simp [sameV]
 case h_4=>
  simp only [Bool.and_eq_true,beq_iff_eq] at hs
  obtain ⟨⟨rfl,rfl⟩,rfl⟩:=hs
  cases hv;cases hw;simp [sameV]
 all_goals first | (simp at hs;done) | (cases hv;cases hw;simpa [sameV] using hs)
theorem Gm:∀ {l w l' w':List V},Bp l w=true→Bi S m hc.get h.next l l'→Bi S m hc.get h.next w w'→Bp l' w'=true
 | [],[],_,_,_,p,q=>by cases p;cases q;rfl
 | [],_::_,_,_,hs,_,_=>by simp [Bp] at hs
 | _::_,[],_,_,hs,_,_=>by simp [Bp] at hs
 | a::l,b::w,_,_,hs,p,q=>by
  simp only [Bp,Bool.and_eq_true] at hs
  cases p with
  | cons _ _ a' _ l' p1 p2=>
   cases q with
   | cons _ _ b' _ w' q1 q2=>
    simp only [Bp,Bool.and_eq_true]
    exact ⟨Nl c hs.1 p1 q1,Gm hs.2 p2 q2⟩
theorem Tr {v w v' w':V} (hs:BQ v w=true) (hv:PR S m hc.get h.next v v') (hw:PR S m hc.get h.next w w'):BQ v' w'=true:=by
 unfold BQ at hs
 split at hs
 ·cases hv;cases hw
  rename_i a p b q
  exact Gm c hs p q
 ·have h1:=Nl c hs hv hw
  unfold BQ
  split
  ·simp [sameV] at h1
  ·exact h1
theorem Fs:∀ {l w l' w':List (List V)},Ba l w=true→Cv S m hc.get h.next l l'→Cv S m hc.get h.next w w'→Ba l' w'=true
 | [],[],_,_,_,p,q=>by cases p;cases q;rfl
 | [],_::_,_,_,hs,_,_=>by simp [Ba] at hs
 | _::_,[],_,_,hs,_,_=>by simp [Ba] at hs
 | a::l,b::w,_,_,hs,p,q=>by
  simp only [Ba,Bool.and_eq_true] at hs
  cases p with
  | cons _ _ a' _ l' p1 p2=>
   cases q with
   | cons _ _ b' _ w' q1 q2=>
    simp only [Ba,Bool.and_eq_true]
    exact ⟨Gm c hs.1 p1 q1,Fs hs.2 p2 q2⟩
theorem Yw {n id el off : Nat} {k : BA} {row : List V} {v v' : V} (hlim : h.lim ≤ id) (hn : 0 < n) (hlen : v.cells.length = n) (hall : v.cells.all V.isCell = true) (hk : h.get id = some k) (hrow : k.cs[el]? = some row) (hle : off + n ≤ row.length) (p : PR S m hc.get h.next v v') :
    A3 S m h hc .u (h.put id ⟨k.sz,k.cs.set el (over row off v.cells)⟩) (if hc.lim≤m id∧0<n∧v'.cells.length=n∧v'.cells.all V.isCell=true then (hc.get (m id)).bind fun k=>(k.cs[el]?).bind fun r=>if off+n≤r.length then some (.u,hc.put (m id) ⟨k.sz,k.cs.set el (over r off v'.cells)⟩) else none else none):=by
 have hl:h.live id:=by simp [AH.live,hk]
 obtain ⟨_,_,cs,hcs,hr⟩:=c.blk id k hk
 obtain ⟨row',h1,h2⟩:=hr.get el row hrow
 have hcells:=p.cells (Dk hall)
 rw [if_pos ⟨c.lim id hl hlim,hn,by rw [← hcells.len];exact hlen,hcells.isCell hall⟩]
 obtain ⟨p1,p2⟩:=c.put (id:=id) (k:=⟨k.sz,k.cs.set el (over row off v.cells)⟩) (kc:=⟨k.sz,cs.set el (over row' off v'.cells)⟩) hl rfl (hr.set _ (Bi.ov _ _ _ hcells h2))
 refine ⟨.u,_,S,m, ?_,p1,p2,.u _ _⟩
 simp only [hcs,Option.bind_some,h1]
 rw [if_pos (by rw [← h2.len];exact hle)]
theorem aCH {sz:Nat} {x x' v:V} {new new':List (List V)} {h':AH} (p:PR S m hc.get h.next x x') (q:Cv S m hc.get h.next new new') (ha:ID sz h x new=some (v,h')):A3 S m h hc v h' (ID sz hc x' new'):=by
 have nil:new=[]↔new'=[]:=by
  have:=q.len
  constructor
  ·rintro rfl;exact List.eq_nil_of_length_eq_zero this.symm
  ·rintro rfl;exact List.eq_nil_of_length_eq_zero this
 unfold ID at ha
 split at ha
 case h_1=>
  cases p
  simp only [ID]
  split at ha
  ·rename_i h0;rw [if_pos (nil.1 h0)];simp at ha;obtain ⟨rfl,rfl⟩:=ha;exact A3.same c rfl (.e0 _)
  ·rename_i h0
   rw [if_neg (fun e=>h0 (nil.2 e))]
   split at ha
   ·rename_i hb
    simp at ha;obtain ⟨rfl,rfl⟩:=ha
    rw [if_pos (by rw [← q.len];exact hb),←q.len]
    exact A3.alloc c (k:=⟨sz,new⟩) (kc:=⟨sz,new'⟩) rfl q _ _ (fun m' hm=>by rw [← hm];exact .sl _ _ _ _ _ (Nat.lt_succ_self _)) rfl
   ·simp at ha
 case h_2=>
  cases p
  simp only [ID]
  split at ha
  ·rename_i h0;rw [if_pos (nil.1 h0)];simp at ha;obtain ⟨rfl,rfl⟩:=ha;exact A3.same c rfl (.ns _)
  ·rename_i h0
   rw [if_neg (fun e=>h0 (nil.2 e))]
   split at ha
   ·rename_i hb
    simp at ha;obtain ⟨rfl,rfl⟩:=ha
    rw [if_pos (by rw [← q.len];exact hb),←q.len]
    exact A3.alloc c (k:=⟨sz,new⟩) (kc:=⟨sz,new'⟩) rfl q _ _ (fun m' hm=>by rw [← hm];exact .sl _ _ _ _ _ (Nat.lt_succ_self _)) rfl
   ·simp at ha
 case h_3 id el len cap=>
  cases p
  rename_i hid
  split at ha
  case h_2=>simp at ha
  rename_i k hk
  split at ha
  case isFalse=>simp at ha
  rename_i hcond
  obtain ⟨hsz,hlim,hel,hbig⟩:=hcond
  have hl:h.live id:=by simp [AH.live,hk]
  obtain ⟨_,_,cs,hcs,hr⟩:=c.blk id k hk
  simp only [ID,hcs]
  rw [if_pos ⟨hsz,c.lim id hl hlim,by rw [← hr.len];exact hel,by rw [← q.len];exact hbig⟩]
  split at ha
  ·rename_i hcap
   rw [if_pos (by rw [← q.len];exact hcap)]
   split at ha
   case isFalse=>simp at ha
   rename_i hfit
   simp at ha;obtain ⟨rfl,rfl⟩:=ha
   rw [if_pos (by rw [← hr.len,←q.len];exact hfit)]
   obtain ⟨p1,p2⟩:=c.put (id:=id) (k:=⟨sz,D5 k.cs (el+len) new⟩) (kc:=⟨sz,D5 cs (el+len) new'⟩) hl rfl (Cv.ov _ _ _ q hr)
   exact ⟨_,_,S,m,rfl,p1,p2,by rw [← q.len];exact .sl _ _ _ _ _ hid⟩
  ·rename_i hcap
   rw [if_neg (by rw [← q.len];exact hcap)]
   simp at ha;obtain ⟨rfl,rfl⟩:=ha
   obtain ⟨c1,a1⟩:=c.kill (id:=id) hl
   have mk:∀ {l l':List (List V)},Cv S m hc.get h.next l l'→Cv S m (hc.kill (m id)).get (h.kill id).next l l':=fun r=>r.mono (a1.mon c)
   obtain ⟨m',c2,a2,hm⟩:=c1.alloc (k:=⟨sz,(k.cs.drop el).take len++new⟩) (kc:=⟨sz,(cs.drop el).take len++new'⟩) rfl (mk (((hr.drop _).take _).app q))
   refine ⟨_,_,S,m',rfl,c2,a1.trans a2, ?_⟩
   rw [← q.len]
   have:(hc.kill (m id)).next=hc.next:=rfl
   have e:hc.next=m' h.next:=hm.symm
   rw [e]
   exact .sl _ _ _ _ _ (Nat.lt_succ_self _)
 case h_4=>simp at ha
theorem aCR {ev2 ev1:X→V} (hE:∀ x,PR S m hc.get h.next (ev2 x) (ev1 x)) {o:O} {v:V} {h':AH} (hd:Bj tp o ev2 h=some (v,h')):A3 S m h hc v h' (Ad tp o ev1 hc):=by
 cases o
 case mv x=>simp [Bj,Ad] at hd;obtain ⟨rfl,rfl⟩:=hd;exact A3.same c rfl (hE x)
 case pick a b d=>
  simp only [Bj,Ad] at hd ⊢
  split at hd
  ·rename_i x hx
   have:=hE a;rw [hx] at this
   cases hx':ev1 a<;>rw [hx'] at this<;>cases this
   simp at hd;obtain ⟨rfl,rfl⟩:=hd
   refine A3.same c rfl ?_
   split
   ·exact hE b
   ·exact hE d
  ·simp at hd
 case alloc z=>
  simp only [Bj] at hd
  split at hd
  case isFalse=>simp at hd
  rename_i hz
  simp [Ad] at hd;obtain ⟨rfl,rfl⟩:=hd
  exact A3.alloc c (k:=⟨z.length,[z]⟩) (kc:=⟨z.length,[z]⟩) rfl (.cons _ _ _ _ _ (Bi.plain1 hz) (.nil _)) _ _ (fun m' hm=>by rw [← hm];exact .p _ _ _ _ (Nat.lt_succ_self _)) rfl
 case alc z=>
  simp only [Bj] at hd
  split at hd
  case isFalse=>simp at hd
  rename_i hz
  simp [Ad] at hd;obtain ⟨rfl,rfl⟩:=hd
  exact A3.alloc c (k:=⟨z.length,[z]⟩) (kc:=⟨z.length,[z]⟩) rfl (.cons _ _ _ _ _ (Bi.plain1 hz) (.nil _)) _ _ (fun m' hm=>by rw [← hm];exact .p _ _ _ _ (Nat.lt_succ_self _)) rfl
 case chka z y=>
  simp only [Bj] at hd
  split at hd
  case isFalse=>simp at hd
  rename_i hz
  simp only [Ad] at hd
  have hy:=hE y
  split at hd
  case h_2=>simp at hd
  rename_i id el off hx
  rw [hx] at hy
  cases hx':ev1 y<;>rw [hx'] at hy<;>cases hy
  simp only [Option.bind_eq_some_iff] at hd
  obtain ⟨b,hb,hd⟩:=hd
  split at hd
  case isFalse=>simp at hd
  rename_i hs
  simp at hd;obtain ⟨rfl,rfl⟩:=hd
  obtain ⟨_,_,cs1,hcs,hr⟩:=c.blk id b hb
  refine A3.same c (v':=.u) ?_ (.u _ _)
  simp only [Ad,hx',hcs,Option.bind_some]
  rw [if_pos ⟨hs.1,hs.2.1,hs.2.2.1,Fs c hs.2.2.2 hr (.cons _ _ _ _ _ (Bi.plain1 hz) (.nil _))⟩]
 case box x=>
  simp only [Bj,Ad] at hd ⊢
  split at hd
  case isFalse=>simp at hd
  rename_i hz
  simp at hd;obtain ⟨rfl,rfl⟩:=hd
  have hcells:=(hE x).cells (Dk hz)
  rw [if_pos (hcells.isCell hz)]
  exact A3.alloc c (k:=⟨(ev2 x).cells.length,[(ev2 x).cells]⟩) (kc:=⟨(ev1 x).cells.length,[(ev1 x).cells]⟩) hcells.len.symm (.cons _ _ _ _ _ hcells (.nil _)) _ _ (fun m' hm=>by rw [← hm];exact .p _ _ _ _ (Nat.lt_succ_self _)) rfl
 case build z ps=>
  simp only [Bj] at hd
  split at hd
  case isFalse=>simp at hd
  rename_i hz
  simp only [Ad,Option.map_eq_some_iff,Prod.mk.injEq] at hd ⊢
  obtain ⟨q,hq,rfl,rfl⟩:=hd
  obtain ⟨q',h1,h2⟩:=Mu (ps:=ps.map fun q=>(q.1,q.2.1,ev2 q.2.2)) (ps':=ps.map fun q=>(q.1,q.2.1,ev1 q.2.2)) (by simp [Function.comp_def]) (by
   simp only [List.map_map,Function.comp_def]
   clear hq
   induction ps with
   | nil=>exact .nil _
   | cons a l ih=>exact .cons _ _ _ _ _ (hE _) ih) (Bi.plain1 (S:=S) (m:=m) (g:=hc.get) (n:=h.next) hz) hq
  exact A3.same c (by rw [h1];rfl) (.agg _ _ _ h2)
 case bsl sz z k ps=>
  simp only [Bj] at hd
  split at hd
  case isFalse=>simp at hd
  rename_i hz
  simp only [Ad,Option.map_eq_some_iff,Prod.mk.injEq] at hd ⊢
  obtain ⟨q,hq,rfl,rfl⟩:=hd
  obtain ⟨q',h1,h2⟩:=GH (ps:=ps.map fun q=>(q.1,ev2 q.2)) (ps':=ps.map fun q=>(q.1,ev1 q.2)) (by simp [Function.comp_def]) (by
   simp only [List.map_map,Function.comp_def]
   clear hq
   induction ps with
   | nil=>exact .nil _
   | cons a l ih=>exact .cons _ _ _ _ _ (hE _) ih) (Cv.rep (Bi.plain1 (S:=S) (m:=m) (g:=hc.get) (n:=h.next) hz.1) k) hq
  exact A3.alloc c (k:=⟨sz,q⟩) (kc:=⟨sz,q'⟩) rfl h2 _ (.sl hc.next 0 k k) (fun m' hm=>by rw [← hm];exact .sl _ _ _ _ _ (Nat.lt_succ_self _)) (by rw [h1];rfl)
 case bslc sz z k ps=>
  simp only [Bj] at hd
  split at hd
  case isFalse=>simp at hd
  rename_i hz
  simp only [Ad,Option.map_eq_some_iff,Prod.mk.injEq] at hd ⊢
  obtain ⟨q,hq,rfl,rfl⟩:=hd
  obtain ⟨q',h1,h2⟩:=GH (ps:=ps.map fun q=>(q.1,ev2 q.2)) (ps':=ps.map fun q=>(q.1,ev1 q.2)) (by simp [Function.comp_def]) (by
   simp only [List.map_map,Function.comp_def]
   clear hq
   induction ps with
   | nil=>exact .nil _
   | cons a l ih=>exact .cons _ _ _ _ _ (hE _) ih) (Cv.rep (Bi.plain1 (S:=S) (m:=m) (g:=hc.get) (n:=h.next) hz.1) k) hq
  exact A3.alloc c (k:=⟨sz,q⟩) (kc:=⟨sz,q'⟩) rfl h2 _ (.sl hc.next 0 k k) (fun m' hm=>by rw [← hm];exact .sl _ _ _ _ _ (Nat.lt_succ_self _)) (by rw [h1];rfl)
 case chkb sz z k ps y=>
  simp only [Bj] at hd
  split at hd
  case isFalse=>simp at hd
  rename_i hz
  simp only [Ad] at hd
  have hy:=hE y
  split at hd
  case h_2=>simp at hd
  rename_i id el len cap hx
  rw [hx] at hy
  cases hx':ev1 y<;>rw [hx'] at hy<;>cases hy
  simp only [Option.bind_eq_some_iff] at hd
  obtain ⟨q,hq,b,hb,hd⟩:=hd
  split at hd
  case isFalse=>simp at hd
  rename_i hs
  simp at hd;obtain ⟨rfl,rfl⟩:=hd
  obtain ⟨q',h1,h2⟩:=GH (ps:=ps.map fun q=>(q.1,ev2 q.2)) (ps':=ps.map fun q=>(q.1,ev1 q.2)) (by simp [Function.comp_def]) (by
   simp only [List.map_map,Function.comp_def]
   clear hq
   induction ps with
   | nil=>exact .nil _
   | cons a l ih=>exact .cons _ _ _ _ _ (hE _) ih) (Cv.rep (Bi.plain1 (S:=S) (m:=m) (g:=hc.get) (n:=h.next) hz) k) hq
  obtain ⟨_,_,cs1,hcs,hr⟩:=c.blk id b hb
  refine A3.same c (v':=.u) ?_ (.u _ _)
  simp only [Ad,hx',h1,Option.bind_some,hcs]
  rw [if_pos ⟨hs.1,hs.2.1,hs.2.2.1,hs.2.2.2.1,Fs c hs.2.2.2.2 hr h2⟩]
 case e0=>simp [Bj,Ad] at hd;obtain ⟨rfl,rfl⟩:=hd;exact A3.same c rfl (.e0 _)
 case load k agg x=>
  have hv:=hE x
  simp only [Bj] at hd
  split at hd
  ·rename_i hx
   rw [hx] at hv
   simp only [Option.map_eq_some_iff,Prod.mk.injEq] at hd
   obtain ⟨w,hw,rfl,rfl⟩:=hd
   cases hx':ev1 x<;>rw [hx'] at hv<;>cases hv
   rename_i cs h3 h4 h1 h2
   obtain ⟨w',h5,h6⟩:=Xv c h2 h4 hw
   refine A3.same c ?_ h6
   simp only [Ad,hx']
   simp only [Option.bind_eq_some_iff] at h5 ⊢
   obtain ⟨b,hb,r,hr,hcut⟩:=h5
   exact ⟨b,hb,r,hr,by rw [hcut];rfl⟩
  ·simp only [Ad] at hd
   split at hd
   ·rename_i id el off hx
    rw [hx] at hv
    cases hx':ev1 x<;>rw [hx'] at hv<;>cases hv
    simp only [Option.bind_eq_some_iff,Option.map_eq_some_iff,Prod.mk.injEq] at hd
    obtain ⟨b,hb,r,hr,w,hw,rfl,rfl⟩:=hd
    obtain ⟨w',h5,h6⟩:=Ik c hb hr hw
    refine A3.same c ?_ h6
    simp only [Ad,hx']
    simp only [Option.bind_eq_some_iff] at h5 ⊢
    obtain ⟨b,hb,r,hr,hcut⟩:=h5
    exact ⟨b,hb,r,hr,by rw [hcut];rfl⟩
   ·simp at hd
 case fload k ag x=>
  have hv:=hE x
  simp only [Bj] at hd
  split at hd
  ·rename_i hx
   rw [hx] at hv
   simp only [Option.map_eq_some_iff,Prod.mk.injEq] at hd
   obtain ⟨w,hw,rfl,rfl⟩:=hd
   cases hx':ev1 x<;>rw [hx'] at hv<;>cases hv
   rename_i cs h3 h4 h1 h2
   obtain ⟨w',h5,h6⟩:=Xv c h2 h4 hw
   refine A3.same c ?_ h6
   simp only [Ad,hx']
   simp only [Option.bind_eq_some_iff] at h5 ⊢
   obtain ⟨b,hb,r,hr,hcut⟩:=h5
   exact ⟨b,hb,r,hr,by rw [hcut];rfl⟩
  ·simp only [Ad] at hd
   split at hd
   ·rename_i id el off hx
    rw [hx] at hv
    cases hx':ev1 x<;>rw [hx'] at hv<;>cases hv
    simp only [Option.bind_eq_some_iff,Option.map_eq_some_iff,Prod.mk.injEq] at hd
    obtain ⟨b,hb,r,hr,w,hw,rfl,rfl⟩:=hd
    obtain ⟨w',h5,h6⟩:=Ik c hb hr hw
    refine A3.same c ?_ h6
    simp only [Ad,hx']
    simp only [Option.bind_eq_some_iff] at h5 ⊢
    obtain ⟨b,hb,r,hr,hcut⟩:=h5
    exact ⟨b,hb,r,hr,by rw [hcut];rfl⟩
   ·simp at hd
 case chk k ag x y=>
  have hv:=hE x
  simp only [Bj,Ad] at hd
  split at hd
  ·rename_i id el off hx
   rw [hx] at hv
   cases hx':ev1 x<;>rw [hx'] at hv<;>cases hv
   simp only [Option.bind_eq_some_iff] at hd
   obtain ⟨b,hb,r,hr,w,hw,hd⟩:=hd
   split at hd
   case isFalse=>simp at hd
   rename_i hs
   simp at hd;obtain ⟨rfl,rfl⟩:=hd
   obtain ⟨w',h5,h6⟩:=Ik c hb hr hw
   refine A3.same c (v':=.u) ?_ (.u _ _)
   simp only [Ad,hx']
   simp only [Option.bind_eq_some_iff] at h5 ⊢
   obtain ⟨b,hb,r,hr,hcut⟩:=h5
   exact ⟨b,hb,r,hr,_,hcut,by rw [if_pos (Tr c hs h6 (hE y))]⟩
  ·simp at hd
 case store k a x=>
  have hv:=hE a
  simp only [Bj,Ad] at hd
  split at hd
  ·rename_i id el off hx
   rw [hx] at hv
   split at hd
   case isFalse=>simp at hd
   rename_i hcond
   obtain ⟨h1,h2,h3,h4⟩:=hcond
   simp only [Option.bind_eq_some_iff] at hd
   obtain ⟨b,hb,r,hr,hd⟩:=hd
   split at hd
   case isFalse=>simp at hd
   rename_i hle
   simp at hd;obtain ⟨rfl,rfl⟩:=hd
   cases hx':ev1 a<;>rw [hx'] at hv<;>cases hv
   simp only [Ad,hx']
   exact Yw c h1 h2 h3 h4 hb hr hle (hE x)
  ·simp at hd
 case nck x=>
  have hv:=hE x
  simp only [Bj] at hd
  split at hd
  ·rename_i hx
   rw [hx] at hv
   simp at hd;obtain ⟨rfl,rfl⟩:=hd
   cases hx':ev1 x<;>rw [hx'] at hv<;>cases hv
   exact A3.same c (v':=ev1 x) (by simp only [Ad,hx']) (by rw [hx'];constructor<;>assumption)
  ·simp only [Ad] at hd
   split at hd
   ·rename_i hx;rw [hx] at hv;simp at hd;obtain ⟨rfl,rfl⟩:=hd
    cases hx':ev1 x<;>rw [hx'] at hv<;>cases hv
    exact A3.same c (v':=ev1 x) (by simp only [Ad,hx']) (by rw [hx'];constructor;assumption)
   ·rename_i hx;rw [hx] at hv;simp at hd;obtain ⟨rfl,rfl⟩:=hd
    cases hx':ev1 x<;>rw [hx'] at hv<;>cases hv
    exact A3.same c (v':=ev1 x) (by simp only [Ad,hx']) (by rw [hx'];constructor;assumption)
   ·rename_i hx;rw [hx] at hv;simp at hd;obtain ⟨rfl,rfl⟩:=hd
    cases hx':ev1 x<;>rw [hx'] at hv<;>cases hv
    exact A3.same c (v':=ev1 x) (by simp only [Ad,hx']) (by rw [hx'];constructor<;>assumption)
   ·rename_i hx;rw [hx] at hv
    split at hd
    case isFalse=>simp at hd
    rename_i hdir
    simp at hd;obtain ⟨rfl,rfl⟩:=hd
    cases hx':ev1 x<;>rw [hx'] at hv<;>cases hv
    rename_i h1 h2
    cases h1 with
    | cons _ _ _ _ _ p q=>
     cases p with
     | ifc _ _ _ _ p=>exact A3.same c (v':=ev1 x) (by simp only [Ad,hx'];rw [if_pos hdir]) (by rw [hx'];exact .f _ _ _ _ _ _ (.cons _ _ _ _ _ (.ifc _ _ _ _ p) q) h2)
   ·simp at hd
 case bin op x y=>
  simp only [Bj,Ad,Option.map_eq_some_iff,Prod.mk.injEq] at hd ⊢
  obtain ⟨r,hr,rfl,rfl⟩:=hd
  obtain ⟨h1,h2,h3⟩:=Sc hr
  exact A3.same c (by rw [PR.of_plain1 h1 (hE x),PR.of_plain1 h2 (hE y),hr];rfl) (PR.plain1 h3)
 case eq neg k x y=>
  simp only [Bj,Ad,Option.map_eq_some_iff,Prod.mk.injEq] at hd ⊢
  obtain ⟨r,hr,rfl,rfl⟩:=hd
  exact A3.same c (by rw [VH hr (hE x) (hE y)];rfl) (.b _ _)
 case un op x=>
  simp only [Bj,Ad,Option.map_eq_some_iff,Prod.mk.injEq] at hd ⊢
  obtain ⟨r,hr,rfl,rfl⟩:=hd
  obtain ⟨h1,h2⟩:=Zg hr
  exact A3.same c (by rw [PR.of_plain1 h1 (hE x),hr];rfl) (PR.plain1 h2)
 case conv k x=>
  have hv:=hE x
  simp only [Bj,Ad] at hd
  split at hd
  ·rename_i hx;rw [hx] at hv;simp at hd;obtain ⟨rfl,rfl⟩:=hd
   cases hx':ev1 x<;>rw [hx'] at hv<;>cases hv
   exact A3.same c (by simp only [Ad,hx']) (.i _ _ _)
  ·simp at hd
 case strs x=>
  have hv:=hE x
  simp only [Bj,Ad] at hd
  split at hd
  ·rename_i hx;rw [hx] at hv;simp at hd;obtain ⟨rfl,rfl⟩:=hd
   cases hx':ev1 x<;>rw [hx'] at hv<;>cases hv
   exact A3.same c (by simp only [Ad,hx']) (.s _ _)
  ·simp at hd
 case mark x=>
  have hv:=hE x
  simp only [Bj,Ad] at hd
  split at hd
  ·rename_i id el len cap hx;rw [hx] at hv
   split at hd
   case isFalse=>simp at hd
   rename_i hcond
   simp at hd;obtain ⟨rfl,rfl⟩:=hd
   cases hx':ev1 x<;>rw [hx'] at hv<;>cases hv
   rename_i hid
   obtain ⟨b,hb⟩:=Option.isSome_iff_exists.1 hcond.1
   obtain ⟨_,_,cs,hcs,_⟩:=c.blk _ b hb
   exact A3.same c (by simp only [Ad,hx'];rw [if_pos ⟨by rw [hcs];rfl,c.lim _ (by simp [AH.live,hb]) hcond.2.1,hcond.2.2⟩]) (.sl _ _ _ _ _ hid)
  ·simp at hd
 case s2b x=>
  have hv:=hE x
  simp only [Bj] at hd
  split at hd
  ·rename_i b hx;rw [hx] at hv
   split at hd
   case isFalse=>simp at hd
   simp [Ad,hx] at hd;obtain ⟨rfl,rfl⟩:=hd
   cases hx':ev1 x<;>rw [hx'] at hv<;>cases hv
   exact A3.alloc c (k:=⟨1,BU b⟩) (kc:=⟨1,BU b⟩) rfl (KC b) _ (.sl hc.next 0 b.size b.size) (fun m' hm=>by rw [← hm];exact .sl _ _ _ _ _ (Nat.lt_succ_self _)) (by simp only [Ad,hx'])
  ·simp at hd
 case b2s x=>
  have hv:=hE x
  simp only [Bj] at hd
  split at hd
  ·rename_i s xs hx
   split at hd
   case isFalse=>simp at hd
   rename_i h1
   subst h1
   simp only [Option.map_eq_some_iff,Prod.mk.injEq] at hd
   obtain ⟨r,hr,rfl,rfl⟩:=hd
   obtain ⟨new',h2,h3⟩:=IS c hv (sz:=1) (new:=xs) (by simp [Ej,hx])
   refine A3.same c (v':=.s ⟨r.toArray⟩) ?_ (.s _ _)
   simp only [Ad]
   split
   ·rename_i hx';rw [hx,hx'] at hv;cases hv
   ·rw [h2];simp [F5 h3 hr]
  ·rename_i hx
   simp only [Ad] at hd
   split at hd
   ·simp at hd
   ·rename_i hs
    simp only [Option.bind_eq_some_iff,Option.map_eq_some_iff,Prod.mk.injEq] at hd
    obtain ⟨l,hl,r,hr,rfl,rfl⟩:=hd
    have hl2:Ej 1 h (ev2 x)=some l:=by
     unfold Ej
     split
     ·rename_i heq;exact absurd heq (hx _ _)
     ·exact hl
    obtain ⟨new',h2,h3⟩:=IS c hv hl2
    refine A3.same c (v':=.s ⟨r.toArray⟩) ?_ (.s _ _)
    simp only [Ad]
    split
    ·rename_i b hx'
     rw [hx'] at hv
     cases hx2:ev2 x<;>rw [hx2] at hv hl hs<;>cases hv
     ·simp [AC] at hl
     ·exact absurd rfl (hs _)
    ·rw [h2];simp [F5 h3 hr]
 case i2s x=>
  have hv:=hE x
  simp only [Bj,Ad] at hd
  split at hd
  ·rename_i hx;rw [hx] at hv;simp at hd;obtain ⟨rfl,rfl⟩:=hd
   cases hx':ev1 x<;>rw [hx'] at hv<;>cases hv
   exact A3.same c (by simp only [Ad,hx']) (.s _ _)
  ·simp at hd
 case mkif t x=>simp [Bj,Ad] at hd;obtain ⟨rfl,rfl⟩:=hd;exact A3.same c rfl (.ifc _ _ _ _ (hE x))
 case mkfn fn a b=>
  simp [Bj,Ad] at hd;obtain ⟨rfl,rfl⟩:=hd
  have all:∀ l:List X,Bi S m hc.get h.next (l.map ev2) (l.map ev1):=fun l=>by
   induction l with
   | nil=>exact .nil _
   | cons a l ih=>exact .cons _ _ _ _ _ (hE _) ih
  exact A3.same c rfl (.f _ _ _ _ _ _ (all a) (all b))
 case mksl z a b=>
  have hva:=hE a
  have hvb:=hE b
  simp only [Bj] at hd
  split at hd
  case isFalse=>simp at hd
  rename_i hz
  simp only [Ad] at hd
  split at hd
  ·rename_i ha hb
   rw [ha] at hva;rw [hb] at hvb
   split at hd
   case isFalse=>simp at hd
   rename_i hcond
   simp at hd;obtain ⟨rfl,rfl⟩:=hd
   cases ha':ev1 a<;>rw [ha'] at hva<;>cases hva
   cases hb':ev1 b<;>rw [hb'] at hvb<;>cases hvb
   rename_i k1 n1 k2 n2
   exact A3.alloc c (k:=⟨z.length,List.replicate n2.toNat z⟩) (kc:=⟨z.length,List.replicate n2.toNat z⟩) rfl (Cv.rep (Bi.plain1 hz) _) _ (.sl hc.next 0 n1.toNat n2.toNat) (fun m' hm=>by rw [← hm];exact .sl _ _ _ _ _ (Nat.lt_succ_self _)) (by simp only [Ad,ha',hb'];rw [if_pos hcond])
  ·simp at hd
 case appz z a b=>
  have hva:=hE a
  have hvb:=hE b
  simp only [Bj] at hd
  split at hd
  case isFalse=>simp at hd
  rename_i hz
  simp only [Ad] at hd
  split at hd
  ·rename_i ha hb
   rw [ha] at hva;rw [hb] at hvb
   split at hd
   case isFalse=>simp at hd
   rename_i hcond
   simp at hd;obtain ⟨rfl,rfl⟩:=hd
   cases ha':ev1 a<;>rw [ha'] at hva<;>cases hva
   cases hb':ev1 b<;>rw [hb'] at hvb<;>cases hvb
   rename_i k2 n2
   exact A3.alloc c (k:=⟨z.length,List.replicate n2.toNat z⟩) (kc:=⟨z.length,List.replicate n2.toNat z⟩) rfl (Cv.rep (Bi.plain1 hz) _) _ (.sl hc.next 0 n2.toNat n2.toNat) (fun m' hm=>by rw [← hm];exact .sl _ _ _ _ _ (Nat.lt_succ_self _)) (by simp only [Ad,ha',hb'];rw [if_pos hcond])
  ·simp at hd
 case slice sz x lo hi mx=>
  have hv:=hE x
  simp only [Bj] at hd
  split at hd
  ·rename_i s xs hx
   rw [hx] at hv
   split at hd
   case isFalse=>simp at hd
   rename_i hcond
   obtain ⟨rfl,hcond⟩:=hcond
   simp only [Option.bind_eq_some_iff,Option.map_eq_some_iff,Prod.mk.injEq] at hd
   obtain ⟨mm,h1,t,h2,l,h3,rfl,rfl⟩:=hd
   obtain ⟨g1,g1'⟩:=CF hE h1
   obtain ⟨g2,g2'⟩:=CF hE h2
   obtain ⟨g3,g3'⟩:=CF hE h3
   have hml:mm≤xs.length:=by rcases g1' with ⟨h,_⟩ | h<;>omega
   have htl:t≤xs.length:=by
    rcases g2' with ⟨h,_⟩ | h
    ·omega
    ·omega
   have htm:t≤mm:=by
    rcases g2' with ⟨h,hn⟩ | h
    ·subst hn
     rcases g1' with ⟨h1',_⟩ | h1'
     ·omega
     ·cases mx with
      | none=>simp [AG] at h1;omega
      | some=>simp at hcond
    ·exact h
   have hlt:l≤t:=by rcases g3' with ⟨h,_⟩ | h<;>omega
   cases hx':ev1 x<;>rw [hx'] at hv<;>cases hv
   ·-- nil
    simp only [List.length_nil] at *
    obtain rfl:mm=0:=by omega
    obtain rfl:t=0:=by omega
    obtain rfl:l=0:=by omega
    refine A3.same c (v':=.ns) ?_ (by simpa using .fl0 _ _)
    simp only [Ad,hx']
    rw [if_pos hcond,g1]
    simp [g2,g3]
   ·simp only [List.length_nil] at *
    obtain rfl:mm=0:=by omega
    obtain rfl:t=0:=by omega
    obtain rfl:l=0:=by omega
    refine A3.same c (v':=.e0) ?_ (by simpa using .fl1 _ _)
    simp only [Ad,hx']
    rw [if_pos hcond,g1]
    simp [g2,g3]
   ·rename_i a el cap cs q5 q1 q2 q4 q6 q3
    -- the bounds of the abstract machine: its room may be greater
    have k1:∃ mm',AG (mx.map ev1) cap cap=some mm'∧mm≤mm':=by
     cases mx with
     | none=>refine ⟨cap,rfl, ?_⟩;simp [AG] at h1;omega
     | some y=>
      simp only [Option.map_some] at g1 ⊢
      unfold AG at g1 ⊢
      split at g1
      ·simp at *
      ·rename_i k' jj hh
       simp only [Option.some.injEq] at hh
       split at g1
       ·simp at g1;subst g1
        exact ⟨jj.toNat,by rw [if_pos (by omega)],Nat.le_refl _⟩
       ·simp at g1
      ·simp at g1
    obtain ⟨mm',k1,k1'⟩:=k1
    have k2:AG (hi.map ev1) xs.length mm'=some t:=by
     cases hi with
     | none=>simpa [AG] using g2
     | some y=>
      simp only [Option.map_some] at g2 ⊢
      unfold AG at g2 ⊢
      split at g2
      ·simp at *
      ·rename_i k' jj hh
       simp only [Option.some.injEq] at hh
       split at g2
       ·simp at g2;subst g2
        rw [if_pos (by omega)]
       ·simp at g2
      ·simp at g2
    refine A3.same c (v':=.sl a (el+l) (t - l) (mm' - l)) ?_ ?_
    ·simp only [Ad,hx',q2,Option.bind_some]
     rw [if_pos ⟨trivial,hcond,q3⟩,k1]
     simp [k2,g3]
    ·have hlen:((xs.drop l).take (t - l)).length=t - l:=by simp;omega
     have e:(((cs.drop el).take xs.length).drop l).take (t - l)=(cs.drop (el+l)).take (t - l):=by
      rw [List.drop_take,List.take_take,List.drop_drop]
      congr 1
      omega
     have:=PR.fl (S:=S) (m:=m) (g:=hc.get) h.next s ((xs.drop l).take (t - l)) a (el+l) (mm' - l) cs q1 q2 (by rw [hlen];omega) (by rw [hlen];omega) (by rw [hlen];unfold Ho at *;omega) (by rw [hlen,←e];exact (q6.drop l).take (t - l))
     rw [hlen] at this
     exact this
  ·simp only [Ad] at hd
   split at hd
   ·rename_i hx
    rw [hx] at hv
    split at hd
    case isFalse=>simp at hd
    rename_i hcond
    simp only [Option.bind_eq_some_iff,Option.map_eq_some_iff,Prod.mk.injEq] at hd
    obtain ⟨mm,h1,t,h2,l,h3,rfl,rfl⟩:=hd
    cases hx':ev1 x<;>rw [hx'] at hv<;>cases hv
    refine A3.same c (v':=.ns) ?_ (.ns _)
    simp only [Ad,hx']
    rw [if_pos hcond,(CF hE h1).1]
    simp [(CF hE h2).1,(CF hE h3).1]
   ·rename_i hx
    rw [hx] at hv
    split at hd
    case isFalse=>simp at hd
    rename_i hcond
    simp only [Option.bind_eq_some_iff,Option.map_eq_some_iff,Prod.mk.injEq] at hd
    obtain ⟨mm,h1,t,h2,l,h3,rfl,rfl⟩:=hd
    cases hx':ev1 x<;>rw [hx'] at hv<;>cases hv
    refine A3.same c (v':=.e0) ?_ (.e0 _)
    simp only [Ad,hx']
    rw [if_pos hcond,(CF hE h1).1]
    simp [(CF hE h2).1,(CF hE h3).1]
   ·rename_i id el len cap hx
    rw [hx] at hv
    simp only [Option.bind_eq_some_iff] at hd
    obtain ⟨b,hb,hd⟩:=hd
    split at hd
    case isFalse=>simp at hd
    rename_i hcond
    simp only [Option.bind_eq_some_iff,Option.map_eq_some_iff,Prod.mk.injEq] at hd
    obtain ⟨mm,h1,t,h2,l,h3,rfl,rfl⟩:=hd
    cases hx':ev1 x<;>rw [hx'] at hv<;>cases hv
    rename_i hid
    obtain ⟨_,_,cs,hcs,_⟩:=c.blk _ b hb
    refine A3.same c (v':=.sl (m id) (el+l) (t - l) (mm - l)) ?_ (.sl _ _ _ _ _ hid)
    simp only [Ad,hx',hcs,Option.bind_some]
    rw [if_pos hcond,(CF hE h1).1]
    simp [(CF hE h2).1,(CF hE h3).1]
   ·simp at hd
 case sslice x lo hi=>
  have hv:=hE x
  simp only [Bj,Ad] at hd
  split at hd
  ·rename_i b hx
   rw [hx] at hv
   simp only [Option.bind_eq_some_iff,Option.map_eq_some_iff,Prod.mk.injEq] at hd
   obtain ⟨t,h2,l,h3,rfl,rfl⟩:=hd
   cases hx':ev1 x<;>rw [hx'] at hv<;>cases hv
   refine A3.same c (v':=.s (b.extract l t)) ?_ (.s _ _)
   simp only [Ad,hx']
   rw [(CF hE h2).1]
   simp [(CF hE h3).1]
  ·simp at hd
 case fad off x=>
  have hv:=hE x
  simp only [Bj] at hd
  split at hd
  ·rename_i hx
   rw [hx] at hv
   simp at hd;obtain ⟨rfl,rfl⟩:=hd
   cases hx':ev1 x<;>rw [hx'] at hv<;>cases hv
   refine A3.same c (by simp only [Ad,hx'];rfl) (by constructor<;>assumption)
  ·simp only [Ad] at hd
   split at hd
   ·rename_i hx;rw [hx] at hv;simp at hd;obtain ⟨rfl,rfl⟩:=hd
    cases hx':ev1 x<;>rw [hx'] at hv<;>cases hv
    refine A3.same c (by simp only [Ad,hx'];rfl) (by constructor;assumption)
   ·simp at hd
 case fld off k agg x=>
  have hv:=hE x
  simp only [Bj,Ad] at hd
  split at hd
  ·rename_i r hx
   rw [hx] at hv
   simp only [Option.map_eq_some_iff,Prod.mk.injEq] at hd
   obtain ⟨w,hw,rfl,rfl⟩:=hd
   cases hx':ev1 x<;>rw [hx'] at hv<;>cases hv
   rename_i hr
   obtain ⟨w',h1,h2⟩:=Lm hr hw
   exact A3.same c (by simp only [Ad,hx',h1];rfl) h2
  ·simp at hd
 case iad sz x i=>
  have hv:=hE x
  simp only [Bj,Option.map_eq_some_iff,Prod.mk.injEq] at hd
  obtain ⟨w,hw,rfl,rfl⟩:=hd
  unfold fW at hw
  split at hw
  ·rename_i id el len cap k hx hk
   rw [hx] at hv
   simp only [hx,Mh] at hk
   split at hw
   case isFalse=>simp at hw
   rename_i hsz
   simp only [Option.map_eq_some_iff] at hw
   obtain ⟨j,hj,rfl⟩:=hw
   cases hx':ev1 x<;>rw [hx'] at hv<;>cases hv
   rename_i hid
   obtain ⟨_,_,cs,hcs,_⟩:=c.blk _ k hk
   exact A3.same c (by simp only [Ad,hx'];rw [if_pos (by simp [szB,hcs,hsz]),(Hr (hE i) hj).1];rfl) (.p _ _ _ _ hid)
  ·rename_i s xs _ hx
   rw [hx] at hv
   split at hw
   case isFalse=>simp at hw
   rename_i hsz
   subst hsz
   simp only [Option.map_eq_some_iff] at hw
   obtain ⟨j,hj,rfl⟩:=hw
   obtain ⟨h1,h2⟩:=Hr (hE i) hj
   cases hx':ev1 x<;>rw [hx'] at hv<;>cases hv
   ·simp at h2
   ·simp at h2
   ·rename_i a el cap cs q5 q1 q2 q4 q6 q3
    exact A3.same c (v':=.p a (el+j) 0) (by simp only [Ad,hx'];rw [if_pos (by simp [szB,q2]),h1];rfl) (.fp _ _ _ _ _ _ _ _ q1 q2 q4 q6)
  ·simp at hw
 case iada sz k x i=>
  have hv:=hE x
  simp only [Bj] at hd
  split at hd
  ·rename_i hx
   rw [hx] at hv
   simp only [Option.map_eq_some_iff,Prod.mk.injEq] at hd
   obtain ⟨j,hj,rfl,rfl⟩:=hd
   cases hx':ev1 x<;>rw [hx'] at hv<;>cases hv
   exact A3.same c (by simp only [Ad,hx'];rw [(Hr (hE i) hj).1];rfl) (by constructor<;>assumption)
  ·simp only [Ad] at hd
   split at hd
   ·rename_i hx
    rw [hx] at hv
    simp only [Option.map_eq_some_iff,Prod.mk.injEq] at hd
    obtain ⟨j,hj,rfl,rfl⟩:=hd
    cases hx':ev1 x<;>rw [hx'] at hv<;>cases hv
    exact A3.same c (by simp only [Ad,hx'];rw [(Hr (hE i) hj).1];rfl) (by constructor;assumption)
   ·simp at hd
 case idx sz k agg x i=>
  have hv:=hE x
  simp only [Bj,Ad] at hd
  split at hd
  ·rename_i r hx
   rw [hx] at hv
   simp only [Option.bind_eq_some_iff,Option.map_eq_some_iff,Prod.mk.injEq] at hd
   obtain ⟨j,hj,w,hw,rfl,rfl⟩:=hd
   cases hx':ev1 x<;>rw [hx'] at hv<;>cases hv
   rename_i hr
   obtain ⟨w',h1,h2⟩:=Lm hr hw
   exact A3.same c (by simp only [Ad,hx'];rw [(Hr (hE i) hj).1];simp [h1]) h2
  ·simp at hd
 case sidx x i=>
  have hv:=hE x
  simp only [Bj,Ad] at hd
  split at hd
  ·rename_i r hx
   rw [hx] at hv
   simp only [Option.map_eq_some_iff,Prod.mk.injEq] at hd
   obtain ⟨j,hj,rfl,rfl⟩:=hd
   cases hx':ev1 x<;>rw [hx'] at hv<;>cases hv
   exact A3.same c (by simp only [Ad,hx'];rw [(Hr (hE i) hj).1];rfl) (.i _ _ _)
  ·simp at hd
 case ext x i=>
  have hv:=hE x
  simp only [Bj,Ad] at hd
  split at hd
  ·rename_i r hx
   rw [hx] at hv
   simp only [Option.map_eq_some_iff,Prod.mk.injEq] at hd
   obtain ⟨w,hw,rfl,rfl⟩:=hd
   cases hx':ev1 x<;>rw [hx'] at hv<;>cases hv
   rename_i hr
   obtain ⟨w',h1,h2⟩:=hr.get _ _ hw
   exact A3.same c (by simp only [Ad,hx',h1];rfl) h2
  ·simp at hd
 case app sz x y=>
  have hv:=hE x
  simp only [Bj,Option.bind_eq_some_iff] at hd
  obtain ⟨new,hnew,hd⟩:=hd
  obtain ⟨new',h1,h2⟩:=IS c (hE y) hnew
  simp only [Ad,aCG,h1,Option.bind_some]
  exact aCH c hv h2 hd
 case len x=>
  have hv:=hE x
  simp only [Bj] at hd
  split at hd
  ·rename_i s xs hx
   rw [hx] at hv
   simp at hd;obtain ⟨rfl,rfl⟩:=hd
   cases hx':ev1 x<;>rw [hx'] at hv<;>cases hv<;>exact A3.same c (by simp only [Ad,hx']<;>rfl) (.i _ _ _)
  ·simp only [Ad] at hd
   split at hd
   ·rename_i hx;rw [hx] at hv;simp at hd;obtain ⟨rfl,rfl⟩:=hd
    cases hx':ev1 x<;>rw [hx'] at hv<;>cases hv;exact A3.same c (by simp only [Ad,hx']) (.i _ _ _)
   ·rename_i hx;rw [hx] at hv;simp at hd;obtain ⟨rfl,rfl⟩:=hd
    cases hx':ev1 x<;>rw [hx'] at hv<;>cases hv;exact A3.same c (by simp only [Ad,hx']) (.i _ _ _)
   ·rename_i hx;rw [hx] at hv;simp at hd;obtain ⟨rfl,rfl⟩:=hd
    cases hx':ev1 x<;>rw [hx'] at hv<;>cases hv;exact A3.same c (by simp only [Ad,hx']) (.i _ _ _)
   ·simp at hd
 case slen x=>
  have hv:=hE x
  simp only [Bj,Ad] at hd
  split at hd
  ·rename_i hx;rw [hx] at hv;simp at hd;obtain ⟨rfl,rfl⟩:=hd
   cases hx':ev1 x<;>rw [hx'] at hv<;>cases hv;exact A3.same c (by simp only [Ad,hx']) (.i _ _ _)
  ·simp at hd
 case lenc k=>simp [Bj,Ad] at hd;obtain ⟨rfl,rfl⟩:=hd;exact A3.same c rfl (.i _ _ _)
 case cap x=>
  have hv:=hE x
  simp only [Bj,Ad] at hd
  split at hd
  ·rename_i hx;rw [hx] at hv;simp at hd;obtain ⟨rfl,rfl⟩:=hd
   cases hx':ev1 x<;>rw [hx'] at hv<;>cases hv;exact A3.same c (by simp only [Ad,hx']) (.i _ _ _)
  ·rename_i hx;rw [hx] at hv;simp at hd;obtain ⟨rfl,rfl⟩:=hd
   cases hx':ev1 x<;>rw [hx'] at hv<;>cases hv;exact A3.same c (by simp only [Ad,hx']) (.i _ _ _)
  ·simp at hd
 case mn l=>
  simp only [Bj,Ad] at hd ⊢
  cases l with
  | nil=>simp at hd
  | cons x l=>
   simp only [Option.map_eq_some_iff,Prod.mk.injEq] at hd ⊢
   obtain ⟨r,hr,rfl,rfl⟩:=hd
   obtain ⟨r',h1,h2⟩:=Lv S6 (l:=l.map ev2) (l':=l.map ev1) (by
    clear hr
    induction l with
    | nil=>exact .nil _
    | cons a l ih=>exact .cons _ _ _ _ _ (hE _) ih) (hE x) hr
   exact A3.same c (by rw [h1];rfl) h2
 case mx l=>
  simp only [Bj,Ad] at hd ⊢
  cases l with
  | nil=>simp at hd
  | cons x l=>
   simp only [Option.map_eq_some_iff,Prod.mk.injEq] at hd ⊢
   obtain ⟨r,hr,rfl,rfl⟩:=hd
   obtain ⟨r',h1,h2⟩:=Lv S3 (l:=l.map ev2) (l':=l.map ev1) (by
    clear hr
    induction l with
    | nil=>exact .nil _
    | cons a l ih=>exact .cons _ _ _ _ _ (hE _) ih) (hE x) hr
   exact A3.same c (by rw [h1];rfl) h2
 case call=>simp [Bj,Ad] at hd
 case inv=>simp [Bj,Ad] at hd
 case tas t ok z x=>
  have hv:=hE x
  simp only [Bj] at hd
  split at hd
  case isFalse=>simp at hd
  rename_i hz
  simp only [Ad] at hd
  split at hd
  ·rename_i t' w hx
   rw [hx] at hv
   cases hx':ev1 x<;>rw [hx'] at hv<;>cases hv
   rename_i hw
   simp only [Ad,hx']
   split at hd
   ·rename_i ht
    simp at hd;obtain ⟨rfl,rfl⟩:=hd
    rw [if_pos ht]
    refine A3.same c rfl ?_
    split
    ·exact .tup _ _ _ (.cons _ _ _ _ _ hw (.cons _ _ _ _ _ (.b _ _) (.nil _)))
    ·exact hw
   ·rename_i ht
    rw [if_neg ht]
    split at hd
    ·rename_i ho
     simp at hd;obtain ⟨rfl,rfl⟩:=hd
     rw [if_pos ho]
     exact A3.same c rfl (.tup _ _ _ (.cons _ _ _ _ _ (PR.plain hz) (.cons _ _ _ _ _ (.b _ _) (.nil _))))
    ·simp at hd
  ·rename_i hx
   rw [hx] at hv
   cases hx':ev1 x<;>rw [hx'] at hv<;>cases hv
   simp only [Ad,hx']
   split at hd
   ·rename_i ho
    simp at hd;obtain ⟨rfl,rfl⟩:=hd
    rw [if_pos ho]
    exact A3.same c rfl (.tup _ _ _ (.cons _ _ _ _ _ (PR.plain hz) (.cons _ _ _ _ _ (.b _ _) (.nil _))))
   ·simp at hd
  ·simp at hd
end
end Go.Ab
