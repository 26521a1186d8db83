/- Part of a proof that a law returns true for every input of the second form's bound (no other condition). -/
import Derived.Test.YtlcknhidblndnaaGreatPB
import Derived.Test.YtlcknhidblndnaaGreatPA
set_option linter.all false
/- A region that draws its order: every order, piece by piece. -/
namespace Go.Ab
open Go Go.RowKit
section
variable {P:Program}
theorem ED {n:Nat} {fl:List Nat} {ops:Array Oper}:∀ {l:List Oper} {ts:List TO},EC P n fl ops l=some ts->l.length=ts.length/\∀ (i:Nat) (o:Oper) (t:TO),l[i]?=some o->ts[i]?=some t->J7 P n fl ops o=some t
 | [],ts,hc=>by simp [EC] at hc;subst hc;exact ⟨rfl,λi o t h=>by simp at h⟩
 | o::l,ts,hc=>by
  simp only [EC,Option.bind_eq_some_iff,Option.map_eq_some_iff] at hc;obtain ⟨t,ht,ts',hts,rfl⟩:=hc;obtain ⟨h1,h2⟩:=ED hts;refine ⟨by simp [h1],λi o' t' ho ht'=>?_⟩
  cases i with
  | zero=>
   simp at ho ht';subst ho;subst ht';exact ht
  | succ i=>exact h2 i o' t' (by simpa using ho) (by simpa using ht')
theorem Jn (wr:Wr):∀ (l:List (Oper×TO)),((Gf wr l).map (·.2)).flatten=l.map (·.2)
 | []=>rfl
 | (o,t)::r=>by
  have ih:=Jn wr r;simp only [Gf];split
  .simp [ih]
  .split
   .rename_i ll s hs;rw [hs] at ih;simp at ih;simp [ih]
   .simp [ih]
def iB (n:Nat) (L:Array Bool):Nat:=((List.range n).filter λi=>!L.getD i true).length
theorem zL {n i:Nat} {L:Array Bool} (hi:i<n) (hs:L.size=n) (hf:L.getD i true=false):iB n (L.setIfInBounds i true)+1=iB n L:=by
 unfold iB;have key:∀ (l:List Nat),l.Nodup->i∈l->(l.filter λj=>!(L.setIfInBounds i true).getD j true).length+1=(l.filter λj=>!L.getD j true).length:=by
  intro l
  induction l with
  | nil=>intro _ h;simp at h
  | cons j l ih=>
   intro hnd hmem;have hnd':=List.nodup_cons.1 hnd
   by_cases hji:j=i
   .subst hji;have h1:(L.setIfInBounds j true).getD j true=true:=by
     rw [Array.getD_eq_getD_getElem?];simp [Array.getElem?_setIfInBounds_self_of_lt (by omega:j<L.size)]
    have h2:(l.filter λk=>!(L.setIfInBounds j true).getD k true)=l.filter λk=>!L.getD k true:=by
     apply List.filter_congr;intro k hk;have:j≠k:=λhh=>hnd'.1 (hh▸hk);rw [getD_set_ne true this]
    rw [List.filter_cons,List.filter_cons];simp only [h1,hf,Bool.not_true,Bool.not_false,if_true,if_false,Bool.false_eq_true,h2,List.length_cons]
   .have hmem':i∈l:=by simpa [Ne.symm hji] using hmem
    have:=ih hnd'.2 hmem';have he:(L.setIfInBounds i true).getD j true=L.getD j true:=getD_set_ne true (Ne.symm hji);rw [List.filter_cons,List.filter_cons,he];split
    .simp only [List.length_cons];omega
    .exact this
 exact key _ List.nodup_range (by simpa using hi)
theorem L1 {n:Nat} {L:Array Bool} (h:iB n L=0):∀ i,i<n->L.getD i true=true:=by
 intro i hi;unfold iB at h;have:=List.length_eq_zero_iff.1 h;rw [List.filter_eq_nil_iff] at this;have:=this i (by simpa using hi);simpa using this
theorem GV {L:Array Bool} {i:Nat} (h:L.getD i true=false):L.getD i false=false:=by
 rw [Array.getD_eq_getD_getElem?] at *
 cases hh:L[i]? with
 | none=>rfl
 | some b=>rw [hh] at h;simpa using h
theorem CT {L:Array Bool} {i:Nat} (hi:i<L.size):L.getD i false=L.getD i true:=by
 rw [Array.getD_eq_getD_getElem?,Array.getD_eq_getD_getElem?,Array.getElem?_eq_getElem hi];rfl
variable {C:A4} {tp:TP} {n:Nat} {fl:List Nat} {ops:Array Oper} {ts:List TO} {Q:Exit->Act->World->Prop}
def DR (ops:Array Oper) (L:Array Bool):Prop:=Closed ops (λi=>L.getD i false=true)
theorem DR.set {L:Array Bool} (h:DR ops L) {i:Nat} {o:Oper} (ho:ops[i]?=some o) (hd:∀ e∈o.after,Region.binds .any e=true->L.getD e.on false=true):DR ops (L.setIfInBounds i true):=by
 intro j oj hoj hj e he hb
 by_cases hji:i=j
 .subst hji;rw [ho] at hoj;simp only [Option.some.injEq] at hoj;subst hoj;exact getD_set_true (hd e (by simpa using he) hb)
 .rw [getD_set_ne false hji] at hj;exact getD_set_true (h j oj hoj hj e he hb)
theorem Pv {L:Array Bool} (hE:FB ops=true) (hs:L.size=ops.size) {i:Nat} (hi:i<ops.size) (hf:L.getD i true=false) (hlow:∀ j,j<i->L.getD j true=true):i∈Region.ready .any ops L:=by
 refine mem_ready.2 ⟨hf,ops[i],by simp [hi],λe he hb=>?_⟩;simp only [FB,List.all_eq_true] at hE;have:=hE i (by simpa using hi);simp only [Array.getElem?_eq_getElem hi,List.all_eq_true] at this;have:=this e (by simpa using he);simp only [hb,Bool.not_true,Bool.false_or,decide_eq_true_eq] at this;rw [CT om];exact hlow e.on this
theorem GInv.congr {M0 M:Mp} {B:Nat} {w0 w:World} {E:Nat->Env} {V':Nat->V} {H0 K:AH} {S S':Nat->Prop} {a:Act} (g:GInv M0 B w0 n ts E V' H0 K S M w a) (h:∀ i,S i↔S' i):GInv M0 B w0 n ts E V' H0 K S' M w a:=
 ⟨g.sim,λt ht=>g.env1 t (λi o ho hod hS=>ht i o ho hod ((h i).1 hS)),λi o ho hS t hod=>g.env2 i o ho ((h i).2 hS) t hod,g.gmap,g.below,g.size,g.defers⟩
theorem FW.congr {H:Nat->AH} {lo hi:Nat} {S S':Nat->Prop} {M:Mp} (q:FW ts H lo hi S M) (h:∀ i,S i↔S' i):FW ts H lo hi S' M:=
 ⟨λi t h1 h2 ht hp hS=>q.none_ i t h1 h2 ht hp (λhh=>hS ((h i).1 hh)),q.wf⟩
structure Facts (P:Program) (n:Nat) (fl:List Nat) (ops:Array Oper) (ts:List TO) (L:Array Bool) (j:Nat) (o:Oper) (t:TO):Prop where
 ho:ops[j]?=some o
 ht:ts[j]?=some t
 hc:J7 P n fl ops o=some t
 hS:¬ (L.getD j true=true)
 dir:∀ e∈o.after,Region.binds .any e=true->L.getD e.on false=true
 d1:∀ (i:Nat) (x:TO) (sl:Nat),i<j->ts[i]?=some x->x.d=some sl->sl∈t.slots->L.getD i true=true
 d2:∀ (i:Nat) (x:TO) (sl:Nat),j<i->ts[i]?=some x->x.d=some sl->sl∈t.slots->¬ (L.getD i true=true)
 d3:∀ (i:Nat) (x:TO) (d:Nat),i≠j->ts[i]?=some x->x.d=some d->t.d≠some d
 anc:∀ i,((E9 ops.toList).getD j 0).testBit i=true->i<ops.size->L.getD i true=true
theorem Et {cl:List Nat} (hp:Hh cl ts=true) (i j:Nat) (x y:TO) (d:Nat) (hij:i≠j) (hx:ts[i]?=some x) (hy:ts[j]?=some y) (hd:x.d=some d):y.d≠some d:=by
 simp only [Hh,List.all_eq_true] at hp;have:=hp i (by simpa using (List.getElem?_eq_some_iff.1 hx).1) j (by simpa using (List.getElem?_eq_some_iff.1 hy).1);simp only [hx,hy,hd,Bool.or_eq_true,beq_iff_eq,Bool.and_eq_true,bne_iff_ne,ne_eq] at this;exact (this.resolve_left hij).1
theorem Kd (hc:EC P n fl ops ops.toList=some ts) (hp:Hh (E9 ops.toList) ts=true) {L:Array Bool} (hLs:L.size=ops.size) (hLc:DR ops L) {j:Nat} (hj:j∈Region.ready .any ops L):∃ o t,Facts P n fl ops ts L j o t:=by
 have hlen:ops.size=ts.length:=by have:=(ED hc).1;simpa using this
 obtain ⟨hif,o,ho,hdir⟩:=mem_ready.1 hj;have hlt:=(Array.getElem?_eq_some_iff.1 ho).1;have ht:ts[j]?=some ts[j]:=List.getElem?_eq_getElem om;have pair:∀ (i j:Nat) (x y:TO) (d:Nat),i≠j->ts[i]?=some x->ts[j]?=some y->x.d=some d->y.d≠some d/\(d∈y.slots->if i<j then ((E9 ops.toList).getD j 0).testBit i=true else ((E9 ops.toList).getD i 0).testBit j=true):=by
  intro i j x y d hij hx hy hd;simp only [Hh,List.all_eq_true] at hp;have hi:=(List.getElem?_eq_some_iff.1 hx).1;have hj:=(List.getElem?_eq_some_iff.1 hy).1;have:=hp i (by simpa using hi) j (by simpa using hj);simp only [hx,hy,hd,Bool.or_eq_true,beq_iff_eq,Bool.and_eq_true,bne_iff_ne,ne_eq] at this;rcases this with h1 | ⟨h1,h2⟩
  .exact absurd h1 hij
  .refine ⟨h1,λhsl=>?_⟩;rcases h2 with h2 | h2
   .simp [hsl] at h2
   .split
    .rename_i hlt;rw [if_pos hlt] at h2;exact h2
    .rename_i hlt;rw [if_neg hlt] at h2;exact h2
 have dirL:∀ e∈o.after.toList,Region.binds .any e=true->L.getD e.on false=true:=λe he hb=>hdir e (by simpa using he) hb;have anc:∀ i,((E9 ops.toList).getD j 0).testBit i=true->i<ops.size->L.getD i true=true:=λi hb hi=>by
  have:=Gu hLc j i o ho dirL hb;rw [CT om] at this;exact this
 refine ⟨o,ts[j],ho,ht,(ED hc).2 j o _ (by simpa using ho) ht,by rw [hif];simp,hdir,λi x sl hij hx hd hsl=>?_,λi x sl hij hx hd hsl hSi=>?_,λi x d hij hx hd=>(pair i j x ts[j] d hij hx ht hd).1,anc⟩
 .have:=(pair i j x ts[j] sl om hx ht hd).2 hsl;rw [if_pos hij] at this;exact anc i this om
 .have hil:=(List.getElem?_eq_some_iff.1 hx).1;have hb:=(pair i j x ts[j] sl om hx ht hd).2 hsl;rw [if_neg om] at hb;have hio:ops[i]?=some ops[i]:=by simp
  have hLi:L.getD i false=true:=by rw [CT om];exact hSi
  have:=Gu hLc i j ops[i] hio (λe he hb=>hLc i _ hio hLi e he hb) hb;rw [CT om,hif] at this;cases this
theorem A5 {L:Array Bool} {j:Nat} (hj:j<L.size) (i:Nat):(L.getD i true=true\/i=j)↔(L.setIfInBounds j true).getD i true=true:=by
 by_cases hij:i=j
 .subst hij;rw [Array.getD_eq_getD_getElem?,Array.getD_eq_getD_getElem?];simp [Array.getElem?_setIfInBounds_self_of_lt hj]
 .rw [getD_set_ne true (Ne.symm hij)];simp [hij]
def Mk (E:Env) (t:TO):Env:=λs=>if s∈t.o.slots then E s else .u
theorem H7 {M:Mp} {K:AH} {e:Env} {a:Act} {t:TO} (h:∀ sl∈t.slots,VR M K (e sl) (a.tmps.getD sl undef)):EA M K (Mk e t) a:=λs=>by
 by_cases hs:s∈t.o.slots
 .simp only [Mk,hs,if_true];exact h s (by simp [TO.slots,hs])
 .simp only [Mk,hs,if_false];exact .u _
theorem Hq (e:Env) (t:TO):Agree (Mk e t) e t.o.slots:=λs hs=>by simp [Mk,hs]
section
variable {M0:Mp} {B:Nat} {w0:World} {bar:Nat->Bool} {lim:Nat} {E:Nat->Env} {H:Nat->AH} {V':Nat->V}
theorem NZ (hm : B3 P tp) (tr : Trace tp C ts bar lim E H V') (k : CP P n ts bar lim E H V') (hbp : ∀ j t, ts[j]? = some t -> bar j = true -> AS t.o = false) {L : Array Bool} {j : Nat} {o : Oper} {t : TO} (f : Facts P n fl ops ts L j o t) (hpure : AS t.o = true) {c : Nat} (hc : c <= ts.length) {cl : List Nat} (hfa : ∀ {j : Nat} {t : TO}, ts[j]? = some t -> t.o.fl = true -> bar j = false -> AK (E j) t.g = some true -> ∀ c, j < c -> c <= ts.length -> (∀ c', c' < c -> bar c' = true -> (cl.getD c' 0).testBit j = false) -> Ag tp t.o (X.ev (E j)) (H c) = some (V' j, H c)) (hun : ∀ c', c' < c -> bar c' = true -> (cl.getD c' 0).testBit j = false) (hjc : t.o.fl = true -> j < c) {M : Mp} {w : World} {a : Act}
    (g:GInv M0 B w0 n ts E V' (H 0) (H c) (λi=>L.getD i true=true) M w a) {K:Act->World->Prop} (hK:∀ a' w',GInv M0 B w0 n ts E V' (H 0) (H c) (λi=>L.getD i true=true\/i=j) M w' a'->K a' w'):wpOp P ops Q j K a w:=by
 have hlook:=g.look tr f.ht f.hS f.d1 f.d2;obtain ⟨⟨ro,hcc,hdr,hrr⟩,hg,hd,hdk,hlt⟩:=C3 f.hc;have hjl:j<ts.length:=(List.getElem?_eq_some_iff.1 f.ht).1;have hwant:∀ {b:Bool},AK (E j) t.g=some b->Region.wanted o (yielded ops a.tmps)=b:=λhw=>Dx (P:=P) (M:=M) (h:=H c) f.hc (λs x hs=>hlook s (by simp [TO.slots,hs])) g.size hw;unfold wpOp;simp only [f.ho];rcases tr.step j t f.ht with ⟨hw,hv,hH⟩ | hst
 .rw [hwant hw];simp only [Bool.false_eq_true,if_false];refine hK _ _ ?_;rw [<- hd];exact g.step f.ht f.hS (by rw [hd];exact hdk) f.d3 g.sim (λhv=>hv) (by rw [hv];exact .tup _ _ .nil) g.gmap (Below.refl B w)
 .by_cases hb:bar j=true
  .have:=hbp j t f.ht hb;rw [hpure] at this;cases this
  .rw [if_neg hb] at hst;rcases hst with ⟨hw,hp,hal,hq,hH⟩ | ⟨hw,hp,q,hq,hH⟩
   .rw [hwant hw];simp only [if_true];left;have hq2:Ag tp t.o (X.ev (E j)) (H c)=some (V' j,H c):=by
     cases hfl:t.o.fl with
     | true=>exact hfa f.ht hfl (by simpa using hb) hw c (hjc hfl) hc hun
     | false=>exact cS (h2:=H c) hfl hp hal hq (aZh k om hc)
    have hcall:A3 tp C t.o (X.ev (Mk (E j) t)) (H c)=some (V' j,H c):=by
     rw [Hm t.o (Hq (E j) t)];have:A3 tp C t.o (X.ev (E j)) (H c)=Ag tp t.o (X.ev (E j)) (H c):=by
      cases ht:t.o<;>rw [ht] at hp<;>simp [AS] at hp<;>rfl
     rw [this];exact hq2
    have hdo:Ag tp t.o (X.ev (Mk (E j) t)) (H c)=some (V' j,H c):=by
     have:A3 tp C t.o (X.ev (Mk (E j) t)) (H c)=Ag tp t.o (X.ev (Mk (E j) t)) (H c):=by
      cases ht:t.o<;>rw [ht] at hp<;>simp [AS] at hp<;>rfl
     rw [<- this];exact hcall
    obtain ⟨x,w',M',hrun,hdone⟩:=HW (H7 hlook) g.sim trivial hm hcc ((hdr _ _ _).symm.trans hdo);have key:=g.pure_step (ops:=ops) (o:=o) f.ht f.hS (by rw [hd];exact hdk) f.d3 hdone;unfold Oper.wp;rcases hrun with hrun | ⟨hrun,rfl⟩
    .rw [hrun];simp only [Oper.upon_value];rw [<- hd];exact hK _ _ key
    .rw [hrun];simp only [Oper.upon_skip];rw [<- hd];exact hK _ _ key
   .rw [hpure] at hp;cases hp
theorem NP (hm:B3 P tp) (tr:Trace tp C ts bar lim E H V') (k:CP P n ts bar lim E H V') (hp:Hh (E9 ops.toList) ts=true) (hst:∀ c,bar c=true->∀ j t,j<c->ts[j]?=some t->bar j=false->C2 (E9 ops.toList) bar 0 c (0+j) t->HA (E (c+1)) (H (c+1)) t)
    {L:Array Bool} {j:Nat} {o:Oper} {t:TO} (f:Facts P n fl ops ts L j o t) (hl:BE t=true) (hb:bar j=false) {c:Nat} (hjc:j<c) (hc:c<=ts.length) (hun:∀ c',c'<c->bar c'=true->((E9 ops.toList).getD c' 0).testBit j=false) {M:Mp} {w:World} {a:Act}
    (g:GInv M0 B w0 n ts E V' (H 0) (H c) (λi=>L.getD i true=true) M w a) (hno:M (H j).next=none) {K:Act->World->Prop}
    (hK:∀ M2 a' w',GInv M0 B w0 n ts E V' (H 0) (H c) (λi=>L.getD i true=true\/i=j) M2 w' a'->(∀ i,i≠(H j).next->M2 i=M i)->K a' w'):wpOp P ops Q j K a w:=by
 have hlook:=g.look tr f.ht f.hS f.d1 f.d2;obtain ⟨⟨ro,hcc,hdr,hrr⟩,hg,hd,hdk,hlt⟩:=C3 f.hc;obtain ⟨ff,sz,r,F⟩:=FI tr f.ht hl hb;have hget:=Ky tr k (Et hp) hst f.ht hl hb F c hjc hc hun;have hwt:AK (E j) t.g=some true:=by
  simp only [BE,Bool.and_eq_true,Option.isNone_iff_eq_none] at hl;rw [hl.1.2];rfl
 have hwant:Region.wanted o (yielded ops a.tmps)=true:=Dx (P:=P) (M:=M) (h:=H c) f.hc (λs x hs=>hlook s (by simp [TO.slots,hs])) g.size hwt;have hdo:=F.doo tp (Mk (E j) t) (H c);unfold wpOp;simp only [f.ho];rw [hwant];simp only [if_true];left;obtain ⟨x,w',M',hrun,hdone⟩:=HW (H7 hlook) g.sim trivial hm hcc ((hdr _ _ _).symm.trans hdo);obtain ⟨M2,g2,h2,_⟩:=g.late f.ht f.hS (by rw [hd];exact hdk) f.d3 F.shape hget hno (k.next 0 j (Nat.zero_le _) om) F.val (λel row hr c' v hv=>(UQ tr k (Et hp) f.ht hl F el row hr c' v hv).mono (k.next (j+1) c om hc)) hdone;unfold Oper.wp;rcases hrun with hrun | ⟨hrun,rfl⟩
 .rw [hrun];simp only [Oper.upon_value];rw [<- hd];exact hK M2 _ _ g2 h2
 .rw [hrun];simp only [Oper.upon_skip];rw [<- hd];exact hK M2 _ _ g2 h2
def L9 (ts:List TO) (H:Nat->AH) (s:Nat) (L:Array Bool) (M:Mp):Prop:=∀ i t,i<s->ts[i]?=some t->BE t=true->L.getD i true=false->M (H i).next=none
theorem L9.step {s j:Nat} {L:Array Bool} {M M2:Mp} (h:L9 ts H s L M) (h2:∀ i t,i<s->i≠j->ts[i]?=some t->BE t=true->L.getD i true=false->M2 (H i).next=M (H i).next):L9 ts H s (L.setIfInBounds j true) M2:=by
 intro i t hi ht hl hL;have hne:j≠i:=by
  rintro rfl
  by_cases hj:j<L.size
  .simp [Array.getD_eq_getD_getElem?,hj] at hL
  .simp [Array.getD_eq_getD_getElem?,hj] at hL
 rw [getD_set_ne true hne] at hL;rw [h2 i t hi (Ne.symm hne) ht hl hL];exact h i t hi ht hl hL
theorem L9.same {s j:Nat} {L:Array Bool} {M:Mp} (h:L9 ts H s L M):L9 ts H s (L.setIfInBounds j true) M:=h.step λ_ _ _ _ _ _ _=>rfl
set_option maxHeartbeats 4000000 in
theorem Tg (hC:DW P C) (hS:CZ C) (hm:B3 P tp) (hc:EC P n fl ops ops.toList=some ts) (hE:FB ops=true) (hp:Hh (E9 ops.toList) ts=true) (tr:Trace tp C ts bar lim E H V') (k:CP P n ts bar lim E H V')
    (hbp:∀ j t,ts[j]?=some t->bar j=true->AS t.o=false) (hbl:∀ j t,ts[j]?=some t->bar j=true->t.o.late=false) (hfo:qK ts=true) (hst:∀ c,bar c=true->∀ j t,j<c->ts[j]?=some t->bar j=false->C2 (E9 ops.toList) bar 0 c (0+j) t->HA (E (c+1)) (H (c+1)) t)
    (hQ:∀ M' a' w',Ou M' B w' (H ts.length) (E ts.length) a' n->Goes M0 M' (H 0) (H ts.length)->Below B w0 w'->Q .normal a' w'):∀ (segs:List (Bool×List TO)) (s:Nat),(segs.map (·.2)).flatten=ts.drop s->Fe (E9 ops.toList) ts s segs=true->s<=ts.length->(∀ i,bar (s+i)=Bt segs i) ->
    ∀ (fuel:Nat) (L:Array Bool) (M:Mp) (w:World) (a:Act),L.size=ops.size->(∀ i t,ts[i]?=some t->AS t.o=false->BE t=false->i<s->L.getD i true=true)->(∀ i t,ts[i]?=some t->AS t.o=false->s<=i->L.getD i true=false)->L9 ts H s L M->DR ops L->iB ops.size L=fuel ->
    GInv M0 B w0 n ts E V' (H 0) (H s) (λi=>L.getD i true=true) M w a->wpAny P .any ops Q fuel L a w:=by
 have hlen:ops.size=ts.length:=by have:=(ED hc).1;simpa using this
 have hfa:∀ {j:Nat} {t:TO},ts[j]?=some t->t.o.fl=true->bar j=false->AK (E j) t.g=some true->∀ c,j<c->c<=ts.length->(∀ c',c'<c->bar c'=true->((E9 ops.toList).getD c' 0).testBit j=false)->Ag tp t.o (X.ev (E j)) (H c)=some (V' j,H c):=λht hfl hb hw=>aMe tr k (Et hp) hfo hst ht hfl hb hw
 -- if nothing is ready all is done
 have noReady:∀ (L:Array Bool),L.size=ops.size->Region.ready .any ops L=[]->∀ i,i<ops.size->L.getD i true=true:=by
  intro L hLs h0;have aux:∀ c,c<=ops.size->∀ j,j<c->L.getD j true=true:=by
   intro c
   induction c with
   | zero=>intro _ j hj;omega
   | succ c ih=>
    intro hcs j hj;rcases Nat.lt_succ_iff_lt_or_eq.1 hj with h1 | h1
    .exact ih om j h1
    .subst h1
     cases hb:L.getD j true with
     | true=>rfl
     | false=>
      have:=Pv hE hLs om hb (ih om);rw [h0] at this;simp at this
  exact λi hi=>aux ops.size (Nat.le_refl _) i hi
 -- the end
 have fin:∀ (L:Array Bool) (M:Mp) (w:World) (a:Act),(∀ i,i<ops.size->L.getD i true=true)->GInv M0 B w0 n ts E V' (H 0) (H ts.length) (λi=>L.getD i true=true) M w a->Q .normal a w:=by
  intro L M w a hall g;refine hQ M a w ⟨g.sim,λt=>?_,g.size,g.defers⟩ ⟨⟨k.next 0 _ (Nat.zero_le _) (Nat.le_refl _),λid hid hl=>?_,g.gmap⟩, ?_,λid hid=>?_⟩ g.below
  .rcases tr.slot t ts.length (Nat.le_refl _) with ⟨i,o,hi,ho,hod,hv⟩ | ⟨hno,hv⟩
   .rw [hv];exact g.env2 i o ho (hall i om) t hod
   .rw [hv];exact g.env1 t (λi o ho hod _=>hno i o (List.getElem?_eq_some_iff.1 ho).1 ho hod)
  .obtain ⟨q,hq⟩:=Option.ne_none_iff_exists'.1 hl;obtain ⟨q2,hq2,_⟩:=(k.steadies 0 ts.length (Nat.zero_le _) (Nat.le_refl _)).2.2 id q hid hq;simp [AH.live,hq2]
  .rw [k.lim _ (Nat.le_refl _),k.lim 0 (Nat.zero_le _)]
  .exact k.lows _ (Nat.le_refl _) id (by rw [<- k.lim 0 (Nat.zero_le _)];exact hid)
 -- what a step does to the list
 have after:∀ {L:Array Bool} {j:Nat} {o:Oper} {t:TO},Facts P n fl ops ts L j o t->L.size=ops.size->DR ops L->(L.setIfInBounds j true).size=ops.size/\DR ops (L.setIfInBounds j true)/\(∀ m,iB ops.size L=m+1->iB ops.size (L.setIfInBounds j true)=m)/\(∃ m,iB ops.size L=m+1)/\j<L.size:=by
  intro L j o t f hLs hLc;have hjl:=(Array.getElem?_eq_some_iff.1 f.ho).1
  have hif:L.getD j true=false:=by cases hb:L.getD j true with
   | true=>exact absurd hb f.hS
   | false=>rfl
  have hu:=zL hjl hLs hif;exact ⟨by simpa using hLs,hLc.set f.ho f.dir,λm hm=>by omega,⟨_,hu.symm⟩,om⟩
 have unlisted:∀ {L:Array Bool} {j:Nat} {o:Oper} {t:TO},Facts P n fl ops ts L j o t->L.getD j true=false:=λ{L j o t} f=>by
  cases hb:L.getD j true with
  | true=>exact absurd hb f.hS
  | false=>rfl
 have nobar:∀ {j:Nat} {t:TO},ts[j]?=some t->BE t=true->bar j=false:=λ{j t} ht hl=>by
  cases hb:bar j with
  | false=>rfl
  | true=>
   have:=hbl j t ht hb;simp only [BE,Bool.and_eq_true] at hl;rw [this] at hl;cases hl.1.1
 have lateNext:∀ {j:Nat} {t:TO},ts[j]?=some t->BE t=true->(H (j+1)).next=(H j).next+1:=λ{j t} ht hl=>by
  obtain ⟨ff,sz,r,F⟩:=FI tr ht hl (nobar ht hl);exact F.next
 have lateNe:∀ {j i:Nat} {t u:TO},ts[j]?=some t->BE t=true->ts[i]?=some u->BE u=true->i≠j->(H i).next≠(H j).next:=λ{j i t u} ht hl hu hl2 hne=>by
  have a1:=lateNext ht hl;have a2:=lateNext hu hl2;have c1:=(List.getElem?_eq_some_iff.1 ht).1;have c2:=(List.getElem?_eq_some_iff.1 hu).1;rcases Nat.lt_or_gt_of_ne hne with h | h
  .have:=k.next (i+1) j om om;omega
  .have:=k.next (j+1) i om om;omega
 have latePure:∀ {t:TO},BE t=true->AS t.o=false:=λ{t} hl=>by
  simp only [BE,Bool.and_eq_true] at hl;have:=hl.1.1;cases ho:t.o<;>rw [ho] at this<;>simp [O.late] at this
  all_goals rfl
 have hang:∀ {L:Array Bool},L.size=ops.size->DR ops L->∀ {c' j:Nat},c'<ts.length->L.getD c' true=true->L.getD j true=false->((E9 ops.toList).getD c' 0).testBit j=false:=λ{L} hLs hLc {c' j} hc' hd hj=>by
  cases hb:((E9 ops.toList).getD c' 0).testBit j with
  | false=>rfl
  | true=>
   have hc2:c'<ops.size:=by omega
   have ho:ops[c']?=some ops[c']:=Array.getElem?_eq_getElem hc2;have hd2:L.getD c' false=true:=by rw [CT om];exact hd
   have:=Gu hLc c' j _ ho (λe he hbi=>hLc c' _ ho hd2 e he hbi) hb;rw [GV hj] at this;cases this
 have hungs:∀ {L:Array Bool} {s:Nat},L.size=ops.size->DR ops L->(∀ i t,ts[i]?=some t->AS t.o=false->BE t=false->i<s->L.getD i true=true)->s<=ts.length->∀ {j:Nat},L.getD j true=false->∀ c',c'<s->bar c'=true->((E9 ops.toList).getD c' 0).testBit j=false:=λ{L s} hLs hLc hLt hs {j} hj c' hc' hb=>by
  have ht:ts[c']?=some ts[c']:=List.getElem?_eq_getElem om;exact hang hLs hLc om (hLt c' _ ht (hbp c' _ ht hb) (by simp only [BE,hbl c' _ ht hb,Bool.false_and]) hc') hj
 intro segs
 induction segs with
 | nil=>
  intro s hfl hok hso hbar fuel;have hs:s=ts.length:=by
   have:=congrArg List.length hfl;simp at this;omega
  subst hs
  induction fuel with
  | zero=>
   intro L M w a hLs hLt hLf hLi hLc hfuel g;have hall:=L1 hfuel;refine ⟨?_,fin L M w a hall g⟩;apply List.eq_nil_iff_forall_not_mem.2;intro i hi;obtain ⟨h1,o,ho,_⟩:=mem_ready.1 hi;rw [hall i (Array.getElem?_eq_some_iff.1 ho).1] at h1;cases h1
  | succ fuel ihf=>
   intro L M w a hLs hLt hLf hLi hLc hfuel g;refine ⟨λh0=>fin L M w a (noReady L hLs h0) g,λi hi=>?_⟩;obtain ⟨o,t,f⟩:=Kd hc hp hLs hLc hi;obtain ⟨b1,b2,b3,_,b5⟩:=after f hLs hLc;have hil:=(List.getElem?_eq_some_iff.1 f.ht).1
   cases hlt:BE t with
   | true=>
    refine NP hm tr k hp hst f hlt (nobar f.ht hlt) hil (Nat.le_refl _) (hungs hLs hLc hLt (Nat.le_refl _) (unlisted f)) g (hLi i t hil f.ht hlt (unlisted f)) (λM2 a' w' g' h2=>?_);refine ihf _ M2 w' a' b1 (λi' t' ht' hnp hnl hi'=>?_) (λi' t' ht' hnp hi'=>?_) (hLi.step λi' t' hi' hne ht' hl' _=>h2 _ (lateNe f.ht hlt ht' hl' hne)) b2 (b3 fuel hfuel) (g'.congr (A5 b5))
    .exact (A5 b5 i').1 (.inl (hLt i' t' ht' hnp hnl hi'))
    .have:=(List.getElem?_eq_some_iff.1 ht').1;omega
   | false=>
   have hpure:AS t.o=true:=by
    cases hb:AS t.o with
    | true=>rfl
    | false=>exact absurd (hLt i t f.ht hb hlt hil) f.hS
   refine NZ hm tr k hbp f hpure (Nat.le_refl _) hfa (hungs hLs hLc hLt (Nat.le_refl _) (unlisted f)) (λ_=>(List.getElem?_eq_some_iff.1 f.ht).1) g (λa' w' g'=>?_);refine ihf _ M w' a' b1 (λi' t' ht' hnp hnl hi'=>?_) (λi' t' ht' hnp hi'=>?_) hLi.same b2 (b3 fuel hfuel) (g'.congr (A5 b5))
   .exact (A5 b5 i').1 (.inl (hLt i' t' ht' hnp hnl hi'))
   .have:=(List.getElem?_eq_some_iff.1 ht').1;omega
 | cons sg segs ih=>
  intro s hfl hok hso hbar;obtain ⟨qt,l⟩:=sg;simp only [Fe,Bool.and_eq_true] at hok;obtain ⟨⟨hahead,hone⟩,hok⟩:=hok;simp only [List.map_cons,List.flatten_cons] at hfl;have hfl':(segs.map (·.2)).flatten=ts.drop (s+l.length):=by
   rw [<- List.drop_drop,<-hfl];simp
  have hlget:∀ (j:Nat) (t:TO),l[j]?=some t->ts[s+j]?=some t:=λj t hj=>by
   rw [<- List.getElem?_drop,<-hfl,List.getElem?_append,if_pos (List.getElem?_eq_some_iff.1 hj).1];exact hj
  have hsl:s+l.length<=ts.length:=by
   have:=congrArg List.length hfl;simp at this;omega
  have hbar':∀ i,bar (s+l.length+i)=Bt segs i:=λi=>by
   have:=hbar (l.length+i);simp only [Bt] at this;rw [if_neg om,show l.length+i - l.length=i by omega] at this;rw [Nat.add_assoc];exact this
  -- whoever looks at the heap and comes behind a place hangs from all that do ahead of it
  have behind:∀ (sg2:List (Bool×List TO)) (s2:Nat),Fe (E9 ops.toList) ts s2 sg2=true->(sg2.map (·.2)).flatten=ts.drop s2->∀ i ti,ts[i]?=some ti->(AS ti.o=false\/ti.o.fl=true)->s2<=i->∀ j tj,ts[j]?=some tj->AS tj.o=false->BE tj=false->j<s2->((E9 ops.toList).getD i 0).testBit j=true:=by
   intro sg2
   induction sg2 with
   | nil=>
    intro s2 _ hf i ti hti _ hi1 j tj htj _ _ hj;have:=congrArg List.length hf;simp at this;have:=(List.getElem?_eq_some_iff.1 hti).1;omega
   | cons sg2 sgs ih2=>
    intro s2 hk hf i ti hti hpi hi1 j tj htj hpj hlj hj;obtain ⟨q2,l2⟩:=sg2;simp only [Fe,Bool.and_eq_true] at hk;obtain ⟨⟨hk1,_⟩,hk3⟩:=hk
    by_cases hin:i<s2+l2.length
    .simp only [T7,List.all_eq_true,Bool.or_eq_true] at hk1;have:=hk1 (i - s2) (by simp;omega);rw [show s2+(i - s2)=i by omega] at this;simp only [Td,aYR,hti] at this;have:=(this.resolve_left (by rcases hpi with hpi | hpi<;>simp [hpi])) j (by simpa using hj);have hla:SX ts j=false:=by simp only [SX,htj];exact hlj
     simp only [htj,hpj,hla,Bool.false_eq_true,false_or] at this;exact this
    .simp only [List.map_cons,List.flatten_cons] at hf;have hf':(sgs.map (·.2)).flatten=ts.drop (s2+l2.length):=by
      rw [<- List.drop_drop,<-hf];simp
     exact ih2 (s2+l2.length) hk3 hf' i ti hti hpi om j tj htj hpj hlj om
  cases qt with
  | false=>
   simp only [Bool.false_or,Bool.and_eq_true,beq_iff_eq] at hone;obtain ⟨t0,rfl⟩:=List.length_eq_one_iff.1 hone.1;have hone2:AS t0.o=false/\t0.o.late=false:=by simpa using hone.2
   have hnp0:=hone2.1;have ht0:ts[s]?=some t0:=hlget 0 t0 rfl;have hslt:=(List.getElem?_eq_some_iff.1 ht0).1;have hbs:bar s=true:=by have:=hbar 0;simpa [Bt] using this
   have hl0:BE t0=false:=by simp only [BE,hbl s t0 ht0 hbs,Bool.false_and]
   intro fuel
   induction fuel with
   | zero=>
    intro L M w a hLs hLt hLf hLi hLc hfuel g;have:=L1 hfuel s om;rw [hLf s t0 ht0 hnp0 (Nat.le_refl _)] at this;cases this
   | succ fuel ihf=>
    intro L M w a hLs hLt hLf hLi hLc hfuel g;refine ⟨λh0=>(by
     have:=noReady L hLs h0 s om;rw [hLf s t0 ht0 hnp0 (Nat.le_refl _)] at this;cases this),λi hi=>?_⟩
    obtain ⟨o,t,f⟩:=Kd hc hp hLs hLc hi;obtain ⟨b1,b2,b3,_,b5⟩:=after f hLs hLc
    cases hpure:AS t.o with
    | true=>
     refine NZ hm tr k hbp f hpure hso hfa (hungs hLs hLc hLt hso (unlisted f)) (λhfl=>?_) g (λa' w' g'=>?_)
     .rcases Nat.lt_trichotomy i s with h1 | h1 | h1
      .exact h1
      .subst h1;rw [f.ht] at ht0;simp only [Option.some.injEq] at ht0;rw [<- ht0,hpure] at hnp0;cases hnp0
      .have hb:=behind segs (s+1) (by simpa using hok) (by simpa using hfl') i t f.ht (.inr hfl) om s t0 ht0 hnp0 hl0 om;have:=f.anc s hb om;rw [hLf s t0 ht0 hnp0 (Nat.le_refl _)] at this;cases this
     refine ihf _ M w' a' b1 (λi' t' ht' hnp hnl hi'=>(A5 b5 i').1 (.inl (hLt i' t' ht' hnp hnl hi'))) (λi' t' ht' hnp hi'=>?_) hLi.same b2 (b3 fuel hfuel) (g'.congr (A5 b5));have hne:i≠i':=λhh=>by
      subst hh;rw [f.ht] at ht';simp only [Option.some.injEq] at ht';rw [<- ht',hpure] at hnp;cases hnp
     rw [getD_set_ne true hne];exact hLf i' t' ht' hnp hi'
    | false=>
     by_cases hlate:BE t=true/\i<s
     .refine NP hm tr k hp hst f hlate.1 (nobar f.ht hlate.1) hlate.2 hso (hungs hLs hLc hLt hso (unlisted f)) g (hLi i t hlate.2 f.ht hlate.1 (unlisted f)) (λM2 a' w' g' h2=>?_);refine ihf _ M2 w' a' b1 (λi' t' ht' hnp hnl hi'=>(A5 b5 i').1 (.inl (hLt i' t' ht' hnp hnl hi'))) (λi' t' ht' hnp hi'=>?_) (hLi.step λi' t' hi' hne ht' hl' _=>h2 _ (lateNe f.ht hlate.1 ht' hl' hne)) b2 (b3 fuel hfuel) (g'.congr (A5 b5));rw [getD_set_ne true om];exact hLf i' t' ht' hnp hi'
     have his:i=s:=by
      rcases Nat.lt_trichotomy i s with h1 | h1 | h1
      .exact absurd (hLt i t f.ht hpure (by cases hb:BE t with | false=>rfl | true=>exact absurd ⟨hb,h1⟩ hlate) h1) f.hS
      .exact h1
      .have hb:=behind segs (s+1) (by simpa using hok) (by simpa using hfl') i t f.ht (.inl hpure) om s t0 ht0 hnp0 hl0 om;have:=f.anc s hb om;rw [hLf s t0 ht0 hnp0 (Nat.le_refl _)] at this;cases this
     subst his;have htt:t=t0:=by have:=f.ht;rw [ht0] at this;simpa using this.symm
     subst htt;have hlook:=g.look tr f.ht f.hS f.d1 f.d2;obtain ⟨⟨ro,hcc,hdr,hrr⟩,hgg,hd,hdk,hlt⟩:=C3 f.hc;have hwant:∀ {b:Bool},AK (E i) t.g=some b->Region.wanted o (yielded ops a.tmps)=b:=λhw=>Dx (P:=P) (M:=M) (h:=H i) f.hc (λs x hs=>hlook s (by simp [TO.slots,hs])) g.size hw;have goOn:∀ (M2:Mp) (w2:World) (a2:Act),GInv M0 B w0 n ts E V' (H 0) (H (i+1)) (λk=>L.getD k true=true\/k=i) M2 w2 a2->(∀ p u,p<i->ts[p]?=some u->BE u=true->L.getD p true=false->M2 (H p).next=M (H p).next)->wpAny P .any ops Q fuel (L.setIfInBounds i true) a2 w2:=λM2 w2 a2 g2 hM2=>by
      refine ih (i+1) (by simpa using hfl') (by simpa using hok) om (by simpa using hbar') fuel _ M2 w2 a2 b1 (λi' t' ht' hnp hnl hi'=>?_) (λi' t' ht' hnp hi'=>?_) (λi' t' hi' ht' hl' hL'=>?_) b2 (b3 fuel hfuel) (g2.congr (A5 b5))
      rotate_left 2
      .have hne:i'≠i:=by rintro rfl;rw [ht0] at ht';simp only [Option.some.injEq] at ht';rw [<- ht',hl0] at hl';cases hl'
       rw [getD_set_ne true (Ne.symm hne)] at hL';rw [hM2 i' t' om ht' hl' hL'];exact hLi i' t' om ht' hl' hL'
      .rcases Nat.lt_succ_iff_lt_or_eq.1 hi' with h1 | h1
       .exact (A5 b5 i').1 (.inl (hLt i' t' ht' hnp hnl h1))
       .exact (A5 b5 i').1 (.inr h1)
      .rw [getD_set_ne true om];exact hLf i' t' ht' hnp om
     unfold wpOp;simp only [f.ho];rcases tr.step i t f.ht with ⟨hw,hv,hH⟩ | hst
     .rw [hwant hw];simp only [Bool.false_eq_true,if_false];refine goOn M w _ ?_ (λ_ _ _ _ _ _=>rfl);rw [<- hd,hH];exact g.step f.ht f.hS (by rw [hd];exact hdk) f.d3 g.sim (λhv=>hv) (by rw [hv];exact .tup _ _ .nil) g.gmap (Below.refl B w)
     .rw [if_pos hbs] at hst;obtain ⟨hw,hq⟩:=hst;rw [hwant hw];simp only [if_true];left;refine FN hC hm (H7 hlook) g.sim hcc (by rw [<- hrr,Hm t.o (Hq (E i) t)];exact hq) (λx w' M' hdone=>?_);refine goOn M' w' _ ?_ (λp u hpi hu hlu hLp=>by
       obtain ⟨ff,sz,r,F⟩:=FI tr hu hlu (nobar hu hlu);have h1:=Ky tr k (Et hp) hst hu hlu (nobar hu hlu) F (i+1) om om (λc' hc' hb'=>by
        rcases Nat.lt_succ_iff_lt_or_eq.1 hc' with h5 | h5
        .exact hungs hLs hLc hLt hso hLp c' h5 hb'
        .subst h5
         cases hbt:((E9 ops.toList).getD c' 0).testBit p with
         | false=>rfl
         | true=>
          have:=Gu hLc c' p _ f.ho (λe he hbi=>f.dir e (by simpa using he) hbi) hbt;rw [GV hLp] at this;cases this)
       have h2:=k.next (p+1) i om om;have h3:=F.next;exact hdone.goes.keeps.map _ om (by simp [AH.live,h1]))
      rw [<- hd];refine g.step f.ht f.hS (by rw [hd];exact hdk) f.d3 hdone.sim (λhv=>hv.keep hdone.goes.keeps) hdone.val (λid hid hl=>?_) hdone.below;have hid':id<(H i).next:=Nat.lt_of_lt_of_le hid (k.next 0 i (Nat.zero_le _) om);exact (hdone.goes.keeps.map id hid' hl).trans (g.gmap id hid (hdone.goes.keeps.live id hid' hl))
  | true=>
   have hbf:∀ i,s<=i->i<s+l.length->bar i=false:=λi h1 h2=>by
    have:=hbar (i - s);simp only [Bt] at this;rw [if_pos om,show s+(i - s)=i by omega] at this;simpa using this
   have inner : ∀ (fuel : Nat) (L : Array Bool) (M : Mp) (w : World) (a : Act), L.size = ops.size -> (∀ i t, ts[i]? = some t -> AS t.o = false -> BE t = false -> i < s -> L.getD i true = true) -> (∀ i t, ts[i]? = some t -> AS t.o = false -> s + l.length <= i -> L.getD i true = false) -> L9 ts H s L M -> DR ops L -> iB ops.size L = fuel ->
       GInv M0 B w0 n ts E V' (H 0) (H (s+l.length)) (λi=>L.getD i true=true) M w a->FW ts H s (s+l.length) (λi=>L.getD i true=true) M->wpAny P .any ops Q fuel L a w:=by
    have endL:∀ (L:Array Bool) (M:Mp),L9 ts H s L M->FW ts H s (s+l.length) (λi=>L.getD i true=true) M->L9 ts H (s+l.length) L M:=λL M hLi q i t hi ht hl hL=>by
     by_cases h1:i<s
     .exact hLi i t h1 ht hl hL
     .have:=lateNext ht hl;exact q.none_ i t om hi ht (latePure hl) (by simp [hL]) _ (Nat.le_refl _) om
    intro fuel
    induction fuel with
    | zero=>
     intro L M w a hLs hLt hLf hLi hLc hfuel g q;have hall:=L1 hfuel;exact ih (s+l.length) hfl' hok hsl hbar' 0 L M w a hLs (λi t ht _ _ _=>hall i (by have:=(List.getElem?_eq_some_iff.1 ht).1;omega)) hLf (endL L M hLi q) hLc hfuel g
    | succ fuel ihf=>
     intro L M w a hLs hLt hLf hLi hLc hfuel g q
     by_cases hall:∀ i t,ts[i]?=some t->AS t.o=false->BE t=false->i<s+l.length->L.getD i true=true
     .exact ih (s+l.length) hfl' hok hsl hbar' (fuel+1) L M w a hLs hall hLf (endL L M hLi q) hLc hfuel g
     .refine ⟨λh0=>absurd (λi t ht _ _ _=>noReady L hLs h0 i (by have:=(List.getElem?_eq_some_iff.1 ht).1;omega)) hall,λi hi=>?_⟩;obtain ⟨o,t,f⟩:=Kd hc hp hLs hLc hi;obtain ⟨b1,b2,b3,_,b5⟩:=after f hLs hLc
      cases hpure:AS t.o with
      | true=>
       refine NZ hm tr k hbp f hpure hsl hfa (λc' hc' hb'=>by
           rcases Nat.lt_or_ge c' s with h5 | h5
           .exact hungs hLs hLc hLt om (unlisted f) c' h5 hb'
           .rw [hbf c' h5 hc'] at hb';cases hb') (λhfl=>?_) g (λa' w' g'=>?_)
       .rcases Nat.lt_or_ge i (s+l.length) with h1 | h1
        .exact h1
        .exfalso;apply hall;intro j tj htj hpj hlj hj;have hb:=behind segs (s+l.length) hok hfl' i t f.ht (.inr hfl) h1 j tj htj hpj hlj hj;exact f.anc j hb (by have:=(List.getElem?_eq_some_iff.1 htj).1;omega)
       refine ihf _ M w' a' b1 (λi' t' ht' hnp hnl hi'=>(A5 b5 i').1 (.inl (hLt i' t' ht' hnp hnl hi'))) (λi' t' ht' hnp hi'=>?_) hLi.same b2 (b3 fuel hfuel) (g'.congr (A5 b5)) ((q.more (j:=i)).congr (A5 b5));have hne:i≠i':=λhh=>by
        subst hh;rw [f.ht] at ht';simp only [Option.some.injEq] at ht';rw [<- ht',hpure] at hnp;cases hnp
       rw [getD_set_ne true hne];exact hLf i' t' ht' hnp hi'
      | false=>
       by_cases hlate:BE t=true/\i<s
       .have hunq:∀ c',c'<s+l.length->bar c'=true->((E9 ops.toList).getD c' 0).testBit i=false:=λc' hc' hb'=>by
         rcases Nat.lt_or_ge c' s with h5 | h5
         .exact hungs hLs hLc hLt om (unlisted f) c' h5 hb'
         .rw [hbf c' h5 hc'] at hb';cases hb'
        refine NP hm tr k hp hst f hlate.1 (nobar f.ht hlate.1) om hsl hunq g (hLi i t hlate.2 f.ht hlate.1 (unlisted f)) (λM2 a' w' g' h2=>?_);obtain ⟨ff,sz,r,F⟩:=FI tr f.ht hlate.1 (nobar f.ht hlate.1);have hget:=Ky tr k (Et hp) hst f.ht hlate.1 (nobar f.ht hlate.1) F (s+l.length) om hsl hunq;have q2:=q.late k hsl hlate.2 F.next hget (UQ tr k (Et hp) f.ht hlate.1 F) h2;refine ihf _ M2 w' a' b1 (λi' t' ht' hnp hnl hi'=>(A5 b5 i').1 (.inl (hLt i' t' ht' hnp hnl hi'))) (λi' t' ht' hnp hi'=>?_) (hLi.step λi' t' hi' hne ht' hl' _=>h2 _ (lateNe f.ht hlate.1 ht' hl' hne)) b2 (b3 fuel hfuel) (g'.congr (A5 b5)) (q2.congr (A5 b5));rw [getD_set_ne true om];exact hLf i' t' ht' hnp hi'
       have his:s<=i:=by
        rcases Nat.lt_or_ge i s with h1 | h1
        .exact absurd (hLt i t f.ht hpure (by cases hb:BE t with | false=>rfl | true=>exact absurd ⟨hb,h1⟩ hlate) h1) f.hS
        .exact h1
       have hil:i<s+l.length:=by
        rcases Nat.lt_or_ge i (s+l.length) with h1 | h1
        .exact h1
        .exfalso;apply hall;intro j tj htj hpj hlj hj;have hb:=behind segs (s+l.length) hok hfl' i t f.ht (.inl hpure) h1 j tj htj hpj hlj hj;exact f.anc j hb (by have:=(List.getElem?_eq_some_iff.1 htj).1;omega)
       have hlook:=g.look tr f.ht f.hS f.d1 f.d2;obtain ⟨⟨ro,hcc,hdr,hrr⟩,hgg,hd,hdk,hlt⟩:=C3 f.hc;have hwant:∀ {b:Bool},AK (E i) t.g=some b->Region.wanted o (yielded ops a.tmps)=b:=λhw=>Dx (P:=P) (M:=M) (h:=H (s+l.length)) f.hc (λs x hs=>hlook s (by simp [TO.slots,hs])) g.size hw;have goOn:∀ (M2:Mp) (w2:World) (a2:Act),GInv M0 B w0 n ts E V' (H 0) (H (s+l.length)) (λk=>L.getD k true=true\/k=i) M2 w2 a2->FW ts H s (s+l.length) (λk=>L.getD k true=true\/k=i) M2->(∀ p u,p<s->ts[p]?=some u->BE u=true->M2 (H p).next=M (H p).next)->wpAny P .any ops Q fuel (L.setIfInBounds i true) a2 w2:=λM2 w2 a2 g2 q2 hM2=>by
        refine ihf _ M2 w2 a2 b1 (λi' t' ht' hnp hnl hi'=>(A5 b5 i').1 (.inl (hLt i' t' ht' hnp hnl hi'))) (λi' t' ht' hnp hi'=>?_) (hLi.step λi' t' hi' _ ht' hl' _=>hM2 i' t' hi' ht' hl') b2 (b3 fuel hfuel) (g2.congr (A5 b5)) (q2.congr (A5 b5));rw [getD_set_ne true om];exact hLf i' t' ht' hnp hi'
       unfold wpOp;simp only [f.ho];rcases tr.step i t f.ht with ⟨hw,hv,hH⟩ | hst
       .rw [hwant hw];simp only [Bool.false_eq_true,if_false];refine goOn M w _ ?_ q.more (λ_ _ _ _ _=>rfl);rw [<- hd];exact g.step f.ht f.hS (by rw [hd];exact hdk) f.d3 g.sim (λhv=>hv) (by rw [hv];exact .tup _ _ .nil) g.gmap (Below.refl B w)
       .rw [if_neg (by rw [hbf i his hil];simp)] at hst;rcases hst with ⟨hw,hpp,_⟩ | ⟨hw,hpp,qq,hq,hH⟩
        .rw [hpure] at hpp;cases hpp
        .rw [hwant hw];simp only [if_true];left;have hsj:=q.down k hbf hsl g.sim (j:=i) his om;have m2:=k.gets hbf hsl i (s+l.length) his om (Nat.le_refl _);have hlook':∀ sl∈t.slots,VR M (H i) (E i sl) (a.tmps.getD sl undef):=λsl hsl'=>
          (hlook sl hsl').move (N:=(H i).next) (Nat.le_refl _) (λid hid hl=>⟨by rw [AH.live,m2 id hid];exact hl,rfl⟩) (tP tr k om sl)
         refine FN hC hm (H7 hlook').raise hsj.raise hcc (by rw [<- hrr,Hm t.o (Hq (E i) t)];exact hq) (λx w' M' hdone=>?_);obtain ⟨M2,g2,q2,hM2⟩:=q.put k hbf hsl g his hil f.ht hpure f.hS (by rw [hd];exact hdk) f.d3 hH hdone;rw [<- hd];exact goOn M2 w' _ g2 q2 (λp u hps hu hlu=>hM2 _ (λhh=>by
          have h1:=lateNext hu hlu;have h2:=k.next (p+1) i om om;omega))
   intro fuel L M w a hLs hLt hLf hLi hLc hfuel g;obtain ⟨M1,g1,q1,hM1⟩:=g.enter k hbf (Nat.le_add_right _ _) hsl;exact inner fuel L M1 w a hLs hLt (λi t ht hnp hi=>hLf i t ht hnp om) (λi t hi ht hl hL=>hM1 _ (hLi i t hi ht hl hL)) hLc hfuel g1 q1
end
end
end Go.Ab
/- Code, functions, the whole: what the abstract machine answers the model's machine answers. -/
namespace Go.Ab
open Go Go.RowKit
section
variable {P:Program}
theorem W2 {c : Code} {Q : Exit -> Act -> World -> Prop} {a : Act} {w : World} (J : Nat -> Act -> World -> Prop) (n : Nat) (h0 : J n a w)
    (round:∀ n a w,J n a w->c.wp P (Exit.then (λa' w'=>∃ m,m<n/\J m a' w') Q) a w):(Code.loop c).wp P Q a w:=by
 intro b k cs;have key:∀ n a w,J n a w->∃ e a' w',Q e a' w'/\Arrives P (lone (b.at a (.code c::.inLoop c::k)) cs w) b k cs e a' w':=by
  intro n
  induction n using Nat.strongRecOn with
  | _ n ih=>
   intro a w hI;obtain ⟨e,a₁,w₁,hq,harr⟩:=round n a w hI b (.inLoop c::k) cs
   cases e with
   | normal=>
    obtain ⟨m,hlt,hI₁⟩:=hq;obtain ⟨e₂,a₂,w₂,hq₂,harr₂⟩:=ih m hlt a₁ w₁ hI₁;exact ⟨e₂,a₂,w₂,hq₂,.of_steps (Steps.trans harr (.one step_inLoop)) harr₂⟩
   | exit id=>exact ⟨_,a₁,w₁,hq,.pass (x:=.inLoop c) rfl (λ_ _=>.inl (by simp)) harr⟩
   | goto l=>exact ⟨_,a₁,w₁,hq,.pass (x:=.inLoop c) rfl (λ_ _=>.inl (by simp)) harr⟩
   | ret=>exact ⟨_,a₁,w₁,hq,.pass (x:=.inLoop c) rfl (λ_ _=>.inl (by simp)) harr⟩
   | panic ch=>exact ⟨_,a₁,w₁,hq,.pass (x:=.inLoop c) rfl (λ_ _=>.inl (by simp)) harr⟩
   | outgrown=>exact ⟨_,a₁,w₁,hq,.pass (x:=.inLoop c) rfl (λ_ _=>.inl (by simp)) harr⟩
 obtain ⟨e,a',w',hq,harr⟩:=key n a w h0;exact ⟨e,a',w',hq,.of_steps (.one step_loop) harr⟩
def Ex.real:Ex->Exit
 | .nm=>.normal
 | .ex id=>.exit id
 | .rt=>.ret
def Ends (M:Mp) (B:Nat) (w:World) (h:AH) (n:Nat) (z:Ex×Env×AH) (Q:Exit->Act->World->Prop):Prop:=
 ∀ M' a' w',Ou M' B w' z.2.2 z.2.1 a' n->Goes M M' h z.2.2->Below B w w'->Q z.1.real a' w'
theorem MT {cl:List Nat} {ts:List TO}:∀ (segs:List (Bool×List TO)) (s:Nat),Fe cl ts s segs=true->∀ p∈segs,p.1=true\/p.2.length=1
 | [],_,_,p,hp=>by simp at hp
 | (q,l)::r,s,h,p,hp=>by
  simp only [Fe,Bool.and_eq_true,Bool.or_eq_true,beq_iff_eq] at h;rcases List.mem_cons.1 hp with rfl | hp
  .rcases h.1.2 with h | h
   .exact .inl h
   .exact .inr h.1
  .exact MT r _ h.2 p hp
theorem KT {cl:List Nat} {ts:List TO}:∀ (segs:List (Bool×List TO)) (s:Nat),Fe cl ts s segs=true->∀ (j:Nat) (t:TO),(segs.map (·.2)).flatten[j]?=some t->Bt segs j=true->AS t.o=false/\t.o.late=false
 | [],_,_,j,t,ht,_=>by simp at ht
 | (q,l)::r,s,h,j,t,ht,hb=>by
  simp only [Fe,Bool.and_eq_true,Bool.or_eq_true,beq_iff_eq] at h;simp only [Bt] at hb;simp only [List.map_cons,List.flatten_cons] at ht;split at hb
  .rename_i hj;rw [List.getElem?_append_left hj] at ht;rcases h.1.2 with hq | hq
   .simp [hq] at hb
   .have:=List.all_eq_true.1 hq.2 t (List.mem_of_getElem? ht);simpa using this
  .rename_i hj;rw [List.getElem?_append_right om] at ht;exact KT r _ h.2 (j - l.length) t ht hb
theorem Y2 {C : A4} {tp : TP} {wr : Wr} (hC : DW P C) (hS : CZ C) (hm : B3 P tp) {n : Nat} {fl : List Nat} {ops : Array Oper} {segs : List (Bool × List TO)} {M : Mp} {B : Nat} {w : World} {h : AH} {e : Env} {a : Act} {y : Env × AH} {Q : Exit -> Act -> World -> Prop}
    (hc:Di P wr n fl ops=some (.dreg segs)) (hy:B5 tp C segs e h=some y) (hr:Ou M B w h e a n) (hQ:∀ M' a' w',Ou M' B w' y.2 y.1 a' n->Goes M M' h y.2->Below B w w'->Q .normal a' w'):
    wpAny P .any ops Q ops.size (Array.replicate ops.size false) a { w with drawn:=w.drawn+1 }:=by
 unfold Di at hc;obtain ⟨ts,hts,hc⟩:=bind_some hc;simp only at hc;split at hc
 case isFalse=>simp at hc
 rename_i hok;simp only [Option.some.injEq,TC.dreg.injEq] at hc;subst hc;simp only [Bool.and_eq_true,beq_iff_eq] at hok;obtain ⟨⟨⟨⟨h1,h2⟩,h2'⟩,hfo⟩,h3⟩:=hok;have hfl:((Gf (jB wr ops) (ops.toList.zip ts)).map (·.2)).flatten=ts:=by
  rw [Jn,List.map_snd_zip (by simp [h3])]
 obtain ⟨E,H,V',tr,hE0,hH0,hE1,hH1,hstab⟩:=Hr hS h.lim (E9 ops.toList) (Gf (jB wr ops) (ops.toList.zip ts)) 0 [] e y.1 h y.2 rfl (MT _ _ h1) hy;rw [hfl] at tr hE1 hH1 hstab;have hr':Ou M B { w with drawn:=w.drawn+1 } h e a n:=⟨hr.sim.heap rfl,hr.env,hr.size,hr.defers⟩
 have hr0:Ou M B { w with drawn:=w.drawn+1 } (H 0) (E 0) a n:=by rw [hE0,hH0];exact hr'
 have kn:=bH hC hS hm tr hr0 (by rw [hH0]) (λj t ht=>(by
  have hj:=(List.getElem?_eq_some_iff.1 ht).1;exact ⟨_,(ED hts).2 j ops.toList[j] t (List.getElem?_eq_getElem (by simp;omega)) ht⟩))
 have hlen:ops.size=ts.length:=h3.symm;have getF:∀ i,(Array.replicate ops.size false).getD i false=false:=λi=>by
  rw [Array.getD_eq_getD_getElem?]
  by_cases hi:i<ops.size
  .simp [hi]
  .simp [hi]
 refine Tg (M0:=M) (B:=B) (w0:={ w with drawn:=w.drawn+1 }) hC hS hm hts h2' h2 tr kn (λj t ht hb=>(KT _ _ h1 j t (by rw [hfl];exact ht) hb).1) (λj t ht hb=>(KT _ _ h1 j t (by rw [hfl];exact ht) hb).2) hfo (λc hc j t hj ht hb=>(hstab c hc).2 j t hj ht hb) (λM' a' w' r' g' b'=>?_) (Gf (jB wr ops) (ops.toList.zip ts)) 0 (by simpa using hfl) h1 (Nat.zero_le _) (λi=>by simp) ops.size (Array.replicate ops.size false) M _ a (by simp) (λi _ _ _ _ hi=>by omega) (λi t ht _ _=>?_) (λi _ hi _ _ _=>absurd hi (Nat.not_lt_zero _)) (λi o ho hi=>?_) ?_ ?_
 .rw [hE1,hH1] at r';rw [hH0,hH1] at g';exact hQ M' a' w' r' g' ⟨b'.os,b'.tape,b'.output,b'.size,b'.block⟩
 .have hlt:=(List.getElem?_eq_some_iff.1 ht).1;rw [Array.getD_eq_getD_getElem?];simp [hlen,hlt]
 .have hlt:=(Array.getElem?_eq_some_iff.1 ho).1;simp only at hi;rw [Array.getD_eq_getD_getElem?] at hi;simp [hlt] at hi
 .unfold iB;rw [List.filter_eq_self.2 (λi hi=>by
   have:i<ops.size:=by simpa using hi
   rw [Array.getD_eq_getD_getElem?];simp [this])]
  simp
 .refine ⟨hr0.sim,λt _=>hr0.env t,λi o ht hi=>?_,λ_ _ _=>rfl,Below.refl _ _,hr0.size,hr0.defers⟩;have hlt:=(List.getElem?_eq_some_iff.1 ht).1;rw [Array.getD_eq_getD_getElem?] at hi;simp [hlen,hlt] at hi
theorem RL {C:A4} {tp:TP} {wr:Wr} (hC:DW P C) (hS:CZ C) (hm:B3 P tp) (hx:P.follows .mixedOrders=true) {n k:Nat}:∀ (c:Code) (tc:TC) (M:Mp) (B:Nat) (w:World) (h:AH) (e:Env) (a:Act) (z:Ex×Env×AH) (Q:Exit->Act->World->Prop),
    DY P wr n c=some tc->Dl tp C k tc e h=some z->Ou M B w h e a n->Ends M B w h n z Q->c.wp P Q a w:=by
 intro c
 induction c with
 | skip=>
  intro tc M B w h e a z Q hc he hr hQ;simp [DY] at hc;subst hc;simp [Dl] at he;subst he;exact wp_skip (hQ M a w hr (Goes.refl M h) (Below.refl B w))
 | region id ops draw=>
  intro tc M B w h e a z Q hc he hr hQ;simp only [DY,Uc] at hc
  cases draw with
  | true=>
   simp only [if_true] at hc;have kind:∀ {fl:List Nat} {o2:Array Oper},Di P wr n fl o2=some tc->∃ segs,tc=.dreg segs:=λhh=>by
    unfold Di at hh;obtain ⟨ts,_,hh⟩:=bind_some hh;simp only at hh;split at hh
    .exact ⟨_,(Option.some.inj hh).symm⟩
    .simp at hh
   have done:∀ {fl:List Nat} {o2:Array Oper},Di P wr n fl o2=some tc->wpAny P .any o2 Q o2.size (Array.replicate o2.size false) a { w with drawn:=w.drawn+1 }:=λhh=>by
    obtain ⟨segs,rfl⟩:=kind hh;simp only [Dl,Option.map_eq_some_iff] at he;obtain ⟨y,hy,rfl⟩:=he;exact Y2 hC hS hm hh hy hr (λM' a' w' r' g' b'=>hQ M' a' w' r' g' b')
   refine wp_region_any hx ?_;split at hc
   .rename_i c hcc;exact done (hcc.trans hc)
   .split at hc
    .rename_i c hcc;exact done (hcc.trans hc)
    .split at hc
     case isFalse=>simp at hc
     rename_i hok;simp only [Bool.and_eq_true] at hok;have p:=Pm hok.1;refine p.any hok.2 ops.size _ (Array.replicate ops.size false) a _ (by simp) (by simp) (λi hi=>?_) ?_
     .rw [Array.getD_eq_getD_getElem?,Array.getD_eq_getD_getElem?];simp [hi,p.lt i hi]
     .have hd:wpAny P .any (FL ops (ML (jB wr ops) ops ops.size [])) Q (FL ops (ML (jB wr ops) ops ops.size [])).size (Array.replicate (FL ops (ML (jB wr ops) ops ops.size [])).size false) a { w with drawn:=w.drawn+1 }:=by
       split at hc
       .rename_i c hcc;exact done (hcc.trans hc)
       .exact done hc
      rw [p.size] at hd;exact hd
  | false=>
   simp only [Bool.false_eq_true,if_false,Option.map_eq_some_iff] at hc;obtain ⟨ts,hts,rfl⟩:=hc;simp only [Dl,Option.map_eq_some_iff] at he;obtain ⟨y,hy,rfl⟩:=he;refine wp_region ?_;have:=IQ hC hm ops.toList ts 0 M w h y.2 e y.1 a (λj=>by simp) hts hy hr (Q:=Q) (λM' a' w' r' g' b'=>hQ M' a' w' r' g' b');rw [List.range_eq_range'];simpa using this
 | seq x y ihx ihy=>
  intro tc M B w h e a z Q hc he hr hQ;simp only [DY] at hc;obtain ⟨tx,htx,hc⟩:=bind_some hc;simp only [Option.map_eq_some_iff] at hc;obtain ⟨ty,hty,rfl⟩:=hc;simp only [Dl] at he;obtain ⟨y1,hy1,he⟩:=bind_some he;refine wp_seq (ihx tx M B w h e a y1 _ htx hy1 hr (λM' a' w' r' g' b'=>?_));obtain ⟨ex,e1,h1⟩:=y1
  cases ex with
  | nm=>
   simp only at he;exact ihy ty M' B w' h1 e1 a' z Q hty he r' (λM'' a'' w'' r'' g'' b''=>hQ M'' a'' w'' r'' (g'.trans g'') (b'.trans b''))
  | ex id=>simp at he;subst he;exact hQ M' a' w' r' g' b'
  | rt=>simp at he;subst he;exact hQ M' a' w' r' g' b'
 | cond c x y ihx ihy=>
  intro tc M B w h e a z Q hc he hr hQ;simp only [DY] at hc;obtain ⟨tq,htq,hc⟩:=bind_some hc;obtain ⟨tx,htx,hc⟩:=bind_some hc;simp only [Option.map_eq_some_iff] at hc;obtain ⟨ty,hty,rfl⟩:=hc;have hv:=Aw hr.env htq;simp only [Dl] at he;split at he
  .rename_i hq;rw [hq] at hv;cases hav:a.eval c<;>rw [hav] at hv<;>cases hv;exact wp_cond hav (ihx tx M B w h e a z Q htx he hr hQ)
  .rename_i hq;rw [hq] at hv;cases hav:a.eval c<;>rw [hav] at hv<;>cases hv;exact wp_cond hav (ihy ty M B w h e a z Q hty he hr hQ)
  .simp at he
 | block id c ih=>
  intro tc M B w h e a z Q hc he hr hQ;simp only [DY,Option.map_eq_some_iff] at hc;obtain ⟨tx,htx,rfl⟩:=hc;simp only [Dl,Option.map_eq_some_iff] at he;obtain ⟨y,hy,rfl⟩:=he;refine wp_block (ih tx M B w h e a y _ htx hy hr (λM' a' w' r' g' b'=>?_));obtain ⟨ex,e1,h1⟩:=y;have:=hQ M' a' w' r' g' b'
  cases ex with
  | nm=>exact this
  | rt=>exact this
  | ex j=>
   simp only [Ex.real,Exit.inBlock] at this ⊢;split
   .rename_i hji;simpa [hji] using this
   .rename_i hji;simpa [hji] using this
 | loop c ih=>
  intro tc M B w h e a z Q hc he hr hQ;simp only [DY,Option.map_eq_some_iff] at hc;obtain ⟨tx,htx,rfl⟩:=hc;simp only [Dl] at he;refine W2 (λm a1 w1=>∃ M1 e1 h1,He (Dl tp C k tx) m e1 h1=some z/\Ou M1 B w1 h1 e1 a1 n/\Goes M M1 h h1/\Below B w w1) k ⟨M,e,h,he,hr,Goes.refl M h,Below.refl B w⟩ ?_;intro m a1 w1 ⟨M1,e1,h1,hit,hr1,hg1,hb1⟩
  cases m with
  | zero=>simp [He] at hit
  | succ m=>
   simp only [He] at hit;obtain ⟨y,hy,hit⟩:=bind_some hit;refine ih tx M1 B w1 h1 e1 a1 y _ htx hy hr1 (λM' a' w' r' g' b'=>?_);obtain ⟨ex,e2,h2⟩:=y
   cases ex with
   | nm=>exact ⟨m,Nat.lt_succ_self _,M',e2,h2,hit,r',hg1.trans g',hb1.trans b'⟩
   | ex id=>simp at hit;subst hit;exact hQ M' a' w' r' (hg1.trans g') (hb1.trans b')
   | rt=>simp at hit;subst hit;exact hQ M' a' w' r' (hg1.trans g') (hb1.trans b')
 | exit id=>
  intro tc M B w h e a z Q hc he hr hQ;simp [DY] at hc;subst hc;simp [Dl] at he;subst he;exact wp_exit (hQ M a w hr (Goes.refl M h) (Below.refl B w))
 | ret=>
  intro tc M B w h e a z Q hc he hr hQ;simp [DY] at hc;subst hc;simp [Dl] at he;subst he;exact wp_ret (hQ M a w hr (Goes.refl M h) (Below.refl B w))
 | _=>intro tc M B w h e a z Q hc;simp [DY] at hc
def PI (tmps:Array Value):ResultVar->Sem Value
 | .tmp t=>pure (tmps.getD t undef)
 | .cell b t=>do loadVar t (<- asAddr (tmps.getD b undef))
theorem MS {M : Mp} {B : Nat} {w : World} {h : AH} {e : Env} {a : Act} (hs : De M B w h) (hE : EA M h e a) : ∀ (l : List ResultVar) (rs : List RV) (vs : List V), HH P l = some rs -> W6 e h rs = some vs ->
    ∃ xs:List Value,Br M h vs xs/\(l.mapM (PI a.tmps)).run P w=.ok xs w
 | [],rs,vs,hc,he=>by
  simp [HH] at hc;subst hc;simp [W6] at he;subst he;exact ⟨[],.nil,by simp⟩
 | r::l,rs,vs,hc,he=>by
  simp only [HH] at hc;obtain ⟨x,hx,hc⟩:=bind_some hc;simp only [Option.map_eq_some_iff] at hc;obtain ⟨rs',hrs,rfl⟩:=hc;simp only [W6] at he;obtain ⟨v,hv,he⟩:=bind_some he;simp only [Option.map_eq_some_iff] at he;obtain ⟨vs',hvs,rfl⟩:=he;obtain ⟨xs,hxs,hrun⟩:=MS hs hE l rs' vs' hrs hvs
  cases r with
  | tmp t=>
   simp [RM] at hx;subst hx;simp [Tn] at hv;subst hv;exact ⟨_::xs,.cons _ _ _ _ (hE t) hxs,by simp only [List.mapM_cons,PI,Sem.run_bind,Sem.run_pure,Result.andThen_ok,hrun]⟩
  | cell b t=>
   simp only [RM] at hx;obtain ⟨s,hsz,hx⟩:=bind_some hx;obtain ⟨g,hg,hx⟩:=bind_some hx;split at hx
   case isFalse=>simp at hx
   simp only [Option.some.injEq] at hx;subst hx;simp only [Tn] at hv;have hb:=hE b;split at hv
   case h_2=>simp at hv
   rename_i id el off hp;rw [hp] at hb;obtain ⟨kk,hkk,hv⟩:=bind_some hv;obtain ⟨row,hrow,hv⟩:=bind_some hv;cases hav:a.tmps.getD b undef<;>rw [hav] at hb<;>try (cases hb;done)
   rename_i ad0
   cases ad0 with
   | none=>cases hb
   | some ad=>
    obtain ⟨y,hy,hvy⟩:=US (P:=P) hs trivial hb hkk hrow hv hsz hg;refine ⟨y::xs,.cons _ _ _ _ hvy hxs, ?_⟩;have h1:(PI a.tmps (.cell b t)).run P w=.ok y w:=by
     simp only [PI,Sem.run_bind];rw [hav];simp only [asAddr,Sem.run_pure,Result.andThen_ok,hy]
    simp only [List.mapM_cons,Sem.run_bind,Sem.run_pure,h1,Result.andThen_ok,hrun]
def aLf (P:Program) (wr:Wr) (tp:TP):Prop:=∀ f tf,tp.fn f=some tf->∃ fn,P.funcs[f]?=some fn/\Aj P wr fn=some tf
theorem Za {tp:TP} {wr:Wr} (hT:aLf P wr tp) (hm:B3 P tp) (hx:P.follows .mixedOrders=true):∀ k,DW P (ev tp k):=by
 intro k
 induction k with
 | zero=>intro f args h v h' he;simp [ev] at he
 | succ k ih=>
  intro f args h v h' he;simp only [ev] at he;obtain ⟨tf,htf,he⟩:=bind_some he;split at he
  case isFalse=>simp at he
  rename_i hargs;obtain ⟨z,hz,he⟩:=bind_some he;obtain ⟨fn,hfn,hcf⟩:=hT f tf htf;unfold Aj at hcf
  cases hb:fn.body with
  | none=>simp [hb] at hcf
  | some c=>
   simp only [hb] at hcf;split at hcf
   case isTrue=>simp at hcf
   rename_i hname;obtain ⟨rs,hrs,hcf⟩:=bind_some hcf;simp only [Option.map_eq_some_iff] at hcf;obtain ⟨tc,htc,rfl⟩:=hcf;refine ⟨⟨fn,hfn,by simp [hb],by simpa using hname⟩,λM B w xs hs hxs=>?_⟩;have hl:=hxs.length;have hl':args.length=xs.size:=by simpa using hl
   simp only at hargs;refine calls_of_wp hfn hb ?_;have hr0:Ou M B w h (Fb args) { tmps:=xs++Array.replicate (fn.ntmps - xs.size) undef,defers:=[] } fn.ntmps:=by
    refine ⟨hs,λt=>?_,by simp;omega,rfl⟩;simp only [Fb]
    by_cases ht:t<args.length
    .obtain ⟨x,hx1,hx2⟩:=hxs.get t args[t] (by simp [ht]);have hget:(xs++Array.replicate (fn.ntmps - xs.size) undef).getD t undef=x:=by
      rw [Array.getD_eq_getD_getElem?,Array.getElem?_append];rw [if_pos om];have:xs[t]?=some x:=by simpa using hx1
      rw [this];rfl
     rw [hget];have:args.getD t .u=args[t]:=by simp [List.getD,ht]
     rw [this];exact hx2
    .have:args.getD t .u=.u:=by simp [List.getD,List.getElem?_eq_none (Nat.le_of_not_lt ht)]
     rw [this];exact .u _
   refine RL (k:=k) ih (Mz tp k) hm hx c tc M B w h (Fb args) _ z _ htc hz hr0 (λM' a' w' r' g' b'=>?_);obtain ⟨ex,z1,z2⟩:=z;have fin:(BI z1 z2 rs).map (λv=>(v,z2))=some (v,h')->a'.defers=[]/\∃ x,(results fn a'.tmps).run P w'=.ok x w'/\∃ y M',Ending.returned x=.returned y/\DE M B w h v h' y w' M':=by
    intro hres;simp only [Option.map_eq_some_iff,Prod.mk.injEq] at hres;obtain ⟨v',hv',rfl,rfl⟩:=hres;simp only [BI,Option.map_eq_some_iff] at hv';obtain ⟨vs,hvs,rfl⟩:=hv';obtain ⟨ys,hys,hrun⟩:=MS r'.sim r'.env _ rs vs hrs hvs;have hrun':(results fn a'.tmps).run P w'=.ok (if hh:ys.toArray.size=1 then ys.toArray[0] else .tuple ys.toArray) w':=by
     have e:results fn a'.tmps=(do let vs<-Array.mapM (PI a'.tmps) fn.results;pure (if h:vs.size=1 then vs[0] else .tuple vs)):=rfl;rw [e,Array.mapM_eq_mapM_toList];simp only [Sem.run_bind,Sem.run_map,hrun,Result.andThen_ok,Sem.run_pure]
    refine ⟨r'.defers,_,hrun',_,M',rfl,⟨?_,r'.sim,trivial,g',b'⟩⟩
    cases hys with
    | nil=>exact .tup _ _ .nil
    | cons v1 y1 l1 l1' p1 q1=>
     cases q1 with
     | nil=>simpa using p1
     | cons v2 y2 l2 l2' p2 q2=>
      have:¬ (y1::y2::l2').toArray.size=1:=by simp
      rw [dif_neg this];exact .tup _ _ (.cons _ _ _ _ p1 (.cons _ _ _ _ p2 q2))
   cases ex with
   | ex id=>simp at he
   | nm=>
    obtain ⟨h1,x,h2,h3⟩:=fin he;exact ⟨h1,x,h2,h3⟩
   | rt=>
    obtain ⟨h1,x,h2,h3⟩:=fin he;exact ⟨h1,x,h2,h3⟩
end
end Go.Ab
/- More fuel, the same answer; and the abstract machine without fuel, as conditions ahead of code. -/
namespace Go.Ab
universe u
open Go
def OLe (C D:A4):Prop:=∀ f args h z,C f args h=some z->D f args h=some z
theorem GK {tp:TP} {C D:A4} (hC:OLe C D) {o:O} {ev:X->V} {h:AH} {z:V×AH} (hd:A3 tp C o ev h=some z):A3 tp D o ev h=some z:=by
 unfold A3 at hd ⊢;split at hd
 .simp only [Option.bind_eq_some_iff] at hd ⊢;obtain ⟨c,h1,hd⟩:=hd;exact ⟨c,h1,hC _ _ _ _ hd⟩
 .simp only [Option.bind_eq_some_iff] at hd ⊢;obtain ⟨c,h1,hd⟩:=hd;exact ⟨c,h1,hC _ _ _ _ hd⟩
 .exact hd
theorem Fq {tp:TP} {C D:A4} (hC:OLe C D):∀ (l:List TO) (e:Env) (h:AH) (z:Env×AH),Cg tp C l e h=some z->Cg tp D l e h=some z
 | [],e,h,z,he=>by simpa [Cg] using he
 | o::l,e,h,z,he=>by
  simp only [Cg] at he ⊢;split at he
  .simp only [Option.bind_eq_some_iff] at he ⊢;obtain ⟨q,hq,he⟩:=he;exact ⟨q,GK hC hq,Fq hC l _ _ z he⟩
  .exact Fq hC l _ _ z he
  .simp at he
theorem DP {tp:TP} {C D:A4} (hC:OLe C D):∀ (l:List TO) (e:Env) (h:AH) (z:Env×AH),Bf tp C l e h=some z->Bf tp D l e h=some z
 | [],e,h,z,he=>by simpa [Bf] using he
 | o::l,e,h,z,he=>by
  unfold Bf at he ⊢
  cases hw:AK e o.g with
  | none=>simp [hw] at he
  | some b=>
   cases b with
   | false=>simp only [hw] at he ⊢;exact DP hC l _ _ z he
   | true=>
    simp only [hw] at he ⊢
    by_cases hp:AS o.o=true
    .rw [if_pos hp] at he ⊢
     by_cases ha:Ja o.o (X.ev e) h=true
     .rw [if_pos ha] at he ⊢;simp only [Option.bind_eq_some_iff] at he ⊢;obtain ⟨q,hq,he⟩:=he;exact ⟨q,hq,DP hC l _ _ z he⟩
     .rw [if_neg ha] at he;simp at he
    .rw [if_neg hp] at he ⊢;simp only [Option.bind_eq_some_iff] at he ⊢;obtain ⟨q,hq,he⟩:=he;exact ⟨q,GK hC hq,DP hC l _ _ z he⟩
theorem GM {tp:TP} {C D:A4} (hC:OLe C D):∀ (l:List (Bool×List TO)) (e:Env) (h:AH) (z:Env×AH),B5 tp C l e h=some z->B5 tp D l e h=some z
 | [],e,h,z,he=>by simpa [B5] using he
 | (q,l)::r,e,h,z,he=>by
  simp only [B5,Option.bind_eq_some_iff] at he ⊢;obtain ⟨y,hy,he⟩:=he;refine ⟨y, ?_,GM hC r _ _ z he⟩
  cases q with
  | true=>exact DP hC l e h y hy
  | false=>exact Fq hC l e h y hy
theorem IH {f g:Env->AH->Out} (hf:∀ e h z,f e h=some z->g e h=some z):∀ (n m:Nat) (e:Env) (h:AH) (z:Ex×Env×AH),n<=m->He f n e h=some z->He g m e h=some z
 | 0,_,e,h,z,_,he=>by simp [He] at he
 | n+1,0,e,h,z,hn,he=>by omega
 | n+1,m+1,e,h,z,hn,he=>by
  simp only [He,Option.bind_eq_some_iff] at he ⊢;obtain ⟨y,hy,he⟩:=he;refine ⟨y,hf _ _ _ hy, ?_⟩;split at he
  .exact IH hf n m _ _ z om he
  .exact he
theorem DJ {tp:TP} {C D:A4} (hC:OLe C D) {n m:Nat} (hn:n<=m):∀ (c:TC) (e:Env) (h:AH) (z:Ex×Env×AH),Dl tp C n c e h=some z->Dl tp D m c e h=some z:=by
 intro c
 induction c with
 | skip=>intro e h z he;simpa [Dl] using he
 | reg ops=>intro e h z he;simp only [Dl,Option.map_eq_some_iff] at he ⊢;obtain ⟨y,hy,rfl⟩:=he;exact ⟨y,Fq hC ops e h y hy,rfl⟩
 | dreg segs=>intro e h z he;simp only [Dl,Option.map_eq_some_iff] at he ⊢;obtain ⟨y,hy,rfl⟩:=he;exact ⟨y,GM hC segs e h y hy,rfl⟩
 | seq a b iha ihb=>
  intro e h z he;simp only [Dl,Option.bind_eq_some_iff] at he ⊢;obtain ⟨y,hy,he⟩:=he;refine ⟨y,iha e h y hy, ?_⟩;split at he
  .exact ihb _ _ z he
  .exact he
 | cond c a b iha ihb=>
  intro e h z he;simp only [Dl] at he ⊢;split at he
  .exact iha e h z he
  .exact ihb e h z he
  .simp at he
 | block id c ih=>intro e h z he;simp only [Dl,Option.map_eq_some_iff] at he ⊢;obtain ⟨y,hy,rfl⟩:=he;exact ⟨y,ih e h y hy,rfl⟩
 | loop c ih=>intro e h z he;simp only [Dl] at he ⊢;exact IH ih n m e h z hn he
 | exit id=>intro e h z he;simpa [Dl] using he
 | ret=>intro e h z he;simpa [Dl] using he
theorem qD (tp:TP):∀ k,OLe (ev tp k) (ev tp (k+1)):=by
 intro k
 induction k with
 | zero=>intro f args h z he;simp [ev] at he
 | succ k ih=>
  intro f args h z he;rw [ev] at he ⊢;simp only [Option.bind_eq_some_iff] at he ⊢;obtain ⟨tf,h1,he⟩:=he;refine ⟨tf,h1, ?_⟩;split at he
  case isFalse=>simp at he
  rename_i hl;simp only [hl,if_true];simp only [Option.bind_eq_some_iff] at he ⊢;obtain ⟨y,hy,he⟩:=he;exact ⟨y,DJ ih (Nat.le_succ k) tf.body _ h y hy,he⟩
theorem Cp (tp:TP) {k m:Nat} (hk:k<=m):OLe (ev tp k) (ev tp m):=by
 obtain ⟨d,rfl⟩:=Nat.le.dest hk;clear hk
 induction d with
 | zero=>intro f args h z he;exact he
 | succ d ih=>intro f args h z he;exact qD tp (k+d) f args h z (ih f args h z he)
/-! ### Without fuel -/
section
variable (tp:TP)
theorem Aq {α:Sort u} {a b:α} (h:a=b):a=b:=h
inductive Fz {α:Sort u} (a:α):Type where
 | mk
def Ev (f:Nat) (args:List V) (h:AH) (Q:V->AH->Prop) (t:Fz Q:=.mk):Prop:=∃ k v h',ev tp k f args h=some (v,h')/\Q v h'
def W1 (o:O) (e:Env) (h:AH) (Q:V->AH->Prop) (t:Fz Q:=.mk):Prop:=∃ k v h',A3 tp (ev tp k) o (X.ev e) h=some (v,h')/\Q v h'
def Jt (l:List TO) (e:Env) (h:AH) (Q:Env->AH->Prop) (t:Fz (PProd.mk e Q):=.mk):Prop:=∃ k e' h',Cg tp (ev tp k) l e h=some (e',h')/\Q e' h'
def WQ (l:List TO) (e:Env) (h:AH) (Q:Env->AH->Prop) (t:Fz (PProd.mk e Q):=.mk):Prop:=∃ k e' h',Bf tp (ev tp k) l e h=some (e',h')/\Q e' h'
def WS (l:List (Bool×List TO)) (e:Env) (h:AH) (Q:Env->AH->Prop) (t:Fz (PProd.mk e Q):=.mk):Prop:=∃ k e' h',B5 tp (ev tp k) l e h=some (e',h')/\Q e' h'
def WC (c:TC) (e:Env) (h:AH) (Q:Ex->Env->AH->Prop) (t:Fz (PProd.mk e Q):=.mk):Prop:=∃ k x e' h',Dl tp (ev tp k) k c e h=some (x,e',h')/\Q x e' h'
def Wo {α:Type} (x:Option α) (K:α->Prop) (t:Fz K:=.mk):Prop:=∃ a,x=some a/\K a
def Wv {α:Type} (a:α) (K:α->Prop) (t:Fz K:=.mk):Prop:=K a
def Wb (v:V) (A B:Prop) (t:Fz (PProd.mk A B):=.mk):Prop:=match v with | .b true=>A | .b false=>B | _=>False
def Wg (v:V) (x:Bool) (A B:Prop) (t:Fz (PProd.mk A B):=.mk):Prop:=match v with | .b y=>(if y=x then A else B) | .tup []=>B | _=>False
def S4 (x:Ex) (A B:Prop) (t:Fz (PProd.mk A B):=.mk):Prop:=match x with | .nm=>A | _=>B
def blk (id:Nat) (x:Ex):Ex:=match x with | .ex j=>if j=id then .nm else .ex j | x=>x
variable {tp}
theorem AV {α:Type} {a:α} {K:α->Prop}:Wo (some a) K=K a:=propext ⟨λ⟨_,h,k⟩=>(by cases h;exact k),λh=>⟨a,rfl,h⟩⟩
theorem A2 {α:Type} {K:α->Prop}:Wo none K=False:=propext ⟨λ⟨_,h,k⟩=>(by cases h),False.elim⟩
theorem BN {α β:Type} {x:Option α} {f:α->Option β} {K:β->Prop}:Wo (x.bind f) K=Wo x (λa=>Wo (f a) K):=propext ⟨λ⟨b,h,k⟩=>by
 simp only [Option.bind_eq_some_iff] at h;obtain ⟨a,h1,h2⟩:=h;exact ⟨a,h1,b,h2,k⟩,λ⟨a,h,b,h2,k⟩=>⟨b,by simp only [h,Option.bind_some,h2],k⟩⟩
theorem Bs {α β:Type} {x:Option α} {f:α->β} {K:β->Prop}:Wo (x.map f) K=Wo x (λa=>K (f a)):=propext ⟨λ⟨b,h,k⟩=>by
 simp only [Option.map_eq_some_iff] at h;obtain ⟨a,h1,rfl⟩:=h;exact ⟨a,h1,k⟩,λ⟨a,h,k⟩=>⟨f a,by simp only [h,Option.map_some],k⟩⟩
theorem CI {α:Type} {c:Prop} [Decidable c] {x:Option α} {K:α->Prop}:Wo (if c then x else none) K=(c/\Wo x K):=by
 by_cases hc:c
 .simp [hc]
 .simp [hc,A2]
theorem Fv {α:Type} {x:Option α} {K L:α->Prop} (h:∀ a,K a=L a):Wo x K=Wo x L:=by rw [show K=L from funext h]
theorem HB {α:Type} {a:α} {K:α->Prop}:Wv a K=K a:=Aq rfl
theorem Ax {p:Prop} [Decidable p] {x:Bool} {A B:Prop} (h1:p->Wg (.b true) x A B) (h2:¬ p->Wg (.b false) x A B):Wg (.b (decide p)) x A B:=by by_cases hp:p<;>simp_all
theorem CQ {c x:Bool} {A B:Prop} (h1:c=true->Wg (.b true) x A B) (h2:c=false->Wg (.b false) x A B):Wg (.b c) x A B:=by cases c<;>simp_all
theorem mR {A B:Prop}:Wb (.b true) A B=A:=Aq rfl
theorem X6 {A B:Prop}:Wb (.b false) A B=B:=Aq rfl
theorem Bv {c:Bool} {A B:Prop} (h1:c=true->A) (h2:c=false->B):Wb (.b c) A B:=by cases c<;>simp_all [Wb]
theorem Ad {p:Prop} [Decidable p] {A B:Prop} (h1:p->A) (h2:¬ p->B):Wb (.b (decide p)) A B:=by by_cases hp:p<;>simp_all [Wb]
theorem mT {x:Bool} {A B:Prop}:Wg (.tup []) x A B=B:=Aq rfl
theorem aYt {A B:Prop}:Wg (.b true) true A B=A:=by simp [Wg]
theorem aYs {A B:Prop}:Wg (.b true) false A B=B:=by simp [Wg]
theorem aYr {A B:Prop}:Wg (.b false) true A B=B:=by simp [Wg]
theorem aYq {A B:Prop}:Wg (.b false) false A B=A:=by simp [Wg]
theorem NW {A B:Prop}:S4 .nm A B=A:=Aq rfl
theorem aNG {A B:Prop}:S4 .rt A B=B:=Aq rfl
theorem aNF {i:Nat} {A B:Prop}:S4 (.ex i) A B=B:=Aq rfl
theorem aLZ {i:Nat}:blk i .nm=.nm:=Aq rfl
theorem aL0 {i:Nat}:blk i .rt=.rt:=Aq rfl
theorem aLY {i j:Nat}:blk i (.ex j)=if j=i then .nm else .ex j:=Aq rfl
theorem mQ {e:Env} {h:AH} {Q:Ex->Env->AH->Prop}:WC tp .skip e h Q=Q .nm e h:=propext ⟨λ⟨k,x,e',h',he,hq⟩=>by simp [Dl] at he;obtain ⟨rfl,rfl,rfl⟩:=he;exact hq,λhq=>⟨0,_,_,_,rfl,hq⟩⟩
theorem aLi {e:Env} {h:AH} {Q:Ex->Env->AH->Prop}:WC tp .ret e h Q=Q .rt e h:=propext ⟨λ⟨k,x,e',h',he,hq⟩=>by simp [Dl] at he;obtain ⟨rfl,rfl,rfl⟩:=he;exact hq,λhq=>⟨0,_,_,_,rfl,hq⟩⟩
theorem mO {id:Nat} {e:Env} {h:AH} {Q:Ex->Env->AH->Prop}:WC tp (.exit id) e h Q=Q (.ex id) e h:=propext ⟨λ⟨k,x,e',h',he,hq⟩=>by simp [Dl] at he;obtain ⟨rfl,rfl,rfl⟩:=he;exact hq,λhq=>⟨0,_,_,_,rfl,hq⟩⟩
theorem aLh {ops:List TO} {e:Env} {h:AH} {Q:Ex->Env->AH->Prop}:WC tp (.reg ops) e h Q=Jt tp ops e h (λe h=>Q .nm e h):=propext ⟨λ⟨k,x,e',h',he,hq⟩=>by
 simp only [Dl,Option.map_eq_some_iff] at he;obtain ⟨⟨y1,y2⟩,hy,he⟩:=he;cases he;exact ⟨k,_,_,hy,hq⟩,λ⟨k,e',h',he,hq⟩=>⟨k,_,_,_,by simp only [Dl,he,Option.map_some],hq⟩⟩
theorem T4 {ops:List (Bool×List TO)} {e:Env} {h:AH} {Q:Ex->Env->AH->Prop}:WC tp (.dreg ops) e h Q=WS tp ops e h (λe h=>Q .nm e h):=propext ⟨λ⟨k,x,e',h',he,hq⟩=>by
 simp only [Dl,Option.map_eq_some_iff] at he;obtain ⟨⟨y1,y2⟩,hy,he⟩:=he;cases he;exact ⟨k,_,_,hy,hq⟩,λ⟨k,e',h',he,hq⟩=>⟨k,_,_,_,by simp only [Dl,he,Option.map_some],hq⟩⟩
theorem mN {c:X} {a b:TC} {e:Env} {h:AH} {Q:Ex->Env->AH->Prop}:WC tp (.cond c a b) e h Q=Wb (c.ev e) (WC tp a e h Q) (WC tp b e h Q):=propext ⟨λ⟨k,x,e',h',he,hq⟩=>by
 simp only [Dl] at he;split at he
 .rename_i hn';simp only [hn',Wb];exact ⟨k,x,e',h',he,hq⟩
 .rename_i hn';simp only [hn',Wb];exact ⟨k,x,e',h',he,hq⟩
 .simp at he,λhw=>by
 unfold Wb at hw;split at hw
 .rename_i hn';obtain ⟨k,x,e',h',he,hq⟩:=hw;exact ⟨k,x,e',h',by simp only [Dl,hn',he],hq⟩
 .rename_i hn';obtain ⟨k,x,e',h',he,hq⟩:=hw;exact ⟨k,x,e',h',by simp only [Dl,hn',he],hq⟩
 .exact hw.elim⟩
theorem XY {id:Nat} {c:TC} {e:Env} {h:AH} {Q:Ex->Env->AH->Prop}:WC tp (.block id c) e h Q=WC tp c e h (λx e h=>Q (blk id x) e h):=propext ⟨λ⟨k,x,e',h',he,hq⟩=>by
 simp only [Dl,Option.map_eq_some_iff] at he;obtain ⟨⟨x1,y1,y2⟩,hy,he⟩:=he;cases he;exact ⟨k,_,_,_,hy,by cases x1<;>exact hq⟩,λ⟨k,x,e',h',he,hq⟩=>⟨k,blk id x,e',h',by simp only [Dl,he,Option.map_some];cases x<;>rfl,hq⟩⟩
theorem Rr {a b:TC} {e:Env} {h:AH} {Q:Ex->Env->AH->Prop}:WC tp (.seq a b) e h Q=WC tp a e h (λx e h=>S4 x (WC tp b e h Q) (Q x e h)):=propext ⟨λ⟨k,x,e',h',he,hq⟩=>by
 simp only [Dl,Option.bind_eq_some_iff] at he;obtain ⟨⟨x1,e1,h1⟩,hy,he⟩:=he;refine ⟨k,x1,e1,h1,hy, ?_⟩
 cases x1 with
 | nm=>exact ⟨k,x,e',h',he,hq⟩
 | ex j=>simp at he;obtain ⟨rfl,rfl,rfl⟩:=he;exact hq
 | rt=>simp at he;obtain ⟨rfl,rfl,rfl⟩:=he;exact hq,λ⟨k,x,e',h',he,hq⟩=>by
 cases x with
 | nm=>
  obtain ⟨k2,x2,e2,h2,he2,hq2⟩:=hq;refine ⟨max k k2,x2,e2,h2, ?_,hq2⟩;have p:=DJ (tp:=tp) (Cp tp (Nat.le_max_left k k2)) (Nat.le_max_left k k2) a e h _ he;have q:=DJ (tp:=tp) (Cp tp (Nat.le_max_right k k2)) (Nat.le_max_right k k2) b e' h' _ he2;simp only [Dl,p,Option.bind_some,q]
 | ex j=>exact ⟨k,_,_,_,by simp only [Dl,he,Option.bind_some],hq⟩
 | rt=>exact ⟨k,_,_,_,by simp only [Dl,he,Option.bind_some],hq⟩⟩
theorem mP {c:TC} {e:Env} {h:AH} {Q:Ex->Env->AH->Prop} (hw:WC tp c e h (λx e h=>S4 x (WC tp (.loop c) e h Q) (Q x e h))):WC tp (.loop c) e h Q:=by
 obtain ⟨k,x,e',h',he,hq⟩:=hw
 cases x with
 | nm=>
  obtain ⟨k2,x2,e2,h2,he2,hq2⟩:=hq;refine ⟨max k k2+1,x2,e2,h2, ?_,hq2⟩;have p:=DJ (tp:=tp) (Cp tp (Nat.le_succ_of_le (Nat.le_max_left k k2))) (Nat.le_succ_of_le (Nat.le_max_left k k2)) c e h _ he;simp only [Dl] at he2 ⊢;have q:=IH (λe h z hz=>DJ (tp:=tp) (Cp tp (Nat.le_succ_of_le (Nat.le_max_right k k2))) (Nat.le_succ_of_le (Nat.le_max_right k k2)) c e h z hz) k2 (max k k2) e' h' _ (Nat.le_max_right k k2) he2;simp only [He,p,Option.bind_some];exact q
 | ex j=>exact ⟨k+1,_,_,_,by
     have p:=DJ (tp:=tp) (Cp tp (Nat.le_succ k)) (Nat.le_succ k) c e h _ he;simp only [Dl,He,p,Option.bind_some],hq⟩
 | rt=>exact ⟨k+1,_,_,_,by
     have p:=DJ (tp:=tp) (Cp tp (Nat.le_succ k)) (Nat.le_succ k) c e h _ he;simp only [Dl,He,p,Option.bind_some],hq⟩
theorem Ow {e:Env} {h:AH} {Q:Env->AH->Prop}:Jt tp [] e h Q=Q e h:=propext ⟨λ⟨k,e',h',he,hq⟩=>by simp [Cg] at he;obtain ⟨rfl,rfl⟩:=he;exact hq,λhq=>⟨0,_,_,rfl,hq⟩⟩
theorem JU {d:Option Nat} {o:O} {g:Option (Nat×Bool)} {r:List TO} {e:Env} {h:AH} {Q:Env->AH->Prop} (hg:AK e g=some true):Jt tp (⟨d,o,g⟩::r) e h Q=W1 tp o e h (λv h=>Jt tp r (e.set d v) h Q):=propext ⟨λ⟨k,e',h',he,hq⟩=>by
 simp only [Cg,hg,Option.bind_eq_some_iff] at he;obtain ⟨⟨y1,y2⟩,hy,he⟩:=he;exact ⟨k,y1,y2,hy,k,e',h',he,hq⟩,λ⟨k,v,h1,he,k2,e2,h2,he2,hq⟩=>by
 refine ⟨max k k2,e2,h2, ?_,hq⟩;have p:=GK (tp:=tp) (Cp tp (Nat.le_max_left k k2)) he;have q:=Fq (tp:=tp) (Cp tp (Nat.le_max_right k k2)) r _ _ _ he2;simp only [Cg,hg,p,Option.bind_some,q]⟩
theorem Vf {d:Option Nat} {o:O} {g:Option (Nat×Bool)} {r:List TO} {e:Env} {h:AH} {Q:Env->AH->Prop} (hg:AK e g=some false):Jt tp (⟨d,o,g⟩::r) e h Q=Jt tp r (e.set d (.tup [])) h Q:=by
 unfold Jt;simp only [Cg,hg]
theorem aLj {e:Env} {h:AH} {Q:Env->AH->Prop}:WS tp [] e h Q=Q e h:=propext ⟨λ⟨k,e',h',he,hq⟩=>by simp [B5] at he;obtain ⟨rfl,rfl⟩:=he;exact hq,λhq=>⟨0,_,_,rfl,hq⟩⟩
theorem X0 {l:List TO} {r:List (Bool×List TO)} {e:Env} {h:AH} {Q:Env->AH->Prop}:WS tp ((false,l)::r) e h Q=Jt tp l e h (λe h=>WS tp r e h Q):=propext ⟨λ⟨k,e',h',he,hq⟩=>by
 simp only [B5,Bool.false_eq_true,if_false,Option.bind_eq_some_iff] at he;obtain ⟨⟨y1,y2⟩,hy,he⟩:=he;exact ⟨k,y1,y2,hy,k,e',h',he,hq⟩,λ⟨k,v,h1,he,k2,e2,h2,he2,hq⟩=>by
 refine ⟨max k k2,e2,h2, ?_,hq⟩;have p:=Fq (tp:=tp) (Cp tp (Nat.le_max_left k k2)) l _ _ _ he;have q:=GM (tp:=tp) (Cp tp (Nat.le_max_right k k2)) r _ _ _ he2;simp only [B5,Bool.false_eq_true,if_false,p,Option.bind_some,q]⟩
theorem Ox {l:List TO} {r:List (Bool×List TO)} {e:Env} {h:AH} {Q:Env->AH->Prop}:WS tp ((true,l)::r) e h Q=WQ tp l e h (λe h=>WS tp r e h Q):=propext ⟨λ⟨k,e',h',he,hq⟩=>by
 simp only [B5,if_true,Option.bind_eq_some_iff] at he;obtain ⟨⟨y1,y2⟩,hy,he⟩:=he;exact ⟨k,y1,y2,hy,k,e',h',he,hq⟩,λ⟨k,v,h1,he,k2,e2,h2,he2,hq⟩=>by
 refine ⟨max k k2,e2,h2, ?_,hq⟩;have p:=DP (tp:=tp) (Cp tp (Nat.le_max_left k k2)) l _ _ _ he;have q:=GM (tp:=tp) (Cp tp (Nat.le_max_right k k2)) r _ _ _ he2;simp only [B5,if_true,p,Option.bind_some,q]⟩
def WQ1 (tp:TP) (o:O) (e:Env) (h:AH) (K:V->AH->Prop) (t:Fz K:=.mk):Prop:=
 if AS o=true then Ja o (X.ev e) h=true/\W1 tp o e h K else W1 tp o e h.raise (λv h'=>K v (h'.back h.lim))
theorem XZ {e:Env} {h:AH} {Q:Env->AH->Prop}:WQ tp [] e h Q=Q e h:=propext ⟨λ⟨k,e',h',he,hq⟩=>by simp [Bf] at he;obtain ⟨rfl,rfl⟩:=he;exact hq,λhq=>⟨0,_,_,rfl,hq⟩⟩
theorem MR {C:A4} {o:O} {ev:X->V} {h:AH} (hp:AS o=true):A3 tp C o ev h=Ag tp o ev h:=by
 unfold A3;split<;>first | rfl | simp [AS] at hp
theorem Na {d:Option Nat} {o:O} {g:Option (Nat×Bool)} {r:List TO} {e:Env} {h:AH} {Q:Env->AH->Prop} (hg:AK e g=some true):WQ tp (⟨d,o,g⟩::r) e h Q=WQ1 tp o e h (λv h=>WQ tp r (e.set d v) h Q):=propext ⟨λ⟨k,e',h',he,hq⟩=>by
 simp only [Bf,hg] at he;unfold WQ1;split at he
 .rename_i hp;split at he
  .rename_i hal;simp only [Option.bind_eq_some_iff] at he;obtain ⟨⟨y1,y2⟩,hy,he⟩:=he;rw [if_pos hp];have hyh:y2=h:=by have:=GH hp hy;exact this
   subst hyh;exact ⟨hal,k,y1,y2,by rw [MR hp];exact hy,k,e',h',he,hq⟩
  .simp at he
 .rename_i hp;simp only [Option.bind_eq_some_iff] at he;obtain ⟨⟨y1,y2⟩,hy,he⟩:=he;rw [if_neg hp];exact ⟨k,y1,y2,hy,k,e',h',he,hq⟩,λhw=>by
 unfold WQ1 at hw;split at hw
 .rename_i hp;obtain ⟨hal,k,v,h1,he,k2,e2,h2,he2,hq⟩:=hw;rw [MR hp] at he;have hyh:h1=h:=GH hp he;subst hyh;exact ⟨k2,e2,h2,by simp only [Bf,hg,hp,hal,if_true,he,Option.bind_some,he2],hq⟩
 .rename_i hp;obtain ⟨k,v,h1,he,k2,e2,h2,he2,hq⟩:=hw;refine ⟨max k k2,e2,h2, ?_,hq⟩;have p:=GK (tp:=tp) (Cp tp (Nat.le_max_left k k2)) he;have q:=DP (tp:=tp) (Cp tp (Nat.le_max_right k k2)) r _ _ _ he2;simp only [Bf,hg,hp,Bool.false_eq_true,if_false,p,Option.bind_some,q]⟩
theorem Nb {d:Option Nat} {o:O} {g:Option (Nat×Bool)} {r:List TO} {e:Env} {h:AH} {Q:Env->AH->Prop} (hg:AK e g=some false):WQ tp (⟨d,o,g⟩::r) e h Q=WQ tp r (e.set d (.tup [])) h Q:=by
 unfold WQ;simp only [Bf,hg]
theorem T3 {o:O} {e:Env} {h:AH} {K:V->AH->Prop} (hn:∀ C:A4,A3 tp C o (X.ev e) h=Ag tp o (X.ev e) h):W1 tp o e h K=Wo (Ag tp o (X.ev e) h) (λz=>K z.1 z.2):=propext ⟨λ⟨k,v,h',he,hk⟩=>⟨(v,h'),by rw [<- hn];exact he,hk⟩,λ⟨⟨v,h'⟩,he,hk⟩=>⟨0,v,h',by rw [hn];exact he,hk⟩⟩
theorem mM {f:X} {l:List X} {e:Env} {h:AH} {K:V->AH->Prop}:W1 tp (.call f l) e h K=Wo (callee tp (.call f l) (X.ev e)) (λc=>Ev tp c.1 c.2 h K):=propext ⟨λ⟨k,v,h',he,hk⟩=>by
 simp only [A3,Option.bind_eq_some_iff] at he;obtain ⟨c,hc,he⟩:=he;exact ⟨c,hc,k,v,h',he,hk⟩,λ⟨c,hc,k,v,h',he,hk⟩=>⟨k,v,h',by simp only [A3,hc,Option.bind_some,he],hk⟩⟩
theorem aLg {x:X} {m:String} {l:List X} {e:Env} {h:AH} {K:V->AH->Prop}:W1 tp (.inv x m l) e h K=Wo (callee tp (.inv x m l) (X.ev e)) (λc=>Ev tp c.1 c.2 h K):=propext ⟨λ⟨k,v,h',he,hk⟩=>by
 simp only [A3,Option.bind_eq_some_iff] at he;obtain ⟨c,hc,he⟩:=he;exact ⟨c,hc,k,v,h',he,hk⟩,λ⟨c,hc,k,v,h',he,hk⟩=>⟨k,v,h',by simp only [A3,hc,Option.bind_some,he],hk⟩⟩
def Vg (res:List RV) (x:Ex) (e:Env) (h:AH) (Q:V->AH->Prop) (t:Fz (PProd.mk e Q):=.mk):Prop:=match x with | .ex _=>False | _=>Wo (BI e h res) (λv=>Q v h)
theorem TJ {f:Nat} {args:List V} {h:AH} {Q:V->AH->Prop} {tf:TF} (hf:tp.fn f=some tf) (hl:args.length<=tf.n) (hw:WC tp tf.body (Fb args) h (λx e h=>Vg tf.res x e h Q)):Ev tp f args h Q:=by
 obtain ⟨k,x,e',h',he,hq⟩:=hw;unfold Vg at hq;split at hq
 .exact hq.elim
 .rename_i hx;obtain ⟨v,hv,hq⟩:=hq;refine ⟨k+1,v,h', ?_,hq⟩;rw [ev];simp only [hf,Option.bind_some,if_pos hl,he,hv,Option.map_some]
theorem Ev.imp {f:Nat} {args:List V} {h:AH} {Q R:V->AH->Prop} (hw:Ev tp f args h Q) (hqr:∀ v h',Q v h'->R v h'):Ev tp f args h R:=by
 obtain ⟨k,v,h',he,hq⟩:=hw;exact ⟨k,v,h',he,hqr v h' hq⟩
theorem Ev.steady {f:Nat} {args:List V} {h:AH} {Q:V->AH->Prop} (hw:Ev tp f args h Q):Ev tp f args h (λv h'=>Q v h'/\AE h h'):=by
 obtain ⟨k,v,h',he,hq⟩:=hw;exact ⟨k,v,h',he,hq,Mz tp k f args h v h' he⟩
theorem WC.imp {c:TC} {e:Env} {h:AH} {Q R:Ex->Env->AH->Prop} (hw:WC tp c e h Q) (hqr:∀ x e' h',Q x e' h'->R x e' h'):WC tp c e h R:=by
 obtain ⟨k,x,e',h',he,hq⟩:=hw;exact ⟨k,x,e',h',he,hqr x e' h' hq⟩
end
end Go.Ab
/- Values that stay (frozen slices as lists), over the abstract machine: when a value, a heap of this is that of the abstract machine; how it goes on. -/
namespace Go.Ab
open Go
def Hc:Nat:=4000000000
mutual
inductive PR (S:Nat->Prop) (m:Nat->Nat) (g:Nat->Option BJ):Nat->V->V->Prop where
 | u (n:Nat) (x:V):PR S m g n .u x
 | b (n:Nat) (x:Bool):PR S m g n (.b x) (.b x)
 | i (n:Nat) (k:IntKind) (z:Int):PR S m g n (.i k z) (.i k z)
 | s (n:Nat) (x:ByteArray):PR S m g n (.s x) (.s x)
 | np (n:Nat):PR S m g n .np .np
 | ns (n:Nat):PR S m g n .ns .ns
 | e0 (n:Nat):PR S m g n .e0 .e0
 | nf (n:Nat):PR S m g n .nf .nf
 | ni (n:Nat):PR S m g n .ni .ni
 | p (n id el off:Nat):id<n->PR S m g n (.p id el off) (.p (m id) el off)
 | sl (n id el len cap:Nat):id<n->PR S m g n (.sl id el len cap) (.sl (m id) el len cap)
 | fl0 (n sz:Nat):PR S m g n (.fl sz []) .ns
 | fl1 (n sz:Nat):PR S m g n (.fl sz []) .e0
 | fl (n sz:Nat) (xs:List (List V)) (a el cap:Nat) (cs:List (List V)):S a->g a=some ⟨sz,cs⟩->xs.length<=cap->el+xs.length<=cs.length->xs.length<Hc->C7 S m g 0 xs ((cs.drop el).take xs.length)->PR S m g n (.fl sz xs) (.sl a el xs.length cap)
 | fp (n sz:Nat) (xs:List (List V)) (j off a el:Nat) (cs:List (List V)):S a->g a=some ⟨sz,cs⟩->el+xs.length<=cs.length->C7 S m g 0 xs ((cs.drop el).take xs.length)->PR S m g n (.fp sz xs j off) (.p a (el+j) off)
 | f (n:Nat) (fn:Fn) (a c a' c':List V):Bz S m g n a a'->Bz S m g n c c'->PR S m g n (.f fn a c) (.f fn a' c')
 | ifc (n t:Nat) (v v':V):PR S m g n v v'->PR S m g n (.ifc t v) (.ifc t v')
 | agg (n:Nat) (l l':List V):Bz S m g n l l'->PR S m g n (.agg l) (.agg l')
 | tup (n:Nat) (l l':List V):Bz S m g n l l'->PR S m g n (.tup l) (.tup l')
inductive Bz (S:Nat->Prop) (m:Nat->Nat) (g:Nat->Option BJ):Nat->List V->List V->Prop where
 | nil (n:Nat):Bz S m g n [] []
 | cons (n:Nat) (v v':V) (l l':List V):PR S m g n v v'->Bz S m g n l l'->Bz S m g n (v::l) (v'::l')
inductive C7 (S:Nat->Prop) (m:Nat->Nat) (g:Nat->Option BJ):Nat->List (List V)->List (List V)->Prop where
 | nil (n:Nat):C7 S m g n [] []
 | cons (n:Nat) (v v':List V) (l l':List (List V)):Bz S m g n v v'->C7 S m g n l l'->C7 S m g n (v::l) (v'::l')
end
structure Ir (S:Nat->Prop) (m:Nat->Nat) (g:Nat->Option BJ) (n:Nat) (S':Nat->Prop) (m':Nat->Nat) (g':Nat->Option BJ) (n':Nat):Prop where
 s:∀ a,S a->S' a
 g:∀ a,S a->g' a=g a
 m:∀ i,i<n->m' i=m i
 n:n<=n'
theorem Ir.zero {S S':Nat->Prop} {m m':Nat->Nat} {g g':Nat->Option BJ} {n n':Nat} (k:Ir S m g n S' m' g' n'):Ir S m g 0 S' m' g' 0:=
 ⟨k.s,k.g,λi hi=>absurd hi (Nat.not_lt_zero _),Nat.le_refl _⟩
mutual
theorem PR.mono {S S':Nat->Prop} {m m':Nat->Nat} {g g':Nat->Option BJ} {n n':Nat} (k:Ir S m g n S' m' g' n'):∀ {v v':V},PR S m g n v v'->PR S' m' g' n' v v'
 | _,_,.u _ x=>.u _ x
 | _,_,.b _ x=>.b _ x
 | _,_,.i _ q z=>.i _ q z
 | _,_,.s _ x=>.s _ x
 | _,_,.np _=>.np _
 | _,_,.ns _=>.ns _
 | _,_,.e0 _=>.e0 _
 | _,_,.nf _=>.nf _
 | _,_,.ni _=>.ni _
 | _,_,.p _ id el off h=>by rw [<- k.m id h];exact .p _ id el off (Nat.lt_of_lt_of_le h k.n)
 | _,_,.sl _ id el len cap h=>by rw [<- k.m id h];exact .sl _ id el len cap (Nat.lt_of_lt_of_le h k.n)
 | _,_,.fl0 _ sz=>.fl0 _ sz
 | _,_,.fl1 _ sz=>.fl1 _ sz
 | _,_,.fl _ sz xs a el cap cs ha hg h1 h2 h3 r=>.fl _ sz xs a el cap cs (k.s a ha) ((k.g a ha).trans hg) h1 h2 h3 (C7.mono k.zero r)
 | _,_,.fp _ sz xs j off a el cs ha hg h2 r=>.fp _ sz xs j off a el cs (k.s a ha) ((k.g a ha).trans hg) h2 (C7.mono k.zero r)
 | _,_,.f _ fn a c a' c' p q=>.f _ fn a c a' c' (Bz.mono k p) (Bz.mono k q)
 | _,_,.ifc _ t v v' p=>.ifc _ t v v' (PR.mono k p)
 | _,_,.agg _ l l' p=>.agg _ l l' (Bz.mono k p)
 | _,_,.tup _ l l' p=>.tup _ l l' (Bz.mono k p)
theorem Bz.mono {S S':Nat->Prop} {m m':Nat->Nat} {g g':Nat->Option BJ} {n n':Nat} (k:Ir S m g n S' m' g' n'):∀ {v v':List V},Bz S m g n v v'->Bz S' m' g' n' v v'
 | _,_,.nil _=>.nil _
 | _,_,.cons _ v v' l l' p q=>.cons _ v v' l l' (PR.mono k p) (Bz.mono k q)
theorem C7.mono {S S':Nat->Prop} {m m':Nat->Nat} {g g':Nat->Option BJ} {n n':Nat} (k:Ir S m g n S' m' g' n'):∀ {v v':List (List V)},C7 S m g n v v'->C7 S' m' g' n' v v'
 | _,_,.nil _=>.nil _
 | _,_,.cons _ v v' l l' p q=>.cons _ v v' l l' (Bz.mono k p) (C7.mono k q)
end
section
variable {S:Nat->Prop} {m:Nat->Nat} {g:Nat->Option BJ} {n:Nat}
theorem Bz.len:∀ {l l':List V},Bz S m g n l l'->l.length=l'.length
 | _,_,.nil _=>rfl
 | _,_,.cons _ _ _ _ _ _ q=>by simp [q.len]
theorem C7.len:∀ {l l':List (List V)},C7 S m g n l l'->l.length=l'.length
 | _,_,.nil _=>rfl
 | _,_,.cons _ _ _ _ _ _ q=>by simp [q.len]
theorem Bz.get:∀ {l l':List V},Bz S m g n l l'->∀ (j:Nat) (v:V),l[j]?=some v->∃ v',l'[j]?=some v'/\PR S m g n v v'
 | _,_,.nil _,j,v,e=>by simp at e
 | _,_,.cons _ v v' l l' p q,0,w,e=>by simp at e;subst e;exact ⟨v',rfl,p⟩
 | _,_,.cons _ v v' l l' p q,j+1,w,e=>by simp at e;simpa using q.get j w e
theorem C7.get:∀ {l l':List (List V)},C7 S m g n l l'->∀ (j:Nat) (v:List V),l[j]?=some v->∃ v',l'[j]?=some v'/\Bz S m g n v v'
 | _,_,.nil _,j,v,e=>by simp at e
 | _,_,.cons _ v v' l l' p q,0,w,e=>by simp at e;subst e;exact ⟨v',rfl,p⟩
 | _,_,.cons _ v v' l l' p q,j+1,w,e=>by simp at e;simpa using q.get j w e
theorem Bz.app:∀ {a a' b b':List V},Bz S m g n a a'->Bz S m g n b b'->Bz S m g n (a++b) (a'++b')
 | _,_,_,_,.nil _,r=>r
 | _,_,_,_,.cons _ v v' l l' p q,r=>.cons _ v v' _ _ p (q.app r)
theorem C7.app:∀ {a a' b b':List (List V)},C7 S m g n a a'->C7 S m g n b b'->C7 S m g n (a++b) (a'++b')
 | _,_,_,_,.nil _,r=>r
 | _,_,_,_,.cons _ v v' l l' p q,r=>.cons _ v v' _ _ p (q.app r)
theorem Bz.drop:∀ {a a':List V} (k:Nat),Bz S m g n a a'->Bz S m g n (a.drop k) (a'.drop k)
 | _,_,0,r=>r
 | _,_,_+1,.nil _=>.nil _
 | _,_,k+1,.cons _ v v' l l' p q=>by simpa using q.drop k
theorem C7.drop:∀ {a a':List (List V)} (k:Nat),C7 S m g n a a'->C7 S m g n (a.drop k) (a'.drop k)
 | _,_,0,r=>r
 | _,_,_+1,.nil _=>.nil _
 | _,_,k+1,.cons _ v v' l l' p q=>by simpa using q.drop k
theorem Bz.take:∀ {a a':List V} (k:Nat),Bz S m g n a a'->Bz S m g n (a.take k) (a'.take k)
 | _,_,0,r=>.nil _
 | _,_,_+1,.nil _=>.nil _
 | _,_,k+1,.cons _ v v' l l' p q=>by simpa using .cons _ v v' _ _ p (q.take k)
theorem C7.take:∀ {a a':List (List V)} (k:Nat),C7 S m g n a a'->C7 S m g n (a.take k) (a'.take k)
 | _,_,0,r=>.nil _
 | _,_,_+1,.nil _=>.nil _
 | _,_,k+1,.cons _ v v' l l' p q=>by simpa using .cons _ v v' _ _ p (q.take k)
theorem Bz.set:∀ {a a':List V} (k:Nat) {v v':V},Bz S m g n a a'->PR S m g n v v'->Bz S m g n (a.set k v) (a'.set k v')
 | _,_,_,_,_,.nil _,_=>.nil _
 | _,_,0,_,_,.cons _ v v' l l' p q,r=>.cons _ _ _ _ _ r q
 | _,_,k+1,_,_,.cons _ v v' l l' p q,r=>.cons _ _ _ _ _ p (q.set k r)
theorem C7.set:∀ {a a':List (List V)} (k:Nat) {v v':List V},C7 S m g n a a'->Bz S m g n v v'->C7 S m g n (a.set k v) (a'.set k v')
 | _,_,_,_,_,.nil _,_=>.nil _
 | _,_,0,_,_,.cons _ v v' l l' p q,r=>.cons _ _ _ _ _ r q
 | _,_,k+1,_,_,.cons _ v v' l l' p q,r=>.cons _ _ _ _ _ p (q.set k r)
theorem C7.rep {r r':List V} (p:Bz S m g n r r'):∀ k,C7 S m g n (List.replicate k r) (List.replicate k r')
 | 0=>.nil _
 | k+1=>.cons _ _ _ _ _ p (C7.rep p k)
theorem Bz.ov:∀ {c c':List V} (r r':List V) (i:Nat),Bz S m g n c c'->Bz S m g n r r'->Bz S m g n (Go.Ab.over r i c) (Go.Ab.over r' i c')
 | _,_,r,r',i,.nil _,h=>h
 | _,_,r,r',i,.cons _ v v' l l' p q,h=>Bz.ov _ _ (i+1) q (h.set i p)
theorem C7.ov:∀ {c c':List (List V)} (r r':List (List V)) (i:Nat),C7 S m g n c c'->C7 S m g n r r'->C7 S m g n (EL r i c) (EL r' i c')
 | _,_,r,r',i,.nil _,h=>h
 | _,_,r,r',i,.cons _ v v' l l' p q,h=>C7.ov _ _ (i+1) q (h.set i p)
theorem PR.cells {v v':V} (hn:v≠.u) (p:PR S m g n v v'):Bz S m g n v.cells v'.cells:=by
 cases p with
 | u=>exact absurd rfl hn
 | agg _ _ _ q=>exact q
 | b=>exact .cons _ _ _ _ _ (.b _ _) (.nil _)
 | i=>exact .cons _ _ _ _ _ (.i _ _ _) (.nil _)
 | s=>exact .cons _ _ _ _ _ (.s _ _) (.nil _)
 | np=>exact .cons _ _ _ _ _ (.np _) (.nil _)
 | ns=>exact .cons _ _ _ _ _ (.ns _) (.nil _)
 | e0=>exact .cons _ _ _ _ _ (.e0 _) (.nil _)
 | nf=>exact .cons _ _ _ _ _ (.nf _) (.nil _)
 | ni=>exact .cons _ _ _ _ _ (.ni _) (.nil _)
 | p _ id el off h=>exact .cons _ _ _ _ _ (.p _ _ _ _ h) (.nil _)
 | sl _ id el len cap h=>exact .cons _ _ _ _ _ (.sl _ _ _ _ _ h) (.nil _)
 | fl0=>exact .cons _ _ _ _ _ (.fl0 _ _) (.nil _)
 | fl1=>exact .cons _ _ _ _ _ (.fl1 _ _) (.nil _)
 | fl _ sz xs a el cap cs h1 h2 h3 h4 h5 r=>exact .cons _ _ _ _ _ (.fl _ _ _ _ _ _ _ h1 h2 h3 h4 h5 r) (.nil _)
 | fp _ sz xs j off a el cs h1 h2 h3 r=>exact .cons _ _ _ _ _ (.fp _ _ _ _ _ _ _ _ h1 h2 h3 r) (.nil _)
 | f _ fn a c a' c' p q=>exact .cons _ _ _ _ _ (.f _ _ _ _ _ _ p q) (.nil _)
 | ifc _ t v v' p=>exact .cons _ _ _ _ _ (.ifc _ _ _ _ p) (.nil _)
 | tup _ l l' p=>exact .cons _ _ _ _ _ (.tup _ _ _ p) (.nil _)
theorem PR.isCell {v v':V} (hv:v.isCell=true) (p:PR S m g n v v'):v'.isCell=true:=by
 cases p<;>first | rfl | (simp [V.isCell] at hv)
theorem Bz.isCell:∀ {l l':List V},Bz S m g n l l'->l.all V.isCell=true->l'.all V.isCell=true
 | _,_,.nil _,_=>rfl
 | _,_,.cons _ v v' l l' p q,h=>by
  simp only [List.all_cons,Bool.and_eq_true] at h ⊢;exact ⟨p.isCell h.1,q.isCell h.2⟩
theorem DT {v:V} (h:v.cells.all V.isCell=true):v≠.u:=by
 rintro rfl;simp [V.cells,V.isCell] at h
theorem PR.up {v v':V} (p:PR S m g 0 v v') (m':Nat->Nat) (n':Nat):PR S m' g n' v v':=p.mono ⟨λ_ h=>h,λ_ _=>rfl,λi hi=>absurd hi (Nat.not_lt_zero _),Nat.zero_le _⟩
end
structure CG (S:Nat->Prop) (m:Nat->Nat) (h hc:AH):Prop where
 blk:∀ i k,h.get i=some k->i<h.next/\m i<hc.next/\∃ cs,hc.get (m i)=some ⟨k.sz,cs⟩/\C7 S m hc.get h.next k.cs cs
 inj:∀ i j,h.live i->h.live j->m i=m j->i=j
 off:∀ i,h.live i->¬ S (m i)
 low:∀ a,S a->a<hc.next
 lim:∀ i,h.live i->h.lim<=i->hc.lim<=m i
 bnd:hc.lim<=hc.next
 bnd2:h.lim<=h.next
structure E6 (S:Nat->Prop) (m:Nat->Nat) (h hc:AH) (S':Nat->Prop) (m':Nat->Nat) (h' hc':AH):Prop where
 sub:∀ a,S a->S' a
 new:∀ a,S' a->S a\/hc.next<=a\/∃ i,h.live i/\m i=a
 map:∀ i,i<h.next->m' i=m i
 next2:h.next<=h'.next
 next1:hc.next<=hc'.next
 lim2:h'.lim=h.lim
 lim1:hc'.lim=hc.lim
 frame:∀ a,a<hc.next->(∀ i,h.live i->m i≠a)->hc'.get a=hc.get a
 liv:∀ i,h'.live i->(i<h.next/\h.live i)\/hc.next<=m' i
theorem E6.refl {S:Nat->Prop} {m:Nat->Nat} {h hc:AH} (c:CG S m h hc):E6 S m h hc S m h hc:=
 ⟨λ_ h=>h,λ_ h=>.inl h,λ_ _=>rfl,Nat.le_refl _,Nat.le_refl _,rfl,rfl,λ_ _ _=>rfl,λi hi=>.inl ⟨by
  obtain ⟨k,hk⟩:=Option.ne_none_iff_exists'.1 hi;exact (c.blk i k hk).1,hi⟩⟩
theorem E6.trans {S S' S'':Nat->Prop} {m m' m'':Nat->Nat} {h h' h'' hc hc' hc'':AH} (x:E6 S m h hc S' m' h' hc') (y:E6 S' m' h' hc' S'' m'' h'' hc''):E6 S m h hc S'' m'' h'' hc'':=by
 refine ⟨λa q=>y.sub a (x.sub a q),λa q=>?_,λi hi=>(y.map i (Nat.lt_of_lt_of_le hi x.next2)).trans (x.map i hi),Nat.le_trans x.next2 y.next2,Nat.le_trans x.next1 y.next1,y.lim2.trans x.lim2,y.lim1.trans x.lim1,λa ha hn=>?_,λi hi=>?_⟩
 .rcases y.new a q with q | q | ⟨i,hi,rfl⟩
  .exact x.new a q
  .exact .inr (.inl (Nat.le_trans x.next1 q))
  .rcases x.liv i hi with ⟨h1,h2⟩ | h1
   .exact .inr (.inr ⟨i,h2,(x.map i h1).symm⟩)
   .exact .inr (.inl h1)
 .refine (y.frame a (Nat.lt_of_lt_of_le ha x.next1) λi hi=>?_).trans (x.frame a ha hn);rcases x.liv i hi with ⟨h1,h2⟩ | h1
  .rw [x.map i h1];exact hn i h2
  .omega
 .rcases y.liv i hi with ⟨h1,h2⟩ | h1
  .rcases x.liv i h2 with ⟨h3,h4⟩ | h3
   .exact .inl ⟨h3,h4⟩
   .exact .inr (by rw [y.map i h1];exact h3)
  .exact .inr (Nat.le_trans x.next1 h1)
theorem E6.mon {S S':Nat->Prop} {m m':Nat->Nat} {h h' hc hc':AH} (c:CG S m h hc) (x:E6 S m h hc S' m' h' hc'):Ir S m hc.get h.next S' m' hc'.get h'.next:=
 ⟨x.sub,λa ha=>x.frame a (c.low a ha) λi hi he=>c.off i hi (by rw [he];exact ha),x.map,x.next2⟩
theorem CG.alloc {S : Nat -> Prop} {m : Nat -> Nat} {h hc : AH} (c : CG S m h hc) {k kc : BJ} (hsz : kc.sz = k.sz) (hr : C7 S m hc.get h.next k.cs kc.cs) :
    ∃ m',CG S m' (h.alloc k) (hc.alloc kc)/\E6 S m h hc S m' (h.alloc k) (hc.alloc kc)/\m' h.next=hc.next:=by
 let m':Nat->Nat:=λi=>if i=h.next then hc.next else m i
 have lt:∀ i,h.live i->i<h.next:=λi hi=>by
  obtain ⟨k,hk⟩:=Option.ne_none_iff_exists'.1 hi;exact (c.blk i k hk).1
 have mlt:∀ i,h.live i->m i<hc.next:=λi hi=>by
  obtain ⟨k,hk⟩:=Option.ne_none_iff_exists'.1 hi;exact (c.blk i k hk).2.1
 have mm:∀ i,i<h.next->m' i=m i:=λi hi=>by simp only [m'];rw [if_neg om]
 have mn:m' h.next=hc.next:=by simp [m']
 have ga:∀ a,a<hc.next->(hc.alloc kc).get a=hc.get a:=λa ha=>by simp only [AH.alloc];rw [if_neg om]
 have live:∀ i,(h.alloc k).live i->i=h.next\/h.live i:=λi hi=>by
  by_cases e:i=h.next
  .exact .inl e
  .exact .inr (by simpa [AH.live,AH.alloc,e] using hi)
 have pm:Ir S m hc.get h.next S m' (hc.alloc kc).get (h.alloc k).next:=⟨λ_ h=>h,λa ha=>ga a (c.low a ha),mm,Nat.le_succ _⟩
 refine ⟨m',⟨?_, ?_, ?_, ?_, ?_, ?_, ?_⟩,⟨λ_ h=>h,λ_ h=>.inl h,mm,Nat.le_succ _,Nat.le_succ _,rfl,rfl,λa ha _=>ga a ha,λi hi=>?_⟩,mn⟩
 .intro i k' hk'
  by_cases e:i=h.next
  .subst e;have:k'=k:=by simpa [AH.alloc] using hk'.symm
   subst this;rw [mn];refine ⟨Nat.lt_succ_self _,Nat.lt_succ_self _,kc.cs, ?_,hr.mono pm⟩;simp [AH.alloc,<-hsz]
  .have hk2:h.get i=some k':=by simpa [AH.alloc,e] using hk'
   obtain ⟨h1,h2,cs,h3,h4⟩:=c.blk i k' hk2;rw [mm i h1];exact ⟨Nat.lt_succ_of_lt h1,Nat.lt_succ_of_lt h2,cs,by rw [ga _ h2];exact h3,h4.mono pm⟩
 .intro i j hi hj he;rcases live i hi with rfl | hi'<;>rcases live j hj with rfl | hj'
  .rfl
  .rw [mn,mm j (lt j hj')] at he;have:=mlt j hj';omega
  .rw [mn,mm i (lt i hi')] at he;have:=mlt i hi';omega
  .rw [mm i (lt i hi'),mm j (lt j hj')] at he;exact c.inj i j hi' hj' he
 .intro i hi hs;rcases live i hi with rfl | hi'
  .rw [mn] at hs;have:=c.low _ hs;omega
  .rw [mm i (lt i hi')] at hs;exact c.off i hi' hs
 .intro a ha;exact Nat.lt_succ_of_lt (c.low a ha)
 .intro i hi hl;rcases live i hi with rfl | hi'
  .rw [mn];exact c.bnd
  .rw [mm i (lt i hi')];exact c.lim i hi' hl
 .exact Nat.le_succ_of_le c.bnd
 .exact Nat.le_succ_of_le c.bnd2
 .rcases live i hi with rfl | hi'
  .exact .inr (by rw [mn];exact Nat.le_refl _)
  .exact .inl ⟨lt i hi',hi'⟩
theorem CG.put {S : Nat -> Prop} {m : Nat -> Nat} {h hc : AH} (c : CG S m h hc) {id : Nat} {k kc : BJ} (hl : h.live id) (hsz : kc.sz = k.sz) (hr : C7 S m hc.get h.next k.cs kc.cs) :
    CG S m (h.put id k) (hc.put (m id) kc)/\E6 S m h hc S m (h.put id k) (hc.put (m id) kc):=by
 have lt:∀ i,h.live i->i<h.next:=λi hi=>by
  obtain ⟨k,hk⟩:=Option.ne_none_iff_exists'.1 hi;exact (c.blk i k hk).1
 have mlt:∀ i,h.live i->m i<hc.next:=λi hi=>by
  obtain ⟨k,hk⟩:=Option.ne_none_iff_exists'.1 hi;exact (c.blk i k hk).2.1
 have live:∀ i,(h.put id k).live i->h.live i:=λi hi=>by
  by_cases e:i=id
  .rw [e];exact hl
  .simpa [AH.live,AH.put,e] using hi
 have gS:∀ a,a≠m id->(hc.put (m id) kc).get a=hc.get a:=λa ha=>by simp only [AH.put];rw [if_neg ha]
 have pm:Ir S m hc.get h.next S m (hc.put (m id) kc).get (h.put id k).next:=⟨λ_ h=>h,λa ha=>gS a (λe=>c.off id hl (by rw [<- e];exact ha)),λ_ _=>rfl,Nat.le_refl _⟩
 refine ⟨⟨?_,λi j hi hj=>c.inj i j (live i hi) (live j hj),λi hi=>c.off i (live i hi),c.low,λi hi=>c.lim i (live i hi),c.bnd,c.bnd2⟩,⟨λ_ h=>h,λ_ h=>.inl h,λ_ _=>rfl,Nat.le_refl _,Nat.le_refl _,rfl,rfl,λa _ hn=>gS a (λe=>hn id hl e.symm),λi hi=>.inl ⟨lt i (live i hi),live i hi⟩⟩⟩;intro i k' hk'
 by_cases e:i=id
 .subst e;have:k'=k:=by simpa [AH.put] using hk'.symm
  subst this;exact ⟨lt i hl,mlt i hl,kc.cs,by simp [AH.put,<-hsz],hr.mono pm⟩
 .have hk2:h.get i=some k':=by simpa [AH.put,e] using hk'
  obtain ⟨h1,h2,cs,h3,h4⟩:=c.blk i k' hk2;refine ⟨h1,h2,cs, ?_,h4.mono pm⟩;rw [gS _ (λhe=>e (c.inj i id (by simp [AH.live,hk2]) hl he))];exact h3
theorem CG.kill {S : Nat -> Prop} {m : Nat -> Nat} {h hc : AH} (c : CG S m h hc) {id : Nat} (hl : h.live id) :
    CG S m (h.kill id) (hc.kill (m id))/\E6 S m h hc S m (h.kill id) (hc.kill (m id)):=by
 have lt:∀ i,h.live i->i<h.next:=λi hi=>by
  obtain ⟨k,hk⟩:=Option.ne_none_iff_exists'.1 hi;exact (c.blk i k hk).1
 have live:∀ i,(h.kill id).live i->h.live i:=λi hi=>by
  by_cases e:i=id
  .subst e;simp [AH.live,AH.kill] at hi
  .simpa [AH.live,AH.kill,e] using hi
 have gS:∀ a,a≠m id->(hc.kill (m id)).get a=hc.get a:=λa ha=>by simp only [AH.kill];rw [if_neg ha]
 have pm:Ir S m hc.get h.next S m (hc.kill (m id)).get (h.kill id).next:=⟨λ_ h=>h,λa ha=>gS a (λe=>c.off id hl (by rw [<- e];exact ha)),λ_ _=>rfl,Nat.le_refl _⟩
 refine ⟨⟨?_,λi j hi hj=>c.inj i j (live i hi) (live j hj),λi hi=>c.off i (live i hi),c.low,λi hi=>c.lim i (live i hi),c.bnd,c.bnd2⟩,⟨λ_ h=>h,λ_ h=>.inl h,λ_ _=>rfl,Nat.le_refl _,Nat.le_refl _,rfl,rfl,λa _ hn=>gS a (λe=>hn id hl e.symm),λi hi=>.inl ⟨lt i (live i hi),live i hi⟩⟩⟩;intro i k' hk'
 by_cases e:i=id
 .subst e;simp [AH.kill] at hk'
 .have hk2:h.get i=some k':=by simpa [AH.kill,e] using hk'
  obtain ⟨h1,h2,cs,h3,h4⟩:=c.blk i k' hk2;refine ⟨h1,h2,cs, ?_,h4.mono pm⟩;rw [gS _ (λhe=>e (c.inj i id (by simp [AH.live,hk2]) hl he))];exact h3
end Go.Ab
/- Operations over values that stay: what they do, and that the abstract machine does it. -/
namespace Go.Ab
open Go
def plain1:V->Bool
 | .b _ | .i .. | .s _ | .np | .ns | .nf | .ni=>true
 | _=>false
def plain:V->Bool
 | .agg l=>l.all plain1
 | v=>plain1 v
def X.e2 (e:Env):X->V
 | .t n=>e n
 | .c v=>if plain v=true then v else .u
 | .fn f=>.f (.func f) [] []
def ldF (n:Nat) (agg:Bool) (xs:List (List V)) (j off:Nat):Option V:=(xs[j]?).bind λr=>HJ r off n agg
def Fa (sz:Nat) (h:AH):V->Option (List (List V))
 | .fl s xs=>if s=sz then some xs else none
 | v=>AM sz h v
def J0 (sz:Nat) (h:AH) (x:V) (new:List (List V)):Option (V×AH):=
 match x with
 | .e0=>
  if new=[] then some (.e0,h)
  else if new.length<Bc then some (.sl h.next 0 new.length new.length,h.alloc ⟨sz,new⟩) else none
 | .ns=>
  if new=[] then some (.ns,h)
  else if new.length<Bc then some (.sl h.next 0 new.length new.length,h.alloc ⟨sz,new⟩) else none
 | .sl id el len cap=>
  match h.get id with
  | some k=>
   if k.sz=sz/\h.lim<=id/\el+len<=k.cs.length/\len+new.length<Bc then
    if len+new.length<=cap then
     if el+len+new.length<=k.cs.length then some (.sl id el (len+new.length) cap,h.put id ⟨sz,EL k.cs (el+len) new⟩) else none
    else some (.sl h.next 0 (len+new.length) (len+new.length),(h.kill id).alloc ⟨sz,(k.cs.drop el).take len++new⟩)
   else none
  | none=>none
 | _=>none
theorem aLT {sz:Nat} {h:AH} {x y:V}:Vo sz h x y=(AM sz h y).bind (J0 sz h x):=rfl
def tC (g:Option BJ) (sz:Nat) (v i:V):Option V:=match v,g with
 | .sl id el len _,some k=>if k.sz=sz then (BW i len).map λj=>.p id (el+j) 0 else none
 | .fl s xs,_=>if s=sz then (BW i xs.length).map λj=>.fp s xs j 0 else none
 | _,_=>none
def OG (h:AH):V->Option BJ | .sl id _ _ _=>h.get id | _=>none
def BA (tp:TP) (o:O) (ev:X->V) (h:AH):Option (V×AH):=
 match o with
 | .alloc z=>if z.all plain1=true then Ag tp (.alloc z) ev h else none
 | .build z ps=>if z.all plain1=true then Ag tp (.build z ps) ev h else none
 | .bsl sz z n ps=>if z.all plain1=true/\n<Bc then Ag tp (.bsl sz z n ps) ev h else none
 | .alc z=>if z.all plain1=true then Ag tp (.alc z) ev h else none
 | .chka z y=>if z.all plain1=true then Ag tp (.chka z y) ev h else none
 | .bslc sz z n ps=>if z.all plain1=true/\n<Bc then Ag tp (.bslc sz z n ps) ev h else none
 | .chkb sz z n ps y=>if z.all plain1=true then Ag tp (.chkb sz z n ps y) ev h else none
 | .mksl z n c=>if z.all plain1=true then Ag tp (.mksl z n c) ev h else none
 | .appz z x n=>if z.all plain1=true then Ag tp (.appz z x n) ev h else none
 | .tas t ok z x=>if plain z=true then Ag tp (.tas t ok z x) ev h else none
 | .load n agg x=>match ev x with
  | .fp _ xs j off=>(ldF n agg xs j off).map λv=>(v,h)
  | _=>Ag tp (.load n agg x) ev h
 | .fload n agg x=>match ev x with
  | .fp _ xs j off=>(ldF n agg xs j off).map λv=>(v,h)
  | _=>Ag tp (.fload n agg x) ev h
 | .nck x=>match ev x with
  | .fp s xs j off=>some (.fp s xs j off,h)
  | _=>Ag tp (.nck x) ev h
 | .fad off x=>match ev x with
  | .fp s xs j o=>some (.fp s xs j (o+off),h)
  | _=>Ag tp (.fad off x) ev h
 | .iada sz n x i=>match ev x with
  | .fp s xs j o=>(BW (ev i) n).map λk=>(.fp s xs j (o+k*sz),h)
  | _=>Ag tp (.iada sz n x i) ev h
 | .iad sz x i=>(tC (OG h (ev x)) sz (ev x) (ev i)).map λv=>(v,h)
 | .slice sz x lo hi mx=>match ev x with
  | .fl s xs=>if s=sz/\(mx.isNone||hi.isSome)=true then (AO (mx.map ev) xs.length xs.length).bind λm=>(AO (hi.map ev) xs.length m).bind λt=>(AO (lo.map ev) 0 t).map λl=>(.fl s ((xs.drop l).take (t - l)),h) else none
  | _=>Ag tp (.slice sz x lo hi mx) ev h
 | .len x=>match ev x with
  | .fl _ xs=>some (.i .i64 xs.length,h)
  | _=>Ag tp (.len x) ev h
 | .app sz x y=>(Fa sz h (ev y)).bind (J0 sz h (ev x))
 | .b2s x=>match ev x with
  | .fl s xs=>if s=1 then (bytesOf? xs).map λr=>(.s ⟨r.toArray⟩,h) else none
  | _=>Ag tp (.b2s x) ev h
 | .s2b x=>match ev x with
  | .s b=>if b.size<Bc then Ag tp (.s2b x) ev h else none
  | _=>none
 | o=>Ag tp o ev h
section
variable {S:Nat->Prop} {m:Nat->Nat} {g:Nat->Option BJ} {n:Nat}
theorem PR.plain1 {v:V} (h:plain1 v=true):PR S m g n v v:=by
 cases v<;>first | (simp [Go.Ab.plain1] at h;done) | constructor
theorem Bz.plain1:∀ {l:List V},l.all Go.Ab.plain1=true->Bz S m g n l l
 | [],_=>.nil _
 | v::l,h=>by
  simp only [List.all_cons,Bool.and_eq_true] at h;exact .cons _ _ _ _ _ (PR.plain1 h.1) (Bz.plain1 h.2)
theorem PR.plain {v:V} (h:plain v=true):PR S m g n v v:=by
 unfold Go.Ab.plain at h;split at h
 .exact .agg _ _ _ (Bz.plain1 h)
 .exact PR.plain1 h
theorem PR.of_plain1 {v v':V} (h:Go.Ab.plain1 v=true) (p:PR S m g n v v'):v'=v:=by
 cases p<;>first | rfl | (simp [Go.Ab.plain1] at h)
theorem Oz {e e1:Env} (hE:∀ t,PR S m g n (e t) (e1 t)) (x:X):PR S m g n (x.e2 e) (x.ev e1):=by
 cases x with
 | t k=>exact hE k
 | c v=>
  simp only [X.e2,X.ev];split
  .rename_i h;exact PR.plain h
  .exact .u _ _
 | fn f=>exact .f _ _ _ _ _ _ (.nil _) (.nil _)
theorem Vr {op:BinOp} {v w r:V} (h:B1 op v w=some r):Go.Ab.plain1 v=true/\Go.Ab.plain1 w=true/\Go.Ab.plain1 r=true:=by
 unfold B1 at h;split at h
 .refine ⟨rfl,rfl, ?_⟩;split at h
  .split at h<;>simp at h;rw [<- h];rfl
  .split at h<;>simp at h;rw [<- h];rfl
  .split at h
   .unfold GQ at h;split at h<;>(try split at h)<;>simp at h<;>rw [<- h]<;>rfl
   .simp at h
 .refine ⟨rfl,rfl, ?_⟩;unfold Yz at h;split at h<;>(try split at h)<;>simp at h<;>rw [<- h]<;>rfl
 .simp at h
theorem iA {op:UnOp} {v r:V} (h:unV op v=some r):Go.Ab.plain1 v=true/\Go.Ab.plain1 r=true:=by
 unfold unV at h;split at h<;>(try split at h)<;>simp at h<;>rw [<- h]<;>exact ⟨rfl,rfl⟩
theorem Wi {v w r:V} (h:Pc v w=some r):Go.Ab.plain1 v=true/\Go.Ab.plain1 w=true/\Go.Ab.plain1 r=true:=by
 unfold Pc at h;split at h<;>(try split at h)<;>simp at h<;>rw [<- h]<;>exact ⟨rfl,rfl,rfl⟩
theorem Wd {v w r:V} (h:Pb v w=some r):Go.Ab.plain1 v=true/\Go.Ab.plain1 w=true/\Go.Ab.plain1 r=true:=by
 unfold Pb at h;split at h<;>(try split at h)<;>simp at h<;>rw [<- h]<;>exact ⟨rfl,rfl,rfl⟩
theorem Ny {f:V->V->Option V} (hf:∀ {v w r:V},f v w=some r->Go.Ab.plain1 v=true/\Go.Ab.plain1 w=true/\Go.Ab.plain1 r=true):∀ {l l':List V} {v v' r:V},Bz S m g n l l'->PR S m g n v v'->EH f v l=some r->∃ r',EH f v' l'=some r'/\PR S m g n r r'
 | _,_,_,_,_,.nil _,hv,h=>by simp [EH] at h ⊢;subst h;exact hv
 | _,_,_,_,_,.cons _ w w' l l' p q,hv,h=>by
  simp only [EH,Option.bind_eq_some_iff] at h ⊢;obtain ⟨z,hz,h⟩:=h;obtain ⟨h1,h2,h3⟩:=hf hz;obtain ⟨r',hr,hp⟩:=Ny hf q (PR.plain1 h3) h;exact ⟨r',⟨z,by rw [PR.of_plain1 h1 hv,PR.of_plain1 h2 p];exact hz,hr⟩,hp⟩
theorem aMa {k:CK} {v w v' w':V} {r:Bool} (h:RQ k v w=some r) (hv:PR S m g n v v') (hw:PR S m g n w w'):RQ k v' w'=some r:=by
 unfold RQ at h;split at h<;>first | (simp at h;done) | (cases hv;cases hw;simpa [RQ] using h)
theorem Y5:∀ {ks:List CK} {l l' q q':List V} {r:Bool},GS ks l q=some r->Bz S m g n l l'->Bz S m g n q q'->GS ks l' q'=some r
 | [],[],_,[],_,r,h,.nil _,.nil _=>h
 | k::ks,a::l,_,c::q,_,r,h,.cons _ _ a' _ l' p1 p2,.cons _ _ c' _ q' p3 p4=>by
  simp only [GS,Option.bind_eq_some_iff,Option.map_eq_some_iff] at h ⊢;obtain ⟨x,hx,y,hy,rfl⟩:=h;exact ⟨x,aMa hx p1 p3,y,Y5 hy p2 p4,rfl⟩
 | [],[],_,_::_,_,r,h,_,_=>by simp [GS] at h
 | [],_::_,_,_,_,r,h,_,_=>by simp [GS] at h
 | _::_,[],_,_,_,r,h,_,_=>by simp [GS] at h
 | _::_,_::_,_,[],_,r,h,_,_=>by simp [GS] at h
theorem Y7 {k:EK} {v w v' w':V} {r:Bool} (h:FD k v w=some r) (hv:PR S m g n v v') (hw:PR S m g n w w'):FD k v' w'=some r:=by
 unfold FD at h;split at h
 case h_16=>
  cases hv with
  | agg _ _ _ p=>cases hw with
   | agg _ _ _ q=>simpa [FD] using Y5 h p q
 all_goals first | (simp at h;done) | (cases hv;cases hw;simpa [FD] using h)
theorem IE {v v':V} {k j:Nat} (hv:PR S m g n v v') (h:BW v k=some j):BW v' k=some j/\j<k:=by
 unfold BW at h;split at h
 .cases hv;refine ⟨by simpa [BW] using h, ?_⟩;split at h<;>simp at h;omega
 .simp at h
theorem Dg {ev2 ev1:X->V} (hE:∀ x,PR S m g n (ev2 x) (ev1 x)) {x:Option X} {d k j:Nat} (h:AO (x.map ev2) d k=some j):AO (x.map ev1) d k=some j/\(j=d/\x=none\/j<=k):=by
 cases x with
 | none=>simp [AO] at h ⊢;exact ⟨h,.inl h.symm⟩
 | some x=>
  have hv:=hE x;simp only [Option.map_some] at h ⊢;unfold AO at h;split at h
  .simp at *
  .rename_i k' jj hh;simp only [Option.some.injEq] at hh;rw [hh] at hv;cases hv':ev1 x<;>rw [hv'] at hv<;>cases hv;refine ⟨by simpa [AO] using h,.inr ?_⟩;split at h<;>simp at h;omega
  .simp at h
theorem Nm {r r':List V} {off k:Nat} {agg:Bool} {v:V} (p:Bz S m g n r r') (h:HJ r off k agg=some v):∃ v',HJ r' off k agg=some v'/\PR S m g n v v':=by
 unfold HJ at h ⊢;rw [<- p.len];split at h
 .rename_i hle;rw [if_pos hle];split at h
  .rename_i hg;rw [if_pos hg];simp at h;subst h;exact ⟨_,rfl,.agg _ _ _ ((p.drop _).take _)⟩
  .rename_i hg;rw [if_neg hg];split at h
   .rename_i h1;rw [if_pos h1];exact p.get _ _ h
   .simp at h
 .simp at h
theorem OV:∀ {ps ps':List (Nat×Nat×V)} {r r' q:List V},(ps.map λz=>(z.1,z.2.1))=(ps'.map λz=>(z.1,z.2.1))->Bz S m g n (ps.map (·.2.2)) (ps'.map (·.2.2))->Bz S m g n r r'->Fl r ps=some q->∃ q',Fl r' ps'=some q'/\Bz S m g n q q'
 | [],[],_,_,_,_,_,hr,h=>by simp [Fl] at h ⊢;subst h;exact hr
 | [],_::_,_,_,_,e,_,_,_=>by simp at e
 | _::_,[],_,_,_,e,_,_,_=>by simp at e
 | (o,k,v)::ps,(o',k',v')::ps',r,r',q,e,hp,hr,h=>by
  simp only [List.map_cons,List.cons.injEq,Prod.mk.injEq] at e;obtain ⟨⟨rfl,rfl⟩,e⟩:=e;simp only [List.map_cons] at hp
  cases hp with
  | cons _ _ _ _ _ p1 p2=>
   simp only [Fl] at h ⊢;split at h
   .rename_i hc;have hcells:=p1.cells (DT hc.2.2);rw [if_pos ⟨by rw [<- hcells.len];exact hc.1,by rw [<- hr.len];exact hc.2.1,hcells.isCell hc.2.2⟩];exact OV e p2 (Bz.ov _ _ _ hcells hr) h
   .simp at h
theorem HM {sz:Nat}:∀ {ps ps':List (Nat×V)} {r r' q:List (List V)},(ps.map (·.1))=(ps'.map (·.1))->Bz S m g n (ps.map (·.2)) (ps'.map (·.2))->C7 S m g n r r'->Cw sz r ps=some q->∃ q',Cw sz r' ps'=some q'/\C7 S m g n q q'
 | [],[],_,_,_,_,_,hr,h=>by simp [Cw] at h ⊢;subst h;exact hr
 | [],_::_,_,_,_,e,_,_,_=>by simp at e
 | _::_,[],_,_,_,e,_,_,_=>by simp at e
 | (j,v)::ps,(j',v')::ps',r,r',q,e,hp,hr,h=>by
  simp only [List.map_cons,List.cons.injEq] at e;obtain ⟨rfl,e⟩:=e;simp only [List.map_cons] at hp
  cases hp with
  | cons _ _ _ _ _ p1 p2=>
   simp only [Cw] at h ⊢;split at h
   .rename_i hc;have hcells:=p1.cells (DT hc.2.2);rw [if_pos ⟨by rw [<- hcells.len];exact hc.1,by rw [<- hr.len];exact hc.2.1,hcells.isCell hc.2.2⟩];exact HM e p2 (hr.set _ hcells) h
   .simp at h
theorem Ms (x:ByteArray):C7 S m g n (Ck x) (Ck x):=by
 unfold Ck;generalize x.data.toList=l
 induction l with
 | nil=>exact .nil _
 | cons c l ih=>exact .cons _ _ _ _ _ (.cons _ _ _ _ _ (.i _ _ _) (.nil _)) ih
theorem G5:∀ {l l':List (List V)} {r:List UInt8},C7 S m g n l l'->bytesOf? l=some r->bytesOf? l'=some r
 | _,_,r,.nil _,h=>h
 | _,_,r,.cons _ row row' l l' p q,h=>by
  unfold bytesOf? at h;split at h
  .rename_i he;simp at he
  .rename_i he;simp only [List.cons.injEq] at he;obtain ⟨rfl,rfl⟩:=he
   cases p with
   | cons _ _ _ _ _ p1 p2=>
    cases p1;cases p2;simp only [Option.map_eq_some_iff] at h;obtain ⟨z,hz,rfl⟩:=h;simp only [bytesOf?,Option.map_eq_some_iff];exact ⟨z,G5 q hz,rfl⟩
  .simp at h
end
section
variable {S:Nat->Prop} {m:Nat->Nat} {h hc:AH} (c:CG S m h hc)
include c
theorem Kb {sz:Nat} {y y':V} {new:List (List V)} (p:PR S m hc.get h.next y y') (he:Fa sz h y=some new):∃ new',AM sz hc y'=some new'/\C7 S m hc.get h.next new new':=by
 cases p<;>simp only [Fa,AM] at he ⊢<;>try (simp at he;done)
 case s=>split at he<;>simp at he;rename_i h1;subst he;simp [h1];exact Ms _
 case ns=>simp at he;subst he;exact ⟨_,rfl,.nil _⟩
 case e0=>simp at he;subst he;exact ⟨_,rfl,.nil _⟩
 case fl0=>split at he<;>simp at he;subst he;exact ⟨_,rfl,.nil _⟩
 case fl1=>split at he<;>simp at he;subst he;exact ⟨_,rfl,.nil _⟩
 case fl s a el cap cs h1 h2 h3 h4 h5 r=>
  split at he<;>simp at he;rename_i hs;subst he;subst hs;simp only [h2];refine ⟨_,by rw [if_pos ⟨trivial,h4⟩],r.mono ⟨λ_ h=>h,λ_ _=>rfl,λi hi=>absurd hi (Nat.not_lt_zero _),Nat.zero_le _⟩⟩
 case sl id el len cap hid=>
  split at he
  .rename_i k hk;obtain ⟨_,_,cs,hcs,hr⟩:=c.blk id k hk;split at he<;>simp at he;rename_i h1;subst he;simp only [hcs];exact ⟨_,by rw [if_pos ⟨h1.1,by rw [<- hr.len];exact h1.2⟩],(hr.drop _).take _⟩
  .simp at he
end
def A7 (S:Nat->Prop) (m:Nat->Nat) (h hc:AH) (v:V) (h':AH) (r:Option (V×AH)):Prop:=
 ∃ v' hc' S' m',r=some (v',hc')/\CG S' m' h' hc'/\E6 S m h hc S' m' h' hc'/\PR S' m' hc'.get h'.next v v'
section
variable {tp:TP} {S:Nat->Prop} {m:Nat->Nat} {h hc:AH} (c:CG S m h hc)
include c
theorem A7.same {v v':V} {r:Option (V×AH)} (he:r=some (v',hc)) (p:PR S m hc.get h.next v v'):A7 S m h hc v h r:=⟨v',hc,S,m,he,c,E6.refl c,p⟩
theorem A7.alloc {k kc:BJ} (hsz:kc.sz=k.sz) (hr:C7 S m hc.get h.next k.cs kc.cs) (v v':V) (hv:∀ m',m' h.next=hc.next->PR S m' (hc.alloc kc).get (h.next+1) v v') {r:Option (V×AH)} (he:r=some (v',hc.alloc kc)):A7 S m h hc v (h.alloc k) r:=by
 obtain ⟨m',h1,h2,h3⟩:=c.alloc hsz hr;exact ⟨_,_,_,m',he,h1,h2,hv m' h3⟩
theorem HS {n id el off : Nat} {agg : Bool} {k : BJ} {row : List V} {v : V} (hk : h.get id = some k) (hrow : k.cs[el]? = some row) (hv : HJ row off n agg = some v) :
    ∃ v',((hc.get (m id)).bind λk=>(k.cs[el]?).bind λr=>HJ r off n agg)=some v'/\PR S m hc.get h.next v v':=by
 obtain ⟨_,_,cs,hcs,hr⟩:=c.blk id k hk;obtain ⟨row',h1,h2⟩:=hr.get el row hrow;obtain ⟨v',h3,h4⟩:=Nm h2 hv;exact ⟨v',by simp [hcs,h1,h3],h4⟩
theorem bK {n j off sz : Nat} {agg : Bool} {xs : List (List V)} {a el : Nat} {cs : List (List V)} {v : V} (hg : hc.get a = some ⟨sz, cs⟩) (hr : C7 S m hc.get 0 xs ((cs.drop el).take xs.length)) (hv : ldF n agg xs j off = some v) :
    ∃ v',((hc.get a).bind λk=>(k.cs[el+j]?).bind λr=>HJ r off n agg)=some v'/\PR S m hc.get h.next v v':=by
 simp only [ldF,Option.bind_eq_some_iff] at hv;obtain ⟨row,h1,hv⟩:=hv;obtain ⟨row',h2,h3⟩:=hr.get j row h1;obtain ⟨v',h4,h5⟩:=Nm h3 hv;have hj:j<xs.length:=(List.getElem?_eq_some_iff.1 h1).1;rw [List.getElem?_take_of_lt hj,List.getElem?_drop] at h2;exact ⟨v',by simp [hg,h2,h4],h5.up _ _⟩
theorem PK {v w v' w':V} (hs:sameV v w=true) (hv:PR S m hc.get h.next v v') (hw:PR S m hc.get h.next w w'):sameV v' w'=true:=by
 unfold sameV at hs;split at hs
 case h_3=>
  simp only [Bool.and_eq_true,beq_iff_eq] at hs;obtain ⟨⟨⟨rfl,rfl⟩,rfl⟩,rfl⟩:=hs;cases hv;cases hw;simp [sameV]
 case h_4=>
  simp only [Bool.and_eq_true,beq_iff_eq] at hs;obtain ⟨⟨rfl,rfl⟩,rfl⟩:=hs;cases hv;cases hw;simp [sameV]
 all_goals first | (simp at hs;done) | (cases hv;cases hw;simpa [sameV] using hs)
theorem Ho:∀ {l w l' w':List V},Bx l w=true->Bz S m hc.get h.next l l'->Bz S m hc.get h.next w w'->Bx l' w'=true
 | [],[],_,_,_,p,q=>by cases p;cases q;rfl
 | [],_::_,_,_,hs,_,_=>by simp [Bx] at hs
 | _::_,[],_,_,hs,_,_=>by simp [Bx] at hs
 | a::l,b::w,_,_,hs,p,q=>by
  simp only [Bx,Bool.and_eq_true] at hs
  cases p with
  | cons _ _ a' _ l' p1 p2=>
   cases q with
   | cons _ _ b' _ w' q1 q2=>
    simp only [Bx,Bool.and_eq_true];exact ⟨PK c hs.1 p1 q1,Ho hs.2 p2 q2⟩
theorem WI {v w v' w':V} (hs:BL v w=true) (hv:PR S m hc.get h.next v v') (hw:PR S m hc.get h.next w w'):BL v' w'=true:=by
 unfold BL at hs;split at hs
 .cases hv;cases hw;rename_i a p b q;exact Ho c hs p q
 .have h1:=PK c hs hv hw;unfold BL;split
  .simp [sameV] at h1
  .exact h1
theorem Ge:∀ {l w l' w':List (List V)},Bj l w=true->C7 S m hc.get h.next l l'->C7 S m hc.get h.next w w'->Bj l' w'=true
 | [],[],_,_,_,p,q=>by cases p;cases q;rfl
 | [],_::_,_,_,hs,_,_=>by simp [Bj] at hs
 | _::_,[],_,_,hs,_,_=>by simp [Bj] at hs
 | a::l,b::w,_,_,hs,p,q=>by
  simp only [Bj,Bool.and_eq_true] at hs
  cases p with
  | cons _ _ a' _ l' p1 p2=>
   cases q with
   | cons _ _ b' _ w' q1 q2=>
    simp only [Bj,Bool.and_eq_true];exact ⟨Ho c hs.1 p1 q1,Ge hs.2 p2 q2⟩
theorem eH {n id el off : Nat} {k : BJ} {row : List V} {v v' : V} (hlim : h.lim <= id) (hn : 0 < n) (hlen : v.cells.length = n) (hall : v.cells.all V.isCell = true) (hk : h.get id = some k) (hrow : k.cs[el]? = some row) (hle : off + n <= row.length) (p : PR S m hc.get h.next v v') :
    A7 S m h hc .u (h.put id ⟨k.sz,k.cs.set el (over row off v.cells)⟩) (if hc.lim<=m id/\0<n/\v'.cells.length=n/\v'.cells.all V.isCell=true then (hc.get (m id)).bind λk=>(k.cs[el]?).bind λr=>if off+n<=r.length then some (.u,hc.put (m id) ⟨k.sz,k.cs.set el (over r off v'.cells)⟩) else none else none):=by
 have hl:h.live id:=by simp [AH.live,hk]
 obtain ⟨_,_,cs,hcs,hr⟩:=c.blk id k hk;obtain ⟨row',h1,h2⟩:=hr.get el row hrow;have hcells:=p.cells (DT hall);rw [if_pos ⟨c.lim id hl hlim,hn,by rw [<- hcells.len];exact hlen,hcells.isCell hall⟩];obtain ⟨p1,p2⟩:=c.put (id:=id) (k:=⟨k.sz,k.cs.set el (over row off v.cells)⟩) (kc:=⟨k.sz,cs.set el (over row' off v'.cells)⟩) hl rfl (hr.set _ (Bz.ov _ _ _ hcells h2));refine ⟨.u,_,S,m, ?_,p1,p2,.u _ _⟩;simp only [hcs,Option.bind_some,h1];rw [if_pos (by rw [<- h2.len];exact hle)]
theorem aLU {sz:Nat} {x x' v:V} {new new':List (List V)} {h':AH} (p:PR S m hc.get h.next x x') (q:C7 S m hc.get h.next new new') (ha:J0 sz h x new=some (v,h')):A7 S m h hc v h' (J0 sz hc x' new'):=by
 have nil:new=[]↔new'=[]:=by
  have:=q.len;constructor
  .rintro rfl;exact List.eq_nil_of_length_eq_zero this.symm
  .rintro rfl;exact List.eq_nil_of_length_eq_zero this
 unfold J0 at ha;split at ha
 case h_1=>
  cases p;simp only [J0];split at ha
  .rename_i h0;rw [if_pos (nil.1 h0)];simp at ha;obtain ⟨rfl,rfl⟩:=ha;exact A7.same c rfl (.e0 _)
  .rename_i h0;rw [if_neg (λe=>h0 (nil.2 e))];split at ha
   .rename_i hb;simp at ha;obtain ⟨rfl,rfl⟩:=ha;rw [if_pos (by rw [<- q.len];exact hb),<-q.len];exact A7.alloc c (k:=⟨sz,new⟩) (kc:=⟨sz,new'⟩) rfl q _ _ (λm' hm=>by rw [<- hm];exact .sl _ _ _ _ _ (Nat.lt_succ_self _)) rfl
   .simp at ha
 case h_2=>
  cases p;simp only [J0];split at ha
  .rename_i h0;rw [if_pos (nil.1 h0)];simp at ha;obtain ⟨rfl,rfl⟩:=ha;exact A7.same c rfl (.ns _)
  .rename_i h0;rw [if_neg (λe=>h0 (nil.2 e))];split at ha
   .rename_i hb;simp at ha;obtain ⟨rfl,rfl⟩:=ha;rw [if_pos (by rw [<- q.len];exact hb),<-q.len];exact A7.alloc c (k:=⟨sz,new⟩) (kc:=⟨sz,new'⟩) rfl q _ _ (λm' hm=>by rw [<- hm];exact .sl _ _ _ _ _ (Nat.lt_succ_self _)) rfl
   .simp at ha
 case h_3 id el len cap=>
  cases p;rename_i hid;split at ha
  case h_2=>simp at ha
  rename_i k hk;split at ha
  case isFalse=>simp at ha
  rename_i hcond;obtain ⟨hsz,hlim,hel,hbig⟩:=hcond;have hl:h.live id:=by simp [AH.live,hk]
  obtain ⟨_,_,cs,hcs,hr⟩:=c.blk id k hk;simp only [J0,hcs];rw [if_pos ⟨hsz,c.lim id hl hlim,by rw [<- hr.len];exact hel,by rw [<- q.len];exact hbig⟩];split at ha
  .rename_i hcap;rw [if_pos (by rw [<- q.len];exact hcap)];split at ha
   case isFalse=>simp at ha
   rename_i hfit;simp at ha;obtain ⟨rfl,rfl⟩:=ha;rw [if_pos (by rw [<- hr.len,<-q.len];exact hfit)];obtain ⟨p1,p2⟩:=c.put (id:=id) (k:=⟨sz,EL k.cs (el+len) new⟩) (kc:=⟨sz,EL cs (el+len) new'⟩) hl rfl (C7.ov _ _ _ q hr);exact ⟨_,_,S,m,rfl,p1,p2,by rw [<- q.len];exact .sl _ _ _ _ _ hid⟩
  .rename_i hcap;rw [if_neg (by rw [<- q.len];exact hcap)];simp at ha;obtain ⟨rfl,rfl⟩:=ha;obtain ⟨c1,a1⟩:=c.kill (id:=id) hl;have mk:∀ {l l':List (List V)},C7 S m hc.get h.next l l'->C7 S m (hc.kill (m id)).get (h.kill id).next l l':=λr=>r.mono (a1.mon c);obtain ⟨m',c2,a2,hm⟩:=c1.alloc (k:=⟨sz,(k.cs.drop el).take len++new⟩) (kc:=⟨sz,(cs.drop el).take len++new'⟩) rfl (mk (((hr.drop _).take _).app q));refine ⟨_,_,S,m',rfl,c2,a1.trans a2, ?_⟩;rw [<- q.len];have:(hc.kill (m id)).next=hc.next:=rfl;have e:hc.next=m' h.next:=hm.symm;rw [e];exact .sl _ _ _ _ _ (Nat.lt_succ_self _)
 case h_4=>simp at ha
theorem aL4 {ev2 ev1:X->V} (hE:∀ x,PR S m hc.get h.next (ev2 x) (ev1 x)) {o:O} {v:V} {h':AH} (hd:BA tp o ev2 h=some (v,h')):A7 S m h hc v h' (Ag tp o ev1 hc):=by
 cases o
 case mv x=>simp [BA,Ag] at hd;obtain ⟨rfl,rfl⟩:=hd;exact A7.same c rfl (hE x)
 case pick a b d=>
  simp only [BA,Ag] at hd ⊢;split at hd
  .rename_i x hx;have:=hE a;rw [hx] at this;cases hx':ev1 a<;>rw [hx'] at this<;>cases this;simp at hd;obtain ⟨rfl,rfl⟩:=hd;refine A7.same c rfl ?_;split
   .exact hE b
   .exact hE d
  .simp at hd
 case alloc z=>
  simp only [BA] at hd;split at hd
  case isFalse=>simp at hd
  rename_i hz;simp [Ag] at hd;obtain ⟨rfl,rfl⟩:=hd;exact A7.alloc c (k:=⟨z.length,[z]⟩) (kc:=⟨z.length,[z]⟩) rfl (.cons _ _ _ _ _ (Bz.plain1 hz) (.nil _)) _ _ (λm' hm=>by rw [<- hm];exact .p _ _ _ _ (Nat.lt_succ_self _)) rfl
 case alc z=>
  simp only [BA] at hd;split at hd
  case isFalse=>simp at hd
  rename_i hz;simp [Ag] at hd;obtain ⟨rfl,rfl⟩:=hd;exact A7.alloc c (k:=⟨z.length,[z]⟩) (kc:=⟨z.length,[z]⟩) rfl (.cons _ _ _ _ _ (Bz.plain1 hz) (.nil _)) _ _ (λm' hm=>by rw [<- hm];exact .p _ _ _ _ (Nat.lt_succ_self _)) rfl
 case chka z y=>
  simp only [BA] at hd;split at hd
  case isFalse=>simp at hd
  rename_i hz;simp only [Ag] at hd;have hy:=hE y;split at hd
  case h_2=>simp at hd
  rename_i id el off hx;rw [hx] at hy;cases hx':ev1 y<;>rw [hx'] at hy<;>cases hy;simp only [Option.bind_eq_some_iff] at hd;obtain ⟨b,hb,hd⟩:=hd;split at hd
  case isFalse=>simp at hd
  rename_i hs;simp at hd;obtain ⟨rfl,rfl⟩:=hd;obtain ⟨_,_,cs1,hcs,hr⟩:=c.blk id b hb;refine A7.same c (v':=.u) ?_ (.u _ _);simp only [Ag,hx',hcs,Option.bind_some];rw [if_pos ⟨hs.1,hs.2.1,hs.2.2.1,Ge c hs.2.2.2 hr (.cons _ _ _ _ _ (Bz.plain1 hz) (.nil _))⟩]
 case box x=>
  simp only [BA,Ag] at hd ⊢;split at hd
  case isFalse=>simp at hd
  rename_i hz;simp at hd;obtain ⟨rfl,rfl⟩:=hd;have hcells:=(hE x).cells (DT hz);rw [if_pos (hcells.isCell hz)];exact A7.alloc c (k:=⟨(ev2 x).cells.length,[(ev2 x).cells]⟩) (kc:=⟨(ev1 x).cells.length,[(ev1 x).cells]⟩) hcells.len.symm (.cons _ _ _ _ _ hcells (.nil _)) _ _ (λm' hm=>by rw [<- hm];exact .p _ _ _ _ (Nat.lt_succ_self _)) rfl
 case build z ps=>
  simp only [BA] at hd;split at hd
  case isFalse=>simp at hd
  rename_i hz;simp only [Ag,Option.map_eq_some_iff,Prod.mk.injEq] at hd ⊢;obtain ⟨q,hq,rfl,rfl⟩:=hd;obtain ⟨q',h1,h2⟩:=OV (ps:=ps.map λq=>(q.1,q.2.1,ev2 q.2.2)) (ps':=ps.map λq=>(q.1,q.2.1,ev1 q.2.2)) (by simp [Function.comp_def]) (by
   simp only [List.map_map,Function.comp_def];clear hq
   induction ps with
   | nil=>exact .nil _
   | cons a l ih=>exact .cons _ _ _ _ _ (hE _) ih) (Bz.plain1 (S:=S) (m:=m) (g:=hc.get) (n:=h.next) hz) hq
  exact A7.same c (by rw [h1];rfl) (.agg _ _ _ h2)
 case bsl sz z k ps=>
  simp only [BA] at hd;split at hd
  case isFalse=>simp at hd
  rename_i hz;simp only [Ag,Option.map_eq_some_iff,Prod.mk.injEq] at hd ⊢;obtain ⟨q,hq,rfl,rfl⟩:=hd;obtain ⟨q',h1,h2⟩:=HM (ps:=ps.map λq=>(q.1,ev2 q.2)) (ps':=ps.map λq=>(q.1,ev1 q.2)) (by simp [Function.comp_def]) (by
   simp only [List.map_map,Function.comp_def];clear hq
   induction ps with
   | nil=>exact .nil _
   | cons a l ih=>exact .cons _ _ _ _ _ (hE _) ih) (C7.rep (Bz.plain1 (S:=S) (m:=m) (g:=hc.get) (n:=h.next) hz.1) k) hq
  exact A7.alloc c (k:=⟨sz,q⟩) (kc:=⟨sz,q'⟩) rfl h2 _ (.sl hc.next 0 k k) (λm' hm=>by rw [<- hm];exact .sl _ _ _ _ _ (Nat.lt_succ_self _)) (by rw [h1];rfl)
 case bslc sz z k ps=>
  simp only [BA] at hd;split at hd
  case isFalse=>simp at hd
  rename_i hz;simp only [Ag,Option.map_eq_some_iff,Prod.mk.injEq] at hd ⊢;obtain ⟨q,hq,rfl,rfl⟩:=hd;obtain ⟨q',h1,h2⟩:=HM (ps:=ps.map λq=>(q.1,ev2 q.2)) (ps':=ps.map λq=>(q.1,ev1 q.2)) (by simp [Function.comp_def]) (by
   simp only [List.map_map,Function.comp_def];clear hq
   induction ps with
   | nil=>exact .nil _
   | cons a l ih=>exact .cons _ _ _ _ _ (hE _) ih) (C7.rep (Bz.plain1 (S:=S) (m:=m) (g:=hc.get) (n:=h.next) hz.1) k) hq
  exact A7.alloc c (k:=⟨sz,q⟩) (kc:=⟨sz,q'⟩) rfl h2 _ (.sl hc.next 0 k k) (λm' hm=>by rw [<- hm];exact .sl _ _ _ _ _ (Nat.lt_succ_self _)) (by rw [h1];rfl)
 case chkb sz z k ps y=>
  simp only [BA] at hd;split at hd
  case isFalse=>simp at hd
  rename_i hz;simp only [Ag] at hd;have hy:=hE y;split at hd
  case h_2=>simp at hd
  rename_i id el len cap hx;rw [hx] at hy;cases hx':ev1 y<;>rw [hx'] at hy<;>cases hy;simp only [Option.bind_eq_some_iff] at hd;obtain ⟨q,hq,b,hb,hd⟩:=hd;split at hd
  case isFalse=>simp at hd
  rename_i hs;simp at hd;obtain ⟨rfl,rfl⟩:=hd;obtain ⟨q',h1,h2⟩:=HM (ps:=ps.map λq=>(q.1,ev2 q.2)) (ps':=ps.map λq=>(q.1,ev1 q.2)) (by simp [Function.comp_def]) (by
   simp only [List.map_map,Function.comp_def];clear hq
   induction ps with
   | nil=>exact .nil _
   | cons a l ih=>exact .cons _ _ _ _ _ (hE _) ih) (C7.rep (Bz.plain1 (S:=S) (m:=m) (g:=hc.get) (n:=h.next) hz) k) hq
  obtain ⟨_,_,cs1,hcs,hr⟩:=c.blk id b hb;refine A7.same c (v':=.u) ?_ (.u _ _);simp only [Ag,hx',h1,Option.bind_some,hcs];rw [if_pos ⟨hs.1,hs.2.1,hs.2.2.1,hs.2.2.2.1,Ge c hs.2.2.2.2 hr h2⟩]
 case e0=>simp [BA,Ag] at hd;obtain ⟨rfl,rfl⟩:=hd;exact A7.same c rfl (.e0 _)
 case load k agg x=>
  have hv:=hE x;simp only [BA] at hd;split at hd
  .rename_i hx;rw [hx] at hv;simp only [Option.map_eq_some_iff,Prod.mk.injEq] at hd;obtain ⟨w,hw,rfl,rfl⟩:=hd;cases hx':ev1 x<;>rw [hx'] at hv<;>cases hv;rename_i cs h3 h4 h1 h2;obtain ⟨w',h5,h6⟩:=bK c h2 h4 hw;refine A7.same c ?_ h6;simp only [Ag,hx'];simp only [Option.bind_eq_some_iff] at h5 ⊢;obtain ⟨b,hb,r,hr,hcut⟩:=h5;exact ⟨b,hb,r,hr,by rw [hcut];rfl⟩
  .simp only [Ag] at hd;split at hd
   .rename_i id el off hx;rw [hx] at hv;cases hx':ev1 x<;>rw [hx'] at hv<;>cases hv;simp only [Option.bind_eq_some_iff,Option.map_eq_some_iff,Prod.mk.injEq] at hd;obtain ⟨b,hb,r,hr,w,hw,rfl,rfl⟩:=hd;obtain ⟨w',h5,h6⟩:=HS c hb hr hw;refine A7.same c ?_ h6;simp only [Ag,hx'];simp only [Option.bind_eq_some_iff] at h5 ⊢;obtain ⟨b,hb,r,hr,hcut⟩:=h5;exact ⟨b,hb,r,hr,by rw [hcut];rfl⟩
   .simp at hd
 case fload k ag x=>
  have hv:=hE x;simp only [BA] at hd;split at hd
  .rename_i hx;rw [hx] at hv;simp only [Option.map_eq_some_iff,Prod.mk.injEq] at hd;obtain ⟨w,hw,rfl,rfl⟩:=hd;cases hx':ev1 x<;>rw [hx'] at hv<;>cases hv;rename_i cs h3 h4 h1 h2;obtain ⟨w',h5,h6⟩:=bK c h2 h4 hw;refine A7.same c ?_ h6;simp only [Ag,hx'];simp only [Option.bind_eq_some_iff] at h5 ⊢;obtain ⟨b,hb,r,hr,hcut⟩:=h5;exact ⟨b,hb,r,hr,by rw [hcut];rfl⟩
  .simp only [Ag] at hd;split at hd
   .rename_i id el off hx;rw [hx] at hv;cases hx':ev1 x<;>rw [hx'] at hv<;>cases hv;simp only [Option.bind_eq_some_iff,Option.map_eq_some_iff,Prod.mk.injEq] at hd;obtain ⟨b,hb,r,hr,w,hw,rfl,rfl⟩:=hd;obtain ⟨w',h5,h6⟩:=HS c hb hr hw;refine A7.same c ?_ h6;simp only [Ag,hx'];simp only [Option.bind_eq_some_iff] at h5 ⊢;obtain ⟨b,hb,r,hr,hcut⟩:=h5;exact ⟨b,hb,r,hr,by rw [hcut];rfl⟩
   .simp at hd
 case chk k ag x y=>
  have hv:=hE x;simp only [BA,Ag] at hd;split at hd
  .rename_i id el off hx;rw [hx] at hv;cases hx':ev1 x<;>rw [hx'] at hv<;>cases hv;simp only [Option.bind_eq_some_iff] at hd;obtain ⟨b,hb,r,hr,w,hw,hd⟩:=hd;split at hd
   case isFalse=>simp at hd
   rename_i hs;simp at hd;obtain ⟨rfl,rfl⟩:=hd;obtain ⟨w',h5,h6⟩:=HS c hb hr hw;refine A7.same c (v':=.u) ?_ (.u _ _);simp only [Ag,hx'];simp only [Option.bind_eq_some_iff] at h5 ⊢;obtain ⟨b,hb,r,hr,hcut⟩:=h5;exact ⟨b,hb,r,hr,_,hcut,by rw [if_pos (WI c hs h6 (hE y))]⟩
  .simp at hd
 case store k a x=>
  have hv:=hE a;simp only [BA,Ag] at hd;split at hd
  .rename_i id el off hx;rw [hx] at hv;split at hd
   case isFalse=>simp at hd
   rename_i hcond;obtain ⟨h1,h2,h3,h4⟩:=hcond;simp only [Option.bind_eq_some_iff] at hd;obtain ⟨b,hb,r,hr,hd⟩:=hd;split at hd
   case isFalse=>simp at hd
   rename_i hle;simp at hd;obtain ⟨rfl,rfl⟩:=hd;cases hx':ev1 a<;>rw [hx'] at hv<;>cases hv;simp only [Ag,hx'];exact eH c h1 h2 h3 h4 hb hr hle (hE x)
  .simp at hd
 case nck x=>
  have hv:=hE x;simp only [BA] at hd;split at hd
  .rename_i hx;rw [hx] at hv;simp at hd;obtain ⟨rfl,rfl⟩:=hd;cases hx':ev1 x<;>rw [hx'] at hv<;>cases hv;exact A7.same c (v':=ev1 x) (by simp only [Ag,hx']) (by rw [hx'];constructor<;>assumption)
  .simp only [Ag] at hd;split at hd
   .rename_i hx;rw [hx] at hv;simp at hd;obtain ⟨rfl,rfl⟩:=hd;cases hx':ev1 x<;>rw [hx'] at hv<;>cases hv;exact A7.same c (v':=ev1 x) (by simp only [Ag,hx']) (by rw [hx'];constructor;assumption)
   .rename_i hx;rw [hx] at hv;simp at hd;obtain ⟨rfl,rfl⟩:=hd;cases hx':ev1 x<;>rw [hx'] at hv<;>cases hv;exact A7.same c (v':=ev1 x) (by simp only [Ag,hx']) (by rw [hx'];constructor;assumption)
   .rename_i hx;rw [hx] at hv;simp at hd;obtain ⟨rfl,rfl⟩:=hd;cases hx':ev1 x<;>rw [hx'] at hv<;>cases hv;exact A7.same c (v':=ev1 x) (by simp only [Ag,hx']) (by rw [hx'];constructor<;>assumption)
   .rename_i hx;rw [hx] at hv;split at hd
    case isFalse=>simp at hd
    rename_i hdir;simp at hd;obtain ⟨rfl,rfl⟩:=hd;cases hx':ev1 x<;>rw [hx'] at hv<;>cases hv;rename_i h1 h2
    cases h1 with
    | cons _ _ _ _ _ p q=>
     cases p with
     | ifc _ _ _ _ p=>exact A7.same c (v':=ev1 x) (by simp only [Ag,hx'];rw [if_pos hdir]) (by rw [hx'];exact .f _ _ _ _ _ _ (.cons _ _ _ _ _ (.ifc _ _ _ _ p) q) h2)
   .simp at hd
 case bin op x y=>
  simp only [BA,Ag,Option.map_eq_some_iff,Prod.mk.injEq] at hd ⊢;obtain ⟨r,hr,rfl,rfl⟩:=hd;obtain ⟨h1,h2,h3⟩:=Vr hr;exact A7.same c (by rw [PR.of_plain1 h1 (hE x),PR.of_plain1 h2 (hE y),hr];rfl) (PR.plain1 h3)
 case eq neg k x y=>
  simp only [BA,Ag,Option.map_eq_some_iff,Prod.mk.injEq] at hd ⊢;obtain ⟨r,hr,rfl,rfl⟩:=hd;exact A7.same c (by rw [Y7 hr (hE x) (hE y)];rfl) (.b _ _)
 case un op x=>
  simp only [BA,Ag,Option.map_eq_some_iff,Prod.mk.injEq] at hd ⊢;obtain ⟨r,hr,rfl,rfl⟩:=hd;obtain ⟨h1,h2⟩:=iA hr;exact A7.same c (by rw [PR.of_plain1 h1 (hE x),hr];rfl) (PR.plain1 h2)
 case conv k x=>
  have hv:=hE x;simp only [BA,Ag] at hd;split at hd
  .rename_i hx;rw [hx] at hv;simp at hd;obtain ⟨rfl,rfl⟩:=hd;cases hx':ev1 x<;>rw [hx'] at hv<;>cases hv;exact A7.same c (by simp only [Ag,hx']) (.i _ _ _)
  .simp at hd
 case strs x=>
  have hv:=hE x;simp only [BA,Ag] at hd;split at hd
  .rename_i hx;rw [hx] at hv;simp at hd;obtain ⟨rfl,rfl⟩:=hd;cases hx':ev1 x<;>rw [hx'] at hv<;>cases hv;exact A7.same c (by simp only [Ag,hx']) (.s _ _)
  .simp at hd
 case mark x=>
  have hv:=hE x;simp only [BA,Ag] at hd;split at hd
  .rename_i id el len cap hx;rw [hx] at hv;split at hd
   case isFalse=>simp at hd
   rename_i hcond;simp at hd;obtain ⟨rfl,rfl⟩:=hd;cases hx':ev1 x<;>rw [hx'] at hv<;>cases hv;rename_i hid;obtain ⟨b,hb⟩:=Option.isSome_iff_exists.1 hcond.1;obtain ⟨_,_,cs,hcs,_⟩:=c.blk _ b hb;exact A7.same c (by simp only [Ag,hx'];rw [if_pos ⟨by rw [hcs];rfl,c.lim _ (by simp [AH.live,hb]) hcond.2.1,hcond.2.2⟩]) (.sl _ _ _ _ _ hid)
  .simp at hd
 case s2b x=>
  have hv:=hE x;simp only [BA] at hd;split at hd
  .rename_i b hx;rw [hx] at hv;split at hd
   case isFalse=>simp at hd
   simp [Ag,hx] at hd;obtain ⟨rfl,rfl⟩:=hd;cases hx':ev1 x<;>rw [hx'] at hv<;>cases hv;exact A7.alloc c (k:=⟨1,Ck b⟩) (kc:=⟨1,Ck b⟩) rfl (Ms b) _ (.sl hc.next 0 b.size b.size) (λm' hm=>by rw [<- hm];exact .sl _ _ _ _ _ (Nat.lt_succ_self _)) (by simp only [Ag,hx'])
  .simp at hd
 case b2s x=>
  have hv:=hE x;simp only [BA] at hd;split at hd
  .rename_i s xs hx;split at hd
   case isFalse=>simp at hd
   rename_i h1;subst h1;simp only [Option.map_eq_some_iff,Prod.mk.injEq] at hd;obtain ⟨r,hr,rfl,rfl⟩:=hd;obtain ⟨new',h2,h3⟩:=Kb c hv (sz:=1) (new:=xs) (by simp [Fa,hx]);refine A7.same c (v':=.s ⟨r.toArray⟩) ?_ (.s _ _);simp only [Ag];split
   .rename_i hx';rw [hx,hx'] at hv;cases hv
   .rw [h2];simp [G5 h3 hr]
  .rename_i hx;simp only [Ag] at hd;split at hd
   .simp at hd
   .rename_i hs;simp only [Option.bind_eq_some_iff,Option.map_eq_some_iff,Prod.mk.injEq] at hd;obtain ⟨l,hl,r,hr,rfl,rfl⟩:=hd;have hl2:Fa 1 h (ev2 x)=some l:=by
     unfold Fa;split
     .rename_i heq;exact absurd heq (hx _ _)
     .exact hl
    obtain ⟨new',h2,h3⟩:=Kb c hv hl2;refine A7.same c (v':=.s ⟨r.toArray⟩) ?_ (.s _ _);simp only [Ag];split
    .rename_i b hx';rw [hx'] at hv;cases hx2:ev2 x<;>rw [hx2] at hv hl hs<;>cases hv
     .simp [AM] at hl
     .exact absurd rfl (hs _)
    .rw [h2];simp [G5 h3 hr]
 case i2s x=>
  have hv:=hE x;simp only [BA,Ag] at hd;split at hd
  .rename_i hx;rw [hx] at hv;simp at hd;obtain ⟨rfl,rfl⟩:=hd;cases hx':ev1 x<;>rw [hx'] at hv<;>cases hv;exact A7.same c (by simp only [Ag,hx']) (.s _ _)
  .simp at hd
 case mkif t x=>simp [BA,Ag] at hd;obtain ⟨rfl,rfl⟩:=hd;exact A7.same c rfl (.ifc _ _ _ _ (hE x))
 case mkfn fn a b=>
  simp [BA,Ag] at hd;obtain ⟨rfl,rfl⟩:=hd;have all:∀ l:List X,Bz S m hc.get h.next (l.map ev2) (l.map ev1):=λl=>by
   induction l with
   | nil=>exact .nil _
   | cons a l ih=>exact .cons _ _ _ _ _ (hE _) ih
  exact A7.same c rfl (.f _ _ _ _ _ _ (all a) (all b))
 case mksl z a b=>
  have hva:=hE a;have hvb:=hE b;simp only [BA] at hd;split at hd
  case isFalse=>simp at hd
  rename_i hz;simp only [Ag] at hd;split at hd
  .rename_i ha hb;rw [ha] at hva;rw [hb] at hvb;split at hd
   case isFalse=>simp at hd
   rename_i hcond;simp at hd;obtain ⟨rfl,rfl⟩:=hd;cases ha':ev1 a<;>rw [ha'] at hva<;>cases hva;cases hb':ev1 b<;>rw [hb'] at hvb<;>cases hvb;rename_i k1 n1 k2 n2;exact A7.alloc c (k:=⟨z.length,List.replicate n2.toNat z⟩) (kc:=⟨z.length,List.replicate n2.toNat z⟩) rfl (C7.rep (Bz.plain1 hz) _) _ (.sl hc.next 0 n1.toNat n2.toNat) (λm' hm=>by rw [<- hm];exact .sl _ _ _ _ _ (Nat.lt_succ_self _)) (by simp only [Ag,ha',hb'];rw [if_pos hcond])
  .simp at hd
 case appz z a b=>
  have hva:=hE a;have hvb:=hE b;simp only [BA] at hd;split at hd
  case isFalse=>simp at hd
  rename_i hz;simp only [Ag] at hd;split at hd
  .rename_i ha hb;rw [ha] at hva;rw [hb] at hvb;split at hd
   case isFalse=>simp at hd
   rename_i hcond;simp at hd;obtain ⟨rfl,rfl⟩:=hd;cases ha':ev1 a<;>rw [ha'] at hva<;>cases hva;cases hb':ev1 b<;>rw [hb'] at hvb<;>cases hvb;rename_i k2 n2;exact A7.alloc c (k:=⟨z.length,List.replicate n2.toNat z⟩) (kc:=⟨z.length,List.replicate n2.toNat z⟩) rfl (C7.rep (Bz.plain1 hz) _) _ (.sl hc.next 0 n2.toNat n2.toNat) (λm' hm=>by rw [<- hm];exact .sl _ _ _ _ _ (Nat.lt_succ_self _)) (by simp only [Ag,ha',hb'];rw [if_pos hcond])
  .simp at hd
 case slice sz x lo hi mx=>
  have hv:=hE x;simp only [BA] at hd;split at hd
  .rename_i s xs hx;rw [hx] at hv;split at hd
   case isFalse=>simp at hd
   rename_i hcond;obtain ⟨rfl,hcond⟩:=hcond;simp only [Option.bind_eq_some_iff,Option.map_eq_some_iff,Prod.mk.injEq] at hd;obtain ⟨mm,h1,t,h2,l,h3,rfl,rfl⟩:=hd;obtain ⟨g1,g1'⟩:=Dg hE h1;obtain ⟨g2,g2'⟩:=Dg hE h2;obtain ⟨g3,g3'⟩:=Dg hE h3;have hml:mm<=xs.length:=by rcases g1' with ⟨h,_⟩ | h<;>omega
   have htl:t<=xs.length:=by
    rcases g2' with ⟨h,_⟩ | h
    .omega
    .omega
   have htm:t<=mm:=by
    rcases g2' with ⟨h,hn⟩ | h
    .subst hn;rcases g1' with ⟨h1',_⟩ | h1'
     .omega
     .cases mx with
      | none=>simp [AO] at h1;omega
      | some=>simp at hcond
    .exact h
   have hlt:l<=t:=by rcases g3' with ⟨h,_⟩ | h<;>omega
   cases hx':ev1 x<;>rw [hx'] at hv<;>cases hv
   .-- nil
    simp only [List.length_nil] at *;obtain rfl:mm=0:=by omega
    obtain rfl:t=0:=by omega
    obtain rfl:l=0:=by omega
    refine A7.same c (v':=.ns) ?_ (by simpa using .fl0 _ _);simp only [Ag,hx'];rw [if_pos hcond,g1];simp [g2,g3]
   .simp only [List.length_nil] at *;obtain rfl:mm=0:=by omega
    obtain rfl:t=0:=by omega
    obtain rfl:l=0:=by omega
    refine A7.same c (v':=.e0) ?_ (by simpa using .fl1 _ _);simp only [Ag,hx'];rw [if_pos hcond,g1];simp [g2,g3]
   .rename_i a el cap cs q5 q1 q2 q4 q6 q3
    -- the bounds of the abstract machine: its room may be greater
    have k1:∃ mm',AO (mx.map ev1) cap cap=some mm'/\mm<=mm':=by
     cases mx with
     | none=>refine ⟨cap,rfl, ?_⟩;simp [AO] at h1;omega
     | some y=>
      simp only [Option.map_some] at g1 ⊢;unfold AO at g1 ⊢;split at g1
      .simp at *
      .rename_i k' jj hh;simp only [Option.some.injEq] at hh;split at g1
       .simp at g1;subst g1;exact ⟨jj.toNat,by rw [if_pos om],Nat.le_refl _⟩
       .simp at g1
      .simp at g1
    obtain ⟨mm',k1,k1'⟩:=k1;have k2:AO (hi.map ev1) xs.length mm'=some t:=by
     cases hi with
     | none=>simpa [AO] using g2
     | some y=>
      simp only [Option.map_some] at g2 ⊢;unfold AO at g2 ⊢;split at g2
      .simp at *
      .rename_i k' jj hh;simp only [Option.some.injEq] at hh;split at g2
       .simp at g2;subst g2;rw [if_pos om]
       .simp at g2
      .simp at g2
    refine A7.same c (v':=.sl a (el+l) (t - l) (mm' - l)) ?_ ?_
    .simp only [Ag,hx',q2,Option.bind_some];rw [if_pos ⟨trivial,hcond,q3⟩,k1];simp [k2,g3]
    .have hlen:((xs.drop l).take (t - l)).length=t - l:=by simp;omega
     have e:(((cs.drop el).take xs.length).drop l).take (t - l)=(cs.drop (el+l)).take (t - l):=by
      rw [List.drop_take,List.take_take,List.drop_drop]
      congr 1
      omega
     have:=PR.fl (S:=S) (m:=m) (g:=hc.get) h.next s ((xs.drop l).take (t - l)) a (el+l) (mm' - l) cs q1 q2 (by rw [hlen];omega) (by rw [hlen];omega) (by rw [hlen];unfold Hc at *;omega) (by rw [hlen,<-e];exact (q6.drop l).take (t - l));rw [hlen] at this;exact this
  .simp only [Ag] at hd;split at hd
   .rename_i hx;rw [hx] at hv;split at hd
    case isFalse=>simp at hd
    rename_i hcond;simp only [Option.bind_eq_some_iff,Option.map_eq_some_iff,Prod.mk.injEq] at hd;obtain ⟨mm,h1,t,h2,l,h3,rfl,rfl⟩:=hd;cases hx':ev1 x<;>rw [hx'] at hv<;>cases hv;refine A7.same c (v':=.ns) ?_ (.ns _);simp only [Ag,hx'];rw [if_pos hcond,(Dg hE h1).1];simp [(Dg hE h2).1,(Dg hE h3).1]
   .rename_i hx;rw [hx] at hv;split at hd
    case isFalse=>simp at hd
    rename_i hcond;simp only [Option.bind_eq_some_iff,Option.map_eq_some_iff,Prod.mk.injEq] at hd;obtain ⟨mm,h1,t,h2,l,h3,rfl,rfl⟩:=hd;cases hx':ev1 x<;>rw [hx'] at hv<;>cases hv;refine A7.same c (v':=.e0) ?_ (.e0 _);simp only [Ag,hx'];rw [if_pos hcond,(Dg hE h1).1];simp [(Dg hE h2).1,(Dg hE h3).1]
   .rename_i id el len cap hx;rw [hx] at hv;simp only [Option.bind_eq_some_iff] at hd;obtain ⟨b,hb,hd⟩:=hd;split at hd
    case isFalse=>simp at hd
    rename_i hcond;simp only [Option.bind_eq_some_iff,Option.map_eq_some_iff,Prod.mk.injEq] at hd;obtain ⟨mm,h1,t,h2,l,h3,rfl,rfl⟩:=hd;cases hx':ev1 x<;>rw [hx'] at hv<;>cases hv;rename_i hid;obtain ⟨_,_,cs,hcs,_⟩:=c.blk _ b hb;refine A7.same c (v':=.sl (m id) (el+l) (t - l) (mm - l)) ?_ (.sl _ _ _ _ _ hid);simp only [Ag,hx',hcs,Option.bind_some];rw [if_pos hcond,(Dg hE h1).1];simp [(Dg hE h2).1,(Dg hE h3).1]
   .simp at hd
 case sslice x lo hi=>
  have hv:=hE x;simp only [BA,Ag] at hd;split at hd
  .rename_i b hx;rw [hx] at hv;simp only [Option.bind_eq_some_iff,Option.map_eq_some_iff,Prod.mk.injEq] at hd;obtain ⟨t,h2,l,h3,rfl,rfl⟩:=hd;cases hx':ev1 x<;>rw [hx'] at hv<;>cases hv;refine A7.same c (v':=.s (b.extract l t)) ?_ (.s _ _);simp only [Ag,hx'];rw [(Dg hE h2).1];simp [(Dg hE h3).1]
  .simp at hd
 case fad off x=>
  have hv:=hE x;simp only [BA] at hd;split at hd
  .rename_i hx;rw [hx] at hv;simp at hd;obtain ⟨rfl,rfl⟩:=hd;cases hx':ev1 x<;>rw [hx'] at hv<;>cases hv;refine A7.same c (by simp only [Ag,hx'];rfl) (by constructor<;>assumption)
  .simp only [Ag] at hd;split at hd
   .rename_i hx;rw [hx] at hv;simp at hd;obtain ⟨rfl,rfl⟩:=hd;cases hx':ev1 x<;>rw [hx'] at hv<;>cases hv;refine A7.same c (by simp only [Ag,hx'];rfl) (by constructor;assumption)
   .simp at hd
 case fld off k agg x=>
  have hv:=hE x;simp only [BA,Ag] at hd;split at hd
  .rename_i r hx;rw [hx] at hv;simp only [Option.map_eq_some_iff,Prod.mk.injEq] at hd;obtain ⟨w,hw,rfl,rfl⟩:=hd;cases hx':ev1 x<;>rw [hx'] at hv<;>cases hv;rename_i hr;obtain ⟨w',h1,h2⟩:=Nm hr hw;exact A7.same c (by simp only [Ag,hx',h1];rfl) h2
  .simp at hd
 case iad sz x i=>
  have hv:=hE x;simp only [BA,Option.map_eq_some_iff,Prod.mk.injEq] at hd;obtain ⟨w,hw,rfl,rfl⟩:=hd;unfold tC at hw;split at hw
  .rename_i id el len cap k hx hk;rw [hx] at hv;simp only [hx,OG] at hk;split at hw
   case isFalse=>simp at hw
   rename_i hsz;simp only [Option.map_eq_some_iff] at hw;obtain ⟨j,hj,rfl⟩:=hw;cases hx':ev1 x<;>rw [hx'] at hv<;>cases hv;rename_i hid;obtain ⟨_,_,cs,hcs,_⟩:=c.blk _ k hk;exact A7.same c (by simp only [Ag,hx'];rw [if_pos (by simp [szB,hcs,hsz]),(IE (hE i) hj).1];rfl) (.p _ _ _ _ hid)
  .rename_i s xs _ hx;rw [hx] at hv;split at hw
   case isFalse=>simp at hw
   rename_i hsz;subst hsz;simp only [Option.map_eq_some_iff] at hw;obtain ⟨j,hj,rfl⟩:=hw;obtain ⟨h1,h2⟩:=IE (hE i) hj;cases hx':ev1 x<;>rw [hx'] at hv<;>cases hv
   .simp at h2
   .simp at h2
   .rename_i a el cap cs q5 q1 q2 q4 q6 q3;exact A7.same c (v':=.p a (el+j) 0) (by simp only [Ag,hx'];rw [if_pos (by simp [szB,q2]),h1];rfl) (.fp _ _ _ _ _ _ _ _ q1 q2 q4 q6)
  .simp at hw
 case iada sz k x i=>
  have hv:=hE x;simp only [BA] at hd;split at hd
  .rename_i hx;rw [hx] at hv;simp only [Option.map_eq_some_iff,Prod.mk.injEq] at hd;obtain ⟨j,hj,rfl,rfl⟩:=hd;cases hx':ev1 x<;>rw [hx'] at hv<;>cases hv;exact A7.same c (by simp only [Ag,hx'];rw [(IE (hE i) hj).1];rfl) (by constructor<;>assumption)
  .simp only [Ag] at hd;split at hd
   .rename_i hx;rw [hx] at hv;simp only [Option.map_eq_some_iff,Prod.mk.injEq] at hd;obtain ⟨j,hj,rfl,rfl⟩:=hd;cases hx':ev1 x<;>rw [hx'] at hv<;>cases hv;exact A7.same c (by simp only [Ag,hx'];rw [(IE (hE i) hj).1];rfl) (by constructor;assumption)
   .simp at hd
 case idx sz k agg x i=>
  have hv:=hE x;simp only [BA,Ag] at hd;split at hd
  .rename_i r hx;rw [hx] at hv;simp only [Option.bind_eq_some_iff,Option.map_eq_some_iff,Prod.mk.injEq] at hd;obtain ⟨j,hj,w,hw,rfl,rfl⟩:=hd;cases hx':ev1 x<;>rw [hx'] at hv<;>cases hv;rename_i hr;obtain ⟨w',h1,h2⟩:=Nm hr hw;exact A7.same c (by simp only [Ag,hx'];rw [(IE (hE i) hj).1];simp [h1]) h2
  .simp at hd
 case sidx x i=>
  have hv:=hE x;simp only [BA,Ag] at hd;split at hd
  .rename_i r hx;rw [hx] at hv;simp only [Option.map_eq_some_iff,Prod.mk.injEq] at hd;obtain ⟨j,hj,rfl,rfl⟩:=hd;cases hx':ev1 x<;>rw [hx'] at hv<;>cases hv;exact A7.same c (by simp only [Ag,hx'];rw [(IE (hE i) hj).1];rfl) (.i _ _ _)
  .simp at hd
 case ext x i=>
  have hv:=hE x;simp only [BA,Ag] at hd;split at hd
  .rename_i r hx;rw [hx] at hv;simp only [Option.map_eq_some_iff,Prod.mk.injEq] at hd;obtain ⟨w,hw,rfl,rfl⟩:=hd;cases hx':ev1 x<;>rw [hx'] at hv<;>cases hv;rename_i hr;obtain ⟨w',h1,h2⟩:=hr.get _ _ hw;exact A7.same c (by simp only [Ag,hx',h1];rfl) h2
  .simp at hd
 case app sz x y=>
  have hv:=hE x;simp only [BA,Option.bind_eq_some_iff] at hd;obtain ⟨new,hnew,hd⟩:=hd;obtain ⟨new',h1,h2⟩:=Kb c (hE y) hnew;simp only [Ag,aLT,h1,Option.bind_some];exact aLU c hv h2 hd
 case len x=>
  have hv:=hE x;simp only [BA] at hd;split at hd
  .rename_i s xs hx;rw [hx] at hv;simp at hd;obtain ⟨rfl,rfl⟩:=hd;cases hx':ev1 x<;>rw [hx'] at hv<;>cases hv<;>exact A7.same c (by simp only [Ag,hx']<;>rfl) (.i _ _ _)
  .simp only [Ag] at hd;split at hd
   .rename_i hx;rw [hx] at hv;simp at hd;obtain ⟨rfl,rfl⟩:=hd;cases hx':ev1 x<;>rw [hx'] at hv<;>cases hv;exact A7.same c (by simp only [Ag,hx']) (.i _ _ _)
   .rename_i hx;rw [hx] at hv;simp at hd;obtain ⟨rfl,rfl⟩:=hd;cases hx':ev1 x<;>rw [hx'] at hv<;>cases hv;exact A7.same c (by simp only [Ag,hx']) (.i _ _ _)
   .rename_i hx;rw [hx] at hv;simp at hd;obtain ⟨rfl,rfl⟩:=hd;cases hx':ev1 x<;>rw [hx'] at hv<;>cases hv;exact A7.same c (by simp only [Ag,hx']) (.i _ _ _)
   .simp at hd
 case slen x=>
  have hv:=hE x;simp only [BA,Ag] at hd;split at hd
  .rename_i hx;rw [hx] at hv;simp at hd;obtain ⟨rfl,rfl⟩:=hd;cases hx':ev1 x<;>rw [hx'] at hv<;>cases hv;exact A7.same c (by simp only [Ag,hx']) (.i _ _ _)
  .simp at hd
 case lenc k=>simp [BA,Ag] at hd;obtain ⟨rfl,rfl⟩:=hd;exact A7.same c rfl (.i _ _ _)
 case cap x=>
  have hv:=hE x;simp only [BA,Ag] at hd;split at hd
  .rename_i hx;rw [hx] at hv;simp at hd;obtain ⟨rfl,rfl⟩:=hd;cases hx':ev1 x<;>rw [hx'] at hv<;>cases hv;exact A7.same c (by simp only [Ag,hx']) (.i _ _ _)
  .rename_i hx;rw [hx] at hv;simp at hd;obtain ⟨rfl,rfl⟩:=hd;cases hx':ev1 x<;>rw [hx'] at hv<;>cases hv;exact A7.same c (by simp only [Ag,hx']) (.i _ _ _)
  .simp at hd
 case mn l=>
  simp only [BA,Ag] at hd ⊢
  cases l with
  | nil=>simp at hd
  | cons x l=>
   simp only [Option.map_eq_some_iff,Prod.mk.injEq] at hd ⊢;obtain ⟨r,hr,rfl,rfl⟩:=hd;obtain ⟨r',h1,h2⟩:=Ny Wi (l:=l.map ev2) (l':=l.map ev1) (by
    clear hr
    induction l with
    | nil=>exact .nil _
    | cons a l ih=>exact .cons _ _ _ _ _ (hE _) ih) (hE x) hr
   exact A7.same c (by rw [h1];rfl) h2
 case mx l=>
  simp only [BA,Ag] at hd ⊢
  cases l with
  | nil=>simp at hd
  | cons x l=>
   simp only [Option.map_eq_some_iff,Prod.mk.injEq] at hd ⊢;obtain ⟨r,hr,rfl,rfl⟩:=hd;obtain ⟨r',h1,h2⟩:=Ny Wd (l:=l.map ev2) (l':=l.map ev1) (by
    clear hr
    induction l with
    | nil=>exact .nil _
    | cons a l ih=>exact .cons _ _ _ _ _ (hE _) ih) (hE x) hr
   exact A7.same c (by rw [h1];rfl) h2
 case call=>simp [BA,Ag] at hd
 case inv=>simp [BA,Ag] at hd
 case tas t ok z x=>
  have hv:=hE x;simp only [BA] at hd;split at hd
  case isFalse=>simp at hd
  rename_i hz;simp only [Ag] at hd;split at hd
  .rename_i t' w hx;rw [hx] at hv;cases hx':ev1 x<;>rw [hx'] at hv<;>cases hv;rename_i hw;simp only [Ag,hx'];split at hd
   .rename_i ht;simp at hd;obtain ⟨rfl,rfl⟩:=hd;rw [if_pos ht];refine A7.same c rfl ?_;split
    .exact .tup _ _ _ (.cons _ _ _ _ _ hw (.cons _ _ _ _ _ (.b _ _) (.nil _)))
    .exact hw
   .rename_i ht;rw [if_neg ht];split at hd
    .rename_i ho;simp at hd;obtain ⟨rfl,rfl⟩:=hd;rw [if_pos ho];exact A7.same c rfl (.tup _ _ _ (.cons _ _ _ _ _ (PR.plain hz) (.cons _ _ _ _ _ (.b _ _) (.nil _))))
    .simp at hd
  .rename_i hx;rw [hx] at hv;cases hx':ev1 x<;>rw [hx'] at hv<;>cases hv;simp only [Ag,hx'];split at hd
   .rename_i ho;simp at hd;obtain ⟨rfl,rfl⟩:=hd;rw [if_pos ho];exact A7.same c rfl (.tup _ _ _ (.cons _ _ _ _ _ (PR.plain hz) (.cons _ _ _ _ _ (.b _ _) (.nil _))))
   .simp at hd
  .simp at hd
end
end Go.Ab
