/- Part of a proof that a law returns true for every input of the second form's bound (no other condition). -/
import Derived.IntWalk
import Derived.Test.YtcjjajphbamjlaaGreatPD
import Derived.Test.YtcjjajphbamjlaaGreatPC
set_option linter.all false
/- The rules for code over values that stay, as a set for simp; slices that are one's own. -/
namespace Go.Ab
open Go
theorem Env.set_get {e:Env} {d j:Nat} {v:V}:(e.set (some d) v) j=if j=d then v else e j:=nrfl rfl
theorem Env.set_none {e:Env} {v:V}:e.set none v=e:=nrfl rfl
/-! ### The heap -/
def gsel {α:Type} (i n:Nat) (a b:α):α:=if i=n then a else b
theorem gsel_eq {α:Type} {i n:Nat} {a b:α} (h:i=n):gsel i n a b=a:=if_pos h
theorem gsel_ne {α:Type} {i n:Nat} {a b:α} (h:¬ i=n):gsel i n a b=b:=if_neg h
theorem get_alloc {h:AH} {k:Blk} {i:Nat}:(h.alloc k).get i=gsel i h.next (some k) (h.get i):=nrfl rfl
theorem get_put {h:AH} {k:Blk} {i j:Nat}:(h.put j k).get i=gsel i j (some k) (h.get i):=nrfl rfl
theorem get_kill {h:AH} {i j:Nat}:(h.kill j).get i=gsel i j none (h.get i):=nrfl rfl
theorem get_raise {h:AH} {i:Nat}:h.raise.get i=h.get i:=nrfl rfl
theorem get_back {h:AH} {i l:Nat}:(h.back l).get i=h.get i:=nrfl rfl
theorem next_alloc {h:AH} {k:Blk}:(h.alloc k).next=h.next+1:=nrfl rfl
theorem next_put {h:AH} {k:Blk} {j:Nat}:(h.put j k).next=h.next:=nrfl rfl
theorem next_kill {h:AH} {j:Nat}:(h.kill j).next=h.next:=nrfl rfl
theorem next_raise {h:AH}:h.raise.next=h.next:=nrfl rfl
theorem next_back {h:AH} {l:Nat}:(h.back l).next=h.next:=nrfl rfl
theorem lim_alloc {h:AH} {k:Blk}:(h.alloc k).lim=h.lim:=nrfl rfl
theorem lim_put {h:AH} {k:Blk} {j:Nat}:(h.put j k).lim=h.lim:=nrfl rfl
theorem lim_kill {h:AH} {j:Nat}:(h.kill j).lim=h.lim:=nrfl rfl
theorem lim_raise {h:AH}:h.raise.lim=h.next:=nrfl rfl
theorem lim_back {h:AH} {l:Nat}:(h.back l).lim=l:=nrfl rfl
theorem raise_back_alloc {h:AH} {k:Blk}:(h.raise.alloc k).back h.lim=h.alloc k:=nrfl rfl
theorem raise_back {h:AH}:h.raise.back h.lim=h:=nrfl rfl
section
variable {tp:TP} {e:Env} {h:AH}
/-! ### Code -/
def Z1 (tp:TP) (o:O) (e:Env) (h:AH) (K:V→AH→Prop) (t:Fz K:=.mk):Prop:=z1 tp o e h K
def ZQ1 (tp:TP) (o:O) (e:Env) (h:AH) (K:V→AH→Prop) (t:Fz K:=.mk):Prop:=zq1 tp o e h K
def ZOps (tp:TP) (l:List TO) (e:Env) (h:AH) (K:Env→AH→Prop) (t:Fz (PProd.mk e K):=.mk):Prop:=zops tp l e h K
def ZQ (tp:TP) (l:List TO) (e:Env) (h:AH) (K:Env→AH→Prop) (t:Fz (PProd.mk e K):=.mk):Prop:=zq tp l e h K
def ZS (tp:TP) (l:List (Bool×List TO)) (e:Env) (h:AH) (K:Env→AH→Prop) (t:Fz (PProd.mk e K):=.mk):Prop:=zs tp l e h K
def ZC (tp:TP) (c:TC) (e:Env) (h:AH) (K:Ex→Env→AH→Prop) (t:Fz (PProd.mk e K):=.mk):Prop:=zc tp c e h K
theorem ZC_skip {K:Ex→Env→AH→Prop}:ZC tp .skip e h K=K .nm e h:=nrfl rfl
theorem ZC_ret {K:Ex→Env→AH→Prop}:ZC tp .ret e h K=K .rt e h:=nrfl rfl
theorem ZC_exit {id:Nat} {K:Ex→Env→AH→Prop}:ZC tp (.exit id) e h K=K (.ex id) e h:=nrfl rfl
theorem ZC_reg {ops:List TO} {K:Ex→Env→AH→Prop}:ZC tp (.reg ops) e h K=ZOps tp ops e h (fun e h=>K .nm e h):=nrfl rfl
theorem ZC_dreg {ops:List (Bool×List TO)} {K:Ex→Env→AH→Prop}:ZC tp (.dreg ops) e h K=ZS tp ops e h (fun e h=>K .nm e h):=nrfl rfl
theorem ZC_cond {c:X} {a b:TC} {K:Ex→Env→AH→Prop}:ZC tp (.cond c a b) e h K=Wb (c.e2 e) (ZC tp a e h K) (ZC tp b e h K):=nrfl rfl
theorem ZC_block {id:Nat} {c:TC} {K:Ex→Env→AH→Prop}:ZC tp (.block id c) e h K=ZC tp c e h (fun x e h=>K (blk id x) e h):=nrfl rfl
theorem ZC_seq {a b:TC} {K:Ex→Env→AH→Prop}:ZC tp (.seq a b) e h K=ZC tp a e h (fun x e h=>nxt x (ZC tp b e h K) (K x e h)):=nrfl rfl
theorem ZC_unf {c d:TC} {K:Ex→Env→AH→Prop} (hcd:c=d):ZC tp c e h K=ZC tp d e h K:=by rw [hcd]
theorem ZC_loop {c:TC} {K:Ex→Env→AH→Prop} (z:ZC tp c e h (fun x e h=>nxt x (ZC tp (.loop c) e h K) (K x e h))):ZC tp (.loop c) e h K:=by
  intro I hI hS
  exact hI e h (zc_imp (c:=c) (fun x e h=>nxt_imp (fun z=>z I hI hS) id) z)
theorem ZC_step {c:TC} {K:Ex→Env→AH→Prop} {e2:Env} {h2:AH} (st:Stp e h e2 h2) (z:ZC tp (.loop c) e2 h2 K):ZC tp (.loop c) e h K:=fun I hI hS=>hS e h e2 h2 st (z I hI hS)
theorem ZC_loop_n {c:TC} {K:Ex→Env→AH→Prop} (J:Nat→Env→AH→Prop) (round:∀ n e h,J n e h→(∀ m e' h',m<n→J m e' h'→ZC tp (.loop c) e' h' K)→ZC tp c e h (fun x e h=>nxt x (ZC tp (.loop c) e h K) (K x e h))):∀ n e h,J n e h→ZC tp (.loop c) e h K:=by
  intro n
  induction n using Nat.strongRecOn with
  | _ n ih=>intro e h hj;exact ZC_loop (round n e h hj (fun m e' h' hm hj'=>ih m hm e' h' hj'))
theorem ZC.imp {c:TC} {K L:Ex→Env→AH→Prop} (z:ZC tp c e h K) (kl:∀ x e h,K x e h→L x e h):ZC tp c e h L:=zc_imp (c:=c) kl z
theorem want_g {v:V} {x:Bool} {A B:Prop}:(match (match v with | .b y=>some (y==x) | .tup []=>some false | _=>none:Option Bool) with | some true=>A | some false=>B | none=>False)=Wg v x A B:=by
  cases v with
  | b y=>cases y<;>cases x<;>simp [Wg]
  | tup l=>cases l<;>simp [Wg]
  | _=>simp [Wg]
theorem ZOps_nil {K:Env→AH→Prop}:ZOps tp [] e h K=K e h:=nrfl rfl
theorem ZOps_one {d:Option Nat} {o:O} {r:List TO} {K:Env→AH→Prop}:ZOps tp (⟨d,o,none⟩::r) e h K=Z1 tp o e h (fun v h=>ZOps tp r (e.set d v) h K):=nrfl rfl
theorem ZOps_g {d:Option Nat} {o:O} {t:Nat} {x:Bool} {r:List TO} {K:Env→AH→Prop}:ZOps tp (⟨d,o,some (t,x)⟩::r) e h K=Wg (e t) x (Z1 tp o e h (fun v h=>ZOps tp r (e.set d v) h K)) (ZOps tp r (e.set d (.tup [])) h K):=by
  exact want_g
theorem ZS_nil {K:Env→AH→Prop}:ZS tp [] e h K=K e h:=nrfl rfl
theorem ZS_bar {l:List TO} {r:List (Bool×List TO)} {K:Env→AH→Prop}:ZS tp ((false,l)::r) e h K=ZOps tp l e h (fun e h=>ZS tp r e h K):=nrfl rfl
theorem ZS_quiet {l:List TO} {r:List (Bool×List TO)} {K:Env→AH→Prop}:ZS tp ((true,l)::r) e h K=ZQ tp l e h (fun e h=>ZS tp r e h K):=nrfl rfl
theorem ZQ_nil {K:Env→AH→Prop}:ZQ tp [] e h K=K e h:=nrfl rfl
theorem ZQ_one {d:Option Nat} {o:O} {r:List TO} {K:Env→AH→Prop}:ZQ tp (⟨d,o,none⟩::r) e h K=ZQ1 tp o e h (fun v h=>ZQ tp r (e.set d v) h K):=nrfl rfl
theorem ZQ_g {d:Option Nat} {o:O} {t:Nat} {x:Bool} {r:List TO} {K:Env→AH→Prop}:ZQ tp (⟨d,o,some (t,x)⟩::r) e h K=Wg (e t) x (ZQ1 tp o e h (fun v h=>ZQ tp r (e.set d v) h K)) (ZQ tp r (e.set d (.tup [])) h K):=by
  exact want_g
end
/-! ### Operations one by one -/
theorem e2_t {e:Env} {n:Nat}:(X.t n).e2 e=e n:=nrfl rfl
theorem e2_ci {e:Env} {k:IntKind} {n:Int}:(X.c (.i k n)).e2 e=.i k n:=nrfl rfl
theorem e2_cb {e:Env} {x:Bool}:(X.c (.b x)).e2 e=.b x:=nrfl rfl
theorem e2_cs {e:Env} {x:ByteArray}:(X.c (.s x)).e2 e=.s x:=nrfl rfl
theorem e2_np {e:Env}:(X.c .np).e2 e=.np:=nrfl rfl
theorem e2_ns {e:Env}:(X.c .ns).e2 e=.ns:=nrfl rfl
theorem e2_nf {e:Env}:(X.c .nf).e2 e=.nf:=nrfl rfl
theorem e2_ni {e:Env}:(X.c .ni).e2 e=.ni:=nrfl rfl
theorem e2_agg {e:Env} {l:List V} (hl:l.all plain1=true):(X.c (.agg l)).e2 e=.agg l:=by simp [X.e2,plain,hl]
theorem e2_fn {e:Env} {f:Nat}:(X.fn f).e2 e=.f (.func f) [] []:=nrfl rfl
theorem plain1_i {k:IntKind} {n:Int}:plain1 (.i k n)=true:=nrfl rfl
theorem plain1_b {x:Bool}:plain1 (.b x)=true:=nrfl rfl
theorem plain1_s {x:ByteArray}:plain1 (.s x)=true:=nrfl rfl
theorem plain1_np:plain1 .np=true:=nrfl rfl
theorem plain1_ns:plain1 .ns=true:=nrfl rfl
theorem plain1_nf:plain1 .nf=true:=nrfl rfl
theorem plain1_ni:plain1 .ni=true:=nrfl rfl
section
variable {tp:TP} {e:Env} {h:AH} {K:V→AH→Prop}
def asB:V→Option Bool | .b x=>some x | _=>none
theorem asB_b {x:Bool}:asB (.b x)=some x:=nrfl rfl
theorem Z1_mv {x:X}:Z1 tp (.mv x) e h K=Wv (x.e2 e) (fun v=>K v h):=by
  unfold Z1;simp only [z1,do2,doOp,Wo_some,Wv_go]
theorem Z1_pick {c a b:X}:Z1 tp (.pick c a b) e h K=Wo (asB (c.e2 e)) (fun t=>Wv (if t then a.e2 e else b.e2 e) (fun v=>K v h)):=by
  unfold Z1;simp only [z1,do2,doOp,asB]
  cases c.e2 e<;>simp only [Wo_some,Wo_none,Wv_go]
theorem Z1_alloc {z:List V}:Z1 tp (.alloc z) e h K=(z.all plain1=true∧Wv (.p h.next 0 0) (fun v=>Wv (h.alloc ⟨z.length,[z]⟩) (fun h'=>K v h'))):=by
  unfold Z1;simp only [z1,do2,doOp,Wo_ite,Wo_some,Wv_go]
theorem Z1_box {x:X}:Z1 tp (.box x) e h K=((x.e2 e).cells.all V.isCell=true∧Wv (.p h.next 0 0) (fun v=>Wv (h.alloc ⟨(x.e2 e).cells.length,[(x.e2 e).cells]⟩) (fun h'=>K v h'))):=by
  unfold Z1;simp only [z1,do2,doOp,Wo_ite,Wo_some,Wv_go]
theorem Z1_build {z:List V} {ps:List (Nat×Nat×X)}:Z1 tp (.build z ps) e h K=(z.all plain1=true∧Wo (fillP z (ps.map fun q=>(q.1,q.2.1,q.2.2.e2 e))) (fun r=>K (.agg r) h)):=by
  unfold Z1;simp only [z1,do2,doOp,Wo_ite,Wo_map]
theorem Z1_bsl {sz n:Nat} {z:List V} {ps:List (Nat×X)}:Z1 tp (.bsl sz z n ps) e h K=((z.all plain1=true∧n<4294967296)∧Wo (fillE sz (List.replicate n z) (ps.map fun q=>(q.1,q.2.e2 e))) (fun r=>Wv (.sl h.next 0 n n) (fun v=>Wv (h.alloc ⟨sz,r⟩) (fun h'=>K v h')))):=by
  unfold Z1;simp only [z1,do2,doOp];rw [Wo_ite,Wo_map];rfl
theorem Z1_bslc {sz n:Nat} {z:List V} {ps:List (Nat×X)}:Z1 tp (.bslc sz z n ps) e h K=((z.all plain1=true∧n<4294967296)∧Wo (fillE sz (List.replicate n z) (ps.map fun q=>(q.1,q.2.e2 e))) (fun r=>Wv (.sl h.next 0 n n) (fun v=>Wv (h.alloc ⟨sz,r⟩) (fun h'=>K v h')))):=by
  unfold Z1;simp only [z1,do2,doOp];rw [Wo_ite,Wo_map];rfl
def Wchk (sz n:Nat) (z:List V) (ps:List (Nat×V)) (y:V) (h:AH) (K:V→AH→Prop) (t:Fz K:=.mk):Prop:=match y with
  | .sl id el len cap=>Wo (fillE sz (List.replicate n z) ps) (fun r=>h.get id=some ⟨sz,r⟩∧(el=0∧len=n∧cap=n)∧sameRows r r=true∧Wv V.u (fun v=>K v h))
  | _=>False
theorem Wchk_sl {sz n id el len cap:Nat} {z:List V} {ps:List (Nat×V)}:Wchk sz n z ps (.sl id el len cap) h K=Wo (fillE sz (List.replicate n z) ps) (fun r=>h.get id=some ⟨sz,r⟩∧(el=0∧len=n∧cap=n)∧sameRows r r=true∧Wv V.u (fun v=>K v h)):=nrfl rfl
theorem Z1_chkb {sz n:Nat} {z:List V} {ps:List (Nat×X)} {y:X}:Z1 tp (.chkb sz z n ps y) e h K=(z.all plain1=true∧Wchk sz n z (ps.map fun q=>(q.1,q.2.e2 e)) (y.e2 e) h K):=by
  unfold Z1;simp only [z1,do2,Wo_ite]
  congr 1
  simp only [doOp]
  generalize y.e2 e=v
  cases v<;>simp only [Wchk,Wo_none]
  rename_i id el len cap
  rw [Wo_bind]
  refine Wo_ext fun r=>?_
  apply propext
  constructor
  · rintro ⟨⟨v,h'⟩,h1,k⟩
    simp only [Option.bind_eq_some_iff] at h1
    obtain ⟨b,hb,h1⟩:=h1
    split at h1
    case isFalse=>simp at h1
    rename_i hs
    simp at h1
    obtain ⟨rfl,rfl⟩:=h1
    obtain ⟨e1,e2,e3,e4,e5⟩:=hs
    have:=sameRows_eq e5
    subst this
    obtain ⟨s,cs⟩:=b
    simp only at e4 e5 hb
    subst e4
    exact ⟨hb,⟨e1,e2,e3⟩,e5,k⟩
  · rintro ⟨hb,⟨e1,e2,e3⟩,e5,k⟩
    exact ⟨(.u,h),by rw [hb];simp only [Option.bind_some];rw [if_pos ⟨e1,e2,e3,trivial,e5⟩],k⟩
theorem Z1_alc {z:List V}:Z1 tp (.alc z) e h K=(z.all plain1=true∧Wv (.p h.next 0 0) (fun v=>Wv (h.alloc ⟨z.length,[z]⟩) (fun h'=>K v h'))):=by
  unfold Z1;simp only [z1,do2,doOp];rw [Wo_ite,Wo_some];rfl
def Wcha (z:List V) (y:V) (h:AH) (K:V→AH→Prop) (t:Fz K:=.mk):Prop:=match y with
  | .p id el off=>h.get id=some ⟨z.length,[z]⟩∧(el=0∧off=0)∧sameRows [z] [z]=true∧Wv V.u (fun v=>K v h)
  | _=>False
theorem Wcha_p {id el off:Nat} {z:List V}:Wcha z (.p id el off) h K=(h.get id=some ⟨z.length,[z]⟩∧(el=0∧off=0)∧sameRows [z] [z]=true∧Wv V.u (fun v=>K v h)):=nrfl rfl
theorem Z1_chka {z:List V} {y:X}:Z1 tp (.chka z y) e h K=(z.all plain1=true∧Wcha z (y.e2 e) h K):=by
  unfold Z1;simp only [z1,do2,Wo_ite]
  congr 1
  simp only [doOp]
  generalize y.e2 e=v
  cases v<;>simp only [Wcha,Wo_none]
  rename_i id el off
  apply propext
  constructor
  · rintro ⟨⟨v,h'⟩,h1,k⟩
    simp only [Option.bind_eq_some_iff] at h1
    obtain ⟨b,hb,h1⟩:=h1
    split at h1
    case isFalse=>simp at h1
    rename_i hs
    simp at h1
    obtain ⟨rfl,rfl⟩:=h1
    obtain ⟨e1,e2,e3,e5⟩:=hs
    obtain ⟨s,cs⟩:=b
    simp only at e3 e5 hb
    have:=sameRows_eq e5
    subst this
    subst e3
    exact ⟨hb,⟨e1,e2⟩,e5,k⟩
  · rintro ⟨hb,⟨e1,e2⟩,e5,k⟩
    exact ⟨(.u,h),by rw [hb];simp only [Option.bind_some];rw [if_pos ⟨e1,e2,trivial,e5⟩],k⟩
theorem sameRows_nil:sameRows [] []=true:=nrfl rfl
theorem sameRows_cons {a b:List V} {l m:List (List V)}:sameRows (a::l) (b::m)=(sameRow a b&&sameRows l m):=nrfl rfl
theorem sameRow_nil:sameRow [] []=true:=nrfl rfl
theorem sameRow_cons {a b:V} {l m:List V}:sameRow (a::l) (b::m)=(sameV a b&&sameRow l m):=nrfl rfl
theorem Z1_e0:Z1 tp .e0 e h K=K .e0 h:=by unfold Z1;simp only [z1,do2,doOp,Wo_some]
def ld2 (k:Option Blk) (el off n:Nat) (agg:Bool):Option V:=k.bind fun k=>(k.cs[el]?).bind fun r=>cut r off n agg
def ldZ (h:AH) (n:Nat) (agg:Bool):V→Option V | .p id el off=>ld2 (h.get id) el off n agg | .fp _ xs j off=>ldF n agg xs j off | _=>none
theorem ldZ_p {id el off n:Nat} {agg:Bool}:ldZ h n agg (.p id el off)=ld2 (h.get id) el off n agg:=nrfl rfl
theorem ldZ_fp {s j off n:Nat} {xs:List (List V)} {agg:Bool}:ldZ h n agg (.fp s xs j off)=(xs[j]?).bind fun r=>cut r off n agg:=nrfl rfl
theorem ld2_some {sz el off n:Nat} {cs:List (List V)} {agg:Bool}:ld2 (some ⟨sz,cs⟩) el off n agg=(cs[el]?).bind fun r=>cut r off n agg:=nrfl rfl
theorem do2_load {n:Nat} {agg:Bool} {x:X} {ev:X→V}:do2 (.load n agg x) ev h=(ldZ h n agg (ev x)).map fun v=>(v,h):=by
  simp only [do2,doOp]
  cases ev x<;>simp only [ldZ,ld2]<;>try rfl
  rename_i id el off
  cases h.get id with
  | none=>rfl
  | some k=>
    simp only [Option.bind_some]
    cases k.cs[el]?<;>rfl
theorem do2_fload {n:Nat} {ag:Bool} {x:X} {ev:X→V}:do2 (.fload n ag x) ev h=(ldZ h n ag (ev x)).map fun v=>(v,h):=by
  simp only [do2,doOp]
  cases ev x<;>simp only [ldZ,ld2]<;>try rfl
  rename_i id el off
  cases h.get id with
  | none=>rfl
  | some k=>
    simp only [Option.bind_some]
    cases k.cs[el]?<;>rfl
theorem Z1_load {n:Nat} {agg:Bool} {x:X}:Z1 tp (.load n agg x) e h K=Wo (ldZ h n agg (x.e2 e)) (fun v=>K v h):=by
  unfold Z1;simp only [z1,do2_load,Wo_map]
theorem Z1_fload {n:Nat} {ag:Bool} {x:X}:Z1 tp (.fload n ag x) e h K=Wo (ldZ h n ag (x.e2 e)) (fun v=>K v h):=by
  unfold Z1;simp only [z1,do2_fload,Wo_map]
def chkV (h:AH) (n:Nat) (ag:Bool):V→Option V | .p id el off=>ld2 (h.get id) el off n ag | _=>none
theorem chkV_p {id el off n:Nat} {ag:Bool}:chkV h n ag (.p id el off)=ld2 (h.get id) el off n ag:=nrfl rfl
theorem Z1_chk {n:Nat} {ag:Bool} {x y:X}:Z1 tp (.chk n ag x y) e h K=Wo (chkV h n ag (x.e2 e)) (fun v=>Wo (if sameVa v (y.e2 e)=true then some V.u else none) (fun u=>K u h)):=by
  unfold Z1;simp only [z1,do2,doOp,chkV,ld2]
  cases x.e2 e<;>simp only [Wo_none]
  rw [Wo_bind,Wo_bind]
  refine Wo_ext fun k=>?_
  rw [Wo_bind,Wo_bind]
  refine Wo_ext fun r=>?_
  rw [Wo_bind]
  refine Wo_ext fun v=>?_
  split<;>simp only [Wo_none,Wo_some]
theorem sameVa_agg {l m:List V}:sameVa (.agg l) (.agg m)=sameRow l m:=nrfl rfl
theorem sameVa_sl {a b c d:Nat}:sameVa (.sl a b c d) (.sl a b c d)=true:=by simp [sameVa,sameV]
theorem sameVa_p {a b c:Nat}:sameVa (.p a b c) (.p a b c)=true:=by simp [sameVa,sameV]
theorem sameVa_ns:sameVa .ns .ns=true:=nrfl rfl
theorem sameVa_b {x:Bool}:sameVa (.b x) (.b x)=true:=by simp [sameVa,sameV]
theorem sameVa_i {k:IntKind} {n:Int}:sameVa (.i k n) (.i k n)=true:=by simp [sameVa,sameV]
theorem sameV_sl {a b c d:Nat}:sameV (.sl a b c d) (.sl a b c d)=true:=by simp [sameV]
theorem sameV_p {a b c:Nat}:sameV (.p a b c) (.p a b c)=true:=by simp [sameV]
theorem sameV_ns:sameV .ns .ns=true:=nrfl rfl
theorem sameV_b {x:Bool}:sameV (.b x) (.b x)=true:=by simp [sameV]
theorem sameV_i {k:IntKind} {n:Int}:sameV (.i k n) (.i k n)=true:=by simp [sameV]
def mark2 (g:Option Blk) (l id el len cap:Nat):Option V:=if g.isSome=true∧l≤id∧0<cap then some (.sl id el len cap) else none
def markV (h:AH):V→Option V | .sl id el len cap=>mark2 (h.get id) h.lim id el len cap | _=>none
theorem markV_sl {id el len cap:Nat}:markV h (.sl id el len cap)=mark2 (h.get id) h.lim id el len cap:=nrfl rfl
theorem mark2_ok {k:Blk} {l id el len cap:Nat} (h1:l≤id) (h2:0<cap):mark2 (some k) l id el len cap=some (.sl id el len cap):=by simp [mark2,h1,h2]
theorem Z1_mark {x:X}:Z1 tp (.mark x) e h K=Wo (markV h (x.e2 e)) (fun v=>K v h):=by
  unfold Z1;simp only [z1,do2,doOp,markV,mark2]
  cases x.e2 e<;>simp only [Wo_none]
  split<;>simp only [Wo_none,Wo_some]
def Wst (tp:TP) (n:Nat) (p v:V) (h:AH) (K:AH→Prop) (t:Fz K:=.mk):Prop:=match p with
  | .p id el off=>(h.lim≤id∧0<n∧v.cells.length=n∧v.cells.all V.isCell=true)∧Wo (h.get id) (fun k=>Wo (k.cs[el]?) (fun r=>off+n≤r.length∧Wv (h.put id ⟨k.sz,k.cs.set el (over r off v.cells)⟩) K))
  | _=>False
def Wst2 (tp:TP) (l n id el off:Nat) (v:V) (h:AH) (K:AH→Prop) (t:Fz K:=.mk):Prop:=(l≤id∧0<n∧v.cells.length=n∧v.cells.all V.isCell=true)∧Wo (h.get id) (fun k=>Wo (k.cs[el]?) (fun r=>off+n≤r.length∧Wv (h.put id ⟨k.sz,k.cs.set el (over r off v.cells)⟩) K))
theorem Wst_p {n id el off:Nat} {v:V} {K:AH→Prop}:Wst tp n (.p id el off) v h K=Wst2 tp h.lim n id el off v h K:=nrfl rfl
theorem Wst2_ok {l n id el off:Nat} {v:V} {K:AH→Prop} (hl:l≤id):Wst2 tp l n id el off v h K=((0<n∧v.cells.length=n∧v.cells.all V.isCell=true)∧Wo (h.get id) (fun k=>Wo (k.cs[el]?) (fun r=>off+n≤r.length∧Wv (h.put id ⟨k.sz,k.cs.set el (over r off v.cells)⟩) K))):=by
  simp only [Wst2,hl,true_and]
theorem Z1_store {n:Nat} {a x:X}:Z1 tp (.store n a x) e h K=Wst tp n (a.e2 e) (x.e2 e) h (K .u):=by
  unfold Z1;simp only [z1,do2,doOp,Wst]
  cases a.e2 e<;>simp only [Wo_none]
  rw [Wo_ite,Wo_bind]
  congr 1
  refine Wo_ext fun k=>?_
  rw [Wo_bind]
  refine Wo_ext fun r=>?_
  rw [Wo_ite,Wo_some];rfl
def nckV:V→Option V | .p id el off=>some (.p id el off) | .fp s xs j o=>some (.fp s xs j o) | .ifc t v=>some (.ifc t v) | .f (.func g) a b=>some (.f (.func g) a b) | _=>none
theorem nckV_p {a b c:Nat}:nckV (.p a b c)=some (.p a b c):=nrfl rfl
theorem nckV_fp {s j o:Nat} {xs:List (List V)}:nckV (.fp s xs j o)=some (.fp s xs j o):=nrfl rfl
theorem nckV_ifc {t:Nat} {v:V}:nckV (.ifc t v)=some (.ifc t v):=nrfl rfl
theorem nckV_f {g:Nat} {a b:List V}:nckV (.f (.func g) a b)=some (.f (.func g) a b):=nrfl rfl
theorem Z1_nck {x:X}:Z1 tp (.nck x) e h K=Wo (nckV (x.e2 e)) (fun v=>K v h):=by
  unfold Z1;simp only [z1,do2,doOp]
  generalize x.e2 e=v
  cases v with
  | f g a b=>cases g<;>simp only [nckV,Wo_some,Wo_none]
  | _=>simp only [nckV,Wo_some,Wo_none]
theorem Z1_bin {op:BinOp} {x y:X}:Z1 tp (.bin op x y) e h K=Wo (binV op (x.e2 e) (y.e2 e)) (fun v=>K v h):=by unfold Z1;simp only [z1,do2,doOp,Wo_map]
theorem Z1_eqk {n:Bool} {k:EK} {x y:X} (hk:k≠.sl):Z1 tp (.eq n k x y) e h K=Wo (eqV k (x.e2 e) (y.e2 e)) (fun r=>Wv (.b (if n then !r else r)) (fun v=>K v h)):=by
  unfold Z1;cases k<;>first | (exact absurd rfl hk) | (simp only [z1,do2,doOp,Wo_map];rfl)
theorem Z1_eqb {n:Bool} {x y:X}:Z1 tp (.eq n .b x y) e h K=Wo (eqV .b (x.e2 e) (y.e2 e)) (fun r=>Wv (.b (if n then !r else r)) (fun v=>K v h)):=Z1_eqk (by simp)
theorem Z1_eqptr {n:Bool} {x y:X}:Z1 tp (.eq n .ptr x y) e h K=Wo (eqV .ptr (x.e2 e) (y.e2 e)) (fun r=>Wv (.b (if n then !r else r)) (fun v=>K v h)):=Z1_eqk (by simp)
theorem Z1_eqfn {n:Bool} {x y:X}:Z1 tp (.eq n .fn x y) e h K=Wo (eqV .fn (x.e2 e) (y.e2 e)) (fun r=>Wv (.b (if n then !r else r)) (fun v=>K v h)):=Z1_eqk (by simp)
theorem Z1_eqifc {n:Bool} {x y:X}:Z1 tp (.eq n .ifc x y) e h K=Wo (eqV .ifc (x.e2 e) (y.e2 e)) (fun r=>Wv (.b (if n then !r else r)) (fun v=>K v h)):=Z1_eqk (by simp)
theorem Z1_eqagg {n:Bool} {ks:List CK} {x y:X}:Z1 tp (.eq n (.agg ks) x y) e h K=Wo (eqV (.agg ks) (x.e2 e) (y.e2 e)) (fun r=>Wv (.b (if n then !r else r)) (fun v=>K v h)):=Z1_eqk (by simp)
def Wnil (neg:Bool) (v w:V) (h:AH) (K:V→AH→Prop) (t:Fz K:=.mk):Prop:=wnil neg v w h K
theorem Z1_eqsl {n:Bool} {x y:X}:Z1 tp (.eq n .sl x y) e h K=Wnil n (x.e2 e) (y.e2 e) h K:=nrfl rfl
theorem Wnil_fl {n:Bool} {s:Nat} {xs:List (List V)}:Wnil n (.fl s xs) .ns h K=∀ t:Bool,(xs≠[]→t=false)→Wv (.b (if n then !t else t)) (fun v=>K v h):=nrfl rfl
theorem Wnil_ns {n:Bool}:Wnil n .ns .ns h K=Wv (.b (if n then false else true)) (fun v=>K v h):=by
  unfold Wnil wnil;simp only [eqV,Wo_some,Bool.not_true];rfl
theorem Wnil_e0 {n:Bool}:Wnil n .e0 .ns h K=Wv (.b (if n then true else false)) (fun v=>K v h):=by
  unfold Wnil wnil;simp only [eqV,Wo_some,Bool.not_false];rfl
theorem Wnil_sl {n:Bool} {a b c d:Nat}:Wnil n (.sl a b c d) .ns h K=Wv (.b (if n then true else false)) (fun v=>K v h):=by
  unfold Wnil wnil;simp only [eqV,Wo_some,Bool.not_false];rfl
theorem Z1_un {op:UnOp} {x:X}:Z1 tp (.un op x) e h K=Wo (unV op (x.e2 e)) (fun v=>K v h):=by unfold Z1;simp only [z1,do2,doOp,Wo_map]
def convV (k:IntKind):V→Option V | .i _ n=>some (.i k (k.wrap n)) | _=>none
theorem convV_i {k j:IntKind} {n:Int}:convV k (.i j n)=some (.i k (k.wrap n)):=nrfl rfl
theorem Z1_conv {k:IntKind} {x:X}:Z1 tp (.conv k x) e h K=Wo (convV k (x.e2 e)) (fun v=>K v h):=by
  unfold Z1;simp only [z1,do2,doOp,convV]
  cases x.e2 e<;>simp only [Wo_some,Wo_none]
def strsV:V→Option V | .s x=>some (.s x) | _=>none
theorem strsV_s {x:ByteArray}:strsV (.s x)=some (.s x):=nrfl rfl
theorem Z1_strs {x:X}:Z1 tp (.strs x) e h K=Wo (strsV (x.e2 e)) (fun v=>K v h):=by
  unfold Z1;simp only [z1,do2,doOp,strsV]
  cases x.e2 e<;>simp only [Wo_some,Wo_none]
def i2sV:V→Option V | .i _ n=>some (.s (Utf8.encode n)) | _=>none
theorem i2sV_i {k:IntKind} {n:Int}:i2sV (.i k n)=some (.s (Utf8.encode n)):=nrfl rfl
theorem Z1_i2s {x:X}:Z1 tp (.i2s x) e h K=Wo (i2sV (x.e2 e)) (fun v=>K v h):=by
  unfold Z1;simp only [z1,do2,doOp,i2sV]
  cases x.e2 e<;>simp only [Wo_some,Wo_none]
def asS:V→Option ByteArray | .s x=>some x | _=>none
theorem asS_s {x:ByteArray}:asS (.s x)=some x:=nrfl rfl
theorem Z1_s2b {x:X}:Z1 tp (.s2b x) e h K=Wo (asS (x.e2 e)) (fun b=>b.size<4294967296∧Wv (.sl h.next 0 b.size b.size) (fun v=>Wv (h.alloc ⟨1,bytesV b⟩) (fun h'=>K v h'))):=by
  unfold Z1;simp only [z1,do2,doOp,asS]
  cases hx:x.e2 e<;>simp only [Wo_some,Wo_none]
  rw [Wo_ite,Wo_some];rfl
def rowsV (sz:Nat) (h:AH) (v:V):Option (List (List V)):=elems2 sz h v
theorem rowsV_fl {sz:Nat} {xs:List (List V)}:rowsV sz h (.fl sz xs)=some xs:=by simp [rowsV,elems2]
theorem rowsV_ns {sz:Nat}:rowsV sz h .ns=some []:=nrfl rfl
theorem rowsV_e0 {sz:Nat}:rowsV sz h .e0=some []:=nrfl rfl
theorem rowsV_s {x:ByteArray}:rowsV 1 h (.s x)=some (bytesV x):=nrfl rfl
def rows2 (g:Option Blk) (sz el len:Nat):Option (List (List V)):=match g with
  | some k=>if k.sz=sz∧el+len≤k.cs.length then some ((k.cs.drop el).take len) else none
  | none=>none
theorem rowsV_sl {sz id el len cap:Nat}:rowsV sz h (.sl id el len cap)=rows2 (h.get id) sz el len:=nrfl rfl
theorem rows2_some {sz el len:Nat} {cs:List (List V)}:rows2 (some ⟨sz,cs⟩) sz el len=if el+len≤cs.length then some ((cs.drop el).take len) else none:=by simp [rows2]
theorem rows2_ok {sz el len:Nat} {cs:List (List V)} (hl:el+len≤cs.length):rows2 (some ⟨sz,cs⟩) sz el len=some ((cs.drop el).take len):=by simp [rows2,hl]
def b2sV (h:AH) (v:V):Option V:=match v with | .s _=>none | v=>(rowsV 1 h v).bind fun l=>(bytesOf? l).map fun r=>.s ⟨r.toArray⟩
theorem b2sV_fl {xs:List (List V)}:b2sV h (.fl 1 xs)=(bytesOf? xs).map fun r=>.s ⟨r.toArray⟩:=by simp [b2sV,rowsV,elems2]
theorem b2sV_ns:b2sV h .ns=some (.s ⟨#[]⟩):=nrfl rfl
theorem b2sV_sl {id el len cap:Nat}:b2sV h (.sl id el len cap)=(rows2 (h.get id) 1 el len).bind fun l=>(bytesOf? l).map fun r=>.s ⟨r.toArray⟩:=nrfl rfl
theorem Z1_b2s {x:X}:Z1 tp (.b2s x) e h K=Wo (b2sV h (x.e2 e)) (fun v=>K v h):=by
  unfold Z1;simp only [z1,do2,doOp,b2sV,rowsV,elems2]
  cases x.e2 e<;>simp only [Wo_none]
  case fl s xs=>
    split
    · rw [Wo_map,Option.bind_some,Wo_map]
    · simp only [Option.bind_none,Wo_none]
  all_goals (rw [Wo_bind,Wo_bind];refine Wo_ext fun a=>?_;rw [Wo_map,Wo_map])
theorem Z1_mkif {t:Nat} {x:X}:Z1 tp (.mkif t x) e h K=Wv (.ifc t (x.e2 e)) (fun v=>K v h):=by unfold Z1;simp only [z1,do2,doOp,Wo_some,Wv_go]
theorem Z1_mkfn {fn:Fn} {a c:List X}:Z1 tp (.mkfn fn a c) e h K=Wv (.f fn (a.map (X.e2 e)) (c.map (X.e2 e))) (fun v=>K v h):=by unfold Z1;simp only [z1,do2,doOp,Wo_some,Wv_go]
def Wmk (z:List V) (n c:V) (h:AH) (K:V→AH→Prop) (t:Fz K:=.mk):Prop:=match n,c with
  | .i _ a,.i _ m=>(0≤a∧a≤m∧m<bigLen)∧Wv (.sl h.next 0 a.toNat m.toNat) (fun v=>Wv (h.alloc ⟨z.length,List.replicate m.toNat z⟩) (fun h'=>K v h'))
  | _,_=>False
theorem Wmk_i {z:List V} {k j:IntKind} {a m:Int}:Wmk z (.i k a) (.i j m) h K=((0≤a∧a≤m∧m<4294967296)∧Wv (.sl h.next 0 a.toNat m.toNat) (fun v=>Wv (h.alloc ⟨z.length,List.replicate m.toNat z⟩) (fun h'=>K v h'))):=nrfl rfl
theorem Z1_mksl {z:List V} {n c:X}:Z1 tp (.mksl z n c) e h K=(z.all plain1=true∧Wmk z (n.e2 e) (c.e2 e) h K):=by
  unfold Z1;simp only [z1,do2,doOp,Wo_ite]
  congr 1
  generalize n.e2 e=v
  generalize c.e2 e=w
  cases v<;>cases w<;>simp only [Wmk,Wo_none,Wo_ite,Wo_some,Wv_go]
def Wmz (z:List V) (x n:V) (h:AH) (K:V→AH→Prop) (t:Fz K:=.mk):Prop:=match x,n with
  | .ns,.i _ a=>(0<a∧a<bigLen)∧Wv (.sl h.next 0 a.toNat a.toNat) (fun v=>Wv (h.alloc ⟨z.length,List.replicate a.toNat z⟩) (fun h'=>K v h'))
  | _,_=>False
theorem Wmz_i {z:List V} {k:IntKind} {a:Int}:Wmz z .ns (.i k a) h K=((0<a∧a<4294967296)∧Wv (.sl h.next 0 a.toNat a.toNat) (fun v=>Wv (h.alloc ⟨z.length,List.replicate a.toNat z⟩) (fun h'=>K v h'))):=nrfl rfl
theorem Z1_appz {z:List V} {x n:X}:Z1 tp (.appz z x n) e h K=(z.all plain1=true∧Wmz z (x.e2 e) (n.e2 e) h K):=by
  unfold Z1;simp only [z1,do2,doOp,Wo_ite]
  congr 1
  generalize x.e2 e=v
  generalize n.e2 e=w
  cases v<;>cases w<;>simp only [Wmz,Wo_none,Wo_ite,Wo_some,Wv_go]
def slc2 (g:Option Blk) (sz:Nat) (x:V) (lo hi mx:Option V):Option V:=match x with
    | .ns=>if mx.isNone||hi.isSome then (bndOf mx 0 0).bind fun m=>(bndOf hi 0 m).bind fun t=>(bndOf lo 0 t).map fun _=>.ns else none
    | .e0=>if mx.isNone||hi.isSome then (bndOf mx 0 0).bind fun m=>(bndOf hi 0 m).bind fun t=>(bndOf lo 0 t).map fun _=>.e0 else none
    | .sl id el len cap=>
      g.bind fun k=>
        if k.sz=sz∧(mx.isNone||hi.isSome)=true∧len≤cap then
          (bndOf mx cap cap).bind fun m=>(bndOf hi len m).bind fun t=>(bndOf lo 0 t).map fun l=>.sl id (el+l) (t - l) (m - l)
        else none
    | .fl s xs=>if s=sz∧(mx.isNone||hi.isSome)=true then (bndOf mx xs.length xs.length).bind fun m=>(bndOf hi xs.length m).bind fun t=>(bndOf lo 0 t).map fun l=>.fl s ((xs.drop l).take (t - l)) else none
    | _=>none
def idV:V→Nat | .sl id _ _ _=>id | .p id _ _=>id | _=>0
def elV:V→Nat | .sl _ el _ _=>el | _=>0
theorem idV_sl {a b c d:Nat}:idV (.sl a b c d)=a:=nrfl rfl
theorem elV_sl {a b c d:Nat}:elV (.sl a b c d)=b:=nrfl rfl
theorem idV_p {a b c:Nat}:idV (.p a b c)=a:=nrfl rfl
theorem slc2_fl {g:Option Blk} {s:Nat} {xs:List (List V)} {lo hi:Option V}:slc2 g s (.fl s xs) lo hi none=(bndOf hi xs.length xs.length).bind fun t=>(bndOf lo 0 t).map fun l=>.fl s ((xs.drop l).take (t - l)):=by
  simp [slc2,bndOf]
theorem slc2_fl3 {g:Option Blk} {s:Nat} {xs:List (List V)} {lo:Option V} {hi mx:V}:slc2 g s (.fl s xs) lo (some hi) (some mx)=(bndOf (some mx) xs.length xs.length).bind fun m=>(bndOf (some hi) xs.length m).bind fun t=>(bndOf lo 0 t).map fun l=>.fl s ((xs.drop l).take (t - l)):=by
  simp [slc2]
theorem do2_slice {sz:Nat} {x:X} {lo hi mx:Option X} {ev:X→V}:do2 (.slice sz x lo hi mx) ev h=(slc2 (h.get (idV (ev x))) sz (ev x) (lo.map ev) (hi.map ev) (mx.map ev)).map fun v=>(v,h):=by
  have two:∀ (a b c:Option V) (p q r:Nat) (F:Nat→Nat→Nat→V),((bndOf a p q).bind fun m=>(bndOf b r m).bind fun t=>(bndOf c 0 t).map fun l=>(F m t l,h))=((bndOf a p q).bind fun m=>(bndOf b r m).bind fun t=>(bndOf c 0 t).map fun l=>F m t l).map (fun v=>(v,h)):=by
    intro a b c p q r F
    cases bndOf a p q with
    | none=>rfl
    | some m=>
      simp only [Option.bind_some]
      cases bndOf b r m with
      | none=>rfl
      | some t=>
        simp only [Option.bind_some]
        cases bndOf c 0 t<;>rfl
  simp only [do2,doOp]
  cases ev x<;>simp only [slc2,Option.map_none,Option.isNone_map,Option.isSome_map,idV]
  · split
    · exact two _ _ _ _ _ _ (fun _ _ _=>V.ns)
    · rfl
  · split
    · exact two _ _ _ _ _ _ (fun _ _ _=>V.e0)
    · rfl
  · rename_i id el len cap
    cases h.get id with
    | none=>rfl
    | some k=>
      simp only [Option.bind_some]
      split
      · exact two _ _ _ _ _ _ (fun m t l=>V.sl id (el+l) (t - l) (m - l))
      · rfl
  · rename_i s xs
    split
    · exact two _ _ _ _ _ _ (fun m t l=>V.fl s ((xs.drop l).take (t - l)))
    · rfl
theorem Z1_slice {sz:Nat} {x:X} {lo hi mx:Option X}:Z1 tp (.slice sz x lo hi mx) e h K=Wo (slc2 (h.get (idV (x.e2 e))) sz (x.e2 e) (lo.map (X.e2 e)) (hi.map (X.e2 e)) (mx.map (X.e2 e))) (fun v=>K v h):=by
  unfold Z1;simp only [z1,do2_slice,Wo_map]
def sslV (x:V) (lo hi:Option V):Option V:=match x with
    | .s x=>(bndOf hi x.size x.size).bind fun t=>(bndOf lo 0 t).map fun l=>.s (x.extract l t)
    | _=>none
theorem sslV_s {x:ByteArray} {lo hi:Option V}:sslV (.s x) lo hi=(bndOf hi x.size x.size).bind fun t=>(bndOf lo 0 t).map fun l=>.s (x.extract l t):=nrfl rfl
theorem Z1_sslice {x:X} {lo hi:Option X}:Z1 tp (.sslice x lo hi) e h K=Wo (sslV (x.e2 e) (lo.map (X.e2 e)) (hi.map (X.e2 e))) (fun v=>K v h):=by
  unfold Z1;simp only [z1,do2,doOp,sslV]
  cases x.e2 e<;>simp only [Wo_none]
  rw [Wo_bind,Wo_bind]
  refine Wo_ext fun t=>?_
  rw [Wo_map,Wo_map]
def fadV (off:Nat):V→Option V | .p id el o=>some (.p id el (o+off)) | .fp s xs j o=>some (.fp s xs j (o+off)) | _=>none
theorem fadV_p {off a b c:Nat}:fadV off (.p a b c)=some (.p a b (c+off)):=nrfl rfl
theorem fadV_fp {off s j o:Nat} {xs:List (List V)}:fadV off (.fp s xs j o)=some (.fp s xs j (o+off)):=nrfl rfl
theorem Z1_fad {off:Nat} {x:X}:Z1 tp (.fad off x) e h K=Wo (fadV off (x.e2 e)) (fun v=>K v h):=by
  unfold Z1;simp only [z1,do2,doOp,fadV]
  cases x.e2 e<;>simp only [Wo_some,Wo_none]
def fldV (off n:Nat) (agg:Bool):V→Option V | .agg r=>cut r off n agg | _=>none
theorem fldV_agg {off n:Nat} {agg:Bool} {r:List V}:fldV off n agg (.agg r)=cut r off n agg:=nrfl rfl
theorem Z1_fld {off n:Nat} {agg:Bool} {x:X}:Z1 tp (.fld off n agg x) e h K=Wo (fldV off n agg (x.e2 e)) (fun v=>K v h):=by
  unfold Z1;simp only [z1,do2,doOp,fldV]
  cases x.e2 e<;>simp only [Wo_map,Wo_none]
def iad2 (g:Option Blk) (sz:Nat) (v i:V):Option V:=match v with
  | .sl id el len _=>match g with | some k=>if k.sz=sz then (idxOf i len).map fun j=>.p id (el+j) 0 else none | none=>none
  | .fl s xs=>if s=sz then (idxOf i xs.length).map fun j=>.fp s xs j 0 else none
  | _=>none
theorem iad2_fl {g:Option Blk} {s:Nat} {xs:List (List V)} {i:V}:iad2 g s (.fl s xs) i=(idxOf i xs.length).map fun j=>.fp s xs j 0:=by simp [iad2]
theorem iad2_sl {sz id el len cap:Nat} {cs:List (List V)} {i:V}:iad2 (some ⟨sz,cs⟩) sz (.sl id el len cap) i=(idxOf i len).map fun j=>.p id (el+j) 0:=by simp [iad2]
theorem iadF_2 {sz:Nat} {v i:V}:iadF (blkOf h v) sz v i=iad2 (h.get (idV v)) sz v i:=by
  cases v<;>try rfl
  rename_i id el len cap
  simp only [blkOf,idV]
  cases h.get id<;>rfl
theorem Z1_iad {sz:Nat} {x i:X}:Z1 tp (.iad sz x i) e h K=Wo (iad2 (h.get (idV (x.e2 e))) sz (x.e2 e) (i.e2 e)) (fun v=>K v h):=by
  unfold Z1;simp only [z1,do2,iadF_2,Wo_map]
def iadaV (sz len:Nat):V→V→Option V
  | .p id el off,i=>(idxOf i len).map fun j=>.p id el (off+j*sz)
  | .fp s xs k off,i=>(idxOf i len).map fun j=>.fp s xs k (off+j*sz)
  | _,_=>none
theorem iadaV_p {sz len id el off:Nat} {i:V}:iadaV sz len (.p id el off) i=(idxOf i len).map fun j=>.p id el (off+j*sz):=nrfl rfl
theorem iadaV_fp {sz len s k off:Nat} {xs:List (List V)} {i:V}:iadaV sz len (.fp s xs k off) i=(idxOf i len).map fun j=>.fp s xs k (off+j*sz):=nrfl rfl
theorem Z1_iada {sz len:Nat} {x i:X}:Z1 tp (.iada sz len x i) e h K=Wo (iadaV sz len (x.e2 e) (i.e2 e)) (fun v=>K v h):=by
  unfold Z1;simp only [z1,do2,doOp,iadaV]
  cases x.e2 e<;>simp only [Wo_none,Wo_map]
def idxV (sz len:Nat) (agg:Bool):V→V→Option V
  | .agg r,i=>(idxOf i len).bind fun j=>cut r (j*sz) sz agg
  | _,_=>none
theorem idxV_agg {sz len:Nat} {agg:Bool} {r:List V} {i:V}:idxV sz len agg (.agg r) i=(idxOf i len).bind fun j=>cut r (j*sz) sz agg:=nrfl rfl
theorem Z1_idx {sz len:Nat} {agg:Bool} {x i:X}:Z1 tp (.idx sz len agg x i) e h K=Wo (idxV sz len agg (x.e2 e) (i.e2 e)) (fun v=>K v h):=by
  unfold Z1;simp only [z1,do2,doOp,idxV]
  cases x.e2 e<;>simp only [Wo_none]
  rw [Wo_bind,Wo_bind]
  refine Wo_ext fun t=>?_
  rw [Wo_map]
def sidxV:V→V→Option V
  | .s x,i=>(idxOf i x.size).map fun j=>.i .u8 ((x.data.toList.getD j 0).toNat:Int)
  | _,_=>none
theorem sidxV_s {x:ByteArray} {i:V}:sidxV (.s x) i=(idxOf i x.size).map fun j=>.i .u8 ((x.data.toList.getD j 0).toNat:Int):=nrfl rfl
theorem Z1_sidx {x i:X}:Z1 tp (.sidx x i) e h K=Wo (sidxV (x.e2 e) (i.e2 e)) (fun v=>K v h):=by
  unfold Z1;simp only [z1,do2,doOp,sidxV]
  cases x.e2 e<;>simp only [Wo_none,Wo_bind,Wo_map]
def extV:V→Nat→Option V | .tup l,i=>l[i]? | _,_=>none
theorem extV_tup {l:List V} {i:Nat}:extV (.tup l) i=l[i]?:=nrfl rfl
theorem Z1_ext {x:X} {i:Nat}:Z1 tp (.ext x i) e h K=Wo (extV (x.e2 e) i) (fun v=>K v h):=by
  unfold Z1;simp only [z1,do2,doOp,extV]
  cases x.e2 e<;>simp only [Wo_none,Wo_map]
theorem Z1_app {sz:Nat} {x y:X}:Z1 tp (.app sz x y) e h K=Wo (rowsV sz h (y.e2 e)) (fun new=>Wo (appN sz h (x.e2 e) new) (fun z=>K z.1 z.2)):=by
  unfold Z1;simp only [z1,do2,Wo_bind];rfl
def lenV:V→Option V | .ns=>some (.i .i64 0) | .e0=>some (.i .i64 0) | .sl _ _ n _=>some (.i .i64 n) | .fl _ xs=>some (.i .i64 xs.length) | _=>none
theorem lenV_ns:lenV .ns=some (.i .i64 0):=nrfl rfl
theorem lenV_e0:lenV .e0=some (.i .i64 0):=nrfl rfl
theorem lenV_sl {a b c d:Nat}:lenV (.sl a b c d)=some (.i .i64 c):=nrfl rfl
theorem lenV_fl {s:Nat} {xs:List (List V)}:lenV (.fl s xs)=some (.i .i64 xs.length):=nrfl rfl
theorem Z1_len {x:X}:Z1 tp (.len x) e h K=Wo (lenV (x.e2 e)) (fun v=>K v h):=by
  unfold Z1;simp only [z1,do2,doOp,lenV]
  cases x.e2 e<;>simp only [Wo_some,Wo_none]
def slenV:V→Option V | .s x=>some (.i .i64 x.size) | _=>none
theorem slenV_s {x:ByteArray}:slenV (.s x)=some (.i .i64 x.size):=nrfl rfl
theorem Z1_slen {x:X}:Z1 tp (.slen x) e h K=Wo (slenV (x.e2 e)) (fun v=>K v h):=by
  unfold Z1;simp only [z1,do2,doOp,slenV]
  cases x.e2 e<;>simp only [Wo_some,Wo_none]
theorem Z1_lenc {n:Nat}:Z1 tp (.lenc n) e h K=K (.i .i64 n) h:=by unfold Z1;simp only [z1,do2,doOp,Wo_some]
theorem Z1_mn {x:X} {l:List X}:Z1 tp (.mn (x::l)) e h K=Wo (foldV minV (x.e2 e) (l.map (X.e2 e))) (fun v=>K v h):=by unfold Z1;simp only [z1,do2,doOp,Wo_map]
theorem Z1_mx {x:X} {l:List X}:Z1 tp (.mx (x::l)) e h K=Wo (foldV maxV (x.e2 e) (l.map (X.e2 e))) (fun v=>K v h):=by unfold Z1;simp only [z1,do2,doOp,Wo_map]
def tasV (t:Nat) (ok:Bool) (z:V):V→Option V
  | .ifc t' v=>if t'=t then some (if ok then .tup [v,.b true] else v) else if ok then some (.tup [z,.b false]) else none
  | .ni=>if ok then some (.tup [z,.b false]) else none
  | _=>none
theorem tasV_same {t:Nat} {z v:V}:tasV t false z (.ifc t v)=some v:=by simp [tasV]
theorem Z1_tas {t:Nat} {ok:Bool} {z:V} {x:X}:Z1 tp (.tas t ok z x) e h K=(plain z=true∧Wo (tasV t ok z (x.e2 e)) (fun v=>K v h)):=by
  unfold Z1;simp only [z1,do2,doOp,Wo_ite,tasV]
  congr 1
  cases x.e2 e<;>simp only [Wo_none]<;>(repeat' split)<;>simp only [Wo_none,Wo_some]
def calleeV:V→List V→Option (Nat×List V) | .f (.func g) first caps,l=>some (g,first++l++caps) | _,_=>none
theorem calleeV_f {g:Nat} {a c l:List V}:calleeV (.f (.func g) a c) l=some (g,a++l++c):=nrfl rfl
theorem Z1_call {f:X} {l:List X}:Z1 tp (.call f l) e h K=Wo (calleeV (f.e2 e) (l.map (X.e2 e))) (fun c=>Cq tp c.1 c.2 h K):=by
  unfold Z1;simp only [z1,callee]
  generalize f.e2 e=v
  cases v with
  | f g a c=>cases g<;>rfl
  | _=>rfl
theorem Z1_fn {f:Nat} {l:List X}:Z1 tp (.call (.fn f) l) e h K=Cq tp f (l.map (X.e2 e)) h K:=by
  rw [Z1_call,e2_fn,calleeV_f,Wo_some];simp
def methV (tp:TP) (m:String) (l:List V):V→Option (Nat×List V)
  | .ifc t v=>(tp.meth t m).bind fun q=>match q.at_ with
    | none=>some (q.f,v::l)
    | some j=>match v with | .agg cs=>(cs[j]?).map fun r=>(q.f,r::l) | _=>none
  | _=>none
theorem methV_ifc {m:String} {l:List V} {t:Nat} {v:V}:methV tp m l (.ifc t v)=(tp.meth t m).bind fun q=>match q.at_ with
    | none=>some (q.f,v::l)
    | some j=>match v with | .agg cs=>(cs[j]?).map fun r=>(q.f,r::l) | _=>none:=nrfl rfl
theorem Z1_inv {x:X} {m:String} {l:List X}:Z1 tp (.inv x m l) e h K=Wo (methV tp m (l.map (X.e2 e)) (x.e2 e)) (fun c=>Cq tp c.1 c.2 h K):=by
  unfold Z1;simp only [z1,callee]
  cases x.e2 e<;>rfl
/-! Quiet ones. -/
theorem ZQ1_pure {o:O} (hp:isPure o=true):ZQ1 tp o e h K=Z1 tp o e h K:=by unfold ZQ1 Z1 zq1;rw [if_pos hp]
theorem ZQ1_not {o:O} (hp:isPure o=false):ZQ1 tp o e h K=Z1 tp o e h.raise (fun v h'=>K v (h'.back h.lim)):=by unfold ZQ1 Z1 zq1;rw [if_neg (by simp [hp])]
theorem ldZ_raise {n:Nat} {g:Bool} {v:V}:ldZ h.raise n g v=ldZ h n g v:=by cases v<;>rfl
theorem ZQ1_load {n:Nat} {g:Bool} {x:X}:ZQ1 tp (.load n g x) e h K=Z1 tp (.load n g x) e h K:=by
  rw [ZQ1_not rfl,Z1_load,Z1_load,ldZ_raise];rfl
theorem ZQ1_slice {sz:Nat} {x:X} {lo hi mx:Option X}:ZQ1 tp (.slice sz x lo hi mx) e h K=Z1 tp (.slice sz x lo hi mx) e h K:=by
  rw [ZQ1_not rfl,Z1_slice,Z1_slice];rfl
theorem ZQ1_alloc {z:List V}:ZQ1 tp (.alloc z) e h K=Z1 tp (.alloc z) e h K:=by
  rw [ZQ1_not rfl,Z1_alloc,Z1_alloc];rfl
theorem ZQ1_box {x:X}:ZQ1 tp (.box x) e h K=Z1 tp (.box x) e h K:=by
  rw [ZQ1_not rfl,Z1_box,Z1_box];rfl
theorem ZQ1_alc {z:List V}:ZQ1 tp (.alc z) e h K=Z1 tp (.alc z) e h K:=by
  rw [ZQ1_not rfl,Z1_alc,Z1_alc];rfl
theorem ZQ1_bslc {sz n:Nat} {z:List V} {ps:List (Nat×X)}:ZQ1 tp (.bslc sz z n ps) e h K=Z1 tp (.bslc sz z n ps) e h K:=by
  rw [ZQ1_not rfl,Z1_bslc,Z1_bslc];rfl
theorem ZQ1_bsl {sz n:Nat} {z:List V} {ps:List (Nat×X)}:ZQ1 tp (.bsl sz z n ps) e h K=Z1 tp (.bsl sz z n ps) e h K:=by
  rw [ZQ1_not rfl,Z1_bsl,Z1_bsl];rfl
theorem ZQ1_b2s {x:X}:ZQ1 tp (.b2s x) e h K=Z1 tp (.b2s x) e h K:=by
  rw [ZQ1_not rfl,Z1_b2s,Z1_b2s]
  have:b2sV h.raise (x.e2 e)=b2sV h (x.e2 e):=by cases x.e2 e<;>rfl
  rw [this];rfl
theorem ZQ1_s2b {x:X}:ZQ1 tp (.s2b x) e h K=Z1 tp (.s2b x) e h K:=by
  rw [ZQ1_not rfl,Z1_s2b,Z1_s2b];rfl
theorem ZQ1_appz {z:List V} {x y:X}:ZQ1 tp (.appz z x y) e h K=Z1 tp (.appz z x y) e h.raise (fun v h'=>K v (h'.back h.lim)):=ZQ1_not rfl
theorem ZQ1_mksl {z:List V} {x y:X}:ZQ1 tp (.mksl z x y) e h K=Z1 tp (.mksl z x y) e h.raise (fun v h'=>K v (h'.back h.lim)):=ZQ1_not rfl
theorem ZQ1_app {sz:Nat} {x y:X}:ZQ1 tp (.app sz x y) e h K=Z1 tp (.app sz x y) e h.raise (fun v h'=>K v (h'.back h.lim)):=ZQ1_not rfl
theorem ZQ1_store {n:Nat} {x y:X}:ZQ1 tp (.store n x y) e h K=Z1 tp (.store n x y) e h.raise (fun v h'=>K v (h'.back h.lim)):=ZQ1_not rfl
theorem ZQ1_mark {x:X}:ZQ1 tp (.mark x) e h K=Z1 tp (.mark x) e h.raise (fun v h'=>K v (h'.back h.lim)):=ZQ1_not rfl
theorem ZQ1_call {f:X} {l:List X}:ZQ1 tp (.call f l) e h K=Z1 tp (.call f l) e h.raise (fun v h'=>K v (h'.back h.lim)):=ZQ1_not rfl
theorem ZQ1_inv {x:X} {m:String} {l:List X}:ZQ1 tp (.inv x m l) e h K=Z1 tp (.inv x m l) e h.raise (fun v h'=>K v (h'.back h.lim)):=ZQ1_not rfl
theorem ZQ1_mv {x:X}:ZQ1 tp (.mv x) e h K=Z1 tp (.mv x) e h K:=ZQ1_pure rfl
theorem ZQ1_pick {a b c:X}:ZQ1 tp (.pick a b c) e h K=Z1 tp (.pick a b c) e h K:=ZQ1_pure rfl
theorem ZQ1_build {z:List V} {ps:List (Nat×Nat×X)}:ZQ1 tp (.build z ps) e h K=Z1 tp (.build z ps) e h K:=ZQ1_pure rfl
theorem ZQ1_e0  : ZQ1 tp (.e0 ) e h K=Z1 tp (.e0 ) e h K:=ZQ1_pure rfl
theorem ZQ1_nck {x:X}:ZQ1 tp (.nck x) e h K=Z1 tp (.nck x) e h K:=ZQ1_pure rfl
theorem ZQ1_bin {op:BinOp} {x y:X}:ZQ1 tp (.bin op x y) e h K=Z1 tp (.bin op x y) e h K:=ZQ1_pure rfl
theorem ZQ1_eq {n:Bool} {k:EK} {x y:X}:ZQ1 tp (.eq n k x y) e h K=Z1 tp (.eq n k x y) e h K:=ZQ1_pure rfl
theorem ZQ1_un {op:UnOp} {x:X}:ZQ1 tp (.un op x) e h K=Z1 tp (.un op x) e h K:=ZQ1_pure rfl
theorem ZQ1_conv {k:IntKind} {x:X}:ZQ1 tp (.conv k x) e h K=Z1 tp (.conv k x) e h K:=ZQ1_pure rfl
theorem ZQ1_strs {x:X}:ZQ1 tp (.strs x) e h K=Z1 tp (.strs x) e h K:=ZQ1_pure rfl
theorem ZQ1_i2s {x:X}:ZQ1 tp (.i2s x) e h K=Z1 tp (.i2s x) e h K:=ZQ1_pure rfl
theorem ZQ1_mkif {t:Nat} {x:X}:ZQ1 tp (.mkif t x) e h K=Z1 tp (.mkif t x) e h K:=ZQ1_pure rfl
theorem ZQ1_mkfn {f:Fn} {a c:List X}:ZQ1 tp (.mkfn f a c) e h K=Z1 tp (.mkfn f a c) e h K:=ZQ1_pure rfl
theorem ZQ1_sslice {x:X} {lo hi:Option X}:ZQ1 tp (.sslice x lo hi) e h K=Z1 tp (.sslice x lo hi) e h K:=ZQ1_pure rfl
theorem ZQ1_fad {o:Nat} {x:X}:ZQ1 tp (.fad o x) e h K=Z1 tp (.fad o x) e h K:=ZQ1_pure rfl
theorem ZQ1_fld {o n:Nat} {g:Bool} {x:X}:ZQ1 tp (.fld o n g x) e h K=Z1 tp (.fld o n g x) e h K:=ZQ1_pure rfl
theorem ZQ1_iad {s:Nat} {x i:X}:ZQ1 tp (.iad s x i) e h K=Z1 tp (.iad s x i) e h K:=ZQ1_pure rfl
theorem ZQ1_iada {s n:Nat} {x i:X}:ZQ1 tp (.iada s n x i) e h K=Z1 tp (.iada s n x i) e h K:=ZQ1_pure rfl
theorem ZQ1_idx {s n:Nat} {g:Bool} {x i:X}:ZQ1 tp (.idx s n g x i) e h K=Z1 tp (.idx s n g x i) e h K:=ZQ1_pure rfl
theorem ZQ1_sidx {x i:X}:ZQ1 tp (.sidx x i) e h K=Z1 tp (.sidx x i) e h K:=ZQ1_pure rfl
theorem ZQ1_ext {x:X} {i:Nat}:ZQ1 tp (.ext x i) e h K=Z1 tp (.ext x i) e h K:=ZQ1_pure rfl
theorem ZQ1_fload {n:Nat} {ag:Bool} {x:X}:ZQ1 tp (.fload n ag x) e h K=Z1 tp (.fload n ag x) e h K:=ZQ1_pure rfl
theorem ZQ1_len {x:X}:ZQ1 tp (.len x) e h K=Z1 tp (.len x) e h K:=ZQ1_pure rfl
theorem ZQ1_slen {x:X}:ZQ1 tp (.slen x) e h K=Z1 tp (.slen x) e h K:=ZQ1_pure rfl
theorem ZQ1_lenc {n:Nat}:ZQ1 tp (.lenc n) e h K=Z1 tp (.lenc n) e h K:=ZQ1_pure rfl
theorem ZQ1_mn {l:List X}:ZQ1 tp (.mn l) e h K=Z1 tp (.mn l) e h K:=ZQ1_pure rfl
theorem ZQ1_mx {l:List X}:ZQ1 tp (.mx l) e h K=Z1 tp (.mx l) e h K:=ZQ1_pure rfl
theorem ZQ1_tas {t:Nat} {ok:Bool} {z:V} {x:X}:ZQ1 tp (.tas t ok z x) e h K=Z1 tp (.tas t ok z x) e h K:=ZQ1_pure rfl
end
/-! ### Values -/
theorem bin_add {k:IntKind} {a b:Int}:binV .add (.i k a) (.i k b)=some (.i k (k.wrap (a+b))):=by simp [binV,binI]
theorem bin_sub {k:IntKind} {a b:Int}:binV .sub (.i k a) (.i k b)=some (.i k (k.wrap (a - b))):=by simp [binV,binI]
theorem bin_mul {k:IntKind} {a b:Int}:binV .mul (.i k a) (.i k b)=some (.i k (k.wrap (a*b))):=by simp [binV,binI]
theorem bin_quo {k:IntKind} {a b:Int} (hb:¬ b=0):binV .quo (.i k a) (.i k b)=some (.i k (k.wrap (a.tdiv b))):=by simp [binV,binI,hb]
theorem bin_rem {k:IntKind} {a b:Int} (hb:¬ b=0):binV .rem (.i k a) (.i k b)=some (.i k (a.tmod b)):=by simp [binV,binI,hb]
theorem bin_and {k:IntKind} {a b:Int}:binV .and (.i k a) (.i k b)=some (.i k (k.wrap (BitVec.ofInt k.bits a &&& BitVec.ofInt k.bits b).toNat)):=by simp [binV,binI]
theorem bin_or {k:IntKind} {a b:Int}:binV .or (.i k a) (.i k b)=some (.i k (k.wrap (BitVec.ofInt k.bits a ||| BitVec.ofInt k.bits b).toNat)):=by simp [binV,binI]
theorem bin_eql {k:IntKind} {a b:Int}:binV .eql (.i k a) (.i k b)=some (.b (decide (a=b))):=by simp [binV,binI]
theorem bin_neq {k:IntKind} {a b:Int}:binV .neq (.i k a) (.i k b)=some (.b (decide (¬ a=b))):=by simp [binV,binI]
theorem bin_lss {k:IntKind} {a b:Int}:binV .lss (.i k a) (.i k b)=some (.b (decide (a<b))):=by simp [binV,binI]
theorem bin_leq {k:IntKind} {a b:Int}:binV .leq (.i k a) (.i k b)=some (.b (decide (a≤b))):=by simp [binV,binI]
theorem bin_gtr {k:IntKind} {a b:Int}:binV .gtr (.i k a) (.i k b)=some (.b (decide (b<a))):=by simp [binV,binI]
theorem bin_geq {k:IntKind} {a b:Int}:binV .geq (.i k a) (.i k b)=some (.b (decide (b≤a))):=by simp [binV,binI]
theorem un_not {x:Bool}:unV .not (.b x)=some (.b (!x)):=nrfl rfl
theorem un_neg {k:IntKind} {n:Int}:unV .neg (.i k n)=some (.i k (k.wrap (0 - n))):=nrfl rfl
theorem min_i {k:IntKind} {x y:Int}:minV (.i k x) (.i k y)=some (.i k (min x y)):=by
  simp only [minV,if_true];congr 2
  omega
theorem max_i {k:IntKind} {x y:Int}:maxV (.i k x) (.i k y)=some (.i k (max x y)):=by
  simp only [maxV,if_true];congr 2
  omega
theorem fold_nil {f:V→V→Option V} {x:V}:foldV f x []=some x:=nrfl rfl
theorem fold_cons {f:V→V→Option V} {x y:V} {l:List V}:foldV f x (y::l)=(f x y).bind fun z=>foldV f z l:=nrfl rfl
theorem ndec {p:Prop} [Decidable p]:(!decide p)=decide (¬ p):=by simp
theorem adec {p q:Prop} [Decidable p] [Decidable q]:(decide p&&decide q)=decide (p∧q):=by simp
theorem odec {p q:Prop} [Decidable p] [Decidable q]:(decide p||decide q)=decide (p∨q):=by simp
theorem idx_i {k:IntKind} {j:Int} {n:Nat} (h0:0≤j) (h1:j<n):idxOf (.i k j) n=some j.toNat:=by simp [idxOf,h0,h1]
theorem bnd_none {d n:Nat}:bndOf none d n=some d:=nrfl rfl
theorem bnd_i {k:IntKind} {j:Int} {d n:Nat} (h0:0≤j) (h1:j≤n):bndOf (some (.i k j)) d n=some j.toNat:=by simp [bndOf,h0,h1]
theorem cells_agg {l:List V}:V.cells (.agg l)=l:=nrfl rfl
theorem cells_i {k:IntKind} {n:Int}:V.cells (.i k n)=[.i k n]:=nrfl rfl
theorem cells_b {x:Bool}:V.cells (.b x)=[.b x]:=nrfl rfl
theorem cells_s {x:ByteArray}:V.cells (.s x)=[.s x]:=nrfl rfl
theorem cells_sl {a b c d:Nat}:V.cells (.sl a b c d)=[.sl a b c d]:=nrfl rfl
theorem cells_ns:V.cells .ns=[.ns]:=nrfl rfl
theorem cells_p {a b c:Nat}:V.cells (.p a b c)=[.p a b c]:=nrfl rfl
theorem cells_np:V.cells .np=[.np]:=nrfl rfl
theorem isCell_i {k:IntKind} {n:Int}:V.isCell (.i k n)=true:=nrfl rfl
theorem isCell_b {x:Bool}:V.isCell (.b x)=true:=nrfl rfl
theorem isCell_s {x:ByteArray}:V.isCell (.s x)=true:=nrfl rfl
theorem isCell_sl {a b c d:Nat}:V.isCell (.sl a b c d)=true:=nrfl rfl
theorem isCell_ns:V.isCell .ns=true:=nrfl rfl
theorem isCell_p {a b c:Nat}:V.isCell (.p a b c)=true:=nrfl rfl
theorem isCell_np:V.isCell .np=true:=nrfl rfl
theorem w64 {x:Int} (h0 : -9223372036854775808≤x) (h1:x<9223372036854775808):IntKind.wrap .i64 x=x:=by rw [IntKind.wrap_i64];omega
theorem cells_fl {a:Nat} {b:List (List V)}:V.cells (.fl a b)=[.fl a b]:=nrfl rfl
theorem cells_fp {a c d:Nat} {b:List (List V)}:V.cells (.fp a b c d)=[.fp a b c d]:=nrfl rfl
theorem cells_e0:V.cells .e0=[.e0]:=nrfl rfl
theorem cells_nf:V.cells .nf=[.nf]:=nrfl rfl
theorem cells_ni:V.cells .ni=[.ni]:=nrfl rfl
theorem cells_f {a:Fn} {b c:List V}:V.cells (.f a b c)=[.f a b c]:=nrfl rfl
theorem cells_ifc {a:Nat} {b:V}:V.cells (.ifc a b)=[.ifc a b]:=nrfl rfl
theorem isCell_fl {a:Nat} {b:List (List V)}:V.isCell (.fl a b)=true:=nrfl rfl
theorem isCell_fp {a c d:Nat} {b:List (List V)}:V.isCell (.fp a b c d)=true:=nrfl rfl
theorem isCell_e0:V.isCell .e0=true:=nrfl rfl
theorem isCell_nf:V.isCell .nf=true:=nrfl rfl
theorem isCell_ni:V.isCell .ni=true:=nrfl rfl
theorem isCell_f {a:Fn} {b c:List V}:V.isCell (.f a b c)=true:=nrfl rfl
theorem isCell_ifc {a:Nat} {b:V}:V.isCell (.ifc a b)=true:=nrfl rfl
theorem pur_b {x:Bool}:pur (.b x)=true:=nrfl (by simp [pur])
theorem pur_i {k:IntKind} {n:Int}:pur (.i k n)=true:=nrfl (by simp [pur])
theorem pur_s {x:ByteArray}:pur (.s x)=true:=nrfl (by simp [pur])
theorem pur_fl {a:Nat} {b:List (List V)}:pur (.fl a b)=true:=nrfl (by simp [pur])
theorem pur_ns:pur .ns=true:=nrfl (by simp [pur])
theorem pur_e0:pur .e0=true:=nrfl (by simp [pur])
theorem pur_np:pur .np=true:=nrfl (by simp [pur])
theorem pur_ni:pur .ni=true:=nrfl (by simp [pur])
theorem pur_nf:pur .nf=true:=nrfl (by simp [pur])
theorem pur_u:pur .u=true:=nrfl (by simp [pur])
theorem pur_agg {l:List V}:pur (.agg l)=purs l:=nrfl (by simp [pur])
theorem pur_tup {l:List V}:pur (.tup l)=purs l:=nrfl (by simp [pur])
theorem pur_f {f:Fn} {a c:List V}:pur (.f f a c)=(purs a&&purs c):=nrfl (by simp [pur])
theorem pur_ifc {t:Nat} {v:V}:pur (.ifc t v)=pur v:=nrfl (by simp [pur])
theorem purs_nil:purs []=true:=nrfl (by simp [purs])
theorem purs_cons {v:V} {l:List V}:purs (v::l)=(pur v&&purs l):=nrfl (by simp [purs])
theorem eq_b {x y:Bool}:eqV .b (.b x) (.b y)=some (decide (x=y)):=by cases x<;>cases y<;>rfl
theorem eq_agg {ks:List CK} {l m:List V}:eqV (.agg ks) (.agg l) (.agg m)=eqL ks l m:=nrfl rfl
theorem eqL_nil:eqL [] [] []=some true:=nrfl rfl
theorem eqL_cons {k:CK} {ks:List CK} {a c:V} {l m:List V}:eqL (k::ks) (a::l) (c::m)=(eqC k a c).bind fun x=>(eqL ks l m).map fun y=>x&&y:=nrfl rfl
theorem eqC_i {k:IntKind} {a b:Int}:eqC .i (.i k a) (.i k b)=some (decide (a=b)):=by simp [eqC]
theorem eqC_b {x y:Bool}:eqC .b (.b x) (.b y)=some (decide (x=y)):=by cases x<;>cases y<;>rfl
theorem eqC_s {x y:ByteArray}:eqC .s (.s x) (.s y)=some (decide (x=y)):=nrfl rfl
theorem binS_eql {x y:ByteArray}:binV .eql (.s x) (.s y)=some (.b (decide (x=y))):=nrfl rfl
theorem binS_neq {x y:ByteArray}:binV .neq (.s x) (.s y)=some (.b (decide (¬ x=y))):=by simp [binV,binS]
theorem binS_add {x y:ByteArray} (h:x.size+y.size<4294967296):binV .add (.s x) (.s y)=some (.s (x++y)):=by simp [binV,binS,bigLen,h]
/-! ### Results -/
section
variable {e:Env} {h:AH}
theorem Zend_nm {res:List RV} {Q:V→AH→Prop}:Zend res .nm e h Q=Wo (resOf e h res) (fun v=>Q v h):=nrfl rfl
theorem Zend_rt {res:List RV} {Q:V→AH→Prop}:Zend res .rt e h Q=Wo (resOf e h res) (fun v=>Q v h):=nrfl rfl
theorem res_nil:resOf e h []=some (.tup []):=nrfl rfl
theorem res_one {n:Nat}:resOf e h [.t n]=some (e n):=nrfl rfl
theorem res_two {n m:Nat}:resOf e h [.t n,.t m]=some (.tup [e n,e m]):=nrfl rfl
theorem res_three {n m l:Nat}:resOf e h [.t n,.t m,.t l]=some (.tup [e n,e m,e l]):=nrfl rfl
def cellV (h:AH) (k:Nat) (g:Bool):V→Option V | .p id el off=>ld2 (h.get id) el off k g | _=>none
theorem cellV_p {k id el off:Nat} {g:Bool}:cellV h k g (.p id el off)=ld2 (h.get id) el off k g:=nrfl rfl
theorem rvOf_cell {n k:Nat} {g:Bool}:rvOf e h (.cell n k g)=cellV h k g (e n):=nrfl rfl
theorem res_cell {n k:Nat} {g:Bool}:resOf e h [.cell n k g]=cellV h k g (e n):=by
  simp only [resOf,rvs,rvOf_cell]
  cases cellV h k g (e n)<;>rfl
theorem res_cell2 {n k m:Nat} {g:Bool}:resOf e h [.cell n k g,.t m]=(cellV h k g (e n)).map fun v=>.tup [v,e m]:=by
  simp only [resOf,rvs,rvOf_cell]
  cases cellV h k g (e n)<;>rfl
theorem res_cell3 {n k m l:Nat} {g:Bool}:resOf e h [.cell n k g,.t m,.t l]=(cellV h k g (e n)).map fun v=>.tup [v,e m,e l]:=by
  simp only [resOf,rvs,rvOf_cell]
  cases cellV h k g (e n)<;>rfl
end
/-! ### What stays -/
def stay:V→Bool
  | .b _ | .i .. | .s _ | .np | .ns | .e0 | .nf | .ni | .u | .fl .. | .fp ..=>true
  | _=>false
theorem Frz.of_stay {P:Nat→Prop} {h:AH} {n:Nat} {v:V} (hv:stay v=true):Frz P h n v v:=by
  cases v<;>first | (simp [stay] at hv;done) | exact .fl _ _ _ | exact .fp _ _ _ _ _ | exact .z _ _ (by constructor)
theorem Frzs.of_stay {P:Nat→Prop} {h:AH} {n:Nat}:∀ {l:List V},l.all stay=true→Frzs P h n l l
  | [],_=>.nil _
  | v::l,hl=>by
    simp only [List.all_cons,Bool.and_eq_true] at hl
    exact .cons _ _ _ _ _ (Frz.of_stay hl.1) (Frzs.of_stay hl.2)
theorem Frzr.of_map {P:Nat→Prop} {h:AH} {n:Nat} {α:Type} {enc:α→List V} (he:∀ a,(enc a).all stay=true):∀ (L:List α),Frzr P h n (L.map enc) (L.map enc)
  | []=>.nil _
  | a::L=>.cons _ _ _ _ _ (Frzs.of_stay (he a)) (Frzr.of_map he L)
section
variable {P:Nat→Prop} {h:AH} {n:Nat}
theorem Frz_i {k k':IntKind} {z z':Int}:Frz P h n (.i k z) (.i k' z')=(k=k'∧z=z'):=propext ⟨fun f=>by cases f;exact ⟨rfl,rfl⟩,fun ⟨a,b⟩=>by subst a;subst b;exact .z _ _ (.i _ _)⟩
theorem Frz_b {z z':Bool}:Frz P h n (.b z) (.b z')=(z=z'):=propext ⟨fun f=>by cases f;exact rfl,fun a=>by subst a;exact .z _ _ (.b _)⟩
theorem Frz_s {z z':ByteArray}:Frz P h n (.s z) (.s z')=(z=z'):=propext ⟨fun f=>by cases f;exact rfl,fun a=>by subst a;exact .z _ _ (.s _)⟩
theorem Frz_fl {s s':Nat} {z z':List (List V)}:Frz P h n (.fl s z) (.fl s' z')=(s=s'∧z=z'):=propext ⟨fun f=>by
  cases f with
  | z _ _ h0=>cases h0
  | fl=>exact ⟨rfl,rfl⟩,fun ⟨a,b⟩=>by subst a;subst b;exact .fl _ _ _⟩
theorem Frz_ns {s:Nat} {z:List (List V)}:Frz P h n .ns (.fl s z)=(z=[]):=propext ⟨fun f=>by cases f;exact rfl,fun a=>by subst a;exact .ns _ _⟩
theorem Frz_e0 {s:Nat} {z:List (List V)}:Frz P h n .e0 (.fl s z)=(z=[]):=propext ⟨fun f=>by cases f;exact rfl,fun a=>by subst a;exact .e0 _ _⟩
theorem Frz_np:Frz P h n .np .np=True:=by simp;exact .z _ _ .np
theorem Frz_tup {l l':List V}:Frz P h n (.tup l) (.tup l')=Frzs P h n l l':=propext ⟨fun f=>by
  cases f with
  | z _ _ h0=>cases h0
  | tup _ _ _ h=>exact h,fun a=>.tup _ _ _ a⟩
theorem Frz_agg {l l':List V}:Frz P h n (.agg l) (.agg l')=Frzs P h n l l':=propext ⟨fun f=>by
  cases f with
  | z _ _ h0=>cases h0
  | agg _ _ _ h=>exact h,fun a=>.agg _ _ _ a⟩
theorem Frzs_nil:Frzs P h n [] []=True:=by simp;exact .nil _
theorem Frzs_cons {v w:V} {l l':List V}:Frzs P h n (v::l) (w::l')=(Frz P h n v w∧Frzs P h n l l'):=propext ⟨fun f=>by
  cases f with
  | cons _ _ _ _ _ a b=>exact ⟨a,b⟩,fun ⟨a,b⟩=>.cons _ _ _ _ _ a b⟩
end
/-! ### Slices of one's own -/
def nth {α:Type} [Inhabited α] (L:List α) (j:Nat):α:=L.getD j default
theorem nth_get {α:Type} [Inhabited α] {L:List α} {j:Nat} (h:j<L.length):L[j]?=some (nth L j):=by simp [nth,List.getD,List.getElem?_eq_getElem h]
theorem nth_eq {α:Type} [Inhabited α] {L:List α} {j:Nat} (h:j<L.length):nth L j=L[j]:=by simp [nth,List.getD,List.getElem?_eq_getElem h]
theorem nth_row {α:Type} [Inhabited α] {β:Type} {f:α→β} {L:List α} {j:Nat} (h:j<L.length):(L.map f)[j]?=some (f (nth L j)):=by rw [List.getElem?_map,nth_get h];rfl
theorem nth_mem {α:Type} [Inhabited α] {L:List α} {j:Nat} (h:j<L.length):nth L j∈L:=by rw [nth_eq h];exact List.getElem_mem h
theorem drop_nth {α:Type} [Inhabited α] {L:List α} {i:Nat} (h:i<L.length):L.drop i=nth L i::L.drop (i+1):=by
  rw [nth_eq h];exact List.drop_eq_getElem_cons h
structure Ext (h h':AH):Prop where
  next:h.next≤h'.next
  lim:h'.lim=h.lim
  get:∀ i,i<h.next→h'.get i=h.get i
theorem Ext.refl (h:AH):Ext h h:=⟨Nat.le_refl _,rfl,fun _ _=>rfl⟩
theorem Ext.trans {a b c:AH} (p:Ext a b) (q:Ext b c):Ext a c:=⟨Nat.le_trans p.next q.next,q.lim.trans p.lim,fun i hi=>(q.get i (Nat.lt_of_lt_of_le hi p.next)).trans (p.get i hi)⟩
theorem Ext.alloc {a b:AH} (p:Ext a b) (k:Blk):Ext a (b.alloc k):=⟨Nat.le_succ_of_le p.next,p.lim,fun i hi=>by
  rw [get_alloc,gsel_ne (by have:=p.next;omega)];exact p.get i hi⟩
theorem Ext.put {a b:AH} (p:Ext a b) (i:Nat) (k:Blk) (hi:a.next≤i):Ext a (b.put i k):=⟨p.next,p.lim,fun j hj=>by
  rw [get_put,gsel_ne (by omega)];exact p.get j hj⟩
theorem Ext.kill {a b:AH} (p:Ext a b) (i:Nat) (hi:a.next≤i):Ext a (b.kill i):=⟨p.next,p.lim,fun j hj=>by
  rw [get_kill,gsel_ne (by omega)];exact p.get j hj⟩
def csOf (h:AH) (v:V):List (List V):=match h.get (idV v) with | some k=>k.cs | none=>[]
def Sl (b:Nat) (h:AH) (sz:Nat) (v:V) (R:List (List V)):Prop:=((v=.ns∨v=.e0)∧R=[])∨∃ id el cap cs,v=.sl id el R.length cap∧h.get id=some ⟨sz,cs⟩∧el+cap≤cs.length∧(cs.drop el).take R.length=R∧R.length≤cap∧id<h.next∧b≤id∧R.length<4294967296
theorem Sl.nil (b:Nat) (h:AH) (sz:Nat):Sl b h sz .ns []:=.inl ⟨.inl rfl,rfl⟩
theorem Sl.nil' (b:Nat) (h:AH) (sz:Nat):Sl b h sz .e0 []:=.inl ⟨.inr rfl,rfl⟩
theorem Sl.same {b:Nat} {h h':AH} {sz:Nat} {v:V} {R:List (List V)} (s:Sl b h sz v R) (hn:h.next≤h'.next) (hg:idV v<h.next→h'.get (idV v)=h.get (idV v)):Sl b h' sz v R:=by
  rcases s with ⟨hv,rfl⟩ | ⟨id,el,cap,k,rfl,a,c,d,f,hlt,hb,hl⟩
  · exact .inl ⟨hv,rfl⟩
  · exact .inr ⟨id,el,cap,k,rfl,(hg hlt).trans a,c,d,f,Nat.lt_of_lt_of_le hlt hn,hb,hl⟩
theorem Sl.ext {b:Nat} {h h':AH} {sz:Nat} {v:V} {R:List (List V)} (s:Sl b h sz v R) (p:Ext h h'):Sl b h' sz v R:=s.same p.next (fun hl=>p.get _ hl)
theorem Sl.alloc {b:Nat} {h:AH} {sz:Nat} {v:V} {R:List (List V)} (s:Sl b h sz v R) (k:Blk):Sl b (h.alloc k) sz v R:=s.ext ((Ext.refl h).alloc k)
theorem Sl.putx {b:Nat} {h:AH} {sz:Nat} {v:V} {R:List (List V)} (s:Sl b h sz v R) (i:Nat) (k:Blk) (hi:i≠idV v):Sl b (h.put i k) sz v R:=s.same (Nat.le_refl _) (fun _=>by rw [get_put,gsel_ne (Ne.symm hi)])
theorem Sl.back {b:Nat} {h:AH} {sz l:Nat} {v:V} {R:List (List V)} (s:Sl b h sz v R):Sl b (h.back l) sz v R:=s
theorem Sl.raise {b:Nat} {h:AH} {sz:Nat} {v:V} {R:List (List V)} (s:Sl b h sz v R):Sl b h.raise sz v R:=s
structure SlF {α:Type} [Inhabited α] (enc:α→List V) (b:Nat) (h:AH) (sz:Nat) (v:V) (L:List α):Prop where
  len:lenV v=some (.i .i64 (L.length:Int))
  big:L.length<4294967296
  lt:0<L.length→idV v<h.next
  lo:0<L.length→b≤idV v
  get:0<L.length→h.get (idV v)=some ⟨sz,csOf h v⟩
  at_:∀ (k:IntKind) (j:Int) (cs:List (List V)),0≤j→j<L.length→iad2 (some ⟨sz,cs⟩) sz v (.i k j)=some (.p (idV v) (elV v+j.toNat) 0)
  row:∀ (j:Nat),j<L.length→(csOf h v)[elV v+j]?=some (enc (nth L j))
  cell:v.isCell=true
  cells:v.cells=[v]
theorem Sl.facts {α:Type} [Inhabited α] {enc:α→List V} {b:Nat} {h:AH} {sz:Nat} {v:V} {L:List α} (s:Sl b h sz v (L.map enc)):SlF enc b h sz v L:=by
  rcases s with ⟨hv,hR⟩ | ⟨id,el,cap,cs,rfl,a,c,d,f,hlt,hb,hl⟩
  · have hL:L=[]:=by simpa using hR
    subst hL
    rcases hv with rfl | rfl
    · exact ⟨rfl,by simp,by simp,by simp,by simp,fun _ j _ h0 h1=>by simp at h1;omega,by simp,rfl,rfl⟩
    · exact ⟨rfl,by simp,by simp,by simp,by simp,fun _ j _ h0 h1=>by simp at h1;omega,by simp,rfl,rfl⟩
  · simp only [List.length_map] at *
    refine ⟨by simp [lenV],hl,fun _=>hlt,fun _=>hb,fun _=>by simp [csOf,idV,a],fun k j cs h0 h1=>by simp [iad2,idxOf,h0,h1,idV,elV],fun j hj=>?_,rfl,rfl⟩
    simp only [csOf,idV,a,elV]
    have:((cs.drop el).take L.length)[j]?=(L.map enc)[j]?:=by rw [d]
    rw [List.getElem?_take_of_lt hj,List.getElem?_drop] at this
    rw [this,List.getElem?_map,nth_get hj];rfl
theorem Rep.len {α:Type} {enc:α→List V} {s:Nat} {L:List α} (r:Rep (.fl s (L.map enc))):L.length<4000000000:=by simpa using r.big
theorem Sl.froze {α:Type} {enc:α→List V} {b:Nat} {h:AH} {sz:Nat} {v:V} {L:List α} {P:Nat→Prop} {n:Nat} (s:Sl b h sz v (L.map enc)) (he:∀ a,(enc a).all stay=true) (hP:P (idV v)) (hL:L.length<4000000000):Frz P h n v (.fl sz (L.map enc)):=by
  rcases s with ⟨hv,hR⟩ | ⟨id,el,cap,cs,rfl,a,c,d,f,hlt,hb,hl⟩
  · rw [hR]
    rcases hv with rfl | rfl
    · exact .ns _ _
    · exact .e0 _ _
  · refine .sl _ id el _ cap sz cs _ hP a (by omega) f (by simpa [frzLen] using hL) ?_
    rw [d];exact Frzr.of_map he L
theorem Sl.froze' {b:Nat} {h:AH} {sz:Nat} {v:V} {R:List (List V)} {P:Nat→Prop} {n:Nat} (s:Sl b h sz v R) (hr:Frzr P h 0 R R) (hP:P (idV v)) (hL:R.length<4000000000):Frz P h n v (.fl sz R):=by
  rcases s with ⟨hv,rfl⟩ | ⟨id,el,cap,cs,rfl,a,c,d,f,hlt,hb,hl⟩
  · rcases hv with rfl | rfl
    · exact .ns _ _
    · exact .e0 _ _
  · refine .sl _ id el _ cap sz cs _ hP a (by omega) f (by simpa [frzLen] using hL) ?_
    rw [d];exact hr
def nilV:V→Bool | .ns | .e0=>true | _=>false
structure Grown (b:Nat) (h:AH) (x v:V) (h':AH):Prop where
  next:h.next≤h'.next
  lim:h'.lim=h.lim
  low:∀ i,i<b→h'.get i=h.get i
  get:∀ i,i<h.next→(nilV x=true∨i≠idV x)→h'.get i=h.get i
  own:nilV v=true∨(nilV x=false∧idV v=idV x)∨h.next≤idV v
  cell:v.isCell=true
  cells:v.cells=[v]
theorem overE_eq:∀ (r:List (List V)) (i:Nat) (n:List (List V)),i+n.length≤r.length→overE r i n=r.take i++n++r.drop (i+n.length)
  | r,i,[],_=>by simp [overE]
  | r,i,c::cs,h=>by
    simp only [List.length_cons] at h
    rw [overE,overE_eq (r.set i c) (i+1) cs (by simp;omega)]
    have hi:i<r.length:=by omega
    rw [List.drop_set_of_lt (by omega)]
    have ht:(r.set i c).take (i+1)=r.take i++[c]:=by
      rw [List.take_add_one]
      simp [hi,List.take_set_of_le]
    rw [ht]
    simp only [List.append_assoc,List.singleton_append,List.length_cons]
    congr 3;omega
theorem app_rule {b sz : Nat} {h : AH} {x : V} {R N : List (List V)} {K : V × AH → Prop} (sx : Sl b h sz x R) (hl : h.lim ≤ b) (hb : b ≤ h.next) (hlen : R.length + N.length < 4294967296)
    (k:∀ v h',Sl b h' sz v (R++N)→Grown b h x v h'→K (v,h')):Wo (appN sz h x N) K:=by
  rcases sx with ⟨hx,rfl⟩ | ⟨id,el,cap,cs,rfl,hg,hle,hrow,hcap,hlt,hbi,hbig⟩
  · have one:∀ nn:V,(nn=.ns∨nn=.e0)→Wo (if N=[] then some (nn,h) else if N.length<bigLen then some (.sl h.next 0 N.length N.length,h.alloc ⟨sz,N⟩) else none) (fun z=>(nn=.ns∨nn=.e0)→x=nn→K z):=by
      intro nn hnn
      split
      · rename_i hN
        subst hN
        exact ⟨_,rfl,fun h1 h2=>by subst h2;exact k _ _ (.inl ⟨h1,rfl⟩) ⟨Nat.le_refl _,rfl,fun _ _=>rfl,fun _ _ _=>rfl,.inl (by rcases h1 with rfl | rfl<;>rfl),by rcases h1 with rfl | rfl<;>rfl,by rcases h1 with rfl | rfl<;>rfl⟩⟩
      · rename_i hN
        rw [if_pos (by simp only [bigLen];simpa using hlen)]
        refine ⟨_,rfl,fun h1 h2=>k _ _ (.inr ⟨h.next,0,N.length,N, ?_, ?_, ?_, ?_, ?_, ?_,hb, ?_⟩) ⟨?_,rfl, ?_, ?_,.inr (.inr (Nat.le_refl _)),rfl,rfl⟩⟩
        · simp
        · simp [AH.alloc]
        · simp
        · simp
        · simp
        · simp [AH.alloc]
        · simpa using hlen
        · simp [AH.alloc]
        · intro i hi;rw [get_alloc,gsel_ne (by omega)]
        · intro i hi _;rw [get_alloc,gsel_ne (by omega)]
    rcases hx with rfl | rfl
    · obtain ⟨z,hz,q⟩:=one .ns (.inl rfl)
      exact ⟨z,hz,q (.inl rfl) rfl⟩
    · obtain ⟨z,hz,q⟩:=one .e0 (.inr rfl)
      exact ⟨z,hz,q (.inr rfl) rfl⟩
  · unfold appN
    simp only [hg]
    rw [if_pos ⟨trivial,by omega,by omega,by simp only [bigLen];exact hlen⟩]
    by_cases hc:R.length+N.length≤cap
    · rw [if_pos hc,if_pos (by omega)]
      have hov:=overE_eq cs (el+R.length) N (by omega)
      refine ⟨_,rfl,k _ _ (.inr ⟨id,el,cap,overE cs (el+R.length) N, ?_, ?_, ?_, ?_, ?_,hlt,hbi, ?_⟩) ⟨Nat.le_refl _,rfl, ?_, ?_,.inr (.inl ⟨rfl,rfl⟩),rfl,rfl⟩⟩
      · simp
      · rw [get_put,gsel_eq rfl]
      · rw [hov];simp;omega
      · rw [hov]
        have e1:(cs.take (el+R.length)).drop el=R:=by rw [List.drop_take,Nat.add_sub_cancel_left];exact hrow
        simp only [List.append_assoc]
        rw [List.drop_append_of_le_length (by simp;omega),e1,←List.append_assoc,List.length_append,←List.length_append,List.take_left]
      · simpa using hc
      · simpa using hlen
      · intro i hi;rw [get_put,gsel_ne (by omega)]
      · intro i hi hne
        rw [get_put,gsel_ne (by rcases hne with hne | hne;cases hne;exact hne)]
    · rw [if_neg hc]
      refine ⟨_,rfl,k _ _ (.inr ⟨h.next,0,R.length+N.length,(cs.drop el).take R.length++N, ?_, ?_, ?_, ?_, ?_, ?_,hb, ?_⟩) ⟨?_,rfl, ?_, ?_,.inr (.inr (Nat.le_refl _)),rfl,rfl⟩⟩
      · simp
      · rw [get_alloc,next_kill,gsel_eq rfl]
      · rw [hrow];simp
      · rw [hrow,List.drop_zero,List.take_length]
      · simp
      · simp [AH.alloc,AH.kill]
      · simpa using hlen
      · simp [AH.alloc,AH.kill]
      · intro i hi;rw [get_alloc,next_kill,gsel_ne (by omega),get_kill,gsel_ne (by omega)]
      · intro i hi hne
        rw [get_alloc,next_kill,gsel_ne (by omega),get_kill,gsel_ne (by rcases hne with hne | hne;cases hne;exact hne)]
theorem Sl.rows {b:Nat} {h:AH} {sz:Nat} {v:V} {R:List (List V)} (s:Sl b h sz v R):rowsV sz h v=some R:=by
  rcases s with ⟨hv,rfl⟩ | ⟨id,el,cap,k,rfl,hg,hc,hrow,hcap,_⟩
  · rcases hv with rfl | rfl<;>rfl
  · rw [rowsV_sl,hg,rows2_ok (by omega),hrow]
theorem Sl.of_get {b sz:Nat} {h h':AH} {v:V} {R:List (List V)} {j:Nat} {r:List V} (s:Sl b h sz v R) (hj:j<R.length) (hn:h.next≤h'.next) (hg:h'.get (idV v)=some ⟨sz,(csOf h v).set (elV v+j) r⟩):Sl b h' sz v (R.set j r):=by
  rcases s with ⟨hv,rfl⟩ | ⟨id,el,cap,cs,rfl,hg0,hc,hrow,hcap,hlt',hbi,hbig⟩
  · simp at hj
  · refine .inr ⟨id,el,cap,cs.set (el+j) r,by simp, ?_,by simpa using hc, ?_,by simpa using hcap,Nat.lt_of_lt_of_le hlt' hn,hbi,by simpa using hbig⟩
    · simpa [idV,elV,csOf,hg0] using hg
    · simp only [List.length_set]
      rw [List.drop_set,if_neg (by omega),Nat.add_sub_cancel_left,List.take_set,hrow]
theorem Sl.setT {α:Type} {enc:α→List V} {b sz:Nat} {h h':AH} {v:V} {L:List α} {j:Nat} {x:α} (s:Sl b h sz v (L.map enc)) (hj:j<L.length) (hn:h.next≤h'.next) (hg:h'.get (idV v)=some ⟨sz,(csOf h v).set (elV v+j) (enc x)⟩):Sl b h' sz v ((L.set j x).map enc):=by
  have:=Sl.of_get (r:=enc x) s (j:=j) (by simpa using hj) hn hg
  simpa [List.map_set] using this
theorem Sl.rowlt {b sz:Nat} {h:AH} {v:V} {R:List (List V)} {j:Nat} (s:Sl b h sz v R) (hj:j<R.length):elV v+j<(csOf h v).length:=by
  rcases s with ⟨hv,rfl⟩ | ⟨id,el,cap,cs,rfl,hg,hc,hrow,hcap,hlt',_⟩
  · simp at hj
  · simp only [elV,csOf,idV,hg];omega
theorem get_set_self {α:Type} {l:List α} {i:Nat} {a:α} (h:i<l.length):(l.set i a)[i]?=some a:=by simp [h]
def trunc (v:V) (n:Nat):V:=match v with | .sl id el _ cap=>.sl id el n cap | v=>v
theorem idV_trunc {v:V} {n:Nat}:idV (trunc v n)=idV v:=by cases v<;>rfl
theorem elV_trunc {v:V} {n:Nat}:elV (trunc v n)=elV v:=by cases v<;>rfl
theorem isCell_trunc {v:V} {n:Nat}:(trunc v n).isCell=v.isCell:=by cases v<;>rfl
theorem cells_trunc {v:V} {n:Nat} (h:v.cells=[v]):(trunc v n).cells=[trunc v n]:=by cases v<;>first | rfl | (simp [trunc];exact h)
theorem csOf_trunc {h:AH} {v:V} {n:Nat}:csOf h (trunc v n)=csOf h v:=by cases v<;>rfl
theorem Sl.pre {b:Nat} {h:AH} {sz:Nat} {v:V} {R:List (List V)} (s:Sl b h sz v R) {k:IntKind} {j:Int} {cs:List (List V)} (h0:0≤j) (h1:j≤R.length):slc2 (some ⟨sz,cs⟩) sz v none (some (.i k j)) none=some (trunc v j.toNat):=by
  rcases s with ⟨hv,rfl⟩ | ⟨id,el,cap,b,rfl,a,_,_,hc,_⟩
  · simp at h1
    obtain rfl:j=0:=by omega
    rcases hv with rfl | rfl<;>simp [slc2,bndOf,trunc]
  · have h2:j≤cap:=by omega
    simp [slc2,bndOf,trunc,h0,h2,hc]
theorem Sl.truncd {b:Nat} {h:AH} {sz:Nat} {v:V} {R:List (List V)} (s:Sl b h sz v R) {n:Nat} (hn:n≤R.length):Sl b h sz (trunc v n) (R.take n):=by
  rcases s with ⟨hv,rfl⟩ | ⟨id,el,cap,b,rfl,a,c,d,hc,hlt,hbi,hb⟩
  · exact .inl ⟨by rcases hv with rfl | rfl<;>simp [trunc],by simp⟩
  · refine .inr ⟨id,el,cap,b, ?_,a,c, ?_, ?_,hlt,hbi, ?_⟩
    · simp [trunc];omega
    · have:(R.take n).length=n:=by simp;omega
      rw [this];conv=>rhs;rw [← d]
      rw [List.take_take];congr 1;omega
    · simp;omega
    · simp;omega
theorem put_put {h:AH} {i:Nat} {a b:Blk}:(h.put i a).put i b=h.put i b:=by
  unfold AH.put
  congr 1
  funext j
  simp only
  split<;>rfl
theorem emp_next:AH.emp.next=0:=nrfl rfl
theorem emp_lim:AH.emp.lim=0:=nrfl rfl
theorem emp_get {i:Nat}:AH.emp.get i=none:=nrfl rfl
theorem env0_get {l:List V} {j:Nat}:env0 l j=(l[j]?).getD .u:=by simp [env0]
theorem over_nil {r:List V} {i:Nat}:over r i []=r:=nrfl rfl
theorem over_cons {r:List V} {i:Nat} {c:V} {cs:List V}:over r i (c::cs)=over (r.set i c) (i+1) cs:=nrfl rfl
theorem fillP_nil {r:List V}:fillP r []=some r:=nrfl rfl
theorem fillP_cons {r:List V} {off n:Nat} {v:V} {ps:List (Nat×Nat×V)}:fillP r ((off,n,v)::ps)=if v.cells.length=n∧off+n≤r.length∧v.cells.all V.isCell=true then fillP (over r off v.cells) ps else none:=nrfl rfl
theorem fillE_nil {sz:Nat} {r:List (List V)}:fillE sz r []=some r:=nrfl rfl
theorem fillE_cons {sz j:Nat} {r:List (List V)} {v:V} {ps:List (Nat×V)}:fillE sz r ((j,v)::ps)=if v.cells.length=sz∧j<r.length∧v.cells.all V.isCell=true then fillE sz (r.set j v.cells) ps else none:=nrfl rfl
theorem Pf_go {tp:TP} {f:Nat} {args:List V} {R:V} {tf:TF} (hf:tp.fn f=some tf) (hl:args.length≤tf.n) (z:Reps args→ZC tp tf.body (env0 args) AH.emp (fun x e h=>Zend tf.res x e h (fun r h'=>Frz (fun _=>True) h' 0 r R))):Pf tp f args R:=Pf_of hf hl z
theorem Cq_raw_go {tp:TP} {f:Nat} {args:List V} {h:AH} {K:V→AH→Prop} {tf:TF} (hf:tp.fn f=some tf) (hl:args.length≤tf.n) (z:Wf h→Reps args→ZC tp tf.body (env0 args) h (fun x e h2=>Zend tf.res x e h2 K)):Cq tp f args h K:=Cq_raw hf hl z
structure Upd (h:AH) (id:Nat) (k:Blk) (h':AH):Prop where
  next:h.next≤h'.next
  lim:h'.lim=h.lim
  here:h'.get id=some k
  get:∀ i,i<h.next→i≠id→h'.get i=h.get i
theorem Settle.ext {h h3:AH} {r R:V} (wf:Wf h) (x:Ext h h3) (fr:Frz (h.next≤·) h3 h.next r R):Settle h h3 r (h.next≤·) R h:=
  ⟨Nat.le_refl _,rfl,x.next,fun i k hk=>⟨(wf.2 i k hk).1,Nat.not_le_of_lt (wf.2 i k hk).1,k.cs,by rw [x.get i (wf.2 i k hk).1];exact hk,(wf.2 i k hk).2 _ _⟩,fr⟩
theorem Settle.upd {h h3:AH} {r R:V} {id:Nat} {b:Blk} (wf:Wf h) (u:Upd h id b h3) (hid:id<h.next) (fb:Frzr (h.next≤·) h3 h.next b.cs b.cs) (fr:Frz (h.next≤·) h3 h.next r R):Settle h h3 r (h.next≤·) R (h.put id b):=by
  refine ⟨Nat.le_refl _,rfl,u.next,fun i k hk=>?_,fr⟩
  by_cases e:i=id
  · subst e
    have:k=b:=by simpa [AH.put] using hk.symm
    subst this
    exact ⟨hid,Nat.not_le_of_lt hid,k.cs,u.here,fb⟩
  · have hk2:h.get i=some k:=by simpa [AH.put,e] using hk
    exact ⟨(wf.2 i k hk2).1,Nat.not_le_of_lt (wf.2 i k hk2).1,k.cs,by rw [u.get i (wf.2 i k hk2).1 e];exact hk2,(wf.2 i k hk2).2 _ _⟩
theorem Stp_frz {e:Env} {h h2:AH} (P:Nat→Prop) (live:List Nat) (w:Nat→V) (z:Wf h→h2.next=h.next∧h2.lim=h.lim∧(∀ i k,h2.get i=some k→i<h2.next∧¬ P i∧∃ cs,h.get i=some ⟨k.sz,cs⟩∧Frzr P h h2.next cs k.cs)∧∀ t,t∈live→Frz P h h2.next (e t) (w t)):Stp e h (fun t=>if t∈live then w t else .u) h2:=by
  intro S m hc e1 c p
  obtain ⟨hn,hl,hb,hv⟩:=z c.wf
  have st:∀ r R,Frz P h h2.next r R→Settle h h r P R h2:=fun r R f=>⟨Nat.le_of_eq hn.symm,hl,Nat.le_of_eq hn,hb,f⟩
  obtain ⟨q1,q2,_⟩:=(st .u .u (.z _ _ .u)).ok c c (Adv.refl c) (.u _ .u)
  refine ⟨_,q1,q2,fun t=>?_⟩
  by_cases ht:t∈live
  · simp only [if_pos ht]
    exact ((st _ _ (hv t ht)).ok c c (Adv.refl c) (p t)).2.2
  · simp only [if_neg ht]
    exact .u _ _
theorem ZC_fix {tp : TP} {c : TC} {K : Ex → Env → AH → Prop} {e : Env} {h : AH} (live : List Nat) (bx id sz : Nat) (row row' : List V) (hne : bx ≠ id) (hbx : h.get bx = some ⟨sz, [row]⟩) (hr : Frzr (· = id) h h.next [row] [row'])
    (hv:∀ t,t∈live→Frz (·=id) h h.next (e t) (e t)) (z:∀ e2,(∀ t,t∈live→e2 t=e t)→ZC tp (.loop c) e2 ((h.kill id).put bx ⟨sz,[row']⟩) K):ZC tp (.loop c) e h K:=by
  refine ZC_step (Stp_frz (h2:=(h.kill id).put bx ⟨sz,[row']⟩) (·=id) live e (fun wf=>⟨rfl,rfl,fun i k hk=>?_,hv⟩)) (z _ (fun t ht=>if_pos ht))
  rw [get_put] at hk
  by_cases hi:i=bx
  · rw [gsel_eq hi] at hk
    subst hi
    cases hk
    exact ⟨(wf.2 _ _ hbx).1,hne,_,hbx,hr⟩
  · rw [gsel_ne hi,get_kill] at hk
    by_cases hd:i=id
    · rw [gsel_eq hd] at hk;cases hk
    · rw [gsel_ne hd] at hk
      exact ⟨(wf.2 i k hk).1,hd,k.cs,hk,(wf.2 i k hk).2 _ _⟩
theorem Cq_same {tp:TP} {f:Nat} {args:List V} {h:AH} {K:V→AH→Prop} {R:V} {tf:TF} (hf:tp.fn f=some tf) (hl:args.length≤tf.n) (k:K R h) (z:h.lim≤h.next→Reps args→ZC tp tf.body (env0 args) h (fun x e h2=>Zend tf.res x e h2 (fun r h3=>Frz (h.next≤·) h3 h.next r R∧Ext h h3))):Cq tp f args h K:=
  Cq_of hf hl fun wf rp=>zc_imp (fun x e h2 q=>by
    cases x with
    | ex _=>exact q
    | nm=>obtain ⟨v,hv,fr,x⟩:=q;exact ⟨v,hv,_,_,_,Settle.ext wf x fr,k⟩
    | rt=>obtain ⟨v,hv,fr,x⟩:=q;exact ⟨v,hv,_,_,_,Settle.ext wf x fr,k⟩) (z wf.1 rp)
theorem Cq_upd {tp:TP} {f:Nat} {args:List V} {h:AH} {K:V→AH→Prop} {R:V} {id:Nat} {b:Blk} {tf:TF} (hf:tp.fn f=some tf) (hl:args.length≤tf.n) (hid:(h.get id).isSome=true) (fb:∀ P h' n,Frzr P h' n b.cs b.cs) (k:K R (h.put id b)) (z:h.lim≤h.next→id<h.next→Reps args→ZC tp tf.body (env0 args) h (fun x e h2=>Zend tf.res x e h2 (fun r h3=>Frz (h.next≤·) h3 h.next r R∧Upd h id b h3))):Cq tp f args h K:=
  Cq_of hf hl fun wf rp=>by
    obtain ⟨b0,hb0⟩:=Option.isSome_iff_exists.1 hid
    have hlt:=(wf.2 id b0 hb0).1
    exact zc_imp (fun x e h2 q=>by
      cases x with
      | ex _=>exact q
      | nm=>obtain ⟨v,hv,fr,x⟩:=q;exact ⟨v,hv,_,_,_,Settle.upd wf x hlt (fb _ _ _) fr,k⟩
      | rt=>obtain ⟨v,hv,fr,x⟩:=q;exact ⟨v,hv,_,_,_,Settle.upd wf x hlt (fb _ _ _) fr,k⟩) (z wf.1 hlt rp)
attribute [go_sem ↓] ZC_skip ZC_ret ZC_exit ZC_reg ZC_dreg ZC_cond ZC_block ZC_seq ZOps_nil ZOps_one ZOps_g ZS_nil ZS_bar ZS_quiet ZQ_nil ZQ_one ZQ_g Wb_true Wb_false Wg_skip Wg_tt Wg_tf Wg_ft Wg_ff nxt_nm nxt_rt nxt_ex Wo_bind Wo_map
attribute [go_sem] blk_nm blk_rt blk_ex Wo_none Wo_some Wv_go
attribute [go_sem ↓] Z1_mv Z1_pick Z1_alloc Z1_box Z1_build Z1_bsl Z1_bslc Z1_chkb Z1_alc Z1_chka Z1_e0 Z1_load Z1_fload Z1_chk Z1_mark Z1_store Z1_nck Z1_bin Z1_eqb Z1_eqptr Z1_eqfn Z1_eqifc Z1_eqagg Z1_eqsl Wnil_fl Wnil_ns Wnil_e0 Wnil_sl Z1_un Z1_conv Z1_strs Z1_i2s Z1_s2b Z1_b2s Z1_mkif Z1_mkfn Z1_mksl Z1_appz Z1_slice Z1_sslice Z1_fad Z1_fld Z1_iad Z1_iada Z1_idx Z1_sidx Z1_ext Z1_app Z1_len Z1_slen Z1_lenc Z1_mn Z1_mx Z1_tas Z1_fn
attribute [go_sem] Z1_call Z1_inv
attribute [go_sem ↓] ZQ1_alloc ZQ1_app ZQ1_b2s ZQ1_bin ZQ1_box ZQ1_bsl ZQ1_bslc ZQ1_alc ZQ1_build ZQ1_call ZQ1_conv ZQ1_e0 ZQ1_eq ZQ1_ext ZQ1_fad ZQ1_fld ZQ1_fload ZQ1_i2s ZQ1_iad ZQ1_iada ZQ1_idx ZQ1_inv ZQ1_len ZQ1_lenc ZQ1_load ZQ1_mark ZQ1_mkfn ZQ1_mkif ZQ1_mksl ZQ1_appz ZQ1_mn ZQ1_mv ZQ1_mx ZQ1_nck ZQ1_pick ZQ1_s2b ZQ1_sidx ZQ1_slen ZQ1_slice ZQ1_sslice ZQ1_store ZQ1_strs ZQ1_tas ZQ1_un
attribute [go_sem ↓] Env.set_get
attribute [go_sem] Env.set_none e2_t e2_ci e2_cb e2_cs e2_np e2_ns e2_nf e2_ni e2_agg e2_fn plain1_i plain1_b plain1_s plain1_np plain1_ns plain1_nf plain1_ni
attribute [go_sem] gsel_eq gsel_ne get_alloc get_put get_kill get_raise get_back next_alloc next_put next_kill next_raise next_back lim_alloc lim_put lim_kill lim_raise lim_back emp_next emp_lim emp_get
attribute [go_sem ↓] raise_back_alloc raise_back
attribute [go_sem] Wchk_sl Wcha_p sameRows_nil sameRows_cons sameRow_nil sameRow_cons
attribute [go_sem] asB_b asS_s ldZ_p ldZ_fp ld2_some chkV_p sameVa_agg sameVa_sl sameVa_p sameVa_ns sameVa_b sameVa_i sameV_sl sameV_p sameV_ns sameV_b sameV_i markV_sl mark2_ok Wst_p Wst2_ok nckV_p nckV_fp nckV_ifc nckV_f convV_i strsV_s i2sV_i rowsV_fl rowsV_ns rowsV_e0 rowsV_s rowsV_sl rows2_some b2sV_fl b2sV_ns b2sV_sl Wmk_i Wmz_i slc2_fl slc2_fl3 sslV_s fadV_p fadV_fp fldV_agg iad2_fl iad2_sl iadaV_p iadaV_fp idxV_agg sidxV_s extV_tup lenV_ns lenV_e0 lenV_sl lenV_fl slenV_s tasV_same calleeV_f methV_ifc idV_sl elV_sl idV_p
attribute [go_sem] bin_add bin_sub bin_mul bin_quo bin_rem bin_and bin_or bin_eql bin_neq bin_lss bin_leq bin_gtr bin_geq binS_eql binS_neq un_not un_neg min_i max_i fold_nil fold_cons ndec adec odec idx_i bnd_none bnd_i cells_agg cells_i cells_b cells_s cells_sl cells_ns cells_p cells_np cells_fl cells_fp cells_e0 cells_nf cells_ni cells_f cells_ifc isCell_i isCell_b isCell_s isCell_sl isCell_ns isCell_p isCell_np isCell_fl isCell_fp isCell_e0 isCell_nf isCell_ni isCell_f isCell_ifc w64 cut Zend_nm Zend_rt res_nil res_one res_two res_three cellV_p res_cell res_cell2 res_cell3
attribute [go_sem] eq_b eq_agg eqL_nil eqL_cons eqC_i eqC_b eqC_s
attribute [go_sem] List.length_cons List.length_nil List.getElem?_cons_zero List.getElem?_cons_succ List.getElem?_nil List.drop_zero List.drop_succ_cons List.drop_nil List.take_succ_cons List.take_zero List.take_nil List.map_cons List.map_nil List.all_cons List.all_nil List.set_cons_zero List.set_cons_succ List.cons_append List.nil_append List.append_nil List.length_map nth_row
attribute [go_sem] Frz_i Frz_b Frz_s Frz_fl Frz_ns Frz_e0 Frz_np Frz_tup Frz_agg Frzs_nil Frzs_cons Int.reduceLE Int.reduceLT Int.reduceEq Int.reduceAdd Int.reduceSub Int.reduceToNat
attribute [go_sem] Nat.zero_add Nat.add_zero and_true true_and decide_true decide_false not_true_eq_false not_false_eq_true Bool.not_true Bool.not_false Bool.and_true Bool.true_and Bool.and_false Bool.false_and Int.toNat_natCast Option.map_some Option.map_none Option.bind_some Nat.zero_le Nat.le_refl List.take_length Nat.sub_zero Nat.sub_self
attribute [go_sem ↓] reduceIte
attribute [go_sem] Nat.reduceEqDiff Nat.reduceAdd Nat.reduceSub Nat.reduceLeDiff Nat.reduceLT List.reduceReplicate Nat.reduceMul Int.reduceNeg reduceCtorEq
attribute [go_sem] env0_get Option.getD_some Option.getD_none over_nil over_cons fillP_nil fillP_cons fillE_nil fillE_cons
theorem get_set_other {α:Type} {l:List α} {i j:Nat} {a:α} (h:¬ i=j):(l.set i a)[j]?=l[j]?:=List.getElem?_set_ne h
attribute [go_sem] get_set_self get_set_other List.set_set List.length_set
attribute [go_sem] put_put csOf_trunc idV_trunc elV_trunc isCell_trunc
attribute [go_sem] Int.natCast_add Int.natCast_one Int.natCast_zero Int.add_sub_cancel Int.sub_add_cancel Nat.add_sub_cancel
attribute [go_sem] pur_b pur_i pur_s pur_fl pur_ns pur_e0 pur_np pur_ni pur_nf pur_u pur_agg pur_tup pur_f pur_ifc purs_nil purs_cons
abbrev On (o:O):TO:=⟨none,o,none⟩
abbrev Of (d f s:Nat):TO:=⟨some d,.fad f (.t s),none⟩
end Go.Ab
