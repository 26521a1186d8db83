/- Part of a proof that a law returns true for every input of the second form's bound (no other condition). -/
import Derived.IntWalk
import Derived.Test.YtlcknhidblndnaaGreatPC
set_option linter.all false
/- Conditions ahead of code over values that stay; what they say of the abstract machine; functions by what they answer. -/
namespace Go.Ab
open Go
def AH.emp:AH:=⟨fun _=>none,0,0⟩
def EP (S:Nat→Prop) (m:Nat→Nat) (h hc:AH) (e e1:Env):Prop:=∀ t,PR S m hc.get h.next (e t) (e1 t)
section
variable (tp:TP)
def Cq (f:Nat) (args:List V) (h:AH) (Q:V→AH→Prop) (t:Fz Q:=.mk):Prop:=
 ∀ S m hc args1,CH S m h hc→Bk S m hc.get h.next args args1→Ev tp f args1 hc (fun r1 hc'=>∃ r h' S' m',CH S' m' h' hc'∧EM S m h hc S' m' h' hc'∧PR S' m' hc'.get h'.next r r1∧Q r h')
def Pf (f:Nat) (args:List V) (R:V):Prop:=Cq tp f args AH.emp (fun r h'=>r=R∧h'=AH.emp)
def QQ (neg:Bool) (v w:V) (h:AH) (K:V→AH→Prop):Prop:=match v,w with
 | .fl _ xs,.ns=>∀ t:Bool,(xs≠[]→t=false)→K (.b (if neg then !t else t)) h
 | v,w=>Wo (EX .sl v w) (fun r=>K (.b (if neg then !r else r)) h)
def z1 (o:O) (e:Env) (h:AH) (K:V→AH→Prop):Prop:=match o with
 | .eq neg .sl a b=>QQ neg (a.e2 e) (b.e2 e) h K
 | .call f l=>Wo (callee tp (.call f l) (X.e2 e)) (fun c=>Cq tp c.1 c.2 h K)
 | .inv x m l=>Wo (callee tp (.inv x m l) (X.e2 e)) (fun c=>Cq tp c.1 c.2 h K)
 | o=>Wo (Bl tp o (X.e2 e) h) (fun z=>K z.1 z.2)
def KF:List TO→Env→AH→(Env→AH→Prop)→Prop
 | [],e,h,K=>K e h
 | o::r,e,h,K=>match AL e o.g with
  | some true=>z1 tp o.o e h (fun v h=>KF r (e.set o.d v) h K)
  | some false=>KF r (e.set o.d (.tup [])) h K
  | none=>False
def zq1 (o:O) (e:Env) (h:AH) (K:V→AH→Prop):Prop:=if AQ o=true then z1 tp o e h K else z1 tp o e h.raise (fun v h'=>K v (h'.back h.lim))
def zq:List TO→Env→AH→(Env→AH→Prop)→Prop
 | [],e,h,K=>K e h
 | o::r,e,h,K=>match AL e o.g with
  | some true=>zq1 tp o.o e h (fun v h=>zq r (e.set o.d v) h K)
  | some false=>zq r (e.set o.d (.tup [])) h K
  | none=>False
def zs:List (Bool×List TO)→Env→AH→(Env→AH→Prop)→Prop
 | [],e,h,K=>K e h
 | (true,l)::r,e,h,K=>zq tp l e h (fun e h=>zs r e h K)
 | (false,l)::r,e,h,K=>KF tp l e h (fun e h=>zs r e h K)
def Stp (e:Env) (h:AH) (e2:Env) (h2:AH):Prop:=∀ S m hc e1,CH S m h hc→EP S m h hc e e1→∃ S',CH S' m h2 hc∧EM S m h hc S' m h2 hc∧EP S' m h2 hc e2 e1
def zc:TC→Env→AH→(Ex→Env→AH→Prop)→Prop
 | .skip,e,h,K=>K .nm e h
 | .ret,e,h,K=>K .rt e h
 | .exit id,e,h,K=>K (.ex id) e h
 | .reg ops,e,h,K=>KF tp ops e h (fun e h=>K .nm e h)
 | .dreg segs,e,h,K=>zs tp segs e h (fun e h=>K .nm e h)
 | .cond c a b,e,h,K=>Wb (c.e2 e) (zc a e h K) (zc b e h K)
 | .block id c,e,h,K=>zc c e h (fun x e h=>K (blk id x) e h)
 | .seq a b,e,h,K=>zc a e h (fun x e h=>TU x (zc b e h K) (K x e h))
 | .loop c,e,h,K=>∀ I:Env→AH→Prop,(∀ e h,zc c e h (fun x e h=>TU x (I e h) (K x e h))→I e h)→(∀ e h e2 h2,Stp e h e2 h2→I e2 h2→I e h)→I e h
variable {tp}
theorem QR {o:O} {e:Env} {h:AH} {K L:V→AH→Prop} (kl:∀ v h,K v h→L v h) (z:z1 tp o e h K):z1 tp o e h L:=by
 unfold z1 at z ⊢
 split at z
 ·unfold QQ at z ⊢
  split at z
  ·exact fun t ht=>kl _ _ (z t ht)
  ·obtain ⟨a,ha,z⟩:=z;exact ⟨a,ha,kl _ _ z⟩
 ·obtain ⟨c,hc,z⟩:=z
  refine ⟨c,hc,fun S m hc args1 p q=>(z S m hc args1 p q).imp ?_⟩
  rintro v h' ⟨r,h2,S',m',a,b,c,d⟩;exact ⟨r,h2,S',m',a,b,c,kl _ _ d⟩
 ·obtain ⟨c,hc,z⟩:=z
  refine ⟨c,hc,fun S m hc args1 p q=>(z S m hc args1 p q).imp ?_⟩
  rintro v h' ⟨r,h2,S',m',a,b,c,d⟩;exact ⟨r,h2,S',m',a,b,c,kl _ _ d⟩
 ·obtain ⟨a,ha,z⟩:=z;exact ⟨a,ha,kl _ _ z⟩
theorem Hh:∀ {l:List TO} {e:Env} {h:AH} {K L:Env→AH→Prop},(∀ v h,K v h→L v h)→KF tp l e h K→KF tp l e h L
 | [],_,_,_,_,kl,z=>kl _ _ z
 | o::r,e,h,K,L,kl,z=>by
  simp only [KF] at z ⊢
  split at z
  ·exact QR (fun _ _=>Hh kl) z
  ·exact Hh kl z
  ·exact z
theorem Mi:∀ {l:List TO} {e:Env} {h:AH} {K L:Env→AH→Prop},(∀ v h,K v h→L v h)→zq tp l e h K→zq tp l e h L
 | [],_,_,_,_,kl,z=>kl _ _ z
 | o::r,e,h,K,L,kl,z=>by
  simp only [zq] at z ⊢
  split at z
  ·unfold zq1 at z ⊢
   split at z
   ·rename_i hp;rw [if_pos hp];exact QR (fun _ _=>Mi kl) z
   ·rename_i hp;rw [if_neg hp];exact QR (fun _ _=>Mi kl) z
  ·exact Mi kl z
  ·exact z
theorem QS:∀ {l:List (Bool×List TO)} {e:Env} {h:AH} {K L:Env→AH→Prop},(∀ v h,K v h→L v h)→zs tp l e h K→zs tp l e h L
 | [],_,_,_,_,kl,z=>kl _ _ z
 | (true,l)::r,e,h,K,L,kl,z=>Mi (fun _ _=>QS kl) z
 | (false,l)::r,e,h,K,L,kl,z=>Hh (fun _ _=>QS kl) z
theorem LU {x:Ex} {A B C D:Prop} (ac:A→C) (bd:B→D) (z:TU x A B):TU x C D:=by
 cases x<;>first | exact ac z | exact bd z
theorem Es:∀ {c:TC} {e:Env} {h:AH} {K L:Ex→Env→AH→Prop},(∀ x v h,K x v h→L x v h)→zc tp c e h K→zc tp c e h L
 | .skip,_,_,_,_,kl,z=>kl _ _ _ z
 | .ret,_,_,_,_,kl,z=>kl _ _ _ z
 | .exit _,_,_,_,_,kl,z=>kl _ _ _ z
 | .reg ops,_,_,_,_,kl,z=>Hh (fun _ _=>kl _ _ _) z
 | .dreg segs,_,_,_,_,kl,z=>QS (fun _ _=>kl _ _ _) z
 | .cond c a b,e,h,K,L,kl,z=>by
  simp only [zc,Wb] at z ⊢
  split at z
  ·exact Es kl z
  ·exact Es kl z
  ·exact z
 | .block id c,_,_,_,_,kl,z=>Es (c:=c) (fun _ _ _=>kl _ _ _) z
 | .seq a b,_,_,_,_,kl,z=>Es (c:=a) (fun x _ _=>LU (Es kl) (kl _ _ _)) z
 | .loop c,_,_,_,_,kl,z=>fun I hI hS=>z I (fun e h q=>hI e h (Es (c:=c) (fun x _ _=>LU id (kl _ _ _)) q)) hS
/-! ### What it says of the abstract machine -/
section
variable {S:Nat→Prop} {m:Nat→Nat} {h hc:AH}
theorem CH.raise (c:CH S m h hc):CH S m h.raise hc.raise:=
 ⟨c.blk,c.inj,c.off,c.low,fun i hi hl=>by
  obtain ⟨k,hk⟩:=Option.ne_none_iff_exists'.1 hi
  have:=(c.blk i k hk).1
  have:h.next≤i:=hl
  omega,Nat.le_refl _,Nat.le_refl _⟩
theorem CH.back {S':Nat→Prop} {m':Nat→Nat} {h' hc':AH} (c:CH S m h hc) (c':CH S' m' h' hc') (a:EM S m h.raise hc.raise S' m' h' hc'):CH S' m' (h'.back h.lim) (hc'.back hc.lim)∧EM S m h hc S' m' (h'.back h.lim) (hc'.back hc.lim):=by
 refine ⟨⟨c'.blk,c'.inj,c'.off,c'.low,fun i hi hl=>?_,Nat.le_trans c.bnd a.next1,Nat.le_trans c.bnd2 a.next2⟩,⟨a.sub,a.new,a.map,a.next2,a.next1,rfl,rfl,a.frame,a.liv⟩⟩
 rcases a.liv i hi with ⟨h1,h2⟩ | h1
 ·rw [a.map i h1];exact c.lim i h2 hl
 ·exact Nat.le_trans c.bnd h1
theorem EP.mono {S':Nat→Prop} {m':Nat→Nat} {h' hc':AH} {e e1:Env} (c:CH S m h hc) (a:EM S m h hc S' m' h' hc') (p:EP S m h hc e e1):EP S' m' h' hc' e e1:=fun t=>(p t).mono (a.mon c)
theorem EP.set {e e1:Env} {v v1:V} (p:EP S m h hc e e1) (q:PR S m hc.get h.next v v1) (d:Option Nat):EP S m h hc (e.set d v) (e1.set d v1):=by
 intro t
 cases d with
 | none=>exact p t
 | some d=>simp only [Env.set];split;exact q;exact p t
theorem Iz {e e1:Env} (p:EP S m h hc e e1) {g:Option (Nat×Bool)} {b:Bool} (hw:AL e g=some b):AL e1 g=some b:=by
 unfold AL at hw ⊢
 split at hw
 ·exact hw
 ·rename_i t x
  have q:=p t
  split at hw
  ·rename_i y hy
   rw [hy] at q
   cases hq:e1 t<;>rw [hq] at q<;>cases q
   exact hw
  ·rename_i hy
   rw [hy] at q
   cases hq:e1 t<;>rw [hq] at q<;>cases q
   rename_i q
   cases q
   exact hw
  ·simp at hw
def nR (S:Nat→Prop) (m:Nat→Nat) (h hc:AH) (K:V→AH→Prop) (v1:V) (hc':AH):Prop:=∃ v h' S' m',CH S' m' h' hc'∧EM S m h hc S' m' h' hc'∧PR S' m' hc'.get h'.next v v1∧K v h'
def DE (S:Nat→Prop) (m:Nat→Nat) (h hc:AH) (K:Env→AH→Prop) (e1:Env) (hc':AH):Prop:=∃ e h' S' m',CH S' m' h' hc'∧EM S m h hc S' m' h' hc'∧EP S' m' h' hc' e e1∧K e h'
theorem KO {e e1:Env} (p:EP S m h hc e e1) {o:O} {f:Nat} {args:List V} (hk:callee tp o (X.e2 e)=some (f,args)):∃ args1,callee tp o (X.ev e1)=some (f,args1)∧Bk S m hc.get h.next args args1:=by
 have all:∀ l:List X,Bk S m hc.get h.next (l.map (X.e2 e)) (l.map (X.ev e1)):=fun l=>by
  induction l with
  | nil=>exact .nil _
  | cons a l ih=>exact .cons _ _ _ _ _ (Mm p a) ih
 unfold callee at hk ⊢
 split at hk
 ·rename_i x l
  have q:=Mm p x
  split at hk
  ·rename_i g a b hx
   rw [hx] at q
   simp only [Option.some.injEq,Prod.mk.injEq] at hk
   obtain ⟨rfl,rfl⟩:=hk
   cases hq:X.ev e1 x<;>rw [hq] at q<;>cases q
   rename_i q1 q2
   exact ⟨_,rfl,(q1.app (all l)).app q2⟩
  ·simp at hk
 ·rename_i x mm l
  have q:=Mm p x
  split at hk
  ·rename_i t v hx
   rw [hx] at q
   cases hq:X.ev e1 x<;>rw [hq] at q<;>cases q
   rename_i q1
   simp only [Option.bind_eq_some_iff] at hk ⊢
   obtain ⟨mt,hmt,hk⟩:=hk
   split at hk
   ·rename_i ha
    simp only [Option.some.injEq,Prod.mk.injEq] at hk
    obtain ⟨rfl,rfl⟩:=hk
    refine ⟨_,⟨mt,hmt, ?_⟩,.cons _ _ _ _ _ q1 (all l)⟩
    simp only [ha]
   ·rename_i j ha
    split at hk
    ·simp only [Option.map_eq_some_iff,Prod.mk.injEq] at hk
     obtain ⟨r,hr,rfl,rfl⟩:=hk
     cases q1
     rename_i q1
     obtain ⟨r',h1,h2⟩:=q1.get _ _ hr
     refine ⟨r'::l.map (X.ev e1),⟨mt,hmt, ?_⟩,.cons _ _ _ _ _ h2 (all l)⟩
     simp only [ha,h1,Option.map_some]
    ·simp at hk
  ·simp at hk
 ·simp at hk
theorem Zy (c:CH S m h hc) {e e1:Env} (p:EP S m h hc e e1) {o:O} {K:V→AH→Prop} (z:z1 tp o e h K):W1 tp o e1 hc (nR S m h hc K):=by
 unfold z1 at z
 split at z
 ·rename_i neg a b
  have pa:=Mm p a
  have pb:=Mm p b
  rw [oQ (fun C=>rfl)]
  simp only [Ae]
  rw [Be]
  unfold QQ at z
  split at z
  ·rename_i s xs ha hb
   rw [ha] at pa;rw [hb] at pb
   cases hb':X.ev e1 b<;>rw [hb'] at pb<;>cases pb
   have key:∀ t:Bool,(xs≠[]→t=false)→EX .sl (X.ev e1 a) .ns=some t→Wo (EX .sl (X.ev e1 a) .ns) (fun r=>nR S m h hc K (.b (if neg=true then !r else r)) hc):=by
    intro t ht he
    rw [he,AS]
    exact ⟨_,h,S,m,c,EM.refl c,.b _ _,z t ht⟩
   cases ha':X.ev e1 a<;>rw [ha'] at pa key<;>cases pa
   ·exact key true (by simp) rfl
   ·exact key false (by simp) rfl
   ·exact key false (by simp) rfl
  ·obtain ⟨r,hr,z⟩:=z
   rw [VS hr pa pb,AS]
   exact ⟨_,h,S,m,c,EM.refl c,.b _ _,z⟩
 ·obtain ⟨⟨f,args⟩,hk,z⟩:=z
  obtain ⟨args1,hk1,q⟩:=KO p hk
  rw [aU,hk1,AS]
  exact z S m hc args1 c q
 ·obtain ⟨⟨f,args⟩,hk,z⟩:=z
  obtain ⟨args1,hk1,q⟩:=KO p hk
  rw [aCF,hk1,AS]
  exact z S m hc args1 c q
 ·rename_i hn0 hn1 hn2
  obtain ⟨⟨v,h'⟩,hd,z⟩:=z
  obtain ⟨v1,hc',S',m',h1,h2,h3,h4⟩:=aDw c (Mm p) hd
  rw [oQ (fun C=>by unfold AY;split<;>first | rfl | (exact absurd rfl (hn1 _ _)) | (exact absurd rfl (hn2 _ _ _))),h1,AS]
  exact ⟨v,h',S',m',h2,h3,h4,z⟩
theorem DE.then {S':Nat→Prop} {m':Nat→Nat} {h' hc':AH} (a:EM S m h hc S' m' h' hc') {K:Env→AH→Prop} {e1:Env} {hq:AH} (z:DE S' m' h' hc' K e1 hq):DE S m h hc K e1 hq:=by
 obtain ⟨e,h2,S2,m2,c2,a2,p,k⟩:=z
 exact ⟨e,h2,S2,m2,c2,a.trans a2,p,k⟩
end
theorem Ia.imp {l:List TO} {e:Env} {h:AH} {Q R:Env→AH→Prop} (w:Ia tp l e h Q) (qr:∀ e h,Q e h→R e h):Ia tp l e h R:=by
 obtain ⟨k,e',h',he,q⟩:=w;exact ⟨k,e',h',he,qr _ _ q⟩
theorem WQ.imp {l:List TO} {e:Env} {h:AH} {Q R:Env→AH→Prop} (w:WQ tp l e h Q) (qr:∀ e h,Q e h→R e h):WQ tp l e h R:=by
 obtain ⟨k,e',h',he,q⟩:=w;exact ⟨k,e',h',he,qr _ _ q⟩
theorem WS.imp {l:List (Bool×List TO)} {e:Env} {h:AH} {Q R:Env→AH→Prop} (w:WS tp l e h Q) (qr:∀ e h,Q e h→R e h):WS tp l e h R:=by
 obtain ⟨k,e',h',he,q⟩:=w;exact ⟨k,e',h',he,qr _ _ q⟩
theorem W1.imp {o:O} {e:Env} {h:AH} {Q R:V→AH→Prop} (w:W1 tp o e h Q) (qr:∀ v h,Q v h→R v h):W1 tp o e h R:=by
 obtain ⟨k,e',h',he,q⟩:=w;exact ⟨k,e',h',he,qr _ _ q⟩
theorem IA:∀ (l:List TO) {S:Nat→Prop} {m:Nat→Nat} {h hc:AH} {e e1:Env} {K:Env→AH→Prop},CH S m h hc→EP S m h hc e e1→KF tp l e h K→Ia tp l e1 hc (DE S m h hc K)
 | [],S,m,h,hc,e,e1,K,c,p,z=>by rw [UK];exact ⟨e,h,S,m,c,EM.refl c,p,z⟩
 | ⟨d,o,g⟩::r,S,m,h,hc,e,e1,K,c,p,z=>by
  simp only [KF] at z
  split at z
  ·rename_i hw
   rw [UL (Iz p hw)]
   refine (Zy c p z).imp ?_
   rintro v1 hc' ⟨v,h',S',m',c',a',q,z⟩
   exact (IA r c' ((p.mono c a').set q d) z).imp fun _ _=>DE.then a'
  ·rename_i hw
   rw [Sc (Iz p hw)]
   exact IA r c (p.set (.tup _ _ _ (.nil _)) d) z
  ·exact z.elim
theorem R8:∀ (l:List TO) {S:Nat→Prop} {m:Nat→Nat} {h hc:AH} {e e1:Env} {K:Env→AH→Prop},CH S m h hc→EP S m h hc e e1→zq tp l e h K→WQ tp l e1 hc (DE S m h hc K)
 | [],S,m,h,hc,e,e1,K,c,p,z=>by rw [aCJ];exact ⟨e,h,S,m,c,EM.refl c,p,z⟩
 | ⟨d,o,g⟩::r,S,m,h,hc,e,e1,K,c,p,z=>by
  simp only [zq] at z
  split at z
  ·rename_i hw
   rw [aCK (Iz p hw)]
   unfold WQ1
   unfold zq1 at z
   split at z
   ·rename_i hp
    rw [if_pos hp]
    refine ⟨?_,(Zy c p z).imp ?_⟩
    ·cases o<;>try rfl
     rename_i sz x i
     simp only [z1,Bl] at z
     obtain ⟨w,hw,_⟩:=z
     simp only [Option.map_eq_some_iff] at hw
     obtain ⟨v,hv,_⟩:=hw
     have q:=Mm p x
     simp only [HS]
     split
     ·rename_i id el len cap hx
      rw [hx] at q
      unfold gI at hv
      split at hv
      ·rename_i k hk hb
       rw [hk] at q
       cases q
       simp only [hk,Mt] at hb
       obtain ⟨_,_,cs,hcs,_⟩:=c.blk _ _ hb
       rw [hcs];rfl
      ·rename_i s xs _ hk
       rw [hk] at q
       cases q
       simp only [*];rfl
      ·simp at hv
     ·rfl
    ·rintro v1 hc' ⟨v,h',S',m',c',a',q,z⟩
     exact (R8 r c' ((p.mono c a').set q d) z).imp fun _ _=>DE.then a'
   ·rename_i hp
    rw [if_neg hp]
    have p':EP S m h.raise hc.raise e e1:=p
    refine (Zy c.raise p' z).imp ?_
    rintro v1 hc' ⟨v,h',S',m',c',a',q,z⟩
    obtain ⟨c2,a2⟩:=c.back c' a'
    exact (R8 r c2 ((p.mono c a2).set q d) z).imp fun _ _=>DE.then a2
  ·rename_i hw
   rw [bA (Iz p hw)]
   exact R8 r c (p.set (.tup _ _ _ (.nil _)) d) z
  ·exact z.elim
theorem Zz:∀ (l:List (Bool×List TO)) {S:Nat→Prop} {m:Nat→Nat} {h hc:AH} {e e1:Env} {K:Env→AH→Prop},CH S m h hc→EP S m h hc e e1→zs tp l e h K→WS tp l e1 hc (DE S m h hc K)
 | [],S,m,h,hc,e,e1,K,c,p,z=>by rw [aCM];exact ⟨e,h,S,m,c,EM.refl c,p,z⟩
 | (true,l)::r,S,m,h,hc,e,e1,K,c,p,z=>by
  rw [UM]
  refine (R8 l c p z).imp ?_
  rintro e1' hc' ⟨e',h',S',m',c',a',p',z⟩
  exact (Zz r c' p' z).imp fun _ _=>DE.then a'
 | (false,l)::r,S,m,h,hc,e,e1,K,c,p,z=>by
  rw [aCL]
  refine (IA l c p z).imp ?_
  rintro e1' hc' ⟨e',h',S',m',c',a',p',z⟩
  exact (Zz r c' p' z).imp fun _ _=>DE.then a'
theorem Hg:∀ (cd:TC) {S:Nat→Prop} {m:Nat→Nat} {h hc:AH} {e e1:Env} {K:Ex→Env→AH→Prop},CH S m h hc→EP S m h hc e e1→zc tp cd e h K→WC tp cd e1 hc (fun x=>DE S m h hc (K x))
 | .skip,S,m,h,hc,e,e1,K,c,p,z=>by rw [aZ];exact ⟨e,h,S,m,c,EM.refl c,p,z⟩
 | .ret,S,m,h,hc,e,e1,K,c,p,z=>by rw [aCH];exact ⟨e,h,S,m,c,EM.refl c,p,z⟩
 | .exit id,S,m,h,hc,e,e1,K,c,p,z=>by rw [aX];exact ⟨e,h,S,m,c,EM.refl c,p,z⟩
 | .reg ops,S,m,h,hc,e,e1,K,c,p,z=>by rw [aCG];exact IA ops c p z
 | .dreg segs,S,m,h,hc,e,e1,K,c,p,z=>by rw [aW];exact Zz segs c p z
 | .cond q a b,S,m,h,hc,e,e1,K,c,p,z=>by
  rw [aV]
  have r:=Mm p q
  simp only [zc,Wb] at z
  split at z
  ·rename_i hx;rw [hx] at r;cases hq:X.ev e1 q<;>rw [hq] at r<;>cases r;exact Hg a c p z
  ·rename_i hx;rw [hx] at r;cases hq:X.ev e1 q<;>rw [hq] at r<;>cases r;exact Hg b c p z
  ·exact z.elim
 | .block id cd,S,m,h,hc,e,e1,K,c,p,z=>by rw [UJ];exact Hg cd c p z
 | .seq a b,S,m,h,hc,e,e1,K,c,p,z=>by
  rw [aCI]
  refine (Hg a c p z).imp ?_
  rintro x e1' hc' ⟨e',h',S',m',c',a',p',z⟩
  cases x with
  | nm=>exact (Hg b c' p' z).imp fun _ _ _=>DE.then a'
  | ex j=>exact ⟨e',h',S',m',c',a',p',z⟩
  | rt=>exact ⟨e',h',S',m',c',a',p',z⟩
 | .loop cd,S,m,h,hc,e,e1,K,c,p,z=>by
  refine z (fun e h=>∀ S m hc e1,CH S m h hc→EP S m h hc e e1→WC tp (.loop cd) e1 hc (fun x=>DE S m h hc (K x))) ?_ ?_ S m hc e1 c p
  rotate_left
  ·intro e h e2 h2 st q S m hc e1 c p
   obtain ⟨S',c',a',p'⟩:=st S m hc e1 c p
   exact (q S' m hc e1 c' p').imp fun _ _ _=>DE.then a'
  intro e h q S m hc e1 c p
  refine aY ((Hg cd c p q).imp ?_)
  rintro x e1' hc' ⟨e',h',S',m',c',a',p',z⟩
  cases x with
  | nm=>exact (z S' m' hc' e1' c' p').imp fun _ _ _=>DE.then a'
  | ex j=>exact ⟨e',h',S',m',c',a',p',z⟩
  | rt=>exact ⟨e',h',S',m',c',a',p',z⟩
/-! ### Functions -/
section
variable {S:Nat→Prop} {m:Nat→Nat} {h hc:AH}
theorem Yu (c:CH S m h hc) {e e1:Env} (p:EP S m h hc e e1):∀ {l:List RV} {vs:List V},TV e h l=some vs→∃ vs1,TV e1 hc l=some vs1∧Bk S m hc.get h.next vs vs1
 | [],vs,hv=>by simp [TV] at hv;subst hv;exact ⟨[],rfl,.nil _⟩
 | r::l,vs,hv=>by
  simp only [TV,Option.bind_eq_some_iff,Option.map_eq_some_iff] at hv ⊢
  obtain ⟨v,h1,ws,h2,rfl⟩:=hv
  obtain ⟨ws1,h3,h4⟩:=Yu c p h2
  have:∃ v1,QE e1 hc r=some v1∧PR S m hc.get h.next v v1:=by
   cases r with
   | t n=>simp [QE] at h1 ⊢;subst h1;exact p n
   | cell n k agg=>
    have q:=p n
    simp only [QE] at h1 ⊢
    split at h1
    ·rename_i id el off hx
     rw [hx] at q
     cases hq:e1 n<;>rw [hq] at q<;>cases q
     simp only [Option.bind_eq_some_iff] at h1
     obtain ⟨b,hb,row,hr,hcut⟩:=h1
     exact Iq c hb hr hcut
    ·simp at h1
  obtain ⟨v1,h5,h6⟩:=this
  exact ⟨_,⟨v1,h5,ws1,h3,rfl⟩,.cons _ _ _ _ _ h6 h4⟩
theorem Qy (c:CH S m h hc) {e e1:Env} (p:EP S m h hc e e1) {l:List RV} {v:V} (hv:BC e h l=some v):∃ v1,BC e1 hc l=some v1∧PR S m hc.get h.next v v1:=by
 simp only [BC,Option.map_eq_some_iff] at hv ⊢
 obtain ⟨vs,h1,rfl⟩:=hv
 obtain ⟨vs1,h2,h3⟩:=Yu c p h1
 refine ⟨_,⟨vs1,h2,rfl⟩, ?_⟩
 cases h3 with
 | nil=>exact .tup _ _ _ (.nil _)
 | cons _ v v' l l' q r=>
  cases r with
  | nil=>exact q
  | cons _ w w' l l' q' r=>exact .tup _ _ _ (.cons _ _ _ _ _ q (.cons _ _ _ _ _ q' r))
end
def Hk (res:List RV) (x:Ex) (e:Env) (h:AH) (Q:V→AH→Prop) (t:Fz (PProd.mk e Q):=.mk):Prop:=match x with | .ex _=>False | _=>Wo (BC e h res) (fun v=>Q v h)
inductive Em:V→Prop where
 | b (x:Bool):Em (.b x)
 | i (k:IntKind) (z:Int):Em (.i k z)
 | s (x:ByteArray):Em (.s x)
 | np:Em .np
 | ns:Em .ns
 | e0:Em .e0
 | nf:Em .nf
 | ni:Em .ni
 | u:Em .u
mutual
inductive CD (P:Nat→Prop) (h:AH):Nat→V→V→Prop where
 | z (n:Nat) (v:V):Em v→CD P h n v v
 | ns (n:Nat) (sz:Nat):CD P h n .ns (.fl sz [])
 | e0 (n:Nat) (sz:Nat):CD P h n .e0 (.fl sz [])
 | fl (n:Nat) (sz:Nat) (xs:List (List V)):CD P h n (.fl sz xs) (.fl sz xs)
 | fp (n:Nat) (sz:Nat) (xs:List (List V)) (j o:Nat):CD P h n (.fp sz xs j o) (.fp sz xs j o)
 | sl (n:Nat) (id el len cap sz:Nat) (cs xs:List (List V)):P id→h.get id=some ⟨sz,cs⟩→el+len≤cs.length→len≤cap→len<Ht→DI P h 0 ((cs.drop el).take len) xs→CD P h n (.sl id el len cap) (.fl sz xs)
 | p (n:Nat) (id el off:Nat):id<n→CD P h n (.p id el off) (.p id el off)
 | so (n:Nat) (id el len cap:Nat):id<n→CD P h n (.sl id el len cap) (.sl id el len cap)
 | f (n:Nat) (fn:Fn) (a c a' c':List V):B0 P h n a a'→B0 P h n c c'→CD P h n (.f fn a c) (.f fn a' c')
 | ifc (n:Nat) (t:Nat) (v v':V):CD P h n v v'→CD P h n (.ifc t v) (.ifc t v')
 | agg (n:Nat) (l l':List V):B0 P h n l l'→CD P h n (.agg l) (.agg l')
 | tup (n:Nat) (l l':List V):B0 P h n l l'→CD P h n (.tup l) (.tup l')
inductive B0 (P:Nat→Prop) (h:AH):Nat→List V→List V→Prop where
 | nil (n:Nat):B0 P h n [] []
 | cons (n:Nat) (v v':V) (l l':List V):CD P h n v v'→B0 P h n l l'→B0 P h n (v::l) (v'::l')
inductive DI (P:Nat→Prop) (h:AH):Nat→List (List V)→List (List V)→Prop where
 | nil (n:Nat):DI P h n [] []
 | cons (n:Nat) (v v':List V) (l l':List (List V)):B0 P h n v v'→DI P h n l l'→DI P h n (v::l) (v'::l')
end
section
variable {S:Nat→Prop} {m:Nat→Nat} {h hc:AH} {P:Nat→Prop}
def SP (S:Nat→Prop) (m:Nat→Nat) (h:AH) (P:Nat→Prop) (a:Nat):Prop:=S a∨∃ i,P i∧h.live i∧m i=a
theorem DI.len {n:Nat}:∀ {l l':List (List V)},DI P h n l l'→l.length=l'.length
 | _,_,.nil _=>rfl
 | _,_,.cons _ _ _ _ _ _ q=>by simp [q.len]
mutual
theorem CD.ok (c:CH S m h hc) {n:Nat}:∀ {v r v1:V},CD P h n v r→PR S m hc.get h.next v v1→PR (SP S m h P) m hc.get n r v1
 | _,_,_,.z _ _ h0,p=>by cases h0<;>cases p<;>constructor
 | _,_,_,.ns _ sz,p=>by cases p;exact .fl0 _ _
 | _,_,_,.e0 _ sz,p=>by cases p;exact .fl1 _ _
 | _,_,_,.fl _ sz xs,p=>by
  cases p with
  | fl0=>exact .fl0 _ _
  | fl1=>exact .fl1 _ _
  | fl _ _ _ a el cap cs h1 h2 h3 h4 h5 r=>exact .fl _ _ _ _ _ _ _ (.inl h1) h2 h3 h4 h5 (r.mono ⟨fun a h=>.inl h,fun _ _=>rfl,fun i hi=>absurd hi (Nat.not_lt_zero _),Nat.le_refl _⟩)
 | _,_,_,.fp _ sz xs j o,p=>by
  cases p with
  | fp _ _ _ _ _ a el cs h1 h2 h3 r=>exact .fp _ _ _ _ _ _ _ _ (.inl h1) h2 h3 (r.mono ⟨fun a h=>.inl h,fun _ _=>rfl,fun i hi=>absurd hi (Nat.not_lt_zero _),Nat.le_refl _⟩)
 | _,_,_,.sl _ id el len cap sz cs xs hP hg h1 h2 h3 fr,p=>by
  cases p
  obtain ⟨_,_,cs1,hcs,hr⟩:=c.blk id _ hg
  have e:xs.length=len:=by rw [← fr.len];simp;omega
  subst e
  exact .fl _ _ _ _ _ _ cs1 (.inr ⟨id,hP,by simp [AH.live,hg],rfl⟩) hcs h2 (by rw [← hr.len];exact h1) h3 (DI.ok c fr ((hr.drop _).take _))
 | _,_,_,.p _ id el off hi,p=>by cases p;exact .p _ _ _ _ hi
 | _,_,_,.so _ id el len cap hi,p=>by cases p;exact .sl _ _ _ _ _ hi
 | _,_,_,.f _ fn a cc a' c' fa fc,p=>by cases p;rename_i p q;exact .f _ _ _ _ _ _ (B0.ok c fa p) (B0.ok c fc q)
 | _,_,_,.ifc _ t v v' fv,p=>by cases p;rename_i p;exact .ifc _ _ _ _ (CD.ok c fv p)
 | _,_,_,.agg _ l l' fl,p=>by cases p;rename_i p;exact .agg _ _ _ (B0.ok c fl p)
 | _,_,_,.tup _ l l' fl,p=>by cases p;rename_i p;exact .tup _ _ _ (B0.ok c fl p)
theorem B0.ok (c:CH S m h hc) {n:Nat}:∀ {v r v1:List V},B0 P h n v r→Bk S m hc.get h.next v v1→Bk (SP S m h P) m hc.get n r v1
 | _,_,_,.nil _,p=>by cases p;exact .nil _
 | _,_,_,.cons _ v v' l l' fv fl,p=>by cases p;rename_i p q;exact .cons _ _ _ _ _ (CD.ok c fv p) (B0.ok c fl q)
theorem DI.ok (c:CH S m h hc) {n:Nat}:∀ {v r v1:List (List V)},DI P h n v r→Cy S m hc.get h.next v v1→Cy (SP S m h P) m hc.get n r v1
 | _,_,_,.nil _,p=>by cases p;exact .nil _
 | _,_,_,.cons _ v v' l l' fv fl,p=>by cases p;rename_i p q;exact .cons _ _ _ _ _ (B0.ok c fv p) (DI.ok c fl q)
end
mutual
theorem PR.frz {g:Nat→Option Bx} {n:Nat} {P:Nat→Prop} {h:AH}:∀ {v v1:V},PR S m g n v v1→CD P h n v v
 | _,_,.u _ x=>.z _ _ .u
 | _,_,.b _ x=>.z _ _ (.b x)
 | _,_,.i _ k z=>.z _ _ (.i k z)
 | _,_,.s _ x=>.z _ _ (.s x)
 | _,_,.np _=>.z _ _ .np
 | _,_,.ns _=>.z _ _ .ns
 | _,_,.e0 _=>.z _ _ .e0
 | _,_,.nf _=>.z _ _ .nf
 | _,_,.ni _=>.z _ _ .ni
 | _,_,.p _ id el off h=>.p _ _ _ _ h
 | _,_,.sl _ id el len cap h=>.so _ _ _ _ _ h
 | _,_,.fl0 _ sz=>.fl _ _ _
 | _,_,.fl1 _ sz=>.fl _ _ _
 | _,_,.fl _ sz xs ..=>.fl _ _ _
 | _,_,.fp _ sz xs ..=>.fp _ _ _ _ _
 | _,_,.f _ fn a c a' c' p q=>.f _ _ _ _ _ _ p.frz q.frz
 | _,_,.ifc _ t v v' p=>.ifc _ _ _ _ p.frz
 | _,_,.agg _ l l' p=>.agg _ _ _ p.frz
 | _,_,.tup _ l l' p=>.tup _ _ _ p.frz
theorem Bk.frz {g:Nat→Option Bx} {n:Nat} {P:Nat→Prop} {h:AH}:∀ {v v1:List V},Bk S m g n v v1→B0 P h n v v
 | _,_,.nil _=>.nil _
 | _,_,.cons _ v v' l l' p q=>.cons _ _ _ _ _ p.frz q.frz
theorem Cy.frz {g:Nat→Option Bx} {n:Nat} {P:Nat→Prop} {h:AH}:∀ {v v1:List (List V)},Cy S m g n v v1→DI P h n v v
 | _,_,.nil _=>.nil _
 | _,_,.cons _ v v' l l' p q=>.cons _ _ _ _ _ p.frz q.frz
end
theorem SP.low (c:CH S m h hc):∀ a,SP S m h P a→a<hc.next:=by
 rintro a (ha | ⟨i,_,hi,rfl⟩)
 ·exact c.low a ha
 ·obtain ⟨k,hk⟩:=Option.ne_none_iff_exists'.1 hi
  exact (c.blk i k hk).2.1
theorem CH.emp {T:Nat→Prop} (low:∀ a,T a→a<hc.next) (bnd:hc.lim≤hc.next) (m:Nat→Nat):CH T m AH.emp hc:=
 ⟨fun i k hk=>by simp [AH.emp] at hk,fun i j hi=>by simp [AH.live,AH.emp] at hi,fun i hi=>by simp [AH.live,AH.emp] at hi,low,fun i hi=>by simp [AH.live,AH.emp] at hi,bnd,Nat.le_refl _⟩
end
theorem EP.args {S:Nat→Prop} {m:Nat→Nat} {h hc:AH} {args args1:List V} (p:Bk S m hc.get h.next args args1):EP S m h hc (EC args) (EC args1):=by
 intro t
 simp only [EC,List.getD_eq_getElem?_getD]
 cases ht:args[t]? with
 | none=>
  have:args1[t]?=none:=by rw [List.getElem?_eq_none_iff] at ht ⊢;rw [← p.len];exact ht
  rw [this];exact .u _ _
 | some v=>
  obtain ⟨v1,h1,h2⟩:=p.get t v ht
  rw [h1];exact h2
def F5 (v:V):Prop:=∃ S m g n v1,PR S m g n v v1
def F0 (l:List V):Prop:=∀ v,v∈l→F5 v
theorem Bk.reps {S:Nat→Prop} {m:Nat→Nat} {g:Nat→Option Bx} {n:Nat}:∀ {l l1:List V},Bk S m g n l l1→F0 l
 | _,_,.nil _=>fun v hv=>by simp at hv
 | _,_,.cons _ v v' l l' p q=>fun w hw=>by
  rcases List.mem_cons.1 hw with rfl | hw
  ·exact ⟨_,_,_,_,_,p⟩
  ·exact q.reps w hw
theorem F5.big {s:Nat} {xs:List (List V)} (r:F5 (.fl s xs)):xs.length<4000000000:=by
 obtain ⟨S,m,g,n,v1,p⟩:=r
 cases p with
 | fl0=>simp
 | fl1=>simp
 | fl _ _ _ a el cap cs h1 h2 h3 h4 h5 r=>exact h5
theorem F5.row {s:Nat} {xs:List (List V)} (r:F5 (.fl s xs)) {row:List V} (hr:row∈xs):F0 row:=by
 obtain ⟨S,m,g,n,v1,p⟩:=r
 cases p with
 | fl0=>simp at hr
 | fl1=>simp at hr
 | fl _ _ _ a el cap cs h1 h2 h3 h4 h5 r=>
  obtain ⟨j,hj,rfl⟩:=List.getElem_of_mem hr
  obtain ⟨row1,_,q⟩:=r.get j _ (List.getElem?_eq_getElem hj)
  exact q.reps
theorem F5.agg {l:List V} (r:F5 (.agg l)):F0 l:=by
 obtain ⟨S,m,g,n,v1,p⟩:=r
 cases p with
 | agg _ _ _ q=>exact q.reps
theorem F5.tup {l:List V} (r:F5 (.tup l)):F0 l:=by
 obtain ⟨S,m,g,n,v1,p⟩:=r
 cases p with
 | tup _ _ _ q=>exact q.reps
theorem F5.frzr {s:Nat} {xs:List (List V)} (r:F5 (.fl s xs)) {P:Nat→Prop} {h:AH}:DI P h 0 xs xs:=by
 obtain ⟨S,m,g,n,v1,p⟩:=r
 cases p with
 | fl0=>exact .nil _
 | fl1=>exact .nil _
 | fl _ _ _ a el cap cs h1 h2 h3 h4 h5 r=>exact r.frz
theorem F0.head {v:V} {l:List V} (r:F0 (v::l)):F5 v:=r v (by simp)
theorem F0.tail {v:V} {l:List V} (r:F0 (v::l)):F0 l:=fun w hw=>r w (by simp [hw])
theorem aF3 {f:Nat} {args:List V} {R:V} {tf:TF} (hf:tp.fn f=some tf) (hl:args.length≤tf.n) (z:F0 args→zc tp tf.body (EC args) AH.emp (fun x e h=>Hk tf.res x e h (fun r h'=>CD (fun _=>True) h' 0 r R))):Pf tp f args R:=by
 intro S m hc args1 c p
 have p0:EP S m AH.emp hc (EC args) (EC args1):=EP.args p
 refine TX hf (by rw [← p.len];exact hl) ((Hg tf.body c p0 (z p.reps)).imp ?_)
 rintro x e1 hc' ⟨e,h',S',m',c',a',pe,z⟩
 unfold Hk at z
 unfold UO
 have key:(Wo (BC e h' tf.res) fun v=>CD (fun _=>True) h' 0 v R)→Wo (BC e1 hc' tf.res) (fun r1=>∃ r h'' S' m',CH S' m' h'' hc'∧EM S m AH.emp hc S' m' h'' hc'∧PR S' m' hc'.get h''.next r r1∧r=R∧h''=AH.emp):=by
  rintro ⟨v,hv,fz⟩
  obtain ⟨v1,h1,h2⟩:=Qy c' pe hv
  refine ⟨v1,h1,R,AH.emp,SP S' m' h' (fun _=>True),m',CH.emp (SP.low c') c'.bnd m',⟨fun a h=>.inl (a'.sub a h), ?_,a'.map,Nat.le_refl _,a'.next1,rfl,a'.lim1,a'.frame,fun i hi=>by simp [AH.live,AH.emp] at hi⟩,CD.ok c' fz h2,rfl,rfl⟩
  rintro a (ha | ⟨i,_,hi,rfl⟩)
  ·exact a'.new a ha
  ·rcases a'.liv i hi with ⟨q1,q2⟩ | q1
   ·exact absurd q1 (Nat.not_lt_zero _)
   ·exact .inr (.inl q1)
 cases x with
 | ex j=>exact z.elim
 | nm=>exact key z
 | rt=>exact key z
def Wf (h:AH):Prop:=h.lim≤h.next∧∀ i k,h.get i=some k→i<h.next∧∀ P h',DI P h' h.next k.cs k.cs
theorem CH.wf {S:Nat→Prop} {m:Nat→Nat} {h hc:AH} (c:CH S m h hc):Wf h:=⟨c.bnd2,fun i k hk=>by
 obtain ⟨h1,_,cs,_,h4⟩:=c.blk i k hk
 exact ⟨h1,fun P h'=>h4.frz⟩⟩
structure Cp (h h2:AH) (r:V) (P:Nat→Prop) (R:V) (H:AH):Prop where
 n1:h.next≤H.next
 lim:H.lim=h.lim
 n2:H.next≤h2.next
 blk:∀ i k,H.get i=some k→i<H.next∧¬ P i∧∃ cs,h2.get i=some ⟨k.sz,cs⟩∧DI P h2 H.next cs k.cs
 val:CD P h2 H.next r R
theorem Cp.ok {S S' : Nat → Prop} {m m' : Nat → Nat} {h hc h2 hc2 : AH} {r r1 R : V} {P : Nat → Prop} {H : AH} (st : Cp h h2 r P R H) (c : CH S m h hc) (c' : CH S' m' h2 hc2) (a' : EM S m h hc S' m' h2 hc2) (p : PR S' m' hc2.get h2.next r r1) :
    CH (SP S' m' h2 P) m' H hc2∧EM S m h hc (SP S' m' h2 P) m' H hc2∧PR (SP S' m' h2 P) m' hc2.get H.next R r1:=by
 have liv:∀ i,H.live i→h2.live i∧¬ P i:=fun i hi=>by
  obtain ⟨k,hk⟩:=Option.ne_none_iff_exists'.1 hi
  obtain ⟨_,h1,cs,h2,_⟩:=st.blk i k hk
  exact ⟨by simp [AH.live,h2],h1⟩
 refine ⟨⟨fun i k hk=>?_,fun i j hi hj=>c'.inj i j (liv i hi).1 (liv j hj).1,fun i hi hs=>?_,SP.low c',fun i hi hl=>c'.lim i (liv i hi).1 (by rw [a'.lim2,←st.lim];exact hl),c'.bnd,by rw [st.lim];exact Nat.le_trans c.bnd2 st.n1⟩,⟨fun a h=>.inl (a'.sub a h),fun a ha=>?_,a'.map,st.n1,a'.next1,st.lim,a'.lim1,a'.frame,fun i hi=>a'.liv i (liv i hi).1⟩,st.val.ok c' p⟩
 ·obtain ⟨h1,h2',cs,h3,h4⟩:=st.blk i k hk
  obtain ⟨q1,q2,cs1,q3,q4⟩:=c'.blk i _ h3
  exact ⟨h1,q2,cs1,q3,h4.ok c' q4⟩
 ·obtain ⟨hl,hP⟩:=liv i hi
  rcases hs with hs | ⟨j,hj,hlj,he⟩
  ·exact c'.off i hl hs
  ·exact hP (c'.inj j i hlj hl he▸hj)
 ·rcases ha with ha | ⟨i,_,hi,rfl⟩
  ·exact a'.new a ha
  ·rcases a'.liv i hi with ⟨q1,q2⟩ | q1
   ·exact .inr (.inr ⟨i,q2,(a'.map i q1).symm⟩)
   ·exact .inr (.inl q1)
theorem nO {f:Nat} {args:List V} {h:AH} {K:V→AH→Prop} {tf:TF} (hf:tp.fn f=some tf) (hl:args.length≤tf.n) (z:Wf h→F0 args→zc tp tf.body (EC args) h (fun x e h2=>Hk tf.res x e h2 (fun r h3=>∃ P R H,Cp h h3 r P R H∧K R H))):Cq tp f args h K:=by
 intro S m hc args1 c p
 refine TX hf (by rw [← p.len];exact hl) ((Hg tf.body c (EP.args p) (z c.wf p.reps)).imp ?_)
 rintro x e1 hc' ⟨e,h',S',m',c',a',pe,z⟩
 unfold Hk at z
 unfold UO
 have key:(Wo (BC e h' tf.res) fun r=>∃ P R H,Cp h h' r P R H∧K R H)→Wo (BC e1 hc' tf.res) (fun r1=>∃ r h'' S' m',CH S' m' h'' hc'∧EM S m h hc S' m' h'' hc'∧PR S' m' hc'.get h''.next r r1∧K r h''):=by
  rintro ⟨v,hv,P,R,H,st,k⟩
  obtain ⟨v1,h1,h2⟩:=Qy c' pe hv
  obtain ⟨q1,q2,q3⟩:=st.ok c c' a' h2
  exact ⟨v1,h1,R,H,_,m',q1,q2,q3,k⟩
 cases x with
 | ex j=>exact z.elim
 | nm=>exact key z
 | rt=>exact key z
theorem pF {f:Nat} {args:List V} {h:AH} {K:V→AH→Prop} {tf:TF} (hf:tp.fn f=some tf) (hl:args.length≤tf.n) (z:Wf h→F0 args→zc tp tf.body (EC args) h (fun x e h2=>Hk tf.res x e h2 K)):Cq tp f args h K:=by
 intro S m hc args1 c p
 refine TX hf (by rw [← p.len];exact hl) ((Hg tf.body c (EP.args p) (z c.wf p.reps)).imp ?_)
 rintro x e1 hc' ⟨e,h',S',m',c',a',pe,z⟩
 unfold Hk at z
 unfold UO
 have key:(Wo (BC e h' tf.res) fun r=>K r h')→Wo (BC e1 hc' tf.res) (fun r1=>∃ r h'' S' m',CH S' m' h'' hc'∧EM S m h hc S' m' h'' hc'∧PR S' m' hc'.get h''.next r r1∧K r h''):=by
  rintro ⟨v,hv,k⟩
  obtain ⟨v1,h1,h2⟩:=Qy c' pe hv
  exact ⟨v1,h1,v,h',_,m',c',a',h2,k⟩
 cases x with
 | ex j=>exact z.elim
 | nm=>exact key z
 | rt=>exact key z
theorem Cq.imp {f:Nat} {args:List V} {h:AH} {K L:V→AH→Prop} (c:Cq tp f args h K) (kl:∀ v h,K v h→L v h):Cq tp f args h L:=by
 intro S m hc args1 cf p
 refine (c S m hc args1 cf p).imp ?_
 rintro v h' ⟨r,h2,S',m',a,b,c,d⟩
 exact ⟨r,h2,S',m',a,b,c,kl _ _ d⟩
mutual
def pur:V→Bool
 | .p .. | .sl ..=>false
 | .f _ a c=>Fw a&&Fw c
 | .ifc _ v=>pur v
 | .agg l=>Fw l
 | .tup l=>Fw l
 | _=>true
def Fw:List V→Bool
 | []=>true
 | v::l=>pur v&&Fw l
end
mutual
theorem PR.pur {S:Nat→Prop} {m:Nat→Nat} {g:Nat→Option Bx} {n:Nat}:∀ {v v1:V},PR S m g n v v1→pur v=true→PR S m g 0 v v1
 | _,_,.u _ x,_=>.u _ x
 | _,_,.b _ x,_=>.b _ x
 | _,_,.i _ k z,_=>.i _ k z
 | _,_,.s _ x,_=>.s _ x
 | _,_,.np _,_=>.np _
 | _,_,.ns _,_=>.ns _
 | _,_,.e0 _,_=>.e0 _
 | _,_,.nf _,_=>.nf _
 | _,_,.ni _,_=>.ni _
 | _,_,.p _ _ _ _ _,h=>by simp [Go.Ab.pur] at h
 | _,_,.sl _ _ _ _ _ _,h=>by simp [Go.Ab.pur] at h
 | _,_,.fl0 _ sz,_=>.fl0 _ sz
 | _,_,.fl1 _ sz,_=>.fl1 _ sz
 | _,_,.fl _ sz xs a el cap cs h1 h2 h3 h4 h5 r,_=>.fl _ sz xs a el cap cs h1 h2 h3 h4 h5 r
 | _,_,.fp _ sz xs j off a el cs h1 h2 h3 r,_=>.fp _ sz xs j off a el cs h1 h2 h3 r
 | _,_,.f _ fn a c a' c' p q,h=>by
  simp only [Go.Ab.pur,Bool.and_eq_true] at h
  exact .f _ fn a c a' c' (Bk.pur p h.1) (Bk.pur q h.2)
 | _,_,.ifc _ t v v' p,h=>by simp only [Go.Ab.pur] at h;exact .ifc _ t v v' (PR.pur p h)
 | _,_,.agg _ l l' p,h=>by simp only [Go.Ab.pur] at h;exact .agg _ l l' (Bk.pur p h)
 | _,_,.tup _ l l' p,h=>by simp only [Go.Ab.pur] at h;exact .tup _ l l' (Bk.pur p h)
theorem Bk.pur {S:Nat→Prop} {m:Nat→Nat} {g:Nat→Option Bx} {n:Nat}:∀ {v v1:List V},Bk S m g n v v1→Fw v=true→Bk S m g 0 v v1
 | _,_,.nil _,_=>.nil _
 | _,_,.cons _ v v' l l' p q,h=>by
  simp only [Fw,Bool.and_eq_true] at h
  exact .cons _ _ _ _ _ (PR.pur p h.1) (Bk.pur q h.2)
end
def AH.kills (h:AH) (D:List Nat):AH:={ h with get:=fun i=>if i∈D then none else h.get i }
theorem CH.after {S T S':Nat→Prop} {m m':Nat→Nat} {h hc hc':AH} {D:List Nat} (c:CH S m h hc) (hT:∀ a,T a→S a∨∃ i,i∈D∧h.live i∧m i=a) (hST:∀ a,S a→T a) (c':CH S' m' AH.emp hc') (a':EM T m AH.emp hc S' m' AH.emp hc'):CH S' m (h.kills D) hc'∧EM S m h hc S' m (h.kills D) hc':=by
 have lt:∀ i,h.live i→i<h.next∧m i<hc.next:=fun i hi=>by
  obtain ⟨k,hk⟩:=Option.ne_none_iff_exists'.1 hi;exact ⟨(c.blk i k hk).1,(c.blk i k hk).2.1⟩
 have live:∀ i,(h.kills D).live i→h.live i∧i∉D:=fun i hi=>by
  simp only [AH.live,AH.kills] at hi
  split at hi
  ·simp at hi
  ·exact ⟨hi,by assumption⟩
 have fr:∀ a,a<hc.next→hc'.get a=hc.get a:=fun a ha=>a'.frame a ha (fun i hi=>by simp [AH.live,AH.emp] at hi)
 have pm:Hj S m hc.get h.next S' m hc'.get h.next:=⟨fun a h=>a'.sub a (hST a h),fun a ha=>fr a (c.low a ha),fun _ _=>rfl,Nat.le_refl _⟩
 have nw:∀ a,S' a→S a∨hc.next≤a∨∃ i,i∈D∧h.live i∧m i=a:=fun a ha=>by
  rcases a'.new a ha with h1 | h1 | ⟨i,hi,_⟩
  ·rcases hT a h1 with h2 | h2
   ·exact .inl h2
   ·exact .inr (.inr h2)
  ·exact .inr (.inl h1)
  ·simp [AH.live,AH.emp] at hi
 refine ⟨⟨fun i k hk=>?_,fun i j hi hj=>c.inj i j (live i hi).1 (live j hj).1,fun i hi hs=>?_,c'.low,fun i hi hl=>by rw [a'.lim1];exact c.lim i (live i hi).1 hl,c'.bnd,c.bnd2⟩,⟨fun a h=>a'.sub a (hST a h),fun a ha=>?_,fun _ _=>rfl,Nat.le_refl _,a'.next1,rfl,a'.lim1,fun a ha _=>fr a ha,fun i hi=>.inl ⟨(lt i (live i hi).1).1,(live i hi).1⟩⟩⟩
 ·have hk2:h.get i=some k:=by
   simp only [AH.kills] at hk
   split at hk
   ·simp at hk
   ·exact hk
  obtain ⟨h1,h2,cs,h3,h4⟩:=c.blk i k hk2
  exact ⟨h1,Nat.lt_of_lt_of_le h2 a'.next1,cs,by rw [fr _ h2];exact h3,h4.mono pm⟩
 ·obtain ⟨hi,hD⟩:=live i hi
  rcases nw _ hs with h1 | h1 | ⟨j,hj,hlj,he⟩
  ·exact c.off i hi h1
  ·have:=(lt i hi).2;omega
  ·exact hD (c.inj j i hlj hi he▸hj)
 ·rcases nw a ha with h1 | h1 | ⟨i,_,hi,he⟩
  ·exact .inl h1
  ·exact .inr (.inl h1)
  ·exact .inr (.inr ⟨i,hi,he⟩)
theorem Pf.go {f:Nat} {args:List V} {R:V} {h:AH} {K:V→AH→Prop} (pf:Pf tp f args R) (hp:Fw args=true) (k:F5 R→K R h):Cq tp f args h K:=by
 intro S m hc args1 c p
 refine (pf S m hc args1 (CH.emp c.low c.bnd m) (p.pur hp)).imp ?_
 rintro r1 hc' ⟨r,h',S',m',c',a',q,rfl,rfl⟩
 obtain ⟨c2,a2⟩:=c.after (D:=[]) (T:=S) (fun a h=>.inl h) (fun a h=>h) c' a'
 have e:h.kills []=h:=by simp [AH.kills]
 rw [e] at c2 a2
 exact ⟨r,h,S',m,c2,a2,q.up _ _,k ⟨_,_,_,_,_,q⟩⟩
theorem Pf.take {f:Nat} {args A:List V} {R:V} {h:AH} {K:V→AH→Prop} (D:List Nat) (pf:Pf tp f A R) (fz:B0 (·∈D) h 0 args A) (k:F5 R→K R (h.kills D)):Cq tp f args h K:=by
 intro S m hc args1 c p
 have q:=B0.ok c fz p
 refine (pf _ m hc args1 (CH.emp (SP.low c) c.bnd m) q).imp ?_
 rintro r1 hc' ⟨r,h',S',m',c',a',q,rfl,rfl⟩
 obtain ⟨c2,a2⟩:=c.after (D:=D) (fun a h=>h) (fun a h=>.inl h) c' a'
 exact ⟨r,_,S',m,c2,a2,q.up _ _,k ⟨_,_,_,_,_,q⟩⟩
mutual
def flat0:V→Bool
 | .b _ | .i .. | .s _ | .np | .ns | .e0 | .nf | .ni | .u=>true
 | .agg l=>MJ l
 | .tup l=>MJ l
 | _=>false
def MJ:List V→Bool
 | []=>true
 | v::l=>flat0 v&&MJ l
end
mutual
theorem PR.flat0 {S S':Nat→Prop} {m m':Nat→Nat} {g g':Nat→Option Bx} {n n':Nat}:∀ {v v1:V},PR S m g n v v1→flat0 v=true→PR S' m' g' n' v v1
 | _,_,.u _ x,_=>.u _ x
 | _,_,.b _ x,_=>.b _ x
 | _,_,.i _ k z,_=>.i _ k z
 | _,_,.s _ x,_=>.s _ x
 | _,_,.np _,_=>.np _
 | _,_,.ns _,_=>.ns _
 | _,_,.e0 _,_=>.e0 _
 | _,_,.nf _,_=>.nf _
 | _,_,.ni _,_=>.ni _
 | _,_,.p _ _ _ _ _,h=>by simp [Go.Ab.flat0] at h
 | _,_,.sl _ _ _ _ _ _,h=>by simp [Go.Ab.flat0] at h
 | _,_,.fl0 _ sz,h=>by simp [Go.Ab.flat0] at h
 | _,_,.fl1 _ sz,h=>by simp [Go.Ab.flat0] at h
 | _,_,.fl ..,h=>by simp [Go.Ab.flat0] at h
 | _,_,.fp ..,h=>by simp [Go.Ab.flat0] at h
 | _,_,.f ..,h=>by simp [Go.Ab.flat0] at h
 | _,_,.ifc ..,h=>by simp [Go.Ab.flat0] at h
 | _,_,.agg _ l l' p,h=>by simp only [Go.Ab.flat0] at h;exact .agg _ l l' (Bk.flat0 p h)
 | _,_,.tup _ l l' p,h=>by simp only [Go.Ab.flat0] at h;exact .tup _ l l' (Bk.flat0 p h)
theorem Bk.flat0 {S S':Nat→Prop} {m m':Nat→Nat} {g g':Nat→Option Bx} {n n':Nat}:∀ {v v1:List V},Bk S m g n v v1→MJ v=true→Bk S' m' g' n' v v1
 | _,_,.nil _,_=>.nil _
 | _,_,.cons _ v v' l l' p q,h=>by
  simp only [MJ,Bool.and_eq_true] at h
  exact .cons _ _ _ _ _ (PR.flat0 p h.1) (Bk.flat0 q h.2)
end
theorem Pf.look {f:Nat} {args A:List V} {R:V} {h:AH} {K:V→AH→Prop} (pf:Pf tp f A R) (fz:B0 (fun _=>True) h 0 args A) (hR:flat0 R=true) (k:F5 R→K R h):Cq tp f args h K:=by
 intro S m hc args1 c p
 have q:=B0.ok c fz p
 refine (pf _ m hc args1 (CH.emp (SP.low c) c.bnd m) q).imp ?_
 rintro r1 hc' ⟨r,h',S',m',c',a',q,rfl,rfl⟩
 have lt:∀ i,h.live i→i<h.next∧m i<hc.next:=fun i hi=>by
  obtain ⟨k,hk⟩:=Option.ne_none_iff_exists'.1 hi;exact ⟨(c.blk i k hk).1,(c.blk i k hk).2.1⟩
 have fr:∀ a,a<hc.next→hc'.get a=hc.get a:=fun a ha=>a'.frame a ha (fun i hi=>by simp [AH.live,AH.emp] at hi)
 have pm:Hj S m hc.get h.next S m hc'.get h.next:=⟨fun a h=>h,fun a ha=>fr a (c.low a ha),fun _ _=>rfl,Nat.le_refl _⟩
 refine ⟨r,h,S,m,⟨fun i k hk=>?_,c.inj,c.off,fun a ha=>Nat.lt_of_lt_of_le (c.low a ha) a'.next1,fun i hi hl=>by rw [a'.lim1];exact c.lim i hi hl,c'.bnd,c.bnd2⟩,⟨fun a h=>h,fun a h=>.inl h,fun _ _=>rfl,Nat.le_refl _,a'.next1,rfl,a'.lim1,fun a ha _=>fr a ha,fun i hi=>.inl ⟨(lt i hi).1,hi⟩⟩,q.flat0 hR,k ⟨_,_,_,_,_,q⟩⟩
 obtain ⟨h1,h2,cs,h3,h4⟩:=c.blk i k hk
 exact ⟨h1,Nat.lt_of_lt_of_le h2 a'.next1,cs,by rw [fr _ h2];exact h3,h4.mono pm⟩
end
end Go.Ab
/- The rules for code over values that stay, as a set for simp; slices that are one's own. -/
namespace Go.Ab
open Go
theorem Env.set_get {e:Env} {d j:Nat} {v:V}:(e.set (some d) v) j=if j=d then v else e j:=Am rfl
theorem Env.set_none {e:Env} {v:V}:e.set none v=e:=Am rfl
/-! ### The heap -/
def We {α:Type} (i n:Nat) (a b:α):α:=if i=n then a else b
theorem Aw {α:Type} {i n:Nat} {a b:α} (h:i=n):We i n a b=a:=if_pos h
theorem Af {α:Type} {i n:Nat} {a b:α} (h:¬ i=n):We i n a b=b:=if_neg h
theorem AO {h:AH} {k:Bx} {i:Nat}:(h.alloc k).get i=We i h.next (some k) (h.get i):=Am rfl
theorem Ad {h:AH} {k:Bx} {i j:Nat}:(h.put j k).get i=We i j (some k) (h.get i):=Am rfl
theorem BL {h:AH} {i j:Nat}:(h.kill j).get i=We i j none (h.get i):=Am rfl
theorem SV {h:AH} {i:Nat}:h.raise.get i=h.get i:=Am rfl
theorem Wc {h:AH} {i l:Nat}:(h.back l).get i=h.get i:=Am rfl
theorem Ag {h:AH} {k:Bx}:(h.alloc k).next=h.next+1:=Am rfl
theorem Ai {h:AH} {k:Bx} {j:Nat}:(h.put j k).next=h.next:=Am rfl
theorem DQ {h:AH} {j:Nat}:(h.kill j).next=h.next:=Am rfl
theorem Jr {h:AH}:h.raise.next=h.next:=Am rfl
theorem Tj {h:AH} {l:Nat}:(h.back l).next=h.next:=Am rfl
theorem A9 {h:AH} {k:Bx}:(h.alloc k).lim=h.lim:=Am rfl
theorem DK {h:AH} {k:Bx} {j:Nat}:(h.put j k).lim=h.lim:=Am rfl
theorem XI {h:AH} {j:Nat}:(h.kill j).lim=h.lim:=Am rfl
theorem K1 {h:AH}:h.raise.lim=h.next:=Am rfl
theorem XH {h:AH} {l:Nat}:(h.back l).lim=l:=Am rfl
theorem HI {h:AH} {k:Bx}:(h.raise.alloc k).back h.lim=h.alloc k:=Am rfl
theorem Gq {h:AH}:h.raise.back h.lim=h:=Am rfl
section
variable {tp:TP} {e:Env} {h:AH}
/-! ### Code -/
def Z1 (tp:TP) (o:O) (e:Env) (h:AH) (K:V→AH→Prop) (t:Fz K:=.mk):Prop:=z1 tp o e h K
def DF (tp:TP) (o:O) (e:Env) (h:AH) (K:V→AH→Prop) (t:Fz K:=.mk):Prop:=zq1 tp o e h K
def Mn (tp:TP) (l:List TO) (e:Env) (h:AH) (K:Env→AH→Prop) (t:Fz (PProd.mk e K):=.mk):Prop:=KF tp l e h K
def ZQ (tp:TP) (l:List TO) (e:Env) (h:AH) (K:Env→AH→Prop) (t:Fz (PProd.mk e K):=.mk):Prop:=zq tp l e h K
def ZS (tp:TP) (l:List (Bool×List TO)) (e:Env) (h:AH) (K:Env→AH→Prop) (t:Fz (PProd.mk e K):=.mk):Prop:=zs tp l e h K
def ZC (tp:TP) (c:TC) (e:Env) (h:AH) (K:Ex→Env→AH→Prop) (t:Fz (PProd.mk e K):=.mk):Prop:=zc tp c e h K
theorem cE {K:Ex→Env→AH→Prop}:ZC tp .skip e h K=K .nm e h:=Am rfl
theorem aC8 {K:Ex→Env→AH→Prop}:ZC tp .ret e h K=K .rt e h:=Am rfl
theorem cD {id:Nat} {K:Ex→Env→AH→Prop}:ZC tp (.exit id) e h K=K (.ex id) e h:=Am rfl
theorem aC7 {ops:List TO} {K:Ex→Env→AH→Prop}:ZC tp (.reg ops) e h K=Mn tp ops e h (fun e h=>K .nm e h):=Am rfl
theorem cC {ops:List (Bool×List TO)} {K:Ex→Env→AH→Prop}:ZC tp (.dreg ops) e h K=ZS tp ops e h (fun e h=>K .nm e h):=Am rfl
theorem cB {c:X} {a b:TC} {K:Ex→Env→AH→Prop}:ZC tp (.cond c a b) e h K=Wb (c.e2 e) (ZC tp a e h K) (ZC tp b e h K):=Am rfl
theorem UV {id:Nat} {c:TC} {K:Ex→Env→AH→Prop}:ZC tp (.block id c) e h K=ZC tp c e h (fun x e h=>K (blk id x) e h):=Am rfl
theorem aC9 {a b:TC} {K:Ex→Env→AH→Prop}:ZC tp (.seq a b) e h K=ZC tp a e h (fun x e h=>TU x (ZC tp b e h K) (K x e h)):=Am rfl
theorem An {c d:TC} {K:Ex→Env→AH→Prop} (hcd:c=d):ZC tp c e h K=ZC tp d e h K:=by rw [hcd]
theorem BH {c:TC} {K:Ex→Env→AH→Prop} (z:ZC tp c e h (fun x e h=>TU x (ZC tp (.loop c) e h K) (K x e h))):ZC tp (.loop c) e h K:=by
 intro I hI hS
 exact hI e h (Es (c:=c) (fun x e h=>LU (fun z=>z I hI hS) id) z)
theorem Q3 {c:TC} {K:Ex→Env→AH→Prop} {e2:Env} {h2:AH} (st:Stp e h e2 h2) (z:ZC tp (.loop c) e2 h2 K):ZC tp (.loop c) e h K:=fun I hI hS=>hS e h e2 h2 st (z I hI hS)
theorem Ah {c:TC} {K:Ex→Env→AH→Prop} (J:Nat→Env→AH→Prop) (round:∀ n e h,J n e h→(∀ m e' h',m<n→J m e' h'→ZC tp (.loop c) e' h' K)→ZC tp c e h (fun x e h=>TU x (ZC tp (.loop c) e h K) (K x e h))):∀ n e h,J n e h→ZC tp (.loop c) e h K:=by
 intro n
 induction n using Nat.strongRecOn with
 | _ n ih=>intro e h hj;exact BH (round n e h hj (fun m e' h' hm hj'=>ih m hm e' h' hj'))
theorem ZC.imp {c:TC} {K L:Ex→Env→AH→Prop} (z:ZC tp c e h K) (kl:∀ x e h,K x e h→L x e h):ZC tp c e h L:=Es (c:=c) kl z
theorem Zu {v:V} {x:Bool} {A B:Prop}:(match (match v with | .b y=>some (y==x) | .tup []=>some false | _=>none:Option Bool) with | some true=>A | some false=>B | none=>False)=Wg v x A B:=by
 cases v with
 | b y=>cases y<;>cases x<;>simp [Wg]
 | tup l=>cases l<;>simp [Wg]
 | _=>simp [Wg]
theorem UW {K:Env→AH→Prop}:Mn tp [] e h K=K e h:=Am rfl
theorem UX {d:Option Nat} {o:O} {r:List TO} {K:Env→AH→Prop}:Mn tp (⟨d,o,none⟩::r) e h K=Z1 tp o e h (fun v h=>Mn tp r (e.set d v) h K):=Am rfl
theorem aDa {d:Option Nat} {o:O} {t:Nat} {x:Bool} {r:List TO} {K:Env→AH→Prop}:Mn tp (⟨d,o,some (t,x)⟩::r) e h K=Wg (e t) x (Z1 tp o e h (fun v h=>Mn tp r (e.set d v) h K)) (Mn tp r (e.set d (.tup [])) h K):=by
 exact Zu
theorem aDk {K:Env→AH→Prop}:ZS tp [] e h K=K e h:=Am rfl
theorem aDj {l:List TO} {r:List (Bool×List TO)} {K:Env→AH→Prop}:ZS tp ((false,l)::r) e h K=Mn tp l e h (fun e h=>ZS tp r e h K):=Am rfl
theorem Vd {l:List TO} {r:List (Bool×List TO)} {K:Env→AH→Prop}:ZS tp ((true,l)::r) e h K=ZQ tp l e h (fun e h=>ZS tp r e h K):=Am rfl
theorem aDh {K:Env→AH→Prop}:ZQ tp [] e h K=K e h:=Am rfl
theorem aDi {d:Option Nat} {o:O} {r:List TO} {K:Env→AH→Prop}:ZQ tp (⟨d,o,none⟩::r) e h K=DF tp o e h (fun v h=>ZQ tp r (e.set d v) h K):=Am rfl
theorem aSf {d:Option Nat} {o:O} {t:Nat} {x:Bool} {r:List TO} {K:Env→AH→Prop}:ZQ tp (⟨d,o,some (t,x)⟩::r) e h K=Wg (e t) x (DF tp o e h (fun v h=>ZQ tp r (e.set d v) h K)) (ZQ tp r (e.set d (.tup [])) h K):=by
 exact Zu
end
/-! ### Operations one by one -/
theorem aSj {e:Env} {n:Nat}:(X.t n).e2 e=e n:=Am rfl
theorem aQc {e:Env} {k:IntKind} {n:Int}:(X.c (.i k n)).e2 e=.i k n:=Am rfl
theorem aQb {e:Env} {x:Bool}:(X.c (.b x)).e2 e=.b x:=Am rfl
theorem aQd {e:Env} {x:ByteArray}:(X.c (.s x)).e2 e=.s x:=Am rfl
theorem aQg {e:Env}:(X.c .np).e2 e=.np:=Am rfl
theorem aQh {e:Env}:(X.c .ns).e2 e=.ns:=Am rfl
theorem aQe {e:Env}:(X.c .nf).e2 e=.nf:=Am rfl
theorem aQf {e:Env}:(X.c .ni).e2 e=.ni:=Am rfl
theorem aDx {e:Env} {l:List V} (hl:l.all plain1=true):(X.c (.agg l)).e2 e=.agg l:=by simp [X.e2,plain,hl]
theorem oT {e:Env} {f:Nat}:(X.fn f).e2 e=.f (.func f) [] []:=Am rfl
theorem X5 {k:IntKind} {n:Int}:plain1 (.i k n)=true:=Am rfl
theorem X4 {x:Bool}:plain1 (.b x)=true:=Am rfl
theorem X6 {x:ByteArray}:plain1 (.s x)=true:=Am rfl
theorem Tp:plain1 .np=true:=Am rfl
theorem Tq:plain1 .ns=true:=Am rfl
theorem Tn:plain1 .nf=true:=Am rfl
theorem To:plain1 .ni=true:=Am rfl
section
variable {tp:TP} {e:Env} {h:AH} {K:V→AH→Prop}
def asB:V→Option Bool | .b x=>some x | _=>none
theorem aP7 {x:Bool}:asB (.b x)=some x:=Am rfl
theorem aP4 {x:X}:Z1 tp (.mv x) e h K=Wv (x.e2 e) (fun v=>K v h):=by
 unfold Z1;simp only [z1,Bl,Ae,AS,GE]
theorem bW {c a b:X}:Z1 tp (.pick c a b) e h K=Wo (asB (c.e2 e)) (fun t=>Wv (if t then a.e2 e else b.e2 e) (fun v=>K v h)):=by
 unfold Z1;simp only [z1,Bl,Ae,asB]
 cases c.e2 e<;>simp only [AS,AX,GE]
theorem IG {z:List V}:Z1 tp (.alloc z) e h K=(z.all plain1=true∧Wv (.p h.next 0 0) (fun v=>Wv (h.alloc ⟨z.length,[z]⟩) (fun h'=>K v h'))):=by
 unfold Z1;simp only [z1,Bl,Ae,Cc,AS,GE]
theorem Pc {x:X}:Z1 tp (.box x) e h K=((x.e2 e).cells.all V.isCell=true∧Wv (.p h.next 0 0) (fun v=>Wv (h.alloc ⟨(x.e2 e).cells.length,[(x.e2 e).cells]⟩) (fun h'=>K v h'))):=by
 unfold Z1;simp only [z1,Bl,Ae,Cc,AS,GE]
theorem UP {z:List V} {ps:List (Nat×Nat×X)}:Z1 tp (.build z ps) e h K=(z.all plain1=true∧Wo (ED z (ps.map fun q=>(q.1,q.2.1,q.2.2.e2 e))) (fun r=>K (.agg r) h)):=by
 unfold Z1;simp only [z1,Bl,Ae,Cc,Be]
theorem Pd {sz n:Nat} {z:List V} {ps:List (Nat×X)}:Z1 tp (.bsl sz z n ps) e h K=((z.all plain1=true∧n<4294967296)∧Wo (B3 sz (List.replicate n z) (ps.map fun q=>(q.1,q.2.e2 e))) (fun r=>Wv (.sl h.next 0 n n) (fun v=>Wv (h.alloc ⟨sz,r⟩) (fun h'=>K v h')))):=by
 unfold Z1;simp only [z1,Bl,Ae];rw [Cc,Be];rfl
theorem Lm {sz n:Nat} {z:List V} {ps:List (Nat×X)}:Z1 tp (.bslc sz z n ps) e h K=((z.all plain1=true∧n<4294967296)∧Wo (B3 sz (List.replicate n z) (ps.map fun q=>(q.1,q.2.e2 e))) (fun r=>Wv (.sl h.next 0 n n) (fun v=>Wv (h.alloc ⟨sz,r⟩) (fun h'=>K v h')))):=by
 unfold Z1;simp only [z1,Bl,Ae];rw [Cc,Be];rfl
def aCP (sz n:Nat) (z:List V) (ps:List (Nat×V)) (y:V) (h:AH) (K:V→AH→Prop) (t:Fz K:=.mk):Prop:=match y with
 | .sl id el len cap=>Wo (B3 sz (List.replicate n z) ps) (fun r=>h.get id=some ⟨sz,r⟩∧(el=0∧len=n∧cap=n)∧Ba r r=true∧Wv V.u (fun v=>K v h))
 | _=>False
theorem bC {sz n id el len cap:Nat} {z:List V} {ps:List (Nat×V)}:aCP sz n z ps (.sl id el len cap) h K=Wo (B3 sz (List.replicate n z) ps) (fun r=>h.get id=some ⟨sz,r⟩∧(el=0∧len=n∧cap=n)∧Ba r r=true∧Wv V.u (fun v=>K v h)):=Am rfl
theorem bM {sz n:Nat} {z:List V} {ps:List (Nat×X)} {y:X}:Z1 tp (.chkb sz z n ps y) e h K=(z.all plain1=true∧aCP sz n z (ps.map fun q=>(q.1,q.2.e2 e)) (y.e2 e) h K):=by
 unfold Z1;simp only [z1,Bl,Cc]
 congr 1
 simp only [Ae]
 generalize y.e2 e=v
 cases v<;>simp only [aCP,AX]
 rename_i id el len cap
 rw [Bs]
 refine ER fun r=>?_
 apply propext
 constructor
 ·rintro ⟨⟨v,h'⟩,h1,k⟩
  simp only [Option.bind_eq_some_iff] at h1
  obtain ⟨b,hb,h1⟩:=h1
  split at h1
  case isFalse=>simp at h1
  rename_i hs
  simp at h1
  obtain ⟨rfl,rfl⟩:=h1
  obtain ⟨e1,e2,e3,e4,e5⟩:=hs
  have:=Dx e5
  subst this
  obtain ⟨s,cs⟩:=b
  simp only at e4 e5 hb
  subst e4
  exact ⟨hb,⟨e1,e2,e3⟩,e5,k⟩
 ·rintro ⟨hb,⟨e1,e2,e3⟩,e5,k⟩
  exact ⟨(.u,h),by rw [hb];simp only [Option.bind_some];rw [if_pos ⟨e1,e2,e3,trivial,e5⟩],k⟩
theorem Pa {z:List V}:Z1 tp (.alc z) e h K=(z.all plain1=true∧Wv (.p h.next 0 0) (fun v=>Wv (h.alloc ⟨z.length,[z]⟩) (fun h'=>K v h'))):=by
 unfold Z1;simp only [z1,Bl,Ae];rw [Cc,AS];rfl
def aCN (z:List V) (y:V) (h:AH) (K:V→AH→Prop) (t:Fz K:=.mk):Prop:=match y with
 | .p id el off=>h.get id=some ⟨z.length,[z]⟩∧(el=0∧off=0)∧Ba [z] [z]=true∧Wv V.u (fun v=>K v h)
 | _=>False
theorem aCO {id el off:Nat} {z:List V}:aCN z (.p id el off) h K=(h.get id=some ⟨z.length,[z]⟩∧(el=0∧off=0)∧Ba [z] [z]=true∧Wv V.u (fun v=>K v h)):=Am rfl
theorem bL {z:List V} {y:X}:Z1 tp (.chka z y) e h K=(z.all plain1=true∧aCN z (y.e2 e) h K):=by
 unfold Z1;simp only [z1,Bl,Cc]
 congr 1
 simp only [Ae]
 generalize y.e2 e=v
 cases v<;>simp only [aCN,AX]
 rename_i id el off
 apply propext
 constructor
 ·rintro ⟨⟨v,h'⟩,h1,k⟩
  simp only [Option.bind_eq_some_iff] at h1
  obtain ⟨b,hb,h1⟩:=h1
  split at h1
  case isFalse=>simp at h1
  rename_i hs
  simp at h1
  obtain ⟨rfl,rfl⟩:=h1
  obtain ⟨e1,e2,e3,e5⟩:=hs
  obtain ⟨s,cs⟩:=b
  simp only at e3 e5 hb
  have:=Dx e5
  subst this
  subst e3
  exact ⟨hb,⟨e1,e2⟩,e5,k⟩
 ·rintro ⟨hb,⟨e1,e2⟩,e5,k⟩
  exact ⟨(.u,h),by rw [hb];simp only [Option.bind_some];rw [if_pos ⟨e1,e2,trivial,e5⟩],k⟩
theorem L8:Ba [] []=true:=Am rfl
theorem KD {a b:List V} {l m:List (List V)}:Ba (a::l) (b::m)=(Br a b&&Ba l m):=Am rfl
theorem Nt:Br [] []=true:=Am rfl
theorem L7 {a b:V} {l m:List V}:Br (a::l) (b::m)=(sameV a b&&Br l m):=Am rfl
theorem aP1:Z1 tp .e0 e h K=K .e0 h:=by unfold Z1;simp only [z1,Bl,Ae,AS]
def ZD (k:Option Bx) (el off n:Nat) (agg:Bool):Option V:=k.bind fun k=>(k.cs[el]?).bind fun r=>Hs r off n agg
def ZE (h:AH) (n:Nat) (agg:Bool):V→Option V | .p id el off=>ZD (h.get id) el off n agg | .fp _ xs j off=>ldF n agg xs j off | _=>none
theorem aQz {id el off n:Nat} {agg:Bool}:ZE h n agg (.p id el off)=ZD (h.get id) el off n agg:=Am rfl
theorem aE2 {s j off n:Nat} {xs:List (List V)} {agg:Bool}:ZE h n agg (.fp s xs j off)=(xs[j]?).bind fun r=>Hs r off n agg:=Am rfl
theorem XF {sz el off n:Nat} {cs:List (List V)} {agg:Bool}:ZD (some ⟨sz,cs⟩) el off n agg=(cs[el]?).bind fun r=>Hs r off n agg:=Am rfl
theorem VL {n:Nat} {agg:Bool} {x:X} {ev:X→V}:Bl tp (.load n agg x) ev h=(ZE h n agg (ev x)).map fun v=>(v,h):=by
 simp only [Bl,Ae]
 cases ev x<;>simp only [ZE,ZD]<;>try rfl
 rename_i id el off
 cases h.get id with
 | none=>rfl
 | some k=>
  simp only [Option.bind_some]
  cases k.cs[el]?<;>rfl
theorem SK {n:Nat} {ag:Bool} {x:X} {ev:X→V}:Bl tp (.fload n ag x) ev h=(ZE h n ag (ev x)).map fun v=>(v,h):=by
 simp only [Bl,Ae]
 cases ev x<;>simp only [ZE,ZD]<;>try rfl
 rename_i id el off
 cases h.get id with
 | none=>rfl
 | some k=>
  simp only [Option.bind_some]
  cases k.cs[el]?<;>rfl
theorem Ln {n:Nat} {agg:Bool} {x:X}:Z1 tp (.load n agg x) e h K=Wo (ZE h n agg (x.e2 e)) (fun v=>K v h):=by
 unfold Z1;simp only [z1,VL,Be]
theorem UT {n:Nat} {ag:Bool} {x:X}:Z1 tp (.fload n ag x) e h K=Wo (ZE h n ag (x.e2 e)) (fun v=>K v h):=by
 unfold Z1;simp only [z1,SK,Be]
def aDt (h:AH) (n:Nat) (ag:Bool):V→Option V | .p id el off=>ZD (h.get id) el off n ag | _=>none
theorem aDu {id el off n:Nat} {ag:Bool}:aDt h n ag (.p id el off)=ZD (h.get id) el off n ag:=Am rfl
theorem aCT {n:Nat} {ag:Bool} {x y:X}:Z1 tp (.chk n ag x y) e h K=Wo (aDt h n ag (x.e2 e)) (fun v=>Wo (if BR v (y.e2 e)=true then some V.u else none) (fun u=>K u h)):=by
 unfold Z1;simp only [z1,Bl,Ae,aDt,ZD]
 cases x.e2 e<;>simp only [AX]
 rw [Bs,Bs]
 refine ER fun k=>?_
 rw [Bs,Bs]
 refine ER fun r=>?_
 rw [Bs]
 refine ER fun v=>?_
 split<;>simp only [AX,AS]
theorem QF {l m:List V}:BR (.agg l) (.agg m)=Br l m:=Am rfl
theorem sameVa_sl {a b c d:Nat}:BR (.sl a b c d) (.sl a b c d)=true:=by simp [BR,sameV]
theorem Yz {a b c:Nat}:BR (.p a b c) (.p a b c)=true:=by simp [BR,sameV]
theorem TE:BR .ns .ns=true:=Am rfl
theorem Yx {x:Bool}:BR (.b x) (.b x)=true:=by simp [BR,sameV]
theorem Yy {k:IntKind} {n:Int}:BR (.i k n) (.i k n)=true:=by simp [BR,sameV]
theorem Yw {a b c d:Nat}:sameV (.sl a b c d) (.sl a b c d)=true:=by simp [sameV]
theorem jD {a b c:Nat}:sameV (.p a b c) (.p a b c)=true:=by simp [sameV]
theorem Yv:sameV .ns .ns=true:=Am rfl
theorem jB {x:Bool}:sameV (.b x) (.b x)=true:=by simp [sameV]
theorem jC {k:IntKind} {n:Int}:sameV (.i k n) (.i k n)=true:=by simp [sameV]
def MW (g:Option Bx) (l id el len cap:Nat):Option V:=if g.isSome=true∧l≤id∧0<cap then some (.sl id el len cap) else none
def XK (h:AH):V→Option V | .sl id el len cap=>MW (h.get id) h.lim id el len cap | _=>none
theorem XL {id el len cap:Nat}:XK h (.sl id el len cap)=MW (h.get id) h.lim id el len cap:=Am rfl
theorem XJ {k:Bx} {l id el len cap:Nat} (h1:l≤id) (h2:0<cap):MW (some k) l id el len cap=some (.sl id el len cap):=by simp [MW,h1,h2]
theorem bS {x:X}:Z1 tp (.mark x) e h K=Wo (XK h (x.e2 e)) (fun v=>K v h):=by
 unfold Z1;simp only [z1,Bl,Ae,XK,MW]
 cases x.e2 e<;>simp only [AX]
 split<;>simp only [AX,AS]
def Wst (tp:TP) (n:Nat) (p v:V) (h:AH) (K:AH→Prop) (t:Fz K:=.mk):Prop:=match p with
 | .p id el off=>(h.lim≤id∧0<n∧v.cells.length=n∧v.cells.all V.isCell=true)∧Wo (h.get id) (fun k=>Wo (k.cs[el]?) (fun r=>off+n≤r.length∧Wv (h.put id ⟨k.sz,k.cs.set el (over r off v.cells)⟩) K))
 | _=>False
def aCQ (tp:TP) (l n id el off:Nat) (v:V) (h:AH) (K:AH→Prop) (t:Fz K:=.mk):Prop:=(l≤id∧0<n∧v.cells.length=n∧v.cells.all V.isCell=true)∧Wo (h.get id) (fun k=>Wo (k.cs[el]?) (fun r=>off+n≤r.length∧Wv (h.put id ⟨k.sz,k.cs.set el (over r off v.cells)⟩) K))
theorem aP0 {n id el off:Nat} {v:V} {K:AH→Prop}:Wst tp n (.p id el off) v h K=aCQ tp h.lim n id el off v h K:=Am rfl
theorem bJ {l n id el off:Nat} {v:V} {K:AH→Prop} (hl:l≤id):aCQ tp l n id el off v h K=((0<n∧v.cells.length=n∧v.cells.all V.isCell=true)∧Wo (h.get id) (fun k=>Wo (k.cs[el]?) (fun r=>off+n≤r.length∧Wv (h.put id ⟨k.sz,k.cs.set el (over r off v.cells)⟩) K))):=by
 simp only [aCQ,hl,true_and]
theorem UU {n:Nat} {a x:X}:Z1 tp (.store n a x) e h K=Wst tp n (a.e2 e) (x.e2 e) h (K .u):=by
 unfold Z1;simp only [z1,Bl,Ae,Wst]
 cases a.e2 e<;>simp only [AX]
 rw [Cc,Bs]
 congr 1
 refine ER fun k=>?_
 rw [Bs]
 refine ER fun r=>?_
 rw [Cc,AS];rfl
def eI:Option T4→V→Option V | some ⟨_,none⟩,v=>some v | _,_=>none
theorem SJ {q:Nat} {v:V}:eI (some ⟨q,none⟩) v=some v:=Am rfl
def Ie (tp:TP):V→Option V | .p id el off=>some (.p id el off) | .fp s xs j o=>some (.fp s xs j o) | .ifc t v=>some (.ifc t v) | .f (.func g) a b=>some (.f (.func g) a b) | .f (.method m) (.ifc t v::r) b=>eI (tp.meth t m) (.f (.method m) (.ifc t v::r) b) | _=>none
theorem aE7 {a b c:Nat}:Ie tp (.p a b c)=some (.p a b c):=Am rfl
theorem hG {s j o:Nat} {xs:List (List V)}:Ie tp (.fp s xs j o)=some (.fp s xs j o):=Am rfl
theorem XQ {t:Nat} {v:V}:Ie tp (.ifc t v)=some (.ifc t v):=Am rfl
theorem aE5 {g:Nat} {a b:List V}:Ie tp (.f (.func g) a b)=some (.f (.func g) a b):=Am rfl
theorem aE6 {m:String} {t:Nat} {v:V} {r b:List V}:Ie tp (.f (.method m) (.ifc t v::r) b)=eI (tp.meth t m) (.f (.method m) (.ifc t v::r) b):=Am rfl
theorem hJ {m:String} {t:Nat} {v:V}:(if tp.dir t m=true then some (v,h) else none)=(eI (tp.meth t m) v).map fun v=>(v,h):=by
 unfold TP.dir
 cases tp.meth t m with
 | none=>rfl
 | some q=>obtain ⟨q,a⟩:=q;cases a<;>rfl
theorem aC3 {x:X}:Z1 tp (.nck x) e h K=Wo (Ie tp (x.e2 e)) (fun v=>K v h):=by
 unfold Z1;simp only [z1,Bl,Ae]
 generalize x.e2 e=v
 cases v with
 | f g a b=>
  cases g with
  | func g=>simp only [Ie,AS]
  | method m=>
   cases a with
   | nil=>simp only [Ie,AX]
   | cons w r=>cases w<;>first | (simp only [Ie,hJ,Be];done) | simp only [Ie,AX]
  | _=>simp only [Ie,AX]
 | _=>simp only [Ie,AS,AX]
theorem aCS {op:BinOp} {x y:X}:Z1 tp (.bin op x y) e h K=Wo (BE op (x.e2 e) (y.e2 e)) (fun v=>K v h):=by unfold Z1;simp only [z1,Bl,Ae,Be]
theorem IH {n:Bool} {k:EK} {x y:X} (hk:k≠.sl):Z1 tp (.eq n k x y) e h K=Wo (EX k (x.e2 e) (y.e2 e)) (fun r=>Wv (.b (if n then !r else r)) (fun v=>K v h)):=by
 unfold Z1;cases k<;>first | (exact absurd rfl hk) | (simp only [z1,Bl,Ae,Be];rfl)
theorem aCU {n:Bool} {x y:X}:Z1 tp (.eq n .b x y) e h K=Wo (EX .b (x.e2 e) (y.e2 e)) (fun r=>Wv (.b (if n then !r else r)) (fun v=>K v h)):=IH (by simp)
theorem US {n:Bool} {x y:X}:Z1 tp (.eq n .ptr x y) e h K=Wo (EX .ptr (x.e2 e) (y.e2 e)) (fun r=>Wv (.b (if n then !r else r)) (fun v=>K v h)):=IH (by simp)
theorem bO {n:Bool} {x y:X}:Z1 tp (.eq n .fn x y) e h K=Wo (EX .fn (x.e2 e) (y.e2 e)) (fun r=>Wv (.b (if n then !r else r)) (fun v=>K v h)):=IH (by simp)
theorem UR {n:Bool} {x y:X}:Z1 tp (.eq n .ifc x y) e h K=Wo (EX .ifc (x.e2 e) (y.e2 e)) (fun r=>Wv (.b (if n then !r else r)) (fun v=>K v h)):=IH (by simp)
theorem UQ {n:Bool} {ks:List CK} {x y:X}:Z1 tp (.eq n (.agg ks) x y) e h K=Wo (EX (.agg ks) (x.e2 e) (y.e2 e)) (fun r=>Wv (.b (if n then !r else r)) (fun v=>K v h)):=IH (by simp)
def Ml (neg:Bool) (v w:V) (h:AH) (K:V→AH→Prop) (t:Fz K:=.mk):Prop:=QQ neg v w h K
theorem bP {n:Bool} {x y:X}:Z1 tp (.eq n .sl x y) e h K=Ml n (x.e2 e) (y.e2 e) h K:=Am rfl
theorem bG {n:Bool} {s:Nat} {xs:List (List V)}:Ml n (.fl s xs) .ns h K=∀ t:Bool,(xs≠[]→t=false)→Wv (.b (if n then !t else t)) (fun v=>K v h):=Am rfl
theorem bH {n:Bool}:Ml n .ns .ns h K=Wv (.b (if n then false else true)) (fun v=>K v h):=by
 unfold Ml QQ;simp only [EX,AS,Bool.not_true];rfl
theorem bF {n:Bool}:Ml n .e0 .ns h K=Wv (.b (if n then true else false)) (fun v=>K v h):=by
 unfold Ml QQ;simp only [EX,AS,Bool.not_false];rfl
theorem bI {n:Bool} {a b c d:Nat}:Ml n (.sl a b c d) .ns h K=Wv (.b (if n then true else false)) (fun v=>K v h):=by
 unfold Ml QQ;simp only [EX,AS,Bool.not_false];rfl
theorem aP6 {op:UnOp} {x:X}:Z1 tp (.un op x) e h K=Wo (pC op (x.e2 e)) (fun v=>K v h):=by unfold Z1;simp only [z1,Bl,Ae,Be]
def VE (k:IntKind):V→Option V | .i _ n=>some (.i k (k.wrap n)) | _=>none
theorem eE {k j:IntKind} {n:Int}:VE k (.i j n)=some (.i k (k.wrap n)):=Am rfl
theorem bN {k:IntKind} {x:X}:Z1 tp (.conv k x) e h K=Wo (VE k (x.e2 e)) (fun v=>K v h):=by
 unfold Z1;simp only [z1,Bl,Ae,VE]
 cases x.e2 e<;>simp only [AS,AX]
def YH:V→Option V | .s x=>some (.s x) | _=>none
theorem jL {x:ByteArray}:YH (.s x)=some (.s x):=Am rfl
theorem cA {x:X}:Z1 tp (.strs x) e h K=Wo (YH (x.e2 e)) (fun v=>K v h):=by
 unfold Z1;simp only [z1,Bl,Ae,YH]
 cases x.e2 e<;>simp only [AS,AX]
def aET:V→Option V | .i _ n=>some (.s (Utf8.encode n)) | _=>none
theorem aEU {k:IntKind} {n:Int}:aET (.i k n)=some (.s (Utf8.encode n)):=Am rfl
theorem aCY {x:X}:Z1 tp (.i2s x) e h K=Wo (aET (x.e2 e)) (fun v=>K v h):=by
 unfold Z1;simp only [z1,Bl,Ae,aET]
 cases x.e2 e<;>simp only [AS,AX]
def asS:V→Option ByteArray | .s x=>some x | _=>none
theorem aP8 {x:ByteArray}:asS (.s x)=some x:=Am rfl
theorem Pe {x:X}:Z1 tp (.s2b x) e h K=Wo (asS (x.e2 e)) (fun b=>b.size<4294967296∧Wv (.sl h.next 0 b.size b.size) (fun v=>Wv (h.alloc ⟨1,BW b⟩) (fun h'=>K v h'))):=by
 unfold Z1;simp only [z1,Bl,Ae,asS]
 cases hx:x.e2 e<;>simp only [AS,AX]
 rw [Cc,AS];rfl
def Fy (sz:Nat) (h:AH) (v:V):Option (List (List V)):=En sz h v
theorem Yp {sz:Nat} {xs:List (List V)}:Fy sz h (.fl sz xs)=some xs:=by simp [Fy,En]
theorem Yq {sz:Nat}:Fy sz h .ns=some []:=Am rfl
theorem Yo {sz:Nat}:Fy sz h .e0=some []:=Am rfl
theorem iZ {x:ByteArray}:Fy 1 h (.s x)=some (BW x):=Am rfl
def K7 (g:Option Bx) (sz el len:Nat):Option (List (List V)):=match g with
 | some k=>if k.sz=sz∧el+len≤k.cs.length then some ((k.cs.drop el).take len) else none
 | none=>none
theorem No {sz id el len cap:Nat}:Fy sz h (.sl id el len cap)=K7 (h.get id) sz el len:=Am rfl
theorem QA {sz el len:Nat} {cs:List (List V)}:K7 (some ⟨sz,cs⟩) sz el len=if el+len≤cs.length then some ((cs.drop el).take len) else none:=by simp [K7]
theorem Yl {sz el len:Nat} {cs:List (List V)} (hl:el+len≤cs.length):K7 (some ⟨sz,cs⟩) sz el len=some ((cs.drop el).take len):=by simp [K7,hl]
def Mr (h:AH) (v:V):Option V:=match v with | .s _=>none | v=>(Fy 1 h v).bind fun l=>(bytesOf? l).map fun r=>.s ⟨r.toArray⟩
theorem dC {xs:List (List V)}:Mr h (.fl 1 xs)=(bytesOf? xs).map fun r=>.s ⟨r.toArray⟩:=by simp [Mr,Fy,En]
theorem dD:Mr h .ns=some (.s ⟨#[]⟩):=Am rfl
theorem dE {id el len cap:Nat}:Mr h (.sl id el len cap)=(K7 (h.get id) 1 el len).bind fun l=>(bytesOf? l).map fun r=>.s ⟨r.toArray⟩:=Am rfl
theorem Pb {x:X}:Z1 tp (.b2s x) e h K=Wo (Mr h (x.e2 e)) (fun v=>K v h):=by
 unfold Z1;simp only [z1,Bl,Ae,Mr,Fy,En]
 cases x.e2 e<;>simp only [AX]
 case fl s xs=>
  split
  ·rw [Be,Option.bind_some,Be]
  ·simp only [Option.bind_none,AX]
 all_goals (rw [Bs,Bs];refine ER fun a=>?_;rw [Be,Be])
theorem bU {t:Nat} {x:X}:Z1 tp (.mkif t x) e h K=Wv (.ifc t (x.e2 e)) (fun v=>K v h):=by unfold Z1;simp only [z1,Bl,Ae,AS,GE]
theorem bT {fn:Fn} {a c:List X}:Z1 tp (.mkfn fn a c) e h K=Wv (.f fn (a.map (X.e2 e)) (c.map (X.e2 e))) (fun v=>K v h):=by unfold Z1;simp only [z1,Bl,Ae,AS,GE]
def Wmk (z:List V) (n c:V) (h:AH) (K:V→AH→Prop) (t:Fz K:=.mk):Prop:=match n,c with
 | .i _ a,.i _ m=>(0≤a∧a≤m∧m<A4)∧Wv (.sl h.next 0 a.toNat m.toNat) (fun v=>Wv (h.alloc ⟨z.length,List.replicate m.toNat z⟩) (fun h'=>K v h'))
 | _,_=>False
theorem aPY {z:List V} {k j:IntKind} {a m:Int}:Wmk z (.i k a) (.i j m) h K=((0≤a∧a≤m∧m<4294967296)∧Wv (.sl h.next 0 a.toNat m.toNat) (fun v=>Wv (h.alloc ⟨z.length,List.replicate m.toNat z⟩) (fun h'=>K v h'))):=Am rfl
theorem bV {z:List V} {n c:X}:Z1 tp (.mksl z n c) e h K=(z.all plain1=true∧Wmk z (n.e2 e) (c.e2 e) h K):=by
 unfold Z1;simp only [z1,Bl,Ae,Cc]
 congr 1
 generalize n.e2 e=v
 generalize c.e2 e=w
 cases v<;>cases w<;>simp only [Wmk,AX,Cc,AS,GE]
def Wmz (z:List V) (x n:V) (h:AH) (K:V→AH→Prop) (t:Fz K:=.mk):Prop:=match x,n with
 | .ns,.i _ a=>(0<a∧a<A4)∧Wv (.sl h.next 0 a.toNat a.toNat) (fun v=>Wv (h.alloc ⟨z.length,List.replicate a.toNat z⟩) (fun h'=>K v h'))
 | _,_=>False
theorem aPZ {z:List V} {k:IntKind} {a:Int}:Wmz z .ns (.i k a) h K=((0<a∧a<4294967296)∧Wv (.sl h.next 0 a.toNat a.toNat) (fun v=>Wv (h.alloc ⟨z.length,List.replicate a.toNat z⟩) (fun h'=>K v h'))):=Am rfl
theorem bK {z:List V} {x n:X}:Z1 tp (.appz z x n) e h K=(z.all plain1=true∧Wmz z (x.e2 e) (n.e2 e) h K):=by
 unfold Z1;simp only [z1,Bl,Ae,Cc]
 congr 1
 generalize x.e2 e=v
 generalize n.e2 e=w
 cases v<;>cases w<;>simp only [Wmz,AX,Cc,AS,GE]
def G4 (g:Option Bx) (sz:Nat) (x:V) (lo hi mx:Option V):Option V:=match x with
    | .ns=>if mx.isNone||hi.isSome then (AJ mx 0 0).bind fun m=>(AJ hi 0 m).bind fun t=>(AJ lo 0 t).map fun _=>.ns else none
    | .e0=>if mx.isNone||hi.isSome then (AJ mx 0 0).bind fun m=>(AJ hi 0 m).bind fun t=>(AJ lo 0 t).map fun _=>.e0 else none
    | .sl id el len cap=>
     g.bind fun k=>
      if k.sz=sz∧(mx.isNone||hi.isSome)=true∧len≤cap then
       (AJ mx cap cap).bind fun m=>(AJ hi len m).bind fun t=>(AJ lo 0 t).map fun l=>.sl id (el+l) (t - l) (m - l)
      else none
    | .fl s xs=>if s=sz∧(mx.isNone||hi.isSome)=true then (AJ mx xs.length xs.length).bind fun m=>(AJ hi xs.length m).bind fun t=>(AJ lo 0 t).map fun l=>.fl s ((xs.drop l).take (t - l)) else none
    | _=>none
def Aq:V→Nat | .sl id _ _ _=>id | .p id _ _=>id | _=>0
def CF:V→Nat | .sl _ el _ _=>el | _=>0
theorem aEY {a b c d:Nat}:Aq (.sl a b c d)=a:=Am rfl
theorem aDy {a b c d:Nat}:CF (.sl a b c d)=b:=Am rfl
theorem aQt {a b c:Nat}:Aq (.p a b c)=a:=Am rfl
theorem jI {g:Option Bx} {s:Nat} {xs:List (List V)} {lo hi:Option V}:G4 g s (.fl s xs) lo hi none=(AJ hi xs.length xs.length).bind fun t=>(AJ lo 0 t).map fun l=>.fl s ((xs.drop l).take (t - l)):=by
 simp [G4,AJ]
theorem YC {g:Option Bx} {s:Nat} {xs:List (List V)} {lo:Option V} {hi mx:V}:G4 g s (.fl s xs) lo (some hi) (some mx)=(AJ (some mx) xs.length xs.length).bind fun m=>(AJ (some hi) xs.length m).bind fun t=>(AJ lo 0 t).map fun l=>.fl s ((xs.drop l).take (t - l)):=by
 simp [G4]
theorem SL {sz:Nat} {x:X} {lo hi mx:Option X} {ev:X→V}:Bl tp (.slice sz x lo hi mx) ev h=(G4 (h.get (Aq (ev x))) sz (ev x) (lo.map ev) (hi.map ev) (mx.map ev)).map fun v=>(v,h):=by
 have two:∀ (a b c:Option V) (p q r:Nat) (F:Nat→Nat→Nat→V),((AJ a p q).bind fun m=>(AJ b r m).bind fun t=>(AJ c 0 t).map fun l=>(F m t l,h))=((AJ a p q).bind fun m=>(AJ b r m).bind fun t=>(AJ c 0 t).map fun l=>F m t l).map (fun v=>(v,h)):=by
  intro a b c p q r F
  cases AJ a p q with
  | none=>rfl
  | some m=>
   simp only [Option.bind_some]
   cases AJ b r m with
   | none=>rfl
   | some t=>
    simp only [Option.bind_some]
    cases AJ c 0 t<;>rfl
 simp only [Bl,Ae]
 cases ev x<;>simp only [G4,Option.map_none,Option.isNone_map,Option.isSome_map,Aq]
 ·split
  ·exact two _ _ _ _ _ _ (fun _ _ _=>V.ns)
  ·rfl
 ·split
  ·exact two _ _ _ _ _ _ (fun _ _ _=>V.e0)
  ·rfl
 ·rename_i id el len cap
  cases h.get id with
  | none=>rfl
  | some k=>
   simp only [Option.bind_some]
   split
   ·exact two _ _ _ _ _ _ (fun m t l=>V.sl id (el+l) (t - l) (m - l))
   ·rfl
 ·rename_i s xs
  split
  ·exact two _ _ _ _ _ _ (fun m t l=>V.fl s ((xs.drop l).take (t - l)))
  ·rfl
theorem II {sz:Nat} {x:X} {lo hi mx:Option X}:Z1 tp (.slice sz x lo hi mx) e h K=Wo (G4 (h.get (Aq (x.e2 e))) sz (x.e2 e) (lo.map (X.e2 e)) (hi.map (X.e2 e)) (mx.map (X.e2 e))) (fun v=>K v h):=by
 unfold Z1;simp only [z1,SL,Be]
def aFz (x:V) (lo hi:Option V):Option V:=match x with
    | .s x=>(AJ hi x.size x.size).bind fun t=>(AJ lo 0 t).map fun l=>.s (x.extract l t)
    | _=>none
theorem aFA {x:ByteArray} {lo hi:Option V}:aFz (.s x) lo hi=(AJ hi x.size x.size).bind fun t=>(AJ lo 0 t).map fun l=>.s (x.extract l t):=Am rfl
theorem Sd {x:X} {lo hi:Option X}:Z1 tp (.sslice x lo hi) e h K=Wo (aFz (x.e2 e) (lo.map (X.e2 e)) (hi.map (X.e2 e))) (fun v=>K v h):=by
 unfold Z1;simp only [z1,Bl,Ae,aFz]
 cases x.e2 e<;>simp only [AX]
 rw [Bs,Bs]
 refine ER fun t=>?_
 rw [Be,Be]
def eM (off:Nat):V→Option V | .p id el o=>some (.p id el (o+off)) | .fp s xs j o=>some (.fp s xs j (o+off)) | _=>none
theorem aDC {off a b c:Nat}:eM off (.p a b c)=some (.p a b (c+off)):=Am rfl
theorem eO {off s j o:Nat} {xs:List (List V)}:eM off (.fp s xs j o)=some (.fp s xs j (o+off)):=Am rfl
theorem aCW {off:Nat} {x:X}:Z1 tp (.fad off x) e h K=Wo (eM off (x.e2 e)) (fun v=>K v h):=by
 unfold Z1;simp only [z1,Bl,Ae,eM]
 cases x.e2 e<;>simp only [AS,AX]
def aDE (off n:Nat) (agg:Bool):V→Option V | .agg r=>Hs r off n agg | _=>none
theorem VZ {off n:Nat} {agg:Bool} {r:List V}:aDE off n agg (.agg r)=Hs r off n agg:=Am rfl
theorem aCX {off n:Nat} {agg:Bool} {x:X}:Z1 tp (.fld off n agg x) e h K=Wo (aDE off n agg (x.e2 e)) (fun v=>K v h):=by
 unfold Z1;simp only [z1,Bl,Ae,aDE]
 cases x.e2 e<;>simp only [Be,AX]
def LL (g:Option Bx) (sz:Nat) (v i:V):Option V:=match v with
 | .sl id el len _=>match g with | some k=>if k.sz=sz then (BB i len).map fun j=>.p id (el+j) 0 else none | none=>none
 | .fl s xs=>if s=sz then (BB i xs.length).map fun j=>.fp s xs j 0 else none
 | _=>none
theorem gG {g:Option Bx} {s:Nat} {xs:List (List V)} {i:V}:LL g s (.fl s xs) i=(BB i xs.length).map fun j=>.fp s xs j 0:=by simp [LL]
theorem gH {sz id el len cap:Nat} {cs:List (List V)} {i:V}:LL (some ⟨sz,cs⟩) sz (.sl id el len cap) i=(BB i len).map fun j=>.p id (el+j) 0:=by simp [LL]
theorem aEX {sz:Nat} {v i:V}:gI (Mt h v) sz v i=LL (h.get (Aq v)) sz v i:=by
 cases v<;>try rfl
 rename_i id el len cap
 simp only [Mt,Aq]
 cases h.get id<;>rfl
theorem aCZ {sz:Nat} {x i:X}:Z1 tp (.iad sz x i) e h K=Wo (LL (h.get (Aq (x.e2 e))) sz (x.e2 e) (i.e2 e)) (fun v=>K v h):=by
 unfold Z1;simp only [z1,Bl,aEX,Be]
def RD (sz len:Nat):V→V→Option V
 | .p id el off,i=>(BB i len).map fun j=>.p id el (off+j*sz)
 | .fp s xs k off,i=>(BB i len).map fun j=>.fp s xs k (off+j*sz)
 | _,_=>none
theorem gJ {sz len id el off:Nat} {i:V}:RD sz len (.p id el off) i=(BB i len).map fun j=>.p id el (off+j*sz):=Am rfl
theorem Xr {sz len s k off:Nat} {xs:List (List V)} {i:V}:RD sz len (.fp s xs k off) i=(BB i len).map fun j=>.fp s xs k (off+j*sz):=Am rfl
theorem bQ {sz len:Nat} {x i:X}:Z1 tp (.iada sz len x i) e h K=Wo (RD sz len (x.e2 e) (i.e2 e)) (fun v=>K v h):=by
 unfold Z1;simp only [z1,Bl,Ae,RD]
 cases x.e2 e<;>simp only [AX,Be]
def aE0 (sz len:Nat) (agg:Bool):V→V→Option V
 | .agg r,i=>(BB i len).bind fun j=>Hs r (j*sz) sz agg
 | _,_=>none
theorem Xs {sz len:Nat} {agg:Bool} {r:List V} {i:V}:aE0 sz len agg (.agg r) i=(BB i len).bind fun j=>Hs r (j*sz) sz agg:=Am rfl
theorem aC0 {sz len:Nat} {agg:Bool} {x i:X}:Z1 tp (.idx sz len agg x i) e h K=Wo (aE0 sz len agg (x.e2 e) (i.e2 e)) (fun v=>K v h):=by
 unfold Z1;simp only [z1,Bl,Ae,aE0]
 cases x.e2 e<;>simp only [AX]
 rw [Bs,Bs]
 refine ER fun t=>?_
 rw [Be]
def YB:V→V→Option V
 | .s x,i=>(BB i x.size).map fun j=>.i .u8 ((x.data.toList.getD j 0).toNat:Int)
 | _,_=>none
theorem jF {x:ByteArray} {i:V}:YB (.s x) i=(BB i x.size).map fun j=>.i .u8 ((x.data.toList.getD j 0).toNat:Int):=Am rfl
theorem bX {x i:X}:Z1 tp (.sidx x i) e h K=Wo (YB (x.e2 e) (i.e2 e)) (fun v=>K v h):=by
 unfold Z1;simp only [z1,Bl,Ae,YB]
 cases x.e2 e<;>simp only [AX,Bs,Be]
def aDB:V→Nat→Option V | .tup l,i=>l[i]? | _,_=>none
theorem VW {l:List V} {i:Nat}:aDB (.tup l) i=l[i]?:=Am rfl
theorem aCV {x:X} {i:Nat}:Z1 tp (.ext x i) e h K=Wo (aDB (x.e2 e) i) (fun v=>K v h):=by
 unfold Z1;simp only [z1,Bl,Ae,aDB]
 cases x.e2 e<;>simp only [AX,Be]
theorem aCR {sz:Nat} {x y:X}:Z1 tp (.app sz x y) e h K=Wo (Fy sz h (y.e2 e)) (fun new=>Wo (IL sz h (x.e2 e) new) (fun z=>K z.1 z.2)):=by
 unfold Z1;simp only [z1,Bl,Bs];rfl
def MV:V→Option V | .ns=>some (.i .i64 0) | .e0=>some (.i .i64 0) | .sl _ _ n _=>some (.i .i64 n) | .fl _ xs=>some (.i .i64 xs.length) | _=>none
theorem gQ:MV .ns=some (.i .i64 0):=Am rfl
theorem gO:MV .e0=some (.i .i64 0):=Am rfl
theorem gR {a b c d:Nat}:MV (.sl a b c d)=some (.i .i64 c):=Am rfl
theorem gP {s:Nat} {xs:List (List V)}:MV (.fl s xs)=some (.i .i64 xs.length):=Am rfl
theorem aC2 {x:X}:Z1 tp (.len x) e h K=Wo (MV (x.e2 e)) (fun v=>K v h):=by
 unfold Z1;simp only [z1,Bl,Ae,MV]
 cases x.e2 e<;>simp only [AS,AX]
def YE:V→Option V | .s x=>some (.i .i64 x.size) | _=>none
theorem jJ {x:ByteArray}:YE (.s x)=some (.i .i64 x.size):=Am rfl
theorem bZ {x:X}:Z1 tp (.slen x) e h K=Wo (YE (x.e2 e)) (fun v=>K v h):=by
 unfold Z1;simp only [z1,Bl,Ae,YE]
 cases x.e2 e<;>simp only [AS,AX]
theorem bR {n:Nat}:Z1 tp (.lenc n) e h K=K (.i .i64 n) h:=by unfold Z1;simp only [z1,Bl,Ae,AS]
theorem aP3 {x:X} {l:List X}:Z1 tp (.mn (x::l)) e h K=Wo (D5 MZ (x.e2 e) (l.map (X.e2 e))) (fun v=>K v h):=by unfold Z1;simp only [z1,Bl,Ae,Be]
theorem aP5 {x:X} {l:List X}:Z1 tp (.mx (x::l)) e h K=Wo (D5 MY (x.e2 e) (l.map (X.e2 e))) (fun v=>K v h):=by unfold Z1;simp only [z1,Bl,Ae,Be]
def jN (t:Nat) (ok:Bool) (z:V):V→Option V
 | .ifc t' v=>if t'=t then some (if ok then .tup [v,.b true] else v) else if ok then some (.tup [z,.b false]) else none
 | .ni=>if ok then some (.tup [z,.b false]) else none
 | _=>none
theorem TJ {t:Nat} {z v:V}:jN t false z (.ifc t v)=some v:=by simp [jN]
theorem aC4 {t:Nat} {ok:Bool} {z:V} {x:X}:Z1 tp (.tas t ok z x) e h K=(plain z=true∧Wo (jN t ok z (x.e2 e)) (fun v=>K v h)):=by
 unfold Z1;simp only [z1,Bl,Ae,Cc,jN]
 congr 1
 cases x.e2 e<;>simp only [AX]<;>(repeat' split)<;>simp only [AX,AS]
def Q6:V→List V→Option (Nat×List V) | .f (.func g) first caps,l=>some (g,first++l++caps) | _,_=>none
theorem KN {g:Nat} {a c l:List V}:Q6 (.f (.func g) a c) l=some (g,a++l++c):=Am rfl
theorem Q2 {f:X} {l:List X}:Z1 tp (.call f l) e h K=Wo (Q6 (f.e2 e) (l.map (X.e2 e))) (fun c=>Cq tp c.1 c.2 h K):=by
 unfold Z1;simp only [z1,callee]
 generalize f.e2 e=v
 cases v with
 | f g a c=>cases g<;>rfl
 | _=>rfl
theorem aP2 {f:Nat} {l:List X}:Z1 tp (.call (.fn f) l) e h K=Cq tp f (l.map (X.e2 e)) h K:=by
 rw [Q2,oT,KN,AS];simp
def pA (tp:TP) (m:String) (l:List V):V→Option (Nat×List V)
 | .ifc t v=>(tp.meth t m).bind fun q=>match q.at_ with
  | none=>some (q.f,v::l)
  | some j=>match v with | .agg cs=>(cs[j]?).map fun r=>(q.f,r::l) | _=>none
 | _=>none
theorem Tf {m:String} {l:List V} {t:Nat} {v:V}:pA tp m l (.ifc t v)=(tp.meth t m).bind fun q=>match q.at_ with
    | none=>some (q.f,v::l)
    | some j=>match v with | .agg cs=>(cs[j]?).map fun r=>(q.f,r::l) | _=>none:=Am rfl
theorem aC1 {x:X} {m:String} {l:List X}:Z1 tp (.inv x m l) e h K=Wo (pA tp m (l.map (X.e2 e)) (x.e2 e)) (fun c=>Cq tp c.1 c.2 h K):=by
 unfold Z1;simp only [z1,callee]
 cases x.e2 e<;>rfl
/-! Quiet ones. -/
theorem AW {o:O} (hp:AQ o=true):DF tp o e h K=Z1 tp o e h K:=by unfold DF Z1 zq1;rw [if_pos hp]
theorem BI {o:O} (hp:AQ o=false):DF tp o e h K=Z1 tp o e h.raise (fun v h'=>K v (h'.back h.lim)):=by unfold DF Z1 zq1;rw [if_neg (by simp [hp])]
theorem S9 {n:Nat} {g:Bool} {v:V}:ZE h.raise n g v=ZE h n g v:=by cases v<;>rfl
theorem U4 {n:Nat} {g:Bool} {x:X}:DF tp (.load n g x) e h K=Z1 tp (.load n g x) e h K:=by
 rw [BI rfl,Ln,Ln,S9];rfl
theorem Si {sz:Nat} {x:X} {lo hi mx:Option X}:DF tp (.slice sz x lo hi mx) e h K=Z1 tp (.slice sz x lo hi mx) e h K:=by
 rw [BI rfl,II,II];rfl
theorem Se {z:List V}:DF tp (.alloc z) e h K=Z1 tp (.alloc z) e h K:=by
 rw [BI rfl,IG,IG];rfl
theorem cJ {x:X}:DF tp (.box x) e h K=Z1 tp (.box x) e h K:=by
 rw [BI rfl,Pc,Pc];rfl
theorem cF {z:List V}:DF tp (.alc z) e h K=Z1 tp (.alc z) e h K:=by
 rw [BI rfl,Pa,Pa];rfl
theorem UZ {sz n:Nat} {z:List V} {ps:List (Nat×X)}:DF tp (.bslc sz z n ps) e h K=Z1 tp (.bslc sz z n ps) e h K:=by
 rw [BI rfl,Lm,Lm];rfl
theorem cK {sz n:Nat} {z:List V} {ps:List (Nat×X)}:DF tp (.bsl sz z n ps) e h K=Z1 tp (.bsl sz z n ps) e h K:=by
 rw [BI rfl,Pd,Pd];rfl
theorem cH {x:X}:DF tp (.b2s x) e h K=Z1 tp (.b2s x) e h K:=by
 rw [BI rfl,Pb,Pb]
 have:Mr h.raise (x.e2 e)=Mr h (x.e2 e):=by cases x.e2 e<;>rfl
 rw [this];rfl
theorem cU {x:X}:DF tp (.s2b x) e h K=Z1 tp (.s2b x) e h K:=by
 rw [BI rfl,Pe,Pe];rfl
theorem UY {z:List V} {x y:X}:DF tp (.appz z x y) e h K=Z1 tp (.appz z x y) e h.raise (fun v h'=>K v (h'.back h.lim)):=BI rfl
theorem U8 {z:List V} {x y:X}:DF tp (.mksl z x y) e h K=Z1 tp (.mksl z x y) e h.raise (fun v h'=>K v (h'.back h.lim)):=BI rfl
theorem cG {sz:Nat} {x y:X}:DF tp (.app sz x y) e h K=Z1 tp (.app sz x y) e h.raise (fun v h'=>K v (h'.back h.lim)):=BI rfl
theorem Sj {n:Nat} {x y:X}:DF tp (.store n x y) e h K=Z1 tp (.store n x y) e h.raise (fun v h'=>K v (h'.back h.lim)):=BI rfl
theorem U5 {x:X}:DF tp (.mark x) e h K=Z1 tp (.mark x) e h.raise (fun v h'=>K v (h'.back h.lim)):=BI rfl
theorem U0 {f:X} {l:List X}:DF tp (.call f l) e h K=Z1 tp (.call f l) e h.raise (fun v h'=>K v (h'.back h.lim)):=BI rfl
theorem cR {x:X} {m:String} {l:List X}:DF tp (.inv x m l) e h K=Z1 tp (.inv x m l) e h.raise (fun v h'=>K v (h'.back h.lim)):=BI rfl
theorem aDe {x:X}:DF tp (.mv x) e h K=Z1 tp (.mv x) e h K:=AW rfl
theorem U9 {a b c:X}:DF tp (.pick a b c) e h K=Z1 tp (.pick a b c) e h K:=AW rfl
theorem Sf {z:List V} {ps:List (Nat×Nat×X)}:DF tp (.build z ps) e h K=Z1 tp (.build z ps) e h K:=AW rfl
theorem aDb  : DF tp (.e0 ) e h K=Z1 tp (.e0 ) e h K:=AW rfl
theorem cT {x:X}:DF tp (.nck x) e h K=Z1 tp (.nck x) e h K:=AW rfl
theorem cI {op:BinOp} {x y:X}:DF tp (.bin op x y) e h K=Z1 tp (.bin op x y) e h K:=AW rfl
theorem aDc {n:Bool} {k:EK} {x y:X}:DF tp (.eq n k x y) e h K=Z1 tp (.eq n k x y) e h K:=AW rfl
theorem aDg {op:UnOp} {x:X}:DF tp (.un op x) e h K=Z1 tp (.un op x) e h K:=AW rfl
theorem U1 {k:IntKind} {x:X}:DF tp (.conv k x) e h K=Z1 tp (.conv k x) e h K:=AW rfl
theorem Vc {x:X}:DF tp (.strs x) e h K=Z1 tp (.strs x) e h K:=AW rfl
theorem cO {x:X}:DF tp (.i2s x) e h K=Z1 tp (.i2s x) e h K:=AW rfl
theorem U7 {t:Nat} {x:X}:DF tp (.mkif t x) e h K=Z1 tp (.mkif t x) e h K:=AW rfl
theorem U6 {f:Fn} {a c:List X}:DF tp (.mkfn f a c) e h K=Z1 tp (.mkfn f a c) e h K:=AW rfl
theorem Pg {x:X} {lo hi:Option X}:DF tp (.sslice x lo hi) e h K=Z1 tp (.sslice x lo hi) e h K:=AW rfl
theorem cM {o:Nat} {x:X}:DF tp (.fad o x) e h K=Z1 tp (.fad o x) e h K:=AW rfl
theorem cN {o n:Nat} {g:Bool} {x:X}:DF tp (.fld o n g x) e h K=Z1 tp (.fld o n g x) e h K:=AW rfl
theorem cP {s:Nat} {x i:X}:DF tp (.iad s x i) e h K=Z1 tp (.iad s x i) e h K:=AW rfl
theorem U2 {s n:Nat} {x i:X}:DF tp (.iada s n x i) e h K=Z1 tp (.iada s n x i) e h K:=AW rfl
theorem cQ {s n:Nat} {g:Bool} {x i:X}:DF tp (.idx s n g x i) e h K=Z1 tp (.idx s n g x i) e h K:=AW rfl
theorem Va {x i:X}:DF tp (.sidx x i) e h K=Z1 tp (.sidx x i) e h K:=AW rfl
theorem cL {x:X} {i:Nat}:DF tp (.ext x i) e h K=Z1 tp (.ext x i) e h K:=AW rfl
theorem Sg {n:Nat} {ag:Bool} {x:X}:DF tp (.fload n ag x) e h K=Z1 tp (.fload n ag x) e h K:=AW rfl
theorem cS {x:X}:DF tp (.len x) e h K=Z1 tp (.len x) e h K:=AW rfl
theorem Vb {x:X}:DF tp (.slen x) e h K=Z1 tp (.slen x) e h K:=AW rfl
theorem U3 {n:Nat}:DF tp (.lenc n) e h K=Z1 tp (.lenc n) e h K:=AW rfl
theorem aDd {l:List X}:DF tp (.mn l) e h K=Z1 tp (.mn l) e h K:=AW rfl
theorem aDf {l:List X}:DF tp (.mx l) e h K=Z1 tp (.mx l) e h K:=AW rfl
theorem cV {t:Nat} {ok:Bool} {z:V} {x:X}:DF tp (.tas t ok z x) e h K=Z1 tp (.tas t ok z x) e h K:=AW rfl
end
/-! ### Values -/
theorem dG {k:IntKind} {a b:Int}:BE .add (.i k a) (.i k b)=some (.i k (k.wrap (a+b))):=by simp [BE,F1]
theorem dS {k:IntKind} {a b:Int}:BE .sub (.i k a) (.i k b)=some (.i k (k.wrap (a - b))):=by simp [BE,F1]
theorem dN {k:IntKind} {a b:Int}:BE .mul (.i k a) (.i k b)=some (.i k (k.wrap (a*b))):=by simp [BE,F1]
theorem dQ {k:IntKind} {a b:Int} (hb:¬ b=0):BE .quo (.i k a) (.i k b)=some (.i k (k.wrap (a.tdiv b))):=by simp [BE,F1,hb]
theorem dR {k:IntKind} {a b:Int} (hb:¬ b=0):BE .rem (.i k a) (.i k b)=some (.i k (a.tmod b)):=by simp [BE,F1,hb]
theorem dH {k:IntKind} {a b:Int}:BE .and (.i k a) (.i k b)=some (.i k (k.wrap (BitVec.ofInt k.bits a &&& BitVec.ofInt k.bits b).toNat)):=by simp [BE,F1]
theorem aDp {k:IntKind} {a b:Int}:BE .or (.i k a) (.i k b)=some (.i k (k.wrap (BitVec.ofInt k.bits a ||| BitVec.ofInt k.bits b).toNat)):=by simp [BE,F1]
theorem dI {k:IntKind} {a b:Int}:BE .eql (.i k a) (.i k b)=some (.b (decide (a=b))):=by simp [BE,F1]
theorem dP {k:IntKind} {a b:Int}:BE .neq (.i k a) (.i k b)=some (.b (decide (¬ a=b))):=by simp [BE,F1]
theorem dM {k:IntKind} {a b:Int}:BE .lss (.i k a) (.i k b)=some (.b (decide (a<b))):=by simp [BE,F1]
theorem dL {k:IntKind} {a b:Int}:BE .leq (.i k a) (.i k b)=some (.b (decide (a≤b))):=by simp [BE,F1]
theorem dK {k:IntKind} {a b:Int}:BE .gtr (.i k a) (.i k b)=some (.b (decide (b<a))):=by simp [BE,F1]
theorem dJ {k:IntKind} {a b:Int}:BE .geq (.i k a) (.i k b)=some (.b (decide (b≤a))):=by simp [BE,F1]
theorem aFO {x:Bool}:pC .not (.b x)=some (.b (!x)):=Am rfl
theorem aFN {k:IntKind} {n:Int}:pC .neg (.i k n)=some (.i k (k.wrap (0 - n))):=Am rfl
theorem aQB {k:IntKind} {x y:Int}:MZ (.i k x) (.i k y)=some (.i k (min x y)):=by
 simp only [MZ,if_true];congr 2
 omega
theorem aQA {k:IntKind} {x y:Int}:MY (.i k x) (.i k y)=some (.i k (max x y)):=by
 simp only [MY,if_true];congr 2
 omega
theorem V9 {f:V→V→Option V} {x:V}:D5 f x []=some x:=Am rfl
theorem SU {f:V→V→Option V} {x y:V} {l:List V}:D5 f x (y::l)=(f x y).bind fun z=>D5 f z l:=Am rfl
theorem aSr {p:Prop} [Decidable p]:(!decide p)=decide (¬ p):=by simp
theorem aSg {p q:Prop} [Decidable p] [Decidable q]:(decide p&&decide q)=decide (p∧q):=by simp
theorem aSt {p q:Prop} [Decidable p] [Decidable q]:(decide p||decide q)=decide (p∨q):=by simp
theorem aQu {k:IntKind} {j:Int} {n:Nat} (h0:0≤j) (h1:j<n):BB (.i k j) n=some j.toNat:=by simp [BB,h0,h1]
theorem Mu {d n:Nat}:AJ none d n=some d:=Am rfl
theorem Vn {k:IntKind} {j:Int} {d n:Nat} (h0:0≤j) (h1:j≤n):AJ (some (.i k j)) d n=some j.toNat:=by simp [AJ,h0,h1]
theorem St {l:List V}:V.cells (.agg l)=l:=Am rfl
theorem dY {k:IntKind} {n:Int}:V.cells (.i k n)=[.i k n]:=Am rfl
theorem dW {x:Bool}:V.cells (.b x)=[.b x]:=Am rfl
theorem eD {x:ByteArray}:V.cells (.s x)=[.s x]:=Am rfl
theorem Vy {a b c d:Nat}:V.cells (.sl a b c d)=[.sl a b c d]:=Am rfl
theorem Vx:V.cells .ns=[.ns]:=Am rfl
theorem dZ {a b c:Nat}:V.cells (.p a b c)=[.p a b c]:=Am rfl
theorem Vw:V.cells .np=[.np]:=Am rfl
theorem Xx {k:IntKind} {n:Int}:V.isCell (.i k n)=true:=Am rfl
theorem Xv {x:Bool}:V.isCell (.b x)=true:=Am rfl
theorem Xz {x:ByteArray}:V.isCell (.s x)=true:=Am rfl
theorem S8 {a b c d:Nat}:V.isCell (.sl a b c d)=true:=Am rfl
theorem S7:V.isCell .ns=true:=Am rfl
theorem Xy {a b c:Nat}:V.isCell (.p a b c)=true:=Am rfl
theorem S6:V.isCell .np=true:=Am rfl
theorem w64 {x:Int} (h0 : -9223372036854775808≤x) (h1:x<9223372036854775808):IntKind.wrap .i64 x=x:=by rw [IntKind.wrap_i64];omega
theorem Vs {a:Nat} {b:List (List V)}:V.cells (.fl a b)=[.fl a b]:=Am rfl
theorem Vt {a c d:Nat} {b:List (List V)}:V.cells (.fp a b c d)=[.fp a b c d]:=Am rfl
theorem Vr:V.cells .e0=[.e0]:=Am rfl
theorem Vu:V.cells .nf=[.nf]:=Am rfl
theorem Vv:V.cells .ni=[.ni]:=Am rfl
theorem dX {a:Fn} {b c:List V}:V.cells (.f a b c)=[.f a b c]:=Am rfl
theorem Su {a:Nat} {b:V}:V.cells (.ifc a b)=[.ifc a b]:=Am rfl
theorem S1 {a:Nat} {b:List (List V)}:V.isCell (.fl a b)=true:=Am rfl
theorem S3 {a c d:Nat} {b:List (List V)}:V.isCell (.fp a b c d)=true:=Am rfl
theorem S0:V.isCell .e0=true:=Am rfl
theorem S4:V.isCell .nf=true:=Am rfl
theorem S5:V.isCell .ni=true:=Am rfl
theorem Xw {a:Fn} {b c:List V}:V.isCell (.f a b c)=true:=Am rfl
theorem Qj {a:Nat} {b:V}:V.isCell (.ifc a b)=true:=Am rfl
theorem aQE {x:Bool}:pur (.b x)=true:=Am (by simp [pur])
theorem aQG {k:IntKind} {n:Int}:pur (.i k n)=true:=Am (by simp [pur])
theorem aQH {x:ByteArray}:pur (.s x)=true:=Am (by simp [pur])
theorem aFs {a:Nat} {b:List (List V)}:pur (.fl a b)=true:=Am (by simp [pur])
theorem aFw:pur .ns=true:=Am (by simp [pur])
theorem aFr:pur .e0=true:=Am (by simp [pur])
theorem aFv:pur .np=true:=Am (by simp [pur])
theorem aFu:pur .ni=true:=Am (by simp [pur])
theorem aFt:pur .nf=true:=Am (by simp [pur])
theorem aQI:pur .u=true:=Am (by simp [pur])
theorem iQ {l:List V}:pur (.agg l)=Fw l:=Am (by simp [pur])
theorem iS {l:List V}:pur (.tup l)=Fw l:=Am (by simp [pur])
theorem aQF {f:Fn} {a c:List V}:pur (.f f a c)=(Fw a&&Fw c):=Am (by simp [pur])
theorem iR {t:Nat} {v:V}:pur (.ifc t v)=pur v:=Am (by simp [pur])
theorem Yc:Fw []=true:=Am (by simp [Fw])
theorem Tu {v:V} {l:List V}:Fw (v::l)=(pur v&&Fw l):=Am (by simp [Fw])
theorem aSl {x y:Bool}:EX .b (.b x) (.b y)=some (decide (x=y)):=by cases x<;>cases y<;>rfl
theorem aDA {ks:List CK} {l m:List V}:EX (.agg ks) (.agg l) (.agg m)=F3 ks l m:=Am rfl
theorem eK:F3 [] [] []=some true:=Am rfl
theorem VQ {k:CK} {ks:List CK} {a c:V} {l m:List V}:F3 (k::ks) (a::l) (c::m)=(Px k a c).bind fun x=>(F3 ks l m).map fun y=>x&&y:=Am rfl
theorem aQj {k:IntKind} {a b:Int}:Px .i (.i k a) (.i k b)=some (decide (a=b)):=by simp [Px]
theorem aQi {x y:Bool}:Px .b (.b x) (.b y)=some (decide (x=y)):=by cases x<;>cases y<;>rfl
theorem aQk {x y:ByteArray}:Px .s (.s x) (.s y)=some (decide (x=y)):=Am rfl
theorem Vl {x y:ByteArray}:BE .eql (.s x) (.s y)=some (.b (decide (x=y))):=Am rfl
theorem Vm {x y:ByteArray}:BE .neq (.s x) (.s y)=some (.b (decide (¬ x=y))):=by simp [BE,Vj]
theorem Vk {x y:ByteArray} (h:x.size+y.size<4294967296):BE .add (.s x) (.s y)=some (.s (x++y)):=by simp [BE,Vj,A4,h]
/-! ### Results -/
section
variable {e:Env} {h:AH}
theorem cW {res:List RV} {Q:V→AH→Prop}:Hk res .nm e h Q=Wo (BC e h res) (fun v=>Q v h):=Am rfl
theorem cX {res:List RV} {Q:V→AH→Prop}:Hk res .rt e h Q=Wo (BC e h res) (fun v=>Q v h):=Am rfl
theorem iV:BC e h []=some (.tup []):=Am rfl
theorem iW {n:Nat}:BC e h [.t n]=some (e n):=Am rfl
theorem iX {n m:Nat}:BC e h [.t n,.t m]=some (.tup [e n,e m]):=Am rfl
theorem Ty {n m l:Nat}:BC e h [.t n,.t m,.t l]=some (.tup [e n,e m,e l]):=Am rfl
def HU (h:AH) (k:Nat) (g:Bool):V→Option V | .p id el off=>ZD (h.get id) el off k g | _=>none
theorem dV {k id el off:Nat} {g:Bool}:HU h k g (.p id el off)=ZD (h.get id) el off k g:=Am rfl
theorem HJ {n k:Nat} {g:Bool}:QE e h (.cell n k g)=HU h k g (e n):=Am rfl
theorem Yi {n k:Nat} {g:Bool}:BC e h [.cell n k g]=HU h k g (e n):=by
 simp only [BC,TV,HJ]
 cases HU h k g (e n)<;>rfl
theorem Tw {n k m:Nat} {g:Bool}:BC e h [.cell n k g,.t m]=(HU h k g (e n)).map fun v=>.tup [v,e m]:=by
 simp only [BC,TV,HJ]
 cases HU h k g (e n)<;>rfl
theorem Tx {n k m l:Nat} {g:Bool}:BC e h [.cell n k g,.t m,.t l]=(HU h k g (e n)).map fun v=>.tup [v,e m,e l]:=by
 simp only [BC,TV,HJ]
 cases HU h k g (e n)<;>rfl
end
/-! ### What stays -/
def Nz:V→Bool
 | .b _ | .i .. | .s _ | .np | .ns | .e0 | .nf | .ni | .u | .fl .. | .fp ..=>true
 | _=>false
theorem CD.of_stay {P:Nat→Prop} {h:AH} {n:Nat} {v:V} (hv:Nz v=true):CD P h n v v:=by
 cases v<;>first | (simp [Nz] at hv;done) | exact .fl _ _ _ | exact .fp _ _ _ _ _ | exact .z _ _ (by constructor)
theorem B0.of_stay {P:Nat→Prop} {h:AH} {n:Nat}:∀ {l:List V},l.all Nz=true→B0 P h n l l
 | [],_=>.nil _
 | v::l,hl=>by
  simp only [List.all_cons,Bool.and_eq_true] at hl
  exact .cons _ _ _ _ _ (CD.of_stay hl.1) (B0.of_stay hl.2)
theorem DI.of_map {P:Nat→Prop} {h:AH} {n:Nat} {α:Type} {enc:α→List V} (he:∀ a,(enc a).all Nz=true):∀ (L:List α),DI P h n (L.map enc) (L.map enc)
 | []=>.nil _
 | a::L=>.cons _ _ _ _ _ (B0.of_stay (he a)) (DI.of_map he L)
section
variable {P:Nat→Prop} {h:AH} {n:Nat}
theorem aF0 {k k':IntKind} {z z':Int}:CD P h n (.i k z) (.i k' z')=(k=k'∧z=z'):=propext ⟨fun f=>by cases f;exact ⟨rfl,rfl⟩,fun ⟨a,b⟩=>by subst a;subst b;exact .z _ _ (.i _ _)⟩
theorem aFZ {z z':Bool}:CD P h n (.b z) (.b z')=(z=z'):=propext ⟨fun f=>by cases f;exact rfl,fun a=>by subst a;exact .z _ _ (.b _)⟩
theorem aF1 {z z':ByteArray}:CD P h n (.s z) (.s z')=(z=z'):=propext ⟨fun f=>by cases f;exact rfl,fun a=>by subst a;exact .z _ _ (.s _)⟩
theorem pH {s s':Nat} {z z':List (List V)}:CD P h n (.fl s z) (.fl s' z')=(s=s'∧z=z'):=propext ⟨fun f=>by
 cases f with
 | z _ _ h0=>cases h0
 | fl=>exact ⟨rfl,rfl⟩,fun ⟨a,b⟩=>by subst a;subst b;exact .fl _ _ _⟩
theorem pJ {s:Nat} {z:List (List V)}:CD P h n .ns (.fl s z)=(z=[]):=propext ⟨fun f=>by cases f;exact rfl,fun a=>by subst a;exact .ns _ _⟩
theorem pG {s:Nat} {z:List (List V)}:CD P h n .e0 (.fl s z)=(z=[]):=propext ⟨fun f=>by cases f;exact rfl,fun a=>by subst a;exact .e0 _ _⟩
theorem pI:CD P h n .np .np=True:=by simp;exact .z _ _ .np
theorem ZN {l l':List V}:CD P h n (.tup l) (.tup l')=B0 P h n l l':=propext ⟨fun f=>by
 cases f with
 | z _ _ h0=>cases h0
 | tup _ _ _ h=>exact h,fun a=>.tup _ _ _ a⟩
theorem ZM {l l':List V}:CD P h n (.agg l) (.agg l')=B0 P h n l l':=propext ⟨fun f=>by
 cases f with
 | z _ _ h0=>cases h0
 | agg _ _ _ h=>exact h,fun a=>.agg _ _ _ a⟩
theorem TY:B0 P h n [] []=True:=by simp;exact .nil _
theorem R9 {v w:V} {l l':List V}:B0 P h n (v::l) (w::l')=(CD P h n v w∧B0 P h n l l'):=propext ⟨fun f=>by
 cases f with
 | cons _ _ _ _ _ a b=>exact ⟨a,b⟩,fun ⟨a,b⟩=>.cons _ _ _ _ _ a b⟩
end
/-! ### Slices of one's own -/
def nth {α:Type} [Inhabited α] (L:List α) (j:Nat):α:=L.getD j default
theorem E6 {α:Type} [Inhabited α] {L:List α} {j:Nat} (h:j<L.length):L[j]?=some (nth L j):=by simp [nth,List.getD,List.getElem?_eq_getElem h]
theorem BO {α:Type} [Inhabited α] {L:List α} {j:Nat} (h:j<L.length):nth L j=L[j]:=by simp [nth,List.getD,List.getElem?_eq_getElem h]
theorem hZ {α:Type} [Inhabited α] {β:Type} {f:α→β} {L:List α} {j:Nat} (h:j<L.length):(L.map f)[j]?=some (f (nth L j)):=by rw [List.getElem?_map,E6 h];rfl
theorem AP {α:Type} [Inhabited α] {L:List α} {j:Nat} (h:j<L.length):nth L j∈L:=by rw [BO h];exact List.getElem_mem h
theorem AK {α:Type} [Inhabited α] {L:List α} {i:Nat} (h:i<L.length):L.drop i=nth L i::L.drop (i+1):=by
 rw [BO h];exact List.drop_eq_getElem_cons h
structure Au (h h':AH):Prop where
 next:h.next≤h'.next
 lim:h'.lim=h.lim
 get:∀ i,i<h.next→h'.get i=h.get i
theorem Au.refl (h:AH):Au h h:=⟨Nat.le_refl _,rfl,fun _ _=>rfl⟩
theorem Au.trans {a b c:AH} (p:Au a b) (q:Au b c):Au a c:=⟨Nat.le_trans p.next q.next,q.lim.trans p.lim,fun i hi=>(q.get i (Nat.lt_of_lt_of_le hi p.next)).trans (p.get i hi)⟩
theorem Au.alloc {a b:AH} (p:Au a b) (k:Bx):Au a (b.alloc k):=⟨Nat.le_succ_of_le p.next,p.lim,fun i hi=>by
 rw [AO,Af (by have:=p.next;omega)];exact p.get i hi⟩
theorem Au.put {a b:AH} (p:Au a b) (i:Nat) (k:Bx) (hi:a.next≤i):Au a (b.put i k):=⟨p.next,p.lim,fun j hj=>by
 rw [Ad,Af (by omega)];exact p.get j hj⟩
theorem Au.kill {a b:AH} (p:Au a b) (i:Nat) (hi:a.next≤i):Au a (b.kill i):=⟨p.next,p.lim,fun j hj=>by
 rw [BL,Af (by omega)];exact p.get j hj⟩
def A3 (h:AH) (v:V):List (List V):=match h.get (Aq v) with | some k=>k.cs | none=>[]
def Sl (b:Nat) (h:AH) (sz:Nat) (v:V) (R:List (List V)):Prop:=((v=.ns∨v=.e0)∧R=[])∨∃ id el cap cs,v=.sl id el R.length cap∧h.get id=some ⟨sz,cs⟩∧el+cap≤cs.length∧(cs.drop el).take R.length=R∧R.length≤cap∧id<h.next∧b≤id∧R.length<4294967296
theorem Sl.nil (b:Nat) (h:AH) (sz:Nat):Sl b h sz .ns []:=.inl ⟨.inl rfl,rfl⟩
theorem Sl.nil' (b:Nat) (h:AH) (sz:Nat):Sl b h sz .e0 []:=.inl ⟨.inr rfl,rfl⟩
theorem Sl.same {b:Nat} {h h':AH} {sz:Nat} {v:V} {R:List (List V)} (s:Sl b h sz v R) (hn:h.next≤h'.next) (hg:Aq v<h.next→h'.get (Aq v)=h.get (Aq v)):Sl b h' sz v R:=by
 rcases s with ⟨hv,rfl⟩ | ⟨id,el,cap,k,rfl,a,c,d,f,hlt,hb,hl⟩
 ·exact .inl ⟨hv,rfl⟩
 ·exact .inr ⟨id,el,cap,k,rfl,(hg hlt).trans a,c,d,f,Nat.lt_of_lt_of_le hlt hn,hb,hl⟩
theorem Sl.ext {b:Nat} {h h':AH} {sz:Nat} {v:V} {R:List (List V)} (s:Sl b h sz v R) (p:Au h h'):Sl b h' sz v R:=s.same p.next (fun hl=>p.get _ hl)
theorem Sl.alloc {b:Nat} {h:AH} {sz:Nat} {v:V} {R:List (List V)} (s:Sl b h sz v R) (k:Bx):Sl b (h.alloc k) sz v R:=s.ext ((Au.refl h).alloc k)
theorem Sl.putx {b:Nat} {h:AH} {sz:Nat} {v:V} {R:List (List V)} (s:Sl b h sz v R) (i:Nat) (k:Bx) (hi:i≠Aq v):Sl b (h.put i k) sz v R:=s.same (Nat.le_refl _) (fun _=>by rw [Ad,Af (Ne.symm hi)])
theorem Sl.back {b:Nat} {h:AH} {sz l:Nat} {v:V} {R:List (List V)} (s:Sl b h sz v R):Sl b (h.back l) sz v R:=s
theorem Sl.raise {b:Nat} {h:AH} {sz:Nat} {v:V} {R:List (List V)} (s:Sl b h sz v R):Sl b h.raise sz v R:=s
structure SlF {α:Type} [Inhabited α] (enc:α→List V) (b:Nat) (h:AH) (sz:Nat) (v:V) (L:List α):Prop where
 len:MV v=some (.i .i64 (L.length:Int))
 big:L.length<4294967296
 lt:0<L.length→Aq v<h.next
 lo:0<L.length→b≤Aq v
 get:0<L.length→h.get (Aq v)=some ⟨sz,A3 h v⟩
 at_:∀ (k:IntKind) (j:Int) (cs:List (List V)),0≤j→j<L.length→LL (some ⟨sz,cs⟩) sz v (.i k j)=some (.p (Aq v) (CF v+j.toNat) 0)
 row:∀ (j:Nat),j<L.length→(A3 h v)[CF v+j]?=some (enc (nth L j))
 cell:v.isCell=true
 cells:v.cells=[v]
theorem Sl.facts {α:Type} [Inhabited α] {enc:α→List V} {b:Nat} {h:AH} {sz:Nat} {v:V} {L:List α} (s:Sl b h sz v (L.map enc)):SlF enc b h sz v L:=by
 rcases s with ⟨hv,hR⟩ | ⟨id,el,cap,cs,rfl,a,c,d,f,hlt,hb,hl⟩
 ·have hL:L=[]:=by simpa using hR
  subst hL
  rcases hv with rfl | rfl
  ·exact ⟨rfl,by simp,by simp,by simp,by simp,fun _ j _ h0 h1=>by simp at h1;omega,by simp,rfl,rfl⟩
  ·exact ⟨rfl,by simp,by simp,by simp,by simp,fun _ j _ h0 h1=>by simp at h1;omega,by simp,rfl,rfl⟩
 ·simp only [List.length_map] at *
  refine ⟨by simp [MV],hl,fun _=>hlt,fun _=>hb,fun _=>by simp [A3,Aq,a],fun k j cs h0 h1=>by simp [LL,BB,h0,h1,Aq,CF],fun j hj=>?_,rfl,rfl⟩
  simp only [A3,Aq,a,CF]
  have:((cs.drop el).take L.length)[j]?=(L.map enc)[j]?:=by rw [d]
  rw [List.getElem?_take_of_lt hj,List.getElem?_drop] at this
  rw [this,List.getElem?_map,E6 hj];rfl
theorem F5.len {α:Type} {enc:α→List V} {s:Nat} {L:List α} (r:F5 (.fl s (L.map enc))):L.length<4000000000:=by simpa using r.big
theorem Sl.froze {α:Type} {enc:α→List V} {b:Nat} {h:AH} {sz:Nat} {v:V} {L:List α} {P:Nat→Prop} {n:Nat} (s:Sl b h sz v (L.map enc)) (he:∀ a,(enc a).all Nz=true) (hP:P (Aq v)) (hL:L.length<4000000000):CD P h n v (.fl sz (L.map enc)):=by
 rcases s with ⟨hv,hR⟩ | ⟨id,el,cap,cs,rfl,a,c,d,f,hlt,hb,hl⟩
 ·rw [hR]
  rcases hv with rfl | rfl
  ·exact .ns _ _
  ·exact .e0 _ _
 ·refine .sl _ id el _ cap sz cs _ hP a (by omega) f (by simpa [Ht] using hL) ?_
  rw [d];exact DI.of_map he L
theorem Sl.froze' {b:Nat} {h:AH} {sz:Nat} {v:V} {R:List (List V)} {P:Nat→Prop} {n:Nat} (s:Sl b h sz v R) (hr:DI P h 0 R R) (hP:P (Aq v)) (hL:R.length<4000000000):CD P h n v (.fl sz R):=by
 rcases s with ⟨hv,rfl⟩ | ⟨id,el,cap,cs,rfl,a,c,d,f,hlt,hb,hl⟩
 ·rcases hv with rfl | rfl
  ·exact .ns _ _
  ·exact .e0 _ _
 ·refine .sl _ id el _ cap sz cs _ hP a (by omega) f (by simpa [Ht] using hL) ?_
  rw [d];exact hr
def AD:V→Bool | .ns | .e0=>true | _=>false
structure Grown (b:Nat) (h:AH) (x v:V) (h':AH):Prop where
 next:h.next≤h'.next
 lim:h'.lim=h.lim
 low:∀ i,i<b→h'.get i=h.get i
 get:∀ i,i<h.next→(AD x=true∨i≠Aq x)→h'.get i=h.get i
 own:AD v=true∨(AD x=false∧Aq v=Aq x)∨h.next≤Aq v
 cell:v.isCell=true
 cells:v.cells=[v]
theorem Na:∀ (r:List (List V)) (i:Nat) (n:List (List V)),i+n.length≤r.length→D8 r i n=r.take i++n++r.drop (i+n.length)
 | r,i,[],_=>by simp [D8]
 | r,i,c::cs,h=>by
  simp only [List.length_cons] at h
  rw [D8,Na (r.set i c) (i+1) cs (by simp;omega)]
  have hi:i<r.length:=by omega
  rw [List.drop_set_of_lt (by omega)]
  have ht:(r.set i c).take (i+1)=r.take i++[c]:=by
   rw [List.take_add_one]
   simp [hi,List.take_set_of_le]
  rw [ht]
  simp only [List.append_assoc,List.singleton_append,List.length_cons]
  congr 3;omega
theorem Az {b sz : Nat} {h : AH} {x : V} {R N : List (List V)} {K : V × AH → Prop} (sx : Sl b h sz x R) (hl : h.lim ≤ b) (hb : b ≤ h.next) (hlen : R.length + N.length < 4294967296)
    (k:∀ v h',Sl b h' sz v (R++N)→Grown b h x v h'→K (v,h')):Wo (IL sz h x N) K:=by
 rcases sx with ⟨hx,rfl⟩ | ⟨id,el,cap,cs,rfl,hg,hle,hrow,hcap,hlt,hbi,hbig⟩
 ·have one:∀ nn:V,(nn=.ns∨nn=.e0)→Wo (if N=[] then some (nn,h) else if N.length<A4 then some (.sl h.next 0 N.length N.length,h.alloc ⟨sz,N⟩) else none) (fun z=>(nn=.ns∨nn=.e0)→x=nn→K z):=by
   intro nn hnn
   split
   ·rename_i hN
    subst hN
    exact ⟨_,rfl,fun h1 h2=>by subst h2;exact k _ _ (.inl ⟨h1,rfl⟩) ⟨Nat.le_refl _,rfl,fun _ _=>rfl,fun _ _ _=>rfl,.inl (by rcases h1 with rfl | rfl<;>rfl),by rcases h1 with rfl | rfl<;>rfl,by rcases h1 with rfl | rfl<;>rfl⟩⟩
   ·rename_i hN
    rw [if_pos (by simp only [A4];simpa using hlen)]
    refine ⟨_,rfl,fun h1 h2=>k _ _ (.inr ⟨h.next,0,N.length,N, ?_, ?_, ?_, ?_, ?_, ?_,hb, ?_⟩) ⟨?_,rfl, ?_, ?_,.inr (.inr (Nat.le_refl _)),rfl,rfl⟩⟩
    ·simp
    ·simp [AH.alloc]
    ·simp
    ·simp
    ·simp
    ·simp [AH.alloc]
    ·simpa using hlen
    ·simp [AH.alloc]
    ·intro i hi;rw [AO,Af (by omega)]
    ·intro i hi _;rw [AO,Af (by omega)]
  rcases hx with rfl | rfl
  ·obtain ⟨z,hz,q⟩:=one .ns (.inl rfl)
   exact ⟨z,hz,q (.inl rfl) rfl⟩
  ·obtain ⟨z,hz,q⟩:=one .e0 (.inr rfl)
   exact ⟨z,hz,q (.inr rfl) rfl⟩
 ·unfold IL
  simp only [hg]
  rw [if_pos ⟨trivial,by omega,by omega,by simp only [A4];exact hlen⟩]
  by_cases hc:R.length+N.length≤cap
  ·rw [if_pos hc,if_pos (by omega)]
   have hov:=Na cs (el+R.length) N (by omega)
   refine ⟨_,rfl,k _ _ (.inr ⟨id,el,cap,D8 cs (el+R.length) N, ?_, ?_, ?_, ?_, ?_,hlt,hbi, ?_⟩) ⟨Nat.le_refl _,rfl, ?_, ?_,.inr (.inl ⟨rfl,rfl⟩),rfl,rfl⟩⟩
   ·simp
   ·rw [Ad,Aw rfl]
   ·rw [hov];simp;omega
   ·rw [hov]
    have e1:(cs.take (el+R.length)).drop el=R:=by rw [List.drop_take,Nat.add_sub_cancel_left];exact hrow
    simp only [List.append_assoc]
    rw [List.drop_append_of_le_length (by simp;omega),e1,←List.append_assoc,List.length_append,←List.length_append,List.take_left]
   ·simpa using hc
   ·simpa using hlen
   ·intro i hi;rw [Ad,Af (by omega)]
   ·intro i hi hne
    rw [Ad,Af (by rcases hne with hne | hne;cases hne;exact hne)]
  ·rw [if_neg hc]
   refine ⟨_,rfl,k _ _ (.inr ⟨h.next,0,R.length+N.length,(cs.drop el).take R.length++N, ?_, ?_, ?_, ?_, ?_, ?_,hb, ?_⟩) ⟨?_,rfl, ?_, ?_,.inr (.inr (Nat.le_refl _)),rfl,rfl⟩⟩
   ·simp
   ·rw [AO,DQ,Aw rfl]
   ·rw [hrow];simp
   ·rw [hrow,List.drop_zero,List.take_length]
   ·simp
   ·simp [AH.alloc,AH.kill]
   ·simpa using hlen
   ·simp [AH.alloc,AH.kill]
   ·intro i hi;rw [AO,DQ,Af (by omega),BL,Af (by omega)]
   ·intro i hi hne
    rw [AO,DQ,Af (by omega),BL,Af (by rcases hne with hne | hne;cases hne;exact hne)]
theorem Sl.rows {b:Nat} {h:AH} {sz:Nat} {v:V} {R:List (List V)} (s:Sl b h sz v R):Fy sz h v=some R:=by
 rcases s with ⟨hv,rfl⟩ | ⟨id,el,cap,k,rfl,hg,hc,hrow,hcap,_⟩
 ·rcases hv with rfl | rfl<;>rfl
 ·rw [No,hg,Yl (by omega),hrow]
theorem Sl.of_get {b sz:Nat} {h h':AH} {v:V} {R:List (List V)} {j:Nat} {r:List V} (s:Sl b h sz v R) (hj:j<R.length) (hn:h.next≤h'.next) (hg:h'.get (Aq v)=some ⟨sz,(A3 h v).set (CF v+j) r⟩):Sl b h' sz v (R.set j r):=by
 rcases s with ⟨hv,rfl⟩ | ⟨id,el,cap,cs,rfl,hg0,hc,hrow,hcap,hlt',hbi,hbig⟩
 ·simp at hj
 ·refine .inr ⟨id,el,cap,cs.set (el+j) r,by simp, ?_,by simpa using hc, ?_,by simpa using hcap,Nat.lt_of_lt_of_le hlt' hn,hbi,by simpa using hbig⟩
  ·simpa [Aq,CF,A3,hg0] using hg
  ·simp only [List.length_set]
   rw [List.drop_set,if_neg (by omega),Nat.add_sub_cancel_left,List.take_set,hrow]
theorem Sl.setT {α:Type} {enc:α→List V} {b sz:Nat} {h h':AH} {v:V} {L:List α} {j:Nat} {x:α} (s:Sl b h sz v (L.map enc)) (hj:j<L.length) (hn:h.next≤h'.next) (hg:h'.get (Aq v)=some ⟨sz,(A3 h v).set (CF v+j) (enc x)⟩):Sl b h' sz v ((L.set j x).map enc):=by
 have:=Sl.of_get (r:=enc x) s (j:=j) (by simpa using hj) hn hg
 simpa [List.map_set] using this
theorem Sl.rowlt {b sz:Nat} {h:AH} {v:V} {R:List (List V)} {j:Nat} (s:Sl b h sz v R) (hj:j<R.length):CF v+j<(A3 h v).length:=by
 rcases s with ⟨hv,rfl⟩ | ⟨id,el,cap,cs,rfl,hg,hc,hrow,hcap,hlt',_⟩
 ·simp at hj
 ·simp only [CF,A3,Aq,hg];omega
theorem LG {α:Type} {l:List α} {i:Nat} {a:α} (h:i<l.length):(l.set i a)[i]?=some a:=by simp [h]
def B9 (v:V) (n:Nat):V:=match v with | .sl id el _ cap=>.sl id el n cap | v=>v
theorem Hv {v:V} {n:Nat}:Aq (B9 v n)=Aq v:=by cases v<;>rfl
theorem SM {v:V} {n:Nat}:CF (B9 v n)=CF v:=by cases v<;>rfl
theorem LM {v:V} {n:Nat}:(B9 v n).isCell=v.isCell:=by cases v<;>rfl
theorem Fp {v:V} {n:Nat} (h:v.cells=[v]):(B9 v n).cells=[B9 v n]:=by cases v<;>first | rfl | (simp [B9];exact h)
theorem Pv {h:AH} {v:V} {n:Nat}:A3 h (B9 v n)=A3 h v:=by cases v<;>rfl
theorem Sl.pre {b:Nat} {h:AH} {sz:Nat} {v:V} {R:List (List V)} (s:Sl b h sz v R) {k:IntKind} {j:Int} {cs:List (List V)} (h0:0≤j) (h1:j≤R.length):G4 (some ⟨sz,cs⟩) sz v none (some (.i k j)) none=some (B9 v j.toNat):=by
 rcases s with ⟨hv,rfl⟩ | ⟨id,el,cap,b,rfl,a,_,_,hc,_⟩
 ·simp at h1
  obtain rfl:j=0:=by omega
  rcases hv with rfl | rfl<;>simp [G4,AJ,B9]
 ·have h2:j≤cap:=by omega
  simp [G4,AJ,B9,h0,h2,hc]
theorem Sl.truncd {b:Nat} {h:AH} {sz:Nat} {v:V} {R:List (List V)} (s:Sl b h sz v R) {n:Nat} (hn:n≤R.length):Sl b h sz (B9 v n) (R.take n):=by
 rcases s with ⟨hv,rfl⟩ | ⟨id,el,cap,b,rfl,a,c,d,hc,hlt,hbi,hb⟩
 ·exact .inl ⟨by rcases hv with rfl | rfl<;>simp [B9],by simp⟩
 ·refine .inr ⟨id,el,cap,b, ?_,a,c, ?_, ?_,hlt,hbi, ?_⟩
  ·simp [B9];omega
  ·have:(R.take n).length=n:=by simp;omega
   rw [this];conv=>rhs;rw [← d]
   rw [List.take_take];congr 1;omega
  ·simp;omega
  ·simp;omega
theorem Hn {b sz : Nat} {h : AH} {v : V} {R : List (List V)} {k1 k2 : IntKind} {K : V → Prop} (s : Sl b h sz v R)
    (k:∀ v',Sl b h sz v' R→Aq v'=Aq v→K v'):Wo (G4 (h.get (Aq v)) sz v none (some (.i k1 R.length)) (some (.i k2 R.length))) K:=by
 rcases s with ⟨hv,rfl⟩ | ⟨id,el,cap,cs,rfl,hg,hc,hrow,hcap,hlt',hbi,hbig⟩
 ·rcases hv with rfl | rfl
  ·exact ⟨_,rfl,k _ (.inl ⟨.inl rfl,rfl⟩) rfl⟩
  ·exact ⟨_,rfl,k _ (.inl ⟨.inr rfl,rfl⟩) rfl⟩
 ·simp only [G4,Aq,hg,Option.bind_some,Option.isSome_some,Bool.or_true]
  rw [if_pos ⟨trivial,trivial,hcap⟩]
  rw [Vn (by omega) (by omega)]
  simp only [Option.bind_some,Int.toNat_natCast]
  rw [Vn (by omega) (by omega)]
  simp only [Option.bind_some,Int.toNat_natCast,Mu,Option.map_some]
  refine ⟨_,rfl,k _ (.inr ⟨id,el,R.length,cs, ?_,hg,by omega,hrow,Nat.le_refl _,hlt',hbi,hbig⟩) rfl⟩
  simp
theorem LZ {h:AH} {i:Nat} {a b:Bx}:(h.put i a).put i b=h.put i b:=by
 unfold AH.put
 congr 1
 funext j
 simp only
 split<;>rfl
theorem VN:AH.emp.next=0:=Am rfl
theorem Io:AH.emp.lim=0:=Am rfl
theorem eJ {i:Nat}:AH.emp.get i=none:=Am rfl
theorem VO {l:List V} {j:Nat}:EC l j=(l[j]?).getD .u:=by simp [EC]
theorem X0 {r:List V} {i:Nat}:over r i []=r:=Am rfl
theorem Tl {r:List V} {i:Nat} {c:V} {cs:List V}:over r i (c::cs)=over (r.set i c) (i+1) cs:=Am rfl
theorem SQ {r:List V}:ED r []=some r:=Am rfl
theorem PE {r:List V} {off n:Nat} {v:V} {ps:List (Nat×Nat×V)}:ED r ((off,n,v)::ps)=if v.cells.length=n∧off+n≤r.length∧v.cells.all V.isCell=true then ED (over r off v.cells) ps else none:=Am rfl
theorem SO {sz:Nat} {r:List (List V)}:B3 sz r []=some r:=Am rfl
theorem PD {sz j:Nat} {r:List (List V)} {v:V} {ps:List (Nat×V)}:B3 sz r ((j,v)::ps)=if v.cells.length=sz∧j<r.length∧v.cells.all V.isCell=true then B3 sz (r.set j v.cells) ps else none:=Am rfl
theorem AG {tp:TP} {f:Nat} {args:List V} {R:V} {tf:TF} (hf:tp.fn f=some tf) (hl:args.length≤tf.n) (z:F0 args→ZC tp tf.body (EC args) AH.emp (fun x e h=>Hk tf.res x e h (fun r h'=>CD (fun _=>True) h' 0 r R))):Pf tp f args R:=aF3 hf hl z
theorem Ac {tp:TP} {f:Nat} {args:List V} {h:AH} {K:V→AH→Prop} {tf:TF} (hf:tp.fn f=some tf) (hl:args.length≤tf.n) (z:Wf h→F0 args→ZC tp tf.body (EC args) h (fun x e h2=>Hk tf.res x e h2 K)):Cq tp f args h K:=pF hf hl z
structure Fi (h:AH) (id:Nat) (k:Bx) (h':AH):Prop where
 next:h.next≤h'.next
 lim:h'.lim=h.lim
 here:h'.get id=some k
 get:∀ i,i<h.next→i≠id→h'.get i=h.get i
theorem Cp.ext {h h3:AH} {r R:V} (wf:Wf h) (x:Au h h3) (fr:CD (h.next≤·) h3 h.next r R):Cp h h3 r (h.next≤·) R h:=
 ⟨Nat.le_refl _,rfl,x.next,fun i k hk=>⟨(wf.2 i k hk).1,Nat.not_le_of_lt (wf.2 i k hk).1,k.cs,by rw [x.get i (wf.2 i k hk).1];exact hk,(wf.2 i k hk).2 _ _⟩,fr⟩
theorem Cp.upd {h h3:AH} {r R:V} {id:Nat} {b:Bx} (wf:Wf h) (u:Fi h id b h3) (hid:id<h.next) (fb:DI (h.next≤·) h3 h.next b.cs b.cs) (fr:CD (h.next≤·) h3 h.next r R):Cp h h3 r (h.next≤·) R (h.put id b):=by
 refine ⟨Nat.le_refl _,rfl,u.next,fun i k hk=>?_,fr⟩
 by_cases e:i=id
 ·subst e
  have:k=b:=by simpa [AH.put] using hk.symm
  subst this
  exact ⟨hid,Nat.not_le_of_lt hid,k.cs,u.here,fb⟩
 ·have hk2:h.get i=some k:=by simpa [AH.put,e] using hk
  exact ⟨(wf.2 i k hk2).1,Nat.not_le_of_lt (wf.2 i k hk2).1,k.cs,by rw [u.get i (wf.2 i k hk2).1 e];exact hk2,(wf.2 i k hk2).2 _ _⟩
theorem Q1 {e:Env} {h h2:AH} (P:Nat→Prop) (live:List Nat) (w:Nat→V) (z:Wf h→h2.next=h.next∧h2.lim=h.lim∧(∀ i k,h2.get i=some k→i<h2.next∧¬ P i∧∃ cs,h.get i=some ⟨k.sz,cs⟩∧DI P h h2.next cs k.cs)∧∀ t,t∈live→CD P h h2.next (e t) (w t)):Stp e h (fun t=>if t∈live then w t else .u) h2:=by
 intro S m hc e1 c p
 obtain ⟨hn,hl,hb,hv⟩:=z c.wf
 have st:∀ r R,CD P h h2.next r R→Cp h h r P R h2:=fun r R f=>⟨Nat.le_of_eq hn.symm,hl,Nat.le_of_eq hn,hb,f⟩
 obtain ⟨q1,q2,_⟩:=(st .u .u (.z _ _ .u)).ok c c (EM.refl c) (.u _ .u)
 refine ⟨_,q1,q2,fun t=>?_⟩
 by_cases ht:t∈live
 ·simp only [if_pos ht]
  exact ((st _ _ (hv t ht)).ok c c (EM.refl c) (p t)).2.2
 ·simp only [if_neg ht]
  exact .u _ _
theorem aC5 {tp : TP} {c : TC} {K : Ex → Env → AH → Prop} {e : Env} {h : AH} (live : List Nat) (bx id sz : Nat) (row row' : List V) (hne : bx ≠ id) (hbx : h.get bx = some ⟨sz, [row]⟩) (hr : DI (· = id) h h.next [row] [row'])
    (hv:∀ t,t∈live→CD (·=id) h h.next (e t) (e t)) (z:∀ e2,(∀ t,t∈live→e2 t=e t)→ZC tp (.loop c) e2 ((h.kill id).put bx ⟨sz,[row']⟩) K):ZC tp (.loop c) e h K:=by
 refine Q3 (Q1 (h2:=(h.kill id).put bx ⟨sz,[row']⟩) (·=id) live e (fun wf=>⟨rfl,rfl,fun i k hk=>?_,hv⟩)) (z _ (fun t ht=>if_pos ht))
 rw [Ad] at hk
 by_cases hi:i=bx
 ·rw [Aw hi] at hk
  subst hi
  cases hk
  exact ⟨(wf.2 _ _ hbx).1,hne,_,hbx,hr⟩
 ·rw [Af hi,BL] at hk
  by_cases hd:i=id
  ·rw [Aw hd] at hk;cases hk
  ·rw [Af hd] at hk
   exact ⟨(wf.2 i k hk).1,hd,k.cs,hk,(wf.2 i k hk).2 _ _⟩
theorem Ik {tp:TP} {f:Nat} {args:List V} {h:AH} {K:V→AH→Prop} {R:V} {tf:TF} (hf:tp.fn f=some tf) (hl:args.length≤tf.n) (k:K R h) (z:h.lim≤h.next→F0 args→ZC tp tf.body (EC args) h (fun x e h2=>Hk tf.res x e h2 (fun r h3=>CD (h.next≤·) h3 h.next r R∧Au h h3))):Cq tp f args h K:=
 nO hf hl fun wf rp=>Es (fun x e h2 q=>by
  cases x with
  | ex _=>exact q
  | nm=>obtain ⟨v,hv,fr,x⟩:=q;exact ⟨v,hv,_,_,_,Cp.ext wf x fr,k⟩
  | rt=>obtain ⟨v,hv,fr,x⟩:=q;exact ⟨v,hv,_,_,_,Cp.ext wf x fr,k⟩) (z wf.1 rp)
attribute [go_sem ↓] cE aC8 cD aC7 cC cB UV aC9 UW UX aDa aDk aDj Vd aDh aDi aSf bB UN bD aPX aPW aPV aPU aFc aFd aFb Bs Be
attribute [go_sem] aDr aDs aDq AX AS GE
attribute [go_sem ↓] aP4 bW IG Pc UP Pd Lm bM Pa bL aP1 Ln UT aCT bS UU aC3 aCS aCU US bO UR UQ bP bG bH bF bI aP6 bN cA aCY Pe Pb bU bT bV bK II Sd aCW aCX aCZ bQ aC0 bX aCV aCR aC2 bZ bR aP3 aP5 aC4 aP2
attribute [go_sem] Q2 aC1
attribute [go_sem ↓] Se cG cH cI cJ cK UZ cF Sf U0 U1 aDb aDc cL cM cN Sg cO cP U2 cQ cR cS U3 U4 U5 U6 U7 U8 UY aDd aDe aDf cT U9 cU Va Vb Si Pg Sj Vc cV aDg
attribute [go_sem ↓] Env.set_get
attribute [go_sem] Env.set_none aSj aQc aQb aQd aQg aQh aQe aQf aDx oT X5 X4 X6 Tp Tq Tn To
attribute [go_sem] Aw Af AO Ad BL SV Wc Ag Ai DQ Jr Tj A9 DK XI K1 XH VN Io eJ
attribute [go_sem ↓] HI Gq
attribute [go_sem] bC aCO L8 KD Nt L7
attribute [go_sem] aP7 aP8 aQz aE2 XF aDu QF sameVa_sl Yz TE Yx Yy Yw jD Yv jB jC XL XJ aP0 bJ aE7 hG XQ aE5 aE6 SJ eE jL aEU Yp Yq Yo iZ No QA dC dD dE aPY aPZ jI YC aFA aDC eO VZ gG gH gJ Xr Xs jF VW gQ gO gR gP jJ TJ KN Tf aEY aDy aQt
attribute [go_sem] dG dS dN dQ dR dH aDp dI dP dM dL dK dJ Vl Vm aFO aFN aQB aQA V9 SU aSr aSg aSt aQu Mu Vn St dY dW eD Vy Vx dZ Vw Vs Vt Vr Vu Vv dX Su Xx Xv Xz S8 S7 Xy S6 S1 S3 S0 S4 S5 Xw Qj w64 Hs cW cX iV iW iX Ty dV Yi Tw Tx
attribute [go_sem] aSl aDA eK VQ aQj aQi aQk
attribute [go_sem] List.length_cons List.length_nil List.getElem?_cons_zero List.getElem?_cons_succ List.getElem?_nil List.drop_zero List.drop_succ_cons List.drop_nil List.take_succ_cons List.take_zero List.take_nil List.map_cons List.map_nil List.all_cons List.all_nil List.set_cons_zero List.set_cons_succ List.cons_append List.nil_append List.append_nil List.length_map hZ
attribute [go_sem] aF0 aFZ aF1 pH pJ pG pI ZN ZM TY R9 Int.reduceLE Int.reduceLT Int.reduceEq Int.reduceAdd Int.reduceSub Int.reduceToNat
attribute [go_sem] Nat.zero_add Nat.add_zero and_true true_and decide_true decide_false not_true_eq_false not_false_eq_true Bool.not_true Bool.not_false Bool.and_true Bool.true_and Bool.and_false Bool.false_and Int.toNat_natCast Option.map_some Option.map_none Option.bind_some Nat.zero_le Nat.le_refl List.take_length Nat.sub_zero Nat.sub_self
attribute [go_sem ↓] reduceIte
attribute [go_sem] Nat.reduceEqDiff Nat.reduceAdd Nat.reduceSub Nat.reduceLeDiff Nat.reduceLT List.reduceReplicate Nat.reduceMul Int.reduceNeg reduceCtorEq
attribute [go_sem] VO Option.getD_some Option.getD_none X0 Tl SQ PE SO PD
theorem Kz {α:Type} {l:List α} {i j:Nat} {a:α} (h:¬ i=j):(l.set i a)[j]?=l[j]?:=List.getElem?_set_ne h
attribute [go_sem] LG Kz List.set_set List.length_set
attribute [go_sem] LZ Pv Hv SM LM
attribute [go_sem] Int.natCast_add Int.natCast_one Int.natCast_zero Int.add_sub_cancel Int.sub_add_cancel Nat.add_sub_cancel
attribute [go_sem] aQE aQG aQH aFs aFw aFr aFv aFu aFt aQI iQ iS aQF iR Yc Tu
abbrev On (o:O):TO:=⟨none,o,none⟩
abbrev Of (d f s:Nat):TO:=⟨some d,.fad f (.t s),none⟩
end Go.Ab
