/- Part of a proof that a law returns true for every input of the second form's bound (no other condition). -/
import Derived.IntWalk
import Derived.Test.YtlcknhidblndnaaGreatPC
set_option linter.all false
/- Conditions ahead of code over values that stay; what they say of the abstract machine; functions by what they answer. -/
namespace Go.Ab
open Go
def AH.emp:AH:=⟨fun _=>none,0,0⟩
def EP (S:Nat→Prop) (m:Nat→Nat) (h hc:AH) (e e1:Env):Prop:=∀ t,PR S m hc.get h.next (e t) (e1 t)
section
variable (tp:TP)
def Cq (f:Nat) (args:List V) (h:AH) (Q:V→AH→Prop) (t:Fz Q:=.mk):Prop:=
 ∀ S m hc args1,B5 S m h hc→Bb S m hc.get h.next args args1→Ev tp f args1 hc (fun r1 hc'=>∃ r h' S' m',B5 S' m' h' hc'∧D5 S m h hc S' m' h' hc'∧PR S' m' hc'.get h'.next r r1∧Q r h')
def Pf (f:Nat) (args:List V) (R:V):Prop:=Cq tp f args AH.emp (fun r h'=>r=R∧h'=AH.emp)
def MN (neg:Bool) (v w:V) (h:AH) (K:V→AH→Prop):Prop:=match v,w with
 | .fl _ xs,.ns=>∀ t:Bool,(xs≠[]→t=false)→K (.b (if neg then !t else t)) h
 | v,w=>Wo (D2 .sl v w) (fun r=>K (.b (if neg then !r else r)) h)
def z1 (o:O) (e:Env) (h:AH) (K:V→AH→Prop):Prop:=match o with
 | .eq neg .sl a b=>MN neg (a.e2 e) (b.e2 e) h K
 | .call f l=>Wo (callee tp (.call f l) (X.e2 e)) (fun c=>Cq tp c.1 c.2 h K)
 | .inv x m l=>Wo (callee tp (.inv x m l) (X.e2 e)) (fun c=>Cq tp c.1 c.2 h K)
 | o=>Wo (A7 o (X.e2 e) h) (fun z=>K z.1 z.2)
def HV:List TO→Env→AH→(Env→AH→Prop)→Prop
 | [],e,h,K=>K e h
 | o::r,e,h,K=>match Ax e o.g with
  | some true=>z1 tp o.o e h (fun v h=>HV r (e.set o.d v) h K)
  | some false=>HV r (e.set o.d (.tup [])) h K
  | none=>False
def nP (o:O) (e:Env) (h:AH) (K:V→AH→Prop):Prop:=if AB o=true then z1 tp o e h K else z1 tp o e h.raise (fun v h'=>K v (h'.back h.lim))
def zq:List TO→Env→AH→(Env→AH→Prop)→Prop
 | [],e,h,K=>K e h
 | o::r,e,h,K=>match Ax e o.g with
  | some true=>nP tp o.o e h (fun v h=>zq r (e.set o.d v) h K)
  | some false=>zq r (e.set o.d (.tup [])) h K
  | none=>False
def zs:List (Bool×List TO)→Env→AH→(Env→AH→Prop)→Prop
 | [],e,h,K=>K e h
 | (true,l)::r,e,h,K=>zq tp l e h (fun e h=>zs r e h K)
 | (false,l)::r,e,h,K=>HV tp l e h (fun e h=>zs r e h K)
def Stp (e:Env) (h:AH) (e2:Env) (h2:AH):Prop:=∀ S m hc e1,B5 S m h hc→EP S m h hc e e1→∃ S',B5 S' m h2 hc∧D5 S m h hc S' m h2 hc∧EP S' m h2 hc e2 e1
def zc:TC→Env→AH→(Ex→Env→AH→Prop)→Prop
 | .skip,e,h,K=>K .nm e h
 | .ret,e,h,K=>K .rt e h
 | .exit id,e,h,K=>K (.ex id) e h
 | .reg ops,e,h,K=>HV tp ops e h (fun e h=>K .nm e h)
 | .dreg segs,e,h,K=>zs tp segs e h (fun e h=>K .nm e h)
 | .cond c a b,e,h,K=>Wb (c.e2 e) (zc a e h K) (zc b e h K)
 | .block id c,e,h,K=>zc c e h (fun x e h=>K (blk id x) e h)
 | .seq a b,e,h,K=>zc a e h (fun x e h=>Pu x (zc b e h K) (K x e h))
 | .loop c,e,h,K=>∀ I:Env→AH→Prop,(∀ e h,zc c e h (fun x e h=>Pu x (I e h) (K x e h))→I e h)→(∀ e h e2 h2,Stp e h e2 h2→I e2 h2→I e h)→I e h
variable {tp}
theorem MP {o:O} {e:Env} {h:AH} {K L:V→AH→Prop} (kl:∀ v h,K v h→L v h) (z:z1 tp o e h K):z1 tp o e h L:=by
 unfold z1 at z ⊢
 split at z
 ·unfold MN at z ⊢
  split at z
  ·exact fun t ht=>kl _ _ (z t ht)
  ·obtain ⟨a,ha,z⟩:=z;exact ⟨a,ha,kl _ _ z⟩
 ·obtain ⟨c,hc,z⟩:=z
  refine ⟨c,hc,fun S m hc args1 p q=>(z S m hc args1 p q).imp ?_⟩
  rintro v h' ⟨r,h2,S',m',a,b,c,d⟩;exact ⟨r,h2,S',m',a,b,c,kl _ _ d⟩
 ·obtain ⟨c,hc,z⟩:=z
  refine ⟨c,hc,fun S m hc args1 p q=>(z S m hc args1 p q).imp ?_⟩
  rintro v h' ⟨r,h2,S',m',a,b,c,d⟩;exact ⟨r,h2,S',m',a,b,c,kl _ _ d⟩
 ·obtain ⟨a,ha,z⟩:=z;exact ⟨a,ha,kl _ _ z⟩
theorem FH:∀ {l:List TO} {e:Env} {h:AH} {K L:Env→AH→Prop},(∀ v h,K v h→L v h)→HV tp l e h K→HV tp l e h L
 | [],_,_,_,_,kl,z=>kl _ _ z
 | o::r,e,h,K,L,kl,z=>by
  simp only [HV] at z ⊢
  split at z
  ·exact MP (fun _ _=>FH kl) z
  ·exact FH kl z
  ·exact z
theorem Ji:∀ {l:List TO} {e:Env} {h:AH} {K L:Env→AH→Prop},(∀ v h,K v h→L v h)→zq tp l e h K→zq tp l e h L
 | [],_,_,_,_,kl,z=>kl _ _ z
 | o::r,e,h,K,L,kl,z=>by
  simp only [zq] at z ⊢
  split at z
  ·unfold nP at z ⊢
   split at z
   ·rename_i hp;rw [if_pos hp];exact MP (fun _ _=>Ji kl) z
   ·rename_i hp;rw [if_neg hp];exact MP (fun _ _=>Ji kl) z
  ·exact Ji kl z
  ·exact z
theorem MQ:∀ {l:List (Bool×List TO)} {e:Env} {h:AH} {K L:Env→AH→Prop},(∀ v h,K v h→L v h)→zs tp l e h K→zs tp l e h L
 | [],_,_,_,_,kl,z=>kl _ _ z
 | (true,l)::r,e,h,K,L,kl,z=>Ji (fun _ _=>MQ kl) z
 | (false,l)::r,e,h,K,L,kl,z=>FH (fun _ _=>MQ kl) z
theorem I1 {x:Ex} {A B C D:Prop} (ac:A→C) (bd:B→D) (z:Pu x A B):Pu x C D:=by
 cases x<;>first | exact ac z | exact bd z
theorem D0:∀ {c:TC} {e:Env} {h:AH} {K L:Ex→Env→AH→Prop},(∀ x v h,K x v h→L x v h)→zc tp c e h K→zc tp c e h L
 | .skip,_,_,_,_,kl,z=>kl _ _ _ z
 | .ret,_,_,_,_,kl,z=>kl _ _ _ z
 | .exit _,_,_,_,_,kl,z=>kl _ _ _ z
 | .reg ops,_,_,_,_,kl,z=>FH (fun _ _=>kl _ _ _) z
 | .dreg segs,_,_,_,_,kl,z=>MQ (fun _ _=>kl _ _ _) z
 | .cond c a b,e,h,K,L,kl,z=>by
  simp only [zc,Wb] at z ⊢
  split at z
  ·exact D0 kl z
  ·exact D0 kl z
  ·exact z
 | .block id c,_,_,_,_,kl,z=>D0 (c:=c) (fun _ _ _=>kl _ _ _) z
 | .seq a b,_,_,_,_,kl,z=>D0 (c:=a) (fun x _ _=>I1 (D0 kl) (kl _ _ _)) z
 | .loop c,_,_,_,_,kl,z=>fun I hI hS=>z I (fun e h q=>hI e h (D0 (c:=c) (fun x _ _=>I1 id (kl _ _ _)) q)) hS
/-! ### What it says of the abstract machine -/
section
variable {S:Nat→Prop} {m:Nat→Nat} {h hc:AH}
theorem B5.raise (c:B5 S m h hc):B5 S m h.raise hc.raise:=
 ⟨c.blk,c.inj,c.off,c.low,fun i hi hl=>by
  obtain ⟨k,hk⟩:=Option.ne_none_iff_exists'.1 hi
  have:=(c.blk i k hk).1
  have:h.next≤i:=hl
  omega,Nat.le_refl _,Nat.le_refl _⟩
theorem B5.back {S':Nat→Prop} {m':Nat→Nat} {h' hc':AH} (c:B5 S m h hc) (c':B5 S' m' h' hc') (a:D5 S m h.raise hc.raise S' m' h' hc'):B5 S' m' (h'.back h.lim) (hc'.back hc.lim)∧D5 S m h hc S' m' (h'.back h.lim) (hc'.back hc.lim):=by
 refine ⟨⟨c'.blk,c'.inj,c'.off,c'.low,fun i hi hl=>?_,Nat.le_trans c.bnd a.next1,Nat.le_trans c.bnd2 a.next2⟩,⟨a.sub,a.new,a.map,a.next2,a.next1,rfl,rfl,a.frame,a.liv⟩⟩
 rcases a.liv i hi with ⟨h1,h2⟩ | h1
 ·rw [a.map i h1];exact c.lim i h2 hl
 ·exact Nat.le_trans c.bnd h1
theorem EP.mono {S':Nat→Prop} {m':Nat→Nat} {h' hc':AH} {e e1:Env} (c:B5 S m h hc) (a:D5 S m h hc S' m' h' hc') (p:EP S m h hc e e1):EP S' m' h' hc' e e1:=fun t=>(p t).mono (a.mon c)
theorem EP.set {e e1:Env} {v v1:V} (p:EP S m h hc e e1) (q:PR S m hc.get h.next v v1) (d:Option Nat):EP S m h hc (e.set d v) (e1.set d v1):=by
 intro t
 cases d with
 | none=>exact p t
 | some d=>simp only [Env.set];split;exact q;exact p t
theorem GI {e e1:Env} (p:EP S m h hc e e1) {g:Option (Nat×Bool)} {b:Bool} (hw:Ax e g=some b):Ax e1 g=some b:=by
 unfold Ax at hw ⊢
 split at hw
 ·exact hw
 ·rename_i t x
  have q:=p t
  split at hw
  ·rename_i y hy
   rw [hy] at q
   cases hq:e1 t<;>rw [hq] at q<;>cases q
   exact hw
  ·rename_i hy
   rw [hy] at q
   cases hq:e1 t<;>rw [hq] at q<;>cases q
   rename_i q
   cases q
   exact hw
  ·simp at hw
def YV (S:Nat→Prop) (m:Nat→Nat) (h hc:AH) (K:V→AH→Prop) (v1:V) (hc':AH):Prop:=∃ v h' S' m',B5 S' m' h' hc'∧D5 S m h hc S' m' h' hc'∧PR S' m' hc'.get h'.next v v1∧K v h'
def CQ (S:Nat→Prop) (m:Nat→Nat) (h hc:AH) (K:Env→AH→Prop) (e1:Env) (hc':AH):Prop:=∃ e h' S' m',B5 S' m' h' hc'∧D5 S m h hc S' m' h' hc'∧EP S' m' h' hc' e e1∧K e h'
theorem H3 {e e1:Env} (p:EP S m h hc e e1) {o:O} {f:Nat} {args:List V} (hk:callee tp o (X.e2 e)=some (f,args)):∃ args1,callee tp o (X.ev e1)=some (f,args1)∧Bb S m hc.get h.next args args1:=by
 have all:∀ l:List X,Bb S m hc.get h.next (l.map (X.e2 e)) (l.map (X.ev e1)):=fun l=>by
  induction l with
  | nil=>exact .nil _
  | cons a l ih=>exact .cons _ _ _ _ _ (Jn p a) ih
 unfold callee at hk ⊢
 split at hk
 ·rename_i x l
  have q:=Jn p x
  split at hk
  ·rename_i g a b hx
   rw [hx] at q
   simp only [Option.some.injEq,Prod.mk.injEq] at hk
   obtain ⟨rfl,rfl⟩:=hk
   cases hq:X.ev e1 x<;>rw [hq] at q<;>cases q
   rename_i q1 q2
   exact ⟨_,rfl,(q1.app (all l)).app q2⟩
  ·simp at hk
 ·rename_i x mm l
  have q:=Jn p x
  split at hk
  ·rename_i t v hx
   rw [hx] at q
   cases hq:X.ev e1 x<;>rw [hq] at q<;>cases q
   rename_i q1
   simp only [Option.bind_eq_some_iff] at hk ⊢
   obtain ⟨mt,hmt,hk⟩:=hk
   split at hk
   ·rename_i ha
    simp only [Option.some.injEq,Prod.mk.injEq] at hk
    obtain ⟨rfl,rfl⟩:=hk
    refine ⟨_,⟨mt,hmt, ?_⟩,.cons _ _ _ _ _ q1 (all l)⟩
    simp only [ha]
   ·rename_i j ha
    split at hk
    ·simp only [Option.map_eq_some_iff,Prod.mk.injEq] at hk
     obtain ⟨r,hr,rfl,rfl⟩:=hk
     cases q1
     rename_i q1
     obtain ⟨r',h1,h2⟩:=q1.get _ _ hr
     refine ⟨r'::l.map (X.ev e1),⟨mt,hmt, ?_⟩,.cons _ _ _ _ _ h2 (all l)⟩
     simp only [ha,h1,Option.map_some]
    ·simp at hk
  ·simp at hk
 ·simp at hk
theorem Ua (c:B5 S m h hc) {e e1:Env} (p:EP S m h hc e e1) {o:O} {K:V→AH→Prop} (z:z1 tp o e h K):W1 tp o e1 hc (YV S m h hc K):=by
 unfold z1 at z
 split at z
 ·rename_i neg a b
  have pa:=Jn p a
  have pb:=Jn p b
  rw [Zg (fun C=>rfl)]
  simp only [Aa]
  rw [A5]
  unfold MN at z
  split at z
  ·rename_i s xs ha hb
   rw [ha] at pa;rw [hb] at pb
   cases hb':X.ev e1 b<;>rw [hb'] at pb<;>cases pb
   have key:∀ t:Bool,(xs≠[]→t=false)→D2 .sl (X.ev e1 a) .ns=some t→Wo (D2 .sl (X.ev e1 a) .ns) (fun r=>YV S m h hc K (.b (if neg=true then !r else r)) hc):=by
    intro t ht he
    rw [he,AD]
    exact ⟨_,h,S,m,c,D5.refl c,.b _ _,z t ht⟩
   cases ha':X.ev e1 a<;>rw [ha'] at pa key<;>cases pa
   ·exact key true (by simp) rfl
   ·exact key false (by simp) rfl
   ·exact key false (by simp) rfl
  ·obtain ⟨r,hr,z⟩:=z
   rw [Q0 hr pa pb,AD]
   exact ⟨_,h,S,m,c,D5.refl c,.b _ _,z⟩
 ·obtain ⟨⟨f,args⟩,hk,z⟩:=z
  obtain ⟨args1,hk1,q⟩:=H3 p hk
  rw [Uu,hk1,AD]
  exact z S m hc args1 c q
 ·obtain ⟨⟨f,args⟩,hk,z⟩:=z
  obtain ⟨args1,hk1,q⟩:=H3 p hk
  rw [eU,hk1,AD]
  exact z S m hc args1 c q
 ·rename_i hn0 hn1 hn2
  obtain ⟨⟨v,h'⟩,hd,z⟩:=z
  obtain ⟨v1,hc',S',m',h1,h2,h3,h4⟩:=gV c (Jn p) hd
  rw [Zg (fun C=>by unfold AK;split<;>first | rfl | (exact absurd rfl (hn1 _ _)) | (exact absurd rfl (hn2 _ _ _))),h1,AD]
  exact ⟨v,h',S',m',h2,h3,h4,z⟩
theorem CQ.then {S':Nat→Prop} {m':Nat→Nat} {h' hc':AH} (a:D5 S m h hc S' m' h' hc') {K:Env→AH→Prop} {e1:Env} {hq:AH} (z:CQ S' m' h' hc' K e1 hq):CQ S m h hc K e1 hq:=by
 obtain ⟨e,h2,S2,m2,c2,a2,p,k⟩:=z
 exact ⟨e,h2,S2,m2,c2,a.trans a2,p,k⟩
end
theorem Gv.imp {l:List TO} {e:Env} {h:AH} {Q R:Env→AH→Prop} (w:Gv tp l e h Q) (qr:∀ e h,Q e h→R e h):Gv tp l e h R:=by
 obtain ⟨k,e',h',he,q⟩:=w;exact ⟨k,e',h',he,qr _ _ q⟩
theorem WQ.imp {l:List TO} {e:Env} {h:AH} {Q R:Env→AH→Prop} (w:WQ tp l e h Q) (qr:∀ e h,Q e h→R e h):WQ tp l e h R:=by
 obtain ⟨k,e',h',he,q⟩:=w;exact ⟨k,e',h',he,qr _ _ q⟩
theorem WS.imp {l:List (Bool×List TO)} {e:Env} {h:AH} {Q R:Env→AH→Prop} (w:WS tp l e h Q) (qr:∀ e h,Q e h→R e h):WS tp l e h R:=by
 obtain ⟨k,e',h',he,q⟩:=w;exact ⟨k,e',h',he,qr _ _ q⟩
theorem W1.imp {o:O} {e:Env} {h:AH} {Q R:V→AH→Prop} (w:W1 tp o e h Q) (qr:∀ v h,Q v h→R v h):W1 tp o e h R:=by
 obtain ⟨k,e',h',he,q⟩:=w;exact ⟨k,e',h',he,qr _ _ q⟩
theorem GJ:∀ (l:List TO) {S:Nat→Prop} {m:Nat→Nat} {h hc:AH} {e e1:Env} {K:Env→AH→Prop},B5 S m h hc→EP S m h hc e e1→HV tp l e h K→Gv tp l e1 hc (CQ S m h hc K)
 | [],S,m,h,hc,e,e1,K,c,p,z=>by rw [PZ];exact ⟨e,h,S,m,c,D5.refl c,p,z⟩
 | ⟨d,o,g⟩::r,S,m,h,hc,e,e1,K,c,p,z=>by
  simp only [HV] at z
  split at z
  ·rename_i hw
   rw [P0 (GI p hw)]
   refine (Ua c p z).imp ?_
   rintro v1 hc' ⟨v,h',S',m',c',a',q,z⟩
   exact (GJ r c' ((p.mono c a').set q d) z).imp fun _ _=>CQ.then a'
  ·rename_i hw
   rw [NR (GI p hw)]
   exact GJ r c (p.set (.tup _ _ _ (.nil _)) d) z
  ·exact z.elim
theorem NM:∀ (l:List TO) {S:Nat→Prop} {m:Nat→Nat} {h hc:AH} {e e1:Env} {K:Env→AH→Prop},B5 S m h hc→EP S m h hc e e1→zq tp l e h K→WQ tp l e1 hc (CQ S m h hc K)
 | [],S,m,h,hc,e,e1,K,c,p,z=>by rw [eZ];exact ⟨e,h,S,m,c,D5.refl c,p,z⟩
 | ⟨d,o,g⟩::r,S,m,h,hc,e,e1,K,c,p,z=>by
  simp only [zq] at z
  split at z
  ·rename_i hw
   rw [fA (GI p hw)]
   unfold WQ1
   unfold nP at z
   split at z
   ·rename_i hp
    rw [if_pos hp]
    refine ⟨?_,(Ua c p z).imp ?_⟩
    ·cases o<;>try rfl
     rename_i sz x i
     simp only [z1,A7] at z
     obtain ⟨w,hw,_⟩:=z
     simp only [Option.map_eq_some_iff] at hw
     obtain ⟨v,hv,_⟩:=hw
     have q:=Jn p x
     simp only [F9]
     split
     ·rename_i id el len cap hx
      rw [hx] at q
      unfold V7 at hv
      split at hv
      ·rename_i k hk hb
       rw [hk] at q
       cases q
       simp only [hk,Jt] at hb
       obtain ⟨_,_,cs,hcs,_⟩:=c.blk _ _ hb
       rw [hcs];rfl
      ·rename_i s xs _ hk
       rw [hk] at q
       cases q
       simp only [*];rfl
      ·simp at hv
     ·rfl
    ·rintro v1 hc' ⟨v,h',S',m',c',a',q,z⟩
     exact (NM r c' ((p.mono c a').set q d) z).imp fun _ _=>CQ.then a'
   ·rename_i hp
    rw [if_neg hp]
    have p':EP S m h.raise hc.raise e e1:=p
    refine (Ua c.raise p' z).imp ?_
    rintro v1 hc' ⟨v,h',S',m',c',a',q,z⟩
    obtain ⟨c2,a2⟩:=c.back c' a'
    exact (NM r c2 ((p.mono c a2).set q d) z).imp fun _ _=>CQ.then a2
  ·rename_i hw
   rw [UA (GI p hw)]
   exact NM r c (p.set (.tup _ _ _ (.nil _)) d) z
  ·exact z.elim
theorem Ub:∀ (l:List (Bool×List TO)) {S:Nat→Prop} {m:Nat→Nat} {h hc:AH} {e e1:Env} {K:Env→AH→Prop},B5 S m h hc→EP S m h hc e e1→zs tp l e h K→WS tp l e1 hc (CQ S m h hc K)
 | [],S,m,h,hc,e,e1,K,c,p,z=>by rw [fC];exact ⟨e,h,S,m,c,D5.refl c,p,z⟩
 | (true,l)::r,S,m,h,hc,e,e1,K,c,p,z=>by
  rw [P1]
  refine (NM l c p z).imp ?_
  rintro e1' hc' ⟨e',h',S',m',c',a',p',z⟩
  exact (Ub r c' p' z).imp fun _ _=>CQ.then a'
 | (false,l)::r,S,m,h,hc,e,e1,K,c,p,z=>by
  rw [fB]
  refine (GJ l c p z).imp ?_
  rintro e1' hc' ⟨e',h',S',m',c',a',p',z⟩
  exact (Ub r c' p' z).imp fun _ _=>CQ.then a'
theorem FG:∀ (cd:TC) {S:Nat→Prop} {m:Nat→Nat} {h hc:AH} {e e1:Env} {K:Ex→Env→AH→Prop},B5 S m h hc→EP S m h hc e e1→zc tp cd e h K→WC tp cd e1 hc (fun x=>CQ S m h hc (K x))
 | .skip,S,m,h,hc,e,e1,K,c,p,z=>by rw [Uz];exact ⟨e,h,S,m,c,D5.refl c,p,z⟩
 | .ret,S,m,h,hc,e,e1,K,c,p,z=>by rw [eW];exact ⟨e,h,S,m,c,D5.refl c,p,z⟩
 | .exit id,S,m,h,hc,e,e1,K,c,p,z=>by rw [Ux];exact ⟨e,h,S,m,c,D5.refl c,p,z⟩
 | .reg ops,S,m,h,hc,e,e1,K,c,p,z=>by rw [eV];exact GJ ops c p z
 | .dreg segs,S,m,h,hc,e,e1,K,c,p,z=>by rw [Uw];exact Ub segs c p z
 | .cond q a b,S,m,h,hc,e,e1,K,c,p,z=>by
  rw [Uv]
  have r:=Jn p q
  simp only [zc,Wb] at z
  split at z
  ·rename_i hx;rw [hx] at r;cases hq:X.ev e1 q<;>rw [hq] at r<;>cases r;exact FG a c p z
  ·rename_i hx;rw [hx] at r;cases hq:X.ev e1 q<;>rw [hq] at r<;>cases r;exact FG b c p z
  ·exact z.elim
 | .block id cd,S,m,h,hc,e,e1,K,c,p,z=>by rw [PY];exact FG cd c p z
 | .seq a b,S,m,h,hc,e,e1,K,c,p,z=>by
  rw [eY]
  refine (FG a c p z).imp ?_
  rintro x e1' hc' ⟨e',h',S',m',c',a',p',z⟩
  cases x with
  | nm=>exact (FG b c' p' z).imp fun _ _ _=>CQ.then a'
  | ex j=>exact ⟨e',h',S',m',c',a',p',z⟩
  | rt=>exact ⟨e',h',S',m',c',a',p',z⟩
 | .loop cd,S,m,h,hc,e,e1,K,c,p,z=>by
  refine z (fun e h=>∀ S m hc e1,B5 S m h hc→EP S m h hc e e1→WC tp (.loop cd) e1 hc (fun x=>CQ S m h hc (K x))) ?_ ?_ S m hc e1 c p
  rotate_left
  ·intro e h e2 h2 st q S m hc e1 c p
   obtain ⟨S',c',a',p'⟩:=st S m hc e1 c p
   exact (q S' m hc e1 c' p').imp fun _ _ _=>CQ.then a'
  intro e h q S m hc e1 c p
  refine Uy ((FG cd c p q).imp ?_)
  rintro x e1' hc' ⟨e',h',S',m',c',a',p',z⟩
  cases x with
  | nm=>exact (z S' m' hc' e1' c' p').imp fun _ _ _=>CQ.then a'
  | ex j=>exact ⟨e',h',S',m',c',a',p',z⟩
  | rt=>exact ⟨e',h',S',m',c',a',p',z⟩
/-! ### Functions -/
section
variable {S:Nat→Prop} {m:Nat→Nat} {h hc:AH}
theorem Tw (c:B5 S m h hc) {e e1:Env} (p:EP S m h hc e e1):∀ {l:List RV} {vs:List V},Pv e h l=some vs→∃ vs1,Pv e1 hc l=some vs1∧Bb S m hc.get h.next vs vs1
 | [],vs,hv=>by simp [Pv] at hv;subst hv;exact ⟨[],rfl,.nil _⟩
 | r::l,vs,hv=>by
  simp only [Pv,Option.bind_eq_some_iff,Option.map_eq_some_iff] at hv ⊢
  obtain ⟨v,h1,ws,h2,rfl⟩:=hv
  obtain ⟨ws1,h3,h4⟩:=Tw c p h2
  have:∃ v1,MA e1 hc r=some v1∧PR S m hc.get h.next v v1:=by
   cases r with
   | t n=>simp [MA] at h1 ⊢;subst h1;exact p n
   | cell n k agg=>
    have q:=p n
    simp only [MA] at h1 ⊢
    split at h1
    ·rename_i id el off hx
     rw [hx] at q
     cases hq:e1 n<;>rw [hq] at q<;>cases q
     simp only [Option.bind_eq_some_iff] at h1
     obtain ⟨b,hb,row,hr,hcut⟩:=h1
     exact GF c hb hr hcut
    ·simp at h1
  obtain ⟨v1,h5,h6⟩:=this
  exact ⟨_,⟨v1,h5,ws1,h3,rfl⟩,.cons _ _ _ _ _ h6 h4⟩
theorem Ms (c:B5 S m h hc) {e e1:Env} (p:EP S m h hc e e1) {l:List RV} {v:V} (hv:Bn e h l=some v):∃ v1,Bn e1 hc l=some v1∧PR S m hc.get h.next v v1:=by
 simp only [Bn,Option.map_eq_some_iff] at hv ⊢
 obtain ⟨vs,h1,rfl⟩:=hv
 obtain ⟨vs1,h2,h3⟩:=Tw c p h1
 refine ⟨_,⟨vs1,h2,rfl⟩, ?_⟩
 cases h3 with
 | nil=>exact .tup _ _ _ (.nil _)
 | cons _ v v' l l' q r=>
  cases r with
  | nil=>exact q
  | cons _ w w' l l' q' r=>exact .tup _ _ _ (.cons _ _ _ _ _ q (.cons _ _ _ _ _ q' r))
end
def Gw (res:List RV) (x:Ex) (e:Env) (h:AH) (Q:V→AH→Prop) (t:Fz (PProd.mk e Q):=.mk):Prop:=match x with | .ex _=>False | _=>Wo (Bn e h res) (fun v=>Q v h)
inductive Dp:V→Prop where
 | b (x:Bool):Dp (.b x)
 | i (k:IntKind) (z:Int):Dp (.i k z)
 | s (x:ByteArray):Dp (.s x)
 | np:Dp .np
 | ns:Dp .ns
 | e0:Dp .e0
 | nf:Dp .nf
 | ni:Dp .ni
 | u:Dp .u
mutual
inductive Dg (P:Nat→Prop) (h:AH):Nat→V→V→Prop where
 | z (n:Nat) (v:V):Dp v→Dg P h n v v
 | ns (n:Nat) (sz:Nat):Dg P h n .ns (.fl sz [])
 | e0 (n:Nat) (sz:Nat):Dg P h n .e0 (.fl sz [])
 | fl (n:Nat) (sz:Nat) (xs:List (List V)):Dg P h n (.fl sz xs) (.fl sz xs)
 | fp (n:Nat) (sz:Nat) (xs:List (List V)) (j o:Nat):Dg P h n (.fp sz xs j o) (.fp sz xs j o)
 | sl (n:Nat) (id el len cap sz:Nat) (cs xs:List (List V)):P id→h.get id=some ⟨sz,cs⟩→el+len≤cs.length→len≤cap→len<G6→CV P h 0 ((cs.drop el).take len) xs→Dg P h n (.sl id el len cap) (.fl sz xs)
 | p (n:Nat) (id el off:Nat):id<n→Dg P h n (.p id el off) (.p id el off)
 | so (n:Nat) (id el len cap:Nat):id<n→Dg P h n (.sl id el len cap) (.sl id el len cap)
 | f (n:Nat) (fn:Fn) (a c a' c':List V):BI P h n a a'→BI P h n c c'→Dg P h n (.f fn a c) (.f fn a' c')
 | ifc (n:Nat) (t:Nat) (v v':V):Dg P h n v v'→Dg P h n (.ifc t v) (.ifc t v')
 | agg (n:Nat) (l l':List V):BI P h n l l'→Dg P h n (.agg l) (.agg l')
 | tup (n:Nat) (l l':List V):BI P h n l l'→Dg P h n (.tup l) (.tup l')
inductive BI (P:Nat→Prop) (h:AH):Nat→List V→List V→Prop where
 | nil (n:Nat):BI P h n [] []
 | cons (n:Nat) (v v':V) (l l':List V):Dg P h n v v'→BI P h n l l'→BI P h n (v::l) (v'::l')
inductive CV (P:Nat→Prop) (h:AH):Nat→List (List V)→List (List V)→Prop where
 | nil (n:Nat):CV P h n [] []
 | cons (n:Nat) (v v':List V) (l l':List (List V)):BI P h n v v'→CV P h n l l'→CV P h n (v::l) (v'::l')
end
section
variable {S:Nat→Prop} {m:Nat→Nat} {h hc:AH} {P:Nat→Prop}
def SP (S:Nat→Prop) (m:Nat→Nat) (h:AH) (P:Nat→Prop) (a:Nat):Prop:=S a∨∃ i,P i∧h.live i∧m i=a
theorem CV.len {n:Nat}:∀ {l l':List (List V)},CV P h n l l'→l.length=l'.length
 | _,_,.nil _=>rfl
 | _,_,.cons _ _ _ _ _ _ q=>by simp [q.len]
mutual
theorem Dg.ok (c:B5 S m h hc) {n:Nat}:∀ {v r v1:V},Dg P h n v r→PR S m hc.get h.next v v1→PR (SP S m h P) m hc.get n r v1
 | _,_,_,.z _ _ h0,p=>by cases h0<;>cases p<;>constructor
 | _,_,_,.ns _ sz,p=>by cases p;exact .fl0 _ _
 | _,_,_,.e0 _ sz,p=>by cases p;exact .fl1 _ _
 | _,_,_,.fl _ sz xs,p=>by
  cases p with
  | fl0=>exact .fl0 _ _
  | fl1=>exact .fl1 _ _
  | fl _ _ _ a el cap cs h1 h2 h3 h4 h5 r=>exact .fl _ _ _ _ _ _ _ (.inl h1) h2 h3 h4 h5 (r.mono ⟨fun a h=>.inl h,fun _ _=>rfl,fun i hi=>absurd hi (Nat.not_lt_zero _),Nat.le_refl _⟩)
 | _,_,_,.fp _ sz xs j o,p=>by
  cases p with
  | fp _ _ _ _ _ a el cs h1 h2 h3 r=>exact .fp _ _ _ _ _ _ _ _ (.inl h1) h2 h3 (r.mono ⟨fun a h=>.inl h,fun _ _=>rfl,fun i hi=>absurd hi (Nat.not_lt_zero _),Nat.le_refl _⟩)
 | _,_,_,.sl _ id el len cap sz cs xs hP hg h1 h2 h3 fr,p=>by
  cases p
  obtain ⟨_,_,cs1,hcs,hr⟩:=c.blk id _ hg
  have e:xs.length=len:=by rw [← fr.len];simp;omega
  subst e
  exact .fl _ _ _ _ _ _ cs1 (.inr ⟨id,hP,by simp [AH.live,hg],rfl⟩) hcs h2 (by rw [← hr.len];exact h1) h3 (CV.ok c fr ((hr.drop _).take _))
 | _,_,_,.p _ id el off hi,p=>by cases p;exact .p _ _ _ _ hi
 | _,_,_,.so _ id el len cap hi,p=>by cases p;exact .sl _ _ _ _ _ hi
 | _,_,_,.f _ fn a cc a' c' fa fc,p=>by cases p;rename_i p q;exact .f _ _ _ _ _ _ (BI.ok c fa p) (BI.ok c fc q)
 | _,_,_,.ifc _ t v v' fv,p=>by cases p;rename_i p;exact .ifc _ _ _ _ (Dg.ok c fv p)
 | _,_,_,.agg _ l l' fl,p=>by cases p;rename_i p;exact .agg _ _ _ (BI.ok c fl p)
 | _,_,_,.tup _ l l' fl,p=>by cases p;rename_i p;exact .tup _ _ _ (BI.ok c fl p)
theorem BI.ok (c:B5 S m h hc) {n:Nat}:∀ {v r v1:List V},BI P h n v r→Bb S m hc.get h.next v v1→Bb (SP S m h P) m hc.get n r v1
 | _,_,_,.nil _,p=>by cases p;exact .nil _
 | _,_,_,.cons _ v v' l l' fv fl,p=>by cases p;rename_i p q;exact .cons _ _ _ _ _ (Dg.ok c fv p) (BI.ok c fl q)
theorem CV.ok (c:B5 S m h hc) {n:Nat}:∀ {v r v1:List (List V)},CV P h n v r→B2 S m hc.get h.next v v1→B2 (SP S m h P) m hc.get n r v1
 | _,_,_,.nil _,p=>by cases p;exact .nil _
 | _,_,_,.cons _ v v' l l' fv fl,p=>by cases p;rename_i p q;exact .cons _ _ _ _ _ (BI.ok c fv p) (CV.ok c fl q)
end
mutual
theorem PR.frz {g:Nat→Option Bm} {n:Nat} {P:Nat→Prop} {h:AH}:∀ {v v1:V},PR S m g n v v1→Dg P h n v v
 | _,_,.u _ x=>.z _ _ .u
 | _,_,.b _ x=>.z _ _ (.b x)
 | _,_,.i _ k z=>.z _ _ (.i k z)
 | _,_,.s _ x=>.z _ _ (.s x)
 | _,_,.np _=>.z _ _ .np
 | _,_,.ns _=>.z _ _ .ns
 | _,_,.e0 _=>.z _ _ .e0
 | _,_,.nf _=>.z _ _ .nf
 | _,_,.ni _=>.z _ _ .ni
 | _,_,.p _ id el off h=>.p _ _ _ _ h
 | _,_,.sl _ id el len cap h=>.so _ _ _ _ _ h
 | _,_,.fl0 _ sz=>.fl _ _ _
 | _,_,.fl1 _ sz=>.fl _ _ _
 | _,_,.fl _ sz xs ..=>.fl _ _ _
 | _,_,.fp _ sz xs ..=>.fp _ _ _ _ _
 | _,_,.f _ fn a c a' c' p q=>.f _ _ _ _ _ _ p.frz q.frz
 | _,_,.ifc _ t v v' p=>.ifc _ _ _ _ p.frz
 | _,_,.agg _ l l' p=>.agg _ _ _ p.frz
 | _,_,.tup _ l l' p=>.tup _ _ _ p.frz
theorem Bb.frz {g:Nat→Option Bm} {n:Nat} {P:Nat→Prop} {h:AH}:∀ {v v1:List V},Bb S m g n v v1→BI P h n v v
 | _,_,.nil _=>.nil _
 | _,_,.cons _ v v' l l' p q=>.cons _ _ _ _ _ p.frz q.frz
theorem B2.frz {g:Nat→Option Bm} {n:Nat} {P:Nat→Prop} {h:AH}:∀ {v v1:List (List V)},B2 S m g n v v1→CV P h n v v
 | _,_,.nil _=>.nil _
 | _,_,.cons _ v v' l l' p q=>.cons _ _ _ _ _ p.frz q.frz
end
theorem SP.low (c:B5 S m h hc):∀ a,SP S m h P a→a<hc.next:=by
 rintro a (ha | ⟨i,_,hi,rfl⟩)
 ·exact c.low a ha
 ·obtain ⟨k,hk⟩:=Option.ne_none_iff_exists'.1 hi
  exact (c.blk i k hk).2.1
theorem B5.emp {T:Nat→Prop} (low:∀ a,T a→a<hc.next) (bnd:hc.lim≤hc.next) (m:Nat→Nat):B5 T m AH.emp hc:=
 ⟨fun i k hk=>by simp [AH.emp] at hk,fun i j hi=>by simp [AH.live,AH.emp] at hi,fun i hi=>by simp [AH.live,AH.emp] at hi,low,fun i hi=>by simp [AH.live,AH.emp] at hi,bnd,Nat.le_refl _⟩
end
theorem EP.args {S:Nat→Prop} {m:Nat→Nat} {h hc:AH} {args args1:List V} (p:Bb S m hc.get h.next args args1):EP S m h hc (DM args) (DM args1):=by
 intro t
 simp only [DM,List.getD_eq_getElem?_getD]
 cases ht:args[t]? with
 | none=>
  have:args1[t]?=none:=by rw [List.getElem?_eq_none_iff] at ht ⊢;rw [← p.len];exact ht
  rw [this];exact .u _ _
 | some v=>
  obtain ⟨v1,h1,h2⟩:=p.get t v ht
  rw [h1];exact h2
def Gu (v:V):Prop:=∃ S m g n v1,PR S m g n v v1
def EI (l:List V):Prop:=∀ v,v∈l→Gu v
theorem Bb.reps {S:Nat→Prop} {m:Nat→Nat} {g:Nat→Option Bm} {n:Nat}:∀ {l l1:List V},Bb S m g n l l1→EI l
 | _,_,.nil _=>fun v hv=>by simp at hv
 | _,_,.cons _ v v' l l' p q=>fun w hw=>by
  rcases List.mem_cons.1 hw with rfl | hw
  ·exact ⟨_,_,_,_,_,p⟩
  ·exact q.reps w hw
theorem Gu.big {s:Nat} {xs:List (List V)} (r:Gu (.fl s xs)):xs.length<4000000000:=by
 obtain ⟨S,m,g,n,v1,p⟩:=r
 cases p with
 | fl0=>simp
 | fl1=>simp
 | fl _ _ _ a el cap cs h1 h2 h3 h4 h5 r=>exact h5
theorem Gu.row {s:Nat} {xs:List (List V)} (r:Gu (.fl s xs)) {row:List V} (hr:row∈xs):EI row:=by
 obtain ⟨S,m,g,n,v1,p⟩:=r
 cases p with
 | fl0=>simp at hr
 | fl1=>simp at hr
 | fl _ _ _ a el cap cs h1 h2 h3 h4 h5 r=>
  obtain ⟨j,hj,rfl⟩:=List.getElem_of_mem hr
  obtain ⟨row1,_,q⟩:=r.get j _ (List.getElem?_eq_getElem hj)
  exact q.reps
theorem Gu.agg {l:List V} (r:Gu (.agg l)):EI l:=by
 obtain ⟨S,m,g,n,v1,p⟩:=r
 cases p with
 | agg _ _ _ q=>exact q.reps
theorem Gu.tup {l:List V} (r:Gu (.tup l)):EI l:=by
 obtain ⟨S,m,g,n,v1,p⟩:=r
 cases p with
 | tup _ _ _ q=>exact q.reps
theorem Gu.frzr {s:Nat} {xs:List (List V)} (r:Gu (.fl s xs)) {P:Nat→Prop} {h:AH}:CV P h 0 xs xs:=by
 obtain ⟨S,m,g,n,v1,p⟩:=r
 cases p with
 | fl0=>exact .nil _
 | fl1=>exact .nil _
 | fl _ _ _ a el cap cs h1 h2 h3 h4 h5 r=>exact r.frz
theorem EI.head {v:V} {l:List V} (r:EI (v::l)):Gu v:=r v (by simp)
theorem EI.tail {v:V} {l:List V} (r:EI (v::l)):EI l:=fun w hw=>r w (by simp [hw])
theorem nV {f:Nat} {args:List V} {R:V} {tf:TF} (hf:tp.fn f=some tf) (hl:args.length≤tf.n) (z:EI args→zc tp tf.body (DM args) AH.emp (fun x e h=>Gw tf.res x e h (fun r h'=>Dg (fun _=>True) h' 0 r R))):Pf tp f args R:=by
 intro S m hc args1 c p
 have p0:EP S m AH.emp hc (DM args) (DM args1):=EP.args p
 refine Px hf (by rw [← p.len];exact hl) ((FG tf.body c p0 (z p.reps)).imp ?_)
 rintro x e1 hc' ⟨e,h',S',m',c',a',pe,z⟩
 unfold Gw at z
 unfold P3
 have key:(Wo (Bn e h' tf.res) fun v=>Dg (fun _=>True) h' 0 v R)→Wo (Bn e1 hc' tf.res) (fun r1=>∃ r h'' S' m',B5 S' m' h'' hc'∧D5 S m AH.emp hc S' m' h'' hc'∧PR S' m' hc'.get h''.next r r1∧r=R∧h''=AH.emp):=by
  rintro ⟨v,hv,fz⟩
  obtain ⟨v1,h1,h2⟩:=Ms c' pe hv
  refine ⟨v1,h1,R,AH.emp,SP S' m' h' (fun _=>True),m',B5.emp (SP.low c') c'.bnd m',⟨fun a h=>.inl (a'.sub a h), ?_,a'.map,Nat.le_refl _,a'.next1,rfl,a'.lim1,a'.frame,fun i hi=>by simp [AH.live,AH.emp] at hi⟩,Dg.ok c' fz h2,rfl,rfl⟩
  rintro a (ha | ⟨i,_,hi,rfl⟩)
  ·exact a'.new a ha
  ·rcases a'.liv i hi with ⟨q1,q2⟩ | q1
   ·exact absurd q1 (Nat.not_lt_zero _)
   ·exact .inr (.inl q1)
 cases x with
 | ex j=>exact z.elim
 | nm=>exact key z
 | rt=>exact key z
def Wf (h:AH):Prop:=h.lim≤h.next∧∀ i k,h.get i=some k→i<h.next∧∀ P h',CV P h' h.next k.cs k.cs
theorem B5.wf {S:Nat→Prop} {m:Nat→Nat} {h hc:AH} (c:B5 S m h hc):Wf h:=⟨c.bnd2,fun i k hk=>by
 obtain ⟨h1,_,cs,_,h4⟩:=c.blk i k hk
 exact ⟨h1,fun P h'=>h4.frz⟩⟩
structure DG (h h2:AH) (r:V) (P:Nat→Prop) (R:V) (H:AH):Prop where
 n1:h.next≤H.next
 lim:H.lim=h.lim
 n2:H.next≤h2.next
 blk:∀ i k,H.get i=some k→i<H.next∧¬ P i∧∃ cs,h2.get i=some ⟨k.sz,cs⟩∧CV P h2 H.next cs k.cs
 val:Dg P h2 H.next r R
theorem DG.ok {S S' : Nat → Prop} {m m' : Nat → Nat} {h hc h2 hc2 : AH} {r r1 R : V} {P : Nat → Prop} {H : AH} (st : DG h h2 r P R H) (c : B5 S m h hc) (c' : B5 S' m' h2 hc2) (a' : D5 S m h hc S' m' h2 hc2) (p : PR S' m' hc2.get h2.next r r1) :
    B5 (SP S' m' h2 P) m' H hc2∧D5 S m h hc (SP S' m' h2 P) m' H hc2∧PR (SP S' m' h2 P) m' hc2.get H.next R r1:=by
 have liv:∀ i,H.live i→h2.live i∧¬ P i:=fun i hi=>by
  obtain ⟨k,hk⟩:=Option.ne_none_iff_exists'.1 hi
  obtain ⟨_,h1,cs,h2,_⟩:=st.blk i k hk
  exact ⟨by simp [AH.live,h2],h1⟩
 refine ⟨⟨fun i k hk=>?_,fun i j hi hj=>c'.inj i j (liv i hi).1 (liv j hj).1,fun i hi hs=>?_,SP.low c',fun i hi hl=>c'.lim i (liv i hi).1 (by rw [a'.lim2,←st.lim];exact hl),c'.bnd,by rw [st.lim];exact Nat.le_trans c.bnd2 st.n1⟩,⟨fun a h=>.inl (a'.sub a h),fun a ha=>?_,a'.map,st.n1,a'.next1,st.lim,a'.lim1,a'.frame,fun i hi=>a'.liv i (liv i hi).1⟩,st.val.ok c' p⟩
 ·obtain ⟨h1,h2',cs,h3,h4⟩:=st.blk i k hk
  obtain ⟨q1,q2,cs1,q3,q4⟩:=c'.blk i _ h3
  exact ⟨h1,q2,cs1,q3,h4.ok c' q4⟩
 ·obtain ⟨hl,hP⟩:=liv i hi
  rcases hs with hs | ⟨j,hj,hlj,he⟩
  ·exact c'.off i hl hs
  ·exact hP (c'.inj j i hlj hl he▸hj)
 ·rcases ha with ha | ⟨i,_,hi,rfl⟩
  ·exact a'.new a ha
  ·rcases a'.liv i hi with ⟨q1,q2⟩ | q1
   ·exact .inr (.inr ⟨i,q2,(a'.map i q1).symm⟩)
   ·exact .inr (.inl q1)
theorem nQ {f:Nat} {args:List V} {h:AH} {K:V→AH→Prop} {tf:TF} (hf:tp.fn f=some tf) (hl:args.length≤tf.n) (z:Wf h→EI args→zc tp tf.body (DM args) h (fun x e h2=>Gw tf.res x e h2 (fun r h3=>∃ P R H,DG h h3 r P R H∧K R H))):Cq tp f args h K:=by
 intro S m hc args1 c p
 refine Px hf (by rw [← p.len];exact hl) ((FG tf.body c (EP.args p) (z c.wf p.reps)).imp ?_)
 rintro x e1 hc' ⟨e,h',S',m',c',a',pe,z⟩
 unfold Gw at z
 unfold P3
 have key:(Wo (Bn e h' tf.res) fun r=>∃ P R H,DG h h' r P R H∧K R H)→Wo (Bn e1 hc' tf.res) (fun r1=>∃ r h'' S' m',B5 S' m' h'' hc'∧D5 S m h hc S' m' h'' hc'∧PR S' m' hc'.get h''.next r r1∧K r h''):=by
  rintro ⟨v,hv,P,R,H,st,k⟩
  obtain ⟨v1,h1,h2⟩:=Ms c' pe hv
  obtain ⟨q1,q2,q3⟩:=st.ok c c' a' h2
  exact ⟨v1,h1,R,H,_,m',q1,q2,q3,k⟩
 cases x with
 | ex j=>exact z.elim
 | nm=>exact key z
 | rt=>exact key z
theorem ZF {f:Nat} {args:List V} {h:AH} {K:V→AH→Prop} {tf:TF} (hf:tp.fn f=some tf) (hl:args.length≤tf.n) (z:Wf h→EI args→zc tp tf.body (DM args) h (fun x e h2=>Gw tf.res x e h2 K)):Cq tp f args h K:=by
 intro S m hc args1 c p
 refine Px hf (by rw [← p.len];exact hl) ((FG tf.body c (EP.args p) (z c.wf p.reps)).imp ?_)
 rintro x e1 hc' ⟨e,h',S',m',c',a',pe,z⟩
 unfold Gw at z
 unfold P3
 have key:(Wo (Bn e h' tf.res) fun r=>K r h')→Wo (Bn e1 hc' tf.res) (fun r1=>∃ r h'' S' m',B5 S' m' h'' hc'∧D5 S m h hc S' m' h'' hc'∧PR S' m' hc'.get h''.next r r1∧K r h''):=by
  rintro ⟨v,hv,k⟩
  obtain ⟨v1,h1,h2⟩:=Ms c' pe hv
  exact ⟨v1,h1,v,h',_,m',c',a',h2,k⟩
 cases x with
 | ex j=>exact z.elim
 | nm=>exact key z
 | rt=>exact key z
theorem Cq.imp {f:Nat} {args:List V} {h:AH} {K L:V→AH→Prop} (c:Cq tp f args h K) (kl:∀ v h,K v h→L v h):Cq tp f args h L:=by
 intro S m hc args1 cf p
 refine (c S m hc args1 cf p).imp ?_
 rintro v h' ⟨r,h2,S',m',a,b,c,d⟩
 exact ⟨r,h2,S',m',a,b,c,kl _ _ d⟩
mutual
def pur:V→Bool
 | .p .. | .sl ..=>false
 | .f _ a c=>Ed a&&Ed c
 | .ifc _ v=>pur v
 | .agg l=>Ed l
 | .tup l=>Ed l
 | _=>true
def Ed:List V→Bool
 | []=>true
 | v::l=>pur v&&Ed l
end
mutual
theorem PR.pur {S:Nat→Prop} {m:Nat→Nat} {g:Nat→Option Bm} {n:Nat}:∀ {v v1:V},PR S m g n v v1→pur v=true→PR S m g 0 v v1
 | _,_,.u _ x,_=>.u _ x
 | _,_,.b _ x,_=>.b _ x
 | _,_,.i _ k z,_=>.i _ k z
 | _,_,.s _ x,_=>.s _ x
 | _,_,.np _,_=>.np _
 | _,_,.ns _,_=>.ns _
 | _,_,.e0 _,_=>.e0 _
 | _,_,.nf _,_=>.nf _
 | _,_,.ni _,_=>.ni _
 | _,_,.p _ _ _ _ _,h=>by simp [Go.Ab.pur] at h
 | _,_,.sl _ _ _ _ _ _,h=>by simp [Go.Ab.pur] at h
 | _,_,.fl0 _ sz,_=>.fl0 _ sz
 | _,_,.fl1 _ sz,_=>.fl1 _ sz
 | _,_,.fl _ sz xs a el cap cs h1 h2 h3 h4 h5 r,_=>.fl _ sz xs a el cap cs h1 h2 h3 h4 h5 r
 | _,_,.fp _ sz xs j off a el cs h1 h2 h3 r,_=>.fp _ sz xs j off a el cs h1 h2 h3 r
 | _,_,.f _ fn a c a' c' p q,h=>by
  simp only [Go.Ab.pur,Bool.and_eq_true] at h
  exact .f _ fn a c a' c' (Bb.pur p h.1) (Bb.pur q h.2)
 | _,_,.ifc _ t v v' p,h=>by simp only [Go.Ab.pur] at h;exact .ifc _ t v v' (PR.pur p h)
 | _,_,.agg _ l l' p,h=>by simp only [Go.Ab.pur] at h;exact .agg _ l l' (Bb.pur p h)
 | _,_,.tup _ l l' p,h=>by simp only [Go.Ab.pur] at h;exact .tup _ l l' (Bb.pur p h)
theorem Bb.pur {S:Nat→Prop} {m:Nat→Nat} {g:Nat→Option Bm} {n:Nat}:∀ {v v1:List V},Bb S m g n v v1→Ed v=true→Bb S m g 0 v v1
 | _,_,.nil _,_=>.nil _
 | _,_,.cons _ v v' l l' p q,h=>by
  simp only [Ed,Bool.and_eq_true] at h
  exact .cons _ _ _ _ _ (PR.pur p h.1) (Bb.pur q h.2)
end
def AH.kills (h:AH) (D:List Nat):AH:={ h with get:=fun i=>if i∈D then none else h.get i }
theorem B5.after {S T S':Nat→Prop} {m m':Nat→Nat} {h hc hc':AH} {D:List Nat} (c:B5 S m h hc) (hT:∀ a,T a→S a∨∃ i,i∈D∧h.live i∧m i=a) (hST:∀ a,S a→T a) (c':B5 S' m' AH.emp hc') (a':D5 T m AH.emp hc S' m' AH.emp hc'):B5 S' m (h.kills D) hc'∧D5 S m h hc S' m (h.kills D) hc':=by
 have lt:∀ i,h.live i→i<h.next∧m i<hc.next:=fun i hi=>by
  obtain ⟨k,hk⟩:=Option.ne_none_iff_exists'.1 hi;exact ⟨(c.blk i k hk).1,(c.blk i k hk).2.1⟩
 have live:∀ i,(h.kills D).live i→h.live i∧i∉D:=fun i hi=>by
  simp only [AH.live,AH.kills] at hi
  split at hi
  ·simp at hi
  ·exact ⟨hi,by assumption⟩
 have fr:∀ a,a<hc.next→hc'.get a=hc.get a:=fun a ha=>a'.frame a ha (fun i hi=>by simp [AH.live,AH.emp] at hi)
 have pm:Gt S m hc.get h.next S' m hc'.get h.next:=⟨fun a h=>a'.sub a (hST a h),fun a ha=>fr a (c.low a ha),fun _ _=>rfl,Nat.le_refl _⟩
 have nw:∀ a,S' a→S a∨hc.next≤a∨∃ i,i∈D∧h.live i∧m i=a:=fun a ha=>by
  rcases a'.new a ha with h1 | h1 | ⟨i,hi,_⟩
  ·rcases hT a h1 with h2 | h2
   ·exact .inl h2
   ·exact .inr (.inr h2)
  ·exact .inr (.inl h1)
  ·simp [AH.live,AH.emp] at hi
 refine ⟨⟨fun i k hk=>?_,fun i j hi hj=>c.inj i j (live i hi).1 (live j hj).1,fun i hi hs=>?_,c'.low,fun i hi hl=>by rw [a'.lim1];exact c.lim i (live i hi).1 hl,c'.bnd,c.bnd2⟩,⟨fun a h=>a'.sub a (hST a h),fun a ha=>?_,fun _ _=>rfl,Nat.le_refl _,a'.next1,rfl,a'.lim1,fun a ha _=>fr a ha,fun i hi=>.inl ⟨(lt i (live i hi).1).1,(live i hi).1⟩⟩⟩
 ·have hk2:h.get i=some k:=by
   simp only [AH.kills] at hk
   split at hk
   ·simp at hk
   ·exact hk
  obtain ⟨h1,h2,cs,h3,h4⟩:=c.blk i k hk2
  exact ⟨h1,Nat.lt_of_lt_of_le h2 a'.next1,cs,by rw [fr _ h2];exact h3,h4.mono pm⟩
 ·obtain ⟨hi,hD⟩:=live i hi
  rcases nw _ hs with h1 | h1 | ⟨j,hj,hlj,he⟩
  ·exact c.off i hi h1
  ·have:=(lt i hi).2;omega
  ·exact hD (c.inj j i hlj hi he▸hj)
 ·rcases nw a ha with h1 | h1 | ⟨i,_,hi,he⟩
  ·exact .inl h1
  ·exact .inr (.inl h1)
  ·exact .inr (.inr ⟨i,hi,he⟩)
theorem Pf.go {f:Nat} {args:List V} {R:V} {h:AH} {K:V→AH→Prop} (pf:Pf tp f args R) (hp:Ed args=true) (k:Gu R→K R h):Cq tp f args h K:=by
 intro S m hc args1 c p
 refine (pf S m hc args1 (B5.emp c.low c.bnd m) (p.pur hp)).imp ?_
 rintro r1 hc' ⟨r,h',S',m',c',a',q,rfl,rfl⟩
 obtain ⟨c2,a2⟩:=c.after (D:=[]) (T:=S) (fun a h=>.inl h) (fun a h=>h) c' a'
 have e:h.kills []=h:=by simp [AH.kills]
 rw [e] at c2 a2
 exact ⟨r,h,S',m,c2,a2,q.up _ _,k ⟨_,_,_,_,_,q⟩⟩
theorem Pf.take {f:Nat} {args A:List V} {R:V} {h:AH} {K:V→AH→Prop} (D:List Nat) (pf:Pf tp f A R) (fz:BI (·∈D) h 0 args A) (k:Gu R→K R (h.kills D)):Cq tp f args h K:=by
 intro S m hc args1 c p
 have q:=BI.ok c fz p
 refine (pf _ m hc args1 (B5.emp (SP.low c) c.bnd m) q).imp ?_
 rintro r1 hc' ⟨r,h',S',m',c',a',q,rfl,rfl⟩
 obtain ⟨c2,a2⟩:=c.after (D:=D) (fun a h=>h) (fun a h=>.inl h) c' a'
 exact ⟨r,_,S',m,c2,a2,q.up _ _,k ⟨_,_,_,_,_,q⟩⟩
mutual
def flat0:V→Bool
 | .b _ | .i .. | .s _ | .np | .ns | .e0 | .nf | .ni | .u=>true
 | .agg l=>JI l
 | .tup l=>JI l
 | _=>false
def JI:List V→Bool
 | []=>true
 | v::l=>flat0 v&&JI l
end
mutual
theorem PR.flat0 {S S':Nat→Prop} {m m':Nat→Nat} {g g':Nat→Option Bm} {n n':Nat}:∀ {v v1:V},PR S m g n v v1→flat0 v=true→PR S' m' g' n' v v1
 | _,_,.u _ x,_=>.u _ x
 | _,_,.b _ x,_=>.b _ x
 | _,_,.i _ k z,_=>.i _ k z
 | _,_,.s _ x,_=>.s _ x
 | _,_,.np _,_=>.np _
 | _,_,.ns _,_=>.ns _
 | _,_,.e0 _,_=>.e0 _
 | _,_,.nf _,_=>.nf _
 | _,_,.ni _,_=>.ni _
 | _,_,.p _ _ _ _ _,h=>by simp [Go.Ab.flat0] at h
 | _,_,.sl _ _ _ _ _ _,h=>by simp [Go.Ab.flat0] at h
 | _,_,.fl0 _ sz,h=>by simp [Go.Ab.flat0] at h
 | _,_,.fl1 _ sz,h=>by simp [Go.Ab.flat0] at h
 | _,_,.fl ..,h=>by simp [Go.Ab.flat0] at h
 | _,_,.fp ..,h=>by simp [Go.Ab.flat0] at h
 | _,_,.f ..,h=>by simp [Go.Ab.flat0] at h
 | _,_,.ifc ..,h=>by simp [Go.Ab.flat0] at h
 | _,_,.agg _ l l' p,h=>by simp only [Go.Ab.flat0] at h;exact .agg _ l l' (Bb.flat0 p h)
 | _,_,.tup _ l l' p,h=>by simp only [Go.Ab.flat0] at h;exact .tup _ l l' (Bb.flat0 p h)
theorem Bb.flat0 {S S':Nat→Prop} {m m':Nat→Nat} {g g':Nat→Option Bm} {n n':Nat}:∀ {v v1:List V},Bb S m g n v v1→JI v=true→Bb S' m' g' n' v v1
 | _,_,.nil _,_=>.nil _
 | _,_,.cons _ v v' l l' p q,h=>by
  simp only [JI,Bool.and_eq_true] at h
  exact .cons _ _ _ _ _ (PR.flat0 p h.1) (Bb.flat0 q h.2)
end
theorem Pf.look {f:Nat} {args A:List V} {R:V} {h:AH} {K:V→AH→Prop} (pf:Pf tp f A R) (fz:BI (fun _=>True) h 0 args A) (hR:flat0 R=true) (k:Gu R→K R h):Cq tp f args h K:=by
 intro S m hc args1 c p
 have q:=BI.ok c fz p
 refine (pf _ m hc args1 (B5.emp (SP.low c) c.bnd m) q).imp ?_
 rintro r1 hc' ⟨r,h',S',m',c',a',q,rfl,rfl⟩
 have lt:∀ i,h.live i→i<h.next∧m i<hc.next:=fun i hi=>by
  obtain ⟨k,hk⟩:=Option.ne_none_iff_exists'.1 hi;exact ⟨(c.blk i k hk).1,(c.blk i k hk).2.1⟩
 have fr:∀ a,a<hc.next→hc'.get a=hc.get a:=fun a ha=>a'.frame a ha (fun i hi=>by simp [AH.live,AH.emp] at hi)
 have pm:Gt S m hc.get h.next S m hc'.get h.next:=⟨fun a h=>h,fun a ha=>fr a (c.low a ha),fun _ _=>rfl,Nat.le_refl _⟩
 refine ⟨r,h,S,m,⟨fun i k hk=>?_,c.inj,c.off,fun a ha=>Nat.lt_of_lt_of_le (c.low a ha) a'.next1,fun i hi hl=>by rw [a'.lim1];exact c.lim i hi hl,c'.bnd,c.bnd2⟩,⟨fun a h=>h,fun a h=>.inl h,fun _ _=>rfl,Nat.le_refl _,a'.next1,rfl,a'.lim1,fun a ha _=>fr a ha,fun i hi=>.inl ⟨(lt i hi).1,hi⟩⟩,q.flat0 hR,k ⟨_,_,_,_,_,q⟩⟩
 obtain ⟨h1,h2,cs,h3,h4⟩:=c.blk i k hk
 exact ⟨h1,Nat.lt_of_lt_of_le h2 a'.next1,cs,by rw [fr _ h2];exact h3,h4.mono pm⟩
end
end Go.Ab
/- The rules for code over values that stay, as a set for simp; slices that are one's own. -/
namespace Go.Ab
open Go
theorem Env.set_get {e:Env} {d j:Nat} {v:V}:(e.set (some d) v) j=if j=d then v else e j:=Af rfl
theorem Env.set_none {e:Env} {v:V}:e.set none v=e:=Af rfl
/-! ### The heap -/
def Rj {α:Type} (i n:Nat) (a b:α):α:=if i=n then a else b
theorem AI {α:Type} {i n:Nat} {a b:α} (h:i=n):Rj i n a b=a:=if_pos h
theorem Am {α:Type} {i n:Nat} {a b:α} (h:¬ i=n):Rj i n a b=b:=if_neg h
theorem A0 {h:AH} {k:Bm} {i:Nat}:(h.alloc k).get i=Rj i h.next (some k) (h.get i):=Af rfl
theorem Ah {h:AH} {k:Bm} {i j:Nat}:(h.put j k).get i=Rj i j (some k) (h.get i):=Af rfl
theorem Fk {h:AH} {i j:Nat}:(h.kill j).get i=Rj i j none (h.get i):=Af rfl
theorem Ow {h:AH} {i:Nat}:h.raise.get i=h.get i:=Af rfl
theorem Ri {h:AH} {i l:Nat}:(h.back l).get i=h.get i:=Af rfl
theorem Ad {h:AH} {k:Bm}:(h.alloc k).next=h.next+1:=Af rfl
theorem Ag {h:AH} {k:Bm} {j:Nat}:(h.put j k).next=h.next:=Af rfl
theorem En {h:AH} {j:Nat}:(h.kill j).next=h.next:=Af rfl
theorem Hg {h:AH}:h.raise.next=h.next:=Af rfl
theorem OU {h:AH} {l:Nat}:(h.back l).next=h.next:=Af rfl
theorem Bl {h:AH} {k:Bm}:(h.alloc k).lim=h.lim:=Af rfl
theorem GE {h:AH} {k:Bm} {j:Nat}:(h.put j k).lim=h.lim:=Af rfl
theorem SM {h:AH} {j:Nat}:(h.kill j).lim=h.lim:=Af rfl
theorem Id {h:AH}:h.raise.lim=h.next:=Af rfl
theorem SL {h:AH} {l:Nat}:(h.back l).lim=l:=Af rfl
theorem F3 {h:AH} {k:Bm}:(h.raise.alloc k).back h.lim=h.alloc k:=Af rfl
theorem EY {h:AH}:h.raise.back h.lim=h:=Af rfl
section
variable {tp:TP} {e:Env} {h:AH}
/-! ### Code -/
def Z1 (tp:TP) (o:O) (e:Env) (h:AH) (K:V→AH→Prop) (t:Fz K:=.mk):Prop:=z1 tp o e h K
def CR (tp:TP) (o:O) (e:Env) (h:AH) (K:V→AH→Prop) (t:Fz K:=.mk):Prop:=nP tp o e h K
def Jo (tp:TP) (l:List TO) (e:Env) (h:AH) (K:Env→AH→Prop) (t:Fz (PProd.mk e K):=.mk):Prop:=HV tp l e h K
def ZQ (tp:TP) (l:List TO) (e:Env) (h:AH) (K:Env→AH→Prop) (t:Fz (PProd.mk e K):=.mk):Prop:=zq tp l e h K
def ZS (tp:TP) (l:List (Bool×List TO)) (e:Env) (h:AH) (K:Env→AH→Prop) (t:Fz (PProd.mk e K):=.mk):Prop:=zs tp l e h K
def ZC (tp:TP) (c:TC) (e:Env) (h:AH) (K:Ex→Env→AH→Prop) (t:Fz (PProd.mk e K):=.mk):Prop:=zc tp c e h K
theorem U3 {K:Ex→Env→AH→Prop}:ZC tp .skip e h K=K .nm e h:=Af rfl
theorem fW {K:Ex→Env→AH→Prop}:ZC tp .ret e h K=K .rt e h:=Af rfl
theorem U2 {id:Nat} {K:Ex→Env→AH→Prop}:ZC tp (.exit id) e h K=K (.ex id) e h:=Af rfl
theorem fV {ops:List TO} {K:Ex→Env→AH→Prop}:ZC tp (.reg ops) e h K=Jo tp ops e h (fun e h=>K .nm e h):=Af rfl
theorem U1 {ops:List (Bool×List TO)} {K:Ex→Env→AH→Prop}:ZC tp (.dreg ops) e h K=ZS tp ops e h (fun e h=>K .nm e h):=Af rfl
theorem U0 {c:X} {a b:TC} {K:Ex→Env→AH→Prop}:ZC tp (.cond c a b) e h K=Wb (c.e2 e) (ZC tp a e h K) (ZC tp b e h K):=Af rfl
theorem Qa {id:Nat} {c:TC} {K:Ex→Env→AH→Prop}:ZC tp (.block id c) e h K=ZC tp c e h (fun x e h=>K (blk id x) e h):=Af rfl
theorem fX {a b:TC} {K:Ex→Env→AH→Prop}:ZC tp (.seq a b) e h K=ZC tp a e h (fun x e h=>Pu x (ZC tp b e h K) (K x e h)):=Af rfl
theorem AA {c d:TC} {K:Ex→Env→AH→Prop} (hcd:c=d):ZC tp c e h K=ZC tp d e h K:=by rw [hcd]
theorem Bo {c:TC} {K:Ex→Env→AH→Prop} (z:ZC tp c e h (fun x e h=>Pu x (ZC tp (.loop c) e h K) (K x e h))):ZC tp (.loop c) e h K:=by
 intro I hI hS
 exact hI e h (D0 (c:=c) (fun x e h=>I1 (fun z=>z I hI hS) id) z)
theorem Au {c:TC} {K:Ex→Env→AH→Prop} (J:Nat→Env→AH→Prop) (round:∀ n e h,J n e h→(∀ m e' h',m<n→J m e' h'→ZC tp (.loop c) e' h' K)→ZC tp c e h (fun x e h=>Pu x (ZC tp (.loop c) e h K) (K x e h))):∀ n e h,J n e h→ZC tp (.loop c) e h K:=by
 intro n
 induction n using Nat.strongRecOn with
 | _ n ih=>intro e h hj;exact Bo (round n e h hj (fun m e' h' hm hj'=>ih m hm e' h' hj'))
theorem ZC.imp {c:TC} {K L:Ex→Env→AH→Prop} (z:ZC tp c e h K) (kl:∀ x e h,K x e h→L x e h):ZC tp c e h L:=D0 (c:=c) kl z
theorem T7 {v:V} {x:Bool} {A B:Prop}:(match (match v with | .b y=>some (y==x) | .tup []=>some false | _=>none:Option Bool) with | some true=>A | some false=>B | none=>False)=Wg v x A B:=by
 cases v with
 | b y=>cases y<;>cases x<;>simp [Wg]
 | tup l=>cases l<;>simp [Wg]
 | _=>simp [Wg]
theorem Qb {K:Env→AH→Prop}:Jo tp [] e h K=K e h:=Af rfl
theorem Qc {d:Option Nat} {o:O} {r:List TO} {K:Env→AH→Prop}:Jo tp (⟨d,o,none⟩::r) e h K=Z1 tp o e h (fun v h=>Jo tp r (e.set d v) h K):=Af rfl
theorem fY {d:Option Nat} {o:O} {t:Nat} {x:Bool} {r:List TO} {K:Env→AH→Prop}:Jo tp (⟨d,o,some (t,x)⟩::r) e h K=Wg (e t) x (Z1 tp o e h (fun v h=>Jo tp r (e.set d v) h K)) (Jo tp r (e.set d (.tup [])) h K):=by
 exact T7
theorem gI {K:Env→AH→Prop}:ZS tp [] e h K=K e h:=Af rfl
theorem gH {l:List TO} {r:List (Bool×List TO)} {K:Env→AH→Prop}:ZS tp ((false,l)::r) e h K=Jo tp l e h (fun e h=>ZS tp r e h K):=Af rfl
theorem Qs {l:List TO} {r:List (Bool×List TO)} {K:Env→AH→Prop}:ZS tp ((true,l)::r) e h K=ZQ tp l e h (fun e h=>ZS tp r e h K):=Af rfl
theorem gF {K:Env→AH→Prop}:ZQ tp [] e h K=K e h:=Af rfl
theorem gG {d:Option Nat} {o:O} {r:List TO} {K:Env→AH→Prop}:ZQ tp (⟨d,o,none⟩::r) e h K=CR tp o e h (fun v h=>ZQ tp r (e.set d v) h K):=Af rfl
theorem aFF {d:Option Nat} {o:O} {t:Nat} {x:Bool} {r:List TO} {K:Env→AH→Prop}:ZQ tp (⟨d,o,some (t,x)⟩::r) e h K=Wg (e t) x (CR tp o e h (fun v h=>ZQ tp r (e.set d v) h K)) (ZQ tp r (e.set d (.tup [])) h K):=by
 exact T7
end
/-! ### Operations one by one -/
theorem aFJ {e:Env} {n:Nat}:(X.t n).e2 e=e n:=Af rfl
theorem aDZ {e:Env} {k:IntKind} {n:Int}:(X.c (.i k n)).e2 e=.i k n:=Af rfl
theorem aDY {e:Env} {x:Bool}:(X.c (.b x)).e2 e=.b x:=Af rfl
theorem aD0 {e:Env} {x:ByteArray}:(X.c (.s x)).e2 e=.s x:=Af rfl
theorem aD3 {e:Env}:(X.c .np).e2 e=.np:=Af rfl
theorem aD4 {e:Env}:(X.c .ns).e2 e=.ns:=Af rfl
theorem aD1 {e:Env}:(X.c .nf).e2 e=.nf:=Af rfl
theorem aD2 {e:Env}:(X.c .ni).e2 e=.ni:=Af rfl
theorem gW {e:Env} {l:List V} (hl:l.all plain1=true):(X.c (.agg l)).e2 e=.agg l:=by simp [X.e2,plain,hl]
theorem Zh {e:Env} {f:Nat}:(X.fn f).e2 e=.f (.func f) [] []:=Af rfl
theorem Ta {k:IntKind} {n:Int}:plain1 (.i k n)=true:=Af rfl
theorem S9 {x:Bool}:plain1 (.b x)=true:=Af rfl
theorem Tb {x:ByteArray}:plain1 (.s x)=true:=Af rfl
theorem O1:plain1 .np=true:=Af rfl
theorem O2:plain1 .ns=true:=Af rfl
theorem OZ:plain1 .nf=true:=Af rfl
theorem O0:plain1 .ni=true:=Af rfl
section
variable {tp:TP} {e:Env} {h:AH} {K:V→AH→Prop}
def asB:V→Option Bool | .b x=>some x | _=>none
theorem aDU {x:Bool}:asB (.b x)=some x:=Af rfl
theorem aDR {x:X}:Z1 tp (.mv x) e h K=Wv (x.e2 e) (fun v=>K v h):=by
 unfold Z1;simp only [z1,A7,Aa,AD,Fb]
theorem UW {c a b:X}:Z1 tp (.pick c a b) e h K=Wo (asB (c.e2 e)) (fun t=>Wv (if t then a.e2 e else b.e2 e) (fun v=>K v h)):=by
 unfold Z1;simp only [z1,A7,Aa,asB]
 cases c.e2 e<;>simp only [AD,AN,Fb]
theorem GN {z:List V}:Z1 tp (.alloc z) e h K=(z.all plain1=true∧Wv (.p h.next 0 0) (fun v=>Wv (h.alloc ⟨z.length,[z]⟩) (fun h'=>K v h'))):=by
 unfold Z1;simp only [z1,A7,Aa,BL,AD,Fb]
theorem LF {x:X}:Z1 tp (.box x) e h K=((x.e2 e).cells.all V.isCell=true∧Wv (.p h.next 0 0) (fun v=>Wv (h.alloc ⟨(x.e2 e).cells.length,[(x.e2 e).cells]⟩) (fun h'=>K v h'))):=by
 unfold Z1;simp only [z1,A7,Aa,BL,AD,Fb]
theorem P4 {z:List V} {ps:List (Nat×Nat×X)}:Z1 tp (.build z ps) e h K=(z.all plain1=true∧Wo (Dy z (ps.map fun q=>(q.1,q.2.1,q.2.2.e2 e))) (fun r=>K (.agg r) h)):=by
 unfold Z1;simp only [z1,A7,Aa,BL,A5]
theorem LG {sz n:Nat} {z:List V} {ps:List (Nat×X)}:Z1 tp (.bsl sz z n ps) e h K=((z.all plain1=true∧n<4294967296)∧Wo (BB sz (List.replicate n z) (ps.map fun q=>(q.1,q.2.e2 e))) (fun r=>Wv (.sl h.next 0 n n) (fun v=>Wv (h.alloc ⟨sz,r⟩) (fun h'=>K v h')))):=by
 unfold Z1;simp only [z1,A7,Aa];rw [BL,A5];rfl
theorem IA {sz n:Nat} {z:List V} {ps:List (Nat×X)}:Z1 tp (.bslc sz z n ps) e h K=((z.all plain1=true∧n<4294967296)∧Wo (BB sz (List.replicate n z) (ps.map fun q=>(q.1,q.2.e2 e))) (fun r=>Wv (.sl h.next 0 n n) (fun v=>Wv (h.alloc ⟨sz,r⟩) (fun h'=>K v h')))):=by
 unfold Z1;simp only [z1,A7,Aa];rw [BL,A5];rfl
def fF (sz n:Nat) (z:List V) (ps:List (Nat×V)) (y:V) (h:AH) (K:V→AH→Prop) (t:Fz K:=.mk):Prop:=match y with
 | .sl id el len cap=>Wo (BB sz (List.replicate n z) ps) (fun r=>h.get id=some ⟨sz,r⟩∧(el=0∧len=n∧cap=n)∧AY r r=true∧Wv V.u (fun v=>K v h))
 | _=>False
theorem UC {sz n id el len cap:Nat} {z:List V} {ps:List (Nat×V)}:fF sz n z ps (.sl id el len cap) h K=Wo (BB sz (List.replicate n z) ps) (fun r=>h.get id=some ⟨sz,r⟩∧(el=0∧len=n∧cap=n)∧AY r r=true∧Wv V.u (fun v=>K v h)):=Af rfl
theorem UM {sz n:Nat} {z:List V} {ps:List (Nat×X)} {y:X}:Z1 tp (.chkb sz z n ps y) e h K=(z.all plain1=true∧fF sz n z (ps.map fun q=>(q.1,q.2.e2 e)) (y.e2 e) h K):=by
 unfold Z1;simp only [z1,A7,BL]
 congr 1
 simp only [Aa]
 generalize y.e2 e=v
 cases v<;>simp only [fF,AN]
 rename_i id el len cap
 rw [Bd]
 refine DH fun r=>?_
 apply propext
 constructor
 ·rintro ⟨⟨v,h'⟩,h1,k⟩
  simp only [Option.bind_eq_some_iff] at h1
  obtain ⟨b,hb,h1⟩:=h1
  split at h1
  case isFalse=>simp at h1
  rename_i hs
  simp at h1
  obtain ⟨rfl,rfl⟩:=h1
  obtain ⟨e1,e2,e3,e4,e5⟩:=hs
  have:=CI e5
  subst this
  obtain ⟨s,cs⟩:=b
  simp only at e4 e5 hb
  subst e4
  exact ⟨hb,⟨e1,e2,e3⟩,e5,k⟩
 ·rintro ⟨hb,⟨e1,e2,e3⟩,e5,k⟩
  exact ⟨(.u,h),by rw [hb];simp only [Option.bind_some];rw [if_pos ⟨e1,e2,e3,trivial,e5⟩],k⟩
theorem LD {z:List V}:Z1 tp (.alc z) e h K=(z.all plain1=true∧Wv (.p h.next 0 0) (fun v=>Wv (h.alloc ⟨z.length,[z]⟩) (fun h'=>K v h'))):=by
 unfold Z1;simp only [z1,A7,Aa];rw [BL,AD];rfl
def fD (z:List V) (y:V) (h:AH) (K:V→AH→Prop) (t:Fz K:=.mk):Prop:=match y with
 | .p id el off=>h.get id=some ⟨z.length,[z]⟩∧(el=0∧off=0)∧AY [z] [z]=true∧Wv V.u (fun v=>K v h)
 | _=>False
theorem fE {id el off:Nat} {z:List V}:fD z (.p id el off) h K=(h.get id=some ⟨z.length,[z]⟩∧(el=0∧off=0)∧AY [z] [z]=true∧Wv V.u (fun v=>K v h)):=Af rfl
theorem UL {z:List V} {y:X}:Z1 tp (.chka z y) e h K=(z.all plain1=true∧fD z (y.e2 e) h K):=by
 unfold Z1;simp only [z1,A7,BL]
 congr 1
 simp only [Aa]
 generalize y.e2 e=v
 cases v<;>simp only [fD,AN]
 rename_i id el off
 apply propext
 constructor
 ·rintro ⟨⟨v,h'⟩,h1,k⟩
  simp only [Option.bind_eq_some_iff] at h1
  obtain ⟨b,hb,h1⟩:=h1
  split at h1
  case isFalse=>simp at h1
  rename_i hs
  simp at h1
  obtain ⟨rfl,rfl⟩:=h1
  obtain ⟨e1,e2,e3,e5⟩:=hs
  obtain ⟨s,cs⟩:=b
  simp only at e3 e5 hb
  have:=CI e5
  subst this
  subst e3
  exact ⟨hb,⟨e1,e2⟩,e5,k⟩
 ·rintro ⟨hb,⟨e1,e2⟩,e5,k⟩
  exact ⟨(.u,h),by rw [hb];simp only [Option.bind_some];rw [if_pos ⟨e1,e2,trivial,e5⟩],k⟩
theorem Ja:AY [] []=true:=Af rfl
theorem HT {a b:List V} {l m:List (List V)}:AY (a::l) (b::m)=(Bc a b&&AY l m):=Af rfl
theorem Kf:Bc [] []=true:=Af rfl
theorem I9 {a b:V} {l m:List V}:Bc (a::l) (b::m)=(sameV a b&&Bc l m):=Af rfl
theorem aDO:Z1 tp .e0 e h K=K .e0 h:=by unfold Z1;simp only [z1,A7,Aa,AD]
def Ue (k:Option Bm) (el off n:Nat) (agg:Bool):Option V:=k.bind fun k=>(k.cs[el]?).bind fun r=>FO r off n agg
def Uf (h:AH) (n:Nat) (agg:Bool):V→Option V | .p id el off=>Ue (h.get id) el off n agg | .fp _ xs j off=>ldF n agg xs j off | _=>none
theorem aEm {id el off n:Nat} {agg:Bool}:Uf h n agg (.p id el off)=Ue (h.get id) el off n agg:=Af rfl
theorem lM {s j off n:Nat} {xs:List (List V)} {agg:Bool}:Uf h n agg (.fp s xs j off)=(xs[j]?).bind fun r=>FO r off n agg:=Af rfl
theorem SJ {sz el off n:Nat} {cs:List (List V)} {agg:Bool}:Ue (some ⟨sz,cs⟩) el off n agg=(cs[el]?).bind fun r=>FO r off n agg:=Af rfl
theorem QT {n:Nat} {agg:Bool} {x:X} {ev:X→V}:A7 (.load n agg x) ev h=(Uf h n agg (ev x)).map fun v=>(v,h):=by
 simp only [A7,Aa]
 cases ev x<;>simp only [Uf,Ue]<;>try rfl
 rename_i id el off
 cases h.get id with
 | none=>rfl
 | some k=>
  simp only [Option.bind_some]
  cases k.cs[el]?<;>rfl
theorem Ok {n:Nat} {ag:Bool} {x:X} {ev:X→V}:A7 (.fload n ag x) ev h=(Uf h n ag (ev x)).map fun v=>(v,h):=by
 simp only [A7,Aa]
 cases ev x<;>simp only [Uf,Ue]<;>try rfl
 rename_i id el off
 cases h.get id with
 | none=>rfl
 | some k=>
  simp only [Option.bind_some]
  cases k.cs[el]?<;>rfl
theorem IB {n:Nat} {agg:Bool} {x:X}:Z1 tp (.load n agg x) e h K=Wo (Uf h n agg (x.e2 e)) (fun v=>K v h):=by
 unfold Z1;simp only [z1,QT,A5]
theorem P8 {n:Nat} {ag:Bool} {x:X}:Z1 tp (.fload n ag x) e h K=Wo (Uf h n ag (x.e2 e)) (fun v=>K v h):=by
 unfold Z1;simp only [z1,Ok,A5]
def gR (h:AH) (n:Nat) (ag:Bool):V→Option V | .p id el off=>Ue (h.get id) el off n ag | _=>none
theorem gT {id el off n:Nat} {ag:Bool}:gR h n ag (.p id el off)=Ue (h.get id) el off n ag:=Af rfl
theorem fJ {n:Nat} {ag:Bool} {x y:X}:Z1 tp (.chk n ag x y) e h K=Wo (gR h n ag (x.e2 e)) (fun v=>Wo (if Br v (y.e2 e)=true then some V.u else none) (fun u=>K u h)):=by
 unfold Z1;simp only [z1,A7,Aa,gR,Ue]
 cases x.e2 e<;>simp only [AN]
 rw [Bd,Bd]
 refine DH fun k=>?_
 rw [Bd,Bd]
 refine DH fun r=>?_
 rw [Bd]
 refine DH fun v=>?_
 split<;>simp only [AN,AD]
theorem MB {l m:List V}:Br (.agg l) (.agg m)=Bc l m:=Af rfl
theorem sameVa_sl {a b c d:Nat}:Br (.sl a b c d) (.sl a b c d)=true:=by simp [Br,sameV]
theorem TB {a b c:Nat}:Br (.p a b c) (.p a b c)=true:=by simp [Br,sameV]
theorem Pd:Br .ns .ns=true:=Af rfl
theorem Tz {x:Bool}:Br (.b x) (.b x)=true:=by simp [Br,sameV]
theorem TA {k:IntKind} {n:Int}:Br (.i k n) (.i k n)=true:=by simp [Br,sameV]
theorem Ty {a b c d:Nat}:sameV (.sl a b c d) (.sl a b c d)=true:=by simp [sameV]
theorem W4 {a b c:Nat}:sameV (.p a b c) (.p a b c)=true:=by simp [sameV]
theorem Tx:sameV .ns .ns=true:=Af rfl
theorem W2 {x:Bool}:sameV (.b x) (.b x)=true:=by simp [sameV]
theorem W3 {k:IntKind} {n:Int}:sameV (.i k n) (.i k n)=true:=by simp [sameV]
def JW (g:Option Bm) (l id el len cap:Nat):Option V:=if g.isSome=true∧l≤id∧0<cap then some (.sl id el len cap) else none
def SO (h:AH):V→Option V | .sl id el len cap=>JW (h.get id) h.lim id el len cap | _=>none
theorem SQ {id el len cap:Nat}:SO h (.sl id el len cap)=JW (h.get id) h.lim id el len cap:=Af rfl
theorem SN {k:Bm} {l id el len cap:Nat} (h1:l≤id) (h2:0<cap):JW (some k) l id el len cap=some (.sl id el len cap):=by simp [JW,h1,h2]
theorem US {x:X}:Z1 tp (.mark x) e h K=Wo (SO h (x.e2 e)) (fun v=>K v h):=by
 unfold Z1;simp only [z1,A7,Aa,SO,JW]
 cases x.e2 e<;>simp only [AN]
 split<;>simp only [AN,AD]
def Wst (tp:TP) (n:Nat) (p v:V) (h:AH) (K:AH→Prop) (t:Fz K:=.mk):Prop:=match p with
 | .p id el off=>(h.lim≤id∧0<n∧v.cells.length=n∧v.cells.all V.isCell=true)∧Wo (h.get id) (fun k=>Wo (k.cs[el]?) (fun r=>off+n≤r.length∧Wv (h.put id ⟨k.sz,k.cs.set el (over r off v.cells)⟩) K))
 | _=>False
def fG (tp:TP) (l n id el off:Nat) (v:V) (h:AH) (K:AH→Prop) (t:Fz K:=.mk):Prop:=(l≤id∧0<n∧v.cells.length=n∧v.cells.all V.isCell=true)∧Wo (h.get id) (fun k=>Wo (k.cs[el]?) (fun r=>off+n≤r.length∧Wv (h.put id ⟨k.sz,k.cs.set el (over r off v.cells)⟩) K))
theorem aDN {n id el off:Nat} {v:V} {K:AH→Prop}:Wst tp n (.p id el off) v h K=fG tp h.lim n id el off v h K:=Af rfl
theorem UJ {l n id el off:Nat} {v:V} {K:AH→Prop} (hl:l≤id):fG tp l n id el off v h K=((0<n∧v.cells.length=n∧v.cells.all V.isCell=true)∧Wo (h.get id) (fun k=>Wo (k.cs[el]?) (fun r=>off+n≤r.length∧Wv (h.put id ⟨k.sz,k.cs.set el (over r off v.cells)⟩) K))):=by
 simp only [fG,hl,true_and]
theorem P9 {n:Nat} {a x:X}:Z1 tp (.store n a x) e h K=Wst tp n (a.e2 e) (x.e2 e) h (K .u):=by
 unfold Z1;simp only [z1,A7,Aa,Wst]
 cases a.e2 e<;>simp only [AN]
 rw [BL,Bd]
 congr 1
 refine DH fun k=>?_
 rw [Bd]
 refine DH fun r=>?_
 rw [BL,AD];rfl
def Mg:V→Option V | .p id el off=>some (.p id el off) | .fp s xs j o=>some (.fp s xs j o) | .ifc t v=>some (.ifc t v) | .f (.func g) a b=>some (.f (.func g) a b) | _=>none
theorem lP {a b c:Nat}:Mg (.p a b c)=some (.p a b c):=Af rfl
theorem Wt {s j o:Nat} {xs:List (List V)}:Mg (.fp s xs j o)=some (.fp s xs j o):=Af rfl
theorem SV {t:Nat} {v:V}:Mg (.ifc t v)=some (.ifc t v):=Af rfl
theorem lO {g:Nat} {a b:List V}:Mg (.f (.func g) a b)=some (.f (.func g) a b):=Af rfl
theorem fT {x:X}:Z1 tp (.nck x) e h K=Wo (Mg (x.e2 e)) (fun v=>K v h):=by
 unfold Z1;simp only [z1,A7,Aa]
 generalize x.e2 e=v
 cases v with
 | f g a b=>cases g<;>simp only [Mg,AD,AN]
 | _=>simp only [Mg,AD,AN]
theorem fI {op:BinOp} {x y:X}:Z1 tp (.bin op x y) e h K=Wo (Bp op (x.e2 e) (y.e2 e)) (fun v=>K v h):=by unfold Z1;simp only [z1,A7,Aa,A5]
theorem GO {n:Bool} {k:EK} {x y:X} (hk:k≠.sl):Z1 tp (.eq n k x y) e h K=Wo (D2 k (x.e2 e) (y.e2 e)) (fun r=>Wv (.b (if n then !r else r)) (fun v=>K v h)):=by
 unfold Z1;cases k<;>first | (exact absurd rfl hk) | (simp only [z1,A7,Aa,A5];rfl)
theorem fK {n:Bool} {x y:X}:Z1 tp (.eq n .b x y) e h K=Wo (D2 .b (x.e2 e) (y.e2 e)) (fun r=>Wv (.b (if n then !r else r)) (fun v=>K v h)):=GO (by simp)
theorem P7 {n:Bool} {x y:X}:Z1 tp (.eq n .ptr x y) e h K=Wo (D2 .ptr (x.e2 e) (y.e2 e)) (fun r=>Wv (.b (if n then !r else r)) (fun v=>K v h)):=GO (by simp)
theorem UO {n:Bool} {x y:X}:Z1 tp (.eq n .fn x y) e h K=Wo (D2 .fn (x.e2 e) (y.e2 e)) (fun r=>Wv (.b (if n then !r else r)) (fun v=>K v h)):=GO (by simp)
theorem P6 {n:Bool} {x y:X}:Z1 tp (.eq n .ifc x y) e h K=Wo (D2 .ifc (x.e2 e) (y.e2 e)) (fun r=>Wv (.b (if n then !r else r)) (fun v=>K v h)):=GO (by simp)
theorem P5 {n:Bool} {ks:List CK} {x y:X}:Z1 tp (.eq n (.agg ks) x y) e h K=Wo (D2 (.agg ks) (x.e2 e) (y.e2 e)) (fun r=>Wv (.b (if n then !r else r)) (fun v=>K v h)):=GO (by simp)
def Jm (neg:Bool) (v w:V) (h:AH) (K:V→AH→Prop) (t:Fz K:=.mk):Prop:=MN neg v w h K
theorem UP {n:Bool} {x y:X}:Z1 tp (.eq n .sl x y) e h K=Jm n (x.e2 e) (y.e2 e) h K:=Af rfl
theorem UG {n:Bool} {s:Nat} {xs:List (List V)}:Jm n (.fl s xs) .ns h K=∀ t:Bool,(xs≠[]→t=false)→Wv (.b (if n then !t else t)) (fun v=>K v h):=Af rfl
theorem UH {n:Bool}:Jm n .ns .ns h K=Wv (.b (if n then false else true)) (fun v=>K v h):=by
 unfold Jm MN;simp only [D2,AD,Bool.not_true];rfl
theorem UF {n:Bool}:Jm n .e0 .ns h K=Wv (.b (if n then true else false)) (fun v=>K v h):=by
 unfold Jm MN;simp only [D2,AD,Bool.not_false];rfl
theorem UI {n:Bool} {a b c d:Nat}:Jm n (.sl a b c d) .ns h K=Wv (.b (if n then true else false)) (fun v=>K v h):=by
 unfold Jm MN;simp only [D2,AD,Bool.not_false];rfl
theorem aDT {op:UnOp} {x:X}:Z1 tp (.un op x) e h K=Wo (ZD op (x.e2 e)) (fun v=>K v h):=by unfold Z1;simp only [z1,A7,Aa,A5]
def QM (k:IntKind):V→Option V | .i _ n=>some (.i k (k.wrap n)) | _=>none
theorem VN {k j:IntKind} {n:Int}:QM k (.i j n)=some (.i k (k.wrap n)):=Af rfl
theorem UN {k:IntKind} {x:X}:Z1 tp (.conv k x) e h K=Wo (QM k (x.e2 e)) (fun v=>K v h):=by
 unfold Z1;simp only [z1,A7,Aa,QM]
 cases x.e2 e<;>simp only [AD,AN]
def TL:V→Option V | .s x=>some (.s x) | _=>none
theorem Xb {x:ByteArray}:TL (.s x)=some (.s x):=Af rfl
theorem UZ {x:X}:Z1 tp (.strs x) e h K=Wo (TL (x.e2 e)) (fun v=>K v h):=by
 unfold Z1;simp only [z1,A7,Aa,TL]
 cases x.e2 e<;>simp only [AD,AN]
def lB:V→Option V | .i _ n=>some (.s (Utf8.encode n)) | _=>none
theorem lC {k:IntKind} {n:Int}:lB (.i k n)=some (.s (Utf8.encode n)):=Af rfl
theorem fO {x:X}:Z1 tp (.i2s x) e h K=Wo (lB (x.e2 e)) (fun v=>K v h):=by
 unfold Z1;simp only [z1,A7,Aa,lB]
 cases x.e2 e<;>simp only [AD,AN]
def asS:V→Option ByteArray | .s x=>some x | _=>none
theorem aDV {x:ByteArray}:asS (.s x)=some x:=Af rfl
theorem LH {x:X}:Z1 tp (.s2b x) e h K=Wo (asS (x.e2 e)) (fun b=>b.size<4294967296∧Wv (.sl h.next 0 b.size b.size) (fun v=>Wv (h.alloc ⟨1,Bw b⟩) (fun h'=>K v h'))):=by
 unfold Z1;simp only [z1,A7,Aa,asS]
 cases hx:x.e2 e<;>simp only [AD,AN]
 rw [BL,AD];rfl
def Ee (sz:Nat) (h:AH) (v:V):Option (List (List V)):=Dr sz h v
theorem Tr {sz:Nat} {xs:List (List V)}:Ee sz h (.fl sz xs)=some xs:=by simp [Ee,Dr]
theorem Tt {sz:Nat}:Ee sz h .ns=some []:=Af rfl
theorem Tq {sz:Nat}:Ee sz h .e0=some []:=Af rfl
theorem WZ {x:ByteArray}:Ee 1 h (.s x)=some (Bw x):=Af rfl
def Ij (g:Option Bm) (sz el len:Nat):Option (List (List V)):=match g with
 | some k=>if k.sz=sz∧el+len≤k.cs.length then some ((k.cs.drop el).take len) else none
 | none=>none
theorem Kc {sz id el len cap:Nat}:Ee sz h (.sl id el len cap)=Ij (h.get id) sz el len:=Af rfl
theorem Mv {sz el len:Nat} {cs:List (List V)}:Ij (some ⟨sz,cs⟩) sz el len=if el+len≤cs.length then some ((cs.drop el).take len) else none:=by simp [Ij]
theorem Tn {sz el len:Nat} {cs:List (List V)} (hl:el+len≤cs.length):Ij (some ⟨sz,cs⟩) sz el len=some ((cs.drop el).take len):=by simp [Ij,hl]
def Jr (h:AH) (v:V):Option V:=match v with | .s _=>none | v=>(Ee 1 h v).bind fun l=>(bytesOf? l).map fun r=>.s ⟨r.toArray⟩
theorem Vo {xs:List (List V)}:Jr h (.fl 1 xs)=(bytesOf? xs).map fun r=>.s ⟨r.toArray⟩:=by simp [Jr,Ee,Dr]
theorem Vp:Jr h .ns=some (.s ⟨#[]⟩):=Af rfl
theorem Vq {id el len cap:Nat}:Jr h (.sl id el len cap)=(Ij (h.get id) 1 el len).bind fun l=>(bytesOf? l).map fun r=>.s ⟨r.toArray⟩:=Af rfl
theorem LE {x:X}:Z1 tp (.b2s x) e h K=Wo (Jr h (x.e2 e)) (fun v=>K v h):=by
 unfold Z1;simp only [z1,A7,Aa,Jr,Ee,Dr]
 cases x.e2 e<;>simp only [AN]
 case fl s xs=>
  split
  ·rw [A5,Option.bind_some,A5]
  ·simp only [Option.bind_none,AN]
 all_goals (rw [Bd,Bd];refine DH fun a=>?_;rw [A5,A5])
theorem UU {t:Nat} {x:X}:Z1 tp (.mkif t x) e h K=Wv (.ifc t (x.e2 e)) (fun v=>K v h):=by unfold Z1;simp only [z1,A7,Aa,AD,Fb]
theorem UT {fn:Fn} {a c:List X}:Z1 tp (.mkfn fn a c) e h K=Wv (.f fn (a.map (X.e2 e)) (c.map (X.e2 e))) (fun v=>K v h):=by unfold Z1;simp only [z1,A7,Aa,AD,Fb]
def Wmk (z:List V) (n c:V) (h:AH) (K:V→AH→Prop) (t:Fz K:=.mk):Prop:=match n,c with
 | .i _ a,.i _ m=>(0≤a∧a≤m∧m<AV)∧Wv (.sl h.next 0 a.toNat m.toNat) (fun v=>Wv (h.alloc ⟨z.length,List.replicate m.toNat z⟩) (fun h'=>K v h'))
 | _,_=>False
theorem aDK {z:List V} {k j:IntKind} {a m:Int}:Wmk z (.i k a) (.i j m) h K=((0≤a∧a≤m∧m<4294967296)∧Wv (.sl h.next 0 a.toNat m.toNat) (fun v=>Wv (h.alloc ⟨z.length,List.replicate m.toNat z⟩) (fun h'=>K v h'))):=Af rfl
theorem UV {z:List V} {n c:X}:Z1 tp (.mksl z n c) e h K=(z.all plain1=true∧Wmk z (n.e2 e) (c.e2 e) h K):=by
 unfold Z1;simp only [z1,A7,Aa,BL]
 congr 1
 generalize n.e2 e=v
 generalize c.e2 e=w
 cases v<;>cases w<;>simp only [Wmk,AN,BL,AD,Fb]
def Wmz (z:List V) (x n:V) (h:AH) (K:V→AH→Prop) (t:Fz K:=.mk):Prop:=match x,n with
 | .ns,.i _ a=>(0<a∧a<AV)∧Wv (.sl h.next 0 a.toNat a.toNat) (fun v=>Wv (h.alloc ⟨z.length,List.replicate a.toNat z⟩) (fun h'=>K v h'))
 | _,_=>False
theorem aDL {z:List V} {k:IntKind} {a:Int}:Wmz z .ns (.i k a) h K=((0<a∧a<4294967296)∧Wv (.sl h.next 0 a.toNat a.toNat) (fun v=>Wv (h.alloc ⟨z.length,List.replicate a.toNat z⟩) (fun h'=>K v h'))):=Af rfl
theorem UK {z:List V} {x n:X}:Z1 tp (.appz z x n) e h K=(z.all plain1=true∧Wmz z (x.e2 e) (n.e2 e) h K):=by
 unfold Z1;simp only [z1,A7,Aa,BL]
 congr 1
 generalize x.e2 e=v
 generalize n.e2 e=w
 cases v<;>cases w<;>simp only [Wmz,AN,BL,AD,Fb]
def Fy (g:Option Bm) (sz:Nat) (x:V) (lo hi mx:Option V):Option V:=match x with
    | .ns=>if mx.isNone||hi.isSome then (Aw mx 0 0).bind fun m=>(Aw hi 0 m).bind fun t=>(Aw lo 0 t).map fun _=>.ns else none
    | .e0=>if mx.isNone||hi.isSome then (Aw mx 0 0).bind fun m=>(Aw hi 0 m).bind fun t=>(Aw lo 0 t).map fun _=>.e0 else none
    | .sl id el len cap=>
     g.bind fun k=>
      if k.sz=sz∧(mx.isNone||hi.isSome)=true∧len≤cap then
       (Aw mx cap cap).bind fun m=>(Aw hi len m).bind fun t=>(Aw lo 0 t).map fun l=>.sl id (el+l) (t - l) (m - l)
      else none
    | .fl s xs=>if s=sz∧(mx.isNone||hi.isSome)=true then (Aw mx xs.length xs.length).bind fun m=>(Aw hi xs.length m).bind fun t=>(Aw lo 0 t).map fun l=>.fl s ((xs.drop l).take (t - l)) else none
    | _=>none
def Aq:V→Nat | .sl id _ _ _=>id | .p id _ _=>id | _=>0
def CN:V→Nat | .sl _ el _ _=>el | _=>0
theorem lJ {a b c d:Nat}:Aq (.sl a b c d)=a:=Af rfl
theorem gX {a b c d:Nat}:CN (.sl a b c d)=b:=Af rfl
theorem aEg {a b c:Nat}:Aq (.p a b c)=a:=Af rfl
theorem W8 {g:Option Bm} {s:Nat} {xs:List (List V)} {lo hi:Option V}:Fy g s (.fl s xs) lo hi none=(Aw hi xs.length xs.length).bind fun t=>(Aw lo 0 t).map fun l=>.fl s ((xs.drop l).take (t - l)):=by
 simp [Fy,Aw]
theorem TG {g:Option Bm} {s:Nat} {xs:List (List V)} {lo:Option V} {hi mx:V}:Fy g s (.fl s xs) lo (some hi) (some mx)=(Aw (some mx) xs.length xs.length).bind fun m=>(Aw (some hi) xs.length m).bind fun t=>(Aw lo 0 t).map fun l=>.fl s ((xs.drop l).take (t - l)):=by
 simp [Fy]
theorem Ol {sz:Nat} {x:X} {lo hi mx:Option X} {ev:X→V}:A7 (.slice sz x lo hi mx) ev h=(Fy (h.get (Aq (ev x))) sz (ev x) (lo.map ev) (hi.map ev) (mx.map ev)).map fun v=>(v,h):=by
 have two:∀ (a b c:Option V) (p q r:Nat) (F:Nat→Nat→Nat→V),((Aw a p q).bind fun m=>(Aw b r m).bind fun t=>(Aw c 0 t).map fun l=>(F m t l,h))=((Aw a p q).bind fun m=>(Aw b r m).bind fun t=>(Aw c 0 t).map fun l=>F m t l).map (fun v=>(v,h)):=by
  intro a b c p q r F
  cases Aw a p q with
  | none=>rfl
  | some m=>
   simp only [Option.bind_some]
   cases Aw b r m with
   | none=>rfl
   | some t=>
    simp only [Option.bind_some]
    cases Aw c 0 t<;>rfl
 simp only [A7,Aa]
 cases ev x<;>simp only [Fy,Option.map_none,Option.isNone_map,Option.isSome_map,Aq]
 ·split
  ·exact two _ _ _ _ _ _ (fun _ _ _=>V.ns)
  ·rfl
 ·split
  ·exact two _ _ _ _ _ _ (fun _ _ _=>V.e0)
  ·rfl
 ·rename_i id el len cap
  cases h.get id with
  | none=>rfl
  | some k=>
   simp only [Option.bind_some]
   split
   ·exact two _ _ _ _ _ _ (fun m t l=>V.sl id (el+l) (t - l) (m - l))
   ·rfl
 ·rename_i s xs
  split
  ·exact two _ _ _ _ _ _ (fun m t l=>V.fl s ((xs.drop l).take (t - l)))
  ·rfl
theorem GP {sz:Nat} {x:X} {lo hi mx:Option X}:Z1 tp (.slice sz x lo hi mx) e h K=Wo (Fy (h.get (Aq (x.e2 e))) sz (x.e2 e) (lo.map (X.e2 e)) (hi.map (X.e2 e)) (mx.map (X.e2 e))) (fun v=>K v h):=by
 unfold Z1;simp only [z1,Ol,A5]
def mR (x:V) (lo hi:Option V):Option V:=match x with
    | .s x=>(Aw hi x.size x.size).bind fun t=>(Aw lo 0 t).map fun l=>.s (x.extract l t)
    | _=>none
theorem mS {x:ByteArray} {lo hi:Option V}:mR (.s x) lo hi=(Aw hi x.size x.size).bind fun t=>(Aw lo 0 t).map fun l=>.s (x.extract l t):=Af rfl
theorem NS {x:X} {lo hi:Option X}:Z1 tp (.sslice x lo hi) e h K=Wo (mR (x.e2 e) (lo.map (X.e2 e)) (hi.map (X.e2 e))) (fun v=>K v h):=by
 unfold Z1;simp only [z1,A7,Aa,mR]
 cases x.e2 e<;>simp only [AN]
 rw [Bd,Bd]
 refine DH fun t=>?_
 rw [A5,A5]
def VV (off:Nat):V→Option V | .p id el o=>some (.p id el (o+off)) | .fp s xs j o=>some (.fp s xs j (o+off)) | _=>none
theorem hU {off a b c:Nat}:VV off (.p a b c)=some (.p a b (c+off)):=Af rfl
theorem VW {off s j o:Nat} {xs:List (List V)}:VV off (.fp s xs j o)=some (.fp s xs j (o+off)):=Af rfl
theorem fM {off:Nat} {x:X}:Z1 tp (.fad off x) e h K=Wo (VV off (x.e2 e)) (fun v=>K v h):=by
 unfold Z1;simp only [z1,A7,Aa,VV]
 cases x.e2 e<;>simp only [AD,AN]
def hY (off n:Nat) (agg:Bool):V→Option V | .agg r=>FO r off n agg | _=>none
theorem Q7 {off n:Nat} {agg:Bool} {r:List V}:hY off n agg (.agg r)=FO r off n agg:=Af rfl
theorem fN {off n:Nat} {agg:Bool} {x:X}:Z1 tp (.fld off n agg x) e h K=Wo (hY off n agg (x.e2 e)) (fun v=>K v h):=by
 unfold Z1;simp only [z1,A7,Aa,hY]
 cases x.e2 e<;>simp only [A5,AN]
def IT (g:Option Bm) (sz:Nat) (v i:V):Option V:=match v with
 | .sl id el len _=>match g with | some k=>if k.sz=sz then (Bh i len).map fun j=>.p id (el+j) 0 else none | none=>none
 | .fl s xs=>if s=sz then (Bh i xs.length).map fun j=>.fp s xs j 0 else none
 | _=>none
theorem V5 {g:Option Bm} {s:Nat} {xs:List (List V)} {i:V}:IT g s (.fl s xs) i=(Bh i xs.length).map fun j=>.fp s xs j 0:=by simp [IT]
theorem V6 {sz id el len cap:Nat} {cs:List (List V)} {i:V}:IT (some ⟨sz,cs⟩) sz (.sl id el len cap) i=(Bh i len).map fun j=>.p id (el+j) 0:=by simp [IT]
theorem lI {sz:Nat} {v i:V}:V7 (Jt h v) sz v i=IT (h.get (Aq v)) sz v i:=by
 cases v<;>try rfl
 rename_i id el len cap
 simp only [Jt,Aq]
 cases h.get id<;>rfl
theorem fP {sz:Nat} {x i:X}:Z1 tp (.iad sz x i) e h K=Wo (IT (h.get (Aq (x.e2 e))) sz (x.e2 e) (i.e2 e)) (fun v=>K v h):=by
 unfold Z1;simp only [z1,A7,lI,A5]
def Nq (sz len:Nat):V→V→Option V
 | .p id el off,i=>(Bh i len).map fun j=>.p id el (off+j*sz)
 | .fp s xs k off,i=>(Bh i len).map fun j=>.fp s xs k (off+j*sz)
 | _,_=>none
theorem V8 {sz len id el off:Nat} {i:V}:Nq sz len (.p id el off) i=(Bh i len).map fun j=>.p id el (off+j*sz):=Af rfl
theorem Sv {sz len s k off:Nat} {xs:List (List V)} {i:V}:Nq sz len (.fp s xs k off) i=(Bh i len).map fun j=>.fp s xs k (off+j*sz):=Af rfl
theorem UQ {sz len:Nat} {x i:X}:Z1 tp (.iada sz len x i) e h K=Wo (Nq sz len (x.e2 e) (i.e2 e)) (fun v=>K v h):=by
 unfold Z1;simp only [z1,A7,Aa,Nq]
 cases x.e2 e<;>simp only [AN,A5]
def lL (sz len:Nat) (agg:Bool):V→V→Option V
 | .agg r,i=>(Bh i len).bind fun j=>FO r (j*sz) sz agg
 | _,_=>none
theorem Sw {sz len:Nat} {agg:Bool} {r:List V} {i:V}:lL sz len agg (.agg r) i=(Bh i len).bind fun j=>FO r (j*sz) sz agg:=Af rfl
theorem fQ {sz len:Nat} {agg:Bool} {x i:X}:Z1 tp (.idx sz len agg x i) e h K=Wo (lL sz len agg (x.e2 e) (i.e2 e)) (fun v=>K v h):=by
 unfold Z1;simp only [z1,A7,Aa,lL]
 cases x.e2 e<;>simp only [AN]
 rw [Bd,Bd]
 refine DH fun t=>?_
 rw [A5]
def TD:V→V→Option V
 | .s x,i=>(Bh i x.size).map fun j=>.i .u8 ((x.data.toList.getD j 0).toNat:Int)
 | _,_=>none
theorem W5 {x:ByteArray} {i:V}:TD (.s x) i=(Bh i x.size).map fun j=>.i .u8 ((x.data.toList.getD j 0).toNat:Int):=Af rfl
theorem UX {x i:X}:Z1 tp (.sidx x i) e h K=Wo (TD (x.e2 e) (i.e2 e)) (fun v=>K v h):=by
 unfold Z1;simp only [z1,A7,Aa,TD]
 cases x.e2 e<;>simp only [AN,Bd,A5]
def hJ:V→Nat→Option V | .tup l,i=>l[i]? | _,_=>none
theorem Q4 {l:List V} {i:Nat}:hJ (.tup l) i=l[i]?:=Af rfl
theorem fL {x:X} {i:Nat}:Z1 tp (.ext x i) e h K=Wo (hJ (x.e2 e) i) (fun v=>K v h):=by
 unfold Z1;simp only [z1,A7,Aa,hJ]
 cases x.e2 e<;>simp only [AN,A5]
theorem fH {sz:Nat} {x y:X}:Z1 tp (.app sz x y) e h K=Wo (Ee sz h (y.e2 e)) (fun new=>Wo (GR sz h (x.e2 e) new) (fun z=>K z.1 z.2)):=by
 unfold Z1;simp only [z1,A7,Bd];rfl
def JV:V→Option V | .ns=>some (.i .i64 0) | .e0=>some (.i .i64 0) | .sl _ _ n _=>some (.i .i64 n) | .fl _ xs=>some (.i .i64 xs.length) | _=>none
theorem Wi:JV .ns=some (.i .i64 0):=Af rfl
theorem We:JV .e0=some (.i .i64 0):=Af rfl
theorem Wj {a b c d:Nat}:JV (.sl a b c d)=some (.i .i64 c):=Af rfl
theorem Wh {s:Nat} {xs:List (List V)}:JV (.fl s xs)=some (.i .i64 xs.length):=Af rfl
theorem fS {x:X}:Z1 tp (.len x) e h K=Wo (JV (x.e2 e)) (fun v=>K v h):=by
 unfold Z1;simp only [z1,A7,Aa,JV]
 cases x.e2 e<;>simp only [AD,AN]
def TI:V→Option V | .s x=>some (.i .i64 x.size) | _=>none
theorem W9 {x:ByteArray}:TI (.s x)=some (.i .i64 x.size):=Af rfl
theorem UY {x:X}:Z1 tp (.slen x) e h K=Wo (TI (x.e2 e)) (fun v=>K v h):=by
 unfold Z1;simp only [z1,A7,Aa,TI]
 cases x.e2 e<;>simp only [AD,AN]
theorem UR {n:Nat}:Z1 tp (.lenc n) e h K=K (.i .i64 n) h:=by unfold Z1;simp only [z1,A7,Aa,AD]
theorem aDQ {x:X} {l:List X}:Z1 tp (.mn (x::l)) e h K=Wo (C8 JZ (x.e2 e) (l.map (X.e2 e))) (fun v=>K v h):=by unfold Z1;simp only [z1,A7,Aa,A5]
theorem aDS {x:X} {l:List X}:Z1 tp (.mx (x::l)) e h K=Wo (C8 JY (x.e2 e) (l.map (X.e2 e))) (fun v=>K v h):=by unfold Z1;simp only [z1,A7,Aa,A5]
def Xd (t:Nat) (ok:Bool) (z:V):V→Option V
 | .ifc t' v=>if t'=t then some (if ok then .tup [v,.b true] else v) else if ok then some (.tup [z,.b false]) else none
 | .ni=>if ok then some (.tup [z,.b false]) else none
 | _=>none
theorem Ph {t:Nat} {z v:V}:Xd t false z (.ifc t v)=some v:=by simp [Xd]
theorem fU {t:Nat} {ok:Bool} {z:V} {x:X}:Z1 tp (.tas t ok z x) e h K=(plain z=true∧Wo (Xd t ok z (x.e2 e)) (fun v=>K v h)):=by
 unfold Z1;simp only [z1,A7,Aa,BL,Xd]
 congr 1
 cases x.e2 e<;>simp only [AN]<;>(repeat' split)<;>simp only [AN,AD]
def MW:V→List V→Option (Nat×List V) | .f (.func g) first caps,l=>some (g,first++l++caps) | _,_=>none
theorem H2 {g:Nat} {a c l:List V}:MW (.f (.func g) a c) l=some (g,a++l++c):=Af rfl
theorem MT {f:X} {l:List X}:Z1 tp (.call f l) e h K=Wo (MW (f.e2 e) (l.map (X.e2 e))) (fun c=>Cq tp c.1 c.2 h K):=by
 unfold Z1;simp only [z1,callee]
 generalize f.e2 e=v
 cases v with
 | f g a c=>cases g<;>rfl
 | _=>rfl
theorem aDP {f:Nat} {l:List X}:Z1 tp (.call (.fn f) l) e h K=Cq tp f (l.map (X.e2 e)) h K:=by
 rw [MT,Zh,H2,AD];simp
def Zt (tp:TP) (m:String) (l:List V):V→Option (Nat×List V)
 | .ifc t v=>(tp.meth t m).bind fun q=>match q.at_ with
  | none=>some (q.f,v::l)
  | some j=>match v with | .agg cs=>(cs[j]?).map fun r=>(q.f,r::l) | _=>none
 | _=>none
theorem ON {m:String} {l:List V} {t:Nat} {v:V}:Zt tp m l (.ifc t v)=(tp.meth t m).bind fun q=>match q.at_ with
    | none=>some (q.f,v::l)
    | some j=>match v with | .agg cs=>(cs[j]?).map fun r=>(q.f,r::l) | _=>none:=Af rfl
theorem fR {x:X} {m:String} {l:List X}:Z1 tp (.inv x m l) e h K=Wo (Zt tp m (l.map (X.e2 e)) (x.e2 e)) (fun c=>Cq tp c.1 c.2 h K):=by
 unfold Z1;simp only [z1,callee]
 cases x.e2 e<;>rfl
/-! Quiet ones. -/
theorem AG {o:O} (hp:AB o=true):CR tp o e h K=Z1 tp o e h K:=by unfold CR Z1 nP;rw [if_pos hp]
theorem Bi {o:O} (hp:AB o=false):CR tp o e h K=Z1 tp o e h.raise (fun v h'=>K v (h'.back h.lim)):=by unfold CR Z1 nP;rw [if_neg (by simp [hp])]
theorem OJ {n:Nat} {g:Bool} {v:V}:Uf h.raise n g v=Uf h n g v:=by cases v<;>rfl
theorem Qj {n:Nat} {g:Bool} {x:X}:CR tp (.load n g x) e h K=Z1 tp (.load n g x) e h K:=by
 rw [Bi rfl,IB,IB,OJ];rfl
theorem NW {sz:Nat} {x:X} {lo hi mx:Option X}:CR tp (.slice sz x lo hi mx) e h K=Z1 tp (.slice sz x lo hi mx) e h K:=by
 rw [Bi rfl,GP,GP];rfl
theorem NT {z:List V}:CR tp (.alloc z) e h K=Z1 tp (.alloc z) e h K:=by
 rw [Bi rfl,GN,GN];rfl
theorem U8 {x:X}:CR tp (.box x) e h K=Z1 tp (.box x) e h K:=by
 rw [Bi rfl,LF,LF];rfl
theorem U4 {z:List V}:CR tp (.alc z) e h K=Z1 tp (.alc z) e h K:=by
 rw [Bi rfl,LD,LD];rfl
theorem Qe {sz n:Nat} {z:List V} {ps:List (Nat×X)}:CR tp (.bslc sz z n ps) e h K=Z1 tp (.bslc sz z n ps) e h K:=by
 rw [Bi rfl,IA,IA];rfl
theorem U9 {sz n:Nat} {z:List V} {ps:List (Nat×X)}:CR tp (.bsl sz z n ps) e h K=Z1 tp (.bsl sz z n ps) e h K:=by
 rw [Bi rfl,LG,LG];rfl
theorem U6 {x:X}:CR tp (.b2s x) e h K=Z1 tp (.b2s x) e h K:=by
 rw [Bi rfl,LE,LE]
 have:Jr h.raise (x.e2 e)=Jr h (x.e2 e):=by cases x.e2 e<;>rfl
 rw [this];rfl
theorem Vj {x:X}:CR tp (.s2b x) e h K=Z1 tp (.s2b x) e h K:=by
 rw [Bi rfl,LH,LH];rfl
theorem Qd {z:List V} {x y:X}:CR tp (.appz z x y) e h K=Z1 tp (.appz z x y) e h.raise (fun v h'=>K v (h'.back h.lim)):=Bi rfl
theorem Qn {z:List V} {x y:X}:CR tp (.mksl z x y) e h K=Z1 tp (.mksl z x y) e h.raise (fun v h'=>K v (h'.back h.lim)):=Bi rfl
theorem U5 {sz:Nat} {x y:X}:CR tp (.app sz x y) e h K=Z1 tp (.app sz x y) e h.raise (fun v h'=>K v (h'.back h.lim)):=Bi rfl
theorem NX {n:Nat} {x y:X}:CR tp (.store n x y) e h K=Z1 tp (.store n x y) e h.raise (fun v h'=>K v (h'.back h.lim)):=Bi rfl
theorem Qk {x:X}:CR tp (.mark x) e h K=Z1 tp (.mark x) e h.raise (fun v h'=>K v (h'.back h.lim)):=Bi rfl
theorem Qf {f:X} {l:List X}:CR tp (.call f l) e h K=Z1 tp (.call f l) e h.raise (fun v h'=>K v (h'.back h.lim)):=Bi rfl
theorem Vg {x:X} {m:String} {l:List X}:CR tp (.inv x m l) e h K=Z1 tp (.inv x m l) e h.raise (fun v h'=>K v (h'.back h.lim)):=Bi rfl
theorem gC {x:X}:CR tp (.mv x) e h K=Z1 tp (.mv x) e h K:=AG rfl
theorem Qo {a b c:X}:CR tp (.pick a b c) e h K=Z1 tp (.pick a b c) e h K:=AG rfl
theorem NU {z:List V} {ps:List (Nat×Nat×X)}:CR tp (.build z ps) e h K=Z1 tp (.build z ps) e h K:=AG rfl
theorem fZ  : CR tp (.e0 ) e h K=Z1 tp (.e0 ) e h K:=AG rfl
theorem Vi {x:X}:CR tp (.nck x) e h K=Z1 tp (.nck x) e h K:=AG rfl
theorem U7 {op:BinOp} {x y:X}:CR tp (.bin op x y) e h K=Z1 tp (.bin op x y) e h K:=AG rfl
theorem gA {n:Bool} {k:EK} {x y:X}:CR tp (.eq n k x y) e h K=Z1 tp (.eq n k x y) e h K:=AG rfl
theorem gE {op:UnOp} {x:X}:CR tp (.un op x) e h K=Z1 tp (.un op x) e h K:=AG rfl
theorem Qg {k:IntKind} {x:X}:CR tp (.conv k x) e h K=Z1 tp (.conv k x) e h K:=AG rfl
theorem Qr {x:X}:CR tp (.strs x) e h K=Z1 tp (.strs x) e h K:=AG rfl
theorem Vd {x:X}:CR tp (.i2s x) e h K=Z1 tp (.i2s x) e h K:=AG rfl
theorem Qm {t:Nat} {x:X}:CR tp (.mkif t x) e h K=Z1 tp (.mkif t x) e h K:=AG rfl
theorem Ql {f:Fn} {a c:List X}:CR tp (.mkfn f a c) e h K=Z1 tp (.mkfn f a c) e h K:=AG rfl
theorem LI {x:X} {lo hi:Option X}:CR tp (.sslice x lo hi) e h K=Z1 tp (.sslice x lo hi) e h K:=AG rfl
theorem Vb {o:Nat} {x:X}:CR tp (.fad o x) e h K=Z1 tp (.fad o x) e h K:=AG rfl
theorem Vc {o n:Nat} {g:Bool} {x:X}:CR tp (.fld o n g x) e h K=Z1 tp (.fld o n g x) e h K:=AG rfl
theorem Ve {s:Nat} {x i:X}:CR tp (.iad s x i) e h K=Z1 tp (.iad s x i) e h K:=AG rfl
theorem Qh {s n:Nat} {x i:X}:CR tp (.iada s n x i) e h K=Z1 tp (.iada s n x i) e h K:=AG rfl
theorem Vf {s n:Nat} {g:Bool} {x i:X}:CR tp (.idx s n g x i) e h K=Z1 tp (.idx s n g x i) e h K:=AG rfl
theorem Qp {x i:X}:CR tp (.sidx x i) e h K=Z1 tp (.sidx x i) e h K:=AG rfl
theorem Va {x:X} {i:Nat}:CR tp (.ext x i) e h K=Z1 tp (.ext x i) e h K:=AG rfl
theorem NV {n:Nat} {ag:Bool} {x:X}:CR tp (.fload n ag x) e h K=Z1 tp (.fload n ag x) e h K:=AG rfl
theorem Vh {x:X}:CR tp (.len x) e h K=Z1 tp (.len x) e h K:=AG rfl
theorem Qq {x:X}:CR tp (.slen x) e h K=Z1 tp (.slen x) e h K:=AG rfl
theorem Qi {n:Nat}:CR tp (.lenc n) e h K=Z1 tp (.lenc n) e h K:=AG rfl
theorem gB {l:List X}:CR tp (.mn l) e h K=Z1 tp (.mn l) e h K:=AG rfl
theorem gD {l:List X}:CR tp (.mx l) e h K=Z1 tp (.mx l) e h K:=AG rfl
theorem Vk {t:Nat} {ok:Bool} {z:V} {x:X}:CR tp (.tas t ok z x) e h K=Z1 tp (.tas t ok z x) e h K:=AG rfl
end
/-! ### Values -/
theorem Vt {k:IntKind} {a b:Int}:Bp .add (.i k a) (.i k b)=some (.i k (k.wrap (a+b))):=by simp [Bp,EA]
theorem VF {k:IntKind} {a b:Int}:Bp .sub (.i k a) (.i k b)=some (.i k (k.wrap (a - b))):=by simp [Bp,EA]
theorem VA {k:IntKind} {a b:Int}:Bp .mul (.i k a) (.i k b)=some (.i k (k.wrap (a*b))):=by simp [Bp,EA]
theorem VD {k:IntKind} {a b:Int} (hb:¬ b=0):Bp .quo (.i k a) (.i k b)=some (.i k (k.wrap (a.tdiv b))):=by simp [Bp,EA,hb]
theorem VE {k:IntKind} {a b:Int} (hb:¬ b=0):Bp .rem (.i k a) (.i k b)=some (.i k (a.tmod b)):=by simp [Bp,EA,hb]
theorem Vu {k:IntKind} {a b:Int}:Bp .and (.i k a) (.i k b)=some (.i k (k.wrap (BitVec.ofInt k.bits a &&& BitVec.ofInt k.bits b).toNat)):=by simp [Bp,EA]
theorem gM {k:IntKind} {a b:Int}:Bp .or (.i k a) (.i k b)=some (.i k (k.wrap (BitVec.ofInt k.bits a ||| BitVec.ofInt k.bits b).toNat)):=by simp [Bp,EA]
theorem Vv {k:IntKind} {a b:Int}:Bp .eql (.i k a) (.i k b)=some (.b (decide (a=b))):=by simp [Bp,EA]
theorem VC {k:IntKind} {a b:Int}:Bp .neq (.i k a) (.i k b)=some (.b (decide (¬ a=b))):=by simp [Bp,EA]
theorem Vz {k:IntKind} {a b:Int}:Bp .lss (.i k a) (.i k b)=some (.b (decide (a<b))):=by simp [Bp,EA]
theorem Vy {k:IntKind} {a b:Int}:Bp .leq (.i k a) (.i k b)=some (.b (decide (a≤b))):=by simp [Bp,EA]
theorem Vx {k:IntKind} {a b:Int}:Bp .gtr (.i k a) (.i k b)=some (.b (decide (b<a))):=by simp [Bp,EA]
theorem Vw {k:IntKind} {a b:Int}:Bp .geq (.i k a) (.i k b)=some (.b (decide (b≤a))):=by simp [Bp,EA]
theorem nG {x:Bool}:ZD .not (.b x)=some (.b (!x)):=Af rfl
theorem nF {k:IntKind} {n:Int}:ZD .neg (.i k n)=some (.i k (k.wrap (0 - n))):=Af rfl
theorem aEo {k:IntKind} {x y:Int}:JZ (.i k x) (.i k y)=some (.i k (min x y)):=by
 simp only [JZ,if_true];congr 2
 omega
theorem aEn {k:IntKind} {x y:Int}:JY (.i k x) (.i k y)=some (.i k (max x y)):=by
 simp only [JY,if_true];congr 2
 omega
theorem Rh {f:V→V→Option V} {x:V}:C8 f x []=some x:=Af rfl
theorem Ov {f:V→V→Option V} {x y:V} {l:List V}:C8 f x (y::l)=(f x y).bind fun z=>C8 f z l:=Af rfl
theorem aFQ {p:Prop} [Decidable p]:(!decide p)=decide (¬ p):=by simp
theorem aFG {p q:Prop} [Decidable p] [Decidable q]:(decide p&&decide q)=decide (p∧q):=by simp
theorem aFS {p q:Prop} [Decidable p] [Decidable q]:(decide p||decide q)=decide (p∨q):=by simp
theorem aEh {k:IntKind} {j:Int} {n:Nat} (h0:0≤j) (h1:j<n):Bh (.i k j) n=some j.toNat:=by simp [Bh,h0,h1]
theorem Ju {d n:Nat}:Aw none d n=some d:=Af rfl
theorem Qy {k:IntKind} {j:Int} {d n:Nat} (h0:0≤j) (h1:j≤n):Aw (some (.i k j)) d n=some j.toNat:=by simp [Aw,h0,h1]
theorem N8 {l:List V}:V.cells (.agg l)=l:=Af rfl
theorem VK {k:IntKind} {n:Int}:V.cells (.i k n)=[.i k n]:=Af rfl
theorem VI {x:Bool}:V.cells (.b x)=[.b x]:=Af rfl
theorem VM {x:ByteArray}:V.cells (.s x)=[.s x]:=Af rfl
theorem QH {a b c d:Nat}:V.cells (.sl a b c d)=[.sl a b c d]:=Af rfl
theorem QG:V.cells .ns=[.ns]:=Af rfl
theorem VL {a b c:Nat}:V.cells (.p a b c)=[.p a b c]:=Af rfl
theorem QF:V.cells .np=[.np]:=Af rfl
theorem SB {k:IntKind} {n:Int}:V.isCell (.i k n)=true:=Af rfl
theorem Sz {x:Bool}:V.isCell (.b x)=true:=Af rfl
theorem SD {x:ByteArray}:V.isCell (.s x)=true:=Af rfl
theorem OI {a b c d:Nat}:V.isCell (.sl a b c d)=true:=Af rfl
theorem OH:V.isCell .ns=true:=Af rfl
theorem SC {a b c:Nat}:V.isCell (.p a b c)=true:=Af rfl
theorem OG:V.isCell .np=true:=Af rfl
theorem w64 {x:Int} (h0 : -9223372036854775808≤x) (h1:x<9223372036854775808):IntKind.wrap .i64 x=x:=by rw [IntKind.wrap_i64];omega
theorem QB {a:Nat} {b:List (List V)}:V.cells (.fl a b)=[.fl a b]:=Af rfl
theorem QC {a c d:Nat} {b:List (List V)}:V.cells (.fp a b c d)=[.fp a b c d]:=Af rfl
theorem QA:V.cells .e0=[.e0]:=Af rfl
theorem QD:V.cells .nf=[.nf]:=Af rfl
theorem QE:V.cells .ni=[.ni]:=Af rfl
theorem VJ {a:Fn} {b c:List V}:V.cells (.f a b c)=[.f a b c]:=Af rfl
theorem N9 {a:Nat} {b:V}:V.cells (.ifc a b)=[.ifc a b]:=Af rfl
theorem OC {a:Nat} {b:List (List V)}:V.isCell (.fl a b)=true:=Af rfl
theorem OD {a c d:Nat} {b:List (List V)}:V.isCell (.fp a b c d)=true:=Af rfl
theorem OB:V.isCell .e0=true:=Af rfl
theorem OE:V.isCell .nf=true:=Af rfl
theorem OF:V.isCell .ni=true:=Af rfl
theorem SA {a:Fn} {b c:List V}:V.isCell (.f a b c)=true:=Af rfl
theorem Mc {a:Nat} {b:V}:V.isCell (.ifc a b)=true:=Af rfl
theorem aEq {x:Bool}:pur (.b x)=true:=Af (by simp [pur])
theorem aEs {k:IntKind} {n:Int}:pur (.i k n)=true:=Af (by simp [pur])
theorem aEt {x:ByteArray}:pur (.s x)=true:=Af (by simp [pur])
theorem mL {a:Nat} {b:List (List V)}:pur (.fl a b)=true:=Af (by simp [pur])
theorem mP:pur .ns=true:=Af (by simp [pur])
theorem mK:pur .e0=true:=Af (by simp [pur])
theorem mO:pur .np=true:=Af (by simp [pur])
theorem mN:pur .ni=true:=Af (by simp [pur])
theorem mM:pur .nf=true:=Af (by simp [pur])
theorem aEu:pur .u=true:=Af (by simp [pur])
theorem WO {l:List V}:pur (.agg l)=Ed l:=Af (by simp [pur])
theorem WR {l:List V}:pur (.tup l)=Ed l:=Af (by simp [pur])
theorem aEr {f:Fn} {a c:List V}:pur (.f f a c)=(Ed a&&Ed c):=Af (by simp [pur])
theorem WP {t:Nat} {v:V}:pur (.ifc t v)=pur v:=Af (by simp [pur])
theorem Ti:Ed []=true:=Af (by simp [Ed])
theorem O4 {v:V} {l:List V}:Ed (v::l)=(pur v&&Ed l):=Af (by simp [Ed])
theorem aFL {x y:Bool}:D2 .b (.b x) (.b y)=some (decide (x=y)):=by cases x<;>cases y<;>rfl
theorem hG {ks:List CK} {l m:List V}:D2 (.agg ks) (.agg l) (.agg m)=EC ks l m:=Af rfl
theorem VT:EC [] [] []=some true:=Af rfl
theorem QZ {k:CK} {ks:List CK} {a c:V} {l m:List V}:EC (k::ks) (a::l) (c::m)=(LX k a c).bind fun x=>(EC ks l m).map fun y=>x&&y:=Af rfl
theorem aD6 {k:IntKind} {a b:Int}:LX .i (.i k a) (.i k b)=some (decide (a=b)):=by simp [LX]
theorem aD5 {x y:Bool}:LX .b (.b x) (.b y)=some (decide (x=y)):=by cases x<;>cases y<;>rfl
theorem aD7 {x y:ByteArray}:LX .s (.s x) (.s y)=some (decide (x=y)):=Af rfl
theorem Qw {x y:ByteArray}:Bp .eql (.s x) (.s y)=some (.b (decide (x=y))):=Af rfl
theorem Qx {x y:ByteArray}:Bp .neq (.s x) (.s y)=some (.b (decide (¬ x=y))):=by simp [Bp,Vs]
/-! ### Results -/
section
variable {e:Env} {h:AH}
theorem Vl {res:List RV} {Q:V→AH→Prop}:Gw res .nm e h Q=Wo (Bn e h res) (fun v=>Q v h):=Af rfl
theorem Vm {res:List RV} {Q:V→AH→Prop}:Gw res .rt e h Q=Wo (Bn e h res) (fun v=>Q v h):=Af rfl
theorem WV:Bn e h []=some (.tup []):=Af rfl
theorem WW {n:Nat}:Bn e h [.t n]=some (e n):=Af rfl
theorem WX {n m:Nat}:Bn e h [.t n,.t m]=some (.tup [e n,e m]):=Af rfl
theorem O8 {n m l:Nat}:Bn e h [.t n,.t m,.t l]=some (.tup [e n,e m,e l]):=Af rfl
def Ga (h:AH) (k:Nat) (g:Bool):V→Option V | .p id el off=>Ue (h.get id) el off k g | _=>none
theorem VH {k id el off:Nat} {g:Bool}:Ga h k g (.p id el off)=Ue (h.get id) el off k g:=Af rfl
theorem F4 {n k:Nat} {g:Bool}:MA e h (.cell n k g)=Ga h k g (e n):=Af rfl
theorem Tl {n k:Nat} {g:Bool}:Bn e h [.cell n k g]=Ga h k g (e n):=by
 simp only [Bn,Pv,F4]
 cases Ga h k g (e n)<;>rfl
theorem O6 {n k m:Nat} {g:Bool}:Bn e h [.cell n k g,.t m]=(Ga h k g (e n)).map fun v=>.tup [v,e m]:=by
 simp only [Bn,Pv,F4]
 cases Ga h k g (e n)<;>rfl
theorem O7 {n k m l:Nat} {g:Bool}:Bn e h [.cell n k g,.t m,.t l]=(Ga h k g (e n)).map fun v=>.tup [v,e m,e l]:=by
 simp only [Bn,Pv,F4]
 cases Ga h k g (e n)<;>rfl
end
/-! ### What stays -/
def MD:V→Bool
 | .b _ | .i .. | .s _ | .np | .ns | .e0 | .nf | .ni | .u | .fl .. | .fp ..=>true
 | _=>false
theorem Dg.of_stay {P:Nat→Prop} {h:AH} {n:Nat} {v:V} (hv:MD v=true):Dg P h n v v:=by
 cases v<;>first | (simp [MD] at hv;done) | exact .fl _ _ _ | exact .fp _ _ _ _ _ | exact .z _ _ (by constructor)
theorem BI.of_stay {P:Nat→Prop} {h:AH} {n:Nat}:∀ {l:List V},l.all MD=true→BI P h n l l
 | [],_=>.nil _
 | v::l,hl=>by
  simp only [List.all_cons,Bool.and_eq_true] at hl
  exact .cons _ _ _ _ _ (Dg.of_stay hl.1) (BI.of_stay hl.2)
theorem CV.of_map {P:Nat→Prop} {h:AH} {n:Nat} {α:Type} {enc:α→List V} (he:∀ a,(enc a).all MD=true):∀ (L:List α),CV P h n (L.map enc) (L.map enc)
 | []=>.nil _
 | a::L=>.cons _ _ _ _ _ (BI.of_stay (he a)) (CV.of_map he L)
section
variable {P:Nat→Prop} {h:AH} {n:Nat}
theorem nS {k k':IntKind} {z z':Int}:Dg P h n (.i k z) (.i k' z')=(k=k'∧z=z'):=propext ⟨fun f=>by cases f;exact ⟨rfl,rfl⟩,fun ⟨a,b⟩=>by subst a;subst b;exact .z _ _ (.i _ _)⟩
theorem nR {z z':Bool}:Dg P h n (.b z) (.b z')=(z=z'):=propext ⟨fun f=>by cases f;exact rfl,fun a=>by subst a;exact .z _ _ (.b _)⟩
theorem nT {z z':ByteArray}:Dg P h n (.s z) (.s z')=(z=z'):=propext ⟨fun f=>by cases f;exact rfl,fun a=>by subst a;exact .z _ _ (.s _)⟩
theorem ZH {s s':Nat} {z z':List (List V)}:Dg P h n (.fl s z) (.fl s' z')=(s=s'∧z=z'):=propext ⟨fun f=>by
 cases f with
 | z _ _ h0=>cases h0
 | fl=>exact ⟨rfl,rfl⟩,fun ⟨a,b⟩=>by subst a;subst b;exact .fl _ _ _⟩
theorem ZJ {s:Nat} {z:List (List V)}:Dg P h n .ns (.fl s z)=(z=[]):=propext ⟨fun f=>by cases f;exact rfl,fun a=>by subst a;exact .ns _ _⟩
theorem ZG {s:Nat} {z:List (List V)}:Dg P h n .e0 (.fl s z)=(z=[]):=propext ⟨fun f=>by cases f;exact rfl,fun a=>by subst a;exact .e0 _ _⟩
theorem ZI:Dg P h n .np .np=True:=by simp;exact .z _ _ .np
theorem Un {l l':List V}:Dg P h n (.tup l) (.tup l')=BI P h n l l':=propext ⟨fun f=>by
 cases f with
 | z _ _ h0=>cases h0
 | tup _ _ _ h=>exact h,fun a=>.tup _ _ _ a⟩
theorem Um {l l':List V}:Dg P h n (.agg l) (.agg l')=BI P h n l l':=propext ⟨fun f=>by
 cases f with
 | z _ _ h0=>cases h0
 | agg _ _ _ h=>exact h,fun a=>.agg _ _ _ a⟩
theorem Py:BI P h n [] []=True:=by simp;exact .nil _
theorem NN {v w:V} {l l':List V}:BI P h n (v::l) (w::l')=(Dg P h n v w∧BI P h n l l'):=propext ⟨fun f=>by
 cases f with
 | cons _ _ _ _ _ a b=>exact ⟨a,b⟩,fun ⟨a,b⟩=>.cons _ _ _ _ _ a b⟩
end
/-! ### Slices of one's own -/
def nth {α:Type} [Inhabited α] (L:List α) (j:Nat):α:=L.getD j default
theorem DU {α:Type} [Inhabited α] {L:List α} {j:Nat} (h:j<L.length):L[j]?=some (nth L j):=by simp [nth,List.getD,List.getElem?_eq_getElem h]
theorem Ds {α:Type} [Inhabited α] {L:List α} {j:Nat} (h:j<L.length):nth L j=L[j]:=by simp [nth,List.getD,List.getElem?_eq_getElem h]
theorem Wy {α:Type} [Inhabited α] {β:Type} {f:α→β} {L:List α} {j:Nat} (h:j<L.length):(L.map f)[j]?=some (f (nth L j)):=by rw [List.getElem?_map,DU h];rfl
theorem AR {α:Type} [Inhabited α] {L:List α} {j:Nat} (h:j<L.length):nth L j∈L:=by rw [Ds h];exact List.getElem_mem h
theorem AX {α:Type} [Inhabited α] {L:List α} {i:Nat} (h:i<L.length):L.drop i=nth L i::L.drop (i+1):=by
 rw [Ds h];exact List.drop_eq_getElem_cons h
structure Ap (h h':AH):Prop where
 next:h.next≤h'.next
 lim:h'.lim=h.lim
 get:∀ i,i<h.next→h'.get i=h.get i
theorem Ap.refl (h:AH):Ap h h:=⟨Nat.le_refl _,rfl,fun _ _=>rfl⟩
theorem Ap.trans {a b c:AH} (p:Ap a b) (q:Ap b c):Ap a c:=⟨Nat.le_trans p.next q.next,q.lim.trans p.lim,fun i hi=>(q.get i (Nat.lt_of_lt_of_le hi p.next)).trans (p.get i hi)⟩
theorem Ap.alloc {a b:AH} (p:Ap a b) (k:Bm):Ap a (b.alloc k):=⟨Nat.le_succ_of_le p.next,p.lim,fun i hi=>by
 rw [A0,Am (by have:=p.next;omega)];exact p.get i hi⟩
theorem Ap.put {a b:AH} (p:Ap a b) (i:Nat) (k:Bm) (hi:a.next≤i):Ap a (b.put i k):=⟨p.next,p.lim,fun j hj=>by
 rw [Ah,Am (by omega)];exact p.get j hj⟩
theorem Ap.kill {a b:AH} (p:Ap a b) (i:Nat) (hi:a.next≤i):Ap a (b.kill i):=⟨p.next,p.lim,fun j hj=>by
 rw [Fk,Am (by omega)];exact p.get j hj⟩
def AU (h:AH) (v:V):List (List V):=match h.get (Aq v) with | some k=>k.cs | none=>[]
def Sl (b:Nat) (h:AH) (sz:Nat) (v:V) (R:List (List V)):Prop:=((v=.ns∨v=.e0)∧R=[])∨∃ id el cap cs,v=.sl id el R.length cap∧h.get id=some ⟨sz,cs⟩∧el+cap≤cs.length∧(cs.drop el).take R.length=R∧R.length≤cap∧id<h.next∧b≤id∧R.length<4294967296
theorem Sl.nil (b:Nat) (h:AH) (sz:Nat):Sl b h sz .ns []:=.inl ⟨.inl rfl,rfl⟩
theorem Sl.nil' (b:Nat) (h:AH) (sz:Nat):Sl b h sz .e0 []:=.inl ⟨.inr rfl,rfl⟩
theorem Sl.same {b:Nat} {h h':AH} {sz:Nat} {v:V} {R:List (List V)} (s:Sl b h sz v R) (hn:h.next≤h'.next) (hg:Aq v<h.next→h'.get (Aq v)=h.get (Aq v)):Sl b h' sz v R:=by
 rcases s with ⟨hv,rfl⟩ | ⟨id,el,cap,k,rfl,a,c,d,f,hlt,hb,hl⟩
 ·exact .inl ⟨hv,rfl⟩
 ·exact .inr ⟨id,el,cap,k,rfl,(hg hlt).trans a,c,d,f,Nat.lt_of_lt_of_le hlt hn,hb,hl⟩
theorem Sl.ext {b:Nat} {h h':AH} {sz:Nat} {v:V} {R:List (List V)} (s:Sl b h sz v R) (p:Ap h h'):Sl b h' sz v R:=s.same p.next (fun hl=>p.get _ hl)
theorem Sl.alloc {b:Nat} {h:AH} {sz:Nat} {v:V} {R:List (List V)} (s:Sl b h sz v R) (k:Bm):Sl b (h.alloc k) sz v R:=s.ext ((Ap.refl h).alloc k)
theorem Sl.putx {b:Nat} {h:AH} {sz:Nat} {v:V} {R:List (List V)} (s:Sl b h sz v R) (i:Nat) (k:Bm) (hi:i≠Aq v):Sl b (h.put i k) sz v R:=s.same (Nat.le_refl _) (fun _=>by rw [Ah,Am (Ne.symm hi)])
theorem Sl.back {b:Nat} {h:AH} {sz l:Nat} {v:V} {R:List (List V)} (s:Sl b h sz v R):Sl b (h.back l) sz v R:=s
theorem Sl.raise {b:Nat} {h:AH} {sz:Nat} {v:V} {R:List (List V)} (s:Sl b h sz v R):Sl b h.raise sz v R:=s
structure SlF {α:Type} [Inhabited α] (enc:α→List V) (b:Nat) (h:AH) (sz:Nat) (v:V) (L:List α):Prop where
 len:JV v=some (.i .i64 (L.length:Int))
 big:L.length<4294967296
 lt:0<L.length→Aq v<h.next
 lo:0<L.length→b≤Aq v
 get:0<L.length→h.get (Aq v)=some ⟨sz,AU h v⟩
 at_:∀ (k:IntKind) (j:Int) (cs:List (List V)),0≤j→j<L.length→IT (some ⟨sz,cs⟩) sz v (.i k j)=some (.p (Aq v) (CN v+j.toNat) 0)
 row:∀ (j:Nat),j<L.length→(AU h v)[CN v+j]?=some (enc (nth L j))
 cell:v.isCell=true
 cells:v.cells=[v]
theorem Sl.facts {α:Type} [Inhabited α] {enc:α→List V} {b:Nat} {h:AH} {sz:Nat} {v:V} {L:List α} (s:Sl b h sz v (L.map enc)):SlF enc b h sz v L:=by
 rcases s with ⟨hv,hR⟩ | ⟨id,el,cap,cs,rfl,a,c,d,f,hlt,hb,hl⟩
 ·have hL:L=[]:=by simpa using hR
  subst hL
  rcases hv with rfl | rfl
  ·exact ⟨rfl,by simp,by simp,by simp,by simp,fun _ j _ h0 h1=>by simp at h1;omega,by simp,rfl,rfl⟩
  ·exact ⟨rfl,by simp,by simp,by simp,by simp,fun _ j _ h0 h1=>by simp at h1;omega,by simp,rfl,rfl⟩
 ·simp only [List.length_map] at *
  refine ⟨by simp [JV],hl,fun _=>hlt,fun _=>hb,fun _=>by simp [AU,Aq,a],fun k j cs h0 h1=>by simp [IT,Bh,h0,h1,Aq,CN],fun j hj=>?_,rfl,rfl⟩
  simp only [AU,Aq,a,CN]
  have:((cs.drop el).take L.length)[j]?=(L.map enc)[j]?:=by rw [d]
  rw [List.getElem?_take_of_lt hj,List.getElem?_drop] at this
  rw [this,List.getElem?_map,DU hj];rfl
theorem Gu.len {α:Type} {enc:α→List V} {s:Nat} {L:List α} (r:Gu (.fl s (L.map enc))):L.length<4000000000:=by simpa using r.big
theorem Sl.froze {α:Type} {enc:α→List V} {b:Nat} {h:AH} {sz:Nat} {v:V} {L:List α} {P:Nat→Prop} {n:Nat} (s:Sl b h sz v (L.map enc)) (he:∀ a,(enc a).all MD=true) (hP:P (Aq v)) (hL:L.length<4000000000):Dg P h n v (.fl sz (L.map enc)):=by
 rcases s with ⟨hv,hR⟩ | ⟨id,el,cap,cs,rfl,a,c,d,f,hlt,hb,hl⟩
 ·rw [hR]
  rcases hv with rfl | rfl
  ·exact .ns _ _
  ·exact .e0 _ _
 ·refine .sl _ id el _ cap sz cs _ hP a (by omega) f (by simpa [G6] using hL) ?_
  rw [d];exact CV.of_map he L
theorem Sl.froze' {b:Nat} {h:AH} {sz:Nat} {v:V} {R:List (List V)} {P:Nat→Prop} {n:Nat} (s:Sl b h sz v R) (hr:CV P h 0 R R) (hP:P (Aq v)) (hL:R.length<4000000000):Dg P h n v (.fl sz R):=by
 rcases s with ⟨hv,rfl⟩ | ⟨id,el,cap,cs,rfl,a,c,d,f,hlt,hb,hl⟩
 ·rcases hv with rfl | rfl
  ·exact .ns _ _
  ·exact .e0 _ _
 ·refine .sl _ id el _ cap sz cs _ hP a (by omega) f (by simpa [G6] using hL) ?_
  rw [d];exact hr
def AJ:V→Bool | .ns | .e0=>true | _=>false
structure Grown (b:Nat) (h:AH) (x v:V) (h':AH):Prop where
 next:h.next≤h'.next
 lim:h'.lim=h.lim
 low:∀ i,i<b→h'.get i=h.get i
 get:∀ i,i<h.next→(AJ x=true∨i≠Aq x)→h'.get i=h.get i
 own:AJ v=true∨(AJ x=false∧Aq v=Aq x)∨h.next≤Aq v
 cell:v.isCell=true
 cells:v.cells=[v]
theorem J4:∀ (r:List (List V)) (i:Nat) (n:List (List V)),i+n.length≤r.length→Dc r i n=r.take i++n++r.drop (i+n.length)
 | r,i,[],_=>by simp [Dc]
 | r,i,c::cs,h=>by
  simp only [List.length_cons] at h
  rw [Dc,J4 (r.set i c) (i+1) cs (by simp;omega)]
  have hi:i<r.length:=by omega
  rw [List.drop_set_of_lt (by omega)]
  have ht:(r.set i c).take (i+1)=r.take i++[c]:=by
   rw [List.take_add_one]
   simp [hi,List.take_set_of_le]
  rw [ht]
  simp only [List.append_assoc,List.singleton_append,List.length_cons]
  congr 3;omega
theorem AQ {b sz : Nat} {h : AH} {x : V} {R N : List (List V)} {K : V × AH → Prop} (sx : Sl b h sz x R) (hl : h.lim ≤ b) (hb : b ≤ h.next) (hlen : R.length + N.length < 4294967296)
    (k:∀ v h',Sl b h' sz v (R++N)→Grown b h x v h'→K (v,h')):Wo (GR sz h x N) K:=by
 rcases sx with ⟨hx,rfl⟩ | ⟨id,el,cap,cs,rfl,hg,hle,hrow,hcap,hlt,hbi,hbig⟩
 ·have one:∀ nn:V,(nn=.ns∨nn=.e0)→Wo (if N=[] then some (nn,h) else if N.length<AV then some (.sl h.next 0 N.length N.length,h.alloc ⟨sz,N⟩) else none) (fun z=>(nn=.ns∨nn=.e0)→x=nn→K z):=by
   intro nn hnn
   split
   ·rename_i hN
    subst hN
    exact ⟨_,rfl,fun h1 h2=>by subst h2;exact k _ _ (.inl ⟨h1,rfl⟩) ⟨Nat.le_refl _,rfl,fun _ _=>rfl,fun _ _ _=>rfl,.inl (by rcases h1 with rfl | rfl<;>rfl),by rcases h1 with rfl | rfl<;>rfl,by rcases h1 with rfl | rfl<;>rfl⟩⟩
   ·rename_i hN
    rw [if_pos (by simp only [AV];simpa using hlen)]
    refine ⟨_,rfl,fun h1 h2=>k _ _ (.inr ⟨h.next,0,N.length,N, ?_, ?_, ?_, ?_, ?_, ?_,hb, ?_⟩) ⟨?_,rfl, ?_, ?_,.inr (.inr (Nat.le_refl _)),rfl,rfl⟩⟩
    ·simp
    ·simp [AH.alloc]
    ·simp
    ·simp
    ·simp
    ·simp [AH.alloc]
    ·simpa using hlen
    ·simp [AH.alloc]
    ·intro i hi;rw [A0,Am (by omega)]
    ·intro i hi _;rw [A0,Am (by omega)]
  rcases hx with rfl | rfl
  ·obtain ⟨z,hz,q⟩:=one .ns (.inl rfl)
   exact ⟨z,hz,q (.inl rfl) rfl⟩
  ·obtain ⟨z,hz,q⟩:=one .e0 (.inr rfl)
   exact ⟨z,hz,q (.inr rfl) rfl⟩
 ·unfold GR
  simp only [hg]
  rw [if_pos ⟨trivial,by omega,by omega,by simp only [AV];exact hlen⟩]
  by_cases hc:R.length+N.length≤cap
  ·rw [if_pos hc,if_pos (by omega)]
   have hov:=J4 cs (el+R.length) N (by omega)
   refine ⟨_,rfl,k _ _ (.inr ⟨id,el,cap,Dc cs (el+R.length) N, ?_, ?_, ?_, ?_, ?_,hlt,hbi, ?_⟩) ⟨Nat.le_refl _,rfl, ?_, ?_,.inr (.inl ⟨rfl,rfl⟩),rfl,rfl⟩⟩
   ·simp
   ·rw [Ah,AI rfl]
   ·rw [hov];simp;omega
   ·rw [hov]
    have e1:(cs.take (el+R.length)).drop el=R:=by rw [List.drop_take,Nat.add_sub_cancel_left];exact hrow
    simp only [List.append_assoc]
    rw [List.drop_append_of_le_length (by simp;omega),e1,←List.append_assoc,List.length_append,←List.length_append,List.take_left]
   ·simpa using hc
   ·simpa using hlen
   ·intro i hi;rw [Ah,Am (by omega)]
   ·intro i hi hne
    rw [Ah,Am (by rcases hne with hne | hne;cases hne;exact hne)]
  ·rw [if_neg hc]
   refine ⟨_,rfl,k _ _ (.inr ⟨h.next,0,R.length+N.length,(cs.drop el).take R.length++N, ?_, ?_, ?_, ?_, ?_, ?_,hb, ?_⟩) ⟨?_,rfl, ?_, ?_,.inr (.inr (Nat.le_refl _)),rfl,rfl⟩⟩
   ·simp
   ·rw [A0,En,AI rfl]
   ·rw [hrow];simp
   ·rw [hrow,List.drop_zero,List.take_length]
   ·simp
   ·simp [AH.alloc,AH.kill]
   ·simpa using hlen
   ·simp [AH.alloc,AH.kill]
   ·intro i hi;rw [A0,En,Am (by omega),Fk,Am (by omega)]
   ·intro i hi hne
    rw [A0,En,Am (by omega),Fk,Am (by rcases hne with hne | hne;cases hne;exact hne)]
theorem Sl.rows {b:Nat} {h:AH} {sz:Nat} {v:V} {R:List (List V)} (s:Sl b h sz v R):Ee sz h v=some R:=by
 rcases s with ⟨hv,rfl⟩ | ⟨id,el,cap,k,rfl,hg,hc,hrow,hcap,_⟩
 ·rcases hv with rfl | rfl<;>rfl
 ·rw [Kc,hg,Tn (by omega),hrow]
theorem Sl.of_get {b sz:Nat} {h h':AH} {v:V} {R:List (List V)} {j:Nat} {r:List V} (s:Sl b h sz v R) (hj:j<R.length) (hn:h.next≤h'.next) (hg:h'.get (Aq v)=some ⟨sz,(AU h v).set (CN v+j) r⟩):Sl b h' sz v (R.set j r):=by
 rcases s with ⟨hv,rfl⟩ | ⟨id,el,cap,cs,rfl,hg0,hc,hrow,hcap,hlt',hbi,hbig⟩
 ·simp at hj
 ·refine .inr ⟨id,el,cap,cs.set (el+j) r,by simp, ?_,by simpa using hc, ?_,by simpa using hcap,Nat.lt_of_lt_of_le hlt' hn,hbi,by simpa using hbig⟩
  ·simpa [Aq,CN,AU,hg0] using hg
  ·simp only [List.length_set]
   rw [List.drop_set,if_neg (by omega),Nat.add_sub_cancel_left,List.take_set,hrow]
theorem Sl.setT {α:Type} {enc:α→List V} {b sz:Nat} {h h':AH} {v:V} {L:List α} {j:Nat} {x:α} (s:Sl b h sz v (L.map enc)) (hj:j<L.length) (hn:h.next≤h'.next) (hg:h'.get (Aq v)=some ⟨sz,(AU h v).set (CN v+j) (enc x)⟩):Sl b h' sz v ((L.set j x).map enc):=by
 have:=Sl.of_get (r:=enc x) s (j:=j) (by simpa using hj) hn hg
 simpa [List.map_set] using this
theorem Sl.rowlt {b sz:Nat} {h:AH} {v:V} {R:List (List V)} {j:Nat} (s:Sl b h sz v R) (hj:j<R.length):CN v+j<(AU h v).length:=by
 rcases s with ⟨hv,rfl⟩ | ⟨id,el,cap,cs,rfl,hg,hc,hrow,hcap,hlt',_⟩
 ·simp at hj
 ·simp only [CN,AU,Aq,hg];omega
theorem IR {α:Type} {l:List α} {i:Nat} {a:α} (h:i<l.length):(l.set i a)[i]?=some a:=by simp [h]
def BG (v:V) (n:Nat):V:=match v with | .sl id el _ cap=>.sl id el n cap | v=>v
theorem FS {v:V} {n:Nat}:Aq (BG v n)=Aq v:=by cases v<;>rfl
theorem Om {v:V} {n:Nat}:CN (BG v n)=CN v:=by cases v<;>rfl
theorem IU {v:V} {n:Nat}:(BG v n).isCell=v.isCell:=by cases v<;>rfl
theorem D9 {v:V} {n:Nat} (h:v.cells=[v]):(BG v n).cells=[BG v n]:=by cases v<;>first | rfl | (simp [BG];exact h)
theorem LV {h:AH} {v:V} {n:Nat}:AU h (BG v n)=AU h v:=by cases v<;>rfl
theorem Sl.pre {b:Nat} {h:AH} {sz:Nat} {v:V} {R:List (List V)} (s:Sl b h sz v R) {k:IntKind} {j:Int} {cs:List (List V)} (h0:0≤j) (h1:j≤R.length):Fy (some ⟨sz,cs⟩) sz v none (some (.i k j)) none=some (BG v j.toNat):=by
 rcases s with ⟨hv,rfl⟩ | ⟨id,el,cap,b,rfl,a,_,_,hc,_⟩
 ·simp at h1
  obtain rfl:j=0:=by omega
  rcases hv with rfl | rfl<;>simp [Fy,Aw,BG]
 ·have h2:j≤cap:=by omega
  simp [Fy,Aw,BG,h0,h2,hc]
theorem Sl.truncd {b:Nat} {h:AH} {sz:Nat} {v:V} {R:List (List V)} (s:Sl b h sz v R) {n:Nat} (hn:n≤R.length):Sl b h sz (BG v n) (R.take n):=by
 rcases s with ⟨hv,rfl⟩ | ⟨id,el,cap,b,rfl,a,c,d,hc,hlt,hbi,hb⟩
 ·exact .inl ⟨by rcases hv with rfl | rfl<;>simp [BG],by simp⟩
 ·refine .inr ⟨id,el,cap,b, ?_,a,c, ?_, ?_,hlt,hbi, ?_⟩
  ·simp [BG];omega
  ·have:(R.take n).length=n:=by simp;omega
   rw [this];conv=>rhs;rw [← d]
   rw [List.take_take];congr 1;omega
  ·simp;omega
  ·simp;omega
theorem FK {b sz : Nat} {h : AH} {v : V} {R : List (List V)} {k1 k2 : IntKind} {K : V → Prop} (s : Sl b h sz v R)
    (k:∀ v',Sl b h sz v' R→Aq v'=Aq v→K v'):Wo (Fy (h.get (Aq v)) sz v none (some (.i k1 R.length)) (some (.i k2 R.length))) K:=by
 rcases s with ⟨hv,rfl⟩ | ⟨id,el,cap,cs,rfl,hg,hc,hrow,hcap,hlt',hbi,hbig⟩
 ·rcases hv with rfl | rfl
  ·exact ⟨_,rfl,k _ (.inl ⟨.inl rfl,rfl⟩) rfl⟩
  ·exact ⟨_,rfl,k _ (.inl ⟨.inr rfl,rfl⟩) rfl⟩
 ·simp only [Fy,Aq,hg,Option.bind_some,Option.isSome_some,Bool.or_true]
  rw [if_pos ⟨trivial,trivial,hcap⟩]
  rw [Qy (by omega) (by omega)]
  simp only [Option.bind_some,Int.toNat_natCast]
  rw [Qy (by omega) (by omega)]
  simp only [Option.bind_some,Int.toNat_natCast,Ju,Option.map_some]
  refine ⟨_,rfl,k _ (.inr ⟨id,el,R.length,cs, ?_,hg,by omega,hrow,Nat.le_refl _,hlt',hbi,hbig⟩) rfl⟩
  simp
theorem I6 {h:AH} {i:Nat} {a b:Bm}:(h.put i a).put i b=h.put i b:=by
 unfold AH.put
 congr 1
 funext j
 simp only
 split<;>rfl
theorem QW:AH.emp.next=0:=Af rfl
theorem GB:AH.emp.lim=0:=Af rfl
theorem VS {i:Nat}:AH.emp.get i=none:=Af rfl
theorem QX {l:List V} {j:Nat}:DM l j=(l[j]?).getD .u:=by simp [DM]
theorem S7 {r:List V} {i:Nat}:over r i []=r:=Af rfl
theorem OW {r:List V} {i:Nat} {c:V} {cs:List V}:over r i (c::cs)=over (r.set i c) (i+1) cs:=Af rfl
theorem Ou {r:List V}:Dy r []=some r:=Af rfl
theorem L2 {r:List V} {off n:Nat} {v:V} {ps:List (Nat×Nat×V)}:Dy r ((off,n,v)::ps)=if v.cells.length=n∧off+n≤r.length∧v.cells.all V.isCell=true then Dy (over r off v.cells) ps else none:=Af rfl
theorem Ot {sz:Nat} {r:List (List V)}:BB sz r []=some r:=Af rfl
theorem L1 {sz j:Nat} {r:List (List V)} {v:V} {ps:List (Nat×V)}:BB sz r ((j,v)::ps)=if v.cells.length=sz∧j<r.length∧v.cells.all V.isCell=true then BB sz (r.set j v.cells) ps else none:=Af rfl
theorem AO {tp:TP} {f:Nat} {args:List V} {R:V} {tf:TF} (hf:tp.fn f=some tf) (hl:args.length≤tf.n) (z:EI args→ZC tp tf.body (DM args) AH.emp (fun x e h=>Gw tf.res x e h (fun r h'=>Dg (fun _=>True) h' 0 r R))):Pf tp f args R:=nV hf hl z
theorem Ac {tp:TP} {f:Nat} {args:List V} {h:AH} {K:V→AH→Prop} {tf:TF} (hf:tp.fn f=some tf) (hl:args.length≤tf.n) (z:Wf h→EI args→ZC tp tf.body (DM args) h (fun x e h2=>Gw tf.res x e h2 K)):Cq tp f args h K:=ZF hf hl z
structure Upd (h:AH) (id:Nat) (k:Bm) (h':AH):Prop where
 next:h.next≤h'.next
 lim:h'.lim=h.lim
 here:h'.get id=some k
 get:∀ i,i<h.next→i≠id→h'.get i=h.get i
theorem DG.ext {h h3:AH} {r R:V} (wf:Wf h) (x:Ap h h3) (fr:Dg (h.next≤·) h3 h.next r R):DG h h3 r (h.next≤·) R h:=
 ⟨Nat.le_refl _,rfl,x.next,fun i k hk=>⟨(wf.2 i k hk).1,Nat.not_le_of_lt (wf.2 i k hk).1,k.cs,by rw [x.get i (wf.2 i k hk).1];exact hk,(wf.2 i k hk).2 _ _⟩,fr⟩
theorem GA {tp:TP} {f:Nat} {args:List V} {h:AH} {K:V→AH→Prop} {R:V} {tf:TF} (hf:tp.fn f=some tf) (hl:args.length≤tf.n) (k:K R h) (z:h.lim≤h.next→EI args→ZC tp tf.body (DM args) h (fun x e h2=>Gw tf.res x e h2 (fun r h3=>Dg (h.next≤·) h3 h.next r R∧Ap h h3))):Cq tp f args h K:=
 nQ hf hl fun wf rp=>D0 (fun x e h2 q=>by
  cases x with
  | ex _=>exact q
  | nm=>obtain ⟨v,hv,fr,x⟩:=q;exact ⟨v,hv,_,_,_,DG.ext wf x fr,k⟩
  | rt=>obtain ⟨v,hv,fr,x⟩:=q;exact ⟨v,hv,_,_,_,DG.ext wf x fr,k⟩) (z wf.1 rp)
attribute [go_sem ↓] U3 fW U2 fV U1 U0 Qa fX Qb Qc fY gI gH Qs gF gG aFF UB P2 UD aDJ aDI aDH aDG lS lT lR Bd A5
attribute [go_sem] gO gP gN AN AD Fb
attribute [go_sem ↓] aDR UW GN LF P4 LG IA UM LD UL aDO IB P8 fJ US P9 fT fI fK P7 UO P6 P5 UP UG UH UF UI aDT UN UZ fO LH LE UU UT UV UK GP NS fM fN fP UQ fQ UX fL fH fS UY UR aDQ aDS fU aDP
attribute [go_sem] MT fR
attribute [go_sem ↓] NT U5 U6 U7 U8 U9 Qe U4 NU Qf Qg fZ gA Va Vb Vc NV Vd Ve Qh Vf Vg Vh Qi Qj Qk Ql Qm Qn Qd gB gC gD Vi Qo Vj Qp Qq NW LI NX Qr Vk gE
attribute [go_sem ↓] Env.set_get
attribute [go_sem] Env.set_none aFJ aDZ aDY aD0 aD3 aD4 aD1 aD2 gW Zh Ta S9 Tb O1 O2 OZ O0
attribute [go_sem] AI Am A0 Ah Fk Ow Ri Ad Ag En Hg OU Bl GE SM Id SL QW GB VS
attribute [go_sem ↓] F3 EY
attribute [go_sem] UC fE Ja HT Kf I9
attribute [go_sem] aDU aDV aEm lM SJ gT MB sameVa_sl TB Pd Tz TA Ty W4 Tx W2 W3 SQ SN aDN UJ lP Wt SV lO VN Xb lC Tr Tt Tq WZ Kc Mv Vo Vp Vq aDK aDL W8 TG mS hU VW Q7 V5 V6 V8 Sv Sw W5 Q4 Wi We Wj Wh W9 Ph H2 ON lJ gX aEg
attribute [go_sem] Vt VF VA VD VE Vu gM Vv VC Vz Vy Vx Vw Qw Qx nG nF aEo aEn Rh Ov aFQ aFG aFS aEh Ju Qy N8 VK VI VM QH QG VL QF QB QC QA QD QE VJ N9 SB Sz SD OI OH SC OG OC OD OB OE OF SA Mc w64 FO Vl Vm WV WW WX O8 VH Tl O6 O7
attribute [go_sem] aFL hG VT QZ aD6 aD5 aD7
attribute [go_sem] List.length_cons List.length_nil List.getElem?_cons_zero List.getElem?_cons_succ List.getElem?_nil List.drop_zero List.drop_succ_cons List.drop_nil List.take_succ_cons List.take_zero List.take_nil List.map_cons List.map_nil List.all_cons List.all_nil List.set_cons_zero List.set_cons_succ List.cons_append List.nil_append List.append_nil List.length_map Wy
attribute [go_sem] nS nR nT ZH ZJ ZG ZI Un Um Py NN Int.reduceLE Int.reduceLT Int.reduceEq Int.reduceAdd Int.reduceSub Int.reduceToNat
attribute [go_sem] Nat.zero_add Nat.add_zero and_true true_and decide_true decide_false not_true_eq_false not_false_eq_true Bool.not_true Bool.not_false Bool.and_true Bool.true_and Bool.and_false Bool.false_and Int.toNat_natCast Option.map_some Option.map_none Option.bind_some Nat.zero_le Nat.le_refl List.take_length Nat.sub_zero Nat.sub_self
attribute [go_sem ↓] reduceIte
attribute [go_sem] Nat.reduceEqDiff Nat.reduceAdd Nat.reduceSub Nat.reduceLeDiff Nat.reduceLT List.reduceReplicate Nat.reduceMul Int.reduceNeg reduceCtorEq
attribute [go_sem] QX Option.getD_some Option.getD_none S7 OW Ou L2 Ot L1
theorem HQ {α:Type} {l:List α} {i j:Nat} {a:α} (h:¬ i=j):(l.set i a)[j]?=l[j]?:=List.getElem?_set_ne h
attribute [go_sem] IR HQ List.set_set List.length_set
attribute [go_sem] I6 LV FS Om IU
attribute [go_sem] Int.natCast_add Int.natCast_one Int.natCast_zero Int.add_sub_cancel Int.sub_add_cancel Nat.add_sub_cancel
attribute [go_sem] aEq aEs aEt mL mP mK mO mN mM aEu WO WR aEr WP Ti O4
abbrev On (o:O):TO:=⟨none,o,none⟩
abbrev Of (d f s:Nat):TO:=⟨some d,.fad f (.t s),none⟩
end Go.Ab
