/- Part of a proof that a law returns true for every input of the second form's bound (no other condition). -/
import Derived.IntWalk
import Derived.Test.YtlcknhidblndnaaGreatPC
set_option linter.all false
/- Conditions ahead of code over values that stay; what they say of the abstract machine; functions by what they answer. -/
namespace Go.Ab
open Go
def AH.emp:AH:=⟨fun _=>none,0,0⟩
def EP (S:Nat→Prop) (m:Nat→Nat) (h hc:AH) (e e1:Env):Prop:=∀ t,PR S m hc.get h.next (e t) (e1 t)
section
variable (tp:TP)
def Cq (f:Nat) (args:List V) (h:AH) (Q:V→AH→Prop) (t:Fz Q:=.mk):Prop:=
 ∀ S m hc args1,Ca S m h hc→Bc S m hc.get h.next args args1→Ev tp f args1 hc (fun r1 hc'=>∃ r h' S' m',Ca S' m' h' hc'∧Ea S m h hc S' m' h' hc'∧PR S' m' hc'.get h'.next r r1∧Q r h')
def Pf (f:Nat) (args:List V) (R:V):Prop:=Cq tp f args AH.emp (fun r h'=>r=R∧h'=AH.emp)
def M6 (neg:Bool) (v w:V) (h:AH) (K:V→AH→Prop):Prop:=match v,w with
 | .fl _ xs,.ns=>∀ t:Bool,(xs≠[]→t=false)→K (.b (if neg then !t else t)) h
 | v,w=>Wo (D7 .sl v w) (fun r=>K (.b (if neg then !r else r)) h)
def z1 (o:O) (e:Env) (h:AH) (K:V→AH→Prop):Prop:=match o with
 | .eq neg .sl a b=>M6 neg (a.e2 e) (b.e2 e) h K
 | .call f l=>Wo (callee tp (.call f l) (X.e2 e)) (fun c=>Cq tp c.1 c.2 h K)
 | .inv x m l=>Wo (callee tp (.inv x m l) (X.e2 e)) (fun c=>Cq tp c.1 c.2 h K)
 | o=>Wo (A7 tp o (X.e2 e) h) (fun z=>K z.1 z.2)
def H8:List TO→Env→AH→(Env→AH→Prop)→Prop
 | [],e,h,K=>K e h
 | o::r,e,h,K=>match Ax e o.g with
  | some true=>z1 tp o.o e h (fun v h=>H8 r (e.set o.d v) h K)
  | some false=>H8 r (e.set o.d (.tup [])) h K
  | none=>False
def oL (o:O) (e:Env) (h:AH) (K:V→AH→Prop):Prop:=if AB o=true then z1 tp o e h K else z1 tp o e h.raise (fun v h'=>K v (h'.back h.lim))
def zq:List TO→Env→AH→(Env→AH→Prop)→Prop
 | [],e,h,K=>K e h
 | o::r,e,h,K=>match Ax e o.g with
  | some true=>oL tp o.o e h (fun v h=>zq r (e.set o.d v) h K)
  | some false=>zq r (e.set o.d (.tup [])) h K
  | none=>False
def zs:List (Bool×List TO)→Env→AH→(Env→AH→Prop)→Prop
 | [],e,h,K=>K e h
 | (true,l)::r,e,h,K=>zq tp l e h (fun e h=>zs r e h K)
 | (false,l)::r,e,h,K=>H8 tp l e h (fun e h=>zs r e h K)
def Stp (e:Env) (h:AH) (e2:Env) (h2:AH):Prop:=∀ S m hc e1,Ca S m h hc→EP S m h hc e e1→∃ S',Ca S' m h2 hc∧Ea S m h hc S' m h2 hc∧EP S' m h2 hc e2 e1
def zc:TC→Env→AH→(Ex→Env→AH→Prop)→Prop
 | .skip,e,h,K=>K .nm e h
 | .ret,e,h,K=>K .rt e h
 | .exit id,e,h,K=>K (.ex id) e h
 | .reg ops,e,h,K=>H8 tp ops e h (fun e h=>K .nm e h)
 | .dreg segs,e,h,K=>zs tp segs e h (fun e h=>K .nm e h)
 | .cond c a b,e,h,K=>Wb (c.e2 e) (zc a e h K) (zc b e h K)
 | .block id c,e,h,K=>zc c e h (fun x e h=>K (blk id x) e h)
 | .seq a b,e,h,K=>zc a e h (fun x e h=>PK x (zc b e h K) (K x e h))
 | .loop c,e,h,K=>∀ I:Env→AH→Prop,(∀ e h,zc c e h (fun x e h=>PK x (I e h) (K x e h))→I e h)→(∀ e h e2 h2,Stp e h e2 h2→I e2 h2→I e h)→I e h
variable {tp}
theorem M8 {o:O} {e:Env} {h:AH} {K L:V→AH→Prop} (kl:∀ v h,K v h→L v h) (z:z1 tp o e h K):z1 tp o e h L:=by
 unfold z1 at z ⊢
 split at z
 ·unfold M6 at z ⊢
  split at z
  ·exact fun t ht=>kl _ _ (z t ht)
  ·obtain ⟨a,ha,z⟩:=z;exact ⟨a,ha,kl _ _ z⟩
 ·obtain ⟨c,hc,z⟩:=z
  refine ⟨c,hc,fun S m hc args1 p q=>(z S m hc args1 p q).imp ?_⟩
  rintro v h' ⟨r,h2,S',m',a,b,c,d⟩;exact ⟨r,h2,S',m',a,b,c,kl _ _ d⟩
 ·obtain ⟨c,hc,z⟩:=z
  refine ⟨c,hc,fun S m hc args1 p q=>(z S m hc args1 p q).imp ?_⟩
  rintro v h' ⟨r,h2,S',m',a,b,c,d⟩;exact ⟨r,h2,S',m',a,b,c,kl _ _ d⟩
 ·obtain ⟨a,ha,z⟩:=z;exact ⟨a,ha,kl _ _ z⟩
theorem FQ:∀ {l:List TO} {e:Env} {h:AH} {K L:Env→AH→Prop},(∀ v h,K v h→L v h)→H8 tp l e h K→H8 tp l e h L
 | [],_,_,_,_,kl,z=>kl _ _ z
 | o::r,e,h,K,L,kl,z=>by
  simp only [H8] at z ⊢
  split at z
  ·exact M8 (fun _ _=>FQ kl) z
  ·exact FQ kl z
  ·exact z
theorem Jv:∀ {l:List TO} {e:Env} {h:AH} {K L:Env→AH→Prop},(∀ v h,K v h→L v h)→zq tp l e h K→zq tp l e h L
 | [],_,_,_,_,kl,z=>kl _ _ z
 | o::r,e,h,K,L,kl,z=>by
  simp only [zq] at z ⊢
  split at z
  ·unfold oL at z ⊢
   split at z
   ·rename_i hp;rw [if_pos hp];exact M8 (fun _ _=>Jv kl) z
   ·rename_i hp;rw [if_neg hp];exact M8 (fun _ _=>Jv kl) z
  ·exact Jv kl z
  ·exact z
theorem M9:∀ {l:List (Bool×List TO)} {e:Env} {h:AH} {K L:Env→AH→Prop},(∀ v h,K v h→L v h)→zs tp l e h K→zs tp l e h L
 | [],_,_,_,_,kl,z=>kl _ _ z
 | (true,l)::r,e,h,K,L,kl,z=>Jv (fun _ _=>M9 kl) z
 | (false,l)::r,e,h,K,L,kl,z=>FQ (fun _ _=>M9 kl) z
theorem Je {x:Ex} {A B C D:Prop} (ac:A→C) (bd:B→D) (z:PK x A B):PK x C D:=by
 cases x<;>first | exact ac z | exact bd z
theorem D5:∀ {c:TC} {e:Env} {h:AH} {K L:Ex→Env→AH→Prop},(∀ x v h,K x v h→L x v h)→zc tp c e h K→zc tp c e h L
 | .skip,_,_,_,_,kl,z=>kl _ _ _ z
 | .ret,_,_,_,_,kl,z=>kl _ _ _ z
 | .exit _,_,_,_,_,kl,z=>kl _ _ _ z
 | .reg ops,_,_,_,_,kl,z=>FQ (fun _ _=>kl _ _ _) z
 | .dreg segs,_,_,_,_,kl,z=>M9 (fun _ _=>kl _ _ _) z
 | .cond c a b,e,h,K,L,kl,z=>by
  simp only [zc,Wb] at z ⊢
  split at z
  ·exact D5 kl z
  ·exact D5 kl z
  ·exact z
 | .block id c,_,_,_,_,kl,z=>D5 (c:=c) (fun _ _ _=>kl _ _ _) z
 | .seq a b,_,_,_,_,kl,z=>D5 (c:=a) (fun x _ _=>Je (D5 kl) (kl _ _ _)) z
 | .loop c,_,_,_,_,kl,z=>fun I hI hS=>z I (fun e h q=>hI e h (D5 (c:=c) (fun x _ _=>Je id (kl _ _ _)) q)) hS
/-! ### What it says of the abstract machine -/
section
variable {S:Nat→Prop} {m:Nat→Nat} {h hc:AH}
theorem Ca.raise (c:Ca S m h hc):Ca S m h.raise hc.raise:=
 ⟨c.blk,c.inj,c.off,c.low,fun i hi hl=>by
  obtain ⟨k,hk⟩:=Option.ne_none_iff_exists'.1 hi
  have:=(c.blk i k hk).1
  have:h.next≤i:=hl
  omega,Nat.le_refl _,Nat.le_refl _⟩
theorem Ca.back {S':Nat→Prop} {m':Nat→Nat} {h' hc':AH} (c:Ca S m h hc) (c':Ca S' m' h' hc') (a:Ea S m h.raise hc.raise S' m' h' hc'):Ca S' m' (h'.back h.lim) (hc'.back hc.lim)∧Ea S m h hc S' m' (h'.back h.lim) (hc'.back hc.lim):=by
 refine ⟨⟨c'.blk,c'.inj,c'.off,c'.low,fun i hi hl=>?_,Nat.le_trans c.bnd a.next1,Nat.le_trans c.bnd2 a.next2⟩,⟨a.sub,a.new,a.map,a.next2,a.next1,rfl,rfl,a.frame,a.liv⟩⟩
 rcases a.liv i hi with ⟨h1,h2⟩ | h1
 ·rw [a.map i h1];exact c.lim i h2 hl
 ·exact Nat.le_trans c.bnd h1
theorem EP.mono {S':Nat→Prop} {m':Nat→Nat} {h' hc':AH} {e e1:Env} (c:Ca S m h hc) (a:Ea S m h hc S' m' h' hc') (p:EP S m h hc e e1):EP S' m' h' hc' e e1:=fun t=>(p t).mono (a.mon c)
theorem EP.set {e e1:Env} {v v1:V} (p:EP S m h hc e e1) (q:PR S m hc.get h.next v v1) (d:Option Nat):EP S m h hc (e.set d v) (e1.set d v1):=by
 intro t
 cases d with
 | none=>exact p t
 | some d=>simp only [Env.set];split;exact q;exact p t
theorem GU {e e1:Env} (p:EP S m h hc e e1) {g:Option (Nat×Bool)} {b:Bool} (hw:Ax e g=some b):Ax e1 g=some b:=by
 unfold Ax at hw ⊢
 split at hw
 ·exact hw
 ·rename_i t x
  have q:=p t
  split at hw
  ·rename_i y hy
   rw [hy] at q
   cases hq:e1 t<;>rw [hq] at q<;>cases q
   exact hw
  ·rename_i hy
   rw [hy] at q
   cases hq:e1 t<;>rw [hq] at q<;>cases q
   rename_i q
   cases q
   exact hw
  ·simp at hw
def Y8 (S:Nat→Prop) (m:Nat→Nat) (h hc:AH) (K:V→AH→Prop) (v1:V) (hc':AH):Prop:=∃ v h' S' m',Ca S' m' h' hc'∧Ea S m h hc S' m' h' hc'∧PR S' m' hc'.get h'.next v v1∧K v h'
def CX (S:Nat→Prop) (m:Nat→Nat) (h hc:AH) (K:Env→AH→Prop) (e1:Env) (hc':AH):Prop:=∃ e h' S' m',Ca S' m' h' hc'∧Ea S m h hc S' m' h' hc'∧EP S' m' h' hc' e e1∧K e h'
theorem Ig {e e1:Env} (p:EP S m h hc e e1) {o:O} {f:Nat} {args:List V} (hk:callee tp o (X.e2 e)=some (f,args)):∃ args1,callee tp o (X.ev e1)=some (f,args1)∧Bc S m hc.get h.next args args1:=by
 have all:∀ l:List X,Bc S m hc.get h.next (l.map (X.e2 e)) (l.map (X.ev e1)):=fun l=>by
  induction l with
  | nil=>exact .nil _
  | cons a l ih=>exact .cons _ _ _ _ _ (JA p a) ih
 unfold callee at hk ⊢
 split at hk
 ·rename_i x l
  have q:=JA p x
  split at hk
  ·rename_i g a b hx
   rw [hx] at q
   simp only [Option.some.injEq,Prod.mk.injEq] at hk
   obtain ⟨rfl,rfl⟩:=hk
   cases hq:X.ev e1 x<;>rw [hq] at q<;>cases q
   rename_i q1 q2
   exact ⟨_,rfl,(q1.app (all l)).app q2⟩
  ·simp at hk
 ·rename_i x mm l
  have q:=JA p x
  split at hk
  ·rename_i t v hx
   rw [hx] at q
   cases hq:X.ev e1 x<;>rw [hq] at q<;>cases q
   rename_i q1
   simp only [Option.bind_eq_some_iff] at hk ⊢
   obtain ⟨mt,hmt,hk⟩:=hk
   split at hk
   ·rename_i ha
    simp only [Option.some.injEq,Prod.mk.injEq] at hk
    obtain ⟨rfl,rfl⟩:=hk
    refine ⟨_,⟨mt,hmt, ?_⟩,.cons _ _ _ _ _ q1 (all l)⟩
    simp only [ha]
   ·rename_i j ha
    split at hk
    ·simp only [Option.map_eq_some_iff,Prod.mk.injEq] at hk
     obtain ⟨r,hr,rfl,rfl⟩:=hk
     cases q1
     rename_i q1
     obtain ⟨r',h1,h2⟩:=q1.get _ _ hr
     refine ⟨r'::l.map (X.ev e1),⟨mt,hmt, ?_⟩,.cons _ _ _ _ _ h2 (all l)⟩
     simp only [ha,h1,Option.map_some]
    ·simp at hk
  ·simp at hk
 ·simp at hk
theorem Um (c:Ca S m h hc) {e e1:Env} (p:EP S m h hc e e1) {o:O} {K:V→AH→Prop} (z:z1 tp o e h K):W1 tp o e1 hc (Y8 S m h hc K):=by
 unfold z1 at z
 split at z
 ·rename_i neg a b
  have pa:=JA p a
  have pb:=JA p b
  rw [Zt (fun C=>rfl)]
  simp only [Ac]
  rw [A2]
  unfold M6 at z
  split at z
  ·rename_i s xs ha hb
   rw [ha] at pa;rw [hb] at pb
   cases hb':X.ev e1 b<;>rw [hb'] at pb<;>cases pb
   have key:∀ t:Bool,(xs≠[]→t=false)→D7 .sl (X.ev e1 a) .ns=some t→Wo (D7 .sl (X.ev e1 a) .ns) (fun r=>Y8 S m h hc K (.b (if neg=true then !r else r)) hc):=by
    intro t ht he
    rw [he,AE]
    exact ⟨_,h,S,m,c,Ea.refl c,.b _ _,z t ht⟩
   cases ha':X.ev e1 a<;>rw [ha'] at pa key<;>cases pa
   ·exact key true (by simp) rfl
   ·exact key false (by simp) rfl
   ·exact key false (by simp) rfl
  ·obtain ⟨r,hr,z⟩:=z
   rw [Re hr pa pb,AE]
   exact ⟨_,h,S,m,c,Ea.refl c,.b _ _,z⟩
 ·obtain ⟨⟨f,args⟩,hk,z⟩:=z
  obtain ⟨args1,hk1,q⟩:=Ig p hk
  rw [UE,hk1,AE]
  exact z S m hc args1 c q
 ·obtain ⟨⟨f,args⟩,hk,z⟩:=z
  obtain ⟨args1,hk1,q⟩:=Ig p hk
  rw [fP,hk1,AE]
  exact z S m hc args1 c q
 ·rename_i hn0 hn1 hn2
  obtain ⟨⟨v,h'⟩,hd,z⟩:=z
  obtain ⟨v1,hc',S',m',h1,h2,h3,h4⟩:=iK c (JA p) hd
  rw [Zt (fun C=>by unfold AL;split<;>first | rfl | (exact absurd rfl (hn1 _ _)) | (exact absurd rfl (hn2 _ _ _))),h1,AE]
  exact ⟨v,h',S',m',h2,h3,h4,z⟩
theorem CX.then {S':Nat→Prop} {m':Nat→Nat} {h' hc':AH} (a:Ea S m h hc S' m' h' hc') {K:Env→AH→Prop} {e1:Env} {hq:AH} (z:CX S' m' h' hc' K e1 hq):CX S m h hc K e1 hq:=by
 obtain ⟨e,h2,S2,m2,c2,a2,p,k⟩:=z
 exact ⟨e,h2,S2,m2,c2,a.trans a2,p,k⟩
end
theorem GF.imp {l:List TO} {e:Env} {h:AH} {Q R:Env→AH→Prop} (w:GF tp l e h Q) (qr:∀ e h,Q e h→R e h):GF tp l e h R:=by
 obtain ⟨k,e',h',he,q⟩:=w;exact ⟨k,e',h',he,qr _ _ q⟩
theorem WQ.imp {l:List TO} {e:Env} {h:AH} {Q R:Env→AH→Prop} (w:WQ tp l e h Q) (qr:∀ e h,Q e h→R e h):WQ tp l e h R:=by
 obtain ⟨k,e',h',he,q⟩:=w;exact ⟨k,e',h',he,qr _ _ q⟩
theorem WS.imp {l:List (Bool×List TO)} {e:Env} {h:AH} {Q R:Env→AH→Prop} (w:WS tp l e h Q) (qr:∀ e h,Q e h→R e h):WS tp l e h R:=by
 obtain ⟨k,e',h',he,q⟩:=w;exact ⟨k,e',h',he,qr _ _ q⟩
theorem W1.imp {o:O} {e:Env} {h:AH} {Q R:V→AH→Prop} (w:W1 tp o e h Q) (qr:∀ v h,Q v h→R v h):W1 tp o e h R:=by
 obtain ⟨k,e',h',he,q⟩:=w;exact ⟨k,e',h',he,qr _ _ q⟩
theorem GV:∀ (l:List TO) {S:Nat→Prop} {m:Nat→Nat} {h hc:AH} {e e1:Env} {K:Env→AH→Prop},Ca S m h hc→EP S m h hc e e1→H8 tp l e h K→GF tp l e1 hc (CX S m h hc K)
 | [],S,m,h,hc,e,e1,K,c,p,z=>by rw [Qc];exact ⟨e,h,S,m,c,Ea.refl c,p,z⟩
 | ⟨d,o,g⟩::r,S,m,h,hc,e,e1,K,c,p,z=>by
  simp only [H8] at z
  split at z
  ·rename_i hw
   rw [Qd (GU p hw)]
   refine (Um c p z).imp ?_
   rintro v1 hc' ⟨v,h',S',m',c',a',q,z⟩
   exact (GV r c' ((p.mono c a').set q d) z).imp fun _ _=>CX.then a'
  ·rename_i hw
   rw [Oa (GU p hw)]
   exact GV r c (p.set (.tup _ _ _ (.nil _)) d) z
  ·exact z.elim
theorem N1:∀ (l:List TO) {S:Nat→Prop} {m:Nat→Nat} {h hc:AH} {e e1:Env} {K:Env→AH→Prop},Ca S m h hc→EP S m h hc e e1→zq tp l e h K→WQ tp l e1 hc (CX S m h hc K)
 | [],S,m,h,hc,e,e1,K,c,p,z=>by rw [fT];exact ⟨e,h,S,m,c,Ea.refl c,p,z⟩
 | ⟨d,o,g⟩::r,S,m,h,hc,e,e1,K,c,p,z=>by
  simp only [zq] at z
  split at z
  ·rename_i hw
   rw [fU (GU p hw)]
   unfold WQ1
   unfold oL at z
   split at z
   ·rename_i hp
    rw [if_pos hp]
    refine ⟨?_,(Um c p z).imp ?_⟩
    ·cases o<;>try rfl
     rename_i sz x i
     simp only [z1,A7] at z
     obtain ⟨w,hw,_⟩:=z
     simp only [Option.map_eq_some_iff] at hw
     obtain ⟨v,hv,_⟩:=hw
     have q:=JA p x
     simp only [Gi]
     split
     ·rename_i id el len cap hx
      rw [hx] at q
      unfold Wm at hv
      split at hv
      ·rename_i k hk hb
       rw [hk] at q
       cases q
       simp only [hk,JG] at hb
       obtain ⟨_,_,cs,hcs,_⟩:=c.blk _ _ hb
       rw [hcs];rfl
      ·rename_i s xs _ hk
       rw [hk] at q
       cases q
       simp only [*];rfl
      ·simp at hv
     ·rfl
    ·rintro v1 hc' ⟨v,h',S',m',c',a',q,z⟩
     exact (N1 r c' ((p.mono c a').set q d) z).imp fun _ _=>CX.then a'
   ·rename_i hp
    rw [if_neg hp]
    have p':EP S m h.raise hc.raise e e1:=p
    refine (Um c.raise p' z).imp ?_
    rintro v1 hc' ⟨v,h',S',m',c',a',q,z⟩
    obtain ⟨c2,a2⟩:=c.back c' a'
    exact (N1 r c2 ((p.mono c a2).set q d) z).imp fun _ _=>CX.then a2
  ·rename_i hw
   rw [UK (GU p hw)]
   exact N1 r c (p.set (.tup _ _ _ (.nil _)) d) z
  ·exact z.elim
theorem Un:∀ (l:List (Bool×List TO)) {S:Nat→Prop} {m:Nat→Nat} {h hc:AH} {e e1:Env} {K:Env→AH→Prop},Ca S m h hc→EP S m h hc e e1→zs tp l e h K→WS tp l e1 hc (CX S m h hc K)
 | [],S,m,h,hc,e,e1,K,c,p,z=>by rw [fW];exact ⟨e,h,S,m,c,Ea.refl c,p,z⟩
 | (true,l)::r,S,m,h,hc,e,e1,K,c,p,z=>by
  rw [Qe]
  refine (N1 l c p z).imp ?_
  rintro e1' hc' ⟨e',h',S',m',c',a',p',z⟩
  exact (Un r c' p' z).imp fun _ _=>CX.then a'
 | (false,l)::r,S,m,h,hc,e,e1,K,c,p,z=>by
  rw [fV]
  refine (GV l c p z).imp ?_
  rintro e1' hc' ⟨e',h',S',m',c',a',p',z⟩
  exact (Un r c' p' z).imp fun _ _=>CX.then a'
theorem FP:∀ (cd:TC) {S:Nat→Prop} {m:Nat→Nat} {h hc:AH} {e e1:Env} {K:Ex→Env→AH→Prop},Ca S m h hc→EP S m h hc e e1→zc tp cd e h K→WC tp cd e1 hc (fun x=>CX S m h hc (K x))
 | .skip,S,m,h,hc,e,e1,K,c,p,z=>by rw [UJ];exact ⟨e,h,S,m,c,Ea.refl c,p,z⟩
 | .ret,S,m,h,hc,e,e1,K,c,p,z=>by rw [fR];exact ⟨e,h,S,m,c,Ea.refl c,p,z⟩
 | .exit id,S,m,h,hc,e,e1,K,c,p,z=>by rw [UH];exact ⟨e,h,S,m,c,Ea.refl c,p,z⟩
 | .reg ops,S,m,h,hc,e,e1,K,c,p,z=>by rw [fQ];exact GV ops c p z
 | .dreg segs,S,m,h,hc,e,e1,K,c,p,z=>by rw [UG];exact Un segs c p z
 | .cond q a b,S,m,h,hc,e,e1,K,c,p,z=>by
  rw [UF]
  have r:=JA p q
  simp only [zc,Wb] at z
  split at z
  ·rename_i hx;rw [hx] at r;cases hq:X.ev e1 q<;>rw [hq] at r<;>cases r;exact FP a c p z
  ·rename_i hx;rw [hx] at r;cases hq:X.ev e1 q<;>rw [hq] at r<;>cases r;exact FP b c p z
  ·exact z.elim
 | .block id cd,S,m,h,hc,e,e1,K,c,p,z=>by rw [Qb];exact FP cd c p z
 | .seq a b,S,m,h,hc,e,e1,K,c,p,z=>by
  rw [fS]
  refine (FP a c p z).imp ?_
  rintro x e1' hc' ⟨e',h',S',m',c',a',p',z⟩
  cases x with
  | nm=>exact (FP b c' p' z).imp fun _ _ _=>CX.then a'
  | ex j=>exact ⟨e',h',S',m',c',a',p',z⟩
  | rt=>exact ⟨e',h',S',m',c',a',p',z⟩
 | .loop cd,S,m,h,hc,e,e1,K,c,p,z=>by
  refine z (fun e h=>∀ S m hc e1,Ca S m h hc→EP S m h hc e e1→WC tp (.loop cd) e1 hc (fun x=>CX S m h hc (K x))) ?_ ?_ S m hc e1 c p
  rotate_left
  ·intro e h e2 h2 st q S m hc e1 c p
   obtain ⟨S',c',a',p'⟩:=st S m hc e1 c p
   exact (q S' m hc e1 c' p').imp fun _ _ _=>CX.then a'
  intro e h q S m hc e1 c p
  refine UI ((FP cd c p q).imp ?_)
  rintro x e1' hc' ⟨e',h',S',m',c',a',p',z⟩
  cases x with
  | nm=>exact (z S' m' hc' e1' c' p').imp fun _ _ _=>CX.then a'
  | ex j=>exact ⟨e',h',S',m',c',a',p',z⟩
  | rt=>exact ⟨e',h',S',m',c',a',p',z⟩
/-! ### Functions -/
section
variable {S:Nat→Prop} {m:Nat→Nat} {h hc:AH}
theorem TK (c:Ca S m h hc) {e e1:Env} (p:EP S m h hc e e1):∀ {l:List RV} {vs:List V},PL e h l=some vs→∃ vs1,PL e1 hc l=some vs1∧Bc S m hc.get h.next vs vs1
 | [],vs,hv=>by simp [PL] at hv;subst hv;exact ⟨[],rfl,.nil _⟩
 | r::l,vs,hv=>by
  simp only [PL,Option.bind_eq_some_iff,Option.map_eq_some_iff] at hv ⊢
  obtain ⟨v,h1,ws,h2,rfl⟩:=hv
  obtain ⟨ws1,h3,h4⟩:=TK c p h2
  have:∃ v1,MR e1 hc r=some v1∧PR S m hc.get h.next v v1:=by
   cases r with
   | t n=>simp [MR] at h1 ⊢;subst h1;exact p n
   | cell n k agg=>
    have q:=p n
    simp only [MR] at h1 ⊢
    split at h1
    ·rename_i id el off hx
     rw [hx] at q
     cases hq:e1 n<;>rw [hq] at q<;>cases q
     simp only [Option.bind_eq_some_iff] at h1
     obtain ⟨b,hb,row,hr,hcut⟩:=h1
     exact GQ c hb hr hcut
    ·simp at h1
  obtain ⟨v1,h5,h6⟩:=this
  exact ⟨_,⟨v1,h5,ws1,h3,rfl⟩,.cons _ _ _ _ _ h6 h4⟩
theorem MJ (c:Ca S m h hc) {e e1:Env} (p:EP S m h hc e e1) {l:List RV} {v:V} (hv:Bp e h l=some v):∃ v1,Bp e1 hc l=some v1∧PR S m hc.get h.next v v1:=by
 simp only [Bp,Option.map_eq_some_iff] at hv ⊢
 obtain ⟨vs,h1,rfl⟩:=hv
 obtain ⟨vs1,h2,h3⟩:=TK c p h1
 refine ⟨_,⟨vs1,h2,rfl⟩, ?_⟩
 cases h3 with
 | nil=>exact .tup _ _ _ (.nil _)
 | cons _ v v' l l' q r=>
  cases r with
  | nil=>exact q
  | cons _ w w' l l' q' r=>exact .tup _ _ _ (.cons _ _ _ _ _ q (.cons _ _ _ _ _ q' r))
end
def GG (res:List RV) (x:Ex) (e:Env) (h:AH) (Q:V→AH→Prop) (t:Fz (PProd.mk e Q):=.mk):Prop:=match x with | .ex _=>False | _=>Wo (Bp e h res) (fun v=>Q v h)
inductive Dr:V→Prop where
 | b (x:Bool):Dr (.b x)
 | i (k:IntKind) (z:Int):Dr (.i k z)
 | s (x:ByteArray):Dr (.s x)
 | np:Dr .np
 | ns:Dr .ns
 | e0:Dr .e0
 | nf:Dr .nf
 | ni:Dr .ni
 | u:Dr .u
mutual
inductive CW (P:Nat→Prop) (h:AH):Nat→V→V→Prop where
 | z (n:Nat) (v:V):Dr v→CW P h n v v
 | ns (n:Nat) (sz:Nat):CW P h n .ns (.fl sz [])
 | e0 (n:Nat) (sz:Nat):CW P h n .e0 (.fl sz [])
 | fl (n:Nat) (sz:Nat) (xs:List (List V)):CW P h n (.fl sz xs) (.fl sz xs)
 | fp (n:Nat) (sz:Nat) (xs:List (List V)) (j o:Nat):CW P h n (.fp sz xs j o) (.fp sz xs j o)
 | sl (n:Nat) (id el len cap sz:Nat) (cs xs:List (List V)):P id→h.get id=some ⟨sz,cs⟩→el+len≤cs.length→len≤cap→len<Hi→B1 P h 0 ((cs.drop el).take len) xs→CW P h n (.sl id el len cap) (.fl sz xs)
 | p (n:Nat) (id el off:Nat):id<n→CW P h n (.p id el off) (.p id el off)
 | so (n:Nat) (id el len cap:Nat):id<n→CW P h n (.sl id el len cap) (.sl id el len cap)
 | f (n:Nat) (fn:Fn) (a c a' c':List V):BO P h n a a'→BO P h n c c'→CW P h n (.f fn a c) (.f fn a' c')
 | ifc (n:Nat) (t:Nat) (v v':V):CW P h n v v'→CW P h n (.ifc t v) (.ifc t v')
 | agg (n:Nat) (l l':List V):BO P h n l l'→CW P h n (.agg l) (.agg l')
 | tup (n:Nat) (l l':List V):BO P h n l l'→CW P h n (.tup l) (.tup l')
inductive BO (P:Nat→Prop) (h:AH):Nat→List V→List V→Prop where
 | nil (n:Nat):BO P h n [] []
 | cons (n:Nat) (v v':V) (l l':List V):CW P h n v v'→BO P h n l l'→BO P h n (v::l) (v'::l')
inductive B1 (P:Nat→Prop) (h:AH):Nat→List (List V)→List (List V)→Prop where
 | nil (n:Nat):B1 P h n [] []
 | cons (n:Nat) (v v':List V) (l l':List (List V)):BO P h n v v'→B1 P h n l l'→B1 P h n (v::l) (v'::l')
end
section
variable {S:Nat→Prop} {m:Nat→Nat} {h hc:AH} {P:Nat→Prop}
def SP (S:Nat→Prop) (m:Nat→Nat) (h:AH) (P:Nat→Prop) (a:Nat):Prop:=S a∨∃ i,P i∧h.live i∧m i=a
theorem B1.len {n:Nat}:∀ {l l':List (List V)},B1 P h n l l'→l.length=l'.length
 | _,_,.nil _=>rfl
 | _,_,.cons _ _ _ _ _ _ q=>by simp [q.len]
mutual
theorem CW.ok (c:Ca S m h hc) {n:Nat}:∀ {v r v1:V},CW P h n v r→PR S m hc.get h.next v v1→PR (SP S m h P) m hc.get n r v1
 | _,_,_,.z _ _ h0,p=>by cases h0<;>cases p<;>constructor
 | _,_,_,.ns _ sz,p=>by cases p;exact .fl0 _ _
 | _,_,_,.e0 _ sz,p=>by cases p;exact .fl1 _ _
 | _,_,_,.fl _ sz xs,p=>by
  cases p with
  | fl0=>exact .fl0 _ _
  | fl1=>exact .fl1 _ _
  | fl _ _ _ a el cap cs h1 h2 h3 h4 h5 r=>exact .fl _ _ _ _ _ _ _ (.inl h1) h2 h3 h4 h5 (r.mono ⟨fun a h=>.inl h,fun _ _=>rfl,fun i hi=>absurd hi (Nat.not_lt_zero _),Nat.le_refl _⟩)
 | _,_,_,.fp _ sz xs j o,p=>by
  cases p with
  | fp _ _ _ _ _ a el cs h1 h2 h3 r=>exact .fp _ _ _ _ _ _ _ _ (.inl h1) h2 h3 (r.mono ⟨fun a h=>.inl h,fun _ _=>rfl,fun i hi=>absurd hi (Nat.not_lt_zero _),Nat.le_refl _⟩)
 | _,_,_,.sl _ id el len cap sz cs xs hP hg h1 h2 h3 fr,p=>by
  cases p
  obtain ⟨_,_,cs1,hcs,hr⟩:=c.blk id _ hg
  have e:xs.length=len:=by rw [← fr.len];simp;omega
  subst e
  exact .fl _ _ _ _ _ _ cs1 (.inr ⟨id,hP,by simp [AH.live,hg],rfl⟩) hcs h2 (by rw [← hr.len];exact h1) h3 (B1.ok c fr ((hr.drop _).take _))
 | _,_,_,.p _ id el off hi,p=>by cases p;exact .p _ _ _ _ hi
 | _,_,_,.so _ id el len cap hi,p=>by cases p;exact .sl _ _ _ _ _ hi
 | _,_,_,.f _ fn a cc a' c' fa fc,p=>by cases p;rename_i p q;exact .f _ _ _ _ _ _ (BO.ok c fa p) (BO.ok c fc q)
 | _,_,_,.ifc _ t v v' fv,p=>by cases p;rename_i p;exact .ifc _ _ _ _ (CW.ok c fv p)
 | _,_,_,.agg _ l l' fl,p=>by cases p;rename_i p;exact .agg _ _ _ (BO.ok c fl p)
 | _,_,_,.tup _ l l' fl,p=>by cases p;rename_i p;exact .tup _ _ _ (BO.ok c fl p)
theorem BO.ok (c:Ca S m h hc) {n:Nat}:∀ {v r v1:List V},BO P h n v r→Bc S m hc.get h.next v v1→Bc (SP S m h P) m hc.get n r v1
 | _,_,_,.nil _,p=>by cases p;exact .nil _
 | _,_,_,.cons _ v v' l l' fv fl,p=>by cases p;rename_i p q;exact .cons _ _ _ _ _ (CW.ok c fv p) (BO.ok c fl q)
theorem B1.ok (c:Ca S m h hc) {n:Nat}:∀ {v r v1:List (List V)},B1 P h n v r→B7 S m hc.get h.next v v1→B7 (SP S m h P) m hc.get n r v1
 | _,_,_,.nil _,p=>by cases p;exact .nil _
 | _,_,_,.cons _ v v' l l' fv fl,p=>by cases p;rename_i p q;exact .cons _ _ _ _ _ (BO.ok c fv p) (B1.ok c fl q)
end
mutual
theorem PR.frz {g:Nat→Option Bo} {n:Nat} {P:Nat→Prop} {h:AH}:∀ {v v1:V},PR S m g n v v1→CW P h n v v
 | _,_,.u _ x=>.z _ _ .u
 | _,_,.b _ x=>.z _ _ (.b x)
 | _,_,.i _ k z=>.z _ _ (.i k z)
 | _,_,.s _ x=>.z _ _ (.s x)
 | _,_,.np _=>.z _ _ .np
 | _,_,.ns _=>.z _ _ .ns
 | _,_,.e0 _=>.z _ _ .e0
 | _,_,.nf _=>.z _ _ .nf
 | _,_,.ni _=>.z _ _ .ni
 | _,_,.p _ id el off h=>.p _ _ _ _ h
 | _,_,.sl _ id el len cap h=>.so _ _ _ _ _ h
 | _,_,.fl0 _ sz=>.fl _ _ _
 | _,_,.fl1 _ sz=>.fl _ _ _
 | _,_,.fl _ sz xs ..=>.fl _ _ _
 | _,_,.fp _ sz xs ..=>.fp _ _ _ _ _
 | _,_,.f _ fn a c a' c' p q=>.f _ _ _ _ _ _ p.frz q.frz
 | _,_,.ifc _ t v v' p=>.ifc _ _ _ _ p.frz
 | _,_,.agg _ l l' p=>.agg _ _ _ p.frz
 | _,_,.tup _ l l' p=>.tup _ _ _ p.frz
theorem Bc.frz {g:Nat→Option Bo} {n:Nat} {P:Nat→Prop} {h:AH}:∀ {v v1:List V},Bc S m g n v v1→BO P h n v v
 | _,_,.nil _=>.nil _
 | _,_,.cons _ v v' l l' p q=>.cons _ _ _ _ _ p.frz q.frz
theorem B7.frz {g:Nat→Option Bo} {n:Nat} {P:Nat→Prop} {h:AH}:∀ {v v1:List (List V)},B7 S m g n v v1→B1 P h n v v
 | _,_,.nil _=>.nil _
 | _,_,.cons _ v v' l l' p q=>.cons _ _ _ _ _ p.frz q.frz
end
theorem SP.low (c:Ca S m h hc):∀ a,SP S m h P a→a<hc.next:=by
 rintro a (ha | ⟨i,_,hi,rfl⟩)
 ·exact c.low a ha
 ·obtain ⟨k,hk⟩:=Option.ne_none_iff_exists'.1 hi
  exact (c.blk i k hk).2.1
theorem Ca.emp {T:Nat→Prop} (low:∀ a,T a→a<hc.next) (bnd:hc.lim≤hc.next) (m:Nat→Nat):Ca T m AH.emp hc:=
 ⟨fun i k hk=>by simp [AH.emp] at hk,fun i j hi=>by simp [AH.live,AH.emp] at hi,fun i hi=>by simp [AH.live,AH.emp] at hi,low,fun i hi=>by simp [AH.live,AH.emp] at hi,bnd,Nat.le_refl _⟩
end
theorem EP.args {S:Nat→Prop} {m:Nat→Nat} {h hc:AH} {args args1:List V} (p:Bc S m hc.get h.next args args1):EP S m h hc (DS args) (DS args1):=by
 intro t
 simp only [DS,List.getD_eq_getElem?_getD]
 cases ht:args[t]? with
 | none=>
  have:args1[t]?=none:=by rw [List.getElem?_eq_none_iff] at ht ⊢;rw [← p.len];exact ht
  rw [this];exact .u _ _
 | some v=>
  obtain ⟨v1,h1,h2⟩:=p.get t v ht
  rw [h1];exact h2
def GE (v:V):Prop:=∃ S m g n v1,PR S m g n v v1
def ES (l:List V):Prop:=∀ v,v∈l→GE v
theorem Bc.reps {S:Nat→Prop} {m:Nat→Nat} {g:Nat→Option Bo} {n:Nat}:∀ {l l1:List V},Bc S m g n l l1→ES l
 | _,_,.nil _=>fun v hv=>by simp at hv
 | _,_,.cons _ v v' l l' p q=>fun w hw=>by
  rcases List.mem_cons.1 hw with rfl | hw
  ·exact ⟨_,_,_,_,_,p⟩
  ·exact q.reps w hw
theorem GE.big {s:Nat} {xs:List (List V)} (r:GE (.fl s xs)):xs.length<4000000000:=by
 obtain ⟨S,m,g,n,v1,p⟩:=r
 cases p with
 | fl0=>simp
 | fl1=>simp
 | fl _ _ _ a el cap cs h1 h2 h3 h4 h5 r=>exact h5
theorem GE.row {s:Nat} {xs:List (List V)} (r:GE (.fl s xs)) {row:List V} (hr:row∈xs):ES row:=by
 obtain ⟨S,m,g,n,v1,p⟩:=r
 cases p with
 | fl0=>simp at hr
 | fl1=>simp at hr
 | fl _ _ _ a el cap cs h1 h2 h3 h4 h5 r=>
  obtain ⟨j,hj,rfl⟩:=List.getElem_of_mem hr
  obtain ⟨row1,_,q⟩:=r.get j _ (List.getElem?_eq_getElem hj)
  exact q.reps
theorem GE.agg {l:List V} (r:GE (.agg l)):ES l:=by
 obtain ⟨S,m,g,n,v1,p⟩:=r
 cases p with
 | agg _ _ _ q=>exact q.reps
theorem GE.tup {l:List V} (r:GE (.tup l)):ES l:=by
 obtain ⟨S,m,g,n,v1,p⟩:=r
 cases p with
 | tup _ _ _ q=>exact q.reps
theorem GE.frzr {s:Nat} {xs:List (List V)} (r:GE (.fl s xs)) {P:Nat→Prop} {h:AH}:B1 P h 0 xs xs:=by
 obtain ⟨S,m,g,n,v1,p⟩:=r
 cases p with
 | fl0=>exact .nil _
 | fl1=>exact .nil _
 | fl _ _ _ a el cap cs h1 h2 h3 h4 h5 r=>exact r.frz
theorem ES.head {v:V} {l:List V} (r:ES (v::l)):GE v:=r v (by simp)
theorem ES.tail {v:V} {l:List V} (r:ES (v::l)):ES l:=fun w hw=>r w (by simp [hw])
theorem oS {f:Nat} {args:List V} {R:V} {tf:TF} (hf:tp.fn f=some tf) (hl:args.length≤tf.n) (z:ES args→zc tp tf.body (DS args) AH.emp (fun x e h=>GG tf.res x e h (fun r h'=>CW (fun _=>True) h' 0 r R))):Pf tp f args R:=by
 intro S m hc args1 c p
 have p0:EP S m AH.emp hc (DS args) (DS args1):=EP.args p
 refine PO hf (by rw [← p.len];exact hl) ((FP tf.body c p0 (z p.reps)).imp ?_)
 rintro x e1 hc' ⟨e,h',S',m',c',a',pe,z⟩
 unfold GG at z
 unfold Qg
 have key:(Wo (Bp e h' tf.res) fun v=>CW (fun _=>True) h' 0 v R)→Wo (Bp e1 hc' tf.res) (fun r1=>∃ r h'' S' m',Ca S' m' h'' hc'∧Ea S m AH.emp hc S' m' h'' hc'∧PR S' m' hc'.get h''.next r r1∧r=R∧h''=AH.emp):=by
  rintro ⟨v,hv,fz⟩
  obtain ⟨v1,h1,h2⟩:=MJ c' pe hv
  refine ⟨v1,h1,R,AH.emp,SP S' m' h' (fun _=>True),m',Ca.emp (SP.low c') c'.bnd m',⟨fun a h=>.inl (a'.sub a h), ?_,a'.map,Nat.le_refl _,a'.next1,rfl,a'.lim1,a'.frame,fun i hi=>by simp [AH.live,AH.emp] at hi⟩,CW.ok c' fz h2,rfl,rfl⟩
  rintro a (ha | ⟨i,_,hi,rfl⟩)
  ·exact a'.new a ha
  ·rcases a'.liv i hi with ⟨q1,q2⟩ | q1
   ·exact absurd q1 (Nat.not_lt_zero _)
   ·exact .inr (.inl q1)
 cases x with
 | ex j=>exact z.elim
 | nm=>exact key z
 | rt=>exact key z
def Wf (h:AH):Prop:=h.lim≤h.next∧∀ i k,h.get i=some k→i<h.next∧∀ P h',B1 P h' h.next k.cs k.cs
theorem Ca.wf {S:Nat→Prop} {m:Nat→Nat} {h hc:AH} (c:Ca S m h hc):Wf h:=⟨c.bnd2,fun i k hk=>by
 obtain ⟨h1,_,cs,_,h4⟩:=c.blk i k hk
 exact ⟨h1,fun P h'=>h4.frz⟩⟩
structure DK (h h2:AH) (r:V) (P:Nat→Prop) (R:V) (H:AH):Prop where
 n1:h.next≤H.next
 lim:H.lim=h.lim
 n2:H.next≤h2.next
 blk:∀ i k,H.get i=some k→i<H.next∧¬ P i∧∃ cs,h2.get i=some ⟨k.sz,cs⟩∧B1 P h2 H.next cs k.cs
 val:CW P h2 H.next r R
theorem DK.ok {S S' : Nat → Prop} {m m' : Nat → Nat} {h hc h2 hc2 : AH} {r r1 R : V} {P : Nat → Prop} {H : AH} (st : DK h h2 r P R H) (c : Ca S m h hc) (c' : Ca S' m' h2 hc2) (a' : Ea S m h hc S' m' h2 hc2) (p : PR S' m' hc2.get h2.next r r1) :
    Ca (SP S' m' h2 P) m' H hc2∧Ea S m h hc (SP S' m' h2 P) m' H hc2∧PR (SP S' m' h2 P) m' hc2.get H.next R r1:=by
 have liv:∀ i,H.live i→h2.live i∧¬ P i:=fun i hi=>by
  obtain ⟨k,hk⟩:=Option.ne_none_iff_exists'.1 hi
  obtain ⟨_,h1,cs,h2,_⟩:=st.blk i k hk
  exact ⟨by simp [AH.live,h2],h1⟩
 refine ⟨⟨fun i k hk=>?_,fun i j hi hj=>c'.inj i j (liv i hi).1 (liv j hj).1,fun i hi hs=>?_,SP.low c',fun i hi hl=>c'.lim i (liv i hi).1 (by rw [a'.lim2,←st.lim];exact hl),c'.bnd,by rw [st.lim];exact Nat.le_trans c.bnd2 st.n1⟩,⟨fun a h=>.inl (a'.sub a h),fun a ha=>?_,a'.map,st.n1,a'.next1,st.lim,a'.lim1,a'.frame,fun i hi=>a'.liv i (liv i hi).1⟩,st.val.ok c' p⟩
 ·obtain ⟨h1,h2',cs,h3,h4⟩:=st.blk i k hk
  obtain ⟨q1,q2,cs1,q3,q4⟩:=c'.blk i _ h3
  exact ⟨h1,q2,cs1,q3,h4.ok c' q4⟩
 ·obtain ⟨hl,hP⟩:=liv i hi
  rcases hs with hs | ⟨j,hj,hlj,he⟩
  ·exact c'.off i hl hs
  ·exact hP (c'.inj j i hlj hl he▸hj)
 ·rcases ha with ha | ⟨i,_,hi,rfl⟩
  ·exact a'.new a ha
  ·rcases a'.liv i hi with ⟨q1,q2⟩ | q1
   ·exact .inr (.inr ⟨i,q2,(a'.map i q1).symm⟩)
   ·exact .inr (.inl q1)
theorem oM {f:Nat} {args:List V} {h:AH} {K:V→AH→Prop} {tf:TF} (hf:tp.fn f=some tf) (hl:args.length≤tf.n) (z:Wf h→ES args→zc tp tf.body (DS args) h (fun x e h2=>GG tf.res x e h2 (fun r h3=>∃ P R H,DK h h3 r P R H∧K R H))):Cq tp f args h K:=by
 intro S m hc args1 c p
 refine PO hf (by rw [← p.len];exact hl) ((FP tf.body c (EP.args p) (z c.wf p.reps)).imp ?_)
 rintro x e1 hc' ⟨e,h',S',m',c',a',pe,z⟩
 unfold GG at z
 unfold Qg
 have key:(Wo (Bp e h' tf.res) fun r=>∃ P R H,DK h h' r P R H∧K R H)→Wo (Bp e1 hc' tf.res) (fun r1=>∃ r h'' S' m',Ca S' m' h'' hc'∧Ea S m h hc S' m' h'' hc'∧PR S' m' hc'.get h''.next r r1∧K r h''):=by
  rintro ⟨v,hv,P,R,H,st,k⟩
  obtain ⟨v1,h1,h2⟩:=MJ c' pe hv
  obtain ⟨q1,q2,q3⟩:=st.ok c c' a' h2
  exact ⟨v1,h1,R,H,_,m',q1,q2,q3,k⟩
 cases x with
 | ex j=>exact z.elim
 | nm=>exact key z
 | rt=>exact key z
theorem ZR {f:Nat} {args:List V} {h:AH} {K:V→AH→Prop} {tf:TF} (hf:tp.fn f=some tf) (hl:args.length≤tf.n) (z:Wf h→ES args→zc tp tf.body (DS args) h (fun x e h2=>GG tf.res x e h2 K)):Cq tp f args h K:=by
 intro S m hc args1 c p
 refine PO hf (by rw [← p.len];exact hl) ((FP tf.body c (EP.args p) (z c.wf p.reps)).imp ?_)
 rintro x e1 hc' ⟨e,h',S',m',c',a',pe,z⟩
 unfold GG at z
 unfold Qg
 have key:(Wo (Bp e h' tf.res) fun r=>K r h')→Wo (Bp e1 hc' tf.res) (fun r1=>∃ r h'' S' m',Ca S' m' h'' hc'∧Ea S m h hc S' m' h'' hc'∧PR S' m' hc'.get h''.next r r1∧K r h''):=by
  rintro ⟨v,hv,k⟩
  obtain ⟨v1,h1,h2⟩:=MJ c' pe hv
  exact ⟨v1,h1,v,h',_,m',c',a',h2,k⟩
 cases x with
 | ex j=>exact z.elim
 | nm=>exact key z
 | rt=>exact key z
theorem Cq.imp {f:Nat} {args:List V} {h:AH} {K L:V→AH→Prop} (c:Cq tp f args h K) (kl:∀ v h,K v h→L v h):Cq tp f args h L:=by
 intro S m hc args1 cf p
 refine (c S m hc args1 cf p).imp ?_
 rintro v h' ⟨r,h2,S',m',a,b,c,d⟩
 exact ⟨r,h2,S',m',a,b,c,kl _ _ d⟩
mutual
def pur:V→Bool
 | .p .. | .sl ..=>false
 | .f _ a c=>Ej a&&Ej c
 | .ifc _ v=>pur v
 | .agg l=>Ej l
 | .tup l=>Ej l
 | _=>true
def Ej:List V→Bool
 | []=>true
 | v::l=>pur v&&Ej l
end
mutual
theorem PR.pur {S:Nat→Prop} {m:Nat→Nat} {g:Nat→Option Bo} {n:Nat}:∀ {v v1:V},PR S m g n v v1→pur v=true→PR S m g 0 v v1
 | _,_,.u _ x,_=>.u _ x
 | _,_,.b _ x,_=>.b _ x
 | _,_,.i _ k z,_=>.i _ k z
 | _,_,.s _ x,_=>.s _ x
 | _,_,.np _,_=>.np _
 | _,_,.ns _,_=>.ns _
 | _,_,.e0 _,_=>.e0 _
 | _,_,.nf _,_=>.nf _
 | _,_,.ni _,_=>.ni _
 | _,_,.p _ _ _ _ _,h=>by simp [Go.Ab.pur] at h
 | _,_,.sl _ _ _ _ _ _,h=>by simp [Go.Ab.pur] at h
 | _,_,.fl0 _ sz,_=>.fl0 _ sz
 | _,_,.fl1 _ sz,_=>.fl1 _ sz
 | _,_,.fl _ sz xs a el cap cs h1 h2 h3 h4 h5 r,_=>.fl _ sz xs a el cap cs h1 h2 h3 h4 h5 r
 | _,_,.fp _ sz xs j off a el cs h1 h2 h3 r,_=>.fp _ sz xs j off a el cs h1 h2 h3 r
 | _,_,.f _ fn a c a' c' p q,h=>by
  simp only [Go.Ab.pur,Bool.and_eq_true] at h
  exact .f _ fn a c a' c' (Bc.pur p h.1) (Bc.pur q h.2)
 | _,_,.ifc _ t v v' p,h=>by simp only [Go.Ab.pur] at h;exact .ifc _ t v v' (PR.pur p h)
 | _,_,.agg _ l l' p,h=>by simp only [Go.Ab.pur] at h;exact .agg _ l l' (Bc.pur p h)
 | _,_,.tup _ l l' p,h=>by simp only [Go.Ab.pur] at h;exact .tup _ l l' (Bc.pur p h)
theorem Bc.pur {S:Nat→Prop} {m:Nat→Nat} {g:Nat→Option Bo} {n:Nat}:∀ {v v1:List V},Bc S m g n v v1→Ej v=true→Bc S m g 0 v v1
 | _,_,.nil _,_=>.nil _
 | _,_,.cons _ v v' l l' p q,h=>by
  simp only [Ej,Bool.and_eq_true] at h
  exact .cons _ _ _ _ _ (PR.pur p h.1) (Bc.pur q h.2)
end
def AH.kills (h:AH) (D:List Nat):AH:={ h with get:=fun i=>if i∈D then none else h.get i }
theorem Ca.after {S T S':Nat→Prop} {m m':Nat→Nat} {h hc hc':AH} {D:List Nat} (c:Ca S m h hc) (hT:∀ a,T a→S a∨∃ i,i∈D∧h.live i∧m i=a) (hST:∀ a,S a→T a) (c':Ca S' m' AH.emp hc') (a':Ea T m AH.emp hc S' m' AH.emp hc'):Ca S' m (h.kills D) hc'∧Ea S m h hc S' m (h.kills D) hc':=by
 have lt:∀ i,h.live i→i<h.next∧m i<hc.next:=fun i hi=>by
  obtain ⟨k,hk⟩:=Option.ne_none_iff_exists'.1 hi;exact ⟨(c.blk i k hk).1,(c.blk i k hk).2.1⟩
 have live:∀ i,(h.kills D).live i→h.live i∧i∉D:=fun i hi=>by
  simp only [AH.live,AH.kills] at hi
  split at hi
  ·simp at hi
  ·exact ⟨hi,by assumption⟩
 have fr:∀ a,a<hc.next→hc'.get a=hc.get a:=fun a ha=>a'.frame a ha (fun i hi=>by simp [AH.live,AH.emp] at hi)
 have pm:GD S m hc.get h.next S' m hc'.get h.next:=⟨fun a h=>a'.sub a (hST a h),fun a ha=>fr a (c.low a ha),fun _ _=>rfl,Nat.le_refl _⟩
 have nw:∀ a,S' a→S a∨hc.next≤a∨∃ i,i∈D∧h.live i∧m i=a:=fun a ha=>by
  rcases a'.new a ha with h1 | h1 | ⟨i,hi,_⟩
  ·rcases hT a h1 with h2 | h2
   ·exact .inl h2
   ·exact .inr (.inr h2)
  ·exact .inr (.inl h1)
  ·simp [AH.live,AH.emp] at hi
 refine ⟨⟨fun i k hk=>?_,fun i j hi hj=>c.inj i j (live i hi).1 (live j hj).1,fun i hi hs=>?_,c'.low,fun i hi hl=>by rw [a'.lim1];exact c.lim i (live i hi).1 hl,c'.bnd,c.bnd2⟩,⟨fun a h=>a'.sub a (hST a h),fun a ha=>?_,fun _ _=>rfl,Nat.le_refl _,a'.next1,rfl,a'.lim1,fun a ha _=>fr a ha,fun i hi=>.inl ⟨(lt i (live i hi).1).1,(live i hi).1⟩⟩⟩
 ·have hk2:h.get i=some k:=by
   simp only [AH.kills] at hk
   split at hk
   ·simp at hk
   ·exact hk
  obtain ⟨h1,h2,cs,h3,h4⟩:=c.blk i k hk2
  exact ⟨h1,Nat.lt_of_lt_of_le h2 a'.next1,cs,by rw [fr _ h2];exact h3,h4.mono pm⟩
 ·obtain ⟨hi,hD⟩:=live i hi
  rcases nw _ hs with h1 | h1 | ⟨j,hj,hlj,he⟩
  ·exact c.off i hi h1
  ·have:=(lt i hi).2;omega
  ·exact hD (c.inj j i hlj hi he▸hj)
 ·rcases nw a ha with h1 | h1 | ⟨i,_,hi,he⟩
  ·exact .inl h1
  ·exact .inr (.inl h1)
  ·exact .inr (.inr ⟨i,hi,he⟩)
theorem Pf.go {f:Nat} {args:List V} {R:V} {h:AH} {K:V→AH→Prop} (pf:Pf tp f args R) (hp:Ej args=true) (k:GE R→K R h):Cq tp f args h K:=by
 intro S m hc args1 c p
 refine (pf S m hc args1 (Ca.emp c.low c.bnd m) (p.pur hp)).imp ?_
 rintro r1 hc' ⟨r,h',S',m',c',a',q,rfl,rfl⟩
 obtain ⟨c2,a2⟩:=c.after (D:=[]) (T:=S) (fun a h=>.inl h) (fun a h=>h) c' a'
 have e:h.kills []=h:=by simp [AH.kills]
 rw [e] at c2 a2
 exact ⟨r,h,S',m,c2,a2,q.up _ _,k ⟨_,_,_,_,_,q⟩⟩
theorem Pf.take {f:Nat} {args A:List V} {R:V} {h:AH} {K:V→AH→Prop} (D:List Nat) (pf:Pf tp f A R) (fz:BO (·∈D) h 0 args A) (k:GE R→K R (h.kills D)):Cq tp f args h K:=by
 intro S m hc args1 c p
 have q:=BO.ok c fz p
 refine (pf _ m hc args1 (Ca.emp (SP.low c) c.bnd m) q).imp ?_
 rintro r1 hc' ⟨r,h',S',m',c',a',q,rfl,rfl⟩
 obtain ⟨c2,a2⟩:=c.after (D:=D) (fun a h=>h) (fun a h=>.inl h) c' a'
 exact ⟨r,_,S',m,c2,a2,q.up _ _,k ⟨_,_,_,_,_,q⟩⟩
mutual
def flat0:V→Bool
 | .b _ | .i .. | .s _ | .np | .ns | .e0 | .nf | .ni | .u=>true
 | .agg l=>JV l
 | .tup l=>JV l
 | _=>false
def JV:List V→Bool
 | []=>true
 | v::l=>flat0 v&&JV l
end
mutual
theorem PR.flat0 {S S':Nat→Prop} {m m':Nat→Nat} {g g':Nat→Option Bo} {n n':Nat}:∀ {v v1:V},PR S m g n v v1→flat0 v=true→PR S' m' g' n' v v1
 | _,_,.u _ x,_=>.u _ x
 | _,_,.b _ x,_=>.b _ x
 | _,_,.i _ k z,_=>.i _ k z
 | _,_,.s _ x,_=>.s _ x
 | _,_,.np _,_=>.np _
 | _,_,.ns _,_=>.ns _
 | _,_,.e0 _,_=>.e0 _
 | _,_,.nf _,_=>.nf _
 | _,_,.ni _,_=>.ni _
 | _,_,.p _ _ _ _ _,h=>by simp [Go.Ab.flat0] at h
 | _,_,.sl _ _ _ _ _ _,h=>by simp [Go.Ab.flat0] at h
 | _,_,.fl0 _ sz,h=>by simp [Go.Ab.flat0] at h
 | _,_,.fl1 _ sz,h=>by simp [Go.Ab.flat0] at h
 | _,_,.fl ..,h=>by simp [Go.Ab.flat0] at h
 | _,_,.fp ..,h=>by simp [Go.Ab.flat0] at h
 | _,_,.f ..,h=>by simp [Go.Ab.flat0] at h
 | _,_,.ifc ..,h=>by simp [Go.Ab.flat0] at h
 | _,_,.agg _ l l' p,h=>by simp only [Go.Ab.flat0] at h;exact .agg _ l l' (Bc.flat0 p h)
 | _,_,.tup _ l l' p,h=>by simp only [Go.Ab.flat0] at h;exact .tup _ l l' (Bc.flat0 p h)
theorem Bc.flat0 {S S':Nat→Prop} {m m':Nat→Nat} {g g':Nat→Option Bo} {n n':Nat}:∀ {v v1:List V},Bc S m g n v v1→JV v=true→Bc S' m' g' n' v v1
 | _,_,.nil _,_=>.nil _
 | _,_,.cons _ v v' l l' p q,h=>by
  simp only [JV,Bool.and_eq_true] at h
  exact .cons _ _ _ _ _ (PR.flat0 p h.1) (Bc.flat0 q h.2)
end
theorem Pf.look {f:Nat} {args A:List V} {R:V} {h:AH} {K:V→AH→Prop} (pf:Pf tp f A R) (fz:BO (fun _=>True) h 0 args A) (hR:flat0 R=true) (k:GE R→K R h):Cq tp f args h K:=by
 intro S m hc args1 c p
 have q:=BO.ok c fz p
 refine (pf _ m hc args1 (Ca.emp (SP.low c) c.bnd m) q).imp ?_
 rintro r1 hc' ⟨r,h',S',m',c',a',q,rfl,rfl⟩
 have lt:∀ i,h.live i→i<h.next∧m i<hc.next:=fun i hi=>by
  obtain ⟨k,hk⟩:=Option.ne_none_iff_exists'.1 hi;exact ⟨(c.blk i k hk).1,(c.blk i k hk).2.1⟩
 have fr:∀ a,a<hc.next→hc'.get a=hc.get a:=fun a ha=>a'.frame a ha (fun i hi=>by simp [AH.live,AH.emp] at hi)
 have pm:GD S m hc.get h.next S m hc'.get h.next:=⟨fun a h=>h,fun a ha=>fr a (c.low a ha),fun _ _=>rfl,Nat.le_refl _⟩
 refine ⟨r,h,S,m,⟨fun i k hk=>?_,c.inj,c.off,fun a ha=>Nat.lt_of_lt_of_le (c.low a ha) a'.next1,fun i hi hl=>by rw [a'.lim1];exact c.lim i hi hl,c'.bnd,c.bnd2⟩,⟨fun a h=>h,fun a h=>.inl h,fun _ _=>rfl,Nat.le_refl _,a'.next1,rfl,a'.lim1,fun a ha _=>fr a ha,fun i hi=>.inl ⟨(lt i hi).1,hi⟩⟩,q.flat0 hR,k ⟨_,_,_,_,_,q⟩⟩
 obtain ⟨h1,h2,cs,h3,h4⟩:=c.blk i k hk
 exact ⟨h1,Nat.lt_of_lt_of_le h2 a'.next1,cs,by rw [fr _ h2];exact h3,h4.mono pm⟩
end
end Go.Ab
/- The rules for code over values that stay, as a set for simp; slices that are one's own. -/
namespace Go.Ab
open Go
theorem Env.set_get {e:Env} {d j:Nat} {v:V}:(e.set (some d) v) j=if j=d then v else e j:=Ag rfl
theorem Env.set_none {e:Env} {v:V}:e.set none v=e:=Ag rfl
/-! ### The heap -/
def Ry {α:Type} (i n:Nat) (a b:α):α:=if i=n then a else b
theorem AK {α:Type} {i n:Nat} {a b:α} (h:i=n):Ry i n a b=a:=if_pos h
theorem An {α:Type} {i n:Nat} {a b:α} (h:¬ i=n):Ry i n a b=b:=if_neg h
theorem A0 {h:AH} {k:Bo} {i:Nat}:(h.alloc k).get i=Ry i h.next (some k) (h.get i):=Ag rfl
theorem Ah {h:AH} {k:Bo} {i j:Nat}:(h.put j k).get i=Ry i j (some k) (h.get i):=Ag rfl
theorem Fw {h:AH} {i j:Nat}:(h.kill j).get i=Ry i j none (h.get i):=Ag rfl
theorem OL {h:AH} {i:Nat}:h.raise.get i=h.get i:=Ag rfl
theorem Rx {h:AH} {i l:Nat}:(h.back l).get i=h.get i:=Ag rfl
theorem Aa {h:AH} {k:Bo}:(h.alloc k).next=h.next+1:=Ag rfl
theorem Ae {h:AH} {k:Bo} {j:Nat}:(h.put j k).next=h.next:=Ag rfl
theorem Ew {h:AH} {j:Nat}:(h.kill j).next=h.next:=Ag rfl
theorem Hr {h:AH}:h.raise.next=h.next:=Ag rfl
theorem O8 {h:AH} {l:Nat}:(h.back l).next=h.next:=Ag rfl
theorem Bn {h:AH} {k:Bo}:(h.alloc k).lim=h.lim:=Ag rfl
theorem GP {h:AH} {k:Bo} {j:Nat}:(h.put j k).lim=h.lim:=Ag rfl
theorem S0 {h:AH} {j:Nat}:(h.kill j).lim=h.lim:=Ag rfl
theorem Is {h:AH}:h.raise.lim=h.next:=Ag rfl
theorem SZ {h:AH} {l:Nat}:(h.back l).lim=l:=Ag rfl
theorem Gb {h:AH} {k:Bo}:(h.raise.alloc k).back h.lim=h.alloc k:=Ag rfl
theorem E7 {h:AH}:h.raise.back h.lim=h:=Ag rfl
section
variable {tp:TP} {e:Env} {h:AH}
/-! ### Code -/
def Z1 (tp:TP) (o:O) (e:Env) (h:AH) (K:V→AH→Prop) (t:Fz K:=.mk):Prop:=z1 tp o e h K
def CY (tp:TP) (o:O) (e:Env) (h:AH) (K:V→AH→Prop) (t:Fz K:=.mk):Prop:=oL tp o e h K
def JB (tp:TP) (l:List TO) (e:Env) (h:AH) (K:Env→AH→Prop) (t:Fz (PProd.mk e K):=.mk):Prop:=H8 tp l e h K
def ZQ (tp:TP) (l:List TO) (e:Env) (h:AH) (K:Env→AH→Prop) (t:Fz (PProd.mk e K):=.mk):Prop:=zq tp l e h K
def ZS (tp:TP) (l:List (Bool×List TO)) (e:Env) (h:AH) (K:Env→AH→Prop) (t:Fz (PProd.mk e K):=.mk):Prop:=zs tp l e h K
def ZC (tp:TP) (c:TC) (e:Env) (h:AH) (K:Ex→Env→AH→Prop) (t:Fz (PProd.mk e K):=.mk):Prop:=zc tp c e h K
theorem Vd {K:Ex→Env→AH→Prop}:ZC tp .skip e h K=K .nm e h:=Ag rfl
theorem gQ {K:Ex→Env→AH→Prop}:ZC tp .ret e h K=K .rt e h:=Ag rfl
theorem Vc {id:Nat} {K:Ex→Env→AH→Prop}:ZC tp (.exit id) e h K=K (.ex id) e h:=Ag rfl
theorem gP {ops:List TO} {K:Ex→Env→AH→Prop}:ZC tp (.reg ops) e h K=JB tp ops e h (fun e h=>K .nm e h):=Ag rfl
theorem Vb {ops:List (Bool×List TO)} {K:Ex→Env→AH→Prop}:ZC tp (.dreg ops) e h K=ZS tp ops e h (fun e h=>K .nm e h):=Ag rfl
theorem Va {c:X} {a b:TC} {K:Ex→Env→AH→Prop}:ZC tp (.cond c a b) e h K=Wb (c.e2 e) (ZC tp a e h K) (ZC tp b e h K):=Ag rfl
theorem Qn {id:Nat} {c:TC} {K:Ex→Env→AH→Prop}:ZC tp (.block id c) e h K=ZC tp c e h (fun x e h=>K (blk id x) e h):=Ag rfl
theorem gR {a b:TC} {K:Ex→Env→AH→Prop}:ZC tp (.seq a b) e h K=ZC tp a e h (fun x e h=>PK x (ZC tp b e h K) (K x e h)):=Ag rfl
theorem AA {c d:TC} {K:Ex→Env→AH→Prop} (hcd:c=d):ZC tp c e h K=ZC tp d e h K:=by rw [hcd]
theorem Br {c:TC} {K:Ex→Env→AH→Prop} (z:ZC tp c e h (fun x e h=>PK x (ZC tp (.loop c) e h K) (K x e h))):ZC tp (.loop c) e h K:=by
 intro I hI hS
 exact hI e h (D5 (c:=c) (fun x e h=>Je (fun z=>z I hI hS) id) z)
theorem Au {c:TC} {K:Ex→Env→AH→Prop} (J:Nat→Env→AH→Prop) (round:∀ n e h,J n e h→(∀ m e' h',m<n→J m e' h'→ZC tp (.loop c) e' h' K)→ZC tp c e h (fun x e h=>PK x (ZC tp (.loop c) e h K) (K x e h))):∀ n e h,J n e h→ZC tp (.loop c) e h K:=by
 intro n
 induction n using Nat.strongRecOn with
 | _ n ih=>intro e h hj;exact Br (round n e h hj (fun m e' h' hm hj'=>ih m hm e' h' hj'))
theorem ZC.imp {c:TC} {K L:Ex→Env→AH→Prop} (z:ZC tp c e h K) (kl:∀ x e h,K x e h→L x e h):ZC tp c e h L:=D5 (c:=c) kl z
theorem Ui {v:V} {x:Bool} {A B:Prop}:(match (match v with | .b y=>some (y==x) | .tup []=>some false | _=>none:Option Bool) with | some true=>A | some false=>B | none=>False)=Wg v x A B:=by
 cases v with
 | b y=>cases y<;>cases x<;>simp [Wg]
 | tup l=>cases l<;>simp [Wg]
 | _=>simp [Wg]
theorem Qo {K:Env→AH→Prop}:JB tp [] e h K=K e h:=Ag rfl
theorem Qp {d:Option Nat} {o:O} {r:List TO} {K:Env→AH→Prop}:JB tp (⟨d,o,none⟩::r) e h K=Z1 tp o e h (fun v h=>JB tp r (e.set d v) h K):=Ag rfl
theorem gT {d:Option Nat} {o:O} {t:Nat} {x:Bool} {r:List TO} {K:Env→AH→Prop}:JB tp (⟨d,o,some (t,x)⟩::r) e h K=Wg (e t) x (Z1 tp o e h (fun v h=>JB tp r (e.set d v) h K)) (JB tp r (e.set d (.tup [])) h K):=by
 exact Ui
theorem hX {K:Env→AH→Prop}:ZS tp [] e h K=K e h:=Ag rfl
theorem hU {l:List TO} {r:List (Bool×List TO)} {K:Env→AH→Prop}:ZS tp ((false,l)::r) e h K=JB tp l e h (fun e h=>ZS tp r e h K):=Ag rfl
theorem QF {l:List TO} {r:List (Bool×List TO)} {K:Env→AH→Prop}:ZS tp ((true,l)::r) e h K=ZQ tp l e h (fun e h=>ZS tp r e h K):=Ag rfl
theorem hG {K:Env→AH→Prop}:ZQ tp [] e h K=K e h:=Ag rfl
theorem hJ {d:Option Nat} {o:O} {r:List TO} {K:Env→AH→Prop}:ZQ tp (⟨d,o,none⟩::r) e h K=CY tp o e h (fun v h=>ZQ tp r (e.set d v) h K):=Ag rfl
theorem aFR {d:Option Nat} {o:O} {t:Nat} {x:Bool} {r:List TO} {K:Env→AH→Prop}:ZQ tp (⟨d,o,some (t,x)⟩::r) e h K=Wg (e t) x (CY tp o e h (fun v h=>ZQ tp r (e.set d v) h K)) (ZQ tp r (e.set d (.tup [])) h K):=by
 exact Ui
end
/-! ### Operations one by one -/
theorem aFV {e:Env} {n:Nat}:(X.t n).e2 e=e n:=Ag rfl
theorem aEc {e:Env} {k:IntKind} {n:Int}:(X.c (.i k n)).e2 e=.i k n:=Ag rfl
theorem aEb {e:Env} {x:Bool}:(X.c (.b x)).e2 e=.b x:=Ag rfl
theorem aEd {e:Env} {x:ByteArray}:(X.c (.s x)).e2 e=.s x:=Ag rfl
theorem aEg {e:Env}:(X.c .np).e2 e=.np:=Ag rfl
theorem aEh {e:Env}:(X.c .ns).e2 e=.ns:=Ag rfl
theorem aEe {e:Env}:(X.c .nf).e2 e=.nf:=Ag rfl
theorem aEf {e:Env}:(X.c .ni).e2 e=.ni:=Ag rfl
theorem iL {e:Env} {l:List V} (hl:l.all plain1=true):(X.c (.agg l)).e2 e=.agg l:=by simp [X.e2,plain,hl]
theorem Zu {e:Env} {f:Nat}:(X.fn f).e2 e=.f (.func f) [] []:=Ag rfl
theorem Tn {k:IntKind} {n:Int}:plain1 (.i k n)=true:=Ag rfl
theorem Tm {x:Bool}:plain1 (.b x)=true:=Ag rfl
theorem To {x:ByteArray}:plain1 (.s x)=true:=Ag rfl
theorem Pg:plain1 .np=true:=Ag rfl
theorem Ph:plain1 .ns=true:=Ag rfl
theorem Pd:plain1 .nf=true:=Ag rfl
theorem Pe:plain1 .ni=true:=Ag rfl
section
variable {tp:TP} {e:Env} {h:AH} {K:V→AH→Prop}
def asB:V→Option Bool | .b x=>some x | _=>none
theorem aD7 {x:Bool}:asB (.b x)=some x:=Ag rfl
theorem aD4 {x:X}:Z1 tp (.mv x) e h K=Wv (x.e2 e) (fun v=>K v h):=by
 unfold Z1;simp only [z1,A7,Ac,AE,Fj]
theorem U6 {c a b:X}:Z1 tp (.pick c a b) e h K=Wo (asB (c.e2 e)) (fun t=>Wv (if t then a.e2 e else b.e2 e) (fun v=>K v h)):=by
 unfold Z1;simp only [z1,A7,Ac,asB]
 cases c.e2 e<;>simp only [AE,AJ,Fj]
theorem GZ {z:List V}:Z1 tp (.alloc z) e h K=(z.all plain1=true∧Wv (.p h.next 0 0) (fun v=>Wv (h.alloc ⟨z.length,[z]⟩) (fun h'=>K v h'))):=by
 unfold Z1;simp only [z1,A7,Ac,BQ,AE,Fj]
theorem LS {x:X}:Z1 tp (.box x) e h K=((x.e2 e).cells.all V.isCell=true∧Wv (.p h.next 0 0) (fun v=>Wv (h.alloc ⟨(x.e2 e).cells.length,[(x.e2 e).cells]⟩) (fun h'=>K v h'))):=by
 unfold Z1;simp only [z1,A7,Ac,BQ,AE,Fj]
theorem Qh {z:List V} {ps:List (Nat×Nat×X)}:Z1 tp (.build z ps) e h K=(z.all plain1=true∧Wo (DB z (ps.map fun q=>(q.1,q.2.1,q.2.2.e2 e))) (fun r=>K (.agg r) h)):=by
 unfold Z1;simp only [z1,A7,Ac,BQ,A2]
theorem LT {sz n:Nat} {z:List V} {ps:List (Nat×X)}:Z1 tp (.bsl sz z n ps) e h K=((z.all plain1=true∧n<4294967296)∧Wo (BF sz (List.replicate n z) (ps.map fun q=>(q.1,q.2.e2 e))) (fun r=>Wv (.sl h.next 0 n n) (fun v=>Wv (h.alloc ⟨sz,r⟩) (fun h'=>K v h')))):=by
 unfold Z1;simp only [z1,A7,Ac];rw [BQ,A2];rfl
theorem IS {sz n:Nat} {z:List V} {ps:List (Nat×X)}:Z1 tp (.bslc sz z n ps) e h K=((z.all plain1=true∧n<4294967296)∧Wo (BF sz (List.replicate n z) (ps.map fun q=>(q.1,q.2.e2 e))) (fun r=>Wv (.sl h.next 0 n n) (fun v=>Wv (h.alloc ⟨sz,r⟩) (fun h'=>K v h')))):=by
 unfold Z1;simp only [z1,A7,Ac];rw [BQ,A2];rfl
def fZ (sz n:Nat) (z:List V) (ps:List (Nat×V)) (y:V) (h:AH) (K:V→AH→Prop) (t:Fz K:=.mk):Prop:=match y with
 | .sl id el len cap=>Wo (BF sz (List.replicate n z) ps) (fun r=>h.get id=some ⟨sz,r⟩∧(el=0∧len=n∧cap=n)∧AY r r=true∧Wv V.u (fun v=>K v h))
 | _=>False
theorem UM {sz n id el len cap:Nat} {z:List V} {ps:List (Nat×V)}:fZ sz n z ps (.sl id el len cap) h K=Wo (BF sz (List.replicate n z) ps) (fun r=>h.get id=some ⟨sz,r⟩∧(el=0∧len=n∧cap=n)∧AY r r=true∧Wv V.u (fun v=>K v h)):=Ag rfl
theorem UW {sz n:Nat} {z:List V} {ps:List (Nat×X)} {y:X}:Z1 tp (.chkb sz z n ps y) e h K=(z.all plain1=true∧fZ sz n z (ps.map fun q=>(q.1,q.2.e2 e)) (y.e2 e) h K):=by
 unfold Z1;simp only [z1,A7,BQ]
 congr 1
 simp only [Ac]
 generalize y.e2 e=v
 cases v<;>simp only [fZ,AJ]
 rename_i id el len cap
 rw [Be]
 refine DL fun r=>?_
 apply propext
 constructor
 ·rintro ⟨⟨v,h'⟩,h1,k⟩
  simp only [Option.bind_eq_some_iff] at h1
  obtain ⟨b,hb,h1⟩:=h1
  split at h1
  case isFalse=>simp at h1
  rename_i hs
  simp at h1
  obtain ⟨rfl,rfl⟩:=h1
  obtain ⟨e1,e2,e3,e4,e5⟩:=hs
  have:=CP e5
  subst this
  obtain ⟨s,cs⟩:=b
  simp only at e4 e5 hb
  subst e4
  exact ⟨hb,⟨e1,e2,e3⟩,e5,k⟩
 ·rintro ⟨hb,⟨e1,e2,e3⟩,e5,k⟩
  exact ⟨(.u,h),by rw [hb];simp only [Option.bind_some];rw [if_pos ⟨e1,e2,e3,trivial,e5⟩],k⟩
theorem LQ {z:List V}:Z1 tp (.alc z) e h K=(z.all plain1=true∧Wv (.p h.next 0 0) (fun v=>Wv (h.alloc ⟨z.length,[z]⟩) (fun h'=>K v h'))):=by
 unfold Z1;simp only [z1,A7,Ac];rw [BQ,AE];rfl
def fX (z:List V) (y:V) (h:AH) (K:V→AH→Prop) (t:Fz K:=.mk):Prop:=match y with
 | .p id el off=>h.get id=some ⟨z.length,[z]⟩∧(el=0∧off=0)∧AY [z] [z]=true∧Wv V.u (fun v=>K v h)
 | _=>False
theorem fY {id el off:Nat} {z:List V}:fX z (.p id el off) h K=(h.get id=some ⟨z.length,[z]⟩∧(el=0∧off=0)∧AY [z] [z]=true∧Wv V.u (fun v=>K v h)):=Ag rfl
theorem UV {z:List V} {y:X}:Z1 tp (.chka z y) e h K=(z.all plain1=true∧fX z (y.e2 e) h K):=by
 unfold Z1;simp only [z1,A7,BQ]
 congr 1
 simp only [Ac]
 generalize y.e2 e=v
 cases v<;>simp only [fX,AJ]
 rename_i id el off
 apply propext
 constructor
 ·rintro ⟨⟨v,h'⟩,h1,k⟩
  simp only [Option.bind_eq_some_iff] at h1
  obtain ⟨b,hb,h1⟩:=h1
  split at h1
  case isFalse=>simp at h1
  rename_i hs
  simp at h1
  obtain ⟨rfl,rfl⟩:=h1
  obtain ⟨e1,e2,e3,e5⟩:=hs
  obtain ⟨s,cs⟩:=b
  simp only at e3 e5 hb
  have:=CP e5
  subst this
  subst e3
  exact ⟨hb,⟨e1,e2⟩,e5,k⟩
 ·rintro ⟨hb,⟨e1,e2⟩,e5,k⟩
  exact ⟨(.u,h),by rw [hb];simp only [Option.bind_some];rw [if_pos ⟨e1,e2,trivial,e5⟩],k⟩
theorem Jn:AY [] []=true:=Ag rfl
theorem H6 {a b:List V} {l m:List (List V)}:AY (a::l) (b::m)=(Bd a b&&AY l m):=Ag rfl
theorem Ku:Bd [] []=true:=Ag rfl
theorem Jm {a b:V} {l m:List V}:Bd (a::l) (b::m)=(sameV a b&&Bd l m):=Ag rfl
theorem aD1:Z1 tp .e0 e h K=K .e0 h:=by unfold Z1;simp only [z1,A7,Ac,AE]
def Uq (k:Option Bo) (el off n:Nat) (agg:Bool):Option V:=k.bind fun k=>(k.cs[el]?).bind fun r=>FY r off n agg
def Ur (h:AH) (n:Nat) (agg:Bool):V→Option V | .p id el off=>Uq (h.get id) el off n agg | .fp _ xs j off=>ldF n agg xs j off | _=>none
theorem aEz {id el off n:Nat} {agg:Bool}:Ur h n agg (.p id el off)=Uq (h.get id) el off n agg:=Ag rfl
theorem mH {s j off n:Nat} {xs:List (List V)} {agg:Bool}:Ur h n agg (.fp s xs j off)=(xs[j]?).bind fun r=>FY r off n agg:=Ag rfl
theorem SX {sz el off n:Nat} {cs:List (List V)} {agg:Bool}:Uq (some ⟨sz,cs⟩) el off n agg=(cs[el]?).bind fun r=>FY r off n agg:=Ag rfl
theorem Q6 {n:Nat} {agg:Bool} {x:X} {ev:X→V}:A7 tp (.load n agg x) ev h=(Ur h n agg (ev x)).map fun v=>(v,h):=by
 simp only [A7,Ac]
 cases ev x<;>simp only [Ur,Uq]<;>try rfl
 rename_i id el off
 cases h.get id with
 | none=>rfl
 | some k=>
  simp only [Option.bind_some]
  cases k.cs[el]?<;>rfl
theorem OE {n:Nat} {ag:Bool} {x:X} {ev:X→V}:A7 tp (.fload n ag x) ev h=(Ur h n ag (ev x)).map fun v=>(v,h):=by
 simp only [A7,Ac]
 cases ev x<;>simp only [Ur,Uq]<;>try rfl
 rename_i id el off
 cases h.get id with
 | none=>rfl
 | some k=>
  simp only [Option.bind_some]
  cases k.cs[el]?<;>rfl
theorem IT {n:Nat} {agg:Bool} {x:X}:Z1 tp (.load n agg x) e h K=Wo (Ur h n agg (x.e2 e)) (fun v=>K v h):=by
 unfold Z1;simp only [z1,Q6,A2]
theorem Ql {n:Nat} {ag:Bool} {x:X}:Z1 tp (.fload n ag x) e h K=Wo (Ur h n ag (x.e2 e)) (fun v=>K v h):=by
 unfold Z1;simp only [z1,OE,A2]
def iH (h:AH) (n:Nat) (ag:Bool):V→Option V | .p id el off=>Uq (h.get id) el off n ag | _=>none
theorem iI {id el off n:Nat} {ag:Bool}:iH h n ag (.p id el off)=Uq (h.get id) el off n ag:=Ag rfl
theorem gD {n:Nat} {ag:Bool} {x y:X}:Z1 tp (.chk n ag x y) e h K=Wo (iH h n ag (x.e2 e)) (fun v=>Wo (if Bu v (y.e2 e)=true then some V.u else none) (fun u=>K u h)):=by
 unfold Z1;simp only [z1,A7,Ac,iH,Uq]
 cases x.e2 e<;>simp only [AJ]
 rw [Be,Be]
 refine DL fun k=>?_
 rw [Be,Be]
 refine DL fun r=>?_
 rw [Be]
 refine DL fun v=>?_
 split<;>simp only [AJ,AE]
theorem MS {l m:List V}:Bu (.agg l) (.agg m)=Bd l m:=Ag rfl
theorem sameVa_sl {a b c d:Nat}:Bu (.sl a b c d) (.sl a b c d)=true:=by simp [Bu,sameV]
theorem TR {a b c:Nat}:Bu (.p a b c) (.p a b c)=true:=by simp [Bu,sameV]
theorem Pu:Bu .ns .ns=true:=Ag rfl
theorem TN {x:Bool}:Bu (.b x) (.b x)=true:=by simp [Bu,sameV]
theorem TQ {k:IntKind} {n:Int}:Bu (.i k n) (.i k n)=true:=by simp [Bu,sameV]
theorem TM {a b c d:Nat}:sameV (.sl a b c d) (.sl a b c d)=true:=by simp [sameV]
theorem Xi {a b c:Nat}:sameV (.p a b c) (.p a b c)=true:=by simp [sameV]
theorem TL:sameV .ns .ns=true:=Ag rfl
theorem Xg {x:Bool}:sameV (.b x) (.b x)=true:=by simp [sameV]
theorem Xh {k:IntKind} {n:Int}:sameV (.i k n) (.i k n)=true:=by simp [sameV]
def Kb (g:Option Bo) (l id el len cap:Nat):Option V:=if g.isSome=true∧l≤id∧0<cap then some (.sl id el len cap) else none
def S3 (h:AH):V→Option V | .sl id el len cap=>Kb (h.get id) h.lim id el len cap | _=>none
theorem S4 {id el len cap:Nat}:S3 h (.sl id el len cap)=Kb (h.get id) h.lim id el len cap:=Ag rfl
theorem S1 {k:Bo} {l id el len cap:Nat} (h1:l≤id) (h2:0<cap):Kb (some k) l id el len cap=some (.sl id el len cap):=by simp [Kb,h1,h2]
theorem U2 {x:X}:Z1 tp (.mark x) e h K=Wo (S3 h (x.e2 e)) (fun v=>K v h):=by
 unfold Z1;simp only [z1,A7,Ac,S3,Kb]
 cases x.e2 e<;>simp only [AJ]
 split<;>simp only [AJ,AE]
def Wst (tp:TP) (n:Nat) (p v:V) (h:AH) (K:AH→Prop) (t:Fz K:=.mk):Prop:=match p with
 | .p id el off=>(h.lim≤id∧0<n∧v.cells.length=n∧v.cells.all V.isCell=true)∧Wo (h.get id) (fun k=>Wo (k.cs[el]?) (fun r=>off+n≤r.length∧Wv (h.put id ⟨k.sz,k.cs.set el (over r off v.cells)⟩) K))
 | _=>False
def gA (tp:TP) (l n id el off:Nat) (v:V) (h:AH) (K:AH→Prop) (t:Fz K:=.mk):Prop:=(l≤id∧0<n∧v.cells.length=n∧v.cells.all V.isCell=true)∧Wo (h.get id) (fun k=>Wo (k.cs[el]?) (fun r=>off+n≤r.length∧Wv (h.put id ⟨k.sz,k.cs.set el (over r off v.cells)⟩) K))
theorem aD0 {n id el off:Nat} {v:V} {K:AH→Prop}:Wst tp n (.p id el off) v h K=gA tp h.lim n id el off v h K:=Ag rfl
theorem UT {l n id el off:Nat} {v:V} {K:AH→Prop} (hl:l≤id):gA tp l n id el off v h K=((0<n∧v.cells.length=n∧v.cells.all V.isCell=true)∧Wo (h.get id) (fun k=>Wo (k.cs[el]?) (fun r=>off+n≤r.length∧Wv (h.put id ⟨k.sz,k.cs.set el (over r off v.cells)⟩) K))):=by
 simp only [gA,hl,true_and]
theorem Qm {n:Nat} {a x:X}:Z1 tp (.store n a x) e h K=Wst tp n (a.e2 e) (x.e2 e) h (K .u):=by
 unfold Z1;simp only [z1,A7,Ac,Wst]
 cases a.e2 e<;>simp only [AJ]
 rw [BQ,Be]
 congr 1
 refine DL fun k=>?_
 rw [Be]
 refine DL fun r=>?_
 rw [BQ,AE];rfl
def V2:Option PT→V→Option V | some ⟨_,none⟩,v=>some v | _,_=>none
theorem OD {q:Nat} {v:V}:V2 (some ⟨q,none⟩) v=some v:=Ag rfl
def GJ (tp:TP):V→Option V | .p id el off=>some (.p id el off) | .fp s xs j o=>some (.fp s xs j o) | .ifc t v=>some (.ifc t v) | .f (.func g) a b=>some (.f (.func g) a b) | .f (.method m) (.ifc t v::r) b=>V2 (tp.meth t m) (.f (.method m) (.ifc t v::r) b) | _=>none
theorem mL {a b c:Nat}:GJ tp (.p a b c)=some (.p a b c):=Ag rfl
theorem WI {s j o:Nat} {xs:List (List V)}:GJ tp (.fp s xs j o)=some (.fp s xs j o):=Ag rfl
theorem S9 {t:Nat} {v:V}:GJ tp (.ifc t v)=some (.ifc t v):=Ag rfl
theorem mJ {g:Nat} {a b:List V}:GJ tp (.f (.func g) a b)=some (.f (.func g) a b):=Ag rfl
theorem mK {m:String} {t:Nat} {v:V} {r b:List V}:GJ tp (.f (.method m) (.ifc t v::r) b)=V2 (tp.meth t m) (.f (.method m) (.ifc t v::r) b):=Ag rfl
theorem WJ {m:String} {t:Nat} {v:V}:(if tp.dir t m=true then some (v,h) else none)=(V2 (tp.meth t m) v).map fun v=>(v,h):=by
 unfold TP.dir
 cases tp.meth t m with
 | none=>rfl
 | some q=>obtain ⟨q,a⟩:=q;cases a<;>rfl
theorem gN {x:X}:Z1 tp (.nck x) e h K=Wo (GJ tp (x.e2 e)) (fun v=>K v h):=by
 unfold Z1;simp only [z1,A7,Ac]
 generalize x.e2 e=v
 cases v with
 | f g a b=>
  cases g with
  | func g=>simp only [GJ,AE]
  | method m=>
   cases a with
   | nil=>simp only [GJ,AJ]
   | cons w r=>cases w<;>first | (simp only [GJ,WJ,A2];done) | simp only [GJ,AJ]
  | _=>simp only [GJ,AJ]
 | _=>simp only [GJ,AE,AJ]
theorem gC {op:BinOp} {x y:X}:Z1 tp (.bin op x y) e h K=Wo (Bs op (x.e2 e) (y.e2 e)) (fun v=>K v h):=by unfold Z1;simp only [z1,A7,Ac,A2]
theorem G0 {n:Bool} {k:EK} {x y:X} (hk:k≠.sl):Z1 tp (.eq n k x y) e h K=Wo (D7 k (x.e2 e) (y.e2 e)) (fun r=>Wv (.b (if n then !r else r)) (fun v=>K v h)):=by
 unfold Z1;cases k<;>first | (exact absurd rfl hk) | (simp only [z1,A7,Ac,A2];rfl)
theorem gE {n:Bool} {x y:X}:Z1 tp (.eq n .b x y) e h K=Wo (D7 .b (x.e2 e) (y.e2 e)) (fun r=>Wv (.b (if n then !r else r)) (fun v=>K v h)):=G0 (by simp)
theorem Qk {n:Bool} {x y:X}:Z1 tp (.eq n .ptr x y) e h K=Wo (D7 .ptr (x.e2 e) (y.e2 e)) (fun r=>Wv (.b (if n then !r else r)) (fun v=>K v h)):=G0 (by simp)
theorem UY {n:Bool} {x y:X}:Z1 tp (.eq n .fn x y) e h K=Wo (D7 .fn (x.e2 e) (y.e2 e)) (fun r=>Wv (.b (if n then !r else r)) (fun v=>K v h)):=G0 (by simp)
theorem Qj {n:Bool} {x y:X}:Z1 tp (.eq n .ifc x y) e h K=Wo (D7 .ifc (x.e2 e) (y.e2 e)) (fun r=>Wv (.b (if n then !r else r)) (fun v=>K v h)):=G0 (by simp)
theorem Qi {n:Bool} {ks:List CK} {x y:X}:Z1 tp (.eq n (.agg ks) x y) e h K=Wo (D7 (.agg ks) (x.e2 e) (y.e2 e)) (fun r=>Wv (.b (if n then !r else r)) (fun v=>K v h)):=G0 (by simp)
def Jz (neg:Bool) (v w:V) (h:AH) (K:V→AH→Prop) (t:Fz K:=.mk):Prop:=M6 neg v w h K
theorem UZ {n:Bool} {x y:X}:Z1 tp (.eq n .sl x y) e h K=Jz n (x.e2 e) (y.e2 e) h K:=Ag rfl
theorem UQ {n:Bool} {s:Nat} {xs:List (List V)}:Jz n (.fl s xs) .ns h K=∀ t:Bool,(xs≠[]→t=false)→Wv (.b (if n then !t else t)) (fun v=>K v h):=Ag rfl
theorem UR {n:Bool}:Jz n .ns .ns h K=Wv (.b (if n then false else true)) (fun v=>K v h):=by
 unfold Jz M6;simp only [D7,AE,Bool.not_true];rfl
theorem UP {n:Bool}:Jz n .e0 .ns h K=Wv (.b (if n then true else false)) (fun v=>K v h):=by
 unfold Jz M6;simp only [D7,AE,Bool.not_false];rfl
theorem US {n:Bool} {a b c d:Nat}:Jz n (.sl a b c d) .ns h K=Wv (.b (if n then true else false)) (fun v=>K v h):=by
 unfold Jz M6;simp only [D7,AE,Bool.not_false];rfl
theorem aD6 {op:UnOp} {x:X}:Z1 tp (.un op x) e h K=Wo (ZO op (x.e2 e)) (fun v=>K v h):=by unfold Z1;simp only [z1,A7,Ac,A2]
def QZ (k:IntKind):V→Option V | .i _ n=>some (.i k (k.wrap n)) | _=>none
theorem VY {k j:IntKind} {n:Int}:QZ k (.i j n)=some (.i k (k.wrap n)):=Ag rfl
theorem UX {k:IntKind} {x:X}:Z1 tp (.conv k x) e h K=Wo (QZ k (x.e2 e)) (fun v=>K v h):=by
 unfold Z1;simp only [z1,A7,Ac,QZ]
 cases x.e2 e<;>simp only [AE,AJ]
def TZ:V→Option V | .s x=>some (.s x) | _=>none
theorem Xp {x:ByteArray}:TZ (.s x)=some (.s x):=Ag rfl
theorem U9 {x:X}:Z1 tp (.strs x) e h K=Wo (TZ (x.e2 e)) (fun v=>K v h):=by
 unfold Z1;simp only [z1,A7,Ac,TZ]
 cases x.e2 e<;>simp only [AE,AJ]
def lV:V→Option V | .i _ n=>some (.s (Utf8.encode n)) | _=>none
theorem lW {k:IntKind} {n:Int}:lV (.i k n)=some (.s (Utf8.encode n)):=Ag rfl
theorem gI {x:X}:Z1 tp (.i2s x) e h K=Wo (lV (x.e2 e)) (fun v=>K v h):=by
 unfold Z1;simp only [z1,A7,Ac,lV]
 cases x.e2 e<;>simp only [AE,AJ]
def asS:V→Option ByteArray | .s x=>some x | _=>none
theorem aD8 {x:ByteArray}:asS (.s x)=some x:=Ag rfl
theorem LU {x:X}:Z1 tp (.s2b x) e h K=Wo (asS (x.e2 e)) (fun b=>b.size<4294967296∧Wv (.sl h.next 0 b.size b.size) (fun v=>Wv (h.alloc ⟨1,BA b⟩) (fun h'=>K v h'))):=by
 unfold Z1;simp only [z1,A7,Ac,asS]
 cases hx:x.e2 e<;>simp only [AE,AJ]
 rw [BQ,AE];rfl
def El (sz:Nat) (h:AH) (v:V):Option (List (List V)):=Dt sz h v
theorem TG {sz:Nat} {xs:List (List V)}:El sz h (.fl sz xs)=some xs:=by simp [El,Dt]
theorem TH {sz:Nat}:El sz h .ns=some []:=Ag rfl
theorem TE {sz:Nat}:El sz h .e0=some []:=Ag rfl
theorem Xe {x:ByteArray}:El 1 h (.s x)=some (BA x):=Ag rfl
def Ix (g:Option Bo) (sz el len:Nat):Option (List (List V)):=match g with
 | some k=>if k.sz=sz∧el+len≤k.cs.length then some ((k.cs.drop el).take len) else none
 | none=>none
theorem Kr {sz id el len cap:Nat}:El sz h (.sl id el len cap)=Ix (h.get id) sz el len:=Ag rfl
theorem MM {sz el len:Nat} {cs:List (List V)}:Ix (some ⟨sz,cs⟩) sz el len=if el+len≤cs.length then some ((cs.drop el).take len) else none:=by simp [Ix]
theorem TA {sz el len:Nat} {cs:List (List V)} (hl:el+len≤cs.length):Ix (some ⟨sz,cs⟩) sz el len=some ((cs.drop el).take len):=by simp [Ix,hl]
def JE (h:AH) (v:V):Option V:=match v with | .s _=>none | v=>(El 1 h v).bind fun l=>(bytesOf? l).map fun r=>.s ⟨r.toArray⟩
theorem Vy {xs:List (List V)}:JE h (.fl 1 xs)=(bytesOf? xs).map fun r=>.s ⟨r.toArray⟩:=by simp [JE,El,Dt]
theorem Vz:JE h .ns=some (.s ⟨#[]⟩):=Ag rfl
theorem VA {id el len cap:Nat}:JE h (.sl id el len cap)=(Ix (h.get id) 1 el len).bind fun l=>(bytesOf? l).map fun r=>.s ⟨r.toArray⟩:=Ag rfl
theorem LR {x:X}:Z1 tp (.b2s x) e h K=Wo (JE h (x.e2 e)) (fun v=>K v h):=by
 unfold Z1;simp only [z1,A7,Ac,JE,El,Dt]
 cases x.e2 e<;>simp only [AJ]
 case fl s xs=>
  split
  ·rw [A2,Option.bind_some,A2]
  ·simp only [Option.bind_none,AJ]
 all_goals (rw [Be,Be];refine DL fun a=>?_;rw [A2,A2])
theorem U4 {t:Nat} {x:X}:Z1 tp (.mkif t x) e h K=Wv (.ifc t (x.e2 e)) (fun v=>K v h):=by unfold Z1;simp only [z1,A7,Ac,AE,Fj]
theorem U3 {fn:Fn} {a c:List X}:Z1 tp (.mkfn fn a c) e h K=Wv (.f fn (a.map (X.e2 e)) (c.map (X.e2 e))) (fun v=>K v h):=by unfold Z1;simp only [z1,A7,Ac,AE,Fj]
def Wmk (z:List V) (n c:V) (h:AH) (K:V→AH→Prop) (t:Fz K:=.mk):Prop:=match n,c with
 | .i _ a,.i _ m=>(0≤a∧a≤m∧m<AV)∧Wv (.sl h.next 0 a.toNat m.toNat) (fun v=>Wv (h.alloc ⟨z.length,List.replicate m.toNat z⟩) (fun h'=>K v h'))
 | _,_=>False
theorem aDY {z:List V} {k j:IntKind} {a m:Int}:Wmk z (.i k a) (.i j m) h K=((0≤a∧a≤m∧m<4294967296)∧Wv (.sl h.next 0 a.toNat m.toNat) (fun v=>Wv (h.alloc ⟨z.length,List.replicate m.toNat z⟩) (fun h'=>K v h'))):=Ag rfl
theorem U5 {z:List V} {n c:X}:Z1 tp (.mksl z n c) e h K=(z.all plain1=true∧Wmk z (n.e2 e) (c.e2 e) h K):=by
 unfold Z1;simp only [z1,A7,Ac,BQ]
 congr 1
 generalize n.e2 e=v
 generalize c.e2 e=w
 cases v<;>cases w<;>simp only [Wmk,AJ,BQ,AE,Fj]
def Wmz (z:List V) (x n:V) (h:AH) (K:V→AH→Prop) (t:Fz K:=.mk):Prop:=match x,n with
 | .ns,.i _ a=>(0<a∧a<AV)∧Wv (.sl h.next 0 a.toNat a.toNat) (fun v=>Wv (h.alloc ⟨z.length,List.replicate a.toNat z⟩) (fun h'=>K v h'))
 | _,_=>False
theorem aDZ {z:List V} {k:IntKind} {a:Int}:Wmz z .ns (.i k a) h K=((0<a∧a<4294967296)∧Wv (.sl h.next 0 a.toNat a.toNat) (fun v=>Wv (h.alloc ⟨z.length,List.replicate a.toNat z⟩) (fun h'=>K v h'))):=Ag rfl
theorem UU {z:List V} {x n:X}:Z1 tp (.appz z x n) e h K=(z.all plain1=true∧Wmz z (x.e2 e) (n.e2 e) h K):=by
 unfold Z1;simp only [z1,A7,Ac,BQ]
 congr 1
 generalize x.e2 e=v
 generalize n.e2 e=w
 cases v<;>cases w<;>simp only [Wmz,AJ,BQ,AE,Fj]
def FI (g:Option Bo) (sz:Nat) (x:V) (lo hi mx:Option V):Option V:=match x with
    | .ns=>if mx.isNone||hi.isSome then (Aw mx 0 0).bind fun m=>(Aw hi 0 m).bind fun t=>(Aw lo 0 t).map fun _=>.ns else none
    | .e0=>if mx.isNone||hi.isSome then (Aw mx 0 0).bind fun m=>(Aw hi 0 m).bind fun t=>(Aw lo 0 t).map fun _=>.e0 else none
    | .sl id el len cap=>
     g.bind fun k=>
      if k.sz=sz∧(mx.isNone||hi.isSome)=true∧len≤cap then
       (Aw mx cap cap).bind fun m=>(Aw hi len m).bind fun t=>(Aw lo 0 t).map fun l=>.sl id (el+l) (t - l) (m - l)
      else none
    | .fl s xs=>if s=sz∧(mx.isNone||hi.isSome)=true then (Aw mx xs.length xs.length).bind fun m=>(Aw hi xs.length m).bind fun t=>(Aw lo 0 t).map fun l=>.fl s ((xs.drop l).take (t - l)) else none
    | _=>none
def Aq:V→Nat | .sl id _ _ _=>id | .p id _ _=>id | _=>0
def CU:V→Nat | .sl _ el _ _=>el | _=>0
theorem mD {a b c d:Nat}:Aq (.sl a b c d)=a:=Ag rfl
theorem iM {a b c d:Nat}:CU (.sl a b c d)=b:=Ag rfl
theorem aEs {a b c:Nat}:Aq (.p a b c)=a:=Ag rfl
theorem Xm {g:Option Bo} {s:Nat} {xs:List (List V)} {lo hi:Option V}:FI g s (.fl s xs) lo hi none=(Aw hi xs.length xs.length).bind fun t=>(Aw lo 0 t).map fun l=>.fl s ((xs.drop l).take (t - l)):=by
 simp [FI,Aw]
theorem TU {g:Option Bo} {s:Nat} {xs:List (List V)} {lo:Option V} {hi mx:V}:FI g s (.fl s xs) lo (some hi) (some mx)=(Aw (some mx) xs.length xs.length).bind fun m=>(Aw (some hi) xs.length m).bind fun t=>(Aw lo 0 t).map fun l=>.fl s ((xs.drop l).take (t - l)):=by
 simp [FI]
theorem OF {sz:Nat} {x:X} {lo hi mx:Option X} {ev:X→V}:A7 tp (.slice sz x lo hi mx) ev h=(FI (h.get (Aq (ev x))) sz (ev x) (lo.map ev) (hi.map ev) (mx.map ev)).map fun v=>(v,h):=by
 have two:∀ (a b c:Option V) (p q r:Nat) (F:Nat→Nat→Nat→V),((Aw a p q).bind fun m=>(Aw b r m).bind fun t=>(Aw c 0 t).map fun l=>(F m t l,h))=((Aw a p q).bind fun m=>(Aw b r m).bind fun t=>(Aw c 0 t).map fun l=>F m t l).map (fun v=>(v,h)):=by
  intro a b c p q r F
  cases Aw a p q with
  | none=>rfl
  | some m=>
   simp only [Option.bind_some]
   cases Aw b r m with
   | none=>rfl
   | some t=>
    simp only [Option.bind_some]
    cases Aw c 0 t<;>rfl
 simp only [A7,Ac]
 cases ev x<;>simp only [FI,Option.map_none,Option.isNone_map,Option.isSome_map,Aq]
 ·split
  ·exact two _ _ _ _ _ _ (fun _ _ _=>V.ns)
  ·rfl
 ·split
  ·exact two _ _ _ _ _ _ (fun _ _ _=>V.e0)
  ·rfl
 ·rename_i id el len cap
  cases h.get id with
  | none=>rfl
  | some k=>
   simp only [Option.bind_some]
   split
   ·exact two _ _ _ _ _ _ (fun m t l=>V.sl id (el+l) (t - l) (m - l))
   ·rfl
 ·rename_i s xs
  split
  ·exact two _ _ _ _ _ _ (fun m t l=>V.fl s ((xs.drop l).take (t - l)))
  ·rfl
theorem G1 {sz:Nat} {x:X} {lo hi mx:Option X}:Z1 tp (.slice sz x lo hi mx) e h K=Wo (FI (h.get (Aq (x.e2 e))) sz (x.e2 e) (lo.map (X.e2 e)) (hi.map (X.e2 e)) (mx.map (X.e2 e))) (fun v=>K v h):=by
 unfold Z1;simp only [z1,OF,A2]
def nN (x:V) (lo hi:Option V):Option V:=match x with
    | .s x=>(Aw hi x.size x.size).bind fun t=>(Aw lo 0 t).map fun l=>.s (x.extract l t)
    | _=>none
theorem nO {x:ByteArray} {lo hi:Option V}:nN (.s x) lo hi=(Aw hi x.size x.size).bind fun t=>(Aw lo 0 t).map fun l=>.s (x.extract l t):=Ag rfl
theorem Ob {x:X} {lo hi:Option X}:Z1 tp (.sslice x lo hi) e h K=Wo (nN (x.e2 e) (lo.map (X.e2 e)) (hi.map (X.e2 e))) (fun v=>K v h):=by
 unfold Z1;simp only [z1,A7,Ac,nN]
 cases x.e2 e<;>simp only [AJ]
 rw [Be,Be]
 refine DL fun t=>?_
 rw [A2,A2]
def V6 (off:Nat):V→Option V | .p id el o=>some (.p id el (o+off)) | .fp s xs j o=>some (.fp s xs j (o+off)) | _=>none
theorem iS {off a b c:Nat}:V6 off (.p a b c)=some (.p a b (c+off)):=Ag rfl
theorem V7 {off s j o:Nat} {xs:List (List V)}:V6 off (.fp s xs j o)=some (.fp s xs j (o+off)):=Ag rfl
theorem gG {off:Nat} {x:X}:Z1 tp (.fad off x) e h K=Wo (V6 off (x.e2 e)) (fun v=>K v h):=by
 unfold Z1;simp only [z1,A7,Ac,V6]
 cases x.e2 e<;>simp only [AE,AJ]
def iU (off n:Nat) (agg:Bool):V→Option V | .agg r=>FY r off n agg | _=>none
theorem Rl {off n:Nat} {agg:Bool} {r:List V}:iU off n agg (.agg r)=FY r off n agg:=Ag rfl
theorem gH {off n:Nat} {agg:Bool} {x:X}:Z1 tp (.fld off n agg x) e h K=Wo (iU off n agg (x.e2 e)) (fun v=>K v h):=by
 unfold Z1;simp only [z1,A7,Ac,iU]
 cases x.e2 e<;>simp only [A2,AJ]
def I7 (g:Option Bo) (sz:Nat) (v i:V):Option V:=match v with
 | .sl id el len _=>match g with | some k=>if k.sz=sz then (Bi i len).map fun j=>.p id (el+j) 0 else none | none=>none
 | .fl s xs=>if s=sz then (Bi i xs.length).map fun j=>.fp s xs j 0 else none
 | _=>none
theorem Wk {g:Option Bo} {s:Nat} {xs:List (List V)} {i:V}:I7 g s (.fl s xs) i=(Bi i xs.length).map fun j=>.fp s xs j 0:=by simp [I7]
theorem Wl {sz id el len cap:Nat} {cs:List (List V)} {i:V}:I7 (some ⟨sz,cs⟩) sz (.sl id el len cap) i=(Bi i len).map fun j=>.p id (el+j) 0:=by simp [I7]
theorem mC {sz:Nat} {v i:V}:Wm (JG h v) sz v i=I7 (h.get (Aq v)) sz v i:=by
 cases v<;>try rfl
 rename_i id el len cap
 simp only [JG,Aq]
 cases h.get id<;>rfl
theorem gJ {sz:Nat} {x i:X}:Z1 tp (.iad sz x i) e h K=Wo (I7 (h.get (Aq (x.e2 e))) sz (x.e2 e) (i.e2 e)) (fun v=>K v h):=by
 unfold Z1;simp only [z1,A7,mC,A2]
def NH (sz len:Nat):V→V→Option V
 | .p id el off,i=>(Bi i len).map fun j=>.p id el (off+j*sz)
 | .fp s xs k off,i=>(Bi i len).map fun j=>.fp s xs k (off+j*sz)
 | _,_=>none
theorem Wn {sz len id el off:Nat} {i:V}:NH sz len (.p id el off) i=(Bi i len).map fun j=>.p id el (off+j*sz):=Ag rfl
theorem SJ {sz len s k off:Nat} {xs:List (List V)} {i:V}:NH sz len (.fp s xs k off) i=(Bi i len).map fun j=>.fp s xs k (off+j*sz):=Ag rfl
theorem U0 {sz len:Nat} {x i:X}:Z1 tp (.iada sz len x i) e h K=Wo (NH sz len (x.e2 e) (i.e2 e)) (fun v=>K v h):=by
 unfold Z1;simp only [z1,A7,Ac,NH]
 cases x.e2 e<;>simp only [AJ,A2]
def mF (sz len:Nat) (agg:Bool):V→V→Option V
 | .agg r,i=>(Bi i len).bind fun j=>FY r (j*sz) sz agg
 | _,_=>none
theorem SK {sz len:Nat} {agg:Bool} {r:List V} {i:V}:mF sz len agg (.agg r) i=(Bi i len).bind fun j=>FY r (j*sz) sz agg:=Ag rfl
theorem gK {sz len:Nat} {agg:Bool} {x i:X}:Z1 tp (.idx sz len agg x i) e h K=Wo (mF sz len agg (x.e2 e) (i.e2 e)) (fun v=>K v h):=by
 unfold Z1;simp only [z1,A7,Ac,mF]
 cases x.e2 e<;>simp only [AJ]
 rw [Be,Be]
 refine DL fun t=>?_
 rw [A2]
def TS:V→V→Option V
 | .s x,i=>(Bi i x.size).map fun j=>.i .u8 ((x.data.toList.getD j 0).toNat:Int)
 | _,_=>none
theorem Xj {x:ByteArray} {i:V}:TS (.s x) i=(Bi i x.size).map fun j=>.i .u8 ((x.data.toList.getD j 0).toNat:Int):=Ag rfl
theorem U7 {x i:X}:Z1 tp (.sidx x i) e h K=Wo (TS (x.e2 e) (i.e2 e)) (fun v=>K v h):=by
 unfold Z1;simp only [z1,A7,Ac,TS]
 cases x.e2 e<;>simp only [AJ,Be,A2]
def iR:V→Nat→Option V | .tup l,i=>l[i]? | _,_=>none
theorem Ri {l:List V} {i:Nat}:iR (.tup l) i=l[i]?:=Ag rfl
theorem gF {x:X} {i:Nat}:Z1 tp (.ext x i) e h K=Wo (iR (x.e2 e) i) (fun v=>K v h):=by
 unfold Z1;simp only [z1,A7,Ac,iR]
 cases x.e2 e<;>simp only [AJ,A2]
theorem gB {sz:Nat} {x y:X}:Z1 tp (.app sz x y) e h K=Wo (El sz h (y.e2 e)) (fun new=>Wo (G3 sz h (x.e2 e) new) (fun z=>K z.1 z.2)):=by
 unfold Z1;simp only [z1,A7,Be];rfl
def Ka:V→Option V | .ns=>some (.i .i64 0) | .e0=>some (.i .i64 0) | .sl _ _ n _=>some (.i .i64 n) | .fl _ xs=>some (.i .i64 xs.length) | _=>none
theorem Wy:Ka .ns=some (.i .i64 0):=Ag rfl
theorem Ww:Ka .e0=some (.i .i64 0):=Ag rfl
theorem Wz {a b c d:Nat}:Ka (.sl a b c d)=some (.i .i64 c):=Ag rfl
theorem Wx {s:Nat} {xs:List (List V)}:Ka (.fl s xs)=some (.i .i64 xs.length):=Ag rfl
theorem gM {x:X}:Z1 tp (.len x) e h K=Wo (Ka (x.e2 e)) (fun v=>K v h):=by
 unfold Z1;simp only [z1,A7,Ac,Ka]
 cases x.e2 e<;>simp only [AE,AJ]
def TW:V→Option V | .s x=>some (.i .i64 x.size) | _=>none
theorem Xn {x:ByteArray}:TW (.s x)=some (.i .i64 x.size):=Ag rfl
theorem U8 {x:X}:Z1 tp (.slen x) e h K=Wo (TW (x.e2 e)) (fun v=>K v h):=by
 unfold Z1;simp only [z1,A7,Ac,TW]
 cases x.e2 e<;>simp only [AE,AJ]
theorem U1 {n:Nat}:Z1 tp (.lenc n) e h K=K (.i .i64 n) h:=by unfold Z1;simp only [z1,A7,Ac,AE]
theorem aD3 {x:X} {l:List X}:Z1 tp (.mn (x::l)) e h K=Wo (Dd Ke (x.e2 e) (l.map (X.e2 e))) (fun v=>K v h):=by unfold Z1;simp only [z1,A7,Ac,A2]
theorem aD5 {x:X} {l:List X}:Z1 tp (.mx (x::l)) e h K=Wo (Dd Kd (x.e2 e) (l.map (X.e2 e))) (fun v=>K v h):=by unfold Z1;simp only [z1,A7,Ac,A2]
def Xr (t:Nat) (ok:Bool) (z:V):V→Option V
 | .ifc t' v=>if t'=t then some (if ok then .tup [v,.b true] else v) else if ok then some (.tup [z,.b false]) else none
 | .ni=>if ok then some (.tup [z,.b false]) else none
 | _=>none
theorem Px {t:Nat} {z v:V}:Xr t false z (.ifc t v)=some v:=by simp [Xr]
theorem gO {t:Nat} {ok:Bool} {z:V} {x:X}:Z1 tp (.tas t ok z x) e h K=(plain z=true∧Wo (Xr t ok z (x.e2 e)) (fun v=>K v h)):=by
 unfold Z1;simp only [z1,A7,Ac,BQ,Xr]
 congr 1
 cases x.e2 e<;>simp only [AJ]<;>(repeat' split)<;>simp only [AJ,AE]
def Nh:V→List V→Option (Nat×List V) | .f (.func g) first caps,l=>some (g,first++l++caps) | _,_=>none
theorem Ie {g:Nat} {a c l:List V}:Nh (.f (.func g) a c) l=some (g,a++l++c):=Ag rfl
theorem Nd {f:X} {l:List X}:Z1 tp (.call f l) e h K=Wo (Nh (f.e2 e) (l.map (X.e2 e))) (fun c=>Cq tp c.1 c.2 h K):=by
 unfold Z1;simp only [z1,callee]
 generalize f.e2 e=v
 cases v with
 | f g a c=>cases g<;>rfl
 | _=>rfl
theorem aD2 {f:Nat} {l:List X}:Z1 tp (.call (.fn f) l) e h K=Cq tp f (l.map (X.e2 e)) h K:=by
 rw [Nd,Zu,Ie,AE];simp
def ZF (tp:TP) (m:String) (l:List V):V→Option (Nat×List V)
 | .ifc t v=>(tp.meth t m).bind fun q=>match q.at_ with
  | none=>some (q.f,v::l)
  | some j=>match v with | .agg cs=>(cs[j]?).map fun r=>(q.f,r::l) | _=>none
 | _=>none
theorem O2 {m:String} {l:List V} {t:Nat} {v:V}:ZF tp m l (.ifc t v)=(tp.meth t m).bind fun q=>match q.at_ with
    | none=>some (q.f,v::l)
    | some j=>match v with | .agg cs=>(cs[j]?).map fun r=>(q.f,r::l) | _=>none:=Ag rfl
theorem gL {x:X} {m:String} {l:List X}:Z1 tp (.inv x m l) e h K=Wo (ZF tp m (l.map (X.e2 e)) (x.e2 e)) (fun c=>Cq tp c.1 c.2 h K):=by
 unfold Z1;simp only [z1,callee]
 cases x.e2 e<;>rfl
/-! Quiet ones. -/
theorem AG {o:O} (hp:AB o=true):CY tp o e h K=Z1 tp o e h K:=by unfold CY Z1 oL;rw [if_pos hp]
theorem Bk {o:O} (hp:AB o=false):CY tp o e h K=Z1 tp o e h.raise (fun v h'=>K v (h'.back h.lim)):=by unfold CY Z1 oL;rw [if_neg (by simp [hp])]
theorem OY {n:Nat} {g:Bool} {v:V}:Ur h.raise n g v=Ur h n g v:=by cases v<;>rfl
theorem Qw {n:Nat} {g:Bool} {x:X}:CY tp (.load n g x) e h K=Z1 tp (.load n g x) e h K:=by
 rw [Bk rfl,IT,IT,OY];rfl
theorem Og {sz:Nat} {x:X} {lo hi mx:Option X}:CY tp (.slice sz x lo hi mx) e h K=Z1 tp (.slice sz x lo hi mx) e h K:=by
 rw [Bk rfl,G1,G1];rfl
theorem Oc {z:List V}:CY tp (.alloc z) e h K=Z1 tp (.alloc z) e h K:=by
 rw [Bk rfl,GZ,GZ];rfl
theorem Vi {x:X}:CY tp (.box x) e h K=Z1 tp (.box x) e h K:=by
 rw [Bk rfl,LS,LS];rfl
theorem Ve {z:List V}:CY tp (.alc z) e h K=Z1 tp (.alc z) e h K:=by
 rw [Bk rfl,LQ,LQ];rfl
theorem Qr {sz n:Nat} {z:List V} {ps:List (Nat×X)}:CY tp (.bslc sz z n ps) e h K=Z1 tp (.bslc sz z n ps) e h K:=by
 rw [Bk rfl,IS,IS];rfl
theorem Vj {sz n:Nat} {z:List V} {ps:List (Nat×X)}:CY tp (.bsl sz z n ps) e h K=Z1 tp (.bsl sz z n ps) e h K:=by
 rw [Bk rfl,LT,LT];rfl
theorem Vg {x:X}:CY tp (.b2s x) e h K=Z1 tp (.b2s x) e h K:=by
 rw [Bk rfl,LR,LR]
 have:JE h.raise (x.e2 e)=JE h (x.e2 e):=by cases x.e2 e<;>rfl
 rw [this];rfl
theorem Vt {x:X}:CY tp (.s2b x) e h K=Z1 tp (.s2b x) e h K:=by
 rw [Bk rfl,LU,LU];rfl
theorem Qq {z:List V} {x y:X}:CY tp (.appz z x y) e h K=Z1 tp (.appz z x y) e h.raise (fun v h'=>K v (h'.back h.lim)):=Bk rfl
theorem QA {z:List V} {x y:X}:CY tp (.mksl z x y) e h K=Z1 tp (.mksl z x y) e h.raise (fun v h'=>K v (h'.back h.lim)):=Bk rfl
theorem Vf {sz:Nat} {x y:X}:CY tp (.app sz x y) e h K=Z1 tp (.app sz x y) e h.raise (fun v h'=>K v (h'.back h.lim)):=Bk rfl
theorem Oh {n:Nat} {x y:X}:CY tp (.store n x y) e h K=Z1 tp (.store n x y) e h.raise (fun v h'=>K v (h'.back h.lim)):=Bk rfl
theorem Qx {x:X}:CY tp (.mark x) e h K=Z1 tp (.mark x) e h.raise (fun v h'=>K v (h'.back h.lim)):=Bk rfl
theorem Qs {f:X} {l:List X}:CY tp (.call f l) e h K=Z1 tp (.call f l) e h.raise (fun v h'=>K v (h'.back h.lim)):=Bk rfl
theorem Vq {x:X} {m:String} {l:List X}:CY tp (.inv x m l) e h K=Z1 tp (.inv x m l) e h.raise (fun v h'=>K v (h'.back h.lim)):=Bk rfl
theorem gX {x:X}:CY tp (.mv x) e h K=Z1 tp (.mv x) e h K:=AG rfl
theorem QB {a b c:X}:CY tp (.pick a b c) e h K=Z1 tp (.pick a b c) e h K:=AG rfl
theorem Od {z:List V} {ps:List (Nat×Nat×X)}:CY tp (.build z ps) e h K=Z1 tp (.build z ps) e h K:=AG rfl
theorem gU  : CY tp (.e0 ) e h K=Z1 tp (.e0 ) e h K:=AG rfl
theorem Vs {x:X}:CY tp (.nck x) e h K=Z1 tp (.nck x) e h K:=AG rfl
theorem Vh {op:BinOp} {x y:X}:CY tp (.bin op x y) e h K=Z1 tp (.bin op x y) e h K:=AG rfl
theorem gV {n:Bool} {k:EK} {x y:X}:CY tp (.eq n k x y) e h K=Z1 tp (.eq n k x y) e h K:=AG rfl
theorem gZ {op:UnOp} {x:X}:CY tp (.un op x) e h K=Z1 tp (.un op x) e h K:=AG rfl
theorem Qt {k:IntKind} {x:X}:CY tp (.conv k x) e h K=Z1 tp (.conv k x) e h K:=AG rfl
theorem QE {x:X}:CY tp (.strs x) e h K=Z1 tp (.strs x) e h K:=AG rfl
theorem Vn {x:X}:CY tp (.i2s x) e h K=Z1 tp (.i2s x) e h K:=AG rfl
theorem Qz {t:Nat} {x:X}:CY tp (.mkif t x) e h K=Z1 tp (.mkif t x) e h K:=AG rfl
theorem Qy {f:Fn} {a c:List X}:CY tp (.mkfn f a c) e h K=Z1 tp (.mkfn f a c) e h K:=AG rfl
theorem LV {x:X} {lo hi:Option X}:CY tp (.sslice x lo hi) e h K=Z1 tp (.sslice x lo hi) e h K:=AG rfl
theorem Vl {o:Nat} {x:X}:CY tp (.fad o x) e h K=Z1 tp (.fad o x) e h K:=AG rfl
theorem Vm {o n:Nat} {g:Bool} {x:X}:CY tp (.fld o n g x) e h K=Z1 tp (.fld o n g x) e h K:=AG rfl
theorem Vo {s:Nat} {x i:X}:CY tp (.iad s x i) e h K=Z1 tp (.iad s x i) e h K:=AG rfl
theorem Qu {s n:Nat} {x i:X}:CY tp (.iada s n x i) e h K=Z1 tp (.iada s n x i) e h K:=AG rfl
theorem Vp {s n:Nat} {g:Bool} {x i:X}:CY tp (.idx s n g x i) e h K=Z1 tp (.idx s n g x i) e h K:=AG rfl
theorem QC {x i:X}:CY tp (.sidx x i) e h K=Z1 tp (.sidx x i) e h K:=AG rfl
theorem Vk {x:X} {i:Nat}:CY tp (.ext x i) e h K=Z1 tp (.ext x i) e h K:=AG rfl
theorem Oe {n:Nat} {ag:Bool} {x:X}:CY tp (.fload n ag x) e h K=Z1 tp (.fload n ag x) e h K:=AG rfl
theorem Vr {x:X}:CY tp (.len x) e h K=Z1 tp (.len x) e h K:=AG rfl
theorem QD {x:X}:CY tp (.slen x) e h K=Z1 tp (.slen x) e h K:=AG rfl
theorem Qv {n:Nat}:CY tp (.lenc n) e h K=Z1 tp (.lenc n) e h K:=AG rfl
theorem gW {l:List X}:CY tp (.mn l) e h K=Z1 tp (.mn l) e h K:=AG rfl
theorem gY {l:List X}:CY tp (.mx l) e h K=Z1 tp (.mx l) e h K:=AG rfl
theorem Vu {t:Nat} {ok:Bool} {z:V} {x:X}:CY tp (.tas t ok z x) e h K=Z1 tp (.tas t ok z x) e h K:=AG rfl
end
/-! ### Values -/
theorem VE {k:IntKind} {a b:Int}:Bs .add (.i k a) (.i k b)=some (.i k (k.wrap (a+b))):=by simp [Bs,EI]
theorem VP {k:IntKind} {a b:Int}:Bs .sub (.i k a) (.i k b)=some (.i k (k.wrap (a - b))):=by simp [Bs,EI]
theorem VL {k:IntKind} {a b:Int}:Bs .mul (.i k a) (.i k b)=some (.i k (k.wrap (a*b))):=by simp [Bs,EI]
theorem VN {k:IntKind} {a b:Int} (hb:¬ b=0):Bs .quo (.i k a) (.i k b)=some (.i k (k.wrap (a.tdiv b))):=by simp [Bs,EI,hb]
theorem VO {k:IntKind} {a b:Int} (hb:¬ b=0):Bs .rem (.i k a) (.i k b)=some (.i k (a.tmod b)):=by simp [Bs,EI,hb]
theorem VF {k:IntKind} {a b:Int}:Bs .and (.i k a) (.i k b)=some (.i k (k.wrap (BitVec.ofInt k.bits a &&& BitVec.ofInt k.bits b).toNat)):=by simp [Bs,EI]
theorem iB {k:IntKind} {a b:Int}:Bs .or (.i k a) (.i k b)=some (.i k (k.wrap (BitVec.ofInt k.bits a ||| BitVec.ofInt k.bits b).toNat)):=by simp [Bs,EI]
theorem VG {k:IntKind} {a b:Int}:Bs .eql (.i k a) (.i k b)=some (.b (decide (a=b))):=by simp [Bs,EI]
theorem VM {k:IntKind} {a b:Int}:Bs .neq (.i k a) (.i k b)=some (.b (decide (¬ a=b))):=by simp [Bs,EI]
theorem VK {k:IntKind} {a b:Int}:Bs .lss (.i k a) (.i k b)=some (.b (decide (a<b))):=by simp [Bs,EI]
theorem VJ {k:IntKind} {a b:Int}:Bs .leq (.i k a) (.i k b)=some (.b (decide (a≤b))):=by simp [Bs,EI]
theorem VI {k:IntKind} {a b:Int}:Bs .gtr (.i k a) (.i k b)=some (.b (decide (b<a))):=by simp [Bs,EI]
theorem VH {k:IntKind} {a b:Int}:Bs .geq (.i k a) (.i k b)=some (.b (decide (b≤a))):=by simp [Bs,EI]
theorem oC {x:Bool}:ZO .not (.b x)=some (.b (!x)):=Ag rfl
theorem oB {k:IntKind} {n:Int}:ZO .neg (.i k n)=some (.i k (k.wrap (0 - n))):=Ag rfl
theorem aEB {k:IntKind} {x y:Int}:Ke (.i k x) (.i k y)=some (.i k (min x y)):=by
 simp only [Ke,if_true];congr 2
 omega
theorem aEA {k:IntKind} {x y:Int}:Kd (.i k x) (.i k y)=some (.i k (max x y)):=by
 simp only [Kd,if_true];congr 2
 omega
theorem Rv {f:V→V→Option V} {x:V}:Dd f x []=some x:=Ag rfl
theorem OK {f:V→V→Option V} {x y:V} {l:List V}:Dd f x (y::l)=(f x y).bind fun z=>Dd f z l:=Ag rfl
theorem aF8 {p:Prop} [Decidable p]:(!decide p)=decide (¬ p):=by simp
theorem aFS {p q:Prop} [Decidable p] [Decidable q]:(decide p&&decide q)=decide (p∧q):=by simp
theorem aGa {p q:Prop} [Decidable p] [Decidable q]:(decide p||decide q)=decide (p∨q):=by simp
theorem aEt {k:IntKind} {j:Int} {n:Nat} (h0:0≤j) (h1:j<n):Bi (.i k j) n=some j.toNat:=by simp [Bi,h0,h1]
theorem JH {d n:Nat}:Aw none d n=some d:=Ag rfl
theorem QL {k:IntKind} {j:Int} {d n:Nat} (h0:0≤j) (h1:j≤n):Aw (some (.i k j)) d n=some j.toNat:=by simp [Aw,h0,h1]
theorem Oq {l:List V}:V.cells (.agg l)=l:=Ag rfl
theorem VV {k:IntKind} {n:Int}:V.cells (.i k n)=[.i k n]:=Ag rfl
theorem VT {x:Bool}:V.cells (.b x)=[.b x]:=Ag rfl
theorem VX {x:ByteArray}:V.cells (.s x)=[.s x]:=Ag rfl
theorem QU {a b c d:Nat}:V.cells (.sl a b c d)=[.sl a b c d]:=Ag rfl
theorem QT:V.cells .ns=[.ns]:=Ag rfl
theorem VW {a b c:Nat}:V.cells (.p a b c)=[.p a b c]:=Ag rfl
theorem QS:V.cells .np=[.np]:=Ag rfl
theorem SQ {k:IntKind} {n:Int}:V.isCell (.i k n)=true:=Ag rfl
theorem SN {x:Bool}:V.isCell (.b x)=true:=Ag rfl
theorem SS {x:ByteArray}:V.isCell (.s x)=true:=Ag rfl
theorem OX {a b c d:Nat}:V.isCell (.sl a b c d)=true:=Ag rfl
theorem OW:V.isCell .ns=true:=Ag rfl
theorem SR {a b c:Nat}:V.isCell (.p a b c)=true:=Ag rfl
theorem OV:V.isCell .np=true:=Ag rfl
theorem w64 {x:Int} (h0 : -9223372036854775808≤x) (h1:x<9223372036854775808):IntKind.wrap .i64 x=x:=by rw [IntKind.wrap_i64];omega
theorem QO {a:Nat} {b:List (List V)}:V.cells (.fl a b)=[.fl a b]:=Ag rfl
theorem QP {a c d:Nat} {b:List (List V)}:V.cells (.fp a b c d)=[.fp a b c d]:=Ag rfl
theorem QN:V.cells .e0=[.e0]:=Ag rfl
theorem QQ:V.cells .nf=[.nf]:=Ag rfl
theorem QR:V.cells .ni=[.ni]:=Ag rfl
theorem VU {a:Fn} {b c:List V}:V.cells (.f a b c)=[.f a b c]:=Ag rfl
theorem Ot {a:Nat} {b:V}:V.cells (.ifc a b)=[.ifc a b]:=Ag rfl
theorem OQ {a:Nat} {b:List (List V)}:V.isCell (.fl a b)=true:=Ag rfl
theorem OS {a c d:Nat} {b:List (List V)}:V.isCell (.fp a b c d)=true:=Ag rfl
theorem OP:V.isCell .e0=true:=Ag rfl
theorem OT:V.isCell .nf=true:=Ag rfl
theorem OU:V.isCell .ni=true:=Ag rfl
theorem SO {a:Fn} {b c:List V}:V.isCell (.f a b c)=true:=Ag rfl
theorem Ms {a:Nat} {b:V}:V.isCell (.ifc a b)=true:=Ag rfl
theorem aED {x:Bool}:pur (.b x)=true:=Ag (by simp [pur])
theorem aEF {k:IntKind} {n:Int}:pur (.i k n)=true:=Ag (by simp [pur])
theorem aEG {x:ByteArray}:pur (.s x)=true:=Ag (by simp [pur])
theorem nH {a:Nat} {b:List (List V)}:pur (.fl a b)=true:=Ag (by simp [pur])
theorem nL:pur .ns=true:=Ag (by simp [pur])
theorem nG:pur .e0=true:=Ag (by simp [pur])
theorem nK:pur .np=true:=Ag (by simp [pur])
theorem nJ:pur .ni=true:=Ag (by simp [pur])
theorem nI:pur .nf=true:=Ag (by simp [pur])
theorem aEH:pur .u=true:=Ag (by simp [pur])
theorem W4 {l:List V}:pur (.agg l)=Ej l:=Ag (by simp [pur])
theorem W6 {l:List V}:pur (.tup l)=Ej l:=Ag (by simp [pur])
theorem aEE {f:Fn} {a c:List V}:pur (.f f a c)=(Ej a&&Ej c):=Ag (by simp [pur])
theorem W5 {t:Nat} {v:V}:pur (.ifc t v)=pur v:=Ag (by simp [pur])
theorem Tv:Ej []=true:=Ag (by simp [Ej])
theorem Pj {v:V} {l:List V}:Ej (v::l)=(pur v&&Ej l):=Ag (by simp [Ej])
theorem aFX {x y:Bool}:D7 .b (.b x) (.b y)=some (decide (x=y)):=by cases x<;>cases y<;>rfl
theorem iQ {ks:List CK} {l m:List V}:D7 (.agg ks) (.agg l) (.agg m)=EL ks l m:=Ag rfl
theorem V4:EL [] [] []=some true:=Ag rfl
theorem Rd {k:CK} {ks:List CK} {a c:V} {l m:List V}:EL (k::ks) (a::l) (c::m)=(Ma k a c).bind fun x=>(EL ks l m).map fun y=>x&&y:=Ag rfl
theorem aEj {k:IntKind} {a b:Int}:Ma .i (.i k a) (.i k b)=some (decide (a=b)):=by simp [Ma]
theorem aEi {x y:Bool}:Ma .b (.b x) (.b y)=some (decide (x=y)):=by cases x<;>cases y<;>rfl
theorem aEk {x y:ByteArray}:Ma .s (.s x) (.s y)=some (decide (x=y)):=Ag rfl
theorem QJ {x y:ByteArray}:Bs .eql (.s x) (.s y)=some (.b (decide (x=y))):=Ag rfl
theorem QK {x y:ByteArray}:Bs .neq (.s x) (.s y)=some (.b (decide (¬ x=y))):=by simp [Bs,VD]
/-! ### Results -/
section
variable {e:Env} {h:AH}
theorem Vv {res:List RV} {Q:V→AH→Prop}:GG res .nm e h Q=Wo (Bp e h res) (fun v=>Q v h):=Ag rfl
theorem Vw {res:List RV} {Q:V→AH→Prop}:GG res .rt e h Q=Wo (Bp e h res) (fun v=>Q v h):=Ag rfl
theorem Xa:Bp e h []=some (.tup []):=Ag rfl
theorem Xb {n:Nat}:Bp e h [.t n]=some (e n):=Ag rfl
theorem Xc {n m:Nat}:Bp e h [.t n,.t m]=some (.tup [e n,e m]):=Ag rfl
theorem Pn {n m l:Nat}:Bp e h [.t n,.t m,.t l]=some (.tup [e n,e m,e l]):=Ag rfl
def Gj (h:AH) (k:Nat) (g:Bool):V→Option V | .p id el off=>Uq (h.get id) el off k g | _=>none
theorem VS {k id el off:Nat} {g:Bool}:Gj h k g (.p id el off)=Uq (h.get id) el off k g:=Ag rfl
theorem Gc {n k:Nat} {g:Bool}:MR e h (.cell n k g)=Gj h k g (e n):=Ag rfl
theorem Ty {n k:Nat} {g:Bool}:Bp e h [.cell n k g]=Gj h k g (e n):=by
 simp only [Bp,PL,Gc]
 cases Gj h k g (e n)<;>rfl
theorem Pl {n k m:Nat} {g:Bool}:Bp e h [.cell n k g,.t m]=(Gj h k g (e n)).map fun v=>.tup [v,e m]:=by
 simp only [Bp,PL,Gc]
 cases Gj h k g (e n)<;>rfl
theorem Pm {n k m l:Nat} {g:Bool}:Bp e h [.cell n k g,.t m,.t l]=(Gj h k g (e n)).map fun v=>.tup [v,e m,e l]:=by
 simp only [Bp,PL,Gc]
 cases Gj h k g (e n)<;>rfl
end
/-! ### What stays -/
def MU:V→Bool
 | .b _ | .i .. | .s _ | .np | .ns | .e0 | .nf | .ni | .u | .fl .. | .fp ..=>true
 | _=>false
theorem CW.of_stay {P:Nat→Prop} {h:AH} {n:Nat} {v:V} (hv:MU v=true):CW P h n v v:=by
 cases v<;>first | (simp [MU] at hv;done) | exact .fl _ _ _ | exact .fp _ _ _ _ _ | exact .z _ _ (by constructor)
theorem BO.of_stay {P:Nat→Prop} {h:AH} {n:Nat}:∀ {l:List V},l.all MU=true→BO P h n l l
 | [],_=>.nil _
 | v::l,hl=>by
  simp only [List.all_cons,Bool.and_eq_true] at hl
  exact .cons _ _ _ _ _ (CW.of_stay hl.1) (BO.of_stay hl.2)
theorem B1.of_map {P:Nat→Prop} {h:AH} {n:Nat} {α:Type} {enc:α→List V} (he:∀ a,(enc a).all MU=true):∀ (L:List α),B1 P h n (L.map enc) (L.map enc)
 | []=>.nil _
 | a::L=>.cons _ _ _ _ _ (BO.of_stay (he a)) (B1.of_map he L)
section
variable {P:Nat→Prop} {h:AH} {n:Nat}
theorem oO {k k':IntKind} {z z':Int}:CW P h n (.i k z) (.i k' z')=(k=k'∧z=z'):=propext ⟨fun f=>by cases f;exact ⟨rfl,rfl⟩,fun ⟨a,b⟩=>by subst a;subst b;exact .z _ _ (.i _ _)⟩
theorem oN {z z':Bool}:CW P h n (.b z) (.b z')=(z=z'):=propext ⟨fun f=>by cases f;exact rfl,fun a=>by subst a;exact .z _ _ (.b _)⟩
theorem oP {z z':ByteArray}:CW P h n (.s z) (.s z')=(z=z'):=propext ⟨fun f=>by cases f;exact rfl,fun a=>by subst a;exact .z _ _ (.s _)⟩
theorem ZU {s s':Nat} {z z':List (List V)}:CW P h n (.fl s z) (.fl s' z')=(s=s'∧z=z'):=propext ⟨fun f=>by
 cases f with
 | z _ _ h0=>cases h0
 | fl=>exact ⟨rfl,rfl⟩,fun ⟨a,b⟩=>by subst a;subst b;exact .fl _ _ _⟩
theorem ZW {s:Nat} {z:List (List V)}:CW P h n .ns (.fl s z)=(z=[]):=propext ⟨fun f=>by cases f;exact rfl,fun a=>by subst a;exact .ns _ _⟩
theorem ZT {s:Nat} {z:List (List V)}:CW P h n .e0 (.fl s z)=(z=[]):=propext ⟨fun f=>by cases f;exact rfl,fun a=>by subst a;exact .e0 _ _⟩
theorem ZV:CW P h n .np .np=True:=by simp;exact .z _ _ .np
theorem Uy {l l':List V}:CW P h n (.tup l) (.tup l')=BO P h n l l':=propext ⟨fun f=>by
 cases f with
 | z _ _ h0=>cases h0
 | tup _ _ _ h=>exact h,fun a=>.tup _ _ _ a⟩
theorem Ux {l l':List V}:CW P h n (.agg l) (.agg l')=BO P h n l l':=propext ⟨fun f=>by
 cases f with
 | z _ _ h0=>cases h0
 | agg _ _ _ h=>exact h,fun a=>.agg _ _ _ a⟩
theorem PP:BO P h n [] []=True:=by simp;exact .nil _
theorem N2 {v w:V} {l l':List V}:BO P h n (v::l) (w::l')=(CW P h n v w∧BO P h n l l'):=propext ⟨fun f=>by
 cases f with
 | cons _ _ _ _ _ a b=>exact ⟨a,b⟩,fun ⟨a,b⟩=>.cons _ _ _ _ _ a b⟩
end
/-! ### Slices of one's own -/
def nth {α:Type} [Inhabited α] (L:List α) (j:Nat):α:=L.getD j default
theorem D0 {α:Type} [Inhabited α] {L:List α} {j:Nat} (h:j<L.length):L[j]?=some (nth L j):=by simp [nth,List.getD,List.getElem?_eq_getElem h]
theorem Dv {α:Type} [Inhabited α] {L:List α} {j:Nat} (h:j<L.length):nth L j=L[j]:=by simp [nth,List.getD,List.getElem?_eq_getElem h]
theorem WN {α:Type} [Inhabited α] {β:Type} {f:α→β} {L:List α} {j:Nat} (h:j<L.length):(L.map f)[j]?=some (f (nth L j)):=by rw [List.getElem?_map,D0 h];rfl
theorem AR {α:Type} [Inhabited α] {L:List α} {j:Nat} (h:j<L.length):nth L j∈L:=by rw [Dv h];exact List.getElem_mem h
theorem AX {α:Type} [Inhabited α] {L:List α} {i:Nat} (h:i<L.length):L.drop i=nth L i::L.drop (i+1):=by
 rw [Dv h];exact List.drop_eq_getElem_cons h
structure Am (h h':AH):Prop where
 next:h.next≤h'.next
 lim:h'.lim=h.lim
 get:∀ i,i<h.next→h'.get i=h.get i
theorem Am.refl (h:AH):Am h h:=⟨Nat.le_refl _,rfl,fun _ _=>rfl⟩
theorem Am.trans {a b c:AH} (p:Am a b) (q:Am b c):Am a c:=⟨Nat.le_trans p.next q.next,q.lim.trans p.lim,fun i hi=>(q.get i (Nat.lt_of_lt_of_le hi p.next)).trans (p.get i hi)⟩
theorem Am.alloc {a b:AH} (p:Am a b) (k:Bo):Am a (b.alloc k):=⟨Nat.le_succ_of_le p.next,p.lim,fun i hi=>by
 rw [A0,An (by have:=p.next;omega)];exact p.get i hi⟩
theorem Am.put {a b:AH} (p:Am a b) (i:Nat) (k:Bo) (hi:a.next≤i):Am a (b.put i k):=⟨p.next,p.lim,fun j hj=>by
 rw [Ah,An (by omega)];exact p.get j hj⟩
theorem Am.kill {a b:AH} (p:Am a b) (i:Nat) (hi:a.next≤i):Am a (b.kill i):=⟨p.next,p.lim,fun j hj=>by
 rw [Fw,An (by omega)];exact p.get j hj⟩
def AU (h:AH) (v:V):List (List V):=match h.get (Aq v) with | some k=>k.cs | none=>[]
def Sl (b:Nat) (h:AH) (sz:Nat) (v:V) (R:List (List V)):Prop:=((v=.ns∨v=.e0)∧R=[])∨∃ id el cap cs,v=.sl id el R.length cap∧h.get id=some ⟨sz,cs⟩∧el+cap≤cs.length∧(cs.drop el).take R.length=R∧R.length≤cap∧id<h.next∧b≤id∧R.length<4294967296
theorem Sl.nil (b:Nat) (h:AH) (sz:Nat):Sl b h sz .ns []:=.inl ⟨.inl rfl,rfl⟩
theorem Sl.nil' (b:Nat) (h:AH) (sz:Nat):Sl b h sz .e0 []:=.inl ⟨.inr rfl,rfl⟩
theorem Sl.same {b:Nat} {h h':AH} {sz:Nat} {v:V} {R:List (List V)} (s:Sl b h sz v R) (hn:h.next≤h'.next) (hg:Aq v<h.next→h'.get (Aq v)=h.get (Aq v)):Sl b h' sz v R:=by
 rcases s with ⟨hv,rfl⟩ | ⟨id,el,cap,k,rfl,a,c,d,f,hlt,hb,hl⟩
 ·exact .inl ⟨hv,rfl⟩
 ·exact .inr ⟨id,el,cap,k,rfl,(hg hlt).trans a,c,d,f,Nat.lt_of_lt_of_le hlt hn,hb,hl⟩
theorem Sl.ext {b:Nat} {h h':AH} {sz:Nat} {v:V} {R:List (List V)} (s:Sl b h sz v R) (p:Am h h'):Sl b h' sz v R:=s.same p.next (fun hl=>p.get _ hl)
theorem Sl.alloc {b:Nat} {h:AH} {sz:Nat} {v:V} {R:List (List V)} (s:Sl b h sz v R) (k:Bo):Sl b (h.alloc k) sz v R:=s.ext ((Am.refl h).alloc k)
theorem Sl.putx {b:Nat} {h:AH} {sz:Nat} {v:V} {R:List (List V)} (s:Sl b h sz v R) (i:Nat) (k:Bo) (hi:i≠Aq v):Sl b (h.put i k) sz v R:=s.same (Nat.le_refl _) (fun _=>by rw [Ah,An (Ne.symm hi)])
theorem Sl.back {b:Nat} {h:AH} {sz l:Nat} {v:V} {R:List (List V)} (s:Sl b h sz v R):Sl b (h.back l) sz v R:=s
theorem Sl.raise {b:Nat} {h:AH} {sz:Nat} {v:V} {R:List (List V)} (s:Sl b h sz v R):Sl b h.raise sz v R:=s
structure SlF {α:Type} [Inhabited α] (enc:α→List V) (b:Nat) (h:AH) (sz:Nat) (v:V) (L:List α):Prop where
 len:Ka v=some (.i .i64 (L.length:Int))
 big:L.length<4294967296
 lt:0<L.length→Aq v<h.next
 lo:0<L.length→b≤Aq v
 get:0<L.length→h.get (Aq v)=some ⟨sz,AU h v⟩
 at_:∀ (k:IntKind) (j:Int) (cs:List (List V)),0≤j→j<L.length→I7 (some ⟨sz,cs⟩) sz v (.i k j)=some (.p (Aq v) (CU v+j.toNat) 0)
 row:∀ (j:Nat),j<L.length→(AU h v)[CU v+j]?=some (enc (nth L j))
 cell:v.isCell=true
 cells:v.cells=[v]
theorem Sl.facts {α:Type} [Inhabited α] {enc:α→List V} {b:Nat} {h:AH} {sz:Nat} {v:V} {L:List α} (s:Sl b h sz v (L.map enc)):SlF enc b h sz v L:=by
 rcases s with ⟨hv,hR⟩ | ⟨id,el,cap,cs,rfl,a,c,d,f,hlt,hb,hl⟩
 ·have hL:L=[]:=by simpa using hR
  subst hL
  rcases hv with rfl | rfl
  ·exact ⟨rfl,by simp,by simp,by simp,by simp,fun _ j _ h0 h1=>by simp at h1;omega,by simp,rfl,rfl⟩
  ·exact ⟨rfl,by simp,by simp,by simp,by simp,fun _ j _ h0 h1=>by simp at h1;omega,by simp,rfl,rfl⟩
 ·simp only [List.length_map] at *
  refine ⟨by simp [Ka],hl,fun _=>hlt,fun _=>hb,fun _=>by simp [AU,Aq,a],fun k j cs h0 h1=>by simp [I7,Bi,h0,h1,Aq,CU],fun j hj=>?_,rfl,rfl⟩
  simp only [AU,Aq,a,CU]
  have:((cs.drop el).take L.length)[j]?=(L.map enc)[j]?:=by rw [d]
  rw [List.getElem?_take_of_lt hj,List.getElem?_drop] at this
  rw [this,List.getElem?_map,D0 hj];rfl
theorem GE.len {α:Type} {enc:α→List V} {s:Nat} {L:List α} (r:GE (.fl s (L.map enc))):L.length<4000000000:=by simpa using r.big
theorem Sl.froze {α:Type} {enc:α→List V} {b:Nat} {h:AH} {sz:Nat} {v:V} {L:List α} {P:Nat→Prop} {n:Nat} (s:Sl b h sz v (L.map enc)) (he:∀ a,(enc a).all MU=true) (hP:P (Aq v)) (hL:L.length<4000000000):CW P h n v (.fl sz (L.map enc)):=by
 rcases s with ⟨hv,hR⟩ | ⟨id,el,cap,cs,rfl,a,c,d,f,hlt,hb,hl⟩
 ·rw [hR]
  rcases hv with rfl | rfl
  ·exact .ns _ _
  ·exact .e0 _ _
 ·refine .sl _ id el _ cap sz cs _ hP a (by omega) f (by simpa [Hi] using hL) ?_
  rw [d];exact B1.of_map he L
theorem Sl.froze' {b:Nat} {h:AH} {sz:Nat} {v:V} {R:List (List V)} {P:Nat→Prop} {n:Nat} (s:Sl b h sz v R) (hr:B1 P h 0 R R) (hP:P (Aq v)) (hL:R.length<4000000000):CW P h n v (.fl sz R):=by
 rcases s with ⟨hv,rfl⟩ | ⟨id,el,cap,cs,rfl,a,c,d,f,hlt,hb,hl⟩
 ·rcases hv with rfl | rfl
  ·exact .ns _ _
  ·exact .e0 _ _
 ·refine .sl _ id el _ cap sz cs _ hP a (by omega) f (by simpa [Hi] using hL) ?_
  rw [d];exact hr
def AI:V→Bool | .ns | .e0=>true | _=>false
structure Grown (b:Nat) (h:AH) (x v:V) (h':AH):Prop where
 next:h.next≤h'.next
 lim:h'.lim=h.lim
 low:∀ i,i<b→h'.get i=h.get i
 get:∀ i,i<h.next→(AI x=true∨i≠Aq x)→h'.get i=h.get i
 own:AI v=true∨(AI x=false∧Aq v=Aq x)∨h.next≤Aq v
 cell:v.isCell=true
 cells:v.cells=[v]
theorem Kj:∀ (r:List (List V)) (i:Nat) (n:List (List V)),i+n.length≤r.length→Dg r i n=r.take i++n++r.drop (i+n.length)
 | r,i,[],_=>by simp [Dg]
 | r,i,c::cs,h=>by
  simp only [List.length_cons] at h
  rw [Dg,Kj (r.set i c) (i+1) cs (by simp;omega)]
  have hi:i<r.length:=by omega
  rw [List.drop_set_of_lt (by omega)]
  have ht:(r.set i c).take (i+1)=r.take i++[c]:=by
   rw [List.take_add_one]
   simp [hi,List.take_set_of_le]
  rw [ht]
  simp only [List.append_assoc,List.singleton_append,List.length_cons]
  congr 3;omega
theorem AQ {b sz : Nat} {h : AH} {x : V} {R N : List (List V)} {K : V × AH → Prop} (sx : Sl b h sz x R) (hl : h.lim ≤ b) (hb : b ≤ h.next) (hlen : R.length + N.length < 4294967296)
    (k:∀ v h',Sl b h' sz v (R++N)→Grown b h x v h'→K (v,h')):Wo (G3 sz h x N) K:=by
 rcases sx with ⟨hx,rfl⟩ | ⟨id,el,cap,cs,rfl,hg,hle,hrow,hcap,hlt,hbi,hbig⟩
 ·have one:∀ nn:V,(nn=.ns∨nn=.e0)→Wo (if N=[] then some (nn,h) else if N.length<AV then some (.sl h.next 0 N.length N.length,h.alloc ⟨sz,N⟩) else none) (fun z=>(nn=.ns∨nn=.e0)→x=nn→K z):=by
   intro nn hnn
   split
   ·rename_i hN
    subst hN
    exact ⟨_,rfl,fun h1 h2=>by subst h2;exact k _ _ (.inl ⟨h1,rfl⟩) ⟨Nat.le_refl _,rfl,fun _ _=>rfl,fun _ _ _=>rfl,.inl (by rcases h1 with rfl | rfl<;>rfl),by rcases h1 with rfl | rfl<;>rfl,by rcases h1 with rfl | rfl<;>rfl⟩⟩
   ·rename_i hN
    rw [if_pos (by simp only [AV];simpa using hlen)]
    refine ⟨_,rfl,fun h1 h2=>k _ _ (.inr ⟨h.next,0,N.length,N, ?_, ?_, ?_, ?_, ?_, ?_,hb, ?_⟩) ⟨?_,rfl, ?_, ?_,.inr (.inr (Nat.le_refl _)),rfl,rfl⟩⟩
    ·simp
    ·simp [AH.alloc]
    ·simp
    ·simp
    ·simp
    ·simp [AH.alloc]
    ·simpa using hlen
    ·simp [AH.alloc]
    ·intro i hi;rw [A0,An (by omega)]
    ·intro i hi _;rw [A0,An (by omega)]
  rcases hx with rfl | rfl
  ·obtain ⟨z,hz,q⟩:=one .ns (.inl rfl)
   exact ⟨z,hz,q (.inl rfl) rfl⟩
  ·obtain ⟨z,hz,q⟩:=one .e0 (.inr rfl)
   exact ⟨z,hz,q (.inr rfl) rfl⟩
 ·unfold G3
  simp only [hg]
  rw [if_pos ⟨trivial,by omega,by omega,by simp only [AV];exact hlen⟩]
  by_cases hc:R.length+N.length≤cap
  ·rw [if_pos hc,if_pos (by omega)]
   have hov:=Kj cs (el+R.length) N (by omega)
   refine ⟨_,rfl,k _ _ (.inr ⟨id,el,cap,Dg cs (el+R.length) N, ?_, ?_, ?_, ?_, ?_,hlt,hbi, ?_⟩) ⟨Nat.le_refl _,rfl, ?_, ?_,.inr (.inl ⟨rfl,rfl⟩),rfl,rfl⟩⟩
   ·simp
   ·rw [Ah,AK rfl]
   ·rw [hov];simp;omega
   ·rw [hov]
    have e1:(cs.take (el+R.length)).drop el=R:=by rw [List.drop_take,Nat.add_sub_cancel_left];exact hrow
    simp only [List.append_assoc]
    rw [List.drop_append_of_le_length (by simp;omega),e1,←List.append_assoc,List.length_append,←List.length_append,List.take_left]
   ·simpa using hc
   ·simpa using hlen
   ·intro i hi;rw [Ah,An (by omega)]
   ·intro i hi hne
    rw [Ah,An (by rcases hne with hne | hne;cases hne;exact hne)]
  ·rw [if_neg hc]
   refine ⟨_,rfl,k _ _ (.inr ⟨h.next,0,R.length+N.length,(cs.drop el).take R.length++N, ?_, ?_, ?_, ?_, ?_, ?_,hb, ?_⟩) ⟨?_,rfl, ?_, ?_,.inr (.inr (Nat.le_refl _)),rfl,rfl⟩⟩
   ·simp
   ·rw [A0,Ew,AK rfl]
   ·rw [hrow];simp
   ·rw [hrow,List.drop_zero,List.take_length]
   ·simp
   ·simp [AH.alloc,AH.kill]
   ·simpa using hlen
   ·simp [AH.alloc,AH.kill]
   ·intro i hi;rw [A0,Ew,An (by omega),Fw,An (by omega)]
   ·intro i hi hne
    rw [A0,Ew,An (by omega),Fw,An (by rcases hne with hne | hne;cases hne;exact hne)]
theorem Sl.rows {b:Nat} {h:AH} {sz:Nat} {v:V} {R:List (List V)} (s:Sl b h sz v R):El sz h v=some R:=by
 rcases s with ⟨hv,rfl⟩ | ⟨id,el,cap,k,rfl,hg,hc,hrow,hcap,_⟩
 ·rcases hv with rfl | rfl<;>rfl
 ·rw [Kr,hg,TA (by omega),hrow]
theorem Sl.of_get {b sz:Nat} {h h':AH} {v:V} {R:List (List V)} {j:Nat} {r:List V} (s:Sl b h sz v R) (hj:j<R.length) (hn:h.next≤h'.next) (hg:h'.get (Aq v)=some ⟨sz,(AU h v).set (CU v+j) r⟩):Sl b h' sz v (R.set j r):=by
 rcases s with ⟨hv,rfl⟩ | ⟨id,el,cap,cs,rfl,hg0,hc,hrow,hcap,hlt',hbi,hbig⟩
 ·simp at hj
 ·refine .inr ⟨id,el,cap,cs.set (el+j) r,by simp, ?_,by simpa using hc, ?_,by simpa using hcap,Nat.lt_of_lt_of_le hlt' hn,hbi,by simpa using hbig⟩
  ·simpa [Aq,CU,AU,hg0] using hg
  ·simp only [List.length_set]
   rw [List.drop_set,if_neg (by omega),Nat.add_sub_cancel_left,List.take_set,hrow]
theorem Sl.setT {α:Type} {enc:α→List V} {b sz:Nat} {h h':AH} {v:V} {L:List α} {j:Nat} {x:α} (s:Sl b h sz v (L.map enc)) (hj:j<L.length) (hn:h.next≤h'.next) (hg:h'.get (Aq v)=some ⟨sz,(AU h v).set (CU v+j) (enc x)⟩):Sl b h' sz v ((L.set j x).map enc):=by
 have:=Sl.of_get (r:=enc x) s (j:=j) (by simpa using hj) hn hg
 simpa [List.map_set] using this
theorem Sl.rowlt {b sz:Nat} {h:AH} {v:V} {R:List (List V)} {j:Nat} (s:Sl b h sz v R) (hj:j<R.length):CU v+j<(AU h v).length:=by
 rcases s with ⟨hv,rfl⟩ | ⟨id,el,cap,cs,rfl,hg,hc,hrow,hcap,hlt',_⟩
 ·simp at hj
 ·simp only [CU,AU,Aq,hg];omega
theorem I5 {α:Type} {l:List α} {i:Nat} {a:α} (h:i<l.length):(l.set i a)[i]?=some a:=by simp [h]
def BM (v:V) (n:Nat):V:=match v with | .sl id el _ cap=>.sl id el n cap | v=>v
theorem F1 {v:V} {n:Nat}:Aq (BM v n)=Aq v:=by cases v<;>rfl
theorem OG {v:V} {n:Nat}:CU (BM v n)=CU v:=by cases v<;>rfl
theorem I8 {v:V} {n:Nat}:(BM v n).isCell=v.isCell:=by cases v<;>rfl
theorem Ee {v:V} {n:Nat} (h:v.cells=[v]):(BM v n).cells=[BM v n]:=by cases v<;>first | rfl | (simp [BM];exact h)
theorem L8 {h:AH} {v:V} {n:Nat}:AU h (BM v n)=AU h v:=by cases v<;>rfl
theorem Sl.pre {b:Nat} {h:AH} {sz:Nat} {v:V} {R:List (List V)} (s:Sl b h sz v R) {k:IntKind} {j:Int} {cs:List (List V)} (h0:0≤j) (h1:j≤R.length):FI (some ⟨sz,cs⟩) sz v none (some (.i k j)) none=some (BM v j.toNat):=by
 rcases s with ⟨hv,rfl⟩ | ⟨id,el,cap,b,rfl,a,_,_,hc,_⟩
 ·simp at h1
  obtain rfl:j=0:=by omega
  rcases hv with rfl | rfl<;>simp [FI,Aw,BM]
 ·have h2:j≤cap:=by omega
  simp [FI,Aw,BM,h0,h2,hc]
theorem Sl.truncd {b:Nat} {h:AH} {sz:Nat} {v:V} {R:List (List V)} (s:Sl b h sz v R) {n:Nat} (hn:n≤R.length):Sl b h sz (BM v n) (R.take n):=by
 rcases s with ⟨hv,rfl⟩ | ⟨id,el,cap,b,rfl,a,c,d,hc,hlt,hbi,hb⟩
 ·exact .inl ⟨by rcases hv with rfl | rfl<;>simp [BM],by simp⟩
 ·refine .inr ⟨id,el,cap,b, ?_,a,c, ?_, ?_,hlt,hbi, ?_⟩
  ·simp [BM];omega
  ·have:(R.take n).length=n:=by simp;omega
   rw [this];conv=>rhs;rw [← d]
   rw [List.take_take];congr 1;omega
  ·simp;omega
  ·simp;omega
theorem FU {b sz : Nat} {h : AH} {v : V} {R : List (List V)} {k1 k2 : IntKind} {K : V → Prop} (s : Sl b h sz v R)
    (k:∀ v',Sl b h sz v' R→Aq v'=Aq v→K v'):Wo (FI (h.get (Aq v)) sz v none (some (.i k1 R.length)) (some (.i k2 R.length))) K:=by
 rcases s with ⟨hv,rfl⟩ | ⟨id,el,cap,cs,rfl,hg,hc,hrow,hcap,hlt',hbi,hbig⟩
 ·rcases hv with rfl | rfl
  ·exact ⟨_,rfl,k _ (.inl ⟨.inl rfl,rfl⟩) rfl⟩
  ·exact ⟨_,rfl,k _ (.inl ⟨.inr rfl,rfl⟩) rfl⟩
 ·simp only [FI,Aq,hg,Option.bind_some,Option.isSome_some,Bool.or_true]
  rw [if_pos ⟨trivial,trivial,hcap⟩]
  rw [QL (by omega) (by omega)]
  simp only [Option.bind_some,Int.toNat_natCast]
  rw [QL (by omega) (by omega)]
  simp only [Option.bind_some,Int.toNat_natCast,JH,Option.map_some]
  refine ⟨_,rfl,k _ (.inr ⟨id,el,R.length,cs, ?_,hg,by omega,hrow,Nat.le_refl _,hlt',hbi,hbig⟩) rfl⟩
  simp
theorem Ji {h:AH} {i:Nat} {a b:Bo}:(h.put i a).put i b=h.put i b:=by
 unfold AH.put
 congr 1
 funext j
 simp only
 split<;>rfl
theorem Q9:AH.emp.next=0:=Ag rfl
theorem GM:AH.emp.lim=0:=Ag rfl
theorem V3 {i:Nat}:AH.emp.get i=none:=Ag rfl
theorem Ra {l:List V} {j:Nat}:DS l j=(l[j]?).getD .u:=by simp [DS]
theorem Tk {r:List V} {i:Nat}:over r i []=r:=Ag rfl
theorem Pa {r:List V} {i:Nat} {c:V} {cs:List V}:over r i (c::cs)=over (r.set i c) (i+1) cs:=Ag rfl
theorem OJ {r:List V}:DB r []=some r:=Ag rfl
theorem Mf {r:List V} {off n:Nat} {v:V} {ps:List (Nat×Nat×V)}:DB r ((off,n,v)::ps)=if v.cells.length=n∧off+n≤r.length∧v.cells.all V.isCell=true then DB (over r off v.cells) ps else none:=Ag rfl
theorem OI {sz:Nat} {r:List (List V)}:BF sz r []=some r:=Ag rfl
theorem Me {sz j:Nat} {r:List (List V)} {v:V} {ps:List (Nat×V)}:BF sz r ((j,v)::ps)=if v.cells.length=sz∧j<r.length∧v.cells.all V.isCell=true then BF sz (r.set j v.cells) ps else none:=Ag rfl
theorem AN {tp:TP} {f:Nat} {args:List V} {R:V} {tf:TF} (hf:tp.fn f=some tf) (hl:args.length≤tf.n) (z:ES args→ZC tp tf.body (DS args) AH.emp (fun x e h=>GG tf.res x e h (fun r h'=>CW (fun _=>True) h' 0 r R))):Pf tp f args R:=oS hf hl z
theorem Ad {tp:TP} {f:Nat} {args:List V} {h:AH} {K:V→AH→Prop} {tf:TF} (hf:tp.fn f=some tf) (hl:args.length≤tf.n) (z:Wf h→ES args→ZC tp tf.body (DS args) h (fun x e h2=>GG tf.res x e h2 K)):Cq tp f args h K:=ZR hf hl z
structure Upd (h:AH) (id:Nat) (k:Bo) (h':AH):Prop where
 next:h.next≤h'.next
 lim:h'.lim=h.lim
 here:h'.get id=some k
 get:∀ i,i<h.next→i≠id→h'.get i=h.get i
theorem DK.ext {h h3:AH} {r R:V} (wf:Wf h) (x:Am h h3) (fr:CW (h.next≤·) h3 h.next r R):DK h h3 r (h.next≤·) R h:=
 ⟨Nat.le_refl _,rfl,x.next,fun i k hk=>⟨(wf.2 i k hk).1,Nat.not_le_of_lt (wf.2 i k hk).1,k.cs,by rw [x.get i (wf.2 i k hk).1];exact hk,(wf.2 i k hk).2 _ _⟩,fr⟩
theorem GL {tp:TP} {f:Nat} {args:List V} {h:AH} {K:V→AH→Prop} {R:V} {tf:TF} (hf:tp.fn f=some tf) (hl:args.length≤tf.n) (k:K R h) (z:h.lim≤h.next→ES args→ZC tp tf.body (DS args) h (fun x e h2=>GG tf.res x e h2 (fun r h3=>CW (h.next≤·) h3 h.next r R∧Am h h3))):Cq tp f args h K:=
 oM hf hl fun wf rp=>D5 (fun x e h2 q=>by
  cases x with
  | ex _=>exact q
  | nm=>obtain ⟨v,hv,fr,x⟩:=q;exact ⟨v,hv,_,_,_,DK.ext wf x fr,k⟩
  | rt=>obtain ⟨v,hv,fr,x⟩:=q;exact ⟨v,hv,_,_,_,DK.ext wf x fr,k⟩) (z wf.1 rp)
attribute [go_sem ↓] Vd gQ Vc gP Vb Va Qn gR Qo Qp gT hX hU QF hG hJ aFR UL Qf UN aDX aDW aDV aDU mP mQ mO Be A2
attribute [go_sem] iD iE iC AJ AE Fj
attribute [go_sem ↓] aD4 U6 GZ LS Qh LT IS UW LQ UV aD1 IT Ql gD U2 Qm gN gC gE Qk UY Qj Qi UZ UQ UR UP US aD6 UX U9 gI LU LR U4 U3 U5 UU G1 Ob gG gH gJ U0 gK U7 gF gB gM U8 U1 aD3 aD5 gO aD2
attribute [go_sem] Nd gL
attribute [go_sem ↓] Oc Vf Vg Vh Vi Vj Qr Ve Od Qs Qt gU gV Vk Vl Vm Oe Vn Vo Qu Vp Vq Vr Qv Qw Qx Qy Qz QA Qq gW gX gY Vs QB Vt QC QD Og LV Oh QE Vu gZ
attribute [go_sem ↓] Env.set_get
attribute [go_sem] Env.set_none aFV aEc aEb aEd aEg aEh aEe aEf iL Zu Tn Tm To Pg Ph Pd Pe
attribute [go_sem] AK An A0 Ah Fw OL Rx Aa Ae Ew Hr O8 Bn GP S0 Is SZ Q9 GM V3
attribute [go_sem ↓] Gb E7
attribute [go_sem] UM fY Jn H6 Ku Jm
attribute [go_sem] aD7 aD8 aEz mH SX iI MS sameVa_sl TR Pu TN TQ TM Xi TL Xg Xh S4 S1 aD0 UT mL WI S9 mJ mK OD VY Xp lW TG TH TE Xe Kr MM Vy Vz VA aDY aDZ Xm TU nO iS V7 Rl Wk Wl Wn SJ SK Xj Ri Wy Ww Wz Wx Xn Px Ie O2 mD iM aEs
attribute [go_sem] VE VP VL VN VO VF iB VG VM VK VJ VI VH QJ QK oC oB aEB aEA Rv OK aF8 aFS aGa aEt JH QL Oq VV VT VX QU QT VW QS QO QP QN QQ QR VU Ot SQ SN SS OX OW SR OV OQ OS OP OT OU SO Ms w64 FY Vv Vw Xa Xb Xc Pn VS Ty Pl Pm
attribute [go_sem] aFX iQ V4 Rd aEj aEi aEk
attribute [go_sem] List.length_cons List.length_nil List.getElem?_cons_zero List.getElem?_cons_succ List.getElem?_nil List.drop_zero List.drop_succ_cons List.drop_nil List.take_succ_cons List.take_zero List.take_nil List.map_cons List.map_nil List.all_cons List.all_nil List.set_cons_zero List.set_cons_succ List.cons_append List.nil_append List.append_nil List.length_map WN
attribute [go_sem] oO oN oP ZU ZW ZT ZV Uy Ux PP N2 Int.reduceLE Int.reduceLT Int.reduceEq Int.reduceAdd Int.reduceSub Int.reduceToNat
attribute [go_sem] Nat.zero_add Nat.add_zero and_true true_and decide_true decide_false not_true_eq_false not_false_eq_true Bool.not_true Bool.not_false Bool.and_true Bool.true_and Bool.and_false Bool.false_and Int.toNat_natCast Option.map_some Option.map_none Option.bind_some Nat.zero_le Nat.le_refl List.take_length Nat.sub_zero Nat.sub_self
attribute [go_sem ↓] reduceIte
attribute [go_sem] Nat.reduceEqDiff Nat.reduceAdd Nat.reduceSub Nat.reduceLeDiff Nat.reduceLT List.reduceReplicate Nat.reduceMul Int.reduceNeg reduceCtorEq
attribute [go_sem] Ra Option.getD_some Option.getD_none Tk Pa OJ Mf OI Me
theorem H3 {α:Type} {l:List α} {i j:Nat} {a:α} (h:¬ i=j):(l.set i a)[j]?=l[j]?:=List.getElem?_set_ne h
attribute [go_sem] I5 H3 List.set_set List.length_set
attribute [go_sem] Ji L8 F1 OG I8
attribute [go_sem] Int.natCast_add Int.natCast_one Int.natCast_zero Int.add_sub_cancel Int.sub_add_cancel Nat.add_sub_cancel
attribute [go_sem] aED aEF aEG nH nL nG nK nJ nI aEH W4 W6 aEE W5 Tv Pj
abbrev On (o:O):TO:=⟨none,o,none⟩
abbrev Of (d f s:Nat):TO:=⟨some d,.fad f (.t s),none⟩
end Go.Ab
