/- Part of a proof that a law returns true for every input of the second form's bound (no other condition). -/
import Derived.IntWalk
import Derived.Test.YtcjjajphbamjlaaGreatPC
set_option linter.all false
/- Conditions ahead of code over values that stay; what they say of the abstract machine; functions by what they answer. -/
namespace Go.Ab
open Go
def AH.emp:AH:=⟨fun _=>none,0,0⟩
def EP (S:Nat→Prop) (m:Nat→Nat) (h hc:AH) (e e1:Env):Prop:=∀ t,PR S m hc.get h.next (e t) (e1 t)
section
variable (tp:TP)
def Cq (f:Nat) (args:List V) (h:AH) (Q:V→AH→Prop) (t:Fz Q:=.mk):Prop:=
 ∀ S m hc args1,De S m h hc→BN S m hc.get h.next args args1→Ev tp f args1 hc (fun r1 hc'=>∃ r h' S' m',De S' m' h' hc'∧FQ S m h hc S' m' h' hc'∧PR S' m' hc'.get h'.next r r1∧Q r h')
def Pf (f:Nat) (args:List V) (R:V):Prop:=Cq tp f args AH.emp (fun r h'=>r=R∧h'=AH.emp)
def SB (neg:Bool) (v w:V) (h:AH) (K:V→AH→Prop):Prop:=match v,w with
 | .fl _ xs,.ns=>∀ t:Bool,(xs≠[]→t=false)→K (.b (if neg then !t else t)) h
 | v,w=>Wo (Gl .sl v w) (fun r=>K (.b (if neg then !r else r)) h)
def z1 (o:O) (e:Env) (h:AH) (K:V→AH→Prop):Prop:=match o with
 | .eq neg .sl a b=>SB neg (a.e2 e) (b.e2 e) h K
 | .call f l=>Wo (callee tp (.call f l) (X.e2 e)) (fun c=>Cq tp c.1 c.2 h K)
 | .inv x m l=>Wo (callee tp (.inv x m l) (X.e2 e)) (fun c=>Cq tp c.1 c.2 h K)
 | o=>Wo (BM o (X.e2 e) h) (fun z=>K z.1 z.2)
def Lx:List TO→Env→AH→(Env→AH→Prop)→Prop
 | [],e,h,K=>K e h
 | o::r,e,h,K=>match AP e o.g with
  | some true=>z1 tp o.o e h (fun v h=>Lx r (e.set o.d v) h K)
  | some false=>Lx r (e.set o.d (.tup [])) h K
  | none=>False
def zq1 (o:O) (e:Env) (h:AH) (K:V→AH→Prop):Prop:=if AR o=true then z1 tp o e h K else z1 tp o e h.raise (fun v h'=>K v (h'.back h.lim))
def zq:List TO→Env→AH→(Env→AH→Prop)→Prop
 | [],e,h,K=>K e h
 | o::r,e,h,K=>match AP e o.g with
  | some true=>zq1 tp o.o e h (fun v h=>zq r (e.set o.d v) h K)
  | some false=>zq r (e.set o.d (.tup [])) h K
  | none=>False
def zs:List (Bool×List TO)→Env→AH→(Env→AH→Prop)→Prop
 | [],e,h,K=>K e h
 | (true,l)::r,e,h,K=>zq tp l e h (fun e h=>zs r e h K)
 | (false,l)::r,e,h,K=>Lx tp l e h (fun e h=>zs r e h K)
def Stp (e:Env) (h:AH) (e2:Env) (h2:AH):Prop:=∀ S m hc e1,De S m h hc→EP S m h hc e e1→∃ S',De S' m h2 hc∧FQ S m h hc S' m h2 hc∧EP S' m h2 hc e2 e1
def zc:TC→Env→AH→(Ex→Env→AH→Prop)→Prop
 | .skip,e,h,K=>K .nm e h
 | .ret,e,h,K=>K .rt e h
 | .exit id,e,h,K=>K (.ex id) e h
 | .reg ops,e,h,K=>Lx tp ops e h (fun e h=>K .nm e h)
 | .dreg segs,e,h,K=>zs tp segs e h (fun e h=>K .nm e h)
 | .cond c a b,e,h,K=>Wb (c.e2 e) (zc a e h K) (zc b e h K)
 | .block id c,e,h,K=>zc c e h (fun x e h=>K (blk id x) e h)
 | .seq a b,e,h,K=>zc a e h (fun x e h=>UV x (zc b e h K) (K x e h))
 | .loop c,e,h,K=>∀ I:Env→AH→Prop,(∀ e h,zc c e h (fun x e h=>UV x (I e h) (K x e h))→I e h)→(∀ e h e2 h2,Stp e h e2 h2→I e2 h2→I e h)→I e h
variable {tp}
theorem SD {o:O} {e:Env} {h:AH} {K L:V→AH→Prop} (kl:∀ v h,K v h→L v h) (z:z1 tp o e h K):z1 tp o e h L:=by
 unfold z1 at z ⊢
 split at z
 ·unfold SB at z ⊢
  split at z
  ·exact fun t ht=>kl _ _ (z t ht)
  ·obtain ⟨a,ha,z⟩:=z;exact ⟨a,ha,kl _ _ z⟩
 ·obtain ⟨c,hc,z⟩:=z
  refine ⟨c,hc,fun S m hc args1 p q=>(z S m hc args1 p q).imp ?_⟩
  rintro v h' ⟨r,h2,S',m',a,b,c,d⟩;exact ⟨r,h2,S',m',a,b,c,kl _ _ d⟩
 ·obtain ⟨c,hc,z⟩:=z
  refine ⟨c,hc,fun S m hc args1 p q=>(z S m hc args1 p q).imp ?_⟩
  rintro v h' ⟨r,h2,S',m',a,b,c,d⟩;exact ⟨r,h2,S',m',a,b,c,kl _ _ d⟩
 ·obtain ⟨a,ha,z⟩:=z;exact ⟨a,ha,kl _ _ z⟩
theorem Ir:∀ {l:List TO} {e:Env} {h:AH} {K L:Env→AH→Prop},(∀ v h,K v h→L v h)→Lx tp l e h K→Lx tp l e h L
 | [],_,_,_,_,kl,z=>kl _ _ z
 | o::r,e,h,K,L,kl,z=>by
  simp only [Lx] at z ⊢
  split at z
  ·exact SD (fun _ _=>Ir kl) z
  ·exact Ir kl z
  ·exact z
theorem Ng:∀ {l:List TO} {e:Env} {h:AH} {K L:Env→AH→Prop},(∀ v h,K v h→L v h)→zq tp l e h K→zq tp l e h L
 | [],_,_,_,_,kl,z=>kl _ _ z
 | o::r,e,h,K,L,kl,z=>by
  simp only [zq] at z ⊢
  split at z
  ·unfold zq1 at z ⊢
   split at z
   ·rename_i hp;rw [if_pos hp];exact SD (fun _ _=>Ng kl) z
   ·rename_i hp;rw [if_neg hp];exact SD (fun _ _=>Ng kl) z
  ·exact Ng kl z
  ·exact z
theorem SE:∀ {l:List (Bool×List TO)} {e:Env} {h:AH} {K L:Env→AH→Prop},(∀ v h,K v h→L v h)→zs tp l e h K→zs tp l e h L
 | [],_,_,_,_,kl,z=>kl _ _ z
 | (true,l)::r,e,h,K,L,kl,z=>Ng (fun _ _=>SE kl) z
 | (false,l)::r,e,h,K,L,kl,z=>Ir (fun _ _=>SE kl) z
theorem MV {x:Ex} {A B C D:Prop} (ac:A→C) (bd:B→D) (z:UV x A B):UV x C D:=by
 cases x<;>first | exact ac z | exact bd z
theorem E9:∀ {c:TC} {e:Env} {h:AH} {K L:Ex→Env→AH→Prop},(∀ x v h,K x v h→L x v h)→zc tp c e h K→zc tp c e h L
 | .skip,_,_,_,_,kl,z=>kl _ _ _ z
 | .ret,_,_,_,_,kl,z=>kl _ _ _ z
 | .exit _,_,_,_,_,kl,z=>kl _ _ _ z
 | .reg ops,_,_,_,_,kl,z=>Ir (fun _ _=>kl _ _ _) z
 | .dreg segs,_,_,_,_,kl,z=>SE (fun _ _=>kl _ _ _) z
 | .cond c a b,e,h,K,L,kl,z=>by
  simp only [zc,Wb] at z ⊢
  split at z
  ·exact E9 kl z
  ·exact E9 kl z
  ·exact z
 | .block id c,_,_,_,_,kl,z=>E9 (c:=c) (fun _ _ _=>kl _ _ _) z
 | .seq a b,_,_,_,_,kl,z=>E9 (c:=a) (fun x _ _=>MV (E9 kl) (kl _ _ _)) z
 | .loop c,_,_,_,_,kl,z=>fun I hI hS=>z I (fun e h q=>hI e h (E9 (c:=c) (fun x _ _=>MV id (kl _ _ _)) q)) hS
/-! ### What it says of the abstract machine -/
section
variable {S:Nat→Prop} {m:Nat→Nat} {h hc:AH}
theorem De.raise (c:De S m h hc):De S m h.raise hc.raise:=
 ⟨c.blk,c.inj,c.off,c.low,fun i hi hl=>by
  obtain ⟨k,hk⟩:=Option.ne_none_iff_exists'.1 hi
  have:=(c.blk i k hk).1
  have:h.next≤i:=hl
  omega,Nat.le_refl _,Nat.le_refl _⟩
theorem De.back {S':Nat→Prop} {m':Nat→Nat} {h' hc':AH} (c:De S m h hc) (c':De S' m' h' hc') (a:FQ S m h.raise hc.raise S' m' h' hc'):De S' m' (h'.back h.lim) (hc'.back hc.lim)∧FQ S m h hc S' m' (h'.back h.lim) (hc'.back hc.lim):=by
 refine ⟨⟨c'.blk,c'.inj,c'.off,c'.low,fun i hi hl=>?_,Nat.le_trans c.bnd a.next1,Nat.le_trans c.bnd2 a.next2⟩,⟨a.sub,a.new,a.map,a.next2,a.next1,rfl,rfl,a.frame,a.liv⟩⟩
 rcases a.liv i hi with ⟨h1,h2⟩ | h1
 ·rw [a.map i h1];exact c.lim i h2 hl
 ·exact Nat.le_trans c.bnd h1
theorem EP.mono {S':Nat→Prop} {m':Nat→Nat} {h' hc':AH} {e e1:Env} (c:De S m h hc) (a:FQ S m h hc S' m' h' hc') (p:EP S m h hc e e1):EP S' m' h' hc' e e1:=fun t=>(p t).mono (a.mon c)
theorem EP.set {e e1:Env} {v v1:V} (p:EP S m h hc e e1) (q:PR S m hc.get h.next v v1) (d:Option Nat):EP S m h hc (e.set d v) (e1.set d v1):=by
 intro t
 cases d with
 | none=>exact p t
 | some d=>simp only [Env.set];split;exact q;exact p t
theorem JP {e e1:Env} (p:EP S m h hc e e1) {g:Option (Nat×Bool)} {b:Bool} (hw:AP e g=some b):AP e1 g=some b:=by
 unfold AP at hw ⊢
 split at hw
 ·exact hw
 ·rename_i t x
  have q:=p t
  split at hw
  ·rename_i y hy
   rw [hy] at q
   cases hq:e1 t<;>rw [hq] at q<;>cases q
   exact hw
  ·rename_i hy
   rw [hy] at q
   cases hq:e1 t<;>rw [hq] at q<;>cases q
   rename_i q
   cases q
   exact hw
  ·simp at hw
def rS (S:Nat→Prop) (m:Nat→Nat) (h hc:AH) (K:V→AH→Prop) (v1:V) (hc':AH):Prop:=∃ v h' S' m',De S' m' h' hc'∧FQ S m h hc S' m' h' hc'∧PR S' m' hc'.get h'.next v v1∧K v h'
def Dy (S:Nat→Prop) (m:Nat→Nat) (h hc:AH) (K:Env→AH→Prop) (e1:Env) (hc':AH):Prop:=∃ e h' S' m',De S' m' h' hc'∧FQ S m h hc S' m' h' hc'∧EP S' m' h' hc' e e1∧K e h'
theorem LH {e e1:Env} (p:EP S m h hc e e1) {o:O} {f:Nat} {args:List V} (hk:callee tp o (X.e2 e)=some (f,args)):∃ args1,callee tp o (X.ev e1)=some (f,args1)∧BN S m hc.get h.next args args1:=by
 have all:∀ l:List X,BN S m hc.get h.next (l.map (X.e2 e)) (l.map (X.ev e1)):=fun l=>by
  induction l with
  | nil=>exact .nil _
  | cons a l ih=>exact .cons _ _ _ _ _ (Nm p a) ih
 unfold callee at hk ⊢
 split at hk
 ·rename_i x l
  have q:=Nm p x
  split at hk
  ·rename_i g a b hx
   rw [hx] at q
   simp only [Option.some.injEq,Prod.mk.injEq] at hk
   obtain ⟨rfl,rfl⟩:=hk
   cases hq:X.ev e1 x<;>rw [hq] at q<;>cases q
   rename_i q1 q2
   exact ⟨_,rfl,(q1.app (all l)).app q2⟩
  ·simp at hk
 ·rename_i x mm l
  have q:=Nm p x
  split at hk
  ·rename_i t v hx
   rw [hx] at q
   cases hq:X.ev e1 x<;>rw [hq] at q<;>cases q
   rename_i q1
   simp only [Option.bind_eq_some_iff] at hk ⊢
   obtain ⟨mt,hmt,hk⟩:=hk
   split at hk
   ·rename_i ha
    simp only [Option.some.injEq,Prod.mk.injEq] at hk
    obtain ⟨rfl,rfl⟩:=hk
    refine ⟨_,⟨mt,hmt, ?_⟩,.cons _ _ _ _ _ q1 (all l)⟩
    simp only [ha]
   ·rename_i j ha
    split at hk
    ·simp only [Option.map_eq_some_iff,Prod.mk.injEq] at hk
     obtain ⟨r,hr,rfl,rfl⟩:=hk
     cases q1
     rename_i q1
     obtain ⟨r',h1,h2⟩:=q1.get _ _ hr
     refine ⟨r'::l.map (X.ev e1),⟨mt,hmt, ?_⟩,.cons _ _ _ _ _ h2 (all l)⟩
     simp only [ha,h1,Option.map_some]
    ·simp at hk
  ·simp at hk
 ·simp at hk
theorem dS (c:De S m h hc) {e e1:Env} (p:EP S m h hc e e1) {o:O} {K:V→AH→Prop} (z:z1 tp o e h K):W1 tp o e1 hc (rS S m h hc K):=by
 unfold z1 at z
 split at z
 ·rename_i neg a b
  have pa:=Nm p a
  have pb:=Nm p b
  rw [sW (fun C=>rfl)]
  simp only [Af]
  rw [BH]
  unfold SB at z
  split at z
  ·rename_i s xs ha hb
   rw [ha] at pa;rw [hb] at pb
   cases hb':X.ev e1 b<;>rw [hb'] at pb<;>cases pb
   have key:∀ t:Bool,(xs≠[]→t=false)→Gl .sl (X.ev e1 a) .ns=some t→Wo (Gl .sl (X.ev e1 a) .ns) (fun r=>rS S m h hc K (.b (if neg=true then !r else r)) hc):=by
    intro t ht he
    rw [he,AV]
    exact ⟨_,h,S,m,c,FQ.refl c,.b _ _,z t ht⟩
   cases ha':X.ev e1 a<;>rw [ha'] at pa key<;>cases pa
   ·exact key true (by simp) rfl
   ·exact key false (by simp) rfl
   ·exact key false (by simp) rfl
  ·obtain ⟨r,hr,z⟩:=z
   rw [XX hr pa pb,AV]
   exact ⟨_,h,S,m,c,FQ.refl c,.b _ _,z⟩
 ·obtain ⟨⟨f,args⟩,hk,z⟩:=z
  obtain ⟨args1,hk1,q⟩:=LH p hk
  rw [eP,hk1,AV]
  exact z S m hc args1 c q
 ·obtain ⟨⟨f,args⟩,hk,z⟩:=z
  obtain ⟨args1,hk1,q⟩:=LH p hk
  rw [aEu,hk1,AV]
  exact z S m hc args1 c q
 ·rename_i hn0 hn1 hn2
  obtain ⟨⟨v,h'⟩,hd,z⟩:=z
  obtain ⟨v1,hc',S',m',h1,h2,h3,h4⟩:=aFr c (Nm p) hd
  rw [sW (fun C=>by unfold A3;split<;>first | rfl | (exact absurd rfl (hn1 _ _)) | (exact absurd rfl (hn2 _ _ _))),h1,AV]
  exact ⟨v,h',S',m',h2,h3,h4,z⟩
theorem Dy.then {S':Nat→Prop} {m':Nat→Nat} {h' hc':AH} (a:FQ S m h hc S' m' h' hc') {K:Env→AH→Prop} {e1:Env} {hq:AH} (z:Dy S' m' h' hc' K e1 hq):Dy S m h hc K e1 hq:=by
 obtain ⟨e,h2,S2,m2,c2,a2,p,k⟩:=z
 exact ⟨e,h2,S2,m2,c2,a.trans a2,p,k⟩
end
theorem Jv.imp {l:List TO} {e:Env} {h:AH} {Q R:Env→AH→Prop} (w:Jv tp l e h Q) (qr:∀ e h,Q e h→R e h):Jv tp l e h R:=by
 obtain ⟨k,e',h',he,q⟩:=w;exact ⟨k,e',h',he,qr _ _ q⟩
theorem WQ.imp {l:List TO} {e:Env} {h:AH} {Q R:Env→AH→Prop} (w:WQ tp l e h Q) (qr:∀ e h,Q e h→R e h):WQ tp l e h R:=by
 obtain ⟨k,e',h',he,q⟩:=w;exact ⟨k,e',h',he,qr _ _ q⟩
theorem WS.imp {l:List (Bool×List TO)} {e:Env} {h:AH} {Q R:Env→AH→Prop} (w:WS tp l e h Q) (qr:∀ e h,Q e h→R e h):WS tp l e h R:=by
 obtain ⟨k,e',h',he,q⟩:=w;exact ⟨k,e',h',he,qr _ _ q⟩
theorem W1.imp {o:O} {e:Env} {h:AH} {Q R:V→AH→Prop} (w:W1 tp o e h Q) (qr:∀ v h,Q v h→R v h):W1 tp o e h R:=by
 obtain ⟨k,e',h',he,q⟩:=w;exact ⟨k,e',h',he,qr _ _ q⟩
theorem JR:∀ (l:List TO) {S:Nat→Prop} {m:Nat→Nat} {h hc:AH} {e e1:Env} {K:Env→AH→Prop},De S m h hc→EP S m h hc e e1→Lx tp l e h K→Jv tp l e1 hc (Dy S m h hc K)
 | [],S,m,h,hc,e,e1,K,c,p,z=>by rw [WD];exact ⟨e,h,S,m,c,FQ.refl c,p,z⟩
 | ⟨d,o,g⟩::r,S,m,h,hc,e,e1,K,c,p,z=>by
  simp only [Lx] at z
  split at z
  ·rename_i hw
   rw [WE (JP p hw)]
   refine (dS c p z).imp ?_
   rintro v1 hc' ⟨v,h',S',m',c',a',q,z⟩
   exact (JR r c' ((p.mono c a').set q d) z).imp fun _ _=>Dy.then a'
  ·rename_i hw
   rw [TR (JP p hw)]
   exact JR r c (p.set (.tup _ _ _ (.nil _)) d) z
  ·exact z.elim
theorem TL:∀ (l:List TO) {S:Nat→Prop} {m:Nat→Nat} {h hc:AH} {e e1:Env} {K:Env→AH→Prop},De S m h hc→EP S m h hc e e1→zq tp l e h K→WQ tp l e1 hc (Dy S m h hc K)
 | [],S,m,h,hc,e,e1,K,c,p,z=>by rw [aEx];exact ⟨e,h,S,m,c,FQ.refl c,p,z⟩
 | ⟨d,o,g⟩::r,S,m,h,hc,e,e1,K,c,p,z=>by
  simp only [zq] at z
  split at z
  ·rename_i hw
   rw [aEy (JP p hw)]
   unfold WQ1
   unfold zq1 at z
   split at z
   ·rename_i hp
    rw [if_pos hp]
    refine ⟨?_,(dS c p z).imp ?_⟩
    ·cases o<;>try rfl
     rename_i sz x i
     simp only [z1,BM] at z
     obtain ⟨w,hw,_⟩:=z
     simp only [Option.map_eq_some_iff] at hw
     obtain ⟨v,hv,_⟩:=hw
     have q:=Nm p x
     simp only [Ja]
     split
     ·rename_i id el len cap hx
      rw [hx] at q
      unfold kZ at hv
      split at hv
      ·rename_i k hk hb
       rw [hk] at q
       cases q
       simp only [hk,Nq] at hb
       obtain ⟨_,_,cs,hcs,_⟩:=c.blk _ _ hb
       rw [hcs];rfl
      ·rename_i s xs _ hk
       rw [hk] at q
       cases q
       simp only [*];rfl
      ·simp at hv
     ·rfl
    ·rintro v1 hc' ⟨v,h',S',m',c',a',q,z⟩
     exact (TL r c' ((p.mono c a').set q d) z).imp fun _ _=>Dy.then a'
   ·rename_i hp
    rw [if_neg hp]
    have p':EP S m h.raise hc.raise e e1:=p
    refine (dS c.raise p' z).imp ?_
    rintro v1 hc' ⟨v,h',S',m',c',a',q,z⟩
    obtain ⟨c2,a2⟩:=c.back c' a'
    exact (TL r c2 ((p.mono c a2).set q d) z).imp fun _ _=>Dy.then a2
  ·rename_i hw
   rw [eV (JP p hw)]
   exact TL r c (p.set (.tup _ _ _ (.nil _)) d) z
  ·exact z.elim
theorem dT:∀ (l:List (Bool×List TO)) {S:Nat→Prop} {m:Nat→Nat} {h hc:AH} {e e1:Env} {K:Env→AH→Prop},De S m h hc→EP S m h hc e e1→zs tp l e h K→WS tp l e1 hc (Dy S m h hc K)
 | [],S,m,h,hc,e,e1,K,c,p,z=>by rw [aEA];exact ⟨e,h,S,m,c,FQ.refl c,p,z⟩
 | (true,l)::r,S,m,h,hc,e,e1,K,c,p,z=>by
  rw [WF]
  refine (TL l c p z).imp ?_
  rintro e1' hc' ⟨e',h',S',m',c',a',p',z⟩
  exact (dT r c' p' z).imp fun _ _=>Dy.then a'
 | (false,l)::r,S,m,h,hc,e,e1,K,c,p,z=>by
  rw [aEz]
  refine (JR l c p z).imp ?_
  rintro e1' hc' ⟨e',h',S',m',c',a',p',z⟩
  exact (dT r c' p' z).imp fun _ _=>Dy.then a'
theorem GD:∀ (cd:TC) {S:Nat→Prop} {m:Nat→Nat} {h hc:AH} {e e1:Env} {K:Ex→Env→AH→Prop},De S m h hc→EP S m h hc e e1→zc tp cd e h K→WC tp cd e1 hc (fun x=>Dy S m h hc (K x))
 | .skip,S,m,h,hc,e,e1,K,c,p,z=>by rw [eU];exact ⟨e,h,S,m,c,FQ.refl c,p,z⟩
 | .ret,S,m,h,hc,e,e1,K,c,p,z=>by rw [aEw];exact ⟨e,h,S,m,c,FQ.refl c,p,z⟩
 | .exit id,S,m,h,hc,e,e1,K,c,p,z=>by rw [eS];exact ⟨e,h,S,m,c,FQ.refl c,p,z⟩
 | .reg ops,S,m,h,hc,e,e1,K,c,p,z=>by rw [aEv];exact JR ops c p z
 | .dreg segs,S,m,h,hc,e,e1,K,c,p,z=>by rw [eR];exact dT segs c p z
 | .cond q a b,S,m,h,hc,e,e1,K,c,p,z=>by
  rw [eQ]
  have r:=Nm p q
  simp only [zc,Wb] at z
  split at z
  ·rename_i hx;rw [hx] at r;cases hq:X.ev e1 q<;>rw [hq] at r<;>cases r;exact GD a c p z
  ·rename_i hx;rw [hx] at r;cases hq:X.ev e1 q<;>rw [hq] at r<;>cases r;exact GD b c p z
  ·exact z.elim
 | .block id cd,S,m,h,hc,e,e1,K,c,p,z=>by rw [WA];exact GD cd c p z
 | .seq a b,S,m,h,hc,e,e1,K,c,p,z=>by
  rw [WB]
  refine (GD a c p z).imp ?_
  rintro x e1' hc' ⟨e',h',S',m',c',a',p',z⟩
  cases x with
  | nm=>exact (GD b c' p' z).imp fun _ _ _=>Dy.then a'
  | ex j=>exact ⟨e',h',S',m',c',a',p',z⟩
  | rt=>exact ⟨e',h',S',m',c',a',p',z⟩
 | .loop cd,S,m,h,hc,e,e1,K,c,p,z=>by
  refine z (fun e h=>∀ S m hc e1,De S m h hc→EP S m h hc e e1→WC tp (.loop cd) e1 hc (fun x=>Dy S m h hc (K x))) ?_ ?_ S m hc e1 c p
  rotate_left
  ·intro e h e2 h2 st q S m hc e1 c p
   obtain ⟨S',c',a',p'⟩:=st S m hc e1 c p
   exact (q S' m hc e1 c' p').imp fun _ _ _=>Dy.then a'
  intro e h q S m hc e1 c p
  refine eT ((GD cd c p q).imp ?_)
  rintro x e1' hc' ⟨e',h',S',m',c',a',p',z⟩
  cases x with
  | nm=>exact (z S' m' hc' e1' c' p').imp fun _ _ _=>Dy.then a'
  | ex j=>exact ⟨e',h',S',m',c',a',p',z⟩
  | rt=>exact ⟨e',h',S',m',c',a',p',z⟩
/-! ### Functions -/
section
variable {S:Nat→Prop} {m:Nat→Nat} {h hc:AH}
theorem bB (c:De S m h hc) {e e1:Env} (p:EP S m h hc e e1):∀ {l:List RV} {vs:List V},Vd e h l=some vs→∃ vs1,Vd e1 hc l=some vs1∧BN S m hc.get h.next vs vs1
 | [],vs,hv=>by simp [Vd] at hv;subst hv;exact ⟨[],rfl,.nil _⟩
 | r::l,vs,hv=>by
  simp only [Vd,Option.bind_eq_some_iff,Option.map_eq_some_iff] at hv ⊢
  obtain ⟨v,h1,ws,h2,rfl⟩:=hv
  obtain ⟨ws1,h3,h4⟩:=bB c p h2
  have:∃ v1,Sj e1 hc r=some v1∧PR S m hc.get h.next v v1:=by
   cases r with
   | t n=>simp [Sj] at h1 ⊢;subst h1;exact p n
   | cell n k agg=>
    have q:=p n
    simp only [Sj] at h1 ⊢
    split at h1
    ·rename_i id el off hx
     rw [hx] at q
     cases hq:e1 n<;>rw [hq] at q<;>cases q
     simp only [Option.bind_eq_some_iff] at h1
     obtain ⟨b,hb,row,hr,hcut⟩:=h1
     exact JG c hb hr hcut
    ·simp at h1
  obtain ⟨v1,h5,h6⟩:=this
  exact ⟨_,⟨v1,h5,ws1,h3,rfl⟩,.cons _ _ _ _ _ h6 h4⟩
theorem M6 (c:De S m h hc) {e e1:Env} (p:EP S m h hc e e1) {l:List RV} {v:V} (hv:BQ e h l=some v):∃ v1,BQ e1 hc l=some v1∧PR S m hc.get h.next v v1:=by
 simp only [BQ,Option.map_eq_some_iff] at hv ⊢
 obtain ⟨vs,h1,rfl⟩:=hv
 obtain ⟨vs1,h2,h3⟩:=bB c p h1
 refine ⟨_,⟨vs1,h2,rfl⟩, ?_⟩
 cases h3 with
 | nil=>exact .tup _ _ _ (.nil _)
 | cons _ v v' l l' q r=>
  cases r with
  | nil=>exact q
  | cons _ w w' l l' q' r=>exact .tup _ _ _ (.cons _ _ _ _ _ q (.cons _ _ _ _ _ q' r))
end
def G9 (res:List RV) (x:Ex) (e:Env) (h:AH) (Q:V→AH→Prop) (t:Fz (PProd.mk e Q):=.mk):Prop:=match x with | .ex _=>False | _=>Wo (BQ e h res) (fun v=>Q v h)
inductive EU:V→Prop where
 | b (x:Bool):EU (.b x)
 | i (k:IntKind) (z:Int):EU (.i k z)
 | s (x:ByteArray):EU (.s x)
 | np:EU .np
 | ns:EU .ns
 | e0:EU .e0
 | nf:EU .nf
 | ni:EU .ni
 | u:EU .u
mutual
inductive CA (P:Nat→Prop) (h:AH):Nat→V→V→Prop where
 | z (n:Nat) (v:V):EU v→CA P h n v v
 | ns (n:Nat) (sz:Nat):CA P h n .ns (.fl sz [])
 | e0 (n:Nat) (sz:Nat):CA P h n .e0 (.fl sz [])
 | fl (n:Nat) (sz:Nat) (xs:List (List V)):CA P h n (.fl sz xs) (.fl sz xs)
 | fp (n:Nat) (sz:Nat) (xs:List (List V)) (j o:Nat):CA P h n (.fp sz xs j o) (.fp sz xs j o)
 | sl (n:Nat) (id el len cap sz:Nat) (cs xs:List (List V)):P id→h.get id=some ⟨sz,cs⟩→el+len≤cs.length→len≤cap→len<Di→BG P h 0 ((cs.drop el).take len) xs→CA P h n (.sl id el len cap) (.fl sz xs)
 | p (n:Nat) (id el off:Nat):id<n→CA P h n (.p id el off) (.p id el off)
 | so (n:Nat) (id el len cap:Nat):id<n→CA P h n (.sl id el len cap) (.sl id el len cap)
 | f (n:Nat) (fn:Fn) (a c a' c':List V):BS P h n a a'→BS P h n c c'→CA P h n (.f fn a c) (.f fn a' c')
 | ifc (n:Nat) (t:Nat) (v v':V):CA P h n v v'→CA P h n (.ifc t v) (.ifc t v')
 | agg (n:Nat) (l l':List V):BS P h n l l'→CA P h n (.agg l) (.agg l')
 | tup (n:Nat) (l l':List V):BS P h n l l'→CA P h n (.tup l) (.tup l')
inductive BS (P:Nat→Prop) (h:AH):Nat→List V→List V→Prop where
 | nil (n:Nat):BS P h n [] []
 | cons (n:Nat) (v v':V) (l l':List V):CA P h n v v'→BS P h n l l'→BS P h n (v::l) (v'::l')
inductive BG (P:Nat→Prop) (h:AH):Nat→List (List V)→List (List V)→Prop where
 | nil (n:Nat):BG P h n [] []
 | cons (n:Nat) (v v':List V) (l l':List (List V)):BS P h n v v'→BG P h n l l'→BG P h n (v::l) (v'::l')
end
section
variable {S:Nat→Prop} {m:Nat→Nat} {h hc:AH} {P:Nat→Prop}
def SP (S:Nat→Prop) (m:Nat→Nat) (h:AH) (P:Nat→Prop) (a:Nat):Prop:=S a∨∃ i,P i∧h.live i∧m i=a
theorem BG.len {n:Nat}:∀ {l l':List (List V)},BG P h n l l'→l.length=l'.length
 | _,_,.nil _=>rfl
 | _,_,.cons _ _ _ _ _ _ q=>by simp [q.len]
mutual
theorem CA.ok (c:De S m h hc) {n:Nat}:∀ {v r v1:V},CA P h n v r→PR S m hc.get h.next v v1→PR (SP S m h P) m hc.get n r v1
 | _,_,_,.z _ _ h0,p=>by cases h0<;>cases p<;>constructor
 | _,_,_,.ns _ sz,p=>by cases p;exact .fl0 _ _
 | _,_,_,.e0 _ sz,p=>by cases p;exact .fl1 _ _
 | _,_,_,.fl _ sz xs,p=>by
  cases p with
  | fl0=>exact .fl0 _ _
  | fl1=>exact .fl1 _ _
  | fl _ _ _ a el cap cs h1 h2 h3 h4 h5 r=>exact .fl _ _ _ _ _ _ _ (.inl h1) h2 h3 h4 h5 (r.mono ⟨fun a h=>.inl h,fun _ _=>rfl,fun i hi=>absurd hi (Nat.not_lt_zero _),Nat.le_refl _⟩)
 | _,_,_,.fp _ sz xs j o,p=>by
  cases p with
  | fp _ _ _ _ _ a el cs h1 h2 h3 r=>exact .fp _ _ _ _ _ _ _ _ (.inl h1) h2 h3 (r.mono ⟨fun a h=>.inl h,fun _ _=>rfl,fun i hi=>absurd hi (Nat.not_lt_zero _),Nat.le_refl _⟩)
 | _,_,_,.sl _ id el len cap sz cs xs hP hg h1 h2 h3 fr,p=>by
  cases p
  obtain ⟨_,_,cs1,hcs,hr⟩:=c.blk id _ hg
  have e:xs.length=len:=by rw [← fr.len];simp;omega
  subst e
  exact .fl _ _ _ _ _ _ cs1 (.inr ⟨id,hP,by simp [AH.live,hg],rfl⟩) hcs h2 (by rw [← hr.len];exact h1) h3 (BG.ok c fr ((hr.drop _).take _))
 | _,_,_,.p _ id el off hi,p=>by cases p;exact .p _ _ _ _ hi
 | _,_,_,.so _ id el len cap hi,p=>by cases p;exact .sl _ _ _ _ _ hi
 | _,_,_,.f _ fn a cc a' c' fa fc,p=>by cases p;rename_i p q;exact .f _ _ _ _ _ _ (BS.ok c fa p) (BS.ok c fc q)
 | _,_,_,.ifc _ t v v' fv,p=>by cases p;rename_i p;exact .ifc _ _ _ _ (CA.ok c fv p)
 | _,_,_,.agg _ l l' fl,p=>by cases p;rename_i p;exact .agg _ _ _ (BS.ok c fl p)
 | _,_,_,.tup _ l l' fl,p=>by cases p;rename_i p;exact .tup _ _ _ (BS.ok c fl p)
theorem BS.ok (c:De S m h hc) {n:Nat}:∀ {v r v1:List V},BS P h n v r→BN S m hc.get h.next v v1→BN (SP S m h P) m hc.get n r v1
 | _,_,_,.nil _,p=>by cases p;exact .nil _
 | _,_,_,.cons _ v v' l l' fv fl,p=>by cases p;rename_i p q;exact .cons _ _ _ _ _ (CA.ok c fv p) (BS.ok c fl q)
theorem BG.ok (c:De S m h hc) {n:Nat}:∀ {v r v1:List (List V)},BG P h n v r→Dm S m hc.get h.next v v1→Dm (SP S m h P) m hc.get n r v1
 | _,_,_,.nil _,p=>by cases p;exact .nil _
 | _,_,_,.cons _ v v' l l' fv fl,p=>by cases p;rename_i p q;exact .cons _ _ _ _ _ (BS.ok c fv p) (BG.ok c fl q)
end
mutual
theorem PR.frz {g:Nat→Option BU} {n:Nat} {P:Nat→Prop} {h:AH}:∀ {v v1:V},PR S m g n v v1→CA P h n v v
 | _,_,.u _ x=>.z _ _ .u
 | _,_,.b _ x=>.z _ _ (.b x)
 | _,_,.i _ k z=>.z _ _ (.i k z)
 | _,_,.s _ x=>.z _ _ (.s x)
 | _,_,.np _=>.z _ _ .np
 | _,_,.ns _=>.z _ _ .ns
 | _,_,.e0 _=>.z _ _ .e0
 | _,_,.nf _=>.z _ _ .nf
 | _,_,.ni _=>.z _ _ .ni
 | _,_,.p _ id el off h=>.p _ _ _ _ h
 | _,_,.sl _ id el len cap h=>.so _ _ _ _ _ h
 | _,_,.fl0 _ sz=>.fl _ _ _
 | _,_,.fl1 _ sz=>.fl _ _ _
 | _,_,.fl _ sz xs ..=>.fl _ _ _
 | _,_,.fp _ sz xs ..=>.fp _ _ _ _ _
 | _,_,.f _ fn a c a' c' p q=>.f _ _ _ _ _ _ p.frz q.frz
 | _,_,.ifc _ t v v' p=>.ifc _ _ _ _ p.frz
 | _,_,.agg _ l l' p=>.agg _ _ _ p.frz
 | _,_,.tup _ l l' p=>.tup _ _ _ p.frz
theorem BN.frz {g:Nat→Option BU} {n:Nat} {P:Nat→Prop} {h:AH}:∀ {v v1:List V},BN S m g n v v1→BS P h n v v
 | _,_,.nil _=>.nil _
 | _,_,.cons _ v v' l l' p q=>.cons _ _ _ _ _ p.frz q.frz
theorem Dm.frz {g:Nat→Option BU} {n:Nat} {P:Nat→Prop} {h:AH}:∀ {v v1:List (List V)},Dm S m g n v v1→BG P h n v v
 | _,_,.nil _=>.nil _
 | _,_,.cons _ v v' l l' p q=>.cons _ _ _ _ _ p.frz q.frz
end
theorem SP.low (c:De S m h hc):∀ a,SP S m h P a→a<hc.next:=by
 rintro a (ha | ⟨i,_,hi,rfl⟩)
 ·exact c.low a ha
 ·obtain ⟨k,hk⟩:=Option.ne_none_iff_exists'.1 hi
  exact (c.blk i k hk).2.1
theorem De.emp {T:Nat→Prop} (low:∀ a,T a→a<hc.next) (bnd:hc.lim≤hc.next) (m:Nat→Nat):De T m AH.emp hc:=
 ⟨fun i k hk=>by simp [AH.emp] at hk,fun i j hi=>by simp [AH.live,AH.emp] at hi,fun i hi=>by simp [AH.live,AH.emp] at hi,low,fun i hi=>by simp [AH.live,AH.emp] at hi,bnd,Nat.le_refl _⟩
end
theorem EP.args {S:Nat→Prop} {m:Nat→Nat} {h hc:AH} {args args1:List V} (p:BN S m hc.get h.next args args1):EP S m h hc (Fc args) (Fc args1):=by
 intro t
 simp only [Fc,List.getD_eq_getElem?_getD]
 cases ht:args[t]? with
 | none=>
  have:args1[t]?=none:=by rw [List.getElem?_eq_none_iff] at ht ⊢;rw [← p.len];exact ht
  rw [this];exact .u _ _
 | some v=>
  obtain ⟨v1,h1,h2⟩:=p.get t v ht
  rw [h1];exact h2
def Hj (v:V):Prop:=∃ S m g n v1,PR S m g n v v1
def FU (l:List V):Prop:=∀ v,v∈l→Hj v
theorem BN.reps {S:Nat→Prop} {m:Nat→Nat} {g:Nat→Option BU} {n:Nat}:∀ {l l1:List V},BN S m g n l l1→FU l
 | _,_,.nil _=>fun v hv=>by simp at hv
 | _,_,.cons _ v v' l l' p q=>fun w hw=>by
  rcases List.mem_cons.1 hw with rfl | hw
  ·exact ⟨_,_,_,_,_,p⟩
  ·exact q.reps w hw
theorem Hj.big {s:Nat} {xs:List (List V)} (r:Hj (.fl s xs)):xs.length<4000000000:=by
 obtain ⟨S,m,g,n,v1,p⟩:=r
 cases p with
 | fl0=>simp
 | fl1=>simp
 | fl _ _ _ a el cap cs h1 h2 h3 h4 h5 r=>exact h5
theorem Hj.row {s:Nat} {xs:List (List V)} (r:Hj (.fl s xs)) {row:List V} (hr:row∈xs):FU row:=by
 obtain ⟨S,m,g,n,v1,p⟩:=r
 cases p with
 | fl0=>simp at hr
 | fl1=>simp at hr
 | fl _ _ _ a el cap cs h1 h2 h3 h4 h5 r=>
  obtain ⟨j,hj,rfl⟩:=List.getElem_of_mem hr
  obtain ⟨row1,_,q⟩:=r.get j _ (List.getElem?_eq_getElem hj)
  exact q.reps
theorem Hj.agg {l:List V} (r:Hj (.agg l)):FU l:=by
 obtain ⟨S,m,g,n,v1,p⟩:=r
 cases p with
 | agg _ _ _ q=>exact q.reps
theorem Hj.tup {l:List V} (r:Hj (.tup l)):FU l:=by
 obtain ⟨S,m,g,n,v1,p⟩:=r
 cases p with
 | tup _ _ _ q=>exact q.reps
theorem Hj.frzr {s:Nat} {xs:List (List V)} (r:Hj (.fl s xs)) {P:Nat→Prop} {h:AH}:BG P h 0 xs xs:=by
 obtain ⟨S,m,g,n,v1,p⟩:=r
 cases p with
 | fl0=>exact .nil _
 | fl1=>exact .nil _
 | fl _ _ _ a el cap cs h1 h2 h3 h4 h5 r=>exact r.frz
theorem FU.head {v:V} {l:List V} (r:FU (v::l)):Hj v:=r v (by simp)
theorem FU.tail {v:V} {l:List V} (r:FU (v::l)):FU l:=fun w hw=>r w (by simp [hw])
theorem aIr {f:Nat} {args:List V} {R:V} {tf:TF} (hf:tp.fn f=some tf) (hl:args.length≤tf.n) (z:FU args→zc tp tf.body (Fc args) AH.emp (fun x e h=>G9 tf.res x e h (fun r h'=>CA (fun _=>True) h' 0 r R))):Pf tp f args R:=by
 intro S m hc args1 c p
 have p0:EP S m AH.emp hc (Fc args) (Fc args1):=EP.args p
 refine SH hf (by rw [← p.len];exact hl) ((GD tf.body c p0 (z p.reps)).imp ?_)
 rintro x e1 hc' ⟨e,h',S',m',c',a',pe,z⟩
 unfold G9 at z
 unfold TS
 have key:(Wo (BQ e h' tf.res) fun v=>CA (fun _=>True) h' 0 v R)→Wo (BQ e1 hc' tf.res) (fun r1=>∃ r h'' S' m',De S' m' h'' hc'∧FQ S m AH.emp hc S' m' h'' hc'∧PR S' m' hc'.get h''.next r r1∧r=R∧h''=AH.emp):=by
  rintro ⟨v,hv,fz⟩
  obtain ⟨v1,h1,h2⟩:=M6 c' pe hv
  refine ⟨v1,h1,R,AH.emp,SP S' m' h' (fun _=>True),m',De.emp (SP.low c') c'.bnd m',⟨fun a h=>.inl (a'.sub a h), ?_,a'.map,Nat.le_refl _,a'.next1,rfl,a'.lim1,a'.frame,fun i hi=>by simp [AH.live,AH.emp] at hi⟩,CA.ok c' fz h2,rfl,rfl⟩
  rintro a (ha | ⟨i,_,hi,rfl⟩)
  ·exact a'.new a ha
  ·rcases a'.liv i hi with ⟨q1,q2⟩ | q1
   ·exact absurd q1 (Nat.not_lt_zero _)
   ·exact .inr (.inl q1)
 cases x with
 | ex j=>exact z.elim
 | nm=>exact key z
 | rt=>exact key z
def Wf (h:AH):Prop:=h.lim≤h.next∧∀ i k,h.get i=some k→i<h.next∧∀ P h',BG P h' h.next k.cs k.cs
theorem De.wf {S:Nat→Prop} {m:Nat→Nat} {h hc:AH} (c:De S m h hc):Wf h:=⟨c.bnd2,fun i k hk=>by
 obtain ⟨h1,_,cs,_,h4⟩:=c.blk i k hk
 exact ⟨h1,fun P h'=>h4.frz⟩⟩
structure BW (h h2:AH) (r:V) (P:Nat→Prop) (R:V) (H:AH):Prop where
 n1:h.next≤H.next
 lim:H.lim=h.lim
 n2:H.next≤h2.next
 blk:∀ i k,H.get i=some k→i<H.next∧¬ P i∧∃ cs,h2.get i=some ⟨k.sz,cs⟩∧BG P h2 H.next cs k.cs
 val:CA P h2 H.next r R
theorem BW.ok {S S' : Nat → Prop} {m m' : Nat → Nat} {h hc h2 hc2 : AH} {r r1 R : V} {P : Nat → Prop} {H : AH} (st : BW h h2 r P R H) (c : De S m h hc) (c' : De S' m' h2 hc2) (a' : FQ S m h hc S' m' h2 hc2) (p : PR S' m' hc2.get h2.next r r1) :
    De (SP S' m' h2 P) m' H hc2∧FQ S m h hc (SP S' m' h2 P) m' H hc2∧PR (SP S' m' h2 P) m' hc2.get H.next R r1:=by
 have liv:∀ i,H.live i→h2.live i∧¬ P i:=fun i hi=>by
  obtain ⟨k,hk⟩:=Option.ne_none_iff_exists'.1 hi
  obtain ⟨_,h1,cs,h2,_⟩:=st.blk i k hk
  exact ⟨by simp [AH.live,h2],h1⟩
 refine ⟨⟨fun i k hk=>?_,fun i j hi hj=>c'.inj i j (liv i hi).1 (liv j hj).1,fun i hi hs=>?_,SP.low c',fun i hi hl=>c'.lim i (liv i hi).1 (by rw [a'.lim2,←st.lim];exact hl),c'.bnd,by rw [st.lim];exact Nat.le_trans c.bnd2 st.n1⟩,⟨fun a h=>.inl (a'.sub a h),fun a ha=>?_,a'.map,st.n1,a'.next1,st.lim,a'.lim1,a'.frame,fun i hi=>a'.liv i (liv i hi).1⟩,st.val.ok c' p⟩
 ·obtain ⟨h1,h2',cs,h3,h4⟩:=st.blk i k hk
  obtain ⟨q1,q2,cs1,q3,q4⟩:=c'.blk i _ h3
  exact ⟨h1,q2,cs1,q3,h4.ok c' q4⟩
 ·obtain ⟨hl,hP⟩:=liv i hi
  rcases hs with hs | ⟨j,hj,hlj,he⟩
  ·exact c'.off i hl hs
  ·exact hP (c'.inj j i hlj hl he▸hj)
 ·rcases ha with ha | ⟨i,_,hi,rfl⟩
  ·exact a'.new a ha
  ·rcases a'.liv i hi with ⟨q1,q2⟩ | q1
   ·exact .inr (.inr ⟨i,q2,(a'.map i q1).symm⟩)
   ·exact .inr (.inl q1)
theorem SG {f:Nat} {args:List V} {h:AH} {K:V→AH→Prop} {tf:TF} (hf:tp.fn f=some tf) (hl:args.length≤tf.n) (z:Wf h→FU args→zc tp tf.body (Fc args) h (fun x e h2=>G9 tf.res x e h2 (fun r h3=>∃ P R H,BW h h3 r P R H∧K R H))):Cq tp f args h K:=by
 intro S m hc args1 c p
 refine SH hf (by rw [← p.len];exact hl) ((GD tf.body c (EP.args p) (z c.wf p.reps)).imp ?_)
 rintro x e1 hc' ⟨e,h',S',m',c',a',pe,z⟩
 unfold G9 at z
 unfold TS
 have key:(Wo (BQ e h' tf.res) fun r=>∃ P R H,BW h h' r P R H∧K R H)→Wo (BQ e1 hc' tf.res) (fun r1=>∃ r h'' S' m',De S' m' h'' hc'∧FQ S m h hc S' m' h'' hc'∧PR S' m' hc'.get h''.next r r1∧K r h''):=by
  rintro ⟨v,hv,P,R,H,st,k⟩
  obtain ⟨v1,h1,h2⟩:=M6 c' pe hv
  obtain ⟨q1,q2,q3⟩:=st.ok c c' a' h2
  exact ⟨v1,h1,R,H,_,m',q1,q2,q3,k⟩
 cases x with
 | ex j=>exact z.elim
 | nm=>exact key z
 | rt=>exact key z
theorem tT {f:Nat} {args:List V} {h:AH} {K:V→AH→Prop} {tf:TF} (hf:tp.fn f=some tf) (hl:args.length≤tf.n) (z:Wf h→FU args→zc tp tf.body (Fc args) h (fun x e h2=>G9 tf.res x e h2 K)):Cq tp f args h K:=by
 intro S m hc args1 c p
 refine SH hf (by rw [← p.len];exact hl) ((GD tf.body c (EP.args p) (z c.wf p.reps)).imp ?_)
 rintro x e1 hc' ⟨e,h',S',m',c',a',pe,z⟩
 unfold G9 at z
 unfold TS
 have key:(Wo (BQ e h' tf.res) fun r=>K r h')→Wo (BQ e1 hc' tf.res) (fun r1=>∃ r h'' S' m',De S' m' h'' hc'∧FQ S m h hc S' m' h'' hc'∧PR S' m' hc'.get h''.next r r1∧K r h''):=by
  rintro ⟨v,hv,k⟩
  obtain ⟨v1,h1,h2⟩:=M6 c' pe hv
  exact ⟨v1,h1,v,h',_,m',c',a',h2,k⟩
 cases x with
 | ex j=>exact z.elim
 | nm=>exact key z
 | rt=>exact key z
theorem Cq.imp {f:Nat} {args:List V} {h:AH} {K L:V→AH→Prop} (c:Cq tp f args h K) (kl:∀ v h,K v h→L v h):Cq tp f args h L:=by
 intro S m hc args1 cf p
 refine (c S m hc args1 cf p).imp ?_
 rintro v h' ⟨r,h2,S',m',a,b,c,d⟩
 exact ⟨r,h2,S',m',a,b,c,kl _ _ d⟩
mutual
def pur:V→Bool
 | .p .. | .sl ..=>false
 | .f _ a c=>Gk a&&Gk c
 | .ifc _ v=>pur v
 | .agg l=>Gk l
 | .tup l=>Gk l
 | _=>true
def Gk:List V→Bool
 | []=>true
 | v::l=>pur v&&Gk l
end
mutual
theorem PR.pur {S:Nat→Prop} {m:Nat→Nat} {g:Nat→Option BU} {n:Nat}:∀ {v v1:V},PR S m g n v v1→pur v=true→PR S m g 0 v v1
 | _,_,.u _ x,_=>.u _ x
 | _,_,.b _ x,_=>.b _ x
 | _,_,.i _ k z,_=>.i _ k z
 | _,_,.s _ x,_=>.s _ x
 | _,_,.np _,_=>.np _
 | _,_,.ns _,_=>.ns _
 | _,_,.e0 _,_=>.e0 _
 | _,_,.nf _,_=>.nf _
 | _,_,.ni _,_=>.ni _
 | _,_,.p _ _ _ _ _,h=>by simp [Go.Ab.pur] at h
 | _,_,.sl _ _ _ _ _ _,h=>by simp [Go.Ab.pur] at h
 | _,_,.fl0 _ sz,_=>.fl0 _ sz
 | _,_,.fl1 _ sz,_=>.fl1 _ sz
 | _,_,.fl _ sz xs a el cap cs h1 h2 h3 h4 h5 r,_=>.fl _ sz xs a el cap cs h1 h2 h3 h4 h5 r
 | _,_,.fp _ sz xs j off a el cs h1 h2 h3 r,_=>.fp _ sz xs j off a el cs h1 h2 h3 r
 | _,_,.f _ fn a c a' c' p q,h=>by
  simp only [Go.Ab.pur,Bool.and_eq_true] at h
  exact .f _ fn a c a' c' (BN.pur p h.1) (BN.pur q h.2)
 | _,_,.ifc _ t v v' p,h=>by simp only [Go.Ab.pur] at h;exact .ifc _ t v v' (PR.pur p h)
 | _,_,.agg _ l l' p,h=>by simp only [Go.Ab.pur] at h;exact .agg _ l l' (BN.pur p h)
 | _,_,.tup _ l l' p,h=>by simp only [Go.Ab.pur] at h;exact .tup _ l l' (BN.pur p h)
theorem BN.pur {S:Nat→Prop} {m:Nat→Nat} {g:Nat→Option BU} {n:Nat}:∀ {v v1:List V},BN S m g n v v1→Gk v=true→BN S m g 0 v v1
 | _,_,.nil _,_=>.nil _
 | _,_,.cons _ v v' l l' p q,h=>by
  simp only [Gk,Bool.and_eq_true] at h
  exact .cons _ _ _ _ _ (PR.pur p h.1) (BN.pur q h.2)
end
def AH.kills (h:AH) (D:List Nat):AH:={ h with get:=fun i=>if i∈D then none else h.get i }
theorem De.after {S T S':Nat→Prop} {m m':Nat→Nat} {h hc hc':AH} {D:List Nat} (c:De S m h hc) (hT:∀ a,T a→S a∨∃ i,i∈D∧h.live i∧m i=a) (hST:∀ a,S a→T a) (c':De S' m' AH.emp hc') (a':FQ T m AH.emp hc S' m' AH.emp hc'):De S' m (h.kills D) hc'∧FQ S m h hc S' m (h.kills D) hc':=by
 have lt:∀ i,h.live i→i<h.next∧m i<hc.next:=fun i hi=>by
  obtain ⟨k,hk⟩:=Option.ne_none_iff_exists'.1 hi;exact ⟨(c.blk i k hk).1,(c.blk i k hk).2.1⟩
 have live:∀ i,(h.kills D).live i→h.live i∧i∉D:=fun i hi=>by
  simp only [AH.live,AH.kills] at hi
  split at hi
  ·simp at hi
  ·exact ⟨hi,by assumption⟩
 have fr:∀ a,a<hc.next→hc'.get a=hc.get a:=fun a ha=>a'.frame a ha (fun i hi=>by simp [AH.live,AH.emp] at hi)
 have pm:It S m hc.get h.next S' m hc'.get h.next:=⟨fun a h=>a'.sub a (hST a h),fun a ha=>fr a (c.low a ha),fun _ _=>rfl,Nat.le_refl _⟩
 have nw:∀ a,S' a→S a∨hc.next≤a∨∃ i,i∈D∧h.live i∧m i=a:=fun a ha=>by
  rcases a'.new a ha with h1 | h1 | ⟨i,hi,_⟩
  ·rcases hT a h1 with h2 | h2
   ·exact .inl h2
   ·exact .inr (.inr h2)
  ·exact .inr (.inl h1)
  ·simp [AH.live,AH.emp] at hi
 refine ⟨⟨fun i k hk=>?_,fun i j hi hj=>c.inj i j (live i hi).1 (live j hj).1,fun i hi hs=>?_,c'.low,fun i hi hl=>by rw [a'.lim1];exact c.lim i (live i hi).1 hl,c'.bnd,c.bnd2⟩,⟨fun a h=>a'.sub a (hST a h),fun a ha=>?_,fun _ _=>rfl,Nat.le_refl _,a'.next1,rfl,a'.lim1,fun a ha _=>fr a ha,fun i hi=>.inl ⟨(lt i (live i hi).1).1,(live i hi).1⟩⟩⟩
 ·have hk2:h.get i=some k:=by
   simp only [AH.kills] at hk
   split at hk
   ·simp at hk
   ·exact hk
  obtain ⟨h1,h2,cs,h3,h4⟩:=c.blk i k hk2
  exact ⟨h1,Nat.lt_of_lt_of_le h2 a'.next1,cs,by rw [fr _ h2];exact h3,h4.mono pm⟩
 ·obtain ⟨hi,hD⟩:=live i hi
  rcases nw _ hs with h1 | h1 | ⟨j,hj,hlj,he⟩
  ·exact c.off i hi h1
  ·have:=(lt i hi).2;omega
  ·exact hD (c.inj j i hlj hi he▸hj)
 ·rcases nw a ha with h1 | h1 | ⟨i,_,hi,he⟩
  ·exact .inl h1
  ·exact .inr (.inl h1)
  ·exact .inr (.inr ⟨i,hi,he⟩)
theorem Pf.go {f:Nat} {args:List V} {R:V} {h:AH} {K:V→AH→Prop} (pf:Pf tp f args R) (hp:Gk args=true) (k:Hj R→K R h):Cq tp f args h K:=by
 intro S m hc args1 c p
 refine (pf S m hc args1 (De.emp c.low c.bnd m) (p.pur hp)).imp ?_
 rintro r1 hc' ⟨r,h',S',m',c',a',q,rfl,rfl⟩
 obtain ⟨c2,a2⟩:=c.after (D:=[]) (T:=S) (fun a h=>.inl h) (fun a h=>h) c' a'
 have e:h.kills []=h:=by simp [AH.kills]
 rw [e] at c2 a2
 exact ⟨r,h,S',m,c2,a2,q.up _ _,k ⟨_,_,_,_,_,q⟩⟩
theorem Pf.take {f:Nat} {args A:List V} {R:V} {h:AH} {K:V→AH→Prop} (D:List Nat) (pf:Pf tp f A R) (fz:BS (·∈D) h 0 args A) (k:Hj R→K R (h.kills D)):Cq tp f args h K:=by
 intro S m hc args1 c p
 have q:=BS.ok c fz p
 refine (pf _ m hc args1 (De.emp (SP.low c) c.bnd m) q).imp ?_
 rintro r1 hc' ⟨r,h',S',m',c',a',q,rfl,rfl⟩
 obtain ⟨c2,a2⟩:=c.after (D:=D) (fun a h=>h) (fun a h=>.inl h) c' a'
 exact ⟨r,_,S',m,c2,a2,q.up _ _,k ⟨_,_,_,_,_,q⟩⟩
mutual
def flat0:V→Bool
 | .b _ | .i .. | .s _ | .np | .ns | .e0 | .nf | .ni | .u=>true
 | .agg l=>NF l
 | .tup l=>NF l
 | _=>false
def NF:List V→Bool
 | []=>true
 | v::l=>flat0 v&&NF l
end
mutual
theorem PR.flat0 {S S':Nat→Prop} {m m':Nat→Nat} {g g':Nat→Option BU} {n n':Nat}:∀ {v v1:V},PR S m g n v v1→flat0 v=true→PR S' m' g' n' v v1
 | _,_,.u _ x,_=>.u _ x
 | _,_,.b _ x,_=>.b _ x
 | _,_,.i _ k z,_=>.i _ k z
 | _,_,.s _ x,_=>.s _ x
 | _,_,.np _,_=>.np _
 | _,_,.ns _,_=>.ns _
 | _,_,.e0 _,_=>.e0 _
 | _,_,.nf _,_=>.nf _
 | _,_,.ni _,_=>.ni _
 | _,_,.p _ _ _ _ _,h=>by simp [Go.Ab.flat0] at h
 | _,_,.sl _ _ _ _ _ _,h=>by simp [Go.Ab.flat0] at h
 | _,_,.fl0 _ sz,h=>by simp [Go.Ab.flat0] at h
 | _,_,.fl1 _ sz,h=>by simp [Go.Ab.flat0] at h
 | _,_,.fl ..,h=>by simp [Go.Ab.flat0] at h
 | _,_,.fp ..,h=>by simp [Go.Ab.flat0] at h
 | _,_,.f ..,h=>by simp [Go.Ab.flat0] at h
 | _,_,.ifc ..,h=>by simp [Go.Ab.flat0] at h
 | _,_,.agg _ l l' p,h=>by simp only [Go.Ab.flat0] at h;exact .agg _ l l' (BN.flat0 p h)
 | _,_,.tup _ l l' p,h=>by simp only [Go.Ab.flat0] at h;exact .tup _ l l' (BN.flat0 p h)
theorem BN.flat0 {S S':Nat→Prop} {m m':Nat→Nat} {g g':Nat→Option BU} {n n':Nat}:∀ {v v1:List V},BN S m g n v v1→NF v=true→BN S' m' g' n' v v1
 | _,_,.nil _,_=>.nil _
 | _,_,.cons _ v v' l l' p q,h=>by
  simp only [NF,Bool.and_eq_true] at h
  exact .cons _ _ _ _ _ (PR.flat0 p h.1) (BN.flat0 q h.2)
end
theorem Pf.look {f:Nat} {args A:List V} {R:V} {h:AH} {K:V→AH→Prop} (pf:Pf tp f A R) (fz:BS (fun _=>True) h 0 args A) (hR:flat0 R=true) (k:Hj R→K R h):Cq tp f args h K:=by
 intro S m hc args1 c p
 have q:=BS.ok c fz p
 refine (pf _ m hc args1 (De.emp (SP.low c) c.bnd m) q).imp ?_
 rintro r1 hc' ⟨r,h',S',m',c',a',q,rfl,rfl⟩
 have lt:∀ i,h.live i→i<h.next∧m i<hc.next:=fun i hi=>by
  obtain ⟨k,hk⟩:=Option.ne_none_iff_exists'.1 hi;exact ⟨(c.blk i k hk).1,(c.blk i k hk).2.1⟩
 have fr:∀ a,a<hc.next→hc'.get a=hc.get a:=fun a ha=>a'.frame a ha (fun i hi=>by simp [AH.live,AH.emp] at hi)
 have pm:It S m hc.get h.next S m hc'.get h.next:=⟨fun a h=>h,fun a ha=>fr a (c.low a ha),fun _ _=>rfl,Nat.le_refl _⟩
 refine ⟨r,h,S,m,⟨fun i k hk=>?_,c.inj,c.off,fun a ha=>Nat.lt_of_lt_of_le (c.low a ha) a'.next1,fun i hi hl=>by rw [a'.lim1];exact c.lim i hi hl,c'.bnd,c.bnd2⟩,⟨fun a h=>h,fun a h=>.inl h,fun _ _=>rfl,Nat.le_refl _,a'.next1,rfl,a'.lim1,fun a ha _=>fr a ha,fun i hi=>.inl ⟨(lt i hi).1,hi⟩⟩,q.flat0 hR,k ⟨_,_,_,_,_,q⟩⟩
 obtain ⟨h1,h2,cs,h3,h4⟩:=c.blk i k hk
 exact ⟨h1,Nat.lt_of_lt_of_le h2 a'.next1,cs,by rw [fr _ h2];exact h3,h4.mono pm⟩
end
end Go.Ab
/- The rules for code over values that stay, as a set for simp; slices that are one's own. -/
namespace Go.Ab
open Go
theorem Env.set_get {e:Env} {d j:Nat} {v:V}:(e.set (some d) v) j=if j=d then v else e j:=An rfl
theorem Env.set_none {e:Env} {v:V}:e.set none v=e:=An rfl
/-! ### The heap -/
def Yi {α:Type} (i n:Nat) (a b:α):α:=if i=n then a else b
theorem AC {α:Type} {i n:Nat} {a b:α} (h:i=n):Yi i n a b=a:=if_pos h
theorem Ac {α:Type} {i n:Nat} {a b:α} (h:¬ i=n):Yi i n a b=b:=if_neg h
theorem AM {h:AH} {k:BU} {i:Nat}:(h.alloc k).get i=Yi i h.next (some k) (h.get i):=An rfl
theorem Ad {h:AH} {k:BU} {i j:Nat}:(h.put j k).get i=Yi i j (some k) (h.get i):=An rfl
theorem Cm {h:AH} {i j:Nat}:(h.kill j).get i=Yi i j none (h.get i):=An rfl
theorem Ux {h:AH} {i:Nat}:h.raise.get i=h.get i:=An rfl
theorem Ye {h:AH} {i l:Nat}:(h.back l).get i=h.get i:=An rfl
theorem Ag {h:AH} {k:BU}:(h.alloc k).next=h.next+1:=An rfl
theorem AB {h:AH} {k:BU} {j:Nat}:(h.put j k).next=h.next:=An rfl
theorem GR {h:AH} {j:Nat}:(h.kill j).next=h.next:=An rfl
theorem Ba {h:AH}:h.raise.next=h.next:=An rfl
theorem US {h:AH} {l:Nat}:(h.back l).next=h.next:=An rfl
theorem AL {h:AH} {k:BU}:(h.alloc k).lim=h.lim:=An rfl
theorem CV {h:AH} {k:BU} {j:Nat}:(h.put j k).lim=h.lim:=An rfl
theorem ZD {h:AH} {j:Nat}:(h.kill j).lim=h.lim:=An rfl
theorem Bj {h:AH}:h.raise.lim=h.next:=An rfl
theorem ZB {h:AH} {l:Nat}:(h.back l).lim=l:=An rfl
theorem IX {h:AH} {k:BU}:(h.raise.alloc k).back h.lim=h.alloc k:=An rfl
theorem Sb {h:AH}:h.raise.back h.lim=h:=An rfl
section
variable {tp:TP} {e:Env} {h:AH}
/-! ### Code -/
def Z1 (tp:TP) (o:O) (e:Env) (h:AH) (K:V→AH→Prop) (t:Fz K:=.mk):Prop:=z1 tp o e h K
def Et (tp:TP) (o:O) (e:Env) (h:AH) (K:V→AH→Prop) (t:Fz K:=.mk):Prop:=zq1 tp o e h K
def Lm (tp:TP) (l:List TO) (e:Env) (h:AH) (K:Env→AH→Prop) (t:Fz (PProd.mk e K):=.mk):Prop:=Lx tp l e h K
def ZQ (tp:TP) (l:List TO) (e:Env) (h:AH) (K:Env→AH→Prop) (t:Fz (PProd.mk e K):=.mk):Prop:=zq tp l e h K
def ZS (tp:TP) (l:List (Bool×List TO)) (e:Env) (h:AH) (K:Env→AH→Prop) (t:Fz (PProd.mk e K):=.mk):Prop:=zs tp l e h K
def ZC (tp:TP) (c:TC) (e:Env) (h:AH) (K:Ex→Env→AH→Prop) (t:Fz (PProd.mk e K):=.mk):Prop:=zc tp c e h K
theorem fZ {K:Ex→Env→AH→Prop}:ZC tp .skip e h K=K .nm e h:=An rfl
theorem aEW {K:Ex→Env→AH→Prop}:ZC tp .ret e h K=K .rt e h:=An rfl
theorem fY {id:Nat} {K:Ex→Env→AH→Prop}:ZC tp (.exit id) e h K=K (.ex id) e h:=An rfl
theorem aEV {ops:List TO} {K:Ex→Env→AH→Prop}:ZC tp (.reg ops) e h K=Lm tp ops e h (fun e h=>K .nm e h):=An rfl
theorem fX {ops:List (Bool×List TO)} {K:Ex→Env→AH→Prop}:ZC tp (.dreg ops) e h K=ZS tp ops e h (fun e h=>K .nm e h):=An rfl
theorem fW {c:X} {a b:TC} {K:Ex→Env→AH→Prop}:ZC tp (.cond c a b) e h K=Wb (c.e2 e) (ZC tp a e h K) (ZC tp b e h K):=An rfl
theorem WO {id:Nat} {c:TC} {K:Ex→Env→AH→Prop}:ZC tp (.block id c) e h K=ZC tp c e h (fun x e h=>K (blk id x) e h):=An rfl
theorem aEX {a b:TC} {K:Ex→Env→AH→Prop}:ZC tp (.seq a b) e h K=ZC tp a e h (fun x e h=>UV x (ZC tp b e h K) (K x e h)):=An rfl
theorem Ai {c d:TC} {K:Ex→Env→AH→Prop} (hcd:c=d):ZC tp c e h K=ZC tp d e h K:=by rw [hcd]
theorem Bc {c:TC} {K:Ex→Env→AH→Prop} (z:ZC tp c e h (fun x e h=>UV x (ZC tp (.loop c) e h K) (K x e h))):ZC tp (.loop c) e h K:=by
 intro I hI hS
 exact hI e h (E9 (c:=c) (fun x e h=>MV (fun z=>z I hI hS) id) z)
theorem Mu {c:TC} {K:Ex→Env→AH→Prop} {e2:Env} {h2:AH} (st:Stp e h e2 h2) (z:ZC tp (.loop c) e2 h2 K):ZC tp (.loop c) e h K:=fun I hI hS=>hS e h e2 h2 st (z I hI hS)
theorem Ae {c:TC} {K:Ex→Env→AH→Prop} (J:Nat→Env→AH→Prop) (round:∀ n e h,J n e h→(∀ m e' h',m<n→J m e' h'→ZC tp (.loop c) e' h' K)→ZC tp c e h (fun x e h=>UV x (ZC tp (.loop c) e h K) (K x e h))):∀ n e h,J n e h→ZC tp (.loop c) e h K:=by
 intro n
 induction n using Nat.strongRecOn with
 | _ n ih=>intro e h hj;exact Bc (round n e h hj (fun m e' h' hm hj'=>ih m hm e' h' hj'))
theorem ZC.imp {c:TC} {K L:Ex→Env→AH→Prop} (z:ZC tp c e h K) (kl:∀ x e h,K x e h→L x e h):ZC tp c e h L:=E9 (c:=c) kl z
theorem dM {v:V} {x:Bool} {A B:Prop}:(match (match v with | .b y=>some (y==x) | .tup []=>some false | _=>none:Option Bool) with | some true=>A | some false=>B | none=>False)=Wg v x A B:=by
 cases v with
 | b y=>cases y<;>cases x<;>simp [Wg]
 | tup l=>cases l<;>simp [Wg]
 | _=>simp [Wg]
theorem WP {K:Env→AH→Prop}:Lm tp [] e h K=K e h:=An rfl
theorem WR {d:Option Nat} {o:O} {r:List TO} {K:Env→AH→Prop}:Lm tp (⟨d,o,none⟩::r) e h K=Z1 tp o e h (fun v h=>Lm tp r (e.set d v) h K):=An rfl
theorem aEY {d:Option Nat} {o:O} {t:Nat} {x:Bool} {r:List TO} {K:Env→AH→Prop}:Lm tp (⟨d,o,some (t,x)⟩::r) e h K=Wg (e t) x (Z1 tp o e h (fun v h=>Lm tp r (e.set d v) h K)) (Lm tp r (e.set d (.tup [])) h K):=by
 exact dM
theorem aE8 {K:Env→AH→Prop}:ZS tp [] e h K=K e h:=An rfl
theorem aE7 {l:List TO} {r:List (Bool×List TO)} {K:Env→AH→Prop}:ZS tp ((false,l)::r) e h K=Lm tp l e h (fun e h=>ZS tp r e h K):=An rfl
theorem W9 {l:List TO} {r:List (Bool×List TO)} {K:Env→AH→Prop}:ZS tp ((true,l)::r) e h K=ZQ tp l e h (fun e h=>ZS tp r e h K):=An rfl
theorem aE5 {K:Env→AH→Prop}:ZQ tp [] e h K=K e h:=An rfl
theorem aE6 {d:Option Nat} {o:O} {r:List TO} {K:Env→AH→Prop}:ZQ tp (⟨d,o,none⟩::r) e h K=Et tp o e h (fun v h=>ZQ tp r (e.set d v) h K):=An rfl
theorem aWO {d:Option Nat} {o:O} {t:Nat} {x:Bool} {r:List TO} {K:Env→AH→Prop}:ZQ tp (⟨d,o,some (t,x)⟩::r) e h K=Wg (e t) x (Et tp o e h (fun v h=>ZQ tp r (e.set d v) h K)) (ZQ tp r (e.set d (.tup [])) h K):=by
 exact dM
end
/-! ### Operations one by one -/
theorem aWX {e:Env} {n:Nat}:(X.t n).e2 e=e n:=An rfl
theorem aUp {e:Env} {k:IntKind} {n:Int}:(X.c (.i k n)).e2 e=.i k n:=An rfl
theorem aUo {e:Env} {x:Bool}:(X.c (.b x)).e2 e=.b x:=An rfl
theorem aUq {e:Env} {x:ByteArray}:(X.c (.s x)).e2 e=.s x:=An rfl
theorem aUt {e:Env}:(X.c .np).e2 e=.np:=An rfl
theorem aUu {e:Env}:(X.c .ns).e2 e=.ns:=An rfl
theorem aUr {e:Env}:(X.c .nf).e2 e=.nf:=An rfl
theorem aUs {e:Env}:(X.c .ni).e2 e=.ni:=An rfl
theorem aFs {e:Env} {l:List V} (hl:l.all plain1=true):(X.c (.agg l)).e2 e=.agg l:=by simp [X.e2,plain,hl]
theorem sY {e:Env} {f:Nat}:(X.fn f).e2 e=.f (.func f) [] []:=An rfl
theorem Z5 {k:IntKind} {n:Int}:plain1 (.i k n)=true:=An rfl
theorem Z4 {x:Bool}:plain1 (.b x)=true:=An rfl
theorem Z6 {x:ByteArray}:plain1 (.s x)=true:=An rfl
theorem U1:plain1 .np=true:=An rfl
theorem U2:plain1 .ns=true:=An rfl
theorem UZ:plain1 .nf=true:=An rfl
theorem U0:plain1 .ni=true:=An rfl
section
variable {tp:TP} {e:Env} {h:AH} {K:V→AH→Prop}
def asB:V→Option Bool | .b x=>some x | _=>none
theorem aUf {x:Bool}:asB (.b x)=some x:=An rfl
theorem aT9 {x:X}:Z1 tp (.mv x) e h K=Wv (x.e2 e) (fun v=>K v h):=by
 unfold Z1;simp only [z1,BM,Af,AV,HN]
theorem fS {c a b:X}:Z1 tp (.pick c a b) e h K=Wo (asB (c.e2 e)) (fun t=>Wv (if t then a.e2 e else b.e2 e) (fun v=>K v h)):=by
 unfold Z1;simp only [z1,BM,Af,asB]
 cases c.e2 e<;>simp only [AV,A5,HN]
theorem JV {z:List V}:Z1 tp (.alloc z) e h K=(z.all plain1=true∧Wv (.p h.next 0 0) (fun v=>Wv (h.alloc ⟨z.length,[z]⟩) (fun h'=>K v h'))):=by
 unfold Z1;simp only [z1,BM,Af,CZ,AV,HN]
theorem QX {x:X}:Z1 tp (.box x) e h K=((x.e2 e).cells.all V.isCell=true∧Wv (.p h.next 0 0) (fun v=>Wv (h.alloc ⟨(x.e2 e).cells.length,[(x.e2 e).cells]⟩) (fun h'=>K v h'))):=by
 unfold Z1;simp only [z1,BM,Af,CZ,AV,HN]
theorem WH {z:List V} {ps:List (Nat×Nat×X)}:Z1 tp (.build z ps) e h K=(z.all plain1=true∧Wo (FB z (ps.map fun q=>(q.1,q.2.1,q.2.2.e2 e))) (fun r=>K (.agg r) h)):=by
 unfold Z1;simp only [z1,BM,Af,CZ,BH]
theorem QY {sz n:Nat} {z:List V} {ps:List (Nat×X)}:Z1 tp (.bsl sz z n ps) e h K=((z.all plain1=true∧n<4294967296)∧Wo (CM sz (List.replicate n z) (ps.map fun q=>(q.1,q.2.e2 e))) (fun r=>Wv (.sl h.next 0 n n) (fun v=>Wv (h.alloc ⟨sz,r⟩) (fun h'=>K v h')))):=by
 unfold Z1;simp only [z1,BM,Af];rw [CZ,BH];rfl
theorem Ms {sz n:Nat} {z:List V} {ps:List (Nat×X)}:Z1 tp (.bslc sz z n ps) e h K=((z.all plain1=true∧n<4294967296)∧Wo (CM sz (List.replicate n z) (ps.map fun q=>(q.1,q.2.e2 e))) (fun r=>Wv (.sl h.next 0 n n) (fun v=>Wv (h.alloc ⟨sz,r⟩) (fun h'=>K v h')))):=by
 unfold Z1;simp only [z1,BM,Af];rw [CZ,BH];rfl
def aED (sz n:Nat) (z:List V) (ps:List (Nat×V)) (y:V) (h:AH) (K:V→AH→Prop) (t:Fz K:=.mk):Prop:=match y with
 | .sl id el len cap=>Wo (CM sz (List.replicate n z) ps) (fun r=>h.get id=some ⟨sz,r⟩∧(el=0∧len=n∧cap=n)∧Br r r=true∧Wv V.u (fun v=>K v h))
 | _=>False
theorem eY {sz n id el len cap:Nat} {z:List V} {ps:List (Nat×V)}:aED sz n z ps (.sl id el len cap) h K=Wo (CM sz (List.replicate n z) ps) (fun r=>h.get id=some ⟨sz,r⟩∧(el=0∧len=n∧cap=n)∧Br r r=true∧Wv V.u (fun v=>K v h)):=An rfl
theorem fI {sz n:Nat} {z:List V} {ps:List (Nat×X)} {y:X}:Z1 tp (.chkb sz z n ps y) e h K=(z.all plain1=true∧aED sz n z (ps.map fun q=>(q.1,q.2.e2 e)) (y.e2 e) h K):=by
 unfold Z1;simp only [z1,BM,CZ]
 congr 1
 simp only [Af]
 generalize y.e2 e=v
 cases v<;>simp only [aED,A5]
 rename_i id el len cap
 rw [B0]
 refine FV fun r=>?_
 apply propext
 constructor
 ·rintro ⟨⟨v,h'⟩,h1,k⟩
  simp only [Option.bind_eq_some_iff] at h1
  obtain ⟨b,hb,h1⟩:=h1
  split at h1
  case isFalse=>simp at h1
  rename_i hs
  simp at h1
  obtain ⟨rfl,rfl⟩:=h1
  obtain ⟨e1,e2,e3,e4,e5⟩:=hs
  have:=Eo e5
  subst this
  obtain ⟨s,cs⟩:=b
  simp only at e4 e5 hb
  subst e4
  exact ⟨hb,⟨e1,e2,e3⟩,e5,k⟩
 ·rintro ⟨hb,⟨e1,e2,e3⟩,e5,k⟩
  exact ⟨(.u,h),by rw [hb];simp only [Option.bind_some];rw [if_pos ⟨e1,e2,e3,trivial,e5⟩],k⟩
theorem QV {z:List V}:Z1 tp (.alc z) e h K=(z.all plain1=true∧Wv (.p h.next 0 0) (fun v=>Wv (h.alloc ⟨z.length,[z]⟩) (fun h'=>K v h'))):=by
 unfold Z1;simp only [z1,BM,Af];rw [CZ,AV];rfl
def aEB (z:List V) (y:V) (h:AH) (K:V→AH→Prop) (t:Fz K:=.mk):Prop:=match y with
 | .p id el off=>h.get id=some ⟨z.length,[z]⟩∧(el=0∧off=0)∧Br [z] [z]=true∧Wv V.u (fun v=>K v h)
 | _=>False
theorem aEC {id el off:Nat} {z:List V}:aEB z (.p id el off) h K=(h.get id=some ⟨z.length,[z]⟩∧(el=0∧off=0)∧Br [z] [z]=true∧Wv V.u (fun v=>K v h)):=An rfl
theorem fH {z:List V} {y:X}:Z1 tp (.chka z y) e h K=(z.all plain1=true∧aEB z (y.e2 e) h K):=by
 unfold Z1;simp only [z1,BM,CZ]
 congr 1
 simp only [Af]
 generalize y.e2 e=v
 cases v<;>simp only [aEB,A5]
 rename_i id el off
 apply propext
 constructor
 ·rintro ⟨⟨v,h'⟩,h1,k⟩
  simp only [Option.bind_eq_some_iff] at h1
  obtain ⟨b,hb,h1⟩:=h1
  split at h1
  case isFalse=>simp at h1
  rename_i hs
  simp at h1
  obtain ⟨rfl,rfl⟩:=h1
  obtain ⟨e1,e2,e3,e5⟩:=hs
  obtain ⟨s,cs⟩:=b
  simp only at e3 e5 hb
  have:=Eo e5
  subst this
  subst e3
  exact ⟨hb,⟨e1,e2⟩,e5,k⟩
 ·rintro ⟨hb,⟨e1,e2⟩,e5,k⟩
  exact ⟨(.u,h),by rw [hb];simp only [Option.bind_some];rw [if_pos ⟨e1,e2,trivial,e5⟩],k⟩
theorem M9:Br [] []=true:=An rfl
theorem Lv {a b:List V} {l m:List (List V)}:Br (a::l) (b::m)=(BT a b&&Br l m):=An rfl
theorem OA:BT [] []=true:=An rfl
theorem M8 {a b:V} {l m:List V}:BT (a::l) (b::m)=(sameV a b&&BT l m):=An rfl
theorem aT6:Z1 tp .e0 e h K=K .e0 h:=by unfold Z1;simp only [z1,BM,Af,AV]
def dV (k:Option BU) (el off n:Nat) (agg:Bool):Option V:=k.bind fun k=>(k.cs[el]?).bind fun r=>Is r off n agg
def Vr (h:AH) (n:Nat) (agg:Bool):V→Option V | .p id el off=>dV (h.get id) el off n agg | .fp _ xs j off=>ldF n agg xs j off | _=>none
theorem tE {id el off n:Nat} {agg:Bool}:Vr h n agg (.p id el off)=dV (h.get id) el off n agg:=An rfl
theorem aHj {s j off n:Nat} {xs:List (List V)} {agg:Bool}:Vr h n agg (.fp s xs j off)=(xs[j]?).bind fun r=>Is r off n agg:=An rfl
theorem NQ {sz el off n:Nat} {cs:List (List V)} {agg:Bool}:dV (some ⟨sz,cs⟩) el off n agg=(cs[el]?).bind fun r=>Is r off n agg:=An rfl
theorem XP {n:Nat} {agg:Bool} {x:X} {ev:X→V}:BM (.load n agg x) ev h=(Vr h n agg (ev x)).map fun v=>(v,h):=by
 simp only [BM,Af]
 cases ev x<;>simp only [Vr,dV]<;>try rfl
 rename_i id el off
 cases h.get id with
 | none=>rfl
 | some k=>
  simp only [Option.bind_some]
  cases k.cs[el]?<;>rfl
theorem Ul {n:Nat} {ag:Bool} {x:X} {ev:X→V}:BM (.fload n ag x) ev h=(Vr h n ag (ev x)).map fun v=>(v,h):=by
 simp only [BM,Af]
 cases ev x<;>simp only [Vr,dV]<;>try rfl
 rename_i id el off
 cases h.get id with
 | none=>rfl
 | some k=>
  simp only [Option.bind_some]
  cases k.cs[el]?<;>rfl
theorem Mt {n:Nat} {agg:Bool} {x:X}:Z1 tp (.load n agg x) e h K=Wo (Vr h n agg (x.e2 e)) (fun v=>K v h):=by
 unfold Z1;simp only [z1,XP,BH]
theorem WL {n:Nat} {ag:Bool} {x:X}:Z1 tp (.fload n ag x) e h K=Wo (Vr h n ag (x.e2 e)) (fun v=>K v h):=by
 unfold Z1;simp only [z1,Ul,BH]
def aFo (h:AH) (n:Nat) (ag:Bool):V→Option V | .p id el off=>dV (h.get id) el off n ag | _=>none
theorem aFp {id el off n:Nat} {ag:Bool}:aFo h n ag (.p id el off)=dV (h.get id) el off n ag:=An rfl
theorem aEI {n:Nat} {ag:Bool} {x y:X}:Z1 tp (.chk n ag x y) e h K=Wo (aFo h n ag (x.e2 e)) (fun v=>Wo (if Cy v (y.e2 e)=true then some V.u else none) (fun u=>K u h)):=by
 unfold Z1;simp only [z1,BM,Af,aFo,dV]
 cases x.e2 e<;>simp only [A5]
 rw [B0,B0]
 refine FV fun k=>?_
 rw [B0,B0]
 refine FV fun r=>?_
 rw [B0]
 refine FV fun v=>?_
 split<;>simp only [A5,AV]
theorem Sk {l m:List V}:Cy (.agg l) (.agg m)=BT l m:=An rfl
theorem sameVa_sl {a b c d:Nat}:Cy (.sl a b c d) (.sl a b c d)=true:=by simp [Cy,sameV]
theorem bH {a b c:Nat}:Cy (.p a b c) (.p a b c)=true:=by simp [Cy,sameV]
theorem Vg:Cy .ns .ns=true:=An rfl
theorem bF {x:Bool}:Cy (.b x) (.b x)=true:=by simp [Cy,sameV]
theorem bG {k:IntKind} {n:Int}:Cy (.i k n) (.i k n)=true:=by simp [Cy,sameV]
theorem bE {a b c d:Nat}:sameV (.sl a b c d) (.sl a b c d)=true:=by simp [sameV]
theorem nD {a b c:Nat}:sameV (.p a b c) (.p a b c)=true:=by simp [sameV]
theorem bD:sameV .ns .ns=true:=An rfl
theorem nB {x:Bool}:sameV (.b x) (.b x)=true:=by simp [sameV]
theorem nC {k:IntKind} {n:Int}:sameV (.i k n) (.i k n)=true:=by simp [sameV]
def NS (g:Option BU) (l id el len cap:Nat):Option V:=if g.isSome=true∧l≤id∧0<cap then some (.sl id el len cap) else none
def ZF (h:AH):V→Option V | .sl id el len cap=>NS (h.get id) h.lim id el len cap | _=>none
theorem ZG {id el len cap:Nat}:ZF h (.sl id el len cap)=NS (h.get id) h.lim id el len cap:=An rfl
theorem ZE {k:BU} {l id el len cap:Nat} (h1:l≤id) (h2:0<cap):NS (some k) l id el len cap=some (.sl id el len cap):=by simp [NS,h1,h2]
theorem fO {x:X}:Z1 tp (.mark x) e h K=Wo (ZF h (x.e2 e)) (fun v=>K v h):=by
 unfold Z1;simp only [z1,BM,Af,ZF,NS]
 cases x.e2 e<;>simp only [A5]
 split<;>simp only [A5,AV]
def Wst (tp:TP) (n:Nat) (p v:V) (h:AH) (K:AH→Prop) (t:Fz K:=.mk):Prop:=match p with
 | .p id el off=>(h.lim≤id∧0<n∧v.cells.length=n∧v.cells.all V.isCell=true)∧Wo (h.get id) (fun k=>Wo (k.cs[el]?) (fun r=>off+n≤r.length∧Wv (h.put id ⟨k.sz,k.cs.set el (over r off v.cells)⟩) K))
 | _=>False
def aEE (tp:TP) (l n id el off:Nat) (v:V) (h:AH) (K:AH→Prop) (t:Fz K:=.mk):Prop:=(l≤id∧0<n∧v.cells.length=n∧v.cells.all V.isCell=true)∧Wo (h.get id) (fun k=>Wo (k.cs[el]?) (fun r=>off+n≤r.length∧Wv (h.put id ⟨k.sz,k.cs.set el (over r off v.cells)⟩) K))
theorem aT5 {n id el off:Nat} {v:V} {K:AH→Prop}:Wst tp n (.p id el off) v h K=aEE tp h.lim n id el off v h K:=An rfl
theorem fF {l n id el off:Nat} {v:V} {K:AH→Prop} (hl:l≤id):aEE tp l n id el off v h K=((0<n∧v.cells.length=n∧v.cells.all V.isCell=true)∧Wo (h.get id) (fun k=>Wo (k.cs[el]?) (fun r=>off+n≤r.length∧Wv (h.put id ⟨k.sz,k.cs.set el (over r off v.cells)⟩) K))):=by
 simp only [aEE,hl,true_and]
theorem WM {n:Nat} {a x:X}:Z1 tp (.store n a x) e h K=Wst tp n (a.e2 e) (x.e2 e) h (K .u):=by
 unfold Z1;simp only [z1,BM,Af,Wst]
 cases a.e2 e<;>simp only [A5]
 rw [CZ,B0]
 congr 1
 refine FV fun k=>?_
 rw [B0]
 refine FV fun r=>?_
 rw [CZ,AV];rfl
def RR:V→Option V | .p id el off=>some (.p id el off) | .fp s xs j o=>some (.fp s xs j o) | .ifc t v=>some (.ifc t v) | .f (.func g) a b=>some (.f (.func g) a b) | _=>none
theorem aHn {a b c:Nat}:RR (.p a b c)=some (.p a b c):=An rfl
theorem lS {s j o:Nat} {xs:List (List V)}:RR (.fp s xs j o)=some (.fp s xs j o):=An rfl
theorem ZJ {t:Nat} {v:V}:RR (.ifc t v)=some (.ifc t v):=An rfl
theorem aHm {g:Nat} {a b:List V}:RR (.f (.func g) a b)=some (.f (.func g) a b):=An rfl
theorem aES {x:X}:Z1 tp (.nck x) e h K=Wo (RR (x.e2 e)) (fun v=>K v h):=by
 unfold Z1;simp only [z1,BM,Af]
 generalize x.e2 e=v
 cases v with
 | f g a b=>cases g<;>simp only [RR,AV,A5]
 | _=>simp only [RR,AV,A5]
theorem aEG {op:BinOp} {x y:X}:Z1 tp (.bin op x y) e h K=Wo (Bt op (x.e2 e) (y.e2 e)) (fun v=>K v h):=by unfold Z1;simp only [z1,BM,Af,BH]
theorem JW {n:Bool} {k:EK} {x y:X} (hk:k≠.sl):Z1 tp (.eq n k x y) e h K=Wo (Gl k (x.e2 e) (y.e2 e)) (fun r=>Wv (.b (if n then !r else r)) (fun v=>K v h)):=by
 unfold Z1;cases k<;>first | (exact absurd rfl hk) | (simp only [z1,BM,Af,BH];rfl)
theorem aEJ {n:Bool} {x y:X}:Z1 tp (.eq n .b x y) e h K=Wo (Gl .b (x.e2 e) (y.e2 e)) (fun r=>Wv (.b (if n then !r else r)) (fun v=>K v h)):=JW (by simp)
theorem WK {n:Bool} {x y:X}:Z1 tp (.eq n .ptr x y) e h K=Wo (Gl .ptr (x.e2 e) (y.e2 e)) (fun r=>Wv (.b (if n then !r else r)) (fun v=>K v h)):=JW (by simp)
theorem fK {n:Bool} {x y:X}:Z1 tp (.eq n .fn x y) e h K=Wo (Gl .fn (x.e2 e) (y.e2 e)) (fun r=>Wv (.b (if n then !r else r)) (fun v=>K v h)):=JW (by simp)
theorem WJ {n:Bool} {x y:X}:Z1 tp (.eq n .ifc x y) e h K=Wo (Gl .ifc (x.e2 e) (y.e2 e)) (fun r=>Wv (.b (if n then !r else r)) (fun v=>K v h)):=JW (by simp)
theorem WI {n:Bool} {ks:List CK} {x y:X}:Z1 tp (.eq n (.agg ks) x y) e h K=Wo (Gl (.agg ks) (x.e2 e) (y.e2 e)) (fun r=>Wv (.b (if n then !r else r)) (fun v=>K v h)):=JW (by simp)
def Nl (neg:Bool) (v w:V) (h:AH) (K:V→AH→Prop) (t:Fz K:=.mk):Prop:=SB neg v w h K
theorem fL {n:Bool} {x y:X}:Z1 tp (.eq n .sl x y) e h K=Nl n (x.e2 e) (y.e2 e) h K:=An rfl
theorem fC {n:Bool} {s:Nat} {xs:List (List V)}:Nl n (.fl s xs) .ns h K=∀ t:Bool,(xs≠[]→t=false)→Wv (.b (if n then !t else t)) (fun v=>K v h):=An rfl
theorem fD {n:Bool}:Nl n .ns .ns h K=Wv (.b (if n then false else true)) (fun v=>K v h):=by
 unfold Nl SB;simp only [Gl,AV,Bool.not_true];rfl
theorem fB {n:Bool}:Nl n .e0 .ns h K=Wv (.b (if n then true else false)) (fun v=>K v h):=by
 unfold Nl SB;simp only [Gl,AV,Bool.not_false];rfl
theorem fE {n:Bool} {a b c d:Nat}:Nl n (.sl a b c d) .ns h K=Wv (.b (if n then true else false)) (fun v=>K v h):=by
 unfold Nl SB;simp only [Gl,AV,Bool.not_false];rfl
theorem aUb {op:UnOp} {x:X}:Z1 tp (.un op x) e h K=Wo (rJ op (x.e2 e)) (fun v=>K v h):=by unfold Z1;simp only [z1,BM,Af,BH]
def XA (k:IntKind):V→Option V | .i _ n=>some (.i k (k.wrap n)) | _=>none
theorem jI {k j:IntKind} {n:Int}:XA k (.i j n)=some (.i k (k.wrap n)):=An rfl
theorem fJ {k:IntKind} {x:X}:Z1 tp (.conv k x) e h K=Wo (XA k (x.e2 e)) (fun v=>K v h):=by
 unfold Z1;simp only [z1,BM,Af,XA]
 cases x.e2 e<;>simp only [AV,A5]
def bS:V→Option V | .s x=>some (.s x) | _=>none
theorem nN {x:ByteArray}:bS (.s x)=some (.s x):=An rfl
theorem fV {x:X}:Z1 tp (.strs x) e h K=Wo (bS (x.e2 e)) (fun v=>K v h):=by
 unfold Z1;simp only [z1,BM,Af,bS]
 cases x.e2 e<;>simp only [AV,A5]
def aG5:V→Option V | .i _ n=>some (.s (Utf8.encode n)) | _=>none
theorem aG6 {k:IntKind} {n:Int}:aG5 (.i k n)=some (.s (Utf8.encode n)):=An rfl
theorem aEN {x:X}:Z1 tp (.i2s x) e h K=Wo (aG5 (x.e2 e)) (fun v=>K v h):=by
 unfold Z1;simp only [z1,BM,Af,aG5]
 cases x.e2 e<;>simp only [AV,A5]
def asS:V→Option ByteArray | .s x=>some x | _=>none
theorem aUg {x:ByteArray}:asS (.s x)=some x:=An rfl
theorem QZ {x:X}:Z1 tp (.s2b x) e h K=Wo (asS (x.e2 e)) (fun b=>b.size<4294967296∧Wv (.sl h.next 0 b.size b.size) (fun v=>Wv (h.alloc ⟨1,Cj b⟩) (fun h'=>K v h'))):=by
 unfold Z1;simp only [z1,BM,Af,asS]
 cases hx:x.e2 e<;>simp only [AV,A5]
 rw [CZ,AV];rfl
def En (sz:Nat) (h:AH) (v:V):Option (List (List V)):=Fp sz h v
theorem Ou {sz:Nat} {xs:List (List V)}:En sz h (.fl sz xs)=some xs:=by simp [En,Fp]
theorem aQ {sz:Nat}:En sz h .ns=some []:=An rfl
theorem aP {sz:Nat}:En sz h .e0=some []:=An rfl
theorem mY {x:ByteArray}:En 1 h (.s x)=some (Cj x):=An rfl
def L7 (g:Option BU) (sz el len:Nat):Option (List (List V)):=match g with
 | some k=>if k.sz=sz∧el+len≤k.cs.length then some ((k.cs.drop el).take len) else none
 | none=>none
theorem Ov {sz id el len cap:Nat}:En sz h (.sl id el len cap)=L7 (h.get id) sz el len:=An rfl
theorem Sg {sz el len:Nat} {cs:List (List V)}:L7 (some ⟨sz,cs⟩) sz el len=if el+len≤cs.length then some ((cs.drop el).take len) else none:=by simp [L7]
theorem aO {sz el len:Nat} {cs:List (List V)} (hl:el+len≤cs.length):L7 (some ⟨sz,cs⟩) sz el len=some ((cs.drop el).take len):=by simp [L7,hl]
def Ln (h:AH) (v:V):Option V:=match v with | .s _=>none | v=>(En 1 h v).bind fun l=>(bytesOf? l).map fun r=>.s ⟨r.toArray⟩
theorem hJ {xs:List (List V)}:Ln h (.fl 1 xs)=(bytesOf? xs).map fun r=>.s ⟨r.toArray⟩:=by simp [Ln,En,Fp]
theorem hU:Ln h .ns=some (.s ⟨#[]⟩):=An rfl
theorem hZ {id el len cap:Nat}:Ln h (.sl id el len cap)=(L7 (h.get id) 1 el len).bind fun l=>(bytesOf? l).map fun r=>.s ⟨r.toArray⟩:=An rfl
theorem QW {x:X}:Z1 tp (.b2s x) e h K=Wo (Ln h (x.e2 e)) (fun v=>K v h):=by
 unfold Z1;simp only [z1,BM,Af,Ln,En,Fp]
 cases x.e2 e<;>simp only [A5]
 case fl s xs=>
  split
  ·rw [BH,Option.bind_some,BH]
  ·simp only [Option.bind_none,A5]
 all_goals (rw [B0,B0];refine FV fun a=>?_;rw [BH,BH])
theorem fQ {t:Nat} {x:X}:Z1 tp (.mkif t x) e h K=Wv (.ifc t (x.e2 e)) (fun v=>K v h):=by unfold Z1;simp only [z1,BM,Af,AV,HN]
theorem fP {fn:Fn} {a c:List X}:Z1 tp (.mkfn fn a c) e h K=Wv (.f fn (a.map (X.e2 e)) (c.map (X.e2 e))) (fun v=>K v h):=by unfold Z1;simp only [z1,BM,Af,AV,HN]
def Wmk (z:List V) (n c:V) (h:AH) (K:V→AH→Prop) (t:Fz K:=.mk):Prop:=match n,c with
 | .i _ a,.i _ m=>(0≤a∧a≤m∧m<Bh)∧Wv (.sl h.next 0 a.toNat m.toNat) (fun v=>Wv (h.alloc ⟨z.length,List.replicate m.toNat z⟩) (fun h'=>K v h'))
 | _,_=>False
theorem aT3 {z:List V} {k j:IntKind} {a m:Int}:Wmk z (.i k a) (.i j m) h K=((0≤a∧a≤m∧m<4294967296)∧Wv (.sl h.next 0 a.toNat m.toNat) (fun v=>Wv (h.alloc ⟨z.length,List.replicate m.toNat z⟩) (fun h'=>K v h'))):=An rfl
theorem fR {z:List V} {n c:X}:Z1 tp (.mksl z n c) e h K=(z.all plain1=true∧Wmk z (n.e2 e) (c.e2 e) h K):=by
 unfold Z1;simp only [z1,BM,Af,CZ]
 congr 1
 generalize n.e2 e=v
 generalize c.e2 e=w
 cases v<;>cases w<;>simp only [Wmk,A5,CZ,AV,HN]
def Wmz (z:List V) (x n:V) (h:AH) (K:V→AH→Prop) (t:Fz K:=.mk):Prop:=match x,n with
 | .ns,.i _ a=>(0<a∧a<Bh)∧Wv (.sl h.next 0 a.toNat a.toNat) (fun v=>Wv (h.alloc ⟨z.length,List.replicate a.toNat z⟩) (fun h'=>K v h'))
 | _,_=>False
theorem aT4 {z:List V} {k:IntKind} {a:Int}:Wmz z .ns (.i k a) h K=((0<a∧a<4294967296)∧Wv (.sl h.next 0 a.toNat a.toNat) (fun v=>Wv (h.alloc ⟨z.length,List.replicate a.toNat z⟩) (fun h'=>K v h'))):=An rfl
theorem fG {z:List V} {x n:X}:Z1 tp (.appz z x n) e h K=(z.all plain1=true∧Wmz z (x.e2 e) (n.e2 e) h K):=by
 unfold Z1;simp only [z1,BM,Af,CZ]
 congr 1
 generalize x.e2 e=v
 generalize n.e2 e=w
 cases v<;>cases w<;>simp only [Wmz,A5,CZ,AV,HN]
def HF (g:Option BU) (sz:Nat) (x:V) (lo hi mx:Option V):Option V:=match x with
    | .ns=>if mx.isNone||hi.isSome then (AO mx 0 0).bind fun m=>(AO hi 0 m).bind fun t=>(AO lo 0 t).map fun _=>.ns else none
    | .e0=>if mx.isNone||hi.isSome then (AO mx 0 0).bind fun m=>(AO hi 0 m).bind fun t=>(AO lo 0 t).map fun _=>.e0 else none
    | .sl id el len cap=>
     g.bind fun k=>
      if k.sz=sz∧(mx.isNone||hi.isSome)=true∧len≤cap then
       (AO mx cap cap).bind fun m=>(AO hi len m).bind fun t=>(AO lo 0 t).map fun l=>.sl id (el+l) (t - l) (m - l)
      else none
    | .fl s xs=>if s=sz∧(mx.isNone||hi.isSome)=true then (AO mx xs.length xs.length).bind fun m=>(AO hi xs.length m).bind fun t=>(AO lo 0 t).map fun l=>.fl s ((xs.drop l).take (t - l)) else none
    | _=>none
def AW:V→Nat | .sl id _ _ _=>id | .p id _ _=>id | _=>0
def Fa:V→Nat | .sl _ el _ _=>el | _=>0
theorem aHf {a b c d:Nat}:AW (.sl a b c d)=a:=An rfl
theorem aFt {a b c d:Nat}:Fa (.sl a b c d)=b:=An rfl
theorem aUL {a b c:Nat}:AW (.p a b c)=a:=An rfl
theorem nJ {g:Option BU} {s:Nat} {xs:List (List V)} {lo hi:Option V}:HF g s (.fl s xs) lo hi none=(AO hi xs.length xs.length).bind fun t=>(AO lo 0 t).map fun l=>.fl s ((xs.drop l).take (t - l)):=by
 simp [HF,AO]
theorem bO {g:Option BU} {s:Nat} {xs:List (List V)} {lo:Option V} {hi mx:V}:HF g s (.fl s xs) lo (some hi) (some mx)=(AO (some mx) xs.length xs.length).bind fun m=>(AO (some hi) xs.length m).bind fun t=>(AO lo 0 t).map fun l=>.fl s ((xs.drop l).take (t - l)):=by
 simp [HF]
theorem Um {sz:Nat} {x:X} {lo hi mx:Option X} {ev:X→V}:BM (.slice sz x lo hi mx) ev h=(HF (h.get (AW (ev x))) sz (ev x) (lo.map ev) (hi.map ev) (mx.map ev)).map fun v=>(v,h):=by
 have two:∀ (a b c:Option V) (p q r:Nat) (F:Nat→Nat→Nat→V),((AO a p q).bind fun m=>(AO b r m).bind fun t=>(AO c 0 t).map fun l=>(F m t l,h))=((AO a p q).bind fun m=>(AO b r m).bind fun t=>(AO c 0 t).map fun l=>F m t l).map (fun v=>(v,h)):=by
  intro a b c p q r F
  cases AO a p q with
  | none=>rfl
  | some m=>
   simp only [Option.bind_some]
   cases AO b r m with
   | none=>rfl
   | some t=>
    simp only [Option.bind_some]
    cases AO c 0 t<;>rfl
 simp only [BM,Af]
 cases ev x<;>simp only [HF,Option.map_none,Option.isNone_map,Option.isSome_map,AW]
 ·split
  ·exact two _ _ _ _ _ _ (fun _ _ _=>V.ns)
  ·rfl
 ·split
  ·exact two _ _ _ _ _ _ (fun _ _ _=>V.e0)
  ·rfl
 ·rename_i id el len cap
  cases h.get id with
  | none=>rfl
  | some k=>
   simp only [Option.bind_some]
   split
   ·exact two _ _ _ _ _ _ (fun m t l=>V.sl id (el+l) (t - l) (m - l))
   ·rfl
 ·rename_i s xs
  split
  ·exact two _ _ _ _ _ _ (fun m t l=>V.fl s ((xs.drop l).take (t - l)))
  ·rfl
theorem JX {sz:Nat} {x:X} {lo hi mx:Option X}:Z1 tp (.slice sz x lo hi mx) e h K=Wo (HF (h.get (AW (x.e2 e))) sz (x.e2 e) (lo.map (X.e2 e)) (hi.map (X.e2 e)) (mx.map (X.e2 e))) (fun v=>K v h):=by
 unfold Z1;simp only [z1,Um,BH]
def aHV (x:V) (lo hi:Option V):Option V:=match x with
    | .s x=>(AO hi x.size x.size).bind fun t=>(AO lo 0 t).map fun l=>.s (x.extract l t)
    | _=>none
theorem aHW {x:ByteArray} {lo hi:Option V}:aHV (.s x) lo hi=(AO hi x.size x.size).bind fun t=>(AO lo 0 t).map fun l=>.s (x.extract l t):=An rfl
theorem TT {x:X} {lo hi:Option X}:Z1 tp (.sslice x lo hi) e h K=Wo (aHV (x.e2 e) (lo.map (X.e2 e)) (hi.map (X.e2 e))) (fun v=>K v h):=by
 unfold Z1;simp only [z1,BM,Af,aHV]
 cases x.e2 e<;>simp only [A5]
 rw [B0,B0]
 refine FV fun t=>?_
 rw [BH,BH]
def jR (off:Nat):V→Option V | .p id el o=>some (.p id el (o+off)) | .fp s xs j o=>some (.fp s xs j (o+off)) | _=>none
theorem aFz {off a b c:Nat}:jR off (.p a b c)=some (.p a b (c+off)):=An rfl
theorem jS {off s j o:Nat} {xs:List (List V)}:jR off (.fp s xs j o)=some (.fp s xs j (o+off)):=An rfl
theorem aEL {off:Nat} {x:X}:Z1 tp (.fad off x) e h K=Wo (jR off (x.e2 e)) (fun v=>K v h):=by
 unfold Z1;simp only [z1,BM,Af,jR]
 cases x.e2 e<;>simp only [AV,A5]
def aFC (off n:Nat) (agg:Bool):V→Option V | .agg r=>Is r off n agg | _=>none
theorem X6 {off n:Nat} {agg:Bool} {r:List V}:aFC off n agg (.agg r)=Is r off n agg:=An rfl
theorem aEM {off n:Nat} {agg:Bool} {x:X}:Z1 tp (.fld off n agg x) e h K=Wo (aFC off n agg (x.e2 e)) (fun v=>K v h):=by
 unfold Z1;simp only [z1,BM,Af,aFC]
 cases x.e2 e<;>simp only [BH,A5]
def Jy (g:Option BU) (sz:Nat) (v i:V):Option V:=match v with
 | .sl id el len _=>match g with | some k=>if k.sz=sz then (B7 i len).map fun j=>.p id (el+j) 0 else none | none=>none
 | .fl s xs=>if s=sz then (B7 i xs.length).map fun j=>.fp s xs j 0 else none
 | _=>none
theorem kX {g:Option BU} {s:Nat} {xs:List (List V)} {i:V}:Jy g s (.fl s xs) i=(B7 i xs.length).map fun j=>.fp s xs j 0:=by simp [Jy]
theorem kY {sz id el len cap:Nat} {cs:List (List V)} {i:V}:Jy (some ⟨sz,cs⟩) sz (.sl id el len cap) i=(B7 i len).map fun j=>.p id (el+j) 0:=by simp [Jy]
theorem aHe {sz:Nat} {v i:V}:kZ (Nq h v) sz v i=Jy (h.get (AW v)) sz v i:=by
 cases v<;>try rfl
 rename_i id el len cap
 simp only [Nq,AW]
 cases h.get id<;>rfl
theorem aEO {sz:Nat} {x i:X}:Z1 tp (.iad sz x i) e h K=Wo (Jy (h.get (AW (x.e2 e))) sz (x.e2 e) (i.e2 e)) (fun v=>K v h):=by
 unfold Z1;simp only [z1,BM,aHe,BH]
def Tf (sz len:Nat):V→V→Option V
 | .p id el off,i=>(B7 i len).map fun j=>.p id el (off+j*sz)
 | .fp s xs k off,i=>(B7 i len).map fun j=>.fp s xs k (off+j*sz)
 | _,_=>none
theorem lB {sz len id el off:Nat} {i:V}:Tf sz len (.p id el off) i=(B7 i len).map fun j=>.p id el (off+j*sz):=An rfl
theorem Zo {sz len s k off:Nat} {xs:List (List V)} {i:V}:Tf sz len (.fp s xs k off) i=(B7 i len).map fun j=>.fp s xs k (off+j*sz):=An rfl
theorem fM {sz len:Nat} {x i:X}:Z1 tp (.iada sz len x i) e h K=Wo (Tf sz len (x.e2 e) (i.e2 e)) (fun v=>K v h):=by
 unfold Z1;simp only [z1,BM,Af,Tf]
 cases x.e2 e<;>simp only [A5,BH]
def aHh (sz len:Nat) (agg:Bool):V→V→Option V
 | .agg r,i=>(B7 i len).bind fun j=>Is r (j*sz) sz agg
 | _,_=>none
theorem Zp {sz len:Nat} {agg:Bool} {r:List V} {i:V}:aHh sz len agg (.agg r) i=(B7 i len).bind fun j=>Is r (j*sz) sz agg:=An rfl
theorem aEP {sz len:Nat} {agg:Bool} {x i:X}:Z1 tp (.idx sz len agg x i) e h K=Wo (aHh sz len agg (x.e2 e) (i.e2 e)) (fun v=>K v h):=by
 unfold Z1;simp only [z1,BM,Af,aHh]
 cases x.e2 e<;>simp only [A5]
 rw [B0,B0]
 refine FV fun t=>?_
 rw [BH]
def bN:V→V→Option V
 | .s x,i=>(B7 i x.size).map fun j=>.i .u8 ((x.data.toList.getD j 0).toNat:Int)
 | _,_=>none
theorem nF {x:ByteArray} {i:V}:bN (.s x) i=(B7 i x.size).map fun j=>.i .u8 ((x.data.toList.getD j 0).toNat:Int):=An rfl
theorem fT {x i:X}:Z1 tp (.sidx x i) e h K=Wo (bN (x.e2 e) (i.e2 e)) (fun v=>K v h):=by
 unfold Z1;simp only [z1,BM,Af,bN]
 cases x.e2 e<;>simp only [A5,B0,BH]
def aFy:V→Nat→Option V | .tup l,i=>l[i]? | _,_=>none
theorem X0 {l:List V} {i:Nat}:aFy (.tup l) i=l[i]?:=An rfl
theorem aEK {x:X} {i:Nat}:Z1 tp (.ext x i) e h K=Wo (aFy (x.e2 e) i) (fun v=>K v h):=by
 unfold Z1;simp only [z1,BM,Af,aFy]
 cases x.e2 e<;>simp only [A5,BH]
theorem aEF {sz:Nat} {x y:X}:Z1 tp (.app sz x y) e h K=Wo (En sz h (y.e2 e)) (fun new=>Wo (J0 sz h (x.e2 e) new) (fun z=>K z.1 z.2)):=by
 unfold Z1;simp only [z1,BM,B0];rfl
def H2:V→Option V | .ns=>some (.i .i64 0) | .e0=>some (.i .i64 0) | .sl _ _ n _=>some (.i .i64 n) | .fl _ xs=>some (.i .i64 xs.length) | _=>none
theorem lL:H2 .ns=some (.i .i64 0):=An rfl
theorem lJ:H2 .e0=some (.i .i64 0):=An rfl
theorem lM {a b c d:Nat}:H2 (.sl a b c d)=some (.i .i64 c):=An rfl
theorem lK {s:Nat} {xs:List (List V)}:H2 (.fl s xs)=some (.i .i64 xs.length):=An rfl
theorem aER {x:X}:Z1 tp (.len x) e h K=Wo (H2 (x.e2 e)) (fun v=>K v h):=by
 unfold Z1;simp only [z1,BM,Af,H2]
 cases x.e2 e<;>simp only [AV,A5]
def bQ:V→Option V | .s x=>some (.i .i64 x.size) | _=>none
theorem nK {x:ByteArray}:bQ (.s x)=some (.i .i64 x.size):=An rfl
theorem fU {x:X}:Z1 tp (.slen x) e h K=Wo (bQ (x.e2 e)) (fun v=>K v h):=by
 unfold Z1;simp only [z1,BM,Af,bQ]
 cases x.e2 e<;>simp only [AV,A5]
theorem fN {n:Nat}:Z1 tp (.lenc n) e h K=K (.i .i64 n) h:=by unfold Z1;simp only [z1,BM,Af,AV]
theorem aT8 {x:X} {l:List X}:Z1 tp (.mn (x::l)) e h K=Wo (E3 NV (x.e2 e) (l.map (X.e2 e))) (fun v=>K v h):=by unfold Z1;simp only [z1,BM,Af,BH]
theorem aUa {x:X} {l:List X}:Z1 tp (.mx (x::l)) e h K=Wo (E3 NU (x.e2 e) (l.map (X.e2 e))) (fun v=>K v h):=by unfold Z1;simp only [z1,BM,Af,BH]
def nQ (t:Nat) (ok:Bool) (z:V):V→Option V
 | .ifc t' v=>if t'=t then some (if ok then .tup [v,.b true] else v) else if ok then some (.tup [z,.b false]) else none
 | .ni=>if ok then some (.tup [z,.b false]) else none
 | _=>none
theorem Vl {t:Nat} {z v:V}:nQ t false z (.ifc t v)=some v:=by simp [nQ]
theorem aET {t:Nat} {ok:Bool} {z:V} {x:X}:Z1 tp (.tas t ok z x) e h K=(plain z=true∧Wo (nQ t ok z (x.e2 e)) (fun v=>K v h)):=by
 unfold Z1;simp only [z1,BM,Af,CZ,nQ]
 congr 1
 cases x.e2 e<;>simp only [A5]<;>(repeat' split)<;>simp only [A5,AV]
def SN:V→List V→Option (Nat×List V) | .f (.func g) first caps,l=>some (g,first++l++caps) | _,_=>none
theorem LG {g:Nat} {a c l:List V}:SN (.f (.func g) a c) l=some (g,a++l++c):=An rfl
theorem SJ {f:X} {l:List X}:Z1 tp (.call f l) e h K=Wo (SN (f.e2 e) (l.map (X.e2 e))) (fun c=>Cq tp c.1 c.2 h K):=by
 unfold Z1;simp only [z1,callee]
 generalize f.e2 e=v
 cases v with
 | f g a c=>cases g<;>rfl
 | _=>rfl
theorem aT7 {f:Nat} {l:List X}:Z1 tp (.call (.fn f) l) e h K=Cq tp f (l.map (X.e2 e)) h K:=by
 rw [SJ,sY,LG,AV];simp
def tG (tp:TP) (m:String) (l:List V):V→Option (Nat×List V)
 | .ifc t v=>(tp.meth t m).bind fun q=>match q.at_ with
  | none=>some (q.f,v::l)
  | some j=>match v with | .agg cs=>(cs[j]?).map fun r=>(q.f,r::l) | _=>none
 | _=>none
theorem UN {m:String} {l:List V} {t:Nat} {v:V}:tG tp m l (.ifc t v)=(tp.meth t m).bind fun q=>match q.at_ with
    | none=>some (q.f,v::l)
    | some j=>match v with | .agg cs=>(cs[j]?).map fun r=>(q.f,r::l) | _=>none:=An rfl
theorem aEQ {x:X} {m:String} {l:List X}:Z1 tp (.inv x m l) e h K=Wo (tG tp m (l.map (X.e2 e)) (x.e2 e)) (fun c=>Cq tp c.1 c.2 h K):=by
 unfold Z1;simp only [z1,callee]
 cases x.e2 e<;>rfl
/-! Quiet ones. -/
theorem AY {o:O} (hp:AR o=true):Et tp o e h K=Z1 tp o e h K:=by unfold Et Z1 zq1;rw [if_pos hp]
theorem Ce {o:O} (hp:AR o=false):Et tp o e h K=Z1 tp o e h.raise (fun v h'=>K v (h'.back h.lim)):=by unfold Et Z1 zq1;rw [if_neg (by simp [hp])]
theorem UG {n:Nat} {g:Bool} {v:V}:Vr h.raise n g v=Vr h n g v:=by cases v<;>rfl
theorem WZ {n:Nat} {g:Bool} {x:X}:Et tp (.load n g x) e h K=Z1 tp (.load n g x) e h K:=by
 rw [Ce rfl,Mt,Mt,UG];rfl
theorem TX {sz:Nat} {x:X} {lo hi mx:Option X}:Et tp (.slice sz x lo hi mx) e h K=Z1 tp (.slice sz x lo hi mx) e h K:=by
 rw [Ce rfl,JX,JX];rfl
theorem TU {z:List V}:Et tp (.alloc z) e h K=Z1 tp (.alloc z) e h K:=by
 rw [Ce rfl,JV,JV];rfl
theorem gE {x:X}:Et tp (.box x) e h K=Z1 tp (.box x) e h K:=by
 rw [Ce rfl,QX,QX];rfl
theorem gA {z:List V}:Et tp (.alc z) e h K=Z1 tp (.alc z) e h K:=by
 rw [Ce rfl,QV,QV];rfl
theorem WU {sz n:Nat} {z:List V} {ps:List (Nat×X)}:Et tp (.bslc sz z n ps) e h K=Z1 tp (.bslc sz z n ps) e h K:=by
 rw [Ce rfl,Ms,Ms];rfl
theorem gF {sz n:Nat} {z:List V} {ps:List (Nat×X)}:Et tp (.bsl sz z n ps) e h K=Z1 tp (.bsl sz z n ps) e h K:=by
 rw [Ce rfl,QY,QY];rfl
theorem gC {x:X}:Et tp (.b2s x) e h K=Z1 tp (.b2s x) e h K:=by
 rw [Ce rfl,QW,QW]
 have:Ln h.raise (x.e2 e)=Ln h (x.e2 e):=by cases x.e2 e<;>rfl
 rw [this];rfl
theorem gQ {x:X}:Et tp (.s2b x) e h K=Z1 tp (.s2b x) e h K:=by
 rw [Ce rfl,QZ,QZ];rfl
theorem WT {z:List V} {x y:X}:Et tp (.appz z x y) e h K=Z1 tp (.appz z x y) e h.raise (fun v h'=>K v (h'.back h.lim)):=Ce rfl
theorem W4 {z:List V} {x y:X}:Et tp (.mksl z x y) e h K=Z1 tp (.mksl z x y) e h.raise (fun v h'=>K v (h'.back h.lim)):=Ce rfl
theorem gB {sz:Nat} {x y:X}:Et tp (.app sz x y) e h K=Z1 tp (.app sz x y) e h.raise (fun v h'=>K v (h'.back h.lim)):=Ce rfl
theorem TY {n:Nat} {x y:X}:Et tp (.store n x y) e h K=Z1 tp (.store n x y) e h.raise (fun v h'=>K v (h'.back h.lim)):=Ce rfl
theorem W0 {x:X}:Et tp (.mark x) e h K=Z1 tp (.mark x) e h.raise (fun v h'=>K v (h'.back h.lim)):=Ce rfl
theorem WV {f:X} {l:List X}:Et tp (.call f l) e h K=Z1 tp (.call f l) e h.raise (fun v h'=>K v (h'.back h.lim)):=Ce rfl
theorem gN {x:X} {m:String} {l:List X}:Et tp (.inv x m l) e h K=Z1 tp (.inv x m l) e h.raise (fun v h'=>K v (h'.back h.lim)):=Ce rfl
theorem aE2 {x:X}:Et tp (.mv x) e h K=Z1 tp (.mv x) e h K:=AY rfl
theorem W5 {a b c:X}:Et tp (.pick a b c) e h K=Z1 tp (.pick a b c) e h K:=AY rfl
theorem TV {z:List V} {ps:List (Nat×Nat×X)}:Et tp (.build z ps) e h K=Z1 tp (.build z ps) e h K:=AY rfl
theorem aEZ  : Et tp (.e0 ) e h K=Z1 tp (.e0 ) e h K:=AY rfl
theorem gP {x:X}:Et tp (.nck x) e h K=Z1 tp (.nck x) e h K:=AY rfl
theorem gD {op:BinOp} {x y:X}:Et tp (.bin op x y) e h K=Z1 tp (.bin op x y) e h K:=AY rfl
theorem aE0 {n:Bool} {k:EK} {x y:X}:Et tp (.eq n k x y) e h K=Z1 tp (.eq n k x y) e h K:=AY rfl
theorem aE4 {op:UnOp} {x:X}:Et tp (.un op x) e h K=Z1 tp (.un op x) e h K:=AY rfl
theorem WW {k:IntKind} {x:X}:Et tp (.conv k x) e h K=Z1 tp (.conv k x) e h K:=AY rfl
theorem W8 {x:X}:Et tp (.strs x) e h K=Z1 tp (.strs x) e h K:=AY rfl
theorem gK {x:X}:Et tp (.i2s x) e h K=Z1 tp (.i2s x) e h K:=AY rfl
theorem W3 {t:Nat} {x:X}:Et tp (.mkif t x) e h K=Z1 tp (.mkif t x) e h K:=AY rfl
theorem W2 {f:Fn} {a c:List X}:Et tp (.mkfn f a c) e h K=Z1 tp (.mkfn f a c) e h K:=AY rfl
theorem Q0 {x:X} {lo hi:Option X}:Et tp (.sslice x lo hi) e h K=Z1 tp (.sslice x lo hi) e h K:=AY rfl
theorem gI {o:Nat} {x:X}:Et tp (.fad o x) e h K=Z1 tp (.fad o x) e h K:=AY rfl
theorem gJ {o n:Nat} {g:Bool} {x:X}:Et tp (.fld o n g x) e h K=Z1 tp (.fld o n g x) e h K:=AY rfl
theorem gL {s:Nat} {x i:X}:Et tp (.iad s x i) e h K=Z1 tp (.iad s x i) e h K:=AY rfl
theorem WX {s n:Nat} {x i:X}:Et tp (.iada s n x i) e h K=Z1 tp (.iada s n x i) e h K:=AY rfl
theorem gM {s n:Nat} {g:Bool} {x i:X}:Et tp (.idx s n g x i) e h K=Z1 tp (.idx s n g x i) e h K:=AY rfl
theorem W6 {x i:X}:Et tp (.sidx x i) e h K=Z1 tp (.sidx x i) e h K:=AY rfl
theorem gH {x:X} {i:Nat}:Et tp (.ext x i) e h K=Z1 tp (.ext x i) e h K:=AY rfl
theorem TW {n:Nat} {ag:Bool} {x:X}:Et tp (.fload n ag x) e h K=Z1 tp (.fload n ag x) e h K:=AY rfl
theorem gO {x:X}:Et tp (.len x) e h K=Z1 tp (.len x) e h K:=AY rfl
theorem W7 {x:X}:Et tp (.slen x) e h K=Z1 tp (.slen x) e h K:=AY rfl
theorem WY {n:Nat}:Et tp (.lenc n) e h K=Z1 tp (.lenc n) e h K:=AY rfl
theorem aE1 {l:List X}:Et tp (.mn l) e h K=Z1 tp (.mn l) e h K:=AY rfl
theorem aE3 {l:List X}:Et tp (.mx l) e h K=Z1 tp (.mx l) e h K:=AY rfl
theorem gR {t:Nat} {ok:Bool} {z:V} {x:X}:Et tp (.tas t ok z x) e h K=Z1 tp (.tas t ok z x) e h K:=AY rfl
end
/-! ### Values -/
theorem iB {k:IntKind} {a b:Int}:Bt .add (.i k a) (.i k b)=some (.i k (k.wrap (a+b))):=by simp [Bt,Ha]
theorem iM {k:IntKind} {a b:Int}:Bt .sub (.i k a) (.i k b)=some (.i k (k.wrap (a - b))):=by simp [Bt,Ha]
theorem iI {k:IntKind} {a b:Int}:Bt .mul (.i k a) (.i k b)=some (.i k (k.wrap (a*b))):=by simp [Bt,Ha]
theorem iK {k:IntKind} {a b:Int} (hb:¬ b=0):Bt .quo (.i k a) (.i k b)=some (.i k (k.wrap (a.tdiv b))):=by simp [Bt,Ha,hb]
theorem iL {k:IntKind} {a b:Int} (hb:¬ b=0):Bt .rem (.i k a) (.i k b)=some (.i k (a.tmod b)):=by simp [Bt,Ha,hb]
theorem FX {k:IntKind} {a b:Int}:Bt .and (.i k a) (.i k b)=some (.i k (k.wrap (BitVec.ofInt k.bits a &&& BitVec.ofInt k.bits b).toNat)):=by simp [Bt,Ha]
theorem aFd {k:IntKind} {a b:Int}:Bt .or (.i k a) (.i k b)=some (.i k (k.wrap (BitVec.ofInt k.bits a ||| BitVec.ofInt k.bits b).toNat)):=by simp [Bt,Ha]
theorem iC {k:IntKind} {a b:Int}:Bt .eql (.i k a) (.i k b)=some (.b (decide (a=b))):=by simp [Bt,Ha]
theorem iJ {k:IntKind} {a b:Int}:Bt .neq (.i k a) (.i k b)=some (.b (decide (¬ a=b))):=by simp [Bt,Ha]
theorem iH {k:IntKind} {a b:Int}:Bt .lss (.i k a) (.i k b)=some (.b (decide (a<b))):=by simp [Bt,Ha]
theorem iG {k:IntKind} {a b:Int}:Bt .leq (.i k a) (.i k b)=some (.b (decide (a≤b))):=by simp [Bt,Ha]
theorem iE {k:IntKind} {a b:Int}:Bt .gtr (.i k a) (.i k b)=some (.b (decide (b<a))):=by simp [Bt,Ha]
theorem iD {k:IntKind} {a b:Int}:Bt .geq (.i k a) (.i k b)=some (.b (decide (b≤a))):=by simp [Bt,Ha]
theorem aId {x:Bool}:rJ .not (.b x)=some (.b (!x)):=An rfl
theorem aIc {k:IntKind} {n:Int}:rJ .neg (.i k n)=some (.i k (k.wrap (0 - n))):=An rfl
theorem aUS {k:IntKind} {x y:Int}:NV (.i k x) (.i k y)=some (.i k (min x y)):=by
 simp only [NV,if_true];congr 2
 omega
theorem aUR {k:IntKind} {x y:Int}:NU (.i k x) (.i k y)=some (.i k (max x y)):=by
 simp only [NU,if_true];congr 2
 omega
theorem X9 {f:V→V→Option V} {x:V}:E3 f x []=some x:=An rfl
theorem Uv {f:V→V→Option V} {x y:V} {l:List V}:E3 f x (y::l)=(f x y).bind fun z=>E3 f z l:=An rfl
theorem aW1 {p:Prop} [Decidable p]:(!decide p)=decide (¬ p):=by simp
theorem aWP {p q:Prop} [Decidable p] [Decidable q]:(decide p&&decide q)=decide (p∧q):=by simp
theorem aW3 {p q:Prop} [Decidable p] [Decidable q]:(decide p||decide q)=decide (p∨q):=by simp
theorem aUM {k:IntKind} {j:Int} {n:Nat} (h0:0≤j) (h1:j<n):B7 (.i k j) n=some j.toNat:=by simp [B7,h0,h1]
theorem Xh {d n:Nat}:AO none d n=some d:=An rfl
theorem aUj {k:IntKind} {j:Int} {d n:Nat} (h0:0≤j) (h1:j≤n):AO (some (.i k j)) d n=some j.toNat:=by simp [AO,h0,h1]
theorem T9 {l:List V}:V.cells (.agg l)=l:=An rfl
theorem jC {k:IntKind} {n:Int}:V.cells (.i k n)=[.i k n]:=An rfl
theorem jA {x:Bool}:V.cells (.b x)=[.b x]:=An rfl
theorem jE {x:ByteArray}:V.cells (.s x)=[.s x]:=An rfl
theorem Xu {a b c d:Nat}:V.cells (.sl a b c d)=[.sl a b c d]:=An rfl
theorem Xt:V.cells .ns=[.ns]:=An rfl
theorem jD {a b c:Nat}:V.cells (.p a b c)=[.p a b c]:=An rfl
theorem Xs:V.cells .np=[.np]:=An rfl
theorem Zt {k:IntKind} {n:Int}:V.isCell (.i k n)=true:=An rfl
theorem Zr {x:Bool}:V.isCell (.b x)=true:=An rfl
theorem Zv {x:ByteArray}:V.isCell (.s x)=true:=An rfl
theorem UF {a b c d:Nat}:V.isCell (.sl a b c d)=true:=An rfl
theorem UE:V.isCell .ns=true:=An rfl
theorem Zu {a b c:Nat}:V.isCell (.p a b c)=true:=An rfl
theorem UD:V.isCell .np=true:=An rfl
theorem w64 {x:Int} (h0 : -9223372036854775808≤x) (h1:x<9223372036854775808):IntKind.wrap .i64 x=x:=by rw [IntKind.wrap_i64];omega
theorem Xo {a:Nat} {b:List (List V)}:V.cells (.fl a b)=[.fl a b]:=An rfl
theorem Xp {a c d:Nat} {b:List (List V)}:V.cells (.fp a b c d)=[.fp a b c d]:=An rfl
theorem Xn:V.cells .e0=[.e0]:=An rfl
theorem Xq:V.cells .nf=[.nf]:=An rfl
theorem Xr:V.cells .ni=[.ni]:=An rfl
theorem jB {a:Fn} {b c:List V}:V.cells (.f a b c)=[.f a b c]:=An rfl
theorem Ua {a:Nat} {b:V}:V.cells (.ifc a b)=[.ifc a b]:=An rfl
theorem Uz {a:Nat} {b:List (List V)}:V.isCell (.fl a b)=true:=An rfl
theorem UA {a c d:Nat} {b:List (List V)}:V.isCell (.fp a b c d)=true:=An rfl
theorem Uy:V.isCell .e0=true:=An rfl
theorem UB:V.isCell .nf=true:=An rfl
theorem UC:V.isCell .ni=true:=An rfl
theorem Zs {a:Fn} {b c:List V}:V.isCell (.f a b c)=true:=An rfl
theorem RM {a:Nat} {b:V}:V.isCell (.ifc a b)=true:=An rfl
theorem aUW {x:Bool}:pur (.b x)=true:=An (by simp [pur])
theorem aUY {k:IntKind} {n:Int}:pur (.i k n)=true:=An (by simp [pur])
theorem aUZ {x:ByteArray}:pur (.s x)=true:=An (by simp [pur])
theorem aHL {a:Nat} {b:List (List V)}:pur (.fl a b)=true:=An (by simp [pur])
theorem aHP:pur .ns=true:=An (by simp [pur])
theorem aHK:pur .e0=true:=An (by simp [pur])
theorem aHO:pur .np=true:=An (by simp [pur])
theorem aHN:pur .ni=true:=An (by simp [pur])
theorem aHM:pur .nf=true:=An (by simp [pur])
theorem aU0:pur .u=true:=An (by simp [pur])
theorem mJ {l:List V}:pur (.agg l)=Gk l:=An (by simp [pur])
theorem mL {l:List V}:pur (.tup l)=Gk l:=An (by simp [pur])
theorem aUX {f:Fn} {a c:List V}:pur (.f f a c)=(Gk a&&Gk c):=An (by simp [pur])
theorem mK {t:Nat} {v:V}:pur (.ifc t v)=pur v:=An (by simp [pur])
theorem aA:Gk []=true:=An (by simp [Gk])
theorem U4 {v:V} {l:List V}:Gk (v::l)=(pur v&&Gk l):=An (by simp [Gk])
theorem aWY {x y:Bool}:Gl .b (.b x) (.b y)=some (decide (x=y)):=by cases x<;>cases y<;>rfl
theorem aFw {ks:List CK} {l m:List V}:Gl (.agg ks) (.agg l) (.agg m)=Hc ks l m:=An rfl
theorem jN:Hc [] [] []=some true:=An rfl
theorem XW {k:CK} {ks:List CK} {a c:V} {l m:List V}:Hc (k::ks) (a::l) (c::m)=(Rf k a c).bind fun x=>(Hc ks l m).map fun y=>x&&y:=An rfl
theorem aUw {k:IntKind} {a b:Int}:Rf .i (.i k a) (.i k b)=some (decide (a=b)):=by simp [Rf]
theorem aUv {x y:Bool}:Rf .b (.b x) (.b y)=some (decide (x=y)):=by cases x<;>cases y<;>rfl
theorem aUx {x y:ByteArray}:Rf .s (.s x) (.s y)=some (decide (x=y)):=An rfl
theorem Xf {x y:ByteArray}:Bt .eql (.s x) (.s y)=some (.b (decide (x=y))):=An rfl
theorem Xg {x y:ByteArray}:Bt .neq (.s x) (.s y)=some (.b (decide (¬ x=y))):=by simp [Bt,Xd]
theorem Xe {x y:ByteArray} (h:x.size+y.size<4294967296):Bt .add (.s x) (.s y)=some (.s (x++y)):=by simp [Bt,Xd,Bh,h]
/-! ### Results -/
section
variable {e:Env} {h:AH}
theorem gT {res:List RV} {Q:V→AH→Prop}:G9 res .nm e h Q=Wo (BQ e h res) (fun v=>Q v h):=An rfl
theorem gU {res:List RV} {Q:V→AH→Prop}:G9 res .rt e h Q=Wo (BQ e h res) (fun v=>Q v h):=An rfl
theorem mR:BQ e h []=some (.tup []):=An rfl
theorem mS {n:Nat}:BQ e h [.t n]=some (e n):=An rfl
theorem mU {n m:Nat}:BQ e h [.t n,.t m]=some (.tup [e n,e m]):=An rfl
theorem Vb {n m l:Nat}:BQ e h [.t n,.t m,.t l]=some (.tup [e n,e m,e l]):=An rfl
def Hd (h:AH) (k:Nat) (g:Bool):V→Option V | .p id el off=>dV (h.get id) el off k g | _=>none
theorem iZ {k id el off:Nat} {g:Bool}:Hd h k g (.p id el off)=dV (h.get id) el off k g:=An rfl
theorem GY {n k:Nat} {g:Bool}:Sj e h (.cell n k g)=Hd h k g (e n):=An rfl
theorem aJ {n k:Nat} {g:Bool}:BQ e h [.cell n k g]=Hd h k g (e n):=by
 simp only [BQ,Vd,GY]
 cases Hd h k g (e n)<;>rfl
theorem U9 {n k m:Nat} {g:Bool}:BQ e h [.cell n k g,.t m]=(Hd h k g (e n)).map fun v=>.tup [v,e m]:=by
 simp only [BQ,Vd,GY]
 cases Hd h k g (e n)<;>rfl
theorem Va {n k m l:Nat} {g:Bool}:BQ e h [.cell n k g,.t m,.t l]=(Hd h k g (e n)).map fun v=>.tup [v,e m,e l]:=by
 simp only [BQ,Vd,GY]
 cases Hd h k g (e n)<;>rfl
end
/-! ### What stays -/
def Vj:V→Bool
 | .b _ | .i .. | .s _ | .np | .ns | .e0 | .nf | .ni | .u | .fl .. | .fp ..=>true
 | _=>false
theorem CA.of_stay {P:Nat→Prop} {h:AH} {n:Nat} {v:V} (hv:Vj v=true):CA P h n v v:=by
 cases v<;>first | (simp [Vj] at hv;done) | exact .fl _ _ _ | exact .fp _ _ _ _ _ | exact .z _ _ (by constructor)
theorem BS.of_stay {P:Nat→Prop} {h:AH} {n:Nat}:∀ {l:List V},l.all Vj=true→BS P h n l l
 | [],_=>.nil _
 | v::l,hl=>by
  simp only [List.all_cons,Bool.and_eq_true] at hl
  exact .cons _ _ _ _ _ (CA.of_stay hl.1) (BS.of_stay hl.2)
theorem BG.of_map {P:Nat→Prop} {h:AH} {n:Nat} {α:Type} {enc:α→List V} (he:∀ a,(enc a).all Vj=true):∀ (L:List α),BG P h n (L.map enc) (L.map enc)
 | []=>.nil _
 | a::L=>.cons _ _ _ _ _ (BS.of_stay (he a)) (BG.of_map he L)
section
variable {P:Nat→Prop} {h:AH} {n:Nat}
theorem aIo {k k':IntKind} {z z':Int}:CA P h n (.i k z) (.i k' z')=(k=k'∧z=z'):=propext ⟨fun f=>by cases f;exact ⟨rfl,rfl⟩,fun ⟨a,b⟩=>by subst a;subst b;exact .z _ _ (.i _ _)⟩
theorem aIn {z z':Bool}:CA P h n (.b z) (.b z')=(z=z'):=propext ⟨fun f=>by cases f;exact rfl,fun a=>by subst a;exact .z _ _ (.b _)⟩
theorem aIp {z z':ByteArray}:CA P h n (.s z) (.s z')=(z=z'):=propext ⟨fun f=>by cases f;exact rfl,fun a=>by subst a;exact .z _ _ (.s _)⟩
theorem tV {s s':Nat} {z z':List (List V)}:CA P h n (.fl s z) (.fl s' z')=(s=s'∧z=z'):=propext ⟨fun f=>by
 cases f with
 | z _ _ h0=>cases h0
 | fl=>exact ⟨rfl,rfl⟩,fun ⟨a,b⟩=>by subst a;subst b;exact .fl _ _ _⟩
theorem tX {s:Nat} {z:List (List V)}:CA P h n .ns (.fl s z)=(z=[]):=propext ⟨fun f=>by cases f;exact rfl,fun a=>by subst a;exact .ns _ _⟩
theorem tU {s:Nat} {z:List (List V)}:CA P h n .e0 (.fl s z)=(z=[]):=propext ⟨fun f=>by cases f;exact rfl,fun a=>by subst a;exact .e0 _ _⟩
theorem tW:CA P h n .np .np=True:=by simp;exact .z _ _ .np
theorem eC {l l':List V}:CA P h n (.tup l) (.tup l')=BS P h n l l':=propext ⟨fun f=>by
 cases f with
 | z _ _ h0=>cases h0
 | tup _ _ _ h=>exact h,fun a=>.tup _ _ _ a⟩
theorem dZ {l l':List V}:CA P h n (.agg l) (.agg l')=BS P h n l l':=propext ⟨fun f=>by
 cases f with
 | z _ _ h0=>cases h0
 | agg _ _ _ h=>exact h,fun a=>.agg _ _ _ a⟩
theorem Vt:BS P h n [] []=True:=by simp;exact .nil _
theorem TM {v w:V} {l l':List V}:BS P h n (v::l) (w::l')=(CA P h n v w∧BS P h n l l'):=propext ⟨fun f=>by
 cases f with
 | cons _ _ _ _ _ a b=>exact ⟨a,b⟩,fun ⟨a,b⟩=>.cons _ _ _ _ _ a b⟩
end
/-! ### Slices of one's own -/
def nth {α:Type} [Inhabited α] (L:List α) (j:Nat):α:=L.getD j default
theorem Fg {α:Type} [Inhabited α] {L:List α} {j:Nat} (h:j<L.length):L[j]?=some (nth L j):=by simp [nth,List.getD,List.getElem?_eq_getElem h]
theorem BX {α:Type} [Inhabited α] {L:List α} {j:Nat} (h:j<L.length):nth L j=L[j]:=by simp [nth,List.getD,List.getElem?_eq_getElem h]
theorem lW {α:Type} [Inhabited α] {β:Type} {f:α→β} {L:List α} {j:Nat} (h:j<L.length):(L.map f)[j]?=some (f (nth L j)):=by rw [List.getElem?_map,Fg h];rfl
theorem Bm {α:Type} [Inhabited α] {L:List α} {j:Nat} (h:j<L.length):nth L j∈L:=by rw [BX h];exact List.getElem_mem h
theorem Ax {α:Type} [Inhabited α] {L:List α} {i:Nat} (h:i<L.length):L.drop i=nth L i::L.drop (i+1):=by
 rw [BX h];exact List.drop_eq_getElem_cons h
structure AJ (h h':AH):Prop where
 next:h.next≤h'.next
 lim:h'.lim=h.lim
 get:∀ i,i<h.next→h'.get i=h.get i
theorem AJ.refl (h:AH):AJ h h:=⟨Nat.le_refl _,rfl,fun _ _=>rfl⟩
theorem AJ.trans {a b c:AH} (p:AJ a b) (q:AJ b c):AJ a c:=⟨Nat.le_trans p.next q.next,q.lim.trans p.lim,fun i hi=>(q.get i (Nat.lt_of_lt_of_le hi p.next)).trans (p.get i hi)⟩
theorem AJ.alloc {a b:AH} (p:AJ a b) (k:BU):AJ a (b.alloc k):=⟨Nat.le_succ_of_le p.next,p.lim,fun i hi=>by
 rw [AM,Ac (by have:=p.next;omega)];exact p.get i hi⟩
theorem AJ.put {a b:AH} (p:AJ a b) (i:Nat) (k:BU) (hi:a.next≤i):AJ a (b.put i k):=⟨p.next,p.lim,fun j hj=>by
 rw [Ad,Ac (by omega)];exact p.get j hj⟩
theorem AJ.kill {a b:AH} (p:AJ a b) (i:Nat) (hi:a.next≤i):AJ a (b.kill i):=⟨p.next,p.lim,fun j hj=>by
 rw [Cm,Ac (by omega)];exact p.get j hj⟩
def Bn (h:AH) (v:V):List (List V):=match h.get (AW v) with | some k=>k.cs | none=>[]
def Sl (b:Nat) (h:AH) (sz:Nat) (v:V) (R:List (List V)):Prop:=((v=.ns∨v=.e0)∧R=[])∨∃ id el cap cs,v=.sl id el R.length cap∧h.get id=some ⟨sz,cs⟩∧el+cap≤cs.length∧(cs.drop el).take R.length=R∧R.length≤cap∧id<h.next∧b≤id∧R.length<4294967296
theorem Sl.nil (b:Nat) (h:AH) (sz:Nat):Sl b h sz .ns []:=.inl ⟨.inl rfl,rfl⟩
theorem Sl.nil' (b:Nat) (h:AH) (sz:Nat):Sl b h sz .e0 []:=.inl ⟨.inr rfl,rfl⟩
theorem Sl.same {b:Nat} {h h':AH} {sz:Nat} {v:V} {R:List (List V)} (s:Sl b h sz v R) (hn:h.next≤h'.next) (hg:AW v<h.next→h'.get (AW v)=h.get (AW v)):Sl b h' sz v R:=by
 rcases s with ⟨hv,rfl⟩ | ⟨id,el,cap,k,rfl,a,c,d,f,hlt,hb,hl⟩
 ·exact .inl ⟨hv,rfl⟩
 ·exact .inr ⟨id,el,cap,k,rfl,(hg hlt).trans a,c,d,f,Nat.lt_of_lt_of_le hlt hn,hb,hl⟩
theorem Sl.ext {b:Nat} {h h':AH} {sz:Nat} {v:V} {R:List (List V)} (s:Sl b h sz v R) (p:AJ h h'):Sl b h' sz v R:=s.same p.next (fun hl=>p.get _ hl)
theorem Sl.alloc {b:Nat} {h:AH} {sz:Nat} {v:V} {R:List (List V)} (s:Sl b h sz v R) (k:BU):Sl b (h.alloc k) sz v R:=s.ext ((AJ.refl h).alloc k)
theorem Sl.putx {b:Nat} {h:AH} {sz:Nat} {v:V} {R:List (List V)} (s:Sl b h sz v R) (i:Nat) (k:BU) (hi:i≠AW v):Sl b (h.put i k) sz v R:=s.same (Nat.le_refl _) (fun _=>by rw [Ad,Ac (Ne.symm hi)])
theorem Sl.back {b:Nat} {h:AH} {sz l:Nat} {v:V} {R:List (List V)} (s:Sl b h sz v R):Sl b (h.back l) sz v R:=s
theorem Sl.raise {b:Nat} {h:AH} {sz:Nat} {v:V} {R:List (List V)} (s:Sl b h sz v R):Sl b h.raise sz v R:=s
structure SlF {α:Type} [Inhabited α] (enc:α→List V) (b:Nat) (h:AH) (sz:Nat) (v:V) (L:List α):Prop where
 len:H2 v=some (.i .i64 (L.length:Int))
 big:L.length<4294967296
 lt:0<L.length→AW v<h.next
 lo:0<L.length→b≤AW v
 get:0<L.length→h.get (AW v)=some ⟨sz,Bn h v⟩
 at_:∀ (k:IntKind) (j:Int) (cs:List (List V)),0≤j→j<L.length→Jy (some ⟨sz,cs⟩) sz v (.i k j)=some (.p (AW v) (Fa v+j.toNat) 0)
 row:∀ (j:Nat),j<L.length→(Bn h v)[Fa v+j]?=some (enc (nth L j))
 cell:v.isCell=true
 cells:v.cells=[v]
theorem Sl.facts {α:Type} [Inhabited α] {enc:α→List V} {b:Nat} {h:AH} {sz:Nat} {v:V} {L:List α} (s:Sl b h sz v (L.map enc)):SlF enc b h sz v L:=by
 rcases s with ⟨hv,hR⟩ | ⟨id,el,cap,cs,rfl,a,c,d,f,hlt,hb,hl⟩
 ·have hL:L=[]:=by simpa using hR
  subst hL
  rcases hv with rfl | rfl
  ·exact ⟨rfl,by simp,by simp,by simp,by simp,fun _ j _ h0 h1=>by simp at h1;omega,by simp,rfl,rfl⟩
  ·exact ⟨rfl,by simp,by simp,by simp,by simp,fun _ j _ h0 h1=>by simp at h1;omega,by simp,rfl,rfl⟩
 ·simp only [List.length_map] at *
  refine ⟨by simp [H2],hl,fun _=>hlt,fun _=>hb,fun _=>by simp [Bn,AW,a],fun k j cs h0 h1=>by simp [Jy,B7,h0,h1,AW,Fa],fun j hj=>?_,rfl,rfl⟩
  simp only [Bn,AW,a,Fa]
  have:((cs.drop el).take L.length)[j]?=(L.map enc)[j]?:=by rw [d]
  rw [List.getElem?_take_of_lt hj,List.getElem?_drop] at this
  rw [this,List.getElem?_map,Fg hj];rfl
theorem Hj.len {α:Type} {enc:α→List V} {s:Nat} {L:List α} (r:Hj (.fl s (L.map enc))):L.length<4000000000:=by simpa using r.big
theorem Sl.froze {α:Type} {enc:α→List V} {b:Nat} {h:AH} {sz:Nat} {v:V} {L:List α} {P:Nat→Prop} {n:Nat} (s:Sl b h sz v (L.map enc)) (he:∀ a,(enc a).all Vj=true) (hP:P (AW v)) (hL:L.length<4000000000):CA P h n v (.fl sz (L.map enc)):=by
 rcases s with ⟨hv,hR⟩ | ⟨id,el,cap,cs,rfl,a,c,d,f,hlt,hb,hl⟩
 ·rw [hR]
  rcases hv with rfl | rfl
  ·exact .ns _ _
  ·exact .e0 _ _
 ·refine .sl _ id el _ cap sz cs _ hP a (by omega) f (by simpa [Di] using hL) ?_
  rw [d];exact BG.of_map he L
theorem Sl.froze' {b:Nat} {h:AH} {sz:Nat} {v:V} {R:List (List V)} {P:Nat→Prop} {n:Nat} (s:Sl b h sz v R) (hr:BG P h 0 R R) (hP:P (AW v)) (hL:R.length<4000000000):CA P h n v (.fl sz R):=by
 rcases s with ⟨hv,rfl⟩ | ⟨id,el,cap,cs,rfl,a,c,d,f,hlt,hb,hl⟩
 ·rcases hv with rfl | rfl
  ·exact .ns _ _
  ·exact .e0 _ _
 ·refine .sl _ id el _ cap sz cs _ hP a (by omega) f (by simpa [Di] using hL) ?_
  rw [d];exact hr
def Bb:V→Bool | .ns | .e0=>true | _=>false
structure Grown (b:Nat) (h:AH) (x v:V) (h':AH):Prop where
 next:h.next≤h'.next
 lim:h'.lim=h.lim
 low:∀ i,i<b→h'.get i=h.get i
 get:∀ i,i<h.next→(Bb x=true∨i≠AW x)→h'.get i=h.get i
 own:Bb v=true∨(Bb x=false∧AW v=AW x)∨h.next≤AW v
 cell:v.isCell=true
 cells:v.cells=[v]
theorem N9:∀ (r:List (List V)) (i:Nat) (n:List (List V)),i+n.length≤r.length→E5 r i n=r.take i++n++r.drop (i+n.length)
 | r,i,[],_=>by simp [E5]
 | r,i,c::cs,h=>by
  simp only [List.length_cons] at h
  rw [E5,N9 (r.set i c) (i+1) cs (by simp;omega)]
  have hi:i<r.length:=by omega
  rw [List.drop_set_of_lt (by omega)]
  have ht:(r.set i c).take (i+1)=r.take i++[c]:=by
   rw [List.take_add_one]
   simp [hi,List.take_set_of_le]
  rw [ht]
  simp only [List.append_assoc,List.singleton_append,List.length_cons]
  congr 3;omega
theorem Ap {b sz : Nat} {h : AH} {x : V} {R N : List (List V)} {K : V × AH → Prop} (sx : Sl b h sz x R) (hl : h.lim ≤ b) (hb : b ≤ h.next) (hlen : R.length + N.length < 4294967296)
    (k:∀ v h',Sl b h' sz v (R++N)→Grown b h x v h'→K (v,h')):Wo (J0 sz h x N) K:=by
 rcases sx with ⟨hx,rfl⟩ | ⟨id,el,cap,cs,rfl,hg,hle,hrow,hcap,hlt,hbi,hbig⟩
 ·have one:∀ nn:V,(nn=.ns∨nn=.e0)→Wo (if N=[] then some (nn,h) else if N.length<Bh then some (.sl h.next 0 N.length N.length,h.alloc ⟨sz,N⟩) else none) (fun z=>(nn=.ns∨nn=.e0)→x=nn→K z):=by
   intro nn hnn
   split
   ·rename_i hN
    subst hN
    exact ⟨_,rfl,fun h1 h2=>by subst h2;exact k _ _ (.inl ⟨h1,rfl⟩) ⟨Nat.le_refl _,rfl,fun _ _=>rfl,fun _ _ _=>rfl,.inl (by rcases h1 with rfl | rfl<;>rfl),by rcases h1 with rfl | rfl<;>rfl,by rcases h1 with rfl | rfl<;>rfl⟩⟩
   ·rename_i hN
    rw [if_pos (by simp only [Bh];simpa using hlen)]
    refine ⟨_,rfl,fun h1 h2=>k _ _ (.inr ⟨h.next,0,N.length,N, ?_, ?_, ?_, ?_, ?_, ?_,hb, ?_⟩) ⟨?_,rfl, ?_, ?_,.inr (.inr (Nat.le_refl _)),rfl,rfl⟩⟩
    ·simp
    ·simp [AH.alloc]
    ·simp
    ·simp
    ·simp
    ·simp [AH.alloc]
    ·simpa using hlen
    ·simp [AH.alloc]
    ·intro i hi;rw [AM,Ac (by omega)]
    ·intro i hi _;rw [AM,Ac (by omega)]
  rcases hx with rfl | rfl
  ·obtain ⟨z,hz,q⟩:=one .ns (.inl rfl)
   exact ⟨z,hz,q (.inl rfl) rfl⟩
  ·obtain ⟨z,hz,q⟩:=one .e0 (.inr rfl)
   exact ⟨z,hz,q (.inr rfl) rfl⟩
 ·unfold J0
  simp only [hg]
  rw [if_pos ⟨trivial,by omega,by omega,by simp only [Bh];exact hlen⟩]
  by_cases hc:R.length+N.length≤cap
  ·rw [if_pos hc,if_pos (by omega)]
   have hov:=N9 cs (el+R.length) N (by omega)
   refine ⟨_,rfl,k _ _ (.inr ⟨id,el,cap,E5 cs (el+R.length) N, ?_, ?_, ?_, ?_, ?_,hlt,hbi, ?_⟩) ⟨Nat.le_refl _,rfl, ?_, ?_,.inr (.inl ⟨rfl,rfl⟩),rfl,rfl⟩⟩
   ·simp
   ·rw [Ad,AC rfl]
   ·rw [hov];simp;omega
   ·rw [hov]
    have e1:(cs.take (el+R.length)).drop el=R:=by rw [List.drop_take,Nat.add_sub_cancel_left];exact hrow
    simp only [List.append_assoc]
    rw [List.drop_append_of_le_length (by simp;omega),e1,←List.append_assoc,List.length_append,←List.length_append,List.take_left]
   ·simpa using hc
   ·simpa using hlen
   ·intro i hi;rw [Ad,Ac (by omega)]
   ·intro i hi hne
    rw [Ad,Ac (by rcases hne with hne | hne;cases hne;exact hne)]
  ·rw [if_neg hc]
   refine ⟨_,rfl,k _ _ (.inr ⟨h.next,0,R.length+N.length,(cs.drop el).take R.length++N, ?_, ?_, ?_, ?_, ?_, ?_,hb, ?_⟩) ⟨?_,rfl, ?_, ?_,.inr (.inr (Nat.le_refl _)),rfl,rfl⟩⟩
   ·simp
   ·rw [AM,GR,AC rfl]
   ·rw [hrow];simp
   ·rw [hrow,List.drop_zero,List.take_length]
   ·simp
   ·simp [AH.alloc,AH.kill]
   ·simpa using hlen
   ·simp [AH.alloc,AH.kill]
   ·intro i hi;rw [AM,GR,Ac (by omega),Cm,Ac (by omega)]
   ·intro i hi hne
    rw [AM,GR,Ac (by omega),Cm,Ac (by rcases hne with hne | hne;cases hne;exact hne)]
theorem Sl.rows {b:Nat} {h:AH} {sz:Nat} {v:V} {R:List (List V)} (s:Sl b h sz v R):En sz h v=some R:=by
 rcases s with ⟨hv,rfl⟩ | ⟨id,el,cap,k,rfl,hg,hc,hrow,hcap,_⟩
 ·rcases hv with rfl | rfl<;>rfl
 ·rw [Ov,hg,aO (by omega),hrow]
theorem Sl.of_get {b sz:Nat} {h h':AH} {v:V} {R:List (List V)} {j:Nat} {r:List V} (s:Sl b h sz v R) (hj:j<R.length) (hn:h.next≤h'.next) (hg:h'.get (AW v)=some ⟨sz,(Bn h v).set (Fa v+j) r⟩):Sl b h' sz v (R.set j r):=by
 rcases s with ⟨hv,rfl⟩ | ⟨id,el,cap,cs,rfl,hg0,hc,hrow,hcap,hlt',hbi,hbig⟩
 ·simp at hj
 ·refine .inr ⟨id,el,cap,cs.set (el+j) r,by simp, ?_,by simpa using hc, ?_,by simpa using hcap,Nat.lt_of_lt_of_le hlt' hn,hbi,by simpa using hbig⟩
  ·simpa [AW,Fa,Bn,hg0] using hg
  ·simp only [List.length_set]
   rw [List.drop_set,if_neg (by omega),Nat.add_sub_cancel_left,List.take_set,hrow]
theorem Sl.setT {α:Type} {enc:α→List V} {b sz:Nat} {h h':AH} {v:V} {L:List α} {j:Nat} {x:α} (s:Sl b h sz v (L.map enc)) (hj:j<L.length) (hn:h.next≤h'.next) (hg:h'.get (AW v)=some ⟨sz,(Bn h v).set (Fa v+j) (enc x)⟩):Sl b h' sz v ((L.set j x).map enc):=by
 have:=Sl.of_get (r:=enc x) s (j:=j) (by simpa using hj) hn hg
 simpa [List.map_set] using this
theorem Sl.rowlt {b sz:Nat} {h:AH} {v:V} {R:List (List V)} {j:Nat} (s:Sl b h sz v R) (hj:j<R.length):Fa v+j<(Bn h v).length:=by
 rcases s with ⟨hv,rfl⟩ | ⟨id,el,cap,cs,rfl,hg,hc,hrow,hcap,hlt',_⟩
 ·simp at hj
 ·simp only [Fa,Bn,AW,hg];omega
theorem MM {α:Type} {l:List α} {i:Nat} {a:α} (h:i<l.length):(l.set i a)[i]?=some a:=by simp [h]
def CX (v:V) (n:Nat):V:=match v with | .sl id el _ cap=>.sl id el n cap | v=>v
theorem IH {v:V} {n:Nat}:AW (CX v n)=AW v:=by cases v<;>rfl
theorem Uo {v:V} {n:Nat}:Fa (CX v n)=Fa v:=by cases v<;>rfl
theorem MP {v:V} {n:Nat}:(CX v n).isCell=v.isCell:=by cases v<;>rfl
theorem Jd {v:V} {n:Nat} (h:v.cells=[v]):(CX v n).cells=[CX v n]:=by cases v<;>first | rfl | (simp [CX];exact h)
theorem Rb {h:AH} {v:V} {n:Nat}:Bn h (CX v n)=Bn h v:=by cases v<;>rfl
theorem Sl.pre {b:Nat} {h:AH} {sz:Nat} {v:V} {R:List (List V)} (s:Sl b h sz v R) {k:IntKind} {j:Int} {cs:List (List V)} (h0:0≤j) (h1:j≤R.length):HF (some ⟨sz,cs⟩) sz v none (some (.i k j)) none=some (CX v j.toNat):=by
 rcases s with ⟨hv,rfl⟩ | ⟨id,el,cap,b,rfl,a,_,_,hc,_⟩
 ·simp at h1
  obtain rfl:j=0:=by omega
  rcases hv with rfl | rfl<;>simp [HF,AO,CX]
 ·have h2:j≤cap:=by omega
  simp [HF,AO,CX,h0,h2,hc]
theorem Sl.truncd {b:Nat} {h:AH} {sz:Nat} {v:V} {R:List (List V)} (s:Sl b h sz v R) {n:Nat} (hn:n≤R.length):Sl b h sz (CX v n) (R.take n):=by
 rcases s with ⟨hv,rfl⟩ | ⟨id,el,cap,b,rfl,a,c,d,hc,hlt,hbi,hb⟩
 ·exact .inl ⟨by rcases hv with rfl | rfl<;>simp [CX],by simp⟩
 ·refine .inr ⟨id,el,cap,b, ?_,a,c, ?_, ?_,hlt,hbi, ?_⟩
  ·simp [CX];omega
  ·have:(R.take n).length=n:=by simp;omega
   rw [this];conv=>rhs;rw [← d]
   rw [List.take_take];congr 1;omega
  ·simp;omega
  ·simp;omega
theorem Tz {h:AH} {i:Nat} {a b:BU}:(h.put i a).put i b=h.put i b:=by
 unfold AH.put
 congr 1
 funext j
 simp only
 split<;>rfl
theorem XT:AH.emp.next=0:=An rfl
theorem JF:AH.emp.lim=0:=An rfl
theorem jM {i:Nat}:AH.emp.get i=none:=An rfl
theorem XU {l:List V} {j:Nat}:Fc l j=(l[j]?).getD .u:=by simp [Fc]
theorem Z3 {r:List V} {i:Nat}:over r i []=r:=An rfl
theorem UY {r:List V} {i:Nat} {c:V} {cs:List V}:over r i (c::cs)=over (r.set i c) (i+1) cs:=An rfl
theorem Us {r:List V}:FB r []=some r:=An rfl
theorem Rh {r:List V} {off n:Nat} {v:V} {ps:List (Nat×Nat×V)}:FB r ((off,n,v)::ps)=if v.cells.length=n∧off+n≤r.length∧v.cells.all V.isCell=true then FB (over r off v.cells) ps else none:=An rfl
theorem Ur {sz:Nat} {r:List (List V)}:CM sz r []=some r:=An rfl
theorem Rg {sz j:Nat} {r:List (List V)} {v:V} {ps:List (Nat×V)}:CM sz r ((j,v)::ps)=if v.cells.length=sz∧j<r.length∧v.cells.all V.isCell=true then CM sz (r.set j v.cells) ps else none:=An rfl
theorem AD {tp:TP} {f:Nat} {args:List V} {R:V} {tf:TF} (hf:tp.fn f=some tf) (hl:args.length≤tf.n) (z:FU args→ZC tp tf.body (Fc args) AH.emp (fun x e h=>G9 tf.res x e h (fun r h'=>CA (fun _=>True) h' 0 r R))):Pf tp f args R:=aIr hf hl z
theorem aIm {tp:TP} {f:Nat} {args:List V} {h:AH} {K:V→AH→Prop} {tf:TF} (hf:tp.fn f=some tf) (hl:args.length≤tf.n) (z:Wf h→FU args→ZC tp tf.body (Fc args) h (fun x e h2=>G9 tf.res x e h2 (fun r h3=>∃ P R H,BW h h3 r P R H∧K R H))):Cq tp f args h K:=SG hf hl z
theorem A9 {tp:TP} {f:Nat} {args:List V} {h:AH} {K:V→AH→Prop} {tf:TF} (hf:tp.fn f=some tf) (hl:args.length≤tf.n) (z:Wf h→FU args→ZC tp tf.body (Fc args) h (fun x e h2=>G9 tf.res x e h2 K)):Cq tp f args h K:=tT hf hl z
structure EI (h:AH) (id:Nat) (k:BU) (h':AH):Prop where
 next:h.next≤h'.next
 lim:h'.lim=h.lim
 here:h'.get id=some k
 get:∀ i,i<h.next→i≠id→h'.get i=h.get i
theorem BW.ext {h h3:AH} {r R:V} (wf:Wf h) (x:AJ h h3) (fr:CA (h.next≤·) h3 h.next r R):BW h h3 r (h.next≤·) R h:=
 ⟨Nat.le_refl _,rfl,x.next,fun i k hk=>⟨(wf.2 i k hk).1,Nat.not_le_of_lt (wf.2 i k hk).1,k.cs,by rw [x.get i (wf.2 i k hk).1];exact hk,(wf.2 i k hk).2 _ _⟩,fr⟩
theorem BW.upd {h h3:AH} {r R:V} {id:Nat} {b:BU} (wf:Wf h) (u:EI h id b h3) (hid:id<h.next) (fb:BG (h.next≤·) h3 h.next b.cs b.cs) (fr:CA (h.next≤·) h3 h.next r R):BW h h3 r (h.next≤·) R (h.put id b):=by
 refine ⟨Nat.le_refl _,rfl,u.next,fun i k hk=>?_,fr⟩
 by_cases e:i=id
 ·subst e
  have:k=b:=by simpa [AH.put] using hk.symm
  subst this
  exact ⟨hid,Nat.not_le_of_lt hid,k.cs,u.here,fb⟩
 ·have hk2:h.get i=some k:=by simpa [AH.put,e] using hk
  exact ⟨(wf.2 i k hk2).1,Nat.not_le_of_lt (wf.2 i k hk2).1,k.cs,by rw [u.get i (wf.2 i k hk2).1 e];exact hk2,(wf.2 i k hk2).2 _ _⟩
theorem JB {e:Env} {h h2:AH} (P:Nat→Prop) (live:List Nat) (w:Nat→V) (z:Wf h→h2.next=h.next∧h2.lim=h.lim∧(∀ i k,h2.get i=some k→i<h2.next∧¬ P i∧∃ cs,h.get i=some ⟨k.sz,cs⟩∧BG P h h2.next cs k.cs)∧∀ t,t∈live→CA P h h2.next (e t) (w t)):Stp e h (fun t=>if t∈live then w t else .u) h2:=by
 intro S m hc e1 c p
 obtain ⟨hn,hl,hb,hv⟩:=z c.wf
 have st:∀ r R,CA P h h2.next r R→BW h h r P R h2:=fun r R f=>⟨Nat.le_of_eq hn.symm,hl,Nat.le_of_eq hn,hb,f⟩
 obtain ⟨q1,q2,_⟩:=(st .u .u (.z _ _ .u)).ok c c (FQ.refl c) (.u _ .u)
 refine ⟨_,q1,q2,fun t=>?_⟩
 by_cases ht:t∈live
 ·simp only [if_pos ht]
  exact ((st _ _ (hv t ht)).ok c c (FQ.refl c) (p t)).2.2
 ·simp only [if_neg ht]
  exact .u _ _
theorem aEU {tp : TP} {c : TC} {K : Ex → Env → AH → Prop} {e : Env} {h : AH} (live : List Nat) (bx id sz : Nat) (row row' : List V) (hne : bx ≠ id) (hbx : h.get bx = some ⟨sz, [row]⟩) (hr : BG (· = id) h h.next [row] [row'])
    (hv:∀ t,t∈live→CA (·=id) h h.next (e t) (e t)) (z:∀ e2,(∀ t,t∈live→e2 t=e t)→ZC tp (.loop c) e2 ((h.kill id).put bx ⟨sz,[row']⟩) K):ZC tp (.loop c) e h K:=by
 refine Mu (JB (h2:=(h.kill id).put bx ⟨sz,[row']⟩) (·=id) live e (fun wf=>⟨rfl,rfl,fun i k hk=>?_,hv⟩)) (z _ (fun t ht=>if_pos ht))
 rw [Ad] at hk
 by_cases hi:i=bx
 ·rw [AC hi] at hk
  subst hi
  cases hk
  exact ⟨(wf.2 _ _ hbx).1,hne,_,hbx,hr⟩
 ·rw [Ac hi,Cm] at hk
  by_cases hd:i=id
  ·rw [AC hd] at hk;cases hk
  ·rw [Ac hd] at hk
   exact ⟨(wf.2 i k hk).1,hd,k.cs,hk,(wf.2 i k hk).2 _ _⟩
theorem Mk {tp:TP} {f:Nat} {args:List V} {h:AH} {K:V→AH→Prop} {R:V} {tf:TF} (hf:tp.fn f=some tf) (hl:args.length≤tf.n) (k:K R h) (z:h.lim≤h.next→FU args→ZC tp tf.body (Fc args) h (fun x e h2=>G9 tf.res x e h2 (fun r h3=>CA (h.next≤·) h3 h.next r R∧AJ h h3))):Cq tp f args h K:=
 SG hf hl fun wf rp=>E9 (fun x e h2 q=>by
  cases x with
  | ex _=>exact q
  | nm=>obtain ⟨v,hv,fr,x⟩:=q;exact ⟨v,hv,_,_,_,BW.ext wf x fr,k⟩
  | rt=>obtain ⟨v,hv,fr,x⟩:=q;exact ⟨v,hv,_,_,_,BW.ext wf x fr,k⟩) (z wf.1 rp)
theorem ER {tp:TP} {f:Nat} {args:List V} {h:AH} {K:V→AH→Prop} {R:V} {id:Nat} {b:BU} {tf:TF} (hf:tp.fn f=some tf) (hl:args.length≤tf.n) (hid:(h.get id).isSome=true) (fb:∀ P h' n,BG P h' n b.cs b.cs) (k:K R (h.put id b)) (z:h.lim≤h.next→id<h.next→FU args→ZC tp tf.body (Fc args) h (fun x e h2=>G9 tf.res x e h2 (fun r h3=>CA (h.next≤·) h3 h.next r R∧EI h id b h3))):Cq tp f args h K:=
 SG hf hl fun wf rp=>by
  obtain ⟨b0,hb0⟩:=Option.isSome_iff_exists.1 hid
  have hlt:=(wf.2 id b0 hb0).1
  exact E9 (fun x e h2 q=>by
   cases x with
   | ex _=>exact q
   | nm=>obtain ⟨v,hv,fr,x⟩:=q;exact ⟨v,hv,_,_,_,BW.upd wf x hlt (fb _ _ _) fr,k⟩
   | rt=>obtain ⟨v,hv,fr,x⟩:=q;exact ⟨v,hv,_,_,_,BW.upd wf x hlt (fb _ _ _) fr,k⟩) (z wf.1 hlt rp)
attribute [go_sem ↓] fZ aEW fY aEV fX fW WO aEX WP WR aEY aE8 aE7 W9 aE5 aE6 aWO eW WG eZ aT2 aT1 aT0 aTZ aHq aHr aHp B0 BH
attribute [go_sem] aFf aFg aFe A5 AV HN
attribute [go_sem ↓] aT9 fS JV QX WH QY Ms fI QV fH aT6 Mt WL aEI fO WM aES aEG aEJ WK fK WJ WI fL fC fD fB fE aUb fJ fV aEN QZ QW fQ fP fR fG JX TT aEL aEM aEO fM aEP fT aEK aEF aER fU fN aT8 aUa aET aT7
attribute [go_sem] SJ aEQ
attribute [go_sem ↓] TU gB gC gD gE gF WU gA TV WV WW aEZ aE0 gH gI gJ TW gK gL WX gM gN gO WY WZ W0 W2 W3 W4 WT aE1 aE2 aE3 gP W5 gQ W6 W7 TX Q0 TY W8 gR aE4
attribute [go_sem ↓] Env.set_get
attribute [go_sem] Env.set_none aWX aUp aUo aUq aUt aUu aUr aUs aFs sY Z5 Z4 Z6 U1 U2 UZ U0
attribute [go_sem] AC Ac AM Ad Cm Ux Ye Ag AB GR Ba US AL CV ZD Bj ZB XT JF jM
attribute [go_sem ↓] IX Sb
attribute [go_sem] eY aEC M9 Lv OA M8
attribute [go_sem] aUf aUg tE aHj NQ aFp Sk sameVa_sl bH Vg bF bG bE nD bD nB nC ZG ZE aT5 fF aHn lS ZJ aHm jI nN aG6 Ou aQ aP mY Ov Sg hJ hU hZ aT3 aT4 nJ bO aHW aFz jS X6 kX kY lB Zo Zp nF X0 lL lJ lM lK nK Vl LG UN aHf aFt aUL
attribute [go_sem] iB iM iI iK iL FX aFd iC iJ iH iG iE iD Xf Xg aId aIc aUS aUR X9 Uv aW1 aWP aW3 aUM Xh aUj T9 jC jA jE Xu Xt jD Xs Xo Xp Xn Xq Xr jB Ua Zt Zr Zv UF UE Zu UD Uz UA Uy UB UC Zs RM w64 Is gT gU mR mS mU Vb iZ aJ U9 Va
attribute [go_sem] aWY aFw jN XW aUw aUv aUx
attribute [go_sem] List.length_cons List.length_nil List.getElem?_cons_zero List.getElem?_cons_succ List.getElem?_nil List.drop_zero List.drop_succ_cons List.drop_nil List.take_succ_cons List.take_zero List.take_nil List.map_cons List.map_nil List.all_cons List.all_nil List.set_cons_zero List.set_cons_succ List.cons_append List.nil_append List.append_nil List.length_map lW
attribute [go_sem] aIo aIn aIp tV tX tU tW eC dZ Vt TM Int.reduceLE Int.reduceLT Int.reduceEq Int.reduceAdd Int.reduceSub Int.reduceToNat
attribute [go_sem] Nat.zero_add Nat.add_zero and_true true_and decide_true decide_false not_true_eq_false not_false_eq_true Bool.not_true Bool.not_false Bool.and_true Bool.true_and Bool.and_false Bool.false_and Int.toNat_natCast Option.map_some Option.map_none Option.bind_some Nat.zero_le Nat.le_refl List.take_length Nat.sub_zero Nat.sub_self
attribute [go_sem ↓] reduceIte
attribute [go_sem] Nat.reduceEqDiff Nat.reduceAdd Nat.reduceSub Nat.reduceLeDiff Nat.reduceLT List.reduceReplicate Nat.reduceMul Int.reduceNeg reduceCtorEq
attribute [go_sem] XU Option.getD_some Option.getD_none Z3 UY Us Rh Ur Rg
theorem Lr {α:Type} {l:List α} {i j:Nat} {a:α} (h:¬ i=j):(l.set i a)[j]?=l[j]?:=List.getElem?_set_ne h
attribute [go_sem] MM Lr List.set_set List.length_set
attribute [go_sem] Tz Rb IH Uo MP
attribute [go_sem] Int.natCast_add Int.natCast_one Int.natCast_zero Int.add_sub_cancel Int.sub_add_cancel Nat.add_sub_cancel
attribute [go_sem] aUW aUY aUZ aHL aHP aHK aHO aHN aHM aU0 mJ mL aUX mK aA U4
abbrev On (o:O):TO:=⟨none,o,none⟩
abbrev Of (d f s:Nat):TO:=⟨some d,.fad f (.t s),none⟩
end Go.Ab
