/- Part of a proof that a law returns true for every input of the second form's bound (no other condition). -/
import Derived.IntWalk
import Derived.Test.YtcjjajphbamjlaaGreatPC
set_option linter.all false
/- Conditions ahead of code over values that stay; what they say of the abstract machine; functions by what they answer. -/
namespace Go.Ab
open Go
def AH.emp:AH:=⟨fun _=>none,0,0⟩
def EP (S:Nat→Prop) (m:Nat→Nat) (h hc:AH) (e e1:Env):Prop:=∀ t,PR S m hc.get h.next (e t) (e1 t)
section
variable (tp:TP)
def Cq (f:Nat) (args:List V) (h:AH) (Q:V→AH→Prop) (t:Fz Q:=.mk):Prop:=
 ∀ S m hc args1,Da S m h hc→BQ S m hc.get h.next args args1→Ev tp f args1 hc (fun r1 hc'=>∃ r h' S' m',Da S' m' h' hc'∧FH S m h hc S' m' h' hc'∧PR S' m' hc'.get h'.next r r1∧Q r h')
def Pf (f:Nat) (args:List V) (R:V):Prop:=Cq tp f args AH.emp (fun r h'=>r=R∧h'=AH.emp)
def R2 (neg:Bool) (v w:V) (h:AH) (K:V→AH→Prop):Prop:=match v,w with
 | .fl _ xs,.ns=>∀ t:Bool,(xs≠[]→t=false)→K (.b (if neg then !t else t)) h
 | v,w=>Wo (Gc .sl v w) (fun r=>K (.b (if neg then !r else r)) h)
def z1 (o:O) (e:Env) (h:AH) (K:V→AH→Prop):Prop:=match o with
 | .eq neg .sl a b=>R2 neg (a.e2 e) (b.e2 e) h K
 | .call f l=>Wo (callee tp (.call f l) (X.e2 e)) (fun c=>Cq tp c.1 c.2 h K)
 | .inv x m l=>Wo (callee tp (.inv x m l) (X.e2 e)) (fun c=>Cq tp c.1 c.2 h K)
 | o=>Wo (BM o (X.e2 e) h) (fun z=>K z.1 z.2)
def La:List TO→Env→AH→(Env→AH→Prop)→Prop
 | [],e,h,K=>K e h
 | o::r,e,h,K=>match AN e o.g with
  | some true=>z1 tp o.o e h (fun v h=>La r (e.set o.d v) h K)
  | some false=>La r (e.set o.d (.tup [])) h K
  | none=>False
def zq1 (o:O) (e:Env) (h:AH) (K:V→AH→Prop):Prop:=if AR o=true then z1 tp o e h K else z1 tp o e h.raise (fun v h'=>K v (h'.back h.lim))
def zq:List TO→Env→AH→(Env→AH→Prop)→Prop
 | [],e,h,K=>K e h
 | o::r,e,h,K=>match AN e o.g with
  | some true=>zq1 tp o.o e h (fun v h=>zq r (e.set o.d v) h K)
  | some false=>zq r (e.set o.d (.tup [])) h K
  | none=>False
def zs:List (Bool×List TO)→Env→AH→(Env→AH→Prop)→Prop
 | [],e,h,K=>K e h
 | (true,l)::r,e,h,K=>zq tp l e h (fun e h=>zs r e h K)
 | (false,l)::r,e,h,K=>La tp l e h (fun e h=>zs r e h K)
def Stp (e:Env) (h:AH) (e2:Env) (h2:AH):Prop:=∀ S m hc e1,Da S m h hc→EP S m h hc e e1→∃ S',Da S' m h2 hc∧FH S m h hc S' m h2 hc∧EP S' m h2 hc e2 e1
def zc:TC→Env→AH→(Ex→Env→AH→Prop)→Prop
 | .skip,e,h,K=>K .nm e h
 | .ret,e,h,K=>K .rt e h
 | .exit id,e,h,K=>K (.ex id) e h
 | .reg ops,e,h,K=>La tp ops e h (fun e h=>K .nm e h)
 | .dreg segs,e,h,K=>zs tp segs e h (fun e h=>K .nm e h)
 | .cond c a b,e,h,K=>Wb (c.e2 e) (zc a e h K) (zc b e h K)
 | .block id c,e,h,K=>zc c e h (fun x e h=>K (blk id x) e h)
 | .seq a b,e,h,K=>zc a e h (fun x e h=>Uo x (zc b e h K) (K x e h))
 | .loop c,e,h,K=>∀ I:Env→AH→Prop,(∀ e h,zc c e h (fun x e h=>Uo x (I e h) (K x e h))→I e h)→(∀ e h e2 h2,Stp e h e2 h2→I e2 h2→I e h)→I e h
variable {tp}
theorem R5 {o:O} {e:Env} {h:AH} {K L:V→AH→Prop} (kl:∀ v h,K v h→L v h) (z:z1 tp o e h K):z1 tp o e h L:=by
 unfold z1 at z ⊢
 split at z
 ·unfold R2 at z ⊢
  split at z
  ·exact fun t ht=>kl _ _ (z t ht)
  ·obtain ⟨a,ha,z⟩:=z;exact ⟨a,ha,kl _ _ z⟩
 ·obtain ⟨c,hc,z⟩:=z
  refine ⟨c,hc,fun S m hc args1 p q=>(z S m hc args1 p q).imp ?_⟩
  rintro v h' ⟨r,h2,S',m',a,b,c,d⟩;exact ⟨r,h2,S',m',a,b,c,kl _ _ d⟩
 ·obtain ⟨c,hc,z⟩:=z
  refine ⟨c,hc,fun S m hc args1 p q=>(z S m hc args1 p q).imp ?_⟩
  rintro v h' ⟨r,h2,S',m',a,b,c,d⟩;exact ⟨r,h2,S',m',a,b,c,kl _ _ d⟩
 ·obtain ⟨a,ha,z⟩:=z;exact ⟨a,ha,kl _ _ z⟩
theorem Ia:∀ {l:List TO} {e:Env} {h:AH} {K L:Env→AH→Prop},(∀ v h,K v h→L v h)→La tp l e h K→La tp l e h L
 | [],_,_,_,_,kl,z=>kl _ _ z
 | o::r,e,h,K,L,kl,z=>by
  simp only [La] at z ⊢
  split at z
  ·exact R5 (fun _ _=>Ia kl) z
  ·exact Ia kl z
  ·exact z
theorem MM:∀ {l:List TO} {e:Env} {h:AH} {K L:Env→AH→Prop},(∀ v h,K v h→L v h)→zq tp l e h K→zq tp l e h L
 | [],_,_,_,_,kl,z=>kl _ _ z
 | o::r,e,h,K,L,kl,z=>by
  simp only [zq] at z ⊢
  split at z
  ·unfold zq1 at z ⊢
   split at z
   ·rename_i hp;rw [if_pos hp];exact R5 (fun _ _=>MM kl) z
   ·rename_i hp;rw [if_neg hp];exact R5 (fun _ _=>MM kl) z
  ·exact MM kl z
  ·exact z
theorem R6:∀ {l:List (Bool×List TO)} {e:Env} {h:AH} {K L:Env→AH→Prop},(∀ v h,K v h→L v h)→zs tp l e h K→zs tp l e h L
 | [],_,_,_,_,kl,z=>kl _ _ z
 | (true,l)::r,e,h,K,L,kl,z=>MM (fun _ _=>R6 kl) z
 | (false,l)::r,e,h,K,L,kl,z=>Ia (fun _ _=>R6 kl) z
theorem Mx {x:Ex} {A B C D:Prop} (ac:A→C) (bd:B→D) (z:Uo x A B):Uo x C D:=by
 cases x<;>first | exact ac z | exact bd z
theorem E0:∀ {c:TC} {e:Env} {h:AH} {K L:Ex→Env→AH→Prop},(∀ x v h,K x v h→L x v h)→zc tp c e h K→zc tp c e h L
 | .skip,_,_,_,_,kl,z=>kl _ _ _ z
 | .ret,_,_,_,_,kl,z=>kl _ _ _ z
 | .exit _,_,_,_,_,kl,z=>kl _ _ _ z
 | .reg ops,_,_,_,_,kl,z=>Ia (fun _ _=>kl _ _ _) z
 | .dreg segs,_,_,_,_,kl,z=>R6 (fun _ _=>kl _ _ _) z
 | .cond c a b,e,h,K,L,kl,z=>by
  simp only [zc,Wb] at z ⊢
  split at z
  ·exact E0 kl z
  ·exact E0 kl z
  ·exact z
 | .block id c,_,_,_,_,kl,z=>E0 (c:=c) (fun _ _ _=>kl _ _ _) z
 | .seq a b,_,_,_,_,kl,z=>E0 (c:=a) (fun x _ _=>Mx (E0 kl) (kl _ _ _)) z
 | .loop c,_,_,_,_,kl,z=>fun I hI hS=>z I (fun e h q=>hI e h (E0 (c:=c) (fun x _ _=>Mx id (kl _ _ _)) q)) hS
/-! ### What it says of the abstract machine -/
section
variable {S:Nat→Prop} {m:Nat→Nat} {h hc:AH}
theorem Da.raise (c:Da S m h hc):Da S m h.raise hc.raise:=
 ⟨c.blk,c.inj,c.off,c.low,fun i hi hl=>by
  obtain ⟨k,hk⟩:=Option.ne_none_iff_exists'.1 hi
  have:=(c.blk i k hk).1
  have:h.next≤i:=hl
  omega,Nat.le_refl _,Nat.le_refl _⟩
theorem Da.back {S':Nat→Prop} {m':Nat→Nat} {h' hc':AH} (c:Da S m h hc) (c':Da S' m' h' hc') (a:FH S m h.raise hc.raise S' m' h' hc'):Da S' m' (h'.back h.lim) (hc'.back hc.lim)∧FH S m h hc S' m' (h'.back h.lim) (hc'.back hc.lim):=by
 refine ⟨⟨c'.blk,c'.inj,c'.off,c'.low,fun i hi hl=>?_,Nat.le_trans c.bnd a.next1,Nat.le_trans c.bnd2 a.next2⟩,⟨a.sub,a.new,a.map,a.next2,a.next1,rfl,rfl,a.frame,a.liv⟩⟩
 rcases a.liv i hi with ⟨h1,h2⟩ | h1
 ·rw [a.map i h1];exact c.lim i h2 hl
 ·exact Nat.le_trans c.bnd h1
theorem EP.mono {S':Nat→Prop} {m':Nat→Nat} {h' hc':AH} {e e1:Env} (c:Da S m h hc) (a:FH S m h hc S' m' h' hc') (p:EP S m h hc e e1):EP S' m' h' hc' e e1:=fun t=>(p t).mono (a.mon c)
theorem EP.set {e e1:Env} {v v1:V} (p:EP S m h hc e e1) (q:PR S m hc.get h.next v v1) (d:Option Nat):EP S m h hc (e.set d v) (e1.set d v1):=by
 intro t
 cases d with
 | none=>exact p t
 | some d=>simp only [Env.set];split;exact q;exact p t
theorem Jv {e e1:Env} (p:EP S m h hc e e1) {g:Option (Nat×Bool)} {b:Bool} (hw:AN e g=some b):AN e1 g=some b:=by
 unfold AN at hw ⊢
 split at hw
 ·exact hw
 ·rename_i t x
  have q:=p t
  split at hw
  ·rename_i y hy
   rw [hy] at q
   cases hq:e1 t<;>rw [hq] at q<;>cases q
   exact hw
  ·rename_i hy
   rw [hy] at q
   cases hq:e1 t<;>rw [hq] at q<;>cases q
   rename_i q
   cases q
   exact hw
  ·simp at hw
def pX (S:Nat→Prop) (m:Nat→Nat) (h hc:AH) (K:V→AH→Prop) (v1:V) (hc':AH):Prop:=∃ v h' S' m',Da S' m' h' hc'∧FH S m h hc S' m' h' hc'∧PR S' m' hc'.get h'.next v v1∧K v h'
def Dt (S:Nat→Prop) (m:Nat→Nat) (h hc:AH) (K:Env→AH→Prop) (e1:Env) (hc':AH):Prop:=∃ e h' S' m',Da S' m' h' hc'∧FH S m h hc S' m' h' hc'∧EP S' m' h' hc' e e1∧K e h'
theorem Ll {e e1:Env} (p:EP S m h hc e e1) {o:O} {f:Nat} {args:List V} (hk:callee tp o (X.e2 e)=some (f,args)):∃ args1,callee tp o (X.ev e1)=some (f,args1)∧BQ S m hc.get h.next args args1:=by
 have all:∀ l:List X,BQ S m hc.get h.next (l.map (X.e2 e)) (l.map (X.ev e1)):=fun l=>by
  induction l with
  | nil=>exact .nil _
  | cons a l ih=>exact .cons _ _ _ _ _ (MR p a) ih
 unfold callee at hk ⊢
 split at hk
 ·rename_i x l
  have q:=MR p x
  split at hk
  ·rename_i g a b hx
   rw [hx] at q
   simp only [Option.some.injEq,Prod.mk.injEq] at hk
   obtain ⟨rfl,rfl⟩:=hk
   cases hq:X.ev e1 x<;>rw [hq] at q<;>cases q
   rename_i q1 q2
   exact ⟨_,rfl,(q1.app (all l)).app q2⟩
  ·simp at hk
 ·rename_i x mm l
  have q:=MR p x
  split at hk
  ·rename_i t v hx
   rw [hx] at q
   cases hq:X.ev e1 x<;>rw [hq] at q<;>cases q
   rename_i q1
   simp only [Option.bind_eq_some_iff] at hk ⊢
   obtain ⟨mt,hmt,hk⟩:=hk
   split at hk
   ·rename_i ha
    simp only [Option.some.injEq,Prod.mk.injEq] at hk
    obtain ⟨rfl,rfl⟩:=hk
    refine ⟨_,⟨mt,hmt, ?_⟩,.cons _ _ _ _ _ q1 (all l)⟩
    simp only [ha]
   ·rename_i j ha
    split at hk
    ·simp only [Option.map_eq_some_iff,Prod.mk.injEq] at hk
     obtain ⟨r,hr,rfl,rfl⟩:=hk
     cases q1
     rename_i q1
     obtain ⟨r',h1,h2⟩:=q1.get _ _ hr
     refine ⟨r'::l.map (X.ev e1),⟨mt,hmt, ?_⟩,.cons _ _ _ _ _ h2 (all l)⟩
     simp only [ha,h1,Option.map_some]
    ·simp at hk
  ·simp at hk
 ·simp at hk
theorem bU (c:Da S m h hc) {e e1:Env} (p:EP S m h hc e e1) {o:O} {K:V→AH→Prop} (z:z1 tp o e h K):W1 tp o e1 hc (pX S m h hc K):=by
 unfold z1 at z
 split at z
 ·rename_i neg a b
  have pa:=MR p a
  have pb:=MR p b
  rw [rB (fun C=>rfl)]
  simp only [Af]
  rw [BH]
  unfold R2 at z
  split at z
  ·rename_i s xs ha hb
   rw [ha] at pa;rw [hb] at pb
   cases hb':X.ev e1 b<;>rw [hb'] at pb<;>cases pb
   have key:∀ t:Bool,(xs≠[]→t=false)→Gc .sl (X.ev e1 a) .ns=some t→Wo (Gc .sl (X.ev e1 a) .ns) (fun r=>pX S m h hc K (.b (if neg=true then !r else r)) hc):=by
    intro t ht he
    rw [he,AV]
    exact ⟨_,h,S,m,c,FH.refl c,.b _ _,z t ht⟩
   cases ha':X.ev e1 a<;>rw [ha'] at pa key<;>cases pa
   ·exact key true (by simp) rfl
   ·exact key false (by simp) rfl
   ·exact key false (by simp) rfl
  ·obtain ⟨r,hr,z⟩:=z
   rw [Xf hr pa pb,AV]
   exact ⟨_,h,S,m,c,FH.refl c,.b _ _,z⟩
 ·obtain ⟨⟨f,args⟩,hk,z⟩:=z
  obtain ⟨args1,hk1,q⟩:=Ll p hk
  rw [cS,hk1,AV]
  exact z S m hc args1 c q
 ·obtain ⟨⟨f,args⟩,hk,z⟩:=z
  obtain ⟨args1,hk1,q⟩:=Ll p hk
  rw [aEc,hk1,AV]
  exact z S m hc args1 c q
 ·rename_i hn0 hn1 hn2
  obtain ⟨⟨v,h'⟩,hd,z⟩:=z
  obtain ⟨v1,hc',S',m',h1,h2,h3,h4⟩:=aE9 c (MR p) hd
  rw [rB (fun C=>by unfold A3;split<;>first | rfl | (exact absurd rfl (hn1 _ _)) | (exact absurd rfl (hn2 _ _ _))),h1,AV]
  exact ⟨v,h',S',m',h2,h3,h4,z⟩
theorem Dt.then {S':Nat→Prop} {m':Nat→Nat} {h' hc':AH} (a:FH S m h hc S' m' h' hc') {K:Env→AH→Prop} {e1:Env} {hq:AH} (z:Dt S' m' h' hc' K e1 hq):Dt S m h hc K e1 hq:=by
 obtain ⟨e,h2,S2,m2,c2,a2,p,k⟩:=z
 exact ⟨e,h2,S2,m2,c2,a.trans a2,p,k⟩
end
theorem Ja.imp {l:List TO} {e:Env} {h:AH} {Q R:Env→AH→Prop} (w:Ja tp l e h Q) (qr:∀ e h,Q e h→R e h):Ja tp l e h R:=by
 obtain ⟨k,e',h',he,q⟩:=w;exact ⟨k,e',h',he,qr _ _ q⟩
theorem WQ.imp {l:List TO} {e:Env} {h:AH} {Q R:Env→AH→Prop} (w:WQ tp l e h Q) (qr:∀ e h,Q e h→R e h):WQ tp l e h R:=by
 obtain ⟨k,e',h',he,q⟩:=w;exact ⟨k,e',h',he,qr _ _ q⟩
theorem WS.imp {l:List (Bool×List TO)} {e:Env} {h:AH} {Q R:Env→AH→Prop} (w:WS tp l e h Q) (qr:∀ e h,Q e h→R e h):WS tp l e h R:=by
 obtain ⟨k,e',h',he,q⟩:=w;exact ⟨k,e',h',he,qr _ _ q⟩
theorem W1.imp {o:O} {e:Env} {h:AH} {Q R:V→AH→Prop} (w:W1 tp o e h Q) (qr:∀ v h,Q v h→R v h):W1 tp o e h R:=by
 obtain ⟨k,e',h',he,q⟩:=w;exact ⟨k,e',h',he,qr _ _ q⟩
theorem Jx:∀ (l:List TO) {S:Nat→Prop} {m:Nat→Nat} {h hc:AH} {e e1:Env} {K:Env→AH→Prop},Da S m h hc→EP S m h hc e e1→La tp l e h K→Ja tp l e1 hc (Dt S m h hc K)
 | [],S,m,h,hc,e,e1,K,c,p,z=>by rw [VW];exact ⟨e,h,S,m,c,FH.refl c,p,z⟩
 | ⟨d,o,g⟩::r,S,m,h,hc,e,e1,K,c,p,z=>by
  simp only [La] at z
  split at z
  ·rename_i hw
   rw [VX (Jv p hw)]
   refine (bU c p z).imp ?_
   rintro v1 hc' ⟨v,h',S',m',c',a',q,z⟩
   exact (Jx r c' ((p.mono c a').set q d) z).imp fun _ _=>Dt.then a'
  ·rename_i hw
   rw [Ti (Jv p hw)]
   exact Jx r c (p.set (.tup _ _ _ (.nil _)) d) z
  ·exact z.elim
theorem Te:∀ (l:List TO) {S:Nat→Prop} {m:Nat→Nat} {h hc:AH} {e e1:Env} {K:Env→AH→Prop},Da S m h hc→EP S m h hc e e1→zq tp l e h K→WQ tp l e1 hc (Dt S m h hc K)
 | [],S,m,h,hc,e,e1,K,c,p,z=>by rw [aEf];exact ⟨e,h,S,m,c,FH.refl c,p,z⟩
 | ⟨d,o,g⟩::r,S,m,h,hc,e,e1,K,c,p,z=>by
  simp only [zq] at z
  split at z
  ·rename_i hw
   rw [aEg (Jv p hw)]
   unfold WQ1
   unfold zq1 at z
   split at z
   ·rename_i hp
    rw [if_pos hp]
    refine ⟨?_,(bU c p z).imp ?_⟩
    ·cases o<;>try rfl
     rename_i sz x i
     simp only [z1,BM] at z
     obtain ⟨w,hw,_⟩:=z
     simp only [Option.map_eq_some_iff] at hw
     obtain ⟨v,hv,_⟩:=hw
     have q:=MR p x
     simp only [IP]
     split
     ·rename_i id el len cap hx
      rw [hx] at q
      unfold jD at hv
      split at hv
      ·rename_i k hk hb
       rw [hk] at q
       cases q
       simp only [hk,MV] at hb
       obtain ⟨_,_,cs,hcs,_⟩:=c.blk _ _ hb
       rw [hcs];rfl
      ·rename_i s xs _ hk
       rw [hk] at q
       cases q
       simp only [*];rfl
      ·simp at hv
     ·rfl
    ·rintro v1 hc' ⟨v,h',S',m',c',a',q,z⟩
     exact (Te r c' ((p.mono c a').set q d) z).imp fun _ _=>Dt.then a'
   ·rename_i hp
    rw [if_neg hp]
    have p':EP S m h.raise hc.raise e e1:=p
    refine (bU c.raise p' z).imp ?_
    rintro v1 hc' ⟨v,h',S',m',c',a',q,z⟩
    obtain ⟨c2,a2⟩:=c.back c' a'
    exact (Te r c2 ((p.mono c a2).set q d) z).imp fun _ _=>Dt.then a2
  ·rename_i hw
   rw [cY (Jv p hw)]
   exact Te r c (p.set (.tup _ _ _ (.nil _)) d) z
  ·exact z.elim
theorem bV:∀ (l:List (Bool×List TO)) {S:Nat→Prop} {m:Nat→Nat} {h hc:AH} {e e1:Env} {K:Env→AH→Prop},Da S m h hc→EP S m h hc e e1→zs tp l e h K→WS tp l e1 hc (Dt S m h hc K)
 | [],S,m,h,hc,e,e1,K,c,p,z=>by rw [aEi];exact ⟨e,h,S,m,c,FH.refl c,p,z⟩
 | (true,l)::r,S,m,h,hc,e,e1,K,c,p,z=>by
  rw [VY]
  refine (Te l c p z).imp ?_
  rintro e1' hc' ⟨e',h',S',m',c',a',p',z⟩
  exact (bV r c' p' z).imp fun _ _=>Dt.then a'
 | (false,l)::r,S,m,h,hc,e,e1,K,c,p,z=>by
  rw [aEh]
  refine (Jx l c p z).imp ?_
  rintro e1' hc' ⟨e',h',S',m',c',a',p',z⟩
  exact (bV r c' p' z).imp fun _ _=>Dt.then a'
theorem Gu:∀ (cd:TC) {S:Nat→Prop} {m:Nat→Nat} {h hc:AH} {e e1:Env} {K:Ex→Env→AH→Prop},Da S m h hc→EP S m h hc e e1→zc tp cd e h K→WC tp cd e1 hc (fun x=>Dt S m h hc (K x))
 | .skip,S,m,h,hc,e,e1,K,c,p,z=>by rw [cX];exact ⟨e,h,S,m,c,FH.refl c,p,z⟩
 | .ret,S,m,h,hc,e,e1,K,c,p,z=>by rw [aEe];exact ⟨e,h,S,m,c,FH.refl c,p,z⟩
 | .exit id,S,m,h,hc,e,e1,K,c,p,z=>by rw [cV];exact ⟨e,h,S,m,c,FH.refl c,p,z⟩
 | .reg ops,S,m,h,hc,e,e1,K,c,p,z=>by rw [aEd];exact Jx ops c p z
 | .dreg segs,S,m,h,hc,e,e1,K,c,p,z=>by rw [cU];exact bV segs c p z
 | .cond q a b,S,m,h,hc,e,e1,K,c,p,z=>by
  rw [cT]
  have r:=MR p q
  simp only [zc,Wb] at z
  split at z
  ·rename_i hx;rw [hx] at r;cases hq:X.ev e1 q<;>rw [hq] at r<;>cases r;exact Gu a c p z
  ·rename_i hx;rw [hx] at r;cases hq:X.ev e1 q<;>rw [hq] at r<;>cases r;exact Gu b c p z
  ·exact z.elim
 | .block id cd,S,m,h,hc,e,e1,K,c,p,z=>by rw [VU];exact Gu cd c p z
 | .seq a b,S,m,h,hc,e,e1,K,c,p,z=>by
  rw [VV]
  refine (Gu a c p z).imp ?_
  rintro x e1' hc' ⟨e',h',S',m',c',a',p',z⟩
  cases x with
  | nm=>exact (Gu b c' p' z).imp fun _ _ _=>Dt.then a'
  | ex j=>exact ⟨e',h',S',m',c',a',p',z⟩
  | rt=>exact ⟨e',h',S',m',c',a',p',z⟩
 | .loop cd,S,m,h,hc,e,e1,K,c,p,z=>by
  refine z (fun e h=>∀ S m hc e1,Da S m h hc→EP S m h hc e e1→WC tp (.loop cd) e1 hc (fun x=>Dt S m h hc (K x))) ?_ ?_ S m hc e1 c p
  rotate_left
  ·intro e h e2 h2 st q S m hc e1 c p
   obtain ⟨S',c',a',p'⟩:=st S m hc e1 c p
   exact (q S' m hc e1 c' p').imp fun _ _ _=>Dt.then a'
  intro e h q S m hc e1 c p
  refine cW ((Gu cd c p q).imp ?_)
  rintro x e1' hc' ⟨e',h',S',m',c',a',p',z⟩
  cases x with
  | nm=>exact (z S' m' hc' e1' c' p').imp fun _ _ _=>Dt.then a'
  | ex j=>exact ⟨e',h',S',m',c',a',p',z⟩
  | rt=>exact ⟨e',h',S',m',c',a',p',z⟩
/-! ### Functions -/
section
variable {S:Nat→Prop} {m:Nat→Nat} {h hc:AH}
theorem ZN (c:Da S m h hc) {e e1:Env} (p:EP S m h hc e e1):∀ {l:List RV} {vs:List V},UG e h l=some vs→∃ vs1,UG e1 hc l=some vs1∧BQ S m hc.get h.next vs vs1
 | [],vs,hv=>by simp [UG] at hv;subst hv;exact ⟨[],rfl,.nil _⟩
 | r::l,vs,hv=>by
  simp only [UG,Option.bind_eq_some_iff,Option.map_eq_some_iff] at hv ⊢
  obtain ⟨v,h1,ws,h2,rfl⟩:=hv
  obtain ⟨ws1,h3,h4⟩:=ZN c p h2
  have:∃ v1,RL e1 hc r=some v1∧PR S m hc.get h.next v v1:=by
   cases r with
   | t n=>simp [RL] at h1 ⊢;subst h1;exact p n
   | cell n k agg=>
    have q:=p n
    simp only [RL] at h1 ⊢
    split at h1
    ·rename_i id el off hx
     rw [hx] at q
     cases hq:e1 n<;>rw [hq] at q<;>cases q
     simp only [Option.bind_eq_some_iff] at h1
     obtain ⟨b,hb,row,hr,hcut⟩:=h1
     exact Jm c hb hr hcut
    ·simp at h1
  obtain ⟨v1,h5,h6⟩:=this
  exact ⟨_,⟨v1,h5,ws1,h3,rfl⟩,.cons _ _ _ _ _ h6 h4⟩
theorem MC (c:Da S m h hc) {e e1:Env} (p:EP S m h hc e e1) {l:List RV} {v:V} (hv:BP e h l=some v):∃ v1,BP e1 hc l=some v1∧PR S m hc.get h.next v v1:=by
 simp only [BP,Option.map_eq_some_iff] at hv ⊢
 obtain ⟨vs,h1,rfl⟩:=hv
 obtain ⟨vs1,h2,h3⟩:=ZN c p h1
 refine ⟨_,⟨vs1,h2,rfl⟩, ?_⟩
 cases h3 with
 | nil=>exact .tup _ _ _ (.nil _)
 | cons _ v v' l l' q r=>
  cases r with
  | nil=>exact q
  | cons _ w w' l l' q' r=>exact .tup _ _ _ (.cons _ _ _ _ _ q (.cons _ _ _ _ _ q' r))
end
def GV (res:List RV) (x:Ex) (e:Env) (h:AH) (Q:V→AH→Prop) (t:Fz (PProd.mk e Q):=.mk):Prop:=match x with | .ex _=>False | _=>Wo (BP e h res) (fun v=>Q v h)
inductive EM:V→Prop where
 | b (x:Bool):EM (.b x)
 | i (k:IntKind) (z:Int):EM (.i k z)
 | s (x:ByteArray):EM (.s x)
 | np:EM .np
 | ns:EM .ns
 | e0:EM .e0
 | nf:EM .nf
 | ni:EM .ni
 | u:EM .u
mutual
inductive Cz (P:Nat→Prop) (h:AH):Nat→V→V→Prop where
 | z (n:Nat) (v:V):EM v→Cz P h n v v
 | ns (n:Nat) (sz:Nat):Cz P h n .ns (.fl sz [])
 | e0 (n:Nat) (sz:Nat):Cz P h n .e0 (.fl sz [])
 | fl (n:Nat) (sz:Nat) (xs:List (List V)):Cz P h n (.fl sz xs) (.fl sz xs)
 | fp (n:Nat) (sz:Nat) (xs:List (List V)) (j o:Nat):Cz P h n (.fp sz xs j o) (.fp sz xs j o)
 | sl (n:Nat) (id el len cap sz:Nat) (cs xs:List (List V)):P id→h.get id=some ⟨sz,cs⟩→el+len≤cs.length→len≤cap→len<Dz→BF P h 0 ((cs.drop el).take len) xs→Cz P h n (.sl id el len cap) (.fl sz xs)
 | p (n:Nat) (id el off:Nat):id<n→Cz P h n (.p id el off) (.p id el off)
 | so (n:Nat) (id el len cap:Nat):id<n→Cz P h n (.sl id el len cap) (.sl id el len cap)
 | f (n:Nat) (fn:Fn) (a c a' c':List V):BS P h n a a'→BS P h n c c'→Cz P h n (.f fn a c) (.f fn a' c')
 | ifc (n:Nat) (t:Nat) (v v':V):Cz P h n v v'→Cz P h n (.ifc t v) (.ifc t v')
 | agg (n:Nat) (l l':List V):BS P h n l l'→Cz P h n (.agg l) (.agg l')
 | tup (n:Nat) (l l':List V):BS P h n l l'→Cz P h n (.tup l) (.tup l')
inductive BS (P:Nat→Prop) (h:AH):Nat→List V→List V→Prop where
 | nil (n:Nat):BS P h n [] []
 | cons (n:Nat) (v v':V) (l l':List V):Cz P h n v v'→BS P h n l l'→BS P h n (v::l) (v'::l')
inductive BF (P:Nat→Prop) (h:AH):Nat→List (List V)→List (List V)→Prop where
 | nil (n:Nat):BF P h n [] []
 | cons (n:Nat) (v v':List V) (l l':List (List V)):BS P h n v v'→BF P h n l l'→BF P h n (v::l) (v'::l')
end
section
variable {S:Nat→Prop} {m:Nat→Nat} {h hc:AH} {P:Nat→Prop}
def SP (S:Nat→Prop) (m:Nat→Nat) (h:AH) (P:Nat→Prop) (a:Nat):Prop:=S a∨∃ i,P i∧h.live i∧m i=a
theorem BF.len {n:Nat}:∀ {l l':List (List V)},BF P h n l l'→l.length=l'.length
 | _,_,.nil _=>rfl
 | _,_,.cons _ _ _ _ _ _ q=>by simp [q.len]
mutual
theorem Cz.ok (c:Da S m h hc) {n:Nat}:∀ {v r v1:V},Cz P h n v r→PR S m hc.get h.next v v1→PR (SP S m h P) m hc.get n r v1
 | _,_,_,.z _ _ h0,p=>by cases h0<;>cases p<;>constructor
 | _,_,_,.ns _ sz,p=>by cases p;exact .fl0 _ _
 | _,_,_,.e0 _ sz,p=>by cases p;exact .fl1 _ _
 | _,_,_,.fl _ sz xs,p=>by
  cases p with
  | fl0=>exact .fl0 _ _
  | fl1=>exact .fl1 _ _
  | fl _ _ _ a el cap cs h1 h2 h3 h4 h5 r=>exact .fl _ _ _ _ _ _ _ (.inl h1) h2 h3 h4 h5 (r.mono ⟨fun a h=>.inl h,fun _ _=>rfl,fun i hi=>absurd hi (Nat.not_lt_zero _),Nat.le_refl _⟩)
 | _,_,_,.fp _ sz xs j o,p=>by
  cases p with
  | fp _ _ _ _ _ a el cs h1 h2 h3 r=>exact .fp _ _ _ _ _ _ _ _ (.inl h1) h2 h3 (r.mono ⟨fun a h=>.inl h,fun _ _=>rfl,fun i hi=>absurd hi (Nat.not_lt_zero _),Nat.le_refl _⟩)
 | _,_,_,.sl _ id el len cap sz cs xs hP hg h1 h2 h3 fr,p=>by
  cases p
  obtain ⟨_,_,cs1,hcs,hr⟩:=c.blk id _ hg
  have e:xs.length=len:=by rw [← fr.len];simp;omega
  subst e
  exact .fl _ _ _ _ _ _ cs1 (.inr ⟨id,hP,by simp [AH.live,hg],rfl⟩) hcs h2 (by rw [← hr.len];exact h1) h3 (BF.ok c fr ((hr.drop _).take _))
 | _,_,_,.p _ id el off hi,p=>by cases p;exact .p _ _ _ _ hi
 | _,_,_,.so _ id el len cap hi,p=>by cases p;exact .sl _ _ _ _ _ hi
 | _,_,_,.f _ fn a cc a' c' fa fc,p=>by cases p;rename_i p q;exact .f _ _ _ _ _ _ (BS.ok c fa p) (BS.ok c fc q)
 | _,_,_,.ifc _ t v v' fv,p=>by cases p;rename_i p;exact .ifc _ _ _ _ (Cz.ok c fv p)
 | _,_,_,.agg _ l l' fl,p=>by cases p;rename_i p;exact .agg _ _ _ (BS.ok c fl p)
 | _,_,_,.tup _ l l' fl,p=>by cases p;rename_i p;exact .tup _ _ _ (BS.ok c fl p)
theorem BS.ok (c:Da S m h hc) {n:Nat}:∀ {v r v1:List V},BS P h n v r→BQ S m hc.get h.next v v1→BQ (SP S m h P) m hc.get n r v1
 | _,_,_,.nil _,p=>by cases p;exact .nil _
 | _,_,_,.cons _ v v' l l' fv fl,p=>by cases p;rename_i p q;exact .cons _ _ _ _ _ (Cz.ok c fv p) (BS.ok c fl q)
theorem BF.ok (c:Da S m h hc) {n:Nat}:∀ {v r v1:List (List V)},BF P h n v r→Dn S m hc.get h.next v v1→Dn (SP S m h P) m hc.get n r v1
 | _,_,_,.nil _,p=>by cases p;exact .nil _
 | _,_,_,.cons _ v v' l l' fv fl,p=>by cases p;rename_i p q;exact .cons _ _ _ _ _ (BS.ok c fv p) (BF.ok c fl q)
end
mutual
theorem PR.frz {g:Nat→Option BV} {n:Nat} {P:Nat→Prop} {h:AH}:∀ {v v1:V},PR S m g n v v1→Cz P h n v v
 | _,_,.u _ x=>.z _ _ .u
 | _,_,.b _ x=>.z _ _ (.b x)
 | _,_,.i _ k z=>.z _ _ (.i k z)
 | _,_,.s _ x=>.z _ _ (.s x)
 | _,_,.np _=>.z _ _ .np
 | _,_,.ns _=>.z _ _ .ns
 | _,_,.e0 _=>.z _ _ .e0
 | _,_,.nf _=>.z _ _ .nf
 | _,_,.ni _=>.z _ _ .ni
 | _,_,.p _ id el off h=>.p _ _ _ _ h
 | _,_,.sl _ id el len cap h=>.so _ _ _ _ _ h
 | _,_,.fl0 _ sz=>.fl _ _ _
 | _,_,.fl1 _ sz=>.fl _ _ _
 | _,_,.fl _ sz xs ..=>.fl _ _ _
 | _,_,.fp _ sz xs ..=>.fp _ _ _ _ _
 | _,_,.f _ fn a c a' c' p q=>.f _ _ _ _ _ _ p.frz q.frz
 | _,_,.ifc _ t v v' p=>.ifc _ _ _ _ p.frz
 | _,_,.agg _ l l' p=>.agg _ _ _ p.frz
 | _,_,.tup _ l l' p=>.tup _ _ _ p.frz
theorem BQ.frz {g:Nat→Option BV} {n:Nat} {P:Nat→Prop} {h:AH}:∀ {v v1:List V},BQ S m g n v v1→BS P h n v v
 | _,_,.nil _=>.nil _
 | _,_,.cons _ v v' l l' p q=>.cons _ _ _ _ _ p.frz q.frz
theorem Dn.frz {g:Nat→Option BV} {n:Nat} {P:Nat→Prop} {h:AH}:∀ {v v1:List (List V)},Dn S m g n v v1→BF P h n v v
 | _,_,.nil _=>.nil _
 | _,_,.cons _ v v' l l' p q=>.cons _ _ _ _ _ p.frz q.frz
end
theorem SP.low (c:Da S m h hc):∀ a,SP S m h P a→a<hc.next:=by
 rintro a (ha | ⟨i,_,hi,rfl⟩)
 ·exact c.low a ha
 ·obtain ⟨k,hk⟩:=Option.ne_none_iff_exists'.1 hi
  exact (c.blk i k hk).2.1
theorem Da.emp {T:Nat→Prop} (low:∀ a,T a→a<hc.next) (bnd:hc.lim≤hc.next) (m:Nat→Nat):Da T m AH.emp hc:=
 ⟨fun i k hk=>by simp [AH.emp] at hk,fun i j hi=>by simp [AH.live,AH.emp] at hi,fun i hi=>by simp [AH.live,AH.emp] at hi,low,fun i hi=>by simp [AH.live,AH.emp] at hi,bnd,Nat.le_refl _⟩
end
theorem EP.args {S:Nat→Prop} {m:Nat→Nat} {h hc:AH} {args args1:List V} (p:BQ S m hc.get h.next args args1):EP S m h hc (E4 args) (E4 args1):=by
 intro t
 simp only [E4,List.getD_eq_getElem?_getD]
 cases ht:args[t]? with
 | none=>
  have:args1[t]?=none:=by rw [List.getElem?_eq_none_iff] at ht ⊢;rw [← p.len];exact ht
  rw [this];exact .u _ _
 | some v=>
  obtain ⟨v1,h1,h2⟩:=p.get t v ht
  rw [h1];exact h2
def G7 (v:V):Prop:=∃ S m g n v1,PR S m g n v v1
def FL (l:List V):Prop:=∀ v,v∈l→G7 v
theorem BQ.reps {S:Nat→Prop} {m:Nat→Nat} {g:Nat→Option BV} {n:Nat}:∀ {l l1:List V},BQ S m g n l l1→FL l
 | _,_,.nil _=>fun v hv=>by simp at hv
 | _,_,.cons _ v v' l l' p q=>fun w hw=>by
  rcases List.mem_cons.1 hw with rfl | hw
  ·exact ⟨_,_,_,_,_,p⟩
  ·exact q.reps w hw
theorem G7.big {s:Nat} {xs:List (List V)} (r:G7 (.fl s xs)):xs.length<4000000000:=by
 obtain ⟨S,m,g,n,v1,p⟩:=r
 cases p with
 | fl0=>simp
 | fl1=>simp
 | fl _ _ _ a el cap cs h1 h2 h3 h4 h5 r=>exact h5
theorem G7.row {s:Nat} {xs:List (List V)} (r:G7 (.fl s xs)) {row:List V} (hr:row∈xs):FL row:=by
 obtain ⟨S,m,g,n,v1,p⟩:=r
 cases p with
 | fl0=>simp at hr
 | fl1=>simp at hr
 | fl _ _ _ a el cap cs h1 h2 h3 h4 h5 r=>
  obtain ⟨j,hj,rfl⟩:=List.getElem_of_mem hr
  obtain ⟨row1,_,q⟩:=r.get j _ (List.getElem?_eq_getElem hj)
  exact q.reps
theorem G7.agg {l:List V} (r:G7 (.agg l)):FL l:=by
 obtain ⟨S,m,g,n,v1,p⟩:=r
 cases p with
 | agg _ _ _ q=>exact q.reps
theorem G7.tup {l:List V} (r:G7 (.tup l)):FL l:=by
 obtain ⟨S,m,g,n,v1,p⟩:=r
 cases p with
 | tup _ _ _ q=>exact q.reps
theorem G7.frzr {s:Nat} {xs:List (List V)} (r:G7 (.fl s xs)) {P:Nat→Prop} {h:AH}:BF P h 0 xs xs:=by
 obtain ⟨S,m,g,n,v1,p⟩:=r
 cases p with
 | fl0=>exact .nil _
 | fl1=>exact .nil _
 | fl _ _ _ a el cap cs h1 h2 h3 h4 h5 r=>exact r.frz
theorem FL.head {v:V} {l:List V} (r:FL (v::l)):G7 v:=r v (by simp)
theorem FL.tail {v:V} {l:List V} (r:FL (v::l)):FL l:=fun w hw=>r w (by simp [hw])
theorem aH7 {f:Nat} {args:List V} {R:V} {tf:TF} (hf:tp.fn f=some tf) (hl:args.length≤tf.n) (z:FL args→zc tp tf.body (E4 args) AH.emp (fun x e h=>GV tf.res x e h (fun r h'=>Cz (fun _=>True) h' 0 r R))):Pf tp f args R:=by
 intro S m hc args1 c p
 have p0:EP S m AH.emp hc (E4 args) (E4 args1):=EP.args p
 refine R9 hf (by rw [← p.len];exact hl) ((Gu tf.body c p0 (z p.reps)).imp ?_)
 rintro x e1 hc' ⟨e,h',S',m',c',a',pe,z⟩
 unfold GV at z
 unfold Tj
 have key:(Wo (BP e h' tf.res) fun v=>Cz (fun _=>True) h' 0 v R)→Wo (BP e1 hc' tf.res) (fun r1=>∃ r h'' S' m',Da S' m' h'' hc'∧FH S m AH.emp hc S' m' h'' hc'∧PR S' m' hc'.get h''.next r r1∧r=R∧h''=AH.emp):=by
  rintro ⟨v,hv,fz⟩
  obtain ⟨v1,h1,h2⟩:=MC c' pe hv
  refine ⟨v1,h1,R,AH.emp,SP S' m' h' (fun _=>True),m',Da.emp (SP.low c') c'.bnd m',⟨fun a h=>.inl (a'.sub a h), ?_,a'.map,Nat.le_refl _,a'.next1,rfl,a'.lim1,a'.frame,fun i hi=>by simp [AH.live,AH.emp] at hi⟩,Cz.ok c' fz h2,rfl,rfl⟩
  rintro a (ha | ⟨i,_,hi,rfl⟩)
  ·exact a'.new a ha
  ·rcases a'.liv i hi with ⟨q1,q2⟩ | q1
   ·exact absurd q1 (Nat.not_lt_zero _)
   ·exact .inr (.inl q1)
 cases x with
 | ex j=>exact z.elim
 | nm=>exact key z
 | rt=>exact key z
def Wf (h:AH):Prop:=h.lim≤h.next∧∀ i k,h.get i=some k→i<h.next∧∀ P h',BF P h' h.next k.cs k.cs
theorem Da.wf {S:Nat→Prop} {m:Nat→Nat} {h hc:AH} (c:Da S m h hc):Wf h:=⟨c.bnd2,fun i k hk=>by
 obtain ⟨h1,_,cs,_,h4⟩:=c.blk i k hk
 exact ⟨h1,fun P h'=>h4.frz⟩⟩
structure BT (h h2:AH) (r:V) (P:Nat→Prop) (R:V) (H:AH):Prop where
 n1:h.next≤H.next
 lim:H.lim=h.lim
 n2:H.next≤h2.next
 blk:∀ i k,H.get i=some k→i<H.next∧¬ P i∧∃ cs,h2.get i=some ⟨k.sz,cs⟩∧BF P h2 H.next cs k.cs
 val:Cz P h2 H.next r R
theorem BT.ok {S S' : Nat → Prop} {m m' : Nat → Nat} {h hc h2 hc2 : AH} {r r1 R : V} {P : Nat → Prop} {H : AH} (st : BT h h2 r P R H) (c : Da S m h hc) (c' : Da S' m' h2 hc2) (a' : FH S m h hc S' m' h2 hc2) (p : PR S' m' hc2.get h2.next r r1) :
    Da (SP S' m' h2 P) m' H hc2∧FH S m h hc (SP S' m' h2 P) m' H hc2∧PR (SP S' m' h2 P) m' hc2.get H.next R r1:=by
 have liv:∀ i,H.live i→h2.live i∧¬ P i:=fun i hi=>by
  obtain ⟨k,hk⟩:=Option.ne_none_iff_exists'.1 hi
  obtain ⟨_,h1,cs,h2,_⟩:=st.blk i k hk
  exact ⟨by simp [AH.live,h2],h1⟩
 refine ⟨⟨fun i k hk=>?_,fun i j hi hj=>c'.inj i j (liv i hi).1 (liv j hj).1,fun i hi hs=>?_,SP.low c',fun i hi hl=>c'.lim i (liv i hi).1 (by rw [a'.lim2,←st.lim];exact hl),c'.bnd,by rw [st.lim];exact Nat.le_trans c.bnd2 st.n1⟩,⟨fun a h=>.inl (a'.sub a h),fun a ha=>?_,a'.map,st.n1,a'.next1,st.lim,a'.lim1,a'.frame,fun i hi=>a'.liv i (liv i hi).1⟩,st.val.ok c' p⟩
 ·obtain ⟨h1,h2',cs,h3,h4⟩:=st.blk i k hk
  obtain ⟨q1,q2,cs1,q3,q4⟩:=c'.blk i _ h3
  exact ⟨h1,q2,cs1,q3,h4.ok c' q4⟩
 ·obtain ⟨hl,hP⟩:=liv i hi
  rcases hs with hs | ⟨j,hj,hlj,he⟩
  ·exact c'.off i hl hs
  ·exact hP (c'.inj j i hlj hl he▸hj)
 ·rcases ha with ha | ⟨i,_,hi,rfl⟩
  ·exact a'.new a ha
  ·rcases a'.liv i hi with ⟨q1,q2⟩ | q1
   ·exact .inr (.inr ⟨i,q2,(a'.map i q1).symm⟩)
   ·exact .inr (.inl q1)
theorem R8 {f:Nat} {args:List V} {h:AH} {K:V→AH→Prop} {tf:TF} (hf:tp.fn f=some tf) (hl:args.length≤tf.n) (z:Wf h→FL args→zc tp tf.body (E4 args) h (fun x e h2=>GV tf.res x e h2 (fun r h3=>∃ P R H,BT h h3 r P R H∧K R H))):Cq tp f args h K:=by
 intro S m hc args1 c p
 refine R9 hf (by rw [← p.len];exact hl) ((Gu tf.body c (EP.args p) (z c.wf p.reps)).imp ?_)
 rintro x e1 hc' ⟨e,h',S',m',c',a',pe,z⟩
 unfold GV at z
 unfold Tj
 have key:(Wo (BP e h' tf.res) fun r=>∃ P R H,BT h h' r P R H∧K R H)→Wo (BP e1 hc' tf.res) (fun r1=>∃ r h'' S' m',Da S' m' h'' hc'∧FH S m h hc S' m' h'' hc'∧PR S' m' hc'.get h''.next r r1∧K r h''):=by
  rintro ⟨v,hv,P,R,H,st,k⟩
  obtain ⟨v1,h1,h2⟩:=MC c' pe hv
  obtain ⟨q1,q2,q3⟩:=st.ok c c' a' h2
  exact ⟨v1,h1,R,H,_,m',q1,q2,q3,k⟩
 cases x with
 | ex j=>exact z.elim
 | nm=>exact key z
 | rt=>exact key z
theorem rY {f:Nat} {args:List V} {h:AH} {K:V→AH→Prop} {tf:TF} (hf:tp.fn f=some tf) (hl:args.length≤tf.n) (z:Wf h→FL args→zc tp tf.body (E4 args) h (fun x e h2=>GV tf.res x e h2 K)):Cq tp f args h K:=by
 intro S m hc args1 c p
 refine R9 hf (by rw [← p.len];exact hl) ((Gu tf.body c (EP.args p) (z c.wf p.reps)).imp ?_)
 rintro x e1 hc' ⟨e,h',S',m',c',a',pe,z⟩
 unfold GV at z
 unfold Tj
 have key:(Wo (BP e h' tf.res) fun r=>K r h')→Wo (BP e1 hc' tf.res) (fun r1=>∃ r h'' S' m',Da S' m' h'' hc'∧FH S m h hc S' m' h'' hc'∧PR S' m' hc'.get h''.next r r1∧K r h''):=by
  rintro ⟨v,hv,k⟩
  obtain ⟨v1,h1,h2⟩:=MC c' pe hv
  exact ⟨v1,h1,v,h',_,m',c',a',h2,k⟩
 cases x with
 | ex j=>exact z.elim
 | nm=>exact key z
 | rt=>exact key z
theorem Cq.imp {f:Nat} {args:List V} {h:AH} {K L:V→AH→Prop} (c:Cq tp f args h K) (kl:∀ v h,K v h→L v h):Cq tp f args h L:=by
 intro S m hc args1 cf p
 refine (c S m hc args1 cf p).imp ?_
 rintro v h' ⟨r,h2,S',m',a,b,c,d⟩
 exact ⟨r,h2,S',m',a,b,c,kl _ _ d⟩
mutual
def pur:V→Bool
 | .p .. | .sl ..=>false
 | .f _ a c=>Gb a&&Gb c
 | .ifc _ v=>pur v
 | .agg l=>Gb l
 | .tup l=>Gb l
 | _=>true
def Gb:List V→Bool
 | []=>true
 | v::l=>pur v&&Gb l
end
mutual
theorem PR.pur {S:Nat→Prop} {m:Nat→Nat} {g:Nat→Option BV} {n:Nat}:∀ {v v1:V},PR S m g n v v1→pur v=true→PR S m g 0 v v1
 | _,_,.u _ x,_=>.u _ x
 | _,_,.b _ x,_=>.b _ x
 | _,_,.i _ k z,_=>.i _ k z
 | _,_,.s _ x,_=>.s _ x
 | _,_,.np _,_=>.np _
 | _,_,.ns _,_=>.ns _
 | _,_,.e0 _,_=>.e0 _
 | _,_,.nf _,_=>.nf _
 | _,_,.ni _,_=>.ni _
 | _,_,.p _ _ _ _ _,h=>by simp [Go.Ab.pur] at h
 | _,_,.sl _ _ _ _ _ _,h=>by simp [Go.Ab.pur] at h
 | _,_,.fl0 _ sz,_=>.fl0 _ sz
 | _,_,.fl1 _ sz,_=>.fl1 _ sz
 | _,_,.fl _ sz xs a el cap cs h1 h2 h3 h4 h5 r,_=>.fl _ sz xs a el cap cs h1 h2 h3 h4 h5 r
 | _,_,.fp _ sz xs j off a el cs h1 h2 h3 r,_=>.fp _ sz xs j off a el cs h1 h2 h3 r
 | _,_,.f _ fn a c a' c' p q,h=>by
  simp only [Go.Ab.pur,Bool.and_eq_true] at h
  exact .f _ fn a c a' c' (BQ.pur p h.1) (BQ.pur q h.2)
 | _,_,.ifc _ t v v' p,h=>by simp only [Go.Ab.pur] at h;exact .ifc _ t v v' (PR.pur p h)
 | _,_,.agg _ l l' p,h=>by simp only [Go.Ab.pur] at h;exact .agg _ l l' (BQ.pur p h)
 | _,_,.tup _ l l' p,h=>by simp only [Go.Ab.pur] at h;exact .tup _ l l' (BQ.pur p h)
theorem BQ.pur {S:Nat→Prop} {m:Nat→Nat} {g:Nat→Option BV} {n:Nat}:∀ {v v1:List V},BQ S m g n v v1→Gb v=true→BQ S m g 0 v v1
 | _,_,.nil _,_=>.nil _
 | _,_,.cons _ v v' l l' p q,h=>by
  simp only [Gb,Bool.and_eq_true] at h
  exact .cons _ _ _ _ _ (PR.pur p h.1) (BQ.pur q h.2)
end
def AH.kills (h:AH) (D:List Nat):AH:={ h with get:=fun i=>if i∈D then none else h.get i }
theorem Da.after {S T S':Nat→Prop} {m m':Nat→Nat} {h hc hc':AH} {D:List Nat} (c:Da S m h hc) (hT:∀ a,T a→S a∨∃ i,i∈D∧h.live i∧m i=a) (hST:∀ a,S a→T a) (c':Da S' m' AH.emp hc') (a':FH T m AH.emp hc S' m' AH.emp hc'):Da S' m (h.kills D) hc'∧FH S m h hc S' m (h.kills D) hc':=by
 have lt:∀ i,h.live i→i<h.next∧m i<hc.next:=fun i hi=>by
  obtain ⟨k,hk⟩:=Option.ne_none_iff_exists'.1 hi;exact ⟨(c.blk i k hk).1,(c.blk i k hk).2.1⟩
 have live:∀ i,(h.kills D).live i→h.live i∧i∉D:=fun i hi=>by
  simp only [AH.live,AH.kills] at hi
  split at hi
  ·simp at hi
  ·exact ⟨hi,by assumption⟩
 have fr:∀ a,a<hc.next→hc'.get a=hc.get a:=fun a ha=>a'.frame a ha (fun i hi=>by simp [AH.live,AH.emp] at hi)
 have pm:I9 S m hc.get h.next S' m hc'.get h.next:=⟨fun a h=>a'.sub a (hST a h),fun a ha=>fr a (c.low a ha),fun _ _=>rfl,Nat.le_refl _⟩
 have nw:∀ a,S' a→S a∨hc.next≤a∨∃ i,i∈D∧h.live i∧m i=a:=fun a ha=>by
  rcases a'.new a ha with h1 | h1 | ⟨i,hi,_⟩
  ·rcases hT a h1 with h2 | h2
   ·exact .inl h2
   ·exact .inr (.inr h2)
  ·exact .inr (.inl h1)
  ·simp [AH.live,AH.emp] at hi
 refine ⟨⟨fun i k hk=>?_,fun i j hi hj=>c.inj i j (live i hi).1 (live j hj).1,fun i hi hs=>?_,c'.low,fun i hi hl=>by rw [a'.lim1];exact c.lim i (live i hi).1 hl,c'.bnd,c.bnd2⟩,⟨fun a h=>a'.sub a (hST a h),fun a ha=>?_,fun _ _=>rfl,Nat.le_refl _,a'.next1,rfl,a'.lim1,fun a ha _=>fr a ha,fun i hi=>.inl ⟨(lt i (live i hi).1).1,(live i hi).1⟩⟩⟩
 ·have hk2:h.get i=some k:=by
   simp only [AH.kills] at hk
   split at hk
   ·simp at hk
   ·exact hk
  obtain ⟨h1,h2,cs,h3,h4⟩:=c.blk i k hk2
  exact ⟨h1,Nat.lt_of_lt_of_le h2 a'.next1,cs,by rw [fr _ h2];exact h3,h4.mono pm⟩
 ·obtain ⟨hi,hD⟩:=live i hi
  rcases nw _ hs with h1 | h1 | ⟨j,hj,hlj,he⟩
  ·exact c.off i hi h1
  ·have:=(lt i hi).2;omega
  ·exact hD (c.inj j i hlj hi he▸hj)
 ·rcases nw a ha with h1 | h1 | ⟨i,_,hi,he⟩
  ·exact .inl h1
  ·exact .inr (.inl h1)
  ·exact .inr (.inr ⟨i,hi,he⟩)
theorem Pf.go {f:Nat} {args:List V} {R:V} {h:AH} {K:V→AH→Prop} (pf:Pf tp f args R) (hp:Gb args=true) (k:G7 R→K R h):Cq tp f args h K:=by
 intro S m hc args1 c p
 refine (pf S m hc args1 (Da.emp c.low c.bnd m) (p.pur hp)).imp ?_
 rintro r1 hc' ⟨r,h',S',m',c',a',q,rfl,rfl⟩
 obtain ⟨c2,a2⟩:=c.after (D:=[]) (T:=S) (fun a h=>.inl h) (fun a h=>h) c' a'
 have e:h.kills []=h:=by simp [AH.kills]
 rw [e] at c2 a2
 exact ⟨r,h,S',m,c2,a2,q.up _ _,k ⟨_,_,_,_,_,q⟩⟩
theorem Pf.take {f:Nat} {args A:List V} {R:V} {h:AH} {K:V→AH→Prop} (D:List Nat) (pf:Pf tp f A R) (fz:BS (·∈D) h 0 args A) (k:G7 R→K R (h.kills D)):Cq tp f args h K:=by
 intro S m hc args1 c p
 have q:=BS.ok c fz p
 refine (pf _ m hc args1 (Da.emp (SP.low c) c.bnd m) q).imp ?_
 rintro r1 hc' ⟨r,h',S',m',c',a',q,rfl,rfl⟩
 obtain ⟨c2,a2⟩:=c.after (D:=D) (fun a h=>h) (fun a h=>.inl h) c' a'
 exact ⟨r,_,S',m,c2,a2,q.up _ _,k ⟨_,_,_,_,_,q⟩⟩
mutual
def flat0:V→Bool
 | .b _ | .i .. | .s _ | .np | .ns | .e0 | .nf | .ni | .u=>true
 | .agg l=>Nd l
 | .tup l=>Nd l
 | _=>false
def Nd:List V→Bool
 | []=>true
 | v::l=>flat0 v&&Nd l
end
mutual
theorem PR.flat0 {S S':Nat→Prop} {m m':Nat→Nat} {g g':Nat→Option BV} {n n':Nat}:∀ {v v1:V},PR S m g n v v1→flat0 v=true→PR S' m' g' n' v v1
 | _,_,.u _ x,_=>.u _ x
 | _,_,.b _ x,_=>.b _ x
 | _,_,.i _ k z,_=>.i _ k z
 | _,_,.s _ x,_=>.s _ x
 | _,_,.np _,_=>.np _
 | _,_,.ns _,_=>.ns _
 | _,_,.e0 _,_=>.e0 _
 | _,_,.nf _,_=>.nf _
 | _,_,.ni _,_=>.ni _
 | _,_,.p _ _ _ _ _,h=>by simp [Go.Ab.flat0] at h
 | _,_,.sl _ _ _ _ _ _,h=>by simp [Go.Ab.flat0] at h
 | _,_,.fl0 _ sz,h=>by simp [Go.Ab.flat0] at h
 | _,_,.fl1 _ sz,h=>by simp [Go.Ab.flat0] at h
 | _,_,.fl ..,h=>by simp [Go.Ab.flat0] at h
 | _,_,.fp ..,h=>by simp [Go.Ab.flat0] at h
 | _,_,.f ..,h=>by simp [Go.Ab.flat0] at h
 | _,_,.ifc ..,h=>by simp [Go.Ab.flat0] at h
 | _,_,.agg _ l l' p,h=>by simp only [Go.Ab.flat0] at h;exact .agg _ l l' (BQ.flat0 p h)
 | _,_,.tup _ l l' p,h=>by simp only [Go.Ab.flat0] at h;exact .tup _ l l' (BQ.flat0 p h)
theorem BQ.flat0 {S S':Nat→Prop} {m m':Nat→Nat} {g g':Nat→Option BV} {n n':Nat}:∀ {v v1:List V},BQ S m g n v v1→Nd v=true→BQ S' m' g' n' v v1
 | _,_,.nil _,_=>.nil _
 | _,_,.cons _ v v' l l' p q,h=>by
  simp only [Nd,Bool.and_eq_true] at h
  exact .cons _ _ _ _ _ (PR.flat0 p h.1) (BQ.flat0 q h.2)
end
theorem Pf.look {f:Nat} {args A:List V} {R:V} {h:AH} {K:V→AH→Prop} (pf:Pf tp f A R) (fz:BS (fun _=>True) h 0 args A) (hR:flat0 R=true) (k:G7 R→K R h):Cq tp f args h K:=by
 intro S m hc args1 c p
 have q:=BS.ok c fz p
 refine (pf _ m hc args1 (Da.emp (SP.low c) c.bnd m) q).imp ?_
 rintro r1 hc' ⟨r,h',S',m',c',a',q,rfl,rfl⟩
 have lt:∀ i,h.live i→i<h.next∧m i<hc.next:=fun i hi=>by
  obtain ⟨k,hk⟩:=Option.ne_none_iff_exists'.1 hi;exact ⟨(c.blk i k hk).1,(c.blk i k hk).2.1⟩
 have fr:∀ a,a<hc.next→hc'.get a=hc.get a:=fun a ha=>a'.frame a ha (fun i hi=>by simp [AH.live,AH.emp] at hi)
 have pm:I9 S m hc.get h.next S m hc'.get h.next:=⟨fun a h=>h,fun a ha=>fr a (c.low a ha),fun _ _=>rfl,Nat.le_refl _⟩
 refine ⟨r,h,S,m,⟨fun i k hk=>?_,c.inj,c.off,fun a ha=>Nat.lt_of_lt_of_le (c.low a ha) a'.next1,fun i hi hl=>by rw [a'.lim1];exact c.lim i hi hl,c'.bnd,c.bnd2⟩,⟨fun a h=>h,fun a h=>.inl h,fun _ _=>rfl,Nat.le_refl _,a'.next1,rfl,a'.lim1,fun a ha _=>fr a ha,fun i hi=>.inl ⟨(lt i hi).1,hi⟩⟩,q.flat0 hR,k ⟨_,_,_,_,_,q⟩⟩
 obtain ⟨h1,h2,cs,h3,h4⟩:=c.blk i k hk
 exact ⟨h1,Nat.lt_of_lt_of_le h2 a'.next1,cs,by rw [fr _ h2];exact h3,h4.mono pm⟩
end
end Go.Ab
/- The rules for code over values that stay, as a set for simp; slices that are one's own. -/
namespace Go.Ab
open Go
theorem Env.set_get {e:Env} {d j:Nat} {v:V}:(e.set (some d) v) j=if j=d then v else e j:=An rfl
theorem Env.set_none {e:Env} {v:V}:e.set none v=e:=An rfl
/-! ### The heap -/
def Xz {α:Type} (i n:Nat) (a b:α):α:=if i=n then a else b
theorem AC {α:Type} {i n:Nat} {a b:α} (h:i=n):Xz i n a b=a:=if_pos h
theorem Ac {α:Type} {i n:Nat} {a b:α} (h:¬ i=n):Xz i n a b=b:=if_neg h
theorem AL {h:AH} {k:BV} {i:Nat}:(h.alloc k).get i=Xz i h.next (some k) (h.get i):=An rfl
theorem Ad {h:AH} {k:BV} {i j:Nat}:(h.put j k).get i=Xz i j (some k) (h.get i):=An rfl
theorem Cl {h:AH} {i j:Nat}:(h.kill j).get i=Xz i j none (h.get i):=An rfl
theorem TY {h:AH} {i:Nat}:h.raise.get i=h.get i:=An rfl
theorem Xw {h:AH} {i l:Nat}:(h.back l).get i=h.get i:=An rfl
theorem Ag {h:AH} {k:BV}:(h.alloc k).next=h.next+1:=An rfl
theorem AB {h:AH} {k:BV} {j:Nat}:(h.put j k).next=h.next:=An rfl
theorem GH {h:AH} {j:Nat}:(h.kill j).next=h.next:=An rfl
theorem A9 {h:AH}:h.raise.next=h.next:=An rfl
theorem Ul {h:AH} {l:Nat}:(h.back l).next=h.next:=An rfl
theorem AG {h:AH} {k:BV}:(h.alloc k).lim=h.lim:=An rfl
theorem CU {h:AH} {k:BV} {j:Nat}:(h.put j k).lim=h.lim:=An rfl
theorem YT {h:AH} {j:Nat}:(h.kill j).lim=h.lim:=An rfl
theorem Bh {h:AH}:h.raise.lim=h.next:=An rfl
theorem YS {h:AH} {l:Nat}:(h.back l).lim=l:=An rfl
theorem ID {h:AH} {k:BV}:(h.raise.alloc k).back h.lim=h.alloc k:=An rfl
theorem RE {h:AH}:h.raise.back h.lim=h:=An rfl
section
variable {tp:TP} {e:Env} {h:AH}
/-! ### Code -/
def Z1 (tp:TP) (o:O) (e:Env) (h:AH) (K:V→AH→Prop) (t:Fz K:=.mk):Prop:=z1 tp o e h K
def Ek (tp:TP) (o:O) (e:Env) (h:AH) (K:V→AH→Prop) (t:Fz K:=.mk):Prop:=zq1 tp o e h K
def K0 (tp:TP) (l:List TO) (e:Env) (h:AH) (K:Env→AH→Prop) (t:Fz (PProd.mk e K):=.mk):Prop:=La tp l e h K
def ZQ (tp:TP) (l:List TO) (e:Env) (h:AH) (K:Env→AH→Prop) (t:Fz (PProd.mk e K):=.mk):Prop:=zq tp l e h K
def ZS (tp:TP) (l:List (Bool×List TO)) (e:Env) (h:AH) (K:Env→AH→Prop) (t:Fz (PProd.mk e K):=.mk):Prop:=zs tp l e h K
def ZC (tp:TP) (c:TC) (e:Env) (h:AH) (K:Ex→Env→AH→Prop) (t:Fz (PProd.mk e K):=.mk):Prop:=zc tp c e h K
theorem eE {K:Ex→Env→AH→Prop}:ZC tp .skip e h K=K .nm e h:=An rfl
theorem aEE {K:Ex→Env→AH→Prop}:ZC tp .ret e h K=K .rt e h:=An rfl
theorem eD {id:Nat} {K:Ex→Env→AH→Prop}:ZC tp (.exit id) e h K=K (.ex id) e h:=An rfl
theorem aED {ops:List TO} {K:Ex→Env→AH→Prop}:ZC tp (.reg ops) e h K=K0 tp ops e h (fun e h=>K .nm e h):=An rfl
theorem eC {ops:List (Bool×List TO)} {K:Ex→Env→AH→Prop}:ZC tp (.dreg ops) e h K=ZS tp ops e h (fun e h=>K .nm e h):=An rfl
theorem dZ {c:X} {a b:TC} {K:Ex→Env→AH→Prop}:ZC tp (.cond c a b) e h K=Wb (c.e2 e) (ZC tp a e h K) (ZC tp b e h K):=An rfl
theorem V7 {id:Nat} {c:TC} {K:Ex→Env→AH→Prop}:ZC tp (.block id c) e h K=ZC tp c e h (fun x e h=>K (blk id x) e h):=An rfl
theorem aEF {a b:TC} {K:Ex→Env→AH→Prop}:ZC tp (.seq a b) e h K=ZC tp a e h (fun x e h=>Uo x (ZC tp b e h K) (K x e h)):=An rfl
theorem Ai {c d:TC} {K:Ex→Env→AH→Prop} (hcd:c=d):ZC tp c e h K=ZC tp d e h K:=by rw [hcd]
theorem Bb {c:TC} {K:Ex→Env→AH→Prop} (z:ZC tp c e h (fun x e h=>Uo x (ZC tp (.loop c) e h K) (K x e h))):ZC tp (.loop c) e h K:=by
 intro I hI hS
 exact hI e h (E0 (c:=c) (fun x e h=>Mx (fun z=>z I hI hS) id) z)
theorem L6 {c:TC} {K:Ex→Env→AH→Prop} {e2:Env} {h2:AH} (st:Stp e h e2 h2) (z:ZC tp (.loop c) e2 h2 K):ZC tp (.loop c) e h K:=fun I hI hS=>hS e h e2 h2 st (z I hI hS)
theorem Ae {c:TC} {K:Ex→Env→AH→Prop} (J:Nat→Env→AH→Prop) (round:∀ n e h,J n e h→(∀ m e' h',m<n→J m e' h'→ZC tp (.loop c) e' h' K)→ZC tp c e h (fun x e h=>Uo x (ZC tp (.loop c) e h K) (K x e h))):∀ n e h,J n e h→ZC tp (.loop c) e h K:=by
 intro n
 induction n using Nat.strongRecOn with
 | _ n ih=>intro e h hj;exact Bb (round n e h hj (fun m e' h' hm hj'=>ih m hm e' h' hj'))
theorem ZC.imp {c:TC} {K L:Ex→Env→AH→Prop} (z:ZC tp c e h K) (kl:∀ x e h,K x e h→L x e h):ZC tp c e h L:=E0 (c:=c) kl z
theorem bP {v:V} {x:Bool} {A B:Prop}:(match (match v with | .b y=>some (y==x) | .tup []=>some false | _=>none:Option Bool) with | some true=>A | some false=>B | none=>False)=Wg v x A B:=by
 cases v with
 | b y=>cases y<;>cases x<;>simp [Wg]
 | tup l=>cases l<;>simp [Wg]
 | _=>simp [Wg]
theorem V8 {K:Env→AH→Prop}:K0 tp [] e h K=K e h:=An rfl
theorem V9 {d:Option Nat} {o:O} {r:List TO} {K:Env→AH→Prop}:K0 tp (⟨d,o,none⟩::r) e h K=Z1 tp o e h (fun v h=>K0 tp r (e.set d v) h K):=An rfl
theorem aEG {d:Option Nat} {o:O} {t:Nat} {x:Bool} {r:List TO} {K:Env→AH→Prop}:K0 tp (⟨d,o,some (t,x)⟩::r) e h K=Wg (e t) x (Z1 tp o e h (fun v h=>K0 tp r (e.set d v) h K)) (K0 tp r (e.set d (.tup [])) h K):=by
 exact bP
theorem aEQ {K:Env→AH→Prop}:ZS tp [] e h K=K e h:=An rfl
theorem aEP {l:List TO} {r:List (Bool×List TO)} {K:Env→AH→Prop}:ZS tp ((false,l)::r) e h K=K0 tp l e h (fun e h=>ZS tp r e h K):=An rfl
theorem Wu {l:List TO} {r:List (Bool×List TO)} {K:Env→AH→Prop}:ZS tp ((true,l)::r) e h K=ZQ tp l e h (fun e h=>ZS tp r e h K):=An rfl
theorem aEN {K:Env→AH→Prop}:ZQ tp [] e h K=K e h:=An rfl
theorem aEO {d:Option Nat} {o:O} {r:List TO} {K:Env→AH→Prop}:ZQ tp (⟨d,o,none⟩::r) e h K=Ek tp o e h (fun v h=>ZQ tp r (e.set d v) h K):=An rfl
theorem aWj {d:Option Nat} {o:O} {t:Nat} {x:Bool} {r:List TO} {K:Env→AH→Prop}:ZQ tp (⟨d,o,some (t,x)⟩::r) e h K=Wg (e t) x (Ek tp o e h (fun v h=>ZQ tp r (e.set d v) h K)) (ZQ tp r (e.set d (.tup [])) h K):=by
 exact bP
end
/-! ### Operations one by one -/
theorem aWs {e:Env} {n:Nat}:(X.t n).e2 e=e n:=An rfl
theorem aTX {e:Env} {k:IntKind} {n:Int}:(X.c (.i k n)).e2 e=.i k n:=An rfl
theorem aTW {e:Env} {x:Bool}:(X.c (.b x)).e2 e=.b x:=An rfl
theorem aTY {e:Env} {x:ByteArray}:(X.c (.s x)).e2 e=.s x:=An rfl
theorem aT1 {e:Env}:(X.c .np).e2 e=.np:=An rfl
theorem aT2 {e:Env}:(X.c .ns).e2 e=.ns:=An rfl
theorem aTZ {e:Env}:(X.c .nf).e2 e=.nf:=An rfl
theorem aT0 {e:Env}:(X.c .ni).e2 e=.ni:=An rfl
theorem aFa {e:Env} {l:List V} (hl:l.all plain1=true):(X.c (.agg l)).e2 e=.agg l:=by simp [X.e2,plain,hl]
theorem rD {e:Env} {f:Nat}:(X.fn f).e2 e=.f (.func f) [] []:=An rfl
theorem Zh {k:IntKind} {n:Int}:plain1 (.i k n)=true:=An rfl
theorem Zg {x:Bool}:plain1 (.b x)=true:=An rfl
theorem Zi {x:ByteArray}:plain1 (.s x)=true:=An rfl
theorem Uu:plain1 .np=true:=An rfl
theorem Uv:plain1 .ns=true:=An rfl
theorem Us:plain1 .nf=true:=An rfl
theorem Ut:plain1 .ni=true:=An rfl
section
variable {tp:TP} {e:Env} {h:AH} {K:V→AH→Prop}
def asB:V→Option Bool | .b x=>some x | _=>none
theorem aTO {x:Bool}:asB (.b x)=some x:=An rfl
theorem aTI {x:X}:Z1 tp (.mv x) e h K=Wv (x.e2 e) (fun v=>K v h):=by
 unfold Z1;simp only [z1,BM,Af,AV,HA]
theorem dV {c a b:X}:Z1 tp (.pick c a b) e h K=Wo (asB (c.e2 e)) (fun t=>Wv (if t then a.e2 e else b.e2 e) (fun v=>K v h)):=by
 unfold Z1;simp only [z1,BM,Af,asB]
 cases c.e2 e<;>simp only [AV,A5,HA]
theorem JB {z:List V}:Z1 tp (.alloc z) e h K=(z.all plain1=true∧Wv (.p h.next 0 0) (fun v=>Wv (h.alloc ⟨z.length,[z]⟩) (fun h'=>K v h'))):=by
 unfold Z1;simp only [z1,BM,Af,CY,AV,HA]
theorem Qx {x:X}:Z1 tp (.box x) e h K=((x.e2 e).cells.all V.isCell=true∧Wv (.p h.next 0 0) (fun v=>Wv (h.alloc ⟨(x.e2 e).cells.length,[(x.e2 e).cells]⟩) (fun h'=>K v h'))):=by
 unfold Z1;simp only [z1,BM,Af,CY,AV,HA]
theorem V0 {z:List V} {ps:List (Nat×Nat×X)}:Z1 tp (.build z ps) e h K=(z.all plain1=true∧Wo (Fr z (ps.map fun q=>(q.1,q.2.1,q.2.2.e2 e))) (fun r=>K (.agg r) h)):=by
 unfold Z1;simp only [z1,BM,Af,CY,BH]
theorem Qy {sz n:Nat} {z:List V} {ps:List (Nat×X)}:Z1 tp (.bsl sz z n ps) e h K=((z.all plain1=true∧n<4294967296)∧Wo (CL sz (List.replicate n z) (ps.map fun q=>(q.1,q.2.e2 e))) (fun r=>Wv (.sl h.next 0 n n) (fun v=>Wv (h.alloc ⟨sz,r⟩) (fun h'=>K v h')))):=by
 unfold Z1;simp only [z1,BM,Af];rw [CY,BH];rfl
theorem L4 {sz n:Nat} {z:List V} {ps:List (Nat×X)}:Z1 tp (.bslc sz z n ps) e h K=((z.all plain1=true∧n<4294967296)∧Wo (CL sz (List.replicate n z) (ps.map fun q=>(q.1,q.2.e2 e))) (fun r=>Wv (.sl h.next 0 n n) (fun v=>Wv (h.alloc ⟨sz,r⟩) (fun h'=>K v h')))):=by
 unfold Z1;simp only [z1,BM,Af];rw [CY,BH];rfl
def aEl (sz n:Nat) (z:List V) (ps:List (Nat×V)) (y:V) (h:AH) (K:V→AH→Prop) (t:Fz K:=.mk):Prop:=match y with
 | .sl id el len cap=>Wo (CL sz (List.replicate n z) ps) (fun r=>h.get id=some ⟨sz,r⟩∧(el=0∧len=n∧cap=n)∧Bq r r=true∧Wv V.u (fun v=>K v h))
 | _=>False
theorem dA {sz n id el len cap:Nat} {z:List V} {ps:List (Nat×V)}:aEl sz n z ps (.sl id el len cap) h K=Wo (CL sz (List.replicate n z) ps) (fun r=>h.get id=some ⟨sz,r⟩∧(el=0∧len=n∧cap=n)∧Bq r r=true∧Wv V.u (fun v=>K v h)):=An rfl
theorem dK {sz n:Nat} {z:List V} {ps:List (Nat×X)} {y:X}:Z1 tp (.chkb sz z n ps y) e h K=(z.all plain1=true∧aEl sz n z (ps.map fun q=>(q.1,q.2.e2 e)) (y.e2 e) h K):=by
 unfold Z1;simp only [z1,BM,CY]
 congr 1
 simp only [Af]
 generalize y.e2 e=v
 cases v<;>simp only [aEl,A5]
 rename_i id el len cap
 rw [B0]
 refine FM fun r=>?_
 apply propext
 constructor
 ·rintro ⟨⟨v,h'⟩,h1,k⟩
  simp only [Option.bind_eq_some_iff] at h1
  obtain ⟨b,hb,h1⟩:=h1
  split at h1
  case isFalse=>simp at h1
  rename_i hs
  simp at h1
  obtain ⟨rfl,rfl⟩:=h1
  obtain ⟨e1,e2,e3,e4,e5⟩:=hs
  have:=Eg e5
  subst this
  obtain ⟨s,cs⟩:=b
  simp only at e4 e5 hb
  subst e4
  exact ⟨hb,⟨e1,e2,e3⟩,e5,k⟩
 ·rintro ⟨hb,⟨e1,e2,e3⟩,e5,k⟩
  exact ⟨(.u,h),by rw [hb];simp only [Option.bind_some];rw [if_pos ⟨e1,e2,e3,trivial,e5⟩],k⟩
theorem Qv {z:List V}:Z1 tp (.alc z) e h K=(z.all plain1=true∧Wv (.p h.next 0 0) (fun v=>Wv (h.alloc ⟨z.length,[z]⟩) (fun h'=>K v h'))):=by
 unfold Z1;simp only [z1,BM,Af];rw [CY,AV];rfl
def aEj (z:List V) (y:V) (h:AH) (K:V→AH→Prop) (t:Fz K:=.mk):Prop:=match y with
 | .p id el off=>h.get id=some ⟨z.length,[z]⟩∧(el=0∧off=0)∧Bq [z] [z]=true∧Wv V.u (fun v=>K v h)
 | _=>False
theorem aEk {id el off:Nat} {z:List V}:aEj z (.p id el off) h K=(h.get id=some ⟨z.length,[z]⟩∧(el=0∧off=0)∧Bq [z] [z]=true∧Wv V.u (fun v=>K v h)):=An rfl
theorem dJ {z:List V} {y:X}:Z1 tp (.chka z y) e h K=(z.all plain1=true∧aEj z (y.e2 e) h K):=by
 unfold Z1;simp only [z1,BM,CY]
 congr 1
 simp only [Af]
 generalize y.e2 e=v
 cases v<;>simp only [aEj,A5]
 rename_i id el off
 apply propext
 constructor
 ·rintro ⟨⟨v,h'⟩,h1,k⟩
  simp only [Option.bind_eq_some_iff] at h1
  obtain ⟨b,hb,h1⟩:=h1
  split at h1
  case isFalse=>simp at h1
  rename_i hs
  simp at h1
  obtain ⟨rfl,rfl⟩:=h1
  obtain ⟨e1,e2,e3,e5⟩:=hs
  obtain ⟨s,cs⟩:=b
  simp only at e3 e5 hb
  have:=Eg e5
  subst this
  subst e3
  exact ⟨hb,⟨e1,e2⟩,e5,k⟩
 ·rintro ⟨hb,⟨e1,e2⟩,e5,k⟩
  exact ⟨(.u,h),by rw [hb];simp only [Option.bind_some];rw [if_pos ⟨e1,e2,trivial,e5⟩],k⟩
theorem MF:Bq [] []=true:=An rfl
theorem K8 {a b:List V} {l m:List (List V)}:Bq (a::l) (b::m)=(BU a b&&Bq l m):=An rfl
theorem N1:BU [] []=true:=An rfl
theorem ME {a b:V} {l m:List V}:BU (a::l) (b::m)=(sameV a b&&BU l m):=An rfl
theorem aTF:Z1 tp .e0 e h K=K .e0 h:=by unfold Z1;simp only [z1,BM,Af,AV]
def bZ (k:Option BV) (el off n:Nat) (agg:Bool):Option V:=k.bind fun k=>(k.cs[el]?).bind fun r=>Ib r off n agg
def UV (h:AH) (n:Nat) (agg:Bool):V→Option V | .p id el off=>bZ (h.get id) el off n agg | .fp _ xs j off=>ldF n agg xs j off | _=>none
theorem rJ {id el off n:Nat} {agg:Bool}:UV h n agg (.p id el off)=bZ (h.get id) el off n agg:=An rfl
theorem aG0 {s j off n:Nat} {xs:List (List V)} {agg:Bool}:UV h n agg (.fp s xs j off)=(xs[j]?).bind fun r=>Ib r off n agg:=An rfl
theorem Nq {sz el off n:Nat} {cs:List (List V)} {agg:Bool}:bZ (some ⟨sz,cs⟩) el off n agg=(cs[el]?).bind fun r=>Ib r off n agg:=An rfl
theorem W7 {n:Nat} {agg:Bool} {x:X} {ev:X→V}:BM (.load n agg x) ev h=(UV h n agg (ev x)).map fun v=>(v,h):=by
 simp only [BM,Af]
 cases ev x<;>simp only [UV,bZ]<;>try rfl
 rename_i id el off
 cases h.get id with
 | none=>rfl
 | some k=>
  simp only [Option.bind_some]
  cases k.cs[el]?<;>rfl
theorem TK {n:Nat} {ag:Bool} {x:X} {ev:X→V}:BM (.fload n ag x) ev h=(UV h n ag (ev x)).map fun v=>(v,h):=by
 simp only [BM,Af]
 cases ev x<;>simp only [UV,bZ]<;>try rfl
 rename_i id el off
 cases h.get id with
 | none=>rfl
 | some k=>
  simp only [Option.bind_some]
  cases k.cs[el]?<;>rfl
theorem L5 {n:Nat} {agg:Bool} {x:X}:Z1 tp (.load n agg x) e h K=Wo (UV h n agg (x.e2 e)) (fun v=>K v h):=by
 unfold Z1;simp only [z1,W7,BH]
theorem V4 {n:Nat} {ag:Bool} {x:X}:Z1 tp (.fload n ag x) e h K=Wo (UV h n ag (x.e2 e)) (fun v=>K v h):=by
 unfold Z1;simp only [z1,TK,BH]
def aE6 (h:AH) (n:Nat) (ag:Bool):V→Option V | .p id el off=>bZ (h.get id) el off n ag | _=>none
theorem aE7 {id el off n:Nat} {ag:Bool}:aE6 h n ag (.p id el off)=bZ (h.get id) el off n ag:=An rfl
theorem aEq {n:Nat} {ag:Bool} {x y:X}:Z1 tp (.chk n ag x y) e h K=Wo (aE6 h n ag (x.e2 e)) (fun v=>Wo (if Cx v (y.e2 e)=true then some V.u else none) (fun u=>K u h)):=by
 unfold Z1;simp only [z1,BM,Af,aE6,bZ]
 cases x.e2 e<;>simp only [A5]
 rw [B0,B0]
 refine FM fun k=>?_
 rw [B0,B0]
 refine FM fun r=>?_
 rw [B0]
 refine FM fun v=>?_
 split<;>simp only [A5,AV]
theorem RM {l m:List V}:Cx (.agg l) (.agg m)=BU l m:=An rfl
theorem sameVa_sl {a b c d:Nat}:Cx (.sl a b c d) (.sl a b c d)=true:=by simp [Cx,sameV]
theorem ZV {a b c:Nat}:Cx (.p a b c) (.p a b c)=true:=by simp [Cx,sameV]
theorem UJ:Cx .ns .ns=true:=An rfl
theorem ZT {x:Bool}:Cx (.b x) (.b x)=true:=by simp [Cx,sameV]
theorem ZU {k:IntKind} {n:Int}:Cx (.i k n) (.i k n)=true:=by simp [Cx,sameV]
theorem ZR {a b c d:Nat}:sameV (.sl a b c d) (.sl a b c d)=true:=by simp [sameV]
theorem lH {a b c:Nat}:sameV (.p a b c) (.p a b c)=true:=by simp [sameV]
theorem ZP:sameV .ns .ns=true:=An rfl
theorem lF {x:Bool}:sameV (.b x) (.b x)=true:=by simp [sameV]
theorem lG {k:IntKind} {n:Int}:sameV (.i k n) (.i k n)=true:=by simp [sameV]
def Ns (g:Option BV) (l id el len cap:Nat):Option V:=if g.isSome=true∧l≤id∧0<cap then some (.sl id el len cap) else none
def YV (h:AH):V→Option V | .sl id el len cap=>Ns (h.get id) h.lim id el len cap | _=>none
theorem YW {id el len cap:Nat}:YV h (.sl id el len cap)=Ns (h.get id) h.lim id el len cap:=An rfl
theorem YU {k:BV} {l id el len cap:Nat} (h1:l≤id) (h2:0<cap):Ns (some k) l id el len cap=some (.sl id el len cap):=by simp [Ns,h1,h2]
theorem dR {x:X}:Z1 tp (.mark x) e h K=Wo (YV h (x.e2 e)) (fun v=>K v h):=by
 unfold Z1;simp only [z1,BM,Af,YV,Ns]
 cases x.e2 e<;>simp only [A5]
 split<;>simp only [A5,AV]
def Wst (tp:TP) (n:Nat) (p v:V) (h:AH) (K:AH→Prop) (t:Fz K:=.mk):Prop:=match p with
 | .p id el off=>(h.lim≤id∧0<n∧v.cells.length=n∧v.cells.all V.isCell=true)∧Wo (h.get id) (fun k=>Wo (k.cs[el]?) (fun r=>off+n≤r.length∧Wv (h.put id ⟨k.sz,k.cs.set el (over r off v.cells)⟩) K))
 | _=>False
def aEm (tp:TP) (l n id el off:Nat) (v:V) (h:AH) (K:AH→Prop) (t:Fz K:=.mk):Prop:=(l≤id∧0<n∧v.cells.length=n∧v.cells.all V.isCell=true)∧Wo (h.get id) (fun k=>Wo (k.cs[el]?) (fun r=>off+n≤r.length∧Wv (h.put id ⟨k.sz,k.cs.set el (over r off v.cells)⟩) K))
theorem aTE {n id el off:Nat} {v:V} {K:AH→Prop}:Wst tp n (.p id el off) v h K=aEm tp h.lim n id el off v h K:=An rfl
theorem dH {l n id el off:Nat} {v:V} {K:AH→Prop} (hl:l≤id):aEm tp l n id el off v h K=((0<n∧v.cells.length=n∧v.cells.all V.isCell=true)∧Wo (h.get id) (fun k=>Wo (k.cs[el]?) (fun r=>off+n≤r.length∧Wv (h.put id ⟨k.sz,k.cs.set el (over r off v.cells)⟩) K))):=by
 simp only [aEm,hl,true_and]
theorem V5 {n:Nat} {a x:X}:Z1 tp (.store n a x) e h K=Wst tp n (a.e2 e) (x.e2 e) h (K .u):=by
 unfold Z1;simp only [z1,BM,Af,Wst]
 cases a.e2 e<;>simp only [A5]
 rw [CY,B0]
 congr 1
 refine FM fun k=>?_
 rw [B0]
 refine FM fun r=>?_
 rw [CY,AV];rfl
def Ro:V→Option V | .p id el off=>some (.p id el off) | .fp s xs j o=>some (.fp s xs j o) | .ifc t v=>some (.ifc t v) | .f (.func g) a b=>some (.f (.func g) a b) | _=>none
theorem aG4 {a b c:Nat}:Ro (.p a b c)=some (.p a b c):=An rfl
theorem jV {s j o:Nat} {xs:List (List V)}:Ro (.fp s xs j o)=some (.fp s xs j o):=An rfl
theorem YZ {t:Nat} {v:V}:Ro (.ifc t v)=some (.ifc t v):=An rfl
theorem aG3 {g:Nat} {a b:List V}:Ro (.f (.func g) a b)=some (.f (.func g) a b):=An rfl
theorem aEA {x:X}:Z1 tp (.nck x) e h K=Wo (Ro (x.e2 e)) (fun v=>K v h):=by
 unfold Z1;simp only [z1,BM,Af]
 generalize x.e2 e=v
 cases v with
 | f g a b=>cases g<;>simp only [Ro,AV,A5]
 | _=>simp only [Ro,AV,A5]
theorem aEo {op:BinOp} {x y:X}:Z1 tp (.bin op x y) e h K=Wo (Bs op (x.e2 e) (y.e2 e)) (fun v=>K v h):=by unfold Z1;simp only [z1,BM,Af,BH]
theorem JC {n:Bool} {k:EK} {x y:X} (hk:k≠.sl):Z1 tp (.eq n k x y) e h K=Wo (Gc k (x.e2 e) (y.e2 e)) (fun r=>Wv (.b (if n then !r else r)) (fun v=>K v h)):=by
 unfold Z1;cases k<;>first | (exact absurd rfl hk) | (simp only [z1,BM,Af,BH];rfl)
theorem aEr {n:Bool} {x y:X}:Z1 tp (.eq n .b x y) e h K=Wo (Gc .b (x.e2 e) (y.e2 e)) (fun r=>Wv (.b (if n then !r else r)) (fun v=>K v h)):=JC (by simp)
theorem V3 {n:Bool} {x y:X}:Z1 tp (.eq n .ptr x y) e h K=Wo (Gc .ptr (x.e2 e) (y.e2 e)) (fun r=>Wv (.b (if n then !r else r)) (fun v=>K v h)):=JC (by simp)
theorem dM {n:Bool} {x y:X}:Z1 tp (.eq n .fn x y) e h K=Wo (Gc .fn (x.e2 e) (y.e2 e)) (fun r=>Wv (.b (if n then !r else r)) (fun v=>K v h)):=JC (by simp)
theorem V2 {n:Bool} {x y:X}:Z1 tp (.eq n .ifc x y) e h K=Wo (Gc .ifc (x.e2 e) (y.e2 e)) (fun r=>Wv (.b (if n then !r else r)) (fun v=>K v h)):=JC (by simp)
theorem V1 {n:Bool} {ks:List CK} {x y:X}:Z1 tp (.eq n (.agg ks) x y) e h K=Wo (Gc (.agg ks) (x.e2 e) (y.e2 e)) (fun r=>Wv (.b (if n then !r else r)) (fun v=>K v h)):=JC (by simp)
def MQ (neg:Bool) (v w:V) (h:AH) (K:V→AH→Prop) (t:Fz K:=.mk):Prop:=R2 neg v w h K
theorem dN {n:Bool} {x y:X}:Z1 tp (.eq n .sl x y) e h K=MQ n (x.e2 e) (y.e2 e) h K:=An rfl
theorem dE {n:Bool} {s:Nat} {xs:List (List V)}:MQ n (.fl s xs) .ns h K=∀ t:Bool,(xs≠[]→t=false)→Wv (.b (if n then !t else t)) (fun v=>K v h):=An rfl
theorem dF {n:Bool}:MQ n .ns .ns h K=Wv (.b (if n then false else true)) (fun v=>K v h):=by
 unfold MQ R2;simp only [Gc,AV,Bool.not_true];rfl
theorem dD {n:Bool}:MQ n .e0 .ns h K=Wv (.b (if n then true else false)) (fun v=>K v h):=by
 unfold MQ R2;simp only [Gc,AV,Bool.not_false];rfl
theorem dG {n:Bool} {a b c d:Nat}:MQ n (.sl a b c d) .ns h K=Wv (.b (if n then true else false)) (fun v=>K v h):=by
 unfold MQ R2;simp only [Gc,AV,Bool.not_false];rfl
theorem aTK {op:UnOp} {x:X}:Z1 tp (.un op x) e h K=Wo (pN op (x.e2 e)) (fun v=>K v h):=by unfold Z1;simp only [z1,BM,Af,BH]
def WZ (k:IntKind):V→Option V | .i _ n=>some (.i k (k.wrap n)) | _=>none
theorem gO {k j:IntKind} {n:Int}:WZ k (.i j n)=some (.i k (k.wrap n)):=An rfl
theorem dL {k:IntKind} {x:X}:Z1 tp (.conv k x) e h K=Wo (WZ k (x.e2 e)) (fun v=>K v h):=by
 unfold Z1;simp only [z1,BM,Af,WZ]
 cases x.e2 e<;>simp only [AV,A5]
def Z5:V→Option V | .s x=>some (.s x) | _=>none
theorem lQ {x:ByteArray}:Z5 (.s x)=some (.s x):=An rfl
theorem dY {x:X}:Z1 tp (.strs x) e h K=Wo (Z5 (x.e2 e)) (fun v=>K v h):=by
 unfold Z1;simp only [z1,BM,Af,Z5]
 cases x.e2 e<;>simp only [AV,A5]
def aGM:V→Option V | .i _ n=>some (.s (Utf8.encode n)) | _=>none
theorem aGN {k:IntKind} {n:Int}:aGM (.i k n)=some (.s (Utf8.encode n)):=An rfl
theorem aEv {x:X}:Z1 tp (.i2s x) e h K=Wo (aGM (x.e2 e)) (fun v=>K v h):=by
 unfold Z1;simp only [z1,BM,Af,aGM]
 cases x.e2 e<;>simp only [AV,A5]
def asS:V→Option ByteArray | .s x=>some x | _=>none
theorem aTP {x:ByteArray}:asS (.s x)=some x:=An rfl
theorem Qz {x:X}:Z1 tp (.s2b x) e h K=Wo (asS (x.e2 e)) (fun b=>b.size<4294967296∧Wv (.sl h.next 0 b.size b.size) (fun v=>Wv (h.alloc ⟨1,Ci b⟩) (fun h'=>K v h'))):=by
 unfold Z1;simp only [z1,BM,Af,asS]
 cases hx:x.e2 e<;>simp only [AV,A5]
 rw [CY,AV];rfl
def Ef (sz:Nat) (h:AH) (v:V):Option (List (List V)):=Ff sz h v
theorem NV {sz:Nat} {xs:List (List V)}:Ef sz h (.fl sz xs)=some xs:=by simp [Ef,Ff]
theorem ZD {sz:Nat}:Ef sz h .ns=some []:=An rfl
theorem ZB {sz:Nat}:Ef sz h .e0=some []:=An rfl
theorem lC {x:ByteArray}:Ef 1 h (.s x)=some (Ci x):=An rfl
def LJ (g:Option BV) (sz el len:Nat):Option (List (List V)):=match g with
 | some k=>if k.sz=sz∧el+len≤k.cs.length then some ((k.cs.drop el).take len) else none
 | none=>none
theorem NW {sz id el len cap:Nat}:Ef sz h (.sl id el len cap)=LJ (h.get id) sz el len:=An rfl
theorem RJ {sz el len:Nat} {cs:List (List V)}:LJ (some ⟨sz,cs⟩) sz el len=if el+len≤cs.length then some ((cs.drop el).take len) else none:=by simp [LJ]
theorem ZA {sz el len:Nat} {cs:List (List V)} (hl:el+len≤cs.length):LJ (some ⟨sz,cs⟩) sz el len=some ((cs.drop el).take len):=by simp [LJ,hl]
def K1 (h:AH) (v:V):Option V:=match v with | .s _=>none | v=>(Ef 1 h v).bind fun l=>(bytesOf? l).map fun r=>.s ⟨r.toArray⟩
theorem fF {xs:List (List V)}:K1 h (.fl 1 xs)=(bytesOf? xs).map fun r=>.s ⟨r.toArray⟩:=by simp [K1,Ef,Ff]
theorem fG:K1 h .ns=some (.s ⟨#[]⟩):=An rfl
theorem fH {id el len cap:Nat}:K1 h (.sl id el len cap)=(LJ (h.get id) 1 el len).bind fun l=>(bytesOf? l).map fun r=>.s ⟨r.toArray⟩:=An rfl
theorem Qw {x:X}:Z1 tp (.b2s x) e h K=Wo (K1 h (x.e2 e)) (fun v=>K v h):=by
 unfold Z1;simp only [z1,BM,Af,K1,Ef,Ff]
 cases x.e2 e<;>simp only [A5]
 case fl s xs=>
  split
  ·rw [BH,Option.bind_some,BH]
  ·simp only [Option.bind_none,A5]
 all_goals (rw [B0,B0];refine FM fun a=>?_;rw [BH,BH])
theorem dT {t:Nat} {x:X}:Z1 tp (.mkif t x) e h K=Wv (.ifc t (x.e2 e)) (fun v=>K v h):=by unfold Z1;simp only [z1,BM,Af,AV,HA]
theorem dS {fn:Fn} {a c:List X}:Z1 tp (.mkfn fn a c) e h K=Wv (.f fn (a.map (X.e2 e)) (c.map (X.e2 e))) (fun v=>K v h):=by unfold Z1;simp only [z1,BM,Af,AV,HA]
def Wmk (z:List V) (n c:V) (h:AH) (K:V→AH→Prop) (t:Fz K:=.mk):Prop:=match n,c with
 | .i _ a,.i _ m=>(0≤a∧a≤m∧m<Bi)∧Wv (.sl h.next 0 a.toNat m.toNat) (fun v=>Wv (h.alloc ⟨z.length,List.replicate m.toNat z⟩) (fun h'=>K v h'))
 | _,_=>False
theorem aTC {z:List V} {k j:IntKind} {a m:Int}:Wmk z (.i k a) (.i j m) h K=((0≤a∧a≤m∧m<4294967296)∧Wv (.sl h.next 0 a.toNat m.toNat) (fun v=>Wv (h.alloc ⟨z.length,List.replicate m.toNat z⟩) (fun h'=>K v h'))):=An rfl
theorem dU {z:List V} {n c:X}:Z1 tp (.mksl z n c) e h K=(z.all plain1=true∧Wmk z (n.e2 e) (c.e2 e) h K):=by
 unfold Z1;simp only [z1,BM,Af,CY]
 congr 1
 generalize n.e2 e=v
 generalize c.e2 e=w
 cases v<;>cases w<;>simp only [Wmk,A5,CY,AV,HA]
def Wmz (z:List V) (x n:V) (h:AH) (K:V→AH→Prop) (t:Fz K:=.mk):Prop:=match x,n with
 | .ns,.i _ a=>(0<a∧a<Bi)∧Wv (.sl h.next 0 a.toNat a.toNat) (fun v=>Wv (h.alloc ⟨z.length,List.replicate a.toNat z⟩) (fun h'=>K v h'))
 | _,_=>False
theorem aTD {z:List V} {k:IntKind} {a:Int}:Wmz z .ns (.i k a) h K=((0<a∧a<4294967296)∧Wv (.sl h.next 0 a.toNat a.toNat) (fun v=>Wv (h.alloc ⟨z.length,List.replicate a.toNat z⟩) (fun h'=>K v h'))):=An rfl
theorem dI {z:List V} {x n:X}:Z1 tp (.appz z x n) e h K=(z.all plain1=true∧Wmz z (x.e2 e) (n.e2 e) h K):=by
 unfold Z1;simp only [z1,BM,Af,CY]
 congr 1
 generalize x.e2 e=v
 generalize n.e2 e=w
 cases v<;>cases w<;>simp only [Wmz,A5,CY,AV,HA]
def Ht (g:Option BV) (sz:Nat) (x:V) (lo hi mx:Option V):Option V:=match x with
    | .ns=>if mx.isNone||hi.isSome then (AM mx 0 0).bind fun m=>(AM hi 0 m).bind fun t=>(AM lo 0 t).map fun _=>.ns else none
    | .e0=>if mx.isNone||hi.isSome then (AM mx 0 0).bind fun m=>(AM hi 0 m).bind fun t=>(AM lo 0 t).map fun _=>.e0 else none
    | .sl id el len cap=>
     g.bind fun k=>
      if k.sz=sz∧(mx.isNone||hi.isSome)=true∧len≤cap then
       (AM mx cap cap).bind fun m=>(AM hi len m).bind fun t=>(AM lo 0 t).map fun l=>.sl id (el+l) (t - l) (m - l)
      else none
    | .fl s xs=>if s=sz∧(mx.isNone||hi.isSome)=true then (AM mx xs.length xs.length).bind fun m=>(AM hi xs.length m).bind fun t=>(AM lo 0 t).map fun l=>.fl s ((xs.drop l).take (t - l)) else none
    | _=>none
def AW:V→Nat | .sl id _ _ _=>id | .p id _ _=>id | _=>0
def E2:V→Nat | .sl _ el _ _=>el | _=>0
theorem aGW {a b c d:Nat}:AW (.sl a b c d)=a:=An rfl
theorem aFb {a b c d:Nat}:E2 (.sl a b c d)=b:=An rfl
theorem aUi {a b c:Nat}:AW (.p a b c)=a:=An rfl
theorem lM {g:Option BV} {s:Nat} {xs:List (List V)} {lo hi:Option V}:Ht g s (.fl s xs) lo hi none=(AM hi xs.length xs.length).bind fun t=>(AM lo 0 t).map fun l=>.fl s ((xs.drop l).take (t - l)):=by
 simp [Ht,AM]
theorem ZZ {g:Option BV} {s:Nat} {xs:List (List V)} {lo:Option V} {hi mx:V}:Ht g s (.fl s xs) lo (some hi) (some mx)=(AM (some mx) xs.length xs.length).bind fun m=>(AM (some hi) xs.length m).bind fun t=>(AM lo 0 t).map fun l=>.fl s ((xs.drop l).take (t - l)):=by
 simp [Ht]
theorem TL {sz:Nat} {x:X} {lo hi mx:Option X} {ev:X→V}:BM (.slice sz x lo hi mx) ev h=(Ht (h.get (AW (ev x))) sz (ev x) (lo.map ev) (hi.map ev) (mx.map ev)).map fun v=>(v,h):=by
 have two:∀ (a b c:Option V) (p q r:Nat) (F:Nat→Nat→Nat→V),((AM a p q).bind fun m=>(AM b r m).bind fun t=>(AM c 0 t).map fun l=>(F m t l,h))=((AM a p q).bind fun m=>(AM b r m).bind fun t=>(AM c 0 t).map fun l=>F m t l).map (fun v=>(v,h)):=by
  intro a b c p q r F
  cases AM a p q with
  | none=>rfl
  | some m=>
   simp only [Option.bind_some]
   cases AM b r m with
   | none=>rfl
   | some t=>
    simp only [Option.bind_some]
    cases AM c 0 t<;>rfl
 simp only [BM,Af]
 cases ev x<;>simp only [Ht,Option.map_none,Option.isNone_map,Option.isSome_map,AW]
 ·split
  ·exact two _ _ _ _ _ _ (fun _ _ _=>V.ns)
  ·rfl
 ·split
  ·exact two _ _ _ _ _ _ (fun _ _ _=>V.e0)
  ·rfl
 ·rename_i id el len cap
  cases h.get id with
  | none=>rfl
  | some k=>
   simp only [Option.bind_some]
   split
   ·exact two _ _ _ _ _ _ (fun m t l=>V.sl id (el+l) (t - l) (m - l))
   ·rfl
 ·rename_i s xs
  split
  ·exact two _ _ _ _ _ _ (fun m t l=>V.fl s ((xs.drop l).take (t - l)))
  ·rfl
theorem JD {sz:Nat} {x:X} {lo hi mx:Option X}:Z1 tp (.slice sz x lo hi mx) e h K=Wo (Ht (h.get (AW (x.e2 e))) sz (x.e2 e) (lo.map (X.e2 e)) (hi.map (X.e2 e)) (mx.map (X.e2 e))) (fun v=>K v h):=by
 unfold Z1;simp only [z1,TL,BH]
def aHD (x:V) (lo hi:Option V):Option V:=match x with
    | .s x=>(AM hi x.size x.size).bind fun t=>(AM lo 0 t).map fun l=>.s (x.extract l t)
    | _=>none
theorem aHE {x:ByteArray} {lo hi:Option V}:aHD (.s x) lo hi=(AM hi x.size x.size).bind fun t=>(AM lo 0 t).map fun l=>.s (x.extract l t):=An rfl
theorem Tk {x:X} {lo hi:Option X}:Z1 tp (.sslice x lo hi) e h K=Wo (aHD (x.e2 e) (lo.map (X.e2 e)) (hi.map (X.e2 e))) (fun v=>K v h):=by
 unfold Z1;simp only [z1,BM,Af,aHD]
 cases x.e2 e<;>simp only [A5]
 rw [B0,B0]
 refine FM fun t=>?_
 rw [BH,BH]
def gX (off:Nat):V→Option V | .p id el o=>some (.p id el (o+off)) | .fp s xs j o=>some (.fp s xs j (o+off)) | _=>none
theorem aFh {off a b c:Nat}:gX off (.p a b c)=some (.p a b (c+off)):=An rfl
theorem gY {off s j o:Nat} {xs:List (List V)}:gX off (.fp s xs j o)=some (.fp s xs j (o+off)):=An rfl
theorem aEt {off:Nat} {x:X}:Z1 tp (.fad off x) e h K=Wo (gX off (x.e2 e)) (fun v=>K v h):=by
 unfold Z1;simp only [z1,BM,Af,gX]
 cases x.e2 e<;>simp only [AV,A5]
def aFj (off n:Nat) (agg:Bool):V→Option V | .agg r=>Ib r off n agg | _=>none
theorem Xo {off n:Nat} {agg:Bool} {r:List V}:aFj off n agg (.agg r)=Ib r off n agg:=An rfl
theorem aEu {off n:Nat} {agg:Bool} {x:X}:Z1 tp (.fld off n agg x) e h K=Wo (aFj off n agg (x.e2 e)) (fun v=>K v h):=by
 unfold Z1;simp only [z1,BM,Af,aFj]
 cases x.e2 e<;>simp only [BH,A5]
def Jd (g:Option BV) (sz:Nat) (v i:V):Option V:=match v with
 | .sl id el len _=>match g with | some k=>if k.sz=sz then (B7 i len).map fun j=>.p id (el+j) 0 else none | none=>none
 | .fl s xs=>if s=sz then (B7 i xs.length).map fun j=>.fp s xs j 0 else none
 | _=>none
theorem jB {g:Option BV} {s:Nat} {xs:List (List V)} {i:V}:Jd g s (.fl s xs) i=(B7 i xs.length).map fun j=>.fp s xs j 0:=by simp [Jd]
theorem jC {sz id el len cap:Nat} {cs:List (List V)} {i:V}:Jd (some ⟨sz,cs⟩) sz (.sl id el len cap) i=(B7 i len).map fun j=>.p id (el+j) 0:=by simp [Jd]
theorem aGV {sz:Nat} {v i:V}:jD (MV h v) sz v i=Jd (h.get (AW v)) sz v i:=by
 cases v<;>try rfl
 rename_i id el len cap
 simp only [MV,AW]
 cases h.get id<;>rfl
theorem aEw {sz:Nat} {x i:X}:Z1 tp (.iad sz x i) e h K=Wo (Jd (h.get (AW (x.e2 e))) sz (x.e2 e) (i.e2 e)) (fun v=>K v h):=by
 unfold Z1;simp only [z1,BM,aGV,BH]
def SI (sz len:Nat):V→V→Option V
 | .p id el off,i=>(B7 i len).map fun j=>.p id el (off+j*sz)
 | .fp s xs k off,i=>(B7 i len).map fun j=>.fp s xs k (off+j*sz)
 | _,_=>none
theorem jE {sz len id el off:Nat} {i:V}:SI sz len (.p id el off) i=(B7 i len).map fun j=>.p id el (off+j*sz):=An rfl
theorem YF {sz len s k off:Nat} {xs:List (List V)} {i:V}:SI sz len (.fp s xs k off) i=(B7 i len).map fun j=>.fp s xs k (off+j*sz):=An rfl
theorem dP {sz len:Nat} {x i:X}:Z1 tp (.iada sz len x i) e h K=Wo (SI sz len (x.e2 e) (i.e2 e)) (fun v=>K v h):=by
 unfold Z1;simp only [z1,BM,Af,SI]
 cases x.e2 e<;>simp only [A5,BH]
def aGY (sz len:Nat) (agg:Bool):V→V→Option V
 | .agg r,i=>(B7 i len).bind fun j=>Ib r (j*sz) sz agg
 | _,_=>none
theorem YG {sz len:Nat} {agg:Bool} {r:List V} {i:V}:aGY sz len agg (.agg r) i=(B7 i len).bind fun j=>Ib r (j*sz) sz agg:=An rfl
theorem aEx {sz len:Nat} {agg:Bool} {x i:X}:Z1 tp (.idx sz len agg x i) e h K=Wo (aGY sz len agg (x.e2 e) (i.e2 e)) (fun v=>K v h):=by
 unfold Z1;simp only [z1,BM,Af,aGY]
 cases x.e2 e<;>simp only [A5]
 rw [B0,B0]
 refine FM fun t=>?_
 rw [BH]
def ZY:V→V→Option V
 | .s x,i=>(B7 i x.size).map fun j=>.i .u8 ((x.data.toList.getD j 0).toNat:Int)
 | _,_=>none
theorem lJ {x:ByteArray} {i:V}:ZY (.s x) i=(B7 i x.size).map fun j=>.i .u8 ((x.data.toList.getD j 0).toNat:Int):=An rfl
theorem dW {x i:X}:Z1 tp (.sidx x i) e h K=Wo (ZY (x.e2 e) (i.e2 e)) (fun v=>K v h):=by
 unfold Z1;simp only [z1,BM,Af,ZY]
 cases x.e2 e<;>simp only [A5,B0,BH]
def aFg:V→Nat→Option V | .tup l,i=>l[i]? | _,_=>none
theorem Xi {l:List V} {i:Nat}:aFg (.tup l) i=l[i]?:=An rfl
theorem aEs {x:X} {i:Nat}:Z1 tp (.ext x i) e h K=Wo (aFg (x.e2 e) i) (fun v=>K v h):=by
 unfold Z1;simp only [z1,BM,Af,aFg]
 cases x.e2 e<;>simp only [A5,BH]
theorem aEn {sz:Nat} {x y:X}:Z1 tp (.app sz x y) e h K=Wo (Ef sz h (y.e2 e)) (fun new=>Wo (JG sz h (x.e2 e) new) (fun z=>K z.1 z.2)):=by
 unfold Z1;simp only [z1,BM,B0];rfl
def HO:V→Option V | .ns=>some (.i .i64 0) | .e0=>some (.i .i64 0) | .sl _ _ n _=>some (.i .i64 n) | .fl _ xs=>some (.i .i64 xs.length) | _=>none
theorem jN:HO .ns=some (.i .i64 0):=An rfl
theorem jL:HO .e0=some (.i .i64 0):=An rfl
theorem jO {a b c d:Nat}:HO (.sl a b c d)=some (.i .i64 c):=An rfl
theorem jM {s:Nat} {xs:List (List V)}:HO (.fl s xs)=some (.i .i64 xs.length):=An rfl
theorem aEz {x:X}:Z1 tp (.len x) e h K=Wo (HO (x.e2 e)) (fun v=>K v h):=by
 unfold Z1;simp only [z1,BM,Af,HO]
 cases x.e2 e<;>simp only [AV,A5]
def Z2:V→Option V | .s x=>some (.i .i64 x.size) | _=>none
theorem lN {x:ByteArray}:Z2 (.s x)=some (.i .i64 x.size):=An rfl
theorem dX {x:X}:Z1 tp (.slen x) e h K=Wo (Z2 (x.e2 e)) (fun v=>K v h):=by
 unfold Z1;simp only [z1,BM,Af,Z2]
 cases x.e2 e<;>simp only [AV,A5]
theorem dQ {n:Nat}:Z1 tp (.lenc n) e h K=K (.i .i64 n) h:=by unfold Z1;simp only [z1,BM,Af,AV]
theorem aTH {x:X} {l:List X}:Z1 tp (.mn (x::l)) e h K=Wo (EU Nv (x.e2 e) (l.map (X.e2 e))) (fun v=>K v h):=by unfold Z1;simp only [z1,BM,Af,BH]
theorem aTJ {x:X} {l:List X}:Z1 tp (.mx (x::l)) e h K=Wo (EU Nu (x.e2 e) (l.map (X.e2 e))) (fun v=>K v h):=by unfold Z1;simp only [z1,BM,Af,BH]
def lT (t:Nat) (ok:Bool) (z:V):V→Option V
 | .ifc t' v=>if t'=t then some (if ok then .tup [v,.b true] else v) else if ok then some (.tup [z,.b false]) else none
 | .ni=>if ok then some (.tup [z,.b false]) else none
 | _=>none
theorem UP {t:Nat} {z v:V}:lT t false z (.ifc t v)=some v:=by simp [lT]
theorem aEB {t:Nat} {ok:Bool} {z:V} {x:X}:Z1 tp (.tas t ok z x) e h K=(plain z=true∧Wo (lT t ok z (x.e2 e)) (fun v=>K v h)):=by
 unfold Z1;simp only [z1,BM,Af,CY,lT]
 congr 1
 cases x.e2 e<;>simp only [A5]<;>(repeat' split)<;>simp only [A5,AV]
def Sf:V→List V→Option (Nat×List V) | .f (.func g) first caps,l=>some (g,first++l++caps) | _,_=>none
theorem Lk {g:Nat} {a c l:List V}:Sf (.f (.func g) a c) l=some (g,a++l++c):=An rfl
theorem Sb {f:X} {l:List X}:Z1 tp (.call f l) e h K=Wo (Sf (f.e2 e) (l.map (X.e2 e))) (fun c=>Cq tp c.1 c.2 h K):=by
 unfold Z1;simp only [z1,callee]
 generalize f.e2 e=v
 cases v with
 | f g a c=>cases g<;>rfl
 | _=>rfl
theorem aTG {f:Nat} {l:List X}:Z1 tp (.call (.fn f) l) e h K=Cq tp f (l.map (X.e2 e)) h K:=by
 rw [Sb,rD,Lk,AV];simp
def rL (tp:TP) (m:String) (l:List V):V→Option (Nat×List V)
 | .ifc t v=>(tp.meth t m).bind fun q=>match q.at_ with
  | none=>some (q.f,v::l)
  | some j=>match v with | .agg cs=>(cs[j]?).map fun r=>(q.f,r::l) | _=>none
 | _=>none
theorem Ug {m:String} {l:List V} {t:Nat} {v:V}:rL tp m l (.ifc t v)=(tp.meth t m).bind fun q=>match q.at_ with
    | none=>some (q.f,v::l)
    | some j=>match v with | .agg cs=>(cs[j]?).map fun r=>(q.f,r::l) | _=>none:=An rfl
theorem aEy {x:X} {m:String} {l:List X}:Z1 tp (.inv x m l) e h K=Wo (rL tp m (l.map (X.e2 e)) (x.e2 e)) (fun c=>Cq tp c.1 c.2 h K):=by
 unfold Z1;simp only [z1,callee]
 cases x.e2 e<;>rfl
/-! Quiet ones. -/
theorem AY {o:O} (hp:AR o=true):Ek tp o e h K=Z1 tp o e h K:=by unfold Ek Z1 zq1;rw [if_pos hp]
theorem Cf {o:O} (hp:AR o=false):Ek tp o e h K=Z1 tp o e h.raise (fun v h'=>K v (h'.back h.lim)):=by unfold Ek Z1 zq1;rw [if_neg (by simp [hp])]
theorem T9 {n:Nat} {g:Bool} {v:V}:UV h.raise n g v=UV h n g v:=by cases v<;>rfl
theorem Wj {n:Nat} {g:Bool} {x:X}:Ek tp (.load n g x) e h K=Z1 tp (.load n g x) e h K:=by
 rw [Cf rfl,L5,L5,T9];rfl
theorem To {sz:Nat} {x:X} {lo hi mx:Option X}:Ek tp (.slice sz x lo hi mx) e h K=Z1 tp (.slice sz x lo hi mx) e h K:=by
 rw [Cf rfl,JD,JD];rfl
theorem Tl {z:List V}:Ek tp (.alloc z) e h K=Z1 tp (.alloc z) e h K:=by
 rw [Cf rfl,JB,JB];rfl
theorem eJ {x:X}:Ek tp (.box x) e h K=Z1 tp (.box x) e h K:=by
 rw [Cf rfl,Qx,Qx];rfl
theorem eF {z:List V}:Ek tp (.alc z) e h K=Z1 tp (.alc z) e h K:=by
 rw [Cf rfl,Qv,Qv];rfl
theorem Wc {sz n:Nat} {z:List V} {ps:List (Nat×X)}:Ek tp (.bslc sz z n ps) e h K=Z1 tp (.bslc sz z n ps) e h K:=by
 rw [Cf rfl,L4,L4];rfl
theorem eK {sz n:Nat} {z:List V} {ps:List (Nat×X)}:Ek tp (.bsl sz z n ps) e h K=Z1 tp (.bsl sz z n ps) e h K:=by
 rw [Cf rfl,Qy,Qy];rfl
theorem eH {x:X}:Ek tp (.b2s x) e h K=Z1 tp (.b2s x) e h K:=by
 rw [Cf rfl,Qw,Qw]
 have:K1 h.raise (x.e2 e)=K1 h (x.e2 e):=by cases x.e2 e<;>rfl
 rw [this];rfl
theorem eV {x:X}:Ek tp (.s2b x) e h K=Z1 tp (.s2b x) e h K:=by
 rw [Cf rfl,Qz,Qz];rfl
theorem Wa {z:List V} {x y:X}:Ek tp (.appz z x y) e h K=Z1 tp (.appz z x y) e h.raise (fun v h'=>K v (h'.back h.lim)):=Cf rfl
theorem Wn {z:List V} {x y:X}:Ek tp (.mksl z x y) e h K=Z1 tp (.mksl z x y) e h.raise (fun v h'=>K v (h'.back h.lim)):=Cf rfl
theorem eG {sz:Nat} {x y:X}:Ek tp (.app sz x y) e h K=Z1 tp (.app sz x y) e h.raise (fun v h'=>K v (h'.back h.lim)):=Cf rfl
theorem Tp {n:Nat} {x y:X}:Ek tp (.store n x y) e h K=Z1 tp (.store n x y) e h.raise (fun v h'=>K v (h'.back h.lim)):=Cf rfl
theorem Wk {x:X}:Ek tp (.mark x) e h K=Z1 tp (.mark x) e h.raise (fun v h'=>K v (h'.back h.lim)):=Cf rfl
theorem Wd {f:X} {l:List X}:Ek tp (.call f l) e h K=Z1 tp (.call f l) e h.raise (fun v h'=>K v (h'.back h.lim)):=Cf rfl
theorem eS {x:X} {m:String} {l:List X}:Ek tp (.inv x m l) e h K=Z1 tp (.inv x m l) e h.raise (fun v h'=>K v (h'.back h.lim)):=Cf rfl
theorem aEK {x:X}:Ek tp (.mv x) e h K=Z1 tp (.mv x) e h K:=AY rfl
theorem Wp {a b c:X}:Ek tp (.pick a b c) e h K=Z1 tp (.pick a b c) e h K:=AY rfl
theorem Tm {z:List V} {ps:List (Nat×Nat×X)}:Ek tp (.build z ps) e h K=Z1 tp (.build z ps) e h K:=AY rfl
theorem aEH  : Ek tp (.e0 ) e h K=Z1 tp (.e0 ) e h K:=AY rfl
theorem eU {x:X}:Ek tp (.nck x) e h K=Z1 tp (.nck x) e h K:=AY rfl
theorem eI {op:BinOp} {x y:X}:Ek tp (.bin op x y) e h K=Z1 tp (.bin op x y) e h K:=AY rfl
theorem aEI {n:Bool} {k:EK} {x y:X}:Ek tp (.eq n k x y) e h K=Z1 tp (.eq n k x y) e h K:=AY rfl
theorem aEM {op:UnOp} {x:X}:Ek tp (.un op x) e h K=Z1 tp (.un op x) e h K:=AY rfl
theorem We {k:IntKind} {x:X}:Ek tp (.conv k x) e h K=Z1 tp (.conv k x) e h K:=AY rfl
theorem Wt {x:X}:Ek tp (.strs x) e h K=Z1 tp (.strs x) e h K:=AY rfl
theorem eP {x:X}:Ek tp (.i2s x) e h K=Z1 tp (.i2s x) e h K:=AY rfl
theorem Wm {t:Nat} {x:X}:Ek tp (.mkif t x) e h K=Z1 tp (.mkif t x) e h K:=AY rfl
theorem Wl {f:Fn} {a c:List X}:Ek tp (.mkfn f a c) e h K=Z1 tp (.mkfn f a c) e h K:=AY rfl
theorem QA {x:X} {lo hi:Option X}:Ek tp (.sslice x lo hi) e h K=Z1 tp (.sslice x lo hi) e h K:=AY rfl
theorem eN {o:Nat} {x:X}:Ek tp (.fad o x) e h K=Z1 tp (.fad o x) e h K:=AY rfl
theorem eO {o n:Nat} {g:Bool} {x:X}:Ek tp (.fld o n g x) e h K=Z1 tp (.fld o n g x) e h K:=AY rfl
theorem eQ {s:Nat} {x i:X}:Ek tp (.iad s x i) e h K=Z1 tp (.iad s x i) e h K:=AY rfl
theorem Wh {s n:Nat} {x i:X}:Ek tp (.iada s n x i) e h K=Z1 tp (.iada s n x i) e h K:=AY rfl
theorem eR {s n:Nat} {g:Bool} {x i:X}:Ek tp (.idx s n g x i) e h K=Z1 tp (.idx s n g x i) e h K:=AY rfl
theorem Wq {x i:X}:Ek tp (.sidx x i) e h K=Z1 tp (.sidx x i) e h K:=AY rfl
theorem eM {x:X} {i:Nat}:Ek tp (.ext x i) e h K=Z1 tp (.ext x i) e h K:=AY rfl
theorem Tn {n:Nat} {ag:Bool} {x:X}:Ek tp (.fload n ag x) e h K=Z1 tp (.fload n ag x) e h K:=AY rfl
theorem eT {x:X}:Ek tp (.len x) e h K=Z1 tp (.len x) e h K:=AY rfl
theorem Ws {x:X}:Ek tp (.slen x) e h K=Z1 tp (.slen x) e h K:=AY rfl
theorem Wi {n:Nat}:Ek tp (.lenc n) e h K=Z1 tp (.lenc n) e h K:=AY rfl
theorem aEJ {l:List X}:Ek tp (.mn l) e h K=Z1 tp (.mn l) e h K:=AY rfl
theorem aEL {l:List X}:Ek tp (.mx l) e h K=Z1 tp (.mx l) e h K:=AY rfl
theorem eW {t:Nat} {ok:Bool} {z:V} {x:X}:Ek tp (.tas t ok z x) e h K=Z1 tp (.tas t ok z x) e h K:=AY rfl
end
/-! ### Values -/
theorem fJ {k:IntKind} {a b:Int}:Bs .add (.i k a) (.i k b)=some (.i k (k.wrap (a+b))):=by simp [Bs,GW]
theorem fT {k:IntKind} {a b:Int}:Bs .sub (.i k a) (.i k b)=some (.i k (k.wrap (a - b))):=by simp [Bs,GW]
theorem fP {k:IntKind} {a b:Int}:Bs .mul (.i k a) (.i k b)=some (.i k (k.wrap (a*b))):=by simp [Bs,GW]
theorem fR {k:IntKind} {a b:Int} (hb:¬ b=0):Bs .quo (.i k a) (.i k b)=some (.i k (k.wrap (a.tdiv b))):=by simp [Bs,GW,hb]
theorem fS {k:IntKind} {a b:Int} (hb:¬ b=0):Bs .rem (.i k a) (.i k b)=some (.i k (a.tmod b)):=by simp [Bs,GW,hb]
theorem FO {k:IntKind} {a b:Int}:Bs .and (.i k a) (.i k b)=some (.i k (k.wrap (BitVec.ofInt k.bits a &&& BitVec.ofInt k.bits b).toNat)):=by simp [Bs,GW]
theorem aEV {k:IntKind} {a b:Int}:Bs .or (.i k a) (.i k b)=some (.i k (k.wrap (BitVec.ofInt k.bits a ||| BitVec.ofInt k.bits b).toNat)):=by simp [Bs,GW]
theorem fK {k:IntKind} {a b:Int}:Bs .eql (.i k a) (.i k b)=some (.b (decide (a=b))):=by simp [Bs,GW]
theorem fQ {k:IntKind} {a b:Int}:Bs .neq (.i k a) (.i k b)=some (.b (decide (¬ a=b))):=by simp [Bs,GW]
theorem fO {k:IntKind} {a b:Int}:Bs .lss (.i k a) (.i k b)=some (.b (decide (a<b))):=by simp [Bs,GW]
theorem fN {k:IntKind} {a b:Int}:Bs .leq (.i k a) (.i k b)=some (.b (decide (a≤b))):=by simp [Bs,GW]
theorem fM {k:IntKind} {a b:Int}:Bs .gtr (.i k a) (.i k b)=some (.b (decide (b<a))):=by simp [Bs,GW]
theorem fL {k:IntKind} {a b:Int}:Bs .geq (.i k a) (.i k b)=some (.b (decide (b≤a))):=by simp [Bs,GW]
theorem aHV {x:Bool}:pN .not (.b x)=some (.b (!x)):=An rfl
theorem aHU {k:IntKind} {n:Int}:pN .neg (.i k n)=some (.i k (k.wrap (0 - n))):=An rfl
theorem aUq {k:IntKind} {x y:Int}:Nv (.i k x) (.i k y)=some (.i k (min x y)):=by
 simp only [Nv,if_true];congr 2
 omega
theorem aUp {k:IntKind} {x y:Int}:Nu (.i k x) (.i k y)=some (.i k (max x y)):=by
 simp only [Nu,if_true];congr 2
 omega
theorem Xr {f:V→V→Option V} {x:V}:EU f x []=some x:=An rfl
theorem TW {f:V→V→Option V} {x y:V} {l:List V}:EU f x (y::l)=(f x y).bind fun z=>EU f z l:=An rfl
theorem aWx {p:Prop} [Decidable p]:(!decide p)=decide (¬ p):=by simp
theorem aWk {p q:Prop} [Decidable p] [Decidable q]:(decide p&&decide q)=decide (p∧q):=by simp
theorem aWz {p q:Prop} [Decidable p] [Decidable q]:(decide p||decide q)=decide (p∨q):=by simp
theorem aUj {k:IntKind} {j:Int} {n:Nat} (h0:0≤j) (h1:j<n):B7 (.i k j) n=some j.toNat:=by simp [B7,h0,h1]
theorem WE {d n:Nat}:AM none d n=some d:=An rfl
theorem aTS {k:IntKind} {j:Int} {d n:Nat} (h0:0≤j) (h1:j≤n):AM (some (.i k j)) d n=some j.toNat:=by simp [AM,h0,h1]
theorem Ty {l:List V}:V.cells (.agg l)=l:=An rfl
theorem gI {k:IntKind} {n:Int}:V.cells (.i k n)=[.i k n]:=An rfl
theorem gG {x:Bool}:V.cells (.b x)=[.b x]:=An rfl
theorem gK {x:ByteArray}:V.cells (.s x)=[.s x]:=An rfl
theorem WT {a b c d:Nat}:V.cells (.sl a b c d)=[.sl a b c d]:=An rfl
theorem WR:V.cells .ns=[.ns]:=An rfl
theorem gJ {a b c:Nat}:V.cells (.p a b c)=[.p a b c]:=An rfl
theorem WP:V.cells .np=[.np]:=An rfl
theorem YK {k:IntKind} {n:Int}:V.isCell (.i k n)=true:=An rfl
theorem YI {x:Bool}:V.isCell (.b x)=true:=An rfl
theorem YM {x:ByteArray}:V.isCell (.s x)=true:=An rfl
theorem T8 {a b c d:Nat}:V.isCell (.sl a b c d)=true:=An rfl
theorem T7:V.isCell .ns=true:=An rfl
theorem YL {a b c:Nat}:V.isCell (.p a b c)=true:=An rfl
theorem T6:V.isCell .np=true:=An rfl
theorem w64 {x:Int} (h0 : -9223372036854775808≤x) (h1:x<9223372036854775808):IntKind.wrap .i64 x=x:=by rw [IntKind.wrap_i64];omega
theorem WL {a:Nat} {b:List (List V)}:V.cells (.fl a b)=[.fl a b]:=An rfl
theorem WM {a c d:Nat} {b:List (List V)}:V.cells (.fp a b c d)=[.fp a b c d]:=An rfl
theorem WK:V.cells .e0=[.e0]:=An rfl
theorem WN:V.cells .nf=[.nf]:=An rfl
theorem WO:V.cells .ni=[.ni]:=An rfl
theorem gH {a:Fn} {b c:List V}:V.cells (.f a b c)=[.f a b c]:=An rfl
theorem Tz {a:Nat} {b:V}:V.cells (.ifc a b)=[.ifc a b]:=An rfl
theorem T0 {a:Nat} {b:List (List V)}:V.isCell (.fl a b)=true:=An rfl
theorem T3 {a c d:Nat} {b:List (List V)}:V.isCell (.fp a b c d)=true:=An rfl
theorem TZ:V.isCell .e0=true:=An rfl
theorem T4:V.isCell .nf=true:=An rfl
theorem T5:V.isCell .ni=true:=An rfl
theorem YJ {a:Fn} {b c:List V}:V.isCell (.f a b c)=true:=An rfl
theorem Rj {a:Nat} {b:V}:V.isCell (.ifc a b)=true:=An rfl
theorem aUu {x:Bool}:pur (.b x)=true:=An (by simp [pur])
theorem aUw {k:IntKind} {n:Int}:pur (.i k n)=true:=An (by simp [pur])
theorem aUx {x:ByteArray}:pur (.s x)=true:=An (by simp [pur])
theorem aHt {a:Nat} {b:List (List V)}:pur (.fl a b)=true:=An (by simp [pur])
theorem aHx:pur .ns=true:=An (by simp [pur])
theorem aHs:pur .e0=true:=An (by simp [pur])
theorem aHw:pur .np=true:=An (by simp [pur])
theorem aHv:pur .ni=true:=An (by simp [pur])
theorem aHu:pur .nf=true:=An (by simp [pur])
theorem aUy:pur .u=true:=An (by simp [pur])
theorem kM {l:List V}:pur (.agg l)=Gb l:=An (by simp [pur])
theorem kO {l:List V}:pur (.tup l)=Gb l:=An (by simp [pur])
theorem aUv {f:Fn} {a c:List V}:pur (.f f a c)=(Gb a&&Gb c):=An (by simp [pur])
theorem kN {t:Nat} {v:V}:pur (.ifc t v)=pur v:=An (by simp [pur])
theorem Zm:Gb []=true:=An (by simp [Gb])
theorem Ux {v:V} {l:List V}:Gb (v::l)=(pur v&&Gb l):=An (by simp [Gb])
theorem aWt {x y:Bool}:Gc .b (.b x) (.b y)=some (decide (x=y)):=by cases x<;>cases y<;>rfl
theorem aFe {ks:List CK} {l m:List V}:Gc (.agg ks) (.agg l) (.agg m)=GY ks l m:=An rfl
theorem gU:GY [] [] []=some true:=An rfl
theorem Xe {k:CK} {ks:List CK} {a c:V} {l m:List V}:GY (k::ks) (a::l) (c::m)=(QN k a c).bind fun x=>(GY ks l m).map fun y=>x&&y:=An rfl
theorem aT4 {k:IntKind} {a b:Int}:QN .i (.i k a) (.i k b)=some (decide (a=b)):=by simp [QN]
theorem aT3 {x y:Bool}:QN .b (.b x) (.b y)=some (decide (x=y)):=by cases x<;>cases y<;>rfl
theorem aT5 {x y:ByteArray}:QN .s (.s x) (.s y)=some (decide (x=y)):=An rfl
theorem WB {x y:ByteArray}:Bs .eql (.s x) (.s y)=some (.b (decide (x=y))):=An rfl
theorem WD {x y:ByteArray}:Bs .neq (.s x) (.s y)=some (.b (decide (¬ x=y))):=by simp [Bs,Wz]
theorem WA {x y:ByteArray} (h:x.size+y.size<4294967296):Bs .add (.s x) (.s y)=some (.s (x++y)):=by simp [Bs,Wz,Bi,h]
/-! ### Results -/
section
variable {e:Env} {h:AH}
theorem eY {res:List RV} {Q:V→AH→Prop}:GV res .nm e h Q=Wo (BP e h res) (fun v=>Q v h):=An rfl
theorem eZ {res:List RV} {Q:V→AH→Prop}:GV res .rt e h Q=Wo (BP e h res) (fun v=>Q v h):=An rfl
theorem kU:BP e h []=some (.tup []):=An rfl
theorem kV {n:Nat}:BP e h [.t n]=some (e n):=An rfl
theorem kX {n m:Nat}:BP e h [.t n,.t m]=some (.tup [e n,e m]):=An rfl
theorem UE {n m l:Nat}:BP e h [.t n,.t m,.t l]=some (.tup [e n,e m,e l]):=An rfl
def GZ (h:AH) (k:Nat) (g:Bool):V→Option V | .p id el off=>bZ (h.get id) el off k g | _=>none
theorem gF {k id el off:Nat} {g:Bool}:GZ h k g (.p id el off)=bZ (h.get id) el off k g:=An rfl
theorem GO {n k:Nat} {g:Bool}:RL e h (.cell n k g)=GZ h k g (e n):=An rfl
theorem Zv {n k:Nat} {g:Bool}:BP e h [.cell n k g]=GZ h k g (e n):=by
 simp only [BP,UG,GO]
 cases GZ h k g (e n)<;>rfl
theorem UC {n k m:Nat} {g:Bool}:BP e h [.cell n k g,.t m]=(GZ h k g (e n)).map fun v=>.tup [v,e m]:=by
 simp only [BP,UG,GO]
 cases GZ h k g (e n)<;>rfl
theorem UD {n k m l:Nat} {g:Bool}:BP e h [.cell n k g,.t m,.t l]=(GZ h k g (e n)).map fun v=>.tup [v,e m,e l]:=by
 simp only [BP,UG,GO]
 cases GZ h k g (e n)<;>rfl
end
/-! ### What stays -/
def UM:V→Bool
 | .b _ | .i .. | .s _ | .np | .ns | .e0 | .nf | .ni | .u | .fl .. | .fp ..=>true
 | _=>false
theorem Cz.of_stay {P:Nat→Prop} {h:AH} {n:Nat} {v:V} (hv:UM v=true):Cz P h n v v:=by
 cases v<;>first | (simp [UM] at hv;done) | exact .fl _ _ _ | exact .fp _ _ _ _ _ | exact .z _ _ (by constructor)
theorem BS.of_stay {P:Nat→Prop} {h:AH} {n:Nat}:∀ {l:List V},l.all UM=true→BS P h n l l
 | [],_=>.nil _
 | v::l,hl=>by
  simp only [List.all_cons,Bool.and_eq_true] at hl
  exact .cons _ _ _ _ _ (Cz.of_stay hl.1) (BS.of_stay hl.2)
theorem BF.of_map {P:Nat→Prop} {h:AH} {n:Nat} {α:Type} {enc:α→List V} (he:∀ a,(enc a).all UM=true):∀ (L:List α),BF P h n (L.map enc) (L.map enc)
 | []=>.nil _
 | a::L=>.cons _ _ _ _ _ (BS.of_stay (he a)) (BF.of_map he L)
section
variable {P:Nat→Prop} {h:AH} {n:Nat}
theorem aH4 {k k':IntKind} {z z':Int}:Cz P h n (.i k z) (.i k' z')=(k=k'∧z=z'):=propext ⟨fun f=>by cases f;exact ⟨rfl,rfl⟩,fun ⟨a,b⟩=>by subst a;subst b;exact .z _ _ (.i _ _)⟩
theorem aH3 {z z':Bool}:Cz P h n (.b z) (.b z')=(z=z'):=propext ⟨fun f=>by cases f;exact rfl,fun a=>by subst a;exact .z _ _ (.b _)⟩
theorem aH5 {z z':ByteArray}:Cz P h n (.s z) (.s z')=(z=z'):=propext ⟨fun f=>by cases f;exact rfl,fun a=>by subst a;exact .z _ _ (.s _)⟩
theorem sA {s s':Nat} {z z':List (List V)}:Cz P h n (.fl s z) (.fl s' z')=(s=s'∧z=z'):=propext ⟨fun f=>by
 cases f with
 | z _ _ h0=>cases h0
 | fl=>exact ⟨rfl,rfl⟩,fun ⟨a,b⟩=>by subst a;subst b;exact .fl _ _ _⟩
theorem sD {s:Nat} {z:List (List V)}:Cz P h n .ns (.fl s z)=(z=[]):=propext ⟨fun f=>by cases f;exact rfl,fun a=>by subst a;exact .ns _ _⟩
theorem rZ {s:Nat} {z:List (List V)}:Cz P h n .e0 (.fl s z)=(z=[]):=propext ⟨fun f=>by cases f;exact rfl,fun a=>by subst a;exact .e0 _ _⟩
theorem sC:Cz P h n .np .np=True:=by simp;exact .z _ _ .np
theorem cE {l l':List V}:Cz P h n (.tup l) (.tup l')=BS P h n l l':=propext ⟨fun f=>by
 cases f with
 | z _ _ h0=>cases h0
 | tup _ _ _ h=>exact h,fun a=>.tup _ _ _ a⟩
theorem cD {l l':List V}:Cz P h n (.agg l) (.agg l')=BS P h n l l':=propext ⟨fun f=>by
 cases f with
 | z _ _ h0=>cases h0
 | agg _ _ _ h=>exact h,fun a=>.agg _ _ _ a⟩
theorem UX:BS P h n [] []=True:=by simp;exact .nil _
theorem Tf {v w:V} {l l':List V}:BS P h n (v::l) (w::l')=(Cz P h n v w∧BS P h n l l'):=propext ⟨fun f=>by
 cases f with
 | cons _ _ _ _ _ a b=>exact ⟨a,b⟩,fun ⟨a,b⟩=>.cons _ _ _ _ _ a b⟩
end
/-! ### Slices of one's own -/
def nth {α:Type} [Inhabited α] (L:List α) (j:Nat):α:=L.getD j default
theorem E8 {α:Type} [Inhabited α] {L:List α} {j:Nat} (h:j<L.length):L[j]?=some (nth L j):=by simp [nth,List.getD,List.getElem?_eq_getElem h]
theorem BX {α:Type} [Inhabited α] {L:List α} {j:Nat} (h:j<L.length):nth L j=L[j]:=by simp [nth,List.getD,List.getElem?_eq_getElem h]
theorem jZ {α:Type} [Inhabited α] {β:Type} {f:α→β} {L:List α} {j:Nat} (h:j<L.length):(L.map f)[j]?=some (f (nth L j)):=by rw [List.getElem?_map,E8 h];rfl
theorem Bl {α:Type} [Inhabited α] {L:List α} {j:Nat} (h:j<L.length):nth L j∈L:=by rw [BX h];exact List.getElem_mem h
theorem Ax {α:Type} [Inhabited α] {L:List α} {i:Nat} (h:i<L.length):L.drop i=nth L i::L.drop (i+1):=by
 rw [BX h];exact List.drop_eq_getElem_cons h
structure AK (h h':AH):Prop where
 next:h.next≤h'.next
 lim:h'.lim=h.lim
 get:∀ i,i<h.next→h'.get i=h.get i
theorem AK.refl (h:AH):AK h h:=⟨Nat.le_refl _,rfl,fun _ _=>rfl⟩
theorem AK.trans {a b c:AH} (p:AK a b) (q:AK b c):AK a c:=⟨Nat.le_trans p.next q.next,q.lim.trans p.lim,fun i hi=>(q.get i (Nat.lt_of_lt_of_le hi p.next)).trans (p.get i hi)⟩
theorem AK.alloc {a b:AH} (p:AK a b) (k:BV):AK a (b.alloc k):=⟨Nat.le_succ_of_le p.next,p.lim,fun i hi=>by
 rw [AL,Ac (by have:=p.next;omega)];exact p.get i hi⟩
theorem AK.put {a b:AH} (p:AK a b) (i:Nat) (k:BV) (hi:a.next≤i):AK a (b.put i k):=⟨p.next,p.lim,fun j hj=>by
 rw [Ad,Ac (by omega)];exact p.get j hj⟩
theorem AK.kill {a b:AH} (p:AK a b) (i:Nat) (hi:a.next≤i):AK a (b.kill i):=⟨p.next,p.lim,fun j hj=>by
 rw [Cl,Ac (by omega)];exact p.get j hj⟩
def Bm (h:AH) (v:V):List (List V):=match h.get (AW v) with | some k=>k.cs | none=>[]
def Sl (b:Nat) (h:AH) (sz:Nat) (v:V) (R:List (List V)):Prop:=((v=.ns∨v=.e0)∧R=[])∨∃ id el cap cs,v=.sl id el R.length cap∧h.get id=some ⟨sz,cs⟩∧el+cap≤cs.length∧(cs.drop el).take R.length=R∧R.length≤cap∧id<h.next∧b≤id∧R.length<4294967296
theorem Sl.nil (b:Nat) (h:AH) (sz:Nat):Sl b h sz .ns []:=.inl ⟨.inl rfl,rfl⟩
theorem Sl.nil' (b:Nat) (h:AH) (sz:Nat):Sl b h sz .e0 []:=.inl ⟨.inr rfl,rfl⟩
theorem Sl.same {b:Nat} {h h':AH} {sz:Nat} {v:V} {R:List (List V)} (s:Sl b h sz v R) (hn:h.next≤h'.next) (hg:AW v<h.next→h'.get (AW v)=h.get (AW v)):Sl b h' sz v R:=by
 rcases s with ⟨hv,rfl⟩ | ⟨id,el,cap,k,rfl,a,c,d,f,hlt,hb,hl⟩
 ·exact .inl ⟨hv,rfl⟩
 ·exact .inr ⟨id,el,cap,k,rfl,(hg hlt).trans a,c,d,f,Nat.lt_of_lt_of_le hlt hn,hb,hl⟩
theorem Sl.ext {b:Nat} {h h':AH} {sz:Nat} {v:V} {R:List (List V)} (s:Sl b h sz v R) (p:AK h h'):Sl b h' sz v R:=s.same p.next (fun hl=>p.get _ hl)
theorem Sl.alloc {b:Nat} {h:AH} {sz:Nat} {v:V} {R:List (List V)} (s:Sl b h sz v R) (k:BV):Sl b (h.alloc k) sz v R:=s.ext ((AK.refl h).alloc k)
theorem Sl.putx {b:Nat} {h:AH} {sz:Nat} {v:V} {R:List (List V)} (s:Sl b h sz v R) (i:Nat) (k:BV) (hi:i≠AW v):Sl b (h.put i k) sz v R:=s.same (Nat.le_refl _) (fun _=>by rw [Ad,Ac (Ne.symm hi)])
theorem Sl.back {b:Nat} {h:AH} {sz l:Nat} {v:V} {R:List (List V)} (s:Sl b h sz v R):Sl b (h.back l) sz v R:=s
theorem Sl.raise {b:Nat} {h:AH} {sz:Nat} {v:V} {R:List (List V)} (s:Sl b h sz v R):Sl b h.raise sz v R:=s
structure SlF {α:Type} [Inhabited α] (enc:α→List V) (b:Nat) (h:AH) (sz:Nat) (v:V) (L:List α):Prop where
 len:HO v=some (.i .i64 (L.length:Int))
 big:L.length<4294967296
 lt:0<L.length→AW v<h.next
 lo:0<L.length→b≤AW v
 get:0<L.length→h.get (AW v)=some ⟨sz,Bm h v⟩
 at_:∀ (k:IntKind) (j:Int) (cs:List (List V)),0≤j→j<L.length→Jd (some ⟨sz,cs⟩) sz v (.i k j)=some (.p (AW v) (E2 v+j.toNat) 0)
 row:∀ (j:Nat),j<L.length→(Bm h v)[E2 v+j]?=some (enc (nth L j))
 cell:v.isCell=true
 cells:v.cells=[v]
theorem Sl.facts {α:Type} [Inhabited α] {enc:α→List V} {b:Nat} {h:AH} {sz:Nat} {v:V} {L:List α} (s:Sl b h sz v (L.map enc)):SlF enc b h sz v L:=by
 rcases s with ⟨hv,hR⟩ | ⟨id,el,cap,cs,rfl,a,c,d,f,hlt,hb,hl⟩
 ·have hL:L=[]:=by simpa using hR
  subst hL
  rcases hv with rfl | rfl
  ·exact ⟨rfl,by simp,by simp,by simp,by simp,fun _ j _ h0 h1=>by simp at h1;omega,by simp,rfl,rfl⟩
  ·exact ⟨rfl,by simp,by simp,by simp,by simp,fun _ j _ h0 h1=>by simp at h1;omega,by simp,rfl,rfl⟩
 ·simp only [List.length_map] at *
  refine ⟨by simp [HO],hl,fun _=>hlt,fun _=>hb,fun _=>by simp [Bm,AW,a],fun k j cs h0 h1=>by simp [Jd,B7,h0,h1,AW,E2],fun j hj=>?_,rfl,rfl⟩
  simp only [Bm,AW,a,E2]
  have:((cs.drop el).take L.length)[j]?=(L.map enc)[j]?:=by rw [d]
  rw [List.getElem?_take_of_lt hj,List.getElem?_drop] at this
  rw [this,List.getElem?_map,E8 hj];rfl
theorem G7.len {α:Type} {enc:α→List V} {s:Nat} {L:List α} (r:G7 (.fl s (L.map enc))):L.length<4000000000:=by simpa using r.big
theorem Sl.froze {α:Type} {enc:α→List V} {b:Nat} {h:AH} {sz:Nat} {v:V} {L:List α} {P:Nat→Prop} {n:Nat} (s:Sl b h sz v (L.map enc)) (he:∀ a,(enc a).all UM=true) (hP:P (AW v)) (hL:L.length<4000000000):Cz P h n v (.fl sz (L.map enc)):=by
 rcases s with ⟨hv,hR⟩ | ⟨id,el,cap,cs,rfl,a,c,d,f,hlt,hb,hl⟩
 ·rw [hR]
  rcases hv with rfl | rfl
  ·exact .ns _ _
  ·exact .e0 _ _
 ·refine .sl _ id el _ cap sz cs _ hP a (by omega) f (by simpa [Dz] using hL) ?_
  rw [d];exact BF.of_map he L
theorem Sl.froze' {b:Nat} {h:AH} {sz:Nat} {v:V} {R:List (List V)} {P:Nat→Prop} {n:Nat} (s:Sl b h sz v R) (hr:BF P h 0 R R) (hP:P (AW v)) (hL:R.length<4000000000):Cz P h n v (.fl sz R):=by
 rcases s with ⟨hv,rfl⟩ | ⟨id,el,cap,cs,rfl,a,c,d,f,hlt,hb,hl⟩
 ·rcases hv with rfl | rfl
  ·exact .ns _ _
  ·exact .e0 _ _
 ·refine .sl _ id el _ cap sz cs _ hP a (by omega) f (by simpa [Dz] using hL) ?_
  rw [d];exact hr
def Ba:V→Bool | .ns | .e0=>true | _=>false
structure Grown (b:Nat) (h:AH) (x v:V) (h':AH):Prop where
 next:h.next≤h'.next
 lim:h'.lim=h.lim
 low:∀ i,i<b→h'.get i=h.get i
 get:∀ i,i<h.next→(Ba x=true∨i≠AW x)→h'.get i=h.get i
 own:Ba v=true∨(Ba x=false∧AW v=AW x)∨h.next≤AW v
 cell:v.isCell=true
 cells:v.cells=[v]
theorem NF:∀ (r:List (List V)) (i:Nat) (n:List (List V)),i+n.length≤r.length→EW r i n=r.take i++n++r.drop (i+n.length)
 | r,i,[],_=>by simp [EW]
 | r,i,c::cs,h=>by
  simp only [List.length_cons] at h
  rw [EW,NF (r.set i c) (i+1) cs (by simp;omega)]
  have hi:i<r.length:=by omega
  rw [List.drop_set_of_lt (by omega)]
  have ht:(r.set i c).take (i+1)=r.take i++[c]:=by
   rw [List.take_add_one]
   simp [hi,List.take_set_of_le]
  rw [ht]
  simp only [List.append_assoc,List.singleton_append,List.length_cons]
  congr 3;omega
theorem Ao {b sz : Nat} {h : AH} {x : V} {R N : List (List V)} {K : V × AH → Prop} (sx : Sl b h sz x R) (hl : h.lim ≤ b) (hb : b ≤ h.next) (hlen : R.length + N.length < 4294967296)
    (k:∀ v h',Sl b h' sz v (R++N)→Grown b h x v h'→K (v,h')):Wo (JG sz h x N) K:=by
 rcases sx with ⟨hx,rfl⟩ | ⟨id,el,cap,cs,rfl,hg,hle,hrow,hcap,hlt,hbi,hbig⟩
 ·have one:∀ nn:V,(nn=.ns∨nn=.e0)→Wo (if N=[] then some (nn,h) else if N.length<Bi then some (.sl h.next 0 N.length N.length,h.alloc ⟨sz,N⟩) else none) (fun z=>(nn=.ns∨nn=.e0)→x=nn→K z):=by
   intro nn hnn
   split
   ·rename_i hN
    subst hN
    exact ⟨_,rfl,fun h1 h2=>by subst h2;exact k _ _ (.inl ⟨h1,rfl⟩) ⟨Nat.le_refl _,rfl,fun _ _=>rfl,fun _ _ _=>rfl,.inl (by rcases h1 with rfl | rfl<;>rfl),by rcases h1 with rfl | rfl<;>rfl,by rcases h1 with rfl | rfl<;>rfl⟩⟩
   ·rename_i hN
    rw [if_pos (by simp only [Bi];simpa using hlen)]
    refine ⟨_,rfl,fun h1 h2=>k _ _ (.inr ⟨h.next,0,N.length,N, ?_, ?_, ?_, ?_, ?_, ?_,hb, ?_⟩) ⟨?_,rfl, ?_, ?_,.inr (.inr (Nat.le_refl _)),rfl,rfl⟩⟩
    ·simp
    ·simp [AH.alloc]
    ·simp
    ·simp
    ·simp
    ·simp [AH.alloc]
    ·simpa using hlen
    ·simp [AH.alloc]
    ·intro i hi;rw [AL,Ac (by omega)]
    ·intro i hi _;rw [AL,Ac (by omega)]
  rcases hx with rfl | rfl
  ·obtain ⟨z,hz,q⟩:=one .ns (.inl rfl)
   exact ⟨z,hz,q (.inl rfl) rfl⟩
  ·obtain ⟨z,hz,q⟩:=one .e0 (.inr rfl)
   exact ⟨z,hz,q (.inr rfl) rfl⟩
 ·unfold JG
  simp only [hg]
  rw [if_pos ⟨trivial,by omega,by omega,by simp only [Bi];exact hlen⟩]
  by_cases hc:R.length+N.length≤cap
  ·rw [if_pos hc,if_pos (by omega)]
   have hov:=NF cs (el+R.length) N (by omega)
   refine ⟨_,rfl,k _ _ (.inr ⟨id,el,cap,EW cs (el+R.length) N, ?_, ?_, ?_, ?_, ?_,hlt,hbi, ?_⟩) ⟨Nat.le_refl _,rfl, ?_, ?_,.inr (.inl ⟨rfl,rfl⟩),rfl,rfl⟩⟩
   ·simp
   ·rw [Ad,AC rfl]
   ·rw [hov];simp;omega
   ·rw [hov]
    have e1:(cs.take (el+R.length)).drop el=R:=by rw [List.drop_take,Nat.add_sub_cancel_left];exact hrow
    simp only [List.append_assoc]
    rw [List.drop_append_of_le_length (by simp;omega),e1,←List.append_assoc,List.length_append,←List.length_append,List.take_left]
   ·simpa using hc
   ·simpa using hlen
   ·intro i hi;rw [Ad,Ac (by omega)]
   ·intro i hi hne
    rw [Ad,Ac (by rcases hne with hne | hne;cases hne;exact hne)]
  ·rw [if_neg hc]
   refine ⟨_,rfl,k _ _ (.inr ⟨h.next,0,R.length+N.length,(cs.drop el).take R.length++N, ?_, ?_, ?_, ?_, ?_, ?_,hb, ?_⟩) ⟨?_,rfl, ?_, ?_,.inr (.inr (Nat.le_refl _)),rfl,rfl⟩⟩
   ·simp
   ·rw [AL,GH,AC rfl]
   ·rw [hrow];simp
   ·rw [hrow,List.drop_zero,List.take_length]
   ·simp
   ·simp [AH.alloc,AH.kill]
   ·simpa using hlen
   ·simp [AH.alloc,AH.kill]
   ·intro i hi;rw [AL,GH,Ac (by omega),Cl,Ac (by omega)]
   ·intro i hi hne
    rw [AL,GH,Ac (by omega),Cl,Ac (by rcases hne with hne | hne;cases hne;exact hne)]
theorem Sl.rows {b:Nat} {h:AH} {sz:Nat} {v:V} {R:List (List V)} (s:Sl b h sz v R):Ef sz h v=some R:=by
 rcases s with ⟨hv,rfl⟩ | ⟨id,el,cap,k,rfl,hg,hc,hrow,hcap,_⟩
 ·rcases hv with rfl | rfl<;>rfl
 ·rw [NW,hg,ZA (by omega),hrow]
theorem Sl.of_get {b sz:Nat} {h h':AH} {v:V} {R:List (List V)} {j:Nat} {r:List V} (s:Sl b h sz v R) (hj:j<R.length) (hn:h.next≤h'.next) (hg:h'.get (AW v)=some ⟨sz,(Bm h v).set (E2 v+j) r⟩):Sl b h' sz v (R.set j r):=by
 rcases s with ⟨hv,rfl⟩ | ⟨id,el,cap,cs,rfl,hg0,hc,hrow,hcap,hlt',hbi,hbig⟩
 ·simp at hj
 ·refine .inr ⟨id,el,cap,cs.set (el+j) r,by simp, ?_,by simpa using hc, ?_,by simpa using hcap,Nat.lt_of_lt_of_le hlt' hn,hbi,by simpa using hbig⟩
  ·simpa [AW,E2,Bm,hg0] using hg
  ·simp only [List.length_set]
   rw [List.drop_set,if_neg (by omega),Nat.add_sub_cancel_left,List.take_set,hrow]
theorem Sl.setT {α:Type} {enc:α→List V} {b sz:Nat} {h h':AH} {v:V} {L:List α} {j:Nat} {x:α} (s:Sl b h sz v (L.map enc)) (hj:j<L.length) (hn:h.next≤h'.next) (hg:h'.get (AW v)=some ⟨sz,(Bm h v).set (E2 v+j) (enc x)⟩):Sl b h' sz v ((L.set j x).map enc):=by
 have:=Sl.of_get (r:=enc x) s (j:=j) (by simpa using hj) hn hg
 simpa [List.map_set] using this
theorem Sl.rowlt {b sz:Nat} {h:AH} {v:V} {R:List (List V)} {j:Nat} (s:Sl b h sz v R) (hj:j<R.length):E2 v+j<(Bm h v).length:=by
 rcases s with ⟨hv,rfl⟩ | ⟨id,el,cap,cs,rfl,hg,hc,hrow,hcap,hlt',_⟩
 ·simp at hj
 ·simp only [E2,Bm,AW,hg];omega
theorem Mn {α:Type} {l:List α} {i:Nat} {a:α} (h:i<l.length):(l.set i a)[i]?=some a:=by simp [h]
def CW (v:V) (n:Nat):V:=match v with | .sl id el _ cap=>.sl id el n cap | v=>v
theorem Ip {v:V} {n:Nat}:AW (CW v n)=AW v:=by cases v<;>rfl
theorem TN {v:V} {n:Nat}:E2 (CW v n)=E2 v:=by cases v<;>rfl
theorem Mr {v:V} {n:Nat}:(CW v n).isCell=v.isCell:=by cases v<;>rfl
theorem IS {v:V} {n:Nat} (h:v.cells=[v]):(CW v n).cells=[CW v n]:=by cases v<;>first | rfl | (simp [CW];exact h)
theorem QL {h:AH} {v:V} {n:Nat}:Bm h (CW v n)=Bm h v:=by cases v<;>rfl
theorem Sl.pre {b:Nat} {h:AH} {sz:Nat} {v:V} {R:List (List V)} (s:Sl b h sz v R) {k:IntKind} {j:Int} {cs:List (List V)} (h0:0≤j) (h1:j≤R.length):Ht (some ⟨sz,cs⟩) sz v none (some (.i k j)) none=some (CW v j.toNat):=by
 rcases s with ⟨hv,rfl⟩ | ⟨id,el,cap,b,rfl,a,_,_,hc,_⟩
 ·simp at h1
  obtain rfl:j=0:=by omega
  rcases hv with rfl | rfl<;>simp [Ht,AM,CW]
 ·have h2:j≤cap:=by omega
  simp [Ht,AM,CW,h0,h2,hc]
theorem Sl.truncd {b:Nat} {h:AH} {sz:Nat} {v:V} {R:List (List V)} (s:Sl b h sz v R) {n:Nat} (hn:n≤R.length):Sl b h sz (CW v n) (R.take n):=by
 rcases s with ⟨hv,rfl⟩ | ⟨id,el,cap,b,rfl,a,c,d,hc,hlt,hbi,hb⟩
 ·exact .inl ⟨by rcases hv with rfl | rfl<;>simp [CW],by simp⟩
 ·refine .inr ⟨id,el,cap,b, ?_,a,c, ?_, ?_,hlt,hbi, ?_⟩
  ·simp [CW];omega
  ·have:(R.take n).length=n:=by simp;omega
   rw [this];conv=>rhs;rw [← d]
   rw [List.take_take];congr 1;omega
  ·simp;omega
  ·simp;omega
theorem S5 {h:AH} {i:Nat} {a b:BV}:(h.put i a).put i b=h.put i b:=by
 unfold AH.put
 congr 1
 funext j
 simp only
 split<;>rfl
theorem Xb:AH.emp.next=0:=An rfl
theorem Jl:AH.emp.lim=0:=An rfl
theorem gT {i:Nat}:AH.emp.get i=none:=An rfl
theorem Xc {l:List V} {j:Nat}:E4 l j=(l[j]?).getD .u:=by simp [E4]
theorem Zf {r:List V} {i:Nat}:over r i []=r:=An rfl
theorem Ur {r:List V} {i:Nat} {c:V} {cs:List V}:over r i (c::cs)=over (r.set i c) (i+1) cs:=An rfl
theorem TT {r:List V}:Fr r []=some r:=An rfl
theorem QP {r:List V} {off n:Nat} {v:V} {ps:List (Nat×Nat×V)}:Fr r ((off,n,v)::ps)=if v.cells.length=n∧off+n≤r.length∧v.cells.all V.isCell=true then Fr (over r off v.cells) ps else none:=An rfl
theorem TS {sz:Nat} {r:List (List V)}:CL sz r []=some r:=An rfl
theorem QO {sz j:Nat} {r:List (List V)} {v:V} {ps:List (Nat×V)}:CL sz r ((j,v)::ps)=if v.cells.length=sz∧j<r.length∧v.cells.all V.isCell=true then CL sz (r.set j v.cells) ps else none:=An rfl
theorem AD {tp:TP} {f:Nat} {args:List V} {R:V} {tf:TF} (hf:tp.fn f=some tf) (hl:args.length≤tf.n) (z:FL args→ZC tp tf.body (E4 args) AH.emp (fun x e h=>GV tf.res x e h (fun r h'=>Cz (fun _=>True) h' 0 r R))):Pf tp f args R:=aH7 hf hl z
theorem pU {tp:TP} {f:Nat} {args:List V} {h:AH} {K:V→AH→Prop} {tf:TF} (hf:tp.fn f=some tf) (hl:args.length≤tf.n) (z:Wf h→FL args→ZC tp tf.body (E4 args) h (fun x e h2=>GV tf.res x e h2 (fun r h3=>∃ P R H,BT h h3 r P R H∧K R H))):Cq tp f args h K:=R8 hf hl z
theorem A8 {tp:TP} {f:Nat} {args:List V} {h:AH} {K:V→AH→Prop} {tf:TF} (hf:tp.fn f=some tf) (hl:args.length≤tf.n) (z:Wf h→FL args→ZC tp tf.body (E4 args) h (fun x e h2=>GV tf.res x e h2 K)):Cq tp f args h K:=rY hf hl z
structure EB (h:AH) (id:Nat) (k:BV) (h':AH):Prop where
 next:h.next≤h'.next
 lim:h'.lim=h.lim
 here:h'.get id=some k
 get:∀ i,i<h.next→i≠id→h'.get i=h.get i
theorem BT.ext {h h3:AH} {r R:V} (wf:Wf h) (x:AK h h3) (fr:Cz (h.next≤·) h3 h.next r R):BT h h3 r (h.next≤·) R h:=
 ⟨Nat.le_refl _,rfl,x.next,fun i k hk=>⟨(wf.2 i k hk).1,Nat.not_le_of_lt (wf.2 i k hk).1,k.cs,by rw [x.get i (wf.2 i k hk).1];exact hk,(wf.2 i k hk).2 _ _⟩,fr⟩
theorem BT.upd {h h3:AH} {r R:V} {id:Nat} {b:BV} (wf:Wf h) (u:EB h id b h3) (hid:id<h.next) (fb:BF (h.next≤·) h3 h.next b.cs b.cs) (fr:Cz (h.next≤·) h3 h.next r R):BT h h3 r (h.next≤·) R (h.put id b):=by
 refine ⟨Nat.le_refl _,rfl,u.next,fun i k hk=>?_,fr⟩
 by_cases e:i=id
 ·subst e
  have:k=b:=by simpa [AH.put] using hk.symm
  subst this
  exact ⟨hid,Nat.not_le_of_lt hid,k.cs,u.here,fb⟩
 ·have hk2:h.get i=some k:=by simpa [AH.put,e] using hk
  exact ⟨(wf.2 i k hk2).1,Nat.not_le_of_lt (wf.2 i k hk2).1,k.cs,by rw [u.get i (wf.2 i k hk2).1 e];exact hk2,(wf.2 i k hk2).2 _ _⟩
theorem Jh {e:Env} {h h2:AH} (P:Nat→Prop) (live:List Nat) (w:Nat→V) (z:Wf h→h2.next=h.next∧h2.lim=h.lim∧(∀ i k,h2.get i=some k→i<h2.next∧¬ P i∧∃ cs,h.get i=some ⟨k.sz,cs⟩∧BF P h h2.next cs k.cs)∧∀ t,t∈live→Cz P h h2.next (e t) (w t)):Stp e h (fun t=>if t∈live then w t else .u) h2:=by
 intro S m hc e1 c p
 obtain ⟨hn,hl,hb,hv⟩:=z c.wf
 have st:∀ r R,Cz P h h2.next r R→BT h h r P R h2:=fun r R f=>⟨Nat.le_of_eq hn.symm,hl,Nat.le_of_eq hn,hb,f⟩
 obtain ⟨q1,q2,_⟩:=(st .u .u (.z _ _ .u)).ok c c (FH.refl c) (.u _ .u)
 refine ⟨_,q1,q2,fun t=>?_⟩
 by_cases ht:t∈live
 ·simp only [if_pos ht]
  exact ((st _ _ (hv t ht)).ok c c (FH.refl c) (p t)).2.2
 ·simp only [if_neg ht]
  exact .u _ _
theorem aEC {tp : TP} {c : TC} {K : Ex → Env → AH → Prop} {e : Env} {h : AH} (live : List Nat) (bx id sz : Nat) (row row' : List V) (hne : bx ≠ id) (hbx : h.get bx = some ⟨sz, [row]⟩) (hr : BF (· = id) h h.next [row] [row'])
    (hv:∀ t,t∈live→Cz (·=id) h h.next (e t) (e t)) (z:∀ e2,(∀ t,t∈live→e2 t=e t)→ZC tp (.loop c) e2 ((h.kill id).put bx ⟨sz,[row']⟩) K):ZC tp (.loop c) e h K:=by
 refine L6 (Jh (h2:=(h.kill id).put bx ⟨sz,[row']⟩) (·=id) live e (fun wf=>⟨rfl,rfl,fun i k hk=>?_,hv⟩)) (z _ (fun t ht=>if_pos ht))
 rw [Ad] at hk
 by_cases hi:i=bx
 ·rw [AC hi] at hk
  subst hi
  cases hk
  exact ⟨(wf.2 _ _ hbx).1,hne,_,hbx,hr⟩
 ·rw [Ac hi,Cl] at hk
  by_cases hd:i=id
  ·rw [AC hd] at hk;cases hk
  ·rw [Ac hd] at hk
   exact ⟨(wf.2 i k hk).1,hd,k.cs,hk,(wf.2 i k hk).2 _ _⟩
theorem LX {tp:TP} {f:Nat} {args:List V} {h:AH} {K:V→AH→Prop} {R:V} {tf:TF} (hf:tp.fn f=some tf) (hl:args.length≤tf.n) (k:K R h) (z:h.lim≤h.next→FL args→ZC tp tf.body (E4 args) h (fun x e h2=>GV tf.res x e h2 (fun r h3=>Cz (h.next≤·) h3 h.next r R∧AK h h3))):Cq tp f args h K:=
 R8 hf hl fun wf rp=>E0 (fun x e h2 q=>by
  cases x with
  | ex _=>exact q
  | nm=>obtain ⟨v,hv,fr,x⟩:=q;exact ⟨v,hv,_,_,_,BT.ext wf x fr,k⟩
  | rt=>obtain ⟨v,hv,fr,x⟩:=q;exact ⟨v,hv,_,_,_,BT.ext wf x fr,k⟩) (z wf.1 rp)
theorem EI {tp:TP} {f:Nat} {args:List V} {h:AH} {K:V→AH→Prop} {R:V} {id:Nat} {b:BV} {tf:TF} (hf:tp.fn f=some tf) (hl:args.length≤tf.n) (hid:(h.get id).isSome=true) (fb:∀ P h' n,BF P h' n b.cs b.cs) (k:K R (h.put id b)) (z:h.lim≤h.next→id<h.next→FL args→ZC tp tf.body (E4 args) h (fun x e h2=>GV tf.res x e h2 (fun r h3=>Cz (h.next≤·) h3 h.next r R∧EB h id b h3))):Cq tp f args h K:=
 R8 hf hl fun wf rp=>by
  obtain ⟨b0,hb0⟩:=Option.isSome_iff_exists.1 hid
  have hlt:=(wf.2 id b0 hb0).1
  exact E0 (fun x e h2 q=>by
   cases x with
   | ex _=>exact q
   | nm=>obtain ⟨v,hv,fr,x⟩:=q;exact ⟨v,hv,_,_,_,BT.upd wf x hlt (fb _ _ _) fr,k⟩
   | rt=>obtain ⟨v,hv,fr,x⟩:=q;exact ⟨v,hv,_,_,_,BT.upd wf x hlt (fb _ _ _) fr,k⟩) (z wf.1 hlt rp)
attribute [go_sem ↓] eE aEE eD aED eC dZ V7 aEF V8 V9 aEG aEQ aEP Wu aEN aEO aWj cZ VZ dB aTB aTA aTz aTy aG7 aG8 aG6 B0 BH
attribute [go_sem] aEX aEY aEW A5 AV HA
attribute [go_sem ↓] aTI dV JB Qx V0 Qy L4 dK Qv dJ aTF L5 V4 aEq dR V5 aEA aEo aEr V3 dM V2 V1 dN dE dF dD dG aTK dL dY aEv Qz Qw dT dS dU dI JD Tk aEt aEu aEw dP aEx dW aEs aEn aEz dX dQ aTH aTJ aEB aTG
attribute [go_sem] Sb aEy
attribute [go_sem ↓] Tl eG eH eI eJ eK Wc eF Tm Wd We aEH aEI eM eN eO Tn eP eQ Wh eR eS eT Wi Wj Wk Wl Wm Wn Wa aEJ aEK aEL eU Wp eV Wq Ws To QA Tp Wt eW aEM
attribute [go_sem ↓] Env.set_get
attribute [go_sem] Env.set_none aWs aTX aTW aTY aT1 aT2 aTZ aT0 aFa rD Zh Zg Zi Uu Uv Us Ut
attribute [go_sem] AC Ac AL Ad Cl TY Xw Ag AB GH A9 Ul AG CU YT Bh YS Xb Jl gT
attribute [go_sem ↓] ID RE
attribute [go_sem] dA aEk MF K8 N1 ME
attribute [go_sem] aTO aTP rJ aG0 Nq aE7 RM sameVa_sl ZV UJ ZT ZU ZR lH ZP lF lG YW YU aTE dH aG4 jV YZ aG3 gO lQ aGN NV ZD ZB lC NW RJ fF fG fH aTC aTD lM ZZ aHE aFh gY Xo jB jC jE YF YG lJ Xi jN jL jO jM lN UP Lk Ug aGW aFb aUi
attribute [go_sem] fJ fT fP fR fS FO aEV fK fQ fO fN fM fL WB WD aHV aHU aUq aUp Xr TW aWx aWk aWz aUj WE aTS Ty gI gG gK WT WR gJ WP WL WM WK WN WO gH Tz YK YI YM T8 T7 YL T6 T0 T3 TZ T4 T5 YJ Rj w64 Ib eY eZ kU kV kX UE gF Zv UC UD
attribute [go_sem] aWt aFe gU Xe aT4 aT3 aT5
attribute [go_sem] List.length_cons List.length_nil List.getElem?_cons_zero List.getElem?_cons_succ List.getElem?_nil List.drop_zero List.drop_succ_cons List.drop_nil List.take_succ_cons List.take_zero List.take_nil List.map_cons List.map_nil List.all_cons List.all_nil List.set_cons_zero List.set_cons_succ List.cons_append List.nil_append List.append_nil List.length_map jZ
attribute [go_sem] aH4 aH3 aH5 sA sD rZ sC cE cD UX Tf Int.reduceLE Int.reduceLT Int.reduceEq Int.reduceAdd Int.reduceSub Int.reduceToNat
attribute [go_sem] Nat.zero_add Nat.add_zero and_true true_and decide_true decide_false not_true_eq_false not_false_eq_true Bool.not_true Bool.not_false Bool.and_true Bool.true_and Bool.and_false Bool.false_and Int.toNat_natCast Option.map_some Option.map_none Option.bind_some Nat.zero_le Nat.le_refl List.take_length Nat.sub_zero Nat.sub_self
attribute [go_sem ↓] reduceIte
attribute [go_sem] Nat.reduceEqDiff Nat.reduceAdd Nat.reduceSub Nat.reduceLeDiff Nat.reduceLT List.reduceReplicate Nat.reduceMul Int.reduceNeg reduceCtorEq
attribute [go_sem] Xc Option.getD_some Option.getD_none Zf Ur TT QP TS QO
theorem K5 {α:Type} {l:List α} {i j:Nat} {a:α} (h:¬ i=j):(l.set i a)[j]?=l[j]?:=List.getElem?_set_ne h
attribute [go_sem] Mn K5 List.set_set List.length_set
attribute [go_sem] S5 QL Ip TN Mr
attribute [go_sem] Int.natCast_add Int.natCast_one Int.natCast_zero Int.add_sub_cancel Int.sub_add_cancel Nat.add_sub_cancel
attribute [go_sem] aUu aUw aUx aHt aHx aHs aHw aHv aHu aUy kM kO aUv kN Zm Ux
abbrev On (o:O):TO:=⟨none,o,none⟩
abbrev Of (d f s:Nat):TO:=⟨some d,.fad f (.t s),none⟩
end Go.Ab
