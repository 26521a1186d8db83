/- Part of a proof that a law returns true for every input of the second form's bound (no other condition). -/
import Derived.IntWalk
import Derived.Test.YtlcknhidblndnaaGreatPC
set_option linter.all false
/- Conditions ahead of code over values that stay; what they say of the abstract machine; functions by what they answer. -/
namespace Go.Ab
open Go
def AH.emp:AH:=⟨fun _=>none,0,0⟩
def EP (S:Nat→Prop) (m:Nat→Nat) (h hc:AH) (e e1:Env):Prop:=∀ t,PR S m hc.get h.next (e t) (e1 t)
section
variable (tp:TP)
def Cq (f:Nat) (args:List V) (h:AH) (Q:V→AH→Prop) (t:Fz Q:=.mk):Prop:=
 ∀ S m hc args1,CE S m h hc→Bi S m hc.get h.next args args1→Ev tp f args1 hc (fun r1 hc'=>∃ r h' S' m',CE S' m' h' hc'∧EH S m h hc S' m' h' hc'∧PR S' m' hc'.get h'.next r r1∧Q r h')
def Pf (f:Nat) (args:List V) (R:V):Prop:=Cq tp f args AH.emp (fun r h'=>r=R∧h'=AH.emp)
def QF (neg:Bool) (v w:V) (h:AH) (K:V→AH→Prop):Prop:=match v,w with
 | .fl _ xs,.ns=>∀ t:Bool,(xs≠[]→t=false)→K (.b (if neg then !t else t)) h
 | v,w=>Wo (ES .sl v w) (fun r=>K (.b (if neg then !r else r)) h)
def z1 (o:O) (e:Env) (h:AH) (K:V→AH→Prop):Prop:=match o with
 | .eq neg .sl a b=>QF neg (a.e2 e) (b.e2 e) h K
 | .call f l=>Wo (callee tp (.call f l) (X.e2 e)) (fun c=>Cq tp c.1 c.2 h K)
 | .inv x m l=>Wo (callee tp (.inv x m l) (X.e2 e)) (fun c=>Cq tp c.1 c.2 h K)
 | o=>Wo (Bj tp o (X.e2 e) h) (fun z=>K z.1 z.2)
def Kx:List TO→Env→AH→(Env→AH→Prop)→Prop
 | [],e,h,K=>K e h
 | o::r,e,h,K=>match AJ e o.g with
  | some true=>z1 tp o.o e h (fun v h=>Kx r (e.set o.d v) h K)
  | some false=>Kx r (e.set o.d (.tup [])) h K
  | none=>False
def zq1 (o:O) (e:Env) (h:AH) (K:V→AH→Prop):Prop:=if AM o=true then z1 tp o e h K else z1 tp o e h.raise (fun v h'=>K v (h'.back h.lim))
def zq:List TO→Env→AH→(Env→AH→Prop)→Prop
 | [],e,h,K=>K e h
 | o::r,e,h,K=>match AJ e o.g with
  | some true=>zq1 tp o.o e h (fun v h=>zq r (e.set o.d v) h K)
  | some false=>zq r (e.set o.d (.tup [])) h K
  | none=>False
def zs:List (Bool×List TO)→Env→AH→(Env→AH→Prop)→Prop
 | [],e,h,K=>K e h
 | (true,l)::r,e,h,K=>zq tp l e h (fun e h=>zs r e h K)
 | (false,l)::r,e,h,K=>Kx tp l e h (fun e h=>zs r e h K)
def Stp (e:Env) (h:AH) (e2:Env) (h2:AH):Prop:=∀ S m hc e1,CE S m h hc→EP S m h hc e e1→∃ S',CE S' m h2 hc∧EH S m h hc S' m h2 hc∧EP S' m h2 hc e2 e1
def zc:TC→Env→AH→(Ex→Env→AH→Prop)→Prop
 | .skip,e,h,K=>K .nm e h
 | .ret,e,h,K=>K .rt e h
 | .exit id,e,h,K=>K (.ex id) e h
 | .reg ops,e,h,K=>Kx tp ops e h (fun e h=>K .nm e h)
 | .dreg segs,e,h,K=>zs tp segs e h (fun e h=>K .nm e h)
 | .cond c a b,e,h,K=>Wb (c.e2 e) (zc a e h K) (zc b e h K)
 | .block id c,e,h,K=>zc c e h (fun x e h=>K (blk id x) e h)
 | .seq a b,e,h,K=>zc a e h (fun x e h=>TN x (zc b e h K) (K x e h))
 | .loop c,e,h,K=>∀ I:Env→AH→Prop,(∀ e h,zc c e h (fun x e h=>TN x (I e h) (K x e h))→I e h)→(∀ e h e2 h2,Stp e h e2 h2→I e2 h2→I e h)→I e h
variable {tp}
theorem QG {o:O} {e:Env} {h:AH} {K L:V→AH→Prop} (kl:∀ v h,K v h→L v h) (z:z1 tp o e h K):z1 tp o e h L:=by
 unfold z1 at z ⊢
 split at z
 ·unfold QF at z ⊢
  split at z
  ·exact fun t ht=>kl _ _ (z t ht)
  ·obtain ⟨a,ha,z⟩:=z;exact ⟨a,ha,kl _ _ z⟩
 ·obtain ⟨c,hc,z⟩:=z
  refine ⟨c,hc,fun S m hc args1 p q=>(z S m hc args1 p q).imp ?_⟩
  rintro v h' ⟨r,h2,S',m',a,b,c,d⟩;exact ⟨r,h2,S',m',a,b,c,kl _ _ d⟩
 ·obtain ⟨c,hc,z⟩:=z
  refine ⟨c,hc,fun S m hc args1 p q=>(z S m hc args1 p q).imp ?_⟩
  rintro v h' ⟨r,h2,S',m',a,b,c,d⟩;exact ⟨r,h2,S',m',a,b,c,kl _ _ d⟩
 ·obtain ⟨a,ha,z⟩:=z;exact ⟨a,ha,kl _ _ z⟩
theorem Ha:∀ {l:List TO} {e:Env} {h:AH} {K L:Env→AH→Prop},(∀ v h,K v h→L v h)→Kx tp l e h K→Kx tp l e h L
 | [],_,_,_,_,kl,z=>kl _ _ z
 | o::r,e,h,K,L,kl,z=>by
  simp only [Kx] at z ⊢
  split at z
  ·exact QG (fun _ _=>Ha kl) z
  ·exact Ha kl z
  ·exact z
theorem L7:∀ {l:List TO} {e:Env} {h:AH} {K L:Env→AH→Prop},(∀ v h,K v h→L v h)→zq tp l e h K→zq tp l e h L
 | [],_,_,_,_,kl,z=>kl _ _ z
 | o::r,e,h,K,L,kl,z=>by
  simp only [zq] at z ⊢
  split at z
  ·unfold zq1 at z ⊢
   split at z
   ·rename_i hp;rw [if_pos hp];exact QG (fun _ _=>L7 kl) z
   ·rename_i hp;rw [if_neg hp];exact QG (fun _ _=>L7 kl) z
  ·exact L7 kl z
  ·exact z
theorem QH:∀ {l:List (Bool×List TO)} {e:Env} {h:AH} {K L:Env→AH→Prop},(∀ v h,K v h→L v h)→zs tp l e h K→zs tp l e h L
 | [],_,_,_,_,kl,z=>kl _ _ z
 | (true,l)::r,e,h,K,L,kl,z=>L7 (fun _ _=>QH kl) z
 | (false,l)::r,e,h,K,L,kl,z=>Ha (fun _ _=>QH kl) z
theorem LL {x:Ex} {A B C D:Prop} (ac:A→C) (bd:B→D) (z:TN x A B):TN x C D:=by
 cases x<;>first | exact ac z | exact bd z
theorem Eo:∀ {c:TC} {e:Env} {h:AH} {K L:Ex→Env→AH→Prop},(∀ x v h,K x v h→L x v h)→zc tp c e h K→zc tp c e h L
 | .skip,_,_,_,_,kl,z=>kl _ _ _ z
 | .ret,_,_,_,_,kl,z=>kl _ _ _ z
 | .exit _,_,_,_,_,kl,z=>kl _ _ _ z
 | .reg ops,_,_,_,_,kl,z=>Ha (fun _ _=>kl _ _ _) z
 | .dreg segs,_,_,_,_,kl,z=>QH (fun _ _=>kl _ _ _) z
 | .cond c a b,e,h,K,L,kl,z=>by
  simp only [zc,Wb] at z ⊢
  split at z
  ·exact Eo kl z
  ·exact Eo kl z
  ·exact z
 | .block id c,_,_,_,_,kl,z=>Eo (c:=c) (fun _ _ _=>kl _ _ _) z
 | .seq a b,_,_,_,_,kl,z=>Eo (c:=a) (fun x _ _=>LL (Eo kl) (kl _ _ _)) z
 | .loop c,_,_,_,_,kl,z=>fun I hI hS=>z I (fun e h q=>hI e h (Eo (c:=c) (fun x _ _=>LL id (kl _ _ _)) q)) hS
/-! ### What it says of the abstract machine -/
section
variable {S:Nat→Prop} {m:Nat→Nat} {h hc:AH}
theorem CE.raise (c:CE S m h hc):CE S m h.raise hc.raise:=
 ⟨c.blk,c.inj,c.off,c.low,fun i hi hl=>by
  obtain ⟨k,hk⟩:=Option.ne_none_iff_exists'.1 hi
  have:=(c.blk i k hk).1
  have:h.next≤i:=hl
  omega,Nat.le_refl _,Nat.le_refl _⟩
theorem CE.back {S':Nat→Prop} {m':Nat→Nat} {h' hc':AH} (c:CE S m h hc) (c':CE S' m' h' hc') (a:EH S m h.raise hc.raise S' m' h' hc'):CE S' m' (h'.back h.lim) (hc'.back hc.lim)∧EH S m h hc S' m' (h'.back h.lim) (hc'.back hc.lim):=by
 refine ⟨⟨c'.blk,c'.inj,c'.off,c'.low,fun i hi hl=>?_,Nat.le_trans c.bnd a.next1,Nat.le_trans c.bnd2 a.next2⟩,⟨a.sub,a.new,a.map,a.next2,a.next1,rfl,rfl,a.frame,a.liv⟩⟩
 rcases a.liv i hi with ⟨h1,h2⟩ | h1
 ·rw [a.map i h1];exact c.lim i h2 hl
 ·exact Nat.le_trans c.bnd h1
theorem EP.mono {S':Nat→Prop} {m':Nat→Nat} {h' hc':AH} {e e1:Env} (c:CE S m h hc) (a:EH S m h hc S' m' h' hc') (p:EP S m h hc e e1):EP S' m' h' hc' e e1:=fun t=>(p t).mono (a.mon c)
theorem EP.set {e e1:Env} {v v1:V} (p:EP S m h hc e e1) (q:PR S m hc.get h.next v v1) (d:Option Nat):EP S m h hc (e.set d v) (e1.set d v1):=by
 intro t
 cases d with
 | none=>exact p t
 | some d=>simp only [Env.set];split;exact q;exact p t
theorem It {e e1:Env} (p:EP S m h hc e e1) {g:Option (Nat×Bool)} {b:Bool} (hw:AJ e g=some b):AJ e1 g=some b:=by
 unfold AJ at hw ⊢
 split at hw
 ·exact hw
 ·rename_i t x
  have q:=p t
  split at hw
  ·rename_i y hy
   rw [hy] at q
   cases hq:e1 t<;>rw [hq] at q<;>cases q
   exact hw
  ·rename_i hy
   rw [hy] at q
   cases hq:e1 t<;>rw [hq] at q<;>cases q
   rename_i q
   cases q
   exact hw
  ·simp at hw
def nF (S:Nat→Prop) (m:Nat→Nat) (h hc:AH) (K:V→AH→Prop) (v1:V) (hc':AH):Prop:=∃ v h' S' m',CE S' m' h' hc'∧EH S m h hc S' m' h' hc'∧PR S' m' hc'.get h'.next v v1∧K v h'
def DD (S:Nat→Prop) (m:Nat→Nat) (h hc:AH) (K:Env→AH→Prop) (e1:Env) (hc':AH):Prop:=∃ e h' S' m',CE S' m' h' hc'∧EH S m h hc S' m' h' hc'∧EP S' m' h' hc' e e1∧K e h'
theorem KF {e e1:Env} (p:EP S m h hc e e1) {o:O} {f:Nat} {args:List V} (hk:callee tp o (X.e2 e)=some (f,args)):∃ args1,callee tp o (X.ev e1)=some (f,args1)∧Bi S m hc.get h.next args args1:=by
 have all:∀ l:List X,Bi S m hc.get h.next (l.map (X.e2 e)) (l.map (X.ev e1)):=fun l=>by
  induction l with
  | nil=>exact .nil _
  | cons a l ih=>exact .cons _ _ _ _ _ (Mb p a) ih
 unfold callee at hk ⊢
 split at hk
 ·rename_i x l
  have q:=Mb p x
  split at hk
  ·rename_i g a b hx
   rw [hx] at q
   simp only [Option.some.injEq,Prod.mk.injEq] at hk
   obtain ⟨rfl,rfl⟩:=hk
   cases hq:X.ev e1 x<;>rw [hq] at q<;>cases q
   rename_i q1 q2
   exact ⟨_,rfl,(q1.app (all l)).app q2⟩
  ·simp at hk
 ·rename_i x mm l
  have q:=Mb p x
  split at hk
  ·rename_i t v hx
   rw [hx] at q
   cases hq:X.ev e1 x<;>rw [hq] at q<;>cases q
   rename_i q1
   simp only [Option.bind_eq_some_iff] at hk ⊢
   obtain ⟨mt,hmt,hk⟩:=hk
   split at hk
   ·rename_i ha
    simp only [Option.some.injEq,Prod.mk.injEq] at hk
    obtain ⟨rfl,rfl⟩:=hk
    refine ⟨_,⟨mt,hmt, ?_⟩,.cons _ _ _ _ _ q1 (all l)⟩
    simp only [ha]
   ·rename_i j ha
    split at hk
    ·simp only [Option.map_eq_some_iff,Prod.mk.injEq] at hk
     obtain ⟨r,hr,rfl,rfl⟩:=hk
     cases q1
     rename_i q1
     obtain ⟨r',h1,h2⟩:=q1.get _ _ hr
     refine ⟨r'::l.map (X.ev e1),⟨mt,hmt, ?_⟩,.cons _ _ _ _ _ h2 (all l)⟩
     simp only [ha,h1,Option.map_some]
    ·simp at hk
  ·simp at hk
 ·simp at hk
theorem Zn (c:CE S m h hc) {e e1:Env} (p:EP S m h hc e e1) {o:O} {K:V→AH→Prop} (z:z1 tp o e h K):W1 tp o e1 hc (nF S m h hc K):=by
 unfold z1 at z
 split at z
 ·rename_i neg a b
  have pa:=Mb p a
  have pb:=Mb p b
  rw [oE (fun C=>rfl)]
  simp only [Ad]
  rw [Be]
  unfold QF at z
  split at z
  ·rename_i s xs ha hb
   rw [ha] at pa;rw [hb] at pb
   cases hb':X.ev e1 b<;>rw [hb'] at pb<;>cases pb
   have key:∀ t:Bool,(xs≠[]→t=false)→ES .sl (X.ev e1 a) .ns=some t→Wo (ES .sl (X.ev e1 a) .ns) (fun r=>nF S m h hc K (.b (if neg=true then !r else r)) hc):=by
    intro t ht he
    rw [he,AQ]
    exact ⟨_,h,S,m,c,EH.refl c,.b _ _,z t ht⟩
   cases ha':X.ev e1 a<;>rw [ha'] at pa key<;>cases pa
   ·exact key true (by simp) rfl
   ·exact key false (by simp) rfl
   ·exact key false (by simp) rfl
  ·obtain ⟨r,hr,z⟩:=z
   rw [VH hr pa pb,AQ]
   exact ⟨_,h,S,m,c,EH.refl c,.b _ _,z⟩
 ·obtain ⟨⟨f,args⟩,hk,z⟩:=z
  obtain ⟨args1,hk1,q⟩:=KF p hk
  rw [aH,hk1,AQ]
  exact z S m hc args1 c q
 ·obtain ⟨⟨f,args⟩,hk,z⟩:=z
  obtain ⟨args1,hk1,q⟩:=KF p hk
  rw [aB1,hk1,AQ]
  exact z S m hc args1 c q
 ·rename_i hn0 hn1 hn2
  obtain ⟨⟨v,h'⟩,hd,z⟩:=z
  obtain ⟨v1,hc',S',m',h1,h2,h3,h4⟩:=aCR c (Mb p) hd
  rw [oE (fun C=>by unfold AY;split<;>first | rfl | (exact absurd rfl (hn1 _ _)) | (exact absurd rfl (hn2 _ _ _))),h1,AQ]
  exact ⟨v,h',S',m',h2,h3,h4,z⟩
theorem DD.then {S':Nat→Prop} {m':Nat→Nat} {h' hc':AH} (a:EH S m h hc S' m' h' hc') {K:Env→AH→Prop} {e1:Env} {hq:AH} (z:DD S' m' h' hc' K e1 hq):DD S m h hc K e1 hq:=by
 obtain ⟨e,h2,S2,m2,c2,a2,p,k⟩:=z
 exact ⟨e,h2,S2,m2,c2,a.trans a2,p,k⟩
end
theorem H5.imp {l:List TO} {e:Env} {h:AH} {Q R:Env→AH→Prop} (w:H5 tp l e h Q) (qr:∀ e h,Q e h→R e h):H5 tp l e h R:=by
 obtain ⟨k,e',h',he,q⟩:=w;exact ⟨k,e',h',he,qr _ _ q⟩
theorem WQ.imp {l:List TO} {e:Env} {h:AH} {Q R:Env→AH→Prop} (w:WQ tp l e h Q) (qr:∀ e h,Q e h→R e h):WQ tp l e h R:=by
 obtain ⟨k,e',h',he,q⟩:=w;exact ⟨k,e',h',he,qr _ _ q⟩
theorem WS.imp {l:List (Bool×List TO)} {e:Env} {h:AH} {Q R:Env→AH→Prop} (w:WS tp l e h Q) (qr:∀ e h,Q e h→R e h):WS tp l e h R:=by
 obtain ⟨k,e',h',he,q⟩:=w;exact ⟨k,e',h',he,qr _ _ q⟩
theorem W1.imp {o:O} {e:Env} {h:AH} {Q R:V→AH→Prop} (w:W1 tp o e h Q) (qr:∀ v h,Q v h→R v h):W1 tp o e h R:=by
 obtain ⟨k,e',h',he,q⟩:=w;exact ⟨k,e',h',he,qr _ _ q⟩
theorem Iu:∀ (l:List TO) {S:Nat→Prop} {m:Nat→Nat} {h hc:AH} {e e1:Env} {K:Env→AH→Prop},CE S m h hc→EP S m h hc e e1→Kx tp l e h K→H5 tp l e1 hc (DD S m h hc K)
 | [],S,m,h,hc,e,e1,K,c,p,z=>by rw [UC];exact ⟨e,h,S,m,c,EH.refl c,p,z⟩
 | ⟨d,o,g⟩::r,S,m,h,hc,e,e1,K,c,p,z=>by
  simp only [Kx] at z
  split at z
  ·rename_i hw
   rw [UD (It p hw)]
   refine (Zn c p z).imp ?_
   rintro v1 hc' ⟨v,h',S',m',c',a',q,z⟩
   exact (Iu r c' ((p.mono c a').set q d) z).imp fun _ _=>DD.then a'
  ·rename_i hw
   rw [RX (It p hw)]
   exact Iu r c (p.set (.tup _ _ _ (.nil _)) d) z
  ·exact z.elim
theorem RP:∀ (l:List TO) {S:Nat→Prop} {m:Nat→Nat} {h hc:AH} {e e1:Env} {K:Env→AH→Prop},CE S m h hc→EP S m h hc e e1→zq tp l e h K→WQ tp l e1 hc (DD S m h hc K)
 | [],S,m,h,hc,e,e1,K,c,p,z=>by rw [aB5];exact ⟨e,h,S,m,c,EH.refl c,p,z⟩
 | ⟨d,o,g⟩::r,S,m,h,hc,e,e1,K,c,p,z=>by
  simp only [zq] at z
  split at z
  ·rename_i hw
   rw [aB6 (It p hw)]
   unfold WQ1
   unfold zq1 at z
   split at z
   ·rename_i hp
    rw [if_pos hp]
    refine ⟨?_,(Zn c p z).imp ?_⟩
    ·cases o<;>try rfl
     rename_i sz x i
     simp only [z1,Bj] at z
     obtain ⟨w,hw,_⟩:=z
     simp only [Option.map_eq_some_iff] at hw
     obtain ⟨v,hv,_⟩:=hw
     have q:=Mb p x
     simp only [HK]
     split
     ·rename_i id el len cap hx
      rw [hx] at q
      unfold fW at hv
      split at hv
      ·rename_i k hk hb
       rw [hk] at q
       cases q
       simp only [hk,Mh] at hb
       obtain ⟨_,_,cs,hcs,_⟩:=c.blk _ _ hb
       rw [hcs];rfl
      ·rename_i s xs _ hk
       rw [hk] at q
       cases q
       simp only [*];rfl
      ·simp at hv
     ·rfl
    ·rintro v1 hc' ⟨v,h',S',m',c',a',q,z⟩
     exact (RP r c' ((p.mono c a').set q d) z).imp fun _ _=>DD.then a'
   ·rename_i hp
    rw [if_neg hp]
    have p':EP S m h.raise hc.raise e e1:=p
    refine (Zn c.raise p' z).imp ?_
    rintro v1 hc' ⟨v,h',S',m',c',a',q,z⟩
    obtain ⟨c2,a2⟩:=c.back c' a'
    exact (RP r c2 ((p.mono c a2).set q d) z).imp fun _ _=>DD.then a2
  ·rename_i hw
   rw [aN (It p hw)]
   exact RP r c (p.set (.tup _ _ _ (.nil _)) d) z
  ·exact z.elim
theorem Zo:∀ (l:List (Bool×List TO)) {S:Nat→Prop} {m:Nat→Nat} {h hc:AH} {e e1:Env} {K:Env→AH→Prop},CE S m h hc→EP S m h hc e e1→zs tp l e h K→WS tp l e1 hc (DD S m h hc K)
 | [],S,m,h,hc,e,e1,K,c,p,z=>by rw [aB8];exact ⟨e,h,S,m,c,EH.refl c,p,z⟩
 | (true,l)::r,S,m,h,hc,e,e1,K,c,p,z=>by
  rw [UE]
  refine (RP l c p z).imp ?_
  rintro e1' hc' ⟨e',h',S',m',c',a',p',z⟩
  exact (Zo r c' p' z).imp fun _ _=>DD.then a'
 | (false,l)::r,S,m,h,hc,e,e1,K,c,p,z=>by
  rw [aB7]
  refine (Iu l c p z).imp ?_
  rintro e1' hc' ⟨e',h',S',m',c',a',p',z⟩
  exact (Zo r c' p' z).imp fun _ _=>DD.then a'
theorem G9:∀ (cd:TC) {S:Nat→Prop} {m:Nat→Nat} {h hc:AH} {e e1:Env} {K:Ex→Env→AH→Prop},CE S m h hc→EP S m h hc e e1→zc tp cd e h K→WC tp cd e1 hc (fun x=>DD S m h hc (K x))
 | .skip,S,m,h,hc,e,e1,K,c,p,z=>by rw [aM];exact ⟨e,h,S,m,c,EH.refl c,p,z⟩
 | .ret,S,m,h,hc,e,e1,K,c,p,z=>by rw [aB3];exact ⟨e,h,S,m,c,EH.refl c,p,z⟩
 | .exit id,S,m,h,hc,e,e1,K,c,p,z=>by rw [aK];exact ⟨e,h,S,m,c,EH.refl c,p,z⟩
 | .reg ops,S,m,h,hc,e,e1,K,c,p,z=>by rw [aB2];exact Iu ops c p z
 | .dreg segs,S,m,h,hc,e,e1,K,c,p,z=>by rw [aJ];exact Zo segs c p z
 | .cond q a b,S,m,h,hc,e,e1,K,c,p,z=>by
  rw [aI]
  have r:=Mb p q
  simp only [zc,Wb] at z
  split at z
  ·rename_i hx;rw [hx] at r;cases hq:X.ev e1 q<;>rw [hq] at r<;>cases r;exact G9 a c p z
  ·rename_i hx;rw [hx] at r;cases hq:X.ev e1 q<;>rw [hq] at r<;>cases r;exact G9 b c p z
  ·exact z.elim
 | .block id cd,S,m,h,hc,e,e1,K,c,p,z=>by rw [UB];exact G9 cd c p z
 | .seq a b,S,m,h,hc,e,e1,K,c,p,z=>by
  rw [aB4]
  refine (G9 a c p z).imp ?_
  rintro x e1' hc' ⟨e',h',S',m',c',a',p',z⟩
  cases x with
  | nm=>exact (G9 b c' p' z).imp fun _ _ _=>DD.then a'
  | ex j=>exact ⟨e',h',S',m',c',a',p',z⟩
  | rt=>exact ⟨e',h',S',m',c',a',p',z⟩
 | .loop cd,S,m,h,hc,e,e1,K,c,p,z=>by
  refine z (fun e h=>∀ S m hc e1,CE S m h hc→EP S m h hc e e1→WC tp (.loop cd) e1 hc (fun x=>DD S m h hc (K x))) ?_ ?_ S m hc e1 c p
  rotate_left
  ·intro e h e2 h2 st q S m hc e1 c p
   obtain ⟨S',c',a',p'⟩:=st S m hc e1 c p
   exact (q S' m hc e1 c' p').imp fun _ _ _=>DD.then a'
  intro e h q S m hc e1 c p
  refine aL ((G9 cd c p q).imp ?_)
  rintro x e1' hc' ⟨e',h',S',m',c',a',p',z⟩
  cases x with
  | nm=>exact (z S' m' hc' e1' c' p').imp fun _ _ _=>DD.then a'
  | ex j=>exact ⟨e',h',S',m',c',a',p',z⟩
  | rt=>exact ⟨e',h',S',m',c',a',p',z⟩
/-! ### Functions -/
section
variable {S:Nat→Prop} {m:Nat→Nat} {h hc:AH}
theorem Yk (c:CE S m h hc) {e e1:Env} (p:EP S m h hc e e1):∀ {l:List RV} {vs:List V},TQ e h l=some vs→∃ vs1,TQ e1 hc l=some vs1∧Bi S m hc.get h.next vs vs1
 | [],vs,hv=>by simp [TQ] at hv;subst hv;exact ⟨[],rfl,.nil _⟩
 | r::l,vs,hv=>by
  simp only [TQ,Option.bind_eq_some_iff,Option.map_eq_some_iff] at hv ⊢
  obtain ⟨v,h1,ws,h2,rfl⟩:=hv
  obtain ⟨ws1,h3,h4⟩:=Yk c p h2
  have:∃ v1,Qu e1 hc r=some v1∧PR S m hc.get h.next v v1:=by
   cases r with
   | t n=>simp [Qu] at h1 ⊢;subst h1;exact p n
   | cell n k agg=>
    have q:=p n
    simp only [Qu] at h1 ⊢
    split at h1
    ·rename_i id el off hx
     rw [hx] at q
     cases hq:e1 n<;>rw [hq] at q<;>cases q
     simp only [Option.bind_eq_some_iff] at h1
     obtain ⟨b,hb,row,hr,hcut⟩:=h1
     exact Ik c hb hr hcut
    ·simp at h1
  obtain ⟨v1,h5,h6⟩:=this
  exact ⟨_,⟨v1,h5,ws1,h3,rfl⟩,.cons _ _ _ _ _ h6 h4⟩
theorem Qo (c:CE S m h hc) {e e1:Env} (p:EP S m h hc e e1) {l:List RV} {v:V} (hv:BC e h l=some v):∃ v1,BC e1 hc l=some v1∧PR S m hc.get h.next v v1:=by
 simp only [BC,Option.map_eq_some_iff] at hv ⊢
 obtain ⟨vs,h1,rfl⟩:=hv
 obtain ⟨vs1,h2,h3⟩:=Yk c p h1
 refine ⟨_,⟨vs1,h2,rfl⟩, ?_⟩
 cases h3 with
 | nil=>exact .tup _ _ _ (.nil _)
 | cons _ v v' l l' q r=>
  cases r with
  | nil=>exact q
  | cons _ w w' l l' q' r=>exact .tup _ _ _ (.cons _ _ _ _ _ q (.cons _ _ _ _ _ q' r))
end
def Hf (res:List RV) (x:Ex) (e:Env) (h:AH) (Q:V→AH→Prop) (t:Fz (PProd.mk e Q):=.mk):Prop:=match x with | .ex _=>False | _=>Wo (BC e h res) (fun v=>Q v h)
inductive Ei:V→Prop where
 | b (x:Bool):Ei (.b x)
 | i (k:IntKind) (z:Int):Ei (.i k z)
 | s (x:ByteArray):Ei (.s x)
 | np:Ei .np
 | ns:Ei .ns
 | e0:Ei .e0
 | nf:Ei .nf
 | ni:Ei .ni
 | u:Ei .u
mutual
inductive CY (P:Nat→Prop) (h:AH):Nat→V→V→Prop where
 | z (n:Nat) (v:V):Ei v→CY P h n v v
 | ns (n:Nat) (sz:Nat):CY P h n .ns (.fl sz [])
 | e0 (n:Nat) (sz:Nat):CY P h n .e0 (.fl sz [])
 | fl (n:Nat) (sz:Nat) (xs:List (List V)):CY P h n (.fl sz xs) (.fl sz xs)
 | fp (n:Nat) (sz:Nat) (xs:List (List V)) (j o:Nat):CY P h n (.fp sz xs j o) (.fp sz xs j o)
 | sl (n:Nat) (id el len cap sz:Nat) (cs xs:List (List V)):P id→h.get id=some ⟨sz,cs⟩→el+len≤cs.length→len≤cap→len<Ho→DI P h 0 ((cs.drop el).take len) xs→CY P h n (.sl id el len cap) (.fl sz xs)
 | p (n:Nat) (id el off:Nat):id<n→CY P h n (.p id el off) (.p id el off)
 | so (n:Nat) (id el len cap:Nat):id<n→CY P h n (.sl id el len cap) (.sl id el len cap)
 | f (n:Nat) (fn:Fn) (a c a' c':List V):BX P h n a a'→BX P h n c c'→CY P h n (.f fn a c) (.f fn a' c')
 | ifc (n:Nat) (t:Nat) (v v':V):CY P h n v v'→CY P h n (.ifc t v) (.ifc t v')
 | agg (n:Nat) (l l':List V):BX P h n l l'→CY P h n (.agg l) (.agg l')
 | tup (n:Nat) (l l':List V):BX P h n l l'→CY P h n (.tup l) (.tup l')
inductive BX (P:Nat→Prop) (h:AH):Nat→List V→List V→Prop where
 | nil (n:Nat):BX P h n [] []
 | cons (n:Nat) (v v':V) (l l':List V):CY P h n v v'→BX P h n l l'→BX P h n (v::l) (v'::l')
inductive DI (P:Nat→Prop) (h:AH):Nat→List (List V)→List (List V)→Prop where
 | nil (n:Nat):DI P h n [] []
 | cons (n:Nat) (v v':List V) (l l':List (List V)):BX P h n v v'→DI P h n l l'→DI P h n (v::l) (v'::l')
end
section
variable {S:Nat→Prop} {m:Nat→Nat} {h hc:AH} {P:Nat→Prop}
def SP (S:Nat→Prop) (m:Nat→Nat) (h:AH) (P:Nat→Prop) (a:Nat):Prop:=S a∨∃ i,P i∧h.live i∧m i=a
theorem DI.len {n:Nat}:∀ {l l':List (List V)},DI P h n l l'→l.length=l'.length
 | _,_,.nil _=>rfl
 | _,_,.cons _ _ _ _ _ _ q=>by simp [q.len]
mutual
theorem CY.ok (c:CE S m h hc) {n:Nat}:∀ {v r v1:V},CY P h n v r→PR S m hc.get h.next v v1→PR (SP S m h P) m hc.get n r v1
 | _,_,_,.z _ _ h0,p=>by cases h0<;>cases p<;>constructor
 | _,_,_,.ns _ sz,p=>by cases p;exact .fl0 _ _
 | _,_,_,.e0 _ sz,p=>by cases p;exact .fl1 _ _
 | _,_,_,.fl _ sz xs,p=>by
  cases p with
  | fl0=>exact .fl0 _ _
  | fl1=>exact .fl1 _ _
  | fl _ _ _ a el cap cs h1 h2 h3 h4 h5 r=>exact .fl _ _ _ _ _ _ _ (.inl h1) h2 h3 h4 h5 (r.mono ⟨fun a h=>.inl h,fun _ _=>rfl,fun i hi=>absurd hi (Nat.not_lt_zero _),Nat.le_refl _⟩)
 | _,_,_,.fp _ sz xs j o,p=>by
  cases p with
  | fp _ _ _ _ _ a el cs h1 h2 h3 r=>exact .fp _ _ _ _ _ _ _ _ (.inl h1) h2 h3 (r.mono ⟨fun a h=>.inl h,fun _ _=>rfl,fun i hi=>absurd hi (Nat.not_lt_zero _),Nat.le_refl _⟩)
 | _,_,_,.sl _ id el len cap sz cs xs hP hg h1 h2 h3 fr,p=>by
  cases p
  obtain ⟨_,_,cs1,hcs,hr⟩:=c.blk id _ hg
  have e:xs.length=len:=by rw [← fr.len];simp;omega
  subst e
  exact .fl _ _ _ _ _ _ cs1 (.inr ⟨id,hP,by simp [AH.live,hg],rfl⟩) hcs h2 (by rw [← hr.len];exact h1) h3 (DI.ok c fr ((hr.drop _).take _))
 | _,_,_,.p _ id el off hi,p=>by cases p;exact .p _ _ _ _ hi
 | _,_,_,.so _ id el len cap hi,p=>by cases p;exact .sl _ _ _ _ _ hi
 | _,_,_,.f _ fn a cc a' c' fa fc,p=>by cases p;rename_i p q;exact .f _ _ _ _ _ _ (BX.ok c fa p) (BX.ok c fc q)
 | _,_,_,.ifc _ t v v' fv,p=>by cases p;rename_i p;exact .ifc _ _ _ _ (CY.ok c fv p)
 | _,_,_,.agg _ l l' fl,p=>by cases p;rename_i p;exact .agg _ _ _ (BX.ok c fl p)
 | _,_,_,.tup _ l l' fl,p=>by cases p;rename_i p;exact .tup _ _ _ (BX.ok c fl p)
theorem BX.ok (c:CE S m h hc) {n:Nat}:∀ {v r v1:List V},BX P h n v r→Bi S m hc.get h.next v v1→Bi (SP S m h P) m hc.get n r v1
 | _,_,_,.nil _,p=>by cases p;exact .nil _
 | _,_,_,.cons _ v v' l l' fv fl,p=>by cases p;rename_i p q;exact .cons _ _ _ _ _ (CY.ok c fv p) (BX.ok c fl q)
theorem DI.ok (c:CE S m h hc) {n:Nat}:∀ {v r v1:List (List V)},DI P h n v r→Cv S m hc.get h.next v v1→Cv (SP S m h P) m hc.get n r v1
 | _,_,_,.nil _,p=>by cases p;exact .nil _
 | _,_,_,.cons _ v v' l l' fv fl,p=>by cases p;rename_i p q;exact .cons _ _ _ _ _ (BX.ok c fv p) (DI.ok c fl q)
end
mutual
theorem PR.frz {g:Nat→Option BA} {n:Nat} {P:Nat→Prop} {h:AH}:∀ {v v1:V},PR S m g n v v1→CY P h n v v
 | _,_,.u _ x=>.z _ _ .u
 | _,_,.b _ x=>.z _ _ (.b x)
 | _,_,.i _ k z=>.z _ _ (.i k z)
 | _,_,.s _ x=>.z _ _ (.s x)
 | _,_,.np _=>.z _ _ .np
 | _,_,.ns _=>.z _ _ .ns
 | _,_,.e0 _=>.z _ _ .e0
 | _,_,.nf _=>.z _ _ .nf
 | _,_,.ni _=>.z _ _ .ni
 | _,_,.p _ id el off h=>.p _ _ _ _ h
 | _,_,.sl _ id el len cap h=>.so _ _ _ _ _ h
 | _,_,.fl0 _ sz=>.fl _ _ _
 | _,_,.fl1 _ sz=>.fl _ _ _
 | _,_,.fl _ sz xs ..=>.fl _ _ _
 | _,_,.fp _ sz xs ..=>.fp _ _ _ _ _
 | _,_,.f _ fn a c a' c' p q=>.f _ _ _ _ _ _ p.frz q.frz
 | _,_,.ifc _ t v v' p=>.ifc _ _ _ _ p.frz
 | _,_,.agg _ l l' p=>.agg _ _ _ p.frz
 | _,_,.tup _ l l' p=>.tup _ _ _ p.frz
theorem Bi.frz {g:Nat→Option BA} {n:Nat} {P:Nat→Prop} {h:AH}:∀ {v v1:List V},Bi S m g n v v1→BX P h n v v
 | _,_,.nil _=>.nil _
 | _,_,.cons _ v v' l l' p q=>.cons _ _ _ _ _ p.frz q.frz
theorem Cv.frz {g:Nat→Option BA} {n:Nat} {P:Nat→Prop} {h:AH}:∀ {v v1:List (List V)},Cv S m g n v v1→DI P h n v v
 | _,_,.nil _=>.nil _
 | _,_,.cons _ v v' l l' p q=>.cons _ _ _ _ _ p.frz q.frz
end
theorem SP.low (c:CE S m h hc):∀ a,SP S m h P a→a<hc.next:=by
 rintro a (ha | ⟨i,_,hi,rfl⟩)
 ·exact c.low a ha
 ·obtain ⟨k,hk⟩:=Option.ne_none_iff_exists'.1 hi
  exact (c.blk i k hk).2.1
theorem CE.emp {T:Nat→Prop} (low:∀ a,T a→a<hc.next) (bnd:hc.lim≤hc.next) (m:Nat→Nat):CE T m AH.emp hc:=
 ⟨fun i k hk=>by simp [AH.emp] at hk,fun i j hi=>by simp [AH.live,AH.emp] at hi,fun i hi=>by simp [AH.live,AH.emp] at hi,low,fun i hi=>by simp [AH.live,AH.emp] at hi,bnd,Nat.le_refl _⟩
end
theorem EP.args {S:Nat→Prop} {m:Nat→Nat} {h hc:AH} {args args1:List V} (p:Bi S m hc.get h.next args args1):EP S m h hc (Ey args) (Ey args1):=by
 intro t
 simp only [Ey,List.getD_eq_getElem?_getD]
 cases ht:args[t]? with
 | none=>
  have:args1[t]?=none:=by rw [List.getElem?_eq_none_iff] at ht ⊢;rw [← p.len];exact ht
  rw [this];exact .u _ _
 | some v=>
  obtain ⟨v1,h1,h2⟩:=p.get t v ht
  rw [h1];exact h2
def FZ (v:V):Prop:=∃ S m g n v1,PR S m g n v v1
def FS (l:List V):Prop:=∀ v,v∈l→FZ v
theorem Bi.reps {S:Nat→Prop} {m:Nat→Nat} {g:Nat→Option BA} {n:Nat}:∀ {l l1:List V},Bi S m g n l l1→FS l
 | _,_,.nil _=>fun v hv=>by simp at hv
 | _,_,.cons _ v v' l l' p q=>fun w hw=>by
  rcases List.mem_cons.1 hw with rfl | hw
  ·exact ⟨_,_,_,_,_,p⟩
  ·exact q.reps w hw
theorem FZ.big {s:Nat} {xs:List (List V)} (r:FZ (.fl s xs)):xs.length<4000000000:=by
 obtain ⟨S,m,g,n,v1,p⟩:=r
 cases p with
 | fl0=>simp
 | fl1=>simp
 | fl _ _ _ a el cap cs h1 h2 h3 h4 h5 r=>exact h5
theorem FZ.row {s:Nat} {xs:List (List V)} (r:FZ (.fl s xs)) {row:List V} (hr:row∈xs):FS row:=by
 obtain ⟨S,m,g,n,v1,p⟩:=r
 cases p with
 | fl0=>simp at hr
 | fl1=>simp at hr
 | fl _ _ _ a el cap cs h1 h2 h3 h4 h5 r=>
  obtain ⟨j,hj,rfl⟩:=List.getElem_of_mem hr
  obtain ⟨row1,_,q⟩:=r.get j _ (List.getElem?_eq_getElem hj)
  exact q.reps
theorem FZ.agg {l:List V} (r:FZ (.agg l)):FS l:=by
 obtain ⟨S,m,g,n,v1,p⟩:=r
 cases p with
 | agg _ _ _ q=>exact q.reps
theorem FZ.tup {l:List V} (r:FZ (.tup l)):FS l:=by
 obtain ⟨S,m,g,n,v1,p⟩:=r
 cases p with
 | tup _ _ _ q=>exact q.reps
theorem FZ.frzr {s:Nat} {xs:List (List V)} (r:FZ (.fl s xs)) {P:Nat→Prop} {h:AH}:DI P h 0 xs xs:=by
 obtain ⟨S,m,g,n,v1,p⟩:=r
 cases p with
 | fl0=>exact .nil _
 | fl1=>exact .nil _
 | fl _ _ _ a el cap cs h1 h2 h3 h4 h5 r=>exact r.frz
theorem FS.head {v:V} {l:List V} (r:FS (v::l)):FZ v:=r v (by simp)
theorem FS.tail {v:V} {l:List V} (r:FS (v::l)):FS l:=fun w hw=>r w (by simp [hw])
theorem aFq {f:Nat} {args:List V} {R:V} {tf:TF} (hf:tp.fn f=some tf) (hl:args.length≤tf.n) (z:FS args→zc tp tf.body (Ey args) AH.emp (fun x e h=>Hf tf.res x e h (fun r h'=>CY (fun _=>True) h' 0 r R))):Pf tp f args R:=by
 intro S m hc args1 c p
 have p0:EP S m AH.emp hc (Ey args) (Ey args1):=EP.args p
 refine TS hf (by rw [← p.len];exact hl) ((G9 tf.body c p0 (z p.reps)).imp ?_)
 rintro x e1 hc' ⟨e,h',S',m',c',a',pe,z⟩
 unfold Hf at z
 unfold UG
 have key:(Wo (BC e h' tf.res) fun v=>CY (fun _=>True) h' 0 v R)→Wo (BC e1 hc' tf.res) (fun r1=>∃ r h'' S' m',CE S' m' h'' hc'∧EH S m AH.emp hc S' m' h'' hc'∧PR S' m' hc'.get h''.next r r1∧r=R∧h''=AH.emp):=by
  rintro ⟨v,hv,fz⟩
  obtain ⟨v1,h1,h2⟩:=Qo c' pe hv
  refine ⟨v1,h1,R,AH.emp,SP S' m' h' (fun _=>True),m',CE.emp (SP.low c') c'.bnd m',⟨fun a h=>.inl (a'.sub a h), ?_,a'.map,Nat.le_refl _,a'.next1,rfl,a'.lim1,a'.frame,fun i hi=>by simp [AH.live,AH.emp] at hi⟩,CY.ok c' fz h2,rfl,rfl⟩
  rintro a (ha | ⟨i,_,hi,rfl⟩)
  ·exact a'.new a ha
  ·rcases a'.liv i hi with ⟨q1,q2⟩ | q1
   ·exact absurd q1 (Nat.not_lt_zero _)
   ·exact .inr (.inl q1)
 cases x with
 | ex j=>exact z.elim
 | nm=>exact key z
 | rt=>exact key z
def Wf (h:AH):Prop:=h.lim≤h.next∧∀ i k,h.get i=some k→i<h.next∧∀ P h',DI P h' h.next k.cs k.cs
theorem CE.wf {S:Nat→Prop} {m:Nat→Nat} {h hc:AH} (c:CE S m h hc):Wf h:=⟨c.bnd2,fun i k hk=>by
 obtain ⟨h1,_,cs,_,h4⟩:=c.blk i k hk
 exact ⟨h1,fun P h'=>h4.frz⟩⟩
structure Cn (h h2:AH) (r:V) (P:Nat→Prop) (R:V) (H:AH):Prop where
 n1:h.next≤H.next
 lim:H.lim=h.lim
 n2:H.next≤h2.next
 blk:∀ i k,H.get i=some k→i<H.next∧¬ P i∧∃ cs,h2.get i=some ⟨k.sz,cs⟩∧DI P h2 H.next cs k.cs
 val:CY P h2 H.next r R
theorem Cn.ok {S S' : Nat → Prop} {m m' : Nat → Nat} {h hc h2 hc2 : AH} {r r1 R : V} {P : Nat → Prop} {H : AH} (st : Cn h h2 r P R H) (c : CE S m h hc) (c' : CE S' m' h2 hc2) (a' : EH S m h hc S' m' h2 hc2) (p : PR S' m' hc2.get h2.next r r1) :
    CE (SP S' m' h2 P) m' H hc2∧EH S m h hc (SP S' m' h2 P) m' H hc2∧PR (SP S' m' h2 P) m' hc2.get H.next R r1:=by
 have liv:∀ i,H.live i→h2.live i∧¬ P i:=fun i hi=>by
  obtain ⟨k,hk⟩:=Option.ne_none_iff_exists'.1 hi
  obtain ⟨_,h1,cs,h2,_⟩:=st.blk i k hk
  exact ⟨by simp [AH.live,h2],h1⟩
 refine ⟨⟨fun i k hk=>?_,fun i j hi hj=>c'.inj i j (liv i hi).1 (liv j hj).1,fun i hi hs=>?_,SP.low c',fun i hi hl=>c'.lim i (liv i hi).1 (by rw [a'.lim2,←st.lim];exact hl),c'.bnd,by rw [st.lim];exact Nat.le_trans c.bnd2 st.n1⟩,⟨fun a h=>.inl (a'.sub a h),fun a ha=>?_,a'.map,st.n1,a'.next1,st.lim,a'.lim1,a'.frame,fun i hi=>a'.liv i (liv i hi).1⟩,st.val.ok c' p⟩
 ·obtain ⟨h1,h2',cs,h3,h4⟩:=st.blk i k hk
  obtain ⟨q1,q2,cs1,q3,q4⟩:=c'.blk i _ h3
  exact ⟨h1,q2,cs1,q3,h4.ok c' q4⟩
 ·obtain ⟨hl,hP⟩:=liv i hi
  rcases hs with hs | ⟨j,hj,hlj,he⟩
  ·exact c'.off i hl hs
  ·exact hP (c'.inj j i hlj hl he▸hj)
 ·rcases ha with ha | ⟨i,_,hi,rfl⟩
  ·exact a'.new a ha
  ·rcases a'.liv i hi with ⟨q1,q2⟩ | q1
   ·exact .inr (.inr ⟨i,q2,(a'.map i q1).symm⟩)
   ·exact .inr (.inl q1)
theorem nC {f:Nat} {args:List V} {h:AH} {K:V→AH→Prop} {tf:TF} (hf:tp.fn f=some tf) (hl:args.length≤tf.n) (z:Wf h→FS args→zc tp tf.body (Ey args) h (fun x e h2=>Hf tf.res x e h2 (fun r h3=>∃ P R H,Cn h h3 r P R H∧K R H))):Cq tp f args h K:=by
 intro S m hc args1 c p
 refine TS hf (by rw [← p.len];exact hl) ((G9 tf.body c (EP.args p) (z c.wf p.reps)).imp ?_)
 rintro x e1 hc' ⟨e,h',S',m',c',a',pe,z⟩
 unfold Hf at z
 unfold UG
 have key:(Wo (BC e h' tf.res) fun r=>∃ P R H,Cn h h' r P R H∧K R H)→Wo (BC e1 hc' tf.res) (fun r1=>∃ r h'' S' m',CE S' m' h'' hc'∧EH S m h hc S' m' h'' hc'∧PR S' m' hc'.get h''.next r r1∧K r h''):=by
  rintro ⟨v,hv,P,R,H,st,k⟩
  obtain ⟨v1,h1,h2⟩:=Qo c' pe hv
  obtain ⟨q1,q2,q3⟩:=st.ok c c' a' h2
  exact ⟨v1,h1,R,H,_,m',q1,q2,q3,k⟩
 cases x with
 | ex j=>exact z.elim
 | nm=>exact key z
 | rt=>exact key z
theorem oT {f:Nat} {args:List V} {h:AH} {K:V→AH→Prop} {tf:TF} (hf:tp.fn f=some tf) (hl:args.length≤tf.n) (z:Wf h→FS args→zc tp tf.body (Ey args) h (fun x e h2=>Hf tf.res x e h2 K)):Cq tp f args h K:=by
 intro S m hc args1 c p
 refine TS hf (by rw [← p.len];exact hl) ((G9 tf.body c (EP.args p) (z c.wf p.reps)).imp ?_)
 rintro x e1 hc' ⟨e,h',S',m',c',a',pe,z⟩
 unfold Hf at z
 unfold UG
 have key:(Wo (BC e h' tf.res) fun r=>K r h')→Wo (BC e1 hc' tf.res) (fun r1=>∃ r h'' S' m',CE S' m' h'' hc'∧EH S m h hc S' m' h'' hc'∧PR S' m' hc'.get h''.next r r1∧K r h''):=by
  rintro ⟨v,hv,k⟩
  obtain ⟨v1,h1,h2⟩:=Qo c' pe hv
  exact ⟨v1,h1,v,h',_,m',c',a',h2,k⟩
 cases x with
 | ex j=>exact z.elim
 | nm=>exact key z
 | rt=>exact key z
theorem Cq.imp {f:Nat} {args:List V} {h:AH} {K L:V→AH→Prop} (c:Cq tp f args h K) (kl:∀ v h,K v h→L v h):Cq tp f args h L:=by
 intro S m hc args1 cf p
 refine (c S m hc args1 cf p).imp ?_
 rintro v h' ⟨r,h2,S',m',a,b,c,d⟩
 exact ⟨r,h2,S',m',a,b,c,kl _ _ d⟩
mutual
def pur:V→Bool
 | .p .. | .sl ..=>false
 | .f _ a c=>Fp a&&Fp c
 | .ifc _ v=>pur v
 | .agg l=>Fp l
 | .tup l=>Fp l
 | _=>true
def Fp:List V→Bool
 | []=>true
 | v::l=>pur v&&Fp l
end
mutual
theorem PR.pur {S:Nat→Prop} {m:Nat→Nat} {g:Nat→Option BA} {n:Nat}:∀ {v v1:V},PR S m g n v v1→pur v=true→PR S m g 0 v v1
 | _,_,.u _ x,_=>.u _ x
 | _,_,.b _ x,_=>.b _ x
 | _,_,.i _ k z,_=>.i _ k z
 | _,_,.s _ x,_=>.s _ x
 | _,_,.np _,_=>.np _
 | _,_,.ns _,_=>.ns _
 | _,_,.e0 _,_=>.e0 _
 | _,_,.nf _,_=>.nf _
 | _,_,.ni _,_=>.ni _
 | _,_,.p _ _ _ _ _,h=>by simp [Go.Ab.pur] at h
 | _,_,.sl _ _ _ _ _ _,h=>by simp [Go.Ab.pur] at h
 | _,_,.fl0 _ sz,_=>.fl0 _ sz
 | _,_,.fl1 _ sz,_=>.fl1 _ sz
 | _,_,.fl _ sz xs a el cap cs h1 h2 h3 h4 h5 r,_=>.fl _ sz xs a el cap cs h1 h2 h3 h4 h5 r
 | _,_,.fp _ sz xs j off a el cs h1 h2 h3 r,_=>.fp _ sz xs j off a el cs h1 h2 h3 r
 | _,_,.f _ fn a c a' c' p q,h=>by
  simp only [Go.Ab.pur,Bool.and_eq_true] at h
  exact .f _ fn a c a' c' (Bi.pur p h.1) (Bi.pur q h.2)
 | _,_,.ifc _ t v v' p,h=>by simp only [Go.Ab.pur] at h;exact .ifc _ t v v' (PR.pur p h)
 | _,_,.agg _ l l' p,h=>by simp only [Go.Ab.pur] at h;exact .agg _ l l' (Bi.pur p h)
 | _,_,.tup _ l l' p,h=>by simp only [Go.Ab.pur] at h;exact .tup _ l l' (Bi.pur p h)
theorem Bi.pur {S:Nat→Prop} {m:Nat→Nat} {g:Nat→Option BA} {n:Nat}:∀ {v v1:List V},Bi S m g n v v1→Fp v=true→Bi S m g 0 v v1
 | _,_,.nil _,_=>.nil _
 | _,_,.cons _ v v' l l' p q,h=>by
  simp only [Fp,Bool.and_eq_true] at h
  exact .cons _ _ _ _ _ (PR.pur p h.1) (Bi.pur q h.2)
end
def AH.kills (h:AH) (D:List Nat):AH:={ h with get:=fun i=>if i∈D then none else h.get i }
theorem CE.after {S T S':Nat→Prop} {m m':Nat→Nat} {h hc hc':AH} {D:List Nat} (c:CE S m h hc) (hT:∀ a,T a→S a∨∃ i,i∈D∧h.live i∧m i=a) (hST:∀ a,S a→T a) (c':CE S' m' AH.emp hc') (a':EH T m AH.emp hc S' m' AH.emp hc'):CE S' m (h.kills D) hc'∧EH S m h hc S' m (h.kills D) hc':=by
 have lt:∀ i,h.live i→i<h.next∧m i<hc.next:=fun i hi=>by
  obtain ⟨k,hk⟩:=Option.ne_none_iff_exists'.1 hi;exact ⟨(c.blk i k hk).1,(c.blk i k hk).2.1⟩
 have live:∀ i,(h.kills D).live i→h.live i∧i∉D:=fun i hi=>by
  simp only [AH.live,AH.kills] at hi
  split at hi
  ·simp at hi
  ·exact ⟨hi,by assumption⟩
 have fr:∀ a,a<hc.next→hc'.get a=hc.get a:=fun a ha=>a'.frame a ha (fun i hi=>by simp [AH.live,AH.emp] at hi)
 have pm:Hd S m hc.get h.next S' m hc'.get h.next:=⟨fun a h=>a'.sub a (hST a h),fun a ha=>fr a (c.low a ha),fun _ _=>rfl,Nat.le_refl _⟩
 have nw:∀ a,S' a→S a∨hc.next≤a∨∃ i,i∈D∧h.live i∧m i=a:=fun a ha=>by
  rcases a'.new a ha with h1 | h1 | ⟨i,hi,_⟩
  ·rcases hT a h1 with h2 | h2
   ·exact .inl h2
   ·exact .inr (.inr h2)
  ·exact .inr (.inl h1)
  ·simp [AH.live,AH.emp] at hi
 refine ⟨⟨fun i k hk=>?_,fun i j hi hj=>c.inj i j (live i hi).1 (live j hj).1,fun i hi hs=>?_,c'.low,fun i hi hl=>by rw [a'.lim1];exact c.lim i (live i hi).1 hl,c'.bnd,c.bnd2⟩,⟨fun a h=>a'.sub a (hST a h),fun a ha=>?_,fun _ _=>rfl,Nat.le_refl _,a'.next1,rfl,a'.lim1,fun a ha _=>fr a ha,fun i hi=>.inl ⟨(lt i (live i hi).1).1,(live i hi).1⟩⟩⟩
 ·have hk2:h.get i=some k:=by
   simp only [AH.kills] at hk
   split at hk
   ·simp at hk
   ·exact hk
  obtain ⟨h1,h2,cs,h3,h4⟩:=c.blk i k hk2
  exact ⟨h1,Nat.lt_of_lt_of_le h2 a'.next1,cs,by rw [fr _ h2];exact h3,h4.mono pm⟩
 ·obtain ⟨hi,hD⟩:=live i hi
  rcases nw _ hs with h1 | h1 | ⟨j,hj,hlj,he⟩
  ·exact c.off i hi h1
  ·have:=(lt i hi).2;omega
  ·exact hD (c.inj j i hlj hi he▸hj)
 ·rcases nw a ha with h1 | h1 | ⟨i,_,hi,he⟩
  ·exact .inl h1
  ·exact .inr (.inl h1)
  ·exact .inr (.inr ⟨i,hi,he⟩)
theorem Pf.go {f:Nat} {args:List V} {R:V} {h:AH} {K:V→AH→Prop} (pf:Pf tp f args R) (hp:Fp args=true) (k:FZ R→K R h):Cq tp f args h K:=by
 intro S m hc args1 c p
 refine (pf S m hc args1 (CE.emp c.low c.bnd m) (p.pur hp)).imp ?_
 rintro r1 hc' ⟨r,h',S',m',c',a',q,rfl,rfl⟩
 obtain ⟨c2,a2⟩:=c.after (D:=[]) (T:=S) (fun a h=>.inl h) (fun a h=>h) c' a'
 have e:h.kills []=h:=by simp [AH.kills]
 rw [e] at c2 a2
 exact ⟨r,h,S',m,c2,a2,q.up _ _,k ⟨_,_,_,_,_,q⟩⟩
theorem Pf.take {f:Nat} {args A:List V} {R:V} {h:AH} {K:V→AH→Prop} (D:List Nat) (pf:Pf tp f A R) (fz:BX (·∈D) h 0 args A) (k:FZ R→K R (h.kills D)):Cq tp f args h K:=by
 intro S m hc args1 c p
 have q:=BX.ok c fz p
 refine (pf _ m hc args1 (CE.emp (SP.low c) c.bnd m) q).imp ?_
 rintro r1 hc' ⟨r,h',S',m',c',a',q,rfl,rfl⟩
 obtain ⟨c2,a2⟩:=c.after (D:=D) (fun a h=>h) (fun a h=>.inl h) c' a'
 exact ⟨r,_,S',m,c2,a2,q.up _ _,k ⟨_,_,_,_,_,q⟩⟩
mutual
def flat0:V→Bool
 | .b _ | .i .. | .s _ | .np | .ns | .e0 | .nf | .ni | .u=>true
 | .agg l=>Mw l
 | .tup l=>Mw l
 | _=>false
def Mw:List V→Bool
 | []=>true
 | v::l=>flat0 v&&Mw l
end
mutual
theorem PR.flat0 {S S':Nat→Prop} {m m':Nat→Nat} {g g':Nat→Option BA} {n n':Nat}:∀ {v v1:V},PR S m g n v v1→flat0 v=true→PR S' m' g' n' v v1
 | _,_,.u _ x,_=>.u _ x
 | _,_,.b _ x,_=>.b _ x
 | _,_,.i _ k z,_=>.i _ k z
 | _,_,.s _ x,_=>.s _ x
 | _,_,.np _,_=>.np _
 | _,_,.ns _,_=>.ns _
 | _,_,.e0 _,_=>.e0 _
 | _,_,.nf _,_=>.nf _
 | _,_,.ni _,_=>.ni _
 | _,_,.p _ _ _ _ _,h=>by simp [Go.Ab.flat0] at h
 | _,_,.sl _ _ _ _ _ _,h=>by simp [Go.Ab.flat0] at h
 | _,_,.fl0 _ sz,h=>by simp [Go.Ab.flat0] at h
 | _,_,.fl1 _ sz,h=>by simp [Go.Ab.flat0] at h
 | _,_,.fl ..,h=>by simp [Go.Ab.flat0] at h
 | _,_,.fp ..,h=>by simp [Go.Ab.flat0] at h
 | _,_,.f ..,h=>by simp [Go.Ab.flat0] at h
 | _,_,.ifc ..,h=>by simp [Go.Ab.flat0] at h
 | _,_,.agg _ l l' p,h=>by simp only [Go.Ab.flat0] at h;exact .agg _ l l' (Bi.flat0 p h)
 | _,_,.tup _ l l' p,h=>by simp only [Go.Ab.flat0] at h;exact .tup _ l l' (Bi.flat0 p h)
theorem Bi.flat0 {S S':Nat→Prop} {m m':Nat→Nat} {g g':Nat→Option BA} {n n':Nat}:∀ {v v1:List V},Bi S m g n v v1→Mw v=true→Bi S' m' g' n' v v1
 | _,_,.nil _,_=>.nil _
 | _,_,.cons _ v v' l l' p q,h=>by
  simp only [Mw,Bool.and_eq_true] at h
  exact .cons _ _ _ _ _ (PR.flat0 p h.1) (Bi.flat0 q h.2)
end
theorem Pf.look {f:Nat} {args A:List V} {R:V} {h:AH} {K:V→AH→Prop} (pf:Pf tp f A R) (fz:BX (fun _=>True) h 0 args A) (hR:flat0 R=true) (k:FZ R→K R h):Cq tp f args h K:=by
 intro S m hc args1 c p
 have q:=BX.ok c fz p
 refine (pf _ m hc args1 (CE.emp (SP.low c) c.bnd m) q).imp ?_
 rintro r1 hc' ⟨r,h',S',m',c',a',q,rfl,rfl⟩
 have lt:∀ i,h.live i→i<h.next∧m i<hc.next:=fun i hi=>by
  obtain ⟨k,hk⟩:=Option.ne_none_iff_exists'.1 hi;exact ⟨(c.blk i k hk).1,(c.blk i k hk).2.1⟩
 have fr:∀ a,a<hc.next→hc'.get a=hc.get a:=fun a ha=>a'.frame a ha (fun i hi=>by simp [AH.live,AH.emp] at hi)
 have pm:Hd S m hc.get h.next S m hc'.get h.next:=⟨fun a h=>h,fun a ha=>fr a (c.low a ha),fun _ _=>rfl,Nat.le_refl _⟩
 refine ⟨r,h,S,m,⟨fun i k hk=>?_,c.inj,c.off,fun a ha=>Nat.lt_of_lt_of_le (c.low a ha) a'.next1,fun i hi hl=>by rw [a'.lim1];exact c.lim i hi hl,c'.bnd,c.bnd2⟩,⟨fun a h=>h,fun a h=>.inl h,fun _ _=>rfl,Nat.le_refl _,a'.next1,rfl,a'.lim1,fun a ha _=>fr a ha,fun i hi=>.inl ⟨(lt i hi).1,hi⟩⟩,q.flat0 hR,k ⟨_,_,_,_,_,q⟩⟩
 obtain ⟨h1,h2,cs,h3,h4⟩:=c.blk i k hk
 exact ⟨h1,Nat.lt_of_lt_of_le h2 a'.next1,cs,by rw [fr _ h2];exact h3,h4.mono pm⟩
end
end Go.Ab
/- The rules for code over values that stay, as a set for simp; slices that are one's own. -/
namespace Go.Ab
open Go
theorem Env.set_get {e:Env} {d j:Nat} {v:V}:(e.set (some d) v) j=if j=d then v else e j:=Ak rfl
theorem Env.set_none {e:Env} {v:V}:e.set none v=e:=Ak rfl
/-! ### The heap -/
def V3 {α:Type} (i n:Nat) (a b:α):α:=if i=n then a else b
theorem Ax {α:Type} {i n:Nat} {a b:α} (h:i=n):V3 i n a b=a:=if_pos h
theorem Ag {α:Type} {i n:Nat} {a b:α} (h:¬ i=n):V3 i n a b=b:=if_neg h
theorem AV {h:AH} {k:BA} {i:Nat}:(h.alloc k).get i=V3 i h.next (some k) (h.get i):=Ak rfl
theorem Ae {h:AH} {k:BA} {i j:Nat}:(h.put j k).get i=V3 i j (some k) (h.get i):=Ak rfl
theorem B4 {h:AH} {i j:Nat}:(h.kill j).get i=V3 i j none (h.get i):=Ak rfl
theorem SH {h:AH} {i:Nat}:h.raise.get i=h.get i:=Ak rfl
theorem V1 {h:AH} {i l:Nat}:(h.back l).get i=h.get i:=Ak rfl
theorem Af {h:AH} {k:BA}:(h.alloc k).next=h.next+1:=Ak rfl
theorem Ai {h:AH} {k:BA} {j:Nat}:(h.put j k).next=h.next:=Ak rfl
theorem FJ {h:AH} {j:Nat}:(h.kill j).next=h.next:=Ak rfl
theorem Jm {h:AH}:h.raise.next=h.next:=Ak rfl
theorem S9 {h:AH} {l:Nat}:(h.back l).next=h.next:=Ak rfl
theorem A9 {h:AH} {k:BA}:(h.alloc k).lim=h.lim:=Ak rfl
theorem Eb {h:AH} {k:BA} {j:Nat}:(h.put j k).lim=h.lim:=Ak rfl
theorem Xx {h:AH} {j:Nat}:(h.kill j).lim=h.lim:=Ak rfl
theorem KO {h:AH}:h.raise.lim=h.next:=Ak rfl
theorem Xw {h:AH} {l:Nat}:(h.back l).lim=l:=Ak rfl
theorem HC {h:AH} {k:BA}:(h.raise.alloc k).back h.lim=h.alloc k:=Ak rfl
theorem Gg {h:AH}:h.raise.back h.lim=h:=Ak rfl
section
variable {tp:TP} {e:Env} {h:AH}
/-! ### Code -/
def Z1 (tp:TP) (o:O) (e:Env) (h:AH) (K:V→AH→Prop) (t:Fz K:=.mk):Prop:=z1 tp o e h K
def DE (tp:TP) (o:O) (e:Env) (h:AH) (K:V→AH→Prop) (t:Fz K:=.mk):Prop:=zq1 tp o e h K
def Mc (tp:TP) (l:List TO) (e:Env) (h:AH) (K:Env→AH→Prop) (t:Fz (PProd.mk e K):=.mk):Prop:=Kx tp l e h K
def ZQ (tp:TP) (l:List TO) (e:Env) (h:AH) (K:Env→AH→Prop) (t:Fz (PProd.mk e K):=.mk):Prop:=zq tp l e h K
def ZS (tp:TP) (l:List (Bool×List TO)) (e:Env) (h:AH) (K:Env→AH→Prop) (t:Fz (PProd.mk e K):=.mk):Prop:=zs tp l e h K
def ZC (tp:TP) (c:TC) (e:Env) (h:AH) (K:Ex→Env→AH→Prop) (t:Fz (PProd.mk e K):=.mk):Prop:=zc tp c e h K
theorem bR {K:Ex→Env→AH→Prop}:ZC tp .skip e h K=K .nm e h:=Ak rfl
theorem aCt {K:Ex→Env→AH→Prop}:ZC tp .ret e h K=K .rt e h:=Ak rfl
theorem bQ {id:Nat} {K:Ex→Env→AH→Prop}:ZC tp (.exit id) e h K=K (.ex id) e h:=Ak rfl
theorem aCs {ops:List TO} {K:Ex→Env→AH→Prop}:ZC tp (.reg ops) e h K=Mc tp ops e h (fun e h=>K .nm e h):=Ak rfl
theorem bP {ops:List (Bool×List TO)} {K:Ex→Env→AH→Prop}:ZC tp (.dreg ops) e h K=ZS tp ops e h (fun e h=>K .nm e h):=Ak rfl
theorem bO {c:X} {a b:TC} {K:Ex→Env→AH→Prop}:ZC tp (.cond c a b) e h K=Wb (c.e2 e) (ZC tp a e h K) (ZC tp b e h K):=Ak rfl
theorem UN {id:Nat} {c:TC} {K:Ex→Env→AH→Prop}:ZC tp (.block id c) e h K=ZC tp c e h (fun x e h=>K (blk id x) e h):=Ak rfl
theorem aCu {a b:TC} {K:Ex→Env→AH→Prop}:ZC tp (.seq a b) e h K=ZC tp a e h (fun x e h=>TN x (ZC tp b e h K) (K x e h)):=Ak rfl
theorem Am {c d:TC} {K:Ex→Env→AH→Prop} (hcd:c=d):ZC tp c e h K=ZC tp d e h K:=by rw [hcd]
theorem BH {c:TC} {K:Ex→Env→AH→Prop} (z:ZC tp c e h (fun x e h=>TN x (ZC tp (.loop c) e h K) (K x e h))):ZC tp (.loop c) e h K:=by
 intro I hI hS
 exact hI e h (Eo (c:=c) (fun x e h=>LL (fun z=>z I hI hS) id) z)
theorem bS {c:TC} {K:Ex→Env→AH→Prop} {e2:Env} {h2:AH} (st:Stp e h e2 h2) (z:ZC tp (.loop c) e2 h2 K):ZC tp (.loop c) e h K:=fun I hI hS=>hS e h e2 h2 st (z I hI hS)
theorem Ah {c:TC} {K:Ex→Env→AH→Prop} (J:Nat→Env→AH→Prop) (round:∀ n e h,J n e h→(∀ m e' h',m<n→J m e' h'→ZC tp (.loop c) e' h' K)→ZC tp c e h (fun x e h=>TN x (ZC tp (.loop c) e h K) (K x e h))):∀ n e h,J n e h→ZC tp (.loop c) e h K:=by
 intro n
 induction n using Nat.strongRecOn with
 | _ n ih=>intro e h hj;exact BH (round n e h hj (fun m e' h' hm hj'=>ih m hm e' h' hj'))
theorem ZC.imp {c:TC} {K L:Ex→Env→AH→Prop} (z:ZC tp c e h K) (kl:∀ x e h,K x e h→L x e h):ZC tp c e h L:=Eo (c:=c) kl z
theorem Zj {v:V} {x:Bool} {A B:Prop}:(match (match v with | .b y=>some (y==x) | .tup []=>some false | _=>none:Option Bool) with | some true=>A | some false=>B | none=>False)=Wg v x A B:=by
 cases v with
 | b y=>cases y<;>cases x<;>simp [Wg]
 | tup l=>cases l<;>simp [Wg]
 | _=>simp [Wg]
theorem UO {K:Env→AH→Prop}:Mc tp [] e h K=K e h:=Ak rfl
theorem UP {d:Option Nat} {o:O} {r:List TO} {K:Env→AH→Prop}:Mc tp (⟨d,o,none⟩::r) e h K=Z1 tp o e h (fun v h=>Mc tp r (e.set d v) h K):=Ak rfl
theorem aCv {d:Option Nat} {o:O} {t:Nat} {x:Bool} {r:List TO} {K:Env→AH→Prop}:Mc tp (⟨d,o,some (t,x)⟩::r) e h K=Wg (e t) x (Z1 tp o e h (fun v h=>Mc tp r (e.set d v) h K)) (Mc tp r (e.set d (.tup [])) h K):=by
 exact Zj
theorem aCF {K:Env→AH→Prop}:ZS tp [] e h K=K e h:=Ak rfl
theorem aCE {l:List TO} {r:List (Bool×List TO)} {K:Env→AH→Prop}:ZS tp ((false,l)::r) e h K=Mc tp l e h (fun e h=>ZS tp r e h K):=Ak rfl
theorem U5 {l:List TO} {r:List (Bool×List TO)} {K:Env→AH→Prop}:ZS tp ((true,l)::r) e h K=ZQ tp l e h (fun e h=>ZS tp r e h K):=Ak rfl
theorem aCC {K:Env→AH→Prop}:ZQ tp [] e h K=K e h:=Ak rfl
theorem aCD {d:Option Nat} {o:O} {r:List TO} {K:Env→AH→Prop}:ZQ tp (⟨d,o,none⟩::r) e h K=DE tp o e h (fun v h=>ZQ tp r (e.set d v) h K):=Ak rfl
theorem aRv {d:Option Nat} {o:O} {t:Nat} {x:Bool} {r:List TO} {K:Env→AH→Prop}:ZQ tp (⟨d,o,some (t,x)⟩::r) e h K=Wg (e t) x (DE tp o e h (fun v h=>ZQ tp r (e.set d v) h K)) (ZQ tp r (e.set d (.tup [])) h K):=by
 exact Zj
end
/-! ### Operations one by one -/
theorem aRz {e:Env} {n:Nat}:(X.t n).e2 e=e n:=Ak rfl
theorem aPy {e:Env} {k:IntKind} {n:Int}:(X.c (.i k n)).e2 e=.i k n:=Ak rfl
theorem aPx {e:Env} {x:Bool}:(X.c (.b x)).e2 e=.b x:=Ak rfl
theorem aPz {e:Env} {x:ByteArray}:(X.c (.s x)).e2 e=.s x:=Ak rfl
theorem aPC {e:Env}:(X.c .np).e2 e=.np:=Ak rfl
theorem aPD {e:Env}:(X.c .ns).e2 e=.ns:=Ak rfl
theorem aPA {e:Env}:(X.c .nf).e2 e=.nf:=Ak rfl
theorem aPB {e:Env}:(X.c .ni).e2 e=.ni:=Ak rfl
theorem aCS {e:Env} {l:List V} (hl:l.all plain1=true):(X.c (.agg l)).e2 e=.agg l:=by simp [X.e2,plain,hl]
theorem oF {e:Env} {f:Nat}:(X.fn f).e2 e=.f (.func f) [] []:=Ak rfl
theorem XT {k:IntKind} {n:Int}:plain1 (.i k n)=true:=Ak rfl
theorem XS {x:Bool}:plain1 (.b x)=true:=Ak rfl
theorem XU {x:ByteArray}:plain1 (.s x)=true:=Ak rfl
theorem Tf:plain1 .np=true:=Ak rfl
theorem Tg:plain1 .ns=true:=Ak rfl
theorem Td:plain1 .nf=true:=Ak rfl
theorem Te:plain1 .ni=true:=Ak rfl
section
variable {tp:TP} {e:Env} {h:AH} {K:V→AH→Prop}
def asB:V→Option Bool | .b x=>some x | _=>none
theorem aPt {x:Bool}:asB (.b x)=some x:=Ak rfl
theorem aPq {x:X}:Z1 tp (.mv x) e h K=Wv (x.e2 e) (fun v=>K v h):=by
 unfold Z1;simp only [z1,Bj,Ad,AQ,Gx]
theorem bK {c a b:X}:Z1 tp (.pick c a b) e h K=Wo (asB (c.e2 e)) (fun t=>Wv (if t then a.e2 e else b.e2 e) (fun v=>K v h)):=by
 unfold Z1;simp only [z1,Bj,Ad,asB]
 cases c.e2 e<;>simp only [AQ,AX,Gx]
theorem Iy {z:List V}:Z1 tp (.alloc z) e h K=(z.all plain1=true∧Wv (.p h.next 0 0) (fun v=>Wv (h.alloc ⟨z.length,[z]⟩) (fun h'=>K v h'))):=by
 unfold Z1;simp only [z1,Bj,Ad,Cb,AQ,Gx]
theorem O2 {x:X}:Z1 tp (.box x) e h K=((x.e2 e).cells.all V.isCell=true∧Wv (.p h.next 0 0) (fun v=>Wv (h.alloc ⟨(x.e2 e).cells.length,[(x.e2 e).cells]⟩) (fun h'=>K v h'))):=by
 unfold Z1;simp only [z1,Bj,Ad,Cb,AQ,Gx]
theorem UH {z:List V} {ps:List (Nat×Nat×X)}:Z1 tp (.build z ps) e h K=(z.all plain1=true∧Wo (Ez z (ps.map fun q=>(q.1,q.2.1,q.2.2.e2 e))) (fun r=>K (.agg r) h)):=by
 unfold Z1;simp only [z1,Bj,Ad,Cb,Be]
theorem O3 {sz n:Nat} {z:List V} {ps:List (Nat×X)}:Z1 tp (.bsl sz z n ps) e h K=((z.all plain1=true∧n<4294967296)∧Wo (B3 sz (List.replicate n z) (ps.map fun q=>(q.1,q.2.e2 e))) (fun r=>Wv (.sl h.next 0 n n) (fun v=>Wv (h.alloc ⟨sz,r⟩) (fun h'=>K v h')))):=by
 unfold Z1;simp only [z1,Bj,Ad];rw [Cb,Be];rfl
theorem Lc {sz n:Nat} {z:List V} {ps:List (Nat×X)}:Z1 tp (.bslc sz z n ps) e h K=((z.all plain1=true∧n<4294967296)∧Wo (B3 sz (List.replicate n z) (ps.map fun q=>(q.1,q.2.e2 e))) (fun r=>Wv (.sl h.next 0 n n) (fun v=>Wv (h.alloc ⟨sz,r⟩) (fun h'=>K v h')))):=by
 unfold Z1;simp only [z1,Bj,Ad];rw [Cb,Be];rfl
def aCb (sz n:Nat) (z:List V) (ps:List (Nat×V)) (y:V) (h:AH) (K:V→AH→Prop) (t:Fz K:=.mk):Prop:=match y with
 | .sl id el len cap=>Wo (B3 sz (List.replicate n z) ps) (fun r=>h.get id=some ⟨sz,r⟩∧(el=0∧len=n∧cap=n)∧Ba r r=true∧Wv V.u (fun v=>K v h))
 | _=>False
theorem aP {sz n id el len cap:Nat} {z:List V} {ps:List (Nat×V)}:aCb sz n z ps (.sl id el len cap) h K=Wo (B3 sz (List.replicate n z) ps) (fun r=>h.get id=some ⟨sz,r⟩∧(el=0∧len=n∧cap=n)∧Ba r r=true∧Wv V.u (fun v=>K v h)):=Ak rfl
theorem bA {sz n:Nat} {z:List V} {ps:List (Nat×X)} {y:X}:Z1 tp (.chkb sz z n ps y) e h K=(z.all plain1=true∧aCb sz n z (ps.map fun q=>(q.1,q.2.e2 e)) (y.e2 e) h K):=by
 unfold Z1;simp only [z1,Bj,Cb]
 congr 1
 simp only [Ad]
 generalize y.e2 e=v
 cases v<;>simp only [aCb,AX]
 rename_i id el len cap
 rw [Bq]
 refine EL fun r=>?_
 apply propext
 constructor
 ·rintro ⟨⟨v,h'⟩,h1,k⟩
  simp only [Option.bind_eq_some_iff] at h1
  obtain ⟨b,hb,h1⟩:=h1
  split at h1
  case isFalse=>simp at h1
  rename_i hs
  simp at h1
  obtain ⟨rfl,rfl⟩:=h1
  obtain ⟨e1,e2,e3,e4,e5⟩:=hs
  have:=Dw e5
  subst this
  obtain ⟨s,cs⟩:=b
  simp only at e4 e5 hb
  subst e4
  exact ⟨hb,⟨e1,e2,e3⟩,e5,k⟩
 ·rintro ⟨hb,⟨e1,e2,e3⟩,e5,k⟩
  exact ⟨(.u,h),by rw [hb];simp only [Option.bind_some];rw [if_pos ⟨e1,e2,e3,trivial,e5⟩],k⟩
theorem O0 {z:List V}:Z1 tp (.alc z) e h K=(z.all plain1=true∧Wv (.p h.next 0 0) (fun v=>Wv (h.alloc ⟨z.length,[z]⟩) (fun h'=>K v h'))):=by
 unfold Z1;simp only [z1,Bj,Ad];rw [Cb,AQ];rfl
def aB9 (z:List V) (y:V) (h:AH) (K:V→AH→Prop) (t:Fz K:=.mk):Prop:=match y with
 | .p id el off=>h.get id=some ⟨z.length,[z]⟩∧(el=0∧off=0)∧Ba [z] [z]=true∧Wv V.u (fun v=>K v h)
 | _=>False
theorem aCa {id el off:Nat} {z:List V}:aB9 z (.p id el off) h K=(h.get id=some ⟨z.length,[z]⟩∧(el=0∧off=0)∧Ba [z] [z]=true∧Wv V.u (fun v=>K v h)):=Ak rfl
theorem aZ {z:List V} {y:X}:Z1 tp (.chka z y) e h K=(z.all plain1=true∧aB9 z (y.e2 e) h K):=by
 unfold Z1;simp only [z1,Bj,Cb]
 congr 1
 simp only [Ad]
 generalize y.e2 e=v
 cases v<;>simp only [aB9,AX]
 rename_i id el off
 apply propext
 constructor
 ·rintro ⟨⟨v,h'⟩,h1,k⟩
  simp only [Option.bind_eq_some_iff] at h1
  obtain ⟨b,hb,h1⟩:=h1
  split at h1
  case isFalse=>simp at h1
  rename_i hs
  simp at h1
  obtain ⟨rfl,rfl⟩:=h1
  obtain ⟨e1,e2,e3,e5⟩:=hs
  obtain ⟨s,cs⟩:=b
  simp only at e3 e5 hb
  have:=Dw e5
  subst this
  subst e3
  exact ⟨hb,⟨e1,e2⟩,e5,k⟩
 ·rintro ⟨hb,⟨e1,e2⟩,e5,k⟩
  exact ⟨(.u,h),by rw [hb];simp only [Option.bind_some];rw [if_pos ⟨e1,e2,trivial,e5⟩],k⟩
theorem LW:Ba [] []=true:=Ak rfl
theorem Kv {a b:List V} {l m:List (List V)}:Ba (a::l) (b::m)=(Bp a b&&Ba l m):=Ak rfl
theorem Nk:Bp [] []=true:=Ak rfl
theorem LV {a b:V} {l m:List V}:Bp (a::l) (b::m)=(sameV a b&&Bp l m):=Ak rfl
theorem aPn:Z1 tp .e0 e h K=K .e0 h:=by unfold Z1;simp only [z1,Bj,Ad,AQ]
def Zr (k:Option BA) (el off n:Nat) (agg:Bool):Option V:=k.bind fun k=>(k.cs[el]?).bind fun r=>Hn r off n agg
def Zs (h:AH) (n:Nat) (agg:Bool):V→Option V | .p id el off=>Zr (h.get id) el off n agg | .fp _ xs j off=>ldF n agg xs j off | _=>none
theorem aPX {id el off n:Nat} {agg:Bool}:Zs h n agg (.p id el off)=Zr (h.get id) el off n agg:=Ak rfl
theorem aEo {s j off n:Nat} {xs:List (List V)} {agg:Bool}:Zs h n agg (.fp s xs j off)=(xs[j]?).bind fun r=>Hn r off n agg:=Ak rfl
theorem Xu {sz el off n:Nat} {cs:List (List V)} {agg:Bool}:Zr (some ⟨sz,cs⟩) el off n agg=(cs[el]?).bind fun r=>Hn r off n agg:=Ak rfl
theorem Vz {n:Nat} {agg:Bool} {x:X} {ev:X→V}:Bj tp (.load n agg x) ev h=(Zs h n agg (ev x)).map fun v=>(v,h):=by
 simp only [Bj,Ad]
 cases ev x<;>simp only [Zs,Zr]<;>try rfl
 rename_i id el off
 cases h.get id with
 | none=>rfl
 | some k=>
  simp only [Option.bind_some]
  cases k.cs[el]?<;>rfl
theorem Sy {n:Nat} {ag:Bool} {x:X} {ev:X→V}:Bj tp (.fload n ag x) ev h=(Zs h n ag (ev x)).map fun v=>(v,h):=by
 simp only [Bj,Ad]
 cases ev x<;>simp only [Zs,Zr]<;>try rfl
 rename_i id el off
 cases h.get id with
 | none=>rfl
 | some k=>
  simp only [Option.bind_some]
  cases k.cs[el]?<;>rfl
theorem Ld {n:Nat} {agg:Bool} {x:X}:Z1 tp (.load n agg x) e h K=Wo (Zs h n agg (x.e2 e)) (fun v=>K v h):=by
 unfold Z1;simp only [z1,Vz,Be]
theorem UL {n:Nat} {ag:Bool} {x:X}:Z1 tp (.fload n ag x) e h K=Wo (Zs h n ag (x.e2 e)) (fun v=>K v h):=by
 unfold Z1;simp only [z1,Sy,Be]
def aCO (h:AH) (n:Nat) (ag:Bool):V→Option V | .p id el off=>Zr (h.get id) el off n ag | _=>none
theorem aCP {id el off n:Nat} {ag:Bool}:aCO h n ag (.p id el off)=Zr (h.get id) el off n ag:=Ak rfl
theorem aCf {n:Nat} {ag:Bool} {x y:X}:Z1 tp (.chk n ag x y) e h K=Wo (aCO h n ag (x.e2 e)) (fun v=>Wo (if BQ v (y.e2 e)=true then some V.u else none) (fun u=>K u h)):=by
 unfold Z1;simp only [z1,Bj,Ad,aCO,Zr]
 cases x.e2 e<;>simp only [AX]
 rw [Bq,Bq]
 refine EL fun k=>?_
 rw [Bq,Bq]
 refine EL fun r=>?_
 rw [Bq]
 refine EL fun v=>?_
 split<;>simp only [AX,AQ]
theorem Qv {l m:List V}:BQ (.agg l) (.agg m)=Bp l m:=Ak rfl
theorem sameVa_sl {a b c d:Nat}:BQ (.sl a b c d) (.sl a b c d)=true:=by simp [BQ,sameV]
theorem Yp {a b c:Nat}:BQ (.p a b c) (.p a b c)=true:=by simp [BQ,sameV]
theorem Tu:BQ .ns .ns=true:=Ak rfl
theorem Yn {x:Bool}:BQ (.b x) (.b x)=true:=by simp [BQ,sameV]
theorem Yo {k:IntKind} {n:Int}:BQ (.i k n) (.i k n)=true:=by simp [BQ,sameV]
theorem Ym {a b c d:Nat}:sameV (.sl a b c d) (.sl a b c d)=true:=by simp [sameV]
theorem iS {a b c:Nat}:sameV (.p a b c) (.p a b c)=true:=by simp [sameV]
theorem Yl:sameV .ns .ns=true:=Ak rfl
theorem iQ {x:Bool}:sameV (.b x) (.b x)=true:=by simp [sameV]
theorem iR {k:IntKind} {n:Int}:sameV (.i k n) (.i k n)=true:=by simp [sameV]
def ML (g:Option BA) (l id el len cap:Nat):Option V:=if g.isSome=true∧l≤id∧0<cap then some (.sl id el len cap) else none
def Xz (h:AH):V→Option V | .sl id el len cap=>ML (h.get id) h.lim id el len cap | _=>none
theorem XA {id el len cap:Nat}:Xz h (.sl id el len cap)=ML (h.get id) h.lim id el len cap:=Ak rfl
theorem Xy {k:BA} {l id el len cap:Nat} (h1:l≤id) (h2:0<cap):ML (some k) l id el len cap=some (.sl id el len cap):=by simp [ML,h1,h2]
theorem bG {x:X}:Z1 tp (.mark x) e h K=Wo (Xz h (x.e2 e)) (fun v=>K v h):=by
 unfold Z1;simp only [z1,Bj,Ad,Xz,ML]
 cases x.e2 e<;>simp only [AX]
 split<;>simp only [AX,AQ]
def Wst (tp:TP) (n:Nat) (p v:V) (h:AH) (K:AH→Prop) (t:Fz K:=.mk):Prop:=match p with
 | .p id el off=>(h.lim≤id∧0<n∧v.cells.length=n∧v.cells.all V.isCell=true)∧Wo (h.get id) (fun k=>Wo (k.cs[el]?) (fun r=>off+n≤r.length∧Wv (h.put id ⟨k.sz,k.cs.set el (over r off v.cells)⟩) K))
 | _=>False
def aCc (tp:TP) (l n id el off:Nat) (v:V) (h:AH) (K:AH→Prop) (t:Fz K:=.mk):Prop:=(l≤id∧0<n∧v.cells.length=n∧v.cells.all V.isCell=true)∧Wo (h.get id) (fun k=>Wo (k.cs[el]?) (fun r=>off+n≤r.length∧Wv (h.put id ⟨k.sz,k.cs.set el (over r off v.cells)⟩) K))
theorem aPm {n id el off:Nat} {v:V} {K:AH→Prop}:Wst tp n (.p id el off) v h K=aCc tp h.lim n id el off v h K:=Ak rfl
theorem aX {l n id el off:Nat} {v:V} {K:AH→Prop} (hl:l≤id):aCc tp l n id el off v h K=((0<n∧v.cells.length=n∧v.cells.all V.isCell=true)∧Wo (h.get id) (fun k=>Wo (k.cs[el]?) (fun r=>off+n≤r.length∧Wv (h.put id ⟨k.sz,k.cs.set el (over r off v.cells)⟩) K))):=by
 simp only [aCc,hl,true_and]
theorem UM {n:Nat} {a x:X}:Z1 tp (.store n a x) e h K=Wst tp n (a.e2 e) (x.e2 e) h (K .u):=by
 unfold Z1;simp only [z1,Bj,Ad,Wst]
 cases a.e2 e<;>simp only [AX]
 rw [Cb,Bq]
 congr 1
 refine EL fun k=>?_
 rw [Bq]
 refine EL fun r=>?_
 rw [Cb,AQ];rfl
def dU:Option TX→V→Option V | some ⟨_,none⟩,v=>some v | _,_=>none
theorem Sx {q:Nat} {v:V}:dU (some ⟨q,none⟩) v=some v:=Ak rfl
def Ia (tp:TP):V→Option V | .p id el off=>some (.p id el off) | .fp s xs j o=>some (.fp s xs j o) | .ifc t v=>some (.ifc t v) | .f (.func g) a b=>some (.f (.func g) a b) | .f (.method m) (.ifc t v::r) b=>dU (tp.meth t m) (.f (.method m) (.ifc t v::r) b) | _=>none
theorem aEt {a b c:Nat}:Ia tp (.p a b c)=some (.p a b c):=Ak rfl
theorem gN {s j o:Nat} {xs:List (List V)}:Ia tp (.fp s xs j o)=some (.fp s xs j o):=Ak rfl
theorem XF {t:Nat} {v:V}:Ia tp (.ifc t v)=some (.ifc t v):=Ak rfl
theorem aEr {g:Nat} {a b:List V}:Ia tp (.f (.func g) a b)=some (.f (.func g) a b):=Ak rfl
theorem aEs {m:String} {t:Nat} {v:V} {r b:List V}:Ia tp (.f (.method m) (.ifc t v::r) b)=dU (tp.meth t m) (.f (.method m) (.ifc t v::r) b):=Ak rfl
theorem gO {m:String} {t:Nat} {v:V}:(if tp.dir t m=true then some (v,h) else none)=(dU (tp.meth t m) v).map fun v=>(v,h):=by
 unfold TP.dir
 cases tp.meth t m with
 | none=>rfl
 | some q=>obtain ⟨q,a⟩:=q;cases a<;>rfl
theorem aCp {x:X}:Z1 tp (.nck x) e h K=Wo (Ia tp (x.e2 e)) (fun v=>K v h):=by
 unfold Z1;simp only [z1,Bj,Ad]
 generalize x.e2 e=v
 cases v with
 | f g a b=>
  cases g with
  | func g=>simp only [Ia,AQ]
  | method m=>
   cases a with
   | nil=>simp only [Ia,AX]
   | cons w r=>cases w<;>first | (simp only [Ia,gO,Be];done) | simp only [Ia,AX]
  | _=>simp only [Ia,AX]
 | _=>simp only [Ia,AQ,AX]
theorem aCe {op:BinOp} {x y:X}:Z1 tp (.bin op x y) e h K=Wo (BE op (x.e2 e) (y.e2 e)) (fun v=>K v h):=by unfold Z1;simp only [z1,Bj,Ad,Be]
theorem Iz {n:Bool} {k:EK} {x y:X} (hk:k≠.sl):Z1 tp (.eq n k x y) e h K=Wo (ES k (x.e2 e) (y.e2 e)) (fun r=>Wv (.b (if n then !r else r)) (fun v=>K v h)):=by
 unfold Z1;cases k<;>first | (exact absurd rfl hk) | (simp only [z1,Bj,Ad,Be];rfl)
theorem aCg {n:Bool} {x y:X}:Z1 tp (.eq n .b x y) e h K=Wo (ES .b (x.e2 e) (y.e2 e)) (fun r=>Wv (.b (if n then !r else r)) (fun v=>K v h)):=Iz (by simp)
theorem UK {n:Bool} {x y:X}:Z1 tp (.eq n .ptr x y) e h K=Wo (ES .ptr (x.e2 e) (y.e2 e)) (fun r=>Wv (.b (if n then !r else r)) (fun v=>K v h)):=Iz (by simp)
theorem bC {n:Bool} {x y:X}:Z1 tp (.eq n .fn x y) e h K=Wo (ES .fn (x.e2 e) (y.e2 e)) (fun r=>Wv (.b (if n then !r else r)) (fun v=>K v h)):=Iz (by simp)
theorem UJ {n:Bool} {x y:X}:Z1 tp (.eq n .ifc x y) e h K=Wo (ES .ifc (x.e2 e) (y.e2 e)) (fun r=>Wv (.b (if n then !r else r)) (fun v=>K v h)):=Iz (by simp)
theorem UI {n:Bool} {ks:List CK} {x y:X}:Z1 tp (.eq n (.agg ks) x y) e h K=Wo (ES (.agg ks) (x.e2 e) (y.e2 e)) (fun r=>Wv (.b (if n then !r else r)) (fun v=>K v h)):=Iz (by simp)
def Ma (neg:Bool) (v w:V) (h:AH) (K:V→AH→Prop) (t:Fz K:=.mk):Prop:=QF neg v w h K
theorem bD {n:Bool} {x y:X}:Z1 tp (.eq n .sl x y) e h K=Ma n (x.e2 e) (y.e2 e) h K:=Ak rfl
theorem aU {n:Bool} {s:Nat} {xs:List (List V)}:Ma n (.fl s xs) .ns h K=∀ t:Bool,(xs≠[]→t=false)→Wv (.b (if n then !t else t)) (fun v=>K v h):=Ak rfl
theorem aV {n:Bool}:Ma n .ns .ns h K=Wv (.b (if n then false else true)) (fun v=>K v h):=by
 unfold Ma QF;simp only [ES,AQ,Bool.not_true];rfl
theorem aS {n:Bool}:Ma n .e0 .ns h K=Wv (.b (if n then true else false)) (fun v=>K v h):=by
 unfold Ma QF;simp only [ES,AQ,Bool.not_false];rfl
theorem aW {n:Bool} {a b c d:Nat}:Ma n (.sl a b c d) .ns h K=Wv (.b (if n then true else false)) (fun v=>K v h):=by
 unfold Ma QF;simp only [ES,AQ,Bool.not_false];rfl
theorem aPs {op:UnOp} {x:X}:Z1 tp (.un op x) e h K=Wo (oP op (x.e2 e)) (fun v=>K v h):=by unfold Z1;simp only [z1,Bj,Ad,Be]
def Vs (k:IntKind):V→Option V | .i _ n=>some (.i k (k.wrap n)) | _=>none
theorem dQ {k j:IntKind} {n:Int}:Vs k (.i j n)=some (.i k (k.wrap n)):=Ak rfl
theorem bB {k:IntKind} {x:X}:Z1 tp (.conv k x) e h K=Wo (Vs k (x.e2 e)) (fun v=>K v h):=by
 unfold Z1;simp only [z1,Bj,Ad,Vs]
 cases x.e2 e<;>simp only [AQ,AX]
def Yx:V→Option V | .s x=>some (.s x) | _=>none
theorem jA {x:ByteArray}:Yx (.s x)=some (.s x):=Ak rfl
theorem bN {x:X}:Z1 tp (.strs x) e h K=Wo (Yx (x.e2 e)) (fun v=>K v h):=by
 unfold Z1;simp only [z1,Bj,Ad,Yx]
 cases x.e2 e<;>simp only [AQ,AX]
def aEd:V→Option V | .i _ n=>some (.s (Utf8.encode n)) | _=>none
theorem aEe {k:IntKind} {n:Int}:aEd (.i k n)=some (.s (Utf8.encode n)):=Ak rfl
theorem aCk {x:X}:Z1 tp (.i2s x) e h K=Wo (aEd (x.e2 e)) (fun v=>K v h):=by
 unfold Z1;simp only [z1,Bj,Ad,aEd]
 cases x.e2 e<;>simp only [AQ,AX]
def asS:V→Option ByteArray | .s x=>some x | _=>none
theorem aPu {x:ByteArray}:asS (.s x)=some x:=Ak rfl
theorem O4 {x:X}:Z1 tp (.s2b x) e h K=Wo (asS (x.e2 e)) (fun b=>b.size<4294967296∧Wv (.sl h.next 0 b.size b.size) (fun v=>Wv (h.alloc ⟨1,BU b⟩) (fun h'=>K v h'))):=by
 unfold Z1;simp only [z1,Bj,Ad,asS]
 cases hx:x.e2 e<;>simp only [AQ,AX]
 rw [Cb,AQ];rfl
def Fr (sz:Nat) (h:AH) (v:V):Option (List (List V)):=Ej sz h v
theorem Yf {sz:Nat} {xs:List (List V)}:Fr sz h (.fl sz xs)=some xs:=by simp [Fr,Ej]
theorem Yg {sz:Nat}:Fr sz h .ns=some []:=Ak rfl
theorem Ye {sz:Nat}:Fr sz h .e0=some []:=Ak rfl
theorem iO {x:ByteArray}:Fr 1 h (.s x)=some (BU x):=Ak rfl
def KX (g:Option BA) (sz el len:Nat):Option (List (List V)):=match g with
 | some k=>if k.sz=sz∧el+len≤k.cs.length then some ((k.cs.drop el).take len) else none
 | none=>none
theorem Nh {sz id el len cap:Nat}:Fr sz h (.sl id el len cap)=KX (h.get id) sz el len:=Ak rfl
theorem Qq {sz el len:Nat} {cs:List (List V)}:KX (some ⟨sz,cs⟩) sz el len=if el+len≤cs.length then some ((cs.drop el).take len) else none:=by simp [KX]
theorem Yb {sz el len:Nat} {cs:List (List V)} (hl:el+len≤cs.length):KX (some ⟨sz,cs⟩) sz el len=some ((cs.drop el).take len):=by simp [KX,hl]
def Mf (h:AH) (v:V):Option V:=match v with | .s _=>none | v=>(Fr 1 h v).bind fun l=>(bytesOf? l).map fun r=>.s ⟨r.toArray⟩
theorem cS {xs:List (List V)}:Mf h (.fl 1 xs)=(bytesOf? xs).map fun r=>.s ⟨r.toArray⟩:=by simp [Mf,Fr,Ej]
theorem cT:Mf h .ns=some (.s ⟨#[]⟩):=Ak rfl
theorem cU {id el len cap:Nat}:Mf h (.sl id el len cap)=(KX (h.get id) 1 el len).bind fun l=>(bytesOf? l).map fun r=>.s ⟨r.toArray⟩:=Ak rfl
theorem O1 {x:X}:Z1 tp (.b2s x) e h K=Wo (Mf h (x.e2 e)) (fun v=>K v h):=by
 unfold Z1;simp only [z1,Bj,Ad,Mf,Fr,Ej]
 cases x.e2 e<;>simp only [AX]
 case fl s xs=>
  split
  ·rw [Be,Option.bind_some,Be]
  ·simp only [Option.bind_none,AX]
 all_goals (rw [Bq,Bq];refine EL fun a=>?_;rw [Be,Be])
theorem bI {t:Nat} {x:X}:Z1 tp (.mkif t x) e h K=Wv (.ifc t (x.e2 e)) (fun v=>K v h):=by unfold Z1;simp only [z1,Bj,Ad,AQ,Gx]
theorem bH {fn:Fn} {a c:List X}:Z1 tp (.mkfn fn a c) e h K=Wv (.f fn (a.map (X.e2 e)) (c.map (X.e2 e))) (fun v=>K v h):=by unfold Z1;simp only [z1,Bj,Ad,AQ,Gx]
def Wmk (z:List V) (n c:V) (h:AH) (K:V→AH→Prop) (t:Fz K:=.mk):Prop:=match n,c with
 | .i _ a,.i _ m=>(0≤a∧a≤m∧m<A4)∧Wv (.sl h.next 0 a.toNat m.toNat) (fun v=>Wv (h.alloc ⟨z.length,List.replicate m.toNat z⟩) (fun h'=>K v h'))
 | _,_=>False
theorem aPk {z:List V} {k j:IntKind} {a m:Int}:Wmk z (.i k a) (.i j m) h K=((0≤a∧a≤m∧m<4294967296)∧Wv (.sl h.next 0 a.toNat m.toNat) (fun v=>Wv (h.alloc ⟨z.length,List.replicate m.toNat z⟩) (fun h'=>K v h'))):=Ak rfl
theorem bJ {z:List V} {n c:X}:Z1 tp (.mksl z n c) e h K=(z.all plain1=true∧Wmk z (n.e2 e) (c.e2 e) h K):=by
 unfold Z1;simp only [z1,Bj,Ad,Cb]
 congr 1
 generalize n.e2 e=v
 generalize c.e2 e=w
 cases v<;>cases w<;>simp only [Wmk,AX,Cb,AQ,Gx]
def Wmz (z:List V) (x n:V) (h:AH) (K:V→AH→Prop) (t:Fz K:=.mk):Prop:=match x,n with
 | .ns,.i _ a=>(0<a∧a<A4)∧Wv (.sl h.next 0 a.toNat a.toNat) (fun v=>Wv (h.alloc ⟨z.length,List.replicate a.toNat z⟩) (fun h'=>K v h'))
 | _,_=>False
theorem aPl {z:List V} {k:IntKind} {a:Int}:Wmz z .ns (.i k a) h K=((0<a∧a<4294967296)∧Wv (.sl h.next 0 a.toNat a.toNat) (fun v=>Wv (h.alloc ⟨z.length,List.replicate a.toNat z⟩) (fun h'=>K v h'))):=Ak rfl
theorem aY {z:List V} {x n:X}:Z1 tp (.appz z x n) e h K=(z.all plain1=true∧Wmz z (x.e2 e) (n.e2 e) h K):=by
 unfold Z1;simp only [z1,Bj,Ad,Cb]
 congr 1
 generalize x.e2 e=v
 generalize n.e2 e=w
 cases v<;>cases w<;>simp only [Wmz,AX,Cb,AQ,Gx]
def GW (g:Option BA) (sz:Nat) (x:V) (lo hi mx:Option V):Option V:=match x with
    | .ns=>if mx.isNone||hi.isSome then (AG mx 0 0).bind fun m=>(AG hi 0 m).bind fun t=>(AG lo 0 t).map fun _=>.ns else none
    | .e0=>if mx.isNone||hi.isSome then (AG mx 0 0).bind fun m=>(AG hi 0 m).bind fun t=>(AG lo 0 t).map fun _=>.e0 else none
    | .sl id el len cap=>
     g.bind fun k=>
      if k.sz=sz∧(mx.isNone||hi.isSome)=true∧len≤cap then
       (AG mx cap cap).bind fun m=>(AG hi len m).bind fun t=>(AG lo 0 t).map fun l=>.sl id (el+l) (t - l) (m - l)
      else none
    | .fl s xs=>if s=sz∧(mx.isNone||hi.isSome)=true then (AG mx xs.length xs.length).bind fun m=>(AG hi xs.length m).bind fun t=>(AG lo 0 t).map fun l=>.fl s ((xs.drop l).take (t - l)) else none
    | _=>none
def Ar:V→Nat | .sl id _ _ _=>id | .p id _ _=>id | _=>0
def Cx:V→Nat | .sl _ el _ _=>el | _=>0
theorem aEk {a b c d:Nat}:Ar (.sl a b c d)=a:=Ak rfl
theorem aCT {a b c d:Nat}:Cx (.sl a b c d)=b:=Ak rfl
theorem aPR {a b c:Nat}:Ar (.p a b c)=a:=Ak rfl
theorem iX {g:Option BA} {s:Nat} {xs:List (List V)} {lo hi:Option V}:GW g s (.fl s xs) lo hi none=(AG hi xs.length xs.length).bind fun t=>(AG lo 0 t).map fun l=>.fl s ((xs.drop l).take (t - l)):=by
 simp [GW,AG]
theorem Ys {g:Option BA} {s:Nat} {xs:List (List V)} {lo:Option V} {hi mx:V}:GW g s (.fl s xs) lo (some hi) (some mx)=(AG (some mx) xs.length xs.length).bind fun m=>(AG (some hi) xs.length m).bind fun t=>(AG lo 0 t).map fun l=>.fl s ((xs.drop l).take (t - l)):=by
 simp [GW]
theorem Sz {sz:Nat} {x:X} {lo hi mx:Option X} {ev:X→V}:Bj tp (.slice sz x lo hi mx) ev h=(GW (h.get (Ar (ev x))) sz (ev x) (lo.map ev) (hi.map ev) (mx.map ev)).map fun v=>(v,h):=by
 have two:∀ (a b c:Option V) (p q r:Nat) (F:Nat→Nat→Nat→V),((AG a p q).bind fun m=>(AG b r m).bind fun t=>(AG c 0 t).map fun l=>(F m t l,h))=((AG a p q).bind fun m=>(AG b r m).bind fun t=>(AG c 0 t).map fun l=>F m t l).map (fun v=>(v,h)):=by
  intro a b c p q r F
  cases AG a p q with
  | none=>rfl
  | some m=>
   simp only [Option.bind_some]
   cases AG b r m with
   | none=>rfl
   | some t=>
    simp only [Option.bind_some]
    cases AG c 0 t<;>rfl
 simp only [Bj,Ad]
 cases ev x<;>simp only [GW,Option.map_none,Option.isNone_map,Option.isSome_map,Ar]
 ·split
  ·exact two _ _ _ _ _ _ (fun _ _ _=>V.ns)
  ·rfl
 ·split
  ·exact two _ _ _ _ _ _ (fun _ _ _=>V.e0)
  ·rfl
 ·rename_i id el len cap
  cases h.get id with
  | none=>rfl
  | some k=>
   simp only [Option.bind_some]
   split
   ·exact two _ _ _ _ _ _ (fun m t l=>V.sl id (el+l) (t - l) (m - l))
   ·rfl
 ·rename_i s xs
  split
  ·exact two _ _ _ _ _ _ (fun m t l=>V.fl s ((xs.drop l).take (t - l)))
  ·rfl
theorem IA {sz:Nat} {x:X} {lo hi mx:Option X}:Z1 tp (.slice sz x lo hi mx) e h K=Wo (GW (h.get (Ar (x.e2 e))) sz (x.e2 e) (lo.map (X.e2 e)) (hi.map (X.e2 e)) (mx.map (X.e2 e))) (fun v=>K v h):=by
 unfold Z1;simp only [z1,Sz,Be]
def aEW (x:V) (lo hi:Option V):Option V:=match x with
    | .s x=>(AG hi x.size x.size).bind fun t=>(AG lo 0 t).map fun l=>.s (x.extract l t)
    | _=>none
theorem aEX {x:ByteArray} {lo hi:Option V}:aEW (.s x) lo hi=(AG hi x.size x.size).bind fun t=>(AG lo 0 t).map fun l=>.s (x.extract l t):=Ak rfl
theorem RY {x:X} {lo hi:Option X}:Z1 tp (.sslice x lo hi) e h K=Wo (aEW (x.e2 e) (lo.map (X.e2 e)) (hi.map (X.e2 e))) (fun v=>K v h):=by
 unfold Z1;simp only [z1,Bj,Ad,aEW]
 cases x.e2 e<;>simp only [AX]
 rw [Bq,Bq]
 refine EL fun t=>?_
 rw [Be,Be]
def dY (off:Nat):V→Option V | .p id el o=>some (.p id el (o+off)) | .fp s xs j o=>some (.fp s xs j (o+off)) | _=>none
theorem aCX {off a b c:Nat}:dY off (.p a b c)=some (.p a b (c+off)):=Ak rfl
theorem dZ {off s j o:Nat} {xs:List (List V)}:dY off (.fp s xs j o)=some (.fp s xs j (o+off)):=Ak rfl
theorem aCi {off:Nat} {x:X}:Z1 tp (.fad off x) e h K=Wo (dY off (x.e2 e)) (fun v=>K v h):=by
 unfold Z1;simp only [z1,Bj,Ad,dY]
 cases x.e2 e<;>simp only [AQ,AX]
def aCZ (off n:Nat) (agg:Bool):V→Option V | .agg r=>Hn r off n agg | _=>none
theorem VO {off n:Nat} {agg:Bool} {r:List V}:aCZ off n agg (.agg r)=Hn r off n agg:=Ak rfl
theorem aCj {off n:Nat} {agg:Bool} {x:X}:Z1 tp (.fld off n agg x) e h K=Wo (aCZ off n agg (x.e2 e)) (fun v=>K v h):=by
 unfold Z1;simp only [z1,Bj,Ad,aCZ]
 cases x.e2 e<;>simp only [Be,AX]
def LC (g:Option BA) (sz:Nat) (v i:V):Option V:=match v with
 | .sl id el len _=>match g with | some k=>if k.sz=sz then (BB i len).map fun j=>.p id (el+j) 0 else none | none=>none
 | .fl s xs=>if s=sz then (BB i xs.length).map fun j=>.fp s xs j 0 else none
 | _=>none
theorem fU {g:Option BA} {s:Nat} {xs:List (List V)} {i:V}:LC g s (.fl s xs) i=(BB i xs.length).map fun j=>.fp s xs j 0:=by simp [LC]
theorem fV {sz id el len cap:Nat} {cs:List (List V)} {i:V}:LC (some ⟨sz,cs⟩) sz (.sl id el len cap) i=(BB i len).map fun j=>.p id (el+j) 0:=by simp [LC]
theorem aEj {sz:Nat} {v i:V}:fW (Mh h v) sz v i=LC (h.get (Ar v)) sz v i:=by
 cases v<;>try rfl
 rename_i id el len cap
 simp only [Mh,Ar]
 cases h.get id<;>rfl
theorem aCl {sz:Nat} {x i:X}:Z1 tp (.iad sz x i) e h K=Wo (LC (h.get (Ar (x.e2 e))) sz (x.e2 e) (i.e2 e)) (fun v=>K v h):=by
 unfold Z1;simp only [z1,Bj,aEj,Be]
def Rp (sz len:Nat):V→V→Option V
 | .p id el off,i=>(BB i len).map fun j=>.p id el (off+j*sz)
 | .fp s xs k off,i=>(BB i len).map fun j=>.fp s xs k (off+j*sz)
 | _,_=>none
theorem fX {sz len id el off:Nat} {i:V}:Rp sz len (.p id el off) i=(BB i len).map fun j=>.p id el (off+j*sz):=Ak rfl
theorem Xg {sz len s k off:Nat} {xs:List (List V)} {i:V}:Rp sz len (.fp s xs k off) i=(BB i len).map fun j=>.fp s xs k (off+j*sz):=Ak rfl
theorem bE {sz len:Nat} {x i:X}:Z1 tp (.iada sz len x i) e h K=Wo (Rp sz len (x.e2 e) (i.e2 e)) (fun v=>K v h):=by
 unfold Z1;simp only [z1,Bj,Ad,Rp]
 cases x.e2 e<;>simp only [AX,Be]
def aEm (sz len:Nat) (agg:Bool):V→V→Option V
 | .agg r,i=>(BB i len).bind fun j=>Hn r (j*sz) sz agg
 | _,_=>none
theorem Xh {sz len:Nat} {agg:Bool} {r:List V} {i:V}:aEm sz len agg (.agg r) i=(BB i len).bind fun j=>Hn r (j*sz) sz agg:=Ak rfl
theorem aCm {sz len:Nat} {agg:Bool} {x i:X}:Z1 tp (.idx sz len agg x i) e h K=Wo (aEm sz len agg (x.e2 e) (i.e2 e)) (fun v=>K v h):=by
 unfold Z1;simp only [z1,Bj,Ad,aEm]
 cases x.e2 e<;>simp only [AX]
 rw [Bq,Bq]
 refine EL fun t=>?_
 rw [Be]
def Yr:V→V→Option V
 | .s x,i=>(BB i x.size).map fun j=>.i .u8 ((x.data.toList.getD j 0).toNat:Int)
 | _,_=>none
theorem iU {x:ByteArray} {i:V}:Yr (.s x) i=(BB i x.size).map fun j=>.i .u8 ((x.data.toList.getD j 0).toNat:Int):=Ak rfl
theorem bL {x i:X}:Z1 tp (.sidx x i) e h K=Wo (Yr (x.e2 e) (i.e2 e)) (fun v=>K v h):=by
 unfold Z1;simp only [z1,Bj,Ad,Yr]
 cases x.e2 e<;>simp only [AX,Bq,Be]
def aCW:V→Nat→Option V | .tup l,i=>l[i]? | _,_=>none
theorem VL {l:List V} {i:Nat}:aCW (.tup l) i=l[i]?:=Ak rfl
theorem aCh {x:X} {i:Nat}:Z1 tp (.ext x i) e h K=Wo (aCW (x.e2 e) i) (fun v=>K v h):=by
 unfold Z1;simp only [z1,Bj,Ad,aCW]
 cases x.e2 e<;>simp only [AX,Be]
theorem aCd {sz:Nat} {x y:X}:Z1 tp (.app sz x y) e h K=Wo (Fr sz h (y.e2 e)) (fun new=>Wo (ID sz h (x.e2 e) new) (fun z=>K z.1 z.2)):=by
 unfold Z1;simp only [z1,Bj,Bq];rfl
def MK:V→Option V | .ns=>some (.i .i64 0) | .e0=>some (.i .i64 0) | .sl _ _ n _=>some (.i .i64 n) | .fl _ xs=>some (.i .i64 xs.length) | _=>none
theorem gE:MK .ns=some (.i .i64 0):=Ak rfl
theorem gC:MK .e0=some (.i .i64 0):=Ak rfl
theorem gF {a b c d:Nat}:MK (.sl a b c d)=some (.i .i64 c):=Ak rfl
theorem gD {s:Nat} {xs:List (List V)}:MK (.fl s xs)=some (.i .i64 xs.length):=Ak rfl
theorem aCo {x:X}:Z1 tp (.len x) e h K=Wo (MK (x.e2 e)) (fun v=>K v h):=by
 unfold Z1;simp only [z1,Bj,Ad,MK]
 cases x.e2 e<;>simp only [AQ,AX]
def Yu:V→Option V | .s x=>some (.i .i64 x.size) | _=>none
theorem iY {x:ByteArray}:Yu (.s x)=some (.i .i64 x.size):=Ak rfl
theorem bM {x:X}:Z1 tp (.slen x) e h K=Wo (Yu (x.e2 e)) (fun v=>K v h):=by
 unfold Z1;simp only [z1,Bj,Ad,Yu]
 cases x.e2 e<;>simp only [AQ,AX]
theorem bF {n:Nat}:Z1 tp (.lenc n) e h K=K (.i .i64 n) h:=by unfold Z1;simp only [z1,Bj,Ad,AQ]
theorem aPp {x:X} {l:List X}:Z1 tp (.mn (x::l)) e h K=Wo (D2 MO (x.e2 e) (l.map (X.e2 e))) (fun v=>K v h):=by unfold Z1;simp only [z1,Bj,Ad,Be]
theorem aPr {x:X} {l:List X}:Z1 tp (.mx (x::l)) e h K=Wo (D2 MN (x.e2 e) (l.map (X.e2 e))) (fun v=>K v h):=by unfold Z1;simp only [z1,Bj,Ad,Be]
def jC (t:Nat) (ok:Bool) (z:V):V→Option V
 | .ifc t' v=>if t'=t then some (if ok then .tup [v,.b true] else v) else if ok then some (.tup [z,.b false]) else none
 | .ni=>if ok then some (.tup [z,.b false]) else none
 | _=>none
theorem Ty {t:Nat} {z v:V}:jC t false z (.ifc t v)=some v:=by simp [jC]
theorem aCq {t:Nat} {ok:Bool} {z:V} {x:X}:Z1 tp (.tas t ok z x) e h K=(plain z=true∧Wo (jC t ok z (x.e2 e)) (fun v=>K v h)):=by
 unfold Z1;simp only [z1,Bj,Ad,Cb,jC]
 congr 1
 cases x.e2 e<;>simp only [AX]<;>(repeat' split)<;>simp only [AX,AQ]
def QV:V→List V→Option (Nat×List V) | .f (.func g) first caps,l=>some (g,first++l++caps) | _,_=>none
theorem KE {g:Nat} {a c l:List V}:QV (.f (.func g) a c) l=some (g,a++l++c):=Ak rfl
theorem QS {f:X} {l:List X}:Z1 tp (.call f l) e h K=Wo (QV (f.e2 e) (l.map (X.e2 e))) (fun c=>Cq tp c.1 c.2 h K):=by
 unfold Z1;simp only [z1,callee]
 generalize f.e2 e=v
 cases v with
 | f g a c=>cases g<;>rfl
 | _=>rfl
theorem aPo {f:Nat} {l:List X}:Z1 tp (.call (.fn f) l) e h K=Cq tp f (l.map (X.e2 e)) h K:=by
 rw [QS,oF,KE,AQ];simp
def oN (tp:TP) (m:String) (l:List V):V→Option (Nat×List V)
 | .ifc t v=>(tp.meth t m).bind fun q=>match q.at_ with
  | none=>some (q.f,v::l)
  | some j=>match v with | .agg cs=>(cs[j]?).map fun r=>(q.f,r::l) | _=>none
 | _=>none
theorem S5 {m:String} {l:List V} {t:Nat} {v:V}:oN tp m l (.ifc t v)=(tp.meth t m).bind fun q=>match q.at_ with
    | none=>some (q.f,v::l)
    | some j=>match v with | .agg cs=>(cs[j]?).map fun r=>(q.f,r::l) | _=>none:=Ak rfl
theorem aCn {x:X} {m:String} {l:List X}:Z1 tp (.inv x m l) e h K=Wo (oN tp m (l.map (X.e2 e)) (x.e2 e)) (fun c=>Cq tp c.1 c.2 h K):=by
 unfold Z1;simp only [z1,callee]
 cases x.e2 e<;>rfl
/-! Quiet ones. -/
theorem AW {o:O} (hp:AM o=true):DE tp o e h K=Z1 tp o e h K:=by unfold DE Z1 zq1;rw [if_pos hp]
theorem BI {o:O} (hp:AM o=false):DE tp o e h K=Z1 tp o e h.raise (fun v h'=>K v (h'.back h.lim)):=by unfold DE Z1 zq1;rw [if_neg (by simp [hp])]
theorem SY {n:Nat} {g:Bool} {v:V}:Zs h.raise n g v=Zs h n g v:=by cases v<;>rfl
theorem UW {n:Nat} {g:Bool} {x:X}:DE tp (.load n g x) e h K=Z1 tp (.load n g x) e h K:=by
 rw [BI rfl,Ld,Ld,SY];rfl
theorem R6 {sz:Nat} {x:X} {lo hi mx:Option X}:DE tp (.slice sz x lo hi mx) e h K=Z1 tp (.slice sz x lo hi mx) e h K:=by
 rw [BI rfl,IA,IA];rfl
theorem RZ {z:List V}:DE tp (.alloc z) e h K=Z1 tp (.alloc z) e h K:=by
 rw [BI rfl,Iy,Iy];rfl
theorem bX {x:X}:DE tp (.box x) e h K=Z1 tp (.box x) e h K:=by
 rw [BI rfl,O2,O2];rfl
theorem bT {z:List V}:DE tp (.alc z) e h K=Z1 tp (.alc z) e h K:=by
 rw [BI rfl,O0,O0];rfl
theorem UR {sz n:Nat} {z:List V} {ps:List (Nat×X)}:DE tp (.bslc sz z n ps) e h K=Z1 tp (.bslc sz z n ps) e h K:=by
 rw [BI rfl,Lc,Lc];rfl
theorem bZ {sz n:Nat} {z:List V} {ps:List (Nat×X)}:DE tp (.bsl sz z n ps) e h K=Z1 tp (.bsl sz z n ps) e h K:=by
 rw [BI rfl,O3,O3];rfl
theorem bV {x:X}:DE tp (.b2s x) e h K=Z1 tp (.b2s x) e h K:=by
 rw [BI rfl,O1,O1]
 have:Mf h.raise (x.e2 e)=Mf h (x.e2 e):=by cases x.e2 e<;>rfl
 rw [this];rfl
theorem cJ {x:X}:DE tp (.s2b x) e h K=Z1 tp (.s2b x) e h K:=by
 rw [BI rfl,O4,O4];rfl
theorem UQ {z:List V} {x y:X}:DE tp (.appz z x y) e h K=Z1 tp (.appz z x y) e h.raise (fun v h'=>K v (h'.back h.lim)):=BI rfl
theorem U0 {z:List V} {x y:X}:DE tp (.mksl z x y) e h K=Z1 tp (.mksl z x y) e h.raise (fun v h'=>K v (h'.back h.lim)):=BI rfl
theorem bU {sz:Nat} {x y:X}:DE tp (.app sz x y) e h K=Z1 tp (.app sz x y) e h.raise (fun v h'=>K v (h'.back h.lim)):=BI rfl
theorem R7 {n:Nat} {x y:X}:DE tp (.store n x y) e h K=Z1 tp (.store n x y) e h.raise (fun v h'=>K v (h'.back h.lim)):=BI rfl
theorem UX {x:X}:DE tp (.mark x) e h K=Z1 tp (.mark x) e h.raise (fun v h'=>K v (h'.back h.lim)):=BI rfl
theorem US {f:X} {l:List X}:DE tp (.call f l) e h K=Z1 tp (.call f l) e h.raise (fun v h'=>K v (h'.back h.lim)):=BI rfl
theorem cG {x:X} {m:String} {l:List X}:DE tp (.inv x m l) e h K=Z1 tp (.inv x m l) e h.raise (fun v h'=>K v (h'.back h.lim)):=BI rfl
theorem aCz {x:X}:DE tp (.mv x) e h K=Z1 tp (.mv x) e h K:=AW rfl
theorem U1 {a b c:X}:DE tp (.pick a b c) e h K=Z1 tp (.pick a b c) e h K:=AW rfl
theorem R3 {z:List V} {ps:List (Nat×Nat×X)}:DE tp (.build z ps) e h K=Z1 tp (.build z ps) e h K:=AW rfl
theorem aCw  : DE tp (.e0 ) e h K=Z1 tp (.e0 ) e h K:=AW rfl
theorem cI {x:X}:DE tp (.nck x) e h K=Z1 tp (.nck x) e h K:=AW rfl
theorem bW {op:BinOp} {x y:X}:DE tp (.bin op x y) e h K=Z1 tp (.bin op x y) e h K:=AW rfl
theorem aCx {n:Bool} {k:EK} {x y:X}:DE tp (.eq n k x y) e h K=Z1 tp (.eq n k x y) e h K:=AW rfl
theorem aCB {op:UnOp} {x:X}:DE tp (.un op x) e h K=Z1 tp (.un op x) e h K:=AW rfl
theorem UT {k:IntKind} {x:X}:DE tp (.conv k x) e h K=Z1 tp (.conv k x) e h K:=AW rfl
theorem U4 {x:X}:DE tp (.strs x) e h K=Z1 tp (.strs x) e h K:=AW rfl
theorem cD {x:X}:DE tp (.i2s x) e h K=Z1 tp (.i2s x) e h K:=AW rfl
theorem UZ {t:Nat} {x:X}:DE tp (.mkif t x) e h K=Z1 tp (.mkif t x) e h K:=AW rfl
theorem UY {f:Fn} {a c:List X}:DE tp (.mkfn f a c) e h K=Z1 tp (.mkfn f a c) e h K:=AW rfl
theorem O5 {x:X} {lo hi:Option X}:DE tp (.sslice x lo hi) e h K=Z1 tp (.sslice x lo hi) e h K:=AW rfl
theorem cB {o:Nat} {x:X}:DE tp (.fad o x) e h K=Z1 tp (.fad o x) e h K:=AW rfl
theorem cC {o n:Nat} {g:Bool} {x:X}:DE tp (.fld o n g x) e h K=Z1 tp (.fld o n g x) e h K:=AW rfl
theorem cE {s:Nat} {x i:X}:DE tp (.iad s x i) e h K=Z1 tp (.iad s x i) e h K:=AW rfl
theorem UU {s n:Nat} {x i:X}:DE tp (.iada s n x i) e h K=Z1 tp (.iada s n x i) e h K:=AW rfl
theorem cF {s n:Nat} {g:Bool} {x i:X}:DE tp (.idx s n g x i) e h K=Z1 tp (.idx s n g x i) e h K:=AW rfl
theorem U2 {x i:X}:DE tp (.sidx x i) e h K=Z1 tp (.sidx x i) e h K:=AW rfl
theorem cA {x:X} {i:Nat}:DE tp (.ext x i) e h K=Z1 tp (.ext x i) e h K:=AW rfl
theorem R5 {n:Nat} {ag:Bool} {x:X}:DE tp (.fload n ag x) e h K=Z1 tp (.fload n ag x) e h K:=AW rfl
theorem cH {x:X}:DE tp (.len x) e h K=Z1 tp (.len x) e h K:=AW rfl
theorem U3 {x:X}:DE tp (.slen x) e h K=Z1 tp (.slen x) e h K:=AW rfl
theorem UV {n:Nat}:DE tp (.lenc n) e h K=Z1 tp (.lenc n) e h K:=AW rfl
theorem aCy {l:List X}:DE tp (.mn l) e h K=Z1 tp (.mn l) e h K:=AW rfl
theorem aCA {l:List X}:DE tp (.mx l) e h K=Z1 tp (.mx l) e h K:=AW rfl
theorem cK {t:Nat} {ok:Bool} {z:V} {x:X}:DE tp (.tas t ok z x) e h K=Z1 tp (.tas t ok z x) e h K:=AW rfl
end
/-! ### Values -/
theorem cW {k:IntKind} {a b:Int}:BE .add (.i k a) (.i k b)=some (.i k (k.wrap (a+b))):=by simp [BE,FU]
theorem dH {k:IntKind} {a b:Int}:BE .sub (.i k a) (.i k b)=some (.i k (k.wrap (a - b))):=by simp [BE,FU]
theorem dD {k:IntKind} {a b:Int}:BE .mul (.i k a) (.i k b)=some (.i k (k.wrap (a*b))):=by simp [BE,FU]
theorem dF {k:IntKind} {a b:Int} (hb:¬ b=0):BE .quo (.i k a) (.i k b)=some (.i k (k.wrap (a.tdiv b))):=by simp [BE,FU,hb]
theorem dG {k:IntKind} {a b:Int} (hb:¬ b=0):BE .rem (.i k a) (.i k b)=some (.i k (a.tmod b)):=by simp [BE,FU,hb]
theorem cX {k:IntKind} {a b:Int}:BE .and (.i k a) (.i k b)=some (.i k (k.wrap (BitVec.ofInt k.bits a &&& BitVec.ofInt k.bits b).toNat)):=by simp [BE,FU]
theorem aCK {k:IntKind} {a b:Int}:BE .or (.i k a) (.i k b)=some (.i k (k.wrap (BitVec.ofInt k.bits a ||| BitVec.ofInt k.bits b).toNat)):=by simp [BE,FU]
theorem cY {k:IntKind} {a b:Int}:BE .eql (.i k a) (.i k b)=some (.b (decide (a=b))):=by simp [BE,FU]
theorem dE {k:IntKind} {a b:Int}:BE .neq (.i k a) (.i k b)=some (.b (decide (¬ a=b))):=by simp [BE,FU]
theorem dC {k:IntKind} {a b:Int}:BE .lss (.i k a) (.i k b)=some (.b (decide (a<b))):=by simp [BE,FU]
theorem dB {k:IntKind} {a b:Int}:BE .leq (.i k a) (.i k b)=some (.b (decide (a≤b))):=by simp [BE,FU]
theorem dA {k:IntKind} {a b:Int}:BE .gtr (.i k a) (.i k b)=some (.b (decide (b<a))):=by simp [BE,FU]
theorem cZ {k:IntKind} {a b:Int}:BE .geq (.i k a) (.i k b)=some (.b (decide (b≤a))):=by simp [BE,FU]
theorem aFb {x:Bool}:oP .not (.b x)=some (.b (!x)):=Ak rfl
theorem aFa {k:IntKind} {n:Int}:oP .neg (.i k n)=some (.i k (k.wrap (0 - n))):=Ak rfl
theorem aPZ {k:IntKind} {x y:Int}:MO (.i k x) (.i k y)=some (.i k (min x y)):=by
 simp only [MO,if_true];congr 2
 omega
theorem aPY {k:IntKind} {x y:Int}:MN (.i k x) (.i k y)=some (.i k (max x y)):=by
 simp only [MN,if_true];congr 2
 omega
theorem VZ {f:V→V→Option V} {x:V}:D2 f x []=some x:=Ak rfl
theorem SG {f:V→V→Option V} {x y:V} {l:List V}:D2 f x (y::l)=(f x y).bind fun z=>D2 f z l:=Ak rfl
theorem aRH {p:Prop} [Decidable p]:(!decide p)=decide (¬ p):=by simp
theorem aRw {p q:Prop} [Decidable p] [Decidable q]:(decide p&&decide q)=decide (p∧q):=by simp
theorem aRJ {p q:Prop} [Decidable p] [Decidable q]:(decide p||decide q)=decide (p∨q):=by simp
theorem aPS {k:IntKind} {j:Int} {n:Nat} (h0:0≤j) (h1:j<n):BB (.i k j) n=some j.toNat:=by simp [BB,h0,h1]
theorem Mi {d n:Nat}:AG none d n=some d:=Ak rfl
theorem Vc {k:IntKind} {j:Int} {d n:Nat} (h0:0≤j) (h1:j≤n):AG (some (.i k j)) d n=some j.toNat:=by simp [AG,h0,h1]
theorem Sg {l:List V}:V.cells (.agg l)=l:=Ak rfl
theorem dM {k:IntKind} {n:Int}:V.cells (.i k n)=[.i k n]:=Ak rfl
theorem dK {x:Bool}:V.cells (.b x)=[.b x]:=Ak rfl
theorem dP {x:ByteArray}:V.cells (.s x)=[.s x]:=Ak rfl
theorem Vn {a b c d:Nat}:V.cells (.sl a b c d)=[.sl a b c d]:=Ak rfl
theorem Vm:V.cells .ns=[.ns]:=Ak rfl
theorem dN {a b c:Nat}:V.cells (.p a b c)=[.p a b c]:=Ak rfl
theorem Vl:V.cells .np=[.np]:=Ak rfl
theorem Xm {k:IntKind} {n:Int}:V.isCell (.i k n)=true:=Ak rfl
theorem Xk {x:Bool}:V.isCell (.b x)=true:=Ak rfl
theorem Xo {x:ByteArray}:V.isCell (.s x)=true:=Ak rfl
theorem SX {a b c d:Nat}:V.isCell (.sl a b c d)=true:=Ak rfl
theorem SW:V.isCell .ns=true:=Ak rfl
theorem Xn {a b c:Nat}:V.isCell (.p a b c)=true:=Ak rfl
theorem SV:V.isCell .np=true:=Ak rfl
theorem w64 {x:Int} (h0 : -9223372036854775808≤x) (h1:x<9223372036854775808):IntKind.wrap .i64 x=x:=by rw [IntKind.wrap_i64];omega
theorem Vh {a:Nat} {b:List (List V)}:V.cells (.fl a b)=[.fl a b]:=Ak rfl
theorem Vi {a c d:Nat} {b:List (List V)}:V.cells (.fp a b c d)=[.fp a b c d]:=Ak rfl
theorem Vg:V.cells .e0=[.e0]:=Ak rfl
theorem Vj:V.cells .nf=[.nf]:=Ak rfl
theorem Vk:V.cells .ni=[.ni]:=Ak rfl
theorem dL {a:Fn} {b c:List V}:V.cells (.f a b c)=[.f a b c]:=Ak rfl
theorem Si {a:Nat} {b:V}:V.cells (.ifc a b)=[.ifc a b]:=Ak rfl
theorem SO {a:Nat} {b:List (List V)}:V.isCell (.fl a b)=true:=Ak rfl
theorem SQ {a c d:Nat} {b:List (List V)}:V.isCell (.fp a b c d)=true:=Ak rfl
theorem SN:V.isCell .e0=true:=Ak rfl
theorem SR:V.isCell .nf=true:=Ak rfl
theorem SU:V.isCell .ni=true:=Ak rfl
theorem Xl {a:Fn} {b c:List V}:V.isCell (.f a b c)=true:=Ak rfl
theorem P8 {a:Nat} {b:V}:V.isCell (.ifc a b)=true:=Ak rfl
theorem aP2 {x:Bool}:pur (.b x)=true:=Ak (by simp [pur])
theorem aP4 {k:IntKind} {n:Int}:pur (.i k n)=true:=Ak (by simp [pur])
theorem aP5 {x:ByteArray}:pur (.s x)=true:=Ak (by simp [pur])
theorem aEO {a:Nat} {b:List (List V)}:pur (.fl a b)=true:=Ak (by simp [pur])
theorem aES:pur .ns=true:=Ak (by simp [pur])
theorem aEN:pur .e0=true:=Ak (by simp [pur])
theorem aER:pur .np=true:=Ak (by simp [pur])
theorem aEQ:pur .ni=true:=Ak (by simp [pur])
theorem aEP:pur .nf=true:=Ak (by simp [pur])
theorem aP6:pur .u=true:=Ak (by simp [pur])
theorem iD {l:List V}:pur (.agg l)=Fp l:=Ak (by simp [pur])
theorem iG {l:List V}:pur (.tup l)=Fp l:=Ak (by simp [pur])
theorem aP3 {f:Fn} {a c:List V}:pur (.f f a c)=(Fp a&&Fp c):=Ak (by simp [pur])
theorem iE {t:Nat} {v:V}:pur (.ifc t v)=pur v:=Ak (by simp [pur])
theorem X0:Fp []=true:=Ak (by simp [Fp])
theorem Tj {v:V} {l:List V}:Fp (v::l)=(pur v&&Fp l):=Ak (by simp [Fp])
theorem aRB {x y:Bool}:ES .b (.b x) (.b y)=some (decide (x=y)):=by cases x<;>cases y<;>rfl
theorem aCV {ks:List CK} {l m:List V}:ES (.agg ks) (.agg l) (.agg m)=FX ks l m:=Ak rfl
theorem dW:FX [] [] []=some true:=Ak rfl
theorem VG {k:CK} {ks:List CK} {a c:V} {l m:List V}:FX (k::ks) (a::l) (c::m)=(Pl k a c).bind fun x=>(FX ks l m).map fun y=>x&&y:=Ak rfl
theorem aPH {k:IntKind} {a b:Int}:Pl .i (.i k a) (.i k b)=some (decide (a=b)):=by simp [Pl]
theorem aPG {x y:Bool}:Pl .b (.b x) (.b y)=some (decide (x=y)):=by cases x<;>cases y<;>rfl
theorem aPI {x y:ByteArray}:Pl .s (.s x) (.s y)=some (decide (x=y)):=Ak rfl
theorem Va {x y:ByteArray}:BE .eql (.s x) (.s y)=some (.b (decide (x=y))):=Ak rfl
theorem Vb {x y:ByteArray}:BE .neq (.s x) (.s y)=some (.b (decide (¬ x=y))):=by simp [BE,U8]
theorem U9 {x y:ByteArray} (h:x.size+y.size<4294967296):BE .add (.s x) (.s y)=some (.s (x++y)):=by simp [BE,U8,A4,h]
/-! ### Results -/
section
variable {e:Env} {h:AH}
theorem cL {res:List RV} {Q:V→AH→Prop}:Hf res .nm e h Q=Wo (BC e h res) (fun v=>Q v h):=Ak rfl
theorem cM {res:List RV} {Q:V→AH→Prop}:Hf res .rt e h Q=Wo (BC e h res) (fun v=>Q v h):=Ak rfl
theorem iJ:BC e h []=some (.tup []):=Ak rfl
theorem iK {n:Nat}:BC e h [.t n]=some (e n):=Ak rfl
theorem iL {n m:Nat}:BC e h [.t n,.t m]=some (.tup [e n,e m]):=Ak rfl
theorem Tn {n m l:Nat}:BC e h [.t n,.t m,.t l]=some (.tup [e n,e m,e l]):=Ak rfl
def HM (h:AH) (k:Nat) (g:Bool):V→Option V | .p id el off=>Zr (h.get id) el off k g | _=>none
theorem dJ {k id el off:Nat} {g:Bool}:HM h k g (.p id el off)=Zr (h.get id) el off k g:=Ak rfl
theorem HD {n k:Nat} {g:Bool}:Qu e h (.cell n k g)=HM h k g (e n):=Ak rfl
theorem X8 {n k:Nat} {g:Bool}:BC e h [.cell n k g]=HM h k g (e n):=by
 simp only [BC,TQ,HD]
 cases HM h k g (e n)<;>rfl
theorem Tl {n k m:Nat} {g:Bool}:BC e h [.cell n k g,.t m]=(HM h k g (e n)).map fun v=>.tup [v,e m]:=by
 simp only [BC,TQ,HD]
 cases HM h k g (e n)<;>rfl
theorem Tm {n k m l:Nat} {g:Bool}:BC e h [.cell n k g,.t m,.t l]=(HM h k g (e n)).map fun v=>.tup [v,e m,e l]:=by
 simp only [BC,TQ,HD]
 cases HM h k g (e n)<;>rfl
end
/-! ### What stays -/
def Nq:V→Bool
 | .b _ | .i .. | .s _ | .np | .ns | .e0 | .nf | .ni | .u | .fl .. | .fp ..=>true
 | _=>false
theorem CY.of_stay {P:Nat→Prop} {h:AH} {n:Nat} {v:V} (hv:Nq v=true):CY P h n v v:=by
 cases v<;>first | (simp [Nq] at hv;done) | exact .fl _ _ _ | exact .fp _ _ _ _ _ | exact .z _ _ (by constructor)
theorem BX.of_stay {P:Nat→Prop} {h:AH} {n:Nat}:∀ {l:List V},l.all Nq=true→BX P h n l l
 | [],_=>.nil _
 | v::l,hl=>by
  simp only [List.all_cons,Bool.and_eq_true] at hl
  exact .cons _ _ _ _ _ (CY.of_stay hl.1) (BX.of_stay hl.2)
theorem DI.of_map {P:Nat→Prop} {h:AH} {n:Nat} {α:Type} {enc:α→List V} (he:∀ a,(enc a).all Nq=true):∀ (L:List α),DI P h n (L.map enc) (L.map enc)
 | []=>.nil _
 | a::L=>.cons _ _ _ _ _ (BX.of_stay (he a)) (DI.of_map he L)
section
variable {P:Nat→Prop} {h:AH} {n:Nat}
theorem aFn {k k':IntKind} {z z':Int}:CY P h n (.i k z) (.i k' z')=(k=k'∧z=z'):=propext ⟨fun f=>by cases f;exact ⟨rfl,rfl⟩,fun ⟨a,b⟩=>by subst a;subst b;exact .z _ _ (.i _ _)⟩
theorem aFm {z z':Bool}:CY P h n (.b z) (.b z')=(z=z'):=propext ⟨fun f=>by cases f;exact rfl,fun a=>by subst a;exact .z _ _ (.b _)⟩
theorem aFo {z z':ByteArray}:CY P h n (.s z) (.s z')=(z=z'):=propext ⟨fun f=>by cases f;exact rfl,fun a=>by subst a;exact .z _ _ (.s _)⟩
theorem oV {s s':Nat} {z z':List (List V)}:CY P h n (.fl s z) (.fl s' z')=(s=s'∧z=z'):=propext ⟨fun f=>by
 cases f with
 | z _ _ h0=>cases h0
 | fl=>exact ⟨rfl,rfl⟩,fun ⟨a,b⟩=>by subst a;subst b;exact .fl _ _ _⟩
theorem oX {s:Nat} {z:List (List V)}:CY P h n .ns (.fl s z)=(z=[]):=propext ⟨fun f=>by cases f;exact rfl,fun a=>by subst a;exact .ns _ _⟩
theorem oU {s:Nat} {z:List (List V)}:CY P h n .e0 (.fl s z)=(z=[]):=propext ⟨fun f=>by cases f;exact rfl,fun a=>by subst a;exact .e0 _ _⟩
theorem oW:CY P h n .np .np=True:=by simp;exact .z _ _ .np
theorem ZA {l l':List V}:CY P h n (.tup l) (.tup l')=BX P h n l l':=propext ⟨fun f=>by
 cases f with
 | z _ _ h0=>cases h0
 | tup _ _ _ h=>exact h,fun a=>.tup _ _ _ a⟩
theorem Zz {l l':List V}:CY P h n (.agg l) (.agg l')=BX P h n l l':=propext ⟨fun f=>by
 cases f with
 | z _ _ h0=>cases h0
 | agg _ _ _ h=>exact h,fun a=>.agg _ _ _ a⟩
theorem TT:BX P h n [] []=True:=by simp;exact .nil _
theorem RR {v w:V} {l l':List V}:BX P h n (v::l) (w::l')=(CY P h n v w∧BX P h n l l'):=propext ⟨fun f=>by
 cases f with
 | cons _ _ _ _ _ a b=>exact ⟨a,b⟩,fun ⟨a,b⟩=>.cons _ _ _ _ _ a b⟩
end
/-! ### Slices of one's own -/
def nth {α:Type} [Inhabited α] (L:List α) (j:Nat):α:=L.getD j default
theorem E0 {α:Type} [Inhabited α] {L:List α} {j:Nat} (h:j<L.length):L[j]?=some (nth L j):=by simp [nth,List.getD,List.getElem?_eq_getElem h]
theorem Bz {α:Type} [Inhabited α] {L:List α} {j:Nat} (h:j<L.length):nth L j=L[j]:=by simp [nth,List.getD,List.getElem?_eq_getElem h]
theorem gR {α:Type} [Inhabited α] {β:Type} {f:α→β} {L:List α} {j:Nat} (h:j<L.length):(L.map f)[j]?=some (f (nth L j)):=by rw [List.getElem?_map,E0 h];rfl
theorem AP {α:Type} [Inhabited α] {L:List α} {j:Nat} (h:j<L.length):nth L j∈L:=by rw [Bz h];exact List.getElem_mem h
theorem AI {α:Type} [Inhabited α] {L:List α} {i:Nat} (h:i<L.length):L.drop i=nth L i::L.drop (i+1):=by
 rw [Bz h];exact List.drop_eq_getElem_cons h
structure Aq (h h':AH):Prop where
 next:h.next≤h'.next
 lim:h'.lim=h.lim
 get:∀ i,i<h.next→h'.get i=h.get i
theorem Aq.refl (h:AH):Aq h h:=⟨Nat.le_refl _,rfl,fun _ _=>rfl⟩
theorem Aq.trans {a b c:AH} (p:Aq a b) (q:Aq b c):Aq a c:=⟨Nat.le_trans p.next q.next,q.lim.trans p.lim,fun i hi=>(q.get i (Nat.lt_of_lt_of_le hi p.next)).trans (p.get i hi)⟩
theorem Aq.alloc {a b:AH} (p:Aq a b) (k:BA):Aq a (b.alloc k):=⟨Nat.le_succ_of_le p.next,p.lim,fun i hi=>by
 rw [AV,Ag (by have:=p.next;omega)];exact p.get i hi⟩
theorem Aq.put {a b:AH} (p:Aq a b) (i:Nat) (k:BA) (hi:a.next≤i):Aq a (b.put i k):=⟨p.next,p.lim,fun j hj=>by
 rw [Ae,Ag (by omega)];exact p.get j hj⟩
theorem Aq.kill {a b:AH} (p:Aq a b) (i:Nat) (hi:a.next≤i):Aq a (b.kill i):=⟨p.next,p.lim,fun j hj=>by
 rw [B4,Ag (by omega)];exact p.get j hj⟩
def A2 (h:AH) (v:V):List (List V):=match h.get (Ar v) with | some k=>k.cs | none=>[]
def Sl (b:Nat) (h:AH) (sz:Nat) (v:V) (R:List (List V)):Prop:=((v=.ns∨v=.e0)∧R=[])∨∃ id el cap cs,v=.sl id el R.length cap∧h.get id=some ⟨sz,cs⟩∧el+cap≤cs.length∧(cs.drop el).take R.length=R∧R.length≤cap∧id<h.next∧b≤id∧R.length<4294967296
theorem Sl.nil (b:Nat) (h:AH) (sz:Nat):Sl b h sz .ns []:=.inl ⟨.inl rfl,rfl⟩
theorem Sl.nil' (b:Nat) (h:AH) (sz:Nat):Sl b h sz .e0 []:=.inl ⟨.inr rfl,rfl⟩
theorem Sl.same {b:Nat} {h h':AH} {sz:Nat} {v:V} {R:List (List V)} (s:Sl b h sz v R) (hn:h.next≤h'.next) (hg:Ar v<h.next→h'.get (Ar v)=h.get (Ar v)):Sl b h' sz v R:=by
 rcases s with ⟨hv,rfl⟩ | ⟨id,el,cap,k,rfl,a,c,d,f,hlt,hb,hl⟩
 ·exact .inl ⟨hv,rfl⟩
 ·exact .inr ⟨id,el,cap,k,rfl,(hg hlt).trans a,c,d,f,Nat.lt_of_lt_of_le hlt hn,hb,hl⟩
theorem Sl.ext {b:Nat} {h h':AH} {sz:Nat} {v:V} {R:List (List V)} (s:Sl b h sz v R) (p:Aq h h'):Sl b h' sz v R:=s.same p.next (fun hl=>p.get _ hl)
theorem Sl.alloc {b:Nat} {h:AH} {sz:Nat} {v:V} {R:List (List V)} (s:Sl b h sz v R) (k:BA):Sl b (h.alloc k) sz v R:=s.ext ((Aq.refl h).alloc k)
theorem Sl.putx {b:Nat} {h:AH} {sz:Nat} {v:V} {R:List (List V)} (s:Sl b h sz v R) (i:Nat) (k:BA) (hi:i≠Ar v):Sl b (h.put i k) sz v R:=s.same (Nat.le_refl _) (fun _=>by rw [Ae,Ag (Ne.symm hi)])
theorem Sl.back {b:Nat} {h:AH} {sz l:Nat} {v:V} {R:List (List V)} (s:Sl b h sz v R):Sl b (h.back l) sz v R:=s
theorem Sl.raise {b:Nat} {h:AH} {sz:Nat} {v:V} {R:List (List V)} (s:Sl b h sz v R):Sl b h.raise sz v R:=s
structure SlF {α:Type} [Inhabited α] (enc:α→List V) (b:Nat) (h:AH) (sz:Nat) (v:V) (L:List α):Prop where
 len:MK v=some (.i .i64 (L.length:Int))
 big:L.length<4294967296
 lt:0<L.length→Ar v<h.next
 lo:0<L.length→b≤Ar v
 get:0<L.length→h.get (Ar v)=some ⟨sz,A2 h v⟩
 at_:∀ (k:IntKind) (j:Int) (cs:List (List V)),0≤j→j<L.length→LC (some ⟨sz,cs⟩) sz v (.i k j)=some (.p (Ar v) (Cx v+j.toNat) 0)
 row:∀ (j:Nat),j<L.length→(A2 h v)[Cx v+j]?=some (enc (nth L j))
 cell:v.isCell=true
 cells:v.cells=[v]
theorem Sl.facts {α:Type} [Inhabited α] {enc:α→List V} {b:Nat} {h:AH} {sz:Nat} {v:V} {L:List α} (s:Sl b h sz v (L.map enc)):SlF enc b h sz v L:=by
 rcases s with ⟨hv,hR⟩ | ⟨id,el,cap,cs,rfl,a,c,d,f,hlt,hb,hl⟩
 ·have hL:L=[]:=by simpa using hR
  subst hL
  rcases hv with rfl | rfl
  ·exact ⟨rfl,by simp,by simp,by simp,by simp,fun _ j _ h0 h1=>by simp at h1;omega,by simp,rfl,rfl⟩
  ·exact ⟨rfl,by simp,by simp,by simp,by simp,fun _ j _ h0 h1=>by simp at h1;omega,by simp,rfl,rfl⟩
 ·simp only [List.length_map] at *
  refine ⟨by simp [MK],hl,fun _=>hlt,fun _=>hb,fun _=>by simp [A2,Ar,a],fun k j cs h0 h1=>by simp [LC,BB,h0,h1,Ar,Cx],fun j hj=>?_,rfl,rfl⟩
  simp only [A2,Ar,a,Cx]
  have:((cs.drop el).take L.length)[j]?=(L.map enc)[j]?:=by rw [d]
  rw [List.getElem?_take_of_lt hj,List.getElem?_drop] at this
  rw [this,List.getElem?_map,E0 hj];rfl
theorem FZ.len {α:Type} {enc:α→List V} {s:Nat} {L:List α} (r:FZ (.fl s (L.map enc))):L.length<4000000000:=by simpa using r.big
theorem Sl.froze {α:Type} {enc:α→List V} {b:Nat} {h:AH} {sz:Nat} {v:V} {L:List α} {P:Nat→Prop} {n:Nat} (s:Sl b h sz v (L.map enc)) (he:∀ a,(enc a).all Nq=true) (hP:P (Ar v)) (hL:L.length<4000000000):CY P h n v (.fl sz (L.map enc)):=by
 rcases s with ⟨hv,hR⟩ | ⟨id,el,cap,cs,rfl,a,c,d,f,hlt,hb,hl⟩
 ·rw [hR]
  rcases hv with rfl | rfl
  ·exact .ns _ _
  ·exact .e0 _ _
 ·refine .sl _ id el _ cap sz cs _ hP a (by omega) f (by simpa [Ho] using hL) ?_
  rw [d];exact DI.of_map he L
theorem Sl.froze' {b:Nat} {h:AH} {sz:Nat} {v:V} {R:List (List V)} {P:Nat→Prop} {n:Nat} (s:Sl b h sz v R) (hr:DI P h 0 R R) (hP:P (Ar v)) (hL:R.length<4000000000):CY P h n v (.fl sz R):=by
 rcases s with ⟨hv,rfl⟩ | ⟨id,el,cap,cs,rfl,a,c,d,f,hlt,hb,hl⟩
 ·rcases hv with rfl | rfl
  ·exact .ns _ _
  ·exact .e0 _ _
 ·refine .sl _ id el _ cap sz cs _ hP a (by omega) f (by simpa [Ho] using hL) ?_
  rw [d];exact hr
def AF:V→Bool | .ns | .e0=>true | _=>false
structure Grown (b:Nat) (h:AH) (x v:V) (h':AH):Prop where
 next:h.next≤h'.next
 lim:h'.lim=h.lim
 low:∀ i,i<b→h'.get i=h.get i
 get:∀ i,i<h.next→(AF x=true∨i≠Ar x)→h'.get i=h.get i
 own:AF v=true∨(AF x=false∧Ar v=Ar x)∨h.next≤Ar v
 cell:v.isCell=true
 cells:v.cells=[v]
theorem MX:∀ (r:List (List V)) (i:Nat) (n:List (List V)),i+n.length≤r.length→D5 r i n=r.take i++n++r.drop (i+n.length)
 | r,i,[],_=>by simp [D5]
 | r,i,c::cs,h=>by
  simp only [List.length_cons] at h
  rw [D5,MX (r.set i c) (i+1) cs (by simp;omega)]
  have hi:i<r.length:=by omega
  rw [List.drop_set_of_lt (by omega)]
  have ht:(r.set i c).take (i+1)=r.take i++[c]:=by
   rw [List.take_add_one]
   simp [hi,List.take_set_of_le]
  rw [ht]
  simp only [List.append_assoc,List.singleton_append,List.length_cons]
  congr 3;omega
theorem AA {b sz : Nat} {h : AH} {x : V} {R N : List (List V)} {K : V × AH → Prop} (sx : Sl b h sz x R) (hl : h.lim ≤ b) (hb : b ≤ h.next) (hlen : R.length + N.length < 4294967296)
    (k:∀ v h',Sl b h' sz v (R++N)→Grown b h x v h'→K (v,h')):Wo (ID sz h x N) K:=by
 rcases sx with ⟨hx,rfl⟩ | ⟨id,el,cap,cs,rfl,hg,hle,hrow,hcap,hlt,hbi,hbig⟩
 ·have one:∀ nn:V,(nn=.ns∨nn=.e0)→Wo (if N=[] then some (nn,h) else if N.length<A4 then some (.sl h.next 0 N.length N.length,h.alloc ⟨sz,N⟩) else none) (fun z=>(nn=.ns∨nn=.e0)→x=nn→K z):=by
   intro nn hnn
   split
   ·rename_i hN
    subst hN
    exact ⟨_,rfl,fun h1 h2=>by subst h2;exact k _ _ (.inl ⟨h1,rfl⟩) ⟨Nat.le_refl _,rfl,fun _ _=>rfl,fun _ _ _=>rfl,.inl (by rcases h1 with rfl | rfl<;>rfl),by rcases h1 with rfl | rfl<;>rfl,by rcases h1 with rfl | rfl<;>rfl⟩⟩
   ·rename_i hN
    rw [if_pos (by simp only [A4];simpa using hlen)]
    refine ⟨_,rfl,fun h1 h2=>k _ _ (.inr ⟨h.next,0,N.length,N, ?_, ?_, ?_, ?_, ?_, ?_,hb, ?_⟩) ⟨?_,rfl, ?_, ?_,.inr (.inr (Nat.le_refl _)),rfl,rfl⟩⟩
    ·simp
    ·simp [AH.alloc]
    ·simp
    ·simp
    ·simp
    ·simp [AH.alloc]
    ·simpa using hlen
    ·simp [AH.alloc]
    ·intro i hi;rw [AV,Ag (by omega)]
    ·intro i hi _;rw [AV,Ag (by omega)]
  rcases hx with rfl | rfl
  ·obtain ⟨z,hz,q⟩:=one .ns (.inl rfl)
   exact ⟨z,hz,q (.inl rfl) rfl⟩
  ·obtain ⟨z,hz,q⟩:=one .e0 (.inr rfl)
   exact ⟨z,hz,q (.inr rfl) rfl⟩
 ·unfold ID
  simp only [hg]
  rw [if_pos ⟨trivial,by omega,by omega,by simp only [A4];exact hlen⟩]
  by_cases hc:R.length+N.length≤cap
  ·rw [if_pos hc,if_pos (by omega)]
   have hov:=MX cs (el+R.length) N (by omega)
   refine ⟨_,rfl,k _ _ (.inr ⟨id,el,cap,D5 cs (el+R.length) N, ?_, ?_, ?_, ?_, ?_,hlt,hbi, ?_⟩) ⟨Nat.le_refl _,rfl, ?_, ?_,.inr (.inl ⟨rfl,rfl⟩),rfl,rfl⟩⟩
   ·simp
   ·rw [Ae,Ax rfl]
   ·rw [hov];simp;omega
   ·rw [hov]
    have e1:(cs.take (el+R.length)).drop el=R:=by rw [List.drop_take,Nat.add_sub_cancel_left];exact hrow
    simp only [List.append_assoc]
    rw [List.drop_append_of_le_length (by simp;omega),e1,←List.append_assoc,List.length_append,←List.length_append,List.take_left]
   ·simpa using hc
   ·simpa using hlen
   ·intro i hi;rw [Ae,Ag (by omega)]
   ·intro i hi hne
    rw [Ae,Ag (by rcases hne with hne | hne;cases hne;exact hne)]
  ·rw [if_neg hc]
   refine ⟨_,rfl,k _ _ (.inr ⟨h.next,0,R.length+N.length,(cs.drop el).take R.length++N, ?_, ?_, ?_, ?_, ?_, ?_,hb, ?_⟩) ⟨?_,rfl, ?_, ?_,.inr (.inr (Nat.le_refl _)),rfl,rfl⟩⟩
   ·simp
   ·rw [AV,FJ,Ax rfl]
   ·rw [hrow];simp
   ·rw [hrow,List.drop_zero,List.take_length]
   ·simp
   ·simp [AH.alloc,AH.kill]
   ·simpa using hlen
   ·simp [AH.alloc,AH.kill]
   ·intro i hi;rw [AV,FJ,Ag (by omega),B4,Ag (by omega)]
   ·intro i hi hne
    rw [AV,FJ,Ag (by omega),B4,Ag (by rcases hne with hne | hne;cases hne;exact hne)]
theorem Sl.rows {b:Nat} {h:AH} {sz:Nat} {v:V} {R:List (List V)} (s:Sl b h sz v R):Fr sz h v=some R:=by
 rcases s with ⟨hv,rfl⟩ | ⟨id,el,cap,k,rfl,hg,hc,hrow,hcap,_⟩
 ·rcases hv with rfl | rfl<;>rfl
 ·rw [Nh,hg,Yb (by omega),hrow]
theorem Sl.of_get {b sz:Nat} {h h':AH} {v:V} {R:List (List V)} {j:Nat} {r:List V} (s:Sl b h sz v R) (hj:j<R.length) (hn:h.next≤h'.next) (hg:h'.get (Ar v)=some ⟨sz,(A2 h v).set (Cx v+j) r⟩):Sl b h' sz v (R.set j r):=by
 rcases s with ⟨hv,rfl⟩ | ⟨id,el,cap,cs,rfl,hg0,hc,hrow,hcap,hlt',hbi,hbig⟩
 ·simp at hj
 ·refine .inr ⟨id,el,cap,cs.set (el+j) r,by simp, ?_,by simpa using hc, ?_,by simpa using hcap,Nat.lt_of_lt_of_le hlt' hn,hbi,by simpa using hbig⟩
  ·simpa [Ar,Cx,A2,hg0] using hg
  ·simp only [List.length_set]
   rw [List.drop_set,if_neg (by omega),Nat.add_sub_cancel_left,List.take_set,hrow]
theorem Sl.setT {α:Type} {enc:α→List V} {b sz:Nat} {h h':AH} {v:V} {L:List α} {j:Nat} {x:α} (s:Sl b h sz v (L.map enc)) (hj:j<L.length) (hn:h.next≤h'.next) (hg:h'.get (Ar v)=some ⟨sz,(A2 h v).set (Cx v+j) (enc x)⟩):Sl b h' sz v ((L.set j x).map enc):=by
 have:=Sl.of_get (r:=enc x) s (j:=j) (by simpa using hj) hn hg
 simpa [List.map_set] using this
theorem Sl.rowlt {b sz:Nat} {h:AH} {v:V} {R:List (List V)} {j:Nat} (s:Sl b h sz v R) (hj:j<R.length):Cx v+j<(A2 h v).length:=by
 rcases s with ⟨hv,rfl⟩ | ⟨id,el,cap,cs,rfl,hg,hc,hrow,hcap,hlt',_⟩
 ·simp at hj
 ·simp only [Cx,A2,Ar,hg];omega
theorem Lx {α:Type} {l:List α} {i:Nat} {a:α} (h:i<l.length):(l.set i a)[i]?=some a:=by simp [h]
def B9 (v:V) (n:Nat):V:=match v with | .sl id el _ cap=>.sl id el n cap | v=>v
theorem Hq {v:V} {n:Nat}:Ar (B9 v n)=Ar v:=by cases v<;>rfl
theorem SA {v:V} {n:Nat}:Cx (B9 v n)=Cx v:=by cases v<;>rfl
theorem LD {v:V} {n:Nat}:(B9 v n).isCell=v.isCell:=by cases v<;>rfl
theorem Fh {v:V} {n:Nat} (h:v.cells=[v]):(B9 v n).cells=[B9 v n]:=by cases v<;>first | rfl | (simp [B9];exact h)
theorem Pj {h:AH} {v:V} {n:Nat}:A2 h (B9 v n)=A2 h v:=by cases v<;>rfl
theorem Sl.pre {b:Nat} {h:AH} {sz:Nat} {v:V} {R:List (List V)} (s:Sl b h sz v R) {k:IntKind} {j:Int} {cs:List (List V)} (h0:0≤j) (h1:j≤R.length):GW (some ⟨sz,cs⟩) sz v none (some (.i k j)) none=some (B9 v j.toNat):=by
 rcases s with ⟨hv,rfl⟩ | ⟨id,el,cap,b,rfl,a,_,_,hc,_⟩
 ·simp at h1
  obtain rfl:j=0:=by omega
  rcases hv with rfl | rfl<;>simp [GW,AG,B9]
 ·have h2:j≤cap:=by omega
  simp [GW,AG,B9,h0,h2,hc]
theorem Sl.truncd {b:Nat} {h:AH} {sz:Nat} {v:V} {R:List (List V)} (s:Sl b h sz v R) {n:Nat} (hn:n≤R.length):Sl b h sz (B9 v n) (R.take n):=by
 rcases s with ⟨hv,rfl⟩ | ⟨id,el,cap,b,rfl,a,c,d,hc,hlt,hbi,hb⟩
 ·exact .inl ⟨by rcases hv with rfl | rfl<;>simp [B9],by simp⟩
 ·refine .inr ⟨id,el,cap,b, ?_,a,c, ?_, ?_,hlt,hbi, ?_⟩
  ·simp [B9];omega
  ·have:(R.take n).length=n:=by simp;omega
   rw [this];conv=>rhs;rw [← d]
   rw [List.take_take];congr 1;omega
  ·simp;omega
  ·simp;omega
theorem Hi {b sz : Nat} {h : AH} {v : V} {R : List (List V)} {k1 k2 : IntKind} {K : V → Prop} (s : Sl b h sz v R)
    (k:∀ v',Sl b h sz v' R→Ar v'=Ar v→K v'):Wo (GW (h.get (Ar v)) sz v none (some (.i k1 R.length)) (some (.i k2 R.length))) K:=by
 rcases s with ⟨hv,rfl⟩ | ⟨id,el,cap,cs,rfl,hg,hc,hrow,hcap,hlt',hbi,hbig⟩
 ·rcases hv with rfl | rfl
  ·exact ⟨_,rfl,k _ (.inl ⟨.inl rfl,rfl⟩) rfl⟩
  ·exact ⟨_,rfl,k _ (.inl ⟨.inr rfl,rfl⟩) rfl⟩
 ·simp only [GW,Ar,hg,Option.bind_some,Option.isSome_some,Bool.or_true]
  rw [if_pos ⟨trivial,trivial,hcap⟩]
  rw [Vc (by omega) (by omega)]
  simp only [Option.bind_some,Int.toNat_natCast]
  rw [Vc (by omega) (by omega)]
  simp only [Option.bind_some,Int.toNat_natCast,Mi,Option.map_some]
  refine ⟨_,rfl,k _ (.inr ⟨id,el,R.length,cs, ?_,hg,by omega,hrow,Nat.le_refl _,hlt',hbi,hbig⟩) rfl⟩
  simp
theorem LP {h:AH} {i:Nat} {a b:BA}:(h.put i a).put i b=h.put i b:=by
 unfold AH.put
 congr 1
 funext j
 simp only
 split<;>rfl
theorem VD:AH.emp.next=0:=Ak rfl
theorem Ii:AH.emp.lim=0:=Ak rfl
theorem dV {i:Nat}:AH.emp.get i=none:=Ak rfl
theorem VE {l:List V} {j:Nat}:Ey l j=(l[j]?).getD .u:=by simp [Ey]
theorem XP {r:List V} {i:Nat}:over r i []=r:=Ak rfl
theorem Tb {r:List V} {i:Nat} {c:V} {cs:List V}:over r i (c::cs)=over (r.set i c) (i+1) cs:=Ak rfl
theorem SD {r:List V}:Ez r []=some r:=Ak rfl
theorem Pq {r:List V} {off n:Nat} {v:V} {ps:List (Nat×Nat×V)}:Ez r ((off,n,v)::ps)=if v.cells.length=n∧off+n≤r.length∧v.cells.all V.isCell=true then Ez (over r off v.cells) ps else none:=Ak rfl
theorem SC {sz:Nat} {r:List (List V)}:B3 sz r []=some r:=Ak rfl
theorem Pp {sz j:Nat} {r:List (List V)} {v:V} {ps:List (Nat×V)}:B3 sz r ((j,v)::ps)=if v.cells.length=sz∧j<r.length∧v.cells.all V.isCell=true then B3 sz (r.set j v.cells) ps else none:=Ak rfl
theorem AE {tp:TP} {f:Nat} {args:List V} {R:V} {tf:TF} (hf:tp.fn f=some tf) (hl:args.length≤tf.n) (z:FS args→ZC tp tf.body (Ey args) AH.emp (fun x e h=>Hf tf.res x e h (fun r h'=>CY (fun _=>True) h' 0 r R))):Pf tp f args R:=aFq hf hl z
theorem Ac {tp:TP} {f:Nat} {args:List V} {h:AH} {K:V→AH→Prop} {tf:TF} (hf:tp.fn f=some tf) (hl:args.length≤tf.n) (z:Wf h→FS args→ZC tp tf.body (Ey args) h (fun x e h2=>Hf tf.res x e h2 K)):Cq tp f args h K:=oT hf hl z
structure He (h:AH) (id:Nat) (k:BA) (h':AH):Prop where
 next:h.next≤h'.next
 lim:h'.lim=h.lim
 here:h'.get id=some k
 get:∀ i,i<h.next→i≠id→h'.get i=h.get i
theorem Cn.ext {h h3:AH} {r R:V} (wf:Wf h) (x:Aq h h3) (fr:CY (h.next≤·) h3 h.next r R):Cn h h3 r (h.next≤·) R h:=
 ⟨Nat.le_refl _,rfl,x.next,fun i k hk=>⟨(wf.2 i k hk).1,Nat.not_le_of_lt (wf.2 i k hk).1,k.cs,by rw [x.get i (wf.2 i k hk).1];exact hk,(wf.2 i k hk).2 _ _⟩,fr⟩
theorem Cn.upd {h h3:AH} {r R:V} {id:Nat} {b:BA} (wf:Wf h) (u:He h id b h3) (hid:id<h.next) (fb:DI (h.next≤·) h3 h.next b.cs b.cs) (fr:CY (h.next≤·) h3 h.next r R):Cn h h3 r (h.next≤·) R (h.put id b):=by
 refine ⟨Nat.le_refl _,rfl,u.next,fun i k hk=>?_,fr⟩
 by_cases e:i=id
 ·subst e
  have:k=b:=by simpa [AH.put] using hk.symm
  subst this
  exact ⟨hid,Nat.not_le_of_lt hid,k.cs,u.here,fb⟩
 ·have hk2:h.get i=some k:=by simpa [AH.put,e] using hk
  exact ⟨(wf.2 i k hk2).1,Nat.not_le_of_lt (wf.2 i k hk2).1,k.cs,by rw [u.get i (wf.2 i k hk2).1 e];exact hk2,(wf.2 i k hk2).2 _ _⟩
theorem aG {e:Env} {h h2:AH} (P:Nat→Prop) (live:List Nat) (w:Nat→V) (z:Wf h→h2.next=h.next∧h2.lim=h.lim∧(∀ i k,h2.get i=some k→i<h2.next∧¬ P i∧∃ cs,h.get i=some ⟨k.sz,cs⟩∧DI P h h2.next cs k.cs)∧∀ t,t∈live→CY P h h2.next (e t) (w t)):Stp e h (fun t=>if t∈live then w t else .u) h2:=by
 intro S m hc e1 c p
 obtain ⟨hn,hl,hb,hv⟩:=z c.wf
 have st:∀ r R,CY P h h2.next r R→Cn h h r P R h2:=fun r R f=>⟨Nat.le_of_eq hn.symm,hl,Nat.le_of_eq hn,hb,f⟩
 obtain ⟨q1,q2,_⟩:=(st .u .u (.z _ _ .u)).ok c c (EH.refl c) (.u _ .u)
 refine ⟨_,q1,q2,fun t=>?_⟩
 by_cases ht:t∈live
 ·simp only [if_pos ht]
  exact ((st _ _ (hv t ht)).ok c c (EH.refl c) (p t)).2.2
 ·simp only [if_neg ht]
  exact .u _ _
theorem aCr {tp : TP} {c : TC} {K : Ex → Env → AH → Prop} {e : Env} {h : AH} (live : List Nat) (bx id sz : Nat) (row row' : List V) (hne : bx ≠ id) (hbx : h.get bx = some ⟨sz, [row]⟩) (hr : DI (· = id) h h.next [row] [row'])
    (hv:∀ t,t∈live→CY (·=id) h h.next (e t) (e t)) (z:∀ e2,(∀ t,t∈live→e2 t=e t)→ZC tp (.loop c) e2 ((h.kill id).put bx ⟨sz,[row']⟩) K):ZC tp (.loop c) e h K:=by
 refine bS (aG (h2:=(h.kill id).put bx ⟨sz,[row']⟩) (·=id) live e (fun wf=>⟨rfl,rfl,fun i k hk=>?_,hv⟩)) (z _ (fun t ht=>if_pos ht))
 rw [Ae] at hk
 by_cases hi:i=bx
 ·rw [Ax hi] at hk
  subst hi
  cases hk
  exact ⟨(wf.2 _ _ hbx).1,hne,_,hbx,hr⟩
 ·rw [Ag hi,B4] at hk
  by_cases hd:i=id
  ·rw [Ax hd] at hk;cases hk
  ·rw [Ag hd] at hk
   exact ⟨(wf.2 i k hk).1,hd,k.cs,hk,(wf.2 i k hk).2 _ _⟩
theorem Ie {tp:TP} {f:Nat} {args:List V} {h:AH} {K:V→AH→Prop} {R:V} {tf:TF} (hf:tp.fn f=some tf) (hl:args.length≤tf.n) (k:K R h) (z:h.lim≤h.next→FS args→ZC tp tf.body (Ey args) h (fun x e h2=>Hf tf.res x e h2 (fun r h3=>CY (h.next≤·) h3 h.next r R∧Aq h h3))):Cq tp f args h K:=
 nC hf hl fun wf rp=>Eo (fun x e h2 q=>by
  cases x with
  | ex _=>exact q
  | nm=>obtain ⟨v,hv,fr,x⟩:=q;exact ⟨v,hv,_,_,_,Cn.ext wf x fr,k⟩
  | rt=>obtain ⟨v,hv,fr,x⟩:=q;exact ⟨v,hv,_,_,_,Cn.ext wf x fr,k⟩) (z wf.1 rp)
attribute [go_sem ↓] bR aCt bQ aCs bP bO UN aCu UO UP aCv aCF aCE U5 aCC aCD aRv aO UF aQ aPj aPi aPh aPg aEy aEz aEx Bq Be
attribute [go_sem] aCM aCN aCL AX AQ Gx
attribute [go_sem ↓] aPq bK Iy O2 UH O3 Lc bA O0 aZ aPn Ld UL aCf bG UM aCp aCe aCg UK bC UJ UI bD aU aV aS aW aPs bB bN aCk O4 O1 bI bH bJ aY IA RY aCi aCj aCl bE aCm bL aCh aCd aCo bM bF aPp aPr aCq aPo
attribute [go_sem] QS aCn
attribute [go_sem ↓] RZ bU bV bW bX bZ UR bT R3 US UT aCw aCx cA cB cC R5 cD cE UU cF cG cH UV UW UX UY UZ U0 UQ aCy aCz aCA cI U1 cJ U2 U3 R6 O5 R7 U4 cK aCB
attribute [go_sem ↓] Env.set_get
attribute [go_sem] Env.set_none aRz aPy aPx aPz aPC aPD aPA aPB aCS oF XT XS XU Tf Tg Td Te
attribute [go_sem] Ax Ag AV Ae B4 SH V1 Af Ai FJ Jm S9 A9 Eb Xx KO Xw VD Ii dV
attribute [go_sem ↓] HC Gg
attribute [go_sem] aP aCa LW Kv Nk LV
attribute [go_sem] aPt aPu aPX aEo Xu aCP Qv sameVa_sl Yp Tu Yn Yo Ym iS Yl iQ iR XA Xy aPm aX aEt gN XF aEr aEs Sx dQ jA aEe Yf Yg Ye iO Nh Qq cS cT cU aPk aPl iX Ys aEX aCX dZ VO fU fV fX Xg Xh iU VL gE gC gF gD iY Ty KE S5 aEk aCT aPR
attribute [go_sem] cW dH dD dF dG cX aCK cY dE dC dB dA cZ Va Vb aFb aFa aPZ aPY VZ SG aRH aRw aRJ aPS Mi Vc Sg dM dK dP Vn Vm dN Vl Vh Vi Vg Vj Vk dL Si Xm Xk Xo SX SW Xn SV SO SQ SN SR SU Xl P8 w64 Hn cL cM iJ iK iL Tn dJ X8 Tl Tm
attribute [go_sem] aRB aCV dW VG aPH aPG aPI
attribute [go_sem] List.length_cons List.length_nil List.getElem?_cons_zero List.getElem?_cons_succ List.getElem?_nil List.drop_zero List.drop_succ_cons List.drop_nil List.take_succ_cons List.take_zero List.take_nil List.map_cons List.map_nil List.all_cons List.all_nil List.set_cons_zero List.set_cons_succ List.cons_append List.nil_append List.append_nil List.length_map gR
attribute [go_sem] aFn aFm aFo oV oX oU oW ZA Zz TT RR Int.reduceLE Int.reduceLT Int.reduceEq Int.reduceAdd Int.reduceSub Int.reduceToNat
attribute [go_sem] Nat.zero_add Nat.add_zero and_true true_and decide_true decide_false not_true_eq_false not_false_eq_true Bool.not_true Bool.not_false Bool.and_true Bool.true_and Bool.and_false Bool.false_and Int.toNat_natCast Option.map_some Option.map_none Option.bind_some Nat.zero_le Nat.le_refl List.take_length Nat.sub_zero Nat.sub_self
attribute [go_sem ↓] reduceIte
attribute [go_sem] Nat.reduceEqDiff Nat.reduceAdd Nat.reduceSub Nat.reduceLeDiff Nat.reduceLT List.reduceReplicate Nat.reduceMul Int.reduceNeg reduceCtorEq
attribute [go_sem] VE Option.getD_some Option.getD_none XP Tb SD Pq SC Pp
theorem Kr {α:Type} {l:List α} {i j:Nat} {a:α} (h:¬ i=j):(l.set i a)[j]?=l[j]?:=List.getElem?_set_ne h
attribute [go_sem] Lx Kr List.set_set List.length_set
attribute [go_sem] LP Pj Hq SA LD
attribute [go_sem] Int.natCast_add Int.natCast_one Int.natCast_zero Int.add_sub_cancel Int.sub_add_cancel Nat.add_sub_cancel
attribute [go_sem] aP2 aP4 aP5 aEO aES aEN aER aEQ aEP aP6 iD iG aP3 iE X0 Tj
abbrev On (o:O):TO:=⟨none,o,none⟩
abbrev Of (d f s:Nat):TO:=⟨some d,.fad f (.t s),none⟩
end Go.Ab
