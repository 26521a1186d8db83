/- Part of a proof that a law returns true for every input of the second form's bound (no other condition). -/
import Derived.IntWalk
import Derived.Test.YtlcknhidblndnaaGreatPC
set_option linter.all false
/- Conditions ahead of code over values that stay; what they say of the abstract machine; functions by what they answer. -/
namespace Go.Ab
open Go
def AH.emp:AH:=⟨λ_=>none,0,0⟩
def EP (S:Nat->Prop) (m:Nat->Nat) (h hc:AH) (e e1:Env):Prop:=∀ t,PR S m hc.get h.next (e t) (e1 t)
section
variable (tp:TP)
def Cq (f:Nat) (args:List V) (h:AH) (Q:V->AH->Prop) (t:Fz Q:=.mk):Prop:=
 ∀ S m hc args1,CG S m h hc->Bz S m hc.get h.next args args1->Ev tp f args1 hc (λr1 hc'=>∃ r h' S' m',CG S' m' h' hc'/\E6 S m h hc S' m' h' hc'/\PR S' m' hc'.get h'.next r r1/\Q r h')
def Pf (f:Nat) (args:List V) (R:V):Prop:=Cq tp f args AH.emp (λr h'=>r=R/\h'=AH.emp)
def TE (neg:Bool) (v w:V) (h:AH) (K:V->AH->Prop):Prop:=match v,w with
 | .fl _ xs,.ns=>∀ t:Bool,(xs≠[]->t=false)->K (.b (if neg then !t else t)) h
 | v,w=>Wo (FD .sl v w) (λr=>K (.b (if neg then !r else r)) h)
def z1 (o:O) (e:Env) (h:AH) (K:V->AH->Prop):Prop:=match o with
 | .eq neg .sl a b=>TE neg (a.e2 e) (b.e2 e) h K
 | .call f l=>Wo (callee tp (.call f l) (X.e2 e)) (λc=>Cq tp c.1 c.2 h K)
 | .inv x m l=>Wo (callee tp (.inv x m l) (X.e2 e)) (λc=>Cq tp c.1 c.2 h K)
 | o=>Wo (BA tp o (X.e2 e) h) (λz=>K z.1 z.2)
def Ml:List TO->Env->AH->(Env->AH->Prop)->Prop
 | [],e,h,K=>K e h
 | o::r,e,h,K=>match AK e o.g with
  | some true=>z1 tp o.o e h (λv h=>Ml r (e.set o.d v) h K)
  | some false=>Ml r (e.set o.d (.tup [])) h K
  | none=>False
def zq1 (o:O) (e:Env) (h:AH) (K:V->AH->Prop):Prop:=if AS o=true then z1 tp o e h K else z1 tp o e h.raise (λv h'=>K v (h'.back h.lim))
def zq:List TO->Env->AH->(Env->AH->Prop)->Prop
 | [],e,h,K=>K e h
 | o::r,e,h,K=>match AK e o.g with
  | some true=>zq1 tp o.o e h (λv h=>zq r (e.set o.d v) h K)
  | some false=>zq r (e.set o.d (.tup [])) h K
  | none=>False
def zs:List (Bool×List TO)->Env->AH->(Env->AH->Prop)->Prop
 | [],e,h,K=>K e h
 | (true,l)::r,e,h,K=>zq tp l e h (λe h=>zs r e h K)
 | (false,l)::r,e,h,K=>Ml tp l e h (λe h=>zs r e h K)
def Stp (e:Env) (h:AH) (e2:Env) (h2:AH):Prop:=∀ S m hc e1,CG S m h hc->EP S m h hc e e1->∃ S',CG S' m h2 hc/\E6 S m h hc S' m h2 hc/\EP S' m h2 hc e2 e1
def zc:TC->Env->AH->(Ex->Env->AH->Prop)->Prop
 | .skip,e,h,K=>K .nm e h
 | .ret,e,h,K=>K .rt e h
 | .exit id,e,h,K=>K (.ex id) e h
 | .reg ops,e,h,K=>Ml tp ops e h (λe h=>K .nm e h)
 | .dreg segs,e,h,K=>zs tp segs e h (λe h=>K .nm e h)
 | .cond c a b,e,h,K=>Wb (c.e2 e) (zc a e h K) (zc b e h K)
 | .block id c,e,h,K=>zc c e h (λx e h=>K (blk id x) e h)
 | .seq a b,e,h,K=>zc a e h (λx e h=>S4 x (zc b e h K) (K x e h))
 | .loop c,e,h,K=>∀ I:Env->AH->Prop,(∀ e h,zc c e h (λx e h=>S4 x (I e h) (K x e h))->I e h)->(∀ e h e2 h2,Stp e h e2 h2->I e2 h2->I e h)->I e h
variable {tp}
theorem TG {o:O} {e:Env} {h:AH} {K L:V->AH->Prop} (kl:∀ v h,K v h->L v h) (z:z1 tp o e h K):z1 tp o e h L:=by
 unfold z1 at z ⊢;split at z
 .unfold TE at z ⊢;split at z
  .exact λt ht=>kl _ _ (z t ht)
  .obtain ⟨a,ha,z⟩:=z;exact ⟨a,ha,kl _ _ z⟩
 .obtain ⟨c,hc,z⟩:=z;refine ⟨c,hc,λS m hc args1 p q=>(z S m hc args1 p q).imp ?_⟩;rintro v h' ⟨r,h2,S',m',a,b,c,d⟩;exact ⟨r,h2,S',m',a,b,c,kl _ _ d⟩
 .obtain ⟨c,hc,z⟩:=z;refine ⟨c,hc,λS m hc args1 p q=>(z S m hc args1 p q).imp ?_⟩;rintro v h' ⟨r,h2,S',m',a,b,c,d⟩;exact ⟨r,h2,S',m',a,b,c,kl _ _ d⟩
 .obtain ⟨a,ha,z⟩:=z;exact ⟨a,ha,kl _ _ z⟩
theorem Io:∀ {l:List TO} {e:Env} {h:AH} {K L:Env->AH->Prop},(∀ v h,K v h->L v h)->Ml tp l e h K->Ml tp l e h L
 | [],_,_,_,_,kl,z=>kl _ _ z
 | o::r,e,h,K,L,kl,z=>by
  simp only [Ml] at z ⊢;split at z
  .exact TG (λ_ _=>Io kl) z
  .exact Io kl z
  .exact z
theorem Oq:∀ {l:List TO} {e:Env} {h:AH} {K L:Env->AH->Prop},(∀ v h,K v h->L v h)->zq tp l e h K->zq tp l e h L
 | [],_,_,_,_,kl,z=>kl _ _ z
 | o::r,e,h,K,L,kl,z=>by
  simp only [zq] at z ⊢;split at z
  .unfold zq1 at z ⊢;split at z
   .rename_i hp;rw [if_pos hp];exact TG (λ_ _=>Oq kl) z
   .rename_i hp;rw [if_neg hp];exact TG (λ_ _=>Oq kl) z
  .exact Oq kl z
  .exact z
theorem TH:∀ {l:List (Bool×List TO)} {e:Env} {h:AH} {K L:Env->AH->Prop},(∀ v h,K v h->L v h)->zs tp l e h K->zs tp l e h L
 | [],_,_,_,_,kl,z=>kl _ _ z
 | (true,l)::r,e,h,K,L,kl,z=>Oq (λ_ _=>TH kl) z
 | (false,l)::r,e,h,K,L,kl,z=>Io (λ_ _=>TH kl) z
theorem NV {x:Ex} {A B C D:Prop} (ac:A->C) (bd:B->D) (z:S4 x A B):S4 x C D:=by
 cases x<;>first | exact ac z | exact bd z
theorem ET:∀ {c:TC} {e:Env} {h:AH} {K L:Ex->Env->AH->Prop},(∀ x v h,K x v h->L x v h)->zc tp c e h K->zc tp c e h L
 | .skip,_,_,_,_,kl,z=>kl _ _ _ z
 | .ret,_,_,_,_,kl,z=>kl _ _ _ z
 | .exit _,_,_,_,_,kl,z=>kl _ _ _ z
 | .reg ops,_,_,_,_,kl,z=>Io (λ_ _=>kl _ _ _) z
 | .dreg segs,_,_,_,_,kl,z=>TH (λ_ _=>kl _ _ _) z
 | .cond c a b,e,h,K,L,kl,z=>by
  simp only [zc,Wb] at z ⊢;split at z
  .exact ET kl z
  .exact ET kl z
  .exact z
 | .block id c,_,_,_,_,kl,z=>ET (c:=c) (λ_ _ _=>kl _ _ _) z
 | .seq a b,_,_,_,_,kl,z=>ET (c:=a) (λx _ _=>NV (ET kl) (kl _ _ _)) z
 | .loop c,_,_,_,_,kl,z=>λI hI hS=>z I (λe h q=>hI e h (ET (c:=c) (λx _ _=>NV id (kl _ _ _)) q)) hS
/-! ### What it says of the abstract machine -/
section
variable {S:Nat->Prop} {m:Nat->Nat} {h hc:AH}
theorem CG.raise (c:CG S m h hc):CG S m h.raise hc.raise:=
 ⟨c.blk,c.inj,c.off,c.low,λi hi hl=>by
  obtain ⟨k,hk⟩:=Option.ne_none_iff_exists'.1 hi;have:=(c.blk i k hk).1;have:h.next<=i:=hl;omega,Nat.le_refl _,Nat.le_refl _⟩
theorem CG.back {S':Nat->Prop} {m':Nat->Nat} {h' hc':AH} (c:CG S m h hc) (c':CG S' m' h' hc') (a:E6 S m h.raise hc.raise S' m' h' hc'):CG S' m' (h'.back h.lim) (hc'.back hc.lim)/\E6 S m h hc S' m' (h'.back h.lim) (hc'.back hc.lim):=by
 refine ⟨⟨c'.blk,c'.inj,c'.off,c'.low,λi hi hl=>?_,Nat.le_trans c.bnd a.next1,Nat.le_trans c.bnd2 a.next2⟩,⟨a.sub,a.new,a.map,a.next2,a.next1,rfl,rfl,a.frame,a.liv⟩⟩;rcases a.liv i hi with ⟨h1,h2⟩ | h1
 .rw [a.map i h1];exact c.lim i h2 hl
 .exact Nat.le_trans c.bnd h1
theorem EP.mono {S':Nat->Prop} {m':Nat->Nat} {h' hc':AH} {e e1:Env} (c:CG S m h hc) (a:E6 S m h hc S' m' h' hc') (p:EP S m h hc e e1):EP S' m' h' hc' e e1:=λt=>(p t).mono (a.mon c)
theorem EP.set {e e1:Env} {v v1:V} (p:EP S m h hc e e1) (q:PR S m hc.get h.next v v1) (d:Option Nat):EP S m h hc (e.set d v) (e1.set d v1):=by
 intro t
 cases d with
 | none=>exact p t
 | some d=>simp only [Env.set];split;exact q;exact p t
theorem FS {e e1:Env} (p:EP S m h hc e e1) {g:Option (Nat×Bool)} {b:Bool} (hw:AK e g=some b):AK e1 g=some b:=by
 unfold AK at hw ⊢;split at hw
 .exact hw
 .rename_i t x;have q:=p t;split at hw
  .rename_i y hy;rw [hy] at q;cases hq:e1 t<;>rw [hq] at q<;>cases q;exact hw
  .rename_i hy;rw [hy] at q;cases hq:e1 t<;>rw [hq] at q<;>cases q;rename_i q;cases q;exact hw
  .simp at hw
def zX (S:Nat->Prop) (m:Nat->Nat) (h hc:AH) (K:V->AH->Prop) (v1:V) (hc':AH):Prop:=∃ v h' S' m',CG S' m' h' hc'/\E6 S m h hc S' m' h' hc'/\PR S' m' hc'.get h'.next v v1/\K v h'
def CE (S:Nat->Prop) (m:Nat->Nat) (h hc:AH) (K:Env->AH->Prop) (e1:Env) (hc':AH):Prop:=∃ e h' S' m',CG S' m' h' hc'/\E6 S m h hc S' m' h' hc'/\EP S' m' h' hc' e e1/\K e h'
theorem Mv {e e1:Env} (p:EP S m h hc e e1) {o:O} {f:Nat} {args:List V} (hk:callee tp o (X.e2 e)=some (f,args)):∃ args1,callee tp o (X.ev e1)=some (f,args1)/\Bz S m hc.get h.next args args1:=by
 have all:∀ l:List X,Bz S m hc.get h.next (l.map (X.e2 e)) (l.map (X.ev e1)):=λl=>by
  induction l with
  | nil=>exact .nil _
  | cons a l ih=>exact .cons _ _ _ _ _ (Oz p a) ih
 unfold callee at hk ⊢;split at hk
 .rename_i x l;have q:=Oz p x;split at hk
  .rename_i g a b hx;rw [hx] at q;simp only [Option.some.injEq,Prod.mk.injEq] at hk;obtain ⟨rfl,rfl⟩:=hk;cases hq:X.ev e1 x<;>rw [hq] at q<;>cases q;rename_i q1 q2;exact ⟨_,rfl,(q1.app (all l)).app q2⟩
  .simp at hk
 .rename_i x mm l;have q:=Oz p x;split at hk
  .rename_i t v hx;rw [hx] at q;cases hq:X.ev e1 x<;>rw [hq] at q<;>cases q;rename_i q1;simp only [Option.bind_eq_some_iff] at hk ⊢;obtain ⟨mt,hmt,hk⟩:=hk;split at hk
   .rename_i ha;simp only [Option.some.injEq,Prod.mk.injEq] at hk;obtain ⟨rfl,rfl⟩:=hk;refine ⟨_,⟨mt,hmt, ?_⟩,.cons _ _ _ _ _ q1 (all l)⟩;simp only [ha]
   .rename_i j ha;split at hk
    .simp only [Option.map_eq_some_iff,Prod.mk.injEq] at hk;obtain ⟨r,hr,rfl,rfl⟩:=hk;cases q1;rename_i q1;obtain ⟨r',h1,h2⟩:=q1.get _ _ hr;refine ⟨r'::l.map (X.ev e1),⟨mt,hmt, ?_⟩,.cons _ _ _ _ _ h2 (all l)⟩;simp only [ha,h1,Option.map_some]
    .simp at hk
  .simp at hk
 .simp at hk
theorem Va (c:CG S m h hc) {e e1:Env} (p:EP S m h hc e e1) {o:O} {K:V->AH->Prop} (z:z1 tp o e h K):W1 tp o e1 hc (zX S m h hc K):=by
 unfold z1 at z;split at z
 .rename_i neg a b;have pa:=Oz p a;have pb:=Oz p b;rw [T3 (λC=>rfl)];simp only [Ag];rw [Bs];unfold TE at z;split at z
  .rename_i s xs ha hb;rw [ha] at pa;rw [hb] at pb;cases hb':X.ev e1 b<;>rw [hb'] at pb<;>cases pb;have key:∀ t:Bool,(xs≠[]->t=false)->FD .sl (X.ev e1 a) .ns=some t->Wo (FD .sl (X.ev e1 a) .ns) (λr=>zX S m h hc K (.b (if neg=true then !r else r)) hc):=by
    intro t ht he;rw [he,AV];exact ⟨_,h,S,m,c,E6.refl c,.b _ _,z t ht⟩
   cases ha':X.ev e1 a<;>rw [ha'] at pa key<;>cases pa
   .exact key true (by simp) rfl
   .exact key false (by simp) rfl
   .exact key false (by simp) rfl
  .obtain ⟨r,hr,z⟩:=z;rw [Y7 hr pa pb,AV];exact ⟨_,h,S,m,c,E6.refl c,.b _ _,z⟩
 .obtain ⟨⟨f,args⟩,hk,z⟩:=z;obtain ⟨args1,hk1,q⟩:=Mv p hk;rw [mM,hk1,AV];exact z S m hc args1 c q
 .obtain ⟨⟨f,args⟩,hk,z⟩:=z;obtain ⟨args1,hk1,q⟩:=Mv p hk;rw [aLg,hk1,AV];exact z S m hc args1 c q
 .rename_i hn0 hn1 hn2;obtain ⟨⟨v,h'⟩,hd,z⟩:=z;obtain ⟨v1,hc',S',m',h1,h2,h3,h4⟩:=aL4 c (Oz p) hd;rw [T3 (λC=>by unfold A3;split<;>first | rfl | (exact absurd rfl (hn1 _ _)) | (exact absurd rfl (hn2 _ _ _))),h1,AV];exact ⟨v,h',S',m',h2,h3,h4,z⟩
theorem CE.then {S':Nat->Prop} {m':Nat->Nat} {h' hc':AH} (a:E6 S m h hc S' m' h' hc') {K:Env->AH->Prop} {e1:Env} {hq:AH} (z:CE S' m' h' hc' K e1 hq):CE S m h hc K e1 hq:=by
 obtain ⟨e,h2,S2,m2,c2,a2,p,k⟩:=z;exact ⟨e,h2,S2,m2,c2,a.trans a2,p,k⟩
end
theorem Jt.imp {l:List TO} {e:Env} {h:AH} {Q R:Env->AH->Prop} (w:Jt tp l e h Q) (qr:∀ e h,Q e h->R e h):Jt tp l e h R:=by
 obtain ⟨k,e',h',he,q⟩:=w;exact ⟨k,e',h',he,qr _ _ q⟩
theorem WQ.imp {l:List TO} {e:Env} {h:AH} {Q R:Env->AH->Prop} (w:WQ tp l e h Q) (qr:∀ e h,Q e h->R e h):WQ tp l e h R:=by
 obtain ⟨k,e',h',he,q⟩:=w;exact ⟨k,e',h',he,qr _ _ q⟩
theorem WS.imp {l:List (Bool×List TO)} {e:Env} {h:AH} {Q R:Env->AH->Prop} (w:WS tp l e h Q) (qr:∀ e h,Q e h->R e h):WS tp l e h R:=by
 obtain ⟨k,e',h',he,q⟩:=w;exact ⟨k,e',h',he,qr _ _ q⟩
theorem W1.imp {o:O} {e:Env} {h:AH} {Q R:V->AH->Prop} (w:W1 tp o e h Q) (qr:∀ v h,Q v h->R v h):W1 tp o e h R:=by
 obtain ⟨k,e',h',he,q⟩:=w;exact ⟨k,e',h',he,qr _ _ q⟩
theorem JQ:∀ (l:List TO) {S:Nat->Prop} {m:Nat->Nat} {h hc:AH} {e e1:Env} {K:Env->AH->Prop},CG S m h hc->EP S m h hc e e1->Ml tp l e h K->Jt tp l e1 hc (CE S m h hc K)
 | [],S,m,h,hc,e,e1,K,c,p,z=>by rw [Ow];exact ⟨e,h,S,m,c,E6.refl c,p,z⟩
 | ⟨d,o,g⟩::r,S,m,h,hc,e,e1,K,c,p,z=>by
  simp only [Ml] at z;split at z
  .rename_i hw;rw [JU (FS p hw)];refine (Va c p z).imp ?_;rintro v1 hc' ⟨v,h',S',m',c',a',q,z⟩;exact (JQ r c' ((p.mono c a').set q d) z).imp λ_ _=>CE.then a'
  .rename_i hw;rw [Vf (FS p hw)];exact JQ r c (p.set (.tup _ _ _ (.nil _)) d) z
  .exact z.elim
theorem M5:∀ (l:List TO) {S:Nat->Prop} {m:Nat->Nat} {h hc:AH} {e e1:Env} {K:Env->AH->Prop},CG S m h hc->EP S m h hc e e1->zq tp l e h K->WQ tp l e1 hc (CE S m h hc K)
 | [],S,m,h,hc,e,e1,K,c,p,z=>by rw [XZ];exact ⟨e,h,S,m,c,E6.refl c,p,z⟩
 | ⟨d,o,g⟩::r,S,m,h,hc,e,e1,K,c,p,z=>by
  simp only [zq] at z;split at z
  .rename_i hw;rw [Na (FS p hw)];unfold WQ1;unfold zq1 at z;split at z
   .rename_i hp;rw [if_pos hp];refine ⟨?_,(Va c p z).imp ?_⟩
    .cases o<;>try rfl
     rename_i sz x i;simp only [z1,BA] at z;obtain ⟨w,hw,_⟩:=z;simp only [Option.map_eq_some_iff] at hw;obtain ⟨v,hv,_⟩:=hw;have q:=Oz p x;simp only [Ja];split
     .rename_i id el len cap hx;rw [hx] at q;unfold tC at hv;split at hv
      .rename_i k hk hb;rw [hk] at q;cases q;simp only [hk,OG] at hb;obtain ⟨_,_,cs,hcs,_⟩:=c.blk _ _ hb;rw [hcs];rfl
      .rename_i s xs _ hk;rw [hk] at q;cases q;simp only [*];rfl
      .simp at hv
     .rfl
    .rintro v1 hc' ⟨v,h',S',m',c',a',q,z⟩;exact (M5 r c' ((p.mono c a').set q d) z).imp λ_ _=>CE.then a'
   .rename_i hp;rw [if_neg hp];have p':EP S m h.raise hc.raise e e1:=p;refine (Va c.raise p' z).imp ?_;rintro v1 hc' ⟨v,h',S',m',c',a',q,z⟩;obtain ⟨c2,a2⟩:=c.back c' a';exact (M5 r c2 ((p.mono c a2).set q d) z).imp λ_ _=>CE.then a2
  .rename_i hw;rw [Nb (FS p hw)];exact M5 r c (p.set (.tup _ _ _ (.nil _)) d) z
  .exact z.elim
theorem Vb:∀ (l:List (Bool×List TO)) {S:Nat->Prop} {m:Nat->Nat} {h hc:AH} {e e1:Env} {K:Env->AH->Prop},CG S m h hc->EP S m h hc e e1->zs tp l e h K->WS tp l e1 hc (CE S m h hc K)
 | [],S,m,h,hc,e,e1,K,c,p,z=>by rw [aLj];exact ⟨e,h,S,m,c,E6.refl c,p,z⟩
 | (true,l)::r,S,m,h,hc,e,e1,K,c,p,z=>by
  rw [Ox];refine (M5 l c p z).imp ?_;rintro e1' hc' ⟨e',h',S',m',c',a',p',z⟩;exact (Vb r c' p' z).imp λ_ _=>CE.then a'
 | (false,l)::r,S,m,h,hc,e,e1,K,c,p,z=>by
  rw [X0];refine (JQ l c p z).imp ?_;rintro e1' hc' ⟨e',h',S',m',c',a',p',z⟩;exact (Vb r c' p' z).imp λ_ _=>CE.then a'
theorem Gs:∀ (cd:TC) {S:Nat->Prop} {m:Nat->Nat} {h hc:AH} {e e1:Env} {K:Ex->Env->AH->Prop},CG S m h hc->EP S m h hc e e1->zc tp cd e h K->WC tp cd e1 hc (λx=>CE S m h hc (K x))
 | .skip,S,m,h,hc,e,e1,K,c,p,z=>by rw [mQ];exact ⟨e,h,S,m,c,E6.refl c,p,z⟩
 | .ret,S,m,h,hc,e,e1,K,c,p,z=>by rw [aLi];exact ⟨e,h,S,m,c,E6.refl c,p,z⟩
 | .exit id,S,m,h,hc,e,e1,K,c,p,z=>by rw [mO];exact ⟨e,h,S,m,c,E6.refl c,p,z⟩
 | .reg ops,S,m,h,hc,e,e1,K,c,p,z=>by rw [aLh];exact JQ ops c p z
 | .dreg segs,S,m,h,hc,e,e1,K,c,p,z=>by rw [T4];exact Vb segs c p z
 | .cond q a b,S,m,h,hc,e,e1,K,c,p,z=>by
  rw [mN];have r:=Oz p q;simp only [zc,Wb] at z;split at z
  .rename_i hx;rw [hx] at r;cases hq:X.ev e1 q<;>rw [hq] at r<;>cases r;exact Gs a c p z
  .rename_i hx;rw [hx] at r;cases hq:X.ev e1 q<;>rw [hq] at r<;>cases r;exact Gs b c p z
  .exact z.elim
 | .block id cd,S,m,h,hc,e,e1,K,c,p,z=>by rw [XY];exact Gs cd c p z
 | .seq a b,S,m,h,hc,e,e1,K,c,p,z=>by
  rw [Rr];refine (Gs a c p z).imp ?_;rintro x e1' hc' ⟨e',h',S',m',c',a',p',z⟩
  cases x with
  | nm=>exact (Gs b c' p' z).imp λ_ _ _=>CE.then a'
  | ex j=>exact ⟨e',h',S',m',c',a',p',z⟩
  | rt=>exact ⟨e',h',S',m',c',a',p',z⟩
 | .loop cd,S,m,h,hc,e,e1,K,c,p,z=>by
  refine z (λe h=>∀ S m hc e1,CG S m h hc->EP S m h hc e e1->WC tp (.loop cd) e1 hc (λx=>CE S m h hc (K x))) ?_ ?_ S m hc e1 c p
  rotate_left
  .intro e h e2 h2 st q S m hc e1 c p;obtain ⟨S',c',a',p'⟩:=st S m hc e1 c p;exact (q S' m hc e1 c' p').imp λ_ _ _=>CE.then a'
  intro e h q S m hc e1 c p;refine mP ((Gs cd c p q).imp ?_);rintro x e1' hc' ⟨e',h',S',m',c',a',p',z⟩
  cases x with
  | nm=>exact (z S' m' hc' e1' c' p').imp λ_ _ _=>CE.then a'
  | ex j=>exact ⟨e',h',S',m',c',a',p',z⟩
  | rt=>exact ⟨e',h',S',m',c',a',p',z⟩
/-! ### Functions -/
section
variable {S:Nat->Prop} {m:Nat->Nat} {h hc:AH}
theorem dP (c:CG S m h hc) {e e1:Env} (p:EP S m h hc e e1):∀ {l:List RV} {vs:List V},W6 e h l=some vs->∃ vs1,W6 e1 hc l=some vs1/\Bz S m hc.get h.next vs vs1
 | [],vs,hv=>by simp [W6] at hv;subst hv;exact ⟨[],rfl,.nil _⟩
 | r::l,vs,hv=>by
  simp only [W6,Option.bind_eq_some_iff,Option.map_eq_some_iff] at hv ⊢;obtain ⟨v,h1,ws,h2,rfl⟩:=hv;obtain ⟨ws1,h3,h4⟩:=dP c p h2;have:∃ v1,Tn e1 hc r=some v1/\PR S m hc.get h.next v v1:=by
   cases r with
   | t n=>simp [Tn] at h1 ⊢;subst h1;exact p n
   | cell n k agg=>
    have q:=p n;simp only [Tn] at h1 ⊢;split at h1
    .rename_i id el off hx;rw [hx] at q;cases hq:e1 n<;>rw [hq] at q<;>cases q;simp only [Option.bind_eq_some_iff] at h1;obtain ⟨b,hb,row,hr,hcut⟩:=h1;exact HS c hb hr hcut
    .simp at h1
  obtain ⟨v1,h5,h6⟩:=this;exact ⟨_,⟨v1,h5,ws1,h3,rfl⟩,.cons _ _ _ _ _ h6 h4⟩
theorem N7 (c:CG S m h hc) {e e1:Env} (p:EP S m h hc e e1) {l:List RV} {v:V} (hv:BI e h l=some v):∃ v1,BI e1 hc l=some v1/\PR S m hc.get h.next v v1:=by
 simp only [BI,Option.map_eq_some_iff] at hv ⊢;obtain ⟨vs,h1,rfl⟩:=hv;obtain ⟨vs1,h2,h3⟩:=dP c p h1;refine ⟨_,⟨vs1,h2,rfl⟩, ?_⟩
 cases h3 with
 | nil=>exact .tup _ _ _ (.nil _)
 | cons _ v v' l l' q r=>
  cases r with
  | nil=>exact q
  | cons _ w w' l l' q' r=>exact .tup _ _ _ (.cons _ _ _ _ _ q (.cons _ _ _ _ _ q' r))
end
def G1 (res:List RV) (x:Ex) (e:Env) (h:AH) (Q:V->AH->Prop) (t:Fz (PProd.mk e Q):=.mk):Prop:=match x with | .ex _=>False | _=>Wo (BI e h res) (λv=>Q v h)
inductive E8:V->Prop where
 | b (x:Bool):E8 (.b x)
 | i (k:IntKind) (z:Int):E8 (.i k z)
 | s (x:ByteArray):E8 (.s x)
 | np:E8 .np
 | ns:E8 .ns
 | e0:E8 .e0
 | nf:E8 .nf
 | ni:E8 .ni
 | u:E8 .u
mutual
inductive CY (P:Nat->Prop) (h:AH):Nat->V->V->Prop where
 | z (n:Nat) (v:V):E8 v->CY P h n v v
 | ns (n:Nat) (sz:Nat):CY P h n .ns (.fl sz [])
 | e0 (n:Nat) (sz:Nat):CY P h n .e0 (.fl sz [])
 | fl (n:Nat) (sz:Nat) (xs:List (List V)):CY P h n (.fl sz xs) (.fl sz xs)
 | fp (n:Nat) (sz:Nat) (xs:List (List V)) (j o:Nat):CY P h n (.fp sz xs j o) (.fp sz xs j o)
 | sl (n:Nat) (id el len cap sz:Nat) (cs xs:List (List V)):P id->h.get id=some ⟨sz,cs⟩->el+len<=cs.length->len<=cap->len<Hc->Dc P h 0 ((cs.drop el).take len) xs->CY P h n (.sl id el len cap) (.fl sz xs)
 | p (n:Nat) (id el off:Nat):id<n->CY P h n (.p id el off) (.p id el off)
 | so (n:Nat) (id el len cap:Nat):id<n->CY P h n (.sl id el len cap) (.sl id el len cap)
 | f (n:Nat) (fn:Fn) (a c a' c':List V):Cr P h n a a'->Cr P h n c c'->CY P h n (.f fn a c) (.f fn a' c')
 | ifc (n:Nat) (t:Nat) (v v':V):CY P h n v v'->CY P h n (.ifc t v) (.ifc t v')
 | agg (n:Nat) (l l':List V):Cr P h n l l'->CY P h n (.agg l) (.agg l')
 | tup (n:Nat) (l l':List V):Cr P h n l l'->CY P h n (.tup l) (.tup l')
inductive Cr (P:Nat->Prop) (h:AH):Nat->List V->List V->Prop where
 | nil (n:Nat):Cr P h n [] []
 | cons (n:Nat) (v v':V) (l l':List V):CY P h n v v'->Cr P h n l l'->Cr P h n (v::l) (v'::l')
inductive Dc (P:Nat->Prop) (h:AH):Nat->List (List V)->List (List V)->Prop where
 | nil (n:Nat):Dc P h n [] []
 | cons (n:Nat) (v v':List V) (l l':List (List V)):Cr P h n v v'->Dc P h n l l'->Dc P h n (v::l) (v'::l')
end
section
variable {S:Nat->Prop} {m:Nat->Nat} {h hc:AH} {P:Nat->Prop}
def SP (S:Nat->Prop) (m:Nat->Nat) (h:AH) (P:Nat->Prop) (a:Nat):Prop:=S a\/∃ i,P i/\h.live i/\m i=a
theorem Dc.len {n:Nat}:∀ {l l':List (List V)},Dc P h n l l'->l.length=l'.length
 | _,_,.nil _=>rfl
 | _,_,.cons _ _ _ _ _ _ q=>by simp [q.len]
mutual
theorem CY.ok (c:CG S m h hc) {n:Nat}:∀ {v r v1:V},CY P h n v r->PR S m hc.get h.next v v1->PR (SP S m h P) m hc.get n r v1
 | _,_,_,.z _ _ h0,p=>by cases h0<;>cases p<;>constructor
 | _,_,_,.ns _ sz,p=>by cases p;exact .fl0 _ _
 | _,_,_,.e0 _ sz,p=>by cases p;exact .fl1 _ _
 | _,_,_,.fl _ sz xs,p=>by
  cases p with
  | fl0=>exact .fl0 _ _
  | fl1=>exact .fl1 _ _
  | fl _ _ _ a el cap cs h1 h2 h3 h4 h5 r=>exact .fl _ _ _ _ _ _ _ (.inl h1) h2 h3 h4 h5 (r.mono ⟨λa h=>.inl h,λ_ _=>rfl,λi hi=>absurd hi (Nat.not_lt_zero _),Nat.le_refl _⟩)
 | _,_,_,.fp _ sz xs j o,p=>by
  cases p with
  | fp _ _ _ _ _ a el cs h1 h2 h3 r=>exact .fp _ _ _ _ _ _ _ _ (.inl h1) h2 h3 (r.mono ⟨λa h=>.inl h,λ_ _=>rfl,λi hi=>absurd hi (Nat.not_lt_zero _),Nat.le_refl _⟩)
 | _,_,_,.sl _ id el len cap sz cs xs hP hg h1 h2 h3 fr,p=>by
  cases p;obtain ⟨_,_,cs1,hcs,hr⟩:=c.blk id _ hg;have e:xs.length=len:=by rw [<- fr.len];simp;omega
  subst e;exact .fl _ _ _ _ _ _ cs1 (.inr ⟨id,hP,by simp [AH.live,hg],rfl⟩) hcs h2 (by rw [<- hr.len];exact h1) h3 (Dc.ok c fr ((hr.drop _).take _))
 | _,_,_,.p _ id el off hi,p=>by cases p;exact .p _ _ _ _ hi
 | _,_,_,.so _ id el len cap hi,p=>by cases p;exact .sl _ _ _ _ _ hi
 | _,_,_,.f _ fn a cc a' c' fa fc,p=>by cases p;rename_i p q;exact .f _ _ _ _ _ _ (Cr.ok c fa p) (Cr.ok c fc q)
 | _,_,_,.ifc _ t v v' fv,p=>by cases p;rename_i p;exact .ifc _ _ _ _ (CY.ok c fv p)
 | _,_,_,.agg _ l l' fl,p=>by cases p;rename_i p;exact .agg _ _ _ (Cr.ok c fl p)
 | _,_,_,.tup _ l l' fl,p=>by cases p;rename_i p;exact .tup _ _ _ (Cr.ok c fl p)
theorem Cr.ok (c:CG S m h hc) {n:Nat}:∀ {v r v1:List V},Cr P h n v r->Bz S m hc.get h.next v v1->Bz (SP S m h P) m hc.get n r v1
 | _,_,_,.nil _,p=>by cases p;exact .nil _
 | _,_,_,.cons _ v v' l l' fv fl,p=>by cases p;rename_i p q;exact .cons _ _ _ _ _ (CY.ok c fv p) (Cr.ok c fl q)
theorem Dc.ok (c:CG S m h hc) {n:Nat}:∀ {v r v1:List (List V)},Dc P h n v r->C7 S m hc.get h.next v v1->C7 (SP S m h P) m hc.get n r v1
 | _,_,_,.nil _,p=>by cases p;exact .nil _
 | _,_,_,.cons _ v v' l l' fv fl,p=>by cases p;rename_i p q;exact .cons _ _ _ _ _ (Cr.ok c fv p) (Dc.ok c fl q)
end
mutual
theorem PR.frz {g:Nat->Option BJ} {n:Nat} {P:Nat->Prop} {h:AH}:∀ {v v1:V},PR S m g n v v1->CY P h n v v
 | _,_,.u _ x=>.z _ _ .u
 | _,_,.b _ x=>.z _ _ (.b x)
 | _,_,.i _ k z=>.z _ _ (.i k z)
 | _,_,.s _ x=>.z _ _ (.s x)
 | _,_,.np _=>.z _ _ .np
 | _,_,.ns _=>.z _ _ .ns
 | _,_,.e0 _=>.z _ _ .e0
 | _,_,.nf _=>.z _ _ .nf
 | _,_,.ni _=>.z _ _ .ni
 | _,_,.p _ id el off h=>.p _ _ _ _ h
 | _,_,.sl _ id el len cap h=>.so _ _ _ _ _ h
 | _,_,.fl0 _ sz=>.fl _ _ _
 | _,_,.fl1 _ sz=>.fl _ _ _
 | _,_,.fl _ sz xs ..=>.fl _ _ _
 | _,_,.fp _ sz xs ..=>.fp _ _ _ _ _
 | _,_,.f _ fn a c a' c' p q=>.f _ _ _ _ _ _ p.frz q.frz
 | _,_,.ifc _ t v v' p=>.ifc _ _ _ _ p.frz
 | _,_,.agg _ l l' p=>.agg _ _ _ p.frz
 | _,_,.tup _ l l' p=>.tup _ _ _ p.frz
theorem Bz.frz {g:Nat->Option BJ} {n:Nat} {P:Nat->Prop} {h:AH}:∀ {v v1:List V},Bz S m g n v v1->Cr P h n v v
 | _,_,.nil _=>.nil _
 | _,_,.cons _ v v' l l' p q=>.cons _ _ _ _ _ p.frz q.frz
theorem C7.frz {g:Nat->Option BJ} {n:Nat} {P:Nat->Prop} {h:AH}:∀ {v v1:List (List V)},C7 S m g n v v1->Dc P h n v v
 | _,_,.nil _=>.nil _
 | _,_,.cons _ v v' l l' p q=>.cons _ _ _ _ _ p.frz q.frz
end
theorem SP.low (c:CG S m h hc):∀ a,SP S m h P a->a<hc.next:=by
 rintro a (ha | ⟨i,_,hi,rfl⟩)
 .exact c.low a ha
 .obtain ⟨k,hk⟩:=Option.ne_none_iff_exists'.1 hi;exact (c.blk i k hk).2.1
theorem CG.emp {T:Nat->Prop} (low:∀ a,T a->a<hc.next) (bnd:hc.lim<=hc.next) (m:Nat->Nat):CG T m AH.emp hc:=
 ⟨λi k hk=>by simp [AH.emp] at hk,λi j hi=>by simp [AH.live,AH.emp] at hi,λi hi=>by simp [AH.live,AH.emp] at hi,low,λi hi=>by simp [AH.live,AH.emp] at hi,bnd,Nat.le_refl _⟩
end
theorem EP.args {S:Nat->Prop} {m:Nat->Nat} {h hc:AH} {args args1:List V} (p:Bz S m hc.get h.next args args1):EP S m h hc (Fb args) (Fb args1):=by
 intro t;simp only [Fb,List.getD_eq_getElem?_getD]
 cases ht:args[t]? with
 | none=>
  have:args1[t]?=none:=by rw [List.getElem?_eq_none_iff] at ht ⊢;rw [<- p.len];exact ht
  rw [this];exact .u _ _
 | some v=>
  obtain ⟨v1,h1,h2⟩:=p.get t v ht;rw [h1];exact h2
def GU (v:V):Prop:=∃ S m g n v1,PR S m g n v v1
def F1 (l:List V):Prop:=∀ v,v∈l->GU v
theorem Bz.reps {S:Nat->Prop} {m:Nat->Nat} {g:Nat->Option BJ} {n:Nat}:∀ {l l1:List V},Bz S m g n l l1->F1 l
 | _,_,.nil _=>λv hv=>by simp at hv
 | _,_,.cons _ v v' l l' p q=>λw hw=>by
  rcases List.mem_cons.1 hw with rfl | hw
  .exact ⟨_,_,_,_,_,p⟩
  .exact q.reps w hw
theorem GU.big {s:Nat} {xs:List (List V)} (r:GU (.fl s xs)):xs.length<4000000000:=by
 obtain ⟨S,m,g,n,v1,p⟩:=r
 cases p with
 | fl0=>simp
 | fl1=>simp
 | fl _ _ _ a el cap cs h1 h2 h3 h4 h5 r=>exact h5
theorem GU.row {s:Nat} {xs:List (List V)} (r:GU (.fl s xs)) {row:List V} (hr:row∈xs):F1 row:=by
 obtain ⟨S,m,g,n,v1,p⟩:=r
 cases p with
 | fl0=>simp at hr
 | fl1=>simp at hr
 | fl _ _ _ a el cap cs h1 h2 h3 h4 h5 r=>
  obtain ⟨j,hj,rfl⟩:=List.getElem_of_mem hr;obtain ⟨row1,_,q⟩:=r.get j _ (List.getElem?_eq_getElem hj);exact q.reps
theorem GU.agg {l:List V} (r:GU (.agg l)):F1 l:=by
 obtain ⟨S,m,g,n,v1,p⟩:=r
 cases p with
 | agg _ _ _ q=>exact q.reps
theorem GU.tup {l:List V} (r:GU (.tup l)):F1 l:=by
 obtain ⟨S,m,g,n,v1,p⟩:=r
 cases p with
 | tup _ _ _ q=>exact q.reps
theorem GU.frzr {s:Nat} {xs:List (List V)} (r:GU (.fl s xs)) {P:Nat->Prop} {h:AH}:Dc P h 0 xs xs:=by
 obtain ⟨S,m,g,n,v1,p⟩:=r
 cases p with
 | fl0=>exact .nil _
 | fl1=>exact .nil _
 | fl _ _ _ a el cap cs h1 h2 h3 h4 h5 r=>exact r.frz
theorem F1.head {v:V} {l:List V} (r:F1 (v::l)):GU v:=r v (by simp)
theorem F1.tail {v:V} {l:List V} (r:F1 (v::l)):F1 l:=λw hw=>r w (by simp [hw])
theorem aOD {f:Nat} {args:List V} {R:V} {tf:TF} (hf:tp.fn f=some tf) (hl:args.length<=tf.n) (z:F1 args->zc tp tf.body (Fb args) AH.emp (λx e h=>G1 tf.res x e h (λr h'=>CY (λ_=>True) h' 0 r R))):Pf tp f args R:=by
 intro S m hc args1 c p;have p0:EP S m AH.emp hc (Fb args) (Fb args1):=EP.args p;refine TJ hf (by rw [<- p.len];exact hl) ((Gs tf.body c p0 (z p.reps)).imp ?_);rintro x e1 hc' ⟨e,h',S',m',c',a',pe,z⟩;unfold G1 at z;unfold Vg;have key:(Wo (BI e h' tf.res) λv=>CY (λ_=>True) h' 0 v R)->Wo (BI e1 hc' tf.res) (λr1=>∃ r h'' S' m',CG S' m' h'' hc'/\E6 S m AH.emp hc S' m' h'' hc'/\PR S' m' hc'.get h''.next r r1/\r=R/\h''=AH.emp):=by
  rintro ⟨v,hv,fz⟩;obtain ⟨v1,h1,h2⟩:=N7 c' pe hv;refine ⟨v1,h1,R,AH.emp,SP S' m' h' (λ_=>True),m',CG.emp (SP.low c') c'.bnd m',⟨λa h=>.inl (a'.sub a h), ?_,a'.map,Nat.le_refl _,a'.next1,rfl,a'.lim1,a'.frame,λi hi=>by simp [AH.live,AH.emp] at hi⟩,CY.ok c' fz h2,rfl,rfl⟩;rintro a (ha | ⟨i,_,hi,rfl⟩)
  .exact a'.new a ha
  .rcases a'.liv i hi with ⟨q1,q2⟩ | q1
   .exact absurd q1 (Nat.not_lt_zero _)
   .exact .inr (.inl q1)
 cases x with
 | ex j=>exact z.elim
 | nm=>exact key z
 | rt=>exact key z
def Wf (h:AH):Prop:=h.lim<=h.next/\∀ i k,h.get i=some k->i<h.next/\∀ P h',Dc P h' h.next k.cs k.cs
theorem CG.wf {S:Nat->Prop} {m:Nat->Nat} {h hc:AH} (c:CG S m h hc):Wf h:=⟨c.bnd2,λi k hk=>by
 obtain ⟨h1,_,cs,_,h4⟩:=c.blk i k hk;exact ⟨h1,λP h'=>h4.frz⟩⟩
structure C1 (h h2:AH) (r:V) (P:Nat->Prop) (R:V) (H:AH):Prop where
 n1:h.next<=H.next
 lim:H.lim=h.lim
 n2:H.next<=h2.next
 blk:∀ i k,H.get i=some k->i<H.next/\¬ P i/\∃ cs,h2.get i=some ⟨k.sz,cs⟩/\Dc P h2 H.next cs k.cs
 val:CY P h2 H.next r R
theorem C1.ok {S S' : Nat -> Prop} {m m' : Nat -> Nat} {h hc h2 hc2 : AH} {r r1 R : V} {P : Nat -> Prop} {H : AH} (st : C1 h h2 r P R H) (c : CG S m h hc) (c' : CG S' m' h2 hc2) (a' : E6 S m h hc S' m' h2 hc2) (p : PR S' m' hc2.get h2.next r r1) :
    CG (SP S' m' h2 P) m' H hc2/\E6 S m h hc (SP S' m' h2 P) m' H hc2/\PR (SP S' m' h2 P) m' hc2.get H.next R r1:=by
 have liv:∀ i,H.live i->h2.live i/\¬ P i:=λi hi=>by
  obtain ⟨k,hk⟩:=Option.ne_none_iff_exists'.1 hi;obtain ⟨_,h1,cs,h2,_⟩:=st.blk i k hk;exact ⟨by simp [AH.live,h2],h1⟩
 refine ⟨⟨λi k hk=>?_,λi j hi hj=>c'.inj i j (liv i hi).1 (liv j hj).1,λi hi hs=>?_,SP.low c',λi hi hl=>c'.lim i (liv i hi).1 (by rw [a'.lim2,<-st.lim];exact hl),c'.bnd,by rw [st.lim];exact Nat.le_trans c.bnd2 st.n1⟩,⟨λa h=>.inl (a'.sub a h),λa ha=>?_,a'.map,st.n1,a'.next1,st.lim,a'.lim1,a'.frame,λi hi=>a'.liv i (liv i hi).1⟩,st.val.ok c' p⟩
 .obtain ⟨h1,h2',cs,h3,h4⟩:=st.blk i k hk;obtain ⟨q1,q2,cs1,q3,q4⟩:=c'.blk i _ h3;exact ⟨h1,q2,cs1,q3,h4.ok c' q4⟩
 .obtain ⟨hl,hP⟩:=liv i hi;rcases hs with hs | ⟨j,hj,hlj,he⟩
  .exact c'.off i hl hs
  .exact hP (c'.inj j i hlj hl he▸hj)
 .rcases ha with ha | ⟨i,_,hi,rfl⟩
  .exact a'.new a ha
  .rcases a'.liv i hi with ⟨q1,q2⟩ | q1
   .exact .inr (.inr ⟨i,q2,(a'.map i q1).symm⟩)
   .exact .inr (.inl q1)
theorem zU {f:Nat} {args:List V} {h:AH} {K:V->AH->Prop} {tf:TF} (hf:tp.fn f=some tf) (hl:args.length<=tf.n) (z:Wf h->F1 args->zc tp tf.body (Fb args) h (λx e h2=>G1 tf.res x e h2 (λr h3=>∃ P R H,C1 h h3 r P R H/\K R H))):Cq tp f args h K:=by
 intro S m hc args1 c p;refine TJ hf (by rw [<- p.len];exact hl) ((Gs tf.body c (EP.args p) (z c.wf p.reps)).imp ?_);rintro x e1 hc' ⟨e,h',S',m',c',a',pe,z⟩;unfold G1 at z;unfold Vg;have key:(Wo (BI e h' tf.res) λr=>∃ P R H,C1 h h' r P R H/\K R H)->Wo (BI e1 hc' tf.res) (λr1=>∃ r h'' S' m',CG S' m' h'' hc'/\E6 S m h hc S' m' h'' hc'/\PR S' m' hc'.get h''.next r r1/\K r h''):=by
  rintro ⟨v,hv,P,R,H,st,k⟩;obtain ⟨v1,h1,h2⟩:=N7 c' pe hv;obtain ⟨q1,q2,q3⟩:=st.ok c c' a' h2;exact ⟨v1,h1,R,H,_,m',q1,q2,q3,k⟩
 cases x with
 | ex j=>exact z.elim
 | nm=>exact key z
 | rt=>exact key z
theorem aAF {f:Nat} {args:List V} {h:AH} {K:V->AH->Prop} {tf:TF} (hf:tp.fn f=some tf) (hl:args.length<=tf.n) (z:Wf h->F1 args->zc tp tf.body (Fb args) h (λx e h2=>G1 tf.res x e h2 K)):Cq tp f args h K:=by
 intro S m hc args1 c p;refine TJ hf (by rw [<- p.len];exact hl) ((Gs tf.body c (EP.args p) (z c.wf p.reps)).imp ?_);rintro x e1 hc' ⟨e,h',S',m',c',a',pe,z⟩;unfold G1 at z;unfold Vg;have key:(Wo (BI e h' tf.res) λr=>K r h')->Wo (BI e1 hc' tf.res) (λr1=>∃ r h'' S' m',CG S' m' h'' hc'/\E6 S m h hc S' m' h'' hc'/\PR S' m' hc'.get h''.next r r1/\K r h''):=by
  rintro ⟨v,hv,k⟩;obtain ⟨v1,h1,h2⟩:=N7 c' pe hv;exact ⟨v1,h1,v,h',_,m',c',a',h2,k⟩
 cases x with
 | ex j=>exact z.elim
 | nm=>exact key z
 | rt=>exact key z
theorem Cq.imp {f:Nat} {args:List V} {h:AH} {K L:V->AH->Prop} (c:Cq tp f args h K) (kl:∀ v h,K v h->L v h):Cq tp f args h L:=by
 intro S m hc args1 cf p;refine (c S m hc args1 cf p).imp ?_;rintro v h' ⟨r,h2,S',m',a,b,c,d⟩;exact ⟨r,h2,S',m',a,b,c,kl _ _ d⟩
mutual
def pur:V->Bool
 | .p .. | .sl ..=>false
 | .f _ a c=>Gb a&&Gb c
 | .ifc _ v=>pur v
 | .agg l=>Gb l
 | .tup l=>Gb l
 | _=>true
def Gb:List V->Bool
 | []=>true
 | v::l=>pur v&&Gb l
end
mutual
theorem PR.pur {S:Nat->Prop} {m:Nat->Nat} {g:Nat->Option BJ} {n:Nat}:∀ {v v1:V},PR S m g n v v1->pur v=true->PR S m g 0 v v1
 | _,_,.u _ x,_=>.u _ x
 | _,_,.b _ x,_=>.b _ x
 | _,_,.i _ k z,_=>.i _ k z
 | _,_,.s _ x,_=>.s _ x
 | _,_,.np _,_=>.np _
 | _,_,.ns _,_=>.ns _
 | _,_,.e0 _,_=>.e0 _
 | _,_,.nf _,_=>.nf _
 | _,_,.ni _,_=>.ni _
 | _,_,.p _ _ _ _ _,h=>by simp [Go.Ab.pur] at h
 | _,_,.sl _ _ _ _ _ _,h=>by simp [Go.Ab.pur] at h
 | _,_,.fl0 _ sz,_=>.fl0 _ sz
 | _,_,.fl1 _ sz,_=>.fl1 _ sz
 | _,_,.fl _ sz xs a el cap cs h1 h2 h3 h4 h5 r,_=>.fl _ sz xs a el cap cs h1 h2 h3 h4 h5 r
 | _,_,.fp _ sz xs j off a el cs h1 h2 h3 r,_=>.fp _ sz xs j off a el cs h1 h2 h3 r
 | _,_,.f _ fn a c a' c' p q,h=>by
  simp only [Go.Ab.pur,Bool.and_eq_true] at h;exact .f _ fn a c a' c' (Bz.pur p h.1) (Bz.pur q h.2)
 | _,_,.ifc _ t v v' p,h=>by simp only [Go.Ab.pur] at h;exact .ifc _ t v v' (PR.pur p h)
 | _,_,.agg _ l l' p,h=>by simp only [Go.Ab.pur] at h;exact .agg _ l l' (Bz.pur p h)
 | _,_,.tup _ l l' p,h=>by simp only [Go.Ab.pur] at h;exact .tup _ l l' (Bz.pur p h)
theorem Bz.pur {S:Nat->Prop} {m:Nat->Nat} {g:Nat->Option BJ} {n:Nat}:∀ {v v1:List V},Bz S m g n v v1->Gb v=true->Bz S m g 0 v v1
 | _,_,.nil _,_=>.nil _
 | _,_,.cons _ v v' l l' p q,h=>by
  simp only [Gb,Bool.and_eq_true] at h;exact .cons _ _ _ _ _ (PR.pur p h.1) (Bz.pur q h.2)
end
def AH.kills (h:AH) (D:List Nat):AH:={ h with get:=λi=>if i∈D then none else h.get i }
theorem CG.after {S T S':Nat->Prop} {m m':Nat->Nat} {h hc hc':AH} {D:List Nat} (c:CG S m h hc) (hT:∀ a,T a->S a\/∃ i,i∈D/\h.live i/\m i=a) (hST:∀ a,S a->T a) (c':CG S' m' AH.emp hc') (a':E6 T m AH.emp hc S' m' AH.emp hc'):CG S' m (h.kills D) hc'/\E6 S m h hc S' m (h.kills D) hc':=by
 have lt:∀ i,h.live i->i<h.next/\m i<hc.next:=λi hi=>by
  obtain ⟨k,hk⟩:=Option.ne_none_iff_exists'.1 hi;exact ⟨(c.blk i k hk).1,(c.blk i k hk).2.1⟩
 have live:∀ i,(h.kills D).live i->h.live i/\i∉D:=λi hi=>by
  simp only [AH.live,AH.kills] at hi;split at hi
  .simp at hi
  .exact ⟨hi,by assumption⟩
 have fr:∀ a,a<hc.next->hc'.get a=hc.get a:=λa ha=>a'.frame a ha (λi hi=>by simp [AH.live,AH.emp] at hi);have pm:Ir S m hc.get h.next S' m hc'.get h.next:=⟨λa h=>a'.sub a (hST a h),λa ha=>fr a (c.low a ha),λ_ _=>rfl,Nat.le_refl _⟩
 have nw:∀ a,S' a->S a\/hc.next<=a\/∃ i,i∈D/\h.live i/\m i=a:=λa ha=>by
  rcases a'.new a ha with h1 | h1 | ⟨i,hi,_⟩
  .rcases hT a h1 with h2 | h2
   .exact .inl h2
   .exact .inr (.inr h2)
  .exact .inr (.inl h1)
  .simp [AH.live,AH.emp] at hi
 refine ⟨⟨λi k hk=>?_,λi j hi hj=>c.inj i j (live i hi).1 (live j hj).1,λi hi hs=>?_,c'.low,λi hi hl=>by rw [a'.lim1];exact c.lim i (live i hi).1 hl,c'.bnd,c.bnd2⟩,⟨λa h=>a'.sub a (hST a h),λa ha=>?_,λ_ _=>rfl,Nat.le_refl _,a'.next1,rfl,a'.lim1,λa ha _=>fr a ha,λi hi=>.inl ⟨(lt i (live i hi).1).1,(live i hi).1⟩⟩⟩
 .have hk2:h.get i=some k:=by
   simp only [AH.kills] at hk;split at hk
   .simp at hk
   .exact hk
  obtain ⟨h1,h2,cs,h3,h4⟩:=c.blk i k hk2;exact ⟨h1,Nat.lt_of_lt_of_le h2 a'.next1,cs,by rw [fr _ h2];exact h3,h4.mono pm⟩
 .obtain ⟨hi,hD⟩:=live i hi;rcases nw _ hs with h1 | h1 | ⟨j,hj,hlj,he⟩
  .exact c.off i hi h1
  .have:=(lt i hi).2;omega
  .exact hD (c.inj j i hlj hi he▸hj)
 .rcases nw a ha with h1 | h1 | ⟨i,_,hi,he⟩
  .exact .inl h1
  .exact .inr (.inl h1)
  .exact .inr (.inr ⟨i,hi,he⟩)
theorem Pf.go {f:Nat} {args:List V} {R:V} {h:AH} {K:V->AH->Prop} (pf:Pf tp f args R) (hp:Gb args=true) (k:GU R->K R h):Cq tp f args h K:=by
 intro S m hc args1 c p;refine (pf S m hc args1 (CG.emp c.low c.bnd m) (p.pur hp)).imp ?_;rintro r1 hc' ⟨r,h',S',m',c',a',q,rfl,rfl⟩;obtain ⟨c2,a2⟩:=c.after (D:=[]) (T:=S) (λa h=>.inl h) (λa h=>h) c' a';have e:h.kills []=h:=by simp [AH.kills]
 rw [e] at c2 a2;exact ⟨r,h,S',m,c2,a2,q.up _ _,k ⟨_,_,_,_,_,q⟩⟩
theorem Pf.take {f:Nat} {args A:List V} {R:V} {h:AH} {K:V->AH->Prop} (D:List Nat) (pf:Pf tp f A R) (fz:Cr (·∈D) h 0 args A) (k:GU R->K R (h.kills D)):Cq tp f args h K:=by
 intro S m hc args1 c p;have q:=Cr.ok c fz p;refine (pf _ m hc args1 (CG.emp (SP.low c) c.bnd m) q).imp ?_;rintro r1 hc' ⟨r,h',S',m',c',a',q,rfl,rfl⟩;obtain ⟨c2,a2⟩:=c.after (D:=D) (λa h=>h) (λa h=>.inl h) c' a';exact ⟨r,_,S',m,c2,a2,q.up _ _,k ⟨_,_,_,_,_,q⟩⟩
mutual
def flat0:V->Bool
 | .b _ | .i .. | .s _ | .np | .ns | .e0 | .nf | .ni | .u=>true
 | .agg l=>OX l
 | .tup l=>OX l
 | _=>false
def OX:List V->Bool
 | []=>true
 | v::l=>flat0 v&&OX l
end
mutual
theorem PR.flat0 {S S':Nat->Prop} {m m':Nat->Nat} {g g':Nat->Option BJ} {n n':Nat}:∀ {v v1:V},PR S m g n v v1->flat0 v=true->PR S' m' g' n' v v1
 | _,_,.u _ x,_=>.u _ x
 | _,_,.b _ x,_=>.b _ x
 | _,_,.i _ k z,_=>.i _ k z
 | _,_,.s _ x,_=>.s _ x
 | _,_,.np _,_=>.np _
 | _,_,.ns _,_=>.ns _
 | _,_,.e0 _,_=>.e0 _
 | _,_,.nf _,_=>.nf _
 | _,_,.ni _,_=>.ni _
 | _,_,.p _ _ _ _ _,h=>by simp [Go.Ab.flat0] at h
 | _,_,.sl _ _ _ _ _ _,h=>by simp [Go.Ab.flat0] at h
 | _,_,.fl0 _ sz,h=>by simp [Go.Ab.flat0] at h
 | _,_,.fl1 _ sz,h=>by simp [Go.Ab.flat0] at h
 | _,_,.fl ..,h=>by simp [Go.Ab.flat0] at h
 | _,_,.fp ..,h=>by simp [Go.Ab.flat0] at h
 | _,_,.f ..,h=>by simp [Go.Ab.flat0] at h
 | _,_,.ifc ..,h=>by simp [Go.Ab.flat0] at h
 | _,_,.agg _ l l' p,h=>by simp only [Go.Ab.flat0] at h;exact .agg _ l l' (Bz.flat0 p h)
 | _,_,.tup _ l l' p,h=>by simp only [Go.Ab.flat0] at h;exact .tup _ l l' (Bz.flat0 p h)
theorem Bz.flat0 {S S':Nat->Prop} {m m':Nat->Nat} {g g':Nat->Option BJ} {n n':Nat}:∀ {v v1:List V},Bz S m g n v v1->OX v=true->Bz S' m' g' n' v v1
 | _,_,.nil _,_=>.nil _
 | _,_,.cons _ v v' l l' p q,h=>by
  simp only [OX,Bool.and_eq_true] at h;exact .cons _ _ _ _ _ (PR.flat0 p h.1) (Bz.flat0 q h.2)
end
theorem Pf.look {f:Nat} {args A:List V} {R:V} {h:AH} {K:V->AH->Prop} (pf:Pf tp f A R) (fz:Cr (λ_=>True) h 0 args A) (hR:flat0 R=true) (k:GU R->K R h):Cq tp f args h K:=by
 intro S m hc args1 c p;have q:=Cr.ok c fz p;refine (pf _ m hc args1 (CG.emp (SP.low c) c.bnd m) q).imp ?_;rintro r1 hc' ⟨r,h',S',m',c',a',q,rfl,rfl⟩;have lt:∀ i,h.live i->i<h.next/\m i<hc.next:=λi hi=>by
  obtain ⟨k,hk⟩:=Option.ne_none_iff_exists'.1 hi;exact ⟨(c.blk i k hk).1,(c.blk i k hk).2.1⟩
 have fr:∀ a,a<hc.next->hc'.get a=hc.get a:=λa ha=>a'.frame a ha (λi hi=>by simp [AH.live,AH.emp] at hi);have pm:Ir S m hc.get h.next S m hc'.get h.next:=⟨λa h=>h,λa ha=>fr a (c.low a ha),λ_ _=>rfl,Nat.le_refl _⟩
 refine ⟨r,h,S,m,⟨λi k hk=>?_,c.inj,c.off,λa ha=>Nat.lt_of_lt_of_le (c.low a ha) a'.next1,λi hi hl=>by rw [a'.lim1];exact c.lim i hi hl,c'.bnd,c.bnd2⟩,⟨λa h=>h,λa h=>.inl h,λ_ _=>rfl,Nat.le_refl _,a'.next1,rfl,a'.lim1,λa ha _=>fr a ha,λi hi=>.inl ⟨(lt i hi).1,hi⟩⟩,q.flat0 hR,k ⟨_,_,_,_,_,q⟩⟩;obtain ⟨h1,h2,cs,h3,h4⟩:=c.blk i k hk;exact ⟨h1,Nat.lt_of_lt_of_le h2 a'.next1,cs,by rw [fr _ h2];exact h3,h4.mono pm⟩
end
end Go.Ab
/- The rules for code over values that stay, as a set for simp; slices that are one's own. -/
namespace Go.Ab
open Go
theorem Env.set_get {e:Env} {d j:Nat} {v:V}:(e.set (some d) v) j=if j=d then v else e j:=Aq rfl
theorem Env.set_none {e:Env} {v:V}:e.set none v=e:=Aq rfl
/-! ### The heap -/
def VW {α:Type} (i n:Nat) (a b:α):α:=if i=n then a else b
theorem Ar {α:Type} {i n:Nat} {a b:α} (h:i=n):VW i n a b=a:=if_pos h
theorem Af {α:Type} {i n:Nat} {a b:α} (h:¬ i=n):VW i n a b=b:=if_neg h
theorem AD {h:AH} {k:BJ} {i:Nat}:(h.alloc k).get i=VW i h.next (some k) (h.get i):=Aq rfl
theorem Ae {h:AH} {k:BJ} {i j:Nat}:(h.put j k).get i=VW i j (some k) (h.get i):=Aq rfl
theorem B6 {h:AH} {i j:Nat}:(h.kill j).get i=VW i j none (h.get i):=Aq rfl
theorem VV {h:AH} {i:Nat}:h.raise.get i=h.get i:=Aq rfl
theorem Zr {h:AH} {i l:Nat}:(h.back l).get i=h.get i:=Aq rfl
theorem Ac {h:AH} {k:BJ}:(h.alloc k).next=h.next+1:=Aq rfl
theorem Ah {h:AH} {k:BJ} {j:Nat}:(h.put j k).next=h.next:=Aq rfl
theorem Es {h:AH} {j:Nat}:(h.kill j).next=h.next:=Aq rfl
theorem KF {h:AH}:h.raise.next=h.next:=Aq rfl
theorem Wl {h:AH} {l:Nat}:(h.back l).next=h.next:=Aq rfl
theorem Bi {h:AH} {k:BJ}:(h.alloc k).lim=h.lim:=Aq rfl
theorem El {h:AH} {k:BJ} {j:Nat}:(h.put j k).lim=h.lim:=Aq rfl
theorem bN {h:AH} {j:Nat}:(h.kill j).lim=h.lim:=Aq rfl
theorem MF {h:AH}:h.raise.lim=h.next:=Aq rfl
theorem bM {h:AH} {l:Nat}:(h.back l).lim=l:=Aq rfl
theorem IU {h:AH} {k:BJ}:(h.raise.alloc k).back h.lim=h.alloc k:=Aq rfl
theorem Hj {h:AH}:h.raise.back h.lim=h:=Aq rfl
section
variable {tp:TP} {e:Env} {h:AH}
/-! ### Code -/
def Z1 (tp:TP) (o:O) (e:Env) (h:AH) (K:V->AH->Prop) (t:Fz K:=.mk):Prop:=z1 tp o e h K
def Eh (tp:TP) (o:O) (e:Env) (h:AH) (K:V->AH->Prop) (t:Fz K:=.mk):Prop:=zq1 tp o e h K
def OB (tp:TP) (l:List TO) (e:Env) (h:AH) (K:Env->AH->Prop) (t:Fz (PProd.mk e K):=.mk):Prop:=Ml tp l e h K
def ZQ (tp:TP) (l:List TO) (e:Env) (h:AH) (K:Env->AH->Prop) (t:Fz (PProd.mk e K):=.mk):Prop:=zq tp l e h K
def ZS (tp:TP) (l:List (Bool×List TO)) (e:Env) (h:AH) (K:Env->AH->Prop) (t:Fz (PProd.mk e K):=.mk):Prop:=zs tp l e h K
def ZC (tp:TP) (c:TC) (e:Env) (h:AH) (K:Ex->Env->AH->Prop) (t:Fz (PProd.mk e K):=.mk):Prop:=zc tp c e h K
theorem nW {K:Ex->Env->AH->Prop}:ZC tp .skip e h K=K .nm e h:=Aq rfl
theorem aLG {K:Ex->Env->AH->Prop}:ZC tp .ret e h K=K .rt e h:=Aq rfl
theorem nV {id:Nat} {K:Ex->Env->AH->Prop}:ZC tp (.exit id) e h K=K (.ex id) e h:=Aq rfl
theorem aLF {ops:List TO} {K:Ex->Env->AH->Prop}:ZC tp (.reg ops) e h K=OB tp ops e h (λe h=>K .nm e h):=Aq rfl
theorem nU {ops:List (Bool×List TO)} {K:Ex->Env->AH->Prop}:ZC tp (.dreg ops) e h K=ZS tp ops e h (λe h=>K .nm e h):=Aq rfl
theorem nT {c:X} {a b:TC} {K:Ex->Env->AH->Prop}:ZC tp (.cond c a b) e h K=Wb (c.e2 e) (ZC tp a e h K) (ZC tp b e h K):=Aq rfl
theorem OA {id:Nat} {c:TC} {K:Ex->Env->AH->Prop}:ZC tp (.block id c) e h K=ZC tp c e h (λx e h=>K (blk id x) e h):=Aq rfl
theorem Ye {a b:TC} {K:Ex->Env->AH->Prop}:ZC tp (.seq a b) e h K=ZC tp a e h (λx e h=>S4 x (ZC tp b e h K) (K x e h)):=Aq rfl
theorem Ao {c d:TC} {K:Ex->Env->AH->Prop} (hcd:c=d):ZC tp c e h K=ZC tp d e h K:=by rw [hcd]
theorem BO {c:TC} {K:Ex->Env->AH->Prop} (z:ZC tp c e h (λx e h=>S4 x (ZC tp (.loop c) e h K) (K x e h))):ZC tp (.loop c) e h K:=by
 intro I hI hS;exact hI e h (ET (c:=c) (λx e h=>NV (λz=>z I hI hS) id) z)
theorem T6 {c:TC} {K:Ex->Env->AH->Prop} {e2:Env} {h2:AH} (st:Stp e h e2 h2) (z:ZC tp (.loop c) e2 h2 K):ZC tp (.loop c) e h K:=λI hI hS=>hS e h e2 h2 st (z I hI hS)
theorem Ai {c:TC} {K:Ex->Env->AH->Prop} (J:Nat->Env->AH->Prop) (round:∀ n e h,J n e h->(∀ m e' h',m<n->J m e' h'->ZC tp (.loop c) e' h' K)->ZC tp c e h (λx e h=>S4 x (ZC tp (.loop c) e h K) (K x e h))):∀ n e h,J n e h->ZC tp (.loop c) e h K:=by
 intro n
 induction n using Nat.strongRecOn with
 | _ n ih=>intro e h hj;exact BO (round n e h hj (λm e' h' hm hj'=>ih m hm e' h' hj'))
theorem ZC.imp {c:TC} {K L:Ex->Env->AH->Prop} (z:ZC tp c e h K) (kl:∀ x e h,K x e h->L x e h):ZC tp c e h L:=ET (c:=c) kl z
theorem iC {v:V} {x:Bool} {A B:Prop}:(match (match v with | .b y=>some (y==x) | .tup []=>some false | _=>none:Option Bool) with | some true=>A | some false=>B | none=>False)=Wg v x A B:=by
 cases v with
 | b y=>cases y<;>cases x<;>simp [Wg]
 | tup l=>cases l<;>simp [Wg]
 | _=>simp [Wg]
theorem Yf {K:Env->AH->Prop}:OB tp [] e h K=K e h:=Aq rfl
theorem Yg {d:Option Nat} {o:O} {r:List TO} {K:Env->AH->Prop}:OB tp (⟨d,o,none⟩::r) e h K=Z1 tp o e h (λv h=>OB tp r (e.set d v) h K):=Aq rfl
theorem aLH {d:Option Nat} {o:O} {t:Nat} {x:Bool} {r:List TO} {K:Env->AH->Prop}:OB tp (⟨d,o,some (t,x)⟩::r) e h K=Wg (e t) x (Z1 tp o e h (λv h=>OB tp r (e.set d v) h K)) (OB tp r (e.set d (.tup [])) h K):=by
 exact iC
theorem aLR {K:Env->AH->Prop}:ZS tp [] e h K=K e h:=Aq rfl
theorem aLQ {l:List TO} {r:List (Bool×List TO)} {K:Env->AH->Prop}:ZS tp ((false,l)::r) e h K=OB tp l e h (λe h=>ZS tp r e h K):=Aq rfl
theorem Yw {l:List TO} {r:List (Bool×List TO)} {K:Env->AH->Prop}:ZS tp ((true,l)::r) e h K=ZQ tp l e h (λe h=>ZS tp r e h K):=Aq rfl
theorem aLO {K:Env->AH->Prop}:ZQ tp [] e h K=K e h:=Aq rfl
theorem aLP {d:Option Nat} {o:O} {r:List TO} {K:Env->AH->Prop}:ZQ tp (⟨d,o,none⟩::r) e h K=Eh tp o e h (λv h=>ZQ tp r (e.set d v) h K):=Aq rfl
theorem bAJ {d:Option Nat} {o:O} {t:Nat} {x:Bool} {r:List TO} {K:Env->AH->Prop}:ZQ tp (⟨d,o,some (t,x)⟩::r) e h K=Wg (e t) x (Eh tp o e h (λv h=>ZQ tp r (e.set d v) h K)) (ZQ tp r (e.set d (.tup [])) h K):=by
 exact iC
end
/-! ### Operations one by one -/
theorem bAO {e:Env} {n:Nat}:(X.t n).e2 e=e n:=Aq rfl
theorem aYI {e:Env} {k:IntKind} {n:Int}:(X.c (.i k n)).e2 e=.i k n:=Aq rfl
theorem aYH {e:Env} {x:Bool}:(X.c (.b x)).e2 e=.b x:=Aq rfl
theorem aYJ {e:Env} {x:ByteArray}:(X.c (.s x)).e2 e=.s x:=Aq rfl
theorem aYM {e:Env}:(X.c .np).e2 e=.np:=Aq rfl
theorem aYN {e:Env}:(X.c .ns).e2 e=.ns:=Aq rfl
theorem aYK {e:Env}:(X.c .nf).e2 e=.nf:=Aq rfl
theorem aYL {e:Env}:(X.c .ni).e2 e=.ni:=Aq rfl
theorem aL8 {e:Env} {l:List V} (hl:l.all plain1=true):(X.c (.agg l)).e2 e=.agg l:=by simp [X.e2,plain,hl]
theorem aAs {e:Env} {f:Nat}:(X.fn f).e2 e=.f (.func f) [] []:=Aq rfl
theorem cL {k:IntKind} {n:Int}:plain1 (.i k n)=true:=Aq rfl
theorem cK {x:Bool}:plain1 (.b x)=true:=Aq rfl
theorem cM {x:ByteArray}:plain1 (.s x)=true:=Aq rfl
theorem Wx:plain1 .np=true:=Aq rfl
theorem Wy:plain1 .ns=true:=Aq rfl
theorem Wu:plain1 .nf=true:=Aq rfl
theorem Ww:plain1 .ni=true:=Aq rfl
section
variable {tp:TP} {e:Env} {h:AH} {K:V->AH->Prop}
def asB:V->Option Bool | .b x=>some x | _=>none
theorem aYD {x:Bool}:asB (.b x)=some x:=Aq rfl
theorem aYA {x:X}:Z1 tp (.mv x) e h K=Wv (x.e2 e) (λv=>K v h):=by
 unfold Z1;simp only [z1,BA,Ag,AV,HB]
theorem nO {c a b:X}:Z1 tp (.pick c a b) e h K=Wo (asB (c.e2 e)) (λt=>Wv (if t then a.e2 e else b.e2 e) (λv=>K v h)):=by
 unfold Z1;simp only [z1,BA,Ag,asB];cases c.e2 e<;>simp only [AV,A2,HB]
theorem JV {z:List V}:Z1 tp (.alloc z) e h K=(z.all plain1=true/\Wv (.p h.next 0 0) (λv=>Wv (h.alloc ⟨z.length,[z]⟩) (λh'=>K v h'))):=by
 unfold Z1;simp only [z1,BA,Ag,CI,AV,HB]
theorem Rv {x:X}:Z1 tp (.box x) e h K=((x.e2 e).cells.all V.isCell=true/\Wv (.p h.next 0 0) (λv=>Wv (h.alloc ⟨(x.e2 e).cells.length,[(x.e2 e).cells]⟩) (λh'=>K v h'))):=by
 unfold Z1;simp only [z1,BA,Ag,CI,AV,HB]
theorem X7 {z:List V} {ps:List (Nat×Nat×X)}:Z1 tp (.build z ps) e h K=(z.all plain1=true/\Wo (Fl z (ps.map λq=>(q.1,q.2.1,q.2.2.e2 e))) (λr=>K (.agg r) h)):=by
 unfold Z1;simp only [z1,BA,Ag,CI,Bs]
theorem Rx {sz n:Nat} {z:List V} {ps:List (Nat×X)}:Z1 tp (.bsl sz z n ps) e h K=((z.all plain1=true/\n<4294967296)/\Wo (Cw sz (List.replicate n z) (ps.map λq=>(q.1,q.2.e2 e))) (λr=>Wv (.sl h.next 0 n n) (λv=>Wv (h.alloc ⟨sz,r⟩) (λh'=>K v h')))):=by
 unfold Z1;simp only [z1,BA,Ag];rw [CI,Bs];rfl
theorem Nc {sz n:Nat} {z:List V} {ps:List (Nat×X)}:Z1 tp (.bslc sz z n ps) e h K=((z.all plain1=true/\n<4294967296)/\Wo (Cw sz (List.replicate n z) (ps.map λq=>(q.1,q.2.e2 e))) (λr=>Wv (.sl h.next 0 n n) (λv=>Wv (h.alloc ⟨sz,r⟩) (λh'=>K v h')))):=by
 unfold Z1;simp only [z1,BA,Ag];rw [CI,Bs];rfl
def aLm (sz n:Nat) (z:List V) (ps:List (Nat×V)) (y:V) (h:AH) (K:V->AH->Prop) (t:Fz K:=.mk):Prop:=match y with
 | .sl id el len cap=>Wo (Cw sz (List.replicate n z) ps) (λr=>h.get id=some ⟨sz,r⟩/\(el=0/\len=n/\cap=n)/\Bj r r=true/\Wv V.u (λv=>K v h))
 | _=>False
theorem mS {sz n id el len cap:Nat} {z:List V} {ps:List (Nat×V)}:aLm sz n z ps (.sl id el len cap) h K=Wo (Cw sz (List.replicate n z) ps) (λr=>h.get id=some ⟨sz,r⟩/\(el=0/\len=n/\cap=n)/\Bj r r=true/\Wv V.u (λv=>K v h)):=Aq rfl
theorem nC {sz n:Nat} {z:List V} {ps:List (Nat×X)} {y:X}:Z1 tp (.chkb sz z n ps y) e h K=(z.all plain1=true/\aLm sz n z (ps.map λq=>(q.1,q.2.e2 e)) (y.e2 e) h K):=by
 unfold Z1;simp only [z1,BA,CI]
 congr 1
 simp only [Ag];generalize y.e2 e=v;cases v<;>simp only [aLm,A2];rename_i id el len cap;rw [BN];refine Fv λr=>?_;apply propext;constructor
 .rintro ⟨⟨v,h'⟩,h1,k⟩;simp only [Option.bind_eq_some_iff] at h1;obtain ⟨b,hb,h1⟩:=h1;split at h1
  case isFalse=>simp at h1
  rename_i hs;simp at h1;obtain ⟨rfl,rfl⟩:=h1;obtain ⟨e1,e2,e3,e4,e5⟩:=hs;have:=D9 e5;subst this;obtain ⟨s,cs⟩:=b;simp only at e4 e5 hb;subst e4;exact ⟨hb,⟨e1,e2,e3⟩,e5,k⟩
 .rintro ⟨hb,⟨e1,e2,e3⟩,e5,k⟩;exact ⟨(.u,h),by rw [hb];simp only [Option.bind_some];rw [if_pos ⟨e1,e2,e3,trivial,e5⟩],k⟩
theorem Rt {z:List V}:Z1 tp (.alc z) e h K=(z.all plain1=true/\Wv (.p h.next 0 0) (λv=>Wv (h.alloc ⟨z.length,[z]⟩) (λh'=>K v h'))):=by
 unfold Z1;simp only [z1,BA,Ag];rw [CI,AV];rfl
def aLk (z:List V) (y:V) (h:AH) (K:V->AH->Prop) (t:Fz K:=.mk):Prop:=match y with
 | .p id el off=>h.get id=some ⟨z.length,[z]⟩/\(el=0/\off=0)/\Bj [z] [z]=true/\Wv V.u (λv=>K v h)
 | _=>False
theorem aLl {id el off:Nat} {z:List V}:aLk z (.p id el off) h K=(h.get id=some ⟨z.length,[z]⟩/\(el=0/\off=0)/\Bj [z] [z]=true/\Wv V.u (λv=>K v h)):=Aq rfl
theorem nB {z:List V} {y:X}:Z1 tp (.chka z y) e h K=(z.all plain1=true/\aLk z (y.e2 e) h K):=by
 unfold Z1;simp only [z1,BA,CI]
 congr 1
 simp only [Ag];generalize y.e2 e=v;cases v<;>simp only [aLk,A2];rename_i id el off;apply propext;constructor
 .rintro ⟨⟨v,h'⟩,h1,k⟩;simp only [Option.bind_eq_some_iff] at h1;obtain ⟨b,hb,h1⟩:=h1;split at h1
  case isFalse=>simp at h1
  rename_i hs;simp at h1;obtain ⟨rfl,rfl⟩:=h1;obtain ⟨e1,e2,e3,e5⟩:=hs;obtain ⟨s,cs⟩:=b;simp only at e3 e5 hb;have:=D9 e5;subst this;subst e3;exact ⟨hb,⟨e1,e2⟩,e5,k⟩
 .rintro ⟨hb,⟨e1,e2⟩,e5,k⟩;exact ⟨(.u,h),by rw [hb];simp only [Option.bind_some];rw [if_pos ⟨e1,e2,trivial,e5⟩],k⟩
theorem Oc:Bj [] []=true:=Aq rfl
theorem Mj {a b:List V} {l m:List (List V)}:Bj (a::l) (b::m)=(Bx a b&&Bj l m):=Aq rfl
theorem PJ:Bx [] []=true:=Aq rfl
theorem Ob {a b:V} {l m:List V}:Bx (a::l) (b::m)=(sameV a b&&Bx l m):=Aq rfl
theorem aYx:Z1 tp .e0 e h K=K .e0 h:=by unfold Z1;simp only [z1,BA,Ag,AV]
def iV (k:Option BJ) (el off n:Nat) (agg:Bool):Option V:=k.bind λk=>(k.cs[el]?).bind λr=>HJ r off n agg
def iX (h:AH) (n:Nat) (agg:Bool):V->Option V | .p id el off=>iV (h.get id) el off n agg | .fp _ xs j off=>ldF n agg xs j off | _=>none
theorem aY4 {id el off n:Nat} {agg:Bool}:iX h n agg (.p id el off)=iV (h.get id) el off n agg:=Aq rfl
theorem aNx {s j off n:Nat} {xs:List (List V)} {agg:Bool}:iX h n agg (.fp s xs j off)=(xs[j]?).bind λr=>HJ r off n agg:=Aq rfl
theorem bJ {sz el off n:Nat} {cs:List (List V)} {agg:Bool}:iV (some ⟨sz,cs⟩) el off n agg=(cs[el]?).bind λr=>HJ r off n agg:=Aq rfl
theorem YZ {n:Nat} {agg:Bool} {x:X} {ev:X->V}:BA tp (.load n agg x) ev h=(iX h n agg (ev x)).map λv=>(v,h):=by
 simp only [BA,Ag];cases ev x<;>simp only [iX,iV]<;>try rfl
 rename_i id el off
 cases h.get id with
 | none=>rfl
 | some k=>
  simp only [Option.bind_some];cases k.cs[el]?<;>rfl
theorem VL {n:Nat} {ag:Bool} {x:X} {ev:X->V}:BA tp (.fload n ag x) ev h=(iX h n ag (ev x)).map λv=>(v,h):=by
 simp only [BA,Ag];cases ev x<;>simp only [iX,iV]<;>try rfl
 rename_i id el off
 cases h.get id with
 | none=>rfl
 | some k=>
  simp only [Option.bind_some];cases k.cs[el]?<;>rfl
theorem Nd {n:Nat} {agg:Bool} {x:X}:Z1 tp (.load n agg x) e h K=Wo (iX h n agg (x.e2 e)) (λv=>K v h):=by
 unfold Z1;simp only [z1,YZ,Bs]
theorem Yb {n:Nat} {ag:Bool} {x:X}:Z1 tp (.fload n ag x) e h K=Wo (iX h n ag (x.e2 e)) (λv=>K v h):=by
 unfold Z1;simp only [z1,VL,Bs]
def aL1 (h:AH) (n:Nat) (ag:Bool):V->Option V | .p id el off=>iV (h.get id) el off n ag | _=>none
theorem aL2 {id el off n:Nat} {ag:Bool}:aL1 h n ag (.p id el off)=iV (h.get id) el off n ag:=Aq rfl
theorem aLq {n:Nat} {ag:Bool} {x y:X}:Z1 tp (.chk n ag x y) e h K=Wo (aL1 h n ag (x.e2 e)) (λv=>Wo (if BL v (y.e2 e)=true then some V.u else none) (λu=>K u h)):=by
 unfold Z1;simp only [z1,BA,Ag,aL1,iV];cases x.e2 e<;>simp only [A2];rw [BN,BN];refine Fv λk=>?_;rw [BN,BN];refine Fv λr=>?_;rw [BN];refine Fv λv=>?_;split<;>simp only [A2,AV]
theorem To {l m:List V}:BL (.agg l) (.agg m)=Bx l m:=Aq rfl
theorem sameVa_sl {a b c d:Nat}:BL (.sl a b c d) (.sl a b c d)=true:=by simp [BL,sameV]
theorem dU {a b c:Nat}:BL (.p a b c) (.p a b c)=true:=by simp [BL,sameV]
theorem WL:BL .ns .ns=true:=Aq rfl
theorem dS {x:Bool}:BL (.b x) (.b x)=true:=by simp [BL,sameV]
theorem dT {k:IntKind} {n:Int}:BL (.i k n) (.i k n)=true:=by simp [BL,sameV]
theorem dR {a b c d:Nat}:sameV (.sl a b c d) (.sl a b c d)=true:=by simp [sameV]
theorem vF {a b c:Nat}:sameV (.p a b c) (.p a b c)=true:=by simp [sameV]
theorem dQ:sameV .ns .ns=true:=Aq rfl
theorem vD {x:Bool}:sameV (.b x) (.b x)=true:=by simp [sameV]
theorem vE {k:IntKind} {n:Int}:sameV (.i k n) (.i k n)=true:=by simp [sameV]
def O9 (g:Option BJ) (l id el len cap:Nat):Option V:=if g.isSome=true/\l<=id/\0<cap then some (.sl id el len cap) else none
def bP (h:AH):V->Option V | .sl id el len cap=>O9 (h.get id) h.lim id el len cap | _=>none
theorem bQ {id el len cap:Nat}:bP h (.sl id el len cap)=O9 (h.get id) h.lim id el len cap:=Aq rfl
theorem bO {k:BJ} {l id el len cap:Nat} (h1:l<=id) (h2:0<cap):O9 (some k) l id el len cap=some (.sl id el len cap):=by simp [O9,h1,h2]
theorem nJ {x:X}:Z1 tp (.mark x) e h K=Wo (bP h (x.e2 e)) (λv=>K v h):=by
 unfold Z1;simp only [z1,BA,Ag,bP,O9];cases x.e2 e<;>simp only [A2];split<;>simp only [A2,AV]
def Wst (tp:TP) (n:Nat) (p v:V) (h:AH) (K:AH->Prop) (t:Fz K:=.mk):Prop:=match p with
 | .p id el off=>(h.lim<=id/\0<n/\v.cells.length=n/\v.cells.all V.isCell=true)/\Wo (h.get id) (λk=>Wo (k.cs[el]?) (λr=>off+n<=r.length/\Wv (h.put id ⟨k.sz,k.cs.set el (over r off v.cells)⟩) K))
 | _=>False
def aLn (tp:TP) (l n id el off:Nat) (v:V) (h:AH) (K:AH->Prop) (t:Fz K:=.mk):Prop:=(l<=id/\0<n/\v.cells.length=n/\v.cells.all V.isCell=true)/\Wo (h.get id) (λk=>Wo (k.cs[el]?) (λr=>off+n<=r.length/\Wv (h.put id ⟨k.sz,k.cs.set el (over r off v.cells)⟩) K))
theorem aYw {n id el off:Nat} {v:V} {K:AH->Prop}:Wst tp n (.p id el off) v h K=aLn tp h.lim n id el off v h K:=Aq rfl
theorem mZ {l n id el off:Nat} {v:V} {K:AH->Prop} (hl:l<=id):aLn tp l n id el off v h K=((0<n/\v.cells.length=n/\v.cells.all V.isCell=true)/\Wo (h.get id) (λk=>Wo (k.cs[el]?) (λr=>off+n<=r.length/\Wv (h.put id ⟨k.sz,k.cs.set el (over r off v.cells)⟩) K))):=by
 simp only [aLn,hl,true_and]
theorem Yc {n:Nat} {a x:X}:Z1 tp (.store n a x) e h K=Wst tp n (a.e2 e) (x.e2 e) h (K .u):=by
 unfold Z1;simp only [z1,BA,Ag,Wst];cases a.e2 e<;>simp only [A2];rw [CI,BN]
 congr 1
 refine Fv λk=>?_;rw [BN];refine Fv λr=>?_;rw [CI,AV];rfl
def pY:Option Xd->V->Option V | some ⟨_,none⟩,v=>some v | _,_=>none
theorem VK {q:Nat} {v:V}:pY (some ⟨q,none⟩) v=some v:=Aq rfl
def Jz (tp:TP):V->Option V | .p id el off=>some (.p id el off) | .fp s xs j o=>some (.fp s xs j o) | .ifc t v=>some (.ifc t v) | .f (.func g) a b=>some (.f (.func g) a b) | .f (.method m) (.ifc t v::r) b=>pY (tp.meth t m) (.f (.method m) (.ifc t v::r) b) | _=>none
theorem aNB {a b c:Nat}:Jz tp (.p a b c)=some (.p a b c):=Aq rfl
theorem tW {s j o:Nat} {xs:List (List V)}:Jz tp (.fp s xs j o)=some (.fp s xs j o):=Aq rfl
theorem bV {t:Nat} {v:V}:Jz tp (.ifc t v)=some (.ifc t v):=Aq rfl
theorem aNz {g:Nat} {a b:List V}:Jz tp (.f (.func g) a b)=some (.f (.func g) a b):=Aq rfl
theorem aNA {m:String} {t:Nat} {v:V} {r b:List V}:Jz tp (.f (.method m) (.ifc t v::r) b)=pY (tp.meth t m) (.f (.method m) (.ifc t v::r) b):=Aq rfl
theorem tX {m:String} {t:Nat} {v:V}:(if tp.dir t m=true then some (v,h) else none)=(pY (tp.meth t m) v).map λv=>(v,h):=by
 unfold TP.dir
 cases tp.meth t m with
 | none=>rfl
 | some q=>obtain ⟨q,a⟩:=q;cases a<;>rfl
theorem aLA {x:X}:Z1 tp (.nck x) e h K=Wo (Jz tp (x.e2 e)) (λv=>K v h):=by
 unfold Z1;simp only [z1,BA,Ag];generalize x.e2 e=v
 cases v with
 | f g a b=>
  cases g with
  | func g=>simp only [Jz,AV]
  | method m=>
   cases a with
   | nil=>simp only [Jz,A2]
   | cons w r=>cases w<;>first | (simp only [Jz,tX,Bs];done) | simp only [Jz,A2]
  | _=>simp only [Jz,A2]
 | _=>simp only [Jz,AV,A2]
theorem aLp {op:BinOp} {x y:X}:Z1 tp (.bin op x y) e h K=Wo (B1 op (x.e2 e) (y.e2 e)) (λv=>K v h):=by unfold Z1;simp only [z1,BA,Ag,Bs]
theorem JW {n:Bool} {k:EK} {x y:X} (hk:k≠.sl):Z1 tp (.eq n k x y) e h K=Wo (FD k (x.e2 e) (y.e2 e)) (λr=>Wv (.b (if n then !r else r)) (λv=>K v h)):=by
 unfold Z1;cases k<;>first | (exact absurd rfl hk) | (simp only [z1,BA,Ag,Bs];rfl)
theorem aLr {n:Bool} {x y:X}:Z1 tp (.eq n .b x y) e h K=Wo (FD .b (x.e2 e) (y.e2 e)) (λr=>Wv (.b (if n then !r else r)) (λv=>K v h)):=JW (by simp)
theorem Ya {n:Bool} {x y:X}:Z1 tp (.eq n .ptr x y) e h K=Wo (FD .ptr (x.e2 e) (y.e2 e)) (λr=>Wv (.b (if n then !r else r)) (λv=>K v h)):=JW (by simp)
theorem nE {n:Bool} {x y:X}:Z1 tp (.eq n .fn x y) e h K=Wo (FD .fn (x.e2 e) (y.e2 e)) (λr=>Wv (.b (if n then !r else r)) (λv=>K v h)):=JW (by simp)
theorem X9 {n:Bool} {x y:X}:Z1 tp (.eq n .ifc x y) e h K=Wo (FD .ifc (x.e2 e) (y.e2 e)) (λr=>Wv (.b (if n then !r else r)) (λv=>K v h)):=JW (by simp)
theorem X8 {n:Bool} {ks:List CK} {x y:X}:Z1 tp (.eq n (.agg ks) x y) e h K=Wo (FD (.agg ks) (x.e2 e) (y.e2 e)) (λr=>Wv (.b (if n then !r else r)) (λv=>K v h)):=JW (by simp)
def Oy (neg:Bool) (v w:V) (h:AH) (K:V->AH->Prop) (t:Fz K:=.mk):Prop:=TE neg v w h K
theorem nF {n:Bool} {x y:X}:Z1 tp (.eq n .sl x y) e h K=Oy n (x.e2 e) (y.e2 e) h K:=Aq rfl
theorem mW {n:Bool} {s:Nat} {xs:List (List V)}:Oy n (.fl s xs) .ns h K=∀ t:Bool,(xs≠[]->t=false)->Wv (.b (if n then !t else t)) (λv=>K v h):=Aq rfl
theorem mX {n:Bool}:Oy n .ns .ns h K=Wv (.b (if n then false else true)) (λv=>K v h):=by
 unfold Oy TE;simp only [FD,AV,Bool.not_true];rfl
theorem mV {n:Bool}:Oy n .e0 .ns h K=Wv (.b (if n then true else false)) (λv=>K v h):=by
 unfold Oy TE;simp only [FD,AV,Bool.not_false];rfl
theorem mY {n:Bool} {a b c d:Nat}:Oy n (.sl a b c d) .ns h K=Wv (.b (if n then true else false)) (λv=>K v h):=by
 unfold Oy TE;simp only [FD,AV,Bool.not_false];rfl
theorem aYC {op:UnOp} {x:X}:Z1 tp (.un op x) e h K=Wo (unV op (x.e2 e)) (λv=>K v h):=by unfold Z1;simp only [z1,BA,Ag,Bs]
def YT (k:IntKind):V->Option V | .i _ n=>some (.i k (k.wrap n)) | _=>none
theorem pU {k j:IntKind} {n:Int}:YT k (.i j n)=some (.i k (k.wrap n)):=Aq rfl
theorem nD {k:IntKind} {x:X}:Z1 tp (.conv k x) e h K=Wo (YT k (x.e2 e)) (λv=>K v h):=by
 unfold Z1;simp only [z1,BA,Ag,YT];cases x.e2 e<;>simp only [AV,A2]
def eI:V->Option V | .s x=>some (.s x) | _=>none
theorem vQ {x:ByteArray}:eI (.s x)=some (.s x):=Aq rfl
theorem nR {x:X}:Z1 tp (.strs x) e h K=Wo (eI (x.e2 e)) (λv=>K v h):=by
 unfold Z1;simp only [z1,BA,Ag,eI];cases x.e2 e<;>simp only [AV,A2]
def aNp:V->Option V | .i _ n=>some (.s (Utf8.encode n)) | _=>none
theorem aNq {k:IntKind} {n:Int}:aNp (.i k n)=some (.s (Utf8.encode n)):=Aq rfl
theorem aLv {x:X}:Z1 tp (.i2s x) e h K=Wo (aNp (x.e2 e)) (λv=>K v h):=by
 unfold Z1;simp only [z1,BA,Ag,aNp];cases x.e2 e<;>simp only [AV,A2]
def asS:V->Option ByteArray | .s x=>some x | _=>none
theorem aYE {x:ByteArray}:asS (.s x)=some x:=Aq rfl
theorem Ry {x:X}:Z1 tp (.s2b x) e h K=Wo (asS (x.e2 e)) (λb=>b.size<4294967296/\Wv (.sl h.next 0 b.size b.size) (λv=>Wv (h.alloc ⟨1,Ck b⟩) (λh'=>K v h'))):=by
 unfold Z1;simp only [z1,BA,Ag,asS];cases hx:x.e2 e<;>simp only [AV,A2];rw [CI,AV];rfl
def Gd (sz:Nat) (h:AH) (v:V):Option (List (List V)):=Fa sz h v
theorem dI {sz:Nat} {xs:List (List V)}:Gd sz h (.fl sz xs)=some xs:=by simp [Gd,Fa]
theorem dJ {sz:Nat}:Gd sz h .ns=some []:=Aq rfl
theorem dG {sz:Nat}:Gd sz h .e0=some []:=Aq rfl
theorem vA {x:ByteArray}:Gd 1 h (.s x)=some (Ck x):=Aq rfl
def MO (g:Option BJ) (sz el len:Nat):Option (List (List V)):=match g with
 | some k=>if k.sz=sz/\el+len<=k.cs.length then some ((k.cs.drop el).take len) else none
 | none=>none
theorem PE {sz id el len cap:Nat}:Gd sz h (.sl id el len cap)=MO (h.get id) sz el len:=Aq rfl
theorem Tj {sz el len:Nat} {cs:List (List V)}:MO (some ⟨sz,cs⟩) sz el len=if el+len<=cs.length then some ((cs.drop el).take len) else none:=by simp [MO]
theorem dD {sz el len:Nat} {cs:List (List V)} (hl:el+len<=cs.length):MO (some ⟨sz,cs⟩) sz el len=some ((cs.drop el).take len):=by simp [MO,hl]
def OE (h:AH) (v:V):Option V:=match v with | .s _=>none | v=>(Gd 1 h v).bind λl=>(bytesOf? l).map λr=>.s ⟨r.toArray⟩
theorem oV {xs:List (List V)}:OE h (.fl 1 xs)=(bytesOf? xs).map λr=>.s ⟨r.toArray⟩:=by simp [OE,Gd,Fa]
theorem oW:OE h .ns=some (.s ⟨#[]⟩):=Aq rfl
theorem oX {id el len cap:Nat}:OE h (.sl id el len cap)=(MO (h.get id) 1 el len).bind λl=>(bytesOf? l).map λr=>.s ⟨r.toArray⟩:=Aq rfl
theorem Ru {x:X}:Z1 tp (.b2s x) e h K=Wo (OE h (x.e2 e)) (λv=>K v h):=by
 unfold Z1;simp only [z1,BA,Ag,OE,Gd,Fa];cases x.e2 e<;>simp only [A2]
 case fl s xs=>
  split
  .rw [Bs,Option.bind_some,Bs]
  .simp only [Option.bind_none,A2]
 all_goals (rw [BN,BN];refine Fv λa=>?_;rw [Bs,Bs])
theorem nM {t:Nat} {x:X}:Z1 tp (.mkif t x) e h K=Wv (.ifc t (x.e2 e)) (λv=>K v h):=by unfold Z1;simp only [z1,BA,Ag,AV,HB]
theorem nK {fn:Fn} {a c:List X}:Z1 tp (.mkfn fn a c) e h K=Wv (.f fn (a.map (X.e2 e)) (c.map (X.e2 e))) (λv=>K v h):=by unfold Z1;simp only [z1,BA,Ag,AV,HB]
def Wmk (z:List V) (n c:V) (h:AH) (K:V->AH->Prop) (t:Fz K:=.mk):Prop:=match n,c with
 | .i _ a,.i _ m=>(0<=a/\a<=m/\m<Bc)/\Wv (.sl h.next 0 a.toNat m.toNat) (λv=>Wv (h.alloc ⟨z.length,List.replicate m.toNat z⟩) (λh'=>K v h'))
 | _,_=>False
theorem aYu {z:List V} {k j:IntKind} {a m:Int}:Wmk z (.i k a) (.i j m) h K=((0<=a/\a<=m/\m<4294967296)/\Wv (.sl h.next 0 a.toNat m.toNat) (λv=>Wv (h.alloc ⟨z.length,List.replicate m.toNat z⟩) (λh'=>K v h'))):=Aq rfl
theorem nN {z:List V} {n c:X}:Z1 tp (.mksl z n c) e h K=(z.all plain1=true/\Wmk z (n.e2 e) (c.e2 e) h K):=by
 unfold Z1;simp only [z1,BA,Ag,CI]
 congr 1
 generalize n.e2 e=v;generalize c.e2 e=w;cases v<;>cases w<;>simp only [Wmk,A2,CI,AV,HB]
def Wmz (z:List V) (x n:V) (h:AH) (K:V->AH->Prop) (t:Fz K:=.mk):Prop:=match x,n with
 | .ns,.i _ a=>(0<a/\a<Bc)/\Wv (.sl h.next 0 a.toNat a.toNat) (λv=>Wv (h.alloc ⟨z.length,List.replicate a.toNat z⟩) (λh'=>K v h'))
 | _,_=>False
theorem aYv {z:List V} {k:IntKind} {a:Int}:Wmz z .ns (.i k a) h K=((0<a/\a<4294967296)/\Wv (.sl h.next 0 a.toNat a.toNat) (λv=>Wv (h.alloc ⟨z.length,List.replicate a.toNat z⟩) (λh'=>K v h'))):=Aq rfl
theorem nA {z:List V} {x n:X}:Z1 tp (.appz z x n) e h K=(z.all plain1=true/\Wmz z (x.e2 e) (n.e2 e) h K):=by
 unfold Z1;simp only [z1,BA,Ag,CI]
 congr 1
 generalize x.e2 e=v;generalize n.e2 e=w;cases v<;>cases w<;>simp only [Wmz,A2,CI,AV,HB]
def GT (g:Option BJ) (sz:Nat) (x:V) (lo hi mx:Option V):Option V:=match x with
    | .ns=>if mx.isNone||hi.isSome then (AO mx 0 0).bind λm=>(AO hi 0 m).bind λt=>(AO lo 0 t).map λ_=>.ns else none
    | .e0=>if mx.isNone||hi.isSome then (AO mx 0 0).bind λm=>(AO hi 0 m).bind λt=>(AO lo 0 t).map λ_=>.e0 else none
    | .sl id el len cap=>
     g.bind λk=>
      if k.sz=sz/\(mx.isNone||hi.isSome)=true/\len<=cap then
       (AO mx cap cap).bind λm=>(AO hi len m).bind λt=>(AO lo 0 t).map λl=>.sl id (el+l) (t - l) (m - l)
      else none
    | .fl s xs=>if s=sz/\(mx.isNone||hi.isSome)=true then (AO mx xs.length xs.length).bind λm=>(AO hi xs.length m).bind λt=>(AO lo 0 t).map λl=>.fl s ((xs.drop l).take (t - l)) else none
    | _=>none
def Ap:V->Nat | .sl id _ _ _=>id | .p id _ _=>id | _=>0
def Ca:V->Nat | .sl _ el _ _=>el | _=>0
theorem aNt {a b c d:Nat}:Ap (.sl a b c d)=a:=Aq rfl
theorem aL9 {a b c d:Nat}:Ca (.sl a b c d)=b:=Aq rfl
theorem aYY {a b c:Nat}:Ap (.p a b c)=a:=Aq rfl
theorem vN {g:Option BJ} {s:Nat} {xs:List (List V)} {lo hi:Option V}:GT g s (.fl s xs) lo hi none=(AO hi xs.length xs.length).bind λt=>(AO lo 0 t).map λl=>.fl s ((xs.drop l).take (t - l)):=by
 simp [GT,AO]
theorem eE {g:Option BJ} {s:Nat} {xs:List (List V)} {lo:Option V} {hi mx:V}:GT g s (.fl s xs) lo (some hi) (some mx)=(AO (some mx) xs.length xs.length).bind λm=>(AO (some hi) xs.length m).bind λt=>(AO lo 0 t).map λl=>.fl s ((xs.drop l).take (t - l)):=by
 simp [GT]
theorem VM {sz:Nat} {x:X} {lo hi mx:Option X} {ev:X->V}:BA tp (.slice sz x lo hi mx) ev h=(GT (h.get (Ap (ev x))) sz (ev x) (lo.map ev) (hi.map ev) (mx.map ev)).map λv=>(v,h):=by
 have two:∀ (a b c:Option V) (p q r:Nat) (F:Nat->Nat->Nat->V),((AO a p q).bind λm=>(AO b r m).bind λt=>(AO c 0 t).map λl=>(F m t l,h))=((AO a p q).bind λm=>(AO b r m).bind λt=>(AO c 0 t).map λl=>F m t l).map (λv=>(v,h)):=by
  intro a b c p q r F
  cases AO a p q with
  | none=>rfl
  | some m=>
   simp only [Option.bind_some]
   cases AO b r m with
   | none=>rfl
   | some t=>
    simp only [Option.bind_some];cases AO c 0 t<;>rfl
 simp only [BA,Ag];cases ev x<;>simp only [GT,Option.map_none,Option.isNone_map,Option.isSome_map,Ap]
 .split
  .exact two _ _ _ _ _ _ (λ_ _ _=>V.ns)
  .rfl
 .split
  .exact two _ _ _ _ _ _ (λ_ _ _=>V.e0)
  .rfl
 .rename_i id el len cap
  cases h.get id with
  | none=>rfl
  | some k=>
   simp only [Option.bind_some];split
   .exact two _ _ _ _ _ _ (λm t l=>V.sl id (el+l) (t - l) (m - l))
   .rfl
 .rename_i s xs;split
  .exact two _ _ _ _ _ _ (λm t l=>V.fl s ((xs.drop l).take (t - l)))
  .rfl
theorem JX {sz:Nat} {x:X} {lo hi mx:Option X}:Z1 tp (.slice sz x lo hi mx) e h K=Wo (GT (h.get (Ap (x.e2 e))) sz (x.e2 e) (lo.map (X.e2 e)) (hi.map (X.e2 e)) (mx.map (X.e2 e))) (λv=>K v h):=by
 unfold Z1;simp only [z1,VM,Bs]
def aN2 (x:V) (lo hi:Option V):Option V:=match x with
    | .s x=>(AO hi x.size x.size).bind λt=>(AO lo 0 t).map λl=>.s (x.extract l t)
    | _=>none
theorem aN3 {x:ByteArray} {lo hi:Option V}:aN2 (.s x) lo hi=(AO hi x.size x.size).bind λt=>(AO lo 0 t).map λl=>.s (x.extract l t):=Aq rfl
theorem Vh {x:X} {lo hi:Option X}:Z1 tp (.sslice x lo hi) e h K=Wo (aN2 (x.e2 e) (lo.map (X.e2 e)) (hi.map (X.e2 e))) (λv=>K v h):=by
 unfold Z1;simp only [z1,BA,Ag,aN2];cases x.e2 e<;>simp only [A2];rw [BN,BN];refine Fv λt=>?_;rw [Bs,Bs]
def qE (off:Nat):V->Option V | .p id el o=>some (.p id el (o+off)) | .fp s xs j o=>some (.fp s xs j (o+off)) | _=>none
theorem aMd {off a b c:Nat}:qE off (.p a b c)=some (.p a b (c+off)):=Aq rfl
theorem qF {off s j o:Nat} {xs:List (List V)}:qE off (.fp s xs j o)=some (.fp s xs j (o+off)):=Aq rfl
theorem aLt {off:Nat} {x:X}:Z1 tp (.fad off x) e h K=Wo (qE off (x.e2 e)) (λv=>K v h):=by
 unfold Z1;simp only [z1,BA,Ag,qE];cases x.e2 e<;>simp only [AV,A2]
def aMf (off n:Nat) (agg:Bool):V->Option V | .agg r=>HJ r off n agg | _=>none
theorem Zf {off n:Nat} {agg:Bool} {r:List V}:aMf off n agg (.agg r)=HJ r off n agg:=Aq rfl
theorem aLu {off n:Nat} {agg:Bool} {x:X}:Z1 tp (.fld off n agg x) e h K=Wo (aMf off n agg (x.e2 e)) (λv=>K v h):=by
 unfold Z1;simp only [z1,BA,Ag,aMf];cases x.e2 e<;>simp only [Bs,A2]
def NM (g:Option BJ) (sz:Nat) (v i:V):Option V:=match v with
 | .sl id el len _=>match g with | some k=>if k.sz=sz then (BW i len).map λj=>.p id (el+j) 0 else none | none=>none
 | .fl s xs=>if s=sz then (BW i xs.length).map λj=>.fp s xs j 0 else none
 | _=>none
theorem tA {g:Option BJ} {s:Nat} {xs:List (List V)} {i:V}:NM g s (.fl s xs) i=(BW i xs.length).map λj=>.fp s xs j 0:=by simp [NM]
theorem tB {sz id el len cap:Nat} {cs:List (List V)} {i:V}:NM (some ⟨sz,cs⟩) sz (.sl id el len cap) i=(BW i len).map λj=>.p id (el+j) 0:=by simp [NM]
theorem aNs {sz:Nat} {v i:V}:tC (OG h v) sz v i=NM (h.get (Ap v)) sz v i:=by
 cases v<;>try rfl
 rename_i id el len cap;simp only [OG,Ap];cases h.get id<;>rfl
theorem aLw {sz:Nat} {x i:X}:Z1 tp (.iad sz x i) e h K=Wo (NM (h.get (Ap (x.e2 e))) sz (x.e2 e) (i.e2 e)) (λv=>K v h):=by
 unfold Z1;simp only [z1,BA,aNs,Bs]
def UN (sz len:Nat):V->V->Option V
 | .p id el off,i=>(BW i len).map λj=>.p id el (off+j*sz)
 | .fp s xs k off,i=>(BW i len).map λj=>.fp s xs k (off+j*sz)
 | _,_=>none
theorem tD {sz len id el off:Nat} {i:V}:UN sz len (.p id el off) i=(BW i len).map λj=>.p id el (off+j*sz):=Aq rfl
theorem aV {sz len s k off:Nat} {xs:List (List V)} {i:V}:UN sz len (.fp s xs k off) i=(BW i len).map λj=>.fp s xs k (off+j*sz):=Aq rfl
theorem nG {sz len:Nat} {x i:X}:Z1 tp (.iada sz len x i) e h K=Wo (UN sz len (x.e2 e) (i.e2 e)) (λv=>K v h):=by
 unfold Z1;simp only [z1,BA,Ag,UN];cases x.e2 e<;>simp only [A2,Bs]
def aNv (sz len:Nat) (agg:Bool):V->V->Option V
 | .agg r,i=>(BW i len).bind λj=>HJ r (j*sz) sz agg
 | _,_=>none
theorem aW {sz len:Nat} {agg:Bool} {r:List V} {i:V}:aNv sz len agg (.agg r) i=(BW i len).bind λj=>HJ r (j*sz) sz agg:=Aq rfl
theorem aLx {sz len:Nat} {agg:Bool} {x i:X}:Z1 tp (.idx sz len agg x i) e h K=Wo (aNv sz len agg (x.e2 e) (i.e2 e)) (λv=>K v h):=by
 unfold Z1;simp only [z1,BA,Ag,aNv];cases x.e2 e<;>simp only [A2];rw [BN,BN];refine Fv λt=>?_;rw [Bs]
def eD:V->V->Option V
 | .s x,i=>(BW i x.size).map λj=>.i .u8 ((x.data.toList.getD j 0).toNat:Int)
 | _,_=>none
theorem vI {x:ByteArray} {i:V}:eD (.s x) i=(BW i x.size).map λj=>.i .u8 ((x.data.toList.getD j 0).toNat:Int):=Aq rfl
theorem nP {x i:X}:Z1 tp (.sidx x i) e h K=Wo (eD (x.e2 e) (i.e2 e)) (λv=>K v h):=by
 unfold Z1;simp only [z1,BA,Ag,eD];cases x.e2 e<;>simp only [A2,BN,Bs]
def aMc:V->Nat->Option V | .tup l,i=>l[i]? | _,_=>none
theorem Zb {l:List V} {i:Nat}:aMc (.tup l) i=l[i]?:=Aq rfl
theorem aLs {x:X} {i:Nat}:Z1 tp (.ext x i) e h K=Wo (aMc (x.e2 e) i) (λv=>K v h):=by
 unfold Z1;simp only [z1,BA,Ag,aMc];cases x.e2 e<;>simp only [A2,Bs]
theorem aLo {sz:Nat} {x y:X}:Z1 tp (.app sz x y) e h K=Wo (Gd sz h (y.e2 e)) (λnew=>Wo (J0 sz h (x.e2 e) new) (λz=>K z.1 z.2)):=by
 unfold Z1;simp only [z1,BA,BN];rfl
def O8:V->Option V | .ns=>some (.i .i64 0) | .e0=>some (.i .i64 0) | .sl _ _ n _=>some (.i .i64 n) | .fl _ xs=>some (.i .i64 xs.length) | _=>none
theorem tN:O8 .ns=some (.i .i64 0):=Aq rfl
theorem tL:O8 .e0=some (.i .i64 0):=Aq rfl
theorem tO {a b c d:Nat}:O8 (.sl a b c d)=some (.i .i64 c):=Aq rfl
theorem tM {s:Nat} {xs:List (List V)}:O8 (.fl s xs)=some (.i .i64 xs.length):=Aq rfl
theorem aLz {x:X}:Z1 tp (.len x) e h K=Wo (O8 (x.e2 e)) (λv=>K v h):=by
 unfold Z1;simp only [z1,BA,Ag,O8];cases x.e2 e<;>simp only [AV,A2]
def eG:V->Option V | .s x=>some (.i .i64 x.size) | _=>none
theorem vO {x:ByteArray}:eG (.s x)=some (.i .i64 x.size):=Aq rfl
theorem nQ {x:X}:Z1 tp (.slen x) e h K=Wo (eG (x.e2 e)) (λv=>K v h):=by
 unfold Z1;simp only [z1,BA,Ag,eG];cases x.e2 e<;>simp only [AV,A2]
theorem nI {n:Nat}:Z1 tp (.lenc n) e h K=K (.i .i64 n) h:=by unfold Z1;simp only [z1,BA,Ag,AV]
theorem aYz {x:X} {l:List X}:Z1 tp (.mn (x::l)) e h K=Wo (EH Pc (x.e2 e) (l.map (X.e2 e))) (λv=>K v h):=by unfold Z1;simp only [z1,BA,Ag,Bs]
theorem aYB {x:X} {l:List X}:Z1 tp (.mx (x::l)) e h K=Wo (EH Pb (x.e2 e) (l.map (X.e2 e))) (λv=>K v h):=by unfold Z1;simp only [z1,BA,Ag,Bs]
def vS (t:Nat) (ok:Bool) (z:V):V->Option V
 | .ifc t' v=>if t'=t then some (if ok then .tup [v,.b true] else v) else if ok then some (.tup [z,.b false]) else none
 | .ni=>if ok then some (.tup [z,.b false]) else none
 | _=>none
theorem WP {t:Nat} {z v:V}:vS t false z (.ifc t v)=some v:=by simp [vS]
theorem aLB {t:Nat} {ok:Bool} {z:V} {x:X}:Z1 tp (.tas t ok z x) e h K=(plain z=true/\Wo (vS t ok z (x.e2 e)) (λv=>K v h)):=by
 unfold Z1;simp only [z1,BA,Ag,CI,vS]
 congr 1
 cases x.e2 e<;>simp only [A2]<;>(repeat' split)<;>simp only [A2,AV]
def T9:V->List V->Option (Nat×List V) | .f (.func g) first caps,l=>some (g,first++l++caps) | _,_=>none
theorem Mu {g:Nat} {a c l:List V}:T9 (.f (.func g) a c) l=some (g,a++l++c):=Aq rfl
theorem T5 {f:X} {l:List X}:Z1 tp (.call f l) e h K=Wo (T9 (f.e2 e) (l.map (X.e2 e))) (λc=>Cq tp c.1 c.2 h K):=by
 unfold Z1;simp only [z1,callee];generalize f.e2 e=v
 cases v with
 | f g a c=>cases g<;>rfl
 | _=>rfl
theorem aYy {f:Nat} {l:List X}:Z1 tp (.call (.fn f) l) e h K=Cq tp f (l.map (X.e2 e)) h K:=by
 rw [T5,aAs,Mu,AV];simp
def aAA (tp:TP) (m:String) (l:List V):V->Option (Nat×List V)
 | .ifc t v=>(tp.meth t m).bind λq=>match q.at_ with
  | none=>some (q.f,v::l)
  | some j=>match v with | .agg cs=>(cs[j]?).map λr=>(q.f,r::l) | _=>none
 | _=>none
theorem Wh {m:String} {l:List V} {t:Nat} {v:V}:aAA tp m l (.ifc t v)=(tp.meth t m).bind λq=>match q.at_ with
    | none=>some (q.f,v::l)
    | some j=>match v with | .agg cs=>(cs[j]?).map λr=>(q.f,r::l) | _=>none:=Aq rfl
theorem aLy {x:X} {m:String} {l:List X}:Z1 tp (.inv x m l) e h K=Wo (aAA tp m (l.map (X.e2 e)) (x.e2 e)) (λc=>Cq tp c.1 c.2 h K):=by
 unfold Z1;simp only [z1,callee];cases x.e2 e<;>rfl
/-! Quiet ones. -/
theorem A1 {o:O} (hp:AS o=true):Eh tp o e h K=Z1 tp o e h K:=by unfold Eh Z1 zq1;rw [if_pos hp]
theorem B4 {o:O} (hp:AS o=false):Eh tp o e h K=Z1 tp o e h.raise (λv h'=>K v (h'.back h.lim)):=by unfold Eh Z1 zq1;rw [if_neg (by simp [hp])]
theorem V8 {n:Nat} {g:Bool} {v:V}:iX h.raise n g v=iX h n g v:=by cases v<;>rfl
theorem Yn {n:Nat} {g:Bool} {x:X}:Eh tp (.load n g x) e h K=Z1 tp (.load n g x) e h K:=by
 rw [B4 rfl,Nd,Nd,V8];rfl
theorem Vl {sz:Nat} {x:X} {lo hi mx:Option X}:Eh tp (.slice sz x lo hi mx) e h K=Z1 tp (.slice sz x lo hi mx) e h K:=by
 rw [B4 rfl,JX,JX];rfl
theorem Vi {z:List V}:Eh tp (.alloc z) e h K=Z1 tp (.alloc z) e h K:=by
 rw [B4 rfl,JV,JV];rfl
theorem oB {x:X}:Eh tp (.box x) e h K=Z1 tp (.box x) e h K:=by
 rw [B4 rfl,Rv,Rv];rfl
theorem nX {z:List V}:Eh tp (.alc z) e h K=Z1 tp (.alc z) e h K:=by
 rw [B4 rfl,Rt,Rt];rfl
theorem Yi {sz n:Nat} {z:List V} {ps:List (Nat×X)}:Eh tp (.bslc sz z n ps) e h K=Z1 tp (.bslc sz z n ps) e h K:=by
 rw [B4 rfl,Nc,Nc];rfl
theorem oC {sz n:Nat} {z:List V} {ps:List (Nat×X)}:Eh tp (.bsl sz z n ps) e h K=Z1 tp (.bsl sz z n ps) e h K:=by
 rw [B4 rfl,Rx,Rx];rfl
theorem nZ {x:X}:Eh tp (.b2s x) e h K=Z1 tp (.b2s x) e h K:=by
 rw [B4 rfl,Ru,Ru];have:OE h.raise (x.e2 e)=OE h (x.e2 e):=by cases x.e2 e<;>rfl
 rw [this];rfl
theorem oM {x:X}:Eh tp (.s2b x) e h K=Z1 tp (.s2b x) e h K:=by
 rw [B4 rfl,Ry,Ry];rfl
theorem Yh {z:List V} {x y:X}:Eh tp (.appz z x y) e h K=Z1 tp (.appz z x y) e h.raise (λv h'=>K v (h'.back h.lim)):=B4 rfl
theorem Yr {z:List V} {x y:X}:Eh tp (.mksl z x y) e h K=Z1 tp (.mksl z x y) e h.raise (λv h'=>K v (h'.back h.lim)):=B4 rfl
theorem nY {sz:Nat} {x y:X}:Eh tp (.app sz x y) e h K=Z1 tp (.app sz x y) e h.raise (λv h'=>K v (h'.back h.lim)):=B4 rfl
theorem Vm {n:Nat} {x y:X}:Eh tp (.store n x y) e h K=Z1 tp (.store n x y) e h.raise (λv h'=>K v (h'.back h.lim)):=B4 rfl
theorem Yo {x:X}:Eh tp (.mark x) e h K=Z1 tp (.mark x) e h.raise (λv h'=>K v (h'.back h.lim)):=B4 rfl
theorem Yj {f:X} {l:List X}:Eh tp (.call f l) e h K=Z1 tp (.call f l) e h.raise (λv h'=>K v (h'.back h.lim)):=B4 rfl
theorem oJ {x:X} {m:String} {l:List X}:Eh tp (.inv x m l) e h K=Z1 tp (.inv x m l) e h.raise (λv h'=>K v (h'.back h.lim)):=B4 rfl
theorem aLL {x:X}:Eh tp (.mv x) e h K=Z1 tp (.mv x) e h K:=A1 rfl
theorem Ys {a b c:X}:Eh tp (.pick a b c) e h K=Z1 tp (.pick a b c) e h K:=A1 rfl
theorem Vj {z:List V} {ps:List (Nat×Nat×X)}:Eh tp (.build z ps) e h K=Z1 tp (.build z ps) e h K:=A1 rfl
theorem aLI  : Eh tp (.e0 ) e h K=Z1 tp (.e0 ) e h K:=A1 rfl
theorem oL {x:X}:Eh tp (.nck x) e h K=Z1 tp (.nck x) e h K:=A1 rfl
theorem oA {op:BinOp} {x y:X}:Eh tp (.bin op x y) e h K=Z1 tp (.bin op x y) e h K:=A1 rfl
theorem aLJ {n:Bool} {k:EK} {x y:X}:Eh tp (.eq n k x y) e h K=Z1 tp (.eq n k x y) e h K:=A1 rfl
theorem aLN {op:UnOp} {x:X}:Eh tp (.un op x) e h K=Z1 tp (.un op x) e h K:=A1 rfl
theorem Yk {k:IntKind} {x:X}:Eh tp (.conv k x) e h K=Z1 tp (.conv k x) e h K:=A1 rfl
theorem Yv {x:X}:Eh tp (.strs x) e h K=Z1 tp (.strs x) e h K:=A1 rfl
theorem oG {x:X}:Eh tp (.i2s x) e h K=Z1 tp (.i2s x) e h K:=A1 rfl
theorem Yq {t:Nat} {x:X}:Eh tp (.mkif t x) e h K=Z1 tp (.mkif t x) e h K:=A1 rfl
theorem Yp {f:Fn} {a c:List X}:Eh tp (.mkfn f a c) e h K=Z1 tp (.mkfn f a c) e h K:=A1 rfl
theorem RA {x:X} {lo hi:Option X}:Eh tp (.sslice x lo hi) e h K=Z1 tp (.sslice x lo hi) e h K:=A1 rfl
theorem oE {o:Nat} {x:X}:Eh tp (.fad o x) e h K=Z1 tp (.fad o x) e h K:=A1 rfl
theorem oF {o n:Nat} {g:Bool} {x:X}:Eh tp (.fld o n g x) e h K=Z1 tp (.fld o n g x) e h K:=A1 rfl
theorem oH {s:Nat} {x i:X}:Eh tp (.iad s x i) e h K=Z1 tp (.iad s x i) e h K:=A1 rfl
theorem Yl {s n:Nat} {x i:X}:Eh tp (.iada s n x i) e h K=Z1 tp (.iada s n x i) e h K:=A1 rfl
theorem oI {s n:Nat} {g:Bool} {x i:X}:Eh tp (.idx s n g x i) e h K=Z1 tp (.idx s n g x i) e h K:=A1 rfl
theorem Yt {x i:X}:Eh tp (.sidx x i) e h K=Z1 tp (.sidx x i) e h K:=A1 rfl
theorem oD {x:X} {i:Nat}:Eh tp (.ext x i) e h K=Z1 tp (.ext x i) e h K:=A1 rfl
theorem Vk {n:Nat} {ag:Bool} {x:X}:Eh tp (.fload n ag x) e h K=Z1 tp (.fload n ag x) e h K:=A1 rfl
theorem oK {x:X}:Eh tp (.len x) e h K=Z1 tp (.len x) e h K:=A1 rfl
theorem Yu {x:X}:Eh tp (.slen x) e h K=Z1 tp (.slen x) e h K:=A1 rfl
theorem Ym {n:Nat}:Eh tp (.lenc n) e h K=Z1 tp (.lenc n) e h K:=A1 rfl
theorem aLK {l:List X}:Eh tp (.mn l) e h K=Z1 tp (.mn l) e h K:=A1 rfl
theorem aLM {l:List X}:Eh tp (.mx l) e h K=Z1 tp (.mx l) e h K:=A1 rfl
theorem oN {t:Nat} {ok:Bool} {z:V} {x:X}:Eh tp (.tas t ok z x) e h K=Z1 tp (.tas t ok z x) e h K:=A1 rfl
end
/-! ### Values -/
theorem oZ {k:IntKind} {a b:Int}:B1 .add (.i k a) (.i k b)=some (.i k (k.wrap (a+b))):=by simp [B1,GQ]
theorem pK {k:IntKind} {a b:Int}:B1 .sub (.i k a) (.i k b)=some (.i k (k.wrap (a - b))):=by simp [B1,GQ]
theorem pG {k:IntKind} {a b:Int}:B1 .mul (.i k a) (.i k b)=some (.i k (k.wrap (a*b))):=by simp [B1,GQ]
theorem pI {k:IntKind} {a b:Int} (hb:¬ b=0):B1 .quo (.i k a) (.i k b)=some (.i k (k.wrap (a.tdiv b))):=by simp [B1,GQ,hb]
theorem pJ {k:IntKind} {a b:Int} (hb:¬ b=0):B1 .rem (.i k a) (.i k b)=some (.i k (a.tmod b)):=by simp [B1,GQ,hb]
theorem pA {k:IntKind} {a b:Int}:B1 .and (.i k a) (.i k b)=some (.i k (k.wrap (BitVec.ofInt k.bits a &&& BitVec.ofInt k.bits b).toNat)):=by simp [B1,GQ]
theorem aLX {k:IntKind} {a b:Int}:B1 .or (.i k a) (.i k b)=some (.i k (k.wrap (BitVec.ofInt k.bits a ||| BitVec.ofInt k.bits b).toNat)):=by simp [B1,GQ]
theorem pB {k:IntKind} {a b:Int}:B1 .eql (.i k a) (.i k b)=some (.b (decide (a=b))):=by simp [B1,GQ]
theorem pH {k:IntKind} {a b:Int}:B1 .neq (.i k a) (.i k b)=some (.b (decide (¬ a=b))):=by simp [B1,GQ]
theorem pF {k:IntKind} {a b:Int}:B1 .lss (.i k a) (.i k b)=some (.b (decide (a<b))):=by simp [B1,GQ]
theorem pE {k:IntKind} {a b:Int}:B1 .leq (.i k a) (.i k b)=some (.b (decide (a<=b))):=by simp [B1,GQ]
theorem pD {k:IntKind} {a b:Int}:B1 .gtr (.i k a) (.i k b)=some (.b (decide (b<a))):=by simp [B1,GQ]
theorem pC {k:IntKind} {a b:Int}:B1 .geq (.i k a) (.i k b)=some (.b (decide (b<=a))):=by simp [B1,GQ]
theorem aOh {x:Bool}:unV .not (.b x)=some (.b (!x)):=Aq rfl
theorem aOg {k:IntKind} {n:Int}:unV .neg (.i k n)=some (.i k (k.wrap (0 - n))):=Aq rfl
theorem aY7 {k:IntKind} {x y:Int}:Pc (.i k x) (.i k y)=some (.i k (min x y)):=by
 simp only [Pc,if_true];congr 2;omega
theorem aY5 {k:IntKind} {x y:Int}:Pb (.i k x) (.i k y)=some (.i k (max x y)):=by
 simp only [Pb,if_true];congr 2;omega
theorem Zp {f:V->V->Option V} {x:V}:EH f x []=some x:=Aq rfl
theorem VU {f:V->V->Option V} {x y:V} {l:List V}:EH f x (y::l)=(f x y).bind λz=>EH f z l:=Aq rfl
theorem bAV {p:Prop} [Decidable p]:(!decide p)=decide (¬ p):=by simp
theorem bAK {p q:Prop} [Decidable p] [Decidable q]:(decide p&&decide q)=decide (p/\q):=by simp
theorem bAX {p q:Prop} [Decidable p] [Decidable q]:(decide p||decide q)=decide (p\/q):=by simp
theorem aYZ {k:IntKind} {j:Int} {n:Nat} (h0:0<=j) (h1:j<n):BW (.i k j) n=some j.toNat:=by simp [BW,h0,h1]
theorem OH {d n:Nat}:AO none d n=some d:=Aq rfl
theorem YD {k:IntKind} {j:Int} {d n:Nat} (h0:0<=j) (h1:j<=n):AO (some (.i k j)) d n=some j.toNat:=by simp [AO,h0,h1]
theorem Vu {l:List V}:V.cells (.agg l)=l:=Aq rfl
theorem pR {k:IntKind} {n:Int}:V.cells (.i k n)=[.i k n]:=Aq rfl
theorem pP {x:Bool}:V.cells (.b x)=[.b x]:=Aq rfl
theorem pT {x:ByteArray}:V.cells (.s x)=[.s x]:=Aq rfl
theorem YO {a b c d:Nat}:V.cells (.sl a b c d)=[.sl a b c d]:=Aq rfl
theorem YN:V.cells .ns=[.ns]:=Aq rfl
theorem pS {a b c:Nat}:V.cells (.p a b c)=[.p a b c]:=Aq rfl
theorem YM:V.cells .np=[.np]:=Aq rfl
theorem bB {k:IntKind} {n:Int}:V.isCell (.i k n)=true:=Aq rfl
theorem aZ {x:Bool}:V.isCell (.b x)=true:=Aq rfl
theorem bD {x:ByteArray}:V.isCell (.s x)=true:=Aq rfl
theorem V7 {a b c d:Nat}:V.isCell (.sl a b c d)=true:=Aq rfl
theorem V6:V.isCell .ns=true:=Aq rfl
theorem bC {a b c:Nat}:V.isCell (.p a b c)=true:=Aq rfl
theorem V5:V.isCell .np=true:=Aq rfl
theorem w64 {x:Int} (h0 : -9223372036854775808<=x) (h1:x<9223372036854775808):IntKind.wrap .i64 x=x:=by rw [IntKind.wrap_i64];omega
theorem YI {a:Nat} {b:List (List V)}:V.cells (.fl a b)=[.fl a b]:=Aq rfl
theorem YJ {a c d:Nat} {b:List (List V)}:V.cells (.fp a b c d)=[.fp a b c d]:=Aq rfl
theorem YH:V.cells .e0=[.e0]:=Aq rfl
theorem YK:V.cells .nf=[.nf]:=Aq rfl
theorem YL:V.cells .ni=[.ni]:=Aq rfl
theorem pQ {a:Fn} {b c:List V}:V.cells (.f a b c)=[.f a b c]:=Aq rfl
theorem Vv {a:Nat} {b:V}:V.cells (.ifc a b)=[.ifc a b]:=Aq rfl
theorem V1 {a:Nat} {b:List (List V)}:V.isCell (.fl a b)=true:=Aq rfl
theorem V2 {a c d:Nat} {b:List (List V)}:V.isCell (.fp a b c d)=true:=Aq rfl
theorem V0:V.isCell .e0=true:=Aq rfl
theorem V3:V.isCell .nf=true:=Aq rfl
theorem V4:V.isCell .ni=true:=Aq rfl
theorem bA {a:Fn} {b c:List V}:V.isCell (.f a b c)=true:=Aq rfl
theorem SV {a:Nat} {b:V}:V.isCell (.ifc a b)=true:=Aq rfl
theorem aZb {x:Bool}:pur (.b x)=true:=Aq (by simp [pur])
theorem aZd {k:IntKind} {n:Int}:pur (.i k n)=true:=Aq (by simp [pur])
theorem aZe {x:ByteArray}:pur (.s x)=true:=Aq (by simp [pur])
theorem aNW {a:Nat} {b:List (List V)}:pur (.fl a b)=true:=Aq (by simp [pur])
theorem aN0:pur .ns=true:=Aq (by simp [pur])
theorem aNV:pur .e0=true:=Aq (by simp [pur])
theorem aNZ:pur .np=true:=Aq (by simp [pur])
theorem aNY:pur .ni=true:=Aq (by simp [pur])
theorem aNX:pur .nf=true:=Aq (by simp [pur])
theorem aZf:pur .u=true:=Aq (by simp [pur])
theorem uR {l:List V}:pur (.agg l)=Gb l:=Aq (by simp [pur])
theorem uT {l:List V}:pur (.tup l)=Gb l:=Aq (by simp [pur])
theorem aZc {f:Fn} {a c:List V}:pur (.f f a c)=(Gb a&&Gb c):=Aq (by simp [pur])
theorem uS {t:Nat} {v:V}:pur (.ifc t v)=pur v:=Aq (by simp [pur])
theorem cT:Gb []=true:=Aq (by simp [Gb])
theorem WD {v:V} {l:List V}:Gb (v::l)=(pur v&&Gb l):=Aq (by simp [Gb])
theorem bAQ {x y:Bool}:FD .b (.b x) (.b y)=some (decide (x=y)):=by cases x<;>cases y<;>rfl
theorem aMb {ks:List CK} {l m:List V}:FD (.agg ks) (.agg l) (.agg m)=GS ks l m:=Aq rfl
theorem qC:GS [] [] []=some true:=Aq rfl
theorem Y6 {k:CK} {ks:List CK} {a c:V} {l m:List V}:GS (k::ks) (a::l) (c::m)=(RQ k a c).bind λx=>(GS ks l m).map λy=>x&&y:=Aq rfl
theorem aYP {k:IntKind} {a b:Int}:RQ .i (.i k a) (.i k b)=some (decide (a=b)):=by simp [RQ]
theorem aYO {x y:Bool}:RQ .b (.b x) (.b y)=some (decide (x=y)):=by cases x<;>cases y<;>rfl
theorem aYQ {x y:ByteArray}:RQ .s (.s x) (.s y)=some (decide (x=y)):=Aq rfl
theorem YB {x y:ByteArray}:B1 .eql (.s x) (.s y)=some (.b (decide (x=y))):=Aq rfl
theorem YC {x y:ByteArray}:B1 .neq (.s x) (.s y)=some (.b (decide (¬ x=y))):=by simp [B1,Yz]
theorem YA {x y:ByteArray} (h:x.size+y.size<4294967296):B1 .add (.s x) (.s y)=some (.s (x++y)):=by simp [B1,Yz,Bc,h]
/-! ### Results -/
section
variable {e:Env} {h:AH}
theorem oO {res:List RV} {Q:V->AH->Prop}:G1 res .nm e h Q=Wo (BI e h res) (λv=>Q v h):=Aq rfl
theorem oP {res:List RV} {Q:V->AH->Prop}:G1 res .rt e h Q=Wo (BI e h res) (λv=>Q v h):=Aq rfl
theorem uW:BI e h []=some (.tup []):=Aq rfl
theorem uX {n:Nat}:BI e h [.t n]=some (e n):=Aq rfl
theorem uY {n m:Nat}:BI e h [.t n,.t m]=some (.tup [e n,e m]):=Aq rfl
theorem WH {n m l:Nat}:BI e h [.t n,.t m,.t l]=some (.tup [e n,e m,e l]):=Aq rfl
def Jc (h:AH) (k:Nat) (g:Bool):V->Option V | .p id el off=>iV (h.get id) el off k g | _=>none
theorem pO {k id el off:Nat} {g:Bool}:Jc h k g (.p id el off)=iV (h.get id) el off k g:=Aq rfl
theorem IV {n k:Nat} {g:Bool}:Tn e h (.cell n k g)=Jc h k g (e n):=Aq rfl
theorem cZ {n k:Nat} {g:Bool}:BI e h [.cell n k g]=Jc h k g (e n):=by
 simp only [BI,W6,IV];cases Jc h k g (e n)<;>rfl
theorem WF {n k m:Nat} {g:Bool}:BI e h [.cell n k g,.t m]=(Jc h k g (e n)).map λv=>.tup [v,e m]:=by
 simp only [BI,W6,IV];cases Jc h k g (e n)<;>rfl
theorem WG {n k m l:Nat} {g:Bool}:BI e h [.cell n k g,.t m,.t l]=(Jc h k g (e n)).map λv=>.tup [v,e m,e l]:=by
 simp only [BI,W6,IV];cases Jc h k g (e n)<;>rfl
end
/-! ### What stays -/
def PV:V->Bool
 | .b _ | .i .. | .s _ | .np | .ns | .e0 | .nf | .ni | .u | .fl .. | .fp ..=>true
 | _=>false
theorem CY.of_stay {P:Nat->Prop} {h:AH} {n:Nat} {v:V} (hv:PV v=true):CY P h n v v:=by
 cases v<;>first | (simp [PV] at hv;done) | exact .fl _ _ _ | exact .fp _ _ _ _ _ | exact .z _ _ (by constructor)
theorem Cr.of_stay {P:Nat->Prop} {h:AH} {n:Nat}:∀ {l:List V},l.all PV=true->Cr P h n l l
 | [],_=>.nil _
 | v::l,hl=>by
  simp only [List.all_cons,Bool.and_eq_true] at hl;exact .cons _ _ _ _ _ (CY.of_stay hl.1) (Cr.of_stay hl.2)
theorem Dc.of_map {P:Nat->Prop} {h:AH} {n:Nat} {α:Type} {enc:α->List V} (he:∀ a,(enc a).all PV=true):∀ (L:List α),Dc P h n (L.map enc) (L.map enc)
 | []=>.nil _
 | a::L=>.cons _ _ _ _ _ (Cr.of_stay (he a)) (Dc.of_map he L)
section
variable {P:Nat->Prop} {h:AH} {n:Nat}
theorem aOz {k k':IntKind} {z z':Int}:CY P h n (.i k z) (.i k' z')=(k=k'/\z=z'):=propext ⟨λf=>by cases f;exact ⟨rfl,rfl⟩,λ⟨a,b⟩=>by subst a;subst b;exact .z _ _ (.i _ _)⟩
theorem aOy {z z':Bool}:CY P h n (.b z) (.b z')=(z=z'):=propext ⟨λf=>by cases f;exact rfl,λa=>by subst a;exact .z _ _ (.b _)⟩
theorem aOA {z z':ByteArray}:CY P h n (.s z) (.s z')=(z=z'):=propext ⟨λf=>by cases f;exact rfl,λa=>by subst a;exact .z _ _ (.s _)⟩
theorem aAH {s s':Nat} {z z':List (List V)}:CY P h n (.fl s z) (.fl s' z')=(s=s'/\z=z'):=propext ⟨λf=>by
 cases f with
 | z _ _ h0=>cases h0
 | fl=>exact ⟨rfl,rfl⟩,λ⟨a,b⟩=>by subst a;subst b;exact .fl _ _ _⟩
theorem aAJ {s:Nat} {z:List (List V)}:CY P h n .ns (.fl s z)=(z=[]):=propext ⟨λf=>by cases f;exact rfl,λa=>by subst a;exact .ns _ _⟩
theorem aAG {s:Nat} {z:List (List V)}:CY P h n .e0 (.fl s z)=(z=[]):=propext ⟨λf=>by cases f;exact rfl,λa=>by subst a;exact .e0 _ _⟩
theorem aAI:CY P h n .np .np=True:=by simp;exact .z _ _ .np
theorem jG {l l':List V}:CY P h n (.tup l) (.tup l')=Cr P h n l l':=propext ⟨λf=>by
 cases f with
 | z _ _ h0=>cases h0
 | tup _ _ _ h=>exact h,λa=>.tup _ _ _ a⟩
theorem jF {l l':List V}:CY P h n (.agg l) (.agg l')=Cr P h n l l':=propext ⟨λf=>by
 cases f with
 | z _ _ h0=>cases h0
 | agg _ _ _ h=>exact h,λa=>.agg _ _ _ a⟩
theorem W9:Cr P h n [] []=True:=by simp;exact .nil _
theorem Vc {v w:V} {l l':List V}:Cr P h n (v::l) (w::l')=(CY P h n v w/\Cr P h n l l'):=propext ⟨λf=>by
 cases f with
 | cons _ _ _ _ _ a b=>exact ⟨a,b⟩,λ⟨a,b⟩=>.cons _ _ _ _ _ a b⟩
end
/-! ### Slices of one's own -/
def nth {α:Type} [Inhabited α] (L:List α) (j:Nat):α:=L.getD j default
theorem Dq {α:Type} [Inhabited α] {L:List α} {j:Nat} (h:j<L.length):L[j]?=some (nth L j):=by simp [nth,List.getD,List.getElem?_eq_getElem h]
theorem Ba {α:Type} [Inhabited α] {L:List α} {j:Nat} (h:j<L.length):nth L j=L[j]:=by simp [nth,List.getD,List.getElem?_eq_getElem h]
theorem uA {α:Type} [Inhabited α] {β:Type} {f:α->β} {L:List α} {j:Nat} (h:j<L.length):(L.map f)[j]?=some (f (nth L j)):=by rw [List.getElem?_map,Dq h];rfl
theorem Az {α:Type} [Inhabited α] {L:List α} {j:Nat} (h:j<L.length):nth L j∈L:=by rw [Ba h];exact List.getElem_mem h
theorem AN {α:Type} [Inhabited α] {L:List α} {i:Nat} (h:i<L.length):L.drop i=nth L i::L.drop (i+1):=by
 rw [Ba h];exact List.drop_eq_getElem_cons h
structure Ak (h h':AH):Prop where
 next:h.next<=h'.next
 lim:h'.lim=h.lim
 get:∀ i,i<h.next->h'.get i=h.get i
theorem Ak.refl (h:AH):Ak h h:=⟨Nat.le_refl _,rfl,λ_ _=>rfl⟩
theorem Ak.trans {a b c:AH} (p:Ak a b) (q:Ak b c):Ak a c:=⟨Nat.le_trans p.next q.next,q.lim.trans p.lim,λi hi=>(q.get i (Nat.lt_of_lt_of_le hi p.next)).trans (p.get i hi)⟩
theorem Ak.alloc {a b:AH} (p:Ak a b) (k:BJ):Ak a (b.alloc k):=⟨Nat.le_succ_of_le p.next,p.lim,λi hi=>by
 rw [AD,Af (by have:=p.next;omega)];exact p.get i hi⟩
theorem Ak.put {a b:AH} (p:Ak a b) (i:Nat) (k:BJ) (hi:a.next<=i):Ak a (b.put i k):=⟨p.next,p.lim,λj hj=>by
 rw [Ae,Af om];exact p.get j hj⟩
theorem Ak.kill {a b:AH} (p:Ak a b) (i:Nat) (hi:a.next<=i):Ak a (b.kill i):=⟨p.next,p.lim,λj hj=>by
 rw [B6,Af om];exact p.get j hj⟩
def AP (h:AH) (v:V):List (List V):=match h.get (Ap v) with | some k=>k.cs | none=>[]
def Sl (b:Nat) (h:AH) (sz:Nat) (v:V) (R:List (List V)):Prop:=((v=.ns\/v=.e0)/\R=[])\/∃ id el cap cs,v=.sl id el R.length cap/\h.get id=some ⟨sz,cs⟩/\el+cap<=cs.length/\(cs.drop el).take R.length=R/\R.length<=cap/\id<h.next/\b<=id/\R.length<4294967296
theorem Sl.nil (b:Nat) (h:AH) (sz:Nat):Sl b h sz .ns []:=.inl ⟨.inl rfl,rfl⟩
theorem Sl.nil' (b:Nat) (h:AH) (sz:Nat):Sl b h sz .e0 []:=.inl ⟨.inr rfl,rfl⟩
theorem Sl.same {b:Nat} {h h':AH} {sz:Nat} {v:V} {R:List (List V)} (s:Sl b h sz v R) (hn:h.next<=h'.next) (hg:Ap v<h.next->h'.get (Ap v)=h.get (Ap v)):Sl b h' sz v R:=by
 rcases s with ⟨hv,rfl⟩ | ⟨id,el,cap,k,rfl,a,c,d,f,hlt,hb,hl⟩
 .exact .inl ⟨hv,rfl⟩
 .exact .inr ⟨id,el,cap,k,rfl,(hg hlt).trans a,c,d,f,Nat.lt_of_lt_of_le hlt hn,hb,hl⟩
theorem Sl.ext {b:Nat} {h h':AH} {sz:Nat} {v:V} {R:List (List V)} (s:Sl b h sz v R) (p:Ak h h'):Sl b h' sz v R:=s.same p.next (λhl=>p.get _ hl)
theorem Sl.alloc {b:Nat} {h:AH} {sz:Nat} {v:V} {R:List (List V)} (s:Sl b h sz v R) (k:BJ):Sl b (h.alloc k) sz v R:=s.ext ((Ak.refl h).alloc k)
theorem Sl.putx {b:Nat} {h:AH} {sz:Nat} {v:V} {R:List (List V)} (s:Sl b h sz v R) (i:Nat) (k:BJ) (hi:i≠Ap v):Sl b (h.put i k) sz v R:=s.same (Nat.le_refl _) (λ_=>by rw [Ae,Af (Ne.symm hi)])
theorem Sl.back {b:Nat} {h:AH} {sz l:Nat} {v:V} {R:List (List V)} (s:Sl b h sz v R):Sl b (h.back l) sz v R:=s
theorem Sl.raise {b:Nat} {h:AH} {sz:Nat} {v:V} {R:List (List V)} (s:Sl b h sz v R):Sl b h.raise sz v R:=s
structure SlF {α:Type} [Inhabited α] (enc:α->List V) (b:Nat) (h:AH) (sz:Nat) (v:V) (L:List α):Prop where
 len:O8 v=some (.i .i64 (L.length:Int))
 big:L.length<4294967296
 lt:0<L.length->Ap v<h.next
 lo:0<L.length->b<=Ap v
 get:0<L.length->h.get (Ap v)=some ⟨sz,AP h v⟩
 at_:∀ (k:IntKind) (j:Int) (cs:List (List V)),0<=j->j<L.length->NM (some ⟨sz,cs⟩) sz v (.i k j)=some (.p (Ap v) (Ca v+j.toNat) 0)
 row:∀ (j:Nat),j<L.length->(AP h v)[Ca v+j]?=some (enc (nth L j))
 cell:v.isCell=true
 cells:v.cells=[v]
theorem Sl.facts {α:Type} [Inhabited α] {enc:α->List V} {b:Nat} {h:AH} {sz:Nat} {v:V} {L:List α} (s:Sl b h sz v (L.map enc)):SlF enc b h sz v L:=by
 rcases s with ⟨hv,hR⟩ | ⟨id,el,cap,cs,rfl,a,c,d,f,hlt,hb,hl⟩
 .have hL:L=[]:=by simpa using hR
  subst hL;rcases hv with rfl | rfl
  .exact ⟨rfl,by simp,by simp,by simp,by simp,λ_ j _ h0 h1=>by simp at h1;omega,by simp,rfl,rfl⟩
  .exact ⟨rfl,by simp,by simp,by simp,by simp,λ_ j _ h0 h1=>by simp at h1;omega,by simp,rfl,rfl⟩
 .simp only [List.length_map] at *;refine ⟨by simp [O8],hl,λ_=>hlt,λ_=>hb,λ_=>by simp [AP,Ap,a],λk j cs h0 h1=>by simp [NM,BW,h0,h1,Ap,Ca],λj hj=>?_,rfl,rfl⟩;simp only [AP,Ap,a,Ca];have:((cs.drop el).take L.length)[j]?=(L.map enc)[j]?:=by rw [d]
  rw [List.getElem?_take_of_lt hj,List.getElem?_drop] at this;rw [this,List.getElem?_map,Dq hj];rfl
theorem GU.len {α:Type} {enc:α->List V} {s:Nat} {L:List α} (r:GU (.fl s (L.map enc))):L.length<4000000000:=by simpa using r.big
theorem Sl.froze {α:Type} {enc:α->List V} {b:Nat} {h:AH} {sz:Nat} {v:V} {L:List α} {P:Nat->Prop} {n:Nat} (s:Sl b h sz v (L.map enc)) (he:∀ a,(enc a).all PV=true) (hP:P (Ap v)) (hL:L.length<4000000000):CY P h n v (.fl sz (L.map enc)):=by
 rcases s with ⟨hv,hR⟩ | ⟨id,el,cap,cs,rfl,a,c,d,f,hlt,hb,hl⟩
 .rw [hR];rcases hv with rfl | rfl
  .exact .ns _ _
  .exact .e0 _ _
 .refine .sl _ id el _ cap sz cs _ hP a om f (by simpa [Hc] using hL) ?_;rw [d];exact Dc.of_map he L
theorem Sl.froze' {b:Nat} {h:AH} {sz:Nat} {v:V} {R:List (List V)} {P:Nat->Prop} {n:Nat} (s:Sl b h sz v R) (hr:Dc P h 0 R R) (hP:P (Ap v)) (hL:R.length<4000000000):CY P h n v (.fl sz R):=by
 rcases s with ⟨hv,rfl⟩ | ⟨id,el,cap,cs,rfl,a,c,d,f,hlt,hb,hl⟩
 .rcases hv with rfl | rfl
  .exact .ns _ _
  .exact .e0 _ _
 .refine .sl _ id el _ cap sz cs _ hP a om f (by simpa [Hc] using hL) ?_;rw [d];exact hr
def AA:V->Bool | .ns | .e0=>true | _=>false
structure Grown (b:Nat) (h:AH) (x v:V) (h':AH):Prop where
 next:h.next<=h'.next
 lim:h'.lim=h.lim
 low:∀ i,i<b->h'.get i=h.get i
 get:∀ i,i<h.next->(AA x=true\/i≠Ap x)->h'.get i=h.get i
 own:AA v=true\/(AA x=false/\Ap v=Ap x)\/h.next<=Ap v
 cell:v.isCell=true
 cells:v.cells=[v]
theorem Pl:∀ (r:List (List V)) (i:Nat) (n:List (List V)),i+n.length<=r.length->EL r i n=r.take i++n++r.drop (i+n.length)
 | r,i,[],_=>by simp [EL]
 | r,i,c::cs,h=>by
  simp only [List.length_cons] at h;rw [EL,Pl (r.set i c) (i+1) cs (by simp;omega)];have hi:i<r.length:=by omega
  rw [List.drop_set_of_lt om];have ht:(r.set i c).take (i+1)=r.take i++[c]:=by
   rw [List.take_add_one];simp [hi,List.take_set_of_le]
  rw [ht];simp only [List.append_assoc,List.singleton_append,List.length_cons]
  congr 3;omega
theorem Av {b sz : Nat} {h : AH} {x : V} {R N : List (List V)} {K : V × AH -> Prop} (sx : Sl b h sz x R) (hl : h.lim <= b) (hb : b <= h.next) (hlen : R.length + N.length < 4294967296)
    (k:∀ v h',Sl b h' sz v (R++N)->Grown b h x v h'->K (v,h')):Wo (J0 sz h x N) K:=by
 rcases sx with ⟨hx,rfl⟩ | ⟨id,el,cap,cs,rfl,hg,hle,hrow,hcap,hlt,hbi,hbig⟩
 .have one:∀ nn:V,(nn=.ns\/nn=.e0)->Wo (if N=[] then some (nn,h) else if N.length<Bc then some (.sl h.next 0 N.length N.length,h.alloc ⟨sz,N⟩) else none) (λz=>(nn=.ns\/nn=.e0)->x=nn->K z):=by
   intro nn hnn;split
   .rename_i hN;subst hN;exact ⟨_,rfl,λh1 h2=>by subst h2;exact k _ _ (.inl ⟨h1,rfl⟩) ⟨Nat.le_refl _,rfl,λ_ _=>rfl,λ_ _ _=>rfl,.inl (by rcases h1 with rfl | rfl<;>rfl),by rcases h1 with rfl | rfl<;>rfl,by rcases h1 with rfl | rfl<;>rfl⟩⟩
   .rename_i hN;rw [if_pos (by simp only [Bc];simpa using hlen)];refine ⟨_,rfl,λh1 h2=>k _ _ (.inr ⟨h.next,0,N.length,N, ?_, ?_, ?_, ?_, ?_, ?_,hb, ?_⟩) ⟨?_,rfl, ?_, ?_,.inr (.inr (Nat.le_refl _)),rfl,rfl⟩⟩
    .simp
    .simp [AH.alloc]
    .simp
    .simp
    .simp
    .simp [AH.alloc]
    .simpa using hlen
    .simp [AH.alloc]
    .intro i hi;rw [AD,Af om]
    .intro i hi _;rw [AD,Af om]
  rcases hx with rfl | rfl
  .obtain ⟨z,hz,q⟩:=one .ns (.inl rfl);exact ⟨z,hz,q (.inl rfl) rfl⟩
  .obtain ⟨z,hz,q⟩:=one .e0 (.inr rfl);exact ⟨z,hz,q (.inr rfl) rfl⟩
 .unfold J0;simp only [hg];rw [if_pos ⟨trivial,om,om,by simp only [Bc];exact hlen⟩]
  by_cases hc:R.length+N.length<=cap
  .rw [if_pos hc,if_pos om];have hov:=Pl cs (el+R.length) N om;refine ⟨_,rfl,k _ _ (.inr ⟨id,el,cap,EL cs (el+R.length) N, ?_, ?_, ?_, ?_, ?_,hlt,hbi, ?_⟩) ⟨Nat.le_refl _,rfl, ?_, ?_,.inr (.inl ⟨rfl,rfl⟩),rfl,rfl⟩⟩
   .simp
   .rw [Ae,Ar rfl]
   .rw [hov];simp;omega
   .rw [hov];have e1:(cs.take (el+R.length)).drop el=R:=by rw [List.drop_take,Nat.add_sub_cancel_left];exact hrow
    simp only [List.append_assoc];rw [List.drop_append_of_le_length (by simp;omega),e1,<-List.append_assoc,List.length_append,<-List.length_append,List.take_left]
   .simpa using hc
   .simpa using hlen
   .intro i hi;rw [Ae,Af om]
   .intro i hi hne;rw [Ae,Af (by rcases hne with hne | hne;cases hne;exact hne)]
  .rw [if_neg hc];refine ⟨_,rfl,k _ _ (.inr ⟨h.next,0,R.length+N.length,(cs.drop el).take R.length++N, ?_, ?_, ?_, ?_, ?_, ?_,hb, ?_⟩) ⟨?_,rfl, ?_, ?_,.inr (.inr (Nat.le_refl _)),rfl,rfl⟩⟩
   .simp
   .rw [AD,Es,Ar rfl]
   .rw [hrow];simp
   .rw [hrow,List.drop_zero,List.take_length]
   .simp
   .simp [AH.alloc,AH.kill]
   .simpa using hlen
   .simp [AH.alloc,AH.kill]
   .intro i hi;rw [AD,Es,Af om,B6,Af om]
   .intro i hi hne;rw [AD,Es,Af om,B6,Af (by rcases hne with hne | hne;cases hne;exact hne)]
theorem Sl.rows {b:Nat} {h:AH} {sz:Nat} {v:V} {R:List (List V)} (s:Sl b h sz v R):Gd sz h v=some R:=by
 rcases s with ⟨hv,rfl⟩ | ⟨id,el,cap,k,rfl,hg,hc,hrow,hcap,_⟩
 .rcases hv with rfl | rfl<;>rfl
 .rw [PE,hg,dD om,hrow]
theorem Sl.of_get {b sz:Nat} {h h':AH} {v:V} {R:List (List V)} {j:Nat} {r:List V} (s:Sl b h sz v R) (hj:j<R.length) (hn:h.next<=h'.next) (hg:h'.get (Ap v)=some ⟨sz,(AP h v).set (Ca v+j) r⟩):Sl b h' sz v (R.set j r):=by
 rcases s with ⟨hv,rfl⟩ | ⟨id,el,cap,cs,rfl,hg0,hc,hrow,hcap,hlt',hbi,hbig⟩
 .simp at hj
 .refine .inr ⟨id,el,cap,cs.set (el+j) r,by simp, ?_,by simpa using hc, ?_,by simpa using hcap,Nat.lt_of_lt_of_le hlt' hn,hbi,by simpa using hbig⟩
  .simpa [Ap,Ca,AP,hg0] using hg
  .simp only [List.length_set];rw [List.drop_set,if_neg om,Nat.add_sub_cancel_left,List.take_set,hrow]
theorem Sl.setT {α:Type} {enc:α->List V} {b sz:Nat} {h h':AH} {v:V} {L:List α} {j:Nat} {x:α} (s:Sl b h sz v (L.map enc)) (hj:j<L.length) (hn:h.next<=h'.next) (hg:h'.get (Ap v)=some ⟨sz,(AP h v).set (Ca v+j) (enc x)⟩):Sl b h' sz v ((L.set j x).map enc):=by
 have:=Sl.of_get (r:=enc x) s (j:=j) (by simpa using hj) hn hg;simpa [List.map_set] using this
theorem Sl.rowlt {b sz:Nat} {h:AH} {v:V} {R:List (List V)} {j:Nat} (s:Sl b h sz v R) (hj:j<R.length):Ca v+j<(AP h v).length:=by
 rcases s with ⟨hv,rfl⟩ | ⟨id,el,cap,cs,rfl,hg,hc,hrow,hcap,hlt',_⟩
 .simp at hj
 .simp only [Ca,AP,Ap,hg];omega
theorem NA {α:Type} {l:List α} {i:Nat} {a:α} (h:i<l.length):(l.set i a)[i]?=some a:=by simp [h]
def CF (v:V) (n:Nat):V:=match v with | .sl id el _ cap=>.sl id el n cap | v=>v
theorem ID {v:V} {n:Nat}:Ap (CF v n)=Ap v:=by cases v<;>rfl
theorem VN {v:V} {n:Nat}:Ca (CF v n)=Ca v:=by cases v<;>rfl
theorem NN {v:V} {n:Nat}:(CF v n).isCell=v.isCell:=by cases v<;>rfl
theorem F5 {v:V} {n:Nat} (h:v.cells=[v]):(CF v n).cells=[CF v n]:=by cases v<;>first | rfl | (simp [CF];exact h)
theorem RO {h:AH} {v:V} {n:Nat}:AP h (CF v n)=AP h v:=by cases v<;>rfl
theorem Sl.pre {b:Nat} {h:AH} {sz:Nat} {v:V} {R:List (List V)} (s:Sl b h sz v R) {k:IntKind} {j:Int} {cs:List (List V)} (h0:0<=j) (h1:j<=R.length):GT (some ⟨sz,cs⟩) sz v none (some (.i k j)) none=some (CF v j.toNat):=by
 rcases s with ⟨hv,rfl⟩ | ⟨id,el,cap,b,rfl,a,_,_,hc,_⟩
 .simp at h1;obtain rfl:j=0:=by omega
  rcases hv with rfl | rfl<;>simp [GT,AO,CF]
 .have h2:j<=cap:=by omega
  simp [GT,AO,CF,h0,h2,hc]
theorem Sl.truncd {b:Nat} {h:AH} {sz:Nat} {v:V} {R:List (List V)} (s:Sl b h sz v R) {n:Nat} (hn:n<=R.length):Sl b h sz (CF v n) (R.take n):=by
 rcases s with ⟨hv,rfl⟩ | ⟨id,el,cap,b,rfl,a,c,d,hc,hlt,hbi,hb⟩
 .exact .inl ⟨by rcases hv with rfl | rfl<;>simp [CF],by simp⟩
 .refine .inr ⟨id,el,cap,b, ?_,a,c, ?_, ?_,hlt,hbi, ?_⟩
  .simp [CF];omega
  .have:(R.take n).length=n:=by simp;omega
   rw [this];conv=>rhs;rw [<- d]
   rw [List.take_take];congr 1;omega
  .simp;omega
  .simp;omega
theorem Iw {b sz : Nat} {h : AH} {v : V} {R : List (List V)} {k1 k2 : IntKind} {K : V -> Prop} (s : Sl b h sz v R)
    (k:∀ v',Sl b h sz v' R->Ap v'=Ap v->K v'):Wo (GT (h.get (Ap v)) sz v none (some (.i k1 R.length)) (some (.i k2 R.length))) K:=by
 rcases s with ⟨hv,rfl⟩ | ⟨id,el,cap,cs,rfl,hg,hc,hrow,hcap,hlt',hbi,hbig⟩
 .rcases hv with rfl | rfl
  .exact ⟨_,rfl,k _ (.inl ⟨.inl rfl,rfl⟩) rfl⟩
  .exact ⟨_,rfl,k _ (.inl ⟨.inr rfl,rfl⟩) rfl⟩
 .simp only [GT,Ap,hg,Option.bind_some,Option.isSome_some,Bool.or_true];rw [if_pos ⟨trivial,trivial,hcap⟩];rw [YD om om];simp only [Option.bind_some,Int.toNat_natCast];rw [YD om om];simp only [Option.bind_some,Int.toNat_natCast,OH,Option.map_some];refine ⟨_,rfl,k _ (.inr ⟨id,el,R.length,cs, ?_,hg,om,hrow,Nat.le_refl _,hlt',hbi,hbig⟩) rfl⟩;simp
theorem N0 {h:AH} {i:Nat} {a b:BJ}:(h.put i a).put i b=h.put i b:=by
 unfold AH.put
 congr 1
 funext j
 simp only;split<;>rfl
theorem Y3:AH.emp.next=0:=Aq rfl
theorem JH:AH.emp.lim=0:=Aq rfl
theorem qB {i:Nat}:AH.emp.get i=none:=Aq rfl
theorem Y4 {l:List V} {j:Nat}:Fb l j=(l[j]?).getD .u:=by simp [Fb]
theorem cH {r:List V} {i:Nat}:over r i []=r:=Aq rfl
theorem Wp {r:List V} {i:Nat} {c:V} {cs:List V}:over r i (c::cs)=over (r.set i c) (i+1) cs:=Aq rfl
theorem VS {r:List V}:Fl r []=some r:=Aq rfl
theorem RY {r:List V} {off n:Nat} {v:V} {ps:List (Nat×Nat×V)}:Fl r ((off,n,v)::ps)=if v.cells.length=n/\off+n<=r.length/\v.cells.all V.isCell=true then Fl (over r off v.cells) ps else none:=Aq rfl
theorem VQ {sz:Nat} {r:List (List V)}:Cw sz r []=some r:=Aq rfl
theorem RX {sz j:Nat} {r:List (List V)} {v:V} {ps:List (Nat×V)}:Cw sz r ((j,v)::ps)=if v.cells.length=sz/\j<r.length/\v.cells.all V.isCell=true then Cw sz (r.set j v.cells) ps else none:=Aq rfl
theorem AL {tp:TP} {f:Nat} {args:List V} {R:V} {tf:TF} (hf:tp.fn f=some tf) (hl:args.length<=tf.n) (z:F1 args->ZC tp tf.body (Fb args) AH.emp (λx e h=>G1 tf.res x e h (λr h'=>CY (λ_=>True) h' 0 r R))):Pf tp f args R:=aOD hf hl z
theorem bIr {tp:TP} {f:Nat} {args:List V} {h:AH} {K:V->AH->Prop} {tf:TF} (hf:tp.fn f=some tf) (hl:args.length<=tf.n) (z:Wf h->F1 args->ZC tp tf.body (Fb args) h (λx e h2=>G1 tf.res x e h2 (λr h3=>∃ P R H,C1 h h3 r P R H/\K R H))):Cq tp f args h K:=zU hf hl z
theorem Aa {tp:TP} {f:Nat} {args:List V} {h:AH} {K:V->AH->Prop} {tf:TF} (hf:tp.fn f=some tf) (hl:args.length<=tf.n) (z:Wf h->F1 args->ZC tp tf.body (Fb args) h (λx e h2=>G1 tf.res x e h2 K)):Cq tp f args h K:=aAF hf hl z
structure FX (h:AH) (id:Nat) (k:BJ) (h':AH):Prop where
 next:h.next<=h'.next
 lim:h'.lim=h.lim
 here:h'.get id=some k
 get:∀ i,i<h.next->i≠id->h'.get i=h.get i
theorem C1.ext {h h3:AH} {r R:V} (wf:Wf h) (x:Ak h h3) (fr:CY (h.next<=·) h3 h.next r R):C1 h h3 r (h.next<=·) R h:=
 ⟨Nat.le_refl _,rfl,x.next,λi k hk=>⟨(wf.2 i k hk).1,Nat.not_le_of_lt (wf.2 i k hk).1,k.cs,by rw [x.get i (wf.2 i k hk).1];exact hk,(wf.2 i k hk).2 _ _⟩,fr⟩
theorem C1.upd {h h3:AH} {r R:V} {id:Nat} {b:BJ} (wf:Wf h) (u:FX h id b h3) (hid:id<h.next) (fb:Dc (h.next<=·) h3 h.next b.cs b.cs) (fr:CY (h.next<=·) h3 h.next r R):C1 h h3 r (h.next<=·) R (h.put id b):=by
 refine ⟨Nat.le_refl _,rfl,u.next,λi k hk=>?_,fr⟩
 by_cases e:i=id
 .subst e;have:k=b:=by simpa [AH.put] using hk.symm
  subst this;exact ⟨hid,Nat.not_le_of_lt hid,k.cs,u.here,fb⟩
 .have hk2:h.get i=some k:=by simpa [AH.put,e] using hk
  exact ⟨(wf.2 i k hk2).1,Nat.not_le_of_lt (wf.2 i k hk2).1,k.cs,by rw [u.get i (wf.2 i k hk2).1 e];exact hk2,(wf.2 i k hk2).2 _ _⟩
theorem T0 {e:Env} {h h2:AH} (P:Nat->Prop) (live:List Nat) (w:Nat->V) (z:Wf h->h2.next=h.next/\h2.lim=h.lim/\(∀ i k,h2.get i=some k->i<h2.next/\¬ P i/\∃ cs,h.get i=some ⟨k.sz,cs⟩/\Dc P h h2.next cs k.cs)/\∀ t,t∈live->CY P h h2.next (e t) (w t)):Stp e h (λt=>if t∈live then w t else .u) h2:=by
 intro S m hc e1 c p;obtain ⟨hn,hl,hb,hv⟩:=z c.wf;have st:∀ r R,CY P h h2.next r R->C1 h h r P R h2:=λr R f=>⟨Nat.le_of_eq hn.symm,hl,Nat.le_of_eq hn,hb,f⟩
 obtain ⟨q1,q2,_⟩:=(st .u .u (.z _ _ .u)).ok c c (E6.refl c) (.u _ .u);refine ⟨_,q1,q2,λt=>?_⟩
 by_cases ht:t∈live
 .simp only [if_pos ht];exact ((st _ _ (hv t ht)).ok c c (E6.refl c) (p t)).2.2
 .simp only [if_neg ht];exact .u _ _
theorem aLD {tp : TP} {c : TC} {K : Ex -> Env -> AH -> Prop} {e : Env} {h : AH} (live : List Nat) (bx id sz : Nat) (row row' : List V) (hne : bx ≠ id) (hbx : h.get bx = some ⟨sz, [row]⟩) (hr : Dc (· = id) h h.next [row] [row'])
    (hv:∀ t,t∈live->CY (·=id) h h.next (e t) (e t)) (z:∀ e2,(∀ t,t∈live->e2 t=e t)->ZC tp (.loop c) e2 ((h.kill id).put bx ⟨sz,[row']⟩) K):ZC tp (.loop c) e h K:=by
 refine T6 (T0 (h2:=(h.kill id).put bx ⟨sz,[row']⟩) (·=id) live e (λwf=>⟨rfl,rfl,λi k hk=>?_,hv⟩)) (z _ (λt ht=>if_pos ht));rw [Ae] at hk
 by_cases hi:i=bx
 .rw [Ar hi] at hk;subst hi;cases hk;exact ⟨(wf.2 _ _ hbx).1,hne,_,hbx,hr⟩
 .rw [Af hi,B6] at hk
  by_cases hd:i=id
  .rw [Ar hd] at hk;cases hk
  .rw [Af hd] at hk;exact ⟨(wf.2 i k hk).1,hd,k.cs,hk,(wf.2 i k hk).2 _ _⟩
theorem JD {tp:TP} {f:Nat} {args:List V} {h:AH} {K:V->AH->Prop} {R:V} {tf:TF} (hf:tp.fn f=some tf) (hl:args.length<=tf.n) (k:K R h) (z:h.lim<=h.next->F1 args->ZC tp tf.body (Fb args) h (λx e h2=>G1 tf.res x e h2 (λr h3=>CY (h.next<=·) h3 h.next r R/\Ak h h3))):Cq tp f args h K:=
 zU hf hl λwf rp=>ET (λx e h2 q=>by
  cases x with
  | ex _=>exact q
  | nm=>obtain ⟨v,hv,fr,x⟩:=q;exact ⟨v,hv,_,_,_,C1.ext wf x fr,k⟩
  | rt=>obtain ⟨v,hv,fr,x⟩:=q;exact ⟨v,hv,_,_,_,C1.ext wf x fr,k⟩) (z wf.1 rp)
attribute [go_sem ↓] nW aLG nV aLF nU nT OA Ye Yf Yg aLH aLR aLQ Yw aLO aLP bAJ mR X6 mT aYt aYs aYr aYq NW aNG aNF BN Bs
attribute [go_sem] aLZ aL0 aLY A2 AV HB
attribute [go_sem ↓] aYA nO JV Rv X7 Rx Nc nC Rt nB aYx Nd Yb aLq nJ Yc aLA aLp aLr Ya nE X9 X8 nF mW mX mV mY aYC nD nR aLv Ry Ru nM nK nN nA JX Vh aLt aLu aLw nG aLx nP aLs aLo aLz nQ nI aYz aYB aLB aYy
attribute [go_sem] T5 aLy
attribute [go_sem ↓] Vi nY nZ oA oB oC Yi nX Vj Yj Yk aLI aLJ oD oE oF Vk oG oH Yl oI oJ oK Ym Yn Yo Yp Yq Yr Yh aLK aLL aLM oL Ys oM Yt Yu Vl RA Vm Yv oN aLN
attribute [go_sem ↓] Env.set_get
attribute [go_sem] Env.set_none bAO aYI aYH aYJ aYM aYN aYK aYL aL8 aAs cL cK cM Wx Wy Wu Ww
attribute [go_sem] Ar Af AD Ae B6 VV Zr Ac Ah Es KF Wl Bi El bN MF bM Y3 JH qB
attribute [go_sem ↓] IU Hj
attribute [go_sem] mS aLl Oc Mj PJ Ob
attribute [go_sem] aYD aYE aY4 aNx bJ aL2 To sameVa_sl dU WL dS dT dR vF dQ vD vE bQ bO aYw mZ aNB tW bV aNz aNA VK pU vQ aNq dI dJ dG vA PE Tj oV oW oX aYu aYv vN eE aN3 aMd qF Zf tA tB tD aV aW vI Zb tN tL tO tM vO WP Mu Wh aNt aL9 aYY
attribute [go_sem] oZ pK pG pI pJ pA aLX pB pH pF pE pD pC YB YC aOh aOg aY7 aY5 Zp VU bAV bAK bAX aYZ OH YD Vu pR pP pT YO YN pS YM YI YJ YH YK YL pQ Vv bB aZ bD V7 V6 bC V5 V1 V2 V0 V3 V4 bA SV w64 HJ oO oP uW uX uY WH pO cZ WF WG
attribute [go_sem] bAQ aMb qC Y6 aYP aYO aYQ
attribute [go_sem] List.length_cons List.length_nil List.getElem?_cons_zero List.getElem?_cons_succ List.getElem?_nil List.drop_zero List.drop_succ_cons List.drop_nil List.take_succ_cons List.take_zero List.take_nil List.map_cons List.map_nil List.all_cons List.all_nil List.set_cons_zero List.set_cons_succ List.cons_append List.nil_append List.append_nil List.length_map uA
attribute [go_sem] aOz aOy aOA aAH aAJ aAG aAI jG jF W9 Vc Int.reduceLE Int.reduceLT Int.reduceEq Int.reduceAdd Int.reduceSub Int.reduceToNat
attribute [go_sem] Nat.zero_add Nat.add_zero and_true true_and decide_true decide_false not_true_eq_false not_false_eq_true Bool.not_true Bool.not_false Bool.and_true Bool.true_and Bool.and_false Bool.false_and Int.toNat_natCast Option.map_some Option.map_none Option.bind_some Nat.zero_le Nat.le_refl List.take_length Nat.sub_zero Nat.sub_self
attribute [go_sem ↓] reduceIte
attribute [go_sem] Nat.reduceEqDiff Nat.reduceAdd Nat.reduceSub Nat.reduceLeDiff Nat.reduceLT List.reduceReplicate Nat.reduceMul Int.reduceNeg reduceCtorEq
attribute [go_sem] Y4 Option.getD_some Option.getD_none cH Wp VS RY VQ RX
theorem Md {α:Type} {l:List α} {i j:Nat} {a:α} (h:¬ i=j):(l.set i a)[j]?=l[j]?:=List.getElem?_set_ne h
attribute [go_sem] NA Md List.set_set List.length_set
attribute [go_sem] N0 RO ID VN NN
attribute [go_sem] Int.natCast_add Int.natCast_one Int.natCast_zero Int.add_sub_cancel Int.sub_add_cancel Nat.add_sub_cancel
attribute [go_sem] aZb aZd aZe aNW aN0 aNV aNZ aNY aNX aZf uR uT aZc uS cT WD
abbrev On (o:O):TO:=⟨none,o,none⟩
abbrev Of (d f s:Nat):TO:=⟨some d,.fad f (.t s),none⟩
end Go.Ab
