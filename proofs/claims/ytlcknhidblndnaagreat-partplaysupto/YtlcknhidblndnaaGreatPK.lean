/- Part of a proof that a law returns true for every input of the second form's bound (no other condition). -/
import Derived.JoinedCond
import Derived.ChangeArms
import Derived.WalkKit
import Derived.ProofKit
import Derived.OpenShut
import Derived.ShutString
import Derived.ChangeOld
import Derived.SizedLaws
import Derived.Test.YtlcknhidblndnaaGreatPJ
import Derived.Test.YtlcknhidblndnaaGreatPC
import Derived.Test.YtlcknhidblndnaaGreatPD
import Derived.Test.YtlcknhidblndnaaGreatPH
set_option linter.all false
namespace Go.Ab.T
open Go Go.Ab
set_option maxHeartbeats 4000000
def ZCS (tp:TP) (c:TC) (e:Env) (h:AH) (K:Ex->Env->AH->Prop):Prop:=∀ S m hc e1,CG S m h hc->EP S m h hc e e1->WC tp c e1 hc (λx=>CE S m h hc (K x))
section
variable {tp:TP} {c a b:TC} {e e2:Env} {h h2:AH} {K:Ex->Env->AH->Prop}
theorem aLC (z:ZC tp c e h K):ZCS tp c e h K:=λS m hc e1 c' p=>Gs c c' p z
theorem HC (z:ZC tp a e h (λx e h=>S4 x (ZCS tp b e h K) (K x e h))):ZCS tp (.seq a b) e h K:=λS m hc e1 c' p=>by
 rw [Rr];refine (Gs a c' p z).imp ?_;rintro x e1' hc' ⟨e',h',S',m',c2,a',p',z⟩
 cases x with
 | nm=>exact (z S' m' hc' e1' c2 p').imp λ_ _ _=>CE.then a'
 | ex j=>exact ⟨e',h',S',m',c2,a',p',z⟩
 | rt=>exact ⟨e',h',S',m',c2,a',p',z⟩
end
theorem aAL {tp:TP} {f:Nat} {args:List V} {R:V} {tf:TF} (hf:tp.fn f=some tf) (hl:args.length<=tf.n) (z:F1 args->ZCS tp tf.body (Fb args) AH.emp (λx e h=>G1 tf.res x e h (λr h'=>CY (λ_=>True) h' 0 r R))):Pf tp f args R:=by
 intro S m hc args1 c p;refine TJ hf (by rw [<- p.len];exact hl) ((z p.reps S m hc _ c (EP.args p)).imp ?_);rintro x e1 hc' ⟨e,h',S',m',c',a',pe,z⟩;unfold G1 at z;unfold Vg;have key:(Wo (BI e h' tf.res) λv=>CY (λ_=>True) h' 0 v R)->Wo (BI e1 hc' tf.res) (λr1=>∃ r h'' S' m',CG S' m' h'' hc'/\E6 S m AH.emp hc S' m' h'' hc'/\Go.Ab.PR S' m' hc'.get h''.next r r1/\r=R/\h''=AH.emp):=by
  rintro ⟨v,hv,fz⟩;obtain ⟨v1,h1,h2⟩:=N7 c' pe hv;refine ⟨v1,h1,R,AH.emp,SP S' m' h' (λ_=>True),m',CG.emp (SP.low c') c'.bnd m',⟨λa h=>.inl (a'.sub a h), ?_,a'.map,Nat.le_refl _,a'.next1,rfl,a'.lim1,a'.frame,λi hi=>by simp [AH.live,AH.emp] at hi⟩,CY.ok c' fz h2,rfl,rfl⟩;rintro a (ha | ⟨i,_,hi,rfl⟩)
  .exact a'.new a ha
  .rcases a'.liv i hi with ⟨q1,q2⟩ | q1
   .exact absurd q1 (Nat.not_lt_zero _)
   .exact .inr (.inl q1)
 cases x with
 | ex j=>exact z.elim
 | nm=>exact key z
 | rt=>exact key z
theorem TA {e:Env} {t:Nat} {x y:Bool} (h:e t=.b y) (hy:(y==x)=true):AK e (some (t,x))=some true:=by simp only [AK,h,hy]
section
variable {tp:TP} {S S':Nat->Prop} {m m':Nat->Nat} {h hc h' hc':AH}
theorem BM {id i:Nat} (hi:(h.kill id).live i):i≠id/\h.live i:=by
 by_cases e:i=id
 .subst e;simp [AH.live,AH.kill] at hi
 .exact ⟨e,by simpa [AH.live,AH.kill,e] using hi⟩
theorem Uj (c:CG S m h hc) (id:Nat):CG S m (h.kill id) hc:=
 ⟨λi b hb=>c.blk i b (by
  by_cases e:i=id
  .subst e;simp [AH.kill] at hb
  .simpa [AH.kill,e] using hb),λi j hi hj=>c.inj i j (BM hi).2 (BM hj).2,λi hi=>c.off i (BM hi).2,c.low,λi hi=>c.lim i (BM hi).2,c.bnd,c.bnd2⟩
theorem aOi {id:Nat} {k:BJ} (c:CG S m h hc) (hk:h.get id=some k) (c':CG S' m' h' hc') (a:E6 S m (h.kill id) hc S' m' h' hc'):CG S' m' (h'.put id k) hc'/\E6 S m h hc S' m' (h'.put id k) hc'/\hc'.get (m id)=hc.get (m id)/\m' id=m id:=by
 obtain ⟨l1,l2,cs,l3,l4⟩:=c.blk id k hk;have hlv:h.live id:=by unfold AH.live;rw [hk];simp
 have hm:m' id=m id:=a.map id l1;have hg:hc'.get (m id)=hc.get (m id):=a.frame _ l2 λi hi he=>(BM hi).1 (c.inj _ _ (BM hi).2 hlv he);have mon:=a.mon (Uj c id);have old:∀ i,(h'.put id k).live i->i≠id->h'.live i:=λi hi e=>by simpa [AH.live,AH.put,e] using hi
 have far:∀ i,h'.live i->m' i≠m id:=λi hi he=>by
  rcases a.liv i hi with ⟨q1,q2⟩ | q
  .have q3:=BM q2;rw [a.map i q1] at he;exact q3.1 (c.inj _ _ q3.2 hlv he)
  .omega
 have n1:=a.next1;have n2:h.next<=h'.next:=a.next2;refine ⟨⟨λi b hb=>?_,λi j hi hj he=>?_,λi hi hs=>?_,c'.low,λi hi hl=>?_,c'.bnd,c'.bnd2⟩,⟨a.sub,λx hx=>?_,a.map,a.next2,a.next1,a.lim2,a.lim1,λx hx hn=>a.frame x hx λi hi=>hn i (BM hi).2,λi hi=>?_⟩,hg,hm⟩
 .by_cases e:i=id
  .subst e;have:k=b:=by simpa [AH.put] using hb
   subst this;exact ⟨Nat.lt_of_lt_of_le l1 n2,by rw [hm];omega,cs,by rw [hm,hg];exact l3,l4.mono mon⟩
  .exact c'.blk i b (by simpa [AH.put,e] using hb)
 .by_cases e1:i=id
  .by_cases e2:j=id
   .rw [e1,e2]
   .subst e1;rw [hm] at he;exact absurd he.symm (far j (old j hj e2))
  .by_cases e2:j=id
   .subst e2;rw [hm] at he;exact absurd he (far i (old i hi e1))
   .exact c'.inj i j (old i hi e1) (old j hj e2) he
 .by_cases e:i=id
  .subst e;rw [hm] at hs;rcases a.new _ hs with q | q | ⟨j,q1,q2⟩
   .exact c.off _ hlv q
   .omega
   .exact (BM q1).1 (c.inj _ _ (BM q1).2 hlv q2)
  .exact c'.off i (old i hi e) hs
 .by_cases e:i=id
  .subst e;rw [hm,a.lim1];exact c.lim _ hlv (by have:=a.lim2;have e1:(h'.put i k).lim=h'.lim:=rfl;have e2:(h.kill i).lim=h.lim:=rfl;omega)
  .exact c'.lim i (old i hi e) hl
 .rcases a.new x hx with q | q | ⟨j,q1,q2⟩
  .exact .inl q
  .exact .inr (.inl q)
  .exact .inr (.inr ⟨j,(BM q1).2,q2⟩)
 .by_cases e:i=id
  .subst e;exact .inl ⟨l1,hlv⟩
  .rcases a.liv i (old i hi e) with ⟨q1,q2⟩ | q
   .exact .inl ⟨q1,(BM q2).2⟩
   .exact .inr q
def MU:V->Bool
 | .fl _ _ | .i _ _ | .b _ | .sl _ _ _ _ | .p _ _ _ | .ns | .np | .e0=>true
 | _=>false
def dV:V->Bool
 | .agg l=>l.all MU
 | v=>MU v
theorem vG {n:Nat} {v v':V} (hs:MU v=true) (p:Go.Ab.PR S m hc.get n v v'):sameV v' v'=true:=by
 cases p<;>simp_all [MU,sameV]
theorem PP {n:Nat}:∀ {l l':List V},l.all MU=true->Bz S m hc.get n l l'->Bx l' l'=true
 | [],_,_,p=>by cases p;rfl
 | v::l,_,hs,p=>by
  cases p;rename_i v' l' p q;simp only [List.all_cons,Bool.and_eq_true] at hs;simp only [Bx,vG hs.1 p,PP hs.2 q,Bool.and_self]
theorem dW {n:Nat} {v v':V} (hs:dV v=true) (p:Go.Ab.PR S m hc.get n v v'):BL v' v'=true:=by
 cases p
 case agg l l' q=>exact PP hs q
 all_goals (simp_all [dV,MU,BL,sameV])
theorem EN {C:A4} {t:Nat}:∀ {l:List TO} {e e':Env} {h h':AH},l.all (λo=>decide (o.d≠some t))=true->Bf tp C l e h=some (e',h')->e' t=e t
 | [],e,e',h,h',_,he=>by simp [Bf] at he;obtain ⟨rfl,rfl⟩:=he;rfl
 | o::r,e,e',h,h',hr,he=>by
  simp only [List.all_cons,Bool.and_eq_true,decide_eq_true_eq] at hr;obtain ⟨hd,hr2⟩:=hr;have st:∀ v,e.set o.d v t=e t:=λv=>by
   cases hq:o.d with
   | none=>rfl
   | some d=>rw [hq] at hd;simp only [Env.set];rw [if_neg (λx=>hd (by rw [x]))]
  simp only [Bf] at he;split at he
  .split at he
   .split at he
    .simp only [Option.bind_eq_some_iff] at he;obtain ⟨⟨v,h2⟩,h1,he⟩:=he;exact (EN hr2 he).trans (st _)
    .simp at he
   .simp only [Option.bind_eq_some_iff] at he;obtain ⟨⟨v,h2⟩,h1,he⟩:=he;exact (EN hr2 he).trans (st _)
  .exact (EN hr2 he).trans (st _)
  .simp at he
theorem M9:∀ {l r:List TO} {e:Env} {h:AH} {Q:Env->AH->Prop},WQ tp l e h (λe h=>WQ tp r e h Q)->WQ tp (l++r) e h Q
 | [],r,e,h,Q,w=>by rw [XZ] at w;exact w
 | o::l,r,e,h,Q,w=>by
  cases hw:AK e o.g with
  | none=>obtain ⟨k,e',h',he,_⟩:=w;simp [Bf,hw] at he
  | some b=>
   obtain ⟨d,o,g⟩:=o
   cases b with
   | true=>
    rw [List.cons_append,Na hw];rw [Na hw] at w;unfold WQ1 at w ⊢
    by_cases hp:AS o=true
    .rw [if_pos hp] at w ⊢;exact ⟨w.1,w.2.imp λ_ _=>M9⟩
    .rw [if_neg hp] at w ⊢;exact w.imp λ_ _=>M9
   | false=>
    rw [List.cons_append,Nb hw];rw [Nb hw] at w;exact M9 w
theorem nS {l1 : List TO} (N : Nat) {t n x : Nat} {ag : Bool} {g1 g2 g3 : Option (Nat × Bool)} {lb : List TO} {d : Nat} {o : O} {rest : List (Bool × List TO)} {e : Env} {K : Ex -> Env -> AH -> Prop}
    (hl:l1.drop N=⟨some t,.fload n ag (.t x),g1⟩::lb) (hr:lb.all (λo=>decide (o.d≠some t))=true) (hr2:lb.all (λo=>decide (o.d≠some x))=true) (hd:d≠t/\d≠x/\t≠x)
    (z:ZQ tp (l1.take N) e h (λe h=>∃ id k row v,e x=.p id 0 0/\h.get id=some k/\k.cs[0]?=some row/\HJ row 0 n ag=some v/\dV v=true/\AK e g1=some true /\
     ZQ tp lb (e.set (some t) v) (h.kill id) (λe2 h2=>AK e2 g2=some true/\Z1 tp o e2 h2 (λr h3=>AK (e2.set (some d) r) g3=some true/\ZS tp rest (e2.set (some d) r) (h3.put id k) (λe h=>K .nm e h))))):
    ZCS tp (.dreg ((true,l1)::(false,[⟨some d,o,g2⟩,⟨none,.chk n ag (.t x) (.t t),g3⟩])::rest)) e h K:=by
 intro S m hc e1 c p;rw [T4,Ox];have hs:l1=l1.take N++⟨some t,.fload n ag (.t x),g1⟩::lb:=by rw [<- hl,List.take_append_drop]
 rw [hs];refine M9 ((M5 _ c p z).imp ?_);rintro e1 hc1 ⟨e,h1,S1,m1,c1,a1,p1,id,k,row,v,hx,hk,hrow,hcut,hv,hw1,z⟩;have main:WQ tp (⟨some t,.fload n ag (.t x),g1⟩::lb) e1 hc1 (λe' h'=>WS tp ((false,[⟨some d,o,g2⟩,⟨none,.chk n ag (.t x) (.t t),g3⟩])::rest) e' h' (CE S1 m1 h1 hc1 (λe h=>K .nm e h))):=by
  rw [Na (FS p1 hw1)];unfold WQ1;rw [if_pos (show AS (O.fload n ag (X.t x))=true from rfl),T3 (λC=>rfl)];refine ⟨rfl, ?_⟩;obtain ⟨v1,hv1,pv⟩:=HS c1 hk hrow hcut;have px:=p1 x;rw [hx] at px;have hx1:e1 x=.p (m1 id) 0 0:=by cases hq:e1 x<;>rw [hq] at px<;>cases px;rfl
  simp only [Ag,X.ev,hx1];have hv2:(hc1.get (m1 id)).bind (λk=>(k.cs[0]?).bind λr=>(HJ r 0 n ag).map λv=>(v,hc1))=some (v1,hc1):=by
   simp only [Option.bind_eq_some_iff] at hv1;obtain ⟨b,hb,r,hr,hcut⟩:=hv1;simp only [hb,Option.bind_some,hr,hcut,Option.map_some]
  rw [hv2,AV];obtain ⟨kk,e2,hc2,hev,e',h',S2,m2,c2,a2,p2,hw2,zc⟩:=M5 _ (Uj c1 id) (p1.set pv (some t)) z;refine ⟨kk,e2,hc2,hev, ?_⟩;have ht:=EN hr hev;have hx2:=EN hr2 hev;have ht2:e2 t=v1:=by rw [ht];simp [Env.set]
  have hx3:e2 x=.p (m1 id) 0 0:=by rw [hx2,<-hx1];simp only [Env.set];rw [if_neg (λq=>hd.2.2 q.symm)]
  show WS tp (_::rest) e2 hc2 _;rw [X0,JU (FS p2 hw2)];refine (Va c2 p2 zc).imp ?_;rintro r1 hc3 ⟨r,h3,S3,m3,c3,a3,pr,hw3,zz⟩;obtain ⟨c4,a4,hg,hm⟩:=aOi c1 hk c3 (a2.trans a3);have p4:EP S3 m3 (h3.put id k) hc3 (e'.set (some d) r) (e2.set (some d) r1):=((p2.mono c2 a3).set pr (some d))
  rw [JU (FS p4 hw3),T3 (λC=>rfl)];have hx4:(e2.set (some d) r1) x=.p (m1 id) 0 0:=by simp only [Env.set];rw [if_neg (λq=>hd.2.1 q.symm)];exact hx3
  have ht4:(e2.set (some d) r1) t=v1:=by simp only [Env.set];rw [if_neg (λq=>hd.1 q.symm)];exact ht2
  simp only [Ag,X.ev,hx4,ht4];have hsv:BL v1 v1=true:=dW hv pv;simp only [Option.bind_eq_some_iff] at hv1;obtain ⟨b,hb,rr,hrr,hcc⟩:=hv1;rw [hg,hb];simp only [Option.bind_some,hrr,hcc];rw [if_pos hsv,AV,Ow];have p5:EP S3 m3 (h3.put id k) hc3 (e'.set (some d) r) ((e2.set (some d) r1).set none .u):=p4;exact (Vb rest c4 p5 zz).imp λ_ _=>CE.then a4
 exact main.imp λ_ _ w=>w.imp λ_ _=>CE.then a1
theorem Yd {a b:TC} {e:Env} {K:Ex->Env->AH->Prop} (z:ZCS tp a e h (λx e h=>S4 x (ZCS tp b e h K) (K x e h))):ZCS tp (.seq a b) e h K:=λS m hc e1 c p=>by
 rw [Rr];refine (z S m hc e1 c p).imp ?_;rintro x e1' hc' ⟨e',h',S',m',c2,a',p',z⟩
 cases x with
 | nm=>exact (z S' m' hc' e1' c2 p').imp λ_ _ _=>CE.then a'
 | ex j=>exact ⟨e',h',S',m',c2,a',p',z⟩
 | rt=>exact ⟨e',h',S',m',c2,a',p',z⟩
end
end Go.Ab.T
namespace Go.Ab.T
open Go Go.Ab
set_option maxHeartbeats 16000000
set_option maxRecDepth 4000
theorem Made.caps {C:Am} (h:Made C):∀ x∈C.chans,x.cap<=8:=λx hx=>by
 have:=(Ey.1 h.wh).2.2.1 x hx;unfold C9 at this;simp only [Bool.and_eq_true,decide_eq_true_eq] at this;obtain ⟨_,this⟩:=this;split at this
 .simp only [decide_eq_true_eq] at this;omega
 .simp only [decide_eq_true_eq] at this;omega
theorem cN {L raw ins steps:List Int} {which:Int} (hL:L.length<4000000000) (hB:iT raw) (hBl:raw.length<3000000000) (hU:Ej ins) (hUl:ins.length<4000000000) (hS:steps.length<4000000000):Pf tp aYX [.fl 1 (L.map Ek),.i .i64 which,.fl 1 (raw.map CJ),.fl 1 (ins.map CL),.fl 1 (steps.map Ek)] (.b true):=by
 refine aAL aYS (by simp [eK]) λrp=>?_;unfold eK;refine HC ?_;simp (disch:=omega)only[go_sem, *];refine HC ?_;simp (disch:=omega)only[go_sem, *];refine HC ?_;simp (disch:=omega)only[go_sem, *];refine VF (id:=0) (k:=0) (L:=L) ?_ om hL ?_ ?_
 .simp only [An];simp (disch:=omega)only[go_sem, *]
  all_goals rfl
 .simp (disch:=omega)only[go_sem, *]
 intro C j hj hC;have p1:1<=C.parts.length/\C.parts.length<=6:=by have:=((Ey).1 hC.wh).1;omega
 have ts:=λ{h:AH} {k:Nat} {K:V->AH->Prop} hg hk hlo kk=>Tx (C:=C) (L:=L) (h:=h) (id:=0) (k:=k) (K:=K) hg hk hL hlo (by have:=((Ey).1 hC.wh).1;omega) om kk;simp only [Am.enc] at ts;simp (disch:=omega)only[go_sem, *];refine HC ?_;simp (disch:=omega)only[go_sem, *];refine ts (k:=j) ?_ hj ?_ ?_
 .simp (disch:=omega)only[go_sem, *]
 .simp (disch:=omega)only[go_sem, *]
 intro Ps Is j2 sc hj2;have wb:=I1 (n:=which) (lo:=0) (hi:=(C.parts.length:Int) - 1) om;have we:=I6 (n:=which) (lo:=0) (hi:=(C.parts.length:Int) - 1) om om om;obtain ⟨i,hi⟩:∃ i:Nat,Dy which 0 ((C.parts.length:Int) - 1)=i:=⟨(Dy which 0 ((C.parts.length:Int) - 1)).toNat,om⟩
 rw [hi] at wb we;have hiP:i<Ps.length:=by have:=sc.p;omega
 have hiI:i<Is.length:=by have:=sc.i;omega
 obtain ⟨hp1,hp3⟩:=hC.procs (i:=i) om;have hIu:=sc.iu _ (Az hiI);have hPy:=sc.py _ (Az hiP);have hw0:(Bu C).1=0:=by rw [hC.wh]
 have hip:i<C.parts.length:=by omega
 have pe:=λ{prog ins steps:List Int}=>uO (C:=C) (i:=i) (prog:=prog) (ins:=ins) (steps:=steps) hC.nm hw0 hip hp1 hp3 hC.caps (by have:=hC.ch;omega);have e1:=pe (prog:=nth Ps i) (ins:=nth Is i) (steps:=steps) hPy.1 om hIu.1 om hS;have e2:=pe (prog:=raw) (ins:=ins) (steps:=steps) hB om hU hUl hS;have e3:=pe (prog:=nth Ps i++raw) (ins:=ins) (steps:=[]) (λz hz=>(List.mem_append.1 hz).elim (hPy.1 z) (hB z)) (by rw [List.length_append];omega) hU hUl (by decide);simp only [Am.enc] at e1 e2 e3;clear hi ts pe hC hw0 sc;simp (disch:=omega)only[go_sem, *];refine HC ?_;simp (disch:=omega)only[go_sem, *];refine Pf.go (we) (by simp only [go_sem]) λ_=>?_;simp (disch:=omega)only[go_sem, *];refine Yd (nS 23 (t:=52) (n:=3) (x:=12) (d:=62) rfl rfl rfl (by decide) ?_);simp only [List.take_succ_cons,List.take_zero];simp (disch:=omega)only[go_sem, *];refine Pf.go (e1) (by simp only [go_sem]) λ_=>?_;simp (disch:=omega)only[go_sem, *];refine Pf.go (e2) (by simp only [go_sem]) λ_=>?_;simp (disch:=omega)only[go_sem, *];refine ⟨1,⟨3,[[.fl 11 (C.parts.map Part.enc),.fl 6 (C.chans.map AU.enc),.fl 1 (C.tables.map Tab.enc)]]⟩,_,.agg [.fl 11 (C.parts.map Part.enc),.fl 6 (C.chans.map AU.enc),.fl 1 (C.tables.map Tab.enc)], ?_, ?_,rfl,rfl,rfl, ?_, ?_⟩
 .simp (disch:=omega)only[go_sem, *]
 .simp (disch:=omega)only[go_sem, *]
 .exact TA (y:=true) (by simp (disch:=omega)only[go_sem, *]) rfl
 have g21:∀ {x y:Option BJ},VW 2 1 x y=y:=λ{x y}=>Af (by decide);simp (disch:=omega)only[go_sem, *];refine Av (R:=[]) (Sl.nil' 3 _ _) ?_ ?_ ?_ ?_
 .simp only [go_sem]
 .simp only [go_sem]
 .simp;omega
 intro w4 h4 s4 g4;have n4:=g4.next;simp only [go_sem] at n4;have s5:Sl 3 (h4.back 0) 1 w4 ((nth Ps i).map CJ):=s4;have c1:=g4.cell;have c2:=g4.cells;generalize hb:h4.back _=h5;have e5:h4.back 0=h5:=by rw [<- hb];rfl
 rw [e5] at s5;have n5:3<=h5.next:=by rw [<- e5];exact n4
 have l5:h5.lim=0:=by rw [<- e5];rfl
 clear s4 g4 n4 hb e5;simp (disch:=omega)only[go_sem, *];refine ⟨TA (y:=true) (by simp (disch:=omega)only[go_sem, *]) rfl, ?_⟩;refine Av s5 ?_ ?_ ?_ ?_
 .omega
 .omega
 .simp;omega
 intro w6 h6 s6 g6;have o6:=Au s6;have c3:=g6.cell;have c4:=g6.cells;have l6:h6.lim=0:=g6.lim.trans l5;have n6:=g6.next;rw [<- List.map_append] at s6;clear g6 s5;refine ⟨TA (y:=true) (by simp (disch:=omega)only[go_sem, *]) rfl, ?_⟩;simp (disch:=omega)only[go_sem, *];have s7:Sl 3 (h6.put 1 ⟨3,[[.fl 11 (C.parts.map Part.enc),.fl 6 (C.chans.map AU.enc),.fl 1 (C.tables.map Tab.enc)]]⟩).raise 1 w6 ((nth Ps i++raw).map CJ):=Sl.raise (AC s6 _ _ (o6.imp (λz=>z) (λz=>by omega)));refine Pf.look e3 (.cons _ _ _ _ _ (.agg _ _ _ (.cons _ _ _ _ _ (.fl _ _ _) (.cons _ _ _ _ _ (.fl _ _ _) (.cons _ _ _ _ _ (.fl _ _ _) (.nil _))))) (.cons _ _ _ _ _ (.z _ _ (.i _ _)) (.cons _ _ _ _ _ (Sl.froze s7 (λ_=>rfl) trivial (by rw [List.length_append];omega)) (.cons _ _ _ _ _ (.fl _ _ _) (.cons _ _ _ _ _ (.ns _ _) (.nil _)))))) rfl λ_=>?_;simp (disch:=omega)only[go_sem, *];refine Pf.go (SW) (by simp only [go_sem]) λ_=>?_;simp (disch:=omega)only[go_sem, *];refine aLC ?_;simp (disch:=omega)only[go_sem, *]
end Go.Ab.T
/- From a call's arguments, as the form reads them, to an abstract heap. -/
namespace Go.Ab
open Go Go.RowKit
/-! ### Shapes of arguments -/
mutual
inductive Sh where
 | b
 | i (k:IntKind)
 | s
 | sl (e:Sh)
 | agg (l:I8)
inductive I8 where
 | nil
 | cons (x:Sh) (l:I8)
end
mutual
def Sh.size:Sh->Nat
 | .b | .i _ | .s | .sl _=>1
 | .agg l=>l.size
def I8.size:I8->Nat
 | .nil=>0
 | .cons x l=>x.size+l.size
end
def I8.rep (x:Sh):Nat->I8
 | 0=>.nil
 | n+1=>.cons x (I8.rep x n)
mutual
inductive ShT (P:Program):TypeId->Sh->Prop where
 | b (t:TypeId):P.underlying t=some .bool->ShT P t .b
 | i (t:TypeId) (k:IntKind):P.underlying t=some (.int k)->ShT P t (.i k)
 | s (t:TypeId):P.underlying t=some .string->ShT P t .s
 | sl (t e:TypeId) (x:Sh):P.underlying t=some (.slice e)->ShT P e x->P.cellsOf e=x.size->0<x.size->ShT P t (.sl x)
 | agg (t:TypeId) (fs:Array Field) (l:I8):P.underlying t=some (.struct fs)->ShF P fs.toList 0 l->P.cellsOf t=l.size->ShT P t (.agg l)
 | arr (t e:TypeId) (n:Nat) (x:Sh):P.underlying t=some (.array n e)->ShT P e x->P.cellsOf e=x.size->P.cellsOf t=n*x.size->ShT P t (.agg (I8.rep x n))
inductive ShF (P:Program):List Field->Nat->I8->Prop where
 | nil (o:Nat):ShF P [] o .nil
 | cons (f:Field) (fs:List Field) (o:Nat) (x:Sh) (l:I8):f.offset=o->ShT P f.type x->P.cellsOf f.type=x.size->ShF P fs (o+x.size) l->ShF P (f::fs) o (.cons x l)
end
section
variable {H:Type}
mutual
def DV (h:AH):Sh->DataW H->List V->Prop
 | .b,d,vs=>∃ x,d=.lit (.bool x)/\vs=[.b x]
 | .i k,d,vs=>∃ n,d=.lit (.int k n)/\(Lit.int k n).wf=true/\vs=[.i k n]
 | .s,d,vs=>∃ x:ByteArray,d=.lit (.string x.data.toList)/\x.size<=maxLen/\vs=[.s x]
 | .sl e,d,vs=>(d=.nil/\vs=[.ns])\/∃ (AM spare:List (DataW H)) (id:Nat) (rows:List (List V)),d=.slice AM spare/\vs=[.sl id 0 AM.length AM.length]/\h.get id=some ⟨e.size,rows⟩/\id<h.next/\rows.length=AM.length/\AM.length<Bc/\∀ (j:Nat) (x:DataW H) (r:List V),AM[j]?=some x->rows[j]?=some r->DV h e x r
 | .agg l,d,vs=>∃ ds,d=.agg ds/\iS h l ds vs
def iS (h:AH):I8->List (DataW H)->List V->Prop
 | .nil,ds,vs=>ds=[]/\vs=[]
 | .cons x l,ds,vs=>∃ d ds' v1 v2,ds=d::ds'/\vs=v1++v2/\DV h x d v1/\iS h l ds' v2
end
mutual
def Ot:Sh->DataW H->Prop
 | .sl e,d=>∀ AM spare,d=.slice AM spare->AM.length<Bc/\∀ x∈AM,Ot e x
 | .agg l,d=>∀ ds,d=.agg ds->Rq l ds
 | .b,_ | .i _,_ | .s,_=>True
def Rq:I8->List (DataW H)->Prop
 | .nil,_=>True
 | .cons x l,ds=>∀ d ds',ds=d::ds'->Ot x d/\Rq l ds'
end
structure Gr (M M':Mp) (h h':AH):Prop where
 keeps:BD M M' h h'
 get:∀ id,id<h.next->h'.get id=h.get id
theorem Gr.refl (M:Mp) (h:AH):Gr M M h h:=⟨BD.refl M h,λ_ _=>rfl⟩
theorem Gr.trans {M M1 M2:Mp} {h h1 h2:AH} (a:Gr M M1 h h1) (b:Gr M1 M2 h1 h2):Gr M M2 h h2:=
 ⟨a.keeps.trans b.keeps,λid hi=>(b.get id (Nat.lt_of_lt_of_le hi a.keeps.next)).trans (a.get id hi)⟩
mutual
theorem DV.grow {M M':Mp} {h h':AH} (g:Gr M M' h h'):∀ (sh:Sh) (d:DataW H) (vs:List V),DV h sh d vs->DV h' sh d vs
 | .b,d,vs,k=>by simp only [DV] at k ⊢;exact k
 | .i _,d,vs,k=>by simp only [DV] at k ⊢;exact k
 | .s,d,vs,k=>by simp only [DV] at k ⊢;exact k
 | .sl e,d,vs,k=>by
  simp only [DV] at k ⊢;rcases k with k | ⟨AM,spare,id,rows,a,b,c,d,e1,f,g1⟩
  .exact .inl k
  .exact .inr ⟨AM,spare,id,rows,a,b,(g.get id d).trans c,Nat.lt_of_lt_of_le d g.keeps.next,e1,f,λj x r hx hr=>DV.grow g e x r (g1 j x r hx hr)⟩
 | .agg l,d,vs,k=>by
  simp only [DV] at k ⊢;obtain ⟨ds,a,b⟩:=k;exact ⟨ds,a,iS.grow g l ds vs b⟩
theorem iS.grow {M M':Mp} {h h':AH} (g:Gr M M' h h'):∀ (l:I8) (ds:List (DataW H)) (vs:List V),iS h l ds vs->iS h' l ds vs
 | .nil,ds,vs,k=>by simp only [iS] at k ⊢;exact k
 | .cons x l,ds,vs,k=>by
  simp only [iS] at k ⊢;obtain ⟨d,ds',v1,v2,a,b,c,e⟩:=k;exact ⟨d,ds',v1,v2,a,b,DV.grow g x d v1 c,iS.grow g l ds' v2 e⟩
end
structure In (M:Mp) (w:World) (h:AH):Prop where
 cells:∀ id k m,h.get id=some k->M id=some m->m.b<w.heap.size/\Df M h w m k
 own:∀ id m,M id=some m->m.own=false
 fresh:∀ id,h.live id->id<h.next
 lim:h.lim=h.next
theorem In.sim {M:Mp} {w:World} {h:AH} (i:In M w h):De M w.heap.size w h:=by
 refine ⟨i.cells,λid m hl hm ho=>?_,λid m hl hm hli=>?_,λid id' m m' _ _ hm _ _ ho=>?_,i.fresh,by rw [i.lim];exact Nat.le_refl _,Nat.le_refl _⟩
 .rw [i.own id m hm] at ho;cases ho
 .have:=i.fresh id hl;have:=i.lim;omega
 .rw [i.own id m hm] at ho;cases ho
def AH.give (h:AH) (k:BJ):AH:={ get:=λj=>if j=h.next then some k else h.get j,next:=h.next+1,lim:=h.next+1 }
def Wk (M:Mp) (id:Nat) (m:MI):Mp:=λj=>if j=id then some m else M j
theorem Ui {M:Mp} {h:AH} {k:BJ} {m:MI} (hf:∀ id,h.live id->id<h.next):Gr M (Wk M h.next m) h (h.give k):=by
 refine ⟨⟨by simp [AH.give],λid hi hl=>?_,λid hi hl=>?_⟩,λid hi=>?_⟩
 .have:(h.give k).get id=h.get id:=by simp only [AH.give];rw [if_neg om]
  rw [AH.live,this] at hl;exact hl
 .simp only [Wk];rw [if_neg om]
 .simp only [AH.give];rw [if_neg om]
theorem In.give {M:Mp} {w:World} {h:AH} {k:BJ} {m:MI} (i:In M w h) (hb:m.b<w.heap.size) (ho:m.own=false) (hc:Df M h w m k):In (Wk M h.next m) w (h.give k):=by
 have g:=Ui (M:=M) (k:=k) (m:=m) i.fresh;refine ⟨λid k' m' hk hm=>?_,λid m' hm=>?_,λid hl=>?_,rfl⟩
 .simp only [AH.give,Wk] at hk hm
  by_cases hid:id=h.next
  .rw [if_pos hid] at hk hm;cases hk;cases hm;exact ⟨hb,Df.keep g.keeps rfl hc⟩
  .rw [if_neg hid] at hk hm;exact ⟨(i.cells id k' m' hk hm).1,Df.keep g.keeps rfl (i.cells id k' m' hk hm).2⟩
 .simp only [Wk] at hm;split at hm
  .cases hm;exact ho
  .exact i.own id m' hm
 .by_cases hid:id=h.next
  .subst hid;simp [AH.give]
  .have:(h.give k).get id=h.get id:=by simp only [AH.give];rw [if_neg hid]
   rw [AH.live,this] at hl;have:=i.fresh id hl;simp only [AH.give];omega
variable {P:Program} {w:World} {enc:TypeId×Value->H} {spare:Nat->Bool}
def aYo (M:Mp) (w:World) (h:AH) (sh:Sh) (d:DataW H) (cs:List Value):Prop:=
 ∃ (M':Mp) (h':AH) (vs:List V),In M' w h'/\Gr M M' h h'/\Br M' h' vs cs/\DV h' sh d vs/\(∀ v∈vs,v.isCell=true)
def aYp (M:Mp) (w:World) (h:AH) (l:I8) (ds:List (DataW H)) (cs:List Value):Prop:=
 ∃ (M':Mp) (h':AH) (vs:List V),In M' w h'/\Gr M M' h h'/\Br M' h' vs cs/\iS h' l ds vs/\(∀ v∈vs,v.isCell=true)
theorem MY {e : Sh} (ih : ∀ (cs : List Value) (d : DataW H) (M : Mp) (h : AH), (∃ fuel t ps, ShT P t e /\ DataW.trod enc P w 0 spare true fuel t cs = some (d, ps)) -> In M w h -> Ot e d -> aYo M w h e d cs) :
    ∀ (l:List (List Value×DataW H)) (M:Mp) (h:AH),In M w h->(∀ q∈l,(∃ fuel t ps,ShT P t e/\DataW.trod enc P w 0 spare true fuel t q.1=some (q.2,ps))/\Ot e q.2) ->
     ∃ (M':Mp) (h':AH) (rows:List (List V)),In M' w h'/\Gr M M' h h'/\rows.length=l.length/\∀ (j:Nat) (q:List Value×DataW H) (r:List V),l[j]?=some q->rows[j]?=some r->Br M' h' r q.1/\DV h' e q.2 r/\(∀ v∈r,v.isCell=true)
 | [],M,h,hi,_=>⟨M,h,[],hi,Gr.refl M h,rfl,λj q r hq=>by simp at hq⟩
 | q::l,M,h,hi,hq=>by
  obtain ⟨M1,h1,vs,i1,g1,v1,d1,c1⟩:=ih q.1 q.2 M h (hq q (List.mem_cons_self ..)).1 hi (hq q (List.mem_cons_self ..)).2;obtain ⟨M2,h2,rows,i2,g2,l2,a2⟩:=MY ih l M1 h1 i1 (λx hx=>hq x (List.mem_cons_of_mem _ hx));refine ⟨M2,h2,vs::rows,i2,g1.trans g2,by simp [l2],λj x r hx hr=>?_⟩
  cases j with
  | zero=>
   simp at hx hr;subst hx;subst hr;exact ⟨v1.keep g2.keeps,d1.grow g2,c1⟩
  | succ j=>exact a2 j x r (by simpa using hx) (by simpa using hr)
def Al (P:Program) (w:World) (enc:TypeId×Value->H) (spare:Nat->Bool):I8->List (List Value×DataW H)->Prop
 | .nil,q=>q=[]
 | .cons x l,q=>∃ p q',q=p::q'/\(∃ fuel t ps,ShT P t x/\DataW.trod enc P w 0 spare true fuel t p.1=some (p.2,ps))/\Al P w enc spare l q'
theorem Mn {n : Nat} {cs : List Value} : ∀ (fs : List Field) (o : Nat) (l : I8) (xs : List (DataW H × List MemPlace)), ShF P fs o l -> xs.length = fs.length -> (∀ (i : Nat) (f : Field), fs[i]? = some f -> DataW.trod enc P w 0 spare true n f.type ((cs.drop f.offset).take (P.cellsOf f.type)) = xs[i]?) ->
    ∃ q,Al P w enc spare l q/\q.map (·.2)=xs.map (·.1)/\(q.map (·.1)).flatten=(cs.drop o).take l.size
 | [],o,_,xs,.nil _,hl,ha=>by
  have:xs=[]:=List.length_eq_zero_iff.1 hl;subst this;exact ⟨[],rfl,rfl,by simp [I8.size]⟩
 | f::fs,o,_,xs,.cons _ _ _ x l hf ht hc hr,hl,ha=>by
  match xs,hl,ha with
  | y::ys,hl,ha=>
   obtain ⟨q,q1,q2,q3⟩:=Mn (n:=n) (cs:=cs) fs (o+x.size) l ys hr (by simpa using hl) (λi g hg=>by simpa using ha (i+1) g (by simpa using hg));have h0:=ha 0 f rfl;simp only [List.getElem?_cons_zero] at h0;refine ⟨((cs.drop f.offset).take (P.cellsOf f.type),y.1)::q,⟨_,q,rfl,⟨n,f.type,y.2,ht,h0⟩,q1⟩,by simp [q2], ?_⟩;simp only [List.map_cons,List.flatten_cons,q3,hf,hc,I8.size];rw [<- List.drop_drop,List.take_add]
theorem OC {n : Nat} {e : TypeId} {x : Sh} {cs : List Value} (ht : ShT P e x) (hc : P.cellsOf e = x.size) : ∀ (m i : Nat) (xs : List (DataW H × List MemPlace)), xs.length = m -> (∀ j, j < m -> DataW.trod enc P w 0 spare true n e ((cs.drop ((i + j) * P.cellsOf e)).take (P.cellsOf e)) = xs[j]?) ->
    ∃ q,Al P w enc spare (I8.rep x m) q/\q.map (·.2)=xs.map (·.1)/\(q.map (·.1)).flatten=(cs.drop (i*x.size)).take (m*x.size)
 | 0,i,xs,hl,ha=>by
  have:xs=[]:=List.length_eq_zero_iff.1 hl;subst this;exact ⟨[],rfl,rfl,by simp⟩
 | m+1,i,xs,hl,ha=>by
  match xs,hl,ha with
  | y::ys,hl,ha=>
   obtain ⟨q,q1,q2,q3⟩:=OC ht hc m (i+1) ys (by simpa using hl) (λj hj=>by
    have:=ha (j+1) om;simp only [List.getElem?_cons_succ] at this;rw [<- this,show i+(j+1)=i+1+j by omega])
   have h0:=ha 0 om;simp only [List.getElem?_cons_zero,Nat.add_zero] at h0;refine ⟨((cs.drop (i*P.cellsOf e)).take (P.cellsOf e),y.1)::q,⟨_,q,rfl,⟨n,e,y.2,ht,h0⟩,q1⟩,by simp [q2], ?_⟩;simp only [List.map_cons,List.flatten_cons,q3,hc];rw [Nat.succ_mul,Nat.succ_mul,Nat.add_comm (m*x.size),List.take_add,List.drop_drop]
theorem Tw {n : Nat} {e t : TypeId} {fuel : Nat} {cs : List Value} {x : DataW H × List MemPlace} (ht : P.underlying t = some (.array n e)) (h : DataW.trod enc P w 0 spare true fuel t cs = some x) :
    ∃ (xs:List (DataW H×List MemPlace)) (m:Nat),x=(.agg (xs.map (·.1)),xs.flatMap (·.2))/\cs.length=P.cellsOf t/\xs.length=n/\∀ j,j<n->DataW.trod enc P w 0 spare true m e ((cs.drop (j*P.cellsOf e)).take (P.cellsOf e))=xs[j]?:=by
 cases fuel with
 | zero=>simp [DataW.trod] at h
 | succ m=>
  unfold DataW.trod at h;rw [ht] at h;split at h<;>simp_all;obtain ⟨hl,xs,hp,hd⟩:=h;exact ⟨xs,hd.symm,by simpa using mapM_some_length hp,m,λj hj=>by simpa using mapM_some_get hp j j (by simp [hj])⟩
theorem It {a:Addr} {n:Nat} (h:a.spot=none):a.add n=⟨a.block,a.off+n,none⟩:=by
 cases a;simp only at h;subst h;simp only [Addr.add];split<;>simp_all
theorem Vn {a:Addr} {n:Nat} (h:a.spot=none):(a.add n).spot=none:=by rw [It h]
mutual
theorem take (hpos:0<w.heap.size):∀ (sh:Sh) (cs:List Value) (d:DataW H) (M:Mp) (h:AH),(∃ fuel t ps,ShT P t sh/\DataW.trod enc P w 0 (λ_=>true) true fuel t cs=some (d,ps))->In M w h->Ot sh d->aYo M w h sh d cs
 | .b,cs,d,M,h,⟨fuel,t,ps,ht,hr⟩,hi,hs=>by
  cases ht with
  | b _ hu=>
   obtain ⟨x,rfl,he⟩:=DataW.trod_bool hu hr;cases he;exact ⟨M,h,[.b x],hi,Gr.refl M h,.cons _ _ _ _ (.b x) .nil,⟨x,rfl,rfl⟩,by simp [V.isCell]⟩
 | .i k,cs,d,M,h,⟨fuel,t,ps,ht,hr⟩,hi,hs=>by
  cases ht with
  | i _ _ hu=>
   obtain ⟨x,rfl,he,hw⟩:=DataW.trod_int hu hr;cases he;exact ⟨M,h,[.i k x],hi,Gr.refl M h,.cons _ _ _ _ (.i k x) .nil,⟨x,rfl,hw,rfl⟩,by simp [V.isCell]⟩
 | .s,cs,d,M,h,⟨fuel,t,ps,ht,hr⟩,hi,hs=>by
  cases ht with
  | s _ hu=>
   obtain ⟨x,rfl,he,hw⟩:=DataW.trod_string hu hr;cases he;exact ⟨M,h,[.s x],hi,Gr.refl M h,.cons _ _ _ _ (.s x) .nil,⟨x,rfl,hw,rfl⟩,by simp [V.isCell]⟩
 | .sl e,cs,d,M,h,⟨fuel,t,ps,ht,hr⟩,hi,hs=>by
  cases ht with
  | sl _ te _ hu hte hce hpe=>
   rcases DataW.trod_slice hu hr with ⟨rfl,he⟩ | ⟨a,len,cap,AM,rest,n,_,rfl,he,hb,hlc,hcm,hlen,hel,hsp,_⟩
   .cases he;exact ⟨M,h,[.ns],hi,Gr.refl M h,.cons _ _ _ _ .ns .nil,.inl ⟨rfl,rfl⟩,by simp [V.isCell]⟩
   .cases he;simp only [Ot] at hs;obtain ⟨hs1,hs2⟩:=hs _ _ rfl;have hs1':AM.length<Bc:=by simpa using hs1
    have cell:∀ j (y:DataW H×List MemPlace),AM[j]?=some y->∃ cs',w.cells? 0 (a.add (j*P.cellsOf te)) (P.cellsOf te)=some cs'/\DataW.trod enc P w 0 (λ_=>true) true n te cs'=some y:=by
     intro j y hy;have hj:j<len:=by rw [<- hlen];exact (List.getElem?_eq_some_iff.1 hy).1
     have:=hel j hj;rw [hy] at this;simpa [Option.bind_eq_some_iff] using this
    let q:List (List Value×DataW H):=(List.range AM.length).map λj=>((w.cells? 0 (a.add (j*P.cellsOf te)) (P.cellsOf te)).getD [],((AM[j]?).map (·.1)).getD (.nil))
    have hq:∀ j (y:DataW H×List MemPlace),AM[j]?=some y->∃ cs',w.cells? 0 (a.add (j*P.cellsOf te)) (P.cellsOf te)=some cs'/\DataW.trod enc P w 0 (λ_=>true) true n te cs'=some y/\q[j]?=some (cs',y.1):=by
     intro j y hy;obtain ⟨cs',h1,h2⟩:=cell j y hy;have hj:j<AM.length:=(List.getElem?_eq_some_iff.1 hy).1;refine ⟨cs',h1,h2, ?_⟩;simp only [q,List.getElem?_map,List.getElem?_range hj,Option.map_some,h1,hy,Option.getD_some]
    have hql:q.length=AM.length:=by simp [q]
    obtain ⟨M1,h1,rows,i1,g1,l1,a1⟩:=MY (e:=e) (λcs d M h hh hi hs=>take hpos e cs d M h hh hi hs) q M h hi (λz hz=>by
     obtain ⟨j,hj,hz⟩:=List.getElem_of_mem hz;have hj':j<AM.length:=by rw [<- hql];exact hj
     obtain ⟨cs',h1,h2,h3⟩:=hq j AM[j] (by simp [hj']);rw [List.getElem?_eq_getElem hj,hz] at h3;cases h3;exact ⟨⟨n,te,AM[j].2,hte,h2⟩,hs2 _ (List.mem_map.2 ⟨AM[j],List.getElem_mem _,rfl⟩)⟩)
    have first:∀ cs',w.cells? 0 (a.add 0) (P.cellsOf te)=some cs'->a.block<w.heap.size/\a.spot=none:=by
     intro cs' hcs;have h1:=World.cells?_block hcs om;obtain ⟨_,h2,h3⟩:=World.cells?_some hcs;have h4:=h3 0 om;rw [List.getElem?_eq_getElem om] at h4;have h5:=World.cell?_spot h4;simp only [Addr.add,if_true] at h1 h5;exact ⟨h1,h5⟩
    have hz:0<cap->a.block<w.heap.size/\a.spot=none:=by
     intro hcap
     by_cases h0:0<AM.length
     .obtain ⟨cs',h2,_,_⟩:=hq 0 AM[0] (by simp [h0]);exact first cs' (by simpa using h2)
     .have:=(hsp rfl).2 0 om;rw [List.getElem?_eq_getElem (by rw [(hsp rfl).1];omega)] at this;simp only [Option.bind_eq_some_iff] at this;obtain ⟨cs',h2,_⟩:=this;exact first cs' (by rw [show (len+0)*P.cellsOf te=0 by rw [show len+0=0 by omega];simp] at h2;exact h2)
    let m:MI:=⟨if 0<cap then a.block else 0,a.off,0,e.size,false⟩
    have hmb:m.b<w.heap.size:=by
     simp only [m];split
     .rename_i h0;exact (hz h0).1
     .exact hpos
    have hrow:∀ (el:Nat) (r:List V),rows[el]?=some r->∃ y cs',AM[el]?=some y/\q[el]?=some (cs',y.1)/\w.cells? 0 (a.add (el*P.cellsOf te)) (P.cellsOf te)=some cs':=by
     intro el r hr;have hel2:el<AM.length:=by rw [<- hql,<-l1];exact (List.getElem?_eq_some_iff.1 hr).1
     obtain ⟨cs',h2,h3,h4⟩:=hq el AM[el] (by simp [hel2]);exact ⟨AM[el],cs',by simp [hel2],h4,h2⟩
    have hcells:Df M1 h1 w m ⟨e.size,rows⟩:=by
     refine ⟨rfl,λel r hr=>?_⟩;obtain ⟨y,cs',hy,hqe,hcs⟩:=hrow el r hr;obtain ⟨hv,_,hcell⟩:=a1 el _ r hqe hr;obtain ⟨_,hcl,hcc⟩:=World.cells?_some hcs;have hlen2:=hv.length;have hel2:el<AM.length:=(List.getElem?_eq_some_iff.1 hy).1;have hz':=hz om;refine ⟨by rw [hlen2];simp only;omega,λj v hj=>⟨hcell v (List.mem_of_getElem? hj), ?_⟩⟩;obtain ⟨x,hx,hvx⟩:=hv.get j v hj;have hjl:j<P.cellsOf te:=by
      have:=(List.getElem?_eq_some_iff.1 hx).1;simp only at this;omega
     refine ⟨x, ?_,hvx⟩;have e1:=hcc j hjl;simp only at hx;rw [hx,It (Vn hz'.2),It hz'.2] at e1;rw [<- e1];simp only [m];rw [if_pos om,hce]
    have i2:=i1.give (m:=m) hmb rfl hcells;have g2:=Ui (M:=M1) (k:=⟨e.size,rows⟩) (m:=m) i1.fresh;refine ⟨_,_,[.sl h1.next 0 AM.length AM.length],i2,g1.trans g2,.cons _ _ _ _ ?_ .nil,.inr ⟨AM.map (·.1),rest.map (·.1),h1.next,rows,rfl,by simp,by simp [AH.give],by simp [AH.give],by simp [l1,hql],hs1,λj x r hx hr=>?_⟩,by simp [V.isCell]⟩
    .rw [hlen];refine .sl _ _ _ _ _ _ (by simp [AH.give]) om (λ_=>⟨m,by simp [Wk],λhc=>?_,om,λho=>by cases ho⟩);have:=hz hc;simp only [m];rw [if_pos hc];cases a;simp_all
    .obtain ⟨y,cs',hy,hqe,_⟩:=hrow j r hr;simp only [List.getElem?_map,hy,Option.map_some,Option.some.injEq] at hx;subst hx;exact (a1 j _ r hqe hr).2.1.grow g2
 | .agg l,cs,d,M,h,⟨fuel,t,ps,ht,hr⟩,hi,hs=>by
  cases ht with
  | agg _ fs _ hu hf hc=>
   obtain ⟨xs,n,_,he,hlen,hxl,hx⟩:=DataW.trod_struct hu hr;cases he;simp only [Ot] at hs;obtain ⟨q,q1,q2,q3⟩:=Mn (n:=n) (cs:=cs) fs.toList 0 l xs hf (by simpa using hxl) (λi f hf=>hx i f (by simpa using hf));obtain ⟨M',h',vs,i',g',v',d',c'⟩:=eR hpos l q M h q1 hi (by rw [q2];exact hs _ rfl);rw [q3,List.drop_zero,<-hc,<-hlen,List.take_length] at v';rw [q2] at d';exact ⟨M',h',vs,i',g',v',⟨_,rfl,d'⟩,c'⟩
  | arr _ e n x hu hte hce hct=>
   obtain ⟨xs,m,he,hlen,hxl,hx⟩:=Tw hu hr;cases he;simp only [Ot] at hs;obtain ⟨q,q1,q2,q3⟩:=OC (n:=m) (cs:=cs) hte hce n 0 xs hxl (λj hj=>by rw [Nat.zero_add];exact hx j hj);obtain ⟨M',h',vs,i',g',v',d',c'⟩:=eR hpos (I8.rep x n) q M h q1 hi (by rw [q2];exact hs _ rfl);rw [q3,Nat.zero_mul,List.drop_zero,<-hct,<-hlen,List.take_length] at v';rw [q2] at d';exact ⟨M',h',vs,i',g',v',⟨_,rfl,d'⟩,c'⟩
theorem eR (hpos:0<w.heap.size):∀ (l:I8) (q:List (List Value×DataW H)) (M:Mp) (h:AH),Al P w enc (λ_=>true) l q->In M w h->Rq l (q.map (·.2))->aYp M w h l (q.map (·.2)) (q.map (·.1)).flatten
 | .nil,q,M,h,ha,hi,hs=>by
  simp only [Al] at ha;subst ha;exact ⟨M,h,[],hi,Gr.refl M h,.nil,⟨rfl,rfl⟩,by simp⟩
 | .cons x l,q,M,h,ha,hi,hs=>by
  simp only [Al] at ha;obtain ⟨p,q',rfl,ht,ha⟩:=ha;simp only [Rq] at hs;obtain ⟨s1,s2⟩:=hs _ _ rfl;obtain ⟨M1,h1,vs,i1,g1,v1,d1,c1⟩:=take hpos x p.1 p.2 M h ht hi s1;obtain ⟨M2,h2,us,i2,g2,v2,d2,c2⟩:=eR hpos l q' M1 h1 ha i1 s2;refine ⟨M2,h2,vs++us,i2,g1.trans g2,by simpa using (v1.keep g2.keeps).append v2,⟨_,_,vs,us,rfl,rfl,d1.grow g2,d2⟩,λv hv=>?_⟩;rcases List.mem_append.1 hv with hv | hv
  .exact c1 v hv
  .exact c2 v hv
end
end
end Go.Ab
/- A law's row out of the abstract machine. -/
namespace Go.Ab
open Go Go.RowKit
theorem RF {P : Program} {tp : TP} {wr : Wr} (hT : aLf P wr tp) (hm : B3 P tp) (hx : P.follows .mixedOrders = true) {f : Nat} {args : List V} {h : AH} {M : Mp} {w : World} {xs : Array Value}
    (hi:In M w h) (ha:Br M h args xs.toList) (he:Ev tp f args h (λr _=>r=.b true)):Calls P f xs w λe w'=>e=.returned (.bool true)/\Below w.heap.size w w':=by
 obtain ⟨k,v,h',hev,rfl⟩:=he;refine ((Za hT hm hx k f args h _ h' hev).2 M w.heap.size w xs hi.sim ha).mono λe w' ⟨x,M',e1,hd⟩=>?_;subst e1;have hv:=hd.val;cases hv;exact ⟨rfl,hd.below⟩
theorem In.empty (w:World):In (λ_=>none) w ⟨λ_=>none,0,0⟩:=⟨λ_ _ _ hk=>(by cases hk),λ_ _ hm=>(by cases hm),λ_ hl=>absurd rfl hl,rfl⟩
def uQ (P:Program):Bool:=
 if P.globals.size=0 then decide (0<(begin P (λ_ _=>0) default).world.heap.size)
 else (((begin P (λ_ _=>0) default).world.heap[0]?).bind Obj.row?).isSome
theorem Tp {P:Program} {w:World} (hp:uQ P=true) (hs:w.ShapedOpen P):0<w.heap.size:=by
 unfold uQ at hp;split at hp
 .rename_i h0;simp only [decide_eq_true_eq] at hp;obtain ⟨o,_,ho,_⟩:=hs.2 0 om hp
  by_cases hz:0<w.heap.size
  .exact hz
  .rw [Array.getElem?_eq_none om] at ho;cases ho
 .rename_i h0
  cases hb:((begin P (λ_ _=>0) default).world.heap[0]?).bind Obj.row? with
  | none=>rw [hb] at hp;cases hp
  | some q=>
   obtain ⟨cs,hc,_⟩:=hs.1 0 q.1 q.2 om hb
   by_cases hz:0<w.heap.size
   .exact hz
   .rw [Array.getElem?_eq_none om] at hc;cases hc
theorem aOm {n:Int} (h:(Lit.int .i64 n).wf=true): -9223372036854775808<=n/\n<=9223372036854775807:=by
 simpa [Lit.wf,IntKind.min,IntKind.max,IntKind.signed,IntKind.bits] using h
theorem aZl {n:Int} (h:(Lit.int .u8 n).wf=true):0<=n/\n<=255:=by
 simpa [Lit.wf,IntKind.min,IntKind.max,IntKind.signed,IntKind.bits] using h
theorem aOn {n:Int} (h:(Lit.int .u32 n).wf=true):0<=n/\n<=4294967295:=by
 simpa [Lit.wf,IntKind.min,IntKind.max,IntKind.signed,IntKind.bits] using h
def vH (K:TypeId->Option Sh) (P:Program):List Field->Nat->Option I8
 | [],_=>some .nil
 | f::fs,o=>(K f.type).bind λx=>if f.offset=o/\P.cellsOf f.type=x.size then (vH K P fs (o+x.size)).map λl=>.cons x l else none
def shB (P:Program):Nat->TypeId->Option Sh
 | 0,_=>none
 | n+1,t=>
  match P.underlying t with
  | some .bool=>some .b
  | some (.int k)=>some (.i k)
  | some .string=>some .s
  | some (.slice e)=>(shB P n e).bind λx=>if P.cellsOf e=x.size/\0<x.size then some (.sl x) else none
  | some (.struct fs)=>(vH (shB P n) P fs.toList 0).bind λl=>if P.cellsOf t=l.size then some (.agg l) else none
  | some (.array m e)=>(shB P n e).bind λx=>if P.cellsOf e=x.size/\P.cellsOf t=m*x.size then some (.agg (I8.rep x m)) else none
  | _=>none
theorem U2 {K:TypeId->Option Sh} {P:Program} (hK:∀ t x,K t=some x->ShT P t x):∀ (fs:List Field) (o:Nat) (l:I8),vH K P fs o=some l->ShF P fs o l
 | [],o,l,h=>by cases h;exact .nil o
 | f::fs,o,l,h=>by
  simp only [vH,Option.bind_eq_some_iff] at h;obtain ⟨x,hx,h⟩:=h;split at h
  .rename_i hh;simp only [Option.map_eq_some_iff] at h;obtain ⟨l',hl,rfl⟩:=h;exact .cons f fs o x l' hh.1 (hK _ _ hx) hh.2 (U2 hK fs _ l' hl)
  .cases h
theorem Ht {P:Program}:∀ (n:Nat) (t:TypeId) (x:Sh),shB P n t=some x->ShT P t x
 | 0,t,x,h=>by cases h
 | n+1,t,x,h=>by
  unfold shB at h;split at h
  .rename_i hu;cases h;exact .b t hu
  .rename_i k hu;cases h;exact .i t k hu
  .rename_i hu;cases h;exact .s t hu
  .rename_i e hu;simp only [Option.bind_eq_some_iff] at h;obtain ⟨y,hy,h⟩:=h;split at h
   .rename_i hh;cases h;exact .sl t e y hu (Ht n e y hy) hh.1 hh.2
   .cases h
  .rename_i fs hu;simp only [Option.bind_eq_some_iff] at h;obtain ⟨l,hl,h⟩:=h;split at h
   .rename_i hh;cases h;exact .agg t fs l hu (U2 (Ht n) _ _ _ hl) hh
   .cases h
  .rename_i m e hu;simp only [Option.bind_eq_some_iff] at h;obtain ⟨y,hy,h⟩:=h;split at h
   .rename_i hh;cases h;exact .arr t e m y hu (Ht n e y hy) hh.1 hh.2
   .cases h
  .cases h
section
variable {H:Type} {enc:TypeId×Value->H}
theorem O0 {a : Assume} {C : Checked} {os : Os} {f : FuncId} {fn : Func} {s : OpenSpec} {k : (H : Type) -> List (DataW H) -> Bool} (hk : s.cond = some k) {F : Stop.Interp} {conds : List PathCond} {apart fresh handsOn again : Bool}
    (own:ownKnob C.prog.godebug=none) (started:os.Started) (noInit:C.prog.inits.idxOf? f=none) (hfn:C.prog.funcs[f]?=some fn) (hpos:uQ C.prog=true)
    (witness:∃ (w:World) (tape:Tape) (i:Input),w.os=os/\(w.forCall tape i).Shaped C.prog/\i.vars=[]/\Input.okWide C.prog (w.forCall tape i) .any w.heap.size f i /\
     s.pre6 enc C.prog fn conds apart (w.forCall tape i).memory i.args/\a.holds C.prog (lone (Frame.enter C.prog f i.args .normal) [] (w.forCall tape i)))
    (contract:∀ (W:World) (base:Nat) (args:Array Value) (ds gs:List (DataW H)) (before:List MemPlace),0<W.heap.size ->
     (∀ (j:Nat) t v,fn.params[j]?=some t->args[j]?=some v->Value.okWide C.prog W .any base t v) ->
     DataW.Whole enc C.prog fn.params.toList s.vars apart W args.toList ds gs before->k H (ds++gs)=true ->
     Calls C.prog f args W λe W'=>∃ v,e=.returned v/\(s.at F).post enc C.prog fn apart fresh handsOn again W args v W'):
    ReturnsInHanded a C os f .any (s.pre6 enc C.prog fn conds apart) ((s.at F).post enc C.prog fn apart fresh handsOn again):=by
 refine returnsInHanded_of_calls own started noInit witness ?_;intro w tape i _ hshaped _ hok hpre _;obtain ⟨_,_,_,fn',hfn',_,_,_,_,hval⟩:=hok;obtain rfl:fn'=fn:=Option.some.inj (hfn'.symm.trans hfn);obtain ⟨ds,gs,before,hw,_,hkk⟩:=(OpenSpec.pre_some hk conds apart _ _).1 hpre.1;have hw':=DataW.Whole.of_heap (w':=w.forCall tape i) (by rfl) hw;refine (contract (w.forCall tape i) w.heap.size i.args ds gs before (Tp hpos hshaped) hval hw' hkk).mono λe W' ⟨v,he,hp⟩=>?_;subst he;exact ChangeSpec.post_blind hp
end
end Go.Ab
namespace Go.Ab.T
open Go Go.Ab
set_option maxHeartbeats 1000000
theorem Pf.ev {f:Nat} {args args1:List V} {h:AH} (pf:Pf tp f args (.b true)) (hl:h.lim<=h.next) (p:Bz (·<h.next) (λi=>i) h.get 0 args args1):Ev tp f args1 h (λr _=>r=.b true):=by
 refine (pf (·<h.next) (λi=>i) h args1 (CG.emp (λa ha=>ha) hl _) p).imp ?_;rintro r1 hc' ⟨r,h',S',m',c',a',q,rfl,rfl⟩;cases q;rfl
structure BK {H:Type} (bk:DataW H->Nat):Prop where
 sl:∀ AM spare,AM.length<=bk (.slice AM spare)
 el:∀ AM spare x,x∈AM->bk x<=bk (.slice AM spare)
 ag:∀ parts x,x∈parts->bk x<=bk (.agg parts)
 st:∀ l,l.length<=bk (.lit (.string l))
section
variable {H:Type} {bk:DataW H->Nat} {h:AH}
abbrev PW (h:AH) (u v:V):Prop:=Go.Ab.PR (·<h.next) (λi=>i) h.get 0 u v
abbrev PWs (h:AH) (u v:List V):Prop:=Bz (·<h.next) (λi=>i) h.get 0 u v
theorem Zs {M M':Mp} {h h':AH} (g:Gr M M' h h'):Ir (·<h.next) (λi=>i) h.get 0 (·<h'.next) (λi=>i) h'.get 0:=
 ⟨λa ha=>Nat.lt_of_lt_of_le ha g.keeps.next,λa ha=>g.get a ha,λ_ _=>rfl,Nat.le_refl _⟩
theorem PW.gr {M M':Mp} {h h':AH} {u v:V} (g:Gr M M' h h') (p:PW h u v):PW h' u v:=Go.Ab.PR.mono (Zs g) p
theorem PWs.gr {M M':Mp} {h h':AH} {u v:List V} (g:Gr M M' h h') (p:PWs h u v):PWs h' u v:=Bz.mono (Zs g) p
theorem IB {α : Type} {en : α -> List V} {good : α -> Prop} (B : BK bk) {e : Sh} {d : DataW H} {vs : List V} (hd : DV h (.sl e) d vs) (hb : bk d <= 1048576) (hp : ∀ (y : DataW H) (r : List V), DV h e y r -> bk y <= 1048576 -> ∃ a, good a /\ PWs h (en a) r) :
    ∃ (L:List α) (x:V),vs=[x]/\(∀ a∈L,good a)/\L.length<=1048576/\PW h (.fl e.size (L.map en)) x:=by
 simp only [DV] at hd;rcases hd with ⟨rfl,rfl⟩ | ⟨AM,spare,id,rows,rfl,rfl,h2,h3,h4,h5,h6⟩
 .exact ⟨[],_,rfl,(λa ha=>by cases ha),by simp,.fl0 _ _⟩
 .have hl:=B.sl AM spare;have hel:=B.el AM spare;have:∀ (els:List (DataW H)) (rows:List (List V)),rows.length=els.length->(∀ x∈els,bk x<=1048576)->(∀ (j:Nat) (x:DataW H) (r:List V),els[j]?=some x->rows[j]?=some r->DV h e x r)->∃ L:List α,L.length=els.length/\(∀ a∈L,good a)/\C7 (·<h.next) (λi=>i) h.get 0 (L.map en) rows:=by
   intro els
   induction els with
   | nil=>intro rows hl _ _;rw [List.length_eq_zero_iff.1 hl];exact ⟨[],rfl,(λa ha=>by cases ha),.nil _⟩
   | cons y els ih=>
    intro rows hl hb hr
    match rows,hl with
    | r::rows,hl=>
     obtain ⟨a,ga,pa⟩:=hp y r (hr 0 y r rfl rfl) (hb y (List.mem_cons_self ..));obtain ⟨L,l1,l2,l3⟩:=ih rows (by simpa using hl) (λx hx=>hb x (List.mem_cons_of_mem _ hx)) (λj x r hx hr'=>hr (j+1) x r (by simpa using hx) (by simpa using hr'));exact ⟨a::L,by simp [l1],λb hb=>by rcases List.mem_cons.1 hb with rfl | hb;exact ga;exact l2 b hb,.cons _ _ _ _ _ pa l3⟩
  obtain ⟨L,l1,l2,l3⟩:=this AM rows h4 (λx hx=>by have:=hel x hx;omega) h6;refine ⟨L,_,rfl,l2,om, ?_⟩;have e1:AM.length=(L.map en).length:=by simp [l1]
  rw [e1];exact .fl _ _ _ id 0 _ rows h3 h2 (Nat.le_refl _) (by simp;omega) (by simp [Hc];omega) (by rw [List.drop_zero,List.take_of_length_le (by simp;omega)];exact l3)
theorem OS (B:BK bk) {d:DataW H} {vs:List V} (hd:DV h (.sl (.i .i64)) d vs) (hb:bk d<=1048576):∃ (L:List Int) (x:V),vs=[x]/\L.length<=1048576/\PW h (.fl 1 (L.map Ek)) x:=by
 obtain ⟨L,x,h1,_,h3,h4⟩:=IB (en:=Ek) (good:=λ_=>True) B hd hb (λy r hy _=>by obtain ⟨n,_,_,rfl⟩:=hy;exact ⟨n,trivial,.cons _ _ _ _ _ (.i _ _ _) (.nil _)⟩);exact ⟨L,x,h1,h3,h4⟩
theorem VJ (B:BK bk) {d:DataW H} {vs:List V} (hd:DV h (.sl (.i .u8)) d vs) (hb:bk d<=1048576):∃ (L:List Int) (x:V),vs=[x]/\((∀ z∈L,0<=z/\z<256)/\L.length<=1048576)/\PW h (.fl 1 (L.map λz=>[V.i .u8 z])) x:=by
 obtain ⟨L,x,h1,h2,h3,h4⟩:=IB (en:=λz=>[V.i .u8 z]) (good:=λz=>0<=z/\z<256) B hd hb (λy r hy _=>by
  unfold DV at hy;obtain ⟨n,_,w,rfl⟩:=hy;have:=aZl w;exact ⟨n,om,.cons _ _ _ _ _ (.i _ _ _) (.nil _)⟩)
 exact ⟨L,x,h1,⟨h2,h3⟩,h4⟩
theorem YX (B:BK bk) {d:DataW H} {vs:List V} (hd:DV h (.sl (.i .u32)) d vs) (hb:bk d<=1048576):∃ (L:List Int) (x:V),vs=[x]/\((∀ z∈L,0<=z/\z<4294967296)/\L.length<=1048576)/\PW h (.fl 1 (L.map λz=>[V.i .u32 z])) x:=by
 obtain ⟨L,x,h1,h2,h3,h4⟩:=IB (en:=λz=>[V.i .u32 z]) (good:=λz=>0<=z/\z<4294967296) B hd hb (λy r hy _=>by
  unfold DV at hy;obtain ⟨n,_,w,rfl⟩:=hy;have:=aOn w;exact ⟨n,om,.cons _ _ _ _ _ (.i _ _ _) (.nil _)⟩)
 exact ⟨L,x,h1,⟨h2,h3⟩,h4⟩
end
end Go.Ab.T
