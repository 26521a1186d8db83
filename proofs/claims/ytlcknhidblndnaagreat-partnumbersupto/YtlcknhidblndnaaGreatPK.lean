/- Part of a proof that a law returns true for every input of the second form's bound (no other condition). -/
import Derived.JoinedCond
import Derived.ChangeArms
import Derived.WalkKit
import Derived.ProofKit
import Derived.OpenShut
import Derived.ShutString
import Derived.ChangeOld
import Derived.SizedLaws
import Derived.Test.YtlcknhidblndnaaGreatPJ
import Derived.Test.YtlcknhidblndnaaGreatPC
import Derived.Test.YtlcknhidblndnaaGreatPD
import Derived.Test.YtlcknhidblndnaaGreatPH
set_option linter.all false
namespace Go.Ab.T
open Go Go.Ab
set_option maxHeartbeats 16000000
set_option maxRecDepth 4000
theorem aAD {k:Int} {h:AH} {K:V->AH->Prop} (kk:∀ L:List Int,L.length<=400->K (.fl 1 (L.map Ek)) h):Cq tp Uk [.i .i64 k] h K:=by
 refine bIr aMg (by simp [PY]) λwf rp=>?_;unfold PY;have hlo:=wf.1;simp (disch:=omega)only[go_sem, *];refine Ai (λn' e hh=>∃ (i:Nat) (v:V) (L:List Int),n'=400 - i/\Ak h hh/\e 0=.i .i64 k/\e 3=v/\e 4=.i .i64 i/\i<=400/\L.length=i/\Sl h.next hh 1 v (L.map Ek)) ?_ _ _ _ ⟨0,.ns,[],rfl, ?_⟩
 .rintro n' e hh ⟨i,v,L,rfl,x,e0,e3,e4,hi,hl,s⟩ ih;have hlm:=x.lim;have hnx:=x.next;rw [Ao aOK.eq_1];simp (disch:=omega)only[go_sem, *];refine Ad (λhc=>?_) (λhc=>?_)
  .simp (disch:=omega)only[go_sem, *];refine Av (N:=[Ek ?x]) (s.alloc ⟨1,[Ek ?x]⟩) ?_ ?_ ?_ ?_
   .rw [Bi];omega
   .rw [Ac];omega
   .simp;omega
   intro w h4 s4 g4;have x4:Ak h h4:=⟨by have:=g4.next;rw [Ac] at this;omega,by rw [g4.lim,Bi];exact hlm,λj hj=>by rw [g4.low j hj,AD,Af om];exact x.get j hj⟩
   have s5:Sl h.next h4 1 w ((L++[?x]).map Ek):=by simpa using s4
   clear s4;simp (disch:=omega)only[go_sem, *];refine ih _ _ _ ?_ ⟨i+1,w,L++[?x],rfl, ?_⟩
   .omega
   .simp (disch:=omega)only[go_sem, *]
    all_goals ((repeat' refine And.intro ?_ ?_)<;>first | omega | assumption | (exact x4) | (exact s5) | ((simp;omega)))
  .simp (disch:=omega)only[go_sem, *];exact ⟨_,.fl 1 (L.map Ek),h,C1.ext wf x (Sl.frzb s (λ_=>rfl) om),kk L om⟩
 .simp (disch:=omega)only[go_sem, *]
  ((repeat' refine And.intro ?_ ?_)<;>first | omega | assumption | (exact Ak.refl _) | (exact Sl.nil _ _ _) | (rfl))
theorem bCL {K : Ex -> Env -> AH -> Prop} {e : Env} {h' : AH} {C : Am} {Ps Is : List (List Int)} {bx : Nat} {k : Nat} (hC : Made C) (sc : Scr C Ps Is) (hk : k <= 40) (hb : h'.get bx = some ⟨3, [C.enc]⟩) (hs : h'.get (bx + 1) = some ⟨2, [[.fl 1 (Ps.map Mx), .fl 1 (Is.map My)]]⟩)
    (e1:e 1=.i .i64 k) (e3:e 3=.p bx 0 0) (e4:e 4=.p (bx+1) 0 0) (e21:e 21=.i .i64 C.parts.length) (e22:e 22=.i .i64 0)
    (kk:∀ e',e' 1=.i .i64 k->K (.ex 2) e' h'):ZC tp (.loop bAL) e h' K:=by
 have p1:1<=C.parts.length/\C.parts.length<=6:=by have:=((Ey).1 hC.wh).1;omega
 have lp:=sc.p;have li:=sc.i;have hw0:(Bu C).1=0:=by rw [hC.wh]
 refine Ai (λn' e hh=>∃ i:Nat,n'=C.parts.length - i/\hh=h'/\e 1=.i .i64 k/\e 3=.p bx 0 0/\e 4=.p (bx+1) 0 0/\e 21=.i .i64 C.parts.length/\e 22=.i .i64 i/\i<=C.parts.length) ?_ _ _ _ ⟨0,rfl,rfl,e1,e3,e4,e21,e22,om⟩;clear e1 e3 e4 e21 e22 e;rintro n' e hh ⟨i,rfl,rfl,e1,e3,e4,e21,e22,hi⟩ ih;rw [Ao bAL.eq_1];simp (disch:=omega)only[go_sem, *];refine Ad (λhc=>?_) (λhc=>?_)
 .have hip:i<C.parts.length:=by omega
  have hiP:i<Ps.length:=by omega
  have hiI:i<Is.length:=by omega
  obtain ⟨hp1,hp3⟩:=hC.procs hip;have hIu:=sc.iu _ (Az hiI);have hPy:=sc.py _ (Az hiP);have pe:=λ{steps:List Int} (hS:steps.length<4000000000)=>uO (C:=C) (i:=i) (prog:=nth Ps i) (ins:=nth Is i) (steps:=steps) hC.nm hw0 hip hp1 hp3 hC.caps (by have:=hC.ch;omega) hPy.1 om hIu.1 om hS;simp only [Am.enc] at pe hb;clear hC sc kk;simp (disch:=omega)only[go_sem, *];refine aAD ?_;intro L hL;have e1:=pe (steps:=L) om;clear pe;simp (disch:=omega)only[go_sem, *];refine Pf.go (e1) (by simp only [go_sem]) λ_=>?_;simp (disch:=omega)only[go_sem, *];refine ih _ _ _ om ⟨i+1,rfl,rfl, ?_⟩;clear ih;simp (disch:=omega)only[go_sem, *]
  all_goals ((repeat' refine And.intro ?_ ?_)<;>first | omega | assumption | (skip))
 .clear ih hC sc;simp (disch:=omega)only[go_sem, *];exact kk _ e1
theorem aLe:Pf tp aYX [] (.b true):=by
 refine AL aYS (by simp [eK]) λrp=>?_;unfold eK;simp (disch:=omega)only[go_sem, *];refine Ai (λn' e hh=>∃ k:Nat,n'=40 - k/\hh.lim=0/\e 1=.i .i64 k/\k<=40) ?_ _ _ _ ⟨0,rfl, ?_⟩
 .rintro n' e hh ⟨k,rfl,hlm,e1,hk⟩ ih;rw [Ao bCM.eq_1];simp (disch:=omega)only[go_sem, *];refine Ad (λhc=>?_) (λhc=>?_)
  .simp (disch:=omega)only[go_sem, *];refine aAD ?_;intro L hL;simp (disch:=omega)only[go_sem, *];refine VF (id:=hh.next) (k:=0) (L:=L) ?_ om om ?_ ?_
   .simp only [An];simp (disch:=omega)only[go_sem, *]
    all_goals rfl
   .simp (disch:=omega)only[go_sem, *]
   intro C j hj hC;have p1:1<=C.parts.length/\C.parts.length<=6:=by have:=((Ey).1 hC.wh).1;omega
   have ts:=λ{h:AH} {k:Nat} {K:V->AH->Prop} hg hk hlo kk=>Tx (C:=C) (L:=L) (h:=h) (id:=hh.next) (k:=k) (K:=K) hg hk om hlo (by have:=((Ey).1 hC.wh).1;omega) om kk;simp only [Am.enc] at ts;simp (disch:=omega)only[go_sem, *];refine ts (k:=j) ?_ hj ?_ ?_
   .simp (disch:=omega)only[go_sem, *]
   .simp (disch:=omega)only[go_sem, *]
   intro Ps Is j2 sc hj2;have nu:=λ{K:Ex->Env->AH->Prop} {e:Env} {h':AH}=>bCL (K:=K) (e:=e) (h':=h') (bx:=hh.next+1) (k:=k) hC sc om;simp only [Am.enc] at nu;clear hC sc ts;simp (disch:=omega)only[go_sem, *];refine nu ?_ ?_ ?_ ?_ ?_ ?_ ?_ ?_
   rotate_right 1
   .clear nu;intro e' f1;simp (disch:=omega)only[go_sem, *];refine ih _ _ _ om ⟨k+1,rfl, ?_⟩;clear ih;simp (disch:=omega)only[go_sem, *]
    all_goals ((repeat' refine And.intro ?_ ?_)<;>first | omega | assumption | (skip))
   all_goals (clear nu ih;simp (disch:=omega)only[go_sem, *])
  .clear ih;simp (disch:=omega)only[go_sem, *];refine Pf.go (SW) (by simp only [go_sem]) λ_=>?_;simp (disch:=omega)only[go_sem, *]
 .simp (disch:=omega)only[go_sem, *]
end Go.Ab.T
/- From a call's arguments, as the form reads them, to an abstract heap. -/
namespace Go.Ab
open Go Go.RowKit
/-! ### Shapes of arguments -/
mutual
inductive Sh where
 | b
 | i (k:IntKind)
 | s
 | sl (e:Sh)
 | agg (l:I8)
inductive I8 where
 | nil
 | cons (x:Sh) (l:I8)
end
mutual
def Sh.size:Sh->Nat
 | .b | .i _ | .s | .sl _=>1
 | .agg l=>l.size
def I8.size:I8->Nat
 | .nil=>0
 | .cons x l=>x.size+l.size
end
def I8.rep (x:Sh):Nat->I8
 | 0=>.nil
 | n+1=>.cons x (I8.rep x n)
mutual
inductive ShT (P:Program):TypeId->Sh->Prop where
 | b (t:TypeId):P.underlying t=some .bool->ShT P t .b
 | i (t:TypeId) (k:IntKind):P.underlying t=some (.int k)->ShT P t (.i k)
 | s (t:TypeId):P.underlying t=some .string->ShT P t .s
 | sl (t e:TypeId) (x:Sh):P.underlying t=some (.slice e)->ShT P e x->P.cellsOf e=x.size->0<x.size->ShT P t (.sl x)
 | agg (t:TypeId) (fs:Array Field) (l:I8):P.underlying t=some (.struct fs)->ShF P fs.toList 0 l->P.cellsOf t=l.size->ShT P t (.agg l)
 | arr (t e:TypeId) (n:Nat) (x:Sh):P.underlying t=some (.array n e)->ShT P e x->P.cellsOf e=x.size->P.cellsOf t=n*x.size->ShT P t (.agg (I8.rep x n))
inductive ShF (P:Program):List Field->Nat->I8->Prop where
 | nil (o:Nat):ShF P [] o .nil
 | cons (f:Field) (fs:List Field) (o:Nat) (x:Sh) (l:I8):f.offset=o->ShT P f.type x->P.cellsOf f.type=x.size->ShF P fs (o+x.size) l->ShF P (f::fs) o (.cons x l)
end
section
variable {H:Type}
mutual
def DV (h:AH):Sh->DataW H->List V->Prop
 | .b,d,vs=>∃ x,d=.lit (.bool x)/\vs=[.b x]
 | .i k,d,vs=>∃ n,d=.lit (.int k n)/\(Lit.int k n).wf=true/\vs=[.i k n]
 | .s,d,vs=>∃ x:ByteArray,d=.lit (.string x.data.toList)/\x.size<=maxLen/\vs=[.s x]
 | .sl e,d,vs=>(d=.nil/\vs=[.ns])\/∃ (AM spare:List (DataW H)) (id:Nat) (rows:List (List V)),d=.slice AM spare/\vs=[.sl id 0 AM.length AM.length]/\h.get id=some ⟨e.size,rows⟩/\id<h.next/\rows.length=AM.length/\AM.length<Bc/\∀ (j:Nat) (x:DataW H) (r:List V),AM[j]?=some x->rows[j]?=some r->DV h e x r
 | .agg l,d,vs=>∃ ds,d=.agg ds/\iS h l ds vs
def iS (h:AH):I8->List (DataW H)->List V->Prop
 | .nil,ds,vs=>ds=[]/\vs=[]
 | .cons x l,ds,vs=>∃ d ds' v1 v2,ds=d::ds'/\vs=v1++v2/\DV h x d v1/\iS h l ds' v2
end
mutual
def Ot:Sh->DataW H->Prop
 | .sl e,d=>∀ AM spare,d=.slice AM spare->AM.length<Bc/\∀ x∈AM,Ot e x
 | .agg l,d=>∀ ds,d=.agg ds->Rq l ds
 | .b,_ | .i _,_ | .s,_=>True
def Rq:I8->List (DataW H)->Prop
 | .nil,_=>True
 | .cons x l,ds=>∀ d ds',ds=d::ds'->Ot x d/\Rq l ds'
end
structure Gr (M M':Mp) (h h':AH):Prop where
 keeps:BD M M' h h'
 get:∀ id,id<h.next->h'.get id=h.get id
theorem Gr.refl (M:Mp) (h:AH):Gr M M h h:=⟨BD.refl M h,λ_ _=>rfl⟩
theorem Gr.trans {M M1 M2:Mp} {h h1 h2:AH} (a:Gr M M1 h h1) (b:Gr M1 M2 h1 h2):Gr M M2 h h2:=
 ⟨a.keeps.trans b.keeps,λid hi=>(b.get id (Nat.lt_of_lt_of_le hi a.keeps.next)).trans (a.get id hi)⟩
mutual
theorem DV.grow {M M':Mp} {h h':AH} (g:Gr M M' h h'):∀ (sh:Sh) (d:DataW H) (vs:List V),DV h sh d vs->DV h' sh d vs
 | .b,d,vs,k=>by simp only [DV] at k ⊢;exact k
 | .i _,d,vs,k=>by simp only [DV] at k ⊢;exact k
 | .s,d,vs,k=>by simp only [DV] at k ⊢;exact k
 | .sl e,d,vs,k=>by
  simp only [DV] at k ⊢;rcases k with k | ⟨AM,spare,id,rows,a,b,c,d,e1,f,g1⟩
  .exact .inl k
  .exact .inr ⟨AM,spare,id,rows,a,b,(g.get id d).trans c,Nat.lt_of_lt_of_le d g.keeps.next,e1,f,λj x r hx hr=>DV.grow g e x r (g1 j x r hx hr)⟩
 | .agg l,d,vs,k=>by
  simp only [DV] at k ⊢;obtain ⟨ds,a,b⟩:=k;exact ⟨ds,a,iS.grow g l ds vs b⟩
theorem iS.grow {M M':Mp} {h h':AH} (g:Gr M M' h h'):∀ (l:I8) (ds:List (DataW H)) (vs:List V),iS h l ds vs->iS h' l ds vs
 | .nil,ds,vs,k=>by simp only [iS] at k ⊢;exact k
 | .cons x l,ds,vs,k=>by
  simp only [iS] at k ⊢;obtain ⟨d,ds',v1,v2,a,b,c,e⟩:=k;exact ⟨d,ds',v1,v2,a,b,DV.grow g x d v1 c,iS.grow g l ds' v2 e⟩
end
structure In (M:Mp) (w:World) (h:AH):Prop where
 cells:∀ id k m,h.get id=some k->M id=some m->m.b<w.heap.size/\Df M h w m k
 own:∀ id m,M id=some m->m.own=false
 fresh:∀ id,h.live id->id<h.next
 lim:h.lim=h.next
theorem In.sim {M:Mp} {w:World} {h:AH} (i:In M w h):De M w.heap.size w h:=by
 refine ⟨i.cells,λid m hl hm ho=>?_,λid m hl hm hli=>?_,λid id' m m' _ _ hm _ _ ho=>?_,i.fresh,by rw [i.lim];exact Nat.le_refl _,Nat.le_refl _⟩
 .rw [i.own id m hm] at ho;cases ho
 .have:=i.fresh id hl;have:=i.lim;omega
 .rw [i.own id m hm] at ho;cases ho
def AH.give (h:AH) (k:BJ):AH:={ get:=λj=>if j=h.next then some k else h.get j,next:=h.next+1,lim:=h.next+1 }
def Wk (M:Mp) (id:Nat) (m:MI):Mp:=λj=>if j=id then some m else M j
theorem Ui {M:Mp} {h:AH} {k:BJ} {m:MI} (hf:∀ id,h.live id->id<h.next):Gr M (Wk M h.next m) h (h.give k):=by
 refine ⟨⟨by simp [AH.give],λid hi hl=>?_,λid hi hl=>?_⟩,λid hi=>?_⟩
 .have:(h.give k).get id=h.get id:=by simp only [AH.give];rw [if_neg om]
  rw [AH.live,this] at hl;exact hl
 .simp only [Wk];rw [if_neg om]
 .simp only [AH.give];rw [if_neg om]
theorem In.give {M:Mp} {w:World} {h:AH} {k:BJ} {m:MI} (i:In M w h) (hb:m.b<w.heap.size) (ho:m.own=false) (hc:Df M h w m k):In (Wk M h.next m) w (h.give k):=by
 have g:=Ui (M:=M) (k:=k) (m:=m) i.fresh;refine ⟨λid k' m' hk hm=>?_,λid m' hm=>?_,λid hl=>?_,rfl⟩
 .simp only [AH.give,Wk] at hk hm
  by_cases hid:id=h.next
  .rw [if_pos hid] at hk hm;cases hk;cases hm;exact ⟨hb,Df.keep g.keeps rfl hc⟩
  .rw [if_neg hid] at hk hm;exact ⟨(i.cells id k' m' hk hm).1,Df.keep g.keeps rfl (i.cells id k' m' hk hm).2⟩
 .simp only [Wk] at hm;split at hm
  .cases hm;exact ho
  .exact i.own id m' hm
 .by_cases hid:id=h.next
  .subst hid;simp [AH.give]
  .have:(h.give k).get id=h.get id:=by simp only [AH.give];rw [if_neg hid]
   rw [AH.live,this] at hl;have:=i.fresh id hl;simp only [AH.give];omega
variable {P:Program} {w:World} {enc:TypeId×Value->H} {spare:Nat->Bool}
def aYo (M:Mp) (w:World) (h:AH) (sh:Sh) (d:DataW H) (cs:List Value):Prop:=
 ∃ (M':Mp) (h':AH) (vs:List V),In M' w h'/\Gr M M' h h'/\Br M' h' vs cs/\DV h' sh d vs/\(∀ v∈vs,v.isCell=true)
def aYp (M:Mp) (w:World) (h:AH) (l:I8) (ds:List (DataW H)) (cs:List Value):Prop:=
 ∃ (M':Mp) (h':AH) (vs:List V),In M' w h'/\Gr M M' h h'/\Br M' h' vs cs/\iS h' l ds vs/\(∀ v∈vs,v.isCell=true)
theorem MY {e : Sh} (ih : ∀ (cs : List Value) (d : DataW H) (M : Mp) (h : AH), (∃ fuel t ps, ShT P t e /\ DataW.trod enc P w 0 spare true fuel t cs = some (d, ps)) -> In M w h -> Ot e d -> aYo M w h e d cs) :
    ∀ (l:List (List Value×DataW H)) (M:Mp) (h:AH),In M w h->(∀ q∈l,(∃ fuel t ps,ShT P t e/\DataW.trod enc P w 0 spare true fuel t q.1=some (q.2,ps))/\Ot e q.2) ->
     ∃ (M':Mp) (h':AH) (rows:List (List V)),In M' w h'/\Gr M M' h h'/\rows.length=l.length/\∀ (j:Nat) (q:List Value×DataW H) (r:List V),l[j]?=some q->rows[j]?=some r->Br M' h' r q.1/\DV h' e q.2 r/\(∀ v∈r,v.isCell=true)
 | [],M,h,hi,_=>⟨M,h,[],hi,Gr.refl M h,rfl,λj q r hq=>by simp at hq⟩
 | q::l,M,h,hi,hq=>by
  obtain ⟨M1,h1,vs,i1,g1,v1,d1,c1⟩:=ih q.1 q.2 M h (hq q (List.mem_cons_self ..)).1 hi (hq q (List.mem_cons_self ..)).2;obtain ⟨M2,h2,rows,i2,g2,l2,a2⟩:=MY ih l M1 h1 i1 (λx hx=>hq x (List.mem_cons_of_mem _ hx));refine ⟨M2,h2,vs::rows,i2,g1.trans g2,by simp [l2],λj x r hx hr=>?_⟩
  cases j with
  | zero=>
   simp at hx hr;subst hx;subst hr;exact ⟨v1.keep g2.keeps,d1.grow g2,c1⟩
  | succ j=>exact a2 j x r (by simpa using hx) (by simpa using hr)
def Al (P:Program) (w:World) (enc:TypeId×Value->H) (spare:Nat->Bool):I8->List (List Value×DataW H)->Prop
 | .nil,q=>q=[]
 | .cons x l,q=>∃ p q',q=p::q'/\(∃ fuel t ps,ShT P t x/\DataW.trod enc P w 0 spare true fuel t p.1=some (p.2,ps))/\Al P w enc spare l q'
theorem Mn {n : Nat} {cs : List Value} : ∀ (fs : List Field) (o : Nat) (l : I8) (xs : List (DataW H × List MemPlace)), ShF P fs o l -> xs.length = fs.length -> (∀ (i : Nat) (f : Field), fs[i]? = some f -> DataW.trod enc P w 0 spare true n f.type ((cs.drop f.offset).take (P.cellsOf f.type)) = xs[i]?) ->
    ∃ q,Al P w enc spare l q/\q.map (·.2)=xs.map (·.1)/\(q.map (·.1)).flatten=(cs.drop o).take l.size
 | [],o,_,xs,.nil _,hl,ha=>by
  have:xs=[]:=List.length_eq_zero_iff.1 hl;subst this;exact ⟨[],rfl,rfl,by simp [I8.size]⟩
 | f::fs,o,_,xs,.cons _ _ _ x l hf ht hc hr,hl,ha=>by
  match xs,hl,ha with
  | y::ys,hl,ha=>
   obtain ⟨q,q1,q2,q3⟩:=Mn (n:=n) (cs:=cs) fs (o+x.size) l ys hr (by simpa using hl) (λi g hg=>by simpa using ha (i+1) g (by simpa using hg));have h0:=ha 0 f rfl;simp only [List.getElem?_cons_zero] at h0;refine ⟨((cs.drop f.offset).take (P.cellsOf f.type),y.1)::q,⟨_,q,rfl,⟨n,f.type,y.2,ht,h0⟩,q1⟩,by simp [q2], ?_⟩;simp only [List.map_cons,List.flatten_cons,q3,hf,hc,I8.size];rw [<- List.drop_drop,List.take_add]
theorem OC {n : Nat} {e : TypeId} {x : Sh} {cs : List Value} (ht : ShT P e x) (hc : P.cellsOf e = x.size) : ∀ (m i : Nat) (xs : List (DataW H × List MemPlace)), xs.length = m -> (∀ j, j < m -> DataW.trod enc P w 0 spare true n e ((cs.drop ((i + j) * P.cellsOf e)).take (P.cellsOf e)) = xs[j]?) ->
    ∃ q,Al P w enc spare (I8.rep x m) q/\q.map (·.2)=xs.map (·.1)/\(q.map (·.1)).flatten=(cs.drop (i*x.size)).take (m*x.size)
 | 0,i,xs,hl,ha=>by
  have:xs=[]:=List.length_eq_zero_iff.1 hl;subst this;exact ⟨[],rfl,rfl,by simp⟩
 | m+1,i,xs,hl,ha=>by
  match xs,hl,ha with
  | y::ys,hl,ha=>
   obtain ⟨q,q1,q2,q3⟩:=OC ht hc m (i+1) ys (by simpa using hl) (λj hj=>by
    have:=ha (j+1) om;simp only [List.getElem?_cons_succ] at this;rw [<- this,show i+(j+1)=i+1+j by omega])
   have h0:=ha 0 om;simp only [List.getElem?_cons_zero,Nat.add_zero] at h0;refine ⟨((cs.drop (i*P.cellsOf e)).take (P.cellsOf e),y.1)::q,⟨_,q,rfl,⟨n,e,y.2,ht,h0⟩,q1⟩,by simp [q2], ?_⟩;simp only [List.map_cons,List.flatten_cons,q3,hc];rw [Nat.succ_mul,Nat.succ_mul,Nat.add_comm (m*x.size),List.take_add,List.drop_drop]
theorem Tw {n : Nat} {e t : TypeId} {fuel : Nat} {cs : List Value} {x : DataW H × List MemPlace} (ht : P.underlying t = some (.array n e)) (h : DataW.trod enc P w 0 spare true fuel t cs = some x) :
    ∃ (xs:List (DataW H×List MemPlace)) (m:Nat),x=(.agg (xs.map (·.1)),xs.flatMap (·.2))/\cs.length=P.cellsOf t/\xs.length=n/\∀ j,j<n->DataW.trod enc P w 0 spare true m e ((cs.drop (j*P.cellsOf e)).take (P.cellsOf e))=xs[j]?:=by
 cases fuel with
 | zero=>simp [DataW.trod] at h
 | succ m=>
  unfold DataW.trod at h;rw [ht] at h;split at h<;>simp_all;obtain ⟨hl,xs,hp,hd⟩:=h;exact ⟨xs,hd.symm,by simpa using mapM_some_length hp,m,λj hj=>by simpa using mapM_some_get hp j j (by simp [hj])⟩
theorem It {a:Addr} {n:Nat} (h:a.spot=none):a.add n=⟨a.block,a.off+n,none⟩:=by
 cases a;simp only at h;subst h;simp only [Addr.add];split<;>simp_all
theorem Vn {a:Addr} {n:Nat} (h:a.spot=none):(a.add n).spot=none:=by rw [It h]
mutual
theorem take (hpos:0<w.heap.size):∀ (sh:Sh) (cs:List Value) (d:DataW H) (M:Mp) (h:AH),(∃ fuel t ps,ShT P t sh/\DataW.trod enc P w 0 (λ_=>true) true fuel t cs=some (d,ps))->In M w h->Ot sh d->aYo M w h sh d cs
 | .b,cs,d,M,h,⟨fuel,t,ps,ht,hr⟩,hi,hs=>by
  cases ht with
  | b _ hu=>
   obtain ⟨x,rfl,he⟩:=DataW.trod_bool hu hr;cases he;exact ⟨M,h,[.b x],hi,Gr.refl M h,.cons _ _ _ _ (.b x) .nil,⟨x,rfl,rfl⟩,by simp [V.isCell]⟩
 | .i k,cs,d,M,h,⟨fuel,t,ps,ht,hr⟩,hi,hs=>by
  cases ht with
  | i _ _ hu=>
   obtain ⟨x,rfl,he,hw⟩:=DataW.trod_int hu hr;cases he;exact ⟨M,h,[.i k x],hi,Gr.refl M h,.cons _ _ _ _ (.i k x) .nil,⟨x,rfl,hw,rfl⟩,by simp [V.isCell]⟩
 | .s,cs,d,M,h,⟨fuel,t,ps,ht,hr⟩,hi,hs=>by
  cases ht with
  | s _ hu=>
   obtain ⟨x,rfl,he,hw⟩:=DataW.trod_string hu hr;cases he;exact ⟨M,h,[.s x],hi,Gr.refl M h,.cons _ _ _ _ (.s x) .nil,⟨x,rfl,hw,rfl⟩,by simp [V.isCell]⟩
 | .sl e,cs,d,M,h,⟨fuel,t,ps,ht,hr⟩,hi,hs=>by
  cases ht with
  | sl _ te _ hu hte hce hpe=>
   rcases DataW.trod_slice hu hr with ⟨rfl,he⟩ | ⟨a,len,cap,AM,rest,n,_,rfl,he,hb,hlc,hcm,hlen,hel,hsp,_⟩
   .cases he;exact ⟨M,h,[.ns],hi,Gr.refl M h,.cons _ _ _ _ .ns .nil,.inl ⟨rfl,rfl⟩,by simp [V.isCell]⟩
   .cases he;simp only [Ot] at hs;obtain ⟨hs1,hs2⟩:=hs _ _ rfl;have hs1':AM.length<Bc:=by simpa using hs1
    have cell:∀ j (y:DataW H×List MemPlace),AM[j]?=some y->∃ cs',w.cells? 0 (a.add (j*P.cellsOf te)) (P.cellsOf te)=some cs'/\DataW.trod enc P w 0 (λ_=>true) true n te cs'=some y:=by
     intro j y hy;have hj:j<len:=by rw [<- hlen];exact (List.getElem?_eq_some_iff.1 hy).1
     have:=hel j hj;rw [hy] at this;simpa [Option.bind_eq_some_iff] using this
    let q:List (List Value×DataW H):=(List.range AM.length).map λj=>((w.cells? 0 (a.add (j*P.cellsOf te)) (P.cellsOf te)).getD [],((AM[j]?).map (·.1)).getD (.nil))
    have hq:∀ j (y:DataW H×List MemPlace),AM[j]?=some y->∃ cs',w.cells? 0 (a.add (j*P.cellsOf te)) (P.cellsOf te)=some cs'/\DataW.trod enc P w 0 (λ_=>true) true n te cs'=some y/\q[j]?=some (cs',y.1):=by
     intro j y hy;obtain ⟨cs',h1,h2⟩:=cell j y hy;have hj:j<AM.length:=(List.getElem?_eq_some_iff.1 hy).1;refine ⟨cs',h1,h2, ?_⟩;simp only [q,List.getElem?_map,List.getElem?_range hj,Option.map_some,h1,hy,Option.getD_some]
    have hql:q.length=AM.length:=by simp [q]
    obtain ⟨M1,h1,rows,i1,g1,l1,a1⟩:=MY (e:=e) (λcs d M h hh hi hs=>take hpos e cs d M h hh hi hs) q M h hi (λz hz=>by
     obtain ⟨j,hj,hz⟩:=List.getElem_of_mem hz;have hj':j<AM.length:=by rw [<- hql];exact hj
     obtain ⟨cs',h1,h2,h3⟩:=hq j AM[j] (by simp [hj']);rw [List.getElem?_eq_getElem hj,hz] at h3;cases h3;exact ⟨⟨n,te,AM[j].2,hte,h2⟩,hs2 _ (List.mem_map.2 ⟨AM[j],List.getElem_mem _,rfl⟩)⟩)
    have first:∀ cs',w.cells? 0 (a.add 0) (P.cellsOf te)=some cs'->a.block<w.heap.size/\a.spot=none:=by
     intro cs' hcs;have h1:=World.cells?_block hcs om;obtain ⟨_,h2,h3⟩:=World.cells?_some hcs;have h4:=h3 0 om;rw [List.getElem?_eq_getElem om] at h4;have h5:=World.cell?_spot h4;simp only [Addr.add,if_true] at h1 h5;exact ⟨h1,h5⟩
    have hz:0<cap->a.block<w.heap.size/\a.spot=none:=by
     intro hcap
     by_cases h0:0<AM.length
     .obtain ⟨cs',h2,_,_⟩:=hq 0 AM[0] (by simp [h0]);exact first cs' (by simpa using h2)
     .have:=(hsp rfl).2 0 om;rw [List.getElem?_eq_getElem (by rw [(hsp rfl).1];omega)] at this;simp only [Option.bind_eq_some_iff] at this;obtain ⟨cs',h2,_⟩:=this;exact first cs' (by rw [show (len+0)*P.cellsOf te=0 by rw [show len+0=0 by omega];simp] at h2;exact h2)
    let m:MI:=⟨if 0<cap then a.block else 0,a.off,0,e.size,false⟩
    have hmb:m.b<w.heap.size:=by
     simp only [m];split
     .rename_i h0;exact (hz h0).1
     .exact hpos
    have hrow:∀ (el:Nat) (r:List V),rows[el]?=some r->∃ y cs',AM[el]?=some y/\q[el]?=some (cs',y.1)/\w.cells? 0 (a.add (el*P.cellsOf te)) (P.cellsOf te)=some cs':=by
     intro el r hr;have hel2:el<AM.length:=by rw [<- hql,<-l1];exact (List.getElem?_eq_some_iff.1 hr).1
     obtain ⟨cs',h2,h3,h4⟩:=hq el AM[el] (by simp [hel2]);exact ⟨AM[el],cs',by simp [hel2],h4,h2⟩
    have hcells:Df M1 h1 w m ⟨e.size,rows⟩:=by
     refine ⟨rfl,λel r hr=>?_⟩;obtain ⟨y,cs',hy,hqe,hcs⟩:=hrow el r hr;obtain ⟨hv,_,hcell⟩:=a1 el _ r hqe hr;obtain ⟨_,hcl,hcc⟩:=World.cells?_some hcs;have hlen2:=hv.length;have hel2:el<AM.length:=(List.getElem?_eq_some_iff.1 hy).1;have hz':=hz om;refine ⟨by rw [hlen2];simp only;omega,λj v hj=>⟨hcell v (List.mem_of_getElem? hj), ?_⟩⟩;obtain ⟨x,hx,hvx⟩:=hv.get j v hj;have hjl:j<P.cellsOf te:=by
      have:=(List.getElem?_eq_some_iff.1 hx).1;simp only at this;omega
     refine ⟨x, ?_,hvx⟩;have e1:=hcc j hjl;simp only at hx;rw [hx,It (Vn hz'.2),It hz'.2] at e1;rw [<- e1];simp only [m];rw [if_pos om,hce]
    have i2:=i1.give (m:=m) hmb rfl hcells;have g2:=Ui (M:=M1) (k:=⟨e.size,rows⟩) (m:=m) i1.fresh;refine ⟨_,_,[.sl h1.next 0 AM.length AM.length],i2,g1.trans g2,.cons _ _ _ _ ?_ .nil,.inr ⟨AM.map (·.1),rest.map (·.1),h1.next,rows,rfl,by simp,by simp [AH.give],by simp [AH.give],by simp [l1,hql],hs1,λj x r hx hr=>?_⟩,by simp [V.isCell]⟩
    .rw [hlen];refine .sl _ _ _ _ _ _ (by simp [AH.give]) om (λ_=>⟨m,by simp [Wk],λhc=>?_,om,λho=>by cases ho⟩);have:=hz hc;simp only [m];rw [if_pos hc];cases a;simp_all
    .obtain ⟨y,cs',hy,hqe,_⟩:=hrow j r hr;simp only [List.getElem?_map,hy,Option.map_some,Option.some.injEq] at hx;subst hx;exact (a1 j _ r hqe hr).2.1.grow g2
 | .agg l,cs,d,M,h,⟨fuel,t,ps,ht,hr⟩,hi,hs=>by
  cases ht with
  | agg _ fs _ hu hf hc=>
   obtain ⟨xs,n,_,he,hlen,hxl,hx⟩:=DataW.trod_struct hu hr;cases he;simp only [Ot] at hs;obtain ⟨q,q1,q2,q3⟩:=Mn (n:=n) (cs:=cs) fs.toList 0 l xs hf (by simpa using hxl) (λi f hf=>hx i f (by simpa using hf));obtain ⟨M',h',vs,i',g',v',d',c'⟩:=eR hpos l q M h q1 hi (by rw [q2];exact hs _ rfl);rw [q3,List.drop_zero,<-hc,<-hlen,List.take_length] at v';rw [q2] at d';exact ⟨M',h',vs,i',g',v',⟨_,rfl,d'⟩,c'⟩
  | arr _ e n x hu hte hce hct=>
   obtain ⟨xs,m,he,hlen,hxl,hx⟩:=Tw hu hr;cases he;simp only [Ot] at hs;obtain ⟨q,q1,q2,q3⟩:=OC (n:=m) (cs:=cs) hte hce n 0 xs hxl (λj hj=>by rw [Nat.zero_add];exact hx j hj);obtain ⟨M',h',vs,i',g',v',d',c'⟩:=eR hpos (I8.rep x n) q M h q1 hi (by rw [q2];exact hs _ rfl);rw [q3,Nat.zero_mul,List.drop_zero,<-hct,<-hlen,List.take_length] at v';rw [q2] at d';exact ⟨M',h',vs,i',g',v',⟨_,rfl,d'⟩,c'⟩
theorem eR (hpos:0<w.heap.size):∀ (l:I8) (q:List (List Value×DataW H)) (M:Mp) (h:AH),Al P w enc (λ_=>true) l q->In M w h->Rq l (q.map (·.2))->aYp M w h l (q.map (·.2)) (q.map (·.1)).flatten
 | .nil,q,M,h,ha,hi,hs=>by
  simp only [Al] at ha;subst ha;exact ⟨M,h,[],hi,Gr.refl M h,.nil,⟨rfl,rfl⟩,by simp⟩
 | .cons x l,q,M,h,ha,hi,hs=>by
  simp only [Al] at ha;obtain ⟨p,q',rfl,ht,ha⟩:=ha;simp only [Rq] at hs;obtain ⟨s1,s2⟩:=hs _ _ rfl;obtain ⟨M1,h1,vs,i1,g1,v1,d1,c1⟩:=take hpos x p.1 p.2 M h ht hi s1;obtain ⟨M2,h2,us,i2,g2,v2,d2,c2⟩:=eR hpos l q' M1 h1 ha i1 s2;refine ⟨M2,h2,vs++us,i2,g1.trans g2,by simpa using (v1.keep g2.keeps).append v2,⟨_,_,vs,us,rfl,rfl,d1.grow g2,d2⟩,λv hv=>?_⟩;rcases List.mem_append.1 hv with hv | hv
  .exact c1 v hv
  .exact c2 v hv
end
end
end Go.Ab
/- A law's row out of the abstract machine. -/
namespace Go.Ab
open Go Go.RowKit
theorem RF {P : Program} {tp : TP} {wr : Wr} (hT : aLf P wr tp) (hm : B3 P tp) (hx : P.follows .mixedOrders = true) {f : Nat} {args : List V} {h : AH} {M : Mp} {w : World} {xs : Array Value}
    (hi:In M w h) (ha:Br M h args xs.toList) (he:Ev tp f args h (λr _=>r=.b true)):Calls P f xs w λe w'=>e=.returned (.bool true)/\Below w.heap.size w w':=by
 obtain ⟨k,v,h',hev,rfl⟩:=he;refine ((Za hT hm hx k f args h _ h' hev).2 M w.heap.size w xs hi.sim ha).mono λe w' ⟨x,M',e1,hd⟩=>?_;subst e1;have hv:=hd.val;cases hv;exact ⟨rfl,hd.below⟩
theorem In.empty (w:World):In (λ_=>none) w ⟨λ_=>none,0,0⟩:=⟨λ_ _ _ hk=>(by cases hk),λ_ _ hm=>(by cases hm),λ_ hl=>absurd rfl hl,rfl⟩
def uQ (P:Program):Bool:=
 if P.globals.size=0 then decide (0<(begin P (λ_ _=>0) default).world.heap.size)
 else (((begin P (λ_ _=>0) default).world.heap[0]?).bind Obj.row?).isSome
theorem Tp {P:Program} {w:World} (hp:uQ P=true) (hs:w.ShapedOpen P):0<w.heap.size:=by
 unfold uQ at hp;split at hp
 .rename_i h0;simp only [decide_eq_true_eq] at hp;obtain ⟨o,_,ho,_⟩:=hs.2 0 om hp
  by_cases hz:0<w.heap.size
  .exact hz
  .rw [Array.getElem?_eq_none om] at ho;cases ho
 .rename_i h0
  cases hb:((begin P (λ_ _=>0) default).world.heap[0]?).bind Obj.row? with
  | none=>rw [hb] at hp;cases hp
  | some q=>
   obtain ⟨cs,hc,_⟩:=hs.1 0 q.1 q.2 om hb
   by_cases hz:0<w.heap.size
   .exact hz
   .rw [Array.getElem?_eq_none om] at hc;cases hc
section
variable {H:Type} {enc:TypeId×Value->H}
theorem O0 {a : Assume} {C : Checked} {os : Os} {f : FuncId} {fn : Func} {s : OpenSpec} {k : (H : Type) -> List (DataW H) -> Bool} (hk : s.cond = some k) {F : Stop.Interp} {conds : List PathCond} {apart fresh handsOn again : Bool}
    (own:ownKnob C.prog.godebug=none) (started:os.Started) (noInit:C.prog.inits.idxOf? f=none) (hfn:C.prog.funcs[f]?=some fn) (hpos:uQ C.prog=true)
    (witness:∃ (w:World) (tape:Tape) (i:Input),w.os=os/\(w.forCall tape i).Shaped C.prog/\i.vars=[]/\Input.okWide C.prog (w.forCall tape i) .any w.heap.size f i /\
     s.pre6 enc C.prog fn conds apart (w.forCall tape i).memory i.args/\a.holds C.prog (lone (Frame.enter C.prog f i.args .normal) [] (w.forCall tape i)))
    (contract:∀ (W:World) (base:Nat) (args:Array Value) (ds gs:List (DataW H)) (before:List MemPlace),0<W.heap.size ->
     (∀ (j:Nat) t v,fn.params[j]?=some t->args[j]?=some v->Value.okWide C.prog W .any base t v) ->
     DataW.Whole enc C.prog fn.params.toList s.vars apart W args.toList ds gs before->k H (ds++gs)=true ->
     Calls C.prog f args W λe W'=>∃ v,e=.returned v/\(s.at F).post enc C.prog fn apart fresh handsOn again W args v W'):
    ReturnsInHanded a C os f .any (s.pre6 enc C.prog fn conds apart) ((s.at F).post enc C.prog fn apart fresh handsOn again):=by
 refine returnsInHanded_of_calls own started noInit witness ?_;intro w tape i _ hshaped _ hok hpre _;obtain ⟨_,_,_,fn',hfn',_,_,_,_,hval⟩:=hok;obtain rfl:fn'=fn:=Option.some.inj (hfn'.symm.trans hfn);obtain ⟨ds,gs,before,hw,_,hkk⟩:=(OpenSpec.pre_some hk conds apart _ _).1 hpre.1;have hw':=DataW.Whole.of_heap (w':=w.forCall tape i) (by rfl) hw;refine (contract (w.forCall tape i) w.heap.size i.args ds gs before (Tp hpos hshaped) hval hw' hkk).mono λe W' ⟨v,he,hp⟩=>?_;subst he;exact ChangeSpec.post_blind hp
end
end Go.Ab
namespace Go.Ab.T
open Go Go.Ab
set_option maxHeartbeats 1000000
theorem Pf.ev {f:Nat} {args args1:List V} {h:AH} (pf:Pf tp f args (.b true)) (hl:h.lim<=h.next) (p:Bz (·<h.next) (λi=>i) h.get 0 args args1):Ev tp f args1 h (λr _=>r=.b true):=by
 refine (pf (·<h.next) (λi=>i) h args1 (CG.emp (λa ha=>ha) hl _) p).imp ?_;rintro r1 hc' ⟨r,h',S',m',c',a',q,rfl,rfl⟩;cases q;rfl
structure BK {H:Type} (bk:DataW H->Nat):Prop where
 sl:∀ AM spare,AM.length<=bk (.slice AM spare)
 el:∀ AM spare x,x∈AM->bk x<=bk (.slice AM spare)
 ag:∀ parts x,x∈parts->bk x<=bk (.agg parts)
 st:∀ l,l.length<=bk (.lit (.string l))
section
variable {H:Type} {bk:DataW H->Nat} {h:AH}
end
end Go.Ab.T
