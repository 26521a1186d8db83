/- Part of a proof that a law returns true for every input of the second form's bound (no other condition). -/
import Derived.JoinedCond
import Derived.ChangeArms
import Derived.WalkKit
import Derived.ProofKit
import Derived.OpenShut
import Derived.ShutString
import Derived.ChangeOld
import Derived.SizedLaws
import Derived.Test.YtlcknhidblndnaaGreatPC
import Derived.Test.YtlcknhidblndnaaGreatPD
import Derived.Test.YtlcknhidblndnaaGreatPH
set_option linter.all false
/- From a call's arguments, as the form reads them, to an abstract heap. -/
namespace Go.Ab
open Go Go.RowKit
/-! ### Shapes of arguments -/
mutual
inductive Sh where
 | b
 | i (k:IntKind)
 | s
 | sl (e:Sh)
 | agg (l:HI)
inductive HI where
 | nil
 | cons (x:Sh) (l:HI)
end
mutual
def Sh.size:Sh→Nat
 | .b | .i _ | .s | .sl _=>1
 | .agg l=>l.size
def HI.size:HI→Nat
 | .nil=>0
 | .cons x l=>x.size+l.size
end
def HI.rep (x:Sh):Nat→HI
 | 0=>.nil
 | n+1=>.cons x (HI.rep x n)
mutual
inductive ShT (P:Program):TypeId→Sh→Prop where
 | b (t:TypeId):P.underlying t=some .bool→ShT P t .b
 | i (t:TypeId) (k:IntKind):P.underlying t=some (.int k)→ShT P t (.i k)
 | s (t:TypeId):P.underlying t=some .string→ShT P t .s
 | sl (t e:TypeId) (x:Sh):P.underlying t=some (.slice e)→ShT P e x→P.cellsOf e=x.size→0<x.size→ShT P t (.sl x)
 | agg (t:TypeId) (fs:Array Field) (l:HI):P.underlying t=some (.struct fs)→ShF P fs.toList 0 l→P.cellsOf t=l.size→ShT P t (.agg l)
 | arr (t e:TypeId) (n:Nat) (x:Sh):P.underlying t=some (.array n e)→ShT P e x→P.cellsOf e=x.size→P.cellsOf t=n*x.size→ShT P t (.agg (HI.rep x n))
inductive ShF (P:Program):List Field→Nat→HI→Prop where
 | nil (o:Nat):ShF P [] o .nil
 | cons (f:Field) (fs:List Field) (o:Nat) (x:Sh) (l:HI):f.offset=o→ShT P f.type x→P.cellsOf f.type=x.size→ShF P fs (o+x.size) l→ShF P (f::fs) o (.cons x l)
end
section
variable {H:Type}
mutual
def DV (h:AH):Sh→DataW H→List V→Prop
 | .b,d,vs=>∃ x,d=.lit (.bool x)∧vs=[.b x]
 | .i k,d,vs=>∃ n,d=.lit (.int k n)∧(Lit.int k n).wf=true∧vs=[.i k n]
 | .s,d,vs=>∃ x:ByteArray,d=.lit (.string x.data.toList)∧x.size≤maxLen∧vs=[.s x]
 | .sl e,d,vs=>(d=.nil∧vs=[.ns])∨∃ (AC spare:List (DataW H)) (id:Nat) (rows:List (List V)),d=.slice AC spare∧vs=[.sl id 0 AC.length AC.length]∧h.get id=some ⟨e.size,rows⟩∧id<h.next∧rows.length=AC.length∧AC.length<A4∧∀ (j:Nat) (x:DataW H) (r:List V),AC[j]?=some x→rows[j]?=some r→DV h e x r
 | .agg l,d,vs=>∃ ds,d=.agg ds∧Zp h l ds vs
def Zp (h:AH):HI→List (DataW H)→List V→Prop
 | .nil,ds,vs=>ds=[]∧vs=[]
 | .cons x l,ds,vs=>∃ d ds' v1 v2,ds=d::ds'∧vs=v1++v2∧DV h x d v1∧Zp h l ds' v2
end
mutual
def OO:Sh→DataW H→Prop
 | .sl e,d=>∀ AC spare,d=.slice AC spare→AC.length<A4∧∀ x∈AC,OO e x
 | .agg l,d=>∀ ds,d=.agg ds→OZ l ds
 | .b,_ | .i _,_ | .s,_=>True
def OZ:HI→List (DataW H)→Prop
 | .nil,_=>True
 | .cons x l,ds=>∀ d ds',ds=d::ds'→OO x d∧OZ l ds'
end
structure Gr (M M':Mp) (h h':AH):Prop where
 keeps:Bm M M' h h'
 get:∀ id,id<h.next→h'.get id=h.get id
theorem Gr.refl (M:Mp) (h:AH):Gr M M h h:=⟨Bm.refl M h,fun _ _=>rfl⟩
theorem Gr.trans {M M1 M2:Mp} {h h1 h2:AH} (a:Gr M M1 h h1) (b:Gr M1 M2 h1 h2):Gr M M2 h h2:=
 ⟨a.keeps.trans b.keeps,fun id hi=>(b.get id (Nat.lt_of_lt_of_le hi a.keeps.next)).trans (a.get id hi)⟩
mutual
theorem DV.grow {M M':Mp} {h h':AH} (g:Gr M M' h h'):∀ (sh:Sh) (d:DataW H) (vs:List V),DV h sh d vs→DV h' sh d vs
 | .b,d,vs,k=>by simp only [DV] at k ⊢;exact k
 | .i _,d,vs,k=>by simp only [DV] at k ⊢;exact k
 | .s,d,vs,k=>by simp only [DV] at k ⊢;exact k
 | .sl e,d,vs,k=>by
  simp only [DV] at k ⊢
  rcases k with k | ⟨AC,spare,id,rows,a,b,c,d,e1,f,g1⟩
  ·exact .inl k
  ·exact .inr ⟨AC,spare,id,rows,a,b,(g.get id d).trans c,Nat.lt_of_lt_of_le d g.keeps.next,e1,f,fun j x r hx hr=>DV.grow g e x r (g1 j x r hx hr)⟩
 | .agg l,d,vs,k=>by
  simp only [DV] at k ⊢
  obtain ⟨ds,a,b⟩:=k
  exact ⟨ds,a,Zp.grow g l ds vs b⟩
theorem Zp.grow {M M':Mp} {h h':AH} (g:Gr M M' h h'):∀ (l:HI) (ds:List (DataW H)) (vs:List V),Zp h l ds vs→Zp h' l ds vs
 | .nil,ds,vs,k=>by simp only [Zp] at k ⊢;exact k
 | .cons x l,ds,vs,k=>by
  simp only [Zp] at k ⊢
  obtain ⟨d,ds',v1,v2,a,b,c,e⟩:=k
  exact ⟨d,ds',v1,v2,a,b,DV.grow g x d v1 c,Zp.grow g l ds' v2 e⟩
end
structure In (M:Mp) (w:World) (h:AH):Prop where
 cells:∀ id k m,h.get id=some k→M id=some m→m.b<w.heap.size∧CD M h w m k
 own:∀ id m,M id=some m→m.own=false
 fresh:∀ id,h.live id→id<h.next
 lim:h.lim=h.next
theorem In.sim {M:Mp} {w:World} {h:AH} (i:In M w h):CC M w.heap.size w h:=by
 refine ⟨i.cells,fun id m hl hm ho=>?_,fun id m hl hm hli=>?_,fun id id' m m' _ _ hm _ _ ho=>?_,i.fresh,by rw [i.lim];exact Nat.le_refl _,Nat.le_refl _⟩
 ·rw [i.own id m hm] at ho;cases ho
 ·have:=i.fresh id hl;have:=i.lim;omega
 ·rw [i.own id m hm] at ho;cases ho
def AH.give (h:AH) (k:BA):AH:={ get:=fun j=>if j=h.next then some k else h.get j,next:=h.next+1,lim:=h.next+1 }
def S8 (M:Mp) (id:Nat) (m:MI):Mp:=fun j=>if j=id then some m else M j
theorem Q0 {M:Mp} {h:AH} {k:BA} {m:MI} (hf:∀ id,h.live id→id<h.next):Gr M (S8 M h.next m) h (h.give k):=by
 refine ⟨⟨by simp [AH.give],fun id hi hl=>?_,fun id hi hl=>?_⟩,fun id hi=>?_⟩
 ·have:(h.give k).get id=h.get id:=by simp only [AH.give];rw [if_neg (by omega)]
  rw [AH.live,this] at hl;exact hl
 ·simp only [S8];rw [if_neg (by omega)]
 ·simp only [AH.give];rw [if_neg (by omega)]
theorem In.give {M:Mp} {w:World} {h:AH} {k:BA} {m:MI} (i:In M w h) (hb:m.b<w.heap.size) (ho:m.own=false) (hc:CD M h w m k):In (S8 M h.next m) w (h.give k):=by
 have g:=Q0 (M:=M) (k:=k) (m:=m) i.fresh
 refine ⟨fun id k' m' hk hm=>?_,fun id m' hm=>?_,fun id hl=>?_,rfl⟩
 ·simp only [AH.give,S8] at hk hm
  by_cases hid:id=h.next
  ·rw [if_pos hid] at hk hm
   cases hk;cases hm
   exact ⟨hb,CD.keep g.keeps rfl hc⟩
  ·rw [if_neg hid] at hk hm
   exact ⟨(i.cells id k' m' hk hm).1,CD.keep g.keeps rfl (i.cells id k' m' hk hm).2⟩
 ·simp only [S8] at hm
  split at hm
  ·cases hm;exact ho
  ·exact i.own id m' hm
 ·by_cases hid:id=h.next
  ·subst hid;simp [AH.give]
  ·have:(h.give k).get id=h.get id:=by simp only [AH.give];rw [if_neg hid]
   rw [AH.live,this] at hl
   have:=i.fresh id hl
   simp only [AH.give];omega
variable {P:Program} {w:World} {enc:TypeId×Value→H} {spare:Nat→Bool}
def aPe (M:Mp) (w:World) (h:AH) (sh:Sh) (d:DataW H) (cs:List Value):Prop:=
 ∃ (M':Mp) (h':AH) (vs:List V),In M' w h'∧Gr M M' h h'∧Bg M' h' vs cs∧DV h' sh d vs∧(∀ v∈vs,v.isCell=true)
def aPf (M:Mp) (w:World) (h:AH) (l:HI) (ds:List (DataW H)) (cs:List Value):Prop:=
 ∃ (M':Mp) (h':AH) (vs:List V),In M' w h'∧Gr M M' h h'∧Bg M' h' vs cs∧Zp h' l ds vs∧(∀ v∈vs,v.isCell=true)
theorem K6 {e : Sh} (ih : ∀ (cs : List Value) (d : DataW H) (M : Mp) (h : AH), (∃ fuel t ps, ShT P t e ∧ DataW.trod enc P w 0 spare true fuel t cs = some (d, ps)) → In M w h → OO e d → aPe M w h e d cs) :
    ∀ (l:List (List Value×DataW H)) (M:Mp) (h:AH),In M w h→(∀ q∈l,(∃ fuel t ps,ShT P t e∧DataW.trod enc P w 0 spare true fuel t q.1=some (q.2,ps))∧OO e q.2) →
     ∃ (M':Mp) (h':AH) (rows:List (List V)),In M' w h'∧Gr M M' h h'∧rows.length=l.length∧∀ (j:Nat) (q:List Value×DataW H) (r:List V),l[j]?=some q→rows[j]?=some r→Bg M' h' r q.1∧DV h' e q.2 r∧(∀ v∈r,v.isCell=true)
 | [],M,h,hi,_=>⟨M,h,[],hi,Gr.refl M h,rfl,fun j q r hq=>by simp at hq⟩
 | q::l,M,h,hi,hq=>by
  obtain ⟨M1,h1,vs,i1,g1,v1,d1,c1⟩:=ih q.1 q.2 M h (hq q (List.mem_cons_self ..)).1 hi (hq q (List.mem_cons_self ..)).2
  obtain ⟨M2,h2,rows,i2,g2,l2,a2⟩:=K6 ih l M1 h1 i1 (fun x hx=>hq x (List.mem_cons_of_mem _ hx))
  refine ⟨M2,h2,vs::rows,i2,g1.trans g2,by simp [l2],fun j x r hx hr=>?_⟩
  cases j with
  | zero=>
   simp at hx hr;subst hx;subst hr
   exact ⟨v1.keep g2.keeps,d1.grow g2,c1⟩
  | succ j=>exact a2 j x r (by simpa using hx) (by simpa using hr)
def Al (P:Program) (w:World) (enc:TypeId×Value→H) (spare:Nat→Bool):HI→List (List Value×DataW H)→Prop
 | .nil,q=>q=[]
 | .cons x l,q=>∃ p q',q=p::q'∧(∃ fuel t ps,ShT P t x∧DataW.trod enc P w 0 spare true fuel t p.1=some (p.2,ps))∧Al P w enc spare l q'
theorem Ky {n : Nat} {cs : List Value} : ∀ (fs : List Field) (o : Nat) (l : HI) (xs : List (DataW H × List MemPlace)), ShF P fs o l → xs.length = fs.length → (∀ (i : Nat) (f : Field), fs[i]? = some f → DataW.trod enc P w 0 spare true n f.type ((cs.drop f.offset).take (P.cellsOf f.type)) = xs[i]?) →
    ∃ q,Al P w enc spare l q∧q.map (·.2)=xs.map (·.1)∧(q.map (·.1)).flatten=(cs.drop o).take l.size
 | [],o,_,xs,.nil _,hl,ha=>by
  have:xs=[]:=List.length_eq_zero_iff.1 hl
  subst this
  exact ⟨[],rfl,rfl,by simp [HI.size]⟩
 | f::fs,o,_,xs,.cons _ _ _ x l hf ht hc hr,hl,ha=>by
  match xs,hl,ha with
  | y::ys,hl,ha=>
   obtain ⟨q,q1,q2,q3⟩:=Ky (n:=n) (cs:=cs) fs (o+x.size) l ys hr (by simpa using hl) (fun i g hg=>by simpa using ha (i+1) g (by simpa using hg))
   have h0:=ha 0 f rfl
   simp only [List.getElem?_cons_zero] at h0
   refine ⟨((cs.drop f.offset).take (P.cellsOf f.type),y.1)::q,⟨_,q,rfl,⟨n,f.type,y.2,ht,h0⟩,q1⟩,by simp [q2], ?_⟩
   simp only [List.map_cons,List.flatten_cons,q3,hf,hc,HI.size]
   rw [← List.drop_drop,List.take_add]
theorem Md {n : Nat} {e : TypeId} {x : Sh} {cs : List Value} (ht : ShT P e x) (hc : P.cellsOf e = x.size) : ∀ (m i : Nat) (xs : List (DataW H × List MemPlace)), xs.length = m → (∀ j, j < m → DataW.trod enc P w 0 spare true n e ((cs.drop ((i + j) * P.cellsOf e)).take (P.cellsOf e)) = xs[j]?) →
    ∃ q,Al P w enc spare (HI.rep x m) q∧q.map (·.2)=xs.map (·.1)∧(q.map (·.1)).flatten=(cs.drop (i*x.size)).take (m*x.size)
 | 0,i,xs,hl,ha=>by
  have:xs=[]:=List.length_eq_zero_iff.1 hl
  subst this
  exact ⟨[],rfl,rfl,by simp⟩
 | m+1,i,xs,hl,ha=>by
  match xs,hl,ha with
  | y::ys,hl,ha=>
   obtain ⟨q,q1,q2,q3⟩:=Md ht hc m (i+1) ys (by simpa using hl) (fun j hj=>by
    have:=ha (j+1) (by omega)
    simp only [List.getElem?_cons_succ] at this
    rw [← this,show i+(j+1)=i+1+j by omega])
   have h0:=ha 0 (by omega)
   simp only [List.getElem?_cons_zero,Nat.add_zero] at h0
   refine ⟨((cs.drop (i*P.cellsOf e)).take (P.cellsOf e),y.1)::q,⟨_,q,rfl,⟨n,e,y.2,ht,h0⟩,q1⟩,by simp [q2], ?_⟩
   simp only [List.map_cons,List.flatten_cons,q3,hc]
   rw [Nat.succ_mul,Nat.succ_mul,Nat.add_comm (m*x.size),List.take_add,List.drop_drop]
theorem QC {n : Nat} {e t : TypeId} {fuel : Nat} {cs : List Value} {x : DataW H × List MemPlace} (ht : P.underlying t = some (.array n e)) (h : DataW.trod enc P w 0 spare true fuel t cs = some x) :
    ∃ (xs:List (DataW H×List MemPlace)) (m:Nat),x=(.agg (xs.map (·.1)),xs.flatMap (·.2))∧cs.length=P.cellsOf t∧xs.length=n∧∀ j,j<n→DataW.trod enc P w 0 spare true m e ((cs.drop (j*P.cellsOf e)).take (P.cellsOf e))=xs[j]?:=by
 cases fuel with
 | zero=>simp [DataW.trod] at h
 | succ m=>
  unfold DataW.trod at h
  rw [ht] at h
  split at h<;>simp_all
  obtain ⟨hl,xs,hp,hd⟩:=h
  exact ⟨xs,hd.symm,by simpa using mapM_some_length hp,m,fun j hj=>by simpa using mapM_some_get hp j j (by simp [hj])⟩
theorem Hg {a:Addr} {n:Nat} (h:a.spot=none):a.add n=⟨a.block,a.off+n,none⟩:=by
 cases a
 simp only at h
 subst h
 simp only [Addr.add]
 split<;>simp_all
theorem R8 {a:Addr} {n:Nat} (h:a.spot=none):(a.add n).spot=none:=by rw [Hg h]
mutual
theorem take (hpos:0<w.heap.size):∀ (sh:Sh) (cs:List Value) (d:DataW H) (M:Mp) (h:AH),(∃ fuel t ps,ShT P t sh∧DataW.trod enc P w 0 (fun _=>true) true fuel t cs=some (d,ps))→In M w h→OO sh d→aPe M w h sh d cs
 | .b,cs,d,M,h,⟨fuel,t,ps,ht,hr⟩,hi,hs=>by
  cases ht with
  | b _ hu=>
   obtain ⟨x,rfl,he⟩:=DataW.trod_bool hu hr
   cases he
   exact ⟨M,h,[.b x],hi,Gr.refl M h,.cons _ _ _ _ (.b x) .nil,⟨x,rfl,rfl⟩,by simp [V.isCell]⟩
 | .i k,cs,d,M,h,⟨fuel,t,ps,ht,hr⟩,hi,hs=>by
  cases ht with
  | i _ _ hu=>
   obtain ⟨x,rfl,he,hw⟩:=DataW.trod_int hu hr
   cases he
   exact ⟨M,h,[.i k x],hi,Gr.refl M h,.cons _ _ _ _ (.i k x) .nil,⟨x,rfl,hw,rfl⟩,by simp [V.isCell]⟩
 | .s,cs,d,M,h,⟨fuel,t,ps,ht,hr⟩,hi,hs=>by
  cases ht with
  | s _ hu=>
   obtain ⟨x,rfl,he,hw⟩:=DataW.trod_string hu hr
   cases he
   exact ⟨M,h,[.s x],hi,Gr.refl M h,.cons _ _ _ _ (.s x) .nil,⟨x,rfl,hw,rfl⟩,by simp [V.isCell]⟩
 | .sl e,cs,d,M,h,⟨fuel,t,ps,ht,hr⟩,hi,hs=>by
  cases ht with
  | sl _ te _ hu hte hce hpe=>
   rcases DataW.trod_slice hu hr with ⟨rfl,he⟩ | ⟨a,len,cap,AC,rest,n,_,rfl,he,hb,hlc,hcm,hlen,hel,hsp,_⟩
   ·cases he
    exact ⟨M,h,[.ns],hi,Gr.refl M h,.cons _ _ _ _ .ns .nil,.inl ⟨rfl,rfl⟩,by simp [V.isCell]⟩
   ·cases he
    simp only [OO] at hs
    obtain ⟨hs1,hs2⟩:=hs _ _ rfl
    have hs1':AC.length<A4:=by simpa using hs1
    have cell:∀ j (y:DataW H×List MemPlace),AC[j]?=some y→∃ cs',w.cells? 0 (a.add (j*P.cellsOf te)) (P.cellsOf te)=some cs'∧DataW.trod enc P w 0 (fun _=>true) true n te cs'=some y:=by
     intro j y hy
     have hj:j<len:=by rw [← hlen];exact (List.getElem?_eq_some_iff.1 hy).1
     have:=hel j hj
     rw [hy] at this
     simpa [Option.bind_eq_some_iff] using this
    let q:List (List Value×DataW H):=(List.range AC.length).map fun j=>((w.cells? 0 (a.add (j*P.cellsOf te)) (P.cellsOf te)).getD [],((AC[j]?).map (·.1)).getD (.nil))
    have hq:∀ j (y:DataW H×List MemPlace),AC[j]?=some y→∃ cs',w.cells? 0 (a.add (j*P.cellsOf te)) (P.cellsOf te)=some cs'∧DataW.trod enc P w 0 (fun _=>true) true n te cs'=some y∧q[j]?=some (cs',y.1):=by
     intro j y hy
     obtain ⟨cs',h1,h2⟩:=cell j y hy
     have hj:j<AC.length:=(List.getElem?_eq_some_iff.1 hy).1
     refine ⟨cs',h1,h2, ?_⟩
     simp only [q,List.getElem?_map,List.getElem?_range hj,Option.map_some,h1,hy,Option.getD_some]
    have hql:q.length=AC.length:=by simp [q]
    obtain ⟨M1,h1,rows,i1,g1,l1,a1⟩:=K6 (e:=e) (fun cs d M h hh hi hs=>take hpos e cs d M h hh hi hs) q M h hi (fun z hz=>by
     obtain ⟨j,hj,hz⟩:=List.getElem_of_mem hz
     have hj':j<AC.length:=by rw [← hql];exact hj
     obtain ⟨cs',h1,h2,h3⟩:=hq j AC[j] (by simp [hj'])
     rw [List.getElem?_eq_getElem hj,hz] at h3
     cases h3
     exact ⟨⟨n,te,AC[j].2,hte,h2⟩,hs2 _ (List.mem_map.2 ⟨AC[j],List.getElem_mem _,rfl⟩)⟩)
    have first:∀ cs',w.cells? 0 (a.add 0) (P.cellsOf te)=some cs'→a.block<w.heap.size∧a.spot=none:=by
     intro cs' hcs
     have h1:=World.cells?_block hcs (by omega)
     obtain ⟨_,h2,h3⟩:=World.cells?_some hcs
     have h4:=h3 0 (by omega)
     rw [List.getElem?_eq_getElem (by omega)] at h4
     have h5:=World.cell?_spot h4
     simp only [Addr.add,if_true] at h1 h5
     exact ⟨h1,h5⟩
    have hz:0<cap→a.block<w.heap.size∧a.spot=none:=by
     intro hcap
     by_cases h0:0<AC.length
     ·obtain ⟨cs',h2,_,_⟩:=hq 0 AC[0] (by simp [h0])
      exact first cs' (by simpa using h2)
     ·have:=(hsp rfl).2 0 (by omega)
      rw [List.getElem?_eq_getElem (by rw [(hsp rfl).1];omega)] at this
      simp only [Option.bind_eq_some_iff] at this
      obtain ⟨cs',h2,_⟩:=this
      exact first cs' (by rw [show (len+0)*P.cellsOf te=0 by rw [show len+0=0 by omega];simp] at h2;exact h2)
    let m:MI:=⟨if 0<cap then a.block else 0,a.off,0,e.size,false⟩
    have hmb:m.b<w.heap.size:=by
     simp only [m]
     split
     ·rename_i h0;exact (hz h0).1
     ·exact hpos
    have hrow:∀ (el:Nat) (r:List V),rows[el]?=some r→∃ y cs',AC[el]?=some y∧q[el]?=some (cs',y.1)∧w.cells? 0 (a.add (el*P.cellsOf te)) (P.cellsOf te)=some cs':=by
     intro el r hr
     have hel2:el<AC.length:=by rw [← hql,←l1];exact (List.getElem?_eq_some_iff.1 hr).1
     obtain ⟨cs',h2,h3,h4⟩:=hq el AC[el] (by simp [hel2])
     exact ⟨AC[el],cs',by simp [hel2],h4,h2⟩
    have hcells:CD M1 h1 w m ⟨e.size,rows⟩:=by
     refine ⟨rfl,fun el r hr=>?_⟩
     obtain ⟨y,cs',hy,hqe,hcs⟩:=hrow el r hr
     obtain ⟨hv,_,hcell⟩:=a1 el _ r hqe hr
     obtain ⟨_,hcl,hcc⟩:=World.cells?_some hcs
     have hlen2:=hv.length
     have hel2:el<AC.length:=(List.getElem?_eq_some_iff.1 hy).1
     have hz':=hz (by omega)
     refine ⟨by rw [hlen2];simp only;omega,fun j v hj=>⟨hcell v (List.mem_of_getElem? hj), ?_⟩⟩
     obtain ⟨x,hx,hvx⟩:=hv.get j v hj
     have hjl:j<P.cellsOf te:=by
      have:=(List.getElem?_eq_some_iff.1 hx).1
      simp only at this;omega
     refine ⟨x, ?_,hvx⟩
     have e1:=hcc j hjl
     simp only at hx
     rw [hx,Hg (R8 hz'.2),Hg hz'.2] at e1
     rw [← e1]
     simp only [m]
     rw [if_pos (by omega),hce]
    have i2:=i1.give (m:=m) hmb rfl hcells
    have g2:=Q0 (M:=M1) (k:=⟨e.size,rows⟩) (m:=m) i1.fresh
    refine ⟨_,_,[.sl h1.next 0 AC.length AC.length],i2,g1.trans g2,.cons _ _ _ _ ?_ .nil,.inr ⟨AC.map (·.1),rest.map (·.1),h1.next,rows,rfl,by simp,by simp [AH.give],by simp [AH.give],by simp [l1,hql],hs1,fun j x r hx hr=>?_⟩,by simp [V.isCell]⟩
    ·rw [hlen]
     refine .sl _ _ _ _ _ _ (by simp [AH.give]) (by omega) (fun _=>⟨m,by simp [S8],fun hc=>?_,by omega,fun ho=>by cases ho⟩)
     have:=hz hc
     simp only [m]
     rw [if_pos hc]
     cases a;simp_all
    ·obtain ⟨y,cs',hy,hqe,_⟩:=hrow j r hr
     simp only [List.getElem?_map,hy,Option.map_some,Option.some.injEq] at hx
     subst hx
     exact (a1 j _ r hqe hr).2.1.grow g2
 | .agg l,cs,d,M,h,⟨fuel,t,ps,ht,hr⟩,hi,hs=>by
  cases ht with
  | agg _ fs _ hu hf hc=>
   obtain ⟨xs,n,_,he,hlen,hxl,hx⟩:=DataW.trod_struct hu hr
   cases he
   simp only [OO] at hs
   obtain ⟨q,q1,q2,q3⟩:=Ky (n:=n) (cs:=cs) fs.toList 0 l xs hf (by simpa using hxl) (fun i f hf=>hx i f (by simpa using hf))
   obtain ⟨M',h',vs,i',g',v',d',c'⟩:=YG hpos l q M h q1 hi (by rw [q2];exact hs _ rfl)
   rw [q3,List.drop_zero,←hc,←hlen,List.take_length] at v'
   rw [q2] at d'
   exact ⟨M',h',vs,i',g',v',⟨_,rfl,d'⟩,c'⟩
  | arr _ e n x hu hte hce hct=>
   obtain ⟨xs,m,he,hlen,hxl,hx⟩:=QC hu hr
   cases he
   simp only [OO] at hs
   obtain ⟨q,q1,q2,q3⟩:=Md (n:=m) (cs:=cs) hte hce n 0 xs hxl (fun j hj=>by rw [Nat.zero_add];exact hx j hj)
   obtain ⟨M',h',vs,i',g',v',d',c'⟩:=YG hpos (HI.rep x n) q M h q1 hi (by rw [q2];exact hs _ rfl)
   rw [q3,Nat.zero_mul,List.drop_zero,←hct,←hlen,List.take_length] at v'
   rw [q2] at d'
   exact ⟨M',h',vs,i',g',v',⟨_,rfl,d'⟩,c'⟩
theorem YG (hpos:0<w.heap.size):∀ (l:HI) (q:List (List Value×DataW H)) (M:Mp) (h:AH),Al P w enc (fun _=>true) l q→In M w h→OZ l (q.map (·.2))→aPf M w h l (q.map (·.2)) (q.map (·.1)).flatten
 | .nil,q,M,h,ha,hi,hs=>by
  simp only [Al] at ha;subst ha
  exact ⟨M,h,[],hi,Gr.refl M h,.nil,⟨rfl,rfl⟩,by simp⟩
 | .cons x l,q,M,h,ha,hi,hs=>by
  simp only [Al] at ha
  obtain ⟨p,q',rfl,ht,ha⟩:=ha
  simp only [OZ] at hs
  obtain ⟨s1,s2⟩:=hs _ _ rfl
  obtain ⟨M1,h1,vs,i1,g1,v1,d1,c1⟩:=take hpos x p.1 p.2 M h ht hi s1
  obtain ⟨M2,h2,us,i2,g2,v2,d2,c2⟩:=YG hpos l q' M1 h1 ha i1 s2
  refine ⟨M2,h2,vs++us,i2,g1.trans g2,by simpa using (v1.keep g2.keeps).append v2,⟨_,_,vs,us,rfl,rfl,d1.grow g2,d2⟩,fun v hv=>?_⟩
  rcases List.mem_append.1 hv with hv | hv
  ·exact c1 v hv
  ·exact c2 v hv
end
end
end Go.Ab
/- A law's row out of the abstract machine. -/
namespace Go.Ab
open Go Go.RowKit
theorem O9 {P : Program} {tp : TP} {wr : Wr} (hT : aB0 P wr tp) (hm : BG P tp) (hx : P.follows .mixedOrders = true) {f : Nat} {args : List V} {h : AH} {M : Mp} {w : World} {xs : Array Value}
    (hi:In M w h) (ha:Bg M h args xs.toList) (he:Ev tp f args h (fun r _=>r=.b true)):Calls P f xs w fun e w'=>e=.returned (.bool true)∧Below w.heap.size w w':=by
 obtain ⟨k,v,h',hev,rfl⟩:=he
 refine ((VK hT hm hx k f args h _ h' hev).2 M w.heap.size w xs hi.sim ha).mono fun e w' ⟨x,M',e1,hd⟩=>?_
 subst e1
 have hv:=hd.val
 cases hv
 exact ⟨rfl,hd.below⟩
theorem In.empty (w:World):In (fun _=>none) w ⟨fun _=>none,0,0⟩:=⟨fun _ _ _ hk=>(by cases hk),fun _ _ hm=>(by cases hm),fun _ hl=>absurd rfl hl,rfl⟩
def iC (P:Program):Bool:=
 if P.globals.size=0 then decide (0<(begin P (fun _ _=>0) default).world.heap.size)
 else (((begin P (fun _ _=>0) default).world.heap[0]?).bind Obj.row?).isSome
theorem Qw {P:Program} {w:World} (hp:iC P=true) (hs:w.ShapedOpen P):0<w.heap.size:=by
 unfold iC at hp
 split at hp
 ·rename_i h0
  simp only [decide_eq_true_eq] at hp
  obtain ⟨o,_,ho,_⟩:=hs.2 0 (by omega) hp
  by_cases hz:0<w.heap.size
  ·exact hz
  ·rw [Array.getElem?_eq_none (by omega)] at ho;cases ho
 ·rename_i h0
  cases hb:((begin P (fun _ _=>0) default).world.heap[0]?).bind Obj.row? with
  | none=>rw [hb] at hp;cases hp
  | some q=>
   obtain ⟨cs,hc,_⟩:=hs.1 0 q.1 q.2 (by omega) hb
   by_cases hz:0<w.heap.size
   ·exact hz
   ·rw [Array.getElem?_eq_none (by omega)] at hc;cases hc
theorem aQa {n:Int} (h:(Lit.int .u8 n).wf=true):0≤n∧n≤255:=by
 simpa [Lit.wf,IntKind.min,IntKind.max,IntKind.signed,IntKind.bits] using h
def iT (K:TypeId→Option Sh) (P:Program):List Field→Nat→Option HI
 | [],_=>some .nil
 | f::fs,o=>(K f.type).bind fun x=>if f.offset=o∧P.cellsOf f.type=x.size then (iT K P fs (o+x.size)).map fun l=>.cons x l else none
def shB (P:Program):Nat→TypeId→Option Sh
 | 0,_=>none
 | n+1,t=>
  match P.underlying t with
  | some .bool=>some .b
  | some (.int k)=>some (.i k)
  | some .string=>some .s
  | some (.slice e)=>(shB P n e).bind fun x=>if P.cellsOf e=x.size∧0<x.size then some (.sl x) else none
  | some (.struct fs)=>(iT (shB P n) P fs.toList 0).bind fun l=>if P.cellsOf t=l.size then some (.agg l) else none
  | some (.array m e)=>(shB P n e).bind fun x=>if P.cellsOf e=x.size∧P.cellsOf t=m*x.size then some (.agg (HI.rep x m)) else none
  | _=>none
theorem RI {K:TypeId→Option Sh} {P:Program} (hK:∀ t x,K t=some x→ShT P t x):∀ (fs:List Field) (o:Nat) (l:HI),iT K P fs o=some l→ShF P fs o l
 | [],o,l,h=>by cases h;exact .nil o
 | f::fs,o,l,h=>by
  simp only [iT,Option.bind_eq_some_iff] at h
  obtain ⟨x,hx,h⟩:=h
  split at h
  ·rename_i hh
   simp only [Option.map_eq_some_iff] at h
   obtain ⟨l',hl,rfl⟩:=h
   exact .cons f fs o x l' hh.1 (hK _ _ hx) hh.2 (RI hK fs _ l' hl)
  ·cases h
theorem Jz {P:Program}:∀ (n:Nat) (t:TypeId) (x:Sh),shB P n t=some x→ShT P t x
 | 0,t,x,h=>by cases h
 | n+1,t,x,h=>by
  unfold shB at h
  split at h
  ·rename_i hu;cases h;exact .b t hu
  ·rename_i k hu;cases h;exact .i t k hu
  ·rename_i hu;cases h;exact .s t hu
  ·rename_i e hu
   simp only [Option.bind_eq_some_iff] at h
   obtain ⟨y,hy,h⟩:=h
   split at h
   ·rename_i hh;cases h;exact .sl t e y hu (Jz n e y hy) hh.1 hh.2
   ·cases h
  ·rename_i fs hu
   simp only [Option.bind_eq_some_iff] at h
   obtain ⟨l,hl,h⟩:=h
   split at h
   ·rename_i hh;cases h;exact .agg t fs l hu (RI (Jz n) _ _ _ hl) hh
   ·cases h
  ·rename_i m e hu
   simp only [Option.bind_eq_some_iff] at h
   obtain ⟨y,hy,h⟩:=h
   split at h
   ·rename_i hh;cases h;exact .arr t e m y hu (Jz n e y hy) hh.1 hh.2
   ·cases h
  ·cases h
section
variable {H:Type} {enc:TypeId×Value→H}
theorem My {a : Assume} {C : Checked} {os : Os} {f : FuncId} {fn : Func} {s : OpenSpec} {k : (H : Type) → List (DataW H) → Bool} (hk : s.cond = some k) {F : Stop.Interp} {conds : List PathCond} {apart fresh handsOn again : Bool}
    (own:ownKnob C.prog.godebug=none) (started:os.Started) (noInit:C.prog.inits.idxOf? f=none) (hfn:C.prog.funcs[f]?=some fn) (hpos:iC C.prog=true)
    (witness:∃ (w:World) (tape:Tape) (i:Input),w.os=os∧(w.forCall tape i).Shaped C.prog∧i.vars=[]∧Input.okWide C.prog (w.forCall tape i) .any w.heap.size f i ∧
     s.pre6 enc C.prog fn conds apart (w.forCall tape i).memory i.args∧a.holds C.prog (lone (Frame.enter C.prog f i.args .normal) [] (w.forCall tape i)))
    (contract:∀ (W:World) (base:Nat) (args:Array Value) (ds gs:List (DataW H)) (before:List MemPlace),0<W.heap.size →
     (∀ (j:Nat) t v,fn.params[j]?=some t→args[j]?=some v→Value.okWide C.prog W .any base t v) →
     DataW.Whole enc C.prog fn.params.toList s.vars apart W args.toList ds gs before→k H (ds++gs)=true →
     Calls C.prog f args W fun e W'=>∃ v,e=.returned v∧(s.at F).post enc C.prog fn apart fresh handsOn again W args v W'):
    ReturnsInHanded a C os f .any (s.pre6 enc C.prog fn conds apart) ((s.at F).post enc C.prog fn apart fresh handsOn again):=by
 refine returnsInHanded_of_calls own started noInit witness ?_
 intro w tape i _ hshaped _ hok hpre _
 obtain ⟨_,_,_,fn',hfn',_,_,_,_,hval⟩:=hok
 obtain rfl:fn'=fn:=Option.some.inj (hfn'.symm.trans hfn)
 obtain ⟨ds,gs,before,hw,_,hkk⟩:=(OpenSpec.pre_some hk conds apart _ _).1 hpre.1
 have hw':=DataW.Whole.of_heap (w':=w.forCall tape i) (by rfl) hw
 refine (contract (w.forCall tape i) w.heap.size i.args ds gs before (Qw hpos hshaped) hval hw' hkk).mono fun e W' ⟨v,he,hp⟩=>?_
 subst he
 exact ChangeSpec.post_blind hp
end
end Go.Ab
namespace Go.Ab.T
open Go Go.Ab
set_option maxHeartbeats 1000000
theorem Pf.ev {f:Nat} {args args1:List V} {h:AH} (pf:Pf tp f args (.b true)) (hl:h.lim≤h.next) (p:Bi (·<h.next) (fun i=>i) h.get 0 args args1):Ev tp f args1 h (fun r _=>r=.b true):=by
 refine (pf (·<h.next) (fun i=>i) h args1 (CE.emp (fun a ha=>ha) hl _) p).imp ?_
 rintro r1 hc' ⟨r,h',S',m',c',a',q,rfl,rfl⟩
 cases q;rfl
structure BK {H:Type} (bk:DataW H→Nat):Prop where
 sl:∀ AC spare,AC.length≤bk (.slice AC spare)
 el:∀ AC spare x,x∈AC→bk x≤bk (.slice AC spare)
 ag:∀ parts x,x∈parts→bk x≤bk (.agg parts)
 st:∀ l,l.length≤bk (.lit (.string l))
section
variable {H:Type} {bk:DataW H→Nat} {h:AH}
abbrev PW (h:AH) (u v:V):Prop:=Go.Ab.PR (·<h.next) (fun i=>i) h.get 0 u v
abbrev PWs (h:AH) (u v:List V):Prop:=Bi (·<h.next) (fun i=>i) h.get 0 u v
theorem V2 {M M':Mp} {h h':AH} (g:Gr M M' h h'):Hd (·<h.next) (fun i=>i) h.get 0 (·<h'.next) (fun i=>i) h'.get 0:=
 ⟨fun a ha=>Nat.lt_of_lt_of_le ha g.keeps.next,fun a ha=>g.get a ha,fun _ _=>rfl,Nat.le_refl _⟩
theorem PW.gr {M M':Mp} {h h':AH} {u v:V} (g:Gr M M' h h') (p:PW h u v):PW h' u v:=Go.Ab.PR.mono (V2 g) p
theorem PWs.gr {M M':Mp} {h h':AH} {u v:List V} (g:Gr M M' h h') (p:PWs h u v):PWs h' u v:=Bi.mono (V2 g) p
theorem KG {α : Type} {en : α → List V} {good : α → Prop} (B : BK bk) {e : Sh} {d : DataW H} {vs : List V} (hd : DV h (.sl e) d vs) (hb : bk d ≤ 1048576) (hp : ∀ (y : DataW H) (r : List V), DV h e y r → bk y ≤ 1048576 → ∃ a, good a ∧ PWs h (en a) r) :
    ∃ (L:List α) (x:V),vs=[x]∧(∀ a∈L,good a)∧L.length≤1048576∧PW h (.fl e.size (L.map en)) x:=by
 simp only [DV] at hd
 rcases hd with ⟨rfl,rfl⟩ | ⟨AC,spare,id,rows,rfl,rfl,h2,h3,h4,h5,h6⟩
 ·exact ⟨[],_,rfl,(fun a ha=>by cases ha),by simp,.fl0 _ _⟩
 ·have hl:=B.sl AC spare
  have hel:=B.el AC spare
  have:∀ (els:List (DataW H)) (rows:List (List V)),rows.length=els.length→(∀ x∈els,bk x≤1048576)→(∀ (j:Nat) (x:DataW H) (r:List V),els[j]?=some x→rows[j]?=some r→DV h e x r)→∃ L:List α,L.length=els.length∧(∀ a∈L,good a)∧Cv (·<h.next) (fun i=>i) h.get 0 (L.map en) rows:=by
   intro els
   induction els with
   | nil=>intro rows hl _ _;rw [List.length_eq_zero_iff.1 hl];exact ⟨[],rfl,(fun a ha=>by cases ha),.nil _⟩
   | cons y els ih=>
    intro rows hl hb hr
    match rows,hl with
    | r::rows,hl=>
     obtain ⟨a,ga,pa⟩:=hp y r (hr 0 y r rfl rfl) (hb y (List.mem_cons_self ..))
     obtain ⟨L,l1,l2,l3⟩:=ih rows (by simpa using hl) (fun x hx=>hb x (List.mem_cons_of_mem _ hx)) (fun j x r hx hr'=>hr (j+1) x r (by simpa using hx) (by simpa using hr'))
     exact ⟨a::L,by simp [l1],fun b hb=>by rcases List.mem_cons.1 hb with rfl | hb;exact ga;exact l2 b hb,.cons _ _ _ _ _ pa l3⟩
  obtain ⟨L,l1,l2,l3⟩:=this AC rows h4 (fun x hx=>by have:=hel x hx;omega) h6
  refine ⟨L,_,rfl,l2,by omega, ?_⟩
  have e1:AC.length=(L.map en).length:=by simp [l1]
  rw [e1]
  exact .fl _ _ _ id 0 _ rows h3 h2 (Nat.le_refl _) (by simp;omega) (by simp [Ho];omega) (by rw [List.drop_zero,List.take_of_length_le (by simp;omega)];exact l3)
theorem Vx (B:BK bk) {d:DataW H} {vs:List V} (hd:DV h (.sl (.i .i64)) d vs) (hb:bk d≤1048576):∃ (L:List Int) (x:V),vs=[x]∧L.length≤1048576∧PW h (.fl 1 (L.map Ek)) x:=by
 obtain ⟨L,x,h1,_,h3,h4⟩:=KG (en:=Ek) (good:=fun _=>True) B hd hb (fun y r hy _=>by obtain ⟨n,_,_,rfl⟩:=hy;exact ⟨n,trivial,.cons _ _ _ _ _ (.i _ _ _) (.nil _)⟩)
 exact ⟨L,x,h1,h3,h4⟩
theorem Sw (B:BK bk) {d:DataW H} {vs:List V} (hd:DV h (.sl (.i .u8)) d vs) (hb:bk d≤1048576):∃ (L:List Int) (x:V),vs=[x]∧((∀ z∈L,0≤z∧z<256)∧L.length≤1048576)∧PW h (.fl 1 (L.map fun z=>[V.i .u8 z])) x:=by
 obtain ⟨L,x,h1,h2,h3,h4⟩:=KG (en:=fun z=>[V.i .u8 z]) (good:=fun z=>0≤z∧z<256) B hd hb (fun y r hy _=>by
  unfold DV at hy
  obtain ⟨n,_,w,rfl⟩:=hy
  have:=aQa w
  exact ⟨n,by omega,.cons _ _ _ _ _ (.i _ _ _) (.nil _)⟩)
 exact ⟨L,x,h1,⟨h2,h3⟩,h4⟩
end
end Go.Ab.T
