/- Part of a proof that a law returns true for every input of the second form's bound (no other condition). -/
import Derived.JoinedCond
import Derived.ChangeArms
import Derived.WalkKit
import Derived.ProofKit
import Derived.OpenShut
import Derived.ShutString
import Derived.ChangeOld
import Derived.SizedLaws
import Derived.Test.YtcjjajphbamjlaaGreatPJ
import Derived.Test.YtcjjajphbamjlaaGreatPI
import Derived.Test.YtcjjajphbamjlaaGreatPC
import Derived.Test.YtcjjajphbamjlaaGreatPD
import Derived.Test.YtcjjajphbamjlaaGreatPH
set_option linter.all false
namespace Go.Ab.T
open Go Go.Ab
set_option maxHeartbeats 4000000
set_option maxRecDepth 4000
theorem UO {k:Int} {h:AH} {K:V→AH→Prop} (kk:∀ L:List Int,L.length≤400→K (.fl 1 (L.map D9)) h):Cq tp aGS [.i .i64 k] h K:=by
 refine pU aUe (by simp [aE]) fun wf rp=>?_
 unfold aE
 have hlo:=wf.1
 simp (disch:=omega)only[go_sem, *]
 refine Ae (fun n' e hh=>∃ (i:Nat) (v:V) (L:List Int),n'=400 - i∧AK h hh∧e 0=.i .i64 k∧e 3=v∧e 4=.i .i64 i∧i≤400∧L.length=i∧Sl h.next hh 1 v (L.map D9)) ?_ _ _ _ ⟨0,.ns,[],rfl, ?_⟩
 ·rintro n' e hh ⟨i,v,L,rfl,x,e0,e3,e4,hi,hl,s⟩ ih
  have hlm:=x.lim
  have hnx:=x.next
  rw [Ai aQr.eq_1]
  simp (disch:=omega)only[go_sem, *]
  refine Aa (fun hc=>?_) (fun hc=>?_)
  ·simp (disch:=omega)only[go_sem, *]
   refine Ao (N:=[D9 ?x]) (s.alloc ⟨1,[D9 ?x]⟩) ?_ ?_ ?_ ?_
   ·rw [AG];omega
   ·rw [Ag];omega
   ·simp;omega
   intro w h4 s4 g4
   have x4:AK h h4:=⟨by have:=g4.next;rw [Ag] at this;omega,by rw [g4.lim,AG];exact hlm,fun j hj=>by rw [g4.low j hj,AL,Ac (by omega)];exact x.get j hj⟩
   have s5:Sl h.next h4 1 w ((L++[?x]).map D9):=by simpa using s4
   clear s4
   simp (disch:=omega)only[go_sem, *]
   refine ih _ _ _ ?_ ⟨i+1,w,L++[?x],rfl, ?_⟩
   ·omega
   ·simp (disch:=omega)only[go_sem, *]
    all_goals ((repeat' refine And.intro ?_ ?_)<;>first | omega | assumption | (exact x4) | (exact s5) | ((simp;omega)))
  ·simp (disch:=omega)only[go_sem, *]
   exact ⟨_,.fl 1 (L.map D9),h,BT.ext wf x (Sl.frzb s (fun _=>rfl) (by omega)),kk L (by omega)⟩
 ·simp (disch:=omega)only[go_sem, *]
  ((repeat' refine And.intro ?_ ?_)<;>first | omega | assumption | (exact AK.refl _) | (exact Sl.nil _ _ _) | (rfl))
theorem aWu {K : Ex → Env → AH → Prop} {e : Env} {h' : AH} {C : Ah} {bx : Nat} {k : Int} (sm : Cb 10 C) (hlm : h'.lim = 0) (hbx : bx < h'.next) (hb : h'.get bx = some ⟨3, [C.enc]⟩)
    (e1:e 1=.i .i64 k) (e2:e 2=.p bx 0 0) (e3:e 3=.i .i64 0)
    (kk:∀ e' h',h'.lim=0→bx<h'.next→h'.get bx=some ⟨3,[C.enc]⟩→e' 1=.i .i64 k→e' 2=.p bx 0 0→K (.ex 2) e' h'):ZC tp (.loop sF) e h' K:=by
 refine Ae (fun n' e hh=>∃ w:Nat,n'=16 - w∧hh.lim=0∧bx<hh.next∧hh.get bx=some ⟨3,[C.enc]⟩∧e 1=.i .i64 k∧e 2=.p bx 0 0∧e 3=.i .i64 w∧w≤16) ?_ _ _ _ ⟨0,rfl,hlm,hbx,hb,e1,e2,e3,by omega⟩
 clear e1 e2 e3 e hb hbx hlm
 rintro n' e hh ⟨w,rfl,hlm,hbx,hb,e1,e2,e3,hw⟩ ih
 have hb0:=hb
 have t2:=LM sm.nm
 simp only [Ah.enc] at hb t2
 rw [Ai sF.eq_1]
 simp (disch:=omega)only[go_sem, *]
 refine Aa (fun hc=>?_) (fun hc=>?_)
 ·simp (disch:=omega)only[go_sem, *]
  refine aG9 sm (by omega) ?_
  intro C1 s1
  simp (disch:=omega)only[go_sem, *]
  refine Pf.go (LM s1.nm) (by simp only [go_sem]) fun _=>?_;simp (disch:=omega)only[go_sem, *]
  refine Pf.go (t2) (by simp only [go_sem]) fun _=>?_;simp (disch:=omega)only[go_sem, *]
  refine ih _ _ _ ?_ ⟨w+1,rfl, ?_⟩
  ·omega
  ·clear ih kk t2 hb
   simp (disch:=omega)only[go_sem, *]
   all_goals ((repeat' refine And.intro ?_ ?_)<;>first | omega | assumption | (exact hb0))
 ·simp (disch:=omega)only[go_sem, *]
  exact kk _ hh hlm hbx hb0 e1 e2
theorem aUk {K : Ex → Env → AH → Prop} {e : Env} {h' : AH} {B X : List Int} {k : Nat} (hk : k < 30) (hB : Az B) (hX : Az X) (hx1 : 5 ≤ X.length) (hx2 : X.length + 4 = B.length) (hl : B.length < 1000000) (hlm : h'.lim = 0)
    (e1:e 1=.i .i64 k) (e4:e 4=.fl 1 (B.map Aj)) (e5:e 5=.fl 1 (X.map Aj)) (e6:e 6=.i .i64 0)
    (kk:∀ e' h',h'.lim=0→e' 1=.i .i64 k→e' 5=.fl 1 (X.map Aj)→K (.ex 4) e' h'):ZC tp (.loop U3) e h' K:=by
 have mt:∀ n,List.take n (B.map Aj)=(B.take n).map Aj:=fun n=>List.map_take.symm
 have mt2:∀ n,List.take n (X.map Aj)=(X.take n).map Aj:=fun n=>List.map_take.symm
 refine Ae (fun n' e hh=>∃ i:Nat,n'=X.length+1 - i∧hh.lim=0∧e 1=.i .i64 k∧e 4=.fl 1 (B.map Aj)∧e 5=.fl 1 (X.map Aj)∧e 6=.i .i64 i∧i≤X.length+1) ?_ _ _ _ ⟨0,rfl,hlm,e1,e4,e5,e6,by omega⟩
 clear e1 e4 e5 e6 e hlm
 rintro n' e hh ⟨i,rfl,hlm,e1,e4,e5,e6,hi⟩ ih
 rw [Ai U3.eq_1]
 simp (disch:=omega)only[go_sem, *]
 refine Aa (fun hc=>?_) (fun hc=>?_)
 ·obtain ⟨q,hq,hq2⟩:∃ q:Nat,q<8∧((i:Int)+(k:Int)).tmod 8=q:=by
   have a:=Int.tmod_lt_of_pos ((i:Int)+k) (show (0:Int)<8 by decide)
   have b:=Int.tmod_nonneg (a:=(i:Int)+k) 8 (by omega)
   exact ⟨(((i:Int)+k).tmod 8).toNat,by omega,by omega⟩
  obtain ⟨m,hm0,hm1,o2⟩:=aWC q hq
  have o3:IntKind.wrap .u64 (q:Int)=q:=by rw [FG];omega
  have hiX:i<X.length:=by omega
  obtain ⟨y,hy0,hy1,_,o4⟩:=aWK (hX _ (Bl hiX)).1 (hX _ (Bl hiX)).2 hm0 hm1
  have hc0:(i:Int)≤B.length:=by omega
  simp (disch:=omega)only[go_sem, *]
  refine Ao (N:=X.map Aj) (Sl.nil' hh.next _ 1) (by simp (disch:=omega)only[go_sem, *]<;>omega) (by simp (disch:=omega)only[go_sem, *]<;>omega) (by simp;omega) ?_
  intro w h4 s4 g4
  have hl4:=g4.lim
  have hn4:=g4.next
  simp (disch:=omega)only[go_sem, *] at hl4 hn4
  rw [List.nil_append] at s4
  obtain ⟨wlen,wbig,wlt,wlo,wget,FF,wrow,wcell,wcells⟩:=s4.facts
  have w1:=wlt (by omega)
  have w2:=wlo (by omega)
  have w3:=wget (by omega)
  have w4:=FF .i64 i (Bm h4 w) (by omega) (by omega)
  have w5:=wrow i (by omega)
  simp only [Aj] at w5
  clear wlt wlo wget FF wrow g4
  simp (disch:=omega)only[go_sem, *]
  have s5:=Sl.setT (x:=y) (h':=h4.put (AW w) ⟨1,(Bm h4 w).set (E2 w+i) (Aj y)⟩) s4 hiX (Nat.le_refl _) (by rw [Ad,AC rfl])
  have hY:Az (X.set i y):=fun z hz=>(List.mem_or_eq_of_mem_set hz).elim (hX z) (fun e=>by subst e;exact ⟨hy0,hy1⟩)
  have hyl:(X.set i y).length<1000000:=by rw [List.length_set];omega
  simp only [Aj] at s5
  clear s4 w3 w4 w5 o2 o3 o4 wlen wcell wcells
  generalize X.set i y=Y at *
  refine Pf.take [AW w] (GP (B:=Y) (by omega)) (.cons _ _ _ _ _ (Sl.froze s5 (fun _=>rfl) (by simp) (by omega)) (.nil _)) fun _=>?_
  clear s5
  simp (disch:=omega)only[go_sem, *]
  refine Pf.go (Gm (FC hY) (by rw [CD];omega)) (by simp only [go_sem]) fun _=>?_;simp (disch:=omega)only[go_sem, *]
  refine Pf.go (Gm (hB.take (n:=i)) (by rw [List.length_take];omega)) (by simp only [go_sem]) fun _=>?_;simp (disch:=omega)only[go_sem, *]
  refine Pf.go (GP (B:=X.take i) (by rw [List.length_take];omega)) (by simp only [go_sem]) fun _=>?_;simp (disch:=omega)only[go_sem, *]
  refine Pf.go (Gm (FC (hX.take (n:=i))) (by rw [CD,List.length_take];omega)) (by simp only [go_sem]) fun _=>?_;simp (disch:=omega)only[go_sem, *]
  refine ih _ _ _ ?_ ⟨i+2,rfl, ?_⟩
  ·omega
  ·clear ih kk mt mt2
   simp (disch:=omega)only[go_sem, *]
   all_goals ((repeat' refine And.intro ?_ ?_)<;>first | omega | assumption | (rfl))
 ·simp (disch:=omega)only[go_sem, *]
  exact kk _ hh hlm e1 e5
theorem Je:Pf tp aUh [] (.b true):=by
 refine AD aT8 (by simp [Z8]) fun rp=>?_;unfold Z8;simp (disch:=omega)only[go_sem, *]
 refine Ae (fun n' e hh=>∃ k:Nat,n'=30 - k∧hh.lim=0∧e 1=.i .i64 k∧k≤30) ?_ _ _ _ ⟨0,rfl, ?_⟩
 ·rintro n' e hh ⟨k,rfl,hlm,e1,hk⟩ ih
  rw [Ai pY.eq_1]
  simp (disch:=omega)only[go_sem, *]
  refine Aa (fun hc=>?_) (fun hc=>?_)
  ·simp (disch:=omega)only[go_sem, *]
   refine UO ?_
   intro L hL
   simp (disch:=omega)only[go_sem, *]
   refine TH (id:=hh.next) (k:=0) (L:=L) ?_ (by omega) (by omega) ?_ ?_
   ·simp only [Av]
    simp (disch:=omega)only[go_sem, *]
    all_goals rfl
   ·simp (disch:=omega)only[go_sem, *]
   intro C j hj hC
   have hl:=Tx hC.wh hC.ok
   have t1:=JI (C:=C) (Dk hC.wh).1
   have sm:=hC.small
   have hB:=Gw C
   obtain ⟨hl1,hl2⟩:=hl
   clear hC
   simp only [Ah.enc] at t1
   simp (disch:=omega)only[go_sem, *]
   refine aWu (C:=C) (bx:=hh.next+1) (k:=k) sm ?_ ?_ ?_ ?_ ?_ ?_ ?_
   ·simp (disch:=omega)only[go_sem, *]
   ·simp (disch:=omega)only[go_sem, *]<;>omega
   ·simp only [Ah.enc]
    simp (disch:=omega)only[go_sem, *]
   ·simp (disch:=omega)only[go_sem, *]
   ·simp (disch:=omega)only[go_sem, *]
   ·simp (disch:=omega)only[go_sem, *]
   clear e1
   intro e h2 hlm2 hn2 hb2 e1 e2
   simp only [Ah.enc] at hb2
   have et:((Bt C).length:Int) - 4=((Bt C).length - 4:Nat):=by omega
   have mt:∀ n,List.take n ((Bt C).map Aj)=((Bt C).take n).map Aj:=fun n=>List.map_take.symm
   have hX:Az ((Bt C).take ((Bt C).length - 4)):=hB.take
   have hxl:((Bt C).take ((Bt C).length - 4)).length+4=(Bt C).length:=by rw [List.length_take];omega
   simp (disch:=omega)only[go_sem, *]
   refine Pf.go (t1) (by simp only [go_sem]) fun _=>?_;simp (disch:=omega)only[go_sem, *]
   clear t1
   generalize Bt C=B at *
   clear mt et
   have hx1:5≤(B.take (B.length - 4)).length:=by omega
   generalize B.take (B.length - 4)=X at *
   refine aUk (B:=B) (X:=X) (k:=k) (by omega) hB hX hx1 hxl hl2 hlm2 ?_ ?_ ?_ ?_ ?_
   ·simp (disch:=omega)only[go_sem, *]
   ·simp (disch:=omega)only[go_sem, *]
   ·simp (disch:=omega)only[go_sem, *]
   ·simp (disch:=omega)only[go_sem, *]
   clear e1 e2 hb2 hn2 e
   intro e h3 hlm3 e1 e5
   simp (disch:=omega)only[go_sem, *]
   refine Ao (N:=X.map Aj) (Sl.nil' h3.next _ 1) (by simp (disch:=omega)only[go_sem, *]<;>omega) (by simp (disch:=omega)only[go_sem, *]<;>omega) (by simp;omega) ?_
   intro v h5 s5 g5
   have hl5:=g5.lim
   have hn5:=g5.next
   simp (disch:=omega)only[go_sem, *] at hl5 hn5
   rw [List.nil_append] at s5
   clear g5
   simp (disch:=omega)only[go_sem, *]
   refine Ao (N:=[Aj 0]) (s5.alloc ⟨1,[Aj 0]⟩) (by simp (disch:=omega)only[go_sem, *]<;>omega) (by simp (disch:=omega)only[go_sem, *]<;>omega) (by simp;omega) ?_
   intro v2 h6 s6 g6
   have hl6:=g6.lim
   clear g6 s5
   simp (disch:=omega)only[go_sem, *] at hl6
   have s7:Sl h3.next h6 1 v2 ((X++[0]).map Aj):=by simpa using s6
   have hi:Az (X++[0]):=hX.app (fun z hz=>by rw [List.mem_singleton.1 hz];omega)
   have hil:(X++[0]).length<1000000:=by simp;omega
   clear s6
   generalize X++[0]=D at *
   simp (disch:=omega)only[go_sem, *]
   refine Pf.take [AW v2] (GP (B:=D) (by omega)) (.cons _ _ _ _ _ (Sl.froze s7 (fun _=>rfl) (by simp) (by omega)) (.nil _)) fun _=>?_
   clear s7
   simp (disch:=omega)only[go_sem, *]
   refine Pf.go (Gm (FC hi) (by rw [CD];omega)) (by simp only [go_sem]) fun _=>?_;simp (disch:=omega)only[go_sem, *]
   refine ih _ _ _ ?_ ⟨k+1,rfl, ?_⟩
   ·omega
   ·clear ih
    simp (disch:=omega)only[go_sem, *]
    all_goals ((repeat' refine And.intro ?_ ?_)<;>first | omega | assumption | (skip))
  ·simp (disch:=omega)only[go_sem, *]
   refine Pf.go (Rk) (by simp only [go_sem]) fun _=>?_;simp (disch:=omega)only[go_sem, *]
 ·simp (disch:=omega)only[go_sem, *]
  all_goals ((repeat' refine And.intro ?_ ?_)<;>first | omega | assumption | (skip))
end Go.Ab.T
/- From a call's arguments, as the form reads them, to an abstract heap. -/
namespace Go.Ab
open Go Go.RowKit
/-! ### Shapes of arguments -/
mutual
inductive Sh where
 | b
 | i (k:IntKind)
 | s
 | sl (e:Sh)
 | agg (l:KX)
inductive KX where
 | nil
 | cons (x:Sh) (l:KX)
end
mutual
def Sh.size:Sh→Nat
 | .b | .i _ | .s | .sl _=>1
 | .agg l=>l.size
def KX.size:KX→Nat
 | .nil=>0
 | .cons x l=>x.size+l.size
end
def KX.rep (x:Sh):Nat→KX
 | 0=>.nil
 | n+1=>.cons x (KX.rep x n)
mutual
inductive ShT (P:Program):TypeId→Sh→Prop where
 | b (t:TypeId):P.underlying t=some .bool→ShT P t .b
 | i (t:TypeId) (k:IntKind):P.underlying t=some (.int k)→ShT P t (.i k)
 | s (t:TypeId):P.underlying t=some .string→ShT P t .s
 | sl (t e:TypeId) (x:Sh):P.underlying t=some (.slice e)→ShT P e x→P.cellsOf e=x.size→0<x.size→ShT P t (.sl x)
 | agg (t:TypeId) (fs:Array Field) (l:KX):P.underlying t=some (.struct fs)→ShF P fs.toList 0 l→P.cellsOf t=l.size→ShT P t (.agg l)
 | arr (t e:TypeId) (n:Nat) (x:Sh):P.underlying t=some (.array n e)→ShT P e x→P.cellsOf e=x.size→P.cellsOf t=n*x.size→ShT P t (.agg (KX.rep x n))
inductive ShF (P:Program):List Field→Nat→KX→Prop where
 | nil (o:Nat):ShF P [] o .nil
 | cons (f:Field) (fs:List Field) (o:Nat) (x:Sh) (l:KX):f.offset=o→ShT P f.type x→P.cellsOf f.type=x.size→ShF P fs (o+x.size) l→ShF P (f::fs) o (.cons x l)
end
section
variable {H:Type}
mutual
def DV (h:AH):Sh→DataW H→List V→Prop
 | .b,d,vs=>∃ x,d=.lit (.bool x)∧vs=[.b x]
 | .i k,d,vs=>∃ n,d=.lit (.int k n)∧(Lit.int k n).wf=true∧vs=[.i k n]
 | .s,d,vs=>∃ x:ByteArray,d=.lit (.string x.data.toList)∧x.size≤maxLen∧vs=[.s x]
 | .sl e,d,vs=>(d=.nil∧vs=[.ns])∨∃ (AP spare:List (DataW H)) (id:Nat) (rows:List (List V)),d=.slice AP spare∧vs=[.sl id 0 AP.length AP.length]∧h.get id=some ⟨e.size,rows⟩∧id<h.next∧rows.length=AP.length∧AP.length<Bi∧∀ (j:Nat) (x:DataW H) (r:List V),AP[j]?=some x→rows[j]?=some r→DV h e x r
 | .agg l,d,vs=>∃ ds,d=.agg ds∧bW h l ds vs
def bW (h:AH):KX→List (DataW H)→List V→Prop
 | .nil,ds,vs=>ds=[]∧vs=[]
 | .cons x l,ds,vs=>∃ d ds' v1 v2,ds=d::ds'∧vs=v1++v2∧DV h x d v1∧bW h l ds' v2
end
mutual
def qX:Sh→DataW H→Prop
 | .sl e,d=>∀ AP spare,d=.slice AP spare→AP.length<Bi∧∀ x∈AP,qX e x
 | .agg l,d=>∀ ds,d=.agg ds→cR l ds
 | .b,_ | .i _,_ | .s,_=>True
def cR:KX→List (DataW H)→Prop
 | .nil,_=>True
 | .cons x l,ds=>∀ d ds',ds=d::ds'→qX x d∧cR l ds'
end
structure Gr (M M':Mp) (h h':AH):Prop where
 keeps:BN M M' h h'
 get:∀ id,id<h.next→h'.get id=h.get id
theorem Gr.refl (M:Mp) (h:AH):Gr M M h h:=⟨BN.refl M h,fun _ _=>rfl⟩
theorem Gr.trans {M M1 M2:Mp} {h h1 h2:AH} (a:Gr M M1 h h1) (b:Gr M1 M2 h1 h2):Gr M M2 h h2:=
 ⟨a.keeps.trans b.keeps,fun id hi=>(b.get id (Nat.lt_of_lt_of_le hi a.keeps.next)).trans (a.get id hi)⟩
mutual
theorem DV.grow {M M':Mp} {h h':AH} (g:Gr M M' h h'):∀ (sh:Sh) (d:DataW H) (vs:List V),DV h sh d vs→DV h' sh d vs
 | .b,d,vs,k=>by simp only [DV] at k ⊢;exact k
 | .i _,d,vs,k=>by simp only [DV] at k ⊢;exact k
 | .s,d,vs,k=>by simp only [DV] at k ⊢;exact k
 | .sl e,d,vs,k=>by
  simp only [DV] at k ⊢
  rcases k with k | ⟨AP,spare,id,rows,a,b,c,d,e1,f,g1⟩
  ·exact .inl k
  ·exact .inr ⟨AP,spare,id,rows,a,b,(g.get id d).trans c,Nat.lt_of_lt_of_le d g.keeps.next,e1,f,fun j x r hx hr=>DV.grow g e x r (g1 j x r hx hr)⟩
 | .agg l,d,vs,k=>by
  simp only [DV] at k ⊢
  obtain ⟨ds,a,b⟩:=k
  exact ⟨ds,a,bW.grow g l ds vs b⟩
theorem bW.grow {M M':Mp} {h h':AH} (g:Gr M M' h h'):∀ (l:KX) (ds:List (DataW H)) (vs:List V),bW h l ds vs→bW h' l ds vs
 | .nil,ds,vs,k=>by simp only [bW] at k ⊢;exact k
 | .cons x l,ds,vs,k=>by
  simp only [bW] at k ⊢
  obtain ⟨d,ds',v1,v2,a,b,c,e⟩:=k
  exact ⟨d,ds',v1,v2,a,b,DV.grow g x d v1 c,bW.grow g l ds' v2 e⟩
end
structure In (M:Mp) (w:World) (h:AH):Prop where
 cells:∀ id k m,h.get id=some k→M id=some m→m.b<w.heap.size∧Dr M h w m k
 own:∀ id m,M id=some m→m.own=false
 fresh:∀ id,h.live id→id<h.next
 lim:h.lim=h.next
theorem In.sim {M:Mp} {w:World} {h:AH} (i:In M w h):Dq M w.heap.size w h:=by
 refine ⟨i.cells,fun id m hl hm ho=>?_,fun id m hl hm hli=>?_,fun id id' m m' _ _ hm _ _ ho=>?_,i.fresh,by rw [i.lim];exact Nat.le_refl _,Nat.le_refl _⟩
 ·rw [i.own id m hm] at ho;cases ho
 ·have:=i.fresh id hl;have:=i.lim;omega
 ·rw [i.own id m hm] at ho;cases ho
def AH.give (h:AH) (k:BV):AH:={ get:=fun j=>if j=h.next then some k else h.get j,next:=h.next+1,lim:=h.next+1 }
def Uj (M:Mp) (id:Nat) (m:MI):Mp:=fun j=>if j=id then some m else M j
theorem Sr {M:Mp} {h:AH} {k:BV} {m:MI} (hf:∀ id,h.live id→id<h.next):Gr M (Uj M h.next m) h (h.give k):=by
 refine ⟨⟨by simp [AH.give],fun id hi hl=>?_,fun id hi hl=>?_⟩,fun id hi=>?_⟩
 ·have:(h.give k).get id=h.get id:=by simp only [AH.give];rw [if_neg (by omega)]
  rw [AH.live,this] at hl;exact hl
 ·simp only [Uj];rw [if_neg (by omega)]
 ·simp only [AH.give];rw [if_neg (by omega)]
theorem In.give {M:Mp} {w:World} {h:AH} {k:BV} {m:MI} (i:In M w h) (hb:m.b<w.heap.size) (ho:m.own=false) (hc:Dr M h w m k):In (Uj M h.next m) w (h.give k):=by
 have g:=Sr (M:=M) (k:=k) (m:=m) i.fresh
 refine ⟨fun id k' m' hk hm=>?_,fun id m' hm=>?_,fun id hl=>?_,rfl⟩
 ·simp only [AH.give,Uj] at hk hm
  by_cases hid:id=h.next
  ·rw [if_pos hid] at hk hm
   cases hk;cases hm
   exact ⟨hb,Dr.keep g.keeps rfl hc⟩
  ·rw [if_neg hid] at hk hm
   exact ⟨(i.cells id k' m' hk hm).1,Dr.keep g.keeps rfl (i.cells id k' m' hk hm).2⟩
 ·simp only [Uj] at hm
  split at hm
  ·cases hm;exact ho
  ·exact i.own id m' hm
 ·by_cases hid:id=h.next
  ·subst hid;simp [AH.give]
  ·have:(h.give k).get id=h.get id:=by simp only [AH.give];rw [if_neg hid]
   rw [AH.live,this] at hl
   have:=i.fresh id hl
   simp only [AH.give];omega
variable {P:Program} {w:World} {enc:TypeId×Value→H} {spare:Nat→Bool}
def aTw (M:Mp) (w:World) (h:AH) (sh:Sh) (d:DataW H) (cs:List Value):Prop:=
 ∃ (M':Mp) (h':AH) (vs:List V),In M' w h'∧Gr M M' h h'∧BG M' h' vs cs∧DV h' sh d vs∧(∀ v∈vs,v.isCell=true)
def aTx (M:Mp) (w:World) (h:AH) (l:KX) (ds:List (DataW H)) (cs:List Value):Prop:=
 ∃ (M':Mp) (h':AH) (vs:List V),In M' w h'∧Gr M M' h h'∧BG M' h' vs cs∧bW h' l ds vs∧(∀ v∈vs,v.isCell=true)
theorem LT {e : Sh} (ih : ∀ (cs : List Value) (d : DataW H) (M : Mp) (h : AH), (∃ fuel t ps, ShT P t e ∧ DataW.trod enc P w 0 spare true fuel t cs = some (d, ps)) → In M w h → qX e d → aTw M w h e d cs) :
    ∀ (l:List (List Value×DataW H)) (M:Mp) (h:AH),In M w h→(∀ q∈l,(∃ fuel t ps,ShT P t e∧DataW.trod enc P w 0 spare true fuel t q.1=some (q.2,ps))∧qX e q.2) →
     ∃ (M':Mp) (h':AH) (rows:List (List V)),In M' w h'∧Gr M M' h h'∧rows.length=l.length∧∀ (j:Nat) (q:List Value×DataW H) (r:List V),l[j]?=some q→rows[j]?=some r→BG M' h' r q.1∧DV h' e q.2 r∧(∀ v∈r,v.isCell=true)
 | [],M,h,hi,_=>⟨M,h,[],hi,Gr.refl M h,rfl,fun j q r hq=>by simp at hq⟩
 | q::l,M,h,hi,hq=>by
  obtain ⟨M1,h1,vs,i1,g1,v1,d1,c1⟩:=ih q.1 q.2 M h (hq q (List.mem_cons_self ..)).1 hi (hq q (List.mem_cons_self ..)).2
  obtain ⟨M2,h2,rows,i2,g2,l2,a2⟩:=LT ih l M1 h1 i1 (fun x hx=>hq x (List.mem_cons_of_mem _ hx))
  refine ⟨M2,h2,vs::rows,i2,g1.trans g2,by simp [l2],fun j x r hx hr=>?_⟩
  cases j with
  | zero=>
   simp at hx hr;subst hx;subst hr
   exact ⟨v1.keep g2.keeps,d1.grow g2,c1⟩
  | succ j=>exact a2 j x r (by simpa using hx) (by simpa using hr)
def Al (P:Program) (w:World) (enc:TypeId×Value→H) (spare:Nat→Bool):KX→List (List Value×DataW H)→Prop
 | .nil,q=>q=[]
 | .cons x l,q=>∃ p q',q=p::q'∧(∃ fuel t ps,ShT P t x∧DataW.trod enc P w 0 spare true fuel t p.1=some (p.2,ps))∧Al P w enc spare l q'
theorem Lc {n : Nat} {cs : List Value} : ∀ (fs : List Field) (o : Nat) (l : KX) (xs : List (DataW H × List MemPlace)), ShF P fs o l → xs.length = fs.length → (∀ (i : Nat) (f : Field), fs[i]? = some f → DataW.trod enc P w 0 spare true n f.type ((cs.drop f.offset).take (P.cellsOf f.type)) = xs[i]?) →
    ∃ q,Al P w enc spare l q∧q.map (·.2)=xs.map (·.1)∧(q.map (·.1)).flatten=(cs.drop o).take l.size
 | [],o,_,xs,.nil _,hl,ha=>by
  have:xs=[]:=List.length_eq_zero_iff.1 hl
  subst this
  exact ⟨[],rfl,rfl,by simp [KX.size]⟩
 | f::fs,o,_,xs,.cons _ _ _ x l hf ht hc hr,hl,ha=>by
  match xs,hl,ha with
  | y::ys,hl,ha=>
   obtain ⟨q,q1,q2,q3⟩:=Lc (n:=n) (cs:=cs) fs (o+x.size) l ys hr (by simpa using hl) (fun i g hg=>by simpa using ha (i+1) g (by simpa using hg))
   have h0:=ha 0 f rfl
   simp only [List.getElem?_cons_zero] at h0
   refine ⟨((cs.drop f.offset).take (P.cellsOf f.type),y.1)::q,⟨_,q,rfl,⟨n,f.type,y.2,ht,h0⟩,q1⟩,by simp [q2], ?_⟩
   simp only [List.map_cons,List.flatten_cons,q3,hf,hc,KX.size]
   rw [← List.drop_drop,List.take_add]
theorem MT {n : Nat} {e : TypeId} {x : Sh} {cs : List Value} (ht : ShT P e x) (hc : P.cellsOf e = x.size) : ∀ (m i : Nat) (xs : List (DataW H × List MemPlace)), xs.length = m → (∀ j, j < m → DataW.trod enc P w 0 spare true n e ((cs.drop ((i + j) * P.cellsOf e)).take (P.cellsOf e)) = xs[j]?) →
    ∃ q,Al P w enc spare (KX.rep x m) q∧q.map (·.2)=xs.map (·.1)∧(q.map (·.1)).flatten=(cs.drop (i*x.size)).take (m*x.size)
 | 0,i,xs,hl,ha=>by
  have:xs=[]:=List.length_eq_zero_iff.1 hl
  subst this
  exact ⟨[],rfl,rfl,by simp⟩
 | m+1,i,xs,hl,ha=>by
  match xs,hl,ha with
  | y::ys,hl,ha=>
   obtain ⟨q,q1,q2,q3⟩:=MT ht hc m (i+1) ys (by simpa using hl) (fun j hj=>by
    have:=ha (j+1) (by omega)
    simp only [List.getElem?_cons_succ] at this
    rw [← this,show i+(j+1)=i+1+j by omega])
   have h0:=ha 0 (by omega)
   simp only [List.getElem?_cons_zero,Nat.add_zero] at h0
   refine ⟨((cs.drop (i*P.cellsOf e)).take (P.cellsOf e),y.1)::q,⟨_,q,rfl,⟨n,e,y.2,ht,h0⟩,q1⟩,by simp [q2], ?_⟩
   simp only [List.map_cons,List.flatten_cons,q3,hc]
   rw [Nat.succ_mul,Nat.succ_mul,Nat.add_comm (m*x.size),List.take_add,List.drop_drop]
theorem RY {n : Nat} {e t : TypeId} {fuel : Nat} {cs : List Value} {x : DataW H × List MemPlace} (ht : P.underlying t = some (.array n e)) (h : DataW.trod enc P w 0 spare true fuel t cs = some x) :
    ∃ (xs:List (DataW H×List MemPlace)) (m:Nat),x=(.agg (xs.map (·.1)),xs.flatMap (·.2))∧cs.length=P.cellsOf t∧xs.length=n∧∀ j,j<n→DataW.trod enc P w 0 spare true m e ((cs.drop (j*P.cellsOf e)).take (P.cellsOf e))=xs[j]?:=by
 cases fuel with
 | zero=>simp [DataW.trod] at h
 | succ m=>
  unfold DataW.trod at h
  rw [ht] at h
  split at h<;>simp_all
  obtain ⟨hl,xs,hp,hd⟩:=h
  exact ⟨xs,hd.symm,by simpa using mapM_some_length hp,m,fun j hj=>by simpa using mapM_some_get hp j j (by simp [hj])⟩
theorem Ic {a:Addr} {n:Nat} (h:a.spot=none):a.add n=⟨a.block,a.off+n,none⟩:=by
 cases a
 simp only at h
 subst h
 simp only [Addr.add]
 split<;>simp_all
theorem Tq {a:Addr} {n:Nat} (h:a.spot=none):(a.add n).spot=none:=by rw [Ic h]
mutual
theorem take (hpos:0<w.heap.size):∀ (sh:Sh) (cs:List Value) (d:DataW H) (M:Mp) (h:AH),(∃ fuel t ps,ShT P t sh∧DataW.trod enc P w 0 (fun _=>true) true fuel t cs=some (d,ps))→In M w h→qX sh d→aTw M w h sh d cs
 | .b,cs,d,M,h,⟨fuel,t,ps,ht,hr⟩,hi,hs=>by
  cases ht with
  | b _ hu=>
   obtain ⟨x,rfl,he⟩:=DataW.trod_bool hu hr
   cases he
   exact ⟨M,h,[.b x],hi,Gr.refl M h,.cons _ _ _ _ (.b x) .nil,⟨x,rfl,rfl⟩,by simp [V.isCell]⟩
 | .i k,cs,d,M,h,⟨fuel,t,ps,ht,hr⟩,hi,hs=>by
  cases ht with
  | i _ _ hu=>
   obtain ⟨x,rfl,he,hw⟩:=DataW.trod_int hu hr
   cases he
   exact ⟨M,h,[.i k x],hi,Gr.refl M h,.cons _ _ _ _ (.i k x) .nil,⟨x,rfl,hw,rfl⟩,by simp [V.isCell]⟩
 | .s,cs,d,M,h,⟨fuel,t,ps,ht,hr⟩,hi,hs=>by
  cases ht with
  | s _ hu=>
   obtain ⟨x,rfl,he,hw⟩:=DataW.trod_string hu hr
   cases he
   exact ⟨M,h,[.s x],hi,Gr.refl M h,.cons _ _ _ _ (.s x) .nil,⟨x,rfl,hw,rfl⟩,by simp [V.isCell]⟩
 | .sl e,cs,d,M,h,⟨fuel,t,ps,ht,hr⟩,hi,hs=>by
  cases ht with
  | sl _ te _ hu hte hce hpe=>
   rcases DataW.trod_slice hu hr with ⟨rfl,he⟩ | ⟨a,len,cap,AP,rest,n,_,rfl,he,hb,hlc,hcm,hlen,hel,hsp,_⟩
   ·cases he
    exact ⟨M,h,[.ns],hi,Gr.refl M h,.cons _ _ _ _ .ns .nil,.inl ⟨rfl,rfl⟩,by simp [V.isCell]⟩
   ·cases he
    simp only [qX] at hs
    obtain ⟨hs1,hs2⟩:=hs _ _ rfl
    have hs1':AP.length<Bi:=by simpa using hs1
    have cell:∀ j (y:DataW H×List MemPlace),AP[j]?=some y→∃ cs',w.cells? 0 (a.add (j*P.cellsOf te)) (P.cellsOf te)=some cs'∧DataW.trod enc P w 0 (fun _=>true) true n te cs'=some y:=by
     intro j y hy
     have hj:j<len:=by rw [← hlen];exact (List.getElem?_eq_some_iff.1 hy).1
     have:=hel j hj
     rw [hy] at this
     simpa [Option.bind_eq_some_iff] using this
    let q:List (List Value×DataW H):=(List.range AP.length).map fun j=>((w.cells? 0 (a.add (j*P.cellsOf te)) (P.cellsOf te)).getD [],((AP[j]?).map (·.1)).getD (.nil))
    have hq:∀ j (y:DataW H×List MemPlace),AP[j]?=some y→∃ cs',w.cells? 0 (a.add (j*P.cellsOf te)) (P.cellsOf te)=some cs'∧DataW.trod enc P w 0 (fun _=>true) true n te cs'=some y∧q[j]?=some (cs',y.1):=by
     intro j y hy
     obtain ⟨cs',h1,h2⟩:=cell j y hy
     have hj:j<AP.length:=(List.getElem?_eq_some_iff.1 hy).1
     refine ⟨cs',h1,h2, ?_⟩
     simp only [q,List.getElem?_map,List.getElem?_range hj,Option.map_some,h1,hy,Option.getD_some]
    have hql:q.length=AP.length:=by simp [q]
    obtain ⟨M1,h1,rows,i1,g1,l1,a1⟩:=LT (e:=e) (fun cs d M h hh hi hs=>take hpos e cs d M h hh hi hs) q M h hi (fun z hz=>by
     obtain ⟨j,hj,hz⟩:=List.getElem_of_mem hz
     have hj':j<AP.length:=by rw [← hql];exact hj
     obtain ⟨cs',h1,h2,h3⟩:=hq j AP[j] (by simp [hj'])
     rw [List.getElem?_eq_getElem hj,hz] at h3
     cases h3
     exact ⟨⟨n,te,AP[j].2,hte,h2⟩,hs2 _ (List.mem_map.2 ⟨AP[j],List.getElem_mem _,rfl⟩)⟩)
    have first:∀ cs',w.cells? 0 (a.add 0) (P.cellsOf te)=some cs'→a.block<w.heap.size∧a.spot=none:=by
     intro cs' hcs
     have h1:=World.cells?_block hcs (by omega)
     obtain ⟨_,h2,h3⟩:=World.cells?_some hcs
     have h4:=h3 0 (by omega)
     rw [List.getElem?_eq_getElem (by omega)] at h4
     have h5:=World.cell?_spot h4
     simp only [Addr.add,if_true] at h1 h5
     exact ⟨h1,h5⟩
    have hz:0<cap→a.block<w.heap.size∧a.spot=none:=by
     intro hcap
     by_cases h0:0<AP.length
     ·obtain ⟨cs',h2,_,_⟩:=hq 0 AP[0] (by simp [h0])
      exact first cs' (by simpa using h2)
     ·have:=(hsp rfl).2 0 (by omega)
      rw [List.getElem?_eq_getElem (by rw [(hsp rfl).1];omega)] at this
      simp only [Option.bind_eq_some_iff] at this
      obtain ⟨cs',h2,_⟩:=this
      exact first cs' (by rw [show (len+0)*P.cellsOf te=0 by rw [show len+0=0 by omega];simp] at h2;exact h2)
    let m:MI:=⟨if 0<cap then a.block else 0,a.off,0,e.size,false⟩
    have hmb:m.b<w.heap.size:=by
     simp only [m]
     split
     ·rename_i h0;exact (hz h0).1
     ·exact hpos
    have hrow:∀ (el:Nat) (r:List V),rows[el]?=some r→∃ y cs',AP[el]?=some y∧q[el]?=some (cs',y.1)∧w.cells? 0 (a.add (el*P.cellsOf te)) (P.cellsOf te)=some cs':=by
     intro el r hr
     have hel2:el<AP.length:=by rw [← hql,←l1];exact (List.getElem?_eq_some_iff.1 hr).1
     obtain ⟨cs',h2,h3,h4⟩:=hq el AP[el] (by simp [hel2])
     exact ⟨AP[el],cs',by simp [hel2],h4,h2⟩
    have hcells:Dr M1 h1 w m ⟨e.size,rows⟩:=by
     refine ⟨rfl,fun el r hr=>?_⟩
     obtain ⟨y,cs',hy,hqe,hcs⟩:=hrow el r hr
     obtain ⟨hv,_,hcell⟩:=a1 el _ r hqe hr
     obtain ⟨_,hcl,hcc⟩:=World.cells?_some hcs
     have hlen2:=hv.length
     have hel2:el<AP.length:=(List.getElem?_eq_some_iff.1 hy).1
     have hz':=hz (by omega)
     refine ⟨by rw [hlen2];simp only;omega,fun j v hj=>⟨hcell v (List.mem_of_getElem? hj), ?_⟩⟩
     obtain ⟨x,hx,hvx⟩:=hv.get j v hj
     have hjl:j<P.cellsOf te:=by
      have:=(List.getElem?_eq_some_iff.1 hx).1
      simp only at this;omega
     refine ⟨x, ?_,hvx⟩
     have e1:=hcc j hjl
     simp only at hx
     rw [hx,Ic (Tq hz'.2),Ic hz'.2] at e1
     rw [← e1]
     simp only [m]
     rw [if_pos (by omega),hce]
    have i2:=i1.give (m:=m) hmb rfl hcells
    have g2:=Sr (M:=M1) (k:=⟨e.size,rows⟩) (m:=m) i1.fresh
    refine ⟨_,_,[.sl h1.next 0 AP.length AP.length],i2,g1.trans g2,.cons _ _ _ _ ?_ .nil,.inr ⟨AP.map (·.1),rest.map (·.1),h1.next,rows,rfl,by simp,by simp [AH.give],by simp [AH.give],by simp [l1,hql],hs1,fun j x r hx hr=>?_⟩,by simp [V.isCell]⟩
    ·rw [hlen]
     refine .sl _ _ _ _ _ _ (by simp [AH.give]) (by omega) (fun _=>⟨m,by simp [Uj],fun hc=>?_,by omega,fun ho=>by cases ho⟩)
     have:=hz hc
     simp only [m]
     rw [if_pos hc]
     cases a;simp_all
    ·obtain ⟨y,cs',hy,hqe,_⟩:=hrow j r hr
     simp only [List.getElem?_map,hy,Option.map_some,Option.some.injEq] at hx
     subst hx
     exact (a1 j _ r hqe hr).2.1.grow g2
 | .agg l,cs,d,M,h,⟨fuel,t,ps,ht,hr⟩,hi,hs=>by
  cases ht with
  | agg _ fs _ hu hf hc=>
   obtain ⟨xs,n,_,he,hlen,hxl,hx⟩:=DataW.trod_struct hu hr
   cases he
   simp only [qX] at hs
   obtain ⟨q,q1,q2,q3⟩:=Lc (n:=n) (cs:=cs) fs.toList 0 l xs hf (by simpa using hxl) (fun i f hf=>hx i f (by simpa using hf))
   obtain ⟨M',h',vs,i',g',v',d',c'⟩:=aH hpos l q M h q1 hi (by rw [q2];exact hs _ rfl)
   rw [q3,List.drop_zero,←hc,←hlen,List.take_length] at v'
   rw [q2] at d'
   exact ⟨M',h',vs,i',g',v',⟨_,rfl,d'⟩,c'⟩
  | arr _ e n x hu hte hce hct=>
   obtain ⟨xs,m,he,hlen,hxl,hx⟩:=RY hu hr
   cases he
   simp only [qX] at hs
   obtain ⟨q,q1,q2,q3⟩:=MT (n:=m) (cs:=cs) hte hce n 0 xs hxl (fun j hj=>by rw [Nat.zero_add];exact hx j hj)
   obtain ⟨M',h',vs,i',g',v',d',c'⟩:=aH hpos (KX.rep x n) q M h q1 hi (by rw [q2];exact hs _ rfl)
   rw [q3,Nat.zero_mul,List.drop_zero,←hct,←hlen,List.take_length] at v'
   rw [q2] at d'
   exact ⟨M',h',vs,i',g',v',⟨_,rfl,d'⟩,c'⟩
theorem aH (hpos:0<w.heap.size):∀ (l:KX) (q:List (List Value×DataW H)) (M:Mp) (h:AH),Al P w enc (fun _=>true) l q→In M w h→cR l (q.map (·.2))→aTx M w h l (q.map (·.2)) (q.map (·.1)).flatten
 | .nil,q,M,h,ha,hi,hs=>by
  simp only [Al] at ha;subst ha
  exact ⟨M,h,[],hi,Gr.refl M h,.nil,⟨rfl,rfl⟩,by simp⟩
 | .cons x l,q,M,h,ha,hi,hs=>by
  simp only [Al] at ha
  obtain ⟨p,q',rfl,ht,ha⟩:=ha
  simp only [cR] at hs
  obtain ⟨s1,s2⟩:=hs _ _ rfl
  obtain ⟨M1,h1,vs,i1,g1,v1,d1,c1⟩:=take hpos x p.1 p.2 M h ht hi s1
  obtain ⟨M2,h2,us,i2,g2,v2,d2,c2⟩:=aH hpos l q' M1 h1 ha i1 s2
  refine ⟨M2,h2,vs++us,i2,g1.trans g2,by simpa using (v1.keep g2.keeps).append v2,⟨_,_,vs,us,rfl,rfl,d1.grow g2,d2⟩,fun v hv=>?_⟩
  rcases List.mem_append.1 hv with hv | hv
  ·exact c1 v hv
  ·exact c2 v hv
end
end
end Go.Ab
/- A law's row out of the abstract machine. -/
namespace Go.Ab
open Go Go.RowKit
theorem QG {P : Program} {tp : TP} {wr : Wr} (hT : aEb P wr tp) (hm : Ds P tp) (hx : P.follows .mixedOrders = true) {f : Nat} {args : List V} {h : AH} {M : Mp} {w : World} {xs : Array Value}
    (hi:In M w h) (ha:BG M h args xs.toList) (he:Ev tp f args h (fun r _=>r=.b true)):Calls P f xs w fun e w'=>e=.returned (.bool true)∧Below w.heap.size w w':=by
 obtain ⟨k,v,h',hev,rfl⟩:=he
 refine ((Xh hT hm hx k f args h _ h' hev).2 M w.heap.size w xs hi.sim ha).mono fun e w' ⟨x,M',e1,hd⟩=>?_
 subst e1
 have hv:=hd.val
 cases hv
 exact ⟨rfl,hd.below⟩
theorem In.empty (w:World):In (fun _=>none) w ⟨fun _=>none,0,0⟩:=⟨fun _ _ _ hk=>(by cases hk),fun _ _ hm=>(by cases hm),fun _ hl=>absurd rfl hl,rfl⟩
def kL (P:Program):Bool:=
 if P.globals.size=0 then decide (0<(begin P (fun _ _=>0) default).world.heap.size)
 else (((begin P (fun _ _=>0) default).world.heap[0]?).bind Obj.row?).isSome
theorem RN {P:Program} {w:World} (hp:kL P=true) (hs:w.ShapedOpen P):0<w.heap.size:=by
 unfold kL at hp
 split at hp
 ·rename_i h0
  simp only [decide_eq_true_eq] at hp
  obtain ⟨o,_,ho,_⟩:=hs.2 0 (by omega) hp
  by_cases hz:0<w.heap.size
  ·exact hz
  ·rw [Array.getElem?_eq_none (by omega)] at ho;cases ho
 ·rename_i h0
  cases hb:((begin P (fun _ _=>0) default).world.heap[0]?).bind Obj.row? with
  | none=>rw [hb] at hp;cases hp
  | some q=>
   obtain ⟨cs,hc,_⟩:=hs.1 0 q.1 q.2 (by omega) hb
   by_cases hz:0<w.heap.size
   ·exact hz
   ·rw [Array.getElem?_eq_none (by omega)] at hc;cases hc
section
variable {H:Type} {enc:TypeId×Value→H}
theorem Ng {a : Assume} {C : Checked} {os : Os} {f : FuncId} {fn : Func} {s : OpenSpec} {k : (H : Type) → List (DataW H) → Bool} (hk : s.cond = some k) {F : Stop.Interp} {conds : List PathCond} {apart fresh handsOn again : Bool}
    (own:ownKnob C.prog.godebug=none) (started:os.Started) (noInit:C.prog.inits.idxOf? f=none) (hfn:C.prog.funcs[f]?=some fn) (hpos:kL C.prog=true)
    (witness:∃ (w:World) (tape:Tape) (i:Input),w.os=os∧(w.forCall tape i).Shaped C.prog∧i.vars=[]∧Input.okWide C.prog (w.forCall tape i) .any w.heap.size f i ∧
     s.pre6 enc C.prog fn conds apart (w.forCall tape i).memory i.args∧a.holds C.prog (lone (Frame.enter C.prog f i.args .normal) [] (w.forCall tape i)))
    (contract:∀ (W:World) (base:Nat) (args:Array Value) (ds gs:List (DataW H)) (before:List MemPlace),0<W.heap.size →
     (∀ (j:Nat) t v,fn.params[j]?=some t→args[j]?=some v→Value.okWide C.prog W .any base t v) →
     DataW.Whole enc C.prog fn.params.toList s.vars apart W args.toList ds gs before→k H (ds++gs)=true →
     Calls C.prog f args W fun e W'=>∃ v,e=.returned v∧(s.at F).post enc C.prog fn apart fresh handsOn again W args v W'):
    ReturnsInHanded a C os f .any (s.pre6 enc C.prog fn conds apart) ((s.at F).post enc C.prog fn apart fresh handsOn again):=by
 refine returnsInHanded_of_calls own started noInit witness ?_
 intro w tape i _ hshaped _ hok hpre _
 obtain ⟨_,_,_,fn',hfn',_,_,_,_,hval⟩:=hok
 obtain rfl:fn'=fn:=Option.some.inj (hfn'.symm.trans hfn)
 obtain ⟨ds,gs,before,hw,_,hkk⟩:=(OpenSpec.pre_some hk conds apart _ _).1 hpre.1
 have hw':=DataW.Whole.of_heap (w':=w.forCall tape i) (by rfl) hw
 refine (contract (w.forCall tape i) w.heap.size i.args ds gs before (RN hpos hshaped) hval hw' hkk).mono fun e W' ⟨v,he,hp⟩=>?_
 subst he
 exact ChangeSpec.post_blind hp
end
end Go.Ab
namespace Go.Ab.T
open Go Go.Ab
set_option maxHeartbeats 1000000
theorem Pf.ev {f:Nat} {args args1:List V} {h:AH} (pf:Pf tp f args (.b true)) (hl:h.lim≤h.next) (p:BQ (·<h.next) (fun i=>i) h.get 0 args args1):Ev tp f args1 h (fun r _=>r=.b true):=by
 refine (pf (·<h.next) (fun i=>i) h args1 (Da.emp (fun a ha=>ha) hl _) p).imp ?_
 rintro r1 hc' ⟨r,h',S',m',c',a',q,rfl,rfl⟩
 cases q;rfl
structure BK {H:Type} (bk:DataW H→Nat):Prop where
 sl:∀ AP spare,AP.length≤bk (.slice AP spare)
 el:∀ AP spare x,x∈AP→bk x≤bk (.slice AP spare)
 ag:∀ parts x,x∈parts→bk x≤bk (.agg parts)
 st:∀ l,l.length≤bk (.lit (.string l))
section
variable {H:Type} {bk:DataW H→Nat} {h:AH}
end
end Go.Ab.T
