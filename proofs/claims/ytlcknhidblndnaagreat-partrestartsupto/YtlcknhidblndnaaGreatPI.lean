/- Part of a proof that a law returns true for every input of the second form's bound (no other condition). -/
import Derived.Test.YtlcknhidblndnaaGreatPH
set_option linter.all false
namespace Go.Ab.T
open Go Go.Ab
set_option maxHeartbeats 4000000
structure PS where
 procs:List PR
 all:List ST
 mem:List Int
 fl:List FT
 halt:Bool
 clk:Int
 deriving DecidableEq
def H4 (l:List Int):Prop:=∀ z∈l,0≤z∧z<4294967296
structure PA (b:Nat) (h:AH) (pp tb lg:Nat) (w a f:V) (c:PC) (s:PS):Prop where
 gp:h.get pp=some ⟨26,[AB c tb lg a s.mem s.clk]⟩
 gt:h.get tb=some ⟨1,[[w]]⟩
 gl:h.get lg=some ⟨7,[[.i .i64 c.h0,.i .i64 c.h1,.i .i64 c.h2,.i .i64 c.h3,.i .i64 c.h4,f,.b s.halt]]⟩
 sw:Sl b h 3 w (s.procs.map PR.enc)
 sa:Sl b h 9 a (s.all.map ST.enc)
 sf:Sl b h 3 f (s.fl.map FT.enc)
 lim:h.lim≤b
 bp:b≤pp∧b≤tb∧b≤lg
 np:pp<h.next∧tb<h.next∧lg<h.next
 d:pp≠tb∧pp≠lg∧tb≠lg
 dw:Ar w≠pp∧Ar w≠tb∧Ar w≠lg
 da:Ar a≠pp∧Ar a≠tb∧Ar a≠lg∧Ar a≠Ar w
 df:AF f=true∨(Ar f≠pp∧Ar f≠tb∧Ar f≠lg∧Ar f≠Ar w∧Ar f≠Ar a)
 l1:1≤s.procs.length∧s.procs.length≤3
 l2:s.all.length=s.procs.length
 l3:s.mem.length=16
 l4:∀ x∈s.all,x.r.length=8∧H4 x.r
 l5:H4 s.mem
 l6:s.fl.length≤s.clk∧s.clk<3000000000
section
variable {b pp tb lg:Nat} {h h':AH} {w a f:V} {c:PC} {s:PS} {I:Nat→Prop}
theorem C3 {sz:Nat} {v:V} {R:List (List V)} (s:Sl b h sz v R) (x:Wr h I h') (hI:AF v=true∨¬ I (Ar v)):Sl b h' sz v R:=by
 rcases hI with q | q
 ·rcases s with z | ⟨_,_,_,_,rfl,_⟩
  ·exact .inl z
  ·cases q
 ·exact s.same x.next (fun hq=>x.get _ hq q)
theorem PA.same (p:PA b h pp tb lg w a f c s) (x:Wr h I h') (hI:∀ i,I i→i≠pp∧i≠tb∧i≠lg∧i≠Ar w∧i≠Ar a∧(AF f=true∨i≠Ar f)):PA b h' pp tb lg w a f c s:=
 ⟨(x.get _ p.np.1 (fun e=>(hI _ e).1 rfl)).trans p.gp,(x.get _ p.np.2.1 (fun e=>(hI _ e).2.1 rfl)).trans p.gt,(x.get _ p.np.2.2 (fun e=>(hI _ e).2.2.1 rfl)).trans p.gl,
  C3 p.sw x (.inr fun e=>(hI _ e).2.2.2.1 rfl),C3 p.sa x (.inr fun e=>(hI _ e).2.2.2.2.1 rfl),C3 p.sf x (by
   rcases Bool.eq_false_or_eq_true (AF f) with q | q
   ·exact .inl q
   ·exact .inr fun e=>((hI _ e).2.2.2.2.2.resolve_left (by rw [q];decide)) rfl),
  by rw [x.lim];exact p.lim,p.bp,⟨Nat.lt_of_lt_of_le p.np.1 x.next,Nat.lt_of_lt_of_le p.np.2.1 x.next,Nat.lt_of_lt_of_le p.np.2.2 x.next⟩,p.d,p.dw,p.da,p.df,p.l1,p.l2,p.l3,p.l4,p.l5,p.l6⟩
theorem PA.ext (p:PA b h pp tb lg w a f c s) (x:Aq h h'):PA b h' pp tb lg w a f c s:=p.same (I:=fun _=>False) ⟨x.next,x.lim,fun i hi _=>x.get i hi⟩ (fun _ e=>e.elim)
theorem PA.setA {A:List ST} (p:PA b h pp tb lg w a f c s) (x:Wr h (·=Ar a) h') (sa:Sl b h' 9 a (A.map ST.enc)) (hl:A.length=s.all.length) (h4:∀ x∈A,x.r.length=8∧H4 x.r):PA b h' pp tb lg w a f c { s with all:=A }:=by
 obtain ⟨q1,q2,q3,q4⟩:=p.da
 exact ⟨(x.get _ p.np.1 (fun e=>q1 e.symm)).trans p.gp,(x.get _ p.np.2.1 (fun e=>q2 e.symm)).trans p.gt,(x.get _ p.np.2.2 (fun e=>q3 e.symm)).trans p.gl,
  C3 p.sw x (.inr fun e=>q4 e.symm),sa,C3 p.sf x (p.df.imp (fun z=>z) (fun z=>z.2.2.2.2)),by rw [x.lim];exact p.lim,p.bp,⟨Nat.lt_of_lt_of_le p.np.1 x.next,Nat.lt_of_lt_of_le p.np.2.1 x.next,Nat.lt_of_lt_of_le p.np.2.2 x.next⟩,p.d,p.dw,p.da,p.df,p.l1,hl.trans p.l2,p.l3,h4,p.l5,p.l6⟩
theorem PA.setM {A:List ST} {m:List Int} (p:PA b h pp tb lg w a f c s) (x:Wr h (fun j=>j=Ar a∨j=pp) h') (gp:h'.get pp=some ⟨26,[AB c tb lg a m s.clk]⟩) (sa:Sl b h' 9 a (A.map ST.enc)) (hl:A.length=s.all.length) (h4:∀ x∈A,x.r.length=8∧H4 x.r) (hm:m.length=16) (h5:H4 m):PA b h' pp tb lg w a f c { s with all:=A,mem:=m }:=by
 obtain ⟨q1,q2,q3,q4⟩:=p.da
 obtain ⟨d1,d2,d3⟩:=p.d
 exact ⟨gp,(x.get _ p.np.2.1 (fun e=>e.elim (fun e=>q2 e.symm) (fun e=>d1 e.symm))).trans p.gt,(x.get _ p.np.2.2 (fun e=>e.elim (fun e=>q3 e.symm) (fun e=>d2 e.symm))).trans p.gl,
  C3 p.sw x (.inr fun e=>e.elim (fun e=>q4 e.symm) p.dw.1),sa,C3 p.sf x (p.df.imp (fun z=>z) (fun z e=>e.elim z.2.2.2.2 z.1)),by rw [x.lim];exact p.lim,p.bp,⟨Nat.lt_of_lt_of_le p.np.1 x.next,Nat.lt_of_lt_of_le p.np.2.1 x.next,Nat.lt_of_lt_of_le p.np.2.2 x.next⟩,p.d,p.dw,p.da,p.df,p.l1,hl.trans p.l2,hm,h4,h5,p.l6⟩
theorem PA.setW {P:List PR} (p:PA b h pp tb lg w a f c s) (x:Wr h (·=Ar w) h') (sw:Sl b h' 3 w (P.map PR.enc)) (hl:P.length=s.procs.length):PA b h' pp tb lg w a f c { s with procs:=P }:=by
 obtain ⟨q1,q2,q3⟩:=p.dw
 exact ⟨(x.get _ p.np.1 (fun e=>q1 e.symm)).trans p.gp,(x.get _ p.np.2.1 (fun e=>q2 e.symm)).trans p.gt,(x.get _ p.np.2.2 (fun e=>q3 e.symm)).trans p.gl,
  sw,C3 p.sa x (.inr p.da.2.2.2),C3 p.sf x (p.df.imp (fun z=>z) (fun z=>z.2.2.2.1)),by rw [x.lim];exact p.lim,p.bp,⟨Nat.lt_of_lt_of_le p.np.1 x.next,Nat.lt_of_lt_of_le p.np.2.1 x.next,Nat.lt_of_lt_of_le p.np.2.2 x.next⟩,p.d,p.dw,p.da,p.df,by rw [hl];exact p.l1,p.l2.trans hl.symm,p.l3,p.l4,p.l5,p.l6⟩
end
end Go.Ab.T
namespace Go.Ab.T
open Go Go.Ab
set_option maxHeartbeats 8000000
theorem Ij {l:List Int} {i:Nat} {v:Int} (h:H4 l) (h0:0≤v) (h1:v<4294967296):H4 (l.set i v):=fun z hz=>(List.mem_or_eq_of_mem_set hz).elim (h z) (fun e=>by subst e;exact ⟨h0,h1⟩)
theorem DJ {l:List Int} {i:Nat} (h:H4 l):0≤nth l i∧nth l i<4294967296:=by
 rcases Nat.lt_or_ge i l.length with q | q
 ·exact h _ (AP q)
 ·have:nth l i=0:=by unfold nth;rw [List.getD_eq_getElem?_getD,List.getElem?_eq_none q];rfl
  rw [this];omega
theorem Kj (n:Int):0≤IntKind.wrap .u32 n∧IntKind.wrap .u32 n<4294967296:=by
 unfold IntKind.wrap;simp [IntKind.bits,IntKind.signed];omega
theorem aPv {ins:List Int} {t op:Int} {A B C:Nat} {x:ST} (hi:H4 ins) (hB:B≤255) (hC:C≤255):0≤GC ins t op A B C x∧GC ins t op A B C x<4294967296:=by
 unfold GC
 split
 ·exact Kj _
 ·split
  ·exact Kj _
  ·split
   ·exact Kj _
   ·split
    ·exact Kj _
    ·split
     ·split
      ·exact DJ hi
      ·omega
     ·split
      ·exact Kj _
      ·omega
theorem Vu {ins:List Int} {t op:Int} {A B C:Nat} {x:ST} (hi:H4 ins) (hB:B≤255) (hC:C≤255) (hx:x.r.length=8∧H4 x.r):(Cc ins t op A B C x).2.2.r.length=8∧H4 (Cc ins t op A B C x).2.2.r:=by
 unfold Cc
 split
 ·exact hx
 ·have:=aPv (t:=t) (op:=op) (A:=A) (x:=x) hi hB hC
  exact ⟨by simp [hx.1],Ij hx.2 this.1 this.2⟩
theorem mZ {mem:List Int} {op:Int} {A B C:Nat} {x:ST} (hm:mem.length=16∧H4 mem) (hx:x.r.length=8∧H4 x.r):((B8 mem op A B C x).2.2.1.r.length=8∧H4 (B8 mem op A B C x).2.2.1.r)∧(B8 mem op A B C x).2.2.2.length=16∧H4 (B8 mem op A B C x).2.2.2:=by
 unfold B8
 split
 ·exact ⟨hx,hm⟩
 ·split
  ·exact ⟨⟨by simp [hx.1],Ij hx.2 (DJ hm.2).1 (DJ hm.2).2⟩,hm⟩
  ·exact ⟨hx,by simp [hm.1],Ij hm.2 (DJ hx.2).1 (DJ hx.2).2⟩
structure Reg (op:Int) (A B C:Nat):Prop where
 o:0≤op∧op≤17
 m:A≤255∧B≤255∧C≤255
 a:(CR op).1=true→A<8
 b:(CR op).2.1=true→B<8
 c:(CR op).2.2=true→C<8
theorem HE {l:List ST} {i:Nat} {x:ST} (h:∀ y∈l,y.r.length=8∧H4 y.r) (hx:x.r.length=8∧H4 x.r):∀ y∈l.set i x,y.r.length=8∧H4 y.r:=fun y hy=>(List.mem_or_eq_of_mem_set hy).elim (h y) (fun e=>by subst e;exact hx)
def TL (n:Int):Prop:=0≤n∧n<4294967296
theorem Wr.mono {h:AH} {I J:Nat→Prop} {h':AH} (x:Wr h I h') (s:∀ j,I j→J j):Wr h J h':=⟨x.next,x.lim,fun j hj hn=>x.get j hj (fun e=>hn (s j e))⟩
structure Kn where
 σ:Type
 T:Nat
 v:V
 R:σ→AH→(Nat→Prop)→Prop
 send:σ→Nat→Int→Int×σ
 recv:σ→Nat→Int×Int×σ
 change:σ→Int→Int×σ
 stop:σ→Int×σ
structure Kn.Go (k:Kn) (h:AH) (I:Nat→Prop) (q:k.σ) (h':AH) (I':Nat→Prop):Prop where
 w:Wr h I h'
 r:k.R q h' I'
 i:∀ j,I' j→I j∨h.next≤j
structure Kn.Ok (k:Kn):Prop where
 keep:∀ {q:k.σ} {h h':AH} {I J:Nat→Prop},k.R q h I→Wr h J h'→(∀ j,I j→¬ J j)→k.R q h' I
 low:∀ {q:k.σ} {h:AH} {I:Nat→Prop},k.R q h I→∀ j,I j→j<h.next
 send:∃ f,tp.meth k.T "Send"=some ⟨f,none⟩∧∀ (q:k.σ) (h:AH) (I:Nat→Prop) (i:Nat) (n:Int) (K:V→AH→Prop),k.R q h I→i≤255→TL n→(∀ h' I',k.Go h I (k.send q i n).2 h' I'→TL (k.send q i n).1→K (.i .u32 (k.send q i n).1) h')→Cq tp f [k.v,.i .i64 i,.i .u32 n] h K
 recv:∃ f,tp.meth k.T "Recv"=some ⟨f,none⟩∧∀ (q:k.σ) (h:AH) (I:Nat→Prop) (i:Nat) (K:V→AH→Prop),k.R q h I→i≤255→(∀ h' I',k.Go h I (k.recv q i).2.2 h' I'→TL (k.recv q i).1→TL (k.recv q i).2.1→K (.tup [.i .u32 (k.recv q i).1,.i .u32 (k.recv q i).2.1]) h')→Cq tp f [k.v,.i .i64 i] h K
 change:∃ f,tp.meth k.T "Change"=some ⟨f,none⟩∧∀ (q:k.σ) (h:AH) (I:Nat→Prop) (n:Int) (K:V→AH→Prop),k.R q h I→TL n→(∀ h' I',k.Go h I (k.change q n).2 h' I'→TL (k.change q n).1→K (.i .u32 (k.change q n).1) h')→Cq tp f [k.v,.i .u32 n] h K
 stop:∃ f,tp.meth k.T "StopAll"=some ⟨f,none⟩∧∀ (q:k.σ) (h:AH) (I:Nat→Prop) (K:V→AH→Prop),k.R q h I→(∀ h' I',k.Go h I (k.stop q).2 h' I'→TL (k.stop q).1→K (.i .u32 (k.stop q).1) h')→Cq tp f [k.v] h K
def Apart (pp tb lg:Nat) (w a f:V) (I:Nat→Prop):Prop:=∀ i,I i→i≠pp∧i≠tb∧i≠lg∧i≠Ar w∧i≠Ar a∧(AF f=true∨i≠Ar f)
def noK:Kn:=⟨Unit,91,.agg [],fun _ _ I=>∀ j,¬ I j,fun _ _ _=>(3,()),fun _ _=>(0,2,()),fun _ _=>(4,()),fun _=>(4,())⟩
theorem aEw:noK.Ok:=by
 have u0:TL 0:=⟨by decide,by decide⟩
 have u2:TL 2:=⟨by decide,by decide⟩
 have u3:TL 3:=⟨by decide,by decide⟩
 have u4:TL 4:=⟨by decide,by decide⟩
 refine ⟨fun r _ _=>r,fun r j e=>(r j e).elim,⟨_,LH,fun q h I i n K r _ _ kk=>?_⟩,⟨_,LG,fun q h I i K r _ kk=>?_⟩,⟨_,Jk,fun q h I n K r _ kk=>?_⟩,⟨_,H8,fun q h I K r kk=>?_⟩⟩
 ·have f:=kk (h.alloc ⟨0,[[]]⟩) I ⟨Wr.refl.alloc,r,fun j e=>.inl e⟩ u3
  clear kk
  show Cq tp _ [.agg [],.i .i64 i,.i .u32 n] h K
  refine Ac fE (by simp [JZ]) fun wf rp=>?_;unfold JZ;simp (disch:=omega)only[go_sem, *]
  exact f
 ·have f:=kk (h.alloc ⟨0,[[]]⟩) I ⟨Wr.refl.alloc,r,fun j e=>.inl e⟩ u0 u2
  clear kk
  show Cq tp _ [.agg [],.i .i64 i] h K
  refine Ac fD (by simp [JY]) fun wf rp=>?_;unfold JY;simp (disch:=omega)only[go_sem, *]
  exact f
 ·have f:=kk (h.alloc ⟨0,[[]]⟩) I ⟨Wr.refl.alloc,r,fun j e=>.inl e⟩ u4
  clear kk
  show Cq tp _ [.agg [],.i .u32 n] h K
  refine Ac fC (by simp [JX]) fun wf rp=>?_;unfold JX;simp (disch:=omega)only[go_sem, *]
  exact f
 ·have f:=kk (h.alloc ⟨0,[[]]⟩) I ⟨Wr.refl.alloc,r,fun j e=>.inl e⟩ u4
  clear kk
  show Cq tp _ [.agg []] h K
  refine Ac fF (by simp [J0]) fun wf rp=>?_;unfold J0;simp (disch:=omega)only[go_sem, *]
  exact f
end Go.Ab.T
namespace Go.Ab.T
open Go Go.Ab
set_option maxHeartbeats 8000000
@[go_sem] def aPE (B:List Int):List V:=[.fl 1 (B.map FW)]
@[go_sem] def aPF (B:List Int):List V:=[.fl 1 (B.map Lp)]
structure SS (id:Nat) (L:List Int) (h h':AH) (r0:List V) (v1 v2:V) (Ps Is:List (List Int)) (j:Nat):Prop where
 up:He h id (Ap L j) h'
 jl:j≤L.length
 nx:h.next+3≤h'.next
 b0:h'.get h.next=some ⟨3,[r0]⟩
 b1:h'.get (h.next+1)=some ⟨2,[[.ns,.ns]]⟩
 b2:h'.get (h.next+2)=some ⟨2,[[v1,v2]]⟩
 s1:Sl (h.next+3) h' 1 v1 (Ps.map aPE)
 s2:Sl (h.next+3) h' 1 v2 (Is.map aPF)
 dj:AF v1=true∨AF v2=true∨Ar v1≠Ar v2
section
variable {id j:Nat} {L:List Int} {h h' h2:AH} {r0:List V} {v1 v2 w:V} {Ps Is:List (List Int)}
theorem SS.tape (s:SS id L h h' r0 v1 v2 Ps Is j) (hid:id<h.next) {k:Nat} (hk:k≤L.length):SS id L h (h'.put id (Ap L k)) r0 v1 v2 Ps Is k:=by
 have o1:=AD s.s1
 have o2:=AD s.s2
 exact ⟨Cm s.up,hk,s.nx,by rw [Ae,Ag (by omega)];exact s.b0,by rw [Ae,Ag (by omega)];exact s.b1,by rw [Ae,Ag (by omega)];exact s.b2,
  AR s.s1 _ _ (o1.imp (fun z=>z) (fun z=>by omega)),AR s.s2 _ _ (o2.imp (fun z=>z) (fun z=>by omega)),s.dj⟩
theorem SS.ext (s:SS id L h h' r0 v1 v2 Ps Is j) (hid:id<h.next) (x:Aq h' h2):SS id L h h2 r0 v1 v2 Ps Is j:=by
 have n:=s.nx
 have m:=x.next
 exact ⟨RN s.up hid x,s.jl,by omega,(x.get _ (by omega)).trans s.b0,(x.get _ (by omega)).trans s.b1,(x.get _ (by omega)).trans s.b2,s.s1.ext x,s.s2.ext x,s.dj⟩
theorem SS.low {b:Nat} (s:SS id L h h' r0 v1 v2 Ps Is j) (hid:id<h.next) (hb:h.next+3≤b) (l1:AF v1=true∨Ar v1<b) (l2:AF v2=true∨Ar v2<b) (n:h'.next≤h2.next) (lm:h2.lim=h'.lim) (g:∀ i,i<b→h2.get i=h'.get i):SS id L h h2 r0 v1 v2 Ps Is j:=by
 have x:Wr h' (b≤·) h2:=⟨n,lm,fun i _ hn=>g i (by omega)⟩
 have nx:=s.nx
 have up:=s.up
 have un:=up.next
 exact ⟨⟨by omega,lm.trans up.lim,(g _ (by omega)).trans up.here,fun i hi hn=>(g i (by omega)).trans (up.get i hi hn)⟩,s.jl,by omega,(g _ (by omega)).trans s.b0,(g _ (by omega)).trans s.b1,(g _ (by omega)).trans s.b2,
  C3 s.s1 x (l1.imp (fun z=>z) (fun z=>by omega)),C3 s.s2 x (l2.imp (fun z=>z) (fun z=>by omega)),s.dj⟩
end
end Go.Ab.T
namespace Go.Ab.T
open Go Go.Ab
set_option maxHeartbeats 8000000
def DF (c:PC) (k:Nat) (fr:Bool):Bool:=decide (k<c.c.chans.length)&&if fr=true then decide ((nth c.c.chans k).src=c.p) else decide ((nth c.c.chans k).dst=c.p)
def B1 (c:PC) (k:Kn) (q:k.σ) (op:Int) (A B:Nat) (x:ST):Int×Int×ST×k.σ:=
 if op=15 then ((k.change q (nth x.r A)).1,0,⟨x.r.set 0 (k.change q (nth x.r A)).1,x.pc⟩,(k.change q (nth x.r A)).2)
 else if op=16 then ((k.stop q).1,0,⟨x.r.set 0 (k.stop q).1,x.pc⟩,(k.stop q).2)
 else if DF c A (decide (op=11))=false then (0,5,x,q)
 else if op=11 then (nth x.r B,0,⟨x.r.set 0 (k.send q A (nth x.r B)).1,x.pc⟩,(k.send q A (nth x.r B)).2)
 else ((k.recv q A).1,0,⟨(if (k.recv q A).2.1=2 then x.r else x.r.set B (k.recv q A).1).set 0 (k.recv q A).2.1,x.pc⟩,(k.recv q A).2.2)
section
variable {b pp tb lg i A B C:Nat} {h:AH} {w a f:V} {c:PC} {s:PS} {t op:Int} {K:V→AH→Prop} {k:Kn} {q:k.σ} {I:Nat→Prop}
theorem IH {fr:Bool} (gp:h.get pp=some ⟨26,[AB c tb lg a s.mem s.clk]⟩) (hpn:pp<h.next) (hlo:h.lim≤h.next) (h3:s.mem.length=16) (kk:∀ h',Aq h h'→K (.b (DF c A fr)) h'):Cq tp WV [.p pp 0 0,.i .i64 A,.b fr] h K:=by
 have f1:=AB.f1 (c:=c) (tb:=tb) (lg:=lg) (a:=a) (mem:=s.mem) (clk:=s.clk)
 have f3:=AB.f3 (c:=c) (tb:=tb) (lg:=lg) (a:=a) (mem:=s.mem) (clk:=s.clk)
 have rl:=AB.len (c:=c) (tb:=tb) (lg:=lg) (a:=a) (clk:=s.clk) h3
 by_cases hA:A<c.c.chans.length
 ·have z2:¬ (c.c.chans.length:Int)≤A:=by omega
  have X:=fun kb=>kk ((h.alloc ⟨6,[[.i .i64 0,.i .i64 0,.b false,.i .i64 0,.i .u32 0,.i .i64 0]]⟩).put h.next kb) (by (repeat (first | exact Aq.refl _ | refine Aq.alloc ?_ _ | (refine Aq.put ?_ _ _ ?_;rotate_left;(first | omega | (simp only [Af,Ai];omega))))))
  cases fr
  ·have e:DF c A false=decide ((nth c.c.chans A).dst=c.p):=by unfold DF;rw [decide_eq_true hA,Bool.true_and];rfl
   rw [e] at X
   clear kk e
   refine Ac Lu (by simp [FA]) fun wf rp=>?_;unfold FA;simp (disch:=omega)only[go_sem, *]
  ·have e:DF c A true=decide ((nth c.c.chans A).src=c.p):=by unfold DF;rw [decide_eq_true hA,Bool.true_and];rfl
   rw [e] at X
   clear kk e
   by_cases hz:(nth c.c.chans A).src=c.p
   ·rw [decide_eq_true hz] at X
    refine Ac Lu (by simp [FA]) fun wf rp=>?_;unfold FA;simp (disch:=omega)only[go_sem, *]
   ·rw [decide_eq_false hz] at X
    refine Ac Lu (by simp [FA]) fun wf rp=>?_;unfold FA;simp (disch:=omega)only[go_sem, *]
 ·have e:DF c A fr=false:=by unfold DF;rw [decide_eq_false hA,Bool.false_and]
  rw [e] at kk
  have z2:(c.c.chans.length:Int)≤A:=by omega
  have f:=kk h (Aq.refl _)
  clear kk e
  refine Ac Lu (by simp [FA]) fun wf rp=>?_;unfold FA;simp (disch:=omega)only[go_sem, *]
theorem EA {x:ST} {n:Int} {j:Nat} (hx:x.r.length=8∧H4 x.r) (h:TL n):(x.r.set j n).length=8∧H4 (x.r.set j n):=⟨by simp [hx.1],Ij hx.2 h.1 h.2⟩
theorem Ve {x:ST} (e:DF c A true=false):B1 c k q 11 A B x=(0,5,x,q):=by
 unfold B1
 rw [if_neg (by decide),if_neg (by decide),if_pos (show DF c A (decide ((11:Int)=11))=false from e)]
theorem Sf {x:ST} (e:DF c A false=false):B1 c k q 12 A B x=(0,5,x,q):=by
 unfold B1
 rw [if_neg (by decide),if_neg (by decide),if_pos (show DF c A (decide ((12:Int)=11))=false from e)]
theorem Yv {s:PS} {i:Nat} (hi:i<s.all.length):({ s with all:=s.all.set i (nth s.all i) }:PS)=s:=by rw [Bz hi,List.set_getElem_self]
theorem X5 {x:ST} (hr:x.r.length=8) (v:Int):(ST.enc x).set 0 (.i .u32 v)=ST.enc ⟨x.r.set 0 v,x.pc⟩∧(ST.enc ⟨x.r.set 0 v,x.pc⟩).length=9∧(ST.enc ⟨x.r.set 0 v,x.pc⟩)[0]?=some (.i .u32 v):=by
 refine ⟨ST.setr hr (by decide),ST.len (by simp [hr]), ?_⟩
 rw [ST.reg (by simp [hr]) (by decide)]
 simp [nth,hr]
theorem dI (ok:k.Ok) (p:PA b h pp tb lg w a f c s) (hi:i<s.all.length) (g:Reg op A B C) (hop:op=11∨op=12∨op=15∨op=16) (r:k.R q h I) (dj:Apart pp tb lg w a f I)
    (kk:∀ h' I',Wr h (fun j=>j=Ar a∨I j) h'→k.R (B1 c k q op A B (nth s.all i)).2.2.2 h' I'→(∀ j,I' j→I j∨h.next≤j)→PA b h' pp tb lg w a f c { s with all:=s.all.set i (B1 c k q op A B (nth s.all i)).2.2.1 }→K (.tup [.i .u32 (B1 c k q op A B (nth s.all i)).1,.i .i64 (B1 c k q op A B (nth s.all i)).2.1]) h'):Cq tp Rk [.p pp 0 0,.agg [.i .i64 op,.i .i64 A,.i .i64 B,.i .i64 C],.p (Ar a) (Cx a+i) 0,.ifc k.T k.v] h K:=by
 obtain ⟨ga,gb,gc⟩:=g.m
 obtain ⟨sg,sr,slt,slo,sat,set⟩:=CV p.sa hi
 have hlim:=p.lim
 have hpn:=p.np.1
 have hx:=p.l4 _ (AP hi)
 have he:=ST.len hx.1
 have m1:∀ n:Nat,n*1=n:=Nat.mul_one
 have X1:Aq h (h.alloc ⟨4,[[.i .i64 op,.i .i64 A,.i .i64 B,.i .i64 C]]⟩):=by (repeat (first | exact Aq.refl _ | refine Aq.alloc ?_ _ | (refine Aq.put ?_ _ _ ?_;rotate_left;(first | omega | (simp only [Af,Ai];omega)))))
 have b1:(h.alloc ⟨4,[[.i .i64 op,.i .i64 A,.i .i64 B,.i .i64 C]]⟩).get h.next=some ⟨4,[[.i .i64 op,.i .i64 A,.i .i64 B,.i .i64 C]]⟩∧h.next<(h.alloc ⟨4,[[.i .i64 op,.i .i64 A,.i .i64 B,.i .i64 C]]⟩).next:=⟨by rw [AV,Ax rfl],by simp only [go_sem];omega⟩
 have rx:∀ {g:AH},Aq h g→k.R q g I:=fun x=>ok.keep (J:=fun _=>False) r (Wr.ext Wr.refl x) (fun _ _ e=>e)
 have r1:=rx X1
 have p1:=p.ext X1
 have lw:=ok.low r
 have at2:∀ {g h2:AH} {I2:Nat→Prop} {q2:k.σ},Aq h g→g.get h.next=some ⟨4,[[.i .i64 op,.i .i64 A,.i .i64 B,.i .i64 C]]⟩∧h.next<g.next→k.Go g I q2 h2 I2→PA b h2 pp tb lg w a f c s∧h2.get (Ar a)=some ⟨9,A2 h2 a⟩∧(A2 h2 a)[Cx a+i]?=some (ST.enc (nth s.all i))∧h2.get h.next=some ⟨4,[[.i .i64 op,.i .i64 A,.i .i64 B,.i .i64 C]]⟩∧h2.lim≤Ar a∧∀ x,((A2 h2 a).set (Cx a+i) x)[Cx a+i]?=some x:=fun X gb go=>by
  have p2:=(p.ext X).same go.w dj
  have e:=CV p2.sa hi
  have l2:=p2.lim
  exact ⟨p2,e.g,e.r,(go.w.get h.next gb.2 (fun e=>Nat.lt_irrefl _ (lw _ e))).trans gb.1,by omega,fun x=>List.getElem?_set_self (by have:=e.r;rw [List.getElem?_eq_some_iff] at this;exact this.1)⟩
 have fin:∀ {g h2:AH} {I2:Nat→Prop} {q2:k.σ} {x':ST} {v fl:Int},Aq h g→g.get h.next=some ⟨4,[[.i .i64 op,.i .i64 A,.i .i64 B,.i .i64 C]]⟩∧h.next<g.next→B1 c k q op A B (nth s.all i)=(v,fl,x',q2)→k.Go g I q2 h2 I2→(x'.r.length=8∧H4 x'.r)→K (.tup [.i .u32 v,.i .i64 fl]) (h2.put (Ar a) ⟨9,(A2 h2 a).set (Cx a+i) (ST.enc x')⟩):=fun X gb e go hx'=>by
  have p2:=(at2 X gb go).1
  have z:=kk
  rw [e] at z
  have nx:=X.next
  refine z _ _ ?_ (ok.keep (J:=(·=Ar a)) go.r (Wr.refl.put (.inr rfl)) (fun j e1 e2=>?_)) (fun j e=>(go.i j e).imp (fun z=>z) (fun z=>by omega)) (p2.setA (Wr.refl.put (.inr rfl)) ((CV p2.sa hi).set _ (Aq.refl _) _) (by simp) (HE p.l4 hx'))
  ·exact Wr.put (Wr.trans (Wr.ext Wr.refl X) go.w (fun j _ e=>.inr e)) (.inr (.inl rfl))
  ·rcases go.i j e1 with z | z
   ·exact (dj j z).2.2.2.2.1 e2
   ·omega
 clear set r
 rcases hop with rfl | rfl | rfl | rfl
 ·obtain ⟨f0,mf,sp⟩:=ok.send
  have hB:B<8:=g.b rfl
  have eB:=ST.reg hx.1 hB
  have hB8:B+1≤8+1:=by omega
  have gp1:=p1.gp
  have hpn1:=p1.np.1
  have ml:=p.l3
  have ll:h.lim≤(h.alloc ⟨4,[[.i .i64 11,.i .i64 A,.i .i64 B,.i .i64 C]]⟩).next:=by simp only [go_sem];omega
  have no:DF c A true=false→∀ g,Aq h g→K (.tup [.i .u32 0,.i .i64 5]) g:=fun e g X=>by
   have z:=kk
   rw [Ve e] at z
   exact z g I (Wr.ext Wr.refl X) (rx X) (fun j e=>.inl e) (by rw [Yv hi];exact p.ext X)
  clear kk
  refine Ac Lt (by simp [Fy]) fun wf rp=>?_;unfold Fy;simp (disch:=omega)only[go_sem, *]
  refine IH gp1 hpn1 ll ml ?_
  intro h3 x3
  have X3:Aq h h3:=X1.trans x3
  have b3:=b1.1
  rw [← x3.get h.next b1.2] at b3
  have n3:=x3.next
  have a3:=(X3.get _ slt).trans sg
  simp only [go_sem] at n3
  cases hc:DF c A true with
  | false=>
   have f:=no hc h3 X3
   clear no fin at2
   simp (disch:=omega)only[go_sem, *]
  | true=>
   clear no
   simp (disch:=omega)only[go_sem, *]
   refine sp q h3 I _ _ _ (rx X3) ga (DJ hx.2) ?_
   intro h2 I2 go u
   obtain ⟨-,k1,k2,k3,k4,k5⟩:=at2 X3 ⟨b3,by omega⟩ go
   have f:=fin (v:=nth (nth s.all i).r B) (fl:=0) (x':=⟨(nth s.all i).r.set 0 (k.send q A (nth (nth s.all i).r B)).1,(nth s.all i).pc⟩) X3 ⟨b3,by omega⟩ (by unfold B1;rw [if_neg (by decide),if_neg (by decide),if_neg (by rw [show decide ((11:Int)=11)=true from rfl,hc];decide),if_pos rfl]) go (EA hx u)
   obtain ⟨s0,s1,s2⟩:=X5 hx.1 (k.send q A (nth (nth s.all i).r B)).1
   clear fin at2 sp go
   simp (disch:=omega)only[go_sem, *]
 ·obtain ⟨f0,mf,sp⟩:=ok.recv
  have hB:B<8:=g.b rfl
  have hB8:B+1≤8+1:=by omega
  have gp1:=p1.gp
  have hpn1:=p1.np.1
  have ml:=p.l3
  have ll:h.lim≤(h.alloc ⟨4,[[.i .i64 12,.i .i64 A,.i .i64 B,.i .i64 C]]⟩).next:=by simp only [go_sem];omega
  have no:DF c A false=false→∀ g,Aq h g→K (.tup [.i .u32 0,.i .i64 5]) g:=fun e g X=>by
   have z:=kk
   rw [Sf e] at z
   exact z g I (Wr.ext Wr.refl X) (rx X) (fun j e=>.inl e) (by rw [Yv hi];exact p.ext X)
  clear kk
  refine Ac Lt (by simp [Fy]) fun wf rp=>?_;unfold Fy;simp (disch:=omega)only[go_sem, *]
  refine IH gp1 hpn1 ll ml ?_
  intro h3 x3
  have X3:Aq h h3:=X1.trans x3
  have b3:=b1.1
  rw [← x3.get h.next b1.2] at b3
  have n3:=x3.next
  have a3:=(X3.get _ slt).trans sg
  simp only [go_sem] at n3
  cases hc:DF c A false with
  | false=>
   have f:=no hc h3 X3
   clear no fin at2
   simp (disch:=omega)only[go_sem, *]
  | true=>
   clear no
   simp (disch:=omega)only[go_sem, *]
   refine sp q h3 I _ _ (rx X3) ga ?_
   intro h2 I2 go u u2
   obtain ⟨-,k1,k2,k3,k4,k5⟩:=at2 X3 ⟨b3,by omega⟩ go
   have ce:B1 c k q 12 A B (nth s.all i)=((k.recv q A).1,0,⟨(if (k.recv q A).2.1=2 then (nth s.all i).r else (nth s.all i).r.set B (k.recv q A).1).set 0 (k.recv q A).2.1,(nth s.all i).pc⟩,(k.recv q A).2.2):=by
    unfold B1
    rw [if_neg (by decide),if_neg (by decide),if_neg (by rw [show decide ((12:Int)=11)=false from rfl,hc];decide),if_neg (by decide)]
   by_cases hz:(k.recv q A).2.1=2
   ·rw [if_pos hz] at ce
    have f:=fin X3 ⟨b3,by omega⟩ ce go (EA hx u2)
    obtain ⟨s0,s1,s2⟩:=X5 hx.1 (k.recv q A).2.1
    rw [hz] at f s0 s1 s2
    clear fin at2 sp go ce
    simp (disch:=omega)only[go_sem, *]
   ·rw [if_neg hz] at ce
    have hx3:=EA (x:=nth s.all i) (j:=B) hx u
    have f:=fin X3 ⟨b3,by omega⟩ ce go (EA (x:=⟨(nth s.all i).r.set B (k.recv q A).1,(nth s.all i).pc⟩) hx3 u2)
    have s3:=ST.setr (v:=(k.recv q A).1) hx.1 hB
    have he3:=ST.len (x:=⟨(nth s.all i).r.set B (k.recv q A).1,(nth s.all i).pc⟩) hx3.1
    obtain ⟨s0,s1,s2⟩:=X5 (x:=⟨(nth s.all i).r.set B (k.recv q A).1,(nth s.all i).pc⟩) hx3.1 (k.recv q A).2.1
    clear fin at2 sp go ce
    simp (disch:=omega)only[go_sem, *]
 ·obtain ⟨f0,mf,sp⟩:=ok.change
  have hA:A<8:=g.a rfl
  have eA:=ST.reg hx.1 hA
  have hA8:A+1≤8+1:=by omega
  clear kk
  refine Ac Lt (by simp [Fy]) fun wf rp=>?_;unfold Fy;simp (disch:=omega)only[go_sem, *]
  refine sp q _ I _ _ r1 (DJ hx.2) ?_
  intro h2 I2 go u
  obtain ⟨-,k1,k2,k3,k4,k5⟩:=at2 X1 b1 go
  have f:=fin (v:=(k.change q (nth (nth s.all i).r A)).1) (fl:=0) (x':=⟨(nth s.all i).r.set 0 (k.change q (nth (nth s.all i).r A)).1,(nth s.all i).pc⟩) X1 b1 (by unfold B1;rw [if_pos rfl]) go (EA hx u)
  obtain ⟨s0,s1,s2⟩:=X5 hx.1 (k.change q (nth (nth s.all i).r A)).1
  clear fin at2 sp go
  simp (disch:=omega)only[go_sem, *]
 ·obtain ⟨f0,mf,sp⟩:=ok.stop
  clear kk
  refine Ac Lt (by simp [Fy]) fun wf rp=>?_;unfold Fy;simp (disch:=omega)only[go_sem, *]
  refine sp q _ I _ r1 ?_
  intro h2 I2 go u
  obtain ⟨-,k1,k2,k3,k4,k5⟩:=at2 X1 b1 go
  have f:=fin (v:=(k.stop q).1) (fl:=0) (x':=⟨(nth s.all i).r.set 0 (k.stop q).1,(nth s.all i).pc⟩) X1 b1 (by unfold B1;rw [if_neg (by decide),if_pos rfl]) go (EA hx u)
  obtain ⟨s0,s1,s2⟩:=X5 hx.1 (k.stop q).1
  clear fin at2 sp go
  simp (disch:=omega)only[go_sem, *]
end
end Go.Ab.T
namespace Go.Ab.T
open Go Go.Ab
set_option maxHeartbeats 8000000
def E9 (c:PC) (k:Kn) (q:k.σ) (s:PS) (t:Int) (i:Nat) (op:Int) (A B C:Nat):Int×Int×PS×k.σ:=
 if op=1∨op=2∨op=3∨op=4∨op=5∨op=13∨op=14 then ((Cc c.ins t op A B C (nth s.all i)).1,(Cc c.ins t op A B C (nth s.all i)).2.1,{ s with all:=s.all.set i (Cc c.ins t op A B C (nth s.all i)).2.2 },q)
 else if op=6∨op=7 then ((B8 s.mem op A B C (nth s.all i)).1,(B8 s.mem op A B C (nth s.all i)).2.1,{ s with all:=s.all.set i (B8 s.mem op A B C (nth s.all i)).2.2.1,mem:=(B8 s.mem op A B C (nth s.all i)).2.2.2 },q)
 else if op=8 then (0,0,{ s with all:=s.all.set i ⟨(nth s.all i).r,256*B+C⟩ },q)
 else if op=9 then (0,0,if nth (nth s.all i).r A=0 then { s with all:=s.all.set i ⟨(nth s.all i).r,256*B+C⟩ } else s,q)
 else if op=10 then (0,0,{ s with procs:=s.procs.set i { nth s.procs i with wake:=t+nth (nth s.all i).r A+1 } },q)
 else if op=17 then (0,0,{ s with procs:=s.procs.set i { nth s.procs i with ended:=true } },q)
 else if op=11∨op=12∨op=15∨op=16 then ((B1 c k q op A B (nth s.all i)).1,(B1 c k q op A B (nth s.all i)).2.1,{ s with all:=s.all.set i (B1 c k q op A B (nth s.all i)).2.2.1 },(B1 c k q op A B (nth s.all i)).2.2.2) else (0,0,s,q)
section
variable {b pp tb lg i A B C:Nat} {h:AH} {w a f:V} {c:PC} {s:PS} {t op:Int} {K:V→AH→Prop} {k:Kn} {q:k.σ} {I:Nat→Prop}
theorem aPw (ok:k.Ok) (p:PA b h pp tb lg w a f c s) (hi:i<s.all.length) (g:Reg op A B C) (r:k.R q h I) (dj:Apart pp tb lg w a f I) (hins:H4 c.ins) (hil:c.ins.length<4000000000) (ht:0≤t) (ht2:t<3000000000)
    (kk:∀ h' I',Wr h (fun j=>(j=pp∨j=Ar w∨j=Ar a)∨I j) h'→k.R (E9 c k q s t i op A B C).2.2.2 h' I'→(∀ j,I' j→I j∨h.next≤j)→PA b h' pp tb lg w a f c (E9 c k q s t i op A B C).2.2.1→K (.tup [.i .u32 (E9 c k q s t i op A B C).1,.i .i64 (E9 c k q s t i op A B C).2.1]) h'):Cq tp Q5 [.p pp 0 0,.agg [.i .i64 op,.i .i64 A,.i .i64 B,.i .i64 C],.i .i64 i,.i .i64 t,.ifc k.T k.v] h K:=by
 obtain ⟨sg,sr,slt,slo,sat,set⟩:=CV p.sa hi
 have gp:=p.gp
 have hx:=p.l4 _ (AP hi)
 obtain ⟨ga,gb,gc⟩:=g.m
 obtain ⟨np1,np2,np3⟩:=p.np
 obtain ⟨bp1,bp2,bp3⟩:=p.bp
 have hlim:=p.lim
 have at0:=sat (A2 h a)
 have f6:=AB.f6 (c:=c) (tb:=tb) (lg:=lg) (a:=a) (mem:=s.mem) (clk:=s.clk)
 have f7:=AB.f7 (c:=c) (tb:=tb) (lg:=lg) (a:=a) (mem:=s.mem) (clk:=s.clk)
 have f1:=AB.f1 (c:=c) (tb:=tb) (lg:=lg) (a:=a) (mem:=s.mem) (clk:=s.clk)
 have rl:=AB.len (c:=c) (tb:=tb) (lg:=lg) (a:=a) (clk:=s.clk) p.l3
 have X1:Aq h (h.alloc ⟨4,[[.i .i64 op,.i .i64 A,.i .i64 B,.i .i64 C]]⟩):=by (repeat (first | exact Aq.refl _ | refine Aq.alloc ?_ _ | (refine Aq.put ?_ _ _ ?_;rotate_left;(first | omega | (simp only [Af,Ai];omega)))))
 have p1:=p.ext X1
 have wr1:Wr h (fun j=>j=pp∨j=Ar w∨j=Ar a) (h.alloc ⟨4,[[.i .i64 op,.i .i64 A,.i .i64 B,.i .i64 C]]⟩):=Wr.refl.alloc
 have kk0:∀ {v fl:Int} {s':PS},E9 c k q s t i op A B C=(v,fl,s',q)→∀ h',Wr h (fun j=>j=pp∨j=Ar w∨j=Ar a) h'→PA b h' pp tb lg w a f c s'→K (.tup [.i .u32 v,.i .i64 fl]) h':=fun e h' x y=>by
  have z:=kk
  rw [e] at z
  exact z h' I (x.mono fun _ e=>.inl e) (ok.keep r x (fun j e1 e2=>by
   obtain ⟨d1,d2,d3,d4,d5,d6⟩:=dj j e1
   rcases e2 with e2 | e2 | e2
   ·exact d1 e2
   ·exact d4 e2
   ·exact d5 e2)) (fun j e=>.inl e) y
 have hop:(op=1∨op=2∨op=3∨op=4∨op=5∨op=13∨op=14)∨(op=6∨op=7)∨op=8∨op=9∨op=10∨op=17∨(op=11∨op=12∨op=15∨op=16)∨op=0:=by
  have:=g.o;omega
 rcases hop with hop | hop | rfl | rfl | rfl | rfl | hop | rfl
 ·have e:E9 c k q s t i op A B C=((Cc c.ins t op A B C (nth s.all i)).1,(Cc c.ins t op A B C (nth s.all i)).2.1,{ s with all:=s.all.set i (Cc c.ins t op A B C (nth s.all i)).2.2 },q):=if_pos hop
  replace kk:=kk0 e
  clear kk0
  have hA:A<8:=g.a (by rcases hop with rfl | rfl | rfl | rfl | rfl | rfl | rfl<;>rfl)
  have hB:op=2∨op=3∨op=4∨op=5→B<8∧C<8:=fun q=>⟨g.b (by rcases q with rfl | rfl | rfl | rfl<;>rfl),g.c (by rcases q with rfl | rfl | rfl | rfl<;>rfl)⟩
  have hcl:=Vu (t:=t) (op:=op) (A:=A) hins gb gc hx
  clear set sr e
  rcases hop with rfl | rfl | rfl | rfl | rfl | rfl | rfl<;>(
   refine Ac ET (by simp [Ci]) fun wf rp=>?_;unfold Ci;simp (disch:=omega)only[go_sem, *]
   refine Vt (t:=t) (by decide) hA hB gb gc p1.gp p.l3 p1.np.1 p1.sa hi p1.lim hx.1 ht hil (fun h' x' s'=>?_)
   have fin:=kk h' (wr1.trans x' (fun j _ e=>.inr (.inr e))) (p1.setA x' s' (by simp) (HE p.l4 hcl))
   clear kk x' s' p1 wr1 p
   simp (disch:=omega)only[go_sem, *])
 ·have e:E9 c k q s t i op A B C=((B8 s.mem op A B C (nth s.all i)).1,(B8 s.mem op A B C (nth s.all i)).2.1,{ s with all:=s.all.set i (B8 s.mem op A B C (nth s.all i)).2.2.1,mem:=(B8 s.mem op A B C (nth s.all i)).2.2.2 },q):=by
   unfold E9;rw [if_neg (by omega),if_pos hop]
  replace kk:=kk0 e
  clear kk0
  have hA:A<8:=g.a (by rcases hop with rfl | rfl<;>rfl)
  have hB:B<8:=g.b (by rcases hop with rfl | rfl<;>rfl)
  have hwl:=mZ (op:=op) (A:=A) (B:=B) (C:=C) ⟨p.l3,p.l5⟩ hx
  clear set sr e
  rcases hop with rfl | rfl<;>(
   refine Ac ET (by simp [Ci]) fun wf rp=>?_;unfold Ci;simp (disch:=omega)only[go_sem, *]
   refine mY (by decide) hA hB gc p1.gp p.l3 p1.np.1 p1.sa hi p1.lim bp1 p.da.1 hx.1 (DJ hx.2) (fun h' x' g' s'=>?_)
   have fin:=kk h' (wr1.trans x' (fun j _ e=>e.elim (fun e=>.inr (.inr e)) .inl)) (p1.setM x' g' s' (by simp) (HE p.l4 hwl.1) hwl.2.1 hwl.2.2)
   clear kk x' s' p1 wr1 p g'
   simp (disch:=omega)only[go_sem, *])
 ·have im:=P7 (x:=⟨8,A,B,C⟩) ⟨by simp;omega,by simp;omega,by simp;omega⟩
  have ei:SL ⟨8,A,B,C⟩=256*B+C:=rfl
  rw [ei] at im
  have sp:=fun v=>ST.setpc (v:=v) hx.1
  have he:=ST.len hx.1
  have e8:=ST.at8 hx.1
  have hle:h.lim≤Ar a:=by omega
  clear ei
  have e:E9 c k q s t i 8 A B C=(0,0,{ s with all:=s.all.set i ⟨(nth s.all i).r,256*B+C⟩ },q):=rfl
  replace kk:=kk0 e
  clear kk0
  have fin:=kk _ (wr1.put (.inr (.inr (.inr rfl)))) (p1.setA ((Wr.refl (I:=(·=Ar a))).put (.inr rfl)) (set _ X1 ⟨(nth s.all i).r,256*B+C⟩) (by simp) (HE p.l4 ⟨hx.1,hx.2⟩))
  clear kk p1 wr1 p set e X1
  refine Ac ET (by simp [Ci]) fun wf rp=>?_;unfold Ci;simp (disch:=omega)only[go_sem, *]
  refine Pf.go (im) (by simp only [go_sem]) fun _=>?_;simp (disch:=omega)only[go_sem, *]
 ·have im:=P7 (x:=⟨9,A,B,C⟩) ⟨by simp;omega,by simp;omega,by simp;omega⟩
  have ei:SL ⟨9,A,B,C⟩=256*B+C:=rfl
  rw [ei] at im
  have sp:=fun v=>ST.setpc (v:=v) hx.1
  have he:=ST.len hx.1
  have e8:=ST.at8 hx.1
  have hle:h.lim≤Ar a:=by omega
  clear ei
  have hA:A<8:=g.a rfl
  have eA:=ST.reg hx.1 hA
  have hA8:A≤8:=by omega
  have m1:∀ n:Nat,n*1=n:=Nat.mul_one
  have e:E9 c k q s t i 9 A B C=(0,0,if nth (nth s.all i).r A=0 then { s with all:=s.all.set i ⟨(nth s.all i).r,256*B+C⟩ } else s,q):=rfl
  replace kk:=kk0 e
  clear kk0
  by_cases hz:nth (nth s.all i).r A=0
  ·rw [if_pos hz] at kk
   have fin:=kk _ (wr1.put (.inr (.inr (.inr rfl)))) (p1.setA ((Wr.refl (I:=(·=Ar a))).put (.inr rfl)) (set _ X1 ⟨(nth s.all i).r,256*B+C⟩) (by simp) (HE p.l4 ⟨hx.1,hx.2⟩))
   clear kk p1 wr1 p set e X1
   refine Ac ET (by simp [Ci]) fun wf rp=>?_;unfold Ci;simp (disch:=omega)only[go_sem, *]
   refine Pf.go (im) (by simp only [go_sem]) fun _=>?_;simp (disch:=omega)only[go_sem, *]
  ·rw [if_neg hz] at kk
   have fin:=kk _ wr1 p1
   clear kk p1 wr1 p set e X1
   refine Ac ET (by simp [Ci]) fun wf rp=>?_;unfold Ci;simp (disch:=omega)only[go_sem, *]
 ·have hA:A<8:=g.a rfl
  have eA:=ST.reg hx.1 hA
  have hu:=DJ (i:=A) hx.2
  have hA8:A≤8:=by omega
  have m1:∀ n:Nat,n*1=n:=Nat.mul_one
  have he:=ST.len hx.1
  have hip:i<s.procs.length:=by rw [← p.l2];exact hi
  have e:E9 c k q s t i 10 A B C=(0,0,{ s with procs:=s.procs.set i { nth s.procs i with wake:=t+nth (nth s.all i).r A+1 } },q):=rfl
  replace kk:=kk0 e
  clear kk0
  clear set e
  refine Ac ET (by simp [Ci]) fun wf rp=>?_;unfold Ci;simp (disch:=omega)only[go_sem, *]
  refine Yt p1.gt p1.sw hip p1.lim p.dw.2.1 ?_
  intro h' x' s'
  have fin:=kk h' (wr1.trans x' (fun j _ e=>.inr (.inl e))) (p1.setW x' s' (by simp))
  clear kk p1 wr1 p x' s'
  simp (disch:=omega)only[go_sem, *]
 ·have hip:i<s.procs.length:=by rw [← p.l2];exact hi
  have e:E9 c k q s t i 17 A B C=(0,0,{ s with procs:=s.procs.set i { nth s.procs i with ended:=true } },q):=rfl
  replace kk:=kk0 e
  clear kk0
  clear set e
  refine Ac ET (by simp [Ci]) fun wf rp=>?_;unfold Ci;simp (disch:=omega)only[go_sem, *]
  refine hU p1.gt p1.sw hip p1.lim p.dw.2.1 ?_
  intro h' x' s'
  have fin:=kk h' (wr1.trans x' (fun j _ e=>.inr (.inl e))) (p1.setW x' s' (by simp))
  clear kk p1 wr1 p x' s'
  simp (disch:=omega)only[go_sem, *]
 ·have e:E9 c k q s t i op A B C=((B1 c k q op A B (nth s.all i)).1,(B1 c k q op A B (nth s.all i)).2.1,{ s with all:=s.all.set i (B1 c k q op A B (nth s.all i)).2.2.1 },(B1 c k q op A B (nth s.all i)).2.2.2):=by unfold E9;rw [if_neg (by omega),if_neg (by omega),if_neg (by omega),if_neg (by omega),if_neg (by omega),if_neg (by omega),if_pos hop]
  rw [e] at kk
  have r1:=ok.keep (J:=fun _=>False) r (Wr.refl.alloc (k:=⟨4,[[.i .i64 op,.i .i64 A,.i .i64 B,.i .i64 C]]⟩)) (fun _ _ e=>e)
  clear kk0 set e X1
  have hop2:=hop
  rcases hop with rfl | rfl | rfl | rfl<;>(
   refine Ac ET (by simp [Ci]) fun wf rp=>?_;unfold Ci;simp (disch:=omega)only[go_sem, *]
   refine dI ok p1 hi g hop2 r1 dj (fun h' I' x r' i' p'=>?_)
   have fin:=kk h' I' (Wr.trans (wr1.mono fun _ e=>.inl e) x (fun j _ e=>e.imp (fun e=>.inr (.inr e)) (fun z=>z))) r' (fun j e=>(i' j e).imp (fun z=>z) (fun z=>Nat.le_of_succ_le z)) p'
   clear kk p1 wr1 p r1 x r' i' p'
   simp (disch:=omega)only[go_sem, *])
 ·have e:E9 c k q s t i 0 A B C=(0,0,s,q):=rfl
  replace kk:=kk0 e
  clear kk0
  have fin:=kk _ wr1 p1
  clear kk p1 wr1 p set e X1
  refine Ac ET (by simp [Ci]) fun wf rp=>?_;unfold Ci;simp (disch:=omega)only[go_sem, *]
end
end Go.Ab.T
namespace Go.Ab.T
open Go Go.Ab
set_option maxHeartbeats 8000000
def HY (L:List Bd):List ST:=L.map fun x=>⟨List.replicate 8 0,x.entry⟩
def Lg (c:PC) (s:PS):PS:={ s with procs:=BL s.procs,all:=HY (nth c.c.parts c.p).procs,mem:=List.replicate 16 0 }
theorem aRF:∀ (m:List Int),m.length=16→((((((((((((((((m.set 0 0).set 1 0).set 2 0).set 3 0).set 4 0).set 5 0).set 6 0).set 7 0).set 8 0).set 9 0).set 10 0).set 11 0).set 12 0).set 13 0).set 14 0).set 15 0)=List.replicate 16 0:=by
 intro m hm
 refine List.ext_getElem (by simp [hm]) fun i h1 h2=>?_
 have:i=0∨i=1∨i=2∨i=3∨i=4∨i=5∨i=6∨i=7∨i=8∨i=9∨i=10∨i=11∨i=12∨i=13∨i=14∨i=15:=by simp [hm] at h1;omega
 rcases this with rfl | rfl | rfl | rfl | rfl | rfl | rfl | rfl | rfl | rfl | rfl | rfl | rfl | rfl | rfl | rfl<;>simp [List.getElem_set]
theorem aRO {c:PC} {tb lg:Nat} {a:V} {m:List Int} {clk:Int} (hm:m.length=16):over (AB c tb lg a m clk) 8 [.i .u32 0,.i .u32 0,.i .u32 0,.i .u32 0,.i .u32 0,.i .u32 0,.i .u32 0,.i .u32 0,.i .u32 0,.i .u32 0,.i .u32 0,.i .u32 0,.i .u32 0,.i .u32 0,.i .u32 0,.i .u32 0]=AB c tb lg a (List.replicate 16 0) clk:=by
 have st:∀ (m:List Int) (j:Nat),m.length=16→j<16→(AB c tb lg a m clk).set (8+j) (.i .u32 0)=AB c tb lg a (m.set j 0) clk:=fun m j h hj=>AB.sm h hj
 simp only [over]
 rw [← aRF m hm]
 rw [st m 0 hm (by decide),st _ 1 (by simp [hm]) (by decide),st _ 2 (by simp [hm]) (by decide),st _ 3 (by simp [hm]) (by decide),st _ 4 (by simp [hm]) (by decide),st _ 5 (by simp [hm]) (by decide),st _ 6 (by simp [hm]) (by decide),st _ 7 (by simp [hm]) (by decide),st _ 8 (by simp [hm]) (by decide),st _ 9 (by simp [hm]) (by decide),st _ 10 (by simp [hm]) (by decide),st _ 11 (by simp [hm]) (by decide),st _ 12 (by simp [hm]) (by decide),st _ 13 (by simp [hm]) (by decide),st _ 14 (by simp [hm]) (by decide),st _ 15 (by simp [hm]) (by decide)]
section
variable {b pp tb lg:Nat} {h:AH} {w a:V} {c:PC} {P:List PR} {L:List Bd} {mem:List Int} {clk:Int}
theorem cV {K : Ex → Env → AH → Prop} {e : Env} {h1 : AH} (hL : L.length ≤ 3) (gp : h1.get pp = some ⟨26, [AB c tb lg .ns mem clk]⟩) (hm : mem.length = 16) (hpn : pp < h1.next) (hlp : h1.lim ≤ pp) (hll : h1.lim ≤ h1.next) (e0 : e 0 = .p pp 0 0) (e23 : e 23 = .fl 2 (L.map Bd.enc)) (e24 : e 24 = .i .i64 L.length) (e25 : e 25 = .i .i64 0)
    (kk:∀ (e:Env) (h':AH) (a:V),Wr h1 (·=pp) h'→h'.get pp=some ⟨26,[AB c tb lg a mem clk]⟩→Sl h1.next h' 9 a ((HY L).map ST.enc)→e 0=.p pp 0 0→K (.ex 0) e h'):ZC tp (.loop Ub) e h1 K:=by
 refine Ah (fun n' e hh=>∃ (i:Nat) (a:V),n'=L.length - i∧Wr h1 (·=pp) hh∧hh.get pp=some ⟨26,[AB c tb lg a mem clk]⟩∧Sl h1.next hh 9 a ((HY (L.take i)).map ST.enc)∧e 0=.p pp 0 0∧e 23=.fl 2 (L.map Bd.enc)∧e 24=.i .i64 L.length∧e 25=.i .i64 i∧i≤L.length) ?_ _ _ _ ⟨0,.ns,rfl,Wr.refl,gp,Sl.nil _ _ _,e0,e23,e24,e25,by omega⟩
 clear e0 e23 e24 e25 gp e
 rintro n' e hh ⟨i,a,rfl,x,gp,s,e0,e23,e24,e25,hi⟩ ih
 have hlm:=x.lim
 have hnx:=x.next
 have hsv:=Sl.sameV s
 have hown:=AD s
 obtain ⟨_,_,_,_,_,_,_,sc1,sc2⟩:=s.facts
 have f7:=AB.f7 (c:=c) (tb:=tb) (lg:=lg) (a:=a) (mem:=mem) (clk:=clk)
 have rl:=AB.len (c:=c) (tb:=tb) (lg:=lg) (a:=a) (clk:=clk) hm
 rw [Am Ub.eq_1]
 simp (disch:=omega)only[go_sem, *]
 refine Aa (fun hc=>?_) (fun hc=>?_)
 ·have hN:HY (L.take (i+1))=HY (L.take i)++[⟨List.replicate 8 0,(nth L i).entry⟩]:=by
   rw [Dg (by omega)];unfold HY;rw [List.map_append];rfl
  have hln:(HY (L.take i)).length=i:=by unfold HY;rw [List.length_map,List.length_take];omega
  have eN:ST.enc ⟨List.replicate 8 0,(nth L i).entry⟩=[.i .u32 0,.i .u32 0,.i .u32 0,.i .u32 0,.i .u32 0,.i .u32 0,.i .u32 0,.i .u32 0,.i .i64 (nth L i).entry]:=rfl
  have X1:Aq hh (((hh.alloc ⟨2,[[.i .i64 0,.i .i64 0]]⟩).put hh.next ⟨2,[[.i .i64 (nth L i).entry,.i .i64 (nth L i).prio]]⟩).alloc ⟨9,[[.i .u32 0,.i .u32 0,.i .u32 0,.i .u32 0,.i .u32 0,.i .u32 0,.i .u32 0,.i .u32 0,.i .i64 (nth L i).entry]]⟩):=by (repeat (first | exact Aq.refl _ | refine Aq.alloc ?_ _ | (refine Aq.put ?_ _ _ ?_;rotate_left;(first | omega | (simp only [Af,Ai];omega)))))
  simp (disch:=omega)only[go_sem, *]
  refine AA (N:=[[.i .u32 0,.i .u32 0,.i .u32 0,.i .u32 0,.i .u32 0,.i .u32 0,.i .u32 0,.i .u32 0,.i .i64 (nth L i).entry]]) (s.ext X1) ?_ ?_ ?_ ?_
  ·simp (disch:=omega)only[go_sem, *]
  ·simp (disch:=omega)only[go_sem, *]<;>omega
  ·simp;omega
  intro v h4 s4 g4
  rw [← eN] at s4
  obtain ⟨k1,k2,k3,k4⟩:=Hp (bx:=pp) X1 g4 s4 (by omega) (hown.imp (fun z=>z) (fun z=>by omega))
  have gp4:=k1.trans gp
  have s7:=fun v=>AB.s7 (c:=c) (tb:=tb) (lg:=lg) (a:=a) (mem:=mem) (clk:=clk) (a':=v)
  have s5:Sl h1.next (h4.put pp ⟨26,[AB c tb lg v mem clk]⟩) 9 v ((HY (L.take (i+1))).map ST.enc):=by
   rw [hN,List.map_append];exact AR s4 _ _ (.inr (fun e=>k2 e.symm))
  have x5:Wr h1 (·=pp) (h4.put pp ⟨26,[AB c tb lg v mem clk]⟩):=by
   refine Wr.put ?_ (.inr rfl)
   exact ⟨by omega,k4.trans hlm,fun j hj hne=>(g4.low j hj).trans ((X1.get j (by omega)).trans (x.get j hj hne))⟩
  have c1:=g4.cell
  have c2:=g4.cells
  clear X1 g4 s4 s x eN hN k1
  simp (disch:=omega)only[go_sem, *]
  refine ih _ _ _ ?_ ⟨i+1,v,rfl,x5,by rw [Ae,Ax rfl],s5, ?_⟩
  ·omega
  ·clear ih kk s5 x5
   simp (disch:=omega)only[go_sem, *]
   omega
 ·obtain rfl:i=L.length:=by omega
  rw [List.take_length] at s
  simp (disch:=omega)only[go_sem, *]
  exact kk _ hh a x gp s e0
theorem Mg {K : V → AH → Prop} (gp : h.get pp = some ⟨26, [AB c tb lg a mem clk]⟩) (hm : mem.length = 16) (gt : h.get tb = some ⟨1, [[w]]⟩) (sw : Sl b h 3 w (P.map PR.enc)) (lim : h.lim ≤ b) (bp : b ≤ pp) (d : pp ≠ tb) (dw : Ar w ≠ tb) (dw2 : Ar w ≠ pp) (np : pp < h.next) (hp : c.p < c.c.parts.length) (hL : (nth c.c.parts c.p).procs.length ≤ 3)
    (kk:∀ h' a',Wr h (fun j=>j=pp∨j=Ar w) h'→h'.get pp=some ⟨26,[AB c tb lg a' (List.replicate 16 0) clk]⟩→Sl b h' 3 w ((BL P).map PR.enc)→Sl h.next h' 9 a' ((HY (nth c.c.parts c.p).procs).map ST.enc)→K (.tup []) h'):Cq tp Q4 [.p pp 0 0] h K:=by
 have f6:=AB.f6 (c:=c) (tb:=tb) (lg:=lg) (a:=a) (mem:=mem) (clk:=clk)
 have rl:=fun a=>AB.len (c:=c) (tb:=tb) (lg:=lg) (a:=a) (clk:=clk) hm
 have s7:=AB.s7 (c:=c) (tb:=tb) (lg:=lg) (a:=a) (mem:=mem) (clk:=clk) (a':=.ns)
 have f0:=AB.f0 (c:=c) (tb:=tb) (lg:=lg) (a:=.ns) (mem:=mem) (clk:=clk)
 have f3:=AB.f3 (c:=c) (tb:=tb) (lg:=lg) (a:=.ns) (mem:=mem) (clk:=clk)
 refine Ac aDa (by simp [NB]) fun wf rp=>?_
 have hll:=wf.1
 unfold NB
 simp (disch:=omega)only[go_sem, *]
 refine TE gt sw lim dw ?_
 intro h1 x1 s1
 have g1:=(x1.get _ np (fun e=>dw2 e.symm)).trans gp
 have l1:=x1.lim
 have n1:=x1.next
 simp (disch:=omega)only[go_sem, *]
 have w1:Wr h (fun j=>j=pp∨j=Ar w) (h1.put pp ⟨26,[AB c tb lg .ns mem clk]⟩):=Wr.put ⟨x1.next,x1.lim,fun j hj hn=>x1.get j hj (fun e=>hn (.inr e))⟩ (.inr (.inl rfl))
 have s3:=AR s1 pp ⟨26,[AB c tb lg .ns mem clk]⟩ (.inr (fun e=>dw2 e.symm))
 refine cV (pp:=pp) (c:=c) (tb:=tb) (lg:=lg) (mem:=mem) (clk:=clk) hL ?_ hm ?_ ?_ ?_ ?_ ?_ ?_ ?_ ?_
 ·simp (disch:=omega)only[go_sem, *]
 ·simp (disch:=omega)only[go_sem, *]<;>omega
 ·simp (disch:=omega)only[go_sem, *]<;>omega
 ·simp (disch:=omega)only[go_sem, *]<;>omega
 ·simp (disch:=omega)only[go_sem, *]
 ·simp (disch:=omega)only[go_sem, *]
 ·simp (disch:=omega)only[go_sem, *]
 ·simp (disch:=omega)only[go_sem, *]
 intro e h2 a2 x2 g2 s2 e0
 have l2:=x2.lim
 have w2:=w1.trans x2 (fun j _ e=>.inl e)
 have s4:=C3 s3 x2 (.inr dw2)
 have wp:∀ v,((((((((((((((((AB c tb lg v mem clk).set 8 (.i .u32 0)).set 9 (.i .u32 0)).set 10 (.i .u32 0)).set 11 (.i .u32 0)).set 12 (.i .u32 0)).set 13 (.i .u32 0)).set 14 (.i .u32 0)).set 15 (.i .u32 0)).set 16 (.i .u32 0)).set 17 (.i .u32 0)).set 18 (.i .u32 0)).set 19 (.i .u32 0)).set 20 (.i .u32 0)).set 21 (.i .u32 0)).set 22 (.i .u32 0)).set 23 (.i .u32 0)=AB c tb lg v (List.replicate 16 0) clk:=fun v=>aRO hm
 have f:=kk (h2.put pp ⟨26,[AB c tb lg a2 (List.replicate 16 0) clk]⟩) a2 (w2.put (.inr (.inl rfl))) (by rw [Ae,Ax rfl]) (AR s4 _ _ (.inr (fun e=>dw2 e.symm))) (by
  have n2:h.next≤(h1.put pp ⟨26,[AB c tb lg .ns mem clk]⟩).next:=n1
  exact AR (Sl.weak s2 n2) _ _ ((AD s2).imp (fun z=>z) (fun z=>by have:h.next≤Ar a2:=Nat.le_trans n2 z;omega)))
 rw [Eb] at l2
 clear kk w1 w2 s1 s3 s4 x1 x2 s2 sw
 simp (disch:=omega)only[go_sem, *]
 exact f
end
end Go.Ab.T
namespace Go.Ab.T
open Go Go.Ab
set_option maxHeartbeats 8000000
def PC.act (c:PC) (k:Int):Int:=F4 c.h0 c.h1 c.h2 c.h3 c.h4 k
def FY (s:PS) (i:Nat) (n:Int):PS:={ s with all:=s.all.set i ⟨(nth s.all i).r,n⟩ }
def DH (c:PC) (s:PS) (t:Int) (i:Nat) (pc k:Int):PS:=
 let s1:={ FY s i pc with fl:=s.fl++[⟨t,i,k⟩],halt:=decide (c.act k=2) }
 if c.act k=0 then FY s1 i (IntKind.wrap .i64 (pc+4)) else if c.act k=1 then Lg c s1 else s1
structure PG (c:PC):Prop where
 p:c.p<c.c.parts.length
 l:1≤(nth c.c.parts c.p).procs.length∧(nth c.c.parts c.p).procs.length≤3
section
variable {b pp tb lg i:Nat} {h h':AH} {w a f:V} {c:PC} {s:PS} {t pc k:Int}
theorem PA.setF {F:List FT} {f':V} {st:Bool} (p:PA b h pp tb lg w a f c s) (x:Wr h (fun j=>j=lg∨(AF f=false∧j=Ar f)) h') (gl:h'.get lg=some ⟨7,[[.i .i64 c.h0,.i .i64 c.h1,.i .i64 c.h2,.i .i64 c.h3,.i .i64 c.h4,f',.b st]]⟩) (sf:Sl b h' 3 f' (F.map FT.enc)) (hne:Ar f'≠lg) (ho:(AF f=false∧Ar f'=Ar f)∨h.next≤Ar f') (hl:F.length≤s.clk):PA b h' pp tb lg w a f' c { s with fl:=F,halt:=st }:=by
 obtain ⟨d1,d2,d3⟩:=p.d
 obtain ⟨w1,w2,w3⟩:=p.dw
 obtain ⟨a1,a2,a3,a4⟩:=p.da
 have ff:AF f=false→Ar f≠pp∧Ar f≠tb∧Ar f≠lg∧Ar f≠Ar w∧Ar f≠Ar a:=fun q=>p.df.resolve_left (by rw [q];decide)
 have nw:¬ (Ar w=lg∨(AF f=false∧Ar w=Ar f)):=fun e=>e.elim w3 (fun e=>(ff e.1).2.2.2.1 e.2.symm)
 have na:¬ (Ar a=lg∨(AF f=false∧Ar a=Ar f)):=fun e=>e.elim a3 (fun e=>(ff e.1).2.2.2.2 e.2.symm)
 have lw:=CW p.sw
 have la:=CW p.sa
 have lnw:AF w=false:=by
  have:=p.l1.1
  rcases p.sw with ⟨_,z⟩ | ⟨_,_,_,_,rfl,_⟩
  ·rw [List.map_eq_nil_iff.1 z] at this;cases this
  ·rfl
 have lna:AF a=false:=by
  have:=p.l1.1
  rcases p.sa with ⟨_,z⟩ | ⟨_,_,_,_,rfl,_⟩
  ·rw [← p.l2,List.map_eq_nil_iff.1 z] at this;cases this
  ·rfl
 have lw:=lw.resolve_left (by rw [lnw];decide)
 have la:=la.resolve_left (by rw [lna];decide)
 have np:=p.np
 refine ⟨(x.get _ p.np.1 (fun e=>e.elim d2 (fun e=>(ff e.1).1 e.2.symm))).trans p.gp,(x.get _ p.np.2.1 (fun e=>e.elim d3 (fun e=>(ff e.1).2.1 e.2.symm))).trans p.gt,gl,
  C3 p.sw x (.inr nw),C3 p.sa x (.inr na),sf,by rw [x.lim];exact p.lim,p.bp,⟨Nat.lt_of_lt_of_le p.np.1 x.next,Nat.lt_of_lt_of_le p.np.2.1 x.next,Nat.lt_of_lt_of_le p.np.2.2 x.next⟩,p.d,p.dw,p.da,.inr ?_,p.l1,p.l2,p.l3,p.l4,p.l5,⟨hl,p.l6.2⟩⟩
 rcases ho with ⟨q,e⟩ | e
 ·rw [e];exact ff q
 ·exact ⟨by omega,by omega,hne,by omega,by omega⟩
theorem PA.setB {L:List Bd} {a':V} (p:PA b h pp tb lg w a f c s) (x:Wr h (fun j=>j=pp∨j=Ar w) h') (gp:h'.get pp=some ⟨26,[AB c tb lg a' (List.replicate 16 0) s.clk]⟩) (sw:Sl b h' 3 w ((BL s.procs).map PR.enc)) (sa:Sl h.next h' 9 a' ((HY L).map ST.enc)) (hL:L.length=s.procs.length):PA b h' pp tb lg w a' f c { s with procs:=BL s.procs,all:=HY L,mem:=List.replicate 16 0 }:=by
 obtain ⟨d1,d2,d3⟩:=p.d
 obtain ⟨w1,w2,w3⟩:=p.dw
 have np:=p.np
 have bp:=p.bp
 have lw:Ar w<h.next:=by
  have:=p.l1.1
  rcases p.sw with ⟨_,z⟩ | ⟨_,_,_,_,rfl,_,_,_,_,q,_⟩
  ·rw [List.map_eq_nil_iff.1 z] at this;cases this
  ·exact q
 have lf:=CW p.sf
 have la:h.next≤Ar a':=(AD sa).resolve_left (by
  have:=p.l1.1
  rcases sa with ⟨_,z⟩ | ⟨_,_,_,_,rfl,_⟩
  ·have z:=congrArg List.length z;simp [HY] at z;rw [← hL,z] at this;cases this
  ·simp [AF])
 refine ⟨gp,(x.get _ np.2.1 (fun e=>e.elim (fun e=>d1 e.symm) (fun e=>w2 e.symm))).trans p.gt,(x.get _ np.2.2 (fun e=>e.elim (fun e=>d2 e.symm) (fun e=>w3 e.symm))).trans p.gl,sw,Sl.weak sa (by omega),C3 p.sf x (p.df.imp (fun z=>z) (fun z e=>e.elim z.1 z.2.2.2.1)),by rw [x.lim];exact p.lim,bp,⟨Nat.lt_of_lt_of_le np.1 x.next,Nat.lt_of_lt_of_le np.2.1 x.next,Nat.lt_of_lt_of_le np.2.2 x.next⟩,p.d,p.dw,⟨by omega,by omega,by omega,by omega⟩, ?_,by simpa [BL] using p.l1,by simp [HY,BL,hL],by simp,fun y hy=>?_,fun z hz=>?_,p.l6⟩
 ·rcases p.df with z | z
  ·exact .inl z
  ·rcases lf with q | q
   ·exact .inl q
   ·exact .inr ⟨z.1,z.2.1,z.2.2.1,z.2.2.2.1,by omega⟩
 ·unfold HY at hy
  obtain ⟨q,_,rfl⟩:=List.mem_map.1 hy
  exact ⟨by simp,fun z hz=>by rw [(List.mem_replicate.1 hz).2];omega⟩
 ·rw [(List.mem_replicate.1 hz).2];omega
theorem PA.low (p:PA b h pp tb lg w a f c s):b≤Ar w∧b≤Ar a∧(AF f=true∨b≤Ar f):=by
 have l1:=p.l1.1
 refine ⟨(AD p.sw).resolve_left ?_,(AD p.sa).resolve_left ?_,AD p.sf⟩
 ·rcases p.sw with ⟨_,z⟩ | ⟨_,_,_,_,rfl,_⟩
  ·rw [List.map_eq_nil_iff.1 z] at l1;cases l1
  ·simp [AF]
 ·rcases p.sa with ⟨_,z⟩ | ⟨_,_,_,_,rfl,_⟩
  ·rw [← p.l2,List.map_eq_nil_iff.1 z] at l1;cases l1
  ·simp [AF]
theorem Wr.to {I:Nat→Prop} {b:Nat} {h h':AH} (x:Wr h I h') (hI:∀ j,I j→b≤j):Wr h (b≤·) h':=⟨x.next,x.lim,fun j hj hn=>x.get j hj (fun e=>hn (hI j e))⟩
def IP (pp lg:Nat) (w a f:V) (j:Nat):Prop:=j=pp∨j=lg∨j=Ar w∨j=Ar a∨(AF f=false∧j=Ar f)
structure Pt (pp lg:Nat) (w:V) (h:AH) (a f:V) (h':AH) (a' f':V):Prop where
 w:Wr h (IP pp lg w a f) h'
 a:Ar a'=Ar a∨h.next≤Ar a'
 f:AF f'=true∨(AF f=false∧Ar f'=Ar f)∨h.next≤Ar f'
theorem Pt.ip {j:Nat} {h':AH} {a' f':V} (x:Pt pp lg w h a f h' a' f') (hj:j<h.next) (e:IP pp lg w a' f' j):IP pp lg w a f j:=by
 have:=x.a
 have:=x.f
 rcases e with e | e | e | e | ⟨e1,e⟩
 ·exact .inl e
 ·exact .inr (.inl e)
 ·exact .inr (.inr (.inl e))
 ·exact .inr (.inr (.inr (.inl (by omega))))
 ·rcases this with q | q | q
  ·rw [e1] at q;cases q
  ·exact .inr (.inr (.inr (.inr ⟨q.1,by omega⟩)))
  ·omega
theorem Pt.trans {h1 h2:AH} {a1 f1 a2 f2:V} (x:Pt pp lg w h a f h1 a1 f1) (y:Pt pp lg w h1 a1 f1 h2 a2 f2):Pt pp lg w h a f h2 a2 f2:=by
 have n:=x.w.next
 refine ⟨x.w.trans y.w (fun j hj e=>x.ip hj e), ?_, ?_⟩
 ·rcases y.a with q | q
  ·rcases x.a with r | r
   ·exact .inl (q.trans r)
   ·exact .inr (by omega)
  ·exact .inr (by omega)
 ·rcases y.f with q | q | q
  ·exact .inl q
  ·rcases x.f with r | r | r
   ·rw [q.1] at r;cases r
   ·exact .inr (.inl ⟨r.1,q.2.trans r.2⟩)
   ·exact .inr (.inr (by omega))
  ·exact .inr (.inr (by omega))
theorem Pt.same {h':AH} (x:Wr h (IP pp lg w a f) h'):Pt pp lg w h a f h' a f:=⟨x,.inl rfl,by cases q:AF f;exact .inr (.inl ⟨rfl,rfl⟩);exact .inl rfl⟩
theorem Qg (p:PA b h pp tb lg w a f c s) {n:Int} (hi:i<s.all.length) {h1:AH} (X:Aq h h1):PA b (h1.put (Ar a) ⟨9,(A2 h a).set (Cx a+i) (ST.enc ⟨(nth s.all i).r,n⟩)⟩) pp tb lg w a f c (FY s i n):=by
 have q:=CV p.sa hi
 have hx:=p.l4 _ (AP hi)
 exact (p.ext X).setA (Wr.put Wr.refl (.inr rfl)) (q.set _ X _) (by simp) (HE p.l4 ⟨hx.1,hx.2⟩)
theorem IY {op v : Int} {K : V → AH → Prop} (p : PA b h pp tb lg w a f c s) (g : PG c) (hi : i < s.all.length) (hs : s.halt = false) (hl : s.fl.length + 1 ≤ s.clk) (hpl : (nth c.c.parts c.p).procs.length = s.procs.length)
    (kk:∀ h' a' f',Pt pp lg w h a f h' a' f'→PA b h' pp tb lg w a' f' c (DH c s t i pc k)→K (.tup []) h'):Cq tp Q6 [.p pp 0 0,.agg [.i .i64 t,.i .i64 i,.i .i64 pc,.i .i64 op,.i .i64 k,.i .u32 v],.i .i64 i] h K:=by
 obtain ⟨sg,sr,slt,slo,sat,set⟩:=CV p.sa hi
 have hx:=p.l4 _ (AP hi)
 have gp:=p.gp
 obtain ⟨np1,np2,np3⟩:=p.np
 obtain ⟨bp1,bp2,bp3⟩:=p.bp
 have hlim:=p.lim
 have hle:h.lim≤Ar a:=by omega
 have at0:=sat (A2 h a)
 have f7:=AB.f7 (c:=c) (tb:=tb) (lg:=lg) (a:=a) (mem:=s.mem) (clk:=s.clk)
 have f24:=AB.f24 (c:=c) (tb:=tb) (lg:=lg) (a:=a) (mem:=s.mem) (clk:=s.clk) p.l3
 have rl:=AB.len (c:=c) (tb:=tb) (lg:=lg) (a:=a) (clk:=s.clk) p.l3
 have he:=ST.len hx.1
 have sp:=fun v=>ST.setpc (v:=v) hx.1
 have X1:Aq h (h.alloc ⟨6,[[.i .i64 t,.i .i64 i,.i .i64 pc,.i .i64 op,.i .i64 k,.i .u32 v]]⟩):=by (repeat (first | exact Aq.refl _ | refine Aq.alloc ?_ _ | (refine Aq.put ?_ _ _ ?_;rotate_left;(first | omega | (simp only [Af,Ai];omega)))))
 have p1:=Qg p (n:=pc) hi X1
 have wr1:Wr h (IP pp lg w a f) ((h.alloc ⟨6,[[.i .i64 t,.i .i64 i,.i .i64 pc,.i .i64 op,.i .i64 k,.i .u32 v]]⟩).put (Ar a) ⟨9,(A2 h a).set (Cx a+i) (ST.enc ⟨(nth s.all i).r,pc⟩)⟩):=(Wr.refl.alloc).put (.inr (.inr (.inr (.inr (.inl rfl)))))
 have da:=p.da
 have pgl:=p1.gl
 have hs1:(FY s i pc).halt=s.halt:=rfl
 rw [hs1,hs] at pgl
 have g6:((h.alloc ⟨6,[[.i .i64 t,.i .i64 i,.i .i64 pc,.i .i64 op,.i .i64 k,.i .u32 v]]⟩).put (Ar a) ⟨9,(A2 h a).set (Cx a+i) (ST.enc ⟨(nth s.all i).r,pc⟩)⟩).get h.next=some ⟨6,[[.i .i64 t,.i .i64 i,.i .i64 pc,.i .i64 op,.i .i64 k,.i .u32 v]]⟩:=by rw [Ae,Ag (by omega),AV,Ax rfl]
 have gpp:=p1.gp
 have em:(FY s i pc).mem=s.mem:=rfl
 have ek:(FY s i pc).clk=s.clk:=rfl
 rw [em,ek] at gpp
 clear em ek
 have lf:=CW p.sf
 have ef:(FY s i pc).fl=s.fl:=rfl
 have hlk:s.fl.length<4000000000:=by have:=p.l6;omega
 refine Ac aDe (by simp [NF]) fun wf rp=>?_;unfold NF;simp (disch:=omega)only[go_sem, *]
 refine V7 (t:=t) (p:=i) (k:=k) pgl p1.sf p1.lim bp3 p1.np.2.2 (p1.df.imp (fun z=>z) (fun z=>z.2.2.1)) hlk ?_
 intro h2 f2 x2 gl2 sf2 d2 o2
 have p2:=p1.setF x2 gl2 sf2 d2 o2 (by rw [ef,List.length_append];simp only [List.length_cons,List.length_nil];show ((s.fl.length+1:Nat):Int)≤s.clk;omega)
 have pl:=p1.low
 have wr2:Wr h (IP pp lg w a f) h2:=wr1.trans x2 (fun j _ e=>e.elim (fun e=>.inr (.inl e)) (fun e=>.inr (.inr (.inr (.inr e)))))
 have pt2:Pt pp lg w h a f h2 a f2:=⟨wr2,.inl rfl,.inr (o2.imp (fun z=>z) (fun z=>by have:h.next+1≤Ar f2:=z;omega))⟩
 have g62:=(x2.get h.next (by show h.next<h.next+1;omega) (fun e=>e.elim (fun e=>by omega) (fun e=>by have:=lf.resolve_left (by rw [e.1];decide);omega))).trans g6
 have gp2:h2.get pp=some ⟨26,[AB c tb lg a s.mem s.clk]⟩:=p2.gp
 have eact:F4 c.h0 c.h1 c.h2 c.h3 c.h4 k=c.act k:=rfl
 rw [eact] at p2 ⊢
 rw [ef] at p2
 clear x2 gl2 sf2 d2 o2 g6 pgl p1 wr1 gpp sg sr set X1
 have efr:DH c s t i pc k=(if c.act k=0 then FY { FY s i pc with fl:=s.fl++[⟨t,i,k⟩],halt:=decide (c.act k=2) } i (IntKind.wrap .i64 (pc+4)) else if c.act k=1 then Lg c { FY s i pc with fl:=s.fl++[⟨t,i,k⟩],halt:=decide (c.act k=2) } else { FY s i pc with fl:=s.fl++[⟨t,i,k⟩],halt:=decide (c.act k=2) }):=rfl
 rw [efr] at kk
 clear efr eact ef
 generalize c.act k=z at *
 have hi2:i<({ FY s i pc with fl:=s.fl++[⟨t,i,k⟩],halt:=decide (z=2) }:PS).all.length:=by simpa [FY] using hi
 have q2:=CV p2.sa hi2
 have e2:nth ({ FY s i pc with fl:=s.fl++[⟨t,i,k⟩],halt:=decide (z=2) }:PS).all i=⟨(nth s.all i).r,pc⟩:=by
  show nth (s.all.set i _) i=_
  rw [Bz (by simpa using hi),List.getElem_set_self]
 have p3:=fun n=>Qg p2 (n:=n) hi2 (Aq.refl h2)
 have r2:=q2.r
 have gt2:=q2.g
 have at2:=q2.at_ (A2 h2 a)
 have l2:=p2.lim
 rw [e2] at r2
 rw [e2] at p3
 have hx2:(⟨(nth s.all i).r,pc⟩:ST).r.length=8:=hx.1
 have he2:=ST.len hx2
 have sp2:=fun v=>ST.setpc (v:=v) hx2
 have hle2:h2.lim≤Ar a:=by omega
 have wr3:Wr h (IP pp lg w a f) (h2.put (Ar a) ⟨9,(A2 h2 a).set (Cx a+i) (ST.enc ⟨(nth s.all i).r,IntKind.wrap .i64 (pc+4)⟩)⟩):=wr2.put (.inr (.inr (.inr (.inr (.inl rfl)))))
 simp (disch:=omega)only[go_sem, *]
 refine Aa (fun hc=>?_) (fun hc=>?_)
 ·rw [if_pos hc] at kk
  have fin:=kk _ a f2 ⟨wr3,pt2.a,pt2.f⟩ (p3 _)
  clear kk p p2 p3 wr2 wr3 q2 pt2
  simp (disch:=omega)only[go_sem, *]
 ·rw [if_neg hc] at kk
  simp (disch:=omega)only[go_sem, *]
  refine Aa (fun hc2=>?_) (fun hc2=>?_)
  ·rw [if_pos hc2] at kk
   simp (disch:=omega)only[go_sem, *]
   refine Mg p2.gp p2.l3 p2.gt p2.sw p2.lim bp1 p2.d.1 p2.dw.2.1 p2.dw.1 p2.np.1 g.p g.l.2 ?_
   intro h3 a3 x3 gp3 sw3 sa3
   have n3:¬ AF a3=true:=by
    have:=g.l.1
    rcases sa3 with ⟨_,z⟩ | ⟨_,_,_,_,rfl,_⟩
    ·have z:=congrArg List.length z;rw [List.length_map,HY,List.length_map] at z;simp only [List.length_nil] at z;omega
    ·simp [AF]
   have p4:=p2.setB x3 gp3 sw3 sa3 hpl
   have fin:=kk h3 a3 f2 ⟨wr2.trans x3 (fun j _ e=>e.elim .inl (fun e=>.inr (.inr (.inl e)))),.inr ((AD sa3).resolve_left n3 |> Nat.le_trans wr2.next),pt2.f⟩ p4
   clear kk p p2 p3 wr2 wr3 q2 pt2 p4 x3 gp3 sw3 sa3
   simp (disch:=omega)only[go_sem, *]
  ·rw [if_neg hc2] at kk
   have fin:=kk h2 a f2 pt2 p2
   clear kk p p2 p3 wr2 wr3 q2 pt2
   simp (disch:=omega)only[go_sem, *]
end
end Go.Ab.T
namespace Go.Ab.T
open Go Go.Ab
set_option maxHeartbeats 8000000
structure Loc where
 t:Int
 proc:Int
 pc:Int
 op:Int
 fault:Int
 value:Int
 deriving DecidableEq,Inhabited
@[go_sem] def Loc.enc (x:Loc):List V:=[.i .i64 x.t,.i .i64 x.proc,.i .i64 x.pc,.i .i64 x.op,.i .i64 x.fault,.i .u32 x.value]
def oK (c:PC) (k:Kn) (q:k.σ) (s:PS) (n:Nat) (x:F3):Loc×PS×k.σ:=
 let d:=E9 c k q (FY { s with clk:=s.clk+1 } n (IntKind.wrap .i64 ((nth s.all n).pc+4))) s.clk n x.op x.a.toNat x.b.toNat x.c.toNat
 if d.2.1=0 then (⟨s.clk,n,(nth s.all n).pc,x.op,0,d.1⟩,d.2.2.1,d.2.2.2) else (⟨s.clk,n,(nth s.all n).pc,x.op,d.2.1,0⟩,DH c d.2.2.1 s.clk n (nth s.all n).pc d.2.1,d.2.2.2)
def Fw (c:PC) (k:Kn) (q:k.σ) (s:PS) (n:Nat):Loc×PS×k.σ:=
 let y:=CL c.prog (nth s.all n).pc
 if y.2=false then (⟨s.clk,n,(nth s.all n).pc,y.1.op,2,0⟩,DH c { s with clk:=s.clk+1 } s.clk n (nth s.all n).pc 2,q)
 else if Gj y.1=false then (⟨s.clk,n,(nth s.all n).pc,y.1.op,1,0⟩,DH c { s with clk:=s.clk+1 } s.clk n (nth s.all n).pc 1,q)
 else oK c k q s n y.1
def BN (c:PC) (k:Kn) (q:k.σ) (s:PS):Loc×Bool×PS×k.σ:=
 if s.halt=true then (⟨0,0,0,0,0,0⟩,false,s,q)
 else if Bt s.procs s.clk<0 then (⟨s.clk,-1,0,0,0,0⟩,true,{ s with clk:=s.clk+1 },q)
 else ((Fw c k q s (Bt s.procs s.clk).toNat).1,true,(Fw c k q s (Bt s.procs s.clk).toNat).2)
theorem aFd {P:List PR} {R:List Nat} {j n:Nat} (hj:j<R.length) (h:∀ x∈R,x<n):∀ x∈Zi P R j,x<n:=by
 unfold Zi
 split
 ·exact h
 ·split
  ·exact GY (by omega) hj h
  ·exact h
theorem M5 {P:List PR} {now:Int}:∀ (l:List PR) (i:Nat) (R:List Nat),(∀ x∈R,x<i)→∀ x∈De P now l i R,x<i+l.length
 | [],_,_,h=>h
 | y::l,i,R,h=>by
  rw [De,List.length_cons]
  intro x hx
  have:=M5 l (i+1) _ (fun z hz=>by
   split at hz
   ·refine aFd (n:=i+1) (by simp) (fun q hq=>?_) z hz
    rcases List.mem_append.1 hq with q1 | q1
    ·have:=h q q1;omega
    ·rw [List.mem_singleton.1 q1];omega
   ·have:=h z hz;omega) x hx
  omega
theorem hY {P:List PR} {now:Int} (h:¬ Bt P now<0):∃ n:Nat,Bt P now=n∧n<P.length:=by
 unfold Bt at *
 split
 ·rename_i q;rw [if_pos q] at h;omega
 ·rename_i q
  refine ⟨_,rfl, ?_⟩
  have:=M5 P 0 [] (fun x hx=>by cases hx) _ (AP (L:=De P now P 0 []) (j:=0) (by omega))
  omega
@[go_sem] theorem aR2:ES .ifc .ni .ni=some true:=rfl
@[go_sem] theorem aRC {t:Nat} {v:V}:ES .ifc (.ifc t v) .ni=some false:=rfl
section
variable {b pp tb lg:Nat} {h:AH} {w a f:V} {c:PC} {s:PS} {K:V→AH→Prop}
theorem GR (p:PA b h pp tb lg w a f c s) (kk:K (.b s.halt) h):Cq tp fT [.p pp 0 0] h K:=by
 have gp:=p.gp
 have f24:=AB.f24 (c:=c) (tb:=tb) (lg:=lg) (a:=a) (mem:=s.mem) (clk:=s.clk) p.l3
 have rl:=AB.len (c:=c) (tb:=tb) (lg:=lg) (a:=a) (clk:=s.clk) p.l3
 refine Ac oI (by simp [Qy]) fun wf rp=>?_;unfold Qy;simp (disch:=omega)only[go_sem, *]
 refine Mz p.gl ?_
 simp (disch:=omega)only[go_sem, *]
structure PN (c:PC):Prop where
 b:∀ z∈c.prog,0≤z∧z<256
 u:H4 c.ins
 ul:c.ins.length<4000000000
theorem PA.setC {h':AH} (p:PA b h pp tb lg w a f c s) (x:Wr h (·=pp) h') (gp:h'.get pp=some ⟨26,[AB c tb lg a s.mem (s.clk+1)]⟩) (hk:s.clk+1<3000000000):PA b h' pp tb lg w a f c { s with clk:=s.clk+1 }:=by
 obtain ⟨d1,d2,d3⟩:=p.d
 have l6:=p.l6
 have n:=x.next
 obtain ⟨n1,n2,n3⟩:=p.np
 exact ⟨gp,(x.get tb n2 d1.symm).trans p.gt,(x.get lg n3 d2.symm).trans p.gl,C3 p.sw x (.inr p.dw.1),C3 p.sa x (.inr p.da.1),C3 p.sf x (p.df.imp (fun z=>z) (fun z=>z.1)),x.lim▸p.lim,p.bp,by omega,p.d,p.dw,p.da,p.df,p.l1,p.l2,p.l3,p.l4,p.l5,⟨by show (s.fl.length:Int)≤s.clk+1;omega,hk⟩⟩
theorem Fv {b sz:Nat} {h:AH} {v:V} {R:List (List V)} (s:Sl b h sz v R):AF v=true∨Ar v<h.next:=by
 rcases s with ⟨hv,_⟩ | ⟨i,el,cap,cs,rfl,_,_,_,_,h1,_⟩
 ·rcases hv with rfl | rfl<;>exact .inl rfl
 ·exact .inr h1
theorem PA.fresh {j:Nat} (p:PA b h pp tb lg w a f c s) (hj:h.next≤j):j≠pp∧j≠tb∧j≠lg∧j≠Ar w∧j≠Ar a∧(AF f=true∨j≠Ar f):=by
 obtain ⟨n1,n2,n3⟩:=p.np
 have l1:=p.l1.1
 have w1:Ar w<h.next:=(Fv p.sw).resolve_left (fun z=>by
  rcases p.sw with ⟨_,z⟩ | ⟨_,_,_,_,rfl,_⟩
  ·rw [List.map_eq_nil_iff.1 z] at l1;cases l1
  ·simp [AF] at z)
 have a1:Ar a<h.next:=(Fv p.sa).resolve_left (fun z=>by
  rcases p.sa with ⟨_,z⟩ | ⟨_,_,_,_,rfl,_⟩
  ·rw [← p.l2,List.map_eq_nil_iff.1 z] at l1;cases l1
  ·simp [AF] at z)
 exact ⟨by omega,by omega,by omega,by omega,by omega,(Fv p.sf).imp (fun z=>z) (fun z=>by omega)⟩
theorem PA.box {h':AH} {a' f':V} {s':PS} {j:Nat} {k:BA} (p:PA b h pp tb lg w a f c s) (pt:Pt pp lg w h a f h' a' f') (p':PA b h' pp tb lg w a' f' c s') (hj:j<h.next) (hn:j≠pp∧j≠tb∧j≠lg∧j≠Ar w∧j≠Ar a∧(AF f=true∨j≠Ar f)):PA b (h'.put j k) pp tb lg w a' f' c s'∧h'.get j=h.get j:=by
 obtain ⟨e1,e2,e3,e4,e5,e6⟩:=hn
 have x1:=pt.a
 have x2:=pt.f
 have nx:=pt.w.next
 refine ⟨p'.same (I:=(·=j)) (Wr.refl.put (.inr rfl)) (fun q e=>by
  rw [e]
  refine ⟨e1,e2,e3,e4,by omega, ?_⟩
  cases hf:AF f' with
  | true=>exact .inl rfl
  | false=>
   rcases x2 with z | ⟨z1,z2⟩ | z
   ·rw [hf] at z;cases z
   ·exact .inr (fun e=>(e6.resolve_left (by rw [z1];decide)) (e.trans z2))
   ·exact .inr (by omega)),pt.w.get j hj (fun e=>?_)⟩
 rcases e with e | e | e | e | ⟨z,e⟩
 ·exact e1 e
 ·exact e3 e
 ·exact e4 e
 ·exact e5 e
 ·exact (e6.resolve_left (by rw [z];decide)) e
theorem Pt.put {h':AH} {a' f':V} {j:Nat} {k:BA} (x:Pt pp lg w h a f h' a' f') (hj:h.next≤j):Pt pp lg w h a f (h'.put j k) a' f':=⟨x.w.put (.inl hj),x.a,x.f⟩
theorem IR {k:Kn} {q:k.σ} {t op:Int} {i A B C:Nat}:(E9 c k q s t i op A B C).2.2.1.halt=s.halt∧(E9 c k q s t i op A B C).2.2.1.fl=s.fl∧(E9 c k q s t i op A B C).2.2.1.clk=s.clk∧(E9 c k q s t i op A B C).2.2.1.procs.length=s.procs.length∧(E9 c k q s t i op A B C).2.2.1.all.length=s.all.length:=by
 unfold E9
 repeat' split
 all_goals simp
theorem aEL {C:List (List V)} {i:Nat} (p:PA b h pp tb lg w a f c s) (hC:A2 h a=C) {n:Int} (hi:i<s.all.length) {h1:AH} (X:Aq h h1):PA b (h1.put (Ar a) ⟨9,C.set (Cx a+i) (ST.enc ⟨(nth s.all i).r,n⟩)⟩) pp tb lg w a f c (FY s i n):=hC▸Qg p hi X
theorem Tp {i:F3} (h:Gj i=true):∃ A B C:Nat,i=⟨i.op,A,B,C⟩∧Reg i.op A B C:=by
 unfold Gj Db at h
 simp only [Bool.and_eq_true,Bool.or_eq_true,decide_eq_true_eq,Bool.not_eq_true'] at h
 obtain ⟨o,⟨a1,a2⟩,⟨b1,b2⟩,⟨c1,c2⟩⟩:=h
 obtain ⟨op,A,B,C⟩:=i
 simp only at *
 obtain ⟨A,rfl⟩:∃ k:Nat,A=k:=⟨A.toNat,by omega⟩
 obtain ⟨B,rfl⟩:∃ k:Nat,B=k:=⟨B.toNat,by omega⟩
 obtain ⟨C,rfl⟩:∃ k:Nat,C=k:=⟨C.toNat,by omega⟩
 exact ⟨A,B,C,rfl,⟨o,by omega,fun e=>by rcases a2 with z | z;rw [e] at z;cases z;omega,fun e=>by rcases b2 with z | z;rw [e] at z;cases z;omega,fun e=>by rcases c2 with z | z;rw [e] at z;cases z;omega⟩⟩
structure ZB (pp lg:Nat) (w:V) (h:AH) (a f:V) (I:Nat→Prop) (h':AH) (a' f':V) (I':Nat→Prop):Prop where
 w:Wr h (fun j=>IP pp lg w a f j∨I j) h'
 a:Ar a'=Ar a∨h.next≤Ar a'
 f:AF f'=true∨(AF f=false∧Ar f'=Ar f)∨h.next≤Ar f'
 i:∀ j,I' j→I j∨h.next≤j
section
variable {I I':Nat→Prop} {h' h5:AH} {a' f':V}
theorem Pt.k (x:Pt pp lg w h a f h' a' f'):ZB pp lg w h a f I h' a' f' I:=⟨x.w.mono (fun _ e=>.inl e),x.a,x.f,fun _ e=>.inl e⟩
theorem ZB.of (x:Wr h (fun j=>IP pp lg w a f j∨I j) h5) (i:∀ j,I' j→I j∨h.next≤j) (pt:Pt pp lg w h5 a f h' a' f'):ZB pp lg w h a f I h' a' f' I':=by
 have n:=x.next
 exact ⟨x.trans pt.w (fun _ _ e=>.inl e),pt.a.imp (fun z=>z) (fun z=>by omega),pt.f.imp (fun z=>z) (fun z=>z.imp (fun z=>z) (fun z=>by omega)),i⟩
theorem ZB.put {j:Nat} {kb:BA} (x:ZB pp lg w h a f I h' a' f' I') (hj:h.next≤j):ZB pp lg w h a f I (h'.put j kb) a' f' I':=⟨x.w.put (.inl hj),x.a,x.f,x.i⟩
theorem Apart.ip (d:Apart pp tb lg w a f I) {j:Nat} (e:I j):¬ IP pp lg w a f j:=by
 obtain ⟨e1,e2,e3,e4,e5,e6⟩:=d j e
 rintro (e | e | e | e | ⟨z,e⟩)
 ·exact e1 e
 ·exact e3 e
 ·exact e4 e
 ·exact e5 e
 ·exact (e6.resolve_left (by rw [z];decide)) e
theorem Apart.keep (d:Apart pp tb lg w a f I) (lw:∀ j,I j→j<h.next) (ha:Ar a'=Ar a∨h.next≤Ar a') (hf:AF f'=true∨(AF f=false∧Ar f'=Ar f)∨h.next≤Ar f'):Apart pp tb lg w a' f' I:=fun j e=>by
 obtain ⟨e1,e2,e3,e4,e5,e6⟩:=d j e
 have:=lw j e
 refine ⟨e1,e2,e3,e4,by omega, ?_⟩
 rcases hf with z | ⟨z1,z2⟩ | z
 ·exact .inl z
 ·exact .inr (by rw [z2];exact e6.resolve_left (by rw [z1];decide))
 ·exact .inr (by omega)
theorem Apart.new (d:Apart pp tb lg w a f I) (p:PA b h pp tb lg w a f c s) (i:∀ j,I' j→I j∨h.next≤j):Apart pp tb lg w a f I':=fun j e=>(i j e).elim (d j) (fun q=>p.fresh q)
end
def KV (k:Kn) (v:V):Prop:=v=.ifc k.T k.v∨(v=.ni∧k=noK)
theorem jD {k : Kn} {q : k.σ} {I : Nat → Prop} {kv : V} (hkv : KV k kv) (ok : k.Ok) (r : k.R q h I) (dj : Apart pp tb lg w a f I) (p : PA b h pp tb lg w a f c s) (g : PG c) (n : PN c) (hpl : (nth c.c.parts c.p).procs.length = s.procs.length) (hk : s.clk + 1 < 3000000000)
    (kk:∀ h' a' f' I',ZB pp lg w h a f I h' a' f' I'→k.R (BN c k q s).2.2.2 h' I'→Apart pp tb lg w a' f' I'→PA b h' pp tb lg w a' f' c (BN c k q s).2.2.1→K (.tup [.agg (BN c k q s).1.enc,.b (BN c k q s).2.1]) h'):Cq tp SJ [.p pp 0 0,kv] h K:=by
 have lw:=ok.low r
 have rk:∀ {h':AH},Wr h (IP pp lg w a f) h'→k.R q h' I:=fun x=>ok.keep r x (fun j e=>dj.ip e)
 have gp:=p.gp
 obtain ⟨np1,np2,np3⟩:=p.np
 obtain ⟨bp1,bp2,bp3⟩:=p.bp
 have hlim:=p.lim
 have l6:=p.l6
 have f25:=AB.f25 (c:=c) (tb:=tb) (lg:=lg) (a:=a) (mem:=s.mem) (clk:=s.clk) p.l3
 have s25:=AB.s25 (c:=c) (tb:=tb) (lg:=lg) (a:=a) (mem:=s.mem) (clk:=s.clk) (clk':=s.clk+1) p.l3
 have rl:=fun k=>AB.len (c:=c) (tb:=tb) (lg:=lg) (a:=a) (clk:=k) p.l3
 have f6:=AB.f6 (c:=c) (tb:=tb) (lg:=lg) (a:=a) (mem:=s.mem) (clk:=s.clk+1)
 have X1:Aq h (h.alloc ⟨6,[[.i .i64 0,.i .i64 0,.i .i64 0,.i .i64 0,.i .i64 0,.i .u32 0]]⟩):=by (repeat (first | exact Aq.refl _ | refine Aq.alloc ?_ _ | (refine Aq.put ?_ _ _ ?_;rotate_left;(first | omega | (simp only [Af,Ai];omega)))))
 have p1:=p.ext X1
 have w1:Wr h (·=pp) (h.alloc ⟨6,[[.i .i64 0,.i .i64 0,.i .i64 0,.i .i64 0,.i .i64 0,.i .u32 0]]⟩):=Wr.refl.alloc
 cases hh:s.halt with
 | true=>
  have e:BN c k q s=(⟨0,0,0,0,0,0⟩,false,s,q):=if_pos hh
  rw [e] at kk
  replace kk:=fun h' a' f' (pt:Pt pp lg w h a f h' a' f') p'=>kk h' a' f' I pt.k (rk pt.w) (dj.keep lw pt.a pt.f) p'
  have fin:=kk ((h.alloc ⟨6,[[.i .i64 0,.i .i64 0,.i .i64 0,.i .i64 0,.i .i64 0,.i .u32 0]]⟩).put h.next ⟨6,[[.i .i64 0,.i .i64 0,.i .i64 0,.i .i64 0,.i .i64 0,.i .u32 0]]⟩) a f (.same ((w1.put (.inl (Nat.le_refl _))).mono (fun _ e=>Or.inl e))) (p.ext (by (repeat (first | exact Aq.refl _ | refine Aq.alloc ?_ _ | (refine Aq.put ?_ _ _ ?_;rotate_left;(first | omega | (simp only [Af,Ai];omega)))))))
  clear kk p X1 w1 e
  refine Ac oH (by simp [Qx]) fun wf rp=>?_;unfold Qx;simp (disch:=omega)only[go_sem, *]
  refine GR p1 ?_
  rw [hh]
  clear p1
  simp (disch:=omega)only[go_sem, *]
  exact fin
 | false=>
  have wc:Wr h (·=pp) ((h.alloc ⟨6,[[.i .i64 0,.i .i64 0,.i .i64 0,.i .i64 0,.i .i64 0,.i .u32 0]]⟩).put pp ⟨26,[AB c tb lg a s.mem (s.clk+1)]⟩):=w1.put (.inr rfl)
  have p2:=p.setC wc (by rw [Ae,Ax rfl]) hk
  have ekv:kv=.ni→V.ifc 91 (.agg [])=.ifc k.T k.v:=fun e=>by
   rcases hkv with z | ⟨-,z⟩
   ·rw [e] at z;cases z
   ·rw [z];rfl
  have hkv:kv=.ifc k.T k.v∨kv=.ni:=hkv.imp (fun z=>z) (fun z=>z.1)
  rcases hkv with rfl | rfl
  all_goals
   simp only [reduceCtorEq,false_implies,true_implies,forall_const] at ekv
   refine Ac oH (by simp [Qx]) fun wf rp=>?_;unfold Qx;simp (disch:=omega)only[go_sem, *]
   refine GR p1 ?_
   rw [hh]
   simp (disch:=omega)only[go_sem, *]
   refine hZ p2.gt p2.np.2.1 p2.sw p2.l1.2 ?_
   by_cases hp:Bt s.procs s.clk<0
   ·have e:BN c k q s=(⟨s.clk,-1,0,0,0,0⟩,true,{ s with clk:=s.clk+1 },q):=by unfold BN;rw [if_neg (by rw [hh];decide),if_pos hp]
    rw [e] at kk
    replace kk:=fun h' a' f' (pt:Pt pp lg w h a f h' a' f') p'=>kk h' a' f' I pt.k (rk pt.w) (dj.keep lw pt.a pt.f) p'
    clear p1
    have wf:=wc.put (k:=⟨6,[[.i .i64 s.clk,.i .i64 (-1),.i .i64 0,.i .i64 0,.i .i64 0,.i .u32 0]]⟩) (.inl (Nat.le_refl h.next))
    have fin:=kk _ a f (.same (wf.mono (fun _ e=>Or.inl e))) (p.setC wf (by rw [Ae,Ag (by omega),Ae,Ax rfl]) hk)
    clear kk wf p2 p wc
    simp (disch:=omega)only[go_sem, *]
    exact fin
   ·obtain ⟨i,hi,hl⟩:=hY hp
    have f7:=AB.f7 (c:=c) (tb:=tb) (lg:=lg) (a:=a) (mem:=s.mem) (clk:=s.clk+1)
    have f4:=AB.f4 (c:=c) (tb:=tb) (lg:=lg) (a:=a) (mem:=s.mem) (clk:=s.clk+1)
    have hl2:i<({ s with clk:=s.clk+1 }:PS).all.length:=by show i<s.all.length;rw [p.l2];exact hl
    obtain ⟨sg,sr,slt,slo,sat,set⟩:=CV p.sa hl2
    have na:=p.da.1
    have hx:=p.l4 _ (AP hl2)
    have he:=ST.len hx.1
    have ep:BN c k q s=((Fw c k q s i).1,true,(Fw c k q s i).2.1,(Fw c k q s i).2.2):=by unfold BN;rw [if_neg (by rw [hh];decide),if_neg hp,hi];rfl
    rw [ep] at kk
    clear ep p1
    rw [hi] at hp ⊢
    have at0:=sat (A2 h a)
    have fr0:=p.fresh (Nat.le_refl h.next)
    have fr1:=p.fresh (Nat.le_succ h.next)
    have at8:=ST.at8 hx.1
    have fe:=SK (P:=c.prog) (pc:=(nth s.all i).pc) n.b
    have es:Fw c k q s i=(if (CL c.prog (nth s.all i).pc).2=false then (⟨s.clk,i,(nth s.all i).pc,(CL c.prog (nth s.all i).pc).1.op,2,0⟩,DH c { s with clk:=s.clk+1 } s.clk i (nth s.all i).pc 2,q)
     else if Gj (CL c.prog (nth s.all i).pc).1=false then (⟨s.clk,i,(nth s.all i).pc,(CL c.prog (nth s.all i).pc).1.op,1,0⟩,DH c { s with clk:=s.clk+1 } s.clk i (nth s.all i).pc 1,q)
     else oK c k q s i (CL c.prog (nth s.all i).pc).1):=rfl
    rw [es] at kk
    clear es
    have ir:=SM (i:=(CL c.prog (nth s.all i).pc).1)
    generalize CL c.prog (nth s.all i).pc=y at *
    obtain ⟨⟨op,A,B,C⟩,ok⟩:=y
    simp only [F3.enc] at fe ir kk
    cases ok with
    | false=>
     clear ir
     rw [if_pos rfl] at kk
     replace kk:=fun h' a' f' (pt:Pt pp lg w h a f h' a' f') p'=>kk h' a' f' I pt.k (rk pt.w) (dj.keep lw pt.a pt.f) p'
     simp (disch:=omega)only[go_sem, *]
     refine Pf.go fe (by simp only [go_sem]) fun _=>?_
     simp (disch:=omega)only[go_sem, *]
     refine IY (p2.ext ?_) g hl2 hh (by show s.fl.length+1≤s.clk+1;omega) hpl ?_
     ·(repeat (first | exact Aq.refl _ | refine Aq.alloc ?_ _ | (refine Aq.put ?_ _ _ ?_;rotate_left;(first | omega | (simp only [Af,Ai];omega)))))
     intro h4 a4 f4 pt p4;have l4:=p4.lim
     obtain ⟨-,g1⟩:=(p2.ext (by (repeat (first | exact Aq.refl _ | refine Aq.alloc ?_ _ | (refine Aq.put ?_ _ _ ?_;rotate_left;(first | omega | (simp only [Af,Ai];omega))))))).box (k:=⟨0,[]⟩) pt p4 (j:=h.next+1) (by simp only [go_sem];omega) fr1
     obtain ⟨-,g0⟩:=(p2.ext (by (repeat (first | exact Aq.refl _ | refine Aq.alloc ?_ _ | (refine Aq.put ?_ _ _ ?_;rotate_left;(first | omega | (simp only [Af,Ai];omega))))))).box (k:=⟨0,[]⟩) pt p4 (j:=h.next) (by simp only [go_sem];omega) fr0
     have p5:=((p2.ext (by (repeat (first | exact Aq.refl _ | refine Aq.alloc ?_ _ | (refine Aq.put ?_ _ _ ?_;rotate_left;(first | omega | (simp only [Af,Ai];omega))))))).box (k:=⟨6,[[.i .i64 s.clk,.i .i64 i,.i .i64 (nth s.all i).pc,.i .i64 op,.i .i64 2,.i .u32 0]]⟩) pt p4 (j:=h.next) (by simp only [go_sem];omega) fr0).1
     have fin:=kk _ a4 f4 (((Pt.same (by repeat (first | exact wc.mono (fun _ e=>Or.inl e) | refine Wr.alloc ?_ | refine Wr.put ?_ (.inl (by omega))))).trans pt).put (Nat.le_refl _)) p5
     simp (disch:=omega)only[go_sem, *] at g0 g1
     clear kk pt p4 p5 p2 p wc
     simp (disch:=omega)only[go_sem, *]
     exact fin
    | true=>
     rw [if_neg (by decide)] at kk
     cases hr:Gj ⟨op,A,B,C⟩ with
     | false=>
      rw [hr] at ir
      rw [if_pos hr] at kk
      replace kk:=fun h' a' f' (pt:Pt pp lg w h a f h' a' f') p'=>kk h' a' f' I pt.k (rk pt.w) (dj.keep lw pt.a pt.f) p'
      clear hr
      simp (disch:=omega)only[go_sem, *]
      refine Pf.go fe (by simp only [go_sem]) fun _=>?_
      simp (disch:=omega)only[go_sem, *]
      refine Pf.go ir (by simp only [go_sem]) fun _=>?_
      simp (disch:=omega)only[go_sem, *]
      refine IY (p2.ext ?_) g hl2 hh (by show s.fl.length+1≤s.clk+1;omega) hpl ?_
      ·(repeat (first | exact Aq.refl _ | refine Aq.alloc ?_ _ | (refine Aq.put ?_ _ _ ?_;rotate_left;(first | omega | (simp only [Af,Ai];omega)))))
      intro h4 a4 f4 pt p4;have l4:=p4.lim
      obtain ⟨-,g1⟩:=(p2.ext (by (repeat (first | exact Aq.refl _ | refine Aq.alloc ?_ _ | (refine Aq.put ?_ _ _ ?_;rotate_left;(first | omega | (simp only [Af,Ai];omega))))))).box (k:=⟨0,[]⟩) pt p4 (j:=h.next+1) (by simp only [go_sem];omega) fr1
      obtain ⟨-,g0⟩:=(p2.ext (by (repeat (first | exact Aq.refl _ | refine Aq.alloc ?_ _ | (refine Aq.put ?_ _ _ ?_;rotate_left;(first | omega | (simp only [Af,Ai];omega))))))).box (k:=⟨0,[]⟩) pt p4 (j:=h.next) (by simp only [go_sem];omega) fr0
      have p5:=((p2.ext (by (repeat (first | exact Aq.refl _ | refine Aq.alloc ?_ _ | (refine Aq.put ?_ _ _ ?_;rotate_left;(first | omega | (simp only [Af,Ai];omega))))))).box (k:=⟨6,[[.i .i64 s.clk,.i .i64 i,.i .i64 (nth s.all i).pc,.i .i64 op,.i .i64 1,.i .u32 0]]⟩) pt p4 (j:=h.next) (by simp only [go_sem];omega) fr0).1
      have fin:=kk _ a4 f4 (((Pt.same (by repeat (first | exact wc.mono (fun _ e=>Or.inl e) | refine Wr.alloc ?_ | refine Wr.put ?_ (.inl (by omega))))).trans pt).put (Nat.le_refl _)) p5
      simp (disch:=omega)only[go_sem, *] at g0 g1
      clear kk pt p4 p5 p2 p wc
      simp (disch:=omega)only[go_sem, *]
      exact fin
     | true=>
      rw [hr] at ir
      rw [if_neg (by rw [hr];decide)] at kk
      obtain ⟨A',B',C',eq,rg⟩:=Tp hr
      injection eq with e0 eA eB eC
      clear e0
      subst eA eB eC
      clear hr
      have sp:=fun v=>ST.setpc (v:=v) hx.1
      have ec:A2 ((h.alloc ⟨6,[[.i .i64 0,.i .i64 0,.i .i64 0,.i .i64 0,.i .i64 0,.i .u32 0]]⟩).put pp ⟨26,[AB c tb lg a s.mem (s.clk+1)]⟩) a=A2 h a:=by unfold A2;rw [Ae,Ag na,AV,Ag (by omega)]
      have p6:=fun H (X:Aq _ H)=>aEL (n:=IntKind.wrap .i64 ((nth s.all i).pc+4)) p2 ec hl2 X
      simp (disch:=omega)only[go_sem, *]
      refine Pf.go fe (by simp only [go_sem]) fun _=>?_
      simp (disch:=omega)only[go_sem, *]
      refine Pf.go ir (by simp only [go_sem]) fun _=>?_
      simp (disch:=omega)only[go_sem, *]
      clear ec
      refine aPw ok (p6 _ ?_) (by show i<(s.all.set i _).length;rw [List.length_set];exact hl2) rg (rk ?_) dj n.u n.ul (by omega) l6.2 ?_
      ·(repeat (first | exact Aq.refl _ | refine Aq.alloc ?_ _ | (refine Aq.put ?_ _ _ ?_;rotate_left;(first | omega | (simp only [Af,Ai];omega)))))
      ·repeat (first | exact wc.mono (fun _ e=>Or.inl e) | refine Wr.alloc ?_ | refine Wr.put ?_ (.inl (by omega)) | refine Wr.put ?_ (.inr (.inr (.inr (.inr (.inl rfl))))))
      intro h5 I5 x5 r5 i5 p7
      obtain ⟨k1,k2,k3,k4,-⟩:=IR (k:=k) (q:=q) (c:=c) (s:=FY { s with clk:=s.clk+1 } i (IntKind.wrap .i64 ((nth s.all i).pc+4))) (t:=s.clk) (op:=op) (i:=i) (A:=A') (B:=B') (C:=C')
      have k1:=k1.trans (show _=s.halt from rfl)
      have k2:=k2.trans (show _=s.fl from rfl)
      have k3:=k3.trans (show _=s.clk+1 from rfl)
      have k4:=k4.trans (show _=s.procs.length from rfl)
      have eg:oK c k q s i ⟨op,A',B',C'⟩=(if (E9 c k q (FY { s with clk:=s.clk+1 } i (IntKind.wrap .i64 ((nth s.all i).pc+4))) s.clk i op A' B' C').2.1=0 then (⟨s.clk,i,(nth s.all i).pc,op,0,(E9 c k q (FY { s with clk:=s.clk+1 } i (IntKind.wrap .i64 ((nth s.all i).pc+4))) s.clk i op A' B' C').1⟩,(E9 c k q (FY { s with clk:=s.clk+1 } i (IntKind.wrap .i64 ((nth s.all i).pc+4))) s.clk i op A' B' C').2.2.1,(E9 c k q (FY { s with clk:=s.clk+1 } i (IntKind.wrap .i64 ((nth s.all i).pc+4))) s.clk i op A' B' C').2.2.2) else (⟨s.clk,i,(nth s.all i).pc,op,(E9 c k q (FY { s with clk:=s.clk+1 } i (IntKind.wrap .i64 ((nth s.all i).pc+4))) s.clk i op A' B' C').2.1,0⟩,DH c (E9 c k q (FY { s with clk:=s.clk+1 } i (IntKind.wrap .i64 ((nth s.all i).pc+4))) s.clk i op A' B' C').2.2.1 s.clk i (nth s.all i).pc (E9 c k q (FY { s with clk:=s.clk+1 } i (IntKind.wrap .i64 ((nth s.all i).pc+4))) s.clk i op A' B' C').2.1,(E9 c k q (FY { s with clk:=s.clk+1 } i (IntKind.wrap .i64 ((nth s.all i).pc+4))) s.clk i op A' B' C').2.2.2)):=rfl
      rw [eg] at kk
      clear eg
      generalize (E9 c k q (FY { s with clk:=s.clk+1 } i (IntKind.wrap .i64 ((nth s.all i).pc+4))) s.clk i op A' B' C')=d at *
      obtain ⟨dv,df,ds,dq⟩:=d
      simp only at k1 k2 k3 k4 p7 r5 kk
      have n5:=x5.next
      have w5:Wr h (fun j=>IP pp lg w a f j∨I j) h5:=Wr.trans (by repeat (first | exact wc.mono (fun _ e=>Or.inl (Or.inl e)) | refine Wr.alloc ?_ | refine Wr.put ?_ (.inl (by omega)) | refine Wr.put ?_ (.inr (.inl (.inr (.inr (.inr (.inl rfl)))))))) x5 (fun j _ e=>e.imp (fun e=>e.elim .inl (fun e=>e.elim (fun e=>.inr (.inr (.inl e))) (fun e=>.inr (.inr (.inr (.inl e)))))) (fun z=>z))
      have g1:=x5.get (h.next+1) (by simp only [go_sem];omega) (fun e=>e.elim (fun e=>e.elim fr1.1 (fun e=>e.elim fr1.2.2.2.1 fr1.2.2.2.2.1)) (fun e=>by have:=lw _ e;omega))
      have g0:=x5.get h.next (by simp only [go_sem];omega) (fun e=>e.elim (fun e=>e.elim fr0.1 (fun e=>e.elim fr0.2.2.2.1 fr0.2.2.2.2.1)) (fun e=>Nat.lt_irrefl _ (lw _ e)))
      have na1:=fr1.2.2.2.2.1
      have na0:=fr0.2.2.2.2.1
      simp (disch:=omega)only[go_sem] at g0 g1 n5 i5
      have l5:=p7.lim
      have iN:∀ j,I5 j→I j∨h.next≤j:=fun j e=>(i5 j e).imp (fun z=>z) (fun z=>by omega)
      have dj5:=dj.new p iN
      have two:∀ {H':AH},Wr h5 (fun j=>j=h.next∨j=h.next+1) H'→PA b H' pp tb lg w a f c ds∧k.R dq H' I5:=fun x=>⟨p7.same x (fun j e=>e.elim (fun e=>e▸fr0) (fun e=>e▸fr1)),ok.keep r5 x (fun j e1 e2=>by
       rcases i5 j e1 with z | z
       ·have:=lw j z;omega
       ·omega)⟩
      clear p6 p7 x5 p2 wc r5
      have w1:∀ x,Wr h5 (fun j=>j=h.next∨j=h.next+1) (h5.put (h.next+1) x):=fun _=>Wr.refl.put (.inr (.inr rfl))
      by_cases hd:df=0
      ·subst hd
       rw [if_pos rfl] at kk
       clear p
       simp (disch:=omega)only[go_sem, *]
       exact kk _ a f I5 ((ZB.of w5 iN (.same Wr.refl)).put (Nat.le_succ h.next) |>.put (Nat.le_refl h.next)) (two ((w1 _).put (.inr (.inl rfl)))).2 dj5 (two ((w1 _).put (.inr (.inl rfl)))).1
      ·rw [if_neg hd] at kk
       clear p
       simp (disch:=omega)only[go_sem, *]
       obtain ⟨y1,y2⟩:=two (w1 ⟨6,[[.i .i64 s.clk,.i .i64 i,.i .i64 (nth s.all i).pc,.i .i64 op,.i .i64 df,.i .u32 0]]⟩)
       refine IY y1 g (by rw [y1.l2,k4];exact hl) (k1.trans hh) (by rw [k2,k3];omega) (hpl.trans k4.symm) ?_
       intro h4 a4 f4 pt p4;have l4:=p4.lim
       obtain ⟨-,g3⟩:=y1.box (k:=⟨0,[]⟩) pt p4 (j:=h.next+1) (by simp only [go_sem];omega) fr1
       obtain ⟨-,g2⟩:=y1.box (k:=⟨0,[]⟩) pt p4 (j:=h.next) (by simp only [go_sem];omega) fr0
       have p5:=(y1.box (k:=⟨6,[[.i .i64 s.clk,.i .i64 i,.i .i64 (nth s.all i).pc,.i .i64 op,.i .i64 df,.i .u32 0]]⟩) pt p4 (j:=h.next) (by simp only [go_sem];omega) fr0).1
       have r4:=ok.keep (J:=(·=h.next)) (ok.keep y2 pt.w (fun j e=>dj5.ip e)) (Wr.put (k:=⟨6,[[.i .i64 s.clk,.i .i64 i,.i .i64 (nth s.all i).pc,.i .i64 op,.i .i64 df,.i .u32 0]]⟩) Wr.refl (.inr rfl)) (fun j e1 e2=>by
        rcases i5 j e1 with z | z
        ·have:=lw j z;omega
        ·omega)
       have fin:=kk _ a4 f4 I5 ((ZB.of (by repeat (first | exact w5 | refine Wr.put ?_ (.inl (by omega)))) iN pt).put (Nat.le_refl _)) r4 (dj5.keep (ok.low y2) pt.a pt.f) p5
       simp (disch:=omega)only[go_sem,g0] at g2
       simp (disch:=omega)only[go_sem] at g3
       clear kk pt p4 p5 w5 two y1 y2 r4
       simp (disch:=omega)only[go_sem, *]
       exact fin
end
end Go.Ab.T
namespace Go.Ab.T
open Go Go.Ab
set_option maxHeartbeats 8000000
theorem Kt {xs:List (List V)}:Pf tp Wa [.fl 1 xs] (.fl 1 xs):=by
 refine AE aC6 (by simp [Nx]) fun rp=>?_;unfold Nx;simp (disch:=omega)only[go_sem, *]
 have hb:=rp.head.big
 intro t ht
 cases t
 ·simp (disch:=omega)only[go_sem, *]
  refine AA (R:=[]) (Sl.nil' 0 _ _) (Nat.le_refl _) (Nat.le_refl _) (by simp;omega) ?_
  intro w h4 s4 g4
  simp (disch:=omega)only[go_sem, *]
  exact s4.froze' rp.head.frzr trivial (by simp;omega)
 ·simp (disch:=omega)only[go_sem, *]
  have:xs=[]:=by
   rcases List.eq_nil_or_concat xs with h | ⟨l,a,h⟩
   ·exact h
   ·exact absurd (ht (by rw [h];simp)) (by simp)
  rw [this]
theorem Ic {xs:List (List V)}:Pf tp Wc [.fl 1 xs] (.fl 1 xs):=by
 refine AE aC7 (by simp [Ny]) fun rp=>?_;unfold Ny;simp (disch:=omega)only[go_sem, *]
 have hb:=rp.head.big
 intro t ht
 cases t
 ·simp (disch:=omega)only[go_sem, *]
  refine AA (R:=[]) (Sl.nil' 0 _ _) (Nat.le_refl _) (Nat.le_refl _) (by simp;omega) ?_
  intro w h4 s4 g4
  simp (disch:=omega)only[go_sem, *]
  exact s4.froze' rp.head.frzr trivial (by simp;omega)
 ·simp (disch:=omega)only[go_sem, *]
  have:xs=[]:=by
   rcases List.eq_nil_or_concat xs with h | ⟨l,a,h⟩
   ·exact h
   ·exact absurd (ht (by rw [h];simp)) (by simp)
  rw [this]
def LI (c:PC):PS:=⟨El (nth c.c.parts c.p).procs,HY (nth c.c.parts c.p).procs,List.replicate 16 0,[],false,0⟩
def H9 (C:An) (p:Nat) (prog ins:List Int):PC:=⟨C,p,prog.take 512,ins,(nth C.parts p).h0,(nth C.parts p).h1,(nth C.parts p).h2,(nth C.parts p).h3,(nth C.parts p).h4⟩
theorem Rr {n:Nat}:H4 (List.replicate n 0):=fun z hz=>by rw [(List.mem_replicate.1 hz).2];decide
theorem To (L:List Bd):BL (El L)=El L:=by unfold BL El;rw [List.map_map];rfl
section
variable {h:AH} {C:An} {prog ins:List Int} {K:V→AH→Prop}
theorem iB {p:Int} (hnm:Hc C) (hp:(Bb C).1≠0∨p<0∨(C.parts.length:Int)≤p) {x y:V} (kk:∀ h',Aq h h'→K .np h'):Cq tp SI [.agg C.enc,.i .i64 p,x,y] h K:=by
 have rt:=Ju hnm
 have f:=kk (h.alloc ⟨3,[C.enc]⟩) (by (repeat (first | exact Aq.refl _ | refine Aq.alloc ?_ _ | (refine Aq.put ?_ _ _ ?_;rotate_left;(first | omega | (simp only [Af,Ai];omega))))))
 clear kk
 refine Ac VP (by simp [L2]) fun wf rp=>?_;unfold L2;simp (disch:=omega)only[go_sem, *]
 refine Pf.go rt (by simp only [go_sem]) fun _=>?_
 clear rt
 by_cases q:(Bb C).1=0
 ·rw [q]
  by_cases q1:p<0
  ·simp (disch:=omega)only[go_sem, *]
   exact f
  ·have q2:(C.parts.length:Int)≤p:=by omega
   simp (disch:=omega)only[go_sem, *]
   exact f
 ·simp (disch:=omega)only[go_sem, *]
  exact f
theorem RH {p : Nat} (hnm : Hc C) (hr : (Bb C).1 = 0) (hp : p < C.parts.length) (h1 : 1 ≤ (nth C.parts p).procs.length) (h3 : (nth C.parts p).procs.length ≤ 3) (hl : prog.length < 4000000000)
    (kk:∀ h' pp tb lg w a,Aq h h'→PA h.next h' pp tb lg w a .ns (H9 C p prog ins) (LI (H9 C p prog ins))→K (.p pp 0 0) h'):Cq tp SI [.agg C.enc,.i .i64 p,.fl 1 (prog.map FW),.fl 1 (ins.map Lp)] h K:=by
 have rt:=Ju hnm
 rw [hr] at rt
 have cp:=dR (C:=C)
 simp only [An.enc] at cp
 have c1:=Kt (xs:=(prog.take 512).map FW)
 have c2:=Ic (xs:=ins.map Lp)
 refine Ac VP (by simp [L2]) fun wf rp=>?_
 have hlo:=wf.1
 unfold L2
 simp (disch:=omega)only[go_sem, *]
 refine Pf.go rt (by simp only [go_sem]) fun _=>?_
 have z1:¬ (p:Int)<0:=by omega
 have z2:¬ (C.parts.length:Int)≤p:=by omega
 simp (disch:=omega)only[go_sem, *]
 refine Pf.go cp (by simp only [go_sem]) fun _=>?_
 have et:List.take (min (prog.length:Int) 512).toNat (prog.map FW)=(prog.take 512).map FW:=by
  rw [List.map_take,List.take_eq_take_iff,List.length_map];omega
 simp (disch:=omega)only[go_sem, *]
 refine Pf.go c1 (by simp only [go_sem]) fun _=>?_
 simp (disch:=omega)only[go_sem, *]
 refine Pf.go c2 (by simp only [go_sem]) fun _=>?_
 simp (disch:=omega)only[go_sem, *]
 refine fQ ?_
 intro h2 x2 n2 g2
 have g0:=x2.get h.next (by simp only [go_sem];omega)
 have gb:=fun j (hj:j<h.next)=>x2.get j (by simp only [go_sem];omega)
 simp (disch:=omega)only[go_sem] at g0 g2 n2
 have gb2:∀ j,j<h.next→h2.get j=h.get j:=fun j hj=>by
  have:=gb j hj
  simp (disch:=omega)only[go_sem] at this
  exact this
 clear gb x2
 simp (disch:=omega)only[go_sem, *]
 refine mU h1 h3 ?_
 intro h4 tb w x4 l4 lt4 gt4 sw4 ne4
 have q0:=x4.get (h.next+3) (by simp only [go_sem];omega)
 have q1:=x4.get (h.next+2) (by simp only [go_sem];omega)
 have q2:=x4.lim
 have q3:=x4.next
 simp (disch:=omega)only[go_sem, *] at q0 q1 q2 q3
 simp (disch:=omega)only[go_sem] at l4
 have sw5:=Sl.weak (b':=h.next) sw4 (by simp only [go_sem];omega)
 have wn:AF w≠true:=fun z=>by
  rcases sw4 with ⟨_,z⟩ | ⟨_,_,_,_,rfl,_⟩
  ·have z:=congrArg List.length z;rw [List.length_map,El,List.length_map] at z;simp only [List.length_nil] at z;omega
  ·simp [AF] at z
 have wlo:=(AD sw4).resolve_left wn
 have wlt:=(Fv sw4).resolve_left wn
 simp (disch:=omega)only[go_sem] at wlo
 have glow:∀ j,j<h.next→h4.get j=h.get j:=fun j hj=>by
  have:=x4.get j (by simp only [go_sem];omega)
  simp (disch:=omega)only[go_sem] at this
  exact this.trans (gb2 j hj)
 clear x4 sw4 gb2
 simp (disch:=omega)only[go_sem, *]
 refine Mg (b:=h.next) (pp:=h.next+1+2) (tb:=tb) (lg:=h.next+1+1) (w:=w) (a:=.ns) (c:=H9 C p prog ins) (mem:=List.replicate 16 0) (clk:=0) (P:=El (nth C.parts p).procs) (by rw [Ae,Ax rfl];rfl) (by simp) (by rw [Ae,Ag (by omega)];exact gt4) (AR sw5 _ _ (.inr (by omega))) (by simp only [go_sem];omega) (by omega) (by omega) ne4 (by omega) (by simp only [go_sem];omega) hp h3 ?_
 intro h5 a5 x5 gp5 sw6 sa5
 have an:AF a5≠true:=fun z=>by
  rcases sa5 with ⟨_,z⟩ | ⟨_,_,_,_,rfl,_⟩
  ·have z:=congrArg List.length z
   rw [List.length_map,HY,List.length_map] at z
   have z:(nth C.parts p).procs.length=0:=z
   omega
  ·simp [AF] at z
 have alo:=(AD sa5).resolve_left an
 have alt:=(Fv sa5).resolve_left an
 have n5:=x5.next
 have m5:=x5.lim
 simp (disch:=omega)only[go_sem] at alo n5 m5
 rw [To] at sw6
 have PA5:PA h.next h5 (h.next+1+2) tb (h.next+1+1) w a5 .ns (H9 C p prog ins) (LI (H9 C p prog ins)):=by
  refine ⟨gp5, ?_, ?_,sw6,Sl.weak sa5 (by simp only [go_sem];omega),Sl.nil _ _ _,by omega,⟨by omega,by omega,by omega⟩,⟨by omega,by omega,by omega⟩,⟨by omega,by omega,by omega⟩,⟨by omega,by omega,by omega⟩,⟨by omega,by omega,by omega,by omega⟩,.inl rfl, ?_, ?_,by simp [LI], ?_,Rr,⟨by simp [LI],by simp [LI]⟩⟩
  ·rw [x5.get tb (by simp only [go_sem];omega) (fun e=>e.elim (by omega) (by omega)),Ae,Ag (by omega)];exact gt4
  ·rw [x5.get (h.next+1+1) (by simp only [go_sem];omega) (fun e=>e.elim (by omega) (by omega)),Ae,Ag (by omega)];exact q1
  ·show 1≤(El (nth C.parts p).procs).length∧(El (nth C.parts p).procs).length≤3
   rw [El,List.length_map];exact ⟨h1,h3⟩
  ·show (HY (nth C.parts p).procs).length=(El (nth C.parts p).procs).length
   rw [El,HY,List.length_map,List.length_map]
  ·intro x hx
   obtain ⟨y,-,rfl⟩:=List.mem_map.1 (show x∈(nth C.parts p).procs.map fun x=>(⟨List.replicate 8 0,x.entry⟩:ST) from hx)
   exact ⟨by simp,Rr⟩
 have fin:=kk h5 _ _ _ _ _ ⟨by omega,by omega,fun j hj=>by rw [x5.get j (by simp only [go_sem];omega) (fun e=>e.elim (by omega) (by omega)),Ae,Ag (by omega)];exact glow j hj⟩ PA5
 clear kk PA5 x5 glow
 simp (disch:=omega)only[go_sem, *]
end
end Go.Ab.T
namespace Go.Ab.T
open Go Go.Ab
set_option maxHeartbeats 8000000
@[go_sem] theorem aQl:ES .ptr .np .np=some true:=rfl
@[go_sem] theorem aRD {i j k:Nat}:ES .ptr (.p i j k) .np=some false:=rfl
theorem FT.eq (a b:FT):a=b↔a.t=b.t∧a.proc=b.proc∧a.kind=b.kind:=by cases a;cases b;simp
theorem PR.eq (a b:PR):a=b↔a.prio=b.prio∧a.wake=b.wake∧a.ended=b.ended:=by cases a;cases b;simp
theorem aEp {l:List Int} (h:l.length=8):l=[nth l 0,nth l 1,nth l 2,nth l 3,nth l 4,nth l 5,nth l 6,nth l 7]:=by
 match l,h with
 | [a,b,c,d,e,f,g,i],_=>rfl
theorem ST.lit {x:ST} (h:x.r.length=8):x.enc=[.i .u32 (nth x.r 0),.i .u32 (nth x.r 1),.i .u32 (nth x.r 2),.i .u32 (nth x.r 3),.i .u32 (nth x.r 4),.i .u32 (nth x.r 5),.i .u32 (nth x.r 6),.i .u32 (nth x.r 7),.i .i64 x.pc]:=by
 unfold ST.enc
 rw [aEp h];rfl
theorem ST.eq {a b:ST} (h:a.r.length=8) (h2:b.r.length=8):a=b↔nth a.r 0=nth b.r 0∧nth a.r 1=nth b.r 1∧nth a.r 2=nth b.r 2∧nth a.r 3=nth b.r 3∧nth a.r 4=nth b.r 4∧nth a.r 5=nth b.r 5∧nth a.r 6=nth b.r 6∧nth a.r 7=nth b.r 7∧a.pc=b.pc:=by
 refine ⟨fun e=>by rw [e];simp,fun ⟨e0,e1,e2,e3,e4,e5,e6,e7,e8⟩=>?_⟩
 obtain ⟨r,pc⟩:=a
 obtain ⟨r',pc'⟩:=b
 simp only at *
 rw [aEp h,aEp h2,e0,e1,e2,e3,e4,e5,e6,e7,e8]
theorem Pm {L M:List FT}:Pf tp Wn [.fl 3 (L.map FT.enc),.fl 3 (M.map FT.enc)] (.b (decide (L=M))):=by
 refine AE aDi (by simp [NJ]) fun rp=>?_;unfold NJ;simp (disch:=omega)only[go_sem, *]
 have hL:=rp.head.len
 have hM:=rp.tail.head.len
 refine Aa (fun hc=>?_) (fun hc=>?_)
 ·simp (disch:=omega)only[go_sem, *]
  simp only [false_eq_decide_iff]
  rintro rfl;exact hc rfl
 ·simp (disch:=omega)only[go_sem, *]
  refine Ah (fun n e h=>∃ (i:Nat),n=L.length - i∧h.lim=0∧e 0=.fl 3 (L.map FT.enc)∧e 1=.fl 3 (M.map FT.enc)∧e 12=.i .i64 L.length∧e 13=.i .i64 i∧i≤L.length∧L.take i=M.take i) ?_ _ _ _ ⟨0,rfl, ?_⟩
  ·rintro n e h ⟨i,rfl,hl,e0,e1,e12,e13,hi,hz⟩ ih
   rw [Am nI.eq_1]
   simp (disch:=omega)only[go_sem, *]
   refine Aa (fun hc2=>?_) (fun hc2=>?_)
   ·simp (disch:=omega)only[go_sem, *]
    refine Aa (fun hc3=>?_) (fun hc3=>?_)
    ·simp (disch:=omega)only[go_sem, *]
     simp only [false_eq_decide_iff]
     exact VI (i:=i) (by omega) (fun h=>hc3 (((FT.eq _ _).1 h)))
    ·have he:=(FT.eq (nth L i) (nth M i)).2 (Decidable.not_not.1 hc3)
     simp (disch:=omega)only[go_sem, *]
     refine ih _ _ _ ?_ ⟨i+1,rfl, ?_⟩
     ·omega
     ·simp (disch:=omega)only[go_sem, *]
      ((repeat' refine And.intro ?_ ?_)<;>first | omega | assumption | (exact Lq (by omega) (by omega) hz he))
   ·simp (disch:=omega)only[go_sem, *]
    simp only [true_eq_decide_iff]
    rw [List.take_of_length_le (by omega),List.take_of_length_le (by omega)] at hz
    exact hz
  ·simp (disch:=omega)only[go_sem, *]
   first | done | simp
theorem Pn {L M:List PR}:Pf tp WD [.fl 3 (L.map PR.enc),.fl 3 (M.map PR.enc)] (.b (decide (L=M))):=by
 refine AE aDB (by simp [N2]) fun rp=>?_;unfold N2;simp (disch:=omega)only[go_sem, *]
 have hL:=rp.head.len
 have hM:=rp.tail.head.len
 refine Aa (fun hc=>?_) (fun hc=>?_)
 ·simp (disch:=omega)only[go_sem, *]
  simp only [false_eq_decide_iff]
  rintro rfl;exact hc rfl
 ·simp (disch:=omega)only[go_sem, *]
  refine Ah (fun n e h=>∃ (i:Nat),n=L.length - i∧h.lim=0∧e 0=.fl 3 (L.map PR.enc)∧e 1=.fl 3 (M.map PR.enc)∧e 12=.i .i64 L.length∧e 13=.i .i64 i∧i≤L.length∧L.take i=M.take i) ?_ _ _ _ ⟨0,rfl, ?_⟩
  ·rintro n e h ⟨i,rfl,hl,e0,e1,e12,e13,hi,hz⟩ ih
   rw [Am nM.eq_1]
   simp (disch:=omega)only[go_sem, *]
   refine Aa (fun hc2=>?_) (fun hc2=>?_)
   ·simp (disch:=omega)only[go_sem, *]
    refine Aa (fun hc3=>?_) (fun hc3=>?_)
    ·simp (disch:=omega)only[go_sem, *]
     simp only [false_eq_decide_iff]
     exact VI (i:=i) (by omega) (fun h=>hc3 (((PR.eq _ _).1 h)))
    ·have he:=(PR.eq (nth L i) (nth M i)).2 (Decidable.not_not.1 hc3)
     simp (disch:=omega)only[go_sem, *]
     refine ih _ _ _ ?_ ⟨i+1,rfl, ?_⟩
     ·omega
     ·simp (disch:=omega)only[go_sem, *]
      ((repeat' refine And.intro ?_ ?_)<;>first | omega | assumption | (exact Lq (by omega) (by omega) hz he))
   ·simp (disch:=omega)only[go_sem, *]
    simp only [true_eq_decide_iff]
    rw [List.take_of_length_le (by omega),List.take_of_length_le (by omega)] at hz
    exact hz
  ·simp (disch:=omega)only[go_sem, *]
   first | done | simp
theorem Po {L M:List ST} (hA:∀ x∈L,x.r.length=8) (hB:∀ x∈M,x.r.length=8):Pf tp Wl [.fl 9 (L.map ST.enc),.fl 9 (M.map ST.enc)] (.b (decide (L=M))):=by
 refine AE aDg (by simp [NH]) fun rp=>?_;unfold NH;simp (disch:=omega)only[go_sem, *]
 have hL:=rp.head.len
 have hM:=rp.tail.head.len
 refine Aa (fun hc=>?_) (fun hc=>?_)
 ·simp (disch:=omega)only[go_sem, *]
  simp only [false_eq_decide_iff]
  rintro rfl;exact hc rfl
 ·simp (disch:=omega)only[go_sem, *]
  refine Ah (fun n e h=>∃ (i:Nat),n=L.length - i∧h.lim=0∧e 0=.fl 9 (L.map ST.enc)∧e 1=.fl 9 (M.map ST.enc)∧e 12=.i .i64 L.length∧e 13=.i .i64 i∧i≤L.length∧L.take i=M.take i) ?_ _ _ _ ⟨0,rfl, ?_⟩
  ·rintro n e h ⟨i,rfl,hl,e0,e1,e12,e13,hi,hz⟩ ih
   rw [Am nH.eq_1]
   simp (disch:=omega)only[go_sem, *]
   refine Aa (fun hc2=>?_) (fun hc2=>?_)
   ·have l1:=ST.lit (hA _ (AP (L:=L) (j:=i) (by omega)))
    have l2:=ST.lit (hB _ (AP (L:=M) (j:=i) (by omega)))
    have eq:=ST.eq (hA _ (AP (L:=L) (j:=i) (by omega))) (hB _ (AP (L:=M) (j:=i) (by omega)))
    simp (disch:=omega)only[go_sem, *]
    refine Aa (fun hc3=>?_) (fun hc3=>?_)
    ·simp (disch:=omega)only[go_sem, *]
     simp only [false_eq_decide_iff]
     exact VI (i:=i) (by omega) (fun h=>hc3 ((eq.1 h)))
    ·have he:=eq.2 (Decidable.not_not.1 hc3)
     simp (disch:=omega)only[go_sem, *]
     refine ih _ _ _ ?_ ⟨i+1,rfl, ?_⟩
     ·omega
     ·simp (disch:=omega)only[go_sem, *]
      ((repeat' refine And.intro ?_ ?_)<;>first | omega | assumption | (exact Lq (by omega) (by omega) hz he))
   ·simp (disch:=omega)only[go_sem, *]
    simp only [true_eq_decide_iff]
    rw [List.take_of_length_le (by omega),List.take_of_length_le (by omega)] at hz
    exact hz
  ·simp (disch:=omega)only[go_sem, *]
   first | done | simp
section
variable {b pp tb lg:Nat} {h:AH} {w a f:V} {c:PC} {s:PS} {K:V→AH→Prop}
theorem KU (p:PA b h pp tb lg w a f c s) (kk:K (.i .i64 s.clk) h):Cq tp aEh [.p pp 0 0] h K:=by
 have gp:=p.gp
 have f25:=AB.f25 (c:=c) (tb:=tb) (lg:=lg) (a:=a) (mem:=s.mem) (clk:=s.clk) p.l3
 have rl:=AB.len (c:=c) (tb:=tb) (lg:=lg) (a:=a) (clk:=s.clk) p.l3
 clear p
 refine Ac aPO (by simp [YD]) fun wf rp=>?_;unfold YD;simp (disch:=omega)only[go_sem, *]
theorem Sq {R:List (List V)} (sf:Sl b h 3 f R) (hl:h.lim≤h.next) (hR:R.length<4000000000) (kk:∀ r h',Sl h.next h' 3 r R→Aq h h'→K r h'):Cq tp WX [f] h K:=by
 have hr:=sf.rows
 rcases sf with ⟨hv,rfl⟩ | ⟨i,el,cap,cs,rfl,hg,a1,a2,a3,a4,a5,a6⟩
 ·rcases hv with rfl | rfl
  ·have k:=kk .ns h (Sl.nil _ _ _) (Aq.refl h)
   clear kk
   refine Ac Pw (by simp [G3]) fun wf rp=>?_;unfold G3;simp (disch:=omega)only[go_sem, *]
  ·refine Ac Pw (by simp [G3]) fun wf rp=>?_;unfold G3;simp (disch:=omega)only[go_sem, *]
   refine AA (R:=[]) (Sl.nil' h.next _ _) hl (Nat.le_refl _) (by simp) ?_
   intro w h4 s4 g4
   simp (disch:=omega)only[go_sem, *]
   exact kk _ _ s4 ⟨g4.next,g4.lim,g4.low⟩
 ·refine Ac Pw (by simp [G3]) fun wf rp=>?_;unfold G3;simp (disch:=omega)only[go_sem, *]
  refine AA (R:=[]) (Sl.nil' h.next _ _) hl (Nat.le_refl _) (by simp;omega) ?_
  intro w h4 s4 g4
  simp (disch:=omega)only[go_sem, *]
  exact kk _ _ s4 ⟨g4.next,g4.lim,g4.low⟩
theorem MJ {l:List Int} (h:l.length=16):l=[nth l 0,nth l 1,nth l 2,nth l 3,nth l 4,nth l 5,nth l 6,nth l 7,nth l 8,nth l 9,nth l 10,nth l 11,nth l 12,nth l 13,nth l 14,nth l 15]:=by
 match l,h with
 | [a,b,c,d,e,f,g,i,a',b',c',d',e',f',g',i'],_=>rfl
theorem aRA {l m:List Int} (h:l.length=16) (h2:m.length=16):l=m↔nth l 0=nth m 0∧nth l 1=nth m 1∧nth l 2=nth m 2∧nth l 3=nth m 3∧nth l 4=nth m 4∧nth l 5=nth m 5∧nth l 6=nth m 6∧nth l 7=nth m 7∧nth l 8=nth m 8∧nth l 9=nth m 9∧nth l 10=nth m 10∧nth l 11=nth m 11∧nth l 12=nth m 12∧nth l 13=nth m 13∧nth l 14=nth m 14∧nth l 15=nth m 15:=by
 refine ⟨fun e=>by rw [e];simp,fun ⟨e0,e1,e2,e3,e4,e5,e6,e7,e8,e9,f0,f1,f2,f3,f4,f5⟩=>?_⟩
 rw [MJ h,MJ h2,e0,e1,e2,e3,e4,e5,e6,e7,e8,e9,f0,f1,f2,f3,f4,f5]
theorem fO {h0 h1 h2 h3 h4:Int} {st:Bool} {R:List (List V)} (gl:h.get lg=some ⟨7,[[.i .i64 h0,.i .i64 h1,.i .i64 h2,.i .i64 h3,.i .i64 h4,f,.b st]]⟩) (sf:Sl b h 3 f R) (hR:R.length<4000000000) (kk:∀ r h',Sl h.next h' 3 r R→Aq h h'→K r h'):Cq tp WE [.p lg 0 0] h K:=by
 refine Ac aDC (by simp [N7]) fun wf rp=>?_;unfold N7;simp (disch:=omega)only[go_sem, *]
 refine Sq sf wf.1 hR ?_
 intro r h' s1 x1
 have k:=kk r h' s1 x1
 clear kk sf
 simp (disch:=omega)only[go_sem, *]
theorem Jq {mem fl:List (List V)} {st:Bool} {rw:List V} (gp:h.get pp=some ⟨26,[rw]⟩) (f24:rw[24]?=some (.p lg 0 0)) (rl:rw.length=26) (gl:h.get lg=some ⟨7,[[.i .i64 c.h0,.i .i64 c.h1,.i .i64 c.h2,.i .i64 c.h3,.i .i64 c.h4,f,.b st]]⟩) (sf:Sl b h 3 f fl) (hR:fl.length<4000000000) (kk:∀ r h',Sl h.next h' 3 r fl→Aq h h'→K r h'):Cq tp Q7 [.p pp 0 0] h K:=by
 refine Ac aDj (by simp [NK]) fun wf rp=>?_;unfold NK;simp (disch:=omega)only[go_sem, *]
 refine fO gl sf hR ?_
 intro r h' s1 x1
 have k:=kk r h' s1 x1
 clear kk sf
 simp (disch:=omega)only[go_sem, *]
theorem Qi (p:PA b h pp tb lg w a f c s) (kk:∀ r h',Sl h.next h' 3 r (s.fl.map FT.enc)→Aq h h'→K r h'):Cq tp Q7 [.p pp 0 0] h K:=
 Jq (mem:=[]) p.gp (AB.f24 p.l3) (AB.len p.l3) p.gl p.sf (by rw [List.length_map];have:=p.l6;omega) kk
theorem XY {st:Bool} {rw:List V} (gp:h.get pp=some ⟨26,[rw]⟩) (f24:rw[24]?=some (.p lg 0 0)) (rl:rw.length=26) (gl:h.get lg=some ⟨7,[[.i .i64 c.h0,.i .i64 c.h1,.i .i64 c.h2,.i .i64 c.h3,.i .i64 c.h4,f,.b st]]⟩) (kk:K (.b st) h):Cq tp fT [.p pp 0 0] h K:=by
 refine Ac oI (by simp [Qy]) fun wf rp=>?_;unfold Qy;simp (disch:=omega)only[go_sem, *]
 refine Mz gl ?_
 simp (disch:=omega)only[go_sem, *]
theorem M3 {i:Nat} (p:PA b h pp tb lg w a f c s) (hi:i<s.all.length) (kk:∀ h',Aq h h'→K (.agg [.i .u32 (nth (nth s.all i).r 0),.i .u32 (nth (nth s.all i).r 1),.i .u32 (nth (nth s.all i).r 2),.i .u32 (nth (nth s.all i).r 3),.i .u32 (nth (nth s.all i).r 4),.i .u32 (nth (nth s.all i).r 5),.i .u32 (nth (nth s.all i).r 6),.i .u32 (nth (nth s.all i).r 7)]) h'):Cq tp Q1 [.p pp 0 0,.i .i64 i] h K:=by
 obtain ⟨sg,sr,slt,slo,sat,set⟩:=CV p.sa hi
 have hx:=p.l4 _ (AP hi)
 have gp:=p.gp
 have np:=p.np.1
 have lit:=ST.lit hx.1
 have len:=p.sa.facts.1
 have f7:=AB.f7 (c:=c) (tb:=tb) (lg:=lg) (a:=a) (mem:=s.mem) (clk:=s.clk)
 have rl:=AB.len (c:=c) (tb:=tb) (lg:=lg) (a:=a) (clk:=s.clk) p.l3
 have at0:=sat (A2 h a)
 rw [lit] at sr
 have z1:¬ (i:Int)<0:=by omega
 have z2:¬ (s.all.length:Int)≤i:=by omega
 have hlim:=p.lim
 have bp:=p.bp.1
 have fin:=kk ((h.alloc ⟨8,[[.i .u32 0,.i .u32 0,.i .u32 0,.i .u32 0,.i .u32 0,.i .u32 0,.i .u32 0,.i .u32 0]]⟩).put h.next ⟨8,[[.i .u32 (nth (nth s.all i).r 0),.i .u32 (nth (nth s.all i).r 1),.i .u32 (nth (nth s.all i).r 2),.i .u32 (nth (nth s.all i).r 3),.i .u32 (nth (nth s.all i).r 4),.i .u32 (nth (nth s.all i).r 5),.i .u32 (nth (nth s.all i).r 6),.i .u32 (nth (nth s.all i).r 7)]]⟩) (by (repeat (first | exact Aq.refl _ | refine Aq.alloc ?_ _ | (refine Aq.put ?_ _ _ ?_;rotate_left;(first | omega | (simp only [Af,Ai];omega))))))
 clear kk p
 refine Ac aC0 (by simp [Ns]) fun wf rp=>?_;unfold Ns;simp (disch:=omega)only[go_sem, *]
theorem iA (p:PA b h pp tb lg w a f c s) (kk:∀ h',Aq h h'→K (.agg [.i .u32 (nth s.mem 0),.i .u32 (nth s.mem 1),.i .u32 (nth s.mem 2),.i .u32 (nth s.mem 3),.i .u32 (nth s.mem 4),.i .u32 (nth s.mem 5),.i .u32 (nth s.mem 6),.i .u32 (nth s.mem 7),.i .u32 (nth s.mem 8),.i .u32 (nth s.mem 9),.i .u32 (nth s.mem 10),.i .u32 (nth s.mem 11),.i .u32 (nth s.mem 12),.i .u32 (nth s.mem 13),.i .u32 (nth s.mem 14),.i .u32 (nth s.mem 15)]) h'):Cq tp aEi [.p pp 0 0] h K:=by
 have gp:=p.gp
 have np:=p.np.1
 have hlim:=p.lim
 have bp:=p.bp.1
 have lit:=MJ p.l3
 unfold AB at gp
 rw [lit] at gp
 simp only [go_sem,List.map_cons,List.map_nil,List.cons_append,List.nil_append] at gp
 have fin:=kk ((h.alloc ⟨16,[[.i .u32 0,.i .u32 0,.i .u32 0,.i .u32 0,.i .u32 0,.i .u32 0,.i .u32 0,.i .u32 0,.i .u32 0,.i .u32 0,.i .u32 0,.i .u32 0,.i .u32 0,.i .u32 0,.i .u32 0,.i .u32 0]]⟩).put h.next ⟨16,[[.i .u32 (nth s.mem 0),.i .u32 (nth s.mem 1),.i .u32 (nth s.mem 2),.i .u32 (nth s.mem 3),.i .u32 (nth s.mem 4),.i .u32 (nth s.mem 5),.i .u32 (nth s.mem 6),.i .u32 (nth s.mem 7),.i .u32 (nth s.mem 8),.i .u32 (nth s.mem 9),.i .u32 (nth s.mem 10),.i .u32 (nth s.mem 11),.i .u32 (nth s.mem 12),.i .u32 (nth s.mem 13),.i .u32 (nth s.mem 14),.i .u32 (nth s.mem 15)]]⟩) (by (repeat (first | exact Aq.refl _ | refine Aq.alloc ?_ _ | (refine Aq.put ?_ _ _ ?_;rotate_left;(first | omega | (simp only [Af,Ai];omega))))))
 clear kk p lit
 refine Ac aPP (by simp [YE]) fun wf rp=>?_;unfold YE;simp (disch:=omega)only[go_sem, *]
theorem RK (x:ST):x.enc.all Nq=true:=by unfold ST.enc;simp [Nq]
section
variable {b' tq:Nat} {w':V} {P Q:List PR}
theorem Zf (g1:h.get tb=some ⟨1,[[w]]⟩) (g2:h.get tq=some ⟨1,[[w']]⟩) (s1:Sl b h 3 w (P.map PR.enc)) (s2:Sl b' h 3 w' (Q.map PR.enc)) (h1:P.length≤3) (h2:Q.length≤3) (kk:K (.b (decide (P=Q))) h):Cq tp Wm [.p tb 0 0,.p tq 0 0] h K:=by
 refine Ac aDh (by simp [NI]) fun wf rp=>?_;unfold NI;simp (disch:=omega)only[go_sem, *]
 refine Pf.look (Pn (L:=P) (M:=Q)) (.cons _ _ _ _ _ (Sl.froze (Sl.raise s1) (fun _=>rfl) trivial (by omega)) (.cons _ _ _ _ _ (Sl.froze (Sl.raise s2) (fun _=>rfl) trivial (by omega)) (.nil _))) rfl fun _=>?_
 simp (disch:=omega)only[go_sem, *]
end
theorem XX (p:PA b h pp tb lg w a f c s) (kk:K (.b false) h):Cq tp WG [.p pp 0 0,.np] h K:=by
 clear p
 refine Ac oJ (by simp [Qz]) fun wf rp=>?_;unfold Qz;simp (disch:=omega)only[go_sem, *]
variable {pq tq lq:Nat} {w' a' f':V} {c':PC} {s':PS} {b':Nat}
theorem XW (p:PA b h pp tb lg w a f c s) (q:PA b' h pq tq lq w' a' f' c' s') (kk:∀ h',Aq h h'→K (.b (decide (s.clk=s'.clk∧s.mem=s'.mem∧s.all=s'.all∧s.procs=s'.procs∧s.halt=s'.halt∧s.fl=s'.fl))) h'):Cq tp WG [.p pp 0 0,.p pq 0 0] h K:=by
 have g1:=p.gp
 have g2:=q.gp
 have lit1:=MJ p.l3
 have lit2:=MJ q.l3
 have e16:=aRA p.l3 q.l3
 unfold AB at g1 g2
 rw [lit1] at g1
 rw [lit2] at g2
 clear lit1 lit2
 simp only [go_sem,List.map_cons,List.map_nil,List.cons_append,List.nil_append] at g1 g2
 refine Ac oJ (by simp [Qz]) fun wf rp=>?_;unfold Qz;simp (disch:=omega)only[go_sem, *]
 have rb:h.raise.back h.lim=h:=Gg
 have no:¬ (s.clk=s'.clk∧s.mem=s'.mem∧s.all=s'.all∧s.procs=s'.procs∧s.halt=s'.halt∧s.fl=s'.fl)→K (.b false) h:=fun z=>by
  have:=kk h (Aq.refl h)
  rwa [decide_eq_false z] at this
 refine Av (fun c1=>?_) (fun c1=>?_)
 rotate_left
 ·have:=no (fun z=>c1 z.1)
  clear kk no p q
  simp (disch:=omega)only[go_sem, *]
 have c1':s.clk=s'.clk:=c1
 clear c1
 simp (disch:=omega)only[go_sem, *]
 refine Av (fun c2=>?_) (fun c2=>?_)
 rotate_left
 ·have:=no (fun z=>c2 (e16.1 z.2.1))
  clear kk no p q
  simp (disch:=omega)only[go_sem, *]
 have c2':=e16.2 c2
 clear c2 e16
 simp (disch:=omega)only[go_sem, *]
 have l1:=p.l6
 have l2:=q.l6
 have l3:=p.l2
 have l4:=q.l2
 have l5:=p.l1
 have l7:=q.l1
 refine Pf.look (Po (L:=s.all) (M:=s'.all) (fun x hx=>(p.l4 x hx).1) (fun x hx=>(q.l4 x hx).1)) (.cons _ _ _ _ _ (Sl.froze (Sl.raise p.sa) (fun x=>RK x) trivial (by omega)) (.cons _ _ _ _ _ (Sl.froze (Sl.raise q.sa) (fun x=>RK x) trivial (by omega)) (.nil _))) rfl fun _=>?_
 simp (disch:=omega)only[go_sem, *]
 refine Av (fun c3=>?_) (fun c3=>?_)
 rotate_left
 ·have:=no (fun z=>c3 z.2.2.1)
  clear kk no p q
  simp (disch:=omega)only[go_sem, *]
 have c3':s.all=s'.all:=c3
 clear c3
 simp (disch:=omega)only[go_sem, *]
 refine Zf (h:=h.raise) (tb:=tb) (tq:=tq) (w:=w) (w':=w') (b:=b) (b':=b') (P:=s.procs) (Q:=s'.procs) p.gt q.gt (Sl.raise p.sw) (Sl.raise q.sw) l5.2 l7.2 ?_
 simp (disch:=omega)only[go_sem, *]
 refine Av (fun c4=>?_) (fun c4=>?_)
 rotate_left
 ·have:=no (fun z=>c4 z.2.2.2.1)
  clear kk no p q
  simp (disch:=omega)only[go_sem, *]
 have c4':s.procs=s'.procs:=c4
 clear c4
 simp (disch:=omega)only[go_sem, *]
 refine XY (h:=h.raise) (c:=c) (lg:=lg) (f:=f) (st:=s.halt) p.gp (AB.f24 p.l3) (AB.len p.l3) p.gl ?_
 simp (disch:=omega)only[go_sem, *]
 refine XY (h:=h.raise) (c:=c') (lg:=lq) (f:=f') (st:=s'.halt) q.gp (AB.f24 q.l3) (AB.len q.l3) q.gl ?_
 simp (disch:=omega)only[go_sem, *]
 rw [show h.raise.back (h.raise.back (h.raise.back (h.raise.back h.lim).lim).lim).lim=h from rfl]
 refine Av (fun c5=>?_) (fun c5=>?_)
 rotate_left
 ·have:=no (fun z=>c5 z.2.2.2.2.1)
  clear kk no p q
  simp (disch:=omega)only[go_sem, *]
 have c5':s.halt=s'.halt:=c5
 clear c5
 simp (disch:=omega)only[go_sem, *]
 have np:=p.np
 have nq:=q.np
 refine Jq (h:=h.raise) (b:=b) (c:=c) (lg:=lg) (f:=f) (st:=s.halt) (mem:=[]) (fl:=s.fl.map FT.enc) p.gp (AB.f24 p.l3) (AB.len p.l3) p.gl (Sl.raise p.sf) (by rw [List.length_map];omega) ?_
 intro r1 h1 s1 x1
 have x1':Aq h (h1.back h.lim):=⟨x1.next,rfl,x1.get⟩
 have sf:=(q.sf).ext x1'
 have gp:=(x1'.get pq nq.1).trans q.gp
 have gl:=(x1'.get lq nq.2.2).trans q.gl
 have s1b:=Sl.back (l:=h.lim) s1
 simp (disch:=omega)only[go_sem, *]
 refine Jq (h:=(h1.back h.lim).raise) (b:=b') (c:=c') (lg:=lq) (f:=f') (st:=s'.halt) (mem:=[]) (fl:=s'.fl.map FT.enc) gp (AB.f24 q.l3) (AB.len q.l3) gl (Sl.raise sf) (by rw [List.length_map];omega) ?_
 intro r2 h2 s2 x2
 have x2':Aq h (h2.back h.lim):=⟨Nat.le_trans x1.next x2.next,rfl,fun j hj=>(x2.get j (Nat.lt_of_lt_of_le hj x1.next)).trans (x1.get j hj)⟩
 have s1c:Sl h.next (h2.back h.lim) 3 r1 (s.fl.map FT.enc):=Sl.back (l:=h.lim) ((Sl.raise s1b).ext x2)
 have s2c:Sl h1.next (h2.back h.lim) 3 r2 (s'.fl.map FT.enc):=Sl.back (l:=h.lim) s2
 have fin:=kk _ x2'
 have er:(h2.back h.lim).raise.back h.lim=h2.back h.lim:=rfl
 simp (disch:=omega)only[go_sem, *]
 refine Pf.look (Pm (L:=s.fl) (M:=s'.fl)) (.cons _ _ _ _ _ (Sl.froze (Sl.raise s1c) (fun _=>rfl) trivial (by omega)) (.cons _ _ _ _ _ (Sl.froze (Sl.raise s2c) (fun _=>rfl) trivial (by omega)) (.nil _))) rfl fun _=>?_
 have ed:decide (s.clk=s'.clk∧s.mem=s'.mem∧s.all=s'.all∧s.procs=s'.procs∧s.halt=s'.halt∧s.fl=s'.fl)=decide (s.fl=s'.fl):=by simp [c1',c2',c3',c4',c5']
 rw [ed] at fin
 clear kk no p q x1 x2 x1' x2' s1 s2 s1b s1c s2c sf gp gl ed
 simp (disch:=omega)only[go_sem, *]
end
end Go.Ab.T
namespace Go.Ab.T
open Go Go.Ab
set_option maxHeartbeats 8000000
def kAP (h1:Int) (two:Bool):Part:=⟨⟨#[97]⟩,0,0,false,false,if two=true then [⟨0,0⟩,⟨12,9⟩] else [⟨0,0⟩],0,h1,0,0,0⟩
def kA (h1:Int) (two:Bool):An:=⟨[kAP h1 two],[],[[⟨1,0,1⟩]]⟩
theorem Ti {L:List Bd} (h:(L.all Dv&&decide (1≤L.length∧L.length≤3))=true):BO L=true:=by unfold BO;exact h
theorem Xq {h1:Int} {two:Bool} (hh:h1=0∨h1=2):Dt (kAP h1 two)=true:=by
 have:∀ t:Bool,BO (if t=true then [⟨0,0⟩,⟨12,9⟩] else [⟨0,0⟩])=true:=fun t=>by cases t<;>exact Ti (by decide)
 have:BO (kAP h1 two).procs=true:=this two
 unfold Dt
 rw [this]
 rcases hh with rfl | rfl<;>cases two<;>decide
theorem Xr {h1:Int} {two:Bool} (hh:h1=0∨h1=2):Bb (kA h1 two)=(0,-1):=by
 rw [EG]
 refine ⟨⟨show 1≤1 by decide,show 1≤6 by decide,show 0≤8 by decide,show 1≤1 by decide,show 1≤3 by decide⟩,fun j hj=>?_,fun x hx=>(by cases hx),fun t ht=>?_⟩
 ·have hj:j<1:=hj
  obtain rfl:j=0:=by omega
  exact ⟨gA,rfl,Xq hh⟩
 ·rw [List.mem_singleton.1 ht,Gs]
  refine ⟨aPT, ?_⟩
  rw [I6]
  exact ⟨rfl,E4 _ _ fun p hp=>by rw [List.mem_singleton.1 hp];rfl⟩
theorem oM {h1:Int} {two:Bool}:Hc (kA h1 two):=fun p hp=>by
 rw [List.mem_singleton.1 hp]
 exact (by decide:(1:Nat)<4000000000)
section
variable {b pp tb lg:Nat} {h:AH} {w a f:V} {c:PC} {s s':PS} {l:Loc} {ok:Bool} {K:V→AH→Prop}
def Cz (c:PC) (s:PS):Loc×Bool×PS:=((BN c noK () s).1,(BN c noK () s).2.1,(BN c noK () s).2.2.1)
theorem TB (p:PA b h pp tb lg w a f c s) (g:PG c) (n:PN c) (hpl:(nth c.c.parts c.p).procs.length=s.procs.length) (hk:s.clk+1<3000000000)
    (kk:∀ h' a' f',Pt pp lg w h a f h' a' f'→PA b h' pp tb lg w a' f' c (Cz c s).2.2→K (.tup [.agg (Cz c s).1.enc,.b (Cz c s).2.1]) h'):Cq tp SJ [.p pp 0 0,.ni] h K:=
 jD (k:=noK) (q:=()) (I:=fun _=>False) (.inr ⟨rfl,rfl⟩) aEw (fun _ e=>e) (fun _ e=>e.elim) p g n hpl hk (fun h' a' f' I' x _ _ p'=>kk h' a' f' ⟨x.w.mono (fun _ e=>e.elim (fun z=>z) (fun z=>z.elim)),x.a,x.f⟩ p')
theorem FQ (e:Cz c s=(l,ok,s')) (p:PA b h pp tb lg w a f c s) (g:PG c) (n:PN c) (hpl:(nth c.c.parts c.p).procs.length=s.procs.length) (hk:s.clk+1<3000000000)
    (kk:∀ h' a' f',Pt pp lg w h a f h' a' f'→PA b h' pp tb lg w a' f' c s'→K (.tup [.agg l.enc,.b ok]) h'):Cq tp SJ [.p pp 0 0,.ni] h K:=
 TB p g n hpl hk (by rw [e];exact kk)
theorem GM (p:PA b h pp tb lg w a f c s) {j:Nat} (hj:h.next≤j):¬ IP pp lg w a f j:=by
 obtain ⟨e1,e2,e3,e4,e5,e6⟩:=p.fresh hj
 rintro (e | e | e | e | ⟨z,e⟩)
 ·exact e1 e
 ·exact e3 e
 ·exact e4 e
 ·exact e5 e
 ·exact (e6.resolve_left (by rw [z];decide)) e
theorem B0 {h':AH} {a' f':V} {j:Nat} (pt:Pt pp lg w h a f h' a' f') (hj:j<h.next) (hn:¬ IP pp lg w a f j):h'.get j=h.get j∧¬ IP pp lg w a' f' j:=
 ⟨pt.w.get j hj hn,fun e=>hn (pt.ip hj e)⟩
theorem Qj {p:Int} {x y:V} (kk:∀ h',Aq h h'→K .np h'):Cq tp SI [.agg [.ns,.ns,.ns],.i .i64 p,x,y] h K:=by
 have rt:=Ju (C:=⟨[],[],[]⟩) (fun p hp=>by cases hp)
 have hw:=Xp
 have f:=kk (h.alloc ⟨3,[[.ns,.ns,.ns]]⟩) (by (repeat (first | exact Aq.refl _ | refine Aq.alloc ?_ _ | (refine Aq.put ?_ _ _ ?_;rotate_left;(first | omega | (simp only [Af,Ai];omega))))))
 clear kk
 refine Ac VP (by simp [L2]) fun wf rp=>?_;unfold L2;simp (disch:=omega)only[go_sem, *]
 refine Pf.look rt (.cons _ _ _ _ _ (.agg _ _ _ (.cons _ _ _ _ _ (.ns _ _) (.cons _ _ _ _ _ (.ns _ _) (.cons _ _ _ _ _ (.ns _ _) (.nil _))))) (.nil _)) rfl fun _=>?_
 simp (disch:=omega)only[go_sem, *]
end
theorem fZ {h : AH} {C : An} {q f : Nat} {B : List Int} {sv vp vt : V} {K : V → AH → Prop} (hq : q < h.next) (g4 : h.get q = some ⟨3, [[vp, .ns, vt]]⟩) (hp : ∀ n, CY (· ≠ q) h n vp (.fl 11 (C.parts.map Part.enc))) (ht : ∀ n, CY (· ≠ q) h n vt (.fl 1 (C.tables.map Tab.enc))) (hc : C.chans = []) (hb : ∀ n, CY (· ≠ q) h n sv (.fl 1 (B.map FW)))
    (z:Cq tp f [.agg C.enc,.i .i64 ((0:Nat):Int),.fl 1 (B.map FW),.fl 1 (([]:List Int).map Lp)] ⟨fun i=>if i=q then some ⟨3,[C.enc]⟩ else none,h.next,h.lim⟩ K):Cq tp f [.agg [vp,.ns,vt],.i .i64 0,sv,.ns] h K:=by
 have en:C.enc=[.fl 11 (C.parts.map Part.enc),.fl 6 [],.fl 1 (C.tables.map Tab.enc)]:=by unfold An.enc;rw [hc];rfl
 rw [en] at z
 refine QI (h2:=⟨fun i=>if i=q then some ⟨3,[[.fl 11 (C.parts.map Part.enc),.fl 6 [],.fl 1 (C.tables.map Tab.enc)]]⟩ else none,h.next,h.lim⟩) (args':=[.agg [.fl 11 (C.parts.map Part.enc),.fl 6 [],.fl 1 (C.tables.map Tab.enc)],.i .i64 ((0:Nat):Int),.fl 1 (B.map FW),.fl 1 (([]:List Int).map Lp)]) (fun i=>i≠q) rfl rfl (fun _ i k hk=>?_) (.cons _ _ _ _ _ (.agg _ _ _ (.cons _ _ _ _ _ (hp _) (.cons _ _ _ _ _ (.ns _ _) (.cons _ _ _ _ _ (ht _) (.nil _))))) (.cons _ _ _ _ _ (.z _ _ (.i _ _)) (.cons _ _ _ _ _ (hb _) (.cons _ _ _ _ _ (.ns _ _) (.nil _))))) z
 by_cases hi:i=q
 ·subst hi
  simp only [if_true] at hk
  cases hk
  exact ⟨hq,fun e=>e rfl,_,g4,.cons _ _ _ _ _ (.cons _ _ _ _ _ (hp _) (.cons _ _ _ _ _ (.ns _ _) (.cons _ _ _ _ _ (ht _) (.nil _)))) (.nil _)⟩
 ·simp only at hk
  rw [if_neg hi] at hk;cases hk
def kpP:List Int:=[1,1,0,7,5,2,1,3,11,0,1,0]
def Zq:PC:=H9 (kA 2 false) 0 kpP []
def TM (pc:Int) (r1:Int) (fl:List FT) (st:Bool) (clk:Int):PS:=⟨[⟨0,0,false⟩],[⟨[0,r1,0,0,0,0,0,0],pc⟩],List.replicate 16 0,fl,st,clk⟩
theorem kp0:LI Zq=TM 0 0 [] false 0:=by decide +kernel
theorem kp1:Cz Zq (TM 0 0 [] false 0)=(⟨0,0,0,1,0,7⟩,true,TM 4 7 [] false 1):=by decide +kernel
theorem kp2:Cz Zq (TM 4 7 [] false 1)=(⟨1,0,4,5,4,0⟩,true,TM 8 7 [⟨1,0,4⟩] false 2):=by decide +kernel
theorem kp3:Cz Zq (TM 8 7 [⟨1,0,4⟩] false 2)=(⟨2,0,8,11,5,0⟩,true,TM 12 7 [⟨1,0,4⟩,⟨2,0,5⟩] false 3):=by decide +kernel
theorem kp4:Cz Zq (TM 12 7 [⟨1,0,4⟩,⟨2,0,5⟩] false 3)=(⟨3,0,12,0,2,0⟩,true,TM 12 7 [⟨1,0,4⟩,⟨2,0,5⟩,⟨3,0,2⟩] true 4):=by decide +kernel
theorem kp5:Cz Zq (TM 12 7 [⟨1,0,4⟩,⟨2,0,5⟩,⟨3,0,2⟩] true 4)=(⟨0,0,0,0,0,0⟩,false,TM 12 7 [⟨1,0,4⟩,⟨2,0,5⟩,⟨3,0,2⟩] true 4):=by decide +kernel
theorem kpG:PG Zq:=⟨by decide,by decide⟩
theorem kpN:PN Zq:=⟨by decide,fun z hz=>(by cases hz),by decide⟩
theorem P9:Pf tp aEg [] (.b true):=by
 refine AE aPN (by simp [YC]) fun rp=>?_;unfold YC;simp (disch:=omega)only[go_sem, *]
 refine fZ (q:=4) (C:=kA 2 false) (B:=kpP) (by simp only [go_sem]) (by simp only [go_sem]) (fun n=>?_) (fun n=>?_) rfl (fun n=>?_) ?_
 ·exact Lw (by decide) rfl (.cons _ _ _ _ _ (.z _ _ (.s _)) (.cons _ _ _ _ _ (.z _ _ (.i _ _)) (.cons _ _ _ _ _ (.z _ _ (.i _ _)) (.cons _ _ _ _ _ (.z _ _ (.b _)) (.cons _ _ _ _ _ (.z _ _ (.b _)) (.cons _ _ _ _ _ (Lw (by decide) rfl (.cons _ _ _ _ _ (.z _ _ (.i _ _)) (.cons _ _ _ _ _ (.z _ _ (.i _ _)) (.nil _)))) (.cons _ _ _ _ _ (.z _ _ (.i _ _)) (.cons _ _ _ _ _ (.z _ _ (.i _ _)) (.cons _ _ _ _ _ (.z _ _ (.i _ _)) (.cons _ _ _ _ _ (.z _ _ (.i _ _)) (.cons _ _ _ _ _ (.z _ _ (.i _ _)) (.nil _))))))))))))
 ·exact Lw (by decide) rfl (.cons _ _ _ _ _ (Lw (by decide) rfl (.cons _ _ _ _ _ (.z _ _ (.i _ _)) (.cons _ _ _ _ _ (.z _ _ (.i _ _)) (.cons _ _ _ _ _ (.z _ _ (.i _ _)) (.nil _))))) (.nil _))
 ·exact .sl _ _ _ _ _ _ _ _ (by decide) rfl (by decide) (by decide) (by decide) (DI.of_map (enc:=FW) (fun _=>rfl) kpP)
 refine RH (C:=kA 2 false) (p:=0) (prog:=kpP) (ins:=[]) oM (by rw [Xr (.inr rfl)]) (by decide) (by decide) (by decide) (by decide) ?_
 intro h1 pp tb lg w a x1 p0
 replace p0:PA 6 h1 pp tb lg w a .ns Zq (LI Zq):=p0
 rw [kp0] at p0
 have c4:h1.get 4=some ⟨3,[(kA 2 false).enc]⟩:=x1.get 4 (by decide)
 have n4:6≤h1.next:=x1.next
 have eC:(kA 2 false).enc=[.fl 11 ((kA 2 false).parts.map Part.enc),.fl 6 ((kA 2 false).chans.map A1.enc),.fl 1 ((kA 2 false).tables.map Tab.enc)]:=rfl
 rw [eC] at c4
 clear x1 eC
 simp (disch:=omega)only[go_sem, *]
 refine iB (C:=kA 2 false) oM (.inr (.inr (by decide))) ?_
 intro h2 x2
 have p1:=p0.ext x2
 clear p0 x2 c4
 simp (disch:=omega)only[go_sem, *]
 refine Qj ?_
 intro h3 x3
 have p2:=p1.ext x3
 clear p1 x3
 simp (disch:=omega)only[go_sem, *]
 refine FQ kp1 p2 kpG kpN rfl (by decide) ?_
 intro g1 a1 f1 pt1 q1
 have l1:=q1.lim
 have n1:=q1.np.1
 have b1:=q1.bp.1
 have m1:=GM q1 (Nat.le_refl g1.next)
 clear pt1 p2
 simp (disch:=omega)only[go_sem, *]
 refine FQ kp2 (q1.ext (by (repeat (first | exact Aq.refl _ | refine Aq.alloc ?_ _ | (refine Aq.put ?_ _ _ ?_;rotate_left;(first | omega | (simp only [Af,Ai];omega))))))) kpG kpN rfl (by decide) ?_
 intro g2 a2 f2 pt2 q2
 have l2:=q2.lim
 have n2:=q2.np.1
 have b2:=q2.bp.1
 have x2:=pt2.w.next
 simp only [go_sem] at x2
 obtain ⟨e,m1⟩:=B0 pt2 (j:=g1.next) (by simp only [go_sem];omega) m1
 simp (disch:=omega)only[go_sem] at e
 have v1:=e
 clear e
 have m2:=GM q2 (Nat.le_refl g2.next)
 clear pt2 q1 l1 n1 b1
 simp (disch:=omega)only[go_sem, *]
 refine FQ kp3 (q2.ext (by (repeat (first | exact Aq.refl _ | refine Aq.alloc ?_ _ | (refine Aq.put ?_ _ _ ?_;rotate_left;(first | omega | (simp only [Af,Ai];omega))))))) kpG kpN rfl (by decide) ?_
 intro g3 a3 f3 pt3 q3
 have l3:=q3.lim
 have n3:=q3.np.1
 have b3:=q3.bp.1
 have x3:=pt3.w.next
 simp only [go_sem] at x3
 obtain ⟨e,m1⟩:=B0 pt3 (j:=g1.next) (by simp only [go_sem];omega) m1
 simp (disch:=omega)only[go_sem,v1] at e
 clear v1
 have v1:=e
 clear e
 obtain ⟨e,m2⟩:=B0 pt3 (j:=g2.next) (by simp only [go_sem];omega) m2
 simp (disch:=omega)only[go_sem] at e
 have v2:=e
 clear e
 have m3:=GM q3 (Nat.le_refl g3.next)
 clear pt3 q2 l2 n2 b2
 simp (disch:=omega)only[go_sem, *]
 refine FQ kp4 (q3.ext (by (repeat (first | exact Aq.refl _ | refine Aq.alloc ?_ _ | (refine Aq.put ?_ _ _ ?_;rotate_left;(first | omega | (simp only [Af,Ai];omega))))))) kpG kpN rfl (by decide) ?_
 intro g4 a4 f4 pt4 q4
 have l4:=q4.lim
 have n4:=q4.np.1
 have b4:=q4.bp.1
 have x4:=pt4.w.next
 simp only [go_sem] at x4
 obtain ⟨e,m1⟩:=B0 pt4 (j:=g1.next) (by simp only [go_sem];omega) m1
 simp (disch:=omega)only[go_sem,v1] at e
 clear v1
 have v1:=e
 clear e
 obtain ⟨e,m2⟩:=B0 pt4 (j:=g2.next) (by simp only [go_sem];omega) m2
 simp (disch:=omega)only[go_sem,v2] at e
 clear v2
 have v2:=e
 clear e
 obtain ⟨e,m3⟩:=B0 pt4 (j:=g3.next) (by simp only [go_sem];omega) m3
 simp (disch:=omega)only[go_sem] at e
 have v3:=e
 clear e
 have m4:=GM q4 (Nat.le_refl g4.next)
 clear pt4 q3 l3 n3 b3
 simp (disch:=omega)only[go_sem, *]
 refine FQ kp5 (q4.ext (by (repeat (first | exact Aq.refl _ | refine Aq.alloc ?_ _ | (refine Aq.put ?_ _ _ ?_;rotate_left;(first | omega | (simp only [Af,Ai];omega))))))) kpG kpN rfl (by decide) ?_
 intro g5 a5 f5 pt5 q5
 have l5:=q5.lim
 have n5:=q5.np.1
 have b5:=q5.bp.1
 have x5:=pt5.w.next
 simp only [go_sem] at x5
 obtain ⟨e,m1⟩:=B0 pt5 (j:=g1.next) (by simp only [go_sem];omega) m1
 simp (disch:=omega)only[go_sem,v1] at e
 clear v1
 have v1:=e
 clear e
 obtain ⟨e,m2⟩:=B0 pt5 (j:=g2.next) (by simp only [go_sem];omega) m2
 simp (disch:=omega)only[go_sem,v2] at e
 clear v2
 have v2:=e
 clear e
 obtain ⟨e,m3⟩:=B0 pt5 (j:=g3.next) (by simp only [go_sem];omega) m3
 simp (disch:=omega)only[go_sem,v3] at e
 clear v3
 have v3:=e
 clear e
 obtain ⟨e,m4⟩:=B0 pt5 (j:=g4.next) (by simp only [go_sem];omega) m4
 simp (disch:=omega)only[go_sem] at e
 have v4:=e
 clear e
 have m5:=GM q5 (Nat.le_refl g5.next)
 clear pt5 q4 l4 n4 b4
 simp (disch:=omega)only[go_sem, *]
 generalize hE:TM 12 7 [⟨1,0,4⟩,⟨2,0,5⟩,⟨3,0,2⟩] true 4=E at q5
 have y1:E.halt=true:=by rw [← hE];rfl
 have y2:E.clk=4:=by rw [← hE];rfl
 have y3:nth (nth E.all 0).r 1=7:=by rw [← hE];rfl
 have y4:(E.fl.length:Int)=3:=by rw [← hE];rfl
 have y5:0<E.all.length:=by rw [← hE];decide
 clear hE v1 v2 v3 v4 m1 m2 m3 m4 m5
 refine GR (q5.ext (by (repeat (first | exact Aq.refl _ | refine Aq.alloc ?_ _ | (refine Aq.put ?_ _ _ ?_;rotate_left;(first | omega | (simp only [Af,Ai];omega))))))) ?_
 simp (disch:=omega)only[go_sem, *]
 refine KU (q5.ext (by (repeat (first | exact Aq.refl _ | refine Aq.alloc ?_ _ | (refine Aq.put ?_ _ _ ?_;rotate_left;(first | omega | (simp only [Af,Ai];omega))))))) ?_
 simp (disch:=omega)only[go_sem, *]
 refine M3 (i:=0) (q5.ext (by (repeat (first | exact Aq.refl _ | refine Aq.alloc ?_ _ | (refine Aq.put ?_ _ _ ?_;rotate_left;(first | omega | (simp only [Af,Ai];omega))))))) y5 ?_
 intro h5 z5
 have r5:=(q5.ext (by (repeat (first | exact Aq.refl _ | refine Aq.alloc ?_ _ | (refine Aq.put ?_ _ _ ?_;rotate_left;(first | omega | (simp only [Af,Ai];omega))))))).ext z5
 clear q5 z5
 simp (disch:=omega)only[go_sem, *]
 refine Qi r5 ?_
 intro r h6 s6 z6
 have r6:=r5.ext z6
 have fl:=s6.facts.1
 clear s6 z6 r5
 simp (disch:=omega)only[go_sem, *]
 refine XW r6 r6 ?_
 intro h7 z7
 have r7:=r6.ext z7
 clear r6 z7
 rw [show decide (E.clk=E.clk∧E.mem=E.mem∧E.all=E.all∧E.procs=E.procs∧E.halt=E.halt∧E.fl=E.fl)=true from by simp]
 simp (disch:=omega)only[go_sem, *]
 refine XX r7 ?_
 clear r7
 simp (disch:=omega)only[go_sem, *]
end Go.Ab.T
namespace Go.Ab.T
open Go Go.Ab
set_option maxHeartbeats 4000000
/-! What a tick keeps. -/
section
variable {c c':PC} {k:Kn} {q:k.σ} {s:PS} {t pc kd:Int} {i n:Nat}
theorem IW:(DH c s t i pc kd).procs.length=s.procs.length:=by
 unfold DH FY Lg BL
 repeat' split
 all_goals simp
theorem IV:(DH c s t i pc kd).clk=s.clk:=by
 unfold DH FY Lg
 repeat' split
 all_goals rfl
theorem fN {x:F3}:(oK c k q s n x).2.1.procs.length=s.procs.length∧(oK c k q s n x).2.1.clk=s.clk+1∧(oK c k q s n x).1.t=s.clk:=by
 obtain ⟨k1,k2,k3,k4,k5⟩:=IR (k:=k) (q:=q) (c:=c) (s:=FY { s with clk:=s.clk+1 } n (IntKind.wrap .i64 ((nth s.all n).pc+4))) (t:=s.clk) (op:=x.op) (i:=n) (A:=x.a.toNat) (B:=x.b.toNat) (C:=x.c.toNat)
 unfold oK
 simp only []
 split
 ·exact ⟨k4,k3,rfl⟩
 ·exact ⟨IW.trans k4,IV.trans k3,rfl⟩
theorem Tw:(Fw c k q s n).2.1.procs.length=s.procs.length∧(Fw c k q s n).2.1.clk=s.clk+1∧(Fw c k q s n).1.t=s.clk:=by
 unfold Fw
 simp only []
 split
 ·exact ⟨IW,IV,rfl⟩
 ·split
  ·exact ⟨IW,IV,rfl⟩
  ·exact fN
theorem TA:(BN c k q s).2.2.1.procs.length=s.procs.length∧(s.halt=true→(BN c k q s).1=⟨0,0,0,0,0,0⟩∧(BN c k q s).2.1=false∧(BN c k q s).2.2.1=s∧(BN c k q s).2.2.2=q)∧(s.halt=false→(BN c k q s).2.1=true∧(BN c k q s).1.t=s.clk∧(BN c k q s).2.2.1.clk=s.clk+1):=by
 unfold BN
 by_cases h:s.halt=true
 ·rw [if_pos h]
  exact ⟨rfl,fun _=>⟨rfl,rfl,rfl,rfl⟩,fun e=>by rw [h] at e;cases e⟩
 ·rw [if_neg h]
  split
  ·exact ⟨rfl,fun e=>absurd e h,fun _=>⟨rfl,rfl,rfl⟩⟩
  ·have z:=Tw (c:=c) (k:=k) (q:=q) (s:=s) (n:=(Bt s.procs s.clk).toNat)
   exact ⟨z.1,fun e=>absurd e h,fun _=>⟨rfl,z.2.2,z.2.1⟩⟩
theorem QA:(Cz c s).2.2.procs.length=s.procs.length∧(s.halt=true→Cz c s=(⟨0,0,0,0,0,0⟩,false,s))∧(s.halt=false→(Cz c s).2.1=true∧(Cz c s).1.t=s.clk∧(Cz c s).2.2.clk=s.clk+1):=by
 obtain ⟨z1,z2,z3⟩:=TA (c:=c) (k:=noK) (q:=()) (s:=s)
 refine ⟨z1,fun e=>?_,z3⟩
 obtain ⟨y1,y2,y3,_⟩:=z2 e
 unfold Cz
 rw [y1,y2,y3]
end
end Go.Ab.T
namespace Go.Ab.T
open Go Go.Ab
set_option maxHeartbeats 8000000
/-! Two partitions in one memory. -/
section
variable {b b' pp tb lg pq tq lq:Nat} {h h1 h2:AH} {w a f a1 f1 w' a' f':V} {c c':PC} {s s' s1:PS}
theorem PA.back {l:Nat} (p:PA b h pp tb lg w a f c s) (hl:l≤b):PA b (h.back l) pp tb lg w a f c s:=
 ⟨p.gp,p.gt,p.gl,p.sw,p.sa,p.sf,hl,p.bp,p.np,p.d,p.dw,p.da,p.df,p.l1,p.l2,p.l3,p.l4,p.l5,p.l6⟩
theorem PA.far {z:Nat} (p:PA b h pp tb lg w a f c s) (x:Wr h (·=z) h2) (hz:z<b):PA b h2 pp tb lg w a f c s:=by
 obtain ⟨q1,q2,q3⟩:=p.low
 have bp:=p.bp
 exact p.same x (fun i e=>⟨by omega,by omega,by omega,by omega,by omega,q3.imp (fun z=>z) (fun z=>by omega)⟩)
end
end Go.Ab.T
namespace Go.Ab.T
open Go Go.Ab
set_option maxHeartbeats 8000000
section
variable {b b' pp tb lg pq tq lq:Nat} {h:AH} {w a f w' a' f':V} {c c2:PC} {s:PS}
theorem Made.procs {C:An} (m:Made C) {i:Nat} (hi:i<C.parts.length):1≤(nth C.parts i).procs.length∧(nth C.parts i).procs.length≤3:=by
 obtain ⟨_,hp,_,_⟩:=EG.1 m.wh
 have:=(hp i hi).2.2
 unfold Dt at this
 simp only [Bool.and_eq_true] at this
 have:=this.1.1
 unfold BO at this
 simp only [Bool.and_eq_true,decide_eq_true_eq] at this
 omega
end
end Go.Ab.T
namespace Go.Ab.T
open Go Go.Ab
set_option maxHeartbeats 4000000
/-! A partition that restarts at each fault. -/
def rst (x:Part):Part:={ x with h0:=1,h1:=1,h2:=1,h3:=1,h4:=1 }
def E5 (C:An):An:={ C with parts:=C.parts.set 0 (rst (nth C.parts 0)) }
theorem XR {x:Part} (h:Dt x=true):Dt (rst x)=true:=by
 unfold Dt at h ⊢
 simp only [Bool.and_eq_true] at h ⊢
 exact ⟨⟨h.1.1,by simp [EW,rst]⟩,h.2⟩
theorem Tq {C:An} (h:Bb C=(0,-1)):Bb (E5 C)=(0,-1):=by
 rw [EG] at h ⊢
 obtain ⟨h1,h2,h3,h4⟩:=h
 obtain ⟨P,Ch,T⟩:=C
 cases P with
 | nil=>simp at h1
 | cons p0 l=>
  have eL:(rst p0::l).length=(p0::l).length:=rfl
  refine ⟨h1,fun j hj=>?_,h3,fun t ht=>?_⟩
  ·have g:=h2 j hj
   cases j with
   | zero=>exact ⟨g.1,rfl,XR g.2.2⟩
   | succ j=>exact g
  ·have g:=h4 t ht
   rw [Gs] at g ⊢
   exact g
theorem aEV {C:An} (h:Hc C):Hc (E5 C):=fun p hp=>by
 obtain ⟨P,Ch,T⟩:=C
 cases P with
 | nil=>cases hp
 | cons p0 l=>
  rcases List.mem_cons.1 hp with rfl | hp
  ·exact h p0 (List.mem_cons_self ..)
  ·exact h p (List.mem_cons_of_mem _ hp)
section
variable {c:PC} {k:Kn} {q:k.σ} {s:PS} {t pc kd op:Int} {i n A B C:Nat}
theorem VA:(E9 c k q s t i op A B C).2.1=0∨(E9 c k q s t i op A B C).2.1=3∨(E9 c k q s t i op A B C).2.1=4∨(E9 c k q s t i op A B C).2.1=5:=by
 unfold E9
 repeat' split
 all_goals first | exact .inl rfl | (unfold Cc;split<;>simp;done) | (unfold B8;(repeat' split)<;>simp;done) | (unfold B1;(repeat' split)<;>simp)
def RQ (c:PC):Prop:=∀ k:Int,1≤k→k≤5→c.act k=1
theorem IX (ha:RQ c) (h1:1≤kd) (h5:kd≤5):(DH c s t i pc kd).halt=false∧(DH c s t i pc kd).mem=List.replicate 16 0∧(DH c s t i pc kd).all=HY (nth c.c.parts c.p).procs:=by
 unfold DH
 simp only [ha kd h1 h5]
 exact ⟨rfl,rfl,rfl⟩
theorem YH (ha:RQ c) (hs:s.halt=false):(BN c k q s).2.2.1.halt=false∧((BN c k q s).1.fault≠0→(BN c k q s).2.2.1.mem=List.replicate 16 0∧(BN c k q s).2.2.1.all=HY (nth c.c.parts c.p).procs):=by
 unfold BN
 rw [if_neg (by rw [hs];decide)]
 split
 ·exact ⟨hs,fun e=>absurd rfl e⟩
 ·unfold Fw
  simp only []
  split
  ·have z:=IX (s:={ s with clk:=s.clk+1 }) (t:=s.clk) (i:=(Bt s.procs s.clk).toNat) (pc:=(nth s.all (Bt s.procs s.clk).toNat).pc) ha (kd:=2) (by decide) (by decide)
   exact ⟨z.1,fun _=>z.2⟩
  ·split
   ·have z:=IX (s:={ s with clk:=s.clk+1 }) (t:=s.clk) (i:=(Bt s.procs s.clk).toNat) (pc:=(nth s.all (Bt s.procs s.clk).toNat).pc) ha (kd:=1) (by decide) (by decide)
    exact ⟨z.1,fun _=>z.2⟩
   ·generalize CL c.prog (nth s.all (Bt s.procs s.clk).toNat).pc=y
    obtain ⟨k1,k2,k3,k4,k5⟩:=IR (k:=k) (q:=q) (c:=c) (s:=FY { s with clk:=s.clk+1 } (Bt s.procs s.clk).toNat (IntKind.wrap .i64 ((nth s.all (Bt s.procs s.clk).toNat).pc+4))) (t:=s.clk) (op:=y.1.op) (i:=(Bt s.procs s.clk).toNat) (A:=y.1.a.toNat) (B:=y.1.b.toNat) (C:=y.1.c.toNat)
    have df:=VA (k:=k) (q:=q) (c:=c) (s:=FY { s with clk:=s.clk+1 } (Bt s.procs s.clk).toNat (IntKind.wrap .i64 ((nth s.all (Bt s.procs s.clk).toNat).pc+4))) (t:=s.clk) (op:=y.1.op) (i:=(Bt s.procs s.clk).toNat) (A:=y.1.a.toNat) (B:=y.1.b.toNat) (C:=y.1.c.toNat)
    unfold oK
    simp only []
    split
    ·exact ⟨k1.trans hs,fun e=>absurd rfl e⟩
    ·rename_i hd
     have z:=IX (c:=c) (s:=(E9 c k q (FY { s with clk:=s.clk+1 } (Bt s.procs s.clk).toNat (IntKind.wrap .i64 ((nth s.all (Bt s.procs s.clk).toNat).pc+4))) s.clk (Bt s.procs s.clk).toNat y.1.op y.1.a.toNat y.1.b.toNat y.1.c.toNat).2.2.1) (t:=s.clk) (i:=(Bt s.procs s.clk).toNat) (pc:=(nth s.all (Bt s.procs s.clk).toNat).pc) ha (kd:=(E9 c k q (FY { s with clk:=s.clk+1 } (Bt s.procs s.clk).toNat (IntKind.wrap .i64 ((nth s.all (Bt s.procs s.clk).toNat).pc+4))) s.clk (Bt s.procs s.clk).toNat y.1.op y.1.a.toNat y.1.b.toNat y.1.c.toNat).2.1) (by omega) (by omega)
     exact ⟨z.1,fun _=>z.2⟩
theorem cN {C:An} {prog ins:List Int} (h:0<C.parts.length):RQ (H9 (E5 C) 0 prog ins):=fun k h1 h5=>by
 obtain ⟨P,Ch,T⟩:=C
 cases P with
 | nil=>cases h
 | cons p0 l=>
  have:k=1∨k=2∨k=3∨k=4∨k=5:=by omega
  rcases this with rfl | rfl | rfl | rfl | rfl<;>rfl
end
end Go.Ab.T
namespace Go.Ab.T
open Go Go.Ab
set_option maxHeartbeats 8000000
section
variable {b pp tb lg:Nat} {h:AH} {w a f:V} {c:PC} {s:PS}
theorem MU {n:Nat}:∀ j,nth (List.replicate n (0:Int)) j=0:=fun j=>by
 unfold nth
 rw [List.getD_eq_getElem?_getD,List.getElem?_replicate]
 split<;>rfl
theorem Tz (ha:RQ c) (hs:s.halt=false):(Cz c s).2.2.halt=false∧((Cz c s).1.fault≠0→(Cz c s).2.2.mem=List.replicate 16 0∧(Cz c s).2.2.all=HY (nth c.c.parts c.p).procs):=YH ha hs
theorem Nc {K : Ex → Env → AH → Prop} {e : Env} {C : An} {n : Nat} (p : PA b h pp tb lg w a f c s) (ht : s.all = HY (nth C.parts 0).procs)
    (e5:e 5=.p 1 0 0) (e6:e 6=.p pp 0 0) (e7:e 7=.i .i64 n) (e66:e 66=.i .i64 (nth C.parts 0).procs.length) (e67:e 67=.i .i64 0)
    (kk:∀ e' h',Aq h h'→e' 5=.p 1 0 0→e' 6=.p pp 0 0→e' 7=.i .i64 n→K (.ex 2) e' h'):ZC tp (.loop TY) e h K:=by
 have hal:s.all.length=(nth C.parts 0).procs.length:=by rw [ht,HY,List.length_map]
 have hr:∀ i,i<s.all.length→∀ j,nth (nth s.all i).r j=0:=fun i hia=>by
  rw [ht,HY] at hia ⊢
  rw [Bz hia,List.getElem_map]
  exact MU
 have h3:(nth C.parts 0).procs.length≤3:=by have:=p.l1;have:=p.l2;omega
 clear ht
 refine Ah (fun m e hh=>∃ (i:Nat),m=(nth C.parts 0).procs.length - i∧i≤(nth C.parts 0).procs.length∧Aq h hh∧e 5=.p 1 0 0∧e 6=.p pp 0 0∧e 7=.i .i64 n∧e 66=.i .i64 (nth C.parts 0).procs.length∧e 67=.i .i64 i) ?_ _ _ _ ⟨0,rfl,by omega,Aq.refl _,e5,e6,e7,e66,e67⟩
 clear e5 e6 e7 e66 e67 e
 rintro m e hh ⟨i,rfl,hi,x,e5,e6,e7,e66,e67⟩ ih
 rw [Am TY.eq_1]
 simp (disch:=omega)only[go_sem, *]
 refine Aa (fun hc=>?_) (fun hc=>?_)
 ·have hia:i<s.all.length:=by omega
  have hr:=hr i hia
  clear kk
  simp (disch:=omega)only[go_sem, *]
  refine M3 (p.ext x) hia ?_
  intro h1 x1
  simp (disch:=omega)only[go_sem, *]
  clear hr
  refine ih _ _ _ ?_ ⟨i+1,rfl,by omega,x.trans x1, ?_⟩
  ·omega
  ·clear ih
   simp (disch:=omega)only[go_sem, *]
 ·clear ih
  simp (disch:=omega)only[go_sem, *]
  refine kk _ hh x ?_ ?_ ?_
  all_goals (clear kk;simp (disch:=omega)only[go_sem, *])
theorem Nd {K : Ex → Env → AH → Prop} {e : Env} {C : An} (g : PG c) (n : PN c) (hpl : (nth c.c.parts c.p).procs.length = s.procs.length) (ha : RQ c) (hC : nth c.c.parts c.p = nth C.parts 0) (hCl : 0 < C.parts.length)
    (p:PA b h pp tb lg w a f c s) (hb:1<b) (hs:s.halt=false) (hk:s.clk=0) (g1:h.get 1=some ⟨3,[C.enc]⟩)
    (e5:e 5=.p 1 0 0) (e6:e 6=.p pp 0 0) (e7:e 7=.i .i64 0)
    (kk:∀ e' h' s a f,PA b h' pp tb lg w a f c s→s.halt=false→e' 6=.p pp 0 0→K (.ex 0) e' h'):ZC tp (.loop QJ) e h K:=by
 simp only [An.enc] at g1
 refine Ah (fun m e hh=>∃ (i:Nat) (s:PS) (a f:V),m=60 - i∧i≤60∧PA b hh pp tb lg w a f c s∧(nth c.c.parts c.p).procs.length=s.procs.length∧s.halt=false∧s.clk=i∧hh.get 1=some ⟨3,[[.fl 11 (C.parts.map Part.enc),.fl 6 (C.chans.map A1.enc),.fl 1 (C.tables.map Tab.enc)]]⟩∧e 5=.p 1 0 0∧e 6=.p pp 0 0∧e 7=.i .i64 i) ?_ _ _ _ ⟨0,s,a,f,rfl,by omega,p,hpl,hs,hk,g1,e5,e6,e7⟩
 clear p hpl hs hk g1 e5 e6 e7 e
 rintro m e hh ⟨i,s,a,f,rfl,hi,p,hpl,hs,hk,g1,e5,e6,e7⟩ ih
 rw [Am QJ.eq_1]
 simp (disch:=omega)only[go_sem, *]
 refine Aa (fun hc=>?_) (fun hc=>?_)
 ·obtain ⟨z1,z2,z3⟩:=QA (c:=c) (s:=s)
  obtain ⟨z4,z5,z6⟩:=z3 hs
  obtain ⟨r1,r2⟩:=Tz ha hs
  obtain ⟨⟨l,ok,s1⟩,er⟩:∃ r,Cz c s=r:=⟨_,rfl⟩
  rw [er] at z1 z4 z5 z6 r1 r2
  simp only at z1 z4 z5 z6 r1 r2
  subst z4
  rw [hk] at z5 z6
  clear z2 z3 kk
  simp (disch:=omega)only[go_sem, *]
  refine FQ er p g n hpl (by omega) ?_
  intro h1 a1 f1 pt1 p1
  obtain ⟨v1,-⟩:=B0 pt1 (j:=1) (by have:=p.np;have:=p.bp;omega) (fun e=>by
   obtain ⟨q1,q2,q3⟩:=p.low
   have bp:=p.bp
   rcases e with e | e | e | e | ⟨z,e⟩
   ·omega
   ·omega
   ·omega
   ·omega
   ·have:=q3.resolve_left (by rw [z];decide);omega)
  rw [g1] at v1
  have l1:=p1.lim
  have np:=p1.np.1
  have bp:=p1.bp.1
  clear pt1 p er
  have nx:∀ {g':AH} {v:Env},Aq h1 g'→v 5=.p 1 0 0→v 6=.p pp 0 0→v 7=.i .i64 ((i+1:Nat):Int)→ZC tp (.loop QJ) v g' K:=fun x f5 f6 f7=>ih _ _ _ (by omega) ⟨i+1,s1,a1,f1,rfl,by omega,p1.ext x,hpl.trans z1.symm,r1,by omega,(x.get 1 (by omega)).trans v1,f5,f6,f7⟩
  clear ih
  simp (disch:=omega)only[go_sem, *]
  refine KU (p1.ext (by (repeat (first | exact Aq.refl _ | refine Aq.alloc ?_ _ | (refine Aq.put ?_ _ _ ?_;rotate_left;(first | omega | (simp only [Af,Ai];omega))))))) ?_
  by_cases hf:l.fault=0
  ·clear r1 r2
   simp (disch:=omega)only[go_sem, *]
   refine nx ?_ ?_ ?_ ?_
   ·(repeat (first | exact Aq.refl _ | refine Aq.alloc ?_ _ | (refine Aq.put ?_ _ _ ?_;rotate_left;(first | omega | (simp only [Af,Ai];omega)))))
   all_goals (clear nx;simp (disch:=omega)only[go_sem, *])
  ·obtain ⟨y1,y2⟩:=r2 hf
   have y0:∀ j,nth s1.mem j=0:=fun j=>by rw [y1];exact MU j
   clear r1 r2 y1
   simp (disch:=omega)only[go_sem, *]
   refine iA (p1.ext (by (repeat (first | exact Aq.refl _ | refine Aq.alloc ?_ _ | (refine Aq.put ?_ _ _ ?_;rotate_left;(first | omega | (simp only [Af,Ai];omega))))))) ?_
   intro h2 x2
   have k1:=(x2.get 1 (by simp only [go_sem];omega))
   simp (disch:=omega)only[go_sem,v1] at k1
   have X:Aq h1 h2:=Aq.trans (by (repeat (first | exact Aq.refl _ | refine Aq.alloc ?_ _ | (refine Aq.put ?_ _ _ ?_;rotate_left;(first | omega | (simp only [Af,Ai];omega)))))) x2
   clear x2
   simp (disch:=omega)only[go_sem, *]
   refine Nc (C:=C) (n:=i) (p1.ext X) (by rw [y2,hC]) ?_ ?_ ?_ ?_ ?_ ?_
   rotate_right 1
   ·intro e' h3 x3 f5 f6 f7
    simp (disch:=omega)only[go_sem, *]
    refine nx (X.trans x3) ?_ ?_ ?_
    all_goals (clear nx;simp (disch:=omega)only[go_sem, *])
   all_goals simp (disch:=omega)only[go_sem, *]
 ·clear ih
  simp (disch:=omega)only[go_sem, *]
  refine kk _ hh s a f p hs ?_
  clear kk
  simp (disch:=omega)only[go_sem, *]
theorem aEn {h : AH} {C : An} {f : Nat} {B : List Int} {vp : V} {K : V → AH → Prop} (hq : 1 < h.next) (g4 : h.get 1 = some ⟨3, [[vp, .fl 6 (C.chans.map A1.enc), .fl 1 (C.tables.map Tab.enc)]]⟩) (hp : ∀ n, CY (· ≠ 1) h n vp (.fl 11 (C.parts.map Part.enc)))
    (z:Cq tp f [.agg C.enc,.i .i64 ((0:Nat):Int),.fl 1 (B.map FW),.fl 1 (([]:List Int).map Lp)] ⟨fun i=>if i=1 then some ⟨3,[C.enc]⟩ else none,h.next,h.lim⟩ K):Cq tp f [.agg [vp,.fl 6 (C.chans.map A1.enc),.fl 1 (C.tables.map Tab.enc)],.i .i64 0,.fl 1 (B.map FW),.ns] h K:=by
 refine QI (h2:=⟨fun i=>if i=1 then some ⟨3,[C.enc]⟩ else none,h.next,h.lim⟩) (args':=[.agg C.enc,.i .i64 ((0:Nat):Int),.fl 1 (B.map FW),.fl 1 (([]:List Int).map Lp)]) (fun i=>i≠1) rfl rfl (fun _ i k hk=>?_) (.cons _ _ _ _ _ (.agg _ _ _ (.cons _ _ _ _ _ (hp _) (.cons _ _ _ _ _ (.fl _ _ _) (.cons _ _ _ _ _ (.fl _ _ _) (.nil _))))) (.cons _ _ _ _ _ (.z _ _ (.i _ _)) (.cons _ _ _ _ _ (.fl _ _ _) (.cons _ _ _ _ _ (.ns _ _) (.nil _))))) z
 by_cases hi:i=1
 ·subst hi
  simp only [if_true] at hk
  cases hk
  exact ⟨hq,fun e=>e rfl,_,g4,.cons _ _ _ _ _ (.cons _ _ _ _ _ (hp _) (.cons _ _ _ _ _ (.fl _ _ _) (.cons _ _ _ _ _ (.fl _ _ _) (.nil _)))) (.nil _)⟩
 ·simp only at hk
  rw [if_neg hi] at hk;cases hk
theorem Nf {L raw:List Int} (hL:L.length<4000000000) (hB:IsY raw) (hBl:raw.length<4000000000):Pf tp aPQ [.fl 1 (L.map Ek),.fl 1 (raw.map FW)] (.b true):=by
 refine AE aPK (by simp [Yz]) fun rp=>?_;unfold Yz;simp (disch:=omega)only[go_sem, *]
 refine Ss (id:=0) (k:=0) (L:=L) ?_ (by omega) hL ?_ ?_
 ·simp only [Ap]
  simp (disch:=omega)only[go_sem, *]
  all_goals rfl
 ·simp (disch:=omega)only[go_sem, *]
 intro C j hj hC
 have p1:1≤C.parts.length∧C.parts.length≤6:=by have:=((EG).1 hC.wh).1;omega
 simp (disch:=omega)only[go_sem, *]
 refine AA (R:=[]) (Sl.nil' 2 _ _) ?_ ?_ ?_ ?_
 ·simp only [go_sem];try decide
 ·simp only [go_sem];try decide
 ·simp;omega
 intro w4 h4 s4 g4
 have n4:=g4.next
 have l4:=g4.lim
 simp only [go_sem] at n4 l4
 have c1:=g4.get 1 (by simp only [go_sem]) (.inl rfl)
 simp only [go_sem] at c1
 have o4:=AD s4
 have d1:=g4.cell
 have d2:=g4.cells
 clear g4
 have s4:Sl 2 h4 11 w4 (C.parts.map Part.enc):=by simpa using s4
 obtain ⟨_,_,lt,lo,get,at1,row,_,_⟩:=s4.facts
 have lt:=lt (by omega)
 have lo:=lo (by omega)
 have get:=get (by omega)
 have row:=row 0 (by omega)
 have at0:=fun cs=>at1 .i64 0 cs (by omega) (by omega)
 rw [Nat.add_zero] at row
 have s5:Sl 2 ((h4.put 1 ⟨3,[[w4,.fl 6 (C.chans.map A1.enc),.fl 1 (C.tables.map Tab.enc)]]⟩).put (Ar w4) ⟨11,(A2 h4 w4).set (Cx w4) (rst (nth C.parts 0)).enc⟩) 11 w4 ((E5 C).parts.map Part.enc):=
  Sl.setT s4 (show 0<C.parts.length by omega) (Nat.le_refl _) (by rw [Ae,Ax rfl];rfl)
 have hp1:=hC.procs (i:=0) (by omega)
 have e0:nth (E5 C).parts 0=rst (nth C.parts 0):=by
  show nth (C.parts.set 0 _) 0=_
  rw [Bz (by simp;omega),List.getElem_set_self]
 have el:0<(E5 C).parts.length:=by show 0<(C.parts.set 0 _).length;simp;omega
 have ell:(E5 C).parts.length<4000000000:=by show (C.parts.set 0 _).length<_;simp;omega
 have hw1:(Bb (E5 C)).1=0:=by rw [Tq hC.wh]
 clear get at1 s4
 unfold Part.enc at row
 simp (disch:=omega)only[go_sem, *]
 refine aEn (C:=E5 C) (B:=raw) ?_ ?_ (fun n=>Sl.froze (P:=fun i=>i≠1) s5 (fun _=>rfl) (by omega) ell) ?_
 ·simp (disch:=omega)only[go_sem, *]
  omega
 ·simp (disch:=omega)only[go_sem, *]
  rfl
 clear s5
 refine RH (C:=E5 C) (p:=0) (prog:=raw) (ins:=[]) (aEV hC.nm) hw1 el (by rw [e0];exact hp1.1) (by rw [e0];exact hp1.2) hBl ?_
 intro h5 pp tb lg w a x5 p5
 have g1:h5.get 1=some ⟨3,[(E5 C).enc]⟩:=x5.get 1 (by simp only [go_sem];omega)
 clear x5
 have gp:PG (H9 (E5 C) 0 raw []):=⟨el,by show 1≤(nth (E5 C).parts 0).procs.length∧(nth (E5 C).parts 0).procs.length≤3;rw [e0];exact hp1⟩
 have np:PN (H9 (E5 C) 0 raw []):=⟨fun z hz=>hB z (List.mem_of_mem_take hz),fun z hz=>(by cases hz),by show ([]:List Int).length<4000000000;decide⟩
 have pl:(nth (E5 C).parts 0).procs.length=(LI (H9 (E5 C) 0 raw [])).procs.length:=by simp [LI,El,H9]
 have ha:RQ (H9 (E5 C) 0 raw []):=cN (by omega)
 have hb:1<((h4.put 1 ⟨3,[[w4,.fl 6 (C.chans.map A1.enc),.fl 1 (C.tables.map Tab.enc)]]⟩).put (Ar w4) ⟨11,(A2 h4 w4).set (Cx w4) (rst (nth C.parts 0)).enc⟩).next:=by simp only [go_sem];omega
 clear at0 row c1 hB e0
 simp (disch:=omega)only[go_sem, *]
 refine Nd (C:=E5 C) gp np pl ha rfl el p5 hb rfl rfl g1 ?_ ?_ ?_ ?_
 ·simp (disch:=omega)only[go_sem, *]
 ·simp (disch:=omega)only[go_sem, *]
 ·simp (disch:=omega)only[go_sem, *]
 clear p5 g1 gp np pl ha hb
 intro e' h' s a f p hs f6
 simp (disch:=omega)only[go_sem, *]
 refine GR p ?_
 simp (disch:=omega)only[go_sem, *]
 refine Pf.go (P9) (by simp only [go_sem]) fun _=>?_;simp (disch:=omega)only[go_sem, *]
end
end Go.Ab.T
