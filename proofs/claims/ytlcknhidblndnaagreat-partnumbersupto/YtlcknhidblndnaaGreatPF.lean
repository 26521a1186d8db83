/- Part of a proof that a law returns true for every input of the second form's bound (no other condition). -/
import Derived.Test.YtlcknhidblndnaaGreatPE
set_option linter.all false
namespace Go.Ab.T
open Go Go.Ab
structure AQ where
 part:Int
 n:Int
 deriving Inhabited,DecidableEq
@[go_sem] def AQ.enc (r:AQ):List V:=[.i .i64 r.part,.i .i64 r.n]
def F3 (a b:Int):Int:=if 9223372036854775807 - max 0 b<max 0 a then 9223372036854775807 else max 0 a+max 0 b
theorem Fi {a b:Int}:0<=F3 a b/\F3 a b<=9223372036854775807:=by unfold F3;split<;>omega
theorem RC {a b:Int} (ha:a<=9223372036854775807) (hb:b<=9223372036854775807):Pf tp Sy [.i .i64 a,.i .i64 b] (.i .i64 (F3 a b)):=by
 refine AL rO (by simp [Ls]) λrp=>?_;unfold Ls;simp (disch:=omega)only[go_sem, *]
 repeat' (first | (refine Ax (λhc=>?_) (λhc=>?_)<;>simp (disch:=omega)only[go_sem, *]) | (refine Ad (λhc=>?_) (λhc=>?_)<;>simp (disch:=omega)only[go_sem, *]))
 all_goals (unfold F3;split<;>omega)
theorem eJ {a b:Int} (ha:a<=9223372036854775807) (hb:b<=9223372036854775807):Pf tp aE [.i .i64 a,.i .i64 b] (.i .i64 (F3 a b)):=by
 refine AL aM9 (by simp [QU]) λrp=>?_;unfold QU;simp (disch:=omega)only[go_sem, *]
 repeat' (first | (refine Ax (λhc=>?_) (λhc=>?_)<;>simp (disch:=omega)only[go_sem, *]) | (refine Ad (λhc=>?_) (λhc=>?_)<;>simp (disch:=omega)only[go_sem, *]))
 all_goals (unfold F3;split<;>omega)
def EB (L:List AQ):Prop:=∀ i,i<L.length->(nth L i).n<=9223372036854775807
def CU:List AQ->Int->Int
 | [],n=>n
 | r::l,n=>CU l (F3 n r.n)
theorem MD {L:List AQ} (hok:EB L):Pf tp SB [.fl 2 (L.map AQ.enc)] (.i .i64 (CU L 0)):=by
 refine AL rR (by simp [Lv]) λrp=>?_;unfold Lv;simp (disch:=omega)only[go_sem, *];have hL:=rp.head.len;refine Ai (λn e h=>∃ (i:Nat) (a:Int),n=L.length - i/\h.lim=0/\e 6=.fl 2 (L.map AQ.enc)/\e 7=.i .i64 L.length/\e 8=.i .i64 i/\e 3=.i .i64 a/\i<=L.length/\a<=9223372036854775807/\CU (L.drop i) a=CU L 0) ?_ _ _ _ ⟨0,0,rfl, ?_⟩
 .rintro n e h ⟨i,a,rfl,hl,e6,e7,e8,e3,hi,ha,hz⟩ ih;rw [Ao Xr.eq_1];simp (disch:=omega)only[go_sem, *];refine Ad (λhc=>?_) (λhc=>?_)
  .rw [AN om,CU] at hz;have hb:=hok i om;simp (disch:=omega)only[go_sem, *];refine Pf.go (RC ha hb) (by simp only [go_sem]) λ_=>?_;simp (disch:=omega)only[go_sem, *];refine ih _ _ _ ?_ ⟨i+1,F3 a (nth L i).n,rfl, ?_⟩
   .omega
   .simp (disch:=omega)only[go_sem, *]
    ((repeat' refine And.intro ?_ ?_)<;>first | omega | assumption | (exact Fi.2))
  .rw [List.drop_eq_nil_of_le om,CU] at hz;simp (disch:=omega)only[go_sem, *]
 .simp (disch:=omega)only[go_sem, *]
def BB:List AQ->List AQ->List AQ
 | [],out=>out
 | r::l,out=>if r.n<1 then BB l out else
  if 0<out.length/\(nth out (out.length - 1)).part=r.part then BB l (out.set (out.length - 1) ⟨(nth out (out.length - 1)).part,F3 (nth out (out.length - 1)).n r.n⟩) else BB l (out++[r])
theorem EZ {A:List AQ} {r:AQ} (hA:EB A) (hr:r.n<=9223372036854775807):EB (A++[r]):=by
 intro i hi;simp only [List.length_append,List.length_cons,List.length_nil] at hi
 by_cases h:i<A.length
 .have:=hA i h;simp only [nth,List.getD] at this ⊢;rw [List.getElem?_append_left h];exact this
 .have:i=A.length:=by omega
  subst this;simpa [nth,List.getD] using hr
theorem KR {A:List AQ} {j:Nat} {r:AQ} (hA:EB A) (hr:r.n<=9223372036854775807):EB (A.set j r):=by
 intro i hi;simp only [List.length_set] at hi;have:=hA i hi;simp only [nth,List.getD] at this ⊢;rw [List.getElem?_set];split
 .rename_i h;subst h;simp [hi];exact hr
 .exact this
theorem Tf {L:List AQ} (hok:EB L):Pf tp aC [.fl 2 (L.map AQ.enc)] (.fl 2 ((BB L []).map AQ.enc)):=by
 refine AL aM7 (by simp [QS]) λrp=>?_;unfold QS;simp (disch:=omega)only[go_sem, *];have hL:=rp.head.len;refine Ai (λn e h=>∃ (i:Nat) (out:V) (A:List AQ),n=L.length - i/\h.lim=0/\e 7=.fl 2 (L.map AQ.enc)/\e 8=.i .i64 L.length/\e 9=.i .i64 i/\e 3=out/\i<=L.length/\A.length<=i/\Sl 0 h 2 out (A.map AQ.enc)/\EB A/\BB (L.drop i) A=BB L []) ?_ _ _ _ ⟨0,.ns,[],rfl, ?_⟩
 .rintro n e h ⟨i,out,A,rfl,hl,e7,e8,e9,e3,hi,hA,so,okA,hz⟩ ih;rw [Ao bBu.eq_1];simp (disch:=omega)only[go_sem, *];obtain ⟨olen,obig,olt,olo,oget,oat,orow,ocell,ocells⟩:=so.facts;refine Ad (λhc=>?_) (λhc=>?_)
  .rw [AN om,BB] at hz;have hb:=hok i om;simp (disch:=omega)only[go_sem, *];have x1:Ak h ((h.alloc ⟨2,[[.i .i64 0,.i .i64 0]]⟩).put h.next ⟨2,[[.i .i64 (nth L i).part,.i .i64 (nth L i).n]]⟩):=by (repeat (first | exact Ak.refl _ | refine Ak.alloc ?_ _ | (refine Ak.put ?_ _ _ ?_;rotate_left;(first | omega | (simp only [Ac,Ah];omega)))))
   refine Ad (λhc2=>?_) (λhc2=>?_)
   .rw [if_pos hc2] at hz;simp (disch:=omega)only[go_sem, *];refine ih _ _ _ ?_ ⟨i+1,out,A,rfl, ?_⟩
    .omega
    .simp (disch:=omega)only[go_sem, *]
     ((repeat' refine And.intro ?_ ?_)<;>first | omega | assumption | (exact so.ext x1))
   .rw [if_neg hc2] at hz;simp (disch:=omega)only[go_sem, *];refine Ax (λhc3=>?_) (λhc3=>?_)
    .have hk:((A.length:Int) - 1).toNat=A.length - 1:=by omega
     simp (disch:=omega)only[go_sem, *];refine Ad (λhc4=>?_) (λhc4=>?_)
     .rw [if_pos ⟨om,hc4⟩] at hz;have hA1:=okA (A.length - 1) om;simp (disch:=omega)only[go_sem, *];refine Pf.go (eJ hA1 hb) (by simp only [go_sem]) λ_=>?_;simp (disch:=omega)only[go_sem, *];refine ih _ _ _ ?_ ⟨i+1,out,A.set (A.length - 1) ⟨(nth A (A.length - 1)).part,F3 (nth A (A.length - 1)).n (nth L i).n⟩,rfl, ?_⟩
      .omega
      .simp (disch:=omega)only[go_sem, *]
       ((repeat' refine And.intro ?_ ?_)<;>first | omega | assumption | (simp;omega) | (exact Sl.setT so om (by simp (disch:=omega)only[go_sem]<;>omega) (by simp (disch:=omega)only[go_sem, *])) | (refine KR okA ?_;exact Fi.2) | (rw [<- hz,hc4]))
     .simp only [hc4,and_false,reduceIte] at hz;simp (disch:=omega)only[go_sem, *];refine Av (R:=A.map AQ.enc) ((so.ext x1).alloc _) (by simp only [go_sem, *]) (Nat.zero_le _) (by simp;omega) ?_;intro w h4 s4 g4;have hl4:=g4.lim;simp (disch:=omega)only[go_sem, *];refine ih _ _ _ ?_ ⟨i+1,w,A++[nth L i],rfl, ?_⟩
      .omega
      .simp (disch:=omega)only[go_sem, *]
       ((repeat' refine And.intro ?_ ?_)<;>first | omega | assumption | (simp;omega) | (simpa [AQ.enc] using s4) | (exact EZ okA hb))
    .have h0:A.length=0:=by omega
     simp only [h0,Nat.lt_irrefl,false_and,reduceIte] at hz;simp (disch:=omega)only[go_sem, *];refine Av (R:=A.map AQ.enc) ((so.ext x1).alloc _) (by simp only [go_sem, *]) (Nat.zero_le _) (by simp;omega) ?_;intro w h4 s4 g4;have hl4:=g4.lim;simp (disch:=omega)only[go_sem, *];refine ih _ _ _ ?_ ⟨i+1,w,A++[nth L i],rfl, ?_⟩
     .omega
     .simp (disch:=omega)only[go_sem, *]
      ((repeat' refine And.intro ?_ ?_)<;>first | omega | assumption | (simp;omega) | (simpa [AQ.enc] using s4) | (exact EZ okA hb))
  .rw [List.drop_eq_nil_of_le om,BB] at hz;simp (disch:=omega)only[go_sem, *];subst hz;exact Sl.froze so (λ_=>rfl) trivial om
 .simp (disch:=omega)only[go_sem, *];exact ⟨Sl.nil _ _ _,λi hi=>by simp at hi⟩
end Go.Ab.T
namespace Go.Ab.T
open Go Go.Ab
structure Node where
 kind:Int
 part:Int
 n:Int
 deriving DecidableEq,Inhabited
@[go_sem] def Node.enc (x:Node):List V:=[.i .i64 x.kind,.i .i64 x.part,.i .i64 x.n]
def kids (x:Node):Int:=
 if x.n<1\/(x.kind≠1/\x.part≠0) then -1
 else if (x.kind=1/\0<=x.part/\x.part<6)\/x.kind=2 then 0
 else if x.kind=3/\x.n<=128 then x.n
 else if x.kind=4 then 1 else -1
theorem HO (x:Node): -1<=kids x/\kids x<=128:=by
 unfold kids;repeat' split
 all_goals omega
theorem UP {x:Node}:Pf tp SG [.agg x.enc] (.i .i64 (kids x)):=by
 refine AL rX (by simp [LA]) λrp=>?_;unfold LA;simp (disch:=omega)only[go_sem, *]
 repeat' (first | (refine Ax (λhc=>?_) (λhc=>?_)<;>simp (disch:=omega)only[go_sem, *]) | (refine Ad (λhc=>?_) (λhc=>?_)<;>simp (disch:=omega)only[go_sem, *]))
 all_goals (unfold kids;repeat' split)
 all_goals omega
def ES:List Node->Int->Int->Int
 | [],_,_=>0
 | x::r,left,n=>if kids x<0 then 0 else if left+(kids x - 1)=0 then n+1 else ES r (left+(kids x - 1)) (n+1)
def size (L:List Node) (a:Int):Int:=if a<0\/(L.length:Int)<=a then 0 else ES (L.drop a.toNat) 1 0
theorem vJ {L:List Node} {a:Int}:Pf tp Kq [.fl 3 (L.map Node.enc),.i .i64 a] (.i .i64 (size L a)):=by
 refine AL rU (by simp [Ly]) λrp=>?_;unfold Ly;simp (disch:=omega)only[go_sem, *];have hL:=rp.head.len
 repeat' (first | (refine Ax (λhc=>?_) (λhc=>?_)<;>simp (disch:=omega)only[go_sem, *]) | (refine Ad (λhc=>?_) (λhc=>?_)<;>simp (disch:=omega)only[go_sem, *]))
 .simp [size];omega
 .simp [size];omega
 .refine Ai (λn e h=>∃ (i:Nat) (left:Int),n=L.length - i/\h.lim=0/\e 0=.fl 3 (L.map Node.enc)/\e 1=.i .i64 a/\e 5=.i .i64 left/\e 6=.i .i64 i/\a<=i/\i<=L.length/\0<left/\left<=1+128*i/\ES (L.drop i) left (i - a)=size L a) ?_ _ _ _ ⟨a.toNat,1,rfl, ?_⟩
  .rintro n e h ⟨i,left,rfl,hl,e0,e1,e5,e6,hi1,hi2,hl1,hl2,hz⟩ ih;rw [Ao bAH.eq_1];simp (disch:=omega)only[go_sem, *];have hk:=HO (nth L i);refine Ad (λhc=>?_) (λhc=>?_)
   .rw [AN om,ES] at hz;simp (disch:=omega)only[go_sem, *];refine Pf.go (UP) (by simp only [go_sem]) λ_=>?_;simp (disch:=omega)only[go_sem, *];refine Ad (λhc2=>?_) (λhc2=>?_)
    .rw [if_pos hc2] at hz;simp (disch:=omega)only[go_sem, *]
    .rw [if_neg hc2] at hz;simp (disch:=omega)only[go_sem, *];refine Ad (λhc3=>?_) (λhc3=>?_)
     .rw [if_pos hc3] at hz;simp (disch:=omega)only[go_sem, *];omega
     .rw [if_neg hc3] at hz;simp (disch:=omega)only[go_sem, *];refine ih _ _ _ ?_ ⟨i+1,left+(kids (nth L i) - 1),rfl, ?_⟩
      .omega
      .simp (disch:=omega)only[go_sem, *];refine ⟨om,om,om,om, ?_⟩;rw [<- hz];congr 1;omega
   .rw [List.drop_eq_nil_of_le om,ES] at hz;simp (disch:=omega)only[go_sem, *]
  .simp (disch:=omega)only[go_sem, *]
   ((repeat' refine And.intro ?_ ?_)<;>first | omega | assumption | ((congr 1;omega)) | ((simp only [size];rw [if_neg om];congr 1;omega)))
def BG (L:List Node):Bool:=decide (0<L.length/\size L 0=L.length)
theorem L8 {L:List Node}:Pf tp Sv [.fl 3 (L.map Node.enc)] (.b (BG L)):=by
 refine AL rJ (by simp [Ln]) λrp=>?_;unfold Ln;simp (disch:=omega)only[go_sem, *];refine Ax (λhc=>?_) (λhc=>?_)
 .simp (disch:=omega)only[go_sem, *];refine Pf.go (vJ) (by simp only [go_sem]) λ_=>?_;simp (disch:=omega)only[go_sem, *];simp only [BG]
  congr 1
  simp;omega
 .simp (disch:=omega)only[go_sem, *];simp only [BG];simp;omega
def Pg (a b:Int):Int:=min 4097 (a+min 4097 b)
def IM (n t:Int):Int:=min 4097 (min 4097 n*t)
theorem UU {a b:Int} (ha:0<=a/\a<=4097) (hb:0<=b):Pf tp SI [.i .i64 a,.i .i64 b] (.i .i64 (Pg a b)):=by
 refine AL rZ (by simp [LC]) λrp=>?_;unfold LC;simp (disch:=omega)only[go_sem, *];rfl
theorem Wn {n t:Int} (hn:0<=n) (ht:0<=t/\t<=4097):Pf tp SH [.i .i64 n,.i .i64 t] (.i .i64 (IM n t)):=by
 have h1:0<=min 4097 n*t:=Int.mul_nonneg om ht.1;have h2:min 4097 n*t<=4097*4097:=Int.mul_le_mul om ht.2 ht.1 om;refine AL rY (by simp [LB]) λrp=>?_;unfold LB;simp (disch:=omega)only[go_sem, *];rfl
end Go.Ab.T
namespace Go.Ab.T
open Go Go.Ab
structure Frame where
 node:Node
 left:Int
 depth:Int
 ticks:Int
 deriving DecidableEq,Inhabited
@[go_sem] def Frame.enc (f:Frame):List V:=[.i .i64 f.node.kind,.i .i64 f.node.part,.i .i64 f.node.n,.i .i64 f.left,.i .i64 f.depth,.i .i64 f.ticks]
def Frame.out (f:Frame):Int:=if f.node.kind=4 then IM f.node.n f.ticks else f.ticks
def Frame.take (up top:Frame):Frame:=⟨up.node,up.left - 1,max up.depth (top.depth+1),Pg up.ticks top.out⟩
def EM:List Frame->List Frame
 | []=>[]
 | [t]=>[t]
 | top::up::r=>if top.left=0 then EM (up.take top::r) else top::up::r
termination_by l=>l.length
def AZ (n:Node):Frame:=⟨n,kids n,0,if kids n=0 then min 4097 n.n else 0⟩
def Ee:List Node->List Frame->List Frame
 | [],s=>s
 | n::l,s=>Ee l (EM (AZ n::s))
def Cx (L:List Node):Frame:=nth (Ee L [⟨⟨0,0,0⟩,1,0,0⟩]).reverse 0
structure CX (p:Int) (f:Frame):Prop where
 n0:f.node.kind≠4\/0<f.node.n\/f.left<0
 left : -1 - p<=f.left/\f.left<=128
 depth:0<=f.depth/\f.depth<=p
 ticks:0<=f.ticks/\f.ticks<=4097
theorem CX.more {p:Int} {f:Frame} (h:CX p f):CX (p+1) f:=⟨h.n0,by have:=h.left;omega,by have:=h.depth;omega,h.ticks⟩
theorem tV {a b:Int} (ha:0<=a) (hb:0<=b):0<=Pg a b/\Pg a b<=4097:=by unfold Pg;omega
theorem MJ {a b:Int} (ha:0<=a) (hb:0<=b):0<=IM a b/\IM a b<=4097:=by
 unfold IM;have h1:0<=min 4097 a*b:=Int.mul_nonneg om hb;omega
theorem Frame.out_bd {p:Int} {f:Frame} (h:CX p f) (hl:f.left=0):0<=f.out/\f.out<=4097:=by
 unfold Frame.out;have:=h.n0;have:=h.ticks;split
 .exact MJ om om
 .omega
theorem CX.took {p:Int} {u t:Frame} (hu:CX p u) (ht:CX p t) (hl:t.left=0):CX (p+1) (u.take t):=by
 have a:=hu.n0;have b:=hu.left;have c:=hu.depth;have d:=hu.ticks;have e:=ht.depth;have o:=Frame.out_bd ht hl;refine ⟨?_, ?_, ?_, ?_⟩
 .simp only [Frame.take];omega
 .simp only [Frame.take];omega
 .simp only [Frame.take];omega
 .simp only [Frame.take];exact tV d.1 o.1
theorem Pp {p:Int} {n:Node} (hp:0<=p):CX p (AZ n):=by
 have hk:=HO n;refine ⟨?_,by simp only [AZ];omega,by simp only [AZ];omega, ?_⟩
 .simp only [AZ]
  by_cases h:kids n<0
  .omega
  .right;left;unfold kids at h
   (repeat' split at h)<;>omega
 .simp only [AZ];split
  .rename_i h;have:1<=n.n:=by unfold kids at h;(repeat' split at h)<;>omega
   omega
  .omega
def FZ (p:Int) (S:List Frame):Prop:=∀ f∈S,CX p f
theorem FZ.more {p:Int} {S:List Frame} (h:FZ p S):FZ (p+1) S:=λf hf=>(h f hf).more
theorem DN {α:Type} [Inhabited α] {a:α} {l:List α}:nth (a::l) 0=a:=by simp [nth]
end Go.Ab.T
namespace Go.Ab.T
open Go Go.Ab
set_option maxHeartbeats 4000000
theorem uZ {top up:Frame} {r:List Frame}:nth (top::up::r).reverse (r.length+1)=top:=by simp [nth,List.getD]
theorem aN1 {top up:Frame} {r:List Frame}:nth (top::up::r).reverse r.length=up:=by simp [nth,List.getD]
theorem PD {top up:Frame} {r:List Frame}:(top::up::r).reverse.take (r.length+1)=(up::r).reverse:=by
 rw [List.reverse_cons,List.take_append_of_le_length (by simp)];exact List.take_of_length_le (by simp)
theorem N8 {up u:Frame} {r:List Frame}:(up::r).reverse.set r.length u=(u::r).reverse:=by
 rw [List.reverse_cons,List.reverse_cons,List.set_append_right _ _ (by simp)];simp
structure zW (v:V) (len i:Nat) (F:List Frame) (p:Nat) (S:List Frame) (st:V) (e:Env) (h:AH):Prop where
 e4:e 4=st
 e12:e 12=v
 e13:e 13=.i .i64 len
 e14:e 14=.i .i64 i
 hl:h.lim=0
 sl:Sl 0 h 6 st (S.reverse.map Frame.enc)
 ok:FZ p S
 cnt:p+S.length=i+2
 pos:1<=S.length
 fin:EM S=F
theorem KB {v : V} {len i : Nat} {F : List Frame} {Q : Ex -> Env -> AH -> Prop} (hi : i < 4294967296)
    (hQ:∀ p st e h',zW v len i F p F st e h'->Q (.ex 2) e h'):∀ n e h',(∃ p S st,n=S.length/\zW v len i F p S st e h')->ZC tp (.loop aAK) e h' Q:=by
 refine Ai _ ?_;rintro n e h' ⟨p,S,st,rfl,⟨e4,e12,e13,e14,hl,sl,ok,cnt,pos,fin⟩⟩ ih;obtain ⟨slen,sbig,slt,slo,sget,sat,srow,sc,scs⟩:=sl.facts;have srl:=λj (hj:j<(S.reverse.map Frame.enc).length)=>sl.rowlt hj;simp only [List.length_reverse,List.length_map] at slen sbig slt slo sget sat srow srl;rw [Ao aAK.eq_1];simp (disch:=omega)only[go_sem, *];refine Ax (λhc=>?_) (λhc=>?_)
 .obtain ⟨top,up,r,rfl⟩:∃ top up r,S=top::up::r:=by
   match S,hc with
   | [],hc=>simp at hc
   | [_],hc=>simp at hc
   | a::b::r,_=>exact ⟨a,b,r,rfl⟩
  have hr0:=uZ (top:=top) (up:=up) (r:=r);have hr1:=aN1 (top:=top) (up:=up) (r:=r);simp only [List.length_cons,Int.natCast_add,Int.natCast_one] at slen sbig slt slo sget sat srow srl cnt hc;have k1:((r.length:Int)+1).toNat=r.length+1:=by omega
  have k2:((r.length:Int)+1+1 - 2).toNat=r.length:=by omega
  have srl0:=srl r.length om;have spre:∀ {k:IntKind} {j:Int} {cs:List (List V)},0<=j->j<=(r.length:Int)+1+1->GT (some ⟨6,cs⟩) 6 st none (some (.i k j)) none=some (CF st j.toNat):=λh0 h1=>sl.pre h0 (by simp;omega);have okt:=ok top (by simp);have oku:=ok up (by simp);have bt:=okt.left;have bd:=okt.depth;have bk:=okt.ticks;have ut:=oku.left;have ud:=oku.depth;have uk:=oku.ticks;have sct:=F5 (n:=r.length+1) scs;simp (disch:=omega)only[go_sem, *];refine Ad (λhc2=>?_) (λhc2=>?_)
  .simp (disch:=omega)only[go_sem, *];refine Ad (λhc3=>?_) (λhc3=>?_)
   .have:=okt.n0;simp (disch:=omega)only[go_sem, *];have hb:=MJ (a:=top.node.n) (b:=top.ticks) om om;refine Pf.go ((Wn om om)) (by simp only [go_sem]) λ_=>?_;simp (disch:=omega)only[go_sem, *];refine Pf.go ((UU om hb.1)) (by simp only [go_sem]) λ_=>?_;simp (disch:=omega)only[go_sem, *];refine ih _ _ _ ?_ ⟨p+1,up.take top::r,CF st (r.length+1),rfl, ?_, ?_, ?_, ?_, ?_, ?_, ?_, ?_, ?_, ?_⟩
    .simp
    .simp (disch:=omega)only[go_sem, *]
    .simp (disch:=omega)only[go_sem, *]
    .simp (disch:=omega)only[go_sem, *]
    .simp (disch:=omega)only[go_sem, *]
    .simp (disch:=omega)only[go_sem, *]
    .have st1:=sl.truncd (n:=r.length+1) (by simp);rw [<- List.map_take,PD] at st1;rw [<- N8 (up:=up)];refine st1.setT (by simp) ?_ ?_
     .simp (disch:=omega)only[go_sem, *];omega
     .simp (disch:=omega)only[go_sem, *];simp only [Frame.take,Frame.out,if_pos hc3]
    .intro f hf;rcases List.mem_cons.1 hf with rfl | hf
     .exact CX.took oku okt hc2
     .exact (ok f (by simp [hf])).more
    .simp only [List.length_cons] at cnt ⊢;omega
    .simp
    .rw [<- fin];conv=>rhs;rw [EM,if_pos hc2]
   .simp (disch:=omega)only[go_sem, *];refine Pf.go ((UU om om)) (by simp only [go_sem]) λ_=>?_;simp (disch:=omega)only[go_sem, *];refine ih _ _ _ ?_ ⟨p+1,up.take top::r,CF st (r.length+1),rfl, ?_, ?_, ?_, ?_, ?_, ?_, ?_, ?_, ?_, ?_⟩
    .simp
    .simp (disch:=omega)only[go_sem, *]
    .simp (disch:=omega)only[go_sem, *]
    .simp (disch:=omega)only[go_sem, *]
    .simp (disch:=omega)only[go_sem, *]
    .simp (disch:=omega)only[go_sem, *]
    .have st1:=sl.truncd (n:=r.length+1) (by simp);rw [<- List.map_take,PD] at st1;rw [<- N8 (up:=up)];refine st1.setT (by simp) ?_ ?_
     .simp (disch:=omega)only[go_sem, *];omega
     .simp (disch:=omega)only[go_sem, *];simp only [Frame.take,Frame.out,if_neg hc3]
    .intro f hf;rcases List.mem_cons.1 hf with rfl | hf
     .exact CX.took oku okt hc2
     .exact (ok f (by simp [hf])).more
    .simp only [List.length_cons] at cnt ⊢;omega
    .simp
    .rw [<- fin];conv=>rhs;rw [EM,if_pos hc2]
  .simp (disch:=omega)only[go_sem, *];have hF:top::up::r=F:=by rw [<- fin,EM,if_neg hc2]
   rw [hF] at fin sl ok pos;refine hQ p st _ _ ⟨?_, ?_, ?_, ?_,hl,sl,ok, ?_,pos,fin⟩
   .simp (disch:=omega)only[go_sem, *]
   .simp (disch:=omega)only[go_sem, *]
   .simp (disch:=omega)only[go_sem, *]
   .simp (disch:=omega)only[go_sem, *]
   .rw [<- hF];simpa using cnt
 .simp (disch:=omega)only[go_sem, *];have hF:S=F:=by
   match S,hc,pos with
   | [t],_,_=>rw [<- fin,EM]
   | a::b::r,hc,_=>simp at hc;omega
  rw [hF] at fin sl ok pos cnt;refine hQ p st _ _ ⟨?_, ?_, ?_, ?_,hl,sl,ok,cnt,pos,fin⟩
  .simp (disch:=omega)only[go_sem, *]
  .simp (disch:=omega)only[go_sem, *]
  .simp (disch:=omega)only[go_sem, *]
  .simp (disch:=omega)only[go_sem, *]
theorem KK:∀ (S:List Frame),1<=S.length->1<=(EM S).length
 | [],h=>by simp at h
 | [t],_=>by rw [EM];simp
 | t::u::r,_=>by
  rw [EM];split
  .exact KK (u.take t::r) (by simp)
  .simp
termination_by S=>S.length
theorem KC {L:List Node}:Pf tp SD [.fl 3 (L.map Node.enc)] (.tup [.i .i64 (Cx L).depth,.i .i64 (Cx L).ticks]):=by
 refine AL rT (by simp [Lx]) λrp=>?_;unfold Lx;simp (disch:=omega)only[go_sem, *];have hL:=rp.head.len;refine Ai (λn e h=>∃ (i:Nat) (st:V) (p:Nat) (S:List Frame),n=L.length - i/\h.lim=0/\e 12=.fl 3 (L.map Node.enc)/\e 13=.i .i64 L.length/\e 14=.i .i64 i/\e 4=st/\i<=L.length/\Sl 0 h 6 st (S.reverse.map Frame.enc)/\FZ p S/\p+S.length=i+1/\1<=S.length/\Ee (L.drop i) S=Ee L [⟨⟨0,0,0⟩,1,0,0⟩]) ?_ _ _ _ ⟨0,.sl 0 0 1 1,0,[⟨⟨0,0,0⟩,1,0,0⟩],rfl, ?_⟩
 .rintro n e h ⟨i,st,p,S,rfl,hl,e12,e13,e14,e4,hi,sl,ok,cnt,pos,hz⟩ ih;rw [Ao aZz.eq_1];simp (disch:=omega)only[go_sem, *];refine Ad (λhc=>?_) (λhc=>?_)
  .rw [AN om,Ee] at hz;have hkb:=HO (nth L i);simp (disch:=omega)only[go_sem, *];refine Pf.go (UP) (by simp only [go_sem]) λ_=>?_;simp (disch:=omega)only[go_sem, *];have x1:Ak h ((h.alloc ⟨3,[[.i .i64 0,.i .i64 0,.i .i64 0]]⟩).put h.next ⟨3,[Node.enc (nth L i)]⟩):=by (repeat (first | exact Ak.refl _ | refine Ak.alloc ?_ _ | (refine Ak.put ?_ _ _ ?_;rotate_left;(first | omega | (simp only [Ac,Ah];omega)))))
   refine Av (R:=S.reverse.map Frame.enc) ((sl.ext x1).alloc _) (by simp only [go_sem, *]) (Nat.zero_le _) (by simp;omega) ?_;intro w h4 s4 g4;have hl4:=g4.lim;have hn4:=g4.next;have s5:Sl 0 h4 6 w ((⟨nth L i,kids (nth L i),0,0⟩::S).reverse.map Frame.enc):=by simpa [Frame.enc] using s4
   obtain ⟨slen,sbig,slt,slo,sget,sat,srow,sc,scs⟩:=s5.facts;simp only [List.length_reverse,List.length_cons,Int.natCast_add,Int.natCast_one] at slen sbig slt slo sget sat srow;have srl:=s5.rowlt (j:=S.length) (by simp);simp only [Ac,Ah,Bi,El] at hn4 hl4;have hb4:h4.get h.next=some ⟨3,[Node.enc (nth L i)]⟩:=by
    have hne:AA st=true\/h.next≠Ap st:=by
     refine .inr ?_;have:=(sl.facts).lt (by simp;omega);omega
    rw [g4.get _ (by simp only [Ac,Ah];omega) hne];simp (disch:=omega)only[go_sem, *]
   have hrv:nth (⟨nth L i,kids (nth L i),0,0⟩::S).reverse S.length=⟨nth L i,kids (nth L i),0,0⟩:=by simp [nth,List.getD]
   have hnl:(0:Int)<=L.length:=by omega
   simp (disch:=omega)only[Node.enc] at hb4;rw [hl] at hl4;simp (disch:=omega)only[go_sem, *];refine Ad (λhc2=>?_) (λhc2=>?_)
   .have hkn:1<=(nth L i).n:=by unfold kids at hc2;(repeat' split at hc2)<;>omega
    have hrv0:=hrv;rw [hc2] at hrv0;simp (disch:=omega)only[go_sem, *];refine KB (v:=.fl 3 (L.map Node.enc)) (len:=L.length) (i:=i) (F:=EM (AZ (nth L i)::S)) om ?_ _ _ _ ⟨p,AZ (nth L i)::S,w,rfl, ?_, ?_, ?_, ?_, ?_, ?_, ?_, ?_, ?_, ?_⟩
    .intro p' st' e' h' m;have hpos:=KK (AZ (nth L i)::S) (by simp);obtain ⟨m4,m12,m13,m14,ml,ms,mo,mc,mp,mf⟩:=m;simp (disch:=omega)only[go_sem, *];refine ih _ _ _ ?_ ⟨i+1,st',p',EM (AZ (nth L i)::S),rfl, ?_⟩
     .omega
     .simp (disch:=omega)only[go_sem, *]
      ((repeat' refine And.intro ?_ ?_)<;>first | omega | assumption | (exact ms))
    .simp (disch:=omega)only[go_sem, *]
    .simp (disch:=omega)only[go_sem, *]
    .simp (disch:=omega)only[go_sem, *]
    .simp (disch:=omega)only[go_sem, *]
    .simp (disch:=omega)only[go_sem, *]
    ·(have hpf:AZ (nth L i)=⟨nth L i,kids (nth L i),0,min 4097 (nth L i).n⟩:=(by simp only [AZ,if_pos hc2]);rw [hpf,<-N8 (up:=⟨nth L i,kids (nth L i),0,0⟩)];refine s5.setT (j:=S.length) (by simp) ?_ ?_;all_goals (first | (simp (disch:=omega)only[go_sem, *];done) | (simp (disch:=omega)only[go_sem, *];omega) | omega))
    .intro f hf;rcases List.mem_cons.1 hf with rfl | hf
     .exact Pp om
     .exact ok f hf
    .simp only [List.length_cons];omega
    .simp
    .rfl
   .simp (disch:=omega)only[go_sem, *];refine KB (v:=.fl 3 (L.map Node.enc)) (len:=L.length) (i:=i) (F:=EM (AZ (nth L i)::S)) om ?_ _ _ _ ⟨p,AZ (nth L i)::S,w,rfl, ?_, ?_, ?_, ?_, ?_, ?_, ?_, ?_, ?_, ?_⟩
    .intro p' st' e' h' m;have hpos:=KK (AZ (nth L i)::S) (by simp);obtain ⟨m4,m12,m13,m14,ml,ms,mo,mc,mp,mf⟩:=m;simp (disch:=omega)only[go_sem, *];refine ih _ _ _ ?_ ⟨i+1,st',p',EM (AZ (nth L i)::S),rfl, ?_⟩
     .omega
     .simp (disch:=omega)only[go_sem, *]
      ((repeat' refine And.intro ?_ ?_)<;>first | omega | assumption | (exact ms))
    .simp (disch:=omega)only[go_sem, *]
    .simp (disch:=omega)only[go_sem, *]
    .simp (disch:=omega)only[go_sem, *]
    .simp (disch:=omega)only[go_sem, *]
    .simp (disch:=omega)only[go_sem, *]
    ·(have hpf:AZ (nth L i)=⟨nth L i,kids (nth L i),0,0⟩:=(by simp only [AZ,if_neg hc2]);rw [hpf];exact s5)
    .intro f hf;rcases List.mem_cons.1 hf with rfl | hf
     .exact Pp om
     .exact ok f hf
    .simp only [List.length_cons];omega
    .simp
    .rfl
  .rw [List.drop_eq_nil_of_le om,Ee] at hz;have hme:Cx L=nth S.reverse 0:=by rw [Cx,<-hz]
   obtain ⟨slen,sbig,slt,slo,sget,sat,srow,_,_⟩:=sl.facts;simp only [List.length_reverse] at slen sbig slt slo sget sat srow;have z0:Int.toNat 0=0:=rfl;have srow0:=srow 0 om;rw [Nat.add_zero] at srow0;have hsl:(0:Int)<S.length:=by omega
   simp (disch:=omega)only[go_sem, *]
 .simp (disch:=omega)only[go_sem, *];refine ⟨?_, ?_⟩
  .exact .inr ⟨0,0,1,_,rfl,rfl,by simp,by simp [Frame.enc],by simp,by simp [AH.alloc,AH.emp],Nat.le_refl _,by simp⟩
  .intro f hf;simp only [List.mem_singleton] at hf;subst hf;exact ⟨.inl (by simp),by simp,by simp,by simp⟩
end Go.Ab.T
namespace Go.Ab.T
open Go Go.Ab
def Kz (L:List Node):Bool:=decide (BG L=true/\(Cx L).ticks<=4096)
def NQ (L:List Node):Int:=if Kz L=true then (Cx L).ticks else 0
theorem Mg {L:List Node}:Pf tp Su [.fl 3 (L.map Node.enc)] (.tup [.i .i64 (NQ L),.b (Kz L)]):=by
 refine AL rI (by simp [Lm]) λrp=>?_;unfold Lm;simp (disch:=omega)only[go_sem, *];refine Pf.go (L8) (by simp only [go_sem]) λ_=>?_;simp (disch:=omega)only[go_sem, *];refine Bv (λhc=>?_) (λhc=>?_)
 .simp (disch:=omega)only[go_sem, *];simp at hc;simp [NQ,Kz,hc]
 .simp at hc;simp (disch:=omega)only[go_sem, *];refine Pf.go (KC) (by simp only [go_sem]) λ_=>?_;simp (disch:=omega)only[go_sem, *];refine Ad (λhc2=>?_) (λhc2=>?_)
  .simp (disch:=omega)only[go_sem, *];simp [NQ,Kz,hc,hc2]
  .simp (disch:=omega)only[go_sem, *];simp [NQ,Kz,hc,hc2]
def Jv (L:List Node):Int:=if BG L=true then (Cx L).depth else 0
theorem NT {L:List Node}:Pf tp NF [.fl 3 (L.map Node.enc)] (.i .i64 (Jv L)):=by
 refine AL rK (by simp [Lo]) λrp=>?_;unfold Lo;simp (disch:=omega)only[go_sem, *];refine Pf.go (L8) (by simp only [go_sem]) λ_=>?_;simp (disch:=omega)only[go_sem, *];refine Bv (λhc=>?_) (λhc=>?_)
 .simp (disch:=omega)only[go_sem, *];simp at hc;simp [Jv,hc]
 .simp at hc;simp (disch:=omega)only[go_sem, *];refine Pf.go (KC) (by simp only [go_sem]) λ_=>?_;simp (disch:=omega)only[go_sem, *];simp [Jv,hc]
def Bg (L:List Node):Int:=if 128<L.length then 3 else if BG L=false then 12 else if 16<Jv L then 14 else if Kz L=false then 18 else 0
theorem HU {L:List Node}:Pf tp Sn [.fl 3 (L.map Node.enc)] (.i .i64 (Bg L)):=by
 refine AL rB (by simp [Lf]) λrp=>?_;unfold Lf;simp (disch:=omega)only[go_sem, *];refine Pf.go (Mg) (by simp only [go_sem]) λ_=>?_;simp (disch:=omega)only[go_sem, *];refine Ad (λhc=>?_) (λhc=>?_)
 .simp (disch:=omega)only[go_sem, *];simp only [Bg];rw [if_pos om]
 simp (disch:=omega)only[go_sem, *];refine Pf.go (L8) (by simp only [go_sem]) λ_=>?_;simp (disch:=omega)only[go_sem, *];refine Bv (λhc2=>?_) (λhc2=>?_)
 .simp (disch:=omega)only[go_sem, *];simp at hc2;simp only [Bg];rw [if_neg om,if_pos hc2]
 simp at hc2;simp (disch:=omega)only[go_sem, *];refine Pf.go (NT) (by simp only [go_sem]) λ_=>?_;simp (disch:=omega)only[go_sem, *];refine Ad (λhc3=>?_) (λhc3=>?_)
 .simp (disch:=omega)only[go_sem, *];simp only [Bg];rw [if_neg om,if_neg (by simp [hc2]),if_pos om]
 simp (disch:=omega)only[go_sem, *];refine Bv (λhc4=>?_) (λhc4=>?_)
 .simp (disch:=omega)only[go_sem, *];simp at hc4;simp only [Bg];rw [if_neg om,if_neg (by simp [hc2]),if_neg om,if_pos hc4]
 .simp (disch:=omega)only[go_sem, *];simp at hc4;simp only [Bg];rw [if_neg om,if_neg (by simp [hc2]),if_neg om,if_neg (by simp [hc4])]
end Go.Ab.T
namespace Go.Ab.T
open Go Go.Ab
def DC (x:Node):Int:=if x.kind=2 then -1 else x.part
theorem uJ {x:Node}:Pf tp NG [.agg x.enc] (.i .i64 (DC x)):=by
 refine AL rM (by simp [Lq]) λrp=>?_;unfold Lq;simp (disch:=omega)only[go_sem, *]
 repeat' (first | (refine Ax (λhc=>?_) (λhc=>?_)<;>simp (disch:=omega)only[go_sem, *]) | (refine Ad (λhc=>?_) (λhc=>?_)<;>simp (disch:=omega)only[go_sem, *]))
 .simp [DC, *]
 .simp [DC, *]
theorem qJ {x:Node}:Pf tp St [.agg x.enc] (.b (decide (0<=kids x))):=by
 refine AL rH (by simp [Ll]) λrp=>?_;unfold Ll;simp (disch:=omega)only[go_sem, *]
 repeat' (first | (refine Ax (λhc=>?_) (λhc=>?_)<;>simp (disch:=omega)only[go_sem, *]) | (refine Ad (λhc=>?_) (λhc=>?_)<;>simp (disch:=omega)only[go_sem, *]))
 all_goals unfold kids
 all_goals rw [Bool.eq_iff_iff]
 all_goals (repeat' split)
 all_goals simp only [decide_eq_true_eq,Bool.false_eq_true,false_iff,true_iff,iff_true,iff_false]
 all_goals omega
theorem Kw (x:Node) (h:0<=kids x):(x.kind=3->kids x=x.n)/\(x.kind=4->kids x=1)/\(x.kind≠3->x.kind≠4->kids x=0):=by
 unfold kids at h ⊢;refine ⟨λhk=>?_,λhk=>?_,λh3 h4=>?_⟩<;>(repeat' split)<;>(repeat' split at h)<;>omega
set_option maxHeartbeats 4000000 in
theorem Hl {L:List Node} {a:Int}:Pf tp Km [.fl 3 (L.map Node.enc),.i .i64 a] (.i .i64 (size L a)):=by
 refine AL qX (by simp [Lb]) λrp=>?_;unfold Lb;simp (disch:=omega)only[go_sem, *];have hL:=rp.head.len
 repeat' (first | (refine Ax (λhc=>?_) (λhc=>?_)<;>simp (disch:=omega)only[go_sem, *]) | (refine Ad (λhc=>?_) (λhc=>?_)<;>simp (disch:=omega)only[go_sem, *]))
 .simp [size];omega
 .simp [size];omega
 .refine Ai (λn e h=>∃ (i:Nat) (left:Int),n=L.length - i/\h.lim=0/\e 0=.fl 3 (L.map Node.enc)/\e 1=.i .i64 a/\e 5=.i .i64 left/\e 6=.i .i64 i/\a<=i/\i<=L.length/\0<left/\left<=1+128*i/\ES (L.drop i) left (i - a)=size L a) ?_ _ _ _ ⟨a.toNat,1,rfl, ?_⟩
  .rintro n e h ⟨i,left,rfl,hl,e0,e1,e5,e6,hi1,hi2,hl1,hl2,hz⟩ ih;rw [Ao aY1.eq_1];simp (disch:=omega)only[go_sem, *];have hk:=HO (nth L i);refine Ad (λhc=>?_) (λhc=>?_)
   .rw [AN om,ES] at hz;simp (disch:=omega)only[go_sem, *];refine Pf.go (qJ) (by simp only [go_sem]) λ_=>?_;simp (disch:=omega)only[go_sem, *];refine Ad (λhc2=>?_) (λhc2=>?_)
    .rw [if_pos om] at hz;simp (disch:=omega)only[go_sem, *]
    .rw [if_neg om] at hz;have hka:=Kw (nth L i) om;simp (disch:=omega)only[go_sem, *]
     repeat' (first | (refine Ax (λhc=>?_) (λhc=>?_)<;>simp (disch:=omega)only[go_sem, *]) | (refine Ad (λhc=>?_) (λhc=>?_)<;>simp (disch:=omega)only[go_sem, *]))
     all_goals first
      | (rw [if_pos om] at hz
         rw [hz])
      | (rw [if_pos om] at hz
         rw [<- hz];omega)
      | (rw [if_neg om] at hz
         refine ih _ _ _ ?_ ⟨i+1,left+(kids (nth L i) - 1),rfl, ?_⟩
         .omega
         .simp (disch:=omega)only[go_sem, *];refine ⟨by first | rfl | (congr 1;omega),om,om,om,om, ?_⟩;rw [<- hz];congr 1<;>omega)
   .rw [List.drop_eq_nil_of_le om,ES] at hz;simp (disch:=omega)only[go_sem, *]
  .simp (disch:=omega)only[go_sem, *]
   ((repeat' refine And.intro ?_ ?_)<;>first | omega | assumption | ((congr 1;omega)) | ((simp only [size];rw [if_neg om];congr 1;omega)))
end Go.Ab.T
namespace Go.Ab.T
open Go Go.Ab
inductive Fo where
 | nil
 | leaf (x:Node) (r:Fo)
 | seq (x:Node) (k r:Fo)
 | rep (x:Node) (k r:Fo)
namespace Fo
def flat:Fo->List Node
 | nil=>[]
 | leaf x r=>x::flat r
 | seq x k r=>x::(flat k++flat r)
 | rep x k r=>x::(flat k++flat r)
def count:Fo->Nat
 | nil=>0
 | leaf _ r=>count r+1
 | seq _ _ r=>count r+1
 | rep _ _ r=>count r+1
def ok:Fo->Prop
 | nil=>True
 | leaf x r=>T.kids x=0/\ok r
 | seq x k r=>x.kind=3/\T.kids x=count k/\0<count k/\ok k/\ok r
 | rep x k r=>x.kind=4/\T.kids x=1/\count k=1/\ok k/\ok r
def depth:Fo->Nat
 | nil=>0
 | leaf _ r=>max 1 (depth r)
 | seq _ k r=>max (depth k+1) (depth r)
 | rep _ k r=>max (depth k+1) (depth r)
def len:Fo->Int
 | nil=>0
 | leaf x r=>x.n+len r
 | seq _ k r=>len k+len r
 | rep x k r=>x.n*len k+len r
theorem split:∀ (f:Fo) (a b:Nat),count f=a+b->ok f->∃ f1 f2,flat f=flat f1++flat f2/\count f1=a/\count f2=b/\ok f1/\ok f2
 | f,0,b,hc,ho=>⟨nil,f,by simp [flat],rfl,om,trivial,ho⟩
 | nil,a+1,b,hc,ho=>by simp only [count] at hc;omega
 | leaf x r,a+1,b,hc,ho=>by
  obtain ⟨f1,f2,h1,h2,h3,h4,h5⟩:=split r a b (by simp only [count] at hc;omega) ho.2;exact ⟨leaf x f1,f2,by simp [flat,h1],by simp [count,h2],h3,⟨ho.1,h4⟩,h5⟩
 | seq x k r,a+1,b,hc,ho=>by
  obtain ⟨f1,f2,h1,h2,h3,h4,h5⟩:=split r a b (by simp only [count] at hc;omega) ho.2.2.2.2;exact ⟨seq x k f1,f2,by simp [flat,h1],by simp [count,h2],h3,⟨ho.1,ho.2.1,ho.2.2.1,ho.2.2.2.1,h4⟩,h5⟩
 | rep x k r,a+1,b,hc,ho=>by
  obtain ⟨f1,f2,h1,h2,h3,h4,h5⟩:=split r a b (by simp only [count] at hc;omega) ho.2.2.2.2;exact ⟨rep x k f1,f2,by simp [flat,h1],by simp [count,h2],h3,⟨ho.1,ho.2.1,ho.2.2.1,ho.2.2.2.1,h4⟩,h5⟩
end Fo
theorem Fo.nil_of {f:Fo} (h:f.count=0):f=.nil:=by cases f<;>simp [Fo.count] at h ⊢
theorem FP:∀ (f:Fo) (R:List Node) (left n:Int),f.ok->((f.count:Int)<left->ES (f.flat++R) left n=ES R (left - f.count) (n+f.flat.length))/\(0<f.count->left=f.count->ES (f.flat++R) left n=n+f.flat.length)
 | .nil,R,left,n,ho=>⟨λ_=>by simp [Fo.flat,Fo.count],λh=>by simp [Fo.count] at h⟩
 | .leaf x r,R,left,n,ho=>by
  obtain ⟨hk,hor⟩:=ho;have ih:=FP r R (left+(kids x - 1)) (n+1) hor;simp only [Fo.flat,Fo.count,List.cons_append,ES,List.length_cons];rw [if_neg om];refine ⟨λh=>?_,λ_ h=>?_⟩
  .rw [if_neg om,ih.1 om];congr 1<;>omega
  .by_cases hr:r.count=0
   .rw [if_pos om,Fo.nil_of hr];simp [Fo.flat]
   .rw [if_neg om,ih.2 om om];omega
 | .seq x k r,R,left,n,ho=>by
  obtain ⟨h3,hk,hp,hok,hor⟩:=ho;have i1:=FP k (r.flat++R) (left+(kids x - 1)) (n+1) hok;have i2:=FP r R (left+(kids x - 1) - k.count) (n+1+k.flat.length) hor;simp only [Fo.flat,Fo.count,List.cons_append,ES,List.length_cons,List.append_assoc,List.length_append];rw [if_neg om];refine ⟨λh=>?_,λ_ h=>?_⟩
  .rw [if_neg om,i1.1 om,i2.1 om];congr 1<;>omega
  .by_cases hr:r.count=0
   .rw [if_neg om,i1.2 om om,Fo.nil_of hr];simp [Fo.flat];omega
   .rw [if_neg om,i1.1 om,i2.2 om om];omega
 | .rep x k r,R,left,n,ho=>by
  obtain ⟨h3,hk,hp,hok,hor⟩:=ho;have i1:=FP k (r.flat++R) (left+(kids x - 1)) (n+1) hok;have i2:=FP r R (left+(kids x - 1) - k.count) (n+1+k.flat.length) hor;simp only [Fo.flat,Fo.count,List.cons_append,ES,List.length_cons,List.append_assoc,List.length_append];rw [if_neg om];refine ⟨λh=>?_,λ_ h=>?_⟩
  .rw [if_neg om,i1.1 om,i2.1 om];congr 1<;>omega
  .by_cases hr:r.count=0
   .rw [if_neg om,i1.2 om om,Fo.nil_of hr];simp [Fo.flat];omega
   .rw [if_neg om,i1.1 om,i2.2 om om];omega
theorem FH (x:Node) (h:0<=kids x):(kids x=0/\x.kind≠3/\x.kind≠4)\/(x.kind=3/\0<kids x)\/(x.kind=4/\kids x=1):=by
 have hk:=Kw x h
 by_cases h3:x.kind=3
 .right;left;refine ⟨h3, ?_⟩;have:=hk.1 h3;unfold kids at h this ⊢
  (repeat' split at h)<;>omega
 .by_cases h4:x.kind=4
  .exact .inr (.inr ⟨h4,hk.2.1 h4⟩)
  .exact .inl ⟨hk.2.2 h3 h4,h3,h4⟩
theorem PX:∀ (L:List Node) (left:Nat) (n:Int),0<left->0<=n->ES L left n≠0->∃ (f:Fo) (R:List Node),f.ok/\f.count=left/\L=f.flat++R/\ES L left n=n+f.flat.length
 | [],left,n,hl,hn,hz=>by simp [ES] at hz
 | x::r,left,n,hl,hn,hz=>by
  by_cases hk:kids x<0
  .rw [ES,if_pos hk] at hz;exact absurd rfl hz
  .by_cases h0:(left:Int)+(kids x - 1)=0
   .have hkx:kids x=0:=by omega
    refine ⟨.leaf x .nil,r,⟨hkx,trivial⟩,by simp only [Fo.count];omega,by simp [Fo.flat], ?_⟩;rw [ES,if_neg hk,if_pos h0];simp [Fo.flat]
   .rw [ES,if_neg hk,if_neg h0] at hz;have e:(left:Int)+(kids x - 1)=((kids x).toNat+(left - 1):Nat):=by omega
    rw [e] at hz;obtain ⟨f,R,hfo,hfc,hL,hs⟩:=PX r _ (n+1) om om hz;obtain ⟨f1,f2,h1,h2,h3,h4,h5⟩:=Fo.split f _ _ hfc hfo;rcases FH x om with ⟨c1,c2,c3⟩ | ⟨c1,c2⟩ | ⟨c1,c2⟩
    .refine ⟨.leaf x f,R,⟨c1,hfo⟩,by simp only [Fo.count];omega,by simp [Fo.flat,hL], ?_⟩;rw [ES,if_neg hk,if_neg h0,e,hs];simp only [Fo.flat,List.length_cons];omega
    .refine ⟨.seq x f1 f2,R,⟨c1,om,om,h4,h5⟩,by simp only [Fo.count];omega,by simp [Fo.flat,hL,h1], ?_⟩;rw [ES,if_neg hk,if_neg h0,e,hs,h1];simp only [Fo.flat,List.length_cons];omega
    .refine ⟨.rep x f1 f2,R,⟨c1,c2,om,h4,h5⟩,by simp only [Fo.count];omega,by simp [Fo.flat,hL,h1], ?_⟩;rw [ES,if_neg hk,if_neg h0,e,hs,h1];simp only [Fo.flat,List.length_cons];omega
theorem Ez (L:List Node):BG L=true↔∃ f:Fo,f.ok/\f.count=1/\L=f.flat:=by
 simp only [BG,decide_eq_true_eq];constructor
 .rintro ⟨hp,hs⟩;unfold size at hs;rw [if_neg om] at hs;simp only [Int.toNat_zero,List.drop_zero] at hs;obtain ⟨f,R,ho,hc,hL,hz⟩:=PX L 1 0 om om (by simp only [Int.natCast_one];omega);refine ⟨f,ho,hc, ?_⟩;simp only [Int.natCast_one] at hz;rw [hz] at hs;have:R=[]:=by
   have:=congrArg List.length hL;simp only [List.length_append] at this;exact List.length_eq_zero_iff.1 om
  rw [hL,this,List.append_nil]
 .rintro ⟨f,ho,hc,rfl⟩;have hp:0<f.flat.length:=by cases f<;>simp [Fo.flat,Fo.count] at hc ⊢
  refine ⟨hp, ?_⟩;unfold size;rw [if_neg om];have:=(FP f [] 1 0 ho).2 om om;rw [List.append_nil] at this;simp only [Int.toNat_zero,List.drop_zero];omega
theorem E0 {L:List Node} {a:Nat} {f:Fo} {R:List Node} (hd:L.drop a=f.flat++R) (ho:f.ok) (hc:f.count=1):size L a=f.flat.length:=by
 have hp:0<f.flat.length:=by cases f<;>simp [Fo.flat,Fo.count] at hc ⊢
 have hl:=congrArg List.length hd;simp only [List.length_drop,List.length_append] at hl;unfold size;rw [if_neg om,Int.toNat_natCast,hd,(FP f R 1 0 ho).2 om om];omega
/-! ### The stack machine on a forest -/
def Cj:Frame->Fo->Frame
 | t,.nil=>t
 | t,.leaf x r=>Cj (t.take (AZ x)) r
 | t,.seq x k r=>Cj (t.take (Cj (AZ x) k)) r
 | t,.rep x k r=>Cj (t.take (Cj (AZ x) k)) r
theorem Fg:∀ (f:Fo) (t:Frame),(Cj t f).left=t.left - f.count
 | .nil,t=>by simp [Cj,Fo.count]
 | .leaf x r,t=>by rw [Cj,Fg r];simp only [Frame.take,Fo.count];omega
 | .seq x k r,t=>by rw [Cj,Fg r];simp only [Frame.take,Fo.count];omega
 | .rep x k r,t=>by rw [Cj,Fg r];simp only [Frame.take,Fo.count];omega
theorem Fh:∀ (f:Fo) (t:Frame),(Cj t f).node=t.node
 | .nil,t=>by simp [Cj]
 | .leaf x r,t=>by rw [Cj,Fh r];simp only [Frame.take]
 | .seq x k r,t=>by rw [Cj,Fh r];simp only [Frame.take]
 | .rep x k r,t=>by rw [Cj,Fh r];simp only [Frame.take]
theorem IT {t u:Frame} {S:List Frame} (h:t.left≠0):EM (t::u::S)=t::u::S:=by rw [EM,if_neg h]
theorem NY {t u:Frame} {S:List Frame} (h:t.left=0):EM (t::u::S)=EM (u.take t::S):=by rw [EM,if_pos h]
theorem Pn {t:Frame}:EM [t]=[t]:=by rw [EM]
theorem IS {t:Frame} {S:List Frame} (h:t.left≠0):EM (t::S)=t::S:=by
 cases S with
 | nil=>exact Pn
 | cons u S=>exact IT h
theorem Ep:∀ (f:Fo) (R:List Node) (t:Frame) (S:List Frame),f.ok->(f.count:Int)<=t.left->0<f.count->Ee (f.flat++R) (t::S)=Ee R (EM (Cj t f::S))
 | .nil,R,t,S,ho,hl,hc=>by simp [Fo.count] at hc
 | .leaf x r,R,t,S,ho,hl,hc=>by
  obtain ⟨hk,hor⟩:=ho;simp only [Fo.count] at hl;have hp:(AZ x).left=0:=by simp only [AZ];exact hk
  have ht:(t.take (AZ x)).left=t.left - 1:=rfl;rw [Fo.flat,List.cons_append,Ee,NY hp,Cj]
  by_cases hr:r.count=0
  .rw [Fo.nil_of hr,Fo.flat,Cj,List.nil_append]
  .rw [IS om,Ep r R _ S hor om om]
 | .seq x k r,R,t,S,ho,hl,hc=>by
  obtain ⟨h3,hk,hp,hok,hor⟩:=ho;simp only [Fo.count] at hl;have hpl:(AZ x).left=k.count:=by simp only [AZ];exact hk
  have hak:=Fg k (AZ x);have ht:(t.take (Cj (AZ x) k)).left=t.left - 1:=rfl;rw [Fo.flat,List.cons_append,List.append_assoc,Ee,IT om,Cj,Ep k _ (AZ x) (t::S) hok om hp,NY om]
  by_cases hr:r.count=0
  .rw [Fo.nil_of hr,Fo.flat,Cj,List.nil_append]
  .rw [IS om,Ep r R _ S hor om om]
 | .rep x k r,R,t,S,ho,hl,hc=>by
  obtain ⟨h3,hk,hp,hok,hor⟩:=ho;simp only [Fo.count] at hl;have hpl:(AZ x).left=k.count:=by simp only [AZ];omega
  have hak:=Fg k (AZ x);have ht:(t.take (Cj (AZ x) k)).left=t.left - 1:=rfl;rw [Fo.flat,List.cons_append,List.append_assoc,Ee,IT om,Cj,Ep k _ (AZ x) (t::S) hok om om,NY om]
  by_cases hr:r.count=0
  .rw [Fo.nil_of hr,Fo.flat,Cj,List.nil_append]
  .rw [IS om,Ep r R _ S hor om om]
theorem C5 {x:Node} (h:0<=kids x):1<=x.n:=by
 unfold kids at h;(repeat' split at h)<;>omega
theorem Fo.len_pos:∀ (f:Fo),f.ok->0<=f.len/\(0<f.count->1<=f.len)
 | .nil,_=>by simp [Fo.len,Fo.count]
 | .leaf x r,ho=>by
  have:=Fo.len_pos r ho.2;have:=C5 (x:=x) (by rw [ho.1];omega);simp only [Fo.len];omega
 | .seq x k r,ho=>by
  have:=Fo.len_pos r ho.2.2.2.2;have h1:=Fo.len_pos k ho.2.2.2.1;have:=ho.2.2.1;simp only [Fo.len];omega
 | .rep x k r,ho=>by
  have:=Fo.len_pos r ho.2.2.2.2;have h1:=Fo.len_pos k ho.2.2.2.1;have:=ho.2.2.1;have h2:=C5 (x:=x) (by rw [ho.2.1];omega);have h3:1*1<=x.n*k.len:=Int.mul_le_mul h2 om om om;simp only [Fo.len];omega
theorem DG:∀ (f:Fo) (t:Frame),f.ok->0<=t.depth->(Cj t f).depth=max t.depth f.depth
 | .nil,t,ho,ht=>by simp only [Cj,Fo.depth];omega
 | .leaf x r,t,ho,ht=>by
  rw [Cj,DG r _ ho.2 (by simp only [Frame.take];omega)];simp only [Frame.take,AZ,Fo.depth];omega
 | .seq x k r,t,ho,ht=>by
  have:=DG k (AZ x) ho.2.2.2.1 (by simp [AZ]);simp only [AZ] at this;rw [Cj,DG r _ ho.2.2.2.2 (by simp only [Frame.take];omega)];simp only [Frame.take,AZ,Fo.depth,this];omega
 | .rep x k r,t,ho,ht=>by
  have:=DG k (AZ x) ho.2.2.2.1 (by simp [AZ]);simp only [AZ] at this;rw [Cj,DG r _ ho.2.2.2.2 (by simp only [Frame.take];omega)];simp only [Frame.take,AZ,Fo.depth,this];omega
theorem OK {n l:Int} (hn:1<=n) (hl:1<=l):min 4097 (min 4097 n*min 4097 l)=min 4097 (n*l):=by
 by_cases h1:n<=4097
 .by_cases h2:l<=4097
  .rw [Int.min_eq_right h1,Int.min_eq_right h2]
  .have a:1*l<=n*l:=Int.mul_le_mul_of_nonneg_right hn om;have b:1*4097<=n*4097:=Int.mul_le_mul_of_nonneg_right hn om;rw [Int.min_eq_right h1,Int.min_eq_left (by omega:4097<=l)];omega
 .have a:n*1<=n*l:=Int.mul_le_mul_of_nonneg_left hl om;have b:4097*1<=4097*min 4097 l:=Int.mul_le_mul_of_nonneg_left om om;rw [Int.min_eq_left (by omega:4097<=n)];omega
theorem DH:∀ (f:Fo) (t:Frame),f.ok->0<=t.ticks/\t.ticks<=4097->(Cj t f).ticks=min 4097 (t.ticks+f.len)
 | .nil,t,ho,ht=>by simp only [Cj,Fo.len];omega
 | .leaf x r,t,ho,ht=>by
  have h1:=C5 (x:=x) (by rw [ho.1];omega);have h4:x.kind≠4:=by
   have:=FH x (by rw [ho.1];omega);rw [ho.1] at this;omega
  have hl:=(Fo.len_pos r ho.2).1;have e:(t.take (AZ x)).ticks=min 4097 (t.ticks+x.n):=by
   simp only [Frame.take,Frame.out,AZ,Pg,if_neg h4,if_pos ho.1];omega
  rw [Cj,DH r _ ho.2 (by rw [e];omega),e];simp only [Fo.len];omega
 | .seq x k r,t,ho,ht=>by
  have hk:=DH k (AZ x) ho.2.2.2.1 (by
   have:=ho.2.2.1;have:=ho.2.1;simp only [AZ];rw [if_neg om];omega)
  have hl:=(Fo.len_pos r ho.2.2.2.2).1;have hlk:=(Fo.len_pos k ho.2.2.2.1).1;have h0:(AZ x).ticks=0:=by
   have:=ho.2.2.1;have:=ho.2.1;simp only [AZ];rw [if_neg om]
  have e:(t.take (Cj (AZ x) k)).ticks=min 4097 (t.ticks+k.len):=by
   simp only [Frame.take,Frame.out,Fh,Pg,hk,h0];rw [if_neg (by simp only [AZ];have:=ho.1;omega)];omega
  rw [Cj,DH r _ ho.2.2.2.2 (by rw [e];omega),e];simp only [Fo.len];omega
 | .rep x k r,t,ho,ht=>by
  have hk:=DH k (AZ x) ho.2.2.2.1 (by
   have:=ho.2.1;simp only [AZ];rw [if_neg om];omega)
  have hl:=(Fo.len_pos r ho.2.2.2.2).1;have hlk:=(Fo.len_pos k ho.2.2.2.1).2 (by have:=ho.2.2.1;omega);have h1:=C5 (x:=x) (by rw [ho.2.1];omega);have h0:(AZ x).ticks=0:=by
   have:=ho.2.1;simp only [AZ];rw [if_neg om]
  have hx:1*1<=x.n*k.len:=Int.mul_le_mul h1 hlk om om;have e:(t.take (Cj (AZ x) k)).ticks=min 4097 (t.ticks+x.n*k.len):=by
   simp only [Frame.take,Frame.out,Fh,Pg,hk,h0,IM];rw [if_pos (by simp only [AZ];exact ho.1),Int.zero_add,show (AZ x).node.n=x.n from rfl,OK h1 hlk];omega
  rw [Cj,DH r _ ho.2.2.2.2 (by rw [e];omega),e];simp only [Fo.len];omega
theorem BV {f:Fo} (ho:f.ok) (hc:f.count=1):(Cx f.flat).depth=f.depth/\(Cx f.flat).ticks=min 4097 f.len:=by
 have h:=Ep f [] ⟨⟨0,0,0⟩,1,0,0⟩ [] ho (by simp [hc]) om;rw [List.append_nil,Ee,Pn] at h;have e:Cx f.flat=Cj ⟨⟨0,0,0⟩,1,0,0⟩ f:=by simp [Cx,h,nth]
 rw [e,DG f _ ho (by simp),DH f _ ho (by simp)];simp
end Go.Ab.T
namespace Go.Ab.T
open Go Go.Ab
set_option maxHeartbeats 1000000
@[go_sem] def E1 (x:Int):List V:=[.i .i64 x]
def B2:Nat->Fo->List Int
 | _,.nil=>[]
 | b,.leaf x r=>(b:Int)::B2 (b+1) r
 | b,.seq x k r=>(b:Int)::B2 (b+1+k.flat.length) r
 | b,.rep x k r=>(b:Int)::B2 (b+1+k.flat.length) r
theorem D7:∀ (f:Fo) (b:Nat),(B2 b f).length=f.count
 | .nil,b=>rfl
 | .leaf x r,b=>by simp [B2,Fo.count,D7 r]
 | .seq x k r,b=>by simp [B2,Fo.count,D7 r]
 | .rep x k r,b=>by simp [B2,Fo.count,D7 r]
theorem Fo.count_le:∀ (f:Fo),f.count<=f.flat.length
 | .nil=>by simp [Fo.count]
 | .leaf x r=>by have:=Fo.count_le r;simp [Fo.count,Fo.flat];omega
 | .seq x k r=>by have:=Fo.count_le r;simp [Fo.count,Fo.flat];omega
 | .rep x k r=>by have:=Fo.count_le r;simp [Fo.count,Fo.flat];omega
theorem AR {α:Type} {L:List α} {b:Nat} {x:α} {r:List α} (h:L.drop b=x::r):b<L.length/\L.drop (b+1)=r:=by
 constructor
 .have:=congrArg List.length h;simp only [List.length_drop,List.length_cons] at this;omega
 .rw [<- List.drop_drop,h];rfl
theorem Dk {α:Type} {L:List α} {b:Nat} {p r:List α} (h:L.drop b=p++r):L.drop (b+p.length)=r:=by
 rw [<- List.drop_drop,h,List.drop_left]
theorem Cv {α:Type} [Inhabited α] {L:List α} {b:Nat} {x:α} {r:List α} (h:L.drop b=x::r):nth L b=x:=by
 have h1:=AR h;rw [AN h1.1] at h;exact (List.cons.inj h).1
theorem RZ {g:Fo} (hg:0<g.count) (ho:g.ok):∃ (f r:Fo),f.ok/\f.count=1/\r.ok/\g.flat=f.flat++r.flat/\r.count+1=g.count/\∀ b,B2 b g=(b:Int)::B2 (b+f.flat.length) r:=by
 cases g with
 | nil=>simp [Fo.count] at hg
 | leaf x r=>exact ⟨.leaf x .nil,r,⟨ho.1,trivial⟩,rfl,ho.2,by simp [Fo.flat],rfl,λb=>by simp [B2,Fo.flat]⟩
 | seq x k r=>exact ⟨.seq x k .nil,r,⟨ho.1,ho.2.1,ho.2.2.1,ho.2.2.2.1,trivial⟩,rfl,ho.2.2.2.2,by simp [Fo.flat],rfl,λb=>by simp [B2,Fo.flat];congr 1;omega⟩
 | rep x k r=>exact ⟨.rep x k .nil,r,⟨ho.1,ho.2.1,ho.2.2.1,ho.2.2.2.1,trivial⟩,rfl,ho.2.2.2.2,by simp [Fo.flat],rfl,λb=>by simp [B2,Fo.flat];congr 1;omega⟩
theorem Hk {L : List Node} {a : Nat} {x : Node} {k : Fo} {R : List Node} (hd : L.drop a = x :: (k.flat ++ R)) (ho : k.ok) (hs : size L a = 1 + k.flat.length) :
    Pf tp Sm [.fl 3 (L.map Node.enc),.i .i64 a] (.fl 1 ((B2 (a+1) k).map E1)):=by
 have hal:=(AR hd).1;have hll:=congrArg List.length hd;simp only [List.length_drop,List.length_cons,List.length_append] at hll;refine AL rA (by simp [Le]) λrp=>?_;unfold Le;simp (disch:=omega)only[go_sem, *];have hL:=rp.head.len;refine Pf.go (Hl) (by simp only [go_sem]) λ_=>?_;simp (disch:=omega)only[go_sem, *];refine Ai (λn e h=>∃ (b:Nat) (g:Fo) (out:V) (D:List Int),n=g.count/\h.lim=0/\e 0=.fl 3 (L.map Node.enc)/\e 1=.i .i64 a/\e 5=.i .i64 (1+k.flat.length)/\e 6=out/\e 7=.i .i64 b/\Sl 0 h 1 out (D.map E1)/\g.ok/\L.drop b=g.flat++R/\b+g.flat.length=a+1+k.flat.length/\D++B2 b g=B2 (a+1) k) ?_ _ _ _ ⟨a+1,k,.ns,[],rfl, ?_⟩
 .rintro n e h ⟨b,g,out,D,rfl,hl,e0,e1,e5,e6,e7,so,go,gd,gl,gz⟩ ih;rw [Ao aCY.eq_1];simp (disch:=omega)only[go_sem, *];have gpl:=D7 g b;have kpl:=D7 k (a+1);have kcl:=Fo.count_le k;have hzl:=congrArg List.length gz;simp only [List.length_append] at hzl;refine Ad (λhc=>?_) (λhc=>?_)
  .have hgc:0<g.count:=by
    by_cases h0:g.count=0
    .rw [Fo.nil_of h0] at gl;simp [Fo.flat] at gl;omega
    .omega
   obtain ⟨f,r,fo,fc,ro,gf,gc,gp⟩:=RZ hgc go;rw [gf,List.append_assoc] at gd;have hsz:=E0 gd fo fc;have gfl:=congrArg List.length gf;simp only [List.length_append] at gfl;simp (disch:=omega)only[go_sem, *];refine Av (R:=D.map E1) (so.alloc _) (by simp only [go_sem, *]) (Nat.zero_le _) (by simp;omega) ?_;intro w h4 s4 g4;have hl4:=g4.lim;simp (disch:=omega)only[go_sem, *];refine Pf.go (Hl) (by simp only [go_sem]) λ_=>?_;simp (disch:=omega)only[go_sem, *];have hfl:=Fo.count_le f;refine ih _ _ _ ?_ ⟨b+f.flat.length,r,w,D++[(b:Int)],rfl, ?_⟩
   .omega
   .simp (disch:=omega)only[go_sem, *]
    ((repeat' refine And.intro ?_ ?_)<;>first | omega | assumption | (simpa [E1] using s4) | (exact Dk gd) | ((rw [<- gz,gp b];simp)))
  .have h0:g.flat.length=0:=by omega
   have h1:=Fo.count_le g;have h2:=Fo.nil_of (f:=g) om;subst h2;simp (disch:=omega)only[go_sem, *];rw [<- gz,B2,List.append_nil];rw [B2,List.append_nil] at gz;exact so.froze (λ_=>rfl) trivial (by rw [gz];omega)
 .simp (disch:=omega)only[go_sem, *];exact ⟨Sl.nil _ _ _,(AR hd).2⟩
end Go.Ab.T
namespace Go.Ab.T
open Go Go.Ab
set_option maxHeartbeats 1000000
def Ed:Fo->List Int
 | .nil=>[]
 | .leaf x r=>1::Ed r
 | .seq x k r=>((k.depth:Int)+1)::Ed r
 | .rep x k r=>((k.depth:Int)+1)::Ed r
theorem F6:∀ (f:Fo),(Ed f).length=f.count
 | .nil=>rfl
 | .leaf x r=>by simp [Ed,Fo.count,F6 r]
 | .seq x k r=>by simp [Ed,Fo.count,F6 r]
 | .rep x k r=>by simp [Ed,Fo.count,F6 r]
theorem Fj:∀ (f:Fo) (m:Int),0<=m->(Ed f).foldl max m=max m f.depth
 | .nil,m,hm=>by simp [Ed,Fo.depth];omega
 | .leaf x r,m,hm=>by simp only [Ed,List.foldl_cons,Fo.depth];rw [Fj r _ om];omega
 | .seq x k r,m,hm=>by simp only [Ed,List.foldl_cons,Fo.depth];rw [Fj r _ om];omega
 | .rep x k r,m,hm=>by simp only [Ed,List.foldl_cons,Fo.depth];rw [Fj r _ om];omega
theorem Fo.depth_le:∀ (f:Fo),f.depth<=f.flat.length
 | .nil=>by simp [Fo.depth]
 | .leaf x r=>by have:=Fo.depth_le r;simp [Fo.depth,Fo.flat];omega
 | .seq x k r=>by have:=Fo.depth_le r;have:=Fo.depth_le k;simp [Fo.depth,Fo.flat];omega
 | .rep x k r=>by have:=Fo.depth_le r;have:=Fo.depth_le k;simp [Fo.depth,Fo.flat];omega
theorem HK:∀ (f:Fo) (i:Nat),i<f.count->0<=nth (Ed f) i/\nth (Ed f) i<=f.flat.length
 | .nil,i,h=>by simp [Fo.count] at h
 | .leaf x r,0,h=>by simp [Ed,nth,Fo.flat];omega
 | .seq x k r,0,h=>by have:=Fo.depth_le k;simp [Ed,nth,Fo.flat];omega
 | .rep x k r,0,h=>by have:=Fo.depth_le k;simp [Ed,nth,Fo.flat];omega
 | .leaf x r,i+1,h=>by have:=HK r i (by simpa [Fo.count] using h);simp [Ed,nth,Fo.flat] at this ⊢;omega
 | .seq x k r,i+1,h=>by have:=HK r i (by simpa [Fo.count] using h);simp [Ed,nth,Fo.flat] at this ⊢;omega
 | .rep x k r,i+1,h=>by have:=HK r i (by simpa [Fo.count] using h);simp [Ed,nth,Fo.flat] at this ⊢;omega
def W8 (L:List Node) (b:Nat) (f:Fo):Prop:=∀ i,i<f.count->Pf tp Ko [.fl 3 (L.map Node.enc),.i .i64 (nth (B2 b f) i)] (.i .i64 (nth (Ed f) i))
theorem G6 {L : List Node} {a : Nat} {x : Node} {k : Fo} {R : List Node} (hd : L.drop a = x :: (k.flat ++ R)) (ho : k.ok) (hs : size L a = 1 + k.flat.length) (ha : W8 L (a + 1) k) :
    Pf tp Ko [.fl 3 (L.map Node.enc),.i .i64 a] (.i .i64 ((k.depth:Int)+1)):=by
 have hll:=congrArg List.length hd;simp only [List.length_drop,List.length_cons,List.length_append] at hll;refine AL qY (by simp [Lc]) λrp=>?_;unfold Lc;simp (disch:=omega)only[go_sem, *];have hL:=rp.head.len;refine Pf.go (Hk hd ho hs) (by simp only [go_sem]) λ_=>?_;simp (disch:=omega)only[go_sem, *];have hpl:=D7 k (a+1);have hdl:=F6 k;have hcl:=Fo.count_le k;have hdk:=Fo.depth_le k;refine Ai (λn e h=>∃ (i:Nat) (m:Int),n=(B2 (a+1) k).length - i/\h.lim=0/\e 10=.fl 1 ((B2 (a+1) k).map E1)/\e 11=.i .i64 (B2 (a+1) k).length/\e 12=.i .i64 i/\e 0=.fl 3 (L.map Node.enc)/\e 1=.i .i64 a/\e 5=.i .i64 m/\i<=(B2 (a+1) k).length/\0<=m/\m<=4000000000/\((Ed k).drop i).foldl max m=k.depth) ?_ _ _ _ ⟨0,0,rfl, ?_⟩
 .rintro n e h ⟨i,m,rfl,hl,e10,e11,e12,e0,e1,e5,hi,hm0,hm,hz⟩ ih;rw [Ao Xn.eq_1];simp (disch:=omega)only[go_sem, *];refine Ad (λhc=>?_) (λhc=>?_)
  .rw [AN om,List.foldl_cons] at hz;have hb:=HK k i om;simp (disch:=omega)only[go_sem, *];refine Pf.go (ha i om) (by simp only [go_sem]) λ_=>?_;simp (disch:=omega)only[go_sem, *];refine ih _ _ _ ?_ ⟨i+1,max m (nth (Ed k) i),rfl, ?_⟩
   .omega
   .simp (disch:=omega)only[go_sem, *]
    ((repeat' refine And.intro ?_ ?_)<;>first | omega | assumption | (skip))
  .rw [List.drop_eq_nil_of_le om,List.foldl_nil] at hz;simp (disch:=omega)only[go_sem, *]
 .simp (disch:=omega)only[go_sem, *];have:=Fj k 0 om
  ((repeat' refine And.intro ?_ ?_)<;>first | omega | assumption | ((rw [this];omega)))
theorem Gv {L:List Node}:∀ (f:Fo) (b:Nat) (R:List Node),f.ok->L.drop b=f.flat++R->W8 L b f
 | .nil,b,R,ho,hd=>λi hi=>by simp [Fo.count] at hi
 | .leaf x r,b,R,ho,hd=>λi hi=>by
  have hd':L.drop b=x::(r.flat++R):=hd
  match i,hi with
  | 0,_=>exact G6 (k:=.nil) (R:=r.flat++R) hd' trivial (E0 (f:=.leaf x .nil) hd' ⟨ho.1,trivial⟩ rfl) (λi hi=>by simp [Fo.count] at hi)
  | i+1,hi=>exact Gv r (b+1) R ho.2 (AR hd').2 i (by simp only [Fo.count] at hi;omega)
 | .seq x k r,b,R,ho,hd=>λi hi=>by
  have hd':L.drop b=x::(k.flat++(r.flat++R)):=by rw [hd];simp [Fo.flat]
  match i,hi with
  | 0,_=>
   have hs:=E0 (f:=.seq x k .nil) (R:=r.flat++R) (by rw [hd'];simp [Fo.flat]) ⟨ho.1,ho.2.1,ho.2.2.1,ho.2.2.2.1,trivial⟩ rfl;exact G6 (k:=k) hd' ho.2.2.2.1 (by rw [hs];simp [Fo.flat];omega) (Gv k (b+1) _ ho.2.2.2.1 (AR hd').2)
  | i+1,hi=>exact Gv r (b+1+k.flat.length) R ho.2.2.2.2 (Dk (AR hd').2) i (by simp only [Fo.count] at hi;omega)
 | .rep x k r,b,R,ho,hd=>λi hi=>by
  have hd':L.drop b=x::(k.flat++(r.flat++R)):=by rw [hd];simp [Fo.flat]
  match i,hi with
  | 0,_=>
   have hs:=E0 (f:=.rep x k .nil) (R:=r.flat++R) (by rw [hd'];simp [Fo.flat]) ⟨ho.1,ho.2.1,ho.2.2.1,ho.2.2.2.1,trivial⟩ rfl;exact G6 (k:=k) hd' ho.2.2.2.1 (by rw [hs];simp [Fo.flat];omega) (Gv k (b+1) _ ho.2.2.2.1 (AR hd').2)
  | i+1,hi=>exact Gv r (b+1+k.flat.length) R ho.2.2.2.2 (Dk (AR hd').2) i (by simp only [Fo.count] at hi;omega)
end Go.Ab.T
namespace Go.Ab.T
open Go Go.Ab
set_option maxHeartbeats 1000000
def D6:Fo->List Int
 | .nil=>[]
 | .leaf x r=>min x.n 4097::D6 r
 | .seq x k r=>min k.len 4097::D6 r
 | .rep x k r=>min (x.n*k.len) 4097::D6 r
theorem F8:∀ (f:Fo),(D6 f).length=f.count
 | .nil=>rfl
 | .leaf x r=>by simp [D6,Fo.count,F8 r]
 | .seq x k r=>by simp [D6,Fo.count,F8 r]
 | .rep x k r=>by simp [D6,Fo.count,F8 r]
theorem PB {x:Node} {k r:Fo} (ho:(Fo.rep x k r).ok):1<=x.n/\1<=k.len/\1<=x.n*k.len:=by
 have h1:=C5 (x:=x) (by rw [ho.2.1];omega);have h2:=(Fo.len_pos k ho.2.2.2.1).2 (by have:=ho.2.2.1;omega);have h3:1*1<=x.n*k.len:=Int.mul_le_mul h1 h2 om om;omega
theorem Fm:∀ (f:Fo) (s:Int),f.ok->0<=s/\s<=4097->(D6 f).foldl (λs l=>min (s+l) 4097) s=min (s+f.len) 4097
 | .nil,s,ho,hs=>by simp [D6,Fo.len];omega
 | .leaf x r,s,ho,hs=>by
  have h1:=C5 (x:=x) (by rw [ho.1];omega);have h2:=(Fo.len_pos r ho.2).1;simp only [D6,List.foldl_cons,Fo.len];rw [Fm r _ ho.2 om];omega
 | .seq x k r,s,ho,hs=>by
  have h1:=(Fo.len_pos k ho.2.2.2.1).1;have h2:=(Fo.len_pos r ho.2.2.2.2).1;simp only [D6,List.foldl_cons,Fo.len];rw [Fm r _ ho.2.2.2.2 om];omega
 | .rep x k r,s,ho,hs=>by
  have h1:=PB ho;have h2:=(Fo.len_pos r ho.2.2.2.2).1;simp only [D6,List.foldl_cons,Fo.len];rw [Fm r _ ho.2.2.2.2 om];omega
theorem HQ:∀ (f:Fo) (i:Nat),f.ok->i<f.count->0<=nth (D6 f) i/\nth (D6 f) i<=4097
 | .nil,i,ho,h=>by simp [Fo.count] at h
 | .leaf x r,0,ho,h=>by have:=C5 (x:=x) (by rw [ho.1];omega);simp only [D6,DN];omega
 | .seq x k r,0,ho,h=>by have:=(Fo.len_pos k ho.2.2.2.1).1;simp only [D6,DN];omega
 | .rep x k r,0,ho,h=>by have:=PB ho;simp only [D6,DN];omega
 | .leaf x r,i+1,ho,h=>HQ r i ho.2 (by simpa [Fo.count] using h)
 | .seq x k r,i+1,ho,h=>HQ r i ho.2.2.2.2 (by simpa [Fo.count] using h)
 | .rep x k r,i+1,ho,h=>HQ r i ho.2.2.2.2 (by simpa [Fo.count] using h)
def Xc (L:List Node) (b:Nat) (f:Fo):Prop:=∀ i,i<f.count->Pf tp Sk [.fl 3 (L.map Node.enc),.i .i64 (nth (B2 b f) i)] (.i .i64 (nth (D6 f) i))
def aLd (x:Node) (k t:Fo):Prop:=(kids x=0/\k=.nil/\t=.leaf x .nil)\/(x.kind=3/\t=.seq x k .nil)\/(x.kind=4/\t=.rep x k .nil/\1<=x.n/\1<=k.len/\1<=x.n*k.len)
theorem F9 {L : List Node} {a : Nat} {x : Node} {k t : Fo} {R : List Node} (hd : L.drop a = x :: (k.flat ++ R)) (ho : k.ok) (ht : aLd x k t) (hs : size L a = 1 + k.flat.length) (ha : Xc L (a + 1) k) :
    Pf tp Sk [.fl 3 (L.map Node.enc),.i .i64 a] (.i .i64 (nth (D6 t) 0)):=by
 have hll:=congrArg List.length hd;simp only [List.length_drop,List.length_cons,List.length_append] at hll;have hnx:=Cv hd;have hal:=(AR hd).1;refine AL qZ (by simp [Ld]) λrp=>?_;unfold Ld;simp (disch:=omega)only[go_sem, *];have hL:=rp.head.len;refine Pf.go (Hk hd ho hs) (by simp only [go_sem]) λ_=>?_;simp (disch:=omega)only[go_sem, *];have hpl:=D7 k (a+1);have hdl:=F8 k;have hcl:=Fo.count_le k;refine Ai (λn e h=>∃ (i:Nat) (m:Int),n=(B2 (a+1) k).length - i/\h.lim=0/\e 10=.fl 1 ((B2 (a+1) k).map E1)/\e 11=.i .i64 (B2 (a+1) k).length/\e 12=.i .i64 i/\e 0=.fl 3 (L.map Node.enc)/\e 1=.i .i64 a/\e 5=.i .i64 m/\i<=(B2 (a+1) k).length/\0<=m/\m<=4097/\((D6 k).drop i).foldl (λs l=>min (s+l) 4097) m=min k.len 4097) ?_ _ _ _ ⟨0,0,rfl, ?_⟩
 .rintro n e h ⟨i,m,rfl,hl,e10,e11,e12,e0,e1,e5,hi,hm0,hm,hz⟩ ih;rw [Ao Xo.eq_1];simp (disch:=omega)only[go_sem, *];refine Ad (λhc=>?_) (λhc=>?_)
  .rw [AN om,List.foldl_cons] at hz;have hb:=HQ k i ho om;simp (disch:=omega)only[go_sem, *];refine Pf.go (ha i om) (by simp only [go_sem]) λ_=>?_;simp (disch:=omega)only[go_sem, *];refine ih _ _ _ ?_ ⟨i+1,min (m+nth (D6 k) i) 4097,rfl, ?_⟩
   .omega
   .simp (disch:=omega)only[go_sem, *]
    ((repeat' refine And.intro ?_ ?_)<;>first | omega | assumption | (skip))
  .rw [List.drop_eq_nil_of_le om,List.foldl_nil] at hz;subst hz;simp (disch:=omega)only[go_sem, *];rcases ht with ⟨c1,rfl,rfl⟩ | ⟨c1,rfl⟩ | ⟨c1,rfl,c2,c3,c4⟩
   .have h34:=FH x (by rw [c1];omega);rw [c1] at h34;refine Ad (λhc2=>by omega) (λhc2=>?_);simp (disch:=omega)only[go_sem, *];refine Ad (λhc2=>by omega) (λhc2=>?_);simp (disch:=omega)only[go_sem, *];simp only [D6,DN]
   .refine Ad (λhc2=>?_) (λhc2=>by omega);simp (disch:=omega)only[go_sem, *];simp only [D6,DN]
   .refine Ad (λhc2=>by omega) (λhc2=>?_);have b1:1<=min x.n 4097/\min x.n 4097<=4097:=by omega
    have b2:1<=min k.len 4097/\min k.len 4097<=4097:=by omega
    have b3:0<=min k.len 4097*min x.n 4097:=Int.mul_nonneg om om;have b4:min k.len 4097*min x.n 4097<=4097*4097:=Int.mul_le_mul b2.2 b1.2 om om;simp (disch:=omega)only[go_sem, *];have b5:=OK c2 c3;simp only [D6,DN];rw [Int.min_comm x.n 4097,Int.min_comm k.len 4097,Int.mul_comm (min 4097 k.len),Int.min_comm _ 4097,b5,Int.min_comm]
 .simp (disch:=omega)only[go_sem, *];have:=Fm k 0 ho om
  ((repeat' refine And.intro ?_ ?_)<;>first | omega | assumption | ((rw [this];omega)))
theorem GE {L:List Node}:∀ (f:Fo) (b:Nat) (R:List Node),f.ok->L.drop b=f.flat++R->Xc L b f
 | .nil,b,R,ho,hd=>λi hi=>by simp [Fo.count] at hi
 | .leaf x r,b,R,ho,hd=>λi hi=>by
  have hd':L.drop b=x::(r.flat++R):=hd
  match i,hi with
  | 0,_=>exact F9 (k:=.nil) (R:=r.flat++R) (t:=.leaf x .nil) hd' trivial (.inl ⟨ho.1,rfl,rfl⟩) (E0 (f:=.leaf x .nil) hd' ⟨ho.1,trivial⟩ rfl) (λi hi=>by simp [Fo.count] at hi)
  | i+1,hi=>exact GE r (b+1) R ho.2 (AR hd').2 i (by simp only [Fo.count] at hi;omega)
 | .seq x k r,b,R,ho,hd=>λi hi=>by
  have hd':L.drop b=x::(k.flat++(r.flat++R)):=by rw [hd];simp [Fo.flat]
  match i,hi with
  | 0,_=>
   have hs:=E0 (f:=.seq x k .nil) (R:=r.flat++R) (by rw [hd'];simp [Fo.flat]) ⟨ho.1,ho.2.1,ho.2.2.1,ho.2.2.2.1,trivial⟩ rfl;exact F9 (k:=k) (t:=.seq x k .nil) hd' ho.2.2.2.1 (.inr (.inl ⟨ho.1,rfl⟩)) (by rw [hs];simp [Fo.flat];omega) (GE k (b+1) _ ho.2.2.2.1 (AR hd').2)
  | i+1,hi=>exact GE r (b+1+k.flat.length) R ho.2.2.2.2 (Dk (AR hd').2) i (by simp only [Fo.count] at hi;omega)
 | .rep x k r,b,R,ho,hd=>λi hi=>by
  have hd':L.drop b=x::(k.flat++(r.flat++R)):=by rw [hd];simp [Fo.flat]
  match i,hi with
  | 0,_=>
   have hs:=E0 (f:=.rep x k .nil) (R:=r.flat++R) (by rw [hd'];simp [Fo.flat]) ⟨ho.1,ho.2.1,ho.2.2.1,ho.2.2.2.1,trivial⟩ rfl;exact F9 (k:=k) (t:=.rep x k .nil) hd' ho.2.2.2.1 (.inr (.inr ⟨ho.1,rfl,PB ho⟩)) (by rw [hs];simp [Fo.flat];omega) (GE k (b+1) _ ho.2.2.2.1 (AR hd').2)
  | i+1,hi=>exact GE r (b+1+k.flat.length) R ho.2.2.2.2 (Dk (AR hd').2) i (by simp only [Fo.count] at hi;omega)
end Go.Ab.T
namespace Go.Ab.T
open Go Go.Ab
set_option maxHeartbeats 1000000
def Fo.runs:Fo->List AQ
 | .nil=>[]
 | .leaf x r=>⟨DC x,x.n⟩::runs r
 | .seq x k r=>runs k++runs r
 | .rep x k r=>(List.replicate x.n.toNat (runs k)).flatten++runs r
theorem Fo.runs_pos:∀ (f:Fo),f.ok->0<f.count->1<=f.runs.length
 | .nil,ho,hc=>by simp [Fo.count] at hc
 | .leaf x r,ho,hc=>by simp [Fo.runs]
 | .seq x k r,ho,hc=>by
  have:=Fo.runs_pos k ho.2.2.2.1 ho.2.2.1;simp [Fo.runs];omega
 | .rep x k r,ho,hc=>by
  have:=Fo.runs_pos k ho.2.2.2.1 (by have:=ho.2.2.1;omega);have hn:=C5 (x:=x) (by rw [ho.2.1];omega);have:1*1<=x.n.toNat*k.runs.length:=Nat.mul_le_mul om this;simp [Fo.runs];omega
theorem Fo.runs_len:∀ (f:Fo),f.ok->(f.runs.length:Int)<=f.len
 | .nil,ho=>by simp [Fo.runs,Fo.len]
 | .leaf x r,ho=>by
  have h1:=C5 (x:=x) (by rw [ho.1];omega);have:=Fo.runs_len r ho.2;simp [Fo.runs,Fo.len];omega
 | .seq x k r,ho=>by
  have:=Fo.runs_len k ho.2.2.2.1;have:=Fo.runs_len r ho.2.2.2.2;simp [Fo.runs,Fo.len];omega
 | .rep x k r,ho=>by
  have h1:=Fo.runs_len k ho.2.2.2.1;have:=Fo.runs_len r ho.2.2.2.2;have hn:=C5 (x:=x) (by rw [ho.2.1];omega);have h3:x.n*k.runs.length<=x.n*k.len:=Int.mul_le_mul_of_nonneg_left h1 om;have h4:((x.n.toNat*k.runs.length:Nat):Int)=x.n*k.runs.length:=by rw [Int.natCast_mul,Int.toNat_of_nonneg om]
  simp only [Fo.runs,Fo.len,List.length_append,List.length_flatten,List.map_replicate,List.sum_replicate_nat,Int.natCast_add];omega
def Du:Fo->List (List AQ)
 | .nil=>[]
 | .leaf x r=>[⟨DC x,x.n⟩]::Du r
 | .seq x k r=>k.runs::Du r
 | .rep x k r=>(List.replicate x.n.toNat k.runs).flatten::Du r
theorem C6:∀ (f:Fo),(Du f).flatten=f.runs
 | .nil=>rfl
 | .leaf x r=>by simp [Du,Fo.runs,C6 r]
 | .seq x k r=>by simp [Du,Fo.runs,C6 r]
 | .rep x k r=>by simp [Du,Fo.runs,C6 r]
theorem Eu:∀ (f:Fo),(Du f).length=f.count
 | .nil=>rfl
 | .leaf x r=>by simp [Du,Fo.count,Eu r]
 | .seq x k r=>by simp [Du,Fo.count,Eu r]
 | .rep x k r=>by simp [Du,Fo.count,Eu r]
def Rg (L:List Node) (b:Nat) (f:Fo):Prop:=∀ i,i<f.count->∀ (h:AH) (w:V) (A:List AQ) (K:V->AH->Prop),h.lim=0->Sl 0 h 2 w (A.map AQ.enc)->A.length+(nth (Du f) i).length<=4000000000 ->
 (∀ r h',Sl 0 h' 2 r ((A++nth (Du f) i).map AQ.enc)->h'.lim=0->K r h')->Cq tp R9 [.fl 3 (L.map Node.enc),.i .i64 (nth (B2 b f) i),w] h K
section
variable {L:List Node} {a:Nat} {x:Node} {k:Fo} {R:List Node} {h:AH} {w:V} {A:List AQ} {K:V->AH->Prop}
theorem V9 (hd:L.drop a=x::R) (hk:kids x=0) (h0:h.lim=0) (hA:Sl 0 h 2 w (A.map AQ.enc)) (hl:A.length+[(⟨DC x,x.n⟩:AQ)].length<=4000000000)
    (k:∀ r h',Sl 0 h' 2 r ((A++[(⟨DC x,x.n⟩:AQ)]).map AQ.enc)->h'.lim=0->K r h'):Cq tp R9 [.fl 3 (L.map Node.enc),.i .i64 a,w] h K:=by
 have hnx:=Cv hd;have hal:=(AR hd).1;have hc1:x.kind=1\/x.kind=2:=by
  unfold kids at hk;(repeat' split at hk)<;>omega
 simp only [List.length_cons,List.length_nil] at hl;refine Aa qL (by simp [KY]) λwf rp=>?_;unfold KY;simp (disch:=omega)only[go_sem, *];have hL:=rp.head.len;refine Ad (λhc=>?_) (λhc=>?_)
 .simp (disch:=omega)only[go_sem, *];refine Av (R:=A.map AQ.enc) (hA.alloc _) (by simp only [go_sem, *]) (Nat.zero_le _) (by simp;omega) ?_;intro r h4 s4 g4;have hl4:=g4.lim;simp (disch:=omega)only[go_sem, *];have hp:DC x=x.part:=by unfold DC;rw [if_neg om]
  exact k _ _ (by simpa [AQ.enc,hp] using s4) (by simpa [AH.alloc, *] using hl4)
 .have h2:x.kind=2:=by omega
  simp (disch:=omega)only[go_sem, *];refine Av (R:=A.map AQ.enc) (hA.alloc _) (by simp only [go_sem, *]) (Nat.zero_le _) (by simp;omega) ?_;intro r h4 s4 g4;have hl4:=g4.lim;simp (disch:=omega)only[go_sem, *];have hp:DC x = -1:=by unfold DC;rw [if_pos h2]
  exact k _ _ (by simpa [AQ.enc,hp] using s4) (by simpa [AH.alloc, *] using hl4)
theorem VT {α:Type} [Inhabited α] {l:List (List α)} {i:Nat} (h:i<l.length):(l.drop i).flatten=nth l i++(l.drop (i+1)).flatten:=by
 rw [AN h,List.flatten_cons]
theorem dZ (hd:L.drop a=x::(k.flat++R)) (ho:k.ok) (hk3:x.kind=3) (hkc:0<k.count) (hs:size L a=1+k.flat.length) (ha:Rg L (a+1) k) (hl:h.lim=0) (hA:Sl 0 h 2 w (A.map AQ.enc)) (hlen:A.length+k.runs.length<=4000000000)
    (kk:∀ r h',Sl 0 h' 2 r ((A++k.runs).map AQ.enc)->h'.lim=0->K r h'):Cq tp R9 [.fl 3 (L.map Node.enc),.i .i64 a,w] h K:=by
 have hnx:=Cv hd;have hal:=(AR hd).1;have hll:=congrArg List.length hd;simp only [List.length_drop,List.length_cons,List.length_append] at hll;refine Aa qL (by simp [KY]) λwf rp=>?_;unfold KY;simp (disch:=omega)only[go_sem, *];have hL:=rp.head.len;refine Pf.go (Hk hd ho hs) (by simp only [go_sem]) λ_=>?_;simp (disch:=omega)only[go_sem, *];have hpl:=D7 k (a+1);have hrl:=Eu k;have hcl:=Fo.count_le k;refine Ai (λn e h=>∃ (i:Nat) (o:V) (B:List AQ),n=(B2 (a+1) k).length - i/\h.lim=0/\e 61=.fl 1 ((B2 (a+1) k).map E1)/\e 62=.i .i64 (B2 (a+1) k).length/\e 63=.i .i64 i/\e 0=.fl 3 (L.map Node.enc)/\e 1=.i .i64 a/\e 2=o/\i<=(B2 (a+1) k).length/\Sl 0 h 2 o (B.map AQ.enc)/\B++((Du k).drop i).flatten=A++k.runs) ?_ _ _ _ ⟨0,w,A,rfl, ?_⟩
 .rintro n e h ⟨i,o,B,rfl,hl,e61,e62,e63,e0,e1,e2,hi,sB,hz⟩ ih;rw [Ao aOC.eq_1];simp (disch:=omega)only[go_sem, *];refine Ad (λhc=>?_) (λhc=>?_)
  .rw [VT om] at hz;have hzl:=congrArg List.length hz;simp only [List.length_append] at hzl;simp (disch:=omega)only[go_sem, *];refine ha i om _ o B _ (by simp only [go_sem, *]) sB om ?_;intro r h3 sr hl3;simp (disch:=omega)only[go_sem, *];refine ih _ _ _ ?_ ⟨i+1,r,B++nth (Du k) i,rfl, ?_⟩
   .omega
   .simp (disch:=omega)only[go_sem, *]
    ((repeat' refine And.intro ?_ ?_)<;>first | omega | assumption | ((rw [<- hz,List.append_assoc])))
  .rw [List.drop_eq_nil_of_le om] at hz;simp (disch:=omega)only[go_sem, *];exact kk _ _ (by rw [<- hz];simpa using sB) hl
 .simp (disch:=omega)only[go_sem, *]
  ((repeat' refine And.intro ?_ ?_)<;>first | omega | assumption | ((rw [List.drop_zero,C6])) | ((rw [C6])))
theorem cY {r : Fo} (hd : L.drop a = x :: (k.flat ++ R)) (ho : (Fo.rep x k r).ok) (ha : Rg L (a + 1) k) (hl : h.lim = 0) (hA : Sl 0 h 2 w (A.map AQ.enc)) (hlen : A.length + ((List.replicate x.n.toNat k.runs).flatten).length <= 4000000000)
    (kk:∀ r h',Sl 0 h' 2 r ((A++(List.replicate x.n.toNat k.runs).flatten).map AQ.enc)->h'.lim=0->K r h'):Cq tp R9 [.fl 3 (L.map Node.enc),.i .i64 a,w] h K:=by
 have hnx:=Cv hd;have hal:=(AR hd).1;have h0:0<k.count:=by have:=ho.2.2.1;omega
 have hp0:nth (B2 (a+1) k) 0=((a:Int)+1):=by
  cases k with
  | nil=>simp [Fo.count] at h0
  | leaf _ _=>simp [B2,nth]
  | seq _ _ _=>simp [B2,nth]
  | rep _ _ _=>simp [B2,nth]
 have hr0:nth (Du k) 0=k.runs:=by
  have h1:=C6 k;have h2:=Eu k;rw [ho.2.2.1] at h2
  match hk:Du k,h2 with
  | [t],_=>rw [hk] at h1;simpa [nth] using h1
 have ha0:=ha 0 h0;rw [hp0,hr0] at ha0;have hk4:=ho.1;have hn1:=C5 (x:=x) (by rw [ho.2.1];omega);have hr1:=Fo.runs_pos k ho.2.2.2.1 h0;have hln:(List.replicate x.n.toNat k.runs).flatten.length=x.n.toNat*k.runs.length:=by simp
 have hln1:x.n.toNat*1<=x.n.toNat*k.runs.length:=Nat.mul_le_mul_left _ hr1;refine Aa qL (by simp [KY]) λwf rp=>?_;unfold KY;simp (disch:=omega)only[go_sem, *];have hL:=rp.head.len;refine Ai (λn e h=>∃ (i:Nat) (o:V) (B:List AQ),n=x.n.toNat - i/\h.lim=0/\e 0=.fl 3 (L.map Node.enc)/\e 1=.i .i64 a/\e 2=o/\e 7=.i .i64 i/\i<=x.n.toNat/\Sl 0 h 2 o (B.map AQ.enc)/\B.length+(x.n.toNat - i)*k.runs.length<=4000000000/\B++(List.replicate (x.n.toNat - i) k.runs).flatten=A++(List.replicate x.n.toNat k.runs).flatten) ?_ _ _ _ ⟨0,w,A,rfl, ?_⟩
 .rintro n e h ⟨i,o,B,rfl,hl,e0,e1,e2,e7,hi,sB,hb,hz⟩ ih;rw [Ao aOx.eq_1];simp (disch:=omega)only[go_sem, *];refine Ad (λhc=>?_) (λhc=>?_)
  .obtain ⟨m,hm⟩:∃ m,x.n.toNat - i=m+1:=⟨x.n.toNat - i - 1,om⟩
   rw [hm,List.replicate_succ,List.flatten_cons] at hz;rw [hm,Nat.succ_mul] at hb;simp (disch:=omega)only[go_sem, *];refine ha0 _ o B _ (by simp only [go_sem, *]) sB om ?_;intro r h3 sr hl3;have hm2:x.n.toNat - (i+1)=m:=by omega
   simp (disch:=omega)only[go_sem, *];refine ih _ _ _ ?_ ⟨i+1,r,B++k.runs,rfl, ?_⟩
   .omega
   .simp (disch:=omega)only[go_sem, *]
    ((repeat' refine And.intro ?_ ?_)<;>first | omega | assumption | ((simp;omega)) | ((rw [<- hz,List.append_assoc])) | ((rw [hm2,<-hz,List.append_assoc])) | ((rw [hm2];simp;omega)))
  .have hm:x.n.toNat - i=0:=by omega
   rw [hm] at hz;simp (disch:=omega)only[go_sem, *];exact kk _ _ (by rw [<- hz];simpa using sB) hl
 .simp (disch:=omega)only[go_sem, *]
  ((repeat' refine And.intro ?_ ?_)<;>first | omega | assumption | ((simp only [Nat.sub_zero];omega)) | ((simp only [Nat.sub_zero])))
end
theorem GC {L:List Node}:∀ (f:Fo) (b:Nat) (R:List Node),f.ok->L.drop b=f.flat++R->Rg L b f
 | .nil,b,R,ho,hd=>λi hi=>by simp [Fo.count] at hi
 | .leaf x r,b,R,ho,hd=>λi hi h w A K hw hA hl kk=>by
  have hd':L.drop b=x::(r.flat++R):=hd
  match i,hi with
  | 0,_=>exact V9 hd' ho.1 hw hA hl kk
  | i+1,hi=>exact GC r (b+1) R ho.2 (AR hd').2 i (by simp only [Fo.count] at hi;omega) h w A K hw hA hl kk
 | .seq x k r,b,R,ho,hd=>λi hi h w A K hw hA hl kk=>by
  have hd':L.drop b=x::(k.flat++(r.flat++R)):=by rw [hd];simp [Fo.flat]
  match i,hi with
  | 0,_=>
   have hs:=E0 (f:=.seq x k .nil) (R:=r.flat++R) (by rw [hd'];simp [Fo.flat]) ⟨ho.1,ho.2.1,ho.2.2.1,ho.2.2.2.1,trivial⟩ rfl;exact dZ (k:=k) hd' ho.2.2.2.1 ho.1 ho.2.2.1 (by rw [hs];simp [Fo.flat];omega) (GC k (b+1) _ ho.2.2.2.1 (AR hd').2) hw hA hl kk
  | i+1,hi=>exact GC r (b+1+k.flat.length) R ho.2.2.2.2 (Dk (AR hd').2) i (by simp only [Fo.count] at hi;omega) h w A K hw hA hl kk
 | .rep x k r,b,R,ho,hd=>λi hi h w A K hw hA hl kk=>by
  have hd':L.drop b=x::(k.flat++(r.flat++R)):=by rw [hd];simp [Fo.flat]
  match i,hi with
  | 0,_=>
   exact cY (k:=k) hd' ho (GC k (b+1) _ ho.2.2.2.1 (AR hd').2) hw hA hl kk
  | i+1,hi=>exact GC r (b+1+k.flat.length) R ho.2.2.2.2 (Dk (AR hd').2) i (by simp only [Fo.count] at hi;omega) h w A K hw hA hl kk
end Go.Ab.T
namespace Go.Ab.T
open Go Go.Ab
set_option maxHeartbeats 1000000
theorem Fo.flat_pos {f:Fo} (hc:f.count=1):0<f.flat.length:=by have:=Fo.count_le f;omega
theorem Fo.depth_pos {f:Fo} (hc:0<f.count):0<f.depth:=by cases f<;>simp [Fo.count,Fo.depth] at hc ⊢<;>omega
theorem Hx {f:Fo} (ho:f.ok) (hc:f.count=1):BG f.flat=true:=(Ez _).2 ⟨f,ho,hc,rfl⟩
theorem Fk {f:Fo} (ho:f.ok) (hc:f.count=1):Jv f.flat=f.depth:=by
 unfold Jv;rw [if_pos (Hx ho hc),(BV ho hc).1]
theorem GD {f:Fo} (ho:f.ok) (hc:f.count=1):Kz f.flat=decide (f.len<=4096):=by
 unfold Kz;rw [(BV ho hc).2,Hx ho hc];simp;omega
theorem Wa {f:Fo} (ho:f.ok) (hc:f.count=1):NQ f.flat=if f.len<=4096 then f.len else 0:=by
 unfold NQ;rw [GD ho hc,(BV ho hc).2];simp only [decide_eq_true_eq];split<;>omega
theorem GJ (L:List Node):Bg L=0↔L.length<=128/\∃ f:Fo,f.ok/\f.count=1/\L=f.flat/\f.depth<=16/\f.len<=4096:=by
 constructor
 .intro h
  by_cases hw:BG L=true
  .obtain ⟨f,ho,hc,rfl⟩:=(Ez L).1 hw;unfold Bg at h;rw [hw,Fk ho hc,GD ho hc] at h
   (repeat' split at h)<;>simp at h
   rename_i h1 h2 h3 h4;simp at h4;exact ⟨om,f,ho,hc,rfl,om,h4⟩
  .simp at hw;unfold Bg at h;rw [hw] at h
   (repeat' split at h)<;>simp at h
   all_goals simp_all
 .rintro ⟨hl,f,ho,hc,rfl,hd,hn⟩;unfold Bg;rw [if_neg om,if_neg (by rw [Hx ho hc];simp),if_neg (by rw [Fk ho hc];omega),if_neg (by rw [GD ho hc];simp;omega)]
theorem Gc {L:List Node}:Pf tp aU [.fl 3 (L.map Node.enc)] (.i .i64 (Jv L)):=by
 refine AL aNm (by simp [Q9]) λrp=>?_;unfold Q9;simp (disch:=omega)only[go_sem, *];refine Ax (λhc=>?_) (λhc=>?_)
 .simp (disch:=omega)only[go_sem, *];have hwf:BG L=false:=by simp [BG];omega
  unfold Jv;rw [hwf];simp
 .simp (disch:=omega)only[go_sem, *];refine Pf.go (Hl) (by simp only [go_sem]) λ_=>?_;simp (disch:=omega)only[go_sem, *];refine Ad (λhc2=>?_) (λhc2=>?_)
  .simp (disch:=omega)only[go_sem, *];have hwf:BG L=false:=by simp [BG];omega
   unfold Jv;rw [hwf];simp
  .have hwt:BG L=true:=by simp [BG];omega
   obtain ⟨f,ho,hc1,rfl⟩:=(Ez L).1 hwt;have hf:=Gv (L:=f.flat) f 0 [] ho (by simp) 0 om;have hp0:nth (B2 0 f) 0=0:=by cases f<;>simp [Fo.count,B2,nth] at hc1 ⊢
   have hd0:nth (Ed f) 0=f.depth:=by
    have h1:=Fj f 0 om;have h2:=F6 f;rw [hc1] at h2;have h3:=HK f 0 om
    match hk:Ed f,h2 with
    | [t],_=>rw [hk] at h1 h3;simp [nth] at h1 h3 ⊢;omega
   rw [hp0,hd0] at hf;simp (disch:=omega)only[go_sem, *];refine Pf.go (hf) (by simp only [go_sem]) λ_=>?_;simp (disch:=omega)only[go_sem, *];have e:=Fk ho hc1;rw [e]
theorem N2 {L:List Node}:Pf tp Ku [.fl 3 (L.map Node.enc)] (.tup [.i .i64 (NQ L),.b (Kz L)]):=by
 refine AL R7 (by simp [Id]) λrp=>?_;unfold Id;simp (disch:=omega)only[go_sem, *];refine Pf.go (Gc) (by simp only [go_sem]) λ_=>?_;simp (disch:=omega)only[go_sem, *];refine Ad (λhc=>?_) (λhc=>?_)
 .simp (disch:=omega)only[go_sem, *];have hwf:BG L=false:=by
   by_cases hwt:BG L=true
   .obtain ⟨f,ho,hc1,rfl⟩:=(Ez L).1 hwt;have:=Fo.depth_pos (f:=f) om;rw [Fk ho hc1] at hc;omega
   .simpa using hwt
  have e1:Kz L=false:=by simp [Kz,hwf]
  have e2:NQ L=0:=by simp [NQ,e1]
  rw [e1,e2];exact ⟨rfl,rfl⟩
 .have hwt:BG L=true:=by
   by_cases hwt:BG L=true
   .exact hwt
   .exact absurd (by unfold Jv;rw [if_neg hwt]) hc
  obtain ⟨f,ho,hc1,rfl⟩:=(Ez L).1 hwt;have hf:=GE (L:=f.flat) f 0 [] ho (by simp) 0 om;have hp0:nth (B2 0 f) 0=0:=by cases f<;>simp [Fo.count,B2,nth] at hc1 ⊢
  have hd0:nth (D6 f) 0=min f.len 4097:=by
   have h1:=Fm f 0 ho om;have h2:=F8 f;rw [hc1] at h2;have h3:=HQ f 0 ho om
   match hk:D6 f,h2 with
   | [t],_=>rw [hk] at h1 h3;simp [nth] at h1 h3 ⊢;omega
  rw [hp0,hd0] at hf;have e1:=GD ho hc1;have e2:=Wa ho hc1;simp (disch:=omega)only[go_sem, *];refine Pf.go (hf) (by simp only [go_sem]) λ_=>?_;simp (disch:=omega)only[go_sem, *];refine Ad (λhc2=>?_) (λhc2=>?_)
  .simp (disch:=omega)only[go_sem, *];rw [if_neg om];exact ⟨rfl,by simp;omega⟩
  .simp (disch:=omega)only[go_sem, *];rw [if_pos om,show min f.len 4097=f.len by omega];exact ⟨rfl,by simp;omega⟩
theorem Px {L:List Node}:Pf tp aB [.fl 3 (L.map Node.enc)] (.i .i64 (Bg L)):=by
 have hdp:BG L=false↔Jv L=0:=by
  constructor
  .intro h;unfold Jv;rw [h];simp
  .intro h
   by_cases hwt:BG L=true
   .obtain ⟨f,ho,hc1,rfl⟩:=(Ez L).1 hwt;have:=Fo.depth_pos (f:=f) om;rw [Fk ho hc1] at h;omega
   .simpa using hwt
 refine AL aM6 (by simp [QR]) λrp=>?_;unfold QR;simp (disch:=omega)only[go_sem, *];refine Ad (λhc=>?_) (λhc=>?_)
 .simp (disch:=omega)only[go_sem, *];unfold Bg;rw [if_pos om]
 simp (disch:=omega)only[go_sem, *];refine Pf.go (Gc) (by simp only [go_sem]) λ_=>?_;simp (disch:=omega)only[go_sem, *];refine Ad (λhc2=>?_) (λhc2=>?_)
 .have hw0:=hdp.2 hc2;simp (disch:=omega)only[go_sem, *];unfold Bg;rw [if_neg om,if_pos hw0]
 have hwt:¬ BG L=false:=λh=>hc2 (hdp.1 h);simp (disch:=omega)only[go_sem, *];refine Pf.go (Gc) (by simp only [go_sem]) λ_=>?_;simp (disch:=omega)only[go_sem, *];refine Ad (λhc3=>?_) (λhc3=>?_)
 .simp (disch:=omega)only[go_sem, *];unfold Bg;rw [if_neg om,if_neg hwt,if_pos om]
 simp (disch:=omega)only[go_sem, *];refine Pf.go (N2) (by simp only [go_sem]) λ_=>?_;simp (disch:=omega)only[go_sem, *];refine Bv (λhc4=>?_) (λhc4=>?_)
 .simp (disch:=omega)only[go_sem, *];simp at hc4;unfold Bg;rw [if_neg om,if_neg hwt,if_neg om,if_pos hc4]
 .simp (disch:=omega)only[go_sem, *];simp at hc4;unfold Bg;rw [if_neg om,if_neg hwt,if_neg om,if_neg (by simp [hc4])]
theorem N1 {f:Fo} (ho:f.ok) (hc:f.count=1) (hl:f.len<=4096):Pf tp aD [.fl 3 (f.flat.map Node.enc)] (.fl 2 (f.runs.map AQ.enc)):=by
 have hf:=GC (L:=f.flat) f 0 [] ho (by simp) 0 om;have hp0:nth (B2 0 f) 0=0:=by cases f<;>simp [Fo.count,B2,nth] at hc ⊢
 have hd0:nth (Du f) 0=f.runs:=by
  have h1:=C6 f;have h2:=Eu f;rw [hc] at h2
  match hk:Du f,h2 with
  | [t],_=>rw [hk] at h1;simpa [nth] using h1
 rw [hp0,hd0] at hf;have hrl:=Fo.runs_len f ho;refine AL aM8 (by simp [QT]) λrp=>?_;unfold QT;simp (disch:=omega)only[go_sem, *];refine hf _ .ns [] _ rfl (Sl.nil _ _ _) (by simp;omega) ?_;intro r h2 sr hl2;simp (disch:=omega)only[go_sem, *];exact sr.froze (λ_=>rfl) trivial (by simp;omega)
end Go.Ab.T
namespace Go.Ab.T
open Go Go.Ab
set_option maxHeartbeats 1000000
structure Bl where
 entry:Int
 prio:Int
 deriving Inhabited,DecidableEq
@[go_sem] def Bl.enc (x:Bl):List V:=[.i .i64 x.entry,.i .i64 x.prio]
structure Part where
 name:ByteArray
 budget:Int
 period:Int
 sched:Bool
 stop:Bool
 procs:List Bl
 h0:Int
 h1:Int
 h2:Int
 h3:Int
 h4:Int
 deriving Inhabited,DecidableEq
@[go_sem] def Part.enc (x:Part):List V:=[.s x.name,.i .i64 x.budget,.i .i64 x.period,.b x.sched,.b x.stop,.fl 2 (x.procs.map Bl.enc),.i .i64 x.h0,.i .i64 x.h1,.i .i64 x.h2,.i .i64 x.h3,.i .i64 x.h4]
structure AU where
 src:Int
 dst:Int
 queue:Bool
 cap:Int
 top:Int
 late:Int
 deriving Inhabited,DecidableEq
@[go_sem] def AU.enc (x:AU):List V:=[.i .i64 x.src,.i .i64 x.dst,.b x.queue,.i .i64 x.cap,.i .u32 x.top,.i .i64 x.late]
@[go_sem] def Tab.enc (x:List Node):List V:=[.fl 3 (x.map Node.enc)]
structure Am where
 parts:List Part
 chans:List AU
 tables:List (List Node)
 deriving Inhabited,DecidableEq
@[go_sem] def Am.enc (x:Am):List V:=[.fl 11 (x.parts.map Part.enc),.fl 6 (x.chans.map AU.enc),.fl 1 (x.tables.map Tab.enc)]
theorem RH {xs:List (List V)}:Pf tp Sz [.fl 2 xs] (.fl 2 xs):=by
 refine AL rP (by simp [Lt]) λrp=>?_;unfold Lt;simp (disch:=omega)only[go_sem, *]
theorem OJ {xs:List (List V)}:Pf tp Uw [.fl 2 xs] (.fl 2 xs):=by
 refine AL Zk (by simp [LT]) λrp=>?_;unfold LT;simp (disch:=omega)only[go_sem, *]
theorem OI {xs:List (List V)}:Pf tp Uy [.fl 3 xs] (.fl 3 xs):=by
 refine AL Zm (by simp [LV]) λrp=>?_;unfold LV;simp (disch:=omega)only[go_sem, *]
theorem Nj {xs:List (List V)}:Pf tp ZY [.fl 2 xs] (.fl 2 xs):=by
 refine AL aMM (by simp [Qx]) λrp=>?_;unfold Qx;simp (disch:=omega)only[go_sem, *];have hb:=rp.head.big;intro t ht;cases t
 .simp (disch:=omega)only[go_sem, *];refine Av (R:=[]) (Sl.nil' 0 _ _) (Nat.le_refl _) (Nat.le_refl _) (by simp;omega) ?_;intro w h4 s4 g4;simp (disch:=omega)only[go_sem, *];exact s4.froze' rp.head.frzr trivial (by simp;omega)
 .simp (disch:=omega)only[go_sem, *];have:xs=[]:=by
   rcases List.eq_nil_or_concat xs with h | ⟨l,a,h⟩
   .exact h
   .exact absurd (ht (by rw [h];simp)) (by simp)
  rw [this]
theorem RK {xs:List (List V)} {h:AH} {K:V->AH->Prop} (hl:h.lim<=h.next) (k:∀ r h',Sl h.next h' 2 r xs->Ak h h'->K r h'):Cq tp ZY [.fl 2 xs] h K:=by
 refine Aa aMM (by simp [Qx]) λwf rp=>?_;unfold Qx;simp (disch:=omega)only[go_sem, *];have hb:=rp.head.big;intro t ht;cases t
 .simp (disch:=omega)only[go_sem, *];refine Av (R:=[]) (Sl.nil' h.next _ _) hl (Nat.le_refl _) (by simp;omega) ?_;intro w h4 s4 g4;simp (disch:=omega)only[go_sem, *];exact k _ _ s4 ⟨g4.next,g4.lim,g4.low⟩
 .simp (disch:=omega)only[go_sem, *];have:xs=[]:=by
   rcases List.eq_nil_or_concat xs with h | ⟨l,a,h⟩
   .exact h
   .exact absurd (ht (by rw [h];simp)) (by simp)
  subst this;exact k _ _ (Sl.nil _ _ _) (Ak.refl h)
theorem RI {xs:List (List V)} {h:AH} {K:V->AH->Prop} (hl:h.lim<=h.next) (k:∀ r h',Sl h.next h' 6 r xs->Ak h h'->K r h'):Cq tp Ux [.fl 6 xs] h K:=by
 refine Aa Zl (by simp [LU]) λwf rp=>?_;unfold LU;simp (disch:=omega)only[go_sem, *];have hb:=rp.head.big;intro t ht;cases t
 .simp (disch:=omega)only[go_sem, *];refine Av (R:=[]) (Sl.nil' h.next _ _) hl (Nat.le_refl _) (by simp;omega) ?_;intro w h4 s4 g4;simp (disch:=omega)only[go_sem, *];exact k _ _ s4 ⟨g4.next,g4.lim,g4.low⟩
 .simp (disch:=omega)only[go_sem, *];have:xs=[]:=by
   rcases List.eq_nil_or_concat xs with h | ⟨l,a,h⟩
   .exact h
   .exact absurd (ht (by rw [h];simp)) (by simp)
  subst this;exact k _ _ (Sl.nil _ _ _) (Ak.refl h)
theorem HG {xs:List (List V)}:Pf tp Uz [.fl 3 xs] (.fl 3 xs):=by
 refine AL aMO (by simp [Qz]) λrp=>?_;unfold Qz;simp (disch:=omega)only[go_sem, *];have hb:=rp.head.big;intro t ht;cases t
 .simp (disch:=omega)only[go_sem, *];refine Av (R:=[]) (Sl.nil' 0 _ _) (Nat.le_refl _) (Nat.le_refl _) (by simp;omega) ?_;intro w h4 s4 g4;simp (disch:=omega)only[go_sem, *];exact s4.froze' rp.head.frzr trivial (by simp;omega)
 .simp (disch:=omega)only[go_sem, *];have:xs=[]:=by
   rcases List.eq_nil_or_concat xs with h | ⟨l,a,h⟩
   .exact h
   .exact absurd (ht (by rw [h];simp)) (by simp)
  rw [this]
theorem RJ {xs:List (List V)} {h:AH} {K:V->AH->Prop} (hl:h.lim<=h.next) (k:∀ r h',Sl h.next h' 3 r xs->Ak h h'->K r h'):Cq tp Uz [.fl 3 xs] h K:=by
 refine Aa aMO (by simp [Qz]) λwf rp=>?_;unfold Qz;simp (disch:=omega)only[go_sem, *];have hb:=rp.head.big;intro t ht;cases t
 .simp (disch:=omega)only[go_sem, *];refine Av (R:=[]) (Sl.nil' h.next _ _) hl (Nat.le_refl _) (by simp;omega) ?_;intro w h4 s4 g4;simp (disch:=omega)only[go_sem, *];exact k _ _ s4 ⟨g4.next,g4.lim,g4.low⟩
 .simp (disch:=omega)only[go_sem, *];have:xs=[]:=by
   rcases List.eq_nil_or_concat xs with h | ⟨l,a,h⟩
   .exact h
   .exact absurd (ht (by rw [h];simp)) (by simp)
  subst this;exact k _ _ (Sl.nil _ _ _) (Ak.refl h)
def Dp {α:Type} (P:α->Bool):List α->Int->Int
 | [],_=>-1
 | a::l,i=>if P a=true then i else Dp P l (i+1)
theorem tE {L:List Part} {g:Nat} {caps:List V} {P:Part->Bool} {h0:AH} {K:V->AH->Prop} (hp:∀ x,x∈L->∀ K:V->AH->Prop,K (.b (P x)) h0->Cq tp g (.agg x.enc::caps) h0 K) (k:K (.i .i64 (Dp P L 0)) h0):Cq tp Se [.fl 11 (L.map Part.enc),.f (.func g) [] caps] h0 K:=by
 refine Aa qQ (by simp [K4]) λwf rp=>?_;unfold K4;simp (disch:=omega)only[go_sem, *];have hL:=rp.head.len;refine Ai (λn e h=>∃ (i:Nat),n=L.length - i/\h.lim=h0.lim/\e 6=.fl 11 (L.map Part.enc)/\e 7=.i .i64 L.length/\e 8=.i .i64 i/\e 0=.fl 11 (L.map Part.enc)/\e 1=.f (.func g) [] caps/\i<=L.length/\h=h0/\Dp P (L.drop i) i=Dp P L 0) ?_ _ _ _ ⟨0,rfl, ?_⟩
 .rintro n e h ⟨i,rfl,hl,e6,e7,e8,e0,e1,hi,rfl,hz⟩ ih;rw [Ao Xj.eq_1];simp (disch:=omega)only[go_sem, *];refine Ad (λhc=>?_) (λhc=>?_)
  .rw [AN om,Dp] at hz;simp (disch:=omega)only[go_sem, *];refine hp (nth L i) (Az om) _ ?_;simp (disch:=omega)only[go_sem, *];refine Bv (λhc2=>?_) (λhc2=>?_)
   .rw [if_pos hc2] at hz;simp (disch:=omega)only[go_sem, *]
   .rw [if_neg (by simp [hc2])] at hz;simp (disch:=omega)only[go_sem, *];refine ih _ _ _ ?_ ⟨i+1,rfl, ?_⟩
    .omega
    .simp (disch:=omega)only[go_sem, *]
     ((repeat' refine And.intro ?_ ?_)<;>first | omega | assumption | (skip))
  .rw [List.drop_eq_nil_of_le om,Dp] at hz;simp (disch:=omega)only[go_sem, *]
 .simp (disch:=omega)only[go_sem, *]
theorem MB {P:Part->Bool}:∀ (L:List Part) (i:Int),0<=i->(0<=Dp P L i↔L.any P=true)
 | [],i,hi=>by simp [Dp]
 | a::l,i,hi=>by
  rw [Dp];split
  .rename_i h;simp [h,hi]
  .rename_i h;rw [MB l (i+1) om];simp [h]
theorem sR {L:List Part} {g:Nat} {caps:List V} {P:Part->Bool} {h0:AH} {K:V->AH->Prop} (hp:∀ x,x∈L->∀ K:V->AH->Prop,K (.b (P x)) h0->Cq tp g (.agg x.enc::caps) h0 K) (k:K (.b (L.any P)) h0):Cq tp aI [.fl 11 (L.map Part.enc),.f (.func g) [] caps] h0 K:=by
 refine Aa aNe (by simp [QY]) λwf rp=>?_;unfold QY;simp (disch:=omega)only[go_sem, *];refine tE hp ?_;simp (disch:=omega)only[go_sem, *];have e:(decide (0<=Dp P L 0))=L.any P:=by rw [Bool.eq_iff_iff];simp only [decide_eq_true_eq];exact MB L 0 (Int.le_refl _)
 rw [e];exact k
theorem aNu {L:List AQ} {g:Nat} {caps:List V} {P:AQ->Bool} {h0:AH} {K:V->AH->Prop} (hp:∀ x,x∈L->∀ K:V->AH->Prop,K (.b (P x)) h0->Cq tp g (.agg x.enc::caps) h0 K) (k:K (.i .i64 (Dp P L 0)) h0):Cq tp Sq [.fl 2 (L.map AQ.enc),.f (.func g) [] caps] h0 K:=by
 refine Aa rE (by simp [Li]) λwf rp=>?_;unfold Li;simp (disch:=omega)only[go_sem, *];have hL:=rp.head.len;refine Ai (λn e h=>∃ (i:Nat),n=L.length - i/\h.lim=h0.lim/\e 6=.fl 2 (L.map AQ.enc)/\e 7=.i .i64 L.length/\e 8=.i .i64 i/\e 0=.fl 2 (L.map AQ.enc)/\e 1=.f (.func g) [] caps/\i<=L.length/\h=h0/\Dp P (L.drop i) i=Dp P L 0) ?_ _ _ _ ⟨0,rfl, ?_⟩
 .rintro n e h ⟨i,rfl,hl,e6,e7,e8,e0,e1,hi,rfl,hz⟩ ih;rw [Ao aDD.eq_1];simp (disch:=omega)only[go_sem, *];refine Ad (λhc=>?_) (λhc=>?_)
  .rw [AN om,Dp] at hz;simp (disch:=omega)only[go_sem, *];refine hp (nth L i) (Az om) _ ?_;simp (disch:=omega)only[go_sem, *];refine Bv (λhc2=>?_) (λhc2=>?_)
   .rw [if_pos hc2] at hz;simp (disch:=omega)only[go_sem, *]
   .rw [if_neg (by simp [hc2])] at hz;simp (disch:=omega)only[go_sem, *];refine ih _ _ _ ?_ ⟨i+1,rfl, ?_⟩
    .omega
    .simp (disch:=omega)only[go_sem, *]
     ((repeat' refine And.intro ?_ ?_)<;>first | omega | assumption | (skip))
  .rw [List.drop_eq_nil_of_le om,Dp] at hz;simp (disch:=omega)only[go_sem, *]
 .simp (disch:=omega)only[go_sem, *]
theorem O5 {P:AQ->Bool}:∀ (L:List AQ) (i:Int),0<=i->(0<=Dp P L i↔L.any P=true)
 | [],i,hi=>by simp [Dp]
 | a::l,i,hi=>by
  rw [Dp];split
  .rename_i h;simp [h,hi]
  .rename_i h;rw [O5 l (i+1) om];simp [h]
theorem aNn {L:List AQ} {g:Nat} {caps:List V} {P:AQ->Bool} {h0:AH} {K:V->AH->Prop} (hp:∀ x,x∈L->∀ K:V->AH->Prop,K (.b (P x)) h0->Cq tp g (.agg x.enc::caps) h0 K) (k:K (.b (L.any P)) h0):Cq tp Si [.fl 2 (L.map AQ.enc),.f (.func g) [] caps] h0 K:=by
 refine Aa qU (by simp [K8]) λwf rp=>?_;unfold K8;simp (disch:=omega)only[go_sem, *];refine aNu hp ?_;simp (disch:=omega)only[go_sem, *];have e:(decide (0<=Dp P L 0))=L.any P:=by rw [Bool.eq_iff_iff];simp only [decide_eq_true_eq];exact O5 L 0 (Int.le_refl _)
 rw [e];exact k
theorem Np {α:Type} [Inhabited α] [DecidableEq α] {L M:List α} {i:Nat} (hl:L.length=M.length) (hi:i<L.length) (ht:L.take i=M.take i) (he:nth L i=nth M i):L.take (i+1)=M.take (i+1):=by
 rw [List.take_add_one,List.take_add_one,ht,Dq hi,Dq om,he]
theorem Y8 {α:Type} [Inhabited α] {L M:List α} {i:Nat} (hi:i<L.length) (he:¬ nth L i=nth M i):¬ L=M:=by rintro rfl;exact he rfl
theorem Node.eq (a b:Node):a=b↔a.kind=b.kind/\a.part=b.part/\a.n=b.n:=by cases a;cases b;simp
theorem AQ.eq (a b:AQ):a=b↔a.part=b.part/\a.n=b.n:=by cases a;cases b;simp
theorem Bl.eq (a b:Bl):a=b↔a.entry=b.entry/\a.prio=b.prio:=by cases a;cases b;simp
theorem AU.eq (a b:AU):a=b↔a.src=b.src/\a.dst=b.dst/\a.queue=b.queue/\a.cap=b.cap/\a.top=b.top/\a.late=b.late:=by cases a;cases b;simp
theorem Part.eq (a b:Part):a=b↔a.name=b.name/\a.budget=b.budget/\a.period=b.period/\a.sched=b.sched/\a.stop=b.stop/\a.procs=b.procs/\a.h0=b.h0/\a.h1=b.h1/\a.h2=b.h2/\a.h3=b.h3/\a.h4=b.h4:=by cases a;cases b;simp
end Go.Ab.T
namespace Go.Ab.T
open Go Go.Ab
set_option maxHeartbeats 1000000
@[irreducible] def Il (n m:Int):Bool:=decide (0<=n/\n<=m)
theorem J9 {n m:Int}:Pf tp Sf [.i .i64 n,.i .i64 m] (.b (Il n m)):=by
 refine AL qS (by simp [K6]) λrp=>?_;unfold K6;simp (disch:=omega)only[go_sem, *]
 repeat' (first | (refine Ax (λhc=>?_) (λhc=>?_)<;>simp (disch:=omega)only[go_sem, *]) | (refine Ad (λhc=>?_) (λhc=>?_)<;>simp (disch:=omega)only[go_sem, *]) | (refine CQ (λhc=>?_) (λhc=>?_)<;>simp (disch:=omega)only[go_sem, *]) | (refine Bv (λhc=>?_) (λhc=>?_)<;>simp (disch:=omega)only[go_sem, *]))
 all_goals (simp only [Il];grind)
def D8 (x:Bl):Bool:=decide (0<=x.entry/\x.entry<=511/\0<=x.prio/\x.prio<=255)
@[irreducible] def Cc (L:List Bl):Bool:=L.all D8&&decide (1<=L.length/\L.length<=3)
theorem Yx {α:Type} [Inhabited α] {L:List α} {P:α->Bool} {i:Nat} (hi:i<L.length) (h:P (nth L i)=false):L.all P=false:=by
 rw [List.all_eq_false];exact ⟨_,Az hi,by simp [h]⟩
theorem OD {α:Type} [Inhabited α] {L:List α} {P:α->Bool} {i:Nat} (hi:i<L.length) (h:P (nth L i)=true):(L.drop i).all P=(L.drop (i+1)).all P:=by
 rw [AN hi,List.all_cons,h,Bool.true_and]
theorem cP {L:List Bl}:Pf tp IC [.fl 2 (L.map Bl.enc)] (.b (Cc L)):=by
 refine AL qR (by simp [K5]) λrp=>?_;unfold K5;simp (disch:=omega)only[go_sem, *];have hL:=rp.head.len;refine Ai (λn e h=>∃ (i:Nat),n=L.length - i/\h.lim=0/\e 5=.fl 2 (L.map Bl.enc)/\e 6=.i .i64 L.length/\e 7=.i .i64 i/\e 0=.fl 2 (L.map Bl.enc)/\i<=L.length/\L.all D8=(L.drop i).all D8) ?_ _ _ _ ⟨0,rfl, ?_⟩
 .rintro n e h ⟨i,rfl,hl,e5,e6,e7,e0,hi,hz⟩ ih;rw [Ao bAT.eq_1];simp (disch:=omega)only[go_sem, *];refine Ad (λhc=>?_) (λhc=>?_)
  .simp (disch:=omega)only[go_sem, *]
   repeat' (first | (refine Ax (λhc=>?_) (λhc=>?_)<;>simp (disch:=omega)only[go_sem, *]) | (refine Ad (λhc=>?_) (λhc=>?_)<;>simp (disch:=omega)only[go_sem, *]) | (refine CQ (λhc=>?_) (λhc=>?_)<;>simp (disch:=omega)only[go_sem, *]) | (refine Bv (λhc=>?_) (λhc=>?_)<;>simp (disch:=omega)only[go_sem, *]) | (refine Pf.go (J9) (by simp only [go_sem]) λ_=>?_;simp (disch:=omega)only[go_sem, *]))
   all_goals
    try
     have hn:D8 (nth L i)=false:=by (simp only [D8,Il] at *;grind)
     have:=Yx om hn;simp only [Cc,this];rfl
   have hp:D8 (nth L i)=true:=by (simp only [D8,Il] at *;grind)
   refine ih _ _ _ ?_ ⟨i+1,rfl, ?_⟩
   .omega
   .simp (disch:=omega)only[go_sem, *]
    ((repeat' refine And.intro ?_ ?_)<;>first | omega | assumption | (exact OD om hp))
  .rw [List.drop_eq_nil_of_le om,List.all_nil] at hz;simp (disch:=omega)only[go_sem, *]
   repeat' (first | (refine Ax (λhc=>?_) (λhc=>?_)<;>simp (disch:=omega)only[go_sem, *]) | (refine Ad (λhc=>?_) (λhc=>?_)<;>simp (disch:=omega)only[go_sem, *]) | (refine CQ (λhc=>?_) (λhc=>?_)<;>simp (disch:=omega)only[go_sem, *]) | (refine Bv (λhc=>?_) (λhc=>?_)<;>simp (disch:=omega)only[go_sem, *]))
   all_goals (simp only [Cc,hz];grind)
 .simp (disch:=omega)only[go_sem, *]
/-! ### Names -/
def bt (s:ByteArray) (i:Nat):Int:=((s.data.toList.getD i 0).toNat:Int)
def Rf (i:Nat) (c:Int):Bool:=decide ((97<=c/\c<=122)\/(i≠0/\((48<=c/\c<=57)\/c=95)))
@[irreducible] def EI (s:ByteArray):Bool:=decide ((∀ i,i<s.size->Rf i (bt s i)=true)/\1<=s.size/\s.size<=12)
theorem Ph {s:ByteArray} {i:Nat} (hi:i<s.size) (h:Rf i (bt s i)=false):EI s=false:=by
 simp only [EI,decide_eq_false_iff_not];intro hh;rw [hh.1 i hi] at h;cases h
theorem MH {s:ByteArray} (h:∀ j,j<s.size->Rf j (bt s j)=true):EI s=decide (1<=s.size/\s.size<=12):=by
 simp only [EI];congr 1;exact propext ⟨λhh=>hh.2,λhh=>⟨h,hh⟩⟩
theorem UY {s:ByteArray} {i:Nat} (h:∀ j,j<i->Rf j (bt s j)=true) (h1:Rf i (bt s i)=true):∀ j,j<i+1->Rf j (bt s j)=true:=λj hj=>by
 by_cases e:j=i
 .rw [e];exact h1
 .exact h j om
@[go_sem] theorem T8 {s:ByteArray} {i:Nat}:(↑(UInt8.toNat (s.data.toList.getD i 0)):Int)=bt s i:=Aq rfl
theorem YQ {s:ByteArray} (hs:s.size<4000000000):Pf tp aH [.s s] (.b (EI s)):=by
 refine AL aNc (by simp [QX]) λrp=>?_;unfold QX;simp (disch:=omega)only[go_sem, *];refine Ai (λn e h=>∃ (i:Nat),n=s.size - i/\h.lim=0/\e 0=.s s/\e 7=.i .i64 s.size/\e 8=.i .i64 i/\i<=s.size/\∀ j,j<i->Rf j (bt s j)=true) ?_ _ _ _ ⟨0,rfl, ?_⟩
 .rintro n e h ⟨i,rfl,hl,e0,e7,e8,hi,hz⟩ ih;rw [Ao bCS.eq_1];simp (disch:=omega)only[go_sem, *];refine Ad (λhc=>?_) (λhc=>?_)
  .simp (disch:=omega)only[go_sem, *,T8]
   repeat' (first | (refine Ax (λhc=>?_) (λhc=>?_)<;>simp (disch:=omega)only[go_sem, *]) | (refine Ad (λhc=>?_) (λhc=>?_)<;>simp (disch:=omega)only[go_sem, *]) | (refine CQ (λhc=>?_) (λhc=>?_)<;>simp (disch:=omega)only[go_sem, *]) | (refine Bv (λhc=>?_) (λhc=>?_)<;>simp (disch:=omega)only[go_sem, *]))
   all_goals
    try
     have hn:Rf i (bt s i)=false:=by (simp only [Rf] at *;grind)
     exact (Ph om hn).symm
   all_goals
    have hp:Rf i (bt s i)=true:=by (simp only [Rf] at *;grind)
    refine ih _ _ _ ?_ ⟨i+1,rfl, ?_⟩
    .omega
    .simp (disch:=omega)only[go_sem, *]
     ((repeat' refine And.intro ?_ ?_)<;>first | omega | assumption | (exact UY hz hp))
  .have hy:=MH (s:=s) (λj hj=>hz j om);clear hz;simp (disch:=omega)only[go_sem, *]
   repeat' (first | (refine Ax (λhc=>?_) (λhc=>?_)<;>simp (disch:=omega)only[go_sem, *]) | (refine Ad (λhc=>?_) (λhc=>?_)<;>simp (disch:=omega)only[go_sem, *]) | (refine CQ (λhc=>?_) (λhc=>?_)<;>simp (disch:=omega)only[go_sem, *]) | (refine Bv (λhc=>?_) (λhc=>?_)<;>simp (disch:=omega)only[go_sem, *]))
   all_goals grind
 .simp (disch:=omega)only[go_sem, *]
  ((repeat' refine And.intro ?_ ?_)<;>first | omega | assumption | ((intro j hj;omega)))
theorem dB {s:ByteArray} (hs:s.size<4000000000):Pf tp Sa [.s s] (.b (EI s)):=by
 refine AL qM (by simp [KZ]) λrp=>?_;unfold KZ;simp (disch:=omega)only[go_sem, *];refine Ai (λn e h=>∃ (i:Nat),n=s.size - i/\h.lim=0/\e 0=.s s/\e 3=.i .i64 i/\i<=s.size/\∀ j,j<i->Rf j (bt s j)=true) ?_ _ _ _ ⟨0,rfl, ?_⟩
 .rintro n e h ⟨i,rfl,hl,e0,e3,hi,hz⟩ ih;rw [Ao aA1.eq_1];simp (disch:=omega)only[go_sem, *];refine Ad (λhc=>?_) (λhc=>?_)
  .simp (disch:=omega)only[go_sem, *,T8]
   repeat' (first | (refine Ax (λhc=>?_) (λhc=>?_)<;>simp (disch:=omega)only[go_sem, *]) | (refine Ad (λhc=>?_) (λhc=>?_)<;>simp (disch:=omega)only[go_sem, *]) | (refine CQ (λhc=>?_) (λhc=>?_)<;>simp (disch:=omega)only[go_sem, *]) | (refine Bv (λhc=>?_) (λhc=>?_)<;>simp (disch:=omega)only[go_sem, *]))
   all_goals
    try
     have hn:Rf i (bt s i)=false:=by (simp only [Rf] at *;grind)
     exact (Ph om hn).symm
   all_goals
    have hp:Rf i (bt s i)=true:=by (simp only [Rf] at *;grind)
    refine ih _ _ _ ?_ ⟨i+1,rfl, ?_⟩
    .omega
    .simp (disch:=omega)only[go_sem, *]
     ((repeat' refine And.intro ?_ ?_)<;>first | omega | assumption | (exact UY hz hp))
  .have hy:=MH (s:=s) (λj hj=>hz j om);clear hz;simp (disch:=omega)only[go_sem, *]
   repeat' (first | (refine Ax (λhc=>?_) (λhc=>?_)<;>simp (disch:=omega)only[go_sem, *]) | (refine Ad (λhc=>?_) (λhc=>?_)<;>simp (disch:=omega)only[go_sem, *]) | (refine CQ (λhc=>?_) (λhc=>?_)<;>simp (disch:=omega)only[go_sem, *]) | (refine Bv (λhc=>?_) (λhc=>?_)<;>simp (disch:=omega)only[go_sem, *]))
   all_goals grind
 .simp (disch:=omega)only[go_sem, *]
  ((repeat' refine And.intro ?_ ?_)<;>first | omega | assumption | ((intro j hj;omega)))
/-! ### Parts, channels -/
def Gz (x:Part):Bool:=decide (0<=x.h0/\x.h0<=2/\0<=x.h1/\x.h1<=2/\0<=x.h2/\x.h2<=2/\0<=x.h3/\x.h3<=2/\0<=x.h4/\x.h4<=2)
def Ni (b p:Int):Bool:=decide ((b=0/\p=0)\/(1<=b/\b<=4096/\b<=p/\p<=4096))
@[irreducible] def EV (x:Part):Bool:=Cc x.procs&&Gz x&&Ni x.budget x.period
theorem YW {x:Part}:Pf tp aK [.agg x.enc] (.b (EV x)):=by
 refine AL aNg (by simp [Q0]) λrp=>?_;unfold Q0;simp (disch:=omega)only[go_sem, *]
 iterate 6
  all_goals
   try
    refine BO ?_;rw [Ao bCT.eq_1];simp (disch:=omega)only[go_sem, *]
    try repeat' (first | (refine Ax (λhc=>?_) (λhc=>?_)<;>simp (disch:=omega)only[go_sem, *]) | (refine Ad (λhc=>?_) (λhc=>?_)<;>simp (disch:=omega)only[go_sem, *]) | (refine CQ (λhc=>?_) (λhc=>?_)<;>simp (disch:=omega)only[go_sem, *]) | (refine Bv (λhc=>?_) (λhc=>?_)<;>simp (disch:=omega)only[go_sem, *]))
 all_goals try (simp only [EV,Gz];grind)
 repeat' (first | (refine Ax (λhc=>?_) (λhc=>?_)<;>simp (disch:=omega)only[go_sem, *]) | (refine Ad (λhc=>?_) (λhc=>?_)<;>simp (disch:=omega)only[go_sem, *]) | (refine CQ (λhc=>?_) (λhc=>?_)<;>simp (disch:=omega)only[go_sem, *]) | (refine Bv (λhc=>?_) (λhc=>?_)<;>simp (disch:=omega)only[go_sem, *]) | (refine Pf.go (cP) (by simp only [go_sem]) λ_=>?_;simp (disch:=omega)only[go_sem, *]))
 all_goals (simp only [EV,Gz,Ni];grind)
@[irreducible] def C9 (n:Int) (x:AU):Bool:=decide (0<=x.src/\x.src<n/\0<=x.dst/\x.dst<n/\x.src≠x.dst/\0<=x.late/\x.late<=4096)&&(if x.queue=true then decide (1<=x.cap/\x.cap<=8) else decide (x.cap=0))
theorem YG {c:Am} {x:AU}:Pf tp aL [.agg c.enc,.agg x.enc] (.b (C9 c.parts.length x)):=by
 refine AL aNh (by simp [Q4]) λrp=>?_;unfold Q4;simp (disch:=omega)only[go_sem, *];have hL:=rp.head.agg.head.len
 repeat' (first | (refine Ax (λhc=>?_) (λhc=>?_)<;>simp (disch:=omega)only[go_sem, *]) | (refine Ad (λhc=>?_) (λhc=>?_)<;>simp (disch:=omega)only[go_sem, *]) | (refine CQ (λhc=>?_) (λhc=>?_)<;>simp (disch:=omega)only[go_sem, *]) | (refine Bv (λhc=>?_) (λhc=>?_)<;>simp (disch:=omega)only[go_sem, *]) | (refine Pf.go (J9) (by simp only [go_sem]) λ_=>?_;simp (disch:=omega)only[go_sem, *]))
 all_goals (simp only [C9,Il] at *;grind)
theorem cV {n:Int} {x:AU}:Pf tp Sc [.agg x.enc,.i .i64 n] (.b (C9 n x)):=by
 refine AL qO (by simp [K2]) λrp=>?_;unfold K2;simp (disch:=omega)only[go_sem, *]
 repeat' (first | (refine Ax (λhc=>?_) (λhc=>?_)<;>simp (disch:=omega)only[go_sem, *]) | (refine Ad (λhc=>?_) (λhc=>?_)<;>simp (disch:=omega)only[go_sem, *]) | (refine CQ (λhc=>?_) (λhc=>?_)<;>simp (disch:=omega)only[go_sem, *]) | (refine Bv (λhc=>?_) (λhc=>?_)<;>simp (disch:=omega)only[go_sem, *]))
 all_goals (simp only [C9] at *;grind)
theorem Wz {L:List Bl} (h:L.length<1\/3<L.length):Cc L=false:=by simp only [Cc];grind
theorem dK {x:Part}:Pf tp Sb [.agg x.enc] (.b (EV x)):=by
 refine AL qN (by simp [K0]) λrp=>?_;unfold K0;simp (disch:=omega)only[go_sem, *];have hL:=GU.len (rp.head.agg _ (by simp [Part.enc]):GU (.fl 2 (x.procs.map Bl.enc)))
 repeat' (first | (refine Ax (λhc=>?_) (λhc=>?_)<;>simp (disch:=omega)only[go_sem, *]) | (refine Ad (λhc=>?_) (λhc=>?_)<;>simp (disch:=omega)only[go_sem, *]) | (refine CQ (λhc=>?_) (λhc=>?_)<;>simp (disch:=omega)only[go_sem, *]) | (refine Bv (λhc=>?_) (λhc=>?_)<;>simp (disch:=omega)only[go_sem, *]))
 iterate 2
  (rw [EV,Wz om];rfl)
 refine Ai (λn e h=>∃ (i:Nat),n=x.procs.length - i/\h.lim=0/\e 18=.fl 2 (x.procs.map Bl.enc)/\e 19=.i .i64 x.procs.length/\e 20=.i .i64 i/\e 1=.p 0 0 0/\i<=x.procs.length/\h.get 0=some ⟨11,[x.enc]⟩/\1<=h.next/\x.procs.all D8=(x.procs.drop i).all D8) ?_ _ _ _ ⟨0,rfl, ?_⟩
 .rintro n e h ⟨i,rfl,hl,e18,e19,e20,e1,hi,hg,hn,hz⟩ ih;rw [Ao bAM.eq_1];simp (disch:=omega)only[go_sem, *];refine Ad (λhc=>?_) (λhc=>?_)
  .simp (disch:=omega)only[go_sem, *]
   repeat' (first | (refine Ax (λhc=>?_) (λhc=>?_)<;>simp (disch:=omega)only[go_sem, *]) | (refine Ad (λhc=>?_) (λhc=>?_)<;>simp (disch:=omega)only[go_sem, *]) | (refine CQ (λhc=>?_) (λhc=>?_)<;>simp (disch:=omega)only[go_sem, *]) | (refine Bv (λhc=>?_) (λhc=>?_)<;>simp (disch:=omega)only[go_sem, *]))
   all_goals
    try
     have hn:D8 (nth x.procs i)=false:=by (simp only [D8] at *;grind)
     have:=Yx om hn;simp only [EV,Cc,this];rfl
   have hp:D8 (nth x.procs i)=true:=by (simp only [D8] at *;grind)
   refine ih _ _ _ ?_ ⟨i+1,rfl, ?_⟩
   .omega
   .simp (disch:=omega)only[go_sem, *]
    ((repeat' refine And.intro ?_ ?_)<;>first | omega | assumption | (exact OD om hp))
  .rw [List.drop_eq_nil_of_le om,List.all_nil] at hz;simp only [Part.enc] at hg;have hp:Cc x.procs=true:=by simp only [Cc,hz];grind
   simp (disch:=omega)only[go_sem, *]
   iterate 6
    all_goals
     try
      refine BO ?_;rw [Ao aRg.eq_1];simp (disch:=omega)only[go_sem, *]
      try repeat' (first | (refine Ax (λhc=>?_) (λhc=>?_)<;>simp (disch:=omega)only[go_sem, *]) | (refine Ad (λhc=>?_) (λhc=>?_)<;>simp (disch:=omega)only[go_sem, *]) | (refine CQ (λhc=>?_) (λhc=>?_)<;>simp (disch:=omega)only[go_sem, *]) | (refine Bv (λhc=>?_) (λhc=>?_)<;>simp (disch:=omega)only[go_sem, *]))
   all_goals (simp only [EV,Gz,Ni,hp];grind)
 .simp (disch:=omega)only[go_sem, *]
end Go.Ab.T
namespace Go.Ab.T
open Go Go.Ab
set_option maxHeartbeats 1000000
theorem Am.eq (a b:Am):a=b↔a.parts=b.parts/\a.chans=b.chans/\a.tables=b.tables:=by cases a;cases b;simp
end Go.Ab.T
namespace Go.Ab.T
open Go Go.Ab
theorem NB {b:Nat} {h h1 h2:AH} {x v:V} (g:Grown b h1 x v h2) (e:Ak h h1) (hb:b<=h.next):Grown b h x v h2:=by
 have e1:=e.next;have g1:=g.next;refine ⟨om,g.lim.trans e.lim,λi hi=>by rw [g.low i hi,e.get i om],λi hi hn=>by rw [g.get i om hn,e.get i hi], ?_,g.cell,g.cells⟩;rcases g.own with h | h | h
 .exact .inl h
 .exact .inr (.inl h)
 .exact .inr (.inr om)
theorem Dw {b sz:Nat} {h:AH} {v:V} {R:List (List V)} (s:Sl b h sz v R):AA v=true\/Ap v<h.next:=by
 rcases s with ⟨hv,_⟩ | ⟨i,el,cap,cs,rfl,_,_,_,_,h1,_,_⟩
 .rcases hv with rfl | rfl<;>exact .inl rfl
 .exact .inr h1
end Go.Ab.T
namespace Go.Ab.T
open Go Go.Ab
structure Place where
 at_:Nat
 left:Int
 deriving DecidableEq,Inhabited
@[go_sem] def Place.enc (p:Place):List V:=[.i .i64 p.at_,.i .i64 p.left]
structure Cs where
 S:List Place
 leaf:Nat
 gone:Int
 at_:Int
def dn (L:List Node) (a:Nat) (S:List Place):List Place×Nat:=
 if h:a<L.length then
  if (nth L a).kind=3\/(nth L a).kind=4 then dn L (a+1) (⟨a,(nth L a).n⟩::S) else (S,a)
 else (S,a)
termination_by L.length - a
def MV (L:List Node) (next:Nat):List Place->List Place×Nat
 | []=>([],L.length)
 | p::r=>if 0<p.left - 1 then dn L (if (nth L p.at_).kind=4 then p.at_+1 else next) (⟨p.at_,p.left - 1⟩::r) else MV L next r
def MW (L:List Node) (next:Nat):List Place->Prop
 | []=>True
 | p::r=>p.at_<L.length/\1<=p.left/\p.left<=9223372036854775807/\(if 0<p.left - 1 then (dn L (if (nth L p.at_).kind=4 then p.at_+1 else next) (⟨p.at_,p.left - 1⟩::r)).2<L.length/\(dn L (if (nth L p.at_).kind=4 then p.at_+1 else next) (⟨p.at_,p.left - 1⟩::r)).1.length<=L.length else MW L next r)
theorem YY {L:List Node} {a:Nat} {S:List Place}:S.length<=(dn L a S).1.length:=by
 rw [dn];split
 .split
  .have:=YY (L:=L) (a:=a+1) (S:=⟨a,(nth L a).n⟩::S);simp at this;omega
  .simp
 .simp
termination_by L.length - a
def lf (L:List Node) (c:Cs):Node:=nth L c.leaf
structure zV (L:List Node) (c:Cs):Prop where
 MV:MW L (c.leaf+1) c.S
 gone:0<=c.gone/\c.gone<(lf L c).n/\(lf L c).n<=4611686018427387904
 at_:0<=c.at_/\c.at_<=4611686018427387903
def bW (L:List Node) (c:Cs):Cs:=⟨(MV L (c.leaf+1) c.S).1,(MV L (c.leaf+1) c.S).2,0,c.at_+((lf L c).n - c.gone)⟩
def aAB (L:List Node) (c:Cs):Cs:=if c.gone+1=(lf L c).n then ⟨(MV L (c.leaf+1) c.S).1,(MV L (c.leaf+1) c.S).2,0,c.at_+1⟩ else ⟨c.S,c.leaf,c.gone+1,c.at_+1⟩
def GR (L:List Node) (sv:V) (c:Cs):BJ:=⟨5,[[.fl 3 (L.map Node.enc),sv,.i .i64 c.leaf,.i .i64 c.gone,.i .i64 c.at_]]⟩
structure Ec (h:AH) (id:Nat) (sv:V) (L:List Node) (c:Cs):Prop where
 blk:h.get id=some (GR L sv c)
 stk:Sl (id+1) h 2 sv (c.S.reverse.map Place.enc)
 big:L.length<4000000000
 sbig:c.S.length<=L.length
 lo:h.lim<=id
 hi:id<h.next
structure Cf (h:AH) (id:Nat) (sv:V) (h':AH) (sv':V):Prop where
 next:h.next<=h'.next
 lim:h'.lim=h.lim
 get:∀ i,i<h.next->i≠id->(AA sv=true\/i≠Ap sv)->h'.get i=h.get i
 own:AA sv'=true\/(AA sv=false/\Ap sv'=Ap sv)\/h.next<=Ap sv'
theorem Cf.refl {h:AH} {id:Nat} {sv:V}:Cf h id sv h sv:=⟨Nat.le_refl _,rfl,λ_ _ _ _=>rfl,by
 by_cases hs:AA sv=true
 .exact .inl hs
 .exact .inr (.inl ⟨by simpa using hs,rfl⟩)⟩
theorem Cf.trans {h h1 h2:AH} {id:Nat} {sv s1 s2:V} (a:Cf h id sv h1 s1) (b:Cf h1 id s1 h2 s2):Cf h id sv h2 s2:=by
 have an:=a.next;have bn:=b.next;refine ⟨om,b.lim.trans a.lim,λi hi hne hs=>?_, ?_⟩
 .rw [b.get i om hne ?_,a.get i hi hne hs];rcases a.own with h1 | ⟨hn,h1⟩ | h1
  .exact .inl h1
  .rcases hs with hs | hs
   .rw [hs] at hn;cases hn
   .exact .inr (by rw [h1];exact hs)
  .exact .inr om
 .rcases b.own with h2 | ⟨hn,h2⟩ | h2
  .exact .inl h2
  .rcases a.own with h1 | ⟨hn1,h1⟩ | h1
   .rw [h1] at hn;cases hn
   .exact .inr (.inl ⟨hn1,h2.trans h1⟩)
   .exact .inr (.inr om)
  .exact .inr (.inr om)
theorem Cf.ext {h h1 h2:AH} {id:Nat} {sv s1:V} (a:Cf h id sv h1 s1) (b:Ak h1 h2):Cf h id sv h2 s1:=by
 have an:=a.next;have bn:=b.next;exact ⟨om,b.lim.trans a.lim,λi hi hne hs=>by rw [b.get i om,a.get i hi hne hs],a.own⟩
theorem Ec.ext {h h':AH} {id:Nat} {sv:V} {L:List Node} {c:Cs} (k:Ec h id sv L c) (x:Ak h h'):Ec h' id sv L c:=by
 have:=x.next;exact ⟨by rw [x.get id k.hi];exact k.blk,k.stk.ext x,k.big,k.sbig,by rw [x.lim];exact k.lo,by have:=k.hi;omega⟩
theorem Ec.sne {h:AH} {id:Nat} {sv:V} {L:List Node} {c:Cs} (k:Ec h id sv L c):AA sv=true\/(id<Ap sv/\Ap sv<h.next):=by
 rcases k.stk with ⟨hv,_⟩ | ⟨i,el,cap,cs,rfl,_,_,_,_,h1,h2,_⟩
 .rcases hv with rfl | rfl<;>exact .inl rfl
 .exact .inr ⟨h2,h1⟩
theorem Ec.sne' {h:AH} {id:Nat} {sv:V} {L:List Node} {c:Cs} (k:Ec h id sv L c):AA sv=true\/id≠Ap sv:=by
 rcases k.sne with h | h
 .exact .inl h
 .exact .inr om
theorem Ec.put {h:AH} {id:Nat} {sv:V} {L:List Node} {c c':Cs} (k:Ec h id sv L c) (hS:c'.S=c.S):Ec (h.put id (GR L sv c')) id sv L c':=by
 refine ⟨by rw [Ae,Ar rfl], ?_,k.big,by rw [hS];exact k.sbig,k.lo,k.hi⟩;rw [hS];rcases k.stk with ⟨hv,hR⟩ | ⟨i,el,cap,cs,rfl,hg,h1,h2,h3,h4,h5,h6⟩
 .exact .inl ⟨hv,hR⟩
 .exact .inr ⟨i,el,cap,cs,rfl,by rw [Ae,Af om];exact hg,h1,h2,h3,h4,h5,h6⟩
theorem Cf.put {h:AH} {id:Nat} {sv:V} {b:BJ}:Cf h id sv (h.put id b) sv:=by
 refine ⟨Nat.le_refl _,rfl,λi hi hne hs=>by rw [Ae,Af hne],(Cf.refl (h:=h) (id:=id)).own⟩
theorem Ec.push {h h4:AH} {id:Nat} {sv w:V} {L:List Node} {c c':Cs} {p:Place} (k:Ec h id sv L c) (s4:Sl (id+1) h4 2 w (c.S.reverse.map Place.enc++[p.enc])) (a4:Grown (id+1) h sv w h4) (hS:c'.S=p::c.S) (hl:c'.S.length<=L.length):Ec (h4.put id (GR L w c')) id w L c':=by
 have hn:=a4.next;have hi:=k.hi;have:=k.lo;refine ⟨by rw [Ae,Ar rfl], ?_,k.big,hl, ?_, ?_⟩
 .rw [hS];rcases s4 with ⟨hv,hR⟩ | ⟨i,el,cap,cs,hw,hg,h1,h2,h3,q4,h5,h6⟩
  .simp at hR
  .refine Sl.same (h:=h4) (.inr ⟨i,el,cap,cs,by simpa using hw,hg,h1,by simpa using h2,by simpa using h3,q4,h5,by simpa using h6⟩) (Nat.le_refl _) (λ_=>?_);rw [Ae,Af (by rw [hw];simp only [Ap];omega)]
 .rw [El,a4.lim];exact k.lo
 .rw [Ah];omega
theorem Cf.push {h h4:AH} {id:Nat} {sv w:V} {b:BJ} (a4:Grown (id+1) h sv w h4):Cf h id sv (h4.put id b) w:=
 ⟨a4.next,a4.lim,λi hi hne hs=>by rw [Ae,Af hne];exact a4.get i hi hs,a4.own⟩
set_option maxHeartbeats 1000000
theorem No {h : AH} {id : Nat} {sv : V} {L : List Node} {c : Cs} {a : Nat} {K : V -> AH -> Prop} (k : Ec h id sv L c) (hd : (dn L a c.S).2 < L.length) (hl : (dn L a c.S).1.length <= L.length)
    (kk:∀ sv' h',Ec h' id sv' L ⟨(dn L a c.S).1,(dn L a c.S).2,c.gone,c.at_⟩->Cf h id sv h' sv'->K (.tup []) h'):Cq tp SF [.p id 0 0,.i .i64 a] h K:=by
 refine Aa rV (by simp [Lz]) λwf rp=>?_;unfold Lz;simp (disch:=omega)only[go_sem, *];refine Ai (λn e h'=>∃ (b:Nat) (S:List Place) (sv':V),n=L.length - b/\e 0=.p id 0 0/\e 1=.i .i64 b/\Ec h' id sv' L ⟨S,c.leaf,c.gone,c.at_⟩/\Cf h id sv h' sv'/\dn L b S=dn L a c.S) ?_ _ _ _ ⟨a,c.S,sv,rfl, ?_⟩
 .rintro n e h' ⟨b,S,sv',rfl,e0,e1,k',f',hz⟩ ih;have k0:=k';obtain ⟨kb,ks,kbig,ksb,klo,khi⟩:=k';simp only [GR] at kb;have hb:b<L.length:=by
   rw [<- hz] at hd;rw [dn] at hd;split at hd
   .assumption
   .exact hd
  rw [dn,dif_pos hb] at hz;rw [Ao aFs.eq_1];have tail:(nth L b).kind=3\/(nth L b).kind=4->dn L (b+1) (⟨b,(nth L b).n⟩::S)=dn L a c.S:=λhk=>by rw [<- hz,if_pos hk]
  have stop:¬ ((nth L b).kind=3\/(nth L b).kind=4)->(S,b)=dn L a c.S:=λhk=>by rw [<- hz,if_neg hk]
  have kl:=YY (L:=L) (a:=b+1) (S:=⟨b,(nth L b).n⟩::S);simp (disch:=omega)only[go_sem, *];refine Ax (λhc=>?_) (λhc=>?_)
  .simp (disch:=omega)only[go_sem, *];have ht:=tail (.inl hc);rw [ht] at kl;simp only [List.length_cons] at kl;have nsid:=k0.sne';refine Av (ks.alloc _) (by simp only [Bi];omega) (by simp only [Ac];omega) (by simp;omega) ?_;intro w h4 s4 a4;have a4:=NB a4 ((Ak.refl h').alloc _) om;have hn4:=a4.next;have hl4:=a4.lim;have hc4:=a4.cells;have hd4:=a4.cell;have hb4:=a4.get id khi nsid;rw [kb] at hb4;simp (disch:=omega)only[go_sem, *];refine ih _ _ _ ?_ ⟨b+1,⟨b,(nth L b).n⟩::S,w,rfl, ?_⟩
   .omega
   .simp (disch:=omega)only[go_sem, *];exact ⟨Ec.push (p:=⟨b,(nth L b).n⟩) (c':=⟨⟨b,(nth L b).n⟩::S,c.leaf,c.gone,c.at_⟩) k0 s4 a4 rfl (by simp;omega),f'.trans (Cf.push a4)⟩
  .simp (disch:=omega)only[go_sem, *];refine Ad (λhc2=>?_) (λhc2=>?_)
   .simp (disch:=omega)only[go_sem, *];have ht:=tail (.inr hc2);rw [ht] at kl;simp only [List.length_cons] at kl;have nsid:=k0.sne';refine Av (ks.alloc _) (by simp only [Bi];omega) (by simp only [Ac];omega) (by simp;omega) ?_;intro w h4 s4 a4;have a4:=NB a4 ((Ak.refl h').alloc _) om;have hn4:=a4.next;have hl4:=a4.lim;have hc4:=a4.cells;have hd4:=a4.cell;have hb4:=a4.get id khi nsid;rw [kb] at hb4;simp (disch:=omega)only[go_sem, *];refine ih _ _ _ ?_ ⟨b+1,⟨b,(nth L b).n⟩::S,w,rfl, ?_⟩
    .omega
    .simp (disch:=omega)only[go_sem, *];exact ⟨Ec.push (p:=⟨b,(nth L b).n⟩) (c':=⟨⟨b,(nth L b).n⟩::S,c.leaf,c.gone,c.at_⟩) k0 s4 a4 rfl (by simp;omega),f'.trans (Cf.push a4)⟩
   .have hst:=stop om;simp (disch:=omega)only[go_sem, *];refine kk sv' _ ?_ (f'.trans Cf.put);rw [<- hst];exact Ec.put (c':=⟨S,b,c.gone,c.at_⟩) k0 rfl
 .simp (disch:=omega)only[go_sem, *];exact Cf.refl
end Go.Ab.T
namespace Go.Ab.T
open Go Go.Ab
namespace Fo
def hd:Fo->Fo
 | nil=>nil
 | leaf x _=>leaf x nil
 | seq x k _=>seq x k nil
 | rep x k _=>rep x k nil
def tl:Fo->Fo
 | nil=>nil
 | leaf _ r=>r
 | seq _ _ r=>r
 | rep _ _ r=>r
theorem flat_hd:∀ (f:Fo),f.flat=f.hd.flat++f.tl.flat
 | nil=>rfl
 | leaf _ _=>by simp [flat,hd,tl]
 | seq _ _ _=>by simp [flat,hd,tl]
 | rep _ _ _=>by simp [flat,hd,tl]
theorem runs_hd:∀ (f:Fo),f.runs=f.hd.runs++f.tl.runs
 | nil=>rfl
 | leaf _ _=>by simp [runs,hd,tl]
 | seq _ _ _=>by simp [runs,hd,tl]
 | rep _ _ _=>by simp [runs,hd,tl]
theorem count_tl:∀ (f:Fo),0<f.count->f.tl.count+1=f.count
 | nil,h=>by simp [count] at h
 | leaf _ _,_=>rfl
 | seq _ _ _,_=>rfl
 | rep _ _ _,_=>rfl
theorem ok_tl:∀ (f:Fo),f.ok->f.tl.ok
 | nil,_=>trivial
 | leaf _ _,h=>h.2
 | seq _ _ _,h=>h.2.2.2.2
 | rep _ _ _,h=>h.2.2.2.2
theorem len_tl:∀ (f:Fo),f.ok->f.tl.len<=f.len
 | nil,_=>by simp [tl]
 | leaf x r,ho=>by
  have:=C5 (x:=x) (by rw [ho.1];omega);simp only [tl,len];omega
 | seq x k r,ho=>by
  have:=(len_pos k ho.2.2.2.1).1;simp only [tl,len];omega
 | rep x k r,ho=>by
  have:=PB ho;simp only [tl,len];omega
theorem hd_of_one {f:Fo} (h:f.count=1):f.hd=f:=by
 cases f<;>simp [count] at h<;>simp [hd,nil_of h]
end Fo
def AB:List AQ->Int
 | []=>0
 | r::l=>r.n+AB l
theorem CB:∀ (a b:List AQ),AB (a++b)=AB a+AB b
 | [],b=>by simp [AB]
 | r::l,b=>by simp only [List.cons_append,AB,CB l b];omega
theorem KX (l:List AQ):∀ (m:Nat),AB (List.replicate m l).flatten=m*AB l
 | 0=>by simp [AB]
 | m+1=>by rw [List.replicate_succ,List.flatten_cons,CB,KX l m,Int.natCast_add,Int.add_mul];simp;omega
theorem Fo.runs_sum:∀ (f:Fo),f.ok->AB f.runs=f.len
 | .nil,_=>rfl
 | .leaf x r,ho=>by simp only [Fo.runs,Fo.len,AB,Fo.runs_sum r ho.2]
 | .seq x k r,ho=>by simp only [Fo.runs,Fo.len,CB,Fo.runs_sum k ho.2.2.2.1,Fo.runs_sum r ho.2.2.2.2]
 | .rep x k r,ho=>by
  have hn:=C5 (x:=x) (by rw [ho.2.1];omega);simp only [Fo.runs,Fo.len,CB,KX,Fo.runs_sum k ho.2.2.2.1,Fo.runs_sum r ho.2.2.2.2];rw [Int.toNat_of_nonneg om]
inductive Z (L:List Node):List Place->Nat->List AQ->Prop where
 | nil (n:Nat):Z L [] n []
 | seq (a:Nat) (S:List Place) (n:Nat) (g:Fo) (R:List Node) (l:List AQ):(nth L a).kind=3->a<n->a<L.length->S.length<=a->g.ok->g.count<=128->g.len<=4611686018427387904->L.drop n=g.flat++R->Z L S (n+g.flat.length) l->Z L (⟨a,(g.count:Int)+1⟩::S) n (g.runs++l)
 | rep (a:Nat) (S:List Place) (k:Fo) (R:List Node) (m:Nat) (l:List AQ):(nth L a).kind=4->a<L.length->S.length<=a->k.ok->k.count=1->m+1<=4611686018427387904->k.len<=4611686018427387904->L.drop (a+1)=k.flat++R->Z L S (a+1+k.flat.length) l->Z L (⟨a,(m:Int)+1⟩::S) (a+1+k.flat.length) ((List.replicate m k.runs).flatten++l)
def D (L:List Node) (q:List Place×Nat) (l:List AQ):Prop:=q.2<L.length/\q.1.length<=q.2/\kids (nth L q.2)=0/\(nth L q.2).n<=4611686018427387904/\∃ l',Z L q.1 (q.2+1) l'/\l=⟨DC (nth L q.2),(nth L q.2).n⟩::l'
theorem HL {L:List Node}:∀ (f:Fo) (a:Nat) (S:List Place) (l:List AQ) (R:List Node),f.ok->0<f.count->f.len<=4611686018427387904->S.length<=a->L.drop a=f.flat++R->Z L S (a+f.hd.flat.length) l->D L (dn L a S) (f.hd.runs++l)
 | .nil,a,S,l,R,ho,hc,hln,hs,hd,hz=>by simp [Fo.count] at hc
 | .leaf x r,a,S,l,R,ho,hc,hln,hs,hd,hz=>by
  have hd':L.drop a=x::(r.flat++R):=hd;have hx:=Cv hd';have ha:=(AR hd').1;have hk:=FH x (by rw [ho.1];omega);rw [ho.1] at hk;rw [dn,dif_pos ha,hx,if_neg om];have hlr:=(Fo.len_pos r ho.2).1;simp only [Fo.len] at hln;refine ⟨ha,hs,by rw [hx];exact ho.1,by rw [hx];omega,l,hz,by rw [hx];rfl⟩
 | .seq x k r,a,S,l,R,ho,hc,hln,hs,hd,hz=>by
  have hd':L.drop a=x::(k.flat++(r.flat++R)):=by rw [hd];simp [Fo.flat]
  have hx:=Cv hd';have ha:=(AR hd').1;obtain ⟨h3,hk,hp,hok,hor⟩:=ho;have hlr:=(Fo.len_pos r hor).1;simp only [Fo.len] at hln;rw [dn,dif_pos ha,hx,if_pos (.inl h3)];have hd2:=(AR hd').2;have hct:=Fo.count_tl k hp;have hkb:=HO x;have hxn:x.n=(k.tl.count:Int)+1:=by
   have:=(Kw x om).1 h3;omega
  have hfl:=congrArg List.length (Fo.flat_hd k);simp only [List.length_append] at hfl;rw [show (Fo.seq x k r).hd.runs++l=k.hd.runs++(k.tl.runs++l) by rw [<- List.append_assoc,<-Fo.runs_hd];simp [Fo.hd,Fo.runs]];refine HL k (a+1) _ _ _ hok hp om (by simp;omega) hd2 ?_;rw [hxn];refine Z.seq a S _ k.tl (r.flat++R) l (by rw [hx];exact h3) om ha hs (Fo.ok_tl k hok) om (by have:=Fo.len_tl k hok;omega) ?_ ?_
  .rw [Fo.flat_hd k,List.append_assoc] at hd2;exact Dk hd2
  .have:a+1+k.hd.flat.length+k.tl.flat.length=a+(Fo.seq x k r).hd.flat.length:=by
    show _=a+(x::(k.flat++[])).length;simp;omega
   rw [this];exact hz
 | .rep x k r,a,S,l,R,ho,hc,hln,hs,hd,hz=>by
  have hd':L.drop a=x::(k.flat++(r.flat++R)):=by rw [hd];simp [Fo.flat]
  have hx:=Cv hd';have ha:=(AR hd').1;have hrn:=PB ho;obtain ⟨h4,hk,hp,hok,hor⟩:=ho;have hlr:=(Fo.len_pos r hor).1;simp only [Fo.len] at hln;have hm1:x.n*1<=x.n*k.len:=Int.mul_le_mul_of_nonneg_left hrn.2.1 om;have hm2:1*k.len<=x.n*k.len:=Int.mul_le_mul_of_nonneg_right hrn.1 om;have hm3:x.n<=4611686018427387904:=by rw [Int.mul_one] at hm1;omega
  rw [dn,dif_pos ha,hx,if_pos (.inr h4)];have hd2:=(AR hd').2;obtain ⟨m,hm⟩:∃ m:Nat,x.n=(m:Int)+1:=⟨(x.n - 1).toNat,om⟩
  have h1:=Fo.hd_of_one hp;rw [show (Fo.rep x k r).hd.runs++l=k.hd.runs++((List.replicate m k.runs).flatten++l) by
   rw [h1,<-List.append_assoc];simp only [Fo.hd,Fo.runs,List.append_nil];rw [show x.n.toNat=m+1 by omega,List.replicate_succ,List.flatten_cons]]
  refine HL k (a+1) _ _ _ hok om om (by simp;omega) hd2 ?_;rw [hm,h1];refine Z.rep a S k (r.flat++R) m l (by rw [hx];exact h4) ha hs hok hp (by rw [hm] at hm3;omega) om hd2 ?_;have:a+1+k.flat.length=a+(Fo.rep x k r).hd.flat.length:=by
   show _=a+(x::(k.flat++[])).length;simp;omega
  rw [this];exact hz
theorem aN4 {L:List Node} {S:List Place} {n:Nat} {l:List AQ} (z:Z L S n l):MW L n S/\((l=[]/\MV L n S=([],L.length))\/D L (MV L n S) l):=by
 induction z with
 | nil n=>exact ⟨trivial,.inl ⟨rfl,rfl⟩⟩
 | seq a S n g R l hk han hal hs hg hgc hgl hd hz ih=>
  by_cases hc:0<g.count
  .have hct:=Fo.count_tl g hc;have hfl:=congrArg List.length (Fo.flat_hd g);simp only [List.length_append] at hfl;have hD:D L (dn L n (⟨a,(g.count:Int)⟩::S)) (g.runs++l):=by
    rw [Fo.runs_hd,List.append_assoc];refine HL g n _ _ R hg hc hgl (by simp;omega) hd ?_;have hd2:=hd;rw [Fo.flat_hd g,List.append_assoc] at hd2;have:=Z.seq a S (n+g.hd.flat.length) g.tl R l hk om hal hs (Fo.ok_tl g hg) om (by have:=Fo.len_tl g hg;omega) (Dk hd2) (by rw [Nat.add_assoc,<-hfl];exact hz);rw [show ((g.tl.count:Int)+1)=g.count by omega] at this;exact this
   have e:(g.count:Int)+1 - 1=g.count:=by omega
   refine ⟨⟨hal,by simp only;omega,by simp only;omega, ?_⟩,.inr ?_⟩
   .simp only [e];rw [if_pos om,if_neg om];exact ⟨hD.1,by have:=hD.1;have:=hD.2.1;omega⟩
   .rw [MV];simp only [e];rw [if_pos om,if_neg om];exact hD
  .have h0:g=.nil:=Fo.nil_of om;subst h0;simp only [Fo.count,Fo.flat,Fo.runs,List.length_nil,Nat.add_zero,List.nil_append] at hz ih ⊢;refine ⟨⟨hal,by simp,by simp, ?_⟩, ?_⟩
   .rw [if_neg (by simp)];exact ih.1
   .rw [MV,if_neg (by simp)];exact ih.2
 | rep a S k R m l hk hal hs hok hkc hm hkl hd hz ih=>
  cases m with
  | zero=>
   simp only [List.replicate_zero,List.flatten_nil,List.nil_append];refine ⟨⟨hal,by simp,by simp, ?_⟩, ?_⟩
   .rw [if_neg (by simp)];exact ih.1
   .rw [MV,if_neg (by simp)];exact ih.2
  | succ m=>
   have hD:D L (dn L (a+1) (⟨a,((m+1:Nat):Int)⟩::S)) ((List.replicate (m+1) k.runs).flatten++l):=by
    rw [List.replicate_succ,List.flatten_cons,List.append_assoc];have h1:=Fo.hd_of_one hkc
    conv=>arg 3;rw [<- h1]
    refine HL k (a+1) _ _ R hok om hkl (by simp;omega) hd ?_;rw [h1];have:=Z.rep a S k R m l hk hal hs hok hkc om hkl hd hz;simpa using this
   have e:((m+1:Nat):Int)+1 - 1=((m+1:Nat):Int):=by omega
   refine ⟨⟨hal,by simp only;omega,by simp only;omega, ?_⟩,.inr ?_⟩
   .simp only [e];rw [if_pos om,if_pos hk];exact ⟨hD.1,by have:=hD.1;have:=hD.2.1;omega⟩
   .rw [MV];simp only [e];rw [if_pos om,if_pos hk];exact hD
structure Vd (L:List Node) (c:Cs) (l:List AQ):Prop where
 sb:c.S.length<=L.length
 at_:0<=c.at_/\c.at_+AB l<=4096
 sum:0<=AB l
 go:(l=[]/\c.leaf=L.length)\/(c.leaf<L.length/\kids (lf L c)=0/\0<=c.gone/\c.gone<(lf L c).n/\(lf L c).n<=4611686018427387904/\∃ l',Z L c.S (c.leaf+1) l'/\l=⟨DC (lf L c),(lf L c).n - c.gone⟩::l')
theorem Vd.nil {L:List Node} {c:Cs} (r:Vd L c []):c.leaf=L.length:=by
 rcases r.go with h | ⟨_,_,_,_,_,l',_,h⟩
 .exact h.2
 .cases h
theorem D.rem {L:List Node} {q:List Place×Nat} {l:List AQ} {a:Int} (d:D L q l) (ha:0<=a/\a+AB l<=4096) (hp:0<=AB l):Vd L ⟨q.1,q.2,0,a⟩ l:=by
 obtain ⟨h1,h2,h3,hb,l',hz,hl⟩:=d;have hn:=C5 (x:=nth L q.2) om;exact ⟨by simp only;omega,ha,hp,.inr ⟨h1,h3,by simp,by simp only [lf];omega,hb,l',hz,by rw [hl];simp [lf]⟩⟩
theorem Z.sum {L:List Node} {S:List Place} {n:Nat} {l:List AQ} (z:Z L S n l):0<=AB l:=by
 induction z with
 | nil n=>simp [AB]
 | seq a S n g R l hk han hal hs hg hgc hgl hd hz ih=>rw [CB,Fo.runs_sum g hg];have:=(Fo.len_pos g hg).1;omega
 | rep a S k R m l hk hal hs hok hkc hm hkl hd hz ih=>
  rw [CB,KX,Fo.runs_sum k hok];have:0<=(m:Int)*k.len:=Int.mul_nonneg om (Fo.len_pos k hok).1;omega
structure bAF (L:List Node) (c:Cs) (r:AQ) (l:List AQ):Prop where
 lt:c.leaf<L.length
 ok:zV L c
 run:r=⟨DC (lf L c),(lf L c).n - c.gone⟩
 pos:1<=r.n
 next:Vd L (bW L c) l
 tick:Vd L (aAB L c) (if r.n=1 then l else ⟨r.part,r.n - 1⟩::l)
theorem Vd.cons {L:List Node} {c:Cs} {r:AQ} {l:List AQ} (h:Vd L c (r::l)):bAF L c r l:=by
 obtain ⟨hsb,hat,hsum,hgo⟩:=h;rcases hgo with ⟨h,_⟩ | ⟨h1,h2,h3,h4,hb,l',hz,h5⟩
 .cases h
 .obtain ⟨rfl,rfl⟩:=List.cons.inj h5;have hok:=aN4 hz;have hl0:=hz.sum;simp only [AB] at hat hsum;have step:∀ a:Int,0<=a->a+AB l<=4096->Vd L ⟨(MV L (c.leaf+1) c.S).1,(MV L (c.leaf+1) c.S).2,0,a⟩ l:=by
   intro a ha ha2;rcases hok.2 with ⟨rfl,he⟩ | hd
   .rw [he];exact ⟨by simp,by simp only [AB];simp only [AB] at ha2;omega,by simp [AB],.inl ⟨rfl,rfl⟩⟩
   .exact hd.rem ⟨ha,ha2⟩ hl0
  refine ⟨h1,⟨hok.1,⟨h3,h4,hb⟩,om⟩,rfl,by simp only;omega,step _ om om, ?_⟩;unfold aAB
  by_cases hg:c.gone+1=(lf L c).n
  .rw [if_pos hg,if_pos (by simp only;omega)];exact step _ om om
  .rw [if_neg hg,if_neg (by simp only;omega)];exact ⟨hsb,by simp only [AB];omega,by simp only [AB];omega,.inr ⟨h1,h2,by simp only;omega,by simp only [lf] at hg h4 ⊢;omega,hb,l,hz,by simp only [lf];congr 2;omega⟩⟩
def pW (L:List Node):Cs:=⟨(dn L 0 []).1,(dn L 0 []).2,0,0⟩
theorem U5 {f:Fo} (ho:f.ok) (hc:f.count=1) (hl:f.len<=4096):D f.flat (dn f.flat 0 []) f.runs:=by
 have:=HL (L:=f.flat) f 0 [] [] [] ho om om (by simp) (by simp) (Z.nil _);rw [Fo.hd_of_one hc,List.append_nil] at this;exact this
theorem WM {f:Fo} (ho:f.ok) (hc:f.count=1) (hl:f.len<=4096):Vd f.flat (pW f.flat) f.runs:=by
 have h:=Fo.runs_sum f ho;have:=(Fo.len_pos f ho).1;exact (U5 ho hc hl).rem om om
end Go.Ab.T
namespace Go.Ab.T
open Go Go.Ab
set_option maxHeartbeats 1000000
theorem Ec.some {h:AH} {id:Nat} {sv:V} {L:List Node} {S:List Place} {p:Place} {lf:Nat} {g a:Int} (k:Ec h id sv L ⟨p::S,lf,g,a⟩):AA sv=false/\id<Ap sv/\Ap sv<h.next:=by
 rcases k.stk with ⟨_,hR⟩ | ⟨i,el,cap,cs,rfl,_,_,_,_,h1,h2,_⟩
 .simp at hR
 .exact ⟨rfl,h2,h1⟩
theorem Ec.top {h:AH} {id:Nat} {sv:V} {L:List Node} {S:List Place} {p p':Place} {lf:Nat} {g a:Int} (k:Ec h id sv L ⟨p::S,lf,g,a⟩):Ec (h.put (Ap sv) ⟨2,(AP h sv).set (Ca sv+S.length) p'.enc⟩) id sv L ⟨p'::S,lf,g,a⟩/\Cf h id sv (h.put (Ap sv) ⟨2,(AP h sv).set (Ca sv+S.length) p'.enc⟩) sv:=by
 obtain ⟨hs,h1,h2⟩:=k.some;refine ⟨⟨?_, ?_,k.big,k.sbig,k.lo,k.hi⟩,⟨Nat.le_refl _,rfl,λi _ _ hi=>?_,(Cf.refl (h:=h) (id:=id)).own⟩⟩
 .rw [Ae,Af om];exact k.blk
 .have:=k.stk.setT (h':=h.put (Ap sv) ⟨2,(AP h sv).set (Ca sv+S.length) p'.enc⟩) (j:=S.length) (x:=p') (by simp) (Nat.le_refl _) (by rw [Ae,Ar rfl]);simp only [List.reverse_cons] at this ⊢;rw [List.set_append_right _ _ (by simp)] at this;simpa using this
 .rw [Ae,Af];rcases hi with hi | hi
  .rw [hs] at hi;cases hi
  .exact hi
theorem Ec.pop {h:AH} {id:Nat} {sv:V} {L:List Node} {S:List Place} {p:Place} {lf:Nat} {g a:Int} (k:Ec h id sv L ⟨p::S,lf,g,a⟩):Ec (h.put id (GR L (CF sv S.length) ⟨S,lf,g,a⟩)) id (CF sv S.length) L ⟨S,lf,g,a⟩/\Cf h id sv (h.put id (GR L (CF sv S.length) ⟨S,lf,g,a⟩)) (CF sv S.length):=by
 obtain ⟨hs,h1,h2⟩:=k.some;refine ⟨⟨?_, ?_,k.big,by have:=k.sbig;simp at this ⊢;omega,k.lo,k.hi⟩,⟨Nat.le_refl _,rfl,λi _ hi _=>by rw [Ae,Af hi],.inr (.inl ⟨hs,ID⟩)⟩⟩
 .rw [Ae,Ar rfl]
 .have:=k.stk.truncd (n:=S.length) (by simp);simp only [List.reverse_cons,List.map_append] at this;rw [List.take_left' (by simp)] at this;exact Sl.same this (Nat.le_refl _) (λ_=>by rw [Ae,Af (by rw [ID];omega)])
theorem zK {p:Place} {S:List Place}:nth (p::S).reverse S.length=p:=by simp [nth,List.getD]
theorem Ec.lim_le {h:AH} {id:Nat} {sv:V} {L:List Node} {c:Cs} (k:Ec h id sv L c):h.lim<=h.next:=by
 have:=k.lo;have:=k.hi;omega
theorem vP {h : AH} {id : Nat} {sv : V} {L : List Node} {c : Cs} {K : V -> AH -> Prop} (k : Ec h id sv L c) (hlf : c.leaf < L.length) (hok : MW L (c.leaf + 1) c.S)
    (kk:∀ sv' h',Ec h' id sv' L ⟨(MV L (c.leaf+1) c.S).1,(MV L (c.leaf+1) c.S).2,0,c.at_⟩->Cf h id sv h' sv'->K (.tup []) h'):Cq tp Sx [.p id 0 0] h K:=by
 have k0:=k;obtain ⟨kb,ks,kbig,ksb,klo,khi⟩:=k;simp only [GR] at kb;refine Aa rN (by simp [Lr]) λwf rp=>?_;unfold Lr;simp (disch:=omega)only[go_sem, *];refine Ai (λn e h'=>∃ (S:List Place) (sv':V),n=S.length/\e 0=.p id 0 0/\e 2=.i .i64 ((c.leaf:Int)+1)/\Ec h' id sv' L ⟨S,c.leaf,0,c.at_⟩/\Cf h id sv h' sv'/\MW L (c.leaf+1) S/\MV L (c.leaf+1) S=MV L (c.leaf+1) c.S) ?_ _ _ _ ⟨c.S,sv,rfl, ?_⟩
 .rintro n e h' ⟨S,sv',rfl,e0,e2,k',f',ok,hz⟩ ih;have k1:=k';obtain ⟨kb,ks,kbig,ksb,klo,khi⟩:=k';obtain ⟨glen,gbig,glt,glo,gget,gat,grow,gc,gcs⟩:=ks.facts;have grl:=λ(hj:0<S.length)=>ks.rowlt (j:=S.length - 1) (by simp;omega);have spre:∀ {k:IntKind} {j:Int} {cs:List (List V)},0<=j->j<=S.length->GT (some ⟨2,cs⟩) 2 sv' none (some (.i k j)) none=some (CF sv' j.toNat):=λh0 h1=>ks.pre h0 (by simp;omega);simp only [List.length_reverse] at glen gbig glt gget gat grow grl spre ksb;simp only [GR] at kb;rw [Ao aZj.eq_1];simp (disch:=omega)only[go_sem, *];refine Ad (λhc=>?_) (λhc=>?_)
  .obtain ⟨p,r,rfl⟩:∃ p r,S=p::r:=by
    match S,hc with
    | [],hc=>simp at hc
    | p::r,_=>exact ⟨p,r,rfl⟩
   simp only [MW] at ok;obtain ⟨o1,o2,o3,o4⟩:=ok;rw [MV] at hz;have tn:=zK (p:=p) (S:=r);simp only [List.length_cons,Int.natCast_add,Int.natCast_one] at glen gbig glt gget gat grow grl spre ksb hc;have z1:((r.length:Int)+1 - 1).toNat=r.length:=by omega
   have grl':=grl om;simp only [Nat.add_sub_cancel] at grl';have sne:=k1.some;have kt:=Ec.top (p':=⟨p.at_,p.left - 1⟩) k1;simp (disch:=omega)only[go_sem, *];refine Ad (λhc2=>?_) (λhc2=>?_)
   .rw [if_pos hc2] at o4 hz;simp (disch:=omega)only[go_sem, *];refine Ad (λhc3=>?_) (λhc3=>?_)
    .rw [if_pos hc3] at o4 hz;simp (disch:=omega)only[go_sem, *];refine No (a:=p.at_+1) kt.1 o4.1 o4.2 ?_;intro sv2 h2 c2 f2;simp (disch:=omega)only[go_sem, *];refine kk sv2 _ ?_ (f'.trans (kt.2.trans f2));rw [<- hz];exact c2
    .rw [if_neg hc3] at o4 hz;simp (disch:=omega)only[go_sem, *];refine No (a:=c.leaf+1) kt.1 o4.1 o4.2 ?_;intro sv2 h2 c2 f2;simp (disch:=omega)only[go_sem, *];refine kk sv2 _ ?_ (f'.trans (kt.2.trans f2));rw [<- hz];exact c2
   .rw [if_neg hc2] at o4 hz;have kq:=Ec.pop kt.1;have hct:=F5 (n:=r.length) gcs;simp (disch:=omega)only[go_sem, *];refine ih _ _ _ ?_ ⟨r,CF sv' r.length,rfl, ?_⟩
    .simp
    .simp (disch:=omega)only[go_sem, *];exact ⟨kq.1,f'.trans (kt.2.trans kq.2)⟩
  .have hS:S=[]:=by
    match S,hc with
    | [],hc=>rfl
    | p::r,hc=>simp at hc
   subst hS;rw [MV] at hz;simp (disch:=omega)only[go_sem, *];refine kk sv' _ ?_ (f'.trans Cf.put);rw [<- hz];exact Ec.put (c':=⟨[],L.length,0,c.at_⟩) k1 rfl
 .simp (disch:=omega)only[go_sem, *];exact ⟨Ec.put (c':=⟨c.S,c.leaf,0,c.at_⟩) k0 rfl,Cf.put⟩
end Go.Ab.T
namespace Go.Ab.T
open Go Go.Ab
set_option maxHeartbeats 1000000
theorem OQ {h : AH} {id : Nat} {sv : V} {L : List Node} {c : Cs} {K : V -> AH -> Prop} (k : Ec h id sv L c) (hl : L.length <= c.leaf)
    (kk:∀ h',Ak h h'->K (.tup [.agg (AQ.enc ⟨0,0⟩),.b false]) h'):Cq tp So [.p id 0 0] h K:=by
 have kb:=k.blk;have kl:=k.lim_le;have khi:=k.hi;simp only [GR] at kb;refine Aa rC (by simp [Lg]) λwf rp=>?_;unfold Lg;simp (disch:=omega)only[go_sem, *];refine Ad (λhc=>?_) (λhc=>by omega);simp (disch:=omega)only[go_sem, *];exact kk _ (by (repeat (first | exact Ak.refl _ | refine Ak.alloc ?_ _ | (refine Ak.put ?_ _ _ ?_;rotate_left;(first | omega | (simp only [Ac,Ah];omega))))))
theorem Ec.put_other {h:AH} {id:Nat} {sv:V} {L:List Node} {c:Cs} (k:Ec h id sv L c) {j:Nat} {b:BJ} (h1:id≠j) (h3:AA sv=true\/Ap sv≠j):Ec (h.put j b) id sv L c:=by
 refine ⟨by rw [Ae,Af h1];exact k.blk, ?_,k.big,k.sbig,k.lo,k.hi⟩;rcases k.stk with ⟨hv,hR⟩ | ⟨i,el,cap,cs,rfl,hg,q1,q2,q3,q4,q5,q6⟩
 .exact .inl ⟨hv,hR⟩
 .refine .inr ⟨i,el,cap,cs,rfl, ?_,q1,q2,q3,q4,q5,q6⟩;rcases h3 with h3 | h3
  .cases h3
  .rw [Ae,Af (show ¬ i=j from h3)];exact hg
theorem Cf.put_new {h h':AH} {id:Nat} {sv sv':V} {i:Nat} {b:BJ} (f:Cf h id sv h' sv') (hi:h.next<=i):Cf h id sv (h'.put i b) sv':=
 ⟨f.next,f.lim,λj hj hne hs=>by rw [Ae,Af om];exact f.get j hj hne hs,f.own⟩
theorem RP {h : AH} {id : Nat} {sv : V} {L : List Node} {c : Cs} {K : V -> AH -> Prop} (k : Ec h id sv L c) (hl : c.leaf < L.length) (hok : zV L c)
    (kk:∀ sv' h',Ec h' id sv' L (bW L c)->Cf h id sv h' sv'->K (.tup [.agg (AQ.enc ⟨DC (lf L c),(lf L c).n - c.gone⟩),.b true]) h'):Cq tp So [.p id 0 0] h K:=by
 have k0:=k;obtain ⟨o1,o2,o3⟩:=hok;obtain ⟨kb,ks,kbig,ksb,klo,khi⟩:=k;simp only [GR] at kb;unfold lf at o2;refine Aa rC (by simp [Lg]) λwf rp=>?_;unfold Lg;simp (disch:=omega)only[go_sem, *];refine Ad (λhc=>by omega) (λhc=>?_);simp (disch:=omega)only[go_sem, *];refine Pf.go (uJ) (by simp only [go_sem]) λ_=>?_;simp (disch:=omega)only[go_sem, *];refine vP (c:=⟨c.S,c.leaf,c.gone,c.at_+((nth L c.leaf).n - c.gone)⟩) (L:=L) (id:=id) (sv:=sv) ?_ hl o1 ?_
 .have x3:Ak h (((h.alloc ⟨2,[[.i .i64 0,.i .i64 0]]⟩).alloc ⟨2,[[.i .i64 0,.i .i64 0]]⟩).put (h.next+1) ⟨2,[[.i .i64 (DC (nth L c.leaf)),.i .i64 ((nth L c.leaf).n - c.gone)]]⟩):=by (repeat (first | exact Ak.refl _ | refine Ak.alloc ?_ _ | (refine Ak.put ?_ _ _ ?_;rotate_left;(first | omega | (simp only [Ac,Ah];omega)))))
  have k3:=Ec.put (c':=⟨c.S,c.leaf,c.gone,c.at_+((nth L c.leaf).n - c.gone)⟩) (k0.ext x3) rfl;exact k3
 .intro sv4 h4 c4 f4;have sne:=k0.sne;have svlt:AA sv=true\/Ap sv<h.next:=sne.imp (λx=>x) λx=>x.2;have n4:=f4.next;have l4:=f4.lim;have y1:=f4.get (h.next+1) (by simp only [Ah,Ac];omega) om (svlt.imp (λx=>x) (λx=>by omega));have y2:=f4.get h.next (by simp only [Ah,Ac];omega) om (svlt.imp (λx=>x) (λx=>by omega));simp (disch:=omega)only[go_sem] at y1 y2 n4 l4;have i4:=c4.hi;simp (disch:=omega)only[go_sem, *];refine kk sv4 _ (c4.put_other om ?_) ?_
  .rcases f4.own with h1 | ⟨h0,h1⟩ | h1
   .exact .inl h1
   .rcases svlt with h2 | h2
    .rw [h2] at h0;cases h0
    .exact .inr om
   .simp only [Ah,Ac] at h1;exact .inr om
  .refine Cf.put_new ⟨om,l4,λi hi hne hs=>?_, ?_⟩ (Nat.le_refl _)
   .rw [f4.get i (by simp only [Ah,Ac];omega) hne hs];simp (disch:=omega)only[go_sem]
   .rcases f4.own with h1 | h1 | h1
    .exact .inl h1
    .exact .inr (.inl h1)
    .simp only [Ah,Ac] at h1;exact .inr (.inr om)
theorem dA {h : AH} {id : Nat} {sv : V} {f : Fo} {c : Cs} {K : V -> AH -> Prop} (k : Ec h id sv f.flat c) (ho : f.ok) (hc : f.count = 1) (hl : f.len <= 4096)
    (kk:∀ sv' h',Ec h' id sv' f.flat (pW f.flat)->Cf h id sv h' sv'->K (.tup []) h'):Cq tp Sw [.p id 0 0] h K:=by
 have kb:=k.blk;have klo:=k.lo;have hD:=U5 ho hc hl;simp only [GR] at kb;have k2:Ec (h.put id (GR f.flat .ns ⟨[],c.leaf,0,0⟩)) id .ns f.flat ⟨[],c.leaf,0,0⟩:=by
  refine ⟨by rw [Ae,Ar rfl],Sl.nil _ _ _,k.big,by simp,k.lo,k.hi⟩
 have f2:Cf h id sv (h.put id (GR f.flat .ns ⟨[],c.leaf,0,0⟩)) .ns:=⟨Nat.le_refl _,rfl,λi hi hne hs=>by rw [Ae,Af hne],.inl rfl⟩
 refine Aa rL (by simp [Lp]) λwf rp=>?_;unfold Lp;simp (disch:=omega)only[go_sem, *];refine No (a:=0) k2 hD.1 (by have:=hD.1;have:=hD.2.1;simp only;omega) ?_;intro sv3 h3 c3 f3;simp (disch:=omega)only[go_sem, *];exact kk sv3 h3 c3 (f2.trans f3)
structure GO (h h':AH) (L:List Node) (id:Nat) (sv:V) (c:Cs):Prop where
 cur:Ec h' id sv L c
 ext:Ak h h'
 id_:h.next<=id
theorem GO.step {h h1 h2:AH} {L:List Node} {id:Nat} {sv s2:V} {c c2:Cs} (n:GO h h1 L id sv c) (k:Ec h2 id s2 L c2) (f:Cf h1 id sv h2 s2):GO h h2 L id s2 c2:=by
 have x:=n.ext;have:=x.next;have:=f.next;have i1:=n.id_;have sne:=n.cur.sne;refine ⟨k,⟨om,f.lim.trans x.lim,λi hi=>?_⟩,n.id_⟩;rw [f.get i om om (sne.imp (λx=>x) (λx=>by omega)),x.get i hi]
theorem GO.grow {h h1 h2:AH} {L:List Node} {id:Nat} {sv:V} {c:Cs} (n:GO h h1 L id sv c) (x:Ak h1 h2):GO h h2 L id sv c:=
 ⟨n.cur.ext x,n.ext.trans x,n.id_⟩
theorem aNC {h:AH} {L:List Node} {K:V->AH->Prop} (kbad:Bg L≠0->K .np h) (kk:Bg L=0->∀ id sv h',GO h h' L id sv (pW L)->K (.p id 0 0) h'):Cq tp Hd [.fl 3 (L.map Node.enc)] h K:=by
 refine Aa Ue (by simp [Hv]) λwf rp=>?_;unfold Hv;simp (disch:=omega)only[go_sem, *];have hlm:=wf.1;have hL:=rp.head.len;refine Pf.go (HU) (by simp only [go_sem]) λ_=>?_;simp (disch:=omega)only[go_sem, *];refine Ad (λhc=>?_) (λhc=>?_)
 .simp (disch:=omega)only[go_sem, *]
 .have hr:Bg L=0:=by omega
  obtain ⟨hl128,f,ho,hc1,rfl,hdp,hln⟩:=(GJ L).1 hr;simp (disch:=omega)only[go_sem, *];refine Pf.go (HG) (by simp only [go_sem]) λ_=>?_;simp (disch:=omega)only[go_sem, *];have xa:Ak h (h.alloc (GR f.flat .ns ⟨[],0,0,0⟩)):=(Ak.refl h).alloc _;have k4:Ec (h.alloc (GR f.flat .ns ⟨[],0,0,0⟩)) h.next .ns f.flat ⟨[],0,0,0⟩:=
   ⟨by rw [AD,Ar rfl],Sl.nil _ _ _,om,by simp,by rw [Bi];omega,by rw [Ac];omega⟩
  refine dA k4 ho hc1 hln ?_;intro sv5 h5 c5 f5;simp (disch:=omega)only[go_sem, *];have n4:GO h (h.alloc (GR f.flat .ns ⟨[],0,0,0⟩)) f.flat h.next .ns ⟨[],0,0,0⟩:=⟨k4,xa,Nat.le_refl _⟩
  exact kk hr _ _ _ (n4.step c5 f5)
end Go.Ab.T
namespace Go.Ab.T
open Go Go.Ab
def Hi:List AQ->Int->Int
 | [],_=>-1
 | r::l,t=>if t<r.n then r.part else Hi l (t - r.n)
theorem KP {f:Fo} (ho:f.ok) (hc:f.count=1) (hd:f.depth<=16) (hl:f.len<=4096) (hn:f.flat.length<=128):Bg f.flat=0:=(GJ _).2 ⟨hn,f,ho,hc,rfl,hd,hl⟩
theorem cA {α:Type} [Inhabited α] {a:α} {l:List α} {i:Nat}:nth (a::l) (i+1)=nth l i:=by simp [nth]
def Bd (w:List AQ):Prop:=∀ r∈w,1<=r.n
theorem Bd.nth {w:List AQ} (h:Bd w) {i:Nat} (hi:i<w.length):1<=(nth w i).n:=by
 rw [Ba hi];exact h _ (List.getElem_mem _)
theorem Fo.runs_allpos:∀ (f:Fo),f.ok->Bd f.runs
 | .nil,_=>by intro r hr;cases hr
 | .leaf x r,ho=>by
  intro q hq;rcases List.mem_cons.1 hq with rfl | hq
  .exact C5 (by rw [ho.1];omega)
  .exact Fo.runs_allpos r ho.2 q hq
 | .seq x k r,ho=>by
  intro q hq;rcases List.mem_append.1 hq with hq | hq
  .exact Fo.runs_allpos k ho.2.2.2.1 q hq
  .exact Fo.runs_allpos r ho.2.2.2.2 q hq
 | .rep x k r,ho=>by
  intro q hq;rcases List.mem_append.1 hq with hq | hq
  .obtain ⟨l,hl,hq⟩:=List.mem_flatten.1 hq;rw [List.eq_of_mem_replicate hl] at hq;exact Fo.runs_allpos k ho.2.2.2.1 q hq
  .exact Fo.runs_allpos r ho.2.2.2.2 q hq
theorem B7:∀ {w:List AQ},Bd w->0<=AB w
 | [],_=>by simp [AB]
 | r::l,h=>by
  have:=B7 (w:=l) (λq hq=>h q (List.mem_cons_of_mem _ hq));have:=h r (List.mem_cons_self ..);simp only [AB];omega
theorem MX:∀ (w:List AQ) (i:Nat),i<w.length->AB (w.take (i+1))=AB (w.take i)+(nth w i).n
 | [],i,hi=>by simp at hi
 | r::l,0,hi=>by simp [AB,nth]
 | r::l,i+1,hi=>by
  rw [cA,List.take_succ_cons,List.take_succ_cons,AB,AB,MX l i (by simpa using hi)];omega
theorem Oe (w:List AQ) (i:Nat) (h:Bd w):AB (w.take i)<=AB w:=by
 have h1:=congrArg AB (List.take_append_drop i w);rw [CB] at h1;have:=B7 (w:=w.drop i) (λq hq=>h q (List.mem_of_mem_drop hq));omega
theorem JY {a b:Int} (ha:0<=a) (hb:0<=b) (h:a+b<=4611686018427387904):F3 a b=a+b:=by unfold F3;rw [if_neg om];omega
theorem WU {B:List AQ} {q r:AQ} {l:List AQ} (hr:1<=r.n):BB (r::l) (B++[q])=if q.part=r.part then BB l (B++[⟨q.part,F3 q.n r.n⟩]) else BB l (B++[q]++[r]):=by
 have h1:nth (B++[q]) ((B++[q]).length - 1)=q:=by simp [nth,List.getD]
 rw [BB,if_neg om,h1]
 by_cases h:q.part=r.part
 .rw [if_pos ⟨by simp,h⟩,if_pos h,h]
  congr 1
  rw [List.length_append,List.length_singleton,Nat.add_sub_cancel,List.set_append_right _ _ (Nat.le_refl _)];simp
 .rw [if_neg (λhh=>h hh.2),if_neg h]
theorem eS {r:AQ} {l:List AQ} (hr:1<=r.n):BB (r::l) []=BB l [r]:=by
 rw [BB,if_neg om,if_neg (by simp)];rfl
def tk (p:Int):List AQ->Int
 | []=>0
 | r::l=>(if r.part=p then r.n else 0)+tk p l
theorem hG (p:Int):∀ (a b:List AQ),tk p (a++b)=tk p a+tk p b
 | [],b=>by simp [tk]
 | r::l,b=>by simp only [List.cons_append,tk,hG p l b];omega
def Sep:List AQ->Prop
 | []=>True
 | [_]=>True
 | a::b::l=>a.part≠b.part/\Sep (b::l)
theorem PT:∀ {B:List AQ} {q r:AQ},Sep (B++[q])->q.part≠r.part->Sep (B++[q]++[r])
 | [],q,r,_,h=>⟨h,trivial⟩
 | [a],q,r,h1,h=>⟨h1.1,h,trivial⟩
 | a::b::B,q,r,h1,h=>⟨h1.1,PT (B:=b::B) h1.2 h⟩
theorem PQ:∀ {B:List AQ} {q r:AQ},Sep (B++[q])->q.part=r.part->Sep (B++[r])
 | [],q,r,_,h=>trivial
 | [a],q,r,h1,h=>⟨by rw [<- h];exact h1.1,trivial⟩
 | a::b::B,q,r,h1,h=>⟨h1.1,PQ (B:=b::B) h1.2 h⟩
theorem RD {a b:List AQ} (h:Bd (a++b)):Bd a/\Bd b:=⟨λr hr=>h r (List.mem_append_left _ hr),λr hr=>h r (List.mem_append_right _ hr)⟩
theorem Mo {a b:List AQ} (h1:Bd a) (h2:Bd b):Bd (a++b):=λr hr=>by
 rcases List.mem_append.1 hr with hr | hr
 .exact h1 r hr
 .exact h2 r hr
theorem HX {p a b:Int} {l:List AQ} (ha:0<=a) (hb:0<=b):∀ (B:List AQ) (t:Int),Hi (B++⟨p,a+b⟩::l) t=Hi (B++⟨p,a⟩::⟨p,b⟩::l) t
 | [],t=>by
  simp only [List.nil_append,Hi]
  by_cases h1:t<a+b
  .rw [if_pos h1]
   by_cases h2:t<a
   .rw [if_pos h2]
   .rw [if_neg h2,if_pos om]
  .rw [if_neg h1,if_neg om,if_neg om];congr 1;omega
 | r::B,t=>by simp only [List.cons_append,Hi,HX ha hb B]
structure XW (L R:List AQ):Prop where
 pos:Bd R
 sep:Sep R
 sum:AB R=AB L
 tks:∀ p,tk p R=tk p L
 at_:∀ t,Hi R t=Hi L t
 parts:∀ r∈R,∃ q∈L,q.part=r.part
 len:R.length<=L.length
 ne:L≠[]->R≠[]
theorem Oj:∀ (l B:List AQ) (q:AQ),Bd (B++[q])->Bd l->Sep (B++[q])->AB (B++[q])+AB l<=4611686018427387904->XW (B++[q]++l) (BB l (B++[q]))
 | [],B,q,hp,_,hs,_=>by
  rw [BB,List.append_nil];exact ⟨hp,hs,rfl,λ_=>rfl,λ_=>rfl,λr hr=>⟨r,hr,rfl⟩,Nat.le_refl _,λh=>h⟩
 | r::l,B,q,hp,hl,hs,hb=>by
  have hr:=hl r (List.mem_cons_self ..);have hl2:Bd l:=λx hx=>hl x (List.mem_cons_of_mem _ hx);have hq:=hp q (by simp);have hB:=(RD hp).1;have sB:=B7 hB;have sl:=B7 hl2;simp only [AB,CB] at hb;rw [WU hr]
  by_cases h:q.part=r.part
  .rw [if_pos h,JY om om om];have ih:=Oj l B ⟨q.part,q.n+r.n⟩ (Mo hB (λx hx=>by simp at hx;subst hx;simp only;omega)) hl2 (PQ hs rfl) (by simp only [AB,CB];omega);refine ⟨ih.pos,ih.sep,by rw [ih.sum];simp only [AB,CB];omega,λp=>?_,λt=>?_,λx hx=>?_, ?_,λ_=>ih.ne (by simp)⟩
   .rw [ih.tks];simp only [tk,hG,h];split<;>omega
   .rw [ih.at_];have e1:B++[⟨q.part,q.n+r.n⟩]++l=B++⟨q.part,q.n+r.n⟩::l:=by simp
    have e2:B++[q]++r::l=B++⟨q.part,q.n⟩::⟨q.part,r.n⟩::l:=by
     rw [show (⟨q.part,r.n⟩:AQ)=r by cases r;simp_all];simp
    rw [e1,e2];exact HX om om B t
   .obtain ⟨y,hy,he⟩:=ih.parts x hx;rcases List.mem_append.1 hy with hy | hy
    .rcases List.mem_append.1 hy with hy | hy
     .exact ⟨y,by simp [hy],he⟩
     .simp at hy;subst hy;exact ⟨q,by simp,he⟩
    .exact ⟨y,by simp [hy],he⟩
   .have:=ih.len;simp at this ⊢;omega
  .rw [if_neg h];have ih:=Oj l (B++[q]) r (Mo hp (λx hx=>by simp at hx;subst hx;exact hr)) hl2 (PT hs h) (by simp only [AB,CB];omega);have e:B++[q]++[r]++l=B++[q]++r::l:=by simp
   rw [e] at ih;exact ih
theorem Oi {L:List AQ} (hp:Bd L) (hs:AB L<=4611686018427387904):XW L (BB L []):=by
 cases L with
 | nil=>exact ⟨hp,trivial,rfl,λ_=>rfl,λ_=>rfl,λr hr=>⟨r,hr,rfl⟩,Nat.le_refl _,λh=>h⟩
 | cons r l=>
  rw [eS (hp r (List.mem_cons_self ..))];exact Oj l [] r (λx hx=>by simp at hx;subst hx;exact hp _ (List.mem_cons_self ..)) (λx hx=>hp x (List.mem_cons_of_mem _ hx)) trivial (by simpa [AB] using hs)
theorem HR:∀ (L:List AQ) (a:Int),Bd L->0<=a->a+AB L<=4611686018427387904->CU L a=a+AB L
 | [],a,_,_,_=>by simp [CU,AB]
 | r::l,a,hp,ha,hb=>by
  have hr:=hp r (List.mem_cons_self ..);have hl:Bd l:=λx hx=>hp x (List.mem_cons_of_mem _ hx);have:=B7 hl;simp only [AB] at hb ⊢;rw [CU,JY ha om om,HR l _ hl om om];omega
theorem Hn {L:List AQ} (hp:Bd L) (hs:AB L<=4611686018427387904):EB L:=by
 intro i hi;have h1:=MX L i hi;have h2:=Oe L (i+1) hp;have h3:=B7 (w:=L.take i) (λq hq=>hp q (List.mem_of_mem_take hq));omega
end Go.Ab.T
namespace Go.Ab.T
open Go Go.Ab
theorem vT {L:List AQ} (hok:EB L):Pf tp Sp [.fl 2 (L.map AQ.enc)] (.fl 2 ((BB L []).map AQ.enc)):=by
 refine AL rD (by simp [Lh]) λrp=>?_;unfold Lh;simp (disch:=omega)only[go_sem, *];have hL:=rp.head.len;refine Ai (λn e h=>∃ (i:Nat) (out:V) (A:List AQ),n=L.length - i/\h.lim=0/\e 7=.fl 2 (L.map AQ.enc)/\e 8=.i .i64 L.length/\e 9=.i .i64 i/\e 3=out/\i<=L.length/\A.length<=i/\Sl 0 h 2 out (A.map AQ.enc)/\EB A/\BB (L.drop i) A=BB L []) ?_ _ _ _ ⟨0,.ns,[],rfl, ?_⟩
 .rintro n e h ⟨i,out,A,rfl,hl,e7,e8,e9,e3,hi,hA,so,okA,hz⟩ ih;rw [Ao aY2.eq_1];simp (disch:=omega)only[go_sem, *];obtain ⟨olen,obig,olt,olo,oget,oat,orow,ocell,ocells⟩:=so.facts;refine Ad (λhc=>?_) (λhc=>?_)
  .rw [AN om,BB] at hz;have hb:=hok i om;simp (disch:=omega)only[go_sem, *];have x1:Ak h ((h.alloc ⟨2,[[.i .i64 0,.i .i64 0]]⟩).put h.next ⟨2,[[.i .i64 (nth L i).part,.i .i64 (nth L i).n]]⟩):=by (repeat (first | exact Ak.refl _ | refine Ak.alloc ?_ _ | (refine Ak.put ?_ _ _ ?_;rotate_left;(first | omega | (simp only [Ac,Ah];omega)))))
   refine Ad (λhc2=>?_) (λhc2=>?_)
   .rw [if_pos hc2] at hz;simp (disch:=omega)only[go_sem, *];refine ih _ _ _ ?_ ⟨i+1,out,A,rfl, ?_⟩
    .omega
    .simp (disch:=omega)only[go_sem, *]
     ((repeat' refine And.intro ?_ ?_)<;>first | omega | assumption | (exact so.ext x1))
   .rw [if_neg hc2] at hz;simp (disch:=omega)only[go_sem, *];refine Ax (λhc3=>?_) (λhc3=>?_)
    .have hk:((A.length:Int) - 1).toNat=A.length - 1:=by omega
     simp (disch:=omega)only[go_sem, *];refine Ad (λhc4=>?_) (λhc4=>?_)
     .rw [if_pos ⟨om,hc4⟩] at hz;have hA1:=okA (A.length - 1) om;simp (disch:=omega)only[go_sem, *];refine Pf.go (RC hA1 hb) (by simp only [go_sem]) λ_=>?_;simp (disch:=omega)only[go_sem, *];refine ih _ _ _ ?_ ⟨i+1,out,A.set (A.length - 1) ⟨(nth A (A.length - 1)).part,F3 (nth A (A.length - 1)).n (nth L i).n⟩,rfl, ?_⟩
      .omega
      .simp (disch:=omega)only[go_sem, *]
       ((repeat' refine And.intro ?_ ?_)<;>first | omega | assumption | (simp;omega) | (exact Sl.setT so om (by simp (disch:=omega)only[go_sem]<;>omega) (by simp (disch:=omega)only[go_sem, *])) | (refine KR okA ?_;exact Fi.2) | (rw [<- hz,hc4]))
     .simp only [hc4,and_false,reduceIte] at hz;simp (disch:=omega)only[go_sem, *];refine Av (R:=A.map AQ.enc) ((so.ext x1).alloc _) (by simp only [go_sem, *]) (Nat.zero_le _) (by simp;omega) ?_;intro w h4 s4 g4;have hl4:=g4.lim;simp (disch:=omega)only[go_sem, *];refine ih _ _ _ ?_ ⟨i+1,w,A++[nth L i],rfl, ?_⟩
      .omega
      .simp (disch:=omega)only[go_sem, *]
       ((repeat' refine And.intro ?_ ?_)<;>first | omega | assumption | (simp;omega) | (simpa [AQ.enc] using s4) | (exact EZ okA hb))
    .have h0:A.length=0:=by omega
     simp only [h0,Nat.lt_irrefl,false_and,reduceIte] at hz;simp (disch:=omega)only[go_sem, *];refine Av (R:=A.map AQ.enc) ((so.ext x1).alloc _) (by simp only [go_sem, *]) (Nat.zero_le _) (by simp;omega) ?_;intro w h4 s4 g4;have hl4:=g4.lim;simp (disch:=omega)only[go_sem, *];refine ih _ _ _ ?_ ⟨i+1,w,A++[nth L i],rfl, ?_⟩
     .omega
     .simp (disch:=omega)only[go_sem, *]
      ((repeat' refine And.intro ?_ ?_)<;>first | omega | assumption | (simp;omega) | (simpa [AQ.enc] using s4) | (exact EZ okA hb))
  .rw [List.drop_eq_nil_of_le om,BB] at hz;simp (disch:=omega)only[go_sem, *];subst hz;refine Pf.take [Ap out] RH (.cons _ _ _ _ _ (so.froze (λ_=>rfl) (by simp) om) (.nil _)) λ_=>?_;simp (disch:=omega)only[go_sem, *]
 .simp (disch:=omega)only[go_sem, *];exact ⟨Sl.nil _ _ _,λi hi=>by simp at hi⟩
def uC (f:Fo):List AQ:=BB f.runs []
open Classical in
noncomputable def FG (L:List Node):Fo:=if h:∃ f:Fo,f.ok/\f.count=1/\L=f.flat/\f.depth<=16/\f.len<=4096 then h.choose else .nil
theorem Gx {L:List Node} (h:Bg L=0):L.length<=128/\(FG L).ok/\(FG L).count=1/\L=(FG L).flat/\(FG L).depth<=16/\(FG L).len<=4096:=by
 obtain ⟨h1,h2⟩:=(GJ L).1 h;refine ⟨h1, ?_⟩;unfold FG;rw [dif_pos h2];exact h2.choose_spec
noncomputable def FY (L:List Node):List AQ×Int:=if Bg L≠0 then ([],Bg L) else if 96<(uC (FG L)).length then ([],3) else (uC (FG L),0)
theorem JK {L:List Node} (hr:Bg L≠0):FY L=([],Bg L):=if_pos hr
theorem Ga {L:List Node} (hr:Bg L=0):FY L=if 96<(uC (FG L)).length then ([],3) else (uC (FG L),0):=if_neg om
theorem KN {L:List Node}:Pf tp ZT [.fl 3 (L.map Node.enc)] (.tup [.fl 2 ((FY L).1.map AQ.enc),.i .i64 (FY L).2]):=by
 refine AL aMH (by simp [Qs]) λrp=>?_;unfold Qs;simp (disch:=omega)only[go_sem, *];refine Pf.go (Px) (by simp only [go_sem]) λ_=>?_;simp (disch:=omega)only[go_sem, *];refine Ad (λhc=>?_) (λhc=>?_)
 .have e:=JK hc;simp (disch:=omega)only[go_sem, *]
 .have e:=Ga (L:=L) om;obtain ⟨_,ho,hc1,hL,hd,hl⟩:=Gx (L:=L) om;have hap:=Fo.runs_allpos _ ho;have hsum:=Fo.runs_sum _ ho;have hlv:=N1 ho hc1 hl;rw [<- hL] at hlv;clear hL;simp (disch:=omega)only[go_sem, *];refine Pf.go (hlv) (by simp only [go_sem]) λ_=>?_;simp (disch:=omega)only[go_sem, *];refine Pf.go (Tf (Hn hap om)) (by simp only [go_sem]) λ_=>?_;simp (disch:=omega)only[go_sem, *];unfold uC at e;refine Ad (λhc5=>?_) (λhc5=>?_)
  .rw [if_pos om] at e;simp (disch:=omega)only[go_sem, *]
  .rw [if_neg om] at e;simp (disch:=omega)only[go_sem, *]
end Go.Ab.T
namespace Go.Ab.T
open Go Go.Ab
set_option maxHeartbeats 1000000
theorem bX {L:List Node} {c:Cs} {r:AQ} (h:r=⟨DC (lf L c),(lf L c).n - c.gone⟩):(bW L c).at_=c.at_+r.n:=by rw [h];rfl
theorem tY {h0 h : AH} {L : List Node} {id : Nat} {sv : V} {c : Cs} {r : AQ} {l : List AQ} {K : V -> AH -> Prop} (n : GO h0 h L id sv c) (q : Vd L c (r :: l))
    (kk:∀ sv' c' h',GO h0 h' L id sv' c'->Cf h id sv h' sv'->Vd L c' l->c'.at_=c.at_+r.n->K (.tup [.agg r.enc,.b true]) h'):Cq tp So [.p id 0 0] h K:=by
 obtain ⟨q1,q2,q3,q4,q5,q6⟩:=q.cons;refine RP n.cur q1 q2 ?_;intro sv3 h3 c3 f3;rw [<- q3];exact kk sv3 _ h3 (n.step c3 f3) f3 q5 (bX q3)
theorem Pi {h0 h : AH} {L : List Node} {id : Nat} {sv : V} {c : Cs} {K : V -> AH -> Prop} (n : GO h0 h L id sv c) (q : Vd L c [])
    (kk:∀ h',GO h0 h' L id sv c->Ak h h'->K (.tup [.agg (AQ.enc ⟨0,0⟩),.b false]) h'):Cq tp So [.p id 0 0] h K:=
 OQ n.cur (by rw [q.nil];omega) λh3 hx3=>kk h3 (n.grow hx3) hx3
theorem Ec.app {h h4:AH} {id b:Nat} {sv o w:V} {L:List Node} {c:Cs} (k:Ec h id sv L c) (a:Grown b h o w h4) (ho:AA o=true\/(Ap o≠id/\(AA sv=true\/Ap o≠Ap sv))):Ec h4 id sv L c:=by
 have hn:=a.next;refine ⟨by rw [a.get id k.hi (ho.imp (λx=>x) (λx=>x.1.symm))];exact k.blk, ?_,k.big,k.sbig,by rw [a.lim];exact k.lo,by have:=k.hi;omega⟩;rcases k.stk with ⟨hv,hR⟩ | ⟨i,el,cap,cs,rfl,hg,q1,q2,q3,q4,q5,q6⟩
 .exact .inl ⟨hv,hR⟩
 .refine .inr ⟨i,el,cap,cs,rfl, ?_,q1,q2,q3,om,q5,q6⟩;rw [a.get _ q4 ?_];exact hg;rcases ho with h1 | h1
  .exact .inl h1
  .rcases h1.2 with h2 | h2
   .cases h2
   .exact .inr (Ne.symm h2)
def GX (h0:AH) (id:Nat) (sv o:V):Prop:=AA o=true\/(h0.next<=Ap o/\Ap o≠id/\(AA sv=true\/Ap o≠Ap sv))
theorem GX.step {h0 h h':AH} {id:Nat} {sv sv' o:V} (b:GX h0 id sv o) (hl:AA o=true\/Ap o<h.next) (f:Cf h id sv h' sv'):GX h0 id sv' o:=by
 rcases hl with hl | hl
 .exact .inl hl
 rcases b with b | b
 .exact .inl b
 .refine .inr ⟨b.1,b.2.1, ?_⟩;rcases f.own with h1 | ⟨h1,h2⟩ | h1
  .exact .inl h1
  .rcases b.2.2 with h3 | h3
   .rw [h3] at h1;cases h1
   .exact .inr om
  .exact .inr om
theorem GO.app {h0 h h4:AH} {L:List Node} {id b:Nat} {sv o w:V} {c:Cs} (n:GO h0 h L id sv c) (a:Grown b h o w h4) (bs:GX h0 id sv o):GO h0 h4 L id sv c/\GX h0 id sv w:=by
 have hn:=a.next;have x:=n.ext;have:=x.next;refine ⟨⟨n.cur.app a (bs.imp (λx=>x) (λx=>x.2)),⟨om,a.lim.trans x.lim,λi hi=>?_⟩,n.id_⟩, ?_⟩
 .rw [a.get i om (bs.imp (λx=>x) (λx=>by omega)),x.get i hi]
 .rcases a.own with h1 | ⟨h1,h2⟩ | h1
  .exact .inl h1
  .rcases bs with b | b
   .rw [b] at h1;cases h1
   .exact .inr (by rw [h2];exact b)
  .have h3:=n.cur.hi;have h5:=n.cur.sne;exact .inr ⟨om,om,h5.imp (λx=>x) (λx=>by omega)⟩
theorem vK {b sz:Nat} {h0 h h':AH} {id:Nat} {sv sv' o:V} {R:List (List V)} (s:Sl b h sz o R) (bs:GX h0 id sv o) (f:Cf h id sv h' sv'):Sl b h' sz o R:=by
 rcases s with ⟨hv,hR⟩ | ⟨i,el,cap,cs,rfl,hg,q1,q2,q3,q4,q5,q6⟩
 .exact .inl ⟨hv,hR⟩
 .refine .inr ⟨i,el,cap,cs,rfl, ?_,q1,q2,q3, ?_,q5,q6⟩
  .rcases bs with b | b
   .cases b
   .rw [f.get i q4 b.2.1 b.2.2];exact hg
  .have:=f.next;omega
theorem aOB {L:List Node}:Pf tp Sg [.fl 3 (L.map Node.enc)] (.tup [.fl 2 ((FY L).1.map AQ.enc),.i .i64 (FY L).2]):=by
 refine AL qT (by simp [K7]) λrp=>?_;unfold K7;simp (disch:=omega)only[go_sem, *];refine Pf.go (HU) (by simp only [go_sem]) λ_=>?_;simp (disch:=omega)only[go_sem, *];refine Ad (λhc=>?_) (λhc=>?_)
 .have e:=JK hc;simp (disch:=omega)only[go_sem, *]
 have e:=Ga (L:=L) om;obtain ⟨_,ho,hc1,hL,hd,hl⟩:=Gx (L:=L) om;have hap:=Fo.runs_allpos _ ho;have hsum:=Fo.runs_sum _ ho;have hrl:=Fo.runs_len _ ho;have hst:=WM ho hc1 hl;rw [<- hL] at hst;clear hL;unfold uC at e;simp (disch:=omega)only[go_sem, *];refine aNC (λh=>absurd h om) ?_;intro hr0 id sv h3 N3;simp (disch:=omega)only[go_sem, *];refine Ai (λn e h'=>∃ (sv' o:V) (c:Cs) (l A:List AQ),n=l.length/\e 5=o/\e 6=.p id 0 0/\GO AH.emp h' L id sv' c/\Vd L c l/\Sl 0 h' 2 o (A.map AQ.enc)/\GX AH.emp id sv' o/\A++l=(FG L).runs) ?_ _ _ _ ⟨sv,.ns,pW L,(FG L).runs,[],rfl, ?_⟩
 .rintro n e' h' ⟨sv',o,c,l,A,rfl,e5,e6,N,R,so,bo,hz⟩ ih;have nn:=N.ext.next;have ll:=N.ext.lim;simp only [JH] at ll;have olt:=Dw so;rw [Ao bAW.eq_1];simp (disch:=omega)only[go_sem, *]
  match l,R,hz,ih with
  | [],R,hz,ih=>
   refine Pi N R ?_;intro h4 N4 x4;have l4:=N4.ext.lim;simp only [JH] at l4;have xb:Ak h4 ((h4.alloc ⟨2,[[.i .i64 0,.i .i64 0]]⟩).put h4.next ⟨2,[[.i .i64 0,.i .i64 0]]⟩):=by (repeat (first | exact Ak.refl _ | refine Ak.alloc ?_ _ | (refine Ak.put ?_ _ _ ?_;rotate_left;(first | omega | (simp only [Ac,Ah];omega)))))
   have so5:=(so.ext x4).ext xb;obtain rfl:A=(FG L).runs:=by simpa using hz
   clear hz;simp (disch:=omega)only[go_sem, *];have hsz:=so5.facts.big;have hA4:(FG L).runs.length<4000000000:=by omega
   refine Pf.take [Ap o] (vT (Hn hap om)) (.cons _ _ _ _ _ (so5.froze (λ_=>rfl) (by simp) om) (.nil _)) λ_=>?_;simp (disch:=omega)only[go_sem, *];refine Ad (λhc5=>?_) (λhc5=>?_)
   .rw [if_pos om] at e;simp (disch:=omega)only[go_sem, *]
   .rw [if_neg om] at e;simp (disch:=omega)only[go_sem, *]
  | r::l,R,hz,ih=>
   refine tY N R ?_;intro s4 c4 h4 N4 f4 R4 a4;clear a4;have bo4:=bo.step olt f4;have so4:=vK so bo f4;have xb:Ak h4 ((h4.alloc ⟨2,[[.i .i64 0,.i .i64 0]]⟩).put h4.next ⟨2,[[.i .i64 r.part,.i .i64 r.n]]⟩):=by (repeat (first | exact Ak.refl _ | refine Ak.alloc ?_ _ | (refine Ak.put ?_ _ _ ?_;rotate_left;(first | omega | (simp only [Ac,Ah];omega)))))
   have N5:=N4.grow xb;have so5:=so4.ext xb;have hzl:=congrArg List.length hz;simp only [List.length_append,List.length_cons] at hzl;have l5:=N4.ext.lim;simp only [JH] at l5;simp (disch:=omega)only[go_sem, *];refine Av (so5.alloc _) (by simp only [go_sem, *]) (Nat.zero_le _) (by simp;omega) ?_;intro w h6 s6 a6;have a7:=NB a6 ((Ak.refl _).alloc _) (Nat.zero_le _);obtain ⟨N6,b6⟩:=N5.app a7 bo4;simp (disch:=omega)only[go_sem, *];refine ih _ _ _ ?_ ⟨s4,w,c4,l,A++[r],rfl, ?_⟩
   .simp
   .simp (disch:=omega)only[go_sem, *];exact ⟨by simpa [AQ.enc] using s6,by rw [<- hz];simp⟩
 .simp (disch:=omega)only[go_sem, *];exact ⟨Sl.nil _ _ _,.inl rfl⟩
end Go.Ab.T
