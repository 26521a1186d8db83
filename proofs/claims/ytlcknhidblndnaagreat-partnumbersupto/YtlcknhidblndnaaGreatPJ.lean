/- Part of a proof that a law returns true for every input of the second form's bound (no other condition). -/
import Derived.Test.YtlcknhidblndnaaGreatPI
import Derived.Test.YtlcknhidblndnaaGreatPH
set_option linter.all false
namespace Go.Ab.T
open Go Go.Ab
set_option maxHeartbeats 8000000
/-! The document's partition in memory. -/
def Ci (z:ST×PR):List V:=.i .i64 z.1.pc::(z.1.r.map (V.i .u32)++[.i .i64 z.2.wake,.b z.2.ended])
section
variable {x:ST} {y:PR} (h:x.r.length=8)
include h
theorem Ff:(Ci (x,y)).length=11:=by unfold Ci;simp [h]
theorem Bq {i:Nat} (hi:i<8):(Ci (x,y))[1+i]?=some (.i .u32 (nth x.r i)):=by
 unfold Ci;rw [Nat.add_comm,List.getElem?_cons_succ,List.getElem?_append_left (by simp;omega),List.getElem?_map,Dq (by show i<x.r.length;omega)];rfl
theorem iE:Ci (x,y)=[.i .i64 x.pc,.i .u32 (nth x.r 0),.i .u32 (nth x.r 1),.i .u32 (nth x.r 2),.i .u32 (nth x.r 3),.i .u32 (nth x.r 4),.i .u32 (nth x.r 5),.i .u32 (nth x.r 6),.i .u32 (nth x.r 7),.i .i64 y.wake,.b y.ended]:=by
 unfold Ci;rw [tK h];rfl
theorem JP {i:Nat} {v:Int} (hi:i<8):(Ci (x,y)).set (1+i) (.i .u32 v)=Ci (⟨x.r.set i v,x.pc⟩,y):=by
 unfold Ci;rw [Nat.add_comm,List.set_cons_succ,List.set_append_left _ _ (by simp;omega),List.map_set]
theorem zM {v:Int}:(Ci (x,y)).set 9 (.i .i64 v)=Ci (x,{ y with wake:=v }):=by
 unfold Ci;rw [List.set_cons_succ,List.set_append_right _ _ (by simp;omega)];simp [h]
theorem iG {v:Bool}:(Ci (x,y)).set 10 (.b v)=Ci (x,{ y with ended:=v }):=by
 unfold Ci;rw [List.set_cons_succ,List.set_append_right _ _ (by simp;omega)];simp [h]
end
theorem aZk {x:ST} {y:PR}:(Ci (x,y))[0]?=some (.i .i64 x.pc):=rfl
theorem JO {x:ST} {y:PR} {v:Int}:(Ci (x,y)).set 0 (.i .i64 v)=Ci (⟨x.r,v⟩,y):=rfl
def AI (c:PC) (a f:V) (mem:List Int) (clk:Int) (st:Bool):List V:=[.fl 11 (c.c.parts.map Part.enc),.fl 6 (c.c.chans.map AU.enc),.fl 1 (c.c.tables.map Tab.enc),.i .i64 c.p,.fl 1 (c.prog.map CJ),.fl 1 (c.ins.map CL),a]++(mem.map (V.i .u32)++[.i .i64 clk,f,.b st])
section
variable {c:PC} {a a' f f':V} {mem:List Int} {clk clk':Int} {st st':Bool}
theorem AI.f0:(AI c a f mem clk st)[0]?=some (.fl 11 (c.c.parts.map Part.enc)):=rfl
theorem AI.f1:(AI c a f mem clk st)[1]?=some (.fl 6 (c.c.chans.map AU.enc)):=rfl
theorem AI.f3:(AI c a f mem clk st)[3]?=some (.i .i64 c.p):=rfl
theorem AI.f4:(AI c a f mem clk st)[4]?=some (.fl 1 (c.prog.map CJ)):=rfl
theorem AI.f5:(AI c a f mem clk st)[5]?=some (.fl 1 (c.ins.map CL)):=rfl
theorem AI.f6:(AI c a f mem clk st)[6]?=some a:=rfl
theorem AI.s6:(AI c a f mem clk st).set 6 a'=AI c a' f mem clk st:=rfl
section
variable (h:mem.length=16)
include h
theorem AI.len:(AI c a f mem clk st).length=26:=by unfold AI;simp [h]
theorem AI.f23:(AI c a f mem clk st)[23]?=some (.i .i64 clk):=by
 unfold AI;rw [List.getElem?_append_right (by simp),List.getElem?_append_right (by simp [h])];simp [h]
theorem AI.f24:(AI c a f mem clk st)[24]?=some f:=by
 unfold AI;rw [List.getElem?_append_right (by simp),List.getElem?_append_right (by simp [h])];simp [h]
theorem AI.f25:(AI c a f mem clk st)[25]?=some (.b st):=by
 unfold AI;rw [List.getElem?_append_right (by simp),List.getElem?_append_right (by simp [h])];simp [h]
theorem AI.s23:(AI c a f mem clk st).set 23 (.i .i64 clk')=AI c a f mem clk' st:=by
 unfold AI;rw [List.set_append_right _ _ (by simp),List.set_append_right _ _ (by simp [h])];simp [h]
theorem AI.s24:(AI c a f mem clk st).set 24 f'=AI c a f' mem clk st:=by
 unfold AI;rw [List.set_append_right _ _ (by simp),List.set_append_right _ _ (by simp [h])];simp [h]
theorem AI.s25:(AI c a f mem clk st).set 25 (.b st')=AI c a f mem clk st':=by
 unfold AI;rw [List.set_append_right _ _ (by simp),List.set_append_right _ _ (by simp [h])];simp [h]
theorem AI.fm {j:Nat} (hj:j<16):(AI c a f mem clk st)[7+j]?=some (.i .u32 (nth mem j)):=by
 unfold AI;rw [List.getElem?_append_right (by simp),List.getElem?_append_left (by simp;omega),List.getElem?_map];have e:7+j - 7=j:=by omega
 simp only [List.length_cons,List.length_nil,Nat.zero_add];rw [e,Dq om];rfl
theorem AI.sm {j:Nat} {v:Int} (hj:j<16):(AI c a f mem clk st).set (7+j) (.i .u32 v)=AI c a f (mem.set j v) clk st:=by
 unfold AI;rw [List.set_append_right _ _ (by simp),List.set_append_left _ _ (by simp;omega),List.map_set];have e:7+j - 7=j:=by omega
 simp only [List.length_cons,List.length_nil,Nat.zero_add];rw [e]
end
end
structure PH (c:PC):Prop where
 g:PG c
 h0:c.h0=(nth c.c.parts c.p).h0
 h1:c.h1=(nth c.c.parts c.p).h1
 h2:c.h2=(nth c.c.parts c.p).h2
 h3:c.h3=(nth c.c.parts c.p).h3
 h4:c.h4=(nth c.c.parts c.p).h4
structure WA (b:Nat) (h:AH) (wp:Nat) (a f:V) (c:PC) (s:PS):Prop where
 gp:h.get wp=some ⟨26,[AI c a f s.mem s.clk s.halt]⟩
 sa:Sl b h 11 a ((s.all.zip s.procs).map Ci)
 sf:Sl b h 3 f (s.fl.map FT.enc)
 lim:h.lim<=b
 bp:b<=wp/\wp<h.next
 da:Ap a≠wp
 df:AA f=true\/(Ap f≠wp/\Ap f≠Ap a)
 l1:1<=s.procs.length/\s.procs.length<=3
 l2:s.all.length=s.procs.length
 l3:s.mem.length=16
 l4:∀ x∈s.all,x.r.length=8/\Ej x.r
 l5:Ej s.mem
 l6:s.fl.length<=s.clk+1/\0<=s.clk/\s.clk<3000000000
 pl:(nth c.c.parts c.p).procs.length=s.procs.length
 pr:∀ i,i<s.procs.length->(nth s.procs i).prio=(nth (nth c.c.parts c.p).procs i).prio
def GZ (wp:Nat) (a f:V) (j:Nat):Prop:=j=wp\/j=Ap a\/(AA f=false/\j=Ap f)
section
variable {b wp i:Nat} {h h':AH} {a f a' f':V} {c:PC} {s:PS} {J:Nat->Prop} {K:V->AH->Prop}
theorem GN (h2:s.all.length=s.procs.length) (hi:i<s.procs.length):nth (s.all.zip s.procs) i=(nth s.all i,nth s.procs i):=by
 rw [Ba (by simp;omega),Ba om,Ba hi,List.getElem_zip]
theorem WA.nil (k:WA b h wp a f c s):AA a=false:=by
 have l1:=k.l1.1;have l2:=k.l2;rcases k.sa with ⟨_,z⟩ | ⟨_,_,_,_,rfl,_⟩
 .have:=congrArg List.length z;rw [List.length_map,List.length_zip] at this;simp only [List.length_nil] at this;omega
 .rfl
theorem WA.low (k:WA b h wp a f c s):∀ j,GZ wp a f j->b<=j/\j<h.next:=by
 have n:=k.nil;rintro j (rfl | rfl | ⟨q,rfl⟩)
 .exact k.bp
 .exact ⟨(Au k.sa).resolve_left (by rw [n];decide),(E2 k.sa).resolve_left (by rw [n];decide)⟩
 .exact ⟨(Au k.sf).resolve_left (by rw [q];decide),(E2 k.sf).resolve_left (by rw [q];decide)⟩
theorem WA.keep (k:WA b h wp a f c s) (x:Wr h J h') (hJ:∀ j,GZ wp a f j->¬ J j):WA b h' wp a f c s:=by
 refine ⟨(x.get _ k.bp.2 (hJ _ (.inl rfl))).trans k.gp,BZ k.sa x (.inr (hJ _ (.inr (.inl rfl)))),BZ k.sf x ?_,by rw [x.lim];exact k.lim,⟨k.bp.1,Nat.lt_of_lt_of_le k.bp.2 x.next⟩,k.da,k.df,k.l1,k.l2,k.l3,k.l4,k.l5,k.l6,k.pl,k.pr⟩
 cases q:AA f with
 | true=>exact .inl rfl
 | false=>exact .inr (hJ _ (.inr (.inr ⟨q,rfl⟩)))
theorem WA.ext (k:WA b h wp a f c s) (x:Ak h h'):WA b h' wp a f c s:=k.keep (J:=λ_=>False) (Wr.refl.ext x) (λ_ _ e=>e)
theorem zQ {K : Ex -> Env -> AH -> Prop} {e : Env} {g0 : AH} (k : WA b g0 wp a f c s) (hg : ∀ j, h.get j = g0.get j) (hn : h.next = g0.next) (hlim : h.lim <= h.next) (g : PG c) (e0 : e 0 = .p wp 0 0) (e3 : e 3 = .i .i64 (-1)) (e10 : e 10 = a) (e11 : e 11 = .i .i64 s.procs.length) (e12 : e 12 = .i .i64 0)
    (kk:∀ e' h',Ak h h'->e' 3=.i .i64 (DD s.procs s.clk)->K (.ex 0) e' h'):ZC tp (.loop bAI) e h K:=by
 have gp:=(hg _).trans k.gp;have bp:b<=wp/\wp<h.next:=by rw [hn];exact k.bp
 have ksa:Sl b h 11 a ((s.all.zip s.procs).map Ci):=k.sa.same (Nat.le_of_eq hn.symm) (λ_=>hg _);have hp:=g.p;have l1:=k.l1;have l2:=k.l2;have pl:=k.pl;have f0:=AI.f0 (c:=c) (a:=a) (f:=f) (mem:=s.mem) (clk:=s.clk) (st:=s.halt);have f3:=AI.f3 (c:=c) (a:=a) (f:=f) (mem:=s.mem) (clk:=s.clk) (st:=s.halt);have f23:=AI.f23 (c:=c) (a:=a) (f:=f) (clk:=s.clk) (st:=s.halt) k.l3;have rl:=AI.len (c:=c) (a:=a) (f:=f) (clk:=s.clk) (st:=s.halt) k.l3;obtain ⟨_,_,alt,_,aget,aat,arow,_,_⟩:=ksa.facts;have zl:(s.all.zip s.procs).length=s.procs.length:=by simp;omega
 rw [zl] at alt aget aat arow;have alt:=alt om;have aget:=aget om;have key:∀ i,i<s.procs.length->(AP h a)[Ca a+i]?=some [.i .i64 (nth s.all i).pc,.i .u32 (nth (nth s.all i).r 0),.i .u32 (nth (nth s.all i).r 1),.i .u32 (nth (nth s.all i).r 2),.i .u32 (nth (nth s.all i).r 3),.i .u32 (nth (nth s.all i).r 4),.i .u32 (nth (nth s.all i).r 5),.i .u32 (nth (nth s.all i).r 6),.i .u32 (nth (nth s.all i).r 7),.i .i64 (nth s.procs i).wake,.b (nth s.procs i).ended]:=λi hi=>by rw [arow i hi,GN l2 hi,iE (k.l4 _ (Az (L:=s.all) (j:=i) om)).1]
 have pr:=k.pr;rw [<- cJ] at kk;clear arow k ksa hg;refine Ai (λm e hh=>∃ (i:Nat) (bs:Int),m=s.procs.length - i/\i<=s.procs.length/\Ak h hh/\(bs = -1\/∃ r:Nat,bs=r/\r<i)/\HZ s.procs s.clk (s.procs.drop i) i bs=HZ s.procs s.clk s.procs 0 (-1)/\e 0=.p wp 0 0/\e 3=.i .i64 bs/\e 10=a/\e 11=.i .i64 s.procs.length/\e 12=.i .i64 i) ?_ _ _ _ ⟨0,-1,rfl,om,Ak.refl _,.inl rfl,rfl,e0,e3,e10,e11,e12⟩;clear e0 e3 e10 e11 e12 e;rintro m e hh ⟨i,bs,rfl,hi,x,hb,hL,e0,e3,e10,e11,e12⟩ ih;have xn:=x.next;have xl:=x.lim;have gp:=(x.get _ bp.2).trans gp;have aget:=(x.get _ alt).trans aget;rw [Ao bAI.eq_1];simp (disch:=omega)only[go_sem, *];refine Ad (λhc=>?_) (λhc=>?_)
 .have hi2:i<s.procs.length:=by omega
  have key:=key i hi2;have aat:=λcs=>aat .i64 i cs om om;simp only [Int.toNat_natCast] at aat
  have pri:=(pr i hi2).symm;have z1:¬ (c.c.parts.length:Int)<=c.p:=by omega
  rw [AN hi2,HZ] at hL;have fin:∀ {e':Env} {h':AH} (bs':Int),bs'=(if (nth s.procs i).ended=false/\(nth s.procs i).wake<=s.clk/\(bs<0\/(nth s.procs i).prio<(nth s.procs bs.toNat).prio) then (i:Int) else bs)->(bs' = -1\/∃ r:Nat,bs'=r/\r<i+1)->Ak h h'->e' 0=.p wp 0 0->e' 3=.i .i64 bs'->e' 10=a->e' 11=.i .i64 s.procs.length->e' 12=.i .i64 ((i+1:Nat):Int)->ZC tp (.loop bAI) e' h' K:=λbs' hbs hb' x' g0 g3 g10 g11 g12=>ih _ _ _ om ⟨i+1,bs',rfl,om,x',hb',by rw [hbs];exact hL,g0,g3,g10,g11,g12⟩;have same:bs = -1\/∃ r:Nat,bs=r/\r<i+1:=hb.imp (λz=>z) (λ⟨r,z1,z2⟩=>⟨r,z1,om⟩);clear ih kk hL
  cases he:(nth s.procs i).ended with
  | true=>
   have fin:=λ{e' h'}=>fin (e':=e') (h':=h') bs (by rw [if_neg (by rw [he];simp)]) same;rw [he] at key;clear pr;simp (disch:=omega)only[go_sem, *];refine fin (x.trans (by (repeat (first | exact Ak.refl _ | refine Ak.alloc ?_ _ | (refine Ak.put ?_ _ _ ?_;rotate_left;(first | omega | (simp only [Ac,Ah];omega))))))) ?_ ?_ ?_ ?_ ?_
   all_goals (clear fin;simp (disch:=omega)only[go_sem, *])
  | false=>
   rw [he] at key
   by_cases hw:(nth s.procs i).wake<=s.clk
   .rcases hb with rfl | ⟨r,rfl,hr⟩
    .have fin:=λ{e' h'}=>fin (e':=e') (h':=h') i (by rw [if_pos ⟨he,hw,.inl (by decide)⟩]) (.inr ⟨i,rfl,Nat.lt_succ_self _⟩);clear pr;simp (disch:=omega)only[go_sem, *];refine fin (x.trans (by (repeat (first | exact Ak.refl _ | refine Ak.alloc ?_ _ | (refine Ak.put ?_ _ _ ?_;rotate_left;(first | omega | (simp only [Ac,Ah];omega))))))) ?_ ?_ ?_ ?_ ?_
     all_goals (clear fin;simp (disch:=omega)only[go_sem, *])
    .have pri2:=(pr r om).symm;have zr:¬ (r:Int)<0:=by omega
     clear pr
     by_cases hp:(nth s.procs i).prio<(nth s.procs r).prio
     .have fin:=λ{e' h'}=>fin (e':=e') (h':=h') i (by rw [if_pos ⟨he,hw,.inr (by rw [Int.toNat_natCast];exact hp)⟩]) (.inr ⟨i,rfl,Nat.lt_succ_self _⟩);simp (disch:=omega)only[go_sem, *];refine fin (x.trans (by (repeat (first | exact Ak.refl _ | refine Ak.alloc ?_ _ | (refine Ak.put ?_ _ _ ?_;rotate_left;(first | omega | (simp only [Ac,Ah];omega))))))) ?_ ?_ ?_ ?_ ?_
      all_goals (clear fin;simp (disch:=omega)only[go_sem, *])
     .have fin:=λ{e' h'}=>fin (e':=e') (h':=h') r (by rw [if_neg (by rw [Int.toNat_natCast];rintro ⟨_,_,q | q⟩;exact zr q;exact hp q)]) same;simp (disch:=omega)only[go_sem, *];refine fin (x.trans (by (repeat (first | exact Ak.refl _ | refine Ak.alloc ?_ _ | (refine Ak.put ?_ _ _ ?_;rotate_left;(first | omega | (simp only [Ac,Ah];omega))))))) ?_ ?_ ?_ ?_ ?_
      all_goals (clear fin;simp (disch:=omega)only[go_sem, *])
   .have fin:=λ{e' h'}=>fin (e':=e') (h':=h') bs (by rw [if_neg (λz=>hw z.2.1)]) same;clear pr;simp (disch:=omega)only[go_sem, *];refine fin (x.trans (by (repeat (first | exact Ak.refl _ | refine Ak.alloc ?_ _ | (refine Ak.put ?_ _ _ ?_;rotate_left;(first | omega | (simp only [Ac,Ah];omega))))))) ?_ ?_ ?_ ?_ ?_
    all_goals (clear fin;simp (disch:=omega)only[go_sem, *])
 .obtain rfl:i=s.procs.length:=by omega
  rw [List.drop_length,HZ] at hL;rw [<- hL] at kk;clear ih hL;simp (disch:=omega)only[go_sem, *];refine kk _ hh x ?_;clear kk;simp (disch:=omega)only[go_sem, *]
theorem iJ {g0:AH} (k:WA b g0 wp a f c s) (hg:∀ j,h.get j=g0.get j) (hn:h.next=g0.next) (hlim:h.lim<=h.next) (g:PG c) (kk:∀ h',Ak h h'->K (.i .i64 (DD s.procs s.clk)) h'):Cq tp Z7 [.p wp 0 0] h K:=by
 have gp:=(hg _).trans k.gp;have l2:=k.l2;have f6:=AI.f6 (c:=c) (a:=a) (f:=f) (mem:=s.mem) (clk:=s.clk) (st:=s.halt);have rl:=AI.len (c:=c) (a:=a) (f:=f) (clk:=s.clk) (st:=s.halt) k.l3;have al:=k.sa.facts.1;have zl:(s.all.zip s.procs).length=s.procs.length:=by simp;omega
 rw [zl] at al;have pk:=λ{K:Ex->Env->AH->Prop} {e:Env}=>zQ (K:=K) (e:=e) k hg hn hlim g;clear hg hn k;refine Aa aM1 (by simp [QM]) λwf rp=>?_;unfold QM;simp (disch:=omega)only[go_sem, *];refine pk ?_ ?_ ?_ ?_ ?_ ?_
 rotate_right 1
 .clear pk;intro e' h' x e3;have f:=kk h' x;clear kk x;simp (disch:=omega)only[go_sem, *]
 all_goals simp (disch:=omega)only[go_sem, *]
end
end Go.Ab.T
namespace Go.Ab.T
open Go Go.Ab
set_option maxHeartbeats 8000000
def w0 (x:Bl):List V:=[.i .i64 x.entry,.i .u32 0,.i .u32 0,.i .u32 0,.i .u32 0,.i .u32 0,.i .u32 0,.i .u32 0,.i .u32 0,.i .i64 0,.b false]
theorem Tz:∀ {L:List Bl} {P:List PR},L.length=P.length->((Ip L).zip (Be P)).map Ci=L.map w0
 | [],[],_=>rfl
 | x::L,y::P,h=>by
  have:=Tz (L:=L) (P:=P) (by simpa using h);unfold Ip Be at this ⊢;simp only [List.map_cons,List.zip_cons_cons,this];rfl
section
variable {c:PC} {a f:V} {mem:List Int} {clk:Int} {st:Bool}
theorem aZm (hm:mem.length=16):((((((((((((((((AI c a f mem clk st).set 7 (.i .u32 0)).set 8 (.i .u32 0)).set 9 (.i .u32 0)).set 10 (.i .u32 0)).set 11 (.i .u32 0)).set 12 (.i .u32 0)).set 13 (.i .u32 0)).set 14 (.i .u32 0)).set 15 (.i .u32 0)).set 16 (.i .u32 0)).set 17 (.i .u32 0)).set 18 (.i .u32 0)).set 19 (.i .u32 0)).set 20 (.i .u32 0)).set 21 (.i .u32 0)).set 22 (.i .u32 0)=AI c a f (List.replicate 16 0) clk st:=by
 have e:∀ (m:List Int) (j:Nat),m.length=16->j<16->(AI c a f m clk st).set (7+j) (.i .u32 0)=AI c a f (m.set j 0) clk st:=λm j h hj=>AI.sm h hj;rw [<- aY6 mem hm];rw [e mem 0 hm (by decide),e _ 1 (by simp [hm]) (by decide),e _ 2 (by simp [hm]) (by decide),e _ 3 (by simp [hm]) (by decide),e _ 4 (by simp [hm]) (by decide),e _ 5 (by simp [hm]) (by decide),e _ 6 (by simp [hm]) (by decide),e _ 7 (by simp [hm]) (by decide),e _ 8 (by simp [hm]) (by decide),e _ 9 (by simp [hm]) (by decide),e _ 10 (by simp [hm]) (by decide),e _ 11 (by simp [hm]) (by decide),e _ 12 (by simp [hm]) (by decide),e _ 13 (by simp [hm]) (by decide),e _ 14 (by simp [hm]) (by decide),e _ 15 (by simp [hm]) (by decide)]
end
section
variable {b wp:Nat} {h:AH} {a f:V} {c:PC} {L:List Bl} {mem:List Int} {clk:Int} {st:Bool}
theorem iD {K : Ex -> Env -> AH -> Prop} {e : Env} {h1 : AH} (hL : L.length <= 3) (gp : h1.get wp = some ⟨26, [AI c .ns f mem clk st]⟩) (hm : mem.length = 16) (hpn : wp < h1.next) (hlp : h1.lim <= wp) (e0 : e 0 = .p wp 0 0) (e22 : e 22 = .fl 2 (L.map Bl.enc)) (e23 : e 23 = .i .i64 L.length) (e24 : e 24 = .i .i64 0)
    (kk:∀ (e:Env) (h':AH) (a:V),Wr h1 (·=wp) h'->h'.get wp=some ⟨26,[AI c a f mem clk st]⟩->Sl h1.next h' 11 a (L.map w0)->K (.ex 0) e h'):ZC tp (.loop aU9) e h1 K:=by
 refine Ai (λn' e hh=>∃ (i:Nat) (a:V),n'=L.length - i/\Wr h1 (·=wp) hh/\hh.get wp=some ⟨26,[AI c a f mem clk st]⟩/\Sl h1.next hh 11 a ((L.take i).map w0)/\e 0=.p wp 0 0/\e 22=.fl 2 (L.map Bl.enc)/\e 23=.i .i64 L.length/\e 24=.i .i64 i/\i<=L.length) ?_ _ _ _ ⟨0,.ns,rfl,Wr.refl,gp,Sl.nil _ _ _,e0,e22,e23,e24,om⟩;clear e0 e22 e23 e24 gp e;rintro n' e hh ⟨i,a,rfl,x,gp,s,e0,e22,e23,e24,hi⟩ ih;have hlm:=x.lim;have hnx:=x.next;have hsv:=Sl.sameV s;have hown:=Au s;obtain ⟨_,_,_,_,_,_,_,sc1,sc2⟩:=s.facts;have f6:=AI.f6 (c:=c) (a:=a) (f:=f) (mem:=mem) (clk:=clk) (st:=st);have rl:=AI.len (c:=c) (a:=a) (f:=f) (clk:=clk) (st:=st) hm;rw [Ao aU9.eq_1];simp (disch:=omega)only[go_sem, *];refine Ad (λhc=>?_) (λhc=>?_)
 .have hN:(L.take (i+1)).map w0=(L.take i).map w0++[w0 (nth L i)]:=by rw [Db om,List.map_append];rfl
  have hln:(L.take i).length=i:=by rw [List.length_take];omega
  have X1:Ak hh (((hh.alloc ⟨2,[[.i .i64 0,.i .i64 0]]⟩).put hh.next ⟨2,[[.i .i64 (nth L i).entry,.i .i64 (nth L i).prio]]⟩).alloc ⟨11,[w0 (nth L i)]⟩):=by (repeat (first | exact Ak.refl _ | refine Ak.alloc ?_ _ | (refine Ak.put ?_ _ _ ?_;rotate_left;(first | omega | (simp only [Ac,Ah];omega)))))
  unfold w0 at X1;clear kk;simp (disch:=omega)only[go_sem, *];refine Av (N:=[w0 (nth L i)]) (s.ext X1) ?_ ?_ ?_ ?_
  .simp (disch:=omega)only[go_sem, *]<;>omega
  .simp (disch:=omega)only[go_sem, *]<;>omega
  .simp;omega
  intro v h4 s4 g4;obtain ⟨k1,k2,k3,k4⟩:=Gy (bx:=wp) X1 g4 s4 om (hown.imp (λz=>z) (λz=>by omega));have gp4:=k1.trans gp;have s6:=AI.s6 (c:=c) (a:=a) (f:=f) (mem:=mem) (clk:=clk) (st:=st) (a':=v);have s5:Sl h1.next (h4.put wp ⟨26,[AI c v f mem clk st]⟩) 11 v ((L.take (i+1)).map w0):=by
   rw [hN];exact AC s4 _ _ (.inr (λe=>k2 e.symm))
  have x5:Wr h1 (·=wp) (h4.put wp ⟨26,[AI c v f mem clk st]⟩):=by
   refine Wr.put ?_ (.inr rfl);exact ⟨om,k4.trans hlm,λj hj hne=>(g4.low j hj).trans ((X1.get j om).trans (x.get j hj hne))⟩
  have c1:=g4.cell;have c2:=g4.cells;clear X1 g4 s4 s x hN k1;simp (disch:=omega)only[go_sem, *];refine ih _ _ _ ?_ ⟨i+1,v,rfl,x5,by rw [Ae,Ar rfl],s5, ?_⟩
  .omega
  .clear ih s5 x5;simp (disch:=omega)only[go_sem, *]
   all_goals omega
 .obtain rfl:i=L.length:=by omega
  rw [List.take_length] at s;clear ih;simp (disch:=omega)only[go_sem, *]
theorem Ew {K : V -> AH -> Prop} (gp : h.get wp = some ⟨26, [AI c a f mem clk st]⟩) (hm : mem.length = 16) (hl : h.lim <= wp) (np : wp < h.next) (g : PG c)
    (kk:∀ h' a',Wr h (·=wp) h'->h'.get wp=some ⟨26,[AI c a' f (List.replicate 16 0) clk st]⟩->Sl h.next h' 11 a' ((nth c.c.parts c.p).procs.map w0)->K (.tup []) h'):Cq tp Z6 [.p wp 0 0] h K:=by
 have rl:=λa m hm=>AI.len (c:=c) (a:=a) (f:=f) (mem:=m) (clk:=clk) (st:=st) hm;have s6:=AI.s6 (c:=c) (a:=a) (f:=f) (mem:=mem) (clk:=clk) (st:=st) (a':=.ns);have wp7:=aZm (c:=c) (a:=.ns) (f:=f) (mem:=mem) (clk:=clk) (st:=st) hm;rw [show List.replicate 16 (0:Int)=[0,0,0,0,0,0,0,0,0,0,0,0,0,0,0,0] from rfl] at wp7;have f0:=AI.f0 (c:=c) (a:=.ns) (f:=f) (mem:=[0,0,0,0,0,0,0,0,0,0,0,0,0,0,0,0]) (clk:=clk) (st:=st);have f3:=AI.f3 (c:=c) (a:=.ns) (f:=f) (mem:=[0,0,0,0,0,0,0,0,0,0,0,0,0,0,0,0]) (clk:=clk) (st:=st);have r1:=rl a mem hm;have r2:=rl .ns mem hm;have r3:=rl .ns [0,0,0,0,0,0,0,0,0,0,0,0,0,0,0,0] rfl;have hp:=g.p;have hL:=g.l.2;clear rl;refine Aa aM0 (by simp [QL]) λwf rp=>?_;unfold QL;simp (disch:=omega)only[go_sem, *];refine iD (wp:=wp) (c:=c) (f:=f) (mem:=[0,0,0,0,0,0,0,0,0,0,0,0,0,0,0,0]) (clk:=clk) (st:=st) hL ?_ rfl ?_ ?_ ?_ ?_ ?_ ?_ ?_
 rotate_right 1
 .intro e h2 a2 x2 g2 s2;have z:=kk h2 a2 (Wr.trans (Wr.refl.put (.inr rfl)) x2 (λj _ e=>e)) g2 s2;clear kk x2 g2 s2;simp (disch:=omega)only[go_sem, *]
 all_goals simp (disch:=omega)only[go_sem, *]
end
end Go.Ab.T
namespace Go.Ab.T
open Go Go.Ab
set_option maxHeartbeats 8000000
structure Wt (wp:Nat) (h:AH) (a f:V) (h':AH) (a' f':V):Prop where
 w:Wr h (GZ wp a f) h'
 i:∀ j,GZ wp a' f' j->GZ wp a f j\/h.next<=j
section
variable {b wp i:Nat} {h h' h2:AH} {a f a' f' a2 f2:V} {c:PC} {s:PS} {K:V->AH->Prop} {t k:Int}
theorem Wt.trans (x:Wt wp h a f h' a' f') (y:Wt wp h' a' f' h2 a2 f2):Wt wp h a f h2 a2 f2:=by
 have n:=x.w.next;exact ⟨x.w.trans y.w (λj hj e=>(x.i j e).elim (λz=>z) (λz=>by omega)),λj e=>(y.i j e).elim (x.i j) (λz=>.inr om)⟩
theorem Wt.same (x:Wr h (GZ wp a f) h'):Wt wp h a f h' a f:=⟨x,λ_ e=>.inl e⟩
theorem aLS (g:PH c) (h1:1<=k) (h5:k<=5) {x:Part} (hx:nth c.c.parts c.p=x):c.act k=(if k=1 then B9 x.h0 else if k=2 then B9 x.h1 else if k=3 then B9 x.h2 else if k=4 then B9 x.h3 else B9 x.h4):=by
 subst hx;unfold PC.act GP;rw [g.h0,g.h1,g.h2,g.h3,g.h4]
 repeat' split
 all_goals first | rfl | omega
theorem Eo {k:BJ} (hne:Ap a≠wp):AP (h.put wp k) a=AP h a:=by unfold AP;rw [Ae,Af hne]
theorem zT {A:List ST} {B:List PR} {i:Nat} {x:ST} {y:PR}:(A.set i x).zip (B.set i y)=(A.zip B).set i (x,y):=by
 refine List.ext_getElem (by simp) λj h1 h2=>?_;rw [List.getElem_zip,List.getElem_set,List.getElem_set,List.getElem_set];split
 .rfl
 .rw [List.getElem_zip]
theorem WA.setE {h1:AH} {x':ST} {y':PR} (w:WA b h wp a f c s) (hi:i<s.procs.length) (X:Ak h h1) (hx:x'.r.length=8/\Ej x'.r) (hy:y'.prio=(nth s.procs i).prio):WA b (h1.put (Ap a) ⟨11,(AP h a).set (Ca a+i) (Ci (x',y'))⟩) wp a f c { s with all:=s.all.set i x',procs:=s.procs.set i y' }:=by
 have bp:=w.bp;have nx:=X.next;have la:=(w.low _ (.inr (.inl rfl))).2;refine ⟨by rw [Ae,Af (λe=>w.da e.symm),X.get _ bp.2];exact w.gp, ?_,AC (w.sf.ext X) _ _ (w.df.imp (λz=>z) (λz e=>z.2 e.symm)),by show h1.lim<=b;rw [X.lim];exact w.lim,⟨bp.1,by show wp<h1.next;omega⟩,w.da,w.df,by simpa using w.l1,by simpa using w.l2,w.l3,Hs w.l4 hx,w.l5,w.l6,by simpa using w.pl,λj hj=>?_⟩
 .show Sl b _ 11 a (((s.all.set i x').zip (s.procs.set i y')).map Ci);rw [zT];refine Sl.setT (w.sa.ext X) (by have:=w.l2;simp;omega) (Nat.le_refl _) ?_;rw [Ae,Ar rfl,DZ X la]
 .have hj:j<s.procs.length:=by simpa using hj
  rw [Ba (by simpa using hj),List.getElem_set]
  by_cases e:i=j
  .subst e;rw [if_pos rfl,hy];exact w.pr _ hi
  .rw [if_neg e,<-Ba hj];exact w.pr j hj
theorem WA.setF {h5:AH} {w5:V} {F:List FT} {st:Bool} (w:WA b h wp a f c s) (X:Ak h h5) (s5:Sl h.next h5 3 w5 (F.map FT.enc)) (hl:F.length<=s.clk+1):WA b (h5.put wp ⟨26,[AI c a w5 s.mem s.clk st]⟩) wp a w5 c { s with fl:=F,halt:=st }/\Wt wp h a f (h5.put wp ⟨26,[AI c a w5 s.mem s.clk st]⟩) a w5:=by
 have bp:=w.bp;have nx:=X.next;have la:=w.low _ (.inr (.inl rfl));have so:=Au s5;refine ⟨⟨by rw [Ae,Ar rfl],AC (w.sa.ext X) _ _ (.inr (Ne.symm w.da)),AC (Sl.weak s5 om) _ _ (so.imp (λz=>z) (λz=>by omega)),by show h5.lim<=b;rw [X.lim];exact w.lim,⟨bp.1,by show wp<h5.next;omega⟩,w.da,so.imp (λz=>z) (λz=>⟨om,om⟩),w.l1,w.l2,w.l3,w.l4,w.l5,⟨hl,w.l6.2⟩,w.pl,w.pr⟩,⟨(Wr.refl.ext X).put (.inr (.inl rfl)),λj e=>?_⟩⟩;rcases e with e | e | ⟨q,e⟩
 .exact .inl (.inl e)
 .exact .inl (.inr (.inl e))
 .exact .inr (by rw [e];exact so.resolve_left (by rw [q];decide))
theorem qH (hi:i<s.all.length):Bw c s t i (nth s.all i).pc k=(if c.act k=0 then Cb { s with fl:=s.fl++[⟨t,i,k⟩],halt:=decide (c.act k=2) } i (IntKind.wrap .i64 ((nth s.all i).pc+4)) else if c.act k=1 then Fw c { s with fl:=s.fl++[⟨t,i,k⟩],halt:=decide (c.act k=2) } else { s with fl:=s.fl++[⟨t,i,k⟩],halt:=decide (c.act k=2) }):=by
 have e:Cb s i (nth s.all i).pc=s:=by
  unfold Cb;rw [show (⟨(nth s.all i).r,(nth s.all i).pc⟩:ST)=nth s.all i from rfl];exact Gi hi
 unfold Bw;rw [e]
theorem GI {P:List PR}:(Be P).length=P.length:=by unfold Be;simp
theorem Wm {P:List PR} {j:Nat} (hj:j<P.length):nth (Be P) j=⟨(nth P j).prio,0,false⟩:=by
 rw [Ba hj];unfold Be nth;rw [List.getD_eq_getElem?_getD,List.getElem?_map,List.getElem?_eq_getElem hj];rfl
theorem WA.setB (w:WA b h wp a f c s) (g:PG c) (x:Wr h (·=wp) h') (gp:h'.get wp=some ⟨26,[AI c a' f (List.replicate 16 0) s.clk s.halt]⟩) (sa:Sl h.next h' 11 a' ((nth c.c.parts c.p).procs.map w0)):WA b h' wp a' f c (Fw c s)/\Wt wp h a f h' a' f:=by
 have bp:=w.bp;have pl:=w.pl;have l1:=w.l1;have nx:=x.next;have na:AA a'=false:=by
  rcases sa with ⟨_,z⟩ | ⟨_,_,_,_,rfl,_⟩
  .have:=congrArg List.length z;rw [List.length_map,pl] at this;simp only [List.length_nil] at this;omega
  .rfl
 have la:=(Au sa).resolve_left (by rw [na];decide);have lf:=E2 w.sf;refine ⟨⟨gp, ?_,BZ w.sf x (w.df.imp (λz=>z) (λz e=>z.1 e)),by rw [x.lim];exact w.lim,⟨bp.1,om⟩,om, ?_, ?_, ?_,by simp [Fw],λy hy=>?_,GB,w.l6, ?_,λj hj=>?_⟩,⟨x.mono λ_ e=>.inl e,λj e=>?_⟩⟩
 .show Sl b h' 11 a' (((Ip (nth c.c.parts c.p).procs).zip (Be s.procs)).map Ci);rw [Tz pl];exact Sl.weak sa om
 .rcases w.df with z | z
  .exact .inl z
  .exact lf.imp (λz=>z) (λq=>⟨z.1,om⟩)
 .show 1<=(Be s.procs).length/\(Be s.procs).length<=3;rw [GI];exact l1
 .show (Ip (nth c.c.parts c.p).procs).length=(Be s.procs).length;rw [GI,Ip,List.length_map,pl]
 .obtain ⟨z,-,rfl⟩:=List.mem_map.1 (show y∈(nth c.c.parts c.p).procs.map λx=>(⟨List.replicate 8 0,x.entry⟩:ST) from hy);exact ⟨by simp,GB⟩
 .show (nth c.c.parts c.p).procs.length=(Be s.procs).length;rw [GI,pl]
 .have hj:j<(Be s.procs).length:=hj;have hj2:j<s.procs.length:=by rw [GI] at hj;exact hj
  show (nth (Be s.procs) j).prio=_;rw [<- w.pr j hj2,Wm hj2]
 .rcases e with e | e | e
  .exact .inl (.inl e)
  .exact .inr om
  .exact .inl (.inr (.inr e))
theorem Dr {s:PS} (hi:i<s.procs.length):s.procs.set i (nth s.procs i)=s.procs:=by rw [Ba hi,List.set_getElem_self]
theorem IZ {op v : Int} (w : WA b h wp a f c s) (g : PH c) (hi : i < s.all.length) (hs : s.halt = false) (hl : s.fl.length <= s.clk) (k1 : 1 <= k) (k5 : k <= 5)
    (kk:∀ h' a' f',Wt wp h a f h' a' f'->WA b h' wp a' f' c (Bw c s s.clk i (nth s.all i).pc k)->K (.tup []) h'):Cq tp Z9 [.p wp 0 0,.agg [.i .i64 t,.i .i64 i,.i .i64 (nth s.all i).pc,.i .i64 op,.i .i64 k,.i .u32 v]] h K:=by
 have gp:=w.gp;rw [hs] at gp;have bp:=w.bp;have hlim:=w.lim;have hp:=g.g.p;have l2:=w.l2;have f0:=λf'=>AI.f0 (c:=c) (a:=a) (f:=f') (mem:=s.mem) (clk:=s.clk) (st:=false);have f3:=λf'=>AI.f3 (c:=c) (a:=a) (f:=f') (mem:=s.mem) (clk:=s.clk) (st:=false);have f6:=λf'=>AI.f6 (c:=c) (a:=a) (f:=f') (mem:=s.mem) (clk:=s.clk) (st:=false);have f23:=AI.f23 (c:=c) (a:=a) (f:=f) (clk:=s.clk) (st:=false) w.l3;have f24:=AI.f24 (c:=c) (a:=a) (f:=f) (clk:=s.clk) (st:=false) w.l3;have s24:=λf'=>AI.s24 (c:=c) (a:=a) (f:=f) (clk:=s.clk) (st:=false) (f':=f') w.l3;have s25:=λf'=>AI.s25 (c:=c) (a:=a) (f:=f') (clk:=s.clk) (st:=false) (st':=true) w.l3;have rl:=λf'=>AI.len (c:=c) (a:=a) (f:=f') (clk:=s.clk) (st:=false) w.l3;have hr:=(w.sf.alloc ⟨6,[[.i .i64 t,.i .i64 i,.i .i64 (nth s.all i).pc,.i .i64 op,.i .i64 k,.i .u32 v]]⟩).raise.rows;have of:=Au w.sf;have lf:=E2 w.sf;have la:=w.low _ (.inr (.inl rfl));refine Aa aM4 (by simp [QP]) λwf rp=>?_;unfold QP;simp (disch:=omega)only[go_sem, *];refine Av (R:=[]) (Sl.nil' (h.next+1) _ _) ?_ ?_ ?_ ?_
 .simp only [go_sem]
 .simp only [go_sem]
 .simp;have:=w.l6;omega
 intro w4 h4 s4 g4;have X1:Ak h (h.alloc ⟨6,[[.i .i64 t,.i .i64 i,.i .i64 (nth s.all i).pc,.i .i64 op,.i .i64 k,.i .u32 v]]⟩):=by (repeat (first | exact Ak.refl _ | refine Ak.alloc ?_ _ | (refine Ak.put ?_ _ _ ?_;rotate_left;(first | omega | (simp only [Ac,Ah];omega)))))
 have x4:Ak (h.alloc ⟨6,[[.i .i64 t,.i .i64 i,.i .i64 (nth s.all i).pc,.i .i64 op,.i .i64 k,.i .u32 v]]⟩) (h4.back h.lim):=⟨g4.next,rfl,λj hj=>g4.get j hj (.inl rfl)⟩
 have s4:Sl (h.next+1) (h4.back h.lim) 3 w4 (s.fl.map FT.enc):=s4;generalize hb:h4.back _=hq;have e5:h4.back h.lim=hq:=hb;rw [e5] at x4 s4;clear hb e5;have n4:=x4.next;have l4:=x4.lim;have o4:=Au s4;have b4:=x4.get h.next (by simp only [go_sem];omega);have y4:=(x4.get wp (by simp only [go_sem];omega))
 simp (disch:=omega)only[go_sem] at n4 l4 b4;rw [(X1.get wp bp.2),gp] at y4;clear g4;simp (disch:=omega)only[go_sem, *];refine Av (N:=[FT.enc ⟨s.clk,i,k⟩]) (s4.alloc _) ?_ ?_ ?_ ?_
 .simp only [go_sem];omega
 .simp only [go_sem];omega
 .simp;have:=w.l6;omega
 intro w5 h5 s5 g5;have x5:Ak h h5:=⟨by have:=g5.next;simp only [go_sem] at this;omega,g5.lim.trans l4,λj hj=>(g5.low j om).trans (by rw [AD,Af om,x4.get j (by simp only [go_sem];omega),AD,Af om])⟩
 have b5:=g5.get h.next (by simp only [go_sem];omega) (o4.imp (λz=>z) (λz=>by omega));simp (disch:=omega)only[go_sem,b4] at b5;have s5:Sl h.next h5 3 w5 ((s.fl++[(⟨s.clk,i,k⟩:FT)]).map FT.enc):=by rw [List.map_append];exact Sl.weak s5 (Nat.le_succ _)
 have c1:=g5.cell;have c2:=g5.cells;have y5:=(x5.get wp bp.2).trans gp;have l5:=x5.lim;have n5:=x5.next;have hF:((s.fl++[⟨s.clk,i,k⟩]:List FT).length:Int)<=s.clk+1:=by simp;omega
 obtain ⟨w6,wt6⟩:=w.setF (st:=false) x5 s5 hF;obtain ⟨w7,wt7⟩:=w.setF (st:=true) x5 s5 hF;rw [qH hi] at kk;have z1:¬ (c.c.parts.length:Int)<=c.p:=by omega
 have ac:=aLS g k1 k5 rfl;clear s4 g5 x4 b4 y4 n4 l4 hr of lf;obtain ⟨_,_,_,_,aget,aat,arow,_,_⟩:=w.sa.facts;have zl:(s.all.zip s.procs).length=s.procs.length:=by simp;omega
 rw [zl] at aget aat arow;replace aget:=(x5.get _ la.2).trans (aget om);replace arow:=arow i om;rw [GN l2 om] at arow;replace aat:=λcs=>aat .i64 i cs om om;simp only [Int.toNat_natCast] at aat
 have wl:=Ff (x:=nth s.all i) (y:=nth s.procs i) (w.l4 _ (Az hi)).1;have ws:=λv=>JO (x:=nth s.all i) (y:=nth s.procs i) (v:=v);have nda:=w.da;have hk:k=1\/k=2\/k=3\/k=4\/k=5:=by omega
 rcases hk with rfl | rfl | rfl | rfl | rfl
 .simp (disch:=omega)only[go_sem, *]
  by_cases q0:(nth c.c.parts c.p).h0=0
  .have e1:c.act 1=0:=by rw [ac];simp [B9,q0]
   rw [e1,if_pos rfl] at kk;have e2:=w6.setE (x':=⟨(nth s.all i).r,IntKind.wrap .i64 ((nth s.all i).pc+4)⟩) (y':=nth s.procs i) (by show i<s.procs.length;omega) (Ak.refl _) (show (nth s.all i).r.length=8/\Ej (nth s.all i).r from w.l4 _ (Az hi)) rfl;simp only at e2;rw [Eo nda,DZ x5 la.2,Dr om] at e2;have fin:=kk _ a w5 (wt6.trans (.same (Wr.refl.put (.inr (.inr (.inl rfl)))))) e2;clear kk e1 e2 w6 wt6 w7 wt7 s5 x5;simp (disch:=omega)only[go_sem, *]
  .by_cases q1:(nth c.c.parts c.p).h0=1
   .have e1:c.act 1=1:=by rw [ac];simp [B9,q1]
    rw [e1,if_neg (by decide),if_pos rfl] at kk;have w6p:=w6.gp;have w6b:=w6.bp;have w6m:h5.lim<=wp:=by omega
    clear w7 wt7;simp (disch:=omega)only[go_sem, *];refine Ew (wp:=wp) (c:=c) (a:=a) (f:=w5) (mem:=s.mem) (clk:=s.clk) (st:=false) ?_ w.l3 ?_ ?_ g.g ?_
    .simp (disch:=omega)only[go_sem, *]
    .simp only [go_sem];omega
    .simp only [go_sem];omega
    .intro h6 a6 x6 g6 s6;obtain ⟨w8,wt8⟩:=w6.setB g.g x6 g6 s6;have fin:=kk h6 a6 w5 (wt6.trans wt8) w8;clear kk w8 wt8 w6 wt6 s6 s5 x5 x6 w6p w6b;simp (disch:=omega)only[go_sem, *]
   .have e1:c.act 1=2:=by rw [ac];simp [B9,q0,q1]
    rw [e1,if_neg (by decide),if_neg (by decide)] at kk;have fin:=kk _ a w5 wt7 w7;clear kk w6 wt6 w7 wt7 s5 x5;simp (disch:=omega)only[go_sem, *]
 .simp (disch:=omega)only[go_sem, *]
  by_cases q0:(nth c.c.parts c.p).h1=0
  .have e1:c.act 2=0:=by rw [ac];simp [B9,q0]
   rw [e1,if_pos rfl] at kk;have e2:=w6.setE (x':=⟨(nth s.all i).r,IntKind.wrap .i64 ((nth s.all i).pc+4)⟩) (y':=nth s.procs i) (by show i<s.procs.length;omega) (Ak.refl _) (show (nth s.all i).r.length=8/\Ej (nth s.all i).r from w.l4 _ (Az hi)) rfl;simp only at e2;rw [Eo nda,DZ x5 la.2,Dr om] at e2;have fin:=kk _ a w5 (wt6.trans (.same (Wr.refl.put (.inr (.inr (.inl rfl)))))) e2;clear kk e1 e2 w6 wt6 w7 wt7 s5 x5;simp (disch:=omega)only[go_sem, *]
  .by_cases q1:(nth c.c.parts c.p).h1=1
   .have e1:c.act 2=1:=by rw [ac];simp [B9,q1]
    rw [e1,if_neg (by decide),if_pos rfl] at kk;have w6p:=w6.gp;have w6b:=w6.bp;have w6m:h5.lim<=wp:=by omega
    clear w7 wt7;simp (disch:=omega)only[go_sem, *];refine Ew (wp:=wp) (c:=c) (a:=a) (f:=w5) (mem:=s.mem) (clk:=s.clk) (st:=false) ?_ w.l3 ?_ ?_ g.g ?_
    .simp (disch:=omega)only[go_sem, *]
    .simp only [go_sem];omega
    .simp only [go_sem];omega
    .intro h6 a6 x6 g6 s6;obtain ⟨w8,wt8⟩:=w6.setB g.g x6 g6 s6;have fin:=kk h6 a6 w5 (wt6.trans wt8) w8;clear kk w8 wt8 w6 wt6 s6 s5 x5 x6 w6p w6b;simp (disch:=omega)only[go_sem, *]
   .have e1:c.act 2=2:=by rw [ac];simp [B9,q0,q1]
    rw [e1,if_neg (by decide),if_neg (by decide)] at kk;have fin:=kk _ a w5 wt7 w7;clear kk w6 wt6 w7 wt7 s5 x5;simp (disch:=omega)only[go_sem, *]
 .simp (disch:=omega)only[go_sem, *]
  by_cases q0:(nth c.c.parts c.p).h2=0
  .have e1:c.act 3=0:=by rw [ac];simp [B9,q0]
   rw [e1,if_pos rfl] at kk;have e2:=w6.setE (x':=⟨(nth s.all i).r,IntKind.wrap .i64 ((nth s.all i).pc+4)⟩) (y':=nth s.procs i) (by show i<s.procs.length;omega) (Ak.refl _) (show (nth s.all i).r.length=8/\Ej (nth s.all i).r from w.l4 _ (Az hi)) rfl;simp only at e2;rw [Eo nda,DZ x5 la.2,Dr om] at e2;have fin:=kk _ a w5 (wt6.trans (.same (Wr.refl.put (.inr (.inr (.inl rfl)))))) e2;clear kk e1 e2 w6 wt6 w7 wt7 s5 x5;simp (disch:=omega)only[go_sem, *]
  .by_cases q1:(nth c.c.parts c.p).h2=1
   .have e1:c.act 3=1:=by rw [ac];simp [B9,q1]
    rw [e1,if_neg (by decide),if_pos rfl] at kk;have w6p:=w6.gp;have w6b:=w6.bp;have w6m:h5.lim<=wp:=by omega
    clear w7 wt7;simp (disch:=omega)only[go_sem, *];refine Ew (wp:=wp) (c:=c) (a:=a) (f:=w5) (mem:=s.mem) (clk:=s.clk) (st:=false) ?_ w.l3 ?_ ?_ g.g ?_
    .simp (disch:=omega)only[go_sem, *]
    .simp only [go_sem];omega
    .simp only [go_sem];omega
    .intro h6 a6 x6 g6 s6;obtain ⟨w8,wt8⟩:=w6.setB g.g x6 g6 s6;have fin:=kk h6 a6 w5 (wt6.trans wt8) w8;clear kk w8 wt8 w6 wt6 s6 s5 x5 x6 w6p w6b;simp (disch:=omega)only[go_sem, *]
   .have e1:c.act 3=2:=by rw [ac];simp [B9,q0,q1]
    rw [e1,if_neg (by decide),if_neg (by decide)] at kk;have fin:=kk _ a w5 wt7 w7;clear kk w6 wt6 w7 wt7 s5 x5;simp (disch:=omega)only[go_sem, *]
 .simp (disch:=omega)only[go_sem, *]
  by_cases q0:(nth c.c.parts c.p).h3=0
  .have e1:c.act 4=0:=by rw [ac];simp [B9,q0]
   rw [e1,if_pos rfl] at kk;have e2:=w6.setE (x':=⟨(nth s.all i).r,IntKind.wrap .i64 ((nth s.all i).pc+4)⟩) (y':=nth s.procs i) (by show i<s.procs.length;omega) (Ak.refl _) (show (nth s.all i).r.length=8/\Ej (nth s.all i).r from w.l4 _ (Az hi)) rfl;simp only at e2;rw [Eo nda,DZ x5 la.2,Dr om] at e2;have fin:=kk _ a w5 (wt6.trans (.same (Wr.refl.put (.inr (.inr (.inl rfl)))))) e2;clear kk e1 e2 w6 wt6 w7 wt7 s5 x5;simp (disch:=omega)only[go_sem, *]
  .by_cases q1:(nth c.c.parts c.p).h3=1
   .have e1:c.act 4=1:=by rw [ac];simp [B9,q1]
    rw [e1,if_neg (by decide),if_pos rfl] at kk;have w6p:=w6.gp;have w6b:=w6.bp;have w6m:h5.lim<=wp:=by omega
    clear w7 wt7;simp (disch:=omega)only[go_sem, *];refine Ew (wp:=wp) (c:=c) (a:=a) (f:=w5) (mem:=s.mem) (clk:=s.clk) (st:=false) ?_ w.l3 ?_ ?_ g.g ?_
    .simp (disch:=omega)only[go_sem, *]
    .simp only [go_sem];omega
    .simp only [go_sem];omega
    .intro h6 a6 x6 g6 s6;obtain ⟨w8,wt8⟩:=w6.setB g.g x6 g6 s6;have fin:=kk h6 a6 w5 (wt6.trans wt8) w8;clear kk w8 wt8 w6 wt6 s6 s5 x5 x6 w6p w6b;simp (disch:=omega)only[go_sem, *]
   .have e1:c.act 4=2:=by rw [ac];simp [B9,q0,q1]
    rw [e1,if_neg (by decide),if_neg (by decide)] at kk;have fin:=kk _ a w5 wt7 w7;clear kk w6 wt6 w7 wt7 s5 x5;simp (disch:=omega)only[go_sem, *]
 .simp (disch:=omega)only[go_sem, *]
  by_cases q0:(nth c.c.parts c.p).h4=0
  .have e1:c.act 5=0:=by rw [ac];simp [B9,q0]
   rw [e1,if_pos rfl] at kk;have e2:=w6.setE (x':=⟨(nth s.all i).r,IntKind.wrap .i64 ((nth s.all i).pc+4)⟩) (y':=nth s.procs i) (by show i<s.procs.length;omega) (Ak.refl _) (show (nth s.all i).r.length=8/\Ej (nth s.all i).r from w.l4 _ (Az hi)) rfl;simp only at e2;rw [Eo nda,DZ x5 la.2,Dr om] at e2;have fin:=kk _ a w5 (wt6.trans (.same (Wr.refl.put (.inr (.inr (.inl rfl)))))) e2;clear kk e1 e2 w6 wt6 w7 wt7 s5 x5;simp (disch:=omega)only[go_sem, *]
  .by_cases q1:(nth c.c.parts c.p).h4=1
   .have e1:c.act 5=1:=by rw [ac];simp [B9,q1]
    rw [e1,if_neg (by decide),if_pos rfl] at kk;have w6p:=w6.gp;have w6b:=w6.bp;have w6m:h5.lim<=wp:=by omega
    clear w7 wt7;simp (disch:=omega)only[go_sem, *];refine Ew (wp:=wp) (c:=c) (a:=a) (f:=w5) (mem:=s.mem) (clk:=s.clk) (st:=false) ?_ w.l3 ?_ ?_ g.g ?_
    .simp (disch:=omega)only[go_sem, *]
    .simp only [go_sem];omega
    .simp only [go_sem];omega
    .intro h6 a6 x6 g6 s6;obtain ⟨w8,wt8⟩:=w6.setB g.g x6 g6 s6;have fin:=kk h6 a6 w5 (wt6.trans wt8) w8;clear kk w8 wt8 w6 wt6 s6 s5 x5 x6 w6p w6b;simp (disch:=omega)only[go_sem, *]
   .have e1:c.act 5=2:=by rw [ac];simp [B9,q0,q1]
    rw [e1,if_neg (by decide),if_neg (by decide)] at kk;have fin:=kk _ a w5 wt7 w7;clear kk w6 wt6 w7 wt7 s5 x5;simp (disch:=omega)only[go_sem, *]
end
end Go.Ab.T
namespace Go.Ab.T
open Go Go.Ab
set_option maxHeartbeats 8000000
abbrev nk (c:PC):Kn:=tI c.c c.p 0 0 0 .ns .ns
section
variable {b b2 wp i A B C jb jp:Nat} {h h':AH} {a f jC jL:V} {c:PC} {s:PS} {op:Int} {X:List V} {Q:List (List Int)} {K:V->AH->Prop}
theorem Rb {x:ST} {y:PR} (h:x.r.length=8) (v:Int):(Ci (x,y)).set 1 (.i .u32 v)=Ci (⟨x.r.set 0 v,x.pc⟩,y)/\(Ci (⟨x.r.set 0 v,x.pc⟩,y)).length=11/\(Ci (⟨x.r.set 0 v,x.pc⟩,y))[1]?=some (.i .u32 v):=by
 refine ⟨JP (i:=0) h (by decide),Ff (by simp [h]), ?_⟩;have:=Bq (x:=⟨x.r.set 0 v,x.pc⟩) (y:=y) (i:=0) (by simp [h]) (by decide);rw [show 1+0=1 from rfl] at this;rw [this];simp [nth,h]
theorem Ii (w:WA b h wp a f c s) (k:WK b2 h c.c jb jp jC jL X Q) (hcap:∀ x∈c.c.chans,x.cap<=8) (hp:c.p<c.c.parts.length) (hi:i<s.all.length) (g:Reg op A B C) (hop:op=11\/op=12\/op=15\/op=16) (dj:∀ j,DS jb jp jC jL X j->¬ GZ wp a f j)
    (kk:∀ h' X',Wr h (λj=>j=Ap a\/DS jb jp jC jL X j) h'->WK b2 h' c.c jb jp jC jL X' (AW c (nk c) Q op A B (nth s.all i)).2.2.2->(∀ j,DS jb jp jC jL X' j->DS jb jp jC jL X j\/h.next<=j)->WA b h' wp a f c { s with all:=s.all.set i (AW c (nk c) Q op A B (nth s.all i)).2.2.1 }->K (.tup [.i .u32 (AW c (nk c) Q op A B (nth s.all i)).1,.i .i64 (AW c (nk c) Q op A B (nth s.all i)).2.1]) h'):Cq tp aS [.p wp 0 0,.p (Ap a) (Ca a+i) 0,.agg [.i .i64 op,.i .i64 A,.i .i64 B,.i .i64 C],.p jb 0 0] h K:=by
 obtain ⟨ga,gb,gc⟩:=g.m;have l2:=w.l2;have hip:i<s.procs.length:=by omega
 have hx:=w.l4 _ (Az hi);have la:=w.low _ (.inr (.inl rfl));have lim:=w.lim;have gp:=w.gp;have bp:=w.bp;have nda:=w.da;have f1:=AI.f1 (c:=c) (a:=a) (f:=f) (mem:=s.mem) (clk:=s.clk) (st:=s.halt);have f3:=AI.f3 (c:=c) (a:=a) (f:=f) (mem:=s.mem) (clk:=s.clk) (st:=s.halt);have rl:=AI.len (c:=c) (a:=a) (f:=f) (clk:=s.clk) (st:=s.halt) w.l3;obtain ⟨_,_,_,_,aget,_,arow,_,_⟩:=w.sa.facts;have zl:(s.all.zip s.procs).length=s.procs.length:=by simp;omega
 rw [zl] at aget arow;replace aget:=aget om;replace arow:=arow i hip;rw [GN l2 hip] at arow;have alen:Ca a+i<(AP h a).length:=by rw [List.getElem?_eq_some_iff] at arow;exact arow.1
 have k5:∀ x,((AP h a).set (Ca a+i) x)[Ca a+i]?=some x:=λx=>List.getElem?_set_self alen;have wl:=Ff (x:=nth s.all i) (y:=nth s.procs i) hx.1;have m1:∀ n:Nat,n*1=n:=Nat.mul_one;have X1:Ak h (h.alloc ⟨4,[[.i .i64 op,.i .i64 A,.i .i64 B,.i .i64 C]]⟩):=by (repeat (first | exact Ak.refl _ | refine Ak.alloc ?_ _ | (refine Ak.put ?_ _ _ ?_;rotate_left;(first | omega | (simp only [Ac,Ah];omega)))))
 have w1:=w.ext X1;have k1:=k.keep (J:=λ_=>False) (Wr.refl.ext X1) (λ_ _ e=>e);obtain ⟨pe,en,gk⟩:=k.k;unfold F0 at gk;have kn:=k.n;have lk:=k.low;have kp:=k.o.bp;have fin : ∀ {h2 : AH} {X2 : List V} {Q2 : List (List Int)} {x' : ST} {v fl : Int}, AW c (nk c) Q op A B (nth s.all i) = (v, fl, x', Q2) -> (x'.r.length = 8 /\ Ej x'.r) -> Wr (h.alloc ⟨4, [[.i .i64 op, .i .i64 A, .i .i64 B, .i .i64 C]]⟩) (DS jb jp jC jL X) h2 -> WK b2 h2 c.c jb jp jC jL X2 Q2 -> (∀ j, DS jb jp jC jL X2 j -> DS jb jp jC jL X j \/ (h.alloc ⟨4, [[.i .i64 op, .i .i64 A, .i .i64 B, .i .i64 C]]⟩).next <= j) ->
     K (.tup [.i .u32 v,.i .i64 fl]) (h2.put (Ap a) ⟨11,(AP h a).set (Ca a+i) (Ci (x',nth s.procs i))⟩)/\h2.get (Ap a)=some ⟨11,AP h a⟩/\h2.get h.next=some ⟨4,[[.i .i64 op,.i .i64 A,.i .i64 B,.i .i64 C]]⟩/\h2.lim<=Ap a:=λ{h2 X2 Q2 x' v fl} e hx' x2 q2 i2=>by
  have n2:=x2.next;have w2:=w1.keep x2 (λj e e2=>dj j e2 e);have ga2:h2.get (Ap a)=some ⟨11,AP h a⟩:=(x2.get _ (Nat.lt_of_lt_of_le la.2 X1.next) (λe=>dj _ e (.inr (.inl rfl)))).trans ((X1.get _ la.2).trans aget);refine ⟨?_,ga2, ?_,by rw [x2.lim];show h.lim<=Ap a;omega⟩
  .have z:=kk;rw [e] at z;have e2:=w2.setE (x':=x') (y':=nth s.procs i) hip (Ak.refl _) hx' rfl;rw [show AP h2 a=AP h a by unfold AP;rw [ga2,aget]] at e2;simp only [Dr hip] at e2;have na:∀ j,DS jb jp jC jL X2 j->¬ j=Ap a:=λj e e2=>by
    rcases i2 j e with z | z
    .exact dj j z (.inr (.inl e2))
    .simp only [go_sem] at z;omega
   exact z _ X2 ((Wr.trans (Wr.refl.ext X1) x2 (λ_ _ e=>.inr e)).put (.inr (.inl rfl))) (q2.keep (J:=(·=Ap a)) (Wr.refl.put (.inr rfl)) na) (λj e=>(i2 j e).imp (λz=>z) (λz=>Nat.le_of_succ_le z)) e2
  .rw [x2.get h.next (by simp only [go_sem];omega) (λe=>Nat.lt_irrefl _ (lk _ e).2),AD,Ar rfl]
 have no:∀ {g':AH},Ak h g'->AW c (nk c) Q op A B (nth s.all i)=(0,5,nth s.all i,Q)->K (.tup [.i .u32 0,.i .i64 5]) g':=λx e=>by
  have z:=kk;rw [e] at z;exact z _ X (Wr.refl.ext x) (k.keep (J:=λ_=>False) (Wr.refl.ext x) (λ_ _ e=>e)) (λj e=>.inl e) (by rw [Gi hi];exact w.ext x)
 have no1:=no X1;clear no;rcases hop with rfl | rfl | rfl | rfl
 .have hB:B<8:=g.b rfl;have eB:=Bq (x:=nth s.all i) (y:=nth s.procs i) hx.1 hB;have hB8:1+B<=10:=by omega
  by_cases hA:A<c.c.chans.length
  .have z2:¬ (c.c.chans.length:Int)<=A:=by omega
   by_cases hs:(nth c.c.chans A).src=c.p
   .have hc:Co c A true=true:=by unfold Co;rw [decide_eq_true hA,Bool.true_and,if_pos rfl,decide_eq_true hs]
    have e:AW c (nk c) Q 11 A B (nth s.all i)=(nth (nth s.all i).r B,0,⟨(nth s.all i).r.set 0 (Dv c.c Q A (nth (nth s.all i).r B)).1,(nth s.all i).pc⟩,(Dv c.c Q A (nth (nth s.all i).r B)).2):=by
     unfold AW;rw [if_neg (by decide),if_neg (by decide),if_neg (by rw [show decide ((11:Int)=11)=true from rfl,hc];decide),if_pos rfl];rfl
    have fin:=λ{h2:AH} {X2:List V} x2 q2 i2=>fin (h2:=h2) (X2:=X2) e (BR hx dY) x2 q2 i2;obtain ⟨s0,s1,s2⟩:=Rb (y:=nth s.procs i) hx.1 (Dv c.c Q A (nth (nth s.all i).r B)).1;clear kk no1 e hc;refine Aa aNl (by simp [Q8]) λwf rp=>?_;unfold Q8;simp (disch:=omega)only[go_sem, *];refine Im k1.o hcap (BH hx.2) ?_;intro h2 X2 x2 o2 i2;obtain ⟨k2,i3⟩:=k1.step x2 o2 i2;obtain ⟨y1,y2,y3,y4⟩:=fin (x2.mono λ_ e=>.inr (.inr (.inl e))) k2 i3;clear fin x2 k2 o2;simp (disch:=omega)only[go_sem, *]
   .have f:=no1 (J2 (by unfold Co;rw [if_pos rfl,decide_eq_false hs,Bool.and_false]));clear kk no1 fin;refine Aa aNl (by simp [Q8]) λwf rp=>?_;unfold Q8;simp (disch:=omega)only[go_sem, *]
  .have z2:(c.c.chans.length:Int)<=A:=by omega
   have f:=no1 (J2 (by unfold Co;rw [decide_eq_false hA,Bool.false_and]));clear kk no1 fin;refine Aa aNl (by simp [Q8]) λwf rp=>?_;unfold Q8;simp (disch:=omega)only[go_sem, *]
 .have hB:B<8:=g.b rfl;have hB8:1+B<=10:=by omega
  by_cases hA:A<c.c.chans.length
  .have z2:¬ (c.c.chans.length:Int)<=A:=by omega
   by_cases hs:(nth c.c.chans A).dst=c.p
   .have hc:Co c A false=true:=by unfold Co;rw [decide_eq_true hA,Bool.true_and,if_neg (by decide),decide_eq_true hs]
    have e:AW c (nk c) Q 12 A B (nth s.all i)=((BX c.c Q A).1,0,⟨(if (BX c.c Q A).2.1=2 then (nth s.all i).r else (nth s.all i).r.set B (BX c.c Q A).1).set 0 (BX c.c Q A).2.1,(nth s.all i).pc⟩,(BX c.c Q A).2.2):=by
     unfold AW;rw [if_neg (by decide),if_neg (by decide),if_neg (by rw [show decide ((12:Int)=11)=false from rfl,hc];decide),if_neg (by decide)];rfl
    have hu:=Te (i:=A) k.o;have codes:(BX c.c Q A).2.1=0\/(BX c.c Q A).2.1=2:=by unfold BX;split<;>simp
    have hx3:=BR (x:=nth s.all i) (j:=B) hx hu.1;have wl3:=Ff (x:=⟨(nth s.all i).r.set B (BX c.c Q A).1,(nth s.all i).pc⟩) (y:=nth s.procs i) hx3.1;have s3:=JP (x:=nth s.all i) (y:=nth s.procs i) (v:=(BX c.c Q A).1) hx.1 hB;rcases codes with e0 | e0
    .rw [e0,if_neg (by decide)] at e;have fin:=λ{h2:AH} {X2:List V} x2 q2 i2=>fin (h2:=h2) (X2:=X2) e (BR (x:=⟨(nth s.all i).r.set B (BX c.c Q A).1,(nth s.all i).pc⟩) hx3 ⟨by decide,by decide⟩) x2 q2 i2;obtain ⟨s0,s1,s2⟩:=Rb (x:=⟨(nth s.all i).r.set B (BX c.c Q A).1,(nth s.all i).pc⟩) (y:=nth s.procs i) hx3.1 0;clear kk no1 e hc;refine Aa aNl (by simp [Q8]) λwf rp=>?_;unfold Q8;simp (disch:=omega)only[go_sem, *];refine Gq k1.o ?_;intro h2 X2 x2 o2 i2;obtain ⟨k2,i3⟩:=k1.step x2 o2 i2;obtain ⟨y1,y2,y3,y4⟩:=fin (x2.mono λ_ e=>.inr (.inr (.inl e))) k2 i3;clear fin x2 k2 o2;simp (disch:=omega)only[go_sem, *]
    .rw [e0,if_pos rfl] at e;have fin:=λ{h2:AH} {X2:List V} x2 q2 i2=>fin (h2:=h2) (X2:=X2) e (BR hx ⟨by decide,by decide⟩) x2 q2 i2;obtain ⟨s0,s1,s2⟩:=Rb (x:=nth s.all i) (y:=nth s.procs i) hx.1 2;clear kk no1 e hc;refine Aa aNl (by simp [Q8]) λwf rp=>?_;unfold Q8;simp (disch:=omega)only[go_sem, *];refine Gq k1.o ?_;intro h2 X2 x2 o2 i2;obtain ⟨k2,i3⟩:=k1.step x2 o2 i2;obtain ⟨y1,y2,y3,y4⟩:=fin (x2.mono λ_ e=>.inr (.inr (.inl e))) k2 i3;clear fin x2 k2 o2;simp (disch:=omega)only[go_sem, *]
   .have f:=no1 (Iv (by unfold Co;rw [if_neg (by decide),decide_eq_false hs,Bool.and_false]));clear kk no1 fin;refine Aa aNl (by simp [Q8]) λwf rp=>?_;unfold Q8;simp (disch:=omega)only[go_sem, *]
  .have z2:(c.c.chans.length:Int)<=A:=by omega
   have f:=no1 (Iv (by unfold Co;rw [decide_eq_false hA,Bool.false_and]));clear kk no1 fin;refine Aa aNl (by simp [Q8]) λwf rp=>?_;unfold Q8;simp (disch:=omega)only[go_sem, *]
 .have hA:A<8:=g.a rfl;have eA:=Bq (x:=nth s.all i) (y:=nth s.procs i) hx.1 hA;have hA8:1+A<=10:=by omega
  have e:AW c (nk c) Q 15 A B (nth s.all i)=(Dh c.c c.p (nth (nth s.all i).r A),0,⟨(nth s.all i).r.set 0 (Dh c.c c.p (nth (nth s.all i).r A)),(nth s.all i).pc⟩,Q):=rfl;have hu:JF (Dh c.c c.p (nth (nth s.all i).r A)):=by unfold Dh JF;(repeat' split)<;>simp
  have fin:=λ{h2:AH} x2 q2=>fin (h2:=h2) (X2:=X) e (BR hx hu) x2 q2 (λj e=>.inl e);obtain ⟨s0,s1,s2⟩:=Rb (y:=nth s.procs i) hx.1 (Dh c.c c.p (nth (nth s.all i).r A));clear kk no1 e;refine Aa aNl (by simp [Q8]) λwf rp=>?_;unfold Q8;simp (disch:=omega)only[go_sem, *];refine TB k1 hp (BH hx.2) ?_;intro h2 x2 k2;obtain ⟨y1,y2,y3,y4⟩:=fin (x2.mono λ_ e=>.inl e) k2;clear fin x2 k2;simp (disch:=omega)only[go_sem, *]
 .have e:AW c (nk c) Q 16 A B (nth s.all i)=(Gk c.c c.p,0,⟨(nth s.all i).r.set 0 (Gk c.c c.p),(nth s.all i).pc⟩,Q):=rfl;have hu:JF (Gk c.c c.p):=by unfold Gk JF;(repeat' split)<;>simp
  have fin:=λ{h2:AH} x2 q2=>fin (h2:=h2) (X2:=X) e (BR hx hu) x2 q2 (λj e=>.inl e);obtain ⟨s0,s1,s2⟩:=Rb (y:=nth s.procs i) hx.1 (Gk c.c c.p);clear kk no1 e;refine Aa aNl (by simp [Q8]) λwf rp=>?_;unfold Q8;simp (disch:=omega)only[go_sem, *];refine iO k1 hp ?_;intro h2 x2 k2;obtain ⟨y1,y2,y3,y4⟩:=fin (x2.mono λ_ e=>.inl e) k2;clear fin x2 k2;simp (disch:=omega)only[go_sem, *]
end
end Go.Ab.T
namespace Go.Ab.T
open Go Go.Ab
set_option maxHeartbeats 16000000
set_option maxRecDepth 4000
section
variable {c:PC} {kn:Kn} {q:kn.σ} {s:PS} {t op np:Int} {i A B C:Nat} {r:List Int}
theorem Fd (hi:i<s.all.length):nth (Cb s i np).all i=⟨(nth s.all i).r,np⟩:=by
 show nth (s.all.set i _) i=_;rw [Ba (by simpa using hi),List.getElem_set_self]
theorem KG {x:ST}:{ Cb s i np with all:=(Cb s i np).all.set i x }={ s with all:=s.all.set i x }:=by
 show ({ s with all:=(s.all.set i _).set i x }:PS)=_;rw [List.set_set]
theorem aL5 (hi:i<s.all.length) (ho:op=1\/op=2\/op=3\/op=4\/op=5\/op=13\/op=14) (hz:¬ (op=5/\nth (nth s.all i).r C=0)):Cu c kn q (Cb s i np) t i op A B C=(DI c.ins t op A B C (nth s.all i),0,{ s with all:=s.all.set i ⟨(nth s.all i).r.set A (DI c.ins t op A B C (nth s.all i)),np⟩ },q):=by
 have e:Cm c.ins t op A B C ⟨(nth s.all i).r,np⟩=(DI c.ins t op A B C (nth s.all i),0,⟨(nth s.all i).r.set A (DI c.ins t op A B C (nth s.all i)),np⟩):=if_neg hz;unfold Cu;rw [if_pos ho,Fd hi,e,KG]
theorem aL6 (hi:i<s.all.length) (hz:nth (nth s.all i).r C=0):Cu c kn q (Cb s i np) t i 5 A B C=(0,4,Cb s i np,q):=by
 have e:Cm c.ins t 5 A B C ⟨(nth s.all i).r,np⟩=(0,4,⟨(nth s.all i).r,np⟩):=if_pos ⟨rfl,hz⟩;unfold Cu;rw [if_pos (by decide),Fd hi,e,KG];rfl
theorem Y0 (hi:i<s.all.length) (ho:op=6\/op=7) (hz:16<=nth (nth s.all i).r B+C):Cu c kn q (Cb s i np) t i op A B C=(0,3,Cb s i np,q):=by
 have e:Bk s.mem op A B C ⟨(nth s.all i).r,np⟩=(0,3,⟨(nth s.all i).r,np⟩,s.mem):=if_pos hz;unfold Cu;rw [if_neg om,if_pos ho,Fd hi];show ((Bk s.mem op A B C ⟨(nth s.all i).r,np⟩).1,(Bk s.mem op A B C ⟨(nth s.all i).r,np⟩).2.1,({ Cb s i np with all:=(Cb s i np).all.set i (Bk s.mem op A B C ⟨(nth s.all i).r,np⟩).2.2.1,mem:=(Bk s.mem op A B C ⟨(nth s.all i).r,np⟩).2.2.2 }:PS),q)=_;rw [e];show (0,3,({ s with all:=(s.all.set i _).set i _ }:PS),q)=_;rw [List.set_set];rfl
theorem qA (hi:i<s.all.length) {j:Nat} (hj:nth (nth s.all i).r B+C=j) (hj2:j<16):Cu c kn q (Cb s i np) t i 6 A B C=(nth s.mem j,0,{ s with all:=s.all.set i ⟨(nth s.all i).r.set A (nth s.mem j),np⟩ },q):=by
 have e:Bk s.mem 6 A B C ⟨(nth s.all i).r,np⟩=(nth s.mem j,0,⟨(nth s.all i).r.set A (nth s.mem j),np⟩,s.mem):=by
  unfold Bk;simp only [];rw [if_neg om,if_pos trivial,hj];rfl
 unfold Cu;rw [if_neg (by decide),if_pos (by decide),Fd hi];show ((Bk s.mem 6 A B C ⟨(nth s.all i).r,np⟩).1,(Bk s.mem 6 A B C ⟨(nth s.all i).r,np⟩).2.1,({ Cb s i np with all:=(Cb s i np).all.set i (Bk s.mem 6 A B C ⟨(nth s.all i).r,np⟩).2.2.1,mem:=(Bk s.mem 6 A B C ⟨(nth s.all i).r,np⟩).2.2.2 }:PS),q)=_;rw [e];show (_,0,({ s with all:=(s.all.set i _).set i _ }:PS),q)=_;rw [List.set_set]
theorem Y1 (hi:i<s.all.length) {j:Nat} (hj:nth (nth s.all i).r B+C=j) (hj2:j<16):Cu c kn q (Cb s i np) t i 7 A B C=(nth (nth s.all i).r A,0,{ s with all:=s.all.set i ⟨(nth s.all i).r,np⟩,mem:=s.mem.set j (nth (nth s.all i).r A) },q):=by
 have e:Bk s.mem 7 A B C ⟨(nth s.all i).r,np⟩=(nth (nth s.all i).r A,0,⟨(nth s.all i).r,np⟩,s.mem.set j (nth (nth s.all i).r A)):=by
  unfold Bk;simp only [];rw [if_neg om,if_neg (by decide),hj];rfl
 unfold Cu;rw [if_neg (by decide),if_pos (by decide),Fd hi];show ((Bk s.mem 7 A B C ⟨(nth s.all i).r,np⟩).1,(Bk s.mem 7 A B C ⟨(nth s.all i).r,np⟩).2.1,({ Cb s i np with all:=(Cb s i np).all.set i (Bk s.mem 7 A B C ⟨(nth s.all i).r,np⟩).2.2.1,mem:=(Bk s.mem 7 A B C ⟨(nth s.all i).r,np⟩).2.2.2 }:PS),q)=_;rw [e];show (_,0,({ s with all:=(s.all.set i _).set i _,mem:=_ }:PS),q)=_;rw [List.set_set]
theorem pN {x:ST}:AW c kn q op A B ⟨x.r,np⟩=((AW c kn q op A B x).1,(AW c kn q op A B x).2.1,⟨(AW c kn q op A B x).2.2.1.r,np⟩,(AW c kn q op A B x).2.2.2):=by
 unfold AW
 repeat' split
 all_goals rfl
theorem pZ (hi:i<s.all.length) (ho:op=11\/op=12\/op=15\/op=16):Cu c kn q (Cb s i np) t i op A B C=((AW c kn q op A B (nth s.all i)).1,(AW c kn q op A B (nth s.all i)).2.1,{ s with all:=s.all.set i ⟨(AW c kn q op A B (nth s.all i)).2.2.1.r,np⟩ },(AW c kn q op A B (nth s.all i)).2.2.2):=by
 unfold Cu;rw [if_neg om,if_neg om,if_neg om,if_neg om,if_neg om,if_neg om,if_pos ho,Fd hi,pN,KG]
theorem YF {x:ST} (h:(AW c kn q op A B x).2.1≠0):AW c kn q op A B x=(0,5,x,q):=by
 unfold AW at h ⊢;split
 .rw [if_pos (by assumption)] at h;exact absurd rfl h
 .rename_i h1;rw [if_neg h1] at h;split
  .rw [if_pos (by assumption)] at h;exact absurd rfl h
  .rename_i h2;rw [if_neg h2] at h;split
   .rfl
   .rename_i h3;rw [if_neg h3] at h;split at h<;>exact absurd rfl h
end
section
variable {b b2 wp i A B C jb jp:Nat} {h h':AH} {a f jC jL:V} {c:PC} {s:PS} {op:Int} {X:List V} {Q:List (List Int)} {K:V->AH->Prop}
theorem WA.setM {m:List Int} (w:WA b h wp a f c s) (hm:m.length=16) (hu:Ej m):WA b (h.put wp ⟨26,[AI c a f m s.clk s.halt]⟩) wp a f c { s with mem:=m }:=
 ⟨by rw [Ae,Ar rfl],AC w.sa _ _ (.inr (Ne.symm w.da)),AC w.sf _ _ (w.df.imp (λz=>z) (λz=>Ne.symm z.1)),w.lim,w.bp,w.da,w.df,w.l1,w.l2,hm,w.l4,hu,w.l6,w.pl,w.pr⟩
theorem WY (gp:h.next=h.next) (kk:K (.tup [.i .u32 0,.i .i64 0]) (h.alloc ⟨4,[[.i .i64 0,.i .i64 A,.i .i64 B,.i .i64 C]]⟩)) {u v x:V}:Cq tp aS [u,v,.agg [.i .i64 0,.i .i64 A,.i .i64 B,.i .i64 C],x] h K:=by
 refine Aa aNl (by simp [Q8]) λwf rp=>?_;unfold Q8;simp (disch:=omega)only[go_sem, *]
theorem aOl (w:WA b h wp a f c s) (k:WK b2 h c.c jb jp jC jL X Q) (hcap:∀ x∈c.c.chans,x.cap<=8) (hp:c.p<c.c.parts.length) (hi:i<s.all.length) (g:Reg op A B C) (dj:∀ j,DS jb jp jC jL X j->¬ GZ wp a f j) (hins:Ej c.ins) (hil:c.ins.length<4000000000)
    (kk:∀ h' X',Wr h (λj=>GZ wp a f j\/DS jb jp jC jL X j) h'->WK b2 h' c.c jb jp jC jL X' (Cu c (nk c) Q (Cb s i (IntKind.wrap .i64 ((nth s.all i).pc+4))) s.clk i op A B C).2.2.2->(∀ j,DS jb jp jC jL X' j->DS jb jp jC jL X j\/h.next<=j)->WA b h' wp a f c (if (Cu c (nk c) Q (Cb s i (IntKind.wrap .i64 ((nth s.all i).pc+4))) s.clk i op A B C).2.1=0 then (Cu c (nk c) Q (Cb s i (IntKind.wrap .i64 ((nth s.all i).pc+4))) s.clk i op A B C).2.2.1 else s)->K (.tup [.i .u32 (Cu c (nk c) Q (Cb s i (IntKind.wrap .i64 ((nth s.all i).pc+4))) s.clk i op A B C).1,.i .i64 (Cu c (nk c) Q (Cb s i (IntKind.wrap .i64 ((nth s.all i).pc+4))) s.clk i op A B C).2.1]) h'):Cq tp UK [.p wp 0 0,.p (Ap a) (Ca a+i) 0,.agg [.i .i64 op,.i .i64 A,.i .i64 B,.i .i64 C],.p jb 0 0] h K:=by
 obtain ⟨ga,gb,gc⟩:=g.m;have l2:=w.l2;have l6:=w.l6;have hip:i<s.procs.length:=by omega
 have hx:=w.l4 _ (Az hi);have la:=w.low _ (.inr (.inl rfl));have lim:=w.lim;have gp:=w.gp;have bp:=w.bp;have nda:=w.da;have rl:=AI.len (c:=c) (a:=a) (f:=f) (clk:=s.clk) (st:=s.halt) w.l3;obtain ⟨_,_,_,_,aget,_,arow,_,_⟩:=w.sa.facts;have zl:(s.all.zip s.procs).length=s.procs.length:=by simp;omega
 rw [zl] at aget arow;replace aget:=aget om;replace arow:=arow i hip;rw [GN l2 hip] at arow;have alen:Ca a+i<(AP h a).length:=by rw [List.getElem?_eq_some_iff] at arow;exact arow.1
 have k5:∀ x,((AP h a).set (Ca a+i) x)[Ca a+i]?=some x:=λx=>List.getElem?_set_self alen;have wl:=Ff (x:=nth s.all i) (y:=nth s.procs i) hx.1;have w00:=aZk (x:=nth s.all i) (y:=nth s.procs i);have ws0:=λ(x:ST) v=>JO (x:=x) (y:=nth s.procs i) (v:=v);have wln:=λA v=>Ff (x:=⟨(nth s.all i).r.set A v,(nth s.all i).pc⟩) (y:=nth s.procs i) (by simpa using hx.1);have m1:∀ n:Nat,n*1=n:=Nat.mul_one;have hle:h.lim<=Ap a:=by omega
 have X1:Ak h (h.alloc ⟨4,[[.i .i64 op,.i .i64 A,.i .i64 B,.i .i64 C]]⟩):=by (repeat (first | exact Ak.refl _ | refine Ak.alloc ?_ _ | (refine Ak.put ?_ _ _ ?_;rotate_left;(first | omega | (simp only [Ac,Ah];omega)))))
 have w1:=w.ext X1;have k1:=k.keep (J:=λ_=>False) (Wr.refl.ext X1) (λ_ _ e=>e);have fin:∀ {x':ST} {y':PR} {v:Int},Cu c (nk c) Q (Cb s i (IntKind.wrap .i64 ((nth s.all i).pc+4))) s.clk i op A B C=(v,0,{ s with all:=s.all.set i x',procs:=s.procs.set i y' },Q)->(x'.r.length=8/\Ej x'.r)->y'.prio=(nth s.procs i).prio->K (.tup [.i .u32 v,.i .i64 0]) ((h.alloc ⟨4,[[.i .i64 op,.i .i64 A,.i .i64 B,.i .i64 C]]⟩).put (Ap a) ⟨11,(AP h a).set (Ca a+i) (Ci (x',y'))⟩):=λ{x' y' v} e hx' hy=>by
  have z:=kk;rw [e] at z;have e2:=w.setE hip X1 hx' hy;exact z _ X (Wr.refl.alloc.put (.inr (.inl (.inr (.inl rfl))))) (k1.keep (J:=(·=Ap a)) (Wr.refl.put (.inr rfl)) (λj e e2=>dj j e (.inr (.inl e2)))) (λj e=>.inl e) e2
 have flt:∀ {v fl:Int} {s':PS},Cu c (nk c) Q (Cb s i (IntKind.wrap .i64 ((nth s.all i).pc+4))) s.clk i op A B C=(v,fl,s',Q)->fl≠0->K (.tup [.i .u32 v,.i .i64 fl]) (h.alloc ⟨4,[[.i .i64 op,.i .i64 A,.i .i64 B,.i .i64 C]]⟩):=λ{v fl s'} e hf=>by
  have z:=kk;rw [e] at z;exact z _ X Wr.refl.alloc k1 (λj e=>.inl e) (by rw [if_neg hf];exact w1)
 have hcnt:op=1\/op=2\/op=3\/op=4\/op=5\/op=13\/op=14->¬ (op=5/\nth (nth s.all i).r C=0)->A<8->∀ n,DI c.ins s.clk op A B C (nth s.all i)=n->K (.tup [.i .u32 n,.i .i64 0]) ((h.alloc ⟨4,[[.i .i64 op,.i .i64 A,.i .i64 B,.i .i64 C]]⟩).put (Ap a) ⟨11,(AP h a).set (Ca a+i) (Ci (⟨(nth s.all i).r.set A n,IntKind.wrap .i64 ((nth s.all i).pc+4)⟩,nth s.procs i))⟩)/\((Ci (nth s.all i,nth s.procs i)).set (1+A) (.i .u32 n)=Ci (⟨(nth s.all i).r.set A n,(nth s.all i).pc⟩,nth s.procs i)):=λho hz hA n hn=>by
  have e:=aL5 (c:=c) (kn:=nk c) (q:=Q) (t:=s.clk) (np:=IntKind.wrap .i64 ((nth s.all i).pc+4)) (A:=A) (B:=B) hi ho hz;have u:=aAq (t:=s.clk) (op:=op) (A:=A) (x:=nth s.all i) hins gb gc;rw [hn] at e u;exact ⟨fin (x':=⟨(nth s.all i).r.set A n,IntKind.wrap .i64 ((nth s.all i).pc+4)⟩) (y':=nth s.procs i) (by rw [Dr hip];exact e) (BR hx u) rfl,JP hx.1 hA⟩
 have hop:op=0\/op=1\/op=2\/op=3\/op=4\/op=5\/op=6\/op=7\/op=8\/op=9\/op=10\/(op=11\/op=12\/op=15\/op=16)\/op=13\/op=14\/op=17:=by
  have:=g.o;omega
 rcases hop with rfl | rfl | rfl | rfl | rfl | rfl | rfl | rfl | rfl | rfl | rfl | hop | rfl | rfl | rfl
 .skip
  have er:Bb 0=(false,false,false):=rfl;have r1:=Bm (op:=0);rw [er] at r1;clear er;have e:Cu c (nk c) Q (Cb s i (IntKind.wrap .i64 ((nth s.all i).pc+4))) s.clk i 0 A B C=(0,0,{ s with all:=s.all.set i ⟨(nth s.all i).r,IntKind.wrap .i64 ((nth s.all i).pc+4)⟩ },Q):=rfl;have X2:Ak h ((h.alloc ⟨4,[[.i .i64 0,.i .i64 A,.i .i64 B,.i .i64 C]]⟩).alloc ⟨4,[[.i .i64 0,.i .i64 A,.i .i64 B,.i .i64 C]]⟩):=by (repeat (first | exact Ak.refl _ | refine Ak.alloc ?_ _ | (refine Ak.put ?_ _ _ ?_;rotate_left;(first | omega | (simp only [Ac,Ah];omega)))))
  have e2:=w.setE (x':=⟨(nth s.all i).r,IntKind.wrap .i64 ((nth s.all i).pc+4)⟩) (y':=nth s.procs i) hip X2 hx rfl;rw [Dr hip] at e2;have z:=kk;rw [e] at z;have f1:=z _ X (((Wr.refl.ext X2)).put (.inr (.inl (.inr (.inl rfl))))) ((k.keep (J:=λ_=>False) (Wr.refl.ext X2) (λ_ _ e=>e)).keep (J:=(·=Ap a)) (Wr.refl.put (.inr rfl)) (λj e e2=>dj j e (.inr (.inl e2)))) (λj e=>.inl e) e2;clear kk z fin flt hcnt k k1 w w1 wln e e2;refine Aa aM3 (by simp [QO]) λwf rp=>?_;unfold QO;simp (disch:=omega)only[go_sem, *];refine Pf.go (r1) (by simp only [go_sem]) λ_=>?_;simp (disch:=omega)only[go_sem, *];refine WY rfl ?_;simp (disch:=omega)only[go_sem, *]
 .skip
  have er:Bb 1=(true,false,false):=rfl;have r1:=Bm (op:=1);rw [er] at r1;clear er;have hA:A<8:=g.a rfl;have eA:=Bq (x:=nth s.all i) (y:=nth s.procs i) hx.1 hA;have A8:1+A<=10:=by omega
  have A0:0<=(A:Int):=by omega
  have im:=Oo (x:=⟨1,A,B,C⟩) ⟨by simp;omega,by simp;omega,by simp;omega⟩;rw [show Kv ⟨1,A,B,C⟩=256*B+C from rfl] at im;obtain ⟨f1,s1⟩:=hcnt (by decide) (by simp) hA (256*B+C) (by unfold DI;simp);have wl1:=wln A (256*B+C);clear kk fin flt hcnt k k1 w w1 wln;refine Aa aM3 (by simp [QO]) λwf rp=>?_;unfold QO;simp (disch:=omega)only[go_sem, *];refine Pf.go (r1) (by simp only [go_sem]) λ_=>?_;simp (disch:=omega)only[go_sem, *];refine Pf.go (im) (by simp only [go_sem]) λ_=>?_;simp (disch:=omega)only[go_sem, *]
 .skip
  have er:Bb 2=(true,true,true):=rfl;have r1:=Bm (op:=2);rw [er] at r1;clear er;have hA:A<8:=g.a rfl;have eA:=Bq (x:=nth s.all i) (y:=nth s.procs i) hx.1 hA;have A8:1+A<=10:=by omega
  have A0:0<=(A:Int):=by omega
  have hB:B<8:=g.b rfl;have eB:=Bq (x:=nth s.all i) (y:=nth s.procs i) hx.1 hB;have B8:1+B<=10:=by omega
  have hC:C<8:=g.c rfl;have eC:=Bq (x:=nth s.all i) (y:=nth s.procs i) hx.1 hC;have C8:1+C<=10:=by omega
  obtain ⟨f1,s1⟩:=hcnt (by decide) (by simp) hA (IntKind.wrap .u32 (nth (nth s.all i).r B+nth (nth s.all i).r C)) (by unfold DI;simp);have wl1:=wln A (IntKind.wrap .u32 (nth (nth s.all i).r B+nth (nth s.all i).r C));clear kk fin flt hcnt k k1 w w1 wln;refine Aa aM3 (by simp [QO]) λwf rp=>?_;unfold QO;simp (disch:=omega)only[go_sem, *];refine Pf.go (r1) (by simp only [go_sem]) λ_=>?_;simp (disch:=omega)only[go_sem, *]
 .skip
  have er:Bb 3=(true,true,true):=rfl;have r1:=Bm (op:=3);rw [er] at r1;clear er;have hA:A<8:=g.a rfl;have eA:=Bq (x:=nth s.all i) (y:=nth s.procs i) hx.1 hA;have A8:1+A<=10:=by omega
  have A0:0<=(A:Int):=by omega
  have hB:B<8:=g.b rfl;have eB:=Bq (x:=nth s.all i) (y:=nth s.procs i) hx.1 hB;have B8:1+B<=10:=by omega
  have hC:C<8:=g.c rfl;have eC:=Bq (x:=nth s.all i) (y:=nth s.procs i) hx.1 hC;have C8:1+C<=10:=by omega
  obtain ⟨f1,s1⟩:=hcnt (by decide) (by simp) hA (IntKind.wrap .u32 (nth (nth s.all i).r B - nth (nth s.all i).r C)) (by unfold DI;simp);have wl1:=wln A (IntKind.wrap .u32 (nth (nth s.all i).r B - nth (nth s.all i).r C));clear kk fin flt hcnt k k1 w w1 wln;refine Aa aM3 (by simp [QO]) λwf rp=>?_;unfold QO;simp (disch:=omega)only[go_sem, *];refine Pf.go (r1) (by simp only [go_sem]) λ_=>?_;simp (disch:=omega)only[go_sem, *]
 .skip
  have er:Bb 4=(true,true,true):=rfl;have r1:=Bm (op:=4);rw [er] at r1;clear er;have hA:A<8:=g.a rfl;have eA:=Bq (x:=nth s.all i) (y:=nth s.procs i) hx.1 hA;have A8:1+A<=10:=by omega
  have A0:0<=(A:Int):=by omega
  have hB:B<8:=g.b rfl;have eB:=Bq (x:=nth s.all i) (y:=nth s.procs i) hx.1 hB;have B8:1+B<=10:=by omega
  have hC:C<8:=g.c rfl;have eC:=Bq (x:=nth s.all i) (y:=nth s.procs i) hx.1 hC;have C8:1+C<=10:=by omega
  obtain ⟨f1,s1⟩:=hcnt (by decide) (by simp) hA (IntKind.wrap .u32 (nth (nth s.all i).r B*nth (nth s.all i).r C)) (by unfold DI;simp);have wl1:=wln A (IntKind.wrap .u32 (nth (nth s.all i).r B*nth (nth s.all i).r C));clear kk fin flt hcnt k k1 w w1 wln;refine Aa aM3 (by simp [QO]) λwf rp=>?_;unfold QO;simp (disch:=omega)only[go_sem, *];refine Pf.go (r1) (by simp only [go_sem]) λ_=>?_;simp (disch:=omega)only[go_sem, *]
 .skip
  have er:Bb 5=(true,true,true):=rfl;have r1:=Bm (op:=5);rw [er] at r1;clear er;have hA:A<8:=g.a rfl;have eA:=Bq (x:=nth s.all i) (y:=nth s.procs i) hx.1 hA;have A8:1+A<=10:=by omega
  have A0:0<=(A:Int):=by omega
  have hB:B<8:=g.b rfl;have eB:=Bq (x:=nth s.all i) (y:=nth s.procs i) hx.1 hB;have B8:1+B<=10:=by omega
  have hC:C<8:=g.c rfl;have eC:=Bq (x:=nth s.all i) (y:=nth s.procs i) hx.1 hC;have C8:1+C<=10:=by omega
  by_cases hz:nth (nth s.all i).r C=0
  .have f1:=flt (aL6 hi hz) (by decide);clear kk fin flt hcnt k k1 w w1 wln;refine Aa aM3 (by simp [QO]) λwf rp=>?_;unfold QO;simp (disch:=omega)only[go_sem, *];refine Pf.go (r1) (by simp only [go_sem]) λ_=>?_;simp (disch:=omega)only[go_sem, *]
  .obtain ⟨f1,s1⟩:=hcnt (by decide) (λe=>hz e.2) hA (IntKind.wrap .u32 ((nth (nth s.all i).r B).tdiv (nth (nth s.all i).r C))) (by unfold DI;simp);have wl1:=wln A (IntKind.wrap .u32 ((nth (nth s.all i).r B).tdiv (nth (nth s.all i).r C)));clear kk fin flt hcnt k k1 w w1 wln;refine Aa aM3 (by simp [QO]) λwf rp=>?_;unfold QO;simp (disch:=omega)only[go_sem, *];refine Pf.go (r1) (by simp only [go_sem]) λ_=>?_;simp (disch:=omega)only[go_sem, *]
 .skip
  have er:Bb 6=(true,true,false):=rfl;have r1:=Bm (op:=6);rw [er] at r1;clear er;have hA:A<8:=g.a rfl;have eA:=Bq (x:=nth s.all i) (y:=nth s.procs i) hx.1 hA;have A8:1+A<=10:=by omega
  have A0:0<=(A:Int):=by omega
  have hB:B<8:=g.b rfl;have eB:=Bq (x:=nth s.all i) (y:=nth s.procs i) hx.1 hB;have B8:1+B<=10:=by omega
  have hu:=BH (i:=B) hx.2
  by_cases hz:16<=nth (nth s.all i).r B+C
  .have f1:=flt (Y0 hi (.inl rfl) hz) (by decide);clear kk fin flt hcnt k k1 w w1 wln;refine Aa aM3 (by simp [QO]) λwf rp=>?_;unfold QO;simp (disch:=omega)only[go_sem, *];refine Pf.go (r1) (by simp only [go_sem]) λ_=>?_;simp (disch:=omega)only[go_sem, *]
  .obtain ⟨j,hj⟩:∃ j:Nat,nth (nth s.all i).r B+C=j:=⟨(nth (nth s.all i).r B+C).toNat,om⟩
   have hj16:j<16:=by omega
   have j16:¬ (16:Int)<=j:=by omega
   have fm:=AI.fm (c:=c) (a:=a) (f:=f) (clk:=s.clk) (st:=s.halt) w.l3 hj16;have p3:7+j<=25:=by omega
   have f1:=fin (x':=⟨(nth s.all i).r.set A (nth s.mem j),IntKind.wrap .i64 ((nth s.all i).pc+4)⟩) (y':=nth s.procs i) (by rw [Dr hip];exact qA hi hj hj16) (BR hx (BH w.l5)) rfl;have s1:=JP (x:=nth s.all i) (y:=nth s.procs i) (v:=nth s.mem j) hx.1 hA;have wl1:=wln A (nth s.mem j);clear kk fin flt hcnt k k1 w w1 wln;refine Aa aM3 (by simp [QO]) λwf rp=>?_;unfold QO;simp (disch:=omega)only[go_sem, *];refine Pf.go (r1) (by simp only [go_sem]) λ_=>?_;simp (disch:=omega)only[go_sem, *]
 .skip
  have er:Bb 7=(true,true,false):=rfl;have r1:=Bm (op:=7);rw [er] at r1;clear er;have hA:A<8:=g.a rfl;have eA:=Bq (x:=nth s.all i) (y:=nth s.procs i) hx.1 hA;have A8:1+A<=10:=by omega
  have A0:0<=(A:Int):=by omega
  have hB:B<8:=g.b rfl;have eB:=Bq (x:=nth s.all i) (y:=nth s.procs i) hx.1 hB;have B8:1+B<=10:=by omega
  have hu:=BH (i:=B) hx.2
  by_cases hz:16<=nth (nth s.all i).r B+C
  .have f1:=flt (Y0 hi (.inr rfl) hz) (by decide);clear kk fin flt hcnt k k1 w w1 wln;refine Aa aM3 (by simp [QO]) λwf rp=>?_;unfold QO;simp (disch:=omega)only[go_sem, *];refine Pf.go (r1) (by simp only [go_sem]) λ_=>?_;simp (disch:=omega)only[go_sem, *]
  .obtain ⟨j,hj⟩:∃ j:Nat,nth (nth s.all i).r B+C=j:=⟨(nth (nth s.all i).r B+C).toNat,om⟩
   have hj16:j<16:=by omega
   have j16:¬ (16:Int)<=j:=by omega
   have p3:7+j<=25:=by omega
   have sm:=AI.sm (c:=c) (a:=a) (f:=f) (clk:=s.clk) (st:=s.halt) (v:=nth (nth s.all i).r A) w.l3 hj16;have wm:=w1.setM (m:=s.mem.set j (nth (nth s.all i).r A)) (by simp [w.l3]) (HN w.l5 (BH hx.2).1 (BH hx.2).2);have wf:=wm.setE (x':=⟨(nth s.all i).r,IntKind.wrap .i64 ((nth s.all i).pc+4)⟩) (y':=nth s.procs i) hip (Ak.refl _) (show (nth s.all i).r.length=8/\Ej (nth s.all i).r from hx) rfl;have ec:AP ((h.alloc ⟨4,[[.i .i64 7,.i .i64 A,.i .i64 B,.i .i64 C]]⟩).put wp ⟨26,[AI c a f (s.mem.set j (nth (nth s.all i).r A)) s.clk s.halt]⟩) a=AP h a:=by rw [Eo nda,DZ X1 la.2]
   rw [ec] at wf;simp only [Dr hip] at wf;have z:=kk;rw [Y1 (c:=c) (kn:=nk c) (q:=Q) (t:=s.clk) (np:=IntKind.wrap .i64 ((nth s.all i).pc+4)) (A:=A) hi hj hj16] at z;have f1:=z _ X ((Wr.refl.alloc.put (.inr (.inl (.inl rfl)))).put (.inr (.inl (.inr (.inl rfl))))) ((k1.keep (J:=(·=wp)) (Wr.refl.put (.inr rfl)) (λj e e2=>dj j e (.inl e2))).keep (J:=(·=Ap a)) (Wr.refl.put (.inr rfl)) (λj e e2=>dj j e (.inr (.inl e2)))) (λj e=>.inl e) wf;clear kk z fin flt hcnt k k1 w w1 wln wm wf ec;refine Aa aM3 (by simp [QO]) λwf rp=>?_;unfold QO;simp (disch:=omega)only[go_sem, *];refine Pf.go (r1) (by simp only [go_sem]) λ_=>?_;simp (disch:=omega)only[go_sem, *]
 .skip
  have er:Bb 8=(false,false,false):=rfl;have r1:=Bm (op:=8);rw [er] at r1;clear er;have im:=Oo (x:=⟨8,A,B,C⟩) ⟨by simp;omega,by simp;omega,by simp;omega⟩;rw [show Kv ⟨8,A,B,C⟩=256*B+C from rfl] at im;have e:Cu c (nk c) Q (Cb s i (IntKind.wrap .i64 ((nth s.all i).pc+4))) s.clk i 8 A B C=(0,0,{ s with all:=s.all.set i ⟨(nth s.all i).r,256*B+C⟩ },Q):=by
   unfold Cu;rw [if_neg (by decide),if_neg (by decide),if_pos rfl,Fd hi,KG];rfl
  have f1:=fin (x':=⟨(nth s.all i).r,256*B+C⟩) (y':=nth s.procs i) (by rw [Dr hip];exact e) hx rfl;clear kk fin flt hcnt k k1 w w1 wln e;refine Aa aM3 (by simp [QO]) λwf rp=>?_;unfold QO;simp (disch:=omega)only[go_sem, *];refine Pf.go (r1) (by simp only [go_sem]) λ_=>?_;simp (disch:=omega)only[go_sem, *];refine Pf.go (im) (by simp only [go_sem]) λ_=>?_;simp (disch:=omega)only[go_sem, *]
 .skip
  have er:Bb 9=(true,false,false):=rfl;have r1:=Bm (op:=9);rw [er] at r1;clear er;have hA:A<8:=g.a rfl;have eA:=Bq (x:=nth s.all i) (y:=nth s.procs i) hx.1 hA;have A8:1+A<=10:=by omega
  have A0:0<=(A:Int):=by omega
  have im:=Oo (x:=⟨9,A,B,C⟩) ⟨by simp;omega,by simp;omega,by simp;omega⟩;rw [show Kv ⟨9,A,B,C⟩=256*B+C from rfl] at im
  by_cases hz:nth (nth s.all i).r A=0
  .have e:Cu c (nk c) Q (Cb s i (IntKind.wrap .i64 ((nth s.all i).pc+4))) s.clk i 9 A B C=(0,0,{ s with all:=s.all.set i ⟨(nth s.all i).r,256*B+C⟩ },Q):=by
    unfold Cu;rw [if_neg (by decide),if_neg (by decide),if_neg (by decide),if_pos rfl,Fd hi,if_pos hz,KG];rfl
   have f1:=fin (x':=⟨(nth s.all i).r,256*B+C⟩) (y':=nth s.procs i) (by rw [Dr hip];exact e) hx rfl;clear kk fin flt hcnt k k1 w w1 wln e;refine Aa aM3 (by simp [QO]) λwf rp=>?_;unfold QO;simp (disch:=omega)only[go_sem, *];refine Pf.go (r1) (by simp only [go_sem]) λ_=>?_;simp (disch:=omega)only[go_sem, *];refine Pf.go (im) (by simp only [go_sem]) λ_=>?_;simp (disch:=omega)only[go_sem, *]
  .have e:Cu c (nk c) Q (Cb s i (IntKind.wrap .i64 ((nth s.all i).pc+4))) s.clk i 9 A B C=(0,0,{ s with all:=s.all.set i ⟨(nth s.all i).r,IntKind.wrap .i64 ((nth s.all i).pc+4)⟩ },Q):=by
    unfold Cu;rw [if_neg (by decide),if_neg (by decide),if_neg (by decide),if_pos rfl,Fd hi,if_neg hz];rfl
   have f1:=fin (x':=⟨(nth s.all i).r,IntKind.wrap .i64 ((nth s.all i).pc+4)⟩) (y':=nth s.procs i) (by rw [Dr hip];exact e) hx rfl;clear kk fin flt hcnt k k1 w w1 wln e;refine Aa aM3 (by simp [QO]) λwf rp=>?_;unfold QO;simp (disch:=omega)only[go_sem, *];refine Pf.go (r1) (by simp only [go_sem]) λ_=>?_;simp (disch:=omega)only[go_sem, *]
 .skip
  have er:Bb 10=(true,false,false):=rfl;have r1:=Bm (op:=10);rw [er] at r1;clear er;have hA:A<8:=g.a rfl;have eA:=Bq (x:=nth s.all i) (y:=nth s.procs i) hx.1 hA;have A8:1+A<=10:=by omega
  have A0:0<=(A:Int):=by omega
  have hu:=BH (i:=A) hx.2;have f23:=AI.f23 (c:=c) (a:=a) (f:=f) (clk:=s.clk) (st:=s.halt) w.l3;have e:Cu c (nk c) Q (Cb s i (IntKind.wrap .i64 ((nth s.all i).pc+4))) s.clk i 10 A B C=(0,0,{ s with all:=s.all.set i ⟨(nth s.all i).r,IntKind.wrap .i64 ((nth s.all i).pc+4)⟩,procs:=s.procs.set i { nth s.procs i with wake:=s.clk+nth (nth s.all i).r A+1 } },Q):=by
   unfold Cu;rw [if_neg (by decide),if_neg (by decide),if_neg (by decide),if_neg (by decide),if_pos rfl,Fd hi];rfl
  have f1:=fin (x':=⟨(nth s.all i).r,IntKind.wrap .i64 ((nth s.all i).pc+4)⟩) (y':={ nth s.procs i with wake:=s.clk+nth (nth s.all i).r A+1 }) e hx rfl;have s9:=λv=>zM (x:=nth s.all i) (y:=nth s.procs i) (v:=v) hx.1;have wl9:=λv=>Ff (x:=nth s.all i) (y:={ nth s.procs i with wake:=v }) hx.1;have ws9:=λ(v u:Int)=>JO (x:=nth s.all i) (y:={ nth s.procs i with wake:=u }) (v:=v);clear kk fin flt hcnt k k1 w w1 wln e;refine Aa aM3 (by simp [QO]) λwf rp=>?_;unfold QO;simp (disch:=omega)only[go_sem, *];refine Pf.go (r1) (by simp only [go_sem]) λ_=>?_;simp (disch:=omega)only[go_sem, *]
 .have hop2:=hop;have e:=pZ (c:=c) (kn:=nk c) (q:=Q) (t:=s.clk) (np:=IntKind.wrap .i64 ((nth s.all i).pc+4)) (A:=A) (B:=B) (C:=C) hi hop;have kf:=YF (c:=c) (kn:=nk c) (q:=Q) (op:=op) (A:=A) (B:=B) (x:=nth s.all i);have fin2 : ∀ {h2 : AH} {X2 : List V}, Wr (h.alloc ⟨4, [[.i .i64 op, .i .i64 A, .i .i64 B, .i .i64 C]]⟩) (λj => j = Ap a \/ DS jb jp jC jL X j) h2 -> WK b2 h2 c.c jb jp jC jL X2 (AW c (nk c) Q op A B (nth s.all i)).2.2.2 -> (∀ j, DS jb jp jC jL X2 j -> DS jb jp jC jL X j \/ (h.alloc ⟨4, [[.i .i64 op, .i .i64 A, .i .i64 B, .i .i64 C]]⟩).next <= j) -> WA b h2 wp a f c { s with all := s.all.set i (AW c (nk c) Q op A B (nth s.all i)).2.2.1 } ->
      ((AW c (nk c) Q op A B (nth s.all i)).2.1=0->K (.tup [.i .u32 (AW c (nk c) Q op A B (nth s.all i)).1,.i .i64 0]) (h2.put (Ap a) ⟨11,(AP h2 a).set (Ca a+i) (Ci (⟨(AW c (nk c) Q op A B (nth s.all i)).2.2.1.r,IntKind.wrap .i64 ((nth s.all i).pc+4)⟩,nth s.procs i))⟩)) /\
      ((AW c (nk c) Q op A B (nth s.all i)).2.1≠0->K (.tup [.i .u32 0,.i .i64 (AW c (nk c) Q op A B (nth s.all i)).2.1]) h2):=λ{h2 X2} x2 q2 i2 w2=>by
   have z:=kk;rw [e] at z;have hw:Wr h (λj=>GZ wp a f j\/DS jb jp jC jL X j) h2:=Wr.trans Wr.refl.alloc x2 (λj _ e=>e.imp (λe=>.inr (.inl e)) (λe=>e));have hi3:∀ j,DS jb jp jC jL X2 j->DS jb jp jC jL X j\/h.next<=j:=λj e=>(i2 j e).imp (λz=>z) (λz=>Nat.le_of_succ_le z);refine ⟨λh0=>?_,λh0=>?_⟩
   .simp only [h0,if_true] at z;have hx':=w2.l4 _ (Az (L:=s.all.set i (AW c (nk c) Q op A B (nth s.all i)).2.2.1) (j:=i) (by simpa using hi));rw [Ba (by simpa using hi),List.getElem_set_self] at hx';have e2:=w2.setE (x':=⟨(AW c (nk c) Q op A B (nth s.all i)).2.2.1.r,IntKind.wrap .i64 ((nth s.all i).pc+4)⟩) (y':=nth s.procs i) hip (Ak.refl _) hx' rfl;simp only [Dr hip,List.set_set] at e2;refine z _ X2 (hw.put (.inr (.inl (.inr (.inl rfl))))) (q2.keep (J:=(·=Ap a)) (Wr.refl.put (.inr rfl)) (λj e1 e2=>?_)) hi3 e2;rcases i2 j e1 with q | q
    .exact dj j q (.inr (.inl e2))
    .simp only [go_sem] at q;omega
   .have ef:=kf h0;simp only [h0,if_false] at z;rw [ef] at z w2 q2 ⊢;rw [Gi hi] at w2;exact z _ X2 hw q2 hi3 w2
  have rows:∀ {h2:AH} {x':ST},WA b h2 wp a f c { s with all:=s.all.set i x' }->x'.r.length=8->h2.lim<=Ap a/\h2.get (Ap a)=some ⟨11,AP h2 a⟩/\(AP h2 a)[Ca a+i]?=some (Ci (x',nth s.procs i))/\(Ci (x',nth s.procs i)).length=11:=λ{h2 x'} w2 hx'=>by
   have l3:=w2.lim;obtain ⟨_,_,_,_,g2,_,r2,_,_⟩:=w2.sa.facts;have z2:((s.all.set i x').zip s.procs).length=s.procs.length:=by simp;omega
   have g2:=g2 (by show 0<((s.all.set i x').zip s.procs).length;omega);have r2:=r2 i (by show i<((s.all.set i x').zip s.procs).length;omega);refine ⟨om,g2, ?_,Ff hx'⟩;rw [r2];show some (Ci (nth ((s.all.set i x').zip s.procs) i))=_;rw [Ba om,List.getElem_zip,List.getElem_set_self,<-Ba hip]
  have crb:(AW c (nk c) Q op A B (nth s.all i)).2.2.1.r.length=8:=by
   unfold AW
   repeat' split
   all_goals simp [hx.1]
  clear kk fin flt hcnt wln kf e;rcases hop with rfl | rfl | rfl | rfl
  .skip
   have er:Bb 11=(false,true,false):=rfl;have r1:=Bm (op:=11);rw [er] at r1;clear er;have hB:B<8:=g.b rfl;have eB:=Bq (x:=nth s.all i) (y:=nth s.procs i) hx.1 hB;have B8:1+B<=10:=by omega
   refine Aa aM3 (by simp [QO]) λwf rp=>?_;unfold QO;simp (disch:=omega)only[go_sem, *];refine Pf.go (r1) (by simp only [go_sem]) λ_=>?_;simp (disch:=omega)only[go_sem, *];refine Ii w1 k1 hcap hp hi g hop2 dj ?_;intro h2 X2 x2 q2 i2 w2;obtain ⟨y1,y2⟩:=fin2 x2 q2 i2 w2;obtain ⟨g1,g2,g3,g4⟩:=rows w2 crb;clear fin2 rows x2 q2 i2 w2 w1 k1 w k
   by_cases hz:(AW c (nk c) Q 11 A B (nth s.all i)).2.1=0
   .have y1:=y1 hz;clear y2;simp (disch:=omega)only[go_sem, *]
   .have y2:=y2 hz;clear y1;simp (disch:=omega)only[go_sem, *]
  .skip
   have er:Bb 12=(false,true,false):=rfl;have r1:=Bm (op:=12);rw [er] at r1;clear er;have hB:B<8:=g.b rfl;have eB:=Bq (x:=nth s.all i) (y:=nth s.procs i) hx.1 hB;have B8:1+B<=10:=by omega
   refine Aa aM3 (by simp [QO]) λwf rp=>?_;unfold QO;simp (disch:=omega)only[go_sem, *];refine Pf.go (r1) (by simp only [go_sem]) λ_=>?_;simp (disch:=omega)only[go_sem, *];refine Ii w1 k1 hcap hp hi g hop2 dj ?_;intro h2 X2 x2 q2 i2 w2;obtain ⟨y1,y2⟩:=fin2 x2 q2 i2 w2;obtain ⟨g1,g2,g3,g4⟩:=rows w2 crb;clear fin2 rows x2 q2 i2 w2 w1 k1 w k
   by_cases hz:(AW c (nk c) Q 12 A B (nth s.all i)).2.1=0
   .have y1:=y1 hz;clear y2;simp (disch:=omega)only[go_sem, *]
   .have y2:=y2 hz;clear y1;simp (disch:=omega)only[go_sem, *]
  .skip
   have er:Bb 15=(true,false,false):=rfl;have r1:=Bm (op:=15);rw [er] at r1;clear er;have hA:A<8:=g.a rfl;have eA:=Bq (x:=nth s.all i) (y:=nth s.procs i) hx.1 hA;have A8:1+A<=10:=by omega
   have A0:0<=(A:Int):=by omega
   refine Aa aM3 (by simp [QO]) λwf rp=>?_;unfold QO;simp (disch:=omega)only[go_sem, *];refine Pf.go (r1) (by simp only [go_sem]) λ_=>?_;simp (disch:=omega)only[go_sem, *];refine Ii w1 k1 hcap hp hi g hop2 dj ?_;intro h2 X2 x2 q2 i2 w2;obtain ⟨y1,y2⟩:=fin2 x2 q2 i2 w2;obtain ⟨g1,g2,g3,g4⟩:=rows w2 crb;clear fin2 rows x2 q2 i2 w2 w1 k1 w k
   by_cases hz:(AW c (nk c) Q 15 A B (nth s.all i)).2.1=0
   .have y1:=y1 hz;clear y2;simp (disch:=omega)only[go_sem, *]
   .have y2:=y2 hz;clear y1;simp (disch:=omega)only[go_sem, *]
  .skip
   have er:Bb 16=(false,false,false):=rfl;have r1:=Bm (op:=16);rw [er] at r1;clear er;refine Aa aM3 (by simp [QO]) λwf rp=>?_;unfold QO;simp (disch:=omega)only[go_sem, *];refine Pf.go (r1) (by simp only [go_sem]) λ_=>?_;simp (disch:=omega)only[go_sem, *];refine Ii w1 k1 hcap hp hi g hop2 dj ?_;intro h2 X2 x2 q2 i2 w2;obtain ⟨y1,y2⟩:=fin2 x2 q2 i2 w2;obtain ⟨g1,g2,g3,g4⟩:=rows w2 crb;clear fin2 rows x2 q2 i2 w2 w1 k1 w k
   by_cases hz:(AW c (nk c) Q 16 A B (nth s.all i)).2.1=0
   .have y1:=y1 hz;clear y2;simp (disch:=omega)only[go_sem, *]
   .have y2:=y2 hz;clear y1;simp (disch:=omega)only[go_sem, *]
 .skip
  have er:Bb 13=(true,false,false):=rfl;have r1:=Bm (op:=13);rw [er] at r1;clear er;have hA:A<8:=g.a rfl;have eA:=Bq (x:=nth s.all i) (y:=nth s.procs i) hx.1 hA;have A8:1+A<=10:=by omega
  have A0:0<=(A:Int):=by omega
  have f5:=AI.f5 (c:=c) (a:=a) (f:=f) (mem:=s.mem) (clk:=s.clk) (st:=s.halt);have f23:=AI.f23 (c:=c) (a:=a) (f:=f) (clk:=s.clk) (st:=s.halt) w.l3;obtain ⟨m,hm⟩:∃ m:Nat,s.clk=m:=⟨s.clk.toNat,om⟩
  by_cases hk:(m:Int)<c.ins.length
  .obtain ⟨f1,s1⟩:=hcnt (by decide) (by simp) hA (nth c.ins m) (by unfold DI;simp [hm,hk]);have wl1:=wln A (nth c.ins m);clear kk fin flt hcnt k k1 w w1 wln;rw [hm] at f23 gp rl f5;refine Aa aM3 (by simp [QO]) λwf rp=>?_;unfold QO;simp (disch:=omega)only[go_sem, *];refine Pf.go (r1) (by simp only [go_sem]) λ_=>?_;simp (disch:=omega)only[go_sem, *]
  .obtain ⟨f1,s1⟩:=hcnt (by decide) (by simp) hA 0 (by unfold DI;simp [hm,hk]);have wl1:=wln A 0;clear kk fin flt hcnt k k1 w w1 wln;rw [hm] at f23 gp rl f5;refine Aa aM3 (by simp [QO]) λwf rp=>?_;unfold QO;simp (disch:=omega)only[go_sem, *];refine Pf.go (r1) (by simp only [go_sem]) λ_=>?_;simp (disch:=omega)only[go_sem, *]
 .skip
  have er:Bb 14=(true,false,false):=rfl;have r1:=Bm (op:=14);rw [er] at r1;clear er;have hA:A<8:=g.a rfl;have eA:=Bq (x:=nth s.all i) (y:=nth s.procs i) hx.1 hA;have A8:1+A<=10:=by omega
  have A0:0<=(A:Int):=by omega
  have f23:=AI.f23 (c:=c) (a:=a) (f:=f) (clk:=s.clk) (st:=s.halt) w.l3;obtain ⟨f1,s1⟩:=hcnt (by decide) (by simp) hA (IntKind.wrap .u32 s.clk) (by unfold DI;simp);have wl1:=wln A (IntKind.wrap .u32 s.clk);clear kk fin flt hcnt k k1 w w1 wln;refine Aa aM3 (by simp [QO]) λwf rp=>?_;unfold QO;simp (disch:=omega)only[go_sem, *];refine Pf.go (r1) (by simp only [go_sem]) λ_=>?_;simp (disch:=omega)only[go_sem, *]
 .skip
  have er:Bb 17=(false,false,false):=rfl;have r1:=Bm (op:=17);rw [er] at r1;clear er;have e:Cu c (nk c) Q (Cb s i (IntKind.wrap .i64 ((nth s.all i).pc+4))) s.clk i 17 A B C=(0,0,{ s with all:=s.all.set i ⟨(nth s.all i).r,IntKind.wrap .i64 ((nth s.all i).pc+4)⟩,procs:=s.procs.set i { nth s.procs i with ended:=true } },Q):=by
   unfold Cu;rw [if_neg (by decide),if_neg (by decide),if_neg (by decide),if_neg (by decide),if_neg (by decide),if_pos rfl];rfl
  have f1:=fin (x':=⟨(nth s.all i).r,IntKind.wrap .i64 ((nth s.all i).pc+4)⟩) (y':={ nth s.procs i with ended:=true }) e hx rfl;have s10:=iG (x:=nth s.all i) (y:=nth s.procs i) (v:=true) hx.1;have wl10:=Ff (x:=nth s.all i) (y:={ nth s.procs i with ended:=true }) hx.1;have ws10:=λv:Int=>JO (x:=nth s.all i) (y:={ nth s.procs i with ended:=true }) (v:=v);clear kk fin flt hcnt k k1 w w1 wln e;refine Aa aM3 (by simp [QO]) λwf rp=>?_;unfold QO;simp (disch:=omega)only[go_sem, *];refine Pf.go (r1) (by simp only [go_sem]) λ_=>?_;simp (disch:=omega)only[go_sem, *]
end
end Go.Ab.T
namespace Go.Ab.T
open Go Go.Ab
set_option maxHeartbeats 16000000
set_option maxRecDepth 4000
section
variable {c:PC} {kn:Kn} {q:kn.σ} {s:PS} {t op pc kd n np:Int} {i A B C:Nat}
theorem qG:Bw c { s with clk:=n } t i pc kd={ Bw c s t i pc kd with clk:=n }:=by
 unfold Bw Cb Fw;simp only []
 repeat' split
 all_goals rfl
theorem Gw:(Bw c s t i pc kd).fl=s.fl++[⟨t,i,kd⟩]/\(Bw c s t i pc kd).clk=s.clk:=by
 unfold Bw Cb Fw;simp only []
 repeat' split
 all_goals exact ⟨rfl,rfl⟩
theorem Zd {P:List Int} {x:E7} (h:Bo P pc=(x,false)):x=⟨0,0,0,0⟩:=by
 unfold Bo at h;split at h
 .exact (congrArg Prod.fst h).symm
 .cases congrArg Prod.snd h
theorem aL7 (hi:i<s.all.length) (hz:(Cu c kn q s t i op A B C).2.1≠0):(Cu c kn q s t i op A B C).2.2.1=s/\1<=(Cu c kn q s t i op A B C).2.1/\(Cu c kn q s t i op A B C).2.1<=5:=by
 unfold Cu at hz ⊢;split
 .rename_i h;rw [if_pos h] at hz;unfold Cm at hz ⊢;split
  .exact ⟨Gi hi,Int.le.intro 3 rfl,Int.le.intro 1 rfl⟩
  .rename_i h2;simp only [if_neg h2] at hz;exact absurd rfl hz
 .rename_i h;rw [if_neg h] at hz;split
  .rename_i h;rw [if_pos h] at hz;unfold Bk at hz ⊢;split
   .refine ⟨?_,Int.le.intro 2 rfl,Int.le.intro 2 rfl⟩;show ({ s with all:=s.all.set i (nth s.all i) }:PS)=s;exact Gi hi
   .rename_i h2;simp only [if_neg h2] at hz;split at hz<;>exact absurd rfl hz
  .rename_i h;rw [if_neg h] at hz;split
   .rename_i h;rw [if_pos h] at hz;exact absurd rfl hz
   .rename_i h;rw [if_neg h] at hz;split
    .rename_i h;rw [if_pos h] at hz;exact absurd rfl hz
    .rename_i h;rw [if_neg h] at hz;split
     .rename_i h;rw [if_pos h] at hz;exact absurd rfl hz
     .rename_i h;rw [if_neg h] at hz;split
      .rename_i h;rw [if_pos h] at hz;exact absurd rfl hz
      .rename_i h;rw [if_neg h] at hz;split
       .rename_i h;rw [if_pos h] at hz;rw [YF hz];exact ⟨Gi hi,Int.le.intro 4 rfl,Int.le.intro 0 rfl⟩
       .rename_i h;rw [if_neg h] at hz;exact absurd rfl hz
theorem qI (hi:i<s.all.length):Bw c (Cb s i np) t i pc kd=Bw c s t i pc kd:=by
 have e:Cb (Cb s i np) i pc=Cb s i pc:=by
  unfold Cb;simp only [List.set_set];rw [Ba (by simpa using hi),List.getElem_set_self]
 unfold Bw;rw [e];rfl
theorem aYF:Cu c kn q (Cb { s with clk:=n } i np) t i op A B C=((Cu c kn q (Cb s i np) t i op A B C).1,(Cu c kn q (Cb s i np) t i op A B C).2.1,{ (Cu c kn q (Cb s i np) t i op A B C).2.2.1 with clk:=n },(Cu c kn q (Cb s i np) t i op A B C).2.2.2):=by
 unfold Cu Cb;simp only []
 repeat' split
 all_goals rfl
end
section
variable {b b2 wp i jb jp:Nat} {h h':AH} {a f jC jL:V} {c:PC} {s:PS} {X:List V} {Q:List (List Int)} {K:V->AH->Prop}
theorem WA.setC {n:Int} (w:WA b h wp a f c s) (hl:s.fl.length<=n+1) (h0:0<=n) (h1:n<3000000000):WA b (h.put wp ⟨26,[AI c a f s.mem n s.halt]⟩) wp a f c { s with clk:=n }:=
 ⟨by rw [Ae,Ar rfl],AC w.sa _ _ (.inr (Ne.symm w.da)),AC w.sf _ _ (w.df.imp (λz=>z) (λz=>Ne.symm z.1)),w.lim,w.bp,w.da,w.df,w.l1,w.l2,w.l3,w.l4,w.l5,⟨hl,h0,h1⟩,w.pl,w.pr⟩
theorem iP (w:WA b h wp a f c s) (k:WK b2 h c.c jb jp jC jL X Q) (g:PH c) (n:PN c) (hcap:∀ x∈c.c.chans,x.cap<=8) (dj:∀ j,DS jb jp jC jL X j->¬ GZ wp a f j) (hl:s.fl.length<=s.clk) (hk:s.clk+1<3000000000)
    (kk:∀ h' a' f' X',Wr h (λj=>GZ wp a f j\/DS jb jp jC jL X j) h'->WK b2 h' c.c jb jp jC jL X' (Bn c (nk c) Q s).2.2.2->(∀ j,DS jb jp jC jL X' j->DS jb jp jC jL X j\/h.next<=j)->(∀ j,GZ wp a' f' j->GZ wp a f j\/h.next<=j)->(∀ j,DS jb jp jC jL X' j->¬ GZ wp a' f' j)->WA b h' wp a' f' c (Bn c (nk c) Q s).2.2.1->K (.tup [.agg (Bn c (nk c) Q s).1.enc,.b (Bn c (nk c) Q s).2.1]) h'):Cq tp ZO [.p wp 0 0,.p jb 0 0] h K:=by
 have gp:=w.gp;have bp:=w.bp;have lim:=w.lim;have l6:=w.l6;have f23:=AI.f23 (c:=c) (a:=a) (f:=f) (clk:=s.clk) (st:=s.halt) w.l3;have f25:=AI.f25 (c:=c) (a:=a) (f:=f) (clk:=s.clk) (st:=s.halt) w.l3;have rl:=AI.len (c:=c) (a:=a) (f:=f) (clk:=s.clk) (st:=s.halt) w.l3;have kl:=λj e=>(k.low j e).2;have X1:Ak h (h.alloc ⟨6,[[.i .i64 0,.i .i64 0,.i .i64 0,.i .i64 0,.i .i64 0,.i .u32 0]]⟩):=by (repeat (first | exact Ak.refl _ | refine Ak.alloc ?_ _ | (refine Ak.put ?_ _ _ ?_;rotate_left;(first | omega | (simp only [Ac,Ah];omega)))))
 cases hh:s.halt with
 | true=>
  have e:Bn c (nk c) Q s=(⟨0,0,0,0,0,0⟩,false,s,Q):=if_pos hh;rw [e] at kk;have x2:Ak h ((h.alloc ⟨6,[[.i .i64 0,.i .i64 0,.i .i64 0,.i .i64 0,.i .i64 0,.i .u32 0]]⟩).put h.next ⟨6,[[.i .i64 0,.i .i64 0,.i .i64 0,.i .i64 0,.i .i64 0,.i .u32 0]]⟩):=by (repeat (first | exact Ak.refl _ | refine Ak.alloc ?_ _ | (refine Ak.put ?_ _ _ ?_;rotate_left;(first | omega | (simp only [Ac,Ah];omega)))))
  have fin:=kk _ a f X (Wr.refl.ext x2) (k.keep (J:=λ_=>False) (Wr.refl.ext x2) (λ_ _ e=>e)) (λj e=>.inl e) (λj e=>.inl e) dj (w.ext x2);clear kk w k X1 x2 e;rw [hh] at f25 gp rl;refine Aa aME (by simp [Qp]) λwf rp=>?_;unfold Qp;simp (disch:=omega)only[go_sem, *];exact fin
 | false=>
  rw [hh] at f25 gp rl f23;have pk:=λ{K:V->AH->Prop} {h0:AH} hg hn hlim=>iJ (K:=K) (h:=h0) (w.ext X1) hg hn hlim g.g;refine Aa aME (by simp [Qp]) λwf rp=>?_;unfold Qp;simp (disch:=omega)only[go_sem, *];refine pk (λ_=>rfl) rfl (Nat.le_refl _) ?_;intro h2 x2;generalize hb:h2.back _=hq;have e0:h2.back h.lim=hq:=hb;have x3:Ak (h.alloc ⟨6,[[.i .i64 0,.i .i64 0,.i .i64 0,.i .i64 0,.i .i64 0,.i .u32 0]]⟩) hq:=by rw [<- e0];exact ⟨x2.next,rfl,x2.get⟩
  clear hb e0 x2 pk h2;have xh:=X1.trans x3;have n3:=x3.next;have l3:=x3.lim;have g3:=x3.get h.next (by simp only [go_sem];omega);simp (disch:=omega)only[go_sem] at n3 l3 g3;have w3:=w.ext xh;have w3l:=w.l3;have k3:=k.keep (J:=λ_=>False) (Wr.refl.ext xh) (λ_ _ e=>e);have gp3:=w3.gp;rw [hh] at gp3;clear gp k;have lk:=k3.low;have fin : ∀ {H : AH} {a' f' : V} {X' : List V} {s' : PS} {L : Loc} {q' : List (List Int)}, Wr h (λj => GZ wp a f j \/ DS jb jp jC jL X j) H -> WK b2 H c.c jb jp jC jL X' q' -> (∀ j, DS jb jp jC jL X' j -> DS jb jp jC jL X j \/ h.next < j) -> (∀ j, GZ wp a' f' j -> GZ wp a f j \/ h.next < j) -> (∀ j, DS jb jp jC jL X' j -> ¬ GZ wp a' f' j) -> WA b H wp a' f' c s' -> s'.fl.length <= s.clk + 1 -> Bn c (nk c) Q s = (L, true, { s' with clk := s.clk + 1 }, q') ->
      K (.tup [.agg L.enc,.b true]) ((H.put wp ⟨26,[AI c a' f' s'.mem (s.clk+1) s'.halt]⟩).put h.next ⟨6,[L.enc]⟩):=λ{H a' f' X' s' L q'} hw q1 i1 i2 d' w' hl' e=>by
   rw [e] at kk;have na:=λj (e:GZ wp a f j)=>(w.low j e).2;have nx:=hw.next;refine kk _ a' f' X' ((hw.put (.inr (.inl (.inl rfl)))).put (.inl (Nat.le_refl _))) (q1.keep (J:=λj=>j=wp\/j=h.next) ((Wr.refl.put (.inr (.inl rfl))).put (.inr (.inr rfl))) (λj e1 e2=>?_)) (λj e=>(i1 j e).imp (λz=>z) Nat.le_of_lt) (λj e=>(i2 j e).imp (λz=>z) Nat.le_of_lt) d' ((w'.setC (n:=s.clk+1) om om hk).keep (J:=(·=h.next)) (Wr.refl.put (.inr rfl)) (λj e1 e2=>?_))
   .rcases e2 with e2 | e2
    .exact d' j e1 (.inl e2)
    .rcases i1 j e1 with z | z
     .have:=kl j z;omega
     .omega
   .rcases i2 j e1 with z | z
    .have:=na j z;omega
    .omega
  have ff : ∀ {H h4 : AH} {a4 f4 : V} {X' : List V} {L : Loc} {Q' : List (List Int)} {i : Nat} {k : Int}, Wr h (λj => GZ wp a f j \/ DS jb jp jC jL X j) H -> h.next < H.next -> WK b2 H c.c jb jp jC jL X' Q' -> (∀ j, DS jb jp jC jL X' j -> DS jb jp jC jL X j \/ h.next < j) -> Wt wp H a f h4 a4 f4 -> WA b h4 wp a4 f4 c (Bw c s s.clk i (nth s.all i).pc k) -> Bn c (nk c) Q s = (L, true, Bw c { s with clk := s.clk + 1 } s.clk i (nth s.all i).pc k, Q') ->
      K (.tup [.agg L.enc,.b true]) ((h4.put wp ⟨26,[AI c a4 f4 (Bw c s s.clk i (nth s.all i).pc k).mem (s.clk+1) (Bw c s s.clk i (nth s.all i).pc k).halt]⟩).put h.next ⟨6,[L.enc]⟩):=λ{H h4 a4 f4 X' L Q' i k} xH nH kH iH wt w4 e=>by
   have na:=λj (e:GZ wp a f j)=>(w.low j e).2;have dH:∀ j,DS jb jp jC jL X' j->¬ GZ wp a f j:=λj e1 e2=>(iH j e1).elim (λz=>dj j z e2) (λz=>by have:=na j e2;omega);refine fin (xH.trans wt.w λj _ e=>.inl e) (kH.keep wt.w dH) iH (λj e=>(wt.i j e).imp (λz=>z) (λz=>by omega)) (λj e1 e2=>?_) w4 (by rw [Gw.1];simp;omega) ?_
   .rcases wt.i j e2 with z | z
    .exact dH j e1 z
    .have:=(kH.low j e1).2;omega
   .rw [e,qG]
  by_cases hp:DD s.procs s.clk<0
  .have e:Bn c (nk c) Q s=(⟨s.clk,-1,0,0,0,0⟩,true,{ s with clk:=s.clk+1 },Q):=by unfold Bn;rw [if_neg (by rw [hh];decide),if_pos hp];rfl
   have xf:Ak hq ((hq.alloc ⟨6,[[.i .i64 0,.i .i64 0,.i .i64 0,.i .i64 0,.i .i64 0,.i .u32 0]]⟩).put hq.next ⟨6,[[.i .i64 s.clk,.i .i64 (DD s.procs s.clk),.i .i64 0,.i .i64 0,.i .i64 0,.i .u32 0]]⟩):=by (repeat (first | exact Ak.refl _ | refine Ak.alloc ?_ _ | (refine Ak.put ?_ _ _ ?_;rotate_left;(first | omega | (simp only [Ac,Ah];omega)))))
   have f1:=fin (Wr.refl.ext (xh.trans xf)) (k3.keep (J:=λ_=>False) (Wr.refl.ext xf) (λ_ _ e=>e)) (λj e=>.inl e) (λj e=>.inl e) dj (w3.ext xf) w.l6.1 e;clear fin kk w k3 w3 xf e;rw [hh] at f1;have hm:DD s.procs s.clk = -1:=by
    unfold DD at hp ⊢;split
    .rfl
    .rename_i z;rw [if_neg z] at hp;omega
   have s23:=AI.s23 (c:=c) (a:=a) (f:=f) (clk:=s.clk) (clk':=s.clk+1) (st:=false) w3l;rw [hm] at f1 ⊢;clear hm hp;simp (disch:=omega)only[go_sem, *] at f1;simp (disch:=omega)only[go_sem, *]
  .obtain ⟨i,hi,hl2⟩:=U0 hp;have ep:Bn c (nk c) Q s=((E3 c (nk c) Q s i).1,true,(E3 c (nk c) Q s i).2.1,(E3 c (nk c) Q s i).2.2):=by unfold Bn;rw [if_neg (by rw [hh];decide),if_neg hp,hi];rfl
   have l2:=w.l2;have hi2:i<s.all.length:=by omega
   have hx:=w.l4 _ (Az hi2);have la:=w.low _ (.inr (.inl rfl));have nda:=w.da;rw [hi] at hp ⊢;have hz:(0:Int)<=i:=Int.natCast_nonneg i;have fe:=WZ (P:=c.prog) (pc:=(nth s.all i).pc) n.b;have es:E3 c (nk c) Q s i=(if (Bo c.prog (nth s.all i).pc).2=false then (⟨s.clk,i,(nth s.all i).pc,(Bo c.prog (nth s.all i).pc).1.op,2,0⟩,Bw c { s with clk:=s.clk+1 } s.clk i (nth s.all i).pc 2,Q)
    else if EQ (Bo c.prog (nth s.all i).pc).1=false then (⟨s.clk,i,(nth s.all i).pc,(Bo c.prog (nth s.all i).pc).1.op,1,0⟩,Bw c { s with clk:=s.clk+1 } s.clk i (nth s.all i).pc 1,Q)
    else sO c (nk c) Q s i (Bo c.prog (nth s.all i).pc).1):=rfl
   rw [es] at ep;clear es kk;have ir:=W4 (i:=(Bo c.prog (nth s.all i).pc).1);have f4:=AI.f4 (c:=c) (a:=a) (f:=f) (mem:=s.mem) (clk:=s.clk) (st:=false);have f6:=AI.f6 (c:=c) (a:=a) (f:=f) (mem:=s.mem) (clk:=s.clk) (st:=false);obtain ⟨_,_,_,_,aget,aat,arow,_,_⟩:=w3.sa.facts;have zl:(s.all.zip s.procs).length=s.procs.length:=by simp;omega
   rw [zl] at aget aat arow;replace aget:=aget om;replace arow:=arow i om;rw [GN l2 hl2] at arow;replace aat:=λcs=>aat .i64 i cs om om;simp only [Int.toNat_natCast] at aat
   have wl:=Ff (x:=nth s.all i) (y:=nth s.procs i) hx.1;have w0:=aZk (x:=nth s.all i) (y:=nth s.procs i);have fno:=λx=>Zd (P:=c.prog) (pc:=(nth s.all i).pc) (x:=x);generalize Bo c.prog (nth s.all i).pc=y at *;obtain ⟨⟨op,A,B,C⟩,ok⟩:=y;simp only [E7.enc] at fe ir;have na:=λj (e:GZ wp a f j)=>(w.low j e).2
   cases ok with
   | false=>
    have hop:=fno _ rfl;injection hop with hop _ _ _
    clear ir fno fin;subst hop;rw [if_pos rfl] at ep;simp (disch:=omega)only[go_sem, *];refine Pf.go fe (by simp only [go_sem]) λ_=>?_;simp (disch:=omega)only[go_sem, *];refine IZ (k:=2) (w3.ext ?_) g hi2 hh hl (by decide) (by decide) ?_
    ·(repeat (first | exact Ak.refl _ | refine Ak.alloc ?_ _ | (refine Ak.put ?_ _ _ ?_;rotate_left;(first | omega | (simp only [Ac,Ah];omega)))))
    intro h4 a4 f4 wt w4;have fin:=ff (Wr.refl.ext (xh.trans (by (repeat (first | exact Ak.refl _ | refine Ak.alloc ?_ _ | (refine Ak.put ?_ _ _ ?_;rotate_left;(first | omega | (simp only [Ac,Ah];omega)))))))) (by simp only [go_sem];omega) (k3.keep (J:=λ_=>False) (Wr.refl.ext (by (repeat (first | exact Ak.refl _ | refine Ak.alloc ?_ _ | (refine Ak.put ?_ _ _ ?_;rotate_left;(first | omega | (simp only [Ac,Ah];omega))))))) (λ_ _ e=>e)) (λj e=>.inl e) wt w4 ep;clear ff ep;have q6:=wt.w.get hq.next (by simp only [go_sem];omega) (λe=>by have:=na _ e;omega);have q0:=wt.w.get h.next (by simp only [go_sem];omega) (λe=>by have:=na _ e;omega);simp (disch:=omega)only[go_sem,g3] at q6 q0;have w4m:=w4.l3;have w4g:=w4.gp;have w4b:=w4.bp;have w4l:=w4.lim;have w4c:=(Gw (c:=c) (s:=s) (t:=s.clk) (i:=i) (pc:=(nth s.all i).pc) (kd:=2)).2;generalize Bw c s s.clk i (nth s.all i).pc 2=s4 at *;rw [w4c] at w4g;have f23':=AI.f23 (c:=c) (a:=a4) (f:=f4) (clk:=s.clk) (st:=s4.halt) w4m;have s23':=AI.s23 (c:=c) (a:=a4) (f:=f4) (clk:=s.clk) (clk':=s.clk+1) (st:=s4.halt) w4m;have rl':=λn=>AI.len (c:=c) (a:=a4) (f:=f4) (clk:=n) (st:=s4.halt) w4m;clear wt w4 w k3 w3;simp (disch:=omega)only[go_sem, *] at fin;simp (disch:=omega)only[go_sem, *]
   | true=>
    clear fno;simp only [Bool.true_eq_false,if_false] at ep
    cases hr:EQ ⟨op,A,B,C⟩ with
    | false=>
     rw [hr] at ir;simp only [hr,if_true] at ep;clear hr fin;simp (disch:=omega)only[go_sem, *];refine Pf.go fe (by simp only [go_sem]) λ_=>?_;simp (disch:=omega)only[go_sem, *];refine Pf.go ir (by simp only [go_sem]) λ_=>?_;simp (disch:=omega)only[go_sem, *];refine IZ (k:=1) (w3.ext ?_) g hi2 hh hl (by decide) (by decide) ?_
     ·(repeat (first | exact Ak.refl _ | refine Ak.alloc ?_ _ | (refine Ak.put ?_ _ _ ?_;rotate_left;(first | omega | (simp only [Ac,Ah];omega)))))
     intro h4 a4 f4 wt w4;have fin:=ff (Wr.refl.ext (xh.trans (by (repeat (first | exact Ak.refl _ | refine Ak.alloc ?_ _ | (refine Ak.put ?_ _ _ ?_;rotate_left;(first | omega | (simp only [Ac,Ah];omega)))))))) (by simp only [go_sem];omega) (k3.keep (J:=λ_=>False) (Wr.refl.ext (by (repeat (first | exact Ak.refl _ | refine Ak.alloc ?_ _ | (refine Ak.put ?_ _ _ ?_;rotate_left;(first | omega | (simp only [Ac,Ah];omega))))))) (λ_ _ e=>e)) (λj e=>.inl e) wt w4 ep;clear ff ep;have q6:=wt.w.get hq.next (by simp only [go_sem];omega) (λe=>by have:=na _ e;omega);have q0:=wt.w.get h.next (by simp only [go_sem];omega) (λe=>by have:=na _ e;omega);simp (disch:=omega)only[go_sem,g3] at q6 q0;have w4m:=w4.l3;have w4g:=w4.gp;have w4b:=w4.bp;have w4l:=w4.lim;have w4c:=(Gw (c:=c) (s:=s) (t:=s.clk) (i:=i) (pc:=(nth s.all i).pc) (kd:=1)).2;generalize Bw c s s.clk i (nth s.all i).pc 1=s4 at *;rw [w4c] at w4g;have f23':=AI.f23 (c:=c) (a:=a4) (f:=f4) (clk:=s.clk) (st:=s4.halt) w4m;have s23':=AI.s23 (c:=c) (a:=a4) (f:=f4) (clk:=s.clk) (clk':=s.clk+1) (st:=s4.halt) w4m;have rl':=λn=>AI.len (c:=c) (a:=a4) (f:=f4) (clk:=n) (st:=s4.halt) w4m;clear wt w4 w k3 w3;simp (disch:=omega)only[go_sem, *] at fin;simp (disch:=omega)only[go_sem, *]
    | true=>
     rw [hr] at ir;simp only [hr,Bool.true_eq_false,if_false] at ep;obtain ⟨A',B',C',eq,rg⟩:=MN hr;injection eq with e0 eA eB eC
     clear e0;subst eA eB eC;clear hr;simp (disch:=omega)only[go_sem, *];refine Pf.go fe (by simp only [go_sem]) λ_=>?_;simp (disch:=omega)only[go_sem, *];refine Pf.go ir (by simp only [go_sem]) λ_=>?_;simp (disch:=omega)only[go_sem, *];refine aOl (w3.ext (by (repeat (first | exact Ak.refl _ | refine Ak.alloc ?_ _ | (refine Ak.put ?_ _ _ ?_;rotate_left;(first | omega | (simp only [Ac,Ah];omega))))))) (k3.keep (J:=λ_=>False) (Wr.refl.ext (by (repeat (first | exact Ak.refl _ | refine Ak.alloc ?_ _ | (refine Ak.put ?_ _ _ ?_;rotate_left;(first | omega | (simp only [Ac,Ah];omega))))))) (λ_ _ e=>e)) hcap g.g.p hi2 rg dj n.u n.ul ?_;intro h5 X5 x5 q5 i5 w5;have ed:=aYF (c:=c) (kn:=nk c) (q:=Q) (s:=s) (n:=s.clk+1) (t:=s.clk) (i:=i) (np:=IntKind.wrap .i64 ((nth s.all i).pc+4)) (op:=op) (A:=A') (B:=B') (C:=C');have df:=aL7 (c:=c) (kn:=nk c) (q:=Q) (s:=Cb s i (IntKind.wrap .i64 ((nth s.all i).pc+4))) (t:=s.clk) (i:=i) (op:=op) (A:=A') (B:=B') (C:=C') (by show i<(s.all.set i _).length;rw [List.length_set];exact hi2);have dk:=Ka (c:=c) (k:=nk c) (q:=Q) (s:=Cb s i (IntKind.wrap .i64 ((nth s.all i).pc+4))) (t:=s.clk) (i:=i) (op:=op) (A:=A') (B:=B') (C:=C');unfold sO at ep;simp only [Int.toNat_natCast] at ep;rw [ed] at ep;clear ed;generalize Cu c (nk c) Q (Cb s i (IntKind.wrap .i64 ((nth s.all i).pc+4))) s.clk i op A' B' C'=d at *;obtain ⟨dv,dz,ds,dq⟩:=d;simp only at ep df dk q5 w5 ⊢;have q6:=x5.get hq.next (by simp only [go_sem];omega) (λe=>e.elim (λe=>by have:=na _ e;omega) (λe=>by have:=kl _ e;omega));have q0:=x5.get h.next (by simp only [go_sem];omega) (λe=>e.elim (λe=>by have:=na _ e;omega) (λe=>by have:=kl _ e;omega));simp (disch:=omega)only[go_sem,g3] at q6 q0;have n5:=x5.next;have l5:=w5.lim;have b5:=w5.bp;simp (disch:=omega)only[go_sem] at n5 i5;have x5':Wr h (λj=>GZ wp a f j\/DS jb jp jC jL X j) h5:=(Wr.refl.ext (xh.trans (by (repeat (first | exact Ak.refl _ | refine Ak.alloc ?_ _ | (refine Ak.put ?_ _ _ ?_;rotate_left;(first | omega | (simp only [Ac,Ah];omega)))))))).trans x5 (λj _ e=>e);have i5':∀ j,DS jb jp jC jL X5 j->DS jb jp jC jL X j\/h.next<j:=λj e=>(i5 j e).imp (λz=>z) (λz=>by omega);have i6:∀ j,DS jb jp jC jL X5 j->j≠hq.next:=λj e z=>(i5 j e).elim (λy=>by have:=kl _ y;omega) (λy=>by omega);have tw:∀ {H':AH} {s':PS},Wr h5 (·=hq.next) H'->WA b h5 wp a f c s'->WA b H' wp a f c s'/\WK b2 H' c.c jb jp jC jL X5 dq:=λx y=>⟨y.keep x (λj e z=>by have:=na _ e;omega),q5.keep x i6⟩
     clear x5 i5
     by_cases hd:dz=0
     .subst hd;rw [if_pos rfl] at w5;rw [if_pos rfl] at ep;obtain ⟨k1,k2,k3',k4,-⟩:=dk;have k1:=k1.trans (show _=s.halt from rfl);have k2:=k2.trans (show _=s.fl from rfl);have k3':=k3'.trans (show _=s.clk from rfl);rw [hh] at k1;obtain ⟨y1,y2⟩:=tw (H':=h5.put hq.next ⟨6,[[.i .i64 s.clk,.i .i64 i,.i .i64 (nth s.all i).pc,.i .i64 op,.i .i64 0,.i .u32 dv]]⟩) (Wr.refl.put (.inr rfl)) w5;have f1:=fin (x5'.put (.inl om)) y2 i5' (λj e=>.inl e) (λj e1 e2=>(i5' j e1).elim (λz=>dj j z e2) (λz=>by have:=na j e2;omega)) y1 (by rw [k2];omega) ep;have w5g:=w5.gp;have w5m:=w5.l3;rw [k1,k3'] at w5g;rw [k1] at f1;have f23':=AI.f23 (c:=c) (a:=a) (f:=f) (clk:=s.clk) (st:=false) w5m;have s23':=AI.s23 (c:=c) (a:=a) (f:=f) (clk:=s.clk) (clk':=s.clk+1) (st:=false) w5m;have rl':=λn=>AI.len (c:=c) (a:=a) (f:=f) (clk:=n) (st:=false) w5m;clear tw y1 y2 w5 w k3 w3 fin ff ep q5 i5' x5' i6;simp (disch:=omega)only[go_sem, *] at f1;simp (disch:=omega)only[go_sem, *]
     .rw [if_neg hd] at w5;rw [if_neg hd] at ep;obtain ⟨d1,d2,d3⟩:=df hd;subst d1;rw [show Bw c { Cb s i (IntKind.wrap .i64 ((nth s.all i).pc+4)) with clk:=s.clk+1 } s.clk i (nth s.all i).pc dz=_ from qI (s:={ s with clk:=s.clk+1 }) hi2] at ep;clear df dk fin;simp (disch:=omega)only[go_sem, *];refine IZ (k:=dz) (tw ?_ w5).1 g hi2 hh hl d2 d3 ?_
      .exact Wr.refl.put (.inr rfl)
      intro h4 a4 f4 wt w4;have fin:=ff (x5'.put (.inl om)) (by simp only [go_sem];omega) (tw (Wr.refl.put (.inr rfl)) w5).2 i5' wt w4 ep;clear ff ep tw q5 i5' x5' i6;have q6:=wt.w.get hq.next (by simp only [go_sem];omega) (λe=>by have:=na _ e;omega);have q0:=wt.w.get h.next (by simp only [go_sem];omega) (λe=>by have:=na _ e;omega);simp (disch:=omega)only[go_sem,g3] at q6 q0;have w4m:=w4.l3;have w4g:=w4.gp;have w4b:=w4.bp;have w4l:=w4.lim;have w4c:=(Gw (c:=c) (s:=s) (t:=s.clk) (i:=i) (pc:=(nth s.all i).pc) (kd:=dz)).2;generalize Bw c s s.clk i (nth s.all i).pc dz=s4 at *;rw [w4c] at w4g;have f23':=AI.f23 (c:=c) (a:=a4) (f:=f4) (clk:=s.clk) (st:=s4.halt) w4m;have s23':=AI.s23 (c:=c) (a:=a4) (f:=f4) (clk:=s.clk) (clk':=s.clk+1) (st:=s4.halt) w4m;have rl':=λn=>AI.len (c:=c) (a:=a4) (f:=f4) (clk:=n) (st:=s4.halt) w4m;clear wt w4 w k3 w3;simp (disch:=omega)only[go_sem, *] at fin;simp (disch:=omega)only[go_sem, *]
end
end Go.Ab.T
namespace Go.Ab.T
open Go Go.Ab
set_option maxHeartbeats 16000000
set_option maxRecDepth 4000
def bAN (h:AH) (n:Nat) (k:BJ):AH:=⟨λi=>if i=h.next then some k else if i<n then h.get i else none,h.next+1,h.lim⟩
theorem Uh {b sz n:Nat} {h:AH} {v:V} {R:List (List V)} {P:Nat->Prop} (s:Sl b h sz v R) (hr:Dc P h 0 R R) (hP:AA v=true\/P (Ap v)) (hL:R.length<4000000000):CY P h n v (.fl sz R):=by
 rcases s with ⟨hv,rfl⟩ | ⟨id,el,cap,cs,rfl,a,c,d,f,hlt,hb,hl⟩
 .rcases hv with rfl | rfl
  .exact .ns _ _
  .exact .e0 _ _
 .refine .sl _ id el _ cap sz cs _ (hP.resolve_left (by simp [AA])) a om f (by simpa [Hc] using hL) ?_;rw [d];exact hr
theorem cB {L:List Bl} {j:Nat} (hj:j<L.length):(nth (Cz L) j).prio=(nth L j).prio:=by
 rw [Ba hj];unfold Cz nth;rw [List.getD_eq_getElem?_getD,List.getElem?_map,List.getElem?_eq_getElem hj];rfl
section
variable {b:Nat} {h h':AH} {C:Am} {prog ins:List Int} {K:V->AH->Prop}
theorem zN {p : Nat} (g : PG (Cy C p prog ins)) (hl : prog.length < 4000000000) (hil : ins.length < 4000000000)
    (kk:∀ h' wp a,Ak h h'->WA h.next h' wp a .ns (Cy C p prog ins) (Ef (Cy C p prog ins))->K (.p wp 0 0) h'):Cq tp Us [.agg C.enc,.i .i64 p,.fl 1 (prog.map CJ),.fl 1 (ins.map CL)] h K:=by
 have et:List.take (min (prog.length:Int) 512).toNat (prog.map CJ)=(prog.take 512).map CJ:=by
  rw [List.map_take,List.take_eq_take_iff,List.length_map];omega
 refine Aa Kj (by simp [Fr]) λwf rp=>?_;have hlo:=wf.1;unfold Fr;simp (disch:=omega)only[go_sem, *];refine Av (R:=[]) (Sl.nil' (h.next+1) _ _) ?_ ?_ ?_ ?_
 .simp only [go_sem]
 .simp only [go_sem]
 .simp;omega
 intro w4 h4 s4 g4;have x4:Ak (h.alloc ⟨3,[C.enc]⟩) (h4.back h.lim):=⟨g4.next,rfl,λj hj=>g4.get j hj (.inl rfl)⟩
 have s4:Sl (h.next+1) (h4.back h.lim) 1 w4 ((prog.take 512).map CJ):=s4;generalize hb:h4.back _=h5;have e5:h4.back h.lim=h5:=hb;rw [e5] at x4 s4;have c1:=g4.cell;have c2:=g4.cells;clear hb e5 g4;simp (disch:=omega)only[go_sem, *];refine Av (R:=[]) (Sl.nil' h5.next _ _) ?_ ?_ ?_ ?_
 .simp only [go_sem]
 .simp only [go_sem]
 .simp;omega
 intro w6 h6 s6 g6;have l5:=x4.lim;have x6:Ak h5 (h6.back h.lim):=⟨g6.next,l5.symm,λj hj=>g6.get j hj (.inl rfl)⟩
 have s6:Sl h5.next (h6.back h.lim) 1 w6 (ins.map CL):=s6;generalize hb:h6.back _=h7;have e7:h6.back h.lim=h7:=by rw [<- hb];rw [l5];rfl
 rw [e7] at x6 s6;have c3:=g6.cell;have c4:=g6.cells;clear hb e7 g6;have n4:=x4.next;have n6:=x6.next;have l6:=x6.lim;simp (disch:=omega)only[go_sem] at n4 l5;have s4:=s4.ext x6;have fb:∀ (hx:AH) (w:List Int),Dc (λi=>h.next+1<=i/\i≠h7.next) hx 0 (w.map CJ) (w.map CJ):=λ_ w=>Dc.of_map (λ_=>rfl) w;have fu:∀ (hx:AH) (w:List Int),Dc (λi=>h.next+1<=i/\i≠h7.next) hx 0 (w.map CL) (w.map CL):=λ_ w=>Dc.of_map (λ_=>rfl) w;simp (disch:=omega)only[go_sem, *];have q4:AA w4=true\/(h.next+1<=Ap w4/\Ap w4≠h7.next):=(Au s4).elim .inl (λz=>(E2 s4).imp (λy=>y) (λy=>⟨z,om⟩));have q6:AA w6=true\/(h.next+1<=Ap w6/\Ap w6≠h7.next):=(Au s6).elim .inl (λz=>(E2 s6).imp (λy=>y) (λy=>⟨om,om⟩));have r4:(prog.take 512).length<4000000000:=by rw [List.length_take];omega
 have gl:∀ i,i<h.next+1->h7.get i=(h.alloc ⟨3,[C.enc]⟩).get i:=λi hi=>(x6.get i om).trans (x4.get i hi);generalize hr:(List.cons (V.fl 11 _) _)=row;have q4':=Uh (n:=h7.next+1) (s4.alloc ⟨26,[row]⟩) (fb _ _) q4 (by simpa using r4);have q6':=Uh (n:=h7.next+1) (s6.alloc ⟨26,[row]⟩) (fu _ _) q6 (by simpa using hil);clear q4 q6 fb fu r4 s4 s6 c1 c2 c3 c4;have hR:Dc (λi=>h.next+1<=i/\i≠h7.next) (h7.alloc ⟨26,[row]⟩) (h7.next+1) [row] [AI (Cy C p prog ins) .ns .ns (List.replicate 16 0) 0 false]:=by
  rw [<- hr] at q4' q6' ⊢;refine .cons _ _ _ _ _ ?_ (.nil _);unfold AI;simp only [go_sem,List.replicate,List.map_cons,List.map_nil,List.cons_append,List.nil_append];exact ⟨rfl,rfl,rfl,rfl,q4',q6',.z _ _ .ns,.z _ _ .ns⟩
 refine TI (h2:=bAN h7 (h.next+1) ⟨26,[AI (Cy C p prog ins) .ns .ns (List.replicate 16 0) 0 false]⟩) (args':=[.p h7.next 0 0]) (λi=>h.next+1<=i/\i≠h7.next) rfl rfl (λwf2 i k hk=>?_) ?_ ?_
 .have hk2:(if i=h7.next then some ⟨26,[AI (Cy C p prog ins) .ns .ns (List.replicate 16 0) 0 false]⟩ else if i<h.next+1 then h7.get i else none)=some k:=hk
  by_cases hi:i=h7.next
  .rw [if_pos hi] at hk2;clear hk;subst hi;cases hk2;exact ⟨Nat.lt_succ_self _,λe=>e.2 rfl,_,by simp only [go_sem],hR⟩
  .rw [if_neg hi] at hk2
   by_cases hj:i<h.next+1
   .rw [if_pos hj] at hk2;have e:(h7.alloc ⟨26,[row]⟩).get i=some k:=by simp (disch:=omega)only[go_sem];exact hk2
    have w:=wf2.2 i k e;exact ⟨w.1,λe=>by omega,k.cs,e,w.2 _ _⟩
   .rw [if_neg hj] at hk2;cases hk2
 .exact .cons _ _ _ _ _ (.p _ _ _ _ (Nat.lt_succ_self _)) (.nil _)
 .refine Ew (wp:=h7.next) (c:=Cy C p prog ins) (a:=.ns) (f:=.ns) (mem:=List.replicate 16 0) (clk:=0) (st:=false) (if_pos rfl) (by simp) (by show h7.lim<=h7.next;omega) (Nat.lt_succ_self _) g ?_;intro h8 a8 x8 g8 s8;have n8:=x8.next;have l8:=x8.lim;have G8:∀ i,i<h.next->h8.get i=h.get i:=λi hi=>by
   rw [x8.get i (by show i<h7.next+1;omega) om];show (if i=h7.next then _ else if i<h.next+1 then h7.get i else none)=_;rw [if_neg om,if_pos om,gl i om];simp (disch:=omega)only[go_sem]
  have n8:h7.next+1<=h8.next:=n8;have l8:h8.lim=h7.lim:=l8;have hp:=g.l;have na:AA a8=false:=by
   rcases s8 with ⟨_,z⟩ | ⟨_,_,_,_,rfl,_⟩
   .have:=congrArg List.length z;rw [List.length_map] at this;simp only [List.length_nil] at this;omega
   .rfl
  have la:h7.next+1<=Ap a8:=(Au s8).resolve_left (by rw [na];decide);have fin:=kk h8 h7.next a8 ⟨om,om,G8⟩ ⟨g8, ?_,Sl.nil _ _ _,om,⟨om,om⟩,om,.inl rfl, ?_, ?_,by simp [Ef],λy hy=>?_,GB,⟨by simp [Ef],by simp [Ef],by simp [Ef]⟩, ?_,λj hj=>?_⟩
  .clear kk x8 g8 s8 G8 gl;simp (disch:=omega)only[go_sem, *]
  .show Sl h.next h8 11 a8 (((Ip (nth C.parts p).procs).zip (Cz (nth C.parts p).procs)).map Ci);rw [<- MM,Tz (by simp [Cz])];exact Sl.weak s8 (by show h.next<=h7.next+1;omega)
  .show 1<=(Cz (nth C.parts p).procs).length/\(Cz (nth C.parts p).procs).length<=3;rw [Cz,List.length_map];exact hp
  .show (Ip (nth C.parts p).procs).length=(Cz (nth C.parts p).procs).length;rw [Cz,Ip,List.length_map,List.length_map]
  .obtain ⟨z,-,rfl⟩:=List.mem_map.1 (show y∈(nth C.parts p).procs.map λx=>(⟨List.replicate 8 0,x.entry⟩:ST) from hy);exact ⟨by simp,GB⟩
  .show (nth C.parts p).procs.length=(Cz (nth C.parts p).procs).length;rw [Cz,List.length_map]
  .have hj:j<(Cz (nth C.parts p).procs).length:=hj;have hj2:j<(nth C.parts p).procs.length:=by rw [Cz,List.length_map] at hj;exact hj
   show (nth (Cz (nth C.parts p).procs) j).prio=(nth (nth C.parts p).procs j).prio;exact cB hj2
theorem W3 (hc:C.chans.length<4000000) (kk:∀ h' ip vC vL,Ak h h'->Hz h.next h' C ip vC vL (List.replicate C.chans.length .ns) (List.replicate C.chans.length [])->K (.p ip 0 0) h'):Cq tp ZN [.fl 6 (C.chans.map AU.enc)] h K:=by
 refine Aa aMD (by simp [Qo]) λwf rp=>?_;have hlo:=wf.1;unfold Qo;simp (disch:=omega)only[go_sem, *];refine Av (R:=[]) (Sl.nil' h.next _ _) ?_ ?_ ?_ ?_
 .simp only [go_sem]
 .simp only [go_sem]
 .simp;omega
 intro w4 h4 s4 g4;have x4:Ak h (h4.back h.lim):=⟨g4.next,rfl,λj hj=>g4.get j hj (.inl rfl)⟩
 have s4:Sl h.next (h4.back h.lim) 6 w4 (C.chans.map AU.enc):=s4;generalize hb:h4.back _=h5;have e5:h4.back h.lim=h5:=hb;rw [e5] at x4 s4;have c1:=g4.cell;have c2:=g4.cells;clear hb e5 g4;have n4:=x4.next;have l4:=x4.lim;have fin:=kk ((h5.alloc ⟨1,List.replicate C.chans.length [.ns]⟩).alloc ⟨2,[[w4,.sl h5.next 0 C.chans.length C.chans.length]]⟩) (h5.next+1) w4 (.sl h5.next 0 C.chans.length C.chans.length) (x4.trans (by (repeat (first | exact Ak.refl _ | refine Ak.alloc ?_ _ | (refine Ak.put ?_ _ _ ?_;rotate_left;(first | omega | (simp only [Ac,Ah];omega))))))) ?_
 .clear kk s4 x4;simp (disch:=omega)only[go_sem, *];omega
 have lt4:=E2 s4;refine ⟨by rw [AD];exact Ar rfl,(s4.alloc _).alloc _, ?_,by simp,λi hi=>?_,by simp,by show h5.lim<=h.next;omega,⟨om,by simp only [go_sem];omega⟩,rfl,⟨by simp only [go_sem];omega,lt4.imp (λz=>z) (λz=>by simp only [go_sem];omega)⟩,lt4.imp (λz=>z) (λz=>by omega),λi hi=>?_,λi hi=>?_⟩
 .have z:=Sl.new (b:=h.next) (h:=h5) (sz:=1) (N:=List.replicate C.chans.length [.ns]) n4 (by simp;omega);rw [List.length_replicate] at z;rw [List.map_replicate];exact z.alloc _
 .rw [List.length_replicate] at hi;rw [GF hi,GF hi];exact Sl.nil _ _ _
 .rw [List.length_replicate] at hi;exact .inl (by rw [GF hi];rfl)
 .rw [List.length_replicate] at hi;rw [GF hi];exact ⟨λz hz=>(List.not_mem_nil hz).elim,by simp⟩
end
end Go.Ab.T
namespace Go.Ab.T
open Go Go.Ab
set_option maxHeartbeats 16000000
set_option maxRecDepth 4000
section
variable {b b2 ip ip2 l:Nat} {h:AH} {C:Am} {vC vL vC2 vL2:V} {X X2:List V} {Q:List (List Int)}
theorem iL {K : Ex -> Env -> AH -> Prop} {e : Env} {i : Nat} (k : Hz b (h.back l) C ip vC vL X Q) (k2 : Hz b2 (h.back l) C ip2 vC2 vL2 X2 Q) (hi : i < Q.length) (e0 : e 0 = .p ip 0 0) (e1 : e 1 = .p ip2 0 0) (e5 : e 5 = .i .i64 i) (e22 : e 22 = .i .i64 Q.length) (e23 : e 23 = .i .i64 i) (e50 : e 50 = .i .i64 (nth Q i).length) (e51 : e 51 = .i .i64 0)
    (kk:∀ e',e' 0=.p ip 0 0->e' 1=.p ip2 0 0->e' 22=.i .i64 Q.length->e' 23=.i .i64 i->K (.ex 2) e' h):ZC tp (.loop XE) e h K:=by
 have gi:h.get ip=_:=k.gi;have gi2:h.get ip2=_:=k2.gi;have xl:=k.xl;have xl2:=k2.xl;obtain ⟨al,_,alt,alo,aget,aat,arow,_,_⟩:=(show Sl b h 1 vL _ from k.sl).facts;obtain ⟨bl,_,blt,blo,bget,bat,brow,_,_⟩:=(show Sl b2 h 1 vL2 _ from k2.sl).facts;replace aget:=aget om;replace bget:=bget om;replace arow:=arow i om;replace brow:=brow i om;replace aat:=λcs=>aat .i64 i cs om om;replace bat:=λcs=>bat .i64 i cs om om;simp only [Int.toNat_natCast] at aat bat
 obtain ⟨cl,_,clt,E9,cget,cat,crow,_,_⟩:=(show Sl b h 1 (nth X i) _ from k.sx i hi).facts;obtain ⟨dl,_,dlt,dlo,dget,dat,drow,_,_⟩:=(show Sl b2 h 1 (nth X2 i) _ from k2.sx i hi).facts;clear k k2;refine Ai (λm e hh=>∃ j:Nat,m=(nth Q i).length - j/\j<=(nth Q i).length/\hh=h/\e 0=.p ip 0 0/\e 1=.p ip2 0 0/\e 5=.i .i64 i/\e 22=.i .i64 Q.length/\e 23=.i .i64 i/\e 50=.i .i64 (nth Q i).length/\e 51=.i .i64 j) ?_ _ _ _ ⟨0,rfl,om,rfl,e0,e1,e5,e22,e23,e50,e51⟩;clear e0 e1 e5 e22 e23 e50 e51 e;rintro m e hh ⟨j,rfl,hj,rfl,e0,e1,e5,e22,e23,e50,e51⟩ ih;rw [Ao XE.eq_1];simp (disch:=omega)only[go_sem, *];refine Ad (λhc=>?_) (λhc=>?_)
 .have hj2:j<(nth Q i).length:=by omega
  replace cget:=cget om;replace dget:=dget om;replace crow:=crow j hj2;replace drow:=drow j hj2;replace cat:=λcs=>cat .i64 j cs om om;replace dat:=λcs=>dat .i64 j cs om om;simp only [Int.toNat_natCast] at cat dat
  clear kk;simp (disch:=omega)only[go_sem, *];refine ih _ _ _ om ⟨j+1,rfl,om,rfl, ?_, ?_, ?_, ?_, ?_, ?_, ?_⟩
  all_goals (clear ih;simp (disch:=omega)only[go_sem, *])
 .obtain rfl:j=(nth Q i).length:=by omega
  clear ih;simp (disch:=omega)only[go_sem, *];refine kk _ ?_ ?_ ?_ ?_
  all_goals (clear kk;simp (disch:=omega)only[go_sem, *])
theorem iM {K:V->AH->Prop} (k:Hz b (h.back l) C ip vC vL X Q) (k2:Hz b2 (h.back l) C ip2 vC2 vL2 X2 Q) (kk:K (.b true) h):Cq tp O2 [.p ip 0 0,.p ip2 0 0] h K:=by
 have gi:h.get ip=_:=k.gi;have gi2:h.get ip2=_:=k2.gi;have xl:=k.xl;have xl2:=k2.xl;obtain ⟨al,_,alt,alo,aget,aat,arow,_,_⟩:=(show Sl b h 1 vL _ from k.sl).facts;obtain ⟨bl,_,blt,blo,bget,bat,brow,_,_⟩:=(show Sl b2 h 1 vL2 _ from k2.sl).facts;have in14:=λ{K:Ex->Env->AH->Prop} {e:Env} {i:Nat}=>iL (K:=K) (e:=e) (i:=i) k k2;have sx:=k.sx;have sx2:=k2.sx;clear k k2;refine Aa Zi (by simp [LR]) λwf rp=>?_;unfold LR;simp (disch:=omega)only[go_sem, *];refine Ai (λm e hh=>∃ i:Nat,m=Q.length - i/\i<=Q.length/\hh=h/\e 0=.p ip 0 0/\e 1=.p ip2 0 0/\e 22=.i .i64 Q.length/\e 23=.i .i64 i) ?_ _ _ _ ⟨0,rfl,om,rfl, ?_, ?_, ?_, ?_⟩
 .rintro m e hh ⟨i,rfl,hi,rfl,e0,e1,e22,e23⟩ ih;rw [Ao bBl.eq_1];simp (disch:=omega)only[go_sem, *];refine Ad (λhc=>?_) (λhc=>?_)
  .have hi2:i<Q.length:=by omega
   replace aget:=aget om;replace bget:=bget om;replace arow:=arow i om;replace brow:=brow i om;replace aat:=λcs=>aat .i64 i cs om om;replace bat:=λcs=>bat .i64 i cs om om;simp only [Int.toNat_natCast] at aat bat
   have cl:=(sx i hi2).facts.1;have dl:=(sx2 i hi2).facts.1;clear sx sx2 kk;replace in14:=λ{K:Ex->Env->AH->Prop} {e:Env}=>in14 (K:=K) (e:=e) (i:=i) hi2;simp (disch:=omega)only[go_sem, *];refine in14 ?_ ?_ ?_ ?_ ?_ ?_ ?_ ?_
   rotate_right 1
   .intro e' e0 e1 e22 e23;clear in14;simp (disch:=omega)only[go_sem, *];refine ih _ _ _ om ⟨i+1,rfl,om,rfl, ?_, ?_, ?_, ?_⟩
    all_goals (clear ih;simp (disch:=omega)only[go_sem, *])
   all_goals (clear ih in14;simp (disch:=omega)only[go_sem, *])
  .obtain rfl:i=Q.length:=by omega
   clear ih in14 sx sx2;simp (disch:=omega)only[go_sem, *]
 all_goals (clear in14 sx sx2;simp (disch:=omega)only[go_sem, *])
end
end Go.Ab.T
namespace Go.Ab.T
open Go Go.Ab
set_option maxHeartbeats 16000000
set_option maxRecDepth 4000
theorem VP {F:List FT}:Pf tp aA [.fl 3 (F.map FT.enc),.fl 3 (F.map FT.enc)] (.b true):=by
 refine AL aM5 (by simp [QQ]) λrp=>?_;have hL:=rp.head.len;unfold QQ;simp (disch:=omega)only[go_sem, *];refine Ai (λm e hh=>∃ i:Nat,m=F.length - i/\i<=F.length/\e 0=.fl 3 (F.map FT.enc)/\e 1=.fl 3 (F.map FT.enc)/\e 12=.i .i64 F.length/\e 13=.i .i64 i) ?_ _ _ _ ⟨0,rfl,om, ?_, ?_, ?_, ?_⟩
 .rintro m e hh ⟨i,rfl,hi,e0,e1,e12,e13⟩ ih;rw [Ao aVZ.eq_1];simp (disch:=omega)only[go_sem, *];refine Ad (λhc=>?_) (λhc=>?_)
  .have hi2:i<F.length:=by omega
   have g:=Dq hi2;simp (disch:=omega)only[go_sem, *];refine ih _ _ _ om ⟨i+1,rfl,om, ?_, ?_, ?_, ?_⟩
   all_goals (clear ih;simp (disch:=omega)only[go_sem, *])
  .clear ih;simp (disch:=omega)only[go_sem, *]
 all_goals simp (disch:=omega)only[go_sem, *]
section
variable {b b2 pp tb lg wp:Nat} {h g0:AH} {w a f a2 f2:V} {c c2:PC} {s:PS} {K:V->AH->Prop}
theorem uK (p:PA b g0 pp tb lg w a f c s) (hg:∀ j,h.get j=g0.get j) (kk:K (.i .i64 s.clk) h):Cq tp sZ [.p pp 0 0] h K:=by
 have gp:=(hg _).trans p.gp;have f25:=AG.f25 (c:=c) (tb:=tb) (lg:=lg) (a:=a) (mem:=s.mem) (clk:=s.clk) p.l3;have rl:=AG.len (c:=c) (tb:=tb) (lg:=lg) (a:=a) (clk:=s.clk) p.l3;clear p hg;refine Aa aAx (by simp [Tu]) λwf rp=>?_;unfold Tu;simp (disch:=omega)only[go_sem, *]
theorem aZa (p:PA b g0 pp tb lg w a f c s) (hg:∀ j,h.get j=g0.get j) (hn:h.next=g0.next) (hlim:h.lim<=h.next) (kk:∀ h',Ak h h'->K (.agg [.i .u32 (nth s.mem 0),.i .u32 (nth s.mem 1),.i .u32 (nth s.mem 2),.i .u32 (nth s.mem 3),.i .u32 (nth s.mem 4),.i .u32 (nth s.mem 5),.i .u32 (nth s.mem 6),.i .u32 (nth s.mem 7),.i .u32 (nth s.mem 8),.i .u32 (nth s.mem 9),.i .u32 (nth s.mem 10),.i .u32 (nth s.mem 11),.i .u32 (nth s.mem 12),.i .u32 (nth s.mem 13),.i .u32 (nth s.mem 14),.i .u32 (nth s.mem 15)]) h'):Cq tp Kp [.p pp 0 0] h K:=by
 have gp:=(hg _).trans p.gp;have np:pp<h.next:=by rw [hn];exact p.np.1
 have lit:=MC p.l3;unfold AG at gp;rw [lit] at gp;simp only [go_sem,List.map_cons,List.map_nil,List.cons_append,List.nil_append] at gp;have fin:=kk ((h.alloc ⟨16,[[.i .u32 0,.i .u32 0,.i .u32 0,.i .u32 0,.i .u32 0,.i .u32 0,.i .u32 0,.i .u32 0,.i .u32 0,.i .u32 0,.i .u32 0,.i .u32 0,.i .u32 0,.i .u32 0,.i .u32 0,.i .u32 0]]⟩).put h.next ⟨16,[[.i .u32 (nth s.mem 0),.i .u32 (nth s.mem 1),.i .u32 (nth s.mem 2),.i .u32 (nth s.mem 3),.i .u32 (nth s.mem 4),.i .u32 (nth s.mem 5),.i .u32 (nth s.mem 6),.i .u32 (nth s.mem 7),.i .u32 (nth s.mem 8),.i .u32 (nth s.mem 9),.i .u32 (nth s.mem 10),.i .u32 (nth s.mem 11),.i .u32 (nth s.mem 12),.i .u32 (nth s.mem 13),.i .u32 (nth s.mem 14),.i .u32 (nth s.mem 15)]]⟩) (by (repeat (first | exact Ak.refl _ | refine Ak.alloc ?_ _ | (refine Ak.put ?_ _ _ ?_;rotate_left;(first | omega | (simp only [Ac,Ah];omega))))));clear kk p lit hg hn;refine Aa Nt (by simp [Gl]) λwf rp=>?_;unfold Gl;simp (disch:=omega)only[go_sem, *]
theorem aNU {i:Nat} (p:PA b g0 pp tb lg w a f c s) (hg:∀ j,h.get j=g0.get j) (hn:h.next=g0.next) (hlim:h.lim<=h.next) (hi:i<s.all.length) (kk:∀ h',Ak h h'->K (.agg [.i .u32 (nth (nth s.all i).r 0),.i .u32 (nth (nth s.all i).r 1),.i .u32 (nth (nth s.all i).r 2),.i .u32 (nth (nth s.all i).r 3),.i .u32 (nth (nth s.all i).r 4),.i .u32 (nth (nth s.all i).r 5),.i .u32 (nth (nth s.all i).r 6),.i .u32 (nth (nth s.all i).r 7)]) h'):Cq tp MA [.p pp 0 0,.i .i64 i] h K:=by
 obtain ⟨sg,sr,slt,slo,sat,set⟩:=C0 (p.sa.same (Nat.le_of_eq hn.symm) (λ_=>hg _)) hi;have hx:=p.l4 _ (Az hi);have gp:=(hg _).trans p.gp;have np:pp<h.next:=by rw [hn];exact p.np.1
 have lit:=ST.lit hx.1;have len:=p.sa.facts.1;have f7:=AG.f7 (c:=c) (tb:=tb) (lg:=lg) (a:=a) (mem:=s.mem) (clk:=s.clk);have rl:=AG.len (c:=c) (tb:=tb) (lg:=lg) (a:=a) (clk:=s.clk) p.l3;have at0:=sat (AP h a)
 rw [lit] at sr;have z1:¬ (i:Int)<0:=by omega
 have z2:¬ (s.all.length:Int)<=i:=by omega
 have fin:=kk ((h.alloc ⟨8,[[.i .u32 0,.i .u32 0,.i .u32 0,.i .u32 0,.i .u32 0,.i .u32 0,.i .u32 0,.i .u32 0]]⟩).put h.next ⟨8,[[.i .u32 (nth (nth s.all i).r 0),.i .u32 (nth (nth s.all i).r 1),.i .u32 (nth (nth s.all i).r 2),.i .u32 (nth (nth s.all i).r 3),.i .u32 (nth (nth s.all i).r 4),.i .u32 (nth (nth s.all i).r 5),.i .u32 (nth (nth s.all i).r 6),.i .u32 (nth (nth s.all i).r 7)]]⟩) (by (repeat (first | exact Ak.refl _ | refine Ak.alloc ?_ _ | (refine Ak.put ?_ _ _ ?_;rotate_left;(first | omega | (simp only [Ac,Ah];omega))))));clear kk p hg hn;refine Aa aMi (by simp [P1]) λwf rp=>?_;unfold P1;simp (disch:=omega)only[go_sem, *]
theorem Po {i:Int} (p:PA b g0 pp tb lg w a f c s) (hg:∀ j,h.get j=g0.get j) (hn:h.next=g0.next) (hlim:h.lim<=h.next) (hi:i<0\/i=s.all.length) (kk:∀ h',Ak h h'->K (.agg [.i .u32 0,.i .u32 0,.i .u32 0,.i .u32 0,.i .u32 0,.i .u32 0,.i .u32 0,.i .u32 0]) h'):Cq tp MA [.p pp 0 0,.i .i64 i] h K:=by
 have gp:=(hg _).trans p.gp;have np:pp<h.next:=by rw [hn];exact p.np.1
 have len:=p.sa.facts.1;have f7:=AG.f7 (c:=c) (tb:=tb) (lg:=lg) (a:=a) (mem:=s.mem) (clk:=s.clk);have rl:=AG.len (c:=c) (tb:=tb) (lg:=lg) (a:=a) (clk:=s.clk) p.l3;have fin:=kk ((h.alloc ⟨8,[[.i .u32 0,.i .u32 0,.i .u32 0,.i .u32 0,.i .u32 0,.i .u32 0,.i .u32 0,.i .u32 0]]⟩).put h.next ⟨8,[[.i .u32 0,.i .u32 0,.i .u32 0,.i .u32 0,.i .u32 0,.i .u32 0,.i .u32 0,.i .u32 0]]⟩) (by (repeat (first | exact Ak.refl _ | refine Ak.alloc ?_ _ | (refine Ak.put ?_ _ _ ?_;rotate_left;(first | omega | (simp only [Ac,Ah];omega))))));clear kk p hg hn;rcases hi with hi | rfl
 .refine Aa aMi (by simp [P1]) λwf rp=>?_;unfold P1;simp (disch:=omega)only[go_sem, *]
 .have z1:¬ (s.all.length:Int)<0:=by omega
  have z2:(s.all.length:Int)<=s.all.length:=Int.le_refl _;refine Aa aMi (by simp [P1]) λwf rp=>?_;unfold P1;simp (disch:=omega)only[go_sem, *]
theorem F4 {h h':AH} (x:Ak h h') (l:Nat):Ak (h.back l) (h'.back l):=⟨x.next,rfl,x.get⟩
theorem WX {l:Nat} (p:PA b (h.back l) pp tb lg w a f c s) (q:WA b2 (h.back l) wp a2 f2 c2 s) (hlim:h.lim<=h.next) (kk:∀ h',Ak h h'->K (.b true) h'):Cq tp ZP [.p pp 0 0,.p wp 0 0] h K:=by
 have g2:h.get wp=_:=q.gp;have lit:=MC q.l3;unfold AI at g2;rw [lit] at g2;clear lit;simp only [go_sem,List.map_cons,List.map_nil,List.cons_append,List.nil_append] at g2;have np:pp<h.next/\_:=p.np;have nq:_/\wp<h.next:=q.bp;refine Aa aMF (by simp [Qq]) λwf rp=>?_;unfold Qq;simp (disch:=omega)only[go_sem, *];refine uK (g0:=h.back l) p (λ_=>rfl) ?_;simp (disch:=omega)only[go_sem, *];refine aZa (g0:=h.back l) p (λ_=>rfl) rfl (Nat.le_refl _) ?_;intro h1 x1;have x1':Ak h (h1.back h.lim):=⟨x1.next,rfl,x1.get⟩
 generalize hb:h1.back _=h2;have e2:h1.back h.lim=h2:=hb;rw [e2] at x1';clear hb e2 x1;replace g2:=(x1'.get _ nq.2).trans g2;simp (disch:=omega)only[go_sem, *];have p2:=p.ext (F4 x1' l);have q2:=q.ext (F4 x1' l);refine Tc (h:=h2.raise) (c:=c) (lg:=lg) (f:=f) (st:=s.halt) p2.gp (AG.f24 p2.l3) (AG.len p2.l3) p2.gl ?_;simp (disch:=omega)only[go_sem, *];have l6:=p.l6;have l2:=x1'.lim;refine HY (h:=h2.raise) (b:=b) (c:=c) (lg:=lg) (f:=f) (st:=s.halt) (mem:=[]) (fl:=s.fl.map FT.enc) p2.gp (AG.f24 p2.l3) (AG.len p2.l3) p2.gl (Sl.raise (show Sl b h2 3 f _ from p2.sf)) (by rw [List.length_map];omega) ?_;intro r3 h3 s3 x3;have x3':Ak h2 (h3.back h.lim):=⟨x3.next,l2.symm,x3.get⟩
 have s3:Sl h2.next (h3.back h.lim) 3 r3 (s.fl.map FT.enc):=Sl.back (l:=h.lim) s3;generalize hb:h3.back _=h4;have e4:h3.back h.lim=h4:=by rw [<- hb,<-l2];rfl
 rw [e4] at x3' s3;clear hb e4 x3;replace g2:=(x3'.get _ (Nat.lt_of_lt_of_le nq.2 x1'.next)).trans g2;have q4:=q2.ext (F4 x3' l);have p4:=p2.ext (F4 x3' l);have x4:=x1'.trans x3';simp (disch:=omega)only[go_sem, *];refine Pf.look (VP (F:=s.fl)) (.cons _ _ _ _ _ (Sl.froze (Sl.raise s3) (λ_=>rfl) trivial om) (.cons _ _ _ _ _ (Sl.froze (Sl.raise (show Sl b2 h4 3 f2 _ from q4.sf)) (λ_=>rfl) trivial om) (.nil _))) rfl λ_=>?_;have lw:=q.l2;have al:=(show Sl b2 h4 11 a2 _ from q4.sa).facts.1;have zl:(s.all.zip s.procs).length=s.procs.length:=by simp;omega
 rw [zl] at al;have hl4:h4.lim<=h4.next:=by have:=x4.lim;have:=x4.next;omega
 have er:h4.raise.back h4.lim=h4:=rfl;simp (disch:=omega)only[go_sem, *];refine Ai (λm e hh=>∃ i:Nat,m=s.procs.length - i/\i<=s.procs.length/\Ak h4 hh/\e 0=.p pp 0 0/\e 1=.p wp 0 0/\e 49=.i .i64 s.procs.length/\e 50=.i .i64 i) ?_ _ _ _ ⟨0,rfl,om,Ak.refl _, ?_, ?_, ?_, ?_⟩
 .clear er hl4;rintro m e hh ⟨i,rfl,hi,x5,e0,e1,e49,e50⟩ ih;have p5:=p4.ext (F4 x5 l);have q5:=q4.ext (F4 x5 l);have g5:=(x5.get _ (Nat.lt_of_lt_of_le nq.2 x4.next)).trans g2;have x6:=x4.trans x5;have hl5:hh.lim<=hh.next:=by have:=x6.lim;have:=x6.next;omega
  have er:hh.raise.back hh.lim=hh:=rfl;have n5:=x6.next;clear p q p2 q2 p4 q4 g2 x1' x3' s3 x4;rw [Ao aSb.eq_1];simp (disch:=omega)only[go_sem, *];refine Ad (λhc=>?_) (λhc=>?_)
  .have hi2:i<s.procs.length:=by omega
   clear kk;simp (disch:=omega)only[go_sem, *];refine aNU (g0:=hh.back l) p5 (λ_=>rfl) rfl (Nat.le_refl _) om ?_;intro h6 x7;have x7':Ak hh (h6.back hh.lim):=⟨x7.next,rfl,x7.get⟩
   generalize hb:h6.back _=h7;have e7:h6.back hh.lim=h7:=hb;rw [e7] at x7';clear hb e7 x7;have q6:=q5.ext (F4 x7' l);replace g5:=(x7'.get _ (Nat.lt_of_lt_of_le nq.2 n5)).trans g5;obtain ⟨_,_,_,_,aget,aat,arow,_,_⟩:=(show Sl b2 h7 11 a2 _ from q6.sa).facts;rw [zl] at aget aat arow;replace aget:=aget om;replace arow:=arow i hi2;rw [GN lw hi2,iE (q6.l4 _ (Az om)).1] at arow;replace aat:=λcs=>aat .i64 i cs om om;simp only [Int.toNat_natCast] at aat
   have er:h7.raise.back h7.lim=h7:=rfl;clear q5 q6 p5;simp (disch:=omega)only[go_sem, *];refine ih _ _ _ om ⟨i+1,rfl,om,x5.trans x7', ?_, ?_, ?_, ?_⟩
   all_goals (clear ih;simp (disch:=omega)only[go_sem, *])
  .obtain rfl:i=s.procs.length:=by omega
   clear ih;simp (disch:=omega)only[go_sem, *];refine Po (g0:=hh.back l) p5 (λ_=>rfl) rfl hl5 (.inl (by decide)) ?_;intro h6 x7;have p6:=p5.ext (F4 x7 l);replace g5:=(x7.get _ (Nat.lt_of_lt_of_le nq.2 n5)).trans g5;have hl6:h6.lim<=h6.next:=by have:=x7.lim;have:=x7.next;omega
   clear p5;simp (disch:=omega)only[go_sem, *];refine Po (g0:=h6.back l) p6 (λ_=>rfl) rfl hl6 (.inr (by rw [lw])) ?_;intro h8 x8;have fin:=kk h8 ((x6.trans x7).trans x8);clear kk p6;simp (disch:=omega)only[go_sem, *]
 all_goals simp (disch:=omega)only[go_sem, *]
end
end Go.Ab.T
namespace Go.Ab.T
open Go Go.Ab
set_option maxHeartbeats 16000000
set_option maxRecDepth 4000
/-! Two partitions, the document's, and two kernels, side by side in memory. -/
def OP (pp tb lg:Nat) (w a f:V) (j:Nat):Prop:=j=pp\/j=tb\/j=lg\/j=Ap w\/j=Ap a\/(AA f=false/\j=Ap f)
section
variable {b pp tb lg:Nat} {h h':AH} {w a f a' f':V} {c:PC} {s:PS} {I J:Nat->Prop}
theorem OP.ap:Apart pp tb lg w a f I↔∀ j,I j->¬ OP pp tb lg w a f j:=by
 refine ⟨λd j e z=>?_,λd j e=>?_⟩
 .obtain ⟨e1,e2,e3,e4,e5,e6⟩:=d j e;rcases z with z | z | z | z | z | ⟨z,z2⟩
  .exact e1 z
  .exact e2 z
  .exact e3 z
  .exact e4 z
  .exact e5 z
  .exact (e6.resolve_left (by rw [z];decide)) z2
 .have d:=d j e;unfold OP at d;refine ⟨λz=>d (.inl z),λz=>d (.inr (.inl z)),λz=>d (.inr (.inr (.inl z))),λz=>d (.inr (.inr (.inr (.inl z)))),λz=>d (.inr (.inr (.inr (.inr (.inl z))))), ?_⟩
  cases q:AA f with
  | true=>exact .inl rfl
  | false=>exact .inr (λz=>d (.inr (.inr (.inr (.inr (.inr ⟨q,z⟩))))))
theorem PA.keep (p:PA b h pp tb lg w a f c s) (x:Wr h J h') (d:∀ j,OP pp tb lg w a f j->¬ J j):PA b h' pp tb lg w a f c s:=p.same x (OP.ap.2 λj e z=>d j z e)
theorem PA.lowO (p:PA b h pp tb lg w a f c s):∀ j,OP pp tb lg w a f j->j<h.next:=λj e=>by
 rcases Nat.lt_or_ge j h.next with z | z
 .exact z
 .exact ((OP.ap (I:=(·=j)).1 (λ_ e=>e▸p.fresh z)) j rfl e).elim
theorem IP.op {j:Nat} (e:IP pp lg w a f j):OP pp tb lg w a f j:=by
 rcases e with e | e | e | e | e
 .exact .inl e
 .exact .inr (.inr (.inl e))
 .exact .inr (.inr (.inr (.inl e)))
 .exact .inr (.inr (.inr (.inr (.inl e))))
 .exact .inr (.inr (.inr (.inr (.inr e))))
theorem Xe.op {I':Nat->Prop} (x:Xe pp lg w h a f I h' a' f' I'):∀ j,OP pp tb lg w a' f' j->OP pp tb lg w a f j\/h.next<=j:=by
 rintro j (e | e | e | e | e | ⟨z,e⟩)
 .exact .inl (.inl e)
 .exact .inl (.inr (.inl e))
 .exact .inl (.inr (.inr (.inl e)))
 .exact .inl (.inr (.inr (.inr (.inl e))))
 .exact x.a.imp (λy=>.inr (.inr (.inr (.inr (.inl (e.trans y)))))) (λy=>e▸y)
 .rcases x.f with y | ⟨y1,y2⟩ | y
  .rw [z] at y;cases y
  .exact .inl (.inr (.inr (.inr (.inr (.inr ⟨y1,e.trans y2⟩)))))
  .exact .inr (e▸y)
end
def GY (n:Nat) (A B C D E:Nat->Prop):Prop:=∃ o:Nat->Nat,(∀ j,A j->j<n/\o j=0)/\(∀ j,B j->j<n/\o j=1)/\(∀ j,C j->j<n/\o j=2)/\(∀ j,D j->j<n/\o j=3)/\(∀ j,E j->j<n/\o j=4)/\0<n/\o 0=5
section
variable {n n':Nat} {A B C D E A' B' C' D' E':Nat->Prop}
theorem GY.mono (x:GY n A B C D E) (h:n<=n'):GY n' A B C D E:=by
 obtain ⟨o,a,b,c,d,e,z,z0⟩:=x;exact ⟨o,λj q=>⟨by have:=(a j q).1;omega,(a j q).2⟩,λj q=>⟨by have:=(b j q).1;omega,(b j q).2⟩,λj q=>⟨by have:=(c j q).1;omega,(c j q).2⟩,λj q=>⟨by have:=(d j q).1;omega,(d j q).2⟩,λj q=>⟨by have:=(e j q).1;omega,(e j q).2⟩,om,z0⟩
open Classical in
theorem GY.ad (x:GY n A B C D E) (h:n<=n') (a1:∀ j,A' j->A j\/n<=j) (d1:∀ j,D' j->D j\/n<=j) (dj:∀ j,D' j->¬ A' j) (al:∀ j,A' j->j<n') (dl:∀ j,D' j->j<n'):GY n' A' B C D' E:=by
 obtain ⟨o,a,b,c,d,e,z,z0⟩:=x;have lo:∀ j,j<n->(if j<n then o j else if A' j then 0 else 3)=o j:=λj q=>if_pos q;refine ⟨λj=>if j<n then o j else if A' j then 0 else 3,λj q=>⟨al j q, ?_⟩,λj q=>⟨by have:=(b j q).1;omega,(lo j (b j q).1).trans (b j q).2⟩,λj q=>⟨by have:=(c j q).1;omega,(lo j (c j q).1).trans (c j q).2⟩,λj q=>⟨dl j q, ?_⟩,λj q=>⟨by have:=(e j q).1;omega,(lo j (e j q).1).trans (e j q).2⟩,om,(lo 0 z).trans z0⟩
 .by_cases y:j<n
  .exact (lo j y).trans (a j ((a1 j q).resolve_right om)).2
  .show (if j<n then o j else if A' j then 0 else 3)=0;rw [if_neg y,if_pos q]
 .by_cases y:j<n
  .exact (lo j y).trans (d j ((d1 j q).resolve_right om)).2
  .show (if j<n then o j else if A' j then 0 else 3)=3;rw [if_neg y,if_neg (dj j q)]
theorem GY.turn (x:GY n A B C D E):GY n C B A E D:=by
 obtain ⟨o,a,b,c,d,e,z,z0⟩:=x;refine ⟨λj=>if o j=0 then 2 else if o j=2 then 0 else if o j=3 then 4 else if o j=4 then 3 else o j,λj q=>⟨(c j q).1, ?_⟩,λj q=>⟨(b j q).1, ?_⟩,λj q=>⟨(a j q).1, ?_⟩,λj q=>⟨(e j q).1, ?_⟩,λj q=>⟨(d j q).1, ?_⟩,z, ?_⟩
 .simp [(c j q).2]
 .simp [(b j q).2]
 .simp [(a j q).2]
 .simp [(e j q).2]
 .simp [(d j q).2]
 .simp [z0]
theorem GY.dj (x:GY n A B C D E):(∀ j,D j->¬ A j)/\(∀ j,E j->¬ C j)/\(∀ j,B j->¬ (A j\/D j))/\(∀ j,C j->¬ (A j\/D j))/\(∀ j,E j->¬ (A j\/D j))/\¬ (A 0\/D 0)/\(∀ j,A j->¬ (C j\/E j))/\(∀ j,B j->¬ (C j\/E j))/\(∀ j,D j->¬ (C j\/E j))/\¬ (C 0\/E 0):=by
 obtain ⟨o,a,b,c,d,e,z,z0⟩:=x;refine ⟨λj q r=>?_,λj q r=>?_,λj q r=>?_,λj q r=>?_,λj q r=>?_,λr=>?_,λj q r=>?_,λj q r=>?_,λj q r=>?_,λr=>?_⟩
 .have:=(d j q).2;have:=(a j r).2;omega
 .have:=(e j q).2;have:=(c j r).2;omega
 .have:=(b j q).2;rcases r with r | r
  .have:=(a j r).2;omega
  .have:=(d j r).2;omega
 .have:=(c j q).2;rcases r with r | r
  .have:=(a j r).2;omega
  .have:=(d j r).2;omega
 .have:=(e j q).2;rcases r with r | r
  .have:=(a j r).2;omega
  .have:=(d j r).2;omega
 .rcases r with r | r
  .have:=(a 0 r).2;omega
  .have:=(d 0 r).2;omega
 .have:=(a j q).2;rcases r with r | r
  .have:=(c j r).2;omega
  .have:=(e j r).2;omega
 .have:=(b j q).2;rcases r with r | r
  .have:=(c j r).2;omega
  .have:=(e j r).2;omega
 .have:=(d j q).2;rcases r with r | r
  .have:=(c j r).2;omega
  .have:=(e j r).2;omega
 .rcases r with r | r
  .have:=(c 0 r).2;omega
  .have:=(e 0 r).2;omega
end
structure PL (c:PC) (s0:PS) (b1 b2 b3 b4 b5 pp tb lg pq tq lq wp kb ip jb jp:Nat) (w w' a' vC vL jC jL:V) (h:AH) (a f a2 f2:V) (X X2:List V) (s1:PS) (Q1:List (List Int)) (s2:PS) (Q2:List (List Int)):Prop where
 fp:PA b1 h pp tb lg w a f c s1
 fq:PA b2 h pq tq lq w' a' .ns c s0
 fw:WA b3 h wp a2 f2 c s2
 fk:WK b4 h c.c kb ip vC vL X Q1
 fj:WK b5 h c.c jb jp jC jL X2 Q2
 fg:h.get 0=some ⟨3,[c.c.enc]⟩
 fo:GY h.next (OP pp tb lg w a f) (OP pq tq lq w' a' .ns) (GZ wp a2 f2) (DS kb ip vC vL X) (DS jb jp jC jL X2)
section
variable {c:PC} {s0:PS} {b1 b2 b3 b4 b5 pp tb lg pq tq lq wp kb ip jb jp:Nat} {w w' a' vC vL jC jL:V} {h h':AH} {a f a2 f2 a3 f3:V} {X X2 X3:List V} {s1 s2 s3:PS} {Q1 Q2 Q3:List (List Int)}
theorem PL.ext (y:PL c s0 b1 b2 b3 b4 b5 pp tb lg pq tq lq wp kb ip jb jp w w' a' vC vL jC jL h a f a2 f2 X X2 s1 Q1 s2 Q2) (x:Ak h h'):PL c s0 b1 b2 b3 b4 b5 pp tb lg pq tq lq wp kb ip jb jp w w' a' vC vL jC jL h' a f a2 f2 X X2 s1 Q1 s2 Q2:=
 ⟨y.fp.ext x,y.fq.ext x,y.fw.ext x,y.fk.keep (J:=λ_=>False) (Wr.refl.ext x) (λ_ _ e=>e),y.fj.keep (J:=λ_=>False) (Wr.refl.ext x) (λ_ _ e=>e),(x.get 0 (by obtain ⟨_,_,_,_,_,_,z,_⟩:=y.fo;exact z)).trans y.fg,y.fo.mono x.next⟩
theorem PL.pk (y : PL c s0 b1 b2 b3 b4 b5 pp tb lg pq tq lq wp kb ip jb jp w w' a' vC vL jC jL h a f a2 f2 X X2 s1 Q1 s2 Q2) (x : Wr h (λj => OP pp tb lg w a f j \/ DS kb ip vC vL X j) h') (p : PA b1 h' pp tb lg w a3 f3 c s3) (k : WK b4 h' c.c kb ip vC vL X3 Q3)
    (i1:∀ j,OP pp tb lg w a3 f3 j->OP pp tb lg w a f j\/h.next<=j) (i2:∀ j,DS kb ip vC vL X3 j->DS kb ip vC vL X j\/h.next<=j) (dj:∀ j,DS kb ip vC vL X3 j->¬ OP pp tb lg w a3 f3 j):
    PL c s0 b1 b2 b3 b4 b5 pp tb lg pq tq lq wp kb ip jb jp w w' a' vC vL jC jL h' a3 f3 a2 f2 X3 X2 s3 Q3 s2 Q2:=by
 obtain ⟨d1,d2,d3,d4,d5,d6,d7,d8,d9,d10⟩:=y.fo.dj;exact ⟨p,y.fq.keep x d3,y.fw.keep x d4,k,y.fj.keep x d5,(x.get 0 (by obtain ⟨_,_,_,_,_,_,z,_⟩:=y.fo;exact z) d6).trans y.fg,y.fo.ad x.next i1 i2 dj p.lowO (λj e=>(k.low j e).2)⟩
theorem PL.wj (y : PL c s0 b1 b2 b3 b4 b5 pp tb lg pq tq lq wp kb ip jb jp w w' a' vC vL jC jL h a f a2 f2 X X2 s1 Q1 s2 Q2) (x : Wr h (λj => GZ wp a2 f2 j \/ DS jb jp jC jL X2 j) h') (p : WA b3 h' wp a3 f3 c s3) (k : WK b5 h' c.c jb jp jC jL X3 Q3)
    (i1:∀ j,GZ wp a3 f3 j->GZ wp a2 f2 j\/h.next<=j) (i2:∀ j,DS jb jp jC jL X3 j->DS jb jp jC jL X2 j\/h.next<=j) (dj:∀ j,DS jb jp jC jL X3 j->¬ GZ wp a3 f3 j):
    PL c s0 b1 b2 b3 b4 b5 pp tb lg pq tq lq wp kb ip jb jp w w' a' vC vL jC jL h' a f a3 f3 X X3 s1 Q1 s3 Q3:=by
 obtain ⟨d1,d2,d3,d4,d5,d6,d7,d8,d9,d10⟩:=y.fo.dj;exact ⟨y.fp.keep x d7,y.fq.keep x d8,p,y.fk.keep x d9,k,(x.get 0 (by obtain ⟨_,_,_,_,_,_,z,_⟩:=y.fo;exact z) d10).trans y.fg,(y.fo.turn.ad x.next i1 i2 dj (λj e=>(p.low j e).2) (λj e=>(k.low j e).2)).turn⟩
end
end Go.Ab.T
namespace Go.Ab.T
open Go Go.Ab
set_option maxHeartbeats 16000000
set_option maxRecDepth 4000
theorem Rz {A B:TC} {e:Env} {h:AH} {K K1:Ex->Env->AH->Prop} (z:ZC tp A e h K1) (f:∀ x e h,K1 x e h->S4 x (ZC tp B e h K) (K x e h)):ZC tp (.seq A B) e h K:=by
 rw [Ye];exact ET f z
section
variable {c:PC} {s0:PS} {b1 b2 b3 b4 b5 pp tb lg pq tq lq wp kb ip jb jp:Nat} {w w' a' vC vL jC jL:V} {h h':AH} {a f a2 f2:V} {X X2 X3:List V} {s1 s2:PS} {Q1 Q2 Q3:List (List Int)}
theorem PL.ks (y : PL c s0 b1 b2 b3 b4 b5 pp tb lg pq tq lq wp kb ip jb jp w w' a' vC vL jC jL h a f a2 f2 X X2 s1 Q1 s2 Q2) (x : Wr h (· = Ap vL) h') (o : Hz b4 h' c.c ip vC vL X3 Q3) (i : ∀ j, Re ip vC vL X3 j -> Re ip vC vL X j \/ h.next <= j) :
    PL c s0 b1 b2 b3 b4 b5 pp tb lg pq tq lq wp kb ip jb jp w w' a' vC vL jC jL h' a f a2 f2 X3 X2 s1 Q3 s2 Q2:=by
 obtain ⟨k,i2⟩:=y.fk.step x o i;have d:=y.fo.dj.1;have lo:=y.fp.lowO;refine y.pk (x.mono λj e=>.inr (.inr (.inr (.inl e)))) (y.fp.keep x λj e z=>d j (.inr (.inr (.inl z))) e) k (λj e=>.inl e) i2 (λj e z=>?_);rcases i2 j e with q | q
 .exact d j q z
 .have:=lo j z;omega
theorem PL.js (y : PL c s0 b1 b2 b3 b4 b5 pp tb lg pq tq lq wp kb ip jb jp w w' a' vC vL jC jL h a f a2 f2 X X2 s1 Q1 s2 Q2) (x : Wr h (· = Ap jL) h') (o : Hz b5 h' c.c jp jC jL X3 Q3) (i : ∀ j, Re jp jC jL X3 j -> Re jp jC jL X2 j \/ h.next <= j) :
    PL c s0 b1 b2 b3 b4 b5 pp tb lg pq tq lq wp kb ip jb jp w w' a' vC vL jC jL h' a f a2 f2 X X3 s1 Q1 s2 Q3:=by
 obtain ⟨k,i2⟩:=y.fj.step x o i;have d:=y.fo.dj.2.1;have lo:=y.fw.low;refine y.wj (x.mono λj e=>.inr (.inr (.inr (.inl e)))) (y.fw.keep x λj e z=>d j (.inr (.inr (.inl z))) e) k (λj e=>.inl e) i2 (λj e z=>?_);rcases i2 j e with q | q
 .exact d j q z
 .have:=(lo j z).2;omega
def PEv (c:PC) (steps:List Int) (kb jb pp wp pq n:Nat) (e:Env):Prop:=e 1=.i .i64 c.p/\e 4=.fl 1 (steps.map Ek)/\e 5=.p 0 0 0/\e 11=.p kb 0 0/\e 12=.p jb 0 0/\e 13=.p pp 0 0/\e 14=.p wp 0 0/\e 15=.p pq 0 0/\e 16=.i .i64 n
theorem uN {K : Ex -> Env -> AH -> Prop} {e : Env} {steps : List Int} (g : PH c) (n : PN c) (hcap : ∀ x ∈ c.c.chans, x.cap <= 8) (hch : c.c.chans.length <= 100) (hsl : steps.length < 4000000000) (hpl : (nth c.c.parts c.p).procs.length = s0.procs.length) (hc0 : s0.clk = 0) (hh0 : s0.halt = false)
    (y:PL c s0 b1 b2 b3 b4 b5 pp tb lg pq tq lq wp kb ip jb jp w w' a' vC vL jC jL h a f a2 f2 X X2 s0 Q1 s0 Q1) (pe:PEv c steps kb jb pp wp pq 0 e)
    (kk:∀ e' h' a f a2 f2 X X2 s Q,PL c s0 b1 b2 b3 b4 b5 pp tb lg pq tq lq wp kb ip jb jp w w' a' vC vL jC jL h' a f a2 f2 X X2 s Q s Q->1<=s.clk->e' 13=.p pp 0 0->e' 14=.p wp 0 0->e' 15=.p pq 0 0->K (.ex 0) e' h'):ZC tp (.loop aNd) e h K:=by
 refine Ai (λm e hh=>∃ (i:Nat) (a f a2 f2:V) (X X2:List V) (s:PS) (Q:List (List Int)),m=70 - i/\i<=70/\PL c s0 b1 b2 b3 b4 b5 pp tb lg pq tq lq wp kb ip jb jp w w' a' vC vL jC jL hh a f a2 f2 X X2 s Q s Q/\PEv c steps kb jb pp wp pq i e/\(i=0->s=s0)/\(1<=i->1<=s.clk)/\s.clk<=i/\s.procs.length=s0.procs.length) ?_ _ _ _ ⟨0,a,f,a2,f2,X,X2,s0,Q1,rfl,om,y,pe,λ_=>rfl,λz=>by omega,om,rfl⟩;clear y pe;rintro m e hh ⟨i,a,f,a2,f2,X,X2,s,Q,rfl,hi,y,pe,i0,i1,i2,i3⟩ ih;rw [Ao aNd.eq_1]
 by_cases hc:i<70
 .clear kk;have hci:(i:Int)<70:=by omega
  refine Rz (K1:=λx e' h'=>x=.nm/\PEv c steps kb jb pp wp pq i e'/\hh=h') ?_ ?_
  .obtain ⟨e1,e4,e5,e11,e12,e13,e14,e15,e16⟩:=pe;clear ih y i0 i1 i3 n g;simp (disch:=omega)only[go_sem, *];refine ⟨?_, ?_, ?_, ?_, ?_, ?_, ?_, ?_, ?_⟩
   all_goals simp (disch:=omega)only[go_sem, *]
  clear pe;rintro _ e _ ⟨rfl,pe,rfl⟩;rw [NW];refine Rz (K1:=λx e' h'=>x=.nm/\PEv c steps kb jb pp wp pq i e'/\∃ a f a2 f2 X X2 s Q,PL c s0 b1 b2 b3 b4 b5 pp tb lg pq tq lq wp kb ip jb jp w w' a' vC vL jC jL h' a f a2 f2 X X2 s Q s Q/\1<=s.clk/\s.clk<=i+1/\s.procs.length=s0.procs.length) ?_ ?_
  .rw [OA];refine Rz (K1:=λx e' h'=>x=.nm/\PEv c steps kb jb pp wp pq i e'/\∃ X X2 Q,PL c s0 b1 b2 b3 b4 b5 pp tb lg pq tq lq wp kb ip jb jp w w' a' vC vL jC jL h' a f a2 f2 X X2 s Q s Q) ?_ ?_
   .obtain ⟨e1,e4,e5,e11,e12,e13,e14,e15,e16⟩:=pe;clear ih i0 i1 i3 n g;have g0:=y.fg;unfold Am.enc at g0;obtain ⟨pd,en,gk⟩:=y.fk.k;unfold F0 at gk
    by_cases h1:(i:Int)<steps.length
    .by_cases h2:0<(c.c.chans.length:Int)
     .have wb:=I1 (n:=nth steps i) (lo:=0) (hi:=3*(c.c.chans.length:Int) - 1) om;have we:=I6 (n:=nth steps i) (lo:=0) (hi:=3*(c.c.chans.length:Int) - 1) om om om;obtain ⟨x,hx⟩:∃ x:Nat,Dy (nth steps i) 0 (3*(c.c.chans.length:Int) - 1)=x:=⟨(Dy (nth steps i) 0 (3*(c.c.chans.length:Int) - 1)).toNat,om⟩
      rw [hx] at we wb;clear hx;obtain ⟨d1,d2,-⟩:=y.fo.dj;have wi:IntKind.u32.wrap (i:Int)=i:=by unfold IntKind.wrap;simp [IntKind.bits,IntKind.signed];omega
      have gs:=Dq (L:=steps) (j:=i) om;simp (disch:=omega)only[go_sem, *];refine Pf.go (we) (by simp only [go_sem]) λ_=>?_;simp (disch:=omega)only[go_sem, *]
      by_cases h3:(x:Int)<c.c.chans.length
      .have gi:=y.fk.o;simp (disch:=omega)only[go_sem, *];refine Im y.fk.o hcap ⟨om,om⟩ ?_;intro h2 X3 x3 o3 j3;have y3:=y.ks x3 o3 j3;clear y;have g0:=y3.fg;unfold Am.enc at g0;obtain ⟨pd,en,gj⟩:=y3.fj.k;unfold F0 at gj;simp (disch:=omega)only[go_sem, *];refine Im y3.fj.o hcap ⟨om,om⟩ ?_;intro h4 X4 x4 o4 j4;have y4:=y3.js x4 o4 j4;have fin:∃ X X2 Q,PL c s0 b1 b2 b3 b4 b5 pp tb lg pq tq lq wp kb ip jb jp w w' a' vC vL jC jL h4 a f a2 f2 X X2 s Q s Q:=⟨_,_,_,y4⟩
       clear y3 y4 x3 x4 o3 o4;simp (disch:=omega)only[go_sem, *];refine ⟨?_, ?_, ?_, ?_, ?_, ?_, ?_, ?_, ?_⟩
       all_goals simp (disch:=omega)only[go_sem, *]
      .by_cases h4:(x:Int)<2*c.c.chans.length
       .obtain ⟨z,hz⟩:∃ z:Nat,(x:Int) - c.c.chans.length=z:=⟨x - c.c.chans.length,om⟩
        simp (disch:=omega)only[go_sem, *];refine Gq (i:=z) y.fk.o ?_;intro h2 X3 x3 o3 j3;have y3:=y.ks x3 o3 j3;clear y;have g0:=y3.fg;unfold Am.enc at g0;obtain ⟨pd,en,gj⟩:=y3.fj.k;unfold F0 at gj;simp (disch:=omega)only[go_sem, *];refine Gq (i:=z) y3.fj.o ?_;intro h4 X4 x4 o4 j4;have y4:=y3.js x4 o4 j4;have fin:∃ X X2 Q,PL c s0 b1 b2 b3 b4 b5 pp tb lg pq tq lq wp kb ip jb jp w w' a' vC vL jC jL h4 a f a2 f2 X X2 s Q s Q:=⟨_,_,_,y4⟩
        clear y3 y4 x3 x4 o3 o4;simp (disch:=omega)only[go_sem, *];refine ⟨?_, ?_, ?_, ?_, ?_, ?_, ?_, ?_, ?_⟩
        all_goals simp (disch:=omega)only[go_sem, *]
       .have fin:∃ X X2 Q,PL c s0 b1 b2 b3 b4 b5 pp tb lg pq tq lq wp kb ip jb jp w w' a' vC vL jC jL hh a f a2 f2 X X2 s Q s Q:=⟨X,X2,Q,y⟩
        clear y;simp (disch:=omega)only[go_sem, *];refine ⟨?_, ?_, ?_, ?_, ?_, ?_, ?_, ?_, ?_⟩
        all_goals simp (disch:=omega)only[go_sem, *]
     .have fin:∃ X X2 Q,PL c s0 b1 b2 b3 b4 b5 pp tb lg pq tq lq wp kb ip jb jp w w' a' vC vL jC jL hh a f a2 f2 X X2 s Q s Q:=⟨X,X2,Q,y⟩
      clear y;simp (disch:=omega)only[go_sem, *];refine ⟨?_, ?_, ?_, ?_, ?_, ?_, ?_, ?_, ?_⟩
      all_goals simp (disch:=omega)only[go_sem, *]
    .have fin:∃ X X2 Q,PL c s0 b1 b2 b3 b4 b5 pp tb lg pq tq lq wp kb ip jb jp w w' a' vC vL jC jL hh a f a2 f2 X X2 s Q s Q:=⟨X,X2,Q,y⟩
     clear y;simp (disch:=omega)only[go_sem, *];refine ⟨?_, ?_, ?_, ?_, ?_, ?_, ?_, ?_, ?_⟩
     all_goals simp (disch:=omega)only[go_sem, *]
   clear y pe;rintro _ e hh ⟨rfl,pe,X,X2,Q,y⟩;rw [NW];obtain ⟨e1,e4,e5,e11,e12,e13,e14,e15,e16⟩:=pe;clear ih;obtain ⟨d1,d2,-⟩:=y.fo.dj;have l6:=y.fp.l6;have hpl':(nth c.c.parts c.p).procs.length=s.procs.length:=hpl.trans i3.symm;simp (disch:=omega)only[go_sem, *];refine U6 (k:=tI c.c c.p b4 kb ip vC vL) (q:=Q) (I:=DS kb ip vC vL X) (.inl rfl) (tJ hcap g.g.p) ⟨X,y.fk,λ_=>Iff.rfl⟩ (OP.ap.2 d1) y.fp g.g n hpl' om ?_;rintro h2 a3 f3 I' pt ⟨X3,k3,hI⟩ ap p3;have k3:WK b4 h2 c.c kb ip vC vL X3 (Bn c (nk c) Q s).2.2.2:=k3;have p3:PA b1 h2 pp tb lg w a3 f3 c (Bn c (nk c) Q s).2.2.1:=p3;show _;rw [show Bn c (tI c.c c.p b4 kb ip vC vL) Q s=Bn c (nk c) Q s from rfl];have y2:=y.pk (pt.w.mono λj e=>e.imp IP.op (λe=>e)) p3 k3 pt.op (λj e=>pt.i j ((hI j).2 e)) (λj e=>OP.ap.1 ap j ((hI j).2 e));have y3:=y2.ext (h':=(h2.alloc ⟨6,[[.i .i64 0,.i .i64 0,.i .i64 0,.i .i64 0,.i .i64 0,.i .u32 0]]⟩).put h2.next ⟨6,[(Bn c (nk c) Q s).1.enc]⟩) (by (repeat (first | exact Ak.refl _ | refine Ak.alloc ?_ _ | (refine Ak.put ?_ _ _ ?_;rotate_left;(first | omega | (simp only [Ac,Ah];omega))))));have lw2:=λj (e:GZ wp a2 f2 j)=>Nat.ne_of_lt (y2.fw.low j e).2;have lj2:=λj (e:DS jb jp jC jL X2 j)=>Nat.ne_of_lt (y2.fj.low j e).2;clear y y2 pt k3 p3 hI ap d1 d2;obtain ⟨d1,d2,-⟩:=y3.fo.dj;have tk:=WR (c:=c) (k:=nk c) (q:=Q) (s:=s);have tw:=λ{K:V->AH->Prop}=>iP (K:=K) y3.fw y3.fj g n hcap d2 om om;generalize Bn c (nk c) Q s=T at *;obtain ⟨L,ok,s',Q'⟩:=T;simp only at tk tw y3;have hl2:h2.lim<=h2.next:=by
    have:=y3.fp.lim;have:=y3.fp.bp.1;have:=y3.fp.np.1;simp only [go_sem] at *;omega
   have hck:1<=s'.clk/\s'.clk<=i+1/\s'.procs.length=s0.procs.length:=by
    refine ⟨?_, ?_,tk.1.trans i3⟩
    .cases hs:s.halt with
     | true=>
      rw [(tk.2.1 hs).2.2.1]
      by_cases z:i=0
      .rw [i0 z,hh0] at hs;cases hs
      .exact i1 om
     | false=>have:=(tk.2.2 hs).2.2;omega
    .cases hs:s.halt with
     | true=>rw [(tk.2.1 hs).2.2.1];omega
     | false=>have:=(tk.2.2 hs).2.2;omega
   clear tk i0 i1 i3;simp (disch:=omega)only[go_sem, *];refine tw ?_;intro h4 a5 f5 X5 x5 k5 iK iW dj5 w5;have y4:=y3.wj x5 w5 k5 iW iK dj5;have g18:=x5.get h2.next (by simp only [go_sem];omega) (λz=>z.elim (λz=>lw2 _ z rfl) (λz=>lj2 _ z rfl));simp only [go_sem] at g18;have n5:=x5.next;have l5:=x5.lim;simp only [go_sem] at n5 l5;have y5:=y4.ext (h':=(h4.alloc ⟨6,[[.i .i64 0,.i .i64 0,.i .i64 0,.i .i64 0,.i .i64 0,.i .u32 0]]⟩).put h4.next ⟨6,[L.enc]⟩) (by (repeat (first | exact Ak.refl _ | refine Ak.alloc ?_ _ | (refine Ak.put ?_ _ _ ?_;rotate_left;(first | omega | (simp only [Ac,Ah];omega))))));clear tw y3 y4 x5 k5 iK iW dj5 w5 lw2 lj2;have hl4:h4.lim<=h4.next:=by omega
   simp (disch:=omega)only[go_sem, *];refine WX (l:=h4.lim) y5.fp y5.fw (Nat.le_refl _) ?_;intro h6 x6;have x6':Ak ((h4.alloc ⟨6,[[.i .i64 0,.i .i64 0,.i .i64 0,.i .i64 0,.i .i64 0,.i .u32 0]]⟩).put h4.next ⟨6,[L.enc]⟩) (h6.back h4.lim):=⟨x6.next,rfl,x6.get⟩
   generalize hb:h6.back _=h7;have e7:h6.back h4.lim=h7:=hb;rw [e7] at x6';have y7:=y5.ext x6';clear y5 hb e7 x6 x6';obtain ⟨pd,en,gk⟩:=y7.fk.k;obtain ⟨pd2,en2,gj⟩:=y7.fj.k;unfold F0 at gk gj;have gi:=y7.fk.o.gi;simp (disch:=omega)only[go_sem, *];refine iM (l:=h7.lim) y7.fk.o y7.fj.o ?_;have er:h7.raise.back h7.lim=h7:=rfl;have fin:∃ a f a2 f2 X X2 s Q,PL c s0 b1 b2 b3 b4 b5 pp tb lg pq tq lq wp kb ip jb jp w w' a' vC vL jC jL h7 a f a2 f2 X X2 s Q s Q/\1<=s.clk/\s.clk<=i+1/\s.procs.length=s0.procs.length:=⟨_,_,_,_,_,_,_,_,y7,hck⟩
   clear y7 hck gi;simp (disch:=omega)only[go_sem, *];refine ⟨?_, ?_, ?_, ?_, ?_, ?_, ?_, ?_, ?_⟩
   all_goals simp (disch:=omega)only[go_sem, *]
  clear y pe;rintro _ e hh ⟨rfl,pe,a,f,a2,f2,X,X2,s,Q,y,c1,c2,c3⟩;rw [NW];obtain ⟨e1,e4,e5,e11,e12,e13,e14,e15,e16⟩:=pe;simp (disch:=omega)only[go_sem, *];refine ih _ _ _ om ⟨i+1,a,f,a2,f2,X,X2,s,Q,rfl,om,y,⟨?_, ?_, ?_, ?_, ?_, ?_, ?_, ?_, ?_⟩,λz=>by omega,λ_=>c1,by push_cast;omega,c3⟩
  all_goals (clear ih;simp (disch:=omega)only[go_sem, *])
 .obtain rfl:i=70:=by omega
  obtain ⟨e1,e4,e5,e11,e12,e13,e14,e15,e16⟩:=pe;clear ih;have k:=λe'=>kk e' hh a f a2 f2 X X2 s Q y (i1 (by decide));clear kk y;simp (disch:=omega)only[go_sem, *];refine k _ ?_ ?_ ?_
  all_goals (clear k;simp (disch:=omega)only[go_sem, *])
end
end Go.Ab.T
namespace Go.Ab.T
open Go Go.Ab
set_option maxHeartbeats 16000000
set_option maxRecDepth 4000
section
variable {b ip wp kb l:Nat} {h h':AH} {C:Am} {vC vL a f:V} {X:List V} {Q:List (List Int)} {c:PC} {s:PS}
theorem Hz.back (k:Hz b h C ip vC vL X Q) (hl:l<=b):Hz b (h.back l) C ip vC vL X Q:=⟨k.gi,k.sc,k.sl,k.xl,k.sx,k.ql,hl,k.bp,k.nL,k.dL,k.dC,k.dX,k.u⟩
theorem WA.back (k:WA b h wp a f c s) (hl:l<=b):WA b (h.back l) wp a f c s:=⟨k.gp,k.sa,k.sf,hl,k.bp,k.da,k.df,k.l1,k.l2,k.l3,k.l4,k.l5,k.l6,k.pl,k.pr⟩
theorem Hz.ext (k:Hz b h C ip vC vL X Q) (x:Ak h h'):Hz b h' C ip vC vL X Q:=k.keep (J:=λ_=>False) (Wr.refl.ext x) (λ_ _ e=>e)
theorem WK.new {pe:Int} {en:Bool} (o:Hz b h C ip vC vL X Q):WK b (h.alloc ⟨7,[F0 C ip pe en]⟩) C h.next ip vC vL X Q:=by
 have l:=o.bp;exact ⟨⟨pe,en,by rw [AD];exact Ar rfl⟩,⟨Nat.lt_succ_self _,om⟩,λe=>by have:=(o.low _ e).2;omega,o.ext ((Ak.refl h).alloc _)⟩
theorem WK.back (k:WK b h C kb ip vC vL X Q) (hl:l<=b):WK b (h.back l) C kb ip vC vL X Q:=⟨k.k,k.n,k.d,k.o.back hl⟩
theorem WK.ext (k:WK b h C kb ip vC vL X Q) (x:Ak h h'):WK b h' C kb ip vC vL X Q:=k.keep (J:=λ_=>False) (Wr.refl.ext x) (λ_ _ e=>e)
end
theorem PA.lowB {b pp tb lg:Nat} {h:AH} {w a f:V} {c:PC} {s:PS} (p:PA b h pp tb lg w a f c s):∀ j,OP pp tb lg w a f j->b<=j:=by
 obtain ⟨l1,l2,l3⟩:=p.low;obtain ⟨n1,n2,n3⟩:=p.bp;rintro j (e | e | e | e | e | ⟨z,e⟩)
 .omega
 .omega
 .omega
 .omega
 .omega
 .rw [e];exact l3.resolve_left (by rw [z];decide)
theorem GY.new {A B C D E:Nat->Prop} {n1 n2 n3 n4 n5:Nat} (d:∀ j,D j->1<=j/\j<n1) (e:∀ j,E j->n1<=j/\j<n2) (a:∀ j,A j->n2<=j/\j<n3) (c:∀ j,C j->n3<=j/\j<n4) (b:∀ j,B j->n4<=j/\j<n5) (h1:1<=n1) (h2:n1<=n2) (h3:n2<=n3) (h4:n3<=n4) (h5:n4<=n5):GY n5 A B C D E:=by
 refine ⟨λj=>if j=0 then 5 else if j<n1 then 3 else if j<n2 then 4 else if j<n3 then 0 else if j<n4 then 2 else 1,λj q=>?_,λj q=>?_,λj q=>?_,λj q=>?_,λj q=>?_,om,rfl⟩
 .obtain ⟨x,y⟩:=a j q;exact ⟨om,by simp only [];rw [if_neg om,if_neg om,if_neg om,if_pos y]⟩
 .obtain ⟨x,y⟩:=b j q;exact ⟨om,by simp only [];rw [if_neg om,if_neg om,if_neg om,if_neg om,if_neg om]⟩
 .obtain ⟨x,y⟩:=c j q;exact ⟨om,by simp only [];rw [if_neg om,if_neg om,if_neg om,if_neg om,if_pos y]⟩
 .obtain ⟨x,y⟩:=d j q;exact ⟨om,by simp only [];rw [if_neg om,if_pos y]⟩
 .obtain ⟨x,y⟩:=e j q;exact ⟨om,by simp only [];rw [if_neg om,if_neg om,if_pos y]⟩
theorem uO {C : Am} {i : Nat} {prog ins steps : List Int} (hnm : Js C) (hw0 : (Bu C).1 = 0) (hip : i < C.parts.length) (hp1 : 1 <= (nth C.parts i).procs.length) (hp3 : (nth C.parts i).procs.length <= 3) (hcap : ∀ x ∈ C.chans, x.cap <= 8) (hch : C.chans.length <= 100) (hB : ∀ z ∈ prog, 0 <= z /\ z < 256) (hBl : prog.length < 4000000000) (hIu : Ej ins) (hIl : ins.length < 4000000000) (hsl : steps.length < 4000000000) :
    Pf tp Zx [.agg C.enc,.i .i64 i,.fl 1 (prog.map CJ),.fl 1 (ins.map CL),.fl 1 (steps.map Ek)] (.b true):=by
 have gp:PG (Cy C i prog ins):=⟨hip,hp1,hp3⟩
 have gh:PH (Cy C i prog ins):=⟨gp,rfl,rfl,rfl,rfl,rfl⟩
 have np:PN (Cy C i prog ins):=⟨λz hz=>hB z (List.mem_of_mem_take hz),hIu,hIl⟩
 have wn:=λ{h:AH} {K:V->AH->Prop}=>zN (h:=h) (K:=K) gp hBl hIl;have pn:=λ{h:AH} {K:V->AH->Prop}=>U1 (h:=h) (K:=K) (C:=C) (p:=i) (prog:=prog) (ins:=ins) hnm hw0 hip hp1 hp3 hBl;have po:=λ{h:AH} {K:V->AH->Prop}=>W3 (h:=h) (K:=K) (C:=C) om;simp only [Am.enc] at pn wn;refine AL aMh (by simp [PZ]) λrp=>?_;unfold PZ;simp (disch:=omega)only[go_sem, *];refine po ?_;intro h1 ip vC vL x1 o1;have g0:=x1.get 0 (Nat.lt_succ_self 0);have n1:=x1.next;have o2:Hz 1 (h1.back 0) C ip vC vL _ _:=o1.back (l:=0) (Nat.zero_le _);simp only [go_sem] at g0 n1;generalize hb:h1.back _=g1;have e1:h1.back 0=g1:=hb;rw [e1] at o2;replace g0:=(show g1.get 0=h1.get 0 by rw [<- e1];rfl).trans g0;have n1:1<=g1.next:=by rw [<- e1];exact n1
 have l1:g1.lim=0:=by rw [<- e1];rfl
 have k1:=WK.new o2 (pe:=-1) (en:=false);unfold F0 at k1;have o2:=k1.low;clear x1 o1 hb e1;simp (disch:=omega)only[go_sem, *];refine po ?_;intro h3 jp jC jL x3 o3;have x3':Ak (g1.alloc ⟨7,[[.fl 11 (C.parts.map Part.enc),.fl 6 (C.chans.map AU.enc),.fl 1 (C.tables.map Tab.enc),.p ip 0 0,.i .i64 (-1),.i .i64 0,.b false]]⟩) (h3.back 0):=⟨x3.next,l1.symm,x3.get⟩
 have o4:=o3.back (l:=0) (Nat.zero_le _);generalize hb:h3.back _=g3;have e3:h3.back 0=g3:=by rw [<- hb];simp only [go_sem,l1]
 rw [e3] at o4 x3';replace g0:=((x3'.get 0 (by simp only [go_sem];omega)).trans (show _=g1.get 0 by rw [AD,Af om])).trans g0;have n3:=x3'.next;have l3:=x3'.lim;replace k1:=k1.ext x3';have k2:=WK.new o4 (pe:=-1) (en:=false);unfold F0 at k2;have k1:=k1.ext ((Ak.refl g3).alloc ⟨7,[[.fl 11 (C.parts.map Part.enc),.fl 6 (C.chans.map AU.enc),.fl 1 (C.tables.map Tab.enc),.p jp 0 0,.i .i64 (-1),.i .i64 0,.b false]]⟩);have o4:=k2.low;have k2:WK (g1.next+1) _ _ _ _ _ _ _ _:=k2;have n4:(g3.alloc ⟨7,[[.fl 11 (C.parts.map Part.enc),.fl 6 (C.chans.map AU.enc),.fl 1 (C.tables.map Tab.enc),.p jp 0 0,.i .i64 (-1),.i .i64 0,.b false]]⟩).next=g3.next+1:=rfl;have l4:(g3.alloc ⟨7,[[.fl 11 (C.parts.map Part.enc),.fl 6 (C.chans.map AU.enc),.fl 1 (C.tables.map Tab.enc),.p jp 0 0,.i .i64 (-1),.i .i64 0,.b false]]⟩).lim=0:=l3.trans l1;replace g0:=(show (g3.alloc ⟨7,[[.fl 11 (C.parts.map Part.enc),.fl 6 (C.chans.map AU.enc),.fl 1 (C.tables.map Tab.enc),.p jp 0 0,.i .i64 (-1),.i .i64 0,.b false]]⟩).get 0=g3.get 0 by rw [AD,Af (by simp only [go_sem] at n3;omega)]).trans g0;simp only [go_sem] at o2 n3;clear x3 o3 hb e3 x3' l3 l1;simp (disch:=omega)only[go_sem, *];generalize g3.alloc _=g4 at *;refine pn ?_;intro h5 pp tb lg w a x5 p5;have x5':Ak g4 (h5.back 0):=⟨x5.next,l4.symm,x5.get⟩
 have p5:=p5.back (l:=0) (Nat.zero_le _);generalize hb:h5.back _=g5;have e5:h5.back 0=g5:=by rw [<- hb,l4]
 rw [e5] at x5' p5;clear hb e5 x5;have p5:PA g4.next g5 pp tb lg w a .ns (Cy C i prog ins) (Ef (Cy C i prog ins)):=p5;replace k1:=k1.ext x5';replace k2:=k2.ext x5';replace g0:=(x5'.get 0 om).trans g0;have n5:=x5'.next;have l5:=x5'.lim.trans l4;have o5:∀ j,OP pp tb lg w a .ns j->g4.next<=j/\j<g5.next:=λj e=>⟨p5.lowB j e,p5.lowO j e⟩
 clear x5';simp (disch:=omega)only[go_sem, *];refine wn ?_;intro h6 wp a2 x6 w6;have x6':Ak g5 (h6.back 0):=⟨x6.next,l5.symm,x6.get⟩
 have w6:=w6.back (l:=0) (Nat.zero_le _);generalize hb:h6.back _=g6;have e6:h6.back 0=g6:=by rw [<- hb,l5]
 rw [e6] at x6' w6;clear hb e6 x6;have w6:WA g5.next g6 wp a2 .ns (Cy C i prog ins) (Ef (Cy C i prog ins)):=w6;replace k1:=k1.ext x6';replace k2:=k2.ext x6';replace p5:=p5.ext x6';replace g0:=(x6'.get 0 om).trans g0;have n6:=x6'.next;have l6:=x6'.lim.trans l5;have o6:=w6.low;clear x6';simp (disch:=omega)only[go_sem, *];refine pn ?_;intro g7 pq tq lq w' a' x7 q7;have y:PL (Cy C i prog ins) (Ef (Cy C i prog ins)) g4.next g6.next g5.next 1 (g1.next+1) pp tb lg pq tq lq wp g1.next ip g3.next jp w w' a' vC vL jC jL g7 a .ns a2 .ns _ _ (Ef (Cy C i prog ins)) _ (Ef (Cy C i prog ins)) _:=
  ⟨p5.ext x7,q7,w6.ext x7,k1.ext x7,k2.ext x7,(x7.get 0 om).trans g0,GY.new o2 o4 o5 o6 (λj e=>⟨q7.lowB j e,q7.lowO j e⟩) om om om om x7.next⟩
 clear p5 q7 w6 k1 k2 x7 o2 o4 o5 o6;have es:∀ s:PS,decide (s.clk=s.clk/\s.mem=s.mem/\s.all=s.all/\s.procs=s.procs/\s.halt=s.halt/\s.fl=s.fl)=true:=λs=>by simp
 have ep:(Cy C i prog ins).p=i:=rfl;have pl:(nth C.parts i).procs.length=(Ef (Cy C i prog ins)).procs.length:=by simp [Ef,Cz,Cy]
 simp (disch:=omega)only[go_sem, *];refine uN gh np hcap hch hsl pl rfl rfl y ⟨?_, ?_, ?_, ?_, ?_, ?_, ?_, ?_, ?_⟩ ?_
 rotate_right 1
 .clear y pl;intro e' h8 a3 f3 a4 f4 X3 X4 s Q y8 hck f13 f14 f15;simp (disch:=omega)only[go_sem, *];refine Tb (l:=h8.lim) y8.fp y8.fp ?_;intro h9 x9;have x9':Ak h8 (h9.back h8.lim):=⟨x9.next,rfl,x9.get⟩
  generalize hb:h9.back _=g9;have e9:h9.back h8.lim=g9:=hb;rw [e9] at x9';have y9:=y8.ext x9';clear y8 hb e9 x9 x9';rw [es];simp (disch:=omega)only[go_sem, *];refine Tb (l:=g9.lim) y9.fp y9.fq ?_;intro h1 x1;have x1':Ak g9 (h1.back g9.lim):=⟨x1.next,rfl,x1.get⟩
  generalize hb:h1.back _=g2;have e1:h1.back g9.lim=g2:=hb;rw [e1] at x1';have y2:=y9.ext x1';clear y9 hb e1 x1 x1';have ed:decide (s.clk=(Ef (Cy C i prog ins)).clk/\s.mem=(Ef (Cy C i prog ins)).mem/\s.all=(Ef (Cy C i prog ins)).all/\s.procs=(Ef (Cy C i prog ins)).procs/\s.halt=(Ef (Cy C i prog ins)).halt/\s.fl=(Ef (Cy C i prog ins)).fl)=false:=decide_eq_false λz=>by
   have:s.clk=0:=z.1;omega
  rw [ed];have gw:=y2.fw.gp;have f23:=AI.f23 (c:=Cy C i prog ins) (a:=a4) (f:=f4) (clk:=s.clk) (st:=s.halt) y2.fw.l3;have rl:=AI.len (c:=Cy C i prog ins) (a:=a4) (f:=f4) (clk:=s.clk) (st:=s.halt) y2.fw.l3;have hz:¬ s.clk=0:=by omega
  clear y2 ed es;simp (disch:=omega)only[go_sem, *]
 all_goals (clear y;simp (disch:=omega)only[go_sem, *])
end Go.Ab.T
namespace Go.Ab.T
open Go Go.Ab
set_option maxHeartbeats 4000000
section
variable {tp:TP} {c a b:TC} {e e2:Env} {h h2:AH} {K:Ex->Env->AH->Prop}
end
section
variable {tp:TP} {S S':Nat->Prop} {m m':Nat->Nat} {h hc h' hc':AH}
end
end Go.Ab.T
namespace Go.Ab.T
open Go Go.Ab
set_option maxHeartbeats 16000000
set_option maxRecDepth 4000
theorem Made.caps {C:Am} (h:Made C):∀ x∈C.chans,x.cap<=8:=λx hx=>by
 have:=(Ey.1 h.wh).2.2.1 x hx;unfold C9 at this;simp only [Bool.and_eq_true,decide_eq_true_eq] at this;obtain ⟨_,this⟩:=this;split at this
 .simp only [decide_eq_true_eq] at this;omega
 .simp only [decide_eq_true_eq] at this;omega
end Go.Ab.T
