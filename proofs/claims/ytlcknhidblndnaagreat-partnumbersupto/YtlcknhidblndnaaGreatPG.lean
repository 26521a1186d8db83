/- Part of a proof that a law returns true for every input of the second form's bound (no other condition). -/
import Derived.Test.YtlcknhidblndnaaGreatPF
set_option linter.all false
namespace Go.Ab.T
open Go Go.Ab
structure Ct where
 s:Int
 e:Int
 deriving DecidableEq,Inhabited
@[go_sem] def Ct.enc (x:Ct):List V:=[.i .i64 x.s,.i .i64 x.e]
def Iq (L:List AQ):Prop:=Bd L/\AB L<=4096
theorem Iq.nil:Iq []:=⟨λ_ h=>(by cases h),by simp [AB]⟩
theorem Iq.tail {r:AQ} {l:List AQ} (h:Iq (r::l)):Iq l:=⟨λx hx=>h.1 x (List.mem_cons_of_mem _ hx),by
 have:=h.1 r (List.mem_cons_self ..);have:=h.2;simp only [AB] at this;omega⟩
def AY (p:Int):Int->List AQ->List Ct
 | _,[]=>[]
 | a,r::l=>(if r.part=p then [⟨a,a+r.n⟩] else [])++AY p (a+r.n) l
def NU (t:Int):List Ct->Option Int
 | []=>none
 | s::l=>if t+1<s.e then some (max (t+1) s.s) else NU t l
def JA (tt:List Ct) (t n:Int):Int:=match NU t tt with | some x=>x | none=>n+(nth tt 0).s
def FU (tt:List Ct) (n:Int):List Ct->Int->Int
 | [],w=>w
 | s::l,w=>FU tt n l (max (max w (JA tt s.s n - s.s)) (JA tt (s.e - 1) n - (s.e - 1)))
def DB (L:List AQ) (f t:Int):Int:=if AY f 0 L=[] then 0 else if AY t 0 L=[] then -1 else FU (AY t 0 L) (AB L) (AY f 0 L) 0
def B0:List AQ->List Int
 | []=>[]
 | r::l=>List.replicate r.n.toNat r.part++B0 l
theorem E5:∀ {L:List AQ},Bd L->((B0 L).length:Int)=AB L
 | [],_=>rfl
 | r::l,h=>by
  have:=E5 (L:=l) (λx hx=>h x (List.mem_cons_of_mem _ hx));have:=h r (List.mem_cons_self ..);simp only [B0,AB,List.length_append,List.length_replicate];omega
theorem JI {p:Int}:∀ {L:List AQ} {a:Int},Bd L->(p∈B0 L↔AY p a L≠[])
 | [],a,_=>by simp [B0,AY]
 | r::l,a,h=>by
  have ih:=JI (p:=p) (L:=l) (a:=a+r.n) (λx hx=>h x (List.mem_cons_of_mem _ hx));have:=h r (List.mem_cons_self ..);simp only [B0,AY,List.mem_append,List.mem_replicate,ih]
  by_cases hp:r.part=p
  .rw [if_pos hp];simp;left;exact ⟨om,hp.symm⟩
  .rw [if_neg hp];simp only [List.nil_append];constructor
   .rintro (h | h)
    .exact absurd h.2.symm hp
    .exact h
   .exact .inr
inductive CH:Int->List Ct->Int->Prop where
 | nil (a n:Int):a<=n->CH a [] n
 | cons (a n:Int) (x:Ct) (l:List Ct):a<=x.s->x.s<x.e->CH x.e l n->CH a (x::l) n
theorem CH.lo {a b n:Int} {l:List Ct} (h:CH b l n) (hab:a<=b):CH a l n:=by
 cases h with
 | nil _ _ h=>exact .nil _ _ om
 | cons _ _ x l h1 h2 h3=>exact .cons _ _ _ _ om h2 h3
theorem CH.le {a n:Int} {l:List Ct} (h:CH a l n):a<=n:=by
 induction h with
 | nil _ _ h=>exact h
 | cons _ _ x l h1 h2 _ ih=>omega
theorem CH.mem {a n:Int} {l:List Ct} (h:CH a l n) {x:Ct} (hx:x∈l):a<=x.s/\x.s<x.e/\x.e<=n:=by
 induction h with
 | nil=>cases hx
 | cons a n y l h1 h2 h3 ih=>
  have:=h3.le;rcases List.mem_cons.1 hx with rfl | hx
  .omega
  .have:=ih hx;omega
theorem BS {p:Int}:∀ {L:List AQ} {a:Int},Bd L->CH a (AY p a L) (a+AB L)
 | [],a,_=>.nil _ _ (by simp [AB])
 | r::l,a,h=>by
  have ih:=BS (p:=p) (L:=l) (a:=a+r.n) (λx hx=>h x (List.mem_cons_of_mem _ hx));have:=h r (List.mem_cons_self ..);have e:a+r.n+AB l=a+AB (r::l):=by simp only [AB];omega
  rw [e] at ih;rw [AY];split
  .exact .cons _ _ _ _ (by simp only;omega) (by simp only;omega) ih
  .exact ih.lo om
def JC (W:List Int) (t:Int):Int:=nth W t.toNat
theorem HV {α:Type} [Inhabited α] {A B:List α} {i:Nat}:nth (A++B) i=if i<A.length then nth A i else nth B (i - A.length):=by
 unfold nth;split
 .simp only [List.getD];rw [List.getElem?_append_left (by assumption)]
 .simp only [List.getD];rw [List.getElem?_append_right om]
theorem GF {α:Type} [Inhabited α] {a:α} {n i:Nat} (h:i<n):nth (List.replicate n a) i=a:=by simp [nth,List.getD,h]
theorem U9 {p:Int}:∀ {L:List AQ} {a t:Int},Bd L->a<=t->t<a+AB L->(JC (B0 L) (t - a)=p↔∃ s∈AY p a L,s.s<=t/\t<s.e)
 | [],a,t,_,h1,h2=>by simp [AB] at h2;omega
 | r::l,a,t,h,h1,h2=>by
  have hp:=h r (List.mem_cons_self ..);have hl:Bd l:=λx hx=>h x (List.mem_cons_of_mem _ hx);have hs:=BS (p:=p) (L:=l) (a:=a+r.n) hl;simp only [AB] at h2
  by_cases ht:t<a+r.n
  .have e:JC (B0 (r::l)) (t - a)=r.part:=by
    unfold JC;rw [B0,HV,if_pos (by simp;omega),GF om]
   rw [e,AY];constructor
   .intro hq;rw [if_pos hq];exact ⟨⟨a,a+r.n⟩,by simp,by simp only;omega,by simp only;omega⟩
   .rintro ⟨s,hs1,hs2,hs3⟩
    by_cases hq:r.part=p
    .exact hq
    .rw [if_neg hq] at hs1;have:=hs.mem hs1;omega
  .have e:JC (B0 (r::l)) (t - a)=JC (B0 l) (t - (a+r.n)):=by
    unfold JC;rw [B0,HV,if_neg (by simp;omega)]
    congr 1;simp;omega
   rw [e,U9 hl om om,AY];constructor
   .rintro ⟨s,a1,a2⟩;exact ⟨s,List.mem_append_right _ a1,a2⟩
   .rintro ⟨s,a1,a2,a3⟩;rcases List.mem_append.1 a1 with a1 | a1
    .split at a1
     .simp at a1;subst a1;simp only at a3;omega
     .cases a1
    .exact ⟨s,a1,a2,a3⟩
def Fu (W:List Int) (p t d:Int):Prop:=1<=d/\JC W ((t+d) % W.length)=p/\∀ c,1<=c->c<d->JC W ((t+c) % W.length)≠p
theorem Fu.uniq {W:List Int} {p t a b:Int} (x:Fu W p t a) (y:Fu W p t b):a=b:=by
 rcases Int.lt_trichotomy a b with h | h | h
 .exact absurd x.2.1 (y.2.2 a x.1 h)
 .exact h
 .exact absurd y.2.1 (x.2.2 b y.1 h)
theorem Fu.step {W:List Int} {p t d:Int} (x:Fu W p t d) (h:1<d):Fu W p (t+1) (d - 1):=by
 refine ⟨om, ?_,λc h1 h2=>?_⟩
 .rw [show t+1+(d - 1)=t+d by omega];exact x.2.1
 .rw [show t+1+c=t+(c+1) by omega];exact x.2.2 (c+1) om om
theorem FK {t:Int}:∀ {l:List Ct} {a n:Int},CH a l n->(NU t l=none/\∀ s∈l,s.e<=t+1)\/∃ s∈l,NU t l=some (max (t+1) s.s)/\t+1<s.e/\∀ q∈l,q.e<=t+1\/s.s<=q.s
 | [],a,n,_=>.inl ⟨rfl,λs h=>(by cases h)⟩
 | x::l,a,n,.cons _ _ _ _ h1 h2 h3=>by
  rw [NU]
  by_cases hc:t+1<x.e
  .rw [if_pos hc];refine .inr ⟨x,List.mem_cons_self ..,rfl,hc,λq hq=>?_⟩;rcases List.mem_cons.1 hq with rfl | hq
   .exact .inr om
   .have:=h3.mem hq;exact .inr om
  .rw [if_neg hc];rcases FK h3 with ⟨a1,a2⟩ | ⟨s,a1,a2,a3,a4⟩
   .refine .inl ⟨a1,λs hs=>?_⟩;rcases List.mem_cons.1 hs with rfl | hs
    .omega
    .exact a2 s hs
   .refine .inr ⟨s,List.mem_cons_of_mem _ a1,a2,a3,λq hq=>?_⟩;rcases List.mem_cons.1 hq with rfl | hq
    .exact .inl om
    .exact a4 q hq
theorem JJ {L:List AQ} {p t:Int} (h:Bd L) (ht0:0<=t) (ht:t<AB L) (hne:AY p 0 L≠[]):Fu (B0 L) p t (JA (AY p 0 L) t (AB L) - t):=by
 have hl:=E5 h;have hs:=BS (p:=p) (a:=0) h;rw [Int.zero_add] at hs;have hw:∀ x,0<=x->x<AB L->(JC (B0 L) x=p↔∃ s∈AY p 0 L,s.s<=x/\x<s.e):=λx h0 h1=>by
  have:=U9 (p:=p) (a:=0) (t:=x) h h0 om
  rwa [Int.sub_zero] at this
 unfold JA;rcases FK (t:=t) hs with ⟨a1,a2⟩ | ⟨s,a1,a2,a3,a4⟩
 .rw [a1];simp only;obtain ⟨s0,l0,e0⟩:∃ s0 l0,AY p 0 L=s0::l0:=by
   match hh:AY p 0 L,hne with
   | a::b,_=>exact ⟨a,b,rfl⟩
  have m0:s0∈AY p 0 L:=by rw [e0];exact List.mem_cons_self ..
  have b0:=hs.mem m0;have n0:nth (AY p 0 L) 0=s0:=by rw [e0];rfl
  rw [n0];refine ⟨om, ?_,λc h1 h2=>?_⟩
  .rw [show t+(AB L+s0.s - t)=s0.s+((B0 L).length:Int) by omega,Int.add_emod_right,Int.emod_eq_of_lt om om];exact (hw s0.s om om).2 ⟨s0,m0,om,om⟩
  .by_cases hc:t+c<AB L
   .rw [Int.emod_eq_of_lt om om];intro he;obtain ⟨s,m1,m2,m3⟩:=(hw (t+c) om hc).1 he;have:=a2 s m1;omega
   .rw [show t+c=(t+c - (B0 L).length)+((B0 L).length:Int) by omega,Int.add_emod_right,Int.emod_eq_of_lt om om];intro he;obtain ⟨s,m1,m2,m3⟩:=(hw (t+c - (B0 L).length) om om).1 he;have hs2:=hs;rw [e0] at hs2 m1
    cases hs2 with
    | cons _ _ _ _ q1 q2 q3=>
     rcases List.mem_cons.1 m1 with rfl | m1
     .omega
     .have:=q3.mem m1;omega
 .rw [a2];simp only;have b:=hs.mem a1;refine ⟨om, ?_,λc h1 h2=>?_⟩
  .rw [show t+(max (t+1) s.s - t)=max (t+1) s.s by omega,Int.emod_eq_of_lt om om];exact (hw _ om om).2 ⟨s,a1,om,om⟩
  .rw [Int.emod_eq_of_lt om om];intro he;obtain ⟨q,m1,m2,m3⟩:=(hw (t+c) om om).1 he;rcases a4 q m1 with h5 | h5<;>omega
def FJ (W:List Int) (f:Int) (F:Int->Int):List Int->Int->Int->Int
 | [],_,w=>w
 | p::l,t,w=>FJ W f F l (t+1) (if p=f then max w (F t) else w)
theorem Pd {W:List Int} {f:Int} {F:Int->Int}:∀ (A B:List Int) (t w:Int),FJ W f F (A++B) t w=FJ W f F B (t+A.length) (FJ W f F A t w)
 | [],B,t,w=>by simp [FJ]
 | p::A,B,t,w=>by
  rw [List.cons_append,FJ,FJ,Pd A B]
  congr 1;simp;omega
theorem KE {W:List Int} {f p:Int} {F:Int->Int} (hp:p≠f):∀ (n:Nat) (t w:Int),FJ W f F (List.replicate n p) t w=w
 | 0,t,w=>rfl
 | n+1,t,w=>by rw [List.replicate_succ,FJ,if_neg hp,KE hp n]
theorem Pe {W:List Int} {f:Int} {F:Int->Int} (X:Int):∀ (n:Nat) (t w:Int),X<=w->(∀ i,t<=i->i<t+n->F i<=max X (F (t+n - 1)))->FJ W f F (List.replicate n f) t w=if n=0 then w else max w (F (t+n - 1))
 | 0,t,w,_,_=>rfl
 | n+1,t,w,hX,h=>by
  rw [List.replicate_succ,FJ,if_pos rfl,Pe X n (t+1) _ om (λi h1 h2=>by
   have:=h i om om;rw [show t+1+(n:Int) - 1=t+((n+1:Nat):Int) - 1 by omega];exact this)]
  have h0:=h t om om
  by_cases hn:n=0
  .subst hn;simp
  .rw [if_neg hn,if_neg om,show t+1+(n:Int) - 1=t+((n+1:Nat):Int) - 1 by omega];omega
theorem bT {W:List Int} {f:Int} {F:Int->Int} {n:Nat} {t w:Int} (hn:1<=n) (h:∀ i,t<=i->i<t+n->F i<=max (F t) (F (t+n - 1))):FJ W f F (List.replicate n f) t w=max (max w (F t)) (F (t+n - 1)):=by
 obtain ⟨m,rfl⟩:∃ m,n=m+1:=⟨n - 1,om⟩
 rw [List.replicate_succ,FJ,if_pos rfl,Pe (F t) m (t+1) _ om (λi h1 h2=>by
  have:=h i om om;rw [show t+1+(m:Int) - 1=t+((m+1:Nat):Int) - 1 by omega];exact this)]
 by_cases hn:m=0
 .subst hn;simp
 .rw [if_neg hn,show t+1+(m:Int) - 1=t+((m+1:Nat):Int) - 1 by omega]
theorem O7 {M : List AQ} {f p : Int} (hM : Bd M) (hne : AY p 0 M ≠ []) : ∀ (L : List AQ) (a w : Int) (A : List Int), Bd L -> B0 M = A ++ B0 L -> (A.length : Int) = a ->
    FJ (B0 M) f (λt=>JA (AY p 0 M) t (AB M) - t) (B0 L) a w=FU (AY p 0 M) (AB M) (AY f a L) w
 | [],a,w,A,_,_,_=>rfl
 | r::l,a,w,A,h,hA,ha=>by
  have hp:=h r (List.mem_cons_self ..);have hl:Bd l:=λx hx=>h x (List.mem_cons_of_mem _ hx);have hwl:=E5 hM;have hwl2:=E5 hl;have hAl:=congrArg List.length hA;simp only [B0,List.length_append,List.length_replicate] at hAl;have hsum:a+r.n+AB l=AB M:=by omega
  have hs0:=B7 hl;have hrest:=λw=>O7 (f:=f) hM hne l (a+r.n) w (A++List.replicate r.n.toNat r.part) hl (by rw [hA,B0,List.append_assoc]) (by simp;omega);rw [B0,Pd,AY];rw [show a+((List.replicate r.n.toNat r.part).length:Int)=a+r.n by simp;omega]
  by_cases hq:r.part=f
  .rw [if_pos hq,hq];have hin:∀ i,a<=i->i<a+r.n->JC (B0 M) i=f:=by
    intro i h1 h2;unfold JC;rw [hA,HV,if_neg om,B0,HV,if_pos (by simp;omega),GF om];exact hq
   have hd:∀ i,a<=i->i<a+r.n->Fu (B0 M) p i (JA (AY p 0 M) i (AB M) - i):=λi h1 h2=>JJ hM om om hne;have key:∀ i,a<=i->i<a+r.n.toNat->(λt=>JA (AY p 0 M) t (AB M) - t) i<=max ((λt=>JA (AY p 0 M) t (AB M) - t) a) ((λt=>JA (AY p 0 M) t (AB M) - t) (a+r.n.toNat - 1)):=by
    intro i h1 h2;simp only
    by_cases hfp:f=p
    .by_cases hlast:i=a+r.n.toNat - 1
     .subst hlast;omega
     .have d1:Fu (B0 M) p i 1:=⟨om,by
       rw [Int.emod_eq_of_lt om om,hin _ om om];exact hfp,λc h3 h4=>by omega⟩
      have e1:=(hd i h1 om).uniq d1;have e2:=(hd (a+r.n.toNat - 1) om om).1;omega
    .have dec:∀ k:Nat,a+k<a+r.n->JA (AY p 0 M) (a+k) (AB M) - (a+k)<=JA (AY p 0 M) a (AB M) - a:=by
      intro k
      induction k with
      | zero=>intro _;simp
      | succ k ih=>
       intro hk;have ih:=ih om;have d:=hd (a+k) om om;have g:1<JA (AY p 0 M) (a+k) (AB M) - (a+k):=by
        have h1:=d.1;rcases Int.lt_or_eq_of_le h1 with h2 | h2
        .exact h2
        .have h3:=d.2.1;rw [<- h2,Int.emod_eq_of_lt om om,hin _ om om] at h3;exact absurd h3 hfp
       have d2:=d.step g;have e:=(hd (a+k+1) om om).uniq d2;rw [show a+((k+1:Nat):Int)=a+k+1 by omega];omega
     have:=dec (i - a).toNat om;rw [show a+((i - a).toNat:Int)=i by omega] at this;omega
   rw [bT om key,hrest];rw [List.singleton_append,FU];simp only;rw [show a+(r.n.toNat:Int) - 1=a+r.n - 1 by omega]
  .rw [if_neg hq,KE hq,hrest,List.nil_append]
end Go.Ab.T
namespace Go.Ab.T
open Go Go.Ab
def Hg (t u:Int):List Ct->Int->Int
 | [],n=>n
 | s::l,n=>Hg t u l (n+max 0 (min s.e u - max s.s t))
def IL (F:Int->Int) (P:Int):Nat->Int->Int->Int
 | 0,_,w=>w
 | k+1,t,w=>IL F P k (t+P) (min w (F t))
def HD (L:List AQ) (p P:Int):Int:=if P<1\/AB L=0\/AB L % P≠0 then -1 else IL (λt=>Hg t (t+P) (AY p 0 L) 0) P (AB L / P).toNat 0 P
def Ei (p:Int):List Int->Int->Int
 | [],n=>n
 | x::l,n=>Ei p l (if x=p then n+1 else n)
theorem Iy (p:Int):∀ (l:List Int) (n:Int),Ei p l n=n+Ei p l 0
 | [],n=>by simp [Ei]
 | x::l,n=>by rw [Ei,Ei,Iy p l,Iy p l (if x=p then 0+1 else 0)];split<;>omega
theorem OL (p:Int):∀ (l:List Int) (n:Int),Ei p l n<=n+l.length
 | [],n=>by simp [Ei]
 | x::l,n=>by
  have:=OL p l (if x=p then n+1 else n);rw [Ei];simp only [List.length_cons];split at this<;>split<;>simp_all<;>omega
def cnt (p t u:Int):Int->List Int->Int
 | _,[]=>0
 | a,x::l=>(if x=p/\t<=a/\a<u then 1 else 0)+cnt p t u (a+1) l
theorem JG {p t u:Int}:∀ (A B:List Int) (a:Int),cnt p t u a (A++B)=cnt p t u a A+cnt p t u (a+A.length) B
 | [],B,a=>by simp [cnt]
 | x::A,B,a=>by
  rw [List.cons_append,cnt,cnt,JG A B,show a+1+(A.length:Int)=a+((x::A).length:Int) by simp;omega];omega
theorem Ua {p q t u:Int}:∀ (n:Nat) (a:Int),cnt p t u a (List.replicate n q)=if q=p then max 0 (min (a+n) u - max a t) else 0
 | 0,a=>by simp [cnt];intro _;omega
 | n+1,a=>by
  rw [List.replicate_succ,cnt,Ua n]
  by_cases hq:q=p
  .simp only [hq,true_and,if_true];split<;>omega
  .simp [hq]
theorem Iz {p t u:Int}:∀ (L:List AQ) (a w:Int),Bd L->Hg t u (AY p a L) w=w+cnt p t u a (B0 L)
 | [],a,w,_=>by simp [AY,Hg,B0,cnt]
 | r::l,a,w,h=>by
  have hp:=h r (List.mem_cons_self ..);have hl:Bd l:=λx hx=>h x (List.mem_cons_of_mem _ hx);rw [AY,B0,JG,Ua]
  by_cases hq:r.part=p
  .rw [if_pos hq,if_pos hq,List.singleton_append,Hg,Iz l _ _ hl];simp only [List.length_replicate];rw [show a+(r.n.toNat:Int)=a+r.n by omega];omega
  .rw [if_neg hq,if_neg hq,List.nil_append,Iz l _ _ hl];simp only [List.length_replicate];rw [show a+(r.n.toNat:Int)=a+r.n by omega];omega
theorem Nk {p t u:Int}:∀ (A:List Int) (a:Int),a+A.length<=t\/u<=a->cnt p t u a A=0
 | [],a,_=>rfl
 | x::A,a,h=>by
  simp only [List.length_cons] at h;rw [cnt,Nk A (a+1) om,if_neg om];rfl
theorem YR {p t u:Int}:∀ (A:List Int) (a:Int),t<=a->a+A.length<=u->cnt p t u a A=Ei p A 0
 | [],a,_,_=>rfl
 | x::A,a,h1,h2=>by
  simp only [List.length_cons] at h2;rw [cnt,YR A (a+1) om om,Ei,Iy p A (if x=p then 0+1 else 0)]
  by_cases hx:x=p
  .rw [if_pos hx,if_pos ⟨hx,h1,om⟩];omega
  .rw [if_neg hx,if_neg (λh=>hx h.1)]
theorem Mr {L:List AQ} {p t P:Int} (h:Bd L) (h0:0<=t) (hP:0<=P) (h1:t+P<=AB L):Hg t (t+P) (AY p 0 L) 0=Ei p (((B0 L).drop t.toNat).take P.toNat) 0:=by
 have hl:=E5 h;rw [Iz L 0 0 h];have e:B0 L=(B0 L).take t.toNat++(((B0 L).drop t.toNat).take P.toNat++((B0 L).drop t.toNat).drop P.toNat):=by
  rw [List.take_append_drop,List.take_append_drop]
 conv=>lhs;rw [e]
 rw [JG,JG];simp only [List.length_take,List.length_drop];rw [Nk _ _ (.inl (by simp only [List.length_take];omega)),YR _ _ om (by simp only [List.length_take,List.length_drop];omega),Nk _ _ (.inr om)];omega
theorem tU {F:Int->Int} {P:Int}:∀ (k:Nat) (t w v:Int),(∀ i:Nat,i<k->F (t+i*P)<=v)->v<=w->1<=k->IL F P k t w=IL F P k t v
 | 0,t,w,v,_,_,hk=>by omega
 | k+1,t,w,v,h,hv,_=>by
  have h0:=h 0 om;simp only [Int.natCast_zero,Int.zero_mul,Int.add_zero] at h0;rw [IL,IL]
  congr 1
  omega
end Go.Ab.T
namespace Go.Ab.T
open Go Go.Ab
theorem Iq.ok {L:List AQ} (h:Iq L):EB L:=Hn h.1 (by have:=h.2;omega)
theorem Iq.length {L:List AQ} (h:Iq L):CU L 0=AB L:=by rw [HR L 0 h.1 om (by have:=h.2;omega)];omega
theorem KU {L:List AQ} {p:Int} (hf:Iq L):Pf tp SA [.fl 2 (L.map AQ.enc),.i .i64 p] (.fl 2 ((AY p 0 L).map Ct.enc)):=by
 refine AL rQ (by simp [Lu]) λrp=>?_;unfold Lu;simp (disch:=omega)only[go_sem, *];have hL:=rp.head.len;obtain ⟨hp,hs⟩:=hf;refine Ai (λn e h=>∃ (i:Nat) (a:Int) (o:V) (A:List Ct),n=L.length - i/\h.lim=0/\e 10=.fl 2 (L.map AQ.enc)/\e 11=.i .i64 L.length/\e 12=.i .i64 i/\e 1=.i .i64 p/\e 5=o/\e 6=.i .i64 a/\i<=L.length/\0<=a/\a+AB (L.drop i)<=4096/\A.length<=i/\Sl 0 h 2 o (A.map Ct.enc)/\A++AY p a (L.drop i)=AY p 0 L) ?_ _ _ _ ⟨0,0,.ns,[],rfl, ?_⟩
 .rintro n e h ⟨i,a,o,A,rfl,hl,e10,e11,e12,e1,e5,e6,hi,ha,has,hA,so,hz⟩ ih;rw [Ao aZx.eq_1];simp (disch:=omega)only[go_sem, *];refine Ad (λhc=>?_) (λhc=>?_)
  .have hn:=hp.nth (i:=i) om;have hd:=AN (L:=L) (i:=i) om;have hsd:=B7 (w:=L.drop (i+1)) (λq hq=>hp q (List.mem_of_mem_drop hq));rw [hd,AY] at hz;rw [hd,AB] at has;clear hd;simp (disch:=omega)only[go_sem, *];have hadd:=JY (a:=a) (b:=(nth L i).n) om om om;refine Pf.go (RC (a:=a) (b:=(nth L i).n) om om) (by simp only [go_sem]) λ_=>?_;simp (disch:=omega)only[go_sem, *];have x1:∀ k,Ak h ((h.alloc ⟨2,[[.i .i64 0,.i .i64 0]]⟩).put h.next k):=λk=>by (repeat (first | exact Ak.refl _ | refine Ak.alloc ?_ _ | (refine Ak.put ?_ _ _ ?_;rotate_left;(first | omega | (simp only [Ac,Ah];omega)))))
   refine Ax (λhc2=>?_) (λhc2=>?_)
   .rw [if_pos hc2] at hz;simp (disch:=omega)only[go_sem, *];refine Ad (λhc3=>?_) (λhc3=>by omega);simp (disch:=omega)only[go_sem, *];refine Av (R:=A.map Ct.enc) ((so.ext (x1 _)).alloc _) (by simp only [go_sem, *]) (Nat.zero_le _) (by simp;omega) ?_;intro w h4 s4 g4;have hl4:=g4.lim;simp (disch:=omega)only[go_sem, *];refine ih _ _ _ ?_ ⟨i+1,a+(nth L i).n,w,A++[⟨a,a+(nth L i).n⟩],rfl, ?_⟩
    .omega
    .simp (disch:=omega)only[go_sem, *]
     ((repeat' refine And.intro ?_ ?_)<;>first | omega | assumption | (simp;omega) | (simpa [Ct.enc] using s4) | ((rw [<- hz];simp)))
   .rw [if_neg hc2] at hz;simp (disch:=omega)only[go_sem, *];refine ih _ _ _ ?_ ⟨i+1,a+(nth L i).n,o,A,rfl, ?_⟩
    .omega
    .simp (disch:=omega)only[go_sem, *]
     ((repeat' refine And.intro ?_ ?_)<;>first | omega | assumption | (exact so.ext (x1 _)) | ((rw [<- hz];simp)))
  .rw [List.drop_eq_nil_of_le om,AY,List.append_nil] at hz;simp (disch:=omega)only[go_sem, *];subst hz;exact so.froze (λ_=>rfl) trivial om
 .simp (disch:=omega)only[go_sem, *];exact ⟨by simp;omega,Sl.nil _ _ _⟩
theorem UW {A:List Ct} {t N a:Int} (hs:CH a A N) (ha:0<=a) (hn:N<=4096) (ht:0<=t/\t<=4096) (hne:A≠[]):Pf tp SC [.fl 2 (A.map Ct.enc),.i .i64 t,.i .i64 N] (.i .i64 (JA A t N)):=by
 refine AL rS (by simp [Lw]) λrp=>?_;unfold Lw;simp (disch:=omega)only[go_sem, *];have hL:=rp.head.len;have hlen:0<A.length:=List.length_pos_iff.2 hne;refine Ai (λn e h=>∃ (i:Nat),n=A.length - i/\h.lim=0/\e 9=.fl 2 (A.map Ct.enc)/\e 10=.i .i64 A.length/\e 11=.i .i64 i/\e 0=.fl 2 (A.map Ct.enc)/\e 1=.i .i64 t/\e 2=.i .i64 N/\i<=A.length/\NU t (A.drop i)=NU t A) ?_ _ _ _ ⟨0,rfl, ?_⟩
 .rintro n e h ⟨i,rfl,hl,e9,e10,e11,e0,e1,e2,hi,hz⟩ ih;rw [Ao aE8.eq_1];simp (disch:=omega)only[go_sem, *];refine Ad (λhc=>?_) (λhc=>?_)
  .have hm:=hs.mem (Az (L:=A) (j:=i) om);rw [AN om,NU] at hz;simp (disch:=omega)only[go_sem, *];refine Ad (λhc2=>?_) (λhc2=>?_)
   .rw [if_pos hc2] at hz;unfold JA;rw [<- hz];simp (disch:=omega)only[go_sem, *]
   .rw [if_neg hc2] at hz;simp (disch:=omega)only[go_sem, *];refine ih _ _ _ ?_ ⟨i+1,rfl, ?_⟩
    .omega
    .simp (disch:=omega)only[go_sem, *]
     ((repeat' refine And.intro ?_ ?_)<;>first | omega | assumption)
  .have hm:=hs.mem (Az (L:=A) (j:=0) om);rw [List.drop_eq_nil_of_le om,NU] at hz;unfold JA;rw [<- hz];have z0:Int.toNat 0=0:=rfl;have hlen2:(0:Int)<A.length:=by omega
   simp (disch:=omega)only[go_sem, *]
 .simp (disch:=omega)only[go_sem, *]
end Go.Ab.T
namespace Go.Ab.T
open Go Go.Ab
set_option maxHeartbeats 1000000
theorem S0 {A:List Ct} {t n:Int} (hs:CH 0 A n) (ht:t<n) (hne:A≠[]):JA A t n<=n+n:=by
 have hm:=hs.mem (Az (L:=A) (j:=0) (List.length_pos_iff.2 hne));unfold JA;rcases FK (t:=t) hs with ⟨h,_⟩ | ⟨s,hs1,h,h2,_⟩
 .rw [h];simp only;omega
 .rw [h];simp only;have:=hs.mem hs1;omega
theorem tH {L:List AQ} {f t:Int} (hf:Iq L):Pf tp Sr [.fl 2 (L.map AQ.enc),.i .i64 f,.i .i64 t] (.i .i64 (DB L f t)):=by
 refine AL rF (by simp [Lj]) λrp=>?_;unfold Lj;simp (disch:=omega)only[go_sem, *];have hss:=BS (p:=f) (a:=0) hf.1;have hst:=BS (p:=t) (a:=0) hf.1;rw [Int.zero_add] at hss hst;have hlen:=hf.length;have hs0:=B7 hf.1;have hs4:=hf.2;refine Pf.go (KU (p:=f) hf) (by simp only [go_sem]) λq1=>?_;have hq1:=q1.len;simp (disch:=omega)only[go_sem, *];refine Pf.go (KU (p:=t) hf) (by simp only [go_sem]) λ_=>?_;simp (disch:=omega)only[go_sem, *];unfold DB;refine Ad (λhc=>?_) (λhc=>?_)
 .have e:AY f 0 L=[]:=List.length_eq_zero_iff.1 om;rw [if_pos e];simp (disch:=omega)only[go_sem, *]
 have e:AY f 0 L≠[]:=λh=>hc (by rw [h];rfl);rw [if_neg e];clear e;simp (disch:=omega)only[go_sem, *];refine Ad (λhc=>?_) (λhc=>?_)
 .have e:AY t 0 L=[]:=List.length_eq_zero_iff.1 om;rw [if_pos e];simp (disch:=omega)only[go_sem, *]
 have hst0:AY t 0 L≠[]:=λh=>hc (by rw [h];rfl);rw [if_neg hst0];simp (disch:=omega)only[go_sem, *];refine Pf.go (MD hf.ok) (by simp only [go_sem]) λ_=>?_;simp (disch:=omega)only[go_sem, *];refine Ai (λn e h=>∃ (i:Nat) (w:Int),n=(AY f 0 L).length - i/\h.lim=0/\e 31=.fl 2 ((AY f 0 L).map Ct.enc)/\e 32=.i .i64 (AY f 0 L).length/\e 33=.i .i64 i/\e 8=.fl 2 ((AY t 0 L).map Ct.enc)/\e 9=.i .i64 (AB L)/\e 10=.i .i64 w/\i<=(AY f 0 L).length/\FU (AY t 0 L) (AB L) ((AY f 0 L).drop i) w=FU (AY t 0 L) (AB L) (AY f 0 L) 0) ?_ _ _ _ ⟨0,0,rfl, ?_⟩
 .rintro n e h ⟨i,w,rfl,hl,e31,e32,e33,e8,e9,e10,hi,hz⟩ ih;rw [Ao lQ.eq_1];simp (disch:=omega)only[go_sem, *];refine Ad (λhc=>?_) (λhc=>?_)
  .have hm:=hss.mem (Az (L:=AY f 0 L) (j:=i) om);rw [AN om,FU] at hz;simp (disch:=omega)only[go_sem, *];refine BO ?_;rw [Ao lP.eq_1];simp (disch:=omega)only[go_sem, *]
   try (refine Ad (λhc9=>?_) (λhc9=>absurd hc9 (by decide));simp (disch:=omega)only[go_sem, *])
   refine Pf.go (UW hst (Int.le_refl 0) hf.2 om hst0) (by simp only [go_sem]) λ_=>?_;simp (disch:=omega)only[go_sem, *];have hnx:=JJ hf.1 (t:=(nth (AY f 0 L) i).s) om om hst0;have hnx1:=hnx.1;have hnx2:=S0 (t:=(nth (AY f 0 L) i).s) hst om hst0
   try simp (disch:=omega)only[go_sem, *]
   refine BO ?_;rw [Ao lP.eq_1];simp (disch:=omega)only[go_sem, *]
   try (refine Ad (λhc9=>?_) (λhc9=>absurd hc9 (by decide));simp (disch:=omega)only[go_sem, *])
   refine Pf.go (UW hst (Int.le_refl 0) hf.2 om hst0) (by simp only [go_sem]) λ_=>?_;simp (disch:=omega)only[go_sem, *];have hnx:=JJ hf.1 (t:=(nth (AY f 0 L) i).e - 1) om om hst0;have hnx1:=hnx.1;have hnx2:=S0 (t:=(nth (AY f 0 L) i).e - 1) hst om hst0
   try simp (disch:=omega)only[go_sem, *]
   refine BO ?_;rw [Ao lP.eq_1];simp (disch:=omega)only[go_sem, *]
   try (refine Ad (λhc9=>absurd hc9 (by decide)) (λhc9=>?_);simp (disch:=omega)only[go_sem, *])
   refine ih _ _ _ ?_ ⟨i+1,(max (max w (JA (AY t 0 L) (nth (AY f 0 L) i).s (AB L) - (nth (AY f 0 L) i).s)) (JA (AY t 0 L) ((nth (AY f 0 L) i).e - 1) (AB L) - ((nth (AY f 0 L) i).e - 1))),rfl, ?_⟩
   .omega
   .simp (disch:=omega)only[go_sem, *]
    ((repeat' refine And.intro ?_ ?_)<;>first | omega | assumption)
  .rw [List.drop_eq_nil_of_le om,FU] at hz;simp (disch:=omega)only[go_sem, *]
 .simp (disch:=omega)only[go_sem, *]
end Go.Ab.T
namespace Go.Ab.T
open Go Go.Ab
set_option maxHeartbeats 1000000
@[go_sem] def Ek (x:Int):List V:=[.i .i64 x]
@[go_sem] def CJ (z:Int):List V:=[.i .u8 z]
@[go_sem] def CL (n:Int):List V:=[.i .u32 n]
set_option maxRecDepth 4000 in
theorem Rd {L:List AQ} (hf:Iq L):Pf tp aF [.fl 2 (L.map AQ.enc)] (.fl 1 ((B0 L).map Ek)):=by
 refine AL aNa (by simp [QV]) λrp=>?_;unfold QV;simp (disch:=omega)only[go_sem, *];have hL:=rp.head.len;have hwl:=E5 hf.1;have hs4:=hf.2;refine Ai (λn e h=>∃ (i:Nat) (o:V) (A:List Int),n=L.length - i/\h.lim=0/\e 7=.fl 2 (L.map AQ.enc)/\e 8=.i .i64 L.length/\e 9=.i .i64 i/\e 3=o/\i<=L.length/\Sl 0 h 1 o (A.map Ek)/\A++B0 (L.drop i)=B0 L) ?_ _ _ _ ⟨0,.ns,[],rfl, ?_⟩
 .rintro n e h ⟨i,o,A,rfl,hl,e7,e8,e9,e3,hi,so,hz⟩ ih;rw [Ao aKc.eq_1];simp (disch:=omega)only[go_sem, *];refine Ad (λhc=>?_) (λhc=>?_)
  .have hn:=hf.1.nth (i:=i) om;rw [AN om,B0] at hz;have hzl:=congrArg List.length hz;simp only [List.length_append,List.length_replicate] at hzl;simp (disch:=omega)only[go_sem, *];have x1:∀ k,Ak h ((h.alloc ⟨2,[[.i .i64 0,.i .i64 0]]⟩).put h.next k):=λk=>by (repeat (first | exact Ak.refl _ | refine Ak.alloc ?_ _ | (refine Ak.put ?_ _ _ ?_;rotate_left;(first | omega | (simp only [Ac,Ah];omega)))))
   have bx:((h.alloc ⟨2,[[.i .i64 0,.i .i64 0]]⟩).put h.next ⟨2,[[.i .i64 (nth L i).part,.i .i64 (nth L i).n]]⟩).get h.next=some ⟨2,[[.i .i64 (nth L i).part,.i .i64 (nth L i).n]]⟩:=by simp (disch:=omega)only[go_sem, *]
   have so1:=so.ext (x1 ⟨2,[[.i .i64 (nth L i).part,.i .i64 (nth L i).n]]⟩);have hl1:((h.alloc ⟨2,[[.i .i64 0,.i .i64 0]]⟩).put h.next ⟨2,[[.i .i64 (nth L i).part,.i .i64 (nth L i).n]]⟩).lim=0:=by simp (disch:=omega)only[go_sem, *]
   have hid:AA o=true\/Ap o≠h.next:=(Dw so).imp (λx=>x) (λx=>by omega);have hlt:h.next<((h.alloc ⟨2,[[.i .i64 0,.i .i64 0]]⟩).put h.next ⟨2,[[.i .i64 (nth L i).part,.i .i64 (nth L i).n]]⟩).next:=by simp (disch:=omega)only[go_sem, *];omega
   generalize ((h.alloc ⟨2,[[.i .i64 0,.i .i64 0]]⟩).put h.next ⟨2,[[.i .i64 (nth L i).part,.i .i64 (nth L i).n]]⟩)=hh at bx so1 hl1 hlt ⊢;generalize h.next=b at bx hid hlt ⊢;refine Ai (λn e h=>∃ (j:Nat) (o:V) (B:List Int),n=(nth L i).n.toNat - j/\h.lim=0/\e 7=.fl 2 (L.map AQ.enc)/\e 8=.i .i64 L.length/\e 9=.i .i64 i/\e 3=o/\e 5=.p b 0 0/\e 6=.i .i64 j/\h.get b=some ⟨2,[[.i .i64 (nth L i).part,.i .i64 (nth L i).n]]⟩/\(AA o=true\/Ap o≠b)/\b<h.next/\Sl 0 h 1 o (B.map Ek)/\j<=(nth L i).n.toNat/\A++List.replicate j (nth L i).part=B) ?_ _ _ _ ⟨0,o,A,rfl, ?_⟩
   .rintro n e h ⟨j,o,B,rfl,hl,e7,e8,e9,e3,e5,e6,bx,hid,hlt,so,hj,hB⟩ ih2;obtain ⟨olen,obig,olt,olo,oget,oat,orow,ocell,ocells⟩:=so.facts;have hBl:=congrArg List.length hB;simp only [List.length_append,List.length_replicate] at hBl;rw [Ao aWz.eq_1];simp (disch:=omega)only[go_sem, *];refine Ax (λhc2=>?_) (λhc2=>?_)
    .have hB8:((B.length:Int)<8192):=by omega
     simp (disch:=omega)only[go_sem, *];refine Av (so.alloc _) (by simp only [go_sem, *]) (Nat.zero_le _) (by simp;omega) ?_;intro w h4 s4 g4;have g5:=NB g4 ((Ak.refl _).alloc _) (Nat.zero_le _);have hl4:=g5.lim;have hn4:=g5.next;have hb4:=g5.get b hlt (hid.imp (λx=>x) (λx=>x.symm));have hid4:AA w=true\/Ap w≠b:=by
      rcases g5.own with h1 | ⟨h1,h2⟩ | h1
      .exact .inl h1
      .rcases hid with h3 | h3
       .rw [h3] at h1;cases h1
       .exact .inr om
      .exact .inr om
     simp (disch:=omega)only[go_sem, *];refine ih2 _ _ _ ?_ ⟨j+1,w,B++[(nth L i).part],rfl, ?_⟩
     .omega
     .simp (disch:=omega)only[go_sem, *]
      ((repeat' refine And.intro ?_ ?_)<;>first | omega | assumption | (simpa [Ek] using s4) | ((rw [<- hB,List.replicate_succ',List.append_assoc])))
    .simp (disch:=omega)only[go_sem, *];have hj2:j=(nth L i).n.toNat:=by omega
     refine ih _ _ _ ?_ ⟨i+1,o,B,rfl, ?_⟩
     .omega
     .simp (disch:=omega)only[go_sem, *]
      ((repeat' refine And.intro ?_ ?_)<;>first | omega | assumption | ((rw [<- hB,hj2,List.append_assoc];exact hz)))
   .simp (disch:=omega)only[go_sem, *]
  .rw [List.drop_eq_nil_of_le om,B0,List.append_nil] at hz;simp (disch:=omega)only[go_sem, *];subst hz;exact so.froze (λ_=>rfl) trivial om
 .simp (disch:=omega)only[go_sem, *];exact Sl.nil _ _ _
def Pk (p:Int):List Int->Bool->Bool
 | [],b=>b
 | x::l,b=>Pk p l (b||decide (x=p))
theorem KH (p:Int):∀ (l:List Int) (b:Bool),Pk p l b=(b||decide (p∈l))
 | [],b=>by simp [Pk]
 | x::l,b=>by
  rw [Pk,KH p l]
  by_cases h:x=p
  .subst h;simp
  .have h2:¬ p=x:=λq=>h q.symm;simp [h,h2]
end Go.Ab.T
namespace Go.Ab.T
open Go Go.Ab
set_option maxHeartbeats 1000000
theorem KM {L:List AQ} {f t:Int} (hf:Iq L):Pf tp ZV [.fl 2 (L.map AQ.enc),.i .i64 f,.i .i64 t] (.i .i64 (DB L f t)):=by
 refine AL aMJ (by simp [Qu]) λrp=>?_;unfold Qu;simp (disch:=omega)only[go_sem, *];have hL:=rp.head.len;have hwl:=E5 hf.1;have hs4:=hf.2;have hs0:=B7 hf.1;refine Pf.go (Rd hf) (by simp only [go_sem]) λ_=>?_;simp (disch:=omega)only[go_sem, *];have r0:(if f∈B0 L then if t∈B0 L then FJ (B0 L) f (λx=>JA (AY t 0 L) x (AB L) - x) (B0 L) 0 0 else -1 else 0)=DB L f t:=by
  unfold DB;have m1:=JI (p:=f) (a:=0) hf.1;have m2:=JI (p:=t) (a:=0) hf.1
  by_cases h1:AY f 0 L=[]
  .rw [if_pos h1,if_neg (by rw [m1];exact λh=>h h1)]
  .rw [if_neg h1,if_pos (m1.2 h1)]
   by_cases h2:AY t 0 L=[]
   .rw [if_pos h2,if_neg (by rw [m2];exact λh=>h h2)]
   .rw [if_neg h2,if_pos (m2.2 h2)];exact O7 hf.1 h2 L 0 0 [] hf.1 rfl rfl
 rw [<- r0];clear r0;refine Ai (λn e h=>∃ (i:Nat) (s:Bool) (y:Bool),n=(B0 L).length - i/\h.lim=0/\e 18=.fl 1 ((B0 L).map Ek)/\e 19=.i .i64 (B0 L).length/\e 20=.i .i64 i/\e 1=.i .i64 f/\e 2=.i .i64 t/\e 7=.fl 1 ((B0 L).map Ek)/\e 8=.i .i64 0/\e 9=.b s/\e 10=.b y/\i<=(B0 L).length/\Pk t ((B0 L).drop i) s=decide (t∈B0 L)/\Pk f ((B0 L).drop i) y=decide (f∈B0 L)) ?_ _ _ _ ⟨0,false,false,rfl, ?_⟩
 .rintro n e h ⟨i,s,y,rfl,hl,e18,e19,e20,e1,e2,e7,e8,e9,e10,hi,hs,hy⟩ ih;rw [Ao aST.eq_1];simp (disch:=omega)only[go_sem, *];refine Ad (λhc=>?_) (λhc=>?_)
  .rw [AN om,Pk] at hs hy;simp (disch:=omega)only[go_sem, *];cases s<;>cases y
   .skip
    simp (disch:=omega)only[go_sem, *];refine ih _ _ _ ?_ ⟨i+1,(false||decide (nth (B0 L) i=t)),(false||decide (nth (B0 L) i=f)),rfl, ?_⟩
    .omega
    .simp only [Bool.false_or,Bool.true_or] at hs hy ⊢;simp (disch:=omega)only[go_sem, *];omega
   .skip
    simp (disch:=omega)only[go_sem, *];refine ih _ _ _ ?_ ⟨i+1,(false||decide (nth (B0 L) i=t)),(true||decide (nth (B0 L) i=f)),rfl, ?_⟩
    .omega
    .simp only [Bool.false_or,Bool.true_or] at hs hy ⊢;simp (disch:=omega)only[go_sem, *];omega
   .skip
    simp (disch:=omega)only[go_sem, *];refine ih _ _ _ ?_ ⟨i+1,(true||decide (nth (B0 L) i=t)),(false||decide (nth (B0 L) i=f)),rfl, ?_⟩
    .omega
    .simp only [Bool.false_or,Bool.true_or] at hs hy ⊢;simp (disch:=omega)only[go_sem, *];omega
   .skip
    simp (disch:=omega)only[go_sem, *];refine ih _ _ _ ?_ ⟨i+1,(true||decide (nth (B0 L) i=t)),(true||decide (nth (B0 L) i=f)),rfl, ?_⟩
    .omega
    .simp only [Bool.false_or,Bool.true_or] at hs hy ⊢;simp (disch:=omega)only[go_sem, *];omega
  .rw [List.drop_eq_nil_of_le om,Pk] at hs hy;subst hs hy;simp (disch:=omega)only[go_sem, *];refine Ad (λhm=>?_) (λhm=>?_)
   .simp (disch:=omega)only[go_sem, *]
   have hm:f∈B0 L:=by simpa using hm
   simp (disch:=omega)only[go_sem, *];refine Ad (λhn=>?_) (λhn=>?_)
   .simp (disch:=omega)only[go_sem, *]
   have hn:t∈B0 L:=by simpa using hn
   have hne:=(JI (p:=t) (a:=0) hf.1).1 hn;simp (disch:=omega)only[go_sem, *];refine Ai (λn e h=>∃ (i:Nat) (w:Int),n=(B0 L).length - i/\h.lim=0/\e 41=.fl 1 ((B0 L).map Ek)/\e 42=.i .i64 (B0 L).length/\e 43=.i .i64 i/\e 1=.i .i64 f/\e 2=.i .i64 t/\e 7=.fl 1 ((B0 L).map Ek)/\e 8=.i .i64 w/\i<=(B0 L).length/\FJ (B0 L) f (λx=>JA (AY t 0 L) x (AB L) - x) ((B0 L).drop i) i w=FJ (B0 L) f (λx=>JA (AY t 0 L) x (AB L) - x) (B0 L) 0 0) ?_ _ _ _ ⟨0,0,rfl, ?_⟩
   .rintro n e h ⟨i,w,rfl,hl,e41,e42,e43,e1,e2,e7,e8,hi,hz⟩ ih;rw [Ao bBo.eq_1];simp (disch:=omega)only[go_sem, *];refine Ad (λhc=>?_) (λhc=>?_)
    .have hd:=JJ hf.1 (t:=(i:Int)) (p:=t) om om hne;have hb:=S0 (t:=(i:Int)) (by have:=BS (p:=t) (a:=0) hf.1;rwa [Int.zero_add] at this) om hne;rw [AN om,FJ] at hz;simp (disch:=omega)only[go_sem, *];refine Ad (λhc2=>?_) (λhc2=>?_)
     .rw [if_neg hc2] at hz;simp (disch:=omega)only[go_sem, *];refine ih _ _ _ ?_ ⟨i+1,w,rfl, ?_⟩
      .omega
      .simp (disch:=omega)only[go_sem, *]
       ((repeat' refine And.intro ?_ ?_)<;>first | omega | assumption)
     .have hc3:nth (B0 L) i=f:=by simpa using hc2
      rw [if_pos hc3] at hz;have hwn:0<AB L:=by omega
      generalize hD:JA (AY t 0 L) i (AB L) - i=D at hz hd;have hD4:D<=8192:=by omega
      clear hc2;simp (disch:=omega)only[go_sem, *];refine Ai (λn e h=>∃ (d:Nat),n=D.toNat - d/\h.lim=0/\e 41=.fl 1 ((B0 L).map Ek)/\e 42=.i .i64 (AB L)/\e 43=.i .i64 i/\e 1=.i .i64 f/\e 2=.i .i64 t/\e 7=.fl 1 ((B0 L).map Ek)/\e 8=.i .i64 w/\e 13=.i .i64 i/\e 15=.i .i64 d/\1<=d/\(d:Int)<=D) ?_ _ _ _ ⟨1,rfl, ?_⟩
      .rintro n e h ⟨d,rfl,hl,e41,e42,e43,e1,e2,e7,e8,e13,e15,h1d,hdD⟩ ih2;have hmod:(((i:Int)+d).tmod (AB L))=((i:Int)+d) % AB L:=Int.tmod_eq_emod_of_nonneg om;have hm0:0<=((i:Int)+d) % AB L:=Int.emod_nonneg _ om;have hm1:((i:Int)+d) % AB L<AB L:=Int.emod_lt_of_pos _ hwn;have hfar:(d:Int)<D->JC (B0 L) (((i:Int)+d) % AB L)≠t:=λh=>by rw [<- hwl];exact hd.2.2 d om h
       have hnear:(d:Int)=D->JC (B0 L) (((i:Int)+d) % AB L)=t:=λh=>by rw [h,<-hwl];exact hd.2.1
       unfold JC at hfar hnear;generalize ((i:Int)+d) % AB L=m at hmod hm0 hm1 hfar hnear;rw [Ao bBn.eq_1];simp (disch:=omega)only[go_sem, *];refine Ad (λhc4=>?_) (λhc4=>?_)
       .have:(d:Int)≠D:=λh=>hc4 (hnear h);simp (disch:=omega)only[go_sem, *];refine ih2 _ _ _ ?_ ⟨d+1,rfl, ?_⟩
        .omega
        .simp (disch:=omega)only[go_sem, *];omega
       .have hdd:(d:Int)=D:=by
         rcases Int.lt_or_eq_of_le hdD with h | h
         .exact absurd (by simpa using hc4) (hfar h)
         .exact h
        simp (disch:=omega)only[go_sem, *];refine ih _ _ _ ?_ ⟨i+1,max w D,rfl, ?_⟩
        .omega
        .simp (disch:=omega)only[go_sem, *]
         ((repeat' refine And.intro ?_ ?_)<;>first | omega | assumption | ((rw [hD];assumption)))
      .simp (disch:=omega)only[go_sem, *];have:=hd.1
       ((repeat' refine And.intro ?_ ?_)<;>first | omega | assumption)
    .rw [List.drop_eq_nil_of_le om,FJ] at hz;simp (disch:=omega)only[go_sem, *]
   .simp (disch:=omega)only[go_sem, *]
 .simp (disch:=omega)only[go_sem, *];exact ⟨by rw [KH];rfl,by rw [KH];rfl⟩
end Go.Ab.T
namespace Go.Ab.T
open Go Go.Ab
set_option maxHeartbeats 1000000
theorem Gt {L:List AQ} {p P:Int} (h:P<1\/AB L=0\/AB L % P≠0):HD L p P = -1:=if_pos h
theorem YE {L:List AQ} {p P:Int} (h1:¬ P<1) (h2:¬ AB L=0) (h3:¬ AB L % P≠0):HD L p P=IL (λt=>Hg t (t+P) (AY p 0 L) 0) P (AB L / P).toNat 0 P:=if_neg (by simp only [not_or];exact ⟨h1,h2,h3⟩)
theorem Vt {L:List AQ} {p P:Int} (hf:Iq L):Pf tp Ss [.fl 2 (L.map AQ.enc),.i .i64 p,.i .i64 P] (.i .i64 (HD L p P)):=by
 refine AL rG (by simp [Lk]) λrp=>?_;unfold Lk;simp (disch:=omega)only[go_sem, *];have hL:=rp.head.len;have hss:=BS (p:=p) (a:=0) hf.1;rw [Int.zero_add] at hss;have hlen:=hf.length;have hs0:=B7 hf.1;have hs4:=hf.2;refine Pf.go (MD hf.ok) (by simp only [go_sem]) λ_=>?_;simp (disch:=omega)only[go_sem, *];refine Ax (λh1=>?_) (λh1=>?_)
 .have e:=Gt (L:=L) (p:=p) (P:=P) (.inl h1);simp (disch:=omega)only[go_sem, *]
 simp (disch:=omega)only[go_sem, *];refine Ax (λh2=>?_) (λh2=>?_)
 .have e:=Gt (L:=L) (p:=p) (P:=P) (.inr (.inl h2));simp (disch:=omega)only[go_sem, *]
 have hmod:(AB L).tmod P=AB L % P:=Int.tmod_eq_emod_of_nonneg hs0;have hP0:¬ P=0:=by omega
 simp (disch:=omega)only[go_sem, *];refine Ad (λh3=>?_) (λh3=>?_)
 .have e:=Gt (L:=L) (p:=p) (P:=P) (.inr (.inr h3));simp (disch:=omega)only[go_sem, *]
 have e0:=YE (p:=p) h1 h2 h3;have hdiv:((AB L / P).toNat:Int)*P=AB L:=by
  rw [Int.toNat_of_nonneg (Int.ediv_nonneg hs0 om)];have:=Int.emod_add_mul_ediv (AB L) P;have h4:AB L % P=0:=by omega
  rw [Int.mul_comm];omega
 have h3':AB L % P=0:=by omega
 have hP:P<=4096:=by
  by_cases hlt:AB L<P
  .rw [Int.emod_eq_of_lt hs0 hlt] at h3';omega
  .omega
 clear h3;simp (disch:=omega)only[go_sem, *];refine Pf.go (KU (p:=p) hf) (by simp only [go_sem]) λq1=>?_;have hq1:=q1.len;simp (disch:=omega)only[go_sem, *];generalize hm:(AB L / P).toNat=m at hdiv e0;clear hmod h3' hm;refine Ai (λn e h=>∃ (k:Nat) (t:Int) (w:Int),n=2*k/\h.lim=0/\e 1=.i .i64 p/\e 2=.i .i64 P/\e 7=.i .i64 (AB L)/\e 8=.fl 2 ((AY p 0 L).map Ct.enc)/\e 9=.i .i64 w/\e 10=.i .i64 t/\0<=t/\t+(k:Int)*P=AB L/\IL (λt=>Hg t (t+P) (AY p 0 L) 0) P k t w=HD L p P) ?_ _ _ _ ⟨m,0,P,rfl, ?_⟩
 .rintro n e h ⟨k,t,w,rfl,hl,e1,e2,e7,e8,e9,e10,ht,hk,hz⟩ ih;rw [Ao aZg.eq_1];simp (disch:=omega)only[go_sem, *];refine Ad (λhc=>?_) (λhc=>?_)
  .obtain ⟨j,rfl⟩:∃ j,k=j+1:=by
    cases k with
    | zero=>simp at hk;omega
    | succ j=>exact ⟨j,rfl⟩
   have hj0:0<=(j:Int)*P:=Int.mul_nonneg om om;rw [Int.natCast_add,Int.natCast_one,Int.add_mul,Int.one_mul] at hk;rw [IL] at hz;generalize hjP:(j:Int)*P=jP at hk hj0;clear e0;simp (disch:=omega)only[go_sem, *];have ih0:=ih;clear ih;refine Ai (λn e h=>∃ (i:Nat) (c:Int),n=(AY p 0 L).length - i/\h.lim=0/\e 38=.fl 2 ((AY p 0 L).map Ct.enc)/\e 39=.i .i64 (AY p 0 L).length/\e 40=.i .i64 i/\e 1=.i .i64 p/\e 2=.i .i64 P/\e 7=.i .i64 (AB L)/\e 8=.fl 2 ((AY p 0 L).map Ct.enc)/\e 9=.i .i64 w/\e 10=.i .i64 t/\e 11=.i .i64 c/\i<=(AY p 0 L).length/\0<=c/\c<=4096*i/\Hg t (t+P) ((AY p 0 L).drop i) c=Hg t (t+P) (AY p 0 L) 0) ?_ _ _ _ ⟨0,0,rfl, ?_⟩
   .rintro n e h ⟨i,c,rfl,hl,e38,e39,e40,e1,e2,e7,e8,e9,e10,e11,hi,hc0,hc1,hw⟩ ih;rw [Ao aY3.eq_1];simp (disch:=omega)only[go_sem, *];refine Ad (λhc=>?_) (λhc=>?_)
    .have hm:=hss.mem (Az (L:=AY p 0 L) (j:=i) om);rw [AN om,Hg] at hw;simp (disch:=omega)only[go_sem, *];refine ih _ _ _ ?_ ⟨i+1,c+max 0 (min (nth (AY p 0 L) i).e (t+P) - max (nth (AY p 0 L) i).s t),rfl, ?_⟩
     .omega
     .simp (disch:=omega)only[go_sem, *]
      ((repeat' refine And.intro ?_ ?_)<;>first | omega | assumption)
    .rw [List.drop_eq_nil_of_le om,Hg] at hw;simp (disch:=omega)only[go_sem, *];refine ih0 _ _ _ ?_ ⟨j,t+P,min w c,rfl, ?_⟩
     .omega
     .simp (disch:=omega)only[go_sem, *];exact ⟨om,om⟩
   .simp (disch:=omega)only[go_sem, *];simp
  .have hk0:k=0:=by
    cases k with
    | zero=>rfl
    | succ j=>
     have hj0:0<=(j:Int)*P:=Int.mul_nonneg om om;rw [Int.natCast_add,Int.natCast_one,Int.add_mul,Int.one_mul] at hk;omega
   subst hk0;rw [IL] at hz;clear e0;simp (disch:=omega)only[go_sem, *]
 .simp (disch:=omega)only[go_sem, *];omega
theorem H1 {L:List AQ} {p P:Int} (hf:Iq L):Pf tp ZW [.fl 2 (L.map AQ.enc),.i .i64 p,.i .i64 P] (.i .i64 (HD L p P)):=by
 refine AL aMK (by simp [Qv]) λrp=>?_;unfold Qv;simp (disch:=omega)only[go_sem, *];have hL:=rp.head.len;have hwl:=E5 hf.1;have hs0:=B7 hf.1;have hs4:=hf.2;refine Pf.go (Rd hf) (by simp only [go_sem]) λ_=>?_;simp (disch:=omega)only[go_sem, *];refine Ax (λh1=>?_) (λh1=>?_)
 .have e:=Gt (L:=L) (p:=p) (P:=P) (.inl h1);simp (disch:=omega)only[go_sem, *]
 simp (disch:=omega)only[go_sem, *];refine Ax (λh2=>?_) (λh2=>?_)
 .have e:=Gt (L:=L) (p:=p) (P:=P) (.inr (.inl h2));simp (disch:=omega)only[go_sem, *]
 have hmod:(AB L).tmod P=AB L % P:=Int.tmod_eq_emod_of_nonneg hs0;have hP0:¬ P=0:=by omega
 simp (disch:=omega)only[go_sem, *];refine Ad (λh3=>?_) (λh3=>?_)
 .have e:=Gt (L:=L) (p:=p) (P:=P) (.inr (.inr h3));simp (disch:=omega)only[go_sem, *]
 have e0:=YE (p:=p) h1 h2 h3;have hdiv:((AB L / P).toNat:Int)*P=AB L:=by
  rw [Int.toNat_of_nonneg (Int.ediv_nonneg hs0 om)];have:=Int.emod_add_mul_ediv (AB L) P;have h4:AB L % P=0:=by omega
  rw [Int.mul_comm];omega
 have h3':AB L % P=0:=by omega
 have hP:P<=4096:=by
  by_cases hlt:AB L<P
  .rw [Int.emod_eq_of_lt hs0 hlt] at h3';omega
  .omega
 clear h3;simp (disch:=omega)only[go_sem, *];generalize hm:(AB L / P).toNat=m at hdiv e0;clear hmod h3' hm;have hF:∀ i:Nat,i<m->Hg ((0:Int)+i*P) ((0:Int)+i*P+P) (AY p 0 L) 0<=P:=by
  intro i hi;have h0:0<=(i:Int)*P:=Int.mul_nonneg om om;have h1':((i:Int)+1)*P<=(m:Int)*P:=Int.mul_le_mul_of_nonneg_right om om;rw [Int.add_mul,Int.one_mul] at h1';rw [Mr hf.1 om om om];have:=OL p (((B0 L).drop ((0:Int)+i*P).toNat).take P.toNat) 0;simp only [List.length_take] at this;omega
 have hm1:1<=m:=by
  cases m with
  | zero=>simp at hdiv;omega
  | succ m=>omega
 rw [<- tU (F:=λt=>Hg t (t+P) (AY p 0 L) 0) m 0 (P+1) P hF om hm1] at e0;clear hF hm1;refine Ai (λn e h=>∃ (k:Nat) (t:Int) (w:Int),n=2*k/\h.lim=0/\e 1=.i .i64 p/\e 2=.i .i64 P/\e 7=.fl 1 ((B0 L).map Ek)/\e 8=.i .i64 w/\e 9=.i .i64 t/\0<=t/\t+(k:Int)*P=AB L/\IL (λt=>Hg t (t+P) (AY p 0 L) 0) P k t w=HD L p P) ?_ _ _ _ ⟨m,0,P+1,rfl, ?_⟩
 .rintro n e h ⟨k,t,w,rfl,hl,e1,e2,e7,e8,e9,ht,hk,hz⟩ ih;rw [Ao bBq.eq_1];simp (disch:=omega)only[go_sem, *];refine Ad (λhc=>?_) (λhc=>?_)
  .obtain ⟨j,rfl⟩:∃ j,k=j+1:=by
    cases k with
    | zero=>simp at hk;omega
    | succ j=>exact ⟨j,rfl⟩
   have hj0:0<=(j:Int)*P:=Int.mul_nonneg om om;rw [Int.natCast_add,Int.natCast_one,Int.add_mul,Int.one_mul] at hk;rw [IL] at hz;generalize hjP:(j:Int)*P=jP at hk hj0;clear e0;have hbc:=Mr (p:=p) (t:=t) (P:=P) hf.1 om om om;have eX:(List.take ((t+P).toNat - t.toNat) (List.drop t.toNat ((B0 L).map Ek)))=(((B0 L).drop t.toNat).take P.toNat).map Ek:=by rw [<- List.map_drop,<-List.map_take];congr 2;omega
   have hXl:(((B0 L).drop t.toNat).take P.toNat).length<=4096:=by simp only [List.length_take,List.length_drop];omega
   simp (disch:=omega)only[go_sem, *];clear eX;generalize ((B0 L).drop t.toNat).take P.toNat=X at hbc hXl ⊢;have ih0:=ih;clear ih;refine Ai (λn e h=>∃ (i:Nat) (c:Int),n=X.length - i/\h.lim=0/\e 43=.fl 1 (X.map Ek)/\e 44=.i .i64 X.length/\e 45=.i .i64 i/\e 1=.i .i64 p/\e 2=.i .i64 P/\e 7=.fl 1 ((B0 L).map Ek)/\e 8=.i .i64 w/\e 9=.i .i64 t/\e 10=.i .i64 c/\i<=X.length/\0<=c/\c<=i/\Ei p (X.drop i) c=Ei p X 0) ?_ _ _ _ ⟨0,0,rfl, ?_⟩
   .rintro n e h ⟨i,c,rfl,hl,e43,e44,e45,e1,e2,e7,e8,e9,e10,hi,hc0,hc1,hw⟩ ih;rw [Ao bBp.eq_1];simp (disch:=omega)only[go_sem, *];refine Ad (λhc=>?_) (λhc=>?_)
    .rw [AN om,Ei] at hw;simp (disch:=omega)only[go_sem, *];refine Ad (λhc2=>?_) (λhc2=>?_)
     .rw [if_pos hc2] at hw;simp (disch:=omega)only[go_sem, *];refine ih _ _ _ ?_ ⟨i+1,c+1,rfl, ?_⟩
      .omega
      .simp (disch:=omega)only[go_sem, *]
       ((repeat' refine And.intro ?_ ?_)<;>first | omega | assumption)
     .rw [if_neg hc2] at hw;simp (disch:=omega)only[go_sem, *];refine ih _ _ _ ?_ ⟨i+1,c,rfl, ?_⟩
      .omega
      .simp (disch:=omega)only[go_sem, *]
       ((repeat' refine And.intro ?_ ?_)<;>first | omega | assumption)
    .rw [List.drop_eq_nil_of_le om,Ei] at hw;rw [hbc] at hz;simp (disch:=omega)only[go_sem, *];refine ih0 _ _ _ ?_ ⟨j,t+P,min w c,rfl, ?_⟩
     .omega
     .simp (disch:=omega)only[go_sem, *]
      ((repeat' refine And.intro ?_ ?_)<;>first | omega | assumption)
   .simp (disch:=omega)only[go_sem, *]
  .have hk0:k=0:=by
    cases k with
    | zero=>rfl
    | succ j=>
     have hj0:0<=(j:Int)*P:=Int.mul_nonneg om om;rw [Int.natCast_add,Int.natCast_one,Int.add_mul,Int.one_mul] at hk;omega
   subst hk0;rw [IL] at hz;clear e0;simp (disch:=omega)only[go_sem, *]
 .simp (disch:=omega)only[go_sem, *];omega
end Go.Ab.T
namespace Go.Ab.T
open Go Go.Ab
set_option maxHeartbeats 1000000
theorem HP {tt:List Ct} {n:Int}:∀ (l:List Ct) (w:Int),0<=w->0<=FU tt n l w
 | [],w,h=>h
 | s::l,w,h=>by rw [FU];exact HP l _ om
theorem F7 (L:List AQ) (f t:Int):DB L f t = -1\/0<=DB L f t:=by
 unfold DB;split
 .simp
 .split
  .exact .inl rfl
  .exact .inr (HP _ _ om)
@[irreducible] def Cl (L:List AQ) (x:AU):Bool:=decide (0<x.late/\(x.late<DB L x.src x.dst\/DB L x.src x.dst = -1))
def Cd (L:List AQ):Nat->List Part->Bool
 | _,[]=>false
 | i,p::l=>decide (0<p.budget/\HD L i p.period<p.budget)||Cd L (i+1) l
def Dn (C:Am) (L:List AQ):Int:=if C.chans.any (Cl L)=true then 19 else if Cd L 0 C.parts=true then 20 else 0
theorem Ng {α:Type} [Inhabited α] {L:List α} {P:α->Bool} {i:Nat} (hi:i<L.length) (h:P (nth L i)=true):L.any P=true:=List.any_eq_true.2 ⟨_,Az hi,h⟩
theorem JZ {α:Type} [Inhabited α] {L:List α} {P:α->Bool} {i:Nat} (hi:i<L.length) (h:P (nth L i)=false):(L.drop i).any P=(L.drop (i+1)).any P:=by
 rw [AN hi,List.any_cons,h,Bool.false_or]
theorem Zu {C:Am} {L:List AQ} (hf:Iq L):Pf tp NC [.agg C.enc,.fl 2 (L.map AQ.enc)] (.i .i64 (Dn C L)):=by
 refine AL Ns (by simp [FQ]) λrp=>?_;unfold FQ;simp (disch:=omega)only[go_sem, *];have hcl:=GU.len (rp.head.agg (.fl 6 (C.chans.map AU.enc)) (by simp [Am.enc]));have hpl:=GU.len (rp.head.agg (.fl 11 (C.parts.map Part.enc)) (by simp [Am.enc]));refine Ai (λn e h=>∃ (i:Nat),n=C.chans.length - i/\h.lim=0/\e 11=.fl 6 (C.chans.map AU.enc)/\e 12=.i .i64 C.chans.length/\e 13=.i .i64 i/\e 1=.fl 2 (L.map AQ.enc)/\e 2=.p 0 0 0/\i<=C.chans.length/\h.get 0=some ⟨3,[C.enc]⟩/\1<=h.next/\C.chans.any (Cl L)=(C.chans.drop i).any (Cl L)) ?_ _ _ _ ⟨0,rfl, ?_⟩
 .rintro n e h ⟨i,rfl,hl,e11,e12,e13,e1,e2,hi,hg,hn,hz⟩ ih;rw [Ao bBh.eq_1];simp (disch:=omega)only[go_sem, *];refine Ad (λhc=>?_) (λhc=>?_)
  .have hlc:=F7 L (nth C.chans i).src (nth C.chans i).dst;simp (disch:=omega)only[go_sem, *];refine Pf.go (tH hf) (by simp only [go_sem]) λ_=>?_;simp (disch:=omega)only[go_sem, *]
   repeat' (first | (refine Ax (λhc=>?_) (λhc=>?_)<;>simp (disch:=omega)only[go_sem, *]) | (refine Ad (λhc=>?_) (λhc=>?_)<;>simp (disch:=omega)only[go_sem, *]) | (refine CQ (λhc=>?_) (λhc=>?_)<;>simp (disch:=omega)only[go_sem, *]) | (refine Bv (λhc=>?_) (λhc=>?_)<;>simp (disch:=omega)only[go_sem, *]))
   all_goals
    try
     have hn:Cl L (nth C.chans i)=true:=by (unfold Cl;grind)
     have:=Ng om hn;have e:Dn C L=19:=if_pos this;exact e.symm
   all_goals
    have hp:Cl L (nth C.chans i)=false:=by (unfold Cl;grind)
    refine ih _ _ _ ?_ ⟨i+1,rfl, ?_⟩
    .omega
    .simp (disch:=omega)only[go_sem, *]
     ((repeat' refine And.intro ?_ ?_)<;>first | omega | assumption | (exact JZ om hp))
  .rw [List.drop_eq_nil_of_le om,List.any_nil] at hz;have e:Dn C L=if Cd L 0 C.parts=true then 20 else 0:=by unfold Dn;rw [hz];rfl
   rw [e];clear e hz;simp only [Am.enc] at hg;simp (disch:=omega)only[go_sem, *];refine Ai (λn e h=>∃ (i:Nat),n=C.parts.length - i/\h.lim=0/\e 38=.fl 11 (C.parts.map Part.enc)/\e 39=.i .i64 C.parts.length/\e 40=.i .i64 i/\e 1=.fl 2 (L.map AQ.enc)/\i<=C.parts.length/\Cd L 0 C.parts=Cd L i (C.parts.drop i)) ?_ _ _ _ ⟨0,rfl, ?_⟩
   .rintro n e h ⟨i,rfl,hl,e38,e39,e40,e1,hi,hz⟩ ih;rw [Ao aYn.eq_1];simp (disch:=omega)only[go_sem, *];refine Ad (λhc=>?_) (λhc=>?_)
    .rw [AN om,Cd] at hz;simp (disch:=omega)only[go_sem, *];refine Ax (λhc2=>?_) (λhc2=>?_)
     .simp (disch:=omega)only[go_sem, *];refine Pf.go (Vt hf) (by simp only [go_sem]) λ_=>?_;simp (disch:=omega)only[go_sem, *];refine Ad (λhc3=>?_) (λhc3=>?_)
      .simp (disch:=omega)only[go_sem, *];have hd:decide (0<(nth C.parts i).budget/\HD L i (nth C.parts i).period<(nth C.parts i).budget)=true:=by grind
       rw [hd] at hz;simp [hz]
      .simp (disch:=omega)only[go_sem, *];have hd:decide (0<(nth C.parts i).budget/\HD L i (nth C.parts i).period<(nth C.parts i).budget)=false:=by grind
       rw [hd,Bool.false_or] at hz;refine ih _ _ _ ?_ ⟨i+1,rfl, ?_⟩
       .omega
       .simp (disch:=omega)only[go_sem, *]
        ((repeat' refine And.intro ?_ ?_)<;>first | omega | assumption)
     .simp (disch:=omega)only[go_sem, *];have hd:decide (0<(nth C.parts i).budget/\HD L i (nth C.parts i).period<(nth C.parts i).budget)=false:=by grind
      rw [hd,Bool.false_or] at hz;refine ih _ _ _ ?_ ⟨i+1,rfl, ?_⟩
      .omega
      .simp (disch:=omega)only[go_sem, *]
       ((repeat' refine And.intro ?_ ?_)<;>first | omega | assumption)
    .rw [List.drop_eq_nil_of_le om,Cd] at hz;simp (disch:=omega)only[go_sem, *]
     try simp [hz]
   .simp (disch:=omega)only[go_sem, *]
 .simp (disch:=omega)only[go_sem, *]
theorem Pw {C:Am} {L:List AQ} (hf:Iq L):Pf tp Sd [.agg C.enc,.fl 2 (L.map AQ.enc)] (.i .i64 (Dn C L)):=by
 refine AL qP (by simp [K3]) λrp=>?_;unfold K3;simp (disch:=omega)only[go_sem, *];have hcl:=GU.len (rp.head.agg (.fl 6 (C.chans.map AU.enc)) (by simp [Am.enc]));have hpl:=GU.len (rp.head.agg (.fl 11 (C.parts.map Part.enc)) (by simp [Am.enc]));refine Ai (λn e h=>∃ (i:Nat),n=C.chans.length - i/\h.lim=0/\e 11=.fl 6 (C.chans.map AU.enc)/\e 12=.i .i64 C.chans.length/\e 13=.i .i64 i/\e 1=.fl 2 (L.map AQ.enc)/\e 2=.p 0 0 0/\i<=C.chans.length/\h.get 0=some ⟨3,[C.enc]⟩/\1<=h.next/\C.chans.any (Cl L)=(C.chans.drop i).any (Cl L)) ?_ _ _ _ ⟨0,rfl, ?_⟩
 .rintro n e h ⟨i,rfl,hl,e11,e12,e13,e1,e2,hi,hg,hn,hz⟩ ih;rw [Ao aBn.eq_1];simp (disch:=omega)only[go_sem, *];refine Ad (λhc=>?_) (λhc=>?_)
  .have hlc:=F7 L (nth C.chans i).src (nth C.chans i).dst;simp (disch:=omega)only[go_sem, *];refine Pf.go (KM hf) (by simp only [go_sem]) λ_=>?_;simp (disch:=omega)only[go_sem, *]
   repeat' (first | (refine Ax (λhc=>?_) (λhc=>?_)<;>simp (disch:=omega)only[go_sem, *]) | (refine Ad (λhc=>?_) (λhc=>?_)<;>simp (disch:=omega)only[go_sem, *]) | (refine CQ (λhc=>?_) (λhc=>?_)<;>simp (disch:=omega)only[go_sem, *]) | (refine Bv (λhc=>?_) (λhc=>?_)<;>simp (disch:=omega)only[go_sem, *]))
   all_goals
    try
     have hn:Cl L (nth C.chans i)=true:=by (unfold Cl;grind)
     have:=Ng om hn;have e:Dn C L=19:=if_pos this;exact e.symm
   all_goals
    have hp:Cl L (nth C.chans i)=false:=by (unfold Cl;grind)
    refine ih _ _ _ ?_ ⟨i+1,rfl, ?_⟩
    .omega
    .simp (disch:=omega)only[go_sem, *]
     ((repeat' refine And.intro ?_ ?_)<;>first | omega | assumption | (exact JZ om hp))
  .rw [List.drop_eq_nil_of_le om,List.any_nil] at hz;have e:Dn C L=if Cd L 0 C.parts=true then 20 else 0:=by unfold Dn;rw [hz];rfl
   rw [e];clear e hz;simp only [Am.enc] at hg;simp (disch:=omega)only[go_sem, *];refine Ai (λn e h=>∃ (i:Nat),n=C.parts.length - i/\h.lim=0/\e 38=.fl 11 (C.parts.map Part.enc)/\e 39=.i .i64 C.parts.length/\e 40=.i .i64 i/\e 1=.fl 2 (L.map AQ.enc)/\i<=C.parts.length/\Cd L 0 C.parts=Cd L i (C.parts.drop i)) ?_ _ _ _ ⟨0,rfl, ?_⟩
   .rintro n e h ⟨i,rfl,hl,e38,e39,e40,e1,hi,hz⟩ ih;rw [Ao aRG.eq_1];simp (disch:=omega)only[go_sem, *];refine Ad (λhc=>?_) (λhc=>?_)
    .rw [AN om,Cd] at hz;simp (disch:=omega)only[go_sem, *];refine Ax (λhc2=>?_) (λhc2=>?_)
     .simp (disch:=omega)only[go_sem, *];refine Pf.go (H1 hf) (by simp only [go_sem]) λ_=>?_;simp (disch:=omega)only[go_sem, *];refine Ad (λhc3=>?_) (λhc3=>?_)
      .simp (disch:=omega)only[go_sem, *];have hd:decide (0<(nth C.parts i).budget/\HD L i (nth C.parts i).period<(nth C.parts i).budget)=true:=by grind
       rw [hd] at hz;simp [hz]
      .simp (disch:=omega)only[go_sem, *];have hd:decide (0<(nth C.parts i).budget/\HD L i (nth C.parts i).period<(nth C.parts i).budget)=false:=by grind
       rw [hd,Bool.false_or] at hz;refine ih _ _ _ ?_ ⟨i+1,rfl, ?_⟩
       .omega
       .simp (disch:=omega)only[go_sem, *]
        ((repeat' refine And.intro ?_ ?_)<;>first | omega | assumption)
     .simp (disch:=omega)only[go_sem, *];have hd:decide (0<(nth C.parts i).budget/\HD L i (nth C.parts i).period<(nth C.parts i).budget)=false:=by grind
      rw [hd,Bool.false_or] at hz;refine ih _ _ _ ?_ ⟨i+1,rfl, ?_⟩
      .omega
      .simp (disch:=omega)only[go_sem, *]
       ((repeat' refine And.intro ?_ ?_)<;>first | omega | assumption)
    .rw [List.drop_eq_nil_of_le om,Cd] at hz;simp (disch:=omega)only[go_sem, *]
     try simp [hz]
   .simp (disch:=omega)only[go_sem, *]
 .simp (disch:=omega)only[go_sem, *]
end Go.Ab.T
namespace Go.Ab.T
open Go Go.Ab
set_option maxHeartbeats 1000000
theorem JL {L:List Node}:Iq (FY L).1:=by
 unfold FY;split
 .exact Iq.nil
 .rename_i h;split
  .exact Iq.nil
  .obtain ⟨_,ho,hc1,hL,hd,hl⟩:=Gx (L:=L) om;have hap:=Fo.runs_allpos _ ho;have hsum:=Fo.runs_sum _ ho;have ht:=Oi hap om;exact ⟨ht.pos,by unfold uC;rw [ht.sum];omega⟩
noncomputable def Eg (C:Am) (T:List Node):Int:=if (FY T).2≠0 then (FY T).2 else if (FY T).1.any (λr=>decide ((C.parts.length:Int)<=r.part))=true then 16 else Dn C (FY T).1
theorem vR {C:Am} {x:AQ} {h:AH} {id:Nat} {K:V->AH->Prop} (hg:h.get id=some ⟨3,[C.enc]⟩) (hid:id<h.next) (k:K (.b (decide ((C.parts.length:Int)<=x.part))) h):Cq tp Sj [.agg x.enc,.p id 0 0] h K:=by
 simp only [Am.enc] at hg;refine JD qV (by simp [K9]) (k) λhlm rp=>?_;unfold K9;simp (disch:=omega)only[go_sem, *]
 (repeat (first | exact Ak.refl _ | refine Ak.alloc ?_ _ | (refine Ak.put ?_ _ _ ?_;rotate_left;(first | omega | (simp only [Ac,Ah];omega)))))
theorem mU {p x:Part} {h:AH} {id:Nat} {K:V->AH->Prop} (hg:h.get id=some ⟨11,[p.enc]⟩) (hid:id<h.next) (k:K (.b (decide (x.name=p.name))) h):Cq tp aJ [.agg x.enc,.p id 0 0] h K:=by
 simp only [Part.enc] at hg;refine JD aNf (by simp [QZ]) (k) λhlm rp=>?_;unfold QZ;simp (disch:=omega)only[go_sem, *]
 (repeat (first | exact Ak.refl _ | refine Ak.alloc ?_ _ | (refine Ak.put ?_ _ _ ?_;rotate_left;(first | omega | (simp only [Ac,Ah];omega)))))
theorem eQ {C:Am} {T:List Node}:Pf tp UL [.agg C.enc,.fl 3 (T.map Node.enc)] (.i .i64 (Eg C T)):=by
 have hf:=JL (L:=T);refine AL Zo (by simp [LX]) λrp=>?_;unfold LX;simp (disch:=omega)only[go_sem, *];refine Pf.go (aOB) (by simp only [go_sem]) λ_=>?_;simp (disch:=omega)only[go_sem, *];refine Ad (λhc=>?_) (λhc=>?_)
 .have e:Eg C T=(FY T).2:=if_pos hc;simp (disch:=omega)only[go_sem, *]
 have e:Eg C T=if (FY T).1.any (λr=>decide ((C.parts.length:Int)<=r.part))=true then 16 else Dn C (FY T).1:=if_neg hc;simp (disch:=omega)only[go_sem, *];refine aNn (P:=λr=>decide ((C.parts.length:Int)<=r.part)) (λx hx K k=>vR (by simp (disch:=omega)only[go_sem, *]) (by simp (disch:=omega)only[go_sem, *]) k) ?_;simp (disch:=omega)only[go_sem, *];refine Bv (λhc2=>?_) (λhc2=>?_)
 .rw [if_pos hc2] at e;simp (disch:=omega)only[go_sem, *]
 .rw [if_neg (by simp [hc2])] at e;simp (disch:=omega)only[go_sem, *];refine Pf.go (Zu hf) (by simp only [go_sem]) λ_=>?_;simp (disch:=omega)only[go_sem, *]
noncomputable def CN (C:Am):Nat->List (List Node)->Int×Int
 | _,[]=>(0,-1)
 | i,t::l=>if Eg C t≠0 then (Eg C t,(i:Int)) else CN C (i+1) l
noncomputable def BT (C:Am):Nat->List AU->Int×Int
 | _,[]=>CN C 0 C.tables
 | i,x::l=>if C9 C.parts.length x=false then (17,(i:Int)) else BT C (i+1) l
noncomputable def BC (C:Am):Nat->List Part->Int×Int
 | _,[]=>BT C 0 C.chans
 | i,p::l=>if EI p.name=false\/(C.parts.take i).any (λq=>decide (q.name=p.name))=true then (15,(i:Int)) else if EV p=false then (16,(i:Int)) else BC C (i+1) l
noncomputable def Bu (C:Am):Int×Int:=if C.parts.length<1\/6<C.parts.length\/8<C.chans.length\/C.tables.length<1\/3<C.tables.length then (3,0) else BC C 0 C.parts
def Js (C:Am):Prop:=∀ p∈C.parts,p.name.size<4000000000
theorem iI {C:Am} (hnm:Js C):Pf tp Uv [.agg C.enc] (.tup [.i .i64 (Bu C).1,.i .i64 (Bu C).2]):=by
 refine AL Zj (by simp [LS]) λrp=>?_;unfold LS;simp (disch:=omega)only[go_sem, *];have hcl:=GU.len (rp.head.agg (.fl 6 (C.chans.map AU.enc)) (by simp [Am.enc]));have hpl:=GU.len (rp.head.agg (.fl 11 (C.parts.map Part.enc)) (by simp [Am.enc]));have htl:=GU.len (rp.head.agg (.fl 1 (C.tables.map Tab.enc)) (by simp [Am.enc]))
 repeat' (first | (refine Ax (λhc=>?_) (λhc=>?_)<;>simp (disch:=omega)only[go_sem, *]) | (refine Ad (λhc=>?_) (λhc=>?_)<;>simp (disch:=omega)only[go_sem, *]))
 all_goals try (have e:Bu C=(3,0):=if_pos om;rw [e];exact ⟨rfl,rfl⟩)
 have e:Bu C=BC C 0 C.parts:=if_neg om;rw [e];clear e;refine Ai (λn e h=>∃ (i:Nat),n=C.parts.length - i/\h.lim=0/\e 40=.fl 11 (C.parts.map Part.enc)/\e 41=.i .i64 C.parts.length/\e 42=.i .i64 i/\e 1=.p 0 0 0/\i<=C.parts.length/\h.get 0=some ⟨3,[C.enc]⟩/\1<=h.next/\BC C i (C.parts.drop i)=BC C 0 C.parts) ?_ _ _ _ ⟨0,rfl, ?_⟩
 .rintro n e h ⟨i,rfl,hl,e40,e41,e42,e1,hi,hg,hn,hz⟩ ih;rw [Ao bBr.eq_1];simp (disch:=omega)only[go_sem, *];have hg1:=hg;simp only [Am.enc] at hg1;refine Ad (λhc=>?_) (λhc=>?_)
  .rw [AN om,BC] at hz;have hns:=hnm _ (Az (L:=C.parts) (j:=i) om);have eX:List.take i (C.parts.map Part.enc)=(C.parts.take i).map Part.enc:=List.map_take.symm;simp (disch:=omega)only[go_sem, *];refine Pf.go (YQ hns) (by simp only [go_sem]) λ_=>?_;simp (disch:=omega)only[go_sem, *];refine CQ (λhc2=>?_) (λhc2=>?_)
   .rw [if_pos (.inl (by simpa using hc2))] at hz;rw [<- hz];simp (disch:=omega)only[go_sem, *]
   have hc2':EI (nth C.parts i).name=true:=by simpa using hc2
   simp (disch:=omega)only[go_sem, *];refine sR (P:=λq=>decide (q.name=(nth C.parts i).name)) (λx hx K k=>mU (p:=nth C.parts i) (by simp (disch:=omega)only[go_sem, *]) (by simp (disch:=omega)only[go_sem, *];omega) k) ?_;simp (disch:=omega)only[go_sem, *];refine Bv (λhc3=>?_) (λhc3=>?_)
   .rw [if_pos (.inr hc3)] at hz;rw [<- hz];simp (disch:=omega)only[go_sem, *]
   .rw [if_neg (by simp [hc2',hc3])] at hz;simp (disch:=omega)only[go_sem, *];refine Pf.go (YW) (by simp only [go_sem]) λ_=>?_;simp (disch:=omega)only[go_sem, *];refine Bv (λhc4=>?_) (λhc4=>?_)
    .rw [if_pos (by simpa using hc4)] at hz;rw [<- hz];simp (disch:=omega)only[go_sem, *]
    .rw [if_neg (by simpa using hc4)] at hz;simp (disch:=omega)only[go_sem, *];refine ih _ _ _ ?_ ⟨i+1,rfl, ?_⟩
     .omega
     .simp (disch:=omega)only[go_sem, *]
      ((repeat' refine And.intro ?_ ?_)<;>first | omega | assumption)
  .rw [List.drop_eq_nil_of_le om,BC] at hz;rw [<- hz];clear hz;simp (disch:=omega)only[go_sem, *];refine Ai (λn e h=>∃ (i:Nat),n=C.chans.length - i/\h.lim=0/\e 66=.fl 6 (C.chans.map AU.enc)/\e 67=.i .i64 C.chans.length/\e 68=.i .i64 i/\e 1=.p 0 0 0/\i<=C.chans.length/\h.get 0=some ⟨3,[C.enc]⟩/\1<=h.next/\BT C i (C.chans.drop i)=BT C 0 C.chans) ?_ _ _ _ ⟨0,rfl, ?_⟩
   .rintro n e h ⟨i,rfl,hl,e66,e67,e68,e1,hi,hg,hn,hz⟩ ih;rw [Ao bBs.eq_1];simp (disch:=omega)only[go_sem, *];have hg1:=hg;simp only [Am.enc] at hg1;refine Ad (λhc=>?_) (λhc=>?_)
    .rw [AN om,BT] at hz;simp (disch:=omega)only[go_sem, *];refine Pf.go (YG (c:=C) (x:=nth C.chans i)) (by simp only [go_sem]) λ_=>?_;simp (disch:=omega)only[go_sem, *];refine Bv (λhc4=>?_) (λhc4=>?_)
     .rw [if_pos (by simpa using hc4)] at hz;rw [<- hz];simp (disch:=omega)only[go_sem, *]
     .rw [if_neg (by simpa using hc4)] at hz;simp (disch:=omega)only[go_sem, *];refine ih _ _ _ ?_ ⟨i+1,rfl, ?_⟩
      .omega
      .simp (disch:=omega)only[go_sem, *]
       ((repeat' refine And.intro ?_ ?_)<;>first | omega | assumption)
    .rw [List.drop_eq_nil_of_le om,BT] at hz;rw [<- hz];clear hz;simp (disch:=omega)only[go_sem, *];refine Ai (λn e h=>∃ (i:Nat),n=C.tables.length - i/\h.lim=0/\e 80=.fl 1 (C.tables.map Tab.enc)/\e 81=.i .i64 C.tables.length/\e 82=.i .i64 i/\e 1=.p 0 0 0/\i<=C.tables.length/\h.get 0=some ⟨3,[C.enc]⟩/\1<=h.next/\CN C i (C.tables.drop i)=CN C 0 C.tables) ?_ _ _ _ ⟨0,rfl, ?_⟩
     .rintro n e h ⟨i,rfl,hl,e80,e81,e82,e1,hi,hg,hn,hz⟩ ih;rw [Ao bBt.eq_1];simp (disch:=omega)only[go_sem, *];have hg1:=hg;simp only [Am.enc] at hg1;refine Ad (λhc=>?_) (λhc=>?_)
      .rw [AN om,CN] at hz;simp (disch:=omega)only[go_sem, *];refine Pf.go (eQ (C:=C)) (by simp only [go_sem]) λ_=>?_;simp (disch:=omega)only[go_sem, *];refine Ad (λhc4=>?_) (λhc4=>?_)
       .rw [if_pos hc4] at hz;rw [<- hz];simp (disch:=omega)only[go_sem, *]
       .rw [if_neg hc4] at hz;simp (disch:=omega)only[go_sem, *];refine ih _ _ _ ?_ ⟨i+1,rfl, ?_⟩
        .omega
        .simp (disch:=omega)only[go_sem, *]
         ((repeat' refine And.intro ?_ ?_)<;>first | omega | assumption)
      .rw [List.drop_eq_nil_of_le om,CN] at hz;rw [<- hz];clear hz;simp (disch:=omega)only[go_sem, *]
     .simp (disch:=omega)only[go_sem, *]
   .simp (disch:=omega)only[go_sem, *]
 .simp (disch:=omega)only[go_sem, *]
end Go.Ab.T
namespace Go.Ab.T
open Go Go.Ab
set_option maxHeartbeats 2000000
theorem uB {L:List Node}:(FY L).1.length<=96:=by
 unfold FY;split
 .simp
 .split
  .simp
  .simp only;omega
theorem Jb {α:Type} [Inhabited α] {L:List α} {P:α->Bool} {i:Nat} (h:∀ j,j<i->P (nth L j)=false) (hi:i<=L.length):(L.take i).any P=false:=by
 rw [List.any_eq_false];intro x hx;obtain ⟨j,hj,rfl⟩:=List.mem_iff_getElem.1 hx;have hj2:j<i:=by simp at hj;omega
 have:=h j hj2;rw [Ba om] at this;simp [this]
theorem Nf {α:Type} [Inhabited α] {L:List α} {P:α->Bool} {i j:Nat} (hj:j<i) (hi:i<=L.length) (h:P (nth L j)=true):(L.take i).any P=true:=by
 rw [List.any_eq_true];refine ⟨nth L j, ?_,h⟩;rw [Ba om];exact List.mem_take_iff_getElem.2 ⟨j,om,rfl⟩
theorem Py {C:Am} (hnm:Js C):Pf tp aG [.agg C.enc] (.tup [.i .i64 (Bu C).1,.i .i64 (Bu C).2]):=by
 refine AL aNb (by simp [QW]) λrp=>?_;unfold QW;simp (disch:=omega)only[go_sem, *];have hcl:=GU.len (rp.head.agg (.fl 6 (C.chans.map AU.enc)) (by simp [Am.enc]));have hpl:=GU.len (rp.head.agg (.fl 11 (C.parts.map Part.enc)) (by simp [Am.enc]));have htl:=GU.len (rp.head.agg (.fl 1 (C.tables.map Tab.enc)) (by simp [Am.enc]))
 repeat' (first | (refine Ax (λhc=>?_) (λhc=>?_)<;>simp (disch:=omega)only[go_sem, *]) | (refine Ad (λhc=>?_) (λhc=>?_)<;>simp (disch:=omega)only[go_sem, *]))
 all_goals try (have e:Bu C=(3,0):=if_pos om;rw [e];exact ⟨rfl,rfl⟩)
 have e:Bu C=BC C 0 C.parts:=if_neg om;rw [e];clear e;refine Ai (λn e h=>∃ (i:Nat),n=C.parts.length - i/\h.lim=0/\e 45=.fl 11 (C.parts.map Part.enc)/\e 46=.i .i64 C.parts.length/\e 47=.i .i64 i/\e 1=.p 0 0 0/\i<=C.parts.length/\h.get 0=some ⟨3,[C.enc]⟩/\1<=h.next/\BC C i (C.parts.drop i)=BC C 0 C.parts) ?_ _ _ _ ⟨0,rfl, ?_⟩
 .rintro n e h ⟨i,rfl,hl,e45,e46,e47,e1,hi,hg,hn,hz⟩ ih;rw [Ao bBw.eq_1];simp (disch:=omega)only[go_sem, *];have hg1:=hg;simp only [Am.enc] at hg1;refine Ad (λhc=>?_) (λhc=>?_)
  .rw [AN om,BC] at hz;have hns:=hnm _ (Az (L:=C.parts) (j:=i) om);simp (disch:=omega)only[go_sem, *];refine Pf.go (dB hns) (by simp only [go_sem]) λ_=>?_;simp (disch:=omega)only[go_sem, *];refine Bv (λhc2=>?_) (λhc2=>?_)
   .rw [if_pos (.inl (by simpa using hc2))] at hz;rw [<- hz];simp (disch:=omega)only[go_sem, *]
   have hc2':EI (nth C.parts i).name=true:=by simpa using hc2
   simp (disch:=omega)only[go_sem, *];have ih0:=ih;clear ih;have hbx:((h.alloc ⟨11,[[.s ⟨#[]⟩,.i .i64 0,.i .i64 0,.b false,.b false,.ns,.i .i64 0,.i .i64 0,.i .i64 0,.i .i64 0,.i .i64 0]]⟩).put h.next ⟨11,[(nth C.parts i).enc]⟩).get h.next=some ⟨11,[(nth C.parts i).enc]⟩:=by simp (disch:=omega)only[go_sem, *]
   refine Ai (λn e h=>∃ (j:Nat) (b:Nat),n=i - j/\h.lim=0/\e 1=.p 0 0 0/\e 4=.i .i64 i/\e 5=.p b 0 0/\e 6=.i .i64 j/\e 45=.fl 11 (C.parts.map Part.enc)/\e 46=.i .i64 C.parts.length/\e 47=.i .i64 i/\h.get 0=some ⟨3,[C.enc]⟩/\h.get b=some ⟨11,[(nth C.parts i).enc]⟩/\1<=h.next/\j<=i/\∀ k,k<j->(nth C.parts k).name≠(nth C.parts i).name) ?_ _ _ _ ⟨0,h.next,rfl, ?_⟩
   .rintro n e h ⟨j,b,rfl,hl,e1,e4,e5,e6,e45,e46,e47,hg,hb,hn,hj,hs⟩ ih;rw [Ao bBv.eq_1];simp (disch:=omega)only[go_sem, *];have hg1:=hg;simp only [Am.enc] at hg1;have hb1:=hb;simp only [Part.enc] at hb1;refine Ad (λhc3=>?_) (λhc3=>?_)
    .simp (disch:=omega)only[go_sem, *];refine Ad (λhc4=>?_) (λhc4=>?_)
     .rw [if_pos (.inr (Nf (j:=j) om om (by simpa using hc4)))] at hz;rw [<- hz];simp (disch:=omega)only[go_sem, *]
     .simp (disch:=omega)only[go_sem, *];refine ih _ _ _ ?_ ⟨j+1,b,rfl, ?_⟩
      .omega
      .simp (disch:=omega)only[go_sem, *]
       ((repeat' refine And.intro ?_ ?_)<;>first | omega | assumption | ((intro k hk;by_cases e:k=j;(subst e;exact hc4);(exact hs k om))))
    .have hno:=Jb (L:=C.parts) (i:=i) (P:=λq=>decide (q.name=(nth C.parts i).name)) (λk hk=>by have:=hs k om;simp [this]) om;rw [if_neg (by simp only [hc2',hno];simp)] at hz;clear hs hno;simp (disch:=omega)only[go_sem, *];refine Pf.go (dK) (by simp only [go_sem]) λ_=>?_;simp (disch:=omega)only[go_sem, *];refine Bv (λhc4=>?_) (λhc4=>?_)
     .rw [if_pos (by simpa using hc4)] at hz;rw [<- hz];simp (disch:=omega)only[go_sem, *]
     .rw [if_neg (by simpa using hc4)] at hz;simp (disch:=omega)only[go_sem, *];refine ih0 _ _ _ ?_ ⟨i+1,rfl, ?_⟩
      .omega
      .simp (disch:=omega)only[go_sem, *]
       ((repeat' refine And.intro ?_ ?_)<;>first | omega | assumption)
   .simp (disch:=omega)only[go_sem, *];simp
  .rw [List.drop_eq_nil_of_le om,BC] at hz;rw [<- hz];clear hz;simp (disch:=omega)only[go_sem, *];refine Ai (λn e h=>∃ (i:Nat),n=C.chans.length - i/\h.lim=0/\e 78=.fl 6 (C.chans.map AU.enc)/\e 79=.i .i64 C.chans.length/\e 80=.i .i64 i/\e 1=.p 0 0 0/\i<=C.chans.length/\h.get 0=some ⟨3,[C.enc]⟩/\1<=h.next/\BT C i (C.chans.drop i)=BT C 0 C.chans) ?_ _ _ _ ⟨0,rfl, ?_⟩
   .rintro n e h ⟨i,rfl,hl,e78,e79,e80,e1,hi,hg,hn,hz⟩ ih;rw [Ao bBx.eq_1];simp (disch:=omega)only[go_sem, *];have hg1:=hg;simp only [Am.enc] at hg1;refine Ad (λhc=>?_) (λhc=>?_)
    .rw [AN om,BT] at hz;simp (disch:=omega)only[go_sem, *];refine Pf.go (cV (x:=nth C.chans i)) (by simp only [go_sem]) λ_=>?_;simp (disch:=omega)only[go_sem, *];refine Bv (λhc4=>?_) (λhc4=>?_)
     .rw [if_pos (by simpa using hc4)] at hz;rw [<- hz];simp (disch:=omega)only[go_sem, *]
     .rw [if_neg (by simpa using hc4)] at hz;simp (disch:=omega)only[go_sem, *];refine ih _ _ _ ?_ ⟨i+1,rfl, ?_⟩
      .omega
      .simp (disch:=omega)only[go_sem, *]
       ((repeat' refine And.intro ?_ ?_)<;>first | omega | assumption)
    .rw [List.drop_eq_nil_of_le om,BT] at hz;rw [<- hz];clear hz;simp (disch:=omega)only[go_sem, *];refine Ai (λn e h=>∃ (i:Nat),n=C.tables.length - i/\h.lim=0/\e 94=.fl 1 (C.tables.map Tab.enc)/\e 95=.i .i64 C.tables.length/\e 96=.i .i64 i/\e 1=.p 0 0 0/\i<=C.tables.length/\h.get 0=some ⟨3,[C.enc]⟩/\1<=h.next/\CN C i (C.tables.drop i)=CN C 0 C.tables) ?_ _ _ _ ⟨0,rfl, ?_⟩
     .rintro n e h ⟨i,rfl,hl,e94,e95,e96,e1,hi,hg,hn,hz⟩ ih;rw [Ao bBz.eq_1];simp (disch:=omega)only[go_sem, *];have hg1:=hg;simp only [Am.enc] at hg1;refine Ad (λhc=>?_) (λhc=>?_)
      .have hf:=JL (L:=nth C.tables i);have hfl:=uB (L:=nth C.tables i);rw [AN om,CN] at hz;simp (disch:=omega)only[go_sem, *];refine Pf.go (KN) (by simp only [go_sem]) λ_=>?_;simp (disch:=omega)only[go_sem, *];have ht:Eg C (nth C.tables i)=if (FY (nth C.tables i)).2≠0 then (FY (nth C.tables i)).2 else if (FY (nth C.tables i)).1.any (λr=>decide ((C.parts.length:Int)<=r.part))=true then 16 else Dn C (FY (nth C.tables i)).1:=rfl;refine Ad (λhc4=>?_) (λhc4=>?_)
       .rw [if_pos hc4] at ht;rw [if_pos (by rw [ht];exact hc4),ht] at hz;rw [<- hz];simp (disch:=omega)only[go_sem, *]
       rw [if_neg hc4] at ht;simp (disch:=omega)only[go_sem, *];have ih0:=ih;clear ih;refine Ai (λn e h=>∃ (j:Nat),n=((FY (nth C.tables i)).1).length - j/\h.lim=0/\e 110=.fl 2 (((FY (nth C.tables i)).1).map AQ.enc)/\e 111=.i .i64 ((FY (nth C.tables i)).1).length/\e 112=.i .i64 j/\e 1=.p 0 0 0/\e 9=.i .i64 i/\e 11=.fl 2 ((FY (nth C.tables i)).1.map AQ.enc)/\e 94=.fl 1 (C.tables.map Tab.enc)/\e 95=.i .i64 C.tables.length/\e 96=.i .i64 i/\j<=((FY (nth C.tables i)).1).length/\h.get 0=some ⟨3,[C.enc]⟩/\1<=h.next/\(FY (nth C.tables i)).1.any (λr=>decide ((C.parts.length:Int)<=r.part))=((FY (nth C.tables i)).1.drop j).any (λr=>decide ((C.parts.length:Int)<=r.part))) ?_ _ _ _ ⟨0,rfl, ?_⟩
       .rintro n e h ⟨j,rfl,hl,e110,e111,e112,e1,e9,e11,e94,e95,e96,hi,hg,hn,hs⟩ ih;rw [Ao bBy.eq_1];simp (disch:=omega)only[go_sem, *];have hg1:=hg;simp only [Am.enc] at hg1;refine Ad (λhc5=>?_) (λhc5=>?_)
        .simp (disch:=omega)only[go_sem, *];refine Ad (λhc6=>?_) (λhc6=>?_)
         .have hy:=Ng (L:=(FY (nth C.tables i)).1) (P:=λr=>decide ((C.parts.length:Int)<=r.part)) (i:=j) om (by simpa using hc6);rw [if_pos hy] at ht;clear hy hs;rw [if_pos (by rw [ht];simp),ht] at hz;rw [<- hz];simp (disch:=omega)only[go_sem, *]
         .have hno:=JZ (L:=(FY (nth C.tables i)).1) (P:=λr=>decide ((C.parts.length:Int)<=r.part)) (i:=j) om (by simpa using hc6);rw [hno] at hs;clear hno;simp (disch:=omega)only[go_sem, *];refine ih _ _ _ ?_ ⟨j+1,rfl, ?_⟩
          .omega
          .simp (disch:=omega)only[go_sem, *]
           ((repeat' refine And.intro ?_ ?_)<;>first | omega | assumption)
        .rw [List.drop_eq_nil_of_le om,List.any_nil] at hs;rw [if_neg (by rw [hs];simp)] at ht;clear hs;rw [ht] at hz;simp (disch:=omega)only[go_sem, *];refine Pf.go (Pw (C:=C) hf) (by simp only [go_sem]) λ_=>?_;simp (disch:=omega)only[go_sem, *];refine Ad (λhc7=>?_) (λhc7=>?_)
         .rw [if_pos hc7] at hz;rw [<- hz];simp (disch:=omega)only[go_sem, *]
         .rw [if_neg hc7] at hz;simp (disch:=omega)only[go_sem, *];refine ih0 _ _ _ ?_ ⟨i+1,rfl, ?_⟩
          .omega
          .simp (disch:=omega)only[go_sem, *]
           ((repeat' refine And.intro ?_ ?_)<;>first | omega | assumption)
       .simp (disch:=omega)only[go_sem, *]
      .rw [List.drop_eq_nil_of_le om,CN] at hz;rw [<- hz];clear hz;simp (disch:=omega)only[go_sem, *]
     .simp (disch:=omega)only[go_sem, *]
   .simp (disch:=omega)only[go_sem, *]
 .simp (disch:=omega)only[go_sem, *]
theorem KO {C:Am} (hnm:Js C):Pf tp Zz [.agg C.enc] (.i .i64 (Bu C).1):=by
 refine AL aMn (by simp [LP]) λrp=>?_;unfold LP;simp (disch:=omega)only[go_sem, *];refine Pf.go (iI hnm) (by simp only [go_sem]) λ_=>?_;simp (disch:=omega)only[go_sem, *]
theorem Mi {C:Am} (hnm:Js C):Pf tp ZX [.agg C.enc] (.i .i64 (Bu C).1):=by
 refine AL aML (by simp [Qw]) λrp=>?_;unfold Qw;simp (disch:=omega)only[go_sem, *];refine Pf.go (Py hnm) (by simp only [go_sem]) λ_=>?_;simp (disch:=omega)only[go_sem, *]
end Go.Ab.T
namespace Go.Ab.T
open Go Go.Ab
set_option maxHeartbeats 1000000
@[irreducible] def Dy (n lo hi:Int):Int:=if lo<=n/\n<=hi then n else lo+(if n.tmod (hi - lo+1)<0 then n.tmod (hi - lo+1)+hi - lo+1 else n.tmod (hi - lo+1))
theorem I1 {n lo hi:Int} (h:lo<=hi):lo<=Dy n lo hi/\Dy n lo hi<=hi:=by
 unfold Dy;have h1:0<hi - lo+1:=by omega
 have a:=Int.tmod_lt_of_pos n h1;have b:=Int.lt_tmod_of_pos n h1;split
 .assumption
 .split<;>omega
theorem I6 {n lo hi:Int} (h0:0<=lo) (h1:lo<=hi) (h2:hi<=2000000000):Pf tp sW [.i .i64 n,.i .i64 lo,.i .i64 hi] (.i .i64 (Dy n lo hi)):=by
 have hp:0<hi - lo+1:=by omega
 have a:=Int.tmod_lt_of_pos n hp;have b:=Int.lt_tmod_of_pos n hp;refine AL aYV (by simp [eO]) λrp=>?_;unfold eO;simp (disch:=omega)only[go_sem, *]
 repeat' (first | (refine Ax (λhc=>?_) (λhc=>?_)<;>simp (disch:=omega)only[go_sem, *]) | (refine Ad (λhc=>?_) (λhc=>?_)<;>simp (disch:=omega)only[go_sem, *]) | (refine CQ (λhc=>?_) (λhc=>?_)<;>simp (disch:=omega)only[go_sem, *]) | (refine Bv (λhc=>?_) (λhc=>?_)<;>simp (disch:=omega)only[go_sem, *]))
 all_goals (unfold Dy;(repeat' split)<;>omega)
@[go_sem] def An (L:List Int) (k:Nat):BJ:=⟨2,[[.fl 1 (L.map Ek),.i .i64 k]]⟩
theorem FX.same {h:AH} {id:Nat} {b:BJ} (hb:h.get id=some b):FX h id b h:=⟨Nat.le_refl _,rfl,hb,λ_ _ _=>rfl⟩
theorem U8 {h h1 h2:AH} {id:Nat} {b:BJ} (u:FX h id b h1) (hid:id<h.next) (x:Ak h1 h2):FX h id b h2:=by
 have a:=u.next;have c:=x.next;exact ⟨om,x.lim.trans u.lim,(x.get id om).trans u.here,λi hi hn=>(x.get i om).trans (u.get i hi hn)⟩
theorem Ce {h h1:AH} {id:Nat} {b b':BJ} (u:FX h id b h1):FX h id b' (h1.put id b'):=
 ⟨u.next,u.lim,by rw [Ae,Ar rfl],λi hi hn=>by rw [Ae,Af hn];exact u.get i hi hn⟩
theorem Bp {h h1:AH} {id:Nat} {b k:BJ} (u:FX h id b h1) (hid:id<h.next):FX h id b (h1.alloc k):=U8 u hid ((Ak.refl _).alloc _)
theorem L6 {h h1:AH} {id j:Nat} {b k:BJ} (u:FX h id b h1) (hj:h.next<=j) (hid:id<h.next):FX h id b (h1.put j k):=
 ⟨u.next,u.lim,by rw [Ae,Af om];exact u.here,λi hi hn=>by rw [Ae,Af om];exact u.get i hi hn⟩
theorem DQ {h h1 h2:AH} {id b':Nat} {b:BJ} {x v:V} (u:FX h id b h1) (hid:id<h.next) (g:Grown b' h1 x v h2) (hx:AA x=true\/h.next<=Ap x):FX h id b h2:=by
 have a:=u.next;have c:=g.next;have k:∀ i,i<h.next->(AA x=true\/i≠Ap x):=λi hi=>hx.imp (λx=>x) (λx=>by omega);exact ⟨om,g.lim.trans u.lim,by rw [g.get id om (k id hid)];exact u.here,λi hi hn=>by rw [g.get i om (k i hi)];exact u.get i hi hn⟩
theorem Au {b sz:Nat} {h:AH} {v:V} {R:List (List V)} (s:Sl b h sz v R):AA v=true\/b<=Ap v:=by
 rcases s with ⟨hv,_⟩ | ⟨i,el,cap,cs,rfl,_,_,_,_,h1,h2,_⟩
 .rcases hv with rfl | rfl<;>exact .inl rfl
 .exact .inr h2
theorem Ft {tp : TP} {f : Nat} {args : List V} {h : AH} {K : V -> AH -> Prop} {id k : Nat} {L : List Int} {tf : TF} (hf : tp.fn f = some tf) (hl : args.length <= tf.n) (hg : h.get id = some (An L k))
    (z:h.lim<=h.next->id<h.next->F1 args->ZC tp tf.body (Fb args) h (λx e h2=>G1 tf.res x e h2 (λr h3=>∃ R j,CY (h.next<=·) h3 h.next r R/\FX h id (An L j) h3/\K R (h.put id (An L j))))):Cq tp f args h K:=
 zU hf hl λwf rp=>by
  have hlt:=(wf.2 id _ hg).1;have key:∀ (e:Env) (h2:AH),(Wo (BI e h2 tf.res) λr=>∃ R j,CY (h.next<=·) h2 h.next r R/\FX h id (An L j) h2/\K R (h.put id (An L j)))->Wo (BI e h2 tf.res) λr=>∃ P R H,C1 h h2 r P R H/\K R H:=by
   rintro e h2 ⟨v,hv,R,j,fr,u,kk⟩;exact ⟨v,hv,_,R,_,C1.upd wf u hlt (.cons _ _ _ _ _ (Cr.of_stay rfl) (.nil _)) fr,kk⟩
  exact ET (λx e h2 q=>by
   cases x with
   | ex _=>exact q
   | nm=>exact key _ _ q
   | rt=>exact key _ _ q) (z wf.1 hlt rp)
theorem AJ {h : AH} {id k : Nat} {L : List Int} {n : Int} {K : V -> AH -> Prop} (hg : h.get id = some (An L k)) (hk : k <= L.length) (hL : L.length < 4000000000) (hlo : h.lim <= id)
    (kk:∀ v j,0<=v->v<=1073741824->(v<n\/v=0)->j<=L.length->K (.i .i64 v) (h.put id (An L j))):Cq tp Ul [.p id 0 0,.i .i64 n] h K:=by
 refine Ft aMj (by simp [P5]) hg λhlm hid rp=>?_;unfold P5;have hg1:=hg;simp only [An] at hg1;simp (disch:=omega)only[go_sem, *];refine Ax (λhc=>?_) (λhc=>?_)
 .simp (disch:=omega)only[go_sem, *];exact ⟨_,k,.z _ _ (.i _ _),FX.same hg,kk 0 k om om om hk⟩
 .simp (disch:=omega)only[go_sem, *];refine Ad (λhc2=>?_) (λhc2=>?_)
  .simp (disch:=omega)only[go_sem, *];exact ⟨_,k,.z _ _ (.i _ _),FX.same hg,kk 0 k om om om hk⟩
  .have hk1:(k:Int)<L.length:=by omega
   have hb:=I1 (n:=nth L k) (lo:=0) (hi:=1073741824) om;have h1:=Int.tmod_nonneg n hb.1;have h2:=Int.tmod_lt_of_pos (Dy (nth L k) 0 1073741824) (b:=n) om;have h3:(Dy (nth L k) 0 1073741824).tmod n<=Dy (nth L k) 0 1073741824:=by
    rw [Int.tmod_eq_emod_of_nonneg hb.1]
    by_cases hlt:Dy (nth L k) 0 1073741824<n
    .rw [Int.emod_eq_of_lt hb.1 hlt];omega
    .have:=Int.emod_lt_of_pos (Dy (nth L k) 0 1073741824) (b:=n) om;omega
   simp (disch:=omega)only[go_sem, *];refine Pf.go (I6 (n:=nth L k) (lo:=0) (hi:=1073741824) om om om) (by simp only [go_sem]) λ_=>?_;simp (disch:=omega)only[go_sem, *];exact ⟨_,k+1,.z _ _ (.i _ _),Ce (FX.same hg),kk _ (k+1) h1 om (.inl h2) om⟩
end Go.Ab.T
namespace Go.Ab.T
open Go Go.Ab
set_option maxHeartbeats 1000000
/-! Plain laws: when a configuration is right. -/
def DF (n:Int) (T:List Node):Prop:=∀ x∈T,0<=x.part/\x.part<n
theorem DF.one {n:Int} {x:Node} (h0:0<=x.part) (h:x.part<n):DF n [x]:=λy hy=>by
 rw [List.mem_singleton] at hy;subst hy;exact ⟨h0,h⟩
theorem DF.app {n:Int} {A B:List Node} (a:DF n A) (b:DF n B):DF n (A++B):=λy hy=>by
 rcases List.mem_append.1 hy with h | h
 .exact a y h
 .exact b y h
theorem DF.cons {n:Int} {x:Node} {B:List Node} (h0:0<=x.part) (h:x.part<n) (b:DF n B):DF n (x::B):=DF.app (DF.one h0 h) b
theorem Fo.runs_part {n:Int} (hn:1<=n):∀ (f:Fo),DF n f.flat->∀ r∈f.runs,r.part<n
 | .nil,h,r,hr=>by simp [Fo.runs] at hr
 | .leaf x f,h,r,hr=>by
  simp only [Fo.runs,List.mem_cons] at hr;simp only [Fo.flat] at h;rcases hr with rfl | hr
  .have:=h x (List.mem_cons_self ..);simp only [DC];split<;>omega
  .exact Fo.runs_part hn f (λy hy=>h y (List.mem_cons_of_mem _ hy)) r hr
 | .seq x k f,h,r,hr=>by
  simp only [Fo.runs,List.mem_append] at hr;simp only [Fo.flat] at h;rcases hr with hr | hr
  .exact Fo.runs_part hn k (λy hy=>h y (List.mem_cons_of_mem _ (List.mem_append_left _ hy))) r hr
  .exact Fo.runs_part hn f (λy hy=>h y (List.mem_cons_of_mem _ (List.mem_append_right _ hy))) r hr
 | .rep x k f,h,r,hr=>by
  simp only [Fo.runs,List.mem_append] at hr;simp only [Fo.flat] at h;rcases hr with hr | hr
  .rw [List.mem_flatten] at hr;obtain ⟨l,hl,hr⟩:=hr;rw [List.mem_replicate] at hl;obtain ⟨_,rfl⟩:=hl;exact Fo.runs_part hn k (λy hy=>h y (List.mem_cons_of_mem _ (List.mem_append_left _ hy))) r hr
  .exact Fo.runs_part hn f (λy hy=>h y (List.mem_cons_of_mem _ (List.mem_append_right _ hy))) r hr
def DA (n:Int) (T:List Node):Prop:=(FY T).2=0/\∀ r∈(FY T).1,r.part<n
theorem DA.of {n:Int} (hn:1<=n) {T:List Node} (h:(FY T).2=0) (hp:DF n T):DA n T:=by
 refine ⟨h, ?_⟩
 by_cases hr:Bg T=0
 .rw [Ga hr] at h ⊢;obtain ⟨_,ho,hc1,hL,hd,hl⟩:=Gx hr;split at h
  .simp at h
  .rename_i h96;rw [if_neg h96];intro r hr;have hap:=Fo.runs_allpos _ ho;have hsum:=Fo.runs_sum _ ho;have ht:=Oi hap om;obtain ⟨q,hq,e⟩:=ht.parts r hr;rw [<- e];exact Fo.runs_part hn _ (by rw [<- hL];exact hp) q hq
 .rw [JK hr] at h;exact absurd h hr
theorem DA.right {n:Int} {T:List Node} (h:DA n T):Bg T=0:=by
 by_cases hr:Bg T=0
 .exact hr
 .have:=h.1;rw [JK hr] at this;exact absurd this hr
theorem DA.ne {n:Int} {T:List Node} (h:DA n T):0<T.length:=by
 obtain ⟨_,f,ho,hc,rfl,_⟩:=(GJ T).1 h.right;exact Fo.flat_pos hc
def II (p:Int):List Node:=[⟨3,0,2⟩,⟨1,p,3⟩,⟨2,0,2⟩]
theorem aNy {n p:Int} (hn:1<=n) (h6:n<=6) (h0:0<=p) (hp:p<n):DA n (II p):=by
 refine DA.of hn ?_ (DF.cons (by simp) (by simp;omega) (DF.cons (by simp;omega) (by simp;omega) (DF.one (by simp) (by simp;omega))));have k1:kids ⟨1,p,3⟩=0:=by unfold kids;rw [if_neg (by simp),if_pos (by simp;omega)]
 have e:II p=(Fo.seq ⟨3,0,2⟩ (.leaf ⟨1,p,3⟩ (.leaf ⟨2,0,2⟩ .nil)) .nil).flat:=rfl;have hr:Bg (II p)=0:=by
  rw [e];refine KP ⟨rfl,rfl,by simp [Fo.count],⟨k1,rfl,trivial⟩,trivial⟩ rfl (by simp [Fo.depth]) (by simp [Fo.len]) (by simp [Fo.flat])
 rw [Ga hr];obtain ⟨hl128,ho,hc1,hL,hd,hl⟩:=Gx hr;have hap:=Fo.runs_allpos _ ho;have hsum:=Fo.runs_sum _ ho;have ht:=Oi hap om;have h1:((FG (II p)).runs.length:Int)<=AB (FG (II p)).runs:=by
  have:∀ {w:List AQ},Bd w->(w.length:Int)<=AB w:=by
   intro w
   induction w with
   | nil=>intro _;simp [AB]
   | cons a l ih=>
    intro h;have:=ih (λr hr=>h r (List.mem_cons_of_mem _ hr));have:=h a (List.mem_cons_self ..);simp only [AB,List.length_cons];omega
  exact this hap
 have hlen:(FG (II p)).len=5:=by
  obtain ⟨f,hf,he,hc⟩:∃ f:Fo,f.ok/\f.flat=II p/\f.len=(FG (II p)).len:=⟨_,ho,hL.symm,rfl⟩
  have m1:=(BV ho hc1).2;have m2:=(BV (f:=Fo.seq ⟨3,0,2⟩ (.leaf ⟨1,p,3⟩ (.leaf ⟨2,0,2⟩ .nil)) .nil) ⟨rfl,rfl,by simp [Fo.count],⟨k1,rfl,trivial⟩,trivial⟩ rfl).2;rw [<- hL] at m1;rw [<- e] at m2;rw [m1] at m2;have l2:(Fo.seq ⟨3,0,2⟩ (.leaf ⟨1,p,3⟩ (.leaf ⟨2,0,2⟩ .nil)) .nil).len=5:=rfl;rw [l2] at m2;omega
 rw [if_neg (by unfold uC;have:=ht.len;omega)]
/-! Lateness is no longer than a frame. -/
theorem cC {tt:List Ct} {n t:Int} (hs:CH 0 tt n) (hne:tt≠[]) (h0:0<=t) (hn:n<=4096):JA tt t n - t<=4096:=by
 unfold JA;rcases FK (t:=t) hs with ⟨h1,h2⟩ | ⟨s,h1,h2,h3,h4⟩
 .rw [h1]
  match tt,hne with
  | a::l,_=>
   have:=hs.mem (List.mem_cons_self ..);have:=h2 a (List.mem_cons_self ..);simp only [nth,List.getD_cons_zero];omega
 .rw [h2];have:=hs.mem h1;simp only;omega
theorem O6 {tt:List Ct} {n:Int} (hs:CH 0 tt n) (hne:tt≠[]) (hn:n<=4096):∀ (l:List Ct) (w:Int),w<=4096->(∀ s∈l,0<=s.s/\s.s<s.e)->FU tt n l w<=4096
 | [],w,hw,_=>hw
 | s::l,w,hw,h=>by
  rw [FU];have hh:=h s (List.mem_cons_self ..);have a:=cC hs hne (t:=s.s) om hn;have b:=cC hs hne (t:=s.e - 1) om hn;exact O6 hs hne hn l _ om (λx hx=>h x (List.mem_cons_of_mem _ hx))
theorem bI {L:List AQ} {f t:Int} (hf:Iq L):DB L f t<=4096:=by
 unfold DB;split
 .omega
 .split
  .omega
  .rename_i h2;have s1:=BS (p:=t) (a:=0) hf.1;have s2:=BS (p:=f) (a:=0) hf.1;rw [Int.zero_add] at s1 s2;exact O6 s1 h2 hf.2 _ _ om (λs hs=>by have:=s2.mem hs;omega)
/-! When all is right. -/
theorem L7 {C:Am}:∀ (l:List (List Node)) (i:Nat),CN C i l=(0,-1)↔∀ t∈l,Eg C t=0
 | [],i=>by simp [CN]
 | t::l,i=>by
  rw [CN];split
  .rename_i h;simp [h]
  .rename_i h;rw [L7 l];simp at h;simp [h]
theorem Jp {C:Am}:∀ (l:List AU) (i:Nat),BT C i l=(0,-1)↔(∀ x∈l,C9 C.parts.length x=true)/\∀ t∈C.tables,Eg C t=0
 | [],i=>by simp [BT,L7]
 | x::l,i=>by
  rw [BT];split
  .rename_i h;simp [h]
  .rename_i h;rw [Jp l];simp at h;simp [h]
def Xa (P:List Part) (j:Nat):Prop:=EI (nth P j).name=true/\(P.take j).any (λq=>decide (q.name=(nth P j).name))=false/\EV (nth P j)=true
theorem Jq {C:Am}:∀ (l:List Part) (i:Nat),l=C.parts.drop i->(BC C i l=(0,-1)↔(∀ j,i<=j->j<C.parts.length->Xa C.parts j)/\(∀ x∈C.chans,C9 C.parts.length x=true)/\∀ t∈C.tables,Eg C t=0)
 | [],i,hl=>by
  have:C.parts.length<=i:=List.drop_eq_nil_iff.1 hl.symm;rw [BC,Jp];constructor
  .intro h;exact ⟨λj h1 h2=>by omega,h⟩
  .intro h;exact h.2
 | p::l,i,hl=>by
  have hi:i<C.parts.length:=by
   rcases Nat.lt_or_ge i C.parts.length with h | h
   .exact h
   .rw [List.drop_eq_nil_of_le h] at hl;cases hl
  rw [AN hi] at hl;injection hl with h1 h2
  subst h1;rw [BC];split
  .rename_i h;constructor
   .intro h';simp at h'
   .intro h';have g:=h'.1 i (Nat.le_refl _) hi;rw [g.1,g.2.1] at h;simp at h
  .rename_i h;split
   .rename_i h3;constructor
    .intro h';simp at h'
    .intro h';have g:=h'.1 i (Nat.le_refl _) hi;rw [g.2.2] at h3;simp at h3
   .rename_i h3;rw [Jq l (i+1) h2];simp only [not_or,Bool.not_eq_false,Bool.not_eq_true] at h h3;constructor
    .intro h';refine ⟨λj hj1 hj2=>?_,h'.2⟩
     by_cases e:j=i
     .subst e;exact ⟨h.1,h.2,h3⟩
     .exact h'.1 j om hj2
    .intro h';exact ⟨λj hj1 hj2=>h'.1 j om hj2,h'.2⟩
theorem Ey {C:Am}:Bu C=(0,-1)↔(1<=C.parts.length/\C.parts.length<=6/\C.chans.length<=8/\1<=C.tables.length/\C.tables.length<=3)/\(∀ j,j<C.parts.length->Xa C.parts j)/\(∀ x∈C.chans,C9 C.parts.length x=true)/\∀ t∈C.tables,Eg C t=0:=by
 unfold Bu;split
 .rename_i h;constructor
  .intro h';simp at h'
  .intro h';omega
 .rename_i h;rw [Jq _ 0 (by simp)];constructor
  .intro h';exact ⟨om,λj hj=>h'.1 j om hj,h'.2⟩
  .intro h';exact ⟨λj _ hj=>h'.2.1 j hj,h'.2.2⟩
theorem LY {C:Am} {T:List Node}:Eg C T=0↔DA C.parts.length T/\Dn C (FY T).1=0:=by
 unfold Eg DA;split
 .rename_i h;simp [h]
 .rename_i h;split
  .rename_i h2;rw [List.any_eq_true] at h2;obtain ⟨r,h3,h4⟩:=h2;constructor
   .intro h';simp at h'
   .intro h';have:=h'.1.2 r h3;simp at h4;omega
  .rename_i h2;simp only [List.any_eq_true,not_exists,not_and] at h2;constructor
   .intro h';exact ⟨⟨om,λr hr=>by have:=h2 r hr;simp at this;omega⟩,h'⟩
   .intro h';exact h'.2
theorem Kl {C:Am} {L:List AQ}:Dn C L=0↔C.chans.any (Cl L)=false/\Cd L 0 C.parts=false:=by
 unfold Dn;split
 .rename_i h;simp [h]
 .rename_i h;simp only [Bool.not_eq_true] at h;split
  .rename_i h2;simp [h2]
  .rename_i h2;simp only [Bool.not_eq_true] at h2;simp [h,h2]
theorem FM {L:List AQ}:∀ (l:List Part) (i:Nat),(∀ p∈l,p.budget=0)->Cd L i l=false
 | [],i,h=>rfl
 | p::l,i,h=>by
  rw [Cd,FM l (i+1) (λq hq=>h q (List.mem_cons_of_mem _ hq)),h p (List.mem_cons_self ..)];simp
end Go.Ab.T
namespace Go.Ab.T
open Go Go.Ab
set_option maxHeartbeats 2000000
theorem Sl.new {b:Nat} {h:AH} {sz:Nat} {N:List (List V)} (hb:b<=h.next) (hN:N.length<4294967296):Sl b (h.alloc ⟨sz,N⟩) sz (.sl h.next 0 N.length N.length) N:=
 .inr ⟨h.next,0,N.length,N,rfl,by simp [AH.alloc],by simp,by simp,Nat.le_refl _,by simp [AH.alloc],hb,hN⟩
theorem JM {m nx i:Nat} {h:AH} {x:Node} (hi:i=h.next) (hb:m<=i):CY (m<=·) (h.alloc ⟨3,[x.enc]⟩) nx (.sl i 0 1 1) (.fl 3 ([x].map Node.enc)):=by
 subst hi;exact Sl.froze (b:=m) (L:=[x]) (Sl.new hb (by simp)) (λ_=>rfl) hb (by simp)
theorem Sl.frzb {α:Type} {enc:α->List V} {b nx:Nat} {h:AH} {sz:Nat} {v:V} {L:List α} (s:Sl b h sz v (L.map enc)) (he:∀ a,(enc a).all PV=true) (hL:L.length<4000000000):CY (b<=·) h nx v (.fl sz (L.map enc)):=by
 rcases Au s with hn | hn
 .rcases s with ⟨hv,hR⟩ | ⟨i,el,cap,cs,rfl,_⟩
  .rw [hR];rcases hv with rfl | rfl
   .exact .ns _ _
   .exact .e0 _ _
  .cases hn
 .exact s.froze he hn hL
theorem bAY (d:Nat):1<=5 ^ d:=Nat.pos_of_ne_zero (by simp)
theorem WW {n : Int} {L : List Int} {id : Nat} (hn : 1 <= n) (hn2 : n <= 1073741824) (hL : L.length < 4000000000) : ∀ (d : Nat), d <= 4 -> ∀ {h : AH} {k : Nat} {K : V -> AH -> Prop}, h.get id = some (An L k) -> k <= L.length -> h.lim <= id ->
    (∀ T j,DF n T->T.length<=5 ^ d->j<=L.length->K (.fl 3 (T.map Node.enc)) (h.put id (An L j)))->Cq tp ZR [.p id 0 0,.i .i64 n,.i .i64 d] h K:=by
 intro d
 induction d with
 | zero=>
  intro _ h k K hg hk hlo kk;refine Ft aMG (by simp [Qr]) hg λhlm hid rp=>?_;unfold Qr;simp (disch:=omega)only[go_sem, *];refine AJ hg hk hL hlo ?_;intro v j h0 h1 h2 hj;simp (disch:=omega)only[go_sem, *];have hg1:(h.put id (An L j)).get id=some (An L j):=by simp (disch:=omega)only[go_sem, *]
  refine Ad (λhc=>?_) (λhc=>?_)
  .simp (disch:=omega)only[go_sem, *];refine AJ hg1 hj hL hlo ?_;intro v2 j2 h20 h21 h22 hj2;simp (disch:=omega)only[go_sem, *];exact ⟨.fl 3 ([(⟨2,0,1+v2⟩:Node)].map Node.enc),j2,JM (x:=⟨2,0,1+v2⟩) rfl (Nat.le_refl _),Bp (Ce (FX.same hg)) hid,kk _ _ (DF.one (by simp) (by simp;omega)) (by simp) hj2⟩
  .simp (disch:=omega)only[go_sem, *];refine AJ hg1 hj hL hlo ?_;intro v2 j2 h20 h21 h22 hj2;have hg2:(h.put id (An L j2)).get id=some (An L j2):=by simp (disch:=omega)only[go_sem, *]
   simp (disch:=omega)only[go_sem, *];refine AJ hg2 hj2 hL hlo ?_;intro v3 j3 h30 h31 h32 hj3;simp (disch:=omega)only[go_sem, *];exact ⟨.fl 3 ([(⟨1,v2,1+v3⟩:Node)].map Node.enc),j3,JM (x:=⟨1,v2,1+v3⟩) rfl (Nat.le_refl _),Bp (Ce (FX.same hg)) hid,kk _ _ (DF.one (by simp;omega) (by simp;omega)) (by simp) hj3⟩
 | succ d ihd=>
  intro hd h k K hg hk hlo kk;have hp:=bAY d;have hpe:5 ^ (d+1)=5*5 ^ d:=by rw [Nat.pow_succ];omega
  have hpd:5 ^ d<=125:=Nat.pow_le_pow_right (n:=5) om (show d<=3 by omega);rw [hpe] at kk;clear hpe;refine Ft aMG (by simp [Qr]) hg λhlm hid rp=>?_;unfold Qr;simp (disch:=omega)only[go_sem, *];refine AJ hg hk hL hlo ?_;intro v j h0 h1 h2 hj;simp (disch:=omega)only[go_sem, *];have hg1:(h.put id (An L j)).get id=some (An L j):=by simp (disch:=omega)only[go_sem, *]
  refine Ax (λhc=>absurd hc om) (λhc=>?_);simp (disch:=omega)only[go_sem, *];refine Ad (λhc=>?_) (λhc=>?_)
  .simp (disch:=omega)only[go_sem, *];refine Ad (λhc2=>?_) (λhc2=>?_)
   .simp (disch:=omega)only[go_sem, *];refine AJ hg1 hj hL hlo ?_;intro v2 j2 h20 h21 h22 hj2;simp (disch:=omega)only[go_sem, *];exact ⟨.fl 3 ([(⟨2,0,1+v2⟩:Node)].map Node.enc),j2,JM (x:=⟨2,0,1+v2⟩) rfl (Nat.le_refl _),Bp (Ce (FX.same hg)) hid,kk _ _ (DF.one (by simp) (by simp;omega)) (by simp;omega) hj2⟩
   .simp (disch:=omega)only[go_sem, *];refine AJ hg1 hj hL hlo ?_;intro v2 j2 h20 h21 h22 hj2;have hg2:(h.put id (An L j2)).get id=some (An L j2):=by simp (disch:=omega)only[go_sem, *]
    simp (disch:=omega)only[go_sem, *];refine AJ hg2 hj2 hL hlo ?_;intro v3 j3 h30 h31 h32 hj3;simp (disch:=omega)only[go_sem, *];exact ⟨.fl 3 ([(⟨1,v2,1+v3⟩:Node)].map Node.enc),j3,JM (x:=⟨1,v2,1+v3⟩) rfl (Nat.le_refl _),Bp (Ce (FX.same hg)) hid,kk _ _ (DF.one (by simp;omega) (by simp;omega)) (by simp;omega) hj3⟩
  .simp (disch:=omega)only[go_sem, *];refine Ad (λhc2=>?_) (λhc2=>?_)
   .simp (disch:=omega)only[go_sem, *];refine AJ hg1 hj hL hlo ?_;intro v2 j2 h20 h21 h22 hj2;simp (disch:=omega)only[go_sem, *];have hu:=Bp (k:=⟨3,[[.i .i64 4,.i .i64 0,.i .i64 (1+v2)]]⟩) (Ce (b':=An L j2) (FX.same hg)) hid;have hun:=hu.next;refine ihd om hu.here hj2 (by simp (disch:=omega)only[go_sem, *]) ?_;intro T j3 hT hTl hj3;simp (disch:=omega)only[go_sem, *];have so:Sl h.next ((h.put id (An L j2)).alloc ⟨3,[(⟨4,0,1+v2⟩:Node)].map Node.enc⟩) 3 (.sl h.next 0 1 1) ([(⟨4,0,1+v2⟩:Node)].map Node.enc):=Sl.new (Nat.le_refl _) (by simp);refine Av (so.putx id (An L j3) (by simp only [Ap];omega)) (by simp (disch:=omega)only[go_sem, *]<;>omega) (by simp (disch:=omega)only[go_sem, *]<;>omega) (by simp;omega) ?_;intro w h4 s4 g4;have hu4:=DQ (Ce (b':=An L j3) hu) hid g4 (.inr (Nat.le_refl _));simp (disch:=omega)only[go_sem, *];rw [<- List.map_append] at s4;exact ⟨.fl 3 (([(⟨4,0,1+v2⟩:Node)]++T).map Node.enc),j3,Sl.frzb s4 (λ_=>rfl) (by simp;omega),hu4,kk _ _ (DF.app (DF.one (by simp) (by simp;omega)) hT) (by simp;omega) hj3⟩
   .simp (disch:=omega)only[go_sem, *];refine AJ hg1 hj hL hlo ?_;intro v2 j2 h20 h21 h22 hj2;obtain ⟨m,rfl⟩:∃ m:Nat,v2=m:=⟨v2.toNat,om⟩
    simp (disch:=omega)only[go_sem, *];have hu:=Bp (k:=⟨3,[(⟨3,0,1+m⟩:Node)].map Node.enc⟩) (Ce (b':=An L j2) (FX.same hg)) hid;have so:Sl h.next ((h.put id (An L j2)).alloc ⟨3,[(⟨3,0,1+m⟩:Node)].map Node.enc⟩) 3 (.sl h.next 0 1 1) ([(⟨3,0,1+m⟩:Node)].map Node.enc):=Sl.new (Nat.le_refl _) (by simp);have so2:=so;simp only [List.map_cons,List.map_nil,Node.enc,An] at hu so2;refine Ai (λn' e h'=>∃ (i j:Nat) (O:List Node) (o:V),n'=m+1 - i/\h'.lim=h.lim/\e 0=.p id 0 0/\e 1=.i .i64 n/\e 2=.i .i64 (d+1)/\e 8=.i .i64 (1+m)/\e 9=o/\e 10=.i .i64 i/\i<=m+1/\j<=L.length/\FX h id (An L j) h'/\Sl h.next h' 3 o (O.map Node.enc)/\DF n O/\O.length<=1+i*5 ^ d) ?_ _ _ _ ⟨0,j2,[⟨3,0,1+m⟩],.sl h.next 0 1 1,rfl, ?_⟩
    .rintro n' e h' ⟨i,j,O,o,rfl,hl',e0,e1,e2,e8,e9,e10,hi,hj,hu,so,hO,hOl⟩ ih;have hun:=hu.next;have hgu:=hu.here;have hw:=Au so;rw [Ao bBm.eq_1];simp (disch:=omega)only[go_sem, *];refine Ad (λhc=>?_) (λhc=>?_)
     .simp (disch:=omega)only[go_sem, *];refine ihd om hu.here hj om ?_;intro T j3 hT hTl hj3;have hi5:i*5 ^ d<=3*5 ^ d:=Nat.mul_le_mul_right _ om;have hi6:(i+1)*5 ^ d=i*5 ^ d+5 ^ d:=Nat.succ_mul _ _;simp (disch:=omega)only[go_sem, *];have so3:Sl h.next (h'.put id (An L j3)) 3 o (O.map Node.enc):=by
       rcases hw with hw | hw
       .rcases so with ⟨a,b⟩ | ⟨_,_,_,_,rfl,_⟩
        .exact .inl ⟨a,b⟩
        .cases hw
       .exact so.putx _ _ om
      refine Av so3 (by simp (disch:=omega)only[go_sem, *]<;>omega) (by simp (disch:=omega)only[go_sem, *]<;>omega) (by simp;omega) ?_;intro w h4 s4 g4;have hl4:=g4.lim;have hu4:=DQ (Ce (b':=An L j3) hu) hid g4 hw;simp (disch:=omega)only[go_sem, *];refine ih _ _ _ ?_ ⟨i+1,j3,O++T,w,rfl, ?_⟩
      .omega
      .simp (disch:=omega)only[go_sem, *]
       ((repeat' refine And.intro ?_ ?_)<;>first | omega | assumption | (simpa using s4) | (exact DF.app hO hT) | ((simp;omega)))
     .have hi5:i*5 ^ d<=4*5 ^ d:=Nat.mul_le_mul_right _ om;simp (disch:=omega)only[go_sem, *];exact ⟨.fl 3 (O.map Node.enc),j,Sl.frzb so (λ_=>rfl) om,hu,kk _ _ hO om hj⟩
    .simp (disch:=omega)only[go_sem, *]
     ((repeat' refine And.intro ?_ ?_)<;>first | omega | assumption | (exact hu) | (exact so) | (exact DF.one (by simp) (by simp;omega)) | (simp))
end Go.Ab.T
namespace Go.Ab.T
open Go Go.Ab
set_option maxHeartbeats 2000000
def Ih:List AQ->Int->Int
 | [],a=>a
 | r::l,a=>Ih l (F3 a r.n)
theorem Jm {L:List AQ} (hb:∀ r∈L,r.n<=9223372036854775807):Pf tp ZU [.fl 2 (L.map AQ.enc)] (.i .i64 (Ih L 0)):=by
 refine AL aMI (by simp [Qt]) λrp=>?_;unfold Qt;simp (disch:=omega)only[go_sem, *];have hL:=rp.head.len;refine Ai (λn e h=>∃ (i:Nat) (a:Int),n=L.length - i/\h.lim=0/\e 6=.fl 2 (L.map AQ.enc)/\e 7=.i .i64 L.length/\e 8=.i .i64 i/\e 3=.i .i64 a/\i<=L.length/\a<=9223372036854775807/\Ih (L.drop i) a=Ih L 0) ?_ _ _ _ ⟨0,0,rfl, ?_⟩
 .rintro n e h ⟨i,a,rfl,hl,e6,e7,e8,e3,hi,ha,hz⟩ ih;rw [Ao aSJ.eq_1];simp (disch:=omega)only[go_sem, *];refine Ad (λhc=>?_) (λhc=>?_)
  .rw [AN om,Ih] at hz;have hx:=hb _ (Az (L:=L) (j:=i) om);have ha2:=Fi (a:=a) (b:=(nth L i).n);simp (disch:=omega)only[go_sem, *];refine Pf.go (eJ (a:=a) (b:=(nth L i).n) ha hx) (by simp only [go_sem]) λ_=>?_;simp (disch:=omega)only[go_sem, *];refine ih _ _ _ ?_ ⟨i+1,F3 a (nth L i).n,rfl, ?_⟩
   .omega
   .simp (disch:=omega)only[go_sem, *]
    ((repeat' refine And.intro ?_ ?_)<;>first | omega | assumption)
  .rw [List.drop_eq_nil_of_le om,Ih] at hz;simp (disch:=omega)only[go_sem, *]
 .simp (disch:=omega)only[go_sem, *]
theorem Ug {L:List AQ} (hf:Iq L):∀ r∈L,r.n<=9223372036854775807:=by
 obtain ⟨h1,h2⟩:=hf
 induction L with
 | nil=>intro r hr;cases hr
 | cons a l ih=>
  intro r hr;have hp:=B7 (w:=l) (λx hx=>h1 x (List.mem_cons_of_mem _ hx));have ha:=h1 a (List.mem_cons_self ..);simp only [AB] at h2;rcases List.mem_cons.1 hr with rfl | hr
  .omega
  .exact ih (λx hx=>h1 x (List.mem_cons_of_mem _ hx)) om r hr
theorem Zq {n : Int} {L : List Int} {id : Nat} (hn : 1 <= n) (hn6 : n <= 6) (hL : L.length < 4000000000) {h : AH} {k : Nat} {K : V -> AH -> Prop} (hg : h.get id = some (An L k)) (hk : k <= L.length) (hlo : h.lim <= id)
    (kk:∀ T j,DA n T->T.length<=625->j<=L.length->K (.fl 3 (T.map Node.enc)) (h.put id (An L j))):Cq tp Um [.p id 0 0,.i .i64 n] h K:=by
 refine Ft aMk (by simp [P6]) hg λhlm hid rp=>?_;unfold P6;simp (disch:=omega)only[go_sem, *];refine WW hn om hL 4 om hg hk hlo ?_;intro T j hT hTl hj;have hg1:(h.put id (An L j)).get id=some (An L j):=by simp (disch:=omega)only[go_sem, *]
 have hf:=JL (L:=T);have lit:∀ v2 j2 x,0<=v2->v2<n->j2<=L.length->x=h.next->∃ R j3,CY (h.next<=·) ((h.put id (An L j2)).alloc ⟨3,[[.i .i64 3,.i .i64 0,.i .i64 2],[.i .i64 1,.i .i64 v2,.i .i64 3],[.i .i64 2,.i .i64 0,.i .i64 2]]⟩) h.next (.sl x 0 3 3) R/\FX h id (An L j3) ((h.put id (An L j2)).alloc ⟨3,[[.i .i64 3,.i .i64 0,.i .i64 2],[.i .i64 1,.i .i64 v2,.i .i64 3],[.i .i64 2,.i .i64 0,.i .i64 2]]⟩)/\K R (h.put id (An L j3)):=by
  rintro v2 j2 x h0 h1 h2 rfl;have s0:Sl h.next ((h.put id (An L j2)).alloc ⟨3,(II v2).map Node.enc⟩) 3 (.sl h.next 0 3 3) ((II v2).map Node.enc):=Sl.new (Nat.le_refl _) (by simp [II]);exact ⟨_,j2,Sl.frzb s0 (λ_=>rfl) (by simp [II]),Bp (Ce (FX.same hg)) hid,kk _ j2 (aNy hn hn6 h0 h1) (by simp [II]) h2⟩
 simp only [An] at lit;simp (disch:=omega)only[go_sem, *];refine Pf.go (KN) (by simp only [go_sem]) λ_=>?_;simp (disch:=omega)only[go_sem, *]
 repeat' (first | (refine Ax (λhc=>?_) (λhc=>?_)<;>simp (disch:=omega)only[go_sem, *]) | (refine Ad (λhc=>?_) (λhc=>?_)<;>simp (disch:=omega)only[go_sem, *]) | (refine CQ (λhc=>?_) (λhc=>?_)<;>simp (disch:=omega)only[go_sem, *]) | (refine Bv (λhc=>?_) (λhc=>?_)<;>simp (disch:=omega)only[go_sem, *]) | (refine Pf.go (Jm (Ug hf)) (by simp only [go_sem]) λ_=>?_;simp (disch:=omega)only[go_sem, *]))
 all_goals first
  | (refine AJ hg1 hj hL hlo ?_;intro v2 j2 h20 h21 h22 hj2;(have h23:v2<n:=by omega);simp (disch:=omega)only[go_sem, *])
  | (have h0 : (FY T).2 = 0 := by omega
     exact ⟨_,j,.fl _ _ _,Ce (FX.same hg),kk T j (DA.of hn h0 hT) om hj⟩)
end Go.Ab.T
namespace Go.Ab.T
open Go Go.Ab
set_option maxHeartbeats 2000000
@[go_sem] def RT.enc (r:List AQ):List V:=[.fl 2 (r.map AQ.enc)]
theorem Sl.sameV {b sz:Nat} {h:AH} {v:V} {R:List (List V)} (s:Sl b h sz v R):BL v v=true:=by
 rcases s with ⟨hv,_⟩ | ⟨i,el,cap,cs,rfl,_⟩
 .rcases hv with rfl | rfl<;>rfl
 .exact Go.Ab.sameVa_sl
structure Ask (b id:Nat) (L:List Int) (vp vc:V) (T:List (List Node)) (h h':AH) (P:List Part) (Ch:List AU) (j:Nat):Prop where
 next:h.next+2<=h'.next
 lim:h'.lim=h.lim
 tape:h'.get id=some (An L j)
 jl:j<=L.length
 box:h'.get h.next=some ⟨3,[[vp,vc,.fl 1 (T.map Tab.enc)]]⟩
 res:h'.get (h.next+1)=some ⟨3,[[.ns,.ns,.ns]]⟩
 low:∀ i,i<b->i≠id->h'.get i=h.get i
 sp:Sl b h' 11 vp (P.map Part.enc)
 sc:Sl b h' 6 vc (Ch.map AU.enc)
 pl:AA vp=true\/Ap vp<h.next
 cl:AA vc=true\/Ap vc<h.next
 dj:AA vp=true\/AA vc=true\/Ap vp≠Ap vc
theorem AC {b sz:Nat} {h:AH} {v:V} {R:List (List V)} (s:Sl b h sz v R) (i:Nat) (k:BJ) (hi:AA v=true\/i≠Ap v):Sl b (h.put i k) sz v R:=by
 rcases hi with hi | hi
 .rcases s with ⟨a,c⟩ | ⟨_,_,_,_,rfl,_⟩
  .exact .inl ⟨a,c⟩
  .cases hi
 .exact s.putx _ _ hi
section
variable {b id:Nat} {L:List Int} {vp vc:V} {T:List (List Node)} {h h':AH} {P:List Part} {Ch:List AU} {j:Nat}
theorem Ask.ext {h2:AH} (a:Ask b id L vp vc T h h' P Ch j) (hb:b<=h.next) (hid:id<b) (x:Ak h' h2):Ask b id L vp vc T h h2 P Ch j:=by
 have n1:=a.next;have n2:=x.next;exact ⟨om,x.lim.trans a.lim,(x.get _ om).trans a.tape,a.jl,(x.get _ om).trans a.box,(x.get _ om).trans a.res,λi hi hn=>(x.get i om).trans (a.low i hi hn),a.sp.ext x,a.sc.ext x,a.pl,a.cl,a.dj⟩
theorem Ask.tape2 {j2:Nat} (a:Ask b id L vp vc T h h' P Ch j) (hb:b<=h.next) (hid:id<b) (hj:j2<=L.length):Ask b id L vp vc T h (h'.put id (An L j2)) P Ch j2:=by
 have n1:=a.next;refine ⟨n1,a.lim,by rw [Ae,Ar rfl],hj,by rw [Ae,Af om];exact a.box,by rw [Ae,Af om];exact a.res,λi hi hn=>by rw [Ae,Af hn];exact a.low i hi hn,AC a.sp _ _ ?_,AC a.sc _ _ ?_,a.pl,a.cl,a.dj⟩
 .exact (Au a.sp).imp (λx=>x) (λx=>by omega)
 .exact (Au a.sc).imp (λx=>x) (λx=>by omega)
theorem Ask.chan {i:Nat} (x:AU) (a:Ask b id L vp vc T h h' P Ch j) (hid:id<b) (hi:i<Ch.length):Ask b id L vp vc T h (h'.put (Ap vc) ⟨6,(AP h' vc).set (Ca vc+i) x.enc⟩) P (Ch.set i x) j:=by
 obtain ⟨_,_,lt,lo,_⟩:=a.sc.facts;have hnil:AA vc=false:=by
  rcases a.sc with ⟨_,hR⟩ | ⟨_,_,_,_,rfl,_⟩
  .have:Ch=[]:=by simpa using hR
   subst this;simp at hi
  .rfl
 have l1:=lo om;have l2:Ap vc<h.next:=by rcases a.cl with q | q;(rw [q] at hnil;cases hnil);exact q
 have l3:AA vp=true\/Ap vp≠Ap vc:=by
  rcases a.dj with q | q | q
  .exact .inl q
  .rw [q] at hnil;cases hnil
  .exact .inr q
 refine ⟨a.next,a.lim,by rw [Ae,Af om];exact a.tape,a.jl,by rw [Ae,Af om];exact a.box,by rw [Ae,Af om];exact a.res,λi hi hn=>by rw [Ae,Af om];exact a.low i hi hn,AC a.sp _ _ (l3.imp (λx=>x) (λx=>Ne.symm x)), ?_,a.pl,a.cl,a.dj⟩;exact Sl.setT a.sc hi (Nat.le_refl _) (by rw [Ae,Ar rfl])
theorem Ask.part {i:Nat} (x:Part) (a:Ask b id L vp vc T h h' P Ch j) (hid:id<b) (hi:i<P.length):Ask b id L vp vc T h (h'.put (Ap vp) ⟨11,(AP h' vp).set (Ca vp+i) x.enc⟩) (P.set i x) Ch j:=by
 obtain ⟨_,_,lt,lo,_⟩:=a.sp.facts;have hnil:AA vp=false:=by
  rcases a.sp with ⟨_,hR⟩ | ⟨_,_,_,_,rfl,_⟩
  .have:P=[]:=by simpa using hR
   subst this;simp at hi
  .rfl
 have l1:=lo om;have l2:Ap vp<h.next:=by rcases a.pl with q | q;(rw [q] at hnil;cases hnil);exact q
 have l3:AA vc=true\/Ap vc≠Ap vp:=by
  rcases a.dj with q | q | q
  .rw [q] at hnil;cases hnil
  .exact .inl q
  .exact .inr (Ne.symm q)
 refine ⟨a.next,a.lim,by rw [Ae,Af om];exact a.tape,a.jl,by rw [Ae,Af om];exact a.box,by rw [Ae,Af om];exact a.res,λi hi hn=>by rw [Ae,Af om];exact a.low i hi hn, ?_,AC a.sc _ _ (l3.imp (λx=>x) (λx=>Ne.symm x)),a.pl,a.cl,a.dj⟩;exact Sl.setT a.sp hi (Nat.le_refl _) (by rw [Ae,Ar rfl])
end
theorem aLE {tp : TP} {c : TC} {K : Ex -> Env -> AH -> Prop} {e : Env} {h : AH} (live : List Nat) (t0 id : Nat) (w : V) (ht : t0 ∈ live) (hw : CY (· = id) h h.next (e t0) w)
    (hv:∀ t,t∈live->t≠t0->CY (·=id) h h.next (e t) (e t)) (z:∀ e2,e2 t0=w->(∀ t,t∈live->t≠t0->e2 t=e t)->ZC tp (.loop c) e2 (h.kill id) K):ZC tp (.loop c) e h K:=by
 refine T6 (T0 (h2:=h.kill id) (·=id) live (λt=>if t=t0 then w else e t) (λwf=>⟨rfl,rfl,λi k hk=>?_,λt hl=>?_⟩)) (z _ ?_ ?_)
 .rw [B6] at hk
  by_cases hd:i=id
  .rw [Ar hd] at hk;cases hk
  .rw [Af hd] at hk;exact ⟨(wf.2 i k hk).1,hd,k.cs,hk,(wf.2 i k hk).2 _ _⟩
 .by_cases e0:t=t0
  .subst e0;simpa [Es] using hw
  .simpa [e0,Es] using hv t hl e0
 .simp [ht]
 .intro t hl hn;simp [hl,hn]
theorem aAE {tp:TP} {f:Nat} {args args':List V} {h:AH} {K:V->AH->Prop} (id:Nat) (hz:Cr (·=id) h h.next args args') (z:Cq tp f args' (h.kill id) K):Cq tp f args h K:=by
 intro S m hc args1 c p;have wf:=c.wf;have st:∀ r R,CY (·=id) h h.next r R->C1 h h r (·=id) R (h.kill id):=λr R f=>⟨Nat.le_refl _,rfl,Nat.le_refl _,λi k hk=>by
  rw [B6] at hk
  by_cases hd:i=id
  .rw [Ar hd] at hk;cases hk
  .rw [Af hd] at hk;exact ⟨(wf.2 i k hk).1,hd,k.cs,hk,(wf.2 i k hk).2 _ _⟩,f⟩
 obtain ⟨q1,q2,_⟩:=(st .u .u (.z _ _ .u)).ok c c (E6.refl c) (.u _ .u);refine (z _ m hc args1 q1 (Cr.ok c hz p)).imp ?_;rintro r1 hc' ⟨r,h',S',m',c',a',q,k⟩;exact ⟨r,h',S',m',c',q2.trans a',q,k⟩
end Go.Ab.T
namespace Go.Ab.T
open Go Go.Ab
set_option maxHeartbeats 2000000
section
variable {b id:Nat} {L:List Int} {vp vc w:V} {T:List (List Node)} {R:List (List AQ)} {h h':AH} {P:List Part} {Ch:List AU} {j:Nat}
def Wst (R:List (List AQ)) (f t W:Int):Prop:=-1<=W/\W<=4096/\(0<=W->∀ r∈R,0<=DB r f t/\DB r f t<=W)
theorem Wst.neg {R:List (List AQ)} {f t:Int}:Wst R f t (-1):=⟨om,om,λh=>absurd h om⟩
theorem Wst.step {R:List (List AQ)} {r:List AQ} {f t W:Int} (h:Wst R f t W) (h0:0<=W) (hl:0<=DB r f t) (hl2:DB r f t<=4096):Wst (R++[r]) f t (max W (DB r f t)):=by
 obtain ⟨a,c,d⟩:=h;refine ⟨om,om,λ_ x hx=>?_⟩;rcases List.mem_append.1 hx with hx | hx
 .have:=d h0 x hx;omega
 .rw [List.mem_singleton] at hx;subst hx;omega
theorem Db {α:Type} [Inhabited α] {L:List α} {i:Nat} (hi:i<L.length):L.take (i+1)=L.take i++[nth L i]:=by
 rw [List.take_add_one,Dq hi];rfl
theorem Vq {K : Ex -> Env -> AH -> Prop} {i m : Nat} {e : Env} (a : Ask b id L vp vc T h h' P Ch j) (hi : i < Ch.length) (sl : Sl m h' 1 w (R.map RT.enc)) (hR : ∀ r ∈ R, Iq r)
    (e0:e 0=.p id 0 0) (e3:e 3=.p h.next 0 0) (e4:e 4=.p (h.next+1) 0 0) (e5:e 5=w) (e10:e 10=.i .i64 i) (e11:e 11=.i .i64 0) (e40:e 40=vc) (e41:e 41=.i .i64 Ch.length) (e42:e 42=.i .i64 i) (e45:e 45=w) (e46:e 46=.i .i64 R.length) (e47:e 47=.i .i64 0)
    (kk:∀ e' W,e' 0=.p id 0 0->e' 3=.p h.next 0 0->e' 4=.p (h.next+1) 0 0->e' 5=w->e' 10=.i .i64 i->e' 11=.i .i64 W->e' 40=vc->e' 41=.i .i64 Ch.length->e' 42=.i .i64 i->Wst R (nth Ch i).src (nth Ch i).dst W->K (.ex 4) e' h'):ZC tp (.loop aHi) e h' K:=by
 obtain ⟨clen,cbig,clt,E9,cget,cat,crow,ccell,ccells⟩:=a.sc.facts;obtain ⟨wlen,wbig,wlt,wlo,wget,JC,wrow,wcell,wcells⟩:=sl.facts;have hbox:=a.box;have hsv:=Sl.sameV a.sc;refine Ai (λn e hh=>∃ (q:Nat) (W:Int),n=R.length - q/\hh=h'/\e 0=.p id 0 0/\e 3=.p h.next 0 0/\e 4=.p (h.next+1) 0 0/\e 5=w/\e 10=.i .i64 i/\e 11=.i .i64 W/\e 40=vc/\e 41=.i .i64 Ch.length/\e 42=.i .i64 i/\e 45=w/\e 46=.i .i64 R.length/\e 47=.i .i64 q/\q<=R.length/\Wst (R.take q) (nth Ch i).src (nth Ch i).dst W) ?_ _ _ _ ⟨0,0,rfl,rfl,e0,e3,e4,e5,e10,e11,e40,e41,e42,e45,e46,e47,om,om,om,λ_ r hr=>by simp at hr⟩;clear e0 e3 e4 e5 e10 e11 e40 e41 e42 e45 e46 e47 e;rintro n e hh ⟨q,W,rfl,rfl,e0,e3,e4,e5,e10,e11,e40,e41,e42,e45,e46,e47,hq,hW⟩ ih;rw [Ao aHi.eq_1];simp (disch:=omega)only[go_sem, *];refine Ad (λhc=>?_) (λhc=>?_)
 .have hf:=hR _ (Az (L:=R) (j:=q) om);have hl1:=bI (f:=(nth Ch i).src) (t:=(nth Ch i).dst) hf;have hl2:=F7 (nth R q) (nth Ch i).src (nth Ch i).dst;have hts:=Db (L:=R) (i:=q) om;have hstep:=λh0 h1=>hW.step (r:=nth R q) h0 h1 hl1;rw [<- hts] at hstep;clear hts;simp (disch:=omega)only[go_sem, *];refine Pf.go (KM hf) (by simp only [go_sem]) λ_=>?_;simp (disch:=omega)only[go_sem, *]
  repeat' (first | (refine Ax (λhc=>?_) (λhc=>?_)<;>simp (disch:=omega)only[go_sem, *]) | (refine Ad (λhc=>?_) (λhc=>?_)<;>simp (disch:=omega)only[go_sem, *]))
  .refine ih _ _ _ ?_ ⟨q+1,-1,rfl, ?_⟩
   .omega
   .simp (disch:=omega)only[go_sem, *]
    ((repeat' refine And.intro ?_ ?_)<;>first | omega | assumption | (exact Wst.neg))
  .refine ih _ _ _ ?_ ⟨q+1,-1,rfl, ?_⟩
   .omega
   .simp (disch:=omega)only[go_sem, *]
    ((repeat' refine And.intro ?_ ?_)<;>first | omega | assumption | (exact Wst.neg))
  .refine ih _ _ _ ?_ ⟨q+1,max W (DB (nth R q) (nth Ch i).src (nth Ch i).dst),rfl, ?_⟩
   .omega
   .simp (disch:=omega)only[go_sem, *]
    ((repeat' refine And.intro ?_ ?_)<;>first | omega | assumption | (exact hstep om om))
 .have eq:q=R.length:=by omega
  subst eq;rw [List.take_length] at hW;simp (disch:=omega)only[go_sem, *];exact kk _ W e0 e3 e4 e5 e10 e11 e40 e41 e42 hW
def I9 (x:AU):Prop:=0<=x.top/\x.top<=4294967295
def CO (n:Int) (R:List (List AQ)) (x:AU):Prop:=C9 n x=true/\(∀ r∈R,Cl r x=false)/\I9 x
theorem CO.late {n:Int} {x:AU} {W t:Int} (c:CO n R x) (hW:Wst R x.src x.dst W) (h0:0<W) (ht:0<=t):CO n R { x with late:=min (W+t) 4096 }:=by
 obtain ⟨w1,w2,w3⟩:=hW;refine ⟨?_,λr hr=>?_,c.2.2⟩
 .have:=c.1;unfold C9 at this ⊢;simp only [Bool.and_eq_true,decide_eq_true_eq] at this ⊢;exact ⟨om,this.2⟩
 .have:=w3 om r hr;unfold Cl;simp only [decide_eq_false_iff_not];omega
theorem tQ {α:Type} {l:List α} {i:Nat} {a:α} {p:α->Prop} (h:∀ x∈l,p x) (ha:p a):∀ x∈l.set i a,p x:=λx hx=>by
 rcases List.mem_or_eq_of_mem_set hx with h1 | h1
 .exact h x h1
 .rw [h1];exact ha
theorem oS {K : Ex -> Env -> AH -> Prop} {n : Int} {e : Env} (hb : b <= h.next) (hid : id < b) (hlo : h.lim <= id) (hL : L.length < 4000000000) (hR : ∀ r ∈ R, Iq r) (a : Ask b id L vp vc T h h' P Ch j) (sl : Sl (h.next + 2) h' 1 w (R.map RT.enc)) (hC : ∀ x ∈ Ch, CO n R x)
    (e0:e 0=.p id 0 0) (e3:e 3=.p h.next 0 0) (e4:e 4=.p (h.next+1) 0 0) (e5:e 5=w) (e40:e 40=vc) (e41:e 41=.i .i64 Ch.length) (e42:e 42=.i .i64 0)
    (kk:∀ e' h' Ch' j,e' 0=.p id 0 0->e' 3=.p h.next 0 0->e' 4=.p (h.next+1) 0 0->e' 5=w->Ask b id L vp vc T h h' P Ch' j->Sl (h.next+2) h' 1 w (R.map RT.enc)->(∀ x∈Ch',CO n R x)->Ch'.length=Ch.length->K (.ex 2) e' h'):ZC tp (.loop aHm) e h' K:=by
 refine Ai (λn' e hh=>∃ (q:Nat) (Ch':List AU) (j:Nat),n'=Ch.length - q/\e 0=.p id 0 0/\e 3=.p h.next 0 0/\e 4=.p (h.next+1) 0 0/\e 5=w/\e 40=vc/\e 41=.i .i64 Ch.length/\e 42=.i .i64 q/\q<=Ch.length/\Ch'.length=Ch.length/\Ask b id L vp vc T h hh P Ch' j/\Sl (h.next+2) hh 1 w (R.map RT.enc)/\(∀ x∈Ch',CO n R x)) ?_ _ _ _ ⟨0,Ch,j,rfl,e0,e3,e4,e5,e40,e41,e42,om,rfl,a,sl,hC⟩;clear e0 e3 e4 e5 e40 e41 e42 e a sl hC;rintro n' e hh ⟨q,Ch',j,rfl,e0,e3,e4,e5,e40,e41,e42,hq,hlen,a,sl,hC⟩ ih;obtain ⟨clen,cbig,clt,E9,cget,cat,crow,ccell,ccells⟩:=a.sc.facts;obtain ⟨wlen,wbig,wlt,wlo,wget,JC,wrow,wcell,wcells⟩:=sl.facts;have hbox:=a.box;rw [Ao aHm.eq_1];rw [<- hlen] at e41;simp (disch:=omega)only[go_sem, *];refine Ad (λhc=>?_) (λhc=>?_)
 .simp (disch:=omega)only[go_sem, *];refine Vq (i:=q) a om sl hR (by simp (disch:=omega)only[go_sem, *]) (by simp (disch:=omega)only[go_sem, *]) (by simp (disch:=omega)only[go_sem, *]) (by simp (disch:=omega)only[go_sem, *]) (by simp (disch:=omega)only[go_sem, *]) (by simp (disch:=omega)only[go_sem, *]) (by simp (disch:=omega)only[go_sem, *]) (by simp (disch:=omega)only[go_sem, *]) (by simp (disch:=omega)only[go_sem, *]) (by simp (disch:=omega)only[go_sem, *]) (by simp (disch:=omega)only[go_sem, *]) (by simp (disch:=omega)only[go_sem, *]) ?_;clear e0 e3 e4 e5 e40 e41 e42;intro e' W e0 e3 e4 e5 e10 e11 e40 e41 e42 hW;simp (disch:=omega)only[go_sem, *];refine Ax (λhw=>?_) (λhw=>?_)
  .simp (disch:=omega)only[go_sem, *];refine AJ a.tape a.jl hL (by have:=a.lim;omega) ?_;intro v j2 h0 h1 h2 hj2;have a2:=a.tape2 hb hid hj2;have sl2:Sl (h.next+2) (hh.put id (An L j2)) 1 w (R.map RT.enc):=AC sl _ _ ((Au sl).imp (λx=>x) (λx=>by omega));generalize hh.put id (An L j2)=h2 at a2 sl2 ⊢;clear clen cbig clt E9 cget cat crow ccell ccells wlen wbig wlt wlo wget JC wrow wcell wcells hbox sl;obtain ⟨clen,cbig,clt,E9,cget,cat,crow,ccell,ccells⟩:=a2.sc.facts;have hbox:=a2.box;simp (disch:=omega)only[go_sem, *];refine Ad (λhc3=>?_) (λhc3=>?_)
   .have hsv:=Sl.sameV a2.sc;simp (disch:=omega)only[go_sem, *];refine AJ a2.tape a2.jl hL (by have:=a2.lim;simp (disch:=omega)only[go_sem, *]<;>omega) ?_;intro v2 j3 h20 h21 h22 hj3;have a3:=a2.tape2 hb hid hj3;have sl3:Sl (h.next+2) (h2.put id (An L j3)) 1 w (R.map RT.enc):=AC sl2 _ _ ((Au sl2).imp (λx=>x) (λx=>by omega));generalize h2.put id (An L j3)=h3 at a3 sl3 ⊢;clear clen cbig clt E9 cget cat crow ccell ccells hbox sl2 a2;obtain ⟨clen,cbig,clt,E9,cget,cat,crow,ccell,ccells⟩:=a3.sc.facts;have hbox:=a3.box;have hlm:=a3.lim;have hW2:W<=4096:=hW.2.1;have hne:Ap vc≠h.next:=by
     rcases a3.cl with q | q
     .rcases a3.sc with ⟨_,hR⟩ | ⟨_,_,_,_,rfl,_⟩
      .have:Ch'=[]:=by simpa using hR
       subst this;simp at hlen;omega
      .cases q
     .omega
    have a4:=a3.chan (i:=q) { nth Ch' q with late:=min (W+v2) 4096 } hid om;have hC4:=tQ (i:=q) hC (CO.late (hC _ (Az (L:=Ch') (j:=q) om)) hW hw h20);have sl4:Sl (h.next+2) (h3.put (Ap vc) ⟨6,(AP h3 vc).set (Ca vc+q) ({ nth Ch' q with late:=min (W+v2) 4096 }:AU).enc⟩) 1 w (R.map RT.enc):=AC sl3 _ _ ((Au sl3).imp (λx=>x) (λx=>by have:=a3.cl;rcases this with q | q;(rcases a3.sc with ⟨_,hR⟩ | ⟨_,_,_,_,rfl,_⟩;(have:Ch'=[]:=by simpa using hR);(subst this;simp at hlen;omega);cases q);omega));simp only [AU.enc] at a4 sl4;have hcl:(Ch'.set q { nth Ch' q with late:=min (W+v2) 4096 }).length=Ch.length:=by simp [hlen]
    clear a3 sl3 hC;simp (disch:=omega)only[go_sem, *];refine ih _ _ _ ?_ ⟨q+1,Ch'.set q { nth Ch' q with late:=min (W+v2) 4096 },j3,rfl, ?_⟩
    .omega
    .simp (disch:=omega)only[go_sem, *]
     ((repeat' refine And.intro ?_ ?_)<;>first | omega | assumption | (exact a4) | (exact sl4) | (exact hC4))
   .simp (disch:=omega)only[go_sem, *];refine ih _ _ _ ?_ ⟨q+1,Ch',j2,rfl, ?_⟩
    .omega
    .simp (disch:=omega)only[go_sem, *]
     ((repeat' refine And.intro ?_ ?_)<;>first | omega | assumption | (exact a2) | (exact sl2) | (exact hC))
  .simp (disch:=omega)only[go_sem, *];refine ih _ _ _ ?_ ⟨q+1,Ch',j,rfl, ?_⟩
   .omega
   .simp (disch:=omega)only[go_sem, *]
    ((repeat' refine And.intro ?_ ?_)<;>first | omega | assumption | (exact a) | (exact sl) | (exact hC))
 .simp (disch:=omega)only[go_sem, *];exact kk _ hh Ch' j e0 e3 e4 e5 a sl hC hlen
end
end Go.Ab.T
namespace Go.Ab.T
open Go Go.Ab
set_option maxHeartbeats 2000000
section
variable {b id:Nat} {L:List Int} {vp vc w:V} {T:List (List Node)} {R:List (List AQ)} {h h':AH} {P:List Part} {Ch:List AU} {j:Nat}
theorem Yy {K : Ex -> Env -> AH -> Prop} {pr k : Int} {e : Env} (h0 : 0 <= pr) (h1 : pr <= 9223372036854775807) (hk : k <= 5) (e0 : e 0 = .p id 0 0) (e3 : e 3 = .p h.next 0 0) (e4 : e 4 = .p (h.next + 1) 0 0) (e5 : e 5 = w) (e15 : e 15 = .i .i64 pr) (e16 : e 16 = .i .i64 k)
    (kk:∀ e' pr,e' 0=.p id 0 0->e' 3=.p h.next 0 0->e' 4=.p (h.next+1) 0 0->e' 5=w->e' 15=.i .i64 pr->K (.ex 6) e' h'):ZC tp (.loop aND) e h' K:=by
 refine Ai (λn e hh=>∃ (k:Int),n=k.toNat/\hh=h'/\e 0=.p id 0 0/\e 3=.p h.next 0 0/\e 4=.p (h.next+1) 0 0/\e 5=w/\e 15=.i .i64 pr/\e 16=.i .i64 k/\k<=5) ?_ _ _ _ ⟨k,rfl,rfl,e0,e3,e4,e5,e15,e16,hk⟩;clear e0 e3 e4 e5 e15 e16 e hk;rintro n e hh ⟨k,rfl,rfl,e0,e3,e4,e5,e15,e16,hk⟩ ih;rw [Ao aND.eq_1];simp (disch:=omega)only[go_sem, *];refine Ad (λhc=>?_) (λhc=>?_)
 .simp (disch:=omega)only[go_sem, *];refine Ad (λhc2=>?_) (λhc2=>?_)
  .simp (disch:=omega)only[go_sem, *];exact kk _ (IntKind.i64.wrap (pr.tdiv k)) (by simp (disch:=omega)only[go_sem, *]) (by simp (disch:=omega)only[go_sem, *]) (by simp (disch:=omega)only[go_sem, *]) (by simp (disch:=omega)only[go_sem, *]) (by simp (disch:=omega)only[go_sem, *])
  .simp (disch:=omega)only[go_sem, *];refine ih _ _ _ ?_ ⟨k - 1,rfl, ?_⟩
   .omega
   .simp (disch:=omega)only[go_sem, *]
    ((repeat' refine And.intro ?_ ?_)<;>first | omega | assumption | (skip))
 .simp (disch:=omega)only[go_sem, *];exact kk _ pr e0 e3 e4 e5 e15
theorem oQ {K : Ex -> Env -> AH -> Prop} {i m : Nat} {pr N : Int} {e : Env} (sl : Sl m h' 1 w (R.map RT.enc)) (hR : ∀ r ∈ R, Iq r)
    (e0:e 0=.p id 0 0) (e3:e 3=.p h.next 0 0) (e4:e 4=.p (h.next+1) 0 0) (e5:e 5=w) (e15:e 15=.i .i64 pr) (e17:e 17=.i .i64 i) (e18:e 18=.i .i64 4096) (e113:e 113=.i .i64 N) (e114:e 114=.i .i64 i) (e117:e 117=w) (e118:e 118=.i .i64 R.length) (e119:e 119=.i .i64 0)
    (kk:∀ e' W,W<=4096->e' 0=.p id 0 0->e' 3=.p h.next 0 0->e' 4=.p (h.next+1) 0 0->e' 5=w->e' 15=.i .i64 pr->e' 17=.i .i64 i->e' 18=.i .i64 W->e' 113=.i .i64 N->e' 114=.i .i64 i->K (.ex 10) e' h'):ZC tp (.loop aOs) e h' K:=by
 obtain ⟨wlen,wbig,wlt,wlo,wget,JC,wrow,wcell,wcells⟩:=sl.facts;refine Ai (λn e hh=>∃ (q:Nat) (W:Int),n=R.length - q/\hh=h'/\W<=4096/\e 0=.p id 0 0/\e 3=.p h.next 0 0/\e 4=.p (h.next+1) 0 0/\e 5=w/\e 15=.i .i64 pr/\e 17=.i .i64 i/\e 18=.i .i64 W/\e 113=.i .i64 N/\e 114=.i .i64 i/\e 117=w/\e 118=.i .i64 R.length/\e 119=.i .i64 q/\q<=R.length) ?_ _ _ _ ⟨0,4096,rfl,rfl,om,e0,e3,e4,e5,e15,e17,e18,e113,e114,e117,e118,e119,om⟩;clear e0 e3 e4 e5 e15 e17 e18 e113 e114 e117 e118 e119 e;rintro n e hh ⟨q,W,rfl,rfl,hW,e0,e3,e4,e5,e15,e17,e18,e113,e114,e117,e118,e119,hq⟩ ih;rw [Ao aOs.eq_1];simp (disch:=omega)only[go_sem, *];refine Ad (λhc=>?_) (λhc=>?_)
 .have hf:=hR _ (Az (L:=R) (j:=q) om);simp (disch:=omega)only[go_sem, *];refine Pf.go (H1 (p:=i) (P:=pr) hf) (by simp only [go_sem]) λ_=>?_;simp (disch:=omega)only[go_sem, *];refine ih _ _ _ ?_ ⟨q+1,min W (HD (nth R q) i pr),rfl, ?_⟩
  .omega
  .simp (disch:=omega)only[go_sem, *]
   ((repeat' refine And.intro ?_ ?_)<;>first | omega | assumption | (skip))
 .simp (disch:=omega)only[go_sem, *];exact kk _ W hW e0 e3 e4 e5 e15 e17 e18 e113 e114
def z0 (p:Part):Part:={ p with budget:=0,period:=0 }
theorem iR {A B:List Part} {i:Nat} {x:Part} (h:A.map z0=B.map z0) (hi:i<A.length) (hx:z0 x=z0 (nth A i)):(A.set i x).map z0=B.map z0:=by
 rw [List.map_set,hx,<-h];apply List.ext_getElem
 .simp
 .intro k h1 h2;simp only [List.length_map] at h2
  by_cases e:i=k
  .subst e;simp [Ba hi]
  .rw [List.getElem_set_ne e]
theorem aOr {A:List Part} {q:Nat} (hq:q<A.length) (h:∀ k,k<q->nth A k=z0 (nth A k)):∀ k,k<q+1->nth (A.set q (z0 (nth A q))) k=z0 (nth (A.set q (z0 (nth A q))) k):=by
 intro k hk;rw [Ba (by simp;omega),List.getElem_set];split
 .rfl
 .have:=h k om;rw [Ba om] at this;exact this
theorem oU {K : Ex -> Env -> AH -> Prop} {pr : Int} {e : Env} (hb : b <= h.next) (hid : id < b) (hlo : h.lim <= id) (hL : L.length < 4000000000) (hR : ∀ r ∈ R, Iq r) (a : Ask b id L vp vc T h h' P Ch j) (sl : Sl (h.next + 2) h' 1 w (R.map RT.enc))
    (e0:e 0=.p id 0 0) (e3:e 3=.p h.next 0 0) (e4:e 4=.p (h.next+1) 0 0) (e5:e 5=w) (e15:e 15=.i .i64 pr) (e113:e 113=.i .i64 P.length) (e114:e 114=.i .i64 0)
    (kk:∀ e' h' P' j,e' 0=.p id 0 0->e' 3=.p h.next 0 0->e' 4=.p (h.next+1) 0 0->Ask b id L vp vc T h h' P' Ch j->P'.map z0=P.map z0->K (.ex 8) e' h'):ZC tp (.loop aOt) e h' K:=by
 refine Ai (λn' e hh=>∃ (q:Nat) (P':List Part) (j:Nat),n'=P.length - q/\e 0=.p id 0 0/\e 3=.p h.next 0 0/\e 4=.p (h.next+1) 0 0/\e 5=w/\e 15=.i .i64 pr/\e 113=.i .i64 P.length/\e 114=.i .i64 q/\q<=P.length/\Ask b id L vp vc T h hh P' Ch j/\Sl (h.next+2) hh 1 w (R.map RT.enc)/\P'.map z0=P.map z0) ?_ _ _ _ ⟨0,P,j,rfl,e0,e3,e4,e5,e15,e113,e114,om,a,sl,rfl⟩;clear e0 e3 e4 e5 e15 e113 e114 e a sl;rintro n' e hh ⟨q,P',j,rfl,e0,e3,e4,e5,e15,e113,e114,hq,a,sl,hz⟩ ih;have hlen:=congrArg List.length hz;simp only [List.length_map] at hlen;obtain ⟨plen,pbig,plt,plo,pget,pat,prow,pcell,pcells⟩:=a.sp.facts;obtain ⟨wlen,wbig,wlt,wlo,wget,JC,wrow,wcell,wcells⟩:=sl.facts;have hbox:=a.box;rw [Ao aOt.eq_1];rw [<- hlen] at e113;simp (disch:=omega)only[go_sem, *];refine Ad (λhc=>?_) (λhc=>?_)
 .simp (disch:=omega)only[go_sem, *];refine oQ (h:=h) (id:=id) (i:=q) (pr:=pr) (N:=P'.length) sl hR (by simp (disch:=omega)only[go_sem, *]) (by simp (disch:=omega)only[go_sem, *]) (by simp (disch:=omega)only[go_sem, *]) (by simp (disch:=omega)only[go_sem, *]) (by simp (disch:=omega)only[go_sem, *]) (by simp (disch:=omega)only[go_sem, *]) (by simp (disch:=omega)only[go_sem, *]) (by simp (disch:=omega)only[go_sem, *]) (by simp (disch:=omega)only[go_sem, *]) (by simp (disch:=omega)only[go_sem, *]) (by simp (disch:=omega)only[go_sem, *]) (by simp (disch:=omega)only[go_sem, *]) ?_;clear e0 e3 e4 e5 e15 e113 e114;intro e' W hW e0 e3 e4 e5 e15 e17 e18 e113 e114;simp (disch:=omega)only[go_sem, *];refine Ax (λhw=>?_) (λhw=>?_)
  .simp (disch:=omega)only[go_sem, *];refine AJ a.tape a.jl hL (by have:=a.lim;omega) ?_;intro v j2 h0 h1 h2 hj2;have a2:=a.tape2 hb hid hj2;have sl2:Sl (h.next+2) (hh.put id (An L j2)) 1 w (R.map RT.enc):=AC sl _ _ ((Au sl).imp (λx=>x) (λx=>by omega));generalize hh.put id (An L j2)=h2 at a2 sl2 ⊢;clear plen pbig plt plo pget pat prow pcell pcells wlen wbig wlt wlo wget JC wrow wcell wcells hbox sl;obtain ⟨plen,pbig,plt,plo,pget,pat,prow,pcell,pcells⟩:=a2.sp.facts;have hbox:=a2.box;simp (disch:=omega)only[go_sem, *];refine Ad (λhc3=>?_) (λhc3=>?_)
   .have hsv:=Sl.sameV a2.sp;simp (disch:=omega)only[go_sem, *];refine AJ a2.tape a2.jl hL (by have:=a2.lim;simp (disch:=omega)only[go_sem, *]<;>omega) ?_;intro v2 j3 h20 h21 h22 hj3;have a3:=a2.tape2 hb hid hj3;have sl3:Sl (h.next+2) (h2.put id (An L j3)) 1 w (R.map RT.enc):=AC sl2 _ _ ((Au sl2).imp (λx=>x) (λx=>by omega));generalize h2.put id (An L j3)=h3 at a3 sl3 ⊢;clear plen pbig plt plo pget pat prow pcell pcells hbox sl2 a2;obtain ⟨plen,pbig,plt,plo,pget,pat,prow,pcell,pcells⟩:=a3.sp.facts;have hbox:=a3.box;have hlm:=a3.lim;have hne:Ap vp<h.next:=by
     rcases a3.pl with q | q
     .rcases a3.sp with ⟨_,hR⟩ | ⟨_,_,_,_,rfl,_⟩
      .have:P'=[]:=by simpa using hR
       subst this;simp at hlen;omega
      .cases q
     .exact q
    have hrl:=a3.sp.rowlt (j:=q) (by simp;omega);have a4:=a3.part (i:=q) { nth P' q with budget:=max (W - v2) 1,period:=pr } hid om;have hz4:=iR (i:=q) (x:={ nth P' q with budget:=max (W - v2) 1,period:=pr }) hz om rfl;have sl4:Sl (h.next+2) (h3.put (Ap vp) ⟨11,(AP h3 vp).set (Ca vp+q) ({ nth P' q with budget:=max (W - v2) 1,period:=pr }:Part).enc⟩) 1 w (R.map RT.enc):=AC sl3 _ _ ((Au sl3).imp (λx=>x) (λx=>by omega));simp only [Part.enc] at a4 sl4;clear a3 sl3 hz;simp (disch:=omega)only[go_sem, *];refine ih _ _ _ ?_ ⟨q+1,P'.set q { nth P' q with budget:=max (W - v2) 1,period:=pr },j3,rfl, ?_⟩
    .omega
    .simp (disch:=omega)only[go_sem, *]
     ((repeat' refine And.intro ?_ ?_)<;>first | omega | assumption | (exact a4) | (exact sl4) | (exact hz4))
   .simp (disch:=omega)only[go_sem, *];refine ih _ _ _ ?_ ⟨q+1,P',j2,rfl, ?_⟩
    .omega
    .simp (disch:=omega)only[go_sem, *]
     ((repeat' refine And.intro ?_ ?_)<;>first | omega | assumption | (exact a2) | (exact sl2) | (exact hz))
  .simp (disch:=omega)only[go_sem, *];refine ih _ _ _ ?_ ⟨q+1,P',j,rfl, ?_⟩
   .omega
   .simp (disch:=omega)only[go_sem, *]
    ((repeat' refine And.intro ?_ ?_)<;>first | omega | assumption | (exact a) | (exact sl) | (exact hz))
 .simp (disch:=omega)only[go_sem, *];exact kk _ hh P' j e0 e3 e4 a hz
theorem aLW {K : Ex -> Env -> AH -> Prop} {e : Env} (hb : b <= h.next) (hid : id < b) (hlo : h.lim <= id) (a : Ask b id L vp vc T h h' P Ch j)
    (e0:e 0=.p id 0 0) (e3:e 3=.p h.next 0 0) (e4:e 4=.p (h.next+1) 0 0) (e159:e 159=.i .i64 P.length) (e160:e 160=.i .i64 0)
    (kk:∀ e' h',e' 0=.p id 0 0->e' 3=.p h.next 0 0->e' 4=.p (h.next+1) 0 0->Ask b id L vp vc T h h' (P.map z0) Ch j->K (.ex 12) e' h'):ZC tp (.loop aOu) e h' K:=by
 refine Ai (λn' e hh=>∃ (q:Nat) (P':List Part),n'=P.length - q/\e 0=.p id 0 0/\e 3=.p h.next 0 0/\e 4=.p (h.next+1) 0 0/\e 159=.i .i64 P.length/\e 160=.i .i64 q/\q<=P.length/\Ask b id L vp vc T h hh P' Ch j/\P'.map z0=P.map z0/\∀ k,k<q->nth P' k=z0 (nth P' k)) ?_ _ _ _ ⟨0,P,rfl,e0,e3,e4,e159,e160,om,a,rfl,λk hk=>by omega⟩;clear e0 e3 e4 e159 e160 e a;rintro n' e hh ⟨q,P',rfl,e0,e3,e4,e159,e160,hq,a,hz,hq0⟩ ih;have hlen:=congrArg List.length hz;simp only [List.length_map] at hlen;obtain ⟨plen,pbig,plt,plo,pget,pat,prow,pcell,pcells⟩:=a.sp.facts;have hbox:=a.box;have hlm:=a.lim;have hsv:=Sl.sameV a.sp;rw [Ao aOu.eq_1];rw [<- hlen] at e159;have hq1:=hq0;clear hq0;simp (disch:=omega)only[go_sem, *];refine Ad (λhc=>?_) (λhc=>?_)
 .have hne:Ap vp<h.next:=by
   rcases a.pl with q | q
   .rcases a.sp with ⟨_,hR⟩ | ⟨_,_,_,_,rfl,_⟩
    .have:P'=[]:=by simpa using hR
     subst this;simp at hlen;omega
    .cases q
   .exact q
  have hrl:=a.sp.rowlt (j:=q) (by simp;omega);have a4:=a.part (i:=q) (z0 (nth P' q)) hid om;have hz4:=iR (i:=q) (x:=z0 (nth P' q)) hz om rfl;simp only [Part.enc,z0] at a4;simp (disch:=omega)only[go_sem, *];refine ih _ _ _ ?_ ⟨q+1,P'.set q (z0 (nth P' q)),rfl, ?_⟩
  .omega
  .simp (disch:=omega)only[go_sem, *]
   ((repeat' refine And.intro ?_ ?_)<;>first | omega | assumption | (exact a4) | (exact hz4) | (exact aOr om hq1))
 .have e:P'=P.map z0:=by
   rw [<- hz];apply List.ext_getElem
   .simp
   .intro k h1 h2;have:=hq1 k om;rw [Ba h1] at this;simp only [List.getElem_map];exact this
  subst e;simp (disch:=omega)only[go_sem, *];exact kk _ hh e0 e3 e4 a
end
end Go.Ab.T
namespace Go.Ab.T
open Go Go.Ab
set_option maxHeartbeats 4000000
theorem Jr {C:Am}:∀ (l:List (List Node)) (i:Nat),(CN C i l).1=0->CN C i l=(0,-1)
 | [],i,_=>rfl
 | t::l,i,h=>by
  rw [CN] at h ⊢;split at h
  .rename_i h2;exact absurd h h2
  .rename_i h2;rw [if_neg h2];exact Jr l _ h
theorem Ij {C:Am}:∀ (l:List AU) (i:Nat),(BT C i l).1=0->BT C i l=(0,-1)
 | [],i,h=>by rw [BT] at h ⊢;exact Jr _ _ h
 | t::l,i,h=>by
  rw [BT] at h ⊢;split at h
  .simp at h
  .rename_i h2;rw [if_neg h2];exact Ij l _ h
theorem Ik {C:Am}:∀ (l:List Part) (i:Nat),(BC C i l).1=0->BC C i l=(0,-1)
 | [],i,h=>by rw [BC] at h ⊢;exact Ij _ _ h
 | t::l,i,h=>by
  rw [BC] at h ⊢;split at h
  .simp at h
  .rename_i h2;rw [if_neg h2];split at h
   .simp at h
   .rename_i h3;rw [if_neg h3];exact Ik l _ h
theorem TD {C:Am} (h:(Bu C).1=0):Bu C=(0,-1):=by
 unfold Bu at h ⊢;split at h
 .simp at h
 .rename_i h2;rw [if_neg h2];exact Ik _ _ h
noncomputable def rn (t:List Node):List AQ:=(FY t).1
section
variable {b id:Nat} {L:List Int} {vp vc w:V} {T:List (List Node)} {R:List (List AQ)} {h h':AH} {P:List Part} {Ch:List AU} {j:Nat}
theorem Ask.grown {b':Nat} {x v:V} {h2:AH} (a:Ask b id L vp vc T h h' P Ch j) (hb:b<=h.next) (hid:id<b) (g:Grown b' h' x v h2) (hx:AA x=true\/h.next+2<=Ap x):Ask b id L vp vc T h h2 P Ch j:=by
 have n1:=a.next;have n2:=g.next;have gg:∀ i,i<h.next+2->h2.get i=h'.get i:=λi hi=>g.get i om (hx.imp (λx=>x) (λx=>by omega));refine ⟨om,g.lim.trans a.lim,(gg _ om).trans a.tape,a.jl,(gg _ om).trans a.box,(gg _ om).trans a.res,λi hi hn=>(gg i om).trans (a.low i hi hn), ?_, ?_,a.pl,a.cl,a.dj⟩
 .rcases a.pl with q | q
  .rcases a.sp with ⟨c,d⟩ | ⟨_,_,_,_,rfl,_⟩
   .exact .inl ⟨c,d⟩
   .cases q
  .exact a.sp.same n2 (λ_=>gg _ om)
 .rcases a.cl with q | q
  .rcases a.sc with ⟨c,d⟩ | ⟨_,_,_,_,rfl,_⟩
   .exact .inl ⟨c,d⟩
   .cases q
  .exact a.sc.same n2 (λ_=>gg _ om)
theorem aLV {K : Ex -> Env -> AH -> Prop} {e : Env} (hb : b <= h.next) (hid : id < b) (hlo : h.lim <= id) (hT : T.length <= 3) (a : Ask b id L vp vc T h h' P Ch j)
    (e0:e 0=.p id 0 0) (e3:e 3=.p h.next 0 0) (e4:e 4=.p (h.next+1) 0 0) (e5:e 5=.ns) (e23:e 23=.fl 1 (T.map Tab.enc)) (e24:e 24=.i .i64 T.length) (e25:e 25=.i .i64 0)
    (kk:∀ e' h' w,e' 0=.p id 0 0->e' 3=.p h.next 0 0->e' 4=.p (h.next+1) 0 0->e' 5=w->Ask b id L vp vc T h h' P Ch j->Sl (h.next+2) h' 1 w ((T.map rn).map RT.enc)->K (.ex 0) e' h'):ZC tp (.loop aPm) e h' K:=by
 refine Ai (λn' e hh=>∃ (q:Nat) (w:V),n'=T.length - q/\e 0=.p id 0 0/\e 3=.p h.next 0 0/\e 4=.p (h.next+1) 0 0/\e 5=w/\e 23=.fl 1 (T.map Tab.enc)/\e 24=.i .i64 T.length/\e 25=.i .i64 q/\q<=T.length/\Ask b id L vp vc T h hh P Ch j/\Sl (h.next+2) hh 1 w (((T.take q).map rn).map RT.enc)) ?_ _ _ _ ⟨0,.ns,rfl,e0,e3,e4,e5,e23,e24,e25,om,a,Sl.nil _ _ _⟩;clear e0 e3 e4 e5 e23 e24 e25 e a;rintro n' e hh ⟨q,w,rfl,e0,e3,e4,e5,e23,e24,e25,hq,a,sl⟩ ih;have hlm:=a.lim;have hnx:=a.next;have hwl:=Au sl;rw [Ao aPm.eq_1];simp (disch:=omega)only[go_sem, *];refine Ad (λhc=>?_) (λhc=>?_)
 .have hts:=Db (L:=T) (i:=q) om;simp (disch:=omega)only[go_sem, *];refine Pf.go (KN) (by simp only [go_sem]) λ_=>?_;simp (disch:=omega)only[go_sem, *];refine Av (sl.alloc _) (by simp (disch:=omega)only[go_sem, *]<;>omega) (by simp (disch:=omega)only[go_sem, *]<;>omega) (by simp;omega) ?_;intro w2 h4 s4 g4;have a4:=(a.ext hb hid ((Ak.refl _).alloc _)).grown hb hid g4 hwl;have s5:Sl (h.next+2) h4 1 w2 (((T.take (q+1)).map rn).map RT.enc):=by rw [hts];simpa [RT.enc,rn] using s4
  clear hts s4;simp (disch:=omega)only[go_sem, *];refine ih _ _ _ ?_ ⟨q+1,w2,rfl, ?_⟩
  .omega
  .simp (disch:=omega)only[go_sem, *]
   ((repeat' refine And.intro ?_ ?_)<;>first | omega | assumption | (exact a4) | (exact s5))
 .have eq:q=T.length:=by omega
  subst eq;rw [List.take_length] at sl;simp (disch:=omega)only[go_sem, *];exact kk _ hh w e0 e3 e4 e5 a sl
end
end Go.Ab.T
namespace Go.Ab.T
open Go Go.Ab
set_option maxHeartbeats 4000000
theorem bR {P P':List Part} (h:P'.map z0=P.map z0) {p:Part} (hp:p∈P'):∃ q∈P,q.name=p.name:=by
 have:z0 p∈P.map z0:=by rw [<- h];exact List.mem_map_of_mem hp
 obtain ⟨q,hq,e⟩:=List.mem_map.1 this;exact ⟨q,hq,by have:=congrArg Part.name e;exact this⟩
structure jE (P:List Part) (Ch:List AU) (T:List (List Node)):Prop where
 z:P.map z0=P
 p1:1<=P.length
 p2:P.length<=6
 c:Ch.length<=8
 t1:1<=T.length
 t2:T.length<=3
 parts:∀ i,i<P.length->Xa P i
 chans:∀ x∈Ch,C9 P.length x=true/\x.late=0/\I9 x
 tabs:∀ t∈T,DA P.length t
 nm:∀ p∈P,p.name.size<4000000000
theorem jE.where_ {P:List Part} {Ch Ch':List AU} {T:List (List Node)} (g:jE P Ch T) (hl:Ch'.length=Ch.length) (hc:∀ x∈Ch',CO P.length (T.map rn) x):Bu ⟨P,Ch',T⟩=(0,-1):=by
 rw [Ey];refine ⟨⟨g.p1,g.p2,by rw [hl];exact g.c,g.t1,g.t2⟩,g.parts,λx hx=>(hc x hx).1,λt ht=>?_⟩;rw [LY];refine ⟨g.tabs t ht, ?_⟩;rw [Kl];refine ⟨?_,FM _ _ λp hp=>?_⟩
 .rw [List.any_eq_false];intro x hx
  change ¬ Cl (rn t) x=true
  rw [(hc x hx).2.1 _ (List.mem_map_of_mem ht)];simp
 .have:p∈P.map z0:=by rw [g.z];exact hp
  obtain ⟨q,_,rfl⟩:=List.mem_map.1 this;rfl
theorem LZ:∀ (L:List AQ) (a:Int),0<=a->a<=9223372036854775807->0<=Ih L a/\Ih L a<=9223372036854775807
 | [],a,h0,h1=>⟨h0,h1⟩
 | r::l,a,h0,h1=>LZ l _ (Fi).1 (Fi).2
theorem oT {b id k : Nat} {L : List Int} {vp vc : V} {T : List (List Node)} {h : AH} {P : List Part} {Ch : List AU} {K : V -> AH -> Prop} (g : jE P Ch T) (hL : L.length < 4000000000) (hk : k <= L.length) (hb : b <= h.next) (hid : id < b) (hlo : h.lim <= id) (hg : h.get id = some (An L k))
    (sp:Sl b h 11 vp (P.map Part.enc)) (sc:Sl b h 6 vc (Ch.map AU.enc)) (dj:AA vp=true\/AA vc=true\/Ap vp≠Ap vc)
    (kk:∀ P' Ch' h' j,j<=L.length->(∀ x∈Ch',I9 x)->Bu ⟨P',Ch',T⟩=(0,-1)->Js ⟨P',Ch',T⟩->P'.length=P.length->Ch'.length=Ch.length->h.next<=h'.next->h'.lim=h.lim->h'.get id=some (An L j)->(∀ i,i<b->i≠id->h'.get i=h.get i)->Sl b h' 11 vp (P'.map Part.enc)->Sl b h' 6 vc (Ch'.map AU.enc)->K (.agg [vp,vc,.fl 1 (T.map Tab.enc)]) h'):
    Cq tp Un [.p id 0 0,.agg [vp,vc,.fl 1 (T.map Tab.enc)]] h K:=by
 have pl:=Dw sp;have cl:=Dw sc;obtain ⟨plen,pbig,plt,plo,pget,pat,prow,pcell,pcells⟩:=sp.facts;obtain ⟨clen,cbig,clt,E9,cget,cat,crow,ccell,ccells⟩:=sc.facts;have ht2:=g.t2;have ht1:=g.t1;have hp2:=g.p2;have hc2:=g.c;have hRf:∀ r∈T.map rn,Iq r:=λr hr=>by obtain ⟨t,_,rfl⟩:=List.mem_map.1 hr;exact JL
 have hC0:∀ x∈Ch,CO P.length (T.map rn) x:=λx hx=>⟨(g.chans x hx).1,λr _=>by unfold Cl;rw [(g.chans x hx).2.1];simp,(g.chans x hx).2.2⟩
 refine Aa aMl (by simp [P7]) λwf rp=>?_;unfold P7;simp (disch:=omega)only[go_sem, *];have x0:Ak h ((h.alloc ⟨3,[[vp,vc,.fl 1 (T.map Tab.enc)]]⟩).alloc ⟨3,[[.ns,.ns,.ns]]⟩):=by (repeat (first | exact Ak.refl _ | refine Ak.alloc ?_ _ | (refine Ak.put ?_ _ _ ?_;rotate_left;(first | omega | (simp only [Ac,Ah];omega)))))
 have a0:Ask b id L vp vc T h ((h.alloc ⟨3,[[vp,vc,.fl 1 (T.map Tab.enc)]]⟩).alloc ⟨3,[[.ns,.ns,.ns]]⟩) P Ch k:=⟨by simp (disch:=omega)only[go_sem, *],rfl,(x0.get _ om).trans hg,hk,by simp (disch:=omega)only[go_sem, *],by simp (disch:=omega)only[go_sem, *],λi hi _=>x0.get i om,sp.ext x0,sc.ext x0,pl,cl,dj⟩
 clear plen pbig plt plo pget pat prow pcell pcells clen cbig clt E9 cget cat crow ccell ccells sp sc x0;refine aLV hb hid hlo g.t2 a0 (by simp (disch:=omega)only[go_sem, *]) (by simp (disch:=omega)only[go_sem, *]) (by simp (disch:=omega)only[go_sem, *]) (by simp (disch:=omega)only[go_sem, *]) (by simp (disch:=omega)only[go_sem, *]) (by simp (disch:=omega)only[go_sem, *]) (by simp (disch:=omega)only[go_sem, *]) ?_;clear a0;intro e h1 w e0 e3 e4 e5 a sl;have hbox:=a.box;obtain ⟨clen,cbig,clt,E9,cget,cat,crow,ccell,ccells⟩:=a.sc.facts;simp (disch:=omega)only[go_sem, *];refine oS hb hid hlo hL hRf a sl hC0 (by simp (disch:=omega)only[go_sem, *]) (by simp (disch:=omega)only[go_sem, *]) (by simp (disch:=omega)only[go_sem, *]) (by simp (disch:=omega)only[go_sem, *]) (by simp (disch:=omega)only[go_sem, *]) (by simp (disch:=omega)only[go_sem, *]) (by simp (disch:=omega)only[go_sem, *]) ?_;clear e0 e3 e4 e5 a sl hbox clen cbig clt E9 cget cat crow ccell ccells e h1 hC0;intro e h2 Ch' j e0 e3 e4 e5 a sl hC hCl;obtain ⟨wlen,wbig,wlt,wlo,wget,JC,wrow,wcell,wcells⟩:=sl.facts;have hr0:=Ug (hRf _ (Az (L:=T.map rn) (j:=0) (by simp;omega)));have hw0:(AP h2 w)[Ca w]?=some (RT.enc (nth (T.map rn) 0)):=by have:=wrow 0 (by simp;omega);simpa using this
 have hml:(T.map rn).length=T.length:=List.length_map ..;simp (disch:=omega)only[go_sem, *];refine Pf.go (Jm hr0) (by simp only [go_sem]) λ_=>?_;simp (disch:=omega)only[go_sem, *];refine AJ a.tape a.jl hL (by have:=a.lim;omega) ?_;intro v j2 v0 v1 v2 hj2;have a2:=a.tape2 hb hid hj2;have sl2:Sl (h.next+2) (h2.put id (An L j2)) 1 w ((T.map rn).map RT.enc):=AC sl _ _ ((Au sl).imp (λx=>x) (λx=>by omega));generalize h2.put id (An L j2)=h3 at a2 sl2 ⊢;clear wlen wbig wlt wlo wget JC wrow wcell wcells sl a;simp (disch:=omega)only[go_sem, *];refine Yy (h:=h) (id:=id) (w:=w) (pr:=Ih (nth (T.map rn) 0) 0) (k:=2+v) (LZ _ _ om om).1 (LZ _ _ om om).2 om (by simp (disch:=omega)only[go_sem, *]) (by simp (disch:=omega)only[go_sem, *]) (by simp (disch:=omega)only[go_sem, *]) (by simp (disch:=omega)only[go_sem, *]) (by simp (disch:=omega)only[go_sem, *]) (by simp (disch:=omega)only[go_sem, *]) ?_;clear e0 e3 e4 e5 e;intro e pr e0 e3 e4 e5 e15;have hbox:=a2.box;obtain ⟨plen,pbig,plt,plo,pget,pat,prow,pcell,pcells⟩:=a2.sp.facts;simp (disch:=omega)only[go_sem, *];refine oU (pr:=pr) hb hid hlo hL hRf a2 sl2 (by simp (disch:=omega)only[go_sem, *]) (by simp (disch:=omega)only[go_sem, *]) (by simp (disch:=omega)only[go_sem, *]) (by simp (disch:=omega)only[go_sem, *]) (by simp (disch:=omega)only[go_sem, *]) (by simp (disch:=omega)only[go_sem, *]) (by simp (disch:=omega)only[go_sem, *]) ?_;clear e0 e3 e4 e5 e15 plen pbig plt plo pget pat prow pcell pcells hbox a2 sl2 e;intro e h4 P' j4 e0 e3 e4 a hz;have hnm:Js ⟨P',Ch',T⟩:=λp hp=>by obtain ⟨q,hq,e⟩:=bR hz hp;rw [<- e];exact g.nm q hq
 have hlen:=congrArg List.length hz;simp only [List.length_map] at hlen;have hbox:=a.box;obtain ⟨plen,pbig,plt,plo,pget,pat,prow,pcell,pcells⟩:=a.sp.facts;obtain ⟨clen,cbig,clt,E9,cget,cat,crow,ccell,ccells⟩:=a.sc.facts;simp (disch:=omega)only[go_sem, *];refine Pf.look (Mi hnm) (.cons _ _ _ _ _ (.agg _ _ _ (.cons _ _ _ _ _ (a.sp.froze (λ_=>rfl) trivial om) (.cons _ _ _ _ _ (a.sc.froze (λ_=>rfl) trivial om) (.cons _ _ _ _ _ (.fl _ _ _) (.nil _))))) (.nil _)) rfl λ_=>?_;have fin:∀ (P':List Part) h5,Ask b id L vp vc T h h5 P' Ch' j4->Bu ⟨P',Ch',T⟩=(0,-1)->P'.map z0=P.map z0->K (.agg [vp,vc,.fl 1 (T.map Tab.enc)]) (h5.put (h.next+1) ⟨3,[[vp,vc,.fl 1 (T.map Tab.enc)]]⟩):=by
  intro P' h5 a hw hz;have n5:=a.next;have hlen:=congrArg List.length hz;simp only [List.length_map] at hlen;have hnm:Js ⟨P',Ch',T⟩:=λp hp=>by obtain ⟨q,hq,e⟩:=bR hz hp;rw [<- e];exact g.nm q hq
  refine kk P' Ch' _ j4 a.jl (λx hx=>(hC x hx).2.2) hw hnm hlen hCl (by rw [Ah];omega) a.lim (by rw [Ae,Af om];exact a.tape) (λi hi hn=>by rw [Ae,Af om];exact a.low i hi hn) (AC a.sp _ _ (a.pl.imp (λx=>x) (λx=>by omega))) (AC a.sc _ _ (a.cl.imp (λx=>x) (λx=>by omega)))
 have hres:=a.res;have hlm:=a.lim;simp (disch:=omega)only[go_sem, *];refine Ad (λhc=>?_) (λhc=>?_)
 .simp (disch:=omega)only[go_sem, *];refine aLW hb hid hlo a (by simp (disch:=omega)only[go_sem, *]) (by simp (disch:=omega)only[go_sem, *]) (by simp (disch:=omega)only[go_sem, *]) (by simp (disch:=omega)only[go_sem, *]) (by simp (disch:=omega)only[go_sem, *]) ?_;clear e0 e3 e4 plen pbig plt plo pget pat prow pcell pcells clen cbig clt E9 cget cat crow ccell ccells hbox hres hlm e;intro e h5 e0 e3 e4 a;rw [hz,g.z] at a;have hbox:=a.box;have hres:=a.res;have hlm:=a.lim;obtain ⟨plen,pbig,plt,plo,pget,pat,prow,pcell,pcells⟩:=a.sp.facts;obtain ⟨clen,cbig,clt,E9,cget,cat,crow,ccell,ccells⟩:=a.sc.facts;have f:=fin P h5 a (g.where_ hCl hC) rfl;clear fin;simp (disch:=omega)only[go_sem, *]
 .have f:=fin P' h4 a (TD om) hz;clear fin;simp (disch:=omega)only[go_sem, *]
end Go.Ab.T
namespace Go.Ab.T
open Go Go.Ab
set_option maxHeartbeats 2000000
def Dj (v w:V):Prop:=AA v=true\/AA w=true\/Ap v≠Ap w
structure CS (q id:Nat) (L:List Int) (h h':AH) (vp vc vt:V) (P:List Part) (Ch:List AU) (T:List (List Node)) (j:Nat):Prop where
 q1:h.next+2<=q
 q2:q<=h'.next
 lim:h'.lim=h.lim
 tape:h'.get id=some (An L j)
 jl:j<=L.length
 res:h'.get h.next=some ⟨3,[[.ns,.ns,.ns]]⟩
 box:h'.get (h.next+1)=some ⟨3,[[vp,vc,vt]]⟩
 low:∀ i,i<h.next->i≠id->h'.get i=h.get i
 sp:Sl (h.next+2) h' 11 vp (P.map Part.enc)
 sc:Sl (h.next+2) h' 6 vc (Ch.map AU.enc)
 st:Sl (h.next+2) h' 1 vt (T.map Tab.enc)
 pl:AA vp=true\/Ap vp<q
 cl:AA vc=true\/Ap vc<q
 tl:AA vt=true\/Ap vt<q
 pc:Dj vp vc
 pt:Dj vp vt
 ct:Dj vc vt
section
variable {q id:Nat} {L:List Int} {h h' h2:AH} {vp vc vt:V} {P:List Part} {Ch:List AU} {T:List (List Node)} {j:Nat}
theorem JN {b sz q:Nat} {h h2:AH} {v:V} {R:List (List V)} (s:Sl b h sz v R) (hl:AA v=true\/Ap v<q) (hn:h.next<=h2.next) (g:∀ i,i<q->h2.get i=h.get i):Sl b h2 sz v R:=by
 rcases hl with hl | hl
 .rcases s with ⟨a,c⟩ | ⟨_,_,_,_,rfl,_⟩
  .exact .inl ⟨a,c⟩
  .cases hl
 .exact s.same hn (λ_=>g _ hl)
theorem CS.keep (a:CS q id L h h' vp vc vt P Ch T j) (hid:id<h.next) (hn:h'.next<=h2.next) (hl:h2.lim=h'.lim) (g:∀ i,i<q->h2.get i=h'.get i):CS q id L h h2 vp vc vt P Ch T j:=by
 have q1:=a.q1;have q2:=a.q2;exact ⟨q1,om,hl.trans a.lim,(g _ om).trans a.tape,a.jl,(g _ om).trans a.res,(g _ om).trans a.box,λi hi hn=>(g i om).trans (a.low i hi hn),JN a.sp a.pl hn g,JN a.sc a.cl hn g,JN a.st a.tl hn g,a.pl,a.cl,a.tl,a.pc,a.pt,a.ct⟩
theorem CS.ext (a:CS q id L h h' vp vc vt P Ch T j) (hid:id<h.next) (x:Ak h' h2):CS q id L h h2 vp vc vt P Ch T j:=
 a.keep hid x.next x.lim (λi hi=>x.get i (by have:=a.q2;omega))
theorem CS.up {q':Nat} (a:CS q id L h h' vp vc vt P Ch T j) (h1:q<=q') (h2:q'<=h'.next):CS q' id L h h' vp vc vt P Ch T j:=
 ⟨Nat.le_trans a.q1 h1,h2,a.lim,a.tape,a.jl,a.res,a.box,a.low,a.sp,a.sc,a.st,a.pl.imp (λx=>x) (λx=>by omega),a.cl.imp (λx=>x) (λx=>by omega),a.tl.imp (λx=>x) (λx=>by omega),a.pc,a.pt,a.ct⟩
theorem CS.tape2 {j2:Nat} (a:CS q id L h h' vp vc vt P Ch T j) (hid:id<h.next) (hj:j2<=L.length):CS q id L h (h'.put id (An L j2)) vp vc vt P Ch T j2:=by
 have q1:=a.q1;have q2:=a.q2;exact ⟨q1,q2,a.lim,by rw [Ae,Ar rfl],hj,by rw [Ae,Af om];exact a.res,by rw [Ae,Af om];exact a.box,λi hi hn=>by rw [Ae,Af hn];exact a.low i hi hn,
  AC a.sp _ _ ((Au a.sp).imp (λx=>x) (λx=>by omega)),AC a.sc _ _ ((Au a.sc).imp (λx=>x) (λx=>by omega)),AC a.st _ _ ((Au a.st).imp (λx=>x) (λx=>by omega)),a.pl,a.cl,a.tl,a.pc,a.pt,a.ct⟩
theorem D1 {b:Nat} {v w x:V} {h1 h2:AH} (g:Grown b h1 x v h2) (d:Dj x w) (hl:AA w=true\/Ap w<h1.next):Dj v w:=by
 rcases g.own with k | ⟨k1,k2⟩ | k
 .exact .inl k
 .rcases d with d | d | d
  .rw [d] at k1;cases k1
  .exact .inr (.inl d)
  .exact .inr (.inr (by rw [k2];exact d))
 .rcases hl with hl | hl
  .exact .inr (.inl hl)
  .exact .inr (.inr om)
theorem EF {v w:V} (d:Dj v w):Dj w v:=by
 rcases d with d | d | d
 .exact .inr (.inl d)
 .exact .inl d
 .exact .inr (.inr (Ne.symm d))
theorem ER {b b' sz:Nat} {h1 h2:AH} {x v w:V} {R:List (List V)} (s:Sl b h1 sz w R) (g:Grown b' h1 x v h2) (d:Dj x w):Sl b h2 sz w R:=by
 rcases s with hs | ⟨i,el,cap,cs,rfl,hg,a1,a2,a3,a4,a5,a6⟩
 .exact .inl hs
 .refine .inr ⟨i,el,cap,cs,rfl, ?_,a1,a2,a3,Nat.lt_of_lt_of_le a4 g.next,a5,a6⟩;rw [g.get i a4];exact hg;rcases d with d | d | d
  .exact .inl d
  .cases d
  .exact .inr (Ne.symm d)
theorem Da {b:Nat} {h1 h2:AH} {x v:V} (g:Grown b h1 x v h2) (hx:AA x=true\/b<=Ap x) (hb:b<=h1.next):∀ i,i<b->h2.get i=h1.get i:=λi hi=>g.get i om (hx.imp (λx=>x) (λx=>by omega))
theorem CS.grow_p {h1 h3 : AH} {v : V} {x : Part} (a : CS q id L h h' vp vc vt P Ch T j) (hid : id < h.next) (e : Ak h' h1) (s : Sl (h.next + 2) h3 11 v (P.map Part.enc ++ [x.enc])) (g : Grown (h.next + 2) h1 vp v h3) :
    CS h3.next id L h (h3.put (h.next+1) ⟨3,[[v,vc,vt]]⟩) v vc vt (P++[x]) Ch T j:=by
 have q1:=a.q1;have q2:=a.q2;have n1:=e.next;have n2:=g.next;have gl:=Da g (Au a.sp) om;have a1:=a.ext hid e;have m:=Dw s;refine ⟨om,Nat.le_refl _,g.lim.trans a1.lim,by rw [Ae,Af om];exact (gl _ om).trans a1.tape,a.jl,by rw [Ae,Af om];exact (gl _ om).trans a1.res,by rw [Ae,Ar rfl],λi hi hn=>by rw [Ae,Af om];exact (gl i om).trans (a1.low i hi hn), ?_, ?_, ?_,m,a.cl.imp (λx=>x) (λx=>by omega),a.tl.imp (λx=>x) (λx=>by omega),D1 g a.pc (a.cl.imp (λx=>x) (λx=>by omega)),D1 g a.pt (a.tl.imp (λx=>x) (λx=>by omega)),a.ct⟩
 .refine AC ?_ _ _ ((Au s).imp (λx=>x) (λx=>by omega));simpa using s
 .exact AC (ER a1.sc g a.pc) _ _ ((Au a.sc).imp (λx=>x) (λx=>by omega))
 .exact AC (ER a1.st g a.pt) _ _ ((Au a.st).imp (λx=>x) (λx=>by omega))
theorem CS.grow_c {h1 h3 : AH} {v : V} {x : AU} (a : CS q id L h h' vp vc vt P Ch T j) (hid : id < h.next) (e : Ak h' h1) (s : Sl (h.next + 2) h3 6 v (Ch.map AU.enc ++ [x.enc])) (g : Grown (h.next + 2) h1 vc v h3) :
    CS h3.next id L h (h3.put (h.next+1) ⟨3,[[vp,v,vt]]⟩) vp v vt P (Ch++[x]) T j:=by
 have q1:=a.q1;have q2:=a.q2;have n1:=e.next;have n2:=g.next;have gl:=Da g (Au a.sc) om;have a1:=a.ext hid e;have m:=Dw s;refine ⟨om,Nat.le_refl _,g.lim.trans a1.lim,by rw [Ae,Af om];exact (gl _ om).trans a1.tape,a.jl,by rw [Ae,Af om];exact (gl _ om).trans a1.res,by rw [Ae,Ar rfl],λi hi hn=>by rw [Ae,Af om];exact (gl i om).trans (a1.low i hi hn), ?_, ?_, ?_,a.pl.imp (λx=>x) (λx=>by omega),m,a.tl.imp (λx=>x) (λx=>by omega),EF (D1 g (EF a.pc) (a.pl.imp (λx=>x) (λx=>by omega))),a.pt,D1 g a.ct (a.tl.imp (λx=>x) (λx=>by omega))⟩
 .exact AC (ER a1.sp g (EF a.pc)) _ _ ((Au a.sp).imp (λx=>x) (λx=>by omega))
 .refine AC ?_ _ _ ((Au s).imp (λx=>x) (λx=>by omega));simpa using s
 .exact AC (ER a1.st g a.ct) _ _ ((Au a.st).imp (λx=>x) (λx=>by omega))
theorem CS.grow_t {h1 h3 : AH} {v : V} {x : List Node} (a : CS q id L h h' vp vc vt P Ch T j) (hid : id < h.next) (e : Ak h' h1) (s : Sl (h.next + 2) h3 1 v (T.map Tab.enc ++ [Tab.enc x])) (g : Grown (h.next + 2) h1 vt v h3) :
    CS h3.next id L h (h3.put (h.next+1) ⟨3,[[vp,vc,v]]⟩) vp vc v P Ch (T++[x]) j:=by
 have q1:=a.q1;have q2:=a.q2;have n1:=e.next;have n2:=g.next;have gl:=Da g (Au a.st) om;have a1:=a.ext hid e;have m:=Dw s;refine ⟨om,Nat.le_refl _,g.lim.trans a1.lim,by rw [Ae,Af om];exact (gl _ om).trans a1.tape,a.jl,by rw [Ae,Af om];exact (gl _ om).trans a1.res,by rw [Ae,Ar rfl],λi hi hn=>by rw [Ae,Af om];exact (gl i om).trans (a1.low i hi hn), ?_, ?_, ?_,a.pl.imp (λx=>x) (λx=>by omega),a.cl.imp (λx=>x) (λx=>by omega),m,a.pc,EF (D1 g (EF a.pt) (a.pl.imp (λx=>x) (λx=>by omega))),EF (D1 g (EF a.ct) (a.cl.imp (λx=>x) (λx=>by omega)))⟩
 .exact AC (ER a1.sp g (EF a.pt)) _ _ ((Au a.sp).imp (λx=>x) (λx=>by omega))
 .exact AC (ER a1.sc g (EF a.ct)) _ _ ((Au a.sc).imp (λx=>x) (λx=>by omega))
 .refine AC ?_ _ _ ((Au s).imp (λx=>x) (λx=>by omega));simpa using s
end
end Go.Ab.T
namespace Go.Ab.T
open Go Go.Ab
set_option maxHeartbeats 4000000
section
variable {q id:Nat} {L:List Int} {h h' h2:AH} {vp vc vt:V} {P:List Part} {Ch:List AU} {T:List (List Node)} {j:Nat}
theorem Vy {K : Ex -> Env -> AH -> Prop} {e : Env} {k n : Int} {i : Nat} {nm : ByteArray} {sc st : Bool} (hid : id < h.next) (hlo : h.lim <= id) (hL : L.length < 4000000000) (hk0 : 0 <= k) (hk1 : k <= 1) (a : CS q id L h h' vp vc vt P Ch T j) (hq : q < h'.next)
    (hb:h'.get q=some ⟨11,[[.s nm,.i .i64 0,.i .i64 0,.b sc,.b st,.ns,.i .i64 0,.i .i64 0,.i .i64 0,.i .i64 0,.i .i64 0]]⟩)
    (e0:e 0=.p id 0 0) (e2:e 2=.p h.next 0 0) (e3:e 3=.p (h.next+1) 0 0) (e4:e 4=.i .i64 n) (e5:e 5=.i .i64 i) (e6:e 6=.p q 0 0) (e7:e 7=.i .i64 k)
    (kk:∀ e' h' j vr pr,e' 0=.p id 0 0->e' 2=.p h.next 0 0->e' 3=.p (h.next+1) 0 0->e' 4=.i .i64 n->e' 5=.i .i64 i->e' 6=.p q 0 0->CS q id L h h' vp vc vt P Ch T j->q<h'.next->h'.get q=some ⟨11,[[.s nm,.i .i64 0,.i .i64 0,.b sc,.b st,vr,.i .i64 0,.i .i64 0,.i .i64 0,.i .i64 0,.i .i64 0]]⟩->Sl (q+1) h' 2 vr (pr.map Bl.enc)->Cc pr=true->pr.length<=2->K (.ex 2) e' h'):ZC tp (.loop Xw) e h' K:=by
 refine Ai (λn' e hh=>∃ (k':Int) (vr:V) (pr:List Bl) (j:Nat),n'=(k'+1).toNat/\e 0=.p id 0 0/\e 2=.p h.next 0 0/\e 3=.p (h.next+1) 0 0/\e 4=.i .i64 n/\e 5=.i .i64 i/\e 6=.p q 0 0/\e 7=.i .i64 k'/\-1<=k'/\CS q id L h hh vp vc vt P Ch T j/\q<hh.next/\hh.get q=some ⟨11,[[.s nm,.i .i64 0,.i .i64 0,.b sc,.b st,vr,.i .i64 0,.i .i64 0,.i .i64 0,.i .i64 0,.i .i64 0]]⟩/\Sl (q+1) hh 2 vr (pr.map Bl.enc)/\(∀ x∈pr,D8 x=true)/\(pr.length:Int)+k'=k) ?_ _ _ _ ⟨k,.ns,[],j,rfl,e0,e2,e3,e4,e5,e6,e7,om,a,hq,hb,Sl.nil _ _ _,(λx hx=>by cases hx),by simp⟩;clear e0 e2 e3 e4 e5 e6 e7 e a hq hb;rintro n' e hh ⟨k',vr,pr,j,rfl,e0,e2,e3,e4,e5,e6,e7,hk',a,hq,hb,sr,hpr,hlen⟩ ih;have q1:=a.q1;have hlm:=a.lim;have hro:=Au sr;obtain ⟨rlen,rbig,rlt,rlo,rget,rat,rrow,rcell,rcells⟩:=sr.facts;have hsv:=Sl.sameV sr;clear rlt rlo rget rat rrow rlen rbig;rw [Ao Xw.eq_1];simp (disch:=omega)only[go_sem, *];refine Ad (λhc=>?_) (λhc=>?_)
 .simp (disch:=omega)only[go_sem, *];refine AJ a.tape a.jl hL om ?_;intro v j2 v0 v1 v2 hj2;have a2:=a.tape2 hid hj2;have sr2:=AC sr id (An L j2) (hro.imp (λx=>x) (λx=>by omega));have hb2:(hh.put id (An L j2)).get q=some ⟨11,[[.s nm,.i .i64 0,.i .i64 0,.b sc,.b st,vr,.i .i64 0,.i .i64 0,.i .i64 0,.i .i64 0,.i .i64 0]]⟩:=by rw [Ae,Af om];exact hb
  have hq2:q<(hh.put id (An L j2)).next:=hq;generalize hh.put id (An L j2)=h2 at a2 sr2 hb2 hq2 ⊢;clear a sr hb hq hlm;have hlm:=a2.lim;simp (disch:=omega)only[go_sem, *];refine AJ a2.tape a2.jl hL om ?_;intro v' j3 v0' v1' v2' hj3;have a3:=a2.tape2 hid hj3;have sr3:=AC sr2 id (An L j3) (hro.imp (λx=>x) (λx=>by omega));have hb3:(h2.put id (An L j3)).get q=some ⟨11,[[.s nm,.i .i64 0,.i .i64 0,.b sc,.b st,vr,.i .i64 0,.i .i64 0,.i .i64 0,.i .i64 0,.i .i64 0]]⟩:=by rw [Ae,Af om];exact hb2
  have hq3:q<(h2.put id (An L j3)).next:=hq2;generalize h2.put id (An L j3)=h3 at a3 sr3 hb3 hq3 ⊢;clear a2 sr2 hb2 hq2 hlm;have hlm:=a3.lim;simp (disch:=omega)only[go_sem, *];refine Av (sr3.alloc _) (by simp (disch:=omega)only[go_sem, *]<;>omega) (by simp (disch:=omega)only[go_sem, *]<;>omega) (by simp;omega) ?_;intro w h4 s4 g4;have l4:=g4.lim;have n4:=g4.next;have gl:=Da g4 hro (by simp (disch:=omega)only[go_sem, *]<;>omega);have c4:=g4.cell;have c4s:=g4.cells;have x3:Ak h3 (h3.alloc ⟨2,[(⟨4*v,v'⟩:Bl).enc]⟩):=(Ak.refl _).alloc _;simp only [Bl.enc,Ac,Bi] at l4 n4 x3 gl;have hb4:h4.get q=some ⟨11,[[.s nm,.i .i64 0,.i .i64 0,.b sc,.b st,vr,.i .i64 0,.i .i64 0,.i .i64 0,.i .i64 0,.i .i64 0]]⟩:=(gl q om).trans ((x3.get q om).trans hb3);have hsw:=Sl.sameV s4;have a5:CS q id L h (h4.put q ⟨11,[[.s nm,.i .i64 0,.i .i64 0,.b sc,.b st,w,.i .i64 0,.i .i64 0,.i .i64 0,.i .i64 0,.i .i64 0]]⟩) vp vc vt P Ch T j3:=a3.keep hid (by rw [Ah];omega) (by rw [El];omega) (λi hi=>by rw [Ae,Af om,gl i om];exact x3.get i om);have s5:Sl (q+1) (h4.put q ⟨11,[[.s nm,.i .i64 0,.i .i64 0,.b sc,.b st,w,.i .i64 0,.i .i64 0,.i .i64 0,.i .i64 0,.i .i64 0]]⟩) 2 w ((pr++[(⟨4*v,v'⟩:Bl)]).map Bl.enc):=AC (by simpa [Bl.enc] using s4) _ _ ((Au s4).imp (λx=>x) (λx=>by omega));have hpr5:∀ x∈pr++[(⟨4*v,v'⟩:Bl)],D8 x=true:=λx hx=>by
   rcases List.mem_append.1 hx with hx | hx
   .exact hpr x hx
   .rw [List.mem_singleton] at hx;subst hx;simp only [D8];simp;omega
  clear hpr s4;simp (disch:=omega)only[go_sem, *];refine ih _ _ _ ?_ ⟨k' - 1,w,pr++[⟨4*v,v'⟩],j3,rfl, ?_⟩
  .omega
  .simp (disch:=omega)only[go_sem, *]
   ((repeat' refine And.intro ?_ ?_)<;>first | omega | assumption | (exact a5) | (exact s5) | (exact hpr5) | ((simp only [List.length_append,List.length_cons,List.length_nil];omega)))
 .simp (disch:=omega)only[go_sem, *];have hpl:Cc pr=true:=by
   unfold Cc;simp only [Bool.and_eq_true,List.all_eq_true,decide_eq_true_eq];exact ⟨hpr,om⟩
  exact kk _ hh j vr pr e0 e2 e3 e4 e5 e6 a hq hb sr hpl om
end
end Go.Ab.T
