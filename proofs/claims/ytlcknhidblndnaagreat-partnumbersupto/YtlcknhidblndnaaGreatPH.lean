/- Part of a proof that a law returns true for every input of the second form's bound (no other condition). -/
import Derived.Test.YtlcknhidblndnaaGreatPG
set_option linter.all false
namespace Go.Ab.T
open Go Go.Ab
set_option maxHeartbeats 4000000
theorem bA0 {v:Int} (h0:0<=v) (h5:v<5):∃ z:Int,0<=z/\z<=2/\[[V.i .i64 0],[.i .i64 1],[.i .i64 0],[.i .i64 2],[.i .i64 1]][v.toNat]?=some [.i .i64 z]:=by
 have:v=0\/v=1\/v=2\/v=3\/v=4:=by omega
 rcases this with rfl | rfl | rfl | rfl | rfl
 .exact ⟨0,om,om,rfl⟩
 .exact ⟨1,om,om,rfl⟩
 .exact ⟨0,om,om,rfl⟩
 .exact ⟨2,om,om,rfl⟩
 .exact ⟨1,om,om,rfl⟩
section
variable {q id:Nat} {L:List Int} {h h' h2:AH} {vp vc vt:V} {P:List Part} {Ch:List AU} {T:List (List Node)} {j:Nat}
theorem RG {K : Ex -> Env -> AH -> Prop} {e : Env} {n : Int} {i : Nat} {nm : ByteArray} {sc st : Bool} {vr : V} {pr : List Bl} (hid : id < h.next) (hlo : h.lim <= id) (hL : L.length < 4000000000) (a : CS q id L h h' vp vc vt P Ch T j) (hq : q < h'.next)
    (hb:h'.get q=some ⟨11,[[.s nm,.i .i64 0,.i .i64 0,.b sc,.b st,vr,.i .i64 0,.i .i64 0,.i .i64 0,.i .i64 0,.i .i64 0]]⟩) (sr:Sl (q+1) h' 2 vr (pr.map Bl.enc)) (hpr:Cc pr=true) (hpl:pr.length<=2)
    (e0:e 0=.p id 0 0) (e2:e 2=.p h.next 0 0) (e3:e 3=.p (h.next+1) 0 0) (e4:e 4=.i .i64 n) (e5:e 5=.i .i64 i) (e6:e 6=.p q 0 0) (e50:e 50=.i .i64 0)
    (kk:∀ e' h' j (hs:Nat->Int),(∀ i,0<=hs i/\hs i<=2)->e' 0=.p id 0 0->e' 2=.p h.next 0 0->e' 3=.p (h.next+1) 0 0->e' 4=.i .i64 n->e' 5=.i .i64 i->e' 6=.p q 0 0->CS q id L h h' vp vc vt P Ch T j->q<h'.next->h'.get q=some ⟨11,[(⟨nm,0,0,sc,st,pr,hs 0,hs 1,hs 2,hs 3,hs 4⟩:Part).enc]⟩->K (.ex 4) e' h'):ZC tp (.loop Xx) e h' K:=by
 have q1:=a.q1;have q2:=a.q2;have hp1:0<pr.length:=by
  unfold Cc at hpr;simp only [Bool.and_eq_true,decide_eq_true_eq] at hpr;omega
 obtain ⟨rlen,rbig,rlt,rlo,rget,rat,rrow,rcell,rcells⟩:=sr.facts;have l1:=rlt hp1;have l2:=rlo hp1;refine aLD [0,2,3,4,5,6,50] q (Ap vr) 11 _ [.s nm,.i .i64 0,.i .i64 0,.b sc,.b st,.fl 2 (pr.map Bl.enc),.i .i64 0,.i .i64 0,.i .i64 0,.i .i64 0,.i .i64 0] om hb ?_ ?_ ?_
 .exact .cons _ _ _ _ _ (.cons _ _ _ _ _ (.z _ _ (.s _)) (.cons _ _ _ _ _ (.z _ _ (.i _ _)) (.cons _ _ _ _ _ (.z _ _ (.i _ _)) (.cons _ _ _ _ _ (.z _ _ (.b _)) (.cons _ _ _ _ _ (.z _ _ (.b _)) (.cons _ _ _ _ _ (sr.froze (λ_=>rfl) rfl om) (.cons _ _ _ _ _ (.z _ _ (.i _ _)) (.cons _ _ _ _ _ (.z _ _ (.i _ _)) (.cons _ _ _ _ _ (.z _ _ (.i _ _)) (.cons _ _ _ _ _ (.z _ _ (.i _ _)) (.cons _ _ _ _ _ (.z _ _ (.i _ _)) (.nil _)))))))))))) (.nil _)
 .intro t ht;simp only [List.mem_cons,List.not_mem_nil,or_false] at ht;rcases ht with rfl | rfl | rfl | rfl | rfl | rfl | rfl
  .rw [e0];exact .p _ _ _ _ om
  .rw [e2];exact .p _ _ _ _ om
  .rw [e3];exact .p _ _ _ _ om
  .rw [e4];exact .z _ _ (.i _ _)
  .rw [e5];exact .z _ _ (.i _ _)
  .rw [e6];exact .p _ _ _ _ om
  .rw [e50];exact .z _ _ (.i _ _)
 intro e' he';rw [<- he' 0 (by simp)] at e0;rw [<- he' 2 (by simp)] at e2;rw [<- he' 3 (by simp)] at e3;rw [<- he' 4 (by simp)] at e4;rw [<- he' 5 (by simp)] at e5;rw [<- he' 6 (by simp)] at e6;rw [<- he' 50 (by simp)] at e50;have hb1:((h'.kill (Ap vr)).put q ⟨11,[[.s nm,.i .i64 0,.i .i64 0,.b sc,.b st,.fl 2 (pr.map Bl.enc),.i .i64 0,.i .i64 0,.i .i64 0,.i .i64 0,.i .i64 0]]⟩).get q=some ⟨11,[(⟨nm,0,0,sc,st,pr,0,0,0,0,0⟩:Part).enc]⟩:=by rw [Ae,Ar rfl];rfl
 have a1:CS q id L h ((h'.kill (Ap vr)).put q ⟨11,[[.s nm,.i .i64 0,.i .i64 0,.b sc,.b st,.fl 2 (pr.map Bl.enc),.i .i64 0,.i .i64 0,.i .i64 0,.i .i64 0,.i .i64 0]]⟩) vp vc vt P Ch T j:=a.keep hid (Nat.le_refl _) rfl (λi hi=>by rw [Ae,Af om,B6,Af om]);have hq1:q<((h'.kill (Ap vr)).put q ⟨11,[[.s nm,.i .i64 0,.i .i64 0,.b sc,.b st,.fl 2 (pr.map Bl.enc),.i .i64 0,.i .i64 0,.i .i64 0,.i .i64 0,.i .i64 0]]⟩).next:=hq;generalize (h'.kill (Ap vr)).put q ⟨11,[[.s nm,.i .i64 0,.i .i64 0,.b sc,.b st,.fl 2 (pr.map Bl.enc),.i .i64 0,.i .i64 0,.i .i64 0,.i .i64 0,.i .i64 0]]⟩=h1 at a1 hb1 hq1 ⊢;clear rlen rbig rlt rlo rget rat rrow rcell rcells l1 l2 sr hb a hq q2 he';refine Ai (λn' e hh=>∃ (k j:Nat) (hs:Nat->Int),n'=5 - k/\e 0=.p id 0 0/\e 2=.p h.next 0 0/\e 3=.p (h.next+1) 0 0/\e 4=.i .i64 n/\e 5=.i .i64 i/\e 6=.p q 0 0/\e 50=.i .i64 k/\k<=5/\CS q id L h hh vp vc vt P Ch T j/\q<hh.next/\hh.get q=some ⟨11,[(⟨nm,0,0,sc,st,pr,hs 0,hs 1,hs 2,hs 3,hs 4⟩:Part).enc]⟩/\∀ i,0<=hs i/\hs i<=2) ?_ _ _ _ ⟨0,j,λ_=>0,rfl,e0,e2,e3,e4,e5,e6,e50,om,a1,hq1,hb1,λ_=>⟨by simp,by simp⟩⟩;clear e0 e2 e3 e4 e5 e6 e50 a1 hq1 hb1;rintro n' e hh ⟨k,j,hs,rfl,e0,e2,e3,e4,e5,e6,e50,hk,a,hq,hb,hhs⟩ ih;have q2:=a.q2;have hlm:=a.lim;rw [Ao Xx.eq_1];simp (disch:=omega)only[go_sem, *];refine Ad (λhc=>?_) (λhc=>?_)
 .simp (disch:=omega)only[go_sem, *];have x1:Ak hh (hh.alloc ⟨1,[[V.i .i64 0],[.i .i64 1],[.i .i64 0],[.i .i64 2],[.i .i64 1]]⟩):=(Ak.refl _).alloc _;have a1:=a.ext hid x1;refine AJ a1.tape a1.jl hL (by rw [Bi];omega) ?_;intro v j2 v0 v1 v2 hj2;obtain ⟨z,z0,z2,hz⟩:=bA0 v0 om;have a2:=a1.tape2 hid hj2;have hb2:((hh.alloc ⟨1,[[V.i .i64 0],[.i .i64 1],[.i .i64 0],[.i .i64 2],[.i .i64 1]]⟩).put id (An L j2)).get q=some ⟨11,[(⟨nm,0,0,sc,st,pr,hs 0,hs 1,hs 2,hs 3,hs 4⟩:Part).enc]⟩:=by rw [Ae,Af om,AD,Af om];exact hb
  have hl2:((hh.alloc ⟨1,[[V.i .i64 0],[.i .i64 1],[.i .i64 0],[.i .i64 2],[.i .i64 1]]⟩).put id (An L j2)).get hh.next=some ⟨1,[[V.i .i64 0],[.i .i64 1],[.i .i64 0],[.i .i64 2],[.i .i64 1]]⟩:=by rw [Ae,Af om,AD,Ar rfl]
  have hn2:((hh.alloc ⟨1,[[V.i .i64 0],[.i .i64 1],[.i .i64 0],[.i .i64 2],[.i .i64 1]]⟩).put id (An L j2)).next=hh.next+1:=rfl;generalize (hh.alloc ⟨1,[[V.i .i64 0],[.i .i64 1],[.i .i64 0],[.i .i64 2],[.i .i64 1]]⟩).put id (An L j2)=h3 at a2 hb2 hl2 hn2 ⊢;clear x1 a1 a hb hlm q2;have hlm:=a2.lim;simp only [Part.enc] at hb2;have h15:k=0\/k=1\/k=2\/k=3\/k=4:=by omega
  have fin:∀ hs':Nat->Int,(∀ i,hs' i=hs i\/hs' i=z)->CS q id L h (h3.put q ⟨11,[(⟨nm,0,0,sc,st,pr,hs' 0,hs' 1,hs' 2,hs' 3,hs' 4⟩:Part).enc]⟩) vp vc vt P Ch T j2/\∀ i,0<=hs' i/\hs' i<=2:=λhs' hh'=>⟨a2.keep hid (Nat.le_refl _) rfl (λi hi=>by rw [Ae,Af om]),λi=>by have:=hh' i;have:=hhs i;omega⟩
  have hs1:=λk=>fin (λi=>if i=k then z else hs i) (λi=>by by_cases e:i=k<;>simp [e]);clear fin a2;simp only [Part.enc] at hs1;rcases h15 with rfl | rfl | rfl | rfl | rfl
  .have hs2:=hs1 0;clear hs1;simp (disch:=omega)only[go_sem, *];refine ih _ _ _ ?_ ⟨1,j2,λi=>if i=0 then z else hs i,rfl, ?_⟩
   .omega
   .simp only [Nat.reduceEqDiff,reduceIte] at hs2;simp (disch:=omega)only[go_sem, *]
    ((repeat' refine And.intro ?_ ?_)<;>first | omega | assumption | (exact hs2.1) | (exact hs2.2) | (exact λ_=>trivial) | (rfl))
  .have hs2:=hs1 1;clear hs1;simp (disch:=omega)only[go_sem, *];refine ih _ _ _ ?_ ⟨2,j2,λi=>if i=1 then z else hs i,rfl, ?_⟩
   .omega
   .simp only [Nat.reduceEqDiff,reduceIte] at hs2;simp (disch:=omega)only[go_sem, *]
    ((repeat' refine And.intro ?_ ?_)<;>first | omega | assumption | (exact hs2.1) | (exact hs2.2) | (exact λ_=>trivial) | (rfl))
  .have hs2:=hs1 2;clear hs1;simp (disch:=omega)only[go_sem, *];refine ih _ _ _ ?_ ⟨3,j2,λi=>if i=2 then z else hs i,rfl, ?_⟩
   .omega
   .simp only [Nat.reduceEqDiff,reduceIte] at hs2;simp (disch:=omega)only[go_sem, *]
    ((repeat' refine And.intro ?_ ?_)<;>first | omega | assumption | (exact hs2.1) | (exact hs2.2) | (exact λ_=>trivial) | (rfl))
  .have hs2:=hs1 3;clear hs1;simp (disch:=omega)only[go_sem, *];refine ih _ _ _ ?_ ⟨4,j2,λi=>if i=3 then z else hs i,rfl, ?_⟩
   .omega
   .simp only [Nat.reduceEqDiff,reduceIte] at hs2;simp (disch:=omega)only[go_sem, *]
    ((repeat' refine And.intro ?_ ?_)<;>first | omega | assumption | (exact hs2.1) | (exact hs2.2) | (exact λ_=>trivial) | (rfl))
  .have hs2:=hs1 4;clear hs1;simp (disch:=omega)only[go_sem, *];refine ih _ _ _ ?_ ⟨5,j2,λi=>if i=4 then z else hs i,rfl, ?_⟩
   .omega
   .simp only [Nat.reduceEqDiff,reduceIte] at hs2;simp (disch:=omega)only[go_sem, *]
    ((repeat' refine And.intro ?_ ?_)<;>first | omega | assumption | (exact hs2.1) | (exact hs2.2) | (exact λ_=>trivial) | (rfl))
 .simp (disch:=omega)only[go_sem, *];exact kk _ hh j hs hhs e0 e2 e3 e4 e5 e6 a hq hb
end
end Go.Ab.T
namespace Go.Ab.T
open Go Go.Ab
set_option maxHeartbeats 4000000
@[irreducible] def Fp (i:Nat):ByteArray:=⟨#[112]⟩++Utf8.encode (97+(i:Int))
theorem bZ {i:Nat} (h:i<4):B1 .add (.s ⟨#[112]⟩) (.s (Utf8.encode (97+(i:Int))))=some (.s (Fp i)):=by
 unfold Fp;refine YA ?_
 match i,h with
 | 0,_=>decide
 | 1,_=>decide
 | 2,_=>decide
 | 3,_=>decide
theorem UX {i:Nat} (h:i<4):EI (Fp i)=true:=by
 unfold EI Fp
 match i,h with
 | 0,_=>decide
 | 1,_=>decide
 | 2,_=>decide
 | 3,_=>decide
theorem tZ {i j:Nat} (hi:i<4) (hj:j<4) (h:i≠j):Fp i≠Fp j:=by
 unfold Fp
 match i,j,hi,hj,h with
 | 0,0,_,_,h | 1,1,_,_,h | 2,2,_,_,h | 3,3,_,_,h=>exact absurd rfl h
 | 0,1,_,_,_ | 0,2,_,_,_ | 0,3,_,_,_ | 1,0,_,_,_ | 1,2,_,_,_ | 1,3,_,_,_ | 2,0,_,_,_ | 2,1,_,_,_ | 2,3,_,_,_ | 3,0,_,_,_ | 3,1,_,_,_ | 3,2,_,_,_=>decide
def PO (p:Part) (k:Nat):Prop:=p.name=Fp k/\EV p=true/\z0 p=p
section
variable {id:Nat} {L:List Int} {h h' h2:AH} {T:List (List Node)} {j:Nat}
theorem Vx {K : Ex -> Env -> AH -> Prop} {e : Env} {n : Nat} (hid : id < h.next) (hlo : h.lim <= id) (hL : L.length < 4000000000) (hn : n <= 4) (a : CS h'.next id L h h' .ns .ns .ns [] [] [] j)
    (e0:e 0=.p id 0 0) (e2:e 2=.p h.next 0 0) (e3:e 3=.p (h.next+1) 0 0) (e4:e 4=.i .i64 n) (e5:e 5=.i .i64 0)
    (kk:∀ e' h' j vp P,e' 0=.p id 0 0->e' 2=.p h.next 0 0->e' 3=.p (h.next+1) 0 0->e' 4=.i .i64 n->CS h'.next id L h h' vp .ns .ns P [] [] j->P.length=n->(∀ k,k<n->PO (nth P k) k)->K (.ex 0) e' h'):ZC tp (.loop Xy) e h' K:=by
 refine Ai (λn' e hh=>∃ (i j:Nat) (vp:V) (P:List Part),n'=n - i/\e 0=.p id 0 0/\e 2=.p h.next 0 0/\e 3=.p (h.next+1) 0 0/\e 4=.i .i64 n/\e 5=.i .i64 i/\i<=n/\CS hh.next id L h hh vp .ns .ns P [] [] j/\P.length=i/\∀ k,k<i->PO (nth P k) k) ?_ _ _ _ ⟨0,j,.ns,[],rfl,e0,e2,e3,e4,e5,om,a,rfl,λk hk=>by omega⟩;clear e0 e2 e3 e4 e5 e a;rintro n' e hh ⟨i,j,vp,P,rfl,e0,e2,e3,e4,e5,hi,a,hlen,hP⟩ ih;have hlm:=a.lim;have q1:=a.q1;rw [Ao Xy.eq_1];simp (disch:=omega)only[go_sem, *];refine Ad (λhc=>?_) (λhc=>?_)
 .have hnm:=bZ (i:=i) om;have hw32:IntKind.wrap .i32 (97+(i:Int))=97+i:=by rw [IntKind.wrap_i32];omega
  simp (disch:=omega)only[go_sem, *];refine AJ a.tape a.jl hL om ?_;intro v j1 v0 v1 v2 hj1;have a1:=a.tape2 hid hj1;have n1:(hh.put id (An L j1)).next=hh.next:=rfl;rw [<- n1] at a1 q1;clear n1;generalize hh.put id (An L j1)=h1 at a1 q1 ⊢;clear a hlm;have hlm:=a1.lim;simp (disch:=omega)only[go_sem, *];refine AJ a1.tape a1.jl hL om ?_;intro w j2 w0 w1 w2 hj2;have a2:=a1.tape2 hid hj2;have n2:(h1.put id (An L j2)).next=h1.next:=rfl;rw [<- n2] at a2 q1;clear n2;generalize h1.put id (An L j2)=h2 at a2 q1 ⊢;clear a1 hlm;have hlm:=a2.lim;simp (disch:=omega)only[go_sem, *];have x3:Ak h2 ((h2.alloc ⟨11,[[.s ⟨#[]⟩,.i .i64 0,.i .i64 0,.b false,.b false,.ns,.i .i64 0,.i .i64 0,.i .i64 0,.i .i64 0,.i .i64 0]]⟩).put h2.next ⟨11,[[.s (Fp i),.i .i64 0,.i .i64 0,.b (decide (v=0)),.b (decide (w=0)),.ns,.i .i64 0,.i .i64 0,.i .i64 0,.i .i64 0,.i .i64 0]]⟩):=by (repeat (first | exact Ak.refl _ | refine Ak.alloc ?_ _ | (refine Ak.put ?_ _ _ ?_;rotate_left;(first | omega | (simp only [Ac,Ah];omega)))))
  have a3:=a2.ext hid x3;have b3:((h2.alloc ⟨11,[[.s ⟨#[]⟩,.i .i64 0,.i .i64 0,.b false,.b false,.ns,.i .i64 0,.i .i64 0,.i .i64 0,.i .i64 0,.i .i64 0]]⟩).put h2.next ⟨11,[[.s (Fp i),.i .i64 0,.i .i64 0,.b (decide (v=0)),.b (decide (w=0)),.ns,.i .i64 0,.i .i64 0,.i .i64 0,.i .i64 0,.i .i64 0]]⟩).get h2.next=some ⟨11,[[.s (Fp i),.i .i64 0,.i .i64 0,.b (decide (v=0)),.b (decide (w=0)),.ns,.i .i64 0,.i .i64 0,.i .i64 0,.i .i64 0,.i .i64 0]]⟩:=by rw [Ae,Ar rfl]
  have n3:h2.next<((h2.alloc ⟨11,[[.s ⟨#[]⟩,.i .i64 0,.i .i64 0,.b false,.b false,.ns,.i .i64 0,.i .i64 0,.i .i64 0,.i .i64 0,.i .i64 0]]⟩).put h2.next ⟨11,[[.s (Fp i),.i .i64 0,.i .i64 0,.b (decide (v=0)),.b (decide (w=0)),.ns,.i .i64 0,.i .i64 0,.i .i64 0,.i .i64 0,.i .i64 0]]⟩).next:=Nat.lt_succ_self _;generalize (h2.alloc ⟨11,[[.s ⟨#[]⟩,.i .i64 0,.i .i64 0,.b false,.b false,.ns,.i .i64 0,.i .i64 0,.i .i64 0,.i .i64 0,.i .i64 0]]⟩).put h2.next ⟨11,[[.s (Fp i),.i .i64 0,.i .i64 0,.b (decide (v=0)),.b (decide (w=0)),.ns,.i .i64 0,.i .i64 0,.i .i64 0,.i .i64 0,.i .i64 0]]⟩=h3 at a3 b3 n3 ⊢;clear x3 a2 hlm;have hlm:=a3.lim;refine AJ a3.tape a3.jl hL om ?_;intro k j4 k0 k1 k2 hj4;have a4:=a3.tape2 hid hj4;have b4:(h3.put id (An L j4)).get h2.next=some ⟨11,[[.s (Fp i),.i .i64 0,.i .i64 0,.b (decide (v=0)),.b (decide (w=0)),.ns,.i .i64 0,.i .i64 0,.i .i64 0,.i .i64 0,.i .i64 0]]⟩:=by rw [Ae,Af om];exact b3
  have n4:h2.next<(h3.put id (An L j4)).next:=n3;generalize h3.put id (An L j4)=h4 at a4 b4 n4 ⊢;clear a3 b3 n3 hlm;simp (disch:=omega)only[go_sem, *];refine Vy (k:=k) (n:=n) (i:=i) hid hlo hL k0 om a4 n4 b4 (by simp (disch:=omega)only[go_sem, *]) (by simp (disch:=omega)only[go_sem, *]) (by simp (disch:=omega)only[go_sem, *]) (by simp (disch:=omega)only[go_sem, *]) (by simp (disch:=omega)only[go_sem, *]) (by simp (disch:=omega)only[go_sem, *]) (by simp (disch:=omega)only[go_sem, *]) ?_;clear a4 n4 b4 e0 e2 e3 e4 e5 e;intro e h5 j5 vr pr e0 e2 e3 e4 e5 e6 a5 n5 b5 s5 hpr hpl;simp (disch:=omega)only[go_sem, *];refine RG (n:=n) (i:=i) hid hlo hL a5 n5 b5 s5 hpr hpl (by simp (disch:=omega)only[go_sem, *]) (by simp (disch:=omega)only[go_sem, *]) (by simp (disch:=omega)only[go_sem, *]) (by simp (disch:=omega)only[go_sem, *]) (by simp (disch:=omega)only[go_sem, *]) (by simp (disch:=omega)only[go_sem, *]) (by simp (disch:=omega)only[go_sem, *]) ?_;clear a5 n5 b5 s5 e0 e2 e3 e4 e5 e6 e h5 j5 vr;intro e h5 j5 hs hhs e0 e2 e3 e4 e5 e6 a5 n5 b5;have hbox:=a5.box;have hlm:=a5.lim;have b6:=b5;simp only [Part.enc] at b6;have hpo:PO ⟨Fp i,0,0,decide (v=0),decide (w=0),pr,hs 0,hs 1,hs 2,hs 3,hs 4⟩ i:=by
   refine ⟨rfl, ?_,rfl⟩;unfold EV;have t0:=hhs 0;have t1:=hhs 1;have t2:=hhs 2;have t3:=hhs 3;have t4:=hhs 4;have e1:Gz ⟨Fp i,0,0,decide (v=0),decide (w=0),pr,hs 0,hs 1,hs 2,hs 3,hs 4⟩=true:=by unfold Gz;rw [decide_eq_true_eq];exact ⟨t0.1,t0.2,t1.1,t1.2,t2.1,t2.2,t3.1,t3.2,t4.1,t4.2⟩
   rw [e1];simp only [hpr];rfl
  simp (disch:=omega)only[go_sem, *];refine Av (N:=[(⟨Fp i,0,0,decide (v=0),decide (w=0),pr,hs 0,hs 1,hs 2,hs 3,hs 4⟩:Part).enc]) (a5.sp.alloc _) (by simp (disch:=omega)only[go_sem, *]<;>omega) (by simp (disch:=omega)only[go_sem, *]<;>omega) (by simp;omega) ?_;intro vp' h6 s6 g6;have x6:Ak h5 (h5.alloc ⟨11,[(⟨Fp i,0,0,decide (v=0),decide (w=0),pr,hs 0,hs 1,hs 2,hs 3,hs 4⟩:Part).enc]⟩):=(Ak.refl _).alloc _;have a6:=a5.grow_p (x:=⟨Fp i,0,0,decide (v=0),decide (w=0),pr,hs 0,hs 1,hs 2,hs 3,hs 4⟩) hid x6 s6 g6;have hb6:h6.get (h.next+1)=some ⟨3,[[vp,.ns,.ns]]⟩:=by
   rw [Da g6 (Au a5.sp) (by rw [Ac];omega) _ om,AD,Af om];exact hbox
  have l6:=g6.lim;have hc6:=g6.cell;have hcs6:=g6.cells;clear s6 g6 x6;simp only [Bi] at l6;simp (disch:=omega)only[go_sem, *];refine ih _ _ _ ?_ ⟨i+1,j5,vp',P++[⟨Fp i,0,0,decide (v=0),decide (w=0),pr,hs 0,hs 1,hs 2,hs 3,hs 4⟩],rfl, ?_⟩
  .omega
  .simp (disch:=omega)only[go_sem, *];refine ⟨om,by rw [List.length_append,hlen];rfl,λk hk=>?_⟩;rw [HV];split
   .exact hP k om
   .obtain rfl:k=i:=by omega
    rw [show k - P.length=0 by omega,DN];exact hpo
 .simp (disch:=omega)only[go_sem, *];obtain rfl:i=n:=by omega
  exact kk _ hh j vp P e0 e2 e3 e4 a hlen hP
end
end Go.Ab.T
namespace Go.Ab.T
open Go Go.Ab
set_option maxHeartbeats 4000000
theorem bAZ {v:Int} (h0:0<=v) (h5:v<3):∃ z:Int,[[V.i .u32 4294967295],[.i .u32 200],[.i .u32 3]][v.toNat]?=some [.i .u32 z]/\0<=z/\z<=4294967295:=by
 have:v=0\/v=1\/v=2:=by omega
 rcases this with rfl | rfl | rfl
 .exact ⟨4294967295,rfl,om,om⟩
 .exact ⟨200,rfl,om,om⟩
 .exact ⟨3,rfl,om,om⟩
theorem aY9 {f r n:Int} (h0:0<=f) (h1:f<n) (h2:0<=r) (h3:r<n - 1\/r=0) (hn:1<n):0<=(f+1+r).tmod n/\(f+1+r).tmod n<n/\f≠(f+1+r).tmod n:=by
 rw [Int.tmod_eq_emod_of_nonneg om]
 by_cases h:f+1+r<n
 .rw [Int.emod_eq_of_lt om h];omega
 .have e:(f+1+r) % n=(f+1+r - n) % n:=by rw [Int.sub_emod_right]
  rw [e,Int.emod_eq_of_lt om om];omega
section
variable {id:Nat} {L:List Int} {h h' h2:AH} {P:List Part} {j:Nat}
theorem Vw {K : Ex -> Env -> AH -> Prop} {e : Env} {n k : Int} {vp : V} (hid : id < h.next) (hlo : h.lim <= id) (hL : L.length < 4000000000) (hn : n <= 4) (hk : k <= 3) (hk0 : 0 <= k) (a : CS h'.next id L h h' vp .ns .ns P [] [] j)
    (e0:e 0=.p id 0 0) (e2:e 2=.p h.next 0 0) (e3:e 3=.p (h.next+1) 0 0) (e4:e 4=.i .i64 n) (e9:e 9=.i .i64 k)
    (kk:∀ e' h' j vc Ch,e' 0=.p id 0 0->e' 2=.p h.next 0 0->e' 3=.p (h.next+1) 0 0->e' 4=.i .i64 n->CS h'.next id L h h' vp vc .ns P Ch [] j->Ch.length<=3->(∀ x∈Ch,C9 n x=true/\x.late=0/\I9 x)->K (.ex 6) e' h'):ZC tp (.loop Xz) e h' K:=by
 refine Ai (λn' e hh=>∃ (k:Int) (j:Nat) (vc:V) (Ch:List AU),n'=k.toNat/\e 0=.p id 0 0/\e 2=.p h.next 0 0/\e 3=.p (h.next+1) 0 0/\e 4=.i .i64 n/\e 9=.i .i64 k/\CS hh.next id L h hh vp vc .ns P Ch [] j/\Ch.length+k<=3/\0<=k/\∀ x∈Ch,C9 n x=true/\x.late=0/\I9 x) ?_ _ _ _ ⟨k,j,.ns,[],rfl,e0,e2,e3,e4,e9,a,by simp;omega,hk0,(λx hx=>by cases hx)⟩;clear e0 e2 e3 e4 e9 e a hk hk0;rintro n' e hh ⟨k,j,vc,Ch,rfl,e0,e2,e3,e4,e9,a,hk,hk0,hC⟩ ih;have hlm:=a.lim;have q1:=a.q1;rw [Ao Xz.eq_1];simp (disch:=omega)only[go_sem, *];refine Ax (λhc=>?_) (λhc=>?_)
 rotate_left
 .simp (disch:=omega)only[go_sem, *];exact kk _ hh j vc Ch e0 e2 e3 e4 a om hC
 simp (disch:=omega)only[go_sem, *];refine Ad (λhc2=>?_) (λhc2=>?_)
 rotate_left
 .simp (disch:=omega)only[go_sem, *];exact kk _ hh j vc Ch e0 e2 e3 e4 a om hC
 simp (disch:=omega)only[go_sem, *];refine AJ a.tape a.jl hL om ?_;intro f j1 f0 f1 f2 hj1;have a1:=a.tape2 hid hj1;have n1:(hh.put id (An L j1)).next=hh.next:=rfl;rw [<- n1] at a1 q1;clear n1;generalize hh.put id (An L j1)=h1 at a1 q1 ⊢;clear a hlm;have hlm:=a1.lim;simp (disch:=omega)only[go_sem, *];have x2:Ak h1 ((h1.alloc ⟨1,[[V.i .u32 4294967295],[.i .u32 200],[.i .u32 3]]⟩).alloc ⟨6,[[.i .i64 0,.i .i64 0,.b false,.i .i64 0,.i .u32 0,.i .i64 0]]⟩):=((Ak.refl _).alloc _).alloc _;have a2:=a1.ext hid x2;have g2:((h1.alloc ⟨1,[[V.i .u32 4294967295],[.i .u32 200],[.i .u32 3]]⟩).alloc ⟨6,[[.i .i64 0,.i .i64 0,.b false,.i .i64 0,.i .u32 0,.i .i64 0]]⟩).get h1.next=some ⟨1,[[V.i .u32 4294967295],[.i .u32 200],[.i .u32 3]]⟩:=by rw [AD,Af (by rw [Ac];omega),AD,Ar rfl]
 have m2:((h1.alloc ⟨1,[[V.i .u32 4294967295],[.i .u32 200],[.i .u32 3]]⟩).alloc ⟨6,[[.i .i64 0,.i .i64 0,.b false,.i .i64 0,.i .u32 0,.i .i64 0]]⟩).get (h1.next+1)=some ⟨6,[[.i .i64 0,.i .i64 0,.b false,.i .i64 0,.i .u32 0,.i .i64 0]]⟩:=by rw [AD,Ac,Ar rfl]
 have n2:h1.next+2<=((h1.alloc ⟨1,[[V.i .u32 4294967295],[.i .u32 200],[.i .u32 3]]⟩).alloc ⟨6,[[.i .i64 0,.i .i64 0,.b false,.i .i64 0,.i .u32 0,.i .i64 0]]⟩).next:=Nat.le_refl _;generalize ((h1.alloc ⟨1,[[V.i .u32 4294967295],[.i .u32 200],[.i .u32 3]]⟩).alloc ⟨6,[[.i .i64 0,.i .i64 0,.b false,.i .i64 0,.i .u32 0,.i .i64 0]]⟩)=h2 at a2 g2 m2 n2 ⊢;clear x2 a1 hlm;have hlm:=a2.lim;refine AJ a2.tape a2.jl hL om ?_;intro r j2 r0 r1 r2 hj2;have a3:=a2.tape2 hid hj2;have g3:(h2.put id (An L j2)).get h1.next=some ⟨1,[[V.i .u32 4294967295],[.i .u32 200],[.i .u32 3]]⟩:=by rw [Ae,Af om];exact g2
 have m3:(h2.put id (An L j2)).get (h1.next+1)=some ⟨6,[[.i .i64 0,.i .i64 0,.b false,.i .i64 0,.i .u32 0,.i .i64 0]]⟩:=by rw [Ae,Af om];exact m2
 have n3:h1.next+2<=(h2.put id (An L j2)).next:=n2;generalize h2.put id (An L j2)=h3 at a3 g3 m3 n3 ⊢;clear a2 g2 m2 n2 hlm;have hlm:=a3.lim;obtain ⟨d0,d1,d2⟩:=aY9 f0 (show f<n by omega) r0 r2 hc2;generalize hd:(f+1+r).tmod n=d at d0 d1 d2;simp (disch:=omega)only[go_sem, *];refine AJ a3.tape a3.jl hL om ?_;intro b j3 b0 b1 b2 hj3;have a4:=a3.tape2 hid hj3;have g4:(h3.put id (An L j3)).get h1.next=some ⟨1,[[V.i .u32 4294967295],[.i .u32 200],[.i .u32 3]]⟩:=by rw [Ae,Af om];exact g3
 have m4:(h3.put id (An L j3)).get (h1.next+1)=some ⟨6,[[.i .i64 0,.i .i64 0,.b false,.i .i64 0,.i .u32 0,.i .i64 0]]⟩:=by rw [Ae,Af om];exact m3
 have n4:h1.next+2<=(h3.put id (An L j3)).next:=n3;generalize h3.put id (An L j3)=h4 at a4 g4 m4 n4 ⊢;clear a3 g3 m3 n3 hlm;have hlm:=a4.lim;simp (disch:=omega)only[go_sem, *];refine AJ a4.tape a4.jl hL om ?_;intro u j4 u0 u1 u2 hj4;have a5:=a4.tape2 hid hj4;have g5:(h4.put id (An L j4)).get h1.next=some ⟨1,[[V.i .u32 4294967295],[.i .u32 200],[.i .u32 3]]⟩:=by rw [Ae,Af om];exact g4
 have m5:(h4.put id (An L j4)).get (h1.next+1)=some ⟨6,[[.i .i64 0,.i .i64 0,.b false,.i .i64 0,.i .u32 0,.i .i64 0]]⟩:=by rw [Ae,Af om];exact m4
 have n5:h1.next+2<=(h4.put id (An L j4)).next:=n4;generalize h4.put id (An L j4)=h5 at a5 g5 m5 n5 ⊢;clear a4 g4 m4 n4 hlm;have hlm:=a5.lim;obtain ⟨z,hz,hzt⟩:=bAZ u0 om;simp (disch:=omega)only[go_sem, *];have a6:CS h1.next id L h (h5.put (h1.next+1) ⟨6,[[.i .i64 f,.i .i64 d,.b (decide (b=0)),.i .i64 0,.i .u32 z,.i .i64 0]]⟩) vp vc .ns P Ch [] j4:=a5.keep hid (Nat.le_refl _) rfl (λi hi=>by rw [Ae,Af om]);have m6:(h5.put (h1.next+1) ⟨6,[[.i .i64 f,.i .i64 d,.b (decide (b=0)),.i .i64 0,.i .u32 z,.i .i64 0]]⟩).get (h1.next+1)=some ⟨6,[[.i .i64 f,.i .i64 d,.b (decide (b=0)),.i .i64 0,.i .u32 z,.i .i64 0]]⟩:=by rw [Ae,Ar rfl]
 have n6:h1.next+2<=(h5.put (h1.next+1) ⟨6,[[.i .i64 f,.i .i64 d,.b (decide (b=0)),.i .i64 0,.i .u32 z,.i .i64 0]]⟩).next:=n5;generalize h5.put (h1.next+1) ⟨6,[[.i .i64 f,.i .i64 d,.b (decide (b=0)),.i .i64 0,.i .u32 z,.i .i64 0]]⟩=h6 at a6 m6 n6 ⊢;clear a5 g5 m5 n5 hlm hz;have hlm:=a6.lim;refine Ad (λhb=>?_) (λhb=>?_)
 .have hbt:decide (b=0)=true:=decide_eq_true hb;rw [hbt] at m6;clear hbt;simp (disch:=omega)only[go_sem, *];refine AJ a6.tape a6.jl hL om ?_;intro c j5 c0 c1 c2 hj5;have a7:=a6.tape2 hid hj5;have m7:(h6.put id (An L j5)).get (h1.next+1)=some ⟨6,[[.i .i64 f,.i .i64 d,.b true,.i .i64 0,.i .u32 z,.i .i64 0]]⟩:=by rw [Ae,Af om];exact m6
  have n7:h1.next+2<=(h6.put id (An L j5)).next:=n6;generalize h6.put id (An L j5)=h7 at a7 m7 n7 ⊢;clear a6 m6 n6 hlm;have hlm:=a7.lim;have a8:CS h1.next id L h (h7.put (h1.next+1) ⟨6,[(⟨f,d,true,1+c,z,0⟩:AU).enc]⟩) vp vc .ns P Ch [] j5:=a7.keep hid (Nat.le_refl _) rfl (λi hi=>by rw [Ae,Af om]);have m8:(h7.put (h1.next+1) ⟨6,[(⟨f,d,true,1+c,z,0⟩:AU).enc]⟩).get (h1.next+1)=some ⟨6,[(⟨f,d,true,1+c,z,0⟩:AU).enc]⟩:=by rw [Ae,Ar rfl]
  have n8:h1.next+2<=(h7.put (h1.next+1) ⟨6,[(⟨f,d,true,1+c,z,0⟩:AU).enc]⟩).next:=n7;have hx:C9 n ⟨f,d,true,1+c,z,0⟩=true:=by
   unfold C9;simp only [Bool.and_eq_true,decide_eq_true_eq,reduceIte];omega
  have hbox:=a7.box;have nn:=a7.q2;simp (disch:=omega)only[go_sem, *];refine Av (N:=[(⟨f,d,true,(1+c),z,0⟩:AU).enc]) (a8.sc.alloc _) (by first | omega | (simp (disch:=omega)only[go_sem, *]<;>omega)) (by first | omega | (simp (disch:=omega)only[go_sem, *]<;>omega)) (by simp;omega) ?_;intro vc' h9 s9 g9;have x9:=(Ak.refl (h7.put (h1.next+1) ⟨6,[(⟨f,d,true,1+c,z,0⟩:AU).enc]⟩)).alloc ⟨6,[(⟨f,d,true,(1+c),z,0⟩:AU).enc]⟩;have a9:=a8.grow_c (x:=⟨f,d,true,(1+c),z,0⟩) hid x9 s9 g9;have hb9:h9.get (h.next+1)=some ⟨3,[[vp,vc,.ns]]⟩:=by
   rw [Da g9 (Au a8.sc) (by first | omega | (simp (disch:=omega)only[go_sem, *]<;>omega)) _ om,AD,Af (by first | omega | (simp (disch:=omega)only[go_sem, *]<;>omega))];exact a8.box
  have l9:=g9.lim;have hc9:=g9.cell;have hcs9:=g9.cells;clear s9 g9 x9 hbox;simp only [Bi,El] at l9;simp (disch:=omega)only[go_sem, *];refine ih _ _ _ ?_ ⟨k - 1,j5,vc',Ch++[⟨f,d,true,(1+c),z,0⟩],rfl, ?_⟩
  .omega
  .have hCC:∀ x∈Ch++[(⟨f,d,true,(1+c),z,0⟩:AU)],C9 n x=true/\x.late=0/\I9 x:=λx hx2=>by
    rcases List.mem_append.1 hx2 with h1 | h1
    .exact hC x h1
    .rw [List.mem_singleton] at h1;subst h1;exact ⟨hx,rfl,hzt⟩
   have hLL:((Ch++[(⟨f,d,true,(1+c),z,0⟩:AU)]).length:Int)+(k - 1)<=3:=by rw [List.length_append];simp only [List.length_cons,List.length_nil];omega
   clear ih kk;simp (disch:=omega)only[go_sem, *]
   ((repeat' refine And.intro ?_ ?_)<;>first | omega | assumption | (exact a9) | (exact hCC) | (exact hLL))
 .have hbf:decide (b=0)=false:=decide_eq_false hb;rw [hbf] at m6;clear hbf;have hx:C9 n ⟨f,d,false,0,z,0⟩=true:=by
   unfold C9;simp;omega
  have hbox:=a6.box;have nn:=a6.q2;simp (disch:=omega)only[go_sem, *];refine Av (N:=[(⟨f,d,false,0,z,0⟩:AU).enc]) (a6.sc.alloc _) (by first | omega | (simp (disch:=omega)only[go_sem, *]<;>omega)) (by first | omega | (simp (disch:=omega)only[go_sem, *]<;>omega)) (by simp;omega) ?_;intro vc' h9 s9 g9;have x9:=(Ak.refl (h6)).alloc ⟨6,[(⟨f,d,false,0,z,0⟩:AU).enc]⟩;have a9:=a6.grow_c (x:=⟨f,d,false,0,z,0⟩) hid x9 s9 g9;have hb9:h9.get (h.next+1)=some ⟨3,[[vp,vc,.ns]]⟩:=by
   rw [Da g9 (Au a6.sc) (by first | omega | (simp (disch:=omega)only[go_sem, *]<;>omega)) _ om,AD,Af (by first | omega | (simp (disch:=omega)only[go_sem, *]<;>omega))];exact a6.box
  have l9:=g9.lim;have hc9:=g9.cell;have hcs9:=g9.cells;clear s9 g9 x9 hbox;simp only [Bi,El] at l9;simp (disch:=omega)only[go_sem, *];refine ih _ _ _ ?_ ⟨k - 1,j4,vc',Ch++[⟨f,d,false,0,z,0⟩],rfl, ?_⟩
  .omega
  .have hCC:∀ x∈Ch++[(⟨f,d,false,0,z,0⟩:AU)],C9 n x=true/\x.late=0/\I9 x:=λx hx2=>by
    rcases List.mem_append.1 hx2 with h1 | h1
    .exact hC x h1
    .rw [List.mem_singleton] at h1;subst h1;exact ⟨hx,rfl,hzt⟩
   have hLL:((Ch++[(⟨f,d,false,0,z,0⟩:AU)]).length:Int)+(k - 1)<=3:=by rw [List.length_append];simp only [List.length_cons,List.length_nil];omega
   clear ih kk;simp (disch:=omega)only[go_sem, *]
   ((repeat' refine And.intro ?_ ?_)<;>first | omega | assumption | (exact a9) | (exact hCC) | (exact hLL))
end
end Go.Ab.T
namespace Go.Ab.T
open Go Go.Ab
set_option maxHeartbeats 4000000
theorem Sl.weak {b b' sz:Nat} {h:AH} {v:V} {R:List (List V)} (s:Sl b h sz v R) (hb:b'<=b):Sl b' h sz v R:=by
 rcases s with hs | ⟨i,el,cap,cs,rfl,hg,a1,a2,a3,a4,a5,a6⟩
 .exact .inl hs
 .exact .inr ⟨i,el,cap,cs,rfl,hg,a1,a2,a3,a4,om,a6⟩
theorem Sl.frzs {b sz:Nat} {h:AH} {v:V} {R:List (List V)} {P:Nat->Prop} (s:Sl b h sz v R):CY P h h.next v v:=by
 rcases s with ⟨hv,_⟩ | ⟨i,el,cap,cs,rfl,hg,a1,a2,a3,a4,a5,a6⟩
 .rcases hv with rfl | rfl
  .exact .z _ _ .ns
  .exact .z _ _ .e0
 .exact .so _ _ _ _ _ a4
theorem U3 {b sz i:Nat} {h:AH} {v:V} {R:List (List V)} (s:Sl b h sz v R) (d:AA v=true\/Ap v≠i):Sl b (h.kill i) sz v R:=by
 rcases d with d | d
 .rcases s with hs | ⟨_,_,_,_,rfl,_⟩
  .exact .inl hs
  .cases d
 .exact s.same (Nat.le_refl _) (λ_=>by rw [B6,Af d])
structure Made (C:Am):Prop where
 wh:Bu C=(0,-1)
 nm:Js C
 ch:C.chans.length<=3
 tb:C.tables.length<=2
 pt:C.parts.length<=4
 tops:∀ x∈C.chans,I9 x
section
variable {id:Nat} {L:List Int} {h h' h2:AH} {P:List Part} {Ch:List AU} {j:Nat}
theorem YP {K : Ex -> Env -> AH -> Prop} {e : Env} {n k : Int} {vp vc : V} (hid : id < h.next) (hlo : h.lim <= id) (hL : L.length < 4000000000) (hn1 : 1 <= n) (hn : n <= 4) (hk : k <= 1) (hk0 : 0 <= k) (a : CS h'.next id L h h' vp vc .ns P Ch [] j)
    (e0:e 0=.p id 0 0) (e2:e 2=.p h.next 0 0) (e3:e 3=.p (h.next+1) 0 0) (e4:e 4=.i .i64 n) (e12:e 12=.i .i64 k)
    (kk:∀ e' h' j vt T,e' 0=.p id 0 0->e' 2=.p h.next 0 0->e' 3=.p (h.next+1) 0 0->CS h'.next id L h h' vp vc vt P Ch T j->1<=T.length->T.length<=2->(∀ x∈T,DA n x)->K (.ex 8) e' h'):ZC tp (.loop XA) e h' K:=by
 refine Ai (λn' e hh=>∃ (q:Int) (j:Nat) (vt:V) (T:List (List Node)),n'=(q+1).toNat/\e 0=.p id 0 0/\e 2=.p h.next 0 0/\e 3=.p (h.next+1) 0 0/\e 4=.i .i64 n/\e 12=.i .i64 q/\CS hh.next id L h hh vp vc vt P Ch T j/\T.length+q=k/\-1<=q/\∀ x∈T,DA n x) ?_ _ _ _ ⟨k,j,.ns,[],rfl,e0,e2,e3,e4,e12,a,by simp,om,(λx hx=>by cases hx)⟩;clear e0 e2 e3 e4 e12 e a;rintro n' e hh ⟨q,j,vt,T,rfl,e0,e2,e3,e4,e12,a,hq,hq0,hT⟩ ih;have hlm:=a.lim;have q1:=a.q1;have hbox:=a.box;have hsv:=Sl.sameV a.st;obtain ⟨_,_,_,_,_,_,_,tcell,tcells⟩:=a.st.facts;rw [Ao XA.eq_1];simp (disch:=omega)only[go_sem, *];refine Ad (λhc=>?_) (λhc=>?_)
 .simp (disch:=omega)only[go_sem, *];refine Zq hn1 om hL a.tape a.jl om ?_;intro x j1 hx hxl hj1;have a1:=a.tape2 hid hj1;have n1:(hh.put id (An L j1)).next=hh.next:=rfl;rw [<- n1] at a1 q1;clear n1;generalize hh.put id (An L j1)=h1 at a1 q1 ⊢;clear a hlm hbox;have hlm:=a1.lim;have hbox:=a1.box;simp (disch:=omega)only[go_sem, *];refine Av (N:=[Tab.enc x]) (a1.st.alloc _) (by first | omega | (simp (disch:=omega)only[go_sem, *]<;>omega)) (by first | omega | (simp (disch:=omega)only[go_sem, *]<;>omega)) (by simp;omega) ?_;intro vt' h9 s9 g9;have x9:=(Ak.refl h1).alloc ⟨1,[Tab.enc x]⟩;have a9:=a1.grow_t (x:=x) hid x9 s9 g9;have hb9:h9.get (h.next+1)=some ⟨3,[[vp,vc,vt]]⟩:=by
   rw [Da g9 (Au a1.st) (by first | omega | (simp (disch:=omega)only[go_sem, *]<;>omega)) _ om,AD,Af (by first | omega | (simp (disch:=omega)only[go_sem, *]<;>omega))];exact a1.box
  have l9:=g9.lim;have hc9:=g9.cell;have hcs9:=g9.cells;clear s9 g9 x9 hbox;simp only [Bi,El] at l9;simp (disch:=omega)only[go_sem, *];refine ih _ _ _ ?_ ⟨q - 1,j1,vt',T++[x],rfl, ?_⟩
  .omega
  .have hTT:∀ y∈T++[x],DA n y:=λy hy=>by
    rcases List.mem_append.1 hy with h1 | h1
    .exact hT y h1
    .rw [List.mem_singleton] at h1;subst h1;exact hx
   have hLL:((T++[x]).length:Int)+(q - 1)=k:=by rw [List.length_append];simp only [List.length_cons,List.length_nil];omega
   clear ih kk;simp (disch:=omega)only[go_sem, *]
   ((repeat' refine And.intro ?_ ?_)<;>first | omega | assumption | (exact a9) | (exact hTT) | (exact hLL))
 .simp (disch:=omega)only[go_sem, *];exact kk _ hh j vt T e0 e2 e3 a om om hT
end
theorem VF {h : AH} {id k : Nat} {L : List Int} {K : V -> AH -> Prop} (hg : h.get id = some (An L k)) (hk : k <= L.length) (hL : L.length < 4000000000) (hlo : h.lim <= id)
    (kk:∀ C j,j<=L.length->Made C->K (.agg C.enc) (h.put id (An L j))):Cq tp sU [.p id 0 0] h K:=by
 refine Ft aYT (by simp [eL]) hg λhlm hid rp=>?_;unfold eL;simp (disch:=omega)only[go_sem, *];have x0:Ak h ((h.alloc ⟨3,[[.ns,.ns,.ns]]⟩).alloc ⟨3,[[.ns,.ns,.ns]]⟩):=by (repeat (first | exact Ak.refl _ | refine Ak.alloc ?_ _ | (refine Ak.put ?_ _ _ ?_;rotate_left;(first | omega | (simp only [Ac,Ah];omega)))))
 have a0:CS ((h.alloc ⟨3,[[.ns,.ns,.ns]]⟩).alloc ⟨3,[[.ns,.ns,.ns]]⟩).next id L h ((h.alloc ⟨3,[[.ns,.ns,.ns]]⟩).alloc ⟨3,[[.ns,.ns,.ns]]⟩) .ns .ns .ns [] [] [] k:=⟨Nat.le_refl _,Nat.le_refl _,rfl,(x0.get _ om).trans hg,hk,by simp (disch:=omega)only[go_sem, *],by simp (disch:=omega)only[go_sem, *],λi hi _=>x0.get i hi,Sl.nil _ _ _,Sl.nil _ _ _,Sl.nil _ _ _,.inl rfl,.inl rfl,.inl rfl,.inl rfl,.inl rfl,.inl rfl⟩
 have n0:((h.alloc ⟨3,[[.ns,.ns,.ns]]⟩).alloc ⟨3,[[.ns,.ns,.ns]]⟩).next=h.next+2:=rfl;generalize (h.alloc ⟨3,[[.ns,.ns,.ns]]⟩).alloc ⟨3,[[.ns,.ns,.ns]]⟩=h1 at a0 n0 ⊢;clear x0 n0;refine AJ a0.tape a0.jl hL (by have:=a0.lim;omega) ?_;intro v j1 v0 v1 v2 hj1;have a1:=a0.tape2 hid hj1;have n1:(h1.put id (An L j1)).next=h1.next:=rfl;rw [<- n1] at a1;clear n1;generalize h1.put id (An L j1)=h2 at a1 ⊢;clear a0;obtain ⟨m,hm⟩:∃ m:Nat,1+v=m:=⟨(1+v).toNat,om⟩
 simp (disch:=omega)only[go_sem, *];refine Vx (n:=m) hid hlo hL om a1 (by simp (disch:=omega)only[go_sem, *]) (by simp (disch:=omega)only[go_sem, *]) (by simp (disch:=omega)only[go_sem, *]) (by simp (disch:=omega)only[go_sem, *]) (by simp (disch:=omega)only[go_sem, *]) ?_;clear a1;intro e h3 j3 vp P e0 e2 e3 e4 a3 hPl hP;have hlm3:=a3.lim;simp (disch:=omega)only[go_sem, *];refine AJ a3.tape a3.jl hL om ?_;intro c j4 c0 c1 c2 hj4;have a4:=a3.tape2 hid hj4;have n4:(h3.put id (An L j4)).next=h3.next:=rfl;rw [<- n4] at a4;clear n4;generalize h3.put id (An L j4)=h4 at a4 ⊢;clear a3 hlm3;simp (disch:=omega)only[go_sem, *];refine Vw (k:=c) (n:=m) hid hlo hL om om c0 a4 (by simp (disch:=omega)only[go_sem, *]) (by simp (disch:=omega)only[go_sem, *]) (by simp (disch:=omega)only[go_sem, *]) (by simp (disch:=omega)only[go_sem, *]) (by simp (disch:=omega)only[go_sem, *]) ?_;clear a4 e0 e2 e3 e4 e;intro e h5 j5 vc Ch e0 e2 e3 e4 a5 hCl hC;have hlm5:=a5.lim;simp (disch:=omega)only[go_sem, *];refine AJ a5.tape a5.jl hL om ?_;intro t j6 t0 t1 t2 hj6;have a6:=a5.tape2 hid hj6;have n6:(h5.put id (An L j6)).next=h5.next:=rfl;rw [<- n6] at a6;clear n6;generalize h5.put id (An L j6)=h6 at a6 ⊢;clear a5 hlm5;simp (disch:=omega)only[go_sem, *];refine YP (k:=t) (n:=m) hid hlo hL om om om t0 a6 (by simp (disch:=omega)only[go_sem, *]) (by simp (disch:=omega)only[go_sem, *]) (by simp (disch:=omega)only[go_sem, *]) (by simp (disch:=omega)only[go_sem, *]) (by simp (disch:=omega)only[go_sem, *]) ?_;clear a6 e0 e2 e3 e4 e;intro e h7 j7 vt T e0 e2 e3 a hT1 hT2 hT;have hbox:=a.box;have q1:=a.q1;obtain ⟨_,_,_,_,_,_,_,pcell,pcells⟩:=a.sp.facts;obtain ⟨_,_,_,_,_,_,_,ccell,ccells⟩:=a.sc.facts;obtain ⟨_,_,tlt,tlo,_,_,_,tcell,tcells⟩:=a.st.facts;have tlt:=tlt om;have tlo:=tlo om;have hbare:jE P Ch T:=by
  refine ⟨?_,om,om,om,hT1,om,λi hi=>?_,λx hx=>by rw [hPl];exact hC x hx,λx hx=>by rw [hPl];exact hT x hx,λp hp=>?_⟩
  .apply List.ext_getElem
   .simp
   .intro i h1 h2;have:=(hP i om).2.2;rw [Ba h2] at this;simpa using this
  .have hi4:=hP i om;refine ⟨by rw [hi4.1];exact UX om, ?_,hi4.2.1⟩;refine Jb (λq hq=>?_) om;rw [decide_eq_false_iff_not,hi4.1,(hP q om).1];exact tZ om om om
  .obtain ⟨i,hi,rfl⟩:=List.mem_iff_getElem.1 hp;have hi4:=(hP i om).1;have hok:=UX (i:=i) om;rw [Ba hi] at hi4;rw [hi4];unfold EI at hok;simp only [decide_eq_true_eq] at hok;omega
 have hnt:AA vt=false:=by
  rcases a.st with ⟨_,hR⟩ | ⟨_,_,_,_,rfl,_⟩
  .have:T=[]:=by simpa using hR
   subst this;simp at hT1
  .rfl
 have dpt:AA vp=true\/Ap vp≠Ap vt:=by rcases a.pt with d | d | d;exact .inl d;(rw [hnt] at d;cases d);exact .inr d
 have dct:AA vc=true\/Ap vc≠Ap vt:=by rcases a.ct with d | d | d;exact .inl d;(rw [hnt] at d;cases d);exact .inr d
 simp (disch:=omega)only[go_sem, *];refine aAE (Ap vt) (args':=[.p id 0 0,.agg [vp,vc,.fl 1 (T.map Tab.enc)]]) (.cons _ _ _ _ _ (.p _ _ _ _ om) (.cons _ _ _ _ _ (.agg _ _ _ (.cons _ _ _ _ _ (Sl.frzs a.sp) (.cons _ _ _ _ _ (Sl.frzs a.sc) (.cons _ _ _ _ _ (a.st.froze (λ_=>rfl) rfl om) (.nil _))))) (.nil _))) ?_;refine oT (b:=h.next+2) hbare hL a.jl q1 om (by have:=a.lim;show h7.lim<=id;omega) (by rw [B6,Af om];exact a.tape) (U3 a.sp dpt) (U3 a.sc dct) a.pc ?_;intro P' Ch' h8 j8 hj8 htp hw hnm hPl' hCl' hn8 hl8 hg8 hlow hsp hsc;have hres:h8.get h.next=some ⟨3,[[.ns,.ns,.ns]]⟩:=by rw [hlow _ om om,B6,Af om];exact a.res
 have hl8':h8.lim=h.lim:=hl8.trans a.lim;have hn8':h7.next<=h8.next:=hn8;have hres7:=a.res;clear hbox hl8 hn8;simp (disch:=omega)only[go_sem, *];refine ⟨.agg (Am.enc ⟨P',Ch',T⟩),j8, ?_,⟨by rw [Ah];omega,hl8',by rw [Ae,Af om];exact hg8,λi hi hn=>?_⟩,kk ⟨P',Ch',T⟩ j8 hj8 ⟨hw,hnm,by simp only;omega,hT2,by simp only;omega,htp⟩⟩
 .refine .agg _ _ _ (.cons _ _ _ _ _ (Sl.frzb (Sl.weak (AC hsp _ _ ((Au hsp).imp (λx=>x) (λx=>by omega))) om) (λ_=>rfl) (by simp only;omega)) (.cons _ _ _ _ _ (Sl.frzb (Sl.weak (AC hsc _ _ ((Au hsc).imp (λx=>x) (λx=>by omega))) om) (λ_=>rfl) (by simp only;omega)) (.cons _ _ _ _ _ (.fl _ _ _) (.nil _))))
 .rw [Ae,Af om,hlow _ om hn,B6,Af om];exact a.low i hi hn
end Go.Ab.T
namespace Go.Ab.T
open Go Go.Ab
set_option maxHeartbeats 2000000
structure Dd (b q:Nat) (h:AH) (l:List (Nat×V×List (List V))):Prop where
 bq:b<=q
 q2:q<=h.next
 sl:∀ (i:Nat) (a:Nat×V×List (List V)),l[i]?=some a->Sl b h a.1 a.2.1 a.2.2
 lt:∀ (i:Nat) (a:Nat×V×List (List V)),l[i]?=some a->AA a.2.1=true\/Ap a.2.1<q
 dj:∀ (i j:Nat) (a c:Nat×V×List (List V)),i≠j->l[i]?=some a->l[j]?=some c->Dj a.2.1 c.2.1
section
variable {b q:Nat} {h h2:AH} {l:List (Nat×V×List (List V))}
theorem Dd.keep (o:Dd b q h l) (hn:h.next<=h2.next) (g:∀ i,i<q->h2.get i=h.get i):Dd b q h2 l:=
 ⟨o.bq,Nat.le_trans o.q2 hn,λi a e=>JN (o.sl i a e) (o.lt i a e) hn g,o.lt,o.dj⟩
theorem Dd.ext (o:Dd b q h l) (x:Ak h h2):Dd b q h2 l:=o.keep x.next (λi hi=>x.get i (by have:=o.q2;omega))
theorem Dd.up {q':Nat} (o:Dd b q h l) (h1:q<=q') (h2:q'<=h.next):Dd b q' h l:=
 ⟨Nat.le_trans o.bq h1,h2,o.sl,λi a e=>(o.lt i a e).imp (λx=>x) (λx=>by omega),o.dj⟩
theorem Dd.put (o:Dd b q h l) (i:Nat) (k:BJ) (hi:i<b\/q<=i):Dd b q (h.put i k) l:=by
 refine ⟨o.bq,o.q2,λj a e=>AC (o.sl j a e) _ _ ?_,o.lt,o.dj⟩;have h1:=Au (o.sl j a e);have h2:=o.lt j a e;rcases h1 with h1 | h1
 .exact .inl h1
 .rcases h2 with h2 | h2
  .exact .inl h2
  .exact .inr om
theorem Dd.low {b' i:Nat} {a:Nat×V×List (List V)} {h1 h3:AH} {v:V} (o:Dd b q h l) (e:l[i]?=some a) (x:Ak h h1) (g:Grown b' h1 a.2.1 v h3):∀ k,k<b->h3.get k=h.get k:=λk hk=>by
 have:=o.bq;have:=o.q2;have:=x.next;rw [g.get k om ((Au (o.sl i a e)).imp (λx=>x) (λx=>by omega)),x.get k om]
theorem Dd.grow {b' i:Nat} {a:Nat×V×List (List V)} {h1 h3:AH} {v:V} {R:List (List V)} (o:Dd b q h l) (e:l[i]?=some a) (x:Ak h h1) (g:Grown b' h1 a.2.1 v h3) (s:Sl b h3 a.1 v R):Dd b h3.next h3 (l.set i (a.1,v,R)):=by
 have n0:=o.bq;have n1:=o.q2;have n2:=x.next;have n3:=g.next;have hi:i<l.length:=(List.getElem?_eq_some_iff.1 e).1;have o1:=o.ext x;refine ⟨om,Nat.le_refl _,λj c ej=>?_,λj c ej=>?_,λj k c d hjk ej ek=>?_⟩
 .by_cases hji:i=j
  .subst hji;rw [List.getElem?_set_self hi] at ej;cases ej;exact s
  .rw [List.getElem?_set_ne hji] at ej;exact ER (o1.sl j c ej) g (o.dj i j a c hji e ej)
 .by_cases hji:i=j
  .subst hji;rw [List.getElem?_set_self hi] at ej;cases ej;exact Dw s
  .rw [List.getElem?_set_ne hji] at ej;exact (o.lt j c ej).imp (λx=>x) (λx=>by omega)
 .by_cases hji:i=j
  .subst hji;rw [List.getElem?_set_self hi] at ej;rw [List.getElem?_set_ne hjk] at ek;cases ej;exact D1 g (o.dj i k a d hjk e ek) ((o.lt k d ek).imp (λx=>x) (λx=>by omega))
  .rw [List.getElem?_set_ne hji] at ej
   by_cases hki:i=k
   .subst hki;rw [List.getElem?_set_self hi] at ek;cases ek;exact EF (D1 g (o.dj i j a c hji e ej) ((o.lt j c ej).imp (λx=>x) (λx=>by omega)))
   .rw [List.getElem?_set_ne hki] at ek;exact o.dj j k c d hjk ej ek
theorem Dd.set {i n:Nat} {a:Nat×V×List (List V)} {r:List V} (o:Dd b q h l) (e:l[i]?=some a) (hn:n<a.2.2.length):Dd b q (h.put (Ap a.2.1) ⟨a.1,(AP h a.2.1).set (Ca a.2.1+n) r⟩) (l.set i (a.1,a.2.1,a.2.2.set n r)):=by
 have hi:i<l.length:=(List.getElem?_eq_some_iff.1 e).1;have hnil:AA a.2.1=false:=by
  rcases o.sl i a e with ⟨_,hR⟩ | ⟨_,_,_,_,hv,_⟩
  .rw [hR] at hn;simp at hn
  .rw [hv];rfl
 refine ⟨o.bq,o.q2,λj c ej=>?_,λj c ej=>?_,λj k c d hjk ej ek=>?_⟩
 .by_cases hji:i=j
  .subst hji;rw [List.getElem?_set_self hi] at ej;cases ej;exact Sl.of_get (o.sl i a e) hn (Nat.le_refl _) (by rw [Ae,Ar rfl])
  .rw [List.getElem?_set_ne hji] at ej;refine AC (o.sl j c ej) _ _ ?_;rcases o.dj i j a c hji e ej with d | d | d
   .rw [d] at hnil;cases hnil
   .exact .inl d
   .exact .inr d
 .by_cases hji:i=j
  .subst hji;rw [List.getElem?_set_self hi] at ej;cases ej;exact o.lt i a e
  .rw [List.getElem?_set_ne hji] at ej;exact o.lt j c ej
 .by_cases hji:i=j
  .subst hji;rw [List.getElem?_set_self hi] at ej;rw [List.getElem?_set_ne hjk] at ek;cases ej;exact o.dj i k a d hjk e ek
  .rw [List.getElem?_set_ne hji] at ej
   by_cases hki:i=k
   .subst hki;rw [List.getElem?_set_self hi] at ek;cases ek;exact o.dj j i c a hjk ej e
   .rw [List.getElem?_set_ne hki] at ek;exact o.dj j k c d hjk ej ek
theorem Dd.new {i sz:Nat} {v:V} {R:List (List V)} (o:Dd b q h l) (hi:i<l.length) (s:Sl q h sz v R):Dd b h.next h (l.set i (sz,v,R)):=by
 have n0:=o.bq;have n1:=o.q2;have hv:=Au s;refine ⟨om,Nat.le_refl _,λj c ej=>?_,λj c ej=>?_,λj k c d hjk ej ek=>?_⟩
 .by_cases hji:i=j
  .subst hji;rw [List.getElem?_set_self hi] at ej;cases ej;exact Sl.weak s n0
  .rw [List.getElem?_set_ne hji] at ej;exact o.sl j c ej
 .by_cases hji:i=j
  .subst hji;rw [List.getElem?_set_self hi] at ej;cases ej;exact Dw s
  .rw [List.getElem?_set_ne hji] at ej;exact (o.lt j c ej).imp (λx=>x) (λx=>by omega)
 .have ap:∀ (j:Nat) (c:Nat×V×List (List V)),l[j]?=some c->Dj v c.2.1:=λj c ej=>by
   rcases hv with hv | hv
   .exact .inl hv
   .rcases o.lt j c ej with k | k
    .exact .inr (.inl k)
    .exact .inr (.inr om)
  by_cases hji:i=j
  .subst hji;rw [List.getElem?_set_self hi] at ej;rw [List.getElem?_set_ne hjk] at ek;cases ej;exact ap k d ek
  .rw [List.getElem?_set_ne hji] at ej
   by_cases hki:i=k
   .subst hki;rw [List.getElem?_set_self hi] at ek;cases ek;exact EF (ap j c ej)
   .rw [List.getElem?_set_ne hki] at ek;exact o.dj j k c d hjk ej ek
theorem Dd.nil (hb:b<=h.next) (hl:∀ a∈l,a.2.1=.ns/\a.2.2=[]):Dd b h.next h l:=
 ⟨hb,Nat.le_refl _,λi a e=>by have:=hl a (List.mem_of_getElem? e);rw [this.1,this.2];exact Sl.nil _ _ _,λi a e=>by have:=hl a (List.mem_of_getElem? e);rw [this.1];exact .inl rfl,λi j a c _ e _=>by have:=hl a (List.mem_of_getElem? e);rw [this.1];exact .inl rfl⟩
end
end Go.Ab.T
namespace Go.Ab.T
open Go Go.Ab
set_option maxHeartbeats 4000000
theorem VC {b:Nat} {h:AH} {v:V} {R:List (List V)} {K:V->AH->Prop} (s:Sl b h 2 v R) (k:∀ v',Sl b h 2 v' R->K v' h):Cq tp Uw [v] h K:=by
 obtain ⟨len,big,_,_,_,_,_,cell,cells⟩:=Sl.facts (enc:=λx=>x) (L:=R) (by simpa using s);refine Aa Zk (by simp [LT]) λwf rp=>?_;unfold LT;simp (disch:=omega)only[go_sem, *];refine Iw s (λv' s' _=>?_);simp (disch:=omega)only[go_sem, *]
theorem Vz {b:Nat} {h:AH} {v:V} {R:List (List V)} {K:V->AH->Prop} (s:Sl b h 6 v R) (k:∀ v',Sl b h 6 v' R->K v' h):Cq tp ZZ [v] h K:=by
 obtain ⟨len,big,_,_,_,_,_,cell,cells⟩:=Sl.facts (enc:=λx=>x) (L:=R) (by simpa using s);refine Aa aMN (by simp [Qy]) λwf rp=>?_;unfold Qy;simp (disch:=omega)only[go_sem, *];refine Iw s (λv' s' _=>?_);simp (disch:=omega)only[go_sem, *]
theorem VA {b:Nat} {h:AH} {v:V} {R:List (List V)} {K:V->AH->Prop} (s:Sl b h 3 v R) (k:∀ v',Sl b h 3 v' R->K v' h):Cq tp Uy [v] h K:=by
 obtain ⟨len,big,_,_,_,_,_,cell,cells⟩:=Sl.facts (enc:=λx=>x) (L:=R) (by simpa using s);refine Aa Zm (by simp [LV]) λwf rp=>?_;unfold LV;simp (disch:=omega)only[go_sem, *];refine Iw s (λv' s' _=>?_);simp (disch:=omega)only[go_sem, *]
@[go_sem] def Part.encO (v:V) (x:Part):List V:=[.s x.name,.i .i64 x.budget,.i .i64 x.period,.b x.sched,.b x.stop,v,.i .i64 x.h0,.i .i64 x.h1,.i .i64 x.h2,.i .i64 x.h3,.i .i64 x.h4]
def EW (ow:Bool) (v:V):List Part->List (List V)
 | []=>[]
 | p::l=>(if ow=true then p.encO v else p.enc)::l.map Part.enc
def EX (ow:Bool) (v:V):List (List Node)->List (List V)
 | []=>[]
 | t::l=>[if ow=true then v else .fl 3 (t.map Node.enc)]::l.map Tab.enc
def r1 (ow:Bool):List Part->List (List V)
 | []=>[]
 | p::_=>if ow=true then p.procs.map Bl.enc else []
def r2 (ow:Bool):List (List Node)->List (List V)
 | []=>[]
 | t::_=>if ow=true then t.map Node.enc else []
theorem Tk {ow:Bool} {v:V} {A:List Part} {p:Part} (h:A≠[]):EW ow v (A++[p])=EW ow v A++[p.enc]:=by
 cases A with
 | nil=>exact absurd rfl h
 | cons a l=>simp [EW]
theorem Tl {ow:Bool} {v:V} {A:List (List Node)} {p:List Node} (h:A≠[]):EX ow v (A++[p])=EX ow v A++[Tab.enc p]:=by
 cases A with
 | nil=>exact absurd rfl h
 | cons a l=>simp [EX]
theorem dE {v:V} {A:List Part}:EW false v A=A.map Part.enc:=by cases A<;>simp [EW]
theorem dF {v:V} {A:List (List Node)}:EX false v A=A.map Tab.enc:=by cases A<;>simp [EX,Tab.enc]
theorem uU {ow:Bool} {A:List Part} {p:Part} (h:A≠[]):r1 ow (A++[p])=r1 ow A:=by
 cases A with
 | nil=>exact absurd rfl h
 | cons a l=>rfl
theorem uV {ow:Bool} {A:List (List Node)} {p:List Node} (h:A≠[]):r2 ow (A++[p])=r2 ow A:=by
 cases A with
 | nil=>exact absurd rfl h
 | cons a l=>rfl
def Dz (ow:Bool) (vp vc vt o1 o2:V) (A:List Part) (X:List AU) (B:List (List Node)):List (Nat×V×List (List V)):=
 [(11,vp,EW ow o1 A),(6,vc,X.map AU.enc),(1,vt,EX ow o2 B),(2,o1,r1 ow A),(3,o2,r2 ow B)]
structure KS (ow:Bool) (C:Am) (h h':AH) (vp vc vt o1 o2:V) (A:List Part) (X:List AU) (B:List (List Node)):Prop where
 own:Dd (h.next+3) h'.next h' (Dz ow vp vc vt o1 o2 A X B)
 lim:h'.lim=h.lim
 low:∀ i,i<h.next->h'.get i=h.get i
 arg:h'.get h.next=some ⟨3,[C.enc]⟩
 res:h'.get (h.next+1)=some ⟨3,[[.ns,.ns,.ns]]⟩
 box:h'.get (h.next+2)=some ⟨3,[[vp,vc,vt]]⟩
end Go.Ab.T
namespace Go.Ab.T
open Go Go.Ab
set_option maxHeartbeats 4000000
section
variable {ow:Bool} {C:Am} {h h':AH} {vp vc vt o1 o2:V} {A:List Part} {X:List AU} {B:List (List Node)}
theorem KS.keep {h2:AH} (a:KS ow C h h' vp vc vt o1 o2 A X B) (hn:h'.next<=h2.next) (hl:h2.lim=h'.lim) (g:∀ i,i<h'.next->h2.get i=h'.get i):Dd (h.next+3) h'.next h2 (Dz ow vp vc vt o1 o2 A X B)/\h2.lim=h.lim/\(∀ i,i<h.next->h2.get i=h.get i)/\h2.get h.next=some ⟨3,[C.enc]⟩/\h2.get (h.next+1)=some ⟨3,[[.ns,.ns,.ns]]⟩/\h2.get (h.next+2)=some ⟨3,[[vp,vc,vt]]⟩:=by
 have:=a.own.bq;exact ⟨a.own.keep hn g,hl.trans a.lim,λi hi=>(g i om).trans (a.low i hi),(g _ om).trans a.arg,(g _ om).trans a.res,(g _ om).trans a.box⟩
theorem KS.mk2 {h5 : AH} {q : Nat} {vp' vc' vt' o1' o2' : V} {A' : List Part} {X' : List AU} {B' : List (List Node)} (o : Dd (h.next + 3) q h5 (Dz ow vp' vc' vt' o1' o2' A' X' B')) (hl : h5.lim = h.lim) (low : ∀ i, i < h.next -> h5.get i = h.get i) (arg : h5.get h.next = some ⟨3, [C.enc]⟩) (res : h5.get (h.next + 1) = some ⟨3, [[.ns, .ns, .ns]]⟩) :
    KS ow C h (h5.put (h.next+2) ⟨3,[[vp',vc',vt']]⟩) vp' vc' vt' o1' o2' A' X' B':=by
 have:=o.bq;have:=o.q2;exact ⟨(o.put _ _ (.inl om)).up (by rw [Ah];omega) (Nat.le_refl _),hl,λi hi=>by rw [Ae,Af om];exact low i hi,by rw [Ae,Af om];exact arg,by rw [Ae,Af om];exact res,by rw [Ae,Ar rfl]⟩
theorem MP {ow:Bool} {v:V} {A:List Part}:(EW ow v A).length=A.length:=by cases A<;>simp [EW]
theorem MQ {ow:Bool} {v:V} {A:List (List Node)}:(EX ow v A).length=A.length:=by cases A<;>simp [EX]
theorem cI {i:Nat} {w:V} {Ps:List Part} (hcase:¬ (ow=true/\i=0)) (hi:i<=Ps.length) (hts:Ps.take (i+1)=Ps.take i++[nth Ps i]) (hc:i<Ps.length):Dz ow w .ns .ns o1 .ns (Ps.take (i+1)) [] []=(Dz ow vp .ns .ns o1 .ns (Ps.take i) [] []).set 0 (11,w,EW ow o1 (Ps.take i)++[(nth Ps i).enc]):=by
 rw [hts]
 by_cases h0:i=0
 .have hf:ow=false:=by cases ow with | false=>rfl | true=>exact absurd ⟨rfl,h0⟩ hcase
  subst hf;subst h0;simp [Dz,EW,r1]
 .have hne:Ps.take i≠[]:=by
   intro h;have:(Ps.take i).length=0:=by rw [h];rfl
   rw [List.length_take] at this;omega
  rw [Dz,Tk hne,uU hne];rfl
theorem RN {K : Ex -> Env -> AH -> Prop} {e : Env} (hlo : h.lim <= h.next) (hPl : C.parts.length < 4000000000) (a : KS ow C h h' .ns .ns .ns .ns .ns [] [] [])
    (e1:e 1=.p h.next 0 0) (e2:e 2=.p (h.next+1) 0 0) (e3:e 3=.p (h.next+2) 0 0) (e9:e 9=.fl 11 (C.parts.map Part.enc)) (e10:e 10=.i .i64 C.parts.length) (e11:e 11=.i .i64 0)
    (kk:∀ e' h' vp o1,e' 1=.p h.next 0 0->e' 2=.p (h.next+1) 0 0->e' 3=.p (h.next+2) 0 0->KS ow C h h' vp .ns .ns o1 .ns C.parts [] []->K (.ex 0) e' h'):ZC tp (.loop bBj) e h' K:=by
 refine Ai (λn' e hh=>∃ (i:Nat) (vp o1:V),n'=C.parts.length - i/\e 1=.p h.next 0 0/\e 2=.p (h.next+1) 0 0/\e 3=.p (h.next+2) 0 0/\e 9=.fl 11 (C.parts.map Part.enc)/\e 10=.i .i64 C.parts.length/\e 11=.i .i64 i/\i<=C.parts.length/\KS ow C h hh vp .ns .ns o1 .ns (C.parts.take i) [] []) ?_ _ _ _ ⟨0,.ns,.ns,rfl,e1,e2,e3,e9,e10,e11,om,a⟩;clear e1 e2 e3 e9 e10 e11 e a;rintro n' e hh ⟨i,vp,o1,rfl,e1,e2,e3,e9,e10,e11,hi,a⟩ ih;have hbq:=a.own.bq;have hlh:=a.lim;rw [Ao bBj.eq_1];simp (disch:=omega)only[go_sem, *];refine Ad (λhc=>?_) (λhc=>?_)
 .have hts:=Db (L:=C.parts) (i:=i) om;simp (disch:=omega)only[go_sem, *];have x1:Ak hh ((hh.alloc ⟨11,[[.s ⟨#[]⟩,.i .i64 0,.i .i64 0,.b false,.b false,.ns,.i .i64 0,.i .i64 0,.i .i64 0,.i .i64 0,.i .i64 0]]⟩).put hh.next ⟨11,[(nth C.parts i).enc]⟩):=by (repeat (first | exact Ak.refl _ | refine Ak.alloc ?_ _ | (refine Ak.put ?_ _ _ ?_;rotate_left;(first | omega | (simp only [Ac,Ah];omega)))))
  have b1:((hh.alloc ⟨11,[[.s ⟨#[]⟩,.i .i64 0,.i .i64 0,.b false,.b false,.ns,.i .i64 0,.i .i64 0,.i .i64 0,.i .i64 0,.i .i64 0]]⟩).put hh.next ⟨11,[(nth C.parts i).enc]⟩).get hh.next=some ⟨11,[(nth C.parts i).enc]⟩:=by rw [Ae,Ar rfl]
  have n1:hh.next<((hh.alloc ⟨11,[[.s ⟨#[]⟩,.i .i64 0,.i .i64 0,.b false,.b false,.ns,.i .i64 0,.i .i64 0,.i .i64 0,.i .i64 0,.i .i64 0]]⟩).put hh.next ⟨11,[(nth C.parts i).enc]⟩).next:=Nat.lt_succ_self _;simp only [Part.enc] at x1 b1 n1;generalize (hh.alloc ⟨11,[[.s ⟨#[]⟩,.i .i64 0,.i .i64 0,.b false,.b false,.ns,.i .i64 0,.i .i64 0,.i .i64 0,.i .i64 0,.i .i64 0]]⟩).put hh.next ⟨11,[[.s (nth C.parts i).name,.i .i64 (nth C.parts i).budget,.i .i64 (nth C.parts i).period,.b (nth C.parts i).sched,.b (nth C.parts i).stop,.fl 2 ((nth C.parts i).procs.map Bl.enc),.i .i64 (nth C.parts i).h0,.i .i64 (nth C.parts i).h1,.i .i64 (nth C.parts i).h2,.i .i64 (nth C.parts i).h3,.i .i64 (nth C.parts i).h4]]⟩=h1 at x1 b1 n1 ⊢;have hl1:=x1.lim
  by_cases hcase:ow=true/\i=0
  .obtain ⟨rfl,rfl⟩:=hcase;refine RK om ?_;intro r h2 s2 x2;simp (disch:=omega)only[go_sem, *];refine VC s2 ?_;intro v s3;have hb2:h2.get hh.next=some ⟨11,[[.s (nth C.parts 0).name,.i .i64 (nth C.parts 0).budget,.i .i64 (nth C.parts 0).period,.b (nth C.parts 0).sched,.b (nth C.parts 0).stop,.fl 2 ((nth C.parts 0).procs.map Bl.enc),.i .i64 (nth C.parts 0).h0,.i .i64 (nth C.parts 0).h1,.i .i64 (nth C.parts 0).h2,.i .i64 (nth C.parts 0).h3,.i .i64 (nth C.parts 0).h4]]⟩:=(x2.get _ n1).trans b1;have n2:=x2.next;have l2:=x2.lim;have x3:Ak hh (h2.put hh.next ⟨11,[(nth C.parts 0).encO v]⟩):=(x1.trans x2).put _ _ (Nat.le_refl _);have b3:(h2.put hh.next ⟨11,[(nth C.parts 0).encO v]⟩).get hh.next=some ⟨11,[(nth C.parts 0).encO v]⟩:=by rw [Ae,Ar rfl]
   have s4:Sl hh.next (h2.put hh.next ⟨11,[(nth C.parts 0).encO v]⟩) 2 v ((nth C.parts 0).procs.map Bl.enc):=Sl.weak (AC s3 _ _ ((Au s3).imp (λx=>x) (λx=>by omega))) om;obtain ⟨_,_,_,_,_,_,_,vcell,vcells⟩:=s4.facts;obtain ⟨o3,lim3,low3,arg3,res3,box3⟩:=a.keep x3.next x3.lim x3.get;have o3:=o3.new (i:=3) (by simp [Dz]) s4;have hts2:C.parts.take (0+1)=[nth C.parts 0]:=by rw [hts];simp
   simp only [Part.encO] at x3 b3 o3 lim3 low3 arg3 res3 box3;simp (disch:=omega)only[go_sem, *];clear s2 s3 s4 x1 x2 hl1 b1 n1 hb2;generalize h2.put hh.next ⟨11,[[.s (nth C.parts 0).name,.i .i64 (nth C.parts 0).budget,.i .i64 (nth C.parts 0).period,.b (nth C.parts 0).sched,.b (nth C.parts 0).stop,v,.i .i64 (nth C.parts 0).h0,.i .i64 (nth C.parts 0).h1,.i .i64 (nth C.parts 0).h2,.i .i64 (nth C.parts 0).h3,.i .i64 (nth C.parts 0).h4]]⟩=h3 at x3 b3 o3 lim3 low3 arg3 res3 box3 ⊢;have hbq3:=o3.bq;have hq23:=o3.q2;refine Av (N:=[[.s (nth C.parts 0).name,.i .i64 (nth C.parts 0).budget,.i .i64 (nth C.parts 0).period,.b (nth C.parts 0).sched,.b (nth C.parts 0).stop,v,.i .i64 (nth C.parts 0).h0,.i .i64 (nth C.parts 0).h1,.i .i64 (nth C.parts 0).h2,.i .i64 (nth C.parts 0).h3,.i .i64 (nth C.parts 0).h4]]) ((o3.sl 0 _ rfl).alloc _) (by first | omega | (simp (disch:=omega)only[go_sem, *]<;>omega)) (by first | omega | (simp (disch:=omega)only[go_sem, *]<;>omega)) (by have hl:=MP (ow:=true) (v:=o1) (A:=C.parts.take 0);simp only [List.length_cons,List.length_nil,hl,List.length_take];omega) ?_;intro w h5 s5 g5;have x5:=(Ak.refl h3).alloc ⟨11,[[.s (nth C.parts 0).name,.i .i64 (nth C.parts 0).budget,.i .i64 (nth C.parts 0).period,.b (nth C.parts 0).sched,.b (nth C.parts 0).stop,v,.i .i64 (nth C.parts 0).h0,.i .i64 (nth C.parts 0).h1,.i .i64 (nth C.parts 0).h2,.i .i64 (nth C.parts 0).h3,.i .i64 (nth C.parts 0).h4]]⟩;have lo5:=o3.low (i:=0) rfl x5 g5;have o5:=o3.grow (i:=0) rfl x5 g5 s5;have hb5:h5.get (h.next+2)=some ⟨3,[[vp,.ns,.ns]]⟩:=(lo5 _ om).trans box3;have l5:=g5.lim;have hc5:=g5.cell;have hcs5:=g5.cells;simp only [Bi] at l5;have k5:KS true C h (h5.put (h.next+2) ⟨3,[[w,.ns,.ns]]⟩) w .ns .ns v .ns (C.parts.take (0+1)) [] []:=KS.mk2 (q:=h5.next) (by
    have e:Dz true w .ns .ns v .ns (C.parts.take (0+1)) [] []=((Dz true vp .ns .ns o1 .ns (C.parts.take 0) [] []).set 3 (2,v,(nth C.parts 0).procs.map Bl.enc)).set 0 (11,w,EW true o1 (C.parts.take 0)++[[.s (nth C.parts 0).name,.i .i64 (nth C.parts 0).budget,.i .i64 (nth C.parts 0).period,.b (nth C.parts 0).sched,.b (nth C.parts 0).stop,v,.i .i64 (nth C.parts 0).h0,.i .i64 (nth C.parts 0).h1,.i .i64 (nth C.parts 0).h2,.i .i64 (nth C.parts 0).h3,.i .i64 (nth C.parts 0).h4]]):=(by rw [hts2];simp [Dz,EW,r1,Part.encO])
    rw [e];exact o5) om (λi hi=>(lo5 i om).trans (low3 i hi)) ((lo5 _ om).trans arg3) ((lo5 _ om).trans res3)
   clear s5 g5 x5 o5 lo5 hts hts2 o3;simp (disch:=omega)only[go_sem, *];refine ih _ _ _ ?_ ⟨0+1,w,v,rfl, ?_⟩
   .omega
   .clear ih kk;simp (disch:=omega)only[go_sem, *]
    ((repeat' refine And.intro ?_ ?_)<;>first | omega | assumption | (exact k5))
  .obtain ⟨_,_,_,_,_,box1⟩:=a.keep x1.next x1.lim x1.get;have x3:Ak hh (h1.put hh.next ⟨11,[[.s (nth C.parts i).name,.i .i64 (nth C.parts i).budget,.i .i64 (nth C.parts i).period,.b (nth C.parts i).sched,.b (nth C.parts i).stop,.fl 2 ((nth C.parts i).procs.map Bl.enc),.i .i64 (nth C.parts i).h0,.i .i64 (nth C.parts i).h1,.i .i64 (nth C.parts i).h2,.i .i64 (nth C.parts i).h3,.i .i64 (nth C.parts i).h4]]⟩):=x1.put _ _ (Nat.le_refl _);obtain ⟨o3,lim3,low3,arg3,res3,box3⟩:=a.keep x3.next x3.lim x3.get;refine Pf.go (Nj) (by simp only [go_sem]) λ_=>?_;simp (disch:=omega)only[go_sem, *];refine Pf.go (OJ) (by simp only [go_sem]) λ_=>?_;simp (disch:=omega)only[go_sem, *];clear hl1 b1 box1;have n3:hh.next<(h1.put hh.next ⟨11,[[.s (nth C.parts i).name,.i .i64 (nth C.parts i).budget,.i .i64 (nth C.parts i).period,.b (nth C.parts i).sched,.b (nth C.parts i).stop,.fl 2 ((nth C.parts i).procs.map Bl.enc),.i .i64 (nth C.parts i).h0,.i .i64 (nth C.parts i).h1,.i .i64 (nth C.parts i).h2,.i .i64 (nth C.parts i).h3,.i .i64 (nth C.parts i).h4]]⟩).next:=n1;generalize h1.put hh.next ⟨11,[[.s (nth C.parts i).name,.i .i64 (nth C.parts i).budget,.i .i64 (nth C.parts i).period,.b (nth C.parts i).sched,.b (nth C.parts i).stop,.fl 2 ((nth C.parts i).procs.map Bl.enc),.i .i64 (nth C.parts i).h0,.i .i64 (nth C.parts i).h1,.i .i64 (nth C.parts i).h2,.i .i64 (nth C.parts i).h3,.i .i64 (nth C.parts i).h4]]⟩=h3 at x3 o3 lim3 low3 arg3 res3 box3 n3 ⊢;clear x1 n1;have o3:=o3.up (Nat.le_of_lt n3) (Nat.le_refl _);have hbq3:=o3.bq;have hq23:=o3.q2;refine Av (N:=[[.s (nth C.parts i).name,.i .i64 (nth C.parts i).budget,.i .i64 (nth C.parts i).period,.b (nth C.parts i).sched,.b (nth C.parts i).stop,.fl 2 ((nth C.parts i).procs.map Bl.enc),.i .i64 (nth C.parts i).h0,.i .i64 (nth C.parts i).h1,.i .i64 (nth C.parts i).h2,.i .i64 (nth C.parts i).h3,.i .i64 (nth C.parts i).h4]]) ((o3.sl 0 _ rfl).alloc _) (by first | omega | (simp (disch:=omega)only[go_sem, *]<;>omega)) (by first | omega | (simp (disch:=omega)only[go_sem, *]<;>omega)) (by have hl:=MP (ow:=ow) (v:=o1) (A:=C.parts.take i);simp only [List.length_cons,List.length_nil,hl,List.length_take];omega) ?_;intro w h5 s5 g5;have x5:=(Ak.refl h3).alloc ⟨11,[[.s (nth C.parts i).name,.i .i64 (nth C.parts i).budget,.i .i64 (nth C.parts i).period,.b (nth C.parts i).sched,.b (nth C.parts i).stop,.fl 2 ((nth C.parts i).procs.map Bl.enc),.i .i64 (nth C.parts i).h0,.i .i64 (nth C.parts i).h1,.i .i64 (nth C.parts i).h2,.i .i64 (nth C.parts i).h3,.i .i64 (nth C.parts i).h4]]⟩;have lo5:=o3.low (i:=0) rfl x5 g5;have o5:=o3.grow (i:=0) rfl x5 g5 s5;have hb5:h5.get (h.next+2)=some ⟨3,[[vp,.ns,.ns]]⟩:=(lo5 _ om).trans box3;have l5:=g5.lim;have hc5:=g5.cell;have hcs5:=g5.cells;simp only [Bi] at l5;have k5:KS ow C h (h5.put (h.next+2) ⟨3,[[w,.ns,.ns]]⟩) w .ns .ns o1 .ns (C.parts.take (i+1)) [] []:=KS.mk2 (q:=h5.next) (by
    have e:Dz ow w .ns .ns o1 .ns (C.parts.take (i+1)) [] []=(Dz ow vp .ns .ns o1 .ns (C.parts.take i) [] []).set 0 (11,w,EW ow o1 (C.parts.take i)++[[.s (nth C.parts i).name,.i .i64 (nth C.parts i).budget,.i .i64 (nth C.parts i).period,.b (nth C.parts i).sched,.b (nth C.parts i).stop,.fl 2 ((nth C.parts i).procs.map Bl.enc),.i .i64 (nth C.parts i).h0,.i .i64 (nth C.parts i).h1,.i .i64 (nth C.parts i).h2,.i .i64 (nth C.parts i).h3,.i .i64 (nth C.parts i).h4]]):=(cI hcase hi hts om)
    rw [e];exact o5) om (λi hi=>(lo5 i om).trans (low3 i hi)) ((lo5 _ om).trans arg3) ((lo5 _ om).trans res3)
   clear s5 g5 x5 o5 lo5 hts o3;simp (disch:=omega)only[go_sem, *];refine ih _ _ _ ?_ ⟨i+1,w,o1,rfl, ?_⟩
   .omega
   .clear ih kk;simp (disch:=omega)only[go_sem, *]
    ((repeat' refine And.intro ?_ ?_)<;>first | omega | assumption | (exact k5))
 .obtain rfl:i=C.parts.length:=by omega
  rw [List.take_length] at a;simp (disch:=omega)only[go_sem, *];exact kk _ hh vp o1 e1 e2 e3 a
end
end Go.Ab.T
namespace Go.Ab.T
open Go Go.Ab
set_option maxHeartbeats 4000000
section
variable {ow:Bool} {C:Am} {h h':AH} {vp vc vt o1 o2:V} {A:List Part} {X:List AU} {B:List (List Node)}
theorem Wq {i:Nat} {w:V} {Ts:List (List Node)} (hcase:¬ (ow=true/\i=0)) (hi:i<=Ts.length) (hts:Ts.take (i+1)=Ts.take i++[nth Ts i]) (hc:i<Ts.length):Dz ow vp vc w o1 o2 A X (Ts.take (i+1))=(Dz ow vp vc vt o1 o2 A X (Ts.take i)).set 2 (1,w,EX ow o2 (Ts.take i)++[Tab.enc (nth Ts i)]):=by
 rw [hts]
 by_cases h0:i=0
 .have hf:ow=false:=by cases ow with | false=>rfl | true=>exact absurd ⟨rfl,h0⟩ hcase
  subst hf;subst h0;simp [Dz,EX,r2,Tab.enc]
 .have hne:Ts.take i≠[]:=by
   intro h;have:(Ts.take i).length=0:=by rw [h];rfl
   rw [List.length_take] at this;omega
  rw [Dz,Tl hne,uV hne];rfl
theorem VI {K : Ex -> Env -> AH -> Prop} {e : Env} (hlo : h.lim <= h.next) (hPl : C.tables.length < 4000000000) (a : KS ow C h h' vp vc .ns o1 .ns A X [])
    (e2:e 2=.p (h.next+1) 0 0) (e3:e 3=.p (h.next+2) 0 0) (e33:e 33=.fl 1 (C.tables.map Tab.enc)) (e34:e 34=.i .i64 C.tables.length) (e35:e 35=.i .i64 0)
    (kk:∀ e' h' vt o2,e' 2=.p (h.next+1) 0 0->e' 3=.p (h.next+2) 0 0->KS ow C h h' vp vc vt o1 o2 A X C.tables->K (.ex 2) e' h'):ZC tp (.loop aOv) e h' K:=by
 refine Ai (λn' e hh=>∃ (i:Nat) (vt o2:V),n'=C.tables.length - i/\e 2=.p (h.next+1) 0 0/\e 3=.p (h.next+2) 0 0/\e 33=.fl 1 (C.tables.map Tab.enc)/\e 34=.i .i64 C.tables.length/\e 35=.i .i64 i/\i<=C.tables.length/\KS ow C h hh vp vc vt o1 o2 A X (C.tables.take i)) ?_ _ _ _ ⟨0,.ns,.ns,rfl,e2,e3,e33,e34,e35,om,a⟩;clear e2 e3 e33 e34 e35 e a;rintro n' e hh ⟨i,vt,o2,rfl,e2,e3,e33,e34,e35,hi,a⟩ ih;have hbq:=a.own.bq;have hlq:hh.lim<=h.next:=by rw [a.lim];exact hlo
 have hbx:=a.box;rw [Ao aOv.eq_1];simp (disch:=omega)only[go_sem, *];refine Ad (λhc=>?_) (λhc=>?_)
 .have hts:=Db (L:=C.tables) (i:=i) om;simp (disch:=omega)only[go_sem, *]
  by_cases hcase:ow=true/\i=0
  .obtain ⟨rfl,rfl⟩:=hcase;refine RJ (by rw [MF,KF];exact Nat.le_refl _) ?_;intro r h2 s2 x2;have x3:Ak hh (h2.back hh.lim):=⟨x2.next,rfl,x2.get⟩
   have s3:Sl hh.next (h2.back hh.lim) 3 r ((nth C.tables 0).map Node.enc):=s2;simp (disch:=omega)only[go_sem, *];generalize h2.back hh.lim=h3 at x3 s3 ⊢;clear s2 x2;have hrb:h3.raise.back hh.lim=h3:=by rw [<- x3.lim];exact Hj
   refine VA s3.raise ?_;intro v s4;have s4:Sl hh.next h3 3 v ((nth C.tables 0).map Node.enc):=s4;obtain ⟨_,_,_,_,_,_,_,vcell,vcells⟩:=s4.facts;obtain ⟨o3,lim3,low3,arg3,res3,box3⟩:=a.keep x3.next x3.lim x3.get;have o3:=o3.new (i:=4) (by simp [Dz]) s4;have hts2:C.tables.take (0+1)=[nth C.tables 0]:=by rw [hts];simp
   simp (disch:=omega)only[go_sem, *];have hbq3:=o3.bq;have hq23:=o3.q2;refine Av (N:=[[v]]) ((o3.sl 2 _ rfl).alloc _) (by first | omega | (simp (disch:=omega)only[go_sem, *]<;>omega)) (by first | omega | (simp (disch:=omega)only[go_sem, *]<;>omega)) (by have hl:=MQ (ow:=true) (v:=o2) (A:=C.tables.take 0);simp only [List.length_cons,List.length_nil,hl,List.length_take];omega) ?_;intro w h5 s5 g5;have x5:=(Ak.refl h3).alloc ⟨1,[[v]]⟩;have lo5:=o3.low (i:=2) rfl x5 g5;have o5:=o3.grow (i:=2) rfl x5 g5 s5;have hb5:h5.get (h.next+2)=some ⟨3,[[vp,vc,vt]]⟩:=(lo5 _ om).trans box3;have l5:=g5.lim;have hc5:=g5.cell;have hcs5:=g5.cells;simp only [Bi] at l5;have k5:KS true C h (h5.put (h.next+2) ⟨3,[[vp,vc,w]]⟩) vp vc w o1 v A X (C.tables.take (0+1)):=KS.mk2 (q:=h5.next) (by
    have e:Dz true vp vc w o1 v A X (C.tables.take (0+1))=((Dz true vp vc vt o1 o2 A X (C.tables.take 0)).set 4 (3,v,(nth C.tables 0).map Node.enc)).set 2 (1,w,EX true o2 (C.tables.take 0)++[[v]]):=(by rw [hts2];simp [Dz,EX,r2])
    rw [e];exact o5) om (λi hi=>(lo5 i om).trans (low3 i hi)) ((lo5 _ om).trans arg3) ((lo5 _ om).trans res3)
   have lq5:h5.lim<=h.next:=by omega
   clear s5 g5 x5 o5 lo5 hts l5 hts2 o3;simp (disch:=omega)only[go_sem, *];refine ih _ _ _ ?_ ⟨0+1,w,v,rfl, ?_⟩
   .omega
   .clear ih kk;simp (disch:=omega)only[go_sem, *]
    ((repeat' refine And.intro ?_ ?_)<;>first | omega | assumption | (exact k5))
  .refine Pf.go (HG) (by simp only [go_sem]) λ_=>?_;simp (disch:=omega)only[go_sem, *];refine Pf.go (OI) (by simp only [go_sem]) λ_=>?_;simp (disch:=omega)only[go_sem, *];obtain ⟨o3,lim3,low3,arg3,res3,box3⟩:=a.keep (h2:=hh) (Nat.le_refl _) rfl (λ_ _=>rfl);generalize hh=h3 at *;have hbq3:=o3.bq;have hq23:=o3.q2;refine Av (N:=[[.fl 3 ((nth C.tables i).map Node.enc)]]) ((o3.sl 2 _ rfl).alloc _) (by first | omega | (simp (disch:=omega)only[go_sem, *]<;>omega)) (by first | omega | (simp (disch:=omega)only[go_sem, *]<;>omega)) (by have hl:=MQ (ow:=ow) (v:=o2) (A:=C.tables.take i);simp only [List.length_cons,List.length_nil,hl,List.length_take];omega) ?_;intro w h5 s5 g5;have x5:=(Ak.refl h3).alloc ⟨1,[[.fl 3 ((nth C.tables i).map Node.enc)]]⟩;have lo5:=o3.low (i:=2) rfl x5 g5;have o5:=o3.grow (i:=2) rfl x5 g5 s5;have hb5:h5.get (h.next+2)=some ⟨3,[[vp,vc,vt]]⟩:=(lo5 _ om).trans box3;have l5:=g5.lim;have hc5:=g5.cell;have hcs5:=g5.cells;simp only [Bi] at l5;have k5:KS ow C h (h5.put (h.next+2) ⟨3,[[vp,vc,w]]⟩) vp vc w o1 o2 A X (C.tables.take (i+1)):=KS.mk2 (q:=h5.next) (by
    have e:Dz ow vp vc w o1 o2 A X (C.tables.take (i+1))=(Dz ow vp vc vt o1 o2 A X (C.tables.take i)).set 2 (1,w,EX ow o2 (C.tables.take i)++[[.fl 3 ((nth C.tables i).map Node.enc)]]):=(Wq hcase hi hts om)
    rw [e];exact o5) om (λi hi=>(lo5 i om).trans (low3 i hi)) ((lo5 _ om).trans arg3) ((lo5 _ om).trans res3)
   have lq5:h5.lim<=h.next:=by omega
   clear s5 g5 x5 o5 lo5 hts l5 o3;simp (disch:=omega)only[go_sem, *];refine ih _ _ _ ?_ ⟨i+1,w,o2,rfl, ?_⟩
   .omega
   .clear ih kk;simp (disch:=omega)only[go_sem, *]
    ((repeat' refine And.intro ?_ ?_)<;>first | omega | assumption | (exact k5))
 .obtain rfl:i=C.tables.length:=by omega
  rw [List.take_length] at a;simp (disch:=omega)only[go_sem, *];exact kk _ hh vt o2 e2 e3 a
end
end Go.Ab.T
namespace Go.Ab.T
open Go Go.Ab
set_option maxHeartbeats 4000000
theorem Od {b sz:Nat} {h:AH} {v:V} {R:List (List V)} (s:Sl b h sz v R):v.isCell=true/\v.cells=[v]:=by
 rcases s with ⟨hv,_⟩ | ⟨_,_,_,_,rfl,_⟩
 .rcases hv with rfl | rfl<;>exact ⟨rfl,rfl⟩
 .exact ⟨rfl,rfl⟩
theorem VH {ow : Bool} {C : Am} {h : AH} {K : V -> AH -> Prop} (hlo : h.lim <= h.next) (hPl : C.parts.length < 4000000000) (hTl : C.tables.length < 4000000000)
    (kk:∀ vp vc vt o1 o2 h2,Dd (h.next+3) h2.next h2 (Dz ow vp vc vt o1 o2 C.parts C.chans C.tables)->h2.lim=h.lim->(∀ i,i<h.next->h2.get i=h.get i)->K (.agg [vp,vc,vt]) h2):
    ZC tp P9.body (Fb [.agg C.enc]) h (λx e h2=>G1 P9.res x e h2 K):=by
 unfold P9;simp (disch:=omega)only[go_sem, *];have x0:Ak h (((h.alloc ⟨3,[C.enc]⟩).alloc ⟨3,[[.ns,.ns,.ns]]⟩).alloc ⟨3,[[.ns,.ns,.ns]]⟩):=by (repeat (first | exact Ak.refl _ | refine Ak.alloc ?_ _ | (refine Ak.put ?_ _ _ ?_;rotate_left;(first | omega | (simp only [Ac,Ah];omega)))))
 have k0:KS ow C h (((h.alloc ⟨3,[C.enc]⟩).alloc ⟨3,[[.ns,.ns,.ns]]⟩).alloc ⟨3,[[.ns,.ns,.ns]]⟩) .ns .ns .ns .ns .ns [] [] []:=by
  refine ⟨Dd.nil (by simp only [Ac];omega) (λa ha=>?_),rfl,x0.get,by simp (disch:=omega)only[go_sem, *],by simp (disch:=omega)only[go_sem, *],by simp (disch:=omega)only[go_sem, *]⟩;simp only [Dz,List.mem_cons,List.not_mem_nil,or_false] at ha;rcases ha with rfl | rfl | rfl | rfl | rfl<;>simp [EW,EX,r1,r2]
 simp only [Am.enc] at k0;refine RN hlo hPl k0 (by simp (disch:=omega)only[go_sem, *]) (by simp (disch:=omega)only[go_sem, *]) (by simp (disch:=omega)only[go_sem, *]) (by simp (disch:=omega)only[go_sem, *]) (by simp (disch:=omega)only[go_sem, *]) (by simp (disch:=omega)only[go_sem, *]) ?_;clear k0 x0;intro e h1 vp o1 e1 e2 e3 a;have harg:=a.arg;have hbq:=a.own.bq;simp only [Am.enc] at harg;simp (disch:=omega)only[go_sem, *];have hl1:=a.lim;refine RI om ?_;intro r h2 s2 x2;have hn2:=x2.next;simp (disch:=omega)only[go_sem, *];refine Vz s2 ?_;intro v s3;obtain ⟨_,_,_,_,_,_,_,vcell,vcells⟩:=s3.facts;obtain ⟨o3,lim3,low3,arg3,res3,box3⟩:=a.keep x2.next x2.lim x2.get;have o3:=o3.new (i:=1) (by simp [Dz]) s3;have e4:(Dz ow vp .ns .ns o1 .ns C.parts [] []).set 1 (6,v,C.chans.map AU.enc)=Dz ow vp v .ns o1 .ns C.parts C.chans []:=rfl;rw [e4] at o3;have a3:=KS.mk2 (ow:=ow) (C:=C) o3 lim3 low3 arg3 res3;have harg3:=arg3;have hl2:=x2.lim;simp only [Am.enc] at harg3;clear e4 s2 s3 o3 low3 res3 arg3 harg a;simp (disch:=omega)only[go_sem, *];refine VI hlo hTl a3 (by simp (disch:=omega)only[go_sem, *]) (by simp (disch:=omega)only[go_sem, *]) (by simp (disch:=omega)only[go_sem, *]) (by simp (disch:=omega)only[go_sem, *]) (by simp (disch:=omega)only[go_sem, *]) ?_;clear e1 e2 e3 a3 harg3 box3 hn2 lim3 hl1 hl2 x2 hbq;intro e h1 vt o2 e2 e3 a;have hbox:=a.box;have hres:=a.res;have hbq:=a.own.bq;have hlq:h1.lim<=h.next:=by rw [a.lim];exact hlo
 have f:=kk vp v vt o1 o2 (h1.put (h.next+1) ⟨3,[[vp,v,vt]]⟩) (a.own.put _ _ (.inl om)) a.lim (λi hi=>by rw [Ae,Af om];exact a.low i hi);obtain ⟨c1,c2⟩:=Od (a.own.sl 0 (11,vp,_) rfl);obtain ⟨c3,c4⟩:=Od (a.own.sl 1 (6,v,_) rfl);obtain ⟨c5,c6⟩:=Od (a.own.sl 2 (1,vt,_) rfl);dsimp only at c1 c2 c3 c4 c5 c6;clear kk;simp (disch:=omega)only[go_sem, *]
theorem pV {C:Am}:Pf tp ZA [.agg C.enc] (.agg C.enc):=by
 refine AL aMo (by simp [P9]) λrp=>?_;have hcl:=GU.len (rp.head.agg (.fl 6 (C.chans.map AU.enc)) (by simp [Am.enc]));have hpl:=GU.len (rp.head.agg (.fl 11 (C.parts.map Part.enc)) (by simp [Am.enc]));have htl:=GU.len (rp.head.agg (.fl 1 (C.tables.map Tab.enc)) (by simp [Am.enc]));refine VH (ow:=false) (Nat.zero_le _) hpl htl ?_;intro vp vc vt o1 o2 h2 o hl low;have s0:=o.sl 0 _ rfl;have s1:=o.sl 1 _ rfl;have s2:=o.sl 2 _ rfl;simp only [dE,dF] at s0 s1 s2;exact .agg _ _ _ (.cons _ _ _ _ _ (s0.froze (λ_=>rfl) trivial hpl) (.cons _ _ _ _ _ (s1.froze (λ_=>rfl) trivial hcl) (.cons _ _ _ _ _ (s2.froze (λ_=>rfl) trivial htl) (.nil _))))
end Go.Ab.T
namespace Go.Ab.T
open Go Go.Ab
set_option maxHeartbeats 4000000
/-! Instructions. -/
structure E7 where
 op:Int
 a:Int
 b:Int
 c:Int
 deriving DecidableEq,Inhabited
@[go_sem] def E7.enc (x:E7):List V:=[.i .i64 x.op,.i .i64 x.a,.i .i64 x.b,.i .i64 x.c]
def Bb (op:Int):Bool×Bool×Bool:=if op=1\/op=9\/op=10\/op=13\/op=14\/op=15 then (true,false,false) else if op=2\/op=3\/op=4\/op=5 then (true,true,true) else if op=6\/op=7 then (true,true,false) else if op=11\/op=12 then (false,true,false) else (false,false,false)
theorem aX {op:Int}:Pf tp Z2 [.i .i64 op] (.tup [.b (Bb op).1,.b (Bb op).2.1,.b (Bb op).2.2]):=by
 refine AL Zn (by simp [LW]) λrp=>?_;unfold LW;simp (disch:=omega)only[go_sem, *]
 repeat' (first | (refine Ax (λhc=>?_) (λhc=>?_)<;>simp (disch:=omega)only[go_sem, *]) | (refine Ad (λhc=>?_) (λhc=>?_)<;>simp (disch:=omega)only[go_sem, *]))
 all_goals (unfold Bb;simp [*])
def Cn (n:Int) (r:Bool):Bool:=decide (0<=n/\n<=255)&&(!r||decide (n<8))
theorem IG {n:Int} {r:Bool}:Pf tp UC [.i .i64 n,.b r] (.b (Cn n r)):=by
 cases r
 .refine AL FF (by simp [CW]) λrp=>?_;unfold CW;simp (disch:=omega)only[go_sem, *]
  repeat' (first | (refine Ax (λhc=>?_) (λhc=>?_)<;>simp (disch:=omega)only[go_sem, *]) | (refine Ad (λhc=>?_) (λhc=>?_)<;>simp (disch:=omega)only[go_sem, *]))
  all_goals (unfold Cn;simp;omega)
 .refine AL FF (by simp [CW]) λrp=>?_;unfold CW;simp (disch:=omega)only[go_sem, *]
  repeat' (first | (refine Ax (λhc=>?_) (λhc=>?_)<;>simp (disch:=omega)only[go_sem, *]) | (refine Ad (λhc=>?_) (λhc=>?_)<;>simp (disch:=omega)only[go_sem, *]))
  all_goals (unfold Cn;simp [*];try omega)
def EQ (i:E7):Bool:=decide (0<=i.op/\i.op<=17)&&(Cn i.a (Bb i.op).1&&(Cn i.b (Bb i.op).2.1&&Cn i.c (Bb i.op).2.2))
theorem VZ {i:E7}:Pf tp Up [.agg i.enc] (.b (EQ i)):=by
 have t1:=aX (op:=i.op);have t2:=IG (n:=i.a) (r:=(Bb i.op).1);have t3:=IG (n:=i.b) (r:=(Bb i.op).2.1);have t4:=IG (n:=i.c) (r:=(Bb i.op).2.2);have e:EQ i=(decide (0<=i.op/\i.op<=17)&&(Cn i.a (Bb i.op).1&&(Cn i.b (Bb i.op).2.1&&Cn i.c (Bb i.op).2.2))):=rfl;simp only [E7.enc];generalize (Bb i.op).1=a at *;generalize (Bb i.op).2.1=b at *;generalize (Bb i.op).2.2=c at *;generalize Cn i.a a=x at *;generalize Cn i.b b=y at *;generalize Cn i.c c=z at *;refine AL FE (by simp [CV]) λrp=>?_;unfold CV;simp (disch:=omega)only[go_sem, *];refine Pf.go (t1) (by simp only [go_sem]) λ_=>?_;simp (disch:=omega)only[go_sem, *];clear t1
 repeat' (first | (refine Ax (λhc=>?_) (λhc=>?_)<;>simp (disch:=omega)only[go_sem, *]) | (refine Ad (λhc=>?_) (λhc=>?_)<;>simp (disch:=omega)only[go_sem, *]) | (refine CQ (λhc=>?_) (λhc=>?_)<;>simp (disch:=omega)only[go_sem, *]) | (refine Bv (λhc=>?_) (λhc=>?_)<;>simp (disch:=omega)only[go_sem, *]) | (refine Pf.go (t2) (by simp only [go_sem]) λ_=>?_;simp (disch:=omega)only[go_sem, *]) | (refine Pf.go (t3) (by simp only [go_sem]) λ_=>?_;simp (disch:=omega)only[go_sem, *]) | (refine Pf.go (t4) (by simp only [go_sem]) λ_=>?_;simp (disch:=omega)only[go_sem, *]))
 all_goals (clear t2 t3 t4;simp_all)
def Bo (P:List Int) (pc:Int):E7×Bool:=if pc<0\/pc.tmod 4≠0\/(P.length:Int) - 4<pc then (⟨0,0,0,0⟩,false) else (⟨nth P pc.toNat,nth P (pc.toNat+1),nth P (pc.toNat+2),nth P (pc.toNat+3)⟩,true)
theorem VY {P:List Int} {pc:Int} (hB:∀ z∈P,0<=z/\z<256):Pf tp ZH [.fl 1 (P.map CJ),.i .i64 pc] (.tup [.agg (Bo P pc).1.enc,.b (Bo P pc).2]):=by
 have bad:pc<0\/pc.tmod 4≠0\/(P.length:Int) - 4<pc->Bo P pc=(⟨0,0,0,0⟩,false):=λh=>if_pos h;refine AL aMv (by simp [Qg]) λrp=>?_;have hL:=rp.head.len;unfold Qg;simp (disch:=omega)only[go_sem, *];refine Ax (λhc=>?_) (λhc=>?_)
 .have e:=bad (.inl hc);clear bad;simp (disch:=omega)only[go_sem, *]
 .simp (disch:=omega)only[go_sem, *];refine Ax (λhc2=>?_) (λhc2=>?_)
  .have e:=bad (.inr (.inl hc2));clear bad;simp (disch:=omega)only[go_sem, *]
  .simp (disch:=omega)only[go_sem, *];refine Ad (λhc3=>?_) (λhc3=>?_)
   .have e:=bad (.inr (.inr hc3));clear bad;simp (disch:=omega)only[go_sem, *]
   .obtain ⟨k,rfl⟩:∃ k:Nat,pc=k:=⟨pc.toNat,om⟩
    have e:Bo P k=(⟨nth P k,nth P (k+1),nth P (k+2),nth P (k+3)⟩,true):=by
     unfold Bo;rw [if_neg om];rfl
    clear bad hc2;have b0:=hB _ (Az (L:=P) (j:=k) om);have b1:=hB _ (Az (L:=P) (j:=k+1) om);have b2:=hB _ (Az (L:=P) (j:=k+2) om);have b3:=hB _ (Az (L:=P) (j:=k+3) om);have k1:((k:Int)+1).toNat=k+1:=by omega
    have k2:((k:Int)+2).toNat=k+2:=by omega
    have k3:((k:Int)+3).toNat=k+3:=by omega
    simp (disch:=omega)only[go_sem, *]
def Kv (x:E7):Int:=256*x.b+x.c
def E7.ok (x:E7):Prop:=(0<=x.a/\x.a<=255)/\(0<=x.b/\x.b<=255)/\(0<=x.c/\x.c<=255)
theorem w32 {n:Int} (h0:0<=n) (h1:n<4294967296):IntKind.wrap .u32 n=n:=by
 unfold IntKind.wrap;simp [IntKind.bits,IntKind.signed];omega
theorem SU {x:E7} (h:x.ok):Pf tp UE [.agg x.enc] (.i .u32 (Kv x)):=by
 obtain ⟨_,⟨b0,b1⟩,⟨c0,c1⟩⟩:=h;have e1:IntKind.wrap .u32 x.b=x.b:=w32 om om;have e2:IntKind.wrap .u32 x.c=x.c:=w32 om om;have e3:IntKind.wrap .u32 (x.b*256)=x.b*256:=w32 om om;have e4:IntKind.wrap .u32 (x.b*256+x.c)=Kv x:=by rw [w32 om om];unfold Kv;omega
 simp only [E7.enc];refine AL aMU (by simp [QF]) λrp=>?_;unfold QF;simp (disch:=omega)only[go_sem, *]
end Go.Ab.T
namespace Go.Ab.T
open Go Go.Ab
set_option maxHeartbeats 16000000
set_option maxRecDepth 4000
theorem pL (n:Int):0<=IntKind.wrap .u8 n/\IntKind.wrap .u8 n<256:=by
 unfold IntKind.wrap;simp [IntKind.bits,IntKind.signed];omega
def iT (l:List Int):Prop:=∀ z∈l,0<=z/\z<256
theorem NO {O B:List Int} (h:iT O) (h2:iT B):iT (O++B):=λz hz=>(List.mem_append.1 hz).elim (h z) (h2 z)
theorem s4y {b:Nat} {h:AH} {w:V} {O:List Int} {p q r s:Int} (s4:Sl b h 1 w (O.map CJ++[[.i .u8 (IntKind.wrap .u8 p)],[.i .u8 (IntKind.wrap .u8 q)],[.i .u8 (IntKind.wrap .u8 r)],[.i .u8 (IntKind.wrap .u8 s)]])):∃ B,iT B/\B.length=4/\Sl b h 1 w ((O++B).map CJ):=
 ⟨[IntKind.wrap .u8 p,IntKind.wrap .u8 q,IntKind.wrap .u8 r,IntKind.wrap .u8 s],λz hz=>by
  simp only [List.mem_cons,List.not_mem_nil,or_false] at hz;rcases hz with rfl | rfl | rfl | rfl<;>exact pL _,rfl,by rw [List.map_append];exact s4⟩
theorem bAU {v:Int} (h0:0<=v) (h:v<5\/v=0):∃ x,[[V.i .i64 0],[V.i .i64 1],[V.i .i64 2],[V.i .i64 5],[V.i .i64 200]][v.toNat]?=some [V.i .i64 x]:=by
 have:v=0\/v=1\/v=2\/v=3\/v=4:=by omega
 rcases this with rfl | rfl | rfl | rfl | rfl<;>exact ⟨_,rfl⟩
section
variable {h:AH} {id k:Nat} {L:List Int} {C:Am} {K:V->AH->Prop}
theorem Pu {j:Nat}:(h.put id (An L j)).get id=some (An L j):=by rw [Ae,Ar rfl]
theorem hY {p : Int} (hg : h.get id = some (An L k)) (hk : k <= L.length) (hL : L.length < 4000000000) (hlo : h.lim <= id) (hch : C.chans.length <= 100)
    (kk:∀ B j,iT B->B.length<=100->j<=L.length->K (.fl 1 (B.map CJ)) (h.put id (An L j))):Cq tp Zy [.p id 0 0,.agg C.enc,.i .i64 p] h K:=by
 refine Ft aMm (by simp [P8]) hg λhlm hid rp=>?_;unfold P8;simp only [Am.enc];have hg0:(h.alloc ⟨3,[[.fl 11 (C.parts.map Part.enc),.fl 6 (C.chans.map AU.enc),.fl 1 (C.tables.map Tab.enc)]]⟩).get id=some (An L k):=by rw [AD,Af om];exact hg
 simp (disch:=omega)only[go_sem, *];refine AJ hg0 hk hL (by simp (disch:=omega)only[go_sem, *]) ?_;intro v j h0 h1 h2 hj;obtain ⟨m,rfl⟩:∃ m:Nat,v=m:=⟨v.toNat,om⟩
 simp (disch:=omega)only[go_sem, *];refine Ai (λn' e h'=>∃ (i j:Nat) (O:List Int) (o:V),n'=i/\h'.lim=h.lim/\e 0=.p id 0 0/\e 2=.i .i64 p/\e 4=.p h.next 0 0/\e 7=o/\e 8=.i .i64 i/\i<=15/\j<=L.length/\FX h id (An L j) h'/\h.next<h'.next/\h'.get h.next=some ⟨3,[[.fl 11 (C.parts.map Part.enc),.fl 6 (C.chans.map AU.enc),.fl 1 (C.tables.map Tab.enc)]]⟩/\Sl (h.next+1) h' 1 o (O.map CJ)/\iT O/\O.length+4*i<=60) ?_ _ _ _ ⟨m+2,j,[],.ns,rfl, ?_⟩
 .rintro n' e h' ⟨i,j,O,o,rfl,hl',e0,e2,e4,e7,e8,hi,hj,hu,hbx,hb,so,hO,hOl⟩ ih;have hun:=hu.next;have hgu:=hu.here;have hw:=Au so;rw [Ao bBi.eq_1];simp (disch:=omega)only[go_sem, *];refine Ad (λhc=>?_) (λhc=>?_)
  .simp (disch:=omega)only[go_sem, *];refine AJ hgu hj hL om ?_;intro v2 j2 h20 h21 h22 hj2;have hg2:(h'.put id (An L j2)).get id=some (An L j2):=by simp (disch:=omega)only[go_sem, *]
   simp (disch:=omega)only[go_sem, *];refine AJ hg2 hj2 hL (by simp (disch:=omega)only[go_sem, *]) ?_;intro v3 j3 h30 h31 h32 hj3;have hg3:(h'.put id (An L j3)).get id=some (An L j3):=by simp (disch:=omega)only[go_sem, *]
   simp (disch:=omega)only[go_sem, *];refine AJ hg3 hj3 hL (by simp (disch:=omega)only[go_sem, *]) ?_;intro v4 j4 h40 h41 h42 hj4;have hg4:(h'.put id (An L j4)).get id=some (An L j4):=by simp (disch:=omega)only[go_sem, *]
   simp (disch:=omega)only[go_sem, *];refine AJ hg4 hj4 hL (by simp (disch:=omega)only[go_sem, *]) ?_;intro v5 j5 h50 h51 h52 hj5;have hg5:(h'.put id (An L j5)).get id=some (An L j5):=by simp (disch:=omega)only[go_sem, *]
   simp (disch:=omega)only[go_sem, *];have soP:∀ k,Sl (h.next+1) (h'.put id k) 1 o (O.map CJ):=λk=>AC so _ _ (hw.imp (λz=>z) (λz=>by omega));have huP:∀ j,FX h id (An L j) (h'.put id (An L j)):=λj=>Ce hu;have soQ:∀ k l m,Sl (h.next+1) (((h'.put id k).alloc l).put id m) 1 o (O.map CJ):=λk l m=>AC ((soP k).alloc l) _ _ (hw.imp (λz=>z) (λz=>by omega));have huQ:∀ j l m,FX h id (An L m) (((h'.put id (An L j)).alloc l).put id (An L m)):=λj l m=>Ce (Bp (huP j) hid);clear kk;refine Ad (λhc1=>?_) (λhc1=>?_)
   .simp (disch:=omega)only[go_sem, *];refine AJ (by rw [AD,Af (by rw [Ah];omega)];exact hg5) hj5 hL (by simp (disch:=omega)only[go_sem, *]) ?_;intro v6 j6 h60 h61 h62 hj6;obtain ⟨x,hx⟩:=bAU h60 h62;simp (disch:=omega)only[go_sem, *]
    repeat' (first
     | (refine Ax (λhc=>?_) (λhc=>?_)<;>simp (disch:=omega)only[go_sem, *])
     | (refine Ad (λhc=>?_) (λhc=>?_)<;>simp (disch:=omega)only[go_sem, *])
     | (refine AJ Pu (by assumption) hL (by simp (disch:=omega)only[go_sem, *]) ?_;intro _ _ _ _ _ _;simp (disch:=omega)only[go_sem, *]))
    all_goals
     refine Av (Sl.alloc (soQ _ _ _) _) ?_ ?_ ?_ ?_
     .simp only [go_sem];omega
     .simp only [go_sem];omega
     .simp;omega
     intro w h4 s4 g4;have u4:=DQ (Bp (huQ _ _ _) hid) hid g4 (hw.imp (λz=>z) (λz=>by omega));obtain ⟨jj,hjj,u5⟩:∃ jj,jj<=L.length/\FX h id (An L jj) h4:=by
      refine ⟨_, ?_,u4⟩
      assumption
     have b4:=g4.get h.next (by simp only [go_sem];omega) (hw.imp (λz=>z) (λz=>by omega));have n4:=g4.next;have l4:=g4.lim;simp (disch:=omega)only[go_sem, *] at b4 n4 l4;obtain ⟨B,hB,hBl,s5⟩:=s4y s4;clear s4 g4 u4;simp (disch:=omega)only[go_sem, *];refine ih _ _ _ ?_ ⟨n' - 1,jj,O++B,w,rfl, ?_⟩
     .omega
     .clear ih;simp (disch:=omega)only[go_sem, *]
      ((repeat' refine And.intro ?_ ?_)<;>first | omega | assumption | (exact s5) | (exact u5) | (exact NO hO hB) | ((congr 1;omega)) | ((simp;omega)))
   .simp (disch:=omega)only[go_sem, *]
    repeat' (first
     | (refine Ax (λhc=>?_) (λhc=>?_)<;>simp (disch:=omega)only[go_sem, *])
     | (refine Ad (λhc=>?_) (λhc=>?_)<;>simp (disch:=omega)only[go_sem, *])
     | (refine AJ Pu (by assumption) hL (by simp (disch:=omega)only[go_sem, *]) ?_;intro _ _ _ _ _ _;simp (disch:=omega)only[go_sem, *]))
    all_goals
     refine Av (Sl.alloc (soP _) _) ?_ ?_ ?_ ?_
     .simp only [go_sem];omega
     .simp only [go_sem];omega
     .simp;omega
     intro w h4 s4 g4;have u4:=DQ (Bp (huP _) hid) hid g4 (hw.imp (λz=>z) (λz=>by omega));obtain ⟨jj,hjj,u5⟩:∃ jj,jj<=L.length/\FX h id (An L jj) h4:=by
      refine ⟨_, ?_,u4⟩
      assumption
     have b4:=g4.get h.next (by simp only [go_sem];omega) (hw.imp (λz=>z) (λz=>by omega));have n4:=g4.next;have l4:=g4.lim;simp (disch:=omega)only[go_sem, *] at b4 n4 l4;obtain ⟨B,hB,hBl,s5⟩:=s4y s4;clear s4 g4 u4;simp (disch:=omega)only[go_sem, *];refine ih _ _ _ ?_ ⟨n' - 1,jj,O++B,w,rfl, ?_⟩
     .omega
     .clear ih;simp (disch:=omega)only[go_sem, *]
      ((repeat' refine And.intro ?_ ?_)<;>first | omega | assumption | (exact s5) | (exact u5) | (exact NO hO hB) | ((congr 1;omega)) | ((simp;omega)))
  .have h00:n'=0:=by omega
   simp (disch:=omega)only[go_sem, *];refine Av (N:=[8,0,0,0].map CJ) (so.alloc _) ?_ ?_ ?_ ?_
   .simp only [go_sem];omega
   .simp only [go_sem];omega
   .simp;omega
   intro w h4 s4 g4;have u4:=DQ (Bp hu hid) hid g4 (hw.imp (λz=>z) (λz=>by omega));rw [<- List.map_append] at s4;simp (disch:=omega)only[go_sem, *];refine ⟨.fl 1 ((O++[8,0,0,0]).map CJ),j,Sl.frzb (Sl.weak s4 om) (λ_=>rfl) (by simp;omega),u4,kk _ _ (NO hO (λz hz=>?_)) (by simp;omega) hj⟩;simp only [List.mem_cons,List.not_mem_nil,or_false] at hz;omega
 .have hu0:=Ce (b':=An L j) (Bp (k:=⟨3,[[.fl 11 (C.parts.map Part.enc),.fl 6 (C.chans.map AU.enc),.fl 1 (C.tables.map Tab.enc)]]⟩) (FX.same hg) hid);clear kk;simp (disch:=omega)only[go_sem, *]
  ((repeat' refine And.intro ?_ ?_)<;>first | omega | assumption | (exact hu0) | (exact Sl.nil _ _ _) | ((congr 1;omega)) | ((intro r hr;cases hr)) | ((simp;omega)))
end
end Go.Ab.T
namespace Go.Ab.T
open Go Go.Ab
set_option maxHeartbeats 4000000
theorem TI {tp : TP} {f : Nat} {args args' : List V} {h h2 : AH} {K : V -> AH -> Prop} (P : Nat -> Prop) (hn : h2.next = h.next) (hl : h2.lim = h.lim)
    (hb:Wf h->∀ i k,h2.get i=some k->i<h2.next/\¬ P i/\∃ cs,h.get i=some ⟨k.sz,cs⟩/\Dc P h h2.next cs k.cs) (hz:Cr P h h2.next args args') (z:Cq tp f args' h2 K):Cq tp f args h K:=by
 intro S m hc args1 c p;have wf:=c.wf;have st:∀ r R,CY P h h2.next r R->C1 h h r P R h2:=λr R f=>⟨Nat.le_of_eq hn.symm,hl,Nat.le_of_eq hn,hb wf,f⟩
 obtain ⟨q1,q2,_⟩:=(st .u .u (.z _ _ .u)).ok c c (E6.refl c) (.u _ .u);have hz2:=Cr.ok c hz p;refine (z _ m hc args1 q1 hz2).imp ?_;rintro r1 hc' ⟨r,h',S',m',c',a',q,k⟩;exact ⟨r,h',S',m',c',q2.trans a',q,k⟩
def kP:Part:=⟨⟨#[97]⟩,0,0,false,false,[⟨0,0⟩],0,0,0,0,0⟩
def kC:Am:=⟨[kP],[],[[⟨1,0,1⟩]]⟩
def kD:Am:=⟨[kP],[⟨0,0,false,0,0,0⟩],[[⟨1,0,1⟩]]⟩
theorem tG:EI kP.name=true:=by unfold EI;decide
theorem aY0:DA 1 [⟨1,0,1⟩]:=by
 refine DA.of om ?_ (DF.one (by simp) (by simp));have e:([⟨1,0,1⟩]:List Node)=(Fo.leaf ⟨1,0,1⟩ .nil).flat:=rfl;have hr:Bg [⟨1,0,1⟩]=0:=by
  rw [e];exact KP ⟨rfl,trivial⟩ rfl (by simp [Fo.depth]) (by simp [Fo.len]) (by simp [Fo.flat])
 rw [Ga hr];obtain ⟨_,ho,hc1,hL,hd,hl⟩:=Gx hr;have hap:=Fo.runs_allpos _ ho;have hsum:=Fo.runs_sum _ ho;have hrl:=Fo.runs_len _ ho;have ht:=Oi hap om;have:(FG [⟨1,0,1⟩]).len=1:=by
  have m1:=(BV ho hc1).2;have m2:=(BV (f:=Fo.leaf ⟨1,0,1⟩ .nil) ⟨rfl,trivial⟩ rfl).2;rw [<- hL] at m1;rw [<- e] at m2;rw [m1] at m2;have l2:(Fo.leaf ⟨1,0,1⟩ .nil).len=1:=rfl;rw [l2] at m2;omega
 rw [if_neg (by unfold uC;have:=ht.len;omega)]
theorem bE:Bu ⟨[],[],[]⟩=(3,0):=if_pos (by decide)
def kH:AH:=⟨λi=>if i=4 then some ⟨3,[kC.enc]⟩ else if i=5 then some ⟨3,[kD.enc]⟩ else none,7,0⟩
theorem Nz {P:Nat->Prop} {h:AH} {n id sz:Nat} {r r':List V} (hP:P id) (hg:h.get id=some ⟨sz,[r]⟩) (q:Cr P h 0 r r'):CY P h n (.sl id 0 1 1) (.fl sz [r']):=
 .sl _ _ _ _ _ _ [r] _ hP hg (by simp) om (by decide) (.cons _ _ _ _ _ q (.nil _))
end Go.Ab.T
namespace Go.Ab.T
open Go Go.Ab
set_option maxHeartbeats 4000000
/-! Processes. -/
structure PR where
 prio:Int
 wake:Int
 ended:Bool
 deriving DecidableEq,Inhabited
@[go_sem] def PR.enc (x:PR):List V:=[.i .i64 x.prio,.i .i64 x.wake,.b x.ended]
@[go_sem] def EG (n:Nat):List V:=[.i .i64 (n:Int)]
structure Wr (h:AH) (I:Nat->Prop) (h':AH):Prop where
 next:h.next<=h'.next
 lim:h'.lim=h.lim
 get:∀ i,i<h.next->¬ I i->h'.get i=h.get i
section
variable {h h1 h2:AH} {I J:Nat->Prop}
theorem Wr.refl:Wr h I h:=⟨Nat.le_refl _,rfl,λ_ _ _=>rfl⟩
theorem Wr.trans (a:Wr h I h1) (b:Wr h1 J h2) (s:∀ i,i<h.next->J i->I i):Wr h I h2:=
 ⟨Nat.le_trans a.next b.next,b.lim.trans a.lim,λi hi hn=>(b.get i (Nat.lt_of_lt_of_le hi a.next) (λq=>hn (s i hi q))).trans (a.get i hi hn)⟩
theorem Wr.put {k:BJ} {j:Nat} (a:Wr h I h1) (hj:h.next<=j\/I j):Wr h I (h1.put j k):=
 ⟨a.next,a.lim,λi hi hn=>by rw [Ae,Af (λe=>by subst e;exact hj.elim (λq=>by omega) hn)];exact a.get i hi hn⟩
theorem Wr.alloc {k:BJ} (a:Wr h I h1):Wr h I (h1.alloc k):=
 ⟨Nat.le_succ_of_le a.next,a.lim,λi hi hn=>by have:=a.next;rw [AD,Af om];exact a.get i hi hn⟩
theorem Wr.ext (a:Wr h I h1) (x:Ak h1 h2):Wr h I h2:=⟨Nat.le_trans a.next x.next,x.lim.trans a.lim,λi hi hn=>by rw [x.get i (Nat.lt_of_lt_of_le hi a.next)];exact a.get i hi hn⟩
theorem Wr.grown {b:Nat} {v w:V} (a:Wr h I h1) (g:Grown b h1 v w h2) (hv:AA v=true\/I (Ap v)\/h.next<=Ap v):Wr h I h2:=
 ⟨Nat.le_trans a.next g.next,g.lim.trans a.lim,λi hi hn=>by
  rw [g.get i (Nat.lt_of_lt_of_le hi a.next) (hv.imp (λx=>x) (λx e=>by subst e;exact x.elim hn (λq=>by omega)))];exact a.get i hi hn⟩
end
@[go_sem] theorem aZA {k:IntKind} {n:Int}:plain (.i k n)=true:=Aq rfl
theorem bU {a:Int}:Pf tp aOw [.i .i64 a] (.b false):=by
 refine AL bCK (by simp [aAC]) λrp=>?_;unfold aAC;simp (disch:=omega)only[go_sem, *]
def Ju (a b:Int):Int:=if a<b then -1 else if b<a then 1 else 0
theorem J8 {a b:Int}:Pf tp SO [.i .i64 a,.i .i64 b] (.i .i64 (Ju a b)):=by
 have e1:a<b->Ju a b = -1:=λh=>if_pos h;have e2:¬ a<b->b<a->Ju a b=1:=λh h2=>by unfold Ju;rw [if_neg h,if_pos h2]
 have e3:¬ a<b->¬ b<a->Ju a b=0:=λh h2=>by unfold Ju;rw [if_neg h,if_neg h2]
 refine AL sN (by simp [LO]) λrp=>?_;unfold LO;simp (disch:=omega)only[go_sem, *];refine Pf.go (bU) (by simp only [go_sem]) λ_=>?_;simp (disch:=omega)only[go_sem, *];refine Pf.go (bU) (by simp only [go_sem]) λ_=>?_;simp (disch:=omega)only[go_sem, *];refine Ad (λhc=>?_) (λhc=>?_)
 .have e:=e1 hc;simp (disch:=omega)only[go_sem, *]
 .simp (disch:=omega)only[go_sem, *];refine Ad (λhc2=>?_) (λhc2=>?_)
  .have e:=e2 hc hc2;simp (disch:=omega)only[go_sem, *]
  .have e:=e3 hc hc2;simp (disch:=omega)only[go_sem, *]
theorem aL3 {a b:Int}:Pf tp SN [.fl 1 ([a,b].map Ek)] (.i .i64 (if a=0 then b else a)):=by
 have c2:((2:Nat):Int)=2:=rfl;refine AL sM (by simp [LN]) λrp=>?_;unfold LN;simp (disch:=omega)only[go_sem, *];refine BO ?_;rw [Ao aGq.eq_1];simp (disch:=omega)only[go_sem, *];refine Ad (λhc=>?_) (λhc=>?_)
 .have e:(if a=0 then b else a)=a:=if_neg hc;simp (disch:=omega)only[go_sem, *]
 .have e:(if a=0 then b else a)=b:=if_pos (Classical.not_not.1 hc);clear hc;simp (disch:=omega)only[go_sem, *];refine BO ?_;rw [Ao aGq.eq_1];simp (disch:=omega)only[go_sem, *];refine Ad (λhc2=>?_) (λhc2=>?_)
  .simp (disch:=omega)only[go_sem, *]
  .have e2:b=0:=Classical.not_not.1 hc2;clear hc2;subst e2;simp (disch:=omega)only[go_sem, *];refine BO ?_;rw [Ao aGq.eq_1];simp (disch:=omega)only[go_sem, *]
def Ji (P:List PR) (a c:Nat):Bool:=decide ((if Ju (nth P a).prio (nth P c).prio=0 then Ju a c else Ju (nth P a).prio (nth P c).prio)<0)
theorem UR {b b2 rb i j:Nat} {h:AH} {lv w:V} {P:List PR} {R:List Nat} {K:V->AH->Prop} (hr:h.get rb=some ⟨2,[[lv,w]]⟩) (sl:Sl b h 1 lv (R.map EG)) (sw:Sl b2 h 3 w (P.map PR.enc)) (hi:i<R.length) (hj:j<R.length) (hR:∀ x∈R,x<P.length) (kk:K (.b (Ji P (nth R i) (nth R j))) h):Cq tp Kr [.p rb 0 0,.i .i64 i,.i .i64 j] h K:=by
 have ri:=hR _ (Az hi);have rj:=hR _ (Az hj);obtain ⟨_,_,lt1,_,get1,at1,row1,_,_⟩:=sl.facts;obtain ⟨_,_,lt2,_,get2,at2,row2,_,_⟩:=sw.facts;have g1:=get1 om;have g2:=get2 om;have a1:=at1 .i64 i (AP h lv) om om;have a2:=at1 .i64 j (AP h lv) om om;have a3:=at2 .i64 ((nth R i:Nat):Int) (AP h w) om om;have a4:=at2 .i64 ((nth R j:Nat):Int) (AP h w) om om;have r1:=row1 i hi;have r2:=row1 j hj;have r3:=row2 (nth R i) ri;have r4:=row2 (nth R j) rj;simp only [EG,PR.enc] at r1 r2 r3 r4;simp only [Int.toNat_natCast] at a1 a2 a3 a4;clear lt1 lt2 get1 get2 at1 at2 row1 row2 sl sw hR;unfold Ji at kk;refine JD sI (by simp [LJ]) (kk) λhlm rp=>?_;unfold LJ;simp (disch:=omega)only[go_sem, *];refine Pf.go (J8) (by simp only [go_sem]) λ_=>?_;simp (disch:=omega)only[go_sem, *];refine Pf.go (J8) (by simp only [go_sem]) λ_=>?_;simp (disch:=omega)only[go_sem, *];clear r1 r2 r3 r4 a1 a2 a3 a4 g1 g2;generalize Ju (nth P (nth R i)).prio (nth P (nth R j)).prio=x at *;generalize Ju ((nth R i:Nat):Int) ((nth R j:Nat):Int)=y at *;refine Pf.look (aL3 (a:=x) (b:=y)) (.cons _ _ _ _ _ (Sl.froze (Sl.raise (Sl.new (b:=0) (N:=[x,y].map Ek) (Nat.zero_le _) (by simp))) (λ_=>rfl) trivial (by simp)) (.nil _)) rfl λ_=>?_;simp (disch:=omega)only[go_sem, *]
 (repeat (first | exact Ak.refl _ | refine Ak.alloc ?_ _ | (refine Ak.put ?_ _ _ ?_;rotate_left;(first | omega | (simp only [Ac,Ah];omega)))))
def E4 (R:List Nat) (i j:Nat):List Nat:=(R.set i (nth R j)).set j (nth R i)
theorem HI {h:AH} {v:V} {sz:Nat} {cs:List (List V)}:AP (h.put (Ap v) ⟨sz,cs⟩) v=cs:=by
 unfold AP;rw [Ae,Ar rfl]
theorem Og {b rb i j : Nat} {h : AH} {lv w : V} {R : List Nat} {K : V -> AH -> Prop} (hr : h.get rb = some ⟨2, [[lv, w]]⟩) (sl : Sl b h 1 lv (R.map EG)) (hi : i < R.length) (hj : j < R.length) (hb : h.lim <= b) (hne : Ap lv ≠ rb)
    (kk:∀ h',Wr h (·=Ap lv) h'->Sl b h' 1 lv ((E4 R i j).map EG)->K (.tup []) h'):Cq tp SM [.p rb 0 0,.i .i64 i,.i .i64 j] h K:=by
 obtain ⟨_,_,lt1,lo1,get1,at1,row1,_,_⟩:=sl.facts;have g0:=lt1 om;have g1:=get1 om;have g2:=lo1 om;have s1:=Sl.setT (x:=nth R j) (h':=h.put (Ap lv) ⟨1,(AP h lv).set (Ca lv+i) (EG (nth R j))⟩) sl hi (Nat.le_refl _) (by rw [Ae,Ar rfl]);have s2:=Sl.setT (j:=j) (x:=nth R i) (h':=(h.put (Ap lv) ⟨1,(AP h lv).set (Ca lv+i) (EG (nth R j))⟩).put (Ap lv) ⟨1,((AP h lv).set (Ca lv+i) (EG (nth R j))).set (Ca lv+j) (EG (nth R i))⟩) s1 (by simpa using hj) (Nat.le_refl _) (by rw [Ae,Ar rfl,HI]);obtain ⟨_,_,_,_,_,at2,row2,_,_⟩:=s1.facts;have a1:=at1 .i64 i (AP h lv) om om;have a2:=at1 .i64 j (AP h lv) om om;have a3:=at1 .i64 j ((AP h lv).set (Ca lv+i) (EG (nth R j))) om om;have r1:=row1 i hi;have r2:=row1 j hj;have r3:=row2 j (by simpa using hj);rw [HI] at r3;have w0:Wr h (·=Ap lv) ((h.put (Ap lv) ⟨1,(AP h lv).set (Ca lv+i) (EG (nth R j))⟩).put (Ap lv) ⟨1,((AP h lv).set (Ca lv+i) (EG (nth R j))).set (Ca lv+j) (EG (nth R i))⟩):=((Wr.refl (I:=(·=Ap lv))).put (.inr rfl)).put (.inr rfl);have f:=kk _ w0 s2;simp only [EG] at r1 r2 r3 a3 f;simp only [Int.toNat_natCast] at a1 a2 a3;clear lt1 lo1 get1 at1 row1 at2 row2 kk w0 s1 s2;refine Aa sL (by simp [LM]) λwf rp=>?_;unfold LM;simp (disch:=omega)only[go_sem, *];simpa only [N0] using f
theorem N9 {b rb:Nat} {h:AH} {lv w:V} {R:List Nat} {K:V->AH->Prop} (hr:h.get rb=some ⟨2,[[lv,w]]⟩) (sl:Sl b h 1 lv (R.map EG)) (kk:K (.i .i64 R.length) h):Cq tp UB [.p rb 0 0] h K:=by
 obtain ⟨len,_⟩:=sl.facts;refine Aa aMR (by simp [QC]) λwf rp=>?_;unfold QC;simp (disch:=omega)only[go_sem, *]
theorem dM {b rb x : Nat} {h : AH} {lv w : V} {R : List Nat} {K : V -> AH -> Prop} (hr : h.get rb = some ⟨2, [[lv, w]]⟩) (sl : Sl b h 1 lv (R.map EG)) (hb : h.lim <= b) (hbr : b <= rb) (hrn : rb < h.next) (hR : R.length < 4) (hne : AA lv = true \/ Ap lv ≠ rb)
    (kk:∀ h' v,Wr h (λi=>i=rb\/(AA lv=false/\i=Ap lv)) h'->h'.get rb=some ⟨2,[[v,w]]⟩->Sl b h' 1 v ((R++[x]).map EG)->Ap v≠rb->K (.tup []) h'):Cq tp Kt [.p rb 0 0,.ifc 3 (.i .i64 x)] h K:=by
 have hsv:=Sl.sameV sl;refine Aa sK (by simp [LL]) λwf rp=>?_;unfold LL;simp (disch:=omega)only[go_sem, *];refine Av (N:=[EG x]) (sl.alloc ⟨1,[EG x]⟩) ?_ ?_ ?_ ?_
 .simp (disch:=omega)only[go_sem, *]
 .simp (disch:=omega)only[go_sem, *]<;>omega
 .simp;omega
 intro v h4 s4 g4;have n4:=g4.next;rw [Ac] at n4;have hnv:=Au s4;have s5:Sl b h4 1 v ((R++[x]).map EG):=by simpa using s4
 have hg:h4.get rb=some ⟨2,[[lv,w]]⟩:=by
  rw [g4.get rb (by rw [Ac];omega) (hne.imp (λx=>x) (λx e=>x e.symm)),AD,Af om];exact hr
 have hd:Ap v≠rb:=by
  rcases g4.own with q | ⟨q,e⟩ | q
  .rcases s5 with ⟨_,z⟩ | ⟨_,_,_,_,rfl,_⟩
   .simp at z
   .cases q
  .rw [e];exact hne.resolve_left (by rw [q];decide)
  .rw [Ac] at q;omega
 have wr:Wr h (λi=>i=rb\/(AA lv=false/\i=Ap lv)) h4:=(Wr.refl.alloc).grown g4 (by
  cases hq:AA lv with
  | true=>exact .inl rfl
  | false=>exact .inr (.inl (.inr ⟨rfl,rfl⟩)))
 have f:=kk (h4.put rb ⟨2,[[v,w]]⟩) v (wr.put (.inr (.inl rfl))) (by rw [Ae,Ar rfl]) (AC s5 _ _ (.inr (λe=>hd e.symm))) hd;have l4:=g4.lim;have c1:=g4.cell;have c2:=g4.cells;rw [Bi] at l4;clear kk g4 s4 s5 wr;simp (disch:=omega)only[go_sem, *]
theorem vB {b rb n : Nat} {h : AH} {lv w : V} {R : List Nat} {K : V -> AH -> Prop} (hr : h.get rb = some ⟨2, [[lv, w]]⟩) (sl : Sl b h 1 lv (R.map EG)) (hb : h.lim <= rb) (hn : R.length = n + 1)
    (kk:∀ h',Wr h (·=rb) h'->K (.ifc 3 (.i .i64 ((nth R n:Nat):Int))) h'):Cq tp Ks [.p rb 0 0] h K:=by
 obtain ⟨len,_,lt1,_,get1,at1,row1,c1,c2⟩:=sl.facts;have g1:=get1 om;have a1:=at1 .i64 n (AP h lv) om om;have r1:=row1 n om;simp only [EG] at r1;rw [hn] at len;have ec:((n+1:Nat):Int) - 1=n:=by omega
 have p1:=Sl.pre sl (k:=.i64) (j:=n) (cs:=AP h lv) om (by simp;omega);have c3:=F5 (n:=n) c2;simp only [Int.toNat_natCast] at p1;have f:=λk=>kk (h.put rb k) ((Wr.refl (I:=(·=rb))).put (.inr rfl));clear kk get1 at1 row1 lt1;refine Aa sJ (by simp [LK]) λwf rp=>?_;unfold LK;simp (disch:=omega)only[go_sem, *]
end Go.Ab.T
namespace Go.Ab.T
open Go Go.Ab
set_option maxHeartbeats 4000000
structure RB (b:Nat) (h:AH) (rb:Nat) (lv w:V) (P:List PR) (R:List Nat):Prop where
 r:h.get rb=some ⟨2,[[lv,w]]⟩
 sl:Sl b h 1 lv (R.map EG)
 sw:Sl 0 h 3 w (P.map PR.enc)
 lim:h.lim<=b
 br:b<=rb
 rn:rb<h.next
 ne:AA lv=true\/Ap lv≠rb
 nw:AA w=true\/Ap w<b
 hR:∀ x∈R,x<P.length
def W7 (P:List PR) (R:List Nat) (j:Nat):List Nat:=if j=0 then R else if Ji P (nth R j) (nth R 0)=true then E4 R 0 j else R
section
variable {b rb:Nat} {h h':AH} {lv w:V} {P:List PR} {R R':List Nat} {K:V->AH->Prop}
theorem RB.own (q:RB b h rb lv w P R) (hl:0<R.length):b<=Ap lv/\Ap lv≠rb:=by
 have hn:AA lv=false:=by
  rcases q.sl with ⟨_,z⟩ | ⟨_,_,_,_,rfl,_⟩
  .rw [List.map_eq_nil_iff.1 z] at hl;cases hl
  .rfl
 exact ⟨(Au q.sl).resolve_left (by rw [hn];decide),q.ne.resolve_left (by rw [hn];decide)⟩
theorem RB.re (q:RB b h rb lv w P R) (a:Wr h (·=Ap lv) h') (hl:0<R.length) (s:Sl b h' 1 lv (R'.map EG)) (hR:∀ x∈R',x<P.length):RB b h' rb lv w P R':=by
 have o:=q.own hl;refine ⟨(a.get _ q.rn (λe=>o.2 e.symm)).trans q.r,s, ?_,by rw [a.lim];exact q.lim,q.br,Nat.lt_of_lt_of_le q.rn a.next,.inr o.2,q.nw,hR⟩;rcases q.nw with z | z
 .rcases q.sw with x | ⟨_,_,_,_,rfl,_⟩
  .exact .inl x
  .cases z
 .exact q.sw.same a.next (λhq=>a.get _ hq (by show Ap w≠Ap lv;omega))
theorem H9 {i j:Nat} (hi:i<R.length) (hj:j<R.length) {n:Nat} (hR:∀ x∈R,x<n):∀ x∈E4 R i j,x<n:=λx hx=>by
 unfold E4 at hx;rcases List.mem_or_eq_of_mem_set hx with hx | rfl
 .rcases List.mem_or_eq_of_mem_set hx with hx | rfl
  .exact hR _ hx
  .exact hR _ (Az hj)
 .exact hR _ (Az hi)
theorem aNo {j:Nat} (q:RB b h rb lv w P R) (hj:j<R.length) (hj2:j<=2) (kk:∀ h',Wr h (·=Ap lv) h'->RB b h' rb lv w P (W7 P R j)->K (.tup []) h'):Cq tp UM [.ifc 149 (.p rb 0 0),.i .i64 j] h K:=by
 have o:=q.own om
 by_cases h0:j=0
 .subst h0;have e:W7 P R 0=R:=rfl;rw [e] at kk;have f:=kk h Wr.refl q;have d:IntKind.wrap .i64 ((-1:Int).tdiv 2)=0:=by decide
  clear kk q;refine Aa R5 (by simp [Ib]) λwf rp=>?_;unfold Ib;simp (disch:=omega)only[go_sem, *];refine BO ?_;rw [Ao aXh.eq_1];simp (disch:=omega)only[go_sem, *]
 .have d:IntKind.wrap .i64 (((j:Int) - 1).tdiv 2)=0:=by
   have:j=1\/j=2:=by omega
   rcases this with rfl | rfl<;>decide
  have d2:IntKind.wrap .i64 ((-1:Int).tdiv 2)=0:=by decide
  have hz:(0:Nat)<R.length:=by omega
  have el:W7 P R j=if Ji P (nth R j) (nth R 0)=true then E4 R 0 j else R:=if_neg h0;rw [el] at kk;clear el;refine Aa R5 (by simp [Ib]) λwf rp=>?_;unfold Ib;simp (disch:=omega)only[go_sem, *];refine BO ?_;rw [Ao aXh.eq_1];simp (disch:=omega)only[go_sem, *];refine Ax (λhc=>absurd hc om) (λ_=>?_);simp (disch:=omega)only[go_sem, *];refine UR (j:=0) q.r q.sl q.sw hj hz q.hR ?_
  by_cases hq:Ji P (nth R j) (nth R 0)=true
  .rw [if_pos hq] at kk;simp (disch:=omega)only[go_sem, *];refine Og (i:=0) q.r q.sl hz hj q.lim o.2 ?_;intro h1 a s1;have f:=kk h1 a (q.re a hz s1 (H9 hz hj q.hR));clear kk;simp (disch:=omega)only[go_sem, *];refine BO ?_;rw [Ao aXh.eq_1];simp (disch:=omega)only[go_sem, *]
  .rw [if_neg hq] at kk;have f:=kk h Wr.refl q;clear kk;simp (disch:=omega)only[go_sem, *]
theorem aOj {j:Nat}:(W7 P R j).length=R.length:=by
 unfold W7 E4;split
 .rfl
 .split
  .simp
  .rfl
theorem Zv {x:Nat} (q:RB b h rb lv w P R) (hl:R.length<=2) (hx:x<P.length) (kk:∀ h' v,Wr h (b<=·) h'->RB b h' rb v w P (W7 P (R++[x]) R.length)->K (.tup []) h'):Cq tp O3 [.ifc 149 (.p rb 0 0),.ifc 3 (.i .i64 x)] h K:=by
 have hb:=q.br;have hn:=q.rn;refine Aa aMQ (by simp [QB]) λwf rp=>?_;unfold QB;simp (disch:=omega)only[go_sem, *];refine dM (x:=x) q.r q.sl q.lim q.br q.rn om q.ne ?_;intro h1 v a1 r1 s1 d1;have q1:RB b h1 rb v w P (R++[x]):=by
  have hown:=Au q.sl;refine ⟨r1,s1, ?_,by rw [a1.lim];exact q.lim,hb,Nat.lt_of_lt_of_le hn a1.next,.inr d1,q.nw,λy hy=>?_⟩
  .rcases q.nw with z | z
   .rcases q.sw with x | ⟨_,_,_,_,rfl,_⟩
    .exact .inl x
    .cases z
   .exact q.sw.same a1.next (λhq=>a1.get _ hq (λe=>by
     rcases e with e | ⟨e1,e2⟩
     .omega
     .have:=hown.resolve_left (by rw [e1];decide);omega))
  .rcases List.mem_append.1 hy with z | z
   .exact q.hR y z
   .rw [List.mem_singleton.1 z];exact hx
 have w1:Wr h (b<=·) h1:=⟨a1.next,a1.lim,λi hi hn=>a1.get i hi (λe=>by
  rcases e with e | ⟨e1,e2⟩
  .exact hn (by rw [e];exact hb)
  .have:=(Au q.sl).resolve_left (by rw [e1];decide);exact hn (by rw [e2];exact this))⟩
 have el:((R++[x]).length:Int) - 1=R.length:=by simp
 have ll:(R++[x]).length=R.length+1:=by simp
 clear s1 r1 a1 d1;simp (disch:=omega)only[go_sem, *];refine N9 q1.r q1.sl ?_;simp (disch:=omega)only[go_sem, *];refine aNo (j:=R.length) q1 om om ?_;intro h2 a2 q2;have o:=q1.own om;have f:=kk h2 v (w1.trans a2 (λi hi e=>by rw [e];exact o.1)) q2;clear kk;simp (disch:=omega)only[go_sem, *]
theorem Zt {n:Nat} (q:RB b h rb lv w P R) (hn:n<R.length) (hn2:n<=2) (kk:∀ h' R' (r:Bool),Wr h (·=Ap lv) h'->RB b h' rb lv w P R'->R'.length=R.length->nth R' n=nth R n->K (.b r) h'):Cq tp aM [.ifc 149 (.p rb 0 0),.i .i64 0,.i .i64 n] h K:=by
 have o:=q.own om;have hz:(0:Nat)<R.length:=by omega
 have c1:((1:Nat):Int)=1:=rfl;have c2:((2:Nat):Int)=2:=rfl;have m0:(2:Int)*0=0:=rfl;have m1:(2:Int)*1=2:=rfl;have hnn:n=0\/n=1\/n=2:=by omega
 have f0:=λr=>kk h R r Wr.refl q rfl rfl;rcases hnn with rfl | rfl | rfl
 .clear kk;refine Aa aNi (by simp [Q5]) λwf rp=>?_;unfold Q5;simp (disch:=omega)only[go_sem, *];refine BO ?_;rw [Ao aAp.eq_1];simp (disch:=omega)only[go_sem, *]
 .clear kk;refine Aa aNi (by simp [Q5]) λwf rp=>?_;unfold Q5;simp (disch:=omega)only[go_sem, *];refine BO ?_;rw [Ao aAp.eq_1];simp (disch:=omega)only[go_sem, *]
 .have h1:(1:Nat)<R.length:=by omega
  refine Aa aNi (by simp [Q5]) λwf rp=>?_;unfold Q5;simp (disch:=omega)only[go_sem, *];refine BO ?_;rw [Ao aAp.eq_1];simp (disch:=omega)only[go_sem, *];refine UR (i:=1) (j:=0) q.r q.sl q.sw h1 hz q.hR ?_
  cases Ji P (nth R 1) (nth R 0) with
  | false=>
   clear kk;simp (disch:=omega)only[go_sem, *]
  | true=>
   simp (disch:=omega)only[go_sem, *];refine Og (i:=0) (j:=1) q.r q.sl hz h1 q.lim o.2 ?_;intro h2 a s2;have f:=λr=>kk h2 (E4 R 0 1) r a (q.re a hz s2 (H9 hz h1 q.hR)) (by simp [E4]) (by
    unfold E4 nth;rw [List.getD_eq_getElem?_getD,List.getElem?_set_ne (by decide),List.getElem?_set_ne (by decide),List.getD_eq_getElem?_getD])
   clear kk;simp (disch:=omega)only[go_sem, *];refine BO ?_;rw [Ao aAp.eq_1];simp (disch:=omega)only[go_sem, *]
theorem WO {n:Nat} (hn:R.length=n+1):nth (E4 R 0 n) n=nth R 0:=by
 unfold E4;rw [Ba (by simp;omega),List.getElem_set_self]
theorem sT {n:Nat} (q:RB b h rb lv w P R) (hn:R.length=n+1) (hn2:n<=2) (kk:∀ h',Wr h (b<=·) h'->K (.ifc 3 (.i .i64 ((nth R 0:Nat):Int))) h'):Cq tp Z0 [.ifc 149 (.p rb 0 0)] h K:=by
 have o:=q.own om;have ec:((n+1:Nat):Int) - 1=n:=by omega
 have hz:(0:Nat)<R.length:=by omega
 have hb:=q.br;have hlm:=q.lim;refine Aa aMS (by simp [QD]) λwf rp=>?_;unfold QD;simp (disch:=omega)only[go_sem, *];refine N9 q.r q.sl ?_;simp (disch:=omega)only[go_sem, *];refine Og (i:=0) (j:=n) q.r q.sl hz om q.lim o.2 ?_;intro h1 a1 s1;have q1:=q.re a1 hz s1 (H9 hz om q.hR);have hl1:(E4 R 0 n).length=n+1:=by simp [E4,hn]
 have e1:=WO hn;clear s1;simp (disch:=omega)only[go_sem, *];refine Zt (n:=n) q1 om hn2 ?_;intro h2 R2 r a2 q2 hl2 e2;have hl3:R2.length=n+1:=hl2.trans hl1;have l2:h2.lim<=rb:=by rw [a2.lim,a1.lim];omega
 simp (disch:=omega)only[go_sem, *];refine vB (n:=n) q2.r q2.sl l2 hl3 ?_;intro h3 a3;have w1:Wr h (b<=·) h1:=⟨a1.next,a1.lim,λi hi hn=>a1.get i hi (λe=>hn (by rw [e];exact o.1))⟩
 have w2:=w1.trans a2 (λi _ e=>by rw [e];exact o.1);have f:=kk h3 (w2.trans a3 (λi _ e=>by rw [e];exact hb));rw [<- e1,<-e2] at f;clear kk e1 e2;simp (disch:=omega)only[go_sem, *]
end
def CM (P:List PR) (now:Int):List PR->Nat->List Nat->List Nat
 | [],_,R=>R
 | x::l,i,R=>CM P now l (i+1) (if x.ended=false/\x.wake<=now then W7 P (R++[i]) R.length else R)
def DD (P:List PR) (now:Int):Int:=if (CM P now P 0 []).length=0 then -1 else ((nth (CM P now P 0 []) 0:Nat):Int)
theorem RB.ext {b rb:Nat} {h h':AH} {lv w:V} {P:List PR} {R:List Nat} (q:RB b h rb lv w P R) (x:Ak h h'):RB b h' rb lv w P R:=
 ⟨(x.get _ q.rn).trans q.r,q.sl.ext x,q.sw.ext x,by rw [x.lim];exact q.lim,q.br,Nat.lt_of_lt_of_le q.rn x.next,q.ne,q.nw,q.hR⟩
theorem Zc {h h1 h2:AH} (x:Ak h h1) (a:Wr h1 (h.next<=·) h2):Ak h h2:=
 ⟨Nat.le_trans x.next a.next,a.lim.trans x.lim,λi hi=>(a.get i (Nat.lt_of_lt_of_le hi x.next) om).trans (x.get i hi)⟩
theorem aNT {K : Ex -> Env -> AH -> Prop} {e : Env} {h h' : AH} {w lv : V} {P : List PR} {now : Int} (hP : P.length <= 3) (x : Ak h h') (q : RB h.next h' h.next lv w P []) (e1 : e 1 = .i .i64 now) (e5 : e 5 = .p h.next 0 0) (e17 : e 17 = w) (e18 : e 18 = .i .i64 P.length) (e19 : e 19 = .i .i64 0)
    (kk:∀ (e:Env) (h':AH) (lv:V),Ak h h'->RB h.next h' h.next lv w P (CM P now P 0 [])->(CM P now P 0 []).length<=3->e 5=.p h.next 0 0->K (.ex 0) e h'):ZC tp (.loop bBk) e h' K:=by
 refine Ai (λn' e hh=>∃ (i:Nat) (lv:V) (R:List Nat),n'=P.length - i/\Ak h hh/\RB h.next hh h.next lv w P R/\e 1=.i .i64 now/\e 5=.p h.next 0 0/\e 17=w/\e 18=.i .i64 P.length/\e 19=.i .i64 i/\i<=P.length/\R.length<=i/\CM P now (P.drop i) i R=CM P now P 0 []) ?_ _ _ _ ⟨0,lv,[],rfl,x,q,e1,e5,e17,e18,e19,om,by simp,rfl⟩;clear x q e1 e5 e17 e18 e19 e h';rintro n' e hh ⟨i,lv,R,rfl,x,q,e1,e5,e17,e18,e19,hi,hl,hz⟩ ih;obtain ⟨_,_,_,_,wget,JC,wrow,_,_⟩:=q.sw.facts;have hlm:=q.lim;rw [Ao bBk.eq_1];simp (disch:=omega)only[go_sem, *];refine Ad (λhc=>?_) (λhc=>?_)
 .have hp:i<P.length:=by omega
  have g1:=wget om;have a1:=JC .i64 i (AP hh w) om om;have r1:=wrow i hp;have hxn:=x.next;have hll:hh.lim<=hh.next:=by omega
  simp only [PR.enc] at r1;simp only [Int.toNat_natCast] at a1;rw [AN hp,CM] at hz;clear wget JC wrow;obtain ⟨en,he⟩:∃ en,(nth P i).ended=en:=⟨_,rfl⟩
  obtain ⟨wk,hw⟩:∃ wk,(nth P i).wake=wk:=⟨_,rfl⟩
  rw [he,hw] at hz r1;have X1:Ak hh ((hh.alloc ⟨3,[[.i .i64 0,.i .i64 0,.b false]]⟩).put hh.next ⟨3,[[.i .i64 (nth P i).prio,.i .i64 wk,.b en]]⟩):=by (repeat (first | exact Ak.refl _ | refine Ak.alloc ?_ _ | (refine Ak.put ?_ _ _ ?_;rotate_left;(first | omega | (simp only [Ac,Ah];omega)))))
  have q1:=q.ext X1;have x1:=x.trans X1;clear x q X1 he hw
  cases en with
  | true=>
   rw [if_neg (by simp)] at hz;simp (disch:=omega)only[go_sem, *];refine ih _ _ _ ?_ ⟨i+1,lv,R,rfl,x1,q1, ?_⟩
   .omega
   .clear ih kk x1 q1;simp (disch:=omega)only[go_sem, *]
    ((repeat' refine And.intro ?_ ?_)<;>first | omega | assumption | (exact hz))
  | false=>
   simp (disch:=omega)only[go_sem, *];refine Ad (λhc2=>?_) (λhc2=>?_)
   .rw [if_pos ⟨rfl,hc2⟩] at hz;simp (disch:=omega)only[go_sem, *];refine Zv (x:=i) q1 om hp ?_;intro h3 v a3 q3;have x3:=Zc x1 a3;clear x1 q1 a3;simp (disch:=omega)only[go_sem, *];refine ih _ _ _ ?_ ⟨i+1,v,W7 P (R++[i]) R.length,rfl,x3,q3, ?_⟩
    .omega
    .have hlu:(W7 P (R++[i]) R.length).length<=i+1:=by rw [aOj];simp;omega
     clear ih kk x3 q3;simp (disch:=omega)only[go_sem, *]
     ((repeat' refine And.intro ?_ ?_)<;>first | omega | assumption | (exact hz) | (exact hlu))
   .rw [if_neg (λe=>hc2 e.2)] at hz;simp (disch:=omega)only[go_sem, *];refine ih _ _ _ ?_ ⟨i+1,lv,R,rfl,x1,q1, ?_⟩
    .omega
    .clear ih kk x1 q1;simp (disch:=omega)only[go_sem, *]
     ((repeat' refine And.intro ?_ ?_)<;>first | omega | assumption | (exact hz))
 .obtain rfl:i=P.length:=by omega
  rw [List.drop_length,CM] at hz;rw [<- hz] at kk;simp (disch:=omega)only[go_sem, *];exact kk _ _ lv x q om e5
theorem uM {b tb:Nat} {h:AH} {w:V} {P:List PR} {now:Int} {K:V->AH->Prop} (ht:h.get tb=some ⟨1,[[w]]⟩) (htn:tb<h.next) (sw:Sl b h 3 w (P.map PR.enc)) (hP:P.length<=3) (kk:K (.i .i64 (DD P now)) h):Cq tp ZG [.p tb 0 0,.i .i64 now] h K:=by
 obtain ⟨wlen,_,_,_,_,_,_,c1,c2⟩:=sw.facts;have hsw:=Dw sw;have sw0:Sl 0 h 3 w (P.map PR.enc):=Sl.weak sw (Nat.zero_le _);refine JD aMu (by simp [Qf]) (kk) λhlm rp=>?_;unfold Qf;simp (disch:=omega)only[go_sem, *];refine aNT (h:=h) (lv:=.ns) (w:=w) (P:=P) (now:=now) hP ?_ ⟨?_,Sl.nil _ _ _,sw0.ext ?_, ?_,Nat.le_refl _, ?_,.inl rfl,hsw,λx hx=>by cases hx⟩ ?_ ?_ ?_ ?_ ?_ ?_
 any_goals (simp (disch:=omega)only[go_sem, *];done)
 any_goals (repeat (first | exact Ak.refl _ | refine Ak.alloc ?_ _ | (refine Ak.put ?_ _ _ ?_;rotate_left;(first | omega | (simp only [Ac,Ah];omega)))))
 .exact Nat.lt_succ_self _
 intro e h2 lv x q hl e5;simp (disch:=omega)only[go_sem, *];refine N9 q.r q.sl ?_;unfold DD;generalize CM P now P 0 []=R at *;simp (disch:=omega)only[go_sem, *];refine Ad (λhc=>?_) (λhc=>?_)
 .rw [if_pos om];simp (disch:=omega)only[go_sem, *]
 .rw [if_neg om];simp (disch:=omega)only[go_sem, *];refine sT (n:=R.length - 1) q om om ?_;intro h3 a3;simp (disch:=omega)only[go_sem, *];exact Zc x a3
end Go.Ab.T
namespace Go.Ab.T
open Go Go.Ab
set_option maxHeartbeats 4000000
section
variable {b tb:Nat} {h:AH} {w:V} {P:List PR} {K:V->AH->Prop}
theorem Ol {i:Int} (ht:h.get tb=some ⟨1,[[w]]⟩) (sw:Sl b h 3 w (P.map PR.enc)) (kk:K (.b (decide (0<=i/\i<P.length))) h):Cq tp aN [.p tb 0 0,.i .i64 i] h K:=by
 obtain ⟨wlen,_⟩:=sw.facts;refine Aa Nx (by simp [Gp]) λwf rp=>?_;unfold Gp;simp (disch:=omega)only[go_sem, *];refine Ax (λhc=>?_) (λhc=>?_)
 .have e:decide (0<=i/\i<(P.length:Int))=decide (i<(P.length:Int)):=by simp [hc]
  rw [e] at kk;simp (disch:=omega)only[go_sem, *]
 .have e:decide (0<=i/\i<(P.length:Int))=false:=by simp [hc]
  rw [e] at kk;simp (disch:=omega)only[go_sem, *]
theorem eF {i : Nat} {u : Int} (ht : h.get tb = some ⟨1, [[w]]⟩) (sw : Sl b h 3 w (P.map PR.enc)) (hi : i < P.length) (hb : h.lim <= b) (hd : Ap w ≠ tb)
    (kk:∀ h',Wr h (·=Ap w) h'->Sl b h' 3 w ((P.set i { nth P i with wake:=u }).map PR.enc)->K (.b true) h'):Cq tp UF [.p tb 0 0,.i .i64 i,.i .i64 u] h K:=by
 obtain ⟨_,_,lt1,lo1,get1,at1,row1,_,_⟩:=sw.facts;have g0:=lt1 om;have g1:=get1 om;have g2:=lo1 om;have s1:=Sl.setT (x:={ nth P i with wake:=u }) (h':=h.put (Ap w) ⟨3,(AP h w).set (Ca w+i) (PR.enc { nth P i with wake:=u })⟩) sw hi (Nat.le_refl _) (by rw [Ae,Ar rfl]);have ht1:(h.put (Ap w) ⟨3,(AP h w).set (Ca w+i) (PR.enc { nth P i with wake:=u })⟩).get tb=some ⟨1,[[w]]⟩:=by rw [Ae,Af (λe=>hd e.symm)];exact ht
 have f:=kk _ (Wr.put (Wr.refl (I:=(·=Ap w))) (.inr rfl)) s1;have a1:=at1 .i64 i (AP h w) om om;have r1:=row1 i hi;have el:decide (0<=(i:Int)/\(i:Int)<P.length)=true:=by simp;omega
 simp only [PR.enc] at r1 f ht1;simp only [Int.toNat_natCast] at a1;clear lt1 lo1 get1 at1 row1 kk;refine Aa aMV (by simp [QG]) λwf rp=>?_;unfold QG;simp (disch:=omega)only[go_sem, *];refine Ol ht sw ?_;rw [el];simp (disch:=omega)only[go_sem, *];simp only [PR.enc] at s1;refine Ol (i:=i) ht1 s1 ?_;rw [List.length_set,el];simp (disch:=omega)only[go_sem, *]
theorem uL {i : Nat} (ht : h.get tb = some ⟨1, [[w]]⟩) (sw : Sl b h 3 w (P.map PR.enc)) (hi : i < P.length) (hb : h.lim <= b) (hd : Ap w ≠ tb)
    (kk:∀ h',Wr h (·=Ap w) h'->Sl b h' 3 w ((P.set i { nth P i with ended:=true }).map PR.enc)->K (.b true) h'):Cq tp UG [.p tb 0 0,.i .i64 i] h K:=by
 obtain ⟨_,_,lt1,lo1,get1,at1,row1,_,_⟩:=sw.facts;have g0:=lt1 om;have g1:=get1 om;have g2:=lo1 om;have s1:=Sl.setT (x:={ nth P i with ended:=true }) (h':=h.put (Ap w) ⟨3,(AP h w).set (Ca w+i) (PR.enc { nth P i with ended:=true })⟩) sw hi (Nat.le_refl _) (by rw [Ae,Ar rfl]);have ht1:(h.put (Ap w) ⟨3,(AP h w).set (Ca w+i) (PR.enc { nth P i with ended:=true })⟩).get tb=some ⟨1,[[w]]⟩:=by rw [Ae,Af (λe=>hd e.symm)];exact ht
 have f:=kk _ (Wr.put (Wr.refl (I:=(·=Ap w))) (.inr rfl)) s1;have a1:=at1 .i64 i (AP h w) om om;have r1:=row1 i hi;have el:decide (0<=(i:Int)/\(i:Int)<P.length)=true:=by simp;omega
 simp only [PR.enc] at r1 f ht1;simp only [Int.toNat_natCast] at a1;clear lt1 lo1 get1 at1 row1 kk;refine Aa Nw (by simp [Gn]) λwf rp=>?_;unfold Gn;simp (disch:=omega)only[go_sem, *];refine Ol ht sw ?_;rw [el];simp (disch:=omega)only[go_sem, *];simp only [PR.enc] at s1;refine Ol (i:=i) ht1 s1 ?_;rw [List.length_set,el];simp (disch:=omega)only[go_sem, *]
def Be (P:List PR):List PR:=P.map λx=>⟨x.prio,0,false⟩
theorem Ti {i:Nat} (hi:i<P.length):(Be (P.take i)++P.drop i).set i ⟨(nth (Be (P.take i)++P.drop i) i).prio,0,false⟩=Be (P.take (i+1))++P.drop (i+1):=by
 have hl:(Be (P.take i)).length=i:=by unfold Be;rw [List.length_map,List.length_take];omega
 rw [AN hi,List.set_append_right _ _ om,hl,Nat.sub_self,List.set_cons_zero];have hn:nth (Be (P.take i)++nth P i::P.drop (i+1)) i=nth P i:=by
  rw [Ba (by simp [hl]),List.getElem_append_right om];simp [hl]
 rw [hn,Db hi];unfold Be;rw [List.map_append,List.append_assoc];rfl
theorem WV (ht:h.get tb=some ⟨1,[[w]]⟩) (sw:Sl b h 3 w (P.map PR.enc)) (hb:h.lim<=b) (hd:Ap w≠tb)
    (kk:∀ h',Wr h (·=Ap w) h'->Sl b h' 3 w ((Be P).map PR.enc)->K (.tup []) h'):Cq tp UA [.p tb 0 0] h K:=by
 obtain ⟨wlen,_,_,_,_,_,_,_,_⟩:=sw.facts;refine Aa aMP (by simp [QA]) λwf rp=>?_;unfold QA;simp (disch:=omega)only[go_sem, *];refine Ai (λn' e hh=>∃ (i:Nat) (Q:List PR),n'=P.length - i/\Wr h (·=Ap w) hh/\hh.get tb=some ⟨1,[[w]]⟩/\Sl b hh 3 w (Q.map PR.enc)/\Q.length=P.length/\Be (P.take i)++P.drop i=Q/\e 0=.p tb 0 0/\e 7=.i .i64 P.length/\e 8=.i .i64 i/\i<=P.length) ?_ _ _ _ ⟨0,P,rfl,Wr.refl,ht,sw,rfl,by simp [Be], ?_⟩
 .rintro n' e hh ⟨i,Q,rfl,wr,ht,sw,hQ,hz,e0,e7,e8,hi⟩ ih;have hlm:=wr.lim;rw [Ao bCQ.eq_1];simp (disch:=omega)only[go_sem, *];refine Ad (λhc=>?_) (λhc=>?_)
  .have hp:i<Q.length:=by omega
   obtain ⟨_,_,lt1,lo1,get1,at1,row1,_,_⟩:=sw.facts;have g0:=lt1 om;have g1:=get1 om;have g2:=lo1 om;have r1:=row1 i hp;have a1:=at1 .i64 i (AP hh w) om om;have a2:=at1 .i64 i ((AP hh w).set (Ca w+i) (PR.enc { nth Q i with wake:=0 })) om om;have s1:=Sl.setT (x:={ nth Q i with wake:=0 }) (h':=hh.put (Ap w) ⟨3,(AP hh w).set (Ca w+i) (PR.enc { nth Q i with wake:=0 })⟩) sw hp (Nat.le_refl _) (by rw [Ae,Ar rfl]);have s2:=Sl.setT (j:=i) (x:=⟨(nth Q i).prio,0,false⟩) (h':=(hh.put (Ap w) ⟨3,(AP hh w).set (Ca w+i) (PR.enc { nth Q i with wake:=0 })⟩).put (Ap w) ⟨3,((AP hh w).set (Ca w+i) (PR.enc { nth Q i with wake:=0 })).set (Ca w+i) (PR.enc ⟨(nth Q i).prio,0,false⟩)⟩) s1 (by simpa using hp) (Nat.le_refl _) (by rw [Ae,Ar rfl,HI]);have w2:Wr h (·=Ap w) (hh.put (Ap w) ⟨3,((AP hh w).set (Ca w+i) (PR.enc { nth Q i with wake:=0 })).set (Ca w+i) (PR.enc ⟨(nth Q i).prio,0,false⟩)⟩):=wr.put (.inr rfl);have r2:((AP hh w).set (Ca w+i) (PR.enc { nth Q i with wake:=0 }))[Ca w+i]?=some (PR.enc { nth Q i with wake:=0 }):=by
    have:=(Sl.facts s1).row i (by simpa using hp);rw [HI] at this;rw [this,Ba (by simpa using hp),List.getElem_set_self]
   have hq:Be (P.take (i+1))++P.drop (i+1)=Q.set i ⟨(nth Q i).prio,0,false⟩:=by rw [<- hz,Ti om]
   have ht2:(hh.put (Ap w) ⟨3,((AP hh w).set (Ca w+i) (PR.enc { nth Q i with wake:=0 })).set (Ca w+i) (PR.enc ⟨(nth Q i).prio,0,false⟩)⟩).get tb=some ⟨1,[[w]]⟩:=by rw [Ae,Af (λe=>hd e.symm)];exact ht
   simp only [List.set_set,N0] at s2 w2 ht2;simp only [PR.enc] at r1 r2 a2 s2 w2 ht2;simp only [Int.toNat_natCast] at a1 a2;clear lt1 lo1 get1 at1 row1 s1 sw;simp (disch:=omega)only[go_sem, *];refine ih _ _ _ ?_ ⟨i+1,Q.set i ⟨(nth Q i).prio,0,false⟩,rfl,w2,ht2,s2,by rw [List.length_set];exact hQ,hq, ?_⟩
   .omega
   .clear ih kk s2 w2 ht2 hq hz;simp (disch:=omega)only[go_sem, *];omega
  .obtain rfl:i=P.length:=by omega
   rw [List.take_length,List.drop_length,List.append_nil] at hz;rw [hz] at kk;have f:=kk hh wr sw;simp (disch:=omega)only[go_sem, *]
 .simp (disch:=omega)only[go_sem, *]
end
theorem Gy {b bx sz:Nat} {hh h1 h4:AH} {w v:V} {R:List (List V)} {x:List V} (x1:Ak hh h1) (g:Grown b h1 w v h4) (s:Sl b h4 sz v (R++[x])) (hb:bx<hh.next) (hd:AA w=true\/Ap w≠bx):h4.get bx=hh.get bx/\Ap v≠bx/\hh.next<=h4.next/\h4.lim=hh.lim:=by
 have n1:=x1.next;have n4:=g.next;refine ⟨(g.get bx om (hd.imp (λx=>x) (λx e=>x e.symm))).trans (x1.get bx hb), ?_,om,g.lim.trans x1.lim⟩;rcases g.own with q | ⟨q,e⟩ | q
 .rcases s with ⟨_,z⟩ | ⟨_,_,_,_,rfl,_⟩
  .simp at z
  .cases q
 .rw [e];exact hd.resolve_left (by rw [q];decide)
 .omega
def Cz (L:List Bl):List PR:=L.map λx=>⟨x.prio,0,false⟩
theorem zI {h : AH} {L : List Bl} {K : V -> AH -> Prop} (h1 : 1 <= L.length) (h3 : L.length <= 3)
    (kk:∀ h' tb w,Ak h h'->h.next<=tb->tb<h'.next->h'.get tb=some ⟨1,[[w]]⟩->Sl h.next h' 3 w ((Cz L).map PR.enc)->Ap w≠tb->K (.p tb 0 0) h'):Cq tp Uo [.fl 2 (L.map Bl.enc)] h K:=by
 refine Aa aMs (by simp [Qd]) λwf rp=>?_;have hlo:=wf.1;unfold Qd;simp (disch:=omega)only[go_sem, *];refine Ax (λhc=>absurd hc om) (λ_=>?_);simp (disch:=omega)only[go_sem, *];refine Ad (λhc=>absurd hc om) (λ_=>?_);simp (disch:=omega)only[go_sem, *];refine Ai (λn' e hh=>∃ (i:Nat) (w:V),n'=L.length - i/\Ak h hh/\h.next<hh.next/\hh.get h.next=some ⟨1,[[w]]⟩/\Sl h.next hh 3 w ((Cz (L.take i)).map PR.enc)/\(AA w=true\/Ap w≠h.next)/\e 3=.p h.next 0 0/\e 16=.fl 2 (L.map Bl.enc)/\e 17=.i .i64 L.length/\e 18=.i .i64 i/\i<=L.length) ?_ _ _ _ ⟨0,.ns,rfl, ?_⟩
 .rintro n' e hh ⟨i,w,rfl,x,hn,hg,s,hd,e3,e16,e17,e18,hi⟩ ih;have hlm:=x.lim;have hsv:=Sl.sameV s;rw [Ao bCN.eq_1];simp (disch:=omega)only[go_sem, *];refine Ad (λhc=>?_) (λhc=>?_)
  .have hN:Cz (L.take (i+1))=Cz (L.take i)++[⟨(nth L i).prio,0,false⟩]:=by
    rw [Db om];unfold Cz;rw [List.map_append];rfl
   have hln:(Cz (L.take i)).length=i:=by unfold Cz;rw [List.length_map,List.length_take];omega
   simp (disch:=omega)only[go_sem, *];have X1:Ak hh (((hh.alloc ⟨2,[[.i .i64 0,.i .i64 0]]⟩).put hh.next ⟨2,[[.i .i64 (nth L i).entry,.i .i64 (nth L i).prio]]⟩).alloc ⟨3,[PR.enc ⟨(nth L i).prio,0,false⟩]⟩):=by (repeat (first | exact Ak.refl _ | refine Ak.alloc ?_ _ | (refine Ak.put ?_ _ _ ?_;rotate_left;(first | omega | (simp only [Ac,Ah];omega)))))
   refine Av (N:=[PR.enc ⟨(nth L i).prio,0,false⟩]) (s.ext X1) ?_ ?_ ?_ ?_
   .simp (disch:=omega)only[go_sem, *]
   .simp (disch:=omega)only[go_sem, *]<;>omega
   .simp;omega
   intro v h4 s4 g4;obtain ⟨k1,k2,k3,k4⟩:=Gy X1 g4 s4 hn hd;have s5:Sl h.next (h4.put h.next ⟨1,[[v]]⟩) 3 v ((Cz (L.take (i+1))).map PR.enc):=by
    rw [hN,List.map_append];exact AC s4 _ _ (.inr (λe=>k2 e.symm))
   have x5:Ak h (h4.put h.next ⟨1,[[v]]⟩):=⟨by show h.next<=h4.next;omega,k4.trans x.lim,λj hj=>by rw [Ae,Af om];exact (g4.low j hj).trans ((X1.get j om).trans (x.get j hj))⟩
   have c1:=g4.cell;have c2:=g4.cells;clear X1 g4 s4 s x;simp (disch:=omega)only[go_sem, *];refine ih _ _ _ ?_ ⟨i+1,v,rfl,x5,by show h.next<h4.next;omega,by rw [Ae,Ar rfl],s5,.inr k2, ?_⟩
   .omega
   .clear ih kk s5 x5;simp (disch:=omega)only[go_sem, *];omega
  .obtain rfl:i=L.length:=by omega
   rw [List.take_length] at s;have hnn:Ap w≠h.next:=by
    rcases hd with d | d
    .rcases s with ⟨_,z⟩ | ⟨_,_,_,_,rfl,_⟩
     .have:=congrArg List.length z;simp [Cz] at this;rw [this] at h1;cases h1
     .cases d
    .exact d
   have f:=kk hh h.next w x (Nat.le_refl _) hn hg s hnn;clear kk;simp (disch:=omega)only[go_sem, *]
 .simp (disch:=omega)only[go_sem, *]
  ((repeat' refine And.intro ?_ ?_)<;>first | omega | assumption | (exact (Ak.refl h).alloc _) | (exact Nat.lt_succ_self _) | (exact Sl.nil _ _ _) | (exact .inl rfl))
end Go.Ab.T
namespace Go.Ab.T
open Go Go.Ab
set_option maxHeartbeats 4000000
/-! Faults. -/
structure FT where
 t:Int
 proc:Int
 kind:Int
 deriving DecidableEq,Inhabited
@[go_sem] def FT.enc (x:FT):List V:=[.i .i64 x.t,.i .i64 x.proc,.i .i64 x.kind]
def B9 (x:Int):Int:=if x=0\/x=1 then x else 2
def GP (a b c d e k:Int):Int:=if k=1 then B9 a else if k=2 then B9 b else if k=3 then B9 c else if k=4 then B9 d else if k=5 then B9 e else 2
theorem sS {h:AH} {a b c d e:Int} {K:V->AH->Prop} (kk:∀ h',Ak h h'->h'.next=h.next+2->h'.get (h.next+1)=some ⟨7,[[.i .i64 a,.i .i64 b,.i .i64 c,.i .i64 d,.i .i64 e,.ns,.b false]]⟩->K (.p (h.next+1) 0 0) h'):Cq tp ZE [.agg [.i .i64 a,.i .i64 b,.i .i64 c,.i .i64 d,.i .i64 e]] h K:=by
 have f:=kk ((h.alloc ⟨5,[[.i .i64 a,.i .i64 b,.i .i64 c,.i .i64 d,.i .i64 e]]⟩).alloc ⟨7,[[.i .i64 a,.i .i64 b,.i .i64 c,.i .i64 d,.i .i64 e,.ns,.b false]]⟩) (by (repeat (first | exact Ak.refl _ | refine Ak.alloc ?_ _ | (refine Ak.put ?_ _ _ ?_;rotate_left;(first | omega | (simp only [Ac,Ah];omega)))))) rfl (by simp (disch:=omega)only[go_sem, *]);clear kk;refine Aa aMr (by simp [Qc]) λwf rp=>?_;unfold Qc;simp (disch:=omega)only[go_sem, *]
section
variable {b lg:Nat} {h:AH} {f:V} {F:List FT} {K:V->AH->Prop} {a0 a1 a2 a3 a4:Int} {st:Bool}
theorem O1 (hg:h.get lg=some ⟨7,[[.i .i64 a0,.i .i64 a1,.i .i64 a2,.i .i64 a3,.i .i64 a4,f,.b st]]⟩) (kk:K (.b st) h):Cq tp ZJ [.p lg 0 0] h K:=by
 refine Aa aMy (by simp [Qj]) λwf rp=>?_;unfold Qj;simp (disch:=omega)only[go_sem, *]
theorem R8 {k:Int} (hg:h.get lg=some ⟨7,[[.i .i64 a0,.i .i64 a1,.i .i64 a2,.i .i64 a3,.i .i64 a4,f,.b st]]⟩) (kk:K (.i .i64 (GP a0 a1 a2 a3 a4 k)) h):Cq tp aP [.p lg 0 0,.i .i64 k] h K:=by
 have hk:k<1\/5<k\/k=1\/k=2\/k=3\/k=4\/k=5:=by omega
 rcases hk with hk | hk | rfl | rfl | rfl | rfl | rfl
 .have e:GP a0 a1 a2 a3 a4 k=2:=by unfold GP;simp (disch:=omega)only[if_neg]
  rw [e] at kk;refine Aa R6 (by simp [Ic]) λwf rp=>?_;unfold Ic;simp (disch:=omega)only[go_sem, *]
  repeat' (first | (refine Ax (λhc=>?_) (λhc=>?_)<;>simp (disch:=omega)only[go_sem, *]) | (refine Ad (λhc=>?_) (λhc=>?_)<;>simp (disch:=omega)only[go_sem, *]))
 .have e:GP a0 a1 a2 a3 a4 k=2:=by unfold GP;simp (disch:=omega)only[if_neg]
  rw [e] at kk;refine Aa R6 (by simp [Ic]) λwf rp=>?_;unfold Ic;simp (disch:=omega)only[go_sem, *]
  repeat' (first | (refine Ax (λhc=>?_) (λhc=>?_)<;>simp (disch:=omega)only[go_sem, *]) | (refine Ad (λhc=>?_) (λhc=>?_)<;>simp (disch:=omega)only[go_sem, *]))
 .skip
  have e:GP a0 a1 a2 a3 a4 1=B9 a0:=rfl;rw [e] at kk;have g1:a0=0\/a0=1->B9 a0=a0:=λq=>if_pos q;have g2:¬ (a0=0\/a0=1)->B9 a0=2:=λq=>if_neg q;refine Aa R6 (by simp [Ic]) λwf rp=>?_;unfold Ic;simp (disch:=omega)only[go_sem, *];refine Ax (λhc=>?_) (λhc=>?_)
  .rw [g1 (.inl hc),hc] at kk;clear g1 g2;simp (disch:=omega)only[go_sem, *]
  .simp (disch:=omega)only[go_sem, *];refine Ad (λhc2=>?_) (λhc2=>?_)
   .rw [g1 (.inr hc2),hc2] at kk;clear g1 g2;simp (disch:=omega)only[go_sem, *]
   .rw [g2 om] at kk;clear g1 g2;simp (disch:=omega)only[go_sem, *]
 .skip
  have e:GP a0 a1 a2 a3 a4 2=B9 a1:=rfl;rw [e] at kk;have g1:a1=0\/a1=1->B9 a1=a1:=λq=>if_pos q;have g2:¬ (a1=0\/a1=1)->B9 a1=2:=λq=>if_neg q;refine Aa R6 (by simp [Ic]) λwf rp=>?_;unfold Ic;simp (disch:=omega)only[go_sem, *];refine Ax (λhc=>?_) (λhc=>?_)
  .rw [g1 (.inl hc),hc] at kk;clear g1 g2;simp (disch:=omega)only[go_sem, *]
  .simp (disch:=omega)only[go_sem, *];refine Ad (λhc2=>?_) (λhc2=>?_)
   .rw [g1 (.inr hc2),hc2] at kk;clear g1 g2;simp (disch:=omega)only[go_sem, *]
   .rw [g2 om] at kk;clear g1 g2;simp (disch:=omega)only[go_sem, *]
 .skip
  have e:GP a0 a1 a2 a3 a4 3=B9 a2:=rfl;rw [e] at kk;have g1:a2=0\/a2=1->B9 a2=a2:=λq=>if_pos q;have g2:¬ (a2=0\/a2=1)->B9 a2=2:=λq=>if_neg q;refine Aa R6 (by simp [Ic]) λwf rp=>?_;unfold Ic;simp (disch:=omega)only[go_sem, *];refine Ax (λhc=>?_) (λhc=>?_)
  .rw [g1 (.inl hc),hc] at kk;clear g1 g2;simp (disch:=omega)only[go_sem, *]
  .simp (disch:=omega)only[go_sem, *];refine Ad (λhc2=>?_) (λhc2=>?_)
   .rw [g1 (.inr hc2),hc2] at kk;clear g1 g2;simp (disch:=omega)only[go_sem, *]
   .rw [g2 om] at kk;clear g1 g2;simp (disch:=omega)only[go_sem, *]
 .skip
  have e:GP a0 a1 a2 a3 a4 4=B9 a3:=rfl;rw [e] at kk;have g1:a3=0\/a3=1->B9 a3=a3:=λq=>if_pos q;have g2:¬ (a3=0\/a3=1)->B9 a3=2:=λq=>if_neg q;refine Aa R6 (by simp [Ic]) λwf rp=>?_;unfold Ic;simp (disch:=omega)only[go_sem, *];refine Ax (λhc=>?_) (λhc=>?_)
  .rw [g1 (.inl hc),hc] at kk;clear g1 g2;simp (disch:=omega)only[go_sem, *]
  .simp (disch:=omega)only[go_sem, *];refine Ad (λhc2=>?_) (λhc2=>?_)
   .rw [g1 (.inr hc2),hc2] at kk;clear g1 g2;simp (disch:=omega)only[go_sem, *]
   .rw [g2 om] at kk;clear g1 g2;simp (disch:=omega)only[go_sem, *]
 .skip
  have e:GP a0 a1 a2 a3 a4 5=B9 a4:=rfl;rw [e] at kk;have g1:a4=0\/a4=1->B9 a4=a4:=λq=>if_pos q;have g2:¬ (a4=0\/a4=1)->B9 a4=2:=λq=>if_neg q;refine Aa R6 (by simp [Ic]) λwf rp=>?_;unfold Ic;simp (disch:=omega)only[go_sem, *];refine Ax (λhc=>?_) (λhc=>?_)
  .rw [g1 (.inl hc),hc] at kk;clear g1 g2;simp (disch:=omega)only[go_sem, *]
  .simp (disch:=omega)only[go_sem, *];refine Ad (λhc2=>?_) (λhc2=>?_)
   .rw [g1 (.inr hc2),hc2] at kk;clear g1 g2;simp (disch:=omega)only[go_sem, *]
   .rw [g2 om] at kk;clear g1 g2;simp (disch:=omega)only[go_sem, *]
theorem Zw {t p k : Int} (hg : h.get lg = some ⟨7, [[.i .i64 a0, .i .i64 a1, .i .i64 a2, .i .i64 a3, .i .i64 a4, f, .b false]]⟩) (sf : Sl b h 3 f (F.map FT.enc)) (hb : h.lim <= b) (hl : b <= lg) (hn : lg < h.next) (hd : AA f = true \/ Ap f ≠ lg) (hF : F.length < 4000000000)
    (kk:∀ h' f',Wr h (λi=>i=lg\/(AA f=false/\i=Ap f)) h'->h'.get lg=some ⟨7,[[.i .i64 a0,.i .i64 a1,.i .i64 a2,.i .i64 a3,.i .i64 a4,f',.b (decide (GP a0 a1 a2 a3 a4 k=2))]]⟩->Sl b h' 3 f' ((F++[(⟨t,p,k⟩:FT)]).map FT.enc)->Ap f'≠lg->((AA f=false/\Ap f'=Ap f)\/h.next<=Ap f')->K (.i .i64 (GP a0 a1 a2 a3 a4 k)) h'):Cq tp Z4 [.p lg 0 0,.i .i64 t,.i .i64 p,.i .i64 k] h K:=by
 have hsv:=Sl.sameV sf;refine Aa aMX (by simp [QI]) λwf rp=>?_;unfold QI;simp (disch:=omega)only[go_sem, *];have X1:Ak h (h.alloc ⟨3,[FT.enc ⟨t,p,k⟩]⟩):=by (repeat (first | exact Ak.refl _ | refine Ak.alloc ?_ _ | (refine Ak.put ?_ _ _ ?_;rotate_left;(first | omega | (simp only [Ac,Ah];omega)))))
 refine Av (N:=[FT.enc ⟨t,p,k⟩]) (sf.ext X1) ?_ ?_ ?_ ?_
 .simp (disch:=omega)only[go_sem, *]
 .simp (disch:=omega)only[go_sem, *]<;>omega
 .simp;omega
 intro v h4 s4 g4;obtain ⟨k1,k2,k3,k4⟩:=Gy X1 g4 s4 hn hd;have hg4:=k1.trans hg;have hw:Wr h (λi=>i=lg\/(AA f=false/\i=Ap f)) h4:=(Wr.refl.ext X1).grown g4 (by
  cases hq:AA f with
  | true=>exact .inl rfl
  | false=>exact .inr (.inl (.inr ⟨rfl,rfl⟩)))
 have hv:(AA f=false/\Ap v=Ap f)\/h.next<=Ap v:=by
  rcases g4.own with q | q | q
  .rcases s4 with ⟨_,z⟩ | ⟨_,_,_,_,rfl,_⟩
   .simp at z
   .cases q
  .exact .inl q
  .rw [Ac] at q;exact .inr om
 have c1:=g4.cell;have c2:=g4.cells;have s5:Sl b h4 3 v ((F++[(⟨t,p,k⟩:FT)]).map FT.enc):=by rw [List.map_append];exact s4
 have l4:=g4.lim;rw [Bi] at l4;have ha:(h4.put lg ⟨7,[[.i .i64 a0,.i .i64 a1,.i .i64 a2,.i .i64 a3,.i .i64 a4,v,.b false]]⟩).get lg=some ⟨7,[[.i .i64 a0,.i .i64 a1,.i .i64 a2,.i .i64 a3,.i .i64 a4,v,.b false]]⟩:=by rw [Ae,Ar rfl]
 clear X1 g4 s4 sf hsv;simp (disch:=omega)only[go_sem, *];refine R8 (k:=k) ha ?_;generalize GP a0 a1 a2 a3 a4 k=z at *;have fin:=kk (h4.put lg ⟨7,[[.i .i64 a0,.i .i64 a1,.i .i64 a2,.i .i64 a3,.i .i64 a4,v,.b (decide (z=2))]]⟩) v (hw.put (.inr (.inl rfl))) (by rw [Ae,Ar rfl]) (AC s5 _ _ (.inr (λe=>k2 e.symm))) k2 hv;clear kk;simp (disch:=omega)only[go_sem, *]
end
end Go.Ab.T
namespace Go.Ab.T
open Go Go.Ab
set_option maxHeartbeats 4000000
/-! Partitions. -/
structure ST where
 r:List Int
 pc:Int
 deriving DecidableEq,Inhabited
def ST.enc (x:ST):List V:=x.r.map (V.i .u32)++[.i .i64 x.pc]
section
variable {x:ST} (h:x.r.length=8)
include h
theorem ST.len:(ST.enc x).length=9:=by unfold ST.enc;simp [h]
theorem ST.reg {i:Nat} (hi:i<8):(ST.enc x)[i]?=some (.i .u32 (nth x.r i)):=by
 unfold ST.enc;rw [List.getElem?_append_left (by simp;omega),List.getElem?_map,Dq om];rfl
theorem ST.at8:(ST.enc x)[8]?=some (.i .i64 x.pc):=by
 unfold ST.enc;rw [List.getElem?_append_right (by simp;omega)];simp [h]
theorem ST.setr {i:Nat} {v:Int} (hi:i<8):(ST.enc x).set i (.i .u32 v)=ST.enc ⟨x.r.set i v,x.pc⟩:=by
 unfold ST.enc;rw [List.set_append_left _ _ (by simp;omega),List.map_set]
theorem ST.setpc {v:Int}:(ST.enc x).set 8 (.i .i64 v)=ST.enc ⟨x.r,v⟩:=by
 unfold ST.enc;rw [List.set_append_right _ _ (by simp;omega)];simp [h]
end
structure PC where
 c:Am
 p:Nat
 prog:List Int
 ins:List Int
 h0:Int
 h1:Int
 h2:Int
 h3:Int
 h4:Int
def AG (c:PC) (tb lg:Nat) (a:V) (mem:List Int) (clk:Int):List V:=[.fl 11 (c.c.parts.map Part.enc),.fl 6 (c.c.chans.map AU.enc),.fl 1 (c.c.tables.map Tab.enc),.i .i64 c.p,.fl 1 (c.prog.map CJ),.fl 1 (c.ins.map CL),.p tb 0 0,a]++(mem.map (V.i .u32)++[.p lg 0 0,.i .i64 clk])
section
variable {c:PC} {tb lg:Nat} {a a':V} {mem:List Int} {clk clk':Int}
theorem AG.f0:(AG c tb lg a mem clk)[0]?=some (.fl 11 (c.c.parts.map Part.enc)):=rfl
theorem AG.f1:(AG c tb lg a mem clk)[1]?=some (.fl 6 (c.c.chans.map AU.enc)):=rfl
theorem AG.f3:(AG c tb lg a mem clk)[3]?=some (.i .i64 c.p):=rfl
theorem AG.f4:(AG c tb lg a mem clk)[4]?=some (.fl 1 (c.prog.map CJ)):=rfl
theorem AG.f5:(AG c tb lg a mem clk)[5]?=some (.fl 1 (c.ins.map CL)):=rfl
theorem AG.f6:(AG c tb lg a mem clk)[6]?=some (.p tb 0 0):=rfl
theorem AG.f7:(AG c tb lg a mem clk)[7]?=some a:=rfl
theorem AG.s7:(AG c tb lg a mem clk).set 7 a'=AG c tb lg a' mem clk:=rfl
section
variable (h:mem.length=16)
include h
theorem AG.len:(AG c tb lg a mem clk).length=26:=by unfold AG;simp [h]
theorem AG.f24:(AG c tb lg a mem clk)[24]?=some (.p lg 0 0):=by
 unfold AG;rw [List.getElem?_append_right (by simp),List.getElem?_append_right (by simp [h])];simp [h]
theorem AG.f25:(AG c tb lg a mem clk)[25]?=some (.i .i64 clk):=by
 unfold AG;rw [List.getElem?_append_right (by simp),List.getElem?_append_right (by simp [h])];simp [h]
theorem AG.s25:(AG c tb lg a mem clk).set 25 (.i .i64 clk')=AG c tb lg a mem clk':=by
 unfold AG;rw [List.set_append_right _ _ (by simp),List.set_append_right _ _ (by simp [h])];simp [h]
theorem AG.fm {j:Nat} (hj:j<16):(AG c tb lg a mem clk)[8+j]?=some (.i .u32 (nth mem j)):=by
 unfold AG;rw [List.getElem?_append_right (by simp),List.getElem?_append_left (by simp;omega),List.getElem?_map];have e:8+j - 8=j:=by omega
 simp only [List.length_cons,List.length_nil,Nat.zero_add];rw [e,Dq om];rfl
theorem AG.sm {j:Nat} {v:Int} (hj:j<16):(AG c tb lg a mem clk).set (8+j) (.i .u32 v)=AG c tb lg a (mem.set j v) clk:=by
 unfold AG;rw [List.set_append_right _ _ (by simp),List.set_append_left _ _ (by simp;omega),List.map_set];have e:8+j - 8=j:=by omega
 simp only [List.length_cons,List.length_nil,Nat.zero_add];rw [e]
end
end
end Go.Ab.T
namespace Go.Ab.T
open Go Go.Ab
set_option maxHeartbeats 4000000
structure SE (b:Nat) (h:AH) (a:V) (A:List ST) (i:Nat):Prop where
 g:h.get (Ap a)=some ⟨9,AP h a⟩
 r:(AP h a)[Ca a+i]?=some (ST.enc (nth A i))
 lt:Ap a<h.next
 lo:b<=Ap a
 at_:∀ cs,NM (some ⟨9,cs⟩) 9 a (.i .i64 i)=some (.p (Ap a) (Ca a+i) 0)
 set:∀ h',Ak h h'->∀ x,Sl b (h'.put (Ap a) ⟨9,(AP h a).set (Ca a+i) (ST.enc x)⟩) 9 a ((A.set i x).map ST.enc)
theorem DZ {h h':AH} {v:V} (x:Ak h h') (hl:Ap v<h.next):AP h' v=AP h v:=by unfold AP;rw [x.get _ hl]
theorem C0 {b i:Nat} {h:AH} {a:V} {A:List ST} (sa:Sl b h 9 a (A.map ST.enc)) (hi:i<A.length):SE b h a A i:=by
 obtain ⟨_,_,lt,lo,get,at1,row,_,_⟩:=sa.facts;have l:=lt om;refine ⟨get om,row i hi,l,lo om,λcs=>?_,λh' x y=>?_⟩
 .have:=at1 .i64 i cs om om;simpa only [Int.toNat_natCast] using this
 .refine Sl.setT (sa.ext x) hi (Nat.le_refl _) ?_;rw [Ae,Ar rfl,DZ x l]
def DI (ins:List Int) (t:Int) (op:Int) (A B C:Nat) (x:ST):Int:=
 if op=2 then IntKind.wrap .u32 (nth x.r B+nth x.r C) else if op=3 then IntKind.wrap .u32 (nth x.r B - nth x.r C) else if op=4 then IntKind.wrap .u32 (nth x.r B*nth x.r C)
 else if op=5 then IntKind.wrap .u32 ((nth x.r B).tdiv (nth x.r C)) else if op=13 then (if t<ins.length then nth ins t.toNat else 0) else if op=14 then IntKind.wrap .u32 t else 256*B+C
def Cm (ins:List Int) (t:Int) (op:Int) (A B C:Nat) (x:ST):Int×Int×ST:=
 if op=5/\nth x.r C=0 then (0,4,x) else (DI ins t op A B C x,0,⟨x.r.set A (DI ins t op A B C x),x.pc⟩)
section
variable {b pp tb lg i A B C:Nat} {h:AH} {a:V} {As:List ST} {c:PC} {mem:List Int} {clk t op:Int} {K:V->AH->Prop}
theorem YU (hop:op=1\/op=2\/op=3\/op=4\/op=5\/op=13\/op=14) (hA:A<8) (hB:op=2\/op=3\/op=4\/op=5->B<8/\C<8) (hB2:B<=255) (hC2:C<=255) (gp:h.get pp=some ⟨26,[AG c tb lg a mem clk]⟩) (hm:mem.length=16) (hpn:pp<h.next) (sa:Sl b h 9 a (As.map ST.enc)) (hi:i<As.length) (hb:h.lim<=b) (hr:(nth As i).r.length=8) (ht:0<=t) (hins:c.ins.length<4000000000)
    (kk:∀ h',Wr h (·=Ap a) h'->Sl b h' 9 a ((As.set i (Cm c.ins t op A B C (nth As i)).2.2).map ST.enc)->K (.tup [.i .u32 (Cm c.ins t op A B C (nth As i)).1,.i .i64 (Cm c.ins t op A B C (nth As i)).2.1]) h'):Cq tp UD [.p pp 0 0,.agg [.i .i64 op,.i .i64 A,.i .i64 B,.i .i64 C],.p (Ap a) (Ca a+i) 0,.i .i64 t] h K:=by
 obtain ⟨g,r,lt,lo,_,set⟩:=C0 sa hi;have X1:Ak h (h.alloc ⟨4,[[.i .i64 op,.i .i64 A,.i .i64 B,.i .i64 C]]⟩):=by (repeat (first | exact Ak.refl _ | refine Ak.alloc ?_ _ | (refine Ak.put ?_ _ _ ?_;rotate_left;(first | omega | (simp only [Ac,Ah];omega)))))
 have set:=set _ X1;have he:=ST.len hr;have eA:=ST.reg hr hA;have sA:=λv=>ST.setr (v:=v) hr hA;have fin:∀ n,DI c.ins t op A B C (nth As i)=n->¬ (op=5/\nth (nth As i).r C=0)->K (.tup [.i .u32 n,.i .i64 0]) ((h.alloc ⟨4,[[.i .i64 op,.i .i64 A,.i .i64 B,.i .i64 C]]⟩).put (Ap a) ⟨9,(AP h a).set (Ca a+i) (ST.enc ⟨(nth As i).r.set A n,(nth As i).pc⟩)⟩):=λn hn hq=>by
  have e:Cm c.ins t op A B C (nth As i)=(n,0,⟨(nth As i).r.set A n,(nth As i).pc⟩):=by unfold Cm;rw [if_neg hq,hn]
  rw [e] at kk;exact kk _ ((Wr.refl.alloc).put (.inr rfl)) (set _)
 have im:=SU (x:=⟨op,A,B,C⟩) ⟨by simp;omega,by simp;omega,by simp;omega⟩;have ei:Kv ⟨op,A,B,C⟩=256*B+C:=rfl;rw [ei] at im;clear ei;have hLE:h.lim<=Ap a:=by omega
 have m1:∀ n:Nat,n*1=n:=Nat.mul_one;have hA8:A+1<=8+1:=by omega
 rcases hop with rfl | rfl | rfl | rfl | rfl | rfl | rfl
 .have f:=fin (256*B+C) (by unfold DI;simp) (by simp);clear fin kk;refine Aa R1 (by simp [Ia]) λwf rp=>?_;unfold Ia;simp (disch:=omega)only[go_sem, *];refine Pf.go (im) (by simp only [go_sem]) λ_=>?_;simp (disch:=omega)only[go_sem, *]
 .obtain ⟨h1,h2⟩:=hB (by simp);have eB:=ST.reg hr h1;have eC:=ST.reg hr h2;have b8:B<=8:=by omega
  have c8:C<=8:=by omega
  have f:=fin (IntKind.wrap .u32 (nth (nth As i).r B+nth (nth As i).r C)) (by unfold DI;simp) (by simp);clear fin kk;refine Aa R1 (by simp [Ia]) λwf rp=>?_;unfold Ia;simp (disch:=omega)only[go_sem, *];refine Pf.go (im) (by simp only [go_sem]) λ_=>?_;simp (disch:=omega)only[go_sem, *]
 .obtain ⟨h1,h2⟩:=hB (by simp);have eB:=ST.reg hr h1;have eC:=ST.reg hr h2;have b8:B<=8:=by omega
  have c8:C<=8:=by omega
  have f:=fin (IntKind.wrap .u32 (nth (nth As i).r B - nth (nth As i).r C)) (by unfold DI;simp) (by simp);clear fin kk;refine Aa R1 (by simp [Ia]) λwf rp=>?_;unfold Ia;simp (disch:=omega)only[go_sem, *];refine Pf.go (im) (by simp only [go_sem]) λ_=>?_;simp (disch:=omega)only[go_sem, *]
 .obtain ⟨h1,h2⟩:=hB (by simp);have eB:=ST.reg hr h1;have eC:=ST.reg hr h2;have b8:B<=8:=by omega
  have c8:C<=8:=by omega
  have f:=fin (IntKind.wrap .u32 (nth (nth As i).r B*nth (nth As i).r C)) (by unfold DI;simp) (by simp);clear fin kk;refine Aa R1 (by simp [Ia]) λwf rp=>?_;unfold Ia;simp (disch:=omega)only[go_sem, *];refine Pf.go (im) (by simp only [go_sem]) λ_=>?_;simp (disch:=omega)only[go_sem, *]
 .obtain ⟨h1,h2⟩:=hB (by simp);have eB:=ST.reg hr h1;have eC:=ST.reg hr h2;have b8:B<=8:=by omega
  have c8:C<=8:=by omega
  by_cases hz:nth (nth As i).r C=0
  .have e:Cm c.ins t 5 A B C (nth As i)=(0,4,nth As i):=if_pos ⟨rfl,hz⟩;rw [e] at kk;have es:As.set i (nth As i)=As:=by rw [Ba hi,List.set_getElem_self]
   have f:=kk (h.alloc ⟨4,[[.i .i64 5,.i .i64 A,.i .i64 B,.i .i64 C]]⟩) (Wr.refl.alloc) (by simp only [es];exact sa.ext X1);clear fin kk e es;refine Aa R1 (by simp [Ia]) λwf rp=>?_;unfold Ia;simp (disch:=omega)only[go_sem, *];refine Pf.go (im) (by simp only [go_sem]) λ_=>?_;simp (disch:=omega)only[go_sem, *]
  .have f:=fin (IntKind.wrap .u32 ((nth (nth As i).r B).tdiv (nth (nth As i).r C))) (by unfold DI;simp) (by simp [hz]);clear fin kk;refine Aa R1 (by simp [Ia]) λwf rp=>?_;unfold Ia;simp (disch:=omega)only[go_sem, *];refine Pf.go (im) (by simp only [go_sem]) λ_=>?_;simp (disch:=omega)only[go_sem, *]
 .obtain ⟨k,rfl⟩:∃ k:Nat,t=k:=⟨t.toNat,om⟩
  have p1:=AG.f5 (c:=c) (tb:=tb) (lg:=lg) (a:=a) (mem:=mem) (clk:=clk);have p2:=AG.len (c:=c) (tb:=tb) (lg:=lg) (a:=a) (clk:=clk) hm
  by_cases hk:(k:Int)<c.ins.length
  .have f:=fin (nth c.ins k) (by unfold DI;simp [hk]) (by simp);clear fin kk;refine Aa R1 (by simp [Ia]) λwf rp=>?_;unfold Ia;simp (disch:=omega)only[go_sem, *];refine Pf.go (im) (by simp only [go_sem]) λ_=>?_;simp (disch:=omega)only[go_sem, *]
  .have f:=fin 0 (by unfold DI;simp [hk]) (by simp);clear fin kk;refine Aa R1 (by simp [Ia]) λwf rp=>?_;unfold Ia;simp (disch:=omega)only[go_sem, *];refine Pf.go (im) (by simp only [go_sem]) λ_=>?_;simp (disch:=omega)only[go_sem, *]
 .have f:=fin (IntKind.wrap .u32 t) (by unfold DI;simp) (by simp);clear fin kk;refine Aa R1 (by simp [Ia]) λwf rp=>?_;unfold Ia;simp (disch:=omega)only[go_sem, *];refine Pf.go (im) (by simp only [go_sem]) λ_=>?_;simp (disch:=omega)only[go_sem, *]
end
end Go.Ab.T
namespace Go.Ab.T
open Go Go.Ab
set_option maxHeartbeats 4000000
def Bk (mem:List Int) (op:Int) (A B C:Nat) (x:ST):Int×Int×ST×List Int:=
 if 16<=nth x.r B+C then (0,3,x,mem) else if op=6 then (nth mem (nth x.r B+C).toNat,0,⟨x.r.set A (nth mem (nth x.r B+C).toNat),x.pc⟩,mem) else (nth x.r A,0,x,mem.set (nth x.r B+C).toNat (nth x.r A))
theorem aOo {n:Int} (h0:0<=n) (h1:n<18446744073709551616):IntKind.wrap .u64 n=n:=by
 unfold IntKind.wrap;simp [IntKind.bits,IntKind.signed];omega
section
variable {b pp tb lg i A B C:Nat} {h:AH} {a:V} {As:List ST} {c:PC} {mem:List Int} {clk t op:Int} {K:V->AH->Prop}
theorem zO (hop:op=6\/op=7) (hA:A<8) (hB:B<8) (hC2:C<=255) (gp:h.get pp=some ⟨26,[AG c tb lg a mem clk]⟩) (hm:mem.length=16) (hpn:pp<h.next) (sa:Sl b h 9 a (As.map ST.enc)) (hi:i<As.length) (hb:h.lim<=b) (hbp:b<=pp) (hne:Ap a≠pp) (hr:(nth As i).r.length=8) (hu:0<=nth (nth As i).r B/\nth (nth As i).r B<4294967296)
    (kk:∀ h',Wr h (λj=>j=Ap a\/j=pp) h'->h'.get pp=some ⟨26,[AG c tb lg a (Bk mem op A B C (nth As i)).2.2.2 clk]⟩->Sl b h' 9 a ((As.set i (Bk mem op A B C (nth As i)).2.2.1).map ST.enc)->K (.tup [.i .u32 (Bk mem op A B C (nth As i)).1,.i .i64 (Bk mem op A B C (nth As i)).2.1]) h'):Cq tp Z3 [.p pp 0 0,.agg [.i .i64 op,.i .i64 A,.i .i64 B,.i .i64 C],.p (Ap a) (Ca a+i) 0] h K:=by
 obtain ⟨g,r,lt,lo,_,set⟩:=C0 sa hi;have X1:Ak h (h.alloc ⟨4,[[.i .i64 op,.i .i64 A,.i .i64 B,.i .i64 C]]⟩):=by (repeat (first | exact Ak.refl _ | refine Ak.alloc ?_ _ | (refine Ak.put ?_ _ _ ?_;rotate_left;(first | omega | (simp only [Ac,Ah];omega)))))
 have set:=set _ X1;have he:=ST.len hr;have eA:=ST.reg hr hA;have eB:=ST.reg hr hB;have sA:=λv=>ST.setr (v:=v) hr hA;have hLE:h.lim<=Ap a:=by omega
 have hLP:h.lim<=pp:=by omega
 have m1:∀ n:Nat,n*1=n:=Nat.mul_one;have hA8:A+1<=8+1:=by omega
 have hB8:B<=8:=by omega
 have p2:=AG.len (c:=c) (tb:=tb) (lg:=lg) (a:=a) (clk:=clk) hm;have es:As.set i (nth As i)=As:=by rw [Ba hi,List.set_getElem_self]
 have w1:IntKind.wrap .u64 (nth (nth As i).r B)=nth (nth As i).r B:=aOo hu.1 om;have w2:IntKind.wrap .u64 (C:Int)=C:=aOo om om;have w3:IntKind.wrap .u64 (nth (nth As i).r B+C)=nth (nth As i).r B+C:=aOo om om
 by_cases hz:16<=nth (nth As i).r B+C
 .have e:Bk mem op A B C (nth As i)=(0,3,nth As i,mem):=if_pos hz;rw [e] at kk;have f:=kk _ (Wr.refl.alloc (k:=⟨4,[[.i .i64 op,.i .i64 A,.i .i64 B,.i .i64 C]]⟩)) (by rw [AD,Af om];exact gp) (by simp only [es];exact sa.ext X1);clear kk e es;refine Aa aMT (by simp [QE]) λwf rp=>?_;unfold QE;simp (disch:=omega)only[go_sem, *]
 .obtain ⟨j,hj⟩:∃ j:Nat,nth (nth As i).r B+C=j:=⟨(nth (nth As i).r B+C).toNat,om⟩
  have hj16:j<16:=by omega
  rw [hj] at w3;have fm:=AG.fm (c:=c) (tb:=tb) (lg:=lg) (a:=a) (clk:=clk) hm hj16;have sm:=λv=>AG.sm (c:=c) (tb:=tb) (lg:=lg) (a:=a) (clk:=clk) (v:=v) hm hj16;have p3:(8:Nat)+j<=25:=by omega
  have jj:8+j+1<=26:=by omega
  rcases hop with rfl | rfl
  .have e:Bk mem 6 A B C (nth As i)=(nth mem j,0,⟨(nth As i).r.set A (nth mem j),(nth As i).pc⟩,mem):=by unfold Bk;rw [if_neg hz,if_pos rfl,hj];rfl
   rw [e] at kk;have f:=kk _ (((Wr.refl (I:=(λj=>j=Ap a\/j=pp))).alloc (k:=⟨4,[[.i .i64 6,.i .i64 A,.i .i64 B,.i .i64 C]]⟩)).put (j:=Ap a) (.inr (.inl rfl))) (by rw [Ae,Af (λe=>hne e.symm),AD,Af om];exact gp) (set _);clear kk e es set X1;refine Aa aMT (by simp [QE]) λwf rp=>?_;unfold QE;simp (disch:=omega)only[go_sem, *];refine Ad (λhc=>absurd hc om) (λ_=>?_);simp (disch:=omega)only[go_sem, *]
  .have e:Bk mem 7 A B C (nth As i)=(nth (nth As i).r A,0,nth As i,mem.set j (nth (nth As i).r A)):=by unfold Bk;rw [if_neg hz,if_neg (by decide),hj];rfl
   rw [e] at kk;have fm2:=AG.fm (c:=c) (tb:=tb) (lg:=lg) (a:=a) (mem:=mem.set j (nth (nth As i).r A)) (clk:=clk) (by simpa using hm) hj16;have en:nth (mem.set j (nth (nth As i).r A)) j=nth (nth As i).r A:=by rw [Ba (by simp;omega),List.getElem_set_self]
   have p4:=AG.len (c:=c) (tb:=tb) (lg:=lg) (a:=a) (mem:=mem.set j (nth (nth As i).r A)) (clk:=clk) (by simpa using hm);rw [en] at fm2;have f:=kk _ (((Wr.refl (I:=(λj=>j=Ap a\/j=pp))).alloc (k:=⟨4,[[.i .i64 7,.i .i64 A,.i .i64 B,.i .i64 C]]⟩)).put (j:=pp) (.inr (.inr rfl))) (by rw [Ae,Ar rfl]) (by simp only [es];exact AC (sa.ext X1) _ _ (.inr (λe=>hne e.symm)));clear kk e es set X1 en;refine Aa aMT (by simp [QE]) λwf rp=>?_;unfold QE;simp (disch:=omega)only[go_sem, *];refine Ad (λhc=>absurd hc om) (λ_=>?_);simp (disch:=omega)only[go_sem, *]
end
end Go.Ab.T
namespace Go.Ab.T
open Go Go.Ab
set_option maxHeartbeats 4000000
structure PS where
 procs:List PR
 all:List ST
 mem:List Int
 fl:List FT
 halt:Bool
 clk:Int
 deriving DecidableEq
def Ej (l:List Int):Prop:=∀ z∈l,0<=z/\z<4294967296
structure PA (b:Nat) (h:AH) (pp tb lg:Nat) (w a f:V) (c:PC) (s:PS):Prop where
 gp:h.get pp=some ⟨26,[AG c tb lg a s.mem s.clk]⟩
 gt:h.get tb=some ⟨1,[[w]]⟩
 gl:h.get lg=some ⟨7,[[.i .i64 c.h0,.i .i64 c.h1,.i .i64 c.h2,.i .i64 c.h3,.i .i64 c.h4,f,.b s.halt]]⟩
 sw:Sl b h 3 w (s.procs.map PR.enc)
 sa:Sl b h 9 a (s.all.map ST.enc)
 sf:Sl b h 3 f (s.fl.map FT.enc)
 lim:h.lim<=b
 bp:b<=pp/\b<=tb/\b<=lg
 np:pp<h.next/\tb<h.next/\lg<h.next
 d:pp≠tb/\pp≠lg/\tb≠lg
 dw:Ap w≠pp/\Ap w≠tb/\Ap w≠lg
 da:Ap a≠pp/\Ap a≠tb/\Ap a≠lg/\Ap a≠Ap w
 df:AA f=true\/(Ap f≠pp/\Ap f≠tb/\Ap f≠lg/\Ap f≠Ap w/\Ap f≠Ap a)
 l1:1<=s.procs.length/\s.procs.length<=3
 l2:s.all.length=s.procs.length
 l3:s.mem.length=16
 l4:∀ x∈s.all,x.r.length=8/\Ej x.r
 l5:Ej s.mem
 l6:s.fl.length<=s.clk/\s.clk<3000000000
section
variable {b pp tb lg:Nat} {h h':AH} {w a f:V} {c:PC} {s:PS} {I:Nat->Prop}
theorem BZ {sz:Nat} {v:V} {R:List (List V)} (s:Sl b h sz v R) (x:Wr h I h') (hI:AA v=true\/¬ I (Ap v)):Sl b h' sz v R:=by
 rcases hI with q | q
 .rcases s with z | ⟨_,_,_,_,rfl,_⟩
  .exact .inl z
  .cases q
 .exact s.same x.next (λhq=>x.get _ hq q)
theorem PA.same (p:PA b h pp tb lg w a f c s) (x:Wr h I h') (hI:∀ i,I i->i≠pp/\i≠tb/\i≠lg/\i≠Ap w/\i≠Ap a/\(AA f=true\/i≠Ap f)):PA b h' pp tb lg w a f c s:=
 ⟨(x.get _ p.np.1 (λe=>(hI _ e).1 rfl)).trans p.gp,(x.get _ p.np.2.1 (λe=>(hI _ e).2.1 rfl)).trans p.gt,(x.get _ p.np.2.2 (λe=>(hI _ e).2.2.1 rfl)).trans p.gl,
  BZ p.sw x (.inr λe=>(hI _ e).2.2.2.1 rfl),BZ p.sa x (.inr λe=>(hI _ e).2.2.2.2.1 rfl),BZ p.sf x (by
   rcases Bool.eq_false_or_eq_true (AA f) with q | q
   .exact .inl q
   .exact .inr λe=>((hI _ e).2.2.2.2.2.resolve_left (by rw [q];decide)) rfl),
  by rw [x.lim];exact p.lim,p.bp,⟨Nat.lt_of_lt_of_le p.np.1 x.next,Nat.lt_of_lt_of_le p.np.2.1 x.next,Nat.lt_of_lt_of_le p.np.2.2 x.next⟩,p.d,p.dw,p.da,p.df,p.l1,p.l2,p.l3,p.l4,p.l5,p.l6⟩
theorem PA.ext (p:PA b h pp tb lg w a f c s) (x:Ak h h'):PA b h' pp tb lg w a f c s:=p.same (I:=λ_=>False) ⟨x.next,x.lim,λi hi _=>x.get i hi⟩ (λ_ e=>e.elim)
theorem PA.setA {A:List ST} (p:PA b h pp tb lg w a f c s) (x:Wr h (·=Ap a) h') (sa:Sl b h' 9 a (A.map ST.enc)) (hl:A.length=s.all.length) (h4:∀ x∈A,x.r.length=8/\Ej x.r):PA b h' pp tb lg w a f c { s with all:=A }:=by
 obtain ⟨q1,q2,q3,q4⟩:=p.da;exact ⟨(x.get _ p.np.1 (λe=>q1 e.symm)).trans p.gp,(x.get _ p.np.2.1 (λe=>q2 e.symm)).trans p.gt,(x.get _ p.np.2.2 (λe=>q3 e.symm)).trans p.gl,
  BZ p.sw x (.inr λe=>q4 e.symm),sa,BZ p.sf x (p.df.imp (λz=>z) (λz=>z.2.2.2.2)),by rw [x.lim];exact p.lim,p.bp,⟨Nat.lt_of_lt_of_le p.np.1 x.next,Nat.lt_of_lt_of_le p.np.2.1 x.next,Nat.lt_of_lt_of_le p.np.2.2 x.next⟩,p.d,p.dw,p.da,p.df,p.l1,hl.trans p.l2,p.l3,h4,p.l5,p.l6⟩
theorem PA.setM {A:List ST} {m:List Int} (p:PA b h pp tb lg w a f c s) (x:Wr h (λj=>j=Ap a\/j=pp) h') (gp:h'.get pp=some ⟨26,[AG c tb lg a m s.clk]⟩) (sa:Sl b h' 9 a (A.map ST.enc)) (hl:A.length=s.all.length) (h4:∀ x∈A,x.r.length=8/\Ej x.r) (hm:m.length=16) (h5:Ej m):PA b h' pp tb lg w a f c { s with all:=A,mem:=m }:=by
 obtain ⟨q1,q2,q3,q4⟩:=p.da;obtain ⟨d1,d2,d3⟩:=p.d;exact ⟨gp,(x.get _ p.np.2.1 (λe=>e.elim (λe=>q2 e.symm) (λe=>d1 e.symm))).trans p.gt,(x.get _ p.np.2.2 (λe=>e.elim (λe=>q3 e.symm) (λe=>d2 e.symm))).trans p.gl,
  BZ p.sw x (.inr λe=>e.elim (λe=>q4 e.symm) p.dw.1),sa,BZ p.sf x (p.df.imp (λz=>z) (λz e=>e.elim z.2.2.2.2 z.1)),by rw [x.lim];exact p.lim,p.bp,⟨Nat.lt_of_lt_of_le p.np.1 x.next,Nat.lt_of_lt_of_le p.np.2.1 x.next,Nat.lt_of_lt_of_le p.np.2.2 x.next⟩,p.d,p.dw,p.da,p.df,p.l1,hl.trans p.l2,hm,h4,h5,p.l6⟩
theorem PA.setW {P:List PR} (p:PA b h pp tb lg w a f c s) (x:Wr h (·=Ap w) h') (sw:Sl b h' 3 w (P.map PR.enc)) (hl:P.length=s.procs.length):PA b h' pp tb lg w a f c { s with procs:=P }:=by
 obtain ⟨q1,q2,q3⟩:=p.dw;exact ⟨(x.get _ p.np.1 (λe=>q1 e.symm)).trans p.gp,(x.get _ p.np.2.1 (λe=>q2 e.symm)).trans p.gt,(x.get _ p.np.2.2 (λe=>q3 e.symm)).trans p.gl,
  sw,BZ p.sa x (.inr p.da.2.2.2),BZ p.sf x (p.df.imp (λz=>z) (λz=>z.2.2.2.1)),by rw [x.lim];exact p.lim,p.bp,⟨Nat.lt_of_lt_of_le p.np.1 x.next,Nat.lt_of_lt_of_le p.np.2.1 x.next,Nat.lt_of_lt_of_le p.np.2.2 x.next⟩,p.d,p.dw,p.da,p.df,by rw [hl];exact p.l1,p.l2.trans hl.symm,p.l3,p.l4,p.l5,p.l6⟩
end
end Go.Ab.T
namespace Go.Ab.T
open Go Go.Ab
set_option maxHeartbeats 8000000
theorem HN {l:List Int} {i:Nat} {v:Int} (h:Ej l) (h0:0<=v) (h1:v<4294967296):Ej (l.set i v):=λz hz=>(List.mem_or_eq_of_mem_set hz).elim (h z) (λe=>by subst e;exact ⟨h0,h1⟩)
theorem BH {l:List Int} {i:Nat} (h:Ej l):0<=nth l i/\nth l i<4294967296:=by
 rcases Nat.lt_or_ge i l.length with q | q
 .exact h _ (Az q)
 .have:nth l i=0:=by unfold nth;rw [List.getD_eq_getElem?_getD,List.getElem?_eq_none q];rfl
  rw [this];omega
theorem IY (n:Int):0<=IntKind.wrap .u32 n/\IntKind.wrap .u32 n<4294967296:=by
 unfold IntKind.wrap;simp [IntKind.bits,IntKind.signed];omega
theorem aAq {ins:List Int} {t op:Int} {A B C:Nat} {x:ST} (hi:Ej ins) (hB:B<=255) (hC:C<=255):0<=DI ins t op A B C x/\DI ins t op A B C x<4294967296:=by
 unfold DI;split
 .exact IY _
 .split
  .exact IY _
  .split
   .exact IY _
   .split
    .exact IY _
    .split
     .split
      .exact BH hi
      .omega
     .split
      .exact IY _
      .omega
theorem YV {ins:List Int} {t op:Int} {A B C:Nat} {x:ST} (hi:Ej ins) (hB:B<=255) (hC:C<=255) (hx:x.r.length=8/\Ej x.r):(Cm ins t op A B C x).2.2.r.length=8/\Ej (Cm ins t op A B C x).2.2.r:=by
 unfold Cm;split
 .exact hx
 .have:=aAq (t:=t) (op:=op) (A:=A) (x:=x) hi hB hC;exact ⟨by simp [hx.1],HN hx.2 this.1 this.2⟩
theorem zP {mem:List Int} {op:Int} {A B C:Nat} {x:ST} (hm:mem.length=16/\Ej mem) (hx:x.r.length=8/\Ej x.r):((Bk mem op A B C x).2.2.1.r.length=8/\Ej (Bk mem op A B C x).2.2.1.r)/\(Bk mem op A B C x).2.2.2.length=16/\Ej (Bk mem op A B C x).2.2.2:=by
 unfold Bk;split
 .exact ⟨hx,hm⟩
 .split
  .exact ⟨⟨by simp [hx.1],HN hx.2 (BH hm.2).1 (BH hm.2).2⟩,hm⟩
  .exact ⟨hx,by simp [hm.1],HN hm.2 (BH hx.2).1 (BH hx.2).2⟩
structure Reg (op:Int) (A B C:Nat):Prop where
 o:0<=op/\op<=17
 m:A<=255/\B<=255/\C<=255
 a:(Bb op).1=true->A<8
 b:(Bb op).2.1=true->B<8
 c:(Bb op).2.2=true->C<8
theorem Hs {l:List ST} {i:Nat} {x:ST} (h:∀ y∈l,y.r.length=8/\Ej y.r) (hx:x.r.length=8/\Ej x.r):∀ y∈l.set i x,y.r.length=8/\Ej y.r:=λy hy=>(List.mem_or_eq_of_mem_set hy).elim (h y) (λe=>by subst e;exact hx)
def JF (n:Int):Prop:=0<=n/\n<4294967296
theorem Wr.mono {h:AH} {I J:Nat->Prop} {h':AH} (x:Wr h I h') (s:∀ j,I j->J j):Wr h J h':=⟨x.next,x.lim,λj hj hn=>x.get j hj (λe=>hn (s j e))⟩
structure Kn where
 σ:Type
 T:Nat
 v:V
 R:σ->AH->(Nat->Prop)->Prop
 send:σ->Nat->Int->Int×σ
 recv:σ->Nat->Int×Int×σ
 change:σ->Int->Int×σ
 stop:σ->Int×σ
structure Kn.Go (k:Kn) (h:AH) (I:Nat->Prop) (q:k.σ) (h':AH) (I':Nat->Prop):Prop where
 w:Wr h I h'
 r:k.R q h' I'
 i:∀ j,I' j->I j\/h.next<=j
structure Kn.Ok (k:Kn):Prop where
 keep:∀ {q:k.σ} {h h':AH} {I J:Nat->Prop},k.R q h I->Wr h J h'->(∀ j,I j->¬ J j)->k.R q h' I
 low:∀ {q:k.σ} {h:AH} {I:Nat->Prop},k.R q h I->∀ j,I j->j<h.next
 send:∃ f,tp.meth k.T "Send"=some ⟨f,none⟩/\∀ (q:k.σ) (h:AH) (I:Nat->Prop) (i:Nat) (n:Int) (K:V->AH->Prop),k.R q h I->i<=255->JF n->(∀ h' I',k.Go h I (k.send q i n).2 h' I'->JF (k.send q i n).1->K (.i .u32 (k.send q i n).1) h')->Cq tp f [k.v,.i .i64 i,.i .u32 n] h K
 recv:∃ f,tp.meth k.T "Recv"=some ⟨f,none⟩/\∀ (q:k.σ) (h:AH) (I:Nat->Prop) (i:Nat) (K:V->AH->Prop),k.R q h I->i<=255->(∀ h' I',k.Go h I (k.recv q i).2.2 h' I'->JF (k.recv q i).1->JF (k.recv q i).2.1->K (.tup [.i .u32 (k.recv q i).1,.i .u32 (k.recv q i).2.1]) h')->Cq tp f [k.v,.i .i64 i] h K
 change:∃ f,tp.meth k.T "Change"=some ⟨f,none⟩/\∀ (q:k.σ) (h:AH) (I:Nat->Prop) (n:Int) (K:V->AH->Prop),k.R q h I->JF n->(∀ h' I',k.Go h I (k.change q n).2 h' I'->JF (k.change q n).1->K (.i .u32 (k.change q n).1) h')->Cq tp f [k.v,.i .u32 n] h K
 stop:∃ f,tp.meth k.T "StopAll"=some ⟨f,none⟩/\∀ (q:k.σ) (h:AH) (I:Nat->Prop) (K:V->AH->Prop),k.R q h I->(∀ h' I',k.Go h I (k.stop q).2 h' I'->JF (k.stop q).1->K (.i .u32 (k.stop q).1) h')->Cq tp f [k.v] h K
def Apart (pp tb lg:Nat) (w a f:V) (I:Nat->Prop):Prop:=∀ i,I i->i≠pp/\i≠tb/\i≠lg/\i≠Ap w/\i≠Ap a/\(AA f=true\/i≠Ap f)
def noK:Kn:=⟨Unit,91,.agg [],λ_ _ I=>∀ j,¬ I j,λ_ _ _=>(3,()),λ_ _=>(0,2,()),λ_ _=>(4,()),λ_=>(4,())⟩
theorem aNE:noK.Ok:=by
 have u0:JF 0:=⟨by decide,by decide⟩
 have u2:JF 2:=⟨by decide,by decide⟩
 have u3:JF 3:=⟨by decide,by decide⟩
 have u4:JF 4:=⟨by decide,by decide⟩
 refine ⟨λr _ _=>r,λr j e=>(r j e).elim,⟨_,NS,λq h I i n K r _ _ kk=>?_⟩,⟨_,NR,λq h I i K r _ kk=>?_⟩,⟨_,KD,λq h I n K r _ kk=>?_⟩,⟨_,Jy,λq h I K r kk=>?_⟩⟩
 .have f:=kk (h.alloc ⟨0,[[]]⟩) I ⟨Wr.refl.alloc,r,λj e=>.inl e⟩ u3;clear kk;show Cq tp _ [.agg [],.i .i64 i,.i .u32 n] h K;refine Aa sE (by simp [LF]) λwf rp=>?_;unfold LF;simp (disch:=omega)only[go_sem, *];exact f
 .have f:=kk (h.alloc ⟨0,[[]]⟩) I ⟨Wr.refl.alloc,r,λj e=>.inl e⟩ u0 u2;clear kk;show Cq tp _ [.agg [],.i .i64 i] h K;refine Aa sD (by simp [LE]) λwf rp=>?_;unfold LE;simp (disch:=omega)only[go_sem, *];exact f
 .have f:=kk (h.alloc ⟨0,[[]]⟩) I ⟨Wr.refl.alloc,r,λj e=>.inl e⟩ u4;clear kk;show Cq tp _ [.agg [],.i .u32 n] h K;refine Aa sC (by simp [LD]) λwf rp=>?_;unfold LD;simp (disch:=omega)only[go_sem, *];exact f
 .have f:=kk (h.alloc ⟨0,[[]]⟩) I ⟨Wr.refl.alloc,r,λj e=>.inl e⟩ u4;clear kk;show Cq tp _ [.agg []] h K;refine Aa Nu (by simp [FR]) λwf rp=>?_;unfold FR;simp (disch:=omega)only[go_sem, *];exact f
end Go.Ab.T
