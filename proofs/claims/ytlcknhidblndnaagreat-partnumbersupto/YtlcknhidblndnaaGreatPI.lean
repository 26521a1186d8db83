/- Part of a proof that a law returns true for every input of the second form's bound (no other condition). -/
import Derived.Test.YtlcknhidblndnaaGreatPH
set_option linter.all false
namespace Go.Ab.T
open Go Go.Ab
set_option maxHeartbeats 8000000
@[go_sem] def Mx (B:List Int):List V:=[.fl 1 (B.map CJ)]
@[go_sem] def My (B:List Int):List V:=[.fl 1 (B.map CL)]
structure SS (id:Nat) (L:List Int) (h h':AH) (r0:List V) (v1 v2:V) (Ps Is:List (List Int)) (j:Nat):Prop where
 up:FX h id (An L j) h'
 jl:j<=L.length
 nx:h.next+3<=h'.next
 b0:h'.get h.next=some ⟨3,[r0]⟩
 b1:h'.get (h.next+1)=some ⟨2,[[.ns,.ns]]⟩
 b2:h'.get (h.next+2)=some ⟨2,[[v1,v2]]⟩
 s1:Sl (h.next+3) h' 1 v1 (Ps.map Mx)
 s2:Sl (h.next+3) h' 1 v2 (Is.map My)
 dj:AA v1=true\/AA v2=true\/Ap v1≠Ap v2
section
variable {id j:Nat} {L:List Int} {h h' h2:AH} {r0:List V} {v1 v2 w:V} {Ps Is:List (List Int)}
theorem SS.tape (s:SS id L h h' r0 v1 v2 Ps Is j) (hid:id<h.next) {k:Nat} (hk:k<=L.length):SS id L h (h'.put id (An L k)) r0 v1 v2 Ps Is k:=by
 have o1:=Au s.s1;have o2:=Au s.s2;exact ⟨Ce s.up,hk,s.nx,by rw [Ae,Af om];exact s.b0,by rw [Ae,Af om];exact s.b1,by rw [Ae,Af om];exact s.b2,
  AC s.s1 _ _ (o1.imp (λz=>z) (λz=>by omega)),AC s.s2 _ _ (o2.imp (λz=>z) (λz=>by omega)),s.dj⟩
theorem SS.ext (s:SS id L h h' r0 v1 v2 Ps Is j) (hid:id<h.next) (x:Ak h' h2):SS id L h h2 r0 v1 v2 Ps Is j:=by
 have n:=s.nx;have m:=x.next;exact ⟨U8 s.up hid x,s.jl,om,(x.get _ om).trans s.b0,(x.get _ om).trans s.b1,(x.get _ om).trans s.b2,s.s1.ext x,s.s2.ext x,s.dj⟩
theorem E2 {b sz:Nat} {v:V} {R:List (List V)} (s:Sl b h sz v R):AA v=true\/Ap v<h.next:=by
 rcases s with ⟨hv,_⟩ | ⟨i,el,cap,cs,rfl,_,_,_,_,h1,_⟩
 .rcases hv with rfl | rfl<;>exact .inl rfl
 .exact .inr h1
theorem OY {b:Nat} (g:Grown b h' v1 w h2):Wr h' (λi=>AA v1=false/\i=Ap v1) h2:=⟨g.next,g.lim,λi hi hn=>g.get i hi (by
 cases q:AA v1 with
 | true=>exact .inl rfl
 | false=>exact .inr (λe=>hn ⟨q,e⟩))⟩
theorem aAr {b:Nat} (g:Grown b h' v1 w h2) (l2:AA v2=true\/Ap v2<h'.next) (d:AA v1=true\/AA v2=true\/Ap v1≠Ap v2):AA w=true\/AA v2=true\/Ap w≠Ap v2:=by
 rcases g.own with q | ⟨q,e⟩ | q
 .exact .inl q
 .rcases d with d | d | d
  .rw [q] at d;cases d
  .exact .inr (.inl d)
  .exact .inr (.inr (by rw [e];exact d))
 .exact .inr (l2.imp (λz=>z) (λz=>by omega))
theorem SS.app1 {B:List Int} (s:SS id L h h' r0 v1 v2 Ps Is j) (hid:id<h.next) (g:Grown (h.next+3) h' v1 w h2) (sw:Sl (h.next+3) h2 1 w ((Ps++[B]).map Mx)):SS id L h (h2.put (h.next+2) ⟨2,[[w,v2]]⟩) r0 w v2 (Ps++[B]) Is j:=by
 have n:=s.nx;have m:=g.next;have o1:=Au s.s1;have o2:=Au s.s2;have ow:=Au sw;have far:∀ i,i<h.next+3->h2.get i=h'.get i:=λi hi=>g.get i om (o1.imp (λz=>z) (λz=>by omega));refine ⟨L6 (DQ s.up hid g (o1.imp (λz=>z) (λz=>by omega))) om hid,s.jl,by rw [Ah];omega, ?_, ?_,by rw [Ae,Ar rfl],AC sw _ _ (ow.imp (λz=>z) (λz=>by omega)),AC (BZ s.s2 (OY g) ?_) _ _ (o2.imp (λz=>z) (λz=>by omega)),aAr g (E2 s.s2) s.dj⟩
 .rw [Ae,Af om,far _ om];exact s.b0
 .rw [Ae,Af om,far _ om];exact s.b1
 .rcases s.dj with d | d | d
  .exact .inr (λe=>by rw [e.1] at d;cases d)
  .exact .inl d
  .exact .inr (λe=>d e.2.symm)
theorem SS.app2 {B:List Int} (s:SS id L h h' r0 v1 v2 Ps Is j) (hid:id<h.next) (g:Grown (h.next+3) h' v2 w h2) (sw:Sl (h.next+3) h2 1 w ((Is++[B]).map My)):SS id L h (h2.put (h.next+2) ⟨2,[[v1,w]]⟩) r0 v1 w Ps (Is++[B]) j:=by
 have n:=s.nx;have m:=g.next;have o1:=Au s.s1;have o2:=Au s.s2;have ow:=Au sw;have far:∀ i,i<h.next+3->h2.get i=h'.get i:=λi hi=>g.get i om (o2.imp (λz=>z) (λz=>by omega));have d2:AA v2=true\/AA v1=true\/Ap v2≠Ap v1:=by
  rcases s.dj with d | d | d
  .exact .inr (.inl d)
  .exact .inl d
  .exact .inr (.inr (Ne.symm d))
 refine ⟨L6 (DQ s.up hid g (o2.imp (λz=>z) (λz=>by omega))) om hid,s.jl,by rw [Ah];omega, ?_, ?_,by rw [Ae,Ar rfl],AC (BZ s.s1 (OY g) ?_) _ _ (o1.imp (λz=>z) (λz=>by omega)),AC sw _ _ (ow.imp (λz=>z) (λz=>by omega)), ?_⟩
 .rw [Ae,Af om,far _ om];exact s.b0
 .rw [Ae,Af om,far _ om];exact s.b1
 .rcases d2 with d | d | d
  .exact .inr (λe=>by rw [e.1] at d;cases d)
  .exact .inl d
  .exact .inr (λe=>d e.2.symm)
 .rcases aAr g (E2 s.s1) d2 with d | d | d
  .exact .inr (.inl d)
  .exact .inl d
  .exact .inr (.inr (Ne.symm d))
theorem SS.low {b:Nat} (s:SS id L h h' r0 v1 v2 Ps Is j) (hid:id<h.next) (hb:h.next+3<=b) (l1:AA v1=true\/Ap v1<b) (l2:AA v2=true\/Ap v2<b) (n:h'.next<=h2.next) (lm:h2.lim=h'.lim) (g:∀ i,i<b->h2.get i=h'.get i):SS id L h h2 r0 v1 v2 Ps Is j:=by
 have x:Wr h' (b<=·) h2:=⟨n,lm,λi _ hn=>g i om⟩
 have nx:=s.nx;have up:=s.up;have un:=up.next;exact ⟨⟨om,lm.trans up.lim,(g _ om).trans up.here,λi hi hn=>(g i om).trans (up.get i hi hn)⟩,s.jl,om,(g _ om).trans s.b0,(g _ om).trans s.b1,(g _ om).trans s.b2,
  BZ s.s1 x (l1.imp (λz=>z) (λz=>by omega)),BZ s.s2 x (l2.imp (λz=>z) (λz=>by omega)),s.dj⟩
theorem aNw {K : Ex -> Env -> AH -> Prop} {e : Env} {n k i0 : Nat} (hid : id < h.next) (hlo : h.lim <= id) (hL : L.length < 4000000000) (s : SS id L h h' r0 v1 v2 Ps Is j) (hn : n <= 20)
    (e0:e 0=.p id 0 0) (e3:e 3=.p h.next 0 0) (e4:e 4=.p (h.next+1) 0 0) (e5:e 5=.p (h.next+2) 0 0) (e7:e 7=.ns) (e8:e 8=.i .i64 n) (e11:e 11=.i .i64 k) (e12:e 12=.i .i64 i0)
    (kk:∀ e' h' l j,e' 0=.p id 0 0->e' 3=.p h.next 0 0->e' 4=.p (h.next+1) 0 0->e' 5=.p (h.next+2) 0 0->e' 7=.fl 1 (l.map CL)->e' 11=.i .i64 k->e' 12=.i .i64 i0->SS id L h h' r0 v1 v2 Ps Is j->Ej l->l.length<=20->K (.ex 2) e' h'):ZC tp (.loop Mm) e h' K:=by
 have l1:=E2 s.s1;have l2:=E2 s.s2;have nx:=s.nx;have fz : ∀ {e : Env} {hh : AH} {l : List Int} {u : V} {j : Nat}, h'.next <= hh.next -> SS id L h hh r0 v1 v2 Ps Is j -> Sl h'.next hh 1 u (l.map CL) -> l.length <= 20 -> e 0 = .p id 0 0 -> e 3 = .p h.next 0 0 -> e 4 = .p (h.next + 1) 0 0 -> e 5 = .p (h.next + 2) 0 0 -> e 7 = u -> e 8 = .i .i64 0 -> e 11 = .i .i64 k -> e 12 = .i .i64 i0 ->
     (∀ e' h2,e' 0=.p id 0 0->e' 3=.p h.next 0 0->e' 4=.p (h.next+1) 0 0->e' 5=.p (h.next+2) 0 0->e' 7=.fl 1 (l.map CL)->e' 8=.i .i64 0->e' 11=.i .i64 k->e' 12=.i .i64 i0->h'.next<=h2.next->SS id L h h2 r0 v1 v2 Ps Is j->ZC tp (.loop Mm) e' h2 K)->ZC tp (.loop Mm) e hh K:=by
  intro e hh l u j hn s su hl e0 e3 e4 e5 e7 e8 e11 e12 z;obtain ⟨q,hq,hf⟩:∃ q,h'.next<=q/\CY (·=q) hh hh.next u (.fl 1 (l.map CL)):=by
   cases hz:AA u with
   | true=>
    refine ⟨h'.next,Nat.le_refl _, ?_⟩;rcases su with ⟨a,b⟩ | ⟨_,_,_,_,rfl,_⟩
    .rw [b];rcases a with rfl | rfl
     .exact .ns _ _
     .exact .e0 _ _
    .cases hz
   | false=>
    have o:=(Au su).resolve_left (by rw [hz];decide);exact ⟨Ap u,o,Sl.froze su (λ_=>rfl) rfl om⟩
  refine aLE [0,3,4,5,7,8,11,12] 7 q (.fl 1 (l.map CL)) (by simp) (by rw [e7];exact hf) (λt ht hne=>?_) ?_
  .simp only [List.mem_cons,List.not_mem_nil,or_false] at ht;rcases ht with rfl | rfl | rfl | rfl | rfl | rfl | rfl | rfl
   .rw [e0];exact .p _ _ _ _ om
   .rw [e3];exact .p _ _ _ _ om
   .rw [e4];exact .p _ _ _ _ om
   .rw [e5];exact .p _ _ _ _ om
   .exact absurd rfl hne
   .rw [e8];exact .z _ _ (.i _ _)
   .rw [e11];exact .z _ _ (.i _ _)
   .rw [e12];exact .z _ _ (.i _ _)
  .intro e2 h7 hk;have k:=λt ht hne=>hk t ht hne;exact z e2 _ ((k 0 (by simp) (by decide)).trans e0) ((k 3 (by simp) (by decide)).trans e3) ((k 4 (by simp) (by decide)).trans e4) ((k 5 (by simp) (by decide)).trans e5) h7 ((k 8 (by simp) (by decide)).trans e8) ((k 11 (by simp) (by decide)).trans e11) ((k 12 (by simp) (by decide)).trans e12) hn (s.low hid nx l1 l2 (Nat.le_refl _) rfl (λi hi=>by rw [B6,Af om]))
 have main:∀ {e:Env} {hh:AH} {n j:Nat} {l:List Int} {u:V},h'.next<=hh.next->SS id L h hh r0 v1 v2 Ps Is j->l.length+n<=20->Ej l->e 0=.p id 0 0->e 3=.p h.next 0 0->e 4=.p (h.next+1) 0 0->e 5=.p (h.next+2) 0 0->e 7=u->e 8=.i .i64 n->e 11=.i .i64 k->e 12=.i .i64 i0->(n=0->u=.fl 1 (l.map CL))->(n≠0->Sl h'.next hh 1 u (l.map CL))->ZC tp (.loop Mm) e hh K:=by
  intro e hh n j l u g1 g2 g3 g4 g5 g6 g7 g8 g9 g10 g11 g12 g13 g14;refine Ai (λn' e hh=>∃ (i j:Nat) (l:List Int) (u:V),n'=i/\h'.next<=hh.next/\SS id L h hh r0 v1 v2 Ps Is j/\l.length+i<=20/\Ej l/\e 0=.p id 0 0/\e 3=.p h.next 0 0/\e 4=.p (h.next+1) 0 0/\e 5=.p (h.next+2) 0 0/\e 7=u/\e 8=.i .i64 i/\e 11=.i .i64 k/\e 12=.i .i64 i0/\(i=0->u=.fl 1 (l.map CL))/\(i≠0->Sl h'.next hh 1 u (l.map CL))) ?_ _ _ _ ⟨n,j,l,u,rfl,g1,g2,g3,g4,g5,g6,g7,g8,g9,g10,g11,g12,g13,g14⟩;clear g1 g2 g3 g4 g5 g6 g7 g8 g9 g10 g11 g12 g13 g14 e0 e3 e4 e5 e7 e8 e11 e12 e s;rintro n' e hh ⟨i,j,l,u,rfl,hnx,s,hl,hlu,e0,e3,e4,e5,e7,e8,e11,e12,z0,z1⟩ ih;have up:=s.up;have un:=up.next;have ul:=up.lim;have uh:=up.here;have jl:=s.jl;rw [Ao Mm.eq_1];simp (disch:=omega)only[go_sem, *];refine Ad (λhc=>?_) (λhc=>?_)
  .have su:=z1 om;have so:=Au su;clear z0 z1 up;simp (disch:=omega)only[go_sem, *];refine AJ uh jl hL om ?_;intro v j2 h0 h1 h2 hj2;have s2:=s.tape hid hj2;have su2:=AC su id (An L j2) (so.imp (λz=>z) (λz=>by omega));simp (disch:=omega)only[go_sem, *];refine Av (N:=[CL (IntKind.wrap .u32 v)]) (su2.alloc _) ?_ ?_ ?_ ?_
   .simp only [go_sem];omega
   .simp only [go_sem];omega
   .simp;omega
   intro w h4 s4 g4;have n4:=g4.next;have l4:=g4.lim;simp only [go_sem] at n4 l4;have s5:SS id L h h4 r0 v1 v2 Ps Is j2:=s2.low hid nx l1 l2 (by rw [Ah];omega) (by rw [El];omega) (λi hi=>by rw [g4.get i (by simp only [go_sem];omega) (so.imp (λz=>z) (λz=>by omega)),AD,Af (by rw [Ah];omega)];rfl);have s6:Sl h'.next h4 1 w ((l++[IntKind.wrap .u32 v]).map CL):=by rw [List.map_append];exact s4
   have hu:Ej (l++[IntKind.wrap .u32 v]):=λz hz=>(List.mem_append.1 hz).elim (hlu z) (λe=>by rw [List.mem_singleton.1 e];exact IY v);have hl2:(l++[IntKind.wrap .u32 v]).length=l.length+1:=by simp
   clear s4 g4 su2 s2 kk;simp (disch:=omega)only[go_sem, *]
   by_cases hlast:n'=1
   .subst hlast;refine fz (u:=w) (l:=l++[IntKind.wrap .u32 v]) (j:=j2) om s5 s6 om ?_ ?_ ?_ ?_ ?_ ?_ ?_ ?_ ?_
    all_goals first | (intro e' hz f0 f3 f4 f5 f7 f8 f11 f12 fn fs;exact ih 0 e' hz om ⟨0,j2,_,_,rfl,fn,fs,om,hu,f0,f3,f4,f5,f7,f8,f11,f12,λ_=>rfl,λq=>absurd rfl q⟩) | simp (disch:=omega)only[go_sem, *]
   .refine ih _ _ _ ?_ ⟨n' - 1,j2,l++[IntKind.wrap .u32 v],w,rfl, ?_,s5, ?_,hu, ?_⟩
    .omega
    .omega
    .omega
    .clear ih fz;simp (disch:=omega)only[go_sem, *]
     ((repeat' refine And.intro ?_ ?_)<;>first | omega | assumption | ((congr 1;omega)) | ((intro _;exact s6)) | ((intro _;trivial)) | ((intro q;exfalso;omega)))
  .obtain rfl:n'=0:=by omega
   obtain rfl:=z0 rfl;clear ih fz z1 z0;simp (disch:=omega)only[go_sem, *];refine kk _ hh l j ?_ ?_ ?_ ?_ ?_ ?_ ?_ s hlu om
   all_goals (clear kk;simp (disch:=omega)only[go_sem, *])
 by_cases hz:n=0
 .subst hz;refine fz (u:=.ns) (l:=[]) (j:=j) (Nat.le_refl _) s (Sl.nil _ _ _) (by simp) e0 e3 e4 e5 e7 e8 e11 e12 ?_;intro e' h2 f0 f3 f4 f5 f7 f8 f11 f12 fn fs;exact main fn fs (by simp) (λz hz=>by cases hz) f0 f3 f4 f5 rfl f8 f11 f12 (λ_=>f7) (λq=>absurd rfl q)
 .exact main (u:=.ns) (l:=[]) (Nat.le_refl _) s (by simp;omega) (λz hz=>by cases hz) e0 e3 e4 e5 e7 e8 e11 e12 (λq=>absurd q hz) (λ_=>Sl.nil _ _ _)
structure Scr (C:Am) (Ps Is:List (List Int)):Prop where
 p:Ps.length=C.parts.length
 i:Is.length=C.parts.length
 py:∀ B∈Ps,iT B/\B.length<=100
 iu:∀ l∈Is,Ej l/\l.length<=20
theorem Tx {C : Am} {k : Nat} {K : V -> AH -> Prop} (hg : h.get id = some (An L k)) (hk : k <= L.length) (hL : L.length < 4000000000) (hlo : h.lim <= id) (hch : C.chans.length <= 100) (hpl : C.parts.length <= 100)
    (kk:∀ Ps Is j,Scr C Ps Is->j<=L.length->K (.agg [.fl 1 (Ps.map Mx),.fl 1 (Is.map My)]) (h.put id (An L j))):Cq tp sV [.p id 0 0,.agg C.enc] h K:=by
 refine Ft aYU (by simp [eM]) hg λhlm hid rp=>?_;unfold eM;have pe:=λ{h:AH} {k:Nat} {K:V->AH->Prop} {p:Int} hg hk hlo kk=>hY (C:=C) (h:=h) (id:=id) (k:=k) (K:=K) (p:=p) hg hk hL hlo hch kk;simp only [Am.enc] at pe ⊢;simp (disch:=omega)only[go_sem, *];refine Ai (λn' e hh=>∃ (i j:Nat) (v1 v2:V) (Ps Is:List (List Int)),n'=C.parts.length - i/\SS id L h hh [.fl 11 (C.parts.map Part.enc),.fl 6 (C.chans.map AU.enc),.fl 1 (C.tables.map Tab.enc)] v1 v2 Ps Is j/\Ps.length=i/\Is.length=i/\(∀ B∈Ps,iT B/\B.length<=100)/\(∀ l∈Is,Ej l/\l.length<=20)/\i<=C.parts.length/\e 0=.p id 0 0/\e 3=.p h.next 0 0/\e 4=.p (h.next+1) 0 0/\e 5=.p (h.next+2) 0 0/\e 11=.i .i64 C.parts.length/\e 12=.i .i64 i) ?_ _ _ _ ⟨0,k,.ns,.ns,[],[],rfl, ?_⟩
 .rintro n' e hh ⟨i,j,v1,v2,Ps,Is,rfl,s,hp,hi,hPs,hIs,hic,e0,e3,e4,e5,e11,e12⟩ ih;have up:=s.up;have un:=up.next;have ul:=up.lim;have uh:=up.here;have jl:=s.jl;have nx:=s.nx;have b0:=s.b0;have b2:=s.b2;have hsv:=Sl.sameV s.s1;obtain ⟨_,_,_,_,_,_,_,sc1,sc2⟩:=s.s1.facts;obtain ⟨_,_,_,_,_,_,_,sd1,sd2⟩:=s.s2.facts;rw [Ao zZ.eq_1];simp (disch:=omega)only[go_sem, *];refine Ad (λhc=>?_) (λhc=>?_)
  .clear up kk;simp (disch:=omega)only[go_sem, *];refine pe uh jl om ?_;intro B j2 hB hBl hj2;have s2:=s.tape hid hj2;have o1:=Au s2.s1;simp (disch:=omega)only[go_sem, *];refine Av (N:=[Mx B]) (s2.s1.alloc _) ?_ ?_ ?_ ?_
   .simp only [go_sem];omega
   .simp only [go_sem];omega
   .simp;omega
   intro w1 h4 s4 g4;have s3:=(s2.ext (h2:=((hh.put id (An L j2)).alloc ⟨1,[Mx B]⟩)) hid ((Ak.refl _).alloc _)).app1 (B:=B) hid g4 (by rw [List.map_append];exact s4);have b4:=g4.get (h.next+2) (by simp only [go_sem];omega) (o1.imp (λz=>z) (λz=>by omega));have n4:=g4.next;have l4:=g4.lim;have c1:=g4.cell;have c2:=g4.cells;simp (disch:=omega)only[go_sem, *] at b4 n4 l4;have n3:hh.next+1<=(h4.put (h.next+2) ⟨2,[[w1,v2]]⟩).next:=n4;clear s4 g4 s2 s hsv sc1 sc2 uh jl;simp (disch:=omega)only[go_sem, *];generalize h4.put (h.next+2) ⟨2,[[w1,v2]]⟩=h5 at s3 n3 ⊢;clear b4 n4 l4 c1 c2 b0 b2;have u5:=s3.up;have l5:=u5.lim;have uh:=u5.here;refine AJ uh s3.jl hL om ?_;intro v j3 h30 h31 h32 hj3;have s6:=s3.tape hid hj3;obtain ⟨n,rfl⟩:∃ n:Nat,v=n:=⟨v.toNat,om⟩
   clear u5 uh s3;simp (disch:=omega)only[go_sem, *];refine aNw (n:=n) (k:=C.parts.length) (i0:=i) hid hlo hL s6 om ?_ ?_ ?_ ?_ ?_ ?_ ?_ ?_ ?_
   rotate_right 1
   .intro e' h7 l j7 f0 f3 f4 f5 f7 f11 f12 s7 hl hll;have u7:=s7.up;have l7:=u7.lim;have n7:=s7.nx;have b2:=s7.b2;have o2:=Au s7.s2;clear s6 pe u7 e0 e3 e4 e5 e11 e12;simp (disch:=omega)only[go_sem, *];refine Av (N:=[My l]) (s7.s2.alloc _) ?_ ?_ ?_ ?_
    .simp only [go_sem];omega
    .simp only [go_sem];omega
    .simp;omega
    intro w2 h8 s8 g8;have s9:=(s7.ext (h2:=(h7.alloc ⟨1,[My l]⟩)) hid ((Ak.refl _).alloc _)).app2 (B:=l) hid g8 (by rw [List.map_append];exact s8);have b8:=g8.get (h.next+2) (by simp only [go_sem];omega) (o2.imp (λz=>z) (λz=>by omega));have l8:=g8.lim;have c1:=g8.cell;have c2:=g8.cells;simp (disch:=omega)only[go_sem, *] at b8 l8;have hP2:∀ x∈Ps++[B],iT x/\x.length<=100:=λx hx=>(List.mem_append.1 hx).elim (hPs x) (λe=>by rw [List.mem_singleton.1 e];exact ⟨hB,hBl⟩);have hI2:∀ x∈Is++[l],Ej x/\x.length<=20:=λx hx=>(List.mem_append.1 hx).elim (hIs x) (λe=>by rw [List.mem_singleton.1 e];exact ⟨hl,hll⟩);clear s8 g8 s7;simp (disch:=omega)only[go_sem, *];refine ih _ _ _ ?_ ⟨i+1,j7,w1,w2,Ps++[B],Is++[l],rfl,s9,by simp [hp],by simp [hi],hP2,hI2,om, ?_⟩
    .omega
    .clear ih;simp (disch:=omega)only[go_sem, *]
   all_goals simp (disch:=omega)only[go_sem, *]
  .obtain rfl:i=C.parts.length:=by omega
   have b1:=s.b1;have s10:=AC s.s1 (h.next+1) ⟨2,[[v1,v2]]⟩ ((Au s.s1).imp (λz=>z) (λz=>by omega));have s20:=AC s.s2 (h.next+1) ⟨2,[[v1,v2]]⟩ ((Au s.s2).imp (λz=>z) (λz=>by omega));simp (disch:=omega)only[go_sem, *];exact ⟨.agg [.fl 1 (Ps.map Mx),.fl 1 (Is.map My)],j,.agg _ _ _ (.cons _ _ _ _ _ (Sl.frzb (Sl.weak s10 om) (λ_=>rfl) om) (.cons _ _ _ _ _ (Sl.frzb (Sl.weak s20 om) (λ_=>rfl) om) (.nil _))),L6 up om hid,kk Ps Is j ⟨hp,hi,hPs,hIs⟩ jl⟩
 .have s0:SS id L h (((h.alloc ⟨3,[[.fl 11 (C.parts.map Part.enc),.fl 6 (C.chans.map AU.enc),.fl 1 (C.tables.map Tab.enc)]]⟩).alloc ⟨2,[[.ns,.ns]]⟩).alloc ⟨2,[[.ns,.ns]]⟩) [.fl 11 (C.parts.map Part.enc),.fl 6 (C.chans.map AU.enc),.fl 1 (C.tables.map Tab.enc)] .ns .ns [] [] k:=by
   refine ⟨Bp (Bp (Bp (FX.same hg) hid) hid) hid,hk,Nat.le_refl _, ?_, ?_, ?_,Sl.nil _ _ _,Sl.nil _ _ _,.inl rfl⟩
   .simp (disch:=omega)only[go_sem, *]
   .simp (disch:=omega)only[go_sem, *]
   .simp (disch:=omega)only[go_sem, *]
  clear kk pe;simp (disch:=omega)only[go_sem, *]
  ((repeat' refine And.intro ?_ ?_)<;>first | omega | assumption | ((intro x hx;cases hx)))
end
end Go.Ab.T
namespace Go.Ab.T
open Go Go.Ab
set_option maxHeartbeats 8000000
def Co (c:PC) (k:Nat) (fr:Bool):Bool:=decide (k<c.c.chans.length)&&if fr=true then decide ((nth c.c.chans k).src=c.p) else decide ((nth c.c.chans k).dst=c.p)
def AW (c:PC) (k:Kn) (q:k.σ) (op:Int) (A B:Nat) (x:ST):Int×Int×ST×k.σ:=
 if op=15 then ((k.change q (nth x.r A)).1,0,⟨x.r.set 0 (k.change q (nth x.r A)).1,x.pc⟩,(k.change q (nth x.r A)).2)
 else if op=16 then ((k.stop q).1,0,⟨x.r.set 0 (k.stop q).1,x.pc⟩,(k.stop q).2)
 else if Co c A (decide (op=11))=false then (0,5,x,q)
 else if op=11 then (nth x.r B,0,⟨x.r.set 0 (k.send q A (nth x.r B)).1,x.pc⟩,(k.send q A (nth x.r B)).2)
 else ((k.recv q A).1,0,⟨(if (k.recv q A).2.1=2 then x.r else x.r.set B (k.recv q A).1).set 0 (k.recv q A).2.1,x.pc⟩,(k.recv q A).2.2)
section
variable {b pp tb lg i A B C:Nat} {h:AH} {w a f:V} {c:PC} {s:PS} {t op:Int} {K:V->AH->Prop} {k:Kn} {q:k.σ} {I:Nat->Prop}
theorem J4 {fr:Bool} (gp:h.get pp=some ⟨26,[AG c tb lg a s.mem s.clk]⟩) (hpn:pp<h.next) (hlo:h.lim<=h.next) (h3:s.mem.length=16) (kk:∀ h',Ak h h'->K (.b (Co c A fr)) h'):Cq tp aO [.p pp 0 0,.i .i64 A,.b fr] h K:=by
 have f1:=AG.f1 (c:=c) (tb:=tb) (lg:=lg) (a:=a) (mem:=s.mem) (clk:=s.clk);have f3:=AG.f3 (c:=c) (tb:=tb) (lg:=lg) (a:=a) (mem:=s.mem) (clk:=s.clk);have rl:=AG.len (c:=c) (tb:=tb) (lg:=lg) (a:=a) (clk:=s.clk) h3
 by_cases hA:A<c.c.chans.length
 .have z2:¬ (c.c.chans.length:Int)<=A:=by omega
  have X:=λkb=>kk ((h.alloc ⟨6,[[.i .i64 0,.i .i64 0,.b false,.i .i64 0,.i .u32 0,.i .i64 0]]⟩).put h.next kb) (by (repeat (first | exact Ak.refl _ | refine Ak.alloc ?_ _ | (refine Ak.put ?_ _ _ ?_;rotate_left;(first | omega | (simp only [Ac,Ah];omega))))));cases fr
  .have e:Co c A false=decide ((nth c.c.chans A).dst=c.p):=by unfold Co;rw [decide_eq_true hA,Bool.true_and];rfl
   rw [e] at X;clear kk e;refine Aa Ha (by simp [Ea]) λwf rp=>?_;unfold Ea;simp (disch:=omega)only[go_sem, *]
  .have e:Co c A true=decide ((nth c.c.chans A).src=c.p):=by unfold Co;rw [decide_eq_true hA,Bool.true_and];rfl
   rw [e] at X;clear kk e
   by_cases hz:(nth c.c.chans A).src=c.p
   .rw [decide_eq_true hz] at X;refine Aa Ha (by simp [Ea]) λwf rp=>?_;unfold Ea;simp (disch:=omega)only[go_sem, *]
   .rw [decide_eq_false hz] at X;refine Aa Ha (by simp [Ea]) λwf rp=>?_;unfold Ea;simp (disch:=omega)only[go_sem, *]
 .have e:Co c A fr=false:=by unfold Co;rw [decide_eq_false hA,Bool.false_and]
  rw [e] at kk;have z2:(c.c.chans.length:Int)<=A:=by omega
  have f:=kk h (Ak.refl _);clear kk e;refine Aa Ha (by simp [Ea]) λwf rp=>?_;unfold Ea;simp (disch:=omega)only[go_sem, *]
theorem BR {x:ST} {n:Int} {j:Nat} (hx:x.r.length=8/\Ej x.r) (h:JF n):(x.r.set j n).length=8/\Ej (x.r.set j n):=⟨by simp [hx.1],HN hx.2 h.1 h.2⟩
theorem J2 {x:ST} (e:Co c A true=false):AW c k q 11 A B x=(0,5,x,q):=by
 unfold AW;rw [if_neg (by decide),if_neg (by decide),if_pos (show Co c A (decide ((11:Int)=11))=false from e)]
theorem Iv {x:ST} (e:Co c A false=false):AW c k q 12 A B x=(0,5,x,q):=by
 unfold AW;rw [if_neg (by decide),if_neg (by decide),if_pos (show Co c A (decide ((12:Int)=11))=false from e)]
theorem Gi {s:PS} {i:Nat} (hi:i<s.all.length):({ s with all:=s.all.set i (nth s.all i) }:PS)=s:=by rw [Ba hi,List.set_getElem_self]
theorem cW {x:ST} (hr:x.r.length=8) (v:Int):(ST.enc x).set 0 (.i .u32 v)=ST.enc ⟨x.r.set 0 v,x.pc⟩/\(ST.enc ⟨x.r.set 0 v,x.pc⟩).length=9/\(ST.enc ⟨x.r.set 0 v,x.pc⟩)[0]?=some (.i .u32 v):=by
 refine ⟨ST.setr hr (by decide),ST.len (by simp [hr]), ?_⟩;rw [ST.reg (by simp [hr]) (by decide)];simp [nth,hr]
theorem pM (ok:k.Ok) (p:PA b h pp tb lg w a f c s) (hi:i<s.all.length) (g:Reg op A B C) (hop:op=11\/op=12\/op=15\/op=16) (r:k.R q h I) (dj:Apart pp tb lg w a f I)
    (kk:∀ h' I',Wr h (λj=>j=Ap a\/I j) h'->k.R (AW c k q op A B (nth s.all i)).2.2.2 h' I'->(∀ j,I' j->I j\/h.next<=j)->PA b h' pp tb lg w a f c { s with all:=s.all.set i (AW c k q op A B (nth s.all i)).2.2.1 }->K (.tup [.i .u32 (AW c k q op A B (nth s.all i)).1,.i .i64 (AW c k q op A B (nth s.all i)).2.1]) h'):Cq tp UH [.p pp 0 0,.agg [.i .i64 op,.i .i64 A,.i .i64 B,.i .i64 C],.p (Ap a) (Ca a+i) 0,.ifc k.T k.v] h K:=by
 obtain ⟨ga,gb,gc⟩:=g.m;obtain ⟨sg,sr,slt,slo,sat,set⟩:=C0 p.sa hi;have hlim:=p.lim;have hpn:=p.np.1;have hx:=p.l4 _ (Az hi);have he:=ST.len hx.1;have m1:∀ n:Nat,n*1=n:=Nat.mul_one;have X1:Ak h (h.alloc ⟨4,[[.i .i64 op,.i .i64 A,.i .i64 B,.i .i64 C]]⟩):=by (repeat (first | exact Ak.refl _ | refine Ak.alloc ?_ _ | (refine Ak.put ?_ _ _ ?_;rotate_left;(first | omega | (simp only [Ac,Ah];omega)))))
 have b1:(h.alloc ⟨4,[[.i .i64 op,.i .i64 A,.i .i64 B,.i .i64 C]]⟩).get h.next=some ⟨4,[[.i .i64 op,.i .i64 A,.i .i64 B,.i .i64 C]]⟩/\h.next<(h.alloc ⟨4,[[.i .i64 op,.i .i64 A,.i .i64 B,.i .i64 C]]⟩).next:=⟨by rw [AD,Ar rfl],by simp only [go_sem];omega⟩
 have rx:∀ {g:AH},Ak h g->k.R q g I:=λx=>ok.keep (J:=λ_=>False) r (Wr.ext Wr.refl x) (λ_ _ e=>e);have r1:=rx X1;have p1:=p.ext X1;have lw:=ok.low r;have at2:∀ {g h2:AH} {I2:Nat->Prop} {q2:k.σ},Ak h g->g.get h.next=some ⟨4,[[.i .i64 op,.i .i64 A,.i .i64 B,.i .i64 C]]⟩/\h.next<g.next->k.Go g I q2 h2 I2->PA b h2 pp tb lg w a f c s/\h2.get (Ap a)=some ⟨9,AP h2 a⟩/\(AP h2 a)[Ca a+i]?=some (ST.enc (nth s.all i))/\h2.get h.next=some ⟨4,[[.i .i64 op,.i .i64 A,.i .i64 B,.i .i64 C]]⟩/\h2.lim<=Ap a/\∀ x,((AP h2 a).set (Ca a+i) x)[Ca a+i]?=some x:=λX gb go=>by
  have p2:=(p.ext X).same go.w dj;have e:=C0 p2.sa hi;have l2:=p2.lim;exact ⟨p2,e.g,e.r,(go.w.get h.next gb.2 (λe=>Nat.lt_irrefl _ (lw _ e))).trans gb.1,om,λx=>List.getElem?_set_self (by have:=e.r;rw [List.getElem?_eq_some_iff] at this;exact this.1)⟩
 have fin:∀ {g h2:AH} {I2:Nat->Prop} {q2:k.σ} {x':ST} {v fl:Int},Ak h g->g.get h.next=some ⟨4,[[.i .i64 op,.i .i64 A,.i .i64 B,.i .i64 C]]⟩/\h.next<g.next->AW c k q op A B (nth s.all i)=(v,fl,x',q2)->k.Go g I q2 h2 I2->(x'.r.length=8/\Ej x'.r)->K (.tup [.i .u32 v,.i .i64 fl]) (h2.put (Ap a) ⟨9,(AP h2 a).set (Ca a+i) (ST.enc x')⟩):=λX gb e go hx'=>by
  have p2:=(at2 X gb go).1;have z:=kk;rw [e] at z;have nx:=X.next;refine z _ _ ?_ (ok.keep (J:=(·=Ap a)) go.r (Wr.refl.put (.inr rfl)) (λj e1 e2=>?_)) (λj e=>(go.i j e).imp (λz=>z) (λz=>by omega)) (p2.setA (Wr.refl.put (.inr rfl)) ((C0 p2.sa hi).set _ (Ak.refl _) _) (by simp) (Hs p.l4 hx'))
  .exact Wr.put (Wr.trans (Wr.ext Wr.refl X) go.w (λj _ e=>.inr e)) (.inr (.inl rfl))
  .rcases go.i j e1 with z | z
   .exact (dj j z).2.2.2.2.1 e2
   .omega
 clear set r;rcases hop with rfl | rfl | rfl | rfl
 .obtain ⟨f0,mf,sp⟩:=ok.send;have hB:B<8:=g.b rfl;have eB:=ST.reg hx.1 hB;have hB8:B+1<=8+1:=by omega
  have gp1:=p1.gp;have hpn1:=p1.np.1;have ml:=p.l3;have ll:h.lim<=(h.alloc ⟨4,[[.i .i64 11,.i .i64 A,.i .i64 B,.i .i64 C]]⟩).next:=by simp only [go_sem];omega
  have no:Co c A true=false->∀ g,Ak h g->K (.tup [.i .u32 0,.i .i64 5]) g:=λe g X=>by
   have z:=kk;rw [J2 e] at z;exact z g I (Wr.ext Wr.refl X) (rx X) (λj e=>.inl e) (by rw [Gi hi];exact p.ext X)
  clear kk;refine Aa aMW (by simp [QH]) λwf rp=>?_;unfold QH;simp (disch:=omega)only[go_sem, *];refine J4 gp1 hpn1 ll ml ?_;intro h3 x3;have X3:Ak h h3:=X1.trans x3;have b3:=b1.1;rw [<- x3.get h.next b1.2] at b3;have n3:=x3.next;have a3:=(X3.get _ slt).trans sg;simp only [go_sem] at n3
  cases hc:Co c A true with
  | false=>
   have f:=no hc h3 X3;clear no fin at2;simp (disch:=omega)only[go_sem, *]
  | true=>
   clear no;simp (disch:=omega)only[go_sem, *];refine sp q h3 I _ _ _ (rx X3) ga (BH hx.2) ?_;intro h2 I2 go u;obtain ⟨-,k1,k2,k3,k4,k5⟩:=at2 X3 ⟨b3,om⟩ go;have f:=fin (v:=nth (nth s.all i).r B) (fl:=0) (x':=⟨(nth s.all i).r.set 0 (k.send q A (nth (nth s.all i).r B)).1,(nth s.all i).pc⟩) X3 ⟨b3,om⟩ (by unfold AW;rw [if_neg (by decide),if_neg (by decide),if_neg (by rw [show decide ((11:Int)=11)=true from rfl,hc];decide),if_pos rfl]) go (BR hx u);obtain ⟨s0,s1,s2⟩:=cW hx.1 (k.send q A (nth (nth s.all i).r B)).1;clear fin at2 sp go;simp (disch:=omega)only[go_sem, *]
 .obtain ⟨f0,mf,sp⟩:=ok.recv;have hB:B<8:=g.b rfl;have hB8:B+1<=8+1:=by omega
  have gp1:=p1.gp;have hpn1:=p1.np.1;have ml:=p.l3;have ll:h.lim<=(h.alloc ⟨4,[[.i .i64 12,.i .i64 A,.i .i64 B,.i .i64 C]]⟩).next:=by simp only [go_sem];omega
  have no:Co c A false=false->∀ g,Ak h g->K (.tup [.i .u32 0,.i .i64 5]) g:=λe g X=>by
   have z:=kk;rw [Iv e] at z;exact z g I (Wr.ext Wr.refl X) (rx X) (λj e=>.inl e) (by rw [Gi hi];exact p.ext X)
  clear kk;refine Aa aMW (by simp [QH]) λwf rp=>?_;unfold QH;simp (disch:=omega)only[go_sem, *];refine J4 gp1 hpn1 ll ml ?_;intro h3 x3;have X3:Ak h h3:=X1.trans x3;have b3:=b1.1;rw [<- x3.get h.next b1.2] at b3;have n3:=x3.next;have a3:=(X3.get _ slt).trans sg;simp only [go_sem] at n3
  cases hc:Co c A false with
  | false=>
   have f:=no hc h3 X3;clear no fin at2;simp (disch:=omega)only[go_sem, *]
  | true=>
   clear no;simp (disch:=omega)only[go_sem, *];refine sp q h3 I _ _ (rx X3) ga ?_;intro h2 I2 go u u2;obtain ⟨-,k1,k2,k3,k4,k5⟩:=at2 X3 ⟨b3,om⟩ go;have ce:AW c k q 12 A B (nth s.all i)=((k.recv q A).1,0,⟨(if (k.recv q A).2.1=2 then (nth s.all i).r else (nth s.all i).r.set B (k.recv q A).1).set 0 (k.recv q A).2.1,(nth s.all i).pc⟩,(k.recv q A).2.2):=by
    unfold AW;rw [if_neg (by decide),if_neg (by decide),if_neg (by rw [show decide ((12:Int)=11)=false from rfl,hc];decide),if_neg (by decide)]
   by_cases hz:(k.recv q A).2.1=2
   .rw [if_pos hz] at ce;have f:=fin X3 ⟨b3,om⟩ ce go (BR hx u2);obtain ⟨s0,s1,s2⟩:=cW hx.1 (k.recv q A).2.1;rw [hz] at f s0 s1 s2;clear fin at2 sp go ce;simp (disch:=omega)only[go_sem, *]
   .rw [if_neg hz] at ce;have hx3:=BR (x:=nth s.all i) (j:=B) hx u;have f:=fin X3 ⟨b3,om⟩ ce go (BR (x:=⟨(nth s.all i).r.set B (k.recv q A).1,(nth s.all i).pc⟩) hx3 u2);have s3:=ST.setr (v:=(k.recv q A).1) hx.1 hB;have he3:=ST.len (x:=⟨(nth s.all i).r.set B (k.recv q A).1,(nth s.all i).pc⟩) hx3.1;obtain ⟨s0,s1,s2⟩:=cW (x:=⟨(nth s.all i).r.set B (k.recv q A).1,(nth s.all i).pc⟩) hx3.1 (k.recv q A).2.1;clear fin at2 sp go ce;simp (disch:=omega)only[go_sem, *]
 .obtain ⟨f0,mf,sp⟩:=ok.change;have hA:A<8:=g.a rfl;have eA:=ST.reg hx.1 hA;have hA8:A+1<=8+1:=by omega
  clear kk;refine Aa aMW (by simp [QH]) λwf rp=>?_;unfold QH;simp (disch:=omega)only[go_sem, *];refine sp q _ I _ _ r1 (BH hx.2) ?_;intro h2 I2 go u;obtain ⟨-,k1,k2,k3,k4,k5⟩:=at2 X1 b1 go;have f:=fin (v:=(k.change q (nth (nth s.all i).r A)).1) (fl:=0) (x':=⟨(nth s.all i).r.set 0 (k.change q (nth (nth s.all i).r A)).1,(nth s.all i).pc⟩) X1 b1 (by unfold AW;rw [if_pos rfl]) go (BR hx u);obtain ⟨s0,s1,s2⟩:=cW hx.1 (k.change q (nth (nth s.all i).r A)).1;clear fin at2 sp go;simp (disch:=omega)only[go_sem, *]
 .obtain ⟨f0,mf,sp⟩:=ok.stop;clear kk;refine Aa aMW (by simp [QH]) λwf rp=>?_;unfold QH;simp (disch:=omega)only[go_sem, *];refine sp q _ I _ r1 ?_;intro h2 I2 go u;obtain ⟨-,k1,k2,k3,k4,k5⟩:=at2 X1 b1 go;have f:=fin (v:=(k.stop q).1) (fl:=0) (x':=⟨(nth s.all i).r.set 0 (k.stop q).1,(nth s.all i).pc⟩) X1 b1 (by unfold AW;rw [if_neg (by decide),if_pos rfl]) go (BR hx u);obtain ⟨s0,s1,s2⟩:=cW hx.1 (k.stop q).1;clear fin at2 sp go;simp (disch:=omega)only[go_sem, *]
end
end Go.Ab.T
namespace Go.Ab.T
open Go Go.Ab
set_option maxHeartbeats 8000000
def Cu (c:PC) (k:Kn) (q:k.σ) (s:PS) (t:Int) (i:Nat) (op:Int) (A B C:Nat):Int×Int×PS×k.σ:=
 if op=1\/op=2\/op=3\/op=4\/op=5\/op=13\/op=14 then ((Cm c.ins t op A B C (nth s.all i)).1,(Cm c.ins t op A B C (nth s.all i)).2.1,{ s with all:=s.all.set i (Cm c.ins t op A B C (nth s.all i)).2.2 },q)
 else if op=6\/op=7 then ((Bk s.mem op A B C (nth s.all i)).1,(Bk s.mem op A B C (nth s.all i)).2.1,{ s with all:=s.all.set i (Bk s.mem op A B C (nth s.all i)).2.2.1,mem:=(Bk s.mem op A B C (nth s.all i)).2.2.2 },q)
 else if op=8 then (0,0,{ s with all:=s.all.set i ⟨(nth s.all i).r,256*B+C⟩ },q)
 else if op=9 then (0,0,if nth (nth s.all i).r A=0 then { s with all:=s.all.set i ⟨(nth s.all i).r,256*B+C⟩ } else s,q)
 else if op=10 then (0,0,{ s with procs:=s.procs.set i { nth s.procs i with wake:=t+nth (nth s.all i).r A+1 } },q)
 else if op=17 then (0,0,{ s with procs:=s.procs.set i { nth s.procs i with ended:=true } },q)
 else if op=11\/op=12\/op=15\/op=16 then ((AW c k q op A B (nth s.all i)).1,(AW c k q op A B (nth s.all i)).2.1,{ s with all:=s.all.set i (AW c k q op A B (nth s.all i)).2.2.1 },(AW c k q op A B (nth s.all i)).2.2.2) else (0,0,s,q)
section
variable {b pp tb lg i A B C:Nat} {h:AH} {w a f:V} {c:PC} {s:PS} {t op:Int} {K:V->AH->Prop} {k:Kn} {q:k.σ} {I:Nat->Prop}
theorem aYG (ok:k.Ok) (p:PA b h pp tb lg w a f c s) (hi:i<s.all.length) (g:Reg op A B C) (r:k.R q h I) (dj:Apart pp tb lg w a f I) (hins:Ej c.ins) (hil:c.ins.length<4000000000) (ht:0<=t) (ht2:t<3000000000)
    (kk:∀ h' I',Wr h (λj=>(j=pp\/j=Ap w\/j=Ap a)\/I j) h'->k.R (Cu c k q s t i op A B C).2.2.2 h' I'->(∀ j,I' j->I j\/h.next<=j)->PA b h' pp tb lg w a f c (Cu c k q s t i op A B C).2.2.1->K (.tup [.i .u32 (Cu c k q s t i op A B C).1,.i .i64 (Cu c k q s t i op A B C).2.1]) h'):Cq tp Uq [.p pp 0 0,.agg [.i .i64 op,.i .i64 A,.i .i64 B,.i .i64 C],.i .i64 i,.i .i64 t,.ifc k.T k.v] h K:=by
 obtain ⟨sg,sr,slt,slo,sat,set⟩:=C0 p.sa hi;have gp:=p.gp;have hx:=p.l4 _ (Az hi);obtain ⟨ga,gb,gc⟩:=g.m;obtain ⟨np1,np2,np3⟩:=p.np;obtain ⟨bp1,bp2,bp3⟩:=p.bp;have hlim:=p.lim;have at0:=sat (AP h a)
 have f6:=AG.f6 (c:=c) (tb:=tb) (lg:=lg) (a:=a) (mem:=s.mem) (clk:=s.clk);have f7:=AG.f7 (c:=c) (tb:=tb) (lg:=lg) (a:=a) (mem:=s.mem) (clk:=s.clk);have f1:=AG.f1 (c:=c) (tb:=tb) (lg:=lg) (a:=a) (mem:=s.mem) (clk:=s.clk);have rl:=AG.len (c:=c) (tb:=tb) (lg:=lg) (a:=a) (clk:=s.clk) p.l3;have X1:Ak h (h.alloc ⟨4,[[.i .i64 op,.i .i64 A,.i .i64 B,.i .i64 C]]⟩):=by (repeat (first | exact Ak.refl _ | refine Ak.alloc ?_ _ | (refine Ak.put ?_ _ _ ?_;rotate_left;(first | omega | (simp only [Ac,Ah];omega)))))
 have p1:=p.ext X1;have wr1:Wr h (λj=>j=pp\/j=Ap w\/j=Ap a) (h.alloc ⟨4,[[.i .i64 op,.i .i64 A,.i .i64 B,.i .i64 C]]⟩):=Wr.refl.alloc;have kk0:∀ {v fl:Int} {s':PS},Cu c k q s t i op A B C=(v,fl,s',q)->∀ h',Wr h (λj=>j=pp\/j=Ap w\/j=Ap a) h'->PA b h' pp tb lg w a f c s'->K (.tup [.i .u32 v,.i .i64 fl]) h':=λe h' x y=>by
  have z:=kk;rw [e] at z;exact z h' I (x.mono λ_ e=>.inl e) (ok.keep r x (λj e1 e2=>by
   obtain ⟨d1,d2,d3,d4,d5,d6⟩:=dj j e1;rcases e2 with e2 | e2 | e2
   .exact d1 e2
   .exact d4 e2
   .exact d5 e2)) (λj e=>.inl e) y
 have hop:(op=1\/op=2\/op=3\/op=4\/op=5\/op=13\/op=14)\/(op=6\/op=7)\/op=8\/op=9\/op=10\/op=17\/(op=11\/op=12\/op=15\/op=16)\/op=0:=by
  have:=g.o;omega
 rcases hop with hop | hop | rfl | rfl | rfl | rfl | hop | rfl
 .have e:Cu c k q s t i op A B C=((Cm c.ins t op A B C (nth s.all i)).1,(Cm c.ins t op A B C (nth s.all i)).2.1,{ s with all:=s.all.set i (Cm c.ins t op A B C (nth s.all i)).2.2 },q):=if_pos hop;replace kk:=kk0 e;clear kk0;have hA:A<8:=g.a (by rcases hop with rfl | rfl | rfl | rfl | rfl | rfl | rfl<;>rfl);have hB:op=2\/op=3\/op=4\/op=5->B<8/\C<8:=λq=>⟨g.b (by rcases q with rfl | rfl | rfl | rfl<;>rfl),g.c (by rcases q with rfl | rfl | rfl | rfl<;>rfl)⟩
  have hcl:=YV (t:=t) (op:=op) (A:=A) hins gb gc hx;clear set sr e;rcases hop with rfl | rfl | rfl | rfl | rfl | rfl | rfl<;>(
   refine Aa aMw (by simp [Qh]) λwf rp=>?_;unfold Qh;simp (disch:=omega)only[go_sem, *];refine YU (t:=t) (by decide) hA hB gb gc p1.gp p.l3 p1.np.1 p1.sa hi p1.lim hx.1 ht hil (λh' x' s'=>?_);have fin:=kk h' (wr1.trans x' (λj _ e=>.inr (.inr e))) (p1.setA x' s' (by simp) (Hs p.l4 hcl));clear kk x' s' p1 wr1 p;simp (disch:=omega)only[go_sem, *])
 .have e:Cu c k q s t i op A B C=((Bk s.mem op A B C (nth s.all i)).1,(Bk s.mem op A B C (nth s.all i)).2.1,{ s with all:=s.all.set i (Bk s.mem op A B C (nth s.all i)).2.2.1,mem:=(Bk s.mem op A B C (nth s.all i)).2.2.2 },q):=by
   unfold Cu;rw [if_neg om,if_pos hop]
  replace kk:=kk0 e;clear kk0;have hA:A<8:=g.a (by rcases hop with rfl | rfl<;>rfl);have hB:B<8:=g.b (by rcases hop with rfl | rfl<;>rfl);have hwl:=zP (op:=op) (A:=A) (B:=B) (C:=C) ⟨p.l3,p.l5⟩ hx;clear set sr e;rcases hop with rfl | rfl<;>(
   refine Aa aMw (by simp [Qh]) λwf rp=>?_;unfold Qh;simp (disch:=omega)only[go_sem, *];refine zO (by decide) hA hB gc p1.gp p.l3 p1.np.1 p1.sa hi p1.lim bp1 p.da.1 hx.1 (BH hx.2) (λh' x' g' s'=>?_);have fin:=kk h' (wr1.trans x' (λj _ e=>e.elim (λe=>.inr (.inr e)) .inl)) (p1.setM x' g' s' (by simp) (Hs p.l4 hwl.1) hwl.2.1 hwl.2.2);clear kk x' s' p1 wr1 p g';simp (disch:=omega)only[go_sem, *])
 .have im:=SU (x:=⟨8,A,B,C⟩) ⟨by simp;omega,by simp;omega,by simp;omega⟩;have ei:Kv ⟨8,A,B,C⟩=256*B+C:=rfl;rw [ei] at im;have sp:=λv=>ST.setpc (v:=v) hx.1;have he:=ST.len hx.1;have e8:=ST.at8 hx.1;have hle:h.lim<=Ap a:=by omega
  clear ei;have e:Cu c k q s t i 8 A B C=(0,0,{ s with all:=s.all.set i ⟨(nth s.all i).r,256*B+C⟩ },q):=rfl;replace kk:=kk0 e;clear kk0;have fin:=kk _ (wr1.put (.inr (.inr (.inr rfl)))) (p1.setA ((Wr.refl (I:=(·=Ap a))).put (.inr rfl)) (set _ X1 ⟨(nth s.all i).r,256*B+C⟩) (by simp) (Hs p.l4 ⟨hx.1,hx.2⟩));clear kk p1 wr1 p set e X1;refine Aa aMw (by simp [Qh]) λwf rp=>?_;unfold Qh;simp (disch:=omega)only[go_sem, *];refine Pf.go (im) (by simp only [go_sem]) λ_=>?_;simp (disch:=omega)only[go_sem, *]
 .have im:=SU (x:=⟨9,A,B,C⟩) ⟨by simp;omega,by simp;omega,by simp;omega⟩;have ei:Kv ⟨9,A,B,C⟩=256*B+C:=rfl;rw [ei] at im;have sp:=λv=>ST.setpc (v:=v) hx.1;have he:=ST.len hx.1;have e8:=ST.at8 hx.1;have hle:h.lim<=Ap a:=by omega
  clear ei;have hA:A<8:=g.a rfl;have eA:=ST.reg hx.1 hA;have hA8:A<=8:=by omega
  have m1:∀ n:Nat,n*1=n:=Nat.mul_one;have e:Cu c k q s t i 9 A B C=(0,0,if nth (nth s.all i).r A=0 then { s with all:=s.all.set i ⟨(nth s.all i).r,256*B+C⟩ } else s,q):=rfl;replace kk:=kk0 e;clear kk0
  by_cases hz:nth (nth s.all i).r A=0
  .rw [if_pos hz] at kk;have fin:=kk _ (wr1.put (.inr (.inr (.inr rfl)))) (p1.setA ((Wr.refl (I:=(·=Ap a))).put (.inr rfl)) (set _ X1 ⟨(nth s.all i).r,256*B+C⟩) (by simp) (Hs p.l4 ⟨hx.1,hx.2⟩));clear kk p1 wr1 p set e X1;refine Aa aMw (by simp [Qh]) λwf rp=>?_;unfold Qh;simp (disch:=omega)only[go_sem, *];refine Pf.go (im) (by simp only [go_sem]) λ_=>?_;simp (disch:=omega)only[go_sem, *]
  .rw [if_neg hz] at kk;have fin:=kk _ wr1 p1;clear kk p1 wr1 p set e X1;refine Aa aMw (by simp [Qh]) λwf rp=>?_;unfold Qh;simp (disch:=omega)only[go_sem, *]
 .have hA:A<8:=g.a rfl;have eA:=ST.reg hx.1 hA;have hu:=BH (i:=A) hx.2;have hA8:A<=8:=by omega
  have m1:∀ n:Nat,n*1=n:=Nat.mul_one;have he:=ST.len hx.1;have hip:i<s.procs.length:=by rw [<- p.l2];exact hi
  have e:Cu c k q s t i 10 A B C=(0,0,{ s with procs:=s.procs.set i { nth s.procs i with wake:=t+nth (nth s.all i).r A+1 } },q):=rfl;replace kk:=kk0 e;clear kk0;clear set e;refine Aa aMw (by simp [Qh]) λwf rp=>?_;unfold Qh;simp (disch:=omega)only[go_sem, *];refine eF p1.gt p1.sw hip p1.lim p.dw.2.1 ?_;intro h' x' s';have fin:=kk h' (wr1.trans x' (λj _ e=>.inr (.inl e))) (p1.setW x' s' (by simp));clear kk p1 wr1 p x' s';simp (disch:=omega)only[go_sem, *]
 .have hip:i<s.procs.length:=by rw [<- p.l2];exact hi
  have e:Cu c k q s t i 17 A B C=(0,0,{ s with procs:=s.procs.set i { nth s.procs i with ended:=true } },q):=rfl;replace kk:=kk0 e;clear kk0;clear set e;refine Aa aMw (by simp [Qh]) λwf rp=>?_;unfold Qh;simp (disch:=omega)only[go_sem, *];refine uL p1.gt p1.sw hip p1.lim p.dw.2.1 ?_;intro h' x' s';have fin:=kk h' (wr1.trans x' (λj _ e=>.inr (.inl e))) (p1.setW x' s' (by simp));clear kk p1 wr1 p x' s';simp (disch:=omega)only[go_sem, *]
 .have e:Cu c k q s t i op A B C=((AW c k q op A B (nth s.all i)).1,(AW c k q op A B (nth s.all i)).2.1,{ s with all:=s.all.set i (AW c k q op A B (nth s.all i)).2.2.1 },(AW c k q op A B (nth s.all i)).2.2.2):=by unfold Cu;rw [if_neg om,if_neg om,if_neg om,if_neg om,if_neg om,if_neg om,if_pos hop]
  rw [e] at kk;have r1:=ok.keep (J:=λ_=>False) r (Wr.refl.alloc (k:=⟨4,[[.i .i64 op,.i .i64 A,.i .i64 B,.i .i64 C]]⟩)) (λ_ _ e=>e);clear kk0 set e X1;have hop2:=hop;rcases hop with rfl | rfl | rfl | rfl<;>(
   refine Aa aMw (by simp [Qh]) λwf rp=>?_;unfold Qh;simp (disch:=omega)only[go_sem, *];refine pM ok p1 hi g hop2 r1 dj (λh' I' x r' i' p'=>?_);have fin:=kk h' I' (Wr.trans (wr1.mono λ_ e=>.inl e) x (λj _ e=>e.imp (λe=>.inr (.inr e)) (λz=>z))) r' (λj e=>(i' j e).imp (λz=>z) (λz=>Nat.le_of_succ_le z)) p';clear kk p1 wr1 p r1 x r' i' p';simp (disch:=omega)only[go_sem, *])
 .have e:Cu c k q s t i 0 A B C=(0,0,s,q):=rfl;replace kk:=kk0 e;clear kk0;have fin:=kk _ wr1 p1;clear kk p1 wr1 p set e X1;refine Aa aMw (by simp [Qh]) λwf rp=>?_;unfold Qh;simp (disch:=omega)only[go_sem, *]
end
end Go.Ab.T
namespace Go.Ab.T
open Go Go.Ab
set_option maxHeartbeats 8000000
def Ip (L:List Bl):List ST:=L.map λx=>⟨List.replicate 8 0,x.entry⟩
def Fw (c:PC) (s:PS):PS:={ s with procs:=Be s.procs,all:=Ip (nth c.c.parts c.p).procs,mem:=List.replicate 16 0 }
theorem aY6:∀ (m:List Int),m.length=16->((((((((((((((((m.set 0 0).set 1 0).set 2 0).set 3 0).set 4 0).set 5 0).set 6 0).set 7 0).set 8 0).set 9 0).set 10 0).set 11 0).set 12 0).set 13 0).set 14 0).set 15 0)=List.replicate 16 0:=by
 intro m hm;refine List.ext_getElem (by simp [hm]) λi h1 h2=>?_;have:i=0\/i=1\/i=2\/i=3\/i=4\/i=5\/i=6\/i=7\/i=8\/i=9\/i=10\/i=11\/i=12\/i=13\/i=14\/i=15:=by simp [hm] at h1;omega
 rcases this with rfl | rfl | rfl | rfl | rfl | rfl | rfl | rfl | rfl | rfl | rfl | rfl | rfl | rfl | rfl | rfl<;>simp [List.getElem_set]
theorem bA2 {c:PC} {tb lg:Nat} {a:V} {m:List Int} {clk:Int} (hm:m.length=16):over (AG c tb lg a m clk) 8 [.i .u32 0,.i .u32 0,.i .u32 0,.i .u32 0,.i .u32 0,.i .u32 0,.i .u32 0,.i .u32 0,.i .u32 0,.i .u32 0,.i .u32 0,.i .u32 0,.i .u32 0,.i .u32 0,.i .u32 0,.i .u32 0]=AG c tb lg a (List.replicate 16 0) clk:=by
 have st:∀ (m:List Int) (j:Nat),m.length=16->j<16->(AG c tb lg a m clk).set (8+j) (.i .u32 0)=AG c tb lg a (m.set j 0) clk:=λm j h hj=>AG.sm h hj;simp only [over];rw [<- aY6 m hm];rw [st m 0 hm (by decide),st _ 1 (by simp [hm]) (by decide),st _ 2 (by simp [hm]) (by decide),st _ 3 (by simp [hm]) (by decide),st _ 4 (by simp [hm]) (by decide),st _ 5 (by simp [hm]) (by decide),st _ 6 (by simp [hm]) (by decide),st _ 7 (by simp [hm]) (by decide),st _ 8 (by simp [hm]) (by decide),st _ 9 (by simp [hm]) (by decide),st _ 10 (by simp [hm]) (by decide),st _ 11 (by simp [hm]) (by decide),st _ 12 (by simp [hm]) (by decide),st _ 13 (by simp [hm]) (by decide),st _ 14 (by simp [hm]) (by decide),st _ 15 (by simp [hm]) (by decide)]
section
variable {b pp tb lg:Nat} {h:AH} {w a:V} {c:PC} {P:List PR} {L:List Bl} {mem:List Int} {clk:Int}
theorem oY {K : Ex -> Env -> AH -> Prop} {e : Env} {h1 : AH} (hL : L.length <= 3) (gp : h1.get pp = some ⟨26, [AG c tb lg .ns mem clk]⟩) (hm : mem.length = 16) (hpn : pp < h1.next) (hlp : h1.lim <= pp) (hll : h1.lim <= h1.next) (e0 : e 0 = .p pp 0 0) (e23 : e 23 = .fl 2 (L.map Bl.enc)) (e24 : e 24 = .i .i64 L.length) (e25 : e 25 = .i .i64 0)
    (kk:∀ (e:Env) (h':AH) (a:V),Wr h1 (·=pp) h'->h'.get pp=some ⟨26,[AG c tb lg a mem clk]⟩->Sl h1.next h' 9 a ((Ip L).map ST.enc)->e 0=.p pp 0 0->K (.ex 0) e h'):ZC tp (.loop aQs) e h1 K:=by
 refine Ai (λn' e hh=>∃ (i:Nat) (a:V),n'=L.length - i/\Wr h1 (·=pp) hh/\hh.get pp=some ⟨26,[AG c tb lg a mem clk]⟩/\Sl h1.next hh 9 a ((Ip (L.take i)).map ST.enc)/\e 0=.p pp 0 0/\e 23=.fl 2 (L.map Bl.enc)/\e 24=.i .i64 L.length/\e 25=.i .i64 i/\i<=L.length) ?_ _ _ _ ⟨0,.ns,rfl,Wr.refl,gp,Sl.nil _ _ _,e0,e23,e24,e25,om⟩;clear e0 e23 e24 e25 gp e;rintro n' e hh ⟨i,a,rfl,x,gp,s,e0,e23,e24,e25,hi⟩ ih;have hlm:=x.lim;have hnx:=x.next;have hsv:=Sl.sameV s;have hown:=Au s;obtain ⟨_,_,_,_,_,_,_,sc1,sc2⟩:=s.facts;have f7:=AG.f7 (c:=c) (tb:=tb) (lg:=lg) (a:=a) (mem:=mem) (clk:=clk);have rl:=AG.len (c:=c) (tb:=tb) (lg:=lg) (a:=a) (clk:=clk) hm;rw [Ao aQs.eq_1];simp (disch:=omega)only[go_sem, *];refine Ad (λhc=>?_) (λhc=>?_)
 .have hN:Ip (L.take (i+1))=Ip (L.take i)++[⟨List.replicate 8 0,(nth L i).entry⟩]:=by
   rw [Db om];unfold Ip;rw [List.map_append];rfl
  have hln:(Ip (L.take i)).length=i:=by unfold Ip;rw [List.length_map,List.length_take];omega
  have eN:ST.enc ⟨List.replicate 8 0,(nth L i).entry⟩=[.i .u32 0,.i .u32 0,.i .u32 0,.i .u32 0,.i .u32 0,.i .u32 0,.i .u32 0,.i .u32 0,.i .i64 (nth L i).entry]:=rfl;have X1:Ak hh (((hh.alloc ⟨2,[[.i .i64 0,.i .i64 0]]⟩).put hh.next ⟨2,[[.i .i64 (nth L i).entry,.i .i64 (nth L i).prio]]⟩).alloc ⟨9,[[.i .u32 0,.i .u32 0,.i .u32 0,.i .u32 0,.i .u32 0,.i .u32 0,.i .u32 0,.i .u32 0,.i .i64 (nth L i).entry]]⟩):=by (repeat (first | exact Ak.refl _ | refine Ak.alloc ?_ _ | (refine Ak.put ?_ _ _ ?_;rotate_left;(first | omega | (simp only [Ac,Ah];omega)))))
  simp (disch:=omega)only[go_sem, *];refine Av (N:=[[.i .u32 0,.i .u32 0,.i .u32 0,.i .u32 0,.i .u32 0,.i .u32 0,.i .u32 0,.i .u32 0,.i .i64 (nth L i).entry]]) (s.ext X1) ?_ ?_ ?_ ?_
  .simp (disch:=omega)only[go_sem, *]
  .simp (disch:=omega)only[go_sem, *]<;>omega
  .simp;omega
  intro v h4 s4 g4;rw [<- eN] at s4;obtain ⟨k1,k2,k3,k4⟩:=Gy (bx:=pp) X1 g4 s4 om (hown.imp (λz=>z) (λz=>by omega));have gp4:=k1.trans gp;have s7:=λv=>AG.s7 (c:=c) (tb:=tb) (lg:=lg) (a:=a) (mem:=mem) (clk:=clk) (a':=v);have s5:Sl h1.next (h4.put pp ⟨26,[AG c tb lg v mem clk]⟩) 9 v ((Ip (L.take (i+1))).map ST.enc):=by
   rw [hN,List.map_append];exact AC s4 _ _ (.inr (λe=>k2 e.symm))
  have x5:Wr h1 (·=pp) (h4.put pp ⟨26,[AG c tb lg v mem clk]⟩):=by
   refine Wr.put ?_ (.inr rfl);exact ⟨om,k4.trans hlm,λj hj hne=>(g4.low j hj).trans ((X1.get j om).trans (x.get j hj hne))⟩
  have c1:=g4.cell;have c2:=g4.cells;clear X1 g4 s4 s x eN hN k1;simp (disch:=omega)only[go_sem, *];refine ih _ _ _ ?_ ⟨i+1,v,rfl,x5,by rw [Ae,Ar rfl],s5, ?_⟩
  .omega
  .clear ih kk s5 x5;simp (disch:=omega)only[go_sem, *];omega
 .obtain rfl:i=L.length:=by omega
  rw [List.take_length] at s;simp (disch:=omega)only[go_sem, *];exact kk _ hh a x gp s e0
theorem OF {K : V -> AH -> Prop} (gp : h.get pp = some ⟨26, [AG c tb lg a mem clk]⟩) (hm : mem.length = 16) (gt : h.get tb = some ⟨1, [[w]]⟩) (sw : Sl b h 3 w (P.map PR.enc)) (lim : h.lim <= b) (bp : b <= pp) (d : pp ≠ tb) (dw : Ap w ≠ tb) (dw2 : Ap w ≠ pp) (np : pp < h.next) (hp : c.p < c.c.parts.length) (hL : (nth c.c.parts c.p).procs.length <= 3)
    (kk:∀ h' a',Wr h (λj=>j=pp\/j=Ap w) h'->h'.get pp=some ⟨26,[AG c tb lg a' (List.replicate 16 0) clk]⟩->Sl b h' 3 w ((Be P).map PR.enc)->Sl h.next h' 9 a' ((Ip (nth c.c.parts c.p).procs).map ST.enc)->K (.tup []) h'):Cq tp ZF [.p pp 0 0] h K:=by
 have f6:=AG.f6 (c:=c) (tb:=tb) (lg:=lg) (a:=a) (mem:=mem) (clk:=clk);have rl:=λa=>AG.len (c:=c) (tb:=tb) (lg:=lg) (a:=a) (clk:=clk) hm;have s7:=AG.s7 (c:=c) (tb:=tb) (lg:=lg) (a:=a) (mem:=mem) (clk:=clk) (a':=.ns);have f0:=AG.f0 (c:=c) (tb:=tb) (lg:=lg) (a:=.ns) (mem:=mem) (clk:=clk);have f3:=AG.f3 (c:=c) (tb:=tb) (lg:=lg) (a:=.ns) (mem:=mem) (clk:=clk);refine Aa aMt (by simp [Qe]) λwf rp=>?_;have hll:=wf.1;unfold Qe;simp (disch:=omega)only[go_sem, *];refine WV gt sw lim dw ?_;intro h1 x1 s1;have g1:=(x1.get _ np (λe=>dw2 e.symm)).trans gp;have l1:=x1.lim;have n1:=x1.next;simp (disch:=omega)only[go_sem, *];have w1:Wr h (λj=>j=pp\/j=Ap w) (h1.put pp ⟨26,[AG c tb lg .ns mem clk]⟩):=Wr.put ⟨x1.next,x1.lim,λj hj hn=>x1.get j hj (λe=>hn (.inr e))⟩ (.inr (.inl rfl));have s3:=AC s1 pp ⟨26,[AG c tb lg .ns mem clk]⟩ (.inr (λe=>dw2 e.symm));refine oY (pp:=pp) (c:=c) (tb:=tb) (lg:=lg) (mem:=mem) (clk:=clk) hL ?_ hm ?_ ?_ ?_ ?_ ?_ ?_ ?_ ?_
 .simp (disch:=omega)only[go_sem, *]
 .simp (disch:=omega)only[go_sem, *]<;>omega
 .simp (disch:=omega)only[go_sem, *]<;>omega
 .simp (disch:=omega)only[go_sem, *]<;>omega
 .simp (disch:=omega)only[go_sem, *]
 .simp (disch:=omega)only[go_sem, *]
 .simp (disch:=omega)only[go_sem, *]
 .simp (disch:=omega)only[go_sem, *]
 intro e h2 a2 x2 g2 s2 e0;have l2:=x2.lim;have w2:=w1.trans x2 (λj _ e=>.inl e);have s4:=BZ s3 x2 (.inr dw2);have wp:∀ v,((((((((((((((((AG c tb lg v mem clk).set 8 (.i .u32 0)).set 9 (.i .u32 0)).set 10 (.i .u32 0)).set 11 (.i .u32 0)).set 12 (.i .u32 0)).set 13 (.i .u32 0)).set 14 (.i .u32 0)).set 15 (.i .u32 0)).set 16 (.i .u32 0)).set 17 (.i .u32 0)).set 18 (.i .u32 0)).set 19 (.i .u32 0)).set 20 (.i .u32 0)).set 21 (.i .u32 0)).set 22 (.i .u32 0)).set 23 (.i .u32 0)=AG c tb lg v (List.replicate 16 0) clk:=λv=>bA2 hm;have f:=kk (h2.put pp ⟨26,[AG c tb lg a2 (List.replicate 16 0) clk]⟩) a2 (w2.put (.inr (.inl rfl))) (by rw [Ae,Ar rfl]) (AC s4 _ _ (.inr (λe=>dw2 e.symm))) (by
  have n2:h.next<=(h1.put pp ⟨26,[AG c tb lg .ns mem clk]⟩).next:=n1;exact AC (Sl.weak s2 n2) _ _ ((Au s2).imp (λz=>z) (λz=>by have:h.next<=Ap a2:=Nat.le_trans n2 z;omega)))
 rw [El] at l2;clear kk w1 w2 s1 s3 s4 x1 x2 s2 sw;simp (disch:=omega)only[go_sem, *];exact f
end
end Go.Ab.T
namespace Go.Ab.T
open Go Go.Ab
set_option maxHeartbeats 8000000
def PC.act (c:PC) (k:Int):Int:=GP c.h0 c.h1 c.h2 c.h3 c.h4 k
def Cb (s:PS) (i:Nat) (n:Int):PS:={ s with all:=s.all.set i ⟨(nth s.all i).r,n⟩ }
def Bw (c:PC) (s:PS) (t:Int) (i:Nat) (pc k:Int):PS:=
 let s1:={ Cb s i pc with fl:=s.fl++[⟨t,i,k⟩],halt:=decide (c.act k=2) }
 if c.act k=0 then Cb s1 i (IntKind.wrap .i64 (pc+4)) else if c.act k=1 then Fw c s1 else s1
structure PG (c:PC):Prop where
 p:c.p<c.c.parts.length
 l:1<=(nth c.c.parts c.p).procs.length/\(nth c.c.parts c.p).procs.length<=3
section
variable {b pp tb lg i:Nat} {h h':AH} {w a f:V} {c:PC} {s:PS} {t pc k:Int}
theorem PA.setF {F:List FT} {f':V} {st:Bool} (p:PA b h pp tb lg w a f c s) (x:Wr h (λj=>j=lg\/(AA f=false/\j=Ap f)) h') (gl:h'.get lg=some ⟨7,[[.i .i64 c.h0,.i .i64 c.h1,.i .i64 c.h2,.i .i64 c.h3,.i .i64 c.h4,f',.b st]]⟩) (sf:Sl b h' 3 f' (F.map FT.enc)) (hne:Ap f'≠lg) (ho:(AA f=false/\Ap f'=Ap f)\/h.next<=Ap f') (hl:F.length<=s.clk):PA b h' pp tb lg w a f' c { s with fl:=F,halt:=st }:=by
 obtain ⟨d1,d2,d3⟩:=p.d;obtain ⟨w1,w2,w3⟩:=p.dw;obtain ⟨a1,a2,a3,a4⟩:=p.da;have ff:AA f=false->Ap f≠pp/\Ap f≠tb/\Ap f≠lg/\Ap f≠Ap w/\Ap f≠Ap a:=λq=>p.df.resolve_left (by rw [q];decide);have nw:¬ (Ap w=lg\/(AA f=false/\Ap w=Ap f)):=λe=>e.elim w3 (λe=>(ff e.1).2.2.2.1 e.2.symm);have na:¬ (Ap a=lg\/(AA f=false/\Ap a=Ap f)):=λe=>e.elim a3 (λe=>(ff e.1).2.2.2.2 e.2.symm);have lw:=Dw p.sw;have la:=Dw p.sa;have lnw:AA w=false:=by
  have:=p.l1.1;rcases p.sw with ⟨_,z⟩ | ⟨_,_,_,_,rfl,_⟩
  .rw [List.map_eq_nil_iff.1 z] at this;cases this
  .rfl
 have lna:AA a=false:=by
  have:=p.l1.1;rcases p.sa with ⟨_,z⟩ | ⟨_,_,_,_,rfl,_⟩
  .rw [<- p.l2,List.map_eq_nil_iff.1 z] at this;cases this
  .rfl
 have lw:=lw.resolve_left (by rw [lnw];decide);have la:=la.resolve_left (by rw [lna];decide);have np:=p.np;refine ⟨(x.get _ p.np.1 (λe=>e.elim d2 (λe=>(ff e.1).1 e.2.symm))).trans p.gp,(x.get _ p.np.2.1 (λe=>e.elim d3 (λe=>(ff e.1).2.1 e.2.symm))).trans p.gt,gl,
  BZ p.sw x (.inr nw),BZ p.sa x (.inr na),sf,by rw [x.lim];exact p.lim,p.bp,⟨Nat.lt_of_lt_of_le p.np.1 x.next,Nat.lt_of_lt_of_le p.np.2.1 x.next,Nat.lt_of_lt_of_le p.np.2.2 x.next⟩,p.d,p.dw,p.da,.inr ?_,p.l1,p.l2,p.l3,p.l4,p.l5,⟨hl,p.l6.2⟩⟩
 rcases ho with ⟨q,e⟩ | e
 .rw [e];exact ff q
 .exact ⟨om,om,hne,om,om⟩
theorem PA.setB {L:List Bl} {a':V} (p:PA b h pp tb lg w a f c s) (x:Wr h (λj=>j=pp\/j=Ap w) h') (gp:h'.get pp=some ⟨26,[AG c tb lg a' (List.replicate 16 0) s.clk]⟩) (sw:Sl b h' 3 w ((Be s.procs).map PR.enc)) (sa:Sl h.next h' 9 a' ((Ip L).map ST.enc)) (hL:L.length=s.procs.length):PA b h' pp tb lg w a' f c { s with procs:=Be s.procs,all:=Ip L,mem:=List.replicate 16 0 }:=by
 obtain ⟨d1,d2,d3⟩:=p.d;obtain ⟨w1,w2,w3⟩:=p.dw;have np:=p.np;have bp:=p.bp;have lw:Ap w<h.next:=by
  have:=p.l1.1;rcases p.sw with ⟨_,z⟩ | ⟨_,_,_,_,rfl,_,_,_,_,q,_⟩
  .rw [List.map_eq_nil_iff.1 z] at this;cases this
  .exact q
 have lf:=Dw p.sf;have la:h.next<=Ap a':=(Au sa).resolve_left (by
  have:=p.l1.1;rcases sa with ⟨_,z⟩ | ⟨_,_,_,_,rfl,_⟩
  .have z:=congrArg List.length z;simp [Ip] at z;rw [<- hL,z] at this;cases this
  .simp [AA])
 refine ⟨gp,(x.get _ np.2.1 (λe=>e.elim (λe=>d1 e.symm) (λe=>w2 e.symm))).trans p.gt,(x.get _ np.2.2 (λe=>e.elim (λe=>d2 e.symm) (λe=>w3 e.symm))).trans p.gl,sw,Sl.weak sa om,BZ p.sf x (p.df.imp (λz=>z) (λz e=>e.elim z.1 z.2.2.2.1)),by rw [x.lim];exact p.lim,bp,⟨Nat.lt_of_lt_of_le np.1 x.next,Nat.lt_of_lt_of_le np.2.1 x.next,Nat.lt_of_lt_of_le np.2.2 x.next⟩,p.d,p.dw,⟨om,om,om,om⟩, ?_,by simpa [Be] using p.l1,by simp [Ip,Be,hL],by simp,λy hy=>?_,λz hz=>?_,p.l6⟩
 .rcases p.df with z | z
  .exact .inl z
  .rcases lf with q | q
   .exact .inl q
   .exact .inr ⟨z.1,z.2.1,z.2.2.1,z.2.2.2.1,om⟩
 .unfold Ip at hy;obtain ⟨q,_,rfl⟩:=List.mem_map.1 hy;exact ⟨by simp,λz hz=>by rw [(List.mem_replicate.1 hz).2];omega⟩
 .rw [(List.mem_replicate.1 hz).2];omega
theorem PA.low (p:PA b h pp tb lg w a f c s):b<=Ap w/\b<=Ap a/\(AA f=true\/b<=Ap f):=by
 have l1:=p.l1.1;refine ⟨(Au p.sw).resolve_left ?_,(Au p.sa).resolve_left ?_,Au p.sf⟩
 .rcases p.sw with ⟨_,z⟩ | ⟨_,_,_,_,rfl,_⟩
  .rw [List.map_eq_nil_iff.1 z] at l1;cases l1
  .simp [AA]
 .rcases p.sa with ⟨_,z⟩ | ⟨_,_,_,_,rfl,_⟩
  .rw [<- p.l2,List.map_eq_nil_iff.1 z] at l1;cases l1
  .simp [AA]
theorem Wr.to {I:Nat->Prop} {b:Nat} {h h':AH} (x:Wr h I h') (hI:∀ j,I j->b<=j):Wr h (b<=·) h':=⟨x.next,x.lim,λj hj hn=>x.get j hj (λe=>hn (hI j e))⟩
def IP (pp lg:Nat) (w a f:V) (j:Nat):Prop:=j=pp\/j=lg\/j=Ap w\/j=Ap a\/(AA f=false/\j=Ap f)
structure Pt (pp lg:Nat) (w:V) (h:AH) (a f:V) (h':AH) (a' f':V):Prop where
 w:Wr h (IP pp lg w a f) h'
 a:Ap a'=Ap a\/h.next<=Ap a'
 f:AA f'=true\/(AA f=false/\Ap f'=Ap f)\/h.next<=Ap f'
theorem Pt.ip {j:Nat} {h':AH} {a' f':V} (x:Pt pp lg w h a f h' a' f') (hj:j<h.next) (e:IP pp lg w a' f' j):IP pp lg w a f j:=by
 have:=x.a;have:=x.f;rcases e with e | e | e | e | ⟨e1,e⟩
 .exact .inl e
 .exact .inr (.inl e)
 .exact .inr (.inr (.inl e))
 .exact .inr (.inr (.inr (.inl om)))
 .rcases this with q | q | q
  .rw [e1] at q;cases q
  .exact .inr (.inr (.inr (.inr ⟨q.1,om⟩)))
  .omega
theorem Pt.trans {h1 h2:AH} {a1 f1 a2 f2:V} (x:Pt pp lg w h a f h1 a1 f1) (y:Pt pp lg w h1 a1 f1 h2 a2 f2):Pt pp lg w h a f h2 a2 f2:=by
 have n:=x.w.next;refine ⟨x.w.trans y.w (λj hj e=>x.ip hj e), ?_, ?_⟩
 .rcases y.a with q | q
  .rcases x.a with r | r
   .exact .inl (q.trans r)
   .exact .inr om
  .exact .inr om
 .rcases y.f with q | q | q
  .exact .inl q
  .rcases x.f with r | r | r
   .rw [q.1] at r;cases r
   .exact .inr (.inl ⟨r.1,q.2.trans r.2⟩)
   .exact .inr (.inr om)
  .exact .inr (.inr om)
theorem Pt.same {h':AH} (x:Wr h (IP pp lg w a f) h'):Pt pp lg w h a f h' a f:=⟨x,.inl rfl,by cases q:AA f;exact .inr (.inl ⟨rfl,rfl⟩);exact .inl rfl⟩
theorem S7 (p:PA b h pp tb lg w a f c s) {n:Int} (hi:i<s.all.length) {h1:AH} (X:Ak h h1):PA b (h1.put (Ap a) ⟨9,(AP h a).set (Ca a+i) (ST.enc ⟨(nth s.all i).r,n⟩)⟩) pp tb lg w a f c (Cb s i n):=by
 have q:=C0 p.sa hi;have hx:=p.l4 _ (Az hi);exact (p.ext X).setA (Wr.put Wr.refl (.inr rfl)) (q.set _ X _) (by simp) (Hs p.l4 ⟨hx.1,hx.2⟩)
theorem Kg {op v : Int} {K : V -> AH -> Prop} (p : PA b h pp tb lg w a f c s) (g : PG c) (hi : i < s.all.length) (hs : s.halt = false) (hl : s.fl.length + 1 <= s.clk) (hpl : (nth c.c.parts c.p).procs.length = s.procs.length)
    (kk:∀ h' a' f',Pt pp lg w h a f h' a' f'->PA b h' pp tb lg w a' f' c (Bw c s t i pc k)->K (.tup []) h'):Cq tp ZI [.p pp 0 0,.agg [.i .i64 t,.i .i64 i,.i .i64 pc,.i .i64 op,.i .i64 k,.i .u32 v],.i .i64 i] h K:=by
 obtain ⟨sg,sr,slt,slo,sat,set⟩:=C0 p.sa hi;have hx:=p.l4 _ (Az hi);have gp:=p.gp;obtain ⟨np1,np2,np3⟩:=p.np;obtain ⟨bp1,bp2,bp3⟩:=p.bp;have hlim:=p.lim;have hle:h.lim<=Ap a:=by omega
 have at0:=sat (AP h a)
 have f7:=AG.f7 (c:=c) (tb:=tb) (lg:=lg) (a:=a) (mem:=s.mem) (clk:=s.clk);have f24:=AG.f24 (c:=c) (tb:=tb) (lg:=lg) (a:=a) (mem:=s.mem) (clk:=s.clk) p.l3;have rl:=AG.len (c:=c) (tb:=tb) (lg:=lg) (a:=a) (clk:=s.clk) p.l3;have he:=ST.len hx.1;have sp:=λv=>ST.setpc (v:=v) hx.1;have X1:Ak h (h.alloc ⟨6,[[.i .i64 t,.i .i64 i,.i .i64 pc,.i .i64 op,.i .i64 k,.i .u32 v]]⟩):=by (repeat (first | exact Ak.refl _ | refine Ak.alloc ?_ _ | (refine Ak.put ?_ _ _ ?_;rotate_left;(first | omega | (simp only [Ac,Ah];omega)))))
 have p1:=S7 p (n:=pc) hi X1;have wr1:Wr h (IP pp lg w a f) ((h.alloc ⟨6,[[.i .i64 t,.i .i64 i,.i .i64 pc,.i .i64 op,.i .i64 k,.i .u32 v]]⟩).put (Ap a) ⟨9,(AP h a).set (Ca a+i) (ST.enc ⟨(nth s.all i).r,pc⟩)⟩):=(Wr.refl.alloc).put (.inr (.inr (.inr (.inr (.inl rfl)))));have da:=p.da;have pgl:=p1.gl;have hs1:(Cb s i pc).halt=s.halt:=rfl;rw [hs1,hs] at pgl;have g6:((h.alloc ⟨6,[[.i .i64 t,.i .i64 i,.i .i64 pc,.i .i64 op,.i .i64 k,.i .u32 v]]⟩).put (Ap a) ⟨9,(AP h a).set (Ca a+i) (ST.enc ⟨(nth s.all i).r,pc⟩)⟩).get h.next=some ⟨6,[[.i .i64 t,.i .i64 i,.i .i64 pc,.i .i64 op,.i .i64 k,.i .u32 v]]⟩:=by rw [Ae,Af om,AD,Ar rfl]
 have gpp:=p1.gp;have em:(Cb s i pc).mem=s.mem:=rfl;have ek:(Cb s i pc).clk=s.clk:=rfl;rw [em,ek] at gpp;clear em ek;have lf:=Dw p.sf;have ef:(Cb s i pc).fl=s.fl:=rfl;have hlk:s.fl.length<4000000000:=by have:=p.l6;omega
 refine Aa aMx (by simp [Qi]) λwf rp=>?_;unfold Qi;simp (disch:=omega)only[go_sem, *];refine Zw (t:=t) (p:=i) (k:=k) pgl p1.sf p1.lim bp3 p1.np.2.2 (p1.df.imp (λz=>z) (λz=>z.2.2.1)) hlk ?_;intro h2 f2 x2 gl2 sf2 d2 o2;have p2:=p1.setF x2 gl2 sf2 d2 o2 (by rw [ef,List.length_append];simp only [List.length_cons,List.length_nil];show ((s.fl.length+1:Nat):Int)<=s.clk;omega);have pl:=p1.low;have wr2:Wr h (IP pp lg w a f) h2:=wr1.trans x2 (λj _ e=>e.elim (λe=>.inr (.inl e)) (λe=>.inr (.inr (.inr (.inr e)))));have pt2:Pt pp lg w h a f h2 a f2:=⟨wr2,.inl rfl,.inr (o2.imp (λz=>z) (λz=>by have:h.next+1<=Ap f2:=z;omega))⟩
 have g62:=(x2.get h.next (by show h.next<h.next+1;omega) (λe=>e.elim (λe=>by omega) (λe=>by have:=lf.resolve_left (by rw [e.1];decide);omega))).trans g6;have gp2:h2.get pp=some ⟨26,[AG c tb lg a s.mem s.clk]⟩:=p2.gp;have eact:GP c.h0 c.h1 c.h2 c.h3 c.h4 k=c.act k:=rfl;rw [eact] at p2 ⊢;rw [ef] at p2;clear x2 gl2 sf2 d2 o2 g6 pgl p1 wr1 gpp sg sr set X1;have efr:Bw c s t i pc k=(if c.act k=0 then Cb { Cb s i pc with fl:=s.fl++[⟨t,i,k⟩],halt:=decide (c.act k=2) } i (IntKind.wrap .i64 (pc+4)) else if c.act k=1 then Fw c { Cb s i pc with fl:=s.fl++[⟨t,i,k⟩],halt:=decide (c.act k=2) } else { Cb s i pc with fl:=s.fl++[⟨t,i,k⟩],halt:=decide (c.act k=2) }):=rfl;rw [efr] at kk;clear efr eact ef;generalize c.act k=z at *;have hi2:i<({ Cb s i pc with fl:=s.fl++[⟨t,i,k⟩],halt:=decide (z=2) }:PS).all.length:=by simpa [Cb] using hi
 have q2:=C0 p2.sa hi2;have e2:nth ({ Cb s i pc with fl:=s.fl++[⟨t,i,k⟩],halt:=decide (z=2) }:PS).all i=⟨(nth s.all i).r,pc⟩:=by
  show nth (s.all.set i _) i=_;rw [Ba (by simpa using hi),List.getElem_set_self]
 have p3:=λn=>S7 p2 (n:=n) hi2 (Ak.refl h2);have r2:=q2.r;have gt2:=q2.g;have at2:=q2.at_ (AP h2 a);have l2:=p2.lim;rw [e2] at r2;rw [e2] at p3;have hx2:(⟨(nth s.all i).r,pc⟩:ST).r.length=8:=hx.1;have he2:=ST.len hx2;have sp2:=λv=>ST.setpc (v:=v) hx2;have hle2:h2.lim<=Ap a:=by omega
 have wr3:Wr h (IP pp lg w a f) (h2.put (Ap a) ⟨9,(AP h2 a).set (Ca a+i) (ST.enc ⟨(nth s.all i).r,IntKind.wrap .i64 (pc+4)⟩)⟩):=wr2.put (.inr (.inr (.inr (.inr (.inl rfl)))));simp (disch:=omega)only[go_sem, *];refine Ad (λhc=>?_) (λhc=>?_)
 .rw [if_pos hc] at kk;have fin:=kk _ a f2 ⟨wr3,pt2.a,pt2.f⟩ (p3 _);clear kk p p2 p3 wr2 wr3 q2 pt2;simp (disch:=omega)only[go_sem, *]
 .rw [if_neg hc] at kk;simp (disch:=omega)only[go_sem, *];refine Ad (λhc2=>?_) (λhc2=>?_)
  .rw [if_pos hc2] at kk;simp (disch:=omega)only[go_sem, *];refine OF p2.gp p2.l3 p2.gt p2.sw p2.lim bp1 p2.d.1 p2.dw.2.1 p2.dw.1 p2.np.1 g.p g.l.2 ?_;intro h3 a3 x3 gp3 sw3 sa3;have n3:¬ AA a3=true:=by
    have:=g.l.1;rcases sa3 with ⟨_,z⟩ | ⟨_,_,_,_,rfl,_⟩
    .have z:=congrArg List.length z;rw [List.length_map,Ip,List.length_map] at z;simp only [List.length_nil] at z;omega
    .simp [AA]
   have p4:=p2.setB x3 gp3 sw3 sa3 hpl;have fin:=kk h3 a3 f2 ⟨wr2.trans x3 (λj _ e=>e.elim .inl (λe=>.inr (.inr (.inl e)))),.inr ((Au sa3).resolve_left n3 |> Nat.le_trans wr2.next),pt2.f⟩ p4;clear kk p p2 p3 wr2 wr3 q2 pt2 p4 x3 gp3 sw3 sa3;simp (disch:=omega)only[go_sem, *]
  .rw [if_neg hc2] at kk;have fin:=kk h2 a f2 pt2 p2;clear kk p p2 p3 wr2 wr3 q2 pt2;simp (disch:=omega)only[go_sem, *]
end
end Go.Ab.T
namespace Go.Ab.T
open Go Go.Ab
set_option maxHeartbeats 8000000
structure Loc where
 t:Int
 proc:Int
 pc:Int
 op:Int
 fault:Int
 value:Int
 deriving DecidableEq,Inhabited
@[go_sem] def Loc.enc (x:Loc):List V:=[.i .i64 x.t,.i .i64 x.proc,.i .i64 x.pc,.i .i64 x.op,.i .i64 x.fault,.i .u32 x.value]
def sO (c:PC) (k:Kn) (q:k.σ) (s:PS) (n:Nat) (x:E7):Loc×PS×k.σ:=
 let d:=Cu c k q (Cb { s with clk:=s.clk+1 } n (IntKind.wrap .i64 ((nth s.all n).pc+4))) s.clk n x.op x.a.toNat x.b.toNat x.c.toNat
 if d.2.1=0 then (⟨s.clk,n,(nth s.all n).pc,x.op,0,d.1⟩,d.2.2.1,d.2.2.2) else (⟨s.clk,n,(nth s.all n).pc,x.op,d.2.1,0⟩,Bw c d.2.2.1 s.clk n (nth s.all n).pc d.2.1,d.2.2.2)
def E3 (c:PC) (k:Kn) (q:k.σ) (s:PS) (n:Nat):Loc×PS×k.σ:=
 let y:=Bo c.prog (nth s.all n).pc
 if y.2=false then (⟨s.clk,n,(nth s.all n).pc,y.1.op,2,0⟩,Bw c { s with clk:=s.clk+1 } s.clk n (nth s.all n).pc 2,q)
 else if EQ y.1=false then (⟨s.clk,n,(nth s.all n).pc,y.1.op,1,0⟩,Bw c { s with clk:=s.clk+1 } s.clk n (nth s.all n).pc 1,q)
 else sO c k q s n y.1
def Bn (c:PC) (k:Kn) (q:k.σ) (s:PS):Loc×Bool×PS×k.σ:=
 if s.halt=true then (⟨0,0,0,0,0,0⟩,false,s,q)
 else if DD s.procs s.clk<0 then (⟨s.clk,-1,0,0,0,0⟩,true,{ s with clk:=s.clk+1 },q)
 else ((E3 c k q s (DD s.procs s.clk).toNat).1,true,(E3 c k q s (DD s.procs s.clk).toNat).2)
theorem aOk {P:List PR} {R:List Nat} {j n:Nat} (hj:j<R.length) (h:∀ x∈R,x<n):∀ x∈W7 P R j,x<n:=by
 unfold W7;split
 .exact h
 .split
  .exact H9 om hj h
  .exact h
theorem Pr {P:List PR} {now:Int}:∀ (l:List PR) (i:Nat) (R:List Nat),(∀ x∈R,x<i)->∀ x∈CM P now l i R,x<i+l.length
 | [],_,_,h=>h
 | y::l,i,R,h=>by
  rw [CM,List.length_cons];intro x hx;have:=Pr l (i+1) _ (λz hz=>by
   split at hz
   .refine aOk (n:=i+1) (by simp) (λq hq=>?_) z hz;rcases List.mem_append.1 hq with q1 | q1
    .have:=h q q1;omega
    .rw [List.mem_singleton.1 q1];omega
   .have:=h z hz;omega) x hx
  omega
theorem U0 {P:List PR} {now:Int} (h:¬ DD P now<0):∃ n:Nat,DD P now=n/\n<P.length:=by
 unfold DD at *;split
 .rename_i q;rw [if_pos q] at h;omega
 .rename_i q;refine ⟨_,rfl, ?_⟩;have:=Pr P 0 [] (λx hx=>by cases hx) _ (Az (L:=CM P now P 0 []) (j:=0) om);omega
@[go_sem] theorem bBg:FD .ifc .ni .ni=some true:=rfl
@[go_sem] theorem bAR {t:Nat} {v:V}:FD .ifc (.ifc t v) .ni=some false:=rfl
section
variable {b pp tb lg:Nat} {h:AH} {w a f:V} {c:PC} {s:PS} {K:V->AH->Prop}
theorem KL (p:PA b h pp tb lg w a f c s) (kk:K (.b s.halt) h):Cq tp sY [.p pp 0 0] h K:=by
 have gp:=p.gp;have f24:=AG.f24 (c:=c) (tb:=tb) (lg:=lg) (a:=a) (mem:=s.mem) (clk:=s.clk) p.l3;have rl:=AG.len (c:=c) (tb:=tb) (lg:=lg) (a:=a) (clk:=s.clk) p.l3;refine Aa aAv (by simp [Tr]) λwf rp=>?_;unfold Tr;simp (disch:=omega)only[go_sem, *];refine O1 p.gl ?_;simp (disch:=omega)only[go_sem, *]
structure PN (c:PC):Prop where
 b:∀ z∈c.prog,0<=z/\z<256
 u:Ej c.ins
 ul:c.ins.length<4000000000
theorem PA.setC {h':AH} (p:PA b h pp tb lg w a f c s) (x:Wr h (·=pp) h') (gp:h'.get pp=some ⟨26,[AG c tb lg a s.mem (s.clk+1)]⟩) (hk:s.clk+1<3000000000):PA b h' pp tb lg w a f c { s with clk:=s.clk+1 }:=by
 obtain ⟨d1,d2,d3⟩:=p.d;have l6:=p.l6;have n:=x.next;obtain ⟨n1,n2,n3⟩:=p.np;exact ⟨gp,(x.get tb n2 d1.symm).trans p.gt,(x.get lg n3 d2.symm).trans p.gl,BZ p.sw x (.inr p.dw.1),BZ p.sa x (.inr p.da.1),BZ p.sf x (p.df.imp (λz=>z) (λz=>z.1)),x.lim▸p.lim,p.bp,om,p.d,p.dw,p.da,p.df,p.l1,p.l2,p.l3,p.l4,p.l5,⟨by show (s.fl.length:Int)<=s.clk+1;omega,hk⟩⟩
theorem Gh {b sz:Nat} {h:AH} {v:V} {R:List (List V)} (s:Sl b h sz v R):AA v=true\/Ap v<h.next:=by
 rcases s with ⟨hv,_⟩ | ⟨i,el,cap,cs,rfl,_,_,_,_,h1,_⟩
 .rcases hv with rfl | rfl<;>exact .inl rfl
 .exact .inr h1
theorem PA.fresh {j:Nat} (p:PA b h pp tb lg w a f c s) (hj:h.next<=j):j≠pp/\j≠tb/\j≠lg/\j≠Ap w/\j≠Ap a/\(AA f=true\/j≠Ap f):=by
 obtain ⟨n1,n2,n3⟩:=p.np;have l1:=p.l1.1;have w1:Ap w<h.next:=(Gh p.sw).resolve_left (λz=>by
  rcases p.sw with ⟨_,z⟩ | ⟨_,_,_,_,rfl,_⟩
  .rw [List.map_eq_nil_iff.1 z] at l1;cases l1
  .simp [AA] at z)
 have a1:Ap a<h.next:=(Gh p.sa).resolve_left (λz=>by
  rcases p.sa with ⟨_,z⟩ | ⟨_,_,_,_,rfl,_⟩
  .rw [<- p.l2,List.map_eq_nil_iff.1 z] at l1;cases l1
  .simp [AA] at z)
 exact ⟨om,om,om,om,om,(Gh p.sf).imp (λz=>z) (λz=>by omega)⟩
theorem PA.box {h':AH} {a' f':V} {s':PS} {j:Nat} {k:BJ} (p:PA b h pp tb lg w a f c s) (pt:Pt pp lg w h a f h' a' f') (p':PA b h' pp tb lg w a' f' c s') (hj:j<h.next) (hn:j≠pp/\j≠tb/\j≠lg/\j≠Ap w/\j≠Ap a/\(AA f=true\/j≠Ap f)):PA b (h'.put j k) pp tb lg w a' f' c s'/\h'.get j=h.get j:=by
 obtain ⟨e1,e2,e3,e4,e5,e6⟩:=hn;have x1:=pt.a;have x2:=pt.f;have nx:=pt.w.next;refine ⟨p'.same (I:=(·=j)) (Wr.refl.put (.inr rfl)) (λq e=>by
  rw [e];refine ⟨e1,e2,e3,e4,om, ?_⟩
  cases hf:AA f' with
  | true=>exact .inl rfl
  | false=>
   rcases x2 with z | ⟨z1,z2⟩ | z
   .rw [hf] at z;cases z
   .exact .inr (λe=>(e6.resolve_left (by rw [z1];decide)) (e.trans z2))
   .exact .inr om),pt.w.get j hj (λe=>?_)⟩
 rcases e with e | e | e | e | ⟨z,e⟩
 .exact e1 e
 .exact e3 e
 .exact e4 e
 .exact e5 e
 .exact (e6.resolve_left (by rw [z];decide)) e
theorem Pt.put {h':AH} {a' f':V} {j:Nat} {k:BJ} (x:Pt pp lg w h a f h' a' f') (hj:h.next<=j):Pt pp lg w h a f (h'.put j k) a' f':=⟨x.w.put (.inl hj),x.a,x.f⟩
theorem Ka {k:Kn} {q:k.σ} {t op:Int} {i A B C:Nat}:(Cu c k q s t i op A B C).2.2.1.halt=s.halt/\(Cu c k q s t i op A B C).2.2.1.fl=s.fl/\(Cu c k q s t i op A B C).2.2.1.clk=s.clk/\(Cu c k q s t i op A B C).2.2.1.procs.length=s.procs.length/\(Cu c k q s t i op A B C).2.2.1.all.length=s.all.length:=by
 unfold Cu
 repeat' split
 all_goals simp
theorem aNS {C:List (List V)} {i:Nat} (p:PA b h pp tb lg w a f c s) (hC:AP h a=C) {n:Int} (hi:i<s.all.length) {h1:AH} (X:Ak h h1):PA b (h1.put (Ap a) ⟨9,C.set (Ca a+i) (ST.enc ⟨(nth s.all i).r,n⟩)⟩) pp tb lg w a f c (Cb s i n):=hC▸S7 p hi X
theorem MN {i:E7} (h:EQ i=true):∃ A B C:Nat,i=⟨i.op,A,B,C⟩/\Reg i.op A B C:=by
 unfold EQ Cn at h;simp only [Bool.and_eq_true,Bool.or_eq_true,decide_eq_true_eq,Bool.not_eq_true'] at h;obtain ⟨o,⟨a1,a2⟩,⟨b1,b2⟩,⟨c1,c2⟩⟩:=h;obtain ⟨op,A,B,C⟩:=i;simp only at *;obtain ⟨A,rfl⟩:∃ k:Nat,A=k:=⟨A.toNat,om⟩
 obtain ⟨B,rfl⟩:∃ k:Nat,B=k:=⟨B.toNat,om⟩
 obtain ⟨C,rfl⟩:∃ k:Nat,C=k:=⟨C.toNat,om⟩
 exact ⟨A,B,C,rfl,⟨o,om,λe=>by rcases a2 with z | z;rw [e] at z;cases z;omega,λe=>by rcases b2 with z | z;rw [e] at z;cases z;omega,λe=>by rcases c2 with z | z;rw [e] at z;cases z;omega⟩⟩
structure Xe (pp lg:Nat) (w:V) (h:AH) (a f:V) (I:Nat->Prop) (h':AH) (a' f':V) (I':Nat->Prop):Prop where
 w:Wr h (λj=>IP pp lg w a f j\/I j) h'
 a:Ap a'=Ap a\/h.next<=Ap a'
 f:AA f'=true\/(AA f=false/\Ap f'=Ap f)\/h.next<=Ap f'
 i:∀ j,I' j->I j\/h.next<=j
section
variable {I I':Nat->Prop} {h' h5:AH} {a' f':V}
theorem Pt.k (x:Pt pp lg w h a f h' a' f'):Xe pp lg w h a f I h' a' f' I:=⟨x.w.mono (λ_ e=>.inl e),x.a,x.f,λ_ e=>.inl e⟩
theorem Xe.of (x:Wr h (λj=>IP pp lg w a f j\/I j) h5) (i:∀ j,I' j->I j\/h.next<=j) (pt:Pt pp lg w h5 a f h' a' f'):Xe pp lg w h a f I h' a' f' I':=by
 have n:=x.next;exact ⟨x.trans pt.w (λ_ _ e=>.inl e),pt.a.imp (λz=>z) (λz=>by omega),pt.f.imp (λz=>z) (λz=>z.imp (λz=>z) (λz=>by omega)),i⟩
theorem Xe.put {j:Nat} {kb:BJ} (x:Xe pp lg w h a f I h' a' f' I') (hj:h.next<=j):Xe pp lg w h a f I (h'.put j kb) a' f' I':=⟨x.w.put (.inl hj),x.a,x.f,x.i⟩
theorem Apart.ip (d:Apart pp tb lg w a f I) {j:Nat} (e:I j):¬ IP pp lg w a f j:=by
 obtain ⟨e1,e2,e3,e4,e5,e6⟩:=d j e;rintro (e | e | e | e | ⟨z,e⟩)
 .exact e1 e
 .exact e3 e
 .exact e4 e
 .exact e5 e
 .exact (e6.resolve_left (by rw [z];decide)) e
theorem Apart.keep (d:Apart pp tb lg w a f I) (lw:∀ j,I j->j<h.next) (ha:Ap a'=Ap a\/h.next<=Ap a') (hf:AA f'=true\/(AA f=false/\Ap f'=Ap f)\/h.next<=Ap f'):Apart pp tb lg w a' f' I:=λj e=>by
 obtain ⟨e1,e2,e3,e4,e5,e6⟩:=d j e;have:=lw j e;refine ⟨e1,e2,e3,e4,om, ?_⟩;rcases hf with z | ⟨z1,z2⟩ | z
 .exact .inl z
 .exact .inr (by rw [z2];exact e6.resolve_left (by rw [z1];decide))
 .exact .inr om
theorem Apart.new (d:Apart pp tb lg w a f I) (p:PA b h pp tb lg w a f c s) (i:∀ j,I' j->I j\/h.next<=j):Apart pp tb lg w a f I':=λj e=>(i j e).elim (d j) (λq=>p.fresh q)
end
def KV (k:Kn) (v:V):Prop:=v=.ifc k.T k.v\/(v=.ni/\k=noK)
theorem U6 {k : Kn} {q : k.σ} {I : Nat -> Prop} {kv : V} (hkv : KV k kv) (ok : k.Ok) (r : k.R q h I) (dj : Apart pp tb lg w a f I) (p : PA b h pp tb lg w a f c s) (g : PG c) (n : PN c) (hpl : (nth c.c.parts c.p).procs.length = s.procs.length) (hk : s.clk + 1 < 3000000000)
    (kk:∀ h' a' f' I',Xe pp lg w h a f I h' a' f' I'->k.R (Bn c k q s).2.2.2 h' I'->Apart pp tb lg w a' f' I'->PA b h' pp tb lg w a' f' c (Bn c k q s).2.2.1->K (.tup [.agg (Bn c k q s).1.enc,.b (Bn c k q s).2.1]) h'):Cq tp SR [.p pp 0 0,kv] h K:=by
 have lw:=ok.low r;have rk:∀ {h':AH},Wr h (IP pp lg w a f) h'->k.R q h' I:=λx=>ok.keep r x (λj e=>dj.ip e);have gp:=p.gp;obtain ⟨np1,np2,np3⟩:=p.np;obtain ⟨bp1,bp2,bp3⟩:=p.bp;have hlim:=p.lim;have l6:=p.l6;have f25:=AG.f25 (c:=c) (tb:=tb) (lg:=lg) (a:=a) (mem:=s.mem) (clk:=s.clk) p.l3;have s25:=AG.s25 (c:=c) (tb:=tb) (lg:=lg) (a:=a) (mem:=s.mem) (clk:=s.clk) (clk':=s.clk+1) p.l3;have rl:=λk=>AG.len (c:=c) (tb:=tb) (lg:=lg) (a:=a) (clk:=k) p.l3;have f6:=AG.f6 (c:=c) (tb:=tb) (lg:=lg) (a:=a) (mem:=s.mem) (clk:=s.clk+1);have X1:Ak h (h.alloc ⟨6,[[.i .i64 0,.i .i64 0,.i .i64 0,.i .i64 0,.i .i64 0,.i .u32 0]]⟩):=by (repeat (first | exact Ak.refl _ | refine Ak.alloc ?_ _ | (refine Ak.put ?_ _ _ ?_;rotate_left;(first | omega | (simp only [Ac,Ah];omega)))))
 have p1:=p.ext X1;have w1:Wr h (·=pp) (h.alloc ⟨6,[[.i .i64 0,.i .i64 0,.i .i64 0,.i .i64 0,.i .i64 0,.i .u32 0]]⟩):=Wr.refl.alloc
 cases hh:s.halt with
 | true=>
  have e:Bn c k q s=(⟨0,0,0,0,0,0⟩,false,s,q):=if_pos hh;rw [e] at kk;replace kk:=λh' a' f' (pt:Pt pp lg w h a f h' a' f') p'=>kk h' a' f' I pt.k (rk pt.w) (dj.keep lw pt.a pt.f) p';have fin:=kk ((h.alloc ⟨6,[[.i .i64 0,.i .i64 0,.i .i64 0,.i .i64 0,.i .i64 0,.i .u32 0]]⟩).put h.next ⟨6,[[.i .i64 0,.i .i64 0,.i .i64 0,.i .i64 0,.i .i64 0,.i .u32 0]]⟩) a f (.same ((w1.put (.inl (Nat.le_refl _))).mono (λ_ e=>Or.inl e))) (p.ext (by (repeat (first | exact Ak.refl _ | refine Ak.alloc ?_ _ | (refine Ak.put ?_ _ _ ?_;rotate_left;(first | omega | (simp only [Ac,Ah];omega)))))));clear kk p X1 w1 e;refine Aa aAu (by simp [Tq]) λwf rp=>?_;unfold Tq;simp (disch:=omega)only[go_sem, *];refine KL p1 ?_;rw [hh];clear p1;simp (disch:=omega)only[go_sem, *];exact fin
 | false=>
  have wc:Wr h (·=pp) ((h.alloc ⟨6,[[.i .i64 0,.i .i64 0,.i .i64 0,.i .i64 0,.i .i64 0,.i .u32 0]]⟩).put pp ⟨26,[AG c tb lg a s.mem (s.clk+1)]⟩):=w1.put (.inr rfl);have p2:=p.setC wc (by rw [Ae,Ar rfl]) hk;have ekv:kv=.ni->V.ifc 91 (.agg [])=.ifc k.T k.v:=λe=>by
   rcases hkv with z | ⟨-,z⟩
   .rw [e] at z;cases z
   .rw [z];rfl
  have hkv:kv=.ifc k.T k.v\/kv=.ni:=hkv.imp (λz=>z) (λz=>z.1);rcases hkv with rfl | rfl
  all_goals
   simp only [reduceCtorEq,false_implies,true_implies,forall_const] at ekv;refine Aa aAu (by simp [Tq]) λwf rp=>?_;unfold Tq;simp (disch:=omega)only[go_sem, *];refine KL p1 ?_;rw [hh];simp (disch:=omega)only[go_sem, *];refine uM p2.gt p2.np.2.1 p2.sw p2.l1.2 ?_
   by_cases hp:DD s.procs s.clk<0
   .have e:Bn c k q s=(⟨s.clk,-1,0,0,0,0⟩,true,{ s with clk:=s.clk+1 },q):=by unfold Bn;rw [if_neg (by rw [hh];decide),if_pos hp]
    rw [e] at kk;replace kk:=λh' a' f' (pt:Pt pp lg w h a f h' a' f') p'=>kk h' a' f' I pt.k (rk pt.w) (dj.keep lw pt.a pt.f) p';clear p1;have wf:=wc.put (k:=⟨6,[[.i .i64 s.clk,.i .i64 (-1),.i .i64 0,.i .i64 0,.i .i64 0,.i .u32 0]]⟩) (.inl (Nat.le_refl h.next));have fin:=kk _ a f (.same (wf.mono (λ_ e=>Or.inl e))) (p.setC wf (by rw [Ae,Af om,Ae,Ar rfl]) hk);clear kk wf p2 p wc;simp (disch:=omega)only[go_sem, *];exact fin
   .obtain ⟨i,hi,hl⟩:=U0 hp;have f7:=AG.f7 (c:=c) (tb:=tb) (lg:=lg) (a:=a) (mem:=s.mem) (clk:=s.clk+1);have f4:=AG.f4 (c:=c) (tb:=tb) (lg:=lg) (a:=a) (mem:=s.mem) (clk:=s.clk+1);have hl2:i<({ s with clk:=s.clk+1 }:PS).all.length:=by show i<s.all.length;rw [p.l2];exact hl
    obtain ⟨sg,sr,slt,slo,sat,set⟩:=C0 p.sa hl2;have na:=p.da.1;have hx:=p.l4 _ (Az hl2);have he:=ST.len hx.1;have ep:Bn c k q s=((E3 c k q s i).1,true,(E3 c k q s i).2.1,(E3 c k q s i).2.2):=by unfold Bn;rw [if_neg (by rw [hh];decide),if_neg hp,hi];rfl
    rw [ep] at kk;clear ep p1;rw [hi] at hp ⊢;have at0:=sat (AP h a)
    have fr0:=p.fresh (Nat.le_refl h.next);have fr1:=p.fresh (Nat.le_succ h.next);have at8:=ST.at8 hx.1;have fe:=VY (P:=c.prog) (pc:=(nth s.all i).pc) n.b;have es:E3 c k q s i=(if (Bo c.prog (nth s.all i).pc).2=false then (⟨s.clk,i,(nth s.all i).pc,(Bo c.prog (nth s.all i).pc).1.op,2,0⟩,Bw c { s with clk:=s.clk+1 } s.clk i (nth s.all i).pc 2,q)
     else if EQ (Bo c.prog (nth s.all i).pc).1=false then (⟨s.clk,i,(nth s.all i).pc,(Bo c.prog (nth s.all i).pc).1.op,1,0⟩,Bw c { s with clk:=s.clk+1 } s.clk i (nth s.all i).pc 1,q)
     else sO c k q s i (Bo c.prog (nth s.all i).pc).1):=rfl
    rw [es] at kk;clear es;have ir:=VZ (i:=(Bo c.prog (nth s.all i).pc).1);generalize Bo c.prog (nth s.all i).pc=y at *;obtain ⟨⟨op,A,B,C⟩,ok⟩:=y;simp only [E7.enc] at fe ir kk
    cases ok with
    | false=>
     clear ir;rw [if_pos rfl] at kk;replace kk:=λh' a' f' (pt:Pt pp lg w h a f h' a' f') p'=>kk h' a' f' I pt.k (rk pt.w) (dj.keep lw pt.a pt.f) p';simp (disch:=omega)only[go_sem, *];refine Pf.go fe (by simp only [go_sem]) λ_=>?_;simp (disch:=omega)only[go_sem, *];refine Kg (p2.ext ?_) g hl2 hh (by show s.fl.length+1<=s.clk+1;omega) hpl ?_
     ·(repeat (first | exact Ak.refl _ | refine Ak.alloc ?_ _ | (refine Ak.put ?_ _ _ ?_;rotate_left;(first | omega | (simp only [Ac,Ah];omega)))))
     intro h4 a4 f4 pt p4;have l4:=p4.lim;obtain ⟨-,g1⟩:=(p2.ext (by (repeat (first | exact Ak.refl _ | refine Ak.alloc ?_ _ | (refine Ak.put ?_ _ _ ?_;rotate_left;(first | omega | (simp only [Ac,Ah];omega))))))).box (k:=⟨0,[]⟩) pt p4 (j:=h.next+1) (by simp only [go_sem];omega) fr1;obtain ⟨-,g0⟩:=(p2.ext (by (repeat (first | exact Ak.refl _ | refine Ak.alloc ?_ _ | (refine Ak.put ?_ _ _ ?_;rotate_left;(first | omega | (simp only [Ac,Ah];omega))))))).box (k:=⟨0,[]⟩) pt p4 (j:=h.next) (by simp only [go_sem];omega) fr0;have p5:=((p2.ext (by (repeat (first | exact Ak.refl _ | refine Ak.alloc ?_ _ | (refine Ak.put ?_ _ _ ?_;rotate_left;(first | omega | (simp only [Ac,Ah];omega))))))).box (k:=⟨6,[[.i .i64 s.clk,.i .i64 i,.i .i64 (nth s.all i).pc,.i .i64 op,.i .i64 2,.i .u32 0]]⟩) pt p4 (j:=h.next) (by simp only [go_sem];omega) fr0).1;have fin:=kk _ a4 f4 (((Pt.same (by repeat (first | exact wc.mono (λ_ e=>Or.inl e) | refine Wr.alloc ?_ | refine Wr.put ?_ (.inl om)))).trans pt).put (Nat.le_refl _)) p5;simp (disch:=omega)only[go_sem, *] at g0 g1;clear kk pt p4 p5 p2 p wc;simp (disch:=omega)only[go_sem, *];exact fin
    | true=>
     rw [if_neg (by decide)] at kk
     cases hr:EQ ⟨op,A,B,C⟩ with
     | false=>
      rw [hr] at ir;rw [if_pos hr] at kk;replace kk:=λh' a' f' (pt:Pt pp lg w h a f h' a' f') p'=>kk h' a' f' I pt.k (rk pt.w) (dj.keep lw pt.a pt.f) p';clear hr;simp (disch:=omega)only[go_sem, *];refine Pf.go fe (by simp only [go_sem]) λ_=>?_;simp (disch:=omega)only[go_sem, *];refine Pf.go ir (by simp only [go_sem]) λ_=>?_;simp (disch:=omega)only[go_sem, *];refine Kg (p2.ext ?_) g hl2 hh (by show s.fl.length+1<=s.clk+1;omega) hpl ?_
      ·(repeat (first | exact Ak.refl _ | refine Ak.alloc ?_ _ | (refine Ak.put ?_ _ _ ?_;rotate_left;(first | omega | (simp only [Ac,Ah];omega)))))
      intro h4 a4 f4 pt p4;have l4:=p4.lim;obtain ⟨-,g1⟩:=(p2.ext (by (repeat (first | exact Ak.refl _ | refine Ak.alloc ?_ _ | (refine Ak.put ?_ _ _ ?_;rotate_left;(first | omega | (simp only [Ac,Ah];omega))))))).box (k:=⟨0,[]⟩) pt p4 (j:=h.next+1) (by simp only [go_sem];omega) fr1;obtain ⟨-,g0⟩:=(p2.ext (by (repeat (first | exact Ak.refl _ | refine Ak.alloc ?_ _ | (refine Ak.put ?_ _ _ ?_;rotate_left;(first | omega | (simp only [Ac,Ah];omega))))))).box (k:=⟨0,[]⟩) pt p4 (j:=h.next) (by simp only [go_sem];omega) fr0;have p5:=((p2.ext (by (repeat (first | exact Ak.refl _ | refine Ak.alloc ?_ _ | (refine Ak.put ?_ _ _ ?_;rotate_left;(first | omega | (simp only [Ac,Ah];omega))))))).box (k:=⟨6,[[.i .i64 s.clk,.i .i64 i,.i .i64 (nth s.all i).pc,.i .i64 op,.i .i64 1,.i .u32 0]]⟩) pt p4 (j:=h.next) (by simp only [go_sem];omega) fr0).1;have fin:=kk _ a4 f4 (((Pt.same (by repeat (first | exact wc.mono (λ_ e=>Or.inl e) | refine Wr.alloc ?_ | refine Wr.put ?_ (.inl om)))).trans pt).put (Nat.le_refl _)) p5;simp (disch:=omega)only[go_sem, *] at g0 g1;clear kk pt p4 p5 p2 p wc;simp (disch:=omega)only[go_sem, *];exact fin
     | true=>
      rw [hr] at ir;rw [if_neg (by rw [hr];decide)] at kk;obtain ⟨A',B',C',eq,rg⟩:=MN hr;injection eq with e0 eA eB eC
      clear e0;subst eA eB eC;clear hr;have sp:=λv=>ST.setpc (v:=v) hx.1;have ec:AP ((h.alloc ⟨6,[[.i .i64 0,.i .i64 0,.i .i64 0,.i .i64 0,.i .i64 0,.i .u32 0]]⟩).put pp ⟨26,[AG c tb lg a s.mem (s.clk+1)]⟩) a=AP h a:=by unfold AP;rw [Ae,Af na,AD,Af om]
      have p6:=λH (X:Ak _ H)=>aNS (n:=IntKind.wrap .i64 ((nth s.all i).pc+4)) p2 ec hl2 X;simp (disch:=omega)only[go_sem, *];refine Pf.go fe (by simp only [go_sem]) λ_=>?_;simp (disch:=omega)only[go_sem, *];refine Pf.go ir (by simp only [go_sem]) λ_=>?_;simp (disch:=omega)only[go_sem, *];clear ec;refine aYG ok (p6 _ ?_) (by show i<(s.all.set i _).length;rw [List.length_set];exact hl2) rg (rk ?_) dj n.u n.ul om l6.2 ?_
      ·(repeat (first | exact Ak.refl _ | refine Ak.alloc ?_ _ | (refine Ak.put ?_ _ _ ?_;rotate_left;(first | omega | (simp only [Ac,Ah];omega)))))
      .repeat (first | exact wc.mono (λ_ e=>Or.inl e) | refine Wr.alloc ?_ | refine Wr.put ?_ (.inl om) | refine Wr.put ?_ (.inr (.inr (.inr (.inr (.inl rfl))))))
      intro h5 I5 x5 r5 i5 p7;obtain ⟨k1,k2,k3,k4,-⟩:=Ka (k:=k) (q:=q) (c:=c) (s:=Cb { s with clk:=s.clk+1 } i (IntKind.wrap .i64 ((nth s.all i).pc+4))) (t:=s.clk) (op:=op) (i:=i) (A:=A') (B:=B') (C:=C');have k1:=k1.trans (show _=s.halt from rfl);have k2:=k2.trans (show _=s.fl from rfl);have k3:=k3.trans (show _=s.clk+1 from rfl);have k4:=k4.trans (show _=s.procs.length from rfl);have eg:sO c k q s i ⟨op,A',B',C'⟩=(if (Cu c k q (Cb { s with clk:=s.clk+1 } i (IntKind.wrap .i64 ((nth s.all i).pc+4))) s.clk i op A' B' C').2.1=0 then (⟨s.clk,i,(nth s.all i).pc,op,0,(Cu c k q (Cb { s with clk:=s.clk+1 } i (IntKind.wrap .i64 ((nth s.all i).pc+4))) s.clk i op A' B' C').1⟩,(Cu c k q (Cb { s with clk:=s.clk+1 } i (IntKind.wrap .i64 ((nth s.all i).pc+4))) s.clk i op A' B' C').2.2.1,(Cu c k q (Cb { s with clk:=s.clk+1 } i (IntKind.wrap .i64 ((nth s.all i).pc+4))) s.clk i op A' B' C').2.2.2) else (⟨s.clk,i,(nth s.all i).pc,op,(Cu c k q (Cb { s with clk:=s.clk+1 } i (IntKind.wrap .i64 ((nth s.all i).pc+4))) s.clk i op A' B' C').2.1,0⟩,Bw c (Cu c k q (Cb { s with clk:=s.clk+1 } i (IntKind.wrap .i64 ((nth s.all i).pc+4))) s.clk i op A' B' C').2.2.1 s.clk i (nth s.all i).pc (Cu c k q (Cb { s with clk:=s.clk+1 } i (IntKind.wrap .i64 ((nth s.all i).pc+4))) s.clk i op A' B' C').2.1,(Cu c k q (Cb { s with clk:=s.clk+1 } i (IntKind.wrap .i64 ((nth s.all i).pc+4))) s.clk i op A' B' C').2.2.2)):=rfl;rw [eg] at kk;clear eg;generalize (Cu c k q (Cb { s with clk:=s.clk+1 } i (IntKind.wrap .i64 ((nth s.all i).pc+4))) s.clk i op A' B' C')=d at *;obtain ⟨dv,df,ds,dq⟩:=d;simp only at k1 k2 k3 k4 p7 r5 kk;have n5:=x5.next;have w5:Wr h (λj=>IP pp lg w a f j\/I j) h5:=Wr.trans (by repeat (first | exact wc.mono (λ_ e=>Or.inl (Or.inl e)) | refine Wr.alloc ?_ | refine Wr.put ?_ (.inl om) | refine Wr.put ?_ (.inr (.inl (.inr (.inr (.inr (.inl rfl)))))))) x5 (λj _ e=>e.imp (λe=>e.elim .inl (λe=>e.elim (λe=>.inr (.inr (.inl e))) (λe=>.inr (.inr (.inr (.inl e)))))) (λz=>z));have g1:=x5.get (h.next+1) (by simp only [go_sem];omega) (λe=>e.elim (λe=>e.elim fr1.1 (λe=>e.elim fr1.2.2.2.1 fr1.2.2.2.2.1)) (λe=>by have:=lw _ e;omega));have g0:=x5.get h.next (by simp only [go_sem];omega) (λe=>e.elim (λe=>e.elim fr0.1 (λe=>e.elim fr0.2.2.2.1 fr0.2.2.2.2.1)) (λe=>Nat.lt_irrefl _ (lw _ e)));have na1:=fr1.2.2.2.2.1;have na0:=fr0.2.2.2.2.1;simp (disch:=omega)only[go_sem] at g0 g1 n5 i5;have l5:=p7.lim;have iN:∀ j,I5 j->I j\/h.next<=j:=λj e=>(i5 j e).imp (λz=>z) (λz=>by omega);have dj5:=dj.new p iN;have two:∀ {H':AH},Wr h5 (λj=>j=h.next\/j=h.next+1) H'->PA b H' pp tb lg w a f c ds/\k.R dq H' I5:=λx=>⟨p7.same x (λj e=>e.elim (λe=>e▸fr0) (λe=>e▸fr1)),ok.keep r5 x (λj e1 e2=>by
       rcases i5 j e1 with z | z
       .have:=lw j z;omega
       .omega)⟩
      clear p6 p7 x5 p2 wc r5;have w1:∀ x,Wr h5 (λj=>j=h.next\/j=h.next+1) (h5.put (h.next+1) x):=λ_=>Wr.refl.put (.inr (.inr rfl))
      by_cases hd:df=0
      .subst hd;rw [if_pos rfl] at kk;clear p;simp (disch:=omega)only[go_sem, *];exact kk _ a f I5 ((Xe.of w5 iN (.same Wr.refl)).put (Nat.le_succ h.next) |>.put (Nat.le_refl h.next)) (two ((w1 _).put (.inr (.inl rfl)))).2 dj5 (two ((w1 _).put (.inr (.inl rfl)))).1
      .rw [if_neg hd] at kk;clear p;simp (disch:=omega)only[go_sem, *];obtain ⟨y1,y2⟩:=two (w1 ⟨6,[[.i .i64 s.clk,.i .i64 i,.i .i64 (nth s.all i).pc,.i .i64 op,.i .i64 df,.i .u32 0]]⟩);refine Kg y1 g (by rw [y1.l2,k4];exact hl) (k1.trans hh) (by rw [k2,k3];omega) (hpl.trans k4.symm) ?_;intro h4 a4 f4 pt p4;have l4:=p4.lim;obtain ⟨-,g3⟩:=y1.box (k:=⟨0,[]⟩) pt p4 (j:=h.next+1) (by simp only [go_sem];omega) fr1;obtain ⟨-,g2⟩:=y1.box (k:=⟨0,[]⟩) pt p4 (j:=h.next) (by simp only [go_sem];omega) fr0;have p5:=(y1.box (k:=⟨6,[[.i .i64 s.clk,.i .i64 i,.i .i64 (nth s.all i).pc,.i .i64 op,.i .i64 df,.i .u32 0]]⟩) pt p4 (j:=h.next) (by simp only [go_sem];omega) fr0).1;have r4:=ok.keep (J:=(·=h.next)) (ok.keep y2 pt.w (λj e=>dj5.ip e)) (Wr.put (k:=⟨6,[[.i .i64 s.clk,.i .i64 i,.i .i64 (nth s.all i).pc,.i .i64 op,.i .i64 df,.i .u32 0]]⟩) Wr.refl (.inr rfl)) (λj e1 e2=>by
        rcases i5 j e1 with z | z
        .have:=lw j z;omega
        .omega)
       have fin:=kk _ a4 f4 I5 ((Xe.of (by repeat (first | exact w5 | refine Wr.put ?_ (.inl om))) iN pt).put (Nat.le_refl _)) r4 (dj5.keep (ok.low y2) pt.a pt.f) p5;simp (disch:=omega)only[go_sem,g0] at g2;simp (disch:=omega)only[go_sem] at g3;clear kk pt p4 p5 w5 two y1 y2 r4;simp (disch:=omega)only[go_sem, *];exact fin
end
end Go.Ab.T
namespace Go.Ab.T
open Go Go.Ab
set_option maxHeartbeats 8000000
theorem Mh {xs:List (List V)}:Pf tp ZB [.fl 1 xs] (.fl 1 xs):=by
 refine AL aMp (by simp [Qa]) λrp=>?_;unfold Qa;simp (disch:=omega)only[go_sem, *];have hb:=rp.head.big;intro t ht;cases t
 .simp (disch:=omega)only[go_sem, *];refine Av (R:=[]) (Sl.nil' 0 _ _) (Nat.le_refl _) (Nat.le_refl _) (by simp;omega) ?_;intro w h4 s4 g4;simp (disch:=omega)only[go_sem, *];exact s4.froze' rp.head.frzr trivial (by simp;omega)
 .simp (disch:=omega)only[go_sem, *];have:xs=[]:=by
   rcases List.eq_nil_or_concat xs with h | ⟨l,a,h⟩
   .exact h
   .exact absurd (ht (by rw [h];simp)) (by simp)
  rw [this]
theorem JB {xs:List (List V)}:Pf tp ZD [.fl 1 xs] (.fl 1 xs):=by
 refine AL aMq (by simp [Qb]) λrp=>?_;unfold Qb;simp (disch:=omega)only[go_sem, *];have hb:=rp.head.big;intro t ht;cases t
 .simp (disch:=omega)only[go_sem, *];refine Av (R:=[]) (Sl.nil' 0 _ _) (Nat.le_refl _) (Nat.le_refl _) (by simp;omega) ?_;intro w h4 s4 g4;simp (disch:=omega)only[go_sem, *];exact s4.froze' rp.head.frzr trivial (by simp;omega)
 .simp (disch:=omega)only[go_sem, *];have:xs=[]:=by
   rcases List.eq_nil_or_concat xs with h | ⟨l,a,h⟩
   .exact h
   .exact absurd (ht (by rw [h];simp)) (by simp)
  rw [this]
def Ef (c:PC):PS:=⟨Cz (nth c.c.parts c.p).procs,Ip (nth c.c.parts c.p).procs,List.replicate 16 0,[],false,0⟩
def Cy (C:Am) (p:Nat) (prog ins:List Int):PC:=⟨C,p,prog.take 512,ins,(nth C.parts p).h0,(nth C.parts p).h1,(nth C.parts p).h2,(nth C.parts p).h3,(nth C.parts p).h4⟩
theorem GB {n:Nat}:Ej (List.replicate n 0):=λz hz=>by rw [(List.mem_replicate.1 hz).2];decide
theorem MM (L:List Bl):Be (Cz L)=Cz L:=by unfold Be Cz;rw [List.map_map];rfl
section
variable {h:AH} {C:Am} {prog ins:List Int} {K:V->AH->Prop}
theorem uP {p:Int} (hnm:Js C) (hp:(Bu C).1≠0\/p<0\/(C.parts.length:Int)<=p) {x y:V} (kk:∀ h',Ak h h'->K .np h'):Cq tp SQ [.agg C.enc,.i .i64 p,x,y] h K:=by
 have rt:=KO hnm;have f:=kk (h.alloc ⟨3,[C.enc]⟩) (by (repeat (first | exact Ak.refl _ | refine Ak.alloc ?_ _ | (refine Ak.put ?_ _ _ ?_;rotate_left;(first | omega | (simp only [Ac,Ah];omega))))));clear kk;refine Aa Zh (by simp [Oh]) λwf rp=>?_;unfold Oh;simp (disch:=omega)only[go_sem, *];refine Pf.go rt (by simp only [go_sem]) λ_=>?_;clear rt
 by_cases q:(Bu C).1=0
 .rw [q]
  by_cases q1:p<0
  .simp (disch:=omega)only[go_sem, *];exact f
  .have q2:(C.parts.length:Int)<=p:=by omega
   simp (disch:=omega)only[go_sem, *];exact f
 .simp (disch:=omega)only[go_sem, *];exact f
theorem U1 {p : Nat} (hnm : Js C) (hr : (Bu C).1 = 0) (hp : p < C.parts.length) (h1 : 1 <= (nth C.parts p).procs.length) (h3 : (nth C.parts p).procs.length <= 3) (hl : prog.length < 4000000000)
    (kk:∀ h' pp tb lg w a,Ak h h'->PA h.next h' pp tb lg w a .ns (Cy C p prog ins) (Ef (Cy C p prog ins))->K (.p pp 0 0) h'):Cq tp SQ [.agg C.enc,.i .i64 p,.fl 1 (prog.map CJ),.fl 1 (ins.map CL)] h K:=by
 have rt:=KO hnm;rw [hr] at rt;have cp:=pV (C:=C);simp only [Am.enc] at cp;have c1:=Mh (xs:=(prog.take 512).map CJ);have c2:=JB (xs:=ins.map CL);refine Aa Zh (by simp [Oh]) λwf rp=>?_;have hlo:=wf.1;unfold Oh;simp (disch:=omega)only[go_sem, *];refine Pf.go rt (by simp only [go_sem]) λ_=>?_;have z1:¬ (p:Int)<0:=by omega
 have z2:¬ (C.parts.length:Int)<=p:=by omega
 simp (disch:=omega)only[go_sem, *];refine Pf.go cp (by simp only [go_sem]) λ_=>?_;have et:List.take (min (prog.length:Int) 512).toNat (prog.map CJ)=(prog.take 512).map CJ:=by
  rw [List.map_take,List.take_eq_take_iff,List.length_map];omega
 simp (disch:=omega)only[go_sem, *];refine Pf.go c1 (by simp only [go_sem]) λ_=>?_;simp (disch:=omega)only[go_sem, *];refine Pf.go c2 (by simp only [go_sem]) λ_=>?_;simp (disch:=omega)only[go_sem, *];refine sS ?_;intro h2 x2 n2 g2;have g0:=x2.get h.next (by simp only [go_sem];omega);have gb:=λj (hj:j<h.next)=>x2.get j (by simp only [go_sem];omega);simp (disch:=omega)only[go_sem] at g0 g2 n2;have gb2:∀ j,j<h.next->h2.get j=h.get j:=λj hj=>by
  have:=gb j hj;simp (disch:=omega)only[go_sem] at this;exact this
 clear gb x2;simp (disch:=omega)only[go_sem, *];refine zI h1 h3 ?_;intro h4 tb w x4 l4 lt4 gt4 sw4 ne4;have q0:=x4.get (h.next+3) (by simp only [go_sem];omega);have q1:=x4.get (h.next+2) (by simp only [go_sem];omega);have q2:=x4.lim;have q3:=x4.next;simp (disch:=omega)only[go_sem, *] at q0 q1 q2 q3;simp (disch:=omega)only[go_sem] at l4;have sw5:=Sl.weak (b':=h.next) sw4 (by simp only [go_sem];omega);have wn:AA w≠true:=λz=>by
  rcases sw4 with ⟨_,z⟩ | ⟨_,_,_,_,rfl,_⟩
  .have z:=congrArg List.length z;rw [List.length_map,Cz,List.length_map] at z;simp only [List.length_nil] at z;omega
  .simp [AA] at z
 have wlo:=(Au sw4).resolve_left wn;have wlt:=(Gh sw4).resolve_left wn;simp (disch:=omega)only[go_sem] at wlo;have glow:∀ j,j<h.next->h4.get j=h.get j:=λj hj=>by
  have:=x4.get j (by simp only [go_sem];omega);simp (disch:=omega)only[go_sem] at this;exact this.trans (gb2 j hj)
 clear x4 sw4 gb2;simp (disch:=omega)only[go_sem, *];refine OF (b:=h.next) (pp:=h.next+1+2) (tb:=tb) (lg:=h.next+1+1) (w:=w) (a:=.ns) (c:=Cy C p prog ins) (mem:=List.replicate 16 0) (clk:=0) (P:=Cz (nth C.parts p).procs) (by rw [Ae,Ar rfl];rfl) (by simp) (by rw [Ae,Af om];exact gt4) (AC sw5 _ _ (.inr om)) (by simp only [go_sem];omega) om om ne4 om (by simp only [go_sem];omega) hp h3 ?_;intro h5 a5 x5 gp5 sw6 sa5;have an:AA a5≠true:=λz=>by
  rcases sa5 with ⟨_,z⟩ | ⟨_,_,_,_,rfl,_⟩
  .have z:=congrArg List.length z;rw [List.length_map,Ip,List.length_map] at z;have z:(nth C.parts p).procs.length=0:=z;omega
  .simp [AA] at z
 have alo:=(Au sa5).resolve_left an;have alt:=(Gh sa5).resolve_left an;have n5:=x5.next;have m5:=x5.lim;simp (disch:=omega)only[go_sem] at alo n5 m5;rw [MM] at sw6;have PA5:PA h.next h5 (h.next+1+2) tb (h.next+1+1) w a5 .ns (Cy C p prog ins) (Ef (Cy C p prog ins)):=by
  refine ⟨gp5, ?_, ?_,sw6,Sl.weak sa5 (by simp only [go_sem];omega),Sl.nil _ _ _,om,⟨om,om,om⟩,⟨om,om,om⟩,⟨om,om,om⟩,⟨om,om,om⟩,⟨om,om,om,om⟩,.inl rfl, ?_, ?_,by simp [Ef], ?_,GB,⟨by simp [Ef],by simp [Ef]⟩⟩
  .rw [x5.get tb (by simp only [go_sem];omega) (λe=>e.elim om om),Ae,Af om];exact gt4
  .rw [x5.get (h.next+1+1) (by simp only [go_sem];omega) (λe=>e.elim om om),Ae,Af om];exact q1
  .show 1<=(Cz (nth C.parts p).procs).length/\(Cz (nth C.parts p).procs).length<=3;rw [Cz,List.length_map];exact ⟨h1,h3⟩
  .show (Ip (nth C.parts p).procs).length=(Cz (nth C.parts p).procs).length;rw [Cz,Ip,List.length_map,List.length_map]
  .intro x hx;obtain ⟨y,-,rfl⟩:=List.mem_map.1 (show x∈(nth C.parts p).procs.map λx=>(⟨List.replicate 8 0,x.entry⟩:ST) from hx);exact ⟨by simp,GB⟩
 have fin:=kk h5 _ _ _ _ _ ⟨om,om,λj hj=>by rw [x5.get j (by simp only [go_sem];omega) (λe=>e.elim om om),Ae,Af om];exact glow j hj⟩ PA5;clear kk PA5 x5 glow;simp (disch:=omega)only[go_sem, *]
end
end Go.Ab.T
namespace Go.Ab.T
open Go Go.Ab
set_option maxHeartbeats 8000000
@[go_sem] theorem aZy:FD .ptr .np .np=some true:=rfl
@[go_sem] theorem bAS {i j k:Nat}:FD .ptr (.p i j k) .np=some false:=rfl
theorem FT.eq (a b:FT):a=b↔a.t=b.t/\a.proc=b.proc/\a.kind=b.kind:=by cases a;cases b;simp
theorem PR.eq (a b:PR):a=b↔a.prio=b.prio/\a.wake=b.wake/\a.ended=b.ended:=by cases a;cases b;simp
theorem tK {l:List Int} (h:l.length=8):l=[nth l 0,nth l 1,nth l 2,nth l 3,nth l 4,nth l 5,nth l 6,nth l 7]:=by
 match l,h with
 | [a,b,c,d,e,f,g,i],_=>rfl
theorem ST.lit {x:ST} (h:x.r.length=8):x.enc=[.i .u32 (nth x.r 0),.i .u32 (nth x.r 1),.i .u32 (nth x.r 2),.i .u32 (nth x.r 3),.i .u32 (nth x.r 4),.i .u32 (nth x.r 5),.i .u32 (nth x.r 6),.i .u32 (nth x.r 7),.i .i64 x.pc]:=by
 unfold ST.enc;rw [tK h];rfl
theorem ST.eq {a b:ST} (h:a.r.length=8) (h2:b.r.length=8):a=b↔nth a.r 0=nth b.r 0/\nth a.r 1=nth b.r 1/\nth a.r 2=nth b.r 2/\nth a.r 3=nth b.r 3/\nth a.r 4=nth b.r 4/\nth a.r 5=nth b.r 5/\nth a.r 6=nth b.r 6/\nth a.r 7=nth b.r 7/\a.pc=b.pc:=by
 refine ⟨λe=>by rw [e];simp,λ⟨e0,e1,e2,e3,e4,e5,e6,e7,e8⟩=>?_⟩;obtain ⟨r,pc⟩:=a;obtain ⟨r',pc'⟩:=b;simp only at *;rw [tK h,tK h2,e0,e1,e2,e3,e4,e5,e6,e7,e8]
theorem RR {L M:List FT}:Pf tp Ur [.fl 3 (L.map FT.enc),.fl 3 (M.map FT.enc)] (.b (decide (L=M))):=by
 refine AL aMB (by simp [Qm]) λrp=>?_;unfold Qm;simp (disch:=omega)only[go_sem, *];have hL:=rp.head.len;have hM:=rp.tail.head.len;refine Ad (λhc=>?_) (λhc=>?_)
 .simp (disch:=omega)only[go_sem, *];simp only [false_eq_decide_iff];rintro rfl;exact hc rfl
 .simp (disch:=omega)only[go_sem, *];refine Ai (λn e h=>∃ (i:Nat),n=L.length - i/\h.lim=0/\e 0=.fl 3 (L.map FT.enc)/\e 1=.fl 3 (M.map FT.enc)/\e 12=.i .i64 L.length/\e 13=.i .i64 i/\i<=L.length/\L.take i=M.take i) ?_ _ _ _ ⟨0,rfl, ?_⟩
  .rintro n e h ⟨i,rfl,hl,e0,e1,e12,e13,hi,hz⟩ ih;rw [Ao bCP.eq_1];simp (disch:=omega)only[go_sem, *];refine Ad (λhc2=>?_) (λhc2=>?_)
   .simp (disch:=omega)only[go_sem, *];refine Ad (λhc3=>?_) (λhc3=>?_)
    .simp (disch:=omega)only[go_sem, *];simp only [false_eq_decide_iff];exact Y8 (i:=i) om (λh=>hc3 (((FT.eq _ _).1 h)))
    .have he:=(FT.eq (nth L i) (nth M i)).2 (Decidable.not_not.1 hc3);simp (disch:=omega)only[go_sem, *];refine ih _ _ _ ?_ ⟨i+1,rfl, ?_⟩
     .omega
     .simp (disch:=omega)only[go_sem, *]
      ((repeat' refine And.intro ?_ ?_)<;>first | omega | assumption | (exact Np om om hz he))
   .simp (disch:=omega)only[go_sem, *];simp only [true_eq_decide_iff];rw [List.take_of_length_le om,List.take_of_length_le om] at hz;exact hz
  .simp (disch:=omega)only[go_sem, *]
   first | done | simp
theorem RS {L M:List PR}:Pf tp Z5 [.fl 3 (L.map PR.enc),.fl 3 (M.map PR.enc)] (.b (decide (L=M))):=by
 refine AL aMY (by simp [QJ]) λrp=>?_;unfold QJ;simp (disch:=omega)only[go_sem, *];have hL:=rp.head.len;have hM:=rp.tail.head.len;refine Ad (λhc=>?_) (λhc=>?_)
 .simp (disch:=omega)only[go_sem, *];simp only [false_eq_decide_iff];rintro rfl;exact hc rfl
 .simp (disch:=omega)only[go_sem, *];refine Ai (λn e h=>∃ (i:Nat),n=L.length - i/\h.lim=0/\e 0=.fl 3 (L.map PR.enc)/\e 1=.fl 3 (M.map PR.enc)/\e 12=.i .i64 L.length/\e 13=.i .i64 i/\i<=L.length/\L.take i=M.take i) ?_ _ _ _ ⟨0,rfl, ?_⟩
  .rintro n e h ⟨i,rfl,hl,e0,e1,e12,e13,hi,hz⟩ ih;rw [Ao bCR.eq_1];simp (disch:=omega)only[go_sem, *];refine Ad (λhc2=>?_) (λhc2=>?_)
   .simp (disch:=omega)only[go_sem, *];refine Ad (λhc3=>?_) (λhc3=>?_)
    .simp (disch:=omega)only[go_sem, *];simp only [false_eq_decide_iff];exact Y8 (i:=i) om (λh=>hc3 (((PR.eq _ _).1 h)))
    .have he:=(PR.eq (nth L i) (nth M i)).2 (Decidable.not_not.1 hc3);simp (disch:=omega)only[go_sem, *];refine ih _ _ _ ?_ ⟨i+1,rfl, ?_⟩
     .omega
     .simp (disch:=omega)only[go_sem, *]
      ((repeat' refine And.intro ?_ ?_)<;>first | omega | assumption | (exact Np om om hz he))
   .simp (disch:=omega)only[go_sem, *];simp only [true_eq_decide_iff];rw [List.take_of_length_le om,List.take_of_length_le om] at hz;exact hz
  .simp (disch:=omega)only[go_sem, *]
   first | done | simp
theorem RU {L M:List ST} (hA:∀ x∈L,x.r.length=8) (hB:∀ x∈M,x.r.length=8):Pf tp ZK [.fl 9 (L.map ST.enc),.fl 9 (M.map ST.enc)] (.b (decide (L=M))):=by
 refine AL aMz (by simp [Qk]) λrp=>?_;unfold Qk;simp (disch:=omega)only[go_sem, *];have hL:=rp.head.len;have hM:=rp.tail.head.len;refine Ad (λhc=>?_) (λhc=>?_)
 .simp (disch:=omega)only[go_sem, *];simp only [false_eq_decide_iff];rintro rfl;exact hc rfl
 .simp (disch:=omega)only[go_sem, *];refine Ai (λn e h=>∃ (i:Nat),n=L.length - i/\h.lim=0/\e 0=.fl 9 (L.map ST.enc)/\e 1=.fl 9 (M.map ST.enc)/\e 12=.i .i64 L.length/\e 13=.i .i64 i/\i<=L.length/\L.take i=M.take i) ?_ _ _ _ ⟨0,rfl, ?_⟩
  .rintro n e h ⟨i,rfl,hl,e0,e1,e12,e13,hi,hz⟩ ih;rw [Ao bCO.eq_1];simp (disch:=omega)only[go_sem, *];refine Ad (λhc2=>?_) (λhc2=>?_)
   .have l1:=ST.lit (hA _ (Az (L:=L) (j:=i) om));have l2:=ST.lit (hB _ (Az (L:=M) (j:=i) om));have eq:=ST.eq (hA _ (Az (L:=L) (j:=i) om)) (hB _ (Az (L:=M) (j:=i) om));simp (disch:=omega)only[go_sem, *];refine Ad (λhc3=>?_) (λhc3=>?_)
    .simp (disch:=omega)only[go_sem, *];simp only [false_eq_decide_iff];exact Y8 (i:=i) om (λh=>hc3 ((eq.1 h)))
    .have he:=eq.2 (Decidable.not_not.1 hc3);simp (disch:=omega)only[go_sem, *];refine ih _ _ _ ?_ ⟨i+1,rfl, ?_⟩
     .omega
     .simp (disch:=omega)only[go_sem, *]
      ((repeat' refine And.intro ?_ ?_)<;>first | omega | assumption | (exact Np om om hz he))
   .simp (disch:=omega)only[go_sem, *];simp only [true_eq_decide_iff];rw [List.take_of_length_le om,List.take_of_length_le om] at hz;exact hz
  .simp (disch:=omega)only[go_sem, *]
   first | done | simp
section
variable {b pp tb lg:Nat} {h:AH} {w a f:V} {c:PC} {s:PS} {K:V->AH->Prop}
theorem Ws (p:PA b h pp tb lg w a f c s) (kk:K (.i .i64 s.clk) h):Cq tp sZ [.p pp 0 0] h K:=by
 have gp:=p.gp;have f25:=AG.f25 (c:=c) (tb:=tb) (lg:=lg) (a:=a) (mem:=s.mem) (clk:=s.clk) p.l3;have rl:=AG.len (c:=c) (tb:=tb) (lg:=lg) (a:=a) (clk:=s.clk) p.l3;clear p;refine Aa aAx (by simp [Tu]) λwf rp=>?_;unfold Tu;simp (disch:=omega)only[go_sem, *]
theorem VD {R:List (List V)} (sf:Sl b h 3 f R) (hl:h.lim<=h.next) (hR:R.length<4000000000) (kk:∀ r h',Sl h.next h' 3 r R->Ak h h'->K r h'):Cq tp aQ [f] h K:=by
 have hr:=sf.rows;rcases sf with ⟨hv,rfl⟩ | ⟨i,el,cap,cs,rfl,hg,a1,a2,a3,a4,a5,a6⟩
 .rcases hv with rfl | rfl
  .have k:=kk .ns h (Sl.nil _ _ _) (Ak.refl h);clear kk;refine Aa aNj (by simp [Q6]) λwf rp=>?_;unfold Q6;simp (disch:=omega)only[go_sem, *]
  .refine Aa aNj (by simp [Q6]) λwf rp=>?_;unfold Q6;simp (disch:=omega)only[go_sem, *];refine Av (R:=[]) (Sl.nil' h.next _ _) hl (Nat.le_refl _) (by simp) ?_;intro w h4 s4 g4;simp (disch:=omega)only[go_sem, *];exact kk _ _ s4 ⟨g4.next,g4.lim,g4.low⟩
 .refine Aa aNj (by simp [Q6]) λwf rp=>?_;unfold Q6;simp (disch:=omega)only[go_sem, *];refine Av (R:=[]) (Sl.nil' h.next _ _) hl (Nat.le_refl _) (by simp;omega) ?_;intro w h4 s4 g4;simp (disch:=omega)only[go_sem, *];exact kk _ _ s4 ⟨g4.next,g4.lim,g4.low⟩
theorem MC {l:List Int} (h:l.length=16):l=[nth l 0,nth l 1,nth l 2,nth l 3,nth l 4,nth l 5,nth l 6,nth l 7,nth l 8,nth l 9,nth l 10,nth l 11,nth l 12,nth l 13,nth l 14,nth l 15]:=by
 match l,h with
 | [a,b,c,d,e,f,g,i,a',b',c',d',e',f',g',i'],_=>rfl
theorem bAP {l m:List Int} (h:l.length=16) (h2:m.length=16):l=m↔nth l 0=nth m 0/\nth l 1=nth m 1/\nth l 2=nth m 2/\nth l 3=nth m 3/\nth l 4=nth m 4/\nth l 5=nth m 5/\nth l 6=nth m 6/\nth l 7=nth m 7/\nth l 8=nth m 8/\nth l 9=nth m 9/\nth l 10=nth m 10/\nth l 11=nth m 11/\nth l 12=nth m 12/\nth l 13=nth m 13/\nth l 14=nth m 14/\nth l 15=nth m 15:=by
 refine ⟨λe=>by rw [e];simp,λ⟨e0,e1,e2,e3,e4,e5,e6,e7,e8,e9,f0,f1,f2,f3,f4,f5⟩=>?_⟩;rw [MC h,MC h2,e0,e1,e2,e3,e4,e5,e6,e7,e8,e9,f0,f1,f2,f3,f4,f5]
theorem sQ {h0 h1 h2 h3 h4:Int} {st:Bool} {R:List (List V)} (gl:h.get lg=some ⟨7,[[.i .i64 h0,.i .i64 h1,.i .i64 h2,.i .i64 h3,.i .i64 h4,f,.b st]]⟩) (sf:Sl b h 3 f R) (hR:R.length<4000000000) (kk:∀ r h',Sl h.next h' 3 r R->Ak h h'->K r h'):Cq tp UI [.p lg 0 0] h K:=by
 refine Aa aMZ (by simp [QK]) λwf rp=>?_;unfold QK;simp (disch:=omega)only[go_sem, *];refine VD sf wf.1 hR ?_;intro r h' s1 x1;have k:=kk r h' s1 x1;clear kk sf;simp (disch:=omega)only[go_sem, *]
theorem HY {mem fl:List (List V)} {st:Bool} {rw:List V} (gp:h.get pp=some ⟨26,[rw]⟩) (f24:rw[24]?=some (.p lg 0 0)) (rl:rw.length=26) (gl:h.get lg=some ⟨7,[[.i .i64 c.h0,.i .i64 c.h1,.i .i64 c.h2,.i .i64 c.h3,.i .i64 c.h4,f,.b st]]⟩) (sf:Sl b h 3 f fl) (hR:fl.length<4000000000) (kk:∀ r h',Sl h.next h' 3 r fl->Ak h h'->K r h'):Cq tp ZM [.p pp 0 0] h K:=by
 refine Aa aMC (by simp [Qn]) λwf rp=>?_;unfold Qn;simp (disch:=omega)only[go_sem, *];refine sQ gl sf hR ?_;intro r h' s1 x1;have k:=kk r h' s1 x1;clear kk sf;simp (disch:=omega)only[go_sem, *]
theorem S9 (p:PA b h pp tb lg w a f c s) (kk:∀ r h',Sl h.next h' 3 r (s.fl.map FT.enc)->Ak h h'->K r h'):Cq tp ZM [.p pp 0 0] h K:=
 HY (mem:=[]) p.gp (AG.f24 p.l3) (AG.len p.l3) p.gl p.sf (by rw [List.length_map];have:=p.l6;omega) kk
theorem Tc {st:Bool} {rw:List V} (gp:h.get pp=some ⟨26,[rw]⟩) (f24:rw[24]?=some (.p lg 0 0)) (rl:rw.length=26) (gl:h.get lg=some ⟨7,[[.i .i64 c.h0,.i .i64 c.h1,.i .i64 c.h2,.i .i64 c.h3,.i .i64 c.h4,f,.b st]]⟩) (kk:K (.b st) h):Cq tp sY [.p pp 0 0] h K:=by
 refine Aa aAv (by simp [Tr]) λwf rp=>?_;unfold Tr;simp (disch:=omega)only[go_sem, *];refine O1 gl ?_;simp (disch:=omega)only[go_sem, *]
theorem cO {i:Nat} (p:PA b h pp tb lg w a f c s) (hi:i<s.all.length) (kk:∀ h',Ak h h'->K (.agg [.i .u32 (nth (nth s.all i).r 0),.i .u32 (nth (nth s.all i).r 1),.i .u32 (nth (nth s.all i).r 2),.i .u32 (nth (nth s.all i).r 3),.i .u32 (nth (nth s.all i).r 4),.i .u32 (nth (nth s.all i).r 5),.i .u32 (nth (nth s.all i).r 6),.i .u32 (nth (nth s.all i).r 7)]) h'):Cq tp MA [.p pp 0 0,.i .i64 i] h K:=by
 obtain ⟨sg,sr,slt,slo,sat,set⟩:=C0 p.sa hi;have hx:=p.l4 _ (Az hi);have gp:=p.gp;have np:=p.np.1;have lit:=ST.lit hx.1;have len:=p.sa.facts.1;have f7:=AG.f7 (c:=c) (tb:=tb) (lg:=lg) (a:=a) (mem:=s.mem) (clk:=s.clk);have rl:=AG.len (c:=c) (tb:=tb) (lg:=lg) (a:=a) (clk:=s.clk) p.l3;have at0:=sat (AP h a)
 rw [lit] at sr;have z1:¬ (i:Int)<0:=by omega
 have z2:¬ (s.all.length:Int)<=i:=by omega
 have hlim:=p.lim;have bp:=p.bp.1;have fin:=kk ((h.alloc ⟨8,[[.i .u32 0,.i .u32 0,.i .u32 0,.i .u32 0,.i .u32 0,.i .u32 0,.i .u32 0,.i .u32 0]]⟩).put h.next ⟨8,[[.i .u32 (nth (nth s.all i).r 0),.i .u32 (nth (nth s.all i).r 1),.i .u32 (nth (nth s.all i).r 2),.i .u32 (nth (nth s.all i).r 3),.i .u32 (nth (nth s.all i).r 4),.i .u32 (nth (nth s.all i).r 5),.i .u32 (nth (nth s.all i).r 6),.i .u32 (nth (nth s.all i).r 7)]]⟩) (by (repeat (first | exact Ak.refl _ | refine Ak.alloc ?_ _ | (refine Ak.put ?_ _ _ ?_;rotate_left;(first | omega | (simp only [Ac,Ah];omega))))));clear kk p;refine Aa aMi (by simp [P1]) λwf rp=>?_;unfold P1;simp (disch:=omega)only[go_sem, *]
theorem U4 (x:ST):x.enc.all PV=true:=by unfold ST.enc;simp [PV]
section
variable {b' tq:Nat} {w':V} {P Q:List PR}
theorem hZ (g1:h.get tb=some ⟨1,[[w]]⟩) (g2:h.get tq=some ⟨1,[[w']]⟩) (s1:Sl b h 3 w (P.map PR.enc)) (s2:Sl b' h 3 w' (Q.map PR.enc)) (h1:P.length<=3) (h2:Q.length<=3) (kk:K (.b (decide (P=Q))) h):Cq tp ZL [.p tb 0 0,.p tq 0 0] h K:=by
 refine Aa aMA (by simp [Ql]) λwf rp=>?_;unfold Ql;simp (disch:=omega)only[go_sem, *];refine Pf.look (RS (L:=P) (M:=Q)) (.cons _ _ _ _ _ (Sl.froze (Sl.raise s1) (λ_=>rfl) trivial om) (.cons _ _ _ _ _ (Sl.froze (Sl.raise s2) (λ_=>rfl) trivial om) (.nil _))) rfl λ_=>?_;simp (disch:=omega)only[go_sem, *]
end
theorem cR (p:PA b h pp tb lg w a f c s) (kk:K (.b false) h):Cq tp VX [.p pp 0 0,.np] h K:=by
 clear p;refine Aa aAw (by simp [Tt]) λwf rp=>?_;unfold Tt;simp (disch:=omega)only[go_sem, *]
variable {pq tq lq:Nat} {w' a' f':V} {c':PC} {s':PS} {b':Nat}
theorem Tb {l:Nat} (p:PA b (h.back l) pp tb lg w a f c s) (q:PA b' (h.back l) pq tq lq w' a' f' c' s') (kk:∀ h',Ak h h'->K (.b (decide (s.clk=s'.clk/\s.mem=s'.mem/\s.all=s'.all/\s.procs=s'.procs/\s.halt=s'.halt/\s.fl=s'.fl))) h'):Cq tp VX [.p pp 0 0,.p pq 0 0] h K:=by
 have g1:h.get pp=_:=p.gp;have g2:h.get pq=_:=q.gp;have psa:Sl b h 9 a _:=p.sa;have qsa:Sl b' h 9 a' _:=q.sa;have psw:Sl b h 3 w _:=p.sw;have qsw:Sl b' h 3 w' _:=q.sw;have psf:Sl b h 3 f _:=p.sf;have qsf:Sl b' h 3 f' _:=q.sf;have lit1:=MC p.l3;have lit2:=MC q.l3;have e16:=bAP p.l3 q.l3;unfold AG at g1 g2;rw [lit1] at g1;rw [lit2] at g2;clear lit1 lit2;simp only [go_sem,List.map_cons,List.map_nil,List.cons_append,List.nil_append] at g1 g2;refine Aa aAw (by simp [Tt]) λwf rp=>?_;unfold Tt;simp (disch:=omega)only[go_sem, *];have rb:h.raise.back h.lim=h:=Hj;have no:¬ (s.clk=s'.clk/\s.mem=s'.mem/\s.all=s'.all/\s.procs=s'.procs/\s.halt=s'.halt/\s.fl=s'.fl)->K (.b false) h:=λz=>by
  have:=kk h (Ak.refl h)
  rwa [decide_eq_false z] at this
 refine Ax (λc1=>?_) (λc1=>?_)
 rotate_left
 .have:=no (λz=>c1 z.1);clear kk no p q;simp (disch:=omega)only[go_sem, *]
 have c1':s.clk=s'.clk:=c1;clear c1;simp (disch:=omega)only[go_sem, *];refine Ax (λc2=>?_) (λc2=>?_)
 rotate_left
 .have:=no (λz=>c2 (e16.1 z.2.1));clear kk no p q;simp (disch:=omega)only[go_sem, *]
 have c2':=e16.2 c2;clear c2 e16;simp (disch:=omega)only[go_sem, *];have l1:=p.l6;have l2:=q.l6;have l3:=p.l2;have l4:=q.l2;have l5:=p.l1;have l7:=q.l1;refine Pf.look (RU (L:=s.all) (M:=s'.all) (λx hx=>(p.l4 x hx).1) (λx hx=>(q.l4 x hx).1)) (.cons _ _ _ _ _ (Sl.froze (Sl.raise psa) (λx=>U4 x) trivial om) (.cons _ _ _ _ _ (Sl.froze (Sl.raise qsa) (λx=>U4 x) trivial om) (.nil _))) rfl λ_=>?_;simp (disch:=omega)only[go_sem, *];refine Ax (λc3=>?_) (λc3=>?_)
 rotate_left
 .have:=no (λz=>c3 z.2.2.1);clear kk no p q;simp (disch:=omega)only[go_sem, *]
 have c3':s.all=s'.all:=c3;clear c3;simp (disch:=omega)only[go_sem, *];refine hZ (h:=h.raise) (tb:=tb) (tq:=tq) (w:=w) (w':=w') (b:=b) (b':=b') (P:=s.procs) (Q:=s'.procs) p.gt q.gt (Sl.raise psw) (Sl.raise qsw) l5.2 l7.2 ?_;simp (disch:=omega)only[go_sem, *];refine Ax (λc4=>?_) (λc4=>?_)
 rotate_left
 .have:=no (λz=>c4 z.2.2.2.1);clear kk no p q;simp (disch:=omega)only[go_sem, *]
 have c4':s.procs=s'.procs:=c4;clear c4;simp (disch:=omega)only[go_sem, *];refine Tc (h:=h.raise) (c:=c) (lg:=lg) (f:=f) (st:=s.halt) p.gp (AG.f24 p.l3) (AG.len p.l3) p.gl ?_;simp (disch:=omega)only[go_sem, *];refine Tc (h:=h.raise) (c:=c') (lg:=lq) (f:=f') (st:=s'.halt) q.gp (AG.f24 q.l3) (AG.len q.l3) q.gl ?_;simp (disch:=omega)only[go_sem, *];rw [show h.raise.back (h.raise.back (h.raise.back (h.raise.back h.lim).lim).lim).lim=h from rfl];refine Ax (λc5=>?_) (λc5=>?_)
 rotate_left
 .have:=no (λz=>c5 z.2.2.2.2.1);clear kk no p q;simp (disch:=omega)only[go_sem, *]
 have c5':s.halt=s'.halt:=c5;clear c5;simp (disch:=omega)only[go_sem, *];have np:pp<h.next/\_:=p.np;have nq:pq<h.next/\_:=q.np;refine HY (h:=h.raise) (b:=b) (c:=c) (lg:=lg) (f:=f) (st:=s.halt) (mem:=[]) (fl:=s.fl.map FT.enc) p.gp (AG.f24 p.l3) (AG.len p.l3) p.gl (Sl.raise psf) (by rw [List.length_map];omega) ?_;intro r1 h1 s1 x1;have x1':Ak h (h1.back h.lim):=⟨x1.next,rfl,x1.get⟩
 have sf:=qsf.ext x1';have gp:=(x1'.get pq nq.1).trans (show h.get pq=_ from q.gp);have gl:=(x1'.get lq nq.2.2).trans (show h.get lq=_ from q.gl);have s1b:=Sl.back (l:=h.lim) s1;simp (disch:=omega)only[go_sem, *];refine HY (h:=(h1.back h.lim).raise) (b:=b') (c:=c') (lg:=lq) (f:=f') (st:=s'.halt) (mem:=[]) (fl:=s'.fl.map FT.enc) gp (AG.f24 q.l3) (AG.len q.l3) gl (Sl.raise sf) (by rw [List.length_map];omega) ?_;intro r2 h2 s2 x2;have x2':Ak h (h2.back h.lim):=⟨Nat.le_trans x1.next x2.next,rfl,λj hj=>(x2.get j (Nat.lt_of_lt_of_le hj x1.next)).trans (x1.get j hj)⟩
 have s1c:Sl h.next (h2.back h.lim) 3 r1 (s.fl.map FT.enc):=Sl.back (l:=h.lim) ((Sl.raise s1b).ext x2);have s2c:Sl h1.next (h2.back h.lim) 3 r2 (s'.fl.map FT.enc):=Sl.back (l:=h.lim) s2;have fin:=kk _ x2';have er:(h2.back h.lim).raise.back h.lim=h2.back h.lim:=rfl;simp (disch:=omega)only[go_sem, *];refine Pf.look (RR (L:=s.fl) (M:=s'.fl)) (.cons _ _ _ _ _ (Sl.froze (Sl.raise s1c) (λ_=>rfl) trivial om) (.cons _ _ _ _ _ (Sl.froze (Sl.raise s2c) (λ_=>rfl) trivial om) (.nil _))) rfl λ_=>?_;have ed:decide (s.clk=s'.clk/\s.mem=s'.mem/\s.all=s'.all/\s.procs=s'.procs/\s.halt=s'.halt/\s.fl=s'.fl)=decide (s.fl=s'.fl):=by simp [c1',c2',c3',c4',c5']
 rw [ed] at fin;clear kk no p q x1 x2 x1' x2' s1 s2 s1b s1c s2c sf gp gl ed psa qsa psw qsw psf qsf;simp (disch:=omega)only[go_sem, *]
theorem cQ (p:PA b h pp tb lg w a f c s) (q:PA b' h pq tq lq w' a' f' c' s') (kk:∀ h',Ak h h'->K (.b (decide (s.clk=s'.clk/\s.mem=s'.mem/\s.all=s'.all/\s.procs=s'.procs/\s.halt=s'.halt/\s.fl=s'.fl))) h'):Cq tp VX [.p pp 0 0,.p pq 0 0] h K:=Tb (l:=h.lim) p q kk
end
end Go.Ab.T
namespace Go.Ab.T
open Go Go.Ab
set_option maxHeartbeats 8000000
def kAP (h1:Int) (two:Bool):Part:=⟨⟨#[97]⟩,0,0,false,false,if two=true then [⟨0,0⟩,⟨12,9⟩] else [⟨0,0⟩],0,h1,0,0,0⟩
def kA (h1:Int) (two:Bool):Am:=⟨[kAP h1 two],[],[[⟨1,0,1⟩]]⟩
theorem WB {L:List Bl} (h:(L.all D8&&decide (1<=L.length/\L.length<=3))=true):Cc L=true:=by unfold Cc;exact h
theorem bF {h1:Int} {two:Bool} (hh:h1=0\/h1=2):EV (kAP h1 two)=true:=by
 have:∀ t:Bool,Cc (if t=true then [⟨0,0⟩,⟨12,9⟩] else [⟨0,0⟩])=true:=λt=>by cases t<;>exact WB (by decide)
 have:Cc (kAP h1 two).procs=true:=this two;unfold EV;rw [this];rcases hh with rfl | rfl<;>cases two<;>decide
theorem bG {h1:Int} {two:Bool} (hh:h1=0\/h1=2):Bu (kA h1 two)=(0,-1):=by
 rw [Ey];refine ⟨⟨show 1<=1 by decide,show 1<=6 by decide,show 0<=8 by decide,show 1<=1 by decide,show 1<=3 by decide⟩,λj hj=>?_,λx hx=>(by cases hx),λt ht=>?_⟩
 .have hj:j<1:=hj;obtain rfl:j=0:=by omega
  exact ⟨tG,rfl,bF hh⟩
 .rw [List.mem_singleton.1 ht,LY];refine ⟨aY0, ?_⟩;rw [Kl];exact ⟨rfl,FM _ _ λp hp=>by rw [List.mem_singleton.1 hp];rfl⟩
theorem aAz {h1:Int} {two:Bool}:Js (kA h1 two):=λp hp=>by
 rw [List.mem_singleton.1 hp];exact (by decide:(1:Nat)<4000000000)
section
variable {b pp tb lg:Nat} {h:AH} {w a f:V} {c:PC} {s s':PS} {l:Loc} {ok:Bool} {K:V->AH->Prop}
def Ie (c:PC) (s:PS):Loc×Bool×PS:=((Bn c noK () s).1,(Bn c noK () s).2.1,(Bn c noK () s).2.2.1)
theorem WT (p:PA b h pp tb lg w a f c s) (g:PG c) (n:PN c) (hpl:(nth c.c.parts c.p).procs.length=s.procs.length) (hk:s.clk+1<3000000000)
    (kk:∀ h' a' f',Pt pp lg w h a f h' a' f'->PA b h' pp tb lg w a' f' c (Ie c s).2.2->K (.tup [.agg (Ie c s).1.enc,.b (Ie c s).2.1]) h'):Cq tp SR [.p pp 0 0,.ni] h K:=
 U6 (k:=noK) (q:=()) (I:=λ_=>False) (.inr ⟨rfl,rfl⟩) aNE (λ_ e=>e) (λ_ e=>e.elim) p g n hpl hk (λh' a' f' I' x _ _ p'=>kk h' a' f' ⟨x.w.mono (λ_ e=>e.elim (λz=>z) (λz=>z.elim)),x.a,x.f⟩ p')
theorem Ig (e:Ie c s=(l,ok,s')) (p:PA b h pp tb lg w a f c s) (g:PG c) (n:PN c) (hpl:(nth c.c.parts c.p).procs.length=s.procs.length) (hk:s.clk+1<3000000000)
    (kk:∀ h' a' f',Pt pp lg w h a f h' a' f'->PA b h' pp tb lg w a' f' c s'->K (.tup [.agg l.enc,.b ok]) h'):Cq tp SR [.p pp 0 0,.ni] h K:=
 WT p g n hpl hk (by rw [e];exact kk)
theorem HT (p:PA b h pp tb lg w a f c s) {j:Nat} (hj:h.next<=j):¬ IP pp lg w a f j:=by
 obtain ⟨e1,e2,e3,e4,e5,e6⟩:=p.fresh hj;rintro (e | e | e | e | ⟨z,e⟩)
 .exact e1 e
 .exact e3 e
 .exact e4 e
 .exact e5 e
 .exact (e6.resolve_left (by rw [z];decide)) e
theorem CR {h':AH} {a' f':V} {j:Nat} (pt:Pt pp lg w h a f h' a' f') (hj:j<h.next) (hn:¬ IP pp lg w a f j):h'.get j=h.get j/\¬ IP pp lg w a' f' j:=
 ⟨pt.w.get j hj hn,λe=>hn (pt.ip hj e)⟩
theorem Ta {p:Int} {x y:V} (kk:∀ h',Ak h h'->K .np h'):Cq tp SQ [.agg [.ns,.ns,.ns],.i .i64 p,x,y] h K:=by
 have rt:=KO (C:=⟨[],[],[]⟩) (λp hp=>by cases hp);have hw:=bE;have f:=kk (h.alloc ⟨3,[[.ns,.ns,.ns]]⟩) (by (repeat (first | exact Ak.refl _ | refine Ak.alloc ?_ _ | (refine Ak.put ?_ _ _ ?_;rotate_left;(first | omega | (simp only [Ac,Ah];omega))))));clear kk;refine Aa Zh (by simp [Oh]) λwf rp=>?_;unfold Oh;simp (disch:=omega)only[go_sem, *];refine Pf.look rt (.cons _ _ _ _ _ (.agg _ _ _ (.cons _ _ _ _ _ (.ns _ _) (.cons _ _ _ _ _ (.ns _ _) (.cons _ _ _ _ _ (.ns _ _) (.nil _))))) (.nil _)) rfl λ_=>?_;simp (disch:=omega)only[go_sem, *]
end
theorem tF {h : AH} {C : Am} {q f : Nat} {B : List Int} {sv vp vt : V} {K : V -> AH -> Prop} (hq : q < h.next) (g4 : h.get q = some ⟨3, [[vp, .ns, vt]]⟩) (hp : ∀ n, CY (· ≠ q) h n vp (.fl 11 (C.parts.map Part.enc))) (ht : ∀ n, CY (· ≠ q) h n vt (.fl 1 (C.tables.map Tab.enc))) (hc : C.chans = []) (hb : ∀ n, CY (· ≠ q) h n sv (.fl 1 (B.map CJ)))
    (z:Cq tp f [.agg C.enc,.i .i64 ((0:Nat):Int),.fl 1 (B.map CJ),.fl 1 (([]:List Int).map CL)] ⟨λi=>if i=q then some ⟨3,[C.enc]⟩ else none,h.next,h.lim⟩ K):Cq tp f [.agg [vp,.ns,vt],.i .i64 0,sv,.ns] h K:=by
 have en:C.enc=[.fl 11 (C.parts.map Part.enc),.fl 6 [],.fl 1 (C.tables.map Tab.enc)]:=by unfold Am.enc;rw [hc];rfl
 rw [en] at z;refine TI (h2:=⟨λi=>if i=q then some ⟨3,[[.fl 11 (C.parts.map Part.enc),.fl 6 [],.fl 1 (C.tables.map Tab.enc)]]⟩ else none,h.next,h.lim⟩) (args':=[.agg [.fl 11 (C.parts.map Part.enc),.fl 6 [],.fl 1 (C.tables.map Tab.enc)],.i .i64 ((0:Nat):Int),.fl 1 (B.map CJ),.fl 1 (([]:List Int).map CL)]) (λi=>i≠q) rfl rfl (λ_ i k hk=>?_) (.cons _ _ _ _ _ (.agg _ _ _ (.cons _ _ _ _ _ (hp _) (.cons _ _ _ _ _ (.ns _ _) (.cons _ _ _ _ _ (ht _) (.nil _))))) (.cons _ _ _ _ _ (.z _ _ (.i _ _)) (.cons _ _ _ _ _ (hb _) (.cons _ _ _ _ _ (.ns _ _) (.nil _))))) z
 by_cases hi:i=q
 .subst hi;simp only [if_true] at hk;cases hk;exact ⟨hq,λe=>e rfl,_,g4,.cons _ _ _ _ _ (.cons _ _ _ _ _ (hp _) (.cons _ _ _ _ _ (.ns _ _) (.cons _ _ _ _ _ (ht _) (.nil _)))) (.nil _)⟩
 .simp only at hk;rw [if_neg hi] at hk;cases hk
def kpP:List Int:=[1,1,0,7,5,2,1,3,11,0,1,0]
def iU:PC:=Cy (kA 2 false) 0 kpP []
def W5 (pc:Int) (r1:Int) (fl:List FT) (st:Bool) (clk:Int):PS:=⟨[⟨0,0,false⟩],[⟨[0,r1,0,0,0,0,0,0],pc⟩],List.replicate 16 0,fl,st,clk⟩
theorem kp0:Ef iU=W5 0 0 [] false 0:=by decide +kernel
theorem kp1:Ie iU (W5 0 0 [] false 0)=(⟨0,0,0,1,0,7⟩,true,W5 4 7 [] false 1):=by decide +kernel
theorem kp2:Ie iU (W5 4 7 [] false 1)=(⟨1,0,4,5,4,0⟩,true,W5 8 7 [⟨1,0,4⟩] false 2):=by decide +kernel
theorem kp3:Ie iU (W5 8 7 [⟨1,0,4⟩] false 2)=(⟨2,0,8,11,5,0⟩,true,W5 12 7 [⟨1,0,4⟩,⟨2,0,5⟩] false 3):=by decide +kernel
theorem kp4:Ie iU (W5 12 7 [⟨1,0,4⟩,⟨2,0,5⟩] false 3)=(⟨3,0,12,0,2,0⟩,true,W5 12 7 [⟨1,0,4⟩,⟨2,0,5⟩,⟨3,0,2⟩] true 4):=by decide +kernel
theorem kp5:Ie iU (W5 12 7 [⟨1,0,4⟩,⟨2,0,5⟩,⟨3,0,2⟩] true 4)=(⟨0,0,0,0,0,0⟩,false,W5 12 7 [⟨1,0,4⟩,⟨2,0,5⟩,⟨3,0,2⟩] true 4):=by decide +kernel
theorem kpG:PG iU:=⟨by decide,by decide⟩
theorem kpN:PN iU:=⟨by decide,λz hz=>(by cases hz),by decide⟩
theorem SW:Pf tp aNr [] (.b true):=by
 refine AL aYW (by simp [eP]) λrp=>?_;unfold eP;simp (disch:=omega)only[go_sem, *];refine tF (q:=4) (C:=kA 2 false) (B:=kpP) (by simp only [go_sem]) (by simp only [go_sem]) (λn=>?_) (λn=>?_) rfl (λn=>?_) ?_
 .exact Nz (by decide) rfl (.cons _ _ _ _ _ (.z _ _ (.s _)) (.cons _ _ _ _ _ (.z _ _ (.i _ _)) (.cons _ _ _ _ _ (.z _ _ (.i _ _)) (.cons _ _ _ _ _ (.z _ _ (.b _)) (.cons _ _ _ _ _ (.z _ _ (.b _)) (.cons _ _ _ _ _ (Nz (by decide) rfl (.cons _ _ _ _ _ (.z _ _ (.i _ _)) (.cons _ _ _ _ _ (.z _ _ (.i _ _)) (.nil _)))) (.cons _ _ _ _ _ (.z _ _ (.i _ _)) (.cons _ _ _ _ _ (.z _ _ (.i _ _)) (.cons _ _ _ _ _ (.z _ _ (.i _ _)) (.cons _ _ _ _ _ (.z _ _ (.i _ _)) (.cons _ _ _ _ _ (.z _ _ (.i _ _)) (.nil _))))))))))))
 .exact Nz (by decide) rfl (.cons _ _ _ _ _ (Nz (by decide) rfl (.cons _ _ _ _ _ (.z _ _ (.i _ _)) (.cons _ _ _ _ _ (.z _ _ (.i _ _)) (.cons _ _ _ _ _ (.z _ _ (.i _ _)) (.nil _))))) (.nil _))
 .exact .sl _ _ _ _ _ _ _ _ (by decide) rfl (by decide) (by decide) (by decide) (Dc.of_map (enc:=CJ) (λ_=>rfl) kpP)
 refine U1 (C:=kA 2 false) (p:=0) (prog:=kpP) (ins:=[]) aAz (by rw [bG (.inr rfl)]) (by decide) (by decide) (by decide) (by decide) ?_;intro h1 pp tb lg w a x1 p0;replace p0:PA 6 h1 pp tb lg w a .ns iU (Ef iU):=p0;rw [kp0] at p0;have c4:h1.get 4=some ⟨3,[(kA 2 false).enc]⟩:=x1.get 4 (by decide);have n4:6<=h1.next:=x1.next;have eC:(kA 2 false).enc=[.fl 11 ((kA 2 false).parts.map Part.enc),.fl 6 ((kA 2 false).chans.map AU.enc),.fl 1 ((kA 2 false).tables.map Tab.enc)]:=rfl;rw [eC] at c4;clear x1 eC;simp (disch:=omega)only[go_sem, *];refine uP (C:=kA 2 false) aAz (.inr (.inr (by decide))) ?_;intro h2 x2;have p1:=p0.ext x2;clear p0 x2 c4;simp (disch:=omega)only[go_sem, *];refine Ta ?_;intro h3 x3;have p2:=p1.ext x3;clear p1 x3;simp (disch:=omega)only[go_sem, *];refine Ig kp1 p2 kpG kpN rfl (by decide) ?_;intro g1 a1 f1 pt1 q1;have l1:=q1.lim;have n1:=q1.np.1;have b1:=q1.bp.1;have m1:=HT q1 (Nat.le_refl g1.next);clear pt1 p2;simp (disch:=omega)only[go_sem, *];refine Ig kp2 (q1.ext (by (repeat (first | exact Ak.refl _ | refine Ak.alloc ?_ _ | (refine Ak.put ?_ _ _ ?_;rotate_left;(first | omega | (simp only [Ac,Ah];omega))))))) kpG kpN rfl (by decide) ?_;intro g2 a2 f2 pt2 q2;have l2:=q2.lim;have n2:=q2.np.1;have b2:=q2.bp.1;have x2:=pt2.w.next;simp only [go_sem] at x2;obtain ⟨e,m1⟩:=CR pt2 (j:=g1.next) (by simp only [go_sem];omega) m1;simp (disch:=omega)only[go_sem] at e;have v1:=e;clear e;have m2:=HT q2 (Nat.le_refl g2.next);clear pt2 q1 l1 n1 b1;simp (disch:=omega)only[go_sem, *];refine Ig kp3 (q2.ext (by (repeat (first | exact Ak.refl _ | refine Ak.alloc ?_ _ | (refine Ak.put ?_ _ _ ?_;rotate_left;(first | omega | (simp only [Ac,Ah];omega))))))) kpG kpN rfl (by decide) ?_;intro g3 a3 f3 pt3 q3;have l3:=q3.lim;have n3:=q3.np.1;have b3:=q3.bp.1;have x3:=pt3.w.next;simp only [go_sem] at x3;obtain ⟨e,m1⟩:=CR pt3 (j:=g1.next) (by simp only [go_sem];omega) m1;simp (disch:=omega)only[go_sem,v1] at e;clear v1;have v1:=e;clear e;obtain ⟨e,m2⟩:=CR pt3 (j:=g2.next) (by simp only [go_sem];omega) m2;simp (disch:=omega)only[go_sem] at e;have v2:=e;clear e;have m3:=HT q3 (Nat.le_refl g3.next);clear pt3 q2 l2 n2 b2;simp (disch:=omega)only[go_sem, *];refine Ig kp4 (q3.ext (by (repeat (first | exact Ak.refl _ | refine Ak.alloc ?_ _ | (refine Ak.put ?_ _ _ ?_;rotate_left;(first | omega | (simp only [Ac,Ah];omega))))))) kpG kpN rfl (by decide) ?_;intro g4 a4 f4 pt4 q4;have l4:=q4.lim;have n4:=q4.np.1;have b4:=q4.bp.1;have x4:=pt4.w.next;simp only [go_sem] at x4;obtain ⟨e,m1⟩:=CR pt4 (j:=g1.next) (by simp only [go_sem];omega) m1;simp (disch:=omega)only[go_sem,v1] at e;clear v1;have v1:=e;clear e;obtain ⟨e,m2⟩:=CR pt4 (j:=g2.next) (by simp only [go_sem];omega) m2;simp (disch:=omega)only[go_sem,v2] at e;clear v2;have v2:=e;clear e;obtain ⟨e,m3⟩:=CR pt4 (j:=g3.next) (by simp only [go_sem];omega) m3;simp (disch:=omega)only[go_sem] at e;have v3:=e;clear e;have m4:=HT q4 (Nat.le_refl g4.next);clear pt4 q3 l3 n3 b3;simp (disch:=omega)only[go_sem, *];refine Ig kp5 (q4.ext (by (repeat (first | exact Ak.refl _ | refine Ak.alloc ?_ _ | (refine Ak.put ?_ _ _ ?_;rotate_left;(first | omega | (simp only [Ac,Ah];omega))))))) kpG kpN rfl (by decide) ?_;intro g5 a5 f5 pt5 q5;have l5:=q5.lim;have n5:=q5.np.1;have b5:=q5.bp.1;have x5:=pt5.w.next;simp only [go_sem] at x5;obtain ⟨e,m1⟩:=CR pt5 (j:=g1.next) (by simp only [go_sem];omega) m1;simp (disch:=omega)only[go_sem,v1] at e;clear v1;have v1:=e;clear e;obtain ⟨e,m2⟩:=CR pt5 (j:=g2.next) (by simp only [go_sem];omega) m2;simp (disch:=omega)only[go_sem,v2] at e;clear v2;have v2:=e;clear e;obtain ⟨e,m3⟩:=CR pt5 (j:=g3.next) (by simp only [go_sem];omega) m3;simp (disch:=omega)only[go_sem,v3] at e;clear v3;have v3:=e;clear e;obtain ⟨e,m4⟩:=CR pt5 (j:=g4.next) (by simp only [go_sem];omega) m4;simp (disch:=omega)only[go_sem] at e;have v4:=e;clear e;have m5:=HT q5 (Nat.le_refl g5.next);clear pt5 q4 l4 n4 b4;simp (disch:=omega)only[go_sem, *];generalize hE:W5 12 7 [⟨1,0,4⟩,⟨2,0,5⟩,⟨3,0,2⟩] true 4=E at q5;have y1:E.halt=true:=by rw [<- hE];rfl
 have y2:E.clk=4:=by rw [<- hE];rfl
 have y3:nth (nth E.all 0).r 1=7:=by rw [<- hE];rfl
 have y4:(E.fl.length:Int)=3:=by rw [<- hE];rfl
 have y5:0<E.all.length:=by rw [<- hE];decide
 clear hE v1 v2 v3 v4 m1 m2 m3 m4 m5;refine KL (q5.ext (by (repeat (first | exact Ak.refl _ | refine Ak.alloc ?_ _ | (refine Ak.put ?_ _ _ ?_;rotate_left;(first | omega | (simp only [Ac,Ah];omega))))))) ?_;simp (disch:=omega)only[go_sem, *];refine Ws (q5.ext (by (repeat (first | exact Ak.refl _ | refine Ak.alloc ?_ _ | (refine Ak.put ?_ _ _ ?_;rotate_left;(first | omega | (simp only [Ac,Ah];omega))))))) ?_;simp (disch:=omega)only[go_sem, *];refine cO (i:=0) (q5.ext (by (repeat (first | exact Ak.refl _ | refine Ak.alloc ?_ _ | (refine Ak.put ?_ _ _ ?_;rotate_left;(first | omega | (simp only [Ac,Ah];omega))))))) y5 ?_;intro h5 z5;have r5:=(q5.ext (by (repeat (first | exact Ak.refl _ | refine Ak.alloc ?_ _ | (refine Ak.put ?_ _ _ ?_;rotate_left;(first | omega | (simp only [Ac,Ah];omega))))))).ext z5;clear q5 z5;simp (disch:=omega)only[go_sem, *];refine S9 r5 ?_;intro r h6 s6 z6;have r6:=r5.ext z6;have fl:=s6.facts.1;clear s6 z6 r5;simp (disch:=omega)only[go_sem, *];refine cQ r6 r6 ?_;intro h7 z7;have r7:=r6.ext z7;clear r6 z7;rw [show decide (E.clk=E.clk/\E.mem=E.mem/\E.all=E.all/\E.procs=E.procs/\E.halt=E.halt/\E.fl=E.fl)=true from by simp];simp (disch:=omega)only[go_sem, *];refine cR r7 ?_;clear r7;simp (disch:=omega)only[go_sem, *]
end Go.Ab.T
namespace Go.Ab.T
open Go Go.Ab
set_option maxHeartbeats 4000000
/-! What a tick keeps. -/
section
variable {c c':PC} {k:Kn} {q:k.σ} {s:PS} {t pc kd:Int} {i n:Nat}
theorem Kf:(Bw c s t i pc kd).procs.length=s.procs.length:=by
 unfold Bw Cb Fw Be
 repeat' split
 all_goals simp
theorem Ke:(Bw c s t i pc kd).clk=s.clk:=by
 unfold Bw Cb Fw
 repeat' split
 all_goals rfl
theorem sP {x:E7}:(sO c k q s n x).2.1.procs.length=s.procs.length/\(sO c k q s n x).2.1.clk=s.clk+1/\(sO c k q s n x).1.t=s.clk:=by
 obtain ⟨k1,k2,k3,k4,k5⟩:=Ka (k:=k) (q:=q) (c:=c) (s:=Cb { s with clk:=s.clk+1 } n (IntKind.wrap .i64 ((nth s.all n).pc+4))) (t:=s.clk) (op:=x.op) (i:=n) (A:=x.a.toNat) (B:=x.b.toNat) (C:=x.c.toNat);unfold sO;simp only [];split
 .exact ⟨k4,k3,rfl⟩
 .exact ⟨Kf.trans k4,Ke.trans k3,rfl⟩
theorem WN:(E3 c k q s n).2.1.procs.length=s.procs.length/\(E3 c k q s n).2.1.clk=s.clk+1/\(E3 c k q s n).1.t=s.clk:=by
 unfold E3;simp only [];split
 .exact ⟨Kf,Ke,rfl⟩
 .split
  .exact ⟨Kf,Ke,rfl⟩
  .exact sP
theorem WR:(Bn c k q s).2.2.1.procs.length=s.procs.length/\(s.halt=true->(Bn c k q s).1=⟨0,0,0,0,0,0⟩/\(Bn c k q s).2.1=false/\(Bn c k q s).2.2.1=s/\(Bn c k q s).2.2.2=q)/\(s.halt=false->(Bn c k q s).2.1=true/\(Bn c k q s).1.t=s.clk/\(Bn c k q s).2.2.1.clk=s.clk+1):=by
 unfold Bn
 by_cases h:s.halt=true
 .rw [if_pos h];exact ⟨rfl,λ_=>⟨rfl,rfl,rfl,rfl⟩,λe=>by rw [h] at e;cases e⟩
 .rw [if_neg h];split
  .exact ⟨rfl,λe=>absurd e h,λ_=>⟨rfl,rfl,rfl⟩⟩
  .have z:=WN (c:=c) (k:=k) (q:=q) (s:=s) (n:=(DD s.procs s.clk).toNat);exact ⟨z.1,λe=>absurd e h,λ_=>⟨rfl,z.2.2,z.2.1⟩⟩
end
end Go.Ab.T
namespace Go.Ab.T
open Go Go.Ab
set_option maxHeartbeats 8000000
/-! Two partitions in one memory. -/
section
variable {b b' pp tb lg pq tq lq:Nat} {h h1 h2:AH} {w a f a1 f1 w' a' f':V} {c c':PC} {s s' s1:PS}
theorem PA.back {l:Nat} (p:PA b h pp tb lg w a f c s) (hl:l<=b):PA b (h.back l) pp tb lg w a f c s:=
 ⟨p.gp,p.gt,p.gl,p.sw,p.sa,p.sf,hl,p.bp,p.np,p.d,p.dw,p.da,p.df,p.l1,p.l2,p.l3,p.l4,p.l5,p.l6⟩
theorem PA.far {z:Nat} (p:PA b h pp tb lg w a f c s) (x:Wr h (·=z) h2) (hz:z<b):PA b h2 pp tb lg w a f c s:=by
 obtain ⟨q1,q2,q3⟩:=p.low;have bp:=p.bp;exact p.same x (λi e=>⟨om,om,om,om,om,q3.imp (λz=>z) (λz=>by omega)⟩)
end
end Go.Ab.T
namespace Go.Ab.T
open Go Go.Ab
set_option maxHeartbeats 8000000
section
variable {b b' pp tb lg pq tq lq:Nat} {h:AH} {w a f w' a' f':V} {c c2:PC} {s:PS}
theorem Made.procs {C:Am} (m:Made C) {i:Nat} (hi:i<C.parts.length):1<=(nth C.parts i).procs.length/\(nth C.parts i).procs.length<=3:=by
 obtain ⟨_,hp,_,_⟩:=Ey.1 m.wh;have:=(hp i hi).2.2;unfold EV at this;simp only [Bool.and_eq_true] at this;have:=this.1.1;unfold Cc at this;simp only [Bool.and_eq_true,decide_eq_true_eq] at this;omega
end
end Go.Ab.T
namespace Go.Ab.T
open Go Go.Ab
set_option maxHeartbeats 4000000
section
variable {c:PC} {k:Kn} {q:k.σ} {s:PS} {t pc kd op:Int} {i n A B C:Nat}
end
end Go.Ab.T
namespace Go.Ab.T
open Go Go.Ab
set_option maxHeartbeats 4000000
/-! What the document's part does: its instructions, its choice. -/
theorem Bm {op:Int}:Pf tp aR [.i .i64 op] (.tup [.b (Bb op).1,.b (Bb op).2.1,.b (Bb op).2.2]):=by
 refine AL aNk (by simp [Q7]) λrp=>?_;unfold Q7;simp (disch:=omega)only[go_sem, *]
 repeat' (first | (refine Ax (λhc=>?_) (λhc=>?_)<;>simp (disch:=omega)only[go_sem, *]) | (refine Ad (λhc=>?_) (λhc=>?_)<;>simp (disch:=omega)only[go_sem, *]))
 all_goals (unfold Bb;simp [*])
theorem WZ {P:List Int} {pc:Int} (hB:∀ z∈P,0<=z/\z<256):Pf tp Z8 [.fl 1 (P.map CJ),.i .i64 pc] (.tup [.agg (Bo P pc).1.enc,.b (Bo P pc).2]):=by
 have bad:pc<0\/pc.tmod 4≠0\/(P.length:Int) - 4<pc->Bo P pc=(⟨0,0,0,0⟩,false):=λh=>if_pos h;refine AL aM2 (by simp [QN]) λrp=>?_;have hL:=rp.head.len;unfold QN;simp (disch:=omega)only[go_sem, *];refine Ax (λhc=>?_) (λhc=>?_)
 .have e:=bad (.inl hc);clear bad;simp (disch:=omega)only[go_sem, *]
 .simp (disch:=omega)only[go_sem, *];refine Ax (λhc2=>?_) (λhc2=>?_)
  .have e:=bad (.inr (.inl hc2));clear bad;simp (disch:=omega)only[go_sem, *]
  .simp (disch:=omega)only[go_sem, *];refine Ad (λhc3=>?_) (λhc3=>?_)
   .have e:=bad (.inr (.inr hc3));clear bad;simp (disch:=omega)only[go_sem, *]
   .obtain ⟨k,rfl⟩:∃ k:Nat,pc=k:=⟨pc.toNat,om⟩
    have e:Bo P k=(⟨nth P k,nth P (k+1),nth P (k+2),nth P (k+3)⟩,true):=by
     unfold Bo;rw [if_neg om];rfl
    clear bad hc2;have b0:=hB _ (Az (L:=P) (j:=k) om);have b1:=hB _ (Az (L:=P) (j:=k+1) om);have b2:=hB _ (Az (L:=P) (j:=k+2) om);have b3:=hB _ (Az (L:=P) (j:=k+3) om);have k1:((k:Int)+1).toNat=k+1:=by omega
    have k2:((k:Int)+2).toNat=k+2:=by omega
    have k3:((k:Int)+3).toNat=k+3:=by omega
    simp (disch:=omega)only[go_sem, *]
theorem Oo {x:E7} (h:x.ok):Pf tp O4 [.agg x.enc] (.i .u32 (Kv x)):=by
 obtain ⟨_,⟨b0,b1⟩,⟨c0,c1⟩⟩:=h;have e4:IntKind.wrap .u32 (256*x.b+x.c)=Kv x:=by rw [w32 om om];rfl
 simp only [E7.enc];refine AL Fc (by simp [CC]) λrp=>?_;unfold CC;simp (disch:=omega)only[go_sem, *]
theorem W4 {i:E7}:Pf tp UJ [.agg i.enc] (.b (EQ i)):=by
 have t1:=Bm (op:=i.op);have e:EQ i=(decide (0<=i.op/\i.op<=17)&&(Cn i.a (Bb i.op).1&&(Cn i.b (Bb i.op).2.1&&Cn i.c (Bb i.op).2.2))):=rfl;simp only [E7.enc];generalize (Bb i.op).1=a at *;generalize (Bb i.op).2.1=b at *;generalize (Bb i.op).2.2=c at *;have c3:((3:Nat):Int)=3:=rfl;refine AL BF (by simp [A9]) λrp=>?_;unfold A9;simp (disch:=omega)only[go_sem, *]
 iterate 4
  all_goals
   try
    refine BO ?_;rw [Ao aVw.eq_1];simp (disch:=omega)only[go_sem, *]
   repeat' (first | (refine Ax (λhc=>?_) (λhc=>?_)<;>simp (disch:=omega)only[go_sem, *]) | (refine Ad (λhc=>?_) (λhc=>?_)<;>simp (disch:=omega)only[go_sem, *]))
 all_goals try (simp only [Cn];grind)
 refine Pf.go (t1) (by simp only [go_sem]) λ_=>?_;simp (disch:=omega)only[go_sem, *];clear t1
 repeat' (first | (refine Ax (λhc=>?_) (λhc=>?_)<;>simp (disch:=omega)only[go_sem, *]) | (refine Ad (λhc=>?_) (λhc=>?_)<;>simp (disch:=omega)only[go_sem, *]) | (refine CQ (λhc=>?_) (λhc=>?_)<;>simp (disch:=omega)only[go_sem, *]) | (refine Bv (λhc=>?_) (λhc=>?_)<;>simp (disch:=omega)only[go_sem, *]))
 all_goals (simp only [Cn];grind)
def HZ (P:List PR) (now:Int):List PR->Nat->Int->Int
 | [],_,b=>b
 | x::l,i,b=>HZ P now l (i+1) (if x.ended=false/\x.wake<=now/\(b<0\/x.prio<(nth P b.toNat).prio) then i else b)
theorem bL {P:List PR} {i r:Nat} (h:r<i):Ji P i r=decide ((nth P i).prio<(nth P r).prio):=by
 unfold Ji Ju
 congr 1
 refine propext ⟨λz=>?_,λz=>?_⟩<;>(repeat' split at *)<;>first | omega | (exfalso;omega)
theorem Pq {P : List PR} {now : Int} : ∀ (l : List PR) (i : Nat) (R : List Nat) (b : Int), l = P.drop i -> ((R = [] /\ b = -1) \/ ∃ r T, R = r :: T /\ b = ((r : Nat) : Int) /\ r < i) ->
    (CM P now l i R=[]/\HZ P now l i b = -1)\/∃ r T,CM P now l i R=r::T/\HZ P now l i b=((r:Nat):Int)
 | [],i,R,b,_,h=>by
  rcases h with h | ⟨r,T,h1,h2,_⟩
  .exact .inl h
  .exact .inr ⟨r,T,h1,h2⟩
 | x::l,i,R,b,hl,h=>by
  have hi:i<P.length:=Nat.lt_of_not_le λz=>by rw [List.drop_eq_nil_iff.2 z] at hl;cases hl
  have hx:nth P i=x:=by
   have:=AN hi;rw [<- hl] at this;exact (List.cons.inj this).1.symm
  have hl2:l=P.drop (i+1):=by
   have:=AN hi;rw [<- hl] at this;exact (List.cons.inj this).2
  rw [CM,HZ];refine Pq l (i+1) _ _ hl2 ?_
  by_cases hr:x.ended=false/\x.wake<=now
  .rw [if_pos hr];rcases h with ⟨rfl,rfl⟩ | ⟨r,T,rfl,rfl,hri⟩
   .rw [if_pos ⟨hr.1,hr.2,.inl (by decide)⟩];exact .inr ⟨i,[],rfl,rfl,Nat.lt_succ_self i⟩
   .have e1:nth (r::T++[i]) (r::T).length=i:=by simp [nth]
    have e2:nth (r::T++[i]) 0=r:=rfl;have e3:(nth P ((r:Nat):Int).toNat).prio=(nth P r).prio:=by rw [Int.toNat_natCast]
    unfold W7;rw [if_neg (by simp),e1,e2,bL hri,hx,e3]
    by_cases hp:x.prio<(nth P r).prio
    .rw [if_pos (decide_eq_true hp),if_pos ⟨hr.1,hr.2,.inr hp⟩];refine .inr ⟨i,(T++[i]).set T.length r, ?_,rfl,Nat.lt_succ_self i⟩;unfold E4;rw [e1,e2];simp
    .rw [if_neg (by simpa using hp),if_neg (by rintro ⟨_,_,z | z⟩;omega;exact hp z)];exact .inr ⟨r,T++[i],rfl,rfl,om⟩
  .rw [if_neg hr,if_neg (λz=>hr ⟨z.1,z.2.1⟩)];rcases h with h | ⟨r,T,h1,h2,h3⟩
   .exact .inl h
   .exact .inr ⟨r,T,h1,h2,om⟩
theorem cJ {P:List PR} {now:Int}:HZ P now P 0 (-1)=DD P now:=by
 unfold DD;rcases Pq (P:=P) (now:=now) P 0 [] (-1) rfl (.inl ⟨rfl,rfl⟩) with ⟨h1,h2⟩ | ⟨r,T,h1,h2⟩
 .rw [h1,h2];rfl
 .rw [h1,h2];rfl
end Go.Ab.T
namespace Go.Ab.T
open Go Go.Ab
set_option maxHeartbeats 8000000
/-! The document's kernel, and what its ports have. -/
@[go_sem] def enV (v:V):List V:=[v]
def F0 (C:Am) (ip:Nat) (pe:Int) (en:Bool):List V:=[.fl 11 (C.parts.map Part.enc),.fl 6 (C.chans.map AU.enc),.fl 1 (C.tables.map Tab.enc),.p ip 0 0,.i .i64 pe,.i .i64 0,.b en]
structure Hz (b:Nat) (h:AH) (C:Am) (ip:Nat) (vC vL:V) (X:List V) (Q:List (List Int)):Prop where
 gi:h.get ip=some ⟨2,[[vC,vL]]⟩
 sc:Sl b h 6 vC (C.chans.map AU.enc)
 sl:Sl b h 1 vL (X.map enV)
 xl:X.length=Q.length
 sx:∀ i,i<Q.length->Sl b h 1 (nth X i) ((nth Q i).map CL)
 ql:Q.length=C.chans.length
 lim:h.lim<=b
 bp:b<=ip/\ip<h.next
 nL:AA vL=false
 dL:Ap vL≠ip/\(AA vC=true\/Ap vC≠Ap vL)
 dC:AA vC=true\/Ap vC≠ip
 dX:∀ i,i<Q.length->AA (nth X i)=true\/(Ap (nth X i)≠ip/\Ap (nth X i)≠Ap vL)
 u:∀ i,i<Q.length->Ej (nth Q i)/\(nth Q i).length<=8
def Re (ip:Nat) (vC vL:V) (X:List V) (j:Nat):Prop:=j=ip\/j=Ap vL\/(AA vC=false/\j=Ap vC)\/∃ i,i<X.length/\AA (nth X i)=false/\j=Ap (nth X i)
def Dv (C:Am) (Q:List (List Int)) (i:Nat) (n:Int):Int×List (List Int):=
 if C.chans.length<=i\/(nth C.chans i).top<n then (3,Q)
 else if (nth C.chans i).queue=false then (0,Q.set i [n])
 else if (nth C.chans i).cap<=(nth Q i).length then (1,Q) else (0,Q.set i (nth Q i++[n]))
def BX (C:Am) (Q:List (List Int)) (i:Nat):Int×Int×List (List Int):=
 if C.chans.length<=i\/(nth Q i).length=0 then (0,2,Q) else (nth (nth Q i) 0,0,if (nth C.chans i).queue=true then Q.set i (nth Q i).tail else Q)
section
variable {b ip i:Nat} {h h':AH} {C:Am} {vC vL x':V} {X:List V} {Q:List (List Int)} {n:Int} {K:V->AH->Prop} {J:Nat->Prop} {l':List Int}
theorem Hz.keep (k:Hz b h C ip vC vL X Q) (x:Wr h J h') (hJ:∀ j,Re ip vC vL X j->¬ J j):Hz b h' C ip vC vL X Q:=by
 refine ⟨(x.get _ k.bp.2 (hJ _ (.inl rfl))).trans k.gi,BZ k.sc x ?_,BZ k.sl x (.inr (hJ _ (.inr (.inl rfl)))),k.xl,λi hi=>BZ (k.sx i hi) x ?_,k.ql,by rw [x.lim];exact k.lim,⟨k.bp.1,Nat.lt_of_lt_of_le k.bp.2 x.next⟩,k.nL,k.dL,k.dC,k.dX,k.u⟩
 .cases q:AA vC with
  | true=>exact .inl rfl
  | false=>exact .inr (hJ _ (.inr (.inr (.inl ⟨q,rfl⟩))))
 .cases q:AA (nth X i) with
  | true=>exact .inl rfl
  | false=>exact .inr (hJ _ (.inr (.inr (.inr ⟨i,by rw [k.xl];exact hi,q,rfl⟩))))
theorem Hz.low (k:Hz b h C ip vC vL X Q):∀ j,Re ip vC vL X j->b<=j/\j<h.next:=by
 rintro j (rfl | rfl | ⟨q,rfl⟩ | ⟨i,hi,q,rfl⟩)
 .exact k.bp
 .exact ⟨(Au k.sl).resolve_left (by rw [k.nL];decide),(E2 k.sl).resolve_left (by rw [k.nL];decide)⟩
 .exact ⟨(Au k.sc).resolve_left (by rw [q];decide),(E2 k.sc).resolve_left (by rw [q];decide)⟩
 .have s:=k.sx i (by rw [<- k.xl];exact hi);exact ⟨(Au s).resolve_left (by rw [q];decide),(E2 s).resolve_left (by rw [q];decide)⟩
theorem Hz.upd (k : Hz b h C ip vC vL X Q) (hi : i < Q.length) (x : Wr h (· = Ap vL) h') (g : h'.get (Ap vL) = some ⟨1, (AP h vL).set (Ca vL + i) [x']⟩) (s : Sl h.next h' 1 x' (l'.map CL)) (hu : Ej l' /\ l'.length <= 8) :
    Hz b h' C ip vC vL (X.set i x') (Q.set i l')/\∀ j,Re ip vC vL (X.set i x') j->Re ip vC vL X j\/h.next<=j:=by
 have lo:=k.low;have bp:=k.bp;have hiX:i<X.length:=by rw [k.xl];exact hi
 have nx:∀ j,j<X.length->nth (X.set i x') j=if i=j then x' else nth X j:=λj hj=>by
  rw [Ba (by simpa using hj),List.getElem_set];split
  .rfl
  .rw [Ba hj]
 have nq:∀ j,j<Q.length->nth (Q.set i l') j=if i=j then l' else nth Q j:=λj hj=>by
  rw [Ba (by simpa using hj),List.getElem_set];split
  .rfl
  .rw [Ba hj]
 have so:=Au s;have lL:=lo _ (.inr (.inl rfl));refine ⟨⟨(x.get _ bp.2 (λe=>k.dL.1 e.symm)).trans k.gi,BZ k.sc x k.dL.2, ?_,by simp [k.xl],λj hj=>?_,by simp [k.ql],by rw [x.lim];exact k.lim,⟨bp.1,Nat.lt_of_lt_of_le bp.2 x.next⟩,k.nL,k.dL,k.dC,λj hj=>?_,λj hj=>?_⟩,λj e=>?_⟩
 .exact Sl.setT k.sl hiX x.next (by rw [g];rfl)
 .rw [List.length_set] at hj;rw [nx j (by rw [k.xl];exact hj),nq j hj]
  by_cases e:i=j
  .rw [if_pos e,if_pos e];exact Sl.weak s om
  .rw [if_neg e,if_neg e];exact BZ (k.sx j hj) x ((k.dX j hj).imp (λz=>z) (λz=>z.2))
 .rw [List.length_set] at hj;rw [nx j (by rw [k.xl];exact hj)]
  by_cases e:i=j
  .rw [if_pos e];exact so.imp (λz=>z) (λz=>by omega)
  .rw [if_neg e];exact k.dX j hj
 .rw [List.length_set] at hj;rw [nq j hj]
  by_cases e:i=j
  .rw [if_pos e];exact hu
  .rw [if_neg e];exact k.u j hj
 .rcases e with e | e | e | ⟨q,hq,q1,q2⟩
  .exact .inl (.inl e)
  .exact .inl (.inr (.inl e))
  .exact .inl (.inr (.inr (.inl e)))
  .rw [List.length_set] at hq;rw [nx q hq] at q1 q2
   by_cases e:i=q
   .rw [if_pos e] at q1 q2;exact .inr (by rw [q2];exact so.resolve_left (by rw [q1];decide))
   .rw [if_neg e] at q1 q2;exact .inl (.inr (.inr (.inr ⟨q,hq,q1,q2⟩)))
theorem Im (k:Hz b h C ip vC vL X Q) (hcap:∀ x∈C.chans,x.cap<=8) (hn:JF n)
    (kk:∀ h' X',Wr h (·=Ap vL) h'->Hz b h' C ip vC vL X' (Dv C Q i n).2->(∀ j,Re ip vC vL X' j->Re ip vC vL X j\/h.next<=j)->K (.i .u32 (Dv C Q i n).1) h'):Cq tp Ut [.p ip 0 0,.i .i64 i,.i .u32 n] h K:=by
 have gi:=k.gi;have bp:=k.bp;have lim:=k.lim;have ql:=k.ql;obtain ⟨cl,_,clt,E9,cget,cat1,crow,cc1,cc2⟩:=k.sc.facts;obtain ⟨ll,_,llt,llo,lget,lat1,lrow,lc1,lc2⟩:=k.sl.facts;have same:Dv C Q i n=((Dv C Q i n).1,Q)->K (.i .u32 (Dv C Q i n).1) h:=λe=>by
  have z:=kk h X Wr.refl (by rw [e];exact k) (λj e=>.inl e);exact z
 have z0:¬ (i:Int)<0:=by omega
 by_cases h1:C.chans.length<=i
 .have e:Dv C Q i n=(3,Q):=if_pos (.inl h1);rw [e] at same;have f:=same rfl;have z:(C.chans.length:Int)<=i:=by omega
  clear kk same;refine Aa Nv (by simp [Gm]) λwf rp=>?_;unfold Gm;simp (disch:=omega)only[go_sem, *]
 .have hi:i<C.chans.length:=by omega
  have hiX:i<X.length:=by rw [k.xl,ql];exact hi
  have z:¬ (C.chans.length:Int)<=i:=by omega
  have cget:=cget om;have crow:=crow i hi;have cat1:=λcs=>cat1 .i64 i cs om om;have lget:=lget om;have lrow:=lrow i hiX;have lat1:=λcs=>lat1 .i64 i cs om om;simp only [Int.toNat_natCast] at cat1 lat1
  by_cases h2:(nth C.chans i).top<n
  .have e:Dv C Q i n=(3,Q):=if_pos (.inr h2);rw [e] at same;have f:=same rfl;clear kk same lget lrow lat1 llt llo ll;refine Aa Nv (by simp [Gm]) λwf rp=>?_;unfold Gm;simp (disch:=omega)only[go_sem, *]
  .cases hq:(nth C.chans i).queue with
   | false=>
    have e:Dv C Q i n=(0,Q.set i [n]):=by unfold Dv;rw [if_neg om,if_pos hq]
    rw [e] at kk;have hw:Wr h (·=Ap vL) ((h.alloc ⟨1,[[.i .u32 n]]⟩).put (Ap vL) ⟨1,(AP h vL).set (Ca vL+i) [.sl h.next 0 1 1]⟩):=Wr.refl.alloc.put (.inr rfl);have lL:=(k.low _ (.inr (.inl rfl))).2;obtain ⟨y1,y2⟩:=k.upd (i:=i) (l':=[n]) (x':=.sl h.next 0 1 1) om hw (by rw [Ae,Ar rfl]) (.inr ⟨h.next,0,1,[[.i .u32 n]],rfl,by rw [Ae,Af om,AD,Ar rfl],by simp,rfl,by simp,Nat.lt_succ_self _,Nat.le_refl _,by simp⟩) ⟨λz hz=>by rw [List.mem_singleton.1 hz];exact hn,by simp⟩;have f:=kk _ _ hw y1 y2;have hle:h.lim<=Ap vL:=by omega
    clear kk same y1 y2 hw;refine Aa Nv (by simp [Gm]) λwf rp=>?_;unfold Gm;simp (disch:=omega)only[go_sem, *]
   | true=>
    have hiQ:i<Q.length:=by omega
    have sX:=k.sx i hiQ;obtain ⟨xl,_,_,_,_,_,_,xc1,xc2⟩:=sX.facts;have hu:=k.u i hiQ
    by_cases hf:(nth C.chans i).cap<=(nth Q i).length
    .have e:Dv C Q i n=(1,Q):=by unfold Dv;rw [if_neg om,if_neg (by rw [hq];decide),if_pos hf]
     rw [e] at same;have f:=same rfl;clear kk same;refine Aa Nv (by simp [Gm]) λwf rp=>?_;unfold Gm;simp (disch:=omega)only[go_sem, *]
    .have e:Dv C Q i n=(0,Q.set i (nth Q i++[n])):=by unfold Dv;rw [if_neg om,if_neg (by rw [hq];decide),if_neg hf]
     rw [e] at kk;have lL:=(k.low _ (.inr (.inl rfl)))
     have hsv:=Sl.sameV k.sl;have hc8:=hcap _ (Az hi);have hr:=sX.raise.rows;clear same;refine Aa Nv (by simp [Gm]) λwf rp=>?_;unfold Gm;simp (disch:=omega)only[go_sem, *];refine Av (R:=[]) (Sl.nil' h.next _ _) ?_ ?_ ?_ ?_
     .simp only [go_sem]
     .simp only [go_sem]
     .simp;omega
     intro w4 h4 s4 g4;have x4:Ak h (h4.back h.lim):=⟨g4.next,rfl,g4.low⟩
     have s4:Sl h.next (h4.back h.lim) 1 w4 ((nth Q i).map CL):=s4;generalize h4.back h.lim=h4 at s4 x4 ⊢;have n4:=x4.next;have l4:=x4.lim;have o4:=Au s4;clear g4;simp (disch:=omega)only[go_sem, *];refine Av (N:=[CL n]) (s4.alloc _) ?_ ?_ ?_ ?_
     .simp only [go_sem];omega
     .simp only [go_sem];omega
     .simp;omega
     intro w5 h5 s5 g5;have x5:Ak h h5:=⟨by have:=g5.next;simp only [go_sem] at this;omega,g5.lim.trans l4,λj hj=>(g5.low j hj).trans (by rw [AD,Af om];exact x4.get j hj)⟩
     have n5:=x5.next;have l5:=x5.lim;have i5:=(x5.get _ bp.2).trans gi;have L5:=(x5.get _ lL.2).trans lget;have hle:h.lim<=Ap vL:=by omega
     have hw:Wr h (·=Ap vL) (h5.put (Ap vL) ⟨1,(AP h vL).set (Ca vL+i) [w5]⟩):=(Wr.ext Wr.refl x5).put (.inr rfl);have c5:=g5.cell;have c6:=g5.cells;have s6:Sl h.next (h5.put (Ap vL) ⟨1,(AP h vL).set (Ca vL+i) [w5]⟩) 1 w5 ((nth Q i++[n]).map CL):=by
      rw [List.map_append];exact AC s5 _ _ ((Au s5).imp (λz=>z) (λz=>by omega))
     obtain ⟨y1,y2⟩:=k.upd hiQ hw (by rw [Ae,Ar rfl]) s6 ⟨λz hz=>(List.mem_append.1 hz).elim (hu.1 z) (λe=>by rw [List.mem_singleton.1 e];exact hn),by simp;omega⟩;have f:=kk _ _ hw y1 y2;clear kk y1 y2 hw s6 s5 g5 x5 s4 x4;simp (disch:=omega)only[go_sem, *]
theorem vM {sz:Nat} {v:V} {r:List V} {R:List (List V)} {k:IntKind} (s:Sl b h sz v (r::R)):∃ w,(∀ cs,GT (some ⟨sz,cs⟩) sz v (some (.i k 1)) none none=some w)/\Sl b h sz w R/\Ap w=Ap v:=by
 rcases s with ⟨_,z⟩ | ⟨id,el,cap,cs,rfl,hg,hc,hrow,hcap,hlt,hb,hl⟩
 .cases z
 .simp only [List.length_cons] at hrow hcap hl ⊢;refine ⟨.sl id (el+1) R.length (cap - 1),λcs=>?_,.inr ⟨id,el+1,cap - 1,cs,rfl,hg,om, ?_,om,hlt,hb,om⟩,rfl⟩
  .simp [GT,AO,hcap];omega
  .rw [show cs.drop (el+1)=(cs.drop el).drop 1 by rw [List.drop_drop]]
   cases hd:cs.drop el with
   | nil=>rw [hd] at hrow;simp at hrow
   | cons x t=>
    rw [hd,List.take_succ_cons] at hrow;exact (List.cons.inj hrow).2
theorem Gq (k:Hz b h C ip vC vL X Q)
    (kk:∀ h' X',Wr h (·=Ap vL) h'->Hz b h' C ip vC vL X' (BX C Q i).2.2->(∀ j,Re ip vC vL X' j->Re ip vC vL X j\/h.next<=j)->K (.tup [.i .u32 (BX C Q i).1,.i .u32 (BX C Q i).2.1]) h'):Cq tp Uu [.p ip 0 0,.i .i64 i] h K:=by
 have gi:=k.gi;have bp:=k.bp;have lim:=k.lim;have ql:=k.ql;obtain ⟨cl,_,clt,E9,cget,cat1,crow,cc1,cc2⟩:=k.sc.facts;obtain ⟨ll,_,llt,llo,lget,lat1,lrow,lc1,lc2⟩:=k.sl.facts;have same:BX C Q i=((BX C Q i).1,(BX C Q i).2.1,Q)->K (.tup [.i .u32 (BX C Q i).1,.i .u32 (BX C Q i).2.1]) h:=λe=>by
  have z:=kk h X Wr.refl (by rw [e];exact k) (λj e=>.inl e);exact z
 have z0:¬ (i:Int)<0:=by omega
 by_cases h1:C.chans.length<=i
 .have e:BX C Q i=(0,2,Q):=if_pos (.inl h1);rw [e] at same;have f:=same rfl;have z:(C.chans.length:Int)<=i:=by omega
  clear kk same;refine Aa Zg (by simp [LQ]) λwf rp=>?_;unfold LQ;simp (disch:=omega)only[go_sem, *]
 .have hi:i<C.chans.length:=by omega
  have hiQ:i<Q.length:=by omega
  have hiX:i<X.length:=by rw [k.xl,ql];exact hi
  have z:¬ (C.chans.length:Int)<=i:=by omega
  have cget:=cget om;have crow:=crow i hi;have cat1:=λcs=>cat1 .i64 i cs om om;have lget:=lget om;have lrow:=lrow i hiX;have lat1:=λcs=>lat1 .i64 i cs om om;simp only [Int.toNat_natCast] at cat1 lat1;have sX:=k.sx i hiQ;have hu:=k.u i hiQ;have lL:=(k.low _ (.inr (.inl rfl)))
  have upd:=λ{x' l' h'}=>k.upd (i:=i) (x':=x') (l':=l') (h':=h') hiQ
  by_cases h2:(nth Q i).length=0
  .have e:BX C Q i=(0,2,Q):=if_pos (.inr h2);rw [e] at same;have f:=same rfl;obtain ⟨xl,_,_,_,_,_,_,xc1,xc2⟩:=sX.facts;rw [h2] at xl;clear kk same upd;refine Aa Zg (by simp [LQ]) λwf rp=>?_;unfold LQ;simp (disch:=omega)only[go_sem, *]
  .obtain ⟨a,l,hal⟩:∃ a l,nth Q i=a::l:=by
    cases hq:nth Q i with
    | nil=>rw [hq] at h2;exact absurd rfl h2
    | cons a l=>exact ⟨a,l,rfl⟩
   rw [hal] at sX hu;have e:BX C Q i=(a,0,if (nth C.chans i).queue=true then Q.set i l else Q):=by
    unfold BX;rw [if_neg om,hal];rfl
   rw [e] at kk same;clear e h2
   cases hq:(nth C.chans i).queue with
   | false=>
    have f:=same (by rw [hq];rfl);obtain ⟨xl,_,xlt,xlo,xget,xat,xrow,xc1,xc2⟩:=sX.facts;have xget:=xget (by simp);have xrow:=xrow 0 (by simp);have xat:=λcs=>xat .i64 0 cs om (by simp);simp only [Int.toNat_zero,Nat.add_zero] at xrow xat
    have e0:nth (a::l) 0=a:=rfl;rw [e0] at xrow;have z2:¬ (l.length:Int)+1=0:=by omega
    clear kk same upd xlt xlo e0;refine Aa Zg (by simp [LQ]) λwf rp=>?_;unfold LQ;simp (disch:=omega)only[go_sem, *]
   | true=>
    obtain ⟨w,hw,sw,wi⟩:=vM (k:=.i64) sX;obtain ⟨xl,_,xlt,xlo,xget,xat,xrow,xc1,xc2⟩:=sX.facts;have xget:=xget (by simp);have xrow:=xrow 0 (by simp);have xat:=λcs=>xat .i64 0 cs om (by simp);simp only [Int.toNat_zero,Nat.add_zero] at xrow xat
    have e0:nth (a::l) 0=a:=rfl;rw [e0] at xrow;have z2:¬ (l.length:Int)+1=0:=by omega
    have hr:=sw.raise.rows;rw [if_pos hq] at kk;clear same xlt xlo e0;refine Aa Zg (by simp [LQ]) λwf rp=>?_;unfold LQ;simp (disch:=omega)only[go_sem, *];refine Av (R:=[]) (Sl.nil' h.next _ _) ?_ ?_ ?_ ?_
    .simp only [go_sem]
    .simp only [go_sem]
    .simp at hu;simp;omega
    intro w5 h4 s4 g4;have x5:Ak h (h4.back h.lim):=⟨g4.next,rfl,g4.low⟩
    have s5:Sl h.next (h4.back h.lim) 1 w5 (l.map CL):=s4;have c5:=g4.cell;have c6:=g4.cells;generalize h4.back h.lim=h5 at s5 x5 ⊢;have n5:=x5.next;have l5:=x5.lim;have L5:=(x5.get _ lL.2).trans lget;have hle:h.lim<=Ap vL:=by omega
    have hw:Wr h (·=Ap vL) (h5.put (Ap vL) ⟨1,(AP h vL).set (Ca vL+i) [w5]⟩):=(Wr.ext Wr.refl x5).put (.inr rfl);have s6:Sl h.next (h5.put (Ap vL) ⟨1,(AP h vL).set (Ca vL+i) [w5]⟩) 1 w5 (l.map CL):=AC s5 _ _ ((Au s5).imp (λz=>z) (λz=>by omega));obtain ⟨y1,y2⟩:=upd hw (by rw [Ae,Ar rfl]) s6 ⟨λz hz=>hu.1 z (List.mem_cons_of_mem _ hz),by have:=hu.2;simp at this;omega⟩;have f:=kk _ _ hw y1 y2;clear kk y1 y2 hw s6 s5 x5 s4 g4 upd sw hu;simp (disch:=omega)only[go_sem, *]
end
end Go.Ab.T
namespace Go.Ab.T
open Go Go.Ab
set_option maxHeartbeats 8000000
def Dh (C:Am) (p:Nat) (n:Int):Int:=if (nth C.parts p).sched=false then 4 else if (C.tables.length:Int)<=n then 3 else 0
def Gk (C:Am) (p:Nat):Int:=if (nth C.parts p).stop=false then 4 else 0
structure WK (b:Nat) (h:AH) (C:Am) (kb ip:Nat) (vC vL:V) (X:List V) (Q:List (List Int)):Prop where
 k:∃ pe en,h.get kb=some ⟨7,[F0 C ip pe en]⟩
 n:kb<h.next/\b<=kb
 d:¬ Re ip vC vL X kb
 o:Hz b h C ip vC vL X Q
def DS (kb ip:Nat) (vC vL:V) (X:List V) (j:Nat):Prop:=j=kb\/Re ip vC vL X j
section
variable {b kb ip p:Nat} {h h':AH} {C:Am} {vC vL:V} {X X':List V} {Q Q':List (List Int)} {n:Int} {K:V->AH->Prop} {J:Nat->Prop}
theorem WK.keep (k:WK b h C kb ip vC vL X Q) (x:Wr h J h') (hJ:∀ j,DS kb ip vC vL X j->¬ J j):WK b h' C kb ip vC vL X Q:=by
 obtain ⟨pe,en,g⟩:=k.k;exact ⟨⟨pe,en,(x.get _ k.n.1 (hJ _ (.inl rfl))).trans g⟩,⟨Nat.lt_of_lt_of_le k.n.1 x.next,k.n.2⟩,k.d,k.o.keep x (λj e=>hJ j (.inr e))⟩
theorem WK.low (k:WK b h C kb ip vC vL X Q):∀ j,DS kb ip vC vL X j->b<=j/\j<h.next:=λj e=>e.elim (λe=>by rw [e];exact ⟨k.n.2,k.n.1⟩) (k.o.low j)
theorem WK.step (k:WK b h C kb ip vC vL X Q) (x:Wr h (·=Ap vL) h') (o:Hz b h' C ip vC vL X' Q') (i:∀ j,Re ip vC vL X' j->Re ip vC vL X j\/h.next<=j):WK b h' C kb ip vC vL X' Q'/\∀ j,DS kb ip vC vL X' j->DS kb ip vC vL X j\/h.next<=j:=by
 obtain ⟨pe,en,g⟩:=k.k;refine ⟨⟨⟨pe,en,(x.get _ k.n.1 (λe=>k.d (.inr (.inl e)))).trans g⟩,⟨Nat.lt_of_lt_of_le k.n.1 x.next,k.n.2⟩,λe=>?_,o⟩,λj e=>?_⟩
 .have:=k.n.1;exact (i _ e).elim k.d (λz=>by omega)
 .exact e.elim (λe=>.inl (.inl e)) (λe=>(i j e).imp .inr (λz=>z))
theorem TB (k:WK b h C kb ip vC vL X Q) (hp:p<C.parts.length) (hn:JF n) (kk:∀ h',Wr h (·=kb) h'->WK b h' C kb ip vC vL X Q->K (.i .u32 (Dh C p n)) h'):Cq tp ND [.p kb 0 0,.i .i64 p,.i .u32 n] h K:=by
 obtain ⟨pe,en,g⟩:=k.k;have lim:=k.o.lim;have kn:=k.n;have up:∀ pe' en',WK b (h.put kb ⟨7,[F0 C ip pe' en']⟩) C kb ip vC vL X Q:=λpe' en'=>⟨⟨pe',en',by rw [Ae,Ar rfl]⟩,k.n,k.d,k.o.keep (J:=(·=kb)) (Wr.refl.put (.inr rfl)) (λj e e2=>k.d (e2▸e))⟩
 have z0:¬ (C.parts.length:Int)<=p:=by omega
 obtain ⟨n0,n1⟩:=hn;unfold F0 at g up;unfold Dh at kk
 cases hs:(nth C.parts p).sched with
 | false=>
  rw [if_pos hs] at kk;have f:=kk h Wr.refl k;clear kk up k;refine Aa Ud (by simp [Hu]) λwf rp=>?_;unfold Hu;simp (disch:=omega)only[go_sem, *]
 | true=>
  rw [if_neg (by rw [hs];decide)] at kk
  by_cases hc:(C.tables.length:Int)<=n
  .rw [if_pos hc] at kk;have f:=kk h Wr.refl k;clear kk up k;refine Aa Ud (by simp [Hu]) λwf rp=>?_;unfold Hu;simp (disch:=omega)only[go_sem, *]
  .rw [if_neg hc] at kk;have f:=λpe'=>kk (h.put kb ⟨7,[[.fl 11 (C.parts.map Part.enc),.fl 6 (C.chans.map AU.enc),.fl 1 (C.tables.map Tab.enc),.p ip 0 0,.i .i64 pe',.i .i64 0,.b en]]⟩) (Wr.refl.put (.inr rfl)) (up pe' en);clear kk up k;refine Aa Ud (by simp [Hu]) λwf rp=>?_;unfold Hu;simp (disch:=omega)only[go_sem, *]
theorem iO (k:WK b h C kb ip vC vL X Q) (hp:p<C.parts.length) (kk:∀ h',Wr h (·=kb) h'->WK b h' C kb ip vC vL X Q->K (.i .u32 (Gk C p)) h'):Cq tp NE [.p kb 0 0,.i .i64 p] h K:=by
 obtain ⟨pe,en,g⟩:=k.k;have lim:=k.o.lim;have kn:=k.n;have up:∀ pe' en',WK b (h.put kb ⟨7,[F0 C ip pe' en']⟩) C kb ip vC vL X Q:=λpe' en'=>⟨⟨pe',en',by rw [Ae,Ar rfl]⟩,k.n,k.d,k.o.keep (J:=(·=kb)) (Wr.refl.put (.inr rfl)) (λj e e2=>k.d (e2▸e))⟩
 unfold F0 at g up;unfold Gk at kk
 cases hs:(nth C.parts p).stop with
 | false=>
  rw [if_pos hs] at kk;have f:=kk h Wr.refl k;clear kk up k;refine Aa qW (by simp [La]) λwf rp=>?_;unfold La;simp (disch:=omega)only[go_sem, *]
 | true=>
  rw [if_neg (by rw [hs];decide)] at kk;have f:=λen'=>kk (h.put kb ⟨7,[[.fl 11 (C.parts.map Part.enc),.fl 6 (C.chans.map AU.enc),.fl 1 (C.tables.map Tab.enc),.p ip 0 0,.i .i64 pe,.i .i64 0,.b en']]⟩) (Wr.refl.put (.inr rfl)) (up pe en');clear kk up k;refine Aa qW (by simp [La]) λwf rp=>?_;unfold La;simp (disch:=omega)only[go_sem, *]
def tI (C:Am) (p b kb ip:Nat) (vC vL:V):Kn:=⟨List (List Int),121,.agg [.p kb 0 0,.i .i64 p],λQ h I=>∃ X,WK b h C kb ip vC vL X Q/\∀ j,I j↔DS kb ip vC vL X j,λQ i n=>Dv C Q i n,λQ i=>BX C Q i,λQ n=>(Dh C p n,Q),λQ=>(Gk C p,Q)⟩
theorem dY {i:Nat}:JF (Dv C Q i n).1:=by unfold Dv JF;(repeat' split)<;>simp
theorem Te {i:Nat} (o:Hz b h C ip vC vL X Q):JF (BX C Q i).1/\JF (BX C Q i).2.1:=by
 unfold BX;split
 .exact ⟨⟨by simp,by simp⟩,by simp,by simp⟩
 .rename_i z;exact ⟨BH (o.u i (by rw [o.ql];omega)).1,by simp,by simp⟩
theorem tJ (hcap:∀ x∈C.chans,x.cap<=8) (hp:p<C.parts.length):(tI C p b kb ip vC vL).Ok:=by
 have z0:¬ (C.parts.length:Int)<=p:=by omega
 refine ⟨λ⟨X,k,hi⟩ x hJ=>⟨X,k.keep x (λj e=>hJ j ((hi j).2 e)),hi⟩,λ⟨X,k,hi⟩ j e=>(k.low j ((hi j).1 e)).2,⟨_,Mf, ?_⟩,⟨_,Me, ?_⟩,⟨_,Jx, ?_⟩,⟨_,IK, ?_⟩⟩
 .rintro Q h I i n K ⟨X,k,hi⟩ _ hn kk;have X1:Ak h (h.alloc ⟨2,[[.p kb 0 0,.i .i64 p]]⟩):=by (repeat (first | exact Ak.refl _ | refine Ak.alloc ?_ _ | (refine Ak.put ?_ _ _ ?_;rotate_left;(first | omega | (simp only [Ac,Ah];omega)))))
  have k1:=k.keep (J:=λ_=>False) (Wr.refl.ext X1) (λ_ _ e=>e);obtain ⟨pe,en,g⟩:=k.k;have kn:=k.n;show Cq tp _ [.agg [.p kb 0 0,.i .i64 p],.i .i64 i,.i .u32 n] h K;unfold F0 at g;refine Aa Uf (by simp [Hw]) λwf rp=>?_;unfold Hw;simp (disch:=omega)only[go_sem, *];refine Im k1.o hcap hn ?_;intro h2 X2 x2 o2 i2;obtain ⟨k2,i3⟩:=k1.step x2 o2 i2;have f:=kk h2 (DS kb ip vC vL X2) ⟨Wr.trans (Wr.refl.ext X1) x2 (λj _ e=>(hi j).2 (.inr (.inr (.inl e)))),⟨X2,k2,λ_=>Iff.rfl⟩,λj e=>(i3 j e).imp (λz=>(hi j).2 z) (λz=>Nat.le_of_succ_le z)⟩ dY;clear kk k1 k2 x2 o2;simp (disch:=omega)only[go_sem, *];exact f
 .rintro Q h I i K ⟨X,k,hi⟩ _ kk;have X1:Ak h (h.alloc ⟨2,[[.p kb 0 0,.i .i64 p]]⟩):=by (repeat (first | exact Ak.refl _ | refine Ak.alloc ?_ _ | (refine Ak.put ?_ _ _ ?_;rotate_left;(first | omega | (simp only [Ac,Ah];omega)))))
  have k1:=k.keep (J:=λ_=>False) (Wr.refl.ext X1) (λ_ _ e=>e);obtain ⟨pe,en,g⟩:=k.k;have kn:=k.n;show Cq tp _ [.agg [.p kb 0 0,.i .i64 p],.i .i64 i] h K;unfold F0 at g;refine Aa sG (by simp [LH]) λwf rp=>?_;unfold LH;simp (disch:=omega)only[go_sem, *];refine Gq k1.o ?_;intro h2 X2 x2 o2 i2;obtain ⟨k2,i3⟩:=k1.step x2 o2 i2;have f:=kk h2 (DS kb ip vC vL X2) ⟨Wr.trans (Wr.refl.ext X1) x2 (λj _ e=>(hi j).2 (.inr (.inr (.inl e)))),⟨X2,k2,λ_=>Iff.rfl⟩,λj e=>(i3 j e).imp (λz=>(hi j).2 z) (λz=>Nat.le_of_succ_le z)⟩ (Te k1.o).1 (Te k1.o).2;clear kk k1 k2 x2 o2;simp (disch:=omega)only[go_sem, *];exact f
 .rintro Q h I n K ⟨X,k,hi⟩ hn kk;have X1:Ak h (h.alloc ⟨2,[[.p kb 0 0,.i .i64 p]]⟩):=by (repeat (first | exact Ak.refl _ | refine Ak.alloc ?_ _ | (refine Ak.put ?_ _ _ ?_;rotate_left;(first | omega | (simp only [Ac,Ah];omega)))))
  have k1:=k.keep (J:=λ_=>False) (Wr.refl.ext X1) (λ_ _ e=>e);have f:=kk _ I ⟨Wr.refl.ext X1,⟨X,k1,hi⟩,λj e=>.inl e⟩;obtain ⟨pe,en,g⟩:=k.k;have kn:=k.n;show Cq tp _ [.agg [.p kb 0 0,.i .i64 p],.i .u32 n] h K;replace f:JF (Dh C p n)->K (.i .u32 (Dh C p n)) (h.alloc ⟨2,[[.p kb 0 0,.i .i64 p]]⟩):=f;obtain ⟨n0,n1⟩:=hn;unfold F0 at g;unfold Dh at f;clear kk k1 k
  cases hs:(nth C.parts p).sched with
  | false=>
   rw [if_pos hs] at f;have f:=f ⟨by decide,by decide⟩;refine Aa sF (by simp [LG]) λwf rp=>?_;unfold LG;simp (disch:=omega)only[go_sem, *]
  | true=>
   rw [if_neg (by rw [hs];decide)] at f
   by_cases hc:(C.tables.length:Int)<=n
   .rw [if_pos hc] at f;have f:=f ⟨by decide,by decide⟩;refine Aa sF (by simp [LG]) λwf rp=>?_;unfold LG;simp (disch:=omega)only[go_sem, *]
   .rw [if_neg hc] at f;have f:=f ⟨by decide,by decide⟩;refine Aa sF (by simp [LG]) λwf rp=>?_;unfold LG;simp (disch:=omega)only[go_sem, *]
 .rintro Q h I K ⟨X,k,hi⟩ kk;have X1:Ak h (h.alloc ⟨2,[[.p kb 0 0,.i .i64 p]]⟩):=by (repeat (first | exact Ak.refl _ | refine Ak.alloc ?_ _ | (refine Ak.put ?_ _ _ ?_;rotate_left;(first | omega | (simp only [Ac,Ah];omega)))))
  have k1:=k.keep (J:=λ_=>False) (Wr.refl.ext X1) (λ_ _ e=>e);have f:=kk _ I ⟨Wr.refl.ext X1,⟨X,k1,hi⟩,λj e=>.inl e⟩;obtain ⟨pe,en,g⟩:=k.k;have kn:=k.n;show Cq tp _ [.agg [.p kb 0 0,.i .i64 p]] h K;replace f:JF (Gk C p)->K (.i .u32 (Gk C p)) (h.alloc ⟨2,[[.p kb 0 0,.i .i64 p]]⟩):=f;unfold F0 at g;unfold Gk at f;clear kk k1 k
  cases hs:(nth C.parts p).stop with
  | false=>
   rw [if_pos hs] at f;have f:=f ⟨by decide,by decide⟩;refine Aa sH (by simp [LI]) λwf rp=>?_;unfold LI;simp (disch:=omega)only[go_sem, *]
  | true=>
   rw [if_neg (by rw [hs];decide)] at f;have f:=f ⟨by decide,by decide⟩;refine Aa sH (by simp [LI]) λwf rp=>?_;unfold LI;simp (disch:=omega)only[go_sem, *]
end
end Go.Ab.T
