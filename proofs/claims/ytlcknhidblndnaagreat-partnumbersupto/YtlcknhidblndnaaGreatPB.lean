/- Part of a proof that a law returns true for every input of the second form's bound (no other condition). -/
import Derived.Laws.Build
import Derived.Laws.Tables
import Derived.Test.YtlcknhidblndnaaGreatPA
set_option linter.all false
/- Each operation but calls: what the abstract machine does the model's does. -/
namespace Go.Ab
open Go Go.RowKit
section
variable {P:Program}
variable {tp:TP} {M:Mp} {B:Nat} {w:World} {h h':AH} {e:Env} {a:Act} {v:V} {o:Oper} {r:O}
def B3 (P:Program) (tp:TP):Prop:=∀ t m q,tp.meth t m=some q->bS P t m q=true
def Ay (P:Program) (M:Mp) (B:Nat) (w:World) (h:AH) (a:Act) (o:Oper) (v:V) (h':AH):Prop:=
 ∃ x w' M',bAG P o a w x w'/\DE M B w h v h' x w' M'
theorem Ay.same {x:Value} (hs:De M B w h) (hf:Full M h) (hv:VR M h v x) (hr:(execOp a.eval o).run P w=.ok (.value x) w):Ay P M B w h a o v h:=⟨x,w,M,.inl hr,DE.same hs hf hv⟩
section
variable (hE:EA M h e a) (hs:De M B w h) (hf:Full M h)
include hE hs hf
theorem UZ {x:Operand} (ho:o.op=.move x\/o.op=.assign x) {y:X} (hc:AX x=some y) (hd:Ag tp (.mv y) (X.ev e) h=some (v,h')):Ay P M B w h a o v h':=by
 simp [Ag] at hd;obtain ⟨rfl,rfl⟩:=hd;exact Ay.same hs hf (Aw hE hc) (by rcases ho with ho | ho<;>simp [execOp,ho])
theorem uI {c x y:Operand} (ho:o.op=.pick c x y) (hc:AF P o=some r) (hd:Ag tp r (X.ev e) h=some (v,h')):Ay P M B w h a o v h':=by
 simp only [AF,ho,Option.bind_eq_bind,Option.bind_eq_some_iff,Option.pure_def,Option.some.injEq] at hc;obtain ⟨c',hc',x',hx',y',hy',rfl⟩:=hc;have vc:=Aw hE hc';simp only [Ag] at hd;split at hd
 .rename_i b hb;rw [hb] at vc;cases hce:a.eval c<;>rw [hce] at vc<;>cases vc;simp at hd;obtain ⟨rfl,rfl⟩:=hd;cases b
  .exact Ay.same hs hf (Aw hE hy') (by simp [execOp,ho,hce,asBool])
  .exact Ay.same hs hf (Aw hE hx') (by simp [execOp,ho,hce,asBool])
 .simp at hd
theorem cD {t:TypeId} (ho:o.op=.alloc t) (hc:AF P o=some r) (hd:Ag tp r (X.ev e) h=some (v,h')):Ay P M B w h a o v h':=by
 simp only [AF,ho,Option.map_eq_some_iff] at hc;obtain ⟨z,hz,rfl⟩:=hc;obtain ⟨zx,zv,hzr,_,hzv,rfl⟩:=Eb hz w;simp [Ag] at hd;obtain ⟨rfl,rfl⟩:=hd;obtain ⟨M',hd⟩:=UV hs hf zv.cells zx t (BU hzv) (Fs hzv);exact ⟨_,_,M',.inl (by simp [execOp,ho,Instr.alloc,hzr,KQ]),hd⟩
theorem aNJ {t:TypeId} {x:Operand} (ho:o.op=.box t x) (hc:AF P o=some r) (hd:Ag tp r (X.ev e) h=some (v,h')):Ay P M B w h a o v h':=by
 simp only [AF,ho,Option.map_eq_some_iff] at hc;obtain ⟨y,hy,rfl⟩:=hc;simp only [Ag] at hd;split at hd
 .rename_i hall;simp at hd;obtain ⟨rfl,rfl⟩:=hd;obtain ⟨M',hd⟩:=UV hs hf _ (a.eval x) t ((Aw hE hy).cells hall) hall;exact ⟨_,_,M',.inl (by simp [execOp,ho,Instr.box,KQ]),hd⟩
 .simp at hd
theorem cE {t:TypeId} {ps:Array (Nat×Operand)} (ho:o.op=.build t ps) (hc:AF P o=some r) (hd:Ag tp r (X.ev e) h=some (v,h')):Ay P M B w h a o v h':=by
 simp only [AF,ho,Option.bind_eq_bind,Option.bind_eq_some_iff] at hc;obtain ⟨z,hz,hc⟩:=hc;obtain ⟨zx,zv,hzr,hzi,hzv,rfl⟩:=Eb hz w;have hzV:Br M h zv.cells zx.cells.toList:=BU hzv;split at hc
 .rename_i fs hu;simp only [Option.bind_eq_some_iff,Option.pure_def,Option.some.injEq] at hc;obtain ⟨pl,hpl,l,hl,rfl⟩:=hc;simp only [Ag,Option.map_eq_some_iff,Prod.mk.injEq] at hd;obtain ⟨r',hr',rfl,rfl⟩:=hd;obtain ⟨arr',ha,hva⟩:=G9 _ _ zx.cells (KJ hE _ hl) hzV hr';refine Ay.same hs hf (.agg _ _ hva) ?_;have hp:=run_places (P:=P) w fs.toList pl hpl;have hm:ps.toList.map (λq=>(q.1,a.eval q.2))=(ps.map λq=>(q.1,a.eval q.2)).toList:=by simp
  have ha':Instr.fill (λi=>pl.toArray[i]?) zx.cells (ps.toList.map λq=>(q.1,a.eval q.2))=some arr':=by simpa using ha
  simp [execOp,ho,Instr.build,hzr,run_underlying hu,Array.mapM_eq_mapM_toList,hp];rw [ha];simp
 .rename_i n t' hu;simp only [Option.bind_eq_some_iff,Option.pure_def,Option.some.injEq] at hc;obtain ⟨s,hsz,l,hl,rfl⟩:=hc;simp only [Ag,Option.map_eq_some_iff,Prod.mk.injEq] at hd;obtain ⟨r',hr',rfl,rfl⟩:=hd;obtain ⟨arr',ha,hva⟩:=G9 _ _ zx.cells (KJ hE _ hl) hzV hr';refine Ay.same hs hf (.agg _ _ hva) ?_;simp [execOp,ho,Instr.build,hzr,run_underlying hu,Bh hsz];rw [ha];simp
 .simp at hc
omit hE hs hf in
theorem EO {n:Nat} {z:List V} (hz:z.all V.isCell=true):F2 z.length (List.replicate n z):=λr hr=>by
 obtain ⟨_,rfl⟩:=List.mem_replicate.1 hr;exact ⟨rfl,hz⟩
omit hE hs hf in
theorem KA {zx:Value} {z:List V} (hz:Br M h z zx.cells.toList) (n:Nat):Br M h (flat (List.replicate n z)) (madeCells zx.cells (n*z.length)).toList:=by
 have hl:z.length=zx.cells.size:=by simpa using hz.length
 have hrow:∀ r∈List.replicate n z,r.length=z.length:=λr hr=>by obtain ⟨_,rfl⟩:=List.mem_replicate.1 hr;rfl
 have hfl:=BP hrow;refine XX (by rw [hfl];simp [size_madeCells]) (λj v hv=>?_);obtain ⟨r,hr,hj,hpos⟩:=Ki hrow j v hv;have hr':r=z:=by
  have:=List.mem_of_getElem? hr;exact (List.mem_replicate.1 this).2
 subst hr';obtain ⟨x,hx,hvx⟩:=hz.get _ v hj;refine ⟨x, ?_,hvx⟩;have hjl:j<n*r.length:=by
  have:=(List.getElem?_eq_some_iff.1 hv).1;rw [hfl] at this;simpa using this
 have hx':zx.cells[j % zx.cells.size]?=some x:=by rw [<- hl];simpa using hx
 have hx'':zx.cells[j % zx.cells.size]! = x:=by
  rw [Array.getElem!_eq_getD,Array.getD_eq_getD_getElem?,hx'];rfl
 simp [madeCells,hjl,hx'']
theorem aNK {t:TypeId} {n:Nat} {ps:Array (Nat×Operand)} (ho:o.op=.buildSlice t n ps) (hc:AF P o=some r) (hd:Ag tp r (X.ev e) h=some (v,h')):Ay P M B w h a o v h':=by
 simp only [AF,ho,Option.bind_eq_bind] at hc;split at hc
 case h_2=>simp at hc
 rename_i t' hu;simp only [Option.bind_eq_some_iff,Option.pure_def,Option.some.injEq] at hc;obtain ⟨s,hsz,u1,hg1,z,hz,u2,hg2,hc⟩:=hc;have hg1:=BQ hg1;have hg2:=BQ hg2
 by_cases he0:(decide (n=0)&&ps.isEmpty)=true
 .rw [if_pos he0] at hc;simp only [Option.some.injEq] at hc;subst hc;simp only [Ag,Option.some.injEq,Prod.mk.injEq] at hd;obtain ⟨rfl,rfl⟩:=hd;simp only [Bool.and_eq_true,decide_eq_true_eq,Array.isEmpty_iff] at he0;obtain ⟨rfl,rfl⟩:=he0;refine ⟨.slice (some ⟨w.heap.size,0,none⟩) 0 0,w.alloc (.cells #[] t'),M,.inl ?_,⟨.e0 _,hs.more _,hf,Goes.refl M h,(Below.refl B w).alloc hs.size _⟩⟩;have hm1:(Array.map (λ(x:Nat)=>(default:Value)) (Array.range 0)) = #[]:=Array.eq_empty_of_size_eq_zero (by simp);simp [execOp,ho,Instr.buildSlice,run_underlying hu,Bh hsz,Instr.fill];rw [hm1];simp [newRow]
 rw [if_neg he0] at hc;simp only [Option.bind_eq_some_iff,Option.some.injEq] at hc;obtain ⟨l,hl,rfl⟩:=hc;simp only [Bool.and_eq_true,decide_eq_true_eq,beq_iff_eq] at hg1 hg2;obtain ⟨zx,zv,hzr,hzi,hzv,rfl⟩:=Eb hz w;have hzV:Br M h zv.cells zx.cells.toList:=BU hzv;simp only [Ag,Option.map_eq_some_iff,Prod.mk.injEq] at hd;obtain ⟨cs,hcs,rfl,rfl⟩:=hd;have hrows0:=EO (n:=n) (Fs hzv);rw [hg2] at hrows0;have hmade:=KA (M:=M) (h:=h) hzV n;obtain ⟨arr',ha,hva⟩:=Je (List.replicate n zv.cells) cs (madeCells zx.cells (n*zv.cells.length)) (OT hE hl) hrows0 hmade hcs;obtain ⟨hrows,hlen⟩:=Jd hrows0 hcs;have hfl:=BP (sz:=s) (λr hr=>(hrows r hr).1);have hal:arr'.size=n*s:=by
  have:=hva.length;rw [hfl,hlen] at this;simpa using this.symm
 obtain ⟨M',hd⟩:=Er hs hf ⟨s,cs⟩ arr' t' hrows (λi v hv=>by
  obtain ⟨x,hx,hvx⟩:=hva.get i v hv;exact ⟨x,by simpa using hx,hvx⟩) n n n (Nat.le_refl _) (Nat.le_refl _) (by rw [hal];exact Nat.le_refl _)
 refine ⟨_,_,M',.inl ?_,hd⟩;rw [hg2] at ha;have hsz16:¬ (2 ^ 24<n*s):=by omega
 by_cases h0:n*s=0
 .have hn0:n=0:=by
   rcases Nat.mul_eq_zero.1 h0 with h1 | h1<;>omega
  subst hn0;have hm0:madeCells zx.cells (0*s) = #[]:=Array.eq_empty_of_size_eq_zero (by simp [madeCells]);rw [hm0] at ha;have hm1:(Array.map (λ(x:Nat)=>(default:Value)) (Array.range 0)) = #[]:=Array.eq_empty_of_size_eq_zero (by simp);simp [execOp,ho,Instr.buildSlice,run_underlying hu,Bh hsz];rw [hm1,ha];simp [newRow]
 .simp only [madeCells] at ha;simp [execOp,ho,Instr.buildSlice,run_underlying hu,Bh hsz,h0,hzr,newRow];rw [if_neg om]
  try simp [hzr]
  rw [ha];simp
theorem uE {t:TypeId} {x:Operand} (ho:o.op=.load t x) (hc:AF P o=some r) (hd:Ag tp r (X.ev e) h=some (v,h')):Ay P M B w h a o v h':=by
 simp only [AF,ho,Option.bind_eq_bind,Option.bind_eq_some_iff,Option.pure_def,Option.some.injEq] at hc;obtain ⟨s,hsz,g,hg,u1,hg1,y,hy,rfl⟩:=hc;have hv:=Aw hE hy;simp only [Ag] at hd;split at hd
 case h_2=>simp at hd
 rename_i id el off hp;rw [hp] at hv;simp only [Option.bind_eq_some_iff,Option.map_eq_some_iff,Prod.mk.injEq] at hd;obtain ⟨k,hk,row,hrow,v',hcut,rfl,rfl⟩:=hd;cases hav:a.eval x<;>rw [hav] at hv<;>cases hv;rename_i ad hi hm;obtain ⟨z,hz,hvz⟩:=US (P:=P) hs hf (.p id el off ad hi hm) hk hrow hcut hsz hg;exact Ay.same hs hf hvz (by simp [execOp,ho,hav,Instr.loadAt,Instr.sureAddr,hz])
theorem cG {t:TypeId} {x y:Operand} (ho:o.op=.store t x y) (hc:AF P o=some r) (hd:Ag tp r (X.ev e) h=some (v,h')):Ay P M B w h a o v h':=by
 simp only [AF,ho,Option.bind_eq_bind,Option.bind_eq_some_iff,Option.pure_def,Option.some.injEq] at hc;obtain ⟨s,hsz,x',hx',y',hy',rfl⟩:=hc;have hv:=Aw hE hx';have hu:=Aw hE hy';simp only [Ag] at hd;split at hd
 case h_2=>simp at hd
 rename_i id el off hp;split at hd
 case isFalse=>simp at hd
 rename_i hcond;obtain ⟨hlim,hpos,hlen,hall⟩:=hcond;rw [hp] at hv;simp only [Option.bind_eq_some_iff] at hd;obtain ⟨k,hk,row,hrow,hd⟩:=hd;split at hd
 case isFalse=>simp at hd
 rename_i hle;simp at hd;obtain ⟨rfl,rfl⟩:=hd;cases hav:a.eval x<;>rw [hav] at hv<;>cases hv;rename_i ad hi hm;have hl:h.live id:=by simp [AH.live,hk]
 obtain ⟨m,hM,rfl⟩:=hm hl;obtain ⟨hmlt,hms,hcs⟩:=hs.cells id k m hk hM;have hvc:=hu.cells hall;have hvl:(a.eval y).cells.size=s:=by have:=hvc.length;rw [hlen] at this;simpa using this.symm
 obtain ⟨hrl,hcell⟩:=hcs el row hrow;have hown:=(hs.from_ id m hl hM hlim).1;obtain ⟨arr,e2,fr,hblk,hn,hfr⟩:=hs.own id m hl hM hown;have hfit:m.o+el*m.sz+off+(a.eval y).cells.toList.length<=m.n:=by
  simp only [Array.length_toList,hvl];obtain ⟨_,z,hz,_⟩:=hcell (off+s - 1) row[off+s - 1] (by simp);simp only [World.cell?,hblk] at hz;have:=(Array.getElem?_eq_some_iff.1 (by simpa using hz)).1;omega
 obtain ⟨w',hrun,hsim,hfull,hgoes,hbelow⟩:=De.write (P:=P) hs hf hk hM hlim (k':=⟨k.sz,k.cs.set el (over row off (X.ev e y').cells)⟩) (m.o+el*m.sz+off) (a.eval y).cells.toList hfit (Jj hvc hall) rfl (by
  intro q r hq;rw [List.getElem?_set] at hq;have hsl:(X.ev e y').cells.length=(a.eval y).cells.toList.length:=hvc.length;split at hq
  .rename_i hqe;subst hqe;split at hq
   case isFalse=>simp at hq
   simp at hq;subst hq;refine ⟨by rw [Jk];exact hrl,λj v hj=>?_⟩;rw [KI _ _ _ _ om] at hj
   by_cases hin:off<=j/\j<off+(X.ev e y').cells.length
   .rw [if_pos hin] at hj;obtain ⟨z,hz,hvz⟩:=hvc.get _ v hj;refine ⟨List.all_eq_true.1 hall v (List.mem_of_getElem? hj), ?_⟩;rw [if_pos om];exact ⟨z,by rw [show m.o+el*m.sz+j - (m.o+el*m.sz+off)=j - off by omega];exact hz,hvz⟩
   .rw [if_neg hin] at hj;refine ⟨(hcell j v hj).1, ?_⟩;rw [if_neg om];exact ⟨row,hrow,hj⟩
  .rename_i hqe;obtain ⟨hrl',hcell'⟩:=hcs q r hq;refine ⟨hrl',λj v hj=>⟨(hcell' j v hj).1, ?_⟩⟩;have hjlt:j<k.sz:=by rw [<- hrl'];exact (List.getElem?_eq_some_iff.1 hj).1
   rw [if_neg]
   .exact ⟨r,hq,hj⟩
   .intro hcon;apply hqe;rw [hms] at hcon;have hlt1:el*k.sz<(q+1)*k.sz:=by rw [Nat.add_mul];omega
    have hlt2:q*k.sz<(el+1)*k.sz:=by rw [Nat.add_mul];omega
    have:=Nat.lt_of_mul_lt_mul_right hlt1;have:=Nat.lt_of_mul_lt_mul_right hlt2;omega)
 refine ⟨undef,w',M,.inr ⟨?_,rfl⟩,⟨.u _,hsim,hfull,hgoes,hbelow⟩⟩;simp [execOp,ho,hav,Instr.storeAt,Instr.sureAddr,storeVar,Bh hsz,hvl,hrun]
omit hE hs hf in
theorem Oa {P:Program} {tp:TP} (hm:B3 P tp) {t:Nat} {m:String} (hd:tp.dir t m=true) (x:Value) (w:World) (d:Nat):(nilAhead (d+1) t x m).run P w=.ok (some false) w:=by
 unfold TP.dir at hd;split at hd
 case h_2=>simp at hd
 rename_i q hq;have hB:=hm t m q hq;unfold bS at hB
 cases hi:P.info? t with
 | none=>simp [hi] at hB
 | some i=>
  simp only [hi,Option.bind_some] at hB
  cases hfind:i.methods.find? (·.name==m) with
  | none=>simp [hfind] at hB
  | some mm=>
   simp only [hfind] at hB;split at hB
   .rename_i f pr hfu hpa;simp only [Bool.and_eq_true] at hB;obtain ⟨_,hty⟩:=hB;cases pr
    .cases hu:P.underlying t with
     | none=>simp [hu] at hty
     | some dsc=>cases dsc<;>simp [hu] at hty<;>simp [nilAhead,typeInfo,hi,hfind,hfu,hpa,followBlind,run_underlying hu]
    .simp [nilAhead,typeInfo,hi,hfind,hfu,hpa,followBlind]
   .simp only [Bool.and_eq_true] at hB;obtain ⟨_,hst⟩:=hB;split at hst
    case h_2=>simp at hst
    split at hst
    case h_2=>simp at hst
    simp only [Bool.and_eq_true,beq_iff_eq] at hst;rw [hst.1] at hd;simp at hd
   .simp at hB
theorem aNQ (hm:B3 P tp) {x:Operand} (ho:o.op=.nilCheck x) (hc:AF P o=some r) (hd:Ag tp r (X.ev e) h=some (v,h')):Ay P M B w h a o v h':=by
 simp only [AF,ho,Option.map_eq_some_iff] at hc;obtain ⟨y,hy,rfl⟩:=hc;have hv:=Aw hE hy;simp only [Ag] at hd;split at hd
 case h_4=>
  rename_i m t v0 rr b hp;split at hd
  case isFalse=>simp at hd
  rename_i hdir;simp at hd;obtain ⟨rfl,rfl⟩:=hd;rw [hp] at hv;refine Ay.same hs hf hv ?_;generalize hav:a.eval x=z at hv
  cases hv with
  | f _ _ _ a1 c1 p q=>
   obtain ⟨x0,hx0,hxv⟩:=p.get 0 (.ifc t v0) rfl;have hget:(a1[0]?:Option Value)=some x0:=by simpa using hx0
   cases hxv with
   | ifc _ _ xx hxx=>
    have hn:=Oa (P:=P) hm hdir xx w (P.types.size+Made.depth - 1);have hdep:P.types.size+Made.depth - 1+1=P.types.size+Made.depth:=by
     have:0<Made.depth:=by decide
     omega
    rw [hdep] at hn;simp [execOp,ho,hav,hget,hn]
 all_goals simp at hd
 all_goals obtain ⟨rfl,rfl⟩:=hd
 all_goals rename_i hp
 all_goals rw [hp] at hv
 all_goals cases hav:a.eval x<;>rw [hav] at hv<;>first | (cases hv;done) | skip
 .exact Ay.same hs hf hv (by cases hv;simp [execOp,ho,hav])
 .exact Ay.same hs hf hv (by cases hv;simp [execOp,ho,hav])
 .exact Ay.same hs hf hv (by cases hv;simp [execOp,ho,hav])
theorem aNI {op:BinOp} {t ty:TypeId} {x y:Operand} (ho:o.op=.binOp op t x y ty) (hc:AF P o=some r) (hd:Ag tp r (X.ev e) h=some (v,h')):Ay P M B w h a o v h':=by
 have plain:∀ x' y',AX x=some x'->AX y=some y'->Ag tp (.bin op x' y') (X.ev e) h=some (v,h')->Ay P M B w h a o v h':=by
  intro x' y' hx' hy' hd;simp only [Ag,Option.map_eq_some_iff,Prod.mk.injEq] at hd;obtain ⟨z,hz,rfl,rfl⟩:=hd;obtain ⟨zz,hrun,hvz⟩:=Vs (P:=P) (Aw hE hx') (Aw hE hy') hz t w x y;exact Ay.same hs hf hvz (by simp only [execOp,ho,Sem.run_bind];simp only [Sem.run_bind] at hrun;rw [hrun];rfl)
 have eqs:(op=.eql\/op=.neq)->∀ x' y' k,AX x=some x'->AX y=some y'->Mb P t x y=some k->Ag tp (.eq (op==.neq) k x' y') (X.ev e) h=some (v,h')->Ay P M B w h a o v h':=by
  intro hop x' y' k hx' hy' hk hd;simp only [Ag,Option.map_eq_some_iff,Prod.mk.injEq] at hd;obtain ⟨z,hz,rfl,rfl⟩:=hd;have hrun:=Y9 (P:=P) hop (Aw hE hx') (Aw hE hy') hk hz w;exact Ay.same hs hf (.b _) (by simp only [execOp,ho,Sem.run_bind];simp only [Sem.run_bind] at hrun;rw [hrun];rfl)
 simp only [AF,ho,Option.bind_eq_bind,Option.bind_eq_some_iff,Option.pure_def] at hc;obtain ⟨x',hx',y',hy',hc⟩:=hc;have two:∀ hop:op=.eql\/op=.neq,(match P.underlying t with | some (.int _) | some .string=>some (O.bin op x' y') | _=>(Mb P t x y).bind λk=>some (.eq (op==.neq) k x' y'))=some r->Ay P M B w h a o v h':=by
  intro hop hc;split at hc
  .simp at hc;subst hc;exact plain x' y' hx' hy' hd
  .simp at hc;subst hc;exact plain x' y' hx' hy' hd
  .simp only [Option.bind_eq_some_iff,Option.some.injEq] at hc;obtain ⟨k,hk,rfl⟩:=hc;exact eqs hop x' y' k hx' hy' hk hd
 split at hc
 .exact two (.inl rfl) hc
 .exact two (.inr rfl) hc
 .simp at hc;subst hc;exact plain x' y' hx' hy' hd
theorem aY8 {op:UnOp} {t:TypeId} {x:Operand} (ho:o.op=.unOp op t x) (hc:AF P o=some r) (hd:Ag tp r (X.ev e) h=some (v,h')):Ay P M B w h a o v h':=by
 simp only [AF,ho,Option.map_eq_some_iff] at hc;obtain ⟨y,hy,rfl⟩:=hc;simp only [Ag,Option.map_eq_some_iff,Prod.mk.injEq] at hd;obtain ⟨z,hz,rfl,rfl⟩:=hd;obtain ⟨zz,hrun,hvz⟩:=Ty (P:=P) (Aw hE hy) hz w;exact Ay.same hs hf hvz (by simp [execOp,ho,hrun])
theorem uG {t:TypeId} {x:Operand} (ho:o.op=.makeInterface t x) (hc:AF P o=some r) (hd:Ag tp r (X.ev e) h=some (v,h')):Ay P M B w h a o v h':=by
 simp only [AF,ho] at hc;split at hc
 .simp at hc
 .simp at hc
 .rename_i hn1 hn2;simp only [Option.map_eq_some_iff] at hc;obtain ⟨y,hy,rfl⟩:=hc;simp [Ag] at hd;obtain ⟨rfl,rfl⟩:=hd;refine Ay.same hs hf (.ifc t _ _ (Aw hE hy)) ?_
  cases hu:P.underlying t with
  | none=>exact absurd hu hn2
  | some d=>
   have:Program.concrete P t=true:=by
    unfold Program.concrete;rw [hu];cases d<;>first | rfl | (rename_i ms;exact absurd hu (hn1 ms))
   simp [execOp,ho,run_makeInterface (P:=P) w t (a.eval x) this]
theorem uF {fn:Fn} {x y:Array Operand} (ho:o.op=.makeFunc fn x y) (hc:AF P o=some r) (hd:Ag tp r (X.ev e) h=some (v,h')):Ay P M B w h a o v h':=by
 simp only [AF,ho,Option.bind_eq_bind,Option.bind_eq_some_iff,Option.pure_def,Option.some.injEq] at hc;obtain ⟨x',hx',y',hy',rfl⟩:=hc;simp [Ag] at hd;obtain ⟨rfl,rfl⟩:=hd;exact Ay.same hs hf (.f fn _ _ (x.map a.eval) (y.map a.eval) (by simpa using DK hE hx') (by simpa using DK hE hy')) (by simp [execOp,ho,Instr.makeFunc])
theorem aNL {x:Operand} {i:Nat} (ho:o.op=.extract x i) (hc:AF P o=some r) (hd:Ag tp r (X.ev e) h=some (v,h')):Ay P M B w h a o v h':=by
 simp only [AF,ho,Option.bind_eq_bind,Option.bind_eq_some_iff,Option.pure_def,Option.some.injEq] at hc;obtain ⟨y,hy,rfl⟩:=hc;have hv:=Aw hE hy;simp only [Ag] at hd;split at hd
 case h_2=>simp at hd
 rename_i l hl;rw [hl] at hv;simp only [Option.map_eq_some_iff,Prod.mk.injEq] at hd;obtain ⟨z,hz,rfl,rfl⟩:=hd;cases hav:a.eval x<;>rw [hav] at hv<;>cases hv;rename_i l' hl';obtain ⟨zz,hzz,hvz⟩:=hl'.get i z hz;have:l'[i]?=some zz:=by simpa using hzz
 exact Ay.same hs hf hvz (by simp [execOp,ho,hav,Instr.extract,this])
end
end
end Go.Ab
/- Each operation but calls, the rest: conversions, cuts, places of fields and elements, make, the builtins. -/
namespace Go.Ab
open Go Go.RowKit
section
variable {P:Program}
variable {tp:TP} {M:Mp} {B:Nat} {w:World} {h h':AH} {e:Env} {a:Act} {v:V} {o:Oper} {r:O}
theorem VR.sl_inv {id el len cap : Nat} {x : Value} (hv : VR M h (.sl id el len cap) x) : ∃ ad rc, x = .slice (some ad) len rc /\ id < h.next /\ len <= rc /\
    (h.live id->∃ m,M id=some m/\(0<rc->ad=⟨m.b,m.o+el*m.sz,none⟩)/\cap<=rc/\(m.own=true->m.o+el*m.sz+rc*m.sz<=m.n)):=by
 cases hv with
 | sl _ _ _ _ ad rc hi hlr hm=>exact ⟨ad,rc,rfl,hi,hlr,hm⟩
section
variable (hE:EA M h e a) (hs:De M B w h) (hf:Full M h)
include hE hs hf
omit hE in
theorem Wc {id el len cap rc : Nat} {ad : Addr} (hl : h.live id) (hlim : h.lim <= id) (hcap : 0 < cap) (hi : id < h.next) (hlr : len <= rc)
    (hm:h.live id->∃ m,M id=some m/\(0<rc->ad=⟨m.b,m.o+el*m.sz,none⟩)/\cap<=rc/\(m.own=true->m.o+el*m.sz+rc*m.sz<=m.n)):
    ∃ w',(markStringish ad).run P w=.ok () w'/\DE M B w h (.sl id el len cap) h (.slice (some ad) len rc) w' M:=by
 obtain ⟨m,hM,had,hcr,hown⟩:=hm hl;have had:=had om;obtain ⟨ho,hB⟩:=hs.from_ id m hl hM hlim;obtain ⟨arr,t,fr,hblk,hn,hfr⟩:=hs.own id m hl hM ho;obtain ⟨k,hk⟩:=Option.ne_none_iff_exists'.1 hl;obtain ⟨hlt,hc⟩:=hs.cells id k m hk hM;have hsh:w.shape? m.b=some (t,arr.size):=by unfold World.shape?;rw [hblk]
 have hblk':(w.freeze ⟨m.b,arr.size,none⟩ 1).heap[m.b]?=some (.cells arr t (if fr.1==fr.2 then (arr.size,arr.size+1) else (min fr.1 arr.size,max fr.2 (arr.size+1)))):=by
  unfold World.freeze;rw [if_neg (by decide)];simp only [Array.getElem?_modify,if_true,hblk,Option.map_some]
 have hsize:(w.freeze ⟨m.b,arr.size,none⟩ 1).heap.size=w.heap.size:=by
  unfold World.freeze;rw [if_neg (by decide)];simp
 have hoth:∀ j,j≠m.b->(w.freeze ⟨m.b,arr.size,none⟩ 1).heap[j]?=w.heap[j]?:=λj hj=>by
  unfold World.freeze;rw [if_neg (by decide)];simp only [Array.getElem?_modify,if_neg (Ne.symm hj)]
 have hput:h.put id k=h:=by
  unfold AH.put;have:(λi=>if i=id then some k else h.get i)=h.get:=by
   funext i
   split
   .rename_i he;rw [he];exact hk.symm
   .rfl
  rw [this]
 have hcell:∀ o,(w.freeze ⟨m.b,arr.size,none⟩ 1).cell? ⟨m.b,o,none⟩=w.cell? ⟨m.b,o,none⟩:=λo=>by simp only [World.cell?,hblk',hblk]
 have key:=De.rewrite hs hf id m k hl hlim hM hsize hoth arr t _ hblk' hn (by
  split
  .exact .inr (by rw [hn];exact Nat.le_refl _)
  .rename_i hne;rcases hfr with h1 | h1
   .simp [h1] at hne
   .exact .inr (by simp only;omega)) ⟨hc.1,λel r hr=>⟨(hc.2 el r hr).1,λj v hv=>by
    obtain ⟨c1,x,c2,c3⟩:=(hc.2 el r hr).2 j v hv;exact ⟨c1,x,by rw [hcell];exact c2,c3⟩⟩⟩
 rw [hput] at key;refine ⟨_, ?_,⟨.sl id el len cap ad rc hi hlr (λ_=>⟨m,hM,λ_=>had,hcr,hown⟩),key.1,key.2.1,key.2.2,⟨?_, ?_, ?_, ?_, ?_⟩⟩⟩
 .subst had;simp [markStringish,hsh]
 .unfold World.freeze;rw [if_neg (by decide)]
 .unfold World.freeze;rw [if_neg (by decide)]
 .unfold World.freeze;rw [if_neg (by decide)]
 .rw [hsize];exact Nat.le_refl _
 .exact λk hk=>hoth k om
theorem uD {s d:TypeId} {x:Operand} (ho:o.op=.convert s d x) (hc:AF P o=some r) (hd:Ag tp r (X.ev e) h=some (v,h')):Ay P M B w h a o v h':=by
 simp only [AF,ho] at hc;split at hc
 .rename_i k k' hu hu';simp only [Option.map_eq_some_iff] at hc;obtain ⟨y,hy,rfl⟩:=hc;have hv:=Aw hE hy;simp only [Ag] at hd;split at hd
  .rename_i k2 n hp;simp at hd;obtain ⟨rfl,rfl⟩:=hd;rw [hp] at hv;cases hav:a.eval x<;>rw [hav] at hv<;>cases hv;exact Ay.same hs hf (.i _ _) (by simp [execOp,ho,hav,convert,run_underlying hu,run_underlying hu',Conv.intToInt])
  .simp at hd
 .rename_i hu hu';simp only [Option.map_eq_some_iff] at hc;obtain ⟨y,hy,rfl⟩:=hc;have hv:=Aw hE hy;simp only [Ag] at hd;split at hd
  .rename_i n hp;rw [hp] at hv;simp at hd;obtain ⟨rfl,rfl⟩:=hd;cases hav:a.eval x<;>rw [hav] at hv<;>cases hv;exact Ay.same hs hf (.s _) (by simp [execOp,ho,hav,convert,run_underlying hu,run_underlying hu'])
  .simp at hd
 .rename_i k hu hu';simp only [Option.map_eq_some_iff] at hc;obtain ⟨y,hy,rfl⟩:=hc;have hv:=Aw hE hy;simp only [Ag] at hd;split at hd
  case h_2=>simp at hd
  rename_i k2 n hp;simp at hd;obtain ⟨rfl,rfl⟩:=hd;rw [hp] at hv;cases hav:a.eval x<;>rw [hav] at hv<;>cases hv;exact Ay.same hs hf (.s _) (by simp [execOp,ho,hav,convert,run_underlying hu,run_underlying hu',Conv.intToString])
 .rename_i e' hu hu';split at hc
  case h_2=>simp at hc
  rename_i he;simp only [Option.map_eq_some_iff] at hc;obtain ⟨y,hy,rfl⟩:=hc;have hv:=Aw hE hy;simp only [Ag] at hd;split at hd
  case h_2=>simp at hd
  rename_i b hp;simp at hd;obtain ⟨rfl,rfl⟩:=hd;rw [hp] at hv;cases hav:a.eval x<;>rw [hav] at hv<;>cases hv;have hrun:=Lib.run_convert_string_bytes (P:=P) w s d e' b hu hu' he;have hnew:=Lib.bytesWorld_at_new w e' b;have hsize:=Lib.bytesWorld_size w e' b;have hge:=grownCap_ge w b.size 0 e';have hbw:Below B w (Lib.bytesWorld w e' b):=⟨rfl,rfl,rfl,by rw [hsize];omega,λk hk=>Lib.bytesWorld_at_old w e' b k (by have:=hs.size;omega)⟩
  have hcs:(Lib.bytesCells w e' b).size=grownCap w b.size 0 e':=by
   simp [Lib.bytesCells];omega
  have hadd:=De.add hs hf ⟨1,Ck b⟩ ⟨w.heap.size,0,grownCap w b.size 0 e',1,true⟩ (Lib.bytesCells w e' b) e' _ (w':=Lib.bytesWorld w e' b) (by rw [hsize];omega)
   (λid m hl hm=>by
    obtain ⟨k,hk⟩:=Option.ne_none_iff_exists'.1 hl;exact Lib.bytesWorld_at_old w e' b _ (hs.cells id k m hk hm).1)
   hs.size rfl (by rw [hsize];simp) (λid m hl hm=>by
    obtain ⟨k,hk⟩:=Option.ne_none_iff_exists'.1 hl;have:=(hs.cells id k m hk hm).1;simp only;omega) hnew hcs (.inr (by simp only;rw [hcs];exact Nat.le_refl _))
   ⟨rfl,λel row hrow=>by
    have hok:=Mt b row (List.mem_of_getElem? hrow);refine ⟨hok.1,λj u hj=>⟨List.all_eq_true.1 hok.2 u (List.mem_of_getElem? hj), ?_⟩⟩;simp only [Ck,List.getElem?_map,Option.map_eq_some_iff] at hrow;obtain ⟨c,hc,rfl⟩:=hrow;have hj0:j=0:=by
     have:=(List.getElem?_eq_some_iff.1 hj).1;simpa using this
    subst hj0;simp at hj;subst hj;have hel:el<b.size:=by
     have:=(List.getElem?_eq_some_iff.1 hc).1;simpa using this
    have hcell:=Lib.bytesWorld_cell w e' b el hel;refine ⟨_,by simpa using hcell, ?_⟩;have:b.data[el]?=some c:=by simpa using hc
    rw [this];exact .i _ _⟩ hbw
  refine ⟨.slice (some ⟨w.heap.size,0,none⟩) b.size (grownCap w b.size 0 e'),_,_,.inl ?_,⟨?_,hadd.1,hadd.2.1,hadd.2.2,hbw⟩⟩
  .simp [execOp,ho,hav,hrun]
  .exact .sl _ _ _ _ _ _ (Nat.lt_succ_self _) hge (λ_=>⟨_,by simp [Mp.set];rfl,λ_=>by simp,hge,λ_=>by simp⟩)
 .rename_i e' hu hu';split at hc
  case h_2=>simp at hc
  rename_i he;simp only [Option.map_eq_some_iff] at hc;obtain ⟨y,hy,rfl⟩:=hc;have hv:=Aw hE hy;simp only [Ag] at hd;split at hd
  .simp at hd
  .rename_i z hz;simp only [Option.bind_eq_some_iff,Option.map_eq_some_iff,Prod.mk.injEq] at hd;obtain ⟨l,hl,bs,hbs,rfl,rfl⟩:=hd;cases hye:X.ev e y<;>rw [hye] at hl hv hz<;>try (simp [AM] at hl;done)
   .exact absurd rfl (hz _)
   .cases hav:a.eval x<;>rw [hav] at hv<;>cases hv;simp [AM] at hl;subst hl;simp [bytesOf?] at hbs;subst hbs;exact Ay.same hs hf (.s _) (by simp [execOp,ho,hav,convert,run_underlying hu,run_underlying hu',run_underlying he,Conv.bytesToString];rfl)
   .cases hav:a.eval x<;>rw [hav] at hv<;>cases hv;rename_i ad;simp [AM] at hl;subst hl;simp [bytesOf?] at hbs;subst hbs;have hload:=run_loadCells_list (P:=P) w ad [] (by simp);have hrun:=run_bytesToString (P:=P) w ad 0 0 [] hload;exact Ay.same hs hf (.s _) (by simp [execOp,ho,hav,convert,run_underlying hu,run_underlying hu',run_underlying he,hrun];rfl)
   .obtain ⟨ad,rc,hav,hi,hlr,hm⟩:=hv.sl_inv
    .obtain ⟨hnl,hok,xs,hxs,hxl,hxc⟩:=Kc hs (.sl _ _ _ _ ad rc hi hlr hm) hl;obtain ⟨ns,rfl,rfl⟩:=Jf hbs hxs;have hload:=run_loadCells_list (P:=P) w ad (ns.map (Value.int .u8)) hxc;rw [hxl,Nat.mul_one] at hload;have hrun:=run_bytesToString (P:=P) w ad _ rc ns hload;rw [WE] at hrun;have:(ByteArray.empty.data++(ns.map λn=>UInt8.ofNat n.toNat).toArray)=(ns.map λn=>UInt8.ofNat n.toNat).toArray:=by apply Array.ext';simp [show ByteArray.empty.data = #[] from rfl]
     rw [this] at hrun;exact Ay.same hs hf (.s _) (by simp [execOp,ho,hav,convert,run_underlying hu,run_underlying hu',run_underlying he,hrun])
 .rename_i e0 e' hu hu';split at hc
  case isFalse=>simp at hc
  rename_i hsd;split at hc
  case h_2=>simp at hc
  rename_i he;simp only [Option.map_eq_some_iff] at hc;obtain ⟨y,hy,rfl⟩:=hc;have hv:=Aw hE hy;simp only [Ag] at hd;split at hd
  case h_2=>simp at hd
  rename_i id el len cap hp;split at hd
  case isFalse=>simp at hd
  rename_i hcond;simp only [Option.some.injEq,Prod.mk.injEq] at hd;obtain ⟨rfl,rfl⟩:=hd;rw [hp] at hv;obtain ⟨ad,rc,hav,hi,hlr,hm⟩:=hv.sl_inv;obtain ⟨w',hrun,hdone⟩:=Wc (P:=P) (B:=B) hs hf (by rw [AH.live];intro hn;rw [hn] at hcond;simp at hcond) hcond.2.1 hcond.2.2 hi hlr hm;exact ⟨_,w',M,.inl (by simp [execOp,ho,hav,convert,run_underlying hu,run_underlying hu',run_underlying he,hsd,hrun]),hdone⟩
 .simp at hc
theorem aNM {t:TypeId} {x:Operand} {f:Nat} (ho:o.op=.fieldAddr t x f) (hc:AF P o=some r) (hd:Ag tp r (X.ev e) h=some (v,h')):Ay P M B w h a o v h':=by
 simp only [AF,ho,Option.bind_eq_bind] at hc;split at hc
 case h_2=>simp at hc
 rename_i fs hu;simp only [Option.bind_eq_some_iff,Option.pure_def,Option.some.injEq] at hc;obtain ⟨q,hq,s,hsz,u1,hg,y,hy,rfl⟩:=hc;have hg:=BQ hg;have hv:=Aw hE hy;simp only [Ag] at hd;split at hd
 case h_2=>simp at hd
 rename_i id el off hp;simp at hd;obtain ⟨rfl,rfl⟩:=hd;rw [hp] at hv;cases hav:a.eval x<;>rw [hav] at hv<;>cases hv;rename_i ad hi hm;have hs0:s≠0:=by simpa using hg
 refine Ay.same hs hf (x:=.pointer (some (ad.add q.offset))) (.p _ _ _ _ hi λhl=>?_) (by simp [execOp,ho,hav,Instr.fieldAt,run_underlying hu,hq,Instr.sureAddr,fieldPlace,Bh hsz,hs0]);obtain ⟨m,hM,rfl⟩:=hm hl;exact ⟨m,hM,by rw [DX];simp [Nat.add_assoc]⟩
theorem aNN {t:TypeId} {x:Operand} {f:Nat} (ho:o.op=.field t x f) (hc:AF P o=some r) (hd:Ag tp r (X.ev e) h=some (v,h')):Ay P M B w h a o v h':=by
 simp only [AF,ho,Option.bind_eq_bind] at hc;split at hc
 case h_2=>simp at hc
 rename_i fs hu;simp only [Option.bind_eq_some_iff,Option.pure_def,Option.some.injEq] at hc;obtain ⟨q,hq,s,hsz,g,hg,u1,hg1,y,hy,rfl⟩:=hc;have hv:=Aw hE hy;simp only [Ag] at hd;split at hd
 case h_2=>simp at hd
 rename_i l hp;simp only [Option.map_eq_some_iff,Prod.mk.injEq] at hd;obtain ⟨z,hz,rfl,rfl⟩:=hd;rw [hp] at hv;cases hav:a.eval x<;>rw [hav] at hv<;>try (cases hv;done)
 cases hv with
 | agg _ l' hl=>
  obtain ⟨zz,hrun,hvz⟩:=Nn (P:=P) hl hz hsz hg w;exact Ay.same hs hf hvz (by simp [execOp,ho,hav,Instr.field,run_underlying hu,hq,asAgg,hrun])
theorem aNO {t:TypeId} {x j:Operand} (ho:o.op=.indexAddr t x j) (hc:AF P o=some r) (hd:Ag tp r (X.ev e) h=some (v,h')):Ay P M B w h a o v h':=by
 simp only [AF,ho,Option.bind_eq_bind] at hc;split at hc
 .rename_i t' hu;simp only [Option.bind_eq_some_iff,Option.pure_def,Option.some.injEq] at hc;obtain ⟨s,hsz,y,hy,z,hz,rfl⟩:=hc;have hv:=Aw hE hy;have hj:=Aw hE hz;simp only [Ag] at hd;split at hd
  case h_2=>simp at hd
  rename_i id el len cap hp;split at hd
  case isFalse=>simp at hd
  rename_i hks;simp only [Option.map_eq_some_iff,Prod.mk.injEq] at hd;obtain ⟨i,hi,rfl,rfl⟩:=hd;obtain ⟨kk,hja,hlt⟩:=GA hj hi;rw [hp] at hv;obtain ⟨ad,rc,hav,hid,hlr,hm⟩:=hv.sl_inv
  .refine Ay.same hs hf (x:=.pointer (some (ad.add (i*s)))) (.p _ _ _ _ hid λhl=>?_) ?_
   .obtain ⟨m,hM,ha,_⟩:=hm hl;obtain ⟨k,hk⟩:=Option.ne_none_iff_exists'.1 hl;obtain ⟨_,hms,_⟩:=hs.cells id k m hk hM;have hks':k.sz=s:=by simpa [szB,hk] using hks
    exact ⟨m,hM,by rw [ha om,DX,hms,hks'];simp [Nat.add_mul,Nat.add_assoc]⟩
   .have h1:(0:Int)<=(i:Int)/\(i:Int)<(len:Int):=⟨om,om⟩
    have h2:¬ len<=i:=by omega
    simp [execOp,ho,hav,hja,Instr.indexAt,run_underlying hu,asIntOf,h1,h2,hlt,Bh hsz]
 .rename_i n t' hu;simp only [Option.bind_eq_some_iff,Option.pure_def,Option.some.injEq] at hc;obtain ⟨s,hsz,y,hy,z,hz,rfl⟩:=hc;have hv:=Aw hE hy;have hj:=Aw hE hz;simp only [Ag] at hd;split at hd
  case h_2=>simp at hd
  rename_i id el off hp;simp only [Option.map_eq_some_iff,Prod.mk.injEq] at hd;obtain ⟨i,hi,rfl,rfl⟩:=hd;obtain ⟨kk,hja,hlt⟩:=GA hj hi;rw [hp] at hv;cases hav:a.eval x<;>rw [hav] at hv<;>cases hv;rename_i ad hid hm;refine Ay.same hs hf (x:=.pointer (some (ad.add (i*s)))) (.p _ _ _ _ hid λhl=>?_) ?_
  .obtain ⟨m,hM,rfl⟩:=hm hl;exact ⟨m,hM,by rw [DX];simp [Nat.add_assoc]⟩
  .have h1:(0:Int)<=(i:Int)/\(i:Int)<(n:Int):=⟨om,om⟩
   have h2:¬ n<=i:=by omega
   simp [execOp,ho,hav,hja,Instr.indexAt,run_underlying hu,asIntOf,Instr.sureAddr,h1,h2,hlt,Bh hsz]
 .simp at hc
theorem aNP {t:TypeId} {x j:Operand} (ho:o.op=.index t x j) (hc:AF P o=some r) (hd:Ag tp r (X.ev e) h=some (v,h')):Ay P M B w h a o v h':=by
 simp only [AF,ho,Option.bind_eq_bind] at hc;split at hc
 .rename_i n t' hu;simp only [Option.bind_eq_some_iff,Option.pure_def,Option.some.injEq] at hc;obtain ⟨s,hsz,g,hg,u1,hg1,y,hy,z,hz,rfl⟩:=hc;have hv:=Aw hE hy;have hj:=Aw hE hz;simp only [Ag] at hd;split at hd
  case h_2=>simp at hd
  rename_i l hp;simp only [Option.bind_eq_some_iff,Option.map_eq_some_iff,Prod.mk.injEq] at hd;obtain ⟨i,hi,c,hcut,rfl,rfl⟩:=hd;obtain ⟨kk,hja,hlt⟩:=GA hj hi;rw [hp] at hv;cases hav:a.eval x<;>rw [hav] at hv<;>try (cases hv;done)
  cases hv with
  | agg _ l' hl=>
   obtain ⟨zz,hrun,hvz⟩:=Nn (P:=P) hl hcut hsz hg w;have h1:(0:Int)<=(i:Int)/\(i:Int)<(n:Int):=⟨om,om⟩
   have h2:¬ n<=i:=by omega
   exact Ay.same hs hf hvz (by simp [execOp,ho,hav,hja,Instr.index,run_underlying hu,asIntOf,h1,h2,hlt,Bh hsz,hrun])
 .rename_i hu;simp only [Option.bind_eq_some_iff,Option.pure_def,Option.some.injEq] at hc;obtain ⟨y,hy,z,hz,rfl⟩:=hc;have hv:=Aw hE hy;have hj:=Aw hE hz;simp only [Ag] at hd;split at hd
  case h_2=>simp at hd
  rename_i b hp;simp only [Option.map_eq_some_iff,Prod.mk.injEq] at hd;obtain ⟨i,hi,rfl,rfl⟩:=hd;obtain ⟨kk,hja,hlt⟩:=GA hj hi;rw [hp] at hv;cases hav:a.eval x<;>rw [hav] at hv<;>cases hv;have hb:b[i]?=some b[i]:=ByteArray.getElem?_lt' b i hlt;have hb2:b.data.toList.getD i 0=b[i]:=by
   have:i<b.data.size:=hlt;rw [List.getD_eq_getElem?_getD,Array.getElem?_toList,Array.getElem?_eq_getElem this];rfl
  refine Ay.same hs hf (.i _ _) ?_;rw [hb2];simp [execOp,ho,hav,hja,Instr.index,run_underlying hu,asIntOf,hb]
 .simp at hc
theorem cF {t:TypeId} {x:Operand} {lo hi mx:Option Operand} (ho:o.op=.slice t x lo hi mx) (hc:AF P o=some r) (hd:Ag tp r (X.ev e) h=some (v,h')):Ay P M B w h a o v h':=by
 simp only [AF,ho,Option.bind_eq_bind] at hc;split at hc
 .rename_i t' hu;simp only [Option.bind_eq_some_iff,Option.pure_def,Option.some.injEq] at hc;obtain ⟨s,hsz,y,hy,xlo,hlo,xhi,hhi,xmx,hmx,rfl⟩:=hc;have hv:=Aw hE hy;simp only [Ag] at hd;split at hd
  .rename_i hp;split at hd
   case isFalse=>simp at hd
   rename_i hcond;simp only [Option.bind_eq_some_iff,Option.map_eq_some_iff,Prod.mk.injEq] at hd;obtain ⟨m,hm,t2,ht2,l,hl,rfl,rfl⟩:=hd;rw [hp] at hv;cases hav:a.eval x<;>rw [hav] at hv<;>cases hv;obtain ⟨m',hrun,hmm,h1,h2,h3,h4⟩:=Fx (P:=P) hE hlo hhi hmx 0 0 0 m t2 l true (Nat.le_refl _) hm ht2 hl (by
    rcases xmx with _ | q
    .exact .inl rfl
    .rcases xhi with _ | q2
     .simp at hcond
     .exact .inr (by simp)) (.inl (Nat.le_refl _)) w
   have:m'=0:=by omega
   subst this;have:l=0:=by omega
   subst this;have:t2=0:=by omega
   subst this;exact Ay.same hs hf .ns (by simp [execOp,ho,hav,Instr.sliceAt,Instr.slice,run_underlying hu,hrun,Bh hsz])
  .rename_i hp;split at hd
   case isFalse=>simp at hd
   rename_i hcond;simp only [Option.bind_eq_some_iff,Option.map_eq_some_iff,Prod.mk.injEq] at hd;obtain ⟨m,hm,t2,ht2,l,hl,rfl,rfl⟩:=hd;rw [hp] at hv;cases hav:a.eval x<;>rw [hav] at hv<;>cases hv;rename_i ad;obtain ⟨m',hrun,hmm,h1,h2,h3,h4⟩:=Fx (P:=P) hE hlo hhi hmx 0 0 0 m t2 l true (Nat.le_refl _) hm ht2 hl (by
    rcases xmx with _ | q
    .exact .inl rfl
    .rcases xhi with _ | q2
     .simp at hcond
     .exact .inr (by simp)) (.inl (Nat.le_refl _)) w
   have:m'=0:=by omega
   subst this;have:l=0:=by omega
   subst this;have:t2=0:=by omega
   subst this;exact Ay.same hs hf (.e0 ad) (by simp [execOp,ho,hav,Instr.sliceAt,Instr.slice,run_underlying hu,hrun,Bh hsz])
  .rename_i id el len cap hp;simp only [Option.bind_eq_some_iff] at hd;obtain ⟨k,hk,hd⟩:=hd;split at hd
   case isFalse=>simp at hd
   rename_i hcond;obtain ⟨rfl,hcond,hlc⟩:=hcond;simp only [Option.bind_eq_some_iff,Option.map_eq_some_iff,Prod.mk.injEq] at hd;obtain ⟨m,hm,t2,ht2,l,hl,rfl,rfl⟩:=hd;rw [hp] at hv;obtain ⟨ad,rc,hav,hid,hlr,hmm⟩:=hv.sl_inv
   .have hlive:h.live id:=by simp [AH.live,hk]
    obtain ⟨mm,hM,ha,hcr,hroom⟩:=hmm hlive;obtain ⟨m',hrun,hm',h1,h2,h3,h4⟩:=Fx (P:=P) hE hlo hhi hmx len cap rc m t2 l true hcr hm ht2 hl (by
     rcases xmx with _ | q
     .exact .inl rfl
     .rcases xhi with _ | q2
      .simp at hcond
      .exact .inr (by simp)) (.inl hlc) w
    obtain ⟨_,hms,_⟩:=hs.cells id k mm hk hM;refine Ay.same hs hf (x:=.slice (some (if m'=l then ad else ad.add (l*k.sz))) (t2 - l) (m' - l)) (.sl _ _ _ _ _ _ hid om λ_=>⟨mm,hM,λhpos=>?_,om,λho=>?_⟩) ?_
    .rw [if_neg om,ha om,DX,hms];simp [Nat.add_mul,Nat.add_assoc]
    .have:=hroom ho;have e1:l*mm.sz+(m' - l)*mm.sz=m'*mm.sz:=by rw [<- Nat.add_mul];congr 1;omega
     have e2:m'*mm.sz<=rc*mm.sz:=Nat.mul_le_mul_right _ h4;rw [Nat.add_mul];omega
    .simp [execOp,ho,hav,Instr.sliceAt,Instr.slice,run_underlying hu,hrun,Bh hsz];split<;>rfl
  .simp at hd
 .rename_i hu;simp only [Option.bind_eq_some_iff,Option.pure_def,Option.some.injEq] at hc;obtain ⟨u1,hg,y,hy,xlo,hlo,xhi,hhi,rfl⟩:=hc;have hg:=BQ hg;have hmx:mx=none:=by simpa using hg
  subst hmx;have hv:=Aw hE hy;simp only [Ag] at hd;split at hd
  case h_2=>simp at hd
  rename_i b hp;simp only [Option.bind_eq_some_iff,Option.map_eq_some_iff,Prod.mk.injEq] at hd;obtain ⟨t2,ht2,l,hl,rfl,rfl⟩:=hd;rw [hp] at hv;cases hav:a.eval x<;>rw [hav] at hv<;>cases hv;obtain ⟨m',hrun,hm',h1,h2,h3,h4⟩:=Fx (P:=P) hE (mx:=none) (xmx:=none) hlo hhi rfl b.size b.size b.size b.size t2 l false (Nat.le_refl _) rfl ht2 hl (.inl rfl) (.inl (Nat.le_refl _)) w;simp only [Option.map_none] at hrun;exact Ay.same hs hf (.s _) (by simp [execOp,ho,hav,Instr.sliceAt,Instr.slice,run_underlying hu,hrun])
 .simp at hc
theorem uH {t:TypeId} {n c:Operand} (ho:o.op=.makeSlice t n c) (hc:AF P o=some r) (hd:Ag tp r (X.ev e) h=some (v,h')):Ay P M B w h a o v h':=by
 simp only [AF,ho,Option.bind_eq_bind] at hc;split at hc
 case h_2=>simp at hc
 rename_i t' hu;simp only [Option.bind_eq_some_iff,Option.pure_def,Option.some.injEq] at hc;obtain ⟨s,hsz,z,hz,u1,hg,y,hy,q,hq,rfl⟩:=hc;have hg:=BQ hg;simp only [Bool.and_eq_true,decide_eq_true_eq,beq_iff_eq] at hg;obtain ⟨⟨hg1,hg2⟩,hg3⟩:=hg;obtain ⟨zx,zv,hzr,hzi,hzv,rfl⟩:=Eb hz w;have hv:=Aw hE hy;have hu2:=Aw hE hq;simp only [Ag] at hd;split at hd
 case h_2=>simp at hd
 rename_i k1 a1 k2 m1 hp1 hp2;split at hd
 case isFalse=>simp at hd
 rename_i hcond;obtain ⟨h0,hle,hbig⟩:=hcond;simp at hd;obtain ⟨rfl,rfl⟩:=hd;rw [hp1] at hv;rw [hp2] at hu2;cases hav:a.eval n<;>rw [hav] at hv<;>cases hv;cases hbv:a.eval c<;>rw [hbv] at hu2<;>cases hu2;simp only [CA,Option.map_eq_some_iff] at hsz;obtain ⟨i,hi,rfl⟩:=hsz;simp only [hi,Option.bind_some] at hzi;simp only [J1,hi,Option.map_some,Option.getD_some] at hg3;have hrun:=run_make (P:=P) w t t' i zx hu hi hzi k1 k2 a1 m1 h0 hle (by
  have h2:(i.bytes:Int)*m1<=4096*m1:=Int.mul_le_mul_of_nonneg_right om om;simp only [Bc] at hbig;omega) (by simp only [Bc] at hbig;omega)
 have hmade:=KA (M:=M) (h:=h) (BU hzv) m1.toNat
 have hrows:=EO (n:=m1.toNat) (Fs hzv);obtain ⟨M',hd⟩:=Er hs hf ⟨zv.cells.length,List.replicate m1.toNat zv.cells⟩ (madeCells zx.cells (m1.toNat*zv.cells.length)) t' hrows (λj u hu=>by
  obtain ⟨x,hx,hvx⟩:=hmade.get j u hu;exact ⟨x,by simpa using hx,hvx⟩) a1.toNat m1.toNat m1.toNat om (Nat.le_refl _) (by simp [size_madeCells])
 refine ⟨_,_,M',.inl ?_,hd⟩;rw [hg1];simp [execOp,ho,hav,hbv,hrun]
theorem aNR {x:Operand} {t1 t:TypeId} {ok:Bool} (ho:o.op=.typeAssert x t1 t ok) (hc:AF P o=some r) (hd:Ag tp r (X.ev e) h=some (v,h')):Ay P M B w h a o v h':=by
 simp only [AF,ho] at hc;have key:(∀ ms,P.underlying t≠some (.interface ms))->∀ d,P.underlying t=some d->((I7 P t).bind λz=>(AX x).bind λy=>some (O.tas t ok z y))=some r->Ay P M B w h a o v h':=by
  intro hni d hu hc;simp only [Option.bind_eq_some_iff,Option.some.injEq] at hc;obtain ⟨z,hz,y,hy,rfl⟩:=hc;obtain ⟨zx,hzr,hzv⟩:=GW hz w;have hv:=Aw hE hy;simp only [Ag] at hd;have hfail:∀ (s c:Option TypeId) (m:String),ok=true->((do if ok then pure (.tuple #[<- zeroValue t,.bool false]) else runtimePanic (.typeAssertion s c t m):Sem Value)).run P w=.ok (.tuple #[zx,.bool false]) w:=by
   intro s c m hok;subst hok;simp [hzr]
  split at hd
  .rename_i t' u hp;rw [hp] at hv;obtain ⟨xx,hav,hxx⟩:∃ xx,a.eval x=.iface t' xx/\VR M h u xx:=by
    generalize a.eval x=q at hv
    cases hv with
    | ifc _ _ xx hxx=>exact ⟨xx,rfl,hxx⟩
   .split at hd
    .rename_i ht;subst ht;simp at hd;obtain ⟨rfl,rfl⟩:=hd;refine Ay.same hs hf (x:=if ok then .tuple #[xx,.bool true] else xx) ?_ ?_
     .cases ok
      .exact hxx
      .exact .tup _ _ (.cons _ _ _ _ hxx (.cons _ _ _ _ (.b _) .nil))
     .cases d<;>first | (exact absurd hu (hni _)) | (simp [execOp,ho,hav,Instr.typeAssert,run_underlying hu])
    .rename_i ht;split at hd
     case isFalse=>simp at hd
     rename_i hok;simp at hd;obtain ⟨rfl,rfl⟩:=hd;subst hok;refine Ay.same hs hf (x:=.tuple #[zx,.bool false]) (.tup _ _ (.cons _ _ _ _ (Om hzv) (.cons _ _ _ _ (.b _) .nil))) ?_;cases d<;>first | (exact absurd hu (hni _)) | simp [execOp,ho,hav,Instr.typeAssert,run_underlying hu,ht,hzr]
  .rename_i hp;rw [hp] at hv;cases hav:a.eval x<;>rw [hav] at hv<;>cases hv;split at hd
   case isFalse=>simp at hd
   rename_i hok;simp at hd;obtain ⟨rfl,rfl⟩:=hd;subst hok;refine Ay.same hs hf (x:=.tuple #[zx,.bool false]) (.tup _ _ (.cons _ _ _ _ (Om hzv) (.cons _ _ _ _ (.b _) .nil))) ?_;cases d<;>first | (exact absurd hu (hni _)) | simp [execOp,ho,hav,Instr.typeAssert,run_underlying hu,hzr]
  .simp at hd
 split at hc
 .simp at hc
 .simp at hc
 .rename_i hn1 hn2
  cases hu:P.underlying t with
  | none=>exact absurd hu hn2
  | some d=>exact key (λms hh=>hn1 ms hh) d hu hc
end
end
end Go.Ab
/- Each operation but calls of functions: what the abstract machine does the model's does: all of them as one theorem. -/
namespace Go.Ab
open Go Go.RowKit
section
variable {P:Program}
variable {tp:TP} {M:Mp} {B:Nat} {w:World} {h h':AH} {e:Env} {a:Act} {v:V} {o:Oper} {r:O}
section
variable (hE:EA M h e a) (hs:De M B w h) (hf:Full M h)
include hE hs hf
theorem S6 {c:Call} {b:Builtin} (ho:o.op=.call c) (hb:c.callee=.builtin b) (hc:AF P o=some r) (hd:Ag tp r (X.ev e) h=some (v,h')):Ay P M B w h a o v h':=by
 obtain ⟨callee,args,argTypes⟩:=c;simp only at hb;subst hb;simp only [AF,ho,Option.bind_eq_bind,Option.pure_def] at hc;have hres:(resolve a.eval ⟨.builtin b,args,argTypes⟩ o.type)=pure { target:=.builtin b argTypes o.type (args.map λ| .const _=>true | _=>false),args:=args.map a.eval }:=rfl;have hrun : ∀ (f : Array TypeId -> TypeId -> Array Value -> Sem Value) (x : Value) (w' : World), builtin b argTypes o.type (args.map λ| .const _ => true | _ => false) (args.map a.eval) = (do pure (.value (<- f argTypes o.type (args.map a.eval))) : Sem Next) ->
     (f argTypes o.type (args.map a.eval)).run P w=.ok x w'->(execOp a.eval o).run P w=.ok (.value x) w':=by
  intro f x w' hbf hfr;simp only [execOp,ho,hres,Sem.run_bind,Sem.run_pure,Result.andThen_ok,invoke,hbf,hfr]
 split at hc
 .-- append
  rename_i x y hxy;have hargs:args = #[x,y]:=by apply Array.ext';simpa using hxy
  split at hc
  case h_2=>simp at hc
  rename_i t' hu;simp only [Option.bind_eq_some_iff,Option.some.injEq] at hc;obtain ⟨s,hsz,z,hz,u1,hg1,u2,hg2,u3,hg3,x',hx',y',hy',hc⟩:=hc;have hg1:=BQ hg1;have hg2:=BQ hg2;have hg3:=BQ hg3;simp only [beq_iff_eq] at hg3;simp only [Bool.and_eq_true,decide_eq_true_eq,beq_iff_eq] at hg1;obtain ⟨⟨⟨g1,g2⟩,g3⟩,g4⟩:=hg1;obtain ⟨zx,zv,hzr,hzi,hzv,rfl⟩:=Eb hz w;simp only [CA,Option.map_eq_some_iff] at hsz;obtain ⟨i,hi,rfl⟩:=hsz;simp only [hi,Option.bind_some] at hzi;simp only [J1,hi,Option.map_some,Option.getD_some] at g3 g4;split at hc
  .-- .. of noughts
   rename_i hint;subst hc;obtain ⟨t,u,hat⟩:∃ t u,argTypes = #[t,u]:=by
    rcases argTypes with ⟨l⟩
    match l,hg3 with
    | [t],h=>simp at h
    | [t,u],_=>exact ⟨t,u,rfl⟩
   subst hat
   have hu':P.underlying t=some (.slice t'):=hu;have hui:P.underlying u=some (.int .i64):=by
    have hq:(#[t,u].getD 1 0)=u:=rfl;rw [hq] at hint;unfold UO at hint;split at hint
    .assumption
    .simp at hint
   have hv:=Aw hE hx';have hu2:=Aw hE hy';simp only [Ag] at hd;split at hd
   case h_2=>simp at hd
   rename_i k1 a1 hp1 hp2;split at hd
   case isFalse=>simp at hd
   rename_i hcond;obtain ⟨h0,hbig⟩:=hcond;simp at hd;obtain ⟨rfl,rfl⟩:=hd;rw [hp1] at hv;rw [hp2] at hu2;cases hav:a.eval x<;>rw [hav] at hv<;>cases hv;cases hbv:a.eval y<;>rw [hbv] at hu2<;>cases hu2;have hrun2:=dN (P:=P) (ty:=o.type) hu' hui hi g2 g3 zx hzi k1 a1 h0 hbig w;have hzl:zx.cells.size=zv.cells.length:=by
    have:=(BU (M:=M) (h:=h) hzv).length;simpa using this.symm
   have hge:=grownCap_ge w a1.toNat 0 t';have hmade:=KA (M:=M) (h:=h) (BU hzv) a1.toNat
   have hrows:=EO (n:=a1.toNat) (Fs hzv);obtain ⟨M',hdn⟩:=Er hs.drew hf ⟨zv.cells.length,List.replicate a1.toNat zv.cells⟩ (Builtin.zeroCells zx.cells a1.toNat++Builtin.zeroCells zx.cells (grownCap w a1.toNat 0 t' - a1.toNat)) t' hrows (λj u hu=>by
    obtain ⟨x,hx,hvx⟩:=hmade.get j u hu;have hzm:Builtin.zeroCells zx.cells a1.toNat=madeCells zx.cells (a1.toNat*zv.cells.length):=by rw [<- hzl];rfl
    refine ⟨x, ?_,hvx⟩;rw [hzm];have hx2:(madeCells zx.cells (a1.toNat*zv.cells.length))[j]?=some x:=by simpa using hx
    have hlt:=(Array.getElem?_eq_some_iff.1 hx2).1;rw [Array.getElem?_append,if_pos hlt];exact hx2) a1.toNat a1.toNat (grownCap w a1.toNat 0 t') om om (by
     simp only [Array.size_append,size_zeroCells,hzl];rw [<- Nat.add_mul];apply Nat.mul_le_mul_right;omega)
   refine ⟨_,_,M',.inl (hrun Builtin.append_ _ _ rfl (by rw [hargs];simpa [hav,hbv] using hrun2)),⟨hdn.val,hdn.sim,hdn.full,hdn.goes,Below.from_drew hdn.below⟩⟩
  rename_i hint;subst hc;obtain ⟨t,u,hat⟩:∃ t u,argTypes = #[t,u]:=by
   rcases argTypes with ⟨l⟩
   match l,hg3 with
   | [t,u],_=>exact ⟨t,u,rfl⟩
  subst hat
  have hu':P.underlying t=some (.slice t'):=hu;have T:jD P t u t' i i.size:=⟨hu',by
   have hq:(#[t,u].getD 1 0)=u:=rfl;rw [hq] at hg2;split at hg2
   .rename_i e' he';exact .inl ⟨e',he'⟩
   .rename_i he';exact .inr he'
   .rename_i he';exact absurd (show UO P u=true by unfold UO;rw [he']) hint
   .simp at hg2,hi,rfl,g2,g3,g4⟩
  have hzl:zx.cells.size=i.size:=by
   have:=(BU (M:=M) (h:=h) hzv).length;rw [g1] at this;simpa using this.symm
  simp only [Ag] at hd;obtain ⟨rr,w',M',hrr,hdone⟩:=Vp (P:=P) (ty:=o.type) T zx hzi hzl hs hf (Aw hE hx') (Aw hE hy') hd;exact ⟨rr,w',M',.inl (hrun Builtin.append_ rr w' rfl (by rw [hargs];simpa using hrr)),hdone⟩
 .-- len
  rename_i x hxx;have hargs:args = #[x]:=by apply Array.ext';simpa using hxx
  have one:(argTypes.size==1)=true->∃ t,argTypes = #[t]:=λhh=>by
   rcases argTypes with ⟨l⟩
   match l,hh with
   | [t],_=>exact ⟨t,rfl⟩
  split at hc
  .rename_i n t' hu;split at hc
   case isFalse=>simp at hc
   rename_i h1;obtain ⟨t,rfl⟩:=one h1;simp at hc;subst hc;simp [Ag] at hd;obtain ⟨rfl,rfl⟩:=hd;have hu':P.underlying t=some (.array n t'):=hu;exact Ay.same hs hf (.i _ _) (hrun Builtin.len_ _ w rfl (by rw [hargs];simp [Builtin.len_,run_underlying hu',goInt]))
  .rename_i t' hu;split at hc
   case isFalse=>simp at hc
   rename_i h1;obtain ⟨t,rfl⟩:=one h1;simp only [Option.map_eq_some_iff] at hc;obtain ⟨y,hy,rfl⟩:=hc;have hv:=Aw hE hy;have hu':P.underlying t=some (.slice t'):=hu;simp only [Ag] at hd;split at hd
   .rename_i hp;simp at hd;obtain ⟨rfl,rfl⟩:=hd;rw [hp] at hv;cases hav:a.eval x<;>rw [hav] at hv<;>cases hv;exact Ay.same hs hf (.i _ _) (hrun Builtin.len_ _ w rfl (by rw [hargs];simp [Builtin.len_,run_underlying hu',goInt,hav]))
   .rename_i hp;simp at hd;obtain ⟨rfl,rfl⟩:=hd;rw [hp] at hv;cases hav:a.eval x<;>rw [hav] at hv<;>cases hv;exact Ay.same hs hf (.i _ _) (hrun Builtin.len_ _ w rfl (by rw [hargs];simp [Builtin.len_,run_underlying hu',goInt,hav]))
   .rename_i id el n cap hp;simp at hd;obtain ⟨rfl,rfl⟩:=hd;rw [hp] at hv;obtain ⟨ad,rc,hav,_⟩:=hv.sl_inv;exact Ay.same hs hf (.i _ _) (hrun Builtin.len_ _ w rfl (by rw [hargs];simp [Builtin.len_,run_underlying hu',goInt,hav]))
   .simp at hd
  .rename_i hu;split at hc
   case isFalse=>simp at hc
   rename_i h1;obtain ⟨t,rfl⟩:=one h1;simp only [Option.map_eq_some_iff] at hc;obtain ⟨y,hy,rfl⟩:=hc;have hv:=Aw hE hy;have hu':P.underlying t=some .string:=hu;simp only [Ag] at hd;split at hd
   case h_2=>simp at hd
   rename_i b hp;simp at hd;obtain ⟨rfl,rfl⟩:=hd;rw [hp] at hv;cases hav:a.eval x<;>rw [hav] at hv<;>cases hv;exact Ay.same hs hf (.i _ _) (hrun Builtin.len_ _ w rfl (by rw [hargs];simp [Builtin.len_,run_underlying hu',goInt,hav]))
  .simp at hc
 .-- cap
  rename_i x hxx;have hargs:args = #[x]:=by apply Array.ext';simpa using hxx
  split at hc
  case h_2=>simp at hc
  rename_i t' hu;split at hc
  case isFalse=>simp at hc
  rename_i h1;obtain ⟨t,rfl⟩:∃ t,argTypes = #[t]:=by
   rcases argTypes with ⟨l⟩
   match l,h1 with
   | [t],_=>exact ⟨t,rfl⟩
  simp only [Option.map_eq_some_iff] at hc;obtain ⟨y,hy,rfl⟩:=hc;have hv:=Aw hE hy;have hu':P.underlying t=some (.slice t'):=hu;simp only [Ag] at hd;split at hd
  case h_3=>simp at hd
  all_goals
   rename_i hp;simp at hd;obtain ⟨rfl,rfl⟩:=hd;rw [hp] at hv;cases hav:a.eval x<;>rw [hav] at hv<;>cases hv;exact Ay.same hs hf (.i _ _) (hrun Builtin.cap_ _ w rfl (by rw [hargs];simp [Builtin.cap_,run_underlying hu',goInt,hav]))
 .-- min
  simp only [Option.map_eq_some_iff] at hc;obtain ⟨l,hl,rfl⟩:=hc;have hvs:=DK hE hl;simp only [Ag] at hd
  cases l with
  | nil=>simp at hd
  | cons y ys=>
   simp only [Option.map_eq_some_iff,Prod.mk.injEq] at hd;obtain ⟨z,hz,rfl,rfl⟩:=hd;simp only [List.map_cons] at hvs
   cases hal:args.toList.map a.eval with
   | nil=>rw [hal] at hvs;cases hvs
   | cons q qs=>
    rw [hal] at hvs
    cases hvs with
    | cons _ _ _ _ h1 h2=>
     obtain ⟨zz,hzz,hvz⟩:=Hb (P:=P) (λa b c w=>Wj a b c w) h1 h2 hz w;refine Ay.same hs hf hvz (hrun Builtin.min_ _ w rfl ?_);have:(args.map a.eval).toList=q::qs:=by simpa using hal
     simp only [Builtin.min_,this];exact hzz
 .-- max
  simp only [Option.map_eq_some_iff] at hc;obtain ⟨l,hl,rfl⟩:=hc;have hvs:=DK hE hl;simp only [Ag] at hd
  cases l with
  | nil=>simp at hd
  | cons y ys=>
   simp only [Option.map_eq_some_iff,Prod.mk.injEq] at hd;obtain ⟨z,hz,rfl,rfl⟩:=hd;simp only [List.map_cons] at hvs
   cases hal:args.toList.map a.eval with
   | nil=>rw [hal] at hvs;cases hvs
   | cons q qs=>
    rw [hal] at hvs
    cases hvs with
    | cons _ _ _ _ h1 h2=>
     obtain ⟨zz,hzz,hvz⟩:=Hb (P:=P) (λa b c w=>We a b c w) h1 h2 hz w;refine Ay.same hs hf hvz (hrun Builtin.max_ _ w rfl ?_);have:(args.map a.eval).toList=q::qs:=by simpa using hal
     simp only [Builtin.max_,this];exact hzz
 .simp at hc
theorem HW (hm:B3 P tp) (hc:AF P o=some r) (hd:Ag tp r (X.ev e) h=some (v,h')):Ay P M B w h a o v h':=by
 cases ho:o.op
 case move x=>simp only [AF,ho,Option.map_eq_some_iff] at hc;obtain ⟨y,hy,rfl⟩:=hc;exact UZ hE hs hf (.inl ho) hy hd
 case assign x=>simp only [AF,ho,Option.map_eq_some_iff] at hc;obtain ⟨y,hy,rfl⟩:=hc;exact UZ hE hs hf (.inr ho) hy hd
 case pick=>exact uI hE hs hf ho hc hd
 case alloc=>exact cD hE hs hf ho hc hd
 case box=>exact aNJ hE hs hf ho hc hd
 case build=>exact cE hE hs hf ho hc hd
 case buildSlice=>exact aNK hE hs hf ho hc hd
 case load=>exact uE hE hs hf ho hc hd
 case store=>exact cG hE hs hf ho hc hd
 case nilCheck=>exact aNQ hE hs hf hm ho hc hd
 case binOp=>exact aNI hE hs hf ho hc hd
 case unOp=>exact aY8 hE hs hf ho hc hd
 case convert=>exact uD hE hs hf ho hc hd
 case makeInterface=>exact uG hE hs hf ho hc hd
 case makeFunc=>exact uF hE hs hf ho hc hd
 case makeSlice=>exact uH hE hs hf ho hc hd
 case slice=>exact cF hE hs hf ho hc hd
 case fieldAddr=>exact aNM hE hs hf ho hc hd
 case field=>exact aNN hE hs hf ho hc hd
 case indexAddr=>exact aNO hE hs hf ho hc hd
 case index=>exact aNP hE hs hf ho hc hd
 case extract=>exact aNL hE hs hf ho hc hd
 case panic x=>
  simp only [AF,ho,Option.pure_def,Option.some.injEq] at hc;subst hc;simp [Ag,X.ev] at hd
 case typeAssert=>exact aNR hE hs hf ho hc hd
 case call c=>
  cases hb:c.callee
  case builtin b=>exact S6 hE hs hf ho hb hc hd
  case value f=>
   simp only [AF,ho,hb,Option.bind_eq_bind,Option.bind_eq_some_iff,Option.pure_def,Option.some.injEq] at hc;obtain ⟨_,_,_,_,rfl⟩:=hc;simp [Ag] at hd
  case invoke f m=>
   simp only [AF,ho,hb,Option.bind_eq_bind,Option.bind_eq_some_iff,Option.pure_def,Option.some.injEq] at hc;obtain ⟨_,_,_,_,rfl⟩:=hc;simp [Ag] at hd
 all_goals simp [AF,ho] at hc
end
end
end Go.Ab
/- Calls; a row of operations one behind the other. -/
namespace Go.Ab
open Go Go.RowKit
section
variable {P:Program}
def DW (P:Program) (C:A4):Prop:=
 ∀ f args h v h',C f args h=some (v,h')->(∃ fn,P.funcs[f]?=some fn/\fn.body.isNone=false/\(fn.name == "runtime.NumGoroutine")=false) /\
  ∀ (M:Mp) (B:Nat) (w:World) (xs:Array Value),De M B w h->Br M h args xs.toList->Calls P f xs w λe w'=>∃ x M',e=.returned x/\DE M B w h v h' x w' M'
theorem H5 {f:Nat} {args:Array Value} {fn:Func} (hf:P.funcs[f]?=some fn) (hb:fn.body.isNone=false) (hn:(fn.name == "runtime.NumGoroutine")=false) (w:World):(callFunc f args).run P w=.ok (.enter f args) w:=by
 have hn':fn.name≠"runtime.NumGoroutine":=by simpa using hn
 have hb':fn.body≠none:=by intro h0;simp [h0] at hb
 simp [callFunc,hf,hb',hn']
theorem Tm {M : Mp} {h : AH} {tp : TP} (hm : B3 P tp) {t : Nat} {m : String} {q : Xd} (hq : tp.meth t m = some q) {v r : V} {x : Value} (hv : VR M h v x)
    (hr:match q.at_ with | none=>r=v | some j=>∃ cs,v=.agg cs/\cs[j]?=some r) (w:World) (d:Nat):
    ∃ y,(method (d+1) t x m).run P w=.ok (q.f,y) w/\VR M h r y:=by
 have hB:=hm t m q hq;unfold bS at hB
 cases hi:P.info? t with
 | none=>simp [hi] at hB
 | some i=>
  simp only [hi,Option.bind_some] at hB
  cases hfind:i.methods.find? (·.name==m) with
  | none=>simp [hfind] at hB
  | some mm=>
   simp only [hfind] at hB;split at hB
   .rename_i f pr hfu hpa;simp only [Bool.and_eq_true,beq_iff_eq,Option.isNone_iff_eq_none] at hB;obtain ⟨⟨rfl,hat⟩,hty⟩:=hB;rw [hat] at hr;subst hr;refine ⟨x, ?_,hv⟩;have hpe:mm.path.isEmpty=true:=by
     have:mm.path = #[]:=by apply Array.ext';simpa using hpa
     simp [this]
    cases hu:P.underlying t with
    | none=>simp [hu] at hty
    | some dsc=>
     simp only [hu] at hty;cases pr
     .have:receiverAt t (.val x) false (if mm.path.isEmpty=true then some ((m.splitOn ".").getLastD m) else none)=receiverAt t (.val x) false (some ((m.splitOn ".").getLastD m)):=by rw [hpe];rfl
      cases dsc<;>simp at hty<;>simp [method,typeInfo,hi,hfind,hfu,hpa,follow,receiverAt,run_underlying hu,Place.get]
     .cases dsc<;>simp at hty<;>simp [method,typeInfo,hi,hfind,hfu,hpa,follow,receiverAt,run_underlying hu,Place.get]
   .rename_i f s hfu hpa;simp only [Bool.and_eq_true,beq_iff_eq] at hB;obtain ⟨⟨rfl,hder⟩,hst⟩:=hB;split at hst
    case h_2=>simp at hst
    rename_i fs hus;split at hst
    case h_2=>simp at hst
    rename_i fd hfd;simp only [Bool.and_eq_true,beq_iff_eq] at hst;obtain ⟨hat,hpt⟩:=hst;rw [hat] at hr;obtain ⟨cs,rfl,hcs⟩:=hr;split at hpt
    case h_2=>simp at hpt
    rename_i el hup
    cases hv with
    | agg _ l' hl=>
     obtain ⟨y,hy,hvy⟩:=hl.get _ r hcs;have hy':l'[fd.offset]?=some y:=by simpa using hy
     have hdr:s.deref=false:=by simpa using hder
     refine ⟨y, ?_,hvy⟩;have hag:(isAgg fd.type).run P w=.ok false w:=by simp [isAgg,run_underlying hup]
     simp [method,typeInfo,hi,hfind,hfu,hpa,follow,run_underlying hus,hfd,hdr,part,hag,hy',receiverAt,run_underlying hup,Place.get]
   .simp at hB
theorem bind_some {α β:Type} {x:Option α} {f:α->Option β} {r:β} (h:x.bind f=some r):∃ a,x=some a/\f a=some r:=Option.bind_eq_some_iff.1 h
theorem VE {o:Oper} {y:X} {ys:List X} (hc:AF P o=some (.call y ys)):∃ c f,o.op=.call c/\c.callee=.value f/\AX f=some y/\EE c.args.toList=some ys:=by
 cases hop:o.op
 case call c=>
  cases hb:c.callee
  case value f=>
   simp only [AF,hop,hb,Option.bind_eq_bind,Option.bind_eq_some_iff,Option.pure_def,Option.some.injEq,O.call.injEq] at hc;obtain ⟨x,hx,xs,hxs,rfl,rfl⟩:=hc;exact ⟨c,f,rfl,hb,hx,hxs⟩
  all_goals
   simp only [AF,hop,hb,Option.bind_eq_bind,Option.pure_def] at hc
   repeat' split at hc
   all_goals simp [Option.bind_eq_some_iff,Option.map_eq_some_iff] at hc
 all_goals
  simp only [AF,hop,Option.bind_eq_bind,Option.pure_def] at hc
  repeat' split at hc
  all_goals (try simp [Option.bind_eq_some_iff,Option.map_eq_some_iff] at hc)
  all_goals (obtain ⟨_,_,_,_,hc⟩:=hc;repeat' split at hc)
  all_goals simp [Option.bind_eq_some_iff,Option.map_eq_some_iff] at hc
theorem YS {o:Oper} {y:X} {m:String} {ys:List X} (hc:AF P o=some (.inv y m ys)):∃ c f,o.op=.call c/\c.callee=.invoke f m/\AX f=some y/\EE c.args.toList=some ys:=by
 cases hop:o.op
 case call c=>
  cases hb:c.callee
  case invoke f m'=>
   simp only [AF,hop,hb,Option.bind_eq_bind,Option.bind_eq_some_iff,Option.pure_def,Option.some.injEq,O.inv.injEq] at hc;obtain ⟨x,hx,xs,hxs,rfl,rfl,rfl⟩:=hc;exact ⟨c,f,rfl,hb,hx,hxs⟩
  all_goals
   simp only [AF,hop,hb,Option.bind_eq_bind,Option.pure_def] at hc
   repeat' split at hc
   all_goals simp [Option.bind_eq_some_iff,Option.map_eq_some_iff] at hc
 all_goals
  simp only [AF,hop,Option.bind_eq_bind,Option.pure_def] at hc
  repeat' split at hc
  all_goals (try simp [Option.bind_eq_some_iff,Option.map_eq_some_iff] at hc)
  all_goals (obtain ⟨_,_,_,_,hc⟩:=hc;repeat' split at hc)
  all_goals simp [Option.bind_eq_some_iff,Option.map_eq_some_iff] at hc
theorem FN {C : A4} {tp : TP} (hC : DW P C) (hm : B3 P tp) {M : Mp} {B : Nat} {w : World} {h h' : AH} {e : Env} {a : Act} {v : V} {o : Oper} {r : O}
    (hE:EA M h e a) (hs:De M B w h) (hc:AF P o=some r) (hd:A3 tp C r (X.ev e) h=some (v,h'))
    {K:Act->World->Prop} {Q:Exit->Act->World->Prop} (hK:∀ x w' M',DE M B w h v h' x w' M'->K (a.put o.dst x) w'):o.wp P a w K Q:=by
 have nocall:Ag tp r (X.ev e) h=some (v,h')->o.wp P a w K Q:=by
  intro hd;obtain ⟨x,w',M',hrun,hdone⟩:=HW hE hs trivial hm hc hd;unfold Oper.wp;rcases hrun with hrun | ⟨hrun,rfl⟩
  .rw [hrun];exact hK x w' M' hdone
  .rw [hrun];exact hK undef w' M' hdone
 have enter : ∀ (f : Nat) (args : List V) (xs : Array Value), C f args h = some (v, h') -> Br M h args xs.toList ->
     ((∃ fn,P.funcs[f]?=some fn/\fn.body.isNone=false/\(fn.name == "runtime.NumGoroutine")=false)->(execOp a.eval o).run P w=.ok (.enter f xs) w)->o.wp P a w K Q:=by
  intro f args xs hcall hxs hrun;obtain ⟨hfn,hsim⟩:=hC f args h v h' hcall;unfold Oper.wp;rw [hrun hfn];exact (hsim M B w xs hs hxs).mono λe' w' ⟨x,M',he,hdone⟩=>by subst he;exact hK x w' M' hdone
 cases r<;>try exact nocall (by simpa [A3] using hd)
 case call y ys=>
  obtain ⟨c,f,hop,hcal,hf,hxs⟩:=VE hc;have hv:=Aw hE hf;have hvs:=DK hE hxs;simp only [A3,callee] at hd;split at hd
  case h_2=>simp at hd
  rename_i g first caps hp
  simp only [Option.bind_some] at hd;rw [hp] at hv;obtain ⟨a',c',hav,ha',hc'⟩:∃ a' c',a.eval f=.func (.func g) a' c'/\Br M h first a'.toList/\Br M h caps c'.toList:=by
   generalize a.eval f=q at hv
   cases hv with
   | f _ _ _ a' c' p q=>exact ⟨a',c',rfl,p,q⟩
  refine enter g _ (a'++c.args.map a.eval++c') hd (by simpa using (ha'.append hvs).append hc') (λ⟨fn,h1,h2,h3⟩=>?_);have hr:=H5 (args:=a'++c.args.map a.eval++c') h1 h2 h3 w;simp [execOp,hop,resolve,hcal,hav,Deferred.ofValue,invoke];simpa using hr
 case inv y m ys=>
  obtain ⟨c,f,hop,hcal,hf,hxs⟩:=YS hc;have hv:=Aw hE hf;have hvs:=DK hE hxs;simp only [A3,callee] at hd;split at hd
  case h_2=>simp at hd
  rename_i t u hp;rw [hp] at hv;obtain ⟨xx,hav,hxx⟩:∃ xx,a.eval f=.iface t xx/\VR M h u xx:=by
   generalize a.eval f=q at hv
   cases hv with
   | ifc _ _ xx hxx=>exact ⟨xx,rfl,hxx⟩
  obtain ⟨q0,hq0,hd⟩:=bind_some hd;obtain ⟨q,hq,hq0⟩:=bind_some hq0;obtain ⟨r,hq0',hr⟩:∃ r,q0=(q.f,r::ys.map (X.ev e))/\(match q.at_ with | none=>r=u | some j=>∃ cs,u=.agg cs/\cs[j]?=some r):=by
   cases hat:q.at_ with
   | none=>
    simp only [hat,Option.some.injEq] at hq0;exact ⟨u,hq0.symm,rfl⟩
   | some j=>
    simp only [hat] at hq0;split at hq0
    case h_2=>simp at hq0
    rename_i cs;simp only [Option.map_eq_some_iff] at hq0;obtain ⟨r,hr,hq0⟩:=hq0;exact ⟨r,hq0.symm,_,rfl,hr⟩
  subst hq0';obtain ⟨z,hz,hvz⟩:=Tm (P:=P) hm hq hxx hr w (P.types.size+Made.depth - 1);have hdep:P.types.size+Made.depth - 1+1=P.types.size+Made.depth:=by
   have:0<Made.depth:=by decide
   omega
  rw [hdep] at hz;refine enter q.f _ (#[z]++c.args.map a.eval) hd (by simpa using Br.cons _ _ _ _ hvz hvs) (λ⟨fn,h1,h2,h3⟩=>?_);have hr:=H5 (args:=#[z]++c.args.map a.eval) h1 h2 h3 w;have hex:(#[a.eval f]++c.args.map a.eval).extract 1 ((#[a.eval f]++c.args.map a.eval).size)=c.args.map a.eval:=by
   apply Array.ext';rw [Array.toList_extract,List.extract_eq_take_drop];simp only [Array.toList_append,List.singleton_append,List.drop_succ_cons,List.drop_zero];rw [List.take_of_length_le];simp
  have hget:(#[a.eval f]++c.args.map a.eval)[0]?=some (a.eval f):=by rw [Array.getElem?_append];simp
  simp only [execOp,hop,resolve,hcal,Sem.run_bind,Sem.run_pure,Result.andThen_ok,invoke,hget,hex];rw [hav];simp only [callMethod,Sem.run_bind,run_program,Result.andThen_ok,hz];rw [hr]
structure Ou (M:Mp) (B:Nat) (w:World) (h:AH) (e:Env) (a:Act) (n:Nat):Prop where
 sim:De M B w h
 env:EA M h e a
 size:a.tmps.size=n
 defers:a.defers=[]
theorem Ou.put {M M':Mp} {B:Nat} {w w':World} {h h':AH} {e:Env} {a:Act} {n:Nat} {v:V} {x:Value} {d:Option Nat} (r:Ou M B w h e a n) (hd:pX n d=true) (hdone:DE M B w h v h' x w' M'):Ou M' B w' h' (e.set d v) (a.put d x) n:=by
 refine ⟨hdone.sim,(r.env.keep hdone.goes.keeps).set (λt ht=>?_) hdone.val, ?_, ?_⟩
 .subst ht;simp [pX] at hd;rw [r.size];exact hd
 .cases d<;>simp [Act.put,r.size]
 .cases d<;>simp [Act.put,r.defers]
theorem Pa {fl:List Nat} {d:Option Nat} {g:Option (Nat×Bool)} {x:O}:(∀ (tp:TP) (ev:X->V) (h:AH),Ag tp (UT fl d g x) ev h=Ag tp x ev h)/\∀ (tp:TP) (C:A4) (ev:X->V) (h:AH),A3 tp C (UT fl d g x) ev h=A3 tp C x ev h:=by
 unfold UT;split
 .split
  .exact ⟨λ_ _ _=>rfl,λ_ _ _ _=>rfl⟩
  .exact ⟨λ_ _ _=>rfl,λ_ _ _ _=>rfl⟩
 .split
  .exact ⟨λ_ _ _=>rfl,λ_ _ _ _=>rfl⟩
  .exact ⟨λ_ _ _=>rfl,λ_ _ _ _=>rfl⟩
 .split
  .exact ⟨λ_ _ _=>rfl,λ_ _ _ _=>rfl⟩
  .exact ⟨λ_ _ _=>rfl,λ_ _ _ _=>rfl⟩
 .exact ⟨λ_ _ _=>rfl,λ_ _ _ _=>rfl⟩
theorem C3 {n:Nat} {fl:List Nat} {ops:Array Oper} {o:Oper} {t:TO} (hc:J7 P n fl ops o=some t):(∃ r,AF P o=some r/\(∀ (tp:TP) (ev:X->V) (h:AH),Ag tp t.o ev h=Ag tp r ev h)/\∀ (tp:TP) (C:A4) (ev:X->V) (h:AH),A3 tp C t.o ev h=A3 tp C r ev h)/\Ub ops o.guard=some t.g/\t.d=o.dst/\pX n o.dst=true/\(∀ s x,t.g=some (s,x)->s<n):=by
 unfold J7 at hc;simp only [Option.bind_eq_bind,Option.bind_eq_some_iff,Option.pure_def,Option.some.injEq] at hc;obtain ⟨x,hx,g,hg,u,hu,rfl⟩:=hc;have hu:=BQ hu;simp only [Bool.and_eq_true] at hu;refine ⟨⟨x,hx,Pa.1,Pa.2⟩,hg,rfl,hu.1,λs x hs=>?_⟩;simp only at hs;subst hs;simpa using hu.2
theorem Dx {M : Mp} {h : AH} {n : Nat} {fl : List Nat} {ops : Array Oper} {o : Oper} {t : TO} {e : Env} {a : Act} (hc : J7 P n fl ops o = some t) (hE : ∀ s x, t.g = some (s, x) -> VR M h (e s) (a.tmps.getD s undef)) (hn : a.tmps.size = n) {b : Bool} (hw : AK e t.g = some b) :
    Region.wanted o (yielded ops a.tmps)=b:=by
 obtain ⟨_,hg,_,_,hlt⟩:=C3 hc
 cases hgo:o.guard with
 | none=>
  rw [hgo] at hg;simp only [Ub,Option.some.injEq] at hg;rw [<- hg] at hw;simp only [AK,Option.some.injEq] at hw;simp [Region.wanted,hgo,hw]
 | some p=>
  obtain ⟨j,x⟩:=p;rw [hgo] at hg;simp only [Ub,Option.map_eq_some_iff] at hg;obtain ⟨s,hs,hg⟩:=hg;rw [<- hg] at hw;have hE':=hE s x hg.symm;have hlt':=hlt s x hg.symm;simp only [AK] at hw;simp only [Region.wanted,hgo,yielded,hs,Option.bind_some];have hget:a.tmps[s]?=some (a.tmps.getD s undef):=by
   rw [Array.getD_eq_getD_getElem?,Array.getElem?_eq_getElem om];rfl
  rw [hget];split at hw
  .rename_i y hy;rw [hy] at hE';simp only [Option.some.injEq] at hw;cases hv:a.tmps.getD s undef<;>rw [hv] at hE'<;>cases hE';simp [<- hw]
  .rename_i hy;rw [hy] at hE';simp only [Option.some.injEq] at hw;subst hw;cases hv:a.tmps.getD s undef<;>rw [hv] at hE'<;>try (cases hE';done)
   simp
  .simp at hw
theorem IQ {C:A4} {tp:TP} (hC:DW P C) (hm:B3 P tp) {n:Nat} {fl:List Nat} {ops:Array Oper} {B:Nat} {Q:Exit->Act->World->Prop}:∀ (l:List Oper) (ts:List TO) (i:Nat) (M:Mp) (w:World) (h h':AH) (e e':Env) (a:Act),
    (∀ j,l[j]?=ops[i+j]?)->EC P n fl ops l=some ts->Cg tp C ts e h=some (e',h')->Ou M B w h e a n ->
    (∀ M' a' w',Ou M' B w' h' e' a' n->Goes M M' h h'->Below B w w'->Q .normal a' w')->wpOps P ops Q (List.range' i l.length) a w
 | [],ts,i,M,w,h,h',e,e',a,_,hc,he,hr,hQ=>by
  simp [EC] at hc;subst hc;simp [Cg] at he;obtain ⟨rfl,rfl⟩:=he;simpa [wpOps] using hQ M a w hr (Goes.refl M h) (Below.refl B w)
 | o::l,ts,i,M,w,h,h',e,e',a,hl,hc,he,hr,hQ=>by
  simp only [EC,Option.bind_eq_some_iff,Option.map_eq_some_iff] at hc;obtain ⟨t,ht,ts',hts,rfl⟩:=hc;obtain ⟨⟨ro,hco,_,hrun⟩,hg,hd,hdk,hlt⟩:=C3 ht;have hi:ops[i]?=some o:=by simpa using (hl 0).symm
  have hl':∀ j,l[j]?=ops[i+1+j]?:=λj=>by have:=hl (j+1);simpa [Nat.add_assoc,Nat.add_comm 1 j] using this
  simp only [List.length_cons,List.range'_succ,wpOps,hi];simp only [Cg] at he
  cases hw:AK e t.g with
  | none=>simp [hw] at he
  | some b=>
   have hwant:=Dx (P:=P) ht (λs x hs=>hr.env s) hr.size hw;rw [hwant];simp only [hw] at he
   cases b with
   | true=>
    simp only [if_true];obtain ⟨q,hq,he⟩:=bind_some he;left;refine FN hC hm hr.env hr.sim hco ((hrun _ _ _ _).symm.trans hq) (λx w' M' hdone=>?_);have hr':=hr.put hdk hdone;rw [<- hd] at hr' ⊢;exact IQ hC hm l ts' (i+1) M' w' q.2 h' _ e' _ hl' hts he hr' (λM'' a'' w'' r'' g'' b''=>hQ M'' a'' w'' r'' (hdone.goes.trans g'') (hdone.below.trans b''))
   | false=>
    simp only [Bool.false_eq_true,if_false];have hr':=hr.put hdk (DE.same (v:=.tup []) (x:=undef) hr.sim trivial (.tup _ _ .nil));rw [<- hd] at hr' ⊢;exact IQ hC hm l ts' (i+1) M w h h' _ e' _ hl' hts he hr' hQ
end
end Go.Ab
/- Regions that draw their order. -/
namespace Go.Ab
open Go Go.RowKit
/-! ### What an operation looks at -/
def Agree (e1 e2:Env) (l:List Nat):Prop:=∀ s∈l,e1 s=e2 s
theorem Agree.left {e1 e2:Env} {a b:List Nat} (h:Agree e1 e2 (a++b)):Agree e1 e2 a:=λs hs=>h s (List.mem_append.2 (.inl hs))
theorem Agree.right {e1 e2:Env} {a b:List Nat} (h:Agree e1 e2 (a++b)):Agree e1 e2 b:=λs hs=>h s (List.mem_append.2 (.inr hs))
theorem Agree.x {e1 e2:Env} {x:X} (h:Agree e1 e2 (xT x)):X.ev e1 x=X.ev e2 x:=by
 cases x with
 | t n=>exact h n (by simp [xT])
 | c v=>rfl
 | fn f=>rfl
theorem Agree.xs {e1 e2:Env} {l:List X} (h:Agree e1 e2 (iQ l)):l.map (X.ev e1)=l.map (X.ev e2):=
 List.map_congr_left λx hx=>Agree.x λs hs=>h s (List.mem_flatMap.2 ⟨x,hx,hs⟩)
theorem Agree.xo {e1 e2:Env} {o:Option X} (h:Agree e1 e2 (xoT o)):o.map (X.ev e1)=o.map (X.ev e2):=by
 cases o with
 | none=>rfl
 | some x=>exact congrArg some (Agree.x h)
theorem Agree.ps {e1 e2:Env} {l:List (Nat×Nat×X)} (h:Agree e1 e2 (iQ (l.map λq=>q.2.2))):(l.map λq=>(q.1,q.2.1,X.ev e1 q.2.2))=l.map λq=>(q.1,q.2.1,X.ev e2 q.2.2):=
 List.map_congr_left λq hq=>by rw [Agree.x λs hs=>h s (List.mem_flatMap.2 ⟨q.2.2,List.mem_map.2 ⟨q,hq,rfl⟩,hs⟩)]
theorem Agree.es {e1 e2:Env} {l:List (Nat×X)} (h:Agree e1 e2 (iQ (l.map λq=>q.2))):(l.map λq=>(q.1,X.ev e1 q.2))=l.map λq=>(q.1,X.ev e2 q.2):=
 List.map_congr_left λq hq=>by rw [Agree.x λs hs=>h s (List.mem_flatMap.2 ⟨q.2,List.mem_map.2 ⟨q,hq,rfl⟩,hs⟩)]
theorem Hm {tp:TP} {C:A4} (o:O) {e1 e2:Env} (h:Agree e1 e2 o.slots) (H:AH):A3 tp C o (X.ev e1) H=A3 tp C o (X.ev e2) H:=by
 cases o<;>simp only [O.slots] at h
 case mv x=>simp only [A3,Ag,h.x]
 case pick c a b=>simp only [A3,Ag,h.left.left.x,h.left.right.x,h.right.x]
 case alloc z=>rfl
 case e0=>rfl
 case box x=>simp only [A3,Ag,h.x]
 case build z ps=>simp only [A3,Ag,h.ps]
 case bsl s z n ps=>simp only [A3,Ag,h.es]
 case load n g x=>simp only [A3,Ag,h.x]
 case store n a x=>simp only [A3,Ag,h.left.x,h.right.x]
 case fload n g x=>simp only [A3,Ag,h.x]
 case chk n g a x=>simp only [A3,Ag,h.left.x,h.right.x]
 case alc z=>rfl
 case chka z y=>simp only [A3,Ag,h.x]
 case bslc s z n ps=>simp only [A3,Ag,h.es]
 case chkb s z n ps y=>simp only [A3,Ag,h.left.es,h.right.x]
 case nck x=>simp only [A3,Ag,h.x]
 case bin op x y=>simp only [A3,Ag,h.left.x,h.right.x]
 case eq neg k x y=>simp only [A3,Ag,h.left.x,h.right.x]
 case un op x=>simp only [A3,Ag,h.x]
 case conv k x=>simp only [A3,Ag,h.x]
 case strs x=>simp only [A3,Ag,h.x]
 case mark x=>simp only [A3,Ag,h.x]
 case s2b x=>simp only [A3,Ag,h.x]
 case b2s x=>simp only [A3,Ag,h.x]
 case i2s x=>simp only [A3,Ag,h.x]
 case mkif t x=>simp only [A3,Ag,h.x]
 case mkfn fn l m=>simp only [A3,Ag,h.left.xs,h.right.xs]
 case mksl z n c=>simp only [A3,Ag,h.left.x,h.right.x]
 case appz z n c=>simp only [A3,Ag,h.left.x,h.right.x]
 case slice s x lo hi top=>simp only [A3,Ag,h.left.left.left.x,h.left.left.right.xo,h.left.right.xo,h.right.xo]
 case sslice x lo hi=>simp only [A3,Ag,h.left.left.x,h.left.right.xo,h.right.xo]
 case fad f x=>simp only [A3,Ag,h.x]
 case fld f n g x=>simp only [A3,Ag,h.x]
 case iad s x i=>simp only [A3,Ag,h.left.x,h.right.x]
 case iada s n x i=>simp only [A3,Ag,h.left.x,h.right.x]
 case idx s n g x i=>simp only [A3,Ag,h.left.x,h.right.x]
 case sidx x i=>simp only [A3,Ag,h.left.x,h.right.x]
 case ext x i=>simp only [A3,Ag,h.x]
 case app s x y=>simp only [A3,Ag,h.left.x,h.right.x]
 case len x=>simp only [A3,Ag,h.x]
 case slen x=>simp only [A3,Ag,h.x]
 case lenc n=>rfl
 case cap x=>simp only [A3,Ag,h.x]
 case mn l=>
  have:=h.xs
  cases l with
  | nil=>rfl
  | cons x r=>
   simp only [List.map_cons,List.cons.injEq] at this;simp only [A3,Ag,this.1,this.2]
 case mx l=>
  have:=h.xs
  cases l with
  | nil=>rfl
  | cons x r=>
   simp only [List.map_cons,List.cons.injEq] at this;simp only [A3,Ag,this.1,this.2]
 case call f l=>simp only [A3,callee,h.left.x,h.right.xs]
 case inv x m l=>simp only [A3,callee,h.left.x,h.right.xs]
 case tas t ok z x=>simp only [A3,Ag,h.x]
section
variable {P:Program}
theorem W0 {o:Oper} {a:Act} {w:World} {K:Act->World->Prop} (h:o.wp P a w K (λ_ _ _=>False)):∃ a' w',K a' w':=by
 unfold Oper.wp at h;generalize (execOp a.eval o).run P w=r at h
 cases r with
 | ok n w'=>
  cases n<;>simp only [Oper.upon] at h<;>try (exact ⟨_,_,h⟩)
  case enter f args=>
   obtain ⟨e,w'',fr,hR,_⟩:=h []
   cases e with
   | returned v=>exact ⟨_,_,hR⟩
   | panicked c=>exact hR.elim
   | outgrown=>obtain ⟨_,_,hh⟩:=hR;exact hh.elim
  case row row args=>
   obtain ⟨v,w'',hR,_⟩:=h default [];exact ⟨_,_,hR⟩
 | halt x w'=>cases x<;>simp only [Oper.upon] at h
theorem PF {C : A4} {tp : TP} (hC : DW P C) (hm : B3 P tp) {M : Mp} {B : Nat} {w : World} {h h' : AH} {e : Env} {a : Act} {v : V} {o : Oper} {r : O}
    (hE:EA M h e a) (hs:De M B w h) (hc:AF P o=some r) (hd:A3 tp C r (X.ev e) h=some (v,h')):∃ x w' M',DE M B w h v h' x w' M':=by
 obtain ⟨a',w',h1⟩:=W0 (FN (K:=λa' w'=>∃ x M',DE M B w h v h' x w' M') hC hm hE hs hc hd (λx w' M' hd=>⟨x,M',hd⟩));obtain ⟨x,M',h2⟩:=h1;exact ⟨x,w',M',h2⟩
theorem BD.raise (M:Mp) (h:AH):BD M M h h.raise:=⟨Nat.le_refl _,λ_ _ r=>r,λ_ _ _=>rfl⟩
theorem BD.back (M:Mp) (h:AH) (l:Nat):BD M M h (h.back l):=⟨Nat.le_refl _,λ_ _ r=>r,λ_ _ _=>rfl⟩
theorem De.raise {M:Mp} {B:Nat} {w:World} {h:AH} (hs:De M B w h):De M w.heap.size w h.raise:=by
 refine ⟨λid k m hg hm=>?_,hs.own,λid m hl hm hlim=>?_,hs.apart,hs.fresh,Nat.le_refl _,Nat.le_refl _⟩
 .obtain ⟨h1,h2⟩:=hs.cells id k m hg hm;exact ⟨h1,h2.keep (BD.raise M h) rfl⟩
 .have:=hs.fresh id hl;simp only [AH.raise] at hlim;omega
theorem EA.raise {M:Mp} {h:AH} {e:Env} {a:Act} (hE:EA M h e a):EA M h.raise e a:=λt=>(hE t).keep (BD.raise M h)
theorem DE.back {M M':Mp} {B:Nat} {w w':World} {h q:AH} {v:V} {x:Value} (hs:De M B w h) (hd:DE M w.heap.size w h.raise v q x w' M'):DE M B w h v (q.back h.lim) x w' M':=by
 have kb:=BD.back M' q h.lim;have hbw:Below B w w':=hd.below.mono hs.size;refine ⟨hd.val.keep kb,⟨λid k m hg hm=>?_,hd.sim.own,λid m hl hm hlim=>?_,hd.sim.apart,hd.sim.fresh, ?_, ?_⟩,trivial,⟨⟨hd.goes.keeps.next,hd.goes.keeps.live,hd.goes.keeps.map⟩,rfl,λid hi=>?_⟩,hbw⟩
 .obtain ⟨h1,h2⟩:=hd.sim.cells id k m hg hm;exact ⟨h1,h2.keep kb rfl⟩
 .by_cases hi:id<h.next
  .have hl':q.live id:=hl;have hm':=hd.goes.keeps.map id hi hl';rw [hm'] at hm;exact hs.from_ id m (hd.goes.keeps.live id hi hl') hm hlim
  .have hql:q.lim=h.next:=hd.goes.lim;have:=hd.sim.from_ id m hl hm (by rw [hql];omega);exact ⟨this.1,Nat.le_trans hs.size this.2⟩
 .have h1:=hd.goes.keeps.next;have h2:=hs.lim;simp only [AH.back,AH.raise] at *;omega
 .exact Nat.le_trans hs.size hbw.size
 .have:=hs.lim;exact hd.goes.low id (show id<h.next by omega)
theorem DE.low {M M':Mp} {w w':World} {h q:AH} {v:V} {x:Value} {B:Nat} (hd:DE M B w h.raise v q x w' M'):h.next<=q.next/\∀ id,id<h.next->q.get id=h.get id:=
 ⟨hd.goes.keeps.next,λid hi=>hd.goes.low id hi⟩
/-! ### Values whose places lie below a number -/
mutual
inductive VB (N:Nat):V->Prop where
 | u:VB N .u
 | b (x:Bool):VB N (.b x)
 | i (k:IntKind) (n:Int):VB N (.i k n)
 | s (x:ByteArray):VB N (.s x)
 | np:VB N .np
 | p (id el off:Nat):id<N->VB N (.p id el off)
 | ns:VB N .ns
 | e0:VB N .e0
 | sl (id el len cap:Nat):id<N->VB N (.sl id el len cap)
 | nf:VB N .nf
 | f (fn:Fn) (a c:List V):Ov N a->Ov N c->VB N (.f fn a c)
 | ni:VB N .ni
 | ifc (t:Nat) (v:V):VB N v->VB N (.ifc t v)
 | agg (l:List V):Ov N l->VB N (.agg l)
 | tup (l:List V):Ov N l->VB N (.tup l)
inductive Ov (N:Nat):List V->Prop where
 | nil:Ov N []
 | cons (v:V) (l:List V):VB N v->Ov N l->Ov N (v::l)
end
mutual
theorem VB.mono {N N':Nat} (hN:N<=N'):∀ {v:V},VB N v->VB N' v
 | _,.u=>.u
 | _,.b x=>.b x
 | _,.i k n=>.i k n
 | _,.s x=>.s x
 | _,.np=>.np
 | _,.p id el off h=>.p id el off (Nat.lt_of_lt_of_le h hN)
 | _,.ns=>.ns
 | _,.e0=>.e0
 | _,.sl id el len cap h=>.sl id el len cap (Nat.lt_of_lt_of_le h hN)
 | _,.nf=>.nf
 | _,.f fn a c p q=>.f fn a c (Ov.mono hN p) (Ov.mono hN q)
 | _,.ni=>.ni
 | _,.ifc t v p=>.ifc t v (VB.mono hN p)
 | _,.agg l p=>.agg l (Ov.mono hN p)
 | _,.tup l p=>.tup l (Ov.mono hN p)
theorem Ov.mono {N N':Nat} (hN:N<=N'):∀ {l:List V},Ov N l->Ov N' l
 | _,.nil=>.nil
 | _,.cons v l p q=>.cons v l (VB.mono hN p) (Ov.mono hN q)
end
mutual
theorem VR.vb {M:Mp} {h:AH}:∀ {v:V} {x:Value},VR M h v x->VB h.next v
 | _,_,.u x=>.u
 | _,_,.b x=>.b x
 | _,_,.i k n=>.i k n
 | _,_,.s x=>.s x
 | _,_,.np=>.np
 | _,_,.p id el off a hi _=>.p id el off hi
 | _,_,.ns=>.ns
 | _,_,.e0 a=>.e0
 | _,_,.sl id el len cap a rc hi _ _=>.sl id el len cap hi
 | _,_,.nf=>.nf
 | _,_,.f fn a c _ _ p q=>.f fn a c (Br.vb p) (Br.vb q)
 | _,_,.ni=>.ni
 | _,_,.ifc t v _ p=>.ifc t v (VR.vb p)
 | _,_,.agg l _ p=>.agg l (Br.vb p)
 | _,_,.tup l _ p=>.tup l (Br.vb p)
theorem Br.vb {M:Mp} {h:AH}:∀ {l:List V} {l':List Value},Br M h l l'->Ov h.next l
 | _,_,.nil=>.nil
 | _,_,.cons v _ l _ p q=>.cons v l (VR.vb p) (Br.vb q)
end
mutual
theorem VR.move {M M':Mp} {h h2:AH} {N:Nat} (hN:N<=h2.next) (hc:∀ id,id<N->h2.live id->h.live id/\M' id=M id):∀ {v:V} {x:Value},VR M h v x->VB N v->VR M' h2 v x
 | _,_,.u x,_=>.u x
 | _,_,.b x,_=>.b x
 | _,_,.i k n,_=>.i k n
 | _,_,.s x,_=>.s x
 | _,_,.np,_=>.np
 | _,_,.p id el off a hi hm,.p _ _ _ hb=>.p id el off a (Nat.lt_of_lt_of_le hb hN) (λhl=>by rw [(hc id hb hl).2];exact hm (hc id hb hl).1)
 | _,_,.ns,_=>.ns
 | _,_,.e0 a,_=>.e0 a
 | _,_,.sl id el len cap a rc hi hlr hm,.sl _ _ _ _ hb=>.sl id el len cap a rc (Nat.lt_of_lt_of_le hb hN) hlr (λhl=>by rw [(hc id hb hl).2];exact hm (hc id hb hl).1)
 | _,_,.nf,_=>.nf
 | _,_,.f fn a c a' c' p q,.f _ _ _ p2 q2=>.f fn a c a' c' (Br.move hN hc p p2) (Br.move hN hc q q2)
 | _,_,.ni,_=>.ni
 | _,_,.ifc t v x p,.ifc _ _ p2=>.ifc t v x (VR.move hN hc p p2)
 | _,_,.agg l l' p,.agg _ p2=>.agg l l' (Br.move hN hc p p2)
 | _,_,.tup l l' p,.tup _ p2=>.tup l l' (Br.move hN hc p p2)
theorem Br.move {M M':Mp} {h h2:AH} {N:Nat} (hN:N<=h2.next) (hc:∀ id,id<N->h2.live id->h.live id/\M' id=M id):∀ {l:List V} {l':List Value},Br M h l l'->Ov N l->Br M' h2 l l'
 | _,_,.nil,_=>.nil
 | _,_,.cons v x l l' p q,.cons _ _ p2 q2=>.cons v x l l' (VR.move hN hc p p2) (Br.move hN hc q q2)
end
mutual
theorem VR.remap {M M':Mp} {h:AH} (hc:∀ id m,h.live id->M id=some m->M' id=some m):∀ {v:V} {x:Value},VR M h v x->VR M' h v x
 | _,_,.u x=>.u x
 | _,_,.b x=>.b x
 | _,_,.i k n=>.i k n
 | _,_,.s x=>.s x
 | _,_,.np=>.np
 | _,_,.p id el off a hi hm=>.p id el off a hi (λhl=>by
     obtain ⟨m,h1,h2⟩:=hm hl;exact ⟨m,hc id m hl h1,h2⟩)
 | _,_,.ns=>.ns
 | _,_,.e0 a=>.e0 a
 | _,_,.sl id el len cap a rc hi hlr hm=>.sl id el len cap a rc hi hlr (λhl=>by
     obtain ⟨m,h1,h2⟩:=hm hl;exact ⟨m,hc id m hl h1,h2⟩)
 | _,_,.nf=>.nf
 | _,_,.f fn a c a' c' p q=>.f fn a c a' c' (Br.remap hc p) (Br.remap hc q)
 | _,_,.ni=>.ni
 | _,_,.ifc t v x p=>.ifc t v x (VR.remap hc p)
 | _,_,.agg l l' p=>.agg l l' (Br.remap hc p)
 | _,_,.tup l l' p=>.tup l l' (Br.remap hc p)
theorem Br.remap {M M':Mp} {h:AH} (hc:∀ id m,h.live id->M id=some m->M' id=some m):∀ {l:List V} {l':List Value},Br M h l l'->Br M' h l l'
 | _,_,.nil=>.nil
 | _,_,.cons v x l l' p q=>.cons v x l l' (VR.remap hc p) (Br.remap hc q)
end
/-! ### The closure of the edges -/
theorem SY (o:Oper) (acc:List Nat) (j:Nat) (h:(IJ o acc).testBit j=true):∃ e∈o.after.toList,Region.binds .any e=true/\(e.on=j\/(acc.getD e.on 0).testBit j=true):=by
 unfold IJ at h;have key:∀ (l:List Edge) (s:Nat),(l.foldl (λs e=>if Region.binds .any e then s ||| 2 ^ e.on ||| acc.getD e.on 0 else s) s).testBit j=true->s.testBit j=true\/∃ e∈l,Region.binds .any e=true/\(e.on=j\/(acc.getD e.on 0).testBit j=true):=by
  intro l
  induction l with
  | nil=>intro s h;exact .inl h
  | cons e l ih=>
   intro s h;simp only [List.foldl_cons] at h;rcases ih _ h with h1 | ⟨e',he',h2⟩
   .split at h1
    .rename_i hb;simp only [Nat.testBit_or,Bool.or_eq_true] at h1;rcases h1 with (h1 | h1) | h1
     .exact .inl h1
     .rw [Nat.testBit_two_pow] at h1;exact .inr ⟨e,by simp,hb,.inl (by simpa using h1)⟩
     .exact .inr ⟨e,by simp,hb,.inr h1⟩
    .exact .inl h1
   .exact .inr ⟨e',by simp [he'],h2⟩
 rcases key _ _ h with h1 | h1
 .simp at h1
 .exact h1
theorem Ix:∀ (l:List Oper) (acc:List Nat) (i:Nat),(i<acc.length->(HF l acc)[i]?=acc[i]?)/\(HF l acc).length=acc.length+l.length /\
    (∀ o,acc.length<=i->l[i - acc.length]?=some o->∃ pre,pre.length=i/\(∀ k,k<i->pre[k]?=(HF l acc)[k]?)/\(HF l acc)[i]?=some (IJ o pre))
 | [],acc,i=>⟨λ_=>rfl,by simp [HF],λo _ h=>by simp at h⟩
 | o::l,acc,i=>by
  obtain ⟨h1,h2,h3⟩:=Ix l (acc++[IJ o acc]) i;simp only [HF,List.length_append,List.length_cons,List.length_nil] at *;refine ⟨λhi=>?_,om,λo' hi ho=>?_⟩
  .rw [h1 om,List.getElem?_append,if_pos hi]
  .by_cases he:i=acc.length
   .subst he;simp at ho;subst ho;refine ⟨acc,rfl,λk hk=>?_, ?_⟩
    .rw [(Ix l (acc++[IJ o acc]) k).1 (by simp;omega),List.getElem?_append,if_pos hk]
    .rw [h1 om];simp
   .obtain ⟨d,hd⟩:∃ d,i - acc.length=d+1:=⟨i - acc.length - 1,om⟩
    rw [hd] at ho;simp only [List.getElem?_cons_succ] at ho;exact h3 o' om (by rw [show i - (acc.length+1)=d by omega];exact ho)
def Closed (ops:Array Oper) (S:Nat->Prop):Prop:=∀ i o,ops[i]?=some o->S i->∀ e∈o.after.toList,Region.binds .any e=true->S e.on
theorem Gu {ops:Array Oper} {S:Nat->Prop} (hS:Closed ops S):∀ (i j:Nat) (o:Oper),ops[i]?=some o->(∀ e∈o.after.toList,Region.binds .any e=true->S e.on)->((E9 ops.toList).getD i 0).testBit j=true->S j:=by
 intro i
 induction i using Nat.strongRecOn with
 | _ i ih=>
  intro j o ho hdir hbit;obtain ⟨_,hlen,h3⟩:=Ix ops.toList [] i;obtain ⟨pre,hpl,hpre,hmask⟩:=h3 o (Nat.zero_le _) (by simpa using ho);have hcl:E9 ops.toList=HF ops.toList []:=rfl;rw [List.getD_eq_getElem?_getD,hcl,hmask] at hbit;simp only [Option.getD_some] at hbit;obtain ⟨e,he,hb,h4⟩:=SY o pre j hbit;have hSe:=hdir e he hb;rcases h4 with h4 | h4
  .rw [<- h4];exact hSe
  .by_cases hlt:e.on<i
   .have hlen2:e.on<ops.size:=by
     have:=(Array.getElem?_eq_some_iff.1 ho).1;omega
    have hoe:ops[e.on]?=some ops[e.on]:=by simp [hlen2]
    refine ih e.on hlt j _ hoe (λe' he' hb'=>hS e.on _ hoe hSe e' he' hb') ?_;rw [List.getD_eq_getElem?_getD,hcl,<-hpre e.on hlt,<-List.getD_eq_getElem?_getD];exact h4
   .rw [List.getD_eq_getElem?_getD,List.getElem?_eq_none om] at h4;simp at h4
end
end Go.Ab
/- A region that draws its order: the run in the order of the text, and what is known of it. -/
namespace Go.Ab
open Go Go.RowKit
section
variable {P:Program}
def Bt:List (Bool×List TO)->Nat->Bool
 | [],_=>false
 | (q,l)::r,i=>if i<l.length then !q else Bt r (i - l.length)
def aAo (E:Nat->Env) (H:Nat->AH) (V':Nat->V) (j:Nat) (t:TO):Prop:=AK (E j) t.g=some false/\V' j=.tup []/\H (j+1)=H j
def aAm (tp:TP) (E:Nat->Env) (H:Nat->AH) (V':Nat->V) (j:Nat) (t:TO):Prop:=AK (E j) t.g=some true/\AS t.o=true/\Ja t.o (X.ev (E j)) (H j)=true/\Ag tp t.o (X.ev (E j)) (H j)=some (V' j,H j)/\H (j+1)=H j
def aAn (tp:TP) (C:A4) (lim:Nat) (E:Nat->Env) (H:Nat->AH) (V':Nat->V) (j:Nat) (t:TO):Prop:=AK (E j) t.g=some true/\AS t.o=false/\∃ q,A3 tp C t.o (X.ev (E j)) (H j).raise=some (V' j,q)/\H (j+1)=q.back lim
def StepB (tp:TP) (C:A4) (E:Nat->Env) (H:Nat->AH) (V':Nat->V) (j:Nat) (t:TO):Prop:=AK (E j) t.g=some true/\A3 tp C t.o (X.ev (E j)) (H j)=some (V' j,H (j+1))
structure Trace (tp:TP) (C:A4) (ts:List TO) (bar:Nat->Bool) (lim:Nat) (E:Nat->Env) (H:Nat->AH) (V':Nat->V):Prop where
 step:∀ (j:Nat) (t:TO),ts[j]?=some t->(aAo E H V' j t\/if bar j then StepB tp C E H V' j t else aAm tp E H V' j t\/aAn tp C lim E H V' j t)
 env:∀ (j:Nat) (t:TO),ts[j]?=some t->E (j+1)=(E j).set t.d (V' j)
theorem Trace.cons {tp : TP} {C : A4} {ts : List TO} {bar : Nat -> Bool} {lim : Nat} {E : Nat -> Env} {H : Nat -> AH} {V' : Nat -> V} {e : Env} {h : AH} {v : V} {t : TO} {b : Bool} (tr : Trace tp C ts bar lim E H V') (he : E 0 = e.set t.d v)
    (hs:aAo (λ| 0=>e | j+1=>E j) (λ| 0=>h | j+1=>H j) (λ| 0=>v | j+1=>V' j) 0 t\/if b then StepB tp C (λ| 0=>e | j+1=>E j) (λ| 0=>h | j+1=>H j) (λ| 0=>v | j+1=>V' j) 0 t else
     aAm tp (λ| 0=>e | j+1=>E j) (λ| 0=>h | j+1=>H j) (λ| 0=>v | j+1=>V' j) 0 t\/aAn tp C lim (λ| 0=>e | j+1=>E j) (λ| 0=>h | j+1=>H j) (λ| 0=>v | j+1=>V' j) 0 t):
    Trace tp C (t::ts) (λ| 0=>b | j+1=>bar j) lim (λ| 0=>e | j+1=>E j) (λ| 0=>h | j+1=>H j) (λ| 0=>v | j+1=>V' j):=by
 refine ⟨λj t' ht=>?_,λj t' ht=>?_⟩
 .cases j with
  | zero=>
   simp only [List.getElem?_cons_zero,Option.some.injEq] at ht;subst ht;exact hs
  | succ j=>exact tr.step j t' (by simpa using ht)
 .cases j with
  | zero=>
   simp only [List.getElem?_cons_zero,Option.some.injEq] at ht;subst ht;exact he
  | succ j=>exact tr.env j t' (by simpa using ht)
theorem Jl {tp : TP} {C : A4} (hS : CZ C) (lim : Nat) (rest : List TO) (bar : Nat -> Bool) (e' : Env) (h' : AH) (R : (Nat -> Env) -> (Nat -> AH) -> Prop) : ∀ (l : List TO) (e e1 : Env) (h h1 : AH), h.lim = lim -> Bf tp C l e h = some (e1, h1) ->
    (∃ E H V',Trace tp C rest bar lim E H V'/\E 0=e1/\H 0=h1/\E rest.length=e'/\H rest.length=h'/\R E H) ->
    ∃ E H V',Trace tp C (l++rest) (λi=>if i<l.length then false else bar (i - l.length)) lim E H V'/\E 0=e/\H 0=h/\E (l++rest).length=e'/\H (l++rest).length=h'/\R (λi=>E (i+l.length)) (λi=>H (i+l.length))
 | [],e,e1,h,h1,_,he,hr=>by
  simp [Bf] at he;obtain ⟨rfl,rfl⟩:=he;obtain ⟨E,H,V',tr,a,b,c,d,f⟩:=hr;exact ⟨E,H,V',by simpa using tr,a,b,c,d,f⟩
 | t::l,e,e1,h,h1,hl,he,hr=>by
  have fin : ∀ (e2 : Env) (h2 : AH) (v : V), h2.lim = lim -> Bf tp C l e2 h2 = some (e1, h1) -> e2 = e.set t.d v ->
      ((AK e t.g=some false/\v=.tup []/\h2=h)\/(AK e t.g=some true/\AS t.o=true/\Ja t.o (X.ev e) h=true/\Ag tp t.o (X.ev e) h=some (v,h)/\h2=h)\/(AK e t.g=some true/\AS t.o=false/\∃ q,A3 tp C t.o (X.ev e) h.raise=some (v,q)/\h2=q.back lim)) ->
      ∃ E H V',Trace tp C (t::l++rest) (λi=>if i<(t::l).length then false else bar (i - (t::l).length)) lim E H V'/\E 0=e/\H 0=h/\E (t::l++rest).length=e'/\H (t::l++rest).length=h'/\R (λi=>E (i+(t::l).length)) (λi=>H (i+(t::l).length)):=by
   intro e2 h2 v hl2 hq he2 hc;obtain ⟨E,H,V',tr,a,b,c,d,f⟩:=Jl hS lim rest bar e' h' R l e2 e1 h2 h1 hl2 hq hr;have hb:(λi=>if i<(t::l).length then false else bar (i - (t::l).length))=(λ| 0=>false | j+1=>if j<l.length then false else bar (j - l.length):Nat->Bool):=by
    funext i
    cases i with
    | zero=>simp
    | succ i=>simp [Nat.add_sub_add_right]
   rw [hb];refine ⟨_,_,_,Trace.cons (e:=e) (h:=h) (v:=v) (b:=false) tr (a.trans he2) ?_,rfl,rfl,c,d,f⟩;rcases hc with ⟨c1,c2,c3⟩ | ⟨c1,c2,c3,c4,c5⟩ | ⟨c1,c2,q,c3,c4⟩
   .exact .inl ⟨c1,c2,b.trans c3⟩
   .right;simp only [Bool.false_eq_true,if_false];exact .inl ⟨c1,c2,c3,c4,b.trans c5⟩
   .right;simp only [Bool.false_eq_true,if_false];exact .inr ⟨c1,c2,q,c3,b.trans c4⟩
  simp only [Bf] at he
  cases hw:AK e t.g with
  | none=>simp [hw] at he
  | some b=>
   simp only [hw] at he
   cases b with
   | true=>
    simp only at he
    by_cases hp:AS t.o=true
    .simp only [hp,if_true] at he;split at he
     case isFalse=>simp at he
     rename_i hal;obtain ⟨q,hq,he2⟩:=bind_some he;clear he;obtain ⟨v,hh⟩:=q;have:=GH hp hq;subst this;exact fin _ _ v hl he2 rfl (.inr (.inl ⟨hw,hp,hal,hq,rfl⟩))
    .have hp':AS t.o=false:=by simpa using hp
     simp only [hp',Bool.false_eq_true,if_false] at he;obtain ⟨q,hq,he⟩:=bind_some he;exact fin _ _ q.1 (by simp [AH.back,hl]) he rfl (.inr (.inr ⟨hw,hp',q.2,hq,by rw [hl]⟩))
   | false=>exact fin _ _ (.tup []) hl he rfl (.inl ⟨hw,rfl,rfl⟩)
def HA (e:Env) (h:AH) (t:TO):Prop:=(∀ (tp:TP) d n g x,t.d=some d->t.o=.fload n g x->AK e t.g=some true->Ag tp t.o (X.ev e) h=some (e d,h)) /\
 (∀ d sz z n ps,t.d=some d->t.o=.bslc sz z n ps->∃ id r,e d=.sl id 0 n n/\Cw sz (List.replicate n z) (ps.map λq=>(q.1,X.ev e q.2))=some r/\h.get id=some ⟨sz,r⟩) /\
 ∀ d z,t.d=some d->t.o=.alc z->∃ id,e d=.p id 0 0/\h.get id=some ⟨z.length,[z]⟩
theorem FA {tp:TP} {C:A4}:∀ (acc:List (Nat×TO)) (e:Env) (h:AH) (z:Env×AH),Cg tp C (acc.filterMap λq=>J5 q.2) e h=some z->z=(e,h)/\∀ t∈acc,HA e h t.2
 | [],e,h,z,hz=>by simp [Cg] at hz;exact ⟨hz.symm,λt ht=>by simp at ht⟩
 | t::acc,e,h,z,hz=>by
  rw [List.filterMap_cons] at hz
  cases hc:J5 t.2 with
  | none=>
   rw [hc] at hz;obtain ⟨h1,h2⟩:=FA acc e h z hz;refine ⟨h1,λu hu=>?_⟩;rcases List.mem_cons.1 hu with rfl | hu
   .exact ⟨λ_ d n g x hd ho=>by simp [J5,hd,ho] at hc,λd sz z n ps hd ho=>by simp [J5,hd,ho] at hc,λd z hd ho=>by simp [J5,hd,ho] at hc⟩
   .exact h2 u hu
  | some c=>
   rw [hc] at hz;unfold J5 at hc;split at hc
   .rename_i d n g x hd ho;simp only [Option.some.injEq] at hc;subst hc;simp only [Cg] at hz
    cases hwg:AK e t.2.g with
    | none=>rw [hwg] at hz;simp at hz
    | some bw=>
    rw [hwg] at hz
    cases bw with
    | false=>
     obtain ⟨h1,h2⟩:=FA acc _ _ z hz;refine ⟨h1,λu hu=>?_⟩;rcases List.mem_cons.1 hu with rfl | hu
     .refine ⟨?_,λd' sz z n ps hd' ho'=>(by rw [ho] at ho';cases ho'),λd' z hd' ho'=>(by rw [ho] at ho';cases ho')⟩;intro _ d' n' g' x' hd' ho' hw';have:AK e u.2.g=some true:=hw';rw [hwg] at this;cases this
     .exact h2 u hu
    | true=>
    simp only [A3,Ag] at hz;obtain ⟨q,hq,hz⟩:=bind_some hz;split at hq
    case h_2=>simp at hq
    rename_i id el off hx;simp only [Option.bind_eq_some_iff] at hq;obtain ⟨k,hk,r,hr,v,hv,hq⟩:=hq;split at hq
    case isFalse=>simp at hq
    rename_i hs;simp only [Option.some.injEq] at hq;subst hq;obtain ⟨h1,h2⟩:=FA acc _ _ z hz;refine ⟨h1,λu hu=>?_⟩;rcases List.mem_cons.1 hu with rfl | hu
    .refine ⟨?_,λd' sz z n ps hd' ho'=>(by rw [ho] at ho';cases ho'),λd' z hd' ho'=>(by rw [ho] at ho';cases ho')⟩;intro _ d' n' g' x' hd' ho' _;rw [hd] at hd';rw [ho] at ho';simp only [Option.some.injEq,O.fload.injEq] at hd' ho';obtain ⟨rfl,rfl,rfl⟩:=ho';subst hd';rw [ho];simp only [Ag,hx,hk,Option.bind_some,hr,hv,Option.map_some];rw [WJ hs];rfl
    .exact h2 u hu
   .rename_i d sz zz n ps hd ho;simp only [Option.some.injEq] at hc;subst hc;simp only [Cg,AK,A3,Ag] at hz;obtain ⟨q,hq,hz⟩:=bind_some hz;split at hq
    case h_2=>simp at hq
    rename_i id el len cap hx;simp only [Option.bind_eq_some_iff] at hq;obtain ⟨r,hr,k,hk,hq⟩:=hq;split at hq
    case isFalse=>simp at hq
    rename_i hs;simp only [Option.some.injEq] at hq;subst hq;obtain ⟨h1,h2⟩:=FA acc _ _ z hz;refine ⟨h1,λu hu=>?_⟩;rcases List.mem_cons.1 hu with rfl | hu
    .refine ⟨λ_ d' n' g' x' hd' ho'=>(by rw [ho] at ho';cases ho'), ?_,λd' z hd' ho'=>(by rw [ho] at ho';cases ho')⟩;intro d' sz' z' n' ps' hd' ho';rw [hd] at hd';rw [ho] at ho';simp only [Option.some.injEq,O.bslc.injEq] at hd' ho';obtain ⟨rfl,rfl,rfl,rfl⟩:=ho';subst hd';obtain ⟨rfl,rfl,rfl,rfl,hs⟩:=hs;exact ⟨id,r,hx,hr,by rw [hk,<-D9 hs]⟩
    .exact h2 u hu
   .rename_i d zz hd ho;simp only [Option.some.injEq] at hc;subst hc;simp only [Cg,AK,A3,Ag] at hz;obtain ⟨q,hq,hz⟩:=bind_some hz;split at hq
    case h_2=>simp at hq
    rename_i id el off hx;simp only [Option.bind_eq_some_iff] at hq;obtain ⟨k,hk,hq⟩:=hq;split at hq
    case isFalse=>simp at hq
    rename_i hs;simp only [Option.some.injEq] at hq;subst hq;obtain ⟨h1,h2⟩:=FA acc _ _ z hz;refine ⟨h1,λu hu=>?_⟩;rcases List.mem_cons.1 hu with rfl | hu
    .refine ⟨λ_ d' n' g' x' hd' ho'=>(by rw [ho] at ho';cases ho'),λd' sz z n ps hd' ho'=>(by rw [ho] at ho';cases ho'), ?_⟩;intro d' z' hd' ho';rw [hd] at hd';rw [ho] at ho';simp only [Option.some.injEq,O.alc.injEq] at hd' ho';subst ho';subst hd';obtain ⟨rfl,rfl,e3,hs⟩:=hs;exact ⟨id,hx,by rw [hk,<-D9 hs,<-e3]⟩
    .exact h2 u hu
   .simp at hc
def C2 (cl:List Nat) (bar:Nat->Bool) (s c i:Nat) (t:TO):Prop:=(t.o.late||t.o.fl)=true->∀ c',c'<=c->bar c'=true->(cl.getD (s+c') 0).testBit i=false
theorem Pj:∀ (l:List TO) (s j:Nat) (t:TO),l[j]?=some t->(s+j,t)∈SZ s l
 | [],s,j,t,h=>by simp at h
 | a::l,s,0,t,h=>by simp at h;subst h;simp [SZ]
 | a::l,s,j+1,t,h=>by
  have:=Pj l (s+1) j t (by simpa using h);rw [SZ];refine List.mem_cons_of_mem _ ?_;rw [show s+(j+1)=s+1+j by omega];exact this
theorem IX {cl:List Nat} {q:Bool} {l:List TO} {r:List (Bool×List TO)} {s c i:Nat} {t:TO} (h:C2 cl (Bt ((q,l)::r)) s c i t) (hc:l.length<=c):C2 cl (Bt r) (s+l.length) (c - l.length) i t:=λhl c' h1 h2=>by
 have:=h hl (l.length+c') om (by simp only [Bt];rw [if_neg om,Nat.add_sub_cancel_left];exact h2);rw [Nat.add_assoc];exact this
theorem Hr {tp : TP} {C : A4} (hS : CZ C) (lim : Nat) (cl : List Nat) : ∀ (segs : List (Bool × List TO)) (s : Nat) (acc : List (Nat × TO)) (e e' : Env) (h h' : AH), h.lim = lim -> (∀ s ∈ segs, s.1 = true \/ s.2.length = 1) -> B5 tp C (Fy cl s acc segs) e h = some (e', h') ->
    ∃ E H V',Trace tp C (segs.map (·.2)).flatten (Bt segs) lim E H V'/\E 0=e/\H 0=h/\E (segs.map (·.2)).flatten.length=e'/\H (segs.map (·.2)).flatten.length=h' /\
     ∀ c,Bt segs c=true->(∀ q∈acc,C2 cl (Bt segs) s c q.1 q.2->HA (E (c+1)) (H (c+1)) q.2)/\∀ j t,j<c->(segs.map (·.2)).flatten[j]?=some t->Bt segs j=false->C2 cl (Bt segs) s c (s+j) t->HA (E (c+1)) (H (c+1)) t
 | [],s,acc,e,e',h,h',_,_,he=>by
  simp [B5,Fy] at he;obtain ⟨rfl,rfl⟩:=he;exact ⟨λ_=>e,λ_=>h,λ_=>.u,⟨λj t ht=>by simp at ht,λj t ht=>by simp at ht⟩,rfl,rfl,rfl,rfl,λc hc=>by simp [Bt] at hc⟩
 | (q,l)::r,s,acc,e,e',h,h',hl,hk,he=>by
  have hk':∀ s∈r,s.1=true\/s.2.length=1:=λs hs=>hk s (by simp [hs])
  cases q with
  | true=>
   simp only [Fy,B5] at he;obtain ⟨z,hz,he2⟩:=bind_some he;clear he;simp only [if_true] at hz;have hlz:z.2.lim=lim:=(Ds hS l e h z hz).1.trans hl;obtain ⟨E,H,V',tr,a,b,c,d,f⟩:=Jl hS lim _ _ e' h' (λE H=>∀ c,Bt r c=true->(∀ q∈acc++SZ s l,C2 cl (Bt r) (s+l.length) c q.1 q.2->HA (E (c+1)) (H (c+1)) q.2)/\∀ j t,j<c->(r.map (·.2)).flatten[j]?=some t->Bt r j=false->C2 cl (Bt r) (s+l.length) c (s+l.length+j) t->HA (E (c+1)) (H (c+1)) t) l e z.1 h z.2 hl hz (Hr hS lim cl r (s+l.length) (acc++SZ s l) z.1 e' z.2 h' hlz hk' he2);refine ⟨E,H,V',by simpa [Bt] using tr,a,b,by simpa using c,by simpa using d,λc hc=>?_⟩;simp only [Bt,Bool.not_true] at hc;split at hc
   .simp at hc
   rename_i hcl;obtain ⟨f1,f2⟩:=f (c - l.length) hc;dsimp only at f1 f2;rw [show c - l.length+1+l.length=c+1 by omega] at f1 f2;refine ⟨λt ht hu=>f1 t (by simp [ht]) (IX hu om),λj t hj ht hb hu=>?_⟩;simp only [List.map_cons,List.flatten_cons] at ht
   by_cases hjl:j<l.length
   .rw [List.getElem?_append_left hjl] at ht;exact f1 (s+j,t) (by simp [Pj l s j t ht]) (IX hu om)
   .rw [List.getElem?_append_right om] at ht;simp only [Bt,hjl,if_false] at hb;exact f2 (j - l.length) t om ht hb (by rw [show s+l.length+(j - l.length)=s+j by omega];exact IX hu om)
  | false=>
   simp only [Fy,B5] at he;obtain ⟨z,hz,he2⟩:=bind_some he;clear he;simp only [Bool.false_eq_true,if_false] at hz;have h1:l.length=1:=by simpa using hk (false,l) (by simp)
   obtain ⟨t,rfl⟩:=List.length_eq_one_iff.1 h1;have hlz:z.2.lim=lim:=(EJ hS _ e h z hz).1.trans hl;obtain ⟨E,H,V',tr,a,b,c,d,f⟩:=Hr hS lim cl r (s+1) (acc.filter (Gj cl s)) z.1 e' z.2 h' hlz hk' he2;have hb:Bt ((false,[t])::r)=(λ| 0=>true | j+1=>Bt r j:Nat->Bool):=by
    funext i
    cases i with
    | zero=>simp [Bt]
    | succ i=>simp [Bt]
   have facts:(∀ q∈acc.filter (Gj cl s),HA z.1 z.2 q.2)->∀ (e0:Env) (h0:AH),∀ c,(λ| 0=>true | j+1=>Bt r j:Nat->Bool) c=true->(∀ q∈acc,C2 cl (λ| 0=>true | j+1=>Bt r j:Nat->Bool) s c q.1 q.2->HA ((λ| 0=>e0 | j+1=>E j:Nat->Env) (c+1)) ((λ| 0=>h0 | j+1=>H j:Nat->AH) (c+1)) q.2)/\∀ j u,j<c->(t::(r.map (·.2)).flatten)[j]?=some u->(λ| 0=>true | j+1=>Bt r j:Nat->Bool) j=false->C2 cl (λ| 0=>true | j+1=>Bt r j:Nat->Bool) s c (s+j) u->HA ((λ| 0=>e0 | j+1=>E j:Nat->Env) (c+1)) ((λ| 0=>h0 | j+1=>H j:Nat->AH) (c+1)) u:=by
    intro hst e0 h0 c hc;have still:∀ q:Nat×TO,q∈acc->C2 cl (λ| 0=>true | j+1=>Bt r j:Nat->Bool) s c q.1 q.2->q∈acc.filter (Gj cl s):=λq hq hu=>by
     refine List.mem_filter.2 ⟨hq, ?_⟩;unfold Gj
     cases hlt:(q.2.o.late||q.2.o.fl) with
     | false=>rfl
     | true=>
      have:=hu hlt 0 (Nat.zero_le _) rfl;rw [Nat.add_zero] at this;rw [this];rfl
    have upU:∀ (c i:Nat) (u:TO),C2 cl (λ| 0=>true | j+1=>Bt r j:Nat->Bool) s (c+1) i u->C2 cl (Bt r) (s+1) c i u:=λc i u hu hlt c' h1 h2=>by
     have:=hu hlt (c'+1) om h2;rw [show s+1+c'=s+(c'+1) by omega];exact this
    cases c with
    | zero=>exact ⟨λu hu hun=>by show HA (E 0) (H 0) u.2;rw [a,b];exact hst u (still u hu hun),λj u hj=>by omega⟩
    | succ c=>
     obtain ⟨f1,f2⟩:=f c hc;refine ⟨λq hq hu=>f1 q (still q hq hu) (upU c _ _ hu),λj u hj hu hb hun=>?_⟩
     cases j with
     | zero=>simp at hb
     | succ j=>exact f2 j u om (by simpa using hu) hb (by rw [show s+1+j=s+(j+1) by omega];exact upU c _ _ hun)
   simp only [List.map_cons,List.flatten_cons,List.singleton_append];rw [hb];simp only [List.cons_append,List.nil_append,Cg] at hz
   cases hw:AK e t.g with
   | none=>simp [hw] at hz
   | some w=>
    simp only [hw] at hz
    cases w with
    | true=>
     obtain ⟨q,hq,hz⟩:=bind_some hz;obtain ⟨hz,hst⟩:=FA (acc.filter (Gj cl s)) _ _ z hz;subst hz;refine ⟨_,_,_,Trace.cons (e:=e) (h:=h) (v:=q.1) (b:=true) tr a ?_,rfl,rfl,c,d,facts hst e h⟩;right;simp only [if_true];exact ⟨hw,by show A3 tp C t.o (X.ev e) h=some (q.1,H 0);rw [b];exact hq⟩
    | false=>
     obtain ⟨hz,hst⟩:=FA (acc.filter (Gj cl s)) _ _ z hz;subst hz;refine ⟨_,_,_,Trace.cons (e:=e) (h:=h) (v:=.tup []) (b:=true) tr a ?_,rfl,rfl,c,d,facts hst e h⟩;left;exact ⟨hw,rfl,b⟩
structure CP (P:Program) (n:Nat) (ts:List TO) (bar:Nat->Bool) (lim:Nat) (E:Nat->Env) (H:Nat->AH) (V':Nat->V):Prop where
 rel:∀ j,j<=ts.length->∃ M B w a,Ou M B w (H j) (E j) a n
 qget:∀ j,j<ts.length->bar j=false->∀ id,id<(H j).next->(H (j+1)).get id=(H j).get id
 low:∀ j,j<ts.length->∀ id,id<lim->(H (j+1)).get id=(H j).get id
 steady:∀ j,j<ts.length->AE (H j) (H (j+1))
 val:∀ j,j<ts.length->VB (H (j+1)).next (V' j)
 lim:∀ j,j<=ts.length->(H j).lim=lim
theorem bH {C : A4} {tp : TP} (hC : DW P C) (hS : CZ C) (hm : B3 P tp) {n : Nat} {fl : List Nat} {ops : Array Oper} {ts : List TO} {bar : Nat -> Bool} {lim : Nat} {E : Nat -> Env} {H : Nat -> AH} {V' : Nat -> V}
    (htr:Trace tp C ts bar lim E H V') {M:Mp} {B:Nat} {w:World} {a:Act} (hr:Ou M B w (H 0) (E 0) a n) (hl:(H 0).lim=lim)
    (hget:∀ (j:Nat) (t:TO),ts[j]?=some t->∃ o,J7 P n fl ops o=some t):CP P n ts bar lim E H V':=by
 have main:∀ j,j<=ts.length->(∃ M B w a,Ou M B w (H j) (E j) a n)/\(H j).lim=lim/\∀ i,i<j->(bar i=false->∀ id,id<(H i).next->(H (i+1)).get id=(H i).get id)/\(∀ id,id<lim->(H (i+1)).get id=(H i).get id)/\AE (H i) (H (i+1))/\VB (H (i+1)).next (V' i):=by
  intro j
  induction j with
  | zero=>intro _;exact ⟨⟨M,B,w,a,hr⟩,hl,λi hi=>by omega⟩
  | succ j ih=>
   intro hj;obtain ⟨⟨M,B,w,a,hr⟩,hlim,hlow⟩:=ih om;have ht:ts[j]?=some ts[j]:=List.getElem?_eq_getElem om;obtain ⟨o,ho⟩:=hget j _ ht;obtain ⟨⟨ro,hco,hdr,hrr⟩,hg,hd,hdk,_⟩:=C3 ho;have hE:=htr.env j _ ht;have ext:∀ {p:Nat->Prop},(∀ i,i<j->p i)->p j->∀ i,i<j+1->p i:=λh1 h2 i hi=>by
    rcases Nat.lt_succ_iff_lt_or_eq.1 hi with h3 | h3
    .exact h1 i h3
    .subst h3;exact h2
   rcases htr.step j _ ht with ⟨hw,hv,hH⟩ | hst
   .have hput:=hr.put hdk (DE.same (v:=.tup []) (x:=undef) hr.sim trivial (.tup _ _ .nil));rw [<- hd,<-hv,<-hE] at hput;refine ⟨⟨M,B,w,_,by rw [hH];exact hput⟩,by rw [hH];exact hlim,ext hlow ?_⟩;rw [hH,hv];exact ⟨λ_ _ _=>rfl,λ_ _=>rfl,AE.refl _,.tup _ .nil⟩
   .by_cases hbar:bar j=true
    .rw [if_pos hbar] at hst;obtain ⟨hw,hq⟩:=hst;obtain ⟨x,w',M',hdone⟩:=PF hC hm hr.env hr.sim hco ((hrr _ _ _ _).symm.trans hq);have hput:=hr.put hdk hdone;rw [<- hd,<-hE] at hput;have hst':=EY hS hq;refine ⟨⟨M',B,w',_,hput⟩,hst'.1.trans hlim,ext hlow ⟨λhb=>(by rw [hbar] at hb;cases hb),λid hid=>hdone.goes.low id (by rw [hlim];exact hid),hst',hdone.val.vb⟩⟩
    .rw [if_neg hbar] at hst;rcases hst with ⟨hw,hp,hal,hq,hH⟩ | ⟨hw,hp,q,hq,hH⟩
     .obtain ⟨x,w',M',hrr,hdone⟩:=HW hr.env hr.sim trivial hm hco ((hdr _ _ _).symm.trans hq);have hput:=hr.put hdk hdone;rw [<- hd,<-hE] at hput;refine ⟨⟨M',B,w',_,by rw [hH];exact hput⟩,by rw [hH];exact hlim,ext hlow ?_⟩;rw [hH];exact ⟨λ_ _ _=>rfl,λ_ _=>rfl,AE.refl _,hdone.val.vb⟩
     .obtain ⟨x,w',M',hdone⟩:=PF hC hm hr.env.raise hr.sim.raise hco ((hrr _ _ _ _).symm.trans hq);have hb:=DE.back hr.sim hdone;have hlw:=hdone.low;rw [hlim] at hb;have hput:=hr.put hdk hb;rw [<- hd,<-hH,<-hE] at hput;have hst':=EY hS hq;have hll:=hr.sim.lim;refine ⟨⟨M',B,w',_,hput⟩,by rw [hH];rfl,ext hlow ?_⟩;rw [hH];exact ⟨λ_=>hlw.2,λid hid=>hlw.2 id (by rw [hlim] at hll;omega),⟨by show lim=(H j).lim;exact hlim.symm,hst'.2.1,hst'.2.2⟩,hdone.val.vb⟩
 exact ⟨λj hj=>(main j hj).1,λj hj=>((main (j+1) om).2.2 j om).1,λj hj=>((main (j+1) om).2.2 j om).2.1,λj hj=>((main (j+1) om).2.2 j om).2.2.1,
  λj hj=>((main (j+1) om).2.2 j om).2.2.2,λj hj=>(main j hj).2.1⟩
theorem CP.steadies {n:Nat} {ts:List TO} {bar:Nat->Bool} {lim:Nat} {E:Nat->Env} {H:Nat->AH} {V':Nat->V} (k:CP P n ts bar lim E H V'):∀ (i j:Nat),i<=j->j<=ts.length->AE (H i) (H j):=by
 intro i j hij
 induction j with
 | zero=>
  intro _;obtain rfl:i=0:=by omega
  exact AE.refl _
 | succ j ih=>
  intro hj;rcases Nat.lt_or_ge i (j+1) with h1 | h1
  .exact (ih om om).trans (k.steady j om)
  .obtain rfl:i=j+1:=by omega
   exact AE.refl _
theorem CP.next {n:Nat} {ts:List TO} {bar:Nat->Bool} {lim:Nat} {E:Nat->Env} {H:Nat->AH} {V':Nat->V} (k:CP P n ts bar lim E H V') (i j:Nat) (hij:i<=j) (hj:j<=ts.length):(H i).next<=(H j).next:=(k.steadies i j hij hj).2.1
theorem CP.gets {n : Nat} {ts : List TO} {bar : Nat -> Bool} {lim : Nat} {E : Nat -> Env} {H : Nat -> AH} {V' : Nat -> V} (k : CP P n ts bar lim E H V') {lo hi : Nat} (hb : ∀ i, lo <= i -> i < hi -> bar i = false) (hhi : hi <= ts.length) :
    ∀ (i j:Nat),lo<=i->i<=j->j<=hi->∀ id,id<(H i).next->(H j).get id=(H i).get id:=by
 intro i j hlo hij
 induction j with
 | zero=>
  intro _;obtain rfl:i=0:=by omega
  exact λ_ _=>rfl
 | succ j ih=>
  intro hj id hid;rcases Nat.lt_or_ge i (j+1) with h1 | h1
  .have hn:=k.next i j om om;exact (k.qget j om (hb j om om) id om).trans (ih om om id hid)
  .obtain rfl:i=j+1:=by omega
   rfl
theorem CP.lows {n:Nat} {ts:List TO} {bar:Nat->Bool} {lim:Nat} {E:Nat->Env} {H:Nat->AH} {V':Nat->V} (k:CP P n ts bar lim E H V'):∀ (j:Nat),j<=ts.length->∀ id,id<lim->(H j).get id=(H 0).get id:=by
 intro j
 induction j with
 | zero=>intro _ id _;rfl
 | succ j ih=>intro hj id hid;exact (k.low j om id hid).trans (ih om id hid)
theorem Trace.slot {tp : TP} {C : A4} {ts : List TO} {bar : Nat -> Bool} {lim : Nat} {E : Nat -> Env} {H : Nat -> AH} {V' : Nat -> V} (htr : Trace tp C ts bar lim E H V') (t : Nat) : ∀ j, j <= ts.length ->
    (∃ i o,i<j/\ts[i]?=some o/\o.d=some t/\E j t=V' i)\/((∀ i o,i<j->ts[i]?=some o->o.d≠some t)/\E j t=E 0 t):=by
 intro j
 induction j with
 | zero=>intro _;exact .inr ⟨λi o hi=>by omega,rfl⟩
 | succ j ih=>
  intro hj;have ht:ts[j]?=some ts[j]:=List.getElem?_eq_getElem om;have hE:=htr.env j _ ht
  by_cases hd:ts[j].d=some t
  .refine .inl ⟨j,ts[j],om,ht,hd, ?_⟩;rw [hE,hd];simp [Env.set]
  .have he:E (j+1) t=E j t:=by
    rw [hE]
    cases hdd:ts[j].d with
    | none=>rfl
    | some d=>simp only [Env.set];rw [if_neg];intro hh;subst hh;exact hd hdd
   rcases ih om with ⟨i,o,hi,ho,hod,hv⟩ | ⟨hno,hv⟩
   .exact .inl ⟨i,o,om,ho,hod,he.trans hv⟩
   .refine .inr ⟨λi o hi ho=>?_,he.trans hv⟩;rcases Nat.lt_succ_iff_lt_or_eq.1 hi with h1 | h1
    .exact hno i o h1 ho
    .subst h1;rw [ht] at ho;simp only [Option.some.injEq] at ho;subst ho;exact hd
end
end Go.Ab
/- A region that draws its order: somewhere on the way. -/
namespace Go.Ab
open Go Go.RowKit
section
variable {P:Program}
structure GInv (M0:Mp) (B:Nat) (w0:World) (n:Nat) (ts:List TO) (E:Nat->Env) (V':Nat->V) (H0 K:AH) (S:Nat->Prop) (M:Mp) (w:World) (a:Act):Prop where
 sim:De M B w K
 env1:∀ t,(∀ i o,ts[i]?=some o->o.d=some t->¬ S i)->VR M K (E 0 t) (a.tmps.getD t undef)
 env2:∀ i o,ts[i]?=some o->S i->∀ t,o.d=some t->VR M K (V' i) (a.tmps.getD t undef)
 gmap:∀ id,id<H0.next->K.live id->M id=M0 id
 below:Below B w0 w
 size:a.tmps.size=n
 defers:a.defers=[]
structure FW (ts:List TO) (H:Nat->AH) (lo hi:Nat) (S:Nat->Prop) (M:Mp):Prop where
 none_:∀ i t,lo<=i->i<hi->ts[i]?=some t->AS t.o=false->¬ S i->∀ id,(H i).next<=id->id<(H (i+1)).next->M id=none
 wf:∀ id k m,(H hi).get id=some k->M id=some m->∀ j,lo<=j->j<=hi->id<(H j).next->∀ (el:Nat) (r:List V),k.cs[el]?=some r->∀ (c:Nat) (v:V),r[c]?=some v->VB (H j).next v
variable {M M0:Mp} {B:Nat} {w w0:World} {n:Nat} {tp:TP} {C:A4} {ts:List TO} {bar:Nat->Bool} {lim:Nat} {E:Nat->Env} {H:Nat->AH} {V':Nat->V} {a:Act} {S:Nat->Prop} {K:AH}
theorem put_other {d:Option Nat} {x:Value} {t:Nat} (h:d≠some t):(a.put d x).tmps.getD t undef=a.tmps.getD t undef:=by
 cases d with
 | none=>rfl
 | some d=>
  have hne:d≠t:=λhh=>h (by rw [hh]);simp only [Act.put];rw [Array.getD_eq_getD_getElem?,Array.getElem?_setIfInBounds_ne hne,<-Array.getD_eq_getD_getElem?]
theorem cU {t:Nat} {x:Value} (h:t<a.tmps.size):(a.put (some t) x).tmps.getD t undef=x:=by
 simp [Act.put,Array.getD_eq_getD_getElem?,h]
theorem GInv.step {H0 K' : AH} {M' : Mp} {w' : World} (g : GInv M0 B w0 n ts E V' H0 K S M w a) {j : Nat} {t : TO} (hj : ts[j]? = some t) (hS : ¬ S j) (hdk : pX n t.d = true)
    (d3:∀ (i:Nat) (o:TO) (d:Nat),i≠j->ts[i]?=some o->o.d=some d->t.d≠some d) {x:Value}
    (hsim:De M' B w' K') (hT:∀ {v:V} {y:Value},VR M K v y->VR M' K' v y) (hx:VR M' K' (V' j) x) (hg:∀ id,id<H0.next->K'.live id->M' id=M0 id) (hb:Below B w w'):
    GInv M0 B w0 n ts E V' H0 K' (λi=>S i\/i=j) M' w' (a.put t.d x):=by
 refine ⟨hsim, ?_, ?_,hg,g.below.trans hb, ?_, ?_⟩
 .intro tt hno;rw [put_other (λhh=>hno j t hj hh (.inr rfl))];exact hT (g.env1 tt (λi o ho hod hSi=>hno i o ho hod (.inl hSi)))
 .intro i o ho hSi tt hod;rcases Decidable.em (i=j) with h1 | h1
  .subst h1;rw [hj] at ho;simp only [Option.some.injEq] at ho;subst ho;have hlt:tt<a.tmps.size:=by rw [g.size];rw [hod] at hdk;simpa [pX] using hdk
   rw [hod,cU hlt];exact hx
  .rw [put_other (d3 i o tt h1 ho hod)];exact hT (g.env2 i o ho (hSi.resolve_right h1) tt hod)
 .cases t.d<;>simp [Act.put,g.size]
 .cases t.d<;>simp [Act.put,g.defers]
theorem GInv.look {H0 : AH} (htr : Trace tp C ts bar lim E H V') (g : GInv M0 B w0 n ts E V' H0 K S M w a) {j : Nat} {t : TO} (hj : ts[j]? = some t) (hS : ¬ S j)
    (d1:∀ (i:Nat) (o:TO) (sl:Nat),i<j->ts[i]?=some o->o.d=some sl->sl∈t.slots->S i) (d2:∀ (i:Nat) (o:TO) (sl:Nat),j<i->ts[i]?=some o->o.d=some sl->sl∈t.slots->¬ S i):
    ∀ sl∈t.slots,VR M K (E j sl) (a.tmps.getD sl undef):=by
 intro sl hsl;have hjl:j<ts.length:=(List.getElem?_eq_some_iff.1 hj).1;rcases htr.slot sl j om with ⟨i,o,hi,ho,hod,hv⟩ | ⟨hno,hv⟩
 .rw [hv];exact g.env2 i o ho (d1 i o sl hi ho hod hsl) sl hod
 .rw [hv];refine g.env1 sl (λi o ho hod hSi=>?_);rcases Nat.lt_trichotomy i j with h1 | h1 | h1
  .exact hno i o h1 ho hod
  .subst h1;exact hS hSi
  .exact d2 i o sl h1 ho hod hsl hSi
theorem tP (htr:Trace tp C ts bar lim E H V') (k:CP P n ts bar lim E H V') {j:Nat} (hj:j<=ts.length) (sl:Nat):VB (H j).next (E j sl):=by
 obtain ⟨M',B',w',a',hr'⟩:=k.rel j hj;exact (hr'.env sl).vb
theorem cS {tp:TP} {o:O} {ev:X->V} {h h2:AH} {v:V} (hnf:o.fl=false) (hp:AS o=true) (hal:Ja o ev h=true) (hd:Ag tp o ev h=some (v,h)) (hsz:∀ id k k2,h.get id=some k->h2.get id=some k2->k2.sz=k.sz):Ag tp o ev h2=some (v,h2):=by
 have mp:∀ {α:Type} {x:Option α} {f:α->V},(x.map λa=>(f a,h))=some (v,h)->(x.map λa=>(f a,h2))=some (v,h2):=λe=>by
  simp only [Option.map_eq_some_iff,Prod.mk.injEq] at e ⊢;obtain ⟨a,h1,h3,_⟩:=e;exact ⟨a,h1,h3,trivial⟩
 have mb:∀ {α β:Type} {x:Option α} {y:α->Option β} {f:α->β->V},(x.bind λa=>(y a).map λb=>(f a b,h))=some (v,h)->(x.bind λa=>(y a).map λb=>(f a b,h2))=some (v,h2):=λe=>by
  simp only [Option.bind_eq_some_iff,Option.map_eq_some_iff,Prod.mk.injEq] at e ⊢;obtain ⟨a,h1,b,h3,h4,_⟩:=e;exact ⟨a,h1,b,h3,h4,trivial⟩
 have sm:∀ {u:V},some (u,h)=some (v,h)->some (u,h2)=some (v,h2):=λe=>by
  simp only [Option.some.injEq,Prod.mk.injEq] at e ⊢;exact ⟨e.1,trivial⟩
 cases o<;>simp only [AS,Bool.false_eq_true] at hp<;>simp only [Ag] at hd ⊢
 case fload n g x=>simp [O.fl] at hnf
 case iad s x i=>
  simp only [Ja] at hal;split at hd
  .rename_i id el len cap hx;rw [hx] at hal;simp only at hal;obtain ⟨kk,hkk⟩:=Option.isSome_iff_exists.1 hal;split at hd
   case isFalse=>simp at hd
   rename_i hs;have hs':szB h2 id s=true:=by
    unfold szB at hs ⊢;rw [hkk] at hs
    cases hg:h2.get id with
    | none=>rfl
    | some k2=>
     have:=hsz id kk k2 hkk hg;simp only [beq_iff_eq] at hs ⊢;omega
   rw [if_pos hs'];exact mp hd
  .simp at hd
 all_goals (try exact mp hd)
 all_goals (try exact sm hd)
 all_goals (repeat' split at hd)
 all_goals (try exact mp hd)
 all_goals (try exact sm hd)
 all_goals (try exact mb hd)
 all_goals (try (simp at hd;done))
 all_goals simp_all
theorem aZh (k:CP P n ts bar lim E H V') {i j:Nat} (hi:i<=ts.length) (hj:j<=ts.length):∀ id k1 k2,(H i).get id=some k1->(H j).get id=some k2->k2.sz=k1.sz:=by
 intro id k1 k2 h1 h2;have fresh:∀ l,l<=ts.length->∀ q,(H l).get id=some q->id<(H l).next:=λl hl q hq=>by
  obtain ⟨M',B',w',a',hr'⟩:=k.rel l hl;exact hr'.sim.fresh id (by simp [AH.live,hq])
 rcases Nat.le_total i j with h | h
 .obtain ⟨q,hq,hs⟩:=(k.steadies i j h hj).2.2 id k2 (fresh i hi k1 h1) h2;rw [h1] at hq;simp only [Option.some.injEq] at hq;rw [hq];exact hs.symm
 .obtain ⟨q,hq,hs⟩:=(k.steadies j i h hi).2.2 id k1 (fresh j hj k2 h2) h1;rw [h2] at hq;simp only [Option.some.injEq] at hq;rw [hq];exact hs
theorem H8 (tr:Trace tp C ts bar lim E H V') (hu:∀ (i j:Nat) (x y:TO) (d:Nat),i≠j->ts[i]?=some x->ts[j]?=some y->x.d=some d->y.d≠some d) {i m d:Nat} {u:TO} (hi:ts[i]?=some u) (hd:u.d=some d) (him:i<m) (hm:m<=ts.length):E m d=V' i:=by
 rcases tr.slot d m hm with ⟨i',o,hi',ho,hod,hv⟩ | ⟨hno,_⟩
 .by_cases hii:i=i'
  .subst hii;exact hv
  .exact absurd hod (hu i i' u o d hii hi ho hd)
 .exact absurd hd (hno i u him hi)
theorem IW (tr:Trace tp C ts bar lim E H V') {a:Nat} (hno:∀ u∈ts,u.d≠some a):∀ m,m<=ts.length->E m a=E 0 a
 | 0,_=>rfl
 | m+1,h=>by
  have ht:ts[m]?=some ts[m]:=List.getElem?_eq_getElem om;rw [tr.env m _ ht,<-IW tr hno m om];have:=hno _ (List.getElem_mem (l:=ts) (n:=m) om)
  cases hd:ts[m].d with
  | none=>rfl
  | some d=>
   show (if a=d then V' m else E m a)=E m a;rw [if_neg (λe=>this (by rw [hd,e]))]
theorem Kh (tr:Trace tp C ts bar lim E H V') (hu:∀ (i j:Nat) (x y:TO) (d:Nat),i≠j->ts[i]?=some x->ts[j]?=some y->x.d=some d->y.d≠some d) {j a:Nat} (hjl:j<ts.length) (hor:Nr ts j a=true):∀ m,j<=m->m<=ts.length->E m a=E j a:=by
 intro m hm hml;simp only [Nr,Bool.or_eq_true] at hor;rcases hor with hor | hor
 .simp only [List.any_eq_true] at hor;obtain ⟨i,hi,hia⟩:=hor;have hij:i<j:=by simpa using hi
  cases hti:ts[i]? with
  | none=>simp [hti] at hia
  | some u=>
   simp only [hti,beq_iff_eq] at hia;rw [H8 tr hu hti hia om hml,H8 tr hu hti hia hij om]
 .have hno:∀ u∈ts,u.d≠some a:=λu hu'=>by simpa using List.all_eq_true.1 hor u hu'
  rw [IW tr hno m hml,IW tr hno j om]
theorem aMe {cl : List Nat} (tr : Trace tp C ts bar lim E H V') (k : CP P n ts bar lim E H V') (hu : ∀ (i j : Nat) (x y : TO) (d : Nat), i ≠ j -> ts[i]? = some x -> ts[j]? = some y -> x.d = some d -> y.d ≠ some d) (hfo : qK ts = true)
    (hst:∀ c,bar c=true->∀ j t,j<c->ts[j]?=some t->bar j=false->C2 cl bar 0 c (0+j) t->HA (E (c+1)) (H (c+1)) t) {j:Nat} {t:TO} (ht:ts[j]?=some t) (hfl:t.o.fl=true) (hbj:bar j=false) (hwj:AK (E j) t.g=some true):∀ c,j<c->c<=ts.length->(∀ c',c'<c->bar c'=true->(cl.getD c' 0).testBit j=false)->Ag tp t.o (X.ev (E j)) (H c)=some (V' j,H c):=by
 have hjl:=(List.getElem?_eq_some_iff.1 ht).1;simp only [qK,List.all_eq_true] at hfo;have hf:=hfo j (by simpa using hjl);simp only [ht] at hf;cases ho:t.o<;>rw [ho] at hfl<;>simp [O.fl] at hfl;rename_i n g x;rw [ho] at hf
 cases x with
 | c v=>simp at hf
 | fn f=>simp at hf
 | t a=>
  simp only [Bool.and_eq_true] at hf;obtain ⟨⟨hds,hor⟩,hgf⟩:=hf;obtain ⟨d,hd⟩:=Option.isSome_iff_exists.1 hds;have hsa:=Kh tr hu hjl hor;have hsg:∀ m,j<=m->m<=ts.length->AK (E m) t.g=AK (E j) t.g:=by
   intro m hm hml
   cases htg:t.g with
   | none=>rfl
   | some q=>
    rw [htg] at hgf;simp only at hgf;simp only [AK,Kh tr hu hjl hgf m hm hml]
  have key:∀ {e1 e2:Env} {h:AH},e1 a=e2 a->Ag tp (.fload n g (.t a)) (X.ev e1) h=Ag tp (.fload n g (.t a)) (X.ev e2) h:=λhe=>by simp only [Ag,X.ev,he]
  have base:Ag tp (.fload n g (.t a)) (X.ev (E j)) (H j)=some (V' j,H j)/\H (j+1)=H j:=by
   rcases tr.step j t ht with ⟨hw,_,_⟩ | hs
   .rw [hwj] at hw;cases hw
   .rw [if_neg (by rw [hbj];simp)] at hs;rcases hs with ⟨_,_,_,h1,h2⟩ | ⟨_,h1,_⟩
    .rw [ho] at h1;exact ⟨h1,h2⟩
    .rw [ho] at h1;simp [AS] at h1
  have more:∀ {c:Nat},c<ts.length->(∀ id,id<(H c).next->(H (c+1)).get id=(H c).get id)->Ag tp (.fload n g (.t a)) (X.ev (E j)) (H c)=some (V' j,H c)->Ag tp (.fload n g (.t a)) (X.ev (E j)) (H (c+1))=some (V' j,H (c+1)):=by
   intro c hc hget hv;obtain ⟨M',B',w',a',hr'⟩:=k.rel c om;simp only [Ag] at hv ⊢;split at hv
   .rename_i id el off hx;simp only [Option.bind_eq_some_iff,Option.map_eq_some_iff,Prod.mk.injEq] at hv ⊢;obtain ⟨kk,hk,r,hr,v,hv,e1,_⟩:=hv;exact ⟨kk,by rw [hget id (hr'.sim.fresh id (by simp [AH.live,hk]))];exact hk,r,hr,v,hv,e1,trivial⟩
   .simp at hv
  intro c
  induction c with
  | zero=>intro h;omega
  | succ c ih=>
   intro h1 h2 hun;rcases Nat.lt_succ_iff_lt_or_eq.1 h1 with h3 | h3
   .have ihc:=ih h3 om (λc' hc'=>hun c' om)
    cases hb:bar c with
    | true=>
     have hs:=(hst c hb j t h3 ht hbj (λ_ c' h4 h5=>by rw [Nat.zero_add,Nat.zero_add];exact hun c' om h5)).1 tp d n g (.t a) hd ho ((hsg (c+1) om h2).trans hwj);rw [ho] at hs;rw [H8 tr hu ht hd om h2] at hs;rw [key (e1:=E j) (e2:=E (c+1)) (hsa (c+1) om h2).symm];exact hs
    | false=>exact more om (k.qget c om hb) ihc
   .subst h3;rw [base.2];exact base.1
theorem FW.down {lo hi:Nat} (k:CP P n ts bar lim E H V') (hb:∀ i,lo<=i->i<hi->bar i=false) (hhi:hi<=ts.length) (q:FW ts H lo hi S M) (hs:De M B w (H hi)) {j:Nat} (h1:lo<=j) (h2:j<=hi):De M B w (H j):=by
 have m2:=k.gets hb hhi j hi h1 h2 (Nat.le_refl _);obtain ⟨M',B',w',a',hr'⟩:=k.rel j om;have hlt:∀ id,(H j).live id->id<(H j).next:=hr'.sim.fresh;have hup:∀ id,(H j).live id->(H hi).live id:=λid hl=>by rw [AH.live,m2 id (hlt id hl)];exact hl
 refine ⟨λid kk m hg hm=>?_,λid m hl hm ho=>hs.own id m (hup id hl) hm ho,λid m hl hm hlim=>hs.from_ id m (hup id hl) hm ?_,λid id' m m' hl hl' hm hm'=>hs.apart id id' m m' (hup id hl) (hup id' hl') hm hm',hlt,hr'.sim.lim,hs.size⟩
 .have hl:(H j).live id:=by rw [AH.live,hg];simp
  have hid:=hlt id hl;have hg':(H hi).get id=some kk:=by rw [m2 id hid];exact hg
  obtain ⟨c1,c2,c3⟩:=hs.cells id kk m hg' hm;refine ⟨c1,c2,λel r hr=>⟨(c3 el r hr).1,λc v hv=>?_⟩⟩;obtain ⟨e1,x,e2,e3⟩:=(c3 el r hr).2 c v hv;exact ⟨e1,x,e2,e3.move (N:=(H j).next) (Nat.le_refl _) (λid hid hl=>⟨by rw [AH.live,m2 id hid];exact hl,rfl⟩) (q.wf id kk m hg' hm j h1 h2 hid el r hr c v hv)⟩
 .rw [k.lim _ hhi];rw [k.lim j om] at hlim;exact hlim
theorem GInv.enter {lo hi : Nat} (k : CP P n ts bar lim E H V') (hb : ∀ i, lo <= i -> i < hi -> bar i = false) (hlo : lo <= hi) (hhi : hi <= ts.length) (g : GInv M0 B w0 n ts E V' (H 0) (H lo) S M w a) :
    ∃ M1,GInv M0 B w0 n ts E V' (H 0) (H hi) S M1 w a/\FW ts H lo hi S M1/\∀ id,M id=none->M1 id=none:=by
 have m2:=k.gets hb hhi lo hi (Nat.le_refl _) hlo (Nat.le_refl _);have m1:=k.next lo hi hlo hhi;have hmv:∀ {v:V} {x:Value},VR M (H lo) v x->VR (λid=>if id<(H lo).next then M id else none) (H hi) v x:=λhv=>
  hv.move (N:=(H lo).next) m1 (λid hid hl=>⟨by rw [AH.live,<-m2 id hid];exact hl,by simp [hid]⟩) hv.vb
 have hin:∀ id m,(if id<(H lo).next then M id else none)=some m->id<(H lo).next/\M id=some m:=λid m hm=>by
  split at hm
  .exact ⟨‹_›,hm⟩
  .simp at hm
 obtain ⟨M',B',w',a',hr'⟩:=k.rel hi hhi;refine ⟨λid=>if id<(H lo).next then M id else none,⟨⟨?_, ?_, ?_, ?_,hr'.sim.fresh,hr'.sim.lim,g.sim.size⟩,λt ht=>hmv (g.env1 t ht),λi o ho hS t hod=>hmv (g.env2 i o ho hS t hod), ?_,g.below,g.size,g.defers⟩,⟨?_, ?_⟩,λid hid=>by simp [hid]⟩
 .intro id kk m hg hm;obtain ⟨hid,hM⟩:=hin id m hm;rw [m2 id hid] at hg;obtain ⟨c1,c2,c3⟩:=g.sim.cells id kk m hg hM;refine ⟨c1,c2,λel r hr'=>⟨(c3 el r hr').1,λj v hv=>?_⟩⟩;obtain ⟨d1,x,d2,d3⟩:=(c3 el r hr').2 j v hv;exact ⟨d1,x,d2,hmv d3⟩
 .intro id m hl hm ho;obtain ⟨hid,hM⟩:=hin id m hm;exact g.sim.own id m (by rw [AH.live,<-m2 id hid];exact hl) hM ho
 .intro id m hl hm hlim;obtain ⟨hid,hM⟩:=hin id m hm;refine g.sim.from_ id m (by rw [AH.live,<-m2 id hid];exact hl) hM ?_;rw [k.lim lo om];rw [k.lim hi hhi] at hlim;exact hlim
 .intro id id' m m' hl hl' hm hm';obtain ⟨hid,hM⟩:=hin id m hm;obtain ⟨hid',hM'⟩:=hin id' m' hm';exact g.sim.apart id id' m m' (by rw [AH.live,<-m2 id hid];exact hl) (by rw [AH.live,<-m2 id' hid'];exact hl') hM hM'
 .intro id hid hl;have:id<(H lo).next:=Nat.lt_of_lt_of_le hid (k.next 0 lo (Nat.zero_le _) om);simp only [this,if_true];exact g.gmap id hid (by rw [AH.live,<-m2 id this];exact hl)
 .intro i t h1 h2 _ _ _ id h3 h4;have:=k.next lo i h1 om;have:¬ id<(H lo).next:=by omega
  simp [this]
 .intro id kk m hg hm j hj1 hj2 hid el r hr' c v hv;obtain ⟨hid0,hM⟩:=hin id m hm;rw [m2 id hid0] at hg;obtain ⟨c1,c2,c3⟩:=g.sim.cells id kk m hg hM;obtain ⟨d1,x,d2,d3⟩:=(c3 el r hr').2 c v hv;exact d3.vb.mono (k.next lo j hj1 om)
theorem GInv.pure_step {ops : Array Oper} {o : Oper} {w' : World} {M' : Mp} {x : Value} (g : GInv M0 B w0 n ts E V' (H 0) K S M w a) {j : Nat} {t : TO} (hj : ts[j]? = some t) (hS : ¬ S j) (hdk : pX n t.d = true)
    (d3:∀ (i:Nat) (o:TO) (d:Nat),i≠j->ts[i]?=some o->o.d=some d->t.d≠some d) (hdone:DE M B w K (V' j) K x w' M'):GInv M0 B w0 n ts E V' (H 0) K (λi=>S i\/i=j) M w' (a.put t.d x):=by
 have hM:∀ id,K.live id->M' id=M id:=λid hl=>hdone.goes.keeps.map id (g.sim.fresh id hl) hl;have hmv:∀ {v:V} {y:Value},VR M' K v y->VR M K v y:=λhv=>hv.move (N:=K.next) (Nat.le_refl _) (λid _ hl=>⟨hl,(hM id hl).symm⟩) hv.vb;refine g.step hj hS hdk d3 ⟨?_, ?_, ?_, ?_,g.sim.fresh,g.sim.lim,hdone.sim.size⟩ (λhv=>hv) (hmv hdone.val) g.gmap hdone.below
 .intro id kk m hg hm;have hl:K.live id:=by simp [AH.live,hg]
  obtain ⟨c1,c2,c3⟩:=hdone.sim.cells id kk m hg (by rw [hM id hl];exact hm);refine ⟨c1,c2,λel r hr=>⟨(c3 el r hr).1,λc v hv=>?_⟩⟩;obtain ⟨e1,x,e2,e3⟩:=(c3 el r hr).2 c v hv;exact ⟨e1,x,e2,hmv e3⟩
 .exact λid m hl hm ho=>hdone.sim.own id m hl (by rw [hM id hl];exact hm) ho
 .exact λid m hl hm hlim=>hdone.sim.from_ id m hl (by rw [hM id hl];exact hm) hlim
 .exact λid id' m m' hl hl' hm hm'=>hdone.sim.apart id id' m m' hl hl' (by rw [hM id hl];exact hm) (by rw [hM id' hl'];exact hm')
theorem FW.more {lo hi j:Nat} (q:FW ts H lo hi S M):FW ts H lo hi (λi=>S i\/i=j) M:=
 ⟨λi t h1 h2 ht hp hS=>q.none_ i t h1 h2 ht hp (λhh=>hS (.inl hh)),q.wf⟩
def BE (t:TO):Bool:=t.o.late&&t.g.isNone&&t.d.isSome
theorem VG {ps:List (Nat×X)} (h:Nl ps=true) (e e':Env):(ps.map λq=>(q.1,X.ev e q.2))=ps.map λq=>(q.1,X.ev e' q.2):=by
 refine List.map_congr_left λq hq=>?_;simp only [Nl,List.all_eq_true] at h;have:=h q hq;obtain ⟨i,x⟩:=q
 cases x with
 | c v=>rfl
 | t n=>simp at this
 | fn f=>simp at this
structure Xb (E:Nat->Env) (H:Nat->AH) (V':Nat->V) (p:Nat) (t:TO) (f:Nat->V) (sz:Nat) (r:List (List V)):Prop where
 doo:∀ (tp:TP) (e:Env) (h:AH),Ag tp t.o (X.ev e) h=some (f h.next,h.alloc ⟨sz,r⟩)
 val:V' p=f (H p).next
 shape:(∃ n,∀ i,f i=.sl i 0 n n)\/∀ i,f i=.p i 0 0
 stab:∀ (e:Env) (h:AH) (d id:Nat),HA e h t->t.d=some d->e d=f id->h.get id=some ⟨sz,r⟩
 next:(H (p+1)).next=(H p).next+1
 get:(H (p+1)).get (H p).next=some ⟨sz,r⟩
theorem FI (tr:Trace tp C ts bar lim E H V') {p:Nat} {t:TO} (ht:ts[p]?=some t) (hl:BE t=true) (hb:bar p=false):∃ f sz r,Xb E H V' p t f sz r:=by
 simp only [BE,Bool.and_eq_true,Option.isNone_iff_eq_none] at hl;obtain ⟨⟨hlo,hg⟩,hd⟩:=hl;have run:∃ q,A3 tp C t.o (X.ev (E p)) (H p).raise=some (V' p,q)/\H (p+1)=q.back lim:=by
  rcases tr.step p t ht with ⟨hw,_,_⟩ | hs
  .rw [hg] at hw;simp [AK] at hw
  .rw [if_neg (by rw [hb];simp)] at hs;rcases hs with ⟨_,h1,_⟩ | ⟨_,_,q,h1,h2⟩
   .cases ho:t.o<;>rw [ho] at hlo h1<;>simp [O.late,AS] at hlo h1
   .exact ⟨q,h1,h2⟩
 obtain ⟨q,h1,h2⟩:=run;cases ho:t.o<;>rw [ho] at hlo<;>simp [O.late] at hlo
 case alc z=>
  rw [ho] at h1;simp only [A3,Ag,Option.some.injEq,Prod.mk.injEq] at h1;obtain ⟨hv,hq⟩:=h1;subst hq;refine ⟨λi=>.p i 0 0,z.length,[z],λ_ e h=>by rw [ho];rfl,hv.symm,.inr λ_=>rfl,λe h d id hst hd' he=>?_,by rw [h2];rfl,by rw [h2];simp [AH.back,AH.alloc,AH.raise]⟩;obtain ⟨id',q1,q2⟩:=hst.2.2 d z hd' ho;rw [he] at q1;simp only [V.p.injEq] at q1;rw [q1.1];exact q2
 case bslc sz z n ps=>
  rw [ho] at h1;simp only [A3,Ag,Option.map_eq_some_iff,Prod.mk.injEq] at h1;obtain ⟨r,hr,hv,hq⟩:=h1;subst hq;have row:∀ e:Env,Cw sz (List.replicate n z) (ps.map λq=>(q.1,X.ev e q.2))=some r:=λe=>by rw [VG hlo e (E p)];exact hr
  refine ⟨λi=>.sl i 0 n n,sz,r,λ_ e h=>by rw [ho];simp only [Ag,row,Option.map_some],hv.symm,.inl ⟨n,λ_=>rfl⟩,λe h d id hst hd' he=>?_,by rw [h2];rfl,by rw [h2];simp [AH.back,AH.alloc,AH.raise]⟩;obtain ⟨id',r',q1,q2,q3⟩:=hst.2.1 d sz z n ps hd' ho;rw [he] at q1;simp only [V.sl.injEq] at q1;rw [row] at q2;simp only [Option.some.injEq] at q2;subst q2;rw [q1.1];exact q3
theorem Ky {cl : List Nat} (tr : Trace tp C ts bar lim E H V') (k : CP P n ts bar lim E H V') (hu : ∀ (i j : Nat) (x y : TO) (d : Nat), i ≠ j -> ts[i]? = some x -> ts[j]? = some y -> x.d = some d -> y.d ≠ some d)
    (hst:∀ c,bar c=true->∀ j t,j<c->ts[j]?=some t->bar j=false->C2 cl bar 0 c (0+j) t->HA (E (c+1)) (H (c+1)) t) {p:Nat} {t:TO} (ht:ts[p]?=some t) (hl:BE t=true) (hb:bar p=false) {f:Nat->V} {sz:Nat} {r:List (List V)} (F:Xb E H V' p t f sz r):∀ c,p<c->c<=ts.length->(∀ c',c'<c->bar c'=true->(cl.getD c' 0).testBit p=false)->(H c).get (H p).next=some ⟨sz,r⟩:=by
 simp only [BE,Bool.and_eq_true,Option.isNone_iff_eq_none] at hl;obtain ⟨d,hd⟩:=Option.isSome_iff_exists.1 hl.2;intro c
 induction c with
 | zero=>intro h;omega
 | succ c ih=>
  intro h1 h2 hun;rcases Nat.lt_succ_iff_lt_or_eq.1 h1 with h3 | h3
  .have ihc:=ih h3 om (λc' hc'=>hun c' om)
   cases hbc:bar c with
   | true=>
    exact F.stab _ _ d _ (hst c hbc p t h3 ht hb (λ_ c' h4 h5=>by rw [Nat.zero_add,Nat.zero_add];exact hun c' om h5)) hd (by rw [H8 tr hu ht hd om h2,F.val])
   | false=>
    have hn:=F.next;have:=k.next (p+1) c om om;rw [k.qget c om hbc _ om];exact ihc
  .subst h3;exact F.get
theorem UQ (tr : Trace tp C ts bar lim E H V') (k : CP P n ts bar lim E H V') (hu : ∀ (i j : Nat) (x y : TO) (d : Nat), i ≠ j -> ts[i]? = some x -> ts[j]? = some y -> x.d = some d -> y.d ≠ some d) {p : Nat} {t : TO} (ht : ts[p]? = some t) (hl : BE t = true) {f : Nat -> V} {sz : Nat} {r : List (List V)} (F : Xb E H V' p t f sz r) :
    ∀ (el:Nat) (row:List V),r[el]?=some row->∀ (c:Nat) (v:V),row[c]?=some v->VB (H (p+1)).next v:=by
 simp only [BE,Bool.and_eq_true,Option.isNone_iff_eq_none] at hl;obtain ⟨d,hd⟩:=Option.isSome_iff_exists.1 hl.2;have hpl:=(List.getElem?_eq_some_iff.1 ht).1;obtain ⟨M',B',w',a',hr'⟩:=k.rel (p+1) om;have hv:=hr'.env d;rw [H8 tr hu ht hd om om,F.val] at hv;intro el row hrow c v hcv;generalize a'.tmps.getD d undef=y at hv;have key:∃ m,M' (H p).next=some m:=by
  rcases F.shape with ⟨nn,hf⟩ | hf
  .rw [hf] at hv
   cases hv with
   | sl _ _ _ _ a rc h1 h2 h3=>
    obtain ⟨m,hm,_⟩:=h3 (by simp [AH.live,F.get]);exact ⟨m,hm⟩
  .rw [hf] at hv
   cases hv with
   | p _ _ _ a h1 h3=>
    obtain ⟨m,hm,_⟩:=h3 (by simp [AH.live,F.get]);exact ⟨m,hm⟩
 obtain ⟨m,hm⟩:=key;obtain ⟨_,_,c3⟩:=hr'.sim.cells _ _ m F.get hm;obtain ⟨_,x,_,e3⟩:=(c3 el row hrow).2 c v hcv;exact e3.vb
theorem GInv.late {H0 : AH} (g : GInv M0 B w0 n ts E V' H0 K S M w a) {j : Nat} {t : TO} (hj : ts[j]? = some t) (hS : ¬ S j) (hdk : pX n t.d = true)
    (d3:∀ (i:Nat) (o:TO) (d:Nat),i≠j->ts[i]?=some o->o.d=some d->t.d≠some d) {id sz:Nat} {f:Nat->V} {r:List (List V)} (hf:(∃ n,∀ i,f i=.sl i 0 n n)\/∀ i,f i=.p i 0 0) (hK:K.get id=some ⟨sz,r⟩) (hno:M id=none) (h0:H0.next<=id) (hV:V' j=f id)
    (hvb:∀ (el:Nat) (row:List V),r[el]?=some row->∀ (c:Nat) (v:V),row[c]?=some v->VB K.next v) {x:Value} {w':World} {M':Mp} (hdone:DE M B w K (f K.next) (K.alloc ⟨sz,r⟩) x w' M'):
    ∃ M2,GInv M0 B w0 n ts E V' H0 K (λi=>S i\/i=j) M2 w' (a.put t.d x)/\(∀ i,i≠id->M2 i=M i)/\∀ m,M2 id=some m->M' K.next=some m:=by
 have hid:id<K.next:=g.sim.fresh id (by simp [AH.live,hK])
 let M2:Mp:=λi=>if i=id then M' K.next else M i
 have h2id:M2 id=M' K.next:=by simp [M2]
 have h2ne:∀ i,i≠id->M2 i=M i:=λi hi=>by simp [M2,hi]
 have hget:∀ i,i<K.next->(K.alloc ⟨sz,r⟩).get i=K.get i:=λi hi=>by
  have:i≠K.next:=by omega
  simp [AH.alloc,this]
 have hnew:(K.alloc ⟨sz,r⟩).get K.next=some ⟨sz,r⟩:=by simp [AH.alloc]
 have hM':∀ i,i<K.next->K.live i->M' i=M i:=λi hi hl=>hdone.goes.keeps.map i hi (by rw [AH.live,hget i hi];exact hl);have hmv:∀ {v:V} {y:Value},VR M' (K.alloc ⟨sz,r⟩) v y->VB K.next v->VR M2 K v y:=λhv hb=>
  (hv.move (h2:=K) (M':=M') (N:=K.next) (Nat.le_refl _) (λi hi hl=>⟨by rw [AH.live,hget i hi];exact hl,rfl⟩) hb).remap λi m hl hm=>by
   have hi:=g.sim.fresh i hl;rw [hM' i hi hl] at hm;rw [h2ne i (by rintro rfl;rw [hno] at hm;cases hm)];exact hm
 have hext:∀ {v:V} {y:Value},VR M K v y->VR M2 K v y:=λhv=>hv.remap λi m hl hm=>by
  rw [h2ne i (by rintro rfl;rw [hno] at hm;cases hm)];exact hm
 have up:∀ i m,K.live i->M2 i=some m->∃ i',(K.alloc ⟨sz,r⟩).live i'/\M' i'=some m/\(K.alloc ⟨sz,r⟩).get i'=K.get i/\(i=id->i'=K.next)/\(i≠id->i'=i):=λi m hl hm=>by
  by_cases he:i=id
  .subst he;exact ⟨K.next,by simp [AH.live,hnew],by rw [<- h2id];exact hm,by rw [hnew,hK],λ_=>rfl,λh=>absurd rfl h⟩
  .have hi:=g.sim.fresh i hl;exact ⟨i,by rw [AH.live,hget i hi];exact hl,by rw [hM' i hi hl,<-h2ne i he];exact hm,hget i hi,λh=>absurd h he,λ_=>rfl⟩
 have hlim:(K.alloc ⟨sz,r⟩).lim=K.lim:=rfl;refine ⟨M2,g.step hj hS hdk d3 ⟨?_, ?_, ?_, ?_,g.sim.fresh,g.sim.lim,hdone.sim.size⟩ hext ?_ ?_ hdone.below,h2ne,λm hm=>by rw [<- h2id];exact hm⟩
 .intro i kk m hg hm;have hl:K.live i:=by simp [AH.live,hg]
  obtain ⟨i',q1,q2,q3,q4,q5⟩:=up i m hl hm;obtain ⟨c1,c2,c3⟩:=hdone.sim.cells i' kk m (by rw [q3];exact hg) q2;refine ⟨c1,c2,λel row hr=>⟨(c3 el row hr).1,λc v hv=>?_⟩⟩;obtain ⟨e1,y,e2,e3⟩:=(c3 el row hr).2 c v hv;refine ⟨e1,y,e2,hmv e3 ?_⟩
  by_cases he:i=id
  .subst he;rw [hK] at hg;simp only [Option.some.injEq] at hg;subst hg;exact hvb el row hr c v hv
  .rw [h2ne i he] at hm;obtain ⟨_,_,c3⟩:=g.sim.cells i kk m hg hm;obtain ⟨_,_,_,e3⟩:=(c3 el row hr).2 c v hv;exact e3.vb
 .intro i m hl hm ho;obtain ⟨i',q1,q2,q3,q4,q5⟩:=up i m hl hm;exact hdone.sim.own i' m q1 q2 ho
 .intro i m hl hm hnl;obtain ⟨i',q1,q2,q3,q4,q5⟩:=up i m hl hm;refine hdone.sim.from_ i' m q1 q2 ?_;rw [hlim]
  by_cases he:i=id
  .rw [q4 he];have:=g.sim.lim;omega
  .rw [q5 he];exact hnl
 .intro i i2 m m2 hl hl2 hm hm2 hne;obtain ⟨i',q1,q2,q3,q4,q5⟩:=up i m hl hm;obtain ⟨i2',r1,r2,r3,r4,r5⟩:=up i2 m2 hl2 hm2;have f1:=g.sim.fresh i hl;have f2:=g.sim.fresh i2 hl2;refine hdone.sim.apart i' i2' m m2 q1 r1 q2 r2 ?_;intro he
  by_cases ha:i=id
  .by_cases hb:i2=id
   .exact hne (ha.trans hb.symm)
   .rw [q4 ha,r5 hb] at he;omega
  .by_cases hb:i2=id
   .rw [q5 ha,r4 hb] at he;omega
   .rw [q5 ha,r5 hb] at he;exact hne he
 .rw [hV];have hx:=hdone.val;rcases hf with ⟨nn,hf⟩ | hf
  .rw [hf] at hx ⊢
   cases hx with
   | sl _ _ _ _ aa rc h1 h2 h3=>
    obtain ⟨m,hm,q⟩:=h3 (by simp [AH.live,hnew]);exact .sl id 0 nn nn aa rc hid h2 λ_=>⟨m,by rw [h2id];exact hm,q⟩
  .rw [hf] at hx ⊢
   cases hx with
   | p _ _ _ aa h1 h3=>
    obtain ⟨m,hm,q⟩:=h3 (by simp [AH.live,hnew]);exact .p id 0 0 aa hid λ_=>⟨m,by rw [h2id];exact hm,q⟩
 .intro i hi hl;rw [h2ne i om];exact g.gmap i hi hl
theorem FW.late {lo hi : Nat} (k : CP P n ts bar lim E H V') (hhi : hi <= ts.length) (q : FW ts H lo hi S M) {j : Nat} (hj : j < lo) {sz : Nat} {r : List (List V)} (hn : (H (j + 1)).next = (H j).next + 1) (hK : (H hi).get (H j).next = some ⟨sz, r⟩)
    (hvb:∀ (el:Nat) (row:List V),r[el]?=some row->∀ (c:Nat) (v:V),row[c]?=some v->VB (H (j+1)).next v) {M2:Mp} (h2:∀ i,i≠(H j).next->M2 i=M i):FW ts H lo hi (λi=>S i\/i=j) M2:=by
 refine ⟨λi t h1 h3 ht hp hS id h4 h5=>?_,λid kk m hg hm j' hj1 hj2 hid el row hr c v hv=>?_⟩
 .have:=k.next (j+1) lo om om;have:=k.next lo i h1 om;rw [h2 id om];exact q.none_ i t h1 h3 ht hp (λh=>hS (.inl h)) id h4 h5
 .by_cases he:id=(H j).next
  .subst he;rw [hK] at hg;simp only [Option.some.injEq] at hg;subst hg;exact (hvb el row hr c v hv).mono (k.next (j+1) j' om om)
  .rw [h2 id he] at hm;exact q.wf id kk m hg hm j' hj1 hj2 hid el row hr c v hv
theorem FW.put {lo hi : Nat} (k : CP P n ts bar lim E H V') (hb : ∀ i, lo <= i -> i < hi -> bar i = false) (hhi : hi <= ts.length) (g : GInv M0 B w0 n ts E V' (H 0) (H hi) S M w a) (q : FW ts H lo hi S M) {j : Nat} {t : TO} (h1j : lo <= j) (h2j : j < hi) (hj : ts[j]? = some t)
    (hnp:AS t.o=false) (hS:¬ S j) (hdk:pX n t.d=true) (d3:∀ (i:Nat) (o:TO) (d:Nat),i≠j->ts[i]?=some o->o.d=some d->t.d≠some d) {qq:AH} {x:Value} {w':World} {M':Mp}
    (hH:H (j+1)=qq.back lim) (hdone:DE M w.heap.size w (H j).raise (V' j) qq x w' M'):
    ∃ M2,GInv M0 B w0 n ts E V' (H 0) (H hi) (λi=>S i\/i=j) M2 w' (a.put t.d x)/\FW ts H lo hi (λi=>S i\/i=j) M2/\∀ id,¬ ((H j).next<=id/\id<(H (j+1)).next)->M2 id=M id:=by
 have m1:=k.next (j+1) hi om hhi;have m2:=k.gets hb hhi (j+1) hi om om (Nat.le_refl _);have l1:=k.next j (j+1) om om;have hqn:(H (j+1)).next=qq.next:=by rw [hH];rfl
 have hqg:∀ id,(H (j+1)).get id=qq.get id:=λid=>by rw [hH];rfl
 let M2:Mp:=λid=>if (H j).next<=id/\id<(H (j+1)).next then M' id else M id
 have hM2in:∀ id,(H j).next<=id->id<(H (j+1)).next->M2 id=M' id:=λid h1 h2=>by simp [M2,h1,h2]
 have hM2out:∀ id,¬ ((H j).next<=id/\id<(H (j+1)).next)->M2 id=M id:=λid h1=>by simp [M2,h1]
 have hlive:∀ id,id<qq.next->((H hi).live id↔qq.live id):=λid hid=>by
  rw [AH.live,AH.live,m2 id om,hqg]
 have hM':∀ id,id<(H j).next->qq.live id->M' id=M id:=λid hid hl=>hdone.goes.keeps.map id hid hl;have T1:∀ {v:V} {y:Value},VR M' qq v y->VR M2 (H hi) v y:=λhv=>
  hv.move (N:=qq.next) om (λid hid hl=>⟨(hlive id hid).1 hl,by
   by_cases h1:(H j).next<=id
   .exact hM2in id h1 om
   .rw [hM2out id om,hM' id om ((hlive id hid).1 hl)]⟩) hv.vb
 have hext:∀ id m,M id=some m->M2 id=some m:=λid m hm=>by
  rw [hM2out id (λhh=>?_)];exact hm;have:=q.none_ j t h1j h2j hj hnp hS id hh.1 hh.2;rw [hm] at this;cases this
 have T2:∀ {v:V} {y:Value},VR M (H hi) v y->VR M2 (H hi) v y:=λhv=>hv.remap (λid m _ hm=>hext id m hm);have hblk:∀ b,b<w.heap.size->w'.heap[b]?=w.heap[b]?:=hdone.below.block;have hcase:∀ id m,M2 id=some m->((H j).next<=id/\id<(H (j+1)).next/\M' id=some m)\/(¬ ((H j).next<=id/\id<(H (j+1)).next)/\M id=some m):=λid m hm=>by
  by_cases h1:(H j).next<=id/\id<(H (j+1)).next
  .exact .inl ⟨h1.1,h1.2,by rw [<- hM2in id h1.1 h1.2];exact hm⟩
  .exact .inr ⟨h1,by rw [<- hM2out id h1];exact hm⟩
 have hqlim:qq.lim=(H j).next:=hdone.goes.lim;have hBw:B<=w.heap.size:=g.sim.size;have hbold:∀ id m,(H hi).live id->M id=some m->m.b<w.heap.size:=λid m hl hm=>by
  obtain ⟨kk,hkk⟩:=Option.ne_none_iff_exists'.1 hl;exact (g.sim.cells id kk m hkk hm).1
 refine ⟨M2,g.step hj hS hdk d3 ⟨?_, ?_, ?_, ?_,g.sim.fresh,g.sim.lim,Nat.le_trans hBw hdone.below.size⟩ T2 (T1 hdone.val) ?_ (hdone.below.mono hBw),⟨?_, ?_⟩,hM2out⟩
 .intro id kk m hg hm;rcases hcase id m hm with ⟨h1,h2,h3⟩ | ⟨h1,h3⟩
  .have hg':qq.get id=some kk:=by rw [<- hqg,<-m2 id om];exact hg
   obtain ⟨c1,c2,c3⟩:=hdone.sim.cells id kk m hg' h3;refine ⟨c1,c2,λel r hr=>⟨(c3 el r hr).1,λc v hv=>?_⟩⟩;obtain ⟨e1,x,e2,e3⟩:=(c3 el r hr).2 c v hv;exact ⟨e1,x,e2,T1 e3⟩
  .obtain ⟨c1,c2,c3⟩:=g.sim.cells id kk m hg h3;refine ⟨Nat.lt_of_lt_of_le c1 hdone.below.size,c2,λel r hr=>⟨(c3 el r hr).1,λc v hv=>?_⟩⟩;obtain ⟨e1,x,e2,e3⟩:=(c3 el r hr).2 c v hv;exact ⟨e1,x,(HE (a:=⟨m.b,_,none⟩) (hblk m.b c1)).trans e2,T2 e3⟩
 .intro id m hl hm ho;rcases hcase id m hm with ⟨h1,h2,h3⟩ | ⟨h1,h3⟩
  .exact hdone.sim.own id m ((hlive id om).1 hl) h3 ho
  .obtain ⟨arr,e,fr,c1,c2⟩:=g.sim.own id m hl h3 ho;exact ⟨arr,e,fr,(hblk m.b (hbold id m hl h3)).trans c1,c2⟩
 .intro id m hl hm hlim;rcases hcase id m hm with ⟨h1,h2,h3⟩ | ⟨h1,h3⟩
  .have:=hdone.sim.from_ id m ((hlive id om).1 hl) h3 (by rw [hqlim];exact h1);exact ⟨this.1,Nat.le_trans hBw this.2⟩
  .exact g.sim.from_ id m hl h3 hlim
 .intro id id' m m' hl hl' hm hm' hne ho;rcases hcase id m hm with ⟨h1,h2,h3⟩ | ⟨h1,h3⟩<;>rcases hcase id' m' hm' with ⟨h1',h2',h3'⟩ | ⟨h1',h3'⟩
  .exact hdone.sim.apart id id' m m' ((hlive id om).1 hl) ((hlive id' om).1 hl') h3 h3' hne ho
  .have:=(hdone.sim.from_ id m ((hlive id om).1 hl) h3 (by rw [hqlim];exact h1)).2;have:=hbold id' m' hl' h3';omega
  .have:=(hdone.sim.from_ id' m' ((hlive id' om).1 hl') h3' (by rw [hqlim];exact h1')).2;have:=hbold id m hl h3;omega
  .exact g.sim.apart id id' m m' hl hl' h3 h3' hne ho
 .intro id hid hl;have:=k.next 0 j (Nat.zero_le _) om;rw [hM2out id om];exact g.gmap id hid hl
 .intro i t' h1 h2 ht hp hnS id h3 h4;have hnSi:¬ S i:=λhh=>hnS (.inl hh);have hij:i≠j:=λhh=>hnS (.inr hh);have hn:=q.none_ i t' h1 h2 ht hp hnSi id h3 h4;rw [hM2out id (λhh=>?_)];exact hn;rcases Nat.lt_or_ge i j with h5 | h5
  .have:=k.next (i+1) j om om;omega
  .have:=k.next (j+1) i om om;omega
 .intro id kk m hg hm j' hj1 hj2 hid el r hr c v hv;rcases hcase id m hm with ⟨h1,h2,h3⟩ | ⟨h1,h3⟩
  .have hg':qq.get id=some kk:=by rw [<- hqg,<-m2 id om];exact hg
   obtain ⟨c1,c2,c3⟩:=hdone.sim.cells id kk m hg' h3;obtain ⟨e1,y,e2,e3⟩:=(c3 el r hr).2 c v hv;have hjj:j+1<=j':=by
    rcases Nat.lt_or_ge j j' with h4 | h4
    .omega
    .have:=k.next j' j h4 om;omega
   exact e3.vb.mono (by rw [<- hqn];exact k.next (j+1) j' hjj om)
  .exact q.wf id kk m hg h3 j' hj1 hj2 hid el r hr c v hv
end
end Go.Ab
