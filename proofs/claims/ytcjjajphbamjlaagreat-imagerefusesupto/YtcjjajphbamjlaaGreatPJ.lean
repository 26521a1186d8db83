/- Part of a proof that a law returns true for every input of the second form's bound (no other condition). -/
import Derived.Test.YtcjjajphbamjlaaGreatPI
set_option linter.all false
namespace Go.Ab.T
open Go Go.Ab
set_option maxHeartbeats 4000000
/-! A configuration out of bytes. Plain. -/
def sOf (l:List Int):ByteArray:=⟨(l.map fun z=>UInt8.ofNat z.toNat).toArray⟩
theorem sOf_sB (s:ByteArray):sOf (sB s)=s:=by
  cases s with
  | mk d=>
    simp only [sOf,sB,List.map_map]
    have:((fun z:Int=>UInt8.ofNat z.toNat)∘fun c:UInt8=>(c.toNat:Int))=id:=by funext c;simp
    rw [this];simp
structure Rd where
  b:List Int
  bad:Bool
def numS (s:Rd):Int×Rd:=if s.bad=true∨(getR s.b).2=0 then (0,⟨s.b,true⟩) else ((getR s.b).1,⟨s.b.drop (getR s.b).2,s.bad⟩)
def cntS (m:Int) (s:Rd):Int×Rd:=if (numS s).1<0∨m<(numS s).1 then (0,⟨(numS s).2.b,true⟩) else numS s
def flagS (s:Rd):Bool×Rd:=(decide ((cntS 1 s).1=1),(cntS 1 s).2)
def cutR (b:List Int) (m:Int):List Int×Nat:=if (getR b).2=0∨(getR b).1<0∨m<(getR b).1∨(b.length:Int) - (getR b).2<(getR b).1 then ([],0) else ((b.drop (getR b).2).take (getR b).1.toNat,(getR b).2+(getR b).1.toNat)
def textS (m:Int) (s:Rd):ByteArray×Rd:=if s.bad=true∨(cutR s.b m).2=0 then (⟨#[]⟩,⟨s.b,true⟩) else (sOf (cutR s.b m).1,⟨s.b.drop (cutR s.b m).2,s.bad⟩)
def procsS:Nat→List Proc→Rd→List Proc×Rd
  | 0,acc,s=>(acc,s)
  | n+1,acc,s=>procsS n (acc++[⟨(cntS 512 s).1,(cntS 255 (cntS 512 s).2).1⟩]) (cntS 255 (cntS 512 s).2).2
def partS (s:Rd):Part×Rd:=
  let a:=textS 12 s
  let b:=numS a.2
  let c:=numS b.2
  let d:=flagS c.2
  let e:=flagS d.2
  let k:=cntS 3 e.2
  let p:=procsS k.1.toNat [] k.2
  let h0:=cntS 2 p.2
  let h1:=cntS 2 h0.2
  let h2:=cntS 2 h1.2
  let h3:=cntS 2 h2.2
  let h4:=cntS 2 h3.2
  (⟨a.1,b.1,c.1,d.1,e.1,p.1,h0.1,h1.1,h2.1,h3.1,h4.1⟩,h4.2)
def partsS:Nat→List Part→Rd→List Part×Rd
  | 0,acc,s=>(acc,s)
  | n+1,acc,s=>partsS n (acc++[(partS s).1]) (partS s).2
def chanS (s:Rd):Chan×Rd:=
  let a:=cntS 6 s
  let b:=cntS 6 a.2
  let c:=flagS b.2
  let d:=cntS 8 c.2
  let e:=cntS 4294967295 d.2
  let f:=numS e.2
  (⟨a.1,b.1,c.1,d.1,IntKind.wrap .u32 e.1,f.1⟩,f.2)
def chansS:Nat→List Chan→Rd→List Chan×Rd
  | 0,acc,s=>(acc,s)
  | n+1,acc,s=>chansS n (acc++[(chanS s).1]) (chanS s).2
def nodeS (s:Rd):Node×Rd:=
  let a:=cntS 4 s
  let b:=cntS 6 a.2
  let c:=numS b.2
  (⟨a.1,b.1,c.1⟩,c.2)
def nodesS:Nat→List Node→Rd→List Node×Rd
  | 0,acc,s=>(acc,s)
  | n+1,acc,s=>nodesS n (acc++[(nodeS s).1]) (nodeS s).2
def tabS (s:Rd):List Node×Rd:=nodesS (cntS 128 s).1.toNat [] (cntS 128 s).2
def tabsS:Nat→List (List Node)→Rd→List (List Node)×Rd
  | 0,acc,s=>(acc,s)
  | n+1,acc,s=>tabsS n (acc++[(tabS s).1]) (tabS s).2
def confS (s:Rd):Config×Rd:=
  let a:=cntS 6 s
  let p:=partsS a.1.toNat [] a.2
  let b:=cntS 8 p.2
  let c:=chansS b.1.toNat [] b.2
  let d:=cntS 3 c.2
  let t:=tabsS d.1.toNat [] d.2
  (⟨p.1,c.1,t.1⟩,t.2)
/-! What was written is read as it was. -/
def pn (n:Int):List Int:=putK n::putX n
theorem putR_pn (B:List Int) (n:Int):putR B n=B++pn n:=putR_eq B n
def RdOf {α:Type} (f:Rd→α×Rd) (enc:List Int) (a:α):Prop:=∀ rest,f ⟨enc++rest,false⟩=(a,⟨rest,false⟩)
abbrev I64 (n:Int):Prop:=-9223372036854775808≤n∧n<9223372036854775808
theorem getR_pn {n:Int} (h:I64 n) (rest:List Int):getR (pn n++rest)=(n,(pn n).length):=by
  have:=getR_put h.1 h.2 rest
  rw [putR_pn] at this
  exact this
theorem pn_len (n:Int):(pn n).length≠0:=by simp [pn]
theorem num_rd {n:Int} (h:I64 n):RdOf numS (pn n) n:=fun rest=>by
  have:=pn_len n
  unfold numS
  simp only [getR_pn h rest]
  rw [if_neg (by simp [this]),List.drop_left]
theorem cnt_rd {n m:Int} (h:I64 n) (h0:0≤n) (h1:n≤m):RdOf (cntS m) (pn n) n:=fun rest=>by
  have:=num_rd h rest
  unfold cntS
  rw [this]
  rw [if_neg (by simp only;omega)]
theorem flag_rd (f:Bool):RdOf flagS (pn (if f=true then 1 else 0)) f:=fun rest=>by
  unfold flagS
  rw [cnt_rd (m:=1) (by cases f<;>decide) (by cases f<;>decide) (by cases f<;>decide) rest]
  cases f<;>rfl
theorem text_rd {s:ByteArray} {m:Int} (h:(s.size:Int)≤m) (hm:m≤1000):RdOf (textS m) (pn s.size++sB s) s:=fun rest=>by
  have hg:=getR_pn (n:=s.size) ⟨by omega,by omega⟩ (sB s++rest)
  have hl:=pn_len (s.size:Int)
  have hs:=sB_len s
  rw [← List.append_assoc] at hg
  have hc:cutR (pn s.size++sB s++rest) m=(sB s,(pn s.size).length+s.size):=by
    unfold cutR
    rw [hg]
    simp only
    rw [if_neg (by simp only [List.length_append,hs];omega),List.append_assoc,List.drop_left]
    simp only [Int.toNat_natCast]
    rw [← hs,List.take_left]
  unfold textS
  simp only [hc]
  rw [if_neg (by simp only [Bool.false_eq_true,false_or];omega),sOf_sB]
  congr 2
  rw [← hs,←List.length_append,List.drop_left]
theorem RdOf.bind {α β:Type} {f:Rd→α×Rd} {g:Rd→β×Rd} {e1 e2:List Int} {a:α} (h1:RdOf f e1 a) (rest:List Int):f ⟨e1++e2++rest,false⟩=(a,⟨e2++rest,false⟩):=by
  rw [List.append_assoc];exact h1 _
def eProc (p:Proc):List Int:=pn p.entry++pn p.prio
structure ProcOk (p:Proc):Prop where
  e:0≤p.entry∧p.entry≤512
  p:0≤p.prio∧p.prio≤255
theorem procs_rd:∀ (L:List Proc) (acc:List Proc),(∀ p∈L,ProcOk p)→RdOf (procsS L.length acc) (L.map eProc).flatten (acc++L)
  | [],acc,_=>fun rest=>by simp [procsS]
  | p::L,acc,h=>fun rest=>by
    have hp:=h p (List.mem_cons_self ..)
    simp only [List.length_cons,procsS,List.map_cons,List.flatten_cons,eProc,List.append_assoc]
    rw [cnt_rd ⟨by have:=hp.e;omega,by have:=hp.e;omega⟩ hp.e.1 hp.e.2 _]
    simp only
    rw [cnt_rd ⟨by have:=hp.p;omega,by have:=hp.p;omega⟩ hp.p.1 hp.p.2 _]
    simp only
    rw [procs_rd L _ (fun q hq=>h q (List.mem_cons_of_mem _ hq)) rest]
    simp
def ePart (p:Part):List Int:=(pn p.name.size++sB p.name)++(pn p.budget++(pn p.period++(pn (if p.sched=true then 1 else 0)++(pn (if p.stop=true then 1 else 0)++(pn p.procs.length++((p.procs.map eProc).flatten++(pn p.h0++(pn p.h1++(pn p.h2++(pn p.h3++pn p.h4))))))))))
structure PartOk (y:Part):Prop where
  n:y.name.size≤12
  b:I64 y.budget
  c:I64 y.period
  l:y.procs.length≤3
  p:∀ x∈y.procs,ProcOk x
  h:(0≤y.h0∧y.h0≤2)∧(0≤y.h1∧y.h1≤2)∧(0≤y.h2∧y.h2≤2)∧(0≤y.h3∧y.h3≤2)∧(0≤y.h4∧y.h4≤2)
theorem part_rd {p:Part} (h:PartOk p):RdOf partS (ePart p) p:=fun rest=>by
  obtain ⟨h0,h1,h2,h3,h4⟩:=h.h
  have hl:=h.l
  have hn:=h.n
  unfold ePart partS
  simp only [List.append_assoc]
  rw [← List.append_assoc (pn _) (sB _),text_rd (by omega) (by omega)]
  simp only
  rw [num_rd h.b]
  simp only
  rw [num_rd h.c]
  simp only
  rw [flag_rd]
  simp only
  rw [flag_rd]
  simp only
  rw [cnt_rd ⟨by omega,by omega⟩ (by omega) (by omega)]
  simp only [Int.toNat_natCast]
  rw [procs_rd _ _ h.p]
  simp only [List.nil_append]
  rw [cnt_rd ⟨by omega,by omega⟩ h0.1 h0.2]
  simp only
  rw [cnt_rd ⟨by omega,by omega⟩ h1.1 h1.2]
  simp only
  rw [cnt_rd ⟨by omega,by omega⟩ h2.1 h2.2]
  simp only
  rw [cnt_rd ⟨by omega,by omega⟩ h3.1 h3.2]
  simp only
  rw [cnt_rd ⟨by omega,by omega⟩ h4.1 h4.2]
theorem parts_rd:∀ (L:List Part) (acc:List Part),(∀ p∈L,PartOk p)→RdOf (partsS L.length acc) (L.map ePart).flatten (acc++L)
  | [],acc,_=>fun rest=>by simp [partsS]
  | p::L,acc,h=>fun rest=>by
    simp only [List.length_cons,partsS,List.map_cons,List.flatten_cons,List.append_assoc]
    rw [part_rd (h p (List.mem_cons_self ..)) _]
    simp only
    rw [parts_rd L _ (fun q hq=>h q (List.mem_cons_of_mem _ hq)) rest]
    simp
def eChan (x:Chan):List Int:=pn x.src++(pn x.dst++(pn (if x.queue=true then 1 else 0)++(pn x.cap++(pn x.top++pn x.late))))
structure ChanOk (x:Chan):Prop where
  a:0≤x.src∧x.src≤6
  b:0≤x.dst∧x.dst≤6
  c:0≤x.cap∧x.cap≤8
  t:0≤x.top∧x.top≤4294967295
  l:I64 x.late
theorem wrap_u32 (x:Int):IntKind.wrap .u32 x=x % 4294967296:=by unfold IntKind.wrap;simp [IntKind.bits,IntKind.signed]
theorem chan_rd {x:Chan} (h:ChanOk x):RdOf chanS (eChan x) x:=fun rest=>by
  have ha:=h.a;have hb:=h.b;have hc:=h.c;have ht:=h.t
  unfold eChan chanS
  simp only [List.append_assoc]
  rw [cnt_rd ⟨by omega,by omega⟩ ha.1 ha.2]
  simp only
  rw [cnt_rd ⟨by omega,by omega⟩ hb.1 hb.2]
  simp only
  rw [flag_rd]
  simp only
  rw [cnt_rd ⟨by omega,by omega⟩ hc.1 hc.2]
  simp only
  rw [cnt_rd ⟨by omega,by omega⟩ ht.1 ht.2]
  simp only
  rw [num_rd h.l]
  simp only
  rw [wrap_u32,Int.emod_eq_of_lt ht.1 (by omega)]
theorem chans_rd:∀ (L:List Chan) (acc:List Chan),(∀ p∈L,ChanOk p)→RdOf (chansS L.length acc) (L.map eChan).flatten (acc++L)
  | [],acc,_=>fun rest=>by simp [chansS]
  | p::L,acc,h=>fun rest=>by
    simp only [List.length_cons,chansS,List.map_cons,List.flatten_cons,List.append_assoc]
    rw [chan_rd (h p (List.mem_cons_self ..)) _]
    simp only
    rw [chans_rd L _ (fun q hq=>h q (List.mem_cons_of_mem _ hq)) rest]
    simp
def eNode (x:Node):List Int:=pn x.kind++(pn x.part++pn x.n)
structure NodeOk (x:Node):Prop where
  k:0≤x.kind∧x.kind≤4
  p:0≤x.part∧x.part≤6
  n:I64 x.n
theorem node_rd {x:Node} (h:NodeOk x):RdOf nodeS (eNode x) x:=fun rest=>by
  have ha:=h.k;have hb:=h.p
  unfold eNode nodeS
  simp only [List.append_assoc]
  rw [cnt_rd ⟨by omega,by omega⟩ ha.1 ha.2]
  simp only
  rw [cnt_rd ⟨by omega,by omega⟩ hb.1 hb.2]
  simp only
  rw [num_rd h.n]
theorem nodes_rd:∀ (L:List Node) (acc:List Node),(∀ p∈L,NodeOk p)→RdOf (nodesS L.length acc) (L.map eNode).flatten (acc++L)
  | [],acc,_=>fun rest=>by simp [nodesS]
  | p::L,acc,h=>fun rest=>by
    simp only [List.length_cons,nodesS,List.map_cons,List.flatten_cons,List.append_assoc]
    rw [node_rd (h p (List.mem_cons_self ..)) _]
    simp only
    rw [nodes_rd L _ (fun q hq=>h q (List.mem_cons_of_mem _ hq)) rest]
    simp
def eTab (t:List Node):List Int:=pn t.length++(t.map eNode).flatten
theorem tab_rd {t:List Node} (hl:t.length≤128) (h:∀ x∈t,NodeOk x):RdOf tabS (eTab t) t:=fun rest=>by
  unfold eTab tabS
  rw [List.append_assoc,cnt_rd ⟨by omega,by omega⟩ (by omega) (by omega)]
  simp only [Int.toNat_natCast]
  rw [nodes_rd t _ h,List.nil_append]
theorem tabs_rd:∀ (L:List (List Node)) (acc:List (List Node)),(∀ t∈L,t.length≤128∧∀ x∈t,NodeOk x)→RdOf (tabsS L.length acc) (L.map eTab).flatten (acc++L)
  | [],acc,_=>fun rest=>by simp [tabsS]
  | p::L,acc,h=>fun rest=>by
    have hp:=h p (List.mem_cons_self ..)
    simp only [List.length_cons,tabsS,List.map_cons,List.flatten_cons,List.append_assoc]
    rw [tab_rd hp.1 hp.2 _]
    simp only
    rw [tabs_rd L _ (fun q hq=>h q (List.mem_cons_of_mem _ hq)) rest]
    simp
structure ConfOk (C:Config):Prop where
  p:C.parts.length≤6
  c:C.chans.length≤8
  t:C.tables.length≤3
  pp:∀ p∈C.parts,PartOk p
  cc:∀ p∈C.chans,ChanOk p
  tt:∀ t∈C.tables,t.length≤128∧∀ x∈t,NodeOk x
def eConf (C:Config):List Int:=pn C.parts.length++((C.parts.map ePart).flatten++(pn C.chans.length++((C.chans.map eChan).flatten++(pn C.tables.length++(C.tables.map eTab).flatten))))
theorem conf_rd {C:Config} (h:ConfOk C):RdOf confS (eConf C) C:=fun rest=>by
  have h1:=h.p;have h2:=h.c;have h3:=h.t
  unfold eConf confS
  simp only [List.append_assoc]
  rw [cnt_rd ⟨by omega,by omega⟩ (by omega) (by omega)]
  simp only [Int.toNat_natCast]
  rw [parts_rd _ _ h.pp]
  simp only [List.nil_append]
  rw [cnt_rd ⟨by omega,by omega⟩ (by omega) (by omega)]
  simp only [Int.toNat_natCast]
  rw [chans_rd _ _ h.cc]
  simp only [List.nil_append]
  rw [cnt_rd ⟨by omega,by omega⟩ (by omega) (by omega)]
  simp only [Int.toNat_natCast]
  rw [tabs_rd _ _ h.tt]
  simp only [List.nil_append]
end Go.Ab.T
namespace Go.Ab.T
open Go Go.Ab
set_option maxHeartbeats 1000000
theorem wrap_u32' (x:Int):IntKind.wrap .u32 x=x % 4294967296:=by unfold IntKind.wrap;simp [IntKind.bits,IntKind.signed]
theorem xr_bd (a b:Int):0≤xr a b∧xr a b<4294967296:=by unfold xr;rw [wrap_u32'];omega
theorem xr_zero {a:Int} (h0:0≤a) (h1:a<4294967296):xr a 0=a:=by
  unfold xr
  rw [wrap_u32']
  simp only [BitVec.ofInt_ofNat,BitVec.xor_zero,BitVec.toNat_ofInt]
  omega
theorem nxStep_bd (c:Int):0≤nxStep c∧nxStep c<4294967296:=by
  unfold nxStep
  split
  · exact xr_bd _ _
  · unfold sh1;rw [wrap_u32'];omega
theorem op_mul (a b:Int):binV .mul (.i .u32 a) (.i .u32 b)=some (.i .u32 (IntKind.wrap .u32 (a*b))):=rfl
theorem nxStep_mul {c:Int} (h0:0≤c) (h1:c<4294967296):xr (sh1 c) (IntKind.wrap .u32 (79764919*c.fdiv 2147483648))=nxStep c:=by
  unfold nxStep
  have:c.fdiv 2147483648=0∨c.fdiv 2147483648=1:=by rw [Int.fdiv_eq_ediv_of_nonneg _ (by omega)];omega
  rcases this with h | h
  · rw [h,if_neg (by omega)]
    have:IntKind.wrap .u32 (79764919*0)=0:=by rw [wrap_u32'];rfl
    rw [this]
    exact xr_zero (by unfold sh1;rw [wrap_u32'];omega) (by unfold sh1;rw [wrap_u32'];omega)
  · rw [h,if_pos rfl]
    have:IntKind.wrap .u32 (79764919*1)=79764919:=by rw [wrap_u32'];rfl
    rw [this]
theorem sumNext_ev {c b:Int}:Pf tp i_Q89 [.i .u32 c,.i .u8 b] (.i .u32 (nextR c b)):=by
  refine Pf_go fn_Q89 (by simp [t_Q89]) fun rp=>?_;unfold t_Q89;simp (disch:=omega)only[go_sem, *]
  have o1:=op_xor
  have o2:=op_sh1
  have o3:=op_sh24
  have o4:=op_r31
  have o5:=op_mul
  simp (disch:=omega)only[go_sem, *]
  refine ZC_loop_n (fun n e h=>∃ (k:Nat) (d:Int),n=k∧h.lim=0∧e 0=.i .u32 d∧e 11=.i .i64 (8 - (k:Int))∧k≤8∧0≤d∧d<4294967296∧nxIt k d=nextR c b) ?_ _ _ _ ⟨8,xr c (IntKind.wrap .u32 (IntKind.wrap .u32 b*16777216)),rfl, ?_⟩
  · rintro n e h ⟨k,d,rfl,hl,e0,e11,hk,d0,d1,hz⟩ ih
    rw [ZC_unf Q89_7.eq_1]
    have hx:=nxStep_mul d0 d1
    simp (disch:=omega)only[go_sem, *]
    refine Wb_dec (fun hc=>?_) (fun hc=>?_)
    · obtain ⟨k,rfl⟩:∃ m,n=m+1:=⟨n - 1,by omega⟩
      rw [nxIt] at hz
      have hb:=nxStep_bd d
      simp (disch:=omega)only[go_sem, *]
      refine ih _ _ _ ?_ ⟨k,nxStep d,rfl, ?_⟩
      · omega
      · clear ih
        simp (disch:=omega)only[go_sem, *]
        all_goals ((repeat' refine And.intro ?_ ?_)<;>first | omega | assumption | ((congr 1;omega)))
    · have h0:n=0:=by omega
      subst h0
      rw [nxIt] at hz
      simp (disch:=omega)only[go_sem, *]
  · have hb:=xr_bd c (IntKind.wrap .u32 (IntKind.wrap .u32 b*16777216))
    simp (disch:=omega)only[go_sem, *]
    all_goals ((repeat' refine And.intro ?_ ?_)<;>first | omega | assumption | (rfl))
theorem sumGo_app:∀ (A B:List Int) (c:Int),sumGo (A++B) c=sumGo B (sumGo A c)
  | [],_,_=>rfl
  | a::A,B,c=>by simp only [List.cons_append,sumGo];exact sumGo_app A B _
theorem sumOf_ev {B:List Int}:Pf tp i_Q54 [.fl 1 (B.map encB)] (.i .u32 (sumR B)):=by
  refine Pf_go fn_Q54 (by simp [t_Q54]) fun rp=>?_;unfold t_Q54;simp (disch:=omega)only[go_sem, *]
  have hL:=rp.head.len
  have o1:=op_ux
  refine ZC_loop_n (fun n e h=>∃ (i:Nat) (c:Int),n=B.length - i∧h.lim=0∧e 6=.fl 1 (B.map encB)∧e 7=.i .i64 B.length∧e 8=.i .i64 i∧e 3=.i .u32 c∧i≤B.length∧sumGo (B.drop i) c=sumGo B 4294967295) ?_ _ _ _ ⟨0,4294967295,rfl, ?_⟩
  · rintro n e h ⟨i,c,rfl,hl,e6,e7,e8,e3,hi,hz⟩ ih
    rw [ZC_unf Q54_7.eq_1]
    simp (disch:=omega)only[go_sem, *]
    refine Wb_dec (fun hc=>?_) (fun hc=>?_)
    · rw [drop_nth (by omega),sumGo] at hz
      simp (disch:=omega)only[go_sem, *]
      refine Pf.go (sumNext_ev) (by simp only [go_sem]) fun _=>?_;simp (disch:=omega)only[go_sem, *]
      refine ih _ _ _ ?_ ⟨i+1,nextR c (nth B i),rfl, ?_⟩
      · omega
      · simp (disch:=omega)only[go_sem, *]
        ((repeat' refine And.intro ?_ ?_)<;>first | omega | assumption)
    · rw [List.drop_eq_nil_of_le (by omega),sumGo] at hz
      have hz2:ux (sumGo B 4294967295)=sumR B:=rfl
      simp (disch:=omega)only[go_sem, *]
  · simp (disch:=omega)only[go_sem, *]
def tailR (s:Int):List Int:=[IntKind.wrap .u8 (s.fdiv 16777216),IntKind.wrap .u8 (s.fdiv 65536),IntKind.wrap .u8 (s.fdiv 256),IntKind.wrap .u8 s]
theorem sumTail_ev {s:Int}:Pf tp i_Q53 [.i .u32 s] (.fl 1 ((tailR s).map encB)):=by
  refine Pf_go fn_Q53 (by simp [t_Q53]) fun rp=>?_;unfold t_Q53;simp (disch:=omega)only[go_sem, *]
  have o1:=op_r24
  have o2:=op_r16
  have o3:=op_r8
  simp (disch:=omega)only[go_sem, *]
  exact Sl.froze (b:=0) (L:=tailR s) (Sl.new (Nat.zero_le _) (by simp [tailR])) (fun _=>rfl) trivial (by simp [tailR])
def RB (sz:Nat) (h:AH) (v:V) (R:List (List V)):Prop:=∀ h',Ext h h'→rowsV sz h' v=some R∧lenV v=some (.i .i64 R.length)
theorem RB.fl {sz:Nat} {h:AH} {R:List (List V)}:RB sz h (.fl sz R) R:=fun h' _=>⟨rowsV_fl,rfl⟩
theorem RB.ns {sz:Nat} {h:AH}:RB sz h .ns []:=fun h' _=>⟨rfl,rfl⟩
theorem RB.sl {b sz:Nat} {h:AH} {v:V} {B:List Int} (s:Sl b h sz v (B.map encB)):RB sz h v (B.map encB):=fun h' x=>⟨(s.ext x).rows,by rw [s.facts.len,List.length_map]⟩
theorem RB.ext {sz:Nat} {h h2:AH} {v:V} {R:List (List V)} (r:RB sz h v R) (x:Ext h h2):RB sz h2 v R:=fun h' x'=>r h' (x.trans x')
theorem RowsIn.nil {sz:Nat} {h:AH}:RowsIn sz h [] []:=⟨rfl,fun _ _ _ hj=>by simp at hj⟩
theorem RowsIn.cons {sz:Nat} {h:AH} {v:V} {R:List (List V)} {vs:List V} {Rs:List (List (List V))} (r:RB sz h v R) (q:RowsIn sz h vs Rs):RowsIn sz h (v::vs) (R::Rs):=⟨by simp [q.1],fun h' x j hj=>by
  cases j with
  | zero=>exact ⟨v,R,rfl,rfl,r h' x⟩
  | succ j=>exact q.2 h' x j (by simpa using hj)⟩
theorem rowsOf_sl {h:AH} {id n:Nat} {vs:List V} (hg:h.get id=some ⟨1,vs.map fun v=>[v]⟩) (hid:id<h.next) (hn:n=vs.length):RowsOf h (.sl id 0 n n) vs:=by
  subst hn
  refine ⟨rfl,fun h' x k j hj=>⟨.p id j 0, ?_, ?_⟩⟩
  · simp [idV,x.get id hid,hg,iad2,idxOf,hj]
  · rw [ldZ_p,x.get id hid,hg,ld2_some,List.getElem?_map,List.getElem?_eq_getElem hj]
    simp [cut]
theorem sumSeal_ev {B:List Int} (hB:B.length<999990):Pf tp i_Q30 [.fl 1 (B.map encB)] (.fl 1 ((sealR B).map encB)):=by
  refine Pf_go fn_Q30 (by simp [t_Q30]) fun rp=>?_;unfold t_Q30;simp (disch:=omega)only[go_sem, *]
  refine Pf.go (sumOf_ev) (by simp only [go_sem]) fun _=>?_;simp (disch:=omega)only[go_sem, *]
  refine Pf.go (sumTail_ev) (by simp only [go_sem]) fun _=>?_;simp (disch:=omega)only[go_sem, *]
  have e1:sealR B=B++tailR (sumR B):=rfl
  refine catB_ev (vs:=[.fl 1 (B.map encB),.fl 1 ((tailR (sumR B)).map encB)]) (Rs:=[B.map encB,(tailR (sumR B)).map encB]) ?_ ?_ ?_ (by simp) (by simp [tailR];omega) ?_
  · simp (disch:=omega)only[go_sem, *]
  · exact rowsOf_sl (by simp (disch:=omega)only[go_sem, *]<;>rfl) (by simp (disch:=omega)only[go_sem, *]) rfl
  · exact .cons .fl (.cons .fl .nil)
  · intro r h' s x
    rw [List.flatten_cons,List.flatten_cons,List.flatten_nil,List.append_nil,←List.map_append,←e1] at s
    simp (disch:=omega)only[go_sem, *]
    exact Sl.froze (L:=sealR B) s (fun _=>rfl) trivial (by simp [sealR];omega)
theorem cloneB_ev {xs:List (List V)}:Pf tp i_Q58 [.fl 1 xs] (.fl 1 xs):=by
  refine Pf_go fn_Q58 (by simp [t_Q58]) fun rp=>?_;unfold t_Q58;simp (disch:=omega)only[go_sem, *]
  have hb:=rp.head.big
  intro t ht
  cases t
  · simp (disch:=omega)only[go_sem, *]
    refine app_rule (R:=[]) (Sl.nil' 0 _ _) (Nat.le_refl _) (Nat.le_refl _) (by simp;omega) ?_
    intro w h4 s4 g4
    simp (disch:=omega)only[go_sem, *]
    exact s4.froze' rp.head.frzr trivial (by simp;omega)
  · simp (disch:=omega)only[go_sem, *]
    have:xs=[]:=by
      rcases List.eq_nil_or_concat xs with h | ⟨l,a,h⟩
      · exact h
      · exact absurd (ht (by rw [h];simp)) (by simp)
    rw [this]
theorem equalB_ev {L M:List Int}:Pf tp i_Q35 [.fl 1 (L.map encB),.fl 1 (M.map encB)] (.b (decide (L=M))):=by
  refine Pf_go fn_Q35 (by simp [t_Q35]) fun rp=>?_;unfold t_Q35;simp (disch:=omega)only[go_sem, *]
  have hL:=rp.head.len
  have hM:=rp.tail.head.len
  refine Wb_dec (fun hc=>?_) (fun hc=>?_)
  · simp (disch:=omega)only[go_sem, *]
    simp only [false_eq_decide_iff]
    rintro rfl;exact hc rfl
  · simp (disch:=omega)only[go_sem, *]
    refine ZC_loop_n (fun n e h=>∃ (i:Nat),n=L.length - i∧h.lim=0∧e 0=.fl 1 (L.map encB)∧e 1=.fl 1 (M.map encB)∧e 12=.i .i64 L.length∧e 13=.i .i64 i∧i≤L.length∧L.take i=M.take i) ?_ _ _ _ ⟨0,rfl, ?_⟩
    · rintro n e h ⟨i,rfl,hl,e0,e1,e12,e13,hi,hz⟩ ih
      rw [ZC_unf Q35_9.eq_1]
      simp (disch:=omega)only[go_sem, *]
      refine Wb_dec (fun hc2=>?_) (fun hc2=>?_)
      · simp (disch:=omega)only[go_sem, *]
        refine Wb_dec (fun hc3=>?_) (fun hc3=>?_)
        · simp (disch:=omega)only[go_sem, *]
          simp only [false_eq_decide_iff]
          exact eq_no (i:=i) (by omega) hc3
        · have he:=Decidable.not_not.1 hc3
          simp (disch:=omega)only[go_sem, *]
          refine ih _ _ _ ?_ ⟨i+1,rfl, ?_⟩
          · omega
          · simp (disch:=omega)only[go_sem, *]
            ((repeat' refine And.intro ?_ ?_)<;>first | omega | assumption | (exact eq_step (by omega) (by omega) hz he))
      · simp (disch:=omega)only[go_sem, *]
        simp only [true_eq_decide_iff]
        rw [List.take_of_length_le (by omega),List.take_of_length_le (by omega)] at hz
        exact hz
    · simp (disch:=omega)only[go_sem, *]
      first | done | simp
def openR (B:List Int):List Int×Bool:=if 4≤B.length∧tailR (sumR (B.take (B.length - 4)))=B.drop (B.length - 4) then (B.take (B.length - 4),true) else ([],false)
theorem sumOpen_ev {B:List Int}:Pf tp i_Q32 [.fl 1 (B.map encB)] (.tup [.fl 1 ((openR B).1.map encB),.b (openR B).2]):=by
  refine Pf_go fn_Q32 (by simp [t_Q32]) fun rp=>?_
  have hL:=rp.head.len
  unfold t_Q32
  simp (disch:=omega)only[go_sem, *]
  refine Wg_dec (fun hc=>?_) (fun hc=>?_)
  · have h4:openR B=([],false):=by unfold openR;rw [if_neg (by omega)]
    simp (disch:=omega)only[go_sem, *]
  · have ht:((B.length:Int) - 4).toNat=B.length - 4:=by omega
    have mt:∀ n,List.take n (B.map encB)=(B.take n).map encB:=fun n=>List.map_take.symm
    have md:∀ n,List.drop n (B.map encB)=(B.drop n).map encB:=fun n=>List.map_drop.symm
    have mk:List.take (B.length - (B.length - 4)) ((B.drop (B.length - 4)).map encB)=(B.drop (B.length - 4)).map encB:=List.take_of_length_le (by simp)
    simp (disch:=omega)only[go_sem, *]
    refine Pf.go (sumOf_ev) (by simp only [go_sem]) fun _=>?_;simp (disch:=omega)only[go_sem, *]
    refine Pf.go (sumTail_ev) (by simp only [go_sem]) fun _=>?_;simp (disch:=omega)only[go_sem, *]
    refine Pf.go (equalB_ev) (by simp only [go_sem]) fun _=>?_;simp (disch:=omega)only[go_sem, *]
    refine Wb_of (fun h5=>?_) (fun h5=>?_)
    · have h4:openR B=([],false):=by unfold openR;rw [if_neg (by simp at h5;exact fun q=>h5 q.2)]
      clear h5
      simp (disch:=omega)only[go_sem, *]
    · have h4:openR B=(B.take (B.length - 4),true):=by unfold openR;rw [if_pos ⟨by omega,by simpa using h5⟩]
      clear h5
      simp (disch:=omega)only[go_sem, *]
      refine Pf.go (cloneB_ev) (by simp only [go_sem]) fun _=>?_;simp (disch:=omega)only[go_sem, *]
end Go.Ab.T
namespace Go.Ab.T
open Go Go.Ab
set_option maxHeartbeats 2000000
theorem great_ev {n:Int}:Pf tp i_Q104 [.i .i64 n] (.i .u64 (u0 n)):=by
  refine Pf_go fn_Q104 (by simp [t_Q104]) fun rp=>?_;unfold t_Q104;simp (disch:=omega)only[go_sem, *]
  refine Wb_dec (fun hc=>?_) (fun hc=>?_)
  · have hu0:u0 n=IntKind.wrap .u64 (0 - IntKind.wrap .u64 n):=if_pos hc
    simp (disch:=omega)only[go_sem, *]
  · have hu0:u0 n=IntKind.wrap .u64 n:=if_neg hc
    simp (disch:=omega)only[go_sem, *]
def RevAt (L M:List Int) (i:Nat):Prop:=M.length=L.length∧∀ t,t<L.length→nth M t=if t<i∨L.length<t+i+1 then nth L (L.length - 1 - t) else nth L t
theorem RevAt.done {L M:List Int} {i:Nat} (r:RevAt L M i) (h:L.length≤2*i+1):M=L.reverse:=by
  apply List.ext_getElem (by simp [r.1])
  intro t h1 h2
  have h3:t<L.length:=by have:=r.1;omega
  have:=r.2 t h3
  rw [List.getElem_reverse]
  have e1:nth M t=M[t]:=by have:=nth_get h1;rw [List.getElem?_eq_getElem h1] at this;exact (Option.some.inj this).symm
  have e2:∀ k (hk:k<L.length),nth L k=L[k]:=fun k hk=>by have:=nth_get hk;rw [List.getElem?_eq_getElem hk] at this;exact (Option.some.inj this).symm
  rw [← e1,this]
  by_cases h4:t<i∨L.length<t+i+1
  · rw [if_pos h4,e2]
  · rw [if_neg h4,e2 _ h3]
    congr 1
    omega
theorem nth_setB {l:List Int} {i j:Nat} {a:Int} (hj:j<l.length):nth (l.set i a) j=if i=j then a else nth l j:=by
  unfold nth List.getD
  rw [List.getElem?_set]
  split
  · rename_i h;subst h;simp [hj]
  · rfl
theorem RevAt.step {L M:List Int} {i:Nat} (r:RevAt L M i) (h:2*i+1<L.length):RevAt L ((M.set i (nth M (L.length - 1 - i))).set (L.length - 1 - i) (nth M i)) (i+1):=by
  refine ⟨by simp [r.1],fun t ht=>?_⟩
  have r1:=r.1
  have v1:nth M i=nth L i:=by rw [r.2 i (by omega),if_neg (by omega)]
  have v2:nth M (L.length - 1 - i)=nth L (L.length - 1 - i):=by rw [r.2 _ (by omega),if_neg (by omega)]
  rw [nth_setB (by rw [List.length_set];omega),nth_setB (by omega),v1,v2,r.2 t ht]
  by_cases h1:L.length - 1 - i=t
  · rw [if_pos h1,if_pos (by omega)];congr 1;omega
  · rw [if_neg h1]
    by_cases h2:i=t
    · rw [if_pos h2,if_pos (by omega)];congr 1;omega
    · rw [if_neg h2]
      by_cases h3:t<i∨L.length<t+i+1
      · rw [if_pos h3,if_pos (by omega)]
      · rw [if_neg h3,if_neg (by omega)]
theorem reverse_ev {m : Nat} {h : AH} {v : V} {L : List Int} {K : V → AH → Prop} (hlo : h.lim ≤ m) (s : Sl m h 1 v (L.map encB)) (hL : L.length < 4000000000)
    (kk:∀ h',Sl m h' 1 v (L.reverse.map encB)→h'.next=h.next→h'.lim=h.lim→(∀ i,i<m→h'.get i=h.get i)→K (.tup []) h'):Cq tp i_Q105 [v] h K:=by
  refine Cq_raw_go fn_Q105 (by simp [t_Q105]) fun wf rp=>?_
  unfold t_Q105
  obtain ⟨vlen,vbig,vlt,vlo,vget,vat,vrow,vcell,vcells⟩:=s.facts
  clear vget vrow
  simp (disch:=omega)only[go_sem, *]
  refine ZC_loop_n (fun n' e hh=>∃ (i:Nat) (M:List Int),n'=L.length - i∧hh.lim=h.lim∧hh.next=h.next∧e 0=v∧e 2=.i .i64 i∧e 3=.i .i64 ((L.length:Int) - 1 - i)∧2*i≤L.length+1∧Sl m hh 1 v (M.map encB)∧(∀ j,j<m→hh.get j=h.get j)∧RevAt L M i) ?_ _ _ _ ⟨0,L,rfl, ?_⟩
  · rintro n' e hh ⟨i,M,rfl,hl,hn,e0,e2,e3,hi,s,fr,ra⟩ ih
    obtain ⟨wlen,wbig,wlt,wlo,wget,wat,wrow,wcell,wcells⟩:=s.facts
    have hML:=ra.1
    rw [ZC_unf Q105_4.eq_1]
    simp (disch:=omega)only[go_sem, *]
    refine Wb_dec (fun hc=>?_) (fun hc=>?_)
    · have w1:=wlt (by omega)
      have w2:=wlo (by omega)
      have w3:=wget (by omega)
      have w4:=fun cs=>wat .i64 i cs (by omega) (by omega)
      have w5:=fun cs=>wat .i64 ((L.length:Int) - 1 - i) cs (by omega) (by omega)
      have ei:((L.length:Int) - 1 - i).toNat=L.length - 1 - i:=by omega
      have r1:=wrow i (by omega)
      have r2:=wrow (L.length - 1 - i) (by omega)
      clear wlt wlo wget wat wrow
      simp only [encB,ei,Int.toNat_natCast] at r1 r2 w4 w5
      have s1:=Sl.setT (x:=nth M (L.length - 1 - i)) s (show i<M.length by omega) (Nat.le_refl _) (h':=hh.put (idV v) ⟨1,(csOf hh v).set (elV v+i) (encB (nth M (L.length - 1 - i)))⟩) (by rw [get_put,gsel_eq rfl])
      have c1:csOf (hh.put (idV v) ⟨1,(csOf hh v).set (elV v+i) (encB (nth M (L.length - 1 - i)))⟩) v=(csOf hh v).set (elV v+i) (encB (nth M (L.length - 1 - i))):=by simp only [csOf,get_put,gsel_eq]
      have s2:=Sl.setT (x:=nth M i) s1 (show L.length - 1 - i<_ by simp;omega) (Nat.le_refl _) (h':=(hh.put (idV v) ⟨1,(csOf hh v).set (elV v+i) (encB (nth M (L.length - 1 - i)))⟩).put (idV v) ⟨1,((csOf hh v).set (elV v+i) (encB (nth M (L.length - 1 - i)))).set (elV v+(L.length - 1 - i)) (encB (nth M i))⟩) (by rw [get_put,gsel_eq rfl,c1])
      have ra2:=ra.step (by omega)
      simp only [encB,put_put] at s2
      clear s1 c1 s
      simp (disch:=omega)only[go_sem, *]
      refine ih _ _ _ ?_ ⟨i+1,(M.set i (nth M (L.length - 1 - i))).set (L.length - 1 - i) (nth M i),rfl, ?_⟩
      · omega
      · clear ih kk
        simp (disch:=omega)only[go_sem, *]
        ((repeat' refine And.intro ?_ ?_)<;>first | omega | assumption | ((congr 1;omega)) | (exact s2) | ((intro j hj;rw [gsel_ne (by omega)];exact fr j hj)))
    · have hz:=ra.done (by omega)
      rw [hz] at s
      simp (disch:=omega)only[go_sem, *]
  · simp (disch:=omega)only[go_sem, *]
    exact ⟨fun _ _=>trivial,rfl,fun t ht=>by rw [if_neg (by omega)]⟩
def lowGo:Nat→Int→List Int
  | 0,_=>[]
  | f+1,u=>if 0<u then IntKind.wrap .u8 u::lowGo f (u.fdiv 256) else []
theorem lowGo_put:∀ (f:Nat) (u:Int) (x:List Int),(lowGo f u).reverse++x=putGo f u x
  | 0,_,_=>rfl
  | f+1,u,x=>by
    unfold lowGo putGo
    by_cases h:0<u
    · rw [if_pos h,if_pos h,List.reverse_cons,List.append_assoc];exact lowGo_put f _ _
    · rw [if_neg h,if_neg h];rfl
theorem cput_6 {K : Ex → Env → AH → Prop} {e : Env} {h h' : AH} {b : V} {n u : Int} (hlo : h.lim ≤ h.next) (hu0 : 0 ≤ u) (hu1 : u < 18446744073709551616) (x0 : Ext h h') (e0 : e 0 = b) (e1 : e 1 = .i .i64 n) (e6 : e 6 = .i .u64 u) (e5 : e 5 = .ns)
    (kk:∀ e' h2 v,e' 0=b→e' 1=.i .i64 n→e' 5=v→Ext h h2→Sl h.next h2 1 v ((lowGo 8 u).map encB)→K (.ex 0) e' h2):ZC tp (.loop Q90_6) e h' K:=by
  have hs:=shr8
  refine ZC_loop_n (fun n' e hh=>∃ (f:Nat) (w:Int) (v:V) (x:List Int),n'=f∧Ext h hh∧e 0=b∧e 1=.i .i64 n∧e 6=.i .u64 w∧e 5=v∧0≤w∧w<256 ^ f∧x.length+f≤8∧Sl h.next hh 1 v (x.map encB)∧x++lowGo f w=lowGo 8 u) ?_ _ _ _ ⟨8,u,.ns,[],rfl,x0,e0,e1,e6,e5,hu0,by omega,by simp,Sl.nil _ _ _,rfl⟩
  clear e0 e1 e6 e5 e x0
  rintro n' e hh ⟨f,w,v,x,hf,xx,e0,e1,e6,e5,hw0,hw1,hl,s,hz⟩ ih
  have hlm:=xx.lim
  have hnx:=xx.next
  rw [ZC_unf Q90_6.eq_1]
  simp (disch:=omega)only[go_sem, *]
  refine Wb_dec (fun hc=>?_) (fun hc=>?_)
  · cases f with
    | zero=>simp at hw1;omega
    | succ f=>
      subst hf
      have hz2:(x++[IntKind.wrap .u8 w])++lowGo f (w.fdiv 256)=lowGo 8 u:=by rw [← hz,lowGo,if_pos hc,List.append_assoc];rfl
      have hd:w.fdiv 256=w / 256:=Int.fdiv_eq_ediv_of_nonneg _ (by omega)
      have hp:(256:Int) ^ (f+1)=256 ^ f*256:=Int.pow_succ ..
      have hd1:0≤w.fdiv 256:=by rw [hd];omega
      have hd2:w.fdiv 256<256 ^ f:=by rw [hd];omega
      clear hz hd hp
      simp (disch:=omega)only[go_sem, *]
      refine app_rule (N:=[encB (IntKind.wrap .u8 w)]) (s.alloc ⟨1,[encB (IntKind.wrap .u8 w)]⟩) (by first | omega | (simp (disch:=omega)only[go_sem, *]<;>omega)) (by first | omega | (simp (disch:=omega)only[go_sem, *]<;>omega)) (by simp;omega) ?_
      intro r h4 s4 g4
      have x4:Ext h h4:=⟨by have:=g4.next;rw [next_alloc] at this;omega,by rw [g4.lim,lim_alloc];exact hlm,fun j hj=>by rw [g4.low j hj,get_alloc,gsel_ne (by omega)];exact xx.get j hj⟩
      have s5:Sl h.next h4 1 r ((x++[IntKind.wrap .u8 w]).map encB):=by simpa using s4
      clear s4 g4
      simp (disch:=omega)only[go_sem, *]
      refine ih _ _ _ ?_ ⟨f,w.fdiv 256,r,x++[IntKind.wrap .u8 w],rfl, ?_⟩
      · omega
      · have hl5:(x++[IntKind.wrap .u8 w]).length+f≤8:=by simp only [List.length_append,List.length_singleton];omega
        clear ih kk
        simp (disch:=omega)only[go_sem, *]
        all_goals ((repeat' refine And.intro ?_ ?_)<;>first | omega | assumption | (exact x4) | (exact s5) | (exact hl5) | (exact hz2))
  · have h0:w=0:=by omega
    have hz2:x=lowGo 8 u:=by
      rw [← hz]
      cases f<;>simp [lowGo,h0]
    rw [hz2] at s
    simp (disch:=omega)only[go_sem, *]
    exact kk _ _ v e0 e1 e5 xx s
theorem cput_ev {h : AH} {b : V} {B : List Int} {n : Int} {K : V → AH → Prop} (hlo : h.lim ≤ h.next) (rb : RB 1 h b (B.map encB)) (hb1 : b.isCell = true) (hb2 : b.cells = [b]) (hB : B.length < 900000)
    (kk:∀ r h',Sl h.next h' 1 r ((putR B n).map encB)→Ext h h'→K r h'):Cq tp i_Q90 [b,.i .i64 n] h K:=by
  refine Cq_raw_go fn_Q90 (by simp [t_Q90]) fun wf rp=>?_
  unfold t_Q90
  have hu:=u0_bd n
  simp (disch:=omega)only[go_sem, *]
  refine Pf.go (great_ev) (by simp only [go_sem]) fun _=>?_;simp (disch:=omega)only[go_sem, *]
  refine cput_6 (b:=b) (n:=n) (u:=u0 n) hlo hu.1 hu.2 (Ext.refl h) (by simp (disch:=omega)only[go_sem, *]) (by simp (disch:=omega)only[go_sem, *]) (by simp (disch:=omega)only[go_sem, *]) (by simp (disch:=omega)only[go_sem, *]) ?_
  intro e' h2 v f0 f1 f5 x2 s2
  have hlm:=x2.lim
  have hnx:=x2.next
  have hx:=lowGo_put 8 (u0 n) []
  rw [List.append_nil] at hx
  have hxl:(lowGo 8 (u0 n)).length≤8:=by have:=putX_len n;rw [putX,←hx,List.length_reverse] at this;exact this
  simp (disch:=omega)only[go_sem, *]
  refine reverse_ev (m:=h.next) (by omega) s2 (by omega) ?_
  intro h3 s3 n3 l3 g3
  have hk:(lowGo 8 (u0 n)).reverse=putX n:=hx
  rw [hk] at s3
  have hpl:=putX_len n
  have x3:Ext h h3:=⟨by omega,by omega,fun i hi=>by rw [g3 i hi];exact x2.get i hi⟩
  obtain ⟨vlen,_,_,_,_,_,_,vc1,vc2⟩:=s3.facts
  have hl2:h2.lim≤h2.next:=by have:=x3.lim;have:=x3.next;omega
  clear x2 s2 g3 hlm hnx hx hxl hk hu
  simp (disch:=omega)only[go_sem, *]
  refine Wb_dec (fun hc=>?_) (fun hc=>?_)
  · have hkr:putR B n=B++[IntKind.wrap .u8 (IntKind.wrap .u8 ((putX n).length:Int)+128)]++putX n:=by unfold putR;rw [if_pos hc,Int.add_comm]
    rw [hkr] at kk
    have sk:Sl 0 (h3.alloc ⟨1,[(IntKind.wrap .u8 (IntKind.wrap .u8 ((putX n).length:Int)+128))].map encB⟩) 1 (.sl h2.next 0 1 1) ([(IntKind.wrap .u8 (IntKind.wrap .u8 ((putX n).length:Int)+128))].map encB):=by rw [← n3];exact Sl.new (Nat.zero_le _) (by simp)
    simp only [List.map_cons,List.map_nil,encB] at sk
    simp (disch:=omega)only[go_sem, *]
    refine catB_ev (vs:=[b,.sl h2.next 0 1 1,v]) (Rs:=[B.map encB,[(IntKind.wrap .u8 (IntKind.wrap .u8 ((putX n).length:Int)+128))].map encB,(putX n).map encB]) ?_ ?_ ?_ (by simp) (by simp;omega) ?_
    · simp (disch:=omega)only[go_sem, *]<;>omega
    · exact rowsOf_sl (by simp (disch:=omega)only[go_sem, *]<;>rfl) (by simp (disch:=omega)only[go_sem, *]<;>omega) rfl
    · refine .cons (rb.ext ((x3.alloc _).alloc _)) (.cons (.sl (Sl.alloc sk _)) (.cons (.sl ((s3.alloc _).alloc _)) .nil))
    · intro r h' s x
      rw [show [B.map encB,[(IntKind.wrap .u8 (IntKind.wrap .u8 ((putX n).length:Int)+128))].map encB,(putX n).map encB].flatten=(B++[IntKind.wrap .u8 (IntKind.wrap .u8 ((putX n).length:Int)+128)]++putX n).map encB by simp] at s
      have xx:=((x3.alloc _).alloc _).trans x
      have s':=Sl.weak s (b':=h.next) (by have:=x3.next;simp only [next_alloc];omega)
      clear s x x3 sk
      simp (disch:=omega)only[go_sem, *]
  · have hkr:putR B n=B++[IntKind.wrap .u8 ((putX n).length:Int)]++putX n:=by unfold putR;rw [if_neg hc,Int.zero_add,wrap_u8,wrap_u8];simp
    rw [hkr] at kk
    have sk:Sl 0 (h3.alloc ⟨1,[(IntKind.wrap .u8 ((putX n).length:Int))].map encB⟩) 1 (.sl h2.next 0 1 1) ([(IntKind.wrap .u8 ((putX n).length:Int))].map encB):=by rw [← n3];exact Sl.new (Nat.zero_le _) (by simp)
    simp only [List.map_cons,List.map_nil,encB] at sk
    simp (disch:=omega)only[go_sem, *]
    refine catB_ev (vs:=[b,.sl h2.next 0 1 1,v]) (Rs:=[B.map encB,[(IntKind.wrap .u8 ((putX n).length:Int))].map encB,(putX n).map encB]) ?_ ?_ ?_ (by simp) (by simp;omega) ?_
    · simp (disch:=omega)only[go_sem, *]<;>omega
    · exact rowsOf_sl (by simp (disch:=omega)only[go_sem, *]<;>rfl) (by simp (disch:=omega)only[go_sem, *]<;>omega) rfl
    · refine .cons (rb.ext ((x3.alloc _).alloc _)) (.cons (.sl (Sl.alloc sk _)) (.cons (.sl ((s3.alloc _).alloc _)) .nil))
    · intro r h' s x
      rw [show [B.map encB,[(IntKind.wrap .u8 ((putX n).length:Int))].map encB,(putX n).map encB].flatten=(B++[IntKind.wrap .u8 ((putX n).length:Int)]++putX n).map encB by simp] at s
      have xx:=((x3.alloc _).alloc _).trans x
      have s':=Sl.weak s (b':=h.next) (by have:=x3.next;simp only [next_alloc];omega)
      clear s x x3 sk
      simp (disch:=omega)only[go_sem, *]
theorem Pf_of_Cq {tp:TP} {f:Nat} {args:List V} {R:V} (z:Cq tp f args AH.emp (fun r h'=>Frz (fun _=>True) h' 0 r R)):Pf tp f args R:=by
  intro S m hc args1 c p
  refine (z S m hc args1 c p).imp ?_
  rintro r1 hc' ⟨r,h',S',m',c',a',pr,fz⟩
  refine ⟨R,AH.emp,SP S' m' h' (fun _=>True),m',Cfg.emp (SP.low c') c'.bnd m',⟨fun a h=>.inl (a'.sub a h), ?_,a'.map,Nat.le_refl _,a'.next1,rfl,a'.lim1,a'.frame,fun i hi=>by simp [AH.live,AH.emp] at hi⟩,Frz.ok c' fz pr,rfl,rfl⟩
  rintro a (ha | ⟨i,_,hi,rfl⟩)
  · exact a'.new a ha
  · rcases a'.liv i hi with ⟨q1,q2⟩ | q1
    · exact absurd q1 (Nat.not_lt_zero _)
    · exact .inr (.inl q1)
theorem cputP_ev {B:List Int} {n:Int} (hB:B.length<900000):Pf tp i_Q90 [.fl 1 (B.map encB),.i .i64 n] (.fl 1 ((putR B n).map encB)):=
  Pf_of_Cq (cput_ev (Nat.le_refl _) .fl rfl rfl hB fun r h' s _=>Sl.froze s (fun _=>rfl) trivial (by have:=putR_len B n;omega))
theorem cflag_ev {B:List Int} {f:Bool} (hB:B.length<900000):Pf tp i_Q57 [.fl 1 (B.map encB),.b f] (.fl 1 ((flagR B f).map encB)):=by
  refine Pf_go fn_Q57 (by simp [t_Q57]) fun rp=>?_;unfold t_Q57;simp (disch:=omega)only[go_sem, *]
  cases f
  · simp (disch:=omega)only[go_sem, *]
    refine Pf.go (cputP_ev (n:=0) hB) (by simp only [go_sem]) fun _=>?_;simp (disch:=omega)only[go_sem, *]
    rfl
  · simp (disch:=omega)only[go_sem, *]
    refine Pf.go (cputP_ev (n:=1) hB) (by simp only [go_sem]) fun _=>?_;simp (disch:=omega)only[go_sem, *]
    rfl
theorem cclip_ev {xs:List (List V)}:Pf tp i_Q91 [.fl 1 xs] (.fl 1 xs):=by
  refine Pf_go fn_Q91 (by simp [t_Q91]) fun rp=>?_;unfold t_Q91;simp (disch:=omega)only[go_sem, *]
theorem ctext_ev {B:List Int} {s:ByteArray} (hB:B.length<900000) (hs:s.size<2000):Pf tp i_Q56 [.fl 1 (B.map encB),.s s] (.fl 1 ((putR B s.size++sB s).map encB)):=by
  refine Pf_go fn_Q56 (by simp [t_Q56]) fun rp=>?_;unfold t_Q56;simp (disch:=omega)only[go_sem, *]
  refine cput_ev (B:=B) (Nat.le_refl _) .fl rfl rfl hB ?_
  intro r h' sr x
  have hr:=bytesV_sB s
  have hl:=sB_len s
  have hpl:=putR_len B s.size
  have hlm:=x.lim
  simp (disch:=omega)only[go_sem, *]
  refine app_rule sr ?_ ?_ ?_ ?_
  · rw [hlm];exact Nat.le_refl _
  · exact x.next
  · simp;omega
  intro w h4 s4 g4
  rw [← List.map_append] at s4
  simp (disch:=omega)only[go_sem, *]
  refine Pf.take [idV w] (cclip_ev (xs:=(putR B s.size++sB s).map encB)) (.cons _ _ _ _ _ (Sl.froze s4 (fun _=>rfl) (by simp) (by simp;omega)) (.nil _)) fun _=>?_
  simp (disch:=omega)only[go_sem, *]
end Go.Ab.T
namespace Go.Ab.T
open Go Go.Ab
set_option maxHeartbeats 2000000
theorem nums_ev {B L:List Int} (hB:B.length+9*L.length<900000):Pf tp i_Q55 [.fl 1 (B.map encB),.fl 1 (L.map encI)] (.fl 1 ((L.foldl putR B).map encB)):=by
  refine Pf_go fn_Q55 (by simp [t_Q55]) fun rp=>?_;unfold t_Q55;simp (disch:=omega)only[go_sem, *]
  refine ZC_loop_n (fun n e h=>∃ (i:Nat) (D:List Int),n=L.length - i∧h.lim=0∧e 7=.fl 1 (L.map encI)∧e 8=.i .i64 L.length∧e 9=.i .i64 i∧e 0=.fl 1 (D.map encB)∧i≤L.length∧D.length≤B.length+9*i∧(L.drop i).foldl putR D=L.foldl putR B) ?_ _ _ _ ⟨0,B,rfl, ?_⟩
  · rintro n e h ⟨i,D,rfl,hl,e7,e8,e9,e0,hi,hd,hz⟩ ih
    rw [ZC_unf Q55_6.eq_1]
    simp (disch:=omega)only[go_sem, *]
    refine Wb_dec (fun hc=>?_) (fun hc=>?_)
    · rw [drop_nth (by omega),List.foldl_cons] at hz
      have hp:=putR_len D (nth L i)
      have hcall:=cputP_ev (B:=D) (n:=nth L i) (by omega)
      simp (disch:=omega)only[go_sem, *]
      refine Pf.go (hcall) (by simp only [go_sem]) fun _=>?_;simp (disch:=omega)only[go_sem, *]
      refine ih _ _ _ ?_ ⟨i+1,putR D (nth L i),rfl, ?_⟩
      · omega
      · simp (disch:=omega)only[go_sem, *]
        ((repeat' refine And.intro ?_ ?_)<;>first | omega | assumption)
    · rw [List.drop_eq_nil_of_le (by omega),List.foldl_nil] at hz
      simp (disch:=omega)only[go_sem, *]
  · simp (disch:=omega)only[go_sem, *]
theorem kills_one {h:AH} {a:Nat}:h.kills [a]=h.kill a:=by
  unfold AH.kills AH.kill
  congr 1
  funext i
  simp
attribute [go_sem] kills_one
theorem nums_call {h:AH} {K:V→AH→Prop} {B:List Int} (L:List Int) {id n:Nat} (hg:h.get id=some ⟨1,L.map encI⟩) (hn:n=L.length) (hB:B.length+9*L.length<900000) (kk:K (.fl 1 ((L.foldl putR B).map encB)) (h.kill id)):Cq tp i_Q55 [.fl 1 (B.map encB),.sl id 0 n n] h K:=by
  subst hn
  refine Pf.take [id] (nums_ev hB) (.cons _ _ _ _ _ (.fl _ _ _) (.cons _ _ _ _ _ (.sl _ _ _ _ _ _ _ _ (by simp) hg (by simp) (Nat.le_refl _) (by simp [frzLen];omega) ?_) (.nil _))) fun _=>?_
  · rw [List.drop_zero,List.take_of_length_le (by simp)]
    exact Frzr.of_map (fun _=>rfl) L
  · rw [kills_one];exact kk
end Go.Ab.T
namespace Go.Ab.T
open Go Go.Ab
set_option maxHeartbeats 4000000
theorem body_12 {K : Ex → Env → AH → Prop} {e : Env} {h' : AH} {B : List Int} {L : List Proc} {k k5 : Blk} {b5 : Nat} {v24 v25 : V} {i26 : Int} (hl : h'.lim = 0) (hn : b5 < h'.next) (hn0 : 0 < h'.next) (g0 : h'.get 0 = some k) (g5 : h'.get b5 = some k5) (hB : B.length + 18 * L.length < 900000)
    (e1:e 1=.p 0 0 0) (e3:e 3=.fl 1 (B.map encB)) (e5:e 5=.p b5 0 0) (e24:e 24=v24) (e25:e 25=v25) (e26:e 26=.i .i64 i26) (e53:e 53=.fl 2 (L.map Proc.enc)) (e54:e 54=.i .i64 L.length) (e55:e 55=.i .i64 0)
    (kk:∀ (e:Env) (h:AH),h.lim=0→b5<h.next→0<h.next→h.get 0=some k→h.get b5=some k5→e 1=.p 0 0 0→e 3=.fl 1 ((L.foldl fProc B).map encB)→e 5=.p b5 0 0→e 24=v24→e 25=v25→e 26=.i .i64 i26→K (.ex 2) e h):ZC tp (.loop Q31_12) e h' K:=by
  refine ZC_loop_n (fun n' e hh=>∃ (i:Nat) (D:List Int),n'=L.length - i∧hh.lim=0∧b5<hh.next∧0<hh.next∧hh.get 0=some k∧hh.get b5=some k5∧e 1=.p 0 0 0∧e 3=.fl 1 (D.map encB)∧e 5=.p b5 0 0∧e 24=v24∧e 25=v25∧e 26=.i .i64 i26∧e 53=.fl 2 (L.map Proc.enc)∧e 54=.i .i64 L.length∧e 55=.i .i64 i∧i≤L.length∧D.length≤B.length+18*i∧(L.drop i).foldl fProc D=L.foldl fProc B) ?_ _ _ _ ⟨0,B,rfl,hl,hn,hn0,g0,g5,e1,e3,e5,e24,e25,e26,e53,e54,e55,by omega,by omega,rfl⟩
  clear hl hn hn0 g0 g5 e1 e3 e5 e24 e25 e26 e53 e54 e55 e
  rintro n' e hh ⟨i,D,rfl,hl,hn,hn0,g0,g5,e1,e3,e5,e24,e25,e26,e53,e54,e55,hi,hd,hz⟩ ih
  rw [ZC_unf Q31_12.eq_1]
  simp (disch:=omega)only[go_sem, *]
  refine Wb_dec (fun hc=>?_) (fun hc=>?_)
  · rw [drop_nth (by omega),List.foldl_cons] at hz
    have hp:=putR_len D (nth L i).entry
    have hp2:=putR_len (putR D (nth L i).entry) (nth L i).prio
    simp (disch:=omega)only[go_sem, *]
    refine nums_call [(nth L i).entry,(nth L i).prio] ?_ rfl (by simp;omega) ?_
    · simp (disch:=omega)only[go_sem, *]<;>rfl
    have hf:[(nth L i).entry,(nth L i).prio].foldl putR D=fProc D (nth L i):=rfl
    rw [hf]
    simp (disch:=omega)only[go_sem, *]
    refine ih _ _ _ ?_ ⟨i+1,fProc D (nth L i),rfl, ?_⟩
    · omega
    · have hfl:(fProc D (nth L i)).length≤B.length+18*(i+1):=by unfold fProc;omega
      clear ih kk hf
      simp (disch:=omega)only[go_sem, *]
      all_goals ((repeat' refine And.intro ?_ ?_)<;>first | omega | assumption | (skip))
  · rw [List.drop_eq_nil_of_le (by omega),List.foldl_nil] at hz
    subst hz
    simp (disch:=omega)only[go_sem, *]
    exact kk _ _ hl hn hn0 g0 g5 e1 e3 e5 e24 e25 e26
theorem body_18 {K : Ex → Env → AH → Prop} {e : Env} {h' : AH} {B : List Int} {a0 a1 a2 a3 a4 : Int} {k : Blk} {v24 v25 : V} {i26 : Int} (hl : h'.lim = 0) (hn0 : 0 < h'.next) (g0 : h'.get 0 = some k) (hB : B.length + 45 < 900000)
    (e1:e 1=.p 0 0 0) (e3:e 3=.fl 1 (B.map encB)) (e24:e 24=v24) (e25:e 25=v25) (e26:e 26=.i .i64 i26) (e68:e 68=.agg [.i .i64 a0,.i .i64 a1,.i .i64 a2,.i .i64 a3,.i .i64 a4]) (e69:e 69=.i .i64 0)
    (kk:∀ (e:Env) (h:AH),h.lim=0→0<h.next→h.get 0=some k→e 1=.p 0 0 0→e 3=.fl 1 ((putR (putR (putR (putR (putR B a0) a1) a2) a3) a4).map encB)→e 24=v24→e 25=v25→e 26=.i .i64 i26→K (.ex 4) e h):ZC tp (.loop Q31_18) e h' K:=by
  refine ZC_loop ?_
  rw [ZC_unf Q31_18.eq_1]
  simp (disch:=omega)only[go_sem, *]
  have l1:=putR_len B a0
  refine nums_call (B:=B) [a0] ?_ rfl (by simp only [List.length_singleton];omega) ?_
  · simp (disch:=omega)only[go_sem, *]<;>rfl
  simp only [List.foldl_cons,List.foldl_nil]
  simp (disch:=omega)only[go_sem, *]
  refine ZC_loop ?_
  rw [ZC_unf Q31_18.eq_1]
  simp (disch:=omega)only[go_sem, *]
  have l2:=putR_len (putR B a0) a1
  refine nums_call (B:=(putR B a0)) [a1] ?_ rfl (by simp only [List.length_singleton];omega) ?_
  · simp (disch:=omega)only[go_sem, *]<;>rfl
  simp only [List.foldl_cons,List.foldl_nil]
  simp (disch:=omega)only[go_sem, *]
  refine ZC_loop ?_
  rw [ZC_unf Q31_18.eq_1]
  simp (disch:=omega)only[go_sem, *]
  have l3:=putR_len (putR (putR B a0) a1) a2
  refine nums_call (B:=(putR (putR B a0) a1)) [a2] ?_ rfl (by simp only [List.length_singleton];omega) ?_
  · simp (disch:=omega)only[go_sem, *]<;>rfl
  simp only [List.foldl_cons,List.foldl_nil]
  simp (disch:=omega)only[go_sem, *]
  refine ZC_loop ?_
  rw [ZC_unf Q31_18.eq_1]
  simp (disch:=omega)only[go_sem, *]
  have l4:=putR_len (putR (putR (putR B a0) a1) a2) a3
  refine nums_call (B:=(putR (putR (putR B a0) a1) a2)) [a3] ?_ rfl (by simp only [List.length_singleton];omega) ?_
  · simp (disch:=omega)only[go_sem, *]<;>rfl
  simp only [List.foldl_cons,List.foldl_nil]
  simp (disch:=omega)only[go_sem, *]
  refine ZC_loop ?_
  rw [ZC_unf Q31_18.eq_1]
  simp (disch:=omega)only[go_sem, *]
  have l5:=putR_len (putR (putR (putR (putR B a0) a1) a2) a3) a4
  refine nums_call (B:=(putR (putR (putR (putR B a0) a1) a2) a3)) [a4] ?_ rfl (by simp only [List.length_singleton];omega) ?_
  · simp (disch:=omega)only[go_sem, *]<;>rfl
  simp only [List.foldl_cons,List.foldl_nil]
  simp (disch:=omega)only[go_sem, *]
  refine ZC_loop ?_
  rw [ZC_unf Q31_18.eq_1]
  have f:=kk
  clear kk
  simp (disch:=omega)only[go_sem, *]
  refine f _ _ ?_ ?_ ?_ ?_ ?_ ?_ ?_ ?_<;>(simp (disch:=omega)only[go_sem, *]<;>omega)
theorem body_39 {K : Ex → Env → AH → Prop} {e : Env} {h' : AH} {B : List Int} {L : List Node} {v119 v120 : V} {i121 : Int} (hl : h'.lim = 0) (hB : B.length + 27 * L.length < 900000)
    (e3:e 3=.fl 1 (B.map encB)) (e119:e 119=v119) (e120:e 120=v120) (e121:e 121=.i .i64 i121) (e130:e 130=.fl 3 (L.map Node.enc)) (e131:e 131=.i .i64 L.length) (e132:e 132=.i .i64 0)
    (kk:∀ (e:Env) (h:AH),h.lim=0→e 3=.fl 1 ((L.foldl fNode B).map encB)→e 119=v119→e 120=v120→e 121=.i .i64 i121→K (.ex 10) e h):ZC tp (.loop Q31_39) e h' K:=by
  refine ZC_loop_n (fun n' e hh=>∃ (i:Nat) (D:List Int),n'=L.length - i∧hh.lim=0∧e 3=.fl 1 (D.map encB)∧e 119=v119∧e 120=v120∧e 121=.i .i64 i121∧e 130=.fl 3 (L.map Node.enc)∧e 131=.i .i64 L.length∧e 132=.i .i64 i∧i≤L.length∧D.length≤B.length+27*i∧(L.drop i).foldl fNode D=L.foldl fNode B) ?_ _ _ _ ⟨0,B,rfl,hl,e3,e119,e120,e121,e130,e131,e132,by omega,by omega,rfl⟩
  clear hl e3 e119 e120 e121 e130 e131 e132 e
  rintro n' e hh ⟨i,D,rfl,hl,e3,e119,e120,e121,e130,e131,e132,hi,hd,hz⟩ ih
  rw [ZC_unf Q31_39.eq_1]
  simp (disch:=omega)only[go_sem, *]
  refine Wb_dec (fun hc=>?_) (fun hc=>?_)
  · rw [drop_nth (by omega),List.foldl_cons] at hz
    have hp:=putR_len D (nth L i).kind
    have hp2:=putR_len (putR D (nth L i).kind) (nth L i).part
    have hp3:=putR_len (putR (putR D (nth L i).kind) (nth L i).part) (nth L i).n
    simp (disch:=omega)only[go_sem, *]
    refine nums_call [(nth L i).kind,(nth L i).part,(nth L i).n] ?_ rfl (by simp;omega) ?_
    · simp (disch:=omega)only[go_sem, *]<;>rfl
    have hf:[(nth L i).kind,(nth L i).part,(nth L i).n].foldl putR D=fNode D (nth L i):=rfl
    rw [hf]
    simp (disch:=omega)only[go_sem, *]
    refine ih _ _ _ ?_ ⟨i+1,fNode D (nth L i),rfl, ?_⟩
    · omega
    · have hfl:(fNode D (nth L i)).length≤B.length+27*(i+1):=by unfold fNode;omega
      clear ih kk hf
      simp (disch:=omega)only[go_sem, *]
      all_goals ((repeat' refine And.intro ?_ ?_)<;>first | omega | assumption | (skip))
  · rw [List.drop_eq_nil_of_le (by omega),List.foldl_nil] at hz
    subst hz
    simp (disch:=omega)only[go_sem, *]
    exact kk _ _ hl e3 e119 e120 e121
theorem fNode_len (B:List Int):∀ (L:List Node),(L.foldl fNode B).length≤B.length+27*L.length:=fun L=>by
  induction L generalizing B with
  | nil=>simp
  | cons a L ih=>
    have:=ih (fNode B a)
    have h1:=putR_len B a.kind
    have h2:=putR_len (putR B a.kind) a.part
    have h3:=putR_len (putR (putR B a.kind) a.part) a.n
    have hf:(fNode B a).length≤B.length+27:=by unfold fNode;omega
    simp only [List.foldl_cons,List.length_cons]
    omega
theorem body_41 {K : Ex → Env → AH → Prop} {e : Env} {h' : AH} {B : List Int} {L : List (List Node)} (hl : h'.lim = 0) (hB : B.length + 20000 * L.length < 800000) (hT : ∀ t ∈ L, t.length ≤ 710)
    (e3:e 3=.fl 1 (B.map encB)) (e119:e 119=.fl 1 (L.map Tab.enc)) (e120:e 120=.i .i64 L.length) (e121:e 121=.i .i64 0)
    (kk:∀ (e:Env) (h:AH),h.lim=0→e 3=.fl 1 ((L.foldl fTab B).map encB)→K (.ex 8) e h):ZC tp (.loop Q31_41) e h' K:=by
  refine ZC_loop_n (fun n' e hh=>∃ (i:Nat) (D:List Int),n'=L.length - i∧hh.lim=0∧e 3=.fl 1 (D.map encB)∧e 119=.fl 1 (L.map Tab.enc)∧e 120=.i .i64 L.length∧e 121=.i .i64 i∧i≤L.length∧D.length≤B.length+20000*i∧(L.drop i).foldl fTab D=L.foldl fTab B) ?_ _ _ _ ⟨0,B,rfl,hl,e3,e119,e120,e121,by omega,by omega,rfl⟩
  clear hl e3 e119 e120 e121 e
  rintro n' e hh ⟨i,D,rfl,hl,e3,e119,e120,e121,hi,hd,hz⟩ ih
  rw [ZC_unf Q31_41.eq_1]
  simp (disch:=omega)only[go_sem, *]
  refine Wb_dec (fun hc=>?_) (fun hc=>?_)
  · rw [drop_nth (by omega),List.foldl_cons] at hz
    have hp:=putR_len D (nth L i).length
    have ht:=hT _ (nth_mem (L:=L) (j:=i) (by omega))
    have hfl:=fNode_len (putR D (nth L i).length) (nth L i)
    simp (disch:=omega)only[go_sem, *]
    refine nums_call [((nth L i).length:Int)] ?_ rfl (by simp;omega) ?_
    · simp (disch:=omega)only[go_sem, *]<;>rfl
    simp only [List.foldl_cons,List.foldl_nil]
    simp (disch:=omega)only[go_sem, *]
    refine body_39 (B:=putR D (nth L i).length) (L:=nth L i) (v119:=.fl 1 (L.map Tab.enc)) (v120:=.i .i64 L.length) (i121:=i) ?_ (by omega) ?_ ?_ ?_ ?_ ?_ ?_ ?_ ?_
    any_goals (simp (disch:=omega)only[go_sem, *];done)
    clear e3 e119 e120 e121 e hl hh
    intro e hh hl e3 e119 e120 e121
    simp (disch:=omega)only[go_sem, *]
    refine ih _ _ _ ?_ ⟨i+1,fTab D (nth L i),rfl, ?_⟩
    · omega
    · have hfl:(fTab D (nth L i)).length≤B.length+20000*(i+1):=by unfold fTab;omega
      have hf:(nth L i).foldl fNode (putR D (nth L i).length)=fTab D (nth L i):=rfl
      clear ih kk
      rw [hf] at e3
      clear hf
      simp (disch:=omega)only[go_sem, *]
      all_goals ((repeat' refine And.intro ?_ ?_)<;>first | omega | assumption | (skip))
  · rw [List.drop_eq_nil_of_le (by omega),List.foldl_nil] at hz
    subst hz
    simp (disch:=omega)only[go_sem, *]
    exact kk _ _ hl e3
end Go.Ab.T
namespace Go.Ab.T
open Go Go.Ab
set_option maxHeartbeats 4000000
theorem body_28 {K : Ex → Env → AH → Prop} {e : Env} {h' : AH} {B : List Int} {L : List Chan} {k : Blk} (hl : h'.lim = 0) (hn0 : 0 < h'.next) (g0 : h'.get 0 = some k) (hB : B.length + 54 * L.length < 800000)
    (e1:e 1=.p 0 0 0) (e3:e 3=.fl 1 (B.map encB)) (e85:e 85=.fl 6 (L.map Chan.enc)) (e86:e 86=.i .i64 L.length) (e87:e 87=.i .i64 0)
    (kk:∀ (e:Env) (h:AH),h.lim=0→0<h.next→h.get 0=some k→e 1=.p 0 0 0→e 3=.fl 1 ((L.foldl fChan B).map encB)→K (.ex 6) e h):ZC tp (.loop Q31_28) e h' K:=by
  refine ZC_loop_n (fun n' e hh=>∃ (i:Nat) (D:List Int),n'=L.length - i∧hh.lim=0∧0<hh.next∧hh.get 0=some k∧e 1=.p 0 0 0∧e 3=.fl 1 (D.map encB)∧e 85=.fl 6 (L.map Chan.enc)∧e 86=.i .i64 L.length∧e 87=.i .i64 i∧i≤L.length∧D.length≤B.length+54*i∧(L.drop i).foldl fChan D=L.foldl fChan B) ?_ _ _ _ ⟨0,B,rfl,hl,hn0,g0,e1,e3,e85,e86,e87,by omega,by omega,rfl⟩
  clear hl hn0 g0 e1 e3 e85 e86 e87 e
  rintro n' e hh ⟨i,D,rfl,hl,hn0,g0,e1,e3,e85,e86,e87,hi,hd,hz⟩ ih
  rw [ZC_unf Q31_28.eq_1]
  simp (disch:=omega)only[go_sem, *]
  refine Wb_dec (fun hc=>?_) (fun hc=>?_)
  · rw [drop_nth (by omega),List.foldl_cons] at hz
    have p1:=putR_len D (nth L i).src
    have p2:=putR_len (putR D (nth L i).src) (nth L i).dst
    have p3:=flagR_len (putR (putR D (nth L i).src) (nth L i).dst) (nth L i).queue
    have p4:=putR_len (flagR (putR (putR D (nth L i).src) (nth L i).dst) (nth L i).queue) (nth L i).cap
    have p5:=putR_len (putR (flagR (putR (putR D (nth L i).src) (nth L i).dst) (nth L i).queue) (nth L i).cap) (IntKind.wrap .i64 (nth L i).top)
    have p6:=putR_len (putR (putR (flagR (putR (putR D (nth L i).src) (nth L i).dst) (nth L i).queue) (nth L i).cap) (IntKind.wrap .i64 (nth L i).top)) (nth L i).late
    simp (disch:=omega)only[go_sem, *]
    refine nums_call [(nth L i).src,(nth L i).dst] ?_ rfl (by simp;omega) ?_
    · simp (disch:=omega)only[go_sem, *]<;>rfl
    simp only [List.foldl_cons,List.foldl_nil]
    simp (disch:=omega)only[go_sem, *]
    refine Pf.go (cflag_ev (B:=putR (putR D (nth L i).src) (nth L i).dst) (f:=(nth L i).queue) (by omega)) (by simp only [go_sem]) fun _=>?_;simp (disch:=omega)only[go_sem, *]
    refine nums_call (B:=flagR (putR (putR D (nth L i).src) (nth L i).dst) (nth L i).queue) [(nth L i).cap,IntKind.wrap .i64 (nth L i).top,(nth L i).late] ?_ rfl (by simp;omega) ?_
    · simp (disch:=omega)only[go_sem, *]<;>rfl
    have hf:[(nth L i).cap,IntKind.wrap .i64 (nth L i).top,(nth L i).late].foldl putR (flagR (putR (putR D (nth L i).src) (nth L i).dst) (nth L i).queue)=fChan D (nth L i):=rfl
    rw [hf]
    simp (disch:=omega)only[go_sem, *]
    refine ih _ _ _ ?_ ⟨i+1,fChan D (nth L i),rfl, ?_⟩
    · omega
    · have hfl:(fChan D (nth L i)).length≤B.length+54*(i+1):=by unfold fChan;omega
      clear ih kk hf
      simp (disch:=omega)only[go_sem, *]
      all_goals ((repeat' refine And.intro ?_ ?_)<;>first | omega | assumption | (skip))
  · rw [List.drop_eq_nil_of_le (by omega),List.foldl_nil] at hz
    subst hz
    simp (disch:=omega)only[go_sem, *]
    exact kk _ _ hl hn0 g0 e1 e3
theorem fProc_len (B:List Int):∀ (L:List Proc),(L.foldl fProc B).length≤B.length+18*L.length:=fun L=>by
  induction L generalizing B with
  | nil=>simp
  | cons a L ih=>
    have:=ih (fProc B a)
    have h1:=putR_len B a.entry
    have h2:=putR_len (putR B a.entry) a.prio
    have hf:(fProc B a).length≤B.length+18:=by unfold fProc;omega
    simp only [List.foldl_cons,List.length_cons]
    omega
theorem body_20 {K : Ex → Env → AH → Prop} {e : Env} {h' : AH} {B : List Int} {L : List Part} {k : Blk} (hl : h'.lim = 0) (hn0 : 0 < h'.next) (g0 : h'.get 0 = some k) (hB : B.length + 3000 * L.length < 800000) (hP : ∀ p ∈ L, p.name.size < 1000 ∧ p.procs.length ≤ 100)
    (e1:e 1=.p 0 0 0) (e3:e 3=.fl 1 (B.map encB)) (e24:e 24=.fl 11 (L.map Part.enc)) (e25:e 25=.i .i64 L.length) (e26:e 26=.i .i64 0)
    (kk:∀ (e:Env) (h:AH),h.lim=0→0<h.next→h.get 0=some k→e 1=.p 0 0 0→e 3=.fl 1 ((L.foldl fPart B).map encB)→(L.foldl fPart B).length≤B.length+3000*L.length→K (.ex 0) e h):ZC tp (.loop Q31_20) e h' K:=by
  refine ZC_loop_n (fun n' e hh=>∃ (i:Nat) (D:List Int),n'=L.length - i∧hh.lim=0∧0<hh.next∧hh.get 0=some k∧e 1=.p 0 0 0∧e 3=.fl 1 (D.map encB)∧e 24=.fl 11 (L.map Part.enc)∧e 25=.i .i64 L.length∧e 26=.i .i64 i∧i≤L.length∧D.length≤B.length+3000*i∧(L.drop i).foldl fPart D=L.foldl fPart B) ?_ _ _ _ ⟨0,B,rfl,hl,hn0,g0,e1,e3,e24,e25,e26,by omega,by omega,rfl⟩
  clear hl hn0 g0 e1 e3 e24 e25 e26 e
  rintro n' e hh ⟨i,D,rfl,hl,hn0,g0,e1,e3,e24,e25,e26,hi,hd,hz⟩ ih
  rw [ZC_unf Q31_20.eq_1]
  simp (disch:=omega)only[go_sem, *]
  refine Wb_dec (fun hc=>?_) (fun hc=>?_)
  · rw [drop_nth (by omega),List.foldl_cons] at hz
    obtain ⟨hnm,hpl⟩:=hP _ (nth_mem (L:=L) (j:=i) (by omega))
    have hen:(nth L i).enc=[.s (nth L i).name,.i .i64 (nth L i).budget,.i .i64 (nth L i).period,.b (nth L i).sched,.b (nth L i).stop,.fl 2 ((nth L i).procs.map Proc.enc),.i .i64 (nth L i).h0,.i .i64 (nth L i).h1,.i .i64 (nth L i).h2,.i .i64 (nth L i).h3,.i .i64 (nth L i).h4]:=rfl
    have hsl:=sB_len (nth L i).name
    obtain ⟨P1,hP1⟩:∃ x,putR D (nth L i).name.size++sB (nth L i).name=x:=⟨_,rfl⟩
    have l1:P1.length≤D.length+1009:=by have:=putR_len D (nth L i).name.size;rw [← hP1,List.length_append];omega
    have l2:=putR_len P1 (nth L i).budget
    have l3:=putR_len (putR P1 (nth L i).budget) (nth L i).period
    obtain ⟨P2,hP2⟩:∃ x,putR (putR P1 (nth L i).budget) (nth L i).period=x:=⟨_,rfl⟩
    rw [hP2] at l3
    have l4:=flagR_len P2 (nth L i).sched
    have l5:=flagR_len (flagR P2 (nth L i).sched) (nth L i).stop
    have l6:=putR_len (flagR (flagR P2 (nth L i).sched) (nth L i).stop) (nth L i).procs.length
    obtain ⟨P3,hP3⟩:∃ x,putR (flagR (flagR P2 (nth L i).sched) (nth L i).stop) (nth L i).procs.length=x:=⟨_,rfl⟩
    rw [hP3] at l6
    have l7:=fProc_len P3 (nth L i).procs
    have hct:=ctext_ev (B:=D) (s:=(nth L i).name) (by omega) (by omega)
    rw [hP1] at hct
    simp (disch:=omega)only[go_sem, *]
    refine Pf.go (hct) (by simp only [go_sem]) fun _=>?_;simp (disch:=omega)only[go_sem, *]
    refine nums_call (B:=P1) [(nth L i).budget,(nth L i).period] ?_ rfl (by simp;omega) ?_
    · simp (disch:=omega)only[go_sem, *]<;>rfl
    simp only [List.foldl_cons,List.foldl_nil]
    rw [hP2]
    simp (disch:=omega)only[go_sem, *]
    refine Pf.go (cflag_ev (B:=P2) (f:=(nth L i).sched) (by omega)) (by simp only [go_sem]) fun _=>?_;simp (disch:=omega)only[go_sem, *]
    refine Pf.go (cflag_ev (B:=flagR P2 (nth L i).sched) (f:=(nth L i).stop) (by omega)) (by simp only [go_sem]) fun _=>?_;simp (disch:=omega)only[go_sem, *]
    refine nums_call (B:=flagR (flagR P2 (nth L i).sched) (nth L i).stop) [((nth L i).procs.length:Int)] ?_ rfl (by simp;omega) ?_
    · simp (disch:=omega)only[go_sem, *]<;>rfl
    simp only [List.foldl_cons,List.foldl_nil]
    rw [hP3]
    simp (disch:=omega)only[go_sem, *]
    refine body_12 (B:=P3) (L:=(nth L i).procs) (k:=k) (k5:=⟨11,[(nth L i).enc]⟩) (b5:=hh.next) (v24:=.fl 11 (L.map Part.enc)) (v25:=.i .i64 L.length) (i26:=i) ?_ ?_ ?_ ?_ ?_ (by omega) ?_ ?_ ?_ ?_ ?_ ?_ ?_ ?_ ?_ ?_
    any_goals (simp (disch:=omega)only[go_sem, *];done)
    any_goals (simp (disch:=omega)only[go_sem, *]<;>omega)
    clear e1 e3 e24 e25 e26 e hl hn0 g0 hct
    intro e h hl hn5 hn0 g0 g5 e1 e3 e5 e24 e25 e26
    rw [hen] at g5
    have hf:putR (putR (putR (putR (putR ((nth L i).procs.foldl fProc P3) (nth L i).h0) (nth L i).h1) (nth L i).h2) (nth L i).h3) (nth L i).h4=fPart D (nth L i):=by unfold fPart;rw [hP1,hP2,hP3]
    have l8:(fPart D (nth L i)).length≤B.length+3000*(i+1):=by
      rw [← hf]
      have q1:=putR_len ((nth L i).procs.foldl fProc P3) (nth L i).h0
      have q2:=putR_len (putR ((nth L i).procs.foldl fProc P3) (nth L i).h0) (nth L i).h1
      have q3:=putR_len (putR (putR ((nth L i).procs.foldl fProc P3) (nth L i).h0) (nth L i).h1) (nth L i).h2
      have q4:=putR_len (putR (putR (putR ((nth L i).procs.foldl fProc P3) (nth L i).h0) (nth L i).h1) (nth L i).h2) (nth L i).h3
      have q5:=putR_len (putR (putR (putR (putR ((nth L i).procs.foldl fProc P3) (nth L i).h0) (nth L i).h1) (nth L i).h2) (nth L i).h3) (nth L i).h4
      omega
    simp (disch:=omega)only[go_sem, *]
    refine body_18 (B:=(nth L i).procs.foldl fProc P3) (k:=k) (v24:=.fl 11 (L.map Part.enc)) (v25:=.i .i64 L.length) (i26:=i) (a0:=(nth L i).h0) (a1:=(nth L i).h1) (a2:=(nth L i).h2) (a3:=(nth L i).h3) (a4:=(nth L i).h4) hl hn0 g0 (by omega) ?_ ?_ ?_ ?_ ?_ ?_ ?_ ?_
    any_goals (simp (disch:=omega)only[go_sem, *];done)
    clear e1 e3 e5 e24 e25 e26 e hl hn0 g0 g5 hn5 h
    intro e h hl hn0 g0 e1 e3 e24 e25 e26
    rw [hf] at e3
    clear hf hP1 hP2 hP3 hen
    simp (disch:=omega)only[go_sem, *]
    refine ih _ _ _ ?_ ⟨i+1,fPart D (nth L i),rfl, ?_⟩
    · omega
    · clear ih kk
      simp (disch:=omega)only[go_sem, *]
      all_goals ((repeat' refine And.intro ?_ ?_)<;>first | omega | assumption | (exact l8))
  · rw [List.drop_eq_nil_of_le (by omega),List.foldl_nil] at hz
    rw [hz] at e3 hd
    clear hz
    have f:=kk
    clear kk
    simp (disch:=omega)only[go_sem, *]
    exact f _ _ hl hn0 g0 e1 e3 (by omega)
theorem fold_len {α:Type} {f:List Int→α→List Int} {k:Nat} (hf:∀ B a,(f B a).length≤B.length+k):∀ (L:List α) (B:List Int),(L.foldl f B).length≤B.length+k*L.length
  | [],B=>by simp
  | a::L,B=>by
    have:=fold_len hf L (f B a)
    have:=hf B a
    simp only [List.foldl_cons,List.length_cons,Nat.mul_succ]
    omega
theorem nums_call2 {h:AH} {K:V→AH→Prop} (B L:List Int) {i1 id n k:Nat} (hg1:h.get i1=some ⟨1,B.map encB⟩) (hg:h.get id=some ⟨1,L.map encI⟩) (hk:k=B.length) (hn:n=L.length) (hB:B.length+9*L.length<900000) (kk:K (.fl 1 ((L.foldl putR B).map encB)) ((h.kill i1).kill id)):Cq tp i_Q55 [.sl i1 0 k k,.sl id 0 n n] h K:=by
  subst hn
  subst hk
  refine Pf.take [i1,id] (nums_ev hB) (.cons _ _ _ _ _ (.sl _ _ _ _ _ _ _ _ (by simp) hg1 (by simp) (Nat.le_refl _) (by simp [frzLen];omega) ?_) (.cons _ _ _ _ _ (.sl _ _ _ _ _ _ _ _ (by simp) hg (by simp) (Nat.le_refl _) (by simp [frzLen];omega) ?_) (.nil _))) fun _=>?_
  · rw [List.drop_zero,List.take_of_length_le (by simp)]
    exact Frzr.of_map (fun _=>rfl) B
  · rw [List.drop_zero,List.take_of_length_le (by simp)]
    exact Frzr.of_map (fun _=>rfl) L
  · have:h.kills [i1,id]=(h.kill i1).kill id:=by
      unfold AH.kills AH.kill
      congr 1
      funext i
      by_cases h1:i=i1<;>by_cases h2:i=id<;>simp [h1,h2]
    rw [this];exact kk
theorem fChan_len (B:List Int) (x:Chan):(fChan B x).length≤B.length+54:=by
  unfold fChan
  have p1:=putR_len B x.src
  have p2:=putR_len (putR B x.src) x.dst
  have p3:=flagR_len (putR (putR B x.src) x.dst) x.queue
  have p4:=putR_len (flagR (putR (putR B x.src) x.dst) x.queue) x.cap
  have p5:=putR_len (putR (flagR (putR (putR B x.src) x.dst) x.queue) x.cap) (IntKind.wrap .i64 x.top)
  have p6:=putR_len (putR (putR (flagR (putR (putR B x.src) x.dst) x.queue) x.cap) (IntKind.wrap .i64 x.top)) x.late
  omega
theorem body_ev {C:Config} (hC:BytOk C):Pf tp i_Q31 [.agg C.enc] (.fl 1 ((C.tables.foldl fTab (putR (C.chans.foldl fChan (putR (C.parts.foldl fPart (putR [72,79,82,65] C.parts.length)) C.chans.length)) C.tables.length)).map encB)):=by
  obtain ⟨hp,hc,ht,hpp,htt⟩:=hC
  refine Pf_go fn_Q31 (by simp [t_Q31]) fun rp=>?_;unfold t_Q31;simp (disch:=omega)only[go_sem, *]
  refine nums_call2 [72,79,82,65] [(C.parts.length:Int)] ?_ ?_ rfl rfl (by simp) ?_
  · simp (disch:=omega)only[go_sem, *]<;>rfl
  · simp (disch:=omega)only[go_sem, *]<;>rfl
  simp only [List.foldl_cons,List.foldl_nil]
  have l1:=putR_len [72,79,82,65] C.parts.length
  simp only [List.length_cons,List.length_nil] at l1
  generalize putR [72,79,82,65] C.parts.length=P1 at *
  simp (disch:=omega)only[go_sem, *]
  refine body_20 (B:=P1) (L:=C.parts) (k:=⟨3,[C.enc]⟩) ?_ ?_ ?_ (by omega) hpp ?_ ?_ ?_ ?_ ?_ ?_
  any_goals (simp (disch:=omega)only[go_sem, *];done)
  try (any_goals (simp only [Config.enc];simp (disch:=omega)only[go_sem, *];done))
  intro e h hl hn g0 e1 e3 l2
  generalize C.parts.foldl fPart P1=P2 at *
  have l3:=putR_len P2 C.chans.length
  simp only [Config.enc] at g0
  simp (disch:=omega)only[go_sem, *]
  refine nums_call (B:=P2) [(C.chans.length:Int)] ?_ rfl (by simp;omega) ?_
  · simp (disch:=omega)only[go_sem, *]<;>rfl
  simp only [List.foldl_cons,List.foldl_nil]
  generalize putR P2 C.chans.length=P3 at *
  simp (disch:=omega)only[go_sem, *]
  refine body_28 (B:=P3) (L:=C.chans) (k:=⟨3,[C.enc]⟩) ?_ ?_ ?_ (by omega) ?_ ?_ ?_ ?_ ?_ ?_
  any_goals (simp (disch:=omega)only[go_sem, *];done)
  any_goals (simp (disch:=omega)only[go_sem, *]<;>omega)
  have l4:=fold_len fChan_len C.chans P3
  generalize C.chans.foldl fChan P3=P4 at *
  clear e1 e3 hl hn g0 e h
  intro e h hl hn g0 e1 e3
  have l5:=putR_len P4 C.tables.length
  simp only [Config.enc] at g0
  simp (disch:=omega)only[go_sem, *]
  refine nums_call (B:=P4) [(C.tables.length:Int)] ?_ rfl (by simp;omega) ?_
  · simp (disch:=omega)only[go_sem, *]<;>rfl
  simp only [List.foldl_cons,List.foldl_nil]
  generalize putR P4 C.tables.length=P5 at *
  simp (disch:=omega)only[go_sem, *]
  refine body_41 (B:=P5) (L:=C.tables) ?_ (by omega) htt ?_ ?_ ?_ ?_ ?_
  any_goals (simp (disch:=omega)only[go_sem, *];done)
  clear e1 e3 hl hn g0 e h
  intro e h hl e3
  simp (disch:=omega)only[go_sem, *]
end Go.Ab.T
namespace Go.Ab.T
open Go Go.Ab
set_option maxHeartbeats 2000000
theorem whTabs0 {C:Config}:∀ (l:List (List Node)) (i:Nat),(whTabs C i l).1=0→whTabs C i l=(0,-1)
  | [],_,_=>rfl
  | t::l,i,h=>by
    unfold whTabs at h ⊢
    by_cases q:tableR C t≠0
    · rw [if_pos q] at h;exact absurd h q
    · rw [if_neg q] at h ⊢;exact whTabs0 l _ h
theorem whChans0 {C:Config}:∀ (l:List Chan) (i:Nat),(whChans C i l).1=0→whChans C i l=(0,-1)
  | [],_,h=>whTabs0 _ _ h
  | t::l,i,h=>by
    unfold whChans at h ⊢
    by_cases q:chanB C.parts.length t=false
    · rw [if_pos q] at h;cases h
    · rw [if_neg q] at h ⊢;exact whChans0 l _ h
theorem whParts0 {C:Config}:∀ (l:List Part) (i:Nat),(whParts C i l).1=0→whParts C i l=(0,-1)
  | [],_,h=>whChans0 _ _ h
  | p::l,i,h=>by
    unfold whParts at h ⊢
    by_cases q:nameB p.name=false∨(C.parts.take i).any (fun q=>decide (q.name=p.name))=true
    · rw [if_pos q] at h;cases h
    · rw [if_neg q] at h ⊢
      by_cases q2:partB p=false
      · rw [if_pos q2] at h;cases h
      · rw [if_neg q2] at h ⊢;exact whParts0 l _ h
theorem where0 {C:Config} (h:(whereR C).1=0):whereR C=(0,-1):=by
  unfold whereR at h ⊢
  split
  · rename_i q;rw [if_pos q] at h;cases h
  · rename_i q;rw [if_neg q] at h;exact whParts0 _ _ h
theorem nameB_size {s:ByteArray} (h:nameB s=true):s.size≤12:=by
  unfold nameB at h;simp only [decide_eq_true_eq] at h;exact h.2.2
theorem procsB_size {L:List Proc} (h:procsB L=true):1≤L.length∧L.length≤3:=by
  refine ⟨?_, ?_⟩<;>refine Classical.byContradiction fun hn=>?_<;>rw [procsB_no (by omega)] at h<;>cases h
theorem where_byt {C:Config} (h:whereR C=(0,-1)):BytOk C∧NmOk C:=by
  obtain ⟨⟨a1,a2,a3,a4,a5⟩,hg,hc,hT⟩:=where_iff.1 h
  have hp:∀ p∈C.parts,p.name.size≤12∧p.procs.length≤3:=fun p hp=>by
    obtain ⟨j,hj,rfl⟩:=List.getElem_of_mem hp
    have g:=hg j hj
    have e:nth C.parts j=C.parts[j]:=nth_eq hj
    rw [← e]
    refine ⟨nameB_size g.1,(procsB_size ?_).2⟩
    have:=g.2.2
    unfold partB at this
    simp only [Bool.and_eq_true] at this
    exact this.1.1
  refine ⟨⟨by omega,by omega,by omega,fun p q=>by have:=hp p q;omega,fun t ht=>?_⟩,fun p q=>by have:=hp p q;omega⟩
  have g:=hT t ht
  rw [tableR_iff] at g
  have hr:=g.1.right
  unfold rightR at hr
  split at hr
  · cases hr
  · omega
noncomputable def imgR (C:Config):List Int×Int:=if (whereR C).1=0 then (bytesR C,0) else ([],(whereR C).1)
theorem fPart_len {B:List Int} {p:Part} (h1:p.name.size<1000) (h2:p.procs.length≤100):(fPart B p).length≤B.length+3000:=by
  unfold fPart
  have a:=putR_len B p.name.size
  have b:=sB_len p.name
  show _≤B.length+2955+9+9+9+9+9
  refine Nat.le_trans (putR_len _ _) (Nat.add_le_add_right ?_ 9)
  refine Nat.le_trans (putR_len _ _) (Nat.add_le_add_right ?_ 9)
  refine Nat.le_trans (putR_len _ _) (Nat.add_le_add_right ?_ 9)
  refine Nat.le_trans (putR_len _ _) (Nat.add_le_add_right ?_ 9)
  refine Nat.le_trans (putR_len _ _) (Nat.add_le_add_right ?_ 9)
  refine Nat.le_trans (fProc_len _ _) ?_
  refine Nat.le_trans (Nat.add_le_add_left (Nat.mul_le_mul_left 18 h2) _) ?_
  show _≤B.length+1110+9+9+9+9+9+18*100
  refine Nat.add_le_add_right ?_ _
  refine Nat.le_trans (putR_len _ _) (Nat.add_le_add_right ?_ 9)
  refine Nat.le_trans (flagR_len _ _) (Nat.add_le_add_right ?_ 9)
  refine Nat.le_trans (flagR_len _ _) (Nat.add_le_add_right ?_ 9)
  refine Nat.le_trans (putR_len _ _) (Nat.add_le_add_right ?_ 9)
  refine Nat.le_trans (putR_len _ _) (Nat.add_le_add_right ?_ 9)
  rw [List.length_append]
  omega
theorem fold_lenM {α:Type} {f:List Int→α→List Int} {k:Nat}:∀ (L:List α) (B:List Int),(∀ a∈L,∀ B,(f B a).length≤B.length+k)→(L.foldl f B).length≤B.length+k*L.length
  | [],B,_=>by simp
  | a::L,B,hf=>by
    have:=fold_lenM L (f B a) (fun x hx=>hf x (List.mem_cons_of_mem _ hx))
    have:=hf a (List.mem_cons_self ..) B
    simp only [List.foldl_cons,List.length_cons,Nat.mul_succ]
    omega
def bodyR (C:Config):List Int:=C.tables.foldl fTab (putR (C.chans.foldl fChan (putR (C.parts.foldl fPart (putR [72,79,82,65] C.parts.length)) C.chans.length)) C.tables.length)
theorem bodyR_len {C:Config} (hC:BytOk C):(bodyR C).length<900000:=by
  obtain ⟨hp,hc,ht,hpp,htt⟩:=hC
  unfold bodyR
  have a1:=putR_len [72,79,82,65] C.parts.length
  have a2:=fold_lenM (f:=fPart) (k:=3000) C.parts (putR [72,79,82,65] C.parts.length) (fun p hp B=>fPart_len (hpp p hp).1 (hpp p hp).2)
  generalize C.parts.foldl fPart (putR [72,79,82,65] C.parts.length)=P2 at *
  have a3:=putR_len P2 C.chans.length
  have a4:=fold_len fChan_len C.chans (putR P2 C.chans.length)
  generalize C.chans.foldl fChan (putR P2 C.chans.length)=P4 at *
  have a5:=putR_len P4 C.tables.length
  have a6:=fold_lenM (f:=fTab) (k:=19200) C.tables (putR P4 C.tables.length) (fun t q B=>by
    unfold fTab
    have b1:=putR_len B t.length
    have b2:=fNode_len (putR B t.length) t
    have:=htt t q
    omega)
  simp only [List.length_cons,List.length_nil] at a1
  omega
theorem bytesR_seal {C:Config}:sealR (bodyR C)=bytesR C:=rfl
theorem imgBytes_ev {C:Config} (hnm:NmOk C):Pf tp i_Q10 [.agg C.enc] (.tup [.fl 1 ((imgR C).1.map encB),.i .i64 (imgR C).2]):=by
  refine Pf_go fn_Q10 (by simp [t_Q10]) fun rp=>?_;unfold t_Q10;simp (disch:=omega)only[go_sem, *]
  have hr:=right_ev hnm
  simp only [Config.enc] at hr
  refine Pf.go (hr) (by simp only [go_sem]) fun _=>?_;simp (disch:=omega)only[go_sem, *]
  refine Wb_dec (fun hc=>?_) (fun hc=>?_)
  · have e:imgR C=([],(whereR C).1):=if_neg hc
    simp (disch:=omega)only[go_sem, *]
  · have h0:(whereR C).1=0:=Decidable.not_not.1 hc
    have hw:=where0 h0
    have e:imgR C=(bytesR C,0):=if_pos h0
    have hb:Pf tp i_Q31 [.agg C.enc] (.fl 1 ((bodyR C).map encB)):=body_ev (where_byt hw).1
    simp only [Config.enc] at hb
    simp (disch:=omega)only[go_sem, *]
    refine Pf.go (hb) (by simp only [go_sem]) fun _=>?_;simp (disch:=omega)only[go_sem, *]
    have hbl:=bodyR_len (where_byt hw).1
    have hsl:=sumSeal_ev (B:=bodyR C) (by omega)
    rw [bytesR_seal] at hsl
    refine Pf.go (hsl) (by simp only [go_sem]) fun _=>?_;simp (disch:=omega)only[go_sem, *]
theorem imgSize_ev {C:Config} (hnm:NmOk C):Pf tp i_Q13 [.agg C.enc] (.i .i64 (imgR C).1.length):=by
  refine Pf_go fn_Q13 (by simp [t_Q13]) fun rp=>?_;unfold t_Q13;simp (disch:=omega)only[go_sem, *]
  have hr:=imgBytes_ev hnm
  simp only [Config.enc] at hr
  refine Pf.go (hr) (by simp only [go_sem]) fun _=>?_;simp (disch:=omega)only[go_sem, *]
end Go.Ab.T
namespace Go.Ab.T
open Go Go.Ab
set_option maxHeartbeats 2000000
theorem andNot_fin:∀ k:Fin 256,((BitVec.ofInt 8 (k.val:Int) &&& ~~~(BitVec.ofInt 8 128)).toNat:Nat)=k.val % 128:=by decide +kernel
theorem op_andNot {k:Int} (h0:0≤k) (h1:k<256):binV .andNot (.i .u8 k) (.i .u8 128)=some (.i .u8 (k % 128)):=by
  obtain ⟨m,rfl⟩:∃ m:Nat,k=m:=⟨k.toNat,by omega⟩
  have h:((BitVec.ofInt 8 (m:Int) &&& ~~~(BitVec.ofInt 8 128)).toNat:Nat)=m % 128:=andNot_fin ⟨m,by omega⟩
  show some (V.i .u8 (IntKind.wrap .u8 ((BitVec.ofInt 8 (m:Int) &&& ~~~(BitVec.ofInt 8 128)).toNat:Int)))=_
  rw [h,wrap_u8]
  congr 2
  omega
theorem op_shl8 (a:Int):binV .shl (.i .u64 a) (.i .u64 8)=some (.i .u64 (IntKind.wrap .u64 (a*256))):=rfl
theorem or8 {u c:Int} (h0:0≤c) (h1:c<256):IntKind.wrap .u64 ((BitVec.ofInt 64 (IntKind.wrap .u64 (u*256)) ||| BitVec.ofInt 64 (IntKind.wrap .u64 c)).toNat:Int)=IntKind.wrap .u64 (u*256)+c:=by
  have e:IntKind.wrap .u64 (u*256)=256*(u % 72057594037927936):=by rw [wrap_u64];omega
  have e2:IntKind.wrap .u64 c=c:=by rw [wrap_u64];omega
  rw [e,e2]
  obtain ⟨q,hq⟩:∃ q:Nat,u % 72057594037927936=q:=⟨(u % 72057594037927936).toNat,by omega⟩
  have hq1:q<72057594037927936:=by omega
  obtain ⟨d,rfl⟩:∃ d:Nat,c=d:=⟨c.toNat,by omega⟩
  rw [hq]
  have h2:(BitVec.ofInt 64 (256*(q:Int)) ||| BitVec.ofInt 64 (d:Int)).toNat=256*q+d:=by
    rw [BitVec.toNat_or,BitVec.toNat_ofInt,BitVec.toNat_ofInt]
    have a1:(256*(q:Int) % ((2 ^ 64:Nat):Int)).toNat=q <<< 8:=by rw [Nat.shiftLeft_eq];omega
    have a2:((d:Int) % ((2 ^ 64:Nat):Int)).toNat=d:=by omega
    rw [a1,a2,←Nat.shiftLeft_add_eq_or_of_lt (show d<2 ^ 8 by omega),Nat.shiftLeft_eq]
    omega
  rw [h2,wrap_u64]
  omega
theorem cget_12 {K : Ex → Env → AH → Prop} {e : Env} {l : List Int} {v0 v4 : V} {h : AH} (hb : IsB l) (e0 : e 0 = v0) (e4 : e 4 = v4) (e5 : e 5 = .i .u64 0) (e28 : e 28 = .fl 1 (l.map encB)) (e29 : e 29 = .i .i64 l.length) (e30 : e 30 = .i .i64 0) (hll : l.length < 100)
    (kk:∀ e:Env,e 0=v0→e 4=v4→e 5=.i .u64 (accR l 0)→K (.ex 0) e h):ZC tp (.loop Q93_12) e h K:=by
  refine ZC_loop_n (fun n' e hh=>∃ (i:Nat) (u:Int),n'=l.length - i∧hh=h∧e 0=v0∧e 4=v4∧e 5=.i .u64 u∧e 28=.fl 1 (l.map encB)∧e 29=.i .i64 l.length∧e 30=.i .i64 i∧i≤l.length∧accR (l.drop i) u=accR l 0) ?_ _ _ _ ⟨0,0,rfl,rfl,e0,e4,e5,e28,e29,e30,by omega,rfl⟩
  clear e0 e4 e5 e28 e29 e30 e
  rintro n' e hh ⟨i,u,rfl,rfl,e0,e4,e5,e28,e29,e30,hi,hz⟩ ih
  have o1:=op_shl8
  rw [ZC_unf Q93_12.eq_1]
  simp (disch:=omega)only[go_sem, *]
  refine Wb_dec (fun hc=>?_) (fun hc=>?_)
  · rw [drop_nth (by omega),accR] at hz
    have hbi:=hb _ (nth_mem (L:=l) (j:=i) (by omega))
    have o3:=or8 (u:=u) hbi.1 hbi.2
    simp (disch:=omega)only[go_sem, *]
    refine ih _ _ _ ?_ ⟨i+1,IntKind.wrap .u64 (u*256)+nth l i,rfl, ?_⟩
    · omega
    · clear ih kk
      simp (disch:=omega)only[go_sem, *]
      all_goals ((repeat' refine And.intro ?_ ?_)<;>first | omega | assumption | (exact congrArg (V.i .u64) o3))
  · rw [List.drop_eq_nil_of_le (by omega),accR] at hz
    simp (disch:=omega)only[go_sem, *]
    refine kk _ ?_ ?_ ?_<;>simp (disch:=omega)only[go_sem, *]
theorem IsB.tail {k:Int} {l:List Int} (h:IsB (k::l)):IsB l:=fun z hz=>h z (List.mem_cons_of_mem _ hz)
theorem IsB.take {n:Nat} {l:List Int} (h:IsB l):IsB (l.take n):=fun z hz=>h z (List.mem_of_mem_take hz)
theorem cget_ev {b:List Int} (hb:IsB b):Pf tp i_Q93 [.fl 1 (b.map encB)] (.tup [.i .i64 (getR b).1,.i .i64 (getR b).2]):=by
  refine Pf_go fn_Q93 (by simp [t_Q93]) fun rp=>?_
  have hL:=rp.head.len
  unfold t_Q93
  by_cases hne:b=[]
  · subst hne
    simp (disch:=omega)only[go_sem, *]
    exact ⟨rfl,rfl⟩
  · obtain ⟨k0,r,hbe⟩:∃ k0 r,k0::r=b:=by cases b with | nil=>exact absurd rfl hne | cons k r=>exact ⟨k,r,rfl⟩
    obtain ⟨h0,h1⟩:=hb k0 (by rw [← hbe];exact List.mem_cons_self ..)
    have o1:=op_andNot h0 h1
    have hn:nth b 0=k0:=by rw [← hbe];rfl
    have hlb:b.length=r.length+1:=by rw [← hbe];rfl
    have mt:∀ n,List.take n (b.map encB)=(b.take n).map encB:=fun n=>List.map_take.symm
    have md:∀ n m,List.take m (List.drop n (b.map encB))=((b.drop n).take m).map encB:=fun n m=>by rw [List.map_take,List.map_drop]
    have md2:∀ n m,List.drop m (List.take n (b.map encB))=((b.take n).drop m).map encB:=fun n m=>by rw [List.map_drop,List.map_take]
    clear hne
    obtain ⟨k,hk⟩:∃ k:Nat,k0 % 128=k:=⟨(k0 % 128).toNat,by omega⟩
    rw [hk] at o1
    simp (disch:=omega)only[go_sem, *]
    refine Wb_dec (fun hc=>absurd hc (by omega)) (fun _=>?_)
    simp (disch:=omega)only[go_sem, *]
    have hg:getR b=(if 8<k∨r.length<k then (0,0) else if putR [] (numOf k0 (r.take k))=k0::r.take k then (numOf k0 (r.take k),k+1) else (0,0)):=by
      rw [← hbe,getR,hk]
      simp
    have bad:8<k∨r.length<k→getR b=(0,0):=fun q=>by rw [hg,if_pos q]
    refine Wg_dec (fun hc=>?_) (fun hc=>?_)
    · have e:=bad (.inl (by omega))
      clear bad hg
      simp (disch:=omega)only[go_sem, *]
    · simp (disch:=omega)only[go_sem, *]
      refine Wb_dec (fun hc2=>?_) (fun hc2=>?_)
      · have e:=bad (.inr (by omega))
        clear bad hg
        simp (disch:=omega)only[go_sem, *]
      · rw [if_neg (by omega)] at hg
        have e1:(b.drop 1).take k=r.take k:=by rw [← hbe];rfl
        obtain ⟨T,hT⟩:∃ T,k0::r.take k=T:=⟨_,rfl⟩
        have e2:b.take (k+1)=T:=by rw [← hbe,←hT];rfl
        rw [hT] at hg
        have e3:(1+(k:Int)).toNat=k+1:=by omega
        have hlt:(r.take k).length=k:=by rw [List.length_take];omega
        have ib:IsB (r.take k):=by
          have:IsB r:=IsB.tail (k:=k0) (by rw [hbe];exact hb)
          exact this.take
        clear bad hbe hT
        simp (disch:=omega)only[go_sem, *]
        refine cget_12 (l:=r.take k) (v0:=.fl 1 (b.map encB)) (v4:=.i .i64 k) ib ?_ ?_ ?_ ?_ ?_ ?_ ?_ ?_
        any_goals (simp (disch:=omega)only[go_sem, *];done)
        · rw [hlt];omega
        intro e f0 f4 f5
        clear ib
        simp (disch:=omega)only[go_sem, *]
        refine Wb_dec (fun hc3=>?_) (fun hc3=>?_)
        · have hnum:numOf k0 (r.take k)=IntKind.wrap .i64 (0 - IntKind.wrap .i64 (accR (r.take k) 0)):=if_pos hc3
          rw [hnum] at hg
          clear hnum
          generalize accR (r.take k) 0=u at *
          simp (disch:=omega)only[go_sem, *]
          refine cput_ev (b:=.ns) (B:=[]) (n:=IntKind.wrap .i64 (0 - IntKind.wrap .i64 u)) (Nat.le_refl _) .ns rfl rfl (by simp) ?_
          intro q h2 s2 x2
          have hpl:=putR_len [] (IntKind.wrap .i64 (0 - IntKind.wrap .i64 u))
          rw [List.length_nil] at hpl
          simp (disch:=omega)only[go_sem, *]
          refine Pf.look (equalB_ev (L:=putR [] (IntKind.wrap .i64 (0 - IntKind.wrap .i64 u))) (M:=T)) (.cons _ _ _ _ _ (Sl.froze (Sl.raise (Sl.back (l:=0) s2)) (fun _=>rfl) trivial (by omega)) (.cons _ _ _ _ _ (.fl _ _ _) (.nil _))) rfl fun _=>?_
          simp (disch:=omega)only[go_sem, *]
          refine Wb_dec (fun hc4=>?_) (fun hc4=>?_)
          · rw [if_neg hc4] at hg
            simp (disch:=omega)only[go_sem, *]
          · rw [if_pos (Decidable.not_not.1 hc4)] at hg
            simp (disch:=omega)only[go_sem, *]
            omega
        · have hnum:numOf k0 (r.take k)=IntKind.wrap .i64 (accR (r.take k) 0):=if_neg hc3
          rw [hnum] at hg
          clear hnum
          generalize accR (r.take k) 0=u at *
          simp (disch:=omega)only[go_sem, *]
          refine cput_ev (b:=.ns) (B:=[]) (n:=IntKind.wrap .i64 u) (Nat.le_refl _) .ns rfl rfl (by simp) ?_
          intro q h2 s2 x2
          have hpl:=putR_len [] (IntKind.wrap .i64 u)
          rw [List.length_nil] at hpl
          simp (disch:=omega)only[go_sem, *]
          refine Pf.look (equalB_ev (L:=putR [] (IntKind.wrap .i64 u)) (M:=T)) (.cons _ _ _ _ _ (Sl.froze (Sl.raise (Sl.back (l:=0) s2)) (fun _=>rfl) trivial (by omega)) (.cons _ _ _ _ _ (.fl _ _ _) (.nil _))) rfl fun _=>?_
          simp (disch:=omega)only[go_sem, *]
          refine Wb_dec (fun hc4=>?_) (fun hc4=>?_)
          · rw [if_neg hc4] at hg
            simp (disch:=omega)only[go_sem, *]
          · rw [if_pos (Decidable.not_not.1 hc4)] at hg
            simp (disch:=omega)only[go_sem, *]
            omega
theorem getR_bd {b:List Int}:(getR b).2≤b.length:=by
  by_cases h:0<(getR b).2
  · exact (getR_some h).2
  · omega
theorem ccut_ev {b:List Int} {m:Int} (hb:IsB b) (hm:m≤1000):Pf tp i_Q106 [.fl 1 (b.map encB),.i .i64 m] (.tup [.s (sOf (cutR b m).1),.i .i64 (cutR b m).2]):=by
  refine Pf_go fn_Q106 (by simp [t_Q106]) fun rp=>?_
  have hL:=rp.head.len
  have hg:=cget_ev hb
  have hbd:=getR_bd (b:=b)
  unfold t_Q106
  simp (disch:=omega)only[go_sem, *]
  refine Pf.go (hg) (by simp only [go_sem]) fun _=>?_;simp (disch:=omega)only[go_sem, *]
  clear hg
  have mt:∀ n m,List.take m (List.drop n (b.map encB))=((b.drop n).take m).map encB:=fun n m=>by rw [List.map_take,List.map_drop]
  have md2:∀ n m,List.drop m (List.take n (b.map encB))=((b.take n).drop m).map encB:=fun n m=>by rw [List.map_drop,List.map_take]
  have bad:(getR b).2=0∨(getR b).1<0∨m<(getR b).1∨(b.length:Int) - (getR b).2<(getR b).1→cutR b m=([],0):=fun q=>if_pos q
  have good:¬ ((getR b).2=0∨(getR b).1<0∨m<(getR b).1∨(b.length:Int) - (getR b).2<(getR b).1)→cutR b m=((b.drop (getR b).2).take (getR b).1.toNat,(getR b).2+(getR b).1.toNat):=fun q=>if_neg q
  generalize getR b=p at *
  obtain ⟨n,k⟩:=p
  simp only at bad good hbd
  simp (disch:=omega)only[go_sem, *]
  refine Wg_dec (fun hc=>?_) (fun hc=>?_)
  · have e:=bad (.inl (by omega))
    clear bad good
    simp (disch:=omega)only[go_sem, *]
    rfl
  · simp (disch:=omega)only[go_sem, *]
    refine Wg_dec (fun hc2=>?_) (fun hc2=>?_)
    · have e:=bad (.inr (.inl hc2))
      clear bad good
      simp (disch:=omega)only[go_sem, *]
      rfl
    · simp (disch:=omega)only[go_sem, *]
      refine Wb_dec (fun hc3=>?_) (fun hc3=>?_)
      · have e:=bad (by omega)
        clear bad good
        simp (disch:=omega)only[go_sem, *]
        rfl
      · have e:=good (by omega)
        obtain ⟨w,rfl⟩:∃ w:Nat,n=w:=⟨n.toNat,by omega⟩
        have h1:((k:Int)+(w:Int)).toNat=k+w:=by omega
        have h2:k+w - k=w:=by omega
        rw [Int.toNat_natCast] at e
        clear bad good
        simp (disch:=omega)only[go_sem, *]
        rfl
end Go.Ab.T
namespace Go.Ab.T
open Go Go.Ab
set_option maxHeartbeats 2000000
@[go_sem] def rdB (s:Rd):Blk:=⟨2,[[.fl 1 (s.b.map encB),.b s.bad]]⟩
theorem cnum_ev {h:AH} {id:Nat} {s:Rd} {K:V→AH→Prop} (hg:h.get id=some (rdB s)) (hb:IsB s.b) (hlo:h.lim≤id) (kk:K (.i .i64 (numS s).1) (h.put id (rdB (numS s).2))):Cq tp i_Q62 [.p id 0 0] h K:=by
  obtain ⟨b,bad⟩:=s
  have hg1:=cget_ev hb
  have hbd:=getR_bd (b:=b)
  have f1:bad=true∨(getR b).2=0→numS ⟨b,bad⟩=(0,⟨b,true⟩):=fun q=>if_pos q
  have f2:¬ (bad=true∨(getR b).2=0)→numS ⟨b,bad⟩=((getR b).1,⟨b.drop (getR b).2,bad⟩):=fun q=>if_neg q
  have mk:∀ n,List.drop n (b.map encB)=(b.drop n).map encB:=fun n=>List.map_drop.symm
  simp only [rdB] at hg
  refine Cq_upd fn_Q62 (by simp [t_Q62]) ((by rw [hg];rfl)) (fun _ _ _=>.cons _ _ _ _ _ (Frzs.of_stay rfl) (.nil _)) (kk) fun hlm hid rp=>?_;unfold t_Q62;simp (disch:=omega)only[go_sem, *]
  refine Pf.go (hg1) (by simp only [go_sem]) fun _=>?_;simp (disch:=omega)only[go_sem, *]
  clear hg1
  generalize getR b=p at *
  obtain ⟨n,k⟩:=p
  simp only at f1 f2 hbd
  have ml:List.take (b.length - k) ((b.drop k).map encB)=(b.drop k).map encB:=List.take_of_length_le (by simp)
  cases bad with
  | true=>
    have e:=f1 (.inl rfl)
    clear f1 f2
    simp (disch:=omega)only[go_sem, *]
    exact upd_put (Upd.same hg)
  | false=>
    simp (disch:=omega)only[go_sem, *]
    refine Wb_dec (fun hc=>?_) (fun hc=>?_)
    · have e:=f1 (.inr (by omega))
      clear f1 f2
      simp (disch:=omega)only[go_sem, *]
      exact upd_put (Upd.same hg)
    · have e:=f2 (by simp;omega)
      clear f1 f2
      simp (disch:=omega)only[go_sem, *]
      exact upd_put (Upd.same hg)
theorem IsB.drop {n:Nat} {l:List Int} (h:IsB l):IsB (l.drop n):=fun z hz=>h z (List.mem_of_mem_drop hz)
theorem IsB.num {s:Rd} (h:IsB s.b):IsB (numS s).2.b:=by
  unfold numS;split
  · exact h
  · exact h.drop
theorem IsB.cnt {m:Int} {s:Rd} (h:IsB s.b):IsB (cntS m s).2.b:=by
  unfold cntS;split
  · exact h.num
  · exact h.num
theorem IsB.flag {s:Rd} (h:IsB s.b):IsB (flagS s).2.b:=h.cnt
theorem IsB.text {m:Int} {s:Rd} (h:IsB s.b):IsB (textS m s).2.b:=by
  unfold textS;split
  · exact h
  · exact h.drop
theorem ccount_ev {h:AH} {id:Nat} {s:Rd} {m:Int} {K:V→AH→Prop} (hg:h.get id=some (rdB s)) (hb:IsB s.b) (hlo:h.lim≤id) (kk:K (.i .i64 (cntS m s).1) (h.put id (rdB (cntS m s).2))):Cq tp i_Q59 [.p id 0 0,.i .i64 m] h K:=by
  have f1:(numS s).1<0∨m<(numS s).1→cntS m s=(0,⟨(numS s).2.b,true⟩):=fun q=>if_pos q
  have f2:¬ ((numS s).1<0∨m<(numS s).1)→cntS m s=numS s:=fun q=>if_neg q
  refine Cq_upd fn_Q59 (by simp [t_Q59]) ((by rw [hg];rfl)) (fun _ _ _=>.cons _ _ _ _ _ (Frzs.of_stay rfl) (.nil _)) (kk) fun hlm hid rp=>?_;unfold t_Q59;simp (disch:=omega)only[go_sem, *]
  refine cnum_ev hg hb hlo ?_
  have hu:=upd_put (b':=rdB (numS s).2) (Upd.same hg)
  simp only [rdB] at hu
  generalize numS s=p at *
  obtain ⟨n,b,bad⟩:=p
  simp only at f1 f2 hu
  simp (disch:=omega)only[go_sem, *]
  refine Wg_dec (fun hc=>?_) (fun hc=>?_)
  · have e:=f1 (.inl hc)
    clear f1 f2
    simp (disch:=omega)only[go_sem, *]
    exact upd_put (Upd.same hg)
  · simp (disch:=omega)only[go_sem, *]
    refine Wb_dec (fun hc2=>?_) (fun hc2=>?_)
    · have e:=f1 (.inr hc2)
      clear f1 f2
      simp (disch:=omega)only[go_sem, *]
      exact upd_put (Upd.same hg)
    · have e:=f2 (by omega)
      clear f1 f2
      simp (disch:=omega)only[go_sem, *]
theorem crflag_ev {h:AH} {id:Nat} {s:Rd} {K:V→AH→Prop} (hg:h.get id=some (rdB s)) (hb:IsB s.b) (hlo:h.lim≤id) (kk:K (.b (flagS s).1) (h.put id (rdB (flagS s).2))):Cq tp i_Q61 [.p id 0 0] h K:=by
  refine Cq_upd fn_Q61 (by simp [t_Q61]) ((by rw [hg];rfl)) (fun _ _ _=>.cons _ _ _ _ _ (Frzs.of_stay rfl) (.nil _)) (kk) fun hlm hid rp=>?_;unfold t_Q61;simp (disch:=omega)only[go_sem, *]
  refine ccount_ev hg hb hlo ?_
  have hu:=upd_put (b':=rdB (cntS 1 s).2) (Upd.same hg)
  simp only [rdB] at hu
  unfold flagS
  simp (disch:=omega)only[go_sem, *]
theorem crtext_ev {h:AH} {id:Nat} {s:Rd} {m:Int} {K:V→AH→Prop} (hg:h.get id=some (rdB s)) (hb:IsB s.b) (hm:m≤1000) (hlo:h.lim≤id) (kk:K (.s (textS m s).1) (h.put id (rdB (textS m s).2))):Cq tp i_Q92 [.p id 0 0,.i .i64 m] h K:=by
  obtain ⟨b,bad⟩:=s
  have hg1:=ccut_ev hb hm
  have hbd:(cutR b m).2≤b.length:=by
    have:=getR_bd (b:=b)
    unfold cutR
    split
    · simp
    · rename_i q
      simp only
      omega
  have f1:bad=true∨(cutR b m).2=0→textS m ⟨b,bad⟩=(⟨#[]⟩,⟨b,true⟩):=fun q=>if_pos q
  have f2:¬ (bad=true∨(cutR b m).2=0)→textS m ⟨b,bad⟩=(sOf (cutR b m).1,⟨b.drop (cutR b m).2,bad⟩):=fun q=>if_neg q
  have mk:∀ n,List.drop n (b.map encB)=(b.drop n).map encB:=fun n=>List.map_drop.symm
  simp only [rdB] at hg
  refine Cq_upd fn_Q92 (by simp [t_Q92]) ((by rw [hg];rfl)) (fun _ _ _=>.cons _ _ _ _ _ (Frzs.of_stay rfl) (.nil _)) (kk) fun hlm hid rp=>?_;unfold t_Q92;simp (disch:=omega)only[go_sem, *]
  refine Pf.go (hg1) (by simp only [go_sem]) fun _=>?_;simp (disch:=omega)only[go_sem, *]
  clear hg1
  generalize cutR b m=p at *
  obtain ⟨n,k⟩:=p
  simp only at f1 f2 hbd
  have ml:List.take (b.length - k) ((b.drop k).map encB)=(b.drop k).map encB:=List.take_of_length_le (by simp)
  cases bad with
  | true=>
    have e:=f1 (.inl rfl)
    clear f1 f2
    simp (disch:=omega)only[go_sem, *]
    exact upd_put (Upd.same hg)
  | false=>
    simp (disch:=omega)only[go_sem, *]
    refine Wb_dec (fun hc=>?_) (fun hc=>?_)
    · have e:=f1 (.inr (by omega))
      clear f1 f2
      simp (disch:=omega)only[go_sem, *]
      exact upd_put (Upd.same hg)
    · have e:=f2 (by simp;omega)
      clear f1 f2
      simp (disch:=omega)only[go_sem, *]
      exact upd_put (Upd.same hg)
end Go.Ab.T
namespace Go.Ab.T
open Go Go.Ab
set_option maxHeartbeats 4000000
theorem cnt_bd {m:Int} {s:Rd} (h:0≤m):0≤(cntS m s).1∧(cntS m s).1≤m:=by
  unfold cntS
  split
  · exact ⟨Int.le_refl 0,h⟩
  · omega
theorem part_6 {K : Ex → Env → AH → Prop} {e : Env} {h hh : AH} {id n : Nat} {s : Rd} {P : List Proc × Rd} {r0 : List V} {a b c d f g0 g1 g2 g3 g4 : V} (hid : id < h.next) (hlo : h.lim ≤ id) (hn : n ≤ 3) (hP : procsS n [] s = P) (hb : IsB s.b)
    (l0:hh.lim=h.lim) (n0:h.next+2≤hh.next) (q0:hh.get id=some (rdB s)) (q1:hh.get h.next=some ⟨11,[r0]⟩) (q2:hh.get (h.next+1)=some ⟨11,[[a,b,c,d,f,.ns,g0,g1,g2,g3,g4]]⟩) (fr:∀ j,j<h.next→j≠id→hh.get j=h.get j)
    (e0:e 0=.p id 0 0) (e2:e 2=.p h.next 0 0) (e3:e 3=.p (h.next+1) 0 0) (e17:e 17=.i .i64 n) (e18:e 18=.i .i64 0)
    (kk:∀ (e:Env) (hh:AH) (v:V),hh.lim=h.lim→h.next+2≤hh.next→hh.get id=some (rdB P.2)→IsB P.2.b→hh.get h.next=some ⟨11,[r0]⟩→hh.get (h.next+1)=some ⟨11,[[a,b,c,d,f,v,g0,g1,g2,g3,g4]]⟩→(∀ j,j<h.next→j≠id→hh.get j=h.get j)→Sl (h.next+2) hh 2 v (P.1.map Proc.enc)→P.1.length≤3→e 0=.p id 0 0→e 2=.p h.next 0 0→e 3=.p (h.next+1) 0 0→K (.ex 0) e hh):ZC tp (.loop Q60_6) e hh K:=by
  refine ZC_loop_n (fun n' e hh=>∃ (i:Nat) (v:V) (A:List Proc) (s:Rd),n'=n - i∧hh.lim=h.lim∧h.next+2≤hh.next∧hh.get id=some (rdB s)∧IsB s.b∧hh.get h.next=some ⟨11,[r0]⟩∧hh.get (h.next+1)=some ⟨11,[[a,b,c,d,f,v,g0,g1,g2,g3,g4]]⟩∧(∀ j,j<h.next→j≠id→hh.get j=h.get j)∧Sl (h.next+2) hh 2 v (A.map Proc.enc)∧A.length=i∧i≤n∧procsS (n - i) A s=P∧e 0=.p id 0 0∧e 2=.p h.next 0 0∧e 3=.p (h.next+1) 0 0∧e 17=.i .i64 n∧e 18=.i .i64 i) ?_ _ _ _ ⟨0,.ns,[],s,rfl,l0,n0,q0,hb,q1,q2,fr,Sl.nil _ _ _,rfl,by omega,hP,e0,e2,e3,e17,e18⟩
  clear l0 n0 q0 q1 q2 fr e0 e2 e3 e17 e18 e hh hb hP s
  rintro n' e hh ⟨i,v,A,s,rfl,l0,n0,q0,hb,q1,q2,fr,sl,hA,hi,hP,e0,e2,e3,e17,e18⟩ ih
  have hsv:=Sl.sameV sl
  have hown:=sl_own sl
  obtain ⟨wlen,wbig,wlt,wlo,wget,wat,wrow,wcell,wcells⟩:=sl.facts
  clear wlt wlo wget wat wrow
  rw [ZC_unf Q60_6.eq_1]
  simp (disch:=omega)only[go_sem, *]
  refine Wb_dec (fun hc=>?_) (fun hc=>?_)
  · have hni:n - i=(n - (i+1))+1:=by omega
    rw [hni,procsS] at hP
    have b1:=hb.cnt (m:=512)
    have b2:=b1.cnt (m:=255)
    simp (disch:=omega)only[go_sem, *]
    refine ccount_ev (s:=s) (m:=512) ?_ hb ?_ ?_
    · simp (disch:=omega)only[go_sem, *]
    · simp (disch:=omega)only[go_sem, *]
    generalize cntS 512 s=t1 at *
    have q0':(hh.put id (rdB t1.2)).get id=some (rdB t1.2):=by rw [get_put,gsel_eq rfl]
    simp (disch:=omega)only[go_sem, *]
    refine ccount_ev (s:=t1.2) (m:=255) ?_ b1 ?_ ?_
    · simp (disch:=omega)only[go_sem, *]
    · simp (disch:=omega)only[go_sem, *]
    generalize cntS 255 t1.2=t2 at *
    have sl2:=sl_put sl id (rdB t2.2) (hown.imp (fun x=>x) (fun x=>by omega))
    simp only [rdB] at sl2
    simp (disch:=omega)only[go_sem, *]
    refine app_rule (N:=[Proc.enc ⟨t1.1,t2.1⟩]) (Sl.alloc sl2 ⟨2,[Proc.enc ⟨t1.1,t2.1⟩]⟩) ?_ ?_ ?_ ?_
    · rw [lim_alloc,lim_put];omega
    · rw [next_alloc,next_put];omega
    · simp;omega
    intro w h4 s4 g4
    have hl4:=g4.lim
    have hn4:=g4.next
    have lo4:∀ j,j<h.next+2→h4.get j=if j=id then some (rdB t2.2) else hh.get j:=fun j hj=>by
      rw [g4.low j hj,get_alloc,gsel_ne (by rw [next_put];omega),get_put]
      by_cases hq:j=id
      · rw [gsel_eq hq,if_pos hq];rfl
      · rw [gsel_ne hq,if_neg hq]
    have s5:Sl (h.next+2) h4 2 w ((A++[(⟨t1.1,t2.1⟩:Proc)]).map Proc.enc):=by simpa using s4
    rw [lim_alloc,lim_put] at hl4
    rw [next_alloc,next_put] at hn4
    have p0:=lo4 id (by omega)
    rw [if_pos rfl] at p0
    have p1:=lo4 h.next (by omega)
    rw [if_neg (by omega),q1] at p1
    have p2:=lo4 (h.next+1) (by omega)
    rw [if_neg (by omega),q2] at p2
    have fr4:∀ j,j<h.next→j≠id→h4.get j=h.get j:=fun j hj hne=>by rw [lo4 j (by omega),if_neg hne];exact fr j hj hne
    obtain ⟨_,_,_,_,_,_,_,xc1,xc2⟩:=s5.facts
    have so5:=sl_own s5
    clear s4 g4 sl2 sl lo4 q0 q0' q1 q2 fr hsv wlen wbig wcell wcells
    simp (disch:=omega)only[go_sem, *]
    have s6:=sl_put s5 (h.next+1) ⟨11,[[a,b,c,d,f,w,g0,g1,g2,g3,g4]]⟩ (so5.imp (fun x=>x) (fun x=>by omega))
    refine ih _ _ _ ?_ ⟨i+1,w,A++[⟨t1.1,t2.1⟩],t2.2,rfl, ?_⟩
    · omega
    · clear ih kk s5
      simp (disch:=omega)only[go_sem, *]
      all_goals ((repeat' refine And.intro ?_ ?_)<;>first | omega | assumption | (exact s6) | (exact b2) | ((simp;omega)) | (exact hP) | ((intro j hj hne;rw [gsel_ne (by omega)];exact fr4 j hj hne)))
  · have h0:n - i=0:=by omega
    rw [h0,procsS] at hP
    subst hP
    simp (disch:=omega)only[go_sem, *]
    exact kk _ _ v l0 n0 q0 hb q1 q2 fr sl (show A.length≤3 by omega) e0 e2 e3
theorem imgPart_ev {h:AH} {id:Nat} {s:Rd} {K:V→AH→Prop} (hg:h.get id=some (rdB s)) (hb:IsB s.b) (hlo:h.lim≤id) (kk:K (.agg (partS s).1.enc) (h.put id (rdB (partS s).2))):Cq tp i_Q60 [.p id 0 0] h K:=by
  refine Cq_upd fn_Q60 (by simp [t_Q60]) ((by rw [hg];rfl)) (fun _ _ _=>.cons _ _ _ _ _ (Frzs.of_stay rfl) (.nil _)) (kk) fun hlm hid rp=>?_;unfold t_Q60;simp (disch:=omega)only[go_sem, *]
  clear kk
  have hgf:h.get id=some ⟨2,[[.fl 1 (s.b.map encB),.b s.bad]]⟩:=hg
  have hun:=hid
  refine crtext_ev (s:=s) (m:=12) ?_ hb (by omega) ?_ ?_
  · simp (disch:=omega)only[go_sem, *]
  · simp (disch:=omega)only[go_sem, *]
  have b1:=hb.text (m:=12)
  obtain ⟨t1,ht1⟩:∃ x,textS 12 s=x:=⟨_,rfl⟩
  rw [ht1] at b1 ⊢
  simp (disch:=omega)only[go_sem, *]
  refine cnum_ev (s:=t1.2) ?_ b1 ?_ ?_
  · simp (disch:=omega)only[go_sem, *]
  · simp (disch:=omega)only[go_sem, *]
  have b2:=b1.num
  obtain ⟨t2,ht2⟩:∃ x,numS t1.2=x:=⟨_,rfl⟩
  rw [ht2] at b2 ⊢
  simp (disch:=omega)only[go_sem, *]
  refine cnum_ev (s:=t2.2) ?_ b2 ?_ ?_
  · simp (disch:=omega)only[go_sem, *]
  · simp (disch:=omega)only[go_sem, *]
  have b3:IsB (numS t2.2).2.b:=by first | exact IsB.num b2 | exact IsB.flag b2 | exact IsB.cnt b2
  obtain ⟨t3,ht3⟩:∃ x,numS t2.2=x:=⟨_,rfl⟩
  rw [ht3] at b3 ⊢
  simp (disch:=omega)only[go_sem, *]
  refine crflag_ev (s:=t3.2) ?_ b3 ?_ ?_
  · simp (disch:=omega)only[go_sem, *]
  · simp (disch:=omega)only[go_sem, *]
  have b4:IsB (flagS t3.2).2.b:=by first | exact IsB.num b3 | exact IsB.flag b3 | exact IsB.cnt b3
  obtain ⟨t4,ht4⟩:∃ x,flagS t3.2=x:=⟨_,rfl⟩
  rw [ht4] at b4 ⊢
  simp (disch:=omega)only[go_sem, *]
  refine crflag_ev (s:=t4.2) ?_ b4 ?_ ?_
  · simp (disch:=omega)only[go_sem, *]
  · simp (disch:=omega)only[go_sem, *]
  have b5:IsB (flagS t4.2).2.b:=by first | exact IsB.num b4 | exact IsB.flag b4 | exact IsB.cnt b4
  obtain ⟨t5,ht5⟩:∃ x,flagS t4.2=x:=⟨_,rfl⟩
  rw [ht5] at b5 ⊢
  simp (disch:=omega)only[go_sem, *]
  refine ccount_ev (s:=t5.2) ?_ b5 ?_ ?_
  · simp (disch:=omega)only[go_sem, *]
  · simp (disch:=omega)only[go_sem, *]
  have b6:IsB (cntS 3 t5.2).2.b:=by first | exact IsB.num b5 | exact IsB.flag b5 | exact IsB.cnt b5
  obtain ⟨t6,ht6⟩:∃ x,cntS 3 t5.2=x:=⟨_,rfl⟩
  rw [ht6] at b6 ⊢
  have c6:0≤t6.1∧t6.1≤3:=by rw [← ht6];exact cnt_bd (by omega)
  obtain ⟨n6,hn6⟩:∃ n:Nat,t6.1=n:=⟨t6.1.toNat,by omega⟩
  obtain ⟨t7,ht7⟩:∃ x,procsS n6 [] t6.2=x:=⟨_,rfl⟩
  simp (disch:=omega)only[go_sem, *]
  refine part_6 (h:=h) (id:=id) (n:=n6) (s:=t6.2) (P:=t7) (r0:=[.s ⟨#[]⟩,.i .i64 0,.i .i64 0,.b false,.b false,.ns,.i .i64 0,.i .i64 0,.i .i64 0,.i .i64 0,.i .i64 0]) (a:=.s t1.1) (b:=.i .i64 t2.1) (c:=.i .i64 t3.1) (d:=.b t4.1) (f:=.b t5.1) (g0:=.i .i64 0) (g1:=.i .i64 0) (g2:=.i .i64 0) (g3:=.i .i64 0) (g4:=.i .i64 0) hid hlo (by omega) ht7 b6 ?_ ?_ ?_ ?_ ?_ ?_ ?_ ?_ ?_ ?_ ?_ ?_
  any_goals (simp (disch:=omega)only[go_sem, *];done)
  try (any_goals (simp (disch:=omega)only[go_sem, *]<;>omega))
  · intro j hj hne
    simp (disch:=omega)only[go_sem, *]
  clear b1 b2 b3 b4 b5 b6 hg hgf c6
  intro e hh v l0 n0 q0 b7 q1 q2 fr sl hpl e0 e2 e3
  simp only [rdB] at q0
  have hown:=sl_own sl
  obtain ⟨_,_,_,_,_,_,_,wc1,wc2⟩:=sl.facts
  simp (disch:=omega)only[go_sem, *]
  refine ZC_loop ?_
  rw [ZC_unf Q60_12.eq_1]
  simp (disch:=omega)only[go_sem, *]
  refine ccount_ev (s:=t7.2) ?_ b7 ?_ ?_
  · simp (disch:=omega)only[go_sem, *]
  · simp (disch:=omega)only[go_sem, *]
  have b8:IsB (cntS 2 t7.2).2.b:=by first | exact IsB.num b7 | exact IsB.flag b7 | exact IsB.cnt b7
  obtain ⟨t8,ht8⟩:∃ x,cntS 2 t7.2=x:=⟨_,rfl⟩
  rw [ht8] at b8 ⊢
  simp (disch:=omega)only[go_sem, *]
  refine ZC_loop ?_
  rw [ZC_unf Q60_12.eq_1]
  simp (disch:=omega)only[go_sem, *]
  refine ccount_ev (s:=t8.2) ?_ b8 ?_ ?_
  · simp (disch:=omega)only[go_sem, *]
  · simp (disch:=omega)only[go_sem, *]
  have b9:IsB (cntS 2 t8.2).2.b:=by first | exact IsB.num b8 | exact IsB.flag b8 | exact IsB.cnt b8
  obtain ⟨t9,ht9⟩:∃ x,cntS 2 t8.2=x:=⟨_,rfl⟩
  rw [ht9] at b9 ⊢
  simp (disch:=omega)only[go_sem, *]
  refine ZC_loop ?_
  rw [ZC_unf Q60_12.eq_1]
  simp (disch:=omega)only[go_sem, *]
  refine ccount_ev (s:=t9.2) ?_ b9 ?_ ?_
  · simp (disch:=omega)only[go_sem, *]
  · simp (disch:=omega)only[go_sem, *]
  have b10:IsB (cntS 2 t9.2).2.b:=by first | exact IsB.num b9 | exact IsB.flag b9 | exact IsB.cnt b9
  obtain ⟨t10,ht10⟩:∃ x,cntS 2 t9.2=x:=⟨_,rfl⟩
  rw [ht10] at b10 ⊢
  simp (disch:=omega)only[go_sem, *]
  refine ZC_loop ?_
  rw [ZC_unf Q60_12.eq_1]
  simp (disch:=omega)only[go_sem, *]
  refine ccount_ev (s:=t10.2) ?_ b10 ?_ ?_
  · simp (disch:=omega)only[go_sem, *]
  · simp (disch:=omega)only[go_sem, *]
  have b11:IsB (cntS 2 t10.2).2.b:=by first | exact IsB.num b10 | exact IsB.flag b10 | exact IsB.cnt b10
  obtain ⟨t11,ht11⟩:∃ x,cntS 2 t10.2=x:=⟨_,rfl⟩
  rw [ht11] at b11 ⊢
  simp (disch:=omega)only[go_sem, *]
  refine ZC_loop ?_
  rw [ZC_unf Q60_12.eq_1]
  simp (disch:=omega)only[go_sem, *]
  refine ccount_ev (s:=t11.2) ?_ b11 ?_ ?_
  · simp (disch:=omega)only[go_sem, *]
  · simp (disch:=omega)only[go_sem, *]
  have b12:IsB (cntS 2 t11.2).2.b:=by first | exact IsB.num b11 | exact IsB.flag b11 | exact IsB.cnt b11
  obtain ⟨t12,ht12⟩:∃ x,cntS 2 t11.2=x:=⟨_,rfl⟩
  rw [ht12] at b12 ⊢
  simp (disch:=omega)only[go_sem, *]
  have hps:partS s=(⟨t1.1,t2.1,t3.1,t4.1,t5.1,t7.1,t8.1,t9.1,t10.1,t11.1,t12.1⟩,t12.2):=by
    unfold partS
    simp only [ht1,ht2,ht3,ht4,ht5,ht6,hn6,Int.toNat_natCast,ht7,ht8,ht9,ht10,ht11,ht12]
  refine ZC_loop ?_
  rw [ZC_unf Q60_12.eq_1]
  clear ht1 ht2 ht3 ht4 ht5 ht6 ht7 ht8 ht9 ht10 ht11 ht12
  have key:∀ (H:AH) (k:Blk),H.next=hh.next→H.lim=hh.lim→(∀ j,h.next+2≤j→H.get j=hh.get j)→H.get id=some k→(∀ j,j<h.next→j≠id→H.get j=hh.get j)→Frz (fun x=>h.next≤x) H h.next v (.fl 2 (t7.1.map Proc.enc))∧Upd h id k H:=by
    intro H k k1 k2 k3 k4 k5
    have sl':Sl (h.next+2) H 2 v (t7.1.map Proc.enc):=by
      rcases hown with q | q
      · rcases sl with ⟨a,b⟩ | ⟨_,_,_,_,rfl,_⟩
        · exact .inl ⟨a,b⟩
        · cases q
      · exact sl.same (by omega) (fun _=>k3 _ q)
    exact ⟨Sl.frzb (Sl.weak sl' (Nat.le_add_right _ _)) (fun _=>rfl) (by omega),⟨by omega,by omega,k4,fun j hj hne=>by rw [k5 j hj hne];exact fr j hj hne⟩⟩
  clear hown sl fr
  simp (disch:=omega)only[go_sem, *]
  refine key _ _ ?_ ?_ ?_ ?_ ?_
  · simp (disch:=omega)only[go_sem, *]
  · simp (disch:=omega)only[go_sem, *]
  · intro j hj;simp (disch:=omega)only[go_sem, *]
  · simp (disch:=omega)only[go_sem, *]
  · intro j hj hne;simp (disch:=omega)only[go_sem, *]
end Go.Ab.T
namespace Go.Ab.T
open Go Go.Ab
set_option maxHeartbeats 4000000
structure RS (h:AH) (id bx:Nat) (s:Rd) (row:List V) (hh:AH):Prop where
  i1:id<h.next
  i2:bx<h.next
  i3:id≠bx
  lim:hh.lim=h.lim
  next:h.next≤hh.next
  rd:hh.get id=some (rdB s)
  isb:IsB s.b
  q:hh.get bx=some ⟨3,[row]⟩
  fr:∀ j,j<h.next→j≠id→j≠bx→hh.get j=h.get j
section
variable {h hh h4:AH} {id bx sz:Nat} {s s2:Rd} {row:List V} {v w:V} {k:Blk}
theorem RS.put (rs:RS h id bx s row hh) (hb:IsB s2.b):RS h id bx s2 row (hh.put id (rdB s2)):=
  ⟨rs.i1,rs.i2,rs.i3,rs.lim,rs.next,by rw [get_put,gsel_eq rfl],hb,by rw [get_put,gsel_ne rs.i3.symm];exact rs.q,fun j hj hne hne2=>by rw [get_put,gsel_ne hne];exact rs.fr j hj hne hne2⟩
theorem RS.box {row':List V} (rs:RS h id bx s row hh):RS h id bx s row' (hh.put bx ⟨3,[row']⟩):=
  ⟨rs.i1,rs.i2,rs.i3,rs.lim,rs.next,by rw [get_put,gsel_ne rs.i3];exact rs.rd,rs.isb,by rw [get_put,gsel_eq rfl],fun j hj hne hne2=>by rw [get_put,gsel_ne hne2];exact rs.fr j hj hne hne2⟩
theorem RS.putx {j:Nat} (rs:RS h id bx s row hh) (hj:h.next≤j):RS h id bx s row (hh.put j k):=by
  have a:=rs.i1;have b:=rs.i2
  exact ⟨rs.i1,rs.i2,rs.i3,rs.lim,rs.next,by rw [get_put,gsel_ne (by omega)];exact rs.rd,rs.isb,by rw [get_put,gsel_ne (by omega)];exact rs.q,fun i hi hne hne2=>by rw [get_put,gsel_ne (by omega)];exact rs.fr i hi hne hne2⟩
theorem RS.new (rs:RS h id bx s row hh):RS h id bx s row (hh.alloc k):=by
  have a:=rs.i1;have b:=rs.i2;have n:=rs.next
  exact ⟨rs.i1,rs.i2,rs.i3,rs.lim,by rw [next_alloc];omega,by rw [get_alloc,gsel_ne (by omega)];exact rs.rd,rs.isb,by rw [get_alloc,gsel_ne (by omega)];exact rs.q,fun i hi hne hne2=>by rw [get_alloc,gsel_ne (by omega)];exact rs.fr i hi hne hne2⟩
theorem RS.app (rs:RS h id bx s row hh) (g:Grown h.next hh v w h4):RS h id bx s row h4:=by
  have n:=rs.next
  have n2:=g.next
  exact ⟨rs.i1,rs.i2,rs.i3,g.lim.trans rs.lim,by omega,by rw [g.low _ rs.i1];exact rs.rd,rs.isb,by rw [g.low _ rs.i2];exact rs.q,fun i hi hne hne2=>by rw [g.low _ hi];exact rs.fr i hi hne hne2⟩
end
theorem IsB.procs:∀ (n:Nat) (A:List Proc) (s:Rd),IsB s.b→IsB (procsS n A s).2.b
  | 0,_,_,h=>h
  | n+1,A,s,h=>by unfold procsS;exact IsB.procs n _ _ h.cnt.cnt
theorem IsB.part {s:Rd} (h:IsB s.b):IsB (partS s).2.b:=by
  unfold partS
  exact (IsB.procs _ _ _ h.text.num.num.flag.flag.cnt).cnt.cnt.cnt.cnt.cnt
theorem read_6 {K : Ex → Env → AH → Prop} {e : Env} {h hh : AH} {id bx n : Nat} {s : Rd} {P : List Part × Rd} {v2 : V} (hlo : h.lim ≤ id) (hlb : h.lim ≤ bx) (hn : n ≤ 6) (hP : partsS n [] s = P) (rs : RS h id bx s [.ns, .ns, .ns] hh)
    (e0:e 0=.p id 0 0) (e2:e 2=v2) (e3:e 3=.p bx 0 0) (e7:e 7=.i .i64 n) (e8:e 8=.i .i64 0)
    (kk:∀ (e:Env) (hh:AH) (v:V),RS h id bx P.2 [v,.ns,.ns] hh→Sl h.next hh 11 v (P.1.map Part.enc)→P.1.length≤6→e 0=.p id 0 0→e 2=v2→e 3=.p bx 0 0→K (.ex 0) e hh):ZC tp (.loop Q33_6) e hh K:=by
  refine ZC_loop_n (fun n' e hh=>∃ (i:Nat) (v:V) (A:List Part) (s:Rd),n'=n - i∧RS h id bx s [v,.ns,.ns] hh∧Sl h.next hh 11 v (A.map Part.enc)∧A.length=i∧i≤n∧partsS (n - i) A s=P∧e 0=.p id 0 0∧e 2=v2∧e 3=.p bx 0 0∧e 7=.i .i64 n∧e 8=.i .i64 i) ?_ _ _ _ ⟨0,.ns,[],s,rfl,rs,Sl.nil _ _ _,rfl,by omega,hP,e0,e2,e3,e7,e8⟩
  clear rs e0 e2 e3 e7 e8 e hh hP s
  rintro n' e hh ⟨i,v,A,s,rfl,rs,sl,hA,hi,hP,e0,e2,e3,e7,e8⟩ ih
  have rs0:=rs
  obtain ⟨i1,i2,i3,l0,n0,q0,hb,q2,fr⟩:=rs
  have hsv:=Sl.sameV sl
  have hown:=sl_own sl
  rw [ZC_unf Q33_6.eq_1]
  simp (disch:=omega)only[go_sem, *]
  refine Wb_dec (fun hc=>?_) (fun hc=>?_)
  · have hni:n - i=(n - (i+1))+1:=by omega
    rw [hni,partsS] at hP
    have b1:IsB (partS s).2.b:=hb.part
    simp (disch:=omega)only[go_sem, *]
    refine imgPart_ev (s:=s) ?_ hb ?_ ?_
    · simp (disch:=omega)only[go_sem, *]
    · simp (disch:=omega)only[go_sem, *]
    generalize partS s=t at *
    obtain ⟨p,s2⟩:=t
    simp only at hP b1 ⊢
    have sl2:=sl_put sl id (rdB s2) (hown.imp (fun x=>x) (fun x=>by omega))
    have rs2:=rs0.put b1
    have hen:p.enc=[.s p.name,.i .i64 p.budget,.i .i64 p.period,.b p.sched,.b p.stop,.fl 2 (p.procs.map Proc.enc),.i .i64 p.h0,.i .i64 p.h1,.i .i64 p.h2,.i .i64 p.h3,.i .i64 p.h4]:=rfl
    simp only [rdB] at sl2 rs2
    simp (disch:=omega)only[go_sem, *]
    clear l0 n0 q0 q2 fr rs0 hsv i1 i2 i3
    refine app_rule (N:=[Part.enc p]) (Sl.alloc sl2 ⟨11,[Part.enc p]⟩) ?_ ?_ ?_ ?_
    · rw [lim_alloc];have:=rs2.lim;have:=rs2.i1;omega
    · rw [next_alloc];have:=rs2.next;omega
    · simp;omega
    intro w h4 s4 g4
    have rs5:=(rs2.new (k:=⟨11,[Part.enc p]⟩)).app g4
    have s5:Sl h.next h4 11 w ((A++[p]).map Part.enc):=by simpa using s4
    have so5:=sl_own s5
    obtain ⟨_,_,_,_,_,_,_,xc1,xc2⟩:=s5.facts
    clear s4 g4 sl2 rs2
    obtain ⟨i1,i2,i3,l0,n0,q0,_,q2,_⟩:=rs5
    simp only [rdB] at q0
    simp (disch:=omega)only[go_sem, *]
    refine ih _ _ _ ?_ ⟨i+1,w,A++[p],s2,rfl,RS.box (row:=[v,.ns,.ns]) ⟨i1,i2,i3,l0,n0,q0,b1,q2,by assumption⟩,sl_put s5 bx _ (so5.imp (fun x=>x) (fun x=>by omega)),by simp;omega,by omega,hP, ?_⟩
    · omega
    · clear ih kk s5
      simp (disch:=omega)only[go_sem, *]
  · have h0:n - i=0:=by omega
    rw [h0,partsS] at hP
    subst hP
    simp (disch:=omega)only[go_sem, *]
    exact kk _ _ v ⟨i1,i2,i3,l0,n0,q0,hb,q2,fr⟩ sl (show A.length≤6 by omega) e0 e2 e3
end Go.Ab.T
namespace Go.Ab.T
open Go Go.Ab
set_option maxHeartbeats 4000000
theorem sl_lt {b sz:Nat} {h:AH} {v:V} {R:List (List V)} (s:Sl b h sz v R):nilV v=true∨idV v<h.next:=by
  rcases s with ⟨hv,_⟩ | ⟨i,el,cap,cs,rfl,_,_,_,_,h1,_⟩
  · rcases hv with rfl | rfl<;>exact .inl rfl
  · exact .inr h1
theorem IsB.chan {s:Rd} (h:IsB s.b):IsB (chanS s).2.b:=by
  unfold chanS
  exact h.cnt.cnt.flag.cnt.cnt.num
theorem read_13 {K : Ex → Env → AH → Prop} {e : Env} {h hh : AH} {id bx n : Nat} {s : Rd} {P : List Chan × Rd} {v2 a : V} (hlo : h.lim ≤ id) (hlb : h.lim ≤ bx) (hn : n ≤ 8) (hP : chansS n [] s = P) (rs : RS h id bx s [a, .ns, .ns] hh)
    (e0:e 0=.p id 0 0) (e2:e 2=v2) (e3:e 3=.p bx 0 0) (e19:e 19=.i .i64 n) (e20:e 20=.i .i64 0)
    (kk:∀ (e:Env) (hh:AH) (v:V),RS h id bx P.2 [a,v,.ns] hh→Sl h.next hh 6 v (P.1.map Chan.enc)→P.1.length≤8→e 0=.p id 0 0→e 2=v2→e 3=.p bx 0 0→K (.ex 2) e hh):ZC tp (.loop Q33_13) e hh K:=by
  refine ZC_loop_n (fun n' e hh=>∃ (i:Nat) (v:V) (A:List Chan) (s:Rd),n'=n - i∧RS h id bx s [a,v,.ns] hh∧Sl h.next hh 6 v (A.map Chan.enc)∧A.length=i∧i≤n∧chansS (n - i) A s=P∧e 0=.p id 0 0∧e 2=v2∧e 3=.p bx 0 0∧e 19=.i .i64 n∧e 20=.i .i64 i) ?_ _ _ _ ⟨0,.ns,[],s,rfl,rs,Sl.nil _ _ _,rfl,by omega,hP,e0,e2,e3,e19,e20⟩
  clear rs e0 e2 e3 e19 e20 e hh hP s
  rintro n' e hh ⟨i,v,A,s,rfl,rs,sl,hA,hi,hP,e0,e2,e3,e19,e20⟩ ih
  have rs0:=rs
  obtain ⟨i1,i2,i3,l0,n0,q0,hb,q2,fr⟩:=rs
  have hown:=sl_own sl
  have hslt:=sl_lt sl
  simp only [rdB] at q0
  rw [ZC_unf Q33_13.eq_1]
  simp (disch:=omega)only[go_sem, *]
  refine Wb_dec (fun hc=>?_) (fun hc=>?_)
  · have hni:n - i=(n - (i+1))+1:=by omega
    rw [hni,chansS] at hP
    simp (disch:=omega)only[go_sem, *]
    refine ccount_ev (s:=s) ?_ hb ?_ ?_
    · simp (disch:=omega)only[go_sem, *]
    · simp (disch:=omega)only[go_sem, *]
    have b1:IsB (cntS 6 s).2.b:=by first | exact IsB.num hb | exact IsB.flag hb | exact IsB.cnt hb
    obtain ⟨t1,ht1⟩:∃ x,cntS 6 s=x:=⟨_,rfl⟩
    rw [ht1] at b1 ⊢
    simp (disch:=omega)only[go_sem, *]
    refine ccount_ev (s:=t1.2) ?_ b1 ?_ ?_
    · simp (disch:=omega)only[go_sem, *]
    · simp (disch:=omega)only[go_sem, *]
    have b2:IsB (cntS 6 t1.2).2.b:=by first | exact IsB.num b1 | exact IsB.flag b1 | exact IsB.cnt b1
    obtain ⟨t2,ht2⟩:∃ x,cntS 6 t1.2=x:=⟨_,rfl⟩
    rw [ht2] at b2 ⊢
    simp (disch:=omega)only[go_sem, *]
    refine crflag_ev (s:=t2.2) ?_ b2 ?_ ?_
    · simp (disch:=omega)only[go_sem, *]
    · simp (disch:=omega)only[go_sem, *]
    have b3:IsB (flagS t2.2).2.b:=by first | exact IsB.num b2 | exact IsB.flag b2 | exact IsB.cnt b2
    obtain ⟨t3,ht3⟩:∃ x,flagS t2.2=x:=⟨_,rfl⟩
    rw [ht3] at b3 ⊢
    simp (disch:=omega)only[go_sem, *]
    refine ccount_ev (s:=t3.2) ?_ b3 ?_ ?_
    · simp (disch:=omega)only[go_sem, *]
    · simp (disch:=omega)only[go_sem, *]
    have b4:IsB (cntS 8 t3.2).2.b:=by first | exact IsB.num b3 | exact IsB.flag b3 | exact IsB.cnt b3
    obtain ⟨t4,ht4⟩:∃ x,cntS 8 t3.2=x:=⟨_,rfl⟩
    rw [ht4] at b4 ⊢
    simp (disch:=omega)only[go_sem, *]
    refine ccount_ev (s:=t4.2) ?_ b4 ?_ ?_
    · simp (disch:=omega)only[go_sem, *]
    · simp (disch:=omega)only[go_sem, *]
    have b5:IsB (cntS 4294967295 t4.2).2.b:=by first | exact IsB.num b4 | exact IsB.flag b4 | exact IsB.cnt b4
    obtain ⟨t5,ht5⟩:∃ x,cntS 4294967295 t4.2=x:=⟨_,rfl⟩
    rw [ht5] at b5 ⊢
    simp (disch:=omega)only[go_sem, *]
    refine cnum_ev (s:=t5.2) ?_ b5 ?_ ?_
    · simp (disch:=omega)only[go_sem, *]
    · simp (disch:=omega)only[go_sem, *]
    have b6:IsB (numS t5.2).2.b:=by first | exact IsB.num b5 | exact IsB.flag b5 | exact IsB.cnt b5
    obtain ⟨t6,ht6⟩:∃ x,numS t5.2=x:=⟨_,rfl⟩
    rw [ht6] at b6 ⊢
    have hch:chanS s=(⟨t1.1,t2.1,t3.1,t4.1,IntKind.wrap .u32 t5.1,t6.1⟩,t6.2):=by
      unfold chanS
      simp only [ht1,ht2,ht3,ht4,ht5,ht6]
    rw [hch] at hP
    simp only at hP
    clear ht1 ht2 ht3 ht4 ht5 ht6 hch
    simp (disch:=omega)only[go_sem, *]
    have rs2:=(((rs0.put (s2:=t4.2) b4).new (k:=⟨6,[[.i .i64 0,.i .i64 0,.b false,.i .i64 0,.i .u32 0,.i .i64 0]]⟩)).putx (k:=⟨6,[[.i .i64 t1.1,.i .i64 t2.1,.b t3.1,.i .i64 t4.1,.i .u32 0,.i .i64 0]]⟩) n0).put (s2:=t6.2) b6
    have rs2:=rs2.putx (k:=⟨6,[[.i .i64 t1.1,.i .i64 t2.1,.b t3.1,.i .i64 t4.1,.i .u32 (IntKind.wrap .u32 t5.1),.i .i64 t6.1]]⟩) n0
    have sl2:=sl_put (Sl.alloc (sl_put sl id (rdB t4.2) (hown.imp (fun x=>x) (fun x=>by omega))) ⟨6,[[.i .i64 0,.i .i64 0,.b false,.i .i64 0,.i .u32 0,.i .i64 0]]⟩) hh.next ⟨6,[[.i .i64 t1.1,.i .i64 t2.1,.b t3.1,.i .i64 t4.1,.i .u32 0,.i .i64 0]]⟩ (hslt.imp (fun x=>x) (fun x=>by omega))
    have sl2:=sl_put (sl_put sl2 id (rdB t6.2) (hown.imp (fun x=>x) (fun x=>by omega))) hh.next ⟨6,[[.i .i64 t1.1,.i .i64 t2.1,.b t3.1,.i .i64 t4.1,.i .u32 (IntKind.wrap .u32 t5.1),.i .i64 t6.1]]⟩ (hslt.imp (fun x=>x) (fun x=>by omega))
    simp only [rdB] at sl2 rs2
    clear l0 q0 q2 fr rs0 i1 i2 i3 b1 b2 b3 b4 b5
    refine app_rule (N:=[Chan.enc (⟨t1.1,t2.1,t3.1,t4.1,IntKind.wrap .u32 t5.1,t6.1⟩:Chan)]) (Sl.alloc sl2 ⟨6,[Chan.enc (⟨t1.1,t2.1,t3.1,t4.1,IntKind.wrap .u32 t5.1,t6.1⟩:Chan)]⟩) ?_ ?_ ?_ ?_
    · rw [lim_alloc];have:=rs2.lim;have:=rs2.i1;omega
    · rw [next_alloc];have:=rs2.next;omega
    · simp;omega
    intro w h4 s4 g4
    have rs5:=(rs2.new (k:=⟨6,[Chan.enc (⟨t1.1,t2.1,t3.1,t4.1,IntKind.wrap .u32 t5.1,t6.1⟩:Chan)]⟩)).app g4
    have s5:Sl h.next h4 6 w ((A++[(⟨t1.1,t2.1,t3.1,t4.1,IntKind.wrap .u32 t5.1,t6.1⟩:Chan)]).map Chan.enc):=by simpa using s4
    have so5:=sl_own s5
    obtain ⟨_,_,_,_,_,_,_,xc1,xc2⟩:=s5.facts
    clear s4 g4 sl2 rs2
    obtain ⟨i1,i2,i3,l0,n5,q0,_,q2,_⟩:=rs5
    simp only [rdB] at q0
    simp (disch:=omega)only[go_sem, *]
    refine ih _ _ _ ?_ ⟨i+1,w,A++[⟨t1.1,t2.1,t3.1,t4.1,IntKind.wrap .u32 t5.1,t6.1⟩],t6.2,rfl,RS.box (row:=[a,v,.ns]) ⟨i1,i2,i3,l0,n5,q0,b6,q2,by assumption⟩,sl_put s5 bx _ (so5.imp (fun x=>x) (fun x=>by omega)),by simp;omega,by omega,hP, ?_⟩
    · omega
    · clear ih kk s5
      simp (disch:=omega)only[go_sem, *]
  · have h0:n - i=0:=by omega
    rw [h0,chansS] at hP
    subst hP
    simp (disch:=omega)only[go_sem, *]
    exact kk _ _ v rs0 sl (show A.length≤8 by omega) e0 e2 e3
end Go.Ab.T
namespace Go.Ab.T
open Go Go.Ab
set_option maxHeartbeats 4000000
theorem read_21 {K : Ex → Env → AH → Prop} {e : Env} {h hh : AH} {id bx n : Nat} {s : Rd} {P : List Node × Rd} {v2 v46 v47 : V} {row : List V} (hlo : h.lim ≤ id) (hn : n ≤ 128) (hP : nodesS n [] s = P) (rs : RS h id bx s row hh)
    (e0:e 0=.p id 0 0) (e2:e 2=v2) (e3:e 3=.p bx 0 0) (e5:e 5=.ns) (e46:e 46=v46) (e47:e 47=v47) (e50:e 50=.i .i64 n) (e51:e 51=.i .i64 0)
    (kk:∀ (e:Env) (hh:AH) (v:V),RS h id bx P.2 row hh→Sl h.next hh 3 v (P.1.map Node.enc)→P.1.length≤128→e 0=.p id 0 0→e 2=v2→e 3=.p bx 0 0→e 5=v→e 46=v46→e 47=v47→K (.ex 6) e hh):ZC tp (.loop Q33_21) e hh K:=by
  refine ZC_loop_n (fun n' e hh=>∃ (i:Nat) (v:V) (A:List Node) (s:Rd),n'=n - i∧RS h id bx s row hh∧Sl h.next hh 3 v (A.map Node.enc)∧A.length=i∧i≤n∧nodesS (n - i) A s=P∧e 0=.p id 0 0∧e 2=v2∧e 3=.p bx 0 0∧e 5=v∧e 46=v46∧e 47=v47∧e 50=.i .i64 n∧e 51=.i .i64 i) ?_ _ _ _ ⟨0,.ns,[],s,rfl,rs,Sl.nil _ _ _,rfl,by omega,hP,e0,e2,e3,e5,e46,e47,e50,e51⟩
  clear rs e0 e2 e3 e5 e46 e47 e50 e51 e hh hP s
  rintro n' e hh ⟨i,v,A,s,rfl,rs,sl,hA,hi,hP,e0,e2,e3,e5,e46,e47,e50,e51⟩ ih
  have rs0:=rs
  obtain ⟨i1,i2,i3,l0,n0,q0,hb,q2,fr⟩:=rs
  have hown:=sl_own sl
  simp only [rdB] at q0
  rw [ZC_unf Q33_21.eq_1]
  simp (disch:=omega)only[go_sem, *]
  refine Wb_dec (fun hc=>?_) (fun hc=>?_)
  · have hni:n - i=(n - (i+1))+1:=by omega
    rw [hni,nodesS] at hP
    simp (disch:=omega)only[go_sem, *]
    refine ccount_ev (s:=s) ?_ hb ?_ ?_
    · simp (disch:=omega)only[go_sem, *]
    · simp (disch:=omega)only[go_sem, *]
    have b1:IsB (cntS 4 s).2.b:=by first | exact IsB.num hb | exact IsB.flag hb | exact IsB.cnt hb
    obtain ⟨t1,ht1⟩:∃ x,cntS 4 s=x:=⟨_,rfl⟩
    rw [ht1] at b1 ⊢
    simp (disch:=omega)only[go_sem, *]
    refine ccount_ev (s:=t1.2) ?_ b1 ?_ ?_
    · simp (disch:=omega)only[go_sem, *]
    · simp (disch:=omega)only[go_sem, *]
    have b2:IsB (cntS 6 t1.2).2.b:=by first | exact IsB.num b1 | exact IsB.flag b1 | exact IsB.cnt b1
    obtain ⟨t2,ht2⟩:∃ x,cntS 6 t1.2=x:=⟨_,rfl⟩
    rw [ht2] at b2 ⊢
    simp (disch:=omega)only[go_sem, *]
    refine cnum_ev (s:=t2.2) ?_ b2 ?_ ?_
    · simp (disch:=omega)only[go_sem, *]
    · simp (disch:=omega)only[go_sem, *]
    have b3:IsB (numS t2.2).2.b:=by first | exact IsB.num b2 | exact IsB.flag b2 | exact IsB.cnt b2
    obtain ⟨t3,ht3⟩:∃ x,numS t2.2=x:=⟨_,rfl⟩
    rw [ht3] at b3 ⊢
    have hnd:nodeS s=(⟨t1.1,t2.1,t3.1⟩,t3.2):=by
      unfold nodeS
      simp only [ht1,ht2,ht3]
    rw [hnd] at hP
    simp only at hP
    clear ht1 ht2 ht3 hnd
    have rs2:=rs0.put (s2:=t3.2) b3
    have sl2:=sl_put sl id (rdB t3.2) (hown.imp (fun x=>x) (fun x=>by omega))
    simp only [rdB] at sl2
    simp (disch:=omega)only[go_sem, *]
    refine app_rule (N:=[Node.enc ⟨t1.1,t2.1,t3.1⟩]) (Sl.alloc sl2 ⟨3,[Node.enc ⟨t1.1,t2.1,t3.1⟩]⟩) ?_ ?_ ?_ ?_
    · rw [lim_alloc,lim_put];omega
    · rw [next_alloc,next_put];omega
    · simp;omega
    intro w h4 s4 g4
    have rs5:=(rs2.new (k:=⟨3,[Node.enc ⟨t1.1,t2.1,t3.1⟩]⟩)).app g4
    have s5:Sl h.next h4 3 w ((A++[(⟨t1.1,t2.1,t3.1⟩:Node)]).map Node.enc):=by simpa using s4
    clear s4 g4 sl2 rs2 rs0 l0 n0 q0 q2 fr
    simp (disch:=omega)only[go_sem, *]
    refine ih _ _ _ ?_ ⟨i+1,w,A++[⟨t1.1,t2.1,t3.1⟩],t3.2,rfl,rs5,s5,by simp;omega,by omega,hP, ?_⟩
    · omega
    · clear ih kk s5 rs5
      simp (disch:=omega)only[go_sem, *]
  · have h0:n - i=0:=by omega
    rw [h0,nodesS] at hP
    subst hP
    simp (disch:=omega)only[go_sem, *]
    exact kk _ _ v rs0 sl (show A.length≤128 by omega) e0 e2 e3 e5 e46 e47
end Go.Ab.T
namespace Go.Ab.T
open Go Go.Ab
set_option maxHeartbeats 4000000
theorem Frzr.setB {P:Nat→Prop} {h:AH} {n:Nat} {r r':List V} (q:Frzs P h n r r'):∀ {a a':List (List V)} (k:Nat),Frzr P h n a a'→Frzr P h n (a.set k r) (a'.set k r')
  | _,_,_,.nil _=>.nil _
  | _,_,0,.cons _ _ _ _ _ _ t=>.cons _ _ _ _ _ q t
  | _,_,k+1,.cons _ _ _ _ _ p t=>.cons _ _ _ _ _ p (Frzr.setB q k t)
theorem Stp_row {e : Env} {h H : AH} {id bx : Nat} {s : Rd} {row : List V} {w v : V} {R : List (List V)} {T : List Node} (live : List Nat) (rs : RS h id bx s row H) (sw : Sl h.next H 1 w (R ++ [[v]])) (sv : Sl h.next H 3 v (T.map Node.enc)) (hd : nilV v = true ∨ idV w ≠ idV v) (hT : T.length < 4000000000)
    (hv:∀ t,t∈live→∀ P,Frz P H H.next (e t) (e t)):∃ H',Stp e H (fun t=>if t∈live then e t else .u) H'∧RS h id bx s row H'∧Sl h.next H' 1 w (R++[[.fl 3 (T.map Node.enc)]]):=by
  obtain ⟨_,_,lt,lo,get,_,rw_,_,_⟩:=Sl.facts (enc:=fun x=>x) (L:=R++[[v]]) (by simpa using sw)
  have hlen:0<(R++[[v]]).length:=by simp
  have lt:=lt hlen
  have lo:=lo hlen
  have get:=get hlen
  have hrow:=rw_ R.length (by simp)
  have hnv:nth (R++[[v]]) R.length=[v]:=by simp [nth,List.getD]
  rw [hnv] at hrow
  have i1:=rs.i1
  have i2:=rs.i2
  have hself:(csOf H w).set (elV w+R.length) [v]=csOf H w:=by
    obtain ⟨hp,hq⟩:=List.getElem?_eq_some_iff.1 hrow
    rw [← hq]
    exact List.set_getElem_self hp
  have sown:=sl_own sv
  obtain ⟨H0,hH0⟩:∃ H0:AH,H0=(if nilV v=true then H else H.kill (idV v)):=⟨_,rfl⟩
  have g0:∀ j,(nilV v=true∨j≠idV v)→H0.get j=H.get j:=fun j hj=>by
    rw [hH0]
    by_cases q:nilV v=true
    · rw [if_pos q]
    · rw [if_neg q,get_kill,gsel_ne (hj.resolve_left q)]
  have n0:H0.next=H.next:=by rw [hH0];split<;>rfl
  have l0:H0.lim=H.lim:=by rw [hH0];split<;>rfl
  have far:∀ j,j<h.next→(nilV v=true∨j≠idV v):=fun j hj=>sown.imp (fun x=>x) (fun x=>by omega)
  have fv:∀ n,Frz (fun i=>nilV v=false∧i=idV v) H n v (.fl 3 (T.map Node.enc)):=fun n=>by
    by_cases q:nilV v=true
    · rcases sv with ⟨a,b⟩ | ⟨_,_,_,_,rfl,_⟩
      · rw [b];rcases a with rfl | rfl
        · exact .ns _ _
        · exact .e0 _ _
      · cases q
    · exact Sl.froze sv (fun _=>rfl) ⟨by simpa using q,rfl⟩ hT
  refine ⟨H0.put (idV w) ⟨1,(csOf H w).set (elV w+R.length) [.fl 3 (T.map Node.enc)]⟩,Stp_frz (fun i=>nilV v=false∧i=idV v) live e (fun wf=>⟨n0,l0,fun i k hk=>?_,fun t ht=>by show Frz _ H H0.next _ _;rw [n0];exact hv t ht _⟩), ?_, ?_⟩
  · rw [get_put] at hk
    by_cases hi:i=idV w
    · rw [gsel_eq hi] at hk
      cases hk
      subst hi
      refine ⟨by show idV w<H0.next;omega,fun q=>?_,_,get, ?_⟩
      · rcases hd with d | d
        · rw [d] at q;cases q.1
        · exact d q.2
      · have:=Frzr.setB (r:=[v]) (r':=[.fl 3 (T.map Node.enc)]) (.cons _ _ _ _ _ (fv _) (.nil _)) (elV w+R.length) ((wf.2 _ _ get).2 (fun i=>nilV v=false∧i=idV v) H)
        rw [hself] at this
        show Frzr _ H H0.next _ _
        rw [n0]
        exact this
    · rw [gsel_ne hi] at hk
      have hne:nilV v=true∨i≠idV v:=by
        by_cases q:nilV v=true
        · exact .inl q
        · refine .inr fun q2=>?_
          rw [hH0,if_neg q,get_kill,gsel_eq q2] at hk
          cases hk
      rw [g0 i hne] at hk
      refine ⟨by show i<H0.next;have:=(wf.2 i k hk).1;omega,fun q=>?_,k.cs,hk,by show Frzr _ H H0.next _ _;rw [n0];exact (wf.2 i k hk).2 _ _⟩
      rcases hne with d | d
      · rw [d] at q;cases q.1
      · exact d q.2
  · have nx:=rs.next
    exact ⟨i1,i2,rs.i3,by show H0.lim=h.lim;rw [l0];exact rs.lim,by show h.next≤H0.next;omega,by rw [get_put,gsel_ne (by omega),g0 _ (far _ i1)];exact rs.rd,rs.isb,by rw [get_put,gsel_ne (by omega),g0 _ (far _ i2)];exact rs.q,fun j hj hne hne2=>by rw [get_put,gsel_ne (by omega),g0 _ (far _ hj)];exact rs.fr j hj hne hne2⟩
  · have:=Sl.of_get (j:=R.length) (r:=[.fl 3 (T.map Node.enc)]) (h':=H0.put (idV w) ⟨1,(csOf H w).set (elV w+R.length) [.fl 3 (T.map Node.enc)]⟩) sw (by simp) (by show H.next≤H0.next;omega) (by rw [get_put,gsel_eq rfl])
    simpa using this
theorem read_24 {K : Ex → Env → AH → Prop} {e : Env} {h hh : AH} {id bx n : Nat} {s : Rd} {P : List (List Node) × Rd} {i2' : Nat} {a c : V} (hlo : h.lim ≤ id) (hlb : h.lim ≤ bx) (hn : n ≤ 3) (hP : tabsS n [] s = P) (rs : RS h id bx s [a, c, .ns] hh) (h2 : i2' < h.next)
    (e0:e 0=.p id 0 0) (e2:e 2=.p i2' 0 0) (e3:e 3=.p bx 0 0) (e46:e 46=.i .i64 n) (e47:e 47=.i .i64 0)
    (kk:∀ (e:Env) (hh:AH) (v:V),RS h id bx P.2 [a,c,v] hh→Sl h.next hh 1 v (P.1.map Tab.enc)→P.1.length≤3→e 0=.p id 0 0→e 2=.p i2' 0 0→e 3=.p bx 0 0→K (.ex 4) e hh):ZC tp (.loop Q33_24) e hh K:=by
  refine ZC_loop_n (fun n' e hh=>∃ (i:Nat) (v:V) (A:List (List Node)) (s:Rd),n'=n - i∧RS h id bx s [a,c,v] hh∧Sl h.next hh 1 v (A.map Tab.enc)∧A.length=i∧i≤n∧tabsS (n - i) A s=P∧e 0=.p id 0 0∧e 2=.p i2' 0 0∧e 3=.p bx 0 0∧e 46=.i .i64 n∧e 47=.i .i64 i) ?_ _ _ _ ⟨0,.ns,[],s,rfl,rs,Sl.nil _ _ _,rfl,by omega,hP,e0,e2,e3,e46,e47⟩
  clear rs e0 e2 e3 e46 e47 e hh hP s
  rintro n' e hh ⟨i,v,A,s,rfl,rs,sl,hA,hi,hP,e0,e2,e3,e46,e47⟩ ih
  have rs0:=rs
  obtain ⟨i1,i2,i3,l0,n0,q0,hb,q2,fr⟩:=rs
  have hown:=sl_own sl
  have hslt:=sl_lt sl
  simp only [rdB] at q0
  rw [ZC_unf Q33_24.eq_1]
  simp (disch:=omega)only[go_sem, *]
  refine Wb_dec (fun hc=>?_) (fun hc=>?_)
  · have hni:n - i=(n - (i+1))+1:=by omega
    rw [hni,tabsS] at hP
    simp (disch:=omega)only[go_sem, *]
    refine ccount_ev (s:=s) ?_ hb ?_ ?_
    · simp (disch:=omega)only[go_sem, *]
    · simp (disch:=omega)only[go_sem, *]
    have b1:IsB (cntS 128 s).2.b:=by first | exact IsB.num hb | exact IsB.flag hb | exact IsB.cnt hb
    obtain ⟨t1,ht1⟩:∃ x,cntS 128 s=x:=⟨_,rfl⟩
    rw [ht1] at b1 ⊢
    have c1:0≤t1.1∧t1.1≤128:=by rw [← ht1];exact cnt_bd (by omega)
    obtain ⟨n1,hn1⟩:∃ n:Nat,t1.1=n:=⟨t1.1.toNat,by omega⟩
    have htb:tabS s=nodesS n1 [] t1.2:=by unfold tabS;rw [ht1,hn1,Int.toNat_natCast]
    rw [htb] at hP
    obtain ⟨t2,ht2⟩:∃ x,nodesS n1 [] t1.2=x:=⟨_,rfl⟩
    rw [ht2] at hP
    clear ht1 htb
    have rs2:=rs0.put (s2:=t1.2) b1
    have sl2:=sl_put sl id (rdB t1.2) (hown.imp (fun x=>x) (fun x=>by omega))
    have rs3:RS (hh.put id (rdB t1.2)) id bx t1.2 [a,c,v] (hh.put id (rdB t1.2)):=⟨by show id<hh.next;omega,by show bx<hh.next;omega,i3,rfl,Nat.le_refl _,rs2.rd,b1,rs2.q,fun _ _ _ _=>rfl⟩
    simp only [rdB] at rs3
    simp (disch:=omega)only[go_sem, *]
    refine read_21 (n:=n1) (P:=t2) (v2:=.p i2' 0 0) (v46:=.i .i64 n) (v47:=.i .i64 i) ?_ (by omega) ht2 rs3 ?_ ?_ ?_ ?_ ?_ ?_ ?_ ?_ ?_
    any_goals (simp (disch:=omega)only[go_sem, *];done)
    clear e0 e2 e3 e46 e47 e
    intro e h1 v1 rsI sv hT e0 e2 e3 e5 e46 e47
    have nI:hh.next≤h1.next:=rsI.next
    have lI:h1.lim=hh.lim:=rsI.lim
    have rs4:RS h id bx t2.2 [a,c,v] h1:=⟨i1,i2,i3,lI.trans l0,by omega,rsI.rd,rsI.isb,rsI.q,fun j hj hne hne2=>by
      rw [rsI.fr j (by show j<hh.next;omega) hne hne2,get_put,gsel_ne hne];exact fr j hj hne hne2⟩
    have sl3:Sl h.next h1 1 v (A.map Tab.enc):=by
      rcases hown with q | q
      · rcases sl with ⟨a,b⟩ | ⟨_,_,_,_,rfl,_⟩
        · exact .inl ⟨a,b⟩
        · cases q
      · exact sl.same nI (fun hq=>by rw [rsI.fr _ (by show idV v<hh.next;exact hq) (by omega) (by omega),get_put,gsel_ne (by omega)])
    have sv1:Sl h.next h1 3 v1 (t2.1.map Node.enc):=Sl.weak sv (by show h.next≤hh.next;exact n0)
    have o1:nilV v1=true∨hh.next≤idV v1:=sl_own sv
    have o2:=sl_lt sv1
    obtain ⟨_,_,_,_,_,_,_,vc1,vc2⟩:=sv1.facts
    have rs4':=rs4
    obtain ⟨_,_,_,l1,n1',q0,b4,q2,_⟩:=rs4
    simp only [rdB] at q0
    clear fr sl2 rs2 rs3 rs0 hb b1 sl sv rsI
    simp (disch:=omega)only[go_sem, *]
    refine app_rule (N:=[[v1]]) (Sl.alloc sl3 ⟨1,[[v1]]⟩) ?_ ?_ ?_ ?_
    · rw [lim_alloc];omega
    · rw [next_alloc];omega
    · simp;omega
    intro w h4 s4 g4
    have rs5:=(rs4'.new (k:=⟨1,[[v1]]⟩)).app g4
    have so5:=sl_own s4
    have hgv:nilV v=true∨idV v<hh.next:=hslt
    have hd:nilV v1=true∨idV w≠idV v1:=by
      rcases o1 with q | q
      · exact .inl q
      · refine .inr ?_
        rcases o2 with q2 | q2
        · rcases sv1 with ⟨x,_⟩ | ⟨_,_,_,_,rfl,_⟩
          · rcases x with rfl | rfl<;>simp [idV] at q<;>omega
          · cases q2
        · rcases g4.own with y | ⟨y1,y2⟩ | y
          · rcases s4 with ⟨_,z⟩ | ⟨_,_,_,_,rfl,_⟩
            · simp at z
            · cases y
          · rcases hgv with z | z
            · rw [z] at y1;cases y1
            · omega
          · rw [next_alloc] at y;omega
    have sv4:Sl h.next h4 3 v1 (t2.1.map Node.enc):=by
      have gn:=g4.next
      rw [next_alloc] at gn
      rcases o1 with q | q
      · rcases sv1 with ⟨a,b⟩ | ⟨_,_,_,_,rfl,_⟩
        · exact .inl ⟨a,b⟩
        · cases q
      · exact sv1.same (by omega) (fun hq=>by rw [g4.get _ (by rw [next_alloc];omega) (hgv.imp (fun x=>x) (fun z=>by omega)),get_alloc,gsel_ne (by omega)])
    have ov4:nilV v1=true∨h.next≤idV v1:=sl_own sv4
    have xc1:=g4.cell
    have xc2:=g4.cells
    clear sl3 rs4' l1 n1' q0 q2 b4 g4 sv1 nI lI
    have rs6:=rs5
    obtain ⟨_,_,_,l5,n5,q0,b5,q2,_⟩:=rs5
    simp only [rdB] at q0
    simp (disch:=omega)only[go_sem, *]
    have rs7:=RS.box (row':=[a,c,w]) rs6
    have sw7:=sl_put s4 bx ⟨3,[[a,c,w]]⟩ (so5.imp (fun x=>x) (fun x=>by omega))
    have sv7:=sl_put sv4 bx ⟨3,[[a,c,w]]⟩ (ov4.imp (fun x=>x) (fun x=>by omega))
    have n7:h.next≤(h4.put bx ⟨3,[[a,c,w]]⟩).next:=n5
    clear rs6 s4 sv4 q0 q2 l5
    have key:∀ (E:Env) (H:AH),E 0=.p id 0 0→E 2=.p i2' 0 0→E 3=.p bx 0 0→E 46=.i .i64 n→E 47=.i .i64 ((i+1:Nat):Int)→RS h id bx t2.2 [a,c,w] H→Sl h.next H 1 w (A.map Tab.enc++[[v1]])→Sl h.next H 3 v1 (t2.1.map Node.enc)→ZC tp (.loop Q33_24) E H K:=by
      intro E H f0 f2 f3 f46 f47 r6 w6 v6
      have nx:=r6.next
      obtain ⟨H',st,rs',sw'⟩:=Stp_row (e:=E) [0,2,3,46,47] r6 w6 v6 hd (by omega) (fun t ht P=>by
        simp only [List.mem_cons,List.not_mem_nil,or_false] at ht
        rcases ht with rfl | rfl | rfl | rfl | rfl
        · rw [f0];exact .p _ _ _ _ (by omega)
        · rw [f2];exact .p _ _ _ _ (by omega)
        · rw [f3];exact .p _ _ _ _ (by omega)
        · rw [f46];exact .z _ _ (.i _ _)
        · rw [f47];exact .z _ _ (.i _ _))
      refine ZC_step st (ih _ _ _ ?_ ⟨i+1,w,A++[t2.1],t2.2,rfl,rs',by simpa [Tab.enc] using sw',by simp;omega,by omega,hP,by simp [f0],by simp [f2],by simp [f3],by simp [f46],by simp [f47]⟩)
      omega
    clear ih kk
    refine key _ _ ?_ ?_ ?_ ?_ ?_ rs7 sw7 sv7
    all_goals simp (disch:=omega)only[go_sem, *]
  · have h0:n - i=0:=by omega
    rw [h0,tabsS] at hP
    subst hP
    simp (disch:=omega)only[go_sem, *]
    exact kk _ _ v rs0 sl (show A.length≤3 by omega) e0 e2 e3
end Go.Ab.T
namespace Go.Ab.T
open Go Go.Ab
set_option maxHeartbeats 4000000
theorem RS.thru {h1 hh:AH} {id bx sz b:Nat} {s:Rd} {row:List V} {v:V} {R:List (List V)} (rs:RS h1 id bx s row hh) (sl:Sl b h1 sz v R) (h1':id<b) (h2':bx<b):Sl b hh sz v R:=by
  rcases sl_own sl with q | q
  · rcases sl with ⟨a,c⟩ | ⟨_,_,_,_,rfl,_⟩
    · exact .inl ⟨a,c⟩
    · cases q
  · exact sl.same rs.next (fun hq=>rs.fr _ hq (by omega) (by omega))
structure Lo (h:AH) (id:Nat) (hh:AH):Prop where
  lim:hh.lim=h.lim
  next:h.next+2≤hh.next
  q:hh.get h.next=some ⟨3,[[.ns,.ns,.ns]]⟩
  fr:∀ j,j<h.next→j≠id→hh.get j=h.get j
theorem Lo.thru {h B hh:AH} {id:Nat} {s:Rd} {row:List V} (lo:Lo h id B) (hid:id<h.next) (rs:RS B id (h.next+1) s row hh):Lo h id hh:=by
  have n:=lo.next
  have m:=rs.next
  exact ⟨rs.lim.trans lo.lim,by omega,by rw [rs.fr _ (by omega) (by omega) (by omega)];exact lo.q,fun j hj hne=>by rw [rs.fr _ (by omega) hne (by omega)];exact lo.fr j hj hne⟩
theorem Lo.put {h hh:AH} {id:Nat} {k:Blk} (lo:Lo h id hh) (hid:id<h.next):Lo h id (hh.put id k):=
  ⟨lo.lim,lo.next,by rw [get_put,gsel_ne (by omega)];exact lo.q,fun j hj hne=>by rw [get_put,gsel_ne hne];exact lo.fr j hj hne⟩
theorem RS.re {B hh:AH} {id bx:Nat} {s s2:Rd} {row:List V} (rs:RS B id bx s row hh) (hb:IsB s2.b):RS (hh.put id (rdB s2)) id bx s2 row (hh.put id (rdB s2)):=by
  have a:=rs.i1;have b:=rs.i2;have c:=rs.next
  exact ⟨by show id<hh.next;omega,by show bx<hh.next;omega,rs.i3,rfl,Nat.le_refl _,(rs.put hb).rd,hb,(rs.put hb).q,fun _ _ _ _=>rfl⟩
theorem imgRead_ev {h:AH} {id:Nat} {s:Rd} {K:V→AH→Prop} (hg:h.get id=some (rdB s)) (hb:IsB s.b) (hlo:h.lim≤id) (kk:K (.agg (confS s).1.enc) (h.put id (rdB (confS s).2))):Cq tp i_Q33 [.p id 0 0] h K:=by
  refine Cq_upd fn_Q33 (by simp [t_Q33]) ((by rw [hg];rfl)) (fun _ _ _=>.cons _ _ _ _ _ (Frzs.of_stay rfl) (.nil _)) (kk) fun hlm hid rp=>?_;unfold t_Q33;simp (disch:=omega)only[go_sem, *]
  clear kk
  have hgf:h.get id=some ⟨2,[[.fl 1 (s.b.map encB),.b s.bad]]⟩:=hg
  try simp (disch:=omega)only[go_sem, *]
  refine ccount_ev (s:=s) ?_ hb ?_ ?_
  · simp (disch:=omega)only[go_sem, *]
  · simp (disch:=omega)only[go_sem, *]<;>omega
  have b1:IsB (cntS 6 s).2.b:=by first | exact IsB.num hb | exact IsB.flag hb | exact IsB.cnt hb
  obtain ⟨t1,ht1⟩:∃ x,cntS 6 s=x:=⟨_,rfl⟩
  rw [ht1] at b1 ⊢
  have c1:0≤t1.1∧t1.1≤6:=by rw [← ht1];exact cnt_bd (by omega)
  obtain ⟨n1,hn1⟩:∃ n:Nat,t1.1=n:=⟨t1.1.toNat,by omega⟩
  obtain ⟨p1,hp1⟩:∃ x,partsS n1 [] t1.2=x:=⟨_,rfl⟩
  simp (disch:=omega)only[go_sem, *]
  refine read_6 (h:=((h.alloc ⟨3,[[.ns,.ns,.ns]]⟩).alloc ⟨3,[[.ns,.ns,.ns]]⟩).put id (rdB t1.2)) (id:=id) (bx:=h.next+1) (n:=n1) (s:=t1.2) (P:=p1) (v2:=.p h.next 0 0) ?_ ?_ (by omega) hp1 ⟨?_, ?_, ?_,rfl,Nat.le_refl _, ?_,b1, ?_,fun _ _ _ _=>rfl⟩ ?_ ?_ ?_ ?_ ?_ ?_
  any_goals (simp (disch:=omega)only[go_sem, *];done)
  any_goals (simp (disch:=omega)only[go_sem, *]<;>omega)
  · omega
  have lo0:Lo h id (((h.alloc ⟨3,[[.ns,.ns,.ns]]⟩).alloc ⟨3,[[.ns,.ns,.ns]]⟩).put id (rdB t1.2)):=⟨rfl,Nat.le_refl _,by simp (disch:=omega)only[go_sem, *],fun j hj hne=>by simp (disch:=omega)only[go_sem, *]⟩
  intro e hh va r1 sa la e0 e2 e3
  have lo1:=lo0.thru hid r1
  have sa1:Sl (h.next+2) hh 11 va (p1.1.map Part.enc):=sa
  clear sa lo0 hgf b1 c1
  have b1:=r1.isb
  have q0:=r1.rd
  have l1:=lo1.lim
  have n1':=lo1.next
  simp only [rdB] at q0
  try simp (disch:=omega)only[go_sem, *]
  refine ccount_ev (s:=p1.2) ?_ b1 ?_ ?_
  · simp (disch:=omega)only[go_sem, *]
  · simp (disch:=omega)only[go_sem, *]<;>omega
  have b2:IsB (cntS 8 p1.2).2.b:=by first | exact IsB.num b1 | exact IsB.flag b1 | exact IsB.cnt b1
  obtain ⟨t2,ht2⟩:∃ x,cntS 8 p1.2=x:=⟨_,rfl⟩
  rw [ht2] at b2 ⊢
  have c2:0≤t2.1∧t2.1≤8:=by rw [← ht2];exact cnt_bd (by omega)
  obtain ⟨n2,hn2⟩:∃ n:Nat,t2.1=n:=⟨t2.1.toNat,by omega⟩
  obtain ⟨p2,hp2⟩:∃ x,chansS n2 [] t2.2=x:=⟨_,rfl⟩
  have r2:=r1.re b2
  have lo2:=lo1.put (k:=rdB t2.2) hid
  have sa2:=sl_put sa1 id (rdB t2.2) ((sl_own sa1).imp (fun x=>x) (fun x=>by omega))
  simp only [rdB] at r2
  simp (disch:=omega)only[go_sem, *]
  refine read_13 (n:=n2) (P:=p2) (v2:=.p h.next 0 0) ?_ ?_ (by omega) hp2 r2 ?_ ?_ ?_ ?_ ?_ ?_
  any_goals (simp (disch:=omega)only[go_sem, *];done)
  any_goals (simp (disch:=omega)only[go_sem, *]<;>omega)
  clear r2 lo1 l1 n1' q0 sa1 b1 c2
  intro e hh3 vb r3 sb lb e0 e2 e3
  have lo3:=lo2.thru hid r3
  have sa3:=r3.thru sa2 (by omega) (by omega)
  have sb3:Sl (h.next+2) hh3 6 vb (p2.1.map Chan.enc):=Sl.weak sb lo2.next
  clear sb sa2 lo2 b2
  have b3:=r3.isb
  have q0:=r3.rd
  have l1:=lo3.lim
  have n1':=lo3.next
  simp only [rdB] at q0
  try simp (disch:=omega)only[go_sem, *]
  refine ccount_ev (s:=p2.2) ?_ b3 ?_ ?_
  · simp (disch:=omega)only[go_sem, *]
  · simp (disch:=omega)only[go_sem, *]<;>omega
  have b3:IsB (cntS 3 p2.2).2.b:=by first | exact IsB.num b3 | exact IsB.flag b3 | exact IsB.cnt b3
  obtain ⟨t3,ht3⟩:∃ x,cntS 3 p2.2=x:=⟨_,rfl⟩
  rw [ht3] at b3 ⊢
  have c3:0≤t3.1∧t3.1≤3:=by rw [← ht3];exact cnt_bd (by omega)
  obtain ⟨n3,hn3⟩:∃ n:Nat,t3.1=n:=⟨t3.1.toNat,by omega⟩
  obtain ⟨p3,hp3⟩:∃ x,tabsS n3 [] t3.2=x:=⟨_,rfl⟩
  have r4:=r3.re b3
  have lo4:=lo3.put (k:=rdB t3.2) hid
  have sa4:=sl_put sa3 id (rdB t3.2) ((sl_own sa3).imp (fun x=>x) (fun x=>by omega))
  have sb4:=sl_put sb3 id (rdB t3.2) ((sl_own sb3).imp (fun x=>x) (fun x=>by omega))
  simp only [rdB] at r4
  simp (disch:=omega)only[go_sem, *]
  refine read_24 (n:=n3) (P:=p3) (i2':=h.next) ?_ ?_ (by omega) hp3 r4 ?_ ?_ ?_ ?_ ?_ ?_ ?_
  any_goals (simp (disch:=omega)only[go_sem, *];done)
  any_goals (simp (disch:=omega)only[go_sem, *]<;>omega)
  clear r4 lo3 l1 n1' q0 sa3 sb3 b3 c3
  intro e hh5 vc r5 sc lc e0 e2 e3
  have lo5:=lo4.thru hid r5
  have sa5:=r5.thru sa4 (by omega) (by omega)
  have sb5:=r5.thru sb4 (by omega) (by omega)
  have sc5:Sl (h.next+2) hh5 1 vc (p3.1.map Tab.enc):=Sl.weak sc lo4.next
  clear sc sa4 sb4 lo4
  have q0:=r5.rd
  have q2:=r5.q
  obtain ⟨l5,n5,q1,fr5⟩:=lo5
  simp only [rdB] at q0
  have hcs:confS s=(⟨p1.1,p2.1,p3.1⟩,p3.2):=by
    unfold confS
    simp only [ht1,hn1,Int.toNat_natCast,hp1,ht2,hn2,hp2,ht3,hn3,hp3]
  obtain ⟨_,_,_,_,_,_,_,ac1,ac2⟩:=sa5.facts
  obtain ⟨_,_,_,_,_,_,_,bc1,bc2⟩:=sb5.facts
  obtain ⟨_,_,_,_,_,_,_,cc1,cc2⟩:=sc5.facts
  have oa:=sl_own sa5
  have ob:=sl_own sb5
  have oc:=sl_own sc5
  have fa:=fun k=>Sl.frzb (nx:=h.next) (Sl.weak (sl_put sa5 h.next k (oa.imp (fun x=>x) (fun x=>by omega))) (Nat.le_add_right h.next 2)) (fun _=>rfl) (by omega)
  have fb:=fun k=>Sl.frzb (nx:=h.next) (Sl.weak (sl_put sb5 h.next k (ob.imp (fun x=>x) (fun x=>by omega))) (Nat.le_add_right h.next 2)) (fun _=>rfl) (by omega)
  have fc:=fun k=>Sl.frzb (nx:=h.next) (Sl.weak (sl_put sc5 h.next k (oc.imp (fun x=>x) (fun x=>by omega))) (Nat.le_add_right h.next 2)) (fun _=>rfl) (by omega)
  clear ht1 hn1 hp1 ht2 hn2 hp2 ht3 hn3 hp3 r1 r3 r5 oa ob oc sa5 sb5 sc5
  simp (disch:=omega)only[go_sem, *]
  exact ⟨by show h.next≤hh5.next;omega,l5,by rw [get_put,gsel_ne (by omega)];exact q0,fun j hj hne=>by rw [get_put,gsel_ne (by omega)];exact fr5 j hj hne⟩
end Go.Ab.T
namespace Go.Ab.T
open Go Go.Ab
set_option maxHeartbeats 4000000
noncomputable def readI (b:List Int):Config×Int:=
  if (openR b).2=false then (⟨[],[],[]⟩,13)
  else if (openR b).1.length<4 then (⟨[],[],[]⟩,12)
  else if (imgR (confS ⟨(openR b).1.drop 4,false⟩).1).2=0∧(imgR (confS ⟨(openR b).1.drop 4,false⟩).1).1=b then ((confS ⟨(openR b).1.drop 4,false⟩).1,0) else (⟨[],[],[]⟩,12)
theorem textS_nm {m:Int} {s:Rd} (hm:m≤1000):(textS m s).1.size≤1000:=by
  unfold textS
  split
  · exact Nat.zero_le _
  · unfold cutR sOf
    split
    · exact Nat.zero_le _
    · rename_i q
      simp only [ByteArray.size,List.size_toArray,List.length_map,List.length_take]
      omega
theorem parts_nm:∀ (n:Nat) (A:List Part) (s:Rd),(∀ p∈A,p.name.size≤1000)→∀ p∈(partsS n A s).1,p.name.size≤1000
  | 0,_,_,h=>h
  | n+1,A,s,h=>by
    unfold partsS
    refine parts_nm n _ _ fun p hp=>?_
    rcases List.mem_append.1 hp with q | q
    · exact h p q
    · rw [List.mem_singleton.1 q]
      unfold partS
      exact textS_nm (by omega)
theorem conf_nm {s:Rd}:NmOk (confS s).1:=fun p hp=>by
  have:=parts_nm (cntS 6 s).1.toNat [] (cntS 6 s).2 (fun _ h=>by cases h) p (by unfold confS at hp;exact hp)
  omega
theorem openR_isb {b:List Int} (h:IsB b):IsB (openR b).1:=by
  unfold openR
  split
  · exact h.take
  · exact fun z hz=>by cases hz
theorem cread_ev {h:AH} {B:List Int} {K:V→AH→Prop} (kk:K (.p h.next 0 0) (h.alloc (rdB ⟨B,false⟩))):Cq tp i_Q34 [.fl 1 (B.map encB)] h K:=by
  refine Cq_raw_go fn_Q34 (by simp [t_Q34]) fun wf rp=>?_
  unfold t_Q34
  simp only [rdB] at kk
  simp (disch:=omega)only[go_sem, *]
theorem imgReadB_ev {b:List Int} (hb:IsB b):Pf tp i_Q11 [.fl 1 (b.map encB)] (.tup [.agg (readI b).1.enc,.i .i64 (readI b).2]):=by
  refine Pf_go fn_Q11 (by simp [t_Q11]) fun rp=>?_
  have hL:=rp.head.len
  have ho:=sumOpen_ev (B:=b)
  have hob:=openR_isb hb
  have hol:(openR b).1.length≤b.length:=by unfold openR;split<;>simp
  have r1:(openR b).2=false→readI b=(⟨[],[],[]⟩,13):=fun q=>if_pos q
  have r2:(openR b).2=true→(openR b).1.length<4→readI b=(⟨[],[],[]⟩,12):=fun q q2=>by unfold readI;rw [if_neg (by rw [q];decide),if_pos q2]
  have r3:(openR b).2=true→¬ (openR b).1.length<4→readI b=(if (imgR (confS ⟨(openR b).1.drop 4,false⟩).1).2=0∧(imgR (confS ⟨(openR b).1.drop 4,false⟩).1).1=b then ((confS ⟨(openR b).1.drop 4,false⟩).1,0) else (⟨[],[],[]⟩,12)):=fun q q2=>by unfold readI;rw [if_neg (by rw [q];decide),if_neg q2]
  unfold t_Q11
  simp (disch:=omega)only[go_sem, *]
  refine Pf.go (ho) (by simp only [go_sem]) fun _=>?_;simp (disch:=omega)only[go_sem, *]
  clear ho
  generalize openR b=o at *
  obtain ⟨x,ok⟩:=o
  simp only at hob hol r1 r2 r3
  have md:∀ n,List.drop n (x.map encB)=(x.drop n).map encB:=fun n=>List.map_drop.symm
  have ml:List.take (x.length - 4) ((x.drop 4).map encB)=(x.drop 4).map encB:=List.take_of_length_le (by simp)
  cases ok with
  | false=>
    have e:=r1 rfl
    clear r1 r2 r3
    simp (disch:=omega)only[go_sem, *]
  | true=>
    simp (disch:=omega)only[go_sem, *]
    refine Wb_dec (fun hc=>?_) (fun hc=>?_)
    · have e:=r2 rfl (by omega)
      clear r1 r2 r3
      simp (disch:=omega)only[go_sem, *]
    · have e:=r3 rfl (by omega)
      clear r1 r2 r3
      have hnm:=conf_nm (s:=⟨x.drop 4,false⟩)
      simp (disch:=omega)only[go_sem, *]
      refine cread_ev ?_
      simp (disch:=omega)only[go_sem, *]
      refine imgRead_ev (s:=⟨x.drop 4,false⟩) ?_ hob.drop ?_ ?_
      · simp (disch:=omega)only[go_sem, *]
      · simp (disch:=omega)only[go_sem, *]
      generalize confS ⟨x.drop 4,false⟩=P at *
      obtain ⟨C,s2⟩:=P
      simp only at hnm e
      have hby:=imgBytes_ev hnm
      simp only [Config.enc] at hby
      simp (disch:=omega)only[go_sem, *]
      refine Pf.go (hby) (by simp only [go_sem]) fun _=>?_;simp (disch:=omega)only[go_sem, *]
      clear hby
      refine Wg_dec (fun h1=>?_) (fun h1=>?_)
      · rw [if_neg (fun q=>h1 q.1)] at e
        simp (disch:=omega)only[go_sem, *]
      · simp (disch:=omega)only[go_sem, *]
        refine Pf.go (equalB_ev) (by simp only [go_sem]) fun _=>?_;simp (disch:=omega)only[go_sem, *]
        refine Wb_of (fun h2=>?_) (fun h2=>?_)
        · rw [if_neg (fun q=>by simp [q.2] at h2)] at e
          clear h2
          simp (disch:=omega)only[go_sem, *]
        · rw [if_pos ⟨Decidable.not_not.1 h1,by simpa using h2⟩] at e
          clear h2
          simp (disch:=omega)only[go_sem, *]
end Go.Ab.T
namespace Go.Ab.T
open Go Go.Ab
set_option maxHeartbeats 1000000
theorem procsB_ok {L:List Proc} (h:procsB L=true):∀ x∈L,ProcOk x:=by
  unfold procsB at h
  simp only [Bool.and_eq_true,List.all_eq_true] at h
  intro x hx
  have:=h.1 x hx
  unfold procB at this
  simp only [decide_eq_true_eq] at this
  exact ⟨by omega,by omega⟩
theorem where_parts {C:Config} (h:whereR C=(0,-1)):∀ p∈C.parts,PartOk p:=fun p hp=>by
  obtain ⟨_,hg,_,_⟩:=where_iff.1 h
  obtain ⟨j,hj,rfl⟩:=List.getElem_of_mem hp
  have g:=hg j hj
  have e:nth C.parts j=C.parts[j]:=nth_eq hj
  rw [← e]
  have g2:=g.2.2
  unfold partB at g2
  simp only [Bool.and_eq_true,healthB,budgetB,decide_eq_true_eq] at g2
  obtain ⟨⟨a,b⟩,c⟩:=g2
  exact ⟨nameB_size g.1,by unfold I64;omega,by unfold I64;omega,(procsB_size a).2,procsB_ok a,by omega⟩
theorem where_chans {C:Config} (h:whereR C=(0,-1)):∀ x∈C.chans,(0≤x.src∧x.src≤6)∧(0≤x.dst∧x.dst≤6)∧(0≤x.cap∧x.cap≤8)∧I64 x.late:=fun x hx=>by
  obtain ⟨a,_,hc,_⟩:=where_iff.1 h
  have:=hc x hx
  unfold chanB at this
  simp only [Bool.and_eq_true,decide_eq_true_eq] at this
  obtain ⟨b,c⟩:=this
  split at c<;>simp only [decide_eq_true_eq] at c<;>exact ⟨by omega,by omega,by omega,by unfold I64;omega⟩
theorem szGo_all:∀ (l:List Node) (left n:Int),0≤n→szGo l left n=n+l.length→∀ x∈l,0≤kids x
  | [],_,_,_,_=>fun x hx=>by cases hx
  | a::r,left,n,hn,h=>fun x hx=>by
    unfold szGo at h
    rw [List.length_cons] at h
    by_cases h1:kids a<0
    · rw [if_pos h1] at h;omega
    · rw [if_neg h1] at h
      by_cases h2:left+(kids a - 1)=0
      · rw [if_pos h2] at h
        have:r=[]:=List.length_eq_zero_iff.1 (by omega)
        subst this
        rw [List.mem_singleton.1 hx];omega
      · rw [if_neg h2] at h
        rcases List.mem_cons.1 hx with rfl | hx
        · omega
        · exact szGo_all r (left+(kids a - 1)) (n+1) (by omega) (by omega) x hx
theorem kids_node {x:Node} (h:0≤kids x):(0≤x.kind∧x.kind≤4)∧(0≤x.part∧x.part≤6)∧1≤x.n:=by
  unfold kids at h
  split at h
  · omega
  · rename_i h1
    split at h
    · omega
    · split at h
      · omega
      · split at h
        · omega
        · omega
theorem where_tabs {C:Config} (h:whereR C=(0,-1)):∀ t∈C.tables,t.length≤128∧∀ x∈t,(0≤x.kind∧x.kind≤4)∧(0≤x.part∧x.part≤6)∧1≤x.n:=fun t ht=>by
  obtain ⟨_,_,_,hT⟩:=where_iff.1 h
  have g:=hT t ht
  rw [tableR_iff] at g
  have hr:=g.1.right
  unfold rightR at hr
  split at hr
  · cases hr
  · rename_i h1
    split at hr
    · cases hr
    · rename_i h2
      refine ⟨by omega,fun x hx=>kids_node ?_⟩
      have hw:wholeB t=true:=by simpa using h2
      unfold wholeB at hw
      simp only [decide_eq_true_eq] at hw
      have hs:=hw.2
      unfold size at hs
      rw [if_neg (by omega)] at hs
      refine szGo_all t 1 0 (by omega) ?_ x hx
      simpa using hs
theorem foldl_app {α:Type} {f:List Int→α→List Int} {e:α→List Int} (h:∀ B a,f B a=B++e a):∀ (L:List α) (B:List Int),L.foldl f B=B++(L.map e).flatten
  | [],B=>by simp
  | a::L,B=>by rw [List.foldl_cons,foldl_app h L,h,List.map_cons,List.flatten_cons,List.append_assoc]
theorem fProc_eq (B:List Int) (p:Proc):fProc B p=B++eProc p:=by unfold fProc eProc;rw [putR_pn,putR_pn,List.append_assoc]
theorem fNode_eq (B:List Int) (p:Node):fNode B p=B++eNode p:=by unfold fNode eNode;simp only [putR_pn,List.append_assoc]
theorem fChan_eq (C:List Chan) (hC:∀ x∈C,0≤x.top∧x.top≤4294967295):∀ (B:List Int),C.foldl fChan B=B++(C.map eChan).flatten:=by
  induction C with
  | nil=>intro B;simp
  | cons x L ih=>
    intro B
    have hx:=hC x (List.mem_cons_self ..)
    rw [List.foldl_cons,ih (fun y hy=>hC y (List.mem_cons_of_mem _ hy)),List.map_cons,List.flatten_cons]
    have:fChan B x=B++eChan x:=by
      unfold fChan eChan flagR
      have hw:IntKind.wrap .i64 x.top=x.top:=by rw [wrap_i64];omega
      rw [hw]
      simp only [putR_pn,List.append_assoc]
    rw [this,List.append_assoc]
theorem fPart_eq (B:List Int) (p:Part):fPart B p=B++ePart p:=by
  unfold fPart ePart flagR
  simp only [putR_pn,foldl_app fProc_eq,List.append_assoc]
theorem fTab_eq (B:List Int) (t:List Node):fTab B t=B++eTab t:=by
  unfold fTab eTab
  rw [foldl_app fNode_eq,putR_pn,List.append_assoc]
theorem bodyR_eq {C:Config} (h:∀ x∈C.chans,0≤x.top∧x.top≤4294967295):bodyR C=[72,79,82,65]++eConf C:=by
  unfold bodyR eConf
  rw [foldl_app fTab_eq,foldl_app fPart_eq,fChan_eq _ h]
  simp only [putR_pn,List.append_assoc]
theorem conf_inj {C D:Config} (hC:ConfOk C) (hD:ConfOk D) {a b:List Int} (h:bodyR C++a=bodyR D++b):C=D∧a=b:=by
  rw [bodyR_eq (fun x hx=>(hC.cc x hx).t),bodyR_eq (fun x hx=>(hD.cc x hx).t),List.append_assoc,List.append_assoc] at h
  have h2:=List.append_cancel_left h
  have q1:=conf_rd hC a
  have q2:=conf_rd hD b
  rw [h2,q2] at q1
  injection q1 with q3 q4
  injection q4 with q5 q6
  exact ⟨q3.symm,q5.symm⟩
end Go.Ab.T
namespace Go.Ab.T
open Go Go.Ab
set_option maxHeartbeats 1000000
theorem xr_nat {a b:Int} (ha:0≤a) (ha2:a<4294967296) (hb:0≤b) (hb2:b<4294967296):xr a b=((a.toNat ^^^ b.toNat:Nat):Int):=by
  unfold xr
  rw [wrap_u32',BitVec.toNat_xor,BitVec.toNat_ofInt,BitVec.toNat_ofInt]
  have e1:(a % ((2 ^ 32:Nat):Int)).toNat=a.toNat:=by omega
  have e2:(b % ((2 ^ 32:Nat):Int)).toNat=b.toNat:=by omega
  rw [e1,e2]
  have:=Nat.xor_lt_two_pow (n:=32) (show a.toNat<2 ^ 32 by omega) (show b.toNat<2 ^ 32 by omega)
  omega
theorem xr_inj {a c b:Int} (ha:0≤a) (ha2:a<4294967296) (hc:0≤c) (hc2:c<4294967296) (hb:0≤b) (hb2:b<4294967296) (h:xr a b=xr c b):a=c:=by
  rw [xr_nat ha ha2 hb hb2,xr_nat hc hc2 hb hb2] at h
  have h1:a.toNat ^^^ b.toNat=c.toNat ^^^ b.toNat:=by omega
  have h2:=congrArg (· ^^^ b.toNat) h1
  simp only [Nat.xor_assoc,Nat.xor_self,Nat.xor_zero] at h2
  omega
theorem xr_comm (a b:Int):xr a b=xr b a:=by unfold xr;rw [BitVec.xor_comm]
theorem xr_par {a b:Int} (ha:0≤a) (ha2:a<4294967296) (hb:0≤b) (hb2:b<4294967296):xr a b % 2=(a+b) % 2:=by
  rw [xr_nat ha ha2 hb hb2]
  have h:=Nat.testBit_xor a.toNat b.toNat 0
  simp only [Nat.testBit_zero] at h
  have h1:=Nat.mod_two_eq_zero_or_one a.toNat
  have h2:=Nat.mod_two_eq_zero_or_one b.toNat
  have h3:=Nat.mod_two_eq_zero_or_one (a.toNat ^^^ b.toNat)
  generalize a.toNat ^^^ b.toNat=x at *
  rcases h1 with h1 | h1<;>rcases h2 with h2 | h2<;>rcases h3 with h3 | h3<;>simp [h1,h2,h3] at h<;>omega
theorem sh1_eq (c:Int):sh1 c=(c*2) % 4294967296:=by unfold sh1;rw [wrap_u32']
theorem nxStep_inj {a c:Int} (ha:0≤a) (ha2:a<4294967296) (hc:0≤c) (hc2:c<4294967296) (h:nxStep a=nxStep c):a=c:=by
  unfold nxStep at h
  have fa:a.fdiv 2147483648=a / 2147483648:=Int.fdiv_eq_ediv_of_nonneg _ (by omega)
  have fc:c.fdiv 2147483648=c / 2147483648:=Int.fdiv_eq_ediv_of_nonneg _ (by omega)
  rw [fa,fc] at h
  have ea:=sh1_eq a
  have ec:=sh1_eq c
  have pa:=xr_par (a:=sh1 a) (b:=79764919) (by omega) (by omega) (by omega) (by omega)
  have pc:=xr_par (a:=sh1 c) (b:=79764919) (by omega) (by omega) (by omega) (by omega)
  by_cases h1:a / 2147483648=1<;>by_cases h2:c / 2147483648=1
  · rw [if_pos h1,if_pos h2] at h
    have:=xr_inj (by omega) (by omega) (by omega) (by omega) (by omega) (by omega) h
    omega
  · rw [if_pos h1,if_neg h2] at h
    omega
  · rw [if_neg h1,if_pos h2] at h
    omega
  · rw [if_neg h1,if_neg h2] at h
    omega
theorem nxIt_inj:∀ (n:Nat) {a c:Int},0≤a→a<4294967296→0≤c→c<4294967296→nxIt n a=nxIt n c→a=c
  | 0,_,_,_,_,_,_,h=>h
  | n+1,a,c,h1,h2,h3,h4,h=>by
    unfold nxIt at h
    have b1:=nxStep_bd a
    have b2:=nxStep_bd c
    exact nxStep_inj h1 h2 h3 h4 (nxIt_inj n b1.1 b1.2 b2.1 b2.2 h)
theorem nxIt_bd:∀ (n:Nat) {a:Int},0≤a→a<4294967296→0≤nxIt n a∧nxIt n a<4294967296
  | 0,_,h1,h2=>⟨h1,h2⟩
  | n+1,a,h1,h2=>by unfold nxIt;have b1:=nxStep_bd a;exact nxIt_bd n b1.1 b1.2
theorem nextR_bd {c b:Int}:0≤nextR c b∧nextR c b<4294967296:=by unfold nextR;exact nxIt_bd _ (xr_bd _ _).1 (xr_bd _ _).2
theorem byte24 {b:Int} (h0:0≤b) (h1:b<256):IntKind.wrap .u32 (IntKind.wrap .u32 b*16777216)=b*16777216:=by rw [wrap_u32',wrap_u32'];omega
theorem nextR_inj {c d b:Int} (hb0:0≤b) (hb1:b<256) (hc:0≤c) (hc2:c<4294967296) (hd:0≤d) (hd2:d<4294967296) (h:nextR c b=nextR d b):c=d:=by
  unfold nextR at h
  rw [byte24 hb0 hb1] at h
  have h1:=nxIt_inj 8 (xr_bd _ _).1 (xr_bd _ _).2 (xr_bd _ _).1 (xr_bd _ _).2 h
  exact xr_inj hc hc2 hd hd2 (by omega) (by omega) h1
theorem nextR_byte {c a b:Int} (ha0:0≤a) (ha1:a<256) (hb0:0≤b) (hb1:b<256) (hc:0≤c) (hc2:c<4294967296) (h:nextR c a=nextR c b):a=b:=by
  unfold nextR at h
  rw [byte24 ha0 ha1,byte24 hb0 hb1] at h
  have h1:=nxIt_inj 8 (xr_bd _ _).1 (xr_bd _ _).2 (xr_bd _ _).1 (xr_bd _ _).2 h
  rw [xr_comm c,xr_comm c] at h1
  have:=xr_inj (by omega) (by omega) (by omega) (by omega) hc hc2 h1
  omega
theorem sumGo_bd:∀ (l:List Int) {c:Int},0≤c→c<4294967296→0≤sumGo l c∧sumGo l c<4294967296
  | [],_,h1,h2=>⟨h1,h2⟩
  | b::l,c,_,_=>by unfold sumGo;exact sumGo_bd l nextR_bd.1 nextR_bd.2
theorem sumGo_inj:∀ (l:List Int) {c d:Int},IsB l→0≤c→c<4294967296→0≤d→d<4294967296→sumGo l c=sumGo l d→c=d
  | [],_,_,_,_,_,_,_,h=>h
  | b::l,c,d,hl,h1,h2,h3,h4,h=>by
    unfold sumGo at h
    have hb:=hl b (List.mem_cons_self ..)
    exact nextR_inj hb.1 hb.2 h1 h2 h3 h4 (sumGo_inj l (fun z hz=>hl z (List.mem_cons_of_mem _ hz)) nextR_bd.1 nextR_bd.2 nextR_bd.1 nextR_bd.2 h)
theorem sum_turn {A l:List Int} {a b:Int} (hl:IsB l) (ha0:0≤a) (ha1:a<256) (hb0:0≤b) (hb1:b<256) (h:sumGo (A++a::l) 4294967295=sumGo (A++b::l) 4294967295):a=b:=by
  rw [sumGo_app,sumGo_app,sumGo,sumGo] at h
  have hA:=sumGo_bd A (c:=4294967295) (by omega) (by omega)
  exact nextR_byte ha0 ha1 hb0 hb1 hA.1 hA.2 (sumGo_inj l hl nextR_bd.1 nextR_bd.2 nextR_bd.1 nextR_bd.2 h)
end Go.Ab.T
