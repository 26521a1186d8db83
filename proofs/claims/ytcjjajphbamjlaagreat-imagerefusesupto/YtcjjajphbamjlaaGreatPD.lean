/- Part of a proof that a law returns true for every input of the second form's bound (no other condition). -/
import Derived.Test.YtcjjajphbamjlaaGreatPC
set_option linter.all false
/- Operations over values that stay: what they do, and that the abstract machine does it. -/
namespace Go.Ab
open Go
def plain1:V→Bool
  | .b _ | .i .. | .s _ | .np | .ns | .nf | .ni=>true
  | _=>false
def plain:V→Bool
  | .agg l=>l.all plain1
  | v=>plain1 v
def X.e2 (e:Env):X→V
  | .t n=>e n
  | .c v=>if plain v=true then v else .u
  | .fn f=>.f (.func f) [] []
def ldF (n:Nat) (agg:Bool) (xs:List (List V)) (j off:Nat):Option V:=(xs[j]?).bind fun r=>cut r off n agg
def elems2 (sz:Nat) (h:AH):V→Option (List (List V))
  | .fl s xs=>if s=sz then some xs else none
  | v=>elems sz h v
def appN (sz:Nat) (h:AH) (x:V) (new:List (List V)):Option (V×AH):=
  match x with
  | .e0=>
    if new=[] then some (.e0,h)
    else if new.length<bigLen then some (.sl h.next 0 new.length new.length,h.alloc ⟨sz,new⟩) else none
  | .ns=>
    if new=[] then some (.ns,h)
    else if new.length<bigLen then some (.sl h.next 0 new.length new.length,h.alloc ⟨sz,new⟩) else none
  | .sl id el len cap=>
    match h.get id with
    | some k=>
      if k.sz=sz∧h.lim≤id∧el+len≤k.cs.length∧len+new.length<bigLen then
        if len+new.length≤cap then
          if el+len+new.length≤k.cs.length then some (.sl id el (len+new.length) cap,h.put id ⟨sz,overE k.cs (el+len) new⟩) else none
        else some (.sl h.next 0 (len+new.length) (len+new.length),(h.kill id).alloc ⟨sz,(k.cs.drop el).take len++new⟩)
      else none
    | none=>none
  | _=>none
theorem appV_N {sz:Nat} {h:AH} {x y:V}:appV sz h x y=(elems sz h y).bind (appN sz h x):=rfl
def iadF (g:Option Blk) (sz:Nat) (v i:V):Option V:=match v,g with
  | .sl id el len _,some k=>if k.sz=sz then (idxOf i len).map fun j=>.p id (el+j) 0 else none
  | .fl s xs,_=>if s=sz then (idxOf i xs.length).map fun j=>.fp s xs j 0 else none
  | _,_=>none
def blkOf (h:AH):V→Option Blk | .sl id _ _ _=>h.get id | _=>none
def do2 (o:O) (ev:X→V) (h:AH):Option (V×AH):=
  match o with
  | .alloc z=>if z.all plain1=true then doOp (.alloc z) ev h else none
  | .build z ps=>if z.all plain1=true then doOp (.build z ps) ev h else none
  | .bsl sz z n ps=>if z.all plain1=true∧n<bigLen then doOp (.bsl sz z n ps) ev h else none
  | .alc z=>if z.all plain1=true then doOp (.alc z) ev h else none
  | .chka z y=>if z.all plain1=true then doOp (.chka z y) ev h else none
  | .bslc sz z n ps=>if z.all plain1=true∧n<bigLen then doOp (.bslc sz z n ps) ev h else none
  | .chkb sz z n ps y=>if z.all plain1=true then doOp (.chkb sz z n ps y) ev h else none
  | .mksl z n c=>if z.all plain1=true then doOp (.mksl z n c) ev h else none
  | .appz z x n=>if z.all plain1=true then doOp (.appz z x n) ev h else none
  | .tas t ok z x=>if plain z=true then doOp (.tas t ok z x) ev h else none
  | .load n agg x=>match ev x with
    | .fp _ xs j off=>(ldF n agg xs j off).map fun v=>(v,h)
    | _=>doOp (.load n agg x) ev h
  | .fload n agg x=>match ev x with
    | .fp _ xs j off=>(ldF n agg xs j off).map fun v=>(v,h)
    | _=>doOp (.fload n agg x) ev h
  | .nck x=>match ev x with
    | .fp s xs j off=>some (.fp s xs j off,h)
    | _=>doOp (.nck x) ev h
  | .fad off x=>match ev x with
    | .fp s xs j o=>some (.fp s xs j (o+off),h)
    | _=>doOp (.fad off x) ev h
  | .iada sz n x i=>match ev x with
    | .fp s xs j o=>(idxOf (ev i) n).map fun k=>(.fp s xs j (o+k*sz),h)
    | _=>doOp (.iada sz n x i) ev h
  | .iad sz x i=>(iadF (blkOf h (ev x)) sz (ev x) (ev i)).map fun v=>(v,h)
  | .slice sz x lo hi mx=>match ev x with
    | .fl s xs=>if s=sz∧(mx.isNone||hi.isSome)=true then (bndOf (mx.map ev) xs.length xs.length).bind fun m=>(bndOf (hi.map ev) xs.length m).bind fun t=>(bndOf (lo.map ev) 0 t).map fun l=>(.fl s ((xs.drop l).take (t - l)),h) else none
    | _=>doOp (.slice sz x lo hi mx) ev h
  | .len x=>match ev x with
    | .fl _ xs=>some (.i .i64 xs.length,h)
    | _=>doOp (.len x) ev h
  | .app sz x y=>(elems2 sz h (ev y)).bind (appN sz h (ev x))
  | .b2s x=>match ev x with
    | .fl s xs=>if s=1 then (bytesOf? xs).map fun r=>(.s ⟨r.toArray⟩,h) else none
    | _=>doOp (.b2s x) ev h
  | .s2b x=>match ev x with
    | .s b=>if b.size<bigLen then doOp (.s2b x) ev h else none
    | _=>none
  | o=>doOp o ev h
section
variable {S:Nat→Prop} {m:Nat→Nat} {g:Nat→Option Blk} {n:Nat}
theorem PR.plain1 {v:V} (h:plain1 v=true):PR S m g n v v:=by
  cases v<;>first | (simp [Go.Ab.plain1] at h;done) | constructor
theorem PRs.plain1:∀ {l:List V},l.all Go.Ab.plain1=true→PRs S m g n l l
  | [],_=>.nil _
  | v::l,h=>by
    simp only [List.all_cons,Bool.and_eq_true] at h
    exact .cons _ _ _ _ _ (PR.plain1 h.1) (PRs.plain1 h.2)
theorem PR.plain {v:V} (h:plain v=true):PR S m g n v v:=by
  unfold Go.Ab.plain at h
  split at h
  · exact .agg _ _ _ (PRs.plain1 h)
  · exact PR.plain1 h
theorem PR.of_plain1 {v v':V} (h:Go.Ab.plain1 v=true) (p:PR S m g n v v'):v'=v:=by
  cases p<;>first | rfl | (simp [Go.Ab.plain1] at h)
theorem X_e2 {e e1:Env} (hE:∀ t,PR S m g n (e t) (e1 t)) (x:X):PR S m g n (x.e2 e) (x.ev e1):=by
  cases x with
  | t k=>exact hE k
  | c v=>
    simp only [X.e2,X.ev]
    split
    · rename_i h;exact PR.plain h
    · exact .u _ _
  | fn f=>exact .f _ _ _ _ _ _ (.nil _) (.nil _)
theorem bin_plain {op:BinOp} {v w r:V} (h:binV op v w=some r):Go.Ab.plain1 v=true∧Go.Ab.plain1 w=true∧Go.Ab.plain1 r=true:=by
  unfold binV at h
  split at h
  · refine ⟨rfl,rfl, ?_⟩
    split at h
    · split at h<;>simp at h;rw [← h];rfl
    · split at h<;>simp at h;rw [← h];rfl
    · split at h
      · unfold binI at h
        split at h<;>(try split at h)<;>simp at h<;>rw [← h]<;>rfl
      · simp at h
  · refine ⟨rfl,rfl, ?_⟩
    unfold binS at h
    split at h<;>(try split at h)<;>simp at h<;>rw [← h]<;>rfl
  · simp at h
theorem un_plain {op:UnOp} {v r:V} (h:unV op v=some r):Go.Ab.plain1 v=true∧Go.Ab.plain1 r=true:=by
  unfold unV at h
  split at h<;>(try split at h)<;>simp at h<;>rw [← h]<;>exact ⟨rfl,rfl⟩
theorem min_plain {v w r:V} (h:minV v w=some r):Go.Ab.plain1 v=true∧Go.Ab.plain1 w=true∧Go.Ab.plain1 r=true:=by
  unfold minV at h
  split at h<;>(try split at h)<;>simp at h<;>rw [← h]<;>exact ⟨rfl,rfl,rfl⟩
theorem max_plain {v w r:V} (h:maxV v w=some r):Go.Ab.plain1 v=true∧Go.Ab.plain1 w=true∧Go.Ab.plain1 r=true:=by
  unfold maxV at h
  split at h<;>(try split at h)<;>simp at h<;>rw [← h]<;>exact ⟨rfl,rfl,rfl⟩
theorem fold_PR {f:V→V→Option V} (hf:∀ {v w r:V},f v w=some r→Go.Ab.plain1 v=true∧Go.Ab.plain1 w=true∧Go.Ab.plain1 r=true):∀ {l l':List V} {v v' r:V},PRs S m g n l l'→PR S m g n v v'→foldV f v l=some r→∃ r',foldV f v' l'=some r'∧PR S m g n r r'
  | _,_,_,_,_,.nil _,hv,h=>by simp [foldV] at h ⊢;subst h;exact hv
  | _,_,_,_,_,.cons _ w w' l l' p q,hv,h=>by
    simp only [foldV,Option.bind_eq_some_iff] at h ⊢
    obtain ⟨z,hz,h⟩:=h
    obtain ⟨h1,h2,h3⟩:=hf hz
    obtain ⟨r',hr,hp⟩:=fold_PR hf q (PR.plain1 h3) h
    exact ⟨r',⟨z,by rw [PR.of_plain1 h1 hv,PR.of_plain1 h2 p];exact hz,hr⟩,hp⟩
theorem eqC_PR {k:CK} {v w v' w':V} {r:Bool} (h:eqC k v w=some r) (hv:PR S m g n v v') (hw:PR S m g n w w'):eqC k v' w'=some r:=by
  unfold eqC at h
  split at h<;>first | (simp at h;done) | (cases hv;cases hw;simpa [eqC] using h)
theorem eqL_PR:∀ {ks:List CK} {l l' q q':List V} {r:Bool},eqL ks l q=some r→PRs S m g n l l'→PRs S m g n q q'→eqL ks l' q'=some r
  | [],[],_,[],_,r,h,.nil _,.nil _=>h
  | k::ks,a::l,_,c::q,_,r,h,.cons _ _ a' _ l' p1 p2,.cons _ _ c' _ q' p3 p4=>by
    simp only [eqL,Option.bind_eq_some_iff,Option.map_eq_some_iff] at h ⊢
    obtain ⟨x,hx,y,hy,rfl⟩:=h
    exact ⟨x,eqC_PR hx p1 p3,y,eqL_PR hy p2 p4,rfl⟩
  | [],[],_,_::_,_,r,h,_,_=>by simp [eqL] at h
  | [],_::_,_,_,_,r,h,_,_=>by simp [eqL] at h
  | _::_,[],_,_,_,r,h,_,_=>by simp [eqL] at h
  | _::_,_::_,_,[],_,r,h,_,_=>by simp [eqL] at h
theorem eqV_PR {k:EK} {v w v' w':V} {r:Bool} (h:eqV k v w=some r) (hv:PR S m g n v v') (hw:PR S m g n w w'):eqV k v' w'=some r:=by
  unfold eqV at h
  split at h
  case h_16=>
    cases hv with
    | agg _ _ _ p=>cases hw with
      | agg _ _ _ q=>simpa [eqV] using eqL_PR h p q
  all_goals first | (simp at h;done) | (cases hv;cases hw;simpa [eqV] using h)
theorem idx_PR {v v':V} {k j:Nat} (hv:PR S m g n v v') (h:idxOf v k=some j):idxOf v' k=some j∧j<k:=by
  unfold idxOf at h
  split at h
  · cases hv
    refine ⟨by simpa [idxOf] using h, ?_⟩
    split at h<;>simp at h
    omega
  · simp at h
theorem bnd_PR {ev2 ev1:X→V} (hE:∀ x,PR S m g n (ev2 x) (ev1 x)) {x:Option X} {d k j:Nat} (h:bndOf (x.map ev2) d k=some j):bndOf (x.map ev1) d k=some j∧(j=d∧x=none∨j≤k):=by
  cases x with
  | none=>simp [bndOf] at h ⊢;exact ⟨h,.inl h.symm⟩
  | some x=>
    have hv:=hE x
    simp only [Option.map_some] at h ⊢
    unfold bndOf at h
    split at h
    · simp at *
    · rename_i k' jj hh
      simp only [Option.some.injEq] at hh
      rw [hh] at hv
      cases hv':ev1 x<;>rw [hv'] at hv<;>cases hv
      refine ⟨by simpa [bndOf] using h,.inr ?_⟩
      split at h<;>simp at h
      omega
    · simp at h
theorem cut_PR {r r':List V} {off k:Nat} {agg:Bool} {v:V} (p:PRs S m g n r r') (h:cut r off k agg=some v):∃ v',cut r' off k agg=some v'∧PR S m g n v v':=by
  unfold cut at h ⊢
  rw [← p.len]
  split at h
  · rename_i hle
    rw [if_pos hle]
    split at h
    · rename_i hg;rw [if_pos hg];simp at h;subst h;exact ⟨_,rfl,.agg _ _ _ ((p.drop _).take _)⟩
    · rename_i hg
      rw [if_neg hg]
      split at h
      · rename_i h1;rw [if_pos h1];exact p.get _ _ h
      · simp at h
  · simp at h
theorem fillP_PR:∀ {ps ps':List (Nat×Nat×V)} {r r' q:List V},(ps.map fun z=>(z.1,z.2.1))=(ps'.map fun z=>(z.1,z.2.1))→PRs S m g n (ps.map (·.2.2)) (ps'.map (·.2.2))→PRs S m g n r r'→fillP r ps=some q→∃ q',fillP r' ps'=some q'∧PRs S m g n q q'
  | [],[],_,_,_,_,_,hr,h=>by simp [fillP] at h ⊢;subst h;exact hr
  | [],_::_,_,_,_,e,_,_,_=>by simp at e
  | _::_,[],_,_,_,e,_,_,_=>by simp at e
  | (o,k,v)::ps,(o',k',v')::ps',r,r',q,e,hp,hr,h=>by
    simp only [List.map_cons,List.cons.injEq,Prod.mk.injEq] at e
    obtain ⟨⟨rfl,rfl⟩,e⟩:=e
    simp only [List.map_cons] at hp
    cases hp with
    | cons _ _ _ _ _ p1 p2=>
      simp only [fillP] at h ⊢
      split at h
      · rename_i hc
        have hcells:=p1.cells (ne_u_of_cells hc.2.2)
        rw [if_pos ⟨by rw [← hcells.len];exact hc.1,by rw [← hr.len];exact hc.2.1,hcells.isCell hc.2.2⟩]
        exact fillP_PR e p2 (PRs.ov _ _ _ hcells hr) h
      · simp at h
theorem fillE_PR {sz:Nat}:∀ {ps ps':List (Nat×V)} {r r' q:List (List V)},(ps.map (·.1))=(ps'.map (·.1))→PRs S m g n (ps.map (·.2)) (ps'.map (·.2))→PRr S m g n r r'→fillE sz r ps=some q→∃ q',fillE sz r' ps'=some q'∧PRr S m g n q q'
  | [],[],_,_,_,_,_,hr,h=>by simp [fillE] at h ⊢;subst h;exact hr
  | [],_::_,_,_,_,e,_,_,_=>by simp at e
  | _::_,[],_,_,_,e,_,_,_=>by simp at e
  | (j,v)::ps,(j',v')::ps',r,r',q,e,hp,hr,h=>by
    simp only [List.map_cons,List.cons.injEq] at e
    obtain ⟨rfl,e⟩:=e
    simp only [List.map_cons] at hp
    cases hp with
    | cons _ _ _ _ _ p1 p2=>
      simp only [fillE] at h ⊢
      split at h
      · rename_i hc
        have hcells:=p1.cells (ne_u_of_cells hc.2.2)
        rw [if_pos ⟨by rw [← hcells.len];exact hc.1,by rw [← hr.len];exact hc.2.1,hcells.isCell hc.2.2⟩]
        exact fillE_PR e p2 (hr.set _ hcells) h
      · simp at h
theorem bytesV_PR (x:ByteArray):PRr S m g n (bytesV x) (bytesV x):=by
  unfold bytesV
  generalize x.data.toList=l
  induction l with
  | nil=>exact .nil _
  | cons c l ih=>exact .cons _ _ _ _ _ (.cons _ _ _ _ _ (.i _ _ _) (.nil _)) ih
theorem bytesOf_PR:∀ {l l':List (List V)} {r:List UInt8},PRr S m g n l l'→bytesOf? l=some r→bytesOf? l'=some r
  | _,_,r,.nil _,h=>h
  | _,_,r,.cons _ row row' l l' p q,h=>by
    unfold bytesOf? at h
    split at h
    · rename_i he;simp at he
    · rename_i he
      simp only [List.cons.injEq] at he
      obtain ⟨rfl,rfl⟩:=he
      cases p with
      | cons _ _ _ _ _ p1 p2=>
        cases p1;cases p2
        simp only [Option.map_eq_some_iff] at h
        obtain ⟨z,hz,rfl⟩:=h
        simp only [bytesOf?,Option.map_eq_some_iff]
        exact ⟨z,bytesOf_PR q hz,rfl⟩
    · simp at h
end
section
variable {S:Nat→Prop} {m:Nat→Nat} {h hc:AH} (c:Cfg S m h hc)
include c
theorem elems_PR {sz:Nat} {y y':V} {new:List (List V)} (p:PR S m hc.get h.next y y') (he:elems2 sz h y=some new):∃ new',elems sz hc y'=some new'∧PRr S m hc.get h.next new new':=by
  cases p<;>simp only [elems2,elems] at he ⊢<;>try (simp at he;done)
  case s=>split at he<;>simp at he;rename_i h1;subst he;simp [h1];exact bytesV_PR _
  case ns=>simp at he;subst he;exact ⟨_,rfl,.nil _⟩
  case e0=>simp at he;subst he;exact ⟨_,rfl,.nil _⟩
  case fl0=>split at he<;>simp at he;subst he;exact ⟨_,rfl,.nil _⟩
  case fl1=>split at he<;>simp at he;subst he;exact ⟨_,rfl,.nil _⟩
  case fl s a el cap cs h1 h2 h3 h4 h5 r=>
    split at he<;>simp at he
    rename_i hs
    subst he;subst hs
    simp only [h2]
    refine ⟨_,by rw [if_pos ⟨trivial,h4⟩],r.mono ⟨fun _ h=>h,fun _ _=>rfl,fun i hi=>absurd hi (Nat.not_lt_zero _),Nat.zero_le _⟩⟩
  case sl id el len cap hid=>
    split at he
    · rename_i k hk
      obtain ⟨_,_,cs,hcs,hr⟩:=c.blk id k hk
      split at he<;>simp at he
      rename_i h1
      subst he
      simp only [hcs]
      exact ⟨_,by rw [if_pos ⟨h1.1,by rw [← hr.len];exact h1.2⟩],(hr.drop _).take _⟩
    · simp at he
end
def OpOk (S:Nat→Prop) (m:Nat→Nat) (h hc:AH) (v:V) (h':AH) (r:Option (V×AH)):Prop:=
  ∃ v' hc' S' m',r=some (v',hc')∧Cfg S' m' h' hc'∧Adv S m h hc S' m' h' hc'∧PR S' m' hc'.get h'.next v v'
section
variable {S:Nat→Prop} {m:Nat→Nat} {h hc:AH} (c:Cfg S m h hc)
include c
theorem OpOk.same {v v':V} {r:Option (V×AH)} (he:r=some (v',hc)) (p:PR S m hc.get h.next v v'):OpOk S m h hc v h r:=⟨v',hc,S,m,he,c,Adv.refl c,p⟩
theorem OpOk.alloc {k kc:Blk} (hsz:kc.sz=k.sz) (hr:PRr S m hc.get h.next k.cs kc.cs) (v v':V) (hv:∀ m',m' h.next=hc.next→PR S m' (hc.alloc kc).get (h.next+1) v v') {r:Option (V×AH)} (he:r=some (v',hc.alloc kc)):OpOk S m h hc v (h.alloc k) r:=by
  obtain ⟨m',h1,h2,h3⟩:=c.alloc hsz hr
  exact ⟨_,_,_,m',he,h1,h2,hv m' h3⟩
theorem load_ok {n id el off : Nat} {agg : Bool} {k : Blk} {row : List V} {v : V} (hk : h.get id = some k) (hrow : k.cs[el]? = some row) (hv : cut row off n agg = some v) :
    ∃ v',((hc.get (m id)).bind fun k=>(k.cs[el]?).bind fun r=>cut r off n agg)=some v'∧PR S m hc.get h.next v v':=by
  obtain ⟨_,_,cs,hcs,hr⟩:=c.blk id k hk
  obtain ⟨row',h1,h2⟩:=hr.get el row hrow
  obtain ⟨v',h3,h4⟩:=cut_PR h2 hv
  exact ⟨v',by simp [hcs,h1,h3],h4⟩
theorem ldF_ok {n j off sz : Nat} {agg : Bool} {xs : List (List V)} {a el : Nat} {cs : List (List V)} {v : V} (hg : hc.get a = some ⟨sz, cs⟩) (hr : PRr S m hc.get 0 xs ((cs.drop el).take xs.length)) (hv : ldF n agg xs j off = some v) :
    ∃ v',((hc.get a).bind fun k=>(k.cs[el+j]?).bind fun r=>cut r off n agg)=some v'∧PR S m hc.get h.next v v':=by
  simp only [ldF,Option.bind_eq_some_iff] at hv
  obtain ⟨row,h1,hv⟩:=hv
  obtain ⟨row',h2,h3⟩:=hr.get j row h1
  obtain ⟨v',h4,h5⟩:=cut_PR h3 hv
  have hj:j<xs.length:=(List.getElem?_eq_some_iff.1 h1).1
  rw [List.getElem?_take_of_lt hj,List.getElem?_drop] at h2
  exact ⟨v',by simp [hg,h2,h4],h5.up _ _⟩
theorem sameV_PR {v w v' w':V} (hs:sameV v w=true) (hv:PR S m hc.get h.next v v') (hw:PR S m hc.get h.next w w'):sameV v' w'=true:=by
  unfold sameV at hs
  split at hs
  case h_3=>
    simp only [Bool.and_eq_true,beq_iff_eq] at hs
    obtain ⟨⟨⟨rfl,rfl⟩,rfl⟩,rfl⟩:=hs
    cases hv;cases hw;simp [sameV]
  case h_4=>
    simp only [Bool.and_eq_true,beq_iff_eq] at hs
    obtain ⟨⟨rfl,rfl⟩,rfl⟩:=hs
    cases hv;cases hw;simp [sameV]
  all_goals first | (simp at hs;done) | (cases hv;cases hw;simpa [sameV] using hs)
theorem sameRow_PR:∀ {l w l' w':List V},sameRow l w=true→PRs S m hc.get h.next l l'→PRs S m hc.get h.next w w'→sameRow l' w'=true
  | [],[],_,_,_,p,q=>by cases p;cases q;rfl
  | [],_::_,_,_,hs,_,_=>by simp [sameRow] at hs
  | _::_,[],_,_,hs,_,_=>by simp [sameRow] at hs
  | a::l,b::w,_,_,hs,p,q=>by
    simp only [sameRow,Bool.and_eq_true] at hs
    cases p with
    | cons _ _ a' _ l' p1 p2=>
      cases q with
      | cons _ _ b' _ w' q1 q2=>
        simp only [sameRow,Bool.and_eq_true]
        exact ⟨sameV_PR c hs.1 p1 q1,sameRow_PR hs.2 p2 q2⟩
theorem sameVa_PR {v w v' w':V} (hs:sameVa v w=true) (hv:PR S m hc.get h.next v v') (hw:PR S m hc.get h.next w w'):sameVa v' w'=true:=by
  unfold sameVa at hs
  split at hs
  · cases hv;cases hw
    rename_i a p b q
    exact sameRow_PR c hs p q
  · have h1:=sameV_PR c hs hv hw
    unfold sameVa
    split
    · simp [sameV] at h1
    · exact h1
theorem sameRows_PR:∀ {l w l' w':List (List V)},sameRows l w=true→PRr S m hc.get h.next l l'→PRr S m hc.get h.next w w'→sameRows l' w'=true
  | [],[],_,_,_,p,q=>by cases p;cases q;rfl
  | [],_::_,_,_,hs,_,_=>by simp [sameRows] at hs
  | _::_,[],_,_,hs,_,_=>by simp [sameRows] at hs
  | a::l,b::w,_,_,hs,p,q=>by
    simp only [sameRows,Bool.and_eq_true] at hs
    cases p with
    | cons _ _ a' _ l' p1 p2=>
      cases q with
      | cons _ _ b' _ w' q1 q2=>
        simp only [sameRows,Bool.and_eq_true]
        exact ⟨sameRow_PR c hs.1 p1 q1,sameRows_PR hs.2 p2 q2⟩
theorem store_ok {n id el off : Nat} {k : Blk} {row : List V} {v v' : V} (hlim : h.lim ≤ id) (hn : 0 < n) (hlen : v.cells.length = n) (hall : v.cells.all V.isCell = true) (hk : h.get id = some k) (hrow : k.cs[el]? = some row) (hle : off + n ≤ row.length) (p : PR S m hc.get h.next v v') :
    OpOk S m h hc .u (h.put id ⟨k.sz,k.cs.set el (over row off v.cells)⟩) (if hc.lim≤m id∧0<n∧v'.cells.length=n∧v'.cells.all V.isCell=true then (hc.get (m id)).bind fun k=>(k.cs[el]?).bind fun r=>if off+n≤r.length then some (.u,hc.put (m id) ⟨k.sz,k.cs.set el (over r off v'.cells)⟩) else none else none):=by
  have hl:h.live id:=by simp [AH.live,hk]
  obtain ⟨_,_,cs,hcs,hr⟩:=c.blk id k hk
  obtain ⟨row',h1,h2⟩:=hr.get el row hrow
  have hcells:=p.cells (ne_u_of_cells hall)
  rw [if_pos ⟨c.lim id hl hlim,hn,by rw [← hcells.len];exact hlen,hcells.isCell hall⟩]
  obtain ⟨p1,p2⟩:=c.put (id:=id) (k:=⟨k.sz,k.cs.set el (over row off v.cells)⟩) (kc:=⟨k.sz,cs.set el (over row' off v'.cells)⟩) hl rfl (hr.set _ (PRs.ov _ _ _ hcells h2))
  refine ⟨.u,_,S,m, ?_,p1,p2,.u _ _⟩
  simp only [hcs,Option.bind_some,h1]
  rw [if_pos (by rw [← h2.len];exact hle)]
theorem app_ok {sz:Nat} {x x' v:V} {new new':List (List V)} {h':AH} (p:PR S m hc.get h.next x x') (q:PRr S m hc.get h.next new new') (ha:appN sz h x new=some (v,h')):OpOk S m h hc v h' (appN sz hc x' new'):=by
  have nil:new=[]↔new'=[]:=by
    have:=q.len
    constructor
    · rintro rfl;exact List.eq_nil_of_length_eq_zero this.symm
    · rintro rfl;exact List.eq_nil_of_length_eq_zero this
  unfold appN at ha
  split at ha
  case h_1=>
    cases p
    simp only [appN]
    split at ha
    · rename_i h0;rw [if_pos (nil.1 h0)];simp at ha;obtain ⟨rfl,rfl⟩:=ha;exact OpOk.same c rfl (.e0 _)
    · rename_i h0
      rw [if_neg (fun e=>h0 (nil.2 e))]
      split at ha
      · rename_i hb
        simp at ha;obtain ⟨rfl,rfl⟩:=ha
        rw [if_pos (by rw [← q.len];exact hb),←q.len]
        exact OpOk.alloc c (k:=⟨sz,new⟩) (kc:=⟨sz,new'⟩) rfl q _ _ (fun m' hm=>by rw [← hm];exact .sl _ _ _ _ _ (Nat.lt_succ_self _)) rfl
      · simp at ha
  case h_2=>
    cases p
    simp only [appN]
    split at ha
    · rename_i h0;rw [if_pos (nil.1 h0)];simp at ha;obtain ⟨rfl,rfl⟩:=ha;exact OpOk.same c rfl (.ns _)
    · rename_i h0
      rw [if_neg (fun e=>h0 (nil.2 e))]
      split at ha
      · rename_i hb
        simp at ha;obtain ⟨rfl,rfl⟩:=ha
        rw [if_pos (by rw [← q.len];exact hb),←q.len]
        exact OpOk.alloc c (k:=⟨sz,new⟩) (kc:=⟨sz,new'⟩) rfl q _ _ (fun m' hm=>by rw [← hm];exact .sl _ _ _ _ _ (Nat.lt_succ_self _)) rfl
      · simp at ha
  case h_3 id el len cap=>
    cases p
    rename_i hid
    split at ha
    case h_2=>simp at ha
    rename_i k hk
    split at ha
    case isFalse=>simp at ha
    rename_i hcond
    obtain ⟨hsz,hlim,hel,hbig⟩:=hcond
    have hl:h.live id:=by simp [AH.live,hk]
    obtain ⟨_,_,cs,hcs,hr⟩:=c.blk id k hk
    simp only [appN,hcs]
    rw [if_pos ⟨hsz,c.lim id hl hlim,by rw [← hr.len];exact hel,by rw [← q.len];exact hbig⟩]
    split at ha
    · rename_i hcap
      rw [if_pos (by rw [← q.len];exact hcap)]
      split at ha
      case isFalse=>simp at ha
      rename_i hfit
      simp at ha;obtain ⟨rfl,rfl⟩:=ha
      rw [if_pos (by rw [← hr.len,←q.len];exact hfit)]
      obtain ⟨p1,p2⟩:=c.put (id:=id) (k:=⟨sz,overE k.cs (el+len) new⟩) (kc:=⟨sz,overE cs (el+len) new'⟩) hl rfl (PRr.ov _ _ _ q hr)
      exact ⟨_,_,S,m,rfl,p1,p2,by rw [← q.len];exact .sl _ _ _ _ _ hid⟩
    · rename_i hcap
      rw [if_neg (by rw [← q.len];exact hcap)]
      simp at ha;obtain ⟨rfl,rfl⟩:=ha
      obtain ⟨c1,a1⟩:=c.kill (id:=id) hl
      have mk:∀ {l l':List (List V)},PRr S m hc.get h.next l l'→PRr S m (hc.kill (m id)).get (h.kill id).next l l':=fun r=>r.mono (a1.mon c)
      obtain ⟨m',c2,a2,hm⟩:=c1.alloc (k:=⟨sz,(k.cs.drop el).take len++new⟩) (kc:=⟨sz,(cs.drop el).take len++new'⟩) rfl (mk (((hr.drop _).take _).app q))
      refine ⟨_,_,S,m',rfl,c2,a1.trans a2, ?_⟩
      rw [← q.len]
      have:(hc.kill (m id)).next=hc.next:=rfl
      have e:hc.next=m' h.next:=hm.symm
      rw [e]
      exact .sl _ _ _ _ _ (Nat.lt_succ_self _)
  case h_4=>simp at ha
theorem do2_ok {ev2 ev1:X→V} (hE:∀ x,PR S m hc.get h.next (ev2 x) (ev1 x)) {o:O} {v:V} {h':AH} (hd:do2 o ev2 h=some (v,h')):OpOk S m h hc v h' (doOp o ev1 hc):=by
  cases o
  case mv x=>simp [do2,doOp] at hd;obtain ⟨rfl,rfl⟩:=hd;exact OpOk.same c rfl (hE x)
  case pick a b d=>
    simp only [do2,doOp] at hd ⊢
    split at hd
    · rename_i x hx
      have:=hE a;rw [hx] at this
      cases hx':ev1 a<;>rw [hx'] at this<;>cases this
      simp at hd;obtain ⟨rfl,rfl⟩:=hd
      refine OpOk.same c rfl ?_
      split
      · exact hE b
      · exact hE d
    · simp at hd
  case alloc z=>
    simp only [do2] at hd
    split at hd
    case isFalse=>simp at hd
    rename_i hz
    simp [doOp] at hd;obtain ⟨rfl,rfl⟩:=hd
    exact OpOk.alloc c (k:=⟨z.length,[z]⟩) (kc:=⟨z.length,[z]⟩) rfl (.cons _ _ _ _ _ (PRs.plain1 hz) (.nil _)) _ _ (fun m' hm=>by rw [← hm];exact .p _ _ _ _ (Nat.lt_succ_self _)) rfl
  case alc z=>
    simp only [do2] at hd
    split at hd
    case isFalse=>simp at hd
    rename_i hz
    simp [doOp] at hd;obtain ⟨rfl,rfl⟩:=hd
    exact OpOk.alloc c (k:=⟨z.length,[z]⟩) (kc:=⟨z.length,[z]⟩) rfl (.cons _ _ _ _ _ (PRs.plain1 hz) (.nil _)) _ _ (fun m' hm=>by rw [← hm];exact .p _ _ _ _ (Nat.lt_succ_self _)) rfl
  case chka z y=>
    simp only [do2] at hd
    split at hd
    case isFalse=>simp at hd
    rename_i hz
    simp only [doOp] at hd
    have hy:=hE y
    split at hd
    case h_2=>simp at hd
    rename_i id el off hx
    rw [hx] at hy
    cases hx':ev1 y<;>rw [hx'] at hy<;>cases hy
    simp only [Option.bind_eq_some_iff] at hd
    obtain ⟨b,hb,hd⟩:=hd
    split at hd
    case isFalse=>simp at hd
    rename_i hs
    simp at hd;obtain ⟨rfl,rfl⟩:=hd
    obtain ⟨_,_,cs1,hcs,hr⟩:=c.blk id b hb
    refine OpOk.same c (v':=.u) ?_ (.u _ _)
    simp only [doOp,hx',hcs,Option.bind_some]
    rw [if_pos ⟨hs.1,hs.2.1,hs.2.2.1,sameRows_PR c hs.2.2.2 hr (.cons _ _ _ _ _ (PRs.plain1 hz) (.nil _))⟩]
  case box x=>
    simp only [do2,doOp] at hd ⊢
    split at hd
    case isFalse=>simp at hd
    rename_i hz
    simp at hd;obtain ⟨rfl,rfl⟩:=hd
    have hcells:=(hE x).cells (ne_u_of_cells hz)
    rw [if_pos (hcells.isCell hz)]
    exact OpOk.alloc c (k:=⟨(ev2 x).cells.length,[(ev2 x).cells]⟩) (kc:=⟨(ev1 x).cells.length,[(ev1 x).cells]⟩) hcells.len.symm (.cons _ _ _ _ _ hcells (.nil _)) _ _ (fun m' hm=>by rw [← hm];exact .p _ _ _ _ (Nat.lt_succ_self _)) rfl
  case build z ps=>
    simp only [do2] at hd
    split at hd
    case isFalse=>simp at hd
    rename_i hz
    simp only [doOp,Option.map_eq_some_iff,Prod.mk.injEq] at hd ⊢
    obtain ⟨q,hq,rfl,rfl⟩:=hd
    obtain ⟨q',h1,h2⟩:=fillP_PR (ps:=ps.map fun q=>(q.1,q.2.1,ev2 q.2.2)) (ps':=ps.map fun q=>(q.1,q.2.1,ev1 q.2.2)) (by simp [Function.comp_def]) (by
      simp only [List.map_map,Function.comp_def]
      clear hq
      induction ps with
      | nil=>exact .nil _
      | cons a l ih=>exact .cons _ _ _ _ _ (hE _) ih) (PRs.plain1 (S:=S) (m:=m) (g:=hc.get) (n:=h.next) hz) hq
    exact OpOk.same c (by rw [h1];rfl) (.agg _ _ _ h2)
  case bsl sz z k ps=>
    simp only [do2] at hd
    split at hd
    case isFalse=>simp at hd
    rename_i hz
    simp only [doOp,Option.map_eq_some_iff,Prod.mk.injEq] at hd ⊢
    obtain ⟨q,hq,rfl,rfl⟩:=hd
    obtain ⟨q',h1,h2⟩:=fillE_PR (ps:=ps.map fun q=>(q.1,ev2 q.2)) (ps':=ps.map fun q=>(q.1,ev1 q.2)) (by simp [Function.comp_def]) (by
      simp only [List.map_map,Function.comp_def]
      clear hq
      induction ps with
      | nil=>exact .nil _
      | cons a l ih=>exact .cons _ _ _ _ _ (hE _) ih) (PRr.rep (PRs.plain1 (S:=S) (m:=m) (g:=hc.get) (n:=h.next) hz.1) k) hq
    exact OpOk.alloc c (k:=⟨sz,q⟩) (kc:=⟨sz,q'⟩) rfl h2 _ (.sl hc.next 0 k k) (fun m' hm=>by rw [← hm];exact .sl _ _ _ _ _ (Nat.lt_succ_self _)) (by rw [h1];rfl)
  case bslc sz z k ps=>
    simp only [do2] at hd
    split at hd
    case isFalse=>simp at hd
    rename_i hz
    simp only [doOp,Option.map_eq_some_iff,Prod.mk.injEq] at hd ⊢
    obtain ⟨q,hq,rfl,rfl⟩:=hd
    obtain ⟨q',h1,h2⟩:=fillE_PR (ps:=ps.map fun q=>(q.1,ev2 q.2)) (ps':=ps.map fun q=>(q.1,ev1 q.2)) (by simp [Function.comp_def]) (by
      simp only [List.map_map,Function.comp_def]
      clear hq
      induction ps with
      | nil=>exact .nil _
      | cons a l ih=>exact .cons _ _ _ _ _ (hE _) ih) (PRr.rep (PRs.plain1 (S:=S) (m:=m) (g:=hc.get) (n:=h.next) hz.1) k) hq
    exact OpOk.alloc c (k:=⟨sz,q⟩) (kc:=⟨sz,q'⟩) rfl h2 _ (.sl hc.next 0 k k) (fun m' hm=>by rw [← hm];exact .sl _ _ _ _ _ (Nat.lt_succ_self _)) (by rw [h1];rfl)
  case chkb sz z k ps y=>
    simp only [do2] at hd
    split at hd
    case isFalse=>simp at hd
    rename_i hz
    simp only [doOp] at hd
    have hy:=hE y
    split at hd
    case h_2=>simp at hd
    rename_i id el len cap hx
    rw [hx] at hy
    cases hx':ev1 y<;>rw [hx'] at hy<;>cases hy
    simp only [Option.bind_eq_some_iff] at hd
    obtain ⟨q,hq,b,hb,hd⟩:=hd
    split at hd
    case isFalse=>simp at hd
    rename_i hs
    simp at hd;obtain ⟨rfl,rfl⟩:=hd
    obtain ⟨q',h1,h2⟩:=fillE_PR (ps:=ps.map fun q=>(q.1,ev2 q.2)) (ps':=ps.map fun q=>(q.1,ev1 q.2)) (by simp [Function.comp_def]) (by
      simp only [List.map_map,Function.comp_def]
      clear hq
      induction ps with
      | nil=>exact .nil _
      | cons a l ih=>exact .cons _ _ _ _ _ (hE _) ih) (PRr.rep (PRs.plain1 (S:=S) (m:=m) (g:=hc.get) (n:=h.next) hz) k) hq
    obtain ⟨_,_,cs1,hcs,hr⟩:=c.blk id b hb
    refine OpOk.same c (v':=.u) ?_ (.u _ _)
    simp only [doOp,hx',h1,Option.bind_some,hcs]
    rw [if_pos ⟨hs.1,hs.2.1,hs.2.2.1,hs.2.2.2.1,sameRows_PR c hs.2.2.2.2 hr h2⟩]
  case e0=>simp [do2,doOp] at hd;obtain ⟨rfl,rfl⟩:=hd;exact OpOk.same c rfl (.e0 _)
  case load k agg x=>
    have hv:=hE x
    simp only [do2] at hd
    split at hd
    · rename_i hx
      rw [hx] at hv
      simp only [Option.map_eq_some_iff,Prod.mk.injEq] at hd
      obtain ⟨w,hw,rfl,rfl⟩:=hd
      cases hx':ev1 x<;>rw [hx'] at hv<;>cases hv
      rename_i cs h3 h4 h1 h2
      obtain ⟨w',h5,h6⟩:=ldF_ok c h2 h4 hw
      refine OpOk.same c ?_ h6
      simp only [doOp,hx']
      simp only [Option.bind_eq_some_iff] at h5 ⊢
      obtain ⟨b,hb,r,hr,hcut⟩:=h5
      exact ⟨b,hb,r,hr,by rw [hcut];rfl⟩
    · simp only [doOp] at hd
      split at hd
      · rename_i id el off hx
        rw [hx] at hv
        cases hx':ev1 x<;>rw [hx'] at hv<;>cases hv
        simp only [Option.bind_eq_some_iff,Option.map_eq_some_iff,Prod.mk.injEq] at hd
        obtain ⟨b,hb,r,hr,w,hw,rfl,rfl⟩:=hd
        obtain ⟨w',h5,h6⟩:=load_ok c hb hr hw
        refine OpOk.same c ?_ h6
        simp only [doOp,hx']
        simp only [Option.bind_eq_some_iff] at h5 ⊢
        obtain ⟨b,hb,r,hr,hcut⟩:=h5
        exact ⟨b,hb,r,hr,by rw [hcut];rfl⟩
      · simp at hd
  case fload k ag x=>
    have hv:=hE x
    simp only [do2] at hd
    split at hd
    · rename_i hx
      rw [hx] at hv
      simp only [Option.map_eq_some_iff,Prod.mk.injEq] at hd
      obtain ⟨w,hw,rfl,rfl⟩:=hd
      cases hx':ev1 x<;>rw [hx'] at hv<;>cases hv
      rename_i cs h3 h4 h1 h2
      obtain ⟨w',h5,h6⟩:=ldF_ok c h2 h4 hw
      refine OpOk.same c ?_ h6
      simp only [doOp,hx']
      simp only [Option.bind_eq_some_iff] at h5 ⊢
      obtain ⟨b,hb,r,hr,hcut⟩:=h5
      exact ⟨b,hb,r,hr,by rw [hcut];rfl⟩
    · simp only [doOp] at hd
      split at hd
      · rename_i id el off hx
        rw [hx] at hv
        cases hx':ev1 x<;>rw [hx'] at hv<;>cases hv
        simp only [Option.bind_eq_some_iff,Option.map_eq_some_iff,Prod.mk.injEq] at hd
        obtain ⟨b,hb,r,hr,w,hw,rfl,rfl⟩:=hd
        obtain ⟨w',h5,h6⟩:=load_ok c hb hr hw
        refine OpOk.same c ?_ h6
        simp only [doOp,hx']
        simp only [Option.bind_eq_some_iff] at h5 ⊢
        obtain ⟨b,hb,r,hr,hcut⟩:=h5
        exact ⟨b,hb,r,hr,by rw [hcut];rfl⟩
      · simp at hd
  case chk k ag x y=>
    have hv:=hE x
    simp only [do2,doOp] at hd
    split at hd
    · rename_i id el off hx
      rw [hx] at hv
      cases hx':ev1 x<;>rw [hx'] at hv<;>cases hv
      simp only [Option.bind_eq_some_iff] at hd
      obtain ⟨b,hb,r,hr,w,hw,hd⟩:=hd
      split at hd
      case isFalse=>simp at hd
      rename_i hs
      simp at hd;obtain ⟨rfl,rfl⟩:=hd
      obtain ⟨w',h5,h6⟩:=load_ok c hb hr hw
      refine OpOk.same c (v':=.u) ?_ (.u _ _)
      simp only [doOp,hx']
      simp only [Option.bind_eq_some_iff] at h5 ⊢
      obtain ⟨b,hb,r,hr,hcut⟩:=h5
      exact ⟨b,hb,r,hr,_,hcut,by rw [if_pos (sameVa_PR c hs h6 (hE y))]⟩
    · simp at hd
  case store k a x=>
    have hv:=hE a
    simp only [do2,doOp] at hd
    split at hd
    · rename_i id el off hx
      rw [hx] at hv
      split at hd
      case isFalse=>simp at hd
      rename_i hcond
      obtain ⟨h1,h2,h3,h4⟩:=hcond
      simp only [Option.bind_eq_some_iff] at hd
      obtain ⟨b,hb,r,hr,hd⟩:=hd
      split at hd
      case isFalse=>simp at hd
      rename_i hle
      simp at hd;obtain ⟨rfl,rfl⟩:=hd
      cases hx':ev1 a<;>rw [hx'] at hv<;>cases hv
      simp only [doOp,hx']
      exact store_ok c h1 h2 h3 h4 hb hr hle (hE x)
    · simp at hd
  case nck x=>
    have hv:=hE x
    simp only [do2] at hd
    split at hd
    · rename_i hx
      rw [hx] at hv
      simp at hd;obtain ⟨rfl,rfl⟩:=hd
      cases hx':ev1 x<;>rw [hx'] at hv<;>cases hv
      exact OpOk.same c (v':=ev1 x) (by simp only [doOp,hx']) (by rw [hx'];constructor<;>assumption)
    · simp only [doOp] at hd
      split at hd
      · rename_i hx;rw [hx] at hv;simp at hd;obtain ⟨rfl,rfl⟩:=hd
        cases hx':ev1 x<;>rw [hx'] at hv<;>cases hv
        exact OpOk.same c (v':=ev1 x) (by simp only [doOp,hx']) (by rw [hx'];constructor;assumption)
      · rename_i hx;rw [hx] at hv;simp at hd;obtain ⟨rfl,rfl⟩:=hd
        cases hx':ev1 x<;>rw [hx'] at hv<;>cases hv
        exact OpOk.same c (v':=ev1 x) (by simp only [doOp,hx']) (by rw [hx'];constructor;assumption)
      · rename_i hx;rw [hx] at hv;simp at hd;obtain ⟨rfl,rfl⟩:=hd
        cases hx':ev1 x<;>rw [hx'] at hv<;>cases hv
        exact OpOk.same c (v':=ev1 x) (by simp only [doOp,hx']) (by rw [hx'];constructor<;>assumption)
      · simp at hd
  case bin op x y=>
    simp only [do2,doOp,Option.map_eq_some_iff,Prod.mk.injEq] at hd ⊢
    obtain ⟨r,hr,rfl,rfl⟩:=hd
    obtain ⟨h1,h2,h3⟩:=bin_plain hr
    exact OpOk.same c (by rw [PR.of_plain1 h1 (hE x),PR.of_plain1 h2 (hE y),hr];rfl) (PR.plain1 h3)
  case eq neg k x y=>
    simp only [do2,doOp,Option.map_eq_some_iff,Prod.mk.injEq] at hd ⊢
    obtain ⟨r,hr,rfl,rfl⟩:=hd
    exact OpOk.same c (by rw [eqV_PR hr (hE x) (hE y)];rfl) (.b _ _)
  case un op x=>
    simp only [do2,doOp,Option.map_eq_some_iff,Prod.mk.injEq] at hd ⊢
    obtain ⟨r,hr,rfl,rfl⟩:=hd
    obtain ⟨h1,h2⟩:=un_plain hr
    exact OpOk.same c (by rw [PR.of_plain1 h1 (hE x),hr];rfl) (PR.plain1 h2)
  case conv k x=>
    have hv:=hE x
    simp only [do2,doOp] at hd
    split at hd
    · rename_i hx;rw [hx] at hv;simp at hd;obtain ⟨rfl,rfl⟩:=hd
      cases hx':ev1 x<;>rw [hx'] at hv<;>cases hv
      exact OpOk.same c (by simp only [doOp,hx']) (.i _ _ _)
    · simp at hd
  case strs x=>
    have hv:=hE x
    simp only [do2,doOp] at hd
    split at hd
    · rename_i hx;rw [hx] at hv;simp at hd;obtain ⟨rfl,rfl⟩:=hd
      cases hx':ev1 x<;>rw [hx'] at hv<;>cases hv
      exact OpOk.same c (by simp only [doOp,hx']) (.s _ _)
    · simp at hd
  case mark x=>
    have hv:=hE x
    simp only [do2,doOp] at hd
    split at hd
    · rename_i id el len cap hx;rw [hx] at hv
      split at hd
      case isFalse=>simp at hd
      rename_i hcond
      simp at hd;obtain ⟨rfl,rfl⟩:=hd
      cases hx':ev1 x<;>rw [hx'] at hv<;>cases hv
      rename_i hid
      obtain ⟨b,hb⟩:=Option.isSome_iff_exists.1 hcond.1
      obtain ⟨_,_,cs,hcs,_⟩:=c.blk _ b hb
      exact OpOk.same c (by simp only [doOp,hx'];rw [if_pos ⟨by rw [hcs];rfl,c.lim _ (by simp [AH.live,hb]) hcond.2.1,hcond.2.2⟩]) (.sl _ _ _ _ _ hid)
    · simp at hd
  case s2b x=>
    have hv:=hE x
    simp only [do2] at hd
    split at hd
    · rename_i b hx;rw [hx] at hv
      split at hd
      case isFalse=>simp at hd
      simp [doOp,hx] at hd;obtain ⟨rfl,rfl⟩:=hd
      cases hx':ev1 x<;>rw [hx'] at hv<;>cases hv
      exact OpOk.alloc c (k:=⟨1,bytesV b⟩) (kc:=⟨1,bytesV b⟩) rfl (bytesV_PR b) _ (.sl hc.next 0 b.size b.size) (fun m' hm=>by rw [← hm];exact .sl _ _ _ _ _ (Nat.lt_succ_self _)) (by simp only [doOp,hx'])
    · simp at hd
  case b2s x=>
    have hv:=hE x
    simp only [do2] at hd
    split at hd
    · rename_i s xs hx
      split at hd
      case isFalse=>simp at hd
      rename_i h1
      subst h1
      simp only [Option.map_eq_some_iff,Prod.mk.injEq] at hd
      obtain ⟨r,hr,rfl,rfl⟩:=hd
      obtain ⟨new',h2,h3⟩:=elems_PR c hv (sz:=1) (new:=xs) (by simp [elems2,hx])
      refine OpOk.same c (v':=.s ⟨r.toArray⟩) ?_ (.s _ _)
      simp only [doOp]
      split
      · rename_i hx';rw [hx,hx'] at hv;cases hv
      · rw [h2];simp [bytesOf_PR h3 hr]
    · rename_i hx
      simp only [doOp] at hd
      split at hd
      · simp at hd
      · rename_i hs
        simp only [Option.bind_eq_some_iff,Option.map_eq_some_iff,Prod.mk.injEq] at hd
        obtain ⟨l,hl,r,hr,rfl,rfl⟩:=hd
        have hl2:elems2 1 h (ev2 x)=some l:=by
          unfold elems2
          split
          · rename_i heq;exact absurd heq (hx _ _)
          · exact hl
        obtain ⟨new',h2,h3⟩:=elems_PR c hv hl2
        refine OpOk.same c (v':=.s ⟨r.toArray⟩) ?_ (.s _ _)
        simp only [doOp]
        split
        · rename_i b hx'
          rw [hx'] at hv
          cases hx2:ev2 x<;>rw [hx2] at hv hl hs<;>cases hv
          · simp [elems] at hl
          · exact absurd rfl (hs _)
        · rw [h2];simp [bytesOf_PR h3 hr]
  case i2s x=>
    have hv:=hE x
    simp only [do2,doOp] at hd
    split at hd
    · rename_i hx;rw [hx] at hv;simp at hd;obtain ⟨rfl,rfl⟩:=hd
      cases hx':ev1 x<;>rw [hx'] at hv<;>cases hv
      exact OpOk.same c (by simp only [doOp,hx']) (.s _ _)
    · simp at hd
  case mkif t x=>simp [do2,doOp] at hd;obtain ⟨rfl,rfl⟩:=hd;exact OpOk.same c rfl (.ifc _ _ _ _ (hE x))
  case mkfn fn a b=>
    simp [do2,doOp] at hd;obtain ⟨rfl,rfl⟩:=hd
    have all:∀ l:List X,PRs S m hc.get h.next (l.map ev2) (l.map ev1):=fun l=>by
      induction l with
      | nil=>exact .nil _
      | cons a l ih=>exact .cons _ _ _ _ _ (hE _) ih
    exact OpOk.same c rfl (.f _ _ _ _ _ _ (all a) (all b))
  case mksl z a b=>
    have hva:=hE a
    have hvb:=hE b
    simp only [do2] at hd
    split at hd
    case isFalse=>simp at hd
    rename_i hz
    simp only [doOp] at hd
    split at hd
    · rename_i ha hb
      rw [ha] at hva;rw [hb] at hvb
      split at hd
      case isFalse=>simp at hd
      rename_i hcond
      simp at hd;obtain ⟨rfl,rfl⟩:=hd
      cases ha':ev1 a<;>rw [ha'] at hva<;>cases hva
      cases hb':ev1 b<;>rw [hb'] at hvb<;>cases hvb
      rename_i k1 n1 k2 n2
      exact OpOk.alloc c (k:=⟨z.length,List.replicate n2.toNat z⟩) (kc:=⟨z.length,List.replicate n2.toNat z⟩) rfl (PRr.rep (PRs.plain1 hz) _) _ (.sl hc.next 0 n1.toNat n2.toNat) (fun m' hm=>by rw [← hm];exact .sl _ _ _ _ _ (Nat.lt_succ_self _)) (by simp only [doOp,ha',hb'];rw [if_pos hcond])
    · simp at hd
  case appz z a b=>
    have hva:=hE a
    have hvb:=hE b
    simp only [do2] at hd
    split at hd
    case isFalse=>simp at hd
    rename_i hz
    simp only [doOp] at hd
    split at hd
    · rename_i ha hb
      rw [ha] at hva;rw [hb] at hvb
      split at hd
      case isFalse=>simp at hd
      rename_i hcond
      simp at hd;obtain ⟨rfl,rfl⟩:=hd
      cases ha':ev1 a<;>rw [ha'] at hva<;>cases hva
      cases hb':ev1 b<;>rw [hb'] at hvb<;>cases hvb
      rename_i k2 n2
      exact OpOk.alloc c (k:=⟨z.length,List.replicate n2.toNat z⟩) (kc:=⟨z.length,List.replicate n2.toNat z⟩) rfl (PRr.rep (PRs.plain1 hz) _) _ (.sl hc.next 0 n2.toNat n2.toNat) (fun m' hm=>by rw [← hm];exact .sl _ _ _ _ _ (Nat.lt_succ_self _)) (by simp only [doOp,ha',hb'];rw [if_pos hcond])
    · simp at hd
  case slice sz x lo hi mx=>
    have hv:=hE x
    simp only [do2] at hd
    split at hd
    · rename_i s xs hx
      rw [hx] at hv
      split at hd
      case isFalse=>simp at hd
      rename_i hcond
      obtain ⟨rfl,hcond⟩:=hcond
      simp only [Option.bind_eq_some_iff,Option.map_eq_some_iff,Prod.mk.injEq] at hd
      obtain ⟨mm,h1,t,h2,l,h3,rfl,rfl⟩:=hd
      obtain ⟨g1,g1'⟩:=bnd_PR hE h1
      obtain ⟨g2,g2'⟩:=bnd_PR hE h2
      obtain ⟨g3,g3'⟩:=bnd_PR hE h3
      have hml:mm≤xs.length:=by rcases g1' with ⟨h,_⟩ | h<;>omega
      have htl:t≤xs.length:=by
        rcases g2' with ⟨h,_⟩ | h
        · omega
        · omega
      have htm:t≤mm:=by
        rcases g2' with ⟨h,hn⟩ | h
        · subst hn
          rcases g1' with ⟨h1',_⟩ | h1'
          · omega
          · cases mx with
            | none=>simp [bndOf] at h1;omega
            | some=>simp at hcond
        · exact h
      have hlt:l≤t:=by rcases g3' with ⟨h,_⟩ | h<;>omega
      cases hx':ev1 x<;>rw [hx'] at hv<;>cases hv
      · -- nil
        simp only [List.length_nil] at *
        obtain rfl:mm=0:=by omega
        obtain rfl:t=0:=by omega
        obtain rfl:l=0:=by omega
        refine OpOk.same c (v':=.ns) ?_ (by simpa using .fl0 _ _)
        simp only [doOp,hx']
        rw [if_pos hcond,g1]
        simp [g2,g3]
      · simp only [List.length_nil] at *
        obtain rfl:mm=0:=by omega
        obtain rfl:t=0:=by omega
        obtain rfl:l=0:=by omega
        refine OpOk.same c (v':=.e0) ?_ (by simpa using .fl1 _ _)
        simp only [doOp,hx']
        rw [if_pos hcond,g1]
        simp [g2,g3]
      · rename_i a el cap cs q5 q1 q2 q4 q6 q3
        -- the bounds of the abstract machine: its room may be greater
        have k1:∃ mm',bndOf (mx.map ev1) cap cap=some mm'∧mm≤mm':=by
          cases mx with
          | none=>refine ⟨cap,rfl, ?_⟩;simp [bndOf] at h1;omega
          | some y=>
            simp only [Option.map_some] at g1 ⊢
            unfold bndOf at g1 ⊢
            split at g1
            · simp at *
            · rename_i k' jj hh
              simp only [Option.some.injEq] at hh
              split at g1
              · simp at g1;subst g1
                exact ⟨jj.toNat,by rw [if_pos (by omega)],Nat.le_refl _⟩
              · simp at g1
            · simp at g1
        obtain ⟨mm',k1,k1'⟩:=k1
        have k2:bndOf (hi.map ev1) xs.length mm'=some t:=by
          cases hi with
          | none=>simpa [bndOf] using g2
          | some y=>
            simp only [Option.map_some] at g2 ⊢
            unfold bndOf at g2 ⊢
            split at g2
            · simp at *
            · rename_i k' jj hh
              simp only [Option.some.injEq] at hh
              split at g2
              · simp at g2;subst g2
                rw [if_pos (by omega)]
              · simp at g2
            · simp at g2
        refine OpOk.same c (v':=.sl a (el+l) (t - l) (mm' - l)) ?_ ?_
        · simp only [doOp,hx',q2,Option.bind_some]
          rw [if_pos ⟨trivial,hcond,q3⟩,k1]
          simp [k2,g3]
        · have hlen:((xs.drop l).take (t - l)).length=t - l:=by simp;omega
          have e:(((cs.drop el).take xs.length).drop l).take (t - l)=(cs.drop (el+l)).take (t - l):=by
            rw [List.drop_take,List.take_take,List.drop_drop]
            congr 1
            omega
          have:=PR.fl (S:=S) (m:=m) (g:=hc.get) h.next s ((xs.drop l).take (t - l)) a (el+l) (mm' - l) cs q1 q2 (by rw [hlen];omega) (by rw [hlen];omega) (by rw [hlen];unfold frzLen at *;omega) (by rw [hlen,←e];exact (q6.drop l).take (t - l))
          rw [hlen] at this
          exact this
    · simp only [doOp] at hd
      split at hd
      · rename_i hx
        rw [hx] at hv
        split at hd
        case isFalse=>simp at hd
        rename_i hcond
        simp only [Option.bind_eq_some_iff,Option.map_eq_some_iff,Prod.mk.injEq] at hd
        obtain ⟨mm,h1,t,h2,l,h3,rfl,rfl⟩:=hd
        cases hx':ev1 x<;>rw [hx'] at hv<;>cases hv
        refine OpOk.same c (v':=.ns) ?_ (.ns _)
        simp only [doOp,hx']
        rw [if_pos hcond,(bnd_PR hE h1).1]
        simp [(bnd_PR hE h2).1,(bnd_PR hE h3).1]
      · rename_i hx
        rw [hx] at hv
        split at hd
        case isFalse=>simp at hd
        rename_i hcond
        simp only [Option.bind_eq_some_iff,Option.map_eq_some_iff,Prod.mk.injEq] at hd
        obtain ⟨mm,h1,t,h2,l,h3,rfl,rfl⟩:=hd
        cases hx':ev1 x<;>rw [hx'] at hv<;>cases hv
        refine OpOk.same c (v':=.e0) ?_ (.e0 _)
        simp only [doOp,hx']
        rw [if_pos hcond,(bnd_PR hE h1).1]
        simp [(bnd_PR hE h2).1,(bnd_PR hE h3).1]
      · rename_i id el len cap hx
        rw [hx] at hv
        simp only [Option.bind_eq_some_iff] at hd
        obtain ⟨b,hb,hd⟩:=hd
        split at hd
        case isFalse=>simp at hd
        rename_i hcond
        simp only [Option.bind_eq_some_iff,Option.map_eq_some_iff,Prod.mk.injEq] at hd
        obtain ⟨mm,h1,t,h2,l,h3,rfl,rfl⟩:=hd
        cases hx':ev1 x<;>rw [hx'] at hv<;>cases hv
        rename_i hid
        obtain ⟨_,_,cs,hcs,_⟩:=c.blk _ b hb
        refine OpOk.same c (v':=.sl (m id) (el+l) (t - l) (mm - l)) ?_ (.sl _ _ _ _ _ hid)
        simp only [doOp,hx',hcs,Option.bind_some]
        rw [if_pos hcond,(bnd_PR hE h1).1]
        simp [(bnd_PR hE h2).1,(bnd_PR hE h3).1]
      · simp at hd
  case sslice x lo hi=>
    have hv:=hE x
    simp only [do2,doOp] at hd
    split at hd
    · rename_i b hx
      rw [hx] at hv
      simp only [Option.bind_eq_some_iff,Option.map_eq_some_iff,Prod.mk.injEq] at hd
      obtain ⟨t,h2,l,h3,rfl,rfl⟩:=hd
      cases hx':ev1 x<;>rw [hx'] at hv<;>cases hv
      refine OpOk.same c (v':=.s (b.extract l t)) ?_ (.s _ _)
      simp only [doOp,hx']
      rw [(bnd_PR hE h2).1]
      simp [(bnd_PR hE h3).1]
    · simp at hd
  case fad off x=>
    have hv:=hE x
    simp only [do2] at hd
    split at hd
    · rename_i hx
      rw [hx] at hv
      simp at hd;obtain ⟨rfl,rfl⟩:=hd
      cases hx':ev1 x<;>rw [hx'] at hv<;>cases hv
      refine OpOk.same c (by simp only [doOp,hx'];rfl) (by constructor<;>assumption)
    · simp only [doOp] at hd
      split at hd
      · rename_i hx;rw [hx] at hv;simp at hd;obtain ⟨rfl,rfl⟩:=hd
        cases hx':ev1 x<;>rw [hx'] at hv<;>cases hv
        refine OpOk.same c (by simp only [doOp,hx'];rfl) (by constructor;assumption)
      · simp at hd
  case fld off k agg x=>
    have hv:=hE x
    simp only [do2,doOp] at hd
    split at hd
    · rename_i r hx
      rw [hx] at hv
      simp only [Option.map_eq_some_iff,Prod.mk.injEq] at hd
      obtain ⟨w,hw,rfl,rfl⟩:=hd
      cases hx':ev1 x<;>rw [hx'] at hv<;>cases hv
      rename_i hr
      obtain ⟨w',h1,h2⟩:=cut_PR hr hw
      exact OpOk.same c (by simp only [doOp,hx',h1];rfl) h2
    · simp at hd
  case iad sz x i=>
    have hv:=hE x
    simp only [do2,Option.map_eq_some_iff,Prod.mk.injEq] at hd
    obtain ⟨w,hw,rfl,rfl⟩:=hd
    unfold iadF at hw
    split at hw
    · rename_i id el len cap k hx hk
      rw [hx] at hv
      simp only [hx,blkOf] at hk
      split at hw
      case isFalse=>simp at hw
      rename_i hsz
      simp only [Option.map_eq_some_iff] at hw
      obtain ⟨j,hj,rfl⟩:=hw
      cases hx':ev1 x<;>rw [hx'] at hv<;>cases hv
      rename_i hid
      obtain ⟨_,_,cs,hcs,_⟩:=c.blk _ k hk
      exact OpOk.same c (by simp only [doOp,hx'];rw [if_pos (by simp [szB,hcs,hsz]),(idx_PR (hE i) hj).1];rfl) (.p _ _ _ _ hid)
    · rename_i s xs _ hx
      rw [hx] at hv
      split at hw
      case isFalse=>simp at hw
      rename_i hsz
      subst hsz
      simp only [Option.map_eq_some_iff] at hw
      obtain ⟨j,hj,rfl⟩:=hw
      obtain ⟨h1,h2⟩:=idx_PR (hE i) hj
      cases hx':ev1 x<;>rw [hx'] at hv<;>cases hv
      · simp at h2
      · simp at h2
      · rename_i a el cap cs q5 q1 q2 q4 q6 q3
        exact OpOk.same c (v':=.p a (el+j) 0) (by simp only [doOp,hx'];rw [if_pos (by simp [szB,q2]),h1];rfl) (.fp _ _ _ _ _ _ _ _ q1 q2 q4 q6)
    · simp at hw
  case iada sz k x i=>
    have hv:=hE x
    simp only [do2] at hd
    split at hd
    · rename_i hx
      rw [hx] at hv
      simp only [Option.map_eq_some_iff,Prod.mk.injEq] at hd
      obtain ⟨j,hj,rfl,rfl⟩:=hd
      cases hx':ev1 x<;>rw [hx'] at hv<;>cases hv
      exact OpOk.same c (by simp only [doOp,hx'];rw [(idx_PR (hE i) hj).1];rfl) (by constructor<;>assumption)
    · simp only [doOp] at hd
      split at hd
      · rename_i hx
        rw [hx] at hv
        simp only [Option.map_eq_some_iff,Prod.mk.injEq] at hd
        obtain ⟨j,hj,rfl,rfl⟩:=hd
        cases hx':ev1 x<;>rw [hx'] at hv<;>cases hv
        exact OpOk.same c (by simp only [doOp,hx'];rw [(idx_PR (hE i) hj).1];rfl) (by constructor;assumption)
      · simp at hd
  case idx sz k agg x i=>
    have hv:=hE x
    simp only [do2,doOp] at hd
    split at hd
    · rename_i r hx
      rw [hx] at hv
      simp only [Option.bind_eq_some_iff,Option.map_eq_some_iff,Prod.mk.injEq] at hd
      obtain ⟨j,hj,w,hw,rfl,rfl⟩:=hd
      cases hx':ev1 x<;>rw [hx'] at hv<;>cases hv
      rename_i hr
      obtain ⟨w',h1,h2⟩:=cut_PR hr hw
      exact OpOk.same c (by simp only [doOp,hx'];rw [(idx_PR (hE i) hj).1];simp [h1]) h2
    · simp at hd
  case sidx x i=>
    have hv:=hE x
    simp only [do2,doOp] at hd
    split at hd
    · rename_i r hx
      rw [hx] at hv
      simp only [Option.map_eq_some_iff,Prod.mk.injEq] at hd
      obtain ⟨j,hj,rfl,rfl⟩:=hd
      cases hx':ev1 x<;>rw [hx'] at hv<;>cases hv
      exact OpOk.same c (by simp only [doOp,hx'];rw [(idx_PR (hE i) hj).1];rfl) (.i _ _ _)
    · simp at hd
  case ext x i=>
    have hv:=hE x
    simp only [do2,doOp] at hd
    split at hd
    · rename_i r hx
      rw [hx] at hv
      simp only [Option.map_eq_some_iff,Prod.mk.injEq] at hd
      obtain ⟨w,hw,rfl,rfl⟩:=hd
      cases hx':ev1 x<;>rw [hx'] at hv<;>cases hv
      rename_i hr
      obtain ⟨w',h1,h2⟩:=hr.get _ _ hw
      exact OpOk.same c (by simp only [doOp,hx',h1];rfl) h2
    · simp at hd
  case app sz x y=>
    have hv:=hE x
    simp only [do2,Option.bind_eq_some_iff] at hd
    obtain ⟨new,hnew,hd⟩:=hd
    obtain ⟨new',h1,h2⟩:=elems_PR c (hE y) hnew
    simp only [doOp,appV_N,h1,Option.bind_some]
    exact app_ok c hv h2 hd
  case len x=>
    have hv:=hE x
    simp only [do2] at hd
    split at hd
    · rename_i s xs hx
      rw [hx] at hv
      simp at hd;obtain ⟨rfl,rfl⟩:=hd
      cases hx':ev1 x<;>rw [hx'] at hv<;>cases hv<;>exact OpOk.same c (by simp only [doOp,hx']<;>rfl) (.i _ _ _)
    · simp only [doOp] at hd
      split at hd
      · rename_i hx;rw [hx] at hv;simp at hd;obtain ⟨rfl,rfl⟩:=hd
        cases hx':ev1 x<;>rw [hx'] at hv<;>cases hv;exact OpOk.same c (by simp only [doOp,hx']) (.i _ _ _)
      · rename_i hx;rw [hx] at hv;simp at hd;obtain ⟨rfl,rfl⟩:=hd
        cases hx':ev1 x<;>rw [hx'] at hv<;>cases hv;exact OpOk.same c (by simp only [doOp,hx']) (.i _ _ _)
      · rename_i hx;rw [hx] at hv;simp at hd;obtain ⟨rfl,rfl⟩:=hd
        cases hx':ev1 x<;>rw [hx'] at hv<;>cases hv;exact OpOk.same c (by simp only [doOp,hx']) (.i _ _ _)
      · simp at hd
  case slen x=>
    have hv:=hE x
    simp only [do2,doOp] at hd
    split at hd
    · rename_i hx;rw [hx] at hv;simp at hd;obtain ⟨rfl,rfl⟩:=hd
      cases hx':ev1 x<;>rw [hx'] at hv<;>cases hv;exact OpOk.same c (by simp only [doOp,hx']) (.i _ _ _)
    · simp at hd
  case lenc k=>simp [do2,doOp] at hd;obtain ⟨rfl,rfl⟩:=hd;exact OpOk.same c rfl (.i _ _ _)
  case cap x=>
    have hv:=hE x
    simp only [do2,doOp] at hd
    split at hd
    · rename_i hx;rw [hx] at hv;simp at hd;obtain ⟨rfl,rfl⟩:=hd
      cases hx':ev1 x<;>rw [hx'] at hv<;>cases hv;exact OpOk.same c (by simp only [doOp,hx']) (.i _ _ _)
    · rename_i hx;rw [hx] at hv;simp at hd;obtain ⟨rfl,rfl⟩:=hd
      cases hx':ev1 x<;>rw [hx'] at hv<;>cases hv;exact OpOk.same c (by simp only [doOp,hx']) (.i _ _ _)
    · simp at hd
  case mn l=>
    simp only [do2,doOp] at hd ⊢
    cases l with
    | nil=>simp at hd
    | cons x l=>
      simp only [Option.map_eq_some_iff,Prod.mk.injEq] at hd ⊢
      obtain ⟨r,hr,rfl,rfl⟩:=hd
      obtain ⟨r',h1,h2⟩:=fold_PR min_plain (l:=l.map ev2) (l':=l.map ev1) (by
        clear hr
        induction l with
        | nil=>exact .nil _
        | cons a l ih=>exact .cons _ _ _ _ _ (hE _) ih) (hE x) hr
      exact OpOk.same c (by rw [h1];rfl) h2
  case mx l=>
    simp only [do2,doOp] at hd ⊢
    cases l with
    | nil=>simp at hd
    | cons x l=>
      simp only [Option.map_eq_some_iff,Prod.mk.injEq] at hd ⊢
      obtain ⟨r,hr,rfl,rfl⟩:=hd
      obtain ⟨r',h1,h2⟩:=fold_PR max_plain (l:=l.map ev2) (l':=l.map ev1) (by
        clear hr
        induction l with
        | nil=>exact .nil _
        | cons a l ih=>exact .cons _ _ _ _ _ (hE _) ih) (hE x) hr
      exact OpOk.same c (by rw [h1];rfl) h2
  case call=>simp [do2,doOp] at hd
  case inv=>simp [do2,doOp] at hd
  case tas t ok z x=>
    have hv:=hE x
    simp only [do2] at hd
    split at hd
    case isFalse=>simp at hd
    rename_i hz
    simp only [doOp] at hd
    split at hd
    · rename_i t' w hx
      rw [hx] at hv
      cases hx':ev1 x<;>rw [hx'] at hv<;>cases hv
      rename_i hw
      simp only [doOp,hx']
      split at hd
      · rename_i ht
        simp at hd;obtain ⟨rfl,rfl⟩:=hd
        rw [if_pos ht]
        refine OpOk.same c rfl ?_
        split
        · exact .tup _ _ _ (.cons _ _ _ _ _ hw (.cons _ _ _ _ _ (.b _ _) (.nil _)))
        · exact hw
      · rename_i ht
        rw [if_neg ht]
        split at hd
        · rename_i ho
          simp at hd;obtain ⟨rfl,rfl⟩:=hd
          rw [if_pos ho]
          exact OpOk.same c rfl (.tup _ _ _ (.cons _ _ _ _ _ (PR.plain hz) (.cons _ _ _ _ _ (.b _ _) (.nil _))))
        · simp at hd
    · rename_i hx
      rw [hx] at hv
      cases hx':ev1 x<;>rw [hx'] at hv<;>cases hv
      simp only [doOp,hx']
      split at hd
      · rename_i ho
        simp at hd;obtain ⟨rfl,rfl⟩:=hd
        rw [if_pos ho]
        exact OpOk.same c rfl (.tup _ _ _ (.cons _ _ _ _ _ (PR.plain hz) (.cons _ _ _ _ _ (.b _ _) (.nil _))))
      · simp at hd
    · simp at hd
end
end Go.Ab
/- Conditions ahead of code over values that stay; what they say of the abstract machine; functions by what they answer. -/
namespace Go.Ab
open Go
def AH.emp:AH:=⟨fun _=>none,0,0⟩
def EP (S:Nat→Prop) (m:Nat→Nat) (h hc:AH) (e e1:Env):Prop:=∀ t,PR S m hc.get h.next (e t) (e1 t)
section
variable (tp:TP)
def Cq (f:Nat) (args:List V) (h:AH) (Q:V→AH→Prop) (t:Fz Q:=.mk):Prop:=
  ∀ S m hc args1,Cfg S m h hc→PRs S m hc.get h.next args args1→Ev tp f args1 hc (fun r1 hc'=>∃ r h' S' m',Cfg S' m' h' hc'∧Adv S m h hc S' m' h' hc'∧PR S' m' hc'.get h'.next r r1∧Q r h')
def Pf (f:Nat) (args:List V) (R:V):Prop:=Cq tp f args AH.emp (fun r h'=>r=R∧h'=AH.emp)
def wnil (neg:Bool) (v w:V) (h:AH) (K:V→AH→Prop):Prop:=match v,w with
  | .fl _ xs,.ns=>∀ t:Bool,(xs≠[]→t=false)→K (.b (if neg then !t else t)) h
  | v,w=>Wo (eqV .sl v w) (fun r=>K (.b (if neg then !r else r)) h)
def z1 (o:O) (e:Env) (h:AH) (K:V→AH→Prop):Prop:=match o with
  | .eq neg .sl a b=>wnil neg (a.e2 e) (b.e2 e) h K
  | .call f l=>Wo (callee tp (.call f l) (X.e2 e)) (fun c=>Cq tp c.1 c.2 h K)
  | .inv x m l=>Wo (callee tp (.inv x m l) (X.e2 e)) (fun c=>Cq tp c.1 c.2 h K)
  | o=>Wo (do2 o (X.e2 e) h) (fun z=>K z.1 z.2)
def zops:List TO→Env→AH→(Env→AH→Prop)→Prop
  | [],e,h,K=>K e h
  | o::r,e,h,K=>match wantedT e o.g with
    | some true=>z1 tp o.o e h (fun v h=>zops r (e.set o.d v) h K)
    | some false=>zops r (e.set o.d (.tup [])) h K
    | none=>False
def zq1 (o:O) (e:Env) (h:AH) (K:V→AH→Prop):Prop:=if isPure o=true then z1 tp o e h K else z1 tp o e h.raise (fun v h'=>K v (h'.back h.lim))
def zq:List TO→Env→AH→(Env→AH→Prop)→Prop
  | [],e,h,K=>K e h
  | o::r,e,h,K=>match wantedT e o.g with
    | some true=>zq1 tp o.o e h (fun v h=>zq r (e.set o.d v) h K)
    | some false=>zq r (e.set o.d (.tup [])) h K
    | none=>False
def zs:List (Bool×List TO)→Env→AH→(Env→AH→Prop)→Prop
  | [],e,h,K=>K e h
  | (true,l)::r,e,h,K=>zq tp l e h (fun e h=>zs r e h K)
  | (false,l)::r,e,h,K=>zops tp l e h (fun e h=>zs r e h K)
def Stp (e:Env) (h:AH) (e2:Env) (h2:AH):Prop:=∀ S m hc e1,Cfg S m h hc→EP S m h hc e e1→∃ S',Cfg S' m h2 hc∧Adv S m h hc S' m h2 hc∧EP S' m h2 hc e2 e1
def zc:TC→Env→AH→(Ex→Env→AH→Prop)→Prop
  | .skip,e,h,K=>K .nm e h
  | .ret,e,h,K=>K .rt e h
  | .exit id,e,h,K=>K (.ex id) e h
  | .reg ops,e,h,K=>zops tp ops e h (fun e h=>K .nm e h)
  | .dreg segs,e,h,K=>zs tp segs e h (fun e h=>K .nm e h)
  | .cond c a b,e,h,K=>Wb (c.e2 e) (zc a e h K) (zc b e h K)
  | .block id c,e,h,K=>zc c e h (fun x e h=>K (blk id x) e h)
  | .seq a b,e,h,K=>zc a e h (fun x e h=>nxt x (zc b e h K) (K x e h))
  | .loop c,e,h,K=>∀ I:Env→AH→Prop,(∀ e h,zc c e h (fun x e h=>nxt x (I e h) (K x e h))→I e h)→(∀ e h e2 h2,Stp e h e2 h2→I e2 h2→I e h)→I e h
variable {tp}
theorem z1_imp {o:O} {e:Env} {h:AH} {K L:V→AH→Prop} (kl:∀ v h,K v h→L v h) (z:z1 tp o e h K):z1 tp o e h L:=by
  unfold z1 at z ⊢
  split at z
  · unfold wnil at z ⊢
    split at z
    · exact fun t ht=>kl _ _ (z t ht)
    · obtain ⟨a,ha,z⟩:=z;exact ⟨a,ha,kl _ _ z⟩
  · obtain ⟨c,hc,z⟩:=z
    refine ⟨c,hc,fun S m hc args1 p q=>(z S m hc args1 p q).imp ?_⟩
    rintro v h' ⟨r,h2,S',m',a,b,c,d⟩;exact ⟨r,h2,S',m',a,b,c,kl _ _ d⟩
  · obtain ⟨c,hc,z⟩:=z
    refine ⟨c,hc,fun S m hc args1 p q=>(z S m hc args1 p q).imp ?_⟩
    rintro v h' ⟨r,h2,S',m',a,b,c,d⟩;exact ⟨r,h2,S',m',a,b,c,kl _ _ d⟩
  · obtain ⟨a,ha,z⟩:=z;exact ⟨a,ha,kl _ _ z⟩
theorem zops_imp:∀ {l:List TO} {e:Env} {h:AH} {K L:Env→AH→Prop},(∀ v h,K v h→L v h)→zops tp l e h K→zops tp l e h L
  | [],_,_,_,_,kl,z=>kl _ _ z
  | o::r,e,h,K,L,kl,z=>by
    simp only [zops] at z ⊢
    split at z
    · exact z1_imp (fun _ _=>zops_imp kl) z
    · exact zops_imp kl z
    · exact z
theorem zq_imp:∀ {l:List TO} {e:Env} {h:AH} {K L:Env→AH→Prop},(∀ v h,K v h→L v h)→zq tp l e h K→zq tp l e h L
  | [],_,_,_,_,kl,z=>kl _ _ z
  | o::r,e,h,K,L,kl,z=>by
    simp only [zq] at z ⊢
    split at z
    · unfold zq1 at z ⊢
      split at z
      · rename_i hp;rw [if_pos hp];exact z1_imp (fun _ _=>zq_imp kl) z
      · rename_i hp;rw [if_neg hp];exact z1_imp (fun _ _=>zq_imp kl) z
    · exact zq_imp kl z
    · exact z
theorem zs_imp:∀ {l:List (Bool×List TO)} {e:Env} {h:AH} {K L:Env→AH→Prop},(∀ v h,K v h→L v h)→zs tp l e h K→zs tp l e h L
  | [],_,_,_,_,kl,z=>kl _ _ z
  | (true,l)::r,e,h,K,L,kl,z=>zq_imp (fun _ _=>zs_imp kl) z
  | (false,l)::r,e,h,K,L,kl,z=>zops_imp (fun _ _=>zs_imp kl) z
theorem nxt_imp {x:Ex} {A B C D:Prop} (ac:A→C) (bd:B→D) (z:nxt x A B):nxt x C D:=by
  cases x<;>first | exact ac z | exact bd z
theorem zc_imp:∀ {c:TC} {e:Env} {h:AH} {K L:Ex→Env→AH→Prop},(∀ x v h,K x v h→L x v h)→zc tp c e h K→zc tp c e h L
  | .skip,_,_,_,_,kl,z=>kl _ _ _ z
  | .ret,_,_,_,_,kl,z=>kl _ _ _ z
  | .exit _,_,_,_,_,kl,z=>kl _ _ _ z
  | .reg ops,_,_,_,_,kl,z=>zops_imp (fun _ _=>kl _ _ _) z
  | .dreg segs,_,_,_,_,kl,z=>zs_imp (fun _ _=>kl _ _ _) z
  | .cond c a b,e,h,K,L,kl,z=>by
    simp only [zc,Wb] at z ⊢
    split at z
    · exact zc_imp kl z
    · exact zc_imp kl z
    · exact z
  | .block id c,_,_,_,_,kl,z=>zc_imp (c:=c) (fun _ _ _=>kl _ _ _) z
  | .seq a b,_,_,_,_,kl,z=>zc_imp (c:=a) (fun x _ _=>nxt_imp (zc_imp kl) (kl _ _ _)) z
  | .loop c,_,_,_,_,kl,z=>fun I hI hS=>z I (fun e h q=>hI e h (zc_imp (c:=c) (fun x _ _=>nxt_imp id (kl _ _ _)) q)) hS
/-! ### What it says of the abstract machine -/
section
variable {S:Nat→Prop} {m:Nat→Nat} {h hc:AH}
theorem Cfg.raise (c:Cfg S m h hc):Cfg S m h.raise hc.raise:=
  ⟨c.blk,c.inj,c.off,c.low,fun i hi hl=>by
    obtain ⟨k,hk⟩:=Option.ne_none_iff_exists'.1 hi
    have:=(c.blk i k hk).1
    have:h.next≤i:=hl
    omega,Nat.le_refl _,Nat.le_refl _⟩
theorem Cfg.back {S':Nat→Prop} {m':Nat→Nat} {h' hc':AH} (c:Cfg S m h hc) (c':Cfg S' m' h' hc') (a:Adv S m h.raise hc.raise S' m' h' hc'):Cfg S' m' (h'.back h.lim) (hc'.back hc.lim)∧Adv S m h hc S' m' (h'.back h.lim) (hc'.back hc.lim):=by
  refine ⟨⟨c'.blk,c'.inj,c'.off,c'.low,fun i hi hl=>?_,Nat.le_trans c.bnd a.next1,Nat.le_trans c.bnd2 a.next2⟩,⟨a.sub,a.new,a.map,a.next2,a.next1,rfl,rfl,a.frame,a.liv⟩⟩
  rcases a.liv i hi with ⟨h1,h2⟩ | h1
  · rw [a.map i h1];exact c.lim i h2 hl
  · exact Nat.le_trans c.bnd h1
theorem EP.mono {S':Nat→Prop} {m':Nat→Nat} {h' hc':AH} {e e1:Env} (c:Cfg S m h hc) (a:Adv S m h hc S' m' h' hc') (p:EP S m h hc e e1):EP S' m' h' hc' e e1:=fun t=>(p t).mono (a.mon c)
theorem EP.set {e e1:Env} {v v1:V} (p:EP S m h hc e e1) (q:PR S m hc.get h.next v v1) (d:Option Nat):EP S m h hc (e.set d v) (e1.set d v1):=by
  intro t
  cases d with
  | none=>exact p t
  | some d=>simp only [Env.set];split;exact q;exact p t
theorem want_PR {e e1:Env} (p:EP S m h hc e e1) {g:Option (Nat×Bool)} {b:Bool} (hw:wantedT e g=some b):wantedT e1 g=some b:=by
  unfold wantedT at hw ⊢
  split at hw
  · exact hw
  · rename_i t x
    have q:=p t
    split at hw
    · rename_i y hy
      rw [hy] at q
      cases hq:e1 t<;>rw [hq] at q<;>cases q
      exact hw
    · rename_i hy
      rw [hy] at q
      cases hq:e1 t<;>rw [hq] at q<;>cases q
      rename_i q
      cases q
      exact hw
    · simp at hw
def PostV (S:Nat→Prop) (m:Nat→Nat) (h hc:AH) (K:V→AH→Prop) (v1:V) (hc':AH):Prop:=∃ v h' S' m',Cfg S' m' h' hc'∧Adv S m h hc S' m' h' hc'∧PR S' m' hc'.get h'.next v v1∧K v h'
def PostE (S:Nat→Prop) (m:Nat→Nat) (h hc:AH) (K:Env→AH→Prop) (e1:Env) (hc':AH):Prop:=∃ e h' S' m',Cfg S' m' h' hc'∧Adv S m h hc S' m' h' hc'∧EP S' m' h' hc' e e1∧K e h'
theorem callee_PR {e e1:Env} (p:EP S m h hc e e1) {o:O} {f:Nat} {args:List V} (hk:callee tp o (X.e2 e)=some (f,args)):∃ args1,callee tp o (X.ev e1)=some (f,args1)∧PRs S m hc.get h.next args args1:=by
  have all:∀ l:List X,PRs S m hc.get h.next (l.map (X.e2 e)) (l.map (X.ev e1)):=fun l=>by
    induction l with
    | nil=>exact .nil _
    | cons a l ih=>exact .cons _ _ _ _ _ (X_e2 p a) ih
  unfold callee at hk ⊢
  split at hk
  · rename_i x l
    have q:=X_e2 p x
    split at hk
    · rename_i g a b hx
      rw [hx] at q
      simp only [Option.some.injEq,Prod.mk.injEq] at hk
      obtain ⟨rfl,rfl⟩:=hk
      cases hq:X.ev e1 x<;>rw [hq] at q<;>cases q
      rename_i q1 q2
      exact ⟨_,rfl,(q1.app (all l)).app q2⟩
    · simp at hk
  · rename_i x mm l
    have q:=X_e2 p x
    split at hk
    · rename_i t v hx
      rw [hx] at q
      cases hq:X.ev e1 x<;>rw [hq] at q<;>cases q
      rename_i q1
      simp only [Option.bind_eq_some_iff] at hk ⊢
      obtain ⟨mt,hmt,hk⟩:=hk
      split at hk
      · rename_i ha
        simp only [Option.some.injEq,Prod.mk.injEq] at hk
        obtain ⟨rfl,rfl⟩:=hk
        refine ⟨_,⟨mt,hmt, ?_⟩,.cons _ _ _ _ _ q1 (all l)⟩
        simp only [ha]
      · rename_i j ha
        split at hk
        · simp only [Option.map_eq_some_iff,Prod.mk.injEq] at hk
          obtain ⟨r,hr,rfl,rfl⟩:=hk
          cases q1
          rename_i q1
          obtain ⟨r',h1,h2⟩:=q1.get _ _ hr
          refine ⟨r'::l.map (X.ev e1),⟨mt,hmt, ?_⟩,.cons _ _ _ _ _ h2 (all l)⟩
          simp only [ha,h1,Option.map_some]
        · simp at hk
    · simp at hk
  · simp at hk
theorem z1_ok (c:Cfg S m h hc) {e e1:Env} (p:EP S m h hc e e1) {o:O} {K:V→AH→Prop} (z:z1 tp o e h K):W1 tp o e1 hc (PostV S m h hc K):=by
  unfold z1 at z
  split at z
  · rename_i neg a b
    have pa:=X_e2 p a
    have pb:=X_e2 p b
    rw [W1_do (fun C=>rfl)]
    simp only [doOp]
    rw [Wo_map]
    unfold wnil at z
    split at z
    · rename_i s xs ha hb
      rw [ha] at pa;rw [hb] at pb
      cases hb':X.ev e1 b<;>rw [hb'] at pb<;>cases pb
      have key:∀ t:Bool,(xs≠[]→t=false)→eqV .sl (X.ev e1 a) .ns=some t→Wo (eqV .sl (X.ev e1 a) .ns) (fun r=>PostV S m h hc K (.b (if neg=true then !r else r)) hc):=by
        intro t ht he
        rw [he,Wo_some]
        exact ⟨_,h,S,m,c,Adv.refl c,.b _ _,z t ht⟩
      cases ha':X.ev e1 a<;>rw [ha'] at pa key<;>cases pa
      · exact key true (by simp) rfl
      · exact key false (by simp) rfl
      · exact key false (by simp) rfl
    · obtain ⟨r,hr,z⟩:=z
      rw [eqV_PR hr pa pb,Wo_some]
      exact ⟨_,h,S,m,c,Adv.refl c,.b _ _,z⟩
  · obtain ⟨⟨f,args⟩,hk,z⟩:=z
    obtain ⟨args1,hk1,q⟩:=callee_PR p hk
    rw [W1_call,hk1,Wo_some]
    exact z S m hc args1 c q
  · obtain ⟨⟨f,args⟩,hk,z⟩:=z
    obtain ⟨args1,hk1,q⟩:=callee_PR p hk
    rw [W1_inv,hk1,Wo_some]
    exact z S m hc args1 c q
  · rename_i hn0 hn1 hn2
    obtain ⟨⟨v,h'⟩,hd,z⟩:=z
    obtain ⟨v1,hc',S',m',h1,h2,h3,h4⟩:=do2_ok c (X_e2 p) hd
    rw [W1_do (fun C=>by unfold run1;split<;>first | rfl | (exact absurd rfl (hn1 _ _)) | (exact absurd rfl (hn2 _ _ _))),h1,Wo_some]
    exact ⟨v,h',S',m',h2,h3,h4,z⟩
theorem PostE.then {S':Nat→Prop} {m':Nat→Nat} {h' hc':AH} (a:Adv S m h hc S' m' h' hc') {K:Env→AH→Prop} {e1:Env} {hq:AH} (z:PostE S' m' h' hc' K e1 hq):PostE S m h hc K e1 hq:=by
  obtain ⟨e,h2,S2,m2,c2,a2,p,k⟩:=z
  exact ⟨e,h2,S2,m2,c2,a.trans a2,p,k⟩
end
theorem WOps.imp {l:List TO} {e:Env} {h:AH} {Q R:Env→AH→Prop} (w:WOps tp l e h Q) (qr:∀ e h,Q e h→R e h):WOps tp l e h R:=by
  obtain ⟨k,e',h',he,q⟩:=w;exact ⟨k,e',h',he,qr _ _ q⟩
theorem WQ.imp {l:List TO} {e:Env} {h:AH} {Q R:Env→AH→Prop} (w:WQ tp l e h Q) (qr:∀ e h,Q e h→R e h):WQ tp l e h R:=by
  obtain ⟨k,e',h',he,q⟩:=w;exact ⟨k,e',h',he,qr _ _ q⟩
theorem WS.imp {l:List (Bool×List TO)} {e:Env} {h:AH} {Q R:Env→AH→Prop} (w:WS tp l e h Q) (qr:∀ e h,Q e h→R e h):WS tp l e h R:=by
  obtain ⟨k,e',h',he,q⟩:=w;exact ⟨k,e',h',he,qr _ _ q⟩
theorem W1.imp {o:O} {e:Env} {h:AH} {Q R:V→AH→Prop} (w:W1 tp o e h Q) (qr:∀ v h,Q v h→R v h):W1 tp o e h R:=by
  obtain ⟨k,e',h',he,q⟩:=w;exact ⟨k,e',h',he,qr _ _ q⟩
theorem zops_ok:∀ (l:List TO) {S:Nat→Prop} {m:Nat→Nat} {h hc:AH} {e e1:Env} {K:Env→AH→Prop},Cfg S m h hc→EP S m h hc e e1→zops tp l e h K→WOps tp l e1 hc (PostE S m h hc K)
  | [],S,m,h,hc,e,e1,K,c,p,z=>by rw [WOps_nil];exact ⟨e,h,S,m,c,Adv.refl c,p,z⟩
  | ⟨d,o,g⟩::r,S,m,h,hc,e,e1,K,c,p,z=>by
    simp only [zops] at z
    split at z
    · rename_i hw
      rw [WOps_run (want_PR p hw)]
      refine (z1_ok c p z).imp ?_
      rintro v1 hc' ⟨v,h',S',m',c',a',q,z⟩
      exact (zops_ok r c' ((p.mono c a').set q d) z).imp fun _ _=>PostE.then a'
    · rename_i hw
      rw [WOps_skip (want_PR p hw)]
      exact zops_ok r c (p.set (.tup _ _ _ (.nil _)) d) z
    · exact z.elim
theorem zq_ok:∀ (l:List TO) {S:Nat→Prop} {m:Nat→Nat} {h hc:AH} {e e1:Env} {K:Env→AH→Prop},Cfg S m h hc→EP S m h hc e e1→zq tp l e h K→WQ tp l e1 hc (PostE S m h hc K)
  | [],S,m,h,hc,e,e1,K,c,p,z=>by rw [WQ_nil];exact ⟨e,h,S,m,c,Adv.refl c,p,z⟩
  | ⟨d,o,g⟩::r,S,m,h,hc,e,e1,K,c,p,z=>by
    simp only [zq] at z
    split at z
    · rename_i hw
      rw [WQ_run (want_PR p hw)]
      unfold WQ1
      unfold zq1 at z
      split at z
      · rename_i hp
        rw [if_pos hp]
        refine ⟨?_,(z1_ok c p z).imp ?_⟩
        · cases o<;>try rfl
          rename_i sz x i
          simp only [z1,do2] at z
          obtain ⟨w,hw,_⟩:=z
          simp only [Option.map_eq_some_iff] at hw
          obtain ⟨v,hv,_⟩:=hw
          have q:=X_e2 p x
          simp only [alive]
          split
          · rename_i id el len cap hx
            rw [hx] at q
            unfold iadF at hv
            split at hv
            · rename_i k hk hb
              rw [hk] at q
              cases q
              simp only [hk,blkOf] at hb
              obtain ⟨_,_,cs,hcs,_⟩:=c.blk _ _ hb
              rw [hcs];rfl
            · rename_i s xs _ hk
              rw [hk] at q
              cases q
              simp only [*];rfl
            · simp at hv
          · rfl
        · rintro v1 hc' ⟨v,h',S',m',c',a',q,z⟩
          exact (zq_ok r c' ((p.mono c a').set q d) z).imp fun _ _=>PostE.then a'
      · rename_i hp
        rw [if_neg hp]
        have p':EP S m h.raise hc.raise e e1:=p
        refine (z1_ok c.raise p' z).imp ?_
        rintro v1 hc' ⟨v,h',S',m',c',a',q,z⟩
        obtain ⟨c2,a2⟩:=c.back c' a'
        exact (zq_ok r c2 ((p.mono c a2).set q d) z).imp fun _ _=>PostE.then a2
    · rename_i hw
      rw [WQ_skip (want_PR p hw)]
      exact zq_ok r c (p.set (.tup _ _ _ (.nil _)) d) z
    · exact z.elim
theorem zs_ok:∀ (l:List (Bool×List TO)) {S:Nat→Prop} {m:Nat→Nat} {h hc:AH} {e e1:Env} {K:Env→AH→Prop},Cfg S m h hc→EP S m h hc e e1→zs tp l e h K→WS tp l e1 hc (PostE S m h hc K)
  | [],S,m,h,hc,e,e1,K,c,p,z=>by rw [WS_nil];exact ⟨e,h,S,m,c,Adv.refl c,p,z⟩
  | (true,l)::r,S,m,h,hc,e,e1,K,c,p,z=>by
    rw [WS_quiet]
    refine (zq_ok l c p z).imp ?_
    rintro e1' hc' ⟨e',h',S',m',c',a',p',z⟩
    exact (zs_ok r c' p' z).imp fun _ _=>PostE.then a'
  | (false,l)::r,S,m,h,hc,e,e1,K,c,p,z=>by
    rw [WS_bar]
    refine (zops_ok l c p z).imp ?_
    rintro e1' hc' ⟨e',h',S',m',c',a',p',z⟩
    exact (zs_ok r c' p' z).imp fun _ _=>PostE.then a'
theorem zc_ok:∀ (cd:TC) {S:Nat→Prop} {m:Nat→Nat} {h hc:AH} {e e1:Env} {K:Ex→Env→AH→Prop},Cfg S m h hc→EP S m h hc e e1→zc tp cd e h K→WC tp cd e1 hc (fun x=>PostE S m h hc (K x))
  | .skip,S,m,h,hc,e,e1,K,c,p,z=>by rw [WC_skip];exact ⟨e,h,S,m,c,Adv.refl c,p,z⟩
  | .ret,S,m,h,hc,e,e1,K,c,p,z=>by rw [WC_ret];exact ⟨e,h,S,m,c,Adv.refl c,p,z⟩
  | .exit id,S,m,h,hc,e,e1,K,c,p,z=>by rw [WC_exit];exact ⟨e,h,S,m,c,Adv.refl c,p,z⟩
  | .reg ops,S,m,h,hc,e,e1,K,c,p,z=>by rw [WC_reg];exact zops_ok ops c p z
  | .dreg segs,S,m,h,hc,e,e1,K,c,p,z=>by rw [WC_dreg];exact zs_ok segs c p z
  | .cond q a b,S,m,h,hc,e,e1,K,c,p,z=>by
    rw [WC_cond]
    have r:=X_e2 p q
    simp only [zc,Wb] at z
    split at z
    · rename_i hx;rw [hx] at r;cases hq:X.ev e1 q<;>rw [hq] at r<;>cases r;exact zc_ok a c p z
    · rename_i hx;rw [hx] at r;cases hq:X.ev e1 q<;>rw [hq] at r<;>cases r;exact zc_ok b c p z
    · exact z.elim
  | .block id cd,S,m,h,hc,e,e1,K,c,p,z=>by rw [WC_block];exact zc_ok cd c p z
  | .seq a b,S,m,h,hc,e,e1,K,c,p,z=>by
    rw [WC_seq]
    refine (zc_ok a c p z).imp ?_
    rintro x e1' hc' ⟨e',h',S',m',c',a',p',z⟩
    cases x with
    | nm=>exact (zc_ok b c' p' z).imp fun _ _ _=>PostE.then a'
    | ex j=>exact ⟨e',h',S',m',c',a',p',z⟩
    | rt=>exact ⟨e',h',S',m',c',a',p',z⟩
  | .loop cd,S,m,h,hc,e,e1,K,c,p,z=>by
    refine z (fun e h=>∀ S m hc e1,Cfg S m h hc→EP S m h hc e e1→WC tp (.loop cd) e1 hc (fun x=>PostE S m h hc (K x))) ?_ ?_ S m hc e1 c p
    rotate_left
    · intro e h e2 h2 st q S m hc e1 c p
      obtain ⟨S',c',a',p'⟩:=st S m hc e1 c p
      exact (q S' m hc e1 c' p').imp fun _ _ _=>PostE.then a'
    intro e h q S m hc e1 c p
    refine WC_loop ((zc_ok cd c p q).imp ?_)
    rintro x e1' hc' ⟨e',h',S',m',c',a',p',z⟩
    cases x with
    | nm=>exact (z S' m' hc' e1' c' p').imp fun _ _ _=>PostE.then a'
    | ex j=>exact ⟨e',h',S',m',c',a',p',z⟩
    | rt=>exact ⟨e',h',S',m',c',a',p',z⟩
/-! ### Functions -/
section
variable {S:Nat→Prop} {m:Nat→Nat} {h hc:AH}
theorem rvs_PR (c:Cfg S m h hc) {e e1:Env} (p:EP S m h hc e e1):∀ {l:List RV} {vs:List V},rvs e h l=some vs→∃ vs1,rvs e1 hc l=some vs1∧PRs S m hc.get h.next vs vs1
  | [],vs,hv=>by simp [rvs] at hv;subst hv;exact ⟨[],rfl,.nil _⟩
  | r::l,vs,hv=>by
    simp only [rvs,Option.bind_eq_some_iff,Option.map_eq_some_iff] at hv ⊢
    obtain ⟨v,h1,ws,h2,rfl⟩:=hv
    obtain ⟨ws1,h3,h4⟩:=rvs_PR c p h2
    have:∃ v1,rvOf e1 hc r=some v1∧PR S m hc.get h.next v v1:=by
      cases r with
      | t n=>simp [rvOf] at h1 ⊢;subst h1;exact p n
      | cell n k agg=>
        have q:=p n
        simp only [rvOf] at h1 ⊢
        split at h1
        · rename_i id el off hx
          rw [hx] at q
          cases hq:e1 n<;>rw [hq] at q<;>cases q
          simp only [Option.bind_eq_some_iff] at h1
          obtain ⟨b,hb,row,hr,hcut⟩:=h1
          exact load_ok c hb hr hcut
        · simp at h1
    obtain ⟨v1,h5,h6⟩:=this
    exact ⟨_,⟨v1,h5,ws1,h3,rfl⟩,.cons _ _ _ _ _ h6 h4⟩
theorem res_PR (c:Cfg S m h hc) {e e1:Env} (p:EP S m h hc e e1) {l:List RV} {v:V} (hv:resOf e h l=some v):∃ v1,resOf e1 hc l=some v1∧PR S m hc.get h.next v v1:=by
  simp only [resOf,Option.map_eq_some_iff] at hv ⊢
  obtain ⟨vs,h1,rfl⟩:=hv
  obtain ⟨vs1,h2,h3⟩:=rvs_PR c p h1
  refine ⟨_,⟨vs1,h2,rfl⟩, ?_⟩
  cases h3 with
  | nil=>exact .tup _ _ _ (.nil _)
  | cons _ v v' l l' q r=>
    cases r with
    | nil=>exact q
    | cons _ w w' l l' q' r=>exact .tup _ _ _ (.cons _ _ _ _ _ q (.cons _ _ _ _ _ q' r))
end
def Zend (res:List RV) (x:Ex) (e:Env) (h:AH) (Q:V→AH→Prop) (t:Fz (PProd.mk e Q):=.mk):Prop:=match x with | .ex _=>False | _=>Wo (resOf e h res) (fun v=>Q v h)
inductive Plain0:V→Prop where
  | b (x:Bool):Plain0 (.b x)
  | i (k:IntKind) (z:Int):Plain0 (.i k z)
  | s (x:ByteArray):Plain0 (.s x)
  | np:Plain0 .np
  | ns:Plain0 .ns
  | e0:Plain0 .e0
  | nf:Plain0 .nf
  | ni:Plain0 .ni
  | u:Plain0 .u
mutual
inductive Frz (P:Nat→Prop) (h:AH):Nat→V→V→Prop where
  | z (n:Nat) (v:V):Plain0 v→Frz P h n v v
  | ns (n:Nat) (sz:Nat):Frz P h n .ns (.fl sz [])
  | e0 (n:Nat) (sz:Nat):Frz P h n .e0 (.fl sz [])
  | fl (n:Nat) (sz:Nat) (xs:List (List V)):Frz P h n (.fl sz xs) (.fl sz xs)
  | fp (n:Nat) (sz:Nat) (xs:List (List V)) (j o:Nat):Frz P h n (.fp sz xs j o) (.fp sz xs j o)
  | sl (n:Nat) (id el len cap sz:Nat) (cs xs:List (List V)):P id→h.get id=some ⟨sz,cs⟩→el+len≤cs.length→len≤cap→len<frzLen→Frzr P h 0 ((cs.drop el).take len) xs→Frz P h n (.sl id el len cap) (.fl sz xs)
  | p (n:Nat) (id el off:Nat):id<n→Frz P h n (.p id el off) (.p id el off)
  | so (n:Nat) (id el len cap:Nat):id<n→Frz P h n (.sl id el len cap) (.sl id el len cap)
  | f (n:Nat) (fn:Fn) (a c a' c':List V):Frzs P h n a a'→Frzs P h n c c'→Frz P h n (.f fn a c) (.f fn a' c')
  | ifc (n:Nat) (t:Nat) (v v':V):Frz P h n v v'→Frz P h n (.ifc t v) (.ifc t v')
  | agg (n:Nat) (l l':List V):Frzs P h n l l'→Frz P h n (.agg l) (.agg l')
  | tup (n:Nat) (l l':List V):Frzs P h n l l'→Frz P h n (.tup l) (.tup l')
inductive Frzs (P:Nat→Prop) (h:AH):Nat→List V→List V→Prop where
  | nil (n:Nat):Frzs P h n [] []
  | cons (n:Nat) (v v':V) (l l':List V):Frz P h n v v'→Frzs P h n l l'→Frzs P h n (v::l) (v'::l')
inductive Frzr (P:Nat→Prop) (h:AH):Nat→List (List V)→List (List V)→Prop where
  | nil (n:Nat):Frzr P h n [] []
  | cons (n:Nat) (v v':List V) (l l':List (List V)):Frzs P h n v v'→Frzr P h n l l'→Frzr P h n (v::l) (v'::l')
end
section
variable {S:Nat→Prop} {m:Nat→Nat} {h hc:AH} {P:Nat→Prop}
def SP (S:Nat→Prop) (m:Nat→Nat) (h:AH) (P:Nat→Prop) (a:Nat):Prop:=S a∨∃ i,P i∧h.live i∧m i=a
theorem Frzr.len {n:Nat}:∀ {l l':List (List V)},Frzr P h n l l'→l.length=l'.length
  | _,_,.nil _=>rfl
  | _,_,.cons _ _ _ _ _ _ q=>by simp [q.len]
mutual
theorem Frz.ok (c:Cfg S m h hc) {n:Nat}:∀ {v r v1:V},Frz P h n v r→PR S m hc.get h.next v v1→PR (SP S m h P) m hc.get n r v1
  | _,_,_,.z _ _ h0,p=>by cases h0<;>cases p<;>constructor
  | _,_,_,.ns _ sz,p=>by cases p;exact .fl0 _ _
  | _,_,_,.e0 _ sz,p=>by cases p;exact .fl1 _ _
  | _,_,_,.fl _ sz xs,p=>by
    cases p with
    | fl0=>exact .fl0 _ _
    | fl1=>exact .fl1 _ _
    | fl _ _ _ a el cap cs h1 h2 h3 h4 h5 r=>exact .fl _ _ _ _ _ _ _ (.inl h1) h2 h3 h4 h5 (r.mono ⟨fun a h=>.inl h,fun _ _=>rfl,fun i hi=>absurd hi (Nat.not_lt_zero _),Nat.le_refl _⟩)
  | _,_,_,.fp _ sz xs j o,p=>by
    cases p with
    | fp _ _ _ _ _ a el cs h1 h2 h3 r=>exact .fp _ _ _ _ _ _ _ _ (.inl h1) h2 h3 (r.mono ⟨fun a h=>.inl h,fun _ _=>rfl,fun i hi=>absurd hi (Nat.not_lt_zero _),Nat.le_refl _⟩)
  | _,_,_,.sl _ id el len cap sz cs xs hP hg h1 h2 h3 fr,p=>by
    cases p
    obtain ⟨_,_,cs1,hcs,hr⟩:=c.blk id _ hg
    have e:xs.length=len:=by rw [← fr.len];simp;omega
    subst e
    exact .fl _ _ _ _ _ _ cs1 (.inr ⟨id,hP,by simp [AH.live,hg],rfl⟩) hcs h2 (by rw [← hr.len];exact h1) h3 (Frzr.ok c fr ((hr.drop _).take _))
  | _,_,_,.p _ id el off hi,p=>by cases p;exact .p _ _ _ _ hi
  | _,_,_,.so _ id el len cap hi,p=>by cases p;exact .sl _ _ _ _ _ hi
  | _,_,_,.f _ fn a cc a' c' fa fc,p=>by cases p;rename_i p q;exact .f _ _ _ _ _ _ (Frzs.ok c fa p) (Frzs.ok c fc q)
  | _,_,_,.ifc _ t v v' fv,p=>by cases p;rename_i p;exact .ifc _ _ _ _ (Frz.ok c fv p)
  | _,_,_,.agg _ l l' fl,p=>by cases p;rename_i p;exact .agg _ _ _ (Frzs.ok c fl p)
  | _,_,_,.tup _ l l' fl,p=>by cases p;rename_i p;exact .tup _ _ _ (Frzs.ok c fl p)
theorem Frzs.ok (c:Cfg S m h hc) {n:Nat}:∀ {v r v1:List V},Frzs P h n v r→PRs S m hc.get h.next v v1→PRs (SP S m h P) m hc.get n r v1
  | _,_,_,.nil _,p=>by cases p;exact .nil _
  | _,_,_,.cons _ v v' l l' fv fl,p=>by cases p;rename_i p q;exact .cons _ _ _ _ _ (Frz.ok c fv p) (Frzs.ok c fl q)
theorem Frzr.ok (c:Cfg S m h hc) {n:Nat}:∀ {v r v1:List (List V)},Frzr P h n v r→PRr S m hc.get h.next v v1→PRr (SP S m h P) m hc.get n r v1
  | _,_,_,.nil _,p=>by cases p;exact .nil _
  | _,_,_,.cons _ v v' l l' fv fl,p=>by cases p;rename_i p q;exact .cons _ _ _ _ _ (Frzs.ok c fv p) (Frzr.ok c fl q)
end
mutual
theorem PR.frz {g:Nat→Option Blk} {n:Nat} {P:Nat→Prop} {h:AH}:∀ {v v1:V},PR S m g n v v1→Frz P h n v v
  | _,_,.u _ x=>.z _ _ .u
  | _,_,.b _ x=>.z _ _ (.b x)
  | _,_,.i _ k z=>.z _ _ (.i k z)
  | _,_,.s _ x=>.z _ _ (.s x)
  | _,_,.np _=>.z _ _ .np
  | _,_,.ns _=>.z _ _ .ns
  | _,_,.e0 _=>.z _ _ .e0
  | _,_,.nf _=>.z _ _ .nf
  | _,_,.ni _=>.z _ _ .ni
  | _,_,.p _ id el off h=>.p _ _ _ _ h
  | _,_,.sl _ id el len cap h=>.so _ _ _ _ _ h
  | _,_,.fl0 _ sz=>.fl _ _ _
  | _,_,.fl1 _ sz=>.fl _ _ _
  | _,_,.fl _ sz xs ..=>.fl _ _ _
  | _,_,.fp _ sz xs ..=>.fp _ _ _ _ _
  | _,_,.f _ fn a c a' c' p q=>.f _ _ _ _ _ _ p.frz q.frz
  | _,_,.ifc _ t v v' p=>.ifc _ _ _ _ p.frz
  | _,_,.agg _ l l' p=>.agg _ _ _ p.frz
  | _,_,.tup _ l l' p=>.tup _ _ _ p.frz
theorem PRs.frz {g:Nat→Option Blk} {n:Nat} {P:Nat→Prop} {h:AH}:∀ {v v1:List V},PRs S m g n v v1→Frzs P h n v v
  | _,_,.nil _=>.nil _
  | _,_,.cons _ v v' l l' p q=>.cons _ _ _ _ _ p.frz q.frz
theorem PRr.frz {g:Nat→Option Blk} {n:Nat} {P:Nat→Prop} {h:AH}:∀ {v v1:List (List V)},PRr S m g n v v1→Frzr P h n v v
  | _,_,.nil _=>.nil _
  | _,_,.cons _ v v' l l' p q=>.cons _ _ _ _ _ p.frz q.frz
end
theorem SP.low (c:Cfg S m h hc):∀ a,SP S m h P a→a<hc.next:=by
  rintro a (ha | ⟨i,_,hi,rfl⟩)
  · exact c.low a ha
  · obtain ⟨k,hk⟩:=Option.ne_none_iff_exists'.1 hi
    exact (c.blk i k hk).2.1
theorem Cfg.emp {T:Nat→Prop} (low:∀ a,T a→a<hc.next) (bnd:hc.lim≤hc.next) (m:Nat→Nat):Cfg T m AH.emp hc:=
  ⟨fun i k hk=>by simp [AH.emp] at hk,fun i j hi=>by simp [AH.live,AH.emp] at hi,fun i hi=>by simp [AH.live,AH.emp] at hi,low,fun i hi=>by simp [AH.live,AH.emp] at hi,bnd,Nat.le_refl _⟩
end
theorem EP.args {S:Nat→Prop} {m:Nat→Nat} {h hc:AH} {args args1:List V} (p:PRs S m hc.get h.next args args1):EP S m h hc (env0 args) (env0 args1):=by
  intro t
  simp only [env0,List.getD_eq_getElem?_getD]
  cases ht:args[t]? with
  | none=>
    have:args1[t]?=none:=by rw [List.getElem?_eq_none_iff] at ht ⊢;rw [← p.len];exact ht
    rw [this];exact .u _ _
  | some v=>
    obtain ⟨v1,h1,h2⟩:=p.get t v ht
    rw [h1];exact h2
def Rep (v:V):Prop:=∃ S m g n v1,PR S m g n v v1
def Reps (l:List V):Prop:=∀ v,v∈l→Rep v
theorem PRs.reps {S:Nat→Prop} {m:Nat→Nat} {g:Nat→Option Blk} {n:Nat}:∀ {l l1:List V},PRs S m g n l l1→Reps l
  | _,_,.nil _=>fun v hv=>by simp at hv
  | _,_,.cons _ v v' l l' p q=>fun w hw=>by
    rcases List.mem_cons.1 hw with rfl | hw
    · exact ⟨_,_,_,_,_,p⟩
    · exact q.reps w hw
theorem Rep.big {s:Nat} {xs:List (List V)} (r:Rep (.fl s xs)):xs.length<4000000000:=by
  obtain ⟨S,m,g,n,v1,p⟩:=r
  cases p with
  | fl0=>simp
  | fl1=>simp
  | fl _ _ _ a el cap cs h1 h2 h3 h4 h5 r=>exact h5
theorem Rep.row {s:Nat} {xs:List (List V)} (r:Rep (.fl s xs)) {row:List V} (hr:row∈xs):Reps row:=by
  obtain ⟨S,m,g,n,v1,p⟩:=r
  cases p with
  | fl0=>simp at hr
  | fl1=>simp at hr
  | fl _ _ _ a el cap cs h1 h2 h3 h4 h5 r=>
    obtain ⟨j,hj,rfl⟩:=List.getElem_of_mem hr
    obtain ⟨row1,_,q⟩:=r.get j _ (List.getElem?_eq_getElem hj)
    exact q.reps
theorem Rep.agg {l:List V} (r:Rep (.agg l)):Reps l:=by
  obtain ⟨S,m,g,n,v1,p⟩:=r
  cases p with
  | agg _ _ _ q=>exact q.reps
theorem Rep.tup {l:List V} (r:Rep (.tup l)):Reps l:=by
  obtain ⟨S,m,g,n,v1,p⟩:=r
  cases p with
  | tup _ _ _ q=>exact q.reps
theorem Rep.frzr {s:Nat} {xs:List (List V)} (r:Rep (.fl s xs)) {P:Nat→Prop} {h:AH}:Frzr P h 0 xs xs:=by
  obtain ⟨S,m,g,n,v1,p⟩:=r
  cases p with
  | fl0=>exact .nil _
  | fl1=>exact .nil _
  | fl _ _ _ a el cap cs h1 h2 h3 h4 h5 r=>exact r.frz
theorem Reps.head {v:V} {l:List V} (r:Reps (v::l)):Rep v:=r v (by simp)
theorem Reps.tail {v:V} {l:List V} (r:Reps (v::l)):Reps l:=fun w hw=>r w (by simp [hw])
theorem Pf_of {f:Nat} {args:List V} {R:V} {tf:TF} (hf:tp.fn f=some tf) (hl:args.length≤tf.n) (z:Reps args→zc tp tf.body (env0 args) AH.emp (fun x e h=>Zend tf.res x e h (fun r h'=>Frz (fun _=>True) h' 0 r R))):Pf tp f args R:=by
  intro S m hc args1 c p
  have p0:EP S m AH.emp hc (env0 args) (env0 args1):=EP.args p
  refine Ev_of hf (by rw [← p.len];exact hl) ((zc_ok tf.body c p0 (z p.reps)).imp ?_)
  rintro x e1 hc' ⟨e,h',S',m',c',a',pe,z⟩
  unfold Zend at z
  unfold Wend
  have key:(Wo (resOf e h' tf.res) fun v=>Frz (fun _=>True) h' 0 v R)→Wo (resOf e1 hc' tf.res) (fun r1=>∃ r h'' S' m',Cfg S' m' h'' hc'∧Adv S m AH.emp hc S' m' h'' hc'∧PR S' m' hc'.get h''.next r r1∧r=R∧h''=AH.emp):=by
    rintro ⟨v,hv,fz⟩
    obtain ⟨v1,h1,h2⟩:=res_PR c' pe hv
    refine ⟨v1,h1,R,AH.emp,SP S' m' h' (fun _=>True),m',Cfg.emp (SP.low c') c'.bnd m',⟨fun a h=>.inl (a'.sub a h), ?_,a'.map,Nat.le_refl _,a'.next1,rfl,a'.lim1,a'.frame,fun i hi=>by simp [AH.live,AH.emp] at hi⟩,Frz.ok c' fz h2,rfl,rfl⟩
    rintro a (ha | ⟨i,_,hi,rfl⟩)
    · exact a'.new a ha
    · rcases a'.liv i hi with ⟨q1,q2⟩ | q1
      · exact absurd q1 (Nat.not_lt_zero _)
      · exact .inr (.inl q1)
  cases x with
  | ex j=>exact z.elim
  | nm=>exact key z
  | rt=>exact key z
def Wf (h:AH):Prop:=h.lim≤h.next∧∀ i k,h.get i=some k→i<h.next∧∀ P h',Frzr P h' h.next k.cs k.cs
theorem Cfg.wf {S:Nat→Prop} {m:Nat→Nat} {h hc:AH} (c:Cfg S m h hc):Wf h:=⟨c.bnd2,fun i k hk=>by
  obtain ⟨h1,_,cs,_,h4⟩:=c.blk i k hk
  exact ⟨h1,fun P h'=>h4.frz⟩⟩
structure Settle (h h2:AH) (r:V) (P:Nat→Prop) (R:V) (H:AH):Prop where
  n1:h.next≤H.next
  lim:H.lim=h.lim
  n2:H.next≤h2.next
  blk:∀ i k,H.get i=some k→i<H.next∧¬ P i∧∃ cs,h2.get i=some ⟨k.sz,cs⟩∧Frzr P h2 H.next cs k.cs
  val:Frz P h2 H.next r R
theorem Settle.ok {S S' : Nat → Prop} {m m' : Nat → Nat} {h hc h2 hc2 : AH} {r r1 R : V} {P : Nat → Prop} {H : AH} (st : Settle h h2 r P R H) (c : Cfg S m h hc) (c' : Cfg S' m' h2 hc2) (a' : Adv S m h hc S' m' h2 hc2) (p : PR S' m' hc2.get h2.next r r1) :
    Cfg (SP S' m' h2 P) m' H hc2∧Adv S m h hc (SP S' m' h2 P) m' H hc2∧PR (SP S' m' h2 P) m' hc2.get H.next R r1:=by
  have liv:∀ i,H.live i→h2.live i∧¬ P i:=fun i hi=>by
    obtain ⟨k,hk⟩:=Option.ne_none_iff_exists'.1 hi
    obtain ⟨_,h1,cs,h2,_⟩:=st.blk i k hk
    exact ⟨by simp [AH.live,h2],h1⟩
  refine ⟨⟨fun i k hk=>?_,fun i j hi hj=>c'.inj i j (liv i hi).1 (liv j hj).1,fun i hi hs=>?_,SP.low c',fun i hi hl=>c'.lim i (liv i hi).1 (by rw [a'.lim2,←st.lim];exact hl),c'.bnd,by rw [st.lim];exact Nat.le_trans c.bnd2 st.n1⟩,⟨fun a h=>.inl (a'.sub a h),fun a ha=>?_,a'.map,st.n1,a'.next1,st.lim,a'.lim1,a'.frame,fun i hi=>a'.liv i (liv i hi).1⟩,st.val.ok c' p⟩
  · obtain ⟨h1,h2',cs,h3,h4⟩:=st.blk i k hk
    obtain ⟨q1,q2,cs1,q3,q4⟩:=c'.blk i _ h3
    exact ⟨h1,q2,cs1,q3,h4.ok c' q4⟩
  · obtain ⟨hl,hP⟩:=liv i hi
    rcases hs with hs | ⟨j,hj,hlj,he⟩
    · exact c'.off i hl hs
    · exact hP (c'.inj j i hlj hl he▸hj)
  · rcases ha with ha | ⟨i,_,hi,rfl⟩
    · exact a'.new a ha
    · rcases a'.liv i hi with ⟨q1,q2⟩ | q1
      · exact .inr (.inr ⟨i,q2,(a'.map i q1).symm⟩)
      · exact .inr (.inl q1)
theorem Cq_of {f:Nat} {args:List V} {h:AH} {K:V→AH→Prop} {tf:TF} (hf:tp.fn f=some tf) (hl:args.length≤tf.n) (z:Wf h→Reps args→zc tp tf.body (env0 args) h (fun x e h2=>Zend tf.res x e h2 (fun r h3=>∃ P R H,Settle h h3 r P R H∧K R H))):Cq tp f args h K:=by
  intro S m hc args1 c p
  refine Ev_of hf (by rw [← p.len];exact hl) ((zc_ok tf.body c (EP.args p) (z c.wf p.reps)).imp ?_)
  rintro x e1 hc' ⟨e,h',S',m',c',a',pe,z⟩
  unfold Zend at z
  unfold Wend
  have key:(Wo (resOf e h' tf.res) fun r=>∃ P R H,Settle h h' r P R H∧K R H)→Wo (resOf e1 hc' tf.res) (fun r1=>∃ r h'' S' m',Cfg S' m' h'' hc'∧Adv S m h hc S' m' h'' hc'∧PR S' m' hc'.get h''.next r r1∧K r h''):=by
    rintro ⟨v,hv,P,R,H,st,k⟩
    obtain ⟨v1,h1,h2⟩:=res_PR c' pe hv
    obtain ⟨q1,q2,q3⟩:=st.ok c c' a' h2
    exact ⟨v1,h1,R,H,_,m',q1,q2,q3,k⟩
  cases x with
  | ex j=>exact z.elim
  | nm=>exact key z
  | rt=>exact key z
theorem Cq_raw {f:Nat} {args:List V} {h:AH} {K:V→AH→Prop} {tf:TF} (hf:tp.fn f=some tf) (hl:args.length≤tf.n) (z:Wf h→Reps args→zc tp tf.body (env0 args) h (fun x e h2=>Zend tf.res x e h2 K)):Cq tp f args h K:=by
  intro S m hc args1 c p
  refine Ev_of hf (by rw [← p.len];exact hl) ((zc_ok tf.body c (EP.args p) (z c.wf p.reps)).imp ?_)
  rintro x e1 hc' ⟨e,h',S',m',c',a',pe,z⟩
  unfold Zend at z
  unfold Wend
  have key:(Wo (resOf e h' tf.res) fun r=>K r h')→Wo (resOf e1 hc' tf.res) (fun r1=>∃ r h'' S' m',Cfg S' m' h'' hc'∧Adv S m h hc S' m' h'' hc'∧PR S' m' hc'.get h''.next r r1∧K r h''):=by
    rintro ⟨v,hv,k⟩
    obtain ⟨v1,h1,h2⟩:=res_PR c' pe hv
    exact ⟨v1,h1,v,h',_,m',c',a',h2,k⟩
  cases x with
  | ex j=>exact z.elim
  | nm=>exact key z
  | rt=>exact key z
theorem Cq.imp {f:Nat} {args:List V} {h:AH} {K L:V→AH→Prop} (c:Cq tp f args h K) (kl:∀ v h,K v h→L v h):Cq tp f args h L:=by
  intro S m hc args1 cf p
  refine (c S m hc args1 cf p).imp ?_
  rintro v h' ⟨r,h2,S',m',a,b,c,d⟩
  exact ⟨r,h2,S',m',a,b,c,kl _ _ d⟩
mutual
def pur:V→Bool
  | .p .. | .sl ..=>false
  | .f _ a c=>purs a&&purs c
  | .ifc _ v=>pur v
  | .agg l=>purs l
  | .tup l=>purs l
  | _=>true
def purs:List V→Bool
  | []=>true
  | v::l=>pur v&&purs l
end
mutual
theorem PR.pur {S:Nat→Prop} {m:Nat→Nat} {g:Nat→Option Blk} {n:Nat}:∀ {v v1:V},PR S m g n v v1→pur v=true→PR S m g 0 v v1
  | _,_,.u _ x,_=>.u _ x
  | _,_,.b _ x,_=>.b _ x
  | _,_,.i _ k z,_=>.i _ k z
  | _,_,.s _ x,_=>.s _ x
  | _,_,.np _,_=>.np _
  | _,_,.ns _,_=>.ns _
  | _,_,.e0 _,_=>.e0 _
  | _,_,.nf _,_=>.nf _
  | _,_,.ni _,_=>.ni _
  | _,_,.p _ _ _ _ _,h=>by simp [Go.Ab.pur] at h
  | _,_,.sl _ _ _ _ _ _,h=>by simp [Go.Ab.pur] at h
  | _,_,.fl0 _ sz,_=>.fl0 _ sz
  | _,_,.fl1 _ sz,_=>.fl1 _ sz
  | _,_,.fl _ sz xs a el cap cs h1 h2 h3 h4 h5 r,_=>.fl _ sz xs a el cap cs h1 h2 h3 h4 h5 r
  | _,_,.fp _ sz xs j off a el cs h1 h2 h3 r,_=>.fp _ sz xs j off a el cs h1 h2 h3 r
  | _,_,.f _ fn a c a' c' p q,h=>by
    simp only [Go.Ab.pur,Bool.and_eq_true] at h
    exact .f _ fn a c a' c' (PRs.pur p h.1) (PRs.pur q h.2)
  | _,_,.ifc _ t v v' p,h=>by simp only [Go.Ab.pur] at h;exact .ifc _ t v v' (PR.pur p h)
  | _,_,.agg _ l l' p,h=>by simp only [Go.Ab.pur] at h;exact .agg _ l l' (PRs.pur p h)
  | _,_,.tup _ l l' p,h=>by simp only [Go.Ab.pur] at h;exact .tup _ l l' (PRs.pur p h)
theorem PRs.pur {S:Nat→Prop} {m:Nat→Nat} {g:Nat→Option Blk} {n:Nat}:∀ {v v1:List V},PRs S m g n v v1→purs v=true→PRs S m g 0 v v1
  | _,_,.nil _,_=>.nil _
  | _,_,.cons _ v v' l l' p q,h=>by
    simp only [purs,Bool.and_eq_true] at h
    exact .cons _ _ _ _ _ (PR.pur p h.1) (PRs.pur q h.2)
end
def AH.kills (h:AH) (D:List Nat):AH:={ h with get:=fun i=>if i∈D then none else h.get i }
theorem Cfg.after {S T S':Nat→Prop} {m m':Nat→Nat} {h hc hc':AH} {D:List Nat} (c:Cfg S m h hc) (hT:∀ a,T a→S a∨∃ i,i∈D∧h.live i∧m i=a) (hST:∀ a,S a→T a) (c':Cfg S' m' AH.emp hc') (a':Adv T m AH.emp hc S' m' AH.emp hc'):Cfg S' m (h.kills D) hc'∧Adv S m h hc S' m (h.kills D) hc':=by
  have lt:∀ i,h.live i→i<h.next∧m i<hc.next:=fun i hi=>by
    obtain ⟨k,hk⟩:=Option.ne_none_iff_exists'.1 hi;exact ⟨(c.blk i k hk).1,(c.blk i k hk).2.1⟩
  have live:∀ i,(h.kills D).live i→h.live i∧i∉D:=fun i hi=>by
    simp only [AH.live,AH.kills] at hi
    split at hi
    · simp at hi
    · exact ⟨hi,by assumption⟩
  have fr:∀ a,a<hc.next→hc'.get a=hc.get a:=fun a ha=>a'.frame a ha (fun i hi=>by simp [AH.live,AH.emp] at hi)
  have pm:PMon S m hc.get h.next S' m hc'.get h.next:=⟨fun a h=>a'.sub a (hST a h),fun a ha=>fr a (c.low a ha),fun _ _=>rfl,Nat.le_refl _⟩
  have nw:∀ a,S' a→S a∨hc.next≤a∨∃ i,i∈D∧h.live i∧m i=a:=fun a ha=>by
    rcases a'.new a ha with h1 | h1 | ⟨i,hi,_⟩
    · rcases hT a h1 with h2 | h2
      · exact .inl h2
      · exact .inr (.inr h2)
    · exact .inr (.inl h1)
    · simp [AH.live,AH.emp] at hi
  refine ⟨⟨fun i k hk=>?_,fun i j hi hj=>c.inj i j (live i hi).1 (live j hj).1,fun i hi hs=>?_,c'.low,fun i hi hl=>by rw [a'.lim1];exact c.lim i (live i hi).1 hl,c'.bnd,c.bnd2⟩,⟨fun a h=>a'.sub a (hST a h),fun a ha=>?_,fun _ _=>rfl,Nat.le_refl _,a'.next1,rfl,a'.lim1,fun a ha _=>fr a ha,fun i hi=>.inl ⟨(lt i (live i hi).1).1,(live i hi).1⟩⟩⟩
  · have hk2:h.get i=some k:=by
      simp only [AH.kills] at hk
      split at hk
      · simp at hk
      · exact hk
    obtain ⟨h1,h2,cs,h3,h4⟩:=c.blk i k hk2
    exact ⟨h1,Nat.lt_of_lt_of_le h2 a'.next1,cs,by rw [fr _ h2];exact h3,h4.mono pm⟩
  · obtain ⟨hi,hD⟩:=live i hi
    rcases nw _ hs with h1 | h1 | ⟨j,hj,hlj,he⟩
    · exact c.off i hi h1
    · have:=(lt i hi).2;omega
    · exact hD (c.inj j i hlj hi he▸hj)
  · rcases nw a ha with h1 | h1 | ⟨i,_,hi,he⟩
    · exact .inl h1
    · exact .inr (.inl h1)
    · exact .inr (.inr ⟨i,hi,he⟩)
theorem Pf.go {f:Nat} {args:List V} {R:V} {h:AH} {K:V→AH→Prop} (pf:Pf tp f args R) (hp:purs args=true) (k:Rep R→K R h):Cq tp f args h K:=by
  intro S m hc args1 c p
  refine (pf S m hc args1 (Cfg.emp c.low c.bnd m) (p.pur hp)).imp ?_
  rintro r1 hc' ⟨r,h',S',m',c',a',q,rfl,rfl⟩
  obtain ⟨c2,a2⟩:=c.after (D:=[]) (T:=S) (fun a h=>.inl h) (fun a h=>h) c' a'
  have e:h.kills []=h:=by simp [AH.kills]
  rw [e] at c2 a2
  exact ⟨r,h,S',m,c2,a2,q.up _ _,k ⟨_,_,_,_,_,q⟩⟩
theorem Pf.take {f:Nat} {args A:List V} {R:V} {h:AH} {K:V→AH→Prop} (D:List Nat) (pf:Pf tp f A R) (fz:Frzs (·∈D) h 0 args A) (k:Rep R→K R (h.kills D)):Cq tp f args h K:=by
  intro S m hc args1 c p
  have q:=Frzs.ok c fz p
  refine (pf _ m hc args1 (Cfg.emp (SP.low c) c.bnd m) q).imp ?_
  rintro r1 hc' ⟨r,h',S',m',c',a',q,rfl,rfl⟩
  obtain ⟨c2,a2⟩:=c.after (D:=D) (fun a h=>h) (fun a h=>.inl h) c' a'
  exact ⟨r,_,S',m,c2,a2,q.up _ _,k ⟨_,_,_,_,_,q⟩⟩
mutual
def flat0:V→Bool
  | .b _ | .i .. | .s _ | .np | .ns | .e0 | .nf | .ni | .u=>true
  | .agg l=>flats l
  | .tup l=>flats l
  | _=>false
def flats:List V→Bool
  | []=>true
  | v::l=>flat0 v&&flats l
end
mutual
theorem PR.flat0 {S S':Nat→Prop} {m m':Nat→Nat} {g g':Nat→Option Blk} {n n':Nat}:∀ {v v1:V},PR S m g n v v1→flat0 v=true→PR S' m' g' n' v v1
  | _,_,.u _ x,_=>.u _ x
  | _,_,.b _ x,_=>.b _ x
  | _,_,.i _ k z,_=>.i _ k z
  | _,_,.s _ x,_=>.s _ x
  | _,_,.np _,_=>.np _
  | _,_,.ns _,_=>.ns _
  | _,_,.e0 _,_=>.e0 _
  | _,_,.nf _,_=>.nf _
  | _,_,.ni _,_=>.ni _
  | _,_,.p _ _ _ _ _,h=>by simp [Go.Ab.flat0] at h
  | _,_,.sl _ _ _ _ _ _,h=>by simp [Go.Ab.flat0] at h
  | _,_,.fl0 _ sz,h=>by simp [Go.Ab.flat0] at h
  | _,_,.fl1 _ sz,h=>by simp [Go.Ab.flat0] at h
  | _,_,.fl ..,h=>by simp [Go.Ab.flat0] at h
  | _,_,.fp ..,h=>by simp [Go.Ab.flat0] at h
  | _,_,.f ..,h=>by simp [Go.Ab.flat0] at h
  | _,_,.ifc ..,h=>by simp [Go.Ab.flat0] at h
  | _,_,.agg _ l l' p,h=>by simp only [Go.Ab.flat0] at h;exact .agg _ l l' (PRs.flat0 p h)
  | _,_,.tup _ l l' p,h=>by simp only [Go.Ab.flat0] at h;exact .tup _ l l' (PRs.flat0 p h)
theorem PRs.flat0 {S S':Nat→Prop} {m m':Nat→Nat} {g g':Nat→Option Blk} {n n':Nat}:∀ {v v1:List V},PRs S m g n v v1→flats v=true→PRs S' m' g' n' v v1
  | _,_,.nil _,_=>.nil _
  | _,_,.cons _ v v' l l' p q,h=>by
    simp only [flats,Bool.and_eq_true] at h
    exact .cons _ _ _ _ _ (PR.flat0 p h.1) (PRs.flat0 q h.2)
end
theorem Pf.look {f:Nat} {args A:List V} {R:V} {h:AH} {K:V→AH→Prop} (pf:Pf tp f A R) (fz:Frzs (fun _=>True) h 0 args A) (hR:flat0 R=true) (k:Rep R→K R h):Cq tp f args h K:=by
  intro S m hc args1 c p
  have q:=Frzs.ok c fz p
  refine (pf _ m hc args1 (Cfg.emp (SP.low c) c.bnd m) q).imp ?_
  rintro r1 hc' ⟨r,h',S',m',c',a',q,rfl,rfl⟩
  have lt:∀ i,h.live i→i<h.next∧m i<hc.next:=fun i hi=>by
    obtain ⟨k,hk⟩:=Option.ne_none_iff_exists'.1 hi;exact ⟨(c.blk i k hk).1,(c.blk i k hk).2.1⟩
  have fr:∀ a,a<hc.next→hc'.get a=hc.get a:=fun a ha=>a'.frame a ha (fun i hi=>by simp [AH.live,AH.emp] at hi)
  have pm:PMon S m hc.get h.next S m hc'.get h.next:=⟨fun a h=>h,fun a ha=>fr a (c.low a ha),fun _ _=>rfl,Nat.le_refl _⟩
  refine ⟨r,h,S,m,⟨fun i k hk=>?_,c.inj,c.off,fun a ha=>Nat.lt_of_lt_of_le (c.low a ha) a'.next1,fun i hi hl=>by rw [a'.lim1];exact c.lim i hi hl,c'.bnd,c.bnd2⟩,⟨fun a h=>h,fun a h=>.inl h,fun _ _=>rfl,Nat.le_refl _,a'.next1,rfl,a'.lim1,fun a ha _=>fr a ha,fun i hi=>.inl ⟨(lt i hi).1,hi⟩⟩,q.flat0 hR,k ⟨_,_,_,_,_,q⟩⟩
  obtain ⟨h1,h2,cs,h3,h4⟩:=c.blk i k hk
  exact ⟨h1,Nat.lt_of_lt_of_le h2 a'.next1,cs,by rw [fr _ h2];exact h3,h4.mono pm⟩
end
end Go.Ab
