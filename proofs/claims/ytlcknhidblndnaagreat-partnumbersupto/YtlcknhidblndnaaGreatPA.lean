/- Part of a proof that a law returns true for every input of the second form's bound (no other condition). -/
import Derived.Calls
import Derived.KernelRfl
import Derived.Orders
import Derived.Below
import Derived.Laws.Append
import Derived.Laws.AppendOwn
import Derived.Laws.CopyRow
import Derived.Laws.CopyOwn
import Derived.Laws.StructEq
import Derived.Laws.Slices
import Derived.Laws.BytesString
import Derived.Laws.Strings
import Derived.Laws.Concat
import Derived.Laws.MakeOwn
import Derived.Lib.ConvBytes
import Derived.Laws.Pointers
set_option linter.all false
/- An abstract machine for loaded Go code: values without capacities and real addresses, a heap of blocks (each a list of elements, each a list of cells), an evaluator with rounds, and the translation of loaded code into its form. -/
namespace Go.Ab
open Go
theorem om{p:Prop}(h:p:=by omega):p:=h
inductive V where
 | u
 | b (x:Bool)
 | i (k:IntKind) (n:Int)
 | s (x:ByteArray)
 | np
 | p (id el off:Nat)
 | ns
 | e0
 | sl (id el len cap:Nat)
 | fl (sz:Nat) (xs:List (List V))
 | fp (sz:Nat) (xs:List (List V)) (j off:Nat)
 | nf
 | f (fn:Fn) (first caps:List V)
 | ni
 | ifc (t:Nat) (v:V)
 | agg (l:List V)
 | tup (l:List V)
 deriving Inhabited
def V.cells:V->List V
 | .agg l=>l
 | v=>[v]
def V.isCell:V->Bool
 | .u | .agg _ | .tup _=>false
 | _=>true
structure BJ where
 sz:Nat
 cs:List (List V)
 deriving Inhabited
structure AH where
 get:Nat->Option BJ
 next:Nat
 lim:Nat
def AH.alloc (h:AH) (k:BJ):AH:={ get:=λi=>if i=h.next then some k else h.get i,next:=h.next+1,lim:=h.lim }
def AH.put (h:AH) (id:Nat) (k:BJ):AH:={ get:=λi=>if i=id then some k else h.get i,next:=h.next,lim:=h.lim }
def AH.kill (h:AH) (id:Nat):AH:={ get:=λi=>if i=id then none else h.get i,next:=h.next,lim:=h.lim }
def AH.raise (h:AH):AH:={ h with lim:=h.next }
def AH.back (h:AH) (l:Nat):AH:={ h with lim:=l }
inductive X where
 | t (n:Nat)
 | c (v:V)
 | fn (f:Nat)
 deriving Inhabited
abbrev Env:=Nat->V
def Env.set (e:Env) (d:Option Nat) (v:V):Env:=
 match d with
 | some d=>λj=>if j=d then v else e j
 | none=>e
def X.ev (e:Env):X->V
 | .t n=>e n
 | .c v=>v
 | .fn f=>.f (.func f) [] []
inductive CK where
 | b | i | s
inductive EK where
 | b | ptr | sl | fn | ifc
 | agg (ks:List CK)
inductive O where
 | mv (x:X)
 | pick (c a b:X)
 | alloc (z:List V)
 | box (x:X)
 | build (z:List V) (ps:List (Nat×Nat×X))
 | bsl (sz:Nat) (z:List V) (n:Nat) (ps:List (Nat×X))
 | e0
 | load (n:Nat) (agg:Bool) (x:X)
 | fload (n:Nat) (agg:Bool) (x:X)
 | chk (n:Nat) (agg:Bool) (x y:X)
 | alc (z:List V)
 | chka (z:List V) (y:X)
 | bslc (sz:Nat) (z:List V) (n:Nat) (ps:List (Nat×X))
 | chkb (sz:Nat) (z:List V) (n:Nat) (ps:List (Nat×X)) (y:X)
 | store (n:Nat) (a x:X)
 | nck (x:X)
 | bin (op:BinOp) (x y:X)
 | eq (neg:Bool) (k:EK) (x y:X)
 | un (op:UnOp) (x:X)
 | conv (k:IntKind) (x:X)
 | strs (x:X)
 | mark (x:X)
 | s2b (x:X)
 | b2s (x:X)
 | i2s (x:X)
 | mkif (t:Nat) (x:X)
 | mkfn (fn:Fn) (first caps:List X)
 | mksl (z:List V) (n c:X)
 | appz (z:List V) (x n:X)
 | slice (sz:Nat) (x:X) (lo hi mx:Option X)
 | sslice (x:X) (lo hi:Option X)
 | fad (off:Nat) (x:X)
 | fld (off n:Nat) (agg:Bool) (x:X)
 | iad (sz:Nat) (x i:X)
 | iada (sz len:Nat) (x i:X)
 | idx (sz len:Nat) (agg:Bool) (x i:X)
 | sidx (x i:X)
 | ext (x:X) (i:Nat)
 | app (sz:Nat) (x y:X)
 | len (x:X)
 | slen (x:X)
 | lenc (n:Nat)
 | cap (x:X)
 | mn (l:List X)
 | mx (l:List X)
 | call (f:X) (l:List X)
 | inv (x:X) (m:String) (l:List X)
 | tas (t:Nat) (ok:Bool) (z:V) (x:X)
 deriving Inhabited
structure Xd where
 f:Nat
 at_:Option Nat
structure TO where
 d:Option Nat
 o:O
 g:Option (Nat×Bool):=none
 deriving Inhabited
inductive TC where
 | skip
 | reg (ops:List TO)
 | dreg (segs:List (Bool×List TO))
 | seq (a b:TC)
 | cond (c:X) (a b:TC)
 | block (id:Nat) (c:TC)
 | loop (c:TC)
 | exit (id:Nat)
 | ret
 deriving Inhabited
inductive RV where
 | t (n:Nat)
 | cell (n k:Nat) (agg:Bool)
structure TF where
 n:Nat
 res:List RV
 body:TC
structure TP where
 fn:Nat->Option TF
 meth:Nat->String->Option Xd
def TP.dir (tp:TP) (t:Nat) (m:String):Bool:=match tp.meth t m with | some q=>q.at_.isNone | none=>false
/-! ### Operations -/
def Bc:Nat:=4294967296
def over:List V->Nat->List V->List V
 | r,_,[]=>r
 | r,i,c::cs=>over (r.set i c) (i+1) cs
def EL:List (List V)->Nat->List (List V)->List (List V)
 | r,_,[]=>r
 | r,i,c::cs=>EL (r.set i c) (i+1) cs
def Fl:List V->List (Nat×Nat×V)->Option (List V)
 | r,[]=>some r
 | r,(off,n,v)::ps=>if v.cells.length=n/\off+n<=r.length/\v.cells.all V.isCell=true then Fl (over r off v.cells) ps else none
def Cw (sz:Nat):List (List V)->List (Nat×V)->Option (List (List V))
 | r,[]=>some r
 | r,(j,v)::ps=>if v.cells.length=sz/\j<r.length/\v.cells.all V.isCell=true then Cw sz (r.set j v.cells) ps else none
def GQ (op:BinOp) (k:IntKind) (a b:Int):Option V:=
 match op with
 | .add=>some (.i k (k.wrap (a+b)))
 | .sub=>some (.i k (k.wrap (a - b)))
 | .mul=>some (.i k (k.wrap (a*b)))
 | .quo=>if b=0 then none else some (.i k (k.wrap (a.tdiv b)))
 | .rem=>if b=0 then none else some (.i k (a.tmod b))
 | .and=>some (.i k (k.wrap (BitVec.ofInt k.bits a &&& BitVec.ofInt k.bits b).toNat))
 | .or=>some (.i k (k.wrap (BitVec.ofInt k.bits a ||| BitVec.ofInt k.bits b).toNat))
 | .xor=>some (.i k (k.wrap (BitVec.ofInt k.bits a ^^^ BitVec.ofInt k.bits b).toNat))
 | .andNot=>some (.i k (k.wrap (BitVec.ofInt k.bits a &&& ~~~(BitVec.ofInt k.bits b)).toNat))
 | .eql=>some (.b (decide (a=b)))
 | .neq=>some (.b (!decide (a=b)))
 | .lss=>some (.b (decide (a<b)))
 | .leq=>some (.b (decide (a<=b)))
 | .gtr=>some (.b (decide (b<a)))
 | .geq=>some (.b (decide (b<=a)))
 | _=>none
def Yz (op:BinOp) (a b:ByteArray):Option V:=
 match op with
 | .add=>if a.size+b.size<Bc then some (.s (a++b)) else none
 | .eql=>some (.b (decide (a=b)))
 | .neq=>some (.b (!decide (a=b)))
 | _=>none
def B1 (op:BinOp):V->V->Option V
 | .i k a,.i k' b=>
  match op with
  | .shl=>if b<0 then none else some (.i k (k.wrap (a*2 ^ (min b.toNat k.bits))))
  | .shr=>if b<0 then none else some (.i k (a.fdiv (2 ^ (min b.toNat k.bits))))
  | op=>if k=k' then GQ op k a b else none
 | .s a,.s b=>Yz op a b
 | _,_=>none
def RQ:CK->V->V->Option Bool
 | .b,.b x,.b y=>some (x==y)
 | .i,.i k a,.i k' b=>if k=k' then some (decide (a=b)) else none
 | .s,.s a,.s b=>some (decide (a=b))
 | _,_,_=>none
def GS:List CK->List V->List V->Option Bool
 | [],[],[]=>some true
 | k::ks,a::l,c::m=>(RQ k a c).bind λx=>(GS ks l m).map λy=>x&&y
 | _,_,_=>none
def FD:EK->V->V->Option Bool
 | .b,.b x,.b y=>some (x==y)
 | .ptr,.np,.np=>some true
 | .ptr,.np,.p ..=>some false
 | .ptr,.p ..,.np=>some false
 | .sl,.ns,.ns=>some true
 | .sl,.ns,.sl ..=>some false
 | .sl,.sl ..,.ns=>some false
 | .sl,.ns,.e0=>some false
 | .sl,.e0,.ns=>some false
 | .ifc,.ni,.ni=>some true
 | .ifc,.ni,.ifc ..=>some false
 | .ifc,.ifc ..,.ni=>some false
 | .fn,.nf,.nf=>some true
 | .fn,.nf,.f ..=>some false
 | .fn,.f ..,.nf=>some false
 | .agg ks,.agg l,.agg m=>GS ks l m
 | _,_,_=>none
def unV (op:UnOp):V->Option V
 | .b x=>match op with | .not=>some (.b (!x)) | _=>none
 | .i k n=>match op with
  | .neg=>some (.i k (k.wrap (0 - n)))
  | .xor=>some (.i k (k.wrap (BitVec.ofInt k.bits (if k.signed then -1 else k.max) ^^^ BitVec.ofInt k.bits n).toNat))
  | _=>none
 | _=>none
def Pc:V->V->Option V
 | .i k x,.i k' y=>if k=k' then some (.i k (if y<x then y else x)) else none
 | _,_=>none
def Pb:V->V->Option V
 | .i k x,.i k' y=>if k=k' then some (.i k (if x<y then y else x)) else none
 | _,_=>none
def EH (f:V->V->Option V):V->List V->Option V
 | x,[]=>some x
 | x,y::l=>(f x y).bind λz=>EH f z l
def HJ (r:List V) (off n:Nat) (agg:Bool):Option V:=
 if off+n<=r.length then
  if agg then some (.agg ((r.drop off).take n)) else if n=1 then r[off]? else none
 else none
def BW (v:V) (n:Nat):Option Nat:=
 match v with
 | .i _ j=>if 0<=j/\j<n then some j.toNat else none
 | _=>none
def AO (v:Option V) (d n:Nat):Option Nat:=
 match v with
 | none=>some d
 | some (.i _ j)=>if 0<=j/\j<=n then some j.toNat else none
 | _=>none
def Ck (x:ByteArray):List (List V):=x.data.toList.map λc=>[V.i .u8 (c.toNat:Int)]
def AM (sz:Nat) (h:AH):V->Option (List (List V))
 | .ns=>some []
 | .e0=>some []
 | .sl id el len _=>
  match h.get id with
  | some k=>if k.sz=sz/\el+len<=k.cs.length then some ((k.cs.drop el).take len) else none
  | none=>none
 | .s x=>if sz=1 then some (Ck x) else none
 | _=>none
def Vo (sz:Nat) (h:AH) (x y:V):Option (V×AH):=
 (AM sz h y).bind λnew=>
 match x with
 | .e0=>
  if new=[] then some (.e0,h)
  else if new.length<Bc then some (.sl h.next 0 new.length new.length,h.alloc ⟨sz,new⟩) else none
 | .ns=>
  if new=[] then some (.ns,h)
  else if new.length<Bc then some (.sl h.next 0 new.length new.length,h.alloc ⟨sz,new⟩) else none
 | .sl id el len cap=>
  match h.get id with
  | some k=>
   if k.sz=sz/\h.lim<=id/\el+len<=k.cs.length/\len+new.length<Bc then
    if len+new.length<=cap then
     if el+len+new.length<=k.cs.length then some (.sl id el (len+new.length) cap,h.put id ⟨sz,EL k.cs (el+len) new⟩) else none
    else some (.sl h.next 0 (len+new.length) (len+new.length),(h.kill id).alloc ⟨sz,(k.cs.drop el).take len++new⟩)
   else none
  | none=>none
 | _=>none
def bytesOf?:List (List V)->Option (List UInt8)
 | []=>some []
 | [V.i .u8 n]::l=>(bytesOf? l).map λr=>UInt8.ofNat n.toNat::r
 | _=>none
def szB (h:AH) (id sz:Nat):Bool:=
 match h.get id with
 | some k=>k.sz==sz
 | none=>true
def sameV:V->V->Bool
 | .i k a,.i k' b=>k==k'&&decide (a=b)
 | .b x,.b y=>x==y
 | .sl a b c d,.sl a' b' c' d'=>a==a'&&b==b'&&c==c'&&d==d'
 | .p a b c,.p a' b' c'=>a==a'&&b==b'&&c==c'
 | .ns,.ns | .np,.np | .e0,.e0=>true
 | _,_=>false
theorem PM {v w:V} (h:sameV v w=true):v=w:=by
 unfold sameV at h;split at h<;>simp_all
def Bx:List V->List V->Bool
 | [],[]=>true
 | a::l,b::m=>sameV a b&&Bx l m
 | _,_=>false
theorem Hp:∀ {l m:List V},Bx l m=true->l=m
 | [],[],_=>rfl
 | [],_::_,h=>by simp [Bx] at h
 | _::_,[],h=>by simp [Bx] at h
 | a::l,b::m,h=>by
  simp only [Bx,Bool.and_eq_true] at h;rw [PM h.1,Hp h.2]
def Bj:List (List V)->List (List V)->Bool
 | [],[]=>true
 | a::l,b::m=>Bx a b&&Bj l m
 | _,_=>false
theorem D9:∀ {l m:List (List V)},Bj l m=true->l=m
 | [],[],_=>rfl
 | [],_::_,h=>by simp [Bj] at h
 | _::_,[],h=>by simp [Bj] at h
 | a::l,b::m,h=>by
  simp only [Bj,Bool.and_eq_true] at h;rw [Hp h.1,D9 h.2]
def BL:V->V->Bool
 | .agg l,.agg m=>Bx l m
 | v,w=>sameV v w
theorem WJ {v w:V} (h:BL v w=true):v=w:=by
 unfold BL at h;split at h
 .rw [Hp h]
 .exact PM h
def Ag (tp:TP) (o:O) (ev:X->V) (h:AH):Option (V×AH):=
 match o with
 | .mv x=>some (ev x,h)
 | .pick c a b=>match ev c with | .b x=>some (if x then ev a else ev b,h) | _=>none
 | .alloc z=>some (.p h.next 0 0,h.alloc ⟨z.length,[z]⟩)
 | .box x=>if (ev x).cells.all V.isCell=true then some (.p h.next 0 0,h.alloc ⟨(ev x).cells.length,[(ev x).cells]⟩) else none
 | .build z ps=>(Fl z (ps.map λq=>(q.1,q.2.1,ev q.2.2))).map λr=>(.agg r,h)
 | .e0=>some (.e0,h)
 | .bsl sz z n ps=>(Cw sz (List.replicate n z) (ps.map λq=>(q.1,ev q.2))).map λr=>(.sl h.next 0 n n,h.alloc ⟨sz,r⟩)
 | .load n agg x=>
  match ev x with
  | .p id el off=>(h.get id).bind λk=>(k.cs[el]?).bind λr=>(HJ r off n agg).map λv=>(v,h)
  | _=>none
 | .fload n agg x=>
  match ev x with
  | .p id el off=>(h.get id).bind λk=>(k.cs[el]?).bind λr=>(HJ r off n agg).map λv=>(v,h)
  | _=>none
 | .chk n agg x y=>
  match ev x with
  | .p id el off=>(h.get id).bind λk=>(k.cs[el]?).bind λr=>(HJ r off n agg).bind λv=>if BL v (ev y)=true then some (.u,h) else none
  | _=>none
 | .alc z=>some (.p h.next 0 0,h.alloc ⟨z.length,[z]⟩)
 | .chka z y=>
  match ev y with
  | .p id el off=>(h.get id).bind λk=>if el=0/\off=0/\k.sz=z.length/\Bj k.cs [z]=true then some (.u,h) else none
  | _=>none
 | .bslc sz z n ps=>(Cw sz (List.replicate n z) (ps.map λq=>(q.1,ev q.2))).map λr=>(.sl h.next 0 n n,h.alloc ⟨sz,r⟩)
 | .chkb sz z n ps y=>
  match ev y with
  | .sl id el len cap=>(Cw sz (List.replicate n z) (ps.map λq=>(q.1,ev q.2))).bind λr=>(h.get id).bind λk=>if el=0/\len=n/\cap=n/\k.sz=sz/\Bj k.cs r=true then some (.u,h) else none
  | _=>none
 | .store n a x=>
  match ev a with
  | .p id el off=>
   if h.lim<=id/\0<n/\(ev x).cells.length=n/\(ev x).cells.all V.isCell=true then
    (h.get id).bind λk=>(k.cs[el]?).bind λr=>
     if off+n<=r.length then some (.u,h.put id ⟨k.sz,k.cs.set el (over r off (ev x).cells)⟩) else none
   else none
  | _=>none
 | .nck x=>match ev x with | .p id el off=>some (.p id el off,h) | .ifc t v=>some (.ifc t v,h) | .f (.func g) a b=>some (.f (.func g) a b,h) | .f (.method m) (.ifc t v::r) b=>(if tp.dir t m=true then some (.f (.method m) (.ifc t v::r) b,h) else none) | _=>none
 | .bin op x y=>(B1 op (ev x) (ev y)).map λv=>(v,h)
 | .eq neg ks x y=>(FD ks (ev x) (ev y)).map λr=>(.b (if neg then !r else r),h)
 | .un op x=>(unV op (ev x)).map λv=>(v,h)
 | .conv k x=>match ev x with | .i _ n=>some (.i k (k.wrap n),h) | _=>none
 | .strs x=>match ev x with | .s x=>some (.s x,h) | _=>none
 | .mark x=>match ev x with | .sl id el len cap=>if (h.get id).isSome=true/\h.lim<=id/\0<cap then some (.sl id el len cap,h) else none | _=>none
 | .s2b x=>match ev x with | .s x=>some (.sl h.next 0 x.size x.size,h.alloc ⟨1,Ck x⟩) | _=>none
 | .b2s x=>
  match ev x with
  | .s _=>none
  | v=>(AM 1 h v).bind λl=>(bytesOf? l).map λr=>(.s ⟨r.toArray⟩,h)
 | .i2s x=>match ev x with | .i _ n=>some (.s (Utf8.encode n),h) | _=>none
 | .mkif t x=>some (.ifc t (ev x),h)
 | .mkfn fn first caps=>some (.f fn (first.map ev) (caps.map ev),h)
 | .mksl z n c=>
  match ev n,ev c with
  | .i _ a,.i _ m=>if 0<=a/\a<=m/\m<Bc then some (.sl h.next 0 a.toNat m.toNat,h.alloc ⟨z.length,List.replicate m.toNat z⟩) else none
  | _,_=>none
 | .appz z x n=>
  match ev x,ev n with
  | .ns,.i _ a=>if 0<a/\a<Bc then some (.sl h.next 0 a.toNat a.toNat,h.alloc ⟨z.length,List.replicate a.toNat z⟩) else none
  | _,_=>none
 | .slice sz x lo hi mx=>
  match ev x with
  | .ns=>if mx.isNone||hi.isSome then (AO (mx.map ev) 0 0).bind λm=>(AO (hi.map ev) 0 m).bind λt=>(AO (lo.map ev) 0 t).map λ_=>(.ns,h) else none
  | .e0=>if mx.isNone||hi.isSome then (AO (mx.map ev) 0 0).bind λm=>(AO (hi.map ev) 0 m).bind λt=>(AO (lo.map ev) 0 t).map λ_=>(.e0,h) else none
  | .sl id el len cap=>
   (h.get id).bind λk=>
    if k.sz=sz/\(mx.isNone||hi.isSome)=true/\len<=cap then
     (AO (mx.map ev) cap cap).bind λm=>(AO (hi.map ev) len m).bind λt=>(AO (lo.map ev) 0 t).map λl=>(.sl id (el+l) (t - l) (m - l),h)
    else none
  | _=>none
 | .sslice x lo hi=>
  match ev x with
  | .s x=>(AO (hi.map ev) x.size x.size).bind λt=>(AO (lo.map ev) 0 t).map λl=>(.s (x.extract l t),h)
  | _=>none
 | .fad off x=>match ev x with | .p id el o=>some (.p id el (o+off),h) | _=>none
 | .fld off n agg x=>match ev x with | .agg r=>(HJ r off n agg).map λv=>(v,h) | _=>none
 | .iad sz x i=>
  match ev x with
  | .sl id el len _=>if szB h id sz=true then (BW (ev i) len).map λj=>(.p id (el+j) 0,h) else none
  | _=>none
 | .iada sz len x i=>
  match ev x with
  | .p id el off=>(BW (ev i) len).map λj=>(.p id el (off+j*sz),h)
  | _=>none
 | .idx sz len agg x i=>
  match ev x with
  | .agg r=>(BW (ev i) len).bind λj=>(HJ r (j*sz) sz agg).map λv=>(v,h)
  | _=>none
 | .sidx x i=>
  match ev x with
  | .s x=>(BW (ev i) x.size).map λj=>(.i .u8 ((x.data.toList.getD j 0).toNat:Int),h)
  | _=>none
 | .ext x i=>match ev x with | .tup l=>(l[i]?).map λv=>(v,h) | _=>none
 | .app sz x y=>Vo sz h (ev x) (ev y)
 | .len x=>
  match ev x with
  | .ns=>some (.i .i64 0,h)
  | .e0=>some (.i .i64 0,h)
  | .sl _ _ n _=>some (.i .i64 n,h)
  | _=>none
 | .slen x=>match ev x with | .s x=>some (.i .i64 x.size,h) | _=>none
 | .lenc n=>some (.i .i64 n,h)
 | .cap x=>match ev x with | .ns=>some (.i .i64 0,h) | .e0=>some (.i .i64 0,h) | _=>none
 | .mn l=>match l with | []=>none | x::r=>(EH Pc (ev x) (r.map ev)).map λv=>(v,h)
 | .mx l=>match l with | []=>none | x::r=>(EH Pb (ev x) (r.map ev)).map λv=>(v,h)
 | .tas t ok z x=>
  match ev x with
  | .ifc t' v=>if t'=t then some (if ok then .tup [v,.b true] else v,h) else if ok then some (.tup [z,.b false],h) else none
  | .ni=>if ok then some (.tup [z,.b false],h) else none
  | _=>none
 | .call .. | .inv ..=>none
def callee (tp:TP) (o:O) (ev:X->V):Option (Nat×List V):=
 match o with
 | .call f l=>match ev f with | .f (.func g) first caps=>some (g,first++l.map ev++caps) | _=>none
 | .inv x m l=>
  match ev x with
  | .ifc t v=>(tp.meth t m).bind λq=>
   match q.at_ with
   | none=>some (q.f,v::l.map ev)
   | some j=>match v with | .agg cs=>(cs[j]?).map λr=>(q.f,r::l.map ev) | _=>none
  | _=>none
 | _=>none
abbrev A4:=Nat->List V->AH->Option (V×AH)
def A3 (tp:TP) (C:A4) (o:O) (ev:X->V) (h:AH):Option (V×AH):=
 match o with
 | .call .. | .inv ..=>(callee tp o ev).bind λc=>C c.1 c.2 h
 | o=>Ag tp o ev h
def AK (e:Env):Option (Nat×Bool)->Option Bool
 | none=>some true
 | some (t,x)=>match e t with | .b y=>some (y==x) | .tup []=>some false | _=>none
def Cg (tp:TP) (C:A4):List TO->Env->AH->Option (Env×AH)
 | [],e,h=>some (e,h)
 | o::r,e,h=>
  match AK e o.g with
  | some true=>(A3 tp C o.o (X.ev e) h).bind λq=>Cg tp C r (e.set o.d q.1) q.2
  | some false=>Cg tp C r (e.set o.d (.tup [])) h
  | none=>none
def AS:O->Bool
 | .alloc .. | .box .. | .bsl .. | .bslc .. | .chkb .. | .alc .. | .chka .. | .load .. | .chk .. | .store .. | .mark .. | .s2b .. | .b2s .. | .mksl .. | .appz .. | .slice .. | .app .. | .call .. | .inv ..=>false
 | _=>true
def Ja (o:O) (ev:X->V) (h:AH):Bool:=
 match o with
 | .iad _ x _=>match ev x with | .sl id _ _ _=>(h.get id).isSome | _=>true
 | _=>true
def Bf (tp:TP) (C:A4):List TO->Env->AH->Option (Env×AH)
 | [],e,h=>some (e,h)
 | o::r,e,h=>
  match AK e o.g with
  | some true=>
   if AS o.o=true then
    if Ja o.o (X.ev e) h=true then (Ag tp o.o (X.ev e) h).bind λq=>Bf tp C r (e.set o.d q.1) q.2 else none
   else (A3 tp C o.o (X.ev e) h.raise).bind λq=>Bf tp C r (e.set o.d q.1) (q.2.back h.lim)
  | some false=>Bf tp C r (e.set o.d (.tup [])) h
  | none=>none
def B5 (tp:TP) (C:A4):List (Bool×List TO)->Env->AH->Option (Env×AH)
 | [],e,h=>some (e,h)
 | (q,ops)::r,e,h=>((if q then Bf tp C ops e h else Cg tp C ops e h)).bind λz=>B5 tp C r z.1 z.2
inductive Ex where
 | nm
 | ex (id:Nat)
 | rt
abbrev Out:=Option (Ex×Env×AH)
def He (f:Env->AH->Out):Nat->Env->AH->Out
 | 0,_,_=>none
 | n+1,e,h=>(f e h).bind λz=>match z.1 with | .nm=>He f n z.2.1 z.2.2 | _=>some z
def Dl (tp:TP) (C:A4) (n:Nat):TC->Env->AH->Out
 | .skip,e,h=>some (.nm,e,h)
 | .reg ops,e,h=>(Cg tp C ops e h).map λz=>(.nm,z.1,z.2)
 | .dreg segs,e,h=>(B5 tp C segs e h).map λz=>(.nm,z.1,z.2)
 | .seq a b,e,h=>(Dl tp C n a e h).bind λz=>match z.1 with | .nm=>Dl tp C n b z.2.1 z.2.2 | _=>some z
 | .cond c a b,e,h=>match c.ev e with | .b true=>Dl tp C n a e h | .b false=>Dl tp C n b e h | _=>none
 | .block id c,e,h=>(Dl tp C n c e h).map λz=>(match z.1 with | .ex j=>if j=id then .nm else .ex j | x=>x,z.2)
 | .loop c,e,h=>He (Dl tp C n c) n e h
 | .exit id,e,h=>some (.ex id,e,h)
 | .ret,e,h=>some (.rt,e,h)
def Tn (e:Env) (h:AH):RV->Option V
 | .t n=>some (e n)
 | .cell n k agg=>
  match e n with
  | .p id el off=>(h.get id).bind λb=>(b.cs[el]?).bind λr=>HJ r off k agg
  | _=>none
def W6 (e:Env) (h:AH):List RV->Option (List V)
 | []=>some []
 | r::l=>(Tn e h r).bind λv=>(W6 e h l).map λvs=>v::vs
def BI (e:Env) (h:AH) (l:List RV):Option V:=
 (W6 e h l).map λvs=>match vs with | [v]=>v | vs=>.tup vs
def Fb (args:List V):Env:=λj=>args.getD j .u
def ev (tp:TP):Nat->A4
 | 0,_,_,_=>none
 | k+1,f,args,h=>
  (tp.fn f).bind λtf=>if args.length<=tf.n then (Dl tp (ev tp k) k tf.body (Fb args) h).bind λz=>
   match z.1 with
   | .ex _=>none
   | _=>(BI z.2.1 z.2.2 tf.res).map λv=>(v,z.2.2)
   else none
/-! ### The translation -/
def Ra:Value->Option V
 | .bool x=>some (.b x)
 | .int k n=>some (.i k n)
 | .string x=>some (.s x)
 | .pointer none=>some .np
 | .slice none 0 0=>some .ns
 | .nilFunc=>some .nf
 | .nilIface=>some .ni
 | _=>none
def zJ:Value->Option V
 | .agg cs=>(cs.toList.mapM Ra).map .agg
 | v=>Ra v
def AX:Operand->Option X
 | .tmp t=>some (.t t)
 | .const v=>(zJ v).map .c
 | .func f=>some (.fn f)
 | .global _=>none
def EE (l:List Operand):Option (List X):=l.mapM AX
def C4:Option Operand->Option (Option X)
 | none=>some none
 | some x=>(AX x).map some
def IA (place:Nat->Option (Nat×Nat)):List (Nat×Operand)->Option (List (Nat×Nat×X))
 | []=>some []
 | (i,o)::r=>(place i).bind λq=>(AX o).bind λx=>(IA place r).map λl=>(q.1,q.2,x)::l
def J6:List (Nat×Operand)->Option (List (Nat×X))
 | []=>some []
 | (i,o)::r=>(AX o).bind λx=>(J6 r).map λl=>(i,x)::l
def I7 (P:Program) (t:TypeId):Option V:=((P.info? t).bind (·.zero)).bind zJ
def Hy (P:Program) (t:TypeId):Option (List V):=(I7 P t).map V.cells
def CA (P:Program) (t:TypeId):Option Nat:=(P.info? t).map (·.size)
def J1 (P:Program) (t:TypeId):Nat:=((P.info? t).map (·.bytes)).getD 0
def EU (P:Program) (t:TypeId):Option Bool:=
 match P.underlying t with
 | some (.struct _) | some (.array _ _)=>some true
 | some _=>some false
 | none=>none
def Dm (x:Bool):Option Unit:=if x then some () else none
def Kx (K:TypeId->Option (List CK)):List Field->Nat->Option (List CK)
 | [],_=>some []
 | f::fs,off=>if f.name≠"_"/\f.offset=off then (K f.type).bind λks=>(Kx K fs (off+ks.length)).map λl=>ks++l else none
def DM (P:Program):Nat->TypeId->Option (List CK)
 | 0,_=>none
 | d+1,t=>
  (match P.underlying t with
   | some .bool=>some [CK.b]
   | some (.int _)=>some [CK.i]
   | some .string=>some [CK.s]
   | some (.struct fs)=>if P.stoodInHeld t then none else Kx (DM P d) fs.toList 0
   | some (.array n e)=>(DM P d e).map λks=>(List.replicate n ks).flatten
   | _=>none).bind λks=>if CA P t=some ks.length then some ks else none
def Mb (P:Program) (t:TypeId) (x y:Operand):Option EK:=
 match P.underlying t with
 | some .bool=>some .b
 | some (.pointer _)=>some .ptr
 | some (.slice _)=>some .sl
 | some (.func ..)=>some .fn
 | some (.interface _)=>if (x matches .const _)||(y matches .const _) then some .ifc else none
 | some (.struct _) | some (.array ..)=>if P.eqGuardType P.depth t then none else (DM P 20 t).map .agg
 | _=>none
def UO (P:Program) (t:TypeId):Bool:=match P.underlying t with | some (.int .i64)=>true | _=>false
def AF (P:Program) (o:Oper):Option O:=
 match o.op with
 | .move x | .assign x=>(AX x).map .mv
 | .pick c a b=>do pure (.pick (<- AX c) (<- AX a) (<- AX b))
 | .alloc t=>(Hy P t).map .alloc
 | .box _ x=>(AX x).map .box
 | .build t ps=>do
  let z<-Hy P t
  match P.underlying t with
  | some (.struct fs)=>do
   let pl<-fs.toList.mapM λf=>(P.info? f.type).map λi=>(f.offset,i.size)
   pure (.build z (<- IA (λi=>pl[i]?) ps.toList))
  | some (.array _ e)=>do
   let s<-CA P e
   pure (.build z (<- IA (λi=>some (i*s,s)) ps.toList))
  | _=>none
 | .buildSlice t n ps=>do
  let some (.slice e):=P.underlying t | none
  let s<-CA P e
  Dm (n*s<=2 ^ 24&&0<s)
  let z<-Hy P e
  Dm (z.length==s)
  if n=0&&ps.isEmpty then pure .e0 else pure (.bsl s z n (<- J6 ps.toList))
 | .load t a=>do
  let s<-CA P t
  let g<-EU P t
  Dm (g||s==1)
  pure (.load s g (<- AX a))
 | .store t a x=>do pure (.store (<- CA P t) (<- AX a) (<- AX x))
 | .nilCheck x=>(AX x).map .nck
 | .binOp op t x y _=>do
  let x'<-AX x
  let y'<-AX y
  match op with
  | .eql | .neq=>
   match P.underlying t with
   | some (.int _) | some .string=>pure (.bin op x' y')
   | _=>do pure (.eq (op==.neq) (<- Mb P t x y) x' y')
  | _=>pure (.bin op x' y')
 | .unOp op _ x=>(AX x).map (.un op)
 | .convert s d x=>
  match P.underlying s,P.underlying d with
  | some (.int _),some (.int k)=>(AX x).map (.conv k)
  | some .string,some .string=>(AX x).map .strs
  | some (.int _),some .string=>(AX x).map .i2s
  | some .string,some (.slice e)=>match P.underlying e with | some (.int .u8)=>(AX x).map .s2b | _=>none
  | some (.slice e),some .string=>match P.underlying e with | some (.int .u8)=>(AX x).map .b2s | _=>none
  | some (.slice _),some (.slice e)=>if s==d then match P.underlying e with | some (.int .u8)=>(AX x).map .mark | _=>none else none
  | _,_=>none
 | .makeInterface t x=>
  match P.underlying t with
  | some (.interface _) | none=>none
  | _=>(AX x).map (.mkif t)
 | .makeFunc fn a c=>do pure (.mkfn fn (<- EE a.toList) (<- EE c.toList))
 | .makeSlice t n c=>do
  let some (.slice e):=P.underlying t | none
  let s<-CA P e
  let z<-Hy P e
  Dm (z.length==s&&0<s&&J1 P e<=4096)
  pure (.mksl z (<- AX n) (<- AX c))
 | .slice t x lo hi mx=>
  match P.underlying t with
  | some (.slice e)=>do pure (.slice (<- CA P e) (<- AX x) (<- C4 lo) (<- C4 hi) (<- C4 mx))
  | some .string=>do
   Dm mx.isNone
   pure (.sslice (<- AX x) (<- C4 lo) (<- C4 hi))
  | _=>none
 | .fieldAddr t x f=>do
  let some (.struct fs):=P.underlying t | none
  let q<-fs[f]?
  let s<-CA P q.type
  Dm (s != 0)
  pure (.fad q.offset (<- AX x))
 | .field t x f=>do
  let some (.struct fs):=P.underlying t | none
  let q<-fs[f]?
  let s<-CA P q.type
  let g<-EU P q.type
  Dm (g||s==1)
  pure (.fld q.offset s g (<- AX x))
 | .indexAddr t x j=>
  match P.underlying t with
  | some (.slice e)=>do pure (.iad (<- CA P e) (<- AX x) (<- AX j))
  | some (.array n e)=>do pure (.iada (<- CA P e) n (<- AX x) (<- AX j))
  | _=>none
 | .index t x j=>
  match P.underlying t with
  | some (.array n e)=>do
   let s<-CA P e
   let g<-EU P e
   Dm (g||s==1)
   pure (.idx s n g (<- AX x) (<- AX j))
  | some .string=>do pure (.sidx (<- AX x) (<- AX j))
  | _=>none
 | .extract x j=>do pure (.ext (<- AX x) j)
 | .panic _=>pure (.nck (.c .np))
 | .typeAssert x _ t ok=>do
  match P.underlying t with
  | some (.interface _) | none=>none
  | _=>pure (.tas t ok (<- I7 P t) (<- AX x))
 | .call c=>
  match c.callee with
  | .value f=>do pure (.call (<- AX f) (<- EE c.args.toList))
  | .invoke x m=>do pure (.inv (<- AX x) m (<- EE c.args.toList))
  | .builtin b=>
   match b,c.args.toList with
   | .append,[x,y]=>do
    let some (.slice e):=P.underlying (c.argTypes.getD 0 0) | none
    let s<-CA P e
    let z<-Hy P e
    Dm (z.length==s&&0<s&&J1 P e<=4096&&0<J1 P e)
    Dm (match P.underlying (c.argTypes.getD 1 0) with | some (.slice _)=>true | some .string=>s==1 | some (.int .i64)=>true | _=>false)
    Dm (c.argTypes.size==2)
    let x'<-AX x
    let y'<-AX y
    pure (if UO P (c.argTypes.getD 1 0)=true then .appz z x' y' else .app s x' y')
   | .len,[x]=>
    match P.underlying (c.argTypes.getD 0 0) with
    | some (.array n _)=>if c.argTypes.size==1 then some (.lenc n) else none
    | some (.slice _)=>if c.argTypes.size==1 then (AX x).map .len else none
    | some .string=>if c.argTypes.size==1 then (AX x).map .slen else none
    | _=>none
   | .cap,[x]=>
    match P.underlying (c.argTypes.getD 0 0) with
    | some (.slice _)=>if c.argTypes.size==1 then (AX x).map .cap else none
    | _=>none
   | .min,l=>(EE l).map .mn
   | .max,l=>(EE l).map .mx
   | _,_=>none
 | _=>none
def Ub (ops:Array Oper):Option (Nat×Bool)->Option (Option (Nat×Bool))
 | none=>some none
 | some (j,x)=>((ops[j]?).bind (·.dst)).map λt=>some (t,x)
def pX (n:Nat):Option Nat->Bool
 | none=>true
 | some d=>d<n
def Nl (ps:List (Nat×X)):Bool:=ps.all λq=>match q.2 with | .c _=>true | _=>false
def UT (fl:List Nat) (d:Option Nat) (g:Option (Nat×Bool)) (x:O):O:=
 match x,d,g with
 | .load n g a,some d,_=>if fl.contains d then .fload n g a else .load n g a
 | .alloc z,some d,none=>if fl.contains d then .alc z else .alloc z
 | .bsl sz z n ps,some d,none=>if fl.contains d&&Nl ps then .bslc sz z n ps else .bsl sz z n ps
 | x,_,_=>x
def O.fl:O->Bool
 | .fload ..=>true
 | _=>false
def O.late:O->Bool
 | .bslc _ _ _ ps=>Nl ps
 | .alc _=>true
 | _=>false
def J7 (P:Program) (n:Nat) (fl:List Nat) (ops:Array Oper) (o:Oper):Option TO:=do
 let x<-AF P o
 let g<-Ub ops o.guard
 Dm (pX n o.dst&&(match g with | some (t,_)=>t<n | none=>true))
 pure ⟨o.dst,UT fl o.dst g x,g⟩
def EC (P:Program) (n:Nat) (fl:List Nat) (ops:Array Oper):List Oper->Option (List TO)
 | []=>some []
 | o::r=>(J7 P n fl ops o).bind λx=>(EC P n fl ops r).map λl=>x::l
abbrev Wr:=Nat->Bool
def aAy (wr:Wr) (o:Oper):Bool:=
 match o.op with
 | .store ..=>true
 | .call { callee:=.builtin .append,args:=args,.. }=>match args.toList with | .tmp t::_=>!wr (2*t+1) | _=>true
 | .call { callee:=.value (.func f),.. }=>wr (2*f)
 | .call { callee:=.invoke ..,.. }=>true
 | _=>false
def jB (wr:Wr) (ops:Array Oper):Wr:=
 let es:=ops.toList.filterMap λo=>match o.op with | .buildSlice _ 0 _=>o.dst | _=>none
 λn=>if n % 2=0 then wr (n / 2) else es.contains (n / 2)
def aY (wr:Wr) (o:Oper):Bool:=aAy wr o||(match o.op with | .convert s d _=>s==d | _=>false)
def IJ (o:Oper) (acc:List Nat):Nat:=
 o.after.toList.foldl (λs e=>if Region.binds .any e then s ||| 2 ^ e.on ||| acc.getD e.on 0 else s) 0
def HF:List Oper->List Nat->List Nat
 | [],acc=>acc
 | o::r,acc=>HF r (acc++[IJ o acc])
def E9 (ops:List Oper):List Nat:=HF ops []
def xT:X->List Nat
 | .t n=>[n]
 | _=>[]
def iQ (l:List X):List Nat:=l.flatMap xT
def xoT:Option X->List Nat
 | some x=>xT x
 | none=>[]
def O.slots:O->List Nat
 | .mv x | .box x | .load _ _ x | .fload _ _ x | .nck x | .un _ x | .conv _ x | .strs x | .mark x | .s2b x | .b2s x | .i2s x | .mkif _ x | .fad _ x | .fld _ _ _ x | .ext x _ | .len x | .slen x | .cap x | .tas _ _ _ x=>xT x
 | .pick c a b=>xT c++xT a++xT b
 | .alloc _ | .alc _ | .lenc _ | .e0=>[]
 | .build _ ps=>iQ (ps.map λq=>q.2.2)
 | .bsl _ _ _ ps | .bslc _ _ _ ps=>iQ (ps.map λq=>q.2)
 | .chka _ y=>xT y
 | .chkb _ _ _ ps y=>iQ (ps.map λq=>q.2)++xT y
 | .store _ a x | .chk _ _ a x | .appz _ a x | .bin _ a x | .eq _ _ a x | .mksl _ a x | .iad _ a x | .iada _ _ a x | .idx _ _ _ a x | .sidx a x | .app _ a x=>xT a++xT x
 | .mkfn _ l m=>iQ l++iQ m
 | .slice _ x lo hi top=>xT x++xoT lo++xoT hi++xoT top
 | .sslice x lo hi=>xT x++xoT lo++xoT hi
 | .mn l | .mx l=>iQ l
 | .call f l=>xT f++iQ l
 | .inv x _ l=>xT x++iQ l
def TO.slots (o:TO):List Nat:=o.o.slots++(match o.g with | some (t,_)=>[t] | none=>[])
def O.marks:O->Bool
 | .mark _=>true
 | _=>false
def Gf (wr:Wr):List (Oper×TO)->List (Bool×List TO)
 | []=>[]
 | (o,t)::r=>
  if aAy wr o||t.o.marks then (false,[t])::Gf wr r
  else match Gf wr r with
   | (true,l)::s=>(true,t::l)::s
   | s=>(true,[t])::s
def Hh (cl:List Nat) (l:List TO):Bool:=
 (List.range l.length).all λi=>(List.range l.length).all λj=>i==j ||
  match l[i]?,l[j]? with
  | some a,some b=>
   match a.d with
   | none=>true
   | some d=>b.d != some d&&(!b.slots.contains d||(if i<j then (cl.getD j 0).testBit i else (cl.getD i 0).testBit j))
  | _,_=>true
def Td (ts:List TO) (i:Nat):Bool:=match ts[i]? with | some t=>AS t.o | none=>true
def SX (ts:List TO) (i:Nat):Bool:=match ts[i]? with | some t=>t.o.late&&t.g.isNone&&t.d.isSome | none=>false
def aYR (ts:List TO) (i:Nat):Bool:=match ts[i]? with | some t=>t.o.fl | none=>false
def T7 (cl:List Nat) (ts:List TO) (s n:Nat):Bool:=(List.range n).all λk=>(Td ts (s+k)&&!aYR ts (s+k))||(List.range s).all λi=>Td ts i||SX ts i||(cl.getD (s+k) 0).testBit i
def Fe (cl:List Nat) (ts:List TO):Nat->List (Bool×List TO)->Bool
 | _,[]=>true
 | s,(q,l)::r=>T7 cl ts s l.length&&(q||(l.length==1&&l.all λt=>!AS t.o&&!t.o.late))&&Fe cl ts (s+l.length) r
def FB (ops:Array Oper):Bool:=(List.range ops.size).all λi=>match ops[i]? with | some o=>o.after.toList.all λe=>!Region.binds .any e||e.on<i | none=>true
def Nr (ts:List TO) (j a:Nat):Bool:=((List.range j).any λi=>match ts[i]? with | some u=>u.d==some a | none=>false)||ts.all λu=>u.d != some a
def qK (ts:List TO):Bool:=(List.range ts.length).all λj=>match ts[j]? with
 | some t=>match t.o with
  | .fload _ _ (.t a)=>t.d.isSome&&Nr ts j a&&(match t.g with | none=>true | some (q,_)=>Nr ts j q)
  | .fload _ _ _=>false
  | _=>true
 | none=>true
def J5 (t:TO):Option TO:=match t.d,t.o with | some d,.fload n g x=>some ⟨none,.chk n g x (.t d),t.g⟩ | some d,.bslc sz z n ps=>some ⟨none,.chkb sz z n ps (.t d),none⟩ | some d,.alc z=>some ⟨none,.chka z (.t d),none⟩ | _,_=>none
def Gj (cl:List Nat) (s:Nat) (q:Nat×TO):Bool:=!((q.2.o.late||q.2.o.fl)&&(cl.getD s 0).testBit q.1)
def SZ:Nat->List TO->List (Nat×TO)
 | _,[]=>[]
 | s,t::l=>(s,t)::SZ (s+1) l
def Fy (cl:List Nat):Nat->List (Nat×TO)->List (Bool×List TO)->List (Bool×List TO)
 | _,_,[]=>[]
 | s,acc,(true,l)::r=>(true,l)::Fy cl (s+l.length) (acc++SZ s l) r
 | s,acc,(false,l)::r=>(false,l++(acc.filter (Gj cl s)).filterMap λq=>J5 q.2)::Fy cl (s+l.length) (acc.filter (Gj cl s)) r
def aAt (wr:Wr) (cl:List Nat) (ops:List Oper):List Nat:=
 (List.range ops.length).filterMap λi=>match ops[i]? with
  | some o=>match o.op with
   | .load .. | .buildSlice .. | .alloc ..=>if (List.range ops.length).any λk=>i<k&&(match ops[k]? with | some b=>aY wr b | none=>false)&&!(cl.getD k 0).testBit i then o.dst else none
   | _=>none
  | none=>none
def Pz (f:Nat->Nat) (o:Oper):Oper:={ o with after:=o.after.map λe=>{ e with on:=f e.on },guard:=o.guard.map λg=>(f g.1,g.2) }
def DU (n:Nat) (s:List Nat) (i:Nat):Nat:=if i<n then s.findIdx (·==i) else i
def FL (ops:Array Oper) (s:List Nat):Array Oper:=(s.map λi=>Pz (DU ops.size s) (ops.getD i default)).toArray
def S8 (ops:Array Oper) (s:List Nat):Bool:=
 s.length==ops.size&&((List.range ops.size).all λi=>decide (DU ops.size s i<ops.size/\s[DU ops.size s i]?=some i)) &&
  (List.range ops.size).all λj=>match s[j]? with | some i=>decide (i<ops.size)&&DU ops.size s i==j | none=>false
def ML (wr:Wr) (ops:Array Oper):Nat->List Nat->List Nat
 | 0,acc=>acc
 | k+1,acc=>
  let rdy:=(List.range ops.size).filter λi=>!acc.contains i&&(match ops[i]? with | some o=>o.after.toList.all λe=>!Region.binds .any e||acc.contains e.on | none=>false)
  match rdy.find? λi=>match ops[i]? with | some o=>!aY wr o | none=>false with
  | some i=>ML wr ops k (acc++[i])
  | none=>match rdy with
   | i::_=>ML wr ops k (acc++[i])
   | []=>acc
def Di (P:Program) (wr:Wr) (n:Nat) (fl:List Nat) (ops:Array Oper):Option TC:=
 (EC P n fl ops ops.toList).bind λts=>
  let segs:=Gf (jB wr ops) (ops.toList.zip ts)
  if Fe (E9 ops.toList) ts 0 segs&&Hh (E9 ops.toList) ts&&FB ops&&qK ts&&ts.length==ops.size then some (.dreg (Fy (E9 ops.toList) 0 [] segs)) else none
def Uc (P:Program) (wr:Wr) (n:Nat) (ops:Array Oper) (draw:Bool):Option TC:=
 if draw then
  match Di P wr n [] ops with
  | some c=>some c
  | none=>match Di P wr n (aAt (jB wr ops) (E9 ops.toList) ops.toList) ops with
   | some c=>some c
   | none=>
    let s:=ML (jB wr ops) ops ops.size []
    let ops2:=FL ops s
    if S8 ops s&&FB ops then
     match Di P wr n [] ops2 with
     | some c=>some c
     | none=>Di P wr n (aAt (jB wr ops2) (E9 ops2.toList) ops2.toList) ops2
    else none
 else (EC P n [] ops ops.toList).map λts=>.reg ts
def DY (P:Program) (wr:Wr) (n:Nat):Code->Option TC
 | .skip=>some .skip
 | .region _ ops draw=>Uc P wr n ops draw
 | .seq a b=>(DY P wr n a).bind λx=>(DY P wr n b).map λy=>.seq x y
 | .cond c a b=>(AX c).bind λq=>(DY P wr n a).bind λx=>(DY P wr n b).map λy=>.cond q x y
 | .block id c=>(DY P wr n c).map λx=>.block id x
 | .loop c=>(DY P wr n c).map λx=>.loop x
 | .exit id=>some (.exit id)
 | .ret=>some .ret
 | _=>none
def RM (P:Program):ResultVar->Option RV
 | .tmp t=>some (.t t)
 | .cell t ty=>(CA P ty).bind λs=>(EU P ty).bind λg=>if g||s==1 then some (.cell t s g) else none
def HH (P:Program):List ResultVar->Option (List RV)
 | []=>some []
 | r::l=>(RM P r).bind λx=>(HH P l).map λy=>x::y
def Aj (P:Program) (wr:Wr) (fn:Func):Option TF:=
 match fn.body with
 | none=>none
 | some c=>
  if fn.name == "runtime.NumGoroutine" then none else
  (HH P fn.results.toList).bind λrs=>(DY P wr fn.ntmps c).map λb=>⟨fn.ntmps,rs,b⟩
def bS (P:Program) (t:Nat) (m:String) (q:Xd):Bool:=
 match (P.info? t).bind λi=>i.methods.find? (·.name==m) with
 | some mm=>
  match mm.func,mm.path.toList with
  | some (f,pr),[]=>f==q.f&&q.at_.isNone&&(match P.underlying t with | some (.pointer _)=>pr | some _=>!pr | none=>false)
  | some (f,true),[s]=>f==q.f&&!s.deref&&(match P.underlying s.struct with
      | some (.struct fs)=>match fs[s.index]? with
       | some fd=>q.at_==some fd.offset&&(match P.underlying fd.type with | some (.pointer _)=>true | _=>false)
       | none=>false
      | _=>false)
  | _,_=>false
 | none=>false
end Go.Ab
/- A region that draws its order: its operations may be listed otherwise. -/
namespace Go.Ab
open Go
variable {P:Program} {Q:Exit->Act->World->Prop}
theorem cX (f:Nat->Nat) (o:Oper) (a:Act) (w:World) (K:Act->World->Prop):(Pz f o).wp P a w K Q=o.wp P a w K Q:=rfl
theorem Th (f:Nat->Nat) (o:Oper) (a:Act) (w:World):(Pz f o).asks P a w=o.asks P a w:=rfl
structure Perm (ops:Array Oper) (s:List Nat) (f:Nat->Nat) (ops':Array Oper):Prop where
 size:ops'.size=ops.size
 lt:∀ i,i<ops.size->f i<ops.size
 inj:∀ i j,i<ops.size->j<ops.size->f i=f j->i=j
 ge:∀ i,ops.size<=i->ops.size<=f i
 get:∀ i,i<ops.size->ops'[f i]?=(ops[i]?).map (Pz f)
 sur:∀ j,j<ops.size->∃ i,i<ops.size/\f i=j
theorem Pm {ops:Array Oper} {s:List Nat} (h:S8 ops s=true):Perm ops s (DU ops.size s) (FL ops s):=by
 simp only [S8,Bool.and_eq_true,beq_iff_eq,List.all_eq_true,decide_eq_true_eq] at h;obtain ⟨⟨h1,h2⟩,h3⟩:=h;have hs:∀ i,i<ops.size->DU ops.size s i<ops.size/\s[DU ops.size s i]?=some i:=λi hi=>by
  have:=h2 i (by simpa using hi);exact ⟨this.1,this.2⟩
 have hinj:∀ i j,i<ops.size->j<ops.size->DU ops.size s i=DU ops.size s j->i=j:=λi j hi hj he=>by
  have a:=(hs i hi).2;have b:=(hs j hj).2;rw [he,b] at a;exact (Option.some.inj a).symm
 refine ⟨by simp [FL,h1],λi hi=>(hs i hi).1,hinj,λi hi=>?_,λi hi=>?_,λj hj=>?_⟩
 .unfold DU;rw [if_neg om];exact hi
 .simp only [FL,List.getElem?_toArray,List.getElem?_map];rw [(hs i hi).2];simp [Array.getElem?_eq_getElem hi,Array.getD_eq_getD_getElem?]
 .have:=h3 j (by simpa using hj)
  cases hsj:s[j]? with
  | none=>simp [hsj] at this
  | some i=>
   simp only [hsj,Bool.and_eq_true,decide_eq_true_eq,beq_iff_eq] at this;exact ⟨i,this.1,this.2⟩
section
variable {ops ops':Array Oper} {s:List Nat} {f:Nat->Nat}
theorem Perm.yielded (p:Perm ops s f ops') (t:Array Value) (j:Nat):yielded ops' t (f j)=yielded ops t j:=by
 unfold Go.yielded
 by_cases hj:j<ops.size
 .rw [p.get j hj];cases ops[j]?<;>rfl
 .have h1:ops[j]?=none:=Array.getElem?_eq_none om;have h2:ops'[f j]?=none:=Array.getElem?_eq_none (by rw [p.size];exact p.ge j om);rw [h1,h2]
theorem Perm.wpOp (p:Perm ops s f ops') {i:Nat} (hi:i<ops.size) {K:Act->World->Prop} {a:Act} {w:World} (h:wpOp P ops' Q (f i) K a w):wpOp P ops Q i K a w:=by
 unfold Go.wpOp at *;have ho:ops[i]?=some ops[i]:=Array.getElem?_eq_getElem hi;rw [p.get i hi,ho] at h;rw [ho];simp only [Option.map_some] at h;have hw:Region.wanted (Pz f ops[i]) (Go.yielded ops' a.tmps)=Region.wanted ops[i] (Go.yielded ops a.tmps):=by
  unfold Region.wanted;show (match ops[i].guard.map (λg=>(f g.1,g.2)) with | none=>true | some (j,want)=>Go.yielded ops' a.tmps j==some want)=_
  cases ops[i].guard with
  | none=>rfl
  | some g=>
   obtain ⟨j,x⟩:=g;simp only [Option.map_some,p.yielded]
 rw [hw] at h;simp only [cX,Th] at h;exact h
theorem Perm.any (p:Perm ops s f ops') (hE:FB ops=true):∀ (fuel:Nat) (L L':Array Bool) (a:Act) (w:World),L.size=ops.size->L'.size=ops.size->(∀ i,i<ops.size->L'.getD (f i) true=L.getD i true) ->
    wpAny P .any ops' Q fuel L' a w->wpAny P .any ops Q fuel L a w:=by
 have hdir:∀ i (hi:i<ops.size),∀ e∈ops[i].after,Region.binds .any e=true->e.on<ops.size:=λi hi e he hb=>by
  simp only [FB,List.all_eq_true] at hE;have:=hE i (by simpa using hi);simp only [Array.getElem?_eq_getElem hi,List.all_eq_true] at this;have:=this e (by simpa using he);simp only [hb,Bool.not_true,Bool.false_or,decide_eq_true_eq] at this;omega
 have ready:∀ (L L':Array Bool),L.size=ops.size->L'.size=ops.size->(∀ i,i<ops.size->L'.getD (f i) true=L.getD i true)->∀ i,i<ops.size->(i∈Region.ready .any ops L↔f i∈Region.ready .any ops' L'):=by
  intro L L' h1 h2 hL i hi;simp only [Region.ready,List.mem_filter,List.mem_range,p.size,hi,p.lt i hi,true_and,Bool.and_eq_true,Bool.not_eq_true',hL i hi];rw [p.get i hi,Array.getElem?_eq_getElem hi];simp only [Option.map_some,Option.getD_some];refine and_congr Iff.rfl ?_;show _↔(ops[i].after.map λe=>{ e with on:=f e.on }).all _=true;rw [Array.all_map];rw [Array.all_eq_true',Array.all_eq_true'];refine forall_congr' λe=>imp_congr_right λhe=>?_;have hbb:Region.binds .any { e with on:=f e.on }=Region.binds .any e:=rfl;simp only [Function.comp,hbb]
  cases hb:Region.binds .any e with
  | false=>simp
  | true=>
   have hon:=hdir i hi e he hb;have e1:L.getD e.on false=L.getD e.on true:=by
    rw [Array.getD_eq_getD_getElem?,Array.getD_eq_getD_getElem?,Array.getElem?_eq_getElem om];rfl
   have e2:L'.getD (f e.on) false=L'.getD (f e.on) true:=by
    rw [Array.getD_eq_getD_getElem?,Array.getD_eq_getD_getElem?,Array.getElem?_eq_getElem (by have:=p.lt _ hon;omega)];rfl
   rw [e1,e2,hL _ hon]
 have rlt:∀ (o:Array Oper) (L:Array Bool) i,i∈Region.ready .any o L->i<o.size:=λo L i hi=>by
  simp only [Region.ready,List.mem_filter,List.mem_range] at hi;exact hi.1
 have rnil:∀ (L L':Array Bool),L.size=ops.size->L'.size=ops.size->(∀ i,i<ops.size->L'.getD (f i) true=L.getD i true)->(Region.ready .any ops L=[]↔Region.ready .any ops' L'=[]):=by
  intro L L' h1 h2 hL;rw [List.eq_nil_iff_forall_not_mem,List.eq_nil_iff_forall_not_mem];constructor
  .intro h j hj;have hjl:=rlt _ _ _ hj;rw [p.size] at hjl;obtain ⟨i,hi,rfl⟩:=p.sur j hjl;exact h i ((ready L L' h1 h2 hL i hi).2 hj)
  .intro h i hi;exact h (f i) ((ready L L' h1 h2 hL i (rlt _ _ _ hi)).1 hi)
 intro fuel
 induction fuel with
 | zero=>
  intro L L' a w h1 h2 hL h;exact ⟨(rnil L L' h1 h2 hL).2 h.1,h.2⟩
 | succ fuel ih=>
  intro L L' a w h1 h2 hL h;refine ⟨λh0=>h.1 ((rnil L L' h1 h2 hL).1 h0),λi hi=>?_⟩;have hil:=rlt _ _ _ hi;refine p.wpOp hil (wpOp_mono (λa w hw=>?_) (h.2 (f i) ((ready L L' h1 h2 hL i hil).1 hi)));refine ih _ _ a w (by simpa using h1) (by simpa using h2) (λj hj=>?_) hw
  by_cases hij:i=j
  .subst hij;rw [Array.getD_eq_getD_getElem?,Array.getD_eq_getD_getElem?];simp [Array.getElem?_setIfInBounds_self_of_lt,h1,h2,hil,p.lt i hil]
  .have hne:f i≠f j:=λhh=>hij (p.inj i j hil hj hh);rw [Array.getD_eq_getD_getElem?,Array.getD_eq_getD_getElem?,Array.getElem?_setIfInBounds_ne hne,Array.getElem?_setIfInBounds_ne hij,<-Array.getD_eq_getD_getElem?,<-Array.getD_eq_getD_getElem?];exact hL j hj
end
end Go.Ab
/- The abstract heap goes on steadily: what is let go stays so, elements keep their size. -/
namespace Go.Ab
open Go
def AE (h h':AH):Prop:=h'.lim=h.lim/\h.next<=h'.next/\∀ id k',id<h.next->h'.get id=some k'->∃ k,h.get id=some k/\k.sz=k'.sz
theorem AE.refl (h:AH):AE h h:=⟨rfl,Nat.le_refl _,λid k' _ hg=>⟨k',hg,rfl⟩⟩
theorem AE.trans {a b c:AH} (x:AE a b) (y:AE b c):AE a c:=
 ⟨y.1.trans x.1,Nat.le_trans x.2.1 y.2.1,λid k' hi hg=>by
  obtain ⟨k1,h1,e1⟩:=y.2.2 id k' (Nat.lt_of_lt_of_le hi x.2.1) hg;obtain ⟨k2,h2,e2⟩:=x.2.2 id k1 hi h1;exact ⟨k2,h2,e2.trans e1⟩⟩
theorem AE.alloc (h:AH) (k:BJ):AE h (h.alloc k):=
 ⟨rfl,Nat.le_succ _,λid k' hi hg=>by
  have:id≠h.next:=by omega
  exact ⟨k',by simpa [AH.alloc,this] using hg,rfl⟩⟩
theorem AE.put (h:AH) (id:Nat) (k:BJ) (cs:List (List V)) (hk:h.get id=some k):AE h (h.put id ⟨k.sz,cs⟩):=
 ⟨rfl,Nat.le_refl _,λj k' hi hg=>by
  by_cases e:j=id
  .subst e;have:k'=⟨k.sz,cs⟩:=by simpa [AH.put] using hg.symm
   exact ⟨k,hk,by rw [this]⟩
  .exact ⟨k',by simpa [AH.put,e] using hg,rfl⟩⟩
theorem AE.kill (h:AH) (id:Nat):AE h (h.kill id):=
 ⟨rfl,Nat.le_refl _,λj k' hi hg=>by
  by_cases e:j=id
  .subst e;simp [AH.kill] at hg
  .exact ⟨k',by simpa [AH.kill,e] using hg,rfl⟩⟩
theorem RE {sz:Nat} {h h':AH} {x y v:V} (ha:Vo sz h x y=some (v,h')):AE h h':=by
 simp only [Vo,Option.bind_eq_some_iff] at ha;obtain ⟨new,_,ha⟩:=ha;split at ha
 .split at ha
  .simp at ha;rw [<- ha.2];exact AE.refl h
  .split at ha
   .simp at ha;rw [<- ha.2];exact AE.alloc h _
   .simp at ha
 .split at ha
  .simp at ha;rw [<- ha.2];exact AE.refl h
  .split at ha
   .simp at ha;rw [<- ha.2];exact AE.alloc h _
   .simp at ha
 .split at ha
  .rename_i k hk;split at ha
   .rename_i hc;split at ha
    .split at ha
     .simp at ha;rw [<- ha.2,<-hc.1];exact AE.put h _ k _ hk
     .simp at ha
    .simp at ha;rw [<- ha.2];exact (AE.kill h _).trans (AE.alloc _ _)
   .simp at ha
  .simp at ha
 .simp at ha
theorem Em {α:Type} {x:Option α} {f:α->V} {h h':AH} {v:V} (e:(x.map λa=>(f a,h))=some (v,h')):h'=h:=by
 simp only [Option.map_eq_some_iff,Prod.mk.injEq] at e;obtain ⟨_,_,_,e⟩:=e;exact e.symm
theorem GH {tp:TP} {o:O} {ev:X->V} {h h':AH} {v:V} (hp:AS o=true) (hd:Ag tp o ev h=some (v,h')):h'=h:=by
 cases o<;>simp only [AS,Bool.false_eq_true] at hp<;>simp only [Ag] at hd
 all_goals (try exact Em hd)
 all_goals (try (simp only [Option.some.injEq,Prod.mk.injEq] at hd;exact hd.2.symm))
 case fload=>
  split at hd
  .simp only [Option.bind_eq_some_iff] at hd;obtain ⟨_,_,_,_,hd⟩:=hd;exact Em hd
  .simp at hd
 all_goals (repeat' split at hd)
 all_goals (try (simp only [Option.some.injEq,Prod.mk.injEq] at hd;exact hd.2.symm))
 all_goals (try exact Em hd)
 all_goals (try (simp at hd;done))
 all_goals (simp only [Option.bind_eq_some_iff] at hd;obtain ⟨_,_,hd⟩:=hd;exact Em hd)
theorem Mw {tp:TP} {o:O} {ev:X->V} {h h':AH} {v:V} (hd:Ag tp o ev h=some (v,h')):AE h h':=by
 by_cases hp:AS o=true
 .rw [GH hp hd];exact AE.refl h
 .cases o<;>simp only [AS,not_true_eq_false] at hp<;>simp only [Ag] at hd
  case alloc=>simp at hd;rw [<- hd.2];exact AE.alloc h _
  case box=>
   split at hd
   .simp at hd;rw [<- hd.2];exact AE.alloc h _
   .simp at hd
  case bsl=>
   simp only [Option.map_eq_some_iff,Prod.mk.injEq] at hd;obtain ⟨_,_,_,e⟩:=hd;rw [<- e];exact AE.alloc h _
  case alc=>simp at hd;rw [<- hd.2];exact AE.alloc h _
  case chka=>
   split at hd
   .simp only [Option.bind_eq_some_iff] at hd;obtain ⟨_,_,hd⟩:=hd;split at hd
    .simp at hd;rw [<- hd.2];exact AE.refl h
    .simp at hd
   .simp at hd
  case bslc=>
   simp only [Option.map_eq_some_iff,Prod.mk.injEq] at hd;obtain ⟨_,_,_,e⟩:=hd;rw [<- e];exact AE.alloc h _
  case chkb=>
   split at hd
   .simp only [Option.bind_eq_some_iff] at hd;obtain ⟨_,_,_,_,hd⟩:=hd;split at hd
    .simp at hd;rw [<- hd.2];exact AE.refl h
    .simp at hd
   .simp at hd
  case load=>
   split at hd
   .simp only [Option.bind_eq_some_iff] at hd;obtain ⟨_,_,_,_,hd⟩:=hd;rw [Em hd];exact AE.refl h
   .simp at hd
  case chk=>
   split at hd
   .simp only [Option.bind_eq_some_iff] at hd;obtain ⟨_,_,_,_,_,_,hd⟩:=hd;split at hd
    .simp at hd;rw [<- hd.2];exact AE.refl h
    .simp at hd
   .simp at hd
  case store=>
   split at hd
   .split at hd
    .simp only [Option.bind_eq_some_iff] at hd;obtain ⟨k,hk,_,_,hd⟩:=hd;split at hd
     .simp at hd;rw [<- hd.2];exact AE.put h _ k _ hk
     .simp at hd
    .simp at hd
   .simp at hd
  case mark=>
   split at hd
   .split at hd
    .simp at hd;rw [<- hd.2];exact AE.refl h
    .simp at hd
   .simp at hd
  case s2b=>
   split at hd
   .simp at hd;rw [<- hd.2];exact AE.alloc h _
   .simp at hd
  case b2s=>
   split at hd
   .simp at hd
   .simp only [Option.bind_eq_some_iff] at hd;obtain ⟨_,_,hd⟩:=hd;rw [Em hd];exact AE.refl h
  case mksl=>
   split at hd
   .split at hd
    .simp at hd;rw [<- hd.2];exact AE.alloc h _
    .simp at hd
   .simp at hd
  case appz=>
   split at hd
   .split at hd
    .simp at hd;rw [<- hd.2];exact AE.alloc h _
    .simp at hd
   .simp at hd
  case slice=>
   split at hd
   .split at hd
    .simp only [Option.bind_eq_some_iff] at hd;obtain ⟨_,_,_,_,hd⟩:=hd;rw [Em hd];exact AE.refl h
    .simp at hd
   .split at hd
    .simp only [Option.bind_eq_some_iff] at hd;obtain ⟨_,_,_,_,hd⟩:=hd;rw [Em hd];exact AE.refl h
    .simp at hd
   .simp only [Option.bind_eq_some_iff] at hd;obtain ⟨_,_,hd⟩:=hd;split at hd
    .simp only [Option.bind_eq_some_iff] at hd;obtain ⟨_,_,_,_,hd⟩:=hd;rw [Em hd];exact AE.refl h
    .simp at hd
   .simp at hd
  case app=>exact RE hd
  all_goals simp at hd
def CZ (C:A4):Prop:=∀ f args h v h',C f args h=some (v,h')->AE h h'
theorem EY {tp:TP} {C:A4} (hC:CZ C) {o:O} {ev:X->V} {h h':AH} {v:V} (hd:A3 tp C o ev h=some (v,h')):AE h h':=by
 unfold A3 at hd;split at hd
 .simp only [Option.bind_eq_some_iff] at hd;obtain ⟨c,_,hd⟩:=hd;exact hC _ _ _ _ _ hd
 .simp only [Option.bind_eq_some_iff] at hd;obtain ⟨c,_,hd⟩:=hd;exact hC _ _ _ _ _ hd
 .exact Mw hd
theorem EJ {tp:TP} {C:A4} (hC:CZ C):∀ (l:List TO) (e:Env) (h:AH) (z:Env×AH),Cg tp C l e h=some z->AE h z.2
 | [],e,h,z,he=>by simp [Cg] at he;subst he;exact AE.refl h
 | o::l,e,h,z,he=>by
  simp only [Cg] at he;split at he
  .simp only [Option.bind_eq_some_iff] at he;obtain ⟨q,hq,he⟩:=he;exact (EY hC hq).trans (EJ hC l _ _ z he)
  .exact EJ hC l _ _ z he
  .simp at he
theorem Ds {tp:TP} {C:A4} (hC:CZ C):∀ (l:List TO) (e:Env) (h:AH) (z:Env×AH),Bf tp C l e h=some z->AE h z.2
 | [],e,h,z,he=>by simp [Bf] at he;subst he;exact AE.refl h
 | o::l,e,h,z,he=>by
  simp only [Bf] at he;split at he
  .split at he
   .split at he
    .simp only [Option.bind_eq_some_iff] at he;obtain ⟨q,hq,he⟩:=he;exact (Mw hq).trans (Ds hC l _ _ z he)
    .simp at he
   .simp only [Option.bind_eq_some_iff] at he;obtain ⟨q,hq,he⟩:=he;have h1:=EY hC hq;exact AE.trans (b:=q.2.back h.lim) ⟨rfl,h1.2.1,h1.2.2⟩ (Ds hC l _ _ z he)
  .exact Ds hC l _ _ z he
  .simp at he
theorem Gg {tp:TP} {C:A4} (hC:CZ C):∀ (l:List (Bool×List TO)) (e:Env) (h:AH) (z:Env×AH),B5 tp C l e h=some z->AE h z.2
 | [],e,h,z,he=>by simp [B5] at he;subst he;exact AE.refl h
 | (q,l)::r,e,h,z,he=>by
  simp only [B5,Option.bind_eq_some_iff] at he;obtain ⟨y,hy,he⟩:=he;split at hy
  .exact (Ds hC l e h y hy).trans (Gg hC r _ _ z he)
  .exact (EJ hC l e h y hy).trans (Gg hC r _ _ z he)
theorem Jg {f:Env->AH->Out} (hf:∀ e h z,f e h=some z->AE h z.2.2):∀ (n:Nat) (e:Env) (h:AH) (z:Ex×Env×AH),He f n e h=some z->AE h z.2.2
 | 0,e,h,z,he=>by simp [He] at he
 | n+1,e,h,z,he=>by
  simp only [He,Option.bind_eq_some_iff] at he;obtain ⟨y,hy,he⟩:=he;split at he
  .exact (hf e h y hy).trans (Jg hf n _ _ z he)
  .simp at he;subst he;exact hf e h y hy
theorem OM {tp:TP} {C:A4} (hC:CZ C) (n:Nat):∀ (c:TC) (e:Env) (h:AH) (z:Ex×Env×AH),Dl tp C n c e h=some z->AE h z.2.2:=by
 intro c
 induction c with
 | skip=>intro e h z he;simp [Dl] at he;subst he;exact AE.refl h
 | reg ops=>intro e h z he;simp only [Dl,Option.map_eq_some_iff] at he;obtain ⟨y,hy,rfl⟩:=he;exact EJ hC ops e h y hy
 | dreg segs=>intro e h z he;simp only [Dl,Option.map_eq_some_iff] at he;obtain ⟨y,hy,rfl⟩:=he;exact Gg hC segs e h y hy
 | seq a b iha ihb=>
  intro e h z he;simp only [Dl,Option.bind_eq_some_iff] at he;obtain ⟨y,hy,he⟩:=he;split at he
  .exact (iha e h y hy).trans (ihb _ _ z he)
  .simp at he;subst he;exact iha e h y hy
 | cond c a b iha ihb=>
  intro e h z he;simp only [Dl] at he;split at he
  .exact iha e h z he
  .exact ihb e h z he
  .simp at he
 | block id c ih=>intro e h z he;simp only [Dl,Option.map_eq_some_iff] at he;obtain ⟨y,hy,rfl⟩:=he;exact ih e h y hy
 | loop c ih=>intro e h z he;simp only [Dl] at he;exact Jg ih n e h z he
 | exit id=>intro e h z he;simp [Dl] at he;subst he;exact AE.refl h
 | ret=>intro e h z he;simp [Dl] at he;subst he;exact AE.refl h
theorem Mz (tp:TP):∀ k,CZ (ev tp k):=by
 intro k
 induction k with
 | zero=>intro f args h v h' he;simp [ev] at he
 | succ k ih=>
  intro f args h v h' he;simp only [ev,Option.bind_eq_some_iff] at he;obtain ⟨tf,_,he⟩:=he;split at he
  case isFalse=>simp at he
  simp only [Option.bind_eq_some_iff] at he;obtain ⟨z,hz,he⟩:=he;have:=OM ih k tf.body _ h z hz;split at he
  .simp at he
  .simp only [Option.map_eq_some_iff,Prod.mk.injEq] at he;obtain ⟨_,_,_,e⟩:=he;rw [<- e];exact this
end Go.Ab
/- The abstract machine and the model's machine side by side: when a value, a frame, a heap of the one is that of the other; how this goes on through new blocks, stores and calls. -/
namespace Go.Ab
open Go Go.RowKit
structure MI where
 b:Nat
 o:Nat
 n:Nat
 sz:Nat
 own:Bool
abbrev Mp:=Nat->Option MI
abbrev AH.live (h:AH) (id:Nat):Prop:=h.get id≠none
mutual
inductive VR (M:Mp) (h:AH):V->Value->Prop where
 | u (x:Value):VR M h .u x
 | b (x:Bool):VR M h (.b x) (.bool x)
 | i (k:IntKind) (n:Int):VR M h (.i k n) (.int k n)
 | s (x:ByteArray):VR M h (.s x) (.string x)
 | np:VR M h .np (.pointer none)
 | p (id el off:Nat) (a:Addr):id<h.next->(h.live id->∃ m,M id=some m/\a=⟨m.b,m.o+el*m.sz+off,none⟩)->VR M h (.p id el off) (.pointer (some a))
 | ns:VR M h .ns (.slice none 0 0)
 | e0 (a:Addr):VR M h .e0 (.slice (some a) 0 0)
 | sl (id el len cap:Nat) (a:Addr) (rc:Nat):id<h.next->len<=rc ->
     (h.live id->∃ m,M id=some m/\(0<rc->a=⟨m.b,m.o+el*m.sz,none⟩)/\cap<=rc/\(m.own=true->m.o+el*m.sz+rc*m.sz<=m.n)) ->
     VR M h (.sl id el len cap) (.slice (some a) len rc)
 | nf:VR M h .nf .nilFunc
 | f (fn:Fn) (a c:List V) (a' c':Array Value):Br M h a a'.toList->Br M h c c'.toList->VR M h (.f fn a c) (.func fn a' c')
 | ni:VR M h .ni .nilIface
 | ifc (t:Nat) (v:V) (x:Value):VR M h v x->VR M h (.ifc t v) (.iface t x)
 | agg (l:List V) (l':Array Value):Br M h l l'.toList->VR M h (.agg l) (.agg l')
 | tup (l:List V) (l':Array Value):Br M h l l'.toList->VR M h (.tup l) (.tuple l')
inductive Br (M:Mp) (h:AH):List V->List Value->Prop where
 | nil:Br M h [] []
 | cons (v:V) (x:Value) (l:List V) (l':List Value):VR M h v x->Br M h l l'->Br M h (v::l) (x::l')
end
theorem Br.length {M:Mp} {h:AH}:∀ {l:List V} {l':List Value},Br M h l l'->l.length=l'.length
 | _,_,.nil=>rfl
 | _,_,.cons _ _ _ _ _ r=>by simp [Br.length r]
theorem Br.get {M:Mp} {h:AH}:∀ {l:List V} {l':List Value},Br M h l l'->∀ (j:Nat) (v:V),l[j]?=some v->∃ x,l'[j]?=some x/\VR M h v x
 | _,_,.nil,j,v,e=>by simp at e
 | _,_,.cons v x l l' a r,0,w,e=>by
  simp at e;subst e;exact ⟨x,rfl,a⟩
 | _,_,.cons v x l l' a r,j+1,w,e=>by
  simp at e;simpa using Br.get r j w e
theorem Br.of_get {M:Mp} {h:AH}:∀ {l:List V} {l':List Value},l.length=l'.length->(∀ (j:Nat) (v:V) (x:Value),l[j]?=some v->l'[j]?=some x->VR M h v x)->Br M h l l'
 | [],[],_,_=>.nil
 | [],_::_,e,_=>by simp at e
 | _::_,[],e,_=>by simp at e
 | v::l,x::l',e,g=>.cons _ _ _ _ (g 0 v x rfl rfl) (Br.of_get (by simpa using e) (λj v x a b=>g (j+1) v x (by simpa using a) (by simpa using b)))
theorem Br.append {M:Mp} {h:AH}:∀ {a b:List V} {a' b':List Value},Br M h a a'->Br M h b b'->Br M h (a++b) (a'++b')
 | _,_,_,_,.nil,r=>r
 | _,_,_,_,.cons v x l l' p q,r=>.cons v x _ _ p (Br.append q r)
theorem Br.drop {M:Mp} {h:AH}:∀ {l:List V} {l':List Value} (n:Nat),Br M h l l'->Br M h (l.drop n) (l'.drop n)
 | _,_,0,r=>by simpa using r
 | _,_,_+1,.nil=>by simpa using .nil
 | _,_,n+1,.cons v x l l' p q=>by simpa using Br.drop n q
theorem Br.take {M:Mp} {h:AH}:∀ {l:List V} {l':List Value} (n:Nat),Br M h l l'->Br M h (l.take n) (l'.take n)
 | _,_,0,r=>by simpa using .nil
 | _,_,_+1,.nil=>by simpa using .nil
 | _,_,n+1,.cons v x l l' p q=>by simpa using .cons v x _ _ p (Br.take n q)
structure BD (M M':Mp) (h h':AH):Prop where
 next:h.next<=h'.next
 live:∀ id,id<h.next->h'.live id->h.live id
 map:∀ id,id<h.next->h'.live id->M' id=M id
theorem BD.refl (M:Mp) (h:AH):BD M M h h:=⟨Nat.le_refl _,λ_ _ r=>r,λ_ _ _=>rfl⟩
theorem BD.trans {M M' M'':Mp} {h h' h'':AH} (a:BD M M' h h') (b:BD M' M'' h' h''):BD M M'' h h'':=
 ⟨Nat.le_trans a.next b.next,λid hi hl=>a.live id hi (b.live id (Nat.lt_of_lt_of_le hi a.next) hl),
  λid hi hl=>(b.map id (Nat.lt_of_lt_of_le hi a.next) hl).trans (a.map id hi (b.live id (Nat.lt_of_lt_of_le hi a.next) hl))⟩
mutual
theorem VR.keep {M M':Mp} {h h':AH} (k:BD M M' h h'):∀ {v:V} {x:Value},VR M h v x->VR M' h' v x
 | _,_,.u x=>.u x
 | _,_,.b x=>.b x
 | _,_,.i a n=>.i a n
 | _,_,.s x=>.s x
 | _,_,.np=>.np
 | _,_,.p id el off a hi hm=>.p id el off a (Nat.lt_of_lt_of_le hi k.next) (λhl=>by rw [k.map id hi hl];exact hm (k.live id hi hl))
 | _,_,.ns=>.ns
 | _,_,.e0 a=>.e0 a
 | _,_,.sl id el len cap a rc hi hlen hm=>.sl id el len cap a rc (Nat.lt_of_lt_of_le hi k.next) hlen (λhl=>by rw [k.map id hi hl];exact hm (k.live id hi hl))
 | _,_,.nf=>.nf
 | _,_,.f fn a c a' c' p q=>.f fn a c a' c' (Br.keep k p) (Br.keep k q)
 | _,_,.ni=>.ni
 | _,_,.ifc t v x p=>.ifc t v x (VR.keep k p)
 | _,_,.agg l l' p=>.agg l l' (Br.keep k p)
 | _,_,.tup l l' p=>.tup l l' (Br.keep k p)
theorem Br.keep {M M':Mp} {h h':AH} (k:BD M M' h h'):∀ {l:List V} {l':List Value},Br M h l l'->Br M' h' l l'
 | _,_,.nil=>.nil
 | _,_,.cons v x l l' p q=>.cons v x l l' (VR.keep k p) (Br.keep k q)
end
def Df (M:Mp) (h:AH) (w:World) (m:MI) (k:BJ):Prop:=
 m.sz=k.sz/\∀ (el:Nat) (r:List V),k.cs[el]?=some r->r.length=k.sz/\∀ (j:Nat) (v:V),r[j]?=some v->v.isCell=true/\∃ x,w.cell? ⟨m.b,m.o+el*m.sz+j,none⟩=some x/\VR M h v x
def M6 (fr:Nat×Nat) (n:Nat):Prop:=fr.1=fr.2\/n<=fr.1
theorem M6.none (n:Nat):M6 (0,0) n:=.inl rfl
theorem M6.at {fr:Nat×Nat} {n:Nat} (h:M6 fr n) (i:Nat) (hi:i<n):¬ (fr.1<=i/\i<fr.2):=by
 rcases h with h | h<;>omega
structure De (M:Mp) (B:Nat) (w:World) (h:AH):Prop where
 cells:∀ id k m,h.get id=some k->M id=some m->m.b<w.heap.size/\Df M h w m k
 own:∀ id m,h.live id->M id=some m->m.own=true->∃ arr e fr,w.heap[m.b]?=some (.cells arr e fr)/\arr.size=m.n/\M6 fr m.n
 from_:∀ id m,h.live id->M id=some m->h.lim<=id->m.own=true/\B<=m.b
 apart:∀ id id' m m',h.live id->h.live id'->M id=some m->M id'=some m'->id≠id'->m.own=true->m.b≠m'.b
 fresh:∀ id,h.live id->id<h.next
 lim:h.lim<=h.next
 size:B<=w.heap.size
def Full (_:Mp) (_:AH):Prop:=True
structure Goes (M M':Mp) (h h':AH):Prop where
 keeps:BD M M' h h'
 lim:h'.lim=h.lim
 low:∀ id,id<h.lim->h'.get id=h.get id
theorem Goes.refl (M:Mp) (h:AH):Goes M M h h:=⟨BD.refl M h,rfl,λ_ _=>rfl⟩
theorem Goes.trans {M M' M'':Mp} {h h' h'':AH} (a:Goes M M' h h') (b:Goes M' M'' h' h''):Goes M M'' h h'':=
 ⟨a.keeps.trans b.keeps,b.lim.trans a.lim,λid hi=>(b.low id (by rw [a.lim];exact hi)).trans (a.low id hi)⟩
structure DE (M:Mp) (B:Nat) (w:World) (h:AH) (v:V) (h':AH) (x:Value) (w':World) (M':Mp):Prop where
 val:VR M' h' v x
 sim:De M' B w' h'
 full:Full M' h'
 goes:Goes M M' h h'
 below:Below B w w'
def EA (M:Mp) (h:AH) (e:Env) (a:Act):Prop:=∀ t,VR M h (e t) (a.tmps.getD t undef)
theorem EA.keep {M M':Mp} {h h':AH} {e:Env} {a:Act} (k:BD M M' h h') (r:EA M h e a):EA M' h' e a:=λt=>(r t).keep k
theorem EA.set {M:Mp} {h:AH} {e:Env} {a:Act} {d:Option Nat} {v:V} {x:Value} (r:EA M h e a) (hd:∀ t,d=some t->t<a.tmps.size) (hv:VR M h v x):EA M h (e.set d v) (a.put d x):=by
 intro t
 cases d with
 | none=>exact r t
 | some d=>
  have hd:=hd d rfl
  by_cases ht:t=d
  .subst ht;simp [Env.set,Act.put,Array.getD_eq_getD_getElem?,hd,hv]
  .have:=r t;simp only [Env.set,ht,if_false,Act.put];rw [Array.getD_eq_getD_getElem?,Array.getElem?_setIfInBounds_ne om,<-Array.getD_eq_getD_getElem?];exact this
theorem U7 {M:Mp} {h:AH} {x:Value} {v:V} (e:Ra x=some v):VR M h v x:=by
 unfold Ra at e;split at e<;>simp at e<;>subst e<;>constructor
theorem MG {M:Mp} {h:AH}:∀ {l:List Value} {r:List V},l.mapM Ra=some r->Br M h r l
 | [],r,e=>by simp at e;subst e;exact .nil
 | x::l,r,e=>by
  simp [List.mapM_cons,Option.bind_eq_some_iff] at e;obtain ⟨v,hv,r',hr,rfl⟩:=e;exact .cons _ _ _ _ (U7 hv) (MG hr)
theorem Om {M:Mp} {h:AH} {x:Value} {v:V} (e:zJ x=some v):VR M h v x:=by
 unfold zJ at e;split at e
 .simp [Option.map_eq_some_iff] at e;obtain ⟨l,hl,rfl⟩:=e;exact .agg _ _ (MG hl)
 .exact U7 e
theorem Aw {M:Mp} {h:AH} {e:Env} {a:Act} (r:EA M h e a) {o:Operand} {x:X} (hc:AX o=some x):VR M h (X.ev e x) (a.eval o):=by
 cases o with
 | tmp t=>simp [AX] at hc;subst hc;exact r t
 | const v=>
  simp [AX,Option.map_eq_some_iff] at hc;obtain ⟨u,hu,rfl⟩:=hc;exact Om hu
 | func f=>simp [AX] at hc;subst hc;exact .f _ _ _ _ _ .nil .nil
 | global g=>simp [AX] at hc
theorem DK {M:Mp} {h:AH} {e:Env} {a:Act} (r:EA M h e a):∀ {l:List Operand} {xs:List X},EE l=some xs->Br M h (xs.map (X.ev e)) (l.map a.eval)
 | [],xs,hc=>by simp [EE] at hc;subst hc;exact .nil
 | o::l,xs,hc=>by
  simp [EE,List.mapM_cons,Option.bind_eq_some_iff] at hc;obtain ⟨x,hx,xs',hxs,rfl⟩:=hc;exact .cons _ _ _ _ (Aw r hx) (DK r hxs)
end Go.Ab
/- The two heaps go on together: a new block, a block that is written, a block that is let go. -/
namespace Go.Ab
open Go Go.RowKit
def Mp.set (M:Mp) (id:Nat) (m:MI):Mp:=λi=>if i=id then some m else M i
theorem HE {w w':World} {a:Addr} (h:w'.heap[a.block]?=w.heap[a.block]?):w'.cell? a=w.cell? a:=by simp [World.cell?,h]
theorem Df.keep {M M':Mp} {h h':AH} {w w':World} {m:MI} {k:BJ} (kp:BD M M' h h') (hw:w'.heap[m.b]?=w.heap[m.b]?) (c:Df M h w m k):Df M' h' w' m k:=by
 refine ⟨c.1,λel r hr=>⟨(c.2 el r hr).1,λj v hv=>?_⟩⟩;obtain ⟨h1,x,hx,hv'⟩:=(c.2 el r hr).2 j v hv;exact ⟨h1,x,(HE (a:=⟨m.b,_,none⟩) hw).trans hx,hv'.keep kp⟩
theorem BD.alloc (M:Mp) (h:AH) (k:BJ) (m:MI):BD M (M.set h.next m) h (h.alloc k):=
 ⟨Nat.le_succ _,λid hi hl=>by
  have:id≠h.next:=by omega
  simpa [AH.live,AH.alloc,this] using hl,λid hi _=>by
  have:id≠h.next:=by omega
  simp [Mp.set,this]⟩
theorem De.add {M : Mp} {B : Nat} {w w' : World} {h : AH} (hs : De M B w h) (hf : Full M h) (k : BJ) (m : MI) (arr : Array Value) (e : TypeId) (fr : Nat × Nat)
    (hsize:w.heap.size<=w'.heap.size) (hold:∀ id m,h.live id->M id=some m->w'.heap[m.b]?=w.heap[m.b]?)
    (hB:B<=m.b) (hown:m.own=true) (hlt:m.b<w'.heap.size) (hne:∀ id m',h.live id->M id=some m'->m'.b≠m.b) (hblk:w'.heap[m.b]?=some (.cells arr e fr)) (hn:arr.size=m.n) (hfr:M6 fr m.n)
    (hc:Df M h w' m k) (hbw:Below B w w'):
    De (M.set h.next m) B w' (h.alloc k)/\Full (M.set h.next m) (h.alloc k)/\Goes M (M.set h.next m) h (h.alloc k):=by
 have kp:=BD.alloc M h k m;have hlive:∀ id,id≠h.next->((h.alloc k).live id↔h.live id):=λid hi=>by simp [AH.live,AH.alloc,hi]
 have hset:∀ id,id≠h.next->(M.set h.next m) id=M id:=λid hi=>by simp [Mp.set,hi]
 have hself:(M.set h.next m) h.next=some m:=by simp [Mp.set]
 refine ⟨⟨?_, ?_, ?_, ?_, ?_, ?_, ?_⟩, ?_,⟨kp,rfl, ?_⟩⟩
 .intro id k' m' hg hm
  by_cases hi:id=h.next
  .subst hi;rw [hself] at hm;obtain rfl:m=m':=by simpa using hm
   have:k=k':=by simpa [AH.alloc] using hg
   subst this;exact ⟨hlt,hc.keep kp rfl⟩
  .rw [hset id hi] at hm;have hg':h.get id=some k':=by simpa [AH.alloc,hi] using hg
   have hl:h.live id:=by simp [AH.live,hg']
   obtain ⟨h1,h2⟩:=hs.cells id k' m' hg' hm;exact ⟨Nat.lt_of_lt_of_le h1 hsize,h2.keep kp (hold id m' hl hm)⟩
 .intro id m' hl hm ho
  by_cases hi:id=h.next
  .subst hi;rw [hself] at hm;obtain rfl:m=m':=by simpa using hm
   exact ⟨arr,e,fr,hblk,hn,hfr⟩
  .rw [hset id hi] at hm;have hl':=(hlive id hi).1 hl;obtain ⟨arr',e',fr',h1,h2⟩:=hs.own id m' hl' hm ho;exact ⟨arr',e',fr',(hold id m' hl' hm).trans h1,h2⟩
 .intro id m' hl hm hlim
  by_cases hi:id=h.next
  .subst hi;rw [hself] at hm;obtain rfl:m=m':=by simpa using hm
   exact ⟨hown,hB⟩
  .rw [hset id hi] at hm;exact hs.from_ id m' ((hlive id hi).1 hl) hm hlim
 .intro id id' m1 m2 hl hl' hm hm' hid ho
  by_cases hi:id=h.next
  .by_cases hi':id'=h.next
   .omega
   .subst hi;rw [hself] at hm;obtain rfl:m=m1:=by simpa using hm
    rw [hset id' hi'] at hm';exact λhe=>hne id' m2 ((hlive id' hi').1 hl') hm' he.symm
  .by_cases hi':id'=h.next
   .subst hi';rw [hself] at hm';obtain rfl:m=m2:=by simpa using hm'
    rw [hset id hi] at hm;exact hne id m1 ((hlive id hi).1 hl) hm
   .rw [hset id hi] at hm;rw [hset id' hi'] at hm';exact hs.apart id id' m1 m2 ((hlive id hi).1 hl) ((hlive id' hi').1 hl') hm hm' hid ho
 .intro id hl
  by_cases hi:id=h.next
  .subst hi;exact Nat.lt_succ_self _
  .exact Nat.lt_succ_of_lt (hs.fresh id ((hlive id hi).1 hl))
 .exact Nat.le_trans hs.lim (Nat.le_succ _)
 .exact Nat.le_trans hs.size hsize
 .trivial
 .intro id hi;have:=hs.lim;have:id≠h.next:=by omega
  simp [AH.alloc,this]
theorem Jw (w:World) (o:Obj):(w.alloc o).heap[w.heap.size]?=some o:=by
 show (w.heap.push o)[w.heap.size]?=_;simp
theorem De.alloc {M : Mp} {B : Nat} {w : World} {h : AH} (hs : De M B w h) (hf : Full M h) (k : BJ) (arr : Array Value) (e : TypeId)
    (hc:∀ (el:Nat) (r:List V),k.cs[el]?=some r->r.length=k.sz/\∀ (j:Nat) (v:V),r[j]?=some v->v.isCell=true/\∃ x,arr[el*k.sz+j]?=some x/\VR M h v x):
    let m:MI:=⟨w.heap.size,0,arr.size,k.sz,true⟩
    De (M.set h.next m) B (w.alloc (.cells arr e)) (h.alloc k)/\Full (M.set h.next m) (h.alloc k)/\Goes M (M.set h.next m) h (h.alloc k)/\Below B w (w.alloc (.cells arr e)):=by
 intro m;have hnew:=Jw w (.cells arr e);have hbw:Below B w (w.alloc (.cells arr e)):=(Below.refl B w).alloc hs.size _;have:=De.add hs hf k m arr e (0,0) (w':=w.alloc (.cells arr e)) (by simp)
  (λid m' hl hm=>by
   obtain ⟨k',hk'⟩:=Option.ne_none_iff_exists'.1 hl;exact Below.heap_alloc w _ _ (hs.cells id k' m' hk' hm).1)
  hs.size rfl (by simp [m]) (λid m' hl hm=>by
   obtain ⟨k',hk'⟩:=Option.ne_none_iff_exists'.1 hl;have:=(hs.cells id k' m' hk' hm).1;simp only [m];omega) hnew rfl (M6.none _)
  ⟨rfl,λel r hr=>⟨(hc el r hr).1,λj v hv=>by
   obtain ⟨h1,x,hx,hv'⟩:=(hc el r hr).2 j v hv;refine ⟨h1,x, ?_,hv'⟩;simp only [m,Nat.zero_add,World.cell?,hnew];simpa using hx⟩⟩ hbw
 exact ⟨this.1,this.2.1,this.2.2,hbw⟩
theorem BD.put (M:Mp) (h:AH) (id:Nat) (k:BJ) (hl:h.live id):BD M M h (h.put id k):=
 ⟨Nat.le_refl _,λj _ hj=>by
  by_cases e:j=id
  .subst e;exact hl
  .simpa [AH.live,AH.put,e] using hj,λ_ _ _=>rfl⟩
theorem BD.kill (M:Mp) (h:AH) (id:Nat):BD M M h (h.kill id):=
 ⟨Nat.le_refl _,λj _ hj=>by
  by_cases e:j=id
  .subst e;simp [AH.live,AH.kill] at hj
  .simpa [AH.live,AH.kill,e] using hj,λ_ _ _=>rfl⟩
theorem De.kill {M : Mp} {B : Nat} {w : World} {h : AH} (hs : De M B w h) (hf : Full M h) (id : Nat) (hlim : h.lim <= id) :
    De M B w (h.kill id)/\Full M (h.kill id)/\Goes M M h (h.kill id):=by
 have kp:=BD.kill M h id;have hl:∀ j,(h.kill id).live j->h.live j/\j≠id:=λj hj=>by
  by_cases e:j=id
  .subst e;simp [AH.live,AH.kill] at hj
  .exact ⟨by simpa [AH.live,AH.kill,e] using hj,e⟩
 refine ⟨⟨?_, ?_, ?_, ?_, ?_, ?_, ?_⟩, ?_,kp,rfl, ?_⟩
 .intro j k m hg hm
  by_cases e:j=id
  .subst e;simp [AH.kill] at hg
  .obtain ⟨h1,h2⟩:=hs.cells j k m (by simpa [AH.kill,e] using hg) hm;exact ⟨h1,h2.keep kp rfl⟩
 .exact λj m hj hm=>hs.own j m (hl j hj).1 hm
 .exact λj m hj hm hlim=>hs.from_ j m (hl j hj).1 hm hlim
 .exact λj j' m m' hj hj'=>hs.apart j j' m m' (hl j hj).1 (hl j' hj').1
 .exact λj hj=>hs.fresh j (hl j hj).1
 .exact hs.lim
 .exact hs.size
 .trivial
 .intro j hj;have:j≠id:=by omega
  simp [AH.kill,this]
theorem De.rewrite {M : Mp} {B : Nat} {w w' : World} {h : AH} (hs : De M B w h) (hf : Full M h) (id : Nat) (m : MI) (k' : BJ) (hl : h.live id) (hlim : h.lim <= id) (hm : M id = some m)
    (hsize:w'.heap.size=w.heap.size) (hoth:∀ j,j≠m.b->w'.heap[j]?=w.heap[j]?) (arr:Array Value) (e:TypeId) (fr:Nat×Nat) (hblk:w'.heap[m.b]?=some (.cells arr e fr)) (hn:arr.size=m.n) (hfr:M6 fr m.n)
    (hc:Df M h w' m k'):De M B w' (h.put id k')/\Full M (h.put id k')/\Goes M M h (h.put id k'):=by
 have kp:=BD.put M h id k' hl;obtain ⟨hown,hB⟩:=hs.from_ id m hl hm hlim;have hlv:∀ j,(h.put id k').live j->h.live j:=λj hj=>by
  by_cases e:j=id
  .subst e;exact hl
  .simpa [AH.live,AH.put,e] using hj
 have hb:∀ j m',h.live j->M j=some m'->j≠id->w'.heap[m'.b]?=w.heap[m'.b]?:=λj m' hj hm' hne=>hoth _ (λhe=>hs.apart id j m m' hl hj hm hm' (Ne.symm hne) hown he.symm);refine ⟨⟨?_, ?_, ?_, ?_, ?_, ?_, ?_⟩, ?_,kp,rfl, ?_⟩
 .intro j k m' hg hm'
  by_cases e:j=id
  .subst e;obtain rfl:m=m':=by rw [hm] at hm';simpa using hm'
   have:k'=k:=by simpa [AH.put] using hg
   subst this;obtain ⟨k0,hk0⟩:=Option.ne_none_iff_exists'.1 hl;exact ⟨by rw [hsize];exact (hs.cells j k0 m hk0 hm).1,hc.keep kp rfl⟩
  .have hg':h.get j=some k:=by simpa [AH.put,e] using hg
   obtain ⟨h1,h2⟩:=hs.cells j k m' hg' hm';exact ⟨by rw [hsize];exact h1,h2.keep kp (hb j m' (by simp [AH.live,hg']) hm' e)⟩
 .intro j m' hj hm' ho
  by_cases e':j=id
  .subst e';obtain rfl:m=m':=by rw [hm] at hm';simpa using hm'
   exact ⟨arr,e,fr,hblk,hn,hfr⟩
  .obtain ⟨arr',e2,fr',h1,h2⟩:=hs.own j m' (hlv j hj) hm' ho;exact ⟨arr',e2,fr',(hb j m' (hlv j hj) hm' e').trans h1,h2⟩
 .exact λj m' hj hm' hlim=>hs.from_ j m' (hlv j hj) hm' hlim
 .exact λj j' m1 m2 hj hj'=>hs.apart j j' m1 m2 (hlv j hj) (hlv j' hj')
 .exact λj hj=>hs.fresh j (hlv j hj)
 .exact hs.lim
 .rw [hsize];exact hs.size
 .trivial
 .intro j hj;have:j≠id:=by omega
  simp [AH.put,this]
theorem De.heap {M:Mp} {B:Nat} {w w':World} {h:AH} (hs:De M B w h) (he:w'.heap=w.heap):De M B w' h:=by
 have hc:∀ a:Addr,w'.cell? a=w.cell? a:=λa=>by simp [World.cell?,he]
 refine ⟨λid k m hg hm=>?_,λid m hl hm ho=>?_,hs.from_,hs.apart,hs.fresh,hs.lim,by rw [he];exact hs.size⟩
 .obtain ⟨h1,h2⟩:=hs.cells id k m hg hm;exact ⟨by rw [he];exact h1,h2.keep (BD.refl M h) (by rw [he])⟩
 .rw [he];exact hs.own id m hl hm ho
theorem De.more {M:Mp} {B:Nat} {w:World} {h:AH} (hs:De M B w h) (o:Obj):De M B (w.alloc o) h:=by
 have hb:∀ b,b<w.heap.size->(w.alloc o).heap[b]?=w.heap[b]?:=λb hb=>Below.heap_alloc w o b hb;have hz:(w.alloc o).heap.size=w.heap.size+1:=by show (w.heap.push o).size=_;simp
 refine ⟨λid k m hg hm=>?_,λid m hl hm ho=>?_,hs.from_,hs.apart,hs.fresh,hs.lim,by rw [hz];exact Nat.le_succ_of_le hs.size⟩
 .obtain ⟨h1,h2⟩:=hs.cells id k m hg hm;exact ⟨by rw [hz];exact Nat.lt_succ_of_lt h1,h2.keep (BD.refl M h) (hb _ h1)⟩
 .obtain ⟨k,hk⟩:=Option.ne_none_iff_exists'.1 hl;rw [hb _ (hs.cells id k m hk hm).1];exact hs.own id m hl hm ho
theorem De.drew {M:Mp} {B:Nat} {w:World} {h:AH} (hs:De M B w h):De M B w.drew h:=hs.heap rfl
theorem DE.same {M:Mp} {B:Nat} {w:World} {h:AH} {v:V} {x:Value} (hs:De M B w h) (hf:Full M h) (hv:VR M h v x):DE M B w h v h x w M:=
 ⟨hv,hs,hf,Goes.refl M h,Below.refl B w⟩
/-! ### Rows of cells as the model has them -/
def flat (cs:List (List V)):List V:=cs.flatten
theorem BP {sz:Nat}:∀ {cs:List (List V)},(∀ r∈cs,r.length=sz)->(flat cs).length=cs.length*sz
 | [],_=>by simp [flat]
 | r::cs,h=>by
  have:=BP (cs:=cs) (λr hr=>h r (by simp [hr]));simp only [flat,List.flatten_cons,List.length_append,List.length_cons] at *;rw [this,h r (by simp),Nat.add_mul];omega
theorem D5 {sz:Nat}:∀ {cs:List (List V)},(∀ r∈cs,r.length=sz)->∀ (el j:Nat) (r:List V),cs[el]?=some r->j<sz->(flat cs)[el*sz+j]?=r[j]?
 | [],_,el,j,r,e,_=>by simp at e
 | r0::cs,h,0,j,r,e,hj=>by
  simp at e;subst e;have:r0.length=sz:=h r0 (by simp);simp [flat,List.getElem?_append,this,hj]
 | r0::cs,h,el+1,j,r,e,hj=>by
  have h0:r0.length=sz:=h r0 (by simp);have:=D5 (cs:=cs) (λr hr=>h r (by simp [hr])) el j r (by simpa using e) hj;have hlt:¬ (el+1)*sz+j<sz:=by rw [Nat.add_mul];omega
  simp only [flat,List.flatten_cons,List.getElem?_append,h0,hlt,if_false];have he:(el+1)*sz+j - sz=el*sz+j:=by rw [Nat.add_mul];omega
  rw [he];exact this
theorem Ki {sz:Nat} {cs:List (List V)} (h:∀ r∈cs,r.length=sz) (i:Nat) (v:V) (e:(flat cs)[i]?=some v):∃ r,cs[i / sz]?=some r/\r[i % sz]?=some v/\0<sz:=by
 have hlt:i<(flat cs).length:=(List.getElem?_eq_some_iff.1 e).1;rw [BP h] at hlt;have hpos:0<sz:=by
  rcases Nat.eq_zero_or_pos sz with h0 | h0
  .subst h0;simp at hlt
  .exact h0
 have hd:i / sz<cs.length:=(Nat.div_lt_iff_lt_mul hpos).2 hlt;have hm:i % sz<sz:=Nat.mod_lt _ hpos;refine ⟨cs[i / sz],by simp [hd], ?_,hpos⟩;have:=D5 h (i / sz) (i % sz) cs[i / sz] (by simp [hd]) hm;rw [<- this,<-e]
 congr 1
 rw [Nat.mul_comm];exact Nat.div_add_mod i sz
theorem XX {M:Mp} {h:AH} {l:List V} {xs:List Value} (hl:l.length=xs.length) (hg:∀ (j:Nat) (v:V),l[j]?=some v->∃ x,xs[j]?=some x/\VR M h v x):Br M h l xs:=
 Br.of_get hl (λj v x a b=>by
  obtain ⟨x',hx',hv⟩:=hg j v a;rw [b] at hx';obtain rfl:x=x':=by simpa using hx'
  exact hv)
theorem J3 {M : Mp} {h : AH} {w : World} (l : List V) (b o : Nat) (hg : ∀ (j : Nat) (v : V), l[j]? = some v -> ∃ x, w.cell? ⟨b, o + j, none⟩ = some x /\ VR M h v x) :
    ∃ xs:List Value,Br M h l xs/\∀ (j:Nat) (x:Value),xs[j]?=some x->w.cell? ((⟨b,o,none⟩:Addr).add j)=some x:=by
 induction l generalizing o with
 | nil=>exact ⟨[],.nil,λj x e=>by simp at e⟩
 | cons v l ih=>
  obtain ⟨x,hx,hv⟩:=hg 0 v rfl;obtain ⟨xs,hxs,hc⟩:=ih (o+1) (λj u hu=>by
   obtain ⟨y,hy,hyv⟩:=hg (j+1) u (by simpa using hu);exact ⟨y,by rw [show o+1+j=o+(j+1) by omega];exact hy,hyv⟩)
  refine ⟨x::xs,.cons _ _ _ _ hv hxs,λj y e=>?_⟩;have hadd:∀ n,(⟨b,o,none⟩:Addr).add n=⟨b,o+n,none⟩:=λn=>by unfold Addr.add;split<;>simp_all
  cases j with
  | zero=>simp at e;subst e;rw [hadd];simpa using hx
  | succ j=>
   have:=hc j y (by simpa using e);have hadd':(⟨b,o+1,none⟩:Addr).add j=⟨b,o+1+j,none⟩:=by unfold Addr.add;split<;>simp_all
   rw [hadd'] at this;rw [hadd,show o+(j+1)=o+1+j by omega];exact this
theorem S5 {M:Mp} {h:AH} {v:V} {x:Value} (hv:VR M h v x) (hc:v.isCell=true):x.oneCell'=true:=by
 cases hv<;>simp_all [V.isCell,Value.oneCell']
theorem Jj {M:Mp} {h:AH} {l:List V} {xs:List Value} (hv:Br M h l xs) (hc:l.all V.isCell=true):∀ x∈xs,x.oneCell'=true:=by
 intro x hx;obtain ⟨j,hj⟩:=List.getElem?_of_mem hx;have hlt:j<xs.length:=(List.getElem?_eq_some_iff.1 hj).1;have hl:=hv.length;obtain ⟨x',hx',hvx⟩:=hv.get j l[j] (by simp [hl,hlt]);rw [hj] at hx';obtain rfl:x=x':=by simpa using hx'
 exact S5 hvx (List.all_eq_true.1 hc _ (List.getElem_mem _))
theorem VR.cells {M:Mp} {h:AH} {v:V} {x:Value} (hv:VR M h v x) (hc:v.cells.all V.isCell=true):Br M h v.cells x.cells.toList:=by
 cases hv with
 | agg l l' p=>simpa [V.cells,Value.cells] using p
 | u x=>simp [V.cells,V.isCell] at hc
 | tup l l' p=>simp [V.cells,V.isCell] at hc
 | _=>exact .cons _ _ _ _ (by constructor<;>assumption) .nil
end Go.Ab
/- Each operation of the abstract machine is what the model's does: reading, reckoning. -/
namespace Go.Ab
open Go Go.RowKit
section
variable {P:Program}
theorem Bh {t:TypeId} {s:Nat} (h:CA P t=some s) (w:World):(sizeOf t).run P w=.ok s w:=by
 simp only [CA,Option.map_eq_some_iff] at h;obtain ⟨i,hi,rfl⟩:=h;simp [sizeOf,typeInfo,hi]
theorem GW {t:TypeId} {z:V} (h:I7 P t=some z) (w:World):∃ x,(zeroValue t).run P w=.ok x w/\zJ x=some z:=by
 simp only [I7,Option.bind_eq_some_iff] at h;obtain ⟨x,⟨i,hi,hx⟩,hz⟩:=h;exact ⟨x,by simp [zeroValue,typeInfo,hi,hx],hz⟩
theorem GL {t:TypeId} {g:Bool} (h:EU P t=some g) (w:World):(isAgg t).run P w=.ok g w:=by
 unfold EU at h
 cases hd:P.underlying t with
 | none=>simp [hd] at h
 | some d=>
  simp only [hd] at h;cases d<;>simp at h<;>subst h<;>simp [isAgg,run_underlying hd]
theorem MZ {x:Value} {v:V} (e:Ra x=some v):v.isCell=true/\v.cells=[v]:=by
 unfold Ra at e;split at e<;>simp at e<;>subst e<;>exact ⟨rfl,rfl⟩
theorem FV:∀ {l:List Value} {r:List V},l.mapM Ra=some r->r.all V.isCell=true
 | [],r,e=>by simp at e;subst e;rfl
 | x::l,r,e=>by
  simp [List.mapM_cons,Option.bind_eq_some_iff] at e;obtain ⟨v,hv,r',hr,rfl⟩:=e;simp [(MZ hv).1];simpa using FV hr
theorem Fs {x:Value} {v:V} (e:zJ x=some v):v.cells.all V.isCell=true:=by
 unfold zJ at e;split at e
 .simp [Option.map_eq_some_iff] at e;obtain ⟨l,hl,rfl⟩:=e;exact FV hl
 .obtain ⟨h1,h2⟩:=MZ e;rw [h2];simp [h1]
/-! ### Parts of rows -/
theorem Nn {M : Mp} {h : AH} {l : List V} {xs : Array Value} (hv : Br M h l xs.toList) {off n : Nat} {g : Bool} {v : V} (hc : HJ l off n g = some v) {t : TypeId} (hs : CA P t = some n) (hg : EU P t = some g) (w : World) :
    ∃ x,(part t xs off).run P w=.ok x w/\VR M h v x:=by
 unfold HJ at hc;have hlen:=hv.length;split at hc
 .rename_i hle
  cases g with
  | true=>
   simp at hc;subst hc;refine ⟨.agg (xs.extract off (off+n)),by simp [part,GL hg,Bh hs],.agg _ _ ?_⟩;have:=(hv.drop off).take n;rw [Array.toList_extract];simpa [List.extract_eq_take_drop,Nat.add_sub_cancel_left] using this
  | false=>
   simp at hc;obtain ⟨rfl,hc⟩:=hc;obtain ⟨x,hx,hvx⟩:=hv.get off v hc;refine ⟨x, ?_,hvx⟩;have:xs[off]?=some x:=by simpa using hx
   simp [part,GL hg,this]
 .simp at hc
theorem US {M : Mp} {B : Nat} {w : World} {h : AH} (hs : De M B w h) (hf : Full M h) {id el off n : Nat} {g : Bool} {k : BJ} {r : List V} {v : V} {a : Addr}
    (hp:VR M h (.p id el off) (.pointer (some a))) (hk:h.get id=some k) (hr:k.cs[el]?=some r) (hc:HJ r off n g=some v) {t:TypeId} (hsz:CA P t=some n) (hg:EU P t=some g):
    ∃ x,(loadVar t a).run P w=.ok x w/\VR M h v x:=by
 cases hp with
 | p _ _ _ _ hi hm=>
  obtain ⟨m,hM,rfl⟩:=hm (by simp [AH.live,hk]);obtain ⟨_,hms,hcs⟩:=hs.cells id k m hk hM;obtain ⟨hrl,hcell⟩:=hcs el r hr;unfold HJ at hc;split at hc
  .rename_i hle;obtain ⟨xs,hxs,hxc⟩:=J3 (M:=M) (h:=h) (w:=w) ((r.drop off).take n) m.b (m.o+el*m.sz+off) (λj u hu=>by
    have hj:j<n:=by
     have:=(List.getElem?_eq_some_iff.1 hu).1;simp at this;omega
    have hu':r[off+j]?=some u:=by
     rw [List.getElem?_take,if_pos hj,List.getElem?_drop] at hu;exact hu
    obtain ⟨_,x,hx,hvx⟩:=hcell (off+j) u hu';exact ⟨x,by rw [Nat.add_assoc];exact hx,hvx⟩)
   have hlen:xs.length=n:=by rw [<- hxs.length];simp;omega
   have hload:=run_loadCells_list (P:=P) w ⟨m.b,m.o+el*m.sz+off,none⟩ xs (λj x e=>hxc j x e);rw [hlen] at hload
   cases g with
   | true=>
    simp at hc;subst hc;exact ⟨.agg xs.toArray,by simp [loadVar,GL hg,Bh hsz,hload],.agg _ _ (by simpa using hxs)⟩
   | false=>
    simp at hc;obtain ⟨rfl,hc⟩:=hc;obtain ⟨_,x,hx,hvx⟩:=hcell off v hc;exact ⟨x,by simp [loadVar,GL hg,hx],hvx⟩
  .simp at hc
theorem toList_inj {a b:ByteArray} (h:a.toList=b.toList):a=b:=by
 rw [ByteArray.toList_eq,ByteArray.toList_eq] at h;obtain ⟨x⟩:=a;obtain ⟨y⟩:=b;simp only at h;rw [Array.toList_inj.1 h]
theorem Iu (a b:ByteArray):(a.toList==b.toList)=decide (a=b):=by
 by_cases h:a=b
 .subst h;simp
 .simp only [h,decide_false];apply Bool.eq_false_iff.2;intro e;exact h (toList_inj (by simpa using e))
theorem Vs {op : BinOp} {v u r : V} {x y : Value} {M : Mp} {h : AH} (hv : VR M h v x) (hu : VR M h u y) (hb : B1 op v u = some r) (t : TypeId) (w : World) (X Y : Operand) :
    ∃ z,((do eqGuard op t X Y x y;binOp op t x y:Sem Value).run P w=.ok z w)/\VR M h r z:=by
 cases hv with
 | i k a=>
  cases hu with
  | i k' c=>
   have hgd:(eqGuard op t X Y (.int k a) (.int k' c)).run P w=.ok () w:=by cases op<;>simp [eqGuard]
   simp only [Sem.run_bind,hgd,Result.andThen_ok];cases op<;>simp only [B1,GQ] at hb<;>(try (split at hb<;>try (simp at hb;done)))<;>(try (split at hb<;>try (simp at hb;done)))<;>(try simp at hb)<;>(try subst hb) <;>
    first
    | (subst_vars;refine ⟨_,by simp [Go.binOp,Op.intArith,Op.intDiv,Op.intBits,Op.intCmp, *];rfl, ?_⟩;first | exact .i _ _ | exact .b _)
    | (subst_vars;refine ⟨_,by simp [Go.binOp,Op.shift, *];rfl, ?_⟩;exact .i _ _)
  | _=>cases op<;>simp [B1] at hb
 | s a=>
  cases hu with
  | s c=>
   have hgd:(eqGuard op t X Y (.string a) (.string c)).run P w=.ok () w:=by cases op<;>simp [eqGuard]
   simp only [Sem.run_bind,hgd,Result.andThen_ok];cases op<;>simp only [B1,Yz] at hb<;>(try (simp at hb;done))<;>(try (split at hb<;>try (simp at hb;done)))<;>(try simp at hb)<;>(try subst hb)
   .rename_i hlt;refine ⟨_, ?_,.s _⟩;simp only [Go.binOp];exact run_string_add_sum (P:=P) w a c (by simp only [Bc] at hlt;omega)
   .exact ⟨_,by simp [Go.binOp,Op.stringOp];rfl,by rw [<- Iu];exact .b _⟩
   .exact ⟨_,by simp [Go.binOp,Op.stringOp];rfl,by rw [<- Iu];exact .b _⟩
  | _=>cases op<;>simp [B1] at hb
 | _=>cases op<;>cases hu<;>simp [B1] at hb
end
end Go.Ab
/- '==' on flat structs and arrays, cell by cell. -/
namespace Go.Ab
open Go Go.RowKit
section
variable {P:Program}
theorem G7:∀ {k:List CK} {a c:List V} (k2:List CK) (b d:List V),a.length=k.length->c.length=k.length->GS (k++k2) (a++b) (c++d)=(GS k a c).bind λx=>(GS k2 b d).map λy=>x&&y
 | [],[],[],k2,b,d,_,_=>by
  simp only [List.nil_append,GS,Option.bind_some,Bool.true_and];cases GS k2 b d<;>rfl
 | k0::k,x::a,y::c,k2,b,d,e1,e2=>by
  simp only [List.cons_append,GS,G7 (k:=k) (a:=a) (c:=c) k2 b d (by simpa using e1) (by simpa using e2)]
  cases RQ k0 x y with
  | none=>rfl
  | some p=>
   cases GS k a c with
   | none=>rfl
   | some q=>
    cases GS k2 b d with
    | none=>rfl
    | some r=>simp [Bool.and_assoc]
 | [],_::_,_,_,_,_,e,_=>by simp at e
 | [],_,_::_,_,_,_,_,e=>by simp at e
 | _::_,[],_,_,_,_,e,_=>by simp at e
 | _::_,_,[],_,_,_,_,e=>by simp at e
theorem DL:∀ {k:List CK} {a c:List V} {r:Bool},GS k a c=some r->a.length=k.length/\c.length=k.length
 | [],[],[],_,_=>⟨rfl,rfl⟩
 | k::ks,x::a,y::c,r,e=>by
  simp only [GS,Option.bind_eq_some_iff,Option.map_eq_some_iff] at e;obtain ⟨p,_,q,hq,_⟩:=e;have:=DL hq;simp [this.1,this.2]
 | [],_::_,_,_,e=>by simp [GS] at e
 | [],[],_::_,_,e=>by simp [GS] at e
 | _::_,[],_,_,e=>by simp [GS] at e
 | _::_,_::_,[],_,e=>by simp [GS] at e
def Ma (P:Program) (M:Mp) (h:AH) (t:TypeId) (l:List V) (x:Value):Prop:=
 match EU P t with
 | some true=>∃ xs:Array Value,x=.agg xs/\Br M h l xs.toList
 | some false=>∃ v,l=[v]/\VR M h v x
 | none=>False
theorem GG {M : Mp} {h : AH} {l : List V} {xs : Array Value} (hv : Br M h l xs.toList) {off n : Nat} {t : TypeId} (hs : CA P t = some n) {g : Bool} (hg : EU P t = some g) (hn : g = true \/ n = 1) (hle : off + n <= l.length) (w : World) :
    ∃ x,(part t xs off).run P w=.ok x w/\Ma P M h t ((l.drop off).take n) x:=by
 cases g with
 | true=>
  obtain ⟨x,hx,hvx⟩:=Nn (P:=P) hv (off:=off) (n:=n) (g:=true) (v:=.agg ((l.drop off).take n)) (by simp [HJ,hle]) hs hg w;refine ⟨x,hx, ?_⟩;simp only [Ma,hg]
  cases hvx with
  | agg _ l' p=>exact ⟨l',rfl,p⟩
 | false=>
  obtain rfl:n=1:=by simpa using hn
  have hlt:off<l.length:=by omega
  obtain ⟨x,hx,hvx⟩:=Nn (P:=P) hv (off:=off) (n:=1) (g:=false) (v:=l[off]) (by simp [HJ,hle,hlt]) hs hg w;refine ⟨x,hx, ?_⟩;simp only [Ma,hg];refine ⟨l[off], ?_,hvx⟩;rw [List.drop_eq_getElem_cons hlt,List.take_succ_cons,List.take_zero]
theorem Jh {d:Nat} {t:TypeId} {ks:List CK} (h:DM P d t=some ks):CA P t=some ks.length:=by
 cases d with
 | zero=>simp [DM] at h
 | succ d=>
  simp only [DM,Option.bind_eq_some_iff] at h;obtain ⟨k,_,h⟩:=h;split at h
  .rename_i hs;obtain rfl:k=ks:=by simpa using h
   exact hs
  .simp at h
theorem Hf {d:Nat} {t:TypeId} {ks:List CK} (h:DM P d t=some ks):∃ g,EU P t=some g/\(g=true\/ks.length=1):=by
 cases d with
 | zero=>simp [DM] at h
 | succ d=>
  simp only [DM,Option.bind_eq_some_iff] at h;obtain ⟨k,hk,h⟩:=h;split at h
  .obtain rfl:k=ks:=by simpa using h
   unfold EU
   cases hd:P.underlying t with
   | none=>simp [hd] at hk
   | some dd=>
    simp only [hd] at hk;cases dd<;>simp at hk<;>first
     | (subst hk;exact ⟨false,rfl,.inr rfl⟩)
     | exact ⟨true,rfl,.inl rfl⟩
  .simp at h
def FC (d:Nat) (e:TypeId) (n:Nat) (xs ys:Array Value):List Nat->Sem Bool
 | []=>pure true
 | i::is=>do
  let a<-part e xs (i*n)
  let b<-part e ys (i*n)
  let r<-Op.equalIn d e a b
  if (!r)=true then pure false else FC d e n xs ys is
theorem H6 (d:Nat) (t e:TypeId) (len n:Nat) (xs ys:Array Value) (ht:P.underlying t=some (.array len e)) (hn:CA P e=some n) (w:World):
    (Op.equalIn (d+1) t (.agg xs) (.agg ys)).run P w=(FC d e n xs ys (List.range' 0 len)).run P w:=by
 simp only [Op.equalIn,Sem.run_bind,run_underlying ht,Result.andThen_ok,Bh hn];simp only [Std.Legacy.Range.forIn_eq_forIn_range',Std.Legacy.Range.size];simp only [Nat.sub_zero,Nat.add_sub_cancel,Nat.div_one];generalize List.range' 0 len=is;clear ht
 induction is generalizing w with
 | nil=>simp [FC]
 | cons i is ih=>
  simp only [List.forIn_cons,FC,Sem.run_bind,Sem.run_ite];generalize (part e xs (i*n)).run P w=r1
  cases r1 with
  | ok a w1=>
   simp only [Result.andThen_ok];generalize (part e ys (i*n)).run P w1=r2
   cases r2 with
   | ok b w2=>
    simp only [Result.andThen_ok];generalize (Op.equalIn d e a b).run P w2=r3
    cases r3 with
    | ok r w3=>
     cases r
     .simp only [Result.andThen_ok,Bool.not_false,if_true,Sem.run_pure]
     .simp only [Result.andThen_ok,Bool.not_true,Bool.false_eq_true,if_false,Sem.run_pure];exact ih w3
    | halt x w3=>simp [Result.andThen]
   | halt x w2=>simp [Result.andThen]
  | halt x w1=>simp [Result.andThen]
theorem Mc {M : Mp} {h : AH} : ∀ (d n : Nat) (t : TypeId) (ks : List CK) (l m : List V) (x y : Value) (r : Bool) (w : World), d <= n -> DM P d t = some ks -> Ma P M h t l x -> Ma P M h t m y ->
    GS ks l m=some r->(Op.equalIn n t x y).run P w=.ok r w:=by
 intro d
 induction d with
 | zero=>intro n t ks l m x y r w _ hk;simp [DM] at hk
 | succ d ih=>
  intro n t ks l m x y r w hdn hk hx hy he;obtain ⟨n,rfl⟩:∃ k,n=k+1:=⟨n - 1,om⟩
  have hdn':d<=n:=by omega
  have hlen:=DL he;simp only [DM,Option.bind_eq_some_iff] at hk;obtain ⟨k,hk,hsz⟩:=hk;split at hsz
  case isFalse=>simp at hsz
  rename_i hsz';obtain rfl:k=ks:=by simpa using hsz
  cases hd:P.underlying t with
  | none=>simp [hd] at hk
  | some dd=>
   simp only [hd] at hk;have scalar:EU P t=some false->∀ c,k=[c]->∃ u v,l=[u]/\m=[v]/\VR M h u x/\VR M h v y/\RQ c u v=some r:=by
    intro hg c hkc;simp only [Ma,hg] at hx hy;obtain ⟨u,rfl,hu⟩:=hx;obtain ⟨v,rfl,hv⟩:=hy;subst hkc;simp [GS] at he;exact ⟨u,v,rfl,rfl,hu,hv,he⟩
   cases dd<;>simp at hk
   case bool=>
    obtain ⟨u,v,rfl,rfl,hu,hv,hc⟩:=scalar (by simp [EU,hd]) _ hk.symm;cases u<;>cases v<;>simp [RQ] at hc;cases hu;cases hv;rw [run_equalIn_bool' w n t _ _ hd,<-hc]
   case int kk=>
    obtain ⟨u,v,rfl,rfl,hu,hv,hc⟩:=scalar (by simp [EU,hd]) _ hk.symm;cases u<;>cases v<;>simp [RQ] at hc;cases hu;cases hv;obtain ⟨rfl,hc⟩:=hc;rw [run_equalIn_int w n t _ _ _ _ hd,<-hc];rfl
   case string=>
    obtain ⟨u,v,rfl,rfl,hu,hv,hc⟩:=scalar (by simp [EU,hd]) _ hk.symm;cases u<;>cases v<;>simp [RQ] at hc;cases hu;cases hv;rw [run_equalIn_string w n t _ _ hd,<-hc,Iu]
   case struct fs=>
    obtain ⟨hst,hk⟩:=hk;have hg:EU P t=some true:=by simp [EU,hd]
    simp only [Ma,hg] at hx hy;obtain ⟨xs,rfl,hx⟩:=hx;obtain ⟨ys,rfl,hy⟩:=hy;have hfo:P.fieldsOf t=fs:=by simp [Program.fieldsOf,hd]
    rw [run_equalIn_agg w n t xs ys (by rw [hfo];exact hd) (by simpa using hst),hfo];have key:∀ (fl:List Field) (off:Nat) (kk:List CK) (rr:Bool) (w:World),off<=l.length->off<=m.length->Kx (DM P d) fl off=some kk->GS kk (l.drop off) (m.drop off)=some rr->(Op.eqFields n xs ys fl).run P w=.ok rr w:=by
     intro fl
     induction fl with
     | nil=>
      intro off kk rr w _ _ hkk hee;simp [Kx] at hkk;subst hkk;have:=DL hee;simp only [List.length_nil,List.length_eq_zero_iff] at this;rw [this.1,this.2] at hee;simp [GS] at hee;simp [Op.eqFields,hee]
     | cons f fl ihf=>
      intro off kk rr w ho1 ho2 hkk hee;simp only [Kx] at hkk;split at hkk
      case isFalse=>simp at hkk
      rename_i hf;obtain ⟨hname,hoff⟩:=hf;simp only [Option.bind_eq_some_iff,Option.map_eq_some_iff] at hkk;obtain ⟨k1,hk1,k2,hk2,rfl⟩:=hkk;have hlk:=DL hee;have hs1:=Jh hk1;obtain ⟨g,hgf,hgn⟩:=Hf hk1;simp only [List.length_drop,List.length_append] at hlk;have hle1:off+k1.length<=l.length:=by omega
      have hle2:off+k1.length<=m.length:=by omega
      obtain ⟨a,ha,hva⟩:=GG (P:=P) hx (off:=off) (n:=k1.length) hs1 hgf hgn hle1 w;obtain ⟨b,hb,hvb⟩:=GG (P:=P) hy (off:=off) (n:=k1.length) hs1 hgf hgn hle2 w;have e1:l.drop off=(l.drop off).take k1.length++l.drop (off+k1.length):=by rw [<- List.drop_drop,List.take_append_drop]
      have e2:m.drop off=(m.drop off).take k1.length++m.drop (off+k1.length):=by rw [<- List.drop_drop,List.take_append_drop]
      rw [e1,e2,G7 _ _ _ (by simp;omega) (by simp;omega)] at hee;simp only [Option.bind_eq_some_iff,Option.map_eq_some_iff] at hee;obtain ⟨p,hp,q,hq,rfl⟩:=hee;have hrun:=ih n f.type k1 _ _ a b p w hdn' hk1 hva hvb hp;have hrest:=ihf (off+k1.length) k2 q w hle1 hle2 hk2 hq;subst hoff;simp only [Op.eqFields,hname,ne_eq,not_false_eq_true,if_true,Sem.run_bind,ha,hb,hrun,Result.andThen_ok,Sem.run_ite];cases p<;>simp [hrest]
    exact key fs.toList 0 k r w (Nat.zero_le _) (Nat.zero_le _) hk (by simpa using he)
   case array len e=>
    obtain ⟨k1,hk1,rfl⟩:=hk;have hg:EU P t=some true:=by simp [EU,hd]
    simp only [Ma,hg] at hx hy;obtain ⟨xs,rfl,hx⟩:=hx;obtain ⟨ys,rfl,hy⟩:=hy;have hs1:=Jh hk1;obtain ⟨g,hgf,hgn⟩:=Hf hk1;rw [H6 n t e len k1.length xs ys hd hs1];have key:∀ (c i:Nat) (rr:Bool) (w:World),GS (List.replicate c k1).flatten (l.drop (i*k1.length)) (m.drop (i*k1.length))=some rr->(FC n e k1.length xs ys (List.range' i c)).run P w=.ok rr w:=by
     intro c
     induction c with
     | zero=>
      intro i rr w hee;simp only [List.replicate_zero,List.flatten_nil] at hee;have:=DL hee;simp only [List.length_nil,List.length_eq_zero_iff] at this;rw [this.1,this.2] at hee;simp [GS] at hee;simp [FC,hee]
     | succ c ihc=>
      intro i rr w hee;simp only [List.replicate_succ,List.flatten_cons] at hee;have hlk:=DL hee;simp only [List.length_drop,List.length_append] at hlk;have hle1:i*k1.length+k1.length<=l.length:=by
       rcases Nat.eq_zero_or_pos k1.length with h0 | h0
       .simp [h0]
       .omega
      have hle2:i*k1.length+k1.length<=m.length:=by
       rcases Nat.eq_zero_or_pos k1.length with h0 | h0
       .simp [h0]
       .omega
      obtain ⟨a,ha,hva⟩:=GG (P:=P) hx (off:=i*k1.length) (n:=k1.length) hs1 hgf hgn hle1 w;obtain ⟨b,hb,hvb⟩:=GG (P:=P) hy (off:=i*k1.length) (n:=k1.length) hs1 hgf hgn hle2 w;have e0:(i+1)*k1.length=i*k1.length+k1.length:=by rw [Nat.add_mul];omega
      have e1:l.drop (i*k1.length)=(l.drop (i*k1.length)).take k1.length++l.drop ((i+1)*k1.length):=by rw [e0,<-List.drop_drop,List.take_append_drop]
      have e2:m.drop (i*k1.length)=(m.drop (i*k1.length)).take k1.length++m.drop ((i+1)*k1.length):=by rw [e0,<-List.drop_drop,List.take_append_drop]
      rw [e1,e2,G7 _ _ _ (by simp;omega) (by simp;omega)] at hee;simp only [Option.bind_eq_some_iff,Option.map_eq_some_iff] at hee;obtain ⟨p,hp,q,hq,rfl⟩:=hee;have hrun:=ih n e k1 _ _ a b p w hdn' hk1 hva hvb hp;have hrest:=ihc (i+1) q w hq;simp only [List.range'_succ,FC,Sem.run_bind,ha,hb,hrun,Result.andThen_ok,Sem.run_ite];cases p<;>simp [hrest]
    exact key len 0 r w (by simpa using he)
end
end Go.Ab
/- Operations that make memory or write it: a new variable, a literal, a store, make, append. -/
namespace Go.Ab
open Go Go.RowKit
section
variable {P:Program}
theorem DX (b o n:Nat):(⟨b,o,none⟩:Addr).add n=⟨b,o+n,none⟩:=by unfold Addr.add;split<;>simp_all
theorem Dt (P:Program) (g o:Nat) (t:TypeId) (fr:Nat×Nat):∀ (vs:List Value) (i:Nat) (cur:Array Value) (w:World),w.heap[g]?=some (.cells cur t fr)->M6 fr cur.size->o+i+vs.length<=cur.size->(∀ v∈vs,v.oneCell'=true) ->
    (storeCells ⟨g,o,none⟩ vs i).run P w=.ok () (w.setRow g (cur.toList.take (o+i)++vs++cur.toList.drop (o+i+vs.length)).toArray)
 | [],i,cur,w,hg,_,_,_=>by
  simp only [storeCells,List.append_nil,List.length_nil,Nat.add_zero,List.take_append_drop,Array.toArray_toList];rw [setRow_self w g cur t fr hg];rfl
 | v::rest,i,cur,w,hg,hfr,hl,h1=>by
  have hi:o+i<cur.size:=by simp at hl;omega
  have hadd:(⟨g,o,none⟩:Addr).add i=⟨g,o+i,none⟩:=DX g o i;have hcell:w.cell? ⟨g,o+i,none⟩=some cur[o+i]:=by simp [World.cell?,hg,hi]
  have hfro:w.frozen? ⟨g,o+i,none⟩=false:=by
   have:=hfr.at (o+i) hi;simp only [World.frozen?,hg];simpa using λh=>by simpa using λh2=>this ⟨h,h2⟩
  have hst:(store ((⟨g,o,none⟩:Addr).add i) v).run P w=.ok () (w.setRow g (cur.setIfInBounds (o+i) v)):=by
   rw [hadd,run_store P w _ v _ (h1 v (by simp)),hcell];simp [hfro,setCell_eq_setRow w g (o+i) cur t fr v hg]
  have ih:=Dt P g o t fr rest (i+1) (cur.setIfInBounds (o+i) v) (w.setRow g (cur.setIfInBounds (o+i) v)) (setRow_heap w g cur _ t _ hg) (by simpa using hfr) (by simp at hl ⊢;omega) (λx hx=>h1 x (by simp [hx]));simp only [storeCells,Sem.run_bind,hst,Result.andThen_ok,ih,setRow_setRow]
  congr 3
  have e:=list_seg_step cur.toList (o+i) v rest (by simp at hl ⊢;omega);simpa [Array.toList_setIfInBounds,Nat.add_assoc] using e
theorem KW (cur vs:List Value) (O i:Nat) (hO:O+vs.length<=cur.length):
    (cur.take O++vs++cur.drop (O+vs.length))[i]?=if i<O then cur[i]? else if i<O+vs.length then vs[i - O]? else cur[i]?:=by
 have h1:(cur.take O).length=O:=by simp;omega
 rw [List.append_assoc,List.getElem?_append,h1];split
 .rename_i hlt;rw [List.getElem?_take,if_pos hlt]
 .rename_i hge;rw [List.getElem?_append];split
  .rename_i hlt;rw [if_pos om]
  .rename_i hge2;rw [if_neg om,List.getElem?_drop]
   congr 1;omega
theorem De.write {M : Mp} {B : Nat} {w : World} {h : AH} (hs : De M B w h) (hf : Full M h) {id : Nat} {k k' : BJ} {m : MI} (hk : h.get id = some k) (hM : M id = some m) (hlim : h.lim <= id)
    (O:Nat) (vs:List Value) (hfit:O+vs.length<=m.n) (h1:∀ v∈vs,v.oneCell'=true) (hsz:k'.sz=k.sz)
    (hc:∀ (el:Nat) (r:List V),k'.cs[el]?=some r->r.length=k.sz/\∀ (j:Nat) (v:V),r[j]?=some v->v.isCell=true /\
     (if O<=m.o+el*m.sz+j/\m.o+el*m.sz+j<O+vs.length then ∃ x,vs[m.o+el*m.sz+j - O]?=some x/\VR M h v x else ∃ r0,k.cs[el]?=some r0/\r0[j]?=some v)):
    ∃ w',(storeCells ⟨m.b,O,none⟩ vs).run P w=.ok () w'/\De M B w' (h.put id k')/\Full M (h.put id k')/\Goes M M h (h.put id k')/\Below B w w':=by
 have hl:h.live id:=by simp [AH.live,hk]
 obtain ⟨hown,hB⟩:=hs.from_ id m hl hM hlim;obtain ⟨arr,e,fr,hblk,hn,hfr⟩:=hs.own id m hl hM hown;obtain ⟨hmlt,hms,hcs⟩:=hs.cells id k m hk hM;have hrun:=Dt P m.b O e fr vs 0 arr w hblk (by rw [hn];exact hfr) (by rw [hn];exact hfit) h1;simp only [Nat.add_zero] at hrun;have hsize:(arr.toList.take O++vs++arr.toList.drop (O+vs.length)).toArray.size=m.n:=by
  simp;omega
 refine ⟨_,hrun, ?_⟩;have:=De.rewrite hs hf id m k' hl hlim hM (w':=w.setRow m.b (arr.toList.take O++vs++arr.toList.drop (O+vs.length)).toArray) (by simp) (λj hj=>setRow_other w m.b j _ hj) _ e fr (setRow_heap w m.b arr _ e fr hblk) hsize hfr
  ⟨hms.trans hsz.symm,λel r hr=>⟨by rw [hsz];exact (hc el r hr).1,λj v hv=>by
   obtain ⟨hcell,hcase⟩:=(hc el r hr).2 j v hv;refine ⟨hcell, ?_⟩;rw [cell_setRow_same w m.b _ arr _ e fr hblk];have hg:(arr.toList.take O++vs++arr.toList.drop (O+vs.length)).toArray[m.o+el*m.sz+j]?=(arr.toList.take O++vs++arr.toList.drop (O+vs.length))[m.o+el*m.sz+j]?:=by simp
   rw [hg,KW _ _ _ _ (by simp;omega)];split at hcase
   .rename_i hin;obtain ⟨x,hx,hvx⟩:=hcase;exact ⟨x,by rw [if_neg om,if_pos hin.2];exact hx,hvx⟩
   .rename_i hout;obtain ⟨r0,hr0,hj0⟩:=hcase;obtain ⟨_,x,hx,hvx⟩:=(hcs el r0 hr0).2 j v hj0;have hx':arr.toList[m.o+el*m.sz+j]?=some x:=by
     simp only [World.cell?,hblk] at hx;simpa using hx
    refine ⟨x, ?_,hvx⟩
    by_cases h0:m.o+el*m.sz+j<O
    .rw [if_pos h0];exact hx'
    .rw [if_neg h0,if_neg om];exact hx'⟩⟩
 exact ⟨this.1,this.2.1,this.2.2,below_setRow (Below.refl B w) hB _⟩
/-! ### Rows that are written over -/
theorem Jk:∀ (cs r:List V) (i:Nat),(over r i cs).length=r.length
 | [],r,i=>rfl
 | c::cs,r,i=>by simp only [over];rw [Jk cs];simp
theorem KI:∀ (cs r:List V) (i j:Nat),i+cs.length<=r.length->(over r i cs)[j]?=if i<=j/\j<i+cs.length then cs[j - i]? else r[j]?
 | [],r,i,j,_=>by simp only [over,List.length_nil];rw [if_neg om]
 | c::cs,r,i,j,hl=>by
  simp only [List.length_cons] at hl;simp only [over];rw [KI cs (r.set i c) (i+1) j (by simp;omega)]
  by_cases h1:i+1<=j/\j<i+1+cs.length
  .rw [if_pos h1,if_pos (show i<=j/\j<i+(c::cs).length by simp only [List.length_cons];omega)];obtain ⟨d,hd⟩:∃ d,j - i=d+1:=⟨j - i - 1,om⟩
   rw [hd];simp only [List.getElem?_cons_succ]
   congr 1;omega
  .rw [if_neg h1,List.getElem?_set]
   by_cases h2:i=j
   .subst h2;rw [if_pos rfl,if_pos (show i<=i/\i<i+(c::cs).length by simp only [List.length_cons];omega),if_pos om];simp
   .rw [if_neg h2,if_neg (show ¬ (i<=j/\j<i+(c::cs).length) by simp only [List.length_cons];omega)]
theorem MK:∀ (cs r:List (List V)) (i j:Nat),i+cs.length<=r.length->(EL r i cs)[j]?=if i<=j/\j<i+cs.length then cs[j - i]? else r[j]?
 | [],r,i,j,_=>by simp only [EL,List.length_nil];rw [if_neg om]
 | c::cs,r,i,j,hl=>by
  simp only [List.length_cons] at hl;simp only [EL];rw [MK cs (r.set i c) (i+1) j (by simp;omega)]
  by_cases h1:i+1<=j/\j<i+1+cs.length
  .rw [if_pos h1,if_pos (show i<=j/\j<i+(c::cs).length by simp only [List.length_cons];omega)];obtain ⟨d,hd⟩:∃ d,j - i=d+1:=⟨j - i - 1,om⟩
   rw [hd];simp only [List.getElem?_cons_succ]
   congr 1;omega
  .rw [if_neg h1,List.getElem?_set]
   by_cases h2:i=j
   .subst h2;rw [if_pos rfl,if_pos (show i<=i/\i<i+(c::cs).length by simp only [List.length_cons];omega),if_pos om];simp
   .rw [if_neg h2,if_neg (show ¬ (i<=j/\j<i+(c::cs).length) by simp only [List.length_cons];omega)]
theorem Br.set {M:Mp} {h:AH}:∀ {l:List V} {l':List Value} (n:Nat) {v:V} {x:Value},Br M h l l'->VR M h v x->Br M h (l.set n v) (l'.set n x)
 | _,_,n,_,_,.nil,_=>by simpa using .nil
 | _,_,0,_,_,.cons v x l l' p q,hv=>by simpa using .cons _ _ _ _ hv q
 | _,_,n+1,_,_,.cons v x l l' p q,hv=>by simpa using .cons _ _ _ _ p (Br.set n q hv)
theorem IR {M : Mp} {h : AH} : ∀ {l : List V} {l' : List Value} (off k : Nat) (r : List V) (arr : Array Value), Br M h l l' -> Br M h r arr.toList ->
    Br M h (over r (off+k) l) ((l'.zipIdx k).foldl (λcs (q:Value×Nat)=>cs.setIfInBounds (off+q.2) q.1) arr).toList
 | _,_,off,k,r,arr,.nil,hr=>by simpa [over] using hr
 | _,_,off,k,r,arr,.cons v x l l' p q,hr=>by
  simp only [over,List.zipIdx_cons,List.foldl_cons];exact IR off (k+1) _ _ q (by rw [Array.toList_setIfInBounds];exact hr.set _ p)
inductive JS (M:Mp) (h:AH) (place:Nat->Option (Nat×Nat)):List (Nat×Nat×V)->List (Nat×Value)->Prop where
 | nil:JS M h place [] []
 | cons (off n:Nat) (v:V) (i:Nat) (x:Value) (l:List (Nat×Nat×V)) (l':List (Nat×Value)):place i=some (off,n)->VR M h v x->JS M h place l l'->JS M h place ((off,n,v)::l) ((i,x)::l')
theorem G9 {M : Mp} {h : AH} {place : Nat -> Option (Nat × Nat)} : ∀ {ps : List (Nat × Nat × V)} {qs : List (Nat × Value)} (r r' : List V) (arr : Array Value), JS M h place ps qs -> Br M h r arr.toList -> Fl r ps = some r' ->
    ∃ arr':Array Value,Instr.fill place arr qs=some arr'/\Br M h r' arr'.toList
 | _,_,r,r',arr,.nil,hr,hp=>by simp [Fl] at hp;subst hp;exact ⟨arr,rfl,hr⟩
 | _,_,r,r',arr,.cons off n v i x l l' hpl hv hrest,hr,hp=>by
  simp only [Fl] at hp;split at hp
  .rename_i hcond;obtain ⟨h1,h2,h3⟩:=hcond;have hvc:=hv.cells h3;have hxl:x.cells.size=n:=by have:=hvc.length;rw [h1] at this;simpa using this.symm
   have hrl:r.length=arr.size:=by simpa using hr.length
   obtain ⟨arr',ha,hva⟩:=G9 (over r off v.cells) r' (x.cells.zipIdx.foldl (λcs (q:Value×Nat)=>cs.setIfInBounds (off+q.2) q.1) arr) hrest (by
    have:=IR off 0 r arr hvc hr;rw [<- Array.foldl_toList,Array.toList_zipIdx];simpa using this) hp
   refine ⟨arr', ?_,hva⟩;simp only [Instr.fill,hpl];rw [if_neg (by simp;omega)];exact ha
  .simp at hp
inductive JR (M:Mp) (h:AH):List (Nat×V)->List (Nat×Value)->Prop where
 | nil:JR M h [] []
 | cons (i:Nat) (v:V) (x:Value) (l:List (Nat×V)) (l':List (Nat×Value)):VR M h v x->JR M h l l'->JR M h ((i,v)::l) ((i,x)::l')
theorem Ze {sz:Nat} {cs:List (List V)} (hc:∀ r∈cs,r.length=sz) (i:Nat) (r:List V) (hi:i<cs.length) (hr:r.length=sz):flat (cs.set i r)=over (flat cs) (i*sz) r:=by
 have hc':∀ q∈cs.set i r,q.length=sz:=λq hq=>by
  rcases List.mem_or_eq_of_mem_set hq with h | h
  .exact hc q h
  .subst h;exact hr
 have hfl:=BP hc;have hfl':=BP hc';have hle:i*sz+r.length<=(flat cs).length:=by
  rw [hfl,hr];have:=Nat.mul_le_mul_right sz (show i+1<=cs.length by omega);rw [Nat.add_mul] at this;omega
 apply List.ext_getElem?;intro j;rw [KI _ _ _ _ hle]
 by_cases hj:j<cs.length*sz
 .have hpos:0<sz:=by
   rcases Nat.eq_zero_or_pos sz with h0 | h0
   .subst h0;simp at hj
   .exact h0
  have hd:j / sz<cs.length:=(Nat.div_lt_iff_lt_mul hpos).2 hj;have hmod:j % sz<sz:=Nat.mod_lt _ hpos;have hdm:j / sz*sz+j % sz=j:=by rw [Nat.mul_comm];exact Nat.div_add_mod j sz
  by_cases hi':j / sz=i
  .have hset:(cs.set i r)[j / sz]?=some r:=by rw [hi'];simp [hi]
   have:=D5 hc' (j / sz) (j % sz) r hset hmod;rw [hdm] at this;rw [this,if_pos (by rw [hr,<-hi'];omega)]
   congr 1
   rw [<- hi'];omega
  .have hset:(cs.set i r)[j / sz]?=some cs[j / sz]:=by rw [List.getElem?_set,if_neg (Ne.symm hi')];simp [hd]
   have:=D5 hc' (j / sz) (j % sz) _ hset hmod;rw [hdm] at this;have h2:=D5 hc (j / sz) (j % sz) cs[j / sz] (by simp [hd]) hmod;rw [hdm] at h2;rw [this,h2,if_neg];rw [hr];intro hin;apply hi';apply Nat.div_eq_of_lt_le
   .exact hin.1
   .rw [Nat.add_mul];omega
 .rw [List.getElem?_eq_none (by rw [hfl',List.length_set];omega),if_neg (by rw [hr];omega),List.getElem?_eq_none (by rw [hfl];omega)]
theorem Jd:∀ {sz:Nat} {cs cs':List (List V)} {ps:List (Nat×V)},(∀ r∈cs,r.length=sz/\r.all V.isCell=true)->Cw sz cs ps=some cs'->(∀ r∈cs',r.length=sz/\r.all V.isCell=true)/\cs'.length=cs.length
 | sz,cs,cs',[],hc,he=>by simp [Cw] at he;subst he;exact ⟨hc,rfl⟩
 | sz,cs,cs',(j,v)::ps,hc,he=>by
  simp only [Cw] at he;split at he
  .rename_i h1;obtain ⟨h1,h2,h3⟩:=h1;obtain ⟨a,b⟩:=Jd (cs:=cs.set j v.cells) (λq hq=>by
    rcases List.mem_or_eq_of_mem_set hq with h | h
    .exact hc q h
    .subst h;exact ⟨h1,h3⟩) he
   exact ⟨a,by simpa using b⟩
  .simp at he
theorem Je {M : Mp} {h : AH} {sz : Nat} : ∀ {ps : List (Nat × V)} {qs : List (Nat × Value)} (cs cs' : List (List V)) (arr : Array Value), JR M h ps qs -> (∀ r ∈ cs, r.length = sz /\ r.all V.isCell = true) -> Br M h (flat cs) arr.toList -> Cw sz cs ps = some cs' ->
    ∃ arr':Array Value,Instr.fill (λi=>some (i*sz,sz)) arr qs=some arr'/\Br M h (flat cs') arr'.toList
 | _,_,cs,cs',arr,.nil,hc,hr,hp=>by simp [Cw] at hp;subst hp;exact ⟨arr,rfl,hr⟩
 | _,_,cs,cs',arr,.cons i v x l l' hv hrest,hc,hr,hp=>by
  simp only [Cw] at hp;split at hp
  .rename_i hcond;obtain ⟨h1,h2,h3⟩:=hcond;have hvc:=hv.cells h3;have hxl:x.cells.size=sz:=by have:=hvc.length;rw [h1] at this;simpa using this.symm
   have hrl:(flat cs).length=arr.size:=by simpa using hr.length
   have hfl:=BP (sz:=sz) (λr hr=>(hc r hr).1);have hle:i*sz+sz<=arr.size:=by
    rw [<- hrl,hfl];have:=Nat.mul_le_mul_right sz (show i+1<=cs.length by omega);rw [Nat.add_mul] at this;omega
   obtain ⟨arr',ha,hva⟩:=Je (cs.set i v.cells) cs' (x.cells.zipIdx.foldl (λcs (q:Value×Nat)=>cs.setIfInBounds (i*sz+q.2) q.1) arr) hrest
    (λq hq=>by
     rcases List.mem_or_eq_of_mem_set hq with h | h
     .exact hc q h
     .subst h;exact ⟨h1,h3⟩)
    (by
     rw [Ze (λr hr=>(hc r hr).1) i v.cells h2 h1];have:=IR (i*sz) 0 (flat cs) arr hvc hr;rw [<- Array.foldl_toList,Array.toList_zipIdx];simpa using this) hp
   refine ⟨arr', ?_,hva⟩;simp only [Instr.fill];rw [if_neg (by simp;omega)];exact ha
  .simp at hp
end
end Go.Ab
/- New rows, append, make, the conversions between texts and bytes. -/
namespace Go.Ab
open Go Go.RowKit
section
variable {P:Program}
def F2 (sz:Nat) (cs:List (List V)):Prop:=∀ r∈cs,r.length=sz/\r.all V.isCell=true
theorem Kk {M : Mp} {h : AH} {k : BJ} {arr : Array Value} (hr : F2 k.sz k.cs) (hg : ∀ (i : Nat) (v : V), (flat k.cs)[i]? = some v -> ∃ x, arr[i]? = some x /\ VR M h v x) :
    ∀ (el:Nat) (r:List V),k.cs[el]?=some r->r.length=k.sz/\∀ (j:Nat) (v:V),r[j]?=some v->v.isCell=true/\∃ x,arr[el*k.sz+j]?=some x/\VR M h v x:=by
 intro el r hel;have hmem:r∈k.cs:=List.mem_of_getElem? hel;obtain ⟨h1,h2⟩:=hr r hmem;refine ⟨h1,λj v hj=>⟨List.all_eq_true.1 h2 v (List.mem_of_getElem? hj), ?_⟩⟩;have hlt:j<k.sz:=by rw [<- h1];exact (List.getElem?_eq_some_iff.1 hj).1
 exact hg _ v (by rw [D5 (λr hr'=>(hr r hr').1) el j r hel hlt];exact hj)
theorem Er {M : Mp} {B : Nat} {w : World} {h : AH} (hs : De M B w h) (hf : Full M h) (k : BJ) (arr : Array Value) (e : TypeId) (hr : F2 k.sz k.cs)
    (hg:∀ (i:Nat) (v:V),(flat k.cs)[i]?=some v->∃ x,arr[i]?=some x/\VR M h v x) (len cap rc:Nat) (hl:len<=rc) (hc:cap<=rc) (hn:rc*k.sz<=arr.size):
    ∃ M',DE M B w h (.sl h.next 0 len cap) (h.alloc k) (.slice (some ⟨w.heap.size,0,none⟩) len rc) (w.alloc (.cells arr e)) M':=by
 obtain ⟨h1,h2,h3,h4⟩:=De.alloc hs hf k arr e (Kk hr hg);refine ⟨_, ?_,h1,h2,h3,h4⟩;refine .sl _ _ _ _ _ _ (Nat.lt_succ_self _) hl (λ_=>⟨_,by simp [Mp.set];rfl,λ_=>by simp,hc,λ_=>by simpa using hn⟩)
theorem UV {M : Mp} {B : Nat} {w : World} {h : AH} (hs : De M B w h) (hf : Full M h) (z : List V) (x : Value) (t : TypeId) (hz : Br M h z x.cells.toList) (hall : z.all V.isCell = true) :
    ∃ M',DE M B w h (.p h.next 0 0) (h.alloc ⟨z.length,[z]⟩) (.pointer (some ⟨w.heap.size,0,none⟩)) (w.alloc (.cells x.cells t)) M':=by
 obtain ⟨h1,h2,h3,h4⟩:=De.alloc hs hf ⟨z.length,[z]⟩ x.cells t (Kk (k:=⟨z.length,[z]⟩) (λr hr=>by simp at hr;subst hr;exact ⟨rfl,hall⟩) (λi v hv=>by
  simp only [flat,List.flatten_cons,List.flatten_nil,List.append_nil] at hv;obtain ⟨y,hy,hv'⟩:=hz.get i v hv;exact ⟨y,by simpa using hy,hv'⟩))
 refine ⟨_, ?_,h1,h2,h3,h4⟩;exact .p _ _ _ _ (Nat.lt_succ_self _) (λ_=>⟨_,by simp [Mp.set];rfl,by simp⟩)
theorem KQ (t:TypeId) (x:Value) (w:World):(newVar t x).run P w=.ok ⟨w.heap.size,0,none⟩ (w.alloc (.cells x.cells t)):=by
 simp [newVar,newRow]
/-! ### Elements that are read -/
theorem Mt (x:ByteArray):F2 1 (Ck x):=by
 intro r hr;simp only [Ck,List.mem_map] at hr;obtain ⟨c,_,rfl⟩:=hr;exact ⟨rfl,rfl⟩
theorem OW (x:ByteArray):flat (Ck x)=x.data.toList.map λc=>V.i .u8 (c.toNat:Int):=by
 simp only [flat,Ck];generalize x.data.toList=l
 induction l with
 | nil=>rfl
 | cons c l ih=>simp [ih]
theorem Ve {M:Mp} {h:AH} (l:List UInt8):Br M h (l.map λc=>V.i .u8 (c.toNat:Int)) (l.map λc=>Value.int .u8 (c.toNat:Int)):=by
 induction l with
 | nil=>exact .nil
 | cons c l ih=>exact .cons _ _ _ _ (.i _ _) ih
theorem Kc {M : Mp} {B : Nat} {w : World} {h : AH} (hs : De M B w h) {id el len cap rc sz : Nat} {a : Addr} (hv : VR M h (.sl id el len cap) (.slice (some a) len rc)) {new : List (List V)} (he : AM sz h (.sl id el len cap) = some new) :
    new.length=len/\F2 sz new/\∃ xs:List Value,Br M h (flat new) xs/\xs.length=len*sz/\∀ (j:Nat) (x:Value),xs[j]?=some x->w.cell? (a.add j)=some x:=by
 simp only [AM] at he
 cases hk:h.get id with
 | none=>simp [hk] at he
 | some k=>
  simp only [hk] at he;split at he
  case isFalse=>simp at he
  rename_i hcond;obtain ⟨rfl,hle⟩:=hcond;obtain rfl:(k.cs.drop el).take len=new:=by simpa using he
  have hnl:((k.cs.drop el).take len).length=len:=by simp;omega
  cases hv with
  | sl _ _ _ _ _ _ hi hlr hm=>
   obtain ⟨m,hM,ha,hcr,hroom⟩:=hm (by simp [AH.live,hk]);obtain ⟨_,hms,hcs⟩:=hs.cells id k m hk hM;have hrows:∀ (i:Nat) (r:List V),((k.cs.drop el).take len)[i]?=some r->k.cs[el+i]?=some r/\i<len:=by
    intro i r hr;have hlt:i<len:=by
     have:=(List.getElem?_eq_some_iff.1 hr).1;omega
    rw [List.getElem?_take,if_pos hlt,List.getElem?_drop] at hr;exact ⟨hr,hlt⟩
   have hok:F2 k.sz ((k.cs.drop el).take len):=by
    intro r hr;obtain ⟨i,hi⟩:=List.getElem?_of_mem hr;obtain ⟨h1,_⟩:=hrows i r hi;refine ⟨(hcs _ r h1).1,List.all_eq_true.2 λv hv=>?_⟩;obtain ⟨j,hj⟩:=List.getElem?_of_mem hv;exact ((hcs _ r h1).2 j v hj).1
   refine ⟨hnl,hok, ?_⟩;have hfl:=BP (sz:=k.sz) (λr hr=>(hok r hr).1);rw [hnl] at hfl
   by_cases h0:len=0
   .subst h0;refine ⟨[], ?_,by simp,λj x e=>by simp at e⟩;have:flat ((k.cs.drop el).take 0)=[]:=by simp [flat]
    rw [this];exact .nil
   .have hrc:0<rc:=by omega
    rw [ha hrc];obtain ⟨xs,hxs,hxc⟩:=J3 (M:=M) (h:=h) (w:=w) (flat ((k.cs.drop el).take len)) m.b (m.o+el*m.sz) (λi v hv=>by
     obtain ⟨r,hr,hj,hpos⟩:=Ki (λr hr=>(hok r hr).1) i v hv;obtain ⟨hr',_⟩:=hrows _ r hr;obtain ⟨_,x,hx,hvx⟩:=(hcs _ r hr').2 _ v hj;refine ⟨x, ?_,hvx⟩;have:m.o+el*m.sz+i=m.o+(el+i / k.sz)*m.sz+i % k.sz:=by
      rw [hms,Nat.add_mul];have:=Nat.div_add_mod i k.sz;rw [Nat.mul_comm] at this;omega
     rw [this];exact hx)
    exact ⟨xs,hxs,by rw [<- hxs.length];exact hfl,hxc⟩
theorem VO {M : Mp} {B : Nat} {w : World} {h : AH} (hs : De M B w h) {sz : Nat} {v : V} {y : Value} (hv : VR M h v y) {new : List (List V)} (he : AM sz h v = some new) :
    F2 sz new/\(Builtin.lenOf y).run P w=.ok new.length w/\∃ xs:List Value,Br M h (flat new) xs/\xs.length=new.length*sz /\
     (Builtin.firstCells sz new.length y).run P w=.ok xs.toArray w/\(Builtin.firstCells sz new.length y).run P w.drew=.ok xs.toArray w.drew:=by
 cases hv with
 | ns=>
  obtain rfl:[]=new:=by simpa [AM] using he
  exact ⟨λr hr=>by simp at hr,by simp [Builtin.lenOf],[],.nil,by simp,by simp [Builtin.firstCells],by simp [Builtin.firstCells]⟩
 | e0 a=>
  obtain rfl:[]=new:=by simpa [AM] using he
  have h0:=λ(w:World)=>run_firstCells_some (P:=P) w sz 0 a 0 0 [] (by simp) (by simp [loadCells]);exact ⟨λr hr=>by simp at hr,by simp [Builtin.lenOf],[],.nil,by simp,by simpa using h0 w,by simpa using h0 w.drew⟩
 | s x=>
  simp only [AM] at he;split at he
  .rename_i h1;subst h1;obtain rfl:Ck x=new:=by simpa using he
   have hl:(Ck x).length=x.size:=by simp [Ck]
   refine ⟨Mt x,by simp [Builtin.lenOf,hl],x.data.toList.map (λc=>Value.int .u8 (c.toNat:Int)), ?_,by simp [hl], ?_, ?_⟩
   .rw [OW];exact Ve _
   .rw [hl];simp only [Builtin.firstCells,Sem.run_pure];congr 1;apply Array.ext';simp
   .rw [hl];simp only [Builtin.firstCells,Sem.run_pure];congr 1;apply Array.ext';simp
  .simp at he
 | sl id el len cap a rc hi hl hm=>
  obtain ⟨hnl,hok,xs,hxs,hxl,hxc⟩:=Kc hs (.sl id el len cap a rc hi hl hm) he;refine ⟨hok,by simp [Builtin.lenOf,hnl],xs,hxs,by rw [hnl];exact hxl, ?_, ?_⟩
  .exact run_firstCells_some (P:=P) w sz new.length a len rc xs (by rw [hxl,hnl]) hxc
  .exact run_firstCells_some (P:=P) w.drew sz new.length a len rc xs (by rw [hxl,hnl]) (by simpa using hxc)
 | _=>simp [AM] at he
/-! ### append -/
structure jD (P:Program) (t u e:TypeId) (i:TypeInfo) (sz:Nat):Prop where
 ht:P.underlying t=some (.slice e)
 hu:(∃ e',P.underlying u=some (.slice e'))\/P.underlying u=some .string
 hi:P.info? e=some i
 hsz:i.size=sz
 pos:0<sz
 by1:i.bytes<=4096
 by0:0<i.bytes
theorem En {t u e ty : TypeId} {i : TypeInfo} {sz : Nat} (T : jD P t u e i sz) (base : Option Addr) (sLen sCap n : Nat) (y : Value) (xs : List Value) (w w' : World)
    (hl:(Builtin.lenOf y).run P w=.ok n w) (hc:(Builtin.firstCells sz n y).run P w=.ok xs.toArray w) (hroom:sLen+n<=sCap)
    (hst:match base with | some a=>(storeCells (a.add (sLen*sz)) xs).run P w=.ok () w' | none=>w'=w):
    (Builtin.append_ #[t,u] ty #[.slice base sLen sCap,y]).run P w=.ok (.slice base (sLen+n) sCap) w':=by
 obtain ⟨ht,hu,hi,rfl,_,_,_⟩:=T
 cases base with
 | none=>
  subst hst;rcases hu with ⟨e',hu⟩ | hu<;>simp [Builtin.append_,run_underlying ht,run_underlying hu,sizeOf,typeInfo,hi,hl,hc,hroom]
 | some a=>
  simp only at hst;rcases hu with ⟨e',hu⟩ | hu<;>simp [Builtin.append_,run_underlying ht,run_underlying hu,sizeOf,typeInfo,hi,hl,hc,hroom,hst]
theorem FO {t u e ty : TypeId} {i : TypeInfo} {sz : Nat} (T : jD P t u e i sz) (z : Value) (hz : i.zero = some z) (base : Option Addr) (sLen sCap n : Nat) (y : Value) (olds xs : List Value) (w : World)
    (hl:(Builtin.lenOf y).run P w=.ok n w) (ho:(Builtin.firstCells sz sLen (.slice base sLen sCap)).run P w.drew=.ok olds.toArray w.drew) (hc:(Builtin.firstCells sz n y).run P w.drew=.ok xs.toArray w.drew)
    (hg:sCap<sLen+n) (hbig:sLen+n<Bc):
    (Builtin.append_ #[t,u] ty #[.slice base sLen sCap,y]).run P w =
     .ok (.slice (some ⟨w.heap.size,0,none⟩) (sLen+n) (grownCap w (sLen+n) sCap e))
      (w.drew.alloc (.cells (olds.toArray++xs.toArray++Builtin.zeroCells z.cells (grownCap w (sLen+n) sCap e - (sLen+n))) e)):=by
 obtain ⟨ht,hu,hi,rfl,_,h4096,_⟩:=T;have hn:¬ (sLen+n<=sCap):=by omega
 have h63':¬ (9223372036854775807<((sLen:Int)+(n:Int))):=by simp only [Bc] at hbig;omega
 have hfit:=nextslicecap_le hg;have h48':¬ (281474976710656<Builtin.nextslicecap (sLen+n) sCap*i.bytes):=by
  have:=Nat.mul_le_mul hfit h4096;simp only [Bc] at hbig;omega
 rcases hu with ⟨e',hu⟩ | hu
 .simp [Builtin.append_,run_underlying ht,run_underlying hu,sizeOf,typeInfo,zeroValue,hi,hz,hl,hn,h63',h48',Question.forced,ho,hc,newRow,grownCap]
  congr 2
  apply Array.ext';simp [List.append_assoc]
 .simp [Builtin.append_,run_underlying ht,run_underlying hu,sizeOf,typeInfo,zeroValue,hi,hz,hl,hn,h63',h48',Question.forced,ho,hc,newRow,grownCap]
  congr 2
  apply Array.ext';simp [List.append_assoc]
theorem dN {t u e ty : TypeId} {i : TypeInfo} (ht : P.underlying t = some (.slice e)) (hu : P.underlying u = some (.int .i64)) (hi : P.info? e = some i) (pos : 0 < i.size) (h4096 : i.bytes <= 4096) (z : Value) (hz : i.zero = some z) (k : IntKind) (a : Int) (h0 : 0 < a) (hbig : a < Bc) (w : World) :
    (Builtin.append_ #[t,u] ty #[.slice none 0 0,.int k a]).run P w =
     .ok (.slice (some ⟨w.heap.size,0,none⟩) a.toNat (grownCap w a.toNat 0 e))
      (w.drew.alloc (.cells (Builtin.zeroCells z.cells a.toNat++Builtin.zeroCells z.cells (grownCap w a.toNat 0 e - a.toNat)) e)):=by
 have hw:IntKind.wrap .i64 a=a:=by
  unfold IntKind.wrap;simp only [IntKind.bits,IntKind.signed];simp only [Bc] at hbig;simp;omega
 have hn:¬ (a.toNat<=0):=by omega
 have hn2:¬ a<0:=by omega
 have hn3:¬ (a.toNat*i.size=0):=by
  intro h;rcases Nat.mul_eq_zero.1 h with h | h<;>omega
 have hn4:¬ a<=0:=by omega
 have hn5:¬ (9223372036854775807<max a 0):=by simp only [Bc] at hbig;omega
 have h63':¬ (9223372036854775807<(a.toNat:Int)):=by simp only [Bc] at hbig;omega
 have hm:(a:Int)*i.bytes<=a*4096:=Int.mul_le_mul_of_nonneg_left om om;have h48:¬ (281474976710656<a*i.bytes):=by simp only [Bc] at hbig;omega
 have hfit:=nextslicecap_le (need:=a.toNat) (old:=0) om;have h48':¬ (281474976710656<Builtin.nextslicecap a.toNat 0*i.bytes):=by
  have:=Nat.mul_le_mul hfit h4096;simp only [Bc] at hbig;omega
 simp [Builtin.append_,run_underlying ht,run_underlying hu,sizeOf,typeInfo,zeroValue,hi,hz,asInt,asIntOf,hw,hn,hn2,hn3,hn4,hn5,h63',h48,h48',Question.forced,newRow,grownCap,Builtin.firstCells]
theorem Below.from_drew {B:Nat} {w w':World} (h:Below B w.drew w'):Below B w w':=⟨h.os,h.tape,h.output,h.size,h.block⟩
theorem Vp {M : Mp} {B : Nat} {w : World} {h h' : AH} {t u e ty : TypeId} {i : TypeInfo} {sz : Nat} (T : jD P t u e i sz) (z : Value) (hz : i.zero = some z) (hzc : z.cells.size = sz)
    (hs:De M B w h) (hf:Full M h) {x y v:V} {x' y':Value} (hx:VR M h x x') (hy:VR M h y y') (ha:Vo sz h x y=some (v,h')):
    ∃ r w' M',(Builtin.append_ #[t,u] ty #[x',y']).run P w=.ok r w'/\DE M B w h v h' r w' M':=by
 simp only [Vo,Option.bind_eq_some_iff] at ha;obtain ⟨new,hnew,ha⟩:=ha;obtain ⟨hok,hlen,xs,hxs,hxl,hc1,hc2⟩:=VO (P:=P) hs hy hnew;have hfl:=BP (sz:=sz) (λr hr=>(hok r hr).1)
 cases hx with
 | ns=>
  simp only at ha;split at ha
  .rename_i h0;subst h0;simp at ha;obtain ⟨rfl,rfl⟩:=ha;exact ⟨_,w,M,En T none 0 0 0 y' xs w w hlen hc1 (by simp) rfl,DE.same hs hf .ns⟩
  .rename_i h0;split at ha
   case isFalse=>simp at ha
   rename_i hbig;simp at ha;obtain ⟨rfl,rfl⟩:=ha;have hpos:0<new.length:=by
    rcases Nat.eq_zero_or_pos new.length with h1 | h1
    .exact absurd (List.eq_nil_of_length_eq_zero h1) h0
    .exact h1
   have hrun:=FO (ty:=ty) T z hz none 0 0 new.length y' [] xs w hlen (by simp [Builtin.firstCells]) hc2 om om;have hge:=grownCap_ge w (0+new.length) 0 e;obtain ⟨M',hd⟩:=Er hs.drew hf ⟨sz,new⟩ (([]:List Value).toArray++xs.toArray++Builtin.zeroCells z.cells (grownCap w (0+new.length) 0 e - (0+new.length))) e hok (λj v hv=>by
    obtain ⟨x,hx,hvx⟩:=hxs.get j v hv;refine ⟨x, ?_,hvx⟩;have hlt:j<xs.length:=(List.getElem?_eq_some_iff.1 hx).1;simp [Array.getElem?_append,hlt];simpa [hlt] using hx) new.length new.length (grownCap w (0+new.length) 0 e) om om (by
     simp only [Array.size_append,List.size_toArray,size_zeroCells,hxl,hzc,List.length_nil,Nat.zero_add];simp only [Nat.zero_add] at hge;rw [<- Nat.add_mul];apply Nat.mul_le_mul_right;omega)
   simp only [Nat.zero_add] at hrun hd ⊢;exact ⟨_,_,M',hrun,⟨hd.val,hd.sim,hd.full,hd.goes,Below.from_drew hd.below⟩⟩
 | e0 a=>
  simp only at ha;split at ha
  .rename_i h0;subst h0;simp at ha;obtain ⟨rfl,rfl⟩:=ha;exact ⟨_,w,M,En T (some a) 0 0 0 y' xs w w hlen hc1 (by simp) (by have:xs=[]:=List.eq_nil_of_length_eq_zero (by simpa using hxl);subst this;simp [storeCells]),DE.same hs hf (.e0 a)⟩
  .rename_i h0;split at ha
   case isFalse=>simp at ha
   rename_i hbig;simp at ha;obtain ⟨rfl,rfl⟩:=ha;have hpos:0<new.length:=by
    rcases Nat.eq_zero_or_pos new.length with h1 | h1
    .exact absurd (List.eq_nil_of_length_eq_zero h1) h0
    .exact h1
   have hrun:=FO (ty:=ty) T z hz (some a) 0 0 new.length y' [] xs w hlen (by simpa using run_firstCells_some (P:=P) w.drew sz 0 a 0 0 [] (by simp) (by simp [loadCells])) hc2 om om;have hge:=grownCap_ge w (0+new.length) 0 e;obtain ⟨M',hd⟩:=Er hs.drew hf ⟨sz,new⟩ (([]:List Value).toArray++xs.toArray++Builtin.zeroCells z.cells (grownCap w (0+new.length) 0 e - (0+new.length))) e hok (λj v hv=>by
    obtain ⟨x,hx,hvx⟩:=hxs.get j v hv;refine ⟨x, ?_,hvx⟩;have hlt:j<xs.length:=(List.getElem?_eq_some_iff.1 hx).1;simp [Array.getElem?_append,hlt];simpa [hlt] using hx) new.length new.length (grownCap w (0+new.length) 0 e) om om (by
     simp only [Array.size_append,List.size_toArray,size_zeroCells,hxl,hzc,List.length_nil,Nat.zero_add];simp only [Nat.zero_add] at hge;rw [<- Nat.add_mul];apply Nat.mul_le_mul_right;omega)
   simp only [Nat.zero_add] at hrun hd ⊢;exact ⟨_,_,M',hrun,⟨hd.val,hd.sim,hd.full,hd.goes,Below.from_drew hd.below⟩⟩
 | sl id el len cap a rc hi hlr hm=>
  simp only at ha
  cases hk:h.get id with
  | none=>simp [hk] at ha
  | some k=>
   simp only [hk] at ha;split at ha
   case isFalse=>simp at ha
   rename_i hcond;obtain ⟨rfl,hlim,hle,hbig⟩:=hcond;have hl:h.live id:=by simp [AH.live,hk]
   obtain ⟨m,hM,haddr,hcr,hroom⟩:=hm hl;obtain ⟨hown,hB⟩:=hs.from_ id m hl hM hlim;have hroom:=hroom hown;obtain ⟨hmlt,hms,hcs⟩:=hs.cells id k m hk hM;have hpos:=T.pos;have h1:=Jj hxs (List.all_eq_true.2 λv hv=>by
    simp only [flat,List.mem_flatten] at hv;obtain ⟨r,hr,hv⟩:=hv;exact List.all_eq_true.1 (hok r hr).2 v hv)
   split at ha
   .-- room for sure
    rename_i hcap;split at ha
    case isFalse=>simp at ha
    rename_i hin;simp at ha;obtain ⟨rfl,rfl⟩:=ha;have hnewget:∀ (j:Nat) (r:List V),new[j]?=some r->r.length=k.sz:=λj r hr=>(hok r (List.mem_of_getElem? hr)).1;have hfit:m.o+(el+len)*k.sz+xs.length<=m.n:=by
     rw [hxl];have h2:(el+len+new.length)*k.sz<=(el+rc)*k.sz:=Nat.mul_le_mul_right _ om;rw [hms] at hroom;simp only [Nat.add_mul] at h2 hroom ⊢;omega
    obtain ⟨w',hrun,hsim,hfull,hgoes,hbelow⟩:=De.write (P:=P) hs hf hk hM hlim (k':=⟨k.sz,EL k.cs (el+len) new⟩) (m.o+(el+len)*k.sz) xs hfit h1 rfl (by
     intro q r hq;rw [MK _ _ _ _ hin] at hq
     by_cases hq':el+len<=q/\q<el+len+new.length
     .rw [if_pos hq'] at hq;have hrl:=hnewget _ r hq;refine ⟨hrl,λj v hj=>?_⟩;have hjlt:j<k.sz:=by rw [<- hrl];exact (List.getElem?_eq_some_iff.1 hj).1
      have hfg:=D5 (λr hr=>(hok r hr).1) (q - (el+len)) j r hq hjlt;rw [hj] at hfg;obtain ⟨x,hx,hvx⟩:=hxs.get _ v hfg;refine ⟨List.all_eq_true.1 (hok r (List.mem_of_getElem? hq)).2 v (List.mem_of_getElem? hj), ?_⟩;have e1:q*m.sz=(el+len)*k.sz+(q - (el+len))*k.sz:=by rw [hms,<-Nat.add_mul];congr 1;omega
      have hlt:(q - (el+len))*k.sz+j<xs.length:=(List.getElem?_eq_some_iff.1 hx).1;rw [if_pos om];exact ⟨x,by rw [show m.o+q*m.sz+j - (m.o+(el+len)*k.sz)=(q - (el+len))*k.sz+j by omega];exact hx,hvx⟩
     .rw [if_neg hq'] at hq;obtain ⟨hrl,hcell⟩:=hcs q r hq;refine ⟨hrl,λj v hj=>⟨(hcell j v hj).1, ?_⟩⟩;have hjlt:j<k.sz:=by rw [<- hrl];exact (List.getElem?_eq_some_iff.1 hj).1
      rw [if_neg]
      .exact ⟨r,hq,hj⟩
      .rw [hxl,hms];intro hcon;apply hq';have c1:(el+len)*k.sz<(q+1)*k.sz:=by rw [Nat.add_mul q];omega
       have c2:q*k.sz<(el+len+new.length)*k.sz:=by rw [Nat.add_mul (el+len)];omega
       have c1':=Nat.lt_of_mul_lt_mul_right c1;have c2':=Nat.lt_of_mul_lt_mul_right c2;omega)
    refine ⟨.slice (some a) (len+new.length) rc,w',M, ?_,⟨?_,hsim,hfull,hgoes,hbelow⟩⟩
    .refine En T (some a) len rc new.length y' xs w w' hlen hc1 om ?_;simp only
     by_cases hrc:0<rc
     .rw [haddr hrc,DX,show m.o+el*m.sz+len*k.sz=m.o+(el+len)*k.sz by rw [hms,Nat.add_mul];omega];exact hrun
     .have : xs = [] := List.eq_nil_of_length_eq_zero (by rw [hxl]; have : new.length = 0 := by omega
                                                          rw [this];simp)
      subst this;simp only [storeCells,Sem.run_pure] at hrun ⊢;exact hrun
    .exact .sl _ _ _ _ _ _ (by simpa [AH.put] using hi) om (λ_=>⟨m,hM,haddr,hcr,λ_=>hroom⟩)
   .-- the old one is let go
    rename_i hcap;simp at ha;obtain ⟨rfl,rfl⟩:=ha;obtain ⟨hks,hkf,hkg⟩:=De.kill hs hf id hlim;have hkp:=hkg.keeps;have hdead:¬ (h.kill id).live id:=by simp [AH.live,AH.kill]
    have holdel:AM k.sz h (.sl id el len cap)=some ((k.cs.drop el).take len):=by simp [AM,hk,hle]
    obtain ⟨hol,hook,ys,hys,hyl,hyc⟩:=Kc hs (.sl id el len cap a rc hi hlr (λ_=>⟨m,hM,haddr,hcr,λ_=>hroom⟩)) holdel;have hrows:F2 k.sz ((k.cs.drop el).take len++new):=by
     intro r hr;rcases List.mem_append.1 hr with h2 | h2
     .exact hook r h2
     .exact hok r h2
    have hflat:flat ((k.cs.drop el).take len++new)=flat ((k.cs.drop el).take len)++flat new:=by simp [flat]
    have hall:Br M (h.kill id) (flat ((k.cs.drop el).take len++new)) (ys++xs):=by
     rw [hflat];exact (hys.append hxs).keep hkp
    by_cases hrc:len+new.length<=rc
    .-- in place
     have hrcpos:0<rc:=by
      rcases Nat.eq_zero_or_pos rc with h0 | h0
      .omega
      .exact h0
     obtain ⟨arr,e2,fr,hblk,hn,hfr⟩:=hs.own id m hl hM hown;have hfit:m.o+el*m.sz+len*k.sz+xs.length<=m.n:=by
      rw [hxl];have h2:(len+new.length)*k.sz<=rc*k.sz:=Nat.mul_le_mul_right _ hrc;rw [hms] at hroom ⊢;simp only [Nat.add_mul] at h2;omega
     have hrun:=Dt P m.b (m.o+el*m.sz+len*k.sz) e2 fr xs 0 arr w hblk (by rw [hn];exact hfr) (by rw [hn];exact hfit) h1;simp only [Nat.add_zero] at hrun;have hsize:(arr.toList.take (m.o+el*m.sz+len*k.sz)++xs++arr.toList.drop (m.o+el*m.sz+len*k.sz+xs.length)).toArray.size=m.n:=by
      simp;omega
     have hbw:Below B w (w.setRow m.b (arr.toList.take (m.o+el*m.sz+len*k.sz)++xs++arr.toList.drop (m.o+el*m.sz+len*k.sz+xs.length)).toArray):=below_setRow (Below.refl B w) hB _;have hadd:=De.add hks hkf ⟨k.sz,(k.cs.drop el).take len++new⟩ ⟨m.b,m.o+el*m.sz,m.n,k.sz,true⟩ _ e2 fr (w':=w.setRow m.b (arr.toList.take (m.o+el*m.sz+len*k.sz)++xs++arr.toList.drop (m.o+el*m.sz+len*k.sz+xs.length)).toArray)
      (by simp) (λid' m' hl' hm'=>setRow_other w m.b m'.b _ (λhe=>by
       have hne:id'≠id:=λhh=>hdead (hh▸hl');exact hs.apart id id' m m' hl (hkp.live id' (hks.fresh id' hl') hl') hM hm' (Ne.symm hne) hown he.symm))
      hB rfl (by simpa using hmlt) (λid' m' hl' hm' he=>by
       have hne:id'≠id:=λhh=>hdead (hh▸hl');exact hs.apart id id' m m' hl (hkp.live id' (hks.fresh id' hl') hl') hM hm' (Ne.symm hne) hown he.symm)
      (setRow_heap w m.b arr _ e2 fr hblk) hsize hfr
      ⟨rfl,λq r hq=>by
       have hmem:r∈(k.cs.drop el).take len++new:=List.mem_of_getElem? hq;refine ⟨(hrows r hmem).1,λj v hj=>⟨List.all_eq_true.1 (hrows r hmem).2 v (List.mem_of_getElem? hj), ?_⟩⟩;have hjlt:j<k.sz:=by rw [<- (hrows r hmem).1];exact (List.getElem?_eq_some_iff.1 hj).1
       have hfg:=D5 (λr hr=>(hrows r hr).1) q j r hq hjlt;rw [hj] at hfg;obtain ⟨x,hx,hvx⟩:=hall.get _ v hfg;refine ⟨x, ?_,hvx⟩;simp only;rw [cell_setRow_same w m.b _ arr _ e2 fr hblk];have hg:∀ (l:List Value) (i:Nat),l.toArray[i]?=l[i]?:=λl i=>by simp
       rw [hg,KW _ _ _ _ (by simp;omega)];rw [List.getElem?_append,hyl] at hx
       by_cases hq1:q*k.sz+j<len*k.sz
       .rw [if_pos hq1] at hx;rw [if_pos om];have:=hyc _ x hx;rw [haddr hrcpos,DX] at this;simp only [World.cell?,hblk] at this;rw [show m.o+el*m.sz+q*k.sz+j=m.o+el*m.sz+(q*k.sz+j) by omega];simpa using this
       .rw [if_neg hq1] at hx;have hlt:q*k.sz+j - len*k.sz<xs.length:=(List.getElem?_eq_some_iff.1 hx).1;rw [if_neg om,if_pos om];rw [show m.o+el*m.sz+q*k.sz+j - (m.o+el*m.sz+len*k.sz)=q*k.sz+j - len*k.sz by omega];exact hx⟩ hbw
     refine ⟨.slice (some a) (len+new.length) rc,_,_, ?_,⟨?_,hadd.1,hadd.2.1,hkg.trans hadd.2.2,hbw⟩⟩
     .refine En T (some a) len rc new.length y' xs w _ hlen hc1 hrc ?_;simp only;rw [haddr hrcpos,DX];exact hrun
     .refine .sl _ _ _ _ _ _ (Nat.lt_succ_self _) hrc (λ_=>⟨_,by simp [Mp.set,AH.kill];rfl,λ_=>?_,hrc,λ_=>?_⟩)
      .rw [haddr hrcpos];simp
      .simp only [Nat.zero_mul,Nat.add_zero];rw [<- hms];exact hroom
    .-- a new row
     have hrun:=FO (ty:=ty) T z hz (some a) len rc new.length y' ys xs w hlen (run_firstCells_some (P:=P) w.drew k.sz len a len rc ys hyl (by simpa using hyc)) hc2 om hbig;have hge:=grownCap_ge w (len+new.length) rc e;obtain ⟨M',hd⟩:=Er hks.drew hkf ⟨k.sz,(k.cs.drop el).take len++new⟩ (ys.toArray++xs.toArray++Builtin.zeroCells z.cells (grownCap w (len+new.length) rc e - (len+new.length))) e hrows (λj v hv=>by
      obtain ⟨x,hx,hvx⟩:=hall.get j v hv;refine ⟨x, ?_,hvx⟩;have hlt:j<ys.length+xs.length:=by have:=(List.getElem?_eq_some_iff.1 hx).1;simpa using this
      rw [Array.getElem?_append];simp only [Array.size_append,List.size_toArray];rw [if_pos hlt];simpa using hx) (len+new.length) (len+new.length) (grownCap w (len+new.length) rc e) hge hge (by
       simp only [Array.size_append,List.size_toArray,size_zeroCells,hxl,hyl,hzc];rw [<- Nat.add_mul,<-Nat.add_mul];apply Nat.mul_le_mul_right;omega)
     refine ⟨_,_,M',hrun,⟨?_,hd.sim,hd.full,hkg.trans hd.goes,Below.from_drew hd.below⟩⟩;exact hd.val
 | _=>simp at ha
end
end Go.Ab
/- Each operation but calls: what the abstract machine does the model's does. -/
namespace Go.Ab
open Go Go.RowKit
section
variable {P:Program}
theorem Ty {op:UnOp} {v r:V} {x:Value} {M:Mp} {h:AH} (hv:VR M h v x) (hb:unV op v=some r) (w:World):∃ z,(Op.unary op x).run P w=.ok z w/\VR M h r z:=by
 cases hv<;>cases op<;>simp [unV] at hb<;>subst hb
 .exact ⟨_,by simp [Op.unary],.b _⟩
 .exact ⟨_,by simp [Op.unary,Op.intArith],.i _ _⟩
 .exact ⟨_,by simp [Op.unary,Op.intBits],.i _ _⟩
theorem Nq {M : Mp} {h : AH} {v u : V} {x y : Value} {r : Bool} {t : TypeId} {X Y : Operand} {ks : EK} (hv : VR M h v x) (hu : VR M h u y) (hk : Mb P t X Y = some ks) (he : FD ks v u = some r) (w : World) (n : Nat) (hn : 20 <= n) :
    (Op.equalIn (n+1) t x y).run P w=.ok r w:=by
 unfold Mb at hk
 cases hd:P.underlying t with
 | none=>simp [hd] at hk
 | some d=>
  simp only [hd] at hk;cases d<;>simp at hk
  case bool=>subst hk;cases hv<;>cases hu<;>simp [FD] at he;simp only [Op.equalIn,Sem.run_bind,run_underlying hd,Result.andThen_ok];simp [he]
  case pointer=>subst hk;cases hv<;>cases hu<;>simp [FD] at he<;>subst he<;>simp only [Op.equalIn,Sem.run_bind,run_underlying hd,Result.andThen_ok]<;>simp
  case slice=>subst hk;cases hv<;>cases hu<;>simp [FD] at he<;>subst he<;>simp only [Op.equalIn,Sem.run_bind,run_underlying hd,Result.andThen_ok]<;>simp
  case func=>subst hk;cases hv<;>cases hu<;>simp [FD] at he<;>subst he<;>simp only [Op.equalIn,Sem.run_bind,run_underlying hd,Result.andThen_ok]<;>simp
  case interface=>obtain ⟨_,rfl⟩:=hk;cases hv<;>cases hu<;>simp [FD] at he<;>subst he<;>simp only [Op.equalIn,Sem.run_bind,run_underlying hd,Result.andThen_ok]<;>simp
  all_goals
   obtain ⟨_,l,hl,rfl⟩:=hk;cases hv<;>cases hu<;>simp [FD] at he;rename_i a a' pa c c' pc;obtain ⟨g,hg,_⟩:=Hf hl;have hgt:EU P t=some true:=by simp [EU,hd]
   exact Mc (P:=P) (M:=M) (h:=h) 20 (n+1) t l a c _ _ r w om hl (by simp only [Ma,hgt];exact ⟨a',rfl,pa⟩) (by simp only [Ma,hgt];exact ⟨c',rfl,pc⟩) he
theorem OU {M : Mp} {h : AH} {v u : V} {x y : Value} {r : Bool} {t : TypeId} {X Y : Operand} {ks : EK} (hv : VR M h v x) (hu : VR M h u y) (hk : Mb P t X Y = some ks) (he : FD ks v u = some r) (w : World) :
    (Op.equal t x y).run P w=.ok r w:=Nq hv hu hk he w 9999 om
theorem OZ {M : Mp} {h : AH} {v u : V} {x y : Value} {r : Bool} {t : TypeId} {X Y : Operand} {ks : EK} (op : BinOp) (hv : VR M h v x) (hu : VR M h u y) (hk : Mb P t X Y = some ks) (he : FD ks v u = some r) (w : World) :
    (eqGuard op t X Y x y).run P w=.ok () w:=by
 by_cases hop:op=.eql\/op=.neq
 .cases ks with
  | agg ks=>
   have hgt:P.eqGuardType P.depth t=false:=by
    unfold Mb at hk;split at hk<;>simp at hk
    .exact hk.1
    .exact hk.1
   cases hv<;>cases hu<;>simp [FD] at he;exact run_eqGuard_agg (P:=P) w op t X Y _ _ hgt
  | ifc=>
   unfold Mb at hk;split at hk<;>simp at hk;rcases hop with rfl | rfl<;>cases hv<;>cases hu<;>simp [FD] at he<;>cases X<;>cases Y<;>simp at hk<;>simp [eqGuard]
  | _=>rcases hop with rfl | rfl<;>cases hv<;>cases hu<;>simp [FD] at he<;>simp [eqGuard]
 .cases op<;>simp at hop<;>simp [eqGuard]
theorem Y9 {M : Mp} {h : AH} {v u : V} {x y : Value} {r : Bool} {op : BinOp} {t : TypeId} {X Y : Operand} {ks : EK} (hop : op = .eql \/ op = .neq) (hv : VR M h v x) (hu : VR M h u y) (hk : Mb P t X Y = some ks) (he : FD ks v u = some r) (w : World) :
    (do eqGuard op t X Y x y;binOp op t x y:Sem Value).run P w=.ok (.bool (if op==.neq then !r else r)) w:=by
 have hg:=OZ (P:=P) op hv hu hk he w;have heq:=OU (P:=P) hv hu hk he w;simp only [Sem.run_bind,hg,Result.andThen_ok];rcases hop with rfl | rfl
 .have:binOp .eql t x y=(do pure (.bool (<- Op.equal t x y)):Sem Value):=by cases ks<;>cases hv<;>cases hu<;>simp [FD] at he<;>rfl
  rw [this];simp [heq]
 .have:binOp .neq t x y=(do pure (.bool (!(<- Op.equal t x y))):Sem Value):=by cases ks<;>cases hv<;>cases hu<;>simp [FD] at he<;>rfl
  rw [this];simp [heq]
theorem Wj {M:Mp} {h:AH} {v u r:V} {x y:Value} (hv:VR M h v x) (hu:VR M h u y) (hb:Pc v u=some r) (w:World):∃ z,(Builtin.min2 x y).run P w=.ok z w/\VR M h r z:=by
 cases hv<;>cases hu<;>simp [Pc] at hb;obtain ⟨rfl,rfl⟩:=hb;exact ⟨_,by simp [Builtin.min2],.i _ _⟩
theorem We {M:Mp} {h:AH} {v u r:V} {x y:Value} (hv:VR M h v x) (hu:VR M h u y) (hb:Pb v u=some r) (w:World):∃ z,(Builtin.max2 x y).run P w=.ok z w/\VR M h r z:=by
 cases hv<;>cases hu<;>simp [Pb] at hb;obtain ⟨rfl,rfl⟩:=hb;exact ⟨_,by simp [Builtin.max2],.i _ _⟩
theorem Hb {M : Mp} {h : AH} {f : V -> V -> Option V} {g : Value -> Value -> Sem Value} (hfg : ∀ {v u r : V} {x y : Value}, VR M h v x -> VR M h u y -> f v u = some r -> ∀ w : World, ∃ z, (g x y).run P w = .ok z w /\ VR M h r z) :
    ∀ {l:List V} {l':List Value} {v r:V} {x:Value},VR M h v x->Br M h l l'->EH f v l=some r->∀ w:World,∃ z,(l'.foldlM g x).run P w=.ok z w/\VR M h r z
 | _,_,v,r,x,hv,.nil,he,w=>by simp [EH] at he;subst he;exact ⟨x,by simp,hv⟩
 | _,_,v,r,x,hv,.cons u y l l' p q,he,w=>by
  simp only [EH,Option.bind_eq_some_iff] at he;obtain ⟨z,hz,he⟩:=he;obtain ⟨z',hz',hvz⟩:=hfg hv p hz w;obtain ⟨r',hr',hvr⟩:=Hb hfg hvz q he w;exact ⟨r',by simp only [List.foldlM_cons,Sem.run_bind,hz',Result.andThen_ok];exact hr',hvr⟩
theorem GA {v:V} {x:Value} {M:Mp} {h:AH} {n j:Nat} (hv:VR M h v x) (he:BW v n=some j):∃ k,x=.int k (j:Int)/\j<n:=by
 cases hv<;>simp [BW] at he;rename_i k m;obtain ⟨h1,h2⟩:=he;exact ⟨k,by congr 1;omega,om⟩
theorem Mq {v:V} {x:Value} {M:Mp} {h:AH} {d n j y:Nat} {c:BoundsCode} (hv:VR M h v x) (he:AO (some v) d n=some j) (hn:n<=y) (w:World):(Instr.sliceBound x y c).run P w=.ok j w/\j<=n:=by
 cases hv<;>simp [AO] at he;rename_i k m;obtain ⟨⟨h1,h2⟩,rfl⟩:=he;refine ⟨?_,om⟩;have:0<=m/\m<=(y:Int):=⟨h1,om⟩
 simp [Instr.sliceBound,asIntOf,this]
end
end Go.Ab
/- Each operation but calls: what the abstract machine does the model's does: all of them together. -/
namespace Go.Ab
open Go Go.RowKit
section
variable {P:Program}
def bAG (P:Program) (o:Oper) (a:Act) (w:World) (x:Value) (w':World):Prop:=
 (execOp a.eval o).run P w=.ok (.value x) w'\/((execOp a.eval o).run P w=.ok .skip w'/\x=undef)
theorem BQ {x:Bool} {u:Unit} (h:Dm x=some u):x=true:=by
 cases x<;>simp [Dm] at h ⊢
theorem Eb {t:TypeId} {z:List V} (h:Hy P t=some z) (w:World):∃ x v,(zeroValue t).run P w=.ok x w/\(P.info? t).bind (·.zero)=some x/\zJ x=some v/\v.cells=z:=by
 simp only [Hy,Option.map_eq_some_iff] at h;obtain ⟨v,hv,rfl⟩:=h;have hv':=hv;obtain ⟨x,hx,hxv⟩:=GW hv w;simp only [I7,Option.bind_eq_some_iff] at hv';obtain ⟨x',⟨i,hi,hx'⟩,hz'⟩:=hv';have:x=x':=by
  simp [zeroValue,typeInfo,hi,hx'] at hx;exact hx.symm
 subst this;exact ⟨x,v,hx,by simp [hi,hx'],hxv,rfl⟩
theorem BU {M:Mp} {h:AH} {x:Value} {v:V} (e:zJ x=some v):Br M h v.cells x.cells.toList:=(Om e).cells (Fs e)
theorem ON {o:Option Operand} (h:C4 o=some none):o=none:=by
 cases o with
 | none=>rfl
 | some x=>simp [C4] at h
theorem OO {o:Option Operand} {x:X} (h:C4 o=some (some x)):∃ y,o=some y/\AX y=some x:=by
 cases o with
 | none=>simp [C4] at h
 | some y=>exact ⟨y,rfl,by simpa [C4] using h⟩
theorem KJ {M : Mp} {h : AH} {e : Env} {a : Act} (hE : EA M h e a) (place : Nat -> Option (Nat × Nat)) : ∀ {ps : List (Nat × Operand)} {l : List (Nat × Nat × X)}, IA place ps = some l ->
    JS M h place (l.map λq=>(q.1,q.2.1,X.ev e q.2.2)) (ps.map λq=>(q.1,a.eval q.2))
 | [],l,hc=>by simp [IA] at hc;subst hc;exact .nil
 | (i,o)::r,l,hc=>by
  simp only [IA,Option.bind_eq_some_iff,Option.map_eq_some_iff] at hc;obtain ⟨q,hq,x,hx,l',hl,rfl⟩:=hc;exact .cons _ _ _ _ _ _ _ hq (Aw hE hx) (KJ hE place hl)
theorem OT {M : Mp} {h : AH} {e : Env} {a : Act} (hE : EA M h e a) : ∀ {ps : List (Nat × Operand)} {l : List (Nat × X)}, J6 ps = some l ->
    JR M h (l.map λq=>(q.1,X.ev e q.2)) (ps.map λq=>(q.1,a.eval q.2))
 | [],l,hc=>by simp [J6] at hc;subst hc;exact .nil
 | (i,o)::r,l,hc=>by
  simp only [J6,Option.bind_eq_some_iff,Option.map_eq_some_iff] at hc;obtain ⟨x,hx,l',hl,rfl⟩:=hc;exact .cons _ _ _ _ _ (Aw hE hx) (OT hE hl)
theorem Nh {M : Mp} {h : AH} {e : Env} {a : Act} (hE : EA M h e a) {o : Option Operand} {x : Option X} (hc : C4 o = some x) {d n j : Nat} (he : AO (x.map (X.ev e)) d n = some j) :
    (x=none/\o=none/\j=d)\/∃ y,o=some y/\(∀ (N:Nat),n<=N->∀ (c:BoundsCode) (w:World),(Instr.sliceBound (a.eval y) N c).run P w=.ok j w)/\j<=n:=by
 cases x with
 | none=>
  refine .inl ⟨rfl,ON hc, ?_⟩;simpa [AO] using he.symm
 | some x=>
  obtain ⟨y,rfl,hy⟩:=OO hc;have hv:=Aw hE hy;refine .inr ⟨y,rfl,λN hN c w=>(Mq (P:=P) hv he hN w).1,(Mq (P:=P) (c:=.index) hv he (Nat.le_refl n) default).2⟩
theorem Fx {M : Mp} {h : AH} {e : Env} {a : Act} (hE : EA M h e a) {lo hi mx : Option Operand} {xlo xhi xmx : Option X} (h1 : C4 lo = some xlo) (h2 : C4 hi = some xhi) (h3 : C4 mx = some xmx)
    (len cap N m t l:Nat) (isSlice:Bool) (hN:cap<=N) (hm:AO (xmx.map (X.ev e)) cap cap=some m) (ht:AO (xhi.map (X.ev e)) len m=some t) (hl:AO (xlo.map (X.ev e)) 0 t=some l) (hx:xmx=none\/xhi≠none) (hle:len<=cap\/xhi≠none) (w:World):
    ∃ m',(Instr.sliceBounds isSlice len N (lo.map a.eval) (hi.map a.eval) (mx.map a.eval)).run P w=.ok (l,t,m') w/\(m'=N/\xmx=none/\m=cap\/m'=m/\xmx≠none)/\l<=t/\t<=m/\m<=m'/\m'<=N:=by
 have A:=Nh (P:=P) hE h3 hm;have C:=Nh (P:=P) hE h2 ht;have D:=Nh (P:=P) hE h1 hl;rcases A with ⟨rfl,rfl,rfl⟩ | ⟨y,rfl,hy,hym⟩
 .rcases C with ⟨rfl,rfl,rfl⟩ | ⟨z,rfl,hz,hzt⟩
  .have hle':t<=m:=by rcases hle with h | h<;>simp_all
   rcases D with ⟨rfl,rfl,rfl⟩ | ⟨u,rfl,hu,hul⟩
   .exact ⟨N,by simp [Instr.sliceBounds],.inl ⟨rfl,rfl,rfl⟩,om,om,om,om⟩
   .exact ⟨N,by simp [Instr.sliceBounds,hu t (Nat.le_refl _)],.inl ⟨rfl,rfl,rfl⟩,om,om,om,om⟩
  .rcases D with ⟨rfl,rfl,rfl⟩ | ⟨u,rfl,hu,hul⟩
   .exact ⟨N,by simp [Instr.sliceBounds,hz N hN],.inl ⟨rfl,rfl,rfl⟩,om,om,om,om⟩
   .exact ⟨N,by simp [Instr.sliceBounds,hz N hN,hu t (Nat.le_refl _)],.inl ⟨rfl,rfl,rfl⟩,om,om,om,om⟩
 .have hxm:xmx≠none:=by
   intro hh;subst hh;simp [C4] at h3
  rcases C with ⟨rfl,rfl,rfl⟩ | ⟨z,rfl,hz,hzt⟩
  .rcases hx with hx | hx
   .exact absurd hx hxm
   .exact absurd rfl hx
  .rcases D with ⟨rfl,rfl,rfl⟩ | ⟨u,rfl,hu,hul⟩
   .exact ⟨m,by simp [Instr.sliceBounds,hy N hN,hz m (Nat.le_refl _)],.inr ⟨rfl,hxm⟩,om,om,om,om⟩
   .exact ⟨m,by simp [Instr.sliceBounds,hy N hN,hz m (Nat.le_refl _),hu t (Nat.le_refl _)],.inr ⟨rfl,hxm⟩,om,om,om,om⟩
theorem Jf:∀ {l:List (List V)} {r:List UInt8} {M:Mp} {h:AH} {xs:List Value},bytesOf? l=some r->Br M h (flat l) xs->∃ ns:List Int,xs=ns.map (Value.int .u8)/\r=ns.map λn=>UInt8.ofNat n.toNat
 | [],r,M,h,xs,he,hv=>by
  simp [bytesOf?] at he;subst he;have:flat ([]:List (List V))=[]:=rfl;rw [this] at hv;cases hv;exact ⟨[],rfl,rfl⟩
 | row::l,r,M,h,xs,he,hv=>by
  cases row with
  | nil=>simp [bytesOf?] at he
  | cons c row=>
   cases row with
   | cons d row=>cases c<;>simp [bytesOf?] at he
   | nil=>
    cases c<;>try (simp [bytesOf?] at he;done)
    rename_i k n;cases k<;>try (simp [bytesOf?] at he;done)
    simp [bytesOf?] at he;obtain ⟨r',hr',rfl⟩:=he;have hfl:flat ([V.i .u8 n]::l)=V.i .u8 n::flat l:=by simp [flat]
    rw [hfl] at hv
    cases hv with
    | cons _ x _ xs' hx hrest=>
     cases hx;obtain ⟨ns,rfl,rfl⟩:=Jf hr' hrest;exact ⟨n::ns,rfl,rfl⟩
theorem WE (ns:List Int):∀ (b:ByteArray),ns.foldl (λr n=>r.push (UInt8.ofNat n.toNat)) b=⟨b.data++(ns.map λn=>UInt8.ofNat n.toNat).toArray⟩:=by
 induction ns with
 | nil=>intro b;simp
 | cons n ns ih=>
  intro b;simp only [List.foldl_cons,ih]
  congr 1
  apply Array.ext';simp [ByteArray.push]
end
end Go.Ab
