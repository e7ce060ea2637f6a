/- An abstract machine over trees of data, and that its operations are sound against the model (no condition). -/
import Derived.Calls
import Derived.OrdersIn
import Derived.RangeFuncLeaves
import Derived.RangeFuncRecord
import Derived.Lib.Repeat
import Derived.Deep.AppendSrc
import Derived.Deep.MidRow
import Derived.Lib.ConvBytes
import Derived.Laws.BytesString
import Derived.Laws.MakeOwn
import Derived.WalkKit
import Derived.Laws.StructEq
set_option linter.unusedSimpArgs false
set_option linter.unusedVariables false
set_option linter.unusedSectionVars false
namespace Go.Am
noncomputable section
inductive Ty where
 | int (k:IntKind)|bool|str|sl (t:Ty)|unit|cons (a r:Ty)
 deriving DecidableEq
@[reducible] def Ty.den:Ty→Type
 | .int _=>Int
 | .bool=>Bool
 | .str=>ByteArray
 | .sl t=>List t.den
 | .unit=>Unit
 | .cons a r=>a.den×r.den
def Ty.cells:Ty→Nat
 | .int _|.bool|.str|.sl _=>1
 | .unit=>0
 | .cons a r=>a.cells+r.cells
def Ty.noSl:Ty→Bool
 | .sl _=>false
 | .cons a r=>a.noSl&&r.noSl
 | _=>true
def Ty.isAgg:Ty→Bool
 | .unit|.cons ..=>true
 | _=>false
def Ty.isU8:Ty→Bool
 | .int .u8=>true
 | _=>false
def Ty.zero:(t:Ty)→t.den
 | .int _=>(0:Int)
 | .bool=>false
 | .str=>ByteArray.empty
 | .sl _=>[]
 | .unit=>()
 | .cons a r=>(a.zero,r.zero)
def Ty.leaf:Ty→Bool
 | .int _|.bool|.str=>true
 | _=>false
def Rr:(t:Ty)→t.den→t.den→Bool
 | .int _,x,y=>decide ((x:Int)=y)
 | .bool,x,y=>(x:Bool)==y
 | .str,x,y=>decide ((x:ByteArray)=y)
 | _,_,_=>false
def dq {β:Type} (k:Ty) (a:k.den):List (k.den×β)→Option (Nat×β)
 | []=>none
 | e::l=>bif Rr k a e.1 then some (0,e.2) else match dq k a l with
  | some (n,b)=>some (n+1,b)
  | none=>none
def gx {β:Type} (k:Ty) (a:k.den) (z:β) (l:List (k.den×β)):β:=match dq k a l with
 | some (_,b)=>b
 | none=>z
def jP {β:Type} (k:Ty) (a:k.den) (l:List (k.den×β)):Bool:=match dq k a l with
 | some _=>true
 | none=>false
def dJ {β:Type} (k:Ty) (a:k.den) (b:β) (l:List (k.den×β)):List (k.den×β):=match dq k a l with
 | some (n,_)=>l.set n (a,b)
 | none=>l++[(a,b)]
inductive Step where
 | f (k off:Nat)
 | i (n sz:Nat)
def Step.off:Step→Nat
 | .f _ o=>o
 | .i n sz=>n*sz
def bq:List Step→Nat
 | []=>0
 | s::p=>s.off+bq p
inductive TV where
 | v (x:Value)
 | adr (id:Nat) (p:List Step)
 | sl (id:Nat) (part:Option (Nat×Nat))
 | ro (t:Ty) (xs:List t.den)
 | radr (t:Ty) (xs:List t.den) (p:List Step)
 | agg (fs:List TV)
 | arr (t:Ty) (n:Nat) (xs:List t.den)
 | tup (vs:List TV)
 | clo (g:Nat) (cap:List TV)
 | mp (id:Nat)
 | yv (id:Nat)
 | fv (n:Nat)
 | dead
inductive Ob where
 | row (t:Ty) (e:TypeId) (xs:List t.den)
 | var (T:TypeId) (x:TV)
 | map (k v:Ty) (xs:List (k.den×v.den))
 | lp (k:Nat) (lv:List Nat) (cap:List TV) (j:Nat)
inductive Tr (γ:Type):Type 1 where
 | ret (x:γ)
 | ask (β:Type) (o:Option β) (k:β→Tr γ)
 | sum (α β:Type) (s:α⊕β) (l:α→Tr γ) (r:β→Tr γ)
 | ite (b:Bool) (t e:Tr γ)
 | fail
def Tr.bind {γ δ:Type}:Tr γ→(γ→Tr δ)→Tr δ
 | .ret x,f=>f x
 | .ask β o k,f=>.ask β o fun y=>(k y).bind f
 | .sum α β s l r,f=>.sum α β s (fun y=>(l y).bind f) (fun y=>(r y).bind f)
 | .ite b t e,f=>.ite b (t.bind f) (e.bind f)
 | .fail,_=>.fail
def ac {α:Type} (b:Bool) (x y:α):α:=@Bool.rec (fun _=>α) y x b
theorem ae {α:Type} (b:Bool) (x y:α):ac b x y=if b=true then x else y:=by cases b<;>rfl
def Tr.run {γ ρ:Type}:Tr γ→(γ→Option ρ)→Option ρ
 | .ret x,f=>f x
 | .ask _ o k,f=>o.bind fun y=>(k y).run f
 | .sum _ _ s l r,f=>match s with|.inl y=>(l y).run f|.inr y=>(r y).run f
 | .ite b t e,f=>@Bool.rec (fun _=>Option ρ) (e.run f) (t.run f) b
 | .fail,_=>none
def Tr.opt {γ:Type} (o:Option γ):Tr γ :=
 match o with
 | some x=>.ret x
 | none=>.fail
def aB:List (Nat×Ob)→Nat→Option Ob
 | [],_=>none
 | (j,o)::r,id=>bif Nat.beq j id then some o else aB r id
def bX:List (Nat×Ob)→Nat→List (Nat×Ob)
 | [],_=>[]
 | (j,o)::r,id=>bif Nat.beq j id then bX r id else (j,o)::bX r id
def gn (l:List (Nat×Ob)) (id:Nat):Option Ob→List (Nat×Ob)
 | some o=>(id,o)::bX l id
 | none=>bX l id
def aR (l:List (Nat×Ob)):List (Nat×Option Ob)→List (Nat×Ob)
 | []=>l
 | (id,x)::r=>aR (gn l id x) r
def has (l:List Nat) (id:Nat):Bool:=match l with
 | []=>false
 | j::r=>bif Nat.beq j id then true else has r id
def aV (l:List (Nat×Ob)) (us:List Nat):List (Nat×Ob)→Option (List (Nat×Ob)×List Nat)
 | []=>some (l,us)
 | (id,o)::r=>bif has us id then none else aV ((id,o)::l) (id::us) r
structure St where
 tm:List TV
 ob:List (Nat×Ob)
 us:List Nat
structure Eff where
 val:TV
 upd:List (Nat×Option Ob)
 new:List (Nat×Ob)
inductive GTr (γ:Type):Type 1 where
 | done (t:Tr γ)
 | get (id:Nat) (k:Option Ob→GTr γ)
 | ite (b:Bool) (t e:GTr γ)
def GTr.reads {γ:Type} (fd:List (Nat×Ob)):GTr γ→List Nat
 | .done _=>[]
 | .get id k=>id::(k (aB fd id)).reads fd
 | .ite _ t e=>t.reads fd++e.reads fd
def GTr.run {γ:Type} (fd:List (Nat×Ob)):GTr γ→Tr γ
 | .done t=>t
 | .get id k=>(k (aB fd id)).run fd
 | .ite b t e=>.ite b (t.run fd) (e.run fd)
def GTr.bind {γ δ:Type}:GTr γ→(γ→Tr δ)→GTr δ
 | .done t,f=>.done (t.bind f)
 | .get id k,f=>.get id fun o=>(k o).bind f
 | .ite b t e,f=>.ite b (t.bind f) (e.bind f)
structure Pk where
 roots:List TV
 obs:List (Option Ob)
def iA:List (Option Ty)→Option Ty
 | []=>some .unit
 | some a::r=>match iA r with
  | some b=>some (.cons a b)
  | none=>none
 | none::_=>none
def cT (P:Program):Nat→TypeId→Option Ty
 | 0,_=>none
 | n+1,T =>
  match P.underlying T with
  | some .bool=>some .bool
  | some (.int k)=>some (.int k)
  | some .string=>some .str
  | some (.slice e)=>match cT P n e with
   | some t=>some (.sl t)
   | none=>none
  | some (.struct fs)=>iA (fs.toList.map fun f=>cT P n f.type)
  | _=>none
def PG (t:Ty) (l:List TV):TV:=if t.isAgg then .agg l else l.headD .dead
def tvs:(t:Ty)→t.den→List TV
 | .int k,x=>[.v (.int k x)]
 | .bool,b=>[.v (.bool b)]
 | .str,s=>[.v (.string s)]
 | .sl t,xs=>[.ro t xs]
 | .unit,_=>[]
 | .cons a r,x=>PG a (tvs a x.1)::tvs r x.2
def js (t:Ty) (x:t.den):TV:=PG t (tvs t x)
def jq {t u:Ty} (h:t=u) (xs:List t.den):List u.den:=h▸xs
def dC:(t:Ty)→TV→Option t.den
 | .int k,.v (.int k' x)=>if k'=k then some x else none
 | .bool,.v (.bool b)=>some b
 | .str,.v (.string s)=>some s
 | .sl t,.ro u xs=>if h:u=t then some (jq h xs) else none
 | .unit,.agg []=>some ()
 | .cons a r,.agg (x::l)=>match dC a x,dC r (.agg l) with
  | some y,some z=>some (y,z)
  | _,_=>none
 | _,_=>none
def wC:(t:Ty)→List Value→Option (t.den×List Value)
 | .int k,.int k' x::l=>if k'=k then some (x,l) else none
 | .bool,.bool b::l=>some (b,l)
 | .str,.string s::l=>some (s,l)
 | .sl _,.slice none 0 0::l=>some ([],l)
 | .unit,l=>some ((),l)
 | .cons a r,l=>match wC a l with
  | some (x,l')=>match wC r l' with
   | some (y,l'')=>some ((x,y),l'')
   | none=>none
  | none=>none
 | _,_=>none
def Ha (t:Ty):Nat→List Value→Option (List t.den×List Value)
 | 0,l=>some ([],l)
 | n+1,l=>match wC t l with
  | some (x,l')=>match Ha t n l' with
   | some (xs,l'')=>some (x::xs,l'')
   | none=>none
  | none=>none
def nf:Nat:=24
abbrev OfC:=Option (TV×List (Nat×Ob)×Nat×List Value)
def Ur:Value→Bool
 | .agg _|.tuple _=>false
 | _=>true
def gN (f:TypeId→List Value→Nat→OfC):List TypeId→List Value→Nat→Option (List TV×List (Nat×Ob)×Nat×List Value)
 | [],cs,b=>some ([],[],b,cs)
 | T::r,cs,b=>match f T cs b with
  | some (x,u,b',cs')=>match gN f r cs' b' with
   | some (l,u',b'',cs'')=>some (x::l,u++u',b'',cs'')
   | none=>none
  | none=>none
def cell1 (c:Value) (b:Nat) (cs:List Value):OfC:=if Ur c then some (.v c,[],b,cs) else none
def fU (P:Program):Nat→TypeId→List Value→Nat→OfC
 | 0,_,_,_=>none
 | n+1,T,cs,b =>
  match P.underlying T with
  | some (.struct fs)=>match gN (fU P n) (fs.toList.map (·.type)) cs b with
   | some (l,u,b',cs')=>some (.agg l,u,b',cs')
   | none=>none
  | some (.array k e)=>match cT P nf e with
   | some t=>match Ha t k cs with
    | some (xs,cs')=>some (.arr t k xs,[],b,cs')
    | none=>none
   | none=>none
  | some (.slice e)=>match cs with
   | .slice none 0 0::cs'=>match cT P nf e with
    | some t=>some (.sl b none,[(b,.row t e [])],b+1,cs')
    | none=>some (.v (.slice none 0 0),[],b,cs')
   | c::cs'=>cell1 c b cs'
   | []=>none
  | some _=>match cs with
   | c::cs'=>cell1 c b cs'
   | []=>none
  | none=>none
def As:Value→Bool
 | .agg _=>true
 | _=>false
def J8 (z:TV) (y:Value):Bool:=match z with
 | .agg _|.arr ..=>As y
 | _=>!As y
def norm (P:Program) (T:TypeId) (x:TV) (b:Nat):Option (TV×List (Nat×Ob)) :=
 match x with
 | .v y=>match fU P nf T y.cells.toList b with
  | some (z,u,_,[])=>bif J8 z y then some (z,u) else none
  | _=>none
 | .dead=>none
 | x=>some (x,[])
mutual
def TV.cells:TV→Nat
 | .agg fs=>cC fs
 | .arr t n _=>n*t.cells
 | .tup _=>0
 | _=>1
def cC:List TV→Nat
 | []=>0
 | x::l=>x.cells+cC l
end
def TV.isAgg:TV→Bool
 | .agg _|.arr ..=>true
 | _=>false
def bn (P:Program) (T:TypeId):Option Nat:=(P.info? T).map (·.size)
def RG (P:Program) (T:TypeId):Bool :=
 match P.underlying T with
 | some (.struct _)|some (.array ..)=>true
 | _=>false
mutual
def TV.solid:TV→Bool
 | .v x=>Ur x
 | .agg fs=>Hl fs
 | .clo _ cap=>Hl cap
 | .tup _|.dead=>false
 | _=>true
def Hl:List TV→Bool
 | []=>true
 | x::l=>x.solid&&Hl l
end
mutual
def TV.noRo:TV→Bool
 | .ro ..|.radr ..=>false
 | .agg fs=>gO fs
 | .tup vs=>gO vs
 | .clo _ cap=>gO cap
 | .arr t _ _=>t.noSl
 | _=>true
def gO:List TV→Bool
 | []=>true
 | x::l=>x.noRo&&gO l
end
mutual
def TV.flat:TV→Option (List Value)
 | .v x=>some [x]
 | .agg fs=>Rl fs
 | _=>none
def Rl:List TV→Option (List Value)
 | []=>some []
 | x::l=>match x.flat,Rl l with
  | some a,some b=>some (a++b)
  | _,_=>none
end
def TV.val:TV→Option Value
 | .v x=>some x
 | .agg fs=>match Rl fs with
  | some l=>some (.agg l.toArray)
  | none=>none
 | _=>none
def fits (P:Program) (T:TypeId) (x:TV):Bool :=
 x.solid&&(match bn P T with
 | some n=>Nat.beq n x.cells&&x.isAgg==RG P T&&(P.underlying T).isSome
 | none=>false)
def TV.getP:TV→List Step→Tr TV
 | x,[]=>.ret x
 | .agg fs,.f k o::p=>match fs[k]? with
  | some x=>bif Nat.beq (cC (fs.take k)) o then x.getP p else .fail
  | none=>.fail
 | .arr t _ xs,.i j sz::p=>bif Nat.beq t.cells sz then .ask _ xs[j]? fun x=>(js t x).getP p else .fail
 | _,_=>.fail
def TV.setP:TV→List Step→TV→Tr TV
 | x,[],y=>bif Nat.beq x.cells y.cells&&x.solid&&y.solid then .ret y else .fail
 | .agg fs,.f k o::p,y=>match fs[k]? with
  | some x=>bif Nat.beq (cC (fs.take k)) o then (x.setP p y).bind fun z=>.ret (.agg (fs.set k z)) else .fail
  | none=>.fail
 | .arr t n xs,.i j sz::p,y=>bif Nat.beq t.cells sz then
   .ask _ xs[j]? fun x=>((js t x).setP p y).bind fun z=>(Tr.opt (dC t z)).bind fun u=>.ret (.arr t n (xs.set j u))
  else .fail
 | _,_,_=>.fail
def cj {α:Type} (xs:List α):Option (Nat×Nat)→List α
 | none=>xs
 | some (o,n)=>(xs.drop o).take n
mutual
def TV.ids:TV→List Nat
 | .adr id _|.sl id _|.mp id|.yv id=>[id]
 | .agg fs=>ar fs
 | .tup vs=>ar vs
 | .clo _ cap=>ar cap
 | _=>[]
def ar:List TV→List Nat
 | []=>[]
 | x::l=>x.ids++ar l
end
def Ob.ids:Ob→List Nat
 | .row ..=>[]
 | .map ..=>[]
 | .lp _ _ cap _=>ar cap
 | .var _ x=>x.ids
mutual
def TV.ren (f:Nat→Nat):TV→TV
 | .adr id p=>.adr (f id) p
 | .sl id p=>.sl (f id) p
 | .agg fs=>.agg (jI f fs)
 | .tup vs=>.tup (jI f vs)
 | .clo g cap=>.clo g (jI f cap)
 | .mp id=>.mp (f id)
 | .yv id=>.yv (f id)
 | x=>x
def jI (f:Nat→Nat):List TV→List TV
 | []=>[]
 | x::l=>x.ren f::jI f l
end
def Ob.ren (f:Nat→Nat):Ob→Ob
 | .row t e xs=>.row t e xs
 | .map k v xs=>.map k v xs
 | .lp k lv cap j=>.lp k lv (jI f cap) j
 | .var T x=>.var T (x.ren f)
def reach {γ:Type}:Nat→List Nat→List Nat→List (Option Ob)→(List Nat→List (Option Ob)→GTr γ)→GTr γ
 | _,[],ren,obs,k=>k ren obs
 | 0,_::_,_,_,_=>.done .fail
 | n+1,id::todo,ren,obs,k =>
  if ren.contains id then reach n todo ren obs k
  else .get id fun o=>reach n (todo++(match o with|some ob=>ob.ids|none=>[])) (ren++[id]) (obs++[o]) k
def jw (l:List Nat) (id:Nat):Nat:=l.idxOf id
def XE:Nat:=400
def be:Nat:=18446744073709551616
def tu {γ:Type} (pin roots:List TV) (k:List Nat→Pk→GTr γ):GTr γ :=
 reach XE (ar pin++ar roots) [] [] fun ren obs =>
  k ren { roots:=jI (jw ren) roots,obs:=obs.map fun o=>match o with|some ob=>some (ob.ren (jw ren))|none=>none }
end
end Go.Am
namespace Go.Am
noncomputable section
inductive Ex where
 | normal|exit (id:Nat)|ret
structure Cut where
 live:List Nat
 out:Ex→List Nat
 orc:Pk→Tr (Ex×Pk)
structure Env where
 P:Program
 call:FuncId→Pk→Tr Pk
 own:FuncId→List Nat
 cut:Nat→Option Cut
 base:Nat:=0
variable (P:Program)
def U5 (op:BinOp) (k:IntKind) (x y:Int):Tr TV :=
 match op with
 | .add=>.ret (.v (.int k (k.wrap (x+y))))
 | .sub=>.ret (.v (.int k (k.wrap (x-y))))
 | .mul=>.ret (.v (.int k (k.wrap (x*y))))
 | .quo=>.ite (decide (y=0)) .fail (.ret (.v (.int k (k.wrap (x.tdiv y)))))
 | .rem=>.ite (decide (y=0)) .fail (.ret (.v (.int k (x.tmod y))))
 | .and=>.ret (.v (.int k (k.wrap (BitVec.ofInt k.bits x &&& BitVec.ofInt k.bits y).toNat)))
 | .or=>.ret (.v (.int k (k.wrap (BitVec.ofInt k.bits x ||| BitVec.ofInt k.bits y).toNat)))
 | .xor=>.ret (.v (.int k (k.wrap (BitVec.ofInt k.bits x ^^^ BitVec.ofInt k.bits y).toNat)))
 | .andNot=>.ret (.v (.int k (k.wrap (BitVec.ofInt k.bits x &&& ~~~ BitVec.ofInt k.bits y).toNat)))
 | .eql=>.ret (.v (.bool (x==y)))
 | .neq=>.ret (.v (.bool (x != y)))
 | .lss=>.ret (.v (.bool (decide (x<y))))
 | .leq=>.ret (.v (.bool (decide (x≤y))))
 | .gtr=>.ret (.v (.bool (decide (x>y))))
 | .geq=>.ret (.v (.bool (decide (x≥y))))
 | _=>.fail
def shI (op:BinOp) (k:IntKind) (x y:Int):Tr TV :=
 .ite (decide (y<0)) .fail <| match op with
  | .shl=>.ret (.v (.int k (k.wrap (x*2^(min y.toNat k.bits)))))
  | .shr=>.ret (.v (.int k (x.fdiv (2^(min y.toNat k.bits)))))
  | _=>.fail
def af3 (op:BinOp) (x y:ByteArray):Tr TV :=
 match op with
 | .add=>.ite (decide (((x.size+y.size:Nat):Int)>IntKind.i64.max)) .fail (.ret (.v (.string (x++y))))
 | .eql=>.ret (.v (.bool (x.toList==y.toList)))
 | .neq=>.ret (.v (.bool (!(x.toList==y.toList))))
 | .lss=>.ret (.v (.bool (Op.bytesLess x.toList y.toList)))
 | .leq=>.ret (.v (.bool (Op.bytesLess x.toList y.toList||x.toList==y.toList)))
 | .gtr=>.ret (.v (.bool (!(Op.bytesLess x.toList y.toList||x.toList==y.toList))))
 | .geq=>.ret (.v (.bool (!(Op.bytesLess x.toList y.toList))))
 | _=>.fail
def RB (P:Program) (op:BinOp) (T:TypeId) (x y:TV):Tr TV :=
 match x,y with
 | .v (.int k a),.v (.int k' b) =>
  match op with
  | .shl|.shr=>shI op k a b
  | _=>if k=k' then U5 op k a b else .fail
 | .v (.string a),.v (.string b)=>af3 op a b
 | .v (.bool a),.v (.bool b) =>
  match op,P.underlying T with
  | .eql,some .bool=>.ret (.v (.bool (a==b)))
  | .neq,some .bool=>.ret (.v (.bool (!(a==b))))
  | _,_=>.fail
 | .adr ..,.v (.pointer none) =>
  match op,P.underlying T with
  | .eql,some (.pointer _)=>.ret (.v (.bool false))
  | .neq,some (.pointer _)=>.ret (.v (.bool true))
  | _,_=>.fail
 | .v (.pointer none),.v (.pointer none) =>
  match op,P.underlying T with
  | .eql,some (.pointer _)=>.ret (.v (.bool true))
  | .neq,some (.pointer _)=>.ret (.v (.bool false))
  | _,_=>.fail
 | _,_=>.fail
def stB:Step→Step→Bool
 | .f a b,.f c d=>Nat.beq a c&&Nat.beq b d
 | .i a b,.i c d=>Nat.beq a c&&Nat.beq b d
 | _,_=>false
def sP:List Step→List Step→Bool
 | [],[]=>true
 | a::l,b::m=>stB a b&&sP l m
 | _,_=>false
theorem ab5:∀{a b:Step},stB a b=true→a=b
 | .f a b,.f c d,h=>by
  have h:(Nat.beq a c&&Nat.beq b d)=true:=h
  rw[Bool.and_eq_true] at h
  rw[Nat.eq_of_beq_eq_true h.1,Nat.eq_of_beq_eq_true h.2]
 | .i a b,.i c d,h=>by
  have h:(Nat.beq a c&&Nat.beq b d)=true:=h
  rw[Bool.and_eq_true] at h
  rw[Nat.eq_of_beq_eq_true h.1,Nat.eq_of_beq_eq_true h.2]
theorem ni:∀{a b:List Step},sP a b=true→a=b
 | [],[],_=>rfl
 | a::l,b::m,h=>by
  have h:(stB a b&&sP l m)=true:=h
  rw[Bool.and_eq_true] at h
  rw[ab5 h.1,ni h.2]
def QO (P:Program) (T:TypeId):Bool:=match P.underlying T with
 | some (.pointer te)=>(P.info? te).isSome
 | _=>false
def JE (P:Program) (op:BinOp) (T:TypeId) (i:Nat) (p:List Step) (j:Nat) (q:List Step):GTr Eff:=.get i fun
 | some _=>bif Nat.beq i j&&(sP p q&&QO P T) then (match op with
  | .eql=>.done (.ret ⟨.v (.bool true),[],[]⟩)
  | .neq=>.done (.ret ⟨.v (.bool false),[],[]⟩)
  | _=>.done .fail) else .done .fail
 | none=>.done .fail
def Eg (P:Program) (T:TypeId):Bool:=!(P.stoodInHeld T)&&!(P.eqGuardType P.depth T)
def Rs (P:Program) (E:TypeId→TV→TV→Option Bool):List Field→List TV→List TV→Nat→Option Bool
 | [],[],[],_=>some true
 | f::fs,x::l,y::m,off =>
  bif !(f.name == "_")&&Nat.beq f.offset off&&fits P f.type x&&fits P f.type y then
   match E f.type x y,Rs P E fs l m (off+x.cells) with
   | some a,some b=>some (a&&b)
   | _,_=>none
  else none
 | _,_,_,_=>none
def OF (P:Program):Nat→TypeId→TV→TV→Option Bool
 | 0,_,_,_=>none
 | n+1,T,x,y=>match P.underlying T,x,y with
  | some (.int _),.v (.int k a),.v (.int k' b)=>if k=k' then some (a==b) else none
  | some .bool,.v (.bool a),.v (.bool b)=>some (a==b)
  | some .string,.v (.string a),.v (.string b)=>some (a.toList==b.toList)
  | some (.struct fs),.agg l,.agg m=>bif Eg P T then Rs P (OF P n) fs.toList l m 0 else none
  | _,_,_=>none
def HU (P:Program) (op:BinOp) (T:TypeId) (x y:TV):Tr TV :=
 match x,y with
 | .agg l,.agg m=>match op,OF P 12 T (.agg l) (.agg m) with
  | .eql,some b=>.ret (.v (.bool b))
  | .neq,some b=>.ret (.v (.bool (!b)))
  | _,_=>.fail
 | x,y=>RB P op T x y
def meets (a b:List Nat):Bool:=a.any fun x=>b.any fun y=>Nat.beq x y
def ids (u:List (Nat×Option Ob)):List Nat:=u.map (·.1)
def freeze {γ:Type}:Nat→TV→(TV→List (Nat×Option Ob)→GTr γ)→GTr γ
 | 0,_,_=>.done .fail
 | _+1,.sl id p,k=>.get id fun
  | some (.row t _ xs)=>k (.ro t (cj xs p)) [(id,none)]
  | _=>.done .fail
 | n+1,.agg fs,k=>go n fs fun l u=>k (.agg l) u
 | _+1,x,k=>k x []
where
 go (n:Nat):List TV→(List TV→List (Nat×Option Ob)→GTr γ)→GTr γ
  | [],k=>k [] []
  | x::r,k=>freeze n x fun y u=>go n r fun l u'=>bif meets (ids u) (ids u') then .done .fail else k (y::l) (u++u')
def rD {γ:Type}:Nat→TV→(TV→GTr γ)→GTr γ
 | 0,_,_=>.done .fail
 | _+1,.sl id p,k=>.get id fun
  | some (.row t _ xs)=>k (.ro t (cj xs p))
  | _=>.done .fail
 | n+1,.agg fs,k=>go n fs fun l=>k (.agg l)
 | _+1,x,k=>k x
where
 go (n:Nat):List TV→(List TV→GTr γ)→GTr γ
  | [],k=>k []
  | x::r,k=>rD n x fun y=>go n r fun l=>k (y::l)
def one (x:TV):Tr Eff:=.ret ⟨x,[],[]⟩
def a6 (t:Tr TV):GTr Eff:=.done (t.bind one)
def ak {γ:Type}:GTr γ:=.done .fail
def e9:TV:=.v undef
def within (i:Int) (n:Nat):Bool:=decide (0≤i∧i<(n:Int))
def asI:TV→Option (IntKind×Int)
 | .v (.int k x)=>some (k,x)
 | _=>none
def gU (P:Program) (S:TypeId) (k:Nat):Option Nat :=
 match P.underlying S with
 | some (.struct fs)=>match fs[k]? with
  | some f=>match bn P f.type with
   | some 0=>none
   | some _=>some f.offset
   | none=>none
  | none=>none
 | _=>none
def nN (P:Program) (S:TypeId) (k:Nat):Option TypeId :=
 match P.underlying S with
 | some (.struct fs)=>match fs[k]? with
  | some f=>some f.type
  | none=>none
 | _=>none
def ae3:TV→TV
 | .v (.func (.func g) ⟨[]⟩ ⟨[]⟩)=>.fv g
 | x=>x
def JK (P:Program) (T:TypeId) (x:TV) (b:Nat):Option (TV×List (Nat×Ob)):=match norm P T x b with
 | some (y,u)=>some (ae3 y,u)
 | none=>none
def jC (P:Program) (S:TypeId):List TV→List (Nat×TV)→Nat→Option (List TV×List (Nat×Ob))
 | fs,[],_=>some (fs,[])
 | fs,(i,x)::r,b =>
  match nN P S i,gU P S i,fs[i]? with
  | some T,some off,some old=>match JK P T x b with
   | none=>none
   | some (y,u)=>bif fits P T y&&Nat.beq old.cells y.cells&&Nat.beq (cC (fs.take i)) off then match jC P S (fs.set i y) r (b+u.length) with
    | some (l,u')=>some (l,u++u')
    | none=>none else none
  | _,_,_=>none
def rowOf (t:Ty):List t.den→List (Nat×TV)→Option (List t.den)
 | xs,[]=>some xs
 | xs,(i,x)::r=>match dC t x with
  | some y=>bif Nat.blt i xs.length then rowOf t (xs.set i y) r else none
  | none=>none
def gT {γ:Type}:List (Nat×TV)→(List (Nat×TV)→List (Nat×Option Ob)→GTr γ)→GTr γ
 | [],k=>k [] []
 | (i,x)::r,k=>freeze 8 x fun y u=>gT r fun l u'=>bif meets (ids u) (ids u') then .done .fail else k ((i,y)::l) (u++u')
def JM (P:Program) (T:TypeId):Option TV:=match P.underlying T with
 | some (.slice e)=>match cT P nf e with
  | some t=>some (.ro t [])
  | none=>none
 | _=>none
def lf (P:Program) (T:TypeId):List (Nat×TV)→Option (List (Nat×TV))
 | []=>some []
 | (i,x)::r=>match norm P T x 0,lf P T r with
  | some (z,[]),some l=>some ((i,z)::l)
  | some (.sl _ none,[_]),some l=>match x,JM P T with
   | .v (.slice none 0 0),some z=>some ((i,z)::l)
   | _,_=>none
  | _,_=>none
def qI (P:Program) (e:TypeId) (t:Ty):Option t.den :=
 match (P.info? e).bind (·.zero),bn P e with
 | some z,some sz=>bif Nat.beq sz t.cells&&Nat.blt 0 sz then (match wC t z.cells.toList with
  | some (x,[])=>some x
  | _=>none) else none
 | _,_=>none
def bytesOf (s:ByteArray):List Int:=s.toList.map fun b=>(b.toNat:Int)
def aE (xs:List Int):ByteArray:=⟨(xs.map fun n=>UInt8.ofNat n.toNat).toArray⟩
def bh:Nat:=140737488355328
def HW (P:Program) (T2:TypeId) (y:TV) (t:Ty) (u:List (Nat×Option Ob)) (k:List t.den→GTr Eff):GTr Eff :=
 match P.underlying T2,y with
 | some (.slice _),.sl id2 p2=>.get id2 fun
  | some (.row t2 _ ys)=>if h:t2=t then (bif has (ids u) id2 then ak else k (jq h (cj ys p2))) else ak
  | _=>ak
 | some (.slice _),.ro t2 ys=>if h:t2=t then k (jq h ys) else ak
 | some (.slice _),.v (.slice none 0 0)=>k []
 | some .string,.v (.string s)=>if h:Ty.int .u8=t then k (jq h (bytesOf s)) else ak
 | _,_=>ak
def HX (x:TV) (t:Ty) (e:TypeId) (k:List t.den→List (Nat×Option Ob)→GTr Eff):GTr Eff :=
 match x with
 | .sl id p=>.get id fun
  | some (.row t1 e1 xs)=>bif Nat.beq e1 e then (if h:t1=t then
    match p with
    | none=>k (jq h xs) [(id,none)]
    | some (0,n)=>bif t.isU8 then ak else k (jq h (xs.take n)) [(id,none)]
    | _=>ak
   else ak) else ak
  | _=>ak
 | .v (.slice none 0 0)=>k [] []
 | _=>ak
def RE (P:Program) (T1 T2:TypeId) (x y:TV) (b:Nat):GTr Eff :=
 match P.underlying T1 with
 | some (.slice e) =>
  match cT P nf e,P.info? e with
  | some t,some info =>
   match qI P e t with
   | none=>ak
   | some _=>HX x t e fun xs u=>HW P T2 y t u fun ys =>
     .done (.ite (decide ((xs.length+ys.length)*info.bytes≤bh∧xs.length+ys.length≤bh)) (.ret ⟨.sl b none,u,[(b,.row t e (xs++ys))]⟩) .fail)
  | _,_=>ak
 | _=>ak
def Q3 (P:Program) (T:TypeId) (x:TV):GTr Eff :=
 match P.underlying T,x with
 | some .string,.v (.string s)=>a6 (.ret (.v (goInt s.size)))
 | some (.slice _),.sl id p=>.get id fun
  | some (.row _ _ xs)=>match p with
   | none=>a6 (.ret (.v (goInt xs.length)))
   | some (_,n)=>a6 (.ret (.v (goInt n)))
  | _=>ak
 | some (.slice _),.ro _ xs=>a6 (.ret (.v (goInt xs.length)))
 | some (.slice _),.v (.slice none 0 0)=>a6 (.ret (.v (goInt 0)))
 | some (.array n _),_=>a6 (.ret (.v (goInt n)))
 | _,_=>ak
def HD (P:Program) (T:TypeId) (x:TV):GTr Eff :=
 match P.underlying T,x with
 | some (.map _ _),.mp id=>.get id fun
  | some (.map _ _ xs)=>a6 (.ret (.v (goInt xs.length)))
  | _=>ak
 | _,x=>Q3 P T x
def Rz (P:Program) (T:TypeId) (x:TV):GTr Eff :=
 match P.underlying T,x with
 | some (.slice _),.v (.slice none 0 0)=>a6 (.ret (.v (goInt 0)))
 | _,_=>ak
def zJ (P:Program) (T1:TypeId) (n:Int) (b:Nat):GTr Eff :=
 match P.underlying T1 with
 | some (.slice e)=>match cT P nf e,P.info? e with
  | some t,some info=>(match qI P e t with
   | some z=>.done (.ite (decide (0<n∧n*info.bytes≤bh∧n≤bh)) (.ret ⟨.sl b none,[],[(b,.row t e (List.replicate n.toNat z))]⟩) .fail)
   | none=>ak)
  | _,_=>ak
 | _=>ak
def ay1 (P:Program) (T1 T2:TypeId) (x y:TV) (b:Nat):GTr Eff :=
 match P.underlying T2,x,y with
 | some (.int _),.v (.slice none 0 0),.v (.int _ n)=>zJ P T1 n b
 | _,x,y=>RE P T1 T2 x y b
def Hs {α:Type} (xs:List α) (o:Nat) (zs:List α):List α:=xs.take o++zs++xs.drop (o+zs.length)
def AI (y:TV) (t:Ty) (k:List t.den→GTr Eff):GTr Eff :=
 match y with
 | .sl id2 p2=>.get id2 fun
  | some (.row t2 _ ys)=>if h:t2=t then k (jq h (cj ys p2)) else ak
  | _=>ak
 | .ro t2 ys=>if h:t2=t then k (jq h ys) else ak
 | .v (.slice none 0 0)=>k []
 | _=>ak
def cf:Option (Nat×Nat)→Nat
 | none=>0
 | some (o,_)=>o
def cH (n:Nat):Option (Nat×Nat)→Nat
 | none=>n
 | some (_,m)=>m
def HM (P:Program) (T1:TypeId) (x y:TV):GTr Eff :=
 match P.underlying T1,x with
 | some (.slice e),.sl id p=>.get id fun
  | some (.row t e' xs)=>match bn P e with
   | some 1=>bif Nat.beq t.cells 1 then AI y t fun ys =>
     .done (.ret ⟨.v (goInt ((min ys.length (cH xs.length p):Nat):Int)),[(id,some (.row t e' (Hs xs (cf p) (ys.take (min ys.length (cH xs.length p))))))],[]⟩)
    else ak
   | _=>ak
  | _=>ak
 | _,_=>ak
def mx2 (op:Bool):TV→TV→Tr TV
 | .v (.int k x),.v (.int _ y)=>.ret (.v (.int k (if op then (if y>x then y else x) else (if y<x then y else x))))
 | _,_=>.fail
def ad1 (op:Bool):List TV→Tr TV
 | []=>.fail
 | x::r=>r.foldl (fun t y=>t.bind fun z=>mx2 op z y) (.ret x)
def pF (P:Program) (bi:Builtin) (Ts:List TypeId) (xs:List TV) (b:Nat):GTr Eff :=
 match bi,Ts,xs with
 | .append,[T1,T2],[x,y]=>ay1 P T1 T2 x y b
 | .copy,[T1,_],[x,y]=>HM P T1 x y
 | .cap,T::_,[x]=>Rz P T x
 | .len,T::_,[x]=>HD P T x
 | .max,_,xs=>a6 (ad1 true xs)
 | .min,_,xs=>a6 (ad1 false xs)
 | _,_,_=>ak
def JQ (lo:Option TV) (h:Nat) (k:Nat→Nat→Tr TV):Tr TV:=match lo with
 | none=>k 0 h
 | some (.v (.int _ i))=>.ite (decide (0≤i∧i≤(h:Int))) (k i.toNat h) .fail
 | _=>.fail
def t7 (n:Nat) (lo hi:Option TV) (k:Nat→Nat→Tr TV):Tr TV :=
 match hi with
 | none=>JQ lo n k
 | some (.v (.int _ i))=>.ite (decide (0≤i∧i≤(n:Int))) (JQ lo i.toNat k) .fail
 | _=>.fail
def zS (P:Program) (T:TypeId) (x:TV) (lo hi:Option TV):GTr Eff :=
 match P.underlying T,x with
 | some .string,.v (.string s)=>a6 (t7 s.size lo hi fun l h=>.ret (.v (.string (s.extract l h))))
 | some (.slice e),.sl id p=>.get id fun
  | some (.row t _ xs)=>(match bn P e with
   | some sz=>bif Nat.beq t.cells sz then (match p with
    | none=>a6 (t7 xs.length lo hi fun l h=>.ret (.sl id (some (l,h-l))))
    | some (o,n)=>a6 (t7 n lo hi fun l h=>.ret (.sl id (some (o+l,h-l))))) else ak
   | none=>ak)
  | _=>ak
 | some (.slice e),.ro t xs=>(match bn P e with
   | some sz=>bif Nat.beq t.cells sz then a6 (t7 xs.length lo hi fun l h=>.ret (.ro t ((xs.drop l).take (h-l)))) else ak
   | none=>ak)
 | some (.slice e),.v (.slice none 0 0)=>match bn P e with
  | some _=>a6 (t7 0 lo hi fun _ _=>.ret (.v (.slice none 0 0)))
  | none=>ak
 | _,_=>ak
def sU (P:Program) (T:TypeId) (x hi mx:TV):GTr Eff :=
 match P.underlying T,x,hi,mx with
 | some (.slice e),.sl id p,.v (.int _ h),.v (.int _ m)=>.get id fun
  | some (.row t _ xs)=>(match bn P e with
   | some sz=>bif Nat.beq t.cells sz then (match p with
    | none=>a6 (.ite (decide (0≤h∧h≤m∧m≤(xs.length:Int))) (.ret (.sl id (some (0,h.toNat)))) .fail)
    | some (o,n)=>a6 (.ite (decide (0≤h∧h≤m∧m≤(n:Int))) (.ret (.sl id (some (o,h.toNat)))) .fail)) else ak
   | none=>ak)
  | _=>ak
 | _,_,_,_=>ak
def sS (P:Program) (T:TypeId) (x lo hi mx:TV):GTr Eff :=
 match P.underlying T,x,lo,hi,mx with
 | some (.slice e),.sl id p,.v (.int _ l),.v (.int _ h),.v (.int _ m)=>.get id fun
  | some (.row t _ xs)=>(match bn P e with
   | some sz=>bif Nat.beq t.cells sz then (match p with
    | none=>a6 (.ite (decide (0≤l∧l≤h∧h≤m∧m≤(xs.length:Int))) (.ret (.sl id (some (l.toNat,h.toNat-l.toNat)))) .fail)
    | some (o,n)=>a6 (.ite (decide (0≤l∧l≤h∧h≤m∧m≤(n:Int))) (.ret (.sl id (some (o+l.toNat,h.toNat-l.toNat)))) .fail)) else ak
   | none=>ak)
  | _=>ak
 | _,_,_,_,_=>ak
def AL (P:Program) (S T:TypeId) (x:TV) (b:Nat):GTr Eff :=
 match P.underlying S,P.underlying T,x with
 | some (.int _),some (.int k),.v (.int _ n)=>a6 (.ret (.v (.int k (k.wrap n))))
 | some .string,some .string,.v (.string s)=>a6 (.ret (.v (.string s)))
 | some (.slice e),some .string,x=>match P.underlying e with
  | some (.int .u8)=>match x with
   | .sl id p=>.get id fun
    | some (.row (.int .u8) _ xs)=>a6 (.ret (.v (.string (aE (cj xs p)))))
    | _=>ak
   | .ro (.int .u8) xs=>a6 (.ret (.v (.string (aE xs))))
   | .v (.slice none 0 0)=>a6 (.ret (.v (.string .empty)))
   | _=>ak
  | _=>ak
 | some .string,some (.slice e),.v (.string s)=>match P.underlying e with
  | some (.int .u8)=>.done (.ite (decide (s.size≤bh)) (.ret ⟨.sl b none,[],[(b,.row (.int .u8) e (bytesOf s))]⟩) .fail)
  | _=>ak
 | _,_,_=>ak
def lies (P:Program) (U:TypeId) (n off:Nat) (u:TypeId):Bool:=liesAt P P.depth U (n / P.cellsOf U) off u 1
def J1 (P:Program) (S T:TypeId) (id:Nat) (p:List Step):GTr Eff:=.get id fun
 | some (.var U x)=>(match P.underlying S,P.underlying T with
  | some (.pointer t),some .unsafePointer=>(match (P.info? t).map (·.size) with
   | some (_+1)=>bif Nat.blt (bq p) x.cells then .done (one (.adr id p)) else ak
   | _=>ak)
  | some .unsafePointer,some (.pointer u)=>bif (P.info? u).isSome&&lies P U x.cells (bq p) u then .done (one (.adr id p)) else ak
  | _,_=>ak)
 | _=>ak
def AK (P:Program) (S T:TypeId) (x:TV) (b:Nat):GTr Eff:=match x with
 | .adr id p=>J1 P S T id p
 | x=>AL P S T x b
def HS (P:Program) (op:BinOp) (T:TypeId) (x y:TV):GTr Eff:=match x,y with
 | .adr i p,.adr j q=>JE P op T i p j q
 | x,y=>a6 (HU P op T x y)
def tK (P:Program) (T:TypeId) (a:TV):GTr Eff :=
 let fin (x:TV):Tr Eff:=if fits P T x then one x else .fail
 match a with
 | .adr id p=>.get id fun
  | some (.var _ x)=>.done ((x.getP p).bind fin)
  | some (.row t _ xs)=>match p with
   | .i j sz::p=>bif Nat.beq t.cells sz then .done (.ask _ xs[j]? fun x=>((js t x).getP p).bind fin) else ak
   | _=>ak
  | _=>ak
 | .radr t xs (.i j sz::p)=>bif Nat.beq t.cells sz then .done (.ask _ xs[j]? fun x=>((js t x).getP p).bind fin) else ak
 | _=>ak
def zR (P:Program) (T:TypeId) (a x:TV) (b:Nat):GTr Eff :=
 match a with
 | .adr id p =>
  match JK P T x b with
  | some (y,u) =>
   if fits P T y then
    .get id fun
    | some (.var U z)=>.done ((z.setP p y).bind fun z'=>.ret ⟨e9,[(id,some (.var U z'))],u⟩)
    | some (.row t e xs)=>match p with
     | .i j sz::p=>bif Nat.beq t.cells sz then freeze 8 y fun y' w=>.done (.ask _ xs[j]? fun z=>((js t z).setP p y').bind fun z'=>(Tr.opt (dC t z')).bind fun q=>bif has (ids w) id then .fail else .ret ⟨e9,w++[(id,some (.row t e (xs.set j q)))],u⟩) else ak
     | _=>ak
    | _=>ak
   else ak
  | none=>ak
 | _=>ak
def pz (P:Program) (T:TypeId) (x i:TV):GTr Eff :=
 match asI i with
 | none=>ak
 | some (_,i) =>
  match P.underlying T,x with
  | some (.slice e),.sl id p=>match bn P e with
   | some sz=>.get id fun
    | some (.row t _ xs)=>bif Nat.beq t.cells sz then (match p with
     | none=>a6 (.ite (within i xs.length) (.ret (.adr id [.i i.toNat sz])) .fail)
     | some (o,n)=>a6 (.ite (within i n) (.ret (.adr id [.i (o+i.toNat) sz])) .fail)) else ak
    | _=>ak
   | none=>ak
  | some (.slice e),.ro t xs=>match bn P e with
   | some sz=>bif Nat.beq t.cells sz then a6 (.ite (within i xs.length) (.ret (.radr t xs [.i i.toNat sz])) .fail) else ak
   | none=>ak
  | some (.array n e),.adr id p=>match bn P e with
   | some sz=>a6 (.ite (within i n) (.ret (.adr id (p++[.i i.toNat sz]))) .fail)
   | none=>ak
  | some (.array n e),.radr t xs p=>match bn P e with
   | some sz=>a6 (.ite (within i n) (.ret (.radr t xs (p++[.i i.toNat sz]))) .fail)
   | none=>ak
  | _,_=>ak
def Ax (P:Program) (S:TypeId) (x:TV) (k:Nat):Tr TV :=
 match gU P S k,nN P S k,x with
 | some off,some T,.agg fs=>match fs[k]? with
  | some y=>bif Nat.beq (cC (fs.take k)) off&&fits P T y then .ret y else .fail
  | none=>.fail
 | _,_,_=>.fail
def jR (P:Program) (S:TypeId) (x:TV) (k:Nat):Tr TV :=
 match gU P S k with
 | some off=>match x with
  | .adr id p=>.ret (.adr id (p++[.f k off]))
  | .radr t xs p=>.ret (.radr t xs (p++[.f k off]))
  | _=>.fail
 | none=>.fail
def Ra (P:Program) (T:TypeId) (x i:TV):GTr Eff :=
 match asI i with
 | none=>ak
 | some (_,i) =>
  match P.underlying T,x with
  | some .string,.v (.string s)=>a6 (.ite (decide (0≤i)) (.ask _ s[i.toNat]? fun b=>.ret (.v (.int .u8 b.toNat))) .fail)
  | some (.array n e),.arr t m xs=>match bn P e with
   | some sz=>bif Nat.beq sz t.cells&&Nat.beq n m then a6 (.ite (within i xs.length) (.ask _ xs[i.toNat]? fun x=>bif fits P e (js t x) then .ret (js t x) else .fail) .fail) else ak
   | none=>ak
  | _,_=>ak
mutual
def c7:TV→List Nat
 | .sl id _=>[id]
 | .agg fs=>jB fs
 | _=>[]
def jB:List TV→List Nat
 | []=>[]
 | x::l=>c7 x++jB l
end
def ptrTo (P:Program) (T:TypeId):Option TypeId :=
 match P.underlying T with
 | some (.pointer e)=>some e
 | some (.struct _)=>some T
 | _=>none
def Q0 {γ:Type} (P:Program) (T:TypeId) (x:TV) (k:TV→List Nat→GTr γ):GTr γ :=
 match ptrTo P T,x with
 | some e,.adr id []=>match cT P nf e with
  | some t=>.get id fun
   | some (.var _ y)=>rD 8 y fun z=>match dC t z with
    | some d=>k (.radr t [d] [.i 0 t.cells]) (id::c7 y)
    | none=>.done .fail
   | _=>.done .fail
  | none=>.done .fail
 | some _,.radr t xs p=>k (.radr t xs p) []
 | _,_=>.done .fail
def Q2 {γ:Type} (P:Program) (x:TV) (k:TV→List Nat→GTr γ):GTr γ :=
 match x with
 | .adr id []=>.get id fun
  | some (.var T y)=>match cT P nf T with
   | some t=>rD 8 y fun z=>match dC t z with
    | some d=>k (.radr t [d] [.i 0 t.cells]) (id::c7 y)
    | none=>.done .fail
   | none=>.done .fail
  | _=>.done .fail
 | .radr t xs p=>k (.radr t xs p) []
 | _=>.done .fail
def JS {γ:Type} (x:TV) (k:TV→GTr γ):GTr γ :=
 match x with
 | .sl id none=>.get id fun
  | some (.row _ _ xs)=>k (.sl id (some (0,xs.length)))
  | _=>.done .fail
 | .sl id (some q)=>k (.sl id (some q))
 | .ro t xs=>k (.ro t xs)
 | _=>.done .fail
def Ab:TV→Bool
 | .v (.slice none 0 0)=>true
 | _=>false
def ft {γ:Type} (P:Program):List Nat→List TypeId→List TV→(List TV→List Nat→GTr γ)→GTr γ
 | _,_,[],k=>k [] []
 | os,T::Ts,x::xs,k =>
  bif Nat.beq (os.headD 0) 3 then (bif Ab x then ft P os.tail Ts xs fun l w=>k (x::l) w else .done .fail) else
  bif Nat.beq (os.headD 0) 4 then (JS x fun y=>ft P os.tail Ts xs fun l w=>k (y::l) w) else
  bif Nat.beq (os.headD 0) 5 then (rD 8 x fun z=>ft P os.tail Ts xs fun l w=>k (z::l) (c7 x++w)) else
  bif Nat.beq (os.headD 0) 6 then (Q2 P x fun z w'=>ft P os.tail Ts xs fun l w=>k (z::l) (w'++w)) else
  match norm P T x 0 with
  | some (y,[]) =>
   (match os.headD 0 with
   | 0=>rD 8 y fun z=>ft P os.tail Ts xs fun l w=>k (z::l) (c7 y++w)
   | 1=>ft P os.tail Ts xs fun l w=>k (y::l) w
   | _=>Q0 P T y fun z w'=>ft P os.tail Ts xs fun l w=>k (z::l) (w'++w))
  | some _=>(match x,JM P T with
   | .v (.slice none 0 0),some z=>ft P os.tail Ts xs fun l w=>k (z::l) w
   | _,_=>.done .fail)
  | none=>.done .fail
 | _,[],_::_,_=>.done .fail
def Hy:Option Ob→Bool
 | some (.row t _ _)=>t.noSl
 | some (.map ..)=>true
 | some (.lp _ _ cap _)=>gO cap
 | some (.var _ x)=>x.noRo
 | none=>true
def Pk.fd (pk:Pk) (i:Nat):Option Ob:=(pk.obs[i]?).bind id
def Pk.full (r:Pk) (pins:List Nat):Bool :=
 let ok (i:Nat):Bool:=has pins i||(r.fd i).isSome
 (ar r.roots).all ok&&r.obs.all fun o=>match o with|some ob=>ob.ids.all ok|none=>true
def Pk.noRo (r:Pk):Bool:=gO r.roots&&r.obs.all Hy
mutual
def OQ:TV→List TV
 | .adr i p=>[.adr i p]
 | .sl i (some q)=>[.sl i (some q)]
 | .agg fs=>HY fs
 | .clo _ cap=>HY cap
 | .mp i=>[.mp i]
 | .yv i=>[.yv i]
 | _=>[]
def HY:List TV→List TV
 | []=>[]
 | x::l=>OQ x++HY l
end
mutual
def RH:TV→List TV
 | .adr i _=>[.adr i []]
 | .agg fs=>yt fs
 | .clo _ cap=>yt cap
 | .yv i=>[.yv i]
 | _=>[]
def yt:List TV→List TV
 | []=>[]
 | x::l=>RH x++yt l
end
def obA:Ob→List TV
 | .var _ x=>RH x
 | .lp _ _ cap _=>yt cap
 | _=>[]
def QU:List (Option Ob)→List TV
 | []=>[]
 | some o::l=>obA o++QU l
 | none::l=>QU l
def Pk.pins (pk:Pk):List TV:=HY pk.roots++QU pk.obs
def mh {γ:Type}:Nat→List Nat→List Nat→(List Nat→GTr γ)→GTr γ
 | _,[],acc,k=>k acc
 | 0,_::_,_,_=>.done .fail
 | n+1,id::todo,acc,k =>
  if acc.contains id then mh n todo acc k
  else .get id fun o=>mh n (todo++(match o with|some ob=>ar (obA ob)|none=>[])) (acc++[id]) k
def JG {γ:Type} (ys:List TV) (k:List Nat→Pk→GTr γ):GTr γ :=
 mh XE (ar (HY ys)) [] fun ps=>tu (ps.map fun i=>.adr i []) ys k
def dV (b:Nat) (ren lent pins:List Nat) (r:Pk):Eff :=
 let back (i:Nat):Nat:=if has pins i then ren.getD i 0 else b+i
 {val:=(r.roots.headD .dead).ren back
  upd:=(ren.map fun id=>(id,if has pins (jw ren id) then (r.fd (jw ren id)).map (Ob.ren back) else none))++((bif r.noRo then [] else lent).map fun id=>(id,none))
  new:=(List.range r.obs.length).filterMap fun i=>if has pins i then none else (r.fd i).map fun ob=>(b+i,ob.ren back) }
def GTr.over {γ:Type} (u:List (Nat×Ob)):GTr γ→GTr γ
 | .done t=>.done t
 | .get id k=>match aB u id with
  | some o=>(k (some o)).over u
  | none=>.get id fun o=>(k o).over u
 | .ite b t e=>.ite b (t.over u) (e.over u)
def av7 (n:Nat):Bool:=Nat.beq n 1||Nat.beq n 4
def iG (P:Program):List Nat→List TypeId→List TV→Nat→Option (List TV×List (Nat×Ob))
 | _,_,[],_=>some ([],[])
 | os,T::Ts,x::xs,b=>match av7 (os.headD 0) with
  | true=>match norm P T x b with
   | some (y,u)=>match iG P os.tail Ts xs (b+u.length) with
    | some (l,v)=>some (y::l,u++v)
    | none=>none
   | none=>none
  | false=>match iG P os.tail Ts xs b with
   | some (l,v)=>some (x::l,v)
   | none=>none
 | _,[],_::_,_=>none
def AN (E:Env) (f:FuncId) (Ts:List TypeId) (xs:List TV) (b:Nat):GTr Eff :=
 ft E.P (E.own f) Ts xs fun ys lent =>
  JG ys fun ren pk=>bif meets ren lent then .done .fail else bif Nat.ble be f then .done .fail else .done ((E.call f pk).bind fun r =>
   bif r.full (ar pk.pins) then .ret (dV b ren lent (ar pk.pins) r) else .fail)
def my (E:Env) (f:FuncId) (Ts:List TypeId) (xs:List TV) (b:Nat):GTr Eff :=
 match iG E.P (E.own f) Ts xs (b+500) with
 | some (ys,u)=>((AN E f Ts ys b).over u).bind fun e=>.ret { val:=e.val,upd:=e.upd,new:=u++e.new }
 | none=>ak
def ae4 (E:Env) (n:Nat) (Ts:List TypeId) (xs:List TV) (b:Nat):List FuncId→GTr Eff
 | []=>ak
 | g::l=>.ite (Nat.beq n g) (my E g Ts xs b) (ae4 E n Ts xs b l)
def lh {γ:Type}:List TV→(List TV→GTr γ)→GTr γ
 | [],k=>k []
 | x::xs,k=>match x with
  | .sl id none=>JS (.sl id none) fun y=>lh xs fun l=>k (y::l)
  | x=>lh xs fun l=>k (x::l)
def zK (E:Env) (i:Nat) (xs:List TV) (b:Nat):GTr Eff :=
 .get i fun
 | some (.lp k _ cap _)=>lh xs fun ys =>
   JG (.yv i::(ys++cap)) fun ren pk =>
    .done ((E.call k pk).bind fun r=>bif r.full (ar pk.pins)&&(Nat.ble be k&&Nat.beq pk.roots.length (1+xs.length+cap.length)) then .ret (dV b ren [] (ar pk.pins) r) else .fail)
 | _=>ak
def HA (P:Program) (T:TypeId) (n c:TV) (b:Nat):GTr Eff :=
 match P.underlying T,n,c with
 | some (.slice e),.v (.int _ n),.v (.int _ c)=>match cT P nf e,P.info? e with
  | some t,some info=>(match qI P e t with
   | some z=>.done (.ite (decide (0≤n∧n≤c∧c*info.bytes≤bh∧c≤bh)) (.ret ⟨.sl b none,[],[(b,.row t e (List.replicate n.toNat z))]⟩) .fail)
   | none=>ak)
  | _,_=>ak
 | _,_,_=>ak
def mA (P:Program) (n:Nat) (e:TypeId) (z:Value) (parts:List (Nat×TV)):GTr Eff :=
 match cT P nf e,lf P e parts,bn P e with
 | some t,some ps,some sz=>(match Ha t n z.cells.toList with
  | some (xs0,[])=>bif Nat.beq sz t.cells&&(ps.all fun q=>q.2.solid) then gT ps fun l u=>match rowOf t xs0 l with
    | some xs=>.done (.ret ⟨.arr t n xs,u,[]⟩)
    | none=>ak else ak
  | _=>ak)
 | _,_,_=>ak
def AP (P:Program) (T:TypeId) (parts:List (Nat×TV)) (b:Nat):GTr Eff :=
 match (P.info? T).bind (·.zero),P.underlying T with
 | some z,some (.struct fs)=>match fU P nf T z.cells.toList b with
  | some (.agg l,u,b',[])=>bif (fs.toList.all fun(f:Field)=>(bn P f.type).isSome) then (match jC P T l parts b' with
   | some (l',u')=>.done (.ret ⟨.agg l',[],u++u'⟩)
   | none=>ak) else ak
  | _=>ak
 | some z,some (.array n e)=>mA P n e z parts
 | _,_=>ak
def iP (P:Program) (T:TypeId) (n:Nat) (parts:List (Nat×TV)) (b:Nat):GTr Eff :=
 match P.underlying T with
 | some (.slice e)=>match cT P nf e,lf P e parts with
  | some t,some ps=>(match qI P e t with
   | some z=>bif Nat.ble (n*t.cells) 16777216&&(ps.all fun q=>q.2.solid) then gT ps fun l u=>match rowOf t (List.replicate n z) l with
    | some xs=>.done (.ret ⟨.sl b none,u,[(b,.row t e xs)]⟩)
    | none=>ak else ak
   | none=>ak)
  | _,_=>ak
 | _=>ak
def Ai (P:Program) (T:TypeId) (x:TV) (b:Nat):GTr Eff :=
 match norm P T x b with
 | some (y,u)=>.done (.ret ⟨y,[],u⟩)
 | none=>ak
def JN (P:Program) (T:TypeId) (x:TV) (b:Nat):GTr Eff :=
 bif Ab x then .done (one x) else Ai P T x b
def QQ (c x y:TV):GTr Eff :=
 match c with
 | .v (.bool q)=>.done (.ite q (one x) (one y))
 | _=>ak
def AV (P:Program) (T:TypeId) (b:Nat):GTr Eff :=
 match (P.info? T).bind (·.zero) with
 | some z=>match fU P nf T z.cells.toList (b+1) with
  | some (x,u,_,[])=>.done (.ret ⟨.adr b [],[],u++[(b,.var T x)]⟩)
  | _=>ak
 | none=>ak
def XR (P:Program) (T:TypeId) (x:TV) (b:Nat):GTr Eff :=
 match norm P T x (b+1) with
 | some (y,u)=>bif y.solid then .done (.ret ⟨.adr b [],[],u++[(b,.var T y)]⟩) else ak
 | none=>ak
def XC (x:TV):GTr Eff :=
 match x with
 | .adr id p=>.done (one (.adr id p))
 | .radr t xs p=>.done (one (.radr t xs p))
 | .v (.func (.func f) a c)=>.done (one (.v (.func (.func f) a c)))
 | .clo g cap=>.done (one (.clo g cap))
 | _=>ak
def ar2 (op:UnOp) (x:TV):GTr Eff :=
 match op,x with
 | .neg,.v (.int k n)=>a6 (.ret (.v (.int k (k.wrap (0-n)))))
 | .not,.v (.bool q)=>a6 (.ret (.v (.bool (!q))))
 | .xor,.v (.int k n)=>a6 (U5 .xor k (if k.signed then -1 else k.max) n)
 | _,_=>ak
def yk (x:TV) (i:Nat):GTr Eff :=
 match x with
 | .tup vs=>match vs[i]? with
  | some y=>.done (one y)
  | none=>ak
 | _=>ak
def D1 (P:Program) (T:TypeId):Option (Ty×Ty×TypeId) :=
 match P.underlying T with
 | some (.map K V)=>match cT P nf K,cT P nf V with
  | some k,some v=>bif k.leaf&&v.leaf then some (k,v,V) else none
  | _,_=>none
 | _=>none
def PE (P:Program) (V:TypeId) (v:Ty):Option v.den :=
 match (P.info? V).bind (·.zero) with
 | some z=>match wC v [z] with
  | some (x,[])=>some x
  | _=>none
 | none=>none
def Ry {k v k' v':Ty} (h:k'=k∧v'=v) (xs:List (k'.den×v'.den)):List (k.den×v.den):=h.1▸h.2▸xs
def pw (P:Program) (T:TypeId) (r:Option TV) (b:Nat):GTr Eff :=
 match D1 P T,r with
 | some (k,v,_),none=>.done (.ret ⟨.mp b,[],[(b,.map k v [])]⟩)
 | some (k,v,_),some (.v (.int _ _))=>.done (.ret ⟨.mp b,[],[(b,.map k v [])]⟩)
 | _,_=>ak
def HC (v:Ty) (y:v.den) (h:Bool) (ok:Bool):TV:=bif ok then .tup [js v y,.v (.bool h)] else js v y
def tJ (P:Program) (T:TypeId) (x i:TV) (ok:Bool):GTr Eff :=
 match D1 P T with
 | some (k,v,V)=>(match PE P V v with
  | some z=>(match dC k i,x with
   | some a,.mp id=>.get id fun
    | some (.map k' v' xs)=>if h:k'=k∧v'=v then .done (one (HC v (gx k a z (Ry h xs)) (jP k a (Ry h xs)) ok)) else ak
    | _=>ak
   | some _,.v (.map none)=>.done (one (HC v z false ok))
   | _,_=>ak)
  | none=>ak)
 | none=>ak
def jO (P:Program) (T:TypeId) (x i y:TV):GTr Eff :=
 match D1 P T with
 | some (k,v,_)=>(match dC k i,dC v y,x with
  | some a,some b,.mp id=>.get id fun
   | some (.map k' v' xs)=>if h:k'=k∧v'=v then .done (.ret ⟨e9,[(id,some (.map k v (dJ k a b (Ry h xs))))],[]⟩) else ak
   | _=>ak
  | _,_,_=>ak)
 | none=>ak
def single:TV→Bool
 | .v x=>Ur x
 | .agg _|.arr ..|.tup _|.dead=>false
 | _=>true
def U0:TV→Option (FuncId×List TV)
 | .v (.func (.func g) a c)=>match a.toList,c.toList with
  | [],[]=>some (g,[])
  | _,_=>none
 | .clo g cap=>bif cap.all single then some (g,cap) else none
 | _=>none
def tF (fn:Fn) (first cap:List TV):GTr Eff :=
 match fn,first with
 | .func g,[]=>match cap with
  | []=>.done (one (.v (.func (.func g) #[] #[])))
  | cap=>bif cap.all single then .done (one (.clo g cap)) else ak
 | _,_=>ak
def Q9:List Nat→Bool
 | [n]=>Nat.beq n 77
 | _=>false
def XB:List TV→GTr Eff
 | [x]=>.done (one x)
 | _=>ak
def UX:TV→List Step→Option TV
 | x,[]=>some x
 | .agg fs,.f k o::p=>match fs[k]? with
  | some x=>bif Nat.beq (cC (fs.take k)) o then UX x p else none
  | none=>none
 | _,_=>none
def UU:List Nat→Option Nat
 | [n,e]=>bif Nat.beq n 78 then some e else none
 | _=>none
def Qv (i j:Nat) (T:TypeId) (x:TV) (p:List Step) (a:TV) (e:TypeId):Option Ob→GTr Eff
 | some (.row (.int .u8) e' xs)=>bif Nat.beq e e'&&Nat.beq a.cells 1 then
   .done (.ite (decide (0<xs.length∧xs.length≤bh)) ((x.setP p (.agg [a,.ro (.int .u8) xs])).bind fun z=>.ret ⟨.v (.string (aE xs)),[(j,none),(i,some (.var T z))],[]⟩) (.ite (decide (xs.length=0)) (.ret ⟨.v (.string ByteArray.empty),[],[]⟩) .fail)) else ak
 | _=>ak
def Hj (e:TypeId):List TV→GTr Eff
 | [.adr i p]=>.get i fun
  | some (.var T x)=>(match UX x p with
   | some (.agg [a,.sl j none])=>.get j fun o=>Qv i j T x p a e o
   | _=>ak)
  | _=>ak
 | _=>ak
def Ol (s:ByteArray) (c:Int):ByteArray:=⟨(Lib.repeatL s.data.toList c.toNat).toArray⟩
def QM:List TV→GTr Eff
 | [.v (.string s),.v (.int .i64 c)]=>.done (.ite (decide (0≤c∧c≤9223372036854775807∧s.size*c.toNat≤bh)) (.ret ⟨.v (.string (Ol s c)),[],[]⟩) .fail)
 | _=>ak
def Qw (e:TypeId) (xs:List TV):GTr Eff:=bif Nat.beq e 0 then QM xs else Hj e xs
def rS (E:Env) (f:TV) (Ts:List TypeId) (xs:List TV) (b:Nat):GTr Eff :=
 match f with
 | .yv i=>zK E i xs b
 | .fv n=>ae4 E n Ts xs b (E.own 0)
 | f=>match U0 f with
  | some (g,cap)=>bif Q9 (E.own g) then XB (xs++cap) else match UU (E.own g) with
   | some e=>Qw e (xs++cap)
   | none=>my E g (Ts++cap.map fun _=>0) (xs++cap) b
  | none=>ak
def jv (E:Env) (ρ:Operand→TV) (o:Oper) (b:Nat):GTr Eff :=
 match o.op with
 | .move x=>JN E.P o.type (ρ x) b
 | .assign x=>Ai E.P o.type (ρ x) b
 | .pick c x y=>QQ (ρ c) (ρ x) (ρ y)
 | .alloc T=>AV E.P T b
 | .box T x=>XR E.P T (ρ x) b
 | .build T parts=>AP E.P T (parts.toList.map fun(i,x)=>(i,ρ x)) b
 | .buildSlice T n parts=>iP E.P T n (parts.toList.map fun(i,x)=>(i,ρ x)) b
 | .load T a=>tK E.P T (ρ a)
 | .store T a x=>zR E.P T (ρ a) (ρ x) b
 | .nilCheck x=>XC (ρ x)
 | .binOp op T x y _=>HS E.P op T (ρ x) (ρ y)
 | .unOp op _ x=>ar2 op (ρ x)
 | .convert S T x=>AK E.P S T (ρ x) b
 | .makeSlice T n c=>HA E.P T (ρ n) (ρ c) b
 | .slice T x lo hi none=>zS E.P T (ρ x) (lo.map ρ) (hi.map ρ)
 | .slice T x none (some hi) (some mx)=>sU E.P T (ρ x) (ρ hi) (ρ mx)
 | .slice T x (some lo) (some hi) (some mx)=>sS E.P T (ρ x) (ρ lo) (ρ hi) (ρ mx)
 | .fieldAddr S x k=>a6 (jR E.P S (ρ x) k)
 | .field S x k=>a6 (Ax E.P S (ρ x) k)
 | .indexAddr T x i=>pz E.P T (ρ x) (ρ i)
 | .index T x i=>Ra E.P T (ρ x) (ρ i)
 | .extract x i=>yk (ρ x) i
 | .call c=>match c.callee with
  | .builtin bi=>pF E.P bi c.argTypes.toList (c.args.toList.map ρ) b
  | .value f=>rS E (ρ f) c.argTypes.toList (c.args.toList.map ρ) b
  | _=>ak
 | .makeFunc fn first cap=>tF fn (first.toList.map ρ) (cap.toList.map ρ)
 | .makeMap T r=>pw E.P T (r.map ρ) b
 | .lookup T x i ok=>tJ E.P T (ρ x) (ρ i) ok
 | .mapUpdate T x i y=>jO E.P T (ρ x) (ρ i) (ρ y)
 | _=>ak
def rF (l:List TV) (n:Nat):TV :=
 List.rec (motive:=fun _=>Nat→TV) (fun _=>.dead) (fun x _ ih n=>Nat.rec (motive:=fun _=>TV) x (fun m _=>ih m) n) l n
def zU (l:List TV) (n:Nat) (v:TV):List TV :=
 List.rec (motive:=fun _=>Nat→List TV) (fun _=>[]) (fun x tl ih n=>Nat.rec (motive:=fun _=>List TV) (v::tl) (fun m _=>x::ih m) n) l n
theorem dr:∀(l:List TV) (n:Nat),rF l n=l.getD n .dead
 | [],n=>by rw[List.getD,List.getElem?_nil];rfl
 | x::l,0=>rfl
 | x::l,n+1=>(dr l n).trans (by simp[List.getD])
theorem cd:∀(l:List TV) (n:Nat) (v:TV),zU l n v=l.set n v
 | [],n,v=>rfl
 | x::l,0,v=>rfl
 | x::l,n+1,v=>congrArg (x::·) (cd l n v)
def fN {γ:Type 1}:Nat→(Nat→γ)→γ
 | 0,k=>k 0
 | n+1,k=>k (Nat.succ n)
def fNs {γ:Type 1}:List Nat→(List Nat→γ)→γ
 | [],k=>k []
 | x::l,k=>fN x fun y=>fNs l fun m=>k (y::m)
def fSp {α:Type} {γ:Type 1} (l:List α):(List α→γ)→γ :=
 List.rec (motive:=fun _=>(List α→γ)→γ) (fun k=>k []) (fun x _ ih k=>ih fun m=>k (x::m)) l
def fV {γ:Type 1}:Value→(Value→γ)→γ
 | .int i n,k=>k (.int i n)
 | .bool b,k=>k (.bool b)
 | .string s,k=>k (.string s)
 | x,k=>k x
mutual
def TV.fo {γ:Type 1}:TV→(TV→γ)→γ
 | .v x,k=>fV x fun y=>k (.v y)
 | .adr id p,k=>fN id fun i=>fSp p fun q=>k (.adr i q)
 | .sl id p,k=>fN id fun i=>k (.sl i p)
 | .agg fs,k=>UZ fs fun l=>k (.agg l)
 | .tup fs,k=>UZ fs fun l=>k (.tup l)
 | .clo g fs,k=>fN g fun g=>UZ fs fun l=>k (.clo g l)
 | .mp id,k=>fN id fun i=>k (.mp i)
 | .yv id,k=>fN id fun i=>k (.yv i)
 | x,k=>k x
def UZ {γ:Type 1}:List TV→(List TV→γ)→γ
 | [],k=>k []
 | x::l,k=>x.fo fun y=>UZ l fun m=>k (y::m)
end
def fOb {γ:Type 1}:Ob→(Ob→γ)→γ
 | .row t e xs,k=>fN e fun e=>k (.row t e xs)
 | .var T x,k=>fN T fun T=>x.fo fun y=>k (.var T y)
 | .map a b xs,k=>k (.map a b xs)
 | .lp a lv cap j,k=>fN a fun a=>fNs lv fun lv=>UZ cap fun c=>k (.lp a lv c j)
def Ro {γ:Type 1}:List (Nat×Ob)→(List (Nat×Ob)→γ)→γ
 | [],k=>k []
 | (i,o)::l,k=>fN i fun j=>fOb o fun p=>Ro l fun m=>k ((j,p)::m)
def OE {γ:Type 1}:List (Nat×Option Ob)→(List (Nat×Option Ob)→γ)→γ
 | [],k=>k []
 | (i,none)::l,k=>fN i fun j=>OE l fun m=>k ((j,none)::m)
 | (i,some o)::l,k=>fN i fun j=>fOb o fun p=>OE l fun m=>k ((j,some p)::m)
def fSt {γ:Type 1} (st:St) (k:St→γ):γ :=
 UZ st.tm fun tm=>Ro st.ob fun ob=>fNs st.us fun us=>k ⟨tm,ob,us⟩
def U2 {γ:Type 1} (e:Eff) (k:Eff→γ):γ :=
 e.val.fo fun v=>OE e.upd fun u=>Ro e.new fun n=>k ⟨v,u,n⟩
theorem jp {γ:Type 1} (n:Nat) (k:Nat→γ):fN n k=k n:=by cases n<;>rfl
theorem AB {γ:Type 1}:∀(l:List Nat) (k:List Nat→γ),fNs l k=k l
 | [],_=>rfl
 | x::l,k=>by rw[fNs,jp,AB l]
theorem Az {α:Type} {γ:Type 1}:∀(l:List α) (k:List α→γ),fSp l k=k l
 | [],_=>rfl
 | x::l,k=>Az l fun m=>k (x::m)
theorem aw7 {γ:Type 1} (x:Value) (k:Value→γ):fV x k=k x:=by cases x<;>rfl
mutual
theorem TV.fo_eq {γ:Type 1}:∀(x:TV) (k:TV→γ),x.fo k=k x
 | .v x,k=>by rw[TV.fo,aw7]
 | .adr id p,k=>by rw[TV.fo,jp,Az]
 | .sl id p,k=>by rw[TV.fo,jp]
 | .agg fs,k=>by rw[TV.fo,pB]
 | .tup fs,k=>by rw[TV.fo,pB]
 | .clo g fs,k=>by rw[TV.fo,jp,pB]
 | .mp id,k=>by rw[TV.fo,jp]
 | .yv id,k=>by rw[TV.fo,jp]
 | .ro ..,k=>by rw[TV.fo]<;>intros<;>contradiction
 | .fv ..,k=>by rw[TV.fo]<;>intros<;>contradiction
 | .radr ..,k=>by rw[TV.fo]<;>intros<;>contradiction
 | .arr ..,k=>by rw[TV.fo]<;>intros<;>contradiction
 | .dead,k=>by rw[TV.fo]<;>intros<;>contradiction
theorem pB {γ:Type 1}:∀(l:List TV) (k:List TV→γ),UZ l k=k l
 | [],k=>by rw[UZ]
 | x::l,k=>by rw[UZ,TV.fo_eq x,pB l]
end
theorem Rp {γ:Type 1} (o:Ob) (k:Ob→γ):fOb o k=k o:=by
 cases o
 ·rw[fOb,jp]
 ·rw[fOb,jp,TV.fo_eq]
 ·rw[fOb]
 ·rw[fOb,jp,AB,pB]
theorem AA {γ:Type 1}:∀(l:List (Nat×Ob)) (k:List (Nat×Ob)→γ),Ro l k=k l
 | [],_=>rfl
 | (i,o)::l,k=>by rw[Ro,jp,Rp,AA l]
theorem Ay {γ:Type 1}:∀(l:List (Nat×Option Ob)) (k:List (Nat×Option Ob)→γ),OE l k=k l
 | [],_=>rfl
 | (i,none)::l,k=>by rw[OE,jp,Ay l]
 | (i,some o)::l,k=>by rw[OE,jp,Rp,Ay l]
theorem Rn {γ:Type 1} (st:St) (k:St→γ):fSt st k=k st:=by rw[fSt,pB,AA,AB]
theorem JY {γ:Type 1} (e:Eff) (k:Eff→γ):U2 e k=k e:=by rw[U2,TV.fo_eq,Ay,AA]
def oS (tm:List TV):Operand→TV
 | .tmp t=>rF tm t
 | .const x=>.v x
 | .global g=>.v (.pointer (some ⟨g,0,none⟩))
 | .func f=>.v (.func (.func f) #[] #[])
def jW (n:Nat) (d:Option Tmp):Nat:=match d with
 | some t=>n+1000*(t+1)
 | none=>n+999000
def fi (tm:List TV) (d:Option Tmp) (x:TV):List TV:=match d with
 | some t=>zU tm t x
 | none=>tm
def tv (E:Env) (all:List Oper):List Oper→List (List Nat×List Nat)→St→(St→List (List Nat×List Nat)→Tr St)→Tr St
 | [],lg,st,k=>k st lg
 | o::r,lg,st,k =>
  let skip (st:St):Tr St:=tv E all r (lg++[([],[])]) { st with tm:=fi st.tm o.dst e9 } k
  let go (st:St):Tr St :=
   let g:=jv E (oS st.tm) o (jW E.base o.dst)
   (g.run st.ob).bind fun e=>U2 e fun e=>match aV st.ob st.us e.new with
    | some (ob,us)=>fSp (aR ob e.upd) fun ob=>fNs (g.reads st.ob) fun rd=>fNs (e.upd.map (·.1)++e.new.map (·.1)) fun wr =>
     fSp (lg++[(rd,wr)]) fun lg=>tv E all r lg { tm:=fi st.tm o.dst e.val,ob:=ob,us:=us } k
    | none=>.fail
  match o.guard with
  | none=>go st
  | some (j,want)=>match (all[j]?).bind (·.dst) with
   | none=>.fail
   | some t=>match rF st.tm t with
    | .v (.bool q) =>
     .ite q (fSp (zU st.tm t (.v (.bool true))) fun tm=>bif want then go { st with tm:=tm } else skip { st with tm:=tm }) (fSp (zU st.tm t (.v (.bool false))) fun tm=>bif want then skip { st with tm:=tm } else go { st with tm:=tm })
    | .v _=>skip st
    | _=>.fail
def ins (acc:List Nat) (x:Nat):List Nat:=bif has acc x then acc else x::acc
def uni (a b:List Nat):List Nat:=b.foldl ins a
def direct (o:Oper):List Nat:=(o.after.toList.filter fun e=>Region.binds .any e).map (·.on)
def tY:List Oper→List (List Nat)→List (List Nat)
 | [],acc=>acc
 | o::r,acc =>
  tY r (acc++[(direct o).foldl (fun s d=>bif has s d then s else uni (d::s) (acc.getD d [])) []])
def tZ (ops:List Oper):List (List Nat):=tY ops []
def J5 (ops:List Oper):Bool:=(List.range ops.length).all fun j=>match ops[j]? with
 | some o=>(direct o).all fun i=>Nat.blt i j
 | none=>true
def pH (ops:List Oper) (lg:List (List Nat×List Nat)) (i j:Nat):Bool :=
 match ops[i]?,ops[j]?,lg[i]?,lg[j]? with
 | some a,some b,some (ra,wa),some (rb,wb)=>a.apart ops.toArray b&&!meets wa (rb++wb)&&!meets ra wb
 | _,_,_,_=>false
def RF (ops:List Oper):Bool :=
 let ds:=tZ ops
 J5 ops&&(List.range ops.length).all fun j=>(List.range j).all fun i=>has (ds.getD j []) i||(match ops[i]?,ops[j]? with
  | some a,some b=>a.apart ops.toArray b
  | _,_=>false)
def iK (l:List Nat×List Nat):Bool:=match l with
 | ([],[])=>false
 | _=>true
def rC (n:Nat):List (List Nat×List Nat)→List (Nat×List Nat×List Nat)
 | []=>[]
 | l::r=>bif iK l then (n,l)::rC (n+1) r else rC (n+1) r
def AT (ds:List (List Nat)):List (Nat×List Nat×List Nat)→Bool
 | []=>true
 | (i,ra,wa)::l=>(l.all fun(j,rb,wb)=>has (ds.getD j []) i||(!meets wa (rb++wb)&&!meets ra wb))&&AT ds l
def ug (ops:List Oper) (lg:List (List Nat×List Nat)):Bool :=
 RF ops&&Nat.beq lg.length ops.length&&AT (tZ ops) (rC 0 lg)
def jJ (E:Env) (ops:List Oper) (draw:Bool) (st:St):Tr St :=
 fSt st fun st=>tv { E with base:=1000000*st.us.length } ops ops [] st fun st' lg=>if draw then (bif ug ops lg then .ret st' else .fail) else .ret st'
def fixed (ren pins:List Nat):Bool:=pins.all fun i=>Nat.beq (jw ren i) i
def pq (args:List TV) (live:List Nat) (st:St) {γ:Type} (k:Pk→Tr γ):Tr γ :=
 (tu args (live.map fun t=>rF st.tm t) fun ren pk=>.done (bif fixed ren (ar args) then k pk else .fail)).run st.ob
def cJ (pk:Pk):List (Nat×Ob):=pk.obs.zipIdx.filterMap fun(o,i)=>o.map fun ob=>(i,ob)
def di (n:Nat) (live:List Nat) (pk:Pk):St :=
 {tm:=(live.zip pk.roots).foldl (fun l (t,x)=>zU l t x) (List.replicate n .dead),ob:=cJ pk,us:=List.range pk.obs.length }
def below (n:Nat) (l:List Nat):Bool:=l.all fun i=>Nat.blt i n
def av6 (args:List TV) (pk:Pk):Bool :=
 below pk.obs.length (ar args)&&below pk.obs.length (ar pk.roots)&&pk.obs.all fun o=>match o with|some ob=>below pk.obs.length ob.ids|none=>true
def mq (C:Cut) (args:List TV) (st:St):Tr (Ex×St) :=
 pq args C.live st fun pk=>(C.orc pk).bind fun(ex,pk')=>.ret (ex,di st.tm.length (C.out ex) pk')
def qR (st:St) (c:Operand) (b:Bool):St:=match c with
 | .tmp t=>{ st with tm:=zU st.tm t (.v (.bool b)) }
 | _=>st
def bd (E:Env) (args:List TV):Code→Nat→St→Tr (Ex×St)
 | .skip,_,st=>.ret (.normal,st)
 | .label _,_,st=>.ret (.normal,st)
 | .region _ ops draw,_,st=>(jJ E ops.toList draw st).bind fun st'=>.ret (.normal,st')
 | .seq a b,p,st=>(bd E args a (2*p) st).bind fun(ex,st') =>
  match ex with
  | .normal=>match E.cut (2*p+1) with
   | some C=>mq C args st'
   | none=>bd E args b (2*p+1) st'
  | ex=>.ret (ex,st')
 | .cond c a b,p,st=>match oS st.tm c with
  | .v (.bool q)=>.ite q (bd E args a (2*p) (qR st c true)) (bd E args b (2*p+1) (qR st c false))
  | _=>.fail
 | .block id c,p,st=>(bd E args c (2*p) st).bind fun(ex,st') =>
  match ex with
  | .exit i=>bif Nat.beq i id then .ret (.normal,st') else .ret (.exit i,st')
  | ex=>.ret (ex,st')
 | .scope c,p,st=>bd E args c (2*p) st
 | .loop _,p,st=>match E.cut p with
  | some C=>mq C args st
  | none=>.fail
 | .rangeFunc ..,p,st=>match E.cut p with
  | some C=>mq C args st
  | none=>.fail
 | .exit i,_,st=>.ret (.exit i,st)
 | .ret,_,st=>.ret (.ret,st)
 | _,_,_=>.fail
def Ad (E:Env) (n:Nat) (args:List TV) (c:Code) (p:Nat) (C:Cut) (pk:Pk):Tr (Ex×Pk) :=
 (bd E args c p (di n C.live pk)).bind fun(ex,st)=>pq args (C.out ex) st fun pk'=>.ret (ex,pk')
def iC (E:Env) (n:Nat) (args:List TV) (c:Code) (p:Nat) (C:Cut) (pk:Pk):Tr (Ex×Pk) :=
 (bd E args c (2*p) (di n C.live pk)).bind fun(ex,st) =>
  match ex with
  | .normal=>pq args C.live st fun pk'=>C.orc pk'
  | ex=>pq args (C.out ex) st fun pk'=>.ret (ex,pk')
def QI (P:Program) (st:St):ResultVar→Tr TV
 | .tmp t=>.ret (rF st.tm t)
 | .cell a T=>((tK P T (rF st.tm a)).run st.ob).bind fun e=>.ret e.val
def ab9 (P:Program) (st:St):List ResultVar→Tr (List TV)
 | []=>.ret []
 | r::l=>(QI P st r).bind fun x=>(ab9 P st l).bind fun xs=>.ret (x::xs)
def oneOf:List TV→TV
 | [x]=>x
 | l=>.tup l
def np (P:Program) (fn:Func) (st:St):Tr TV:=(ab9 P st fn.results.toList).bind fun l=>.ret (oneOf l)
def U1 (E:Env) (fn:Func) (pk:Pk):Tr Pk :=
 match fn.body with
 | none=>.fail
 | some c =>
  bif !av6 pk.roots pk then .fail else
  (bd E (pk.pins) c 1 { tm:=pk.roots++List.replicate (fn.ntmps-pk.roots.length) e9,ob:=cJ pk,us:=List.range pk.obs.length }).bind fun(ex,st) =>
   match ex with
   | .exit _=>.fail
   | _=>(np E.P fn st).bind fun x=>(tu (pk.pins) [x] fun ren pk'=>.done (bif fixed ren (ar pk.pins) then .ret pk' else .fail)).run st.ob
end
end Go.Am
namespace Go.Am
noncomputable section
def bm {α:Type} (f:α→List Value→Prop):List α→List Value→Prop
 | [],vs=>vs=[]
 | x::l,vs=>∃a b,vs=a++b∧f x a∧bm f l b
def bb (R:Nat→Prop) (w:World):(t:Ty)→t.den→List Value→Prop
 | .int k,x,vs=>vs=[.int k x]
 | .bool,b,vs=>vs=[.bool b]
 | .str,s,vs=>vs=[.string s]
 | .unit,_,vs=>vs=[]
 | .cons a r,x,vs=>∃p q,vs=p++q∧bb R w a x.1 p∧bb R w r x.2 q
 | .sl t,xs,vs=>∃a c,vs=[.slice a xs.length c]∧xs.length≤c ∧
   (xs=[]∨∃b off cs,a=some ⟨b,off,none⟩∧R b∧b<w.heap.size∧bm (bb R w t) xs cs∧w.rangeAt b off cs)
structure Cx where
 U:Nat→Prop
 fd:Nat→Option Ob
 mu:Nat→Option Nat
 R:Nat→Prop
 w:World
def l4 (q:Prop) (w:World) (m:Option Nat) (len size:Nat) (part:Option (Nat×Nat)) (v:Value):Prop :=
 match part with
 | none=>(m=none∧len=0∧∃a,v=.slice a 0 0∧(a=none∨q))∨∃b c,m=some b∧v=.slice (some ⟨b,0,none⟩) len c∧len≤c∧w.there b 0 (c*size)
 | some (o,n)=>o+n≤len∧∃a c,v=.slice a n c∧n≤c∧(c=0∨∃b,m=some b∧a=some ⟨b,o*size,none⟩∧w.there b 0 ((o+c)*size))
mutual
def bu (C:Cx):TV→List Value→Prop
 | .v x,vs=>vs=[x]∧x.oneCell'=true
 | .adr id p,vs=>∃a,vs=[.pointer (some a)]∧C.U id∧((C.fd id).isSome=true→∃b,C.mu id=some b∧a=⟨b,bq p,none⟩)
 | .sl id part,vs=>∃a n c,vs=[.slice a n c]∧C.U id∧∀ob,C.fd id=some ob→∃t e xs,ob=.row t e xs∧l4 (t.isU8=false) C.w (C.mu id) xs.length t.cells part (.slice a n c)
 | .ro t xs,vs=>bb C.R C.w (.sl t) xs vs
 | .radr t xs p,vs=>∃b off cs,vs=[.pointer (some ⟨b,off+bq p,none⟩)]∧C.R b∧b<C.w.heap.size∧bm (bb C.R C.w t) xs cs∧C.w.rangeAt b off cs
 | .agg fs,vs=>bj C fs vs
 | .arr t n xs,vs=>xs.length=n∧bm (bb C.R C.w t) xs vs
 | .tup _,_=>False
 | .clo g cap,vs=>∃cs:List Value,vs=[.func (.func g) #[] cs.toArray]∧bj C cap cs
 | .mp id,vs=>∃r,vs=[.map (some r)]∧C.U id∧((C.fd id).isSome=true→C.mu id=some r)
 | .yv id,vs=>∃l,vs=[.func (.yield l) #[] #[]]∧C.U id∧((C.fd id).isSome=true→C.mu id=some l)
 | .fv n,vs=>vs=[.func (.func n) #[] #[]]
 | .dead,_=>False
def bj (C:Cx):List TV→List Value→Prop
 | [],vs=>vs=[]
 | x::l,vs=>∃a b,vs=a++b∧bu C x a∧bj C l b
end
mutual
def an (C:Cx):TV→Value→Prop
 | .v x,v=>v=x
 | .agg fs,v=>∃cs:List Value,v=.agg cs.toArray∧bj C fs cs
 | .arr t n xs,v=>∃cs:List Value,v=.agg cs.toArray∧xs.length=n∧bm (bb C.R C.w t) xs cs
 | .tup l,v=>∃vs:List Value,v=.tuple vs.toArray∧aC C l vs
 | .dead,_=>True
 | x,v=>bu C x [v]
def aC (C:Cx):List TV→List Value→Prop
 | [],vs=>vs=[]
 | x::l,vs=>∃v r,vs=v::r∧an C x v∧aC C l r
end
def aW:(t:Ty)→t.den→Value
 | .int k,x=>.int k x
 | .bool,b=>.bool b
 | .str,s=>.string s
 | _,_=>.nilFunc
def mo (k v:Ty):Nat→List (k.den×v.den)→List MapEntry
 | _,[]=>[]
 | n,e::l=>{ key:=aW k e.1,val:=aW v e.2,born:=n }::mo k v (n+1) l
def py (j:Nat):Option Code:=if j=0 then none else if j=1 then some .ret else some (.exit (j-2))
inductive At (root:Code):Nat→Code→Prop
 | root:At root 1 root
 | seqL {p:Nat} {a b:Code} (h:At root p (.seq a b)):At root (2*p) a
 | seqR {p:Nat} {a b:Code} (h:At root p (.seq a b)):At root (2*p+1) b
 | condT {p:Nat} {x:Operand} {a b:Code} (h:At root p (.cond x a b)):At root (2*p) a
 | condE {p:Nat} {x:Operand} {a b:Code} (h:At root p (.cond x a b)):At root (2*p+1) b
 | block {p id:Nat} {c:Code} (h:At root p (.block id c)):At root (2*p) c
 | loop {p:Nat} {c:Code} (h:At root p (.loop c)):At root (2*p) c
 | scope {p:Nat} {c:Code} (h:At root p (.scope c)):At root (2*p) c
 | rfA {p:Nat} {g:Operand} {ps:Array Tmp} {a b:Code} (h:At root p (.rangeFunc g ps a b)):At root (2*p) a
 | rfB {p:Nat} {g:Operand} {ps:Array Tmp} {a b:Code} (h:At root p (.rangeFunc g ps a b)):At root (2*p+1) b
def lY (fn:Func):Code:=match fn.body with
 | some c=>c
 | none=>.skip
def Iy [PI:Inhabited Program] (k:Nat) (r:Loop):Prop :=
 ∃fn g,(PI.default).funcs[k / be]?=some fn∧At (lY fn) (k % be) (.rangeFunc g r.params r.assign r.body)∧r.tmps.size=fn.ntmps
def bW (C:Cx) (tmps:Array Value):List Nat→List TV→Prop
 | [],[]=>True
 | t::lv,x::cap=>an C x (tmps.getD t undef)∧bW C tmps lv cap
 | _,_=>False
variable [PI:Inhabited Program]
def ju (C:Cx) (id:Nat):Ob→Prop
 | .lp k lv cap j=>∃l r,C.mu id=some l∧C.w.heap[l]?=some (.loop r)∧Iy k r∧bW C r.tmps lv cap∧r.state=(if j=0 then .ready else .done)∧r.pending=py j
 | .map k v xs=>k.leaf=true∧v.leaf=true∧∃r es,C.mu id=some r∧C.w.heap[r]?=some (.map es xs.length)∧es.toList=mo k v 0 xs
 | .var T x=>∃b vs,C.mu id=some b∧bu C x vs∧C.w.rangeAt b 0 vs∧C.w.there b 0 vs.length∧∃c fr,C.w.heap[b]?=some (.cells c T fr)∧c.size=vs.length
 | .row t e xs=>(C.mu id=none∧xs=[])∨∃b vs,C.mu id=some b∧bm (bb C.R C.w t) xs vs∧C.w.rangeAt b 0 vs∧C.w.there b 0 vs.length∧b<C.w.heap.size∧∃c fr,C.w.heap[b]?=some (.cells c e fr)
structure Fr (O:Nat→Prop) (w0 w:World):Prop where
 os:w.os=w0.os
 tape:w.tape=w0.tape
 output:w.output=w0.output
 size:w0.heap.size≤w.heap.size
 block:∀k,k<w0.heap.size→¬O k→w.heap[k]?=w0.heap[k]?
structure Mem (O R0:Nat→Prop) (w0:World) (C:Cx):Prop where
 us:∀id,(C.fd id).isSome=true→C.U id
 fr:Fr O w0 C.w
 obs:∀id ob,C.fd id=some ob→ju C id ob
 inj:∀i j b,(C.fd i).isSome=true→(C.fd j).isSome=true→C.mu i=some b→C.mu j=some b→i=j
 notR:∀i b,(C.fd i).isSome=true→C.mu i=some b→¬C.R b
 own:∀i b,(C.fd i).isSome=true→C.mu i=some b→O b∨w0.heap.size≤b
 lt:∀i b,(C.fd i).isSome=true→C.mu i=some b→b<C.w.heap.size
 ro:∀b,C.R b→R0 b∨O b∨w0.heap.size≤b
 ro0:∀b,R0 b→C.R b
 rlt:∀b,C.R b→b<C.w.heap.size
def Ob.like:Ob→Ob→Prop
 | .var T _,.var T' _=>T=T'
 | .row t e xs,.row t' e' ys=>t=t'∧e=e'∧xs.length=ys.length
 | .map k v _,.map k' v' _=>k=k'∧v=v'
 | .lp ..,.lp ..=>True
 | _,_=>False
theorem Ob.like.refl:∀o:Ob,o.like o
 | .var ..=>rfl
 | .row ..=>⟨rfl,rfl,rfl⟩
 | .map ..=>⟨rfl,rfl⟩
 | .lp ..=>trivial
theorem Ob.like.trans:∀{a b c:Ob},a.like b→b.like c→a.like c
 | .var ..,.var ..,.var ..,h,k=>Eq.trans h k
 | .row ..,.row ..,.row ..,⟨h1,h2,h3⟩,⟨k1,k2,k3⟩=>⟨h1.trans k1,h2.trans k2,h3.trans k3⟩
 | .map ..,.map ..,.map ..,⟨h1,h2⟩,⟨k1,k2⟩=>⟨h1.trans k1,h2.trans k2⟩
 | .lp ..,.lp ..,.lp ..,_,_=>trivial
def keeps (w w':World) (b:Nat):Prop:=(∀o n,w.there b o n→w'.there b o n)∧∀r,w.heap[b]?=some (.loop r)→∃r',w'.heap[b]?=some (.loop r')∧r'.tmps=r.tmps
theorem keeps.refl (w:World) (b:Nat):keeps w w b:=⟨fun _ _ h=>h,fun r h=>⟨r,h,rfl⟩⟩
theorem keeps.trans {u v w:World} {b:Nat} (h:keeps u v b) (k:keeps v w b):keeps u w b :=
 ⟨fun o n ht=>k.1 o n (h.1 o n ht),fun r hr=>by
  obtain⟨r1,h1,h2⟩:=h.2 r hr
  obtain⟨r2,k1,k2⟩:=k.2 r1 h1
  exact⟨r2,k1,k2.trans h2⟩⟩
structure Ext (C D:Cx):Prop where
 U:∀id,C.U id→D.U id
 fd:∀id ob,C.U id→D.fd id=some ob→∃ob',C.fd id=some ob'∧D.mu id=C.mu id∧ob'.like ob
 R:∀b,C.R b→D.R b
 size:C.w.heap.size≤D.w.heap.size
 blk:∀b,C.R b→D.w.heap[b]?=C.w.heap[b]?
 there:∀id ob b,C.U id→D.fd id=some ob→C.mu id=some b→keeps C.w D.w b
theorem bp {w w':World} {b o:Nat} {cs:List Value} (h:w'.heap[b]?=w.heap[b]?) (hr:w.rangeAt b o cs):w'.rangeAt b o cs :=
 fun j v hv=>(World.cell?_of_block (a:=⟨b,o+j,none⟩) h).trans (hr j v hv)
theorem bU {w w':World} {b o n:Nat} (h:w'.heap[b]?=w.heap[b]?) (hr:w.there b o n):w'.there b o n :=
 fun j hj=>⟨by rw[World.cell?_of_block (a:=⟨b,o+j,none⟩) h];exact(hr j hj).1,by rw[World.frozen?_of_block (a:=⟨b,o+j,none⟩) h];exact(hr j hj).2⟩
theorem Ar {w w':World} {b:Nat} (h:w'.heap[b]?=w.heap[b]?):keeps w w' b:=⟨fun _ _ ht=>bU h ht,fun r hr=>⟨r,h.trans hr,rfl⟩⟩
theorem jy {w:World} {b o n m:Nat} (h:w.there b o n) (hm:m≤n):w.there b o m:=fun j hj=>h j (by omega)
theorem aF {α:Type} {f g:α→List Value→Prop} (h:∀x vs,f x vs→g x vs):∀(xs:List α) (vs:List Value),bm f xs vs→bm g xs vs
 | [],_,hv=>hv
 | _::l,_,⟨a,b,e,h1,h2⟩=>⟨a,b,e,h _ _ h1,aF h l b h2⟩
theorem aM {R R':Nat→Prop} {w w':World} (hR:∀b,R b→R' b) (hs:w.heap.size≤w'.heap.size) (hb:∀b,R b→w'.heap[b]?=w.heap[b]?) :
  ∀(t:Ty) (x:t.den) (vs:List Value),bb R w t x vs→bb R' w' t x vs
 | .int _,_,_,h=>h
 | .bool,_,_,h=>h
 | .str,_,_,h=>h
 | .unit,_,_,h=>h
 | .cons a r,x,_,⟨p,q,e,h1,h2⟩=>⟨p,q,e,aM hR hs hb a x.1 p h1,aM hR hs hb r x.2 q h2⟩
 | .sl t,xs,_,⟨a,c,e,hle,h⟩=>⟨a,c,e,hle,h.imp id fun⟨b,off,cs,h1,h2,h3,h4,h5⟩ =>
   ⟨b,off,cs,h1,hR b h2,by omega,aF (fun x vs hx=>aM hR hs hb t x vs hx) xs cs h4,bp (hb b h2) h5⟩⟩
theorem me {q:Prop} {w w':World} {m:Option Nat} {len size:Nat} {part:Option (Nat×Nat)} {v:Value} (h:∀b o n,m=some b→w.there b o n→w'.there b o n) (hs:l4 q w m len size part v):l4 q w' m len size part v:=by
 match part,hs with
 | none,.inl hh=>exact .inl hh
 | none,.inr ⟨b,c,h1,h2,h3,h4⟩=>exact .inr ⟨b,c,h1,h2,h3,h _ _ _ h1 h4⟩
 | some (o,n),⟨h0,a,c,h1,h2,h3⟩=>exact⟨h0,a,c,h1,h2,h3.imp id fun⟨b,e1,e2,e3⟩=>⟨b,e1,e2,h _ _ _ e1 e3⟩⟩
theorem Ext.keeps {C D:Cx} (h:Ext C D) {id:Nat} (hu:C.U id) (hi:(D.fd id).isSome=true):(C.fd id).isSome=true∧D.mu id=C.mu id:=by
 obtain⟨ob,ho⟩:=Option.isSome_iff_exists.1 hi
 obtain⟨ob',h1,h2,_⟩:=h.fd id ob hu ho
 exact⟨by simp[h1],h2⟩
mutual
theorem aP {C D:Cx} (h:Ext C D):∀(x:TV) (vs:List Value),bu C x vs→bu D x vs
 | .v _,_,hv=>hv
 | .adr id p,_,⟨a,e,hu,h1⟩=>⟨a,e,h.U id hu,fun hi=>by
   obtain⟨k1,k2⟩:=h.keeps hu hi
   rw[k2];exact h1 k1⟩
 | .sl id part,_,⟨a,n,c,e,hu,h1⟩=>⟨a,n,c,e,h.U id hu,fun ob ho=>by
   obtain⟨ob',k1,k2,k3⟩:=h.fd id ob hu ho
   obtain⟨t,e',xs,rfl,h2⟩:=h1 ob' k1
   match ob,k3 with
   | .row t2 e2 ys,⟨h4,h5,h6⟩ =>
    subst h4;subst h5
    refine⟨t,e',ys,rfl,?_⟩
    rw[k2,←h6]
    exact me (fun b o n hb ht=>(h.there id _ b hu ho hb).1 o n ht) h2⟩
 | .ro t xs,_,hv=>aM h.R h.size h.blk (.sl t) xs _ hv
 | .radr t xs p,_,⟨b,off,cs,h1,h2,h3,h4,h5⟩=>⟨b,off,cs,h1,h.R b h2,by have:=h.size;omega,aF (fun x vs hx=>aM h.R h.size h.blk t x vs hx) xs cs h4,bp (h.blk b h2) h5⟩
 | .agg fs,vs,hv=>dE h fs vs hv
 | .arr t _ xs,vs,⟨h1,h2⟩=>⟨h1,aF (fun x vs hx=>aM h.R h.size h.blk t x vs hx) xs vs h2⟩
 | .tup _,_,hv=>hv
 | .clo g cap,_,⟨cs,e,h1⟩=>⟨cs,e,dE h cap cs h1⟩
 | .mp id,_,⟨r,e,hu,h1⟩=>⟨r,e,h.U id hu,fun hi=>by
   obtain⟨k1,k2⟩:=h.keeps hu hi
   rw[k2];exact h1 k1⟩
 | .yv id,_,⟨r,e,hu,h1⟩=>⟨r,e,h.U id hu,fun hi=>by
   obtain⟨k1,k2⟩:=h.keeps hu hi
   rw[k2];exact h1 k1⟩
 | .fv _,_,hv=>hv
 | .dead,_,hv=>hv
theorem dE {C D:Cx} (h:Ext C D):∀(l:List TV) (vs:List Value),bj C l vs→bj D l vs
 | [],_,hv=>hv
 | x::l,_,⟨a,b,e,h1,h2⟩=>⟨a,b,e,aP h x a h1,dE h l b h2⟩
end
mutual
theorem aO {C D:Cx} (h:Ext C D):∀(x:TV) (v:Value),an C x v→an D x v
 | .v _,_,hv=>hv
 | .adr id p,v,hv=>aP h (.adr id p) [v] hv
 | .sl id part,v,hv=>aP h (.sl id part) [v] hv
 | .ro t xs,v,hv=>aP h (.ro t xs) [v] hv
 | .radr t xs p,v,hv=>aP h (.radr t xs p) [v] hv
 | .agg fs,_,⟨cs,e,h1⟩=>⟨cs,e,dE h fs cs h1⟩
 | .arr t _ xs,_,⟨cs,e,h1,h2⟩=>⟨cs,e,h1,aF (fun x vs hx=>aM h.R h.size h.blk t x vs hx) xs cs h2⟩
 | .tup l,_,⟨vs,e,h1⟩=>⟨vs,e,ff h l vs h1⟩
 | .clo g cap,v,hv=>aP h (.clo g cap) [v] hv
 | .mp id,v,hv=>aP h (.mp id) [v] hv
 | .yv id,v,hv=>aP h (.yv id) [v] hv
 | .fv n,v,hv=>aP h (.fv n) [v] hv
 | .dead,_,hv=>hv
theorem ff {C D:Cx} (h:Ext C D):∀(l:List TV) (vs:List Value),aC C l vs→aC D l vs
 | [],_,hv=>hv
 | x::l,_,⟨v,r,e,h1,h2⟩=>⟨v,r,e,aO h x v h1,ff h l r h2⟩
end
theorem jG {C D:Cx} (h:Ext C D) {tmps:Array Value}:∀(lv:List Nat) (cap:List TV),bW C tmps lv cap→bW D tmps lv cap
 | [],[],h=>h
 | _::lv,_::cap,⟨h1,h2⟩=>⟨aO h _ _ h1,jG h lv cap h2⟩
 | [],_::_,h=>h.elim
 | _::_,[],h=>h.elim
end
end Go.Am
namespace Go.Am
noncomputable section
variable [PI:Inhabited Program]
def Tr.to {γ:Type} (t:Tr γ) (x:γ):Prop:=t.run some=some x
theorem Tr.run_eq {γ ρ:Type} (f:γ→Option ρ):∀t:Tr γ,t.run f=(t.run some).bind f
 | .ret _=>rfl
 | .ask β o k=>by
  cases o with
  | none=>rfl
  | some y=>exact Tr.run_eq f (k y)
 | .sum α β s l r=>by
  cases s with
  | inl y=>exact Tr.run_eq f (l y)
  | inr y=>exact Tr.run_eq f (r y)
 | .ite b t e=>by
  cases b
  ·exact Tr.run_eq f e
  ·exact Tr.run_eq f t
 | .fail=>rfl
theorem Tr.run_bind {γ δ ρ:Type} (g:γ→Tr δ) (f:δ→Option ρ):∀t:Tr γ,(t.bind g).run f=t.run fun x=>(g x).run f
 | .ret _=>rfl
 | .ask β o k=>by
  cases o with
  | none=>rfl
  | some y=>exact Tr.run_bind g f (k y)
 | .sum α β s l r=>by
  cases s with
  | inl y=>exact Tr.run_bind g f (l y)
  | inr y=>exact Tr.run_bind g f (r y)
 | .ite b t e=>by
  cases b
  ·exact Tr.run_bind g f e
  ·exact Tr.run_bind g f t
 | .fail=>rfl
theorem Tr.to_run {γ ρ:Type} {t:Tr γ} {f:γ→Option ρ} {r:ρ} (h:t.run f=some r):∃x,t.to x∧f x=some r:=by
 rw[Tr.run_eq] at h
 unfold Tr.to
 cases ht:t.run some with
 | none=>rw[ht] at h;cases h
 | some x=>rw[ht] at h;exact⟨x,rfl,h⟩
theorem Tr.to_bind {γ δ:Type} {t:Tr γ} {g:γ→Tr δ} {y:δ} (h:(t.bind g).to y):∃x,t.to x∧(g x).to y:=by
 unfold Tr.to at h
 rw[Tr.run_bind] at h
 exact Tr.to_run h
theorem Tr.to_ret {γ:Type} {x y:γ} (h:(Tr.ret x).to y):x=y:=Option.some.inj h
theorem Tr.to_fail {γ:Type} {y:γ} (h:(Tr.fail:Tr γ).to y):False:=by cases h
theorem Tr.to_ite {γ:Type} {b:Bool} {t e:Tr γ} {y:γ} (h:(Tr.ite b t e).to y):(b=true∧t.to y)∨(b=false∧e.to y):=by
 cases b
 ·exact .inr ⟨rfl,h⟩
 ·exact .inl ⟨rfl,h⟩
theorem Tr.to_ask {γ β:Type} {o:Option β} {k:β→Tr γ} {y:γ} (h:(Tr.ask β o k).to y):∃x,o=some x∧(k x).to y:=by
 cases o with
 | none=>cases h
 | some x=>exact⟨x,rfl,h⟩
theorem Tr.to_opt {γ:Type} {o:Option γ} {y:γ} (h:(Tr.opt o).to y):o=some y:=by
 cases o with
 | none=>exact(Tr.to_fail h).elim
 | some x=>exact congrArg some (Tr.to_ret h)
theorem GTr.run_get {γ:Type} (fd:List (Nat×Ob)) (id:Nat) (k:Option Ob→GTr γ):(GTr.get id k).run fd=(k (aB fd id)).run fd:=rfl
theorem GTr.run_done {γ:Type} (fd:List (Nat×Ob)) (t:Tr γ):(GTr.done t).run fd=t:=rfl
theorem dL {i j:Nat} (h:i≠j):Nat.beq i j=false:=by
 cases hb:Nat.beq i j with
 | false=>rfl
 | true=>exact absurd (Nat.eq_of_beq_eq_true hb) h
theorem bO (i:Nat):Nat.beq i i=true:=Nat.beq_refl i
theorem cm (id j:Nat):∀l,aB (bX l id) j=if j=id then none else aB l j
 | []=>by simp[bX,aB]
 | (i,o)::r=>by
  have ih:=cm id j r
  by_cases h:i=id
  ·subst h
   by_cases hj:j=i
   ·subst hj;simp[bX,bO,ih]
   ·simp[bX,aB,bO,dL (Ne.symm hj),ih,hj]
  ·by_cases hj:j=id
   ·subst hj;simp[bX,aB,dL h,ih]
   ·by_cases hi:i=j
    ·subst hi;simp[bX,aB,dL h,bO,h]
    ·simp[bX,aB,dL h,dL hi,ih,hj]
theorem aY (l:List (Nat×Ob)) (id j:Nat) (o:Ob):aB ((id,o)::l) j=if j=id then some o else aB l j:=by
 by_cases h:j=id
 ·subst h;simp[aB,bO]
 ·simp[aB,h,dL (Ne.symm h)]
theorem br (l:List (Nat×Ob)) (id j:Nat) (o:Option Ob):aB (gn l id o) j=if j=id then o else aB l j:=by
 cases o with
 | none=>exact cm id j l
 | some x =>
  rw[gn,aY,cm]
  by_cases h:j=id<;>simp[h]
theorem bw (l:List Nat) (id:Nat):has l id=true↔id∈l:=by
 induction l with
 | nil=>simp[has]
 | cons j r ih =>
  by_cases h:j=id
  ·subst h;simp[has,bO]
  ·simp[has,dL h,ih,Ne.symm h]
structure Grow (w w':World):Prop where
 os:w'.os=w.os
 tape:w'.tape=w.tape
 output:w'.output=w.output
 size:w.heap.size≤w'.heap.size
 block:∀k,k<w.heap.size→w'.heap[k]?=w.heap[k]?
theorem Grow.refl (w:World):Grow w w:=⟨rfl,rfl,rfl,Nat.le_refl _,fun _ _=>rfl⟩
theorem Grow.trans {a b c:World} (h:Grow a b) (k:Grow b c):Grow a c :=
 ⟨k.os.trans h.os,k.tape.trans h.tape,k.output.trans h.output,Nat.le_trans h.size k.size,fun i hi=>(k.block i (Nat.lt_of_lt_of_le hi h.size)).trans (h.block i hi)⟩
theorem Grow.drew (w:World):Grow w w.drew:=⟨rfl,rfl,rfl,Nat.le_refl _,fun _ _=>rfl⟩
theorem Grow.alloc (w:World) (o:Obj):Grow w (w.alloc o) :=
 ⟨rfl,rfl,rfl,by show _≤(w.heap.push o).size;rw[Array.size_push];omega,fun k hk=>by
  show(w.heap.push o)[k]?=_
  rw[Array.getElem?_push,if_neg (by omega)]⟩
theorem Qb {w:World} {b o n:Nat} (h:w.there b o n) (hn:0<n):b<w.heap.size:=by
 obtain⟨v,hv⟩:=Option.isSome_iff_exists.1 (h 0 hn).1
 exact World.block_lt_of_cell? w _ hv
theorem Grow.there {w w':World} (h:Grow w w') {b o n:Nat} (ht:w.there b o n):w'.there b o n:=by
 rcases Nat.eq_zero_or_pos n with rfl|hn
 ·intro j hj;omega
 ·exact bU (h.block b (Qb ht hn)) ht
theorem Grow.keeps {w w':World} (h:Grow w w') (b:Nat):keeps w w' b :=
 ⟨fun _ _ ht=>h.there ht,fun r hr=>⟨r,(h.block b (Array.getElem?_eq_some_iff.1 hr).1).trans hr,rfl⟩⟩
theorem Fr.refl (O:Nat→Prop) (w:World):Fr O w w:=⟨rfl,rfl,rfl,Nat.le_refl _,fun _ _ _=>rfl⟩
theorem Fr.grow {O:Nat→Prop} {w0 w w':World} (h:Fr O w0 w) (g:Grow w w'):Fr O w0 w' :=
 ⟨g.os.trans h.os,g.tape.trans h.tape,g.output.trans h.output,Nat.le_trans h.size g.size,
  fun k hk ho=>(g.block k (Nat.lt_of_lt_of_le hk h.size)).trans (h.block k hk ho)⟩
theorem Ext.refl (C:Cx):Ext C C:=⟨fun _ h=>h,fun _ ob _ h=>⟨ob,h,rfl,Ob.like.refl ob⟩,fun _ h=>h,Nat.le_refl _,fun _ _=>rfl,fun _ _ b _ _ _=>keeps.refl _ b⟩
theorem Ext.trans {A B C:Cx} (h:Ext A B) (k:Ext B C):Ext A C :=
 ⟨fun id hu=>k.U id (h.U id hu),fun id ob hu ho=>by
  obtain⟨ob',h1,h2,h3⟩:=k.fd id ob (h.U id hu) ho
  obtain⟨ob'',k1,k2,k3⟩:=h.fd id ob' hu h1
  exact⟨ob'',k1,h2.trans k2,k3.trans h3⟩,
  fun b hb=>k.R b (h.R b hb),Nat.le_trans h.size k.size,fun b hb=>(k.blk b (h.R b hb)).trans (h.blk b hb),fun id ob b hu ho hm=>by
  obtain⟨ob',h1,h2,_⟩:=k.fd id ob (h.U id hu) ho
  obtain⟨_,_,k2,_⟩:=h.fd id ob' hu h1
  exact(h.there id ob' b hu h1 hm).trans (k.there id ob b (h.U id hu) ho (k2.trans hm))⟩
theorem dk {C D:Cx} (h:Ext C D) {id:Nat} {ob:Ob} (hm:D.mu id=C.mu id) (hb:∀b,C.mu id=some b→D.w.heap[b]?=C.w.heap[b]?) (ho:ju C id ob):ju D id ob:=by
 match ob,ho with
 | .var T x,⟨b,vs,h1,h2,h3,h4,c,fr,h5,h6⟩ =>
  exact⟨b,vs,hm.trans h1,aP h x vs h2,bp (hb b h1) h3,bU (hb b h1) h4,c,fr,(hb b h1).trans h5,h6⟩
 | .row t e xs,.inl ⟨h1,h2⟩=>exact .inl ⟨hm.trans h1,h2⟩
 | .map k v xs,⟨h1,h2,r,es,h3,h4,h5⟩=>exact⟨h1,h2,r,es,hm.trans h3,(hb r h3).trans h4,h5⟩
 | .lp k lv cap j,⟨l,r,h1,h2,h3,h4,h5⟩=>exact⟨l,r,hm.trans h1,(hb l h1).trans h2,h3,jG h lv cap h4,h5⟩
 | .row t e xs,.inr ⟨b,vs,h1,h2,h3,h4,h5,c,fr,h6⟩ =>
  exact .inr ⟨b,vs,hm.trans h1,aF (fun x vs hx=>aM h.R h.size h.blk t x vs hx) xs vs h2,bp (hb b h1) h3,bU (hb b h1) h4,Nat.lt_of_lt_of_le h5 h.size,c,fr,(hb b h1).trans h6⟩
section
variable {O R0:Nat→Prop} {w0:World} {C:Cx}
def Cx.del (C:Cx) (id:Nat):Cx:={ C with fd:=fun j=>if j=id then none else C.fd j }
theorem Ext.sub {D:Cx} (hfd:∀j ob,D.fd j=some ob→C.fd j=some ob) (hU:D.U=C.U) (hmu:D.mu=C.mu) (hR:D.R=C.R) (hw:D.w=C.w):Ext C D :=
 ⟨fun _ h=>by rw[hU];exact h,fun j ob _ h=>⟨ob,hfd j ob h,by rw[hmu],Ob.like.refl ob⟩,fun b h=>by rw[hR];exact h,by rw[hw];exact Nat.le_refl _,fun _ _=>by rw[hw],fun _ _ b _ _ _=>by rw[hw];exact keeps.refl _ b⟩
theorem Mem.sub {D:Cx} (hM:Mem O R0 w0 C) (hfd:∀j ob,D.fd j=some ob→C.fd j=some ob) (hU:D.U=C.U) (hmu:D.mu=C.mu) (hR:D.R=C.R) (hw:D.w=C.w):Mem O R0 w0 D:=by
 have hs:∀j,(D.fd j).isSome=true→(C.fd j).isSome=true:=fun j hj=>by
  obtain⟨ob,ho⟩:=Option.isSome_iff_exists.1 hj
  simp[hfd j ob ho]
 have hE:Ext C D:=Ext.sub hfd hU hmu hR hw
 refine⟨fun id h=>by rw[hU];exact hM.us id (hs id h),by rw[hw];exact hM.fr,fun id ob h=>dk hE (by rw[hmu]) (fun b _=>by rw[hw]) (hM.obs id ob (hfd id ob h)),?_,?_,?_,?_,?_,?_,?_⟩
 ·intro i j b hi hj h1 h2;rw[hmu] at h1 h2;exact hM.inj i j b (hs i hi) (hs j hj) h1 h2
 ·intro i b hi h1;rw[hmu] at h1;rw[hR];exact hM.notR i b (hs i hi) h1
 ·intro i b hi h1;rw[hmu] at h1;exact hM.own i b (hs i hi) h1
 ·intro i b hi h1;rw[hmu] at h1;rw[hw];exact hM.lt i b (hs i hi) h1
 ·intro b hb;rw[hR] at hb;exact hM.ro b hb
 ·intro b hb;rw[hR];exact hM.ro0 b hb
 ·intro b hb;rw[hR] at hb;rw[hw];exact hM.rlt b hb
theorem AD {id j:Nat} {ob:Ob} (h:(C.del id).fd j=some ob):C.fd j=some ob:=by
 simp only[Cx.del] at h
 split at h
 ·cases h
 ·exact h
theorem Ext.del (C:Cx) (id:Nat):Ext C (C.del id):=Ext.sub (fun _ _=>AD) rfl rfl rfl rfl
theorem Mem.del (hM:Mem O R0 w0 C) (id:Nat):Mem O R0 w0 (C.del id):=hM.sub (fun _ _=>AD) rfl rfl rfl rfl
theorem Ext.grow {w':World} (hl:∀b,C.R b→b<C.w.heap.size) (g:Grow C.w w'):Ext C { C with w:=w' } :=
 ⟨fun _ h=>h,fun _ ob _ h=>⟨ob,h,rfl,Ob.like.refl ob⟩,fun _ h=>h,g.size,fun b hb=>g.block b (hl b hb),fun _ _ b _ _ _=>g.keeps b⟩
theorem Mem.grow {w':World} (hM:Mem O R0 w0 C) (g:Grow C.w w'):Mem O R0 w0 { C with w:=w' } :=
 ⟨hM.us,hM.fr.grow g,fun id ob h=>dk (Ext.grow hM.rlt g) rfl (fun b hb=>g.block b (hM.lt id b (Option.isSome_iff_exists.2 ⟨ob,h⟩) hb)) (hM.obs id ob h),
  hM.inj,hM.notR,hM.own,fun i b hi h=>Nat.lt_of_lt_of_le (hM.lt i b hi h) g.size,hM.ro,hM.ro0,fun b hb=>Nat.lt_of_lt_of_le (hM.rlt b hb) g.size⟩
def Cx.add (C:Cx) (id:Nat) (ob:Ob) (m:Option Nat):Cx :=
 {C with U:=fun j=>j=id∨C.U j,fd:=fun j=>if j=id then some ob else C.fd j,mu:=fun j=>if j=id then m else C.mu j }
theorem Ext.add {id:Nat} (ob:Ob) (m:Option Nat) (hf:¬C.U id):Ext C (C.add id ob m) :=
 ⟨fun _ h=>.inr h,fun j o hu h=>by
  have hne:j≠id:=fun e=>by subst e;exact hf hu
  exact⟨o,by simpa[Cx.add,hne] using h,by simp[Cx.add,hne],Ob.like.refl o⟩,fun _ h=>h,Nat.le_refl _,fun _ _=>rfl,fun _ _ b _ _ _=>keeps.refl _ b⟩
theorem cy {id j:Nat} {ob:Ob} {m:Option Nat} (h:j≠id):(C.add id ob m).fd j=C.fd j:=by simp[Cx.add,h]
theorem da {id j:Nat} {ob:Ob} {m:Option Nat} (h:j≠id):(C.add id ob m).mu j=C.mu j:=by simp[Cx.add,h]
theorem EB {id:Nat} {ob:Ob} {m:Option Nat}:(C.add id ob m).fd id=some ob:=by simp[Cx.add]
theorem bR {id:Nat} {ob:Ob} {m:Option Nat}:(C.add id ob m).mu id=m:=by simp[Cx.add]
theorem Mem.add (hM:Mem O R0 w0 C) {id:Nat} {ob:Ob} {m:Option Nat} (hf:¬C.U id)
  (hm:∀b,m=some b→b<C.w.heap.size∧¬C.R b∧(∀j,(C.fd j).isSome=true→C.mu j≠some b)∧(O b∨w0.heap.size≤b))
  (ho:ju (C.add id ob m) id ob):Mem O R0 w0 (C.add id ob m):=by
 have hE:=Ext.add (C:=C) ob m hf
 refine⟨fun j hj=>?_,hM.fr,fun j o h=>?_,fun i j b hi hj h1 h2=>?_,fun i b hi h1=>?_,fun i b hi h1=>?_,fun i b hi h1=>?_,hM.ro,hM.ro0,hM.rlt⟩
 ·by_cases e:j=id
  ·exact .inl e
  ·rw[cy e] at hj;exact .inr (hM.us j hj)
 ·by_cases e:j=id
  ·subst e
   rw[EB] at h
   cases h
   exact ho
  ·rw[cy e] at h
   exact dk hE (da e) (fun _ _=>rfl) (hM.obs j o h)
 ·by_cases e:i=id
  ·by_cases e':j=id
   ·rw[e,e']
   ·subst e
    rw[bR] at h1;rw[da e'] at h2;rw[cy e'] at hj
    exact absurd h2 ((hm b h1).2.2.1 j hj)
  ·by_cases e':j=id
   ·subst e'
    rw[bR] at h2;rw[da e] at h1;rw[cy e] at hi
    exact absurd h1 ((hm b h2).2.2.1 i hi)
   ·rw[da e] at h1;rw[da e'] at h2;rw[cy e] at hi;rw[cy e'] at hj
    exact hM.inj i j b hi hj h1 h2
 ·by_cases e:i=id
  ·subst e;rw[bR] at h1;exact(hm b h1).2.1
  ·rw[da e] at h1;rw[cy e] at hi;exact hM.notR i b hi h1
 ·by_cases e:i=id
  ·subst e;rw[bR] at h1;exact(hm b h1).2.2.2
  ·rw[da e] at h1;rw[cy e] at hi;exact hM.own i b hi h1
 ·by_cases e:i=id
  ·subst e;rw[bR] at h1;exact(hm b h1).1
  ·rw[da e] at h1;rw[cy e] at hi;exact hM.lt i b hi h1
theorem Mem.addNew (hM:Mem O R0 w0 C) {id:Nat} {ob:Ob} {b:Nat} {w':World} (hf:¬C.U id) (g:Grow C.w w') (h1:C.w.heap.size≤b) (h2:b<w'.heap.size)
  (ho:ju ({ C with w:=w' }.add id ob (some b)) id ob):Mem O R0 w0 ({ C with w:=w' }.add id ob (some b)) :=
 (hM.grow g).add hf (fun b' e=>by
  cases e
  refine⟨h2,fun hr=>?_,fun j hj e=>?_,.inr (Nat.le_trans hM.fr.size h1)⟩
  ·have:=hM.rlt b hr;omega
  ·have:=hM.lt j b hj e;omega) ho
theorem Ext.addNew {id:Nat} {ob:Ob} {m:Option Nat} {w':World} (hl:∀b,C.R b→b<C.w.heap.size) (hf:¬C.U id) (g:Grow C.w w'):Ext C ({ C with w:=w' }.add id ob m) :=
 (Ext.grow hl g).trans (Ext.add (C:={ C with w:=w' }) ob m hf)
theorem Mem.freeze (hM:Mem O R0 w0 C) {id b:Nat} (hi:(C.fd id).isSome=true) (hb:C.mu id=some b) :
  Mem O R0 w0 { C.del id with R:=fun k=>k=b∨C.R k }∧Ext C { C.del id with R:=fun k=>k=b∨C.R k }:=by
 have hE:Ext C { C.del id with R:=fun k=>k=b∨C.R k } :=
  ⟨fun _ h=>h,fun j ob _ h=>⟨ob,AD h,rfl,Ob.like.refl ob⟩,fun _ h=>.inr h,Nat.le_refl _,fun _ _=>rfl,fun _ _ b _ _ _=>keeps.refl _ b⟩
 have hs:∀j,((C.del id).fd j).isSome=true→j≠id∧(C.fd j).isSome=true:=fun j hj=>by
  simp only[Cx.del] at hj
  by_cases e:j=id
  ·simp[e] at hj
  ·simp only[e,if_false] at hj;exact⟨e,hj⟩
 refine⟨⟨fun j hj=>hM.us j (hs j hj).2,hM.fr,fun j ob h=>dk hE rfl (fun _ _=>rfl) (hM.obs j ob (AD h)),?_,?_,?_,?_,?_,?_,?_⟩,hE⟩
 ·intro i j c hi hj h1 h2;exact hM.inj i j c (hs i hi).2 (hs j hj).2 h1 h2
 ·intro i c hi' h1 h2
  rcases h2 with rfl|h2
  ·exact(hs i hi').1 (hM.inj i id c (hs i hi').2 hi h1 hb)
  ·exact hM.notR i c (hs i hi').2 h1 h2
 ·intro i c hi h1;exact hM.own i c (hs i hi).2 h1
 ·intro i c hi h1;exact hM.lt i c (hs i hi).2 h1
 ·intro c hc
  rcases hc with rfl|hc
  ·exact .inr (hM.own id c hi hb)
  ·exact hM.ro c hc
 ·intro c hc;exact .inr (hM.ro0 c hc)
 ·intro c hc
  rcases hc with rfl|hc
  ·exact hM.lt id c hi hb
  ·exact hM.rlt c hc
end
end
end Go.Am
namespace Go.Am
noncomputable section
variable [PI:Inhabited Program]
structure Ctx where
 O:Nat→Prop
 R0:Nat→Prop
 w0:World
 pins:List Nat
 fd0:Nat→Option Ob
 mu0:Nat→Option Nat
 b0:Nat
 wp:World
abbrev cx (us:List Nat) (ob:List (Nat×Ob)) (mu:Nat→Option Nat) (R:Nat→Prop) (w:World):Cx:=⟨fun id=>id∈us,aB ob,mu,R,w⟩
def pv (r:Nat):Deferred:={ target:=.collected r,args:=#[] }
def Marks (b0:Nat) (R:Nat→Prop) (w:World) (ds:List Deferred):Prop :=
 b0≤w.heap.size∧∃ms:List Nat,ds=ms.map pv∧ms.Nodup∧∀r∈ms,R r∧b0≤r∧w.heap[r]?=some (.deferred (some []))
theorem Marks.nil {b0:Nat} {R:Nat→Prop} {w:World} (h:b0≤w.heap.size):Marks b0 R w []:=⟨h,[],rfl,List.nodup_nil,fun r h=>by cases h⟩
structure Sim (K:Ctx) (st:St) (a:Act) (mu:Nat→Option Nat) (R:Nat→Prop) (w:World):Prop where
 mem:Mem K.O K.R0 K.w0 (cx st.us st.ob mu R w)
 len:a.tmps.size=st.tm.length
 slots:∀i x,st.tm[i]?=some x→an (cx st.us st.ob mu R w) x (a.tmps.getD i undef)
 df:Marks K.b0 R w a.defers
 pin:∀i∈K.pins,i∈st.us∧∀o',aB st.ob i=some o'→∃o,K.fd0 i=some o∧mu i=K.mu0 i∧o.like o'∧∀b,K.mu0 i=some b→keeps K.wp w b
theorem Sim.eval {K:Ctx} {st:St} {a:Act} {mu:Nat→Option Nat} {R:Nat→Prop} {w:World} (h:Sim K st a mu R w) (x:Operand):an (cx st.us st.ob mu R w) (oS st.tm x) (a.eval x):=by
 cases x with
 | tmp t =>
  show an _ (rF st.tm t) (a.tmps.getD t undef)
  rw[dr]
  cases ht:st.tm[t]? with
  | none=>rw[List.getD,ht];exact trivial
  | some y=>rw[List.getD,ht];exact h.slots t y ht
 | const v=>exact rfl
 | global g=>exact rfl
 | func f=>exact rfl
theorem Eb (a:Array Value) (d i:Nat) (v:Value):(a.setIfInBounds d v).getD i undef=if i=d∧d<a.size then v else a.getD i undef:=by
 by_cases h:i=d
 ·subst h
  by_cases hl:i<a.size
  ·simp[Array.getD_eq_getD_getElem?,hl]
  ·simp[Array.getD_eq_getD_getElem?,hl]
 ·simp[Array.getD_eq_getD_getElem?,Array.getElem?_setIfInBounds_ne (Ne.symm h),h]
theorem Sim.put {K:Ctx} {st:St} {a:Act} {mu mu':Nat→Option Nat} {R R':Nat→Prop} {w w':World} (h:Sim K st a mu R w) {ob':List (Nat×Ob)} {us':List Nat} {x:TV} {v:Value} (d:Option Tmp)
  (hE:Ext (cx st.us st.ob mu R w) (cx us' ob' mu' R' w')) (hM:Mem K.O K.R0 K.w0 (cx us' ob' mu' R' w')) (hv:an (cx us' ob' mu' R' w') x v) :
  Sim K { tm:=fi st.tm d x,ob:=ob',us:=us' } (a.put d v) mu' R' w':=by
 refine⟨hM,?_,?_,?_,fun i hi=>⟨hE.U i (h.pin i hi).1,fun o' ho'=>?_⟩⟩
 ·cases d<;>simp[fi,cd,Act.put,h.len]
 ·intro i y hy
  cases d with
  | none=>exact aO hE _ _ (h.slots i y hy)
  | some d =>
   show an _ y ((a.tmps.setIfInBounds d v).getD i undef)
   rw[Eb,h.len]
   simp only[fi,cd,List.getElem?_set] at hy
   by_cases e:d=i
   ·subst e
    by_cases hl:d<st.tm.length
    ·simp[hl] at hy;subst hy;simp[hl,hv]
    ·simp[hl] at hy
   ·simp[e] at hy
    rw[if_neg (by intro hh;exact e hh.1.symm)]
    exact aO hE _ _ (h.slots i y hy)
 ·obtain⟨h0,ms,h1,h2,h3⟩:=h.df
  refine⟨Nat.le_trans h0 hE.size,ms,by cases d<;>simpa[Act.put] using h1,h2,fun r hr=>?_⟩
  obtain⟨k1,k2,k3⟩:=h3 r hr
  exact⟨hE.R r k1,k2,(hE.blk r k1).trans k3⟩
 ·obtain⟨o1,h1,h2,h3⟩:=hE.fd i o' (h.pin i hi).1 ho'
  obtain⟨o,h4,h5,h6,h7⟩:=(h.pin i hi).2 o1 h1
  exact⟨o,h4,h2.trans h5,h6.trans h3,fun b hb=>(h7 b hb).trans (hE.there i o' b (h.pin i hi).1 ho' (h5.trans hb))⟩
def Does (K:Ctx) (us:List Nat) (ob:List (Nat×Ob)) (mu:Nat→Option Nat) (R:Nat→Prop) (w:World) (e:Eff) (us':List Nat) (ob1:List (Nat×Ob)) (v:Value) (w':World):Prop :=
 ∃mu' R',Ext (cx us ob mu R w) (cx us' (aR ob1 e.upd) mu' R' w')∧Mem K.O K.R0 K.w0 (cx us' (aR ob1 e.upd) mu' R' w')∧an (cx us' (aR ob1 e.upd) mu' R' w') e.val v
theorem Does.quiet {K:Ctx} {us us':List Nat} {ob ob1:List (Nat×Ob)} {mu:Nat→Option Nat} {R:Nat→Prop} {w:World} (hM:Mem K.O K.R0 K.w0 (cx us ob mu R w)) {e:Eff} (ha:aV ob us e.new=some (ob1,us')) {v:Value}
  (h1:e.upd=[]) (h2:e.new=[]) (hv:an (cx us ob mu R w) e.val v):Does K us ob mu R w e us' ob1 v w:=by
 rw[h2] at ha
 cases ha
 unfold Does
 rw[h1]
 exact⟨mu,R,Ext.refl _,hM,hv⟩
theorem yw {K:Ctx} {R:Nat→Prop} {w:World}:∀(u:List (Nat×Ob)),(∀q∈u,∃t e,q.2=.row t e []) →
  ∀(l:List (Nat×Ob)) (us:List Nat) (l':List (Nat×Ob)) (us':List Nat) (mu:Nat→Option Nat),aV l us u=some (l',us')→Mem K.O K.R0 K.w0 (cx us l mu R w) →
  ∃mu',Ext (cx us l mu R w) (cx us' l' mu' R w)∧Mem K.O K.R0 K.w0 (cx us' l' mu' R w)∧∀q∈u,mu' q.1=none∧aB l' q.1=some q.2∧q.1∈us':=by
 intro u
 induction u with
 | nil =>
  intro _ l us l' us' mu h hM
  cases h
  exact⟨mu,Ext.refl _,hM,fun q hq=>by cases hq⟩
 | cons p r ih =>
  intro hu l us l' us' mu h hM
  obtain⟨id,o⟩:=p
  obtain⟨t,e,ho⟩:=hu (id,o) (List.mem_cons_self ..)
  simp only at ho
  subst ho
  simp only[aV] at h
  cases hh:has us id with
  | true=>rw[hh] at h;cases h
  | false =>
   rw[hh] at h
   have hf:¬id∈us:=fun hm=>by rw[(bw us id).2 hm] at hh;cases hh
   have hM1:=hM.add (id:=id) (ob:=.row t e []) (m:=none) hf (fun b hb=>by cases hb) (.inl ⟨bR,rfl⟩)
   have hE1:=Ext.add (C:=cx us l mu R w) (id:=id) (.row t e []) none hf
   have hcx:(cx us l mu R w).add id (.row t e []) none=cx (id::us) ((id,.row t e [])::l) (fun j=>if j=id then none else mu j) R w:=by
    simp only[Cx.add,Cx.mk.injEq,and_true]
    refine⟨funext fun j=>?_,funext fun j=>?_⟩
    ·simp
    ·rw[aY]
   rw[hcx] at hM1 hE1
   obtain⟨mu',hE2,hM2,hq⟩:=ih (fun q hq=>hu q (List.mem_cons_of_mem _ hq)) _ _ l' us' _ h hM1
   refine⟨mu',hE1.trans hE2,hM2,fun q hq'=>?_⟩
   rcases List.mem_cons.1 hq' with rfl|hq'
   ·-- the first one stays
    have hkeep:∀(v:List (Nat×Ob)) (k:List (Nat×Ob)) (ks:List Nat) (k':List (Nat×Ob)) (ks':List Nat),aV k ks v=some (k',ks')→id∈ks→aB k' id=aB k id∧id∈ks':=by
     intro v
     induction v with
     | nil=>intro k ks k' ks' hk hid;cases hk;exact⟨rfl,hid⟩
     | cons p2 r2 ih2 =>
      intro k ks k' ks' hk hid
      obtain⟨i2,o2⟩:=p2
      simp only[aV] at hk
      cases hh2:has ks i2 with
      | true=>rw[hh2] at hk;cases hk
      | false =>
       rw[hh2] at hk
       obtain⟨e1,e2⟩:=ih2 _ _ _ _ hk (List.mem_cons_of_mem _ hid)
       refine⟨e1.trans ?_,e2⟩
       rw[aY,if_neg]
       intro e;subst e
       rw[(bw ks id).2 hid] at hh2;cases hh2
    obtain⟨e1,e2⟩:=hkeep _ _ _ _ _ h (List.mem_cons_self ..)
    refine⟨?_,by simpa[aY] using e1,e2⟩
    obtain⟨_,_,h2,_⟩:=hE2.fd id (.row t e []) (List.mem_cons_self ..) (by simpa[aY] using e1)
    simpa using h2
   ·exact hq q hq'
theorem tz (v:Value) (h:Ur v=true):v.oneCell'=true:=by cases v<;>first|rfl|cases h
theorem zM (R:Nat→Prop) (w:World):∀(t:Ty) (cs:List Value) (x:t.den) (r:List Value),wC t cs=some (x,r)→∃a,cs=a++r∧bb R w t x a∧∀v∈a,v.oneCell'=true:=by
 intro t
 induction t with
 | int k =>
  intro cs x r h
  cases cs with
  | nil=>simp[wC] at h
  | cons c l =>
   cases c<;>simp only[wC] at h<;>try cases h
   split at h
   ·rename_i hk
    cases h;subst hk
    exact⟨[_],rfl,rfl,by simp[Value.oneCell']⟩
   ·cases h
 | bool =>
  intro cs x r h
  cases cs with
  | nil=>simp[wC] at h
  | cons c l =>
   cases c<;>simp only[wC] at h<;>try cases h
   exact⟨[_],rfl,rfl,by simp[Value.oneCell']⟩
 | str =>
  intro cs x r h
  cases cs with
  | nil=>simp[wC] at h
  | cons c l =>
   cases c<;>simp only[wC] at h<;>try cases h
   exact⟨[_],rfl,rfl,by simp[Value.oneCell']⟩
 | sl t _ =>
  intro cs x r h
  cases cs with
  | nil=>simp[wC] at h
  | cons c l =>
   cases c with
   | slice a n k =>
    cases a<;>cases n<;>cases k<;>simp only[wC] at h<;>cases h
    exact⟨[_],rfl,⟨none,0,rfl,Nat.le_refl _,.inl rfl⟩,by simp[Value.oneCell']⟩
   | _=>simp[wC] at h
 | unit =>
  intro cs x r h
  simp only[wC] at h
  cases h
  exact⟨[],rfl,rfl,by simp⟩
 | cons a b iha ihb =>
  intro cs x r h
  simp only[wC] at h
  cases h1:wC a cs with
  | none=>rw[h1] at h;cases h
  | some p =>
   obtain⟨y,l⟩:=p
   rw[h1] at h
   simp only at h
   cases h2:wC b l with
   | none=>rw[h2] at h;cases h
   | some q =>
    obtain⟨z,m⟩:=q
    rw[h2] at h
    cases h
    obtain⟨a1,e1,r1,o1⟩:=iha cs y l h1
    obtain⟨a2,e2,r2,o2⟩:=ihb l z r h2
    refine⟨a1++a2,by rw[e1,e2,List.append_assoc],⟨a1,a2,rfl,r1,r2⟩,fun v hv=>?_⟩
    rcases List.mem_append.1 hv with hv|hv
    ·exact o1 v hv
    ·exact o2 v hv
theorem nh (R:Nat→Prop) (w:World) (t:Ty):∀(n:Nat) (cs:List Value) (xs:List t.den) (r:List Value),Ha t n cs=some (xs,r)→∃a,cs=a++r∧xs.length=n∧bm (bb R w t) xs a
 | 0,cs,xs,r,h=>by simp only[Ha] at h;cases h;exact⟨[],rfl,rfl,rfl⟩
 | n+1,cs,xs,r,h=>by
  simp only[Ha] at h
  cases h1:wC t cs with
  | none=>rw[h1] at h;cases h
  | some p =>
   obtain⟨y,l⟩:=p
   rw[h1] at h
   simp only at h
   cases h2:Ha t n l with
   | none=>rw[h2] at h;cases h
   | some q =>
    obtain⟨z,m⟩:=q
    rw[h2] at h
    cases h
    obtain⟨a1,e1,r1,_⟩:=zM R w t cs y l h1
    obtain⟨a2,e2,h3,r2⟩:=nh R w t n l z r h2
    exact⟨a1++a2,by rw[e1,e2,List.append_assoc],by simp[h3],⟨a1,a2,rfl,r1,r2⟩⟩
def rO (u:List (Nat×Ob)):Prop:=∀q∈u,∃t e,q.2=.row t e []
def newAt (D:Cx) (u:List (Nat×Ob)):Prop:=∀q∈u,D.mu q.1=none∧D.fd q.1=some q.2∧D.U q.1
def aH4 (f:TypeId→List Value→Nat→OfC):Prop :=
 ∀T cs b x u b' r,f T cs b=some (x,u,b',r)→rO u∧∃a,cs=a++r∧∀D,newAt D u→bu D x a
theorem Ep {c:Value} {b:Nat} {cs:List Value} {x:TV} {u:List (Nat×Ob)} {b':Nat} {r:List Value} (h:cell1 c b cs=some (x,u,b',r)) :
  rO u∧∃a,c::cs=a++r∧∀D,newAt D u→bu D x a:=by
 unfold cell1 at h
 split at h
 ·rename_i ho
  cases h
  exact⟨fun q hq=>(by cases hq),[c],rfl,fun D _=>⟨rfl,tz c ho⟩⟩
 ·cases h
theorem qP (f:TypeId→List Value→Nat→OfC) (hf:aH4 f):∀(Ts:List TypeId) (cs:List Value) (b:Nat) (l:List TV) (u:List (Nat×Ob)) (b':Nat) (r:List Value),gN f Ts cs b=some (l,u,b',r) →
  rO u∧∃a,cs=a++r∧∀D,newAt D u→bj D l a
 | [],cs,b,l,u,b',r,h=>by
  simp only[gN] at h;cases h
  exact⟨fun q hq=>(by cases hq),[],rfl,fun D _=>rfl⟩
 | T::Ts,cs,b,l,u,b',r,h=>by
  simp only[gN] at h
  cases h1:f T cs b with
  | none=>rw[h1] at h;cases h
  | some p =>
   obtain⟨x,u1,b1,cs1⟩:=p
   rw[h1] at h
   simp only at h
   cases h2:gN f Ts cs1 b1 with
   | none=>rw[h2] at h;cases h
   | some q =>
    obtain⟨l2,u2,b2,cs2⟩:=q
    rw[h2] at h
    cases h
    obtain⟨n1,a1,e1,r1⟩:=hf _ _ _ _ _ _ _ h1
    obtain⟨n2,a2,e2,r2⟩:=qP f hf Ts cs1 b1 l2 u2 b' r h2
    refine⟨fun q hq=>?_,a1++a2,by rw[e1,e2,List.append_assoc],fun D hD=>⟨a1,a2,rfl,r1 D (fun q hq=>hD q (List.mem_append_left _ hq)),r2 D (fun q hq=>hD q (List.mem_append_right _ hq))⟩⟩
    rcases List.mem_append.1 hq with hq|hq
    ·exact n1 q hq
    ·exact n2 q hq
theorem ml (P:Program):∀n,aH4 (fU P n)
 | 0=>fun T cs b x u b' r h=>by simp[fU] at h
 | n+1=>fun T cs b x u b' r h=>by
  unfold fU at h
  split at h
  ·-- struct
   split at h
   ·rename_i hl
    cases h
    obtain⟨h1,a,h2,h3⟩:=qP _ (ml P n) _ _ _ _ _ _ _ hl
    exact⟨h1,a,h2,fun D hD=>h3 D hD⟩
   ·cases h
  ·split at h
   ·split at h
    ·rename_i hl
     cases h
     obtain⟨a,e,hn,hr⟩:=nh (fun _=>False) (cx [] [] (fun _=>none) (fun _=>False) default).w _ _ _ _ _ hl
     refine⟨fun q hq=>(by cases hq),a,e,fun D hD=>⟨hn,?_⟩⟩
     obtain⟨a',e',hn',hr'⟩:=nh D.R D.w _ _ _ _ _ hl
     have:a'=a:=List.append_cancel_right (e'.symm.trans e)
     rw[←this];exact hr'
    ·cases h
   ·cases h
  ·split at h
   ·split at h
    ·cases h
     refine⟨fun q hq=>?_,[_],rfl,fun D hD=>?_⟩
     ·simp only[List.mem_singleton] at hq;subst hq;exact⟨_,_,rfl⟩
     ·obtain⟨k1,k2,k3⟩:=hD _ (List.mem_singleton.2 rfl)
      refine⟨none,0,0,rfl,k3,fun ob ho=>?_⟩
      rw[k2] at ho;cases ho
      exact⟨_,_,[],rfl,.inl ⟨k1,rfl,none,rfl,.inl rfl⟩⟩
    ·cases h
     exact⟨fun q hq=>(by cases hq),[_],rfl,fun D _=>⟨rfl,rfl⟩⟩
   ·exact Ep h
   ·cases h
  ·split at h
   ·exact Ep h
   ·cases h
  ·cases h
theorem Ah {P:Program} {T:TypeId} {x z:TV} {b:Nat} {u:List (Nat×Ob)} (h:norm P T x b=some (z,u)) :
  rO u∧∀{C D:Cx} {v:Value},Ext C D→newAt D u→an C x v→an D z v:=by
 unfold norm at h
 split at h
 ·rename_i y
  split at h
  ·rename_i z' u' b' hc
   cases hb:J8 z' y with
   | false=>rw[hb] at h;cases h
   | true =>
    rw[hb] at h
    cases h
    obtain⟨h1,a,e,h3⟩:=ml P nf _ _ _ _ _ _ _ hc
    rw[List.append_nil] at e
    refine⟨h1,fun{C D v} _ hD hv=>?_⟩
    have hr:=h3 D hD
    rw[←e] at hr
    cases (show v=y from hv)
    have hcell:As y=false→y.cells.toList=[y]:=by cases y<;>intro hh<;>first|rfl|cases hh
    have hagg:As y=true→∃cs:Array Value,y=.agg cs:=by cases y<;>intro hh<;>first|exact⟨_,rfl⟩|cases hh
    cases z
    case agg fs=>obtain⟨cs,rfl⟩:=hagg hb;exact⟨cs.toList,rfl,hr⟩
    case arr t n xs=>obtain⟨cs,rfl⟩:=hagg hb;exact⟨cs.toList,rfl,hr⟩
    case v c =>
     simp only[J8,Bool.not_eq_true'] at hb
     rw[hcell hb] at hr
     obtain⟨hr,_⟩:=hr
     cases hr;exact rfl
    case tup l=>exact hr.elim
    case dead=>exact hr.elim
    all_goals (simp only[J8,Bool.not_eq_true'] at hb;rw[hcell hb] at hr;exact hr)
  ·cases h
 ·cases h
 ·cases h
  exact⟨fun q hq=>(by cases hq),fun hE _ hv=>aO hE _ _ hv⟩
end
end Go.Am
namespace Go.Am
noncomputable section
variable [PI:Inhabited Program]
theorem ay {R:Nat→Prop} {w:World}:∀(t:Ty) (x:t.den) (vs:List Value),bb R w t x vs→vs.length=t.cells
 | .int _,_,_,h=>by rw[show _=_ from h];rfl
 | .bool,_,_,h=>by rw[show _=_ from h];rfl
 | .str,_,_,h=>by rw[show _=_ from h];rfl
 | .unit,_,_,h=>by rw[show _=_ from h];rfl
 | .cons a r,x,_,⟨p,q,e,h1,h2⟩=>by rw[e,List.length_append,ay a x.1 p h1,ay r x.2 q h2];rfl
 | .sl _,_,_,⟨a,c,e,_⟩=>by rw[e];rfl
theorem gL {R:Nat→Prop} {w:World}:∀(t:Ty) (x:t.den) (vs:List Value),bb R w t x vs→∀v∈vs,v.oneCell'=true
 | .int _,_,_,h=>by rw[show _=_ from h];simp[Value.oneCell']
 | .bool,_,_,h=>by rw[show _=_ from h];simp[Value.oneCell']
 | .str,_,_,h=>by rw[show _=_ from h];simp[Value.oneCell']
 | .unit,_,_,h=>by rw[show _=_ from h];simp
 | .cons a r,x,_,⟨p,q,e,h1,h2⟩=>by
  rw[e];intro v hv
  rcases List.mem_append.1 hv with hv|hv
  ·exact gL a x.1 p h1 v hv
  ·exact gL r x.2 q h2 v hv
 | .sl _,_,_,⟨a,c,e,_⟩=>by rw[e];simp[Value.oneCell']
theorem ba {α:Type} {f:α→List Value→Prop} {n:Nat} (hf:∀x vs,f x vs→vs.length=n):∀(xs:List α) (vs:List Value),bm f xs vs→vs.length=xs.length*n
 | [],_,h=>by rw[show _=_ from h];simp
 | x::l,_,⟨a,b,e,h1,h2⟩=>by rw[e,List.length_append,hf x a h1,ba hf l b h2,List.length_cons,Nat.add_mul];omega
theorem nv {α:Type} {f:α→List Value→Prop} (hf:∀x vs,f x vs→∀v∈vs,v.oneCell'=true):∀(xs:List α) (vs:List Value),bm f xs vs→∀v∈vs,v.oneCell'=true
 | [],_,h=>by rw[show _=_ from h];simp
 | x::l,_,⟨a,b,e,h1,h2⟩=>by
  rw[e];intro v hv
  rcases List.mem_append.1 hv with hv|hv
  ·exact hf x a h1 v hv
  ·exact nv hf l b h2 v hv
theorem bQ {α:Type} {f:α→List Value→Prop}:∀(xs ys:List α) (as bs:List Value),bm f xs as→bm f ys bs→bm f (xs++ys) (as++bs)
 | [],_,_,_,h,k=>by rw[show _=_ from h];exact k
 | x::l,ys,_,bs,⟨a,b,e,h1,h2⟩,k=>⟨a,b++bs,by rw[e,List.append_assoc],h1,bQ l ys b bs h2 k⟩
theorem cV {α:Type} {f:α→List Value→Prop}:∀(xs ys:List α) (vs:List Value),bm f (xs++ys) vs→∃a b,vs=a++b∧bm f xs a∧bm f ys b
 | [],_,vs,h=>⟨[],vs,rfl,rfl,h⟩
 | x::l,ys,_,⟨a,b,e,h1,h2⟩=>by
  obtain⟨p,q,e2,h3,h4⟩:=cV l ys b h2
  exact⟨a++p,q,by rw[e,e2,List.append_assoc],⟨a,p,rfl,h1,h3⟩,h4⟩
theorem iE {α:Type} {f:α→List Value→Prop} {n:Nat} (hf:∀x vs,f x vs→vs.length=n) {xs:List α} {vs:List Value} (h:bm f xs vs) {j:Nat} {x:α} (hj:xs[j]?=some x) :
  ∃p m q,vs=p++m++q∧p.length=j*n∧f x m∧∀y m',f y m'→bm f (xs.set j y) (p++m'++q):=by
 have hlt:j<xs.length:=(List.getElem?_eq_some_iff.1 hj).1
 have hx:xs=xs.take j++x::xs.drop (j+1):=by
  have h1:xs[j]=x:=(List.getElem?_eq_some_iff.1 hj).2
  rw[←h1,List.getElem_cons_drop,List.take_append_drop]
 have h0:=h
 rw[hx] at h
 obtain⟨p,r,e,h1,m,q,e2,h2,h3⟩:=cV _ _ _ h
 refine⟨p,m,q,by rw[e,e2,List.append_assoc],?_,h2,fun y m' hy=>?_⟩
 ·rw[ba hf _ _ h1,List.length_take,Nat.min_eq_left (Nat.le_of_lt hlt)]
 ·have hs:xs.set j y=xs.take j++y::xs.drop (j+1):=by rw[List.set_eq_take_append_cons_drop,if_pos hlt]
  rw[hs,List.append_assoc]
  exact bQ _ _ _ _ h1 ⟨m',q,rfl,hy,h3⟩
mutual
theorem bo {C:Cx}:∀(x:TV) (vs:List Value),bu C x vs→vs.length=x.cells
 | .v _,_,⟨h,_⟩=>by rw[h];rfl
 | .adr _ _,_,⟨_,h,_⟩=>by rw[h];rfl
 | .sl _ _,_,⟨_,_,_,h,_⟩=>by rw[h];rfl
 | .ro t xs,vs,h=>ay (.sl t) xs vs h
 | .radr _ _ _,_,⟨_,_,_,h,_⟩=>by rw[h];rfl
 | .clo _ _,_,⟨_,h,_⟩=>by rw[h];rfl
 | .mp _,_,⟨_,h,_⟩=>by rw[h];rfl
 | .yv _,_,⟨_,h,_⟩=>by rw[h];rfl
 | .fv _,_,h=>by rw[show _=_ from h];rfl
 | .agg fs,vs,h=>by rw[TV.cells];exact xX fs vs h
 | .arr t n xs,vs,⟨h1,h2⟩=>by rw[TV.cells,ba (fun x vs hx=>ay t x vs hx) xs vs h2,h1]
theorem xX {C:Cx}:∀(l:List TV) (vs:List Value),bj C l vs→vs.length=cC l
 | [],_,h=>by rw[show _=_ from h];rfl
 | x::l,_,⟨a,b,e,h1,h2⟩=>by rw[e,List.length_append,bo x a h1,xX l b h2,cC]
end
mutual
theorem jH {C:Cx}:∀(x:TV) (vs:List Value),bu C x vs→∀v∈vs,v.oneCell'=true
 | .v _,_,⟨h,ho⟩=>by rw[h];simpa using ho
 | .adr _ _,_,⟨_,h,_⟩=>by rw[h];simp[Value.oneCell']
 | .sl _ _,_,⟨_,_,_,h,_⟩=>by rw[h];simp[Value.oneCell']
 | .ro t xs,vs,h=>gL (.sl t) xs vs h
 | .radr _ _ _,_,⟨_,_,_,h,_⟩=>by rw[h];simp[Value.oneCell']
 | .clo _ _,_,⟨_,h,_⟩=>by rw[h];simp[Value.oneCell']
 | .mp _,_,⟨_,h,_⟩=>by rw[h];simp[Value.oneCell']
 | .yv _,_,⟨_,h,_⟩=>by rw[h];simp[Value.oneCell']
 | .fv _,_,h=>by rw[show _=_ from h];simp[Value.oneCell']
 | .agg fs,vs,h=>xW fs vs h
 | .arr t n xs,vs,⟨h1,h2⟩=>nv (fun x vs hx=>gL t x vs hx) xs vs h2
theorem xW {C:Cx}:∀(l:List TV) (vs:List Value),bj C l vs→∀v∈vs,v.oneCell'=true
 | [],_,h=>by rw[show _=_ from h];simp
 | x::l,_,⟨a,b,e,h1,h2⟩=>by
  rw[e];intro v hv
  rcases List.mem_append.1 hv with hv|hv
  ·exact jH x a h1 v hv
  ·exact xW l b h2 v hv
end
theorem gM {C:Cx}:∀{fs:List TV} {vs:List Value} {k:Nat} {x:TV},bj C fs vs→fs[k]?=some x →
  ∃p m q,vs=p++m++q∧p.length=cC (fs.take k)∧bu C x m∧∀y m',bu C y m'→bj C (fs.set k y) (p++m'++q)
 | [],_,k,x,h,hk=>by simp at hk
 | f::fs,_,0,x,⟨a,b,e,h1,h2⟩,hk=>by
  simp at hk;subst hk
  exact⟨[],a,b,by simp[e],rfl,h1,fun y m' hy=>⟨m',b,by simp,hy,h2⟩⟩
 | f::fs,_,k+1,x,⟨a,b,e,h1,h2⟩,hk=>by
  simp at hk
  obtain⟨p,m,q,e2,h3,h4,h5⟩:=gM h2 hk
  refine⟨a++p,m,q,by rw[e,e2];simp,by rw[List.length_append,h3,bo f a h1,List.take_succ_cons,cC],h4,fun y m' hy=>?_⟩
  exact⟨a,p++m'++q,by simp,h1,h5 y m' hy⟩
theorem zN {C:Cx}:∀(t:Ty) (x:t.den) (vs:List Value),bb C.R C.w t x vs→(t.isAgg=true→bj C (tvs t x) vs)∧bu C (PG t (tvs t x)) vs
 | .int k,x,vs,h=>⟨fun hh=>(by cases hh),⟨h,rfl⟩⟩
 | .bool,x,vs,h=>⟨fun hh=>(by cases hh),⟨h,rfl⟩⟩
 | .str,x,vs,h=>⟨fun hh=>(by cases hh),⟨h,rfl⟩⟩
 | .sl t,x,vs,h=>⟨fun hh=>(by cases hh),h⟩
 | .unit,x,vs,h=>⟨fun _=>h,h⟩
 | .cons a r,x,vs,⟨p,q,e,h1,h2⟩=>by
  have h3:bj C (tvs (.cons a r) x) vs:=by
   refine⟨p,q,e,(zN a x.1 p h1).2,?_⟩
   have h4:=zN r x.2 q h2
   cases r with
   | unit=>exact h4.1 rfl
   | cons b s=>exact h4.1 rfl
   | int k=>exact⟨q,[],by simp,h4.2,rfl⟩
   | bool=>exact⟨q,[],by simp,h4.2,rfl⟩
   | str=>exact⟨q,[],by simp,h4.2,rfl⟩
   | sl t=>exact⟨q,[],by simp,h4.2,rfl⟩
  exact⟨fun _=>h3,h3⟩
theorem fa {C:Cx} (t:Ty) (x:t.den) (vs:List Value) (h:bb C.R C.w t x vs):bu C (js t x) vs:=(zN t x vs h).2
theorem jx {C:Cx}:∀(t:Ty) (z:TV) (x:t.den) (vs:List Value),dC t z=some x→bu C z vs→bb C.R C.w t x vs:=by
 intro t
 induction t with
 | int k =>
  intro z x vs h hr
  cases z<;>(try simp only[dC] at h)<;>(try cases h)
  rename_i y
  cases y<;>(try simp only[dC] at h)<;>(try cases h)
  split at h
  ·rename_i hk
   cases h;subst hk
   exact hr.1
  ·cases h
 | bool =>
  intro z x vs h hr
  cases z<;>(try simp only[dC] at h)<;>(try cases h)
  rename_i y
  cases y<;>(try simp only[dC] at h)<;>(try cases h)
  exact hr.1
 | str =>
  intro z x vs h hr
  cases z<;>(try simp only[dC] at h)<;>(try cases h)
  rename_i y
  cases y<;>(try simp only[dC] at h)<;>(try cases h)
  exact hr.1
 | sl t _ =>
  intro z x vs h hr
  cases z<;>(try simp only[dC] at h)<;>(try cases h)
  rename_i u ys
  split at h
  ·rename_i hu
   subst hu
   cases h
   exact hr
  ·cases h
 | unit =>
  intro z x vs h hr
  cases z<;>(try simp only[dC] at h)<;>(try cases h)
  rename_i fs
  cases fs<;>(try simp only[dC] at h)<;>(try cases h)
  exact hr
 | cons a r iha ihr =>
  intro z x vs h hr
  cases z<;>(try simp only[dC] at h)<;>(try cases h)
  rename_i fs
  cases fs with
  | nil=>simp[dC] at h
  | cons f fs =>
   simp only[dC] at h
   cases h1:dC a f with
   | none=>rw[h1] at h;cases h
   | some y =>
    cases h2:dC r (.agg fs) with
    | none=>rw[h1,h2] at h;cases h
    | some y2 =>
     rw[h1,h2] at h
     cases h
     obtain⟨p,q,e,h3,h4⟩:=hr
     exact⟨p,q,e,iha f y p h1 h3,ihr (.agg fs) y2 q h2 h4⟩
theorem jQ {C:Cx}:∀(p:List Step) (x y:TV) (vs:List Value),(x.getP p).to y→bu C x vs →
  ∃a m b,vs=a++m++b∧a.length=bq p∧bu C y m
 | [],x,y,vs,h,hr=>by
  cases Tr.to_ret h
  exact⟨[],vs,[],by simp,rfl,hr⟩
 | .f k o::p,x,y,vs,h,hr=>by
  cases x<;>first|exact(Tr.to_fail h).elim|skip
  rename_i fs
  unfold TV.getP at h
  split at h
  ·rename_i z hz
   cases hb:Nat.beq (cC (fs.take k)) o with
   | false=>rw[hb] at h;exact(Tr.to_fail h).elim
   | true =>
    rw[hb] at h
    have ho:=Nat.eq_of_beq_eq_true hb
    obtain⟨a,m,b,e,h1,h2,_⟩:=gM (C:=C) hr hz
    obtain⟨a',m',b',e',h1',h2'⟩:=jQ p z y m h h2
    refine⟨a++a',m',b'++b,by rw[e,e'];simp,?_,h2'⟩
    rw[List.length_append,h1,h1',ho];rfl
  ·exact(Tr.to_fail h).elim
 | .i j sz::p,x,y,vs,h,hr=>by
  cases x<;>first|exact(Tr.to_fail h).elim|skip
  rename_i t n xs
  unfold TV.getP at h
  cases hb:Nat.beq t.cells sz with
  | false=>rw[hb] at h;exact(Tr.to_fail h).elim
  | true =>
   rw[hb] at h
   have ho:=Nat.eq_of_beq_eq_true hb
   obtain⟨z,hz,h⟩:=Tr.to_ask h
   obtain⟨a,m,b,e,h1,h2,_⟩:=iE (fun x vs hx=>ay t x vs hx) hr.2 hz
   obtain⟨a',m',b',e',h1',h2'⟩:=jQ p (js t z) y m h (fa t z m h2)
   refine⟨a++a',m',b'++b,by rw[e,e'];simp,?_,h2'⟩
   rw[List.length_append,h1,h1',ho];rfl
theorem jD {C:Cx}:∀(p:List Step) (x y z:TV) (vs ys:List Value),(x.setP p y).to z→bu C x vs→bu C y ys →
  ∃a m b,vs=a++m++b∧a.length=bq p∧m.length=ys.length∧bu C z (a++ys++b)
 | [],x,y,z,vs,ys,h,hr,hy=>by
  unfold TV.setP at h
  cases hb:Nat.beq x.cells y.cells&&x.solid&&y.solid with
  | false=>rw[hb] at h;exact(Tr.to_fail h).elim
  | true =>
   rw[hb] at h
   simp only[Bool.and_eq_true] at hb
   cases Tr.to_ret h
   refine⟨[],vs,[],by simp,rfl,?_,by simpa using hy⟩
   rw[bo x vs hr,bo y ys hy,Nat.eq_of_beq_eq_true hb.1.1]
 | .f k o::p,x,y,z,vs,ys,h,hr,hy=>by
  cases x<;>first|exact(Tr.to_fail h).elim|skip
  rename_i fs
  unfold TV.setP at h
  split at h
  ·rename_i u hu
   cases hb:Nat.beq (cC (fs.take k)) o with
   | false=>rw[hb] at h;exact(Tr.to_fail h).elim
   | true =>
    rw[hb] at h
    have ho:=Nat.eq_of_beq_eq_true hb
    obtain⟨z',h3,h4⟩:=Tr.to_bind h
    cases Tr.to_ret h4
    obtain⟨a,m,b,e,h1,h2,hset⟩:=gM (C:=C) hr hu
    obtain⟨a',m',b',e',h1',hl,h2'⟩:=jD p u y z' m ys h3 h2 hy
    refine⟨a++a',m',b'++b,by rw[e,e'];simp,?_,hl,?_⟩
    ·rw[List.length_append,h1,h1',ho];rfl
    ·have:=hset z' _ h2'
     show bj C _ _
     rw[show a++a'++ys++(b'++b)=a++(a'++ys++b')++b by simp]
     exact this
  ·exact(Tr.to_fail h).elim
 | .i j sz::p,x,y,z,vs,ys,h,hr,hy=>by
  cases x<;>first|exact(Tr.to_fail h).elim|skip
  rename_i t n xs
  unfold TV.setP at h
  cases hb:Nat.beq t.cells sz with
  | false=>rw[hb] at h;exact(Tr.to_fail h).elim
  | true =>
   rw[hb] at h
   have ho:=Nat.eq_of_beq_eq_true hb
   obtain⟨u,hu,h⟩:=Tr.to_ask h
   obtain⟨z',h3,h4⟩:=Tr.to_bind h
   obtain⟨q,h5,h6⟩:=Tr.to_bind h4
   cases Tr.to_ret h6
   have h5:=Tr.to_opt h5
   obtain⟨a,m,b,e,h1,h2,hset⟩:=iE (fun x vs hx=>ay t x vs hx) hr.2 hu
   obtain⟨a',m',b',e',h1',hl,h2'⟩:=jD p (js t u) y z' m ys h3 (fa t u m h2) hy
   refine⟨a++a',m',b'++b,by rw[e,e'];simp,?_,hl,?_,?_⟩
   ·rw[List.length_append,h1,h1',ho];rfl
   ·rw[List.length_set];exact hr.1
   ·rw[show a++a'++ys++(b'++b)=a++(a'++ys++b')++b by simp]
    exact hset q _ (jx t z' q _ h5 h2')
theorem fe {C:Cx} {x:TV} {v:Value} (hs:x.solid=true) (h:an C x v):∃cs:List Value,bu C x cs∧((x.isAgg=true∧v=.agg cs.toArray)∨(x.isAgg=false∧cs=[v])):=by
 cases x with
 | v c=>exact⟨[c],⟨rfl,tz c hs⟩,.inr ⟨rfl,by rw[show v=c from h]⟩⟩
 | agg fs=>obtain⟨cs,e,h⟩:=h;exact⟨cs,h,.inl ⟨rfl,e⟩⟩
 | arr t n xs=>obtain⟨cs,e,h1,h2⟩:=h;exact⟨cs,⟨h1,h2⟩,.inl ⟨rfl,e⟩⟩
 | tup l=>cases hs
 | dead=>cases hs
 | adr id p=>exact⟨[v],h,.inr ⟨rfl,rfl⟩⟩
 | sl id p=>exact⟨[v],h,.inr ⟨rfl,rfl⟩⟩
 | ro t xs=>exact⟨[v],h,.inr ⟨rfl,rfl⟩⟩
 | radr t xs p=>exact⟨[v],h,.inr ⟨rfl,rfl⟩⟩
 | clo g cap=>exact⟨[v],h,.inr ⟨rfl,rfl⟩⟩
 | mp id=>exact⟨[v],h,.inr ⟨rfl,rfl⟩⟩
 | yv id=>exact⟨[v],h,.inr ⟨rfl,rfl⟩⟩
 | fv n=>exact⟨[v],h,.inr ⟨rfl,rfl⟩⟩
theorem gr {C:Cx} {x:TV} {cs:List Value} (h:bu C x cs):(x.isAgg=true→an C x (.agg cs.toArray))∧(x.isAgg=false→∃v,cs=[v]∧an C x v):=by
 cases x with
 | v c=>exact⟨fun hh=>(by cases hh),fun _=>⟨c,h.1,rfl⟩⟩
 | agg fs=>exact⟨fun _=>⟨cs,rfl,h⟩,fun hh=>by cases hh⟩
 | arr t n xs=>exact⟨fun _=>⟨cs,rfl,h.1,h.2⟩,fun hh=>by cases hh⟩
 | tup l=>exact h.elim
 | dead=>exact h.elim
 | adr id p=>obtain⟨a,e,h2⟩:=h;exact⟨fun hh=>(by cases hh),fun _=>⟨_,e,a,rfl,h2⟩⟩
 | sl id p=>obtain⟨a,n,c,e,h2⟩:=h;exact⟨fun hh=>(by cases hh),fun _=>⟨_,e,a,n,c,rfl,h2⟩⟩
 | ro t xs=>obtain⟨a,c,e,h2⟩:=h;exact⟨fun hh=>(by cases hh),fun _=>⟨_,e,a,c,rfl,h2⟩⟩
 | mp id=>obtain⟨r,e,h2⟩:=h;exact⟨fun hh=>(by cases hh),fun _=>⟨_,e,r,rfl,h2⟩⟩
 | yv id=>obtain⟨r,e,h2⟩:=h;exact⟨fun hh=>(by cases hh),fun _=>⟨_,e,r,rfl,h2⟩⟩
 | fv n=>exact⟨fun hh=>(by cases hh),fun _=>⟨_,h,rfl⟩⟩
 | clo g cap=>obtain⟨cs',e,h2⟩:=h;exact⟨fun hh=>(by cases hh),fun _=>⟨_,e,cs',rfl,h2⟩⟩
 | radr t xs p=>obtain⟨b,off,cs',e,h2⟩:=h;exact⟨fun hh=>(by cases hh),fun _=>⟨_,e,b,off,cs',rfl,h2⟩⟩
end
end Go.Am
namespace Go.Am
noncomputable section
variable [PI:Inhabited Program]
section
variable {P:Program} {C:Cx}
theorem HR (op:BinOp) (k:IntKind) (x y:Int) (z:TV) (h:(U5 op k x y).to z) (hsh:op≠.shl∧op≠.shr) (T:TypeId) (w:World) :
  ∃v,(binOp op T (.int k x) (.int k y)).run P w=.ok v w∧an C z v:=by
 cases op<;>simp only[U5] at h<;>try exact(Tr.to_fail h).elim
 case quo =>
  rcases Tr.to_ite h with⟨_,h⟩|⟨hy,h⟩
  ·exact(Tr.to_fail h).elim
  ·have hy:¬y=0:=of_decide_eq_false hy
   cases Tr.to_ret h
   exact⟨_,by simp[binOp,Op.intDiv,hy],rfl⟩
 case rem =>
  rcases Tr.to_ite h with⟨_,h⟩|⟨hy,h⟩
  ·exact(Tr.to_fail h).elim
  ·have hy:¬y=0:=of_decide_eq_false hy
   cases Tr.to_ret h
   exact⟨_,by simp[binOp,Op.intDiv,hy],rfl⟩
 all_goals
  cases Tr.to_ret h
  exact⟨_,by simp[binOp,Op.intArith,Op.intBits,Op.intCmp],rfl⟩
theorem xR (op:BinOp) (k k':IntKind) (x y:Int) (z:TV) (h:(shI op k x y).to z) (hsh:op=.shl∨op=.shr) (T:TypeId) (w:World) :
  ∃v,(binOp op T (.int k x) (.int k' y)).run P w=.ok v w∧an C z v:=by
 unfold shI at h
 rcases Tr.to_ite h with⟨_,h⟩|⟨hy,h⟩
 ·exact(Tr.to_fail h).elim
 ·have hy:¬y<0:=of_decide_eq_false hy
  rcases hsh with rfl|rfl
  ·cases Tr.to_ret h
   exact⟨_,by simp[binOp,Op.shift,hy],rfl⟩
  ·cases Tr.to_ret h
   exact⟨_,by simp[binOp,Op.shift,hy],rfl⟩
theorem HQ (op:BinOp) (x y:ByteArray) (z:TV) (h:(af3 op x y).to z) (T:TypeId) (w:World) :
  ∃v,(binOp op T (.string x) (.string y)).run P w=.ok v w∧an C z v:=by
 cases op<;>simp only[af3] at h<;>try exact(Tr.to_fail h).elim
 case add =>
  rcases Tr.to_ite h with⟨_,h⟩|⟨hy,h⟩
  ·exact(Tr.to_fail h).elim
  ·have hy:¬((x.size+y.size:Nat):Int)>IntKind.i64.max:=of_decide_eq_false hy
   cases Tr.to_ret h
   refine⟨.string (x++y),?_,rfl⟩
   show(Op.stringOp .add x y).run P w=_
   unfold Op.stringOp
   simp only[if_neg hy]
   rfl
 all_goals
  cases Tr.to_ret h
  exact⟨_,by rfl,rfl⟩
theorem run_equalIn_bool {T:TypeId} (hT:P.underlying T=some .bool) (d:Nat) (a b:Bool) (w:World):(Op.equalIn (d+1) T (.bool a) (.bool b)).run P w=.ok (a==b) w:=by
 unfold Op.equalIn
 rw[Sem.run_bind,run_underlying hT]
 rfl
theorem run_equal_bool {T:TypeId} (hT:P.underlying T=some .bool) (a b:Bool) (w:World):(Op.equal T (.bool a) (.bool b)).run P w=.ok (a==b) w:=run_equalIn_bool hT 9999 a b w
theorem ru {T e:TypeId} (hT:P.underlying T=some (.pointer e)) (d:Nat) (a:Option Addr) (w:World):(Op.equalIn (d+1) T (.pointer a) (.pointer none)).run P w=.ok a.isNone w:=by
 unfold Op.equalIn
 rw[Sem.run_bind,run_underlying hT]
 cases a<;>rfl
theorem ce {T e:TypeId} (hT:P.underlying T=some (.pointer e)) (a:Option Addr) (w:World):(Op.equal T (.pointer a) (.pointer none)).run P w=.ok a.isNone w:=ru hT 9999 a w
theorem Ei (op:BinOp) (T:TypeId) (X Y:Operand) (k k':IntKind) (a b:Int) (w:World):(eqGuard op T X Y (.int k a) (.int k' b)).run P w=.ok () w:=by
 cases op<;>rfl
theorem Eh (op:BinOp) (T:TypeId) (X Y:Operand) (a b:ByteArray) (w:World):(eqGuard op T X Y (.string a) (.string b)).run P w=.ok () w:=by
 cases op<;>rfl
theorem AC (op:BinOp) (T:TypeId) (X Y:Operand) (a b:Bool) (w:World):(eqGuard op T X Y (.bool a) (.bool b)).run P w=.ok () w:=by
 cases op<;>rfl
theorem fY (op:BinOp) (T:TypeId) (X Y:Operand) (a b:Option Addr) (w:World):(eqGuard op T X Y (.pointer a) (.pointer b)).run P w=.ok () w:=by
 cases op<;>rfl
theorem Es (op:BinOp) (T:TypeId) (X Y:Operand) (x y z:TV) (vx vy:Value) (h:(RB P op T x y).to z) (hx:an C x vx) (hy:an C y vy) (w:World) :
  ∃v,(do eqGuard op T X Y vx vy;binOp op T vx vy:Sem Value).run P w=.ok v w∧an C z v:=by
 unfold RB at h
 split at h
 ·rename_i k a k' b
  cases (show vx=_ from hx);cases (show vy=_ from hy)
  simp only[Sem.run_bind,Ei,Result.andThen_ok]
  split at h
  ·exact xR _ k k' a b z h (.inl rfl) T w
  ·exact xR _ k k' a b z h (.inr rfl) T w
  ·rename_i h1 h2
   split at h
   ·rename_i hk
    subst hk
    exact HR op k a b z h ⟨h1,h2⟩ T w
   ·exact(Tr.to_fail h).elim
 ·rename_i a b
  cases (show vx=_ from hx);cases (show vy=_ from hy)
  simp only[Sem.run_bind,Eh,Result.andThen_ok]
  exact HQ op a b z h T w
 ·rename_i a b
  cases (show vx=_ from hx);cases (show vy=_ from hy)
  simp only[Sem.run_bind,AC,Result.andThen_ok]
  split at h
  ·rename_i hT
   cases Tr.to_ret h
   exact⟨_,by simp only[binOp,Sem.run_bind,run_equal_bool hT,Result.andThen_ok,Sem.run_pure],rfl⟩
  ·rename_i hT
   cases Tr.to_ret h
   exact⟨_,by simp only[binOp,Sem.run_bind,run_equal_bool hT,Result.andThen_ok,Sem.run_pure],rfl⟩
  ·exact(Tr.to_fail h).elim
 ·rename_i id p
  obtain⟨ad,e,_⟩:=hx
  simp only[List.cons.injEq,and_true] at e
  subst e
  cases (show vy=_ from hy)
  simp only[Sem.run_bind,fY,Result.andThen_ok]
  split at h
  ·rename_i hT
   cases Tr.to_ret h
   exact⟨_,by simp only[binOp,Sem.run_bind,ce hT,Result.andThen_ok,Sem.run_pure];rfl,rfl⟩
  ·rename_i hT
   cases Tr.to_ret h
   exact⟨_,by simp only[binOp,Sem.run_bind,ce hT,Result.andThen_ok,Sem.run_pure];rfl,rfl⟩
  ·exact(Tr.to_fail h).elim
 ·cases (show vx=_ from hx);cases (show vy=_ from hy)
  simp only[Sem.run_bind,fY,Result.andThen_ok]
  split at h
  ·rename_i hT
   cases Tr.to_ret h
   exact⟨_,by simp only[binOp,Sem.run_bind,ce hT,Result.andThen_ok,Sem.run_pure];rfl,rfl⟩
  ·rename_i hT
   cases Tr.to_ret h
   exact⟨_,by simp only[binOp,Sem.run_bind,ce hT,Result.andThen_ok,Sem.run_pure];rfl,rfl⟩
  ·exact(Tr.to_fail h).elim
 ·exact(Tr.to_fail h).elim
theorem c8 {T:TypeId} {x:TV} (h:fits P T x=true):x.solid=true∧∃d,P.underlying T=some d∧bn P T=some x.cells∧x.isAgg=RG P T:=by
 unfold fits at h
 simp only[Bool.and_eq_true] at h
 obtain⟨h1,h2⟩:=h
 split at h2
 ·rename_i n hn
  simp only[Bool.and_eq_true,beq_iff_eq] at h2
  obtain⟨⟨h3,h4⟩,h5⟩:=h2
  obtain⟨d,hd⟩:=Option.isSome_iff_exists.1 h5
  exact⟨h1,d,hd,by rw[hn,Nat.eq_of_beq_eq_true h3],h4⟩
 ·cases h2
theorem Ez {T:TypeId} {d:TypeDesc} (hd:P.underlying T=some d):RG P T=d.isRow:=by
 unfold RG
 rw[hd]
 cases d<;>rfl
theorem pf {T:TypeId} {d:TypeDesc} (hd:P.underlying T=some d) (w:World):(isAgg T).run P w=.ok (RG P T) w:=by
 unfold isAgg
 rw[Sem.run_bind,run_underlying hd w,Ez hd]
 cases d<;>rfl
theorem wI {T:TypeId} {x:TV} {cs:List Value} {b o:Nat} (hf:fits P T x=true) (hr:bu C x cs) (hw:C.w.rangeAt b o cs) :
  ∃v,(Instr.loadAt T (.pointer (some ⟨b,o,none⟩))).run P C.w=.ok v C.w∧an C x v:=by
 obtain⟨hs,d,hd,hn,hag⟩:=c8 hf
 obtain⟨h1,h2⟩:=gr hr
 cases ha:x.isAgg with
 | true =>
  refine⟨.agg cs.toArray,run_loadAt_mid C.w b o T cs d hw hd ?_ ?_,h1 ha⟩
  ·rw[←Ez hd,←hag,ha]
  ·rw[bo x cs hr];exact hn
 | false =>
  obtain⟨v,e,hv⟩:=h2 ha
  subst e
  refine⟨v,?_,hv⟩
  have hc:=hw 0 v rfl
  simp only[Instr.loadAt,Instr.sureAddr,loadVar,Sem.run_bind,Sem.run_pure,Result.andThen_ok,pf hd,←hag,ha]
  simp only[Nat.add_zero] at hc
  simp[load,Sem.run,hc]
theorem aZ {w:World} {b o:Nat} {p m q:List Value} (h:w.rangeAt b o (p++m++q)):w.rangeAt b (o+p.length) m:=by
 intro j v hv
 have hj:=(List.getElem?_eq_some_iff.1 hv).1
 have:=h (p.length+j) v (by
  rw[List.append_assoc,List.getElem?_append_right (by omega),List.getElem?_append_left (by omega)]
  rw[show p.length+j-p.length=j by omega];exact hv)
 rw[←Nat.add_assoc] at this
 exact this
theorem nJ {O R0:Nat→Prop} {w0:World} (ob:List (Nat×Ob)) (hfd:C.fd=aB ob) (hM:Mem O R0 w0 C) (T:TypeId) (x:TV) (vx:Value) (e:Eff) (h:((tK P T x).run ob).to e) (hx:an C x vx) :
  e.upd=[]∧e.new=[]∧∃v,(Instr.loadAt T vx).run P C.w=.ok v C.w∧an C e.val v:=by
 have fin:∀{x:TV} {e:Eff} {cs:List Value} {b o:Nat},(if fits P T x then one x else .fail).to e→bu C x cs→C.w.rangeAt b o cs →
   e.upd=[]∧e.new=[]∧∃v,(Instr.loadAt T (.pointer (some ⟨b,o,none⟩))).run P C.w=.ok v C.w∧an C e.val v:=by
  intro x e cs b o h hr hw
  split at h
  ·rename_i hf
   cases Tr.to_ret h
   exact⟨rfl,rfl,wI hf hr hw⟩
  ·exact(Tr.to_fail h).elim
 unfold tK at h
 simp only at h
 split at h
 ·rename_i id p
  obtain⟨ad,ev,hu,hp⟩:=hx
  simp only[List.cons.injEq,and_true] at ev
  subst ev
  rw[GTr.run_get] at h
  split at h
  ·rename_i y ho
   rw[GTr.run_done] at h
   obtain⟨z,h1,h2⟩:=Tr.to_bind h
   have hob:=hM.obs id _ (by rw[hfd];exact ho)
   obtain⟨b,vs,hb,hr,hw,_⟩:=hob
   obtain⟨b',hb',ea⟩:=hp (by rw[hfd,ho];rfl)
   rw[hb] at hb';cases hb'
   obtain⟨a,m,q,e1,e2,hz⟩:=jQ p y z vs h1 hr
   subst e1
   have hw':=aZ hw
   rw[Nat.zero_add,e2] at hw'
   subst ea
   exact fin h2 hz hw'
  ·rename_i t et xs ho
   split at h
   ·rename_i j sz p
    cases hb:Nat.beq t.cells sz with
    | false=>rw[hb] at h;exact(Tr.to_fail h).elim
    | true =>
     rw[hb] at h
     have hsz:=Nat.eq_of_beq_eq_true hb
     obtain⟨u,hu',h⟩:=Tr.to_ask h
     obtain⟨z,h1,h2⟩:=Tr.to_bind h
     have hob:=hM.obs id _ (by rw[hfd];exact ho)
     rcases hob with⟨_,e0⟩|⟨b,vs,hb,hr,hw,_⟩
     ·subst e0;simp at hu'
     ·obtain⟨b',hb',ea⟩:=hp (by rw[hfd,ho];rfl)
      rw[hb] at hb';cases hb'
      obtain⟨a,m,q,e1,e2,hm,_⟩:=iE (fun x vs hx=>ay t x vs hx) hr hu'
      subst e1
      obtain⟨a',m',q',e1',e2',hz⟩:=jQ p _ z m h1 (fa t u m hm)
      subst e1'
      have hw':=aZ (aZ hw)
      rw[Nat.zero_add,e2,e2'] at hw'
      subst ea
      rw[hsz] at hw'
      exact fin h2 hz hw'
   ·exact(Tr.to_fail h).elim
  ·exact(Tr.to_fail h).elim
 ·rename_i t xs j sz p
  cases hb:Nat.beq t.cells sz with
  | false=>rw[hb] at h;exact(Tr.to_fail h).elim
  | true =>
   rw[hb] at h
   have hsz:=Nat.eq_of_beq_eq_true hb
   obtain⟨u,hu',h⟩:=Tr.to_ask h
   obtain⟨z,h1,h2⟩:=Tr.to_bind h
   obtain⟨b,off,cs,ev,hR,hlt,hr,hw⟩:=hx
   simp only[List.cons.injEq,and_true] at ev
   subst ev
   obtain⟨a,m,q,e1,e2,hm,_⟩:=iE (fun x vs hx=>ay t x vs hx) hr hu'
   subst e1
   obtain⟨a',m',q',e1',e2',hz⟩:=jQ p _ z m h1 (fa t u m hm)
   subst e1'
   have hw':=aZ (aZ hw)
   rw[e2,e2',hsz] at hw'
   rw[show off+bq (.i j sz::p)=off+j*sz+bq p by show off+(j*sz+bq p)=_;omega]
   exact fin h2 hz hw'
 ·exact(Tr.to_fail h).elim
end
end
end Go.Am
namespace Go.Am
noncomputable section
variable [PI:Inhabited Program]
section
variable {P:Program} {C:Cx}
def Quiet (C:Cx) (e:Eff) (v:Value):Prop:=e.upd=[]∧e.new=[]∧an C e.val v
theorem av {ob:List (Nat×Ob)} {t:Tr TV} {e:Eff} (h:((a6 t).run ob).to e):∃z,t.to z∧e=⟨z,[],[]⟩:=by
 obtain⟨z,h1,h2⟩:=Tr.to_bind (show(t.bind one).to e from h)
 exact⟨z,h1,(Tr.to_ret h2).symm⟩
theorem ax {ob:List (Nat×Ob)} {e:Eff} (h:((ak:GTr Eff).run ob).to e):False:=Tr.to_fail h
def uf (x:Option TV) (vx:Option Value) (d l:Nat):Prop :=
 (x=none∧vx=none∧l=d)∨∃k i,vx=some (.int k i)∧0≤i∧l=i.toNat
def qN (C:Cx) (x:Option TV) (v:Option Value):Prop:=match x,v with
 | none,none=>True
 | some x,some v=>an C x v
 | _,_=>False
theorem D2 {r:Nat} {lo:Option TV} {vlo:Option Value} {k:Nat→Nat→Tr TV} {z:TV} (hlo:qN C lo vlo) (h:(JQ lo r k).to z) :
  ∃l,l≤r∧(k l r).to z∧uf lo vlo 0 l:=by
 unfold JQ at h
 split at h
 ·cases vlo with
  | none=>exact⟨0,Nat.zero_le _,h,.inl ⟨rfl,rfl,rfl⟩⟩
  | some v=>exact hlo.elim
 ·rename_i k' i
  cases vlo with
  | none=>exact hlo.elim
  | some v =>
   cases (show v=_ from hlo)
   rcases Tr.to_ite h with⟨hb,h⟩|⟨_,h⟩
   ·have hb:0≤i∧i≤(r:Int):=of_decide_eq_true hb
    exact⟨i.toNat,by omega,h,.inr ⟨k',i,rfl,hb.1,rfl⟩⟩
   ·exact(Tr.to_fail h).elim
 ·exact(Tr.to_fail h).elim
theorem jV {n:Nat} {lo hi:Option TV} {vlo vhi:Option Value} {k:Nat→Nat→Tr TV} {z:TV} (hlo:qN C lo vlo) (hhi:qN C hi vhi) (h:(t7 n lo hi k).to z) :
  ∃l r,l≤r∧r≤n∧(k l r).to z∧uf lo vlo 0 l∧uf hi vhi n r:=by
 unfold t7 at h
 split at h
 ·obtain⟨l,h1,h2,h3⟩:=D2 hlo h
  cases vhi with
  | none=>exact⟨l,n,h1,Nat.le_refl _,h2,h3,.inl ⟨rfl,rfl,rfl⟩⟩
  | some v=>exact hhi.elim
 ·rename_i k' i
  cases vhi with
  | none=>exact hhi.elim
  | some v =>
   cases (show v=_ from hhi)
   rcases Tr.to_ite h with⟨hb,h⟩|⟨_,h⟩
   ·have hb:0≤i∧i≤(n:Int):=of_decide_eq_true hb
    obtain⟨l,h1,h2,h3⟩:=D2 hlo h
    exact⟨l,i.toNat,h1,by omega,h2,h3,.inr ⟨k',i,rfl,hb.1,rfl⟩⟩
   ·exact(Tr.to_fail h).elim
 ·exact(Tr.to_fail h).elim
theorem jo (isSlice:Bool) {n cap l r:Nat} {lo hi:Option TV} {vlo vhi:Option Value} (hlr:l≤r) (hr:r≤n) (hn:n≤cap) (hlo:uf lo vlo 0 l) (hhi:uf hi vhi n r) (w:World) :
  (Instr.sliceBounds isSlice n cap vlo vhi none).run P w=.ok (l,r,cap) w:=by
 rcases hlo with⟨_,rfl,rfl⟩|⟨k,i,rfl,h0,rfl⟩<;>rcases hhi with⟨_,rfl,rfl⟩|⟨k',i',rfl,h0',rfl⟩
 ·simp[Instr.sliceBounds]
 ·obtain⟨m,rfl⟩:=Int.eq_ofNat_of_zero_le h0'
  rw[Int.toNat_natCast] at *
  have h1:m≤cap:=by omega
  simp[Instr.sliceBounds,Instr.sliceBound,asIntOf,h1]
 ·obtain⟨m,rfl⟩:=Int.eq_ofNat_of_zero_le h0
  rw[Int.toNat_natCast] at *
  simp[Instr.sliceBounds,Instr.sliceBound,asIntOf,hlr]
 ·obtain⟨m,rfl⟩:=Int.eq_ofNat_of_zero_le h0
  obtain⟨m',rfl⟩:=Int.eq_ofNat_of_zero_le h0'
  rw[Int.toNat_natCast] at hlr hr ⊢
  rw[Int.toNat_natCast] at hlr
  have h1:m'≤cap:=by omega
  simp[Instr.sliceBounds,Instr.sliceBound,asIntOf,hlr,h1]
theorem aX {T:TypeId} {n:Nat} (h:bn P T=some n) (w:World):(sizeOf T).run P w=.ok n w:=by
 unfold bn at h
 cases hi:P.info? T with
 | none=>rw[hi] at h;cases h
 | some i =>
  rw[hi] at h
  simp at h
  simp[sizeOf,typeInfo,hi,h]
theorem fQ {T e:TypeId} {sz:Nat} (hT:P.underlying T=some (.slice e)) (hs:bn P e=some sz) {a:Option Addr} {n cap l r:Nat} {lo hi:Option TV} {vlo vhi:Option Value} (hlr:l≤r) (hr:r≤n) (hn:n≤cap)
  (hlo:uf lo vlo 0 l) (hhi:uf hi vhi n r) (w:World) :
  (Instr.sliceAt T (.slice a n cap) vlo vhi none).run P w=.ok (.slice (if cap=l then a else a.map (·.add (l*sz))) (r-l) (cap-l)) w:=by
 simp[Instr.sliceAt,Instr.slice,run_underlying hT,jo (P:=P) true hlr hr hn hlo hhi w,aX hs]
theorem kW {q:Prop} {w:World} {m:Option Nat} {len size:Nat} {part:Option (Nat×Nat)} {a:Option Addr} {n cap l r:Nat} (h:l4 q w m len size part (.slice a n cap)) (hlr:l≤r) (hr:r≤n) :
  n≤cap∧l4 q w m len size (some (match part with|none=>(l,r-l)|some (o,_)=>(o+l,r-l))) (.slice (if cap=l then a else a.map (·.add (l*size))) (r-l) (cap-l)):=by
 match part,h with
 | none,.inl ⟨h1,h2,_,h3,_⟩ =>
  cases h3
  refine⟨Nat.le_refl _,by omega,_,_,rfl,by omega,.inl (by omega)⟩
 | none,.inr ⟨b,c,h1,h2,h3,h4⟩ =>
  cases h2
  refine⟨h3,by omega,_,_,rfl,by omega,?_⟩
  by_cases hc:cap-l=0
  ·exact .inl hc
  ·refine .inr ⟨b,h1,?_,?_⟩
   ·rw[if_neg (by omega)];simp[Addr.add_mid]
   ·rw[show l+(cap-l)=cap by omega];exact h4
 | some (o,n'),⟨h0,a',c',h1,h2,h3⟩ =>
  cases h1
  refine⟨h2,by omega,_,_,rfl,by omega,?_⟩
  by_cases hc:cap-l=0
  ·exact .inl hc
  ·rcases h3 with h3|⟨b,h3,h4,h5⟩
   ·omega
   ·refine .inr ⟨b,h3,?_,?_⟩
    ·rw[if_neg (by omega),h4];simp[Addr.add_mid,Nat.add_mul]
    ·rw[show o+l+(cap-l)=o+cap by omega];exact h5
theorem fg {α:Type} {f:α→List Value→Prop} {n:Nat} (hf:∀x vs,f x vs→vs.length=n) {xs:List α} {vs:List Value} (h:bm f xs vs) (l k:Nat) (hl:l≤xs.length) :
  ∃p m q,vs=p++m++q∧p.length=l*n∧bm f ((xs.drop l).take k) m:=by
 have hx:xs=xs.take l++((xs.drop l).take k++(xs.drop l).drop k):=by rw[List.take_append_drop,List.take_append_drop]
 rw[hx] at h
 obtain⟨p,r,e,h1,h2⟩:=cV _ _ _ h
 obtain⟨m,q,e2,h3,h4⟩:=cV _ _ _ h2
 exact⟨p,m,q,by rw[e,e2,List.append_assoc],by rw[ba hf _ _ h1,List.length_take,Nat.min_eq_left hl],h3⟩
def eA (len:Nat):Option (Nat×Nat)→Nat
 | none=>len
 | some (_,n)=>n
theorem gF {q:Prop} {w:World} {m:Option Nat} {len size:Nat} {part:Option (Nat×Nat)} {a:Option Addr} {n c:Nat} (h:l4 q w m len size part (.slice a n c)):n=eA len part:=by
 match part,h with
 | none,.inl ⟨_,h2,_,h3,_⟩=>cases h3;exact h2.symm
 | none,.inr ⟨b,c',_,h2,_,_⟩=>cases h2;rfl
 | some (o,m),⟨_,a',c',h1,_⟩=>cases h1;rfl
theorem td {T e:TypeId} {sz:Nat} (hT:P.underlying T=some (.slice e)) (hs:bn P e=some sz) {a:Option Addr} {n cap h m:Nat} {k k':IntKind} (h1:h≤m) (h2:m≤cap) (w:World) :
  (Instr.sliceAt T (.slice a n cap) none (some (.int k h)) (some (.int k' m))).run P w=.ok (.slice a h m) w:=by
 have ha:(if m=0 then a else a.map (·.add (0*sz)))=a:=by
  split
  ·rfl
  ·cases a<;>simp[Addr.add]
 have hb:(Instr.sliceBounds true n cap none (some (.int k h)) (some (.int k' m))).run P w=.ok (0,h,m) w:=by
  simp[Instr.sliceBounds,Instr.sliceBound,asIntOf,h1,h2]
 simp only[Instr.sliceAt,Instr.slice,run_underlying hT,Sem.run_bind,Result.andThen_ok,hb,aX hs,Sem.run_pure]
 rw[ha]
 rfl
theorem kX {q:Prop} {w:World} {m:Option Nat} {len size:Nat} {part:Option (Nat×Nat)} {a:Option Addr} {n cap h k:Nat} (hs:l4 q w m len size part (.slice a n cap)) (h1:h≤k) (h2:k≤n) :
  n≤cap∧l4 q w m len size (some (match part with|none=>(0,h)|some (o,_)=>(o,h))) (.slice a h k):=by
 match part,hs with
 | none,.inl ⟨g1,g2,_,g3,_⟩ =>
  cases g3
  exact⟨Nat.le_refl _,by omega,_,_,rfl,h1,.inl (by omega)⟩
 | none,.inr ⟨b,c,g1,g2,g3,g4⟩ =>
  cases g2
  refine⟨g3,by omega,_,_,rfl,h1,.inr ⟨b,g1,by rw[Nat.zero_mul],jy g4 ?_⟩⟩
  exact Nat.mul_le_mul_right _ (by omega)
 | some (o,n'),⟨g0,a',c',g1,g2,g3⟩ =>
  cases g1
  refine⟨g2,by omega,_,_,rfl,h1,?_⟩
  rcases g3 with g3|⟨b,g3,g4,g5⟩
  ·exact .inl (by omega)
  ·exact .inr ⟨b,g3,g4,jy g5 (Nat.mul_le_mul_right _ (by omega))⟩
theorem sT (ob:List (Nat×Ob)) (hfd:C.fd=aB ob) (T:TypeId) (x hi mx:TV) (vx vhi vmx:Value) (e:Eff) (h:((sU P T x hi mx).run ob).to e) (hx:an C x vx) (hhi:an C hi vhi) (hmx:an C mx vmx) :
  ∃v,(Instr.sliceAt T vx none (some vhi) (some vmx)).run P C.w=.ok v C.w∧Quiet C e v:=by
 unfold sU at h
 split at h
 ·rename_i et id p k1 hh k2 mm hT
  cases (show vhi=_ from hhi)
  cases (show vmx=_ from hmx)
  obtain⟨a,n,c,ev,hu,hp⟩:=hx
  simp only[List.cons.injEq,and_true] at ev
  subst ev
  rw[GTr.run_get] at h
  split at h
  ·rename_i t ee xs ho
   obtain⟨t',e',xs',heq,hs⟩:=hp _ (by rw[hfd];exact ho)
   cases heq
   split at h
   ·rename_i sz hsz
    cases hb:Nat.beq t.cells sz with
    | false=>rw[hb] at h;exact(ax h).elim
    | true =>
     rw[hb] at h
     have hcs:=Nat.eq_of_beq_eq_true hb
     have hlen:=gF hs
     cases p with
     | none =>
      obtain⟨z,h',he⟩:=av h;subst he;clear h;have h:=h';clear h'
      rcases Tr.to_ite h with⟨hc,h⟩|⟨_,h⟩
      ·have hc:=of_decide_eq_true hc
       obtain⟨c1,c2,c3⟩:=hc
       cases Tr.to_ret h
       simp only[eA] at hlen
       obtain⟨hh,rfl⟩:=Int.eq_ofNat_of_zero_le c1
       obtain⟨mm,rfl⟩:=Int.eq_ofNat_of_zero_le (show 0≤mm by omega)
       obtain⟨hn,hr⟩:=kX hs (h:=hh) (k:=mm) (by omega) (by omega)
       refine⟨_,td hT hsz (by omega) (by omega) C.w,rfl,rfl,_,_,_,rfl,hu,fun ob' ho'=>?_⟩
       rw[hfd] at ho'
       cases ho.symm.trans ho'
       exact⟨_,_,_,rfl,hr⟩
      ·exact(Tr.to_fail h).elim
     | some q =>
      obtain⟨o,m⟩:=q
      obtain⟨z,h',he⟩:=av h;subst he;clear h;have h:=h';clear h'
      rcases Tr.to_ite h with⟨hc,h⟩|⟨_,h⟩
      ·have hc:=of_decide_eq_true hc
       obtain⟨c1,c2,c3⟩:=hc
       cases Tr.to_ret h
       simp only[eA] at hlen
       obtain⟨hh,rfl⟩:=Int.eq_ofNat_of_zero_le c1
       obtain⟨mm,rfl⟩:=Int.eq_ofNat_of_zero_le (show 0≤mm by omega)
       obtain⟨hn,hr⟩:=kX hs (h:=hh) (k:=mm) (by omega) (by omega)
       refine⟨_,td hT hsz (by omega) (by omega) C.w,rfl,rfl,_,_,_,rfl,hu,fun ob' ho'=>?_⟩
       rw[hfd] at ho'
       cases ho.symm.trans ho'
       exact⟨_,_,_,rfl,hr⟩
      ·exact(Tr.to_fail h).elim
   ·exact(ax h).elim
  ·exact(ax h).elim
 ·exact(ax h).elim
theorem tb {T e:TypeId} {sz:Nat} (hT:P.underlying T=some (.slice e)) (hs:bn P e=some sz) {a:Option Addr} {n cap l h m:Nat} {k0 k k':IntKind} (h0:l≤h) (h1:h≤m) (h2:m≤cap) (w:World) :
  (Instr.sliceAt T (.slice a n cap) (some (.int k0 l)) (some (.int k h)) (some (.int k' m))).run P w=.ok (.slice (if m=l then a else a.map (·.add (l*sz))) (h-l) (m-l)) w:=by
 have hb:(Instr.sliceBounds true n cap (some (.int k0 l)) (some (.int k h)) (some (.int k' m))).run P w=.ok (l,h,m) w:=by
  simp[Instr.sliceBounds,Instr.sliceBound,asIntOf,h0,h1,h2]
 simp only[Instr.sliceAt,Instr.slice,run_underlying hT,Sem.run_bind,Result.andThen_ok,hb,aX hs,Sem.run_pure]
theorem sR (ob:List (Nat×Ob)) (hfd:C.fd=aB ob) (T:TypeId) (x lo hi mx:TV) (vx vlo vhi vmx:Value) (e:Eff) (h:((sS P T x lo hi mx).run ob).to e) (hx:an C x vx) (hlo:an C lo vlo) (hhi:an C hi vhi) (hmx:an C mx vmx) :
  ∃v,(Instr.sliceAt T vx (some vlo) (some vhi) (some vmx)).run P C.w=.ok v C.w∧Quiet C e v:=by
 unfold sS at h
 split at h
 ·rename_i et id p k0 ll k1 hh k2 mm hT
  cases (show vlo=_ from hlo)
  cases (show vhi=_ from hhi)
  cases (show vmx=_ from hmx)
  obtain⟨a,n,c,ev,hu,hp⟩:=hx
  simp only[List.cons.injEq,and_true] at ev
  subst ev
  rw[GTr.run_get] at h
  split at h
  ·rename_i t ee xs ho
   obtain⟨t',e',xs',heq,hs⟩:=hp _ (by rw[hfd];exact ho)
   cases heq
   split at h
   ·rename_i sz hsz
    cases hb:Nat.beq t.cells sz with
    | false=>rw[hb] at h;exact(ax h).elim
    | true =>
     rw[hb] at h
     have hcs:=Nat.eq_of_beq_eq_true hb
     have hlen:=gF hs
     cases p with
     | none =>
      obtain⟨z,h',he⟩:=av h;subst he;clear h;have h:=h';clear h'
      rcases Tr.to_ite h with⟨hc,h⟩|⟨_,h⟩
      ·have hc:=of_decide_eq_true hc
       obtain⟨c0,c1,c2,c3⟩:=hc
       cases Tr.to_ret h
       simp only[eA] at hlen
       obtain⟨ll,rfl⟩:=Int.eq_ofNat_of_zero_le c0
       obtain⟨hh,rfl⟩:=Int.eq_ofNat_of_zero_le (show 0≤hh by omega)
       obtain⟨mm,rfl⟩:=Int.eq_ofNat_of_zero_le (show 0≤mm by omega)
       obtain⟨hn,hr⟩:=kX hs (h:=hh) (k:=mm) (by omega) (by omega)
       obtain⟨_,hr⟩:=kW hr (l:=ll) (r:=hh) (by omega) (Nat.le_refl _)
       refine⟨_,tb hT hsz (by omega) (by omega) (by omega) C.w,rfl,rfl,_,_,_,rfl,hu,fun ob' ho'=>?_⟩
       rw[hfd] at ho'
       cases ho.symm.trans ho'
       refine⟨_,_,_,rfl,?_⟩
       rw[←hcs]
       simpa using hr
      ·exact(Tr.to_fail h).elim
     | some q =>
      obtain⟨o,m⟩:=q
      obtain⟨z,h',he⟩:=av h;subst he;clear h;have h:=h';clear h'
      rcases Tr.to_ite h with⟨hc,h⟩|⟨_,h⟩
      ·have hc:=of_decide_eq_true hc
       obtain⟨c0,c1,c2,c3⟩:=hc
       cases Tr.to_ret h
       simp only[eA] at hlen
       obtain⟨ll,rfl⟩:=Int.eq_ofNat_of_zero_le c0
       obtain⟨hh,rfl⟩:=Int.eq_ofNat_of_zero_le (show 0≤hh by omega)
       obtain⟨mm,rfl⟩:=Int.eq_ofNat_of_zero_le (show 0≤mm by omega)
       obtain⟨hn,hr⟩:=kX hs (h:=hh) (k:=mm) (by omega) (by omega)
       obtain⟨_,hr⟩:=kW hr (l:=ll) (r:=hh) (by omega) (Nat.le_refl _)
       refine⟨_,tb hT hsz (by omega) (by omega) (by omega) C.w,rfl,rfl,_,_,_,rfl,hu,fun ob' ho'=>?_⟩
       rw[hfd] at ho'
       cases ho.symm.trans ho'
       refine⟨_,_,_,rfl,?_⟩
       rw[←hcs]
       simpa using hr
      ·exact(Tr.to_fail h).elim
   ·exact(ax h).elim
  ·exact(ax h).elim
 ·exact(ax h).elim
theorem wG (ob:List (Nat×Ob)) (hfd:C.fd=aB ob) (T:TypeId) (x:TV) (vx:Value) (lo hi:Option TV) (vlo vhi:Option Value) (hlo:qN C lo vlo) (hhi:qN C hi vhi) (e:Eff) (h:((zS P T x lo hi).run ob).to e) (hx:an C x vx) :
  ∃v,(Instr.sliceAt T vx vlo vhi none).run P C.w=.ok v C.w∧Quiet C e v:=by
 unfold zS at h
 split at h
 ·rename_i s hT
  obtain⟨z,h',he⟩:=av h;subst he;clear h;have h:=h';clear h'
  obtain⟨l,r,h1,h2,h3,h4,h5⟩:=jV hlo hhi h
  cases Tr.to_ret h3
  cases (show vx=_ from hx)
  exact⟨.string (s.extract l r),by simp[Instr.sliceAt,Instr.slice,run_underlying hT,jo (P:=P) false h1 h2 (Nat.le_refl _) h4 h5 C.w],rfl,rfl,rfl⟩
 ·rename_i et id p hT
  obtain⟨a,n,c,ev,hu,hp⟩:=hx
  simp only[List.cons.injEq,and_true] at ev
  subst ev
  rw[GTr.run_get] at h
  split at h
  ·rename_i t ee xs ho
   obtain⟨t',e',xs',heq,hs⟩:=hp _ (by rw[hfd];exact ho)
   cases heq
   split at h
   ·rename_i sz hsz
    cases hb:Nat.beq t.cells sz with
    | false=>rw[hb] at h;exact(ax h).elim
    | true =>
     rw[hb] at h
     have hcs:=Nat.eq_of_beq_eq_true hb
     have hlen:=gF hs
     cases p with
     | none =>
      obtain⟨z,h',he⟩:=av h;subst he;clear h;have h:=h';clear h'
      obtain⟨l,r,h1,h2,h3,h4,h5⟩:=jV hlo hhi h
      cases Tr.to_ret h3
      simp only[eA] at hlen
      subst hlen
      obtain⟨hn,hr⟩:=kW hs h1 h2
      refine⟨_,fQ hT hsz h1 h2 hn h4 h5 C.w,rfl,rfl,_,_,_,rfl,hu,fun ob' ho'=>?_⟩
      rw[hfd] at ho'
      cases ho.symm.trans ho'
      refine⟨_,_,_,rfl,?_⟩
      rw[←hcs]
      exact hr
     | some q =>
      obtain⟨o,m⟩:=q
      obtain⟨z,h',he⟩:=av h;subst he;clear h;have h:=h';clear h'
      obtain⟨l,r,h1,h2,h3,h4,h5⟩:=jV hlo hhi h
      cases Tr.to_ret h3
      simp only[eA] at hlen
      subst hlen
      obtain⟨hn,hr⟩:=kW hs h1 h2
      refine⟨_,fQ hT hsz h1 h2 hn h4 h5 C.w,rfl,rfl,_,_,_,rfl,hu,fun ob' ho'=>?_⟩
      rw[hfd] at ho'
      cases ho.symm.trans ho'
      refine⟨_,_,_,rfl,?_⟩
      rw[←hcs]
      exact hr
   ·exact(ax h).elim
  ·exact(ax h).elim
 ·rename_i et t xs hT
  split at h
  ·rename_i sz hsz
   cases hb:Nat.beq t.cells sz with
   | false=>rw[hb] at h;exact(ax h).elim
   | true =>
    rw[hb] at h
    have hcs:=Nat.eq_of_beq_eq_true hb
    obtain⟨z,h',he⟩:=av h;subst he;clear h;have h:=h';clear h'
    obtain⟨l,r,h1,h2,h3,h4,h5⟩:=jV hlo hhi h
    cases Tr.to_ret h3
    obtain⟨a,c,ev,hle,hd⟩:=hx
    simp only[List.cons.injEq,and_true] at ev
    subst ev
    have hlen:((xs.drop l).take (r-l)).length=r-l:=by simp;omega
    refine⟨_,fQ hT hsz h1 h2 hle h4 h5 C.w,rfl,rfl,(if c=l then a else a.map (·.add (l*sz))),c-l,by rw[hlen],by omega,?_⟩
    by_cases hc:c=l
    ·left
     apply List.eq_nil_of_length_eq_zero
     rw[hlen];omega
    ·rcases hd with rfl|⟨b,off,cs,rfl,hR,hlt,hr,hw⟩
     ·left;simp
     ·right
      obtain⟨p,m,q,e1,e2,e3⟩:=fg (fun x vs hx=>ay t x vs hx) hr l (r-l) (by omega)
      subst e1
      refine⟨b,off+l*sz,m,?_,hR,hlt,e3,?_⟩
      ·rw[if_neg hc];simp[Addr.add_mid]
      ·have:=aZ hw
       rw[e2,hcs] at this
       exact this
  ·exact(ax h).elim
 ·rename_i et hT
  split at h
  ·rename_i sz hsz
   obtain⟨z,h',he⟩:=av h;subst he;clear h;have h:=h';clear h'
   obtain⟨l,r,h1,h2,h3,h4,h5⟩:=jV hlo hhi h
   cases Tr.to_ret h3
   cases (show vx=_ from hx)
   have hl:l=0:=by omega
   have hr:r=0:=by omega
   subst hl;subst hr
   exact⟨_,fQ hT hsz h1 h2 (Nat.le_refl _) h4 h5 C.w,rfl,rfl,rfl⟩
  ·exact(ax h).elim
 ·exact(ax h).elim
theorem Er (ob:List (Nat×Ob)) (T ty:TypeId) (x:TV) (vx:Value) (rest:List TypeId) (e:Eff) (h:((Rz P T x).run ob).to e) (hx:an C x vx) :
  ∃v,(Builtin.cap_ (T::rest).toArray ty #[vx]).run P C.w=.ok v C.w∧Quiet C e v:=by
 unfold Rz at h
 split at h
 ·rename_i et hT
  obtain⟨z,h',he⟩:=av h;subst he;clear h;have h:=h';clear h'
  cases Tr.to_ret h
  cases (show vx=_ from hx)
  exact⟨_,by simp[Builtin.cap_,run_underlying hT],rfl,rfl,rfl⟩
 ·exact(ax h).elim
theorem D6 (ob:List (Nat×Ob)) (hfd:C.fd=aB ob) (T ty:TypeId) (x:TV) (vx:Value) (rest:List TypeId) (e:Eff) (h:((Q3 P T x).run ob).to e) (hx:an C x vx) :
  ∃v,(Builtin.len_ (T::rest).toArray ty #[vx]).run P C.w=.ok v C.w∧Quiet C e v:=by
 have key:∀{u:TypeDesc},P.underlying T=some u→∀(n:Nat),(match u,vx with
   | .string,.string s=>some s.size
   | .array n _,_=>some n
   | .slice _,.slice _ n _=>some n
   | _,_=>none)=some n→(Builtin.len_ (T::rest).toArray ty #[vx]).run P C.w=.ok (goInt n) C.w:=by
  intro u hu n hn
  split at hn<;>cases hn<;>simp[Builtin.len_,run_underlying hu]
 unfold Q3 at h
 split at h
 ·rename_i s hT
  obtain⟨z,h',he⟩:=av h;subst he;clear h;have h:=h';clear h'
  cases Tr.to_ret h
  cases (show vx=_ from hx)
  exact⟨_,key hT s.size rfl,rfl,rfl,rfl⟩
 ·rename_i et id p hT
  obtain⟨a,n,c,ev,hu,hp⟩:=hx
  simp only[List.cons.injEq,and_true] at ev
  subst ev
  rw[GTr.run_get] at h
  split at h
  ·rename_i t ee xs ho
   obtain⟨t',e',xs',heq,hs⟩:=hp _ (by rw[hfd];exact ho)
   cases heq
   cases p with
   | none =>
    obtain⟨z,h',he⟩:=av h;subst he;clear h;have h:=h';clear h'
    cases Tr.to_ret h
    have hn:n=xs.length:=by
     rcases hs with⟨_,h2,_,h3,_⟩|⟨b,c',_,h2,_,_⟩
     ·cases h3;exact h2.symm
     ·cases h2;rfl
    subst hn
    exact⟨_,key hT _ rfl,rfl,rfl,rfl⟩
   | some q =>
    obtain⟨o,m⟩:=q
    obtain⟨z,h',he⟩:=av h;subst he;clear h;have h:=h';clear h'
    cases Tr.to_ret h
    obtain⟨_,a',c',h1,_⟩:=hs
    cases h1
    exact⟨_,key hT _ rfl,rfl,rfl,rfl⟩
  ·exact(ax h).elim
 ·rename_i et t xs hT
  obtain⟨z,h',he⟩:=av h;subst he;clear h;have h:=h';clear h'
  cases Tr.to_ret h
  obtain⟨a,c,ev,hle,hd⟩:=hx
  simp only[List.cons.injEq,and_true] at ev
  subst ev
  exact⟨_,key hT _ rfl,rfl,rfl,rfl⟩
 ·rename_i et hT
  obtain⟨z,h',he⟩:=av h;subst he;clear h;have h:=h';clear h'
  cases Tr.to_ret h
  cases (show vx=_ from hx)
  exact⟨_,key hT 0 rfl,rfl,rfl,rfl⟩
 ·rename_i n et hT
  obtain⟨z,h',he⟩:=av h;subst he;clear h;have h:=h';clear h'
  cases Tr.to_ret h
  exact⟨_,key hT n rfl,rfl,rfl,rfl⟩
 ·exact(ax h).elim
theorem Ov (op:Bool) (x y z:TV) (vx vy:Value) (h:(mx2 op x y).to z) (hx:an C x vx) (hy:an C y vy) (w:World) :
  ∃v,(if op then Builtin.max2 vx vy else Builtin.min2 vx vy).run P w=.ok v w∧an C z v:=by
 unfold mx2 at h
 split at h
 ·cases (show vx=_ from hx);cases (show vy=_ from hy)
  cases Tr.to_ret h
  cases op<;>exact⟨_,rfl,rfl⟩
 ·exact(Tr.to_fail h).elim
theorem nE (op:Bool) (w:World):∀(l:List TV) (vs:List Value) (t:Tr TV) (z:TV),aC C l vs→(l.foldl (fun t y=>t.bind fun z=>mx2 op z y) t).to z →
  ∃x,t.to x∧∀vx,an C x vx→∃v,(vs.foldlM (fun a b=>if op then Builtin.max2 a b else Builtin.min2 a b) vx).run P w=.ok v w∧an C z v
 | [],vs,t,z,hv,h=>by
  cases (show vs=[] from hv)
  exact⟨z,h,fun vx hx=>⟨vx,rfl,hx⟩⟩
 | y::l,vs,t,z,⟨v,r,e,h1,h2⟩,h=>by
  subst e
  obtain⟨u,hu,hk⟩:=nE op w l r _ z h2 h
  obtain⟨x,hx,hm⟩:=Tr.to_bind hu
  refine⟨x,hx,fun vx hvx=>?_⟩
  obtain⟨v1,h3,h4⟩:=Ov (P:=P) op x y u vx v hm hvx h1 w
  obtain⟨v2,h5,h6⟩:=hk v1 h4
  exact⟨v2,by rw[List.foldlM_cons,Sem.run_bind,h3];exact h5,h6⟩
theorem tC (op:Bool) (Ts:Array TypeId) (ty:TypeId) (l:List TV) (vs:List Value) (z:TV) (h:(ad1 op l).to z) (hv:aC C l vs) (w:World) :
  ∃v,(if op then Builtin.max_ Ts ty vs.toArray else Builtin.min_ Ts ty vs.toArray).run P w=.ok v w∧an C z v:=by
 cases l with
 | nil=>exact(Tr.to_fail h).elim
 | cons x l =>
  obtain⟨v,r,e,h1,h2⟩:=hv
  subst e
  obtain⟨u,hu,hk⟩:=nE (P:=P) op w l r _ z h2 h
  cases Tr.to_ret hu
  obtain⟨v1,h3,h4⟩:=hk v h1
  refine⟨v1,?_,h4⟩
  cases op
  ·simpa[Builtin.min_] using h3
  ·simpa[Builtin.max_] using h3
end
end
end Go.Am
namespace Go.Am
noncomputable section
variable [PI:Inhabited Program]
section
variable {P:Program} {C:Cx}
theorem d5:∀(p q:List Step),bq (p++q)=bq p+bq q
 | [],q=>by simp[bq]
 | s::p,q=>by simp[bq,d5 p q,Nat.add_assoc]
theorem J6 {i:TV} {k:IntKind} {n:Int} {v:Value} (h:asI i=some (k,n)) (hv:an C i v):v=.int k n:=by
 unfold asI at h
 split at h
 ·cases h;exact hv
 ·cases h
theorem cY {i:Int} {n:Nat} (h:within i n=true):0≤i∧i<(n:Int):=of_decide_eq_true h
theorem run_indexAt_slice {T e:TypeId} {sz:Nat} (hT:P.underlying T=some (.slice e)) (hs:bn P e=some sz) (b o n c:Nat) (k:IntKind) (i:Int) (h:0≤i∧i<(n:Int)) (w:World) :
  (Instr.indexAt T (.slice (some ⟨b,o,none⟩) n c) (.int k i)).run P w=.ok (.pointer (some ⟨b,o+i.toNat*sz,none⟩)) w:=by
 simp[Instr.indexAt,asIntOf,run_underlying hT,h,aX hs,Addr.add_mid]
theorem run_indexAt_array {T e:TypeId} {sz n:Nat} (hT:P.underlying T=some (.array n e)) (hs:bn P e=some sz) (b o:Nat) (k:IntKind) (i:Int) (h:0≤i∧i<(n:Int)) (w:World) :
  (Instr.indexAt T (.pointer (some ⟨b,o,none⟩)) (.int k i)).run P w=.ok (.pointer (some ⟨b,o+i.toNat*sz,none⟩)) w:=by
 simp[Instr.indexAt,Instr.sureAddr,asIntOf,run_underlying hT,h,aX hs,Addr.add_mid]
theorem rE (ob:List (Nat×Ob)) (hfd:C.fd=aB ob) (T:TypeId) (x i:TV) (vx vi:Value) (e:Eff) (h:((pz P T x i).run ob).to e) (hx:an C x vx) (hi:an C i vi) :
  ∃v,(Instr.indexAt T vx vi).run P C.w=.ok v C.w∧Quiet C e v:=by
 unfold pz at h
 split at h
 ·exact(ax h).elim
 ·rename_i k n hk
  cases J6 hk hi
  split at h
  ·rename_i et id p hT
   split at h
   ·rename_i sz hsz
    rw[GTr.run_get] at h
    split at h
    ·rename_i t ee xs ho
     obtain⟨a,m,c,ev,hu,hp⟩:=hx
     simp only[List.cons.injEq,and_true] at ev
     subst ev
     obtain⟨t',e',xs',heq,hs⟩:=hp _ (by rw[hfd];exact ho)
     cases heq
     cases hb:Nat.beq t.cells sz with
     | false=>rw[hb] at h;exact(ax h).elim
     | true =>
      rw[hb] at h
      have hcs:=Nat.eq_of_beq_eq_true hb
      cases p with
      | none =>
       obtain⟨z,h',he⟩:=av h;subst he;clear h
       rcases Tr.to_ite h' with⟨hw,h⟩|⟨_,h⟩
       ·have hw:=cY hw
        cases Tr.to_ret h
        rcases hs with⟨_,h2,h3⟩|⟨b,c',hm,h2,h3,h4⟩
        ·omega
        ·cases h2
         refine⟨_,run_indexAt_slice hT hsz b 0 xs.length _ k n hw C.w,rfl,rfl,_,rfl,hu,fun _=>⟨b,hm,?_⟩⟩
         simp[bq,Step.off]
       ·exact(Tr.to_fail h).elim
      | some q =>
       obtain⟨o,mm⟩:=q
       obtain⟨z,h',he⟩:=av h;subst he;clear h
       rcases Tr.to_ite h' with⟨hw,h⟩|⟨_,h⟩
       ·have hw:=cY hw
        cases Tr.to_ret h
        obtain⟨h0,a',c',h1,h2,h3⟩:=hs
        cases h1
        rcases h3 with h3|⟨b,hm,h4,h5⟩
        ·omega
        ·subst h4
         refine⟨_,run_indexAt_slice hT hsz b (o*t.cells) _ _ k n hw C.w,rfl,rfl,_,rfl,hu,fun _=>⟨b,hm,?_⟩⟩
         simp[bq,Step.off,Nat.add_mul,hcs]
       ·exact(Tr.to_fail h).elim
    ·exact(ax h).elim
   ·exact(ax h).elim
  ·rename_i et t xs hT
   split at h
   ·rename_i sz hsz
    cases hb:Nat.beq t.cells sz with
    | false=>rw[hb] at h;exact(ax h).elim
    | true =>
     rw[hb] at h
     have hcs:=Nat.eq_of_beq_eq_true hb
     obtain⟨z,h',he⟩:=av h;subst he;clear h
     rcases Tr.to_ite h' with⟨hw,h⟩|⟨_,h⟩
     ·have hw:=cY hw
      cases Tr.to_ret h
      obtain⟨a,c,ev,hle,hd⟩:=hx
      simp only[List.cons.injEq,and_true] at ev
      subst ev
      rcases hd with rfl|⟨b,off,cs,rfl,hR,hlt,hr,hw'⟩
      ·simp at hw;omega
      ·refine⟨_,run_indexAt_slice hT hsz b off xs.length c k n hw C.w,rfl,rfl,b,off,cs,?_,hR,hlt,hr,hw'⟩
       simp[bq,Step.off]
     ·exact(Tr.to_fail h).elim
   ·exact(ax h).elim
  ·rename_i nn et id p hT
   split at h
   ·rename_i sz hsz
    obtain⟨z,h',he⟩:=av h;subst he;clear h
    rcases Tr.to_ite h' with⟨hw,h⟩|⟨_,h⟩
    ·have hw:=cY hw
     cases Tr.to_ret h
     obtain⟨ad,ev,hu,hp⟩:=hx
     simp only[List.cons.injEq,and_true] at ev
     subst ev
     by_cases hpres:(C.fd id).isSome=true
     ·obtain⟨b,hb,ea⟩:=hp hpres
      subst ea
      refine⟨_,run_indexAt_array hT hsz b _ k n hw C.w,rfl,rfl,_,rfl,hu,fun _=>⟨b,hb,?_⟩⟩
      simp[d5,bq,Step.off]
     ·refine⟨.pointer (some (ad.add (n.toNat*sz))),?_,rfl,rfl,_,rfl,hu,fun hc=>absurd hc hpres⟩
      simp[Instr.indexAt,Instr.sureAddr,asIntOf,run_underlying hT,hw,aX hsz]
    ·exact(Tr.to_fail h).elim
   ·exact(ax h).elim
  ·rename_i nn et t xs p hT
   split at h
   ·rename_i sz hsz
    obtain⟨z,h',he⟩:=av h;subst he;clear h
    rcases Tr.to_ite h' with⟨hw,h⟩|⟨_,h⟩
    ·have hw:=cY hw
     cases Tr.to_ret h
     obtain⟨b,off,cs,ev,hR,hlt,hr,hw'⟩:=hx
     simp only[List.cons.injEq,and_true] at ev
     subst ev
     refine⟨_,run_indexAt_array hT hsz b _ k n hw C.w,rfl,rfl,b,off,cs,?_,hR,hlt,hr,hw'⟩
     simp[d5,bq,Step.off,Nat.add_assoc]
    ·exact(Tr.to_fail h).elim
   ·exact(ax h).elim
  ·exact(ax h).elim
theorem gy {S:TypeId} {k off:Nat} (h:gU P S k=some off):∃(fs:Array Field) (f:Field) (n:Nat),P.underlying S=some (.struct fs)∧fs[k]?=some f∧bn P f.type=some n∧n≠0∧f.offset=off:=by
 unfold gU at h
 split at h
 ·rename_i fs hS
  split at h
  ·rename_i f hf
   split at h
   ·cases h
   ·rename_i n hn hz
    cases h
    exact⟨fs,f,_,hS,hf,hz,fun e=>by subst e;exact hn rfl,rfl⟩
   ·cases h
  ·cases h
 ·cases h
theorem qL {S:TypeId} {k off:Nat} (h:gU P S k=some off) (a:Addr) (w:World):(Instr.fieldAt S (.pointer (some a)) k).run P w=.ok (.pointer (some (a.add off))) w:=by
 obtain⟨fs,f,n,hS,hf,hn,h0,rfl⟩:=gy h
 simp[Instr.fieldAt,Instr.sureAddr,run_underlying hS,hf,fieldPlace,aX hn,h0]
theorem nO (S:TypeId) (x z:TV) (k:Nat) (vx:Value) (h:(jR P S x k).to z) (hx:an C x vx) (w:World) :
  ∃v,(Instr.fieldAt S vx k).run P w=.ok v w∧an C z v:=by
 unfold jR at h
 split at h
 ·rename_i off ho
  split at h
  ·rename_i id p
   cases Tr.to_ret h
   obtain⟨ad,ev,hu,hp⟩:=hx
   simp only[List.cons.injEq,and_true] at ev
   subst ev
   refine⟨_,qL ho ad w,_,rfl,hu,fun hc=>?_⟩
   obtain⟨b,hb,ea⟩:=hp hc
   subst ea
   exact⟨b,hb,by simp[Addr.add_mid,d5,bq,Step.off]⟩
  ·rename_i t xs p
   cases Tr.to_ret h
   obtain⟨b,off',cs,ev,hR,hlt,hr,hw'⟩:=hx
   simp only[List.cons.injEq,and_true] at ev
   subst ev
   refine⟨_,qL ho _ w,b,off',cs,?_,hR,hlt,hr,hw'⟩
   simp[Addr.add_mid,d5,bq,Step.off,Nat.add_assoc]
  ·exact(Tr.to_fail h).elim
 ·exact(Tr.to_fail h).elim
theorem nj {T:TypeId} {y:TV} {m p q:List Value} (hf:fits P T y=true) (hr:bu C y m) (w:World) :
  ∃v,(part T (p++m++q).toArray p.length).run P w=.ok v w∧an C y v:=by
 obtain⟨hs,d,hd,hn,hag⟩:=c8 hf
 obtain⟨h1,h2⟩:=gr hr
 cases ha:y.isAgg with
 | true =>
  refine⟨.agg m.toArray,?_,h1 ha⟩
  simp only[part,Sem.run_bind,pf hd,Result.andThen_ok,←hag,ha,if_true,aX hn,Sem.run_pure,Sem.run_ite]
  rw[←bo y m hr]
  congr 1
  congr 1
  simp
 | false =>
  obtain⟨v,e,hv⟩:=h2 ha
  subst e
  refine⟨v,?_,hv⟩
  simp only[part,Sem.run_bind,pf hd,Result.andThen_ok,←hag,ha]
  simp
theorem wK (S:TypeId) (x z:TV) (k:Nat) (vx:Value) (h:(Ax P S x k).to z) (hx:an C x vx) (w:World) :
  ∃v,(Instr.field S vx k).run P w=.ok v w∧an C z v:=by
 unfold Ax at h
 split at h
 ·rename_i off T fs ho hT
  split at h
  ·rename_i y hy
   cases hb:Nat.beq (cC (fs.take k)) off&&fits P T y with
   | false=>rw[hb] at h;exact(Tr.to_fail h).elim
   | true =>
    rw[hb] at h
    cases Tr.to_ret h
    simp only[Bool.and_eq_true] at hb
    have hoff:=Nat.eq_of_beq_eq_true hb.1
    obtain⟨fs',f,n,hS,hf,hn,h0,e0⟩:=gy ho
    have hTf:f.type=T:=by
     unfold nN at hT
     rw[hS] at hT
     simp only[hf] at hT
     exact Option.some.inj hT
    obtain⟨cs,e,hr⟩:=hx
    subst e
    obtain⟨p,m,q,e1,e2,e3,_⟩:=gM hr hy
    subst e1
    obtain⟨v,h1,h2⟩:=nj (P:=P) (p:=p) (q:=q) hb.2 e3 w
    refine⟨v,?_,h2⟩
    simp only[Instr.field,run_underlying hS,Sem.run_bind,Result.andThen_ok,hf,asAgg,Sem.run_pure,hTf]
    rw[e0,←hoff,←e2]
    exact h1
  ·exact(Tr.to_fail h).elim
 ·exact(Tr.to_fail h).elim
theorem D9 (ob:List (Nat×Ob)) (T:TypeId) (x i:TV) (vx vi:Value) (e:Eff) (h:((Ra P T x i).run ob).to e) (hx:an C x vx) (hi:an C i vi) (w:World) :
  ∃v,(Instr.index T vx vi).run P w=.ok v w∧Quiet C e v:=by
 unfold Ra at h
 split at h
 ·exact(ax h).elim
 ·rename_i k n hk
  cases J6 hk hi
  split at h
  ·rename_i s hT
   obtain⟨z,h',he⟩:=av h;subst he;clear h
   rcases Tr.to_ite h' with⟨h0,h⟩|⟨_,h⟩
   ·have h0:0≤n:=of_decide_eq_true h0
    obtain⟨b,hb,h⟩:=Tr.to_ask h
    cases Tr.to_ret h
    cases (show vx=_ from hx)
    exact⟨_,by simp[Instr.index,asIntOf,run_underlying hT,h0,hb],rfl,rfl,rfl⟩
   ·exact(Tr.to_fail h).elim
  ·rename_i n' et t m xs hT
   split at h
   ·rename_i sz hsz
    cases hb:Nat.beq sz t.cells&&Nat.beq n' m with
    | false=>rw[hb] at h;exact(ax h).elim
    | true =>
     rw[hb] at h
     rw[Bool.and_eq_true] at hb
     have h1:=Nat.eq_of_beq_eq_true hb.1
     have h2:=Nat.eq_of_beq_eq_true hb.2
     subst h1;subst h2
     obtain⟨z,h',he⟩:=av h;subst he;clear h
     rcases Tr.to_ite h' with⟨h0,h⟩|⟨_,h⟩
     ·obtain⟨b,hb2,h⟩:=Tr.to_ask h
      cases hf:fits P et (js t b) with
      | false=>rw[hf] at h;exact(Tr.to_fail h).elim
      | true =>
       rw[hf] at h
       cases Tr.to_ret h
       obtain⟨cs,e1,hl,hr⟩:=hx
       subst e1
       obtain⟨p,m,q,e1,e2,e3,_⟩:=iE (fun x vs hx=>ay t x vs hx) hr hb2
       subst e1
       obtain⟨v,k1,k2⟩:=nj (P:=P) (p:=p) (q:=q) hf (fa t b m e3) w
       have h0:=cY h0
       rw[hl] at h0
       refine⟨v,?_,rfl,rfl,k2⟩
       simp only[Instr.index,asIntOf,run_underlying hT,Sem.run_bind,Result.andThen_ok,Sem.run_pure,if_pos h0,aX hsz]
       rw[←e2]
       exact k1
     ·exact(Tr.to_fail h).elim
   ·exact(ax h).elim
  ·exact(ax h).elim
theorem jA:∀(ns:List Int) (s:ByteArray),ns.foldl (fun r n=>r.push (UInt8.ofNat n.toNat)) s=⟨s.data++(ns.map fun n=>UInt8.ofNat n.toNat).toArray⟩
 | [],s=>by simp
 | n::ns,s=>by
  rw[List.foldl_cons,jA ns]
  congr 1
  simp[ByteArray.push]
theorem JA {R:Nat→Prop} {w:World} {k:IntKind}:∀(xs:List Int) (vs:List Value),bm (bb R w (.int k)) xs vs→vs=xs.map (Value.int k)
 | [],_,h=>h
 | x::l,_,⟨a,b,e,h1,h2⟩=>by
  have h1:a=[.int k x]:=h1
  rw[e,h1,JA l b h2];rfl
theorem eT {a:Addr} {c:Nat} {w:World} (xs:List Int) (h:∀j v,(xs.map (Value.int .u8))[j]?=some v→w.cell? (a.add j)=some v) :
  (Conv.bytesToString (.slice (some a) xs.length c)).run P w=.ok (.string (aE xs)) w:=by
 rw[run_bytesToString w a xs.length c xs,jA]
 ·simp[aE]
 ·have:=run_loadCells_list (P:=P) w a (xs.map (Value.int .u8)) h
  simpa using this
theorem rG (ob:List (Nat×Ob)) (hfd:C.fd=aB ob) {O R0:Nat→Prop} {w0:World} (hM:Mem O R0 w0 C) (S T:TypeId) (x:TV) (vx:Value) (b:Nat) (e:Eff) (h:((AL P S T x b).run ob).to e) (hx:an C x vx) :
  (∃v,(convert S T vx).run P C.w=.ok v C.w∧Quiet C e v) ∨
  (∃s et,vx=.string s∧P.underlying S=some .string∧P.underlying T=some (.slice et)∧P.underlying et=some (.int .u8)∧s.size≤bh∧e=⟨.sl b none,[],[(b,.row (.int .u8) et (bytesOf s))]⟩):=by
 unfold AL at h
 split at h
 ·rename_i k k' kx n hS hT
  obtain⟨z,h',he⟩:=av h;subst he;clear h
  cases Tr.to_ret h'
  cases (show vx=_ from hx)
  exact .inl ⟨_,by simp[convert,run_underlying hS,run_underlying hT,Conv.intToInt],rfl,rfl,rfl⟩
 ·rename_i s hS hT
  obtain⟨z,h',he⟩:=av h;subst he;clear h
  cases Tr.to_ret h'
  cases (show vx=_ from hx)
  exact .inl ⟨_,by simp[convert,run_underlying hS,run_underlying hT],rfl,rfl,rfl⟩
 ·rename_i et hS hT
  split at h
  ·rename_i hE
   left
   split at h
   ·rename_i id p
    obtain⟨a,m,c,ev,hu,hp⟩:=hx
    simp only[List.cons.injEq,and_true] at ev
    subst ev
    rw[GTr.run_get] at h
    split at h
    ·rename_i ee xs ho
     obtain⟨t',e',xs',heq,hs⟩:=hp _ (by rw[hfd];exact ho)
     cases heq
     obtain⟨z,h',he⟩:=av h;subst he;clear h
     cases Tr.to_ret h'
     refine⟨.string (aE (cj xs p)),?_,rfl,rfl,rfl⟩
     rw[run_convert_bytes_string C.w S T et _ _ _ hS hE hT]
     have hob:=hM.obs id _ (by rw[hfd];exact ho)
     cases p with
     | none =>
      rcases hs with⟨_,h2,aa,h3,_⟩|⟨b,c',hm,h2,h3,h4⟩
      ·cases h3
       have:xs=[]:=List.eq_nil_of_length_eq_zero h2
       subst this
       cases a with
       | none=>simp[Conv.bytesToString];rfl
       | some ad =>
        have:=eT (P:=P) (a:=ad) (c:=0) (w:=C.w) [] (by simp)
        simpa[cj] using this
      ·cases h2
       rcases hob with⟨h5,_⟩|⟨b2,vs,h5,h6,h7,_⟩
       ·rw[hm] at h5;cases h5
       ·rw[hm] at h5;cases h5
        refine eT xs fun j v hv=>?_
        rw[Addr.add_mid]
        exact h7 j v (by rw[JA xs vs h6];exact hv)
     | some q =>
      obtain⟨o,mm⟩:=q
      obtain⟨h0,a',c',h1,h2,h3⟩:=hs
      cases h1
      have hl:(cj xs (some (o,m))).length=m:=by simp[cj];omega
      rcases h3 with h3|⟨b,hm,h4,h5⟩
      ·have hmm:m=0:=by omega
       subst hmm
       have:cj xs (some (o,0))=[]:=by simp[cj]
       rw[this]
       cases a with
       | none=>simp[Conv.bytesToString];rfl
       | some ad =>
        have:=eT (P:=P) (a:=ad) (c:=c) (w:=C.w) [] (by simp)
        simpa using this
      ·subst h4
       rcases hob with⟨h6,_⟩|⟨b2,vs,h6,h7,h8,_⟩
       ·rw[hm] at h6;cases h6
       ·rw[hm] at h6;cases h6
        have:=eT (P:=P) (a:=⟨b,o*Ty.cells (.int .u8),none⟩) (c:=c) (w:=C.w) (cj xs (some (o,m))) (fun j v hv=>by
         rw[Addr.add_mid,Ty.cells,Nat.mul_one,←Nat.zero_add (o+j)]
         refine h8 (o+j) v ?_
         rw[JA xs vs h7]
         simp only[cj,List.map_take,List.map_drop] at hv
         rw[List.getElem?_take] at hv
         split at hv
         ·rw[List.getElem?_drop] at hv;exact hv
         ·cases hv)
        rw[hl] at this
        exact this
    ·exact(ax h).elim
   ·rename_i xs
    obtain⟨z,h',he⟩:=av h;subst he;clear h
    cases Tr.to_ret h'
    obtain⟨a,c,ev,hle,hd⟩:=hx
    simp only[List.cons.injEq,and_true] at ev
    subst ev
    refine⟨.string (aE xs),?_,rfl,rfl,rfl⟩
    rw[run_convert_bytes_string C.w S T et _ _ _ hS hE hT]
    rcases hd with rfl|⟨b,off,cs,rfl,hR,hlt,hr,hw⟩
    ·cases a with
     | none=>simp[Conv.bytesToString];rfl
     | some ad=>exact eT (P:=P) (a:=ad) (c:=c) (w:=C.w) [] (by simp)
    ·refine eT xs fun j v hv=>?_
     rw[Addr.add_mid]
     exact hw j v (by rw[JA xs cs hr];exact hv)
   ·obtain⟨z,h',he⟩:=av h;subst he;clear h
    cases Tr.to_ret h'
    cases (show vx=_ from hx)
    refine⟨.string .empty,?_,rfl,rfl,rfl⟩
    rw[run_convert_bytes_string C.w S T et _ _ _ hS hE hT]
    simp[Conv.bytesToString]
   ·exact(ax h).elim
  ·exact(ax h).elim
 ·rename_i et s hS hT
  split at h
  ·rename_i hE
   rcases Tr.to_ite h with⟨hb,h⟩|⟨_,h⟩
   ·cases Tr.to_ret h
    cases (show vx=_ from hx)
    exact .inr ⟨s,et,rfl,hS,hT,hE,of_decide_eq_true hb,rfl⟩
   ·exact(Tr.to_fail h).elim
  ·exact(ax h).elim
 ·exact(ax h).elim
end
end
end Go.Am
namespace Go.Am
noncomputable section
variable [PI:Inhabited Program]
section
variable {P:Program}
theorem tX {C:Cx} {E:TypeId→TV→TV→Option Bool} {d:Nat} {w:World} (hE:∀T x y b vx vy,E T x y=some b→an C x vx→an C y vy→(Op.equalIn d T vx vy).run P w=.ok b w) :
  ∀(fs:List Field) (l m:List TV) (off:Nat) (b:Bool) (p q xs ys:List Value),Rs P E fs l m off=some b→p.length=off→q.length=off→bj C l xs→bj C m ys →
   (Op.eqFields d (p++xs).toArray (q++ys).toArray fs).run P w=.ok b w
 | [],[],[],off,b,p,q,xs,ys,h,_,_,_,_=>by
  cases h
  rfl
 | f::fs,x::l,y::m,off,b,p,q,xs,ys,h,hp,hq,hx,hy=>by
  simp only[Rs] at h
  cases hb:(!(f.name == "_")&&Nat.beq f.offset off&&fits P f.type x&&fits P f.type y) with
  | false=>rw[hb] at h;cases h
  | true =>
   rw[hb] at h
   simp only[cond_true] at h
   simp only[Bool.and_eq_true] at hb
   obtain⟨⟨⟨h1,h2⟩,h3⟩,h4⟩:=hb
   have hoff:f.offset=off:=Nat.eq_of_beq_eq_true h2
   cases hr:E f.type x y with
   | none=>rw[hr] at h;cases h
   | some r =>
    rw[hr] at h
    cases hrest:Rs P E fs l m (off+x.cells) with
    | none=>rw[hrest] at h;cases h
    | some s =>
     rw[hrest] at h
     cases h
     obtain⟨a1,b1,e1,hx1,hx2⟩:=hx
     obtain⟨a2,b2,e2,hy1,hy2⟩:=hy
     subst e1;subst e2
     obtain⟨vx,g1,g2⟩:=nj (P:=P) (p:=p) (q:=b1) h3 hx1 w
     obtain⟨vy,k1,k2⟩:=nj (P:=P) (p:=q) (q:=b2) h4 hy1 w
     have hl1:=bo x a1 hx1
     have hl2:=bo y a2 hy1
     have hcells:y.cells=x.cells:=by
      obtain⟨_,_,_,n1,_⟩:=c8 h3
      obtain⟨_,_,_,n2,_⟩:=c8 h4
      rw[n1] at n2
      exact(Option.some.inj n2).symm
     have ih:=tX hE fs l m (off+x.cells) s (p++a1) (q++a2) b1 b2 hrest (by rw[List.length_append,hl1,hp]) (by rw[List.length_append,hl2,hq,hcells]) hx2 hy2
     have hne:f.name ≠ "_" := by
      intro e
      rw[e] at h1
      simp at h1
     unfold Op.eqFields
     rw[if_pos hne,hoff]
     rw[hp,List.append_assoc] at g1
     rw[hq,List.append_assoc] at k1
     simp only[Sem.run_bind,g1,k1,Result.andThen_ok,hE f.type x y r vx vy hr g2 k2]
     rw[List.append_assoc,List.append_assoc] at ih
     cases r
     ·simp only[Bool.not_false,if_true,Sem.run_pure,Bool.false_and]
     ·simp only[Bool.not_true,Bool.false_eq_true,if_false,Bool.true_and]
      exact ih
 | [],[],_::_,_,_,_,_,_,_,h,_,_,_,_=>by cases h
 | [],_::_,_,_,_,_,_,_,_,h,_,_,_,_=>by cases h
 | _::_,[],_,_,_,_,_,_,_,h,_,_,_,_=>by cases h
 | _::_,_::_,[],_,_,_,_,_,_,h,_,_,_,_=>by cases h
theorem tW {C:Cx} {w:World}:∀(n d:Nat),n≤d→∀(T:TypeId) (x y:TV) (b:Bool) (vx vy:Value),OF P n T x y=some b→an C x vx→an C y vy→(Op.equalIn d T vx vy).run P w=.ok b w
 | 0,_,_,_,_,_,_,_,_,h,_,_=>by cases h
 | n+1,0,hd,_,_,_,_,_,_,_,_,_=>by omega
 | n+1,d+1,hd,T,x,y,b,vx,vy,h,hx,hy=>by
  unfold OF at h
  split at h
  ·rename_i kk k a k' a' hT
   cases (show vx=_ from hx);cases (show vy=_ from hy)
   split at h
   ·rename_i hk
    subst hk
    cases h
    exact run_equalIn_int w d T k kk a a' hT
   ·cases h
  ·rename_i a a' hT
   cases (show vx=_ from hx);cases (show vy=_ from hy)
   cases h
   exact run_equalIn_bool' w d T a a' hT
  ·rename_i a a' hT
   cases (show vx=_ from hx);cases (show vy=_ from hy)
   cases h
   exact run_equalIn_string w d T a a' hT
  ·rename_i fs l m hT
   obtain⟨xs,rfl,hxs⟩:=hx
   obtain⟨ys,rfl,hys⟩:=hy
   cases hb:Eg P T with
   | false=>rw[hb] at h;cases h
   | true =>
    rw[hb] at h
    simp only[cond_true] at h
    unfold Eg at hb
    simp only[Bool.and_eq_true,Bool.not_eq_true'] at hb
    have hfs:P.fieldsOf T=fs:=by simp[Program.fieldsOf,hT]
    rw[run_equalIn_struct w d T _ _ (by rw[hfs];exact hT) hb.1,hfs]
    have:=tX (P:=P) (C:=C) (d:=d) (w:=w) (fun T x y b vx vy g1 g2 g3=>tW n d (by omega) T x y b vx vy g1 g2 g3) fs.toList l m 0 b [] [] xs ys h rfl rfl hxs hys
    simpa using this
  ·cases h
theorem AR {C:Cx} (op:BinOp) (T:TypeId) (X Y:Operand) (x y z:TV) (vx vy:Value) (h:(HU P op T x y).to z) (hx:an C x vx) (hy:an C y vy) (w:World) :
  ∃v,(do eqGuard op T X Y vx vy;binOp op T vx vy:Sem Value).run P w=.ok v w∧an C z v:=by
 unfold HU at h
 split at h
 ·rename_i l m
  have key:∀b,OF P 12 T (.agg l) (.agg m)=some b→(eqGuard op T X Y vx vy).run P w=.ok () w∧∃xs ys,vx=.agg xs∧vy=.agg ys∧(Op.equalIn 10000 T (.agg xs) (.agg ys)).run P w=.ok b w:=by
   intro b hb
   have he:=tW (w:=w) 12 10000 (by omega) T _ _ b vx vy hb hx hy
   obtain⟨xs,rfl,_⟩:=hx
   obtain⟨ys,rfl,_⟩:=hy
   refine⟨?_,_,_,rfl,rfl,he⟩
   unfold OF at hb
   split at hb
   ·rename_i h1 _;cases h1
   ·rename_i h1 _;cases h1
   ·rename_i h1 _;cases h1
   ·cases hk:Eg P T with
    | false=>rw[hk] at hb;cases hb
    | true =>
     unfold Eg at hk
     simp only[Bool.and_eq_true,Bool.not_eq_true'] at hk
     exact run_eqGuard_agg w op T X Y _ _ hk.2
   ·cases hb
  split at h
  ·rename_i b hb
   cases Tr.to_ret h
   obtain⟨k1,xs,ys,rfl,rfl,k2⟩:=key b hb
   exact⟨.bool b,by simp only[Sem.run_bind,k1,Result.andThen_ok,run_eql_struct,k2],rfl⟩
  ·rename_i b hb
   cases Tr.to_ret h
   obtain⟨k1,xs,ys,rfl,rfl,k2⟩:=key b hb
   exact⟨.bool (!b),by simp only[Sem.run_bind,k1,Result.andThen_ok,run_neq_struct,k2],rfl⟩
  ·exact(Tr.to_fail h).elim
 ·exact Es op T X Y x y z vx vy h hx hy w
end
end
end Go.Am
namespace Go.Am
noncomputable section
variable [PI:Inhabited Program]
section
variable {P:Program}
theorem cn:∀(u v:List (Nat×Ob)) (l:List (Nat×Ob)) (us:List Nat) (l2:List (Nat×Ob)) (us2:List Nat),aV l us (u++v)=some (l2,us2)→∃l1 us1,aV l us u=some (l1,us1)∧aV l1 us1 v=some (l2,us2)
 | [],v,l,us,l2,us2,h=>⟨l,us,rfl,h⟩
 | (id,o)::u,v,l,us,l2,us2,h=>by
  simp only[List.cons_append,aV] at h
  cases hh:has us id with
  | true=>rw[hh] at h;cases h
  | false =>
   rw[hh] at h
   obtain⟨l1,us1,h1,h2⟩:=cn u v _ _ l2 us2 h
   exact⟨l1,us1,by simp only[aV,hh];exact h1,h2⟩
theorem nR {l:List (Nat×Ob)} {us:List Nat} {id:Nat} {o:Ob} {l2:List (Nat×Ob)} {us2:List Nat} (h:aV l us [(id,o)]=some (l2,us2)):¬id∈us∧l2=(id,o)::l∧us2=id::us:=by
 simp only[aV] at h
 cases hh:has us id with
 | true=>rw[hh] at h;cases h
 | false =>
  rw[hh] at h
  cases h
  exact⟨fun hm=>(by rw[(bw us id).2 hm] at hh;cases hh),rfl,rfl⟩
theorem fq {us:List Nat} {l:List (Nat×Ob)} {mu:Nat→Option Nat} {R:Nat→Prop} {w:World} {id:Nat} {o:Ob} {m:Option Nat} :
  (cx us l mu R w).add id o m=cx (id::us) ((id,o)::l) (fun j=>if j=id then m else mu j) R w:=by
 simp only[Cx.add,Cx.mk.injEq,and_true]
 refine⟨funext fun j=>?_,funext fun j=>?_⟩
 ·simp
 ·rw[aY]
theorem alloc_heap_new (w:World) (o:Obj):(w.alloc o).heap[w.heap.size]?=some o:=by
 show(w.heap.push o)[w.heap.size]?=some o
 simp
theorem gQ (w:World) (cs:Array Value) (T:TypeId):(w.alloc (.cells cs T)).rangeAt w.heap.size 0 cs.toList:=by
 have:=World.rangeAt_of_block (alloc_heap_new w (.cells cs T)) 0 cs.size
 simpa using this
theorem gP (w:World) (cs:Array Value) (T:TypeId):(w.alloc (.cells cs T)).there w.heap.size 0 cs.size:=fun j hj=>by
 have h:=alloc_heap_new w (.cells cs T)
 refine⟨?_,?_⟩
 ·rw[cell_of_row _ _ _ cs T (0,0) h];simp[hj]
 ·simp only[World.frozen?,h];simp
theorem dM (w:World) (o:Obj):(w.alloc o).heap.size=w.heap.size+1:=by
 show(w.heap.push o).size=_
 simp
theorem Ut {K:Ctx} {us:List Nat} {l:List (Nat×Ob)} {mu:Nat→Option Nat} {R:Nat→Prop} {w:World} (hM:Mem K.O K.R0 K.w0 (cx us l mu R w)) {b:Nat} {x:TV} {v:Value} {T:TypeId}
  (hb:¬b∈us) (hs:x.solid=true) (hv:an (cx us l mu R w) x v) :
  let w':=w.alloc (.cells v.cells T)
  let D:=cx (b::us) ((b,.var T x)::l) (fun j=>if j=b then some w.heap.size else mu j) R w'
  Ext (cx us l mu R w) D∧Mem K.O K.R0 K.w0 D∧an D (.adr b []) (.pointer (some ⟨w.heap.size,0,none⟩)):=by
 intro w' D
 have hg:Grow w w':=Grow.alloc _ _
 have hE:Ext (cx us l mu R w) D:=by
  have:=Ext.addNew (C:=cx us l mu R w) (id:=b) (ob:=.var T x) (m:=some w.heap.size) hM.rlt hb hg
  rw[show({ cx us l mu R w with w:=w' }:Cx)=cx us l mu R w' from rfl,fq] at this
  exact this
 obtain⟨cs,hr,hc⟩:=fe hs hv
 have hcs:v.cells.toList=cs:=by
  rcases hc with⟨_,e⟩|⟨_,e⟩
  ·subst e;rfl
  ·subst e
   have:=jH x _ hr v (List.mem_singleton.2 rfl)
   cases v<;>first|rfl|cases this
 have hmu:D.mu b=some w.heap.size:=by simp[D]
 refine⟨hE,?_,_,rfl,by simp[D],fun _=>⟨w.heap.size,hmu,rfl⟩⟩
 have:=hM.addNew (id:=b) (ob:=.var T x) (b:=w.heap.size) (w':=w') hb hg (Nat.le_refl _) (by rw[dM];omega)
 rw[show({ cx us l mu R w with w:=w' }:Cx)=cx us l mu R w' from rfl,fq] at this
 refine this ⟨w.heap.size,cs,hmu,aP hE x cs hr,?_,?_,v.cells,(0,0),alloc_heap_new w _,by rw[←hcs];simp⟩
 ·rw[←hcs];exact gQ w v.cells T
 ·rw[←hcs];simpa using gP w v.cells T
theorem rP {K:Ctx} {us:List Nat} {l:List (Nat×Ob)} {mu:Nat→Option Nat} {R:Nat→Prop} {w w':World} (hM:Mem K.O K.R0 K.w0 (cx us l mu R w)) {b g:Nat} {t:Ty} {e:TypeId} {xs:List t.den} {vs:List Value}
  (hb:¬b∈us) (hg:Grow w w') (h1:w.heap.size≤g) (h2:g<w'.heap.size) (hr:bm (bb R w' t) xs vs) (hw:w'.rangeAt g 0 vs) {c:Nat} (hc:xs.length≤c) (ht:w'.there g 0 (c*t.cells)) (hty:∃c fr,w'.heap[g]?=some (.cells c e fr)) :
  let D:=cx (b::us) ((b,.row t e xs)::l) (fun j=>if j=b then some g else mu j) R w'
  Ext (cx us l mu R w) D∧Mem K.O K.R0 K.w0 D∧an D (.sl b none) (.slice (some ⟨g,0,none⟩) xs.length c):=by
 intro D
 have hE:Ext (cx us l mu R w) D:=by
  have:=Ext.addNew (C:=cx us l mu R w) (id:=b) (ob:=.row t e xs) (m:=some g) hM.rlt hb hg
  rw[show({ cx us l mu R w with w:=w' }:Cx)=cx us l mu R w' from rfl,fq] at this
  exact this
 have hmu:D.mu b=some g:=by simp[D]
 have hfd:D.fd b=some (.row t e xs):=by simp[D,aY]
 have hlen:vs.length=xs.length*t.cells:=ba (fun x vs hx=>ay t x vs hx) xs vs hr
 refine⟨hE,?_,_,_,_,rfl,by simp[D],fun ob ho=>?_⟩
 ·have:=hM.addNew (id:=b) (ob:=.row t e xs) (b:=g) (w':=w') hb hg h1 h2
  rw[show({ cx us l mu R w with w:=w' }:Cx)=cx us l mu R w' from rfl,fq] at this
  refine this (.inr ⟨g,vs,hmu,hr,hw,jy ht ?_,h2,hty⟩)
  rw[hlen];exact Nat.mul_le_mul_right _ hc
 ·rw[hfd] at ho;cases ho
  exact⟨_,_,_,rfl,.inr ⟨g,c,hmu,rfl,hc,ht⟩⟩
theorem lc {K:Ctx} {us:List Nat} {l:List (Nat×Ob)} {mu:Nat→Option Nat} {R:Nat→Prop} {w:World} (hM:Mem K.O K.R0 K.w0 (cx us l mu R w)) {T:TypeId} {x y:TV} {v:Value} {b:Nat} {u:List (Nat×Ob)}
  (hn:norm P T x b=some (y,u)) {l':List (Nat×Ob)} {us':List Nat} (ha:aV l us u=some (l',us')) (hv:an (cx us l mu R w) x v) :
  ∃mu',Ext (cx us l mu R w) (cx us' l' mu' R w)∧Mem K.O K.R0 K.w0 (cx us' l' mu' R w)∧an (cx us' l' mu' R w) y v:=by
 obtain⟨h1,h2⟩:=Ah hn
 obtain⟨mu',hE,hM',hq⟩:=yw u h1 l us l' us' mu ha hM
 exact⟨mu',hE,hM',h2 hE (fun q hq'=>⟨(hq q hq').1,(hq q hq').2.1,(hq q hq').2.2⟩) hv⟩
theorem Rc {C:Cx} {y:TV} {v:Value} (h:an C y v):an C (ae3 y) v:=by
 unfold ae3
 split
 ·rw[show v=_ from h];exact rfl
 ·exact h
theorem mn {K:Ctx} {us:List Nat} {l:List (Nat×Ob)} {mu:Nat→Option Nat} {R:Nat→Prop} {w:World} (hM:Mem K.O K.R0 K.w0 (cx us l mu R w)) {T:TypeId} {x y:TV} {v:Value} {b:Nat} {u:List (Nat×Ob)}
  (hn:JK P T x b=some (y,u)) {l':List (Nat×Ob)} {us':List Nat} (ha:aV l us u=some (l',us')) (hv:an (cx us l mu R w) x v) :
  ∃mu',Ext (cx us l mu R w) (cx us' l' mu' R w)∧Mem K.O K.R0 K.w0 (cx us' l' mu' R w)∧an (cx us' l' mu' R w) y v:=by
 unfold JK at hn
 split at hn
 ·rename_i y0 u0 h0
  cases hn
  obtain⟨mu',h1,h2,h3⟩:=lc hM h0 ha hv
  exact⟨mu',h1,h2,Rc h3⟩
 ·cases hn
theorem Uh (T:TypeId) (v:Value) (w:World):(Instr.box T v).run P w=.ok (.pointer (some ⟨w.heap.size,0,none⟩)) (w.alloc (.cells v.cells T)):=by
 simp[Instr.box,newVar,newRow]
theorem OM {K:Ctx} {us:List Nat} {l:List (Nat×Ob)} {mu:Nat→Option Nat} {R:Nat→Prop} {w:World} (hM:Mem K.O K.R0 K.w0 (cx us l mu R w)) {T:TypeId} {x y:TV} {v:Value} {b c:Nat} {u:List (Nat×Ob)}
  (hn:norm P T x c=some (y,u)) (hs:y.solid=true) (hv:an (cx us l mu R w) x v) {l':List (Nat×Ob)} {us':List Nat} (ha:aV l us (u++[(b,.var T y)])=some (l',us')) :
  ∃mu',Ext (cx us l mu R w) (cx us' l' mu' R (w.alloc (.cells v.cells T)))∧Mem K.O K.R0 K.w0 (cx us' l' mu' R (w.alloc (.cells v.cells T))) ∧
   an (cx us' l' mu' R (w.alloc (.cells v.cells T))) (.adr b []) (.pointer (some ⟨w.heap.size,0,none⟩)):=by
 obtain⟨l1,us1,h1,h2⟩:=cn _ _ _ _ _ _ ha
 obtain⟨mu1,hE,hM1,hv1⟩:=lc hM hn h1 hv
 obtain⟨hb,rfl,rfl⟩:=nR h2
 obtain⟨hE2,hM2,hv2⟩:=Ut (T:=T) hM1 hb hs hv1
 exact⟨_,hE.trans hE2,hM2,hv2⟩
theorem Oh {T:TypeId} {i:TypeInfo} {z:Value} (hi:P.info? T=some i) (hz:i.zero=some z) (w:World) :
  (Instr.alloc T true (.tuple #[])).run P w=.ok (.pointer (some ⟨w.heap.size,0,none⟩)) (w.alloc (.cells z.cells T)):=by
 simp[Instr.alloc,zeroValue,typeInfo,hi,hz,newVar,newRow]
theorem nD {K:Ctx} {us:List Nat} {l:List (Nat×Ob)} {mu:Nat→Option Nat} {R:Nat→Prop} {w:World} (hM:Mem K.O K.R0 K.w0 (cx us l mu R w)) {T:TypeId} {cs:List Value} {n b b':Nat} {x:TV} {u:List (Nat×Ob)}
  (hc:fU P n T cs b=some (x,u,b',[])) {l':List (Nat×Ob)} {us':List Nat} (ha:aV l us u=some (l',us')) :
  ∃mu',Ext (cx us l mu R w) (cx us' l' mu' R w)∧Mem K.O K.R0 K.w0 (cx us' l' mu' R w)∧bu (cx us' l' mu' R w) x cs:=by
 obtain⟨h1,a,e,h3⟩:=ml P n _ _ _ _ _ _ _ hc
 rw[List.append_nil] at e
 subst e
 obtain⟨mu',hE,hM',hq⟩:=yw u h1 l us l' us' mu ha hM
 exact⟨mu',hE,hM',h3 _ (fun q hq'=>⟨(hq q hq').1,(hq q hq').2.1,(hq q hq').2.2⟩)⟩
theorem wJ {K:Ctx} {us:List Nat} {l:List (Nat×Ob)} {mu:Nat→Option Nat} {R:Nat→Prop} {w:World} (hM:Mem K.O K.R0 K.w0 (cx us l mu R w)) {b:Nat} {x:TV} {cs:Array Value} {T:TypeId}
  (hb:¬b∈us) (hr:bu (cx us l mu R w) x cs.toList) :
  let w':=w.alloc (.cells cs T)
  let D:=cx (b::us) ((b,.var T x)::l) (fun j=>if j=b then some w.heap.size else mu j) R w'
  Ext (cx us l mu R w) D∧Mem K.O K.R0 K.w0 D∧an D (.adr b []) (.pointer (some ⟨w.heap.size,0,none⟩)):=by
 intro w' D
 have hg:Grow w w':=Grow.alloc _ _
 have hE:Ext (cx us l mu R w) D:=by
  have:=Ext.addNew (C:=cx us l mu R w) (id:=b) (ob:=.var T x) (m:=some w.heap.size) hM.rlt hb hg
  rw[show({ cx us l mu R w with w:=w' }:Cx)=cx us l mu R w' from rfl,fq] at this
  exact this
 have hmu:D.mu b=some w.heap.size:=by simp[D]
 refine⟨hE,?_,_,rfl,by simp[D],fun _=>⟨w.heap.size,hmu,rfl⟩⟩
 have:=hM.addNew (id:=b) (ob:=.var T x) (b:=w.heap.size) (w':=w') hb hg (Nat.le_refl _) (by rw[dM];omega)
 rw[show({ cx us l mu R w with w:=w' }:Cx)=cx us l mu R w' from rfl,fq] at this
 exact this ⟨w.heap.size,cs.toList,hmu,aP hE x _ hr,gQ w cs T,by simpa using gP w cs T,cs,(0,0),alloc_heap_new w _,by simp⟩
theorem cZ:∀(u v:List (Nat×Option Ob)) (l:List (Nat×Ob)),aR l (u++v)=aR (aR l u) v
 | [],_,_=>rfl
 | (id,o)::u,v,l=>cZ u v (gn l id o)
theorem eB:∀(u:List (Nat×Option Ob)) (l:List (Nat×Ob)) (id:Nat),¬id∈ids u→aB (aR l u) id=aB l id
 | [],_,_,_=>rfl
 | (i,o)::u,l,id,h=>by
  simp only[ids,List.map_cons,List.mem_cons,not_or] at h
  rw[aR,eB u _ id h.2,br,if_neg h.1]
theorem fW {a b:List Nat} (h:meets a b=false):∀x∈b,¬x∈a:=by
 intro x hb ha
 have:meets a b=true:=List.any_eq_true.2 ⟨x,ha,List.any_eq_true.2 ⟨x,hb,bO x⟩⟩
 rw[this] at h;cases h
def Fz (ob:List (Nat×Ob)) (x y:TV) (u:List (Nat×Option Ob)):Prop :=
 ∀(K:Ctx) (us:List Nat) (ob1:List (Nat×Ob)) (mu:Nat→Option Nat) (R:Nat→Prop) (w:World) (cs:List Value),(∀q∈ids u,aB ob1 q=aB ob q)→Mem K.O K.R0 K.w0 (cx us ob1 mu R w)→bu (cx us ob1 mu R w) x cs →
  ∃R',Ext (cx us ob1 mu R w) (cx us (aR ob1 u) mu R' w)∧Mem K.O K.R0 K.w0 (cx us (aR ob1 u) mu R' w)∧bu (cx us (aR ob1 u) mu R' w) y cs
def FzL (ob:List (Nat×Ob)) (x y:List TV) (u:List (Nat×Option Ob)):Prop :=
 ∀(K:Ctx) (us:List Nat) (ob1:List (Nat×Ob)) (mu:Nat→Option Nat) (R:Nat→Prop) (w:World) (cs:List Value),(∀q∈ids u,aB ob1 q=aB ob q)→Mem K.O K.R0 K.w0 (cx us ob1 mu R w)→bj (cx us ob1 mu R w) x cs →
  ∃R',Ext (cx us ob1 mu R w) (cx us (aR ob1 u) mu R' w)∧Mem K.O K.R0 K.w0 (cx us (aR ob1 u) mu R' w)∧bj (cx us (aR ob1 u) mu R' w) y cs
theorem AG {us:List Nat} {l:List (Nat×Ob)} {mu:Nat→Option Nat} {R:Nat→Prop} {w:World} {id:Nat}:(cx us l mu R w).del id=cx us (bX l id) mu R w:=by
 simp only[Cx.del,Cx.mk.injEq,and_true,true_and]
 exact funext fun j=>(cm id j l).symm
theorem rM {C:Cx} {id:Nat} {t:Ty} {e:TypeId} {xs:List t.den} {p:Option (Nat×Nat)} {a:Option Addr} {n c:Nat} {R':Nat→Prop} (hR:∀b,C.R b→R' b) (hm:∀b,C.mu id=some b→R' b)
  (ho:ju C id (.row t e xs)) (hs:l4 (t.isU8=false) C.w (C.mu id) xs.length t.cells p (.slice a n c)) (hD:∀(x:t.den) (vs:List Value),bb C.R C.w t x vs→bb R' C.w t x vs) :
  bb R' C.w (.sl t) (cj xs p) [.slice a n c]:=by
 have hlen:(cj xs p).length=n:=by
  rw[gF hs]
  match p,hs with
  | none,_=>rfl
  | some (o,m),⟨h0,_⟩=>simp[cj,eA];omega
 match p,hs with
 | none,.inl ⟨h1,h2,a',h3,_⟩ =>
  cases h3
  have:xs=[]:=List.eq_nil_of_length_eq_zero h2
  subst this
  exact⟨_,0,rfl,Nat.le_refl _,.inl rfl⟩
 | none,.inr ⟨b,c',h1,h2,h3,h4⟩ =>
  cases h2
  refine⟨_,c,rfl,h3,?_⟩
  rcases ho with⟨h5,_⟩|⟨b',vs,h5,h6,h7,h8,h9⟩
  ·rw[h1] at h5;cases h5
  ·rw[h1] at h5;cases h5
   exact .inr ⟨b,0,vs,rfl,hm b h1,h9.1,aF hD _ _ h6,h7⟩
 | some (o,m),⟨h0,a',c',h1,h2,h3⟩ =>
  cases h1
  refine⟨a,c,by rw[hlen],by rw[hlen];exact h2,?_⟩
  rcases h3 with h3|⟨b,h3,h4,h5⟩
  ·left
   apply List.eq_nil_of_length_eq_zero
   rw[hlen];omega
  ·rcases ho with⟨h6,_⟩|⟨b',vs,h6,h7,h8,h9,h10⟩
   ·rw[h3] at h6;cases h6
   ·rw[h3] at h6;cases h6
    obtain⟨p,q,r,e1,e2,e3⟩:=fg (fun x vs hx=>ay t x vs hx) h7 o n (by omega)
    subst e1
    have:=aZ h8
    rw[e2,Nat.zero_add] at this
    exact .inr ⟨b,o*t.cells,q,h4,hm b h3,h10.1,aF hD _ _ e3,this⟩
theorem yf {ob:List (Nat×Ob)} {id:Nat} {t:Ty} {e:TypeId} {xs:List t.den} (p:Option (Nat×Nat)) (ho:aB ob id=some (.row t e xs)):Fz ob (.sl id p) (.ro t (cj xs p)) [(id,none)]:=by
 intro K us ob1 mu R w cs hob hM hr
 obtain⟨a,n,c,ev,hu,hp⟩:=hr
 subst ev
 have ho1:aB ob1 id=some (.row t e xs):=(hob id (by simp[ids])).trans ho
 obtain⟨t',e',xs',heq,hs⟩:=hp _ ho1
 cases heq
 have hO:=hM.obs id _ ho1
 cases hmu:mu id with
 | none =>
  have hE:=Ext.del (cx us ob1 mu R w) id
  have hM':=hM.del id
  rw[AG] at hE hM'
  refine⟨R,hE,hM',?_⟩
  exact rM (C:=cx us ob1 mu R w) (R':=R) (fun _ h=>h) (fun b hb=>by cases hmu.symm.trans hb) hO hs (fun _ _ h=>h)
 | some b =>
  obtain⟨hM',hE⟩:=hM.freeze (id:=id) (b:=b) (by simp[ho1]) hmu
  rw[AG] at hE hM'
  refine⟨fun k=>k=b∨R k,hE,hM',?_⟩
  exact rM (C:=cx us ob1 mu R w) (R':=fun k=>k=b∨R k) (fun _ h=>.inr h) (fun b' hb=>by cases hmu.symm.trans hb;exact .inl rfl) hO hs
   (fun x vs h=>aM (fun _ h=>.inr h) (Nat.le_refl _) (fun _ _=>rfl) t x vs h)
theorem kp (ob:List (Nat×Ob)) (x:TV):Fz ob x x []:=fun K us ob1 mu R w cs _ hM hr=>⟨R,Ext.refl _,hM,hr⟩
theorem Sx {ob:List (Nat×Ob)} {x y:TV} {u u':List (Nat×Option Ob)} {r l:List TV} (h1:Fz ob x y u) (h2:FzL ob r l u') (hd:meets (ids u) (ids u')=false):FzL ob (x::r) (y::l) (u++u'):=by
 intro K us ob1 mu R w cs hob hM hr
 obtain⟨a,b,e,hx,hl⟩:=hr
 obtain⟨R1,hE1,hM1,hy⟩:=h1 K us ob1 mu R w a (fun q hq=>hob q (by simp only[ids,List.map_append,List.mem_append] at hq ⊢;exact .inl hq)) hM hx
 obtain⟨R2,hE2,hM2,hl2⟩:=h2 K us (aR ob1 u) mu R1 w b (fun q hq=>by
  rw[eB u ob1 q (fW hd q hq)]
  exact hob q (by simp only[ids,List.map_append,List.mem_append] at hq ⊢;exact .inr hq)) hM1 (dE hE1 r b hl)
 rw[←cZ] at hE2 hM2 hl2
 exact⟨R2,hE1.trans hE2,hM2,a,b,e,aP hE2 y a hy,hl2⟩
theorem pA {γ:Type} (ob:List (Nat×Ob)):∀(n:Nat) (x:TV) (k:TV→List (Nat×Option Ob)→GTr γ) (r:γ),((freeze n x k).run ob).to r→∃y u,((k y u).run ob).to r∧Fz ob x y u∧∀q∈ids u,(aB ob q).isSome=true
 | 0,x,k,r,h=>by unfold freeze at h;exact(Tr.to_fail h).elim
 | n+1,.sl id p,k,r,h=>by
  unfold freeze at h
  rw[GTr.run_get] at h
  split at h
  ·rename_i t e xs ho
   exact⟨_,_,h,yf p ho,fun q hq=>by simp[ids] at hq;subst hq;simp[ho]⟩
  ·exact(Tr.to_fail h).elim
 | n+1,.agg fs,k,r,h=>by
  have go:∀(fs:List TV) (k:List TV→List (Nat×Option Ob)→GTr γ),((freeze.go n fs k).run ob).to r→∃l u,((k l u).run ob).to r∧FzL ob fs l u∧∀q∈ids u,(aB ob q).isSome=true:=by
   intro fs
   induction fs with
   | nil=>intro k h;exact⟨[],[],h,fun K us ob1 mu R w cs _ hM hr=>⟨R,Ext.refl _,hM,hr⟩,fun q hq=>by simp[ids] at hq⟩
   | cons x fs ih =>
    intro k h
    unfold freeze.go at h
    obtain⟨y,u,h1,h2,i2⟩:=pA ob n x _ r h
    obtain⟨l,u',h3,h4,i4⟩:=ih _ h1
    cases hm:meets (ids u) (ids u') with
    | true=>rw[hm] at h3;exact(Tr.to_fail h3).elim
    | false =>
     rw[hm] at h3
     exact⟨_,_,h3,Sx h2 h4 hm,fun q hq=>by
      simp only[ids,List.map_append,List.mem_append] at hq
      rcases hq with hq|hq
      ·exact i2 q hq
      ·exact i4 q hq⟩
  unfold freeze at h
  obtain⟨l,u,h1,h2,i2⟩:=go fs _ h
  exact⟨.agg l,u,h1,h2,i2⟩
 | n+1,.v a,k,r,h=>⟨_,_,h,kp ob _,fun q hq=>by simp[ids] at hq⟩
 | n+1,.adr a b,k,r,h=>⟨_,_,h,kp ob _,fun q hq=>by simp[ids] at hq⟩
 | n+1,.ro a b,k,r,h=>⟨_,_,h,kp ob _,fun q hq=>by simp[ids] at hq⟩
 | n+1,.radr a b c,k,r,h=>⟨_,_,h,kp ob _,fun q hq=>by simp[ids] at hq⟩
 | n+1,.clo a b,k,r,h=>⟨_,_,h,kp ob _,fun q hq=>by simp[ids] at hq⟩
 | n+1,.mp a,k,r,h=>⟨_,_,h,kp ob _,fun q hq=>by simp[ids] at hq⟩
 | n+1,.yv a,k,r,h=>⟨_,_,h,kp ob _,fun q hq=>by simp[ids] at hq⟩
 | n+1,.fv a,k,r,h=>⟨_,_,h,kp ob _,fun q hq=>by simp[ids] at hq⟩
 | n+1,.arr a b c,k,r,h=>⟨_,_,h,kp ob _,fun q hq=>by simp[ids] at hq⟩
 | n+1,.tup a,k,r,h=>⟨_,_,h,kp ob _,fun q hq=>by simp[ids] at hq⟩
 | n+1,.dead,k,r,h=>⟨_,_,h,kp ob _,fun q hq=>by simp[ids] at hq⟩
theorem aT (b:Nat):∀(vs:List Value) (o:Nat) (w:World) (k:Nat),k≠b→(w.setCells b o vs).heap[k]?=w.heap[k]?
 | [],_,_,_,_=>rfl
 | v::vs,o,w,k,h=>by
  rw[World.setCells,aT b vs (o+1) _ k h]
  simp only[World.setCell,Array.getElem?_modify]
  rw[if_neg (by omega)]
theorem fc {b:Nat} {T:TypeId} {fr:Nat×Nat} {n:Nat}:∀{w:World} {c:Array Value},w.heap[b]?=some (.cells c T fr)→c.size=n→∀(o:Nat) (vs:List Value),∃c' fr',(w.setCells b o vs).heap[b]?=some (.cells c' T fr')∧c'.size=n
 | w,c,h,hn,o,[]=>⟨c,fr,h,hn⟩
 | w,c,h,hn,o,v::vs=>by
  rw[World.setCells]
  refine fc (fr:=fr) (w:=w.setCell ⟨b,o,none⟩ v) (c:=c.setIfInBounds o v) ?_ (by simpa using hn) (o+1) vs
  simp only[World.setCell,Array.getElem?_modify]
  simp[h]
theorem gq {b:Nat} {T:TypeId} {fr:Nat×Nat} {w:World} {c:Array Value} (h:w.heap[b]?=some (.cells c T fr)) (o:Nat) (vs:List Value):∃c' fr',(w.setCells b o vs).heap[b]?=some (.cells c' T fr'):=by
 obtain⟨c',fr',h1,_⟩:=fc h rfl o vs
 exact⟨c',fr',h1⟩
theorem l5 (b:Nat) {r:Loop}:∀(vs:List Value) (o:Nat) (w:World) (k:Nat),w.heap[k]?=some (.loop r)→(w.setCells b o vs).heap[k]?=some (.loop r)
 | [],_,_,_,h=>h
 | v::vs,o,w,k,h=>by
  rw[World.setCells]
  refine l5 b vs (o+1) _ k ?_
  simp only[World.setCell,Array.getElem?_modify]
  by_cases e:b=k
  ·rw[if_pos e,h];rfl
  ·rw[if_neg e];exact h
theorem jE (w:World) (b off:Nat) (ys:List Value) (k:Nat):keeps w (w.setCells b off ys) k :=
 ⟨fun _ _ h=>World.there_setCells h b off ys,fun r h=>⟨r,l5 b ys off w k h,rfl⟩⟩
theorem setCells_size (b:Nat):∀(vs:List Value) (o:Nat) (w:World),(w.setCells b o vs).heap.size=w.heap.size
 | [],_,_=>rfl
 | v::vs,o,w=>by rw[World.setCells,setCells_size b vs (o+1)];simp[World.setCell]
theorem gp (b:Nat):∀(vs:List Value) (o:Nat) (w:World),(w.setCells b o vs).os=w.os∧(w.setCells b o vs).tape=w.tape∧(w.setCells b o vs).output=w.output
 | [],_,_=>⟨rfl,rfl,rfl⟩
 | v::vs,o,w=>by rw[World.setCells];exact gp b vs (o+1) _
theorem dF {w:World} {b o:Nat} {p m q ys:List Value} (hr:w.rangeAt b o (p++m++q)) (ht:w.there b o (p++m++q).length) (hl:m.length=ys.length) :
  (w.setCells b (o+p.length) ys).rangeAt b o (p++ys++q):=by
 intro j v hv
 have ht':w.there b (o+p.length) ys.length:=fun i hi=>by
  have:=ht (p.length+i) (by simp;omega)
  rw[Nat.add_assoc];exact this
 by_cases h1:j<p.length
 ·rw[World.cell?_setCells_out b ys (o+p.length) w ⟨b,o+j,none⟩ (fun _ _=>.inl (by show o+j<_;omega))]
  refine hr j v ?_
  rw[List.append_assoc,List.getElem?_append_left h1] at hv ⊢
  exact hv
 ·by_cases h2:j<p.length+ys.length
  ·have hj:j-p.length<ys.length:=by omega
   have:=World.cell?_setCells_in b ys (o+p.length) w (fun i hi=>(ht' i hi).1) (j-p.length) hj
   rw[show o+p.length+(j-p.length)=o+j by omega] at this
   rw[this]
   rw[List.append_assoc,List.getElem?_append_right (by omega),List.getElem?_append_left hj,List.getElem?_eq_getElem hj] at hv
   exact hv
  ·rw[World.cell?_setCells_out b ys (o+p.length) w ⟨b,o+j,none⟩ (fun _ _=>.inr (by show _≤o+j;omega))]
   refine hr j v ?_
   rw[List.getElem?_append_right (by simp;omega)] at hv ⊢
   simp only[List.length_append] at hv ⊢
   rw[hl];exact hv
theorem iB {K:Ctx} {us:List Nat} {l:List (Nat×Ob)} {mu:Nat→Option Nat} {R:Nat→Prop} {w:World} (hM:Mem K.O K.R0 K.w0 (cx us l mu R w)) {id b:Nat} {o o':Ob} (ho:aB l id=some o) (hk:o.like o') (hb:mu id=some b) {off:Nat} {ys:List Value}
  (hn:Ext (cx us l mu R w) (cx us (gn l id (some o')) mu R (w.setCells b off ys))→ju (cx us (gn l id (some o')) mu R (w.setCells b off ys)) id o') :
  Ext (cx us l mu R w) (cx us (gn l id (some o')) mu R (w.setCells b off ys))∧Mem K.O K.R0 K.w0 (cx us (gn l id (some o')) mu R (w.setCells b off ys)):=by
 have hi:((cx us l mu R w).fd id).isSome=true:=by simp[ho]
 have hth:∀b' o n,w.there b' o n→(w.setCells b off ys).there b' o n:=fun b' o n h=>World.there_setCells h b off ys
 have hE:Ext (cx us l mu R w) (cx us (gn l id (some o')) mu R (w.setCells b off ys)):=by
  refine⟨fun _ h=>h,fun j ob hu h=>?_,fun _ h=>h,by simp[setCells_size],fun c hc=>aT b ys off w c ?_,fun _ _ b' _ _ _=>jE w b off ys b'⟩
  ·simp only[br] at h
   by_cases e:j=id
   ·subst e;simp at h;subst h;exact⟨o,ho,rfl,hk⟩
   ·simp[e] at h;exact⟨ob,h,rfl,Ob.like.refl ob⟩
  ·intro e;subst e;exact hM.notR id c hi hb hc
 have hs:∀j,((cx us (gn l id (some o')) mu R (w.setCells b off ys)).fd j).isSome=true→((cx us l mu R w).fd j).isSome=true:=fun j hj=>by
  simp only[br] at hj
  by_cases e:j=id
  ·subst e;exact hi
  ·simpa[e] using hj
 have hown:=hM.own id b hi hb
 have hlt:=hM.lt id b hi hb
 refine⟨hE,fun j hj=>hM.us j (hs j hj),?_,?_,fun i j c hi' hj h1 h2=>hM.inj i j c (hs i hi') (hs j hj) h1 h2,fun i c hi' h1=>hM.notR i c (hs i hi') h1,
  fun i c hi' h1=>hM.own i c (hs i hi') h1,fun i c hi' h1=>by simpa[setCells_size] using hM.lt i c (hs i hi') h1,hM.ro,hM.ro0,fun c hc=>by simpa[setCells_size] using hM.rlt c hc⟩
 ·obtain⟨e1,e2,e3⟩:=gp b ys off w
  refine⟨e1.trans hM.fr.os,e2.trans hM.fr.tape,e3.trans hM.fr.output,by simpa[setCells_size] using hM.fr.size,fun k hk hO=>?_⟩
  rw[aT b ys off w k]
  ·exact hM.fr.block k hk hO
  ·intro e;subst e
   rcases hown with h|h
   ·exact hO h
   ·omega
 ·intro j ob h
  simp only[br] at h
  by_cases e:j=id
  ·subst e;simp at h;subst h;exact hn hE
  ·simp[e] at h
   refine dk hE rfl (fun c hc=>aT b ys off w c ?_) (hM.obs j ob h)
   intro e';subst e'
   exact e (hM.inj j id c (by simp[h]) hi hc hb)
theorem jF {T:TypeId} {y:TV} {v:Value} {cs:List Value} {b o:Nat} {w:World} {C:Cx} (hf:fits P T y=true) (hr:bu C y cs) (hc:(y.isAgg=true∧v=.agg cs.toArray)∨(y.isAgg=false∧cs=[v])) (ht:w.there b o cs.length) :
  (Instr.storeAt T (.pointer (some ⟨b,o,none⟩)) v).run P w=.ok () (w.setCells b o cs):=by
 obtain⟨hs,d,hd,hn,hag⟩:=c8 hf
 have hlen:=bo y cs hr
 rcases hc with⟨ha,e⟩|⟨ha,e⟩
 ·subst e
  have:=run_storeAt_mid (P:=P) w b o T cs.toArray (by simpa using ht) (by simp only[List.size_toArray,hlen];exact hn) (all_oneCell_toArray (jH y cs hr))
  simpa using this
 ·subst e
  have h1:=jH y _ hr v (List.mem_singleton.2 rfl)
  have hcell:v.cells=#[v]:=by cases v<;>first|rfl|cases h1
  have hsz:(sizeOf T).run P w=.ok 1 w:=aX (by rw[hn,←hlen];rfl) w
  have hst:=run_storeCells_cells (P:=P) b o [v] 0 w (fun j hj=>by simpa using (ht j (by simpa using hj)).1) (fun j hj=>by simpa using (ht j (by simpa using hj)).2) (fun u hu=>by simp at hu;subst hu;exact h1)
  simp only[Nat.add_zero] at hst
  simp[Instr.storeAt,Instr.sureAddr,storeVar,hcell,hsz,hst]
end
end
end Go.Am
