import GoSem.Dispatch
import Derived.Orders
import Derived.Laws.CopyRow
import Derived.Laws.Cells
import Derived.Laws.AppendOwn
import Derived.Lib.SliceRun
import Derived.Deep.AppendSrc
import Derived.Laws.Strings
import Derived.Laws.StructEq
import Derived.ChangeKeysEq
import Derived.Laws.Entries
import Derived.IntWalk
import Derived.Laws.IdiomStrings
import Derived.Laws.BytesArg
import Derived.Laws.Strings2
import Derived.Laws.BytesString
import Derived.Laws.Tables
import Derived.MapKept
set_option linter.unusedVariables false
set_option linter.unusedSimpArgs false
set_option linter.unusedSectionVars false
namespace Go.Proofs.YtoocplpcbdemhaaGreat
theorem bO:type_of% @Bool.and_eq_true:=@Bool.and_eq_true
theorem oQ:type_of% @Bool.not_eq_true':=@Bool.not_eq_true'
theorem wZ:type_of% @Bool.or_eq_true:=@Bool.or_eq_true
theorem gI:type_of% @Option.bind_eq_some_iff:=@Option.bind_eq_some_iff
theorem oP:type_of% @Option.bind_some:=@Option.bind_some
theorem Jg:type_of% @Classical.choose_spec:=@Classical.choose_spec
theorem aK:type_of% @if_pos:=@if_pos
theorem aC:type_of% @if_neg:=@if_neg
theorem en:type_of% @cond_true:=@cond_true
theorem pH:type_of% @Option.some.inj:=@Option.some.inj
theorem dO:type_of% @List.getD_eq_getElem?_getD:=@List.getD_eq_getElem?_getD
theorem qz:type_of% @List.getElem?_set:=@List.getElem?_set
theorem nT:type_of% @Go.World.cell?_of_block:=@Go.World.cell?_of_block
theorem y7:type_of% @Nat.lt_or_ge:=@Nat.lt_or_ge
theorem gp:type_of% @Nat.lt_of_lt_of_le:=@Nat.lt_of_lt_of_le
theorem dB:type_of% @Nat.le_refl:=@Nat.le_refl
theorem fZ:type_of% @Nat.le_trans:=@Nat.le_trans
theorem c_:type_of% @Array.getElem?_eq_some_iff:=@Array.getElem?_eq_some_iff
theorem Bj:type_of% @List.length_eq_zero_iff:=@List.length_eq_zero_iff
theorem FK:type_of% @Iff.rfl:=@Iff.rfl
theorem gR:type_of% @List.mem_cons:=@List.mem_cons
theorem EN:type_of% @List.getElem?_eq_none:=@List.getElem?_eq_none
theorem Jf:type_of% @Array.getElem?_modify:=@Array.getElem?_modify
theorem uQ:type_of% @Array.getD_eq_getD_getElem?:=@Array.getD_eq_getD_getElem?
theorem y_:type_of% @Option.getD_some:=@Option.getD_some
theorem eO:type_of% @List.mem_append:=@List.mem_append
theorem sL:type_of% @if_false:=@if_false
theorem Ag:type_of% @List.head?_drop:=@List.head?_drop
theorem mB:type_of% @Go.run_underlying:=@Go.run_underlying
theorem bo:type_of% @List.length_cons:=@List.length_cons
theorem lR:type_of% @List.range'_succ:=@List.range'_succ
theorem gK:type_of% @Nat.eq_of_beq_eq_true:=@Nat.eq_of_beq_eq_true
theorem jK:type_of% @List.range_eq_range':=@List.range_eq_range'
theorem mD:type_of% @decide_eq_true_eq:=@decide_eq_true_eq
theorem G0:type_of% @Nat.add_zero:=@Nat.add_zero
theorem rQ:type_of% @Go.Sem.run_bind:=@Go.Sem.run_bind
theorem rS:type_of% @Go.Result.andThen_ok:=@Go.Result.andThen_ok
theorem je:type_of% @List.getElem?_cons_succ:=@List.getElem?_cons_succ
theorem Co:type_of% @List.getElem?_append:=@List.getElem?_append
theorem eC:type_of% @List.length_append:=@List.length_append
theorem vT:type_of% @List.length_take:=@List.length_take
theorem jS:type_of% @List.getElem?_take:=@List.getElem?_take
theorem CL:type_of% @List.getElem?_drop:=@List.getElem?_drop
theorem qx:type_of% @List.append_nil:=@List.append_nil
theorem cO:type_of% @List.length_nil:=@List.length_nil
theorem Bh:type_of% @Array.toArray_toList:=@Array.toArray_toList
theorem uM:type_of% @Nat.add_assoc:=@Nat.add_assoc
theorem iD:type_of% @List.mem_iff_getElem?:=@List.mem_iff_getElem?
theorem ko:type_of% @List.getElem?_eq_some_iff:=@List.getElem?_eq_some_iff
theorem oO:type_of% @List.all_cons:=@List.all_cons
theorem ru:type_of% @List.mem_of_mem_drop:=@List.mem_of_mem_drop
theorem sG:type_of% @List.mem_of_mem_take:=@List.mem_of_mem_take
theorem lz:type_of% @Nat.le_of_ble_eq_true:=@Nat.le_of_ble_eq_true
theorem rT:type_of% @Nat.mul_le_mul_right:=@Nat.mul_le_mul_right
theorem FP:type_of% @Nat.succ_mul:=@Nat.succ_mul
theorem iC:type_of% @List.all_eq_true:=@List.all_eq_true
theorem pG:type_of% @List.foldl_cons:=@List.foldl_cons
theorem qy:type_of% @List.cons_append:=@List.cons_append
theorem eB:type_of% @List.nil_append:=@List.nil_append
theorem kF:type_of% @List.append_assoc:=@List.append_assoc
theorem nS:type_of% @List.map_cons:=@List.map_cons
theorem FJ:type_of% @decide_false:=@decide_false
theorem w7:type_of% @Bool.false_or:=@Bool.false_or
theorem u_:type_of% @Nat.mod_eq_of_lt:=@Nat.mod_eq_of_lt
theorem Cs:type_of% @Nat.mod_lt:=@Nat.mod_lt
theorem I9:type_of% @Array.getElem?_eq_getElem:=@Array.getElem?_eq_getElem
theorem xd:type_of% @if_true:=@if_true
theorem iO:type_of% @Go.Sem.run_pure:=@Go.Sem.run_pure
theorem CC:type_of% @Bool.or_eq_false_iff:=@Bool.or_eq_false_iff
theorem pI:type_of% @Bool.false_eq_true:=@Bool.false_eq_true
theorem Aj:type_of% @Array.getElem?_toList:=@Array.getElem?_toList
theorem FM:type_of% @Nat.add_mul:=@Nat.add_mul
theorem I8:type_of% @List.getElem?_append_right:=@List.getElem?_append_right
theorem mZ:type_of% @List.getElem_mem:=@List.getElem_mem
theorem fQ:type_of% @List.mem_map:=@List.mem_map
theorem jf:type_of% @List.mem_range:=@List.mem_range
theorem qA:type_of% @List.getElem?_map:=@List.getElem?_map
theorem EO:type_of% @Option.map_eq_some_iff:=@Option.map_eq_some_iff
theorem vg:type_of% @List.getElem?_range:=@List.getElem?_range
theorem dy:type_of% @Nat.zero_add:=@Nat.zero_add
theorem w_:type_of% @Nat.sub_self:=@Nat.sub_self
theorem rr:type_of% @Option.map_some:=@Option.map_some
theorem za:type_of% @List.getElem?_toArray:=@List.getElem?_toArray
theorem gH:type_of% @cond_false:=@cond_false
theorem wY:type_of% @Array.toList_map:=@Array.toList_map
theorem vd:type_of% @List.map_congr_left:=@List.map_congr_left
theorem Ah:type_of% @List.flatMap_cons:=@List.flatMap_cons
theorem CG:type_of% @List.mem_flatMap:=@List.mem_flatMap
theorem CI:type_of% @Bool.true_and:=@Bool.true_and
theorem FQ:type_of% @Nat.blt_eq:=@Nat.blt_eq
theorem kE:type_of% @Option.some.injEq:=@Option.some.injEq
theorem iP:type_of% @List.pairwise_cons:=@List.pairwise_cons
theorem Al:type_of% @Bool.true_or:=@Bool.true_or
theorem xh:type_of% @Prod.mk.injEq:=@Prod.mk.injEq
theorem yZ:type_of% @Bool.false_and:=@Bool.false_and
theorem pJ:type_of% @Bool.and_true:=@Bool.and_true
end Go.Proofs.YtoocplpcbdemhaaGreat
namespace Go.Proofs.YtoocplpcbdemhaaGreat.Vm
inductive PV where
 |int (k:IntKind) (n:Int)
 |bool (b:Bool)
 |str (s:List UInt8)
 |bN
 |sl (sz:Nat) (es:List (List PV))
 |aM
 |qF
 |fn (f:Nat)
 |Fp
 |Mz (isNil:Bool)
 |Ms
 deriving Inhabited
inductive TV where
 |p (v:PV)
 |agg (cs:List PV)
 |ak (id:Nat)
 |ptr (id off:Nat)
 deriving Inhabited
inductive AV where
 |undef
 |no
 |t (v:TV)
 |uJ (cs:List PV)
 |xR (id i o:Nat)
 |fn (f:Nat) (caps:List TV)
 |XU (vs:List TV)
 |bm (vs:List TV)
 |C8 (id:Nat)
 |aj (f:Nat) (cs:List PV)
 |NK (id:Nat)
 |Pf (id i:Nat)
 |hmap (id:Nat)
 |IE (ps:List (TV⊕List TV))
 |iG (f id off:Nat)
 |rev (f:Nat) (es:List (List PV))
 deriving Inhabited
inductive MV where
 |pv (v:PV)
 |row (es:List (List PV))
 |gone
 deriving Inhabited
inductive au where
 |box (cs:List AV)
 |arr (sz:Nat) (es:List (List PV))
 |tab (m:Bool) (sz:Nat) (jA:List (Int×MV))
 deriving Inhabited
inductive bw where
 |blk (b:au)
 |dead
 |fresh
 deriving Inhabited
inductive RC where
 |p (v:PV)
 |own (sz:Nat) (es:List (List PV))
 deriving Inhabited
inductive RV where
 |p (v:PV)
 |agg (cs:List PV)
 |own (sz:Nat) (es:List (List PV))
 |kI (cs:List PV)
 |bm (cs:List RC)
 |nU (cs:List RC)
 deriving Inhabited
inductive Sh where
 |int (k:IntKind)
 |bool
 |str
 |Mz
 |sl (sz:Nat)
 deriving Inhabited
inductive Im where
 |pl (s:Sh)
 |ow (sz:Nat)
 deriving Inhabited
inductive uI where
 |one (s:Sh)
 |agg (ss:List Sh)
 |own (sz:Nat)
 |kI (ss:List Sh)
 |bm (ss:List Im)
 |nU (ss:List Im)
 deriving Inhabited
abbrev gv:=List RV×List au
abbrev d_:=Nat->List AV->List au->Option gv
def nth {α:Type}(d:α):List α->Nat->α
 |[],_=>d
 |x::_,0=>x
 |_::l,n+1=>nth d l n
def upd {α:Type}(v:α):List α->Nat->List α
 |[],_=>[]
 |_::l,0=>v::l
 |x::l,n+1=>x::upd v l n
def dm {α:Type}(x:α):Nat->List α
 |0=>[]
 |n+1=>x::dm x n
abbrev aT (a b:Int):Bool:=decide (a<b)
abbrev bJ (a b:Int):Bool:=decide (a<=b)
abbrev neB (a b:Int):Bool:=decide (a≠b)
abbrev iW (a b:Nat):Bool:=decide (a<=b)
def PV.toInt:PV->Int| .int _ n=>n|_=>0
def PV.toBool:PV->Bool| .bool b=>b|_=>false
def PV.toStr:PV->List UInt8| .str s=>s|_=>[]
def PV.af5:PV->Bool| .Mz b=>b|_=>true
def PV.di:PV->List (List PV)| .sl _ es=>es|_=>[]
def RV.dC:RV->PV| .p v=>v|_=>.aM
def RV.gl:RV->List PV| .agg cs=>cs| .kI cs=>cs|_=>[]
def RV.di:RV->List (List PV)| .own _ es=>es|_=>[]
def RV.sw:RV->List RC| .bm cs=>cs| .nU cs=>cs|_=>[]
def RC.dC:RC->PV| .p v=>v|_=>.aM
def RC.di:RC->List (List PV)| .own _ es=>es|_=>[]
def au.di:au->List (List PV)| .arr _ es=>es|_=>[]
def au.gl:au->List AV| .box cs=>cs|_=>[]
def au.af6:au->List (Int×MV)| .tab _ _ jA=>jA|_=>[]
def MV.di:MV->List (List PV)| .row es=>es|_=>[]
def MV.dC:MV->PV| .pv v=>v|_=>.aM
def MV.J8 (sz:Nat):MV->PV| .row es=>.sl sz es| .pv v=>v| .gone=>.Ms
def Yd:List Nat:=[]
def AV.dC:AV->PV| .t (.p v)=>v|_=>.aM
def AV.gl:AV->List PV| .t (.agg cs)=>cs|_=>[]
def lT:IntKind->IntKind->Bool
 | .i8,.i8| .i16,.i16| .i32,.i32| .i64,.i64| .u8,.u8| .u16,.u16| .u32,.u32| .u64,.u64=>true
 |_,_=>false
def xp:Sh->PV->Bool
 | .int k,.int k' _=>lT k k'
 | .bool,.bool _=>true
 | .str,.str _=>true
 | .Mz,.Mz _=>true
 | .sl sz,.sl nN _=>Nat.beq sz nN
 | .sl _,.bN=>true
 |_,_=>false
def uT:Sh->PV->PV
 | .int k,v=>.int k v.toInt
 | .bool,v=>.bool v.toBool
 | .str,v=>.str v.toStr
 | .Mz,v=>.Mz v.af5
 | .sl sz,v=>.sl sz v.di
def bL:List Sh->List PV->Bool
 |[],[]=>true
 |s::ss,c::cs=>xp s c&&bL ss cs
 |_,_=>false
def oD:List Sh->List PV->Nat->List PV
 |[],_,_=>[]
 |s::ss,cs,i=>uT s (nth .aM cs i)::oD ss cs (i+1)
abbrev AV.p (v:PV):AV:=.t (.p v)
abbrev AV.int (k:IntKind)(n:Int):AV:=.t (.p (.int k n))
abbrev AV.bool (b:Bool):AV:=.t (.p (.bool b))
abbrev AV.str (s:List UInt8):AV:=.t (.p (.str s))
abbrev AV.sl (sz:Nat)(es:List (List PV)):AV:=.t (.p (.sl sz es))
abbrev AV.agg (cs:List PV):AV:=.t (.agg cs)
def ctl {α:Type}(b:Bool)(x y:Option α):Option α:=cond b x y
def aj {α β:Type}(x:Option α)(f:α->Option β):Option β:=x.bind f
def aG {α:Type}(es:List (List PV))(i:Int)(K:List PV->Option α):Option α:=
 ctl (bJ 0 i&&aT i es.length) (K (nth [] es i.toNat)) none
def By (P:Program):Nat->TypeId->Option (List Sh)
 |0,_=>none
 |d+1,t=>
  match P.underlying t with
  |some (.int k)=>some [.int k]
  |some .bool=>some [.bool]
  |some .string=>some [.str]
  |some (.interface _)=>some [.Mz]
  |some (.slice e)=>some [.sl (P.cellsOf e)]
  |some (.struct fs)=>fs.toList.foldr (λf acc=>match By P d f.type,acc with|some a,some b=>some (a++b)|_,_=>none) (some [])
  |some (.array n e)=>match By P d e with|some a=>some ((dm a n).flatten)|none=>none
  |_=>none
def mU (P:Program)(t:TypeId):Option (List Sh):=By P 12 t
def dc (P:Program)(t:TypeId):Bool:=
 match P.underlying t with
 |some (.struct _)=>true
 |some (.array _ _)=>true
 |_=>false
def mq (P:Program)(t:TypeId):Bool:=(P.underlying t).isSome
def D6:Value->Option PV
 | .int k n=>some (.int k n)
 | .bool b=>some (.bool b)
 | .string s=>some (.str s.data.toList)
 | .pointer none=>some .aM
 | .slice none 0 0=>some .bN
 | .nilFunc=>some .qF
 | .nilIface=>some (.Mz true)
 |_=>none
def uD:List Value->Option (List PV)
 |[]=>some []
 |v::vs=>match D6 v,uD vs with|some a,some b=>some (a::b)|_,_=>none
def ya:Value->AV
 | .agg cs=>match uD cs.toList with|some l=>.t (.agg l)|none=>.undef
 |v=>match D6 v with|some a=>.t (.p a)|none=>.undef
def aS (slots:List AV):Operand->AV
 | .tmp t=>nth .undef slots t
 | .const v=>ya v
 | .global _=>.undef
 | .func f=>.fn f []
def zeroCells (P:Program)(t:TypeId):Option (List PV):=
 match P.info? t with
 |some i=>match i.zero with
  |some (.agg cs)=>uD cs.toList
  |some v=>match D6 v with|some a=>some [a]|none=>none
  |none=>none
 |none=>none
def TV.refs:TV->List Nat
 | .ak id=>[id]
 | .ptr id _=>[id]
 |_=>[]
def AV.refs:AV->List Nat
 | .t v=>v.refs
 | .xR id _ _=>[id]
 | .fn _ caps=>caps.flatMap TV.refs
 | .XU vs=>vs.flatMap TV.refs
 | .bm vs=>vs.flatMap TV.refs
 | .C8 id=>[id]
 | .NK id=>[id]
 | .Pf id _=>[id]
 | .hmap id=>[id]
 | .IE ps=>ps.flatMap λp=>match p with| .inl v=>v.refs| .inr vs=>vs.flatMap TV.refs
 | .iG _ id _=>[id]
 |_=>[]
def bH (x:Nat):List Nat->Bool
 |[]=>false
 |y::l=>Nat.beq x y||bH x l
def addN (l:List Nat)(x:Nat):List Nat:=cond (bH x l) l (l++[x])
abbrev cD:=List (Nat×bw)
abbrev aJ:=Nat->Option au
def rA (look:aJ):TV->Option (List PV×cD)
 | .p v=>some ([v],[])
 | .agg cs=>some (cs,[])
 | .ak id=>match look id with
  |some (.arr sz es)=>some ([.sl sz es],[(id,.dead)])
  |_=>none
 | .ptr _ _=>none
def Bk:TV->Bool
 | .p _=>true
 | .ak _=>true
 |_=>false
def kH (look:aJ):List TV->Option (List PV×cD)
 |[]=>some ([],[])
 |v::l=>match rA look v,kH look l with
  |some ([x],u),some (vs,us)=>if Bk v then some (x::vs,u++us) else none
  |_,_=>none
def rB (look:aJ):AV->Option (List PV×cD)
 | .t v=>rA look v
 | .fn f []=>some ([.fn f],[])
 | .bm vs=>kH look vs
 |_=>none
def Mv (op:BinOp)(k:IntKind)(a b:Int):Option PV:=
 match op with
 | .add=>some (.int k (k.wrap (a+b)))
 | .sub=>some (.int k (k.wrap (a-b)))
 | .mul=>some (.int k (k.wrap (a*b)))
 | .and=>some (.int k (k.wrap (BitVec.ofInt k.bits a&&& BitVec.ofInt k.bits b).toNat))
 | .or=>some (.int k (k.wrap (BitVec.ofInt k.bits a|||BitVec.ofInt k.bits b).toNat))
 | .xor=>some (.int k (k.wrap (BitVec.ofInt k.bits a^^^BitVec.ofInt k.bits b).toNat))
 | .andNot=>some (.int k (k.wrap (BitVec.ofInt k.bits a&&& ~~~ BitVec.ofInt k.bits b).toNat))
 | .eql=>some (.bool (a==b))
 | .neq=>some (.bool (a !=b))
 | .lss=>some (.bool (aT a b))
 | .leq=>some (.bool (bJ a b))
 | .gtr=>some (.bool (aT b a))
 | .geq=>some (.bool (bJ b a))
 |_=>none
def Kf:List PV->List PV->Option Bool
 |[],[]=>some true
 | .int k a::cs,.int k' b::ds=>
  match Kf cs ds with
  |some r=>if lT k k' then some ((a==b)&&r) else none
  |none=>none
 |_,_=>none
def Ns (P:Program)(t:TypeId):Option Nat:=
 match P.underlying t with
 |some (.array n e)=>
  match P.underlying e,P.info? e,P.info? t with
  |some (.int _),some i,some j=>if Nat.beq i.size 1&&Nat.beq j.size n then some n else none
  |_,_,_=>none
 |_=>none
def HL (P:Program):List Field->Nat->List PV->List PV->Option Bool
 |[],_,[],[]=>some true
 |f::fs,i,cs,ds=>
  match Ns P f.type with
  |some n=>
   match HL P fs (i+n) (cs.drop n) (ds.drop n),Kf (cs.take n) (ds.take n)with
   |some r,some b=>if Nat.beq f.offset i&&f.name != "_" &&Nat.beq (cs.take n).length n then some (b&&r) else none
   |_,_=>none
  |none=>
   match cs,ds with
   |c::cs,d::ds=>
    match HL P fs (i+1) cs ds with
    |none=>none
    |some r=>
     if Nat.beq f.offset i&&f.name != "_" then
      match P.underlying f.type,c,d with
      |some (.int _),.int k a,.int k' b=>if lT k k' then some ((a==b)&&r) else none
      |some .bool,.bool a,.bool b=>some ((a==b)&&r)
      |some .string,.str a,.str b=>some ((a==b)&&r)
      |_,_,_=>none
     else none
   |_,_=>none
 |_,_,_,_=>none
def Wb (P:Program)(t:TypeId)(cs ds:List PV):Option Bool:=
 match P.underlying t with
 |some (.struct fs)=>if !P.stoodInHeld t&& !P.eqGuardType P.depth t then HL P fs.toList 0 cs ds else none
 |some (.array _ _)=>
  if !P.eqGuardType P.depth t then
   match Ns P t with
   |some n=>if Nat.beq cs.length n then Kf cs ds else none
   |none=>none
  else none
 |_=>none
def H8 {α:Type}(P:Program)(op:BinOp)(xt:TypeId)(x y:AV)(K:PV->Option α):Option α:=
 match x,y with
 | .t (.p (.int k a)),.t (.p (.int k' b))=>
  match op with
  | .quo=>ctl (lT k k'&&neB b 0) (K (.int k (k.wrap (a.tdiv b)))) none
  | .rem=>ctl (lT k k'&&neB b 0) (K (.int k (a.tmod b))) none
  | .shl=>ctl (bJ 0 b) (K (.int k (k.wrap (a*2^(min b.toNat k.bits))))) none
  | .shr=>ctl (bJ 0 b) (K (.int k (a.fdiv (2^(min b.toNat k.bits))))) none
  |_=>match Mv op k a b with|some v=>ctl (lT k k') (K v) none|none=>none
 | .t (.p (.bool a)),.t (.p (.bool b))=>
  match op,P.underlying xt with
  | .eql,some .bool=>K (.bool (a==b))
  | .neq,some .bool=>K (.bool (!(a==b)))
  |_,_=>none
 | .t (.agg cs),.t (.agg ds)=>
  match op,Wb P xt cs ds with
  | .eql,some r=>K (.bool r)
  | .neq,some r=>K (.bool (!r))
  |_,_=>none
 | .t (.p (.sl _ es)),.t (.p .bN)=>
  match op,P.underlying xt,es with
  | .eql,some (.slice _),[]=>K .Fp
  | .eql,some (.slice _),_::_=>K (.bool false)
  |_,_,_=>none
 | .t (.p .bN),.t (.p .bN)=>
  match op,P.underlying xt with
  | .eql,some (.slice _)=>K (.bool true)
  |_,_=>none
 |_,_=>none
def cut {α:Type}(l:List α)(off n:Nat):List α:=(l.drop off).take n
def lay {α:Type}:List α->Nat->List α->List α
 |cs,0,vs=>go cs vs
 |[],_+1,_=>[]
 |c::cs,off+1,vs=>c::lay cs off vs
where
 go:List α->List α->List α
  |cs,[]=>cs
  |[],_=>[]
  |_::cs,v::vs=>v::go cs vs
def sU (P:Program)(t:TypeId)(cs:List PV):Option AV:=
 if mq P t then if dc P t then some (.t (.agg cs)) else match cs with|[v]=>some (.t (.p v))|_=>none else none
def place (P:Program)(t:TypeId)(i:Nat):Option (Nat×Nat):=
 match P.underlying t with
 |some (.struct fs)=>match fs[i]? with|some f=>some (f.offset,P.cellsOf f.type)|none=>none
 |some (.array _ e)=>some (i*P.cellsOf e,P.cellsOf e)
 |_=>none
def G7 (P:Program)(t:TypeId):Bool:=
 match P.underlying t with
 |some (.struct fs)=>fs.toList.all λf=>mq P f.type
 |some (.array _ e)=>mq P e
 |_=>false
def kx (pl:Nat->Option (Nat×Nat))(look:aJ)(ev:Operand->AV):List PV->List (Nat×Operand)->Option (List PV×cD)
 |cells,[]=>some (cells,[])
 |cells,(i,x)::rest=>
  match pl i,rB look (ev x)with
  |some (off,size),some (vs,u)=>
   if Nat.beq vs.length size&&Nat.ble (off+size) cells.length then
    match kx pl look ev (lay cells off vs) rest with
    |some (r,us)=>some (r,u++us)
    |none=>none
   else none
  |_,_=>none
def oB (pl:Nat->Option (Nat×Nat))(look:aJ)(ev:Operand->AV):Nat->List (Nat×Operand)->Option (List PV×cD)
 |_,[]=>some ([],[])
 |cur,(i,x)::rest=>
  match pl i,rB look (ev x)with
  |some (off,size),some (vs,u)=>
   if Nat.beq off cur&&Nat.beq vs.length size then
    match oB pl look ev (cur+size) rest with
    |some (r,us)=>some (vs++r,u++us)
    |none=>none
   else none
  |_,_=>none
def DS (pl:Nat->Option (Nat×Nat))(look:aJ)(ev:Operand->AV)(z:List PV)(parts:List (Nat×Operand)):Option (List PV×cD):=
 match oB pl look ev 0 parts with
 |some (cs,us)=>cond (Nat.beq cs.length z.length) (some (cs,us)) (kx pl look ev z parts)
 |none=>kx pl look ev z parts
def adq:AV->Option (List TV)
 | .t (.p v)=>some [.p v]
 | .t (.agg cs)=>some (cs.map TV.p)
 | .t (.ak id)=>some [.ak id]
 | .bm vs=>some vs
 |_=>none
def TJ:AV->Bool
 | .t (.ak _)=>true
 | .bm _=>true
 |_=>false
def A1 (pl:Nat->Option (Nat×Nat))(ev:Operand->AV):List TV->List (Nat×Operand)->Option (List TV)
 |cells,[]=>some cells
 |cells,(i,x)::rest=>
  match pl i,adq (ev x)with
  |some (off,size),some vs=>if Nat.beq vs.length size&&Nat.ble (off+size) cells.length then A1 pl ev (lay cells off vs) rest else none
  |_,_=>none
def chunks (sz:Nat):Nat->List PV->List (List PV)
 |0,_=>[]
 |n+1,cs=>cs.take sz::chunks sz n (cs.drop sz)
def xB (look:aJ):List AV->Option (List PV×List AV×cD)
 |[]=>some ([],[],[])
 |c::cs=>match rB look c,xB look cs with
  |some ([v],u),some (vs,ds,us)=>some (v::vs,(match c with| .fn _ _=>c|_=>.t (.p v))::ds,u++us)
  |_,_=>none
def lC (y x:Int):Int:=if y<x then y else x
def gu (y x:Int):Int:=if y>x then y else x
def YV:List Int->Int->Int
 |[],x=>x
 |y::l,x=>YV l (lC y x)
def YW:List Int->Int->Int
 |[],x=>x
 |y::l,x=>YW l (gu y x)
def uG (k:IntKind):List AV->Option (List Int)
 |[]=>some []
 | .t (.p (.int k' n))::l=>match uG k l with|some r=>if lT k k' then some (n::r) else none|none=>none
 |_=>none
abbrev Step (α:Type):=AV->cD->Option α
def lenOf (look:aJ):AV->Option Nat
 | .t (.p (.sl _ es))=>some es.length
 | .t (.p .bN)=>some 0
 | .t (.ak id)=>match look id with|some (.arr _ es)=>some es.length|_=>none
 |_=>none
def aak (look:aJ):AV->Option (Nat×List (List PV))
 | .t (.p (.sl sz es))=>some (sz,es)
 | .t (.p .bN)=>some (0,[])
 | .t (.ak id)=>match look id with|some (.arr sz es)=>some (sz,es)|_=>none
 |_=>none
def zQ (s:List UInt8):List (List PV):=s.map λb=>[.int .u8 b.toNat]
def bg (es:List (List PV))(i o:Nat)(vs:List PV):List (List PV):=upd (lay (nth [] es i) o vs) es i
def lX:AV->List AV
 | .t (.agg cs)=>cs.map AV.p
 | .bm vs=>vs.map AV.t
 |v=>[v]
def yq:AV->Bool
 | .t _=>true
 | .fn _ _=>true
 | .uJ _=>true
 | .bm vs=>vs.all Bk
 |_=>false
def tB {α:Type}(i:Int):Nat->Nat->(Nat->Option α)->Option α
 |_,0,_=>none
 |j,n+1,K=>ctl (i==(j:Int)) (K j) (tB i (j+1) n K)
def iK:List AV->Option (List TV)
 |[]=>some []
 | .t v::l=>match iK l with|some r=>some (v::r)|none=>none
 |_=>none
def xA {α:Type}(P:Program)(look:aJ)(t:TypeId)(a:AV)(K:Step α):Option α:=
 if mq P t then
  match a with
  | .t (.ptr id o)=>
   match look id with
   |some (.box cs)=>
    if dc P t then
     match Nat.beq (cut cs o (P.cellsOf t)).length (P.cellsOf t),xB look (cut cs o (P.cellsOf t))with
     |true,some (vs,_,[])=>K (.t (.agg vs)) []
     |true,some (_,_,_::_)=>(match iK (cut cs o (P.cellsOf t))with|some XT=>K (.bm XT) []|none=>none)
     |_,_=>none
    else match cs.drop o with
     |c::_=>K c []
     |[]=>none
   |_=>none
  | .uJ cs=>
   if dc P t then
    if Nat.ble (P.cellsOf t) cs.length then K (.t (.agg (cs.take (P.cellsOf t)))) [] else none
   else match cs with
    |v::_=>K (.t (.p v)) []
    |[]=>none
  | .xR id i o=>
   match look id,mU P t with
   |some (.arr sz es),some ss=>
    if Nat.ble (o+ss.length) sz&&Nat.beq ss.length (cond (dc P t) (P.cellsOf t) 1) then
     ctl (bL ss (cut (nth [] es i) o ss.length))
      (match sU P t (oD ss (nth [] es i) o)with|some v=>K v []|none=>none) none
    else none
   |_,_=>none
  |_=>none
 else none
def sA {α:Type}(P:Program)(look:aJ)(t:TypeId)(a v:AV)(K:Step α):Option α:=
 if mq P t then
 match a with
 | .t (.ptr id o)=>
  match look id,yq v with
  |some (.box cs),true=>
   if Nat.beq (lX v).length (P.cellsOf t)&&Nat.ble (o+(lX v).length) cs.length then
    K .no [(id,.blk (.box (lay cs o (lX v))))]
   else none
  |_,_=>none
 | .xR id i o=>
  match look id,rB look v with
  |some (.arr sz es),some (vs,us)=>
   if Nat.beq vs.length (P.cellsOf t)&&Nat.ble (o+vs.length) sz&&us.all (λu=> !Nat.beq u.1 id) then
    K .no (us++[(id,.blk (.arr sz (bg es i o vs)))])
   else none
  |_,_=>none
 |_=>none
 else none
def gY {α:Type}(P:Program)(look:aJ)(t:TypeId)(x ix:AV)(K:Step α):Option α:=
 match P.underlying t,ix with
 |some (.slice e),.t (.p (.int _ i))=>
  match x with
  | .t (.p (.sl sz es))=>
   match mU P e with
   |some ss=>if Nat.beq sz (P.cellsOf e)&&Nat.beq ss.length sz then aG es i λc=>ctl (bL ss c) (K (.uJ (oD ss c 0)) []) none else none
   |none=>none
  | .t (.ak id)=>
   match look id with
   |some (.arr sz es)=>if Nat.beq sz (P.cellsOf e)&&mq P e then ctl (bJ 0 i&&aT i es.length) (K (.xR id i.toNat 0) []) none else none
   |_=>none
  |_=>none
 |some (.array n e),.t (.p (.int _ i))=>
  if mq P e then
  match x with
  | .t (.ptr id o)=>tB i 0 n λj=>K (.t (.ptr id (o+j*P.cellsOf e))) []
  | .uJ cs=>tB i 0 n λj=>K (.uJ (cs.drop (j*P.cellsOf e))) []
  | .xR id k o=>tB i 0 n λj=>K (.xR id k (o+j*P.cellsOf e)) []
  |_=>none
  else none
 |_,_=>none
def Dq {α:Type}(P:Program)(t:TypeId)(x ix:AV)(K:Step α):Option α:=none
def lV (ev:Operand->AV):Option Operand->Option (Option Int)
 |none=>some none
 |some x=>match ev x with| .t (.p (.int _ i))=>some (some i)|_=>none
def tz {α:Type}(l:List α)(lo hi:Int):List α:=(l.take hi.toNat).drop lo.toNat
def sF {α:Type}(P:Program)(look:aJ)(t:TypeId)(x:AV)(lo hi:Option Int)(K:Step α):Option α:=
 match P.underlying t,x with
 |some (.slice e),.t (.p (.sl sz es))=>
  if Nat.beq sz (P.cellsOf e)&&mq P e then
   ctl (bJ 0 (lo.getD 0)&&(bJ (lo.getD 0) (hi.getD es.length)&&bJ (hi.getD es.length) es.length))
    (K (.sl sz (tz es (lo.getD 0) (hi.getD es.length))) []) none
  else none
 |some (.slice e),.t (.ak id)=>
  match look id with
  |some (.arr sz es)=>
   if Nat.beq sz (P.cellsOf e)&&mq P e then
    ctl (bJ 0 (lo.getD 0)&&(bJ (lo.getD 0) (hi.getD es.length)&&bJ (hi.getD es.length) es.length))
     (K (.sl sz (tz es (lo.getD 0) (hi.getD es.length))) [(id,.dead)]) none
   else none
  |_=>none
 |_,_=>none
def room:Nat:=140737488355328
def RU (P:Program)(look:aJ)(e tx:TypeId)(x:AV):Option (Nat×List (List PV)):=
 match P.underlying tx with
 |some (.slice _)=>aak look x
 |some .string=>(match x with| .t (.p (.str s))=>cond (Nat.beq (P.cellsOf e) 1) (some (1,zQ s)) none|_=>none)
 |_=>none
def oJ {α:Type}(P:Program)(look:aJ)(nid:Nat)(ts:List TypeId)(s x:AV)(K:Step α):Option α:=
 match ts with
 |[t,tx]=>
  match P.underlying t with
  |some (.slice e)=>
   match RU P look e tx x,zeroCells P e with
   |some (nN,es'),some z=>
    if (Nat.beq (P.cellsOf e) nN||es'.isEmpty)&&Nat.ble 1 (P.cellsOf e)&&Nat.ble 1 (P.bytesOf e)&&Nat.beq z.length (P.cellsOf e) then
     match s with
     | .t (.p .bN)=>
      ctl (iW (es'.length*P.bytesOf e) room) (K (.t (.ak nid)) [(nid,.blk (.arr (P.cellsOf e) es'))]) none
     | .t (.ak id)=>
      match look id with
      |some (.arr sz0 es)=>
       if Nat.beq sz0 (P.cellsOf e) then
        ctl (iW ((es.length+es'.length)*P.bytesOf e) room) (K (.t (.ak nid)) [(id,.dead),(nid,.blk (.arr (P.cellsOf e) (es++es')))]) none
       else none
      |_=>none
     |_=>none
    else none
   |_,_=>none
  |_=>none
 |_=>none
def gU {α:Type}(P:Program)(nid:Nat)(t:TypeId)(l c:AV)(K:Step α):Option α:=
 match P.underlying t,l,c with
 |some (.slice e),.t (.p (.int .i64 n)),.t (.p (.int .i64 m))=>
  match zeroCells P e with
  |some z=>
   if Nat.beq z.length (P.cellsOf e)&&Nat.ble 1 z.length then
    ctl (bJ 0 n&&(bJ n m&&(bJ m 9223372036854775807&&bJ (m*P.bytesOf e) room)))
     (K (.t (.ak nid)) [(nid,.blk (.arr z.length (dm z n.toNat)))]) none
   else none
  |none=>none
 |_,_,_=>none
def x_ {α:Type}(P:Program)(look:aJ)(nid:Nat)(src dst:TypeId)(x:AV)(K:Step α):Option α:=none
def wq:Operand->Bool
 | .const .nilIface=>true
 |_=>false
def YT {α:Type}(P:Program)(op:BinOp)(xt:TypeId)(x:AV)(K:PV->Option α):Option α:=none
def nI {α:Type}(P:Program)(look:aJ)(nid:Nat)(b:Builtin)(ts:List TypeId)(args:List AV)(K:Step α):Option α:=
 match b,args with
 | .len,[x]=>
  match ts with
  |t::_=>match P.underlying t with
   |some (.array n _)=>K (.int .i64 n) []
   |some (.slice _)=>match lenOf look x with|some n=>K (.int .i64 n) []|none=>none
   |some .string=>match x with| .t (.p (.str s))=>K (.int .i64 s.length) []|_=>none
   |_=>none
  |_=>none
 | .min,.t (.p (.int k a))::l=>match uG k l with|some r=>K (.int k (YV r a)) []|none=>none
 | .max,.t (.p (.int k a))::l=>match uG k l with|some r=>K (.int k (YW r a)) []|none=>none
 | .append,[s,x]=>oJ P look nid ts s x K
 |_,_=>none
def unK {α:Type}(op:UnOp)(x:AV)(K:Step α):Option α:=
 match op,x with
 | .neg,.t (.p (.int k n))=>K (.int k (k.wrap (0-n))) []
 | .not,.t (.p (.bool b))=>K (.bool (!b)) []
 |_,_=>none
def H_ (x:AV)(off:Nat):Option AV:=
 match x with
 | .t (.ptr id o)=>some (.t (.ptr id (o+off)))
 | .uJ cs=>some (.uJ (cs.drop off))
 | .xR id i o=>some (.xR id i (o+off))
 |_=>none
def YR:List Sh->List PV->List PV
 |s::ss,c::cs=>(match s with
  | .sl sz=>(match c with| .bN=>.sl sz []|_=>c)
  |_=>c)::YR ss cs
 |_,cs=>cs
def Mc (P:Program)(e:TypeId)(n:Nat)(cs:List PV):List PV:=
 match mU P e with
 |some ss=>YR (dm ss n).flatten cs
 |none=>cs
def gZ {α:Type}(P:Program)(look:aJ)(nid:Nat)(op:Op)(ev:Operand->AV)(K:Step α):Option α:=
 match op with
 | .move x=>K (ev x) []
 | .assign x=>K (ev x) []
 | .pick c a b=>match ev c with| .t (.p (.bool t))=>ctl t (K (ev a) []) (K (ev b) [])|_=>none
 | .alloc t=>match zeroCells P t with
  |some cs=>if Nat.beq cs.length (P.cellsOf t) then K (.t (.ptr nid 0)) [(nid,.blk (.box (cs.map AV.p)))] else none
  |none=>none
 | .box _ x=>if yq (ev x) then K (.t (.ptr nid 0)) [(nid,.blk (.box (lX (ev x))))] else none
 | .build t parts=>match zeroCells P t with
  |some z=>
   if G7 P t then
    if parts.toList.any λx=>TJ (ev x.2) then match A1 (place P t) ev (z.map TV.p) parts.toList with|some cs=>if cs.all Bk then K (.bm cs) [] else none|none=>none
    else match DS (place P t) look ev z parts.toList with|some (cs,us)=>K (.t (.agg cs)) us|none=>none
   else none
  |none=>none
 | .buildSlice t n parts=>match P.underlying t with
  |some (.slice e)=>match zeroCells P e with
   |some z=>
    if Nat.beq z.length (P.cellsOf e)&&Nat.ble 1 z.length&&Nat.ble (n*z.length) 16777216 then
     match DS (λi=>some (i*z.length,z.length)) look ev (dm z n).flatten parts.toList with
     |some (cs,us)=>K (.t (.ak nid)) (us++[(nid,.blk (.arr z.length (chunks z.length n (Mc P e n cs))))])
     |none=>none
    else none
   |none=>none
  |_=>none
 | .load t a=>xA P look t (ev a) K
 | .store t a x=>sA P look t (ev a) (ev x) K
 | .nilCheck x=>match ev x with
  | .t (.ptr id o)=>K (.t (.ptr id o)) []
  | .uJ cs=>K (.uJ cs) []
  | .xR id i o=>K (.xR id i o) []
  |_=>none
 | .binOp op xt x y _=>cond (wq y) (YT P op xt (ev x) λv=>K (.t (.p v)) []) (H8 P op xt (ev x) (ev y) λv=>K (.t (.p v)) [])
 | .unOp op _ x=>unK op (ev x) K
 | .convert src dst x=>x_ P look nid src dst (ev x) K
 | .makeFunc (.func f) first caps=>match first.toList,iK (caps.toList.map ev)with
  |[],some l=>K (.fn f l) []
  |[x],some []=>match ev x with| .t (.agg cs)=>K (.aj f cs) []| .t (.ptr id o)=>K (.iG f id o) []|_=>none
  |_,_=>none
 | .makeSlice t l c=>gU P nid t (ev l) (ev c) K
 | .slice t x lo hi mx=>match mx,lV ev lo,lV ev hi with
  |none,some l,some h=>sF P look t (ev x) l h K
  |_,_,_=>none
 | .fieldAddr t x f=>match P.underlying t with
  |some (.struct fs)=>match fs[f]? with
   |some fd=>if Nat.ble 1 (P.cellsOf fd.type)&&mq P fd.type then match H_ (ev x) fd.offset with|some v=>K v []|none=>none else none
   |none=>none
  |_=>none
 | .field t x f=>match P.underlying t,ev x with
  |some (.struct fs),.t (.agg cs)=>match fs[f]? with
   |some fd=>
    if Nat.beq (cut cs fd.offset (P.cellsOf fd.type)).length (P.cellsOf fd.type) then
     match sU P fd.type (cut cs fd.offset (P.cellsOf fd.type))with|some v=>K v []|none=>none
    else none
   |none=>none
  |_,_=>none
 | .indexAddr t x i=>gY P look t (ev x) (ev i) K
 | .index t x i=>Dq P t (ev x) (ev i) K
 | .extract x i=>match ev x with
  | .XU vs=>match vs.drop i with|v::_=>K (.t v) []|[]=>none
  | .IE ps=>match ps.drop i with| .inl v::_=>K (.t v) []| .inr vs::_=>K (.bm vs) []|[]=>none
  |_=>none
 | .call {callee:=.builtin b,args,argTypes}=>nI P look nid b argTypes.toList (args.toList.map ev) K
 |_=>none
structure St where
 slots:List AV
 heap:List bw
 deriving Inhabited
def cw (h:List bw)(id:Nat):Option au:=
 match nth .fresh h id with
 | .blk b=>some b
 |_=>none
def bh:cD->List bw->List bw
 |[],h=>h
 |(id,e)::us,h=>bh us (upd e h id)
def cq (d:Option Nat)(v:AV)(slots:List AV):List AV:=
 match d with
 |some d=>upd v slots d
 |none=>slots
structure zX where
 slots:List (Nat×(Sh⊕List Sh⊕AV))
 aq:List ((List (Sh⊕AV))⊕Nat)
 deriving Inhabited
inductive Ex where
 |eF
 |exit (id:Nat)
 |ret
 deriving Inhabited
def Ex.iI:Ex->Ex->Bool
 | .eF,.eF=>true
 | .exit i,.exit j=>Nat.beq i j
 | .ret,.ret=>true
 |_,_=>false
structure a_ where
 head:zX
 fj:List (Ex×zX)
 deriving Inhabited
inductive EB where
 |write
 |text
 |aqq (g:Nat) (p:List PV->Bool)
 |clo (g:Nat)
 |rev (g:Nat)
 |aam (g:Nat) (ok:List PV->List (List PV)->Bool) (f:List PV->List (List PV)->List (List PV))
structure vI where
 run:d_->List AV->Option (List RV)
 mono:∀F G:d_,(∀f a h r,F f a h=some r->G f a h=some r)->∀a r,run F a=some r->run G a=some r
def vI.pure (p:List AV->Option (List RV)):vI:=⟨λ_=>p,λ_ _ _ _ _ h=>h⟩
structure Ey where
 gs:List (Nat×Bool×Sh)
 ok:List PV->List PV->Bool
 val:List PV->List PV->PV
def P4 (_ _:List PV):Bool:=true
def RJ (vs _:List PV):PV:=nth .aM vs 0
def Ln (vs _:List PV):PV:=.int .i64 (gu (IntKind.i64.wrap ((nth .aM vs 0).toInt-(nth .aM vs 1).toInt)) 0)
def CY (vs ds:List PV):Bool:=(bJ 0 (nth .aM vs 0).toInt&&aT (nth .aM vs 0).toInt (nth .aM ds 0).di.length)&&bL [.bool] (nth [] (nth .aM ds 0).di (nth .aM vs 0).toInt.toNat)
def tM (vs ds:List PV):PV:=.bool (!(nth .aM (nth [] (nth .aM ds 0).di (nth .aM vs 0).toInt.toNat) 0).toBool)
structure Env where
 P:Program
 v_:List Nat
 own:List (Nat×Nat)
 rV:List (Nat×Nat)
 J8:List (Nat×Nat)
 loops:List (Nat×Nat×a_)
 agT:List (Nat×Nat×List (Ex×zX))
 qF:List Nat
 Oc:List (Nat×vI)
 inl:List Nat
 fzr:List (Nat×Nat×List (Nat×Option Nat))
 hpr:List (Nat×EB)
 agL:List (Nat×Nat×List Nat)
 fresh:List Nat
 ro:List (Nat×Ey)
def FD (E:Env)(f:Nat):Bool:=E.hpr.any λx=>match x.2 with| .rev g=>Nat.beq g f|_=>false
def iA {α:Type}(f:Nat):List (Nat×α)->Option α
 |[]=>none
 |(x,v)::l=>cond (Nat.beq f x) (some v) (iA f l)
def lJ (a b:Nat):List (Nat×Nat)->Bool
 |[]=>false
 |(x,y)::l=>(Nat.beq a x&&Nat.beq b y)||lJ a b l
def AX {α:Type}(a b:Nat):List (Nat×Nat×α)->Option α
 |[]=>none
 |(x,y,v)::l=>cond (Nat.beq a x&&Nat.beq b y) (some v) (AX a b l)
def idx (x:Nat):List Nat->Nat
 |[]=>0
 |y::l=>cond (Nat.beq x y) 0 (idx x l+1)
def On:List Sh->Nat->List Nat->List Im
 |[],_,_=>[]
 | .sl sz::ss,i,l=>cond (bH i l) (.ow sz) (.pl (.sl sz))::On ss (i+1) l
 |s::ss,i,l=>.pl s::On ss (i+1) l
def Sm (E:Env)(f:Nat):Nat->List TypeId->Option (List uI)
 |_,[]=>some []
 |i,t::ts=>
  match Sm E f (i+1) ts with
  |none=>none
  |some r=>
   match E.P.underlying t with
   |some (.pointer e)=>match mU E.P e with|some ss=>some ((match AX f i E.agL with|some l=>.nU (On ss 0 l)|none=>.kI ss)::r)|none=>none
   |some (.slice e)=>cond (lJ f i E.own) (some (.own (E.P.cellsOf e)::r)) (some (.one (.sl (E.P.cellsOf e))::r))
   |some (.struct _)=>match mU E.P t with|some ss=>some ((match AX f i E.agL with|some l=>.bm (On ss 0 l)|none=>.agg ss)::r)|none=>none
   |some (.array _ _)=>match mU E.P t with|some ss=>some (.agg ss::r)|none=>none
   |_=>match mU E.P t with|some [s]=>some (.one s::r)|_=>none
def rU:List Im->List RC->Bool
 |[],[]=>true
 | .pl s::ss,.p v::cs=>xp s v&&rU ss cs
 | .ow sz::ss,.own nN _::cs=>Nat.beq sz nN&&rU ss cs
 |_,_=>false
def cC:List uI->List RV->Bool
 |[],[]=>true
 | .one s::l,.p v::r=>xp s v&&cC l r
 | .agg ss::l,.agg cs::r=>bL ss cs&&cC l r
 | .own sz::l,.own nN _::r=>Nat.beq sz nN&&cC l r
 | .kI ss::l,.kI cs::r=>bL ss cs&&cC l r
 | .bm ss::l,.bm cs::r=>rU ss cs&&cC l r
 | .nU ss::l,.nU cs::r=>rU ss cs&&cC l r
 |_,_=>false
def gA:List Im->Nat
 |[]=>0
 | .pl _::l=>gA l
 | .ow _::l=>gA l+1
def qV (nid:Nat):List Im->Nat->List RC->List TV×cD
 |[],_,_=>([],[])
 | .pl s::l,i,cs=>let q:=qV nid l (i+1) cs;(.p (uT s (nth (.p .aM) cs i).dC)::q.1,q.2)
 | .ow sz::l,i,cs=>let q:=qV (nid+1) l (i+1) cs;(.ak nid::q.1,(nid,.blk (.arr sz (nth (.p .aM) cs i).di))::q.2)
def bring (nid:Nat):List uI->Nat->List RV->List (TV⊕List TV)×cD
 |[],_,_=>([],[])
 | .one s::l,i,rs=>let q:=bring nid l (i+1) rs;(.inl (.p (uT s (nth (.p .aM) rs i).dC))::q.1,q.2)
 | .agg ss::l,i,rs=>let q:=bring nid l (i+1) rs;(.inl (.agg (oD ss (nth (.p .aM) rs i).gl 0))::q.1,q.2)
 | .own sz::l,i,rs=>let q:=bring (nid+1) l (i+1) rs;(.inl (.ak nid)::q.1,(nid,.blk (.arr sz (nth (.p .aM) rs i).di))::q.2)
 | .kI ss::l,i,rs=>let q:=bring (nid+1) l (i+1) rs;(.inl (.ptr nid 0)::q.1,(nid,.blk (.box ((oD ss (nth (.p .aM) rs i).gl 0).map AV.p)))::q.2)
 | .bm ss::l,i,rs=>let c:=qV nid ss 0 (nth (.p .aM) rs i).sw;let q:=bring (nid+gA ss) l (i+1) rs;(.inr c.1::q.1,c.2++q.2)
 | .nU ss::l,i,rs=>let c:=qV (nid+1) ss 0 (nth (.p .aM) rs i).sw;let q:=bring (nid+(gA ss+1)) l (i+1) rs;(.inl (.ptr nid 0)::q.1,(nid,.blk (.box (c.1.map AV.t)))::(c.2++q.2))
def owns:List uI->Nat
 |[]=>0
 | .own _::l=>owns l+1
 | .kI _::l=>owns l+1
 | .bm ss::l=>owns l+gA ss
 | .nU ss::l=>owns l+(gA ss+1)
 |_::l=>owns l
def Er:List (TV⊕List TV)->Option (List TV)
 |[]=>some []
 | .inl v::l=>match Er l with|some r=>some (v::r)|none=>none
 | .inr _::_=>none
def agK:TV⊕List TV->AV
 | .inl v=>.t v
 | .inr vs=>.bm vs
def valOf:List (TV⊕List TV)->AV
 |[p]=>agK p
 |ps=>match Er ps with|some vs=>.XU vs|none=>.IE ps
def Du:TV->List Nat
 | .ak id=>[id]
 |_=>[]
def agI:TV->List Nat
 | .ptr id _=>[id]
 |_=>[]
def H' (l:List Nat)(ids:List Nat):List Nat:=l.foldl addN ids
def kX (E:Env)(f:Nat):Nat->List AV->List Nat->List Nat
 |_,[],ids=>ids
 |i,a::l,ids=>
  kX E f (i+1) l (match a with
   | .t (.ptr id _)=>addN ids id
   | .t (.ak id)=>cond (lJ f i E.rV) (addN ids id) ids
   | .fn _ caps=>caps.foldl (λs c=>match c with| .ptr id _=>addN s id|_=>s) ids
   | .bm vs=>cond (lJ f i E.rV) (H' (vs.flatMap Du) ids) ids
   | .iG _ id _=>addN ids id
   |_=>ids)
def agH:AV->List Nat
 | .t v=>agI v
 | .fn _ caps=>caps.flatMap agI
 |_=>[]
def ZY:AV->List Nat
 | .t v=>Du v
 |_=>[]
def agG (look:aJ)(id:Nat):List Nat:=match look id with|some (.box cs)=>cs.flatMap agH|_=>[]
def ag9 (look:aJ)(id:Nat):List Nat:=match look id with|some (.box cs)=>cs.flatMap ZY|_=>[]
def yb (look:aJ):Nat->List Nat->List Nat
 |0,ids=>ids
 |n+1,ids=>yb look n (H' (ids.flatMap (agG look)) ids)
def GW (ids:List Nat):TV->TV
 | .ak j=>.ak (idx j ids)
 | .ptr j o=>.ptr (idx j ids) o
 |v=>v
def Cl (ids:List Nat):TV->Bool
 | .ak j=>bH j ids
 | .ptr j _=>bH j ids
 |_=>true
def oT (ids:List Nat):List TV->Option (List TV)
 |[]=>some []
 | .ptr id o::l=>match oT ids l with|some r=>some (.ptr (idx id ids) o::r)|none=>none
 | .p v::l=>match oT ids l with|some r=>some (.p v::r)|none=>none
 | .agg cs::l=>match oT ids l with|some r=>some (.agg cs::r)|none=>none
 | .ak _::_=>none
def vz (E:Env)(f:Nat):Nat->List AV->Bool
 |_,[]=>false
 |i,.t (.ak _)::l=> !lJ f i E.rV||vz E f (i+1) l
 |i,.bm _::l=> !lJ f i E.rV||vz E f (i+1) l
 |i,_::l=>vz E f (i+1) l
def jh (look:aJ)(ids:List Nat):List TV->Option (List PV)
 |[]=>some []
 | .p v::l=>match jh look ids l with|some r=>some (v::r)|none=>none
 | .ak id::l=>cond (bH id ids) none (match look id,jh look ids l with|some (.arr sz es),some r=>some (.sl sz es::r)|_,_=>none)
 |_::_=>none
def xn (E:Env)(look:aJ)(f:Nat)(ids:List Nat):Nat->List AV->Option (List AV)
 |_,[]=>some []
 |i,a::l=>
  match xn E look f ids (i+1) l with
  |none=>none
  |some r=>
   match a with
   | .t (.p v)=>some (.t (.p v)::r)
   | .t (.agg cs)=>some (.t (.agg cs)::r)
   | .t (.ptr id o)=>some (.t (.ptr (idx id ids) o)::r)
   | .t (.ak id)=>
    cond (lJ f i E.rV) (some (.t (.ak (idx id ids))::r))
     (cond (bH id ids) none (match look id with|some (.arr sz es)=>some (.t (.p (.sl sz es))::r)|_=>none))
   | .fn g caps=>match oT ids caps with|some c=>some (.fn g c::r)|none=>none
   | .uJ cs=>some (.uJ cs::r)
   | .aj g cs=>some (.aj g cs::r)
   | .bm vs=>
    cond (lJ f i E.rV) (cond (vs.all λv=>Bk v&&Cl ids v) (some (.bm (vs.map (GW ids))::r)) none)
     (match jh look ids vs with|some cs=>some (.t (.agg cs)::r)|none=>none)
   | .iG g id o=>some (.iG g (idx id ids) o::r)
   |_=>none
def pK:List AV->Option (List PV)
 |[]=>some []
 | .t (.p v)::l=>match pK l with|some r=>some (v::r)|none=>none
 |_=>none
def ajo:PV->Option Sh
 | .int k _=>some (.int k)
 | .bool _=>some .bool
 | .str _=>some .str
 | .sl sz _=>some (.sl sz)
 |_=>none
abbrev wH:=Sh⊕AV
def DG (ids:List Nat):AV->Option (AV×wH)
 | .t (.p v)=>match ajo v with|some s=>some (.t (.p v),.inl s)|none=>none
 | .t (.ak j)=>cond (bH j ids) (some (.t (.ak (idx j ids)),.inr (.t (.ak (idx j ids))))) none
 | .t (.ptr j o)=>cond (bH j ids) (some (.t (.ptr (idx j ids) o),.inr (.t (.ptr (idx j ids) o)))) none
 | .fn g caps=>cond (caps.all λc=>Cl ids c&& !Bk c) (some (.fn g (caps.map (GW ids)),.inr (.fn g (caps.map (GW ids))))) none
 |_=>none
def s9 (ids:List Nat):List AV->Option (List AV×List wH)
 |[]=>some ([],[])
 |c::l=>match DG ids c,s9 ids l with|some (a,s),some (af,ss)=>some (a::af,s::ss)|_,_=>none
def Aw (look:aJ)(ids:List Nat):List Nat->Option (List au×List (List wH⊕Nat))
 |[]=>some ([],[])
 |id::l=>
  match Aw look ids l,look id with
  |some (bs,ss),some (.box cs)=>match s9 ids cs with|some (af,s)=>some (.box af::bs,.inl s::ss)|none=>none
  |some (bs,ss),some (.arr sz es)=>some (.arr sz es::bs,.inr sz::ss)
  |_,_=>none
def bb:TV->TV->Bool
 | .ak j,.ak k=>Nat.beq j k
 | .ptr j o,.ptr k o'=>Nat.beq j k&&Nat.beq o o'
 |_,_=>false
def uY:List TV->List TV->Bool
 |[],[]=>true
 |a::l,b::r=>bb a b&&uY l r
 |_,_=>false
def aD:AV->AV->Bool
 | .t a,.t b=>bb a b
 | .fn g l,.fn g' l'=>Nat.beq g g'&&uY l l'
 |_,_=>false
def aW:List wH->List AV->Bool
 |[],[]=>true
 | .inl s::l,.t (.p v)::r=>xp s v&&aW l r
 | .inr a::l,c::r=>aD a c&&aW l r
 |_,_=>false
def okB:List (List wH⊕Nat)->List au->Bool
 |[],[]=>true
 | .inl ss::l,.box cs::r=>aW ss cs&&okB l r
 | .inr sz::l,.arr nN _::r=>Nat.beq sz nN&&okB l r
 |_,_=>false
def unT (cid:List Nat):TV->TV
 | .ak k=>.ak (nth 0 cid k)
 | .ptr k o=>.ptr (nth 0 cid k) o
 |v=>v
def unA (cid:List Nat):AV->AV
 | .t v=>.t (unT cid v)
 | .fn g caps=>.fn g (caps.map (unT cid))
 |a=>a
def H9 (cid:List Nat):List wH->Nat->List AV->List AV
 |[],_,_=>[]
 | .inl s::l,i,cs=>.t (.p (uT s (nth .undef cs i).dC))::H9 cid l (i+1) cs
 | .inr a::l,i,cs=>unA cid a::H9 cid l (i+1) cs
def nK (cid:List Nat):List (List wH⊕Nat)->Nat->List au->List au
 |[],_,_=>[]
 | .inl ss::l,i,bs=>.box (H9 cid ss 0 (nth (.box []) bs i).gl)::nK cid l (i+1) bs
 | .inr sz::l,i,bs=>.arr sz (nth (.box []) bs i).di::nK cid l (i+1) bs
def fM:List Nat->List au->cD
 |id::l,b::r=>(id,.blk b)::fM l r
 |_,_=>[]
def fA:PV->Bool
 | .sl _ _=>false
 |_=>true
def om:AV->Bool
 | .t (.p v)=>fA v
 | .t (.ak _)=>true
 | .t (.ptr _ _)=>true
 | .fn _ _=>true
 |_=>false
def jV:RC->Bool
 | .p v=>fA v
 | .own _ es=>es.all λe=>e.all fA
def bM:List RV->Bool
 |[]=>true
 | .p v::l=>fA v&&bM l
 | .agg cs::l=>cs.all fA&&bM l
 | .own _ es::l=>es.all (λe=>e.all fA)&&bM l
 | .kI cs::l=>cs.all fA&&bM l
 | .bm cs::l=>cs.all jV&&bM l
 | .nU cs::l=>cs.all jV&&bM l
def cr:List au->Bool
 |[]=>true
 | .box cs::l=>cs.all om&&cr l
 | .arr _ es::l=>es.all (λe=>e.all fA)&&cr l
 | .tab _ _ _::_=>false
def vE (l:List Nat):cD:=l.map λid=>(id,bw.dead)
def C9:List Nat->Bool
 |[]=>true
 |x::l=> !bH x l&&C9 l
def lL:Nat->Nat->List Nat
 |_,0=>[]
 |n,k+1=>n::lL (n+1) k
def Vc:List au->Bool
 |[]=>true
 |_=>false
def ae5:List au->Nat
 |[]=>0
 | .box cs::l=>(cs.flatMap ZY).length+ae5 l
 |_::l=>ae5 l
def ku (hs:List au):Nat:=hs.length-ae5 hs
def ly:Nat:=12
def tC {α:Type}(E:Env)(F:d_)(look:aJ)(nid:Nat)(f:Nat)(args:List AV)(K:Step α):Option α:=
 if bH f E.v_ then
  match E.P.funcs[f]? with
  |none=>none
  |some fn=>
   match Sm E f 0 fn.resultTypes.toList with
   |none=>none
   |some rsh=>
    let kid:=yb look 2 (kX E f 0 args []);let dJ:=kid.flatMap (ag9 look)
    match xn E look f (kid++dJ) 0 args,Aw look (kid++dJ) (kid++dJ)with
    |some af,some (bs,ss)=>
     if C9 (kid++dJ)&&(Nat.beq (ku bs) kid.length&&Nat.ble (dJ.length+owns rsh) ly) then aj (F f af bs) λr=>ctl (cond (vz E f 0 args&& !(bH f E.fresh&&Vc bs)) (cC rsh r.1&&okB ss r.2&&(bM r.1&&cr r.2)) (cC rsh r.1&&okB ss r.2))
      (K (valOf (bring (nid+dJ.length) rsh 0 r.1).1) (vE dJ++(fM (kid++lL nid dJ.length) (nK (kid++lL nid dJ.length) ss 0 r.2)++(bring (nid+dJ.length) rsh 0 r.1).2))) none
     else none
    |_,_=>none
 else none
def dY (E:Env)(look:aJ)(f:Nat):Nat->List AV->List AV×cD
 |_,[]=>([],[])
 |i,a::l=>
  match a with
  | .t (.ak id)=>cond (lJ f i E.J8) (match look id with
   |some (.arr sz es)=>(.t (.p (.sl sz es))::(dY E look f (i+1) l).1,(id,.dead)::(dY E look f (i+1) l).2)
   |_=>(a::(dY E look f (i+1) l).1,(dY E look f (i+1) l).2)) (a::(dY E look f (i+1) l).1,(dY E look f (i+1) l).2)
  | .bm vs=>
   cond (lJ f i E.J8) (match kH look vs with
   |some (cs,us)=>(.t (.agg cs)::(dY E look f (i+1) l).1,us++(dY E look f (i+1) l).2)
   |none=>(a::(dY E look f (i+1) l).1,(dY E look f (i+1) l).2)) (a::(dY E look f (i+1) l).1,(dY E look f (i+1) l).2)
  |_=>(a::(dY E look f (i+1) l).1,(dY E look f (i+1) l).2)
def uA (look:aJ)(us:cD):aJ:=λid=>cond (us.any λu=>Nat.beq u.1 id) none (look id)
def yg {α:Type}(E:Env)(F:d_)(look:aJ)(nid:Nat)(f:Nat)(args:List AV)(K:Step α):Option α:=
 tC E F (uA look (dY E look f 0 args).2) nid f (dY E look f 0 args).1 λv us=>K v ((dY E look f 0 args).2++us)
def LR (look:aJ):List AV->Option (List PV×List TV×PV)
 |[.t (.ptr id 0),.t (.p z)]=>
  match look id with
  |some (.box cs)=>
   match iK cs with
   |some (.p c0::.p c1::.p c2::.p c3::.p c4::.p c5::t0::t1::t2::t3::_)=>some ([c0,c1,c2,c3,c4,c5],[t0,t1,t2,t3],z)
   |_=>none
  |_=>none
 |_=>none
def roA (cs:List PV)(ts:List TV)(z:PV):Bool->List AV
 |true=>[.t (.agg cs),.bm ts,.t (.p z)]
 |false=>[.t (.agg cs),.t (.p z)]
def Od:Sh->Bool
 | .int _=>true
 | .bool=>true
 |_=>false
def aee:List Nat->Bool
 |[]=>true
 |_=>false
def Q4 {α:Type}(E:Env)(F:d_)(look:aJ)(args:Bool->List AV):List (Nat×Bool×Sh)->List PV->(List PV->Option α)->Option α
 |[],acc,K=>K acc.reverse
 |(g,fu,s)::l,acc,K=>
  if bH g E.v_&&(Od s&&aee (kX E g 0 (args fu) [])) then
   match xn E look g [] 0 (args fu)with
   |some af=>aj (F g af []) λr=>ctl (cC [.one s] r.1&&okB [] r.2) (Q4 E F look args l (uT s (nth (.p .aM) r.1 0).dC::acc) K) none
   |none=>none
  else none
def roK {α:Type}(E:Env)(F:d_)(look:aJ)(f:Nat)(p:Ey)(args:List AV)(K:Step α):Option α:=
 if bH f E.v_ then
  match LR look args with
  |some (cs,ts,z)=>
   match jh look [] ts with
   |some ds=>Q4 E F look (roA cs ts z) p.gs [] λvs=>ctl (p.ok vs ds) (K (.t (.p (p.val vs ds))) []) none
   |none=>none
  |none=>none
 else none
def nD {α:Type}(E:Env)(F:d_)(look:aJ)(nid:Nat)(f:Nat)(args:List AV)(K:Step α):Option α:=
 match iA f E.ro with
 |some p=>roK E F look f p args K
 |none=>yg E F look nid f args K
def adY:List Sh->List TV->List TV
 |s::ss,c::cs=>(match s with
  | .sl sz=>(match c with| .p .bN=>.p (.sl sz [])|_=>c)
  |_=>c)::adY ss cs
 |_,cs=>cs
def ad0 (P:Program)(t:TypeId)(a:AV):AV:=
 match a with
 | .t (.agg cs)=>(match mU P t with|some ss=>.t (.agg (YR ss cs))|none=>.t (.agg cs))
 | .t (.p .bN)=>(match mU P t with|some [.sl sz]=>.t (.p (.sl sz []))|_=>.t (.p .bN))
 | .bm vs=>(match mU P t with|some ss=>.bm (adY ss vs)|none=>.bm vs)
 |_=>a
def adZ (P:Program):List TypeId->List AV->List AV
 |t::ts,a::af=>ad0 P t a::adZ P ts af
 |_,af=>af
def AA (P:Program)(g:Nat)(af:List AV):List AV:=
 match P.funcs[g]? with
 |some fn=>adZ P fn.params.toList af
 |none=>af
def Bn {α:Type}(k:EB)(look:aJ)(nid:Nat)(args:List AV)(K:Step α):Option α:=
 match k,args with
 | .rev g,[a]=>
  match a with
  | .t (.p (.sl 1 es))=>K (.rev g es) []
  | .t (.p .bN)=>K (.rev g []) []
  | .t (.ak j)=>match look j with|some (.arr 1 es)=>K (.rev g es) [(j,.dead)]|_=>none
  |_=>none
 | .aam g ok f,[.t (.ak j),.fn g' [.ptr b 0]]=>
  match look j,look b with
  |some (.arr 1 es),some (.box cs)=>
   match pK cs with
   |some ps=>ctl (ok ps es) (if Nat.beq g g' then K (.t (.ak nid)) [(j,.dead),(nid,.blk (.arr 1 (f ps es)))] else none) none
   |none=>none
  |_,_=>none
 |_,_=>none
def acq:AV->Bool| .NK _=>true|_=>false
def Vb:AV->Bool| .Pf _ _=>true|_=>false
def jC (P:Program)(op:Op)(ev:Operand->AV):Bool:=
 match op with
 | .makeSlice t _ _=>(match P.underlying t with|some (.slice e)=>bH e Yd|_=>false)
 | .makeMap _ none=>true
 | .load t a=>bH t Yd&&Vb (ev a)
 | .store _ a _=>Vb (ev a)
 | .indexAddr _ x _=>acq (ev x)
 | .call {callee:=.builtin .len,args,..}=>(match args.toList.map ev with|[x]=>acq x|_=>false)
 | .lookup _ _ _ _=>true
 | .mapUpdate _ _ _ _=>true
 |_=>false
def uK {α:Type}(P:Program)(look:aJ)(nid:Nat)(op:Op)(ev:Operand->AV)(K:Step α):Option α:=none
def eD {α:Type}(P:Program)(look:aJ)(nid:Nat)(op:Op)(ev:Operand->AV)(K:Step α):Option α:=
 cond (jC P op ev) (uK P look nid op ev K) (gZ P look nid op ev K)
def qa {α:Type}(E:Env)(F:d_)(look:aJ)(nid:Nat)(op:Op)(ev:Operand->AV)(K:Step α):Option α:=
 match op with
 | .call {callee:=.value f,args,..}=>
  match ev f with
  | .fn g caps=>
   match iA g E.hpr with
   |some k=>(match caps with|[]=>Bn k look nid (args.toList.map ev) K|_::_=>none)
   |none=>nD E F look nid g (AA E.P g (args.toList.map ev++caps.map AV.t)) K
  | .t (.p (.fn g))=>nD E F look nid g (AA E.P g (args.toList.map ev)) K
  | .aj g cs=>nD E F look nid g (AA E.P g (.t (.agg cs)::args.toList.map ev)) K
  | .iG g id o=>nD E F look nid g (AA E.P g (.t (.ptr id o)::args.toList.map ev)) K
  |_=>none
 |_=>eD E.P look nid op ev K
def wE:Op->Bool
 | .alloc _=>true
 | .box _ _=>true
 | .buildSlice _ _ _=>true
 | .makeSlice _ _ _=>true
 | .convert _ _ _=>true
 | .makeMap _ _=>true
 | .lookup _ _ _ _=>true
 | .load t _=>bH t Yd
 | .call {callee:=.builtin .append,..}=>true
 | .call {callee:=.builtin _,..}=>false
 | .call _=>true
 |_=>false
def Hk:Op->Bool
 | .call {callee:=.builtin _,..}=>false
 | .call _=>true
 |_=>false
def wV (op:Op):Nat:=cond (wE op) (cond (Hk op) ly 2) 0
def eA (o:Oper):Nat:=wV o.op
def eV:List Oper->Nat
 |[]=>0
 |o::l=>eA o+eV l
def dA:Op->Bool
 | .move _| .assign _| .pick _ _ _| .alloc _| .box _ _| .nilCheck _| .binOp _ _ _ _ _| .unOp _ _ _| .makeFunc _ _ _| .fieldAddr _ _ _| .field _ _ _| .index _ _ _| .extract _ _=>false
 | .call {callee:=.builtin .min,..}=>false
 | .call {callee:=.builtin .max,..}=>false
 |_=>true
def Mu (P:Program)(t:TypeId):Bool:=
 match P.underlying t with
 |some (.pointer _)=>true
 |some (.func _ _ _)=>true
 |_=>false
def QL (E:Env):Op->Bool
 | .store _ _ _=>true
 | .buildSlice _ _ _=>true
 | .load t _=>bH t Yd
 | .lookup _ _ _ _=>true
 | .mapUpdate _ _ _ _=>true
 | .call {callee:=.value (.func f),..}=>(match E.P.funcs[f]? with|some fn=>fn.params.toList.any (Mu E.P)|none=>true)||E.rV.any (λx=>Nat.beq x.1 f)||E.J8.any (λx=>Nat.beq x.1 f)
 | .call {callee:=.builtin .append,..}=>true
 | .call {callee:=.builtin .copy,..}=>true
 | .call {callee:=.builtin _,..}=>false
 | .call _=>true
 |_=>false
def ah9 (E:Env):Op->Bool
 | .move _| .pick _ _ _| .load _ _| .nilCheck _| .binOp _ _ _ _ _| .unOp _ _ _| .fieldAddr _ _ _| .field _ _ _| .indexAddr _ _ _| .index _ _ _| .extract _ _=>true
 | .convert a b _=>(match E.P.underlying a,E.P.underlying b with|some (.int _),some (.int _)=>true|_,_=>false)
 | .call {callee:=.builtin .len,..}=>true
 | .call {callee:=.builtin .min,..}=>true
 | .call {callee:=.builtin .max,..}=>true
 | .call {callee:=.value (.func f),..}=>
  (match E.P.funcs[f]? with
   |some fn=> !fn.params.toList.any (Mu E.P)&& !fn.resultTypes.toList.any (Mu E.P)
   |none=>false)&& !E.rV.any (λx=>Nat.beq x.1 f)&& !E.own.any (λx=>Nat.beq x.1 f)&& !E.J8.any (λx=>Nat.beq x.1 f)
 |_=>false
def Dm (d:Nat):Oper->Bool
 | {op:=.pick (.tmp c) _ _,..}=>Nat.beq c d
 |_=>false
def wQ (d:Nat):List Oper->Option (List Oper×Oper×List Oper)
 |[]=>none
 |o::l=>cond (Dm d o) (some ([],o,l)) (match wQ d l with|some (b,p,r)=>some (o::b,p,r)|none=>none)
inductive Md where
 |plain
 |s1
 |dyn
structure Cx where
 E:Env
 F:d_
 ops:Array Oper
 before:Array Nat
 md:Md
abbrev Log:=List (Nat×List Nat×Bool)
def dV (ev:Operand->AV)(op:Op):List Nat:=op.operands.toList.flatMap λx=>(ev x).refs
def oI (h:List bw)(id:Nat):List Nat:=match cw h id with|some (.box cs)=>cs.flatMap AV.refs|_=>[]
def lM (h:List bw)(l:List Nat):List Nat:=l++l.flatMap (oI h)
def IU (P:Program):Op->Bool
 | .load t _=> !dc P t
 |_=>false
def oM (P:Program)(hp:Bool)(h:List bw)(ev:Operand->AV)(op:Op):List Nat:=
 cond hp (cond (IU P op) (lM h (dV ev op)) (lM h (lM h (lM h (dV ev op))))) (dV ev op)
def jM (P:Program)(hp:Bool)(h:List bw)(ev:Operand->AV)(op:Op):List Nat:=
 cond (IU P op) (dV ev op) (oM P hp h ev op)
def X8 (xs ys:List Nat):Bool:=xs.all λx=>bH x ys
def agO (xs ys:List Nat):Bool:=xs.any λx=>bH x ys
def HM:bw->List Nat
 | .blk (.box cs)=>cs.flatMap AV.refs
 |_=>[]
def ac0:bw->Bool
 | .fresh=>false
 |_=>true
def Iy (h:Bool)(n:Nat)(fp:List Nat)(nid:Nat)(us:cD):Bool:=
 us.all λu=>ac0 u.2&&((h&&bH u.1 fp)||(Nat.ble nid u.1&&Nat.blt u.1 (nid+n)))
def yY (fp:List Nat)(us:cD)(v:AV):Bool:=
 X8 v.refs (fp++us.map Prod.fst)&&us.all λu=>X8 (HM u.2) (fp++us.map Prod.fst)
def Ws (before:Array Nat)(i:Nat)(fp:List Nat)(w:Bool)(lg:Log):Bool:=
 lg.any λl=> !(before.getD i 0).testBit l.1&&((w||l.2.2)&&agO fp l.2.1)
def Vd:AV->Bool
 | .undef=>false
 |_=>true
def G5:Op->Bool
 | .move _=>true
 | .assign _=>true
 | .pick _ _ _=>true
 |_=>false
def Kk (ev:Operand->AV)(op:Op):Bool:=G5 op||op.operands.toList.all λx=>Vd (ev x)
def mm {α:Type}(E:Env)(F:d_)(dr:Bool)(nid:Nat)(o:Oper)(st:St)(K:AV->cD->List Nat->Bool->Option α):Option α:=
 if Kk (aS st.slots) o.op then
  match dr with
  |false=>qa E F (cw st.heap) nid o.op (aS st.slots) λv us=>K v us [] false
  |true=>
   let h:=dA o.op;let fp:=jM E.P h st.heap (aS st.slots) o.op
   qa E F (λid=>cond (h&&bH id fp) (cw st.heap id) none) nid o.op (aS st.slots) λv us=>
    if Iy h (eA o) fp nid us&&yY (oM E.P h st.heap (aS st.slots) o.op) us v then K v us (cond h fp []) (h&&us.any λu=>bH u.1 fp) else none
 else none
def lU:Md->Bool
 | .plain=>false
 |_=>true
def vM (cx:Cx)(i:Nat)(o:Oper)(fp:List Nat)(w:Bool)(lg:Log):Bool:=
 match cx.md with
 | .plain=>true
 | .s1=> !w||QL cx.E o.op
 | .dyn=> !Ws cx.before i fp w lg
def Jy (md:Md)(i:Nat)(fp:List Nat)(w:Bool)(lg:Log):Log:=
 match md with
 | .dyn=>(i,fp,w)::lg
 |_=>[]
def lr {α:Type}(cx:Cx)(i nid:Nat)(o:Oper)(pu:Bool)(st:St)(lg:Log)(K:St->Log->Option α):Option α:=
 mm cx.E cx.F (lU cx.md) nid o st λv us fp w=>
  if (!pu||us.isEmpty)&&vM cx i o fp w lg then K ⟨cq o.dst v st.slots,bh us st.heap⟩ (Jy cx.md i fp w lg) else none
def iJ:List Oper->List AV->List AV
 |[],s=>s
 |o::l,s=>iJ l (cq o.dst .undef s)
def pW (ops:Array Oper)(j:Nat):Option Nat:=(ops[j]?).bind (·.dst)
def oC (ops:Array Oper)(d:Nat)(w:Bool):List Oper->List Nat->Bool
 |[],_=>true
 |o::l,ds=>
  (match o.guard with
   |some (j,w')=>(match pW ops j with|some d'=>(Nat.beq d' d&&(w==w'))||bH d' ds|none=>false)
   |none=>false)&&
  (match o.dst with|some e=> !Nat.beq e d&&oC ops d w l (e::ds)|none=>oC ops d w l ds)
def Hp (n:Nat)(o:Oper):Bool:=match o.dst with|some e=>Nat.blt e n|none=>true
def H7 (v:AV):Option Bool:=match v with| .t (.p (.bool b))=>some b|_=>none
def Ov:Md->Bool| .dyn=>true|_=>false
def kB (cx:Cx):Nat->(α:Type)->Bool->Nat->Nat->List Oper->St->Log->(St->Log->Option α)->Option α
 |_,_,_,_,_,[],st,lg,K=>K st lg
 |0,_,_,_,_,_::_,_,_,_=>none
 |n+1,α,pu,i,nid,o::rest,st,lg,K=>
  match o.guard with
  |none=>lr cx i nid o pu st lg λbD pj=>kB cx n α pu (i+1) (nid+eA o) rest bD pj K
  |some (j,w)=>
   match pW cx.ops j with
   |none=>none
   |some d=>
    match nth .undef st.slots d with
    | .no=>kB cx n α pu (i+1) (nid+eA o) rest ⟨cq o.dst .no st.slots,st.heap⟩ lg K
    | .t (.p (.bool b))=>
     match wQ d (o::rest)with
     |some (body,pk,NV)=>
      if !Ov cx.md&&pk.guard.isNone&&pk.dst.isSome&&body.all (λo=>ah9 cx.E o.op&&Hp st.slots.length o)&&oC cx.ops d w body [] then
       match pk.op with
       | .pick _ x y=>
        aj (ctl (cond w b (!b))
         (kB cx n Bool true i nid body ⟨upd (.bool w) st.slots d,st.heap⟩ [] λbD _=>H7 (aS bD.slots (cond w x y)))
         (H7 (aS (iJ body st.slots) (cond w y x)))) λv=>
          kB cx n α pu (i+body.length+1) (nid+eV body+eA pk) NV ⟨cq pk.dst (.bool v) (iJ body st.slots),st.heap⟩ [] K
       |_=>none
      else
       ctl (cond w b (!b))
        (lr cx i nid o pu ⟨upd (.bool w) st.slots d,st.heap⟩ lg λbD pj=>kB cx n α pu (i+1) (nid+eA o) rest bD pj K)
        (kB cx n α pu (i+1) (nid+eA o) rest ⟨cq o.dst .no (upd (.bool (!w)) st.slots d),st.heap⟩ lg K)
     |none=>
      ctl (cond w b (!b))
       (lr cx i nid o pu ⟨upd (.bool w) st.slots d,st.heap⟩ lg λbD pj=>kB cx n α pu (i+1) (nid+eA o) rest bD pj K)
       (kB cx n α pu (i+1) (nid+eA o) rest ⟨cq o.dst .no (upd (.bool (!w)) st.slots d),st.heap⟩ lg K)
    |_=>none
def I1 (E:Env)(before:Array Nat)(oj:Oper)(j:Nat):Nat->List Oper->Bool
 |_,[]=>true
 |i,o::l=>(Nat.ble j i||(before.getD j 0).testBit i|| !((QL E o.op&&dA oj.op)||(dA o.op&&QL E oj.op)))&&I1 E before oj j (i+1) l
def LM (E:Env)(before:Array Nat)(all:List Oper):Nat->List Oper->Bool
 |_,[]=>true
 |j,o::l=>I1 E before o j 0 all&&LM E before all (j+1) l
def gj (ops:Array Oper)(o:Oper):List Nat:=
 (match o.guard with|some (j,_)=>(match pW ops j with|some d=>[d]|none=>[])|none=>[])++
  o.op.operands.toList.flatMap λx=>match x with| .tmp t=>[t]|_=>[]
def wG (ops:Array Oper)(x y:Oper):Bool:=
 (match x.dst with|some d=> !bH d (gj ops y)&&(match y.dst with|some e=> !Nat.beq d e|none=>true)|none=>true)&&
 (match y.dst with|some d=> !bH d (gj ops x)|none=>true)
def tH (ops:Array Oper)(before:Array Nat)(oj:Oper)(j:Nat):Nat->List Oper->Bool
 |_,[]=>true
 |i,o::l=>(Nat.ble j i||(before.getD j 0).testBit i||wG ops o oj)&&tH ops before oj j (i+1) l
def BR (o:Oper)(j:Nat):Bool:=o.after.all λe=> !Region.binds .any e||Nat.blt e.on j
def zK (ops:Array Oper)(before:Array Nat):Nat->List Oper->Bool
 |_,[]=>true
 |j,o::l=>BR o j&&tH ops before o j 0 ops.toList&&zK ops before (j+1) l
def EM {α:Type}(E:Env)(F:d_)(ops:Array Oper)(draw:Bool)(l:List Oper)(st:St)(K:St->Option α):Option α:=
 let bf:=Region.before ops;let md:=cond draw (cond (LM E bf l 0 l) Md.s1 Md.dyn) Md.plain
 if !draw||zK ops bf 0 ops.toList then
  kB ⟨E,F,ops,bf,md⟩ l.length α false 0 st.heap.length l ⟨st.slots,st.heap++dm .fresh (eV l)⟩ [] λbD _=>K bD
 else none
def Yr {α:Type}(E:Env)(F:d_)(ops:Array Oper)(draw:Bool)(st:St)(K:St->Option α):Option α:=EM E F ops draw ops.toList st K
def Ot:List Oper->Option Oper
 |[]=>none
 |[o]=>some o
 |_::l=>Ot l
def uH (x:Nat):Nat->Bool
 |0=>true
 |n+1=>x.testBit n&&uH x n
def Ve (E:Env)(ops:Array Oper)(draw:Bool):Option (Option Nat×Nat×List Operand):=
 match Ot ops.toList with
 |some o=>
  match o.guard,o.op with
  |none,.call {callee:=.value (.func g),args,..}=>
   cond (bH g E.inl&&(bH g E.v_&&(!bH g E.qF&&(!draw||uH ((Region.before ops).getD (ops.size-1) 0) (ops.size-1))))) (some (o.dst,g,args.toList)) none
  |_,_=>none
 |none=>none
abbrev Inl:=Nat->(α:Type)->List AV->List bw->(AV->List bw->Option α)->Option α
def VX (s:Nat)(c:Option Nat)(st:St):St:=
 match c,nth .undef st.slots s with
 |none,.t (.ak id)=>
  match cw st.heap id with
  |some (.arr sz es)=>⟨upd (.t (.p (.sl sz es))) st.slots s,upd .dead st.heap id⟩
  |_=>st
 |none,.bm vs=>
  match kH (cw st.heap) vs with
  |some (cs,us)=>⟨upd (.t (.agg cs)) st.slots s,bh us st.heap⟩
  |none=>st
 |some k,.t (.ptr b 0)=>
  match cw st.heap b with
  |some (.box cs)=>
   match nth .undef cs (k %1000)with
   | .t (.ak id)=>
    match cw st.heap id with
    |some (.arr sz es)=>cond (Nat.blt k 1000) ⟨st.slots,upd (.blk (.box (upd (.t (.p (.sl sz es))) cs (k %1000)))) (upd .dead st.heap id) b⟩ st
    |_=>st
   | .t (.p .bN)=>cond (Nat.blt k 1000) st
    ⟨st.slots,upd (.blk (.box (upd (.t (.ak st.heap.length)) cs (k %1000)))) (upd (.blk (.arr (k/1000) [])) (st.heap++dm .fresh 1) st.heap.length) b⟩
   |_=>st
  |_=>st
 |_,_=>st
def MW:List (Nat×Option Nat)->St->St
 |[],st=>st
 |(s,c)::l,st=>MW l (VX s c st)
def CP (E:Env)(f id:Nat)(st:St):St:=
 match AX f id E.fzr with
 |some l=>MW l st
 |none=>st
structure Pack where
 vals:List AV
 aq:List au
 deriving Inhabited
abbrev yw:=Sh⊕List Sh⊕AV
abbrev Mp:=List (Nat×Option Nat)
def bZ (j:Nat):Mp->Option (Option Nat)
 |[]=>none
 |(k,x)::l=>cond (Nat.beq j k) (some x) (bZ j l)
def TL:Option Nat->Option Nat->Bool
 |none,none=>true
 |some a,some b=>Nat.beq a b
 |_,_=>false
def sX (id:Nat):Mp->Bool
 |[]=>false
 |(_,some x)::l=>Nat.beq id x||sX id l
 |(_,none)::l=>sX id l
def link (j:Nat)(x:Option Nat)(mp:Mp):Option Mp:=
 match bZ j mp with
 |some y=>cond (TL x y) (some mp) none
 |none=>match x with
  |some id=>cond (sX id mp) none (some (mp++[(j,some id)]))
  |none=>some (mp++[(j,none)])
def qG:List TV->List TV->Mp->Option Mp
 |[],[],mp=>some mp
 | .ptr j o::l,.ptr id o'::r,mp=>cond (Nat.beq o o') (match link j (some id) mp with|some iV=>qG l r iV|none=>none) none
 |_,_,_=>none
def linkRef (w:AV)(a:AV)(mp:Mp):Option Mp:=
 match w,a with
 | .t (.ak j),.t (.ak id)=>link j (some id) mp
 | .t (.ak j),.t (.p .bN)=>link j none mp
 | .t (.ptr j o),.t (.ptr id o')=>cond (Nat.beq o o') (link j (some id) mp) none
 | .C8 j,.C8 id=>link j (some id) mp
 | .NK j,.NK id=>link j (some id) mp
 | .hmap j,.hmap id=>link j (some id) mp
 | .iG f j o,.iG g id o'=>cond (Nat.beq f g&&Nat.beq o o') (link j (some id) mp) none
 | .C8 j,.t (.p .aM)=>(match bZ j mp with|some (some _)=>some mp|_=>none)
 | .fn f l,.fn g r=>cond (Nat.beq f g) (qG l r mp) none
 | .fn f [],.t (.p (.fn g))=>cond (Nat.beq f g) (some mp) none
 |_,_=>none
def JS:AV->Bool
 | .aj _ _=>true
 |_=>false
open Classical in
noncomputable def aeY (w a:AV):Bool:=decide (w=a)
def mO (slots:List AV):List (Nat×yw)->Mp->Option Mp
 |[],mp=>some mp
 |(i,.inr (.inr w))::l,mp=>cond (JS w) (mO slots l mp) (match linkRef w (nth .undef slots i) mp with|some iV=>mO slots l iV|none=>none)
 |_::l,mp=>mO slots l mp
def pP:List (Sh⊕AV)->List AV->Mp->Option Mp
 |[],[],mp=>some mp
 | .inr w::l,c::cs,mp=>match linkRef w c mp with|some iV=>pP l cs iV|none=>none
 | .inl _::l,_::cs,mp=>pP l cs mp
 |_,_,_=>none
def Lu (m:Bool)(sz:Nat):Nat:=1000000+(2*sz+cond m 1 0)
def adw (n:Nat):Bool:=Nat.beq ((n-1000000) %2) 1
def adv (n:Nat):Nat:=(n-1000000)/2
def jY (look:aJ):Nat->List (List (Sh⊕AV)⊕Nat)->Mp->Option Mp
 |_,[],mp=>some mp
 |j,.inr sz::l,mp=>match bZ j mp with
  |some (some id)=>match look id with
   |some (.arr nN _)=>cond (Nat.beq sz nN) (jY look (j+1) l mp) none
   |some (.tab m s _)=>cond (Nat.beq sz (Lu m s)) (jY look (j+1) l mp) none
   |_=>none
  |some none=>jY look (j+1) l mp
  |none=>none
 |j,.inl cs::l,mp=>match bZ j mp with
  |some (some id)=>match look id with
   |some (.box ds)=>match pP cs ds mp with|some iV=>jY look (j+1) l iV|none=>none
   |_=>none
  |_=>none
noncomputable def Ay (look:aJ):yw->AV->Bool
 | .inl s,.t (.p v)=>xp s v
 | .inl (.sl sz),.t (.ak id)=>(match look id with|some (.arr nN _)=>Nat.beq sz nN|_=>false)
 | .inr (.inl ss),.t (.agg cs)=>bL ss cs
 | .inr (.inr w),a=>cond (JS w) (aeY w a) true
 |_,_=>false
def J8:yw->AV->List Nat
 | .inl _,.t (.ak id)=>[id]
 |_,_=>[]
def qQ (look:aJ):yw->AV->List AV
 | .inl s,.t (.p v)=>[.t (.p (uT s v))]
 | .inl _,.t (.ak id)=>(match look id with|some (.arr sz es)=>[.sl sz es]|_=>[.undef])
 | .inr (.inl ss),.t (.agg cs)=>[.t (.agg (oD ss cs 0))]
 | .inr (.inr _),_=>[]
 |_,_=>[.undef]
noncomputable def od (look:aJ)(slots:List AV):List (Nat×yw)->Bool
 |[]=>true
 |(i,s)::l=>Ay look s (nth .undef slots i)&&od look slots l
def lK (slots:List AV):List (Nat×yw)->List Nat
 |[]=>[]
 |(i,s)::l=>J8 s (nth .undef slots i)++lK slots l
def j5 (look:aJ)(slots:List AV):List (Nat×yw)->List AV
 |[]=>[]
 |(i,s)::l=>qQ look s (nth .undef slots i)++j5 look slots l
def HY:Sh⊕AV->yw
 | .inl s=>.inl s
 | .inr a=>.inr (.inr a)
noncomputable def ub (look:aJ):List (Sh⊕AV)->List AV->Bool
 |[],[]=>true
 |s::l,c::cs=>Ay look (HY s) c&&ub look l cs
 |_,_=>false
def xT:List (Sh⊕AV)->List AV->List Nat
 |s::l,c::cs=>J8 (HY s) c++xT l cs
 |_,_=>[]
def j6 (look:aJ):List (Sh⊕AV)->List AV->List AV
 | .inl s::l,c::cs=>qQ look (.inl s) c++j6 look l cs
 | .inr w::l,_::cs=>w::j6 look l cs
 |_,_=>[]
noncomputable def zj (look:aJ)(mp:Mp):Nat->List (List (Sh⊕AV)⊕Nat)->Bool
 |_,[]=>true
 |j,.inr _::l=>zj look mp (j+1) l
 |j,.inl cs::l=>(match bZ j mp with
  |some (some id)=>(match look id with|some (.box ds)=>ub look cs ds|_=>false)
  |_=>false)&&zj look mp (j+1) l
def qM (look:aJ)(mp:Mp):Nat->List (List (Sh⊕AV)⊕Nat)->List Nat
 |_,[]=>[]
 |j,.inr _::l=>qM look mp (j+1) l
 |j,.inl cs::l=>(match bZ j mp with
  |some (some id)=>(match look id with|some (.box ds)=>xT cs ds|_=>[])
  |_=>[])++qM look mp (j+1) l
def j7 (look:aJ)(mp:Mp):Nat->List (List (Sh⊕AV)⊕Nat)->List au
 |_,[]=>[]
 |j,.inr sz::l=>(match bZ j mp with
  |some (some id)=>(match look id with|some (.arr _ es)=>au.arr sz es|some (.tab m s jA)=>.tab m s jA|_=>.arr sz [])
  |_=>.arr sz [])::j7 look mp (j+1) l
 |j,.inl cs::l=>(match bZ j mp with
  |some (some id)=>(match look id with|some (.box ds)=>au.box (j6 look cs ds)|_=>.box [])
  |_=>.box [])::j7 look mp (j+1) l
def Vi:Nat->Nat->Mp
 |_,0=>[]
 |j,n+1=>(j,some j)::Vi (j+1) n
noncomputable def rD {α:Type}(m:Nat)(an:zX)(st:St)(K:Pack->Option α):Option α:=
 match mO st.slots an.slots (Vi 0 m)with
 |none=>none
 |some mp0=>
  match jY (cw st.heap) 0 an.aq mp0 with
  |none=>none
  |some mp=>
   if (lK st.slots an.slots++qM (cw st.heap) mp 0 an.aq).all (λid=> !sX id mp)&&mp.all (λx=>Nat.blt x.1 an.aq.length) then
    ctl (od (cw st.heap) st.slots an.slots&&zj (cw st.heap) mp 0 an.aq)
     (K ⟨j5 (cw st.heap) st.slots an.slots,j7 (cw st.heap) mp 0 an.aq⟩) none
   else none
def dn:List (Nat×yw)->Nat->List AV->List AV->List AV
 |[],_,_,s=>s
 |(i,.inl sh)::l,k,vs,s=>dn l (k+1) vs (upd (.t (.p (uT sh (nth .undef vs k).dC))) s i)
 |(i,.inr (.inl ss))::l,k,vs,s=>dn l (k+1) vs (upd (.t (.agg (oD ss (nth .undef vs k).gl 0))) s i)
 |(i,.inr (.inr w))::l,k,vs,s=>dn l k vs (upd w s i)
def isP:AV->Bool| .t (.p _)=>true|_=>false
def agU:AV->Bool| .t (.agg _)=>true|_=>false
def nh:List (Nat×yw)->Nat->List AV->Bool
 |[],_,_=>true
 |(_,.inl sh)::l,k,vs=>isP (nth .undef vs k)&&xp sh (nth .undef vs k).dC&&nh l (k+1) vs
 |(_,.inr (.inl ss))::l,k,vs=>agU (nth .undef vs k)&&bL ss (nth .undef vs k).gl&&nh l (k+1) vs
 |(_,.inr (.inr _))::l,k,vs=>nh l k vs
def putCells:List (Sh⊕AV)->Nat->List AV->List AV
 |[],_,_=>[]
 | .inl s::l,i,cs=>.t (.p (uT s (nth .undef cs i).dC))::putCells l (i+1) cs
 | .inr w::l,i,cs=>w::putCells l (i+1) cs
def dH:List (Sh⊕AV)->Nat->List AV->Bool
 |[],_,_=>true
 | .inl s::l,i,cs=>isP (nth .undef cs i)&&xp s (nth .undef cs i).dC&&dH l (i+1) cs
 | .inr _::l,i,cs=>dH l (i+1) cs
def acr:au->Bool| .box _=>true|_=>false
def Ox (sz:Nat):au->Bool| .arr nN _=>Nat.beq sz nN|_=>false
def aed (sz:Nat):au->Bool| .tab m s _=>Nat.beq sz (Lu m s)|_=>false
def nw (sz:Nat)(b:au):Bool:=cond (Nat.blt sz 1000000) (Ox sz b) (aed sz b)
def YG (sz:Nat)(b:au):au:=cond (Nat.blt sz 1000000) (.arr sz b.di) (.tab (adw sz) (adv sz) b.af6)
def fR:List (List (Sh⊕AV)⊕Nat)->Nat->List au->List bw
 |[],_,_=>[]
 | .inl cs::l,j,bs=>.blk (.box (putCells cs 0 (nth (.box []) bs j).gl))::fR l (j+1) bs
 | .inr sz::l,j,bs=>.blk (YG sz (nth (.box []) bs j))::fR l (j+1) bs
def dI:List (List (Sh⊕AV)⊕Nat)->Nat->List au->Bool
 |[],_,_=>true
 | .inl cs::l,j,bs=>acr (nth (.box []) bs j)&&dH cs 0 (nth (.box []) bs j).gl&&dI l (j+1) bs
 | .inr sz::l,j,bs=>nw sz (nth (.box []) bs j)&&dI l (j+1) bs
def ni (an:zX)(pk:Pack):Bool:=nh an.slots 0 pk.vals&&dI an.aq 0 pk.aq
def cQ {α:Type}(nt:Nat)(an:zX)(pk:Pack)(K:St->Option α):Option α:=
 ctl (ni an pk)
  (K ⟨dn an.slots 0 pk.vals (dm .undef nt),fR an.aq 0 pk.aq⟩) none
def ks (B:Pack->Option (Ex×Pack)):Nat->Pack->Option (Ex×Pack)
 |0,_=>none
 |n+1,pk=>(B pk).bind λp=>cond (Ex.iI p.1 .eF) (ks B n p.2) (some p)
open Classical in
noncomputable def oo (B:Pack->Option (Ex×Pack))(pk:Pack):Option (Ex×Pack):=
 if h:∃n,(ks B n pk).isSome then ks B (Classical.choose h) pk else none
set_option linter.unusedVariables false in
noncomputable def lpC (f m:Nat)(fa:List AV)(blk:Nat)(B:Pack->Option (Ex×Pack))(pk:Pack):Option (Ex×Pack):=oo B pk
def nV (i:Nat):List (List PV)->List (Nat×List PV)
 |[]=>[]
 |e::l=>(i,e)::nV (i+1) l
def Yi {α:Type}(B:α->Pack->Option (Ex×Pack)):List α->Pack->Option (Ex×Pack)
 |[],pk=>some (.eF,pk)
 |x::xs,pk=>aj (B x pk) λp=>ctl (Ex.iI p.1 .eF) (Yi B xs p.2) (some p)
set_option linter.unusedVariables false in
noncomputable def rgL (f m:Nat)(fa:List AV)(blk:Nat)(B:Nat×List PV->Pack->Option (Ex×Pack))(xs:List (Nat×List PV))(pk:Pack):Option (Ex×Pack):=Yi B xs pk
def Ju (es:List (List PV)):Bool:=es.all λe=>e.all fA
def IW (p q:Nat)(x:Nat×List PV)(st:St):St:=⟨upd (.t (.p (nth .bN x.2 0))) (upd (.int .i64 x.1) st.slots p) q,st.heap⟩
def aio:List (List (Sh⊕AV)⊕Nat)->Nat
 | .inl _::l=>aio l+1
 |_=>0
def FC (an:zX):Nat:=aio an.aq
def G_ (m:Nat):AV->Bool
 | .t (.p _)=>true
 | .t (.agg _)=>true
 | .t (.ak id)=>Nat.blt id m
 | .t (.ptr id _)=>Nat.blt id m
 | .undef=>true
 |_=>false
def Df (m:Nat)(an:zX):Bool:=Nat.ble m (FC an)&&an.slots.all λx=>match x.2 with| .inr (.inr w)=>G_ (FC an) w|_=>true
def Ow:Op->Bool
 | .defer _=>true
 |_=>false
def j8:Code->Bool
 | .region _ ops _=> !(ops.any λo=>Ow o.op)
 | .seq a b=>j8 a&&j8 b
 | .cond _ a b=>j8 a&&j8 b
 | .block _ b=>j8 b
 | .loop b=>j8 b
 | .rangeFunc _ _ _ _=>false
 |_=>true
def T2 {α:Type}(e:Ex)(K:Option α):Option α:=
 match e with
 | .eF=>K
 |_=>none
noncomputable def cU {α:Type}(m:Nat)(Ii:List (Ex×zX))(K:Ex×Pack->Option α)(e:Ex)(st:St):Option α:=
 match Ii with
 |[]=>none
 |(x,an)::l=>ctl (Ex.iI e x) (rD m an st λpk=>K (x,pk)) (cU m l K e st)
def eU {α:Type}(nt:Nat)(Ii:List (Ex×zX))(p:Ex×Pack)(K:Ex->St->Option α):Option α:=
 match Ii with
 |[]=>none
 |(x,an)::l=>ctl (Ex.iI p.1 x) (cQ nt an p.2 (K x)) (eU nt l p K)
structure Fx where
 E:Env
 F:d_
 f:Nat
 m:Nat
 nt:Nat
 fa:List AV
 I:Inl
def akN:AV->Bool
 | .aj _ _=>true
 | .iG _ _ _=>true
 | .fn _ _=>true
 |_=>false
def HI (args:List AV):List AV:=cond (args.any akN) (args.map λa=>match a with| .fn f c=>.fn f c| .aj f cs=>.aj f cs| .iG f id o=>.iG f id o|_=>.undef) []
def acY:List AV->Option Nat
 |[]=>none
 | .fn f _::_=>some f
 | .aj f _::_=>some f
 | .iG f _ _::_=>some f
 |_::l=>acY l
def Ha (E:Env)(f blk:Nat)(fa:List AV):Option a_:=
 match acY fa with
 |some g=>(match AX f (1000*(g+1)+blk) E.loops with|some la=>some la|none=>AX f blk E.loops)
 |none=>AX f blk E.loops
def Ch (fa:List AV):List (Nat×yw)->List (Nat×yw)
 |[]=>[]
 |(i,.inr (.inr .undef))::l=>(i,.inr (.inr (nth .undef fa i)))::Ch fa l
 |x::l=>x::Ch fa l
def Mm:(List (Sh⊕AV))⊕Nat->Option Nat
 | .inl [.inr (.fn g [])]=>some g
 |_=>none
def DC (g:Nat):List AV->Bool
 |[]=>false
 | .fn f _::l=>cond (Nat.beq f g) true (DC g l)
 | .aj f _::l=>cond (Nat.beq f g) true (DC g l)
 | .iG f _ _::l=>cond (Nat.beq f g) true (DC g l)
 |_::l=>DC g l
def NL:List ((List (Sh⊕AV))⊕Nat)->List ((List (Sh⊕AV))⊕Nat)
 |[]=>[]
 |b::l=>match Mm b with
  |some _=>[]
  |none=>b::NL l
def G4 (fa:List AV):List ((List (Sh⊕AV))⊕Nat)->List ((List (Sh⊕AV))⊕Nat)
 |[]=>[]
 |b::l=>match Mm b with
  |some g=>cond (DC g fa) (NL l) (G4 fa l)
  |none=>G4 fa l
def Yk (fa:List AV)(bs:List ((List (Sh⊕AV))⊕Nat)):List ((List (Sh⊕AV))⊕Nat):=
 match bs with
 |[]=>[]
 |b::l=>match Mm b with
  |some g=>G4 fa (b::l)
  |none=>b::l
def cZ (fa:List AV)(an:zX):zX:=⟨Ch fa an.slots,Yk fa an.aq⟩
def gQ (fa:List AV):List (Ex×zX)->List (Ex×zX)
 |[]=>[]
 |(e,an)::l=>(e,cZ fa an)::gQ fa l
def Wl:Operand->Nat
 | .tmp t=>t
 |_=>0
open Classical in
noncomputable def both {α:Type}(x y:Option α):Option α:=if x=y then x else none
noncomputable def dZ:Fx->Code->Nat->(α:Type)->St->(Ex->St->Option α)->Option α
 |fx,.skip,_,_,st,K=>K .eF st
 |fx,.region id ops draw,_,α,st,K=>
  match Ve fx.E ops draw with
  |none=>Yr fx.E fx.F ops draw (CP fx.E fx.f id st) (K .eF)
  |some (d,g,args)=>EM fx.E fx.F ops draw ops.toList.dropLast (CP fx.E fx.f id st) λbD=>
   fx.I g α (args.map (aS bD.slots)) bD.heap λv h=>K .eF ⟨cq d v bD.slots,h⟩
 |fx,.seq a b,blk,α,st,K=>dZ fx a blk α st λe bD=>
   match e with
   | .eF=>dZ fx b blk α bD K
   | .exit i=>K (.exit i) bD
   | .ret=>K .ret bD
 |fx,.cond c a b,blk,α,st,K=>
  match aS st.slots c with
  | .t (.p (.bool t))=>
   match AX fx.f (Wl c) fx.E.agT with
   |none=>ctl t (dZ fx a blk α st K) (dZ fx b blk α st K)
   |some Ii=>aj (ctl t (dZ fx a blk (Ex×Pack) st (cU fx.m (gQ fx.fa Ii) some)) (dZ fx b blk (Ex×Pack) st (cU fx.m (gQ fx.fa Ii) some))) λp=>eU fx.nt (gQ fx.fa Ii) p K
  | .t (.p .Fp)=>cond (bH fx.f fx.E.qF) (both (dZ fx a blk α st K) (dZ fx b blk α st K)) none
  |_=>none
 |fx,.block id b,_,α,st,K=>dZ fx b id α st λe bD=>
   match e with
   | .eF=>K .eF bD
   | .exit i=>ctl (Nat.beq i id) (K .eF bD) (K (.exit i) bD)
   | .ret=>K .ret bD
 |fx,.loop b,blk,_,st,K=>
  match Ha fx.E fx.f blk fx.fa with
  |none=>none
  |some la=>rD fx.m (cZ fx.fa la.head) (CP fx.E fx.f (1000000+blk) st) λpk=>
    aj (lpC fx.f fx.m fx.fa blk (λpk=>cQ fx.nt (cZ fx.fa la.head) pk λbD=>dZ fx b blk (Ex×Pack) bD (cU fx.m ((.eF,cZ fx.fa la.head)::gQ fx.fa la.fj) some)) pk)
     λp=>eU fx.nt (gQ fx.fa la.fj) p K
 |fx,.exit id,_,_,st,K=>K (.exit id) st
 |fx,.ret,_,_,st,K=>K .ret st
 |fx,.rangeFunc g ps Nr body,blk,_,st,K=>
  match Ha fx.E fx.f blk fx.fa,aS st.slots g,ps.toList with
  |some la,.rev bf es,[p,q]=>
   cond (FD fx.E bf&&(j8 Nr&&(j8 body&&(Nat.blt p fx.nt&&(Nat.blt q fx.nt&&Df fx.m (cZ fx.fa la.head))))))
    (ctl (iW es.length 140737488351232&&Ju es)
     (rD fx.m (cZ fx.fa la.head) st λpk=>
      aj (rgL fx.f fx.m fx.fa blk (λx pk=>cQ fx.nt (cZ fx.fa la.head) pk λrO=>
       dZ ⟨fx.E,fx.F,fx.f,FC (cZ fx.fa la.head),fx.nt,fx.fa,fx.I⟩ Nr blk (Ex×Pack) (IW p q x rO) λe yL=>
        T2 e (dZ ⟨fx.E,fx.F,fx.f,FC (cZ fx.fa la.head),fx.nt,fx.fa,fx.I⟩ body blk (Ex×Pack) yL λe EK=>
         cU fx.m ((.eF,cZ fx.fa la.head)::gQ fx.fa la.fj) some e ⟨rO.slots,EK.heap⟩)) (nV 0 es).reverse pk)
       λp=>ctl (Ex.iI p.1 .eF) (cQ fx.nt (cZ fx.fa la.head) p.2 (K .eF)) (eU fx.nt (gQ fx.fa la.fj) p K))
     none)
    none
  |_,_,_=>none
 |_,_,_,_,_,_=>none
def Ui (P:Program)(look:aJ)(t:TypeId)(id:Nat):Option AV:=
 match look id with
 |some (.box cs)=>match iK cs with
  |some XT=>if mq P t&&dc P t&&Nat.beq cs.length (P.cellsOf t) then some (.bm XT) else none
  |none=>none
 |_=>none
def n9 (P:Program)(slots:List AV)(look:aJ):List ResultVar->Option (List AV)
 |[]=>some []
 | .tmp t::l=>match n9 P slots look l with|some r=>some (nth .undef slots t::r)|none=>none
 | .cell a t::l=>
  match n9 P slots look l,nth .undef slots a with
  |some r,.t (.ptr id 0)=>match xA P look t (.t (.ptr id 0)) (λv us=>if us.isEmpty then some v else none)with
   |some v=>some (v::r)
   |none=>match Ui P look t id with|some v=>some (v::r)|none=>none
  |_,_=>none
def Of:List AV->Option AV
 |[v]=>some v
 |vs=>match iK vs with|some l=>some (.XU l)|none=>none
noncomputable def xN (E:Env)(F:d_):Nat->Inl
 |0=>λ_ _ _ _ _=>none
 |n+1=>λg α args h K=>
  match E.P.funcs[g]? with
  |none=>none
  |some fn=>
   match fn.body with
   |none=>none
   |some c=>
    dZ ⟨E,F,g,h.length,fn.ntmps,HI args,xN E F n⟩ c 0 α ⟨args++dm .undef (fn.ntmps-args.length),h⟩ λe bD=>
     match e with
     | .exit _=>none
     |_=>
      match n9 E.P bD.slots (cw bD.heap) fn.results.toList with
      |some vs=>match Of vs with|some v=>K v bD.heap|none=>none
      |none=>none
def iR (blk:Nat):Code->Option Code
 | .seq a b=>match iR blk a with|some c=>some c|none=>iR blk b
 | .cond _ a b=>match iR blk a with|some c=>some c|none=>iR blk b
 | .block id (.loop b)=>cond (Nat.beq id blk) (some b) (iR blk b)
 | .block _ b=>iR blk b
 | .loop b=>iR blk b
 | .rangeFunc _ _ a b=>match iR blk a with|some c=>some c|none=>iR blk b
 |_=>none
def Uh (E:Env)(f blk:Nat)(fa:List AV):Option (Code×Nat×a_):=
 match bH f E.qF,E.P.funcs[f]?,Ha E f blk fa with
 |false,some fn,some la=>match fn.body with
  |some c=>match iR blk c with|some b=>some (b,fn.ntmps,la)|none=>none
  |none=>none
 |_,_,_=>none
noncomputable def yV (E:Env)(F:d_)(f m:Nat)(fa:List AV)(blk:Nat){α:Type}(pk:Pack)(K:Ex×Pack->Option α):Option α:=
 match Uh E f blk fa with
 |some (b,nt,la)=>cQ nt (cZ fa la.head) pk λbD=>dZ ⟨E,F,f,m,nt,fa,xN E F 3⟩ b blk α bD (cU m ((.eF,cZ fa la.head)::gQ fa la.fj) K)
 |none=>none
noncomputable def lp (E:Env)(F:d_)(f m:Nat)(fa:List AV)(blk:Nat)(pk:Pack):Option (Ex×Pack):=
 oo (λpk=>yV E F f m fa blk pk some) pk
def kO (blk:Nat):Code->Option (Array Nat×Code×Code)
 | .seq a b=>match kO blk a with|some c=>some c|none=>kO blk b
 | .cond _ a b=>match kO blk a with|some c=>some c|none=>kO blk b
 | .block id (.rangeFunc _ ps a b)=>cond (Nat.beq id blk) (some (ps,a,b)) none
 | .block _ b=>kO blk b
 | .loop b=>kO blk b
 |_=>none
def Yu (E:Env)(f blk:Nat)(fa:List AV):Option (Nat×Nat×Code×Code×Nat×a_):=
 match bH f E.qF,E.P.funcs[f]?,Ha E f blk fa with
 |false,some fn,some la=>match fn.body with
  |some c=>match kO blk c with
   |some (ps,a,b)=>match ps.toList with|[p,q]=>some (p,q,a,b,fn.ntmps,la)|_=>none
   |none=>none
  |none=>none
 |_,_,_=>none
noncomputable def qp (E:Env)(F:d_)(f m:Nat)(fa:List AV)(blk:Nat){α:Type}(x:Nat×List PV)(pk:Pack)(K:Ex×Pack->Option α):Option α:=
 match Yu E f blk fa with
 |some (p,q,a,b,nt,la)=>cQ nt (cZ fa la.head) pk λrO=>
  dZ ⟨E,F,f,FC (cZ fa la.head),nt,fa,xN E F 3⟩ a blk α (IW p q x rO) λe yL=>
   T2 e (dZ ⟨E,F,f,FC (cZ fa la.head),nt,fa,xN E F 3⟩ b blk α yL λe EK=>
    cU m ((.eF,cZ fa la.head)::gQ fa la.fj) K e ⟨rO.slots,EK.heap⟩)
 |none=>none
noncomputable def rg (E:Env)(F:d_)(f m:Nat)(fa:List AV)(blk:Nat)(xs:List (Nat×List PV))(pk:Pack):Option (Ex×Pack):=
 Yi (λx pk=>qp E F f m fa blk x pk some) xs pk
def B5 (m:Nat)(look:aJ):List Im->List TV->Option (List RC×(List Nat×List (Option Nat)))
 |[],[]=>some ([],([],[]))
 |s::ss,v::vs=>
  match B5 m look ss vs with
  |none=>none
  |some (r,(fz,ow))=>
   match s,v with
   | .pl _,.p v=>some (.p v::r,(fz,ow))
   | .pl (.sl _),.ak id=>match look id with|some (.arr sz es)=>some (.p (.sl sz es)::r,(id::fz,ow))|_=>none
   | .ow _,.ak id=>match look id with|some (.arr sz es)=>if Nat.ble m id then some (.own sz es::r,(fz,some id::ow)) else none|_=>none
   | .ow sz,.p .bN=>some (.own sz []::r,(fz,none::ow))
   |_,_=>none
 |_,_=>none
def Lp:AV->Option (List TV)
 | .t (.agg cs)=>some (cs.map TV.p)
 | .bm vs=>some vs
 |_=>none
def IK (m:Nat)(look:aJ):List uI->List AV->Option (List RV×(List Nat×List (Option Nat)))
 |[],[]=>some ([],([],[]))
 |r::l,a::af=>
  match IK m look l af with
  |none=>none
  |some (rs,(fz,ow))=>
   match r,a with
   | .one (.sl sz),.t (.p .bN)=>some (.p (.sl sz [])::rs,(fz,ow))
   | .one _,.t (.p v)=>some (.p v::rs,(fz,ow))
   | .one (.sl _),.t (.ak id)=>match look id with|some (.arr sz es)=>some (.p (.sl sz es)::rs,(id::fz,ow))|_=>none
   | .agg _,.t (.agg cs)=>some (.agg cs::rs,(fz,ow))
   | .agg _,.bm vs=>match kH look vs with|some (cs,us)=>some (.agg cs::rs,(us.map Prod.fst++fz,ow))|none=>none
   | .own _,.t (.ak id)=>match look id with|some (.arr sz es)=>if Nat.ble m id then some (.own sz es::rs,(fz,some id::ow)) else none|_=>none
   | .own sz,.t (.p .bN)=>some (.own sz []::rs,(fz,none::ow))
   | .kI ss,.t (.ptr id 0)=>match look id with
    |some (.box cs)=>if Nat.ble m id then match iK cs with
     |some vs=>match B5 m look (ss.map Im.pl) vs with|some (rcs,(EI,[]))=>some (.kI (rcs.map RC.dC)::rs,(EI++fz,some id::ow))|_=>none
     |none=>none else none
    |_=>none
   | .bm ss,a=>match Lp a with
    |some vs=>match B5 m look ss vs with|some (cs,(EI,zi))=>some (.bm cs::rs,(EI++fz,zi++ow))|none=>none
    |none=>none
   | .nU ss,.t (.ptr id 0)=>match look id with
    |some (.box cs)=>if Nat.ble m id then match iK cs with
     |some vs=>match B5 m look ss vs with|some (cs,(EI,zi))=>some (.nU cs::rs,(EI++fz,some id::(zi++ow)))|none=>none
     |none=>none else none
    |_=>none
   |_,_=>none
 |_,_=>none
def Oa (m:Nat):TV->Bool
 | .ptr j _=>Nat.blt j m
 |_=>false
def uZ (m:Nat)(look:aJ):Nat->List AV->List AV->Option (List AV×(List Nat×List (Option Nat)))
 |_,[],[]=>some ([],([],[]))
 |k,g::gs,c::cs=>
  match g with
  | .t (.ak j)=>
   match uZ m look (k+1) gs cs with
   |some (ds,(fz,ow))=>
    (match c with
    | .t (.ak id)=>cond (Nat.beq j k) (some (.t (.ak k)::ds,(fz,some id::ow))) none
    | .t (.p .bN)=>cond (Nat.beq j k) (some (.t (.ak k)::ds,(fz,none::ow))) none
    |_=>none)
   |none=>none
  | .t (.ptr j o)=>
   match uZ m look k gs cs with
   |some (ds,r)=>cond (Nat.blt j m&&aD (.t (.ptr j o)) c) (some (.t (.ptr j o)::ds,r)) none
   |none=>none
  | .fn f l=>
   match uZ m look k gs cs with
   |some (ds,r)=>cond (l.all (Oa m)&&aD (.fn f l) c) (some (.fn f l::ds,r)) none
   |none=>none
  | .t (.p _)=>
   match uZ m look k gs cs with
   |some (ds,(fz,ow))=>match c with
    | .t (.p v)=>some (.t (.p v)::ds,(fz,ow))
    | .t (.ak id)=>(match look id with|some (.arr sz es)=>some (.t (.p (.sl sz es))::ds,(id::fz,ow))|_=>none)
    |_=>none
   |none=>none
  |_=>none
 |_,_,_=>none
def wP (m:Nat)(look:aJ):Nat->Nat->List au->Option (List au×(List Nat×List (Option Nat)))
 |_,_,[]=>some ([],([],[]))
 |j,k,g::gs=>
  match g with
  | .arr _ _=>
   match look j,wP m look (j+1) k gs with
   |some (.arr sz es),some (bs,r)=>some (.arr sz es::bs,r)
   |_,_=>none
  | .box ds=>
   match look j,wP m look (j+1) (k+(ds.flatMap ZY).length) gs with
   |some (.box cs),some (bs,(fz,ow))=>match uZ m look k ds cs with
    |some (af,(EI,zi))=>cond (Nat.beq zi.length (ds.flatMap ZY).length) (some (.box af::bs,(EI++fz,zi++ow))) none
    |none=>none
   |_,_=>none
  | .tab _ _ _=>none
def q_ (look:aJ):List (Option Nat)->List au->Option (List au)
 |[],[]=>some []
 |x::l,b::bs=>
  match b,q_ look l bs with
  | .arr sz _,some r=>match x with
   |some id=>match look id with|some (.arr nN es)=>some (.arr nN es::r)|_=>none
   |none=>some (.arr sz []::r)
  |_,_=>none
 |_,_=>none
def fY:List (Option Nat)->List Nat
 |[]=>[]
 |some x::l=>x::fY l
 |none::l=>fY l
def aeZ (E:Env)(f:Nat)(hs:List au)(fn:Func)(e:Ex)(st:St):Option gv:=
 match e with
 | .exit _=>none
 |_=>
  match Sm E f 0 fn.resultTypes.toList,n9 E.P st.slots (cw st.heap) fn.results.toList with
  |some rsh,some vs=>
   match IK (ku hs) (cw st.heap) rsh vs,wP (ku hs) (cw st.heap) 0 (ku hs) (hs.take (ku hs))with
   |some (rs,(fz,ow)),some (bs,(EI,zi))=>
    match q_ (cw st.heap) zi (hs.drop (ku hs))with
    |some is=>
     if C9 (fz++(EI++(fY zi++fY ow)))&&(fz++(EI++(fY zi++fY ow))).all (λid=>Nat.ble (ku hs) id) then some (rs,bs++is) else none
    |none=>none
   |_,_=>none
  |_,_=>none
noncomputable def aI (E:Env)(F:d_)(f:Nat)(args:List AV)(hs:List au):Option gv:=
 match iA f E.Oc with
 |some p=>(match hs with
  |[]=>(match p.run F args with|some rs=>some (rs,[])|none=>none)
  |_::_=>none)
 |none=>
 match E.P.funcs[f]? with
 |none=>none
 |some fn=>
  match fn.body with
  |none=>none
  |some c=>
   dZ ⟨E,F,f,ku hs,fn.ntmps,HI args,xN E F 3⟩ c 0 gv ⟨args++dm .undef (fn.ntmps-args.length),hs.map bw.blk⟩ (aeZ E f hs fn)
def Clo (E:Env)(S:Nat->List AV->List au->gv->Prop):Prop:=
 ∀F:d_,(∀f a h r,F f a h=some r->S f a h r)->∀f a h r,aI E F f a h=some r->S f a h r
def RR (E:Env)(f:Nat)(a:List AV)(h:List au)(r:gv):Prop:=∀S,Clo E S->S f a h r
open Classical in
noncomputable def denC (E:Env):d_:=λf args hs=>
 if h:∃r,RR E f args hs r then some (Classical.choose h) else none
def nG:Nat:=0
def acX (h:Nat->Option Obj):Prop:=True
section
section nat
variable {α β γ:Type}
theorem bY (b:Bool)(x y:Option α)(f:α->Option β):(ctl b x y).bind f=ctl b (x.bind f) (y.bind f):=by cases b<;>rfl
theorem ay (x y:Option α):ctl true x y=x:=rfl
theorem aF (x y:Option α):ctl false x y=y:=rfl
theorem p8 (x:Option α)(g:α->Option β)(f:β->Option γ):(aj x g).bind f=aj x (λv=>(g v).bind f):=by cases x<;>rfl
theorem nJ (v:α)(g:α->Option β):aj (some v) g=g v:=rfl
theorem Qy (es:List (List PV))(i:Int)(K:List PV->Option α)(f:α->Option β):(aG es i K).bind f=aG es i λe=>(K e).bind f:=by
 unfold aG;rw[bY];rfl
abbrev P2:=AV×cD
def two:Step P2:=λv us=>some (v,us)
theorem D9 (i:Int):∀(n j:Nat) (K:Nat->Option α) (f:α->Option β),(tB i j n K).bind f=tB i j n λk=>(K k).bind f
 |0,_,_,_=>rfl
 |n+1,j,K,f=>by
  show(ctl _ _ _).bind f=ctl _ _ _;rw[bY,D9 i n]
theorem yo (P:Program)(op:BinOp)(xt:TypeId)(x y:AV)(K:PV->Option α)(f:α->Option β):
  (H8 P op xt x y K).bind f=H8 P op xt x y λv=>(K v).bind f:=by
 unfold H8
 repeat' (first|rfl|(rw[bY];rfl)|split)
theorem FZ (P:Program)(look:aJ)(t:TypeId)(a:AV)(K:Step α)(f:α->Option β):
  (xA P look t a K).bind f=xA P look t a λv us=>(K v us).bind f:=by
 unfold xA
 repeat' (first|rfl|(rw[bY];congr 1;split<;>rfl)|split)
theorem LC (P:Program)(look:aJ)(t:TypeId)(a v:AV)(K:Step α)(f:α->Option β):
  (sA P look t a v K).bind f=sA P look t a v λv us=>(K v us).bind f:=by
 unfold sA
 repeat' (first|rfl|split)
theorem Dr (P:Program)(look:aJ)(t:TypeId)(x ix:AV)(K:Step α)(f:α->Option β):
  (gY P look t x ix K).bind f=gY P look t x ix λv us=>(K v us).bind f:=by
 unfold gY
 repeat' (first|rfl|(rw[Qy];congr 1;funext e;rw[bY];rfl)|(rw[bY];rfl)|(rw[D9])|split)
theorem Mx (P:Program)(t:TypeId)(x ix:AV)(K:Step α)(f:α->Option β):
 (Dq P t x ix K).bind f=Dq P t x ix λv us=>(K v us).bind f:=rfl
theorem LH (P:Program)(look:aJ)(t:TypeId)(x:AV)(lo hi:Option Int)(K:Step α)(f:α->Option β):
  (sF P look t x lo hi K).bind f=sF P look t x lo hi λv us=>(K v us).bind f:=by
 unfold sF
 repeat' (first|rfl|(rw[bY];rfl)|split)
theorem KV (P:Program)(look:aJ)(nid:Nat)(ts:List TypeId)(s x:AV)(K:Step α)(f:α->Option β):
  (oJ P look nid ts s x K).bind f=oJ P look nid ts s x λv us=>(K v us).bind f:=by
 unfold oJ
 repeat' (first|rfl|(rw[bY];rfl)|split)
theorem De (P:Program)(nid:Nat)(t:TypeId)(l c:AV)(K:Step α)(f:α->Option β):
  (gU P nid t l c K).bind f=gU P nid t l c λv us=>(K v us).bind f:=by
 unfold gU
 repeat' (first|rfl|(rw[bY];rfl)|split)
theorem HQ (P:Program)(look:aJ)(nid:Nat)(src dst:TypeId)(x:AV)(K:Step α)(f:α->Option β):
 (x_ P look nid src dst x K).bind f=x_ P look nid src dst x λv us=>(K v us).bind f:=rfl
theorem D7 (b:Bool)(x y:Option α)(x' y':Option β)(f:α->Option β)(h1:x.bind f=x')(h2:y.bind f=y'):(cond b x y).bind f=cond b x' y':=by
 cases b
 ·exact h2
 ·exact h1
theorem T6 (P:Program)(op:BinOp)(xt:TypeId)(x:AV)(K:PV->Option α)(f:α->Option β):
 (YT P op xt x K).bind f=YT P op xt x λv=>(K v).bind f:=rfl
theorem H5 (P:Program)(look:aJ)(nid:Nat)(b:Builtin)(ts:List TypeId)(args:List AV)(K:Step α)(f:α->Option β):
  (nI P look nid b ts args K).bind f=nI P look nid b ts args λv us=>(K v us).bind f:=by
 unfold nI
 repeat' (first|rfl|exact KV .. |(rw[bY];rfl)|split)
theorem XS (op:UnOp)(x:AV)(K:Step α)(f:α->Option β):(unK op x K).bind f=unK op x λv us=>(K v us).bind f:=by
 unfold unK
 repeat' (first|rfl|split)
theorem QF (P:Program)(look:aJ)(nid:Nat)(op:Op)(ev:Operand->AV)(K:Step α)(f:α->Option β):
  (gZ P look nid op ev K).bind f=gZ P look nid op ev λv us=>(K v us).bind f:=by
 unfold gZ
 repeat' (first|rfl|exact FZ .. |exact LC .. |exact yo .. |exact D7 _ _ _ _ _ _ (T6 ..) (yo ..)|exact XS .. |exact HQ .. |exact De .. |exact LH .. |exact Dr .. |exact Mx .. |exact H5 .. |(rw[bY];done)|(rw[bY];rfl)|split)
theorem RO (P:Program)(look:aJ)(nid:Nat)(op:Op)(ev:Operand->AV)(K:Step α)(f:α->Option β):
 (uK P look nid op ev K).bind f=uK P look nid op ev λv us=>(K v us).bind f:=rfl
theorem vY (P:Program)(look:aJ)(nid:Nat)(op:Op)(ev:Operand->AV)(K:Step α)(f:α->Option β):
  (eD P look nid op ev K).bind f=eD P look nid op ev λv us=>(K v us).bind f:=
 D7 _ _ _ _ _ _ (RO ..) (QF ..)
theorem zN (E:Env)(F:d_)(look:aJ)(nid:Nat)(g:Nat)(args:List AV)(K:Step α)(f:α->Option β):
  (tC E F look nid g args K).bind f=tC E F look nid g args λv us=>(K v us).bind f:=by
 unfold tC
 repeat' (first|rfl|(rw[p8];congr 1;funext r;rw[bY];rfl)|split|(dsimp only;split))
theorem QO (E:Env)(F:d_)(look:aJ)(nid:Nat)(g:Nat)(args:List AV)(K:Step α)(f:α->Option β):
 (yg E F look nid g args K).bind f=yg E F look nid g args λv us=>(K v us).bind f:=zN ..
theorem NT (E:Env)(F:d_)(look:aJ)(args:Bool->List AV)(f:α->Option β):∀(gs:List (Nat×Bool×Sh)) (acc:List PV) (K:List PV->Option α),
  (Q4 E F look args gs acc K).bind f=Q4 E F look args gs acc λvs=>(K vs).bind f
 |[],acc,K=>rfl
 |(g,fu,s)::l,acc,K=>by
  unfold Q4;split
  ·split
   ·rw[p8];congr 1;funext r;rw[bY,NT E F look args f l];rfl
   ·rfl
  ·rfl
theorem Yg (E:Env)(F:d_)(look:aJ)(g:Nat)(p:Ey)(args:List AV)(K:Step α)(f:α->Option β):
  (roK E F look g p args K).bind f=roK E F look g p args λv us=>(K v us).bind f:=by
 unfold roK;split
 ·split
  ·split
   ·rw[NT];congr 1;funext vs;rw[bY];rfl
   ·rfl
  ·rfl
 ·rfl
theorem QP (E:Env)(F:d_)(look:aJ)(nid:Nat)(g:Nat)(args:List AV)(K:Step α)(f:α->Option β):
  (nD E F look nid g args K).bind f=nD E F look nid g args λv us=>(K v us).bind f:=by
 unfold nD;split
 ·exact Yg ..
 ·exact QO ..
theorem Dv (k:EB)(look:aJ)(nid:Nat)(args:List AV)(K:Step α)(f:α->Option β):
  (Bn k look nid args K).bind f=Bn k look nid args λv us=>(K v us).bind f:=by
 unfold Bn
 repeat' (first|rfl|(rw[bY];done)|(rw[bY];rfl)|split)
theorem tZ (E:Env)(F:d_)(look:aJ)(nid:Nat)(op:Op)(ev:Operand->AV)(K:Step α)(f:α->Option β):
  (qa E F look nid op ev K).bind f=qa E F look nid op ev λv us=>(K v us).bind f:=by
 unfold qa
 repeat' (first|rfl|exact QP .. |exact vY .. |exact Dv .. |split)
theorem BX (E:Env)(F:d_)(dr:Bool)(nid:Nat)(o:Oper)(st:St)(K:AV->cD->List Nat->Bool->Option α)(f:α->Option β):
  (mm E F dr nid o st K).bind f=mm E F dr nid o st λv us fp w=>(K v us fp w).bind f:=by
 unfold mm;split
 ·cases dr
  ·exact tZ ..
  ·dsimp only;rw[tZ];congr 1;funext v us;split<;>rfl
 ·rfl
theorem Pm (cx:Cx)(i nid:Nat)(o:Oper)(pu:Bool)(st:St)(lg:Log)(K:St->Log->Option α)(f:α->Option β):
  (lr cx i nid o pu st lg K).bind f=lr cx i nid o pu st lg λbD pj=>(K bD pj).bind f:=by
 unfold lr;rw[BX];congr 1;funext v us fp w;split<;>rfl
theorem IY (cx:Cx)(f:α->Option β):∀(n:Nat) (pu:Bool) (i nid:Nat) (ops:List Oper) (st:St) (lg:Log) (K:St->Log->Option α),
  (kB cx n α pu i nid ops st lg K).bind f=kB cx n β pu i nid ops st lg λbD pj=>(K bD pj).bind f
 |0,_,_,_,[],_,_,_=>rfl
 |_+1,_,_,_,[],_,_,_=>rfl
 |0,_,_,_,_::_,_,_,_=>rfl
 |n+1,pu,i,nid,o::rest,st,lg,K=>by
  have ih:=IY cx f n;have ih1:∀(i nid:Nat) (o:Oper) (st:St) (lg:Log) (pu:Bool) (j ad2:Nat) (l:List Oper),(lr cx i nid o pu st lg λbD pj=>kB cx n α pu j ad2 l bD pj K).bind f
    =lr cx i nid o pu st lg λbD pj=>kB cx n β pu j ad2 l bD pj λbD pj=>(K bD pj).bind f:=by
   intro i nid o st lg pu j ad2 l;rw[Pm];congr 1;funext bD pj;exact ih _ _ _ _ _ _ _
  simp only[kB];split
  ·exact ih1 _ _ _ _ _ _ _ _ _
  ·split
   ·rfl
   ·split
    ·exact ih _ _ _ _ _ _ _
    ·split
     ·split
      ·split
       ·rw[p8];congr 1;funext v;exact ih _ _ _ _ _ _ _
       ·rfl
      ·rw[bY,ih1,ih]
     ·rw[bY,ih1,ih]
    ·rfl
theorem I4 (E:Env)(F:d_)(ops:Array Oper)(draw:Bool)(l:List Oper)(st:St)(K:St->Option α)(f:α->Option β):
  (EM E F ops draw l st K).bind f=EM E F ops draw l st λbD=>(K bD).bind f:=by
 unfold EM;dsimp only;split
 ·rw[IY]
 ·rfl
theorem Sn (E:Env)(F:d_)(ops:Array Oper)(draw:Bool)(st:St)(K:St->Option α)(f:α->Option β):
 (Yr E F ops draw st K).bind f=Yr E F ops draw st λbD=>(K bD).bind f:=I4 ..
theorem Dn {E:Env}{ops:Array Oper}{draw:Bool}{d:Option Nat}{g:Nat}{args:List Operand}(h:Ve E ops draw=some (d,g,args)):
  ∃o af ats,Ot ops.toList=some o/\o.guard=none/\o.op=.call {callee:=.value (.func g),args:=af,argTypes:=ats}/\o.dst=d/\args=af.toList/\bH g E.inl=true/\bH g E.v_=true/\bH g E.qF=false/\
   (draw=true->uH ((Region.before ops).getD (ops.size-1) 0) (ops.size-1)=true):=by
 unfold Ve at h;split at h
 ·rename_i o ho;split at h
  ·rename_i g' af ats hg hop;cases hc:bH g' E.inl&&(bH g' E.v_&&(!bH g' E.qF&&(!draw||uH ((Region.before ops).getD (ops.size-1) 0) (ops.size-1))))with
   |false=>rw[hc]at h;cases h
   |true=>
    rw[hc]at h;cases h;simp only[bO,oQ,wZ]at hc;refine⟨o,af,ats,ho,hg,hop,rfl,rfl,hc.1,hc.2.1,hc.2.2.1,λhd=> ?_⟩;rcases hc.2.2.2 with h1|h1
    ·rw[hd]at h1;cases h1
    ·exact h1
  ·cases h
 ·cases h
def aiD (E:Env)(I:Inl):Prop:=∀(g:Nat) (α β:Type) (args:List AV) (h:List bw) (K:AV->List bw->Option α) (f:α->Option β),bH g E.qF=false->
 (I g α args h K).bind f=I g β args h λv h=>(K v h).bind f
theorem jw (m:Nat)(an:zX)(st:St)(K:Pack->Option α)(f:α->Option β):
  (rD m an st K).bind f=rD m an st λpk=>(K pk).bind f:=by
 unfold rD
 repeat' (first|rfl|(rw[bY];done)|(rw[bY];rfl)|split)
theorem sq (nt:Nat)(an:zX)(pk:Pack)(K:St->Option α)(f:α->Option β):
  (cQ nt an pk K).bind f=cQ nt an pk λst=>(K st).bind f:=by
 unfold cQ;rw[bY];rfl
theorem CS (m:Nat):∀(Ii:List (Ex×zX)) (K:Ex×Pack->Option α) (e:Ex) (st:St) (f:α->Option β),
  (cU m Ii K e st).bind f=cU m Ii (λp=>(K p).bind f) e st
 |[],_,_,_,_=>rfl
 |(x,an)::l,K,e,st,f=>by
  show(ctl _ _ _).bind f=ctl _ _ _;rw[bY,CS m l,jw]
theorem dK (nt:Nat):∀(Ii:List (Ex×zX)) (p:Ex×Pack) (K:Ex->St->Option α) (f:α->Option β),
  (eU nt Ii p K).bind f=eU nt Ii p λe st=>(K e st).bind f
 |[],_,_,_=>rfl
 |(x,an)::l,p,K,f=>by
  show(ctl _ _ _).bind f=ctl _ _ _;rw[bY,dK nt l,sq]
theorem Sj {γ:Type}{B B':γ->Pack->Option (Ex×Pack)}(h:∀x pk q,B x pk=some q->B' x pk=some q):∀(xs:List γ) (pk:Pack) (q:Ex×Pack),Yi B xs pk=some q->Yi B' xs pk=some q
 |[],_,_,hq=>hq
 |x::xs,pk,q,hq=>by
  simp only[Yi,aj]at hq|-;obtain⟨p,hp,hq⟩:=gI.1 hq;rw[h _ _ _ hp];simp only[oP];cases he:Ex.iI p.1 .eF with
  |true=>rw[he]at hq;exact Sj h xs _ _ hq
  |false=>rw[he]at hq;exact hq
theorem Kj (fx:Fx)(hnf:bH fx.f fx.E.qF=false)(hI:aiD fx.E fx.I)(f:α->Option β):∀(c:Code) (blk:Nat) (st:St) (K:Ex->St->Option α),
  (dZ fx c blk α st K).bind f=dZ fx c blk β st λe bD=>(K e bD).bind f:=by
 intro c
 induction c with
 |skip=>intros;rfl
 |region id ops draw=>
  intro blk st K;simp only[dZ];split
  ·exact Sn ..
  ·rename_i d g args hi;obtain⟨_,_,_,_,_,_,_,_,_,_,hg,_⟩:=Dn hi;rw[I4];congr 1;funext bD;exact hI g _ _ _ _ _ _ hg
 |seq a b Qk Qj=>
  intro blk st K;simp only[dZ];rw[Qk];congr 1;funext e bD;cases e<;>first|rfl|exact Qj ..
 |cond c a b Qk Qj=>
  intro blk st K;simp only[dZ];split
  ·split
   ·rw[bY,Qk,Qj]
   ·rw[p8];congr 1;funext p;exact dK ..
  ·rw[hnf];rfl
  ·rfl
 |block id b ih=>
  intro blk st K;simp only[dZ];rw[ih];congr 1;funext e bD;cases e<;>first|rfl|(dsimp only;rw[bY])
 |loop b ih=>
  intro blk st K;simp only[dZ];split
  ·rfl
  ·rw[jw];congr 1;funext pk;rw[p8];congr 1;funext p;exact dK ..
 |exit id=>intros;rfl
 |ret=>intros;rfl
 |rangeFunc g p a b=>
  intro blk st K;simp only[dZ];split
  ·refine D7 _ _ _ _ _ _ ?_ rfl;rw[bY];congr 1;rw[jw];congr 1;funext pk;rw[p8];congr 1;funext p;rw[bY,sq,dK]
  ·rfl
 |scope b=>intros;rfl
 |label l=>intros;rfl
 |goto l=>intros;rfl
 |refuse w=>intros;rfl
end nat
theorem JT (E:Env)(F:d_):∀n,aiD E (xN E F n)
 |0=>λ_ _ _ _ _ _ _ _=>rfl
 |n+1=>λg α β args h K f hnf=>by
  simp only[xN];split
  ·rfl
  ·split
   ·rfl
   ·rw[Kj _ hnf (JT E F n)];congr 1;funext e bD;cases e<;>first|rfl|(dsimp only;repeat' (first|rfl|split))
theorem LP (E:Env)(F:d_)(f m:Nat)(fa:List AV)(blk:Nat){α β:Type}(pk:Pack)(K:Ex×Pack->Option α)(g:α->Option β):
  (yV E F f m fa blk pk K).bind g=yV E F f m fa blk pk λp=>(K p).bind g:=by
 unfold yV;split
 ·rename_i b nt la Hu;have hnf:bH f E.qF=false:=by
   unfold Uh at Hu;split at Hu
   ·rename_i h0 _ _;exact h0
   ·cases Hu
  rw[sq];congr 1;funext bD;rw[Kj _ hnf (JT E F 3)];congr 1;funext e agd;exact CS ..
 ·rfl
theorem wo (B:Pack->Option (Ex×Pack)):∀(n:Nat) (pk:Pack) (r:Ex×Pack),ks B n pk=some r->∀k,n<=k->ks B k pk=some r
 |0,_,_,h,_,_=>by cases h
 |n+1,pk,r,h,0,hk=>by omega
 |n+1,pk,r,h,k+1,hk=>by
  simp only[ks]at h|-;cases hb:B pk with
  |none=>rw[hb]at h;cases h
  |some p=>
   rw[hb]at h;simp only[oP]at h|-;cases he:Ex.iI p.1 .eF with
   |true=>rw[he]at h;exact wo B n _ r h k (by omega)
   |false=>rw[he]at h;exact h
theorem xy (B:Pack->Option (Ex×Pack)){n:Nat}{pk:Pack}{r:Ex×Pack}(h:ks B n pk=some r):oo B pk=some r:=by
 have hx:∃n,(ks B n pk).isSome:=⟨n,by rw[h];rfl⟩
 unfold oo;rw[dif_pos hx];have h2:=Jg hx;obtain⟨r2,hr2⟩:=Option.isSome_iff_exists.1 h2;rcases Nat.le_total n (Classical.choose hx)with hl|hl
 ·exact wo B _ _ _ h _ hl
 ·rw[hr2,<-wo B _ _ _ hr2 _ hl,h]
theorem nr (B:Pack->Option (Ex×Pack)){pk:Pack}{r:Ex×Pack}(h:oo B pk=some r):∃n,ks B n pk=some r:=by
 unfold oo at h;split at h
 ·exact⟨_,h⟩
 ·cases h
theorem G' (B:Pack->Option (Ex×Pack))(pk:Pack):oo B pk=(B pk).bind λp=>ctl (Ex.iI p.1 .eF) (oo B p.2) (some p):=by
 cases hb:B pk with
 |none=>
  simp only[Option.bind_none];cases hl:oo B pk with
  |none=>rfl
  |some r=>
   obtain⟨n,hn⟩:=nr B hl;cases n with
   |zero=>cases hn
   |succ n=>simp[ks,hb]at hn
 |some p=>
  simp only[oP];cases he:Ex.iI p.1 .eF with
  |false=>
   refine xy (n:=1) B ?_;simp[ks,hb,he]
  |true=>
   show oo B pk=oo B p.2;cases hl:oo B p.2 with
   |some r=>
    obtain⟨n,hn⟩:=nr B hl;refine xy (n:=n+1) B ?_;simp[ks,hb,he,hn]
   |none=>
    cases hl2:oo B pk with
    |none=>rfl
    |some r=>
     obtain⟨n,hn⟩:=nr B hl2;cases n with
     |zero=>cases hn
     |succ n=>
      simp[ks,hb,he]at hn;rw[xy B hn]at hl;cases hl
theorem Qb (E:Env)(F:d_)(f m:Nat)(fa:List AV)(blk:Nat)(pk:Pack):
  lp E F f m fa blk pk=yV E F f m fa blk pk λp=>ctl (Ex.iI p.1 .eF) (lp E F f m fa blk p.2) (some p):=by
 show oo _ pk=_;rw[G',LP];rfl
def LeF (F G:d_):Prop:=∀f args hs r,F f args hs=some r->G f args hs=some r
theorem kR {α:Type}{b:Bool}{x y x' y':Option α}{r:α}(h:ctl b x y=some r)(h1:x=some r->x'=some r)(h2:y=some r->y'=some r):ctl b x' y'=some r:=by
 cases b
 ·exact h2 h
 ·exact h1 h
theorem Gs {α:Type}{x y:Option α}{r:α}(h:both x y=some r):x=some r/\y=some r:=by
 unfold both at h;split at h
 ·rename_i he;exact⟨h,he▸h⟩
 ·cases h
theorem aaW {α:Type}{x y:Option α}{r:α}(h1:x=some r)(h2:y=some r):both x y=some r:=by
 unfold both;rw[h1,h2,aK rfl]
theorem mQ {α:Type}(x:Option α):both x x=x:=by unfold both;rw[aK rfl]
section mono
variable {F G:d_} (EH:LeF F G)
include EH
theorem Wv {α:Type}(E:Env)(look:aJ)(nid g:Nat)(args:List AV)(K K':Step α)(r:α)(hK:∀v us,K v us=some r->K' v us=some r)
  (h:tC E F look nid g args K=some r):tC E G look nid g args K'=some r:=by
 unfold tC at h|-;split at h
 ·rename_i h0;rw[aK h0];split at h
  ·cases h
  ·split at h
   ·cases h
   ·dsimp only at h|-;split at h
    ·split at h
     ·rename_i h1;rw[aK h1];unfold aj at h|-;obtain⟨q,hq,hr⟩:=gI.1 h;rw[EH _ _ _ _ hq];exact kR hr (hK _ _) (λh=>h)
     ·cases h
    ·cases h
 ·cases h
theorem Ww {α:Type}(E:Env)(look:aJ)(nid g:Nat)(args:List AV)(K K':Step α)(r:α)(hK:∀v us,K v us=some r->K' v us=some r)
 (h:yg E F look nid g args K=some r):yg E G look nid g args K'=some r:=Wv EH _ _ _ _ _ _ _ _ (λv _=>hK v _) h
theorem Sg {α:Type}(E:Env)(look:aJ)(args:Bool->List AV)(r:α):∀(gs:List (Nat×Bool×Sh)) (acc:List PV) (K K':List PV->Option α),(∀vs,K vs=some r->K' vs=some r)->Q4 E F look args gs acc K=some r->Q4 E G look args gs acc K'=some r
 |[],acc,K,K',hK,h=>hK _ h
 |(g,fu,s)::l,acc,K,K',hK,h=>by
  unfold Q4 at h|-;split at h
  ·rename_i h0;rw[aK h0];split at h
   ·unfold aj at h|-;obtain⟨q,hq,hr⟩:=gI.1 h;rw[EH _ _ _ _ hq];exact kR hr (Sg E look args r l _ K K' hK) (λh=>h)
   ·cases h
  ·cases h
theorem yh {α:Type}(E:Env)(look:aJ)(nid g:Nat)(args:List AV)(K K':Step α)(r:α)(hK:∀v us,K v us=some r->K' v us=some r)
  (h:nD E F look nid g args K=some r):nD E G look nid g args K'=some r:=by
 unfold nD at h|-;split at h
 ·unfold roK at h|-;split at h
  ·rename_i h0;rw[aK h0];split at h
   ·split at h
    ·refine Sg EH E look _ r _ _ _ _ (λvs hv=> ?_) h;exact kR hv (hK _ _) (λh=>h)
    ·cases h
   ·cases h
  ·cases h
 ·exact Ww EH E look nid g args K K' r hK h
theorem TQ {α:Type}(E:Env)(look:aJ)(nid:Nat)(op:Op)(ev:Operand->AV)(K K':Step α)(r:α)(hK:∀v us,K v us=some r->K' v us=some r)
  (h:qa E F look nid op ev K=some r):qa E G look nid op ev K'=some r:=by
 unfold qa at h|-;split at h
 ·split at h
  ·split at h
   ·rename_i k _;split at h
    ·have e1:=Dv k look nid (List.map ev (by assumption:Array Operand).toList) (λv us=>some (v,us)) (λp:P2=>K p.1 p.2);have e2:=Dv k look nid (List.map ev (by assumption:Array Operand).toList) (λv us=>some (v,us)) (λp:P2=>K' p.1 p.2);simp only[oP]at e1 e2;rw[<-e1]at h;obtain⟨q,hq,hr⟩:=gI.1 h;rw[<-e2,hq];exact hK _ _ hr
    ·cases h
   ·exact yh EH _ _ _ _ _ _ _ _ hK h
  ·exact yh EH _ _ _ _ _ _ _ _ hK h
  ·exact yh EH _ _ _ _ _ _ _ _ hK h
  ·exact yh EH _ _ _ _ _ _ _ _ hK h
  ·cases h
 ·have e1:=vY E.P look nid op ev (λv us=>some (v,us)) (λp:P2=>K p.1 p.2);have e2:=vY E.P look nid op ev (λv us=>some (v,us)) (λp:P2=>K' p.1 p.2);simp only[oP]at e1 e2;rw[<-e1]at h;obtain⟨q,hq,hr⟩:=gI.1 h;rw[<-e2,hq];exact hK _ _ hr
theorem XL {α:Type}(E:Env)(dr:Bool)(nid:Nat)(o:Oper)(st:St)(K K':AV->cD->List Nat->Bool->Option α)(r:α)
  (hK:∀v us fp w,K v us fp w=some r->K' v us fp w=some r) (h:mm E F dr nid o st K=some r):mm E G dr nid o st K'=some r:=by
 unfold mm at h|-;split at h
 ·rename_i h0;rw[aK h0];cases dr
  ·exact TQ EH _ _ _ _ _ _ _ _ (λv us hv=>hK _ _ _ _ hv) h
  ·dsimp only at h|-;refine TQ EH _ _ _ _ _ _ _ _ (λv us hv=> ?_) h;split at hv
   ·rename_i h1;rw[aK h1];exact hK _ _ _ _ hv
   ·cases hv
 ·cases h
theorem IQ {α:Type}(E:Env)(ops:Array Oper)(bf:Array Nat)(md:Md)(i nid:Nat)(o:Oper)(pu:Bool)(st:St)(lg:Log)(K K':St->Log->Option α)(r:α)
  (hK:∀v us,K v us=some r->K' v us=some r) (h:lr ⟨E,F,ops,bf,md⟩ i nid o pu st lg K=some r):lr ⟨E,G,ops,bf,md⟩ i nid o pu st lg K'=some r:=by
 unfold lr at h|-;refine XL EH _ _ _ _ _ _ _ _ (λv us fp w hv=> ?_) h;have hso:vM ⟨E,F,ops,bf,md⟩ i o fp w lg=vM ⟨E,G,ops,bf,md⟩ i o fp w lg:=rfl;rw[hso]at hv;split at hv
 ·rename_i h0;rw[aK h0];exact hK _ _ hv
 ·cases hv
theorem NP (E:Env)(ops:Array Oper)(bf:Array Nat)(md:Md):∀(n:Nat) (α:Type) (pu:Bool) (i nid:Nat) (l:List Oper) (st:St) (lg:Log) (K K':St->Log->Option α) (r:α),
  (∀st lg,K st lg=some r->K' st lg=some r)->kB ⟨E,F,ops,bf,md⟩ n α pu i nid l st lg K=some r->kB ⟨E,G,ops,bf,md⟩ n α pu i nid l st lg K'=some r
 |0,_,_,_,_,[],_,_,_,_,_,hK,h=>hK _ _ h
 |_+1,_,_,_,_,[],_,_,_,_,_,hK,h=>hK _ _ h
 |0,_,_,_,_,_::_,_,_,_,_,_,_,h=>by cases h
 |n+1,α,pu,i,nid,o::rest,st,lg,K,K',r,hK,h=>by
  have ih:=NP E ops bf md n;simp only[kB]at h|-;split at h
  ·refine IQ EH _ _ _ _ _ _ _ _ _ _ _ _ _ (λbD pj h'=> ?_) h;exact ih _ _ _ _ _ _ _ _ _ _ hK h'
  ·rename_i j w _;split at h
   ·cases h
   ·split at h
    ·exact ih _ _ _ _ _ _ _ _ _ _ hK h
    ·have Dt:∀{b w d},ctl (cond w b (!b))
        (lr ⟨E,F,ops,bf,md⟩ i nid o pu ⟨upd (.bool w) st.slots d,st.heap⟩ lg λbD pj=>kB ⟨E,F,ops,bf,md⟩ n α pu (i+1) (nid+eA o) rest bD pj K)
        (kB ⟨E,F,ops,bf,md⟩ n α pu (i+1) (nid+eA o) rest ⟨cq o.dst .no (upd (.bool (!w)) st.slots d),st.heap⟩ lg K)=some r->
       ctl (cond w b (!b))
        (lr ⟨E,G,ops,bf,md⟩ i nid o pu ⟨upd (.bool w) st.slots d,st.heap⟩ lg λbD pj=>kB ⟨E,G,ops,bf,md⟩ n α pu (i+1) (nid+eA o) rest bD pj K')
        (kB ⟨E,G,ops,bf,md⟩ n α pu (i+1) (nid+eA o) rest ⟨cq o.dst .no (upd (.bool (!w)) st.slots d),st.heap⟩ lg K')=some r:=λh=>
      kR h (λh=>IQ EH _ _ _ _ _ _ _ _ _ _ _ _ _ (λbD pj h'=>ih _ _ _ _ _ _ _ _ _ _ hK h') h) (λh=>ih _ _ _ _ _ _ _ _ _ _ hK h)
     split at h
     ·split at h
      ·rename_i h1;rw[aK h1];split at h
       ·unfold aj at h|-;obtain⟨q,hq,hr⟩:=gI.1 h;rw[kR hq (λh=>ih _ _ _ _ _ _ _ _ _ _ (λ_ _ h=>h) h) (λh=>h)];exact ih _ _ _ _ _ _ _ _ _ _ hK hr
       ·cases h
      ·rename_i h1;rw[aC h1];exact Dt h
     ·exact Dt h
    ·cases h
theorem NX (E:Env)(ops:Array Oper)(draw:Bool)(l:List Oper){α:Type}(st:St)(K K':St->Option α)(r:α)(hK:∀st,K st=some r->K' st=some r)
  (h:EM E F ops draw l st K=some r):EM E G ops draw l st K'=some r:=by
 unfold EM at h|-;dsimp only at h|-;split at h
 ·rename_i h0;rw[aK h0];exact NP EH _ _ _ _ _ _ _ _ _ _ _ _ _ _ _ (λst _ h=>hK _ h) h
 ·cases h
def ILe (I J:Inl):Prop:=∀(g:Nat) (α:Type) (args:List AV) (h:List bw) (K K':AV->List bw->Option α) (r:α),(∀v h,K v h=some r->K' v h=some r)->I g α args h K=some r->J g α args h K'=some r
theorem OV (E:Env)(f m nt:Nat)(fa:List AV){I J:Inl}(hI:ILe I J)(c:Code):∀(blk:Nat) (α:Type) (st:St) (K K':Ex->St->Option α) (r:α),
  (∀e st,K e st=some r->K' e st=some r)->dZ ⟨E,F,f,m,nt,fa,I⟩ c blk α st K=some r->dZ ⟨E,G,f,m,nt,fa,J⟩ c blk α st K'=some r:=by
 induction c generalizing m with
 |skip=>intro _ _ _ _ _ _ hK h;exact hK _ _ h
 |region id ops draw=>
  intro _ _ _ _ _ _ hK h;simp only[dZ]at h|-;split at h
  ·exact NX EH E ops draw _ _ _ _ _ (λst h=>hK _ _ h) h
  ·exact NX EH E ops draw _ _ _ _ _ (λst h=>hI _ _ _ _ _ _ _ (λv h' hh=>hK _ _ hh) h) h
 |seq a b Qk Qj=>
  intro blk α st K K' r hK h;simp only[dZ]at h|-;refine Qk _ _ _ _ _ _ _ (λe bD he=> ?_) h;cases e<;>first|exact hK _ _ he|exact Qj _ _ _ _ _ _ _ hK he
 |cond c a b Qk Qj=>
  intro blk α st K K' r hK h;simp only[dZ]at h|-;split at h
  ·split at h
   ·exact kR h (Qk _ _ _ _ _ _ _ hK) (Qj _ _ _ _ _ _ _ hK)
   ·unfold aj at h|-;obtain⟨q,hq,hr⟩:=gI.1 h;rw[kR hq (Qk _ _ _ _ _ _ _ λ_ _ h=>h) (Qj _ _ _ _ _ _ _ λ_ _ h=>h)];simp only[oP];have e1:=dK nt (gQ fa (by assumption)) q (λe st=>some (e,st)) (λp:Ex×St=>K p.1 p.2);have e2:=dK nt (gQ fa (by assumption)) q (λe st=>some (e,st)) (λp:Ex×St=>K' p.1 p.2);simp only[oP]at e1 e2;rw[<-e1]at hr;obtain⟨q2,hq2,hr2⟩:=gI.1 hr;rw[<-e2,hq2];exact hK _ _ hr2
  ·cases hn:bH f E.qF with
   |true=>
    rw[hn]at h;obtain⟨h1,h2⟩:=Gs h;exact aaW (Qk _ _ _ _ _ _ _ hK h1) (Qj _ _ _ _ _ _ _ hK h2)
   |false=>rw[hn]at h;cases h
  ·cases h
 |block id b ih=>
  intro blk α st K K' r hK h;simp only[dZ]at h|-;refine ih _ _ _ _ _ _ _ (λe bD he=> ?_) h;cases e<;>first|exact hK _ _ he|exact kR he (hK _ _) (hK _ _)
 |loop b ih=>
  intro blk α st K K' r hK h;simp only[dZ]at h|-;split at h
  ·cases h
  ·rename_i la _;have e1:=jw m (cZ fa la.head) (CP E f (1000000+blk) st) some (λpk=>aj (lpC f m fa blk (λpk=>cQ nt (cZ fa la.head) pk λbD=>dZ ⟨E,F,f,m,nt,fa,I⟩ b blk (Ex×Pack) bD (cU m ((.eF,cZ fa la.head)::gQ fa la.fj) some)) pk) λp=>eU nt (gQ fa la.fj) p K);have e2:=jw m (cZ fa la.head) (CP E f (1000000+blk) st) some (λpk=>aj (lpC f m fa blk (λpk=>cQ nt (cZ fa la.head) pk λbD=>dZ ⟨E,G,f,m,nt,fa,J⟩ b blk (Ex×Pack) bD (cU m ((.eF,cZ fa la.head)::gQ fa la.fj) some)) pk) λp=>eU nt (gQ fa la.fj) p K');simp only[oP]at e1 e2;rw[<-e1]at h;rw[<-e2];obtain⟨pk,Vt,h⟩:=gI.1 h;rw[Vt];simp only[oP];unfold aj lpC at h|-;obtain⟨q,hq,hr⟩:=gI.1 h;have hle:∀n pk q,ks (λpk=>cQ nt (cZ fa la.head) pk λbD=>dZ ⟨E,F,f,m,nt,fa,I⟩ b blk (Ex×Pack) bD (cU m ((.eF,cZ fa la.head)::gQ fa la.fj) some)) n pk=some q->
     ks (λpk=>cQ nt (cZ fa la.head) pk λbD=>dZ ⟨E,G,f,m,nt,fa,J⟩ b blk (Ex×Pack) bD (cU m ((.eF,cZ fa la.head)::gQ fa la.fj) some)) n pk=some q:=by
    intro n
    induction n with
    |zero=>intro _ _ h;cases h
    |succ n ihn=>
     intro pk q hn;simp only[ks]at hn|-;obtain⟨p,hp,hn⟩:=gI.1 hn;have hp':(cQ nt (cZ fa la.head) pk λbD=>dZ ⟨E,G,f,m,nt,fa,J⟩ b blk (Ex×Pack) bD (cU m ((.eF,cZ fa la.head)::gQ fa la.fj) some))=some p:=by
      unfold cQ at hp|-;exact kR hp (ih _ _ _ _ _ _ _ λ_ _ h=>h) (λh=>h)
     rw[hp'];simp only[oP];cases he:Ex.iI p.1 .eF with
     |true=>rw[he]at hn;exact ihn _ _ hn
     |false=>rw[he]at hn;exact hn
   obtain⟨n,hn⟩:=nr _ hq;rw[xy _ (hle n pk q hn)];simp only[oP];have e1:=dK nt (gQ fa la.fj) q (λe st=>some (e,st)) (λp:Ex×St=>K p.1 p.2);have e2:=dK nt (gQ fa la.fj) q (λe st=>some (e,st)) (λp:Ex×St=>K' p.1 p.2);simp only[oP]at e1 e2;rw[<-e1]at hr;obtain⟨q2,hq2,hr2⟩:=gI.1 hr;rw[<-e2,hq2];exact hK _ _ hr2
 |exit id=>intro _ _ _ _ _ _ hK h;exact hK _ _ h
 |ret=>intro _ _ _ _ _ _ hK h;exact hK _ _ h
 |rangeFunc g ps Nr body Qk Qj=>
  intro blk α st K K' r hK h;simp only[dZ]at h|-;split at h
  ·rename_i la bf es p q _ _ _;cases hc:(FD E bf&&(j8 Nr&&(j8 body&&(Nat.blt p nt&&(Nat.blt q nt&&Df m (cZ fa la.head))))))with
   |false=>rw[hc]at h;cases h
   |true=>
    rw[hc]at h;simp only[en]at h|-;refine kR h (λh=> ?_) (λh=>h);have e1:=jw m (cZ fa la.head) st some (λpk=>aj (rgL f m fa blk (λx pk=>cQ nt (cZ fa la.head) pk λrO=>dZ ⟨E,F,f,FC (cZ fa la.head),nt,fa,I⟩ Nr blk (Ex×Pack) (IW p q x rO) λe yL=>T2 e (dZ ⟨E,F,f,FC (cZ fa la.head),nt,fa,I⟩ body blk (Ex×Pack) yL λe EK=>cU m ((.eF,cZ fa la.head)::gQ fa la.fj) some e ⟨rO.slots,EK.heap⟩)) (nV 0 es).reverse pk) λp=>ctl (Ex.iI p.1 .eF) (cQ nt (cZ fa la.head) p.2 (K .eF)) (eU nt (gQ fa la.fj) p K));have e2:=jw m (cZ fa la.head) st some (λpk=>aj (rgL f m fa blk (λx pk=>cQ nt (cZ fa la.head) pk λrO=>dZ ⟨E,G,f,FC (cZ fa la.head),nt,fa,J⟩ Nr blk (Ex×Pack) (IW p q x rO) λe yL=>T2 e (dZ ⟨E,G,f,FC (cZ fa la.head),nt,fa,J⟩ body blk (Ex×Pack) yL λe EK=>cU m ((.eF,cZ fa la.head)::gQ fa la.fj) some e ⟨rO.slots,EK.heap⟩)) (nV 0 es).reverse pk) λp=>ctl (Ex.iI p.1 .eF) (cQ nt (cZ fa la.head) p.2 (K' .eF)) (eU nt (gQ fa la.fj) p K'));simp only[oP]at e1 e2;rw[<-e1]at h;rw[<-e2];obtain⟨pk,Vt,h⟩:=gI.1 h;rw[Vt];simp only[oP];unfold aj rgL at h|-;obtain⟨z,hz,hr⟩:=gI.1 h;rw[Sj (λx pk y hy=> ?_) _ _ _ hz]
    rotate_left
    ·unfold cQ at hy|-;refine kR hy (λhy=>Qk _ _ _ _ _ _ _ (λe st he=> ?_) hy) (λh=>h);cases e<;>first|(cases he;done)|exact Qj _ _ _ _ _ _ _ (λ_ _ h=>h) he
    simp only[oP];refine kR hr (λhr=> ?_) (λhr=> ?_)
    ·unfold cQ at hr|-;exact kR hr (hK _ _) (λh=>h)
    ·have e1:=dK nt (gQ fa la.fj) z (λe st=>some (e,st)) (λp:Ex×St=>K p.1 p.2);have e2:=dK nt (gQ fa la.fj) z (λe st=>some (e,st)) (λp:Ex×St=>K' p.1 p.2);simp only[oP]at e1 e2;rw[<-e1]at hr;obtain⟨q2,hq2,hr2⟩:=gI.1 hr;rw[<-e2,hq2];exact hK _ _ hr2
  ·cases h
 |scope b=>intro _ _ _ _ _ _ _ h;cases h
 |label l=>intro _ _ _ _ _ _ _ h;cases h
 |goto l=>intro _ _ _ _ _ _ _ h;cases h
 |refuse w=>intro _ _ _ _ _ _ _ h;cases h
theorem OB (E:Env):∀n,ILe (xN E F n) (xN E G n)
 |0=>λ_ _ _ _ _ _ _ _ h=>by cases h
 |n+1=>λg α args h K K' r hK hh=>by
  simp only[xN]at hh|-;split at hh
  ·cases hh
  ·split at hh
   ·cases hh
   ·refine OV EH E _ _ _ _ (OB E n) _ _ _ _ _ _ _ (λe st he=> ?_) hh;cases e<;>first|(cases he;done)|skip
    all_goals
     dsimp only at he|-;split at he
     ·split at he
      ·exact hK _ _ he
      ·cases he
     ·cases he
theorem HE (E:Env):LeF (aI E F) (aI E G):=by
 intro f args hs r h;unfold aI at h|-;generalize iA f E.Oc=q at h|-;cases q with
 |some p=>
  cases hs with
  |cons=>cases h
  |nil=>
   simp only at h|-;cases hp:p.run F args with
   |none=>rw[hp]at h;cases h
   |some rs=>rw[hp]at h;rw[p.mono F G EH _ _ hp];exact h
 |none=>
 simp only at h|-;split at h
 ·cases h
 ·split at h
  ·cases h
  ·exact OV EH _ _ _ _ _ (OB EH E 3) _ _ _ _ _ _ _ (λ_ _ h=>h) h
end mono
theorem Nw (E:Env):Clo E (RR E):=by
 intro F hF f a h r hr S hS;exact hS F (λf a h r hr=>hF f a h r hr S hS) f a h r hr
theorem Xo (E:Env){f:Nat}{a:List AV}{h:List au}{r:gv}(hr:RR E f a h r):∃F:d_,(∀f a h r,F f a h=some r->RR E f a h r)/\aI E F f a h=some r:=
 hr (λf a h r=>∃F:d_,(∀f a h r,F f a h=some r->RR E f a h r)/\aI E F f a h=some r) λF hF f a h r hr=>by
  refine⟨F,λf a h r h1=> ?_,hr⟩;obtain⟨G,hG,h2⟩:=hF f a h r h1;exact Nw E G hG _ _ _ _ h2
theorem aft (E:Env){f:Nat}{a:List AV}{h:List au}{r r':gv}(hr:RR E f a h r)(Fa:RR E f a h r'):r=r':=by
 have key:∀f a h r,RR E f a h r->RR E f a h r/\∀r',RR E f a h r'->r=r':=by
  intro f a h r hr;refine hr (λf a h r=>RR E f a h r/\∀r',RR E f a h r'->r=r') ?_;intro F hF f a h r hr;refine⟨Nw E F (λf a h r h1=>(hF f a h r h1).1) f a h r hr,λr' Fa=> ?_⟩;obtain⟨G,hG,h2⟩:=Xo E Fa;have h3:=HE (F:=F) (G:=λf a h=>match F f a h with|some x=>some x|none=>G f a h) (λf a h r h1=>by simp[h1]) E _ _ _ _ hr;have h4:=HE (F:=G) (G:=λf a h=>match F f a h with|some x=>some x|none=>G f a h) (λf a h r h1=>by
   show(match F f a h with|some x=>some x|none=>G f a h)=some r;cases h5:F f a h with
   |none=>exact h1
   |some x=>exact congrArg some ((hF f a h x h5).2 r (hG f a h r h1))) E _ _ _ _ h2
  rw[h3]at h4;exact pH h4
 exact(key f a h r hr).2 r' Fa
theorem tv (E:Env){f:Nat}{a:List AV}{h:List au}{r:gv}:denC E f a h=some r↔RR E f a h r:=by
 unfold denC;constructor
 ·intro hh;split at hh
  ·rename_i hx;have:=Jg hx;rw[pH hh]at this;exact this
  ·cases hh
 ·intro hr;rw[dif_pos ⟨r,hr⟩];exact congrArg some (aft E (Jg (⟨r,hr⟩:∃r,RR E f a h r)) hr)
theorem YN {α:Type}{x y:Option α}(h1:∀r,x=some r->y=some r)(h2:∀r,y=some r->x=some r):x=y:=by
 cases x with
 |some v=>exact(h1 v rfl).symm
 |none=>cases y with
  |none=>rfl
  |some v=>cases h2 v rfl
theorem ai (E:Env)(f:Nat)(args:List AV)(hs:List au):denC E f args hs=aI E (denC E) f args hs:=by
 refine YN (λr hr=> ?_) (λr hr=> ?_)
 ·obtain⟨F,hF,h2⟩:=Xo E ((tv E).1 hr);exact HE (λf a h r h1=>(tv E).2 (hF f a h r h1)) E _ _ _ _ h2
 ·exact(tv E).2 (Nw E (denC E) (λf a h r h1=>(tv E).1 h1) _ _ _ _ hr)
theorem Wf (E:Env)(S:Nat->List AV->List au->gv->Prop)
 (step:∀F:d_,(∀f a h r,F f a h=some r->S f a h r)->∀f a h r,aI E F f a h=some r->S f a h r) {f:Nat} {a:List AV} {h:List au} {r:gv}
 (hr:denC E f a h=some r):S f a h r:=(tv E).1 hr S step
end
section
def All2 {α β:Type}(R:α->β->Prop):List α->List β->Prop
 |[],[]=>True
 |a::l,b::m=>R a b/\All2 R l m
 |_,_=>False
section all2
variable {α β:Type} {R S:α->β->Prop}
theorem All2.mono (h:∀a b,R a b->S a b):∀{l:List α} {m:List β},All2 R l m->All2 S l m
 |[],[],_=>trivial
 |_::_,_::_,⟨h1,h2⟩=>⟨h _ _ h1,h2.mono h⟩
 |[],_::_,h=>h.elim
 |_::_,[],h=>h.elim
theorem All2.length:∀{l:List α} {m:List β},All2 R l m->l.length=m.length
 |[],[],_=>rfl
 |_::_,_::_,⟨_,h2⟩=>congrArg (· +1) h2.length
 |[],_::_,h=>h.elim
 |_::_,[],h=>h.elim
theorem All2.get:∀{l:List α} {m:List β},All2 R l m->∀(i:Nat) (a:α),l[i]? =some a->∃b,m[i]? =some b/\R a b
 |[],[],_,i,a,h=>by simp at h
 |x::l,y::m,⟨h1,h2⟩,0,a,h=>⟨y,rfl,by simp at h;exact h▸h1⟩
 |x::l,y::m,⟨h1,h2⟩,i+1,a,h=>by simpa using h2.get i a (by simpa using h)
 |[],_::_,h,_,_,_=>h.elim
 |_::_,[],h,_,_,_=>h.elim
theorem All2.nj:∀{l:List α} {m:List β},l.length=m.length->(∀(i:Nat) a b,l[i]? =some a->m[i]? =some b->R a b)->All2 R l m
 |[],[],_,_=>trivial
 |x::l,y::m,hl,h=>⟨h 0 x y rfl rfl,All2.nj (by simpa using hl) λi a b ha hb=>h (i+1) a b (by simpa using ha) (by simpa using hb)⟩
 |[],_::_,h,_=>by simp at h
 |_::_,[],h,_=>by simp at h
theorem All2.append {l l':List α}{m m':List β}:All2 R l m->All2 R l' m'->All2 R (l++l') (m++m'):=by
 intro h h'
 induction l generalizing m with
 |nil=>cases m with|nil=>exact h'|cons=>exact h.elim
 |cons a l ih=>cases m with|nil=>exact h.elim|cons b m=>exact⟨h.1,ih h.2⟩
theorem All2.take {l:List α}{m:List β}(h:All2 R l m)(n:Nat):All2 R (l.take n) (m.take n):=by
 induction n generalizing l m with
 |zero=>simp[All2]
 |succ n ih=>cases l with
  |nil=>cases m with|nil=>exact trivial|cons=>exact h.elim
  |cons a l=>cases m with|nil=>exact h.elim|cons b m=>exact⟨h.1,ih h.2⟩
theorem All2.drop {l:List α}{m:List β}(h:All2 R l m)(n:Nat):All2 R (l.drop n) (m.drop n):=by
 induction n generalizing l m with
 |zero=>exact h
 |succ n ih=>cases l with
  |nil=>cases m with|nil=>exact trivial|cons=>exact h.elim
  |cons a l=>cases m with|nil=>exact h.elim|cons b m=>exact ih h.2
end all2
section lists
variable {α:Type} (d:α)
theorem dp:∀(l:List α) (i:Nat),nth d l i=l.getD i d
 |[],i=>by cases i<;>rfl
 |x::l,0=>rfl
 |x::l,i+1=>by simpa[nth]using dp l i
theorem oL (v:α):∀(l:List α) (i:Nat),upd v l i=l.set i v
 |[],i=>by cases i<;>rfl
 |x::l,0=>rfl
 |x::l,i+1=>by simp[upd,oL v l i]
theorem n_ (x:α):∀n,dm x n=List.replicate n x
 |0=>rfl
 |n+1=>by simp[dm,n_ x n,List.replicate_succ]
theorem ep (v:α)(l:List α)(i j:Nat):nth d (upd v l i) j=if i=j/\j<l.length then v else nth d l j:=by
 rw[dp,dp,oL];simp only[dO,qz];by_cases h:i=j
 ·subst h;by_cases h2:i<l.length
  ·simp[h2]
  ·simp[h2]
 ·simp[h]
theorem bU (v:α)(l:List α)(i:Nat):(upd v l i).length=l.length:=by rw[oL];simp
theorem jU {l:List α}{i:Nat}{x:α}(h:l[i]? =some x):nth d l i=x:=by rw[dp];simp[List.getD,h]
end lists
theorem fe:∀a b:IntKind,lT a b=true->a=b:=by
 intro a b h;cases a<;>cases b<;>first|rfl|cases h
inductive VP (w:World)(O:Nat->Prop):PV->Value->Prop
 |int (k n):VP w O (.int k n) (.int k n)
 |bool (b):VP w O (.bool b) (.bool b)
 |str (s):VP w O (.str s) (.string ⟨s.toArray⟩)
 |bN:VP w O .bN (.slice none 0 0)
 |aM:VP w O .aM (.pointer none)
 |qF:VP w O .qF .nilFunc
 |fn (f):VP w O (.fn f) (.func (.func f) #[] #[])
 |Fp (b):VP w O .Fp (.bool b)
 |ZT:VP w O (.Mz true) .nilIface
 |Mz (t v):VP w O (.Mz false) (.iface t v)
 |Ms (a l c):VP w O .Ms (.slice a l c)
 |yA (sz a cap):VP w O (.sl sz []) (.slice a 0 cap)
 |sl (sz es b off cap) (f:Nat->Nat->Value):b<w.heap.size->¬O b->es.length<=cap->(∀e∈es,e.length=sz)->
  (∀i j e c,es[i]? =some e->e[j]? =some c->w.cell? ⟨b,off+i*sz+j,none⟩=some (f i j))->
  (∀i j e c,es[i]? =some e->e[j]? =some c->VP w O c (f i j))->VP w O (.sl sz es) (.slice (some ⟨b,off,none⟩) es.length cap)
theorem VP.ext {w w':World}{O O':Nat->Prop}(hs:w.heap.size<=w'.heap.size)(hk:∀b,b<w.heap.size->¬O b->w'.heap[b]? =w.heap[b]?)
  (ho:∀b,b<w.heap.size->O' b->O b) {v:PV} {u:Value} (h:VP w O v u):VP w' O' v u:=by
 induction h with
 |int k n=>exact .int k n
 |bool b=>exact .bool b
 |str s=>exact .str s
 |bN=>exact .bN
 |aM=>exact .aM
 |qF=>exact .qF
 |fn f=>exact .fn f
 |Fp b=>exact .Fp b
 |ZT=>exact .ZT
 |Mz t v=>exact .Mz t v
 |Ms a l c=>exact .Ms a l c
 |yA sz a cap=>exact .yA sz a cap
 |sl sz es b off cap f hb hO hc hz hcell _ ih=>
  exact .sl sz es b off cap f (by omega) (λh=>hO (ho b hb h)) hc hz
   (λi j e c he hj=>by rw[nT (w:=w) (hk b hb hO)];exact hcell i j e c he hj) ih
theorem VP.ext' {w w':World}{O O':Nat->Prop}(hs:w.heap.size<=w'.heap.size)(hk:∀b,b<w.heap.size->¬O b->∀off x,w.cell? ⟨b,off,none⟩=some x->w'.cell? ⟨b,off,none⟩=some x)
  (ho:∀b,b<w.heap.size->O' b->O b) {v:PV} {u:Value} (h:VP w O v u):VP w' O' v u:=by
 induction h with
 |int k n=>exact .int k n
 |bool b=>exact .bool b
 |str s=>exact .str s
 |bN=>exact .bN
 |aM=>exact .aM
 |qF=>exact .qF
 |fn f=>exact .fn f
 |Fp b=>exact .Fp b
 |ZT=>exact .ZT
 |Mz t v=>exact .Mz t v
 |Ms a l c=>exact .Ms a l c
 |yA sz a cap=>exact .yA sz a cap
 |sl sz es b off cap f hb hO hc hz hcell _ ih=>
  exact .sl sz es b off cap f (by omega) (λh=>hO (ho b hb h)) hc hz
   (λi j e c he hj=>hk b hb hO _ _ (hcell i j e c he hj)) ih
theorem VP.eX {w:World}{O:Nat->Prop}{v:PV}{u:Value}(h:VP w O v u):u.oneCell'=true:=by
 cases h<;>rfl
theorem VP.cells {w:World}{O:Nat->Prop}{v:PV}{u:Value}(h:VP w O v u):u.cells= #[u]:=by
 cases h<;>rfl
structure Ctx where
 w:World
 ι:Nat->Option Nat
 h:List bw
 X:Nat->Prop
 κ:Nat->Nat->Prop
def live (h:List bw)(id:Nat)(b:au):Prop:=nth bw.fresh h id=.blk b
def known (h:List bw)(id:Nat):Prop:=nth bw.fresh h id≠.fresh
def Ctx.at (C:Ctx)(id n:Nat):Prop:=C.ι id=some n\/C.κ id n
def Ctx.own (C:Ctx)(b:Nat):Prop:=∃id blk,live C.h id blk/\C.at id b
def Ctx.O (C:Ctx)(b:Nat):Prop:=C.X b\/C.own b
abbrev Ctx.P (C:Ctx):PV->Value->Prop:=VP C.w C.O
theorem dX {h:List bw}{id:Nat}{b:au}(hl:live h id b):known h id:=by unfold known;rw[hl];simp
theorem lH {h:List bw}{id:Nat}{b b':au}(h1:live h id b)(h2:live h id b'):b=b':=by
 unfold live at h1 h2;rw[h1]at h2;simpa using h2
def HS (C:Ctx)(id sz:Nat)(es:List (List PV))(u:Value):Prop:=
 match C.ι id with
 |some b=>∃cap carr e fr,u=.slice (some ⟨b,0,none⟩) es.length cap/\es.length<=cap/\C.w.heap[b]? =some (.cells carr e fr)/\cap*sz<=carr.size
 |none=>es=[]/\u=.slice none 0 0
def VT (C:Ctx):TV->Value->Prop
 | .p v,u=>C.P v u
 | .agg cs,u=>∃us,u=.agg us/\All2 C.P cs us.toList
 | .ak id,u=>known C.h id/\(∃a l c,u=.slice a l c)/\∀sz es,live C.h id (.arr sz es)->HS C id sz es u
 | .ptr id off,u=>known C.h id/\∃b,u=.pointer (some ⟨b,off,none⟩)/\∀cs,live C.h id (.box cs)->C.ι id=some b
def kA (C:Ctx):TV⊕List TV->Value->Prop
 | .inl v,u=>VT C v u
 | .inr vs,u=>∃us,u=.agg us/\All2 (VT C) vs us.toList
def VA (C:Ctx):AV->Value->Prop
 | .undef,_=>True
 | .no,u=>u=Go.undef
 | .t v,u=>VT C v u
 | .uJ cs,u=>∃b off,u=.pointer (some ⟨b,off,none⟩)/\b<C.w.heap.size/\¬C.O b/\∀(j:Nat) c,cs[j]? =some c->∃x,C.w.cell? ⟨b,off+j,none⟩=some x/\C.P c x
 | .xR id i o,u=>known C.h id/\∃b k,u=.pointer (some ⟨b,k+o,none⟩)/\∀sz es,live C.h id (.arr sz es)->i<es.length/\C.ι id=some b/\k=i*sz
 | .fn f caps,u=>∃us,u=.func (.func f) #[] us/\All2 (VT C) caps us.toList
 | .XU vs,u=>∃us,u=.tuple us/\All2 (VT C) vs us.toList
 | .bm vs,u=>∃us,u=.agg us/\All2 (VT C) vs us.toList
 | .C8 id,u=>known C.h id/\(u=.pointer none\/∃b,u=.pointer (some ⟨b,0,none⟩)/\∀cs,live C.h id (.box cs)->C.ι id=some b)
 | .aj f cs,u=>∃us,u=.func (.func f) #[.agg us] #[]/\All2 C.P cs us.toList
 | .NK id,u=>known C.h id/\∃b cap n,u=.slice (some ⟨b,0,none⟩) n cap/\n<=cap/\∀sz jA,live C.h id (.tab false sz jA)->C.ι id=some b/\jA.length=n
 | .Pf id i,u=>known C.h id/\∃b,u=.pointer (some ⟨b,i,none⟩)/\∀sz jA,live C.h id (.tab false sz jA)->C.ι id=some b/\i<jA.length
 | .hmap id,u=>known C.h id/\∃b,u=.map (some b)/\∀sz jA,live C.h id (.tab true sz jA)->C.ι id=some b
 | .IE ps,u=>∃us,u=.tuple us/\All2 (kA C) ps us.toList
 | .iG f id o,u=>∃u',u=.func (.func f) #[u'] #[]/\VT C (.ptr id o) u'
 | .rev f es,u=>∃b,u=.func (.func f) #[] #[.pointer (some ⟨b,0,none⟩)]/\b<C.w.heap.size/\¬C.O b/\∃x,C.w.cell? ⟨b,0,none⟩=some x/\C.P (.sl 1 es) x
def xr (carr:Array Value)(fr:Nat×Nat):Prop:=fr.1=fr.2\/carr.size<=fr.1
theorem xr.off {carr:Array Value}{fr:Nat×Nat}(h:xr carr fr):∀off,off<carr.size->¬(fr.1<=off/\off<fr.2):=λoff ho hc=>by
 rcases h with h|h<;>omega
theorem xr.size {carr cX:Array Value}{fr:Nat×Nat}(h:xr carr fr)(hs:cX.size=carr.size):xr cX fr:=h.imp id λh=>by omega
def Xn (C:Ctx)(id sz:Nat)(es:List (List PV))(u:Value):Prop:=
 (u=.slice none 0 0/\es=[])\/∃g cap carr e fr,u=.slice (some ⟨g,0,none⟩) es.length cap/\es.length<=cap/\C.κ id g/\C.w.heap[g]? =some (.cells carr e fr)/\cap*sz<=carr.size/\xr carr fr/\
  (∀e∈es,e.length=sz)/\(∀u∈carr.toList,u.oneCell'=true)/\∀(i j:Nat) e c,es[i]? =some e->e[j]? =some c->∃u,carr[i*sz+j]? =some u/\C.P c u
def MVR (C:Ctx)(id sz:Nat):MV->Value->Prop
 | .pv v,u=>C.P v u
 | .row es,u=>Xn C id sz es u
 | .gone,u=>∃a l c,u=.slice a l c
def aa3 (w:World)(b:Nat):Bool->List (Int×MV)->List Value->Prop
 |false,_,vals=>∃carr e fr,w.heap[b]? =some (.cells carr e fr)/\xr carr fr/\(∀u∈carr.toList,u.oneCell'=true)/\∀(i:Nat) u,vals[i]? =some u->carr[i]? =some u
 |true,jA,vals=>∃es clock,w.heap[b]? =some (.map es clock)/\es.toList.map (λx=>x.key)=jA.map (λx=>Value.int .i64 x.1)/\es.toList.map (λx=>x.val)=vals
structure Xm (C:Ctx)(id sz:Nat)(jA:List (Int×MV))(vals:List Value):Prop where
 len:vals.length=jA.length
 one:∀(i:Nat) u,vals[i]? =some u->u.oneCell'=true
 val:∀(i:Nat) x u,jA[i]? =some x->vals[i]? =some u->MVR C id sz x.2 u
 apart:∀(i j:Nat) x y es es' u u' g,jA[i]? =some x->jA[j]? =some y->x.2=.row es->y.2=.row es'->vals[i]? =some u->vals[j]? =some u'->u.ownBlock=some g->u'.ownBlock=some g->i=j
def q9 (C:Ctx)(id:Nat):au->Prop
 | .tab m sz jA=>∃b vals,C.ι id=some b/\¬C.κ id b/\aa3 C.w b m jA vals/\Xm C id sz jA vals
 | .box cs=>∃b carr e fr,C.ι id=some b/\C.w.heap[b]? =some (.cells carr e fr)/\carr.size=cs.length/\xr carr fr/\
  ∀(j:Nat) c,cs[j]? =some c->∃u,carr[j]? =some u/\VA C c u/\u.oneCell'=true
 | .arr sz es=>(C.ι id=none/\es=[])\/∃b carr e fr,C.ι id=some b/\C.w.heap[b]? =some (.cells carr e fr)/\es.length*sz<=carr.size/\xr carr fr/\
  (∀e∈es,e.length=sz)/\(∀u∈carr.toList,u.oneCell'=true)/\∀(i j:Nat) e c,es[i]? =some e->e[j]? =some c->∃u,carr[i*sz+j]? =some u/\C.P c u
def VW (w:World):Nat->Option Obj:=λb=>if b<nG then w.heap[b]? else none
structure afu (C:Ctx):Prop where
 low:∀b,b<nG->b<C.w.heap.size/\¬C.own b
 at_:acX (VW C.w)
structure Ok (C:Ctx):Prop where
 gr:afu C
 blk:∀id b,live C.h id b->q9 C id b
 inj:∀id cT n b b',live C.h id b->live C.h cT b'->C.at id n->C.at cT n->id=cT
 Mr:∀id b n,live C.h id b->C.κ id n->n<C.w.heap.size
 x:∀n,C.X n->n<C.w.heap.size/\¬C.own n
def pQ:au->au->Prop
 | .tab m sz jA,.tab m' _ akL=>m=m'/\(m=false->jA.length=akL.length)
 | .box cs,.box ds=>cs.length=ds.length
 | .arr sz es,.arr nN es'=>sz=nN/\es.length=es'.length
 |_,_=>False
theorem dx:∀b,pQ b b
 | .box _=>rfl
 | .arr _ _=>⟨rfl,rfl⟩
 | .tab _ _ _=>⟨rfl,λ_=>rfl⟩
theorem jg:∀{a b c},pQ a b->pQ b c->pQ a c
 | .tab _ _ _,.tab _ _ _,.tab _ _ _,h,k=>⟨h.1.trans k.1,λe=>(h.2 e).trans (k.2 (h.1▸e))⟩
 | .tab _ _ _,.box _,_,h,_=>h.elim
 | .tab _ _ _,.arr _ _,_,h,_=>h.elim
 | .box _,.tab _ _ _,_,h,_=>h.elim
 | .arr _ _,.tab _ _ _,_,h,_=>h.elim
 | .box _,.box _,.tab _ _ _,_,h=>h.elim
 | .arr _ _,.arr _ _,.tab _ _ _,_,h=>h.elim
 | .tab _ _ _,.tab _ _ _,.box _,_,h=>h.elim
 | .tab _ _ _,.tab _ _ _,.arr _ _,_,h=>h.elim
 | .box _,.box _,.box _,h,k=>Eq.trans h k
 | .arr _ _,.arr _ _,.arr _ _,h,k=>⟨h.1.trans k.1,h.2.trans k.2⟩
 | .box _,.arr _ _,_,h,_=>h.elim
 | .arr _ _,.box _,_,h,_=>h.elim
 | .box _,.box _,.arr _ _,_,h=>h.elim
 | .arr _ _,.arr _ _,.box _,_,h=>h.elim
structure Ext (C C':Ctx):Prop where
 tape:C'.w.tape=C.w.tape
 os:C'.w.os=C.w.os
 out:C'.w.output=C.w.output
 size:C.w.heap.size<=C'.w.heap.size
 X:C'.X=C.X
 keep:∀b,b<C.w.heap.size->¬C.own b->C'.w.heap[b]? =C.w.heap[b]?
 own:∀b,b<C.w.heap.size->C'.own b->C.own b
 qd:∀id,known C.h id->known C'.h id/\∀b',live C'.h id b'->∃b,live C.h id b/\C'.ι id=C.ι id/\pQ b b'
 row:∀b carr e fr,C.own b->C.w.heap[b]? =some (.cells carr e fr)->∃cX fr',C'.w.heap[b]? =some (.cells cX e fr')/\cX.size=carr.size
structure fV (m:Nat)(C C':Ctx):Prop where
 tape:C'.w.tape=C.w.tape
 os:C'.w.os=C.w.os
 out:C'.w.output=C.w.output
 size:C.w.heap.size<=C'.w.heap.size
 X:C'.X=C.X
 keep:∀b,b<C.w.heap.size->¬C.own b->C'.w.heap[b]? =C.w.heap[b]?
 own:∀b,b<C.w.heap.size->C'.own b->C.own b
 qd:∀id,id<m->known C.h id->known C'.h id/\∀b',live C'.h id b'->∃b,live C.h id b/\C'.ι id=C.ι id/\pQ b b'
 row:∀b carr e fr,C.own b->C.w.heap[b]? =some (.cells carr e fr)->∃cX fr',C'.w.heap[b]? =some (.cells cX e fr')/\cX.size=carr.size
theorem Ext.m {C C':Ctx}(h:Ext C C')(m:Nat):fV m C C':=
 ⟨h.tape,h.os,h.out,h.size,h.X,h.keep,h.own,λid _ hk=>h.qd id hk,h.row⟩
theorem U5 {h:List bw}{id:Nat}(hk:known h id):id<h.length:=by
 rcases y7 id h.length with h'|h'
 ·exact h'
 ·exfalso;apply hk;rw[dp];simp[List.getD,h']
theorem fV.full {m:Nat}{C C':Ctx}(h:fV m C C')(hm:C.h.length<=m):Ext C C':=
 ⟨h.tape,h.os,h.out,h.size,h.X,h.keep,h.own,λid hk=>h.qd id (gp (U5 hk) hm) hk,h.row⟩
theorem Ext.refl (C:Ctx):Ext C C:=
 ⟨rfl,rfl,rfl,dB _,rfl,λ_ _ _=>rfl,λ_ _ h=>h,λ_ h=>⟨h,λb' hb=>⟨b',hb,rfl,dx _⟩⟩,λ_ carr _ fr _ h=>⟨carr,fr,h,rfl⟩⟩
theorem Ext.trans {A B C:Ctx}(h:Ext A B)(k:Ext B C):Ext A C where
 tape:=k.tape.trans h.tape
 os:=k.os.trans h.os
 out:=k.out.trans h.out
 size:=fZ h.size k.size
 X:=k.X.trans h.X
 keep b hb ho:=by
  rw[k.keep b (gp hb h.size) (λh'=>ho (h.own b hb h')),h.keep b hb ho]
 own b hb ho:=h.own b hb (k.own b (gp hb h.size) ho)
 qd id bn:=by
  obtain⟨h1,h2⟩:=h.qd id bn;obtain⟨k1,k2⟩:=k.qd id h1;refine⟨k1,λc hc=> ?_⟩;obtain⟨b,hb,e1,l1⟩:=k2 c hc;obtain⟨a,ha,e2,l2⟩:=h2 b hb;exact⟨a,ha,e1.trans e2,jg l2 l1⟩
 row b carr e fr ho hc:=by
  obtain⟨c1,f1,h1,s1⟩:=h.row b carr e fr ho hc;by_cases hb:B.own b
  ·obtain⟨c2,f2,h2,s2⟩:=k.row b c1 e f1 hb h1;exact⟨c2,f2,h2,s2.trans s1⟩
  ·have hlt:b<B.w.heap.size:=(c_.1 h1).1;exact⟨c1,f1,by rw[k.keep b hlt hb];exact h1,s1⟩
theorem fV.trans {m:Nat}{A B C:Ctx}(h:fV m A B)(k:Ext B C):fV m A C where
 tape:=k.tape.trans h.tape
 os:=k.os.trans h.os
 out:=k.out.trans h.out
 size:=fZ h.size k.size
 X:=k.X.trans h.X
 keep b hb ho:=by
  rw[k.keep b (gp hb h.size) (λh'=>ho (h.own b hb h')),h.keep b hb ho]
 own b hb ho:=h.own b hb (k.own b (gp hb h.size) ho)
 qd id him bn:=by
  obtain⟨h1,h2⟩:=h.qd id him bn;obtain⟨k1,k2⟩:=k.qd id h1;refine⟨k1,λc hc=> ?_⟩;obtain⟨b,hb,e1,l1⟩:=k2 c hc;obtain⟨a,ha,e2,l2⟩:=h2 b hb;exact⟨a,ha,e1.trans e2,jg l2 l1⟩
 row b carr e fr ho hc:=by
  obtain⟨c1,f1,h1,s1⟩:=h.row b carr e fr ho hc;by_cases hb:B.own b
  ·obtain⟨c2,f2,h2,s2⟩:=k.row b c1 e f1 hb h1;exact⟨c2,f2,h2,s2.trans s1⟩
  ·have hlt:b<B.w.heap.size:=(c_.1 h1).1;exact⟨c1,f1,by rw[k.keep b hlt hb];exact h1,s1⟩
theorem fV.B1 {m k:Nat}{A B C:Ctx}(h:fV m A B)(g:fV k B C)(Xy:m<=k):fV m A C where
 tape:=g.tape.trans h.tape
 os:=g.os.trans h.os
 out:=g.out.trans h.out
 size:=fZ h.size g.size
 X:=g.X.trans h.X
 keep b hb ho:=by
  rw[g.keep b (gp hb h.size) (λh'=>ho (h.own b hb h')),h.keep b hb ho]
 own b hb ho:=h.own b hb (g.own b (gp hb h.size) ho)
 qd id him bn:=by
  obtain⟨h1,h2⟩:=h.qd id him bn;obtain⟨k1,k2⟩:=g.qd id (gp him Xy) h1;refine⟨k1,λc hc=> ?_⟩;obtain⟨b,hb,e1,l1⟩:=k2 c hc;obtain⟨a,ha,e2,l2⟩:=h2 b hb;exact⟨a,ha,e1.trans e2,jg l2 l1⟩
 row b carr e fr ho hc:=by
  obtain⟨c1,f1,h1,s1⟩:=h.row b carr e fr ho hc;by_cases hb:B.own b
  ·obtain⟨c2,f2,h2,s2⟩:=g.row b c1 e f1 hb h1;exact⟨c2,f2,h2,s2.trans s1⟩
  ·have hlt:b<B.w.heap.size:=(c_.1 h1).1;exact⟨c1,f1,by rw[g.keep b hlt hb];exact h1,s1⟩
theorem Ext.gr {C C':Ctx}(h:Ext C C')(g:afu C):afu C' where
 low b hb:=by
  obtain⟨h1,h2⟩:=g.low b hb;exact⟨gp h1 h.size,λho=>h2 (h.own b h1 ho)⟩
 at_:=by
  have:VW C'.w=VW C.w:=by
   funext b;unfold VW;split
   ·rename_i hb;obtain⟨h1,h2⟩:=g.low b hb;exact h.keep b h1 h2
   ·rfl
  rw[this];exact g.at_
theorem Ext.O {C C':Ctx}(h:Ext C C')(b:Nat)(hb:b<C.w.heap.size)(ho:C'.O b):C.O b:=by
 rcases ho with hx|hw
 ·exact .inl (by rw[<-h.X];exact hx)
 ·exact .inr (h.own b hb hw)
theorem Ext.AF {C C':Ctx}(h:Ext C C')(b:Nat)(hb:b<C.w.heap.size)(ho:¬C.O b):C'.w.heap[b]? =C.w.heap[b]?:=
 h.keep b hb λhw=>ho (.inr hw)
structure nM (C C':Ctx):Prop where
 size:C.w.heap.size<=C'.w.heap.size
 AF:∀b,b<C.w.heap.size->¬C.O b->∀off x,C.w.cell? ⟨b,off,none⟩=some x->C'.w.cell? ⟨b,off,none⟩=some x
 O:∀b,b<C.w.heap.size->C'.O b->C.O b
 qd:∀id,known C.h id->known C'.h id/\∀b',live C'.h id b'->∃b,live C.h id b/\C'.ι id=C.ι id/\pQ b b'
 row:∀b carr e fr,C.own b->C.w.heap[b]? =some (.cells carr e fr)->∃cX fr',C'.w.heap[b]? =some (.cells cX e fr')/\cX.size=carr.size
theorem Ext.W {C C':Ctx}(h:Ext C C'):nM C C':=⟨h.size,λb hb ho off x hx=>by rw[nT (w:=C.w) (h.AF b hb ho)];exact hx,h.O,h.qd,h.row⟩
theorem nM.vp {C C':Ctx}(h:nM C C'){v:PV}{u:Value}(hv:C.P v u):C'.P v u:=
 hv.ext' h.size h.AF h.O
theorem xI {b:au}{sz:Nat}{es:List (List PV)}(h:pQ b (.arr sz es)):∃QG,b=.arr sz QG/\QG.length=es.length:=by
 cases b with
 |box _=>exact h.elim
 |tab _ _ _=>exact h.elim
 |arr sz0 QG=>obtain⟨rfl,h2⟩:=h;exact⟨QG,rfl,h2⟩
theorem xH {b:au}{cs:List AV}(h:pQ b (.box cs)):∃cs0,b=.box cs0/\cs0.length=cs.length:=by
 cases b with
 |arr _ _=>exact h.elim
 |tab _ _ _=>exact h.elim
 |box cs0=>exact⟨cs0,rfl,h⟩
theorem xG {b:au}{m:Bool}{sz:Nat}{jA:List (Int×MV)}(h:pQ b (.tab m sz jA)):∃s qI,b=.tab m s qI/\(m=false->qI.length=jA.length):=by
 cases b with
 |arr _ _=>exact h.elim
 |box _=>exact h.elim
 |tab m' s qI=>obtain⟨rfl,h2⟩:=h;exact⟨s,qI,rfl,h2⟩
theorem nM.vt {C C':Ctx}(h:nM C C'){v:TV}{u:Value}(hv:VT C v u):VT C' v u:=by
 cases v with
 |p v=>exact h.vp hv
 |agg cs=>obtain⟨us,rfl,ha⟩:=hv;exact⟨us,rfl,ha.mono λ_ _=>h.vp⟩
 |ak id=>
  obtain⟨hk,DA,hv⟩:=hv;obtain⟨oV,he⟩:=h.qd id hk;refine⟨oV,DA,λsz es hl=> ?_⟩;obtain⟨b,hb,hι,hlk⟩:=he _ hl;obtain⟨QG,rfl,hlen⟩:=xI hlk;have:=hv sz QG hb;unfold HS at this|-;rw[hι];cases hi:C.ι id with
  |none=>rw[hi]at this;obtain⟨rfl,hu⟩:=this;exact⟨Bj.1 hlen.symm,hu⟩
  |some n=>
   rw[hi]at this;obtain⟨cap,carr,e,fr,hu,hle,hrow,j0⟩:=this;obtain⟨c2,f2,h2,s2⟩:=h.row n carr e fr ⟨id,_,hb,.inl hi⟩ hrow;exact⟨cap,c2,e,f2,by rw[hu,hlen],by omega,h2,by omega⟩
 |ptr id off=>
  obtain⟨hk,n,hu,hv⟩:=hv;obtain⟨oV,he⟩:=h.qd id hk;refine⟨oV,n,hu,λcs hl=> ?_⟩;obtain⟨b,hb,hι,hlk⟩:=he _ hl;obtain⟨cs0,rfl,_⟩:=xH hlk;rw[hι];exact hv cs0 hb
theorem fV.abj {m:Nat}{C C':Ctx}(h:fV m C C'){v:AV}{u:Value}(hl:G_ m v=true)(hv:VA C v u):VA C' v u:=by
 have hP:∀{v:PV} {u:Value},C.P v u->C'.P v u:=λ{v u} hv=>by
  refine hv.ext' h.size (λb hb ho off x hx=> ?_) (λb hb ho=> ?_)
  ·rw[nT (w:=C.w) (h.keep b hb λhw=>ho (.inr hw))];exact hx
  ·rcases ho with hx|hw
   ·exact .inl (by rw[<-h.X];exact hx)
   ·exact .inr (h.own b hb hw)
 cases v with
 |undef=>trivial
 |t v=>
  cases v with
  |p v=>exact hP hv
  |agg cs=>obtain⟨us,rfl,ha⟩:=hv;exact⟨us,rfl,ha.mono λ_ _=>hP⟩
  |ak id=>
   obtain⟨hk,DA,hv⟩:=hv;obtain⟨oV,he⟩:=h.qd id (by simpa[G_]using hl) hk;refine⟨oV,DA,λsz es hl=> ?_⟩;obtain⟨b,hb,hι,hlk⟩:=he _ hl;obtain⟨QG,rfl,hlen⟩:=xI hlk;have:=hv sz QG hb;unfold HS at this|-;rw[hι];cases hi:C.ι id with
   |none=>rw[hi]at this;obtain⟨rfl,hu⟩:=this;exact⟨Bj.1 hlen.symm,hu⟩
   |some n=>
    rw[hi]at this;obtain⟨cap,carr,e,fr,hu,hle,hrow,j0⟩:=this;obtain⟨c2,f2,h2,s2⟩:=h.row n carr e fr ⟨id,_,hb,.inl hi⟩ hrow;exact⟨cap,c2,e,f2,by rw[hu,hlen],by omega,h2,by omega⟩
  |ptr id off=>
   obtain⟨hk,n,hu,hv⟩:=hv;obtain⟨oV,he⟩:=h.qd id (by simpa[G_]using hl) hk;refine⟨oV,n,hu,λcs hl=> ?_⟩;obtain⟨b,hb,hι,hlk⟩:=he _ hl;obtain⟨cs0,rfl,_⟩:=xH hlk;rw[hι];exact hv cs0 hb
 |_=>cases hl
theorem nM.RI {C C':Ctx}(h:nM C C'){v:TV⊕List TV}{u:Value}(hv:kA C v u):kA C' v u:=by
 cases v with
 |inl v=>exact h.vt hv
 |inr vs=>obtain⟨us,rfl,ha⟩:=hv;exact⟨us,rfl,ha.mono λ_ _=>h.vt⟩
theorem nM.va {C C':Ctx}(h:nM C C'){v:AV}{u:Value}(hv:VA C v u):VA C' v u:=by
 cases v with
 |undef=>trivial
 |no=>exact hv
 |t v=>exact h.vt hv
 |uJ cs=>
  obtain⟨b,off,hu,hb,ho,hc⟩:=hv;refine⟨b,off,hu,gp hb h.size,λh'=>ho (h.O b hb h'),λj c hj=> ?_⟩;obtain⟨x,hx,hp⟩:=hc j c hj;exact⟨x,h.AF b hb ho _ _ hx,h.vp hp⟩
 |xR id i o=>
  obtain⟨hk,n,k,hu,hv⟩:=hv;obtain⟨oV,he⟩:=h.qd id hk;refine⟨oV,n,k,hu,λsz es hl=> ?_⟩;obtain⟨b,hb,hι,hlk⟩:=he _ hl;obtain⟨QG,rfl,hlen⟩:=xI hlk;obtain⟨h1,h2,h3⟩:=hv sz QG hb;exact⟨by omega,by rw[hι];exact h2,h3⟩
 |fn f caps=>obtain⟨us,rfl,ha⟩:=hv;exact⟨us,rfl,ha.mono λ_ _=>h.vt⟩
 |XU vs=>obtain⟨us,rfl,ha⟩:=hv;exact⟨us,rfl,ha.mono λ_ _=>h.vt⟩
 |bm vs=>obtain⟨us,rfl,ha⟩:=hv;exact⟨us,rfl,ha.mono λ_ _=>h.vt⟩
 |C8 id=>
  obtain⟨hk,hv⟩:=hv;obtain⟨oV,he⟩:=h.qd id hk;refine⟨oV,hv.imp (λh=>h) λ⟨n,hu,hv⟩=>⟨n,hu,λcs hl=> ?_⟩⟩;obtain⟨b,hb,hι,hlk⟩:=he _ hl;obtain⟨cs0,rfl,_⟩:=xH hlk;rw[hι];exact hv cs0 hb
 |aj f cs=>obtain⟨us,rfl,ha⟩:=hv;exact⟨us,rfl,ha.mono λ_ _=>h.vp⟩
 |NK id=>
  obtain⟨hk,n,cap,len,hu,hc,hv⟩:=hv;obtain⟨oV,he⟩:=h.qd id hk;refine⟨oV,n,cap,len,hu,hc,λsz jA hl=> ?_⟩;obtain⟨b,hb,hι,hlk⟩:=he _ hl;obtain⟨s,qI,rfl,h2⟩:=xG hlk;rw[hι,<-h2 rfl];exact hv s qI hb
 |Pf id i=>
  obtain⟨hk,n,hu,hv⟩:=hv;obtain⟨oV,he⟩:=h.qd id hk;refine⟨oV,n,hu,λsz jA hl=> ?_⟩;obtain⟨b,hb,hι,hlk⟩:=he _ hl;obtain⟨s,qI,rfl,h2⟩:=xG hlk;rw[hι,<-h2 rfl];exact hv s qI hb
 |hmap id=>
  obtain⟨hk,n,hu,hv⟩:=hv;obtain⟨oV,he⟩:=h.qd id hk;refine⟨oV,n,hu,λsz jA hl=> ?_⟩;obtain⟨b,hb,hι,hlk⟩:=he _ hl;obtain⟨s,qI,rfl,h2⟩:=xG hlk;rw[hι];exact hv s qI hb
 |IE ps=>obtain⟨us,rfl,ha⟩:=hv;exact⟨us,rfl,ha.mono λ_ _=>h.RI⟩
 |iG f id o=>obtain⟨u',rfl,hp⟩:=hv;exact⟨u',rfl,h.vt hp⟩
 |rev f es=>
  obtain⟨b,hu,hb,ho,x,hx,hp⟩:=hv;exact⟨b,hu,gp hb h.size,λh'=>ho (h.O b hb h'),x,h.AF b hb ho _ _ hx,h.vp hp⟩
theorem nM.adG {C C':Ctx}(h:nM C C'){id sz:Nat}{es:List (List PV)}{u:Value}(hr:Xn C id sz es u)(hκ:∀n,C.κ id n->C'.κ id n)(hk:∀n,C.κ id n->C'.w.heap[n]? =C.w.heap[n]?):Xn C' id sz es u:=by
 rcases hr with hr|⟨g,cap,carr,e,fr,h1,h2,h3,h4,h5,h6,h7,h8,h9⟩
 ·exact .inl hr
 ·refine .inr ⟨g,cap,carr,e,fr,h1,h2,hκ g h3,by rw[hk g h3];exact h4,h5,h6,h7,h8,λi j e c he hj=> ?_⟩;obtain⟨u,a1,a2⟩:=h9 i j e c he hj;exact⟨u,a1,h.vp a2⟩
theorem nM.mvR {C C':Ctx}(h:nM C C'){id sz:Nat}{x:MV}{u:Value}(hr:MVR C id sz x u)(hκ:∀n,C.κ id n->C'.κ id n)(hk:∀n,C.κ id n->C'.w.heap[n]? =C.w.heap[n]?):MVR C' id sz x u:=by
 cases x with
 |pv v=>exact h.vp hr
 |row es=>exact h.adG hr hκ hk
 |gone=>exact hr
theorem nM.adu {C C':Ctx}(h:nM C C'){id sz:Nat}{jA:List (Int×MV)}{vals:List Value}(hr:Xm C id sz jA vals)(hκ:∀n,C.κ id n->C'.κ id n)(hk:∀n,C.κ id n->C'.w.heap[n]? =C.w.heap[n]?):Xm C' id sz jA vals:=
 ⟨hr.len,hr.one,λi x u hx hu=>h.mvR (hr.val i x u hx hu) hκ hk,hr.apart⟩
theorem aa3.same {w w':World}{b:Nat}{m:Bool}{jA:List (Int×MV)}{vals:List Value}(h:aa3 w b m jA vals)(hk:w'.heap[b]? =w.heap[b]?):aa3 w' b m jA vals:=by
 cases m with
 |false=>obtain⟨carr,e,fr,h1,h2⟩:=h;exact⟨carr,e,fr,by rw[hk];exact h1,h2⟩
 |true=>obtain⟨es,clock,h1,h2⟩:=h;exact⟨es,clock,by rw[hk];exact h1,h2⟩
theorem nM.QV {C C':Ctx}(h:nM C C'){id:Nat}{b:au}(hb:q9 C id b)(hι:C'.ι id=C.ι id)(hκ:∀n,C'.κ id n↔C.κ id n)(hka:∀n,C.at id n->C'.w.heap[n]? =C.w.heap[n]?):q9 C' id b:=by
 have hk:∀n,C.ι id=some n->C'.w.heap[n]? =C.w.heap[n]?:=λn hn=>hka n (.inl hn);cases b with
 |tab m sz jA=>
  obtain⟨n,vals,h1,h2,h3,h4⟩:=hb;exact⟨n,vals,by rw[hι];exact h1,λh=>h2 ((hκ n).1 h),h3.same (hk n h1),h.adu h4 (λn=>(hκ n).2) (λn hn=>hka n (.inr hn))⟩
 |box cs=>
  obtain⟨n,carr,e,fr,hi,hr,hs,hf,hc⟩:=hb;refine⟨n,carr,e,fr,by rw[hι];exact hi,by rw[hk n hi];exact hr,hs,hf,λj c hj=> ?_⟩;obtain⟨u,h1,h2,h3⟩:=hc j c hj;exact⟨u,h1,h.va h2,h3⟩
 |arr sz es=>
  rcases hb with⟨hi,he⟩|⟨n,carr,e,fr,hi,hr,hs,hf,hz,h1,hc⟩
  ·exact .inl ⟨by rw[hι];exact hi,he⟩
  ·refine .inr ⟨n,carr,e,fr,by rw[hι];exact hi,by rw[hk n hi];exact hr,hs,hf,hz,h1,λi j e c he hj=> ?_⟩;obtain⟨u,h1,h2⟩:=hc i j e c he hj;exact⟨u,h1,h.vp h2⟩
theorem Ext.vp {C C':Ctx}(h:Ext C C'){v:PV}{u:Value}(hv:C.P v u):C'.P v u:=h.W.vp hv
theorem Ext.vt {C C':Ctx}(h:Ext C C'){v:TV}{u:Value}(hv:VT C v u):VT C' v u:=h.W.vt hv
theorem Ext.RI {C C':Ctx}(h:Ext C C'){v:TV⊕List TV}{u:Value}(hv:kA C v u):kA C' v u:=h.W.RI hv
theorem Ext.va {C C':Ctx}(h:Ext C C'){v:AV}{u:Value}(hv:VA C v u):VA C' v u:=h.W.va hv
theorem Ext.adG {C C':Ctx}(h:Ext C C'){id sz:Nat}{es:List (List PV)}{u:Value}(hr:Xn C id sz es u)(hκ:∀n,C.κ id n->C'.κ id n)(hk:∀n,C.κ id n->C'.w.heap[n]? =C.w.heap[n]?):Xn C' id sz es u:=h.W.adG hr hκ hk
theorem Ext.mvR {C C':Ctx}(h:Ext C C'){id sz:Nat}{x:MV}{u:Value}(hr:MVR C id sz x u)(hκ:∀n,C.κ id n->C'.κ id n)(hk:∀n,C.κ id n->C'.w.heap[n]? =C.w.heap[n]?):MVR C' id sz x u:=h.W.mvR hr hκ hk
theorem Ext.adu {C C':Ctx}(h:Ext C C'){id sz:Nat}{jA:List (Int×MV)}{vals:List Value}(hr:Xm C id sz jA vals)(hκ:∀n,C.κ id n->C'.κ id n)(hk:∀n,C.κ id n->C'.w.heap[n]? =C.w.heap[n]?):Xm C' id sz jA vals:=h.W.adu hr hκ hk
theorem Ext.QV {C C':Ctx}(h:Ext C C'){id:Nat}{b:au}(hb:q9 C id b)(hι:C'.ι id=C.ι id)(hκ:∀n,C'.κ id n↔C.κ id n)(hka:∀n,C.at id n->C'.w.heap[n]? =C.w.heap[n]?):q9 C' id b:=h.W.QV hb hι hκ hka
def Ctx.ag (C:Ctx)(w:World)(X:Nat->Prop):Ctx:=⟨w,C.ι,C.h,X,C.κ⟩
theorem OQ {C:Ctx}(az:Ok C){w:World}{X:Nat->Prop}(hs:C.w.heap.size<=w.heap.size)(hk:∀b,b<C.w.heap.size->¬C.X b->w.heap[b]? =C.w.heap[b]?)(hX:∀b,b<C.w.heap.size->X b->C.O b):nM C (C.ag w X) where
 size:=hs
 AF b hb ho off x hx:=by rw[nT (w:=C.w) (hk b hb λh=>ho (.inl h))];exact hx
 O b hb ho:=by
  rcases ho with h|h
  ·exact hX b hb h
  ·exact .inr h
 qd id h:=⟨h,λb' hb=>⟨b',hb,rfl,dx _⟩⟩
 row b carr e fr ho hc:=⟨carr,fr,by show w.heap[b]? =_;rw[hk b (c_.1 hc).1 λh=>(az.x b h).2 ho];exact hc,rfl⟩
theorem acb {C:Ctx}(az:Ok C)(hlt:∀{id b n},live C.h id b->C.at id n->n<C.w.heap.size){w:World}{X:Nat->Prop}(hs:C.w.heap.size<=w.heap.size)(hk:∀b,b<C.w.heap.size->¬C.X b->w.heap[b]? =C.w.heap[b]?)(hX:∀b,b<C.w.heap.size->X b->C.O b)
  (hX2:∀b,X b->b<w.heap.size/\¬C.own b) (hg:∀b,b<nG->w.heap[b]? =C.w.heap[b]?):Ok (C.ag w X) where
 gr:=⟨λb hb=>⟨gp (az.gr.low b hb).1 hs,(az.gr.low b hb).2⟩,by
  have:VW (C.ag w X).w=VW C.w:=by
   funext b;unfold VW;split
   ·rename_i hb;exact hg b hb
   ·rfl
  rw[this];exact az.gr.at_⟩
 blk id b hl:=(OQ az hs hk hX).QV (az.blk id b hl) rfl (λ_=>FK) λn hn=>hk n (hlt hl hn) λh=>(az.x n h).2 ⟨id,b,hl,hn⟩
 inj:=az.inj
 Mr id b n hl hn:=gp (az.Mr id b n hl hn) hs
 x n hn:=hX2 n hn
end
theorem Ok.step {C C':Ctx}(hx:Ext C C')(az:Ok C)
  (hb:∀id b,live C'.h id b->q9 C' id b\/(live C.h id b/\C'.ι id=C.ι id/\(∀n,C'.κ id n↔C.κ id n)/\∀n,C.at id n->C'.w.heap[n]? =C.w.heap[n]?))
  (inj:∀id cT n b b',live C'.h id b->live C'.h cT b'->C'.at id n->C'.at cT n->id=cT)
  (Mr:∀id b n,live C'.h id b->C'.κ id n->(∃b',live C.h id b'/\C.κ id n)\/n<C'.w.heap.size):Ok C' where
 gr:=hx.gr az.gr
 blk id b hl:=by
  rcases hb id b hl with h|⟨h1,h2,h3,h4⟩
  ·exact h
  ·exact hx.QV (az.blk id b h1) h2 h3 h4
 inj:=inj
 Mr id b n hl hn:=by
  rcases Mr id b n hl hn with⟨b',h1,h2⟩|h
  ·exact gp (az.Mr id b' n h1 h2) hx.size
  ·exact h
 x n hn:=by
  rw[hx.X]at hn;obtain⟨h1,h2⟩:=az.x n hn;exact⟨gp h1 hx.size,λh=>h2 (hx.own n h1 h)⟩
theorem Ok.Q7 {C:Ctx}(az:Ok C){id:Nat}{b:au}{n:Nat}(hl:live C.h id b)(hi:C.at id n):n<C.w.heap.size:=by
 rcases hi with hi|hi
 ·have:=az.blk id b hl;cases b with
  |tab m sz jA=>
   obtain⟨k,vals,h1,_,h2,_⟩:=this;rw[hi]at h1;cases h1;cases m with
   |false=>obtain⟨_,_,_,h,_⟩:=h2;exact(c_.1 h).1
   |true=>obtain⟨_,_,h,_⟩:=h2;exact(c_.1 h).1
  |box cs=>
   obtain⟨m,carr,e,fr,h1,h2,_⟩:=this;rw[hi]at h1;cases h1;exact(c_.1 h2).1
  |arr sz es=>
   rcases this with⟨h1,_⟩|⟨m,carr,e,fr,h1,h2,_⟩
   ·rw[hi]at h1;cases h1
   ·rw[hi]at h1;cases h1;exact(c_.1 h2).1
 ·exact az.Mr id b n hl hi
def flat:au->Prop
 | .tab _ _ _=>False
 |_=>True
theorem Ok.lt {C:Ctx}(az:Ok C){id:Nat}{b:au}{n:Nat}(hl:live C.h id b)(hf:flat b)(hi:C.ι id=some n):n<C.w.heap.size/\∃carr e fr,C.w.heap[n]? =some (.cells carr e fr):=by
 have:=az.blk id b hl;cases b with
 |tab _ _ _=>exact hf.elim
 |box cs=>
  obtain⟨m,carr,e,fr,h1,h2,_⟩:=this;rw[hi]at h1;cases h1;exact⟨(c_.1 h2).1,carr,e,fr,h2⟩
 |arr sz es=>
  rcases this with⟨h1,_⟩|⟨m,carr,e,fr,h1,h2,_⟩
  ·rw[hi]at h1;cases h1
  ·rw[hi]at h1;cases h1;exact⟨(c_.1 h2).1,carr,e,fr,h2⟩
def Ctx.ke (C:Ctx)(w:World):Ctx:=⟨w,C.ι,C.h,C.X,C.κ⟩
theorem zJ (C:Ctx)(w:World)(h1:w.heap=C.w.heap)(h2:w.tape=C.w.tape)(h3:w.os=C.w.os)(h4:w.output=C.w.output):Ext C (C.ke w) where
 tape:=h2
 os:=h3
 out:=h4
 size:=by show _<=w.heap.size;rw[h1];exact dB _
 X:=rfl
 keep b _ _:=by show w.heap[b]? =_;rw[h1]
 own _ _ h:=h
 qd id h:=⟨h,λb hb=>⟨b,hb,rfl,dx _⟩⟩
 row b carr e fr _ h:=⟨carr,fr,by show w.heap[b]? =_;rw[h1];exact h,rfl⟩
theorem Jq {C:Ctx}(az:Ok C)(w:World)(h1:w.heap=C.w.heap)(h2:w.tape=C.w.tape)(h3:w.os=C.w.os)(h4:w.output=C.w.output):Ok (C.ke w):=
 az.step (zJ C w h1 h2 h3 h4) (λid b hl=>.inr ⟨hl,rfl,λ_=>FK,λn _=>by show w.heap[n]? =_;rw[h1]⟩) (λid cT n b b'=>az.inj id cT n b b') (λid b n h1 h2=>.inl ⟨b,h1,h2⟩)
def bK (us:cD):Prop:=∀u∈us,u.2=.dead
theorem bR {h:List bw}{id cT:Nat}{e:bw}{b:au}:live (upd e h id) cT b↔(id=cT/\cT<h.length/\e=.blk b)\/(¬(id=cT/\cT<h.length)/\live h cT b):=by
 unfold live;rw[ep];by_cases hc:id=cT/\cT<h.length
 ·rw[aK hc];exact⟨λhe=>.inl ⟨hc.1,hc.2,he⟩,λhe=>he.elim (λh1=>h1.2.2) (λh1=>absurd hc h1.1)⟩
 ·rw[aC hc];exact⟨λhe=>.inr ⟨hc,he⟩,λhe=>he.elim (λh1=>absurd ⟨h1.1,h1.2.1⟩ hc) (λh1=>h1.2)⟩
theorem kL {h:List bw}{id cT:Nat}{e:bw}(he:e≠.fresh)(hk:known h cT):known (upd e h id) cT:=by
 unfold known at hk|-;rw[ep];split
 ·exact he
 ·exact hk
theorem ew:∀(us:cD) (h:List bw),(bh us h).length=h.length
 |[],_=>rfl
 |(id,e)::us,h=>by rw[bh,ew us];exact bU ..
theorem kW:∀(us vs:cD) (h:List bw),bh (us++vs) h=bh vs (bh us h)
 |[],_,_=>rfl
 |(id,e)::us,vs,h=>by simp[bh,kW us vs]
theorem Qg {h:List bw}{id cT:Nat}{b:au}(hl:live (upd .dead h id) cT b):live h cT b:=by
 rcases bR.1 hl with⟨_,_,h⟩|⟨_,h⟩
 ·cases h
 ·exact h
theorem er:∀{us:cD} (_:bK us) {h:List bw} {id:Nat} {b:au},live (bh us h) id b->live h id b
 |[],_,_,_,_,hl=>hl
 |(id,e)::us,hd,h,cT,b,hl=>by
  obtain rfl:e=.dead:=hd (id,e) (by simp);exact Qg (er (λu hu=>hd u (by simp[hu])) hl)
theorem iq:∀{us:cD} (_:∀u∈us,u.2≠.fresh) {h:List bw} {id:Nat},known h id->known (bh us h) id
 |[],_,_,_,hk=>hk
 |(id,e)::us,hd,h,cT,hk=>iq (us:=us) (λu hu=>hd u (by simp[hu])) (kL (e:=e) (hd (id,e) (by simp)) hk)
theorem bK.nf {us:cD}(hd:bK us):∀u∈us,u.2≠.fresh:=λu hu=>by rw[hd u hu];simp
def Ctx.kill (C:Ctx)(us:cD):Ctx:=⟨C.w,C.ι,bh us C.h,C.X,C.κ⟩
theorem cB (C:Ctx){us:cD}(hd:bK us):Ext C (C.kill us) where
 tape:=rfl
 os:=rfl
 out:=rfl
 size:=dB _
 X:=rfl
 keep _ _ _:=rfl
 own b _ h:=by
  obtain⟨id,blk,hl,hi⟩:=h;exact⟨id,blk,er hd hl,hi⟩
 qd id hk:=⟨iq hd.nf hk,λb hb=>⟨b,er hd hb,rfl,dx _⟩⟩
 row b carr e fr _ h:=⟨carr,fr,h,rfl⟩
theorem ic {C:Ctx}(az:Ok C){us:cD}(hd:bK us):Ok (C.kill us):=
 az.step (cB C hd) (λid b hl=>.inr ⟨er hd hl,rfl,λ_=>FK,λ_ _=>rfl⟩)
  (λid cT n b b' h1 h2=>az.inj id cT n b b' (er hd h1) (er hd h2)) (λid b n h1 h2=>.inl ⟨b,er hd h1,h2⟩)
theorem xq:∀{us:cD} (_:bK us) {h:List bw} {id:Nat} (_:(id,bw.dead)∈us) {b:au},¬live (bh us h) id b
 |(id,e)::us,hd,h,cT,hm,b,hl=>by
  obtain rfl:e=.dead:=hd (id,e) (by simp);have pU:bK us:=λu hu=>hd u (by simp[hu]);rcases gR.1 hm with h1|h1
  ·obtain⟨rfl,_⟩:=Prod.mk.inj h1;have:=er pU hl;rcases bR.1 this with⟨_,_,h⟩|⟨h2,h3⟩
   ·cases h
   ·
    have hlt:cT<h.length:=by
     rcases y7 cT h.length with h'|h'
     ·exact h'
     ·unfold live at h3;rw[dp]at h3;simp[List.getD,EN h']at h3
    exact h2 ⟨rfl,hlt⟩
  ·exact xq pU h1 hl
def pt (ι:Nat->Option Nat)(nid:Nat)(x:Option Nat):Nat->Option Nat:=λi=>if i=nid then x else ι i
theorem cG (ι:Nat->Option Nat)(nid:Nat)(x:Option Nat):pt ι nid x nid=x:=by simp[pt]
theorem gM {ι:Nat->Option Nat}{nid i:Nat}{x:Option Nat}(h:i≠nid):pt ι nid x i=ι i:=by simp[pt,h]
def Ctx.ky (C:Ctx)(w:World)(nid:Nat)(x:Option Nat)(B:au):Ctx:=⟨w,pt C.ι nid x,upd (.blk B) C.h nid,C.X,λi n=>i≠nid/\C.κ i n⟩
theorem O7 {C:Ctx}{w:World}{nid:Nat}{x:Option Nat}{B:au}{id n:Nat}(h:(C.ky w nid x B).at id n):(id=nid/\x=some n)\/(id≠nid/\C.at id n):=by
 by_cases he:id=nid
 ·subst he;rcases h with h|h
  ·have h':pt C.ι id x id=some n:=h;rw[cG]at h';exact .inl ⟨rfl,h'⟩
  ·exact absurd rfl h.1
 ·rcases h with h|h
  ·have h':pt C.ι nid x id=some n:=h;rw[gM he]at h';exact .inr ⟨he,.inl h'⟩
  ·exact .inr ⟨he,.inr h.2⟩
structure Grow (w w':World):Prop where
 tape:w'.tape=w.tape
 os:w'.os=w.os
 out:w'.output=w.output
 size:w.heap.size<=w'.heap.size
 keep:∀b,b<w.heap.size->w'.heap[b]? =w.heap[b]?
theorem Grow.refl (w:World):Grow w w:=⟨rfl,rfl,rfl,dB _,λ_ _=>rfl⟩
theorem Grow.alloc (w:World)(o:Obj):Grow w (w.alloc o):=
 ⟨rfl,rfl,rfl,by simp,λb hb=>by show(w.heap.push o)[b]? =_;rw[Array.getElem?_push,aC (by omega)]⟩
theorem s6 {h:List bw}{id nid:Nat}(hk:known h id)(hf:nth bw.fresh h nid=.fresh):id≠nid:=λe=>hk (e▸hf)
theorem nB (C:Ctx){w:World}(hg:Grow C.w w){nid:Nat}{x:Option Nat}{B:au}(hf:nth bw.fresh C.h nid=.fresh)
  (hx:∀n,x=some n->C.w.heap.size<=n):Ext C (C.ky w nid x B) where
 tape:=hg.tape
 os:=hg.os
 out:=hg.out
 size:=hg.size
 X:=rfl
 keep b hb _:=hg.keep b hb
 own b hb h:=by
  obtain⟨id,blk,hl,hi⟩:=h;rcases O7 hi with⟨_,nW⟩|⟨he,nW⟩
  ·have:=hx b nW;omega
  ·rcases bR.1 hl with⟨h1,_,_⟩|⟨_,h1⟩
   ·exact absurd h1.symm he
   ·exact⟨id,blk,h1,nW⟩
 qd id hk:=by
  have hne:=s6 hk hf;refine⟨kL (by simp) hk,λb hb=> ?_⟩;rcases bR.1 hb with⟨h1,_,_⟩|⟨_,h1⟩
  ·exact absurd h1.symm hne
  ·exact⟨b,h1,gM hne,dx _⟩
 row b carr e fr _ h:=⟨carr,fr,by rw[show(C.ky w nid x B).w.heap[b]? =w.heap[b]? from rfl,hg.keep b (c_.1 h).1];exact h,rfl⟩
theorem t_ {C:Ctx}(az:Ok C){w:World}(hg:Grow C.w w){nid:Nat}{x:Option Nat}{B:au}(hf:nth bw.fresh C.h nid=.fresh)
  (hx:∀n,x=some n->C.w.heap.size<=n) (hB:q9 (C.ky w nid x B) nid B):Ok (C.ky w nid x B):=by
 refine az.step (nB C hg hf hx) (λid b hl=> ?_) (λid cT n b b' h1 h2 e1 e2=> ?_) (λid b n h1 h2=> ?_)
 ·rcases bR.1 hl with⟨rfl,_,h1⟩|⟨hn,h1⟩
  ·cases h1;exact .inl hB
  ·have hne:=s6 (dX h1) hf;refine .inr ⟨h1,gM hne,λn=>⟨λh=>h.2,λh=>⟨hne,h⟩⟩,λn hn=>hg.keep n (az.Q7 h1 hn)⟩
 ·have key:∀{id b},live (C.ky w nid x B).h id b->(C.ky w nid x B).at id n->(id=nid/\x=some n)\/(id≠nid/\live C.h id b/\C.at id n):=by
   intro id b hl hi;rcases O7 hi with h|⟨he,nW⟩
   ·exact .inl h
   ·rcases bR.1 hl with⟨h1,_,_⟩|⟨_,h1⟩
    ·exact absurd h1.symm he
    ·exact .inr ⟨he,h1,nW⟩
  rcases key h1 e1 with⟨a1,a2⟩|⟨a1,a2,a3⟩<;>rcases key h2 e2 with⟨b1,b2⟩|⟨b1,b2,b3⟩
  ·rw[a1,b1]
  ·have:=hx n a2;have:=az.Q7 b2 b3;omega
  ·have:=hx n b2;have:=az.Q7 a2 a3;omega
  ·exact az.inj id cT n b b' a2 b2 a3 b3
 ·rcases bR.1 h1 with⟨h3,_,_⟩|⟨_,h3⟩
  ·exact absurd h3.symm h2.1
  ·exact .inl ⟨b,h3,h2.2⟩
theorem gh (w:World)(o:Obj):(w.alloc o).heap[w.heap.size]? =some o:=by
 show(w.heap.push o)[w.heap.size]? =_;simp
def Ctx.write (C:Ctx)(id n:Nat)(carr:Array Value)(B:au):Ctx:=⟨C.w.setRow n carr,C.ι,upd (.blk B) C.h id,C.X,C.κ⟩
theorem setRow_other (w:World)(n b:Nat)(carr:Array Value)(h:b≠n):(w.setRow n carr).heap[b]? =w.heap[b]?:=by
 unfold World.setRow;simp only[Jf];rw[aC (λe=>h e.symm)]
theorem fH (w:World)(n:Nat)(carr cX:Array Value)(e:TypeId)(fr:Nat×Nat)(h:w.heap[n]? =some (.cells carr e fr)):
  (w.setRow n cX).heap[n]? =some (.cells cX e fr):=by
 unfold World.setRow;simp[Jf,h]
theorem setRow_size (w:World)(n:Nat)(carr:Array Value):(w.setRow n carr).heap.size=w.heap.size:=by simp[World.setRow]
theorem zG {C:Ctx}{id n:Nat}{carr cX:Array Value}{e:TypeId}{fr:Nat×Nat}{B B':au}(hl:live C.h id B)(hi:C.ι id=some n)
  (hr:C.w.heap[n]? =some (.cells carr e fr)) (hs:cX.size=carr.size) (hlk:pQ B B'):Ext C (C.write id n cX B') where
 tape:=rfl
 os:=rfl
 out:=rfl
 size:=by show _<=(C.w.setRow n cX).heap.size;rw[setRow_size];exact dB _
 X:=rfl
 keep b _ ho:=setRow_other _ _ _ _ λhb=>ho ⟨id,B,hl,.inl (hb▸hi)⟩
 own b _ h:=by
  obtain⟨cT,blk,hl',nW⟩:=h;replace nW:C.at cT b:=nW;rcases bR.1 hl' with⟨rfl,_,_⟩|⟨_,h1⟩
  ·exact⟨_,B,hl,nW⟩
  ·exact⟨cT,blk,h1,nW⟩
 qd cT hk:=by
  refine⟨kL (by simp) hk,λb hb=> ?_⟩;rcases bR.1 hb with⟨rfl,_,h2⟩|⟨_,h1⟩
  ·cases h2;exact⟨B,hl,rfl,hlk⟩
  ·exact⟨b,h1,rfl,dx _⟩
 row b c2 e2 f2 _ h:=by
  by_cases hb:b=n
  ·subst hb;rw[hr]at h;cases h;exact⟨cX,fr,fH _ _ _ _ _ _ hr,hs⟩
  ·exact⟨c2,f2,by rw[show(C.write id n cX B').w.heap[b]? =(C.w.setRow n cX).heap[b]? from rfl,setRow_other _ _ _ _ hb];exact h,rfl⟩
theorem Jn {C:Ctx}(az:Ok C){id n:Nat}{carr cX:Array Value}{e:TypeId}{fr:Nat×Nat}{B B':au}(hl:live C.h id B)(hi:C.ι id=some n)
  (hr:C.w.heap[n]? =some (.cells carr e fr)) (hs:cX.size=carr.size) (hlk:pQ B B') (hB:q9 (C.write id n cX B') id B'):Ok (C.write id n cX B'):=by
 have hback:∀{cT b'},live (C.write id n cX B').h cT b'->∃b,live C.h cT b:=by
  intro cT b' h;rcases bR.1 h with⟨rfl,_,_⟩|⟨_,h1⟩
  ·exact⟨B,hl⟩
  ·exact⟨b',h1⟩
 refine az.step (zG hl hi hr hs hlk) (λcT b hl'=> ?_) (λZU Ql m b b' h1 h2 e1 e2=> ?_) (λZU b m h1 h2=> ?_)
 rotate_right
 ·obtain⟨c,k⟩:=hback h1;exact .inl ⟨c,k,h2⟩
 ·rcases bR.1 hl' with⟨rfl,_,h2⟩|⟨hn,h1⟩
  ·cases h2;exact .inl hB
  ·refine .inr ⟨h1,rfl,λ_=>FK,λm hm=>setRow_other _ _ _ _ λhmn=> ?_⟩;subst hmn;have:=az.inj cT id m b B h1 hl hm (.inl hi);subst this;have hlt:cT<C.h.length:=by
    rcases y7 cT C.h.length with h'|h'
    ·exact h'
    ·unfold live at h1;rw[dp]at h1;simp[List.getD,EN h']at h1
   exact hn ⟨rfl,hlt⟩
 ·obtain⟨c1,k1⟩:=hback h1;obtain⟨c2,k2⟩:=hback h2;exact az.inj ZU Ql m c1 c2 k1 k2 e1 e2
def Ctx.renew (C:Ctx)(id nid n:Nat)(carr:Array Value)(B:au):Ctx:=⟨C.w.setRow n carr,pt C.ι nid (some n),upd (.blk B) (upd .dead C.h id) nid,C.X,λi n=>i≠nid/\C.κ i n⟩
theorem KS {C:Ctx}{id nid n m cT:Nat}{carr:Array Value}{B:au}(h:(C.renew id nid n carr B).at cT m):(cT=nid/\n=m)\/(cT≠nid/\C.at cT m):=by
 by_cases he:cT=nid
 ·subst he;rcases h with h|h
  ·have h':pt C.ι cT (some n) cT=some m:=h;rw[cG]at h';exact .inl ⟨rfl,pH h'⟩
  ·exact absurd rfl h.1
 ·rcases h with h|h
  ·have h':pt C.ι nid (some n) cT=some m:=h;rw[gM he]at h';exact .inr ⟨he,.inl h'⟩
  ·exact .inr ⟨he,.inr h.2⟩
theorem nu {h:List bw}{id nid cT:Nat}{B b:au}(hl:live (upd (.blk B) (upd .dead h id) nid) cT b):(cT=nid/\b=B)\/(cT≠id/\live h cT b/\cT≠nid)\/(cT=nid):=by
 rcases bR.1 hl with⟨h1,_,h2⟩|⟨h1,h2⟩
 ·cases h2;exact .inl ⟨h1.symm,rfl⟩
 ·rcases bR.1 h2 with⟨_,_,h3⟩|⟨h3,h4⟩
  ·cases h3
  ·by_cases hn:cT=nid
   ·exact .inr (.inr hn)
   ·refine .inr (.inl ⟨λhe=>h3 ⟨he.symm,?_⟩,h4,hn⟩);rcases y7 cT h.length with h'|h'
    ·exact h'
    ·unfold live at h4;rw[dp]at h4;simp[List.getD,EN h']at h4
theorem zH {C:Ctx}{id nid n:Nat}{carr cX:Array Value}{e:TypeId}{fr:Nat×Nat}{B B':au}(hl:live C.h id B)(hi:C.ι id=some n)(hf:nth bw.fresh C.h nid=.fresh)
  (hr:C.w.heap[n]? =some (.cells carr e fr)) (hs:cX.size=carr.size):Ext C (C.renew id nid n cX B') where
 tape:=rfl
 os:=rfl
 out:=rfl
 size:=by show _<=(C.w.setRow n cX).heap.size;rw[setRow_size];exact dB _
 X:=rfl
 keep b _ ho:=setRow_other _ _ _ _ λhb=>ho ⟨id,B,hl,.inl (hb▸hi)⟩
 own b _ h:=by
  obtain⟨cT,blk,hl',nW⟩:=h;rcases KS nW with⟨_,rfl⟩|⟨he,hi2⟩
  ·exact⟨id,B,hl,.inl hi⟩
  ·rcases nu hl' with⟨h1,_⟩|⟨_,h1,_⟩|h1
   ·exact absurd h1 he
   ·exact⟨cT,blk,h1,hi2⟩
   ·exact absurd h1 he
 qd cT hk:=by
  have hne:=s6 hk hf;refine⟨kL (by simp) (kL (by simp) hk),λb hb=> ?_⟩;rcases nu hb with⟨h1,_⟩|⟨_,h1,_⟩|h1
  ·exact absurd h1 hne
  ·exact⟨b,h1,gM hne,dx _⟩
  ·exact absurd h1 hne
 row b c2 e2 f2 _ h:=by
  by_cases hb:b=n
  ·subst hb;rw[hr]at h;cases h;exact⟨cX,fr,fH _ _ _ _ _ _ hr,hs⟩
  ·exact⟨c2,f2,by rw[show(C.renew id nid n cX B').w.heap[b]? =(C.w.setRow n cX).heap[b]? from rfl,setRow_other _ _ _ _ hb];exact h,rfl⟩
theorem Jo {C:Ctx}(az:Ok C){id nid n:Nat}{carr cX:Array Value}{e:TypeId}{fr:Nat×Nat}{B B':au}(hl:live C.h id B)(hi:C.ι id=some n)
  (hf:nth bw.fresh C.h nid=.fresh) (hn:nid<C.h.length)
  (hr:C.w.heap[n]? =some (.cells carr e fr)) (hs:cX.size=carr.size) (hB:q9 (C.renew id nid n cX B') nid B'):Ok (C.renew id nid n cX B'):=by
 refine az.step (zH hl hi hf hr hs) (λcT b hl'=> ?_) (λZU Ql m b b' h1 h2 e1 e2=> ?_) (λZU b m h1 h2=> ?_)
 rotate_right
 ·rcases nu h1 with⟨h3,_⟩|⟨_,h3,_⟩|h3
  ·exact absurd h3 h2.1
  ·exact .inl ⟨b,h3,h2.2⟩
  ·exact absurd h3 h2.1
 ·by_cases he:cT=nid
  ·subst he;have:b=B':=by
    rcases bR.1 hl' with⟨_,_,h2⟩|⟨h2,_⟩
    ·cases h2;rfl
    ·exact absurd ⟨rfl,by rw[bU];exact hn⟩ h2
   subst this;exact .inl hB
  ·rcases nu hl' with⟨h1,_⟩|⟨h0,h1,_⟩|h1
   ·exact absurd h1 he
   ·refine .inr ⟨h1,gM he,λn=>⟨λh=>h.2,λh=>⟨he,h⟩⟩,λm hm=>setRow_other _ _ _ _ λhmn=> ?_⟩;subst hmn;exact h0 (az.inj cT id m b B h1 hl hm (.inl hi))
   ·exact absurd h1 he
 ·have key:∀{cT b},live (C.renew id nid n cX B').h cT b->(C.renew id nid n cX B').at cT m->(cT=nid/\n=m)\/(cT≠id/\live C.h cT b/\C.at cT m):=by
   intro cT b hl' nW;rcases KS nW with h|⟨he,hi2⟩
   ·exact .inl h
   ·rcases nu hl' with⟨h1,_⟩|⟨h0,h1,_⟩|h1
    ·exact absurd h1 he
    ·exact .inr ⟨h0,h1,hi2⟩
    ·exact absurd h1 he
  rcases key h1 e1 with⟨a1,a2⟩|⟨a1,a2,a3⟩<;>rcases key h2 e2 with⟨b1,b2⟩|⟨b1,b2,b3⟩
  ·rw[a1,b1]
  ·subst a2;exact absurd (az.inj Ql id n b' B b2 hl b3 (.inl hi)) b1
  ·subst b2;exact absurd (az.inj ZU id n b B a2 hl a3 (.inl hi)) a1
  ·exact az.inj ZU Ql m b b' a2 b2 a3 b3
section
theorem qO {w:World}{O:Nat->Prop}{v:Value}{a:PV}(h:D6 v=some a):VP w O a v:=by
 unfold D6 at h;split at h<;>first|(cases h;done)|(cases h;constructor)|skip
 all_goals first|(cases h;constructor)|skip
theorem oX {w:World}{O:Nat->Prop}:∀{l:List Value} {cs:List PV},uD l=some cs->All2 (VP w O) cs l
 |[],_,h=>by simp only[uD]at h;cases h;exact trivial
 |v::l,cs,h=>by
  simp only[uD]at h;split at h
  ·rename_i a b ha hb;cases h;exact⟨qO ha,oX hb⟩
  ·cases h
theorem Fi (C:Ctx)(v:Value):VA C (ya v) v:=by
 unfold ya;split
 ·rename_i cs;split
  ·rename_i l hl;exact⟨cs,rfl,oX hl⟩
  ·trivial
 ·split
  ·rename_i a ha;exact qO ha
  ·trivial
def l_ (C:Ctx)(slots:List AV)(tmps:Array Value):Prop:=∀t,VA C (nth .undef slots t) (tmps.getD t Go.undef)
theorem jE {C:Ctx}{slots:List AV}{a:Act}(h:l_ C slots a.tmps)(x:Operand):VA C (aS slots x) (a.eval x):=by
 cases x with
 |tmp t=>exact h t
 |const v=>exact Fi C v
 |global g=>trivial
 |func f=>exact⟨#[],rfl,trivial⟩
theorem l_.ext {C C':Ctx}(hx:Ext C C'){slots:List AV}{tmps:Array Value}(h:l_ C slots tmps):l_ C' slots tmps:=λt=>hx.va (h t)
def aa1 (P:Program)(w:World)(o:Oper)(ρ:Operand->Value)(u:Value)(w':World):Prop:=
 (execOp ρ o).run P w=.ok (.value u) w'\/((execOp ρ o).run P w=.ok .skip w'/\u=Go.undef)
def bq (C:Ctx)(us:cD)(v:AV)(u:Value)(w':World):Prop:=
 ∃C':Ctx,C'.w=w'/\C'.h=bh us C.h/\Ext C C'/\Ok C'/\VA C' v u
theorem bq.same {C:Ctx}(az:Ok C){v:AV}{u:Value}(h:VA C v u):bq C [] v u C.w:=⟨C,rfl,rfl,Ext.refl C,az,h⟩
section run
variable {P:Program} {w w':World} {u:Value} {s:Sem Value} {s':Sem Unit}
theorem Yb (h:s.run P w=.ok u w'):(do pure (Next.value (<-s)):Sem Next).run P w=.ok (.value u) w':=by simp[h]
theorem Sb (h:s'.run P w=.ok () w'):(do s';pure Next.skip:Sem Next).run P w=.ok .skip w':=by simp[h]
end run
theorem jG (carr:Array Value)(n j:Nat){w:World}{e:TypeId}{fr:Nat×Nat}(hr:w.heap[n]? =some (.cells carr e fr)):w.cell? ⟨n,j,none⟩=carr[j]?:=by
 simp[World.cell?,hr]
theorem eY {C:Ctx}(az:Ok C){id sz:Nat}{es:List (List PV)}{u:Value}(hl:live C.h id (.arr sz es))(hu:HS C id sz es u){K:cD}(hK:bK K)(pT:(id,bw.dead)∈K):
  (C.kill K).P (.sl sz es) u:=by
 unfold HS at hu;have hb:=az.blk id _ hl;cases hi:C.ι id with
 |none=>
  rw[hi]at hu;obtain⟨rfl,rfl⟩:=hu;exact .yA sz none 0
 |some n=>
  rw[hi]at hu;obtain⟨cap,carr,e,fr,rfl,hle,hr,j0⟩:=hu;rcases hb with⟨h1,_⟩|⟨m,O1,e2,fr2,h1,h2,hs,hf,hz,ji,hc⟩
  ·rw[hi]at h1;cases h1
  ·rw[hi]at h1;cases h1;rw[hr]at h2;cases h2;have hO:¬(C.kill K).O n:=by
    rintro(hx|⟨Ql,b2,h3,h4⟩)
    ·exact(az.x n hx).2 ⟨id,_,hl,.inl hi⟩
    ·have h5:=er hK h3;have:=az.inj Ql id n b2 _ h5 hl h4 (.inl hi);subst this;exact xq hK pT h3
   refine .sl sz es n 0 cap (λi j=>carr.getD (i*sz+j) Go.undef) (c_.1 hr).1 hO hle hz (λi j e c he hj=> ?_) (λi j e c he hj=> ?_)
   ·obtain⟨x,hx,_⟩:=hc i j e c he hj;show C.w.cell? _=_;rw[show 0+i*sz+j=i*sz+j by omega,jG carr n _ hr,hx];simp[uQ,hx]
   ·obtain⟨x,hx,hp⟩:=hc i j e c he hj;simp only[uQ,hx,y_];exact(cB C hK).vp hp
def bQ (C:Ctx)(look:aJ):Prop:=∀id b,look id=some b->live C.h id b
theorem CN {look:aJ}{v:TV}{vs:List PV}{us:cD}(h:rA look v=some (vs,us)):bK us:=by
 unfold rA at h;split at h
 ·cases h;exact λ_ h=>by cases h
 ·cases h;exact λ_ h=>by cases h
 ·split at h
  ·cases h;intro x hx;simp at hx;rw[hx]
  ·cases h
 ·cases h
theorem jv {look:aJ}:∀{l:List TV} {vs:List PV} {us:cD},kH look l=some (vs,us)->∀y∈us,∃v x u,rA look v=some (x,u)/\y∈u
 |[],_,_,h,y,hy=>by simp only[kH]at h;cases h;cases hy
 |v::l,vs,us,h,y,hy=>by
  simp only[kH]at h;split at h
  ·rename_i x u vs' mb h1 h2;split at h
   ·cases h;rcases eO.1 hy with hy|hy
    ·exact⟨v,_,u,h1,hy⟩
    ·exact jv h2 y hy
   ·cases h
  ·cases h
theorem oc {look:aJ}{l:List TV}{vs:List PV}{us:cD}(h:kH look l=some (vs,us)):bK us:=λy hy=>by
 obtain⟨v,x,u,h1,h2⟩:=jv h y hy;exact CN h1 y h2
theorem vV {look:aJ}{v:AV}{vs:List PV}{us:cD}(h:rB look v=some (vs,us)):bK us:=by
 unfold rB at h;split at h
 ·exact CN h
 ·cases h;exact λ_ h=>by cases h
 ·exact oc h
 ·cases h
theorem At {C:Ctx}(az:Ok C){look:aJ}(hl:bQ C look){v:TV}{u:Value}{vs:List PV}{us:cD}(hv:VT C v u)(h:rA look v=some (vs,us))
  {K:cD} (hK:bK K) (pT:∀x∈us,x∈K):All2 (C.kill K).P vs u.cells.toList:=by
 unfold rA at h;split at h
 ·cases h;have hv':C.P _ u:=hv;rw[hv'.cells];exact⟨(cB C hK).vp hv',trivial⟩
 ·cases h;obtain⟨cs,rfl,ha⟩:=hv;exact ha.mono λ_ _=>(cB C hK).vp
 ·rename_i id;split at h
  ·rename_i sz es hb;cases h;obtain⟨_,_,hv⟩:=hv;have hlv:=hl _ _ hb;have:=eY az hlv (hv _ _ hlv) hK (pT _ (by simp));rw[this.cells];exact⟨this,trivial⟩
  ·cases h
 ·cases h
theorem RH {C:Ctx}{v:TV}{u:Value}(h1:Bk v=true)(h:VT C v u):u.oneCell'=true/\u.cells= #[u]:=by
 cases v with
 |p v=>exact⟨VP.eX h,VP.cells h⟩
 |agg cs=>cases h1
 |ak id=>obtain⟨_,⟨a,l,c,rfl⟩,_⟩:=h;exact⟨rfl,rfl⟩
 |ptr id o=>cases h1
theorem jT {C:Ctx}(az:Ok C){look:aJ}(hl:bQ C look):∀{l:List TV} {xs:List Value} {vs:List PV} {us:cD},All2 (VT C) l xs->kH look l=some (vs,us)->
  ∀{K:cD},bK K->(∀x∈us,x∈K)->All2 (C.kill K).P vs xs
 |[],[],_,_,_,h,_,_,_=>by simp only[kH]at h;cases h;exact trivial
 |[],_::_,_,_,ha,_,_,_,_=>ha.elim
 |_::_,[],_,_,ha,_,_,_,_=>ha.elim
 |v::l,x::xs,vs,us,ha,h,K,hK,pT=>by
  simp only[kH]at h;split at h
  ·rename_i y u vs' mb h1 h2;split at h
   ·rename_i ho;cases h;have hp:=At az hl ha.1 h1 hK (λz hz=>pT z (by simp[hz]));rw[(RH ho ha.1).2]at hp;exact⟨hp.1,jT az hl ha.2 h2 hK (λz hz=>pT z (by simp[hz]))⟩
   ·cases h
  ·cases h
theorem sQ {C:Ctx}(az:Ok C){look:aJ}(hl:bQ C look){v:AV}{u:Value}{vs:List PV}{us:cD}(hv:VA C v u)(h:rB look v=some (vs,us))
  {K:cD} (hK:bK K) (pT:∀x∈us,x∈K):All2 (C.kill K).P vs u.cells.toList:=by
 unfold rB at h;split at h
 ·exact At az hl hv h hK pT
 ·cases h;obtain⟨us,rfl,ha⟩:=hv;obtain rfl:us= #[]:=by
   cases us with|mk l=>cases l with|nil=>rfl|cons=>exact ha.elim
  exact⟨.fn _,trivial⟩
 ·obtain⟨xs,rfl,ha⟩:=hv;exact jT az hl ha h hK pT
 ·cases h
theorem Hl {op:BinOp}{k:IntKind}{a b:Int}{v:PV}(h:Mv op k a b=some v)(P:Program)(w:World)(xt:TypeId)(O:Nat->Prop):
  ∃u,(binOp op xt (.int k a) (.int k b)).run P w=.ok u w/\VP w O v u:=by
 cases op<;>simp only[Mv]at h<;>first|(cases h;done)|skip
 all_goals
  cases h;refine⟨_,by simp only[binOp,Op.intArith,Op.intBits,Op.intCmp,ne_eq,not_true_eq_false,sL];rfl,?_⟩;constructor
theorem toList_mk (l:List UInt8):(ByteArray.mk l.toArray).toList=l:=by
 rw[ByteArray.toList_eq]
theorem Bz {w:World}{O:Nat->Prop}{i:Nat}(zs:Array Value)(a:PV)(af:List PV)(hz:All2 (VP w O) (a::af) (zs.toList.drop i)):∃u,zs[i]? =some u/\VP w O a u/\All2 (VP w O) af (zs.toList.drop (i+1)):=by
 cases hd:zs.toList.drop i with
 |nil=>rw[hd]at hz;exact hz.elim
 |cons u us=>
  rw[hd]at hz;refine⟨u,?_,hz.1,?_⟩
  ·have:=congrArg List.head? hd;simpa[Ag]using this
  ·have:=congrArg List.tail hd;simp only[List.tail_drop,List.tail_cons]at this;rw[this];exact hz.2
theorem JP {P:Program}{w:World}{O:Nat->Prop}(d:Nat){e:TypeId}{kk:IntKind}(he:P.underlying e=some (.int kk))(xs ys:Array Value):∀(cs ds:List PV) (j:Nat) (b:Bool),Kf cs ds=some b->
  All2 (VP w O) cs (xs.toList.drop j)->All2 (VP w O) ds (ys.toList.drop j)->(Op.eqItems (d+1) e 1 xs ys (List.range' j cs.length)).run P w=.ok b w:=by
 intro cs
 induction cs with
 |nil=>
  intro ds j b h _ _;cases ds<;>simp only[Kf]at h<;>first|(cases h;done)|(cases h;simp[Op.eqItems])
 |cons c cs ih=>
  intro ds j b h hx hy;cases ds with
  |nil=>cases c<;>simp[Kf]at h
  |cons e' ds=>
   obtain⟨u,hu,hcu,kY⟩:=Bz xs c cs hx;obtain⟨v,hv,hev,hy'⟩:=Bz ys e' ds hy;unfold Kf at h;split at h
   ·rename_i h1 _;cases h1
   ·rename_i k a cs' k' b' Ij h1 h2;cases h1;cases h2;split at h
    ·rename_i r hr;split at h
     ·rename_i hk;cases h;cases hcu;cases hev;cases fe _ _ hk;have ih':=ih ds (j+1) r hr kY hy';have px:(part e xs j).run P w=.ok (.int k a) w:=by simp[part,isAgg,mB he,hu]
      have py:(part e ys j).run P w=.ok (.int k b') w:=by simp[part,isAgg,mB he,hv]
      have pe:=run_equalIn_int (P:=P) w d e k kk a b' he;rw[bo,lR];cases hb:a==b'<;>rw[hb]at pe<;>simp[Op.eqItems,px,py,pe,ih']
     ·cases h
    ·cases h
   ·cases h
theorem Kw {P:Program}{t:TypeId}{i:TypeInfo}(h:P.info? t=some i):P.cellsOf t=i.size:=by simp[Program.cellsOf,h]
theorem Gu {P:Program}{w:World}{O:Nat->Prop}(d:Nat){t:TypeId}{n:Nat}(ht:Ns P t=some n)(xs ys:Array Value){cs ds:List PV}{b:Bool}(h:Kf cs ds=some b)(hl:cs.length=n)
  (hx:All2 (VP w O) cs xs.toList) (hy:All2 (VP w O) ds ys.toList):(Op.equalIn (d+2) t (.agg xs) (.agg ys)).run P w=.ok b w:=by
 unfold Ns at ht;split at ht
 ·rename_i n' e hu;split at ht
  ·rename_i kk i j hk hi hj;split at ht
   ·rename_i hc;simp only[bO]at hc;cases ht;have h1:P.cellsOf e=1:=(Kw hi).trans (gK hc.1);rw[run_equalIn_array w (d+1) xs ys hu hi,h1,jK,<-hl];exact JP d hk xs ys cs ds 0 b h (by simpa using hx) (by simpa using hy)
   ·cases ht
  ·cases ht
 ·cases ht
theorem zU {α β:Type}{R:α->β->Prop}:∀(n:Nat) {l:List α} {m:List β},All2 R l m->All2 R (l.take n) (m.take n)
 |0,_,_,_=>trivial
 |n+1,[],[],_=>trivial
 |n+1,a::l,b::m,h=>⟨h.1,zU n h.2⟩
theorem zV {α β:Type}{R:α->β->Prop}:∀(n:Nat) {l:List α} {m:List β},All2 R l m->All2 R (l.drop n) (m.drop n)
 |0,_,_,h=>h
 |n+1,[],[],_=>trivial
 |n+1,a::l,b::m,h=>zV n h.2
theorem TH {P:Program}{w:World}{t:TypeId}{n:Nat}(ht:Ns P t=some n)(zs:Array Value)(i:Nat):(part t zs i).run P w=.ok (.agg (zs.extract i (i+n))) w:=by
 unfold Ns at ht;split at ht
 ·rename_i n' e hu;split at ht
  ·rename_i kk i' j hk hi hj;split at ht
   ·rename_i hc;simp only[bO]at hc;cases ht;have h1:P.cellsOf t=n:=(Kw hj).trans (gK hc.2);simp[part,isAgg,mB hu,run_sizeOf w hj,h1]
   ·cases ht
  ·cases ht
 ·cases ht
theorem MX {P:Program}{w:World}{O:Nat->Prop}(d:Nat)(xs ys:Array Value):∀(fs:List Field) (i:Nat) (cs ds:List PV) (r:Bool),HL P fs i cs ds=some r->
  All2 (VP w O) cs (xs.toList.drop i)->All2 (VP w O) ds (ys.toList.drop i)->(Op.eqFields (d+2) xs ys fs).run P w=.ok r w:=by
 intro fs
 induction fs with
 |nil=>
  intro i cs ds r h _ _;cases cs<;>cases ds<;>simp only[HL]at h<;>first|(cases h;done)|(cases h;rfl)
 |cons f fs ih=>
  intro i cs ds r h hx hy;cases OK:Ns P f.type with
  |some n=>
   simp only[HL,OK]at h;split at h
   ·rename_i r' b Fa hb;split at h
    ·rename_i cz;cases h;simp only[bO,bne_iff_ne,ne_eq]at cz;obtain⟨⟨h1,h2⟩,h3⟩:=cz;have aep:f.offset=i:=gK h1;have ih':=ih (i+n) _ _ r' Fa (by rw[<-List.drop_drop];exact zV n hx) (by rw[<-List.drop_drop];exact zV n hy);have ex:∀zs:Array Value,(zs.extract i (i+n)).toList=(zs.toList.drop i).take n:=λzs=>by simp[List.take_drop]
     have hb':=Gu (w:=w) (O:=O) d OK (xs.extract i (i+n)) (ys.extract i (i+n)) hb (gK h3) (by rw[ex];exact zU n hx) (by rw[ex];exact zU n hy);cases b<;>simp[Op.eqFields,h2,aep,TH OK,hb',ih']
    ·cases h
   ·cases h
  |none=>
   cases cs with
   |nil=>cases ds<;>simp[HL,OK]at h
   |cons c cs=>
    cases ds with
    |nil=>simp[HL,OK]at h
    |cons e ds=>
     obtain⟨u,hu,hcu,kY⟩:=Bz xs c cs hx;obtain⟨v,hv,hev,hy'⟩:=Bz ys e ds hy;simp only[HL,OK]at h;split at h
     ·cases h
     ·rename_i r' Fa;have ih':=ih (i+1) cs ds r' Fa kY hy';split at h
      ·rename_i cz;simp only[bO,bne_iff_ne,ne_eq]at cz;have aep:f.offset=i:=gK cz.1;have fin:∀b:Bool,((part f.type xs f.offset).run P w=.ok u w)->((part f.type ys f.offset).run P w=.ok v w)->((Op.equalIn (d+2) f.type u v).run P w=.ok b w)->(Op.eqFields (d+2) xs ys (f::fs)).run P w=.ok (b&&r') w:=by
        intro b h1 h2 h3;cases b<;>simp[Op.eqFields,cz.2,h1,h2,h3,ih']
       have Xv:∀(zs:Array Value) (z:Value),zs[i]? =some z->dc P f.type=false->(∃t,P.underlying f.type=some t)->(part f.type zs f.offset).run P w=.ok z w:=by
        intro zs z hz pq ⟨t,ht⟩;rw[aep];unfold dc at pq;rw[ht]at pq;cases t<;>first|(cases pq;done)|simp[part,isAgg,mB ht,hz]
       split at h
       ·rename_i kk k a k' b nP;split at h
        ·rename_i hk;cases h;cases hcu;cases hev;have pq:dc P f.type=false:=by simp[dc,nP]
         refine fin _ (Xv xs _ hu pq ⟨_,nP⟩) (Xv ys _ hv pq ⟨_,nP⟩) ?_;cases fe _ _ hk;exact run_equalIn_int _ _ _ _ _ _ _ nP
        ·cases h
       ·rename_i a b nP;cases h;cases hcu;cases hev;have pq:dc P f.type=false:=by simp[dc,nP]
        exact fin _ (Xv xs _ hu pq ⟨_,nP⟩) (Xv ys _ hv pq ⟨_,nP⟩) (run_equalIn_bool' _ _ _ _ _ nP)
       ·rename_i a b nP;cases h;cases hcu;cases hev;have pq:dc P f.type=false:=by simp[dc,nP]
        refine fin _ (Xv xs _ hu pq ⟨_,nP⟩) (Xv ys _ hv pq ⟨_,nP⟩) ?_;have:=run_equalIn_string (P:=P) w (d+1) f.type ⟨a.toArray⟩ ⟨b.toArray⟩ nP;rw[toList_mk,toList_mk]at this;exact this
       ·cases h
      ·cases h
theorem Nn {C:Ctx}{P:Program}{op:BinOp}{xt:TypeId}{x y:AV}{ux uy:Value}{v:PV}(hx:VA C x ux)(hy:VA C y uy)(h:H8 P op xt x y some=some v)(X Y:Operand):
  ∃u,(do eqGuard op xt X Y ux uy;binOp op xt ux uy:Sem Value).run P C.w=.ok u C.w/\C.P v u:=by
 unfold H8 at h;split at h
 ·rename_i k a k' b;cases hx;cases hy;have hg:(eqGuard op xt X Y (.int k a) (.int k' b))=pure ():=eqGuard_at_int ..;rw[hg];split at h
  ·cases hc:(lT k k'&&decide (b≠0))with
   |false=>rw[hc]at h;cases h
   |true=>
    rw[hc]at h;cases h;simp only[bO,mD]at hc;cases fe _ _ hc.1;exact⟨_,by simp[binOp,Op.intDiv,hc.2],.int _ _⟩
  ·cases hc:(lT k k'&&decide (b≠0))with
   |false=>rw[hc]at h;cases h
   |true=>
    rw[hc]at h;cases h;simp only[bO,mD]at hc;cases fe _ _ hc.1;exact⟨_,by simp[binOp,Op.intDiv,hc.2],.int _ _⟩
  ·cases hc:bJ 0 b with
   |false=>rw[hc]at h;cases h
   |true=>
    rw[hc]at h;cases h;have hb:¬b<0:=by simpa using hc
    exact⟨_,by simp[binOp,Op.shift,hb],.int _ _⟩
  ·cases hc:bJ 0 b with
   |false=>rw[hc]at h;cases h
   |true=>
    rw[hc]at h;cases h;have hb:¬b<0:=by simpa using hc
    exact⟨_,by simp[binOp,Op.shift,hb],.int _ _⟩
  ·split at h
   ·rename_i v' hv';cases hc:lT k k' with
    |false=>rw[hc]at h;cases h
    |true=>
     rw[hc]at h;cases h;cases fe _ _ hc;obtain⟨u,h1,h2⟩:=Hl hv' P C.w xt C.O;exact⟨u,by simpa using h1,h2⟩
   ·cases h
 ·rename_i a b;cases hx;cases hy;have hg:(eqGuard op xt X Y (.bool a) (.bool b))=pure ():=eqGuard_at_bool ..;rw[hg];split at h
  ·rename_i nP;cases h;refine⟨_,?_,.bool _⟩;have:=run_equalIn_bool' (P:=P) C.w 9999 xt a b nP;simp[binOp,Op.equal,Op.maxDepth,this]
  ·rename_i nP;cases h;refine⟨_,?_,.bool _⟩;have:=run_equalIn_bool' (P:=P) C.w 9999 xt a b nP;simp[binOp,Op.equal,Op.maxDepth,this]
  ·cases h
 ·rename_i cs ds;obtain⟨us,rfl,hus⟩:=hx;obtain⟨vs,rfl,E9⟩:=hy;have key:∀r,Wb P xt cs ds=some r->(Op.equal xt (.agg us) (.agg vs)).run P C.w=.ok r C.w/\P.eqGuardType P.depth xt=false:=by
   intro r hr;unfold Wb at hr;split at hr
   ·rename_i fs nP;split at hr
    ·rename_i hc;simp only[bO,oQ]at hc;have Rc:P.fieldsOf xt=fs:=by simp[Program.fieldsOf,nP]
     have:=run_equalIn_struct (P:=P) C.w 9999 xt us vs (by rw[Rc];exact nP) hc.1;rw[Rc]at this;refine⟨?_,hc.2⟩;show(Op.equalIn 10000 xt (.agg us) (.agg vs)).run P C.w=_;rw[this];exact MX 9997 us vs fs.toList 0 cs ds r hr (by simpa using hus) (by simpa using E9)
    ·cases hr
   ·split at hr
    ·rename_i hc;split at hr
     ·rename_i n hn;split at hr
      ·rename_i hl;exact⟨Gu 9998 hn us vs hr (gK hl) hus E9,by simpa using hc⟩
      ·cases hr
     ·cases hr
    ·cases hr
   ·cases hr
  split at h
  ·rename_i r hr;cases h;obtain⟨h1,h2⟩:=key r hr;exact⟨.bool r,by simp[eqGuard,h2,binOp,h1],.bool _⟩
  ·rename_i r hr;cases h;obtain⟨h1,h2⟩:=key r hr;exact⟨.bool (!r),by simp[eqGuard,h2,binOp,h1],.bool _⟩
  ·cases h
 ·rename_i sz es;have hy:uy=.slice none 0 0:=by cases hy;rfl
  subst hy;split at h
  ·rename_i nP;cases h;have hx:∃a n c,ux=.slice a n c:=by cases hx<;>exact⟨_,_,_,rfl⟩
   obtain⟨a,n,c,rfl⟩:=hx;have hg:(eqGuard .eql xt X Y (.slice a n c) (.slice none 0 0))=pure ():=rfl;rw[hg];exact⟨.bool a.isNone,by simpa using Go.Lib.run_eql_slice_nil C.w xt _ a n c 0 0 nP,.Fp _⟩
  ·rename_i nP;cases h;have hx:∃a n c,ux=.slice (some a) n c:=by cases hx;exact⟨_,_,_,rfl⟩
   obtain⟨a,n,c,rfl⟩:=hx;have hg:(eqGuard .eql xt X Y (.slice (some a) n c) (.slice none 0 0))=pure ():=rfl;rw[hg];exact⟨.bool false,by simpa using Go.Lib.run_eql_slice_nil C.w xt _ (some a) n c 0 0 nP,.bool _⟩
  ·cases h
 ·have hx:ux=.slice none 0 0:=by cases hx;rfl
  have hy:uy=.slice none 0 0:=by cases hy;rfl
  subst hx;subst hy;split at h
  ·rename_i nP;cases h;have hg:(eqGuard .eql xt X Y (.slice none 0 0) (.slice none 0 0))=pure ():=rfl;rw[hg];exact⟨.bool true,by simpa using Go.Lib.run_eql_slice_nil C.w xt _ none 0 0 0 0 nP,.bool _⟩
  ·cases h
 ·cases h
end
section
theorem jm {w:World}{O:Nat->Prop}{s:Sh}{v:PV}{u:Value}(h:xp s v=true)(hv:VP w O v u):VP w O (uT s v) u:=by
 cases s<;>cases v<;>simp only[xp]at h<;>first|(cases h;done)|skip
 ·cases fe _ _ h;exact hv
 ·exact hv
 ·exact hv
 ·exact hv
 ·cases hv;exact .yA _ _ _
 ·rename_i sz nN es;have:sz=nN:=gK h;subst this;exact hv
theorem Az:∀{ss:List Sh} {cs:List PV},bL ss cs=true->ss.length=cs.length
 |[],[],_=>rfl
 |[],_::_,h=>by cases h
 |_::_,[],h=>by cases h
 |_::ss,_::cs,h=>by
  simp only[bL,bO]at h;simp[Az h.2]
theorem jH {w:World}{O:Nat->Prop}:∀{ss:List Sh} {cs ds:List PV} {us:List Value} {i:Nat},bL ss ds=true->(∀j,j<ds.length->nth .aM cs (i+j)=nth .aM ds j)->
  All2 (VP w O) ds us->All2 (VP w O) (oD ss cs i) us
 |[],cs,[],us,i,_,_,h=>by cases us with|nil=>trivial|cons=>exact h.elim
 |[],_,_::_,_,_,h,_,_=>by cases h
 |_::_,_,[],_,_,h,_,_=>by cases h
 |s::ss,cs,d::ds,us,i,h,hj,hu=>by
  cases us with
  |nil=>exact hu.elim
  |cons u us=>
   simp only[bL,bO]at h;have h0:=hj 0 (by simp);simp only[G0,nth]at h0;refine⟨by rw[h0];exact jm h.1 hu.1,jH h.2 (λj hl=> ?_) hu.2⟩;have:=hj (j+1) (by simp;omega);rw[show i+1+j=i+(j+1) by omega,this];rfl
section ty
variable {P:Program} {w:World} {t:TypeId}
theorem yH (h:mq P t=true):∃i,P.info? t=some i:=by
 unfold mq Program.underlying at h;cases hi:P.info? t with
 |none=>rw[hi]at h;cases h
 |some i=>exact⟨i,rfl⟩
theorem run_sizeOf (h:mq P t=true):(sizeOf t).run P w=.ok (P.cellsOf t) w:=by
 obtain⟨i,hi⟩:=yH h;simp[sizeOf,typeInfo,Program.cellsOf,hi]
theorem tQ (h:mq P t=true):(isAgg t).run P w=.ok (dc P t) w:=by
 unfold mq at h;obtain⟨d,hd⟩:=Option.isSome_iff_exists.1 h;simp only[isAgg,dc,rQ,mB hd,rS,hd];cases d<;>rfl
end ty
theorem vA {α:Type}:∀(cs vs:List α),(lay.go cs vs).length=cs.length
 |[],[]=>rfl
 |[],_::_=>rfl
 |_::_,[]=>rfl
 |_::cs,_::vs=>by simp[lay.go,vA cs vs]
theorem fT {α:Type}:∀(cs:List α) (o:Nat) (vs:List α),(lay cs o vs).length=cs.length
 |cs,0,vs=>by simp only[lay];exact vA cs vs
 |[],_+1,_=>rfl
 |_::cs,o+1,vs=>by simp[lay,fT cs o vs]
theorem Di {α:Type}:∀(cs vs:List α) (j:Nat),vs.length<=cs.length->(lay.go cs vs)[j]? =if j<vs.length then vs[j]? else cs[j]?
 |cs,[],j,_=>by simp[lay.go]
 |[],_::_,_,h=>by simp at h
 |c::cs,v::vs,0,_=>by simp[lay.go]
 |c::cs,v::vs,j+1,h=>by
  have:=Di cs vs j (by simpa using h);simpa[lay.go]using this
theorem qH {α:Type}:∀(cs:List α) (o:Nat) (vs:List α) (j:Nat),o+vs.length<=cs.length->(lay cs o vs)[j]? =if o<=j/\j<o+vs.length then vs[j-o]? else cs[j]?
 |cs,0,vs,j,h=>by
  simp only[lay];rw[Di cs vs j (by omega)];simp
 |[],o+1,vs,j,h=>by simp at h
 |c::cs,o+1,vs,0,h=>by simp[lay]
 |c::cs,o+1,vs,j+1,h=>by
  have:=qH cs o vs j (by simp at h;omega);simp only[lay,je,this];by_cases hc:o<=j/\j<o+vs.length
  ·rw[aK hc,aK (by omega)];congr 1;omega
  ·rw[aC hc,aC (by omega)]
theorem MR (l vs:List Value)(o j:Nat)(h:o+vs.length<=l.length):(l.take o++vs++l.drop (o+vs.length))[j]? =if o<=j/\j<o+vs.length then vs[j-o]? else l[j]?:=by
 simp only[Co,eC,vT,jS,CL];have:min o l.length=o:=by omega
 rw[this];by_cases h1:j<o
 ·have h2:¬(o<=j/\j<o+vs.length):=by omega
  rw[aK (by omega),aK h1,aK h1,aC h2]
 ·by_cases h2:j<o+vs.length
  ·rw[aK h2,aC h1,aK (by omega)]
  ·rw[aC h2,aC (by omega)];congr 1;omega
theorem jQ {P:Program}(g o:Nat)(t:TypeId)(fr:Nat×Nat):∀(vs:List Value) (i:Nat) (cur:Array Value) (w:World),w.heap[g]? =some (.cells cur t fr)->xr cur fr->o+i+vs.length<=cur.size->(∀v∈vs,v.oneCell'=true)->
  (storeCells ⟨g,o,none⟩ vs i).run P w=.ok () (w.setRow g (cur.toList.take (o+i)++vs++cur.toList.drop (o+i+vs.length)).toArray)
 |[],i,cur,w,hg,_,_,_=>by
  simp only[storeCells,qx,cO,G0,List.take_append_drop,Bh];rw[setRow_self w g cur t fr hg];rfl
 |v::rest,i,cur,w,hg,hf,hl,h1=>by
  have hi:o+i<cur.size:=by simp at hl;omega
  have ah0:(⟨g,o,none⟩:Addr).add i=⟨g,o+i,none⟩:=by unfold Addr.add;split<;>simp_all
  have hcell:w.cell? ⟨g,o+i,none⟩=some cur[o+i]:=by simp[World.cell?,hg,hi]
  have alG:w.frozen? ⟨g,o+i,none⟩=false:=by
   have:=hf.off (o+i) hi;simp[World.frozen?,hg];omega
  have hst:(store ((⟨g,o,none⟩:Addr).add i) v).run P w=.ok () (w.setRow g (cur.setIfInBounds (o+i) v)):=by
   rw[ah0,run_store P w _ v _ (h1 v (by simp)),hcell];simp[alG,setCell_eq_setRow w g (o+i) cur t fr v hg]
  have ih:=jQ (P:=P) g o t fr rest (i+1) (cur.setIfInBounds (o+i) v) (w.setRow g (cur.setIfInBounds (o+i) v)) (setRow_heap w g cur _ t _ hg) (hf.size (by simp)) (by simp at hl|-;omega) (λx hx=>h1 x (by simp[hx]));simp only[storeCells,rQ,hst,rS,ih,setRow_setRow];congr 3;have:=list_seg_step cur.toList (o+i) v rest (by simp at hl|-;omega);simp only[Array.toList_setIfInBounds];rw[show o+(i+1)=o+i+1 by omega,this];simp[uM]
theorem addr_add (b o n:Nat):(⟨b,o,none⟩:Addr).add n=⟨b,o+n,none⟩:=by unfold Addr.add;split<;>simp_all
theorem Et {C:Ctx}:∀{cs:List PV} {l:List Value},All2 C.P cs l->All2 (VA C) (cs.map AV.p) l
 |[],[],_=>trivial
 |[],_::_,h=>h.elim
 |_::_,[],h=>h.elim
 |_::_,_::_,⟨h1,h2⟩=>⟨h1,Et h2⟩
theorem yf {C:Ctx}{v:AV}{u:Value}(h:yq v=true)(hv:VA C v u):All2 (VA C) (lX v) u.cells.toList/\∀x∈u.cells.toList,x.oneCell'=true:=by
 have one:∀{v:AV} {u:Value},VA C v u->u.cells= #[u]->u.oneCell'=true->lX v=[v]->All2 (VA C) (lX v) u.cells.toList/\∀x∈u.cells.toList,x.oneCell'=true:=by
  intro v u hv hc ho he;rw[hc,he];exact⟨⟨hv,trivial⟩,by simpa using ho⟩
 cases v with
 |undef=>cases h
 |no=>cases h
 |t v=>
  cases v with
  |p v=>exact one hv (VP.cells hv) (VP.eX hv) rfl
  |agg cs=>
   obtain⟨us,rfl,ha⟩:=hv;refine⟨?_,?_⟩
   ·show All2 (VA C) (cs.map AV.p) us.toList;exact Et ha
   ·intro x hx;obtain⟨i,hi⟩:=iD.1 hx;have hlt:i<cs.length:=by rw[ha.length];exact(ko.1 hi).1
    obtain⟨y,hy,hp⟩:=ha.get i cs[i] (by simp[hlt]);rw[show us.toList[i]? =some x from hi]at hy;cases hy;exact VP.eX hp
  |ak id=>obtain⟨hk,⟨a,l,c,rfl⟩,hv2⟩:=hv;exact one ⟨hk,⟨a,l,c,rfl⟩,hv2⟩ rfl rfl rfl
  |ptr id off=>obtain⟨hk,n,rfl,hv2⟩:=hv;exact one ⟨hk,n,rfl,hv2⟩ rfl rfl rfl
 |uJ cs=>obtain⟨b,off,rfl,h2⟩:=hv;exact one ⟨b,off,rfl,h2⟩ rfl rfl rfl
 |xR id i o=>cases h
 |fn f caps=>obtain⟨us,rfl,h2⟩:=hv;exact one ⟨us,rfl,h2⟩ rfl rfl rfl
 |XU vs=>cases h
 |C8 id=>cases h
 |aj f cs=>cases h
 |NK id=>cases h
 |Pf id i=>cases h
 |hmap id=>cases h
 |IE ps=>cases h
 |iG f id o=>cases h
 |rev f es=>cases h
 |bm vs=>
  obtain⟨us,rfl,ha⟩:=hv;have key:∀(vs:List TV) (xs:List Value),All2 (VT C) vs xs->vs.all Bk=true->All2 (VA C) (vs.map AV.t) xs/\∀x∈xs,x.oneCell'=true:=by
   intro vs
   induction vs with
   |nil=>intro xs ha _;cases xs with
    |nil=>exact⟨trivial,λ_ h=>by cases h⟩
    |cons=>exact ha.elim
   |cons v vs ih=>intro xs ha ho;cases xs with
    |nil=>exact ha.elim
    |cons x xs=>
     simp only[oO,bO]at ho;obtain⟨r1,r2⟩:=ih xs ha.2 ho.2;refine⟨⟨ha.1,r1⟩,λy hy=> ?_⟩;rcases gR.1 hy with rfl|hy
     ·exact(RH ho.1 ha.1).1
     ·exact r2 y hy
  exact key vs us.toList ha h
theorem vy {C:Ctx}(az:Ok C){look:aJ}(hl:bQ C look):∀{cs:List AV} {xs:List Value} {vs:List PV} {ds:List AV} {us:cD},xB look cs=some (vs,ds,us)->
  All2 (VA C) cs xs->(∀x∈xs,x.oneCell'=true)->bK us/\∀K,bK K->(∀x∈us,x∈K)->All2 (C.kill K).P vs xs/\All2 (VA (C.kill K)) ds xs/\ds.length=cs.length
 |[],[],_,_,_,h,_,_=>by
  simp only[xB]at h;cases h;exact⟨λ_ h=>(by cases h),λ_ _ _=>⟨trivial,trivial,rfl⟩⟩
 |[],_::_,_,_,_,_,h,_=>h.elim
 |_::_,[],_,_,_,_,h,_=>h.elim
 |c::cs,x::xs,vs,ds,us,h,ha,h1=>by
  simp only[xB]at h;split at h
  ·rename_i v u vs' Ij mb hp hb;cases h;obtain⟨d1,r1⟩:=vy az hl hb ha.2 (λx hx=>h1 x (by simp[hx]));have d0:=vV hp;refine⟨λy hy=> ?_,λK hK pT=> ?_⟩
   ·rcases eO.1 hy with hy|hy
    ·exact d0 y hy
    ·exact d1 y hy
   ·obtain⟨r2,r3,r4⟩:=r1 K hK (λy hy=>pT y (by simp[hy]));have Q_:=sQ az hl ha.1 hp hK (λy hy=>pT y (by simp[hy]));have hx:=h1 x (by simp);have hcx:x.cells= #[x]:=by cases x<;>first|rfl|(simp[Value.oneCell']at hx)
    rw[hcx]at Q_;refine⟨⟨Q_.1,r2⟩,⟨?_,r3⟩,by simp[r4]⟩;split
    ·exact(cB C hK).va ha.1
    ·exact Q_.1
  ·cases h
theorem gW:∀{us:cD} {h:List bw} {id:Nat} {b:au},(∀e,(id,e)∉us)->live h id b->live (bh us h) id b
 |[],_,_,_,_,hl=>hl
 |(i,e)::us,h,id,b,hn,hl=>gW (us:=us) (λe' hm=>hn e' (by simp[hm])) (by
  unfold live at hl|-;rw[ep,aC (λhc=>hn e (by rw[hc.1];simp))];exact hl)
theorem B3 {α:Type}{R:α->Value->Prop}{cs:List α}{carr:Array Value}(hs:carr.size=cs.length)(h:∀(j:Nat) c,cs[j]? =some c->∃u,carr[j]? =some u/\R c u)(o n:Nat):
  All2 R (cut cs o n) ((carr.toList.drop o).take n):=by
 have h0:All2 R cs carr.toList:=by
  refine All2.nj (by simpa using hs.symm) λi a b ha hb=> ?_;obtain⟨u,h1,h2⟩:=h i a ha;have hb':carr[i]? =some b:=by simpa using hb
  rw[h1]at hb';cases hb';exact h2
 exact(h0.drop o).take n
theorem tR {P:Program}{w:World}{n o k:Nat}{carr:Array Value}{e:TypeId}{fr:Nat×Nat}(hr:w.heap[n]? =some (.cells carr e fr))(hk:((carr.toList.drop o).take k).length=k):
  (loadCells ⟨n,o,none⟩ k).run P w=.ok ((carr.toList.drop o).take k).toArray w:=by
 have:=run_loadCells_list (P:=P) w ⟨n,o,none⟩ ((carr.toList.drop o).take k) (λj v hv=>by
  rw[addr_add,jG carr n _ hr];rw[jS,CL]at hv;split at hv
  ·simpa using hv
  ·cases hv)
 rw[hk]at this;exact this
theorem sx {P:Program}{w:World}(a:Addr):(Instr.sureAddr (.pointer (some a))).run P w=.ok a w:=rfl
theorem gP {P:Program}{w:World}{t:TypeId}(ht:mq P t=true)(hg:dc P t=true){a:Addr}{vs:List Value}(h:(loadCells a (P.cellsOf t)).run P w=.ok vs.toArray w):
  (Instr.loadAt t (.pointer (some a))).run P w=.ok (.agg vs.toArray) w:=by
 simp[Instr.loadAt,loadVar,sx,tQ ht,hg,run_sizeOf ht,h]
theorem mX {P:Program}{w:World}{t:TypeId}(ht:mq P t=true)(hg:dc P t=false){a:Addr}{v:Value}(h:w.cell? a=some v):
  (Instr.loadAt t (.pointer (some a))).run P w=.ok v w:=by
 simp[Instr.loadAt,loadVar,sx,tQ ht,hg,h]
theorem vq {P:Program}{t:TypeId}{cs:List PV}{v:AV}(h:sU P t cs=some v):mq P t=true/\((dc P t=true/\v=.t (.agg cs))\/(dc P t=false/\∃c,cs=[c]/\v=.t (.p c))):=by
 unfold sU at h;split at h
 ·rename_i h1;refine⟨h1,?_⟩;split at h
  ·rename_i h2;cases h;exact .inl ⟨h2,rfl⟩
  ·rename_i h2;split at h
   ·cases h;exact .inr ⟨by simpa using h2,_,rfl,rfl⟩
   ·cases h
 ·cases h
end
theorem bX {α:Type}{b:Bool}{x:Option α}{r:α}(h:ctl b x none=some r):b=true/\x=some r:=by
 cases b
 ·cases h
 ·exact⟨rfl,h⟩
theorem ax {v v':AV}{us mb:cD}(h:two v us=some (v',mb)):v=v'/\us=mb:=by
 unfold two at h;cases h;exact⟨rfl,rfl⟩
theorem Gb {α:Type}{es:List (List PV)}{i:Int}{K:List PV->Option α}{r:α}(h:aG es i K=some r):0<=i/\i.toNat<es.length/\es[i.toNat]? =some (nth [] es i.toNat)/\K (nth [] es i.toNat)=some r:=by
 unfold aG at h;obtain⟨h1,h2⟩:=bX h;simp only[bO,mD]at h1;have hlt:i.toNat<es.length:=by omega
 exact⟨h1.1,hlt,by rw[dp];simp[List.getD,hlt],h2⟩
theorem tN {C:Ctx}:∀{cs:List AV} {XT:List TV} {xs:List Value},iK cs=some XT->All2 (VA C) cs xs->All2 (VT C) XT xs
 |[],_,[],h,_=>by simp only[iK]at h;cases h;trivial
 |[],_,_::_,_,ha=>ha.elim
 |_::_,_,[],_,ha=>ha.elim
 |c::cs,XT,x::xs,h,ha=>by
  cases c with
  |t v=>
   simp only[iK]at h;split at h
   ·rename_i r hr;cases h;exact⟨ha.1,tN hr ha.2⟩
   ·cases h
  |_=>cases h
theorem AD {C:Ctx}(az:Ok C){P:Program}{look:aJ}(hl:bQ C look){t:TypeId}{a v:AV}{us:cD}{ua:Value}(ha:VA C a ua)(h:xA P look t a two=some (v,us)):
  ∃u,(Instr.loadAt t ua).run P C.w=.ok u C.w/\bq C us v u C.w:=by
 unfold xA at h;split at h
 case isFalse=>cases h
 rename_i nP;split at h
 ·
  rename_i id o;split at h
  ·rename_i cs hb;have hlv:=hl _ _ hb;obtain⟨hk,n,rfl,hp⟩:=ha;have hi:=hp cs hlv;obtain⟨n',carr,e,fr,nW,hr,hs,hf,hc⟩:=az.blk id _ hlv;rw[hi]at nW;cases nW;split at h
   ·rename_i pq;have h0:All2 (VA C) (cut cs o (P.cellsOf t)) ((carr.toList.drop o).take (P.cellsOf t)):=B3 hs (λj c hj=>by obtain⟨u,h1,h2,_⟩:=hc j c hj;exact⟨u,h1,h2⟩) o _;have ji:∀x∈(carr.toList.drop o).take (P.cellsOf t),x.oneCell'=true:=by
     intro x hx;have kY:x∈carr.toList:=ru (sG hx);obtain⟨i,hi⟩:=iD.1 kY;have hlt:i<cs.length:=by rw[<-hs];have:=(ko.1 hi).1;simpa using this
     obtain⟨u,h1,_,h3⟩:=hc i cs[i] (by simp[hlt]);have nW:carr[i]? =some x:=by simpa using hi
     rw[nW]at h1;cases h1;exact h3
    split at h
    ·rename_i hlen Lb;obtain⟨rfl,rfl⟩:=ax h;obtain⟨hd,hr2⟩:=vy az hl Lb h0 ji;obtain⟨r1,r2,_⟩:=hr2 [] hd (λx hx=>hx);have Ih:((carr.toList.drop o).take (P.cellsOf t)).length=P.cellsOf t:=by rw[<-h0.length];exact gK hlen
     exact⟨_,gP nP pq (tR hr Ih),bq.same az ⟨_,rfl,r1⟩⟩
    ·rename_i hlen Lb;split at h
     ·rename_i XT K9;obtain⟨rfl,rfl⟩:=ax h;have Ih:((carr.toList.drop o).take (P.cellsOf t)).length=P.cellsOf t:=by rw[<-h0.length];exact gK hlen
      exact⟨_,gP nP pq (tR hr Ih),bq.same az ⟨_,rfl,tN K9 h0⟩⟩
     ·cases h
    ·cases h
   ·rename_i pq;split at h
    ·rename_i c rest hd;obtain⟨rfl,rfl⟩:=ax h;have hc0:cs[o]? =some c:=by
      have:=congrArg List.head? hd;simpa[Ag]using this
     obtain⟨u,h1,h2,_⟩:=hc o c hc0;refine⟨u,mX nP (by simpa using pq) ?_,bq.same az h2⟩;rw[jG carr n _ hr];exact h1
    ·cases h
  ·cases h
 ·
  rename_i cs;obtain⟨b,off,rfl,hb,hO,hc⟩:=ha;split at h
  ·rename_i pq;split at h
   ·rename_i hle;obtain⟨rfl,rfl⟩:=ax h;have aey:P.cellsOf t<=cs.length:=lz hle;let f:Nat->Value:=λj=>(C.w.cell? ⟨b,off+j,none⟩).getD Go.undef;have hrun:=run_loadCells (P:=P) C.w ⟨b,off,none⟩ (P.cellsOf t) f (λj hj=>by
     rw[addr_add];obtain⟨x,hx,_⟩:=hc j cs[j] (by simp);simp[f,hx])
    refine⟨_,gP nP pq hrun,bq.same az ⟨_,rfl,?_⟩⟩;refine All2.nj (by simp[aey]) λj c x hj hx=> ?_;rw[jS]at hj;split at hj
    ·rename_i Ld;obtain⟨y,hy,hp⟩:=hc j c hj;simp[Ld]at hx;rw[<-hx];simp[f,hy,hp]
    ·cases hj
   ·cases h
  ·rename_i pq;split at h
   ·rename_i c rest;obtain⟨rfl,rfl⟩:=ax h;obtain⟨x,hx,hp⟩:=hc 0 c (by simp);exact⟨x,mX nP (by simpa using pq) (by simpa using hx),bq.same az hp⟩
   ·cases h
 ·
  rename_i id i o;split at h
  ·rename_i sz es ss hb hsh;have hlv:=hl _ _ hb;obtain⟨hk,n,k0,rfl,hp⟩:=ha;obtain⟨hlt,hi,rfl⟩:=hp sz es hlv;split at h
   ·rename_i cz;simp only[bO]at cz;have apu:o+ss.length<=sz:=lz cz.1;have hlen:ss.length=cond (dc P t) (P.cellsOf t) 1:=gK cz.2;obtain⟨hcs,h⟩:=bX h;rcases az.blk id _ hlv with⟨hn,_⟩|⟨n',carr,e,fr,nW,hr,hs,hf,hz,ji,hc⟩
    ·rw[hi]at hn;cases hn
    ·rw[hi]at nW;cases nW;have hei:es[i]? =some (nth [] es i):=by rw[dp];simp[List.getD,hlt]
     have ahK:(nth [] es i).length=sz:=hz _ (iD.2 ⟨i,hei⟩);have hrel:All2 C.P (oD ss (nth [] es i) o) ((carr.toList.drop (i*sz+o)).take ss.length):=by
      refine jH hcs (λj hj=> ?_) ?_
      ·unfold cut at hj|-;simp at hj;rw[dp PV.aM,dp PV.aM];simp only[dO,jS,CL];rw[aK (by omega)]
      ·have E_:(i+1)*sz<=carr.size:=fZ (rT sz hlt) hs;have ak3:i*sz+sz<=carr.size:=by rw[FP]at E_;exact E_
       refine All2.nj (by simp[cut];omega) λj c x hj hx=> ?_;unfold cut at hj;rw[jS,CL]at hj hx;split at hj
       ·rename_i Ld;obtain⟨y,hy,Q_⟩:=hc i (o+j) _ c hei hj;rw[aK Ld]at hx;have kY:carr[i*sz+(o+j)]? =some x:=by
         rw[show i*sz+(o+j)=i*sz+o+j by omega];simpa using hx
        rw[kY]at hy;cases hy;exact Q_
       ·cases hj
     have Ih:((carr.toList.drop (i*sz+o)).take ss.length).length=ss.length:=by
      have E_:(i+1)*sz<=carr.size:=fZ (rT sz hlt) hs;have ak3:i*sz+sz<=carr.size:=by rw[FP]at E_;exact E_
      simp;omega
     split at h
     ·rename_i v' hv';obtain⟨rfl,rfl⟩:=ax h;obtain⟨_,⟨pq,rfl⟩|⟨pq,c,hcc,rfl⟩⟩:=vq hv'
      ·rw[pq]at hlen;have Vy:ss.length=P.cellsOf t:=hlen;rw[Vy]at Ih hrel;exact⟨_,gP nP pq (tR hr Ih),bq.same az ⟨_,rfl,hrel⟩⟩
      ·rw[pq]at hlen;have Vy:ss.length=1:=hlen;rw[Vy]at Ih hrel;rw[hcc]at hrel;cases hd:(carr.toList.drop (i*sz+o)).take 1 with
       |nil=>rw[hd]at Ih;cases Ih
       |cons x l=>
        rw[hd]at hrel;have hx:carr[i*sz+o]? =some x:=by
         have:=congrArg List.head? hd;simpa[List.head?_take,Ag]using this
        exact⟨x,mX nP pq (by rw[jG carr n _ hr];exact hx),bq.same az hrel.1⟩
     ·cases h
   ·cases h
  ·cases h
 ·cases h
def amz (C:Ctx)(us:cD)(w':World):Prop:=∃C':Ctx,C'.w=w'/\C'.h=bh us C.h/\Ext C C'/\Ok C'
theorem Ac {P:Program}{w:World}{t:TypeId}(ht:mq P t=true){n o:Nat}{u:Value}{carr:Array Value}{e:TypeId}{fr:Nat×Nat}
  (hr:w.heap[n]? =some (.cells carr e fr)) (hf:xr carr fr) (hs:u.cells.toList.length=P.cellsOf t) (lI:o+u.cells.toList.length<=carr.size) (h1:∀x∈u.cells.toList,x.oneCell'=true):
  (Instr.storeAt t (.pointer (some ⟨n,o,none⟩)) u).run P w=.ok () (w.setRow n (carr.toList.take o++u.cells.toList++carr.toList.drop (o+u.cells.toList.length)).toArray):=by
 have hst:=jQ (P:=P) n o e fr u.cells.toList 0 carr w hr hf (by simpa using lI) h1;have dL:u.cells.size=P.cellsOf t:=by simpa using hs
 simp only[G0]at hst;simp[Instr.storeAt,storeVar,sx,run_sizeOf ht,dL,hst]
theorem sD (carr:Array Value)(o:Nat)(vs:List Value)(h:o+vs.length<=carr.size):(carr.toList.take o++vs++carr.toList.drop (o+vs.length)).toArray.size=carr.size:=by
 simp;omega
theorem mS (carr:Array Value)(o:Nat)(vs:List Value)(h:o+vs.length<=carr.size)(j:Nat):
  (carr.toList.take o++vs++carr.toList.drop (o+vs.length)).toArray[j]? =if o<=j/\j<o+vs.length then vs[j-o]? else carr[j]?:=by
 have:=MR carr.toList vs o j (by simpa using h);simpa using this
theorem kK {i k sz j:Nat}(hik:i<k)(hj:j<sz):i*sz+j<k*sz:=by
 have h1:(i+1)*sz<=k*sz:=rT sz hik;rw[FP]at h1;omega
theorem GO {C:Ctx}(az:Ok C){P:Program}{look:aJ}(hl:bQ C look){t:TypeId}{a x v:AV}{us:cD}{ua ux:Value}(ha:VA C a ua)(hx:VA C x ux)
  (h:sA P look t a x two=some (v,us)):∃w',(Instr.storeAt t ua ux).run P C.w=.ok () w'/\amz C us w'/\v=.no:=by
 unfold sA at h;split at h
 case isFalse=>cases h
 rename_i nP;split at h
 ·rename_i id o;split at h
  ·rename_i cs hb hagg;split at h
   ·rename_i cz;obtain⟨rfl,rfl⟩:=ax h;simp only[bO]at cz;have hsz:(lX x).length=P.cellsOf t:=gK cz.1;have lI:o+(lX x).length<=cs.length:=lz cz.2;have hlv:=hl _ _ hb;obtain⟨hk,n,rfl,hp⟩:=ha;have hi:=hp cs hlv;obtain⟨n',carr,e,fr,nW,hr,hs,hf,hc⟩:=az.blk id _ hlv;rw[hi]at nW;cases nW;obtain⟨hca,hco⟩:=yf hagg hx;have hlen:=hca.length;have vD:o+ux.cells.toList.length<=carr.size:=by omega
    refine⟨_,Ac nP hr hf (by omega) vD hco,?_,rfl⟩;have hlk:pQ (.box cs) (.box (lay cs o (lX x))):=(fT _ _ _).symm;have Bl:=sD carr o ux.cells.toList vD;have hx2:=zG hlv hi hr Bl hlk;refine⟨C.write id n _ (.box (lay cs o (lX x))),rfl,rfl,hx2,Jn az hlv hi hr Bl hlk ?_⟩;refine⟨n,_,e,fr,hi,fH _ _ _ _ _ _ hr,by rw[Bl,hs,fT],hf.size Bl,λj c hj=> ?_⟩;rw[qH _ _ _ _ lI]at hj;rw[mS carr o _ vD];split at hj
    ·rename_i hjo;obtain⟨u,h1,h2⟩:=hca.get _ _ hj;rw[aK (by omega)];exact⟨u,h1,hx2.va h2,hco u (iD.2 ⟨_,h1⟩)⟩
    ·rename_i hjo;rw[aC (by omega)];obtain⟨u,h1,h2,h3⟩:=hc j c hj;exact⟨u,h1,hx2.va h2,h3⟩
   ·cases h
  ·cases h
 ·rename_i id i o;split at h
  ·rename_i sz es vs us0 hb hpu;split at h
   ·rename_i cz;obtain⟨rfl,rfl⟩:=ax h;simp only[bO]at cz;have hsz:vs.length=P.cellsOf t:=gK cz.1.1;have lI:o+vs.length<=sz:=lz cz.1.2;have hlv:=hl _ _ hb;obtain⟨hk,n,k0,rfl,hp⟩:=ha;obtain⟨hlt,hi,rfl⟩:=hp sz es hlv;have hd:=vV hpu;have OC:=sQ az hl hx hpu hd (λy hy=>hy);have ji:∀y∈ux.cells.toList,y.oneCell'=true:=by
     intro y hy;obtain⟨j,hj⟩:=iD.1 hy;have Ld:j<vs.length:=by rw[OC.length];exact(ko.1 hj).1
     obtain⟨z,hz,Q_⟩:=OC.get j vs[j] (by simp[Ld]);rw[hj]at hz;cases hz;exact VP.eX Q_
    have hlen:=OC.length;by_cases acL:(id,bw.dead)∈us0
    ·have:=iC.1 cz.2 _ acL;simp at this
    ·have hne:∀e',(id,e')∉us0:=λe' hm=>by
      have:=hd _ hm;simp only at this;subst this;exact acL hm
     have ahv:live (C.kill us0).h id (.arr sz es):=gW hne hlv;have nz:=ic az hd;have hx1:=cB C hd;rcases az.blk id _ hlv with⟨hn,_⟩|⟨n',carr,e,fr,nW,hr,hs,hf,hz,ahh,hc⟩
     ·rw[hi]at hn;cases hn
     ·rw[hi]at nW;cases nW;have hei:es[i]? =some (nth [] es i):=by rw[dp];simp[List.getD,hlt]
      have ahK:(nth [] es i).length=sz:=hz _ (iD.2 ⟨i,hei⟩);have hrow:i*sz+sz<=carr.size:=by
       have:(i+1)*sz<=carr.size:=fZ (rT sz hlt) hs;rw[FP]at this;exact this
      have vD:i*sz+o+ux.cells.toList.length<=carr.size:=by omega
      refine⟨_,Ac nP hr hf (by omega) vD ji,?_,rfl⟩;have hlk:pQ (.arr sz es) (.arr sz (bg es i o vs)):=⟨rfl,by simp[bg,bU]⟩
      have Bl:=sD carr (i*sz+o) ux.cells.toList vD;have Fa:(C.kill us0).w.heap[n]? =some (.cells carr e fr):=hr;have hx2:=zG (C:=C.kill us0) ahv hi Fa Bl hlk;refine⟨(C.kill us0).write id n _ (.arr sz (bg es i o vs)),rfl,by rw[kW];rfl,hx1.trans hx2,Jn nz ahv hi Fa Bl hlk (.inr ?_)⟩;refine⟨n,_,e,fr,hi,fH _ _ _ _ _ _ Fa,by simp only[bg,bU];rw[Bl];exact hs,hf.size Bl,?_,?_,?_⟩
      ·intro el AL;obtain⟨k,hk⟩:=iD.1 AL;unfold bg at hk;rw[oL,qz]at hk;split at hk
       ·have oV:some (lay (nth [] es i) o vs)=some el:=by simpa[hlt]using hk
        cases oV;rw[fT];exact ahK
       ·exact hz _ (iD.2 ⟨k,hk⟩)
      ·intro y hy;obtain⟨k,hk⟩:=iD.1 hy;have oV:(carr.toList.take (i*sz+o)++ux.cells.toList++carr.toList.drop (i*sz+o+ux.cells.toList.length)).toArray[k]? =some y:=by simpa using hk
       rw[mS carr _ _ vD]at oV;split at oV
       ·exact ji y (iD.2 ⟨_,oV⟩)
       ·exact ahh y (iD.2 ⟨k,by simpa using oV⟩)
      ·intro i' j el c he hj;unfold bg at he;rw[oL,qz]at he;rw[mS carr _ _ vD];split at he
       ·rename_i hii;subst hii;have he':some (lay (nth [] es i) o vs)=some el:=by simpa[hlt]using he
        cases he';rw[qH _ _ _ _ (by omega)]at hj;split at hj
        ·rename_i hjo;obtain⟨u,h1,h2⟩:=OC.get _ _ hj;rw[aK (by omega)];exact⟨u,by rw[show i*sz+j-(i*sz+o)=j-o by omega];exact h1,hx2.vp h2⟩
        ·rename_i hjo;rw[aC (by omega)];obtain⟨u,h1,h2⟩:=hc i j _ c hei hj;exact⟨u,h1,hx2.vp (hx1.vp h2)⟩
       ·rename_i hii;have hjs:j<sz:=by
         have:=hz _ (iD.2 ⟨i',he⟩);have h3:=(ko.1 hj).1;omega
        obtain⟨u,h1,h2⟩:=hc i' j el c he hj;rw[aC ?_]
        ·exact⟨u,h1,hx2.vp (hx1.vp h2)⟩
        ·intro hr2;rcases Nat.lt_or_gt_of_ne hii with h1|h1
         ·have:=kK (sz:=sz) (j:=o+(i'*sz+j-(i*sz+o))) h1 (by omega);omega
         ·have:=kK (sz:=sz) h1 hjs;omega
   ·cases h
  ·cases h
 ·cases h
theorem eR {P:Program}{t:TypeId}{cs:List PV}(h:zeroCells P t=some cs)(w:World)(O:Nat->Prop):
  ∃z,(∀w',(zeroValue t).run P w'=.ok z w')/\All2 (VP w O) cs z.cells.toList:=by
 unfold zeroCells at h;split at h
 ·rename_i i hi;split at h
  ·rename_i us hz;exact⟨.agg us,λw'=>by simp[zeroValue,typeInfo,hi,hz],oX h⟩
  ·rename_i v hna hz;split at h
   ·rename_i a ha;cases h;have hv:=qO (w:=w) (O:=O) ha;refine⟨v,λw'=>by simp[zeroValue,typeInfo,hi,hz],?_⟩;rw[hv.cells];exact⟨hv,trivial⟩
   ·cases h
  ·cases h
 ·cases h
theorem uf (c:Array Value):xr c (0,0):=.inl rfl
theorem F_ {C:Ctx}(az:Ok C){nid:Nat}(hf:nth bw.fresh C.h nid=.fresh)(hn:nid<C.h.length){cs:List AV}{carr:Array Value}{e:TypeId}{us:cD}(hus:us=[])
  (ha:All2 (VA C) cs carr.toList) (h1:∀x∈carr.toList,x.oneCell'=true):
  bq C [(nid,.blk (.box cs))] (.t (.ptr nid 0)) (.pointer (some ⟨C.w.heap.size,0,none⟩)) (C.w.alloc (.cells carr e)):=by
 have hg:=Grow.alloc C.w (.cells carr e);have hx:=nB C hg (B:=.box cs) (x:=some C.w.heap.size) hf (λn h=>by cases h;exact dB _);have jZ:live (upd (.blk (.box cs)) C.h nid) nid (.box cs):=bR.2 (.inl ⟨rfl,hn,rfl⟩);refine⟨C.ky (C.w.alloc (.cells carr e)) nid (some C.w.heap.size) (.box cs),rfl,rfl,hx,t_ az hg hf (λn h=>by cases h;exact dB _) ?_,?_⟩
 ·refine⟨C.w.heap.size,carr,e,(0,0),cG _ _ _,gh _ _,by simpa using ha.length.symm,uf carr,λj c hj=> ?_⟩;obtain⟨u,h2,h3⟩:=ha.get j c hj;exact⟨u,by simpa using h2,hx.va h3,h1 u (iD.2 ⟨j,h2⟩)⟩
 ·exact⟨dX jZ,_,rfl,λds hd=>cG _ _ _⟩
theorem zE {C:Ctx}(az:Ok C){nid:Nat}(hf:nth bw.fresh C.h nid=.fresh)(hn:nid<C.h.length){sz:Nat}{es:List (List PV)}{carr:Array Value}{e:TypeId}{fr:Nat×Nat}{w:World}
  (hg:Grow C.w w) (hr:w.heap[C.w.heap.size]? =some (.cells carr e fr)) (uv:xr carr fr) (cap:Nat) (j0:es.length<=cap) (hcs:cap*sz<=carr.size) (hz:∀e∈es,e.length=sz)
  (h1:∀x∈carr.toList,x.oneCell'=true) (hc:∀(i j:Nat) e c,es[i]? =some e->e[j]? =some c->∃u,carr[i*sz+j]? =some u/\C.P c u):
  bq C [(nid,.blk (.arr sz es))] (.t (.ak nid)) (.slice (some ⟨C.w.heap.size,0,none⟩) es.length cap) w:=by
 have hx:=nB C hg (B:=.arr sz es) (x:=some C.w.heap.size) hf (λn h=>by cases h;exact dB _);have jZ:live (upd (.blk (.arr sz es)) C.h nid) nid (.arr sz es):=bR.2 (.inl ⟨rfl,hn,rfl⟩);refine⟨C.ky w nid (some C.w.heap.size) (.arr sz es),rfl,rfl,hx,t_ az hg hf (λn h=>by cases h;exact dB _) (.inr ?_),?_⟩
 ·refine⟨C.w.heap.size,carr,e,fr,cG _ _ _,hr,fZ (rT sz j0) hcs,uv,hz,h1,λi j el c he hj=> ?_⟩;obtain⟨u,h2,h3⟩:=hc i j el c he hj;exact⟨u,h2,hx.vp h3⟩
 ·refine⟨dX jZ,⟨_,_,_,rfl⟩,λnN es' hd=> ?_⟩;have:=lH jZ hd;cases this;unfold HS;rw[show(C.ky w nid (some C.w.heap.size) (.arr sz es)).ι nid=some C.w.heap.size from cG _ _ _];exact⟨cap,carr,e,fr,rfl,j0,hr,hcs⟩
theorem bq.after {C:Ctx}{us mb:cD}{v:AV}{u:Value}{w':World}(hd:bK us)(h:bq (C.kill us) mb v u w'):bq C (us++mb) v u w':=by
 obtain⟨C',h1,h2,h3,h4,h5⟩:=h;exact⟨C',h1,by rw[h2,kW];rfl,(cB C hd).trans h3,h4,h5⟩
theorem gB:∀{us:cD} {h:List bw} {nid:Nat},(∀e,(nid,e)∉us)->nth bw.fresh h nid=.fresh->nth bw.fresh (bh us h) nid=.fresh
 |[],_,_,_,hf=>hf
 |(i,e)::us,h,nid,hn,hf=>gB (us:=us) (λe' hm=>hn e' (by simp[hm])) (by
  rw[ep,aC (λhc=>hn e (by rw[hc.1];simp))];exact hf)
theorem Jh {C:Ctx}{look:aJ}(hl:bQ C look){nid:Nat}(hf:nth bw.fresh C.h nid=.fresh){v:TV}{vs:List PV}{us:cD}(h:rA look v=some (vs,us)):∀e,(nid,e)∉us:=by
 intro e hm;unfold rA at h;split at h
 ·cases h;cases hm
 ·cases h;cases hm
 ·split at h
  ·rename_i sz es hq;cases h;simp at hm;obtain⟨rfl,_⟩:=hm;exact s6 (dX (hl _ _ hq)) hf rfl
  ·cases h
 ·cases h
theorem Tx {C:Ctx}{look:aJ}(hl:bQ C look){nid:Nat}(hf:nth bw.fresh C.h nid=.fresh){v:AV}{vs:List PV}{us:cD}(h:rB look v=some (vs,us)):∀e,(nid,e)∉us:=by
 unfold rB at h;split at h
 ·exact Jh hl hf h
 ·cases h;intro e hm;cases hm
 ·intro e hm;obtain⟨w,y,z,h1,h2⟩:=jv h _ hm;exact Jh hl hf h1 e h2
 ·cases h
theorem KX {C:Ctx}(az:Ok C){P:Program}{nid:Nat}(hf:nth bw.fresh C.h nid=.fresh)(hn:nid<C.h.length){t:TypeId}{cs:List PV}(h:zeroCells P t=some cs):
  ∃u w',(Instr.alloc t true (.tuple #[])).run P C.w=.ok u w'/\bq C [(nid,.blk (.box (cs.map AV.p)))] (.t (.ptr nid 0)) u w':=by
 obtain⟨z,hz,ha⟩:=eR h C.w C.O;refine⟨.pointer (some ⟨C.w.heap.size,0,none⟩),C.w.alloc (.cells z.cells t),by simp[Instr.alloc,hz,newVar,newRow],F_ az hf hn rfl (Et ha) λx hx=> ?_⟩;obtain⟨j,hj⟩:=iD.1 hx;have Ld:j<cs.length:=by rw[ha.length];exact(ko.1 hj).1
 obtain⟨y,hy,hp⟩:=ha.get j cs[j] (by simp[Ld]);rw[hj]at hy;cases hy;exact VP.eX hp
theorem QU {C:Ctx}(az:Ok C){P:Program}{nid:Nat}(hf:nth bw.fresh C.h nid=.fresh)(hn:nid<C.h.length){t:TypeId}{v:AV}{u:Value}(hv:VA C v u)(h:yq v=true):
  ∃u' w',(Instr.box t u).run P C.w=.ok u' w'/\bq C [(nid,.blk (.box (lX v)))] (.t (.ptr nid 0)) u' w':=by
 obtain⟨h1,h2⟩:=yf h hv;exact⟨.pointer (some ⟨C.w.heap.size,0,none⟩),C.w.alloc (.cells u.cells t),by simp[Instr.box,newVar,newRow],F_ az hf hn rfl h1 h2⟩
theorem zF (off:Nat):∀(vs:List Value) (k:Nat) (cs:Array Value),(vs.zipIdx k).foldl (λcs (x:Value×Nat)=>cs.setIfInBounds (off+x.2) x.1) cs=
  (lay cs.toList (off+k) vs).toArray
 |[],k,cs=>by
  have aaa:∀(cs:List Value) (o:Nat),lay cs o []=cs:=by
   intro cs
   induction cs with
   |nil=>intro o;cases o<;>simp[lay,lay.go]
   |cons c cs ih=>intro o;cases o with
    |zero=>simp[lay,lay.go]
    |succ o=>simp[lay,ih o]
  simp[aaa]
 |v::vs,k,cs=>by
  rw[List.zipIdx_cons,pG,zF off vs (k+1)];congr 1;have aly:∀(l:List Value) (o:Nat),lay (l.set o v) (o+1) vs=lay l o (v::vs):=by
   intro l
   induction l with
   |nil=>intro o;cases o<;>rfl
   |cons c l ih=>intro o;cases o with
    |zero=>simp[lay,lay.go]
    |succ o=>simp[lay,ih o]
  simp only[Array.toList_setIfInBounds];rw[<-uM,aly]
theorem F2 {α:Type}:∀(cs vs:List α),vs.length<=cs.length->lay.go cs vs=vs++cs.drop vs.length
 |cs,[],_=>by simp[lay.go]
 |[],v::vs,h=>by simp at h
 |c::cs,v::vs,h=>by
  simp only[lay.go,qy,bo,List.drop_succ_cons];rw[F2 cs vs (by simpa using h)]
theorem Un {α:Type}:∀(pre mid vs:List α),vs.length<=mid.length->lay (pre++mid) pre.length vs=pre++(vs++mid.drop vs.length)
 |[],mid,vs,h=>by
  rw[eB,eB];cases mid<;>simp only[cO,lay]<;>exact F2 _ _ h
 |p::pre,mid,vs,h=>by
  simp only[qy,bo,lay];rw[Un pre mid vs h]
theorem DT {pl:Nat->Option (Nat×Nat)}{look:aJ}{ev:Operand->AV}:∀{parts:List (Nat×Operand)} {pre mid cs:List PV} {us:cD},oB pl look ev pre.length parts=some (cs,us)->mid.length=cs.length->
  kx pl look ev (pre++mid) parts=some (pre++cs,us)
 |[],pre,mid,cs,us,h,hl=>by
  simp only[oB]at h;cases h;have:mid=[]:=Bj.1 hl;subst this;rfl
 |(i,x)::rest,pre,mid,cs,us,h,hl=>by
  simp only[oB]at h;split at h
  ·rename_i off size vs u h1 h2;split at h
   ·rename_i hc;simp only[bO]at hc;have e1:=gK hc.1;have e2:=gK hc.2;subst e1;split at h
    ·rename_i r mb h3;cases h;simp only[eC]at hl;simp only[kx,h1,h2];rw[aK (by simp only[eC,bO];exact⟨hc.2,Nat.ble_eq_true_of_le (by omega)⟩)];rw[Un pre mid vs (by omega)];have:=DT (pre:=pre++vs) (mid:=mid.drop vs.length) (by rw[eC,e2];exact h3) (by simp;omega);rw[kF]at this;rw[this];simp
    ·cases h
   ·cases h
  ·cases h
theorem xW {pl:Nat->Option (Nat×Nat)}{look:aJ}{ev:Operand->AV}{z:List PV}{parts:List (Nat×Operand)}{r:List PV×cD}(h:DS pl look ev z parts=some r):kx pl look ev z parts=some r:=by
 unfold DS at h;split at h
 ·rename_i cs us hs;cases hb:Nat.beq cs.length z.length with
  |true=>
   rw[hb]at h;cases h;exact DT (pre:=[]) (mid:=z) hs (gK hb).symm
  |false=>rw[hb]at h;exact h
 ·exact h
theorem tu {C:Ctx}(az:Ok C){look:aJ}(hl:bQ C look){pl:Nat->Option (Nat×Nat)}{ev:Operand->AV}{ρ:Operand->Value}(hρ:∀x,VA C (ev x) (ρ x)):
  ∀{parts:List (Nat×Operand)} {cells:List PV} {out:List PV} {us:cD},kx pl look ev cells parts=some (out,us)->
   bK us/\(∀nid,nth bw.fresh C.h nid=.fresh->∀e,(nid,e)∉us)/\∀K,bK K->(∀x∈us,x∈K)->∀carr:Array Value,All2 (C.kill K).P cells carr.toList->
    ∃o:Array Value,Instr.fill pl carr (parts.map λ(i,x)=>(i,ρ x))=some o/\All2 (C.kill K).P out o.toList
 |[],cells,out,us,h=>by
  simp only[kx]at h;cases h;exact⟨λ_ h=>(by cases h),λ_ _ _ h=>(by cases h),λK _ _ carr ha=>⟨carr,rfl,ha⟩⟩
 |(i,x)::rest,cells,out,us,h=>by
  simp only[kx]at h;split at h
  ·rename_i off size vs u hpl hpu;split at h
   ·rename_i cz;simp only[bO]at cz;have hsz:vs.length=size:=gK cz.1;have lI:off+size<=cells.length:=lz cz.2;split at h
    ·rename_i r mb hr;cases h;obtain⟨d1,n1,r1⟩:=tu az hl hρ hr;have d0:=vV hpu;refine⟨λy hy=> ?_,λnid hf e hm=> ?_,λK hK pT carr ha=> ?_⟩
     ·rcases eO.1 hy with hy|hy
      ·exact d0 y hy
      ·exact d1 y hy
     ·rcases eO.1 hm with hm|hm
      ·exact Tx hl hf hpu e hm
      ·exact n1 nid hf e hm
     ·have hp:=sQ az hl (hρ x) hpu hK (λy hy=>pT y (by simp[hy]));have hlen:=hp.length;have hlc:=ha.length;obtain⟨o,Ra,JY⟩:=r1 K hK (λy hy=>pT y (by simp[hy])) (lay carr.toList off (ρ x).cells.toList).toArray (by
       refine All2.nj (by simp only[List.toList_toArray];rw[fT,fT];exact hlc) λj a b hj hb=> ?_;simp only[List.toList_toArray]at hb;rw[qH _ _ _ _ (by omega)]at hj;rw[qH _ _ _ _ (by omega)]at hb;split at hj
       ·rw[aK (by omega)]at hb;obtain⟨y,hy,hyp⟩:=hp.get _ _ hj;rw[hb]at hy;cases hy;exact hyp
       ·rw[aC (by omega)]at hb;obtain⟨y,hy,hyp⟩:=ha.get _ _ hj;rw[hb]at hy;cases hy;exact hyp)
      refine⟨o,?_,JY⟩;have hs1:(ρ x).cells.size=size:=by simpa[hsz]using hlen.symm
      have hs2:¬(off+(ρ x).cells.size>carr.size):=by
       have:carr.size=cells.length:=by simpa using hlc.symm
       omega
      simp only[nS,Instr.fill,hpl];have:=zF off (ρ x).cells.toList 0 carr;simp only[G0]at this;have hz:((ρ x).cells.zipIdx.foldl (λcs (x:Value×Nat)=>cs.setIfInBounds (off+x.2) x.1) carr)=(lay carr.toList off (ρ x).cells.toList).toArray:=by
       rw[<-this,<-Array.foldl_toList,Array.toList_zipIdx]
      simp only[hs1,ne_eq,not_true_eq_false,FJ,w7,mD];rw[aC (by rw[<-hs1];exact hs2)];rw[<-Ra];congr 1
    ·cases h
   ·cases h
  ·cases h
theorem Lq {C:Ctx}{v:AV}{u:Value}{vs:List TV}(hv:VA C v u)(h:adq v=some vs):All2 (VT C) vs u.cells.toList:=by
 unfold adq at h;split at h
 ·cases h;have hv':C.P _ u:=hv;rw[hv'.cells];exact⟨hv,trivial⟩
 ·cases h;obtain⟨us,rfl,ha⟩:=hv;show All2 (VT C) (List.map TV.p _) us.toList;have key:∀(cs:List PV) (xs:List Value),All2 C.P cs xs->All2 (VT C) (cs.map TV.p) xs:=by
   intro cs
   induction cs with
   |nil=>intro xs h;cases xs with
    |nil=>trivial
    |cons=>exact h.elim
   |cons c cs ih=>intro xs h;cases xs with
    |nil=>exact h.elim
    |cons x xs=>exact⟨h.1,ih xs h.2⟩
  exact key _ _ ha
 ·cases h;obtain⟨hk,⟨a,l,c,rfl⟩,hv2⟩:=hv;exact⟨⟨hk,⟨a,l,c,rfl⟩,hv2⟩,trivial⟩
 ·cases h;obtain⟨us,rfl,ha⟩:=hv;exact ha
 ·cases h
theorem AZ {C:Ctx}{pl:Nat->Option (Nat×Nat)}{ev:Operand->AV}{ρ:Operand->Value}(hρ:∀x,VA C (ev x) (ρ x)):
  ∀{parts:List (Nat×Operand)} {cells out:List TV},A1 pl ev cells parts=some out->∀carr:Array Value,All2 (VT C) cells carr.toList->
    ∃o:Array Value,Instr.fill pl carr (parts.map λ(i,x)=>(i,ρ x))=some o/\All2 (VT C) out o.toList
 |[],cells,out,h,carr,ha=>by
  simp only[A1]at h;cases h;exact⟨carr,rfl,ha⟩
 |(i,x)::rest,cells,out,h,carr,ha=>by
  simp only[A1]at h;split at h
  ·rename_i off size vs hpl hpu;split at h
   ·rename_i cz;simp only[bO]at cz;have hsz:vs.length=size:=gK cz.1;have lI:off+size<=cells.length:=lz cz.2;have hp:=Lq (hρ x) hpu;have hlen:=hp.length;have hlc:=ha.length;obtain⟨o,Ra,JY⟩:=AZ hρ h (lay carr.toList off (ρ x).cells.toList).toArray (by
     refine All2.nj (by simp only[List.toList_toArray];rw[fT,fT];exact hlc) λj a b hj hb=> ?_;simp only[List.toList_toArray]at hb;rw[qH _ _ _ _ (by omega)]at hj;rw[qH _ _ _ _ (by omega)]at hb;split at hj
     ·rw[aK (by omega)]at hb;obtain⟨y,hy,hyp⟩:=hp.get _ _ hj;rw[hb]at hy;cases hy;exact hyp
     ·rw[aC (by omega)]at hb;obtain⟨y,hy,hyp⟩:=ha.get _ _ hj;rw[hb]at hy;cases hy;exact hyp)
    refine⟨o,?_,JY⟩;have hs1:(ρ x).cells.size=size:=by simpa[hsz]using hlen.symm
    have hs2:¬(off+(ρ x).cells.size>carr.size):=by
     have:carr.size=cells.length:=by simpa using hlc.symm
     omega
    simp only[nS,Instr.fill,hpl];have:=zF off (ρ x).cells.toList 0 carr;simp only[G0]at this;have hz:((ρ x).cells.zipIdx.foldl (λcs (x:Value×Nat)=>cs.setIfInBounds (off+x.2) x.1) carr)=(lay carr.toList off (ρ x).cells.toList).toArray:=by
     rw[<-this,<-Array.foldl_toList,Array.toList_zipIdx]
    simp only[hs1,ne_eq,not_true_eq_false,FJ,w7,mD];rw[aC (by rw[<-hs1];exact hs2)];rw[<-Ra];congr 1
   ·cases h
  ·cases h
theorem All2.one {C:Ctx}{cs:List PV}{l:List Value}(h:All2 C.P cs l):∀x∈l,x.oneCell'=true:=by
 intro x hx;obtain⟨j,hj⟩:=iD.1 hx;have Ld:j<cs.length:=by rw[h.length];exact(ko.1 hj).1
 obtain⟨y,hy,hp⟩:=h.get j cs[j] (by simp[Ld]);rw[hj]at hy;cases hy;exact VP.eX hp
theorem wT {P:Program}{e:TypeId}{z:List PV}(h:zeroCells P e=some z){w:World}:(sizeOf e).run P w=.ok (P.cellsOf e) w:=by
 unfold zeroCells at h;split at h
 ·rename_i i hi;simp[sizeOf,typeInfo,Program.cellsOf,hi]
 ·cases h
theorem lx {P:Program}{e:TypeId}{z:List PV}(h:zeroCells P e=some z):∃i,P.info? e=some i/\P.bytesOf e=i.bytes/\P.cellsOf e=i.size:=by
 unfold zeroCells at h;split at h
 ·rename_i i hi;exact⟨i,hi,by simp[Program.bytesOf,hi],by simp[Program.cellsOf,hi]⟩
 ·cases h
theorem wD:∀(sz n:Nat) (cs:List PV) (i:Nat),i<n->(chunks sz n cs)[i]? =some (cut cs (i*sz) sz)
 |sz,0,cs,i,h=>by omega
 |sz,n+1,cs,0,_=>by simp[chunks,cut]
 |sz,n+1,cs,i+1,h=>by
  have:=wD sz n (cs.drop sz) i (by omega);simp only[chunks,je,this];unfold cut;rw[List.drop_drop,FP,Nat.add_comm]
theorem lf:∀(sz n:Nat) (cs:List PV),(chunks sz n cs).length=n
 |_,0,_=>rfl
 |sz,n+1,cs=>by simp[chunks,lf sz n]
theorem Ks {sz n:Nat}{cs:List PV}(h:cs.length=n*sz):∀e∈chunks sz n cs,e.length=sz:=by
 intro e he;obtain⟨i,hi⟩:=iD.1 he;have pT:i<n:=by
  have:=(ko.1 hi).1
  rwa [lf]at this
 rw[wD sz n cs i pT]at hi;cases hi;unfold cut;have:(i+1)*sz<=n*sz:=rT sz pT;rw[FP]at this;simp;omega
theorem Kt {sz n:Nat}{cs:List PV}{i j:Nat}{e:List PV}{c:PV}(h1:(chunks sz n cs)[i]? =some e)(h2:e[j]? =some c):cs[i*sz+j]? =some c:=by
 have pT:i<n:=by
  have:=(ko.1 h1).1
  rwa [lf]at this
 rw[wD sz n cs i pT]at h1;cases h1;unfold cut at h2;rw[jS,CL]at h2;split at h2
 ·exact h2
 ·cases h2
theorem fw {z:List PV}:∀n,(dm z n).flatten.length=n*z.length
 |0=>by simp[dm]
 |n+1=>by simp[dm,fw n,FP];omega
theorem kN {z:List PV}(hz:0<z.length):∀(n i:Nat),i<n*z.length->(dm z n).flatten[i]? =z[i %z.length]?
 |0,i,h=>by omega
 |n+1,i,h=>by
  simp only[dm,List.flatten_cons,Co];split
  ·rename_i h1;rw[u_ h1]
  ·rename_i h1;rw[FP]at h;rw[kN hz n _ (by omega)];rw[Nat.mod_eq_sub_mod (by omega:z.length<=i)]
theorem BW {C:Ctx}{z:List PV}{zv:Array Value}(h:All2 C.P z zv.toList)(hz:0<z.length)(n m:Nat)(hm:m=n*z.length):
  All2 C.P (dm z n).flatten ((Array.range m).map λi=>zv[i %zv.size]!).toList:=by
 subst hm;have hs:zv.size=z.length:=by simpa using h.length.symm
 refine All2.nj (by rw[fw];simp) λi a b ha hb=> ?_;have hi:i<n*z.length:=by
  have:=(ko.1 ha).1
  rwa [fw]at this
 rw[kN hz n i hi]at ha;obtain⟨y,hy,hp⟩:=h.get _ _ ha;have hlt:i %z.length<zv.size:=by rw[hs];exact Cs _ hz
 have hy':zv[i %z.length]=y:=by
  have:zv[i %z.length]? =some y:=by simpa using hy
  rw[I9 hlt]at this;exact pH this
 simp[hi,hs]at hb;rw[<-hb];have:zv[i %z.length]! =y:=by rw[getElem!_pos zv _ hlt];exact hy'
 simp[this]at*
 first|exact hp|(rw[this];exact hp)
theorem wh {C:Ctx}:∀{ss:List Sh} {cs:List PV} {us:List Value},All2 C.P cs us->All2 C.P (YR ss cs) us
 |[],cs,us,h=>by cases cs<;>exact h
 |s::ss,[],us,h=>h
 |s::ss,c::cs,us,h=>by
  cases us with
  |nil=>exact h.elim
  |cons u us=>
   refine⟨?_,wh h.2⟩;split
   ·split
    ·have h0:u=.slice none 0 0:=(λu (h:C.P .bN u)=>show u=.slice none 0 0 by cases h;rfl) _ h.1;rw[h0];exact .yA _ none 0
    ·exact h.1
   ·exact h.1
theorem Mb {C:Ctx}{P:Program}{e:TypeId}{n:Nat}{cs:List PV}{us:List Value}(h:All2 C.P cs us):All2 C.P (Mc P e n cs) us:=by
 unfold Mc;split
 ·exact wh h
 ·exact h
theorem zR {C:Ctx}(az:Ok C){P:Program}{look:aJ}(hl:bQ C look){nid:Nat}(hf:nth bw.fresh C.h nid=.fresh)(hn:nid<C.h.length){ev:Operand->AV}{ρ:Operand->Value}(hρ:∀x,VA C (ev x) (ρ x))
  {t e:TypeId} (ht:P.underlying t=some (.slice e)) {z:List PV} (hz:zeroCells P e=some z) (hz0:z.length=P.cellsOf e) (hz1:1<=z.length) {n:Nat} (hn2:n*z.length<=16777216)
  {parts:Array (Nat×Operand)} {cs:List PV} {us:cD} (h:kx (λi=>some (i*z.length,z.length)) look ev (dm z n).flatten parts.toList=some (cs,us)):
  ∃u w',(Instr.buildSlice t n (parts.map λ(i,x)=>(i,ρ x))).run P C.w=.ok u w'/\bq C (us++[(nid,.blk (.arr z.length (chunks z.length n (Mc P e n cs))))]) (.t (.ak nid)) u w':=by
 obtain⟨hd,hne,hr⟩:=tu az hl hρ h;obtain⟨zv,Vj,Q8⟩:=eR hz (C.kill us).w (C.kill us).O;have hlen:zv.cells.size=z.length:=by simpa using Q8.length.symm
 obtain⟨o,Ra,JY⟩:=hr us hd (λx hx=>hx) ((Array.range (n*z.length)).map λi=>zv.cells[i %zv.cells.size]!) (BW (C:=C.kill us) Q8 (by omega) n _ rfl);have aeq:=Mb (P:=P) (e:=e) (n:=n) JY;have hk:=ic az hd;have hol:cs.length=n*z.length:=by
  have pn:∀{parts cells out us},kx (λi=>some (i*z.length,z.length)) look ev cells parts=some (out,us)->out.length=cells.length:=by
   intro parts
   induction parts with
   |nil=>intro cells out us h;simp only[kx]at h;cases h;rfl
   |cons p rest ih=>
    intro cells out us h;obtain⟨i,x⟩:=p;simp only[kx]at h;split at h
    ·split at h
     ·split at h
      ·rename_i r mb hr;cases h;rw[ih hr,fT]
      ·cases h
     ·cases h
    ·cases h
  rw[pn h,fw]
 have ale:(Mc P e n cs).length=n*z.length:=by rw[aeq.length,<-JY.length,hol]
 have hos:o.size=n*z.length:=by rw[<-hol];simpa using JY.length.symm
 refine⟨.slice (some ⟨C.w.heap.size,0,none⟩) n n,C.w.alloc (.cells o e),?_,?_⟩
 ·simp only[Instr.buildSlice,rQ,mB ht,rS,wT hz,<-hz0];rw[aC (by omega)];by_cases h0:n*z.length=0
  ·have r_:n=0:=by
    rcases Nat.mul_eq_zero.1 h0 with h|h
    ·exact h
    ·omega
   subst r_;simp only[Nat.zero_mul]at Ra|-;simp only[xd,iO,rQ,rS];have hr0:((Array.range 0).map λi=>zv.cells[i %zv.cells.size]!)=((Array.range 0).map λi=>(#[]:Array Value)[i %(#[]:Array Value).size]!):=by simp
   rw[hr0]at Ra;have MD:Instr.fill (λi=>some (i*z.length,z.length)) ((Array.range 0).map λi=>(#[]:Array Value)[i %(#[]:Array Value).size]!) (parts.map λ(i,x)=>(i,ρ x)).toList=some o:=by
    rw[<-Ra];congr 1;simp
   simp only[MD];simp[newRow]
  ·rw[aC h0];simp only[rQ,Vj,rS,iO];have MD:Instr.fill (λi=>some (i*z.length,z.length)) ((Array.range (n*z.length)).map λi=>zv.cells[i %zv.cells.size]!) (parts.map λ(i,x)=>(i,ρ x)).toList=some o:=by
    rw[<-Ra];congr 1;simp
   simp only[MD];simp[newRow]
 ·refine bq.after hd ?_;have hg:Grow (C.kill us).w (C.w.alloc (.cells o e)):=Grow.alloc C.w (.cells o e);have alV:(chunks z.length n (Mc P e n cs)).length=n:=lf _ _ _;have:=zE (C:=C.kill us) hk (nid:=nid) (gB (hne nid hf) hf) (by show nid<(bh us C.h).length;rw[ew];exact hn) (sz:=z.length) (es:=chunks z.length n (Mc P e n cs)) (carr:=o) (e:=e) (fr:=(0,0))
   hg (gh _ _) (uf o) n (by omega) (by omega) (Ks ale) (All2.one aeq) (λi j el c he hj=>by
    obtain⟨u,h1,h2⟩:=aeq.get _ _ (Kt he hj);exact⟨u,by simpa using h1,h2⟩)
  rw[alV]at this;exact this
theorem Ci {α:Type}{x y:α}:∀{n i:Nat},(dm x n)[i]? =some y->x=y/\i<n
 |0,i,h=>by simp[dm]at h
 |n+1,0,h=>by simp[dm]at h;exact⟨h,by omega⟩
 |n+1,i+1,h=>by
  simp only[dm,je]at h;obtain⟨h1,h2⟩:=Ci h;exact⟨h1,by omega⟩
theorem eW {α:Type}(x:α):∀n,(dm x n).length=n
 |0=>rfl
 |n+1=>by simp[dm,eW x n]
theorem NC {n:Int}(h0:0<=n)(h1:n<=9223372036854775807):IntKind.i64.wrap n=n:=IntWalk.i64_in n (by omega)
theorem zw {C:Ctx}(az:Ok C){P:Program}{nid:Nat}(hf:nth bw.fresh C.h nid=.fresh)(hn:nid<C.h.length){t:TypeId}{l c v:AV}{us:cD}{ul uc:Value}(hl:VA C l ul)(hc:VA C c uc)
  (h:gU P nid t l c two=some (v,us)):∃u w',(Instr.makeSlice t ul uc).run P C.w=.ok u w'/\bq C us v u w':=by
 unfold gU at h;split at h
 ·rename_i e n m ht;cases hl;cases hc;split at h
  ·rename_i z hz;split at h
   ·rename_i cz;simp only[bO]at cz;have hz0:z.length=P.cellsOf e:=gK cz.1;have hz1:1<=z.length:=lz cz.2;obtain⟨hb,h⟩:=bX h;obtain⟨rfl,rfl⟩:=ax h;simp only[bO,mD]at hb;obtain⟨b1,b2,b3,b4⟩:=hb;obtain⟨i,hi,MK,hci⟩:=lx hz;obtain⟨zv,Vj,Q8⟩:=eR hz C.w C.O;have hlen:zv.cells.size=z.length:=by simpa using Q8.length.symm
    have w1:=NC b1 (by omega);have w2:=NC (by omega:0<=m) b3;unfold room at b4;have hall:=BW (C:=C) Q8 (by omega) m.toNat _ rfl;refine⟨.slice (some ⟨C.w.heap.size,0,none⟩) n.toNat m.toNat,C.w.alloc (.cells ((Array.range (m.toNat*z.length)).map λi=>zv.cells[i %zv.cells.size]!) e),?_,?_⟩
    ·have ahn:¬m<0:=by omega
     have ahm:¬((i.bytes:Int)*m>281474976710656):=by
      rw[MK]at b4;rw[Int.mul_comm];omega
     have ahl:¬n<0:=by omega
     have ahk:¬n>m:=by omega
     simp only[Instr.makeSlice,rQ,mB ht,rS,asInt,asIntOf,iO,typeInfo,run_program,hi,w1,w2];have al4:(decide (m<0)||decide ((i.bytes:Int)*m>2^48))=false:=by
      simp only[CC,decide_eq_false_iff_not];exact⟨ahn,ahm⟩
     rw[al4];simp only[ahl,ahk,FJ,Bool.or_self,pI,sL,rQ,run_askRoom,rS,wT hz,<-hz0];by_cases h0:m.toNat*z.length=0
     ·have hm0:m.toNat=0:=by
       rcases Nat.mul_eq_zero.1 h0 with h|h
       ·exact h
       ·omega
      have r_:n.toNat=0:=by omega
      simp[hm0,r_,newRow,Array.range_zero']
     ·simp[h0,Vj,newRow]
    ·have hg:Grow C.w (C.w.alloc (.cells ((Array.range (m.toNat*z.length)).map λi=>zv.cells[i %zv.cells.size]!) e)):=Grow.alloc _ _;have:=zE (C:=C) az hf hn (sz:=z.length) (es:=dm z n.toNat) (e:=e) (fr:=(0,0)) hg (gh _ _) (uf _) m.toNat (by rw[eW];omega) (by simp)
      (λel AL=>by
       obtain⟨k,hk⟩:=iD.1 AL;rw[(Ci hk).1]) (All2.one hall) (λi' j el c he hj=>by
       obtain⟨rfl,hlt⟩:=Ci he;have J2:j<z.length:=(ko.1 hj).1;have Z9:i'*z.length+j<m.toNat*z.length:=kK (by omega) J2;have hcell:(dm z m.toNat).flatten[i'*z.length+j]? =some c:=by
        rw[kN (by omega) _ _ Z9,Nat.add_comm,Nat.add_mul_mod_self_right,u_ J2,hj]
       obtain⟨u,h1,h2⟩:=hall.get _ _ hcell;exact⟨u,by rw[<-Aj];exact h1,h2⟩)
     rw[eW]at this;exact this
   ·cases h
  ·cases h
 ·cases h
structure j9 (C:Ctx)(sz:Nat)(es:List (List PV))(cells:List Value):Prop where
 len:cells.length=es.length*sz
 one:∀u∈cells,u.oneCell'=true
 el:∀e∈es,e.length=sz
 rel:∀(i j:Nat) e c,es[i]? =some e->e[j]? =some c->∃u,cells[i*sz+j]? =some u/\C.P c u
theorem j9.nil (C:Ctx)(sz:Nat):j9 C sz [] []:=⟨by simp,by simp,by simp,λi j e c h=>by simp at h⟩
theorem j9.append {C:Ctx}{sz:Nat}{es es':List (List PV)}{l l':List Value}(h:j9 C sz es l)(h':j9 C sz es' l'):j9 C sz (es++es') (l++l') where
 len:=by simp[h.len,h'.len,FM]
 one u hu:=by rcases eO.1 hu with hu|hu;exact h.one u hu;exact h'.one u hu
 el e he:=by rcases eO.1 he with he|he;exact h.el e he;exact h'.el e he
 rel i j e c he hj:=by
  rw[Co]at he;split at he
  ·rename_i hlt;obtain⟨u,h1,h2⟩:=h.rel i j e c he hj;refine⟨u,?_,h2⟩;rw[Co,aK (ko.1 h1).1];exact h1
  ·rename_i uu;obtain⟨u,h1,h2⟩:=h'.rel _ j e c he hj;refine⟨u,?_,h2⟩;have h3:i*sz+j=l.length+((i-es.length)*sz+j):=by
    rw[h.len];have:i=es.length+(i-es.length):=by omega
    rw[show i*sz=(es.length+(i-es.length))*sz from by rw[<-this],FM];omega
   rw[h3,I8 (by omega)];simpa using h1
theorem V7 {C:Ctx}(az:Ok C){look:aJ}(hl:bQ C look){x:AV}{ux:Value}(hx:VA C x ux){sz:Nat}{es:List (List PV)}(h:aak look x=some (sz,es)):
  ∃ao cap cells,ux=.slice ao es.length cap/\(es=[]\/j9 C sz es cells)/\(es=[]->cells=[])/\
   (∀j u,cells[j]? =some u->∃b off,ao=some ⟨b,off,none⟩/\C.w.cell? ⟨b,off+j,none⟩=some u)/\(es≠[]->∃b off,ao=some ⟨b,off,none⟩):=by
 unfold aak at h;split at h
 ·cases h;cases hx with
  |yA _ a cap=>exact⟨a,cap,[],rfl,.inl rfl,λ_=>rfl,λj u hj=>by simp at hj,λhne=>absurd rfl hne⟩
  |sl _ _ b off cap f hb hO hc hz hcell hvp=>
   by_cases he:es=[]
   ·subst he;exact⟨_,cap,[],rfl,.inl rfl,λ_=>rfl,λj u hj=>by simp at hj,λhne=>absurd rfl hne⟩
   ·by_cases hz0:sz=0
    ·subst hz0;refine⟨_,cap,[],rfl,.inr ⟨by simp,by simp,hz,λi j e c hi hj=> ?_⟩,λh=>absurd h he,λj u hj=>by simp at hj,λ_=>⟨b,off,rfl⟩⟩;have:=hz e (iD.2 ⟨i,hi⟩);have h3:=(ko.1 hj).1;omega
    ·have key:∀k,k<es.length*sz->∃e c,es[k/sz]? =some e/\e[k %sz]? =some c:=by
      intro k hk;have h1:k/sz<es.length:=(Nat.div_lt_iff_lt_mul (by omega)).2 hk;refine⟨es[k/sz],?_⟩;have h2:k %sz<(es[k/sz]).length:=by rw[hz _ (mZ h1)];exact Cs _ (by omega)
      exact⟨(es[k/sz])[k %sz],by simp[h1],by simp[h2]⟩
     refine⟨_,cap,(List.range (es.length*sz)).map λk=>f (k/sz) (k %sz),rfl,.inr ⟨by simp,?_,hz,?_⟩,λh=>absurd h he,?_,λ_=>⟨b,off,rfl⟩⟩
     ·intro u hu;obtain⟨k,hk,rfl⟩:=fQ.1 hu;obtain⟨e,c,h1,h2⟩:=key k (jf.1 hk);exact VP.eX (hvp _ _ e c h1 h2)
     ·intro i j e c hi hj;have J2:j<sz:=by
       have:=hz e (iD.2 ⟨i,hi⟩);have h3:=(ko.1 hj).1;omega
      have hi2:i<es.length:=(ko.1 hi).1;have hlt:=kK hi2 J2;have hd:(i*sz+j)/sz=i:=by rw[Nat.mul_comm,Nat.mul_add_div (by omega),Nat.div_eq_of_lt J2,G0]
      have hm:(i*sz+j) %sz=j:=by rw[Nat.mul_comm,Nat.mul_add_mod,u_ J2]
      refine⟨f i j,?_,hvp i j e c hi hj⟩;simp[hlt,hd,hm]
     ·intro k u hk;rw[qA]at hk;obtain⟨k',oV,rfl⟩:=EO.1 hk;have hlt:k<es.length*sz:=by
       have:=(ko.1 oV).1;simpa using this
      rw[vg hlt]at oV;cases oV;obtain⟨e,c,h1,h2⟩:=key k hlt;refine⟨b,off,rfl,?_⟩;have:=hcell _ _ e c h1 h2;rw[<-this];congr 2;have:=Nat.div_add_mod k sz;rw[Nat.mul_comm]at this;omega
 ·cases h;cases hx;exact⟨none,0,[],rfl,.inl rfl,λ_=>rfl,λj u hj=>by simp at hj,λhne=>absurd rfl hne⟩
 ·rename_i id;split at h
  ·rename_i sz0 QG hb;cases h;have hlv:=hl _ _ hb;obtain⟨hk,_,hv⟩:=hx;have hs:=hv _ _ hlv;unfold HS at hs;rcases az.blk id _ hlv with⟨hn,he⟩|⟨n,carr,e,fr,hi,hr,hsz,hf,hz,ji,hc⟩
   ·rw[hn]at hs;obtain⟨rfl,rfl⟩:=hs;exact⟨none,0,[],rfl,.inl rfl,λ_=>rfl,λj u hj=>by simp at hj,λhne=>absurd rfl hne⟩
   ·rw[hi]at hs;obtain⟨cap,O1,e2,fr2,rfl,hle,hr2,j0⟩:=hs;rw[hr]at hr2;cases hr2;refine⟨some ⟨n,0,none⟩,cap,carr.toList.take (es.length*sz),rfl,.inr ⟨by simp;omega,λu hu=>ji u (sG hu),hz,?_⟩,?_,?_,λ_=>⟨n,0,rfl⟩⟩
    ·intro i j el c AL hj;have J2:j<sz:=by
      have:=hz el (iD.2 ⟨i,AL⟩);have h3:=(ko.1 hj).1;omega
     have hlt:=kK (ko.1 AL).1 J2;obtain⟨u,h1,h2⟩:=hc i j el c AL hj;refine⟨u,?_,h2⟩;rw[jS,aK hlt];simpa using h1
    ·intro he;subst he;simp
    ·intro j u hj;rw[jS]at hj;split at hj
     ·refine⟨n,0,rfl,?_⟩;rw[show 0+j=j by omega,jG carr n _ hr];simpa using hj
     ·cases hj
  ·cases h
 ·cases h
theorem V6 {C:Ctx}(az:Ok C){P:Program}{look:aJ}(hl:bQ C look){x:AV}{ux:Value}(hx:VA C x ux){sz nN:Nat}{es:List (List PV)}(h:aak look x=some (nN,es))(hsz:nN=sz\/es=[])
  {tx e':TypeId} (hk:P.underlying tx=some (.slice e')):∃cells,Src P sz tx ux es.length cells C.w/\j9 C sz es cells:=by
 obtain⟨ao,cap,cells,rfl,hrow,hnil,hcell,hao⟩:=V7 az hl hx h;by_cases he:es=[]
 ·have:=hnil he;subst this;subst he;refine⟨[],?_,j9.nil C sz⟩;cases ao with
  |none=>exact Src.ofNil C.w hk cap
  |some a=>exact Src.ofSlice C.w hk a 0 cap [] (by simp) (λj u hj=>by simp at hj) (by simp)
 ·have hr:j9 C nN es cells:=hrow.resolve_left he;have hz:nN=sz:=hsz.resolve_right he;subst hz;obtain⟨b,off,rfl⟩:=hao he;refine⟨cells,Src.ofSlice C.w hk ⟨b,off,none⟩ es.length cap cells hr.len (λj u hj=> ?_) hr.one,hr⟩;obtain⟨b2,ao1,h1,h2⟩:=hcell j u hj;cases h1;rw[addr_add];exact h2
theorem Grow.QJ (w:World)(o:Obj):Grow w (w.drew.alloc o):=
 ⟨rfl,rfl,rfl,by simp,λb hb=>by show(w.heap.push o)[b]? =_;rw[Array.getElem?_push,aC (by omega)]⟩
theorem DB (w:World)(o:Obj):(w.drew.alloc o).heap[w.heap.size]? =some o:=gh w.drew o
theorem A' {C:Ctx}(az:Ok C){P:Program}{nid:Nat}(hf:nth bw.fresh C.h nid=.fresh)(hn:nid<C.h.length){t tx ty e:TypeId}(ht:P.underlying t=some (.slice e)){z:List PV}(hz:zeroCells P e=some z)
  (hz0:z.length=P.cellsOf e) (hs1:1<=P.cellsOf e) (hb1:1<=P.bytesOf e) {base:Option Addr} {sCap:Nat} {es es':List (List PV)} {olds news:List Value} {x:Value}
  (ho:j9 C (P.cellsOf e) es olds) (hw:j9 C (P.cellsOf e) es' news) (hold:(Builtin.firstCells (P.cellsOf e) es.length (.slice base es.length sCap)).run P C.w.drew=.ok olds.toArray C.w.drew)
  (uS:Src P (P.cellsOf e) tx x es'.length news C.w) (hg:sCap<es.length+es'.length) (hroom:(es.length+es'.length)*P.bytesOf e<=room):
  ∃u w',(Builtin.append_ #[t,tx] ty #[.slice base es.length sCap,x]).run P C.w=.ok u w'/\bq C [(nid,.blk (.arr (P.cellsOf e) (es++es')))] (.t (.ak nid)) u w':=by
 obtain⟨i,hi,MK,hci⟩:=lx hz;obtain⟨zv,Vj,Q8⟩:=eR hz C.w C.O;have akR:i.zero=some zv:=by
  have:=Vj C.w;simp[zeroValue,typeInfo,hi]at this;cases hzz:i.zero with
  |none=>rw[hzz]at this;simp at this
  |some v=>rw[hzz]at this;simp at this;rw[this]
 have hzs:zv.cells.size=P.cellsOf e:=by rw[<-hz0];simpa using Q8.length.symm
 unfold room at hroom;have h63:((es.length+es'.length:Nat):Int)<=9223372036854775807:=by
  have:(es.length+es'.length)*1<=(es.length+es'.length)*P.bytesOf e:=Nat.mul_le_mul_left _ hb1;omega
 have hrun:=run_append_grow_src (P:=P) C.w t tx ty e i zv ht hi akR base es.length sCap olds (by rw[<-hci];exact hold) x es'.length news (by rw[<-hci];exact uS) hg h63
  (growslice_fits hg (by rw[<-MK];exact hroom))
 refine⟨_,_,hrun,?_⟩;have aeN:es.length+es'.length<=grownCap C.w (es.length+es'.length) sCap e:=grownCap_ge _ _ _ _;have hrow:=ho.append hw;have hlen:(es++es').length=es.length+es'.length:=by simp
 have:=zE (C:=C) az hf hn (sz:=P.cellsOf e) (es:=es++es') (e:=e) (fr:=(0,0)) (Grow.QJ C.w _) (DB C.w _) (uf _) (grownCap C.w (es.length+es'.length) sCap e) (by rw[hlen];exact aeN)
  (carr:=(olds++news).toArray++Builtin.zeroCells zv.cells (grownCap C.w (es.length+es'.length) sCap e-(es.length+es'.length))) (by
   rw[Array.size_append,size_zeroCells,hzs];have h1:(olds++news).toArray.size=(es.length+es'.length)*P.cellsOf e:=by simp[ho.len,hw.len,FM]
   rw[h1,<-FM];exact rT _ (by omega)) hrow.el (by
   intro y hy;rw[Array.toList_append]at hy;rcases eO.1 hy with hy|hy
   ·exact hrow.one y (by simpa using hy)
   ·obtain⟨k,hk⟩:=iD.1 hy;unfold Builtin.zeroCells at hk;simp at hk;obtain⟨k',oV,rfl⟩:=hk;have hlt:k' %zv.cells.size<zv.cells.size:=Cs _ (by omega);rw[getElem!_pos zv.cells _ hlt];exact All2.one Q8 _ (by simp)) (λi' j el c he hj=>by
   obtain⟨u,h1,h2⟩:=hrow.rel i' j el c he hj;refine⟨u,?_,h2⟩;rw[Array.getElem?_append];have hlt:=(ko.1 h1).1;rw[aK (by simpa using hlt)];simpa using h1)
 rw[hlen]at this;exact this
theorem KU {C:Ctx}(az:Ok C){P:Program}{id nid n:Nat}(hf:nth bw.fresh C.h nid=.fresh)(hn:nid<C.h.length){t tx ty e:TypeId}(ht:P.underlying t=some (.slice e)){z:List PV}(hz:zeroCells P e=some z)
  {cap:Nat} {es es':List (List PV)} {news:List Value} {x:Value} (hl:live C.h id (.arr (P.cellsOf e) es)) (hi:C.ι id=some n) {carr:Array Value} {e2:TypeId} {fr:Nat×Nat}
  (hr:C.w.heap[n]? =some (.cells carr e2 fr)) (j0:cap*P.cellsOf e<=carr.size) (hw:j9 C (P.cellsOf e) es' news) (uS:Src P (P.cellsOf e) tx x es'.length news C.w) (hroom:es.length+es'.length<=cap):
  ∃u w',(Builtin.append_ #[t,tx] ty #[.slice (some ⟨n,0,none⟩) es.length cap,x]).run P C.w=.ok u w'/\bq C [(id,.dead),(nid,.blk (.arr (P.cellsOf e) (es++es')))] (.t (.ak nid)) u w':=by
 obtain⟨i,hii,MK,hci⟩:=lx hz;rcases az.blk id _ hl with⟨hnn,_⟩|⟨n',cX,e',fr',nW,Fa,hs,uv,AL,ji,hc⟩
 ·rw[hi]at hnn;cases hnn
 ·rw[hi]at nW;cases nW;rw[hr]at Fa;cases Fa;have lI:es.length*P.cellsOf e+news.length<=carr.size:=by
   rw[hw.len,<-FM];exact fZ (rT _ hroom) j0
  have hst:=jQ (P:=P) n (es.length*P.cellsOf e) e2 fr news 0 carr C.w hr uv (by simpa using lI) hw.one;simp only[G0]at hst;refine⟨.slice (some ⟨n,0,none⟩) (es.length+es'.length) cap,C.w.setRow n (carr.toList.take (es.length*P.cellsOf e)++news++carr.toList.drop (es.length*P.cellsOf e+news.length)).toArray,?_,?_⟩
  ·have hsz:i.size=P.cellsOf e:=hci.symm;rcases uS.kind with⟨e3,hk⟩|hk<;>
    simp[Builtin.append_,mB ht,mB hk,sizeOf,typeInfo,hii,hsz,uS.len,hroom,uS.cells,addr_add,hst]
  ·have Bl:=sD carr (es.length*P.cellsOf e) news lI;have hx:=zH (B':=.arr (P.cellsOf e) (es++es')) hl hi hf hr Bl;have jZ:live (upd (.blk (.arr (P.cellsOf e) (es++es'))) (upd .dead C.h id) nid) nid (.arr (P.cellsOf e) (es++es')):=bR.2 (.inl ⟨rfl,by rw[bU];exact hn,rfl⟩);have hlen:(es++es').length=es.length+es'.length:=by simp
   refine⟨C.renew id nid n _ (.arr (P.cellsOf e) (es++es')),rfl,rfl,hx,Jo az hl hi hf hn hr Bl (.inr ?_),?_⟩
   ·refine⟨n,_,e2,fr,cG _ _ _,fH _ _ _ _ _ _ hr,by rw[Bl,hlen];exact fZ (rT _ hroom) j0,uv.size Bl,?_,?_,?_⟩
    ·intro el alK;rcases eO.1 alK with h|h
     ·exact AL el h
     ·exact hw.el el h
    ·intro y hy;obtain⟨k,hk⟩:=iD.1 hy;have oV:(carr.toList.take (es.length*P.cellsOf e)++news++carr.toList.drop (es.length*P.cellsOf e+news.length)).toArray[k]? =some y:=by simpa using hk
     rw[mS carr _ _ lI]at oV;split at oV
     ·exact hw.one y (iD.2 ⟨_,oV⟩)
     ·exact ji y (iD.2 ⟨k,by simpa using oV⟩)
    ·intro i' j el c he hj;rw[mS carr _ _ lI];rw[Co]at he;split at he
     ·rename_i hlt;have J2:j<P.cellsOf e:=by
       have:=AL el (iD.2 ⟨i',he⟩);have h3:=(ko.1 hj).1;omega
      have:=kK hlt J2;rw[aC (by omega)];obtain⟨u,h1,h2⟩:=hc i' j el c he hj;exact⟨u,h1,hx.vp h2⟩
     ·rename_i uu;obtain⟨u,h1,h2⟩:=hw.rel _ j el c he hj;have h3:i'*P.cellsOf e+j=es.length*P.cellsOf e+((i'-es.length)*P.cellsOf e+j):=by
       have:i'=es.length+(i'-es.length):=by omega
       rw[show i'*P.cellsOf e=(es.length+(i'-es.length))*P.cellsOf e from by rw[<-this],FM];omega
      have hlt:=(ko.1 h1).1;rw[aK (by omega)];refine⟨u,?_,hx.vp h2⟩;rw[h3,Nat.add_sub_cancel_left];exact h1
   ·refine⟨dX jZ,⟨_,_,_,rfl⟩,λnN es2 hd=> ?_⟩;have:=lH jZ hd;cases this;unfold HS;rw[show(C.renew id nid n (carr.toList.take (es.length*P.cellsOf e)++news++carr.toList.drop (es.length*P.cellsOf e+news.length)).toArray (.arr (P.cellsOf e) (es++es'))).ι nid=some n from cG _ _ _];exact⟨cap,_,e2,fr,by rw[hlen],by rw[hlen];exact hroom,fH _ _ _ _ _ _ hr,by rw[Bl];exact j0⟩
theorem Ni (C:Ctx)(s:List UInt8):j9 C 1 (zQ s) (byteCells ⟨s.toArray⟩) where
 len:=by rw[byteCells_length];show s.toArray.size=_;simp[zQ]
 one u hu:=by obtain⟨_,_,rfl⟩:=fQ.1 hu;rfl
 el e he:=by obtain⟨_,_,rfl⟩:=fQ.1 he;rfl
 rel i j e c he hj:=by
  unfold zQ at he;rw[qA]at he;obtain⟨b,hb,rfl⟩:=EO.1 he;cases j with
  |succ j=>simp at hj
  |zero=>
   simp at hj;subst hj;refine⟨.int .u8 b.toNat,?_,.int _ _⟩;unfold byteCells;simp[hb]
theorem Po {C:Ctx}(az:Ok C){P:Program}{look:aJ}(hl:bQ C look){x:AV}{ux:Value}(hx:VA C x ux){e tx:TypeId}{nN:Nat}{es:List (List PV)}(h:RU P look e tx x=some (nN,es))(hsz:nN=P.cellsOf e\/es=[]):
  ∃cells,Src P (P.cellsOf e) tx ux es.length cells C.w/\j9 C (P.cellsOf e) es cells:=by
 unfold RU at h;split at h
 ·rename_i e' htx;exact V6 az hl hx h hsz htx
 ·rename_i htx;split at h
  ·rename_i s;cases hc:Nat.beq (P.cellsOf e) 1 with
   |false=>rw[hc]at h;cases h
   |true=>
    rw[hc]at h;cases h;have h1:=gK hc;rw[h1];cases hx;have hS:=Src.ofString (P:=P) C.w htx ⟨s.toArray⟩;have hl2:(ByteArray.mk s.toArray).size=(zQ s).length:=by show s.toArray.size=_;simp[zQ]
    rw[hl2]at hS;exact⟨_,hS,Ni C s⟩
  ·cases h
 ·cases h
theorem Fo {C:Ctx}(az:Ok C){P:Program}{look:aJ}(hl:bQ C look){nid:Nat}(hf:nth bw.fresh C.h nid=.fresh)(hn:nid<C.h.length){ts:List TypeId}{ty:TypeId}{s x v:AV}{us:cD}{ux uy:Value}
  (hs:VA C s ux) (hx:VA C x uy) (h:oJ P look nid ts s x two=some (v,us)):∃u w',(Builtin.append_ ts.toArray ty #[ux,uy]).run P C.w=.ok u w'/\bq C us v u w':=by
 unfold oJ at h;split at h
 ·rename_i t tx;split at h
  ·rename_i e ht;split at h
   ·rename_i nN es' z hes hz;split at h
    ·rename_i cz;simp only[bO,wZ]at cz;obtain⟨⟨⟨c1,c2⟩,c3⟩,c4⟩:=cz;have hs1:1<=P.cellsOf e:=lz c2;have hb1:1<=P.bytesOf e:=lz c3;have hz0:z.length=P.cellsOf e:=gK c4;have ag3:nN=P.cellsOf e\/es'=[]:=c1.elim (λh=>.inl (gK h).symm) (λh=>.inr (by simpa using h));obtain⟨news,uS,hrow⟩:=Po az hl hx hes ag3;have hnil:∀C':Ctx,Ok C'->C'.w=C.w->nth bw.fresh C'.h nid=.fresh->nid<C'.h.length->(j9 C' (P.cellsOf e) es' news)->es'.length*P.bytesOf e<=room->
       ∃u w',(Builtin.append_ #[t,tx] ty #[.slice none 0 0,uy]).run P C.w=.ok u w'/\bq C' [(nid,.blk (.arr (P.cellsOf e) es'))] (.t (.ak nid)) u w':=by
      intro C' f_ hw hf' ot hrow' ZZ;by_cases hne:es'=[]
      ·subst hne;obtain⟨i,hi,_,hci⟩:=lx hz;refine⟨.slice none 0 0,C.w,?_,?_⟩
       ·have r_:news=[]:=by have:=hrow.len;simpa using this
        subst r_;rcases uS.kind with⟨e3,hk⟩|hk
        ·have jO:=uS.cells;have Z':=uS.len C.w;rw[hci]at jO;simp at Z';simp only[cO]at jO;simp[Builtin.append_,mB ht,mB hk,sizeOf,typeInfo,hi,Z',jO]
        ·have jO:=uS.cells;have Z':=uS.len C.w;rw[hci]at jO;simp at Z';simp only[cO]at jO;simp[Builtin.append_,mB ht,mB hk,sizeOf,typeInfo,hi,Z',jO]
       ·have hg:Grow C'.w C.w:=by rw[hw];exact Grow.refl _
        have kY:=nB C' hg (B:=.arr (P.cellsOf e) []) (x:=none) hf' (λn h=>by cases h);have jZ:live (upd (.blk (.arr (P.cellsOf e) [])) C'.h nid) nid (.arr (P.cellsOf e) []):=bR.2 (.inl ⟨rfl,ot,rfl⟩);refine⟨C'.ky C.w nid none (.arr (P.cellsOf e) []),rfl,rfl,kY,t_ f_ hg hf' (λn h=>by cases h) (.inl ⟨cG _ _ _,rfl⟩),?_⟩;refine⟨dX jZ,⟨_,_,_,rfl⟩,λsz2 es2 hd=> ?_⟩;have:=lH jZ hd;cases this;unfold HS;rw[show(C'.ky C.w nid none (.arr (P.cellsOf e) [])).ι nid=none from cG _ _ _];exact⟨rfl,rfl⟩
      ·have hlen:0<es'.length:=List.length_pos_iff.2 hne;have ag8:Src P (P.cellsOf e) tx uy es'.length news C'.w:=by rw[hw];exact uS
       have:=A' (C:=C') f_ (nid:=nid) hf' ot (ty:=ty) ht hz hz0 hs1 hb1 (base:=none) (sCap:=0) (es:=[]) (es':=es') (olds:=[]) (x:=uy) (j9.nil _ _) hrow'
        (run_firstCells_none _ _ _ _ _) ag8 (by simpa using hlen) (by simpa using ZZ)
       rw[hw]at this;simpa using this
     split at h
     ·obtain⟨ZZ,h⟩:=bX h;obtain⟨rfl,rfl⟩:=ax h;cases hs;exact hnil C az rfl hf hn hrow (by simpa using ZZ)
     ·rename_i id;split at h
      ·rename_i sz0 es hb;split at h
       ·rename_i ak4;obtain⟨ZZ,h⟩:=bX h;obtain⟨rfl,rfl⟩:=ax h;simp only[mD]at ZZ;have ak2:sz0=P.cellsOf e:=gK ak4;subst ak2;have hlv:=hl _ _ hb;obtain⟨hk,_,hv⟩:=hs;have hS:=hv _ _ hlv;unfold HS at hS;have hdd:bK [(id,bw.dead)]:=λy hy=>by simp at hy;rw[hy]
        have hne:id≠nid:=s6 hk hf;have hf':nth bw.fresh (C.kill [(id,.dead)]).h nid=.fresh:=gB (us:=[(id,.dead)]) (λe' hm=>hne (by simp at hm;exact hm.1.symm)) hf;have ot:nid<(C.kill [(id,.dead)]).h.length:=by show nid<(bh [(id,.dead)] C.h).length;rw[ew];exact hn
        have hkx:=cB C hdd;have XA:=ic az hdd;have hrow':j9 (C.kill [(id,.dead)]) (P.cellsOf e) es' news:=⟨hrow.len,hrow.one,hrow.el,λi j e c hi hj=>by obtain⟨u,h1,h2⟩:=hrow.rel i j e c hi hj;exact⟨u,h1,hkx.vp h2⟩⟩
        rcases az.blk id _ hlv with⟨Z6,aln⟩|⟨n,carr,e2,fr,hi,hr,hsz,uv,AL,ji,hc⟩
        ·subst aln;rw[Z6]at hS;obtain⟨_,rfl⟩:=hS;obtain⟨u,w',h1,h2⟩:=hnil (C.kill [(id,.dead)]) XA rfl hf' ot hrow' (by simpa using ZZ);exact⟨u,w',h1,bq.after (us:=[(id,.dead)]) hdd (by simpa using h2)⟩
        ·rw[hi]at hS;obtain⟨cap,O1,e3,fr3,rfl,hle,hr2,j0⟩:=hS;rw[hr]at hr2;cases hr2;by_cases lI:es.length+es'.length<=cap
         ·exact KU az hf hn (ty:=ty) ht hz hlv hi hr j0 hrow uS lI
         ·have hold:j9 (C.kill [(id,.dead)]) (P.cellsOf e) es (carr.toList.take (es.length*P.cellsOf e)):=by
           refine⟨by simp;omega,λu hu=>ji u (sG hu),AL,λi j el c he hj=> ?_⟩;have J2:j<P.cellsOf e:=by
            have:=AL el (iD.2 ⟨i,he⟩);have h3:=(ko.1 hj).1;omega
           have hlt:=kK (ko.1 he).1 J2;obtain⟨u,h1,h2⟩:=hc i j el c he hj;refine⟨u,?_,hkx.vp h2⟩;rw[jS,aK hlt];simpa using h1
          have hfc:(Builtin.firstCells (P.cellsOf e) es.length (.slice (some ⟨n,0,none⟩) es.length cap)).run P C.w.drew=.ok (carr.toList.take (es.length*P.cellsOf e)).toArray C.w.drew:=
           run_firstCells_some C.w.drew (P.cellsOf e) es.length ⟨n,0,none⟩ es.length cap _ hold.len (λj u hj=>by
            rw[jS]at hj;split at hj
            ·rw[addr_add,World.cell?_drew,show 0+j=j by omega,jG carr n _ hr];simpa using hj
            ·cases hj)
          obtain⟨u,w',h1,h2⟩:=A' (C:=C.kill [(id,.dead)]) XA (nid:=nid) hf' ot (ty:=ty) ht hz hz0 hs1 hb1 hold hrow' hfc uS (by omega) ZZ;exact⟨u,w',h1,bq.after (us:=[(id,.dead)]) hdd h2⟩
       ·cases h
      ·cases h
     ·cases h
    ·cases h
   ·cases h
  ·cases h
 ·cases h
theorem RS (s:List UInt8):(ByteArray.mk s.toArray).size=s.length:=by show s.toArray.size=_;simp
theorem JE {C:Ctx}{look:aJ}(hl:bQ C look){x:AV}{u:Value}{n:Nat}(hx:VA C x u)(h:lenOf look x=some n):
  ∃a c,u=.slice a n c:=by
 unfold lenOf at h;split at h
 ·cases h;cases hx with
  |yA _ a cap=>exact⟨_,_,rfl⟩
  |sl _ _ b off cap f=>exact⟨_,_,rfl⟩
 ·cases h;cases hx;exact⟨_,_,rfl⟩
 ·split at h
  ·rename_i sz es hb;cases h;obtain⟨_,_,hv⟩:=hx;have:=hv _ _ (hl _ _ hb);unfold HS at this;split at this
   ·obtain⟨cap,_,_,_,rfl,_⟩:=this;exact⟨_,_,rfl⟩
   ·obtain⟨rfl,rfl⟩:=this;exact⟨_,_,rfl⟩
  ·cases h
 ·cases h
theorem oY {C:Ctx}{k:IntKind}:∀{l:List AV} {r:List Int} {us:List Value},uG k l=some r->All2 (VA C) l us->us=r.map λn=>Value.int k n
 |[],_,[],h,_=>by simp only[uG]at h;cases h;rfl
 |[],_,_::_,_,h=>h.elim
 |_::_,_,[],_,h=>h.elim
 |a::l,r,u::us,h,ha=>by
  unfold uG at h;split at h
  ·rename_i he;cases he
  ·rename_i k' n l' he;cases he;split at h
   ·rename_i r' hr;split at h
    ·rename_i hk;cases h;obtain⟨h1,h2⟩:=ha;cases h1;cases fe _ _ hk;rw[oY hr h2];rfl
    ·cases h
   ·cases h
  ·cases h
theorem Db {P:Program}{w:World}{k:IntKind}:∀(l:List Int) (x:Int),((l.map λn=>Value.int k n).foldlM Builtin.min2 (.int k x):Sem Value).run P w=.ok (.int k (YV l x)) w
 |[],x=>rfl
 |y::l,x=>by
  simp only[nS,List.foldlM_cons,rQ,YV];have:(Builtin.min2 (.int k x) (.int k y)).run P w=.ok (.int k (if y<x then y else x)) w:=rfl;rw[this,rS];exact Db l _
theorem Dd {P:Program}{w:World}{k:IntKind}:∀(l:List Int) (x:Int),((l.map λn=>Value.int k n).foldlM Builtin.max2 (.int k x):Sem Value).run P w=.ok (.int k (YW l x)) w
 |[],x=>rfl
 |y::l,x=>by
  simp only[nS,List.foldlM_cons,rQ,YW];have:(Builtin.max2 (.int k x) (.int k y)).run P w=.ok (.int k (if y>x then y else x)) w:=rfl;rw[this,rS];exact Dd l _
theorem D5 {C:Ctx}(az:Ok C){P:Program}{look:aJ}(hl:bQ C look){nid:Nat}(hf:nth bw.fresh C.h nid=.fresh)(hn:nid<C.h.length){src dst:TypeId}{x v:AV}{us:cD}{ux:Value}
 (hx:VA C x ux) (h:x_ P look nid src dst x two=some (v,us)):∃u w',(convert src dst ux).run P C.w=.ok u w'/\bq C us v u w':=by cases h
theorem Ei {C:Ctx}(az:Ok C){P:Program}{look:aJ}(hl:bQ C look){nid:Nat}{b:Builtin}(hn:b=.append->nth bw.fresh C.h nid=.fresh/\nid<C.h.length){ts:List TypeId}{ty:TypeId}{cts:Array Bool}{args:List AV}{us:cD}{v:AV}{et:List Value}
  (ha:All2 (VA C) args et) (h:nI P look nid b ts args two=some (v,us)):∃u w',(builtin b ts.toArray ty cts et.toArray).run P C.w=.ok (.value u) w'/\bq C us v u w':=by
 unfold nI at h;split at h
 ·
  rename_i x;cases et with
  |nil=>exact ha.elim
  |cons ux l=>
   cases l with
   |cons=>exact ha.2.elim
   |nil=>
    have hx:=ha.1;split at h
    ·rename_i t ts';split at h
     ·rename_i n e ht;obtain⟨rfl,rfl⟩:=ax h;exact⟨.int .i64 n,C.w,by simp[builtin,Builtin.len_,mB ht,goInt],bq.same az (.int _ _)⟩
     ·rename_i e ht;split at h
      ·rename_i n hlen;obtain⟨rfl,rfl⟩:=ax h;obtain⟨a,c,rfl⟩:=JE hl hx hlen;exact⟨.int .i64 n,C.w,by simp[builtin,Builtin.len_,mB ht,goInt],bq.same az (.int _ _)⟩
      ·cases h
     ·rename_i ht;split at h
      ·rename_i s;obtain⟨rfl,rfl⟩:=ax h;cases hx;exact⟨.int .i64 s.length,C.w,by simp[builtin,Builtin.len_,mB ht,goInt,RS],bq.same az (.int _ _)⟩
      ·cases h
     ·cases h
    ·cases h
 ·rename_i k a l;split at h
  ·rename_i r hr;obtain⟨rfl,rfl⟩:=ax h;cases et with
   |nil=>exact ha.elim
   |cons u mb=>
    have h1:=ha.1;cases h1;have:=oY hr ha.2;subst this;exact⟨_,C.w,by simp only[builtin,Builtin.min_,rQ,Db,rS,iO],bq.same az (.int _ _)⟩
  ·cases h
 ·rename_i k a l;split at h
  ·rename_i r hr;obtain⟨rfl,rfl⟩:=ax h;cases et with
   |nil=>exact ha.elim
   |cons u mb=>
    have h1:=ha.1;cases h1;have:=oY hr ha.2;subst this;exact⟨_,C.w,by simp only[builtin,Builtin.max_,rQ,Dd,rS,iO],bq.same az (.int _ _)⟩
  ·cases h
 ·rename_i s x;cases et with
  |nil=>exact ha.elim
  |cons u1 l=>
   cases l with
   |nil=>exact ha.2.elim
   |cons u2 l=>
    cases l with
    |cons=>exact ha.2.2.elim
    |nil=>
     obtain⟨hf,hnn⟩:=hn rfl;obtain⟨u,w',h1,h2⟩:=Fo az hl hf hnn (ty:=ty) ha.1 ha.2.1 h;exact⟨u,w',by simp[builtin,h1],h2⟩
 ·cases h
theorem g_ {α:Type}{i:Int}{K:Nat->Option α}{r:α}:∀{n j:Nat},tB i j n K=some r->∃k,j<=k/\k<j+n/\i=(k:Int)/\K k=some r
 |0,_,h=>by cases h
 |n+1,j,h=>by
  simp only[tB]at h;cases hc:(i==(j:Int))with
  |true=>rw[hc]at h;exact⟨j,by omega,by omega,by simpa using hc,h⟩
  |false=>
   rw[hc]at h;obtain⟨k,h1,h2,h3,h4⟩:=g_ (n:=n) (j:=j+1) h;exact⟨k,by omega,by omega,h3,h4⟩
theorem Ll {C:Ctx}{ss:List Sh}{e:List PV}{b off:Nat}(az:bL ss e=true)(hb:b<C.w.heap.size)(hO:¬C.O b)(h:∀(j:Nat) c,e[j]? =some c->∃x,C.w.cell? ⟨b,off+j,none⟩=some x/\C.P c x):
  VA C (.uJ (oD ss e 0)) (.pointer (some ⟨b,off,none⟩)):=by
 refine⟨b,off,rfl,hb,hO,λj c hj=> ?_⟩;have hl:=Az az;have hall:All2 C.P e ((List.range e.length).map λj=>(C.w.cell? ⟨b,off+j,none⟩).getD Go.undef):=by
  refine All2.nj (by simp) λj c x hj hx=> ?_;obtain⟨y,hy,hp⟩:=h j c hj;have Ld:=(ko.1 hj).1;simp[Ld]at hx;rw[<-hx,hy];exact hp
 have hc:=jH (i:=0) (cs:=e) az (λj hj=>by rw[dy]) hall;obtain⟨y,hy,hp⟩:=hc.get j c hj;have Ld:j<e.length:=by
  have:=(ko.1 hy).1;simpa using this
 obtain⟨x,hx,_⟩:=h j e[j] (by simp[Ld]);simp[Ld,hx]at hy;exact⟨x,hx,by rw[hy];exact hp⟩
theorem zB {C:Ctx}(az:Ok C){P:Program}{look:aJ}(hl:bQ C look){t:TypeId}{x ix v:AV}{us:cD}{ux ui:Value}(hx:VA C x ux)(hi:VA C ix ui)(h:gY P look t x ix two=some (v,us)):
  ∃u,(Instr.indexAt t ux ui).run P C.w=.ok u C.w/\us=[]/\VA C v u:=by
 unfold gY at h;split at h
 ·rename_i e k i ht;cases hi;split at h
  ·rename_i sz es;split at h
   ·rename_i ss Bl;split at h
    ·rename_i cz;simp only[bO]at cz;have hsz:sz=P.cellsOf e:=gK cz.1;obtain⟨h0,hlt,hei,h⟩:=Gb h;obtain⟨hoc,h⟩:=bX h;obtain⟨rfl,rfl⟩:=ax h;have hsize:(sizeOf e).run P C.w=.ok (P.cellsOf e) C.w:=by
      unfold mU By at Bl;have:mq P e=true:=by
       unfold mq;cases hu:P.underlying e with
       |none=>rw[hu]at Bl;cases Bl
       |some d=>rfl
      exact run_sizeOf this
     cases hx with
     |yA=>simp at hlt
     |sl _ _ b off cap f hb hO hc hz hcell hvp=>
      refine⟨.pointer (some ⟨b,off+i.toNat*P.cellsOf e,none⟩),?_,rfl,?_⟩
      ·have hcnd:0<=i/\i<(es.length:Int):=⟨h0,by omega⟩
       simp[Instr.indexAt,asIntOf,mB ht,hcnd,hsize,addr_add]
      ·refine Ll hoc hb hO λj c hj=> ?_;have EF:(nth [] es i.toNat)[j]? =some c:=hj;exact⟨f i.toNat j,by rw[<-hsz];exact hcell _ _ _ c hei EF,hvp _ _ _ c hei EF⟩
    ·cases h
   ·cases h
  ·rename_i id;split at h
   ·rename_i sz es hb;split at h
    ·rename_i hsz;obtain⟨hcnd,h⟩:=bX h;obtain⟨rfl,rfl⟩:=ax h;simp only[bO,mD]at hcnd;simp only[bO]at hsz;have hsz':sz=P.cellsOf e:=gK hsz.1;have hlv:=hl _ _ hb;obtain⟨hk,_,hv⟩:=hx;have hS:=hv _ _ hlv;unfold HS at hS;cases hι:C.ι id with
     |none=>rw[hι]at hS;obtain⟨rfl,_⟩:=hS;simp at hcnd;omega
     |some n=>
      rw[hι]at hS;obtain⟨cap,carr,e2,fr,rfl,hle,hr,j0⟩:=hS;refine⟨.pointer (some ⟨n,i.toNat*P.cellsOf e,none⟩),?_,rfl,?_⟩
      ·have ahQ:0<=i/\i<(es.length:Int):=hcnd;simp[Instr.indexAt,asIntOf,mB ht,ahQ,run_sizeOf hsz.2,addr_add]
      ·refine⟨hk,n,i.toNat*P.cellsOf e,rfl,λsz2 es2 hl2=> ?_⟩;have:=lH hlv hl2;cases this;exact⟨by omega,hι,by rw[hsz']⟩
    ·cases h
   ·cases h
  ·cases h
 ·rename_i n e k i ht;cases hi;split at h
  ·rename_i hte;have run:∀(b o j:Nat),i=(j:Int)->j<n->(Instr.indexAt t (.pointer (some ⟨b,o,none⟩)) (.int k i)).run P C.w=.ok (.pointer (some ⟨b,o+j*P.cellsOf e,none⟩)) C.w:=by
    intro b o j xS hjn;subst xS;have hcnd:(0:Int)<=(j:Int)/\(j:Int)<(n:Int):=⟨by omega,by omega⟩
    simp[Instr.indexAt,asIntOf,mB ht,sx,hcnd,run_sizeOf hte,addr_add];intro hnj;omega
   split at h
   ·rename_i id o;obtain⟨j,_,hj,xS,h⟩:=g_ h;obtain⟨rfl,rfl⟩:=ax h;obtain⟨hk,b,rfl,hp⟩:=hx;exact⟨_,run b o j xS (by omega),rfl,hk,b,rfl,hp⟩
   ·rename_i cs;obtain⟨j,_,hj,xS,h⟩:=g_ h;obtain⟨rfl,rfl⟩:=ax h;obtain⟨b,off,rfl,hb,hO,hc⟩:=hx;refine⟨_,run b off j xS (by omega),rfl,b,_,rfl,hb,hO,λm c hm=> ?_⟩;rw[CL]at hm;obtain⟨x,h1,h2⟩:=hc _ c hm;exact⟨x,by rw[uM];exact h1,h2⟩
   ·rename_i id m o;obtain⟨j,_,hj,xS,h⟩:=g_ h;obtain⟨rfl,rfl⟩:=ax h;obtain⟨hk,b,k0,rfl,hp⟩:=hx;exact⟨_,run b (k0+o) j xS (by omega),rfl,hk,b,k0,by rw[uM],hp⟩
   ·cases h
  ·cases h
 ·cases h
theorem Fq {C:Ctx}{x v:AV}{u:Value}{off:Nat}(hx:VA C x u)(h:H_ x off=some v):∃b o,u=.pointer (some ⟨b,o,none⟩)/\VA C v (.pointer (some ⟨b,o+off,none⟩)):=by
 unfold H_ at h;split at h
 ·rename_i id o;cases h;obtain⟨hk,b,rfl,hp⟩:=hx;exact⟨b,o,rfl,hk,b,rfl,hp⟩
 ·rename_i cs;cases h;obtain⟨b,o,rfl,hb,hO,hc⟩:=hx;refine⟨b,o,rfl,b,_,rfl,hb,hO,λm c hm=> ?_⟩;rw[CL]at hm;obtain⟨y,h1,h2⟩:=hc _ c hm;exact⟨y,by rw[uM];exact h1,h2⟩
 ·rename_i id i o;cases h;obtain⟨hk,b,k,rfl,hp⟩:=hx;exact⟨b,k+o,rfl,hk,b,k,by rw[uM],hp⟩
 ·cases h
theorem L4 {C:Ctx}{P:Program}{t:TypeId}{cs:List PV}{us:Array Value}{off:Nat}{v:AV}(ha:All2 C.P cs us.toList)(hlen:(cut cs off (P.cellsOf t)).length=P.cellsOf t)
  (h:sU P t (cut cs off (P.cellsOf t))=some v):∃u,(part t us off).run P C.w=.ok u C.w/\VA C v u:=by
 obtain⟨nP,h⟩:=vq h;have hcut:All2 C.P (cut cs off (P.cellsOf t)) ((us.toList.drop off).take (P.cellsOf t)):=(ha.drop off).take _;rcases h with⟨pq,rfl⟩|⟨pq,c,hc,rfl⟩
 ·refine⟨.agg (us.extract off (off+P.cellsOf t)),by simp[part,tQ nP,pq,run_sizeOf nP],_,rfl,?_⟩;rw[Array.toList_extract];have:List.extract us.toList off (off+P.cellsOf t)=(us.toList.drop off).take (P.cellsOf t):=by
   unfold List.extract;rw[Nat.add_sub_cancel_left]
  rw[this];exact hcut
 ·rw[hc]at hcut;cases hd:(us.toList.drop off).take (P.cellsOf t)with
  |nil=>rw[hd]at hcut;exact hcut.elim
  |cons u l=>
   rw[hd]at hcut;have hu:us[off]? =some u:=by
    have:=congrArg List.head? hd;rw[List.head?_take]at this;split at this
    ·cases this
    ·simpa[Ag]using this
   exact⟨u,by simp[part,tQ nP,pq,hu],hcut.1⟩
theorem Hn {C:Ctx}(az:Ok C){P:Program}{t:TypeId}{x ix v:AV}{us:cD}{ux ui:Value}(hx:VA C x ux)(hi:VA C ix ui)(h:Dq P t x ix two=some (v,us)):
 ∃u,(Instr.index t ux ui).run P C.w=.ok u C.w/\us=[]/\VA C v u:=by cases h
theorem tS {P:Program}{w:World}{k:IntKind}{i:Int}{y:Nat}{code:BoundsCode}(h0:0<=i)(h1:i<=y):(Instr.sliceBound (.int k i) y code).run P w=.ok i.toNat w:=by
 simp[Instr.sliceBound,asIntOf,h0,h1]
def Q1 (lo:Option Int)(v:Option Value):Prop:=
 match lo,v with
 |none,none=>True
 |some i,some (.int _ j)=>i=j
 |_,_=>False
theorem xL {C:Ctx}{ev:Operand->AV}{ρ:Operand->Value}(hρ:∀x,VA C (ev x) (ρ x)){o:Option Operand}{r:Option Int}(h:lV ev o=some r):Q1 r (o.map ρ):=by
 cases o with
 |none=>simp only[lV]at h;cases h;trivial
 |some x=>
  simp only[lV]at h;split at h
  ·rename_i k i he;cases h;have:=hρ x;rw[he]at this;show Q1 (some i) (some (ρ x));cases hr:ρ x with
   |int k' j=>rw[hr]at this;cases this;exact rfl
   |_=>rw[hr]at this;cases this
  ·cases h
theorem LN {P:Program}{w:World}{isS:Bool}{len cap:Nat}{lo hi:Option Int}{vl vh:Option Value}(hl:Q1 lo vl)(hh:Q1 hi vh)(hlc:len<=cap)(h0:0<=lo.getD 0)(h1:lo.getD 0<=hi.getD len)(h2:hi.getD len<=len):
  (Instr.sliceBounds isS len cap vl vh none).run P w=.ok ((lo.getD 0).toNat,(hi.getD len).toNat,cap) w:=by
 unfold Instr.sliceBounds;cases lo with
 |none=>
  cases vl with
  |some _=>exact hl.elim
  |none=>
   cases hi with
   |none=>
    cases vh with
    |some _=>exact hh.elim
    |none=>simp
   |some i=>
    cases vh with
    |none=>exact hh.elim
    |some v=>
     cases v with
     |int k j=>
      have xS:i=j:=hh;subst xS;simp at h1 h2;have:=tS (P:=P) (w:=w) (k:=k) (i:=i) (y:=cap) (code:=if isS then .sliceAcap else .sliceAlen) h1 (by omega);simp[this]
     |_=>exact hh.elim
 |some l=>
  cases vl with
  |none=>exact hl.elim
  |some v=>
   cases v with
   |int kl jl=>
    have xS:l=jl:=hl;subst xS;cases hi with
    |none=>
     cases vh with
     |some _=>exact hh.elim
     |none=>
      simp at h0 h1 h2;have:=tS (P:=P) (w:=w) (k:=kl) (i:=l) (y:=len) (code:=.sliceB) h0 h1;simp[this]
    |some i=>
     cases vh with
     |none=>exact hh.elim
     |some v=>
      cases v with
      |int k j=>
       have xS:i=j:=hh;subst xS;simp at h0 h1 h2;have e1:=tS (P:=P) (w:=w) (k:=k) (i:=i) (y:=cap) (code:=if isS then .sliceAcap else .sliceAlen) (by omega) (by omega);have e2:=tS (P:=P) (w:=w) (k:=kl) (i:=l) (y:=i.toNat) (code:=.sliceB) h0 (by omega);simp[e1,e2]
      |_=>exact hh.elim
   |_=>exact hl.elim
theorem RX {w:World}{O:Nat->Prop}{sz:Nat}{es:List (List PV)}{u:Value}(h:VP w O (.sl sz es) u):∃a cap,u=.slice a es.length cap/\(es.length<=cap\/es=[])/\∀l m:Nat,l<=m->m<=es.length->∀cap',(m-l<=cap'\/m=l)->
  VP w O (.sl sz ((es.take m).drop l)) (.slice (if cap=l then a else a.map (·.add (l*sz))) (m-l) cap'):=by
 cases h with
 |yA _ a cap=>
  refine⟨a,cap,rfl,.inr rfl,λl m h1 h2 cap' _=> ?_⟩;simp at h2;subst h2;obtain rfl:l=0:=by omega
  exact .yA _ _ _
 |sl _ _ b off cap f hb hO hc hz hcell hvp=>
  refine⟨_,cap,rfl,.inl hc,λl m h1 h2 cap' h3=> ?_⟩;have hlen:((es.take m).drop l).length=m-l:=by simp;omega
  by_cases hml:m=l
  ·subst hml;have:(es.take m).drop m=[]:=by apply List.eq_nil_of_length_eq_zero;omega
   rw[this,w_];exact .yA _ _ _
  ·rw[aC (by omega)];simp only[rr,addr_add];rw[<-hlen];have qL:∀(i:Nat) e,((es.take m).drop l)[i]? =some e->es[i+l]? =some e:=by
    intro i e he;rw[CL,jS]at he;split at he
    ·rw[Nat.add_comm];exact he
    ·cases he
   refine .sl sz _ b (off+l*sz) cap' (λi j=>f (i+l) j) hb hO (by omega) (λe he=>hz e (sG (ru he))) (λi j e c he hj=> ?_) (λi j e c he hj=>hvp _ j e c (qL i e he) hj);have:=hcell _ j e c (qL i e he) hj;rw[<-this];congr 2;rw[FM];omega
theorem QK {α:Type}(l:List α)(lo hi:Int):tz l lo hi=(l.take hi.toNat).drop lo.toNat:=rfl
theorem GS {C:Ctx}(az:Ok C){P:Program}{look:aJ}(hl:bQ C look){t:TypeId}{x v:AV}{us:cD}{ux:Value}(hx:VA C x ux){lo hi:Option Int}{vl vh:Option Value}(Hu:Q1 lo vl)(XB:Q1 hi vh)
  (h:sF P look t x lo hi two=some (v,us)):∃u,(Instr.sliceAt t ux vl vh none).run P C.w=.ok u C.w/\bq C us v u C.w:=by
 have main:∀(C':Ctx),C'.w=C.w->∀{e:TypeId} {sz:Nat} {es:List (List PV)},P.underlying t=some (.slice e)->sz=P.cellsOf e->mq P e=true->C'.P (.sl sz es) ux->
   0<=lo.getD 0->lo.getD 0<=hi.getD es.length->hi.getD es.length<=es.length->
   ∃u,(Instr.sliceAt t ux vl vh none).run P C.w=.ok u C.w/\C'.P (.sl sz (tz es (lo.getD 0) (hi.getD es.length))) u:=by
  intro C' hw e sz es ht hsz hte hp h0 h1 h2;obtain⟨a,cap,rfl,j0,hs⟩:=RX hp;have hle:es.length<=cap\/es=[]:=j0;by_cases aeP:es.length<=cap
  ·have hb:=LN (P:=P) (w:=C.w) (isS:=true) Hu XB aeP h0 h1 h2;refine⟨_,by simp[Instr.sliceAt,Instr.slice,mB ht,hb,run_sizeOf hte];rfl,?_⟩;have:=hs (lo.getD 0).toNat (hi.getD es.length).toNat (by omega) (by omega) (cap-(lo.getD 0).toNat) (.inl (by omega));rw[QK,<-hsz];exact this
  ·have he:=hle.resolve_left aeP;subst he;simp at aeP
 unfold sF at h;split at h
 ·rename_i e sz es ht;split at h
  ·rename_i cz;simp only[bO]at cz;obtain⟨hc,h⟩:=bX h;obtain⟨rfl,rfl⟩:=ax h;simp only[bO,mD]at hc;obtain⟨u,h1,h2⟩:=main C rfl ht (gK cz.1) cz.2 hx hc.1 hc.2.1 hc.2.2;exact⟨u,h1,bq.same az h2⟩
  ·cases h
 ·rename_i e id ht;split at h
  ·rename_i sz es hb;split at h
   ·rename_i cz;simp only[bO]at cz;obtain⟨hc,h⟩:=bX h;obtain⟨rfl,rfl⟩:=ax h;simp only[bO,mD]at hc;have hlv:=hl _ _ hb;obtain⟨hk,_,hv⟩:=hx;have hdd:bK [(id,bw.dead)]:=λy hy=>by simp at hy;rw[hy]
    have hp:=eY az hlv (hv _ _ hlv) hdd (by simp);obtain⟨u,h1,h2⟩:=main (C.kill [(id,.dead)]) rfl ht (gK cz.1) cz.2 hp hc.1 hc.2.1 hc.2.2;exact⟨u,h1,C.kill [(id,.dead)],rfl,rfl,cB C hdd,ic az hdd,h2⟩
   ·cases h
  ·cases h
 ·cases h
theorem nZ {C:Ctx}:∀{l:List AV} {r:List TV} {us:List Value},iK l=some r->All2 (VA C) l us->All2 (VT C) r us
 |[],_,[],h,_=>by simp only[iK]at h;cases h;trivial
 |[],_,_::_,_,h=>h.elim
 |_::_,_,[],_,h=>h.elim
 |a::l,r,u::us,h,ha=>by
  unfold iK at h;split at h
  ·rename_i he;cases he
  ·rename_i v l' he;cases he;split at h
   ·rename_i r' hr;cases h;exact⟨ha.1,nZ hr ha.2⟩
   ·cases h
  ·cases h
theorem fK {C:Ctx}{ev:Operand->AV}{ρ:Operand->Value}(hρ:∀x,VA C (ev x) (ρ x)):∀l:List Operand,All2 (VA C) (l.map ev) (l.map ρ)
 |[]=>trivial
 |x::l=>⟨hρ x,fK hρ l⟩
theorem vx {α β:Type}{f:α->Option β}{g:α->β}:∀(l:List α),(∀x∈l,f x=some (g x))->l.mapM f=some (l.map g)
 |[],_=>rfl
 |x::l,h=>by
  have h1:=h x (by simp);have h2:=vx l λy hy=>h y (by simp[hy]);simp[List.mapM_cons,h1,h2]
theorem ye {P:Program}{t:TypeId}{i:TypeInfo}(h:P.info? t=some i):P.cellsOf t=i.size:=by simp[Program.cellsOf,h]
theorem Gq {P:Program}{t:TypeId}{z:List PV}(hz:zeroCells P t=some z)(hp:G7 P t=true){zv:Value}(Vj:∀w:World,(zeroValue t).run P w=.ok zv w){parts:Array (Nat×Value)}{ov:Array Value}
  (h:Instr.fill (place P t) zv.cells parts.toList=some ov) (w:World):(Instr.build t parts).run P w=.ok (.agg ov) w:=by
 refine run_build w t parts ov ?_;obtain⟨it,hit,_,_⟩:=lx hz;have hzz:it.zero=some zv:=by
  have:=Vj w;cases hq:it.zero with
  |none=>simp[zeroValue,typeInfo,hit,hq]at this
  |some y=>simp[zeroValue,typeInfo,hit,hq]at this;rw[this]
 unfold G7 at hp;unfold Program.built;split at hp
 ·rename_i fs Rc;have hm:fs.toList.mapM (λf=>(P.info? f.type).map λi=>(f.offset,i.size))=some (fs.toList.map λf=>(f.offset,P.cellsOf f.type)):=by
   refine vx fs.toList λf hf=> ?_;obtain⟨i,hi⟩:=yH (iC.1 hp f hf);simp[hi,ye hi]
  simp only[hit,Rc,hzz,hm];rw[<-h];congr 1;funext i;simp only[place,Rc,za,qA,Aj];cases fs[i]?<;>rfl
 ·rename_i n e Rc;obtain⟨ie,hie⟩:=yH hp;simp only[hit,Rc,hzz,hie];rw[<-h];congr 1;funext i;simp only[place,Rc,ye hie]
 ·cases hp
theorem Mg {C:Ctx}{P:Program}{op:BinOp}{xt:TypeId}{x:AV}{ux:Value}{v:AV}{us:cD}{y:Operand}(hx:VA C x ux)(hy:wq y=true)(h:YT P op xt x (λp=>two (.t (.p p)) [])=some (v,us)):
 ∃p b,p=PV.bool b/\(∀X,(do eqGuard op xt X y ux .nilIface;binOp op xt ux .nilIface:Sem Value).run P C.w=.ok (.bool b) C.w)/\v=.t (.p (.bool b))/\us=[]:=by cases h
theorem Ke {C:Ctx}(az:Ok C){P:Program}{look:aJ}(hl:bQ C look){nid:Nat}{o:Oper}(hn:wE o.op=true->nth bw.fresh C.h nid=.fresh/\nid<C.h.length){ev:Operand->AV}{ρ:Operand->Value}
  (hρ:∀x,VA C (ev x) (ρ x)) (aew:∀y,wq y=true->ρ y=.nilIface) {v:AV} {us:cD} (h:gZ P look nid o.op ev two=some (v,us)):∃u w',aa1 P C.w o ρ u w'/\bq C us v u w':=by
 have val:∀{s:Sem Value} {u:Value} {w':World},execOp ρ o=(do pure (Next.value (<-s)):Sem Next)->s.run P C.w=.ok u w'->aa1 P C.w o ρ u w':=λhe hs=>.inl (by rw[he];exact Yb hs);obtain⟨dst,op,ty,pos,after,guard⟩:=o;simp only at h hn;unfold gZ at h;split at h
 ·obtain⟨rfl,rfl⟩:=ax h;exact⟨_,C.w,.inl rfl,bq.same az (hρ _)⟩
 ·obtain⟨rfl,rfl⟩:=ax h;exact⟨_,C.w,.inl rfl,bq.same az (hρ _)⟩
 ·rename_i c a b;split at h
  ·rename_i t hc;have h2:=hρ c;rw[hc]at h2;have h3:ρ c=.bool t:=by cases hr:ρ c with
    |bool b'=>rw[hr]at h2;cases h2;rfl
    |_=>rw[hr]at h2;cases h2
   cases t with
   |true=>
    obtain⟨rfl,rfl⟩:=ax h;exact⟨ρ a,C.w,.inl (by simp[execOp,h3,asBool]),bq.same az (hρ a)⟩
   |false=>
    obtain⟨rfl,rfl⟩:=ax h;exact⟨ρ b,C.w,.inl (by simp[execOp,h3,asBool]),bq.same az (hρ b)⟩
  ·cases h
 ·split at h
  ·rename_i t cs hz;split at h
   ·obtain⟨rfl,rfl⟩:=ax h;obtain⟨hf,hlt⟩:=hn rfl;obtain⟨u,w',h1,h2⟩:=KX az hf hlt hz;exact⟨u,w',val rfl h1,h2⟩
   ·cases h
  ·cases h
 ·rename_i t x;split at h
  ·rename_i hagg;obtain⟨rfl,rfl⟩:=ax h;obtain⟨hf,hlt⟩:=hn rfl;obtain⟨u,w',h1,h2⟩:=QU (P:=P) (t:=t) az hf hlt (hρ x) hagg;exact⟨u,w',val rfl h1,h2⟩
  ·cases h
 ·rename_i t parts;split at h
  ·rename_i z hz;split at h
   ·rename_i hpo;split at h
    ·split at h
     ·rename_i cs pn;split at h
      ·obtain⟨rfl,rfl⟩:=ax h;have hd:bK ([]:cD):=λ_ h=>by cases h
       obtain⟨zv,Vj,Q8⟩:=eR hz C.w C.O;have key:∀(cs:List PV) (xs:List Value),All2 C.P cs xs->All2 (VT C) (cs.map TV.p) xs:=by
        intro cs
        induction cs with
        |nil=>intro xs h;cases xs with
         |nil=>trivial
         |cons=>exact h.elim
        |cons c cs ih=>intro xs h;cases xs with
         |nil=>exact h.elim
         |cons x xs=>exact⟨h.1,ih xs h.2⟩
       obtain⟨ov,Ra,JY⟩:=AZ hρ pn zv.cells (key _ _ Q8);have MD:Instr.fill (place P t) zv.cells (parts.map λ(i,x)=>(i,ρ x)).toList=some ov:=by rw[<-Ra];congr 1;simp
       exact⟨.agg ov,C.w,val rfl (Gq hz hpo Vj MD C.w),C.kill [],rfl,rfl,cB C hd,ic az hd,_,rfl,JY.mono λ_ _=>(cB C hd).vt⟩
      ·cases h
     ·cases h
    split at h
    ·rename_i cs mb pn;obtain⟨rfl,rfl⟩:=ax h;obtain⟨hd,_,hr⟩:=tu az hl hρ (xW pn);obtain⟨zv,Vj,Q8⟩:=eR hz (C.kill mb).w (C.kill mb).O;obtain⟨ov,Ra,JY⟩:=hr mb hd (λx hx=>hx) zv.cells Q8;have MD:Instr.fill (place P t) zv.cells (parts.map λ(i,x)=>(i,ρ x)).toList=some ov:=by rw[<-Ra];congr 1;simp
     exact⟨.agg ov,C.w,val rfl (Gq hz hpo Vj MD C.w),C.kill mb,rfl,rfl,cB C hd,ic az hd,_,rfl,JY⟩
    ·cases h
   ·cases h
  ·cases h
 ·rename_i t n parts;split at h
  ·rename_i e ht;split at h
   ·rename_i z hz;split at h
    ·rename_i hc;simp only[bO]at hc;split at h
     ·rename_i cs mb pn;obtain⟨rfl,rfl⟩:=ax h;obtain⟨hf,hlt⟩:=hn rfl;obtain⟨u,w',h1,h2⟩:=zR az hl hf hlt hρ ht hz (gK hc.1.1) (lz hc.1.2) (lz hc.2) (xW pn);exact⟨u,w',val rfl h1,h2⟩
     ·cases h
    ·cases h
   ·cases h
  ·cases h
 ·rename_i t a;obtain⟨u,h1,h2⟩:=AD az hl (hρ a) h;exact⟨u,C.w,val rfl h1,h2⟩
 ·rename_i t a x;obtain⟨w',h1,⟨C',e1,e2,e3,e4⟩,rfl⟩:=GO az hl (hρ a) (hρ x) h;exact⟨Go.undef,w',.inr ⟨Sb h1,rfl⟩,C',e1,e2,e3,e4,rfl⟩
 ·rename_i x;have hx:=hρ x;split at h
  ·rename_i id off he;obtain⟨rfl,rfl⟩:=ax h;rw[he]at hx;obtain⟨hk,b,hb,hp⟩:=hx;exact⟨_,C.w,.inl (by simp[execOp,hb]),bq.same az ⟨hk,b,rfl,hp⟩⟩
  ·rename_i cs he;obtain⟨rfl,rfl⟩:=ax h;rw[he]at hx;obtain⟨b,off,hb,hp⟩:=hx;exact⟨_,C.w,.inl (by simp[execOp,hb]),bq.same az ⟨b,off,rfl,hp⟩⟩
  ·rename_i id i off he;obtain⟨rfl,rfl⟩:=ax h;rw[he]at hx;obtain⟨hk,b,k,hb,hp⟩:=hx;exact⟨_,C.w,.inl (by simp[execOp,hb]),bq.same az ⟨hk,b,k,rfl,hp⟩⟩
  ·cases h
 ·rename_i bop xt x y yt;cases Z6:wq y with
  |true=>
   rw[Z6,en]at h;obtain⟨p,b,hp,hu,rfl,rfl⟩:=Mg (hρ x) Z6 h;have hy:ρ y=.nilIface:=aew y Z6;refine⟨.bool b,C.w,val rfl ?_,bq.same az (.bool b)⟩;rw[hy];exact hu x
  |false=>
  rw[Z6,gH]at h;have hb:∃p,H8 P bop xt (ev x) (ev y) some=some p/\v=.t (.p p)/\us=[]:=by
   have ahq:=yo P bop xt (ev x) (ev y) some λp=>two (.t (.p p)) [];simp only[oP]at ahq;rw[<-ahq]at h;cases hq:H8 P bop xt (ev x) (ev y) some with
   |none=>rw[hq]at h;cases h
   |some p=>
    rw[hq]at h;obtain⟨rfl,rfl⟩:=ax h;exact⟨p,rfl,rfl,rfl⟩
  obtain⟨p,hp,rfl,rfl⟩:=hb;obtain⟨u,h1,h2⟩:=Nn (hρ x) (hρ y) hp x y;exact⟨u,C.w,val rfl h1,bq.same az h2⟩
 ·rename_i uop xt x;have hx:=hρ x;unfold unK at h;split at h
  ·rename_i k n he;obtain⟨rfl,rfl⟩:=ax h;rw[he]at hx;cases hr:ρ x with
   |int k' n'=>rw[hr]at hx;cases hx;exact⟨_,C.w,val rfl (by rw[hr];rfl),bq.same az (VP.int _ _)⟩
   |_=>rw[hr]at hx;cases hx
  ·rename_i b he;obtain⟨rfl,rfl⟩:=ax h;rw[he]at hx;cases hr:ρ x with
   |bool b'=>rw[hr]at hx;cases hx;exact⟨_,C.w,val rfl (by rw[hr];rfl),bq.same az (VP.bool _)⟩
   |_=>rw[hr]at hx;cases hx
  ·cases h
 ·rename_i src aqp x;obtain⟨hf,hlt⟩:=hn rfl;obtain⟨u,w',h1,h2⟩:=D5 az hl hf hlt (hρ x) h;exact⟨u,w',val rfl h1,h2⟩
 ·rename_i f first caps
  split at h
  ·rename_i l hfi K9;obtain⟨rfl,rfl⟩:=ax h;have hfe:first= #[]:=by simpa using hfi
   have:=nZ K9 (fK hρ caps.toList);refine⟨.func (.func f) #[] (caps.map ρ),C.w,val rfl (by simp[Instr.makeFunc,hfe]),bq.same az ⟨_,rfl,by simpa using this⟩⟩
  ·rename_i x hfi K9;split at h
   ·rename_i cs hx;obtain⟨rfl,rfl⟩:=ax h;have hfe:first= #[x]:=by rw[<-Bh (xs:=first),hfi]
    have hce:caps= #[]:=by
     have:=(nZ K9 (fK hρ caps.toList)).length;exact Array.toList_eq_nil_iff.1 (Bj.1 (by simpa using this.symm))
    have hv:=hρ x;rw[hx]at hv;obtain⟨us,hu,ha⟩:=hv;exact⟨.func (.func f) #[.agg us] #[],C.w,val rfl (by simp[Instr.makeFunc,hfe,hce,hu]),bq.same az ⟨us,rfl,ha⟩⟩
   ·rename_i id o hx;obtain⟨rfl,rfl⟩:=ax h;have hfe:first= #[x]:=by rw[<-Bh (xs:=first),hfi]
    have hce:caps= #[]:=by
     have:=(nZ K9 (fK hρ caps.toList)).length;exact Array.toList_eq_nil_iff.1 (Bj.1 (by simpa using this.symm))
    have hv:=hρ x;rw[hx]at hv;exact⟨.func (.func f) #[ρ x] #[],C.w,val rfl (by simp[Instr.makeFunc,hfe,hce]),bq.same az ⟨_,rfl,hv⟩⟩
   ·cases h
  ·cases h
 ·rename_i t l c;obtain⟨hf,hlt⟩:=hn rfl;obtain⟨u,w',h1,h2⟩:=zw az hf hlt (hρ l) (hρ c) h;exact⟨u,w',val rfl h1,h2⟩
 ·rename_i t x lo hi mx;split at h
  ·rename_i l r Hu XB;obtain⟨u,h1,h2⟩:=GS az hl (hρ x) (xL hρ Hu) (xL hρ XB) h;exact⟨u,C.w,val rfl h1,h2⟩
  ·cases h
 ·rename_i t x f;split at h
  ·rename_i fs Rc;split at h
   ·rename_i fd hfd;split at h
    ·rename_i hsz;split at h
     ·rename_i v' hv';obtain⟨rfl,rfl⟩:=ax h;obtain⟨b,off,hu,hv2⟩:=Fq (hρ x) hv';simp only[bO]at hsz;have nP:mq P fd.type=true:=hsz.2;have h0:¬P.cellsOf fd.type=0:=by have:=lz hsz.1;omega
      refine⟨_,C.w,val rfl (by simp[Instr.fieldAt,mB Rc,hfd,hu,sx,fieldPlace,run_sizeOf nP,h0,addr_add]),bq.same az hv2⟩
     ·cases h
    ·cases h
   ·cases h
  ·cases h
 ·rename_i t x f;split at h
  ·rename_i fs cs Rc he;have hx:=hρ x;rw[he]at hx;obtain⟨Lo,hu,ha⟩:=hx;split at h
   ·rename_i fd hfd;split at h
    ·rename_i hlen;split at h
     ·rename_i v' hv';obtain⟨rfl,rfl⟩:=ax h;obtain⟨u,h1,h2⟩:=L4 ha (gK hlen) hv';exact⟨u,C.w,val rfl (by simp[Instr.field,mB Rc,hfd,hu,asAgg,h1]),bq.same az h2⟩
     ·cases h
    ·cases h
   ·cases h
  ·cases h
 ·rename_i t x i;obtain⟨u,h1,rfl,h2⟩:=zB az hl (hρ x) (hρ i) h;exact⟨u,C.w,val rfl h1,bq.same az h2⟩
 ·rename_i t x i;obtain⟨u,h1,rfl,h2⟩:=Hn az (hρ x) (hρ i) h;exact⟨u,C.w,val rfl h1,bq.same az h2⟩
 ·rename_i x i;split at h
  ·rename_i vs he;have hx:=hρ x;rw[he]at hx;obtain⟨Lo,hu,ha⟩:=hx;split at h
   ·rename_i v' l hd;obtain⟨rfl,rfl⟩:=ax h;have hg:vs[i]? =some v':=by
     have:=congrArg List.head? hd;simpa[Ag]using this
    obtain⟨u,h1,h2⟩:=ha.get _ _ hg;have Lg:Lo[i]? =some u:=by simpa using h1
    exact⟨u,C.w,val rfl (by simp[Instr.extract,hu,Lg]),bq.same az h2⟩
   ·cases h
  ·rename_i ps he;have hx:=hρ x;rw[he]at hx;obtain⟨Lo,hu,ha⟩:=hx;have at_:∀p l,ps.drop i=p::l->∃u,kA C p u/\Lo[i]? =some u:=λp l hd=>by
    have hg:ps[i]? =some p:=by
     have:=congrArg List.head? hd;simpa[Ag]using this
    obtain⟨u,h1,h2⟩:=ha.get _ _ hg;exact⟨u,h2,by simpa using h1⟩
   split at h
   ·rename_i v' l hd;obtain⟨rfl,rfl⟩:=ax h;obtain⟨u,h2,Lg⟩:=at_ _ _ hd;exact⟨u,C.w,val rfl (by simp[Instr.extract,hu,Lg]),bq.same az h2⟩
   ·rename_i vs l hd;obtain⟨rfl,rfl⟩:=ax h;obtain⟨u,h2,Lg⟩:=at_ _ _ hd;exact⟨u,C.w,val rfl (by simp[Instr.extract,hu,Lg]),bq.same az h2⟩
   ·cases h
  ·cases h
 ·rename_i b args ats;obtain⟨u,w',h1,h2⟩:=Ei (ty:=ty) (cts:=(args.map λ | .const _=>true|_=>false)) az hl (λhb=>hn (by rw[hb];rfl)) (fK hρ args.toList) h;refine⟨u,w',.inl ?_,h2⟩;have e1:(List.map ρ args.toList).toArray=args.map ρ:=by rw[<-wY,Bh]
  rw[e1,Bh]at h1;simp only[execOp,resolve,invoke,rQ,iO,rS];exact h1
 ·cases h
section
open Go.MapKept
end
section
open Go.MapKept
end
section
open Go.MapKept
theorem Lx {C:Ctx}(az:Ok C){P:Program}{look:aJ}(hl:bQ C look){nid:Nat}{o:Oper}(hn:wE o.op=true->nth bw.fresh C.h nid=.fresh/\nid<C.h.length){ev:Operand->AV}{ρ:Operand->Value}
 (hρ:∀x,VA C (ev x) (ρ x)) {v:AV} {us:cD} (ht:jC P o.op ev=true) (h:uK P look nid o.op ev two=some (v,us)):∃u w',aa1 P C.w o ρ u w'/\bq C us v u w':=by cases h
theorem G3 {C:Ctx}(az:Ok C){P:Program}{look:aJ}(hl:bQ C look){nid:Nat}{o:Oper}(hn:wE o.op=true->nth bw.fresh C.h nid=.fresh/\nid<C.h.length){ev:Operand->AV}{ρ:Operand->Value}
  (hρ:∀x,VA C (ev x) (ρ x)) (aew:∀y,wq y=true->ρ y=.nilIface) {v:AV} {us:cD} (h:eD P look nid o.op ev two=some (v,us)):∃u w',aa1 P C.w o ρ u w'/\bq C us v u w':=by
 unfold eD at h;cases ht:jC P o.op ev with
 |true=>rw[ht]at h;exact Lx az hl hn hρ ht h
 |false=>rw[ht]at h;exact Ke az hl hn hρ aew h
end
theorem A2 {pl:Nat->Option (Nat×Nat)}{look:aJ}{ev fD:Operand->AV}:∀(parts:List (Nat×Operand)) (cells:List PV),(∀x∈parts.map (·.2),ev x=fD x)->
  kx pl look ev cells parts=kx pl look fD cells parts
 |[],_,_=>rfl
 |(i,x)::l,cells,h=>by
  have hx:ev x=fD x:=h x (by simp);have ih:=λcs=>A2 (pl:=pl) (look:=look) l cs λy hy=>h y (by simp at hy|-;exact .inr hy);simp only[kx,hx,ih]
theorem A0 {pl:Nat->Option (Nat×Nat)}{ev fD:Operand->AV}:∀(parts:List (Nat×Operand)) (cells:List TV),(∀x∈parts.map (·.2),ev x=fD x)->A1 pl ev cells parts=A1 pl fD cells parts
 |[],_,_=>rfl
 |(i,x)::l,cells,h=>by
  have hx:ev x=fD x:=h x (by simp);have ih:=λcs=>A0 (pl:=pl) l cs λy hy=>h y (by simp at hy|-;exact .inr hy);simp only[A1,hx,ih]
theorem any_congr {ev fD:Operand->AV}:∀(parts:List (Nat×Operand)),(∀x∈parts.map (·.2),ev x=fD x)->(parts.any λx=>TJ (ev x.2))=parts.any λx=>TJ (fD x.2)
 |[],_=>rfl
 |(i,x)::l,h=>by
  have hx:ev x=fD x:=h x (by simp);have ih:=any_congr l λy hy=>h y (by simp at hy|-;exact .inr hy);simp only[List.any_cons,hx,ih]
theorem AY {pl:Nat->Option (Nat×Nat)}{look:aJ}{ev fD:Operand->AV}(parts:List (Nat×Operand))(cells:List PV)(h:∀x∈parts.map (·.2),ev x=fD x):
  DS pl look ev cells parts=DS pl look fD cells parts:=by
 have hs:∀(parts:List (Nat×Operand)) (cur:Nat),(∀x∈parts.map (·.2),ev x=fD x)->oB pl look ev cur parts=oB pl look fD cur parts:=by
  intro parts
  induction parts with
  |nil=>intro cur _;rfl
  |cons p l ih=>
   obtain⟨i,x⟩:=p;intro cur h;have hx:ev x=fD x:=h x (by simp);have ih:=λc=>ih c λy hy=>h y (by simp at hy|-;exact .inr hy);simp only[oB,hx,ih]
 unfold DS;rw[hs parts 0 h,A2 parts cells h]
theorem xM {ev fD:Operand->AV}{o:Option Operand}(h:∀x∈o.toArray,ev x=fD x):lV ev o=lV fD o:=by
 cases o with
 |none=>rfl
 |some x=>simp only[lV];rw[h x (by simp)]
theorem xw {ev fD:Operand->AV}{l:List Operand}(h:∀x∈l,ev x=fD x):l.map ev=l.map fD:=vd h
theorem FV {α:Type}(E:Env)(F:d_)(look:aJ)(nid:Nat)(op:Op){ev fD:Operand->AV}(h:∀x∈op.operands,ev x=fD x)(K:Step α):
  qa E F look nid op ev K=qa E F look nid op fD K:=by
 cases op
 case call c=>
  obtain⟨callee,args,ats⟩:=c;have ha:args.toList.map ev=args.toList.map fD:=xw λx hx=>h x (by
   have:x∈args:=by simpa using hx
   simp[Op.operands,Call.operands,this])
  cases callee with
  |value f=>
   have hf:ev f=fD f:=h f (by simp[Op.operands,Call.operands]);simp only[qa,hf,ha]
  |invoke r m=>rfl
  |builtin b=>cases b<;>simp only[qa,eD,jC,uK,gZ,ha]
 case build t ps=>
  have hp:∀x∈ps.toList.map (·.2),ev x=fD x:=λx hx=>h x (by simpa[Op.operands]using hx);have e:=λcs=>AY (pl:=place E.P t) (look:=look) ps.toList cs hp;have e2:=λcs=>A0 (pl:=place E.P t) ps.toList cs hp;have e3:=any_congr ps.toList hp;simp only[qa,eD,jC,uK,gZ,e,e2,e3]
 case buildSlice t n ps=>
  have e:=λpl cs=>AY (pl:=pl) (look:=look) ps.toList cs λx hx=>h x (by simpa[Op.operands]using hx);simp only[qa,eD,jC,uK,gZ,e]
 case makeFunc fn first caps=>
  have ha:caps.toList.map ev=caps.toList.map fD:=xw λx hx=>h x (by
   have:x∈caps:=by simpa using hx
   simp[Op.operands,this])
  have hb:∀x,first.toList=[x]->ev x=fD x:=λx hx=>h x (by
   have:x∈first:=by rw[<-Bh (xs:=first),hx];simp
   simp[Op.operands,this])
  cases fn<;>simp only[qa,eD,jC,uK,gZ,ha];congr 1;split
  ·rfl
  ·rename_i x hx _;rw[hb x hx]
  ·rfl
 case makeMap t r=>cases r<;>rfl
 case slice t x lo hi mx=>
  have hx:ev x=fD x:=h x (by simp[Op.operands]);have h1:lV ev lo=lV fD lo:=xM λy hy=>h y (by simp[Op.operands]at hy|-;simp[hy]);have h2:lV ev hi=lV fD hi:=xM λy hy=>h y (by simp[Op.operands]at hy|-;simp[hy]);simp only[qa,eD,jC,uK,gZ,hx,h1,h2]
 all_goals simp only[Op.operands]at h
 all_goals first
  |rfl
  |(rename_i x;simp only[qa,eD,jC,uK,gZ,h x (by simp)];done)
  |(rename_i x _;simp only[qa,eD,jC,uK,gZ,h x (by simp)];done)
  |(rename_i x _ _;simp only[qa,eD,jC,uK,gZ,h x (by simp)];done)
  |(rename_i x y;simp only[qa,eD,jC,uK,gZ,h x (by simp),h y (by simp)];done)
  |(rename_i x y _;simp only[qa,eD,jC,uK,gZ,h x (by simp),h y (by simp)];done)
  |(rename_i x y z;simp only[qa,eD,jC,uK,gZ,h x (by simp),h y (by simp),h z (by simp)];done)
theorem qC {ev fD:Operand->AV}{op:Op}(h:∀x∈op.operands,ev x=fD x):dV ev op=dV fD op:=by
 unfold dV;have h':∀x∈op.operands.toList,(ev x).refs=(fD x).refs:=λx hx=>by rw[h x (by simpa using hx)]
 generalize op.operands.toList=l at*
 induction l with
 |nil=>rfl
 |cons a l ih=>simp only[Ah];rw[h' a (by simp),ih λx hx=>h' x (by simp[hx])]
theorem D4 {ev fD:Operand->AV}{op:Op}(h:∀x∈op.operands,ev x=fD x):Kk ev op=Kk fD op:=by
 unfold Kk;have h':∀x∈op.operands.toList,Vd (ev x)=Vd (fD x):=λx hx=>by rw[h x (by simpa using hx)]
 generalize op.operands.toList=l at*;congr 1
 induction l with
 |nil=>rfl
 |cons a l ih=>simp only[oO];rw[h' a (by simp),ih λx hx=>h' x (by simp[hx])]
structure It where
 i:Nat
 nid:Nat
 o:Oper
structure Tr where
 i:Nat
 fp:List Nat
 w:Bool
def act (ops:Array Oper)(o:Oper)(slots:List AV):Option Bool:=
 match o.guard with
 |none=>some true
 |some (j,w)=>
  match pW ops j with
  |none=>none
  |some d=>
   match nth .undef slots d with
   | .no=>some false
   | .t (.p (.bool b))=>some (b==w)
   |_=>none
def A3 (E:Env)(F:d_)(ops:Array Oper)(dr:Bool)(t:It)(st:St):Option (Tr×AV×cD):=
 match act ops t.o st.slots with
 |none=>none
 |some true=>mm E F dr t.nid t.o st λv us fp w=>some (⟨t.i,fp,w⟩,v,us)
 |some false=>some (⟨t.i,[],false⟩,.no,[])
def put (t:It)(e:AV×cD)(st:St):St:=⟨cq t.o.dst e.1 st.slots,bh e.2 st.heap⟩
def i_ (E:Env)(F:d_)(ops:Array Oper)(dr:Bool):List It->St->Option (List Tr×St)
 |[],st=>some ([],st)
 |t::l,st=>
  match A3 E F ops dr t st with
  |none=>none
  |some (r,e)=>match i_ E F ops dr l (put t e st)with|some (rs,agd)=>some (r::rs,agd)|none=>none
theorem cV {E:Env}{F:d_}{ops:Array Oper}{dr:Bool}{t:It}{l:List It}{st:St}{rs:List Tr}{bD:St}:
  i_ E F ops dr (t::l) st=some (rs,bD)↔∃r e rs',A3 E F ops dr t st=some (r,e)/\i_ E F ops dr l (put t e st)=some (rs',bD)/\rs=r::rs':=by
 constructor
 ·intro h;simp only[i_]at h;split at h
  ·cases h
  ·rename_i r e h1;split at h
   ·rename_i rs' s2 h2;cases h;exact⟨r,e,rs',h1,h2,rfl⟩
   ·cases h
 ·rintro⟨r,e,rs',h1,h2,rfl⟩;simp only[i_,h1,h2]
structure kV (st:St):Prop where
 slot:∀t,∀id∈(nth .undef st.slots t).refs,known st.heap id
 box:∀id cs,live st.heap id (.box cs)->∀c∈cs,∀cT∈c.refs,known st.heap cT
theorem cP {x:Nat}:∀{l:List Nat},bH x l=true↔x∈l
 |[]=>by simp[bH]
 |y::l=>by simp[bH,cP (l:=l),Nat.beq_eq]
theorem HT (v:Value):(ya v).refs=[]:=by
 unfold ya
 repeat' split
 all_goals rfl
theorem kV.ev {st:St}(h:kV st)(x:Operand):∀id∈(aS st.slots x).refs,known st.heap id:=by
 cases x with
 |tmp t=>exact h.slot t
 |const v=>intro id bn;simp only[aS,HT]at bn;cases bn
 |global g=>intro id bn;cases bn
 |func f=>intro id bn;cases bn
theorem gV {h:List bw}{id:Nat}{b:au}:cw h id=some b↔live h id b:=by
 unfold cw live;split
 ·rename_i c hc;rw[hc];simp
 ·rename_i hn;constructor
  ·intro h;cases h
  ·intro h;exact absurd h (hn b)
theorem AB {h:List bw}{id x:Nat}(hx:x∈oI h id):∃cs,live h id (.box cs)/\∃c∈cs,x∈c.refs:=by
 unfold oI at hx;split at hx
 ·rename_i cs hl;obtain⟨c,hc,Qn⟩:=CG.1 hx;exact⟨cs,gV.1 hl,c,hc,Qn⟩
 ·cases hx
theorem kV.dV {st:St}(h:kV st){op:Op}:∀id∈dV (aS st.slots) op,known st.heap id:=by
 intro id bn;obtain⟨x,_,hx⟩:=CG.1 bn;exact h.ev x id hx
theorem kV.clo {st:St}(h:kV st){l:List Nat}(hl:∀id∈l,known st.heap id):∀id∈lM st.heap l,known st.heap id:=by
 intro id bn;rcases eO.1 bn with h1|h1
 ·exact hl id h1
 ·obtain⟨y,_,hy⟩:=CG.1 h1;obtain⟨cs,hl,c,hc,Qn⟩:=AB hy;exact h.box y cs hl c hc id Qn
theorem kV.rf {st:St}(h:kV st){P:Program}{hp:Bool}{op:Op}:∀id∈oM P hp st.heap (aS st.slots) op,known st.heap id:=by
 intro id bn;cases hp with
 |false=>exact h.dV id bn
 |true=>
  unfold oM at bn;cases hs:IU P op with
  |true=>rw[hs]at bn;exact h.clo h.dV id bn
  |false=>rw[hs]at bn;exact h.clo (h.clo (h.clo h.dV)) id bn
theorem kV.fp {st:St}(h:kV st){P:Program}{hp:Bool}{op:Op}:∀id∈jM P hp st.heap (aS st.slots) op,known st.heap id:=by
 intro id bn;unfold jM at bn;cases hs:IU P op with
 |true=>rw[hs]at bn;exact h.dV id bn
 |false=>rw[hs]at bn;exact h.rf id bn
theorem P0 {P:Program}{h:List bw}{ev:Operand->AV}{op:Op}{id:Nat}(bn:id∈dV ev op):id∈jM P true h ev op:=by
 unfold jM;cases IU P op with
 |true=>exact bn
 |false=>
  unfold oM;cases IU P op with
  |true=>exact eO.2 (.inl bn)
  |false=>exact eO.2 (.inl (eO.2 (.inl (eO.2 (.inl bn)))))
def Cc (hp:Bool)(fp:List Nat)(h:List bw):aJ:=λid=>cond (hp&&bH id fp) (cw h id) none
theorem yn {h h':List bw}{id:Nat}(e:nth bw.fresh h' id=nth bw.fresh h id):oI h' id=oI h id:=by
 unfold oI cw;rw[e]
theorem uE {h h':List bw}{l:List Nat}(e:∀id∈l,nth bw.fresh h' id=nth bw.fresh h id):lM h' l=lM h l:=by
 have:∀id∈l,oI h' id=oI h id:=λid bn=>yn (e id bn);unfold lM;congr 1;clear e
 induction l with
 |nil=>rfl
 |cons a l ih=>simp only[Ah];rw[this a (by simp),ih λx hx=>this x (by simp[hx])]
theorem PL {P:Program}{hp:Bool}{h h':List bw}{ev:Operand->AV}{op:Op}(e:hp=true->∀id∈jM P true h ev op,nth bw.fresh h' id=nth bw.fresh h id):oM P hp h' ev op=oM P hp h ev op:=by
 cases hp with
 |false=>rfl
 |true=>
  have e':=e rfl;unfold jM oM at e';unfold oM;cases hs:IU P op with
  |true=>
   rw[hs]at e';exact uE e'
  |false=>
   rw[hs]at e';simp only[en,gH]at e'|-;have sub:∀(l:List Nat) x,x∈l->x∈lM h l:=λl x hx=>eO.2 (.inl hx);have e1:lM h' (dV ev op)=lM h (dV ev op):=uE λid bn=>e' id (sub _ _ (sub _ _ (sub _ _ bn)));have e2:lM h' (lM h (dV ev op))=lM h (lM h (dV ev op)):=uE λid bn=>e' id (sub _ _ (sub _ _ bn));have e3:lM h' (lM h (lM h (dV ev op)))=lM h (lM h (lM h (dV ev op))):=uE λid bn=>e' id (sub _ _ bn);rw[e1,e2,e3]
theorem LU {hp:Bool}{fp:List Nat}{h h':List bw}(e:hp=true->∀id∈fp,nth bw.fresh h' id=nth bw.fresh h id):Cc hp fp h'=Cc hp fp h:=by
 funext id;unfold Cc;cases hp with
 |false=>rfl
 |true=>
  cases hm:bH id fp with
  |false=>rfl
  |true=>
   have:=e rfl id (cP.1 hm);simp only[CI,en,cw,this]
theorem Fs {α:Type}{E:Env}{F:d_}{nid:Nat}{o:Oper}{st bD:St}(he:∀x∈o.op.operands,aS bD.slots x=aS st.slots x)
  (hh:dA o.op=true->∀id∈jM E.P true st.heap (aS st.slots) o.op,nth bw.fresh bD.heap id=nth bw.fresh st.heap id) (K:AV->cD->List Nat->Bool->Option α):
  mm E F true nid o bD K=mm E F true nid o st K:=by
 have hh':dA o.op=true->∀id∈dV (aS st.slots) o.op,nth bw.fresh bD.heap id=nth bw.fresh st.heap id:=λh id bn=>hh h id (P0 bn);have e0:oM E.P (dA o.op) bD.heap (aS bD.slots) o.op=oM E.P (dA o.op) st.heap (aS st.slots) o.op:=by
  have:oM E.P (dA o.op) bD.heap (aS bD.slots) o.op=oM E.P (dA o.op) bD.heap (aS st.slots) o.op:=by unfold oM;rw[qC he]
  rw[this];exact PL hh
 have e1:jM E.P (dA o.op) bD.heap (aS bD.slots) o.op=jM E.P (dA o.op) st.heap (aS st.slots) o.op:=by
  unfold jM;rw[e0,qC he]
 unfold mm;rw[D4 he];dsimp only;rw[e0,e1];have e2:(λid=>cond (dA o.op&&bH id (jM E.P (dA o.op) st.heap (aS st.slots) o.op)) (cw bD.heap id) none)=
   (λid=>cond (dA o.op&&bH id (jM E.P (dA o.op) st.heap (aS st.slots) o.op)) (cw st.heap id) none):=
  LU (hp:=dA o.op) (fp:=jM E.P (dA o.op) st.heap (aS st.slots) o.op) λh id bn=>hh h id (by rw[h]at bn;exact bn)
 rw[e2];congr 1;exact FV _ _ _ _ _ he _
theorem Xk {ops:Array Oper}{o:Oper}{slots B6:List AV}(h:∀d∈gj ops o,nth .undef B6 d=nth .undef slots d):act ops o B6=act ops o slots:=by
 unfold act;cases hg:o.guard with
 |none=>rfl
 |some gw=>
  obtain⟨j,w⟩:=gw;dsimp only;cases hd:pW ops j with
  |none=>rfl
  |some d=>
   dsimp only;rw[h d (by simp[gj,hg,hd])]
theorem OS {ops:Array Oper}{o:Oper}{slots B6:List AV}(h:∀d∈gj ops o,nth .undef B6 d=nth .undef slots d):∀x∈o.op.operands,aS B6 x=aS slots x:=by
 intro x hx;cases x with
 |tmp t=>
  refine h t ?_;unfold gj;exact eO.2 (.inr (CG.2 ⟨.tmp t,by simpa using hx,by simp⟩))
 |const v=>rfl
 |global g=>rfl
 |func f=>rfl
theorem Ki {E:Env}{F:d_}{ops:Array Oper}{t:It}{st bD:St}(hs:∀d∈gj ops t.o,nth .undef bD.slots d=nth .undef st.slots d)
  (hh:act ops t.o st.slots=some true->dA t.o.op=true->∀id∈jM E.P true st.heap (aS st.slots) t.o.op,nth bw.fresh bD.heap id=nth bw.fresh st.heap id):
  A3 E F ops true t bD=A3 E F ops true t st:=by
 unfold A3;rw[Xk hs];split
 ·rfl
 ·rename_i ha;exact Fs (OS hs) (hh ha) _
 ·rfl
theorem xY {E:Env}{F:d_}{ops:Array Oper}{t:It}{st:St}{r:Tr}{v:AV}{us:cD}(h:A3 E F ops true t st=some (r,v,us)):
  r.i=t.i/\((act ops t.o st.slots=some false/\r=⟨t.i,[],false⟩/\v=.no/\us=[])\/
  (act ops t.o st.slots=some true/\∃fp,fp=jM E.P (dA t.o.op) st.heap (aS st.slots) t.o.op/\r=⟨t.i,cond (dA t.o.op) fp [],dA t.o.op&&us.any λu=>bH u.1 fp⟩/\
   Iy (dA t.o.op) (eA t.o) fp t.nid us=true/\yY (oM E.P (dA t.o.op) st.heap (aS st.slots) t.o.op) us v=true)):=by
 unfold A3 at h;split at h
 ·cases h
 ·rename_i ha;unfold mm at h;split at h
  ·dsimp only at h;have hn:=tZ E F (Cc (dA t.o.op) (jM E.P (dA t.o.op) st.heap (aS st.slots) t.o.op) st.heap) t.nid t.o.op (aS st.slots) two
    (λp:AV×cD=>if (Iy (dA t.o.op) (eA t.o) (jM E.P (dA t.o.op) st.heap (aS st.slots) t.o.op) t.nid p.2&&yY (oM E.P (dA t.o.op) st.heap (aS st.slots) t.o.op) p.2 p.1)=true then
     some (Tr.mk t.i (cond (dA t.o.op) (jM E.P (dA t.o.op) st.heap (aS st.slots) t.o.op) []) (dA t.o.op&&p.2.any λu=>bH u.1 (jM E.P (dA t.o.op) st.heap (aS st.slots) t.o.op)),p.1,p.2) else none)
   have ot:=hn.trans h;obtain⟨p,_,hp⟩:=gI.1 ot;split at hp
   ·rename_i hc;cases hp;simp only[bO]at hc;exact⟨rfl,.inr ⟨ha,_,rfl,rfl,hc.1,hc.2⟩⟩
   ·cases hp
  ·cases h
 ·rename_i ha;cases h;exact⟨rfl,.inl ⟨ha,rfl,rfl,rfl⟩⟩
structure Info (t:It)(st:St)(r:Tr)(v:AV)(us:cD):Prop where
 i:r.i=t.i
 ids:∀u∈us,u.2≠.fresh/\((r.w=true/\u.1∈r.fp)\/(t.nid<=u.1/\u.1<t.nid+eA t.o))
 fp:∀id∈r.fp,known st.heap id
 refs:∀id∈v.refs,known st.heap id\/id∈us.map Prod.fst
 aia:∀u∈us,∀id∈HM u.2,known st.heap id\/id∈us.map Prod.fst
theorem IM {xs ys:List Nat}(h:X8 xs ys=true):∀x∈xs,x∈ys:=λx hx=>cP.1 (iC.1 h x hx)
theorem xO {E:Env}{F:d_}{ops:Array Oper}{t:It}{st:St}{r:Tr}{v:AV}{us:cD}(hc:kV st)(h:A3 E F ops true t st=some (r,v,us)):Info t st r v us:=by
 obtain⟨hi,h⟩:=xY h;rcases h with⟨_,rfl,rfl,rfl⟩|⟨_,fp,hfp,rfl,hu,hr⟩
 ·exact⟨rfl,λu hu=>by(cases hu),λid bn=>by(cases bn),λid bn=>by(cases bn),λu hu=>by(cases hu)⟩
 ·have hk:∀id∈fp,known st.heap id:=by subst hfp;exact hc.fp
  have hkr:∀id∈oM E.P (dA t.o.op) st.heap (aS st.slots) t.o.op,known st.heap id:=hc.rf;unfold yY at hr;simp only[bO]at hr;have ahY:∀id,id∈oM E.P (dA t.o.op) st.heap (aS st.slots) t.o.op++us.map Prod.fst->known st.heap id\/id∈us.map Prod.fst:=λid bn=>(eO.1 bn).imp (hkr id) λh=>h;refine⟨rfl,λu Qo=> ?_,λid bn=> ?_,λid bn=>ahY id (IM hr.1 id bn),λu Qo id bn=>ahY id (IM (iC.1 hr.2 u Qo) id bn)⟩
  ·have h1:=iC.1 hu u Qo;simp only[bO,wZ,Nat.ble_eq,FQ]at h1;refine⟨λhe=>by rw[he]at h1;exact absurd h1.1 (by simp[ac0]),?_⟩;rcases h1.2 with⟨h2,h3⟩|h2
   ·refine .inl ⟨?_,?_⟩
    ·simp only[h2,CI];exact List.any_eq_true.2 ⟨u,Qo,h3⟩
    ·simp only[h2,en];exact cP.1 h3
   ·exact .inr h2
  ·cases hh:dA t.o.op with
   |false=>simp only[hh,gH]at bn;cases bn
   |true=>simp only[hh,en]at bn;exact hk id bn
theorem dR:∀{us:cD} {h:List bw} {id:Nat},(∀u∈us,u.1≠id)->nth bw.fresh (bh us h) id=nth bw.fresh h id
 |[],_,_,_=>rfl
 |(i,e)::us,h,id,hn=>by
  rw[bh,dR λu hu=>hn u (by simp[hu]),ep,aC λhc=>hn (i,e) (by simp) hc.1]
theorem E7 {us:cD}(hf:∀u∈us,u.2≠.fresh){h:List bw}{id:Nat}(hk:known h id\/(id∈us.map Prod.fst/\id<h.length)):known (bh us h) id:=by
 rcases hk with hk|⟨hm,hlt⟩
 ·exact iq hf hk
 ·induction us generalizing h with
  |nil=>cases hm
  |cons u us ih=>
   obtain⟨i,e⟩:=u;rw[bh];by_cases hi:i=id
   ·subst hi;refine iq (λu hu=>hf u (by simp[hu])) ?_;unfold known;rw[ep,aK ⟨rfl,hlt⟩];exact hf (i,e) (by simp)
   ·refine ih (λu hu=>hf u (by simp[hu])) ?_ (by rw[bU];exact hlt);simp only[nS,gR]at hm;exact hm.resolve_left λh=>hi h.symm
theorem lG:∀{us:cD} {h:List bw} {id:Nat} {b:au},live (bh us h) id b->(id,.blk b)∈us\/live h id b
 |[],_,_,_,hl=>.inr hl
 |(i,e)::us,h,id,b,hl=>by
  rcases lG (us:=us) hl with h1|h1
  ·exact .inl (by simp[h1])
  ·rcases bR.1 h1 with⟨rfl,_,rfl⟩|⟨_,h2⟩
   ·exact .inl (by simp)
   ·exact .inr h2
theorem e9 (d:Option Nat)(v:AV)(slots:List AV)(t:Nat):nth .undef (cq d v slots) t=if d=some t/\t<slots.length then v else nth .undef slots t:=by
 cases d with
 |none=>simp[cq]
 |some d=>simp only[cq,ep,kE]
structure Fit (l:List It)(st:St):Prop where
 closed:kV st
 fresh:∀t∈l,∀n,t.nid<=n->n<t.nid+eA t.o->nth bw.fresh st.heap n=.fresh/\n<st.heap.length
 apart:l.Pairwise λa b=>a.nid+eA a.o<=b.nid\/b.nid+eA b.o<=a.nid
theorem Info.range {t:It}{st:St}{r:Tr}{v:AV}{us:cD}(h:Info t st r v us)(hf:∀n,t.nid<=n->n<t.nid+eA t.o->n<st.heap.length):∀id∈us.map Prod.fst,id<st.heap.length:=by
 intro id bn;obtain⟨u,hu,rfl⟩:=fQ.1 bn;rcases(h.ids u hu).2 with⟨_,h2⟩|⟨h2,h3⟩
 ·have:=h.fp _ h2;rcases y7 u.1 st.heap.length with h'|h'
  ·exact h'
  ·unfold known at this;rw[dp]at this;simp[List.getD,EN h']at this
 ·exact hf _ h2 h3
theorem Info.kn {t:It}{st:St}{r:Tr}{v:AV}{us:cD}(h:Info t st r v us)(hf:∀n,t.nid<=n->n<t.nid+eA t.o->n<st.heap.length){id:Nat}(bn:known st.heap id\/id∈us.map Prod.fst):known (put t (v,us) st).heap id:=
 E7 (λu hu=>(h.ids u hu).1) (bn.imp (λh=>h) λhm=>⟨hm,h.range hf id hm⟩)
theorem Fit.step {t:It}{l:List It}{st:St}{r:Tr}{v:AV}{us:cD}(hf:Fit (t::l) st)(h:Info t st r v us):Fit l (put t (v,us) st):=by
 have hlen:∀n,t.nid<=n->n<t.nid+eA t.o->n<st.heap.length:=λn h1 h2=>(hf.fresh t (by simp) n h1 h2).2;have hap:=iP.1 hf.apart;refine⟨⟨λs id bn=> ?_,λid cs hl c hc cT bn=> ?_⟩,λt' ht' n hn1 hn2=> ?_,hap.2⟩
 ·have MH:id∈(nth .undef (cq t.o.dst v st.slots) s).refs:=bn;rw[e9]at MH;split at MH
  ·exact h.kn hlen (h.refs id MH)
  ·exact h.kn hlen (.inl (hf.closed.slot s id MH))
 ·rcases lG hl with h1|h1
  ·exact h.kn hlen (h.aia _ h1 cT (by simp only[HM];exact CG.2 ⟨c,hc,bn⟩))
  ·exact h.kn hlen (.inl (hf.closed.box id cs h1 c hc cT bn))
 ·obtain⟨f1,f2⟩:=hf.fresh t' (by simp[ht']) n hn1 hn2;have hne:∀u∈us,u.1≠n:=by
   intro u hu he;rcases(h.ids u hu).2 with⟨_,h2⟩|⟨h2,h3⟩
   ·exact h.fp _ h2 (by rw[he];exact f1)
   ·have:=hap.1 t' ht';omega
  refine⟨?_,?_⟩
  ·show nth bw.fresh (bh us st.heap) _=_;rw[dR hne];exact f1
  ·show _<(bh us st.heap).length;rw[ew];exact f2
theorem IA {α:Type}(x y:α):∀(h:List α) (i j:Nat),i≠j->upd x (upd y h j) i=upd y (upd x h i) j:=by
 intro h i j xS;simp only[oL];exact List.set_comm _ _ (λe=>xS e.symm)
theorem CM:∀{us:cD} {h:List bw} {i:Nat} {e:bw},(∀u∈us,u.1≠i)->bh us (upd e h i)=upd e (bh us h) i
 |[],_,_,_,_=>rfl
 |(j,x)::us,h,i,e,hn=>by
  rw[bh,bh,IA _ _ _ _ _ (hn (j,x) (by simp)),CM λu hu=>hn u (by simp[hu])]
theorem As:∀{us vs:cD} {h:List bw},(∀u∈us,∀v∈vs,u.1≠v.1)->bh us (bh vs h)=bh vs (bh us h)
 |_,[],_,_=>rfl
 |us,(j,x)::vs,h,hn=>by
  rw[bh,As λu hu v hv=>hn u hu v (by simp[hv]),CM λu hu=>hn u hu (j,x) (by simp),bh]
theorem IX {d e:Option Nat}{v u:AV}{s:List AV}(h:∀x,d=some x->e≠some x):cq e u (cq d v s)=cq d v (cq e u s):=by
 cases d with
 |none=>rfl
 |some d=>
  cases e with
  |none=>rfl
  |some e=>
   simp only[cq];exact IA _ _ _ _ _ λhe=>h d rfl (by rw[he])
def BJ (a b:Tr):Prop:=(a.w=true\/b.w=true)->∀x∈a.fp,x∉b.fp
theorem KW {ops:Array Oper}{x y:Oper}(h:wG ops x y=true):(∀d,x.dst=some d->d∉gj ops y)/\(∀d,x.dst=some d->y.dst≠some d)/\(∀d,y.dst=some d->d∉gj ops x):=by
 unfold wG at h;simp only[bO]at h;obtain⟨h1,h2⟩:=h;refine⟨λd hd hm=> ?_,λd hd hy=> ?_,λd hd hm=> ?_⟩
 ·rw[hd]at h1;simp only[bO,oQ]at h1;rw[cP.2 hm]at h1;cases h1.1
 ·rw[hd,hy]at h1;simp only[bO,oQ]at h1;have:=h1.2;simp at this
 ·rw[hd]at h2;simp only[oQ]at h2;rw[cP.2 hm]at h2;cases h2
theorem swap {E:Env}{F:d_}{ops:Array Oper}{k i:It}{st:St}{rk ri:Tr}{ek ei:AV×cD}(hap:wG ops k.o i.o=true)(hf:Fit [k,i] st)
  (h1:A3 E F ops true k st=some (rk,ek)) (h2:A3 E F ops true i (put k ek st)=some (ri,ei)) (jO:BJ rk ri):
  A3 E F ops true i st=some (ri,ei)/\A3 E F ops true k (put i ei st)=some (rk,ek)/\put k ek (put i ei st)=put i ei (put k ek st):=by
 obtain⟨vk,uk⟩:=ek;obtain⟨vi,ui⟩:=ei;obtain⟨a1,a2,a3⟩:=KW hap;have ik:=xO hf.closed h1;have VJ:=hf.step ik;have ii:=xO VJ.closed h2;have XD:∀n,k.nid<=n->n<k.nid+eA k.o->nth bw.fresh st.heap n=.fresh:=λn h1 h2=>(hf.fresh k (by simp) n h1 h2).1;have hfi:∀n,i.nid<=n->n<i.nid+eA i.o->nth bw.fresh st.heap n=.fresh:=λn h1 h2=>(hf.fresh i (by simp) n h1 h2).1;have ak:∀d∈gj ops i.o,nth .undef st.slots d=nth .undef (put k (vk,uk) st).slots d:=λd hd=>by
  show _=nth .undef (cq k.o.dst vk st.slots) d;rw[e9,aC λhc=>a1 d hc.1 hd]
 have Lc:∀u∈uk,known st.heap u.1->rk.w=true/\u.1∈rk.fp:=λu hu AJ=>by
  rcases(ik.ids u hu).2 with h|⟨h,h'⟩
  ·exact h
  ·exact absurd (XD _ h h') AJ
 have qL:∀id,known st.heap id->(∀u∈uk,u.1≠id)->nth bw.fresh (put k (vk,uk) st).heap id=nth bw.fresh st.heap id:=λid _ hn=>dR hn;have hev:∀x∈i.o.op.operands,aS (put k (vk,uk) st).slots x=aS st.slots x:=λx hx=>(OS ak x hx).symm;have alH:act ops i.o (put k (vk,uk) st).slots=some true->dA i.o.op=true->∀id∈jM E.P true (put k (vk,uk) st).heap (aS (put k (vk,uk) st).slots) i.o.op,id∈ri.fp/\known st.heap id/\∀u∈uk,u.1≠id:=by
  intro pV hh;have aej:ri.fp=jM E.P true (put k (vk,uk) st).heap (aS (put k (vk,uk) st).slots) i.o.op:=by
   obtain⟨_,hx⟩:=xY h2;rcases hx with⟨h0,_⟩|⟨_,fp,rfl,rfl,_⟩
   ·rw[pV]at h0;cases h0
   ·simp only[hh,en]
  have hno:∀id∈ri.fp,known st.heap id->∀u∈uk,u.1≠id:=λid bn AJ u hu he=>by
   obtain⟨h3,h4⟩:=Lc u hu (by rw[he];exact AJ);exact jO (.inl h3) u.1 h4 (by rw[he];exact bn)
  have h0:∀id∈dV (aS (put k (vk,uk) st).slots) i.o.op,known st.heap id:=λid bn=>by
   rw[qC hev]at bn;exact hf.closed.dV id bn
  intro id bn;have aeL:∀l:List Nat,(∀x∈l,x∈ri.fp/\known st.heap x)->∀x∈lM (put k (vk,uk) st).heap l,known st.heap x:=λl hl x hx=>by
   rcases eO.1 hx with h|h
   ·exact(hl x h).2
   ·obtain⟨y,hy,hxy⟩:=CG.1 h;obtain⟨hyf,hyk⟩:=hl y hy;have hyn:=hno y hyf hyk;rw[yn (qL y hyk hyn)]at hxy;obtain⟨cs,hl,c,hc,Qn⟩:=AB hxy;exact hf.closed.box y cs hl c hc x Qn
  have AJ:known st.heap id:=by
   have alC:=bn;unfold jM at bn;cases hs:IU E.P i.o.op with
   |true=>rw[hs]at bn;exact h0 id bn
   |false=>
    have aad:ri.fp=lM (put k (vk,uk) st).heap (lM (put k (vk,uk) st).heap (lM (put k (vk,uk) st).heap (dV (aS (put k (vk,uk) st).slots) i.o.op))):=by
     rw[aej];unfold jM oM;rw[hs];rfl
    have sub:∀(l:List Nat) x,x∈l->x∈lM (put k (vk,uk) st).heap l:=λl x hx=>eO.2 (.inl hx);have g1:=aeL (dV (aS (put k (vk,uk) st).slots) i.o.op) λx hx=>⟨by rw[aad];exact sub _ _ (sub _ _ (sub _ _ hx)),h0 x hx⟩
    have g2:=aeL _ λx hx=>⟨by rw[aad];exact sub _ _ (sub _ _ hx),g1 x hx⟩
    have g3:=aeL _ λx hx=>⟨by rw[aad];exact sub _ _ hx,g2 x hx⟩
    exact g3 id (by rw[<-aad,aej];exact alC)
  have hm:id∈ri.fp:=by rw[aej];exact bn
  exact⟨hm,AJ,hno id hm AJ⟩
 have e1:A3 E F ops true i st=some (ri,vi,ui):=by
  rw[<-h2];refine Ki ak λpV hh id bn=> ?_;obtain⟨_,AJ,hn⟩:=alH pV hh id bn;exact(qL id AJ hn).symm
 have ii0:=xO hf.closed e1;have e2:A3 E F ops true k (put i (vi,ui) st)=some (rk,vk,uk):=by
  rw[<-h1];refine Ki (λd hd=> ?_) λpV hh id bn=> ?_
  ·show nth .undef (cq i.o.dst vi st.slots) d=_;rw[e9,aC λhc=>a3 d hc.1 hd]
  ·refine dR λu hu he=> ?_;have AJ:=hf.closed.fp id bn;have hrk:id∈rk.fp:=by
    obtain⟨_,hx⟩:=xY h1;rcases hx with⟨h0,_⟩|⟨_,fp,rfl,rfl,_⟩
    ·rw[pV]at h0;cases h0
    ·simp only[hh,en];exact bn
   rcases(ii0.ids u hu).2 with⟨h3,h4⟩|⟨hb,h3⟩
   ·exact jO (.inr h3) id hrk (he▸h4)
   ·rw[<-he]at AJ;exact AJ (hfi _ hb h3)
 refine⟨e1,e2,?_⟩;unfold put;simp only[St.mk.injEq];refine⟨IX λx hx he=>a2 x he hx,As λu hu u' Qo he=> ?_⟩;have XA:known st.heap u'.1->False:=λAJ=>by
  rcases(ii0.ids u' Qo).2 with⟨h3,h4⟩|⟨hb,h3⟩
  ·obtain⟨h5,h6⟩:=Lc u hu (by rw[he];exact AJ);exact jO (.inl h5) u.1 h6 (by rw[he];exact h4)
  ·exact AJ (hfi _ hb h3)
 rcases(ii0.ids u' Qo).2 with⟨h3,h4⟩|⟨hb,h3⟩
 ·exact XA (ii0.fp _ h4)
 ·rcases(ik.ids u hu).2 with⟨h5,h6⟩|⟨hb',h5⟩
  ·exact XA (by rw[<-he];exact ik.fp _ h6)
  ·have:=(iP.1 hf.apart).1 i (by simp);omega
theorem Fit.sub {l l':List It}{st:St}(h:Fit l st)(hs:l'.Sublist l):Fit l' st:=
 ⟨h.closed,λt ht=>h.fresh t (hs.subset ht),h.apart.sublist hs⟩
theorem front {E:Env}{F:d_}{ops:Array Oper}{i:It}{q:List It}{bD:St}:∀(p:List It) {st:St} {rs:List Tr},Fit (p++i::q) st->(∀k∈p,wG ops k.o i.o=true)->
  i_ E F ops true (p++i::q) st=some (rs,bD)->(∀rp ri rq,rs=rp++ri::rq->rp.length=p.length->∀rk∈rp,BJ rk ri)->
  ∃ri rp rq,rs=rp++ri::rq/\rp.length=p.length/\i_ E F ops true (i::(p++q)) st=some (ri::(rp++rq),bD)
 |[],st,rs,_,_,h,_=>by
  obtain⟨r,e,rs',h1,h2,rfl⟩:=cV.1 h;exact⟨r,[],rs',rfl,rfl,h⟩
 |k::p,st,rs,hf,hap,h,jO=>by
  obtain⟨rk,ek,rs',h1,h2,rfl⟩:=cV.1 h;have ik:=xO (v:=ek.1) (us:=ek.2) hf.closed h1;have hf':Fit (p++i::q) (put k ek st):=hf.step ik;obtain⟨ri,rp,rq,rfl,hlen,h3⟩:=front p hf' (λk' oV=>hap k' (by simp[oV])) h2 (λrp ri rq he hl rk' ak_=>
   jO (rk::rp) ri rq (by rw[he];rfl) (by simp[hl]) rk' (by simp[ak_]))
  obtain⟨ri',ei,rs3,h4,h5,he⟩:=cV.1 h3;simp only[List.cons.injEq]at he;obtain⟨rfl,rfl⟩:=he;have hnc:BJ rk ri:=jO (rk::rp) ri rq rfl (by simp[hlen]) rk (by simp);obtain⟨g1,g2,g3⟩:=swap (hap k (by simp)) (hf.sub (by
   simp only[qy];exact List.Sublist.cons_cons _ (List.Sublist.trans (List.Sublist.cons_cons _ (List.nil_sublist _)) (List.sublist_append_right p (i::q))))) h1 h4 hnc
  refine⟨ri,rk::rp,rq,rfl,by simp[hlen],cV.2 ⟨ri,ei,_,g1,cV.2 ⟨rk,ek,rp++rq,g2,?_,rfl⟩,rfl⟩⟩;rw[g3];exact h5
theorem zZ {E:Env}{F:d_}{ops:Array Oper}{dr:Bool}:∀{l:List It} {st bD:St} {rs:List Tr},i_ E F ops dr l st=some (rs,bD)->rs.length=l.length
 |[],_,_,_,h=>by simp only[i_]at h;cases h;rfl
 |t::l,st,bD,rs,h=>by
  obtain⟨r,e,rs',h1,h2,rfl⟩:=cV.1 h;simp[zZ h2]
structure Le (st se:St):Prop where
 heap:se.heap=st.heap
 len:se.slots.length=st.slots.length
 slot:∀t,nth .undef st.slots t=.undef\/nth .undef st.slots t=nth .undef se.slots t
theorem Le.refl (st:St):Le st st:=⟨rfl,rfl,λ_=>.inr rfl⟩
theorem Le.ev {st se:St}(h:Le st se)(x:Operand):aS st.slots x=.undef\/aS st.slots x=aS se.slots x:=by
 cases x with
 |tmp t=>exact h.slot t
 |const v=>exact .inr rfl
 |global g=>exact .inr rfl
 |func f=>exact .inr rfl
theorem e_ (d:Option Nat)(v:AV)(s:List AV):(cq d v s).length=s.length:=by
 cases d with
 |none=>rfl
 |some d=>exact bU ..
theorem Le.put {st se:St}(h:Le st se)(d:Option Nat){v v':AV}(hv:v=.undef\/v=v')(us:cD):Le ⟨cq d v st.slots,bh us st.heap⟩ ⟨cq d v' se.slots,bh us se.heap⟩:=by
 refine⟨by rw[h.heap],by simp[e_,h.len],λt=> ?_⟩;simp only[e9,h.len];by_cases hc:d=some t/\t<st.slots.length
 ·rw[aK hc,aK hc];exact hv
 ·rw[aC hc,aC hc];exact h.slot t
theorem XM {α:Type}{E:Env}{F:d_}{dr:Bool}{nid:Nat}{o:Oper}{st se:St}(he:∀x∈o.op.operands,aS se.slots x=aS st.slots x)(hh:se.heap=st.heap)(K:AV->cD->List Nat->Bool->Option α):
  mm E F dr nid o se K=mm E F dr nid o st K:=by
 cases dr with
 |true=>exact Fs he (λ_ _ _=>by rw[hh]) K
 |false=>
  unfold mm;rw[D4 he,hh];congr 1;exact FV _ _ _ _ _ he _
def wL (E:Env)(F:d_)(dr:Bool)(nid:Nat)(o:Oper)(st:St):Option (AV×cD×List Nat×Bool):=mm E F dr nid o st λv us fp w=>some (v,us,fp,w)
theorem Ru {α:Type}{E:Env}{F:d_}{dr:Bool}{nid:Nat}{o:Oper}{st:St}{K:AV->cD->List Nat->Bool->Option α}{r:α}(h:mm E F dr nid o st K=some r):
  ∃v us fp w,wL E F dr nid o st=some (v,us,fp,w)/\K v us fp w=some r:=by
 have hn:=BX E F dr nid o st (λv us fp w=>some (v,us,fp,w)) (λp:AV×cD×List Nat×Bool=>K p.1 p.2.1 p.2.2.1 p.2.2.2);have ot:=hn.trans h;obtain⟨⟨v,us,fp,w⟩,h1,h2⟩:=gI.1 ot;exact⟨v,us,fp,w,h1,h2⟩
theorem adl {α:Type}{E:Env}{F:d_}{dr:Bool}{nid:Nat}{o:Oper}{st:St}{v:AV}{us:cD}{fp:List Nat}{w:Bool}(h:wL E F dr nid o st=some (v,us,fp,w))(K:AV->cD->List Nat->Bool->Option α):
  mm E F dr nid o st K=K v us fp w:=by
 have hn:=BX E F dr nid o st (λv us fp w=>some (v,us,fp,w)) (λp:AV×cD×List Nat×Bool=>K p.1 p.2.1 p.2.2.1 p.2.2.2);have hx:mm E F dr nid o st (λv us fp w=>some (v,us,fp,w))=some (v,us,fp,w):=h;rw[hx]at hn;exact hn.symm
theorem HP {α:Type}{b:Bool}{x y:Option α}{r:α}(h:ctl b x y=some r):(b=true/\x=some r)\/(b=false/\y=some r):=by
 cases b
 ·exact .inr ⟨rfl,h⟩
 ·exact .inl ⟨rfl,h⟩
theorem Ji {E:Env}{F:d_}{dr:Bool}{nid:Nat}{o:Oper}{st se:St}(hp:G5 o.op=true)(hle:Le st se){v:AV}{us:cD}{fp:List Nat}{w:Bool}(h:wL E F dr nid o st=some (v,us,fp,w)):
  ∃v',wL E F dr nid o se=some (v',us,fp,w)/\(v=.undef\/v=v'):=by
 have key:∀x∈o.op.operands,(∀look ev,(∃r,qa E F look nid o.op ev two=some r)->True)->True:=λ_ _ _=>trivial;have gen:∀x:Operand,x∈o.op.operands->dA o.op=false->(∀look,qa E F look nid o.op (aS st.slots) two=some (aS st.slots x,[]))->(∀look,qa E F look nid o.op (aS se.slots) two=some (aS se.slots x,[]))->
   ∃v',wL E F dr nid o se=some (v',us,fp,w)/\(v=.undef\/v=v'):=by
  intro x hx hh h1 h2;have opn:∀(β:Type) (st:St) look (K:Step β),qa E F look nid o.op (aS st.slots) K=(qa E F look nid o.op (aS st.slots) two).bind λp=>K p.1 p.2:=λβ st look K=>(tZ E F look nid o.op (aS st.slots) two λp=>K p.1 p.2).symm;unfold wL mm at h|-;simp only[Kk,hp,Al,xd]at h|-;cases dr with
  |false=>
   dsimp only at h|-;rw[opn,h1]at h;rw[opn,h2];simp only[oP,kE,xh]at h|-;obtain⟨rfl,rfl,rfl,rfl⟩:=h;exact⟨_,⟨rfl,rfl,rfl,rfl⟩,hle.ev x⟩
  |true=>
   dsimp only at h|-;rw[opn,h1]at h;rw[opn,h2];simp only[oP,hh,yZ,gH]at h|-;split at h
   ·simp only[kE,xh]at h;obtain⟨rfl,rfl,rfl,rfl⟩:=h;refine⟨aS se.slots x,?_,hle.ev x⟩;rw[aK];have zC:X8 (aS se.slots x).refs (oM E.P false se.heap (aS se.slots) o.op++[])=true:=by
     refine iC.2 λy hy=>cP.2 (eO.2 (.inl ?_));exact CG.2 ⟨x,by simpa using hx,hy⟩
    simp only[Iy,yY,List.all_nil,pJ,List.map_nil,zC]
   ·cases h
 obtain⟨dst,op,ty,pos,after,guard⟩:=o;cases op<;>first|(cases hp;done)|skip
 case move x=>exact gen x (by simp[Op.operands]) rfl (λ_=>rfl) (λ_=>rfl)
 case assign x=>exact gen x (by simp[Op.operands]) rfl (λ_=>rfl) (λ_=>rfl)
 case pick c a b=>
  have hc:∃t,aS st.slots c=.t (.p (.bool t)):=by
   have opf:∀look (β:Type) (K:Step β),(∀t,aS st.slots c≠.t (.p (.bool t)))->qa E F look nid (.pick c a b) (aS st.slots) K=none:=by
    intro look β K hn;simp only[qa,eD,jC,gH,gZ]
   rcases Classical.em (∃t,aS st.slots c=.t (.p (.bool t)))with h'|h'
   ·exact h'
   ·have hn:∀t,aS st.slots c≠.t (.p (.bool t)):=λt ht=>h' ⟨t,ht⟩;unfold wL mm at h;split at h
    ·cases dr
     ·dsimp only at h;rw[opf _ _ _ hn]at h;cases h
     ·dsimp only at h;rw[opf _ _ _ hn]at h;cases h
    ·cases h
  obtain⟨t,ht⟩:=hc;have ht':aS se.slots c=.t (.p (.bool t)):=by
   rcases hle.ev c with h'|h'
   ·rw[ht]at h';cases h'
   ·rw[<-h',ht]
  have e1:∀look,qa E F look nid (.pick c a b) (aS st.slots) two=some (aS st.slots (cond t a b),[]):=λlook=>by
   simp only[qa,eD,jC,gH,gZ,ht];cases t<;>rfl
  have e2:∀look,qa E F look nid (.pick c a b) (aS se.slots) two=some (aS se.slots (cond t a b),[]):=λlook=>by
   simp only[qa,eD,jC,gH,gZ,ht'];cases t<;>rfl
  exact gen (cond t a b) (by cases t<;>simp[Op.operands]) rfl e1 e2
theorem XK {E:Env}{F:d_}{dr:Bool}{nid:Nat}{o:Oper}{st se:St}(hle:Le st se){v:AV}{us:cD}{fp:List Nat}{w:Bool}(h:wL E F dr nid o st=some (v,us,fp,w)):
  ∃v',wL E F dr nid o se=some (v',us,fp,w)/\(v=.undef\/v=v'):=by
 cases hp:G5 o.op with
 |true=>exact Ji hp hle h
 |false=>
  have hd:Kk (aS st.slots) o.op=true:=by
   unfold wL mm at h;split at h
   ·assumption
   ·cases h
  simp only[Kk,hp,w7]at hd;refine⟨v,?_,.inr rfl⟩;rw[<-h];unfold wL;refine XM (λx hx=> ?_) hle.heap _;have:=iC.1 hd x (by simpa using hx);rcases hle.ev x with h'|h'
  ·rw[h']at this;cases this
  ·exact h'.symm
end Go.Proofs.YtoocplpcbdemhaaGreat.Vm
