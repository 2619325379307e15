/- The evaluator and its soundness. Conditions: none. -/
import GoSem.Step
import Derived.Orders
import Derived.Below
import Derived.Laws.Sem
import Derived.Laws.Cells
import Derived.Laws.Strings
import Derived.Laws.BytesString
import Derived.Laws.BytesArg
import Derived.Lib.Strings
import Derived.Laws.StructEq
set_option linter.all false
section
namespace Go.Vse
def Z0:=@List.getElem?_eq_getElem
def Z1:=@List.getElem_mem
def Z2:=@Nat.le_refl
def Z3:=@Nat.le_trans
def Z4:=@List.mem_append
def Z5:=@List.mem_cons
def Z6:=@List.take_succ_eq_append_getElem
def Z7:=@List.take_length
def Z8:=@List.getElem?_eq_some_iff
def Z9:=@Nat.mul_le_mul_right
def Z10:=@List.map_cons
def Z11:=@List.take_of_length_le
def Z12:=@List.mem_map
def Z13:=@List.mem_of_mem_take
def Z14:=@Bool.and_eq_true
def Z15:=@Nat.lt_of_lt_of_le
def Z16:=@List.length_append
def Z17:=@List.length_eq_zero_iff
def Z18:=@List.length_map
def Z19:=@Array.getD_eq_getD_getElem?
def Z20:=@List.map_append
def Z21:=@List.mem_of_mem_drop
def Z22:=@List.append_nil
def Z23:=@List.length_cons
def Z24:=@List.drop_of_length_le
def Z25:=@Nat.zero_add
def Z26:=@List.findIdx?_eq_some_iff_getElem
def Z27:=@List.take_append_of_le_length
def Z28:=@List.nil_append
def Z29:=@List.cons_append
def Z30:=@List.any_eq_true
def Z31:=@List.mem_singleton
def Z32:=@List.append_assoc
def Z33:=@List.map_map
def Z34:=@List.drop_zero
def Z35:=@Nat.add_mul
def Z36:=@List.getElem?_map
def Z37:=@List.length_range
def Z38:=@List.mem_flatMap
def Z39:=@List.mem_of_getElem?
def Z40:=@List.mem_cons_of_mem
def Z41:=@List.length_take
def Z42:=@List.foldl_cons
def Z43:=@List.findIdx?_eq_none_iff
def Z44:=@Array.getElem?_eq_some_iff
def Z45:=@Option.some.injEq
def Z46:=@Option.bind_some
def Z47:=@Option.bind_eq_bind
def Z48:=@List.getD_eq_getElem?_getD
def Z49:=@if_neg
def Z50:=@List.all_eq_true
def Z51:=@if_pos
def Z52:=@Bool.false_eq_true
def Z53:=@Option.some.inj
def Z54:=@List.getElem?_append_left
def Z55:=@List.drop_eq_getElem_cons
def Z56:=@List.pairwise_cons
def Z57:=@List.mem_filter
def Z58:=@List.getElem_append_right
def Z59:=@List.getElem_append_left
def Z60:=@if_true
def Z61:=@Nat.zero_le
def Z62:=@List.getElem?_append_right
def Z63:=@if_false
def Z64:=@Nat.min_le_left
def Z65:=@decide_eq_false_iff_not
def Z66:=@Prod.mk.injEq
def Z67:=@Function.comp_def
def Z68:=@List.map_congr_left
def Z69:=@Array.getElem?_toList
def Z70:=@List.getElem_set_ne
def Z71:=@List.flatten_append
def Z72:=@Array.length_toList
def Z73:=@Nat.min_eq_left
def Z74:=@List.nodup_cons
def Z75:=@List.getElem?_take
def Z76:=@List.length_filter_le
def Z77:=@List.getElem_set_self
def Z78:=@Nat.le_max_right
def Z79:=@Nat.blt_eq
def Z80:=@Bool.not_eq_true'
def Z81:=@List.getElem?_drop
def Z82:=@Nat.add_assoc
def Z83:=@List.eq_nil_of_length_eq_zero
def Z84:=@List.length_zipWith
def Z85:=@List.map_nil
def Z86:=@decide_eq_true_eq
def Z87:=@List.getElem?_set
def Z88:=@Nat.eq_of_beq_eq_true
def Z89:=@Bool.not_true
def Z90:=@List.nodup_append
def Z91:=@List.flatten_cons
def Z92:=@List.flatMap_cons
def Z93:=@Array.getElem?_setIfInBounds_ne
def Z94:=@List.take_append_drop
def Z95:=@List.set_getElem_self
def Z96:=@List.mem_append_right
def Z97:=@List.getElem?_eq_none
def Z98:=@List.mem_replicate
def Z99:=@List.filter_append
def Z100:=@List.pairwise_append
def Z101:=@List.mem_iff_getElem
def Z102:=@List.mem_append_left
def Z103:=@Bool.true_and
def Z104:=@Array.ext'
def Z105:=@List.take_add_one
def Z106:=@List.mem_range'_1
def Z107:=@List.ext_getElem?
def Z108:=@List.getElem_zip
def Z109:=@Nat.zero_mul
def Z110:=@Nat.le_of_lt
def Z111:=@Nat.add_zero
def Z112:=@List.set_append_right
def Z113:=@Nat.pow_le_pow_right
def Z114:=@List.contains_eq_mem
def Z115:=@Bool.or_eq_true
def Z116:=@List.map_set
def Z117:=@Array.getElem?_push
def Z118:=@Option.getD_some
def Z119:=@Array.getElem?_eq_none
def Z120:=@List.append_of_mem
def Z121:=@Nat.min_self
def Z122:=@List.getElem?_zipWith
def Z123:=@Array.getElem?_setIfInBounds_self_of_lt
def Z124:=@Nat.mod_lt
def Z125:=@List.getElem?_set_ne
def Z126:=@List.pairwise_iff_getElem
def Z127:=@List.filter_cons
def Z128:=@Nat.le_succ
def Z129:=@List.length_pos_iff
def Z130:=@List.getElem_of_mem
def Z131:=@List.Sublist.append_left
def Z132:=@Array.getElem?_replicate
def Z133:=@Bool.and_self
def Z134:=@Option.map_some
def Z135:=@Nat.le_max_left
def Z136:=@List.range_succ
def Z137:=@List.filter_nil
def Z138:=@Nat.testBit_eq_decide_div_mod_eq
def Z139:=@List.sublist_cons_self
def Z140:=@List.getElem?_set_self
def Z141:=@List.append_eq_nil_iff
def Z142:=@List.foldl_append
def Z143:=@List.all_eq_false
def Z144:=@Nat.mul_le_mul
def Z145:=@Nat.lt_or_ge
def Z146:=@List.length_replicate
def Z147:=@Bool.and_eq_false_iff
def Z148:=@Array.toList_map
def Z149:=@List.map_take
def Z150:=@Nat.ble_eq
def Z151:=@Option.toList_some
def Z152:=@Nat.add_sub_cancel
def Z153:=@List.set_cons_zero
def Z154:=@List.mem_cons_self
def Z155:=@Bool.and_assoc
def Z156:=@List.mem_or_eq_of_mem_set
def Z157:=@List.getElem_take
def Z158:=@Option.isSome_iff_exists
def Z159:=@List.sum_cons
def Z160:=@List.getElem?_replicate
def Z161:=@Nat.testBit_succ
def Z162:=@Nat.max_eq_right
def Z163:=@Nat.lt_of_not_le
def Z164:=@List.not_mem_nil
def Z165:=@List.isEmpty_nil
def Z166:=@List.flatMap_nil
def Z167:=@List.drop_append
def Z168:=@Nat.mul_ne_zero
def Z169:=@Nat.max_eq_left
def Z170:=@List.length_nil
def Z171:=@Array.getElem?_modify
def Z172:=@List.Pairwise.filter
def Z173:=@List.take_zero
def Z174:=@List.mem_range
def Z175:=@List.drop_drop
def Z176:=@Bool.false_and
def Z177:=@Nat.one_mul
def Z178:=@Nat.mul_one
def Z179:=@Nat.mul_add
def Z180:=@List.take_succ_cons
def Z181:=@List.replicate_succ
def Z182:=@List.map_eq_nil_iff
def Z183:=@List.flatMap_append
def Z184:=@List.findSome?_cons
def Z185:=@Nat.mul_assoc
def Z186:=@Nat.min_assoc
def Z187:=@Bool.and_true
def Z188:=@Nat.lt_of_le_of_lt
def Z189:=@List.set_cons_succ
def Z190:=@Array.foldl_toList
def Z191:=@List.set_eq_take_append_cons_drop
def Z192:=@List.exists_of_findSome?_eq_some
def Z193:=@List.any_eq_false
def Z194:=@Nat.sub_self
def Z195:=@Nat.pow_succ
def Z196:=@Nat.le_total
def Z197:=@Nat.le_of_eq
def Z198:=@Nat.add_comm
def Z199:=@List.set_set
def Z200:=@Nat.testBit_zero
def Z201:=@Nat.min_le_right
def Z202:=@Nat.min_eq_right
def Z203:=@Nat.and_le_right
def Z204:=@List.take_append
def Z205:=@List.getElem_map
def Z206:=@List.drop_length
def Z207:=@Classical.skolem
def qI{a b:Prop}(x:a)(y:b):a/\b:=⟨x,y⟩
inductive T (α:Type) where
 |e
 |n (l:T α) (o:Option α) (r:T α)
 deriving Inhabited
def T.get{α:Type}:T α->Nat->Option α
 | .e,_=>none
 | .n l o r,i=>bif Nat.beq i 0 then o else bif Nat.beq (i%2) 1 then l.get (i/2)else r.get (i/2 - 1)
def T.zfr{α:Type}(v:Option α):Nat->T α->Nat->T α
 |0,t,_=>t
 |k+1,.e,i=>
  bif Nat.beq i 0 then .n .e v .e
  else bif Nat.beq (i%2) 1 then .n (zfr v k .e (i/2)) none .e
  else .n .e none (zfr v k .e (i/2 - 1))
 |k+1,.n l o r,i=>
  bif Nat.beq i 0 then .n l v r
  else bif Nat.beq (i%2) 1 then .n (zfr v k l (i/2)) o r
  else .n l o (zfr v k r (i/2 - 1))
def T.set{α:Type}(t:T α)(i:Nat)(v:α):T α:=T.zfr (some v) (i+1) t i
def T.del{α:Type}(t:T α)(i:Nat):T α:=T.zfr none (i+1) t i
inductive F where
 |b (x:Bool)
 |i (k:IntKind) (n:Int)
 |s (l:List UInt8)
 |nils|nilp|nilm|nilf|nili|un
 |ag (cs:List F)
 |tu (cs:List F)
 |sl (es:Nat) (els:List (List F))
 |fn (f:Nat)
 deriving Inhabited
inductive D where
 |f (x:F)
 |ag (cs:List D)
 |tu (cs:List D)
 |sl (id off len es lim:Nat) (ex:Bool)
 |ptr (id es i j:Nat)
 |fptr (cs:List F)
 |mp (id:Nat)
 |fn (f:Nat) (first cap:List D)
 deriving Inhabited
inductive Ob where
 |arr (es ro:Nat) (els:List (List D))
 |map (ents:List (F×D))
 deriving Inhabited
mutual
def F.beq:F->F->Bool
 | .b x,.b y=>x==y
 | .i k n,.i k' n'=>k==k'&&n==n'
 | .s l,.s l'=>l==l'
 | .nils,.nils| .nilp,.nilp| .nilm,.nilm| .nilf,.nilf| .nili,.nili| .un,.un=>true
 | .ag x,.ag y=>F.zdv x y
 | .tu x,.tu y=>F.zdv x y
 | .sl e x,.sl e' y=>e==e'&&F.zeN x y
 | .fn x,.fn y=>x==y
 |_,_=>false
def F.zdv:List F->List F->Bool
 |[],[]=>true
 |x::l,y::m=>x.beq y&&F.zdv l m
 |_,_=>false
def F.zeN:List (List F)->List (List F)->Bool
 |[],[]=>true
 |x::l,y::m=>F.zdv x y&&F.zeN l m
 |_,_=>false
end
mutual
def D.beq:D->D->Bool
 | .f x,.f y=>x.beq y
 | .ag x,.ag y=>D.zdv x y
 | .tu x,.tu y=>D.zdv x y
 | .sl a b c d e x,.sl a' b' c' d' e' x'=>a==a'&&b==b'&&c==c'&&d==d'&&e==e'&&x==x'
 | .ptr a b c d,.ptr a' b' c' d'=>a==a'&&b==b'&&c==c'&&d==d'
 | .fptr x,.fptr y=>F.zdv x y
 | .mp x,.mp y=>x==y
 | .fn x a b,.fn x' a' b'=>x==x'&&D.zdv a a'&&D.zdv b b'
 |_,_=>false
def D.zdv:List D->List D->Bool
 |[],[]=>true
 |a::l,b::m=>a.beq b&&D.zdv l m
 |_,_=>false
end
def D.zeN:List (List D)->List (List D)->Bool
 |[],[]=>true
 |a::l,b::m=>D.zdv a b&&D.zeN l m
 |_,_=>false
def Ob.znm:List (F×D)->List (F×D)->Bool
 |[],[]=>true
 |(a,x)::l,(b,y)::m=>a.beq b&&x.beq y&&Ob.znm l m
 |_,_=>false
def Ob.beq:Ob->Ob->Bool
 | .arr a b c,.arr a' b' c'=>a==a'&&b==b'&&D.zeN c c'
 | .map a,.map b=>Ob.znm a b
 |_,_=>false
def Ob.zrz:Option Ob->Option Ob->Bool
 |none,none=>true
 |some a,some b=>a.beq b
 |_,_=>false
mutual
def F.d:F->D
 | .ag cs=> .ag (F.dL cs)
 | .tu cs=> .tu (F.dL cs)
 |x=> .f x
def F.dL:List F->List D
 |[]=>[]
 |x::l=>x.d::F.dL l
end
def D.cells:D->Option (List D)
 | .ag cs=>some cs
 | .tu _| .f (.ag _)| .f (.tu _)| .f .un=>none
 |d=>some [d]
def D.zlR:D->Bool
 | .ag _| .tu _=>false
 | .f (.ag _)| .f (.tu _)| .f .un=>false
 |_=>true
def F.zlR:F->Bool
 | .ag _| .tu _=>false
 |_=>true
mutual
def D.isF:D->Bool
 | .f _=>true
 | .ag cs=>D.zh4 cs
 | .tu cs=>D.zh4 cs
 | .fptr _=>true
 |_=>false
def D.zh4:List D->Bool
 |[]=>true
 |d::l=>d.isF&&D.zh4 l
end
inductive O (α:Type) where
 |mv (x:α)
 |pick (c a b:α)
 |new (cs:List F)
 |box (x:α)
 |bld (z:List F) (ps:List (Nat×Nat×α))
 |bsl (es:Nat) (z:List F) (len:Nat) (ps:List (Nat×α))
 |bsf (es:Nat) (z:List F) (len:Nat) (ps:List (Nat×α))
 |ld (g:Bool) (n:Nat) (x:α)
 |st (n:Nat) (x v:α)
 |nck (x:α)
 |bin (op:BinOp) (x y:α)
 |eqb (ne:Bool) (x y:α)
 |eqn (kd:Nat) (ne:Bool) (x y:α)
 |eqa (ks:List Nat) (ne:Bool) (x y:α)
 |un (op:UnOp) (x:α)
 |cvi (k:IntKind) (x:α)
 |cvs (x:α)
 |s2b (x:α)
 |b2s (x:α)
 |mkf (f:Nat) (first cap:List α)
 |mks (es byt:Nat) (z:List F) (l c:α)
 |sls (x:α) (lo hi:Option α)
 |slc (es:Nat) (x:α) (lo hi mx:Option α)
 |fa (off:Nat) (x:α)
 |fld (g:Bool) (off n:Nat) (x:α)
 |ia (es:Nat) (x i:α)
 |iaa (es len:Nat) (x i:α)
 |ixs (x i:α)
 |ixa (g:Bool) (es len:Nat) (x i:α)
 |ext (x:α) (i:Nat)
 |app (es byt:Nat) (s x:α)
 |apz (es byt:Nat) (z:List F) (s n:α)
 |cpy (es:Nat) (d s:α)
 |clr (es:Nat) (z:List F) (s:α)
 |len (x:α)
 |lns (x:α)
 |mlen (x:α)
 |cap (x:α)
 |mm (mx:Bool) (x y:α)
 |mmk
 |mup (kd:Nat) (m k v:α)
 |mlk (kd:Nat) (z:F) (ok:Bool) (m k:α)
 |callp (f:Nat) (args:List α)
 |call (f:Nat) (args:List α)
 |callv (x:α) (args:List α)
 deriving Inhabited
class Globs where
 data:Nat->Option (List F)
inductive A where
 |t (n:Nat)
 |k (x:F)
 |x
 |g (cs:List F)
 deriving Inhabited
def zat{α β:Type}(f:α->Option β):List α->Option (List β)
 |[]=>some []
 |x::l=>match f x with
  |none=>none
  |some y=>match zat f l with
   |none=>none
   |some m=>some (y::m)
def zdp{α β:Type}(f:α->Option β):Option α->Option (Option β)
 |none=>some none
 |some x=>match f x with
  |none=>none
  |some y=>some (some y)
def O.res{α β:Type}(f:α->Option β):O α->Option (O β)
 | .mv x=>do some (.mv (<-f x))
 | .pick c a b=>do some (.pick (<-f c) (<-f a) (<-f b))
 | .new cs=>some (.new cs)
 | .box x=>do some (.box (<-f x))
 | .bld z ps=>do some (.bld z (<-zat (fun(o,n,x)=>do some (o,n,<-f x)) ps))
 | .bsl es z m ps=>do some (.bsl es z m (<-zat (fun(o,x)=>do some (o,<-f x)) ps))
 | .bsf es z m ps=>do some (.bsf es z m (<-zat (fun(o,x)=>do some (o,<-f x)) ps))
 | .ld g n x=>do some (.ld g n (<-f x))
 | .st n x v=>do some (.st n (<-f x) (<-f v))
 | .nck x=>do some (.nck (<-f x))
 | .bin op x y=>do some (.bin op (<-f x) (<-f y))
 | .eqb ne x y=>do some (.eqb ne (<-f x) (<-f y))
 | .eqn kd ne x y=>do some (.eqn kd ne (<-f x) (<-f y))
 | .eqa ks ne x y=>do some (.eqa ks ne (<-f x) (<-f y))
 | .un op x=>do some (.un op (<-f x))
 | .cvi k x=>do some (.cvi k (<-f x))
 | .cvs x=>do some (.cvs (<-f x))
 | .s2b x=>do some (.s2b (<-f x))
 | .b2s x=>do some (.b2s (<-f x))
 | .mkf g a b=>do some (.mkf g (<-zat f a) (<-zat f b))
 | .mks es by_ z l c=>do some (.mks es by_ z (<-f l) (<-f c))
 | .sls x lo hi=>do some (.sls (<-f x) (<-zdp f lo) (<-zdp f hi))
 | .slc es x lo hi mx=>do some (.slc es (<-f x) (<-zdp f lo) (<-zdp f hi) (<-zdp f mx))
 | .fa off x=>do some (.fa off (<-f x))
 | .fld g off n x=>do some (.fld g off n (<-f x))
 | .ia es x i=>do some (.ia es (<-f x) (<-f i))
 | .iaa es m x i=>do some (.iaa es m (<-f x) (<-f i))
 | .ixs x i=>do some (.ixs (<-f x) (<-f i))
 | .ixa g es m x i=>do some (.ixa g es m (<-f x) (<-f i))
 | .ext x i=>do some (.ext (<-f x) i)
 | .app es by_ s x=>do some (.app es by_ (<-f s) (<-f x))
 | .apz es by_ z s n=>do some (.apz es by_ z (<-f s) (<-f n))
 | .cpy es d s=>do some (.cpy es (<-f d) (<-f s))
 | .clr es z s=>do some (.clr es z (<-f s))
 | .len x=>do some (.len (<-f x))
 | .lns x=>do some (.lns (<-f x))
 | .mlen x=>do some (.mlen (<-f x))
 | .cap x=>do some (.cap (<-f x))
 | .mm mx x y=>do some (.mm mx (<-f x) (<-f y))
 | .mmk=>some .mmk
 | .mup kd m k v=>do some (.mup kd (<-f m) (<-f k) (<-f v))
 | .mlk kd z ok m k=>do some (.mlk kd z ok (<-f m) (<-f k))
 | .callp g args=>do some (.callp g (<-zat f args))
 | .call g args=>do some (.call g (<-zat f args))
 | .callv x args=>do some (.callv (<-f x) (<-zat f args))
def zaN:A->List Nat
 | .t n=>[n]
 | .k _=>[]
 | .x=>[]
 | .g _=>[]
def zdr:List A->List Nat
 |[]=>[]
 |x::l=>zaN x++zdr l
def zoF:Option A->List Nat
 |some x=>zaN x
 |none=>[]
def O.slots:O A->List Nat
 | .mv x=>zaN x
 | .pick q x y=>zaN q++zaN x++zaN y
 | .new _=>[]
 | .box x=>zaN x
 | .bld _ ps=>zdr (ps.map (·.2.2))
 | .bsl _ _ _ ps=>zdr (ps.map (·.2))
 | .bsf _ _ _ ps=>zdr (ps.map (·.2))
 | .ld _ _ x=>zaN x
 | .st _ x v=>zaN x++zaN v
 | .nck x=>zaN x
 | .bin _ x y=>zaN x++zaN y
 | .eqb _ x y=>zaN x++zaN y
 | .eqn _ _ x y=>zaN x++zaN y
 | .eqa _ _ x y=>zaN x++zaN y
 | .un _ x=>zaN x
 | .cvi _ x=>zaN x
 | .cvs x=>zaN x
 | .s2b x=>zaN x
 | .b2s x=>zaN x
 | .mkf _ x y=>zdr x++zdr y
 | .mks _ _ _ l m=>zaN l++zaN m
 | .sls x lo hi=>zaN x++zoF lo++zoF hi
 | .slc _ x lo hi mx=>zaN x++zoF lo++zoF hi++zoF mx
 | .fa _ x=>zaN x
 | .fld _ _ _ x=>zaN x
 | .ia _ x i=>zaN x++zaN i
 | .iaa _ _ x i=>zaN x++zaN i
 | .ixs x i=>zaN x++zaN i
 | .ixa _ _ _ x i=>zaN x++zaN i
 | .ext x _=>zaN x
 | .app _ _ x y=>zaN x++zaN y
 | .apz _ _ _ x y=>zaN x++zaN y
 | .cpy _ x y=>zaN x++zaN y
 | .clr _ _ x=>zaN x
 | .len x=>zaN x
 | .lns x=>zaN x
 | .mlen x=>zaN x
 | .cap x=>zaN x
 | .mm _ x y=>zaN x++zaN y
 | .mmk=>[]
 | .mup _ m k v=>zaN m++zaN k++zaN v
 | .mlk _ _ _ m k=>zaN m++zaN k
 | .callp _ l=>zdr l
 | .call _ l=>zdr l
 | .callv x l=>zaN x++zdr l
structure Op where
 dst:Option Nat
 gd:Option (Nat×Bool)
 o:O A
 deriving Inhabited
inductive C where
 |skip
 |reg (ops:List Op)
 |dreg (ops:List (Op×Nat))
 |seq (a b:C)
 |cond (x:A) (a b:C)
 |blk (id:Nat) (c:C)
 |loop (c:C)
 |exit (id:Nat)
 |ret
 deriving Inhabited
inductive Rv where
 |t (n:Nat)
 |cell (n:Nat) (g:Bool) (sz:Nat)
 deriving Inhabited
structure Fn where
 nt:Nat
 res:List Rv
 body:C
 deriving Inhabited
structure Rs where
 d:D
 rd:List Nat:=[]
 wr:List (Nat×Option Ob):=[]
 c:Nat
def okF(c:Nat)(x:F):Option Rs:=some {d:= .f x,c}
def okD(c:Nat)(d:D):Option Rs:=some {d,c}
def ziX:Sem Value->Option Value
 | .pure v=>some v
 |_=>none
def zuo(op:BinOp)(k:IntKind)(a:Int)(k':IntKind)(b:Int):Option F:=
 match ziX (Go.binOp op 0 (.int k a) (.int k' b))with
 |some (.int k n)=>some (.i k n)
 |some (.bool x)=>some (.b x)
 |_=>none
def zDE(op:BinOp)(a b:List UInt8):Option F:=
 match op with
 | .add=>if a.length+b.length<=9223372036854775807 then some (.s (a++b))else none
 | .eql=>some (.b (a==b))
 | .neq=>some (.b (!(a==b)))
 | .lss=>some (.b (Go.Op.bytesLess a b))
 | .leq=>some (.b (Go.Op.bytesLess a b||a==b))
 | .gtr=>some (.b (!(Go.Op.bytesLess a b||a==b)))
 | .geq=>some (.b (!(Go.Op.bytesLess a b)))
 |_=>none
def zaK(op:BinOp):F->F->Option F
 | .i k a,.i k' b=>zuo op k a k' b
 | .s a,.s b=>zDE op a b
 |_,_=>none
def zrM:Nat->D->Option Bool
 |0,.f .nils=>some true
 |0,.f (.sl _ _)=>some false
 |0,.sl .. =>some false
 |1,.f .nilp=>some true
 |1,.ptr .. =>some false
 |1,.fptr _=>some false
 |2,.f .nilm=>some true
 |2,.mp _=>some false
 |3,.f .nilf=>some true
 |3,.f (.fn _)=>some false
 |3,.fn .. =>some false
 |_,_=>none
def zs9(kd:Nat)(x y:D):Option Bool:=
 match zrM kd x,zrM kd y with
 |some true,some q=>some q
 |some q,some true=>some q
 |_,_=>none
def za8:List Nat->List D->List D->Option Bool
 |[],[],[]=>some true
 | 0::ks,.f (.i k a)::l,.f (.i k' b)::m=>if k=k' then
   match za8 ks l m with
   |some r=>some ((a==b)&&r)
   |none=>none
  else none
 |1::ks,.f (.s a)::l,.f (.s b)::m=>match za8 ks l m with
  |some r=>some ((a==b)&&r)
  |none=>none
 |2::ks,.f (.b x)::l,.f (.b y)::m=>match za8 ks l m with
  |some r=>some ((x==y)&&r)
  |none=>none
 |_,_,_=>none
def over(cs:List D)(off:Nat)(new:List D):Option (List D):=
 if off+new.length<=cs.length then some (cs.take off++new++cs.drop (off+new.length))else none
def zdH(cells:List D):List (Nat×Nat×D)->Option (List D)
 |[]=>some cells
 |(off,n,d)::rest=>match d.cells with
  | some cs=>if cs.length=n then match over cells off cs with
    |some cells'=>zdH cells' rest
    |none=>none
   else none
  |none=>none
def zee(es:Nat)(els:List (List D)):List (Nat×D)->Option (List (List D))
 |[]=>some els
 |(i,d)::rest=>match d.cells with
  |some cs=>if cs.length=es/\i<els.length then zee es (els.set i cs) rest else none
  |none=>none
def zbv(x:D):Option Nat:=
 match x with
 | .f (.i _ n)=>if 0<=n then some n.toNat else none
 |_=>none
def zcW(g:Bool)(off n:Nat)(cs:List D):Option D:=
 if g then(if off+n<=cs.length then some (.ag ((cs.drop off).take n))else none)else cs[off]?
def zk0(g:Bool)(n:Nat)(cs:List F):Option D:=
 if g then(if n<=cs.length then some (.ag ((cs.take n).map D.f))else none)else(cs[0]?).map D.f
def zc3(g:Bool)(n:Nat)(h:Nat->Option Ob):D->Option (D×List Nat)
 | .fptr cs=>(zk0 g n cs).map (·,[])
 | .ptr id es i j=>match h id with
  | some (.arr es' _ els)=>if es=es' then match els[i]? with
    |some el=>(zcW g j n el).map (·,[id])
    |none=>none
   else none
  |_=>none
 |_=>none
def hd8:List (List D)->Bool
 |[.f (.i .u8 _)]::_=>true
 |_=>false
def ze5(old new:List (List D)):Bool:=!hd8 old||hd8 new
def zd7(n:Nat)(h:Nat->Option Ob)(p v:D):Option (Nat×Ob):=
 match p with
 | .ptr id es i j=>match h id with
  | some (.arr es' ro els)=>if es=es'/\ro<=i then match els[i]?,v.cells with
    | some el,some cs=>if cs.length=n then match over el j cs with
      |some el'=>if ze5 els (els.set i el')then some (id,.arr es ro (els.set i el'))else none
      |none=>none
     else none
    |_,_=>none
   else none
  |_=>none
 |_=>none
def elemsOf(es:Nat)(h:Nat->Option Ob):D->Option (List (List D)×List Nat)
 | .f .nils=>some ([],[])
 | .f (.sl es' els)=>if es=es' then some (els.map (·.map D.f),[])else none
 | .sl id off len es' _ _=>match h id with
  |some (.arr es'' _ els)=>if es=es'/\es'=es''/\off+len<=els.length then some ((els.drop off).take len,[id])else none
  |_=>none
 | .f (.s l)=>if es=1 then some (l.map (fun x=>[D.f (.i .u8 x.toNat)]),[])else none
 |_=>none
def zpJ(es:Nat)(h:Nat->Option Ob)(m:Nat)(s:D):Option (List (List D)×Nat×List Nat):=
 match elemsOf es h s with
 |some (els,rd)=>some (els,els.length,rd)
 |none=>match s with
  | .sl id off len es' _ _=>match h id with
   |some (.arr es'' _ els)=>if es=es'/\es'=es''/\off<=els.length/\off+Nat.min len m<=els.length then some (els.drop off,len,[id])else none
   |_=>none
  |_=>none
def zav:Nat:=140737488355328
def za3(es byt:Nat)(h:Nat->Option Ob)(c:Nat)(s:D)(new:List (List D))(rd:List Nat):Option Rs:=
  if new.length=0 then(match s with
    | .f .nils| .f (.sl _ _)| .sl .. =>some {d:=s,rd,c}
    |_=>none)else
  match s with
  | .f .nils=>
    if new.length<=zav/\new.length*byt<=zav then
      some {d:= .sl c 0 new.length es new.length false,rd,wr:=[(c,some (.arr es 0 new))],c:=c+1} else none
  | .sl id off len es' lim ex=>match h id with
    | some (.arr es'' ro els)=>if es=es'/\es'=es''/\off+len<=els.length then
        let need:=off+len+new.length
        if need<=lim then
          if need<=els.length/\ro<=off+len/\ze5 els (els.take (off+len)++new++els.drop need)=true then
            some { d:= .sl id off (len+new.length) es lim ex,rd:=id::rd,
                   wr:=[(id,some (.arr es ro (els.take (off+len)++new++els.drop need)))],c}
          else none
        else if len+new.length<=zav/\(len+new.length)*byt<=zav then
          if ex then
            some { d:= .sl c 0 (len+new.length) es (len+new.length) false,rd:=id::rd,
                   wr:=[(c,some (.arr es 0 ((els.drop off).take len++new)))],c:=c+1}
          else if off=0/\len=els.length/\ro<=len then
            some {d:= .sl c 0 need es need false,rd:=id::rd,wr:=[(id,none),(c,some (.arr es ro (els++new)))],c:=c+1}
          else if off=0/\ro<=len/\els.length<=need/\ze5 els (els.take len++new)=true then
            some {d:= .sl c 0 need es need false,rd:=id::rd,wr:=[(id,none),(c,some (.arr es ro (els.take len++new)))],c:=c+1}
          else none
        else none
      else none
    |_=>none
  |_=>none
def zbN(dflt:Nat):Option D->Option Nat
 |none=>some dflt
 |some d=>zbv d
def sliceB(es:Nat)(h:Nat->Option Ob)(x:D)(lo hi mx:Option D):Option (D×List Nat):=
 match x with
 | .f .nils=>match zbN 0 lo,zbN 0 hi,zbN 0 mx with
  |some 0,some 0,some 0=>some (.f .nils,[])
  |_,_,_=>none
 | .f (.sl es' els)=>match mx with
  |some m=>match zbN 0 lo,zbN els.length hi,zbv m with
   |some l,some r,some m=>if es=es'/\l<=r/\r<=m/\m<=els.length then some (.f (.sl es ((els.drop l).take (r - l))),[])else none
   |_,_,_=>none
  |none=>match zbN 0 lo,zbN els.length hi with
   |some l,some r=>if es=es'/\l<=r/\r<=els.length then some (.f (.sl es ((els.drop l).take (r - l))),[])else none
   |_,_=>none
 | .sl id off len es' lim ex=>match h id with
  |some (.arr es'' _ _)=>match zbN 0 lo,zbN len hi with
   | some l,some r=>if es=es'/\es'=es''/\l<=r/\(off+r<=lim\/r<=len)then
     match mx with
     |none=>some (.sl id (off+l) (r - l) es lim ex,[id])
     |some m=>match zbv m with
      |some m=>if r<=m/\off+m<=lim then some (.sl id (off+l) (r - l) es (off+m) true,[id])else none
      |none=>none
    else none
   |_,_=>none
  |_=>none
 |_=>none
def zyR(x:D):Option Nat:=
 match x with
 | .f .nils=>some 0
 | .sl _ off _ _ lim true=>some (lim - off)
 |_=>none
def zci:D->Option Nat
 | .f .nils=>some 0
 | .f (.sl _ els)=>some els.length
 | .sl _ _ len _ _ _=>some len
 |_=>none
def zdG:List (List D)->Option (List UInt8)
 |[]=>some []
 |[.f (.i .u8 n)]::l=>match zdG l with
  |some r=>some (UInt8.ofNat n.toNat::r)
  |none=>none
 |_=>none
def ziU:Nat->F->F->Option Bool
 |0,.i k x,.i k' y=>if k=k' then some (x==y)else none
 |1,.s x,.s y=>some (x==y)
 |2,.b x,.b y=>some (x==y)
 |_,_,_=>none
def zc1(kd:Nat)(k:F):List (F×D)->Nat->Option (Option (Nat×D))
 |[],_=>some none
 |(a,v)::l,i=>match ziU kd k a with
  |some true=>some (some (i,v))
  |some false=>zc1 kd k l (i+1)
  |none=>none
def zfJ:Nat->F->Bool
 |0,.i _ _=>true
 |1,.s _=>true
 |2,.b _=>true
 |_,_=>false
def zaT(f:D->Option (F×List Nat)):List D->Option (List F×List Nat)
 |[]=>some ([],[])
 |d::l=>match f d with
  |none=>none
  |some (x,r)=>match zaT f l with
   |none=>none
   |some (m,r')=>some (x::m,r++r')
def zaU(f:D->Option (F×List Nat)):List (List D)->Option (List (List F)×List Nat)
 |[]=>some ([],[])
 |d::l=>match zaT f d with
  |none=>none
  |some (x,r)=>match zaU f l with
   |none=>none
   |some (m,r')=>some (x::m,r++r')
def frz(h:Nat->Option Ob):Nat->D->Option (F×List Nat)
 |0,_=>none
 |k+1,d=>match d with
  | .f x=>some (x,[])
  | .ag cs=>match zaT (frz h k) cs with
   |some (l,r)=>some (.ag l,r)
   |none=>none
  | .tu cs=>match zaT (frz h k) cs with
   |some (l,r)=>some (.tu l,r)
   |none=>none
  | .sl id off len es _ _=>match h id with
   | some (.arr es' _ els)=>if es=es'/\off+len<=els.length then
     match zaU (frz h k) ((els.drop off).take len)with
     |some (l,r)=>some (.sl es l,id::r)
     |none=>none
    else none
   |_=>none
  |_=>none
def zau(h:Nat->Option Ob):List Nat->List (Nat×Option Ob)
 |[]=>[]
 |id::l=>match h id with
  |some (.arr es ro els)=>if els.length<=ro then zau h l else(id,some (.arr es els.length els))::zau h l
  |_=>zau h l
def zdx:List D->Option (List F)
 |[]=>some []
 | .f x::l=>match zdx l with
  |some m=>some (x::m)
  |none=>none
 |_::_=>none
def zeQ:List (List D)->Option (List (List F))
 |[]=>some []
 |x::l=>match zdx x with
  |none=>none
  |some y=>match zeQ l with
   |some m=>some (y::m)
   |none=>none
def opv(h:Nat->Option Ob)(c:Nat):O D->Option Rs
 | .mv x=>okD c x
 | .pick q x y=>match q with
  | .f (.b t)=>okD c (if t then x else y)
  |_=>none
 | .new cs=>some {d:= .ptr c cs.length 0 0,wr:=[(c,some (.arr cs.length 0 [cs.map D.f]))],c:=c+1}
 | .box x=>match x.cells with
  |some cs=>some {d:= .ptr c cs.length 0 0,wr:=[(c,some (.arr cs.length 0 [cs]))],c:=c+1}
  |none=>none
 | .bld z ps=>match zdH (z.map D.f) ps with
  |some cs=>okD c (.ag cs)
  |none=>none
 | .bsl es z m ps=>match zee es (List.replicate m (z.map D.f)) ps with
  |some els=>some {d:= .sl c 0 m es m true,wr:=[(c,some (.arr es 0 els))],c:=c+1}
  |none=>none
 | .bsf es z m ps=>match zee es (List.replicate m (z.map D.f)) ps with
  |some els=>match zeQ els with
   |some fs=>okF c (.sl es fs)
   |none=>some {d:= .sl c 0 m es m true,wr:=[(c,some (.arr es 0 els))],c:=c+1}
  |none=>none
 | .ld g n x=>match zc3 g n h x with
  |some (d,rd)=>some {d,rd,c}
  |none=>none
 | .st n x v=>match zd7 n h x v with
  |some (id,ob)=>some {d:= .f .un,rd:=[id],wr:=[(id,some ob)],c}
  |none=>none
 | .nck x=>match x with
  | .ptr .. | .fptr _| .f (.fn _)| .fn .. =>okD c x
  |_=>none
 | .bin op x y=>match x,y with
  | .f x,.f y=>match zaK op x y with
   |some z=>okF c z
   |none=>none
  |_,_=>none
 | .eqb ne x y=>match x,y with
  | .f (.b p),.f (.b q)=>okF c (.b (if ne then !(p==q)else p==q))
  |_,_=>none
 | .eqn kd ne x y=>match zs9 kd x y with
  |some t=>okF c (.b (if ne then !t else t))
  |none=>none
 | .eqa ks ne x y=>match x,y with
  | .ag a,.ag b=>match za8 ks a b with
   |some t=>okF c (.b (if ne then !t else t))
   |none=>none
  |_,_=>none
 | .un op x=>match x with
  | .f (.b t)=>match op with
   | .not=>okF c (.b !t)
   |_=>none
  | .f (.i k n)=>match ziX (Go.Op.unary op (.int k n))with
   |some (.int k n)=>okF c (.i k n)
   |_=>none
  |_=>none
 | .cvi k x=>match x with
  | .f (.i _ n)=>okF c (.i k (k.wrap n))
  |_=>none
 | .cvs x=>match x with
  | .f (.s l)=>okF c (.s l)
  |_=>none
 | .s2b x=>match x with
  | .f (.s l)=>if l=[]then none else some {d:= .sl c 0 l.length 1 l.length false,wr:=[(c,some (.arr 1 0 (l.map fun x=>[D.f (.i .u8 x.toNat)])))],c:=c+1}
  |_=>none
 | .b2s x=>match x with
  | .f (.s _)=>none
  |x=>match elemsOf 1 h x with
   |some (els,rd)=>match zdG els with
    |some l=>some {d:= .f (.s l),rd,c}
    |none=>none
   |none=>none
 | .mkf f a b=>match a,b with
  |[],[]=>okF c (.fn f)
  |a,b=>okD c (.fn f a b)
 | .mks es byt z l m=>match zbv l,zbv m with
  | some l,some m=>if l<=m/\m<=zav/\m*byt<=zav then
    some {d:= .sl c 0 l es m true,wr:=[(c,some (.arr es 0 (List.replicate m (z.map D.f))))],c:=c+1}
   else none
  |_,_=>none
 | .sls x lo hi=>match x with
  | .f (.s l)=>match zbN 0 lo,zbN l.length hi with
   |some a,some b=>if a<=b/\b<=l.length then okF c (.s ((l.drop a).take (b - a)))else none
   |_,_=>none
  |_=>none
 | .slc es x lo hi mx=>match sliceB es h x lo hi mx with
  |some (d,rd)=>some {d,rd,c}
  |none=>none
 | .fa off x=>match x with
  | .ptr id es i j=>okD c (.ptr id es i (j+off))
  | .fptr cs=>okD c (.fptr (cs.drop off))
  |_=>none
 | .fld g off n x=>match x with
  | .ag cs=>match zcW g off n cs with
   |some d=>okD c d
   |none=>none
  |_=>none
 | .ia es x i=>match zbv i with
  |some i=>match x with
   | .f (.sl es' els)=>if es=es' then match els[i]? with
     |some el=>okD c (.fptr el)
     |none=>none
    else none
   | .sl id off m es' _ _=>if es=es'/\i<m then okD c (.ptr id es (off+i) 0)else none
   |_=>none
  |none=>none
 | .iaa es m x i=>match zbv i with
  | some i=>if i<m then match x with
    | .ptr id es' i' j=>okD c (.ptr id es' i' (j+i*es))
    | .fptr cs=>okD c (.fptr (cs.drop (i*es)))
    |_=>none
   else none
  |none=>none
 | .ixs x i=>match x,zbv i with
  | .f (.s l),some i=>match l[i]? with
   |some b=>okF c (.i .u8 b.toNat)
   |none=>none
  |_,_=>none
 | .ixa g es m x i=>match x,zbv i with
  | .ag cs,some i=>if i<m then match zcW g (i*es) es cs with
    |some d=>okD c d
    |none=>none
   else none
  |_,_=>none
 | .ext x i=>match x with
  | .tu cs=>match cs[i]? with
   |some d=>okD c d
   |none=>none
  |_=>none
 | .app es byt s x=>match elemsOf es h x with
  |some (new,rd)=>za3 es byt h c s new rd
  |none=>none
 | .apz es byt z s n=>match zbv n with
  |some n=>if n<=zav/\n*byt<=zav then za3 es byt h c s (List.replicate n (z.map D.f)) []else none
  |none=>none
 | .cpy es d s=>match d with
  | .f .nils=>match elemsOf es h s with
   |some (_,rd)=>some {d:= .f (.i .i64 0),rd,c}
   |none=>none
  | .sl id off m es' _ _=>match zpJ es h m s with
   |some (els,len,rd)=>match h id with
    | some (.arr es'' ro old)=>if es=es'/\es'=es''/\off<=old.length/\(ro<=off\/Nat.min len m=0)/\ze5 old (old.take off++els.take (Nat.min len m)++old.drop (off+Nat.min len m))=true then
      some {d:= .f (.i .i64 (Nat.min len m)),rd:=id::rd,wr:=[(id,some (.arr es ro (old.take off++els.take (Nat.min len m)++old.drop (off+Nat.min len m))))],c}
     else none
    |_=>none
   |none=>none
  |_=>none
 | .clr es z s=>match s with
  | .f .nils=>okF c .un
  | .sl id off m es' _ _=>match h id with
   | some (.arr es'' ro old)=>if es=es'/\es'=es''/\off+m<=old.length/\ro<=off/\ze5 old (old.take off++List.replicate m (z.map D.f)++old.drop (off+m))=true then
     some {d:= .f .un,rd:=[id],wr:=[(id,some (.arr es ro (old.take off++List.replicate m (z.map D.f)++old.drop (off+m))))],c}
    else none
   |_=>none
  |_=>none
 | .len x=>match zci x with
  |some n=>okF c (.i .i64 n)
  |none=>none
 | .lns x=>match x with
  | .f (.s l)=>okF c (.i .i64 l.length)
  |_=>none
 | .mlen x=>match x with
  | .f .nilm=>okF c (.i .i64 0)
  | .mp id=>match h id with
   |some (.map ents)=>some {d:= .f (.i .i64 ents.length),rd:=[id],c}
   |_=>none
  |_=>none
 | .cap x=>match zyR x with
  |some n=>okF c (.i .i64 n)
  |none=>none
 | .mm mx x y=>match x,y with
  | .f (.i k a),.f (.i k' b)=>if k=k' then okF c (.i k (if mx then(if b>a then b else a)else(if b<a then b else a)))else none
  |_,_=>none
 | .mmk=>some {d:= .mp c,wr:=[(c,some (.map []))],c:=c+1}
 | .mup kd m k v=>match m,k with
  | .mp id,.f k=>match h id with
   | some (.map ents)=>if zfJ kd k then match zc1 kd k ents 0 with
     |some (some (i,_))=>some {d:= .f .un,rd:=[id],wr:=[(id,some (.map (ents.set i (k,v))))],c}
     |some none=>some {d:= .f .un,rd:=[id],wr:=[(id,some (.map (ents++[(k,v)])))],c}
     |none=>none
    else none
   |_=>none
  |_,_=>none
 | .mlk kd z ok m k=>match k with
  | .f k=>if zfJ kd k then
    let out (v:D) (t:Bool) (rd:List Nat):Option Rs:=some {d:=if ok then .tu [v,.f (.b t)]else v,rd,c}
    match m with
    | .f .nilm=>out z.d false []
    | .mp id=>match h id with
     |some (.map ents)=>match zc1 kd k ents 0 with
      |some (some (_,v))=>out v true [id]
      |some none=>out z.d false [id]
      |none=>none
     |_=>none
    |_=>none
   else none
  |_=>none
 | .callp .. | .call .. | .callv .. =>none
structure St where
 tm:T D
 h:T Ob
 c:Nat
 lw:Nat
 mx:Nat
 deriving Inhabited
structure CR where
 d:D
 h:T Ob
 c:Nat
 lw:Nat
 mx:Nat
abbrev Cl:=Nat->List D->T Ob->Nat->Option CR
def wrT(h:T Ob):List (Nat×Option Ob)->T Ob
 |[]=>h
 |(id,some ob)::l=>wrT (h.set id ob) l
 |(id,none)::l=>wrT (h.del id) l
def zdL(m:Nat):List (Nat×Option Ob)->Nat
 |[]=>m
 |(id,_)::l=>zdL (if id<m then id else m) l
def zae(tm:T D):A->Option D
 | .t n=>tm.get n
 | .k x=>some x.d
 | .x=>none
 | .g cs=>some (.fptr cs)
structure Fp where
 all:Bool
 rd:List Nat
 wr:List Nat
 lo:Nat
 hi:Nat
 h:T Ob
 h':T Ob
def zbX(tm:T D)(dst:Option Nat)(d:D):T D:=
 match dst with
 |some s=>tm.set s d
 |none=>tm
def zbU(h:Nat->Option Ob)(args:List D):Option (List F×List Nat):=zaT (frz h 12) args
def zez(cl:Cl)(h:Nat->Option Ob)(c f:Nat)(args:List D):Option Rs:=
 match zbU h args with
 |none=>none
 |some (fs,rd)=>match cl f (F.dL fs) .e 0 with
  |none=>none
  |some q=>match frz q.h.get 12 q.d with
   |none=>none
   |some (x,_)=>some {d:=x.d,rd,wr:=zau h rd,c}
inductive Kc where
 |p (f:Nat) (args:List D)
 |q (f:Nat) (args:List D)
 |n
 |bad
def kindOf:O D->Kc
 | .callp f args=> .p f args
 | .call f args=> .q f args
 | .callv (.f (.fn f)) args=> .q f args
 | .callv (.fn f first cap) args=> .q f (first++args++cap)
 | .callv _ _=> .bad
 |_=> .n
def zas(c:Nat):List (Nat×Option Ob)->Bool
 |[]=>true
 |(id,_)::l=>Nat.blt id c&&zas c l
def zcw(s:St)(dst:Option Nat):Option Rs->Option (St×Fp)
 |none=>none
 | some r=>bif !zas r.c r.wr then none else some ({tm:=zbX s.tm dst r.d,h:=wrT s.h r.wr,c:=r.c,lw:=zdL s.lw r.wr,mx:=Nat.max s.mx (r.c+1)},
   {all:=false,rd:=r.rd,wr:=r.wr.map (·.1),lo:=s.c,hi:=r.c+1,h:=s.h,h':=wrT s.h r.wr})
def zfg(s:St)(dst:Option Nat):Option CR->Option (St×Fp)
 |none=>none
 | some q=>some ({tm:=zbX s.tm dst q.d,h:=q.h,c:=q.c,lw:=Nat.min s.lw q.lw,mx:=Nat.max s.mx q.mx},
   {all:=true,rd:=[],wr:=[],lo:=s.c,hi:=q.mx,h:=s.h,h':=q.h})
def step(cl:Cl)(s:St)(o:Op):Option (St×Fp):=
 match o.o.res (zae s.tm)with
 |none=>none
 |some o'=>match kindOf o' with
  | .p f args=>zcw s o.dst (zez cl s.h.get s.c f args)
  | .q f args=>zfg s o.dst (cl f args s.h s.c)
  | .n=>zcw s o.dst (opv s.h.get s.c o')
  | .bad=>none
def zbQ(tm:T D):Option (Nat×Bool)->Option Bool
 |none=>some true
 |some (s,w)=>match tm.get s with
  |some (.f (.b x))=>some (x==w)
  |some (.f .un)=>some false
  |_=>none
def zdR(cl:Cl)(s:St)(o:Op):Option (St×Fp):=
 match zbQ s.tm o.gd with
 |none=>none
 |some true=>step cl s o
 |some false=>some ({s with tm:=zbX s.tm o.dst (.f .un)},{all:=false,rd:=[],wr:=[],lo:=s.c,hi:=s.c,h:=s.h,h':=s.h})
def zeU(cl:Cl):List Op->St->Option St
 |[],s=>some s
 |o::l,s=>match zdR cl s o with
  |none=>none
  |some (s',_)=>zeU cl l s'
def Fp.same(p:Fp)(x:Nat):Bool:=Ob.zrz (p.h.get x) (p.h'.get x)
def Fp.apart(q p:Fp):Bool:=
 match q.all,p.all with
 |false,false=>(p.rd.all fun x=>!q.wr.contains x)&&(q.rd.all fun x=>!p.wr.contains x)&&(q.wr.all fun x=>!p.wr.contains x)
 |false,true=>q.wr.isEmpty&&q.rd.all p.same
 |true,false=>p.wr.isEmpty&&p.rd.all q.same
 |true,true=>false
def zb6(p:Fp)(mask:Nat):List Fp->Nat->Bool
 |[],_=>true
 |q::l,i=>(!mask.testBit i||q.apart p)&&zb6 p mask l (i+1)
def zeS(cl:Cl):List (Op×Nat)->List Fp->St->Option St
 |[],_,s=>some s
 |(o,mask)::l,fps,s=>match zdR cl s o with
  |none=>none
  |some (s',p)=>if zb6 p mask fps 0 then zeS cl l (fps++[p]) {s' with c:=p.hi} else none
inductive Ex where
 |nrm
 |exit (id:Nat)
 |ret
 deriving Inhabited
def iter(body:St->Option (Ex×St)):Nat->St->Option (Ex×St)
 |0,_=>none
 |n+1,s=>match body s with
  |some (.nrm,s')=>iter body n s'
  |r=>r
def evC(cl:Cl)(lf:Nat):C->St->Option (Ex×St)
 | .skip,s=>some (.nrm,s)
 | .reg ops,s=>match zeU cl ops s with
  |some s'=>some (.nrm,s')
  |none=>none
 | .dreg ops,s=>match zeS cl ops [] s with
  |some s'=>some (.nrm,s')
  |none=>none
 | .seq a b,s=>match evC cl lf a s with
  |some (.nrm,s')=>evC cl lf b s'
  |r=>r
 | .cond x a b,s=>match zae s.tm x with
  |some (.f (.b true))=>evC cl lf a s
  |some (.f (.b false))=>evC cl lf b s
  |_=>none
 | .blk id c,s=>match evC cl lf c s with
  |some (.exit i,s')=>if i=id then some (.nrm,s')else some (.exit i,s')
  |r=>r
 | .loop c,s=>iter (evC cl lf c) lf s
 | .exit id,s=>some (.exit id,s)
 | .ret,s=>some (.ret,s)
def zak:List D->Nat->T D->T D
 |[],_,t=>t
 |d::l,i,t=>zak l (i+1) (t.set i d)
def resV(s:St):Rv->Option D
 | .t n=>s.tm.get n
 | .cell n g sz=>match s.tm.get n with
  |some p=>(zc3 g sz s.h.get p).map (·.1)
  |none=>none
def resD(s:St)(l:List Rv):Option D:=
 match zat (resV s) l with
 |some [d]=>some d
 |some ds=>some (.tu ds)
 |none=>none
def zfd(ev:C->St->Option (Ex×St))(fn:Fn)(args:List D)(h:T Ob)(c:Nat):Option CR:=
 match ev fn.body {tm:=zak args 0 .e,h,c,lw:=c,mx:=c} with
 |some (.exit _,_)=>none
 |none=>none
 |some (_,s)=>match resD s fn.res with
  |none=>none
  |some d=>if Nat.beq s.lw c&&d.isF then some {d,h,c,lw:=c,mx:=s.mx} else some {d,h:=s.h,c:=s.c,lw:=s.lw,mx:=s.mx}
structure Pr where
 fn:Nat->Option Fn
 ext:Nat->List D->Option F
 exq:Nat->List D->T Ob->Nat->Option CR:=fun _ _ _ _=>none
def zbW(pr:Pr):Nat->Cl
 |0=>fun _ _ _ _=>none
 |n+1=>fun f args h c=>match pr.fn f with
  |some fn=>zfd (evC (zbW pr n) n) fn args h c
  |none=>match pr.ext f args with
   |some x=>some {d:=x.d,h,c,lw:=c,mx:=c}
   |none=>pr.exq f args h c
end Go.Vse
end
section
namespace Go.Vse
def zvM:Value->Option F
 | .bool x=>some (.b x)
 | .int k n=>some (.i k n)
 | .string ⟨d⟩ =>some (.s d.toList)
 | .pointer none=>some .nilp
 | .slice none 0 0=>some .nils
 | .map none=>some .nilm
 | .nilFunc=>some .nilf
 | .nilIface=>some .nili
 | .tuple ⟨[]⟩ =>some .un
 |_=>none
def zk1(v:Value):Option F:=
 match zvM v with
 |some .un=>none
 |r=>r
def zqa:Value->Option F
 | .agg ⟨cs⟩ =>(zat zk1 cs).map F.ag
 |v=>zvM v
def zeroCells(P:Program)(t:TypeId):Option (List F):=
 match P.info? t with
 |some i=>match i.zero with
  |some (.agg ⟨cs⟩)=>zat zk1 cs
  |some v=>(zk1 v).map ([·])
  |none=>none
 |none=>none
def zrn(P:Program)(t:TypeId):Option F:=
 match P.info? t with
 |some i=>match i.zero with
  |some v=>zqa v
  |none=>none
 |none=>none
def zaO(P:Program)(t:TypeId):Option Nat:=(P.info? t).map (·.size)
def zgJ(P:Program)(t:TypeId):Option Nat:=(P.info? t).map (·.bytes)
def ze2(P:Program)(t:TypeId):Option Bool:=
 match P.underlying t with
 |some (.struct _)|some (.array _ _)=>some true
 |some _=>some false
 |none=>none
variable [Globs]
def opA:Operand->Option A
 | .tmp t=>some (.t t)
 | .const v=>(zqa v).map A.k
 | .func f=>some (.k (.fn f))
 | .global n=>some (match Globs.data n with|some cs=> .g cs|none=> .x)
def ziw(P:Program)(t:TypeId):Option Nat:=
 match P.underlying t with
 |some (.int _)=>some 0
 |some .string=>some 1
 |some .bool=>some 2
 |_=>none
def zqp(f:TypeId->Option (List Nat))(size:TypeId->Option Nat):List Field->Nat->Option (List Nat)
 |[],_=>some []
 |x::l,off=>if x.name= "_" \/x.offset≠off then none else match f x.type,size x.type with
  | some ks,some n=>if n=ks.length then match zqp f size l (off+n)with
    |some m=>some (ks++m)
    |none=>none
   else none
  |_,_=>none
def flatK(P:Program):Nat->TypeId->Option (List Nat)
 |0,_=>none
 |k+1,t=>match P.underlying t with
  |some (.int _)=>some [0]
  |some .string=>some [1]
  |some .bool=>some [2]
  |some (.struct fs)=>if P.stoodInHeld t then none else zqp (flatK P k) (zaO P) fs.toList 0
  |_=>none
def zC0(ops:Array Oper)(j:Nat):Option Nat:=(ops[j]?).bind (·.dst)
def znr(P:Program)(t:TypeId)(parts:List (Nat×Operand)):Option (List (Nat×Nat×A)):=
 match P.underlying t with
 | some (.struct fs)=>if fs.toList.all (fun f=>(P.info? f.type).isSome)then zat (fun(i,x)=>match fs[i]? with
   |some f=>match zaO P f.type,opA x with
    |some n,some y=>some (f.offset,n,y)
    |_,_=>none
   |none=>none) parts else none
 |some (.array _ e)=>match zaO P e with
  |some n=>zat (fun(i,x)=>(opA x).map fun y=>(i*n,n,y)) parts
  |none=>none
 |_=>none
def ziQ(P:Program)(b:Builtin)(args:List Operand)(ats:List TypeId):Option (O A):=
 match b,args,ats with
 | .append,[s,x],[ts,tx]=>match P.underlying ts with
  |some (.slice e)=>match zaO P e,zgJ P e,opA s,opA x with
   |some es,some byt,some s,some x=>match zeroCells P e with
    |some z=>if es=0\/z.length≠es then none else match P.underlying tx with
     |some (.int _)=>some (.apz es byt z s x)
     |some (.slice _)|some .string=>some (.app es byt s x)
     |_=>none
    |none=>none
   |_,_,_,_=>none
  |_=>none
 | .copy,[d,s],td::_=>match P.underlying td with
  |some (.slice e)=>match zaO P e,opA d,opA s with
   |some es,some d,some s=>if es=0 then none else some (.cpy es d s)
   |_,_,_=>none
  |_=>none
 | .len,[x],[t]=>match P.underlying t with
  |some (.slice _)=>(opA x).map .len
  |some .string=>(opA x).map .lns
  |some (.map _ _)=>(opA x).map .mlen
  |_=>none
 | .cap,[x],[t]=>match P.underlying t with
  |some (.slice _)=>(opA x).map .cap
  |_=>none
 | .clear,[x],[t]=>match P.underlying t with
  |some (.slice e)=>match zaO P e,zeroCells P e,opA x with
   |some es,some z,some x=>if es≠0/\z.length=es then some (.clr es z x)else none
   |_,_,_=>none
  |_=>none
 | .min,[x,y],_=>match opA x,opA y with
  |some x,some y=>some (.mm false x y)
  |_,_=>none
 | .max,[x,y],_=>match opA x,opA y with
  |some x,some y=>some (.mm true x y)
  |_,_=>none
 |_,_,_=>none
def zpi(ops:Array Oper)(o:Oper):Bool:=
 match o.dst with
 |none=>false
 |some d=>ops.toList.any fun x=>match x.op with
  | .call {callee:= .builtin .append,args:=⟨[_,.tmp t]⟩,.. }=>t==d
  |_=>false
def zfi(P:Program)(pur:Nat->Bool)(fz:Bool)(o:Oper):Option (O A):=
  match o.op with
  | .move x| .assign x=>(opA x).map .mv
  | .pick c a b=>match opA c,opA a,opA b with
    |some c,some a,some b=>some (.pick c a b)
    |_,_,_=>none
  | .alloc t=>(zeroCells P t).map .new
  | .box _ x=>(opA x).map .box
  | .build t ps=>match zeroCells P t,znr P t ps.toList with
    |some z,some ps=>some (.bld z ps)
    |_,_=>none
  | .buildSlice t m ps=>match P.underlying t with
    | some (.slice e)=>match zaO P e,zeroCells P e,zat (fun(i,x)=>(opA x).map (i,·)) ps.toList with
      |some es,some z,some ps=>if es≠0/\z.length=es/\m*es<=16777216 then some (if fz then .bsf es z m ps else .bsl es z m ps)else none
      |_,_,_=>none
    |_=>none
  | .load t x=>match ze2 P t,zaO P t,opA x with
    |some g,some n,some x=>some (.ld g n x)
    |_,_,_=>none
  | .store t a x=>match zaO P t,opA a,opA x with
    |some n,some a,some x=>some (.st n a x)
    |_,_,_=>none
  | .nilCheck x=>(opA x).map .nck
  | .binOp op t x y _=>match opA x,opA y with
    | some x,some y=>match P.underlying t with
      |some (.int _)|some .string=>some (.bin op x y)
      | some .bool=>match op with
        | .eql=>some (.eqb false x y)
        | .neq=>some (.eqb true x y)
        |_=>none
      | some (.struct _)=>match flatK P 10 t with
        | some ks=>if P.eqGuardType P.depth t then none else match op with
          | .eql=>some (.eqa ks false x y)
          | .neq=>some (.eqa ks true x y)
          |_=>none
        |none=>none
      | some d=>match(match d with
          | .slice _=>some 0
          | .pointer _=>some 1
          | .map _ _=>some 2
          | .func _ _ _=>some 3
          |_=>none:Option Nat)with
        | some kd=>match op with
          | .eql=>some (.eqn kd false x y)
          | .neq=>some (.eqn kd true x y)
          |_=>none
        |none=>none
      |none=>none
    |_,_=>none
  | .unOp op _ x=>(opA x).map (.un op)
  | .convert src dst x=>match P.underlying src,P.underlying dst,opA x with
    |some (.int _),some (.int k),some x=>some (.cvi k x)
    |some .string,some .string,some x=>some (.cvs x)
    | some .string,some (.slice e),some x=>match P.underlying e with
      |some (.int .u8)=>some (.s2b x)
      |_=>none
    | some (.slice e),some .string,some x=>match P.underlying e with
      |some (.int .u8)=>some (.b2s x)
      |_=>none
    |_,_,_=>none
  | .makeFunc fn first cap=>match fn with
    | .func f=>match zat opA first.toList,zat opA cap.toList with
      |some a,some b=>some (.mkf f a b)
      |_,_=>none
    |_=>none
  | .makeMap _ r=>match r with
    |none=>some .mmk
    |_=>none
  | .makeSlice t l c=>match P.underlying t with
    | some (.slice e)=>match zaO P e,zgJ P e,zeroCells P e,opA l,opA c with
      |some es,some byt,some z,some l,some c=>if es≠0/\z.length=es then some (.mks es byt z l c)else none
      |_,_,_,_,_=>none
    |_=>none
  | .slice t x lo hi mx=>match opA x,zdp opA lo,zdp opA hi,zdp opA mx with
    | some x,some lo,some hi,some mx=>match P.underlying t with
      |some .string=>if mx.isNone then some (.sls x lo hi)else none
      | some (.slice e)=>match zaO P e with
        |some es=>if es=0\/(mx.isSome/\hi.isNone)then none else some (.slc es x lo hi mx)
        |none=>none
      |_=>none
    |_,_,_,_=>none
  | .fieldAddr s x f=>match P.underlying s with
    | some (.struct fs)=>match fs[f]? with
      | some fl=>match zaO P fl.type,opA x with
        |some n,some x=>if n=0 then none else some (.fa fl.offset x)
        |_,_=>none
      |none=>none
    |_=>none
  | .field t x f=>match P.underlying t with
    | some (.struct fs)=>match fs[f]? with
      | some fl=>match ze2 P fl.type,zaO P fl.type,opA x with
        |some g,some n,some x=>some (.fld g fl.offset n x)
        |_,_,_=>none
      |none=>none
    |_=>none
  | .indexAddr t x i=>match opA x,opA i with
    | some x,some i=>match P.underlying t with
      | some (.slice e)=>match zaO P e with
        |some es=>if es=0 then none else some (.ia es x i)
        |none=>none
      | some (.array m e)=>match zaO P e with
        |some es=>if es=0 then none else some (.iaa es m x i)
        |none=>none
      |_=>none
    |_,_=>none
  | .index t x i=>match opA x,opA i with
    | some x,some i=>match P.underlying t with
      |some .string=>some (.ixs x i)
      | some (.array m e)=>match ze2 P e,zaO P e with
        |some g,some es=>some (.ixa g es m x i)
        |_,_=>none
      |_=>none
    |_,_=>none
  | .lookup t m k ok=>match P.underlying t with
    | some (.map kt e)=>match zrn P e,opA m,opA k,ziw P kt with
      |some z,some m,some k,some kd=>some (.mlk kd z ok m k)
      |_,_,_,_=>none
    |_=>none
  | .mapUpdate t m k v| .insert t m k v=>match P.underlying t with
    | some (.map kt _)=>match opA m,opA k,opA v,ziw P kt with
      |some m,some k,some v,some kd=>some (.mup kd m k v)
      |_,_,_,_=>none
    |_=>none
  | .extract x i=>(opA x).map (.ext · i)
  | .call c=>match zat opA c.args.toList with
    | some args=>match c.callee with
      | .value (.func f)=>some (if pur f then .callp f args else .call f args)
      | .value x=>(opA x).map (.callv · args)
      | .builtin b=>ziQ P b c.args.toList c.argTypes.toList
      |_=>none
    |none=>none
  |_=>none
def zkT(ops:Array Oper)(o:Oper):Option (Option (Nat×Bool)):=
 match o.guard with
 |none=>some none
 |some (j,w)=>(zC0 ops j).map fun s=>some (s,w)
def bad:O A:= .pick (.k .un) (.k .un) (.k .un)
def zbS(P:Program)(pur:Nat->Bool)(nt:Nat)(ops:Array Oper)(o:Oper):Option Op:=
 match zkT ops o with
 |none=>none
 |some gd=>
  let fits:=match o.dst with
   |some d=>Nat.blt d nt
   |none=>true
  if fits then some {dst:=o.dst,gd,o:=(zfi P pur (zpi ops o) o).getD bad} else none
def isNew:Go.Op->Bool
 | .alloc _| .box .. | .buildSlice .. | .makeSlice .. | .makeMap .. =>true
 | .convert .. =>true
 | .call {callee:= .builtin .append,.. }=>true
 |_=>false
def zrQ(ops:Array Oper)(bf:Array Nat):Nat->Nat->List Nat->List Nat
 |0,_,acc=>acc.reverse
 |k+1,done,acc=>
  let rs:=(List.range ops.size).filter fun i=>!done.testBit i&&(bf.getD i 0)&&& done==bf.getD i 0
  match rs.find? (fun i=>!((ops[i]?).map (isNew ·.op)).getD false)with
  |some i=>zrQ ops bf k (done|||2 ^ i) (i::acc)
  |none=>match rs with
   |i::_=>zrQ ops bf k (done|||2 ^ i) (i::acc)
   |[]=>acc.reverse
def zfm(bf:Array Nat)(i:Nat):List Nat->Nat->Nat
 |[],_=>0
 |j::l,p=>(if(bf.getD i 0).testBit j then 0 else 2 ^ p)+zfm bf i l (p+1)
def Op.slots(o:Op):List Nat:=
 o.o.slots++(match o.gd with
  |some (s,_)=>[s]
  |none=>[])
def zgE(x y:Op):Bool:=
  (match x.dst with
   |some d=>!y.slots.contains d&&y.dst != some d
   |none=>true)&&
  (match y.dst with
   |some d=>!x.slots.contains d
   |none=>true)
def zjP(y:Op)(mask:Nat):List Op->Nat->Bool
 |[],_=>true
 |x::l,i=>(!mask.testBit i||zgE x y)&&zjP y mask l (i+1)
def zhD:List (Op×Nat)->List Op->Bool
 |[],_=>true
 |(o,mask)::l,before=>zjP o mask before 0&&zhD l (before++[o])
def zdw(P:Program)(pur:Nat->Bool)(nt:Nat)(ops:Array Oper):List Nat->List Nat->Option (List (Op×Nat))
 |[],_=>some []
 |i::l,before=>match ops[i]? with
  |none=>none
  |some o=>match zbS P pur nt ops o,zdw P pur nt ops l (before++[i])with
   |some c,some m=>some ((c,zfm (Region.before ops) i before 0)::m)
   |_,_=>none
def zeO(ops:Array Oper):Bool:=
 (List.range ops.size).all fun i=>match ops[i]? with
  |some o=>o.after.all fun e=>!Region.binds .any e||e.on<i
  |none=>true
def zlX:List Nat->Bool
 |[]=>true
 |x::l=>!l.contains x&&zlX l
def znD(o:Op):Bool:=match o with
 |⟨some _,none,.new _⟩ =>true
 |_=>false
def zuN(o:Op):Bool:=match o.o with
 | .call .. =>true
 | .callv .. =>true
 |_=>false
def zgt{α:Type}(q:α->Bool):List α->Nat->Nat
 |[],_=>0
 |j::l,p=>(if q j then 0 else 2 ^ p)+zgt q l (p+1)
def lsQ(bf:Array Nat)(i:Nat)(o:Op):Bool:=znD o&&Nat.beq (bf.getD i 0) 0
def zqI(bf:Array Nat)(i:Nat)(o:Op)(x:Nat×Op):Bool:=(bf.getD i 0).testBit x.1||(lsQ bf i o&&zuN x.2)
def zmt(bf:Array Nat):List Nat->List (Op×Nat)->List (Nat×Op)->List (Op×Nat)
 |i::ord,(o,_)::l,bs=>(o,zgt (zqI bf i o) bs 0)::zmt bf ord l (bs++[(i,o)])
 |_,_,_=>[]
def ztA(bf:Array Nat)(z:Nat×Op):List (Nat×Op)->Bool
 |[]=>true
 |y::l=>(!(lsQ bf y.1 y.2&&zuN z.2)||l.all fun x=>!(bf.getD x.1 0).testBit y.1||(bf.getD x.1 0).testBit z.1)&&ztA bf z l
def zv3(bf:Array Nat):List (Nat×Op)->Bool
 |[]=>true
 |z::l=>ztA bf z l&&zv3 bf l
def zdi(P:Program)(pur:Nat->Bool)(nt:Nat):Code->Option C
  | .skip=>some .skip
  | .region _ ops false=>(zat (zbS P pur nt ops) ops.toList).map .reg
  | .region _ ops true=>
    let ord:=zrQ ops (Region.before ops) ops.size 0 []
    if P.follows .mixedOrders&&zeO ops&&zlX ord&&ord.length==ops.size&&ord.all (· <ops.size)then
      match zdw P pur nt ops ord []with
      |some l=>if zhD l []then some (.dreg (if zv3 (Region.before ops) (ord.zip (l.map (·.1)))then zmt (Region.before ops) ord l []else l))else none
      |none=>none
    else none
  | .seq a b=>match zdi P pur nt a,zdi P pur nt b with
    |some x,some y=>some (.seq x y)
    |_,_=>none
  | .cond x a b=>match opA x,zdi P pur nt a,zdi P pur nt b with
    |some x,some a,some b=>some (.cond x a b)
    |_,_,_=>none
  | .block id c=>(zdi P pur nt c).map (.blk id)
  | .loop c=>(zdi P pur nt c).map .loop
  | .exit id=>some (.exit id)
  | .ret=>some .ret
  |_=>none
def zio(P:Program):ResultVar->Option Rv
 | .tmp t=>some (.t t)
 | .cell a t=>match ze2 P t,zaO P t with
  |some g,some n=>some (.cell a g n)
  |_,_=>none
def zhZ(P:Program)(pur:Nat->Bool)(fn:Func):Option Fn:=
 match fn.body with
 |none=>none
 |some c=>match zdi P pur fn.ntmps c,zat (zio P) fn.results.toList with
  |some c,some r=>some {nt:=fn.ntmps,res:=r,body:=c}
  |_,_=>none
end Go.Vse
end
section
namespace Go.Vse
open Go.RowKit
def zjs{a b:Nat}(h:a≠b):Nat.beq a b=false:=by
 cases h':Nat.beq a b with
 |false=>rfl
 |true=>exact absurd (Z88 h') h
theorem T.ztd{α:Type}(l:T α)(o:Option α)(r:T α)(i:Nat):
  (T.n l o r).get i=if i=0 then o else if i%2=1 then l.get (i/2)else r.get (i/2 - 1):=by
 have e:(T.n l o r).get i=(bif Nat.beq i 0 then o else bif Nat.beq (i%2) 1 then l.get (i/2)else r.get (i/2 - 1)):=rfl;rw[e]
 by_cases h0:i=0
 .subst h0;simp
 .by_cases h1:i%2=1
  .simp[zjs h0,h0,h1]
  .simp[zjs h0,h0,zjs h1,h1]
theorem T.zQP{α:Type}(v:Option α)(k i:Nat):T.zfr v (k+1) .e i=
  if i=0 then .n .e v .e else if i%2=1 then .n (zfr v k .e (i/2)) none .e else .n .e none (zfr v k .e (i/2 - 1)):=by
 rw[T.zfr]
 by_cases h0:i=0
 .subst h0;simp
 .by_cases h1:i%2=1
  .simp[zjs h0,h0,h1]
  .simp[zjs h0,h0,zjs h1,h1]
theorem T.zQS{α:Type}(v:Option α)(k i:Nat)(l:T α)(o:Option α)(r:T α):T.zfr v (k+1) (.n l o r) i=
  if i=0 then .n l v r else if i%2=1 then .n (zfr v k l (i/2)) o r else .n l o (zfr v k r (i/2 - 1)):=by
 rw[T.zfr]
 by_cases h0:i=0
 .subst h0;simp
 .by_cases h1:i%2=1
  .simp[zjs h0,h0,h1]
  .simp[zjs h0,h0,zjs h1,h1]
def T.zpq{α:Type}(v:Option α):∀(k:Nat) (t:T α) (i j:Nat),i<k->(T.zfr v k t i).get j=if j=i then v else t.get j:=by
 intro k
 induction k with
 |zero=>intro t i j h;omega
 |succ k ih=>
  intro t i j h;have key:∀(l:T α) (o:Option α) (r:T α),(if i=0 then T.n l v r else if i%2=1 then .n (zfr v k l (i/2)) o r else .n l o (zfr v k r (i/2 - 1))).get j=
    if j=i then v else(T.n l o r).get j:=by
   intro l o r
   by_cases h0:i=0
   .subst h0;simp only[Z60,T.ztd]
    by_cases hj:j=0<;>simp[hj]
   .by_cases h1:i%2=1
    .simp only[h0,h1,Z63,Z60,T.ztd]
     by_cases hj:j=0
     .have:¬j=i:=by omega
      simp[hj];omega
     .by_cases hj1:j%2=1
      .have:j/2=i/2↔j=i:=by omega
       simp only[hj,hj1,Z63,Z60,ih _ _ _ (show i/2<k by omega),this]
      .have:¬j=i:=by omega
       simp[hj,hj1,this]
    .simp only[h0,h1,Z63,T.ztd]
     by_cases hj:j=0
     .have:¬j=i:=by omega
      simp[hj];omega
     .by_cases hj1:j%2=1
      .have:¬j=i:=by omega
       simp[hj,hj1,this]
      .have:j/2 - 1=i/2 - 1↔j=i:=by omega
       simp only[hj,hj1,Z63,ih _ _ _ (show i/2 - 1<k by omega),this]
  cases t with
  |e=>
   rw[T.zQP];have:=key .e none .e;rw[this,T.ztd];simp[T.get]
  |n l o r=>rw[T.zQS];exact key l o r
def T.zab{α:Type}(t:T α)(i j:Nat)(v:α):(t.set i v).get j=if j=i then some v else t.get j:=
 T.zpq _ _ _ _ _ (by omega)
def T.zbB{α:Type}(t:T α)(i j:Nat):(t.del i).get j=if j=i then none else t.get j:=
 T.zpq _ _ _ _ _ (by omega)
def T.zAn{α:Type}(i:Nat):(T.e:T α).get i=none:=rfl
def zbn(H:Array Obj)(b o:Nat):Option Value:=
 match H[b]? with
 |some (.cells c _ _)=>c[o]?
 |_=>none
def zcZ(H:Array Obj)(b:Nat):Option (TypeId×Nat):=
 match H[b]? with
 |some (.cells c e _)=>some (e,c.size)
 |_=>none
def zlM(w:World)(b o:Nat):w.cell? ⟨b,o,none⟩ =zbn w.heap b o:=by
 unfold World.cell? zbn;cases w.heap[b]? with
 |none=>rfl
 |some x=>cases x<;>simp
abbrev Mu:=Nat->Nat->Prop
mutual
def zaj(H:Array Obj)(μ:Mu):F->Value->Prop
 | .b x,v=>v= .bool x
 | .i k n,v=>v= .int k n
 | .s l,v=>v= .string ⟨⟨l⟩⟩
 | .nils,v=>v= .slice none 0 0
 | .nilp,v=>v= .pointer none
 | .nilm,v=>v= .map none
 | .nilf,v=>v= .nilFunc
 | .nili,v=>v= .nilIface
 | .un,v=>v= .tuple ⟨[]⟩
 | .ag cs,v=>∃vs,v= .agg ⟨vs⟩/\(∀u∈vs,u.oneCell'=true)/\zaM H μ cs vs
 | .tu cs,v=>∃vs,v= .tuple ⟨vs⟩/\zaM H μ cs vs
 | .sl es els,v=>∃a cap,v= .slice (some a) els.length cap/\els.length<=cap/\∃b o,(els≠[]->a=⟨b,o,none⟩)/\zb7 H μ b es o els
 | .fn f,v=>v= .func (.func f) ⟨[]⟩ ⟨[]⟩
def zaM(H:Array Obj)(μ:Mu):List F->List Value->Prop
 |[],vs=>vs=[]
 |x::l,vs=>∃v m,vs=v::m/\zaj H μ x v/\zaM H μ l m
def za1(H:Array Obj)(μ:Mu)(b:Nat):Nat->List F->Prop
 |_,[]=>True
 |o,x::l=>(¬μ b o/\∃v,zbn H b o=some v/\v.oneCell'=true/\zaj H μ x v)/\za1 H μ b (o+1) l
def zb7(H:Array Obj)(μ:Mu)(b es:Nat):Nat->List (List F)->Prop
 |_,[]=>True
 |o,el::l=>el.length=es/\za1 H μ b o el/\zb7 H μ b es (o+es) l
end
mutual
def Rel(H:Array Obj)(μ:Mu)(ρ:Nat->Option Nat)(c:Nat->Prop):D->Value->Prop
 | .f x,v=>zaj H μ x v
 | .ag cs,v=>∃vs,v= .agg ⟨vs⟩/\(∀u∈vs,u.oneCell'=true)/\zaq H μ ρ c cs vs
 | .tu cs,v=>∃vs,v= .tuple ⟨vs⟩/\zaq H μ ρ c cs vs
 | .sl id off len es lim ex,v=>c id/\∃a cap,v= .slice (some a) len cap/\len<=cap/\lim<=off+cap/\(ex=true->lim=off+cap)/\
   ∀b,ρ id=some b->(cap≠0->a=⟨b,off*es,none⟩)/\∃e n,zcZ H b=some (e,n)/\(off+cap)*es<=n
 | .ptr id es i j,v=>c id/\∃a,v= .pointer (some a)/\∀b,ρ id=some b->a=⟨b,i*es+j,none⟩
 | .fptr cs,v=>∃b o,v= .pointer (some ⟨b,o,none⟩)/\za1 H μ b o cs
 | .mp id,v=>c id/\∃r,v= .map (some r)/\∀b,ρ id=some b->r=b
 | .fn f first cap,v=>∃vs us,v= .func (.func f) ⟨vs⟩ ⟨us⟩/\zaq H μ ρ c first vs/\zaq H μ ρ c cap us
def zaq(H:Array Obj)(μ:Mu)(ρ:Nat->Option Nat)(c:Nat->Prop):List D->List Value->Prop
 |[],vs=>vs=[]
 |x::l,vs=>∃v m,vs=v::m/\Rel H μ ρ c x v/\zaq H μ ρ c l m
end
def zpU(H:Array Obj)(μ:Mu)(H':Array Obj)(μ':Mu):Prop:=
 ∀b o v,¬μ b o->zbn H b o=some v->zbn H' b o=some v/\¬μ' b o
mutual
theorem zaj.keep{H H':Array Obj}{μ μ':Mu}(hk:zpU H μ H' μ'):∀(x:F) (v:Value),zaj H μ x v->zaj H' μ' x v
 | .b _,_,h| .i _ _,_,h| .s _,_,h| .nils,_,h| .nilp,_,h| .nilm,_,h| .nilf,_,h| .nili,_,h| .un,_,h| .fn _,_,h=>by
  simp only[zaj]at h|-;exact h
 | .ag cs,v,h=>by
  simp only[zaj]at h|-;obtain⟨vs,e,h1,h⟩ :=h;exact⟨vs,e,h1,zaM.keep hk cs vs h⟩
 | .tu cs,v,h=>by
  simp only[zaj]at h|-;obtain⟨vs,e,h⟩ :=h;exact⟨vs,e,zaM.keep hk cs vs h⟩
 | .sl es els,v,h=>by
  simp only[zaj]at h|-;obtain⟨a,cap,e,hc,b,o,ha,h⟩ :=h;exact⟨a,cap,e,hc,b,o,ha,zb7.keep hk b es els o h⟩
theorem zaM.keep{H H':Array Obj}{μ μ':Mu}(hk:zpU H μ H' μ'):∀(l:List F) (vs:List Value),zaM H μ l vs->zaM H' μ' l vs
 |[],_,h=>by simp only[zaM]at h|-;exact h
 |x::l,vs,h=>by
  simp only[zaM]at h|-;obtain⟨v,m,e,hx,hl⟩ :=h;exact⟨v,m,e,zaj.keep hk x v hx,zaM.keep hk l m hl⟩
theorem za1.keep{H H':Array Obj}{μ μ':Mu}(hk:zpU H μ H' μ')(b:Nat):∀(l:List F) (o:Nat),za1 H μ b o l->za1 H' μ' b o l
 |[],_,_=>by simp only[za1]
 |x::l,o,h=>by
  simp only[za1]at h|-;obtain⟨⟨hm,v,hv,h1,hx⟩,hl⟩ :=h;have:=hk b o v hm hv;exact⟨⟨this.2,v,this.1,h1,zaj.keep hk x v hx⟩,za1.keep hk b l (o+1) hl⟩
theorem zb7.keep{H H':Array Obj}{μ μ':Mu}(hk:zpU H μ H' μ')(b es:Nat):∀(l:List (List F)) (o:Nat),zb7 H μ b es o l->zb7 H' μ' b es o l
 |[],_,_=>by simp only[zb7]
 |x::l,o,h=>by
  simp only[zb7]at h|-;obtain⟨he,hx,hl⟩ :=h;exact⟨he,za1.keep hk b x o hx,zb7.keep hk b es l (o+es) hl⟩
end
structure Keep(H:Array Obj)(μ:Mu)(ρ:Nat->Option Nat)(c:Nat->Prop)(H':Array Obj)(μ':Mu)(ρ':Nat->Option Nat)(c':Nat->Prop):Prop where
 cell:zpU H μ H' μ'
 rho:∀id b,c id->ρ' id=some b->ρ id=some b
 shape:∀b s,zcZ H b=some s->zcZ H' b=some s
 le:∀id,c id->c' id
def Keep.refl(H:Array Obj)(μ:Mu)(ρ:Nat->Option Nat)(c:Nat->Prop):Keep H μ ρ c H μ ρ c:=
 ⟨fun _ _ _ h e=>⟨e,h⟩,fun _ _ _ h=>h,fun _ _ h=>h,fun _ h=>h⟩
theorem Keep.trans{H H' H'':Array Obj}{μ μ' μ'':Mu}{ρ ρ' ρ'':Nat->Option Nat}{c c' c'':Nat->Prop}
    (h:Keep H μ ρ c H' μ' ρ' c')(k:Keep H' μ' ρ' c' H'' μ'' ρ'' c''):Keep H μ ρ c H'' μ'' ρ'' c'':=
  ⟨fun b o v hm hv=>let ⟨h1,h2⟩ :=h.cell b o v hm hv;k.cell b o v h2 h1,
   fun id b hc hb=>h.rho id b hc (k.rho id b (h.le id hc) hb),
   fun b s hs=>k.shape b s (h.shape b s hs),fun id hc=>k.le id (h.le id hc)⟩
mutual
theorem Rel.keep{H H':Array Obj}{μ μ':Mu}{ρ ρ':Nat->Option Nat}{c c':Nat->Prop}(hk:Keep H μ ρ c H' μ' ρ' c'):
  ∀(d:D) (v:Value),Rel H μ ρ c d v->Rel H' μ' ρ' c' d v
 | .f x,v,h=>by simp only[Rel]at h|-;exact zaj.keep hk.cell x v h
 | .ag cs,v,h=>by
  simp only[Rel]at h|-;obtain⟨vs,e,h1,h⟩ :=h;exact⟨vs,e,h1,zaq.keep hk cs vs h⟩
 | .tu cs,v,h=>by
  simp only[Rel]at h|-;obtain⟨vs,e,h⟩ :=h;exact⟨vs,e,zaq.keep hk cs vs h⟩
 | .sl id off len es lim ex,v,h=>by
  simp only[Rel]at h|-;obtain⟨hc,a,cap,e,h1,h2,h3,h4⟩ :=h;refine⟨hk.le id hc,a,cap,e,h1,h2,h3,fun b hb=> ?_⟩;obtain⟨ha,e,n,hs,hn⟩ :=h4 b (hk.rho id b hc hb);exact⟨ha,e,n,hk.shape b _ hs,hn⟩
 | .ptr id es i j,v,h=>by
  simp only[Rel]at h|-;obtain⟨hc,a,e,h4⟩ :=h;exact⟨hk.le id hc,a,e,fun b hb=>h4 b (hk.rho id b hc hb)⟩
 | .fptr cs,v,h=>by
  simp only[Rel]at h|-;obtain⟨b,o,e,h⟩ :=h;exact⟨b,o,e,za1.keep hk.cell b cs o h⟩
 | .mp id,v,h=>by
  simp only[Rel]at h|-;obtain⟨hc,r,e,h4⟩ :=h;exact⟨hk.le id hc,r,e,fun b hb=>h4 b (hk.rho id b hc hb)⟩
 | .fn f first cap,v,h=>by
  simp only[Rel]at h|-;obtain⟨vs,us,e,h1,h2⟩ :=h;exact⟨vs,us,e,zaq.keep hk first vs h1,zaq.keep hk cap us h2⟩
theorem zaq.keep{H H':Array Obj}{μ μ':Mu}{ρ ρ':Nat->Option Nat}{c c':Nat->Prop}(hk:Keep H μ ρ c H' μ' ρ' c'):
  ∀(l:List D) (vs:List Value),zaq H μ ρ c l vs->zaq H' μ' ρ' c' l vs
 |[],_,h=>by simp only[zaq]at h|-;exact h
 |x::l,vs,h=>by
  simp only[zaq]at h|-;obtain⟨v,m,e,hx,hl⟩ :=h;exact⟨v,m,e,Rel.keep hk x v hx,zaq.keep hk l m hl⟩
end
abbrev Hp:=Nat->Option Ob
def Ob.mut:Ob->Nat->Prop
 | .arr es ro _,i=>ro*es<=i
 | .map _,_=>True
def Own(h:Hp)(ρ:Nat->Option Nat):Mu:=fun b i=>∃id ob,h id=some ob/\ρ id=some b/\ob.mut i
def zal(amb:Mu)(h:Hp)(ρ:Nat->Option Nat):Mu:=fun b i=>amb b i\/Own h ρ b i
def za4(H:Array Obj)(μ:Mu)(ρ:Nat->Option Nat)(c:Nat->Prop):List (F×D)->List MapEntry->Prop
 |[],es=>es=[]
 |(k,d)::l,es=>∃e m,es=e::m/\zaj H μ k e.key/\Rel H μ ρ c d e.val/\za4 H μ ρ c l m
def zgX(fr:Nat×Nat)(size:Nat)(els:List (List D)):Prop:=(∀i,i<size->¬(fr.1<=i/\i<fr.2))/\(fr.1<=size/\size<fr.2->hd8 els=true)
def zEy(els new:List (List D)):ze5 els (els++new)=true:=by
 cases els with
 |nil=>rfl
 |cons e els=>
  unfold ze5 hd8;rw[Z29];split<;>simp_all
def zgX.zero(size:Nat)(els:List (List D)):zgX (0,0) size els:=⟨fun _ _ h=>absurd h.2 (Nat.not_lt_zero _),fun h=>absurd h.2 (Nat.not_lt_zero _)⟩
def zgX.mono{fr:Nat×Nat}{size:Nat}{els els':List (List D)}(h:zgX fr size els)(hh:ze5 els els'=true):zgX fr size els':=
 ⟨h.1,fun hx=>by
  have:=h.2 hx;unfold ze5 at hh;rw[this]at hh;simpa using hh⟩
def zfy(es:List MapEntry)(clock:Nat):Prop:=(es.map (·.born)).Nodup/\∀e∈es,e.born<clock
def zeK(H:Array Obj)(μ:Mu)(ρ:Nat->Option Nat)(c:Nat->Prop)(b:Nat):Ob->Prop
 | .arr es _ els=>∃cs elem fr,H[b]? =some (.cells cs elem fr)/\zgX fr cs.size els/\els.length*es<=cs.size/\
   (∀el∈els,el.length=es)/\∀(i:Nat) el,els[i]? =some el->∀(j:Nat) d,el[j]? =some d->∃v,cs[i*es+j]? =some v/\v.oneCell'=true/\Rel H μ ρ c d v
 | .map ents=>∃es clock,H[b]? =some (.map es clock)/\za4 H μ ρ c ents es.toList/\zfy es.toList clock
variable [Globs]
structure Sim(am:Mu)(H:Array Obj)(h:Hp)(ρ:Nat->Option Nat)(c:Nat->Prop):Prop where
 obj:∀id ob,h id=some ob->∃b,ρ id=some b/\zeK H (zal am h ρ) ρ c b ob
 dom:∀id b,ρ id=some b->b<H.size/\∃ob,h id=some ob
 inj:∀id id' b,ρ id=some b->ρ id'=some b->id=id'
 out:∀id b i,ρ id=some b->¬am b i
 lt:∀id ob,h id=some ob->c id
 amb:∀b i,am b i->b<H.size
 glob:∀n cs,Globs.data n=some cs->za1 H (zal am h ρ) n 0 cs
structure Evo(amb:Mu)(W:Nat->Prop)(H:Array Obj)(h:Hp)(ρ:Nat->Option Nat)(c:Nat->Prop)(H':Array Obj)(h':Hp)(ρ':Nat->Option Nat)(c':Nat->Prop):Prop where
 keep:Keep H (zal amb h ρ) ρ c H' (zal amb h' ρ') ρ' c'
 size:H.size<=H'.size
 blk:∀b,b<H.size->(∀id,ρ id≠some b)->H'[b]? =H[b]? /\∀id,ρ' id≠some b
 low:∀id,¬W id->c id->h' id=h id/\ρ' id=ρ id/\∀b,ρ id=some b->H'[b]? =H[b]?
 dead:∀id,c id->h id=none->h' id=none
def Evo.refl(amb:Mu)(W:Nat->Prop)(H:Array Obj)(h:Hp)(ρ:Nat->Option Nat)(c:Nat->Prop):Evo amb W H h ρ c H h ρ c:=
 ⟨Keep.refl _ _ _ _,Z2 _,fun _ _ hb=>⟨rfl,hb⟩,fun _ _ _=>⟨rfl,rfl,fun _ _=>rfl⟩,fun _ _ h=>h⟩
theorem Evo.mono{amb:Mu}{W W':Nat->Prop}{H H':Array Obj}{h h':Hp}{ρ ρ':Nat->Option Nat}{c c':Nat->Prop}
  (x:Evo amb W H h ρ c H' h' ρ' c')(hw:∀id,c id->W id->W' id):Evo amb W' H h ρ c H' h' ρ' c':=
 ⟨x.keep,x.size,x.blk,fun id hn hc=>x.low id (fun k=>hn (hw id hc k)) hc,x.dead⟩
theorem Evo.trans{amb:Mu}{W:Nat->Prop}{H H' H'':Array Obj}{h h' h'':Hp}{ρ ρ' ρ'':Nat->Option Nat}{c c' c'':Nat->Prop}
    (x:Evo amb W H h ρ c H' h' ρ' c')(y:Evo amb W H' h' ρ' c' H'' h'' ρ'' c''):Evo amb W H h ρ c H'' h'' ρ'' c'':=
  ⟨x.keep.trans y.keep,Z3 x.size y.size,fun b hb hn=>
    let ⟨h1,h2⟩ :=x.blk b hb hn
    let ⟨h3,h4⟩ :=y.blk b (Z15 hb x.size) h2
    ⟨h3.trans h1,h4⟩,
   fun id hn hc=>by
    obtain⟨a1,a2,a3⟩ :=x.low id hn hc;obtain⟨b1,b2,b3⟩ :=y.low id hn (x.keep.le id hc);exact⟨b1.trans a1,b2.trans a2,fun b hb=>(b3 b (a2.trans hb)).trans (a3 b hb)⟩,
   fun id hc hd=>y.dead id (x.keep.le id hc) (x.dead id hc hd)⟩
def upd{α:Type}(f:Nat->Option α)(i:Nat)(v:Option α):Nat->Option α:=fun j=>if j=i then v else f j
@[simp] theorem upd_same{α:Type}(f:Nat->Option α)(i:Nat)(v:Option α):upd f i v i=v:=by simp[upd]
def upd_ne{α:Type}(f:Nat->Option α)(i:Nat)(v:Option α){j:Nat}(h:j≠i):upd f i v j=f j:=by simp[upd,h]
def zyS{H:Array Obj}{o:Obj}{b i:Nat}{v:Value}(h:zbn H b i=some v):zbn (H.push o) b i=some v:=by
 unfold zbn at h|-;have hb:b<H.size:=by
  rcases Z145 b H.size with h'|h'
  .exact h'
  .simp[Z119 h']at h
 rw[Z117,Z49 (by omega)];exact h
def zwy{H:Array Obj}{o:Obj}{b:Nat}{s:TypeId×Nat}(h:zcZ H b=some s):zcZ (H.push o) b=some s:=by
 unfold zcZ at h|-;have hb:b<H.size:=by
  rcases Z145 b H.size with h'|h'
  .exact h'
  .simp[Z119 h']at h
 rw[Z117,Z49 (by omega)];exact h
def zuq{H:Array Obj}{b i:Nat}{v:Value}(h:zbn H b i=some v):b<H.size:=by
 unfold zbn at h;rcases Z145 b H.size with h'|h'
 .exact h'
 .simp[Z119 h']at h
theorem za4.keep{H H':Array Obj}{μ μ':Mu}{ρ ρ':Nat->Option Nat}{c c':Nat->Prop}(hk:Keep H μ ρ c H' μ' ρ' c'):
  ∀(l:List (F×D)) (es:List MapEntry),za4 H μ ρ c l es->za4 H' μ' ρ' c' l es
 |[],_,h=>h
 |(k,d)::l,es,h=>by
  obtain⟨e,m,he,h1,h2,h3⟩ :=h;exact⟨e,m,he,zaj.keep hk.cell k _ h1,Rel.keep hk d _ h2,za4.keep hk l m h3⟩
theorem zeK.keep{H H':Array Obj}{μ μ':Mu}{ρ ρ':Nat->Option Nat}{c c':Nat->Prop}{b:Nat}(hk:Keep H μ ρ c H' μ' ρ' c')(hb:H'[b]? =H[b]?){ob:Ob}
  (h:zeK H μ ρ c b ob):zeK H' μ' ρ' c' b ob:=by
 cases ob with
 |arr es ro els=>
  obtain⟨cs,elem,fr,h1,h2,h3,h4,h5⟩ :=h;refine⟨cs,elem,fr,hb.trans h1,h2,h3,h4,fun i el hi j d hj=> ?_⟩;obtain⟨v,hv,h1,hr⟩ :=h5 i el hi j d hj;exact⟨v,hv,h1,Rel.keep hk d v hr⟩
 |map ents=>
  obtain⟨es,clock,h1,h2⟩ :=h;exact⟨es,clock,hb.trans h1,za4.keep hk ents _ h2.1,h2.2⟩
theorem Sim.alloc{amb:Mu}{H:Array Obj}{h:Hp}{ρ:Nat->Option Nat}{c:Nat->Prop}(s:Sim amb H h ρ c){n:Nat}(hn:¬c n)(o:Obj)(ob:Ob)(W:Nat->Prop)
  (hob:∀H' μ' ρ' c',Keep H (zal amb h ρ) ρ c H' μ' ρ' c'->H'[H.size]? =some o->zeK H' μ' ρ' c' H.size ob):
  Sim amb (H.push o) (upd h n (some ob)) (upd ρ n (some H.size)) (fun id=>c id\/id=n)/\
  Evo amb W H h ρ c (H.push o) (upd h n (some ob)) (upd ρ n (some H.size)) (fun id=>c id\/id=n):=by
 have hnone:h n=none:=by
  cases hc:h n with
  |none=>rfl
  |some x=>exact absurd (s.lt n x hc) hn
 have hne:∀id,c id->id≠n:=fun id hid e=>hn (e▸hid)
 have hkeep:Keep H (zal amb h ρ) ρ c (H.push o) (zal amb (upd h n (some ob)) (upd ρ n (some H.size))) (upd ρ n (some H.size)) (fun id=>c id\/id=n):=by
  refine⟨fun b i v hm hv=>⟨zyS hv,?_⟩,fun id b hid hb=> ?_,fun b s hs=>zwy hs,fun _ h=> .inl h⟩
  .rintro (hx|⟨id,ob',ho,hr,hq⟩)
   .exact hm (.inl hx)
   .by_cases hid:id=n
    .subst hid;simp at hr;have:=zuq hv;omega
    .rw[upd_ne _ _ _ hid]at ho hr;exact hm (.inr ⟨id,ob',ho,hr,hq⟩)
  .rw[upd_ne _ _ _ (hne id hid)]at hb;exact hb
 refine⟨⟨fun id ob' ho=> ?_,fun id b hr=> ?_,fun id id' b hr hr'=> ?_,fun id b i hr=> ?_,fun id ob' ho=> ?_,fun b i hb=> ?_,fun n cs hg=>za1.keep hkeep.cell _ _ _ (s.glob n cs hg)⟩,
  ⟨hkeep,by simp,fun b hb hnb=>⟨by rw[Z117,Z49 (by omega)],fun id hid=> ?_⟩,fun id _ hid=> ?_,fun id hid hd=>by rw[upd_ne _ _ _ (hne id hid)];exact hd⟩⟩
 .by_cases hid:id=n
  .subst hid;simp at ho;subst ho;exact⟨H.size,by simp,hob _ _ _ _ hkeep (by simp)⟩
  .rw[upd_ne _ _ _ hid]at ho;obtain⟨b,hb,hr⟩ :=s.obj id ob' ho;refine⟨b,by rw[upd_ne _ _ _ hid];exact hb,hr.keep hkeep ?_⟩;have:=(s.dom id b hb).1;rw[Z117,Z49 (by omega)]
 .by_cases hid:id=n
  .subst hid;simp at hr;exact⟨by simp;omega,ob,by simp⟩
  .rw[upd_ne _ _ _ hid]at hr;obtain⟨h1,ob',h2⟩ :=s.dom id b hr;exact⟨by simp;omega,ob',by rw[upd_ne _ _ _ hid];exact h2⟩
 .by_cases hid:id=n<;>by_cases hid':id'=n
  .rw[hid,hid']
  .subst hid;rw[upd_ne _ _ _ hid']at hr';simp at hr;have:=(s.dom id' b hr').1;omega
  .subst hid';rw[upd_ne _ _ _ hid]at hr;simp at hr';have:=(s.dom id b hr).1;omega
  .rw[upd_ne _ _ _ hid]at hr;rw[upd_ne _ _ _ hid']at hr';exact s.inj id id' b hr hr'
 .by_cases hid:id=n
  .subst hid;simp at hr;intro ha;have:=s.amb b i ha;omega
  .rw[upd_ne _ _ _ hid]at hr;exact s.out id b i hr
 .by_cases hid:id=n
  .exact .inr hid
  .rw[upd_ne _ _ _ hid]at ho;exact .inl (s.lt id ob' ho)
 .have:=s.amb b i hb;simp;omega
 .by_cases h':id=n
  .subst h';simp at hid;omega
  .rw[upd_ne _ _ _ h']at hid;exact hnb id hid
 .have hne:=hne id hid;refine⟨upd_ne _ _ _ hne,upd_ne _ _ _ hne,fun b hb=> ?_⟩;have:=(s.dom id b hb).1;rw[Z117,Z49 (by omega)]
theorem Sim.update{amb:Mu}{H:Array Obj}{h:Hp}{ρ:Nat->Option Nat}{c:Nat->Prop}(s:Sim amb H h ρ c){id b:Nat}{ob ob':Ob}{H':Array Obj}
  (W:Nat->Prop)(hW:W id)(ho:h id=some ob)(hb:ρ id=some b)(hsz:H'.size=H.size)(hoth:∀b',b'≠b->H'[b']? =H[b']?)
  (hro:∀i,ob'.mut i->ob.mut i)
  (hcell:∀i v,¬ob.mut i->zbn H b i=some v->zbn H' b i=some v)
  (hshape:∀x,zcZ H b=some x->zcZ H' b=some x)
  (hob:∀μ' ρ' c',Keep H (zal amb h ρ) ρ c H' μ' ρ' c'->zeK H' μ' ρ' c' b ob'):
  Sim amb H' (upd h id (some ob')) ρ c/\Evo amb W H h ρ c H' (upd h id (some ob')) ρ c:=by
 have own:∀b' i,Own (upd h id (some ob')) ρ b' i->Own h ρ b' i:=by
  rintro b' i ⟨id',ob'',h1,h2,h3⟩
  by_cases hid:id'=id
  .subst hid;simp at h1;subst h1;exact⟨id',ob,ho,h2,hro i h3⟩
  .rw[upd_ne _ _ _ hid]at h1;exact⟨id',ob'',h1,h2,h3⟩
 have hc':∀b' i v,¬zal amb h ρ b' i->zbn H b' i=some v->zbn H' b' i=some v:=by
  intro b' i v hm hv
  by_cases hbb:b'=b
  .subst hbb;exact hcell i v (fun hq=>hm (.inr ⟨id,ob,ho,hb,hq⟩)) hv
  .unfold zbn at hv|-;rw[hoth b' hbb];exact hv
 have hkeep:Keep H (zal amb h ρ) ρ c H' (zal amb (upd h id (some ob')) ρ) ρ c:=by
  refine⟨fun b' i v hm hv=>⟨hc' b' i v hm hv,?_⟩,fun _ _ _ hx=>hx,fun b' x hx=> ?_,fun _ h=>h⟩
  .rintro (hx|hx)
   .exact hm (.inl hx)
   .exact hm (.inr (own b' i hx))
  .by_cases hbb:b'=b
   .subst hbb;exact hshape x hx
   .unfold zcZ at hx|-;rw[hoth b' hbb];exact hx
 refine⟨⟨fun id' ob'' ho'=> ?_,fun id' b' hr=> ?_,s.inj,s.out,fun id' ob'' ho'=> ?_,fun b' i hx=>by rw[hsz];exact s.amb b' i hx,fun n cs hg=>za1.keep hkeep.cell _ _ _ (s.glob n cs hg)⟩,
  ⟨hkeep,by rw[hsz];exact Z2 _,fun b' _ hn=>⟨hoth b' (fun e=>hn id (e▸hb)),hn⟩,fun id' hn _=> ?_,fun id' _ hd=>by rw[upd_ne _ _ _ (fun e=>by rw[e,ho]at hd;cases hd)];exact hd⟩⟩
 .by_cases hid:id'=id
  .subst hid;simp at ho';subst ho';exact⟨b,hb,hob _ _ _ hkeep⟩
  .rw[upd_ne _ _ _ hid]at ho';obtain⟨b',hb',hr⟩ :=s.obj id' ob'' ho';refine⟨b',hb',hr.keep hkeep (hoth b' fun e=>hid (s.inj id' id b' hb' (e▸hb)))⟩
 .obtain⟨h1,ob'',h2⟩ :=s.dom id' b' hr;refine⟨by rw[hsz];exact h1,?_⟩
  by_cases hid:id'=id
  .subst hid;exact⟨ob',by simp⟩
  .exact⟨ob'',by rw[upd_ne _ _ _ hid];exact h2⟩
 .by_cases hid:id'=id
  .subst hid;exact s.lt id' ob ho
  .rw[upd_ne _ _ _ hid]at ho';exact s.lt id' ob'' ho'
 .have hid:id'≠id:=fun e=>hn (e▸hW)
  exact⟨upd_ne _ _ _ hid,rfl,fun b' hb'=>hoth b' fun e=>hid (s.inj id' id b' hb' (e▸hb))⟩
theorem Sim.rename{amb:Mu}{H:Array Obj}{h:Hp}{ρ:Nat->Option Nat}{c:Nat->Prop}(s:Sim amb H h ρ c){n:Nat}(hcn:¬c n){id b:Nat}{ob:Ob}
  (W:Nat->Prop)(hW:W id)(ho:h id=some ob)(hb:ρ id=some b):
  Sim amb H (upd (upd h id none) n (some ob)) (upd (upd ρ id none) n (some b)) (fun id=>c id\/id=n)/\
  Evo amb W H h ρ c H (upd (upd h id none) n (some ob)) (upd (upd ρ id none) n (some b)) (fun id=>c id\/id=n):=by
 have cases3:∀id' ob',upd (upd h id none) n (some ob) id'=some ob'->(id'=n/\ob'=ob)\/(id'≠n/\id'≠id/\h id'=some ob'):=by
  intro id' ob' hx
  by_cases h1:id'=n
  .subst h1;simp at hx;exact .inl ⟨rfl,hx.symm⟩
  .rw[upd_ne _ _ _ h1]at hx
   by_cases h2:id'=id
   .subst h2;simp at hx
   .rw[upd_ne _ _ _ h2]at hx;exact .inr ⟨h1,h2,hx⟩
 have casesr:∀id' b',upd (upd ρ id none) n (some b) id'=some b'->(id'=n/\b'=b)\/(id'≠n/\id'≠id/\ρ id'=some b'):=by
  intro id' b' hx
  by_cases h1:id'=n
  .subst h1;simp at hx;exact .inl ⟨rfl,hx.symm⟩
  .rw[upd_ne _ _ _ h1]at hx
   by_cases h2:id'=id
   .subst h2;simp at hx
   .rw[upd_ne _ _ _ h2]at hx;exact .inr ⟨h1,h2,hx⟩
 have own:∀b' i,Own (upd (upd h id none) n (some ob)) (upd (upd ρ id none) n (some b)) b' i->Own h ρ b' i:=by
  rintro b' i ⟨id',ob',h1,h2,h3⟩;rcases cases3 _ _ h1 with⟨e1,e2⟩ |⟨e1,e2,e3⟩
  .subst e1 e2;simp at h2;subst h2;exact⟨id,ob',ho,hb,h3⟩
  .rw[upd_ne _ _ _ e1,upd_ne _ _ _ e2]at h2;exact⟨id',ob',e3,h2,h3⟩
 have hkeep:Keep H (zal amb h ρ) ρ c H (zal amb (upd (upd h id none) n (some ob)) (upd (upd ρ id none) n (some b))) (upd (upd ρ id none) n (some b)) (fun id=>c id\/id=n):=by
  refine⟨fun b' i v hm hv=>⟨hv,?_⟩,fun id' b' hlt hx=> ?_,fun _ _ hx=>hx,fun _ h=> .inl h⟩
  .rintro (hx|hx)
   .exact hm (.inl hx)
   .exact hm (.inr (own b' i hx))
  .rcases casesr _ _ hx with⟨e1,_⟩ |⟨_,_,e3⟩
   .exact absurd (e1▸hlt) hcn
   .exact e3
 refine⟨⟨fun id' ob' ho'=> ?_,fun id' b' hr=> ?_,fun id1 id2 b' h1 h2=> ?_,fun id' b' i hr=> ?_,fun id' ob' ho'=> ?_,s.amb,fun n cs hg=>za1.keep hkeep.cell _ _ _ (s.glob n cs hg)⟩,
  ⟨hkeep,Z2 _,fun b' _ hn=>⟨rfl,fun id' hx=> ?_⟩,fun id' hn hlt=> ?_,fun id' hlt hd=> ?_⟩⟩
 .rcases cases3 _ _ ho' with⟨e1,e2⟩ |⟨e1,e2,e3⟩
  .subst e1 e2;obtain⟨b',hb',hr⟩ :=s.obj id ob' ho;rw[hb]at hb';cases hb';exact⟨b,by simp,hr.keep hkeep rfl⟩
  .obtain⟨b',hb',hr⟩ :=s.obj id' ob' e3;exact⟨b',by rw[upd_ne _ _ _ e1,upd_ne _ _ _ e2];exact hb',hr.keep hkeep rfl⟩
 .rcases casesr _ _ hr with⟨e1,e2⟩ |⟨e1,e2,e3⟩
  .subst e1 e2;exact⟨(s.dom id b' hb).1,ob,by simp⟩
  .obtain⟨h1,ob',h2⟩ :=s.dom id' b' e3;exact⟨h1,ob',by rw[upd_ne _ _ _ e1,upd_ne _ _ _ e2];exact h2⟩
 .rcases casesr _ _ h1 with⟨e1,e2⟩ |⟨e1,e2,e3⟩ <;>rcases casesr _ _ h2 with⟨f1,f2⟩ |⟨f1,f2,f3⟩
  .rw[e1,f1]
  .subst e2;exact absurd (s.inj id2 id b' f3 hb) f2
  .subst f2;exact absurd (s.inj id1 id b' e3 hb) e2
  .exact s.inj id1 id2 b' e3 f3
 .rcases casesr _ _ hr with⟨e1,e2⟩ |⟨e1,e2,e3⟩
  .subst e2;exact s.out id b' i hb
  .exact s.out id' b' i e3
 .rcases cases3 _ _ ho' with⟨e1,e2⟩ |⟨e1,e2,e3⟩
  .exact .inr e1
  .exact .inl (s.lt id' ob' e3)
 .rcases casesr _ _ hx with⟨e1,e2⟩ |⟨e1,e2,e3⟩
  .subst e2;exact hn id hb
  .exact hn id' e3
 .have e2:id'≠id:=fun e=>hn (e▸hW)
  have e1:id'≠n:=fun e=>hcn (e▸hlt)
  exact⟨by rw[upd_ne _ _ _ e1,upd_ne _ _ _ e2],by rw[upd_ne _ _ _ e1,upd_ne _ _ _ e2],fun _ _=>rfl⟩
 .have e1:id'≠n:=fun e=>hcn (e▸hlt)
  rw[upd_ne _ _ _ e1]
  by_cases e2:id'=id
  .subst e2;simp
  .rw[upd_ne _ _ _ e2];exact hd
theorem Sim.drop{amb:Mu}{H:Array Obj}{h:Hp}{ρ:Nat->Option Nat}{c:Nat->Prop}(s:Sim amb H h ρ c)(id:Nat)(W:Nat->Prop)(hW:W id):
  Sim amb H (upd h id none) (upd ρ id none) c/\Evo amb W H h ρ c H (upd h id none) (upd ρ id none) c:=by
 have casesh:∀id' ob',upd h id none id'=some ob'->id'≠id/\h id'=some ob':=by
  intro id' ob' hx
  by_cases h2:id'=id
  .subst h2;simp at hx
  .rw[upd_ne _ _ _ h2]at hx;exact⟨h2,hx⟩
 have casesr:∀id' b',upd ρ id none id'=some b'->id'≠id/\ρ id'=some b':=by
  intro id' ob' hx
  by_cases h2:id'=id
  .subst h2;simp at hx
  .rw[upd_ne _ _ _ h2]at hx;exact⟨h2,hx⟩
 have own:∀b' i,Own (upd h id none) (upd ρ id none) b' i->Own h ρ b' i:=by
  rintro b' i ⟨id',ob',h1,h2,h3⟩;exact⟨id',ob',(casesh _ _ h1).2,(casesr _ _ h2).2,h3⟩
 have hkeep:Keep H (zal amb h ρ) ρ c H (zal amb (upd h id none) (upd ρ id none)) (upd ρ id none) c:=by
  refine⟨fun b' i v hm hv=>⟨hv,?_⟩,fun id' b' _ hx=>(casesr _ _ hx).2,fun _ _ hx=>hx,fun _ h=>h⟩;rintro (hx|hx)
  .exact hm (.inl hx)
  .exact hm (.inr (own b' i hx))
 refine⟨⟨fun id' ob' ho'=> ?_,fun id' b' hr=> ?_,fun id1 id2 b' h1 h2=>s.inj id1 id2 b' (casesr _ _ h1).2 (casesr _ _ h2).2,
   fun id' b' i hr=>s.out id' b' i (casesr _ _ hr).2,fun id' ob' ho'=>s.lt id' ob' (casesh _ _ ho').2,s.amb,fun n cs hg=>za1.keep hkeep.cell _ _ _ (s.glob n cs hg)⟩,
  ⟨hkeep,Z2 _,fun b' _ hn=>⟨rfl,fun id' hx=>hn id' (casesr _ _ hx).2⟩,fun id' hn _=> ?_,fun id' _ hd=> ?_⟩⟩
 .obtain⟨hne,ho⟩ :=casesh _ _ ho';obtain⟨b',hb',hr⟩ :=s.obj id' ob' ho;exact⟨b',by rw[upd_ne _ _ _ hne];exact hb',hr.keep hkeep rfl⟩
 .obtain⟨hne,hr'⟩ :=casesr _ _ hr;obtain⟨h1,ob',h2⟩ :=s.dom id' b' hr';exact⟨h1,ob',by rw[upd_ne _ _ _ hne];exact h2⟩
 .have e2:id'≠id:=fun e=>hn (e▸hW)
  exact⟨upd_ne _ _ _ e2,upd_ne _ _ _ e2,fun _ _=>rfl⟩
 .by_cases e2:id'=id
  .subst e2;simp
  .rw[upd_ne _ _ _ e2];exact hd
end Go.Vse
end
section
namespace Go.Vse
variable [Globs]
open Go.RowKit
structure Base(w w':World):Prop where
 os:w'.os=w.os
 tape:w'.tape=w.tape
 output:w'.output=w.output
 drawn:w.drawn<=w'.drawn
def Base.refl(w:World):Base w w:=⟨rfl,rfl,rfl,Z2 _⟩
def Base.trans{a b c:World}(h:Base a b)(k:Base b c):Base a c:=⟨k.os.trans h.os,k.tape.trans h.tape,k.output.trans h.output,Z3 h.drawn k.drawn⟩
theorem za1.at{H:Array Obj}{μ:Mu}{b:Nat}:∀{cs:List F} {o:Nat},za1 H μ b o cs->∀(j:Nat) x,cs[j]? =some x->
  ¬μ b (o+j)/\∃v,zbn H b (o+j)=some v/\v.oneCell'=true/\zaj H μ x v
 |[],_,_,j,x,hx=>by simp at hx
 |y::l,o,h,j,x,hx=>by
  simp only[za1]at h;cases j with
  |zero=>simp at hx;subst hx;exact h.1
  |succ j=>
   have:=za1.at h.2 j x (by simpa using hx)
   rwa[show o+1+j=o+(j+1) by omega]at this
theorem za1.mk{H:Array Obj}{μ:Mu}{b:Nat}:∀{cs:List F} {o:Nat},(∀(j:Nat) x,cs[j]? =some x->
  ¬μ b (o+j)/\∃v,zbn H b (o+j)=some v/\v.oneCell'=true/\zaj H μ x v)->za1 H μ b o cs
 |[],_,_=>by simp only[za1]
 |y::l,o,h=>by
  simp only[za1];refine⟨by simpa using h 0 y (by simp),za1.mk fun j x hx=> ?_⟩;have:=h (j+1) x (by simpa using hx)
  rwa[show o+(j+1)=o+1+j by omega]at this
def za1.drop{H:Array Obj}{μ:Mu}{b o:Nat}{cs:List F}(h:za1 H μ b o cs)(n:Nat):za1 H μ b (o+n) (cs.drop n):=
 za1.mk fun j x hx=>by
  have:=h.at (n+j) x (by simpa using hx)
  rwa[<-Z82]at this
theorem zb7.at{H:Array Obj}{μ:Mu}{b es:Nat}:∀{els:List (List F)} {o:Nat},zb7 H μ b es o els->∀(i:Nat) el,els[i]? =some el->
  el.length=es/\za1 H μ b (o+i*es) el
 |[],_,_,i,x,hx=>by simp at hx
 |y::l,o,h,i,x,hx=>by
  simp only[zb7]at h;cases i with
  |zero=>simp at hx;subst hx;exact⟨h.1,by simpa using h.2.1⟩
  |succ i=>
   have:=zb7.at h.2.2 i x (by simpa using hx)
   rwa[show o+es+i*es=o+(i+1)*es by rw[Z35];omega]at this
theorem zb7.mk{H:Array Obj}{μ:Mu}{b es:Nat}:∀{els:List (List F)} {o:Nat},(∀(i:Nat) el,els[i]? =some el->
  el.length=es/\za1 H μ b (o+i*es) el)->zb7 H μ b es o els
 |[],_,_=>by simp only[zb7]
 |y::l,o,h=>by
  simp only[zb7];have h0:=h 0 y (by simp);refine⟨h0.1,by simpa using h0.2,zb7.mk fun i x hx=> ?_⟩;have:=h (i+1) x (by simpa using hx)
  rwa[show o+(i+1)*es=o+es+i*es by rw[Z35];omega]at this
theorem zaq.len{H:Array Obj}{μ:Mu}{ρ:Nat->Option Nat}{c:Nat->Prop}:∀{ds:List D} {vs:List Value},zaq H μ ρ c ds vs->vs.length=ds.length
 |[],vs,h=>by simp only[zaq]at h;simp[h]
 |d::l,vs,h=>by
  simp only[zaq]at h;obtain⟨v,m,e,_,hl⟩ :=h;subst e;simp[zaq.len hl]
theorem zaq.at{H:Array Obj}{μ:Mu}{ρ:Nat->Option Nat}{c:Nat->Prop}:∀{ds:List D} {vs:List Value},zaq H μ ρ c ds vs->∀(j:Nat) d,ds[j]? =some d->
  ∃v,vs[j]? =some v/\Rel H μ ρ c d v
 |[],vs,h,j,d,hd=>by simp at hd
 |d'::l,vs,h,j,d,hd=>by
  simp only[zaq]at h;obtain⟨v,m,e,hx,hl⟩ :=h;subst e;cases j with
  |zero=>simp at hd;subst hd;exact⟨v,rfl,hx⟩
  |succ j=>simpa using zaq.at hl j d (by simpa using hd)
theorem zaq.mk{H:Array Obj}{μ:Mu}{ρ:Nat->Option Nat}{c:Nat->Prop}:∀{ds:List D} {vs:List Value},vs.length=ds.length->
  (∀(j:Nat) d v,ds[j]? =some d->vs[j]? =some v->Rel H μ ρ c d v)->zaq H μ ρ c ds vs
 |[],vs,hl,_=>by simp only[zaq];exact Z17.1 hl
 |d::l,[],hl,_=>by simp at hl
 |d::l,v::m,hl,h=>by
  simp only[zaq];exact⟨v,m,rfl,h 0 d v rfl rfl,zaq.mk (by simpa using hl) fun j d' v' hd hv=>h (j+1) d' v' (by simpa using hd) (by simpa using hv)⟩
theorem zaM.toL{H:Array Obj}{μ:Mu}{ρ:Nat->Option Nat}{c:Nat->Prop}:∀{l:List F} {vs:List Value},zaM H μ l vs->zaq H μ ρ c (l.map D.f) vs
 |[],vs,h=>by simp only[zaM]at h;simp only[Z85,zaq];exact h
 |x::l,vs,h=>by
  simp only[zaM]at h;obtain⟨v,m,e,hx,hl⟩ :=h;simp only[Z10,zaq];exact⟨v,m,e,by simp only[Rel];exact hx,zaM.toL hl⟩
theorem zj2{H:Array Obj}{μ:Mu}{ρ:Nat->Option Nat}{c:Nat->Prop}{b:Nat}:∀(ds:List D) (o:Nat),
  (∀(k:Nat) d,ds[k]? =some d->∃v,zbn H b (o+k)=some v/\v.oneCell'=true/\Rel H μ ρ c d v)->
  ∃vs,zaq H μ ρ c ds vs/\(∀u∈vs,u.oneCell'=true)/\∀(k:Nat) v,vs[k]? =some v->zbn H b (o+k)=some v
 |[],o,_=>⟨[],by simp only[zaq],by simp,by simp⟩
 |d::l,o,h=>by
  obtain⟨v,hv,hone,hr⟩ :=h 0 d rfl;obtain⟨vs,h1,h3,h2⟩ :=zj2 l (o+1) fun k d' hd=>by
   have:=h (k+1) d' (by simpa using hd)
   rwa[show o+(k+1)=o+1+k by omega]at this
  refine⟨v::vs,by simp only[zaq];exact⟨v,vs,rfl,hr,h1⟩,by simpa using ⟨hone,h3⟩,fun k u hk=> ?_⟩;cases k with
  |zero=>simp at hk;subst hk;exact hv
  |succ k=>
   have:=h2 k u (by simpa using hk)
   rwa[show o+(k+1)=o+1+k by omega]
theorem za1.rel{H:Array Obj}{μ:Mu}{ρ:Nat->Option Nat}{c:Nat->Prop}{b o:Nat}{cs:List F}(h:za1 H μ b o cs):
  ∀(k:Nat) d,(cs.map D.f)[k]? =some d->∃v,zbn H b (o+k)=some v/\v.oneCell'=true/\Rel H μ ρ c d v:=by
 intro k d hd;rw[Z36]at hd;cases hk:cs[k]? with
 |none=>simp[hk]at hd
 |some x=>
  simp[hk]at hd;subst hd;obtain⟨_,v,hv,h1,hr⟩ :=h.at k x hk;exact⟨v,hv,h1,by simp only[Rel];exact hr⟩
def zcM(b o n:Nat):(⟨b,o,none⟩ :Addr).add n=⟨b,o+n,none⟩ :=by
 unfold Addr.add;split<;>simp_all
theorem zoU(P:Program)(w:World)(b o:Nat)(vs:List Value)(h:∀(k:Nat) v,vs[k]? =some v->zbn w.heap b (o+k)=some v):
  (loadCells ⟨b,o,none⟩ vs.length).run P w= .ok ⟨vs⟩ w:=
 run_loadCells_list w _ vs fun j v hv=>by rw[zcM,zlM];exact h j v hv
def zCO(P:Program)(w:World)(b o:Nat)(v:Value)(h:zbn w.heap b o=some v):(load ⟨b,o,none⟩).run P w= .ok v w:=by
 rw[run_load,zlM,h]
def zax{P:Program}{w:World}{t:TypeId}{d:TypeDesc}(h:P.underlying t=some d):(underlying t).run P w= .ok d w:=by
 simp[underlying,h]
def zhh{P:Program}{w:World}{t:TypeId}{i:TypeInfo}(h:P.info? t=some i):(typeInfo t).run P w= .ok i w:=by
 simp[typeInfo,h]
def za9{P:Program}{w:World}{t:TypeId}{n:Nat}(h:zaO P t=some n):(sizeOf t).run P w= .ok n w:=by
 unfold zaO at h;cases hi:P.info? t with
 |none=>simp[hi]at h
 |some i=>simp[hi]at h;subst h;simp[sizeOf,zhh hi]
def znV{P:Program}{w:World}{t:TypeId}{g:Bool}(h:ze2 P t=some g):(isAgg t).run P w= .ok g w:=by
 unfold ze2 at h;unfold isAgg;cases hu:P.underlying t with
 |none=>simp[hu]at h
 |some d=>
  rw[Sem.run_bind,zax hu];cases d<;>simp_all
theorem zoW{P:Program}{w:World}{t:TypeId}{g:Bool}{n:Nat}{b o:Nat}{H:Array Obj}{μ:Mu}{ρ:Nat->Option Nat}{c:Nat->Prop}(hH:H=w.heap)
  (hg:ze2 P t=some g)(hn:zaO P t=some n){ds:List D}{d:D}
  (hp:zcW g 0 n ds=some d)(hc:∀(k:Nat) d,ds[k]? =some d->∃v,zbn H b (o+k)=some v/\v.oneCell'=true/\Rel H μ ρ c d v):
  ∃v,(loadVar t ⟨b,o,none⟩).run P w= .ok v w/\Rel H μ ρ c d v:=by
 subst hH;unfold zcW at hp;unfold loadVar;rw[Sem.run_bind,znV hg];cases g with
 |true=>
  simp only[Z25,Z60,Z34]at hp;split at hp
  .rename_i hle;simp at hp;subst hp;obtain⟨vs,h1,h3,h2⟩ :=zj2 (ρ:=ρ) (c:=c) (μ:=μ) (H:=w.heap) (b:=b) (ds.take n) o fun k d' hd=>by
    rw[Z75]at hd;split at hd
    .exact hc k d' hd
    .simp at hd
   have hl:vs.length=n:=by rw[h1.len];simp;omega
   refine⟨.agg ⟨vs⟩,?_,by simp only[Rel];exact⟨vs,rfl,h3,h1⟩⟩;have:=zoU P w b o vs h2;rw[hl]at this;simp[za9 hn,this]
  .simp at hp
 |false=>
  simp at hp;obtain⟨v,hv,_,hr⟩ :=hc 0 d hp;exact⟨v,by simpa using zCO P w b o v (by simpa using hv),hr⟩
theorem zvO(w:World)(b o:Nat)(v:Value){cs:Array Value}{e:TypeId}{fr:Nat×Nat}(h:w.heap[b]? =some (.cells cs e fr)):
  (w.setCell ⟨b,o,none⟩ v).heap.size=w.heap.size/\(w.setCell ⟨b,o,none⟩ v).heap[b]? =some (.cells (cs.setIfInBounds o v) e fr)/\
   ∀b',b'≠b->(w.setCell ⟨b,o,none⟩ v).heap[b']? =w.heap[b']? :=by
 refine⟨by simp[World.setCell],?_,fun b' hb=> ?_⟩
 .simp[World.setCell,Z171,h]
 .simp only[World.setCell,Z171];rw[Z49 (fun e=>hb e.symm)]
theorem znW(P:Program)(b o:Nat)(e:TypeId)(fr:Nat×Nat):∀(vs:List Value) (i:Nat) (w:World) (cs:Array Value),
  w.heap[b]? =some (.cells cs e fr)->(∀k,k<cs.size->¬(fr.1<=k/\k<fr.2))->o+i+vs.length<=cs.size->(∀v∈vs,v.oneCell'=true)->
  ∃w' cs',(storeCells ⟨b,o,none⟩ vs i).run P w= .ok () w'/\Base w w'/\w'.heap.size=w.heap.size/\w'.heap[b]? =some (.cells cs' e fr)/\
   (∀b',b'≠b->w'.heap[b']? =w.heap[b']?)/\cs'.size=cs.size/\
   (∀k,k<o+i->cs'[k]? =cs[k]?)/\(∀k,k<vs.length->cs'[o+i+k]? =vs[k]?)/\(∀k,o+i+vs.length<=k->cs'[k]? =cs[k]?)
 |[],i,w,cs,h,hf,hl,h1=>⟨w,cs,rfl,Base.refl w,rfl,h,fun _ _=>rfl,rfl,fun _ _=>rfl,by simp,fun _ _=>rfl⟩
 |v::r,i,w,cs,h,hf,hl,h1=>by
  simp only[Z23]at hl;have hcell:w.cell? ⟨b,o+i,none⟩ =some (cs[o+i]'(by omega)):=by
   rw[zlM];unfold zbn;rw[h];simp
  have hfz:w.frozen? ⟨b,o+i,none⟩ =false:=by
   have:=hf (o+i) (by omega);simp only[World.frozen?,h];simp only[Z147,Z65];omega
  have hst:(store ((⟨b,o,none⟩ :Addr).add i) v).run P w= .ok () (w.setCell ⟨b,o+i,none⟩ v):=by
   rw[zcM,run_store P w _ v _ (h1 v (by simp))];simp[hcell,hfz]
  obtain⟨s1,s2,s3⟩ :=zvO w b (o+i) v h;obtain⟨w',cs',r1,r2,r3,r4,r5,r6,r7,r8,r9⟩ :=znW P b o e fr r (i+1) (w.setCell ⟨b,o+i,none⟩ v) _ s2
   (by simpa using hf) (by simp;omega) (fun x hx=>h1 x (by simp[hx]))
  refine⟨w',cs',?_,⟨r2.os,r2.tape,r2.output,r2.drawn⟩,r3.trans s1,r4,fun b' hb=>(r5 b' hb).trans (s3 b' hb),by simpa using r6,fun k hk=> ?_,fun k hk=> ?_,fun k hk=> ?_⟩
  .simp only[storeCells,Sem.run_bind,hst,Result.andThen_ok,r1]
  .rw[r7 k (by omega),Z93 (by omega)]
  .cases k with
   |zero=>
    rw[Z111,r7 (o+i) (by omega)];simp[show o+i<cs.size by omega]
   |succ k=>
    have:=r8 k (by simpa using hk);rw[show o+i+(k+1)=o+(i+1)+k by omega,this];simp
  .simp only[Z23]at hk;rw[r9 k (by omega),Z93 (by omega)]
def Rel.one{H:Array Obj}{μ:Mu}{ρ:Nat->Option Nat}{c:Nat->Prop}{d:D}{v:Value}(h:Rel H μ ρ c d v)(hd:d.zlR=true):v.oneCell'=true:=by
 cases d with
 |f x=>cases x<;>simp_all [D.zlR,Rel,zaj,Value.oneCell']<;>(obtain⟨_,_,e,_⟩ :=h;rw[e])
 |ag cs=>simp[D.zlR]at hd
 |tu cs=>simp[D.zlR]at hd
 |sl id off len es lim ex=>simp only[Rel]at h;obtain⟨_,_,_,e,_⟩ :=h;rw[e];rfl
 |ptr id es i j=>simp only[Rel]at h;obtain⟨_,_,e,_⟩ :=h;rw[e];rfl
 |fptr cs=>simp only[Rel]at h;obtain⟨_,_,e,_⟩ :=h;rw[e];rfl
 |mp id=>simp only[Rel]at h;obtain⟨_,_,e,_⟩ :=h;rw[e];rfl
 |fn f a b=>simp only[Rel]at h;obtain⟨_,_,e,_⟩ :=h;rw[e];rfl
theorem Rel.cells{H:Array Obj}{μ:Mu}{ρ:Nat->Option Nat}{c:Nat->Prop}{d:D}{v:Value}(h:Rel H μ ρ c d v){cs:List D}(hc:d.cells=some cs):
    zaq H μ ρ c cs v.cells.toList/\∀u∈v.cells.toList,u.oneCell'=true:=by
  have one:∀d,d.cells=some [d]->Rel H μ ρ c d v->d.zlR=true->v.cells= #[v]->d.cells=some cs->
      zaq H μ ρ c cs v.cells.toList/\∀u∈v.cells.toList,u.oneCell'=true:=fun d h1 h2 h3 h4 h5=>by
    rw[h1]at h5;cases h5;rw[h4];refine⟨by simp only[zaq];exact⟨v,[],rfl,h2,rfl⟩,fun u hu=> ?_⟩;simp at hu;subst hu;exact h2.one h3
  cases d with
  | ag cs'=>
    simp[D.cells]at hc;subst hc;simp only[Rel]at h;obtain⟨vs,e,h1,h⟩ :=h;subst e;exact⟨by simpa [Value.cells]using h,by simpa [Value.cells]using h1⟩
  |tu cs'=>simp[D.cells]at hc
  | f x=>
    cases x<;>first
      |(simp[D.cells]at hc;done)
      | (refine one _ rfl h rfl ?_ hc
         simp only[Rel,zaj]at h
         first|(rw[h];rfl)|(obtain⟨_,_,e,_⟩ :=h;rw[e];rfl))
  |sl id off len es lim ex=>exact one _ rfl h rfl (by simp only[Rel]at h;obtain⟨_,_,_,e,_⟩ :=h;rw[e];rfl) hc
  |ptr id es i j=>exact one _ rfl h rfl (by simp only[Rel]at h;obtain⟨_,_,e,_⟩ :=h;rw[e];rfl) hc
  |fptr cs=>exact one _ rfl h rfl (by simp only[Rel]at h;obtain⟨_,_,e,_⟩ :=h;rw[e];rfl) hc
  |mp id=>exact one _ rfl h rfl (by simp only[Rel]at h;obtain⟨_,_,e,_⟩ :=h;rw[e];rfl) hc
  |fn f a b=>exact one _ rfl h rfl (by simp only[Rel]at h;obtain⟨_,_,e,_⟩ :=h;rw[e];rfl) hc
end Go.Vse
end
section
namespace Go.Vse
variable [Globs]
open Go.RowKit
section
variable {P:Program}{w:World}{amb:Mu}{h:Hp}{ρ:Nat->Option Nat}{c:Nat->Prop}
def zbu(h:Hp):List (Nat×Option Ob)->Hp
 |[]=>h
 |(id,o)::l=>zbu (upd h id o) l
def UX(c:Nat->Prop)(n n':Nat):Nat->Prop:=fun id=>c id\/(n<=id/\id<n')
def zei(c:Nat->Prop)(n:Nat):UX c n n=c:=by
 funext id
 exact propext ⟨fun hx=>hx.elim (fun hy=>hy) fun hy=>by omega,.inl⟩
def zHo(c:Nat->Prop)(n:Nat):UX c n (n+1)=fun id=>c id\/id=n:=by
 funext id
 exact propext ⟨fun hx=>hx.elim .inl fun hy=> .inr (by omega),fun hx=>hx.elim .inl fun hy=> .inr ⟨by omega,by omega⟩⟩
structure Post(amb:Mu)(w:World)(h:Hp)(ρ:Nat->Option Nat)(c:Nat->Prop)(n:Nat)(r:Rs)(v:Value)(w':World):Prop where
 base:Base w w'
 ex:∃ρ',Rel w'.heap (zal amb (zbu h r.wr) ρ') ρ' (UX c n r.c) r.d v/\Sim amb w'.heap (zbu h r.wr) ρ' (UX c n r.c)/\
  Evo amb (fun id=>id∈r.wr.map (·.1)) w.heap h ρ c w'.heap (zbu h r.wr) ρ' (UX c n r.c)
theorem Post.mk0{r:Rs}{v:Value}{w':World}{n:Nat}(hc:r.c=n)(hb:Base w w'){ρ':Nat->Option Nat}(h1:Rel w'.heap (zal amb (zbu h r.wr) ρ') ρ' c r.d v)
  (h2:Sim amb w'.heap (zbu h r.wr) ρ' c)(h3:Evo amb (fun id=>id∈r.wr.map (·.1)) w.heap h ρ c w'.heap (zbu h r.wr) ρ' c):Post amb w h ρ c n r v w':=by
 refine⟨hb,ρ',?_,?_,?_⟩ <;>rw[hc,zei]<;>assumption
theorem Post.mk1{r:Rs}{v:Value}{w':World}{n:Nat}(hc:r.c=n+1)(hb:Base w w'){ρ':Nat->Option Nat}(h1:Rel w'.heap (zal amb (zbu h r.wr) ρ') ρ' (fun id=>c id\/id=n) r.d v)
  (h2:Sim amb w'.heap (zbu h r.wr) ρ' (fun id=>c id\/id=n))(h3:Evo amb (fun id=>id∈r.wr.map (·.1)) w.heap h ρ c w'.heap (zbu h r.wr) ρ' (fun id=>c id\/id=n)):Post amb w h ρ c n r v w':=by
 refine⟨hb,ρ',?_,?_,?_⟩ <;>rw[hc,zHo]<;>assumption
theorem Post.same(s:Sim amb w.heap h ρ c){d:D}{v:Value}(hr:Rel w.heap (zal amb h ρ) ρ c d v)(rd:List Nat){n:Nat}:
  Post amb w h ρ c n {d,rd,c:=n} v w:=
 Post.mk0 rfl (Base.refl w) hr s (Evo.refl _ _ _ _ _ _)
def zaj.rel{H:Array Obj}{μ:Mu}{x:F}{v:Value}(hx:zaj H μ x v):Rel H μ ρ c (.f x) v:=by simp only[Rel];exact hx
mutual
theorem zaj.d{H:Array Obj}{μ:Mu}{ρ:Nat->Option Nat}{c:Nat->Prop}:∀(x:F) (v:Value),zaj H μ x v->Rel H μ ρ c x.d v
 | .ag cs,v,hx=>by
  simp only[zaj]at hx;obtain⟨vs,e,h1,hl⟩ :=hx;simp only[F.d,Rel];exact⟨vs,e,h1,zaM.dL cs vs hl⟩
 | .tu cs,v,hx=>by
  simp only[zaj]at hx;obtain⟨vs,e,hl⟩ :=hx;simp only[F.d,Rel];exact⟨vs,e,zaM.dL cs vs hl⟩
 | .b _,_,hx| .i _ _,_,hx| .s _,_,hx| .nils,_,hx| .nilp,_,hx| .nilm,_,hx| .nilf,_,hx| .nili,_,hx| .un,_,hx| .fn _,_,hx| .sl _ _,_,hx=>by
  simp only[F.d,Rel];exact hx
theorem zaM.dL{H:Array Obj}{μ:Mu}{ρ:Nat->Option Nat}{c:Nat->Prop}:∀(l:List F) (vs:List Value),zaM H μ l vs->zaq H μ ρ c (F.dL l) vs
 |[],vs,hx=>by simp only[zaM]at hx;simp only[F.dL,zaq];exact hx
 |x::l,vs,hx=>by
  simp only[zaM]at hx;obtain⟨v,m,e,h1,h2⟩ :=hx;simp only[F.dL,zaq];exact⟨v,m,e,zaj.d x v h1,zaM.dL l m h2⟩
end
def zvN{H:Array Obj}{μ:Mu}{v:Value}{x:F}(hx:zvM v=some x):zaj H μ x v:=by
 unfold zvM at hx;split at hx<;>first|(simp at hx;done)|(simp at hx;subst hx;simp only[zaj])
def zsO{H:Array Obj}{μ:Mu}{v:Value}{x:F}(hx:zk1 v=some x):zaj H μ x v/\v.oneCell'=true:=by
 unfold zk1 at hx;split at hx
 .simp at hx
 .rename_i hne;refine⟨zvN hx,?_⟩;unfold zvM at hx;split at hx<;>first|rfl|(simp at hx;done)|(simp at hx;subst hx;exact absurd rfl hne)
theorem zk3{H:Array Obj}{μ:Mu}:∀{vs:List Value} {xs:List F},zat zk1 vs=some xs->zaM H μ xs vs/\∀u∈vs,u.oneCell'=true
 |[],xs,hx=>by simp[zat]at hx;subst hx;simp[zaM]
 |v::vs,xs,hx=>by
  unfold zat at hx;split at hx
  .simp at hx
  .rename_i x h1;split at hx
   .simp at hx
   .rename_i m h2;simp at hx;subst hx;have q1:=zsO (H:=H) (μ:=μ) h1;have q2:=zk3 (H:=H) (μ:=μ) h2;simp only[zaM];exact⟨⟨v,vs,rfl,q1.1,q2.1⟩,by simpa using ⟨q1.2,q2.2⟩⟩
def zqb{H:Array Obj}{μ:Mu}{v:Value}{x:F}(hx:zqa v=some x):zaj H μ x v:=by
 unfold zqa at hx;split at hx
 .rename_i cs;cases hm:zat zk1 cs with
  |none=>simp[hm]at hx
  |some l=>
   simp[hm]at hx;subst hx;simp only[zaj];exact⟨cs,rfl,(zk3 (H:=H) (μ:=μ) hm).2,(zk3 hm).1⟩
 .exact zvN hx
theorem zd6{H:Array Obj}{μ:Mu}{t:TypeId}{z:List F}(hz:zeroCells P t=some z):
  ∃i v,P.info? t=some i/\i.zero=some v/\zaM H μ z v.cells.toList/\∀u∈v.cells.toList,u.oneCell'=true:=by
 unfold zeroCells at hz;cases hi:P.info? t with
 |none=>simp[hi]at hz
 |some i=>
  simp only[hi]at hz;cases hv:i.zero with
  |none=>simp[hv]at hz
  |some v=>
   refine⟨i,v,rfl,hv,?_⟩;simp only[hv]at hz;split at hz
   .rename_i heq;simp at heq;subst heq;exact zk3 hz
   .rename_i v' hne heq;simp at heq;subst heq;cases hs:zk1 v with
    |none=>simp[hs]at hz
    |some x=>
     simp[hs]at hz;subst hz;have:v.cells.toList=[v]:=by
      cases v<;>first|rfl|(exact absurd rfl (hne _))
     rw[this];simp only[zaM];have q:=zsO (H:=H) (μ:=μ) hs;exact⟨⟨v,[],rfl,q.1,rfl⟩,by simpa using q.2⟩
   .simp at hz
def zaM.len{H:Array Obj}{μ:Mu}{l:List F}{vs:List Value}(hx:zaM H μ l vs):vs.length=l.length:=by
 have:=(zaM.toL (ρ:=fun _=>none) (c:=fun _=>True) hx).len;simpa using this
def zsD{s:Sem Value}{v:Value}(hs:ziX s=some v):s.run P w= .ok v w:=by
 unfold ziX at hs;split at hs
 .simp at hs;subst hs;rfl
 .simp at hs
def zCe(op:BinOp)(t:TypeId)(x y:Operand)(k k':IntKind)(a b:Int):(eqGuard op t x y (.int k a) (.int k' b)).run P w= .ok () w:=by
 unfold eqGuard;cases op<;>rfl
def zCf(op:BinOp)(t:TypeId)(x y:Operand)(a b:ByteArray):(eqGuard op t x y (.string a) (.string b)).run P w= .ok () w:=by
 unfold eqGuard;cases op<;>rfl
theorem zFw{op:BinOp}{k k':IntKind}{a b:Int}{z:F}(hz:zuo op k a k' b=some z)(t:TypeId){H:Array Obj}{μ:Mu}:
  ∃v,(Go.binOp op t (.int k a) (.int k' b)).run P w= .ok v w/\zaj H μ z v:=by
 have ht:Go.binOp op t (.int k a) (.int k' b)=Go.binOp op 0 (.int k a) (.int k' b):=by cases op<;>rfl
 unfold zuo at hz;cases hp:ziX (Go.binOp op 0 (.int k a) (.int k' b))with
 |none=>simp[hp]at hz
 |some v=>
  refine⟨v,?_,?_⟩
  .rw[ht];exact zsD hp
  .rw[hp]at hz;cases v<;>simp at hz<;>subst hz<;>simp only[zaj]
def zq3(l:List UInt8):ByteArray.toList ⟨⟨l⟩⟩ =l:=ByteArray.toList_mk l
def ziF(l:List UInt8):ByteArray.size ⟨⟨l⟩⟩ =l.length:=rfl
def zKK(s:ByteArray):s=⟨⟨s.data.toList⟩⟩ :=rfl
def zA3(a b:List UInt8):(⟨⟨a⟩⟩ ++ ⟨⟨b⟩⟩ :ByteArray)=⟨⟨a++b⟩⟩ :=by
 apply ByteArray.ext;simp
def zo1(l:List UInt8)(a b:Nat):ByteArray.extract ⟨⟨l⟩⟩ a b=⟨⟨(l.drop a).take (b - a)⟩⟩ :=by
 have:=Lib.extract_data ⟨⟨l⟩⟩ a b;rw[zKK (ByteArray.extract ⟨⟨l⟩⟩ a b),this]
theorem zFx{op:BinOp}{a b:List UInt8}{z:F}(hz:zDE op a b=some z)(t:TypeId){H:Array Obj}{μ:Mu}:
  ∃v,(Go.binOp op t (.string ⟨⟨a⟩⟩) (.string ⟨⟨b⟩⟩)).run P w= .ok v w/\zaj H μ z v:=by
 have ht:Go.binOp op t (.string ⟨⟨a⟩⟩) (.string ⟨⟨b⟩⟩)=Go.Op.stringOp op ⟨⟨a⟩⟩ ⟨⟨b⟩⟩ :=by cases op<;>rfl
 rw[ht];unfold zDE at hz;cases op<;>simp at hz
 case add=>
  obtain⟨hl,hz⟩ :=hz;subst hz;refine⟨.string ⟨⟨a++b⟩⟩,?_,by simp only[zaj]⟩;have:¬(((a.length+b.length:Nat):Int)>IntKind.i64.max):=by simp[IntKind.max,IntKind.signed,IntKind.bits];omega
  simp[Go.Op.stringOp,ziF,zA3];simp at this;omega
 all_goals (subst hz;exact⟨_,by simp[Go.Op.stringOp];rfl,by simp only[zaj]⟩)
def zE8(g:Bool)(n:Nat)(cs:List F):zk0 g n cs=zcW g 0 n (cs.map D.f):=by
 unfold zk0 zcW;cases g
 .simp
 .simp[Z149]
def zAM{g:Bool}{j n:Nat}{el:List D}{d:D}(hd:zcW g j n el=some d):zcW g 0 n (el.drop j)=some d:=by
 unfold zcW at hd|-;cases g
 .simpa using hd
 .simp only[Z60]at hd|-;split at hd
  .rename_i hle;rw[Z51 (by simp;omega)];simpa using hd
  .simp at hd
theorem Sim.row(s:Sim amb w.heap h ρ c){id es ro:Nat}{els:List (List D)}(ho:h id=some (.arr es ro els)):
  ∃b cs elem fr,ρ id=some b/\w.heap[b]? =some (.cells cs elem fr)/\zgX fr cs.size els/\els.length*es<=cs.size/\
   (∀el∈els,el.length=es)/\∀(i:Nat) el,els[i]? =some el->∀(j:Nat) d,el[j]? =some d->∃v,cs[i*es+j]? =some v/\v.oneCell'=true/\Rel w.heap (zal amb h ρ) ρ c d v:=by
 obtain⟨b,hb,cs,elem,fr,h1,h2,h3,h4,h5⟩ :=s.obj id _ ho;exact⟨b,cs,elem,fr,hb,h1,h2,h3,h4,h5⟩
def zgg{H:Array Obj}{b o:Nat}{cs:Array Value}{e:TypeId}{fr:Nat×Nat}(hb:H[b]? =some (.cells cs e fr)):zbn H b o=cs[o]? :=by
 unfold zbn;rw[hb]
theorem zCM(s:Sim amb w.heap h ρ c){t:TypeId}{g:Bool}{n:Nat}(hg:ze2 P t=some g)(hn:zaO P t=some n){x d:D}{u:Value}{rd:List Nat}
  (hx:Rel w.heap (zal amb h ρ) ρ c x u)(hl:zc3 g n h x=some (d,rd)):
  ∃v,(Instr.loadAt t u).run P w= .ok v w/\Rel w.heap (zal amb h ρ) ρ c d v:=by
 unfold zc3 at hl;split at hl
 .rename_i cs;simp only[Rel]at hx;obtain⟨b,o,e,hc⟩ :=hx;subst e;rw[zE8]at hl;cases hp:zcW g 0 n (cs.map D.f)with
  |none=>simp[hp]at hl
  |some d'=>
   simp[hp]at hl;obtain⟨rfl,_⟩ :=hl;obtain⟨v,h1,h2⟩ :=zoW (P:=P) (w:=w) (ρ:=ρ) (c:=c) rfl hg hn hp (b:=b) (o:=o) hc.rel;exact⟨v,by simp[Instr.loadAt,Instr.sureAddr,h1],h2⟩
 .rename_i id es i j;simp only[Rel]at hx;obtain⟨hid,a,e,ha⟩ :=hx;subst e;split at hl
  .rename_i es' ro els ho;split at hl
   .rename_i hes;subst hes;split at hl
    .rename_i el hel;cases hp:zcW g j n el with
     |none=>simp[hp]at hl
     |some d'=>
      simp[hp]at hl;obtain⟨rfl,_⟩ :=hl;obtain⟨b,cs,elem,fr,hb,h1,_,h3,h4,h5⟩ :=s.row ho;have haa:=ha b hb;subst haa;obtain⟨v,r1,r2⟩ :=zoW (P:=P) (w:=w) (ρ:=ρ) (c:=c) (μ:=zal amb h ρ) rfl hg hn (zAM hp) (b:=b) (o:=i*es+j) fun k d'' hk=>by
       obtain⟨v,hv,ho1,hr⟩ :=h5 i el hel (j+k) d'' (by simpa using hk);exact⟨v,by rw[zgg h1,Z82];exact hv,ho1,hr⟩
      exact⟨v,by simp[Instr.loadAt,Instr.sureAddr,r1],r2⟩
    .simp at hl
   .simp at hl
  .simp at hl
 .simp at hl
end
end Go.Vse
end
section
namespace Go.Vse
variable [Globs]
open Go.RowKit
section
variable {P:Program}{w:World}{amb:Mu}{h:Hp}{ρ:Nat->Option Nat}{c:Nat->Prop}
theorem zvK{t:TypeId}{g:Bool}{n off:Nat}(hg:ze2 P t=some g)(hn:zaO P t=some n){cs:List D}{vs:List Value}{d:D}{H:Array Obj}{μ:Mu}
  (hone:∀u∈vs,u.oneCell'=true)(hr:zaq H μ ρ c cs vs)(hp:zcW g off n cs=some d):∃v,(part t ⟨vs⟩ off).run P w= .ok v w/\Rel H μ ρ c d v:=by
 unfold zcW at hp;unfold part;rw[Sem.run_bind,znV hg];cases g with
 |true=>
  simp only[Z60]at hp;split at hp
  .rename_i hle;simp at hp;subst hp;refine⟨.agg ⟨(vs.drop off).take n⟩,?_,?_⟩
   .simp[za9 hn]
   .simp only[Rel];refine⟨_,rfl,fun u hu=>hone u (Z21 (Z13 hu)),zaq.mk (by simp[hr.len]) fun j d v hd hv=> ?_⟩;rw[Z75]at hd hv;split at hd
    .rename_i hj;simp only[hj,Z60]at hv;rw[Z81]at hd hv;obtain⟨v',h1,h2⟩ :=hr.at _ _ hd;rw[hv]at h1;cases h1;exact h2
    .simp at hd
  .simp at hp
 |false=>
  simp at hp;obtain⟨v,h1,h2⟩ :=hr.at off d hp;exact⟨v,by simp[h1],h2⟩
theorem zKh{t:TypeId}{fs:Array Field}{f:Nat}{fl:Field}{g:Bool}{n:Nat}(hu:P.underlying t=some (.struct fs))(hf:fs[f]? =some fl)
  (hg:ze2 P fl.type=some g)(hn:zaO P fl.type=some n){cs:List D}{x:Value}{d:D}{H:Array Obj}{μ:Mu}
  (hx:Rel H μ ρ c (.ag cs) x)(hp:zcW g fl.offset n cs=some d):∃v,(Instr.field t x f).run P w= .ok v w/\Rel H μ ρ c d v:=by
 simp only[Rel]at hx;obtain⟨vs,e,hone,hr⟩ :=hx;subst e;obtain⟨v,h1,h2⟩ :=zvK (P:=P) (w:=w) hg hn hone hr hp;exact⟨v,by simp[Instr.field,zax hu,hf,asAgg,h1],h2⟩
theorem zCK{t:TypeId}{fs:Array Field}{f:Nat}{fl:Field}{n:Nat}(hu:P.underlying t=some (.struct fs))(hf:fs[f]? =some fl)
  (hn:zaO P fl.type=some n)(h0:n≠0)(a:Addr):(Instr.fieldAt t (.pointer (some a)) f).run P w= .ok (.pointer (some (a.add fl.offset))) w:=by
 simp[Instr.fieldAt,zax hu,hf,Instr.sureAddr,fieldPlace,za9 hn,h0]
def zcX{x:D}{i:Nat}{u:Value}{H:Array Obj}{μ:Mu}(hi:zbv x=some i)(hx:Rel H μ ρ c x u):∃k,u= .int k (i:Int):=by
 unfold zbv at hi;split at hi
 .rename_i k n;split at hi
  .rename_i h0;simp at hi;subst hi;simp only[Rel,zaj]at hx;exact⟨k,by rw[hx,Int.toNat_of_nonneg h0]⟩
  .simp at hi
 .simp at hi
theorem zCL{t e:TypeId}{es:Nat}(hu:P.underlying t=some (.slice e))(hn:zaO P e=some es)(a:Addr)(len cap:Nat)(k:IntKind)(i:Nat)(hi:i<len):
  (Instr.indexAt t (.slice (some a) len cap) (.int k i)).run P w= .ok (.pointer (some (a.add (i*es)))) w:=by
 have:(0:Int)<=(i:Int)/\(i:Int)< (len:Int):=⟨by omega,by omega⟩
 simp[Instr.indexAt,asIntOf,zax hu,za9 hn,hi]
theorem zxu{t e:TypeId}{es m:Nat}(hu:P.underlying t=some (.array m e))(hn:zaO P e=some es)(a:Addr)(k:IntKind)(i:Nat)(hi:i<m):
  (Instr.indexAt t (.pointer (some a)) (.int k i)).run P w= .ok (.pointer (some (a.add (i*es)))) w:=by
 simp[Instr.indexAt,asIntOf,zax hu,za9 hn,hi,Instr.sureAddr]
theorem zKm{t:TypeId}(hu:P.underlying t=some .string)(l:List UInt8)(k:IntKind)(i:Nat)(b:UInt8)(hb:l[i]? =some b):
  (Instr.index t (.string ⟨⟨l⟩⟩) (.int k i)).run P w= .ok (.int .u8 b.toNat) w:=by
 have hl:i< (ByteArray.mk ⟨l⟩).size:=by
  rw[ziF];exact (Z8.1 hb).1
 have hg:(ByteArray.mk ⟨l⟩)[i]? =some b:=by
  rw[ByteArray.getElem?_lt' _ _ hl];have:=(Z8.1 hb).2;rw[<-this];rfl
 simp[Instr.index,asIntOf,zax hu,hg]
theorem zKj{t e:TypeId}{m es:Nat}{g:Bool}(hu:P.underlying t=some (.array m e))(hg:ze2 P e=some g)(hn:zaO P e=some es){cs:List D}{x:Value}{d:D}
  {H:Array Obj}{μ:Mu}(hx:Rel H μ ρ c (.ag cs) x)(k:IntKind)(i:Nat)(hi:i<m)(hp:zcW g (i*es) es cs=some d):
  ∃v,(Instr.index t x (.int k i)).run P w= .ok v w/\Rel H μ ρ c d v:=by
 simp only[Rel]at hx;obtain⟨vs,e',hone,hr⟩ :=hx;subst e';obtain⟨v,h1,h2⟩ :=zvK (P:=P) (w:=w) hg hn hone hr hp;exact⟨v,by simp[Instr.index,asIntOf,zax hu,hi,za9 hn,h1],h2⟩
theorem zKg{cs:List D}{x:Value}{d:D}{i:Nat}{H:Array Obj}{μ:Mu}(hx:Rel H μ ρ c (.tu cs) x)(hd:cs[i]? =some d):
  ∃v,(Instr.extract x i).run P w= .ok v w/\Rel H μ ρ c d v:=by
 simp only[Rel]at hx;obtain⟨vs,e,hr⟩ :=hx;subst e;obtain⟨v,h1,h2⟩ :=hr.at i d hd;exact⟨v,by simp[Instr.extract,h1],h2⟩
def zeW(x:Value)(k:IntKind)(i y:Nat)(hx:x= .int k i)(hi:i<=y)(code:BoundsCode):(Instr.sliceBound x y code).run P w= .ok i w:=by
 subst hx;have:(0:Int)<=(i:Int)/\(i:Int)<=(y:Int):=⟨by omega,by omega⟩
 simp[Instr.sliceBound,asIntOf,hi]
def zeL(H:Array Obj)(μ:Mu)(ρ:Nat->Option Nat)(c:Nat->Prop)(x:Option D)(u:Option Value):Prop:=
 match x,u with
 |none,none=>True
 |some d,some v=>Rel H μ ρ c d v
 |_,_=>False
theorem zmJ{dflt:Nat}{x:Option D}{i:Nat}{u:Option Value}{H:Array Obj}{μ:Mu}(hi:zbN dflt x=some i)
  (hx:zeL H μ ρ c x u):
  (x=none/\u=none/\i=dflt)\/∃d v k,x=some d/\u=some v/\v= .int k (i:Int):=by
 cases x with
 |none=>
  cases u with
  |none=>simp[zbN]at hi;exact .inl ⟨rfl,rfl,hi.symm⟩
  |some v=>exact hx.elim
 |some d=>
  cases u with
  |none=>exact hx.elim
  |some v=>
   simp only[zbN]at hi;obtain⟨k,e⟩ :=zcX hi hx;exact .inr ⟨d,v,k,rfl,rfl,e⟩
theorem zlA{isS:Bool}{len cap:Nat}{lo hi:Option D}{lov hiv:Option Value}{l r:Nat}{H:Array Obj}{μ:Mu}
  (hlo:zeL H μ ρ c lo lov)(hhi:zeL H μ ρ c hi hiv)(hl:zbN 0 lo=some l)(hr:zbN len hi=some r)(h1:l<=r)(h2:r<=cap):
  (Instr.sliceBounds isS len cap lov hiv none).run P w= .ok (l,r,cap) w:=by
 rcases zmJ hl hlo with⟨_,e1,e2⟩ |⟨d,v,k,_,e1,e2⟩ <;>rcases zmJ hr hhi with⟨_,f1,f2⟩ |⟨d',v',k',_,f1,f2⟩
 .subst e1 f1 e2 f2;simp[Instr.sliceBounds]
 .subst e1 f1 e2;simp[Instr.sliceBounds,zeW v' k' r cap f2 h2]
 .subst e1 f1 f2;simp[Instr.sliceBounds,zeW v k l r e2 h1]
 .subst e1 f1;simp[Instr.sliceBounds,zeW v' k' r cap f2 h2,zeW v k l r e2 h1]
theorem zlB{isS:Bool}{len cap:Nat}{lo:Option D}{lov:Option Value}{hv mv:Value}{kh km:IntKind}{l r m:Nat}{H:Array Obj}{μ:Mu}
  (hlo:zeL H μ ρ c lo lov)(hl:zbN 0 lo=some l)(hh:hv= .int kh (r:Int))(hm:mv= .int km (m:Int))(h1:l<=r)(h2:r<=m)(h3:m<=cap):
  (Instr.sliceBounds isS len cap lov (some hv) (some mv)).run P w= .ok (l,r,m) w:=by
 rcases zmJ hl hlo with⟨_,e1,e2⟩ |⟨d,v,k,_,e1,e2⟩
 .subst e1 e2;simp[Instr.sliceBounds,zeW mv km m cap hm h3,zeW hv kh r m hh h2]
 .subst e1;simp[Instr.sliceBounds,zeW mv km m cap hm h3,zeW hv kh r m hh h2,zeW v k l r e2 h1]
theorem zKu{t:TypeId}(hu:P.underlying t=some .string)(l:List UInt8){lo hi:Option D}{lov hiv:Option Value}{a b:Nat}{H:Array Obj}{μ:Mu}
  (hlo:zeL H μ ρ c lo lov)(hhi:zeL H μ ρ c hi hiv)(ha:zbN 0 lo=some a)(hb:zbN l.length hi=some b)(h1:a<=b)(h2:b<=l.length):
  (Instr.sliceAt t (.string ⟨⟨l⟩⟩) lov hiv none).run P w= .ok (.string ⟨⟨(l.drop a).take (b - a)⟩⟩) w:=by
 have hb':=zlA (P:=P) (w:=w) (isS:=false) (cap:=l.length) hlo hhi ha hb h1 h2;simp[Instr.sliceAt,zax hu,Instr.slice,ziF,hb',zo1]
def zb7.cut{H:Array Obj}{μ:Mu}{b o es l r:Nat}{els:List (List F)}(hf:zb7 H μ b es o els):zb7 H μ b es (o+l*es) ((els.drop l).take (r - l)):=
 zb7.mk fun i el hel=>by
  rw[Z75]at hel;split at hel
  .rw[Z81]at hel;have:=hf.at (l+i) el hel
   rwa[Z35,<-Z82]at this
  .simp at hel
theorem zKt{t e:TypeId}{es:Nat}(hu:P.underlying t=some (.slice e))(hn:zaO P e=some es){x d:D}{u:Value}{rd:List Nat}
  {lo hi mx:Option D}{lov hiv mxv:Option Value}
  (hx:Rel w.heap (zal amb h ρ) ρ c x u)(hlo:zeL w.heap (zal amb h ρ) ρ c lo lov)(hhi:zeL w.heap (zal amb h ρ) ρ c hi hiv)(hmx:zeL w.heap (zal amb h ρ) ρ c mx mxv)
  (hmh:mx.isSome=true->hi.isSome=true)(hs:sliceB es h x lo hi mx=some (d,rd)):
  ∃v,(Instr.sliceAt t u lov hiv mxv).run P w= .ok v w/\Rel w.heap (zal amb h ρ) ρ c d v:=by
 have two:∀{len cap l r:Nat} (a:Addr),mxv=none->zbN 0 lo=some l->zbN len hi=some r->l<=r->r<=cap->
   (Instr.sliceAt t (.slice (some a) len cap) lov hiv mxv).run P w= .ok (.slice (some (if cap=l then a else a.add (l*es))) (r - l) (cap - l)) w:=by
  intro len cap l r a hm hl hr h1 h2;subst hm;have hb:=zlA (P:=P) (w:=w) (isS:=true) hlo hhi hl hr h1 h2;simp[Instr.sliceAt,zax hu,Instr.slice,hb,za9 hn];split<;>simp_all
 unfold sliceB at hs;split at hs
 .simp only[Rel,zaj]at hx;subst hx;split at hs
  .rename_i e1 e2 e3;simp at hs;obtain⟨rfl,_⟩ :=hs;refine⟨.slice none 0 0,?_,by simp only[Rel,zaj]⟩;cases mx with
   |none=>
    have:mxv=none:=by cases mxv<;>simp_all [zeL]
    subst this;have hb:=zlA (P:=P) (w:=w) (isS:=true) hlo hhi e1 e2 (Z2 0) (Z2 0);simp[Instr.sliceAt,zax hu,Instr.slice,hb,za9 hn]
   |some m=>
    have hhs:=hmh rfl;cases hi with
    |none=>simp at hhs
    |some hd=>
     cases mxv with
     |none=>exact hmx.elim
     |some mv=>
      cases hiv with
      |none=>exact hhi.elim
      |some hv=>
       obtain⟨km,em⟩ :=zcX e3 hmx;obtain⟨kh,eh⟩ :=zcX e2 hhi;have hb:=zlB (P:=P) (w:=w) (isS:=true) (len:=0) (cap:=0) hlo e1 eh em (Z2 0) (Z2 0) (Z2 0);simp[Instr.sliceAt,zax hu,Instr.slice,hb,za9 hn]
  .simp at hs
 .rename_i es' els;simp only[Rel,zaj]at hx;obtain⟨a0,cap,e',hcap,b,o,ha0,hf⟩ :=hx;subst e';split at hs
  .rename_i m;split at hs
   .rename_i l r m' e1 e2 em';split at hs
    .rename_i hc;obtain⟨rfl,h1,h2,h2m⟩ :=hc;simp at hs;obtain⟨rfl,_⟩ :=hs;have hhs:=hmh rfl;have hlen:((els.drop l).take (r - l)).length=r - l:=by simp;omega
     cases hi with
     |none=>simp at hhs
     |some hd=>
      cases mxv with
      |none=>exact hmx.elim
      |some mv=>
       cases hiv with
       |none=>exact hhi.elim
       |some hv=>
        obtain⟨km,em⟩ :=zcX em' hmx;obtain⟨kh,eh⟩ :=zcX e2 hhi;have hb:=zlB (P:=P) (w:=w) (isS:=true) (len:=els.length) (cap:=cap) hlo e1 eh em h1 h2 (Z3 h2m hcap);refine⟨.slice (some (if m'=l then a0 else a0.add (l*es))) (r - l) (m' - l),?_,?_⟩
        .simp[Instr.sliceAt,zax hu,Instr.slice,hb,za9 hn];split<;>simp_all
        .simp only[Rel,zaj];rw[hlen];refine⟨_,m' - l,rfl,by omega,b,o+l*es,fun hne=> ?_,hf.cut⟩;have hrl:r - l≠0:=fun e=>hne (Z83 (by rw[hlen];exact e))
         rw[Z49 (by omega),ha0 (fun e=>by rw[e]at h2m;simp at h2m;omega),zcM]
    .simp at hs
   .simp at hs
  .have hmv:mxv=none:=by cases mxv<;>simp_all [zeL]
   split at hs
   .rename_i l r e1 e2;split at hs
    .rename_i hc;obtain⟨rfl,h1,h2⟩ :=hc;simp at hs;obtain⟨rfl,_⟩ :=hs;have hlen:((els.drop l).take (r - l)).length=r - l:=by simp;omega
     refine⟨_,two a0 hmv e1 e2 h1 (by omega),?_⟩;simp only[Rel,zaj];rw[hlen];refine⟨_,cap - l,rfl,by omega,b,o+l*es,fun hne=> ?_,hf.cut⟩;have hrl:r - l≠0:=fun e=>hne (Z83 (by rw[hlen];exact e))
     rw[Z49 (by omega),ha0 (fun e=>by rw[e]at h2;simp at h2;omega),zcM]
    .simp at hs
   .simp at hs
 .rename_i id off len es' lim ex;simp only[Rel]at hx;obtain⟨hid,a,cap,e',h1,h2,h3,h4⟩ :=hx;subst e';split at hs
  .rename_i es'' ro els ho;split at hs
   .rename_i l r e1 e2;split at hs
    .rename_i hc;obtain⟨rfl,rfl,q1,q3⟩ :=hc;have hrc:r<=cap:=by omega
     split at hs
     .have hmv:mxv=none:=by cases mxv<;>simp_all [zeL]
      simp at hs;obtain⟨rfl,_⟩ :=hs;refine⟨_,two a hmv e1 e2 q1 hrc,?_⟩;simp only[Rel];refine⟨hid,_,_,rfl,by omega,by omega,fun hx=>by have:=h3 hx;omega,fun b hb=> ?_⟩;obtain⟨k1,e3,n,k2,k3⟩ :=h4 b hb;refine⟨fun hne=> ?_,e3,n,k2,by rw[show off+l+(cap - l)=off+cap by omega];exact k3⟩;rw[Z49 (by omega),k1 (by omega),zcM,Z35]
     .rename_i m;split at hs
      .rename_i m' em';split at hs
       .rename_i hm;obtain⟨m1,m2⟩ :=hm;simp at hs;obtain⟨rfl,_⟩ :=hs;have hhs:=hmh rfl;cases hi with
        |none=>simp at hhs
        |some hd=>
         cases mxv with
         |none=>exact hmx.elim
         |some mv=>
          cases hiv with
          |none=>exact hhi.elim
          |some hv=>
           obtain⟨km,em⟩ :=zcX em' hmx;obtain⟨kh,eh⟩ :=zcX e2 hhi;have hb:=zlB (P:=P) (w:=w) (isS:=true) (len:=len) (cap:=cap) hlo e1 eh em q1 m1 (by omega);refine⟨.slice (some (if m'=l then a else a.add (l*es))) (r - l) (m' - l),?_,?_⟩
           .simp[Instr.sliceAt,zax hu,Instr.slice,hb,za9 hn];split<;>simp_all
           .simp only[Rel];refine⟨hid,_,_,rfl,by omega,by omega,fun _=>by omega,fun b hb=> ?_⟩;obtain⟨k1,e3,n,k2,k3⟩ :=h4 b hb;refine⟨fun hne=> ?_,e3,n,k2,?_⟩
            .rw[Z49 (by omega),k1 (by omega),zcM,Z35]
            .exact Z3 (Z9 es (by omega)) k3
       .simp at hs
      .simp at hs
    .simp at hs
   .simp at hs
  .simp at hs
 .simp at hs
theorem run_eq_of{t:TypeId}{x y:Operand}{u u':Value}{r ne:Bool}(hg:∀op,eqGuard op t x y u u'=pure ())
  (hb1:Go.binOp .eql t u u'=(do pure (.bool (<-Go.Op.equal t u u'))))(hb2:Go.binOp .neq t u u'=(do pure (.bool (!(<-Go.Op.equal t u u')))))
  (he:∀d,(Go.Op.equalIn (d+1) t u u').run P w= .ok r w):
  ((do eqGuard (if ne then .neq else .eql) t x y u u';Go.binOp (if ne then .neq else .eql) t u u'):Sem Value).run P w= .ok (.bool (if ne then !r else r)) w:=by
 have he':(Go.Op.equal t u u').run P w= .ok r w:=he 9999;cases ne
 .simp[hg,hb1,he']
 .simp[hg,hb2,he']
theorem zKb{t:TypeId}(hu:P.underlying t=some .bool)(x y:Operand)(p q:Bool)(ne:Bool):
  ((do eqGuard (if ne then .neq else .eql) t x y (.bool p) (.bool q);Go.binOp (if ne then .neq else .eql) t (.bool p) (.bool q)):Sem Value).run P w=
   .ok (.bool (if ne then !(p==q)else p==q)) w:=
 run_eq_of (fun op=>by cases op<;>rfl) rfl rfl fun d=>by simp only[Go.Op.equalIn,Sem.run_bind,zax hu,Result.andThen_ok,Sem.run_pure]
theorem zu7{kd:Nat}{d:D}{q:Bool}{u:Value}{H:Array Obj}{μ:Mu}(hq:zrM kd d=some q)(hx:Rel H μ ρ c d u):
  (kd=0/\((q=true/\u= .slice none 0 0)\/(q=false/\∃a l k,u= .slice (some a) l k)))\/
  (kd=1/\((q=true/\u= .pointer none)\/(q=false/\∃a,u= .pointer (some a))))\/
  (kd=2/\((q=true/\u= .map none)\/(q=false/\∃a,u= .map (some a))))\/
  (kd=3/\((q=true/\u= .nilFunc)\/(q=false/\∃f a b,u= .func f a b))):=by
 unfold zrM at hq;split at hq<;>simp at hq<;>subst hq<;>simp only[Rel,zaj]at hx
 .exact .inl ⟨rfl,.inl ⟨rfl,hx⟩⟩
 .obtain⟨a,cap,e,_⟩ :=hx;exact .inl ⟨rfl,.inr ⟨rfl,_,_,_,e⟩⟩
 .obtain⟨_,a,cap,e,_⟩ :=hx;exact .inl ⟨rfl,.inr ⟨rfl,_,_,_,e⟩⟩
 .exact .inr (.inl ⟨rfl,.inl ⟨rfl,hx⟩⟩)
 .obtain⟨_,a,e,_⟩ :=hx;exact .inr (.inl ⟨rfl,.inr ⟨rfl,_,e⟩⟩)
 .obtain⟨b,o,e,_⟩ :=hx;exact .inr (.inl ⟨rfl,.inr ⟨rfl,_,e⟩⟩)
 .exact .inr (.inr (.inl ⟨rfl,.inl ⟨rfl,hx⟩⟩))
 .obtain⟨_,a,e,_⟩ :=hx;exact .inr (.inr (.inl ⟨rfl,.inr ⟨rfl,_,e⟩⟩))
 .exact .inr (.inr (.inr ⟨rfl,.inl ⟨rfl,hx⟩⟩))
 .exact .inr (.inr (.inr ⟨rfl,.inr ⟨rfl,_,_,_,hx⟩⟩))
 .obtain⟨vs,us,e,_⟩ :=hx;exact .inr (.inr (.inr ⟨rfl,.inr ⟨rfl,_,_,_,e⟩⟩))
def zAr:TypeDesc->Option Nat
 | .slice _=>some 0
 | .pointer _=>some 1
 | .map _ _=>some 2
 | .func _ _ _=>some 3
 |_=>none
theorem zKc{t:TypeId}{td:TypeDesc}{kd:Nat}(hu:P.underlying t=some td)(hk:zAr td=some kd)(x y:Operand){d d':D}{u u':Value}{r ne:Bool}{H:Array Obj}{μ:Mu}
    (hx:Rel H μ ρ c d u)(hy:Rel H μ ρ c d' u')(hr:zs9 kd d d'=some r):
    ((do eqGuard (if ne then .neq else .eql) t x y u u';Go.binOp (if ne then .neq else .eql) t u u'):Sem Value).run P w= .ok (.bool (if ne then !r else r)) w:=by
  unfold zs9 at hr;have key:∀q q',zrM kd d=some q->zrM kd d'=some q'->(q=true\/q'=true)->r=(q&&q')->
      ((do eqGuard (if ne then .neq else .eql) t x y u u';Go.binOp (if ne then .neq else .eql) t u u'):Sem Value).run P w= .ok (.bool (if ne then !r else r)) w:=by
    intro q q' hq hq' hor hrr;subst hrr;rcases zu7 hq hx with⟨k,h1⟩ |⟨k,h1⟩ |⟨k,h1⟩ |⟨k,h1⟩ <;>rcases zu7 hq' hy with⟨k',h2⟩ |⟨k',h2⟩ |⟨k',h2⟩ |⟨k',h2⟩ <;>
      first
        |(exfalso;omega)
        | (subst k
           cases td<;>simp[zAr]at hk;rcases h1 with⟨rfl,rfl⟩ |⟨rfl,e⟩ <;>rcases h2 with⟨rfl,rfl⟩ |⟨rfl,e'⟩ <;>
             first
               |(simp at hor;done)
               |exact run_eq_of (fun op=>by cases op<;>rfl) rfl rfl fun d=>by simp only[Go.Op.equalIn,Sem.run_bind,zax hu,Result.andThen_ok,Sem.run_pure];rfl
               | (first|obtain⟨_,_,_,rfl⟩ :=e'|obtain⟨_,rfl⟩ :=e'|obtain⟨_,_,_,rfl⟩ :=e|obtain⟨_,rfl⟩ :=e
                  exact run_eq_of (fun op=>by cases op<;>rfl) rfl rfl fun d=>by simp only[Go.Op.equalIn,Sem.run_bind,zax hu,Result.andThen_ok,Sem.run_pure];rfl))
  split at hr
  . rename_i q h1 h2;simp at hr;subst hr;exact key true q h1 h2 (.inl rfl) (by simp)
  . rename_i q hne h1 h2;simp at hr;subst hr;exact key q true h1 h2 (.inr rfl) (by simp)
  . simp at hr
end
end Go.Vse
end
section
namespace Go.Vse
variable [Globs]
open Go.RowKit
section
variable {P:Program}{w:World}{amb:Mu}{h:Hp}{ρ:Nat->Option Nat}{c:Nat->Prop}
theorem zgs:∀(k1 k2:List Nat) (a b:List D) (r:Bool),za8 (k1++k2) a b=some r->
  ∃r1 r2,za8 k1 (a.take k1.length) (b.take k1.length)=some r1/\za8 k2 (a.drop k1.length) (b.drop k1.length)=some r2/\r=(r1&&r2)
 |[],k2,a,b,r,hr=>⟨true,r,by simp[za8],by simpa using hr,by simp⟩
 |k::k1,k2,a,b,r,hr=>by
  rw[Z29]at hr;unfold za8 at hr;split at hr
  .simp_all
  .rename_i ks i x l i' y m heq;simp at heq;obtain⟨rfl,rfl⟩ :=heq;split at hr
   .rename_i hii;split at hr
    .rename_i r' hr';simp at hr;subst hr;obtain⟨r1,r2,h1,h2,h3⟩ :=zgs k1 k2 l m r' hr';refine⟨(x==y)&&r1,r2,?_,by simpa using h2,by rw[h3,Z155]⟩;simp[za8,hii,h1]
    .simp at hr
   .simp at hr
  .rename_i ks x l y m heq;simp at heq;obtain⟨rfl,rfl⟩ :=heq;split at hr
   .rename_i r' hr';simp at hr;subst hr;obtain⟨r1,r2,h1,h2,h3⟩ :=zgs k1 k2 l m r' hr';refine⟨(x==y)&&r1,r2,?_,by simpa using h2,by rw[h3,Z155]⟩;simp[za8,h1]
   .simp at hr
  .rename_i ks x l y m heq;simp at heq;obtain⟨rfl,rfl⟩ :=heq;split at hr
   .rename_i r' hr';simp at hr;subst hr;obtain⟨r1,r2,h1,h2,h3⟩ :=zgs k1 k2 l m r' hr';refine⟨(x==y)&&r1,r2,?_,by simpa using h2,by rw[h3,Z155]⟩;simp[za8,h1]
   .simp at hr
  .simp at hr
theorem zlm:∀(ks:List Nat) (a b:List D) (r:Bool),za8 ks a b=some r->a.length=ks.length/\b.length=ks.length
  | [],a,b,r,hr=>by
    unfold za8 at hr;split at hr<;>simp_all
  | k::ks,a,b,r,hr=>by
    unfold za8 at hr;split at hr
    . simp_all
    all_goals first
      |(simp at hr;done)
      | (rename_i heq
         simp at heq;obtain⟨rfl,rfl⟩ :=heq
         (try split at hr)
         · (try split at hr)
           . rename_i r' hr';have:=zlm ks _ _ r' hr';simp[this.1,this.2]
           . simp at hr
         . simp at hr)
      | (rename_i heq
         simp at heq;obtain⟨rfl,rfl⟩ :=heq;split at hr
         . rename_i r' hr';have:=zlm ks _ _ r' hr';simp[this.1,this.2]
         . simp at hr)
def zlo{a b:List D}{r:Bool}(hr:za8 [] a b=some r):a=[]/\b=[]/\r=true:=by
 unfold za8 at hr;split at hr<;>simp_all
def zB2{a b:List D}{r:Bool}(hr:za8 [0] a b=some r):∃k x y,a=[.f (.i k x)]/\b=[.f (.i k y)]/\r=(x==y):=by
 unfold za8 at hr;split at hr
 .simp_all
 .rename_i ks k x l k' y m heq;simp at heq;subst heq;split at hr
  .rename_i hk;split at hr
   .rename_i r' hr';obtain⟨rfl,rfl,rfl⟩ :=zlo hr';simp at hr;exact⟨k,x,y,rfl,by rw[hk],hr.symm⟩
   .simp at hr
  .simp at hr
 .simp_all
 .simp_all
 .simp at hr
def zB3{a b:List D}{r:Bool}(hr:za8 [1] a b=some r):∃x y,a=[.f (.s x)]/\b=[.f (.s y)]/\r=(x==y):=by
 unfold za8 at hr;split at hr
 .simp_all
 .simp_all
 .rename_i ks x l y m heq;simp at heq;subst heq;split at hr
  .rename_i r' hr';obtain⟨rfl,rfl,rfl⟩ :=zlo hr';simp at hr;exact⟨x,y,rfl,rfl,hr.symm⟩
  .simp at hr
 .simp_all
 .simp at hr
def zB4{a b:List D}{r:Bool}(hr:za8 [2] a b=some r):∃x y,a=[.f (.b x)]/\b=[.f (.b y)]/\r=(x==y):=by
 unfold za8 at hr;split at hr
 .simp_all
 .simp_all
 .simp_all
 .rename_i ks x l y m heq;simp at heq;subst heq;split at hr
  .rename_i r' hr';obtain⟨rfl,rfl,rfl⟩ :=zlo hr';simp at hr;exact⟨x,y,rfl,rfl,hr.symm⟩
  .simp at hr
 .simp at hr
def tv(g:Bool)(vs:List Value):Value:=if g then .agg ⟨vs⟩else vs.headD undef
def zaq.take{H:Array Obj}{μ:Mu}{a:List D}{vs:List Value}(hr:zaq H μ ρ c a vs)(n:Nat):zaq H μ ρ c (a.take n) (vs.take n):=
 zaq.mk (by simp[hr.len]) fun j d v hd hv=>by
  rw[Z75]at hd hv;split at hd
  .rename_i hj;simp only[hj,Z60]at hv;obtain⟨v',h1,h2⟩ :=hr.at j d hd;rw[hv]at h1;cases h1;exact h2
  .simp at hd
def zaq.drop{H:Array Obj}{μ:Mu}{a:List D}{vs:List Value}(hr:zaq H μ ρ c a vs)(n:Nat):zaq H μ ρ c (a.drop n) (vs.drop n):=
 zaq.mk (by simp[hr.len]) fun j d v hd hv=>by
  rw[Z81]at hd hv;obtain⟨v',h1,h2⟩ :=hr.at _ d hd;rw[hv]at h1;cases h1;exact h2
theorem zoX{t:TypeId}{g:Bool}{n off:Nat}(hg:ze2 P t=some g)(hn:zaO P t=some n)(vs:List Value)(hl:off+n<=vs.length)(h1:g=false->n=1):
  (part t ⟨vs⟩ off).run P w= .ok (tv g ((vs.drop off).take n)) w:=by
 unfold part;rw[Sem.run_bind,znV hg];cases g with
 |true=>
  simp[za9 hn,tv]
  try rw[List.extract_eq_take_drop]
  try simp
 |false=>
  have:=h1 rfl;subst this;have hlt:off<vs.length:=by omega
  simp[tv,hlt,List.head?_take,List.head?_drop]
theorem zvJ:∀(k:Nat) (t:TypeId) (ks:List Nat) (g:Bool),flatK P k t=some ks->ze2 P t=some g->
  (g=false->ks.length=1)/\∀(d:Nat),k<=d->∀(w:World) (a b:List D) (vs us:List Value) (r:Bool) (H:Array Obj) (μ:Mu),
   zaq H μ ρ c a vs->zaq H μ ρ c b us->za8 ks a b=some r->(Go.Op.equalIn d t (tv g vs) (tv g us)).run P w= .ok r w
 |0,t,ks,g,hk,_=>by simp[flatK]at hk
 |k+1,t,ks,g,hk,hg=>by
  unfold flatK at hk;have one:∀{x:D} {vs:List Value} {H:Array Obj} {μ:Mu} {l:List D},zaq H μ ρ c (x::l) vs->∃v,tv false vs=v/\Rel H μ ρ c x v:=by
   intro x vs H μ l hr;simp only[zaq]at hr;obtain⟨v,m,e,h1,_⟩ :=hr;subst e;exact⟨v,rfl,h1⟩
  split at hk
  .rename_i kk hu;simp at hk;subst hk;have hgf:g=false:=by cases g<;>simp_all [ze2]
   subst hgf;refine⟨fun _=>rfl,fun d hd w a b vs us r H μ ha hb hr=> ?_⟩;obtain⟨k,x,y,rfl,rfl,rfl⟩ :=zB2 hr;obtain⟨v,e1,r1⟩ :=one ha;obtain⟨u,e2,r2⟩ :=one hb;simp only[Rel,zaj]at r1 r2;obtain⟨d',rfl⟩ :∃d',d=d'+1:=⟨d - 1,by omega⟩
   rw[e1,e2,r1,r2,run_equalIn_int w d' t _ _ _ _ hu]
  .rename_i hu;simp at hk;subst hk;have hgf:g=false:=by cases g<;>simp_all [ze2]
   subst hgf;refine⟨fun _=>rfl,fun d hd w a b vs us r H μ ha hb hr=> ?_⟩;obtain⟨x,y,rfl,rfl,rfl⟩ :=zB3 hr;obtain⟨v,e1,r1⟩ :=one ha;obtain⟨u,e2,r2⟩ :=one hb;simp only[Rel,zaj]at r1 r2;obtain⟨d',rfl⟩ :∃d',d=d'+1:=⟨d - 1,by omega⟩
   rw[e1,e2,r1,r2,run_equalIn_string w d' t _ _ hu,zq3,zq3]
  .rename_i hu;simp at hk;subst hk;have hgf:g=false:=by cases g<;>simp_all [ze2]
   subst hgf;refine⟨fun _=>rfl,fun d hd w a b vs us r H μ ha hb hr=> ?_⟩;obtain⟨x,y,rfl,rfl,rfl⟩ :=zB4 hr;obtain⟨v,e1,r1⟩ :=one ha;obtain⟨u,e2,r2⟩ :=one hb;simp only[Rel,zaj]at r1 r2;obtain⟨d',rfl⟩ :∃d',d=d'+1:=⟨d - 1,by omega⟩
   rw[e1,e2,r1,r2,run_equalIn_bool' w d' t _ _ hu]
  .rename_i fs hu;split at hk
   .simp at hk
   .rename_i hst;have hgt:g=true:=by cases g<;>simp_all [ze2]
    subst hgt;refine⟨fun e=>by simp at e,fun d hd w a b vs us r H μ ha hb hr=> ?_⟩;obtain⟨d',rfl⟩ :∃d',d=d'+1:=⟨d - 1,by omega⟩
    have hfs:P.fieldsOf t=fs:=by simp[Program.fieldsOf,hu]
    simp only[tv,Z60];rw[run_equalIn_struct w d' t _ _ (by rw[hfs];exact hu) (by simpa using hst),hfs];have key:∀(l:List Field) (off:Nat) (ks:List Nat) (r:Bool),zqp (flatK P k) (zaO P) l off=some ks->za8 ks (a.drop off) (b.drop off)=some r->
      off+ks.length<=a.length->off+ks.length<=b.length->(Go.Op.eqFields d' ⟨vs⟩ ⟨us⟩ l).run P w= .ok r w:=by
     intro l
     induction l with
     |nil=>
      intro off ks r hl hr _ _;simp[zqp]at hl;subst hl;unfold za8 at hr;split at hr<;>simp_all [Go.Op.eqFields]
     |cons f l ih=>
      intro off ks r hl hr hlen hlen';unfold zqp at hl;split at hl
      .simp at hl
      .rename_i hno;have hname:f.name≠ "_" :=fun e=>hno (.inl e)
       have hoff:f.offset=off:=by
        rcases Nat.decEq f.offset off with e|e
        .exact absurd (.inr e) hno
        .exact e
       split at hl
       .rename_i kf n hkf hn;split at hl
        .rename_i hnl;split at hl
         .rename_i m hm;simp at hl;subst hl;obtain⟨r1,r2,e1,e2,e3⟩ :=zgs kf m _ _ r hr;have hgf:∃gf,ze2 P f.type=some gf:=by
           unfold ze2;cases k with
           |zero=>simp[flatK]at hkf
           |succ k=>
            unfold flatK at hkf;split at hkf<;>simp_all
          obtain⟨gf,hgf⟩ :=hgf;obtain⟨q1,q2⟩ :=zvJ k f.type kf gf hkf hgf;have pa:=zoX (P:=P) (w:=w) (off:=off) hgf hn vs (by rw[ha.len];simp at hlen;omega) (fun e=>by rw[hnl];exact q1 e);have pb:=zoX (P:=P) (w:=w) (off:=off) hgf hn us (by rw[hb.len];simp at hlen';omega) (fun e=>by rw[hnl];exact q1 e);have qe:=q2 d' (by omega) w _ _ _ _ r1 H μ ((ha.drop off).take n) ((hb.drop off).take n) (by rw[hnl];exact e1);simp only[Go.Op.eqFields,ne_eq,hname,not_false_eq_true,Z60,hoff,Sem.run_bind,pa,pb,qe,Result.andThen_ok];cases r1 with
          |false=>simp[e3]
          |true=>
           simp only[Z89,Z52,Z63];have:=ih (off+n) m r2 hm (by rw[Z175,Z175]at e2;rw[hnl];exact e2) (by simp at hlen;omega) (by simp at hlen';omega);rw[this,e3];simp
         .simp at hl
        .simp at hl
       .simp at hl
    have:=zlm _ _ _ _ hr;exact key fs.toList 0 ks r hk (by simpa using hr) (by omega) (by omega)
  .simp at hk
theorem zJ8{t:TypeId}{fs:Array Field}{ks:List Nat}(hu:P.underlying t=some (.struct fs))(hk:flatK P 10 t=some ks)(hgd:P.eqGuardType P.depth t=false)
  (x y:Operand){a b:List D}{u u':Value}{r ne:Bool}{H:Array Obj}{μ:Mu}(hx:Rel H μ ρ c (.ag a) u)(hy:Rel H μ ρ c (.ag b) u')(hr:za8 ks a b=some r):
  ((do eqGuard (if ne then .neq else .eql) t x y u u';Go.binOp (if ne then .neq else .eql) t u u'):Sem Value).run P w= .ok (.bool (if ne then !r else r)) w:=by
 simp only[Rel]at hx hy;obtain⟨vs,rfl,_,ha⟩ :=hx;obtain⟨us,rfl,_,hb⟩ :=hy;have hq:=(zvJ (ρ:=ρ) (c:=c) 10 t ks true hk (by simp[ze2,hu])).2 10000 (by omega) w a b vs us r H μ ha hb hr;simp only[tv,Z60]at hq;cases ne
 .simp[run_eqGuard_agg,hgd,run_eql_struct,hq]
 .simp[run_eqGuard_agg,hgd,run_neq_struct,hq]
end
end Go.Vse
end
section
namespace Go.Vse
variable [Globs]
open Go.RowKit
section
variable {P:Program}{w:World}{amb:Mu}{h:Hp}{ρ:Nat->Option Nat}{c:Nat->Prop}
theorem zaq.app{H:Array Obj}{μ:Mu}:∀{a b:List D} {x y:List Value},zaq H μ ρ c a x->zaq H μ ρ c b y->zaq H μ ρ c (a++b) (x++y)
 |[],b,x,y,h1,h2=>by simp only[zaq]at h1;subst h1;exact h2
 |d::a,b,x,y,h1,h2=>by
  simp only[zaq]at h1;obtain⟨v,m,rfl,hv,hm⟩ :=h1;simp only[Z29,zaq];exact⟨v,m++y,rfl,hv,zaq.app hm h2⟩
theorem za5{α:Type}{es:Nat}:∀{els:List (List α)},(∀e∈els,e.length=es)->els.flatten.length=els.length*es
 |[],_=>by simp
 |e::l,hl=>by
  simp only[Z91,Z16,Z23];rw[za5 fun x hx=>hl x (by simp[hx]),hl e (by simp),Z35];omega
theorem zhq{α:Type}{es:Nat}:∀{els:List (List α)},(∀e∈els,e.length=es)->∀k,(els.take k).flatten=els.flatten.take (k*es)
 |[],_,k=>by simp
 |e::l,hl,0=>by simp
 |e::l,hl,k+1=>by
  simp only[Z180,Z91];have he:=hl e (by simp);have hk:(k+1)*es=k*es+es:=by rw[Z35,Z177]
  rw[zhq fun x hx=>hl x (by simp[hx]),Z204,hk,Z11 (l:=e) (by omega),he,Z152]
theorem zi6{α:Type}{es:Nat}:∀{els:List (List α)},(∀e∈els,e.length=es)->∀k,(els.drop k).flatten=els.flatten.drop (k*es)
 |[],_,k=>by simp
 |e::l,hl,0=>by simp
 |e::l,hl,k+1=>by
  simp only[List.drop_succ_cons,Z91];have he:=hl e (by simp);have hk:(k+1)*es=k*es+es:=by rw[Z35,Z177]
  rw[zi6 fun x hx=>hl x (by simp[hx]),Z167,hk,Z24 (l:=e) (by omega),he,Z152,Z28]
theorem flat_get{α:Type}{es:Nat}{els:List (List α)}(hl:∀e∈els,e.length=es){i j:Nat}{e:List α}{d:α}(hi:els[i]? =some e)(hj:e[j]? =some d):
  els.flatten[i*es+j]? =some d:=by
 have h1:=zi6 hl i;have h2:els.drop i=e::els.drop (i+1):=by
  have:=(Z8.1 hi)
  obtain⟨hlt,heq⟩ :=this;rw[Z55 hlt,heq]
 rw[h2,Z91]at h1;have hjl:j<e.length:=(Z8.1 hj).1;have:=Z81 (xs:=els.flatten) (i:=i*es) (j:=j);rw[<-this,<-h1,Z54 hjl];exact hj
theorem zjT{α:Type}{es:Nat}:∀{els:List (List α)},(∀e∈els,e.length=es)->∀{k:Nat} {d:α},els.flatten[k]? =some d->
  ∃i e j,k=i*es+j/\els[i]? =some e/\e[j]? =some d
 |[],_,k,d,hk=>by simp at hk
 |e::l,hl,k,d,hk=>by
  simp only[Z91]at hk
  by_cases hlt:k<e.length
  .rw[Z54 hlt]at hk;exact⟨0,e,k,by simp,rfl,hk⟩
  .rw[Z62 (by omega)]at hk;obtain⟨i,e',j,h1,h2,h3⟩ :=zjT (fun x hx=>hl x (by simp[hx])) hk;have he:=hl e (by simp);exact⟨i+1,e',j,by rw[Z35];omega,by simpa using h2,h3⟩
theorem zsA{es:Nat}{els:List (List D)}(hl:∀e∈els,e.length=es){i j:Nat}{el el' cs:List D}(hi:els[i]? =some el)(ho:over el j cs=some el'):
  (els.set i el').flatten=els.flatten.take (i*es+j)++cs++els.flatten.drop (i*es+j+cs.length)/\el'.length=es/\j+cs.length<=es:=by
 unfold over at ho;split at ho
 .rename_i hle;simp at ho;subst ho;obtain⟨hlt,heq⟩ :=Z8.1 hi;have hel:el.length=es:=hl el (Z39 hi);have hsplit:els=els.take i++el::els.drop (i+1):=by
   rw[<-heq,<-Z55 hlt,Z94]
  have hA:(els.take i).flatten.length=i*es:=by
   rw[za5 fun x hx=>hl x (Z13 hx)];simp;rw[Z73 (by omega)]
  have hF:els.flatten=(els.take i).flatten++(el++(els.drop (i+1)).flatten):=by
   conv=>lhs;rw[hsplit]
   simp
  refine⟨?_,by simp;omega,by omega⟩;rw[Z191,Z51 hlt,hF];simp only[Z71,Z91];generalize (els.take i).flatten=A at hA;generalize (els.drop (i+1)).flatten=B;have e1:(A++(el++B)).take (i*es+j)=A++el.take j:=by
   rw[Z204,Z11 (l:=A) (by omega),hA,Nat.add_sub_cancel_left,Z27 (by omega)]
  have e2:(A++(el++B)).drop (i*es+j+cs.length)=el.drop (j+cs.length)++B:=by
   rw[Z167,Z24 (l:=A) (by omega),hA,show i*es+j+cs.length - i*es=j+cs.length by omega,
    List.drop_append_of_le_length (by omega),Z28]
  rw[e1,e2];simp
 .simp at ho
theorem zsw{H:Array Obj}{μ:Mu}{b es ro:Nat}{els:List (List D)}{cells:Array Value}{elem:TypeId}{fr:Nat×Nat}(hb:H[b]? =some (.cells cells elem fr))
  (hfr:zgX fr cells.size els)(hel:∀e∈els,e.length=es){vs rest:List Value}(hc:cells.toList=vs++rest)
  (hr:zaq H μ ρ c els.flatten vs)(hone:∀u∈vs,u.oneCell'=true):zeK H μ ρ c b (.arr es ro els):=by
 have hlen:vs.length=els.length*es:=by rw[hr.len,za5 hel]
 have hsz:cells.size=vs.length+rest.length:=by rw[<-Z72,hc,Z16]
 refine⟨cells,elem,fr,hb,hfr,by omega,hel,fun i el hi j d hj=> ?_⟩;obtain⟨v,hv,hrel⟩ :=hr.at _ d (flat_get hel hi hj);refine⟨v,?_,hone v (Z39 hv),hrel⟩;rw[<-Z69,hc,Z54 (Z8.1 hv).1];exact hv
theorem zeK.flat{H:Array Obj}{μ:Mu}{b es ro:Nat}{els:List (List D)}(ho:zeK H μ ρ c b (.arr es ro els)):
  ∃cells elem fr vs rest,H[b]? =some (.cells cells elem fr)/\zgX fr cells.size els/\(∀e∈els,e.length=es)/\
   cells.toList=vs++rest/\zaq H μ ρ c els.flatten vs/\∀u∈vs,u.oneCell'=true:=by
 obtain⟨cs,elem,fr,h1,h2,h3,h4,h5⟩ :=ho;have hfl:=za5 h4;have key:∀(k:Nat) d,els.flatten[k]? =some d->∃v,zbn H b (0+k)=some v/\v.oneCell'=true/\Rel H μ ρ c d v:=by
  intro k d hk;obtain⟨i,e,j,rfl,hi,hj⟩ :=zjT h4 hk;obtain⟨v,hv,ho,hr⟩ :=h5 i e hi j d hj;exact⟨v,by rw[zgg h1,Z25];exact hv,ho,hr⟩
 obtain⟨vs,r1,r2,r3⟩ :=zj2 els.flatten 0 key;have hvl:vs.length=els.length*es:=by rw[r1.len,hfl]
 refine⟨cs,elem,fr,vs,cs.toList.drop vs.length,h1,h2,h4,?_,r1,r2⟩;apply Z107;intro k
 by_cases hk:k<vs.length
 .rw[Z54 hk];have:=r3 k (vs[k]) (by simp[hk]);rw[zgg h1,Z25]at this;rw[Z69,this];simp[hk]
 .rw[Z62 (by omega),Z81]
  congr 1
  omega
theorem Sim.write(s:Sim amb w.heap h ρ c){id es ro:Nat}{els els':List (List D)}(ho:h id=some (.arr es ro els)){b o:Nat}(hb:ρ id=some b)
  {nf:List D}{nv:List Value}(hnv:zaq w.heap (zal amb h ρ) ρ c nf nv)(hone:∀u∈nv,u.oneCell'=true)(hro:ro*es<=o\/nv=[])
  (hol:o<=els.flatten.length){e:TypeId}{n:Nat}(hsh:zcZ w.heap b=some (e,n))(hon:o+nv.length<=n)
  (hel':∀x∈els',x.length=es)(hfl:els'.flatten=els.flatten.take o++nf++els.flatten.drop (o+nf.length))(hhd:ze5 els els'=true)(W:Nat->Prop)(hW:W id):
  ∃w',(storeCells ⟨b,o,none⟩ nv).run P w= .ok () w'/\Base w w'/\Sim amb w'.heap (upd h id (some (.arr es ro els'))) ρ c/\
   Evo amb W w.heap h ρ c w'.heap (upd h id (some (.arr es ro els'))) ρ c/\w'.heap.size=w.heap.size:=by
 obtain⟨b',hb',hob⟩ :=s.obj id _ ho;rw[hb]at hb';cases hb';obtain⟨cells,elem,fr,vs,rest,h1,h2,h3,h4,h5,h6⟩ :=hob.flat
 have hn:n=cells.size:=by
  unfold zcZ at hsh;rw[h1]at hsh;simp at hsh;exact hsh.2.symm
 subst hn;obtain⟨w',cs',r1,r2,r3,r4,r5,r6,r7,r8,r9⟩ :=znW P b o elem fr nv 0 w cells h1 h2.1 (by simpa using hon) hone;have hvl:=h5.len;have hnl:=hnv.len;have hlist:cs'.toList=(vs.take o++nv++vs.drop (o+nv.length))++rest.drop (o+nv.length - vs.length):=by
  apply Z107;intro k;have hsz:cells.size=vs.length+rest.length:=by rw[<-Z72,h4,Z16]
  have htk:(vs.take o).length=o:=by simp;omega
  by_cases hk:k<o
  .rw[Z32,Z32,Z54 (by omega),Z69,r7 k (by omega),<-Z69,h4,
    Z54 (by omega),Z75,Z51 hk]
  .by_cases hk2:k<o+nv.length
   .have:=r8 (k - o) (by omega);rw[show o+0+(k - o)=k by omega]at this;rw[Z69,this,Z32,Z32,Z62 (by omega),htk,Z54 (by omega)]
   .have e1:cs'.toList[k]? =(vs++rest)[k]? :=by rw[Z69,r9 k (by omega),<-Z69,h4]
    rw[e1];have hnn:(vs.take o++nv).length=o+nv.length:=by simp;omega
    rw[Z32,Z62 (l₁:=vs.take o++nv) (by omega),hnn]
    by_cases hk3:k<vs.length
    .rw[Z54 hk3,Z54 (by simp;omega),Z81]
     congr 1
     omega
    .rw[Z62 (by omega),Z62 (by simp;omega),Z81]
     congr 1
     simp;omega
 refine⟨w',r1,r2,?_⟩;have hup:=s.update (id:=id) (ob':= .arr es ro els') (H':=w'.heap) W hW ho hb r3 r5 (fun i hi=>hi) (fun i v hi hv=> ?_) (fun x hx=> ?_) (fun μ' ρ' c' hk=> ?_)
 .exact⟨hup.1,hup.2,r3⟩
 .simp only[Ob.mut]at hi;rw[zgg h1]at hv;rw[zgg r4];rcases hro with hro|hro
  .rw[r7 i (by omega)];exact hv
  .subst hro
   by_cases hio:i<o+0
   .rw[r7 i hio];exact hv
   .rw[r9 i (by simpa using hio)];exact hv
 .unfold zcZ at hx|-;rw[h1]at hx;rw[r4];simp only[Z45]at hx|-;rw[<-hx,r6]
 .refine zsw r4 (by rw[r6];exact h2.mono hhd) hel' hlist ?_ ?_
  .rw[hfl];rw[<-hnl];exact ((zaq.keep hk _ _ (h5.take o)).app (zaq.keep hk _ _ hnv)).app (zaq.keep hk _ _ (h5.drop (o+nv.length)))
  .intro u hu;simp only[Z4]at hu;rcases hu with(hu|hu)|hu
   .exact h6 u (Z13 hu)
   .exact hone u hu
   .exact h6 u (Z21 hu)
theorem Sim.newRow(s:Sim amb w.heap h ρ c){n:Nat}(hn:¬c n){es ro:Nat}{els:List (List D)}(hel:∀e∈els,e.length=es){vs rest:List Value}
  (hr:zaq w.heap (zal amb h ρ) ρ c els.flatten vs)(hone:∀u∈vs,u.oneCell'=true)(elem:TypeId)(fr:Nat×Nat)
  (hfr:zgX fr (vs++rest).length els)(W:Nat->Prop){H':Array Obj}(hH:H'=w.heap.push (.cells ⟨vs++rest⟩ elem fr)):
  Sim amb H' (upd h n (some (.arr es ro els))) (upd ρ n (some w.heap.size)) (fun id=>c id\/id=n)/\
  Evo amb W w.heap h ρ c H' (upd h n (some (.arr es ro els))) (upd ρ n (some w.heap.size)) (fun id=>c id\/id=n):=by
 subst hH;refine s.alloc hn _ _ W fun H' μ' ρ' c' hk hb=> ?_
 exact zsw hb (by simpa using hfr) hel (by simp;rfl) (zaq.keep hk _ _ hr) hone
end
end Go.Vse
end
