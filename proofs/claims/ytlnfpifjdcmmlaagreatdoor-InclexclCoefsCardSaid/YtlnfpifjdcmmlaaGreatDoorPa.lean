/- What the reference's small functions answer: comparison of strings, values, terms. -/
import Derived.Test.YtlnfpifjdcmmlaaGreatDoorHa
import Derived.Test.YtlnfpifjdcmmlaaGreatDoorPr
import Derived.KernelRfl
import Derived.IntWalk
set_option linter.all false
set_option maxRecDepth 100000
set_option maxHeartbeats 4000000
section
namespace Go.Proofs.YtlnfpifjdcmmlaaGreatDoor
open Go Go.Vse Go.Vse.Sm
def zgH(a b:Str):Int:=if Go.Op.bytesLess a b=true then -1 else if a=b then 0 else 1
def zdZ(a b:Int):Int:=if a=b then 0 else if a<b then -1 else 1
def bl_cn(b:Str):Go.Op.bytesLess b []=false:=by cases b<;>rfl
def tv:Trm->Str
 | .var s=>s
 | .cst _=>[]
def tk:Trm->Int
 | .var _=>0
 | .cst _=>1
def tn:Trm->Int
 | .var _=>0
 | .cst n=>n
def tmE(t:Trm):tmF t=[.s (tv t),.i .i64 (tk t),.i .i64 (tn t),.s []]:=by cases t<;>rfl
def zaT:Trm->Trm->Int
 | .cst a,.cst b=>zdZ a b
 | .cst _,.var _=> -1
 | .var _,.cst _=>1
 | .var a,.var b=>zgH a b
def zb2(a b:Trm):Bool:=zaT a b==0
def zdL(l:List Trm):F:=slc 4 (l.map tmF)
def wrap_i64(n:Int)(h:0<=n)(h2:n<9223372036854775808):IntKind.i64.wrap n=n:=IntWalk.i64_in n (by omega)
def zaq(n:Nat)(h:n<1000000):IntKind.i64.wrap ((n:Int)+1)=((n+1:Nat):Int):=wrap_i64 _ (by omega) (by omega)
def zbY(l:List Str):(zaQ l).d= .f (zaQ l):=ziN ..
def zcs(l:List Str):zbn (.f (zaQ l))=some l.length:=by simp[zaQ,zgi]
def zdz(l:List Str)(n:Nat):iaB 1 (.f (zaQ l)) n=(l[n]?).map fun s=>D.fptr [.s s]:=by simp[zaQ,zhz,Function.comp_def]
def zhU(l:List Trm):(zdL l).d= .f (zdL l):=ziN ..
def zjA(l:List Trm):zbn (.f (zdL l))=some l.length:=by simp[zdL,zgi]
def zoj(l:List Trm)(n:Nat):iaB 4 (.f (zdL l)) n=(l[n]?).map fun t=>D.fptr (tmF t):=by simp[zdL,zhz,Function.comp_def]
def zp6(a b:Int):(zdZ a b==0)=decide (a=b):=by
 unfold zdZ
 by_cases h:a=b
 .simp[h]
 .simp only[h,if_false,decide_false];split<;>rfl
def zF9(a b:Int):(zdZ a b != 0)=decide (a≠b):=by
 rw[bne,zp6];simp
def zF7(a b:Int):(zdZ a b<0)=(a<b):=by
 unfold zdZ
 by_cases h:a=b
 .simp[h]
 .simp only[h,if_false];split<;>simp_all
def zF6(a b:Int):(zdZ a b<=0)=(a<=b):=by
 unfold zdZ
 by_cases h:a=b
 .simp[h]
 .simp only[h,if_false];split
  .simp;omega
  .simp;omega
def zbU(k:Cm):Prop:=zav k.l/\zav k.r
def zxI(k:Cm):Bool:=zb2 k.l k.r&&(k.op==1||k.op==4)||decide (tv k.l=[])&&decide (tv k.r=[])&&cmpI k.op (tn k.l) (tn k.r)
def zAj{t:Trm}(ht:zav t)(h:tv t=[]):tk t=1:=by
 cases t with
 |var s=>exact absurd h ht
 |cst n=>rfl
def zaX(c:CQ):F:=csF c
def za1(c:CQ):F:=Sm.asF c
def zcI(c:CQ):(zaX c).d= .f (zaX c):=by
 unfold zaX csF;split
 .rfl
 .exact ziN ..
def zh3(c:CQ):zbn (.f (zaX c))=some c.cs.length:=by
 unfold zaX csF;split
 .rename_i h;rw[h.2];rfl
 .simp[zgi]
def zi7(c:CQ)(n:Nat):iaB 9 (.f (zaX c)) n=(c.cs[n]?).map fun t=>D.fptr (cmF t):=by
 unfold zaX csF;split
 .rename_i h;rw[h.2];rfl
 .simp[zhz,Function.comp_def]
def zcH(c:CQ):(za1 c).d= .f (za1 c):=by
 unfold za1 Sm.asF;split
 .rfl
 .exact ziN ..
def zfb(c:CQ):zbn (.f (za1 c))=some c.as.length:=by
 unfold za1 Sm.asF;split
 .rename_i h;rw[h.2];rfl
 .simp[zgi]
def zfN(c:CQ)(n:Nat):iaB 3 (.f (za1 c)) n=(c.as[n]?).map fun t=>D.fptr (atF t):=by
 unfold za1 Sm.asF;split
 .rename_i h;rw[h.2];rfl
 .simp[zhz,Function.comp_def]
def cqE(c:CQ):cqF c=[za1 c,zaX c]:=rfl
def atE(a:Atm):atF a=[.s a.r,.b a.neg,zdL a.ts]:=rfl
def zbS(a:Atm):Prop:=(∀t∈a.ts,zav t)/\a.ts.length<1000
structure CqOk(c:CQ):Prop where
 as:∀a∈c.as,zbS a
 cs:∀k∈c.cs,zbU k
 la:c.as.length<1000
 lc:c.cs.length<1000
def zaC(l:List Trm):List (List D):=(l.map tmF).map fun a=>a.map D.f
def zIi(h:Nat->Option Ob)(k:Nat)(l:List Trm):zaU (frz h (k+1)) (zaC l)=some (l.map tmF,[]):=ziF h k _
def zbt(l:List Trm):(zaC l).length=l.length:=by simp[zaC]
def zkV(h:Nat->Option Ob)(l:List Trm):elemsOf 4 h (.f (zdL l))=some (zaC l,[]):=by
 cases l with
 |nil=>rfl
 |cons a l=>rfl
def zkI:List Trm->Trm->List Trm
 |[],t=>[t]
 |a::l,t=>if zaT a t<0 then a::zkI l t else if zb2 a t=true then a::l else t::a::l
def zjw(l m:List Trm):zaC l++zaC m=zaC (l++m):=by simp[zaC]
def zFf{l:List Trm}{t:Trm}(hl:∀a∈l,zav a)(ht:zav t):∀a∈zkI l t,zav a:=by
 induction l with
 |nil=>intro a ha;simp[zkI]at ha;rw[ha];exact ht
 |cons b l ih=>
  intro a ha;unfold zkI at ha;split at ha
  .rcases Z6.1 ha with h|h
   .rw[h];exact hl b (by simp)
   .exact ih (fun x hx=>hl x (by simp[hx])) a h
  .split at ha
   .exact hl a ha
   .rcases Z6.1 ha with h|h
    .rw[h];exact ht
    .exact hl a h
def zAw(l:List Trm)(t:Trm):(zkI l t).length<=l.length+1:=by
 induction l with
 |nil=>simp[zkI]
 |cons b l ih=>
  unfold zkI;split
  .simp;exact ih
  .split<;>simp
def zAu(n:Nat)(l:List Trm):Prop:=(∀a∈l,zav a)/\l.length<=n
def zAu.add{n:Nat}{l:List Trm}{t:Trm}(h:zAu n l)(ht:zav t):zAu (n+1) (zkI l t):=⟨zFf h.1 ht,Z4 (zAw l t) (by have:=h.2;omega)⟩
structure CqSm(c:CQ):Prop extends CqOk c where
 sa:c.as.length<=12
 st:∀a∈c.as,a.ts.length<=12
 sc:c.cs.length<=12
 s2:∀a∈c.as,a.ts.length<=2
end Go.Proofs.YtlnfpifjdcmmlaaGreatDoor
end
