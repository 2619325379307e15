/- What the reference's small functions answer: comparison of strings, values, terms. -/
import Derived.Test.YtflgmemhalhdbaaGreatDoorHa
import Derived.Test.YtflgmemhalhdbaaGreatDoorPr
import Derived.KernelRfl
import Derived.IntWalk
set_option linter.all false
set_option maxRecDepth 100000
set_option maxHeartbeats 4000000
section
namespace Go.Proofs.YtflgmemhalhdbaaGreatDoor
open Go Go.Vse Go.Vse.Sm
def zhv(a b:Str):Int:=if Go.Op.bytesLess a b=true then -1 else if a=b then 0 else 1
def zej(a b:Int):Int:=if a=b then 0 else if a<b then -1 else 1
def bl_cn(b:Str):Go.Op.bytesLess b []=false:=by cases b<;>rfl
def tv:Trm->Str
 | .var s=>s
 | .cst _=>[]
def tk:Trm->Int
 | .var _=>0
 | .cst _=>1
def tn:Trm->Int
 | .var _=>0
 | .cst n=>n
def tmE(t:Trm):tmF t=[.s (tv t),.i .i64 (tk t),.i .i64 (tn t),.s []]:=by cases t<;>rfl
def zaX:Trm->Trm->Int
 | .cst a,.cst b=>zej a b
 | .cst _,.var _=> -1
 | .var _,.cst _=>1
 | .var a,.var b=>zhv a b
def zb2(a b:Trm):Bool:=zaX a b==0
def zdD(l:List Trm):F:=slc 4 (l.map tmF)
def wrap_i64(n:Int)(h:0<=n)(h2:n<9223372036854775808):IntKind.i64.wrap n=n:=IntWalk.i64_in n (by omega)
def zao(n:Nat)(h:n<1000000):IntKind.i64.wrap ((n:Int)+1)=((n+1:Nat):Int):=wrap_i64 _ (by omega) (by omega)
def zcb(l:List Str):(zaM l).d= .f (zaM l):=zjY ..
def zbN(l:List Str):zbv (.f (zaM l))=some l.length:=by simp[zaM,zgS]
def zco(l:List Str)(n:Nat):iaB 1 (.f (zaM l)) n=(l[n]?).map fun s=>D.fptr [.s s]:=by simp[zaM,ziu,Z68]
def zib(l:List Trm):(zdD l).d= .f (zdD l):=zjY ..
def zh3(l:List Trm):zbv (.f (zdD l))=some l.length:=by simp[zdD,zgS]
def zm7(l:List Trm)(n:Nat):iaB 4 (.f (zdD l)) n=(l[n]?).map fun t=>D.fptr (tmF t):=by simp[zdD,ziu,Z68]
def zr3(a b:Int):(zej a b==0)=decide (a=b):=by
 unfold zej
 by_cases h:a=b
 .simp[h]
 .simp only[h,Z64,decide_false];split<;>rfl
def zK5(a b:Int):(zej a b != 0)=decide (a≠b):=by
 rw[bne,zr3];simp
def zK1(a b:Int):(zej a b<0)=(a<b):=by
 unfold zej
 by_cases h:a=b
 .simp[h]
 .simp only[h,Z64];split<;>simp_all
def zKX(a b:Int):(zej a b<=0)=(a<=b):=by
 unfold zej
 by_cases h:a=b
 .simp[h]
 .simp only[h,Z64];split
  .simp;omega
  .simp;omega
def zdm(k:Cm):Prop:=zaL k.l/\zaL k.r
def zAC(k:Cm):Bool:=zb2 k.l k.r&&(k.op==1||k.op==4)||decide (tv k.l=[])&&decide (tv k.r=[])&&cmpI k.op (tn k.l) (tn k.r)
def zDx{t:Trm}(ht:zaL t)(h:tv t=[]):tk t=1:=by
 cases t with
 |var s=>exact absurd h ht
 |cst n=>rfl
def zaQ(c:CQ):F:=csF c
def zaS(c:CQ):F:=Sm.asF c
def zbQ(c:CQ):(zaQ c).d= .f (zaQ c):=by
 unfold zaQ csF;split
 .rfl
 .exact zjY ..
def zhH(c:CQ):zbv (.f (zaQ c))=some c.cs.length:=by
 unfold zaQ csF;split
 .rename_i h;rw[h.2];rfl
 .simp[zgS]
def zkG(c:CQ)(n:Nat):iaB 9 (.f (zaQ c)) n=(c.cs[n]?).map fun t=>D.fptr (cmF t):=by
 unfold zaQ csF;split
 .rename_i h;rw[h.2];rfl
 .simp[ziu,Z68]
def zbO(c:CQ):(zaS c).d= .f (zaS c):=by
 unfold zaS Sm.asF;split
 .rfl
 .exact zjY ..
def zeu(c:CQ):zbv (.f (zaS c))=some c.as.length:=by
 unfold zaS Sm.asF;split
 .rename_i h;rw[h.2];rfl
 .simp[zgS]
def zeK(c:CQ)(n:Nat):iaB 3 (.f (zaS c)) n=(c.as[n]?).map fun t=>D.fptr (atF t):=by
 unfold zaS Sm.asF;split
 .rename_i h;rw[h.2];rfl
 .simp[ziu,Z68]
def cqE(c:CQ):cqF c=[zaS c,zaQ c]:=rfl
def atE(a:Atm):atF a=[.s a.r,.b a.neg,zdD a.ts]:=rfl
def zc1(a:Atm):Prop:=(∀t∈a.ts,zaL t)/\a.ts.length<1000
structure CqOk(c:CQ):Prop where
 as:∀a∈c.as,zc1 a
 cs:∀k∈c.cs,zdm k
 la:c.as.length<1000
 lc:c.cs.length<1000
def zaH(l:List Trm):List (List D):=(l.map tmF).map fun a=>a.map D.f
def zNp(h:Nat->Option Ob)(k:Nat)(l:List Trm):zaV (frz h (k+1)) (zaH l)=some (l.map tmF,[]):=ziF h k _
def zbD(l:List Trm):(zaH l).length=l.length:=by simp[zaH]
def zmt(h:Nat->Option Ob)(l:List Trm):elemsOf 4 h (.f (zdD l))=some (zaH l,[]):=by
 cases l with
 |nil=>rfl
 |cons a l=>rfl
def zei:List Trm->Trm->List Trm
 |[],t=>[t]
 |a::l,t=>if zaX a t<0 then a::zei l t else if zb2 a t=true then a::l else t::a::l
def zk0(l m:List Trm):zaH l++zaH m=zaH (l++m):=by simp[zaH]
def zHu(l:List Trm)(ts:List Trm):List Trm:=ts.foldl zei l
def zo5(c:CQ):List Trm:=c.cs.foldl (fun l k=>zei (zei l k.l) k.r) (c.as.foldl (fun l a=>zHu l a.ts) [])
def zJ7{l:List Trm}{t:Trm}(hl:∀a∈l,zaL a)(ht:zaL t):∀a∈zei l t,zaL a:=by
 induction l with
 |nil=>intro a ha;simp[zei]at ha;rw[ha];exact ht
 |cons b l ih=>
  intro a ha;unfold zei at ha;split at ha
  .rcases Z6.1 ha with h|h
   .rw[h];exact hl b (by simp)
   .exact ih (fun x hx=>hl x (by simp[hx])) a h
  .split at ha
   .exact hl a ha
   .rcases Z6.1 ha with h|h
    .rw[h];exact ht
    .exact hl a h
def zD1(l:List Trm)(t:Trm):(zei l t).length<=l.length+1:=by
 induction l with
 |nil=>simp[zei]
 |cons b l ih=>
  unfold zei;split
  .simp;exact ih
  .split<;>simp
def zDX(n:Nat)(l:List Trm):Prop:=(∀a∈l,zaL a)/\l.length<=n
def zDX.add{n:Nat}{l:List Trm}{t:Trm}(h:zDX n l)(ht:zaL t):zDX (n+1) (zei l t):=⟨zJ7 h.1 ht,Z4 (zD1 l t) (by have:=h.2;omega)⟩
structure CqSm(c:CQ):Prop extends CqOk c where
 sa:c.as.length<=12
 st:∀a∈c.as,a.ts.length<=12
 sc:c.cs.length<=12
 s2:∀a∈c.as,a.ts.length<=2
end Go.Proofs.YtflgmemhalhdbaaGreatDoor
end
