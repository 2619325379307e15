/- What holds of all of a list; a closed run. -/
import Derived.Test.YtdlcolcidohbkaaGreatDoorHa
import Derived.Test.YtdlcolcidohbkaaGreatDoorPr
import Derived.Test.YtdlcolcidohbkaaGreatDoorVe
import Derived.KernelRfl
set_option linter.all false
set_option maxRecDepth 100000
set_option maxHeartbeats 4000000
noncomputable section
section
namespace Go.Proofs.YtdlcolcidohbkaaGreatDoor
open Go Go.Vse
def zaF{α:Type}(P:α->Prop):List α->Prop
 |[]=>True
 |a::l=>P a/\zaF P l
theorem allL{α:Type}{P:α->Prop}:∀{l:List α},zaF P l->∀a∈l,P a
 |[],_,a,h=>by simp at h
 |b::l,h,a,ha=>by
  rcases Z5.1 ha with rfl|ha
  .exact h.1
  .exact allL h.2 a ha
def rA{f:Nat}{fs:List F}{x:F}(h:zkC zEF pr 1000 f fs=some x:=by kernel_rfl):Ans pr f fs x:=zgn (ziy pr) h
end Go.Proofs.YtdlcolcidohbkaaGreatDoor
end
section
namespace Go.Proofs.YtdlcolcidohbkaaGreatDoor
open Go Go.Vse Go.Vse.Sm
def u0:List F:=[.b false,.nils,.sl 1 [[.i .u32 1]]]
def u1:List F:=[.b false,.sl 1 [[.i .u32 1]],.sl 1 [[.i .u32 2]]]
def u2:List F:=[.b false,.sl 1 [[.i .u32 1]],.sl 1 [[.i .u32 3]]]
def u3:List F:=[.b false,.sl 1 [[.i .u32 2]],.sl 1 [[.i .u32 3]]]
def u4:List F:=[.b false,.sl 1 [[.i .u32 1]],.sl 1 [[.i .u32 4]]]
def u5:List F:=[.b false,.sl 1 [[.i .u32 1]],.sl 1 [[.i .u32 1]]]
def u6:List F:=[.b false,.sl 1 [[.i .u32 3]],.sl 1 [[.i .u32 5]]]
def u7:List F:=[.b false,.sl 1 [[.i .u32 1]],.sl 1 [[.i .u32 7]]]
def PPl:List (List F):=[u1,u2,u3,u4,u5,u0,u6,u7]
end Go.Proofs.YtdlcolcidohbkaaGreatDoor
end
section
namespace Go.Proofs.YtdlcolcidohbkaaGreatDoor
open Go Go.Vse Go.Vse.Sm
def zeE:Nat->F
 |0=> .nils
 |n+1=> .sl 1 [[.i .u32 ((n+1:Nat):Int)]]
def fr(s:Nat×Nat):List F:=[.b false,zeE s.1,zeE s.2]
def adN(s p:Nat×Nat):Nat×Nat:=((s.1*p.2+p.1*s.2)/Nat.gcd (s.1*p.2+p.1*s.2) (s.2*p.2),(s.2*p.2)/Nat.gcd (s.1*p.2+p.1*s.2) (s.2*p.2))
def cmN(s:Nat×Nat):Nat×Nat:=(s.2 - s.1,s.2)
def le1(s:Nat×Nat):Bool:=Nat.ble s.1 s.2
def PN:List (Nat×Nat):=[(1,2),(1,3),(2,3),(1,4),(1,1),(0,1),(3,5),(1,7)]
def PN_l:PPl=PN.map fr:=rfl
def sgN(s:Nat×Nat):F:= .i .i64 (if s.1=0 then 0 else 1)
def zP:List F:=[.b false,.nils,.nils]
def UA(s p:Nat×Nat):Prop:=Ans pr 159 [.ag (fr s),.ag (fr p)] (.ag (fr (adN s p)))
def UB(s p:Nat×Nat):Prop:=Ans pr 178 [.ag (fr s),.ag (fr p)] (.ag (fr (adN s p)))
def UI(s:Nat×Nat):Prop:=Ans pr 83 [.ag (fr s)] (.b (le1 s))
def UC(s:Nat×Nat):Prop:=Ans pr 158 [.ag (fr s)] (.ag (fr (cmN s)))/\Ans pr 157 [.ag (fr (cmN s))] (sgN (cmN s))/\Ans pr 179 [.ag (fr s)] (.ag (fr s))/\Ans pr 99 [.ag (fr s)] (.ag (fr (cmN s)))/\Ans pr 98 [.ag (fr (cmN s))] (sgN (cmN s))
def UZq(p:Nat×Nat):Prop:=Ans pr 178 [.ag zP,.ag (fr p)] (.ag (fr p))/\Ans pr 157 [.ag (fr p)] (sgN p)/\Ans pr 98 [.ag (fr p)] (sgN p)
def DA:List (Nat×Nat):=[(0,1),(1,2),(1,3),(2,3),(1,4),(1,1),(3,5),(1,7),(5,6),(7,6),(3,4),(3,2),(11,10),(9,14),(7,12),(4,3),(14,15),(10,21),(11,12),(5,3),(19,15),(17,21),(5,4),(17,20),(11,28),(2,1),(8,5),(8,7),(6,5),(26,35),(2,7)]
def DI:List (Nat×Nat):=[(0,1),(1,2),(1,3),(2,3),(1,4),(1,1),(3,5),(1,7),(5,6),(7,6),(3,4),(3,2),(11,10),(9,14),(7,12),(4,3),(14,15),(10,21),(11,12),(5,3),(19,15),(17,21),(5,4),(17,20),(11,28),(2,1),(8,5),(8,7),(6,5),(26,35),(2,7),(13,12),(11,6),(43,30),(41,42),(17,12),(13,6),(53,30),(55,42),(7,4),(27,20),(25,28),(5,2),(21,10),(23,14),(17,10),(87,70),(11,14),(19,12),(71,60),(61,84),(7,3),(29,15),(31,21),(23,15),(113,105),(13,21),(23,12),(91,60),(89,84),(8,3),(34,15),(38,21),(28,15),(148,105),(20,21),(9,4),(37,20),(39,28),(29,20),(139,140),(15,28),(3,1),(13,5),(15,7),(11,5),(61,35),(9,7),(9,5),(47,35),(31,35),(3,7)]
def D1:List (Nat×Nat):=[(1,2),(1,3),(2,3),(1,4),(1,1),(0,1),(3,5),(1,7)]
def D2:List (Nat×Nat):=[(1,1),(5,6),(7,6),(3,4),(3,2),(1,2),(11,10),(9,14),(2,3),(7,12),(4,3),(1,3),(14,15),(10,21),(11,12),(5,3),(19,15),(17,21),(5,4),(1,4),(17,20),(11,28),(2,1),(8,5),(8,7),(0,1),(3,5),(1,7),(6,5),(26,35),(2,7)]
def mmN(s:Nat×Nat)(l:List (Nat×Nat)):Bool:=l.any fun t=>Nat.beq s.1 t.1&&Nat.beq s.2 t.2
def zfG{s:Nat×Nat}{l:List (Nat×Nat)}(h:mmN s l=true):s∈l:=by
 obtain⟨t,ht,h2⟩ :=Z30.1 h;rw[Z14]at h2;have:s=t:=Prod.ext (Z88 h2.1) (Z88 h2.2);rw[this];exact ht
def cl0:(PN.all fun p=>mmN (adN (0,1) p) D1)=true:=by kernel_rfl
def cl1:(D1.all fun s=>PN.all fun p=>mmN (adN s p) D2)=true:=by kernel_rfl
def cl2:(D2.all fun s=>PN.all fun p=>mmN (adN s p) DI)=true:=by kernel_rfl
def clA:mmN (0,1) DA=true/\(D1.all fun s=>mmN s DA)=true/\(D2.all fun s=>mmN s DA)=true/\mmN (0,1) DI=true/\(D1.all fun s=>mmN s DI)=true/\(D2.all fun s=>mmN s DI)=true:=⟨by kernel_rfl,by kernel_rfl,by kernel_rfl,by kernel_rfl,by kernel_rfl,by kernel_rfl⟩
def frM:Nat->F
 |0=> .sl 1 []
 |n+1=> .sl 1 [[.i .u32 ((n+1:Nat):Int)]]
def eG(a:F)(x y:Nat):EnP:=(79,[a,zeE y],frM (Nat.gcd x y))
def eV(a:F)(x y:Nat):EnP:=(80,[a,zeE y],.tu [frM (x/y),frM (x%y),.b true])
def PG(t:Nat×Nat):Prop:=zl2 pr (eG (frM t.1) t.1 t.2)
def PV(t:Nat×Nat):Prop:=zl2 pr (eV (frM t.1) t.1 t.2)
def gT0:List (Nat×Nat):=[(0,1),(1,1),(1,2),(1,3),(2,3),(1,4),(3,5),(1,7),(5,6),(7,6),(3,4),(3,2),(11,10),(9,14),(7,12),(4,3),(14,15),(10,21),(11,12),(5,3),(19,15),(17,21),(5,4),(17,20)]
def gT1:List (Nat×Nat):=[(11,28),(2,1),(8,5),(8,7),(6,5),(26,35),(2,7),(4,4),(6,8),(6,9),(9,9),(12,9),(8,16),(30,25),(14,49),(16,12),(21,18),(27,18),(26,24),(11,6),(43,30),(41,42),(20,12),(33,18)]
def gT2:List (Nat×Nat):=[(34,24),(13,6),(53,30),(55,42),(10,8),(13,12),(17,12),(16,16),(7,4),(27,20),(25,28),(8,4),(14,8),(5,2),(21,10),(23,14),(32,20),(54,40),(85,50),(87,70),(32,28),(50,56),(77,98),(33,36)]
def gT3:List (Nat×Nat):=[(45,36),(40,48),(19,12),(71,60),(61,84),(15,9),(18,9),(7,3),(29,15),(31,21),(57,45),(72,45),(115,75),(113,105),(51,63),(72,63),(91,147),(57,36),(56,48),(23,12),(91,60),(89,84),(21,9),(8,3)]
def gT4:List (Nat×Nat):=[(34,15),(38,21),(87,45),(140,75),(148,105),(93,63),(140,147),(24,16),(9,4),(37,20),(39,28),(88,80),(145,100),(139,140),(72,112),(105,196),(3,1),(13,5),(15,7),(55,25),(61,35),(63,49),(17,10),(23,15)]
def gT5:List (Nat×Nat):=[(28,15),(29,20),(11,5),(45,25),(47,35),(235,175),(217,245),(11,14),(13,21),(20,21),(15,28),(9,7),(31,35),(21,49),(2,5),(6,7),(1,6),(1,10),(5,14),(5,12),(1,15),(11,21),(1,12),(4,15)]
def gT6:List (Nat×Nat):=[(4,21),(3,20),(17,28),(1,5),(9,35),(5,7),(13,30),(1,42),(23,30),(13,42),(7,20),(3,28),(7,10),(17,70),(3,14),(11,60),(23,84),(8,15),(8,105),(8,21),(31,60),(5,84),(13,15),(43,105)]
def gT7:List (Nat×Nat):=[(1,21),(9,20),(1,140),(13,28),(9,5),(4,5),(12,35),(4,35),(3,7),(4,7)]
def vT0:List (Nat×Nat):=[(0,1),(1,1),(2,1),(3,1),(4,1),(5,1),(7,1),(6,1),(11,1),(10,1)]
def vT1:List (Nat×Nat):=[(9,1),(14,1),(12,1),(15,1),(21,1),(19,1),(17,1),(20,1),(28,1),(8,1)]
def vT2:List (Nat×Nat):=[(26,1),(35,1),(4,4),(6,2),(8,2),(6,3),(9,3),(9,9),(12,3),(8,8)]
def vT3:List (Nat×Nat):=[(16,8),(30,5),(25,5),(14,7),(49,7),(16,4),(12,4),(21,3),(18,3),(27,9)]
def vT4:List (Nat×Nat):=[(18,9),(26,2),(24,2),(43,1),(30,1),(41,1),(42,1),(20,4),(33,3),(34,2)]
def vT5:List (Nat×Nat):=[(13,1),(53,1),(55,1),(10,2),(16,16),(27,1),(25,1),(8,4),(14,2),(23,1)]
def vT6:List (Nat×Nat):=[(32,4),(54,2),(40,2),(85,5),(50,5),(87,1),(70,1),(28,4),(50,2),(56,2)]
def vT7:List (Nat×Nat):=[(77,7),(98,7),(36,3),(45,9),(36,9),(40,8),(48,8),(71,1),(60,1),(61,1)]
def vT8:List (Nat×Nat):=[(84,1),(15,3),(29,1),(31,1),(57,3),(45,3),(72,9),(115,5),(75,5),(113,1)]
def vT9:List (Nat×Nat):=[(105,1),(51,3),(63,3),(63,9),(91,7),(147,7),(56,8),(91,1),(89,1),(34,1)]
def vT10:List (Nat×Nat):=[(38,1),(87,3),(140,5),(148,1),(93,3),(140,7),(24,8),(37,1),(39,1),(88,8)]
def vT11:List (Nat×Nat):=[(80,8),(145,5),(100,5),(139,1),(140,1),(72,8),(112,8),(105,7),(196,7),(55,5)]
def vT12:List (Nat×Nat):=[(63,7),(45,5),(47,1),(235,5),(175,5),(217,7),(245,7),(21,7)]
def GT:List (List (Nat×Nat)):=[gT0,gT1,gT2,gT3,gT4,gT5,gT6,gT7]
def VT:List (List (Nat×Nat)):=[vT0,vT1,vT2,vT3,vT4,vT5,vT6,vT7,vT8,vT9,vT10,vT11,vT12]
end Go.Proofs.YtdlcolcidohbkaaGreatDoor
end
