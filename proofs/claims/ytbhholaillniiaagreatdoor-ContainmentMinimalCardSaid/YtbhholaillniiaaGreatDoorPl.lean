/- The conjunctive queries of the builders, their cores: what is answered of them (closed runs). Written by program. -/
import Derived.Test.YtbhholaillniiaaGreatDoorPk
import Derived.Test.YtbhholaillniiaaGreatDoorPa
import Derived.KernelRfl
set_option linter.all false
set_option maxRecDepth 100000
set_option maxHeartbeats 4000000
noncomputable section
namespace Go.Proofs.YtbhholaillniiaaGreatDoor
open Go Go.Vse Go.Vse.Sm
def mg{α:Type}{l:List α}(n:Nat){a:α}(h:l[n]? =some a):a∈l:=Z39 h
def rb(r:Nat)(b:UInt8):UInt8:=if b=64 then UInt8.ofNat (49+r)else b
def rb_no{p:Str}(h:p.all (· != 64)=true)(r:Nat):p.map (rb r)=p:=by
  refine (Z68 fun b hb=> ?_).trans (List.map_id p);have:=Z50.1 h b hb;have h2:¬b=64:=by simpa using this
  simp[rb,h2]
abbrev Tr:=CQ×List Str
def cq0:CQ:=⟨[⟨[82],false,[.var [120],.var [121]]⟩],[],false,false⟩
def cq1:CQ:=⟨[⟨[82],false,[.var [120],.var [121]]⟩,⟨[83],false,[.var [121]]⟩],[],false,false⟩
def cq2:CQ:=⟨[⟨[82],false,[.var [120],.var [121]]⟩,⟨[83],false,[.var [120]]⟩],[],false,false⟩
def cq3:CQ:=⟨[⟨[82],false,[.var [120],.var [121]]⟩,⟨[75],false,[.var [121],.var [122]]⟩],[],false,false⟩
def cq4:CQ:=⟨[⟨[75],false,[.var [120],.var [121]]⟩,⟨[83],false,[.var [121]]⟩],[],false,false⟩
def cq5:CQ:=⟨[⟨[82],false,[.var [120],.var [121]]⟩,⟨[82],false,[.var [121],.var [122]]⟩],[],false,false⟩
def cq6:CQ:=⟨[⟨[82],false,[.var [120],.var [121]]⟩,⟨[82],false,[.var [121],.var [120]]⟩],[],false,false⟩
def cq7:CQ:=⟨[⟨[67],false,[.var [120],.var [121]]⟩,⟨[82],false,[.var [121],.var [122]]⟩],[],false,false⟩
def cq8:CQ:=⟨[⟨[82],false,[.var [120],.var [121]]⟩,⟨[83],false,[.var [120]]⟩,⟨[83],false,[.var [121]]⟩],[],false,false⟩
def cq9:CQ:=⟨[⟨[75],false,[.var [120],.var [121]]⟩,⟨[75],false,[.var [122],.var [121]]⟩],[],false,false⟩
def ztM:CQ:=⟨[⟨[82],false,[.var [120],.cst 1]⟩],[],false,false⟩
def ztN:CQ:=⟨[⟨[82],false,[.var [120],.cst 2]⟩],[],false,false⟩
def ztO:CQ:=⟨[⟨[82],false,[.var [120],.cst 3]⟩],[],false,false⟩
def ztP:CQ:=⟨[⟨[83],false,[.var [120]]⟩,⟨[75],false,[.var [120],.cst 1]⟩],[],false,false⟩
def ztT:CQ:=⟨[⟨[83],false,[.var [120]]⟩,⟨[75],false,[.var [120],.cst 2]⟩],[],false,false⟩
def ztU:CQ:=⟨[⟨[83],false,[.var [120]]⟩,⟨[75],false,[.var [120],.cst 3]⟩],[],false,false⟩
def ztV:CQ:=⟨[⟨[82],false,[.var [120],.var [120]]⟩],[],false,false⟩
def ztY:CQ:=⟨[⟨[75],false,[.var [120],.var [121]]⟩,⟨[82],false,[.var [121],.var [122]]⟩,⟨[83],false,[.var [122]]⟩],[],false,false⟩
def zt3:CQ:=⟨[⟨[82],false,[.var [120],.var [121]]⟩,⟨[82],false,[.var [120],.var [122]]⟩],[],false,false⟩
def zt4:CQ:=⟨[⟨[82],false,[.var [120],.var [121]]⟩,⟨[82],false,[.var [122],.var [121]]⟩,⟨[83],false,[.var [122]]⟩],[],false,false⟩
def zt7:CQ:=⟨[⟨[83],false,[.var [120]]⟩],[],false,false⟩
def zt9:CQ:=⟨[⟨[82],false,[.var [120],.var [121]]⟩,⟨[82],false,[.var [121],.var [122]]⟩,⟨[82],false,[.var [120],.var [120]]⟩],[],false,false⟩
def zEK:CQ:=⟨[⟨[75],false,[.var [120],.var [121]]⟩],[],false,false⟩
def zEM:CQ:=⟨[⟨[82],false,[.var [122],.var [121]]⟩,⟨[83],false,[.var [122]]⟩],[],false,false⟩
def TB:List Tr:=[(cq0,[[120],[121]]),(cq1,[[120],[121]]),(cq2,[[120],[121]]),(cq3,[[120],[121],[122]]),(cq4,[[120],[121]]),(cq5,[[120],[121],[122]]),(cq6,[[120],[121]]),(cq7,[[120],[121],[122]]),(cq8,[[120],[121]]),(cq9,[[120],[121],[122]]),(ztM,[[120]]),(ztN,[[120]]),(ztO,[[120]]),(ztP,[[120]]),(ztT,[[120]]),(ztU,[[120]]),(ztV,[[120]]),(ztY,[[120],[121],[122]]),(zt3,[[120],[121],[122]]),(zt4,[[120],[121],[122]]),(zt7,[[120]]),(zt9,[[120],[121],[122]]),(zEK,[[120],[121]]),(zEM,[[122],[121]])]
def cqN(i:Nat):CQ:=(TB[i]?.getD (cq0,[])).1
def CQp:List CQ:=[cq0,cq1,cq2,cq3,cq4,cq5,cq6,cq7,cq8,cq9,ztM,ztN,ztO,ztP,ztT,ztU,ztV,ztY,zt3,zt4,zt7,zt9]
def hdC:Bool->List Str
 |false=>[]
 |true=>[[120]]
def nH:Bool->Nat
 |false=>24
 |true=>23
def ixL(b:Bool):List Nat:=List.range (nH b)
def coI(b:Bool)(i:Nat):Nat:=((match b with
 |false=>[0,1,2,3,4,5,6,7,8,22,10,11,12,13,14,15,16,17,0,23,20,16,22,23]
 |true=>[0,1,2,3,4,5,6,7,8,22,10,11,12,13,14,15,16,17,0,19,20,16,22]):List Nat)[i]?.getD 0
def exM:Bool->Nat
 |false=>3221872251267323688189143294055728658349419898277362467482942015721202609365861748546564789347910058523382376566577529340631422517026622105210187514387726614655751365147466384572904982950985563504020254927497237604298143227125231
 |true=>368903682765420705864355377718542956815285031023956454708692659763410818193210108842086743104980282812008002154928939494454168170658717300285084620617614750990328882118147126673832928108432407112853733190156127839264111
def exI(b:Bool)(i j:Nat):Bool:=Nat.testBit (exM b) (32*i+j)
def zjr:F:= .sl 3 [[.s [82],.b false,.sl 3 [[.s [97],.i .i64 1,.b false],[.s [98],.i .i64 1,.b false]]],[.s [83],.b false,.sl 3 [[.s [97],.i .i64 1,.b false]]],[.s [75],.b false,.sl 3 [[.s [107],.i .i64 1,.b true],[.s [118],.i .i64 1,.b false]]],[.s [67],.b true,.sl 3 [[.s [97],.i .i64 1,.b false],[.s [98],.i .i64 1,.b false]]]]
def pa0:Str:=[82,40,120,44,32,121,41]
def pa1:Str:=[82,40,120,44,32,121,41,44,32,83,40,121,41]
def pa2:Str:=[82,40,120,44,32,121,41,44,32,83,40,120,41]
def pa3:Str:=[82,40,120,44,32,121,41,44,32,75,40,121,44,32,122,41]
def pa4:Str:=[75,40,120,44,32,121,41,44,32,83,40,121,41]
def pa5:Str:=[82,40,120,44,32,121,41,44,32,82,40,121,44,32,122,41]
def pa6:Str:=[82,40,120,44,32,121,41,44,32,82,40,121,44,32,120,41]
def pa7:Str:=[67,40,120,44,32,121,41,44,32,82,40,121,44,32,122,41]
def pa8:Str:=[82,40,120,44,32,121,41,44,32,83,40,120,41,44,32,83,40,121,41]
def pa9:Str:=[75,40,120,44,32,121,41,44,32,75,40,122,44,32,121,41]
def zFB:Str:=[82,40,120,44,32,64,41]
def zFC:Str:=[83,40,120,41,44,32,75,40,120,44,32,64,41]
def zFD:Str:=[82,40,120,44,32,120,41]
def zFE:Str:=[75,40,120,44,32,121,41,44,32,82,40,121,44,32,122,41,44,32,83,40,122,41]
def zFG:Str:=[82,40,120,44,32,121,41,44,32,82,40,120,44,32,122,41]
def zFJ:Str:=[82,40,120,44,32,121,41,44,32,82,40,122,44,32,121,41,44,32,83,40,122,41]
def zFK:Str:=[83,40,120,41]
def zFM:Str:=[82,40,120,44,32,121,41,44,32,82,40,121,44,32,122,41,44,32,82,40,120,44,32,120,41]
def poL:List (List F):=[[.s pa0],[.s pa1],[.s pa2],[.s pa3],[.s pa4],[.s pa5],[.s pa6],[.s pa7],[.s pa8],[.s pa9],[.s zFB],[.s zFC],[.s zFD],[.s zFE],[.s zFG],[.s zFJ],[.s zFK],[.s zFM]]
def ans45:Ans pr 45 [] (.sl 1 poL):=rA
def ans14:Ans pr 14 [] (.b true):=rA
def ans13:Ans pr 13 [] zjr:=rA
def Rd(L:List CQ)(p:Str)(r:Nat):Prop:=∃c∈L,Ans pr 81 [.s (p.map (rb r))] (.tu [.ag [.nils,.sl 2 [cqF c]],.i .i64 0])
def Rds(L:List CQ)(p:Str):Prop:=p≠[]/\p.length<1000/\∀r,r<3->Rd L p r
def RdX(L:List CQ)(x:List F):Prop:=∃p,x=[.s p]/\Rds L p
def rn{L:List CQ}{p:Str}(h1:p≠[])(h2:p.length<1000)(h:p.all (· != 64)=true){c:CQ}(n:Nat)(hc:L[n]? =some c)(q:Ans pr 81 [.s p] (.tu [.ag [.nils,.sl 2 [cqF c]],.i .i64 0])):RdX L [.s p]:=
  ⟨p,rfl,h1,h2,fun r _=>⟨c,mg n hc,by rw[rb_no h];exact q⟩⟩
def r3{L:List CQ}{p:Str}(h1:p≠[])(h2:p.length<1000)(a:Rd L p 0)(b:Rd L p 1)(c:Rd L p 2):RdX L [.s p]:=⟨p,rfl,h1,h2,fun r hr=>match r,hr with
 |0,_=>a
 |1,_=>b
 |2,_=>c⟩
def rp0:RdX CQp [.s pa0]:=rn (by simp[pa0]) (by decide) (by decide) (c:=cq0) 0 rfl rA
def rp1:RdX CQp [.s pa1]:=rn (by simp[pa1]) (by decide) (by decide) (c:=cq1) 1 rfl rA
def rp2:RdX CQp [.s pa2]:=rn (by simp[pa2]) (by decide) (by decide) (c:=cq2) 2 rfl rA
def rp3:RdX CQp [.s pa3]:=rn (by simp[pa3]) (by decide) (by decide) (c:=cq3) 3 rfl rA
def rp4:RdX CQp [.s pa4]:=rn (by simp[pa4]) (by decide) (by decide) (c:=cq4) 4 rfl rA
def rp5:RdX CQp [.s pa5]:=rn (by simp[pa5]) (by decide) (by decide) (c:=cq5) 5 rfl rA
def rp6:RdX CQp [.s pa6]:=rn (by simp[pa6]) (by decide) (by decide) (c:=cq6) 6 rfl rA
def rp7:RdX CQp [.s pa7]:=rn (by simp[pa7]) (by decide) (by decide) (c:=cq7) 7 rfl rA
def rp8:RdX CQp [.s pa8]:=rn (by simp[pa8]) (by decide) (by decide) (c:=cq8) 8 rfl rA
def rp9:RdX CQp [.s pa9]:=rn (by simp[pa9]) (by decide) (by decide) (c:=cq9) 9 rfl rA
def rp10:RdX CQp [.s zFB]:=r3 (by simp[zFB]) (by decide) ⟨ztM,mg 10 rfl,rA⟩ ⟨ztN,mg 11 rfl,rA⟩ ⟨ztO,mg 12 rfl,rA⟩
def rp11:RdX CQp [.s zFC]:=r3 (by simp[zFC]) (by decide) ⟨ztP,mg 13 rfl,rA⟩ ⟨ztT,mg 14 rfl,rA⟩ ⟨ztU,mg 15 rfl,rA⟩
def rp12:RdX CQp [.s zFD]:=rn (by simp[zFD]) (by decide) (by decide) (c:=ztV) 16 rfl rA
def rp13:RdX CQp [.s zFE]:=rn (by simp[zFE]) (by decide) (by decide) (c:=ztY) 17 rfl rA
def rp14:RdX CQp [.s zFG]:=rn (by simp[zFG]) (by decide) (by decide) (c:=zt3) 18 rfl rA
def rp15:RdX CQp [.s zFJ]:=rn (by simp[zFJ]) (by decide) (by decide) (c:=zt4) 19 rfl rA
def rp16:RdX CQp [.s zFK]:=rn (by simp[zFK]) (by decide) (by decide) (c:=zt7) 20 rfl rA
def rp17:RdX CQp [.s zFM]:=rn (by simp[zFM]) (by decide) (by decide) (c:=zt9) 21 rfl rA
def rdO:∀x∈poL,RdX CQp x:=allL (P:=RdX CQp) (l:=poL) ⟨rp0,rp1,rp2,rp3,rp4,rp5,rp6,rp7,rp8,rp9,rp10,rp11,rp12,rp13,rp14,rp15,rp16,rp17,trivial⟩
end Go.Proofs.YtbhholaillniiaaGreatDoor
