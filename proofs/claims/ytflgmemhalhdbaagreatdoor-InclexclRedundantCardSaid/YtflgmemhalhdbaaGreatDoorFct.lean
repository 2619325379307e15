/- The conjunctive queries of the builders: what they are read from. Written by program. -/
import Derived.Test.YtflgmemhalhdbaaGreatDoorPm
import Derived.Test.YtflgmemhalhdbaaGreatDoorQs0
import Derived.Test.YtflgmemhalhdbaaGreatDoorQs1
import Derived.Test.YtflgmemhalhdbaaGreatDoorQs2
import Derived.KernelRfl
set_option linter.all false
noncomputable section
namespace Go.Proofs.YtflgmemhalhdbaaGreatDoor
open Go Go.Vse Go.Vse.Sm
set_option maxRecDepth 100000
set_option maxHeartbeats 4000000
def AllL{α:Type}(P:α->Prop):List α->Prop
 |[]=>True
 |a::l=>P a/\AllL P l
theorem allL{α:Type}{P:α->Prop}:∀{l:List α},AllL P l->∀a∈l,P a
 |[],_,a,h=>by simp at h
 |b::l,h,a,ha=>by
  rcases Z6.1 ha with rfl|ha
  .exact h.1
  .exact allL h.2 a ha
def mg{α:Type}{l:List α}(n:Nat){a:α}(h:l[n]? =some a):a∈l:=Z40 h
def rb(r:Nat)(b:UInt8):UInt8:=if b=64 then UInt8.ofNat (49+r)else b
def rb_no{p:Str}(h:p.all (· != 64)=true)(r:Nat):p.map (rb r)=p:=by
  refine (Z69 fun b hb=> ?_).trans (List.map_id p);have:=Z51.1 h b hb;have h2:¬b=64:=by simpa using this
  simp[rb,h2]
def cq0:CQ:=⟨[⟨[82],false,[.var [120],.var [121]]⟩],[],false,false⟩
def cq1:CQ:=⟨[⟨[82],false,[.var [120],.var [121]]⟩,⟨[83],false,[.var [121]]⟩],[],false,false⟩
def cq2:CQ:=⟨[⟨[82],false,[.var [120],.var [121]]⟩,⟨[83],false,[.var [120]]⟩],[],false,false⟩
def cq3:CQ:=⟨[⟨[82],false,[.var [120],.var [121]]⟩,⟨[75],false,[.var [121],.var [122]]⟩],[],false,false⟩
def cq4:CQ:=⟨[⟨[75],false,[.var [120],.var [121]]⟩,⟨[83],false,[.var [121]]⟩],[],false,false⟩
def cq5:CQ:=⟨[⟨[82],false,[.var [120],.var [121]]⟩,⟨[82],false,[.var [121],.var [122]]⟩],[],false,false⟩
def cq6:CQ:=⟨[⟨[82],false,[.var [120],.var [121]]⟩,⟨[82],false,[.var [121],.var [120]]⟩],[],false,false⟩
def cq7:CQ:=⟨[⟨[67],false,[.var [120],.var [121]]⟩,⟨[82],false,[.var [121],.var [122]]⟩],[],false,false⟩
def cq8:CQ:=⟨[⟨[82],false,[.var [120],.var [121]]⟩,⟨[83],true,[.var [121]]⟩],[],false,false⟩
def cq9:CQ:=⟨[⟨[83],false,[.var [120]]⟩,⟨[82],true,[.var [120],.cst 1]⟩],[],false,false⟩
def cq10:CQ:=⟨[⟨[83],false,[.var [120]]⟩,⟨[82],true,[.var [120],.cst 2]⟩],[],false,false⟩
def cq11:CQ:=⟨[⟨[83],false,[.var [120]]⟩,⟨[82],true,[.var [120],.cst 3]⟩],[],false,false⟩
def cq12:CQ:=⟨[⟨[67],false,[.var [120],.var [121]]⟩,⟨[83],false,[.var [121]]⟩,⟨[75],true,[.var [120],.var [121]]⟩],[],false,false⟩
def zl4:CQ:=⟨[⟨[82],false,[.var [120],.var [121]]⟩,⟨[83],false,[.var [120]]⟩,⟨[83],false,[.var [121]]⟩],[],false,false⟩
def zma:CQ:=⟨[⟨[75],false,[.var [120],.var [121]]⟩,⟨[75],false,[.var [122],.var [121]]⟩],[],false,false⟩
def zmb:CQ:=⟨[⟨[82],false,[.var [120],.cst 1]⟩],[],false,false⟩
def zmc:CQ:=⟨[⟨[82],false,[.var [120],.cst 2]⟩],[],false,false⟩
def zme:CQ:=⟨[⟨[82],false,[.var [120],.cst 3]⟩],[],false,false⟩
def zmh:CQ:=⟨[⟨[83],false,[.var [120]]⟩,⟨[75],false,[.var [120],.cst 1]⟩],[],false,false⟩
def zmi:CQ:=⟨[⟨[83],false,[.var [120]]⟩,⟨[75],false,[.var [120],.cst 2]⟩],[],false,false⟩
def zmo:CQ:=⟨[⟨[83],false,[.var [120]]⟩,⟨[75],false,[.var [120],.cst 3]⟩],[],false,false⟩
def cq21:CQ:=⟨[⟨[82],false,[.var [120],.var [121]]⟩],[⟨3,.var [120],.var [121]⟩],false,false⟩
def cq22:CQ:=⟨[⟨[82],false,[.var [120],.var [121]]⟩,⟨[83],false,[.var [122]]⟩],[⟨2,.var [121],.var [122]⟩],false,false⟩
def cq23:CQ:=⟨[⟨[83],false,[.var [120]]⟩,⟨[83],false,[.var [121]]⟩],[⟨4,.var [120],.var [121]⟩],false,false⟩
def cq24:CQ:=⟨[⟨[67],false,[.var [120],.var [121]]⟩,⟨[82],true,[.var [120],.var [121]]⟩],[],false,false⟩
def zmq:CQ:=⟨[⟨[82],false,[.var [120],.var [120]]⟩],[],false,false⟩
def cq26:CQ:=⟨[⟨[83],false,[.var [120]]⟩],[⟨1,.var [120],.cst 1⟩],false,false⟩
def cq27:CQ:=⟨[⟨[83],false,[.var [120]]⟩],[⟨1,.var [120],.cst 2⟩],false,false⟩
def cq28:CQ:=⟨[⟨[83],false,[.var [120]]⟩],[⟨1,.var [120],.cst 3⟩],false,false⟩
def zmr:CQ:=⟨[⟨[75],false,[.var [120],.var [121]]⟩,⟨[82],false,[.var [121],.var [122]]⟩,⟨[83],false,[.var [122]]⟩],[],false,false⟩
def cq30:CQ:=⟨[⟨[82],false,[.var [120],.var [121]]⟩,⟨[82],false,[.var [120],.var [122]]⟩],[⟨3,.var [121],.var [122]⟩],false,false⟩
def cq31:CQ:=⟨[⟨[75],false,[.var [120],.cst 1]⟩,⟨[67],false,[.var [121],.var [120]]⟩],[],false,false⟩
def cq32:CQ:=⟨[⟨[75],false,[.var [120],.cst 2]⟩,⟨[67],false,[.var [121],.var [120]]⟩],[],false,false⟩
def cq33:CQ:=⟨[⟨[75],false,[.var [120],.cst 3]⟩,⟨[67],false,[.var [121],.var [120]]⟩],[],false,false⟩
def zn5:CQ:=⟨[⟨[82],false,[.var [120],.var [121]]⟩,⟨[82],false,[.var [120],.var [122]]⟩],[],false,false⟩
def zn6:CQ:=⟨[⟨[82],false,[.var [120],.var [121]]⟩,⟨[82],false,[.var [122],.var [121]]⟩,⟨[83],false,[.var [122]]⟩],[],false,false⟩
def zn9:CQ:=⟨[⟨[83],false,[.var [120]]⟩],[],false,false⟩
def zoa:CQ:=⟨[⟨[82],false,[.var [120],.var [121]]⟩,⟨[82],false,[.var [121],.var [122]]⟩,⟨[82],false,[.var [120],.var [120]]⟩],[],false,false⟩
def CQl:List CQ:=[cq0,cq1,cq2,cq3,cq4,cq5,cq6,cq7,cq8,cq9,cq10,cq11,cq12,zl4,zma,zmb,zmc,zme,zmh,zmi,zmo,cq21,cq22,cq23,cq24,zmq,cq26,cq27,cq28,zmr,cq30,cq31,cq32,cq33,zn5,zn6,zn9,zoa]
def pa0:Str:=[82,40,120,44,32,121,41]
def pa1:Str:=[82,40,120,44,32,121,41,44,32,83,40,121,41]
def pa2:Str:=[82,40,120,44,32,121,41,44,32,83,40,120,41]
def pa3:Str:=[82,40,120,44,32,121,41,44,32,75,40,121,44,32,122,41]
def pa4:Str:=[75,40,120,44,32,121,41,44,32,83,40,121,41]
def pa5:Str:=[82,40,120,44,32,121,41,44,32,82,40,121,44,32,122,41]
def pa6:Str:=[82,40,120,44,32,121,41,44,32,82,40,121,44,32,120,41]
def pa7:Str:=[67,40,120,44,32,121,41,44,32,82,40,121,44,32,122,41]
def pa8:Str:=[82,40,120,44,32,121,41,44,32,110,111,116,32,83,40,121,41]
def pa9:Str:=[83,40,120,41,44,32,110,111,116,32,82,40,120,44,32,64,41]
def zFi:Str:=[67,40,120,44,32,121,41,44,32,83,40,121,41,44,32,110,111,116,32,75,40,120,44,32,121,41]
def zrA:Str:=[82,40,120,44,32,121,41,44,32,83,40,120,41,44,32,83,40,121,41]
def zrD:Str:=[75,40,120,44,32,121,41,44,32,75,40,122,44,32,121,41]
def zrE:Str:=[82,40,120,44,32,64,41]
def zrF:Str:=[83,40,120,41,44,32,75,40,120,44,32,64,41]
def zFk:Str:=[82,40,120,44,32,121,41,44,32,120,32,60,32,121]
def zFm:Str:=[82,40,120,44,32,121,41,44,32,83,40,122,41,44,32,121,32,33,61,32,122]
def zFn:Str:=[83,40,120,41,44,32,83,40,121,41,44,32,120,32,60,61,32,121]
def zFs:Str:=[67,40,120,44,32,121,41,44,32,110,111,116,32,82,40,120,44,32,121,41]
def zrG:Str:=[82,40,120,44,32,120,41]
def zFu:Str:=[83,40,120,41,44,32,120,32,61,32,64]
def zrJ:Str:=[75,40,120,44,32,121,41,44,32,82,40,121,44,32,122,41,44,32,83,40,122,41]
def zFv:Str:=[82,40,120,44,32,121,41,44,32,82,40,120,44,32,122,41,44,32,121,32,60,32,122]
def zFw:Str:=[75,40,120,44,32,64,41,44,32,67,40,121,44,32,120,41]
def pa24:Str:=[82,40,120,44,32,121,41,44,32,82,40,120,44,32,122,41]
def pa25:Str:=[82,40,120,44,32,121,41,44,32,82,40,122,44,32,121,41,44,32,83,40,122,41]
def pa26:Str:=[83,40,120,41]
def pa27:Str:=[82,40,120,44,32,121,41,44,32,82,40,121,44,32,122,41,44,32,82,40,120,44,32,120,41]
def paL:List (List F):=[[.s pa0],[.s pa1],[.s pa2],[.s pa3],[.s pa4],[.s pa5],[.s pa6],[.s pa7],[.s pa8],[.s pa9],[.s zFi],[.s zrA],[.s zrD],[.s zrE],[.s zrF],[.s zFk],[.s zFm],[.s zFn],[.s zFs],[.s zrG],[.s zFu],[.s zrJ],[.s zFv],[.s zFw]]
def poL:List (List F):=[[.s pa0],[.s pa1],[.s pa2],[.s pa3],[.s pa4],[.s pa5],[.s pa6],[.s pa7],[.s zrA],[.s zrD],[.s zrE],[.s zrF],[.s zrG],[.s zrJ],[.s pa24],[.s pa25],[.s pa26],[.s pa27]]
def ans41:Ans pr 41 [] (.sl 1 paL):=Qs197
def ans16:Ans pr 16 [] (.sl 1 poL):=Qs198
def zHI:Ans pr 12 [] (.b true):=Qs325
def Rd(L:List CQ)(p:Str)(r:Nat):Prop:=∃c∈L,Ans pr 20 [.s (p.map (rb r))] (.tu [.ag [.nils,.sl 2 [cqF c]],.i .i64 0])
def Rds(L:List CQ)(p:Str):Prop:=p≠[]/\p.length<1000/\∀r,r<3->Rd L p r
def RdX(L:List CQ)(x:List F):Prop:=∃p,x=[.s p]/\Rds L p
def qa{fs gs:List F}{x y:F}(h:Ans pr 20 fs x)(e1:fs=gs:=by kernel_rfl)(e2:x=y:=by kernel_rfl):Ans pr 20 gs y:=by rw[<-e1,<-e2];exact h
def rn{L:List CQ}{p:Str}{fs:List F}{x:F}(h1:p≠[])(h2:p.length<1000)(h:p.all (· != 64)=true){c:CQ}(n:Nat)(hc:L[n]? =some c)(q:Ans pr 20 fs x)(e1:fs=[.s p]:=by kernel_rfl)(e2:x= .tu [.ag [.nils,.sl 2 [cqF c]],.i .i64 0]:=by kernel_rfl):RdX L [.s p]:=
  ⟨p,rfl,h1,h2,fun r _=>⟨c,mg n hc,by rw[rb_no h];exact qa q e1 e2⟩⟩
def r3{L:List CQ}{p:Str}(h1:p≠[])(h2:p.length<1000)(a:Rd L p 0)(b:Rd L p 1)(c:Rd L p 2):RdX L [.s p]:=⟨p,rfl,h1,h2,fun r hr=>match r,hr with
 |0,_=>a
 |1,_=>b
 |2,_=>c⟩
def CQp:List CQ:=[cq0,cq1,cq2,cq3,cq4,cq5,cq6,cq7,zl4,zma,zmb,zmc,zme,zmh,zmi,zmo,zmq,zmr,zn5,zn6,zn9,zoa]
def rd0:RdX CQl [.s pa0]:=rn (by simp[pa0]) (by decide) (by decide) (c:=cq0) 0 rfl Qs13
def rd1:RdX CQl [.s pa1]:=rn (by simp[pa1]) (by decide) (by decide) (c:=cq1) 1 rfl Qs17
def rd2:RdX CQl [.s pa2]:=rn (by simp[pa2]) (by decide) (by decide) (c:=cq2) 2 rfl Qs19
def rd3:RdX CQl [.s pa3]:=rn (by simp[pa3]) (by decide) (by decide) (c:=cq3) 3 rfl Qs25
def rd4:RdX CQl [.s pa4]:=rn (by simp[pa4]) (by decide) (by decide) (c:=cq4) 4 rfl Qs27
def rd5:RdX CQl [.s pa5]:=rn (by simp[pa5]) (by decide) (by decide) (c:=cq5) 5 rfl Qs29
def rd6:RdX CQl [.s pa6]:=rn (by simp[pa6]) (by decide) (by decide) (c:=cq6) 6 rfl Qs31
def rd7:RdX CQl [.s pa7]:=rn (by simp[pa7]) (by decide) (by decide) (c:=cq7) 7 rfl Qs35
def rd8:RdX CQl [.s pa8]:=rn (by simp[pa8]) (by decide) (by decide) (c:=cq8) 8 rfl Qs42
def rd9:RdX CQl [.s pa9]:=r3 (by simp[pa9]) (by decide) ⟨cq9,mg 9 rfl,qa Qs69⟩ ⟨cq10,mg 10 rfl,qa Qs91⟩ ⟨cq11,mg 11 rfl,qa Qs114⟩
def rd10:RdX CQl [.s zFi]:=rn (by simp[zFi]) (by decide) (by decide) (c:=cq12) 12 rfl Qs116
def rd11:RdX CQl [.s zrA]:=rn (by simp[zrA]) (by decide) (by decide) (c:=zl4) 13 rfl zGp
def rd12:RdX CQl [.s zrD]:=rn (by simp[zrD]) (by decide) (by decide) (c:=zma) 14 rfl zGr
def rd13:RdX CQl [.s zrE]:=r3 (by simp[zrE]) (by decide) ⟨zmb,mg 15 rfl,qa zGu⟩ ⟨zmc,mg 16 rfl,qa zGv⟩ ⟨zme,mg 17 rfl,qa zGy⟩
def rd14:RdX CQl [.s zrF]:=r3 (by simp[zrF]) (by decide) ⟨zmh,mg 18 rfl,qa zGA⟩ ⟨zmi,mg 19 rfl,qa zGB⟩ ⟨zmo,mg 20 rfl,qa zGC⟩
def rd15:RdX CQl [.s zFk]:=rn (by simp[zFk]) (by decide) (by decide) (c:=cq21) 21 rfl Qs148
def rd16:RdX CQl [.s zFm]:=rn (by simp[zFm]) (by decide) (by decide) (c:=cq22) 22 rfl Qs152
def rd17:RdX CQl [.s zFn]:=rn (by simp[zFn]) (by decide) (by decide) (c:=cq23) 23 rfl Qs154
def rd18:RdX CQl [.s zFs]:=rn (by simp[zFs]) (by decide) (by decide) (c:=cq24) 24 rfl Qs156
def rd19:RdX CQl [.s zrG]:=rn (by simp[zrG]) (by decide) (by decide) (c:=zmq) 25 rfl zGH
def rd20:RdX CQl [.s zFu]:=r3 (by simp[zFu]) (by decide) ⟨cq26,mg 26 rfl,qa Qs164⟩ ⟨cq27,mg 27 rfl,qa Qs168⟩ ⟨cq28,mg 28 rfl,qa Qs172⟩
def rd21:RdX CQl [.s zrJ]:=rn (by simp[zrJ]) (by decide) (by decide) (c:=zmr) 29 rfl zGI
def rd22:RdX CQl [.s zFv]:=rn (by simp[zFv]) (by decide) (by decide) (c:=cq30) 30 rfl Qs176
def rd23:RdX CQl [.s zFw]:=r3 (by simp[zFw]) (by decide) ⟨cq31,mg 31 rfl,qa Qs180⟩ ⟨cq32,mg 32 rfl,qa Qs184⟩ ⟨cq33,mg 33 rfl,qa Qs188⟩
def rp0:RdX CQp [.s pa0]:=rn (by simp[pa0]) (by decide) (by decide) (c:=cq0) 0 rfl Qs13
def rp1:RdX CQp [.s pa1]:=rn (by simp[pa1]) (by decide) (by decide) (c:=cq1) 1 rfl Qs17
def rp2:RdX CQp [.s pa2]:=rn (by simp[pa2]) (by decide) (by decide) (c:=cq2) 2 rfl Qs19
def rp3:RdX CQp [.s pa3]:=rn (by simp[pa3]) (by decide) (by decide) (c:=cq3) 3 rfl Qs25
def rp4:RdX CQp [.s pa4]:=rn (by simp[pa4]) (by decide) (by decide) (c:=cq4) 4 rfl Qs27
def rp5:RdX CQp [.s pa5]:=rn (by simp[pa5]) (by decide) (by decide) (c:=cq5) 5 rfl Qs29
def rp6:RdX CQp [.s pa6]:=rn (by simp[pa6]) (by decide) (by decide) (c:=cq6) 6 rfl Qs31
def rp7:RdX CQp [.s pa7]:=rn (by simp[pa7]) (by decide) (by decide) (c:=cq7) 7 rfl Qs35
def rp11:RdX CQp [.s zrA]:=rn (by simp[zrA]) (by decide) (by decide) (c:=zl4) 8 rfl zGp
def rp12:RdX CQp [.s zrD]:=rn (by simp[zrD]) (by decide) (by decide) (c:=zma) 9 rfl zGr
def rp13:RdX CQp [.s zrE]:=r3 (by simp[zrE]) (by decide) ⟨zmb,mg 10 rfl,qa zGu⟩ ⟨zmc,mg 11 rfl,qa zGv⟩ ⟨zme,mg 12 rfl,qa zGy⟩
def rp14:RdX CQp [.s zrF]:=r3 (by simp[zrF]) (by decide) ⟨zmh,mg 13 rfl,qa zGA⟩ ⟨zmi,mg 14 rfl,qa zGB⟩ ⟨zmo,mg 15 rfl,qa zGC⟩
def rp19:RdX CQp [.s zrG]:=rn (by simp[zrG]) (by decide) (by decide) (c:=zmq) 16 rfl zGH
def rp21:RdX CQp [.s zrJ]:=rn (by simp[zrJ]) (by decide) (by decide) (c:=zmr) 17 rfl zGI
def rp24:RdX CQp [.s pa24]:=rn (by simp[pa24]) (by decide) (by decide) (c:=zn5) 18 rfl Qs190
def rp25:RdX CQp [.s pa25]:=rn (by simp[pa25]) (by decide) (by decide) (c:=zn6) 19 rfl Qs192
def rp26:RdX CQp [.s pa26]:=rn (by simp[pa26]) (by decide) (by decide) (c:=zn9) 20 rfl Qs194
def rp27:RdX CQp [.s pa27]:=rn (by simp[pa27]) (by decide) (by decide) (c:=zoa) 21 rfl Qs196
def rdA:∀x∈paL,RdX CQl x:=allL (P:=RdX CQl) (l:=paL) ⟨rd0,rd1,rd2,rd3,rd4,rd5,rd6,rd7,rd8,rd9,rd10,rd11,rd12,rd13,rd14,rd15,rd16,rd17,rd18,rd19,rd20,rd21,rd22,rd23,trivial⟩
def rdO:∀x∈poL,RdX CQp x:=allL (P:=RdX CQp) (l:=poL) ⟨rp0,rp1,rp2,rp3,rp4,rp5,rp6,rp7,rp11,rp12,rp13,rp14,rp19,rp21,rp24,rp25,rp26,rp27,trivial⟩
def vlK{c:CQ}(h:(vrs c).all (fun x=>decide (x.length<1000))=true):∀x∈vrs c,x.length<1000:=fun x hx=>by simpa using Z51.1 h x hx
def cg0:CqN 1 cq0:=⟨by simp[cq0,zc1,zaL],by simp[cq0,zdm,zaL],by decide,by decide,by simp[cq0],vlK (by kernel_rfl)⟩
def cg1:CqN 1 cq1:=⟨by simp[cq1,zc1,zaL],by simp[cq1,zdm,zaL],by decide,by decide,by simp[cq1],vlK (by kernel_rfl)⟩
def cg2:CqN 1 cq2:=⟨by simp[cq2,zc1,zaL],by simp[cq2,zdm,zaL],by decide,by decide,by simp[cq2],vlK (by kernel_rfl)⟩
def cg3:CqN 1 cq3:=⟨by simp[cq3,zc1,zaL],by simp[cq3,zdm,zaL],by decide,by decide,by simp[cq3],vlK (by kernel_rfl)⟩
def cg4:CqN 1 cq4:=⟨by simp[cq4,zc1,zaL],by simp[cq4,zdm,zaL],by decide,by decide,by simp[cq4],vlK (by kernel_rfl)⟩
def cg5:CqN 1 cq5:=⟨by simp[cq5,zc1,zaL],by simp[cq5,zdm,zaL],by decide,by decide,by simp[cq5],vlK (by kernel_rfl)⟩
def cg6:CqN 1 cq6:=⟨by simp[cq6,zc1,zaL],by simp[cq6,zdm,zaL],by decide,by decide,by simp[cq6],vlK (by kernel_rfl)⟩
def cg7:CqN 1 cq7:=⟨by simp[cq7,zc1,zaL],by simp[cq7,zdm,zaL],by decide,by decide,by simp[cq7],vlK (by kernel_rfl)⟩
def cg13:CqN 1 zl4:=⟨by simp[zl4,zc1,zaL],by simp[zl4,zdm,zaL],by decide,by decide,by simp[zl4],vlK (by kernel_rfl)⟩
def cg14:CqN 1 zma:=⟨by simp[zma,zc1,zaL],by simp[zma,zdm,zaL],by decide,by decide,by simp[zma],vlK (by kernel_rfl)⟩
def cg15:CqN 1 zmb:=⟨by simp[zmb,zc1,zaL],by simp[zmb,zdm,zaL],by decide,by decide,by simp[zmb],vlK (by kernel_rfl)⟩
def cg16:CqN 1 zmc:=⟨by simp[zmc,zc1,zaL],by simp[zmc,zdm,zaL],by decide,by decide,by simp[zmc],vlK (by kernel_rfl)⟩
def cg17:CqN 1 zme:=⟨by simp[zme,zc1,zaL],by simp[zme,zdm,zaL],by decide,by decide,by simp[zme],vlK (by kernel_rfl)⟩
def cg18:CqN 1 zmh:=⟨by simp[zmh,zc1,zaL],by simp[zmh,zdm,zaL],by decide,by decide,by simp[zmh],vlK (by kernel_rfl)⟩
def cg19:CqN 1 zmi:=⟨by simp[zmi,zc1,zaL],by simp[zmi,zdm,zaL],by decide,by decide,by simp[zmi],vlK (by kernel_rfl)⟩
def cg20:CqN 1 zmo:=⟨by simp[zmo,zc1,zaL],by simp[zmo,zdm,zaL],by decide,by decide,by simp[zmo],vlK (by kernel_rfl)⟩
def cg25:CqN 1 zmq:=⟨by simp[zmq,zc1,zaL],by simp[zmq,zdm,zaL],by decide,by decide,by simp[zmq],vlK (by kernel_rfl)⟩
def cg29:CqN 1 zmr:=⟨by simp[zmr,zc1,zaL],by simp[zmr,zdm,zaL],by decide,by decide,by simp[zmr],vlK (by kernel_rfl)⟩
def cg34:CqN 1 zn5:=⟨by simp[zn5,zc1,zaL],by simp[zn5,zdm,zaL],by decide,by decide,by simp[zn5],vlK (by kernel_rfl)⟩
def cg35:CqN 1 zn6:=⟨by simp[zn6,zc1,zaL],by simp[zn6,zdm,zaL],by decide,by decide,by simp[zn6],vlK (by kernel_rfl)⟩
def cg36:CqN 1 zn9:=⟨by simp[zn9,zc1,zaL],by simp[zn9,zdm,zaL],by decide,by decide,by simp[zn9],vlK (by kernel_rfl)⟩
def cg37:CqN 1 zoa:=⟨by simp[zoa,zc1,zaL],by simp[zoa,zdm,zaL],by decide,by decide,by simp[zoa],vlK (by kernel_rfl)⟩
def qw{fs gs:List F}{x y:F}(h:Ans pr 22 fs x)(e1:fs=gs:=by kernel_rfl)(e2:x=y:=by kernel_rfl):Ans pr 22 gs y:=by rw[<-e1,<-e2];exact h
def zHL:∀c∈CQp,Ans pr 22 [.ag (cqF c)] (zaM (vrs c)):=allL (P:=fun c=>Ans pr 22 [.ag (cqF c)] (zaM (vrs c))) (l:=CQp) ⟨qw Qs423,qw Qs425,qw Qs427,qw Qs429,qw Qs430,qw Qs431,qw Qs432,qw Qs433,qw Qs434,qw Qs436,qw Qs437,qw Qs438,qw Qs439,qw Qs441,qw Qs442,qw Qs443,qw Qs444,qw Qs446,qw Qs447,qw Qs448,qw Qs449,qw Qs451,trivial⟩
def zfy:∀c∈CQp,CqN 1 c/\c.cs=[]/\vrs c≠[]:=allL (P:=fun c=>CqN 1 c/\c.cs=[]/\vrs c≠[]) (l:=CQp) ⟨⟨cg0,rfl,by decide⟩,⟨cg1,rfl,by decide⟩,⟨cg2,rfl,by decide⟩,⟨cg3,rfl,by decide⟩,⟨cg4,rfl,by decide⟩,⟨cg5,rfl,by decide⟩,⟨cg6,rfl,by decide⟩,⟨cg7,rfl,by decide⟩,⟨cg13,rfl,by decide⟩,⟨cg14,rfl,by decide⟩,⟨cg15,rfl,by decide⟩,⟨cg16,rfl,by decide⟩,⟨cg17,rfl,by decide⟩,⟨cg18,rfl,by decide⟩,⟨cg19,rfl,by decide⟩,⟨cg20,rfl,by decide⟩,⟨cg25,rfl,by decide⟩,⟨cg29,rfl,by decide⟩,⟨cg34,rfl,by decide⟩,⟨cg35,rfl,by decide⟩,⟨cg36,rfl,by decide⟩,⟨cg37,rfl,by decide⟩,trivial⟩
def qd{fs:List F}{x:F}(h:Ans pr 24 fs x)(n:Nat)(e1:fs=[.i .i64 n]:=by kernel_rfl)(e2:x= .s (dgt n):=by kernel_rfl):Ans pr 24 [.i .i64 n] (.s (dgt n)):=by rw[<-e1,<-e2];exact h
theorem zHO:∀n,1<=n->n<27->Ans pr 24 [.i .i64 (n:Nat)] (.s (dgt n))
 |0,h,_=>absurd h (by decide)
 |1,_,_=>qd Qs326 1
 |2,_,_=>qd Qs327 2
 |3,_,_=>qd Qs328 3
 |4,_,_=>qd Qs332 4
 |5,_,_=>qd Qs336 5
 |6,_,_=>qd Qs340 6
 |7,_,_=>qd Qs344 7
 |8,_,_=>qd Qs348 8
 |9,_,_=>qd Qs352 9
 |10,_,_=>qd Qs356 10
 |11,_,_=>qd Qs360 11
 |12,_,_=>qd Qs364 12
 |13,_,_=>qd Qs368 13
 |14,_,_=>qd Qs372 14
 |15,_,_=>qd Qs376 15
 |16,_,_=>qd Qs380 16
 |17,_,_=>qd Qs384 17
 |18,_,_=>qd Qs388 18
 |19,_,_=>qd Qs392 19
 |20,_,_=>qd Qs396 20
 |21,_,_=>qd Qs400 21
 |22,_,_=>qd Qs404 22
 |23,_,_=>qd Qs408 23
 |24,_,_=>qd Qs412 24
 |25,_,_=>qd Qs416 25
 |26,_,_=>qd Qs420 26
 |n+27,_,h=>absurd h (by omega)
end Go.Proofs.YtflgmemhalhdbaaGreatDoor
