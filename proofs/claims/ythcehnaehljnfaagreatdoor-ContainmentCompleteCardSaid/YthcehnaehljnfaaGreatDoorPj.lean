/- The conjunctive queries of the builders, their frozen relations: what is answered of them (closed runs). Written by program. -/
import Derived.Test.YthcehnaehljnfaaGreatDoorPi
import Derived.Test.YthcehnaehljnfaaGreatDoorQs0
import Derived.Test.YthcehnaehljnfaaGreatDoorQs1
import Derived.Test.YthcehnaehljnfaaGreatDoorQs2
import Derived.KernelRfl
import Derived.Test.YthcehnaehljnfaaGreatDoorPa
import Derived.IntWalk
set_option linter.all false
set_option maxRecDepth 100000
set_option maxHeartbeats 4000000
noncomputable section
section
namespace Go.Proofs.YthcehnaehljnfaaGreatDoor
open Go Go.Vse Go.Vse.Sm
def zbz{α:Type}(P:α->Prop):List α->Prop
 |[]=>True
 |a::l=>P a/\zbz P l
theorem allL{α:Type}{P:α->Prop}:∀{l:List α},zbz P l->∀a∈l,P a
 |[],_,a,h=>by simp at h
 |b::l,h,a,ha=>by
  rcases Z5.1 ha with rfl|ha
  .exact h.1
  .exact allL h.2 a ha
def mg{α:Type}{l:List α}(n:Nat){a:α}(h:l[n]? =some a):a∈l:=Z39 h
def rb(r:Nat)(b:UInt8):UInt8:=if b=64 then UInt8.ofNat (49+r)else b
def rb_no{p:Str}(h:p.all (· != 64)=true)(r:Nat):p.map (rb r)=p:=by
  refine (Z68 fun b hb=> ?_).trans (List.map_id p);have:=Z50.1 h b hb;have h2:¬b=64:=by simpa using this
  simp[rb,h2]
def cq0:CQ:=⟨[⟨[82],false,[.var [120],.var [121]]⟩],[],false,false⟩
def cq1:CQ:=⟨[⟨[82],false,[.var [120],.var [121]]⟩,⟨[83],false,[.var [121]]⟩],[],false,false⟩
def cq2:CQ:=⟨[⟨[82],false,[.var [120],.var [121]]⟩,⟨[83],false,[.var [120]]⟩],[],false,false⟩
def cq3:CQ:=⟨[⟨[82],false,[.var [120],.var [121]]⟩,⟨[75],false,[.var [121],.var [122]]⟩],[],false,false⟩
def cq4:CQ:=⟨[⟨[75],false,[.var [120],.var [121]]⟩,⟨[83],false,[.var [121]]⟩],[],false,false⟩
def cq5:CQ:=⟨[⟨[82],false,[.var [120],.var [121]]⟩,⟨[82],false,[.var [121],.var [122]]⟩],[],false,false⟩
def cq6:CQ:=⟨[⟨[82],false,[.var [120],.var [121]]⟩,⟨[82],false,[.var [121],.var [120]]⟩],[],false,false⟩
def cq7:CQ:=⟨[⟨[67],false,[.var [120],.var [121]]⟩,⟨[82],false,[.var [121],.var [122]]⟩],[],false,false⟩
def cq8:CQ:=⟨[⟨[82],false,[.var [120],.var [121]]⟩,⟨[83],false,[.var [120]]⟩,⟨[83],false,[.var [121]]⟩],[],false,false⟩
def cq9:CQ:=⟨[⟨[75],false,[.var [120],.var [121]]⟩,⟨[75],false,[.var [122],.var [121]]⟩],[],false,false⟩
def zlz:CQ:=⟨[⟨[82],false,[.var [120],.cst 1]⟩],[],false,false⟩
def zlA:CQ:=⟨[⟨[82],false,[.var [120],.cst 2]⟩],[],false,false⟩
def zlB:CQ:=⟨[⟨[82],false,[.var [120],.cst 3]⟩],[],false,false⟩
def zlC:CQ:=⟨[⟨[83],false,[.var [120]]⟩,⟨[75],false,[.var [120],.cst 1]⟩],[],false,false⟩
def zlD:CQ:=⟨[⟨[83],false,[.var [120]]⟩,⟨[75],false,[.var [120],.cst 2]⟩],[],false,false⟩
def zlF:CQ:=⟨[⟨[83],false,[.var [120]]⟩,⟨[75],false,[.var [120],.cst 3]⟩],[],false,false⟩
def zlG:CQ:=⟨[⟨[82],false,[.var [120],.var [120]]⟩],[],false,false⟩
def zlH:CQ:=⟨[⟨[75],false,[.var [120],.var [121]]⟩,⟨[82],false,[.var [121],.var [122]]⟩,⟨[83],false,[.var [122]]⟩],[],false,false⟩
def zlI:CQ:=⟨[⟨[82],false,[.var [120],.var [121]]⟩,⟨[82],false,[.var [120],.var [122]]⟩],[],false,false⟩
def zlJ:CQ:=⟨[⟨[82],false,[.var [120],.var [121]]⟩,⟨[82],false,[.var [122],.var [121]]⟩,⟨[83],false,[.var [122]]⟩],[],false,false⟩
def zlK:CQ:=⟨[⟨[83],false,[.var [120]]⟩],[],false,false⟩
def zlL:CQ:=⟨[⟨[82],false,[.var [120],.var [121]]⟩,⟨[82],false,[.var [121],.var [122]]⟩,⟨[82],false,[.var [120],.var [120]]⟩],[],false,false⟩
def rl0:Rl:=⟨[82],false,.sl 3 [[.s [97],.i .i64 1,.b false],[.s [98],.i .i64 1,.b false]],[([100,101],[.b false,.sl 1 [[.i .u32 1]],.sl 1 [[.i .u32 1]]])]⟩
def rl1:Rl:=⟨[83],false,.sl 3 [[.s [97],.i .i64 1,.b false]],[]⟩
def rl2:Rl:=⟨[75],false,.sl 3 [[.s [107],.i .i64 1,.b false],[.s [118],.i .i64 1,.b false]],[]⟩
def rl3:Rl:=⟨[67],true,.sl 3 [[.s [97],.i .i64 1,.b false],[.s [98],.i .i64 1,.b false]],[]⟩
def rl4:Rl:=⟨[83],false,.sl 3 [[.s [97],.i .i64 1,.b false]],[([101],[.b false,.sl 1 [[.i .u32 1]],.sl 1 [[.i .u32 1]]])]⟩
def rl5:Rl:=⟨[83],false,.sl 3 [[.s [97],.i .i64 1,.b false]],[([100],[.b false,.sl 1 [[.i .u32 1]],.sl 1 [[.i .u32 1]]])]⟩
def rl6:Rl:=⟨[75],false,.sl 3 [[.s [107],.i .i64 1,.b false],[.s [118],.i .i64 1,.b false]],[([101,102],[.b false,.sl 1 [[.i .u32 1]],.sl 1 [[.i .u32 1]]])]⟩
def rl7:Rl:=⟨[82],false,.sl 3 [[.s [97],.i .i64 1,.b false],[.s [98],.i .i64 1,.b false]],[]⟩
def rl8:Rl:=⟨[75],false,.sl 3 [[.s [107],.i .i64 1,.b false],[.s [118],.i .i64 1,.b false]],[([100,101],[.b false,.sl 1 [[.i .u32 1]],.sl 1 [[.i .u32 1]]])]⟩
def rl9:Rl:=⟨[82],false,.sl 3 [[.s [97],.i .i64 1,.b false],[.s [98],.i .i64 1,.b false]],[([100,101],[.b false,.sl 1 [[.i .u32 1]],.sl 1 [[.i .u32 1]]]),([101,102],[.b false,.sl 1 [[.i .u32 1]],.sl 1 [[.i .u32 1]]])]⟩
def zKr:Rl:=⟨[82],false,.sl 3 [[.s [97],.i .i64 1,.b false],[.s [98],.i .i64 1,.b false]],[([100,101],[.b false,.sl 1 [[.i .u32 1]],.sl 1 [[.i .u32 1]]]),([101,100],[.b false,.sl 1 [[.i .u32 1]],.sl 1 [[.i .u32 1]]])]⟩
def zzb:Rl:=⟨[82],false,.sl 3 [[.s [97],.i .i64 1,.b false],[.s [98],.i .i64 1,.b false]],[([101,102],[.b false,.sl 1 [[.i .u32 1]],.sl 1 [[.i .u32 1]]])]⟩
def zKs:Rl:=⟨[67],true,.sl 3 [[.s [97],.i .i64 1,.b false],[.s [98],.i .i64 1,.b false]],[([100,101],[.b false,.sl 1 [[.i .u32 1]],.sl 1 [[.i .u32 1]]])]⟩
def zKt:Rl:=⟨[83],false,.sl 3 [[.s [97],.i .i64 1,.b false]],[([100],[.b false,.sl 1 [[.i .u32 1]],.sl 1 [[.i .u32 1]]]),([101],[.b false,.sl 1 [[.i .u32 1]],.sl 1 [[.i .u32 1]]])]⟩
def zKu:Rl:=⟨[75],false,.sl 3 [[.s [107],.i .i64 1,.b false],[.s [118],.i .i64 1,.b false]],[([100,101],[.b false,.sl 1 [[.i .u32 1]],.sl 1 [[.i .u32 1]]]),([102,101],[.b false,.sl 1 [[.i .u32 1]],.sl 1 [[.i .u32 1]]])]⟩
def zKw:Rl:=⟨[82],false,.sl 3 [[.s [97],.i .i64 1,.b false],[.s [98],.i .i64 1,.b false]],[([100,1],[.b false,.sl 1 [[.i .u32 1]],.sl 1 [[.i .u32 1]]])]⟩
def zKx:Rl:=⟨[82],false,.sl 3 [[.s [97],.i .i64 1,.b false],[.s [98],.i .i64 1,.b false]],[([100,2],[.b false,.sl 1 [[.i .u32 1]],.sl 1 [[.i .u32 1]]])]⟩
def zKz:Rl:=⟨[82],false,.sl 3 [[.s [97],.i .i64 1,.b false],[.s [98],.i .i64 1,.b false]],[([100,3],[.b false,.sl 1 [[.i .u32 1]],.sl 1 [[.i .u32 1]]])]⟩
def zKA:Rl:=⟨[75],false,.sl 3 [[.s [107],.i .i64 1,.b false],[.s [118],.i .i64 1,.b false]],[([100,1],[.b false,.sl 1 [[.i .u32 1]],.sl 1 [[.i .u32 1]]])]⟩
def zKC:Rl:=⟨[75],false,.sl 3 [[.s [107],.i .i64 1,.b false],[.s [118],.i .i64 1,.b false]],[([100,2],[.b false,.sl 1 [[.i .u32 1]],.sl 1 [[.i .u32 1]]])]⟩
def zKD:Rl:=⟨[75],false,.sl 3 [[.s [107],.i .i64 1,.b false],[.s [118],.i .i64 1,.b false]],[([100,3],[.b false,.sl 1 [[.i .u32 1]],.sl 1 [[.i .u32 1]]])]⟩
def zKF:Rl:=⟨[82],false,.sl 3 [[.s [97],.i .i64 1,.b false],[.s [98],.i .i64 1,.b false]],[([100,100],[.b false,.sl 1 [[.i .u32 1]],.sl 1 [[.i .u32 1]]])]⟩
def zzc:Rl:=⟨[83],false,.sl 3 [[.s [97],.i .i64 1,.b false]],[([102],[.b false,.sl 1 [[.i .u32 1]],.sl 1 [[.i .u32 1]]])]⟩
def zKG:Rl:=⟨[82],false,.sl 3 [[.s [97],.i .i64 1,.b false],[.s [98],.i .i64 1,.b false]],[([100,101],[.b false,.sl 1 [[.i .u32 1]],.sl 1 [[.i .u32 1]]]),([100,102],[.b false,.sl 1 [[.i .u32 1]],.sl 1 [[.i .u32 1]]])]⟩
def zKH:Rl:=⟨[82],false,.sl 3 [[.s [97],.i .i64 1,.b false],[.s [98],.i .i64 1,.b false]],[([100,101],[.b false,.sl 1 [[.i .u32 1]],.sl 1 [[.i .u32 1]]]),([102,101],[.b false,.sl 1 [[.i .u32 1]],.sl 1 [[.i .u32 1]]])]⟩
def zKI:Rl:=⟨[82],false,.sl 3 [[.s [97],.i .i64 1,.b false],[.s [98],.i .i64 1,.b false]],[([100,100],[.b false,.sl 1 [[.i .u32 1]],.sl 1 [[.i .u32 1]]]),([100,101],[.b false,.sl 1 [[.i .u32 1]],.sl 1 [[.i .u32 1]]]),([101,102],[.b false,.sl 1 [[.i .u32 1]],.sl 1 [[.i .u32 1]]])]⟩
def TB:List Tr:=[(cq0,[[120],[121]],[rl0,rl1,rl2,rl3]),(cq1,[[120],[121]],[rl0,rl4,rl2,rl3]),(cq2,[[120],[121]],[rl0,rl5,rl2,rl3]),(cq3,[[120],[121],[122]],[rl0,rl1,rl6,rl3]),(cq4,[[120],[121]],[rl7,rl4,rl8,rl3]),(cq5,[[120],[121],[122]],[rl9,rl1,rl2,rl3]),(cq6,[[120],[121]],[zKr,rl1,rl2,rl3]),(cq7,[[120],[121],[122]],[zzb,rl1,rl2,zKs]),(cq8,[[120],[121]],[rl0,zKt,rl2,rl3]),(cq9,[[120],[121],[122]],[rl7,rl1,zKu,rl3]),(zlz,[[120]],[zKw,rl1,rl2,rl3]),(zlA,[[120]],[zKx,rl1,rl2,rl3]),(zlB,[[120]],[zKz,rl1,rl2,rl3]),(zlC,[[120]],[rl7,rl5,zKA,rl3]),(zlD,[[120]],[rl7,rl5,zKC,rl3]),(zlF,[[120]],[rl7,rl5,zKD,rl3]),(zlG,[[120]],[zKF,rl1,rl2,rl3]),(zlH,[[120],[121],[122]],[zzb,zzc,rl8,rl3]),(zlI,[[120],[121],[122]],[zKG,rl1,rl2,rl3]),(zlJ,[[120],[121],[122]],[zKH,zzc,rl2,rl3]),(zlK,[[120]],[rl7,rl5,rl2,rl3]),(zlL,[[120],[121],[122]],[zKI,rl1,rl2,rl3])]
def CQp:List CQ:=[cq0,cq1,cq2,cq3,cq4,cq5,cq6,cq7,cq8,cq9,zlz,zlA,zlB,zlC,zlD,zlF,zlG,zlH,zlI,zlJ,zlK,zlL]
def zzI:F:= .sl 3 [[.s [82],.b false,.sl 3 [[.s [97],.i .i64 1,.b false],[.s [98],.i .i64 1,.b false]]],[.s [83],.b false,.sl 3 [[.s [97],.i .i64 1,.b false]]],[.s [75],.b false,.sl 3 [[.s [107],.i .i64 1,.b false],[.s [118],.i .i64 1,.b false]]],[.s [67],.b true,.sl 3 [[.s [97],.i .i64 1,.b false],[.s [98],.i .i64 1,.b false]]]]
def pa0:Str:=[82,40,120,44,32,121,41]
def pa1:Str:=[82,40,120,44,32,121,41,44,32,83,40,121,41]
def pa2:Str:=[82,40,120,44,32,121,41,44,32,83,40,120,41]
def pa3:Str:=[82,40,120,44,32,121,41,44,32,75,40,121,44,32,122,41]
def pa4:Str:=[75,40,120,44,32,121,41,44,32,83,40,121,41]
def pa5:Str:=[82,40,120,44,32,121,41,44,32,82,40,121,44,32,122,41]
def pa6:Str:=[82,40,120,44,32,121,41,44,32,82,40,121,44,32,120,41]
def pa7:Str:=[67,40,120,44,32,121,41,44,32,82,40,121,44,32,122,41]
def pa8:Str:=[82,40,120,44,32,121,41,44,32,83,40,120,41,44,32,83,40,121,41]
def pa9:Str:=[75,40,120,44,32,121,41,44,32,75,40,122,44,32,121,41]
def zJY:Str:=[82,40,120,44,32,64,41]
def zJ0:Str:=[83,40,120,41,44,32,75,40,120,44,32,64,41]
def zJ1:Str:=[82,40,120,44,32,120,41]
def zJ3:Str:=[75,40,120,44,32,121,41,44,32,82,40,121,44,32,122,41,44,32,83,40,122,41]
def zJ4:Str:=[82,40,120,44,32,121,41,44,32,82,40,120,44,32,122,41]
def zJ5:Str:=[82,40,120,44,32,121,41,44,32,82,40,122,44,32,121,41,44,32,83,40,122,41]
def zJ7:Str:=[83,40,120,41]
def zJ8:Str:=[82,40,120,44,32,121,41,44,32,82,40,121,44,32,122,41,44,32,82,40,120,44,32,120,41]
def poL:List (List F):=[[.s pa0],[.s pa1],[.s pa2],[.s pa3],[.s pa4],[.s pa5],[.s pa6],[.s pa7],[.s pa8],[.s pa9],[.s zJY],[.s zJ0],[.s zJ1],[.s zJ3],[.s zJ4],[.s zJ5],[.s zJ7],[.s zJ8]]
def ans32:Ans pr 32 [] (.sl 1 poL):=Qs136
def ans6:Ans pr 6 [] (.b true):=Qs221
def Rd(L:List CQ)(p:Str)(r:Nat):Prop:=∃c∈L,Ans pr 35 [.s (p.map (rb r))] (.tu [.ag [.nils,.sl 2 [cqF c]],.i .i64 0])
def Rds(L:List CQ)(p:Str):Prop:=p≠[]/\p.length<1000/\∀r,r<3->Rd L p r
def RdX(L:List CQ)(x:List F):Prop:=∃p,x=[.s p]/\Rds L p
def qa{f:Nat}{fs gs:List F}{x y:F}(h:Ans pr f fs x)(e1:fs=gs:=by kernel_rfl)(e2:x=y:=by kernel_rfl):Ans pr f gs y:=by rw[<-e1,<-e2];exact h
def rn{L:List CQ}{p:Str}{fs:List F}{x:F}(h1:p≠[])(h2:p.length<1000)(h:p.all (· != 64)=true){c:CQ}(n:Nat)(hc:L[n]? =some c)(q:Ans pr 35 fs x)(e1:fs=[.s p]:=by kernel_rfl)(e2:x= .tu [.ag [.nils,.sl 2 [cqF c]],.i .i64 0]:=by kernel_rfl):RdX L [.s p]:=
  ⟨p,rfl,h1,h2,fun r _=>⟨c,mg n hc,by rw[rb_no h];exact qa q e1 e2⟩⟩
def r3{L:List CQ}{p:Str}(h1:p≠[])(h2:p.length<1000)(a:Rd L p 0)(b:Rd L p 1)(c:Rd L p 2):RdX L [.s p]:=⟨p,rfl,h1,h2,fun r hr=>match r,hr with
 |0,_=>a
 |1,_=>b
 |2,_=>c⟩
def rp0:RdX CQp [.s pa0]:=rn (by simp[pa0]) (by decide) (by decide) (c:=cq0) 0 rfl Qs13
def rp1:RdX CQp [.s pa1]:=rn (by simp[pa1]) (by decide) (by decide) (c:=cq1) 1 rfl Qs17
def rp2:RdX CQp [.s pa2]:=rn (by simp[pa2]) (by decide) (by decide) (c:=cq2) 2 rfl Qs19
def rp3:RdX CQp [.s pa3]:=rn (by simp[pa3]) (by decide) (by decide) (c:=cq3) 3 rfl Qs25
def rp4:RdX CQp [.s pa4]:=rn (by simp[pa4]) (by decide) (by decide) (c:=cq4) 4 rfl Qs27
def rp5:RdX CQp [.s pa5]:=rn (by simp[pa5]) (by decide) (by decide) (c:=cq5) 5 rfl Qs29
def rp6:RdX CQp [.s pa6]:=rn (by simp[pa6]) (by decide) (by decide) (c:=cq6) 6 rfl Qs31
def rp7:RdX CQp [.s pa7]:=rn (by simp[pa7]) (by decide) (by decide) (c:=cq7) 7 rfl Qs35
def rp8:RdX CQp [.s pa8]:=rn (by simp[pa8]) (by decide) (by decide) (c:=cq8) 8 rfl Qs37
def rp9:RdX CQp [.s pa9]:=rn (by simp[pa9]) (by decide) (by decide) (c:=cq9) 9 rfl Qs39
def rp10:RdX CQp [.s zJY]:=r3 (by simp[zJY]) (by decide) ⟨zlz,mg 10 rfl,qa Qs66⟩ ⟨zlA,mg 11 rfl,qa Qs88⟩ ⟨zlB,mg 12 rfl,qa Qs111⟩
def rp11:RdX CQp [.s zJ0]:=r3 (by simp[zJ0]) (by decide) ⟨zlC,mg 13 rfl,qa Qs115⟩ ⟨zlD,mg 14 rfl,qa Qs119⟩ ⟨zlF,mg 15 rfl,qa Qs123⟩
def rp12:RdX CQp [.s zJ1]:=rn (by simp[zJ1]) (by decide) (by decide) (c:=zlG) 16 rfl Qs125
def rp13:RdX CQp [.s zJ3]:=rn (by simp[zJ3]) (by decide) (by decide) (c:=zlH) 17 rfl Qs127
def rp14:RdX CQp [.s zJ4]:=rn (by simp[zJ4]) (by decide) (by decide) (c:=zlI) 18 rfl zLs
def rp15:RdX CQp [.s zJ5]:=rn (by simp[zJ5]) (by decide) (by decide) (c:=zlJ) 19 rfl Qs131
def rp16:RdX CQp [.s zJ7]:=rn (by simp[zJ7]) (by decide) (by decide) (c:=zlK) 20 rfl Qs133
def rp17:RdX CQp [.s zJ8]:=rn (by simp[zJ8]) (by decide) (by decide) (c:=zlL) 21 rfl Qs135
def rdO:∀x∈poL,RdX CQp x:=allL (P:=RdX CQp) (l:=poL) ⟨rp0,rp1,rp2,rp3,rp4,rp5,rp6,rp7,rp8,rp9,rp10,rp11,rp12,rp13,rp14,rp15,rp16,rp17,trivial⟩
def va0:Ans pr 53 [.ag (rlF rl0)] (.i .i64 0):=qa Qs660
def va1:Ans pr 53 [.ag (rlF rl1)] (.i .i64 0):=qa Qs664
def va2:Ans pr 53 [.ag (rlF rl2)] (.i .i64 0):=qa Qs670
def va3:Ans pr 53 [.ag (rlF rl3)] (.i .i64 0):=qa Qs674
def va4:Ans pr 53 [.ag (rlF rl4)] (.i .i64 0):=qa Qs680
def va5:Ans pr 53 [.ag (rlF rl5)] (.i .i64 0):=qa Qs685
def va6:Ans pr 53 [.ag (rlF rl6)] (.i .i64 0):=qa Qs692
def va7:Ans pr 53 [.ag (rlF rl7)] (.i .i64 0):=qa Qs694
def va8:Ans pr 53 [.ag (rlF rl8)] (.i .i64 0):=qa Qs699
def va9:Ans pr 53 [.ag (rlF rl9)] (.i .i64 0):=qa Qs713
def va10:Ans pr 53 [.ag (rlF zKr)] (.i .i64 0):=qa Qs720
def va11:Ans pr 53 [.ag (rlF zzb)] (.i .i64 0):=qa Qs723
def va12:Ans pr 53 [.ag (rlF zKs)] (.i .i64 0):=qa Qs727
def va13:Ans pr 53 [.ag (rlF zKt)] (.i .i64 0):=qa Qs732
def va14:Ans pr 53 [.ag (rlF zKu)] (.i .i64 0):=qa Qs741
def va15:Ans pr 53 [.ag (rlF zKw)] (.i .i64 0):=qa Qs747
def va16:Ans pr 53 [.ag (rlF zKx)] (.i .i64 0):=qa Qs753
def va17:Ans pr 53 [.ag (rlF zKz)] (.i .i64 0):=qa Qs759
def va18:Ans pr 53 [.ag (rlF zKA)] (.i .i64 0):=qa Qs764
def va19:Ans pr 53 [.ag (rlF zKC)] (.i .i64 0):=qa Qs769
def va20:Ans pr 53 [.ag (rlF zKD)] (.i .i64 0):=qa Qs774
def va21:Ans pr 53 [.ag (rlF zKF)] (.i .i64 0):=qa Qs779
def va22:Ans pr 53 [.ag (rlF zzc)] (.i .i64 0):=qa Qs784
def va23:Ans pr 53 [.ag (rlF zKG)] (.i .i64 0):=qa Qs794
def va24:Ans pr 53 [.ag (rlF zKH)] (.i .i64 0):=qa Qs800
def va25:Ans pr 53 [.ag (rlF zKI)] (.i .i64 0):=qa Qs806
structure Bun(t:Tr):Prop where
 vr:Ans pr 72 [.ag (cqF t.1)] (zak t.2.1)
 f0:Ans pr 7 [.ag (cqF t.1),.nils] (.tu [zbS t.2.2,.nils])
 f1:Ans pr 7 [.ag (cqF t.1),.sl 1 [[.s [120]]]] (.tu [zbS t.2.2,.sl 3 [Sm.vF 100]])
 va:∀r∈t.2.2,Ans pr 53 [.ag (rlF r)] (.i .i64 0)
 sc:Ans pr 55 [zbS t.2.2] zzI
 bd:∀a∈t.1.as,∃l,l.length<=3/\Ans pr 72 [.ag [.sl 3 [atF a],.nils]] (zak l)/\∀s,Trm.var s∈a.ts->s∈l
 c0:Ans pr 183 [.sl 1 [[.nils],[zak t.2.1]]] (zak t.2.1)
 c1:Ans pr 183 [.sl 1 [[.sl 1 [[.s [120]]]],[zak t.2.1]]] (zak ([120]::t.2.1))
def bn0:Bun (cq0,[[120],[121]],[rl0,rl1,rl2,rl3]):=⟨qa zgj,qa Qs276,qa Qs277,allL ⟨va0,va1,va2,va3,trivial⟩,qa Qs886,allL (l:=cq0.as) ⟨⟨[[120],[121]],by decide,qa zgj,by simp⟩,trivial⟩,qa znZ,qa zn0⟩
def bn1:Bun (cq1,[[120],[121]],[rl0,rl4,rl2,rl3]):=⟨qa Qs812,qa Qs296,qa Qs297,allL ⟨va0,va4,va2,va3,trivial⟩,qa Qs887,allL (l:=cq1.as) ⟨⟨[[120],[121]],by decide,qa zgj,by simp⟩,⟨[[121]],by decide,qa zB8,by simp⟩,trivial⟩,qa znZ,qa zn0⟩
def bn2:Bun (cq2,[[120],[121]],[rl0,rl5,rl2,rl3]):=⟨qa Qs813,qa Qs311,qa Qs312,allL ⟨va0,va5,va2,va3,trivial⟩,qa Qs888,allL (l:=cq2.as) ⟨⟨[[120],[121]],by decide,qa zgj,by simp⟩,⟨[[120]],by decide,qa zll,by simp⟩,trivial⟩,qa znZ,qa zn0⟩
def bn3:Bun (cq3,[[120],[121],[122]],[rl0,rl1,rl6,rl3]):=⟨qa Qs814,qa Qs342,qa Qs343,allL ⟨va0,va1,va6,va3,trivial⟩,qa Qs889,allL (l:=cq3.as) ⟨⟨[[120],[121]],by decide,qa zgj,by simp⟩,⟨[[121],[122]],by decide,qa Qs849,by simp⟩,trivial⟩,qa zjL,qa zjO⟩
def bn4:Bun (cq4,[[120],[121]],[rl7,rl4,rl8,rl3]):=⟨qa Qs815,qa Qs356,qa Qs357,allL ⟨va7,va4,va8,va3,trivial⟩,qa Qs890,allL (l:=cq4.as) ⟨⟨[[120],[121]],by decide,qa zCd,by simp⟩,⟨[[121]],by decide,qa zB8,by simp⟩,trivial⟩,qa znZ,qa zn0⟩
def bn5:Bun (cq5,[[120],[121],[122]],[rl9,rl1,rl2,rl3]):=⟨qa zLx,qa Qs375,qa Qs376,allL ⟨va9,va1,va2,va3,trivial⟩,qa Qs891,allL (l:=cq5.as) ⟨⟨[[120],[121]],by decide,qa zgj,by simp⟩,⟨[[121],[122]],by decide,qa ztO,by simp⟩,trivial⟩,qa zjL,qa zjO⟩
def bn6:Bun (cq6,[[120],[121]],[zKr,rl1,rl2,rl3]):=⟨qa Qs816,qa Qs391,qa Qs392,allL ⟨va10,va1,va2,va3,trivial⟩,qa Qs892,allL (l:=cq6.as) ⟨⟨[[120],[121]],by decide,qa zgj,by simp⟩,⟨[[121],[120]],by decide,qa Qs854,by simp⟩,trivial⟩,qa znZ,qa zn0⟩
def bn7:Bun (cq7,[[120],[121],[122]],[zzb,rl1,rl2,zKs]):=⟨qa Qs817,qa Qs418,qa Qs419,allL ⟨va11,va1,va2,va12,trivial⟩,qa Qs893,allL (l:=cq7.as) ⟨⟨[[120],[121]],by decide,qa Qs855,by simp⟩,⟨[[121],[122]],by decide,qa ztO,by simp⟩,trivial⟩,qa zjL,qa zjO⟩
def bn8:Bun (cq8,[[120],[121]],[rl0,zKt,rl2,rl3]):=⟨qa Qs818,qa Qs433,qa Qs434,allL ⟨va0,va13,va2,va3,trivial⟩,qa Qs894,allL (l:=cq8.as) ⟨⟨[[120],[121]],by decide,qa zgj,by simp⟩,⟨[[120]],by decide,qa zll,by simp⟩,⟨[[121]],by decide,qa zB8,by simp⟩,trivial⟩,qa znZ,qa zn0⟩
def bn9:Bun (cq9,[[120],[121],[122]],[rl7,rl1,zKu,rl3]):=⟨qa Qs821,qa Qs453,qa Qs454,allL ⟨va7,va1,va14,va3,trivial⟩,qa Qs895,allL (l:=cq9.as) ⟨⟨[[120],[121]],by decide,qa zCd,by simp⟩,⟨[[122],[121]],by decide,qa Qs860,by simp⟩,trivial⟩,qa zjL,qa zjO⟩
def bn10:Bun (zlz,[[120]],[zKw,rl1,rl2,rl3]):=⟨qa zNS,qa Qs466,qa Qs467,allL ⟨va15,va1,va2,va3,trivial⟩,qa Qs896,allL (l:=zlz.as) ⟨⟨[[120]],by decide,qa zNS,by simp⟩,trivial⟩,qa zjN,qa zjP⟩
def bn11:Bun (zlA,[[120]],[zKx,rl1,rl2,rl3]):=⟨qa zNT,qa Qs479,qa Qs480,allL ⟨va16,va1,va2,va3,trivial⟩,qa Qs897,allL (l:=zlA.as) ⟨⟨[[120]],by decide,qa zNT,by simp⟩,trivial⟩,qa zjN,qa zjP⟩
def bn12:Bun (zlB,[[120]],[zKz,rl1,rl2,rl3]):=⟨qa zNU,qa Qs492,qa Qs493,allL ⟨va17,va1,va2,va3,trivial⟩,qa Qs898,allL (l:=zlB.as) ⟨⟨[[120]],by decide,qa zNU,by simp⟩,trivial⟩,qa zjN,qa zjP⟩
def bn13:Bun (zlC,[[120]],[rl7,rl5,zKA,rl3]):=⟨qa Qs825,qa Qs505,qa Qs506,allL ⟨va7,va5,va18,va3,trivial⟩,qa Qs899,allL (l:=zlC.as) ⟨⟨[[120]],by decide,qa zll,by simp⟩,⟨[[120]],by decide,qa Qs861,by simp⟩,trivial⟩,qa zjN,qa zjP⟩
def bn14:Bun (zlD,[[120]],[rl7,rl5,zKC,rl3]):=⟨qa Qs826,qa Qs517,qa Qs518,allL ⟨va7,va5,va19,va3,trivial⟩,qa Qs900,allL (l:=zlD.as) ⟨⟨[[120]],by decide,qa zll,by simp⟩,⟨[[120]],by decide,qa Qs862,by simp⟩,trivial⟩,qa zjN,qa zjP⟩
def bn15:Bun (zlF,[[120]],[rl7,rl5,zKD,rl3]):=⟨qa Qs827,qa Qs529,qa Qs530,allL ⟨va7,va5,va20,va3,trivial⟩,qa Qs901,allL (l:=zlF.as) ⟨⟨[[120]],by decide,qa zll,by simp⟩,⟨[[120]],by decide,qa Qs863,by simp⟩,trivial⟩,qa zjN,qa zjP⟩
def bn16:Bun (zlG,[[120]],[zKF,rl1,rl2,rl3]):=⟨qa zB7,qa Qs541,qa Qs542,allL ⟨va21,va1,va2,va3,trivial⟩,qa Qs902,allL (l:=zlG.as) ⟨⟨[[120]],by decide,qa zB7,by simp⟩,trivial⟩,qa zjN,qa zjP⟩
def bn17:Bun (zlH,[[120],[121],[122]],[zzb,zzc,rl8,rl3]):=⟨qa Qs831,qa Qs558,qa Qs559,allL ⟨va11,va22,va8,va3,trivial⟩,qa Qs903,allL (l:=zlH.as) ⟨⟨[[120],[121]],by decide,qa zCd,by simp⟩,⟨[[121],[122]],by decide,qa ztO,by simp⟩,⟨[[122]],by decide,qa zNV,by simp⟩,trivial⟩,qa zjL,qa zjO⟩
def bn18:Bun (zlI,[[120],[121],[122]],[zKG,rl1,rl2,rl3]):=⟨qa zLA,qa Qs578,qa Qs579,allL ⟨va23,va1,va2,va3,trivial⟩,qa Qs904,allL (l:=zlI.as) ⟨⟨[[120],[121]],by decide,qa zgj,by simp⟩,⟨[[120],[122]],by decide,qa Qs865,by simp⟩,trivial⟩,qa zjL,qa zjO⟩
def bn19:Bun (zlJ,[[120],[121],[122]],[zKH,zzc,rl2,rl3]):=⟨qa Qs832,qa Qs595,qa Qs596,allL ⟨va24,va22,va2,va3,trivial⟩,qa Qs905,allL (l:=zlJ.as) ⟨⟨[[120],[121]],by decide,qa zgj,by simp⟩,⟨[[122],[121]],by decide,qa Qs866,by simp⟩,⟨[[122]],by decide,qa zNV,by simp⟩,trivial⟩,qa zjL,qa zjO⟩
def bn20:Bun (zlK,[[120]],[rl7,rl5,rl2,rl3]):=⟨qa zll,qa Qs600,qa Qs601,allL ⟨va7,va5,va2,va3,trivial⟩,qa Qs906,allL (l:=zlK.as) ⟨⟨[[120]],by decide,qa zll,by simp⟩,trivial⟩,qa zjN,qa zjP⟩
def bn21:Bun (zlL,[[120],[121],[122]],[zKI,rl1,rl2,rl3]):=⟨qa Qs836,qa Qs622,qa Qs623,allL ⟨va25,va1,va2,va3,trivial⟩,qa Qs907,allL (l:=zlL.as) ⟨⟨[[120],[121]],by decide,qa zgj,by simp⟩,⟨[[121],[122]],by decide,qa ztO,by simp⟩,⟨[[120]],by decide,qa zB7,by simp⟩,trivial⟩,qa zjL,qa zjO⟩
def bnA:∀t∈TB,Bun t:=allL (l:=TB) ⟨bn0,bn1,bn2,bn3,bn4,bn5,bn6,bn7,bn8,bn9,bn10,bn11,bn12,bn13,bn14,bn15,bn16,bn17,bn18,bn19,bn20,bn21,trivial⟩
def vsA:Ans pr 112 [zzI] (.b true):=qa Qs811
def nmA:∀s∈([[120],[121],[122]]:List Str),Ans pr 168 [.s s] (.b true):=allL ⟨qa Qs837,qa Qs838,qa Qs839,trivial⟩
structure ScR(nm:Str)(n:Nat):Prop where
 q:∃ce cols,Ans pr 180 [zzI,.s nm] (.tu [.ag [.s nm,.b ce,slc 3 cols],.b true])/\cols.length=n/\∀x∈cols,∃s b,x=[F.s s,.i .i64 1,.b b]
def scR:ScR [82] 2:=⟨false,[[.s [97],.i .i64 1,.b false],[.s [98],.i .i64 1,.b false]],qa Qs840,rfl,by simp⟩
def scS:ScR [83] 1:=⟨false,[[.s [97],.i .i64 1,.b false]],qa Qs841,rfl,by simp⟩
def scK:ScR [75] 2:=⟨false,[[.s [107],.i .i64 1,.b false],[.s [118],.i .i64 1,.b false]],qa Qs842,rfl,by simp⟩
def scC:ScR [67] 2:=⟨true,[[.s [97],.i .i64 1,.b false],[.s [98],.i .i64 1,.b false]],qa Qs843,rfl,by simp⟩
def rQ{fs:List F}{x:F}(h:zzs orc0 pr 400 15 fs=some x:=by kernel_rfl):Ans pr 15 fs x:=zpy (zBc pr) h
def csA:∀n∈([1,2,3]:List Int),Ans pr 169 [.ag (Sm.vF n)] (.b true):=allL ⟨qa ztL,qa ztM,qa ztN,trivial⟩
def InA(R:List (List Int))(w:F)(v:List Int):Prop:=∃R2,Ans pr 9 [zeY R,w] (zeY R2)/\(R2.length=R.length↔v∈R)
def in0:InA [[100]] (.sl 3 [Sm.vF 100]) [100]:=⟨[[100]],qa Qs874,by decide⟩
def in1:InA [[101]] (.sl 3 [Sm.vF 100]) [100]:=⟨[[100],[101]],qa Qs876,by decide⟩
def in2:InA [[102]] (.sl 3 [Sm.vF 100]) [100]:=⟨[[100],[102]],qa Qs879,by decide⟩
def in3:InA [[100],[101]] (.sl 3 [Sm.vF 100]) [100]:=⟨[[100],[101]],qa Qs880,by decide⟩
def in4:InA [[100],[102]] (.sl 3 [Sm.vF 100]) [100]:=⟨[[100],[102]],qa Qs881,by decide⟩
def in5:InA [[101],[102]] (.sl 3 [Sm.vF 100]) [100]:=⟨[[100],[101],[102]],qa Qs882,by decide⟩
def in6:InA [[100],[101],[102]] (.sl 3 [Sm.vF 100]) [100]:=⟨[[100],[101],[102]],qa Qs883,by decide⟩
def inE:InA [[]] .nils []:=⟨[[]],qa Qs885,by decide⟩
def inA:∀R∈([[[100]],[[101]],[[102]],[[100],[101]],[[100],[102]],[[101],[102]],[[100],[101],[102]]]:List (List (List Int))),InA R (.sl 3 [Sm.vF 100]) [100]:=allL ⟨in0,in1,in2,in3,in4,in5,in6,trivial⟩
def VzL:List Int:=[1,2,3,100,101,102]
def keN:Ans pr 121 [.sl 3 []] .nils:=qa Qs908
def keyR(v:List Int):List UInt8:=v.flatMap fun z=>[1,128,0,0,0,0,0,0,UInt8.ofNat z.toNat]
def keyF(v:List Int):F:= .sl 1 ((keyR v).map fun b=>[.i .u8 b.toNat])
def keA:∀z∈VzL,Ans pr 121 [.sl 3 [Sm.vF z]] (keyF [z]):=allL (l:=VzL) ⟨qa Qs909,qa Qs910,qa Qs911,qa Qs912,qa Qs913,qa Qs914,trivial⟩
end Go.Proofs.YthcehnaehljnfaaGreatDoor
end
section
namespace Go.Proofs.YthcehnaehljnfaaGreatDoor
open Go Go.Vse Go.Vse.Sm
def zlw(a:Int)(m:Nat)(hm:m<2147483648):∃r:Nat,r<=m/\zaS .and (.i .i64 a) (.i .i64 m)=some (.i .i64 r):=by
 refine⟨(BitVec.ofInt 64 a&&& BitVec.ofInt 64 m).toNat,?_,?_⟩
 .rw[BitVec.toNat_and];refine Z3 Z203 ?_;rw[BitVec.toNat_ofInt];omega
 .have hle:(BitVec.ofInt 64 a&&& BitVec.ofInt 64 m).toNat<=m:=by
   rw[BitVec.toNat_and];refine Z3 Z203 ?_;rw[BitVec.toNat_ofInt];omega
  have e:zaS .and (.i .i64 a) (.i .i64 m)=some (.i .i64 (IntKind.i64.wrap ((BitVec.ofInt 64 a&&& BitVec.ofInt 64 m).toNat:Int))):=rfl;rw[e,wrap_i64 _ (by omega) (by omega)]
def ziq(x:F):Prop:=x= .nils\/∃zs:List Int,x= .sl 1 (zs.map fun z=>[.i .i64 z])
def zk9(a b:Nat)(hb:b≠0):zaS .rem (.i .i64 a) (.i .i64 b)=some (.i .i64 ((a%b:Nat):Int)):=by
 rw[zRI _ _ (by omega)];rfl
def fn10:pr.fn 10=some g10:=by kernel_rfl
def fn33:pr.fn 33=some g33:=by kernel_rfl
def fn4:pr.fn 4=some g4:=by kernel_rfl
def z3K(f:A->Option D)(x:A):(O.s2b x).res f=(f x).bind fun y=>some (.s2b y):=rfl
def o_s2b{pr:Pr}{s:St}{Q:St->Prop}{dst:Option Nat}{l:List Go.Vse.Op}{x:A}:wpO pr (⟨dst,none,.s2b x⟩ ::l) s Q↔oB (((O.s2b x).res (zah s.tm)).bind (opv s.h.get s.c)) fun r=>zau r.c r.wr=true/\wpO pr l (s.aft dst r.d r.wr r.c) Q:=zdp rfl
def byE(l:Str):List (List D):=l.map fun x=>[D.f (.i .u8 x.toNat)]
def v_s2b{h:Nat->Option Ob}{c:Nat}{l:Str}(hl:l≠[]):opv h c (.s2b (.f (.s l)))=some {d:= .sl c 0 l.length 1 l.length false,wr:=[(c,some (.arr 1 0 (byE l)))],c:=c+1}:=by
 simp[opv,hl,byE]
theorem zPa:∀l:Str,zdn (byE l)=some l
 |[]=>rfl
 |x::l=>by
  have:=zPa l;simp only[byE,Z10,zdn]at this|-;rw[this];simp
def v_b2s{h:Nat->Option Ob}{c id len lim:Nat}{ex:Bool}{l:Str}(hg:h id=some (.arr 1 0 (byE l)))(hl:l.length=len):opv h c (.b2s (.sl id 0 len 1 lim ex))=some {d:= .f (.s l),rd:=[id],c:=c}:=by
 have h1:(byE l).length=l.length:=by simp[byE]
 have h2:elemsOf 1 h (.sl id 0 len 1 lim ex)=some (byE l,[id]):=by
  rw[zPm,hg,zeW,zAA,Z51 ⟨rfl,rfl,by omega⟩,Z34,<-hl,<-h1,Z7]
 simp only[opv,h2,zPa]
def fn12:pr.fn 12=some g12:=by kernel_rfl
def zSi{a b:List Str}(hl:a.length=b.length)(h:∀i,i<a.length->a[i]? =b[i]?):a=b:=by
 apply Z107;intro i
 by_cases hi:i<a.length
 .exact h i hi
 .rw[Z97 (by omega),Z97 (by omega)]
def SQ40(a b:List Str)(k:Nat)(s:St):Prop:=∃n:Nat,(k=a.length - n/\n<=a.length/\∀i,i<n->a[i]? =b[i]?)/\(s.tm.get 0=some (.f (zak a))/\s.tm.get 1=some (.f (zak b))/\s.tm.get 12=some (.f (.i .i64 a.length))/\s.tm.get 13=some (.f (.i .i64 n)))
def ans12(a b:List Str)(hn:a.length<100000):Ans pr 12 [zak a,zak b] (.b (decide (a=b))):=by
 refine zdr fn12 ?_;simp only[g12,rU]
 by_cases hl:a.length=b.length
 .have hl':(a.length:Int)=b.length:=by omega
  simp[rW,st0,zay,zbl,zcM,hl,hl'];refine zfa (SQ40 a b) (fun x s=>(x= .exit 0/\a=b)\/(x= .ret/\a≠b/\s.tm.get 4=some (.f (.b false)))) ?_ a.length _ ?_ ?_
  .rintro k s ⟨n,⟨rfl,hn2,he⟩,⟨h0,h1,h12,h13⟩⟩
   by_cases hlt:n<a.length
   .have ha:a[n]? =some a[n]:=Z0 hlt;have hb:b[n]? =some b[n]:=Z0 (by omega);have hltb:n<b.length:=by omega
    have hw:=zaH n (by omega);generalize hA:a[n]=A at ha;generalize hB:b[n]=B at hb
    by_cases hq:A=B
    .subst hq;simp[rW,h0,h1,h12,h13,zcM,hlt,hltb,hl];refine zbf ?_;simp[rW,h0,h1,h12,h13,zfq,ha,hb,hlt,hltb,hA,hB];rw[zHO];refine⟨a.length - (n+1),by omega,n+1,⟨rfl,by omega,fun i hi=> ?_⟩,?_⟩
     .by_cases hi2:i=n
      .subst hi2;rw[ha,hb]
      .exact he i (by omega)
     .simp[rW,h0,h1,h12,h13,hw]
    .have hne:a≠b:=fun e=>hq (by subst e;rw[ha]at hb;exact Z53 hb)
     simp[rW,h0,h1,h12,h13,zcM,hlt,hltb,hl];refine zbf ?_;simp[rW,h0,h1,h12,h13,zfq,ha,hb,hlt,hltb,hA,hB,hq,hne]
   .have e:a=b:=zSi hl fun i hi=>he i (by omega)
    have hltb:¬(n<b.length):=by omega
    simp[rW,h0,h1,h12,h13,zcM,hlt,hltb,hl];exact e
  .simp[rW,SQ40];exact⟨0,by simp,by simp[hl]⟩
  .rintro x s (⟨rfl,e⟩ |⟨rfl,e,h4⟩)
   .simp[rW,e]
   .simp[rW,h4,e]
 .have hl':¬((a.length:Int)=b.length):=by omega
  have hne:¬(a=b):=fun e=>hl (by rw[e])
  simp[rW,st0,zay,zbl,zcM,hl,hl',hne]
end Go.Proofs.YthcehnaehljnfaaGreatDoor
end
