/- The conjunctive queries of the builders: what they are read from. Written by program. -/
import Derived.Test.YtmnkdfjljkhneaaGreatPa
import Derived.Test.YtmnkdfjljkhneaaGreatQs0
import Derived.Test.YtmnkdfjljkhneaaGreatQs1
import Derived.KernelRfl
set_option linter.all false
noncomputable section
namespace Go.Proofs.YtmnkdfjljkhneaaGreat
open Go Go.Vse Go.Vse.Sm
set_option maxRecDepth 100000
set_option maxHeartbeats 4000000
def AllL{α:Type}(P:α->Prop):List α->Prop
 |[]=>True
 |a::l=>P a/\AllL P l
theorem allL{α:Type}{P:α->Prop}:∀{l:List α},AllL P l->∀a∈l,P a
 |[],_,a,h=>by simp at h
 |b::l,h,a,ha=>by
  rcases Z5.1 ha with rfl|ha
  .exact h.1
  .exact allL h.2 a ha
def mg{α:Type}{l:List α}(n:Nat){a:α}(h:l[n]? =some a):a∈l:=Z39 h
def rb(r:Nat)(b:UInt8):UInt8:=if b=64 then UInt8.ofNat (49+r)else b
def rb_no{p:Str}(h:p.all (· != 64)=true)(r:Nat):p.map (rb r)=p:=by
  refine (List.map_congr_left fun b hb=> ?_).trans (List.map_id p);have:=List.all_eq_true.1 h b hb;have h2:¬b=64:=by simpa using this
  simp[rb,h2]
def cq0:CQ:=⟨[⟨[82],false,[.var [120],.var [121]]⟩],[],false,false⟩
def cq1:CQ:=⟨[⟨[82],false,[.var [120],.var [121]]⟩,⟨[83],false,[.var [121]]⟩],[],false,false⟩
def cq2:CQ:=⟨[⟨[82],false,[.var [120],.var [121]]⟩,⟨[83],false,[.var [120]]⟩],[],false,false⟩
def cq3:CQ:=⟨[⟨[82],false,[.var [120],.var [121]]⟩,⟨[75],false,[.var [121],.var [122]]⟩],[],false,false⟩
def cq4:CQ:=⟨[⟨[75],false,[.var [120],.var [121]]⟩,⟨[83],false,[.var [121]]⟩],[],false,false⟩
def cq5:CQ:=⟨[⟨[82],false,[.var [120],.var [121]]⟩,⟨[82],false,[.var [121],.var [122]]⟩],[],false,false⟩
def cq6:CQ:=⟨[⟨[82],false,[.var [120],.var [121]]⟩,⟨[82],false,[.var [121],.var [120]]⟩],[],false,false⟩
def cq7:CQ:=⟨[⟨[67],false,[.var [120],.var [121]]⟩,⟨[82],false,[.var [121],.var [122]]⟩],[],false,false⟩
def cq8:CQ:=⟨[⟨[82],false,[.var [120],.var [121]]⟩,⟨[83],true,[.var [121]]⟩],[],false,false⟩
def cq9:CQ:=⟨[⟨[83],false,[.var [120]]⟩,⟨[82],true,[.var [120],.cst 1]⟩],[],false,false⟩
def zjW:CQ:=⟨[⟨[83],false,[.var [120]]⟩,⟨[82],true,[.var [120],.cst 2]⟩],[],false,false⟩
def zjX:CQ:=⟨[⟨[83],false,[.var [120]]⟩,⟨[82],true,[.var [120],.cst 3]⟩],[],false,false⟩
def zjY:CQ:=⟨[⟨[67],false,[.var [120],.var [121]]⟩,⟨[83],false,[.var [121]]⟩,⟨[75],true,[.var [120],.var [121]]⟩],[],false,false⟩
def zjZ:CQ:=⟨[⟨[82],false,[.var [120],.var [121]]⟩,⟨[83],false,[.var [120]]⟩,⟨[83],false,[.var [121]]⟩],[],false,false⟩
def zj2:CQ:=⟨[⟨[75],false,[.var [120],.var [121]]⟩,⟨[75],false,[.var [122],.var [121]]⟩],[],false,false⟩
def zj6:CQ:=⟨[⟨[82],false,[.var [120],.cst 1]⟩],[],false,false⟩
def zj8:CQ:=⟨[⟨[82],false,[.var [120],.cst 2]⟩],[],false,false⟩
def zj9:CQ:=⟨[⟨[82],false,[.var [120],.cst 3]⟩],[],false,false⟩
def zka:CQ:=⟨[⟨[83],false,[.var [120]]⟩,⟨[75],false,[.var [120],.cst 1]⟩],[],false,false⟩
def zkd:CQ:=⟨[⟨[83],false,[.var [120]]⟩,⟨[75],false,[.var [120],.cst 2]⟩],[],false,false⟩
def zkg:CQ:=⟨[⟨[83],false,[.var [120]]⟩,⟨[75],false,[.var [120],.cst 3]⟩],[],false,false⟩
def zkj:CQ:=⟨[⟨[82],false,[.var [120],.var [121]]⟩],[⟨3,.var [120],.var [121]⟩],false,false⟩
def zkk:CQ:=⟨[⟨[82],false,[.var [120],.var [121]]⟩,⟨[83],false,[.var [122]]⟩],[⟨2,.var [121],.var [122]⟩],false,false⟩
def zkp:CQ:=⟨[⟨[83],false,[.var [120]]⟩,⟨[83],false,[.var [121]]⟩],[⟨4,.var [120],.var [121]⟩],false,false⟩
def zkq:CQ:=⟨[⟨[67],false,[.var [120],.var [121]]⟩,⟨[82],true,[.var [120],.var [121]]⟩],[],false,false⟩
def zkr:CQ:=⟨[⟨[82],false,[.var [120],.var [120]]⟩],[],false,false⟩
def zkt:CQ:=⟨[⟨[83],false,[.var [120]]⟩],[⟨1,.var [120],.cst 1⟩],false,false⟩
def zkw:CQ:=⟨[⟨[83],false,[.var [120]]⟩],[⟨1,.var [120],.cst 2⟩],false,false⟩
def zkz:CQ:=⟨[⟨[83],false,[.var [120]]⟩],[⟨1,.var [120],.cst 3⟩],false,false⟩
def zkC:CQ:=⟨[⟨[75],false,[.var [120],.var [121]]⟩,⟨[82],false,[.var [121],.var [122]]⟩,⟨[83],false,[.var [122]]⟩],[],false,false⟩
def zkF:CQ:=⟨[⟨[82],false,[.var [120],.var [121]]⟩,⟨[82],false,[.var [120],.var [122]]⟩],[⟨3,.var [121],.var [122]⟩],false,false⟩
def zkG:CQ:=⟨[⟨[75],false,[.var [120],.cst 1]⟩,⟨[67],false,[.var [121],.var [120]]⟩],[],false,false⟩
def zkI:CQ:=⟨[⟨[75],false,[.var [120],.cst 2]⟩,⟨[67],false,[.var [121],.var [120]]⟩],[],false,false⟩
def zkJ:CQ:=⟨[⟨[75],false,[.var [120],.cst 3]⟩,⟨[67],false,[.var [121],.var [120]]⟩],[],false,false⟩
def CQl:List CQ:=[cq0,cq1,cq2,cq3,cq4,cq5,cq6,cq7,cq8,cq9,zjW,zjX,zjY,zjZ,zj2,zj6,zj8,zj9,zka,zkd,zkg,zkj,zkk,zkp,zkq,zkr,zkt,zkw,zkz,zkC,zkF,zkG,zkI,zkJ]
def pa0:Str:=[82,40,120,44,32,121,41]
def pa1:Str:=[82,40,120,44,32,121,41,44,32,83,40,121,41]
def pa2:Str:=[82,40,120,44,32,121,41,44,32,83,40,120,41]
def pa3:Str:=[82,40,120,44,32,121,41,44,32,75,40,121,44,32,122,41]
def pa4:Str:=[75,40,120,44,32,121,41,44,32,83,40,121,41]
def pa5:Str:=[82,40,120,44,32,121,41,44,32,82,40,121,44,32,122,41]
def pa6:Str:=[82,40,120,44,32,121,41,44,32,82,40,121,44,32,120,41]
def pa7:Str:=[67,40,120,44,32,121,41,44,32,82,40,121,44,32,122,41]
def pa8:Str:=[82,40,120,44,32,121,41,44,32,110,111,116,32,83,40,121,41]
def pa9:Str:=[83,40,120,41,44,32,110,111,116,32,82,40,120,44,32,64,41]
def zEB:Str:=[67,40,120,44,32,121,41,44,32,83,40,121,41,44,32,110,111,116,32,75,40,120,44,32,121,41]
def zEC:Str:=[82,40,120,44,32,121,41,44,32,83,40,120,41,44,32,83,40,121,41]
def zEF:Str:=[75,40,120,44,32,121,41,44,32,75,40,122,44,32,121,41]
def zEG:Str:=[82,40,120,44,32,64,41]
def zEJ:Str:=[83,40,120,41,44,32,75,40,120,44,32,64,41]
def zEK:Str:=[82,40,120,44,32,121,41,44,32,120,32,60,32,121]
def zEM:Str:=[82,40,120,44,32,121,41,44,32,83,40,122,41,44,32,121,32,33,61,32,122]
def zEN:Str:=[83,40,120,41,44,32,83,40,121,41,44,32,120,32,60,61,32,121]
def zEO:Str:=[67,40,120,44,32,121,41,44,32,110,111,116,32,82,40,120,44,32,121,41]
def zET:Str:=[82,40,120,44,32,120,41]
def zEU:Str:=[83,40,120,41,44,32,120,32,61,32,64]
def zEW:Str:=[75,40,120,44,32,121,41,44,32,82,40,121,44,32,122,41,44,32,83,40,122,41]
def zEX:Str:=[82,40,120,44,32,121,41,44,32,82,40,120,44,32,122,41,44,32,121,32,60,32,122]
def zEZ:Str:=[75,40,120,44,32,64,41,44,32,67,40,121,44,32,120,41]
def paL:List (List F):=[[.s pa0],[.s pa1],[.s pa2],[.s pa3],[.s pa4],[.s pa5],[.s pa6],[.s pa7],[.s pa8],[.s pa9],[.s zEB],[.s zEC],[.s zEF],[.s zEG],[.s zEJ],[.s zEK],[.s zEM],[.s zEN],[.s zEO],[.s zET],[.s zEU],[.s zEW],[.s zEX],[.s zEZ]]
def zGK:Ans pr 56 [] (.sl 1 paL):=Qs193
def kn0:Ans pr 54 [.s [82,40,120,44,32,121,41,44,32,82,40,49,44,32,122,41]] (.tu [.ag [.nils,.sl 2 [[.sl 3 [[.s [82],.b false,.sl 4 [[.s [120],.i .i64 0,.i .i64 0,.s []],[.s [121],.i .i64 0,.i .i64 0,.s []]]],[.s [82],.b false,.sl 4 [[.s [],.i .i64 1,.i .i64 1,.s []],[.s [122],.i .i64 0,.i .i64 0,.s []]]]],.nils]]],.i .i64 0]):=Qs192
def kn1:Ans pr 54 [.s [82,40,120,44,32,121,41,44,32,82,40,121,44,32,120,41]] (.tu [.ag [.nils,.sl 2 [[.sl 3 [[.s [82],.b false,.sl 4 [[.s [120],.i .i64 0,.i .i64 0,.s []],[.s [121],.i .i64 0,.i .i64 0,.s []]]],[.s [82],.b false,.sl 4 [[.s [121],.i .i64 0,.i .i64 0,.s []],[.s [120],.i .i64 0,.i .i64 0,.s []]]]],.nils]]],.i .i64 0]):=Qs31
def kn2:Ans pr 16 [.ag [.nils,.sl 2 [[.sl 3 [[.s [82],.b false,.sl 4 [[.s [120],.i .i64 0,.i .i64 0,.s []],[.s [121],.i .i64 0,.i .i64 0,.s []]]],[.s [82],.b false,.sl 4 [[.s [],.i .i64 1,.i .i64 1,.s []],[.s [122],.i .i64 0,.i .i64 0,.s []]]]],.nils]]]] (.sl 3 [[.i .i64 1,.i .i64 1,.s []]]):=Qs194
def Rd(p:Str)(r:Nat):Prop:=∃c∈CQl,Ans pr 54 [.s (p.map (rb r))] (.tu [.ag [.nils,.sl 2 [cqF c]],.i .i64 0])
def Rds(p:Str):Prop:=p≠[]/\p.length<1000/\∀r,r<3->Rd p r
def RdX(x:List F):Prop:=∃p,x=[.s p]/\Rds p
def qa{fs gs:List F}{x y:F}(h:Ans pr 54 fs x)(e1:fs=gs)(e2:x=y):Ans pr 54 gs y:=by rw[<-e1,<-e2];exact h
def rn{p:Str}{fs:List F}{x:F}(h1:p≠[])(h2:p.length<1000)(h:p.all (· != 64)=true){c:CQ}(n:Nat)(hc:CQl[n]? =some c)(q:Ans pr 54 fs x)(e1:fs=[.s p])(e2:x= .tu [.ag [.nils,.sl 2 [cqF c]],.i .i64 0]):RdX [.s p]:=
  ⟨p,rfl,h1,h2,fun r _=>⟨c,mg n hc,by rw[rb_no h];exact qa q e1 e2⟩⟩
def r3{p:Str}(h1:p≠[])(h2:p.length<1000)(a:Rd p 0)(b:Rd p 1)(c:Rd p 2):RdX [.s p]:=⟨p,rfl,h1,h2,fun r hr=>match r,hr with
 |0,_=>a
 |1,_=>b
 |2,_=>c⟩
def rd0:RdX [.s pa0]:=rn (by simp[pa0]) (by decide) (by decide) (c:=cq0) 0 rfl Qs13 (by kernel_rfl) (by kernel_rfl)
def rd1:RdX [.s pa1]:=rn (by simp[pa1]) (by decide) (by decide) (c:=cq1) 1 rfl Qs17 (by kernel_rfl) (by kernel_rfl)
def rd2:RdX [.s pa2]:=rn (by simp[pa2]) (by decide) (by decide) (c:=cq2) 2 rfl Qs19 (by kernel_rfl) (by kernel_rfl)
def rd3:RdX [.s pa3]:=rn (by simp[pa3]) (by decide) (by decide) (c:=cq3) 3 rfl Qs25 (by kernel_rfl) (by kernel_rfl)
def rd4:RdX [.s pa4]:=rn (by simp[pa4]) (by decide) (by decide) (c:=cq4) 4 rfl Qs27 (by kernel_rfl) (by kernel_rfl)
def rd5:RdX [.s pa5]:=rn (by simp[pa5]) (by decide) (by decide) (c:=cq5) 5 rfl Qs29 (by kernel_rfl) (by kernel_rfl)
def rd6:RdX [.s pa6]:=rn (by simp[pa6]) (by decide) (by decide) (c:=cq6) 6 rfl Qs31 (by kernel_rfl) (by kernel_rfl)
def rd7:RdX [.s pa7]:=rn (by simp[pa7]) (by decide) (by decide) (c:=cq7) 7 rfl Qs35 (by kernel_rfl) (by kernel_rfl)
def rd8:RdX [.s pa8]:=rn (by simp[pa8]) (by decide) (by decide) (c:=cq8) 8 rfl Qs42 (by kernel_rfl) (by kernel_rfl)
def rd9:RdX [.s pa9]:=r3 (by simp[pa9]) (by decide) ⟨cq9,mg 9 rfl,qa Qs69 (by kernel_rfl) (by kernel_rfl)⟩ ⟨zjW,mg 10 rfl,qa Qs91 (by kernel_rfl) (by kernel_rfl)⟩ ⟨zjX,mg 11 rfl,qa Qs114 (by kernel_rfl) (by kernel_rfl)⟩
def rd10:RdX [.s zEB]:=rn (by simp[zEB]) (by decide) (by decide) (c:=zjY) 12 rfl Qs116 (by kernel_rfl) (by kernel_rfl)
def rd11:RdX [.s zEC]:=rn (by simp[zEC]) (by decide) (by decide) (c:=zjZ) 13 rfl Qs118 (by kernel_rfl) (by kernel_rfl)
def rd12:RdX [.s zEF]:=rn (by simp[zEF]) (by decide) (by decide) (c:=zj2) 14 rfl Qs120 (by kernel_rfl) (by kernel_rfl)
def rd13:RdX [.s zEG]:=r3 (by simp[zEG]) (by decide) ⟨zj6,mg 15 rfl,qa Qs124 (by kernel_rfl) (by kernel_rfl)⟩ ⟨zj8,mg 16 rfl,qa Qs128 (by kernel_rfl) (by kernel_rfl)⟩ ⟨zj9,mg 17 rfl,qa Qs132 (by kernel_rfl) (by kernel_rfl)⟩
def rd14:RdX [.s zEJ]:=r3 (by simp[zEJ]) (by decide) ⟨zka,mg 18 rfl,qa Qs136 (by kernel_rfl) (by kernel_rfl)⟩ ⟨zkd,mg 19 rfl,qa Qs140 (by kernel_rfl) (by kernel_rfl)⟩ ⟨zkg,mg 20 rfl,qa Qs144 (by kernel_rfl) (by kernel_rfl)⟩
def rd15:RdX [.s zEK]:=rn (by simp[zEK]) (by decide) (by decide) (c:=zkj) 21 rfl Qs148 (by kernel_rfl) (by kernel_rfl)
def rd16:RdX [.s zEM]:=rn (by simp[zEM]) (by decide) (by decide) (c:=zkk) 22 rfl Qs152 (by kernel_rfl) (by kernel_rfl)
def rd17:RdX [.s zEN]:=rn (by simp[zEN]) (by decide) (by decide) (c:=zkp) 23 rfl Qs154 (by kernel_rfl) (by kernel_rfl)
def rd18:RdX [.s zEO]:=rn (by simp[zEO]) (by decide) (by decide) (c:=zkq) 24 rfl Qs156 (by kernel_rfl) (by kernel_rfl)
def rd19:RdX [.s zET]:=rn (by simp[zET]) (by decide) (by decide) (c:=zkr) 25 rfl Qs158 (by kernel_rfl) (by kernel_rfl)
def rd20:RdX [.s zEU]:=r3 (by simp[zEU]) (by decide) ⟨zkt,mg 26 rfl,qa Qs164 (by kernel_rfl) (by kernel_rfl)⟩ ⟨zkw,mg 27 rfl,qa Qs168 (by kernel_rfl) (by kernel_rfl)⟩ ⟨zkz,mg 28 rfl,qa Qs172 (by kernel_rfl) (by kernel_rfl)⟩
def rd21:RdX [.s zEW]:=rn (by simp[zEW]) (by decide) (by decide) (c:=zkC) 29 rfl Qs174 (by kernel_rfl) (by kernel_rfl)
def rd22:RdX [.s zEX]:=rn (by simp[zEX]) (by decide) (by decide) (c:=zkF) 30 rfl Qs176 (by kernel_rfl) (by kernel_rfl)
def rd23:RdX [.s zEZ]:=r3 (by simp[zEZ]) (by decide) ⟨zkG,mg 31 rfl,qa Qs180 (by kernel_rfl) (by kernel_rfl)⟩ ⟨zkI,mg 32 rfl,qa Qs184 (by kernel_rfl) (by kernel_rfl)⟩ ⟨zkJ,mg 33 rfl,qa Qs188 (by kernel_rfl) (by kernel_rfl)⟩
def rdA:∀x∈paL,RdX x:=allL (P:=RdX) (l:=paL) ⟨rd0,rd1,rd2,rd3,rd4,rd5,rd6,rd7,rd8,rd9,rd10,rd11,rd12,rd13,rd14,rd15,rd16,rd17,rd18,rd19,rd20,rd21,rd22,rd23,trivial⟩
def TmV:Trm->Prop
 | .var s=>s=[120]\/s=[121]\/s=[122]
 | .cst _=>True
structure CqN(n:Nat)(c:CQ):Prop where
 al:∀a∈c.as,zbX a/\a.ts.length<=2
 cs:∀k∈c.cs,zbt k
 av:∀a∈c.as,a.ts≠[]/\∀t∈a.ts,TmV t
 cv:∀k∈c.cs,TmV k.l/\TmV k.r
 op:∀k∈c.cs,1<=k.op/\k.op<=4
 la:c.as.length<=3*n
 lc:c.cs.length<=n
 ne:c.as≠[]
 nk:((c.as.flatMap (·.ts))++c.cs.flatMap fun k=>[k.l,k.r]).countP (fun t=>decide (tv t=[]))<=n
def cg0:CqN 1 cq0:=⟨by simp[cq0,zbX,zau],by simp[cq0,zbt,zau],by simp[cq0,TmV],by simp[cq0,TmV],by simp[cq0],by decide,by decide,by simp[cq0],by decide⟩
def cg1:CqN 1 cq1:=⟨by simp[cq1,zbX,zau],by simp[cq1,zbt,zau],by simp[cq1,TmV],by simp[cq1,TmV],by simp[cq1],by decide,by decide,by simp[cq1],by decide⟩
def cg2:CqN 1 cq2:=⟨by simp[cq2,zbX,zau],by simp[cq2,zbt,zau],by simp[cq2,TmV],by simp[cq2,TmV],by simp[cq2],by decide,by decide,by simp[cq2],by decide⟩
def cg3:CqN 1 cq3:=⟨by simp[cq3,zbX,zau],by simp[cq3,zbt,zau],by simp[cq3,TmV],by simp[cq3,TmV],by simp[cq3],by decide,by decide,by simp[cq3],by decide⟩
def cg4:CqN 1 cq4:=⟨by simp[cq4,zbX,zau],by simp[cq4,zbt,zau],by simp[cq4,TmV],by simp[cq4,TmV],by simp[cq4],by decide,by decide,by simp[cq4],by decide⟩
def cg5:CqN 1 cq5:=⟨by simp[cq5,zbX,zau],by simp[cq5,zbt,zau],by simp[cq5,TmV],by simp[cq5,TmV],by simp[cq5],by decide,by decide,by simp[cq5],by decide⟩
def cg6:CqN 1 cq6:=⟨by simp[cq6,zbX,zau],by simp[cq6,zbt,zau],by simp[cq6,TmV],by simp[cq6,TmV],by simp[cq6],by decide,by decide,by simp[cq6],by decide⟩
def cg7:CqN 1 cq7:=⟨by simp[cq7,zbX,zau],by simp[cq7,zbt,zau],by simp[cq7,TmV],by simp[cq7,TmV],by simp[cq7],by decide,by decide,by simp[cq7],by decide⟩
def cg8:CqN 1 cq8:=⟨by simp[cq8,zbX,zau],by simp[cq8,zbt,zau],by simp[cq8,TmV],by simp[cq8,TmV],by simp[cq8],by decide,by decide,by simp[cq8],by decide⟩
def cg9:CqN 1 cq9:=⟨by simp[cq9,zbX,zau],by simp[cq9,zbt,zau],by simp[cq9,TmV],by simp[cq9,TmV],by simp[cq9],by decide,by decide,by simp[cq9],by decide⟩
def cg10:CqN 1 zjW:=⟨by simp[zjW,zbX,zau],by simp[zjW,zbt,zau],by simp[zjW,TmV],by simp[zjW,TmV],by simp[zjW],by decide,by decide,by simp[zjW],by decide⟩
def cg11:CqN 1 zjX:=⟨by simp[zjX,zbX,zau],by simp[zjX,zbt,zau],by simp[zjX,TmV],by simp[zjX,TmV],by simp[zjX],by decide,by decide,by simp[zjX],by decide⟩
def cg12:CqN 1 zjY:=⟨by simp[zjY,zbX,zau],by simp[zjY,zbt,zau],by simp[zjY,TmV],by simp[zjY,TmV],by simp[zjY],by decide,by decide,by simp[zjY],by decide⟩
def cg13:CqN 1 zjZ:=⟨by simp[zjZ,zbX,zau],by simp[zjZ,zbt,zau],by simp[zjZ,TmV],by simp[zjZ,TmV],by simp[zjZ],by decide,by decide,by simp[zjZ],by decide⟩
def cg14:CqN 1 zj2:=⟨by simp[zj2,zbX,zau],by simp[zj2,zbt,zau],by simp[zj2,TmV],by simp[zj2,TmV],by simp[zj2],by decide,by decide,by simp[zj2],by decide⟩
def cg15:CqN 1 zj6:=⟨by simp[zj6,zbX,zau],by simp[zj6,zbt,zau],by simp[zj6,TmV],by simp[zj6,TmV],by simp[zj6],by decide,by decide,by simp[zj6],by decide⟩
def cg16:CqN 1 zj8:=⟨by simp[zj8,zbX,zau],by simp[zj8,zbt,zau],by simp[zj8,TmV],by simp[zj8,TmV],by simp[zj8],by decide,by decide,by simp[zj8],by decide⟩
def cg17:CqN 1 zj9:=⟨by simp[zj9,zbX,zau],by simp[zj9,zbt,zau],by simp[zj9,TmV],by simp[zj9,TmV],by simp[zj9],by decide,by decide,by simp[zj9],by decide⟩
def cg18:CqN 1 zka:=⟨by simp[zka,zbX,zau],by simp[zka,zbt,zau],by simp[zka,TmV],by simp[zka,TmV],by simp[zka],by decide,by decide,by simp[zka],by decide⟩
def cg19:CqN 1 zkd:=⟨by simp[zkd,zbX,zau],by simp[zkd,zbt,zau],by simp[zkd,TmV],by simp[zkd,TmV],by simp[zkd],by decide,by decide,by simp[zkd],by decide⟩
def cg20:CqN 1 zkg:=⟨by simp[zkg,zbX,zau],by simp[zkg,zbt,zau],by simp[zkg,TmV],by simp[zkg,TmV],by simp[zkg],by decide,by decide,by simp[zkg],by decide⟩
def cg21:CqN 1 zkj:=⟨by simp[zkj,zbX,zau],by simp[zkj,zbt,zau],by simp[zkj,TmV],by simp[zkj,TmV],by simp[zkj],by decide,by decide,by simp[zkj],by decide⟩
def cg22:CqN 1 zkk:=⟨by simp[zkk,zbX,zau],by simp[zkk,zbt,zau],by simp[zkk,TmV],by simp[zkk,TmV],by simp[zkk],by decide,by decide,by simp[zkk],by decide⟩
def cg23:CqN 1 zkp:=⟨by simp[zkp,zbX,zau],by simp[zkp,zbt,zau],by simp[zkp,TmV],by simp[zkp,TmV],by simp[zkp],by decide,by decide,by simp[zkp],by decide⟩
def cg24:CqN 1 zkq:=⟨by simp[zkq,zbX,zau],by simp[zkq,zbt,zau],by simp[zkq,TmV],by simp[zkq,TmV],by simp[zkq],by decide,by decide,by simp[zkq],by decide⟩
def cg25:CqN 1 zkr:=⟨by simp[zkr,zbX,zau],by simp[zkr,zbt,zau],by simp[zkr,TmV],by simp[zkr,TmV],by simp[zkr],by decide,by decide,by simp[zkr],by decide⟩
def cg26:CqN 1 zkt:=⟨by simp[zkt,zbX,zau],by simp[zkt,zbt,zau],by simp[zkt,TmV],by simp[zkt,TmV],by simp[zkt],by decide,by decide,by simp[zkt],by decide⟩
def cg27:CqN 1 zkw:=⟨by simp[zkw,zbX,zau],by simp[zkw,zbt,zau],by simp[zkw,TmV],by simp[zkw,TmV],by simp[zkw],by decide,by decide,by simp[zkw],by decide⟩
def cg28:CqN 1 zkz:=⟨by simp[zkz,zbX,zau],by simp[zkz,zbt,zau],by simp[zkz,TmV],by simp[zkz,TmV],by simp[zkz],by decide,by decide,by simp[zkz],by decide⟩
def cg29:CqN 1 zkC:=⟨by simp[zkC,zbX,zau],by simp[zkC,zbt,zau],by simp[zkC,TmV],by simp[zkC,TmV],by simp[zkC],by decide,by decide,by simp[zkC],by decide⟩
def cg30:CqN 1 zkF:=⟨by simp[zkF,zbX,zau],by simp[zkF,zbt,zau],by simp[zkF,TmV],by simp[zkF,TmV],by simp[zkF],by decide,by decide,by simp[zkF],by decide⟩
def cg31:CqN 1 zkG:=⟨by simp[zkG,zbX,zau],by simp[zkG,zbt,zau],by simp[zkG,TmV],by simp[zkG,TmV],by simp[zkG],by decide,by decide,by simp[zkG],by decide⟩
def cg32:CqN 1 zkI:=⟨by simp[zkI,zbX,zau],by simp[zkI,zbt,zau],by simp[zkI,TmV],by simp[zkI,TmV],by simp[zkI],by decide,by decide,by simp[zkI],by decide⟩
def cg33:CqN 1 zkJ:=⟨by simp[zkJ,zbX,zau],by simp[zkJ,zbt,zau],by simp[zkJ,TmV],by simp[zkJ,TmV],by simp[zkJ],by decide,by decide,by simp[zkJ],by decide⟩
def zx3:∀c∈CQl,CqN 1 c:=allL (P:=CqN 1) (l:=CQl) ⟨cg0,cg1,cg2,cg3,cg4,cg5,cg6,cg7,cg8,cg9,cg10,cg11,cg12,cg13,cg14,cg15,cg16,cg17,cg18,cg19,cg20,cg21,cg22,cg23,cg24,cg25,cg26,cg27,cg28,cg29,cg30,cg31,cg32,cg33,trivial⟩
end Go.Proofs.YtmnkdfjljkhneaaGreat
