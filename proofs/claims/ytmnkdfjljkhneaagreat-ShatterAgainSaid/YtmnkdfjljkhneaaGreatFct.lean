/- The conjunctive queries of the builders: what they are read from. Written by program. -/
import Derived.Test.YtmnkdfjljkhneaaGreatPa
import Derived.Test.YtmnkdfjljkhneaaGreatQs0
import Derived.Test.YtmnkdfjljkhneaaGreatQs1
import Derived.KernelRfl
set_option linter.all false
noncomputable section
namespace Go.Proofs.YtmnkdfjljkhneaaGreat
open Go Go.Vse Go.Vse.Sm
set_option maxRecDepth 100000
set_option maxHeartbeats 4000000
def AllL{α:Type}(P:α->Prop):List α->Prop
 |[]=>True
 |a::l=>P a/\AllL P l
theorem allL{α:Type}{P:α->Prop}:∀{l:List α},AllL P l->∀a∈l,P a
 |[],_,a,h=>by simp at h
 |b::l,h,a,ha=>by
  rcases List.mem_cons.1 ha with rfl|ha
  ·exact h.1
  ·exact allL h.2 a ha
theorem mg{α:Type}{l:List α}(n:Nat){a:α}(h:l[n]? =some a):a∈l:=List.mem_of_getElem? h
def rb(r:Nat)(b:UInt8):UInt8:=if b=64 then UInt8.ofNat (49+r)else b
theorem rb_no{p:Str}(h:p.all (· != 64)=true)(r:Nat):p.map (rb r)=p:=by
  refine (List.map_congr_left fun b hb=> ?_).trans (List.map_id p);have:=List.all_eq_true.1 h b hb;have h2:¬b=64:=by simpa using this
  simp[rb,h2]
def cq0:CQ:=⟨[⟨[82],false,[.var [120],.var [121]]⟩],[],false,false⟩
def cq1:CQ:=⟨[⟨[82],false,[.var [120],.var [121]]⟩,⟨[83],false,[.var [121]]⟩],[],false,false⟩
def cq2:CQ:=⟨[⟨[82],false,[.var [120],.var [121]]⟩,⟨[83],false,[.var [120]]⟩],[],false,false⟩
def cq3:CQ:=⟨[⟨[82],false,[.var [120],.var [121]]⟩,⟨[75],false,[.var [121],.var [122]]⟩],[],false,false⟩
def cq4:CQ:=⟨[⟨[75],false,[.var [120],.var [121]]⟩,⟨[83],false,[.var [121]]⟩],[],false,false⟩
def cq5:CQ:=⟨[⟨[82],false,[.var [120],.var [121]]⟩,⟨[82],false,[.var [121],.var [122]]⟩],[],false,false⟩
def cq6:CQ:=⟨[⟨[82],false,[.var [120],.var [121]]⟩,⟨[82],false,[.var [121],.var [120]]⟩],[],false,false⟩
def cq7:CQ:=⟨[⟨[67],false,[.var [120],.var [121]]⟩,⟨[82],false,[.var [121],.var [122]]⟩],[],false,false⟩
def cq8:CQ:=⟨[⟨[82],false,[.var [120],.var [121]]⟩,⟨[83],true,[.var [121]]⟩],[],false,false⟩
def cq9:CQ:=⟨[⟨[83],false,[.var [120]]⟩,⟨[82],true,[.var [120],.cst 1]⟩],[],false,false⟩
def ziK:CQ:=⟨[⟨[83],false,[.var [120]]⟩,⟨[82],true,[.var [120],.cst 2]⟩],[],false,false⟩
def ziL:CQ:=⟨[⟨[83],false,[.var [120]]⟩,⟨[82],true,[.var [120],.cst 3]⟩],[],false,false⟩
def ziN:CQ:=⟨[⟨[67],false,[.var [120],.var [121]]⟩,⟨[83],false,[.var [121]]⟩,⟨[75],true,[.var [120],.var [121]]⟩],[],false,false⟩
def ziO:CQ:=⟨[⟨[82],false,[.var [120],.var [121]]⟩,⟨[83],false,[.var [120]]⟩,⟨[83],false,[.var [121]]⟩],[],false,false⟩
def ziP:CQ:=⟨[⟨[75],false,[.var [120],.var [121]]⟩,⟨[75],false,[.var [122],.var [121]]⟩],[],false,false⟩
def ziQ:CQ:=⟨[⟨[82],false,[.var [120],.cst 1]⟩],[],false,false⟩
def ziS:CQ:=⟨[⟨[82],false,[.var [120],.cst 2]⟩],[],false,false⟩
def ziT:CQ:=⟨[⟨[82],false,[.var [120],.cst 3]⟩],[],false,false⟩
def ziU:CQ:=⟨[⟨[83],false,[.var [120]]⟩,⟨[75],false,[.var [120],.cst 1]⟩],[],false,false⟩
def ziV:CQ:=⟨[⟨[83],false,[.var [120]]⟩,⟨[75],false,[.var [120],.cst 2]⟩],[],false,false⟩
def ziX:CQ:=⟨[⟨[83],false,[.var [120]]⟩,⟨[75],false,[.var [120],.cst 3]⟩],[],false,false⟩
def ziZ:CQ:=⟨[⟨[82],false,[.var [120],.var [121]]⟩],[⟨3,.var [120],.var [121]⟩],false,false⟩
def zi0:CQ:=⟨[⟨[82],false,[.var [120],.var [121]]⟩,⟨[83],false,[.var [122]]⟩],[⟨2,.var [121],.var [122]⟩],false,false⟩
def zi2:CQ:=⟨[⟨[83],false,[.var [120]]⟩,⟨[83],false,[.var [121]]⟩],[⟨4,.var [120],.var [121]⟩],false,false⟩
def zi3:CQ:=⟨[⟨[67],false,[.var [120],.var [121]]⟩,⟨[82],true,[.var [120],.var [121]]⟩],[],false,false⟩
def zi4:CQ:=⟨[⟨[82],false,[.var [120],.var [120]]⟩],[],false,false⟩
def zi5:CQ:=⟨[⟨[83],false,[.var [120]]⟩],[⟨1,.var [120],.cst 1⟩],false,false⟩
def zi6:CQ:=⟨[⟨[83],false,[.var [120]]⟩],[⟨1,.var [120],.cst 2⟩],false,false⟩
def zi7:CQ:=⟨[⟨[83],false,[.var [120]]⟩],[⟨1,.var [120],.cst 3⟩],false,false⟩
def zi9:CQ:=⟨[⟨[75],false,[.var [120],.var [121]]⟩,⟨[82],false,[.var [121],.var [122]]⟩,⟨[83],false,[.var [122]]⟩],[],false,false⟩
def zjc:CQ:=⟨[⟨[82],false,[.var [120],.var [121]]⟩,⟨[82],false,[.var [120],.var [122]]⟩],[⟨3,.var [121],.var [122]⟩],false,false⟩
def zjh:CQ:=⟨[⟨[75],false,[.var [120],.cst 1]⟩,⟨[67],false,[.var [121],.var [120]]⟩],[],false,false⟩
def zjk:CQ:=⟨[⟨[75],false,[.var [120],.cst 2]⟩,⟨[67],false,[.var [121],.var [120]]⟩],[],false,false⟩
def zjl:CQ:=⟨[⟨[75],false,[.var [120],.cst 3]⟩,⟨[67],false,[.var [121],.var [120]]⟩],[],false,false⟩
def CQl:List CQ:=[cq0,cq1,cq2,cq3,cq4,cq5,cq6,cq7,cq8,cq9,ziK,ziL,ziN,ziO,ziP,ziQ,ziS,ziT,ziU,ziV,ziX,ziZ,zi0,zi2,zi3,zi4,zi5,zi6,zi7,zi9,zjc,zjh,zjk,zjl]
def pa0:Str:=[82,40,120,44,32,121,41]
def pa1:Str:=[82,40,120,44,32,121,41,44,32,83,40,121,41]
def pa2:Str:=[82,40,120,44,32,121,41,44,32,83,40,120,41]
def pa3:Str:=[82,40,120,44,32,121,41,44,32,75,40,121,44,32,122,41]
def pa4:Str:=[75,40,120,44,32,121,41,44,32,83,40,121,41]
def pa5:Str:=[82,40,120,44,32,121,41,44,32,82,40,121,44,32,122,41]
def pa6:Str:=[82,40,120,44,32,121,41,44,32,82,40,121,44,32,120,41]
def pa7:Str:=[67,40,120,44,32,121,41,44,32,82,40,121,44,32,122,41]
def pa8:Str:=[82,40,120,44,32,121,41,44,32,110,111,116,32,83,40,121,41]
def pa9:Str:=[83,40,120,41,44,32,110,111,116,32,82,40,120,44,32,64,41]
def zBi:Str:=[67,40,120,44,32,121,41,44,32,83,40,121,41,44,32,110,111,116,32,75,40,120,44,32,121,41]
def zBk:Str:=[82,40,120,44,32,121,41,44,32,83,40,120,41,44,32,83,40,121,41]
def zBl:Str:=[75,40,120,44,32,121,41,44,32,75,40,122,44,32,121,41]
def zBp:Str:=[82,40,120,44,32,64,41]
def zBq:Str:=[83,40,120,41,44,32,75,40,120,44,32,64,41]
def zBr:Str:=[82,40,120,44,32,121,41,44,32,120,32,60,32,121]
def zBs:Str:=[82,40,120,44,32,121,41,44,32,83,40,122,41,44,32,121,32,33,61,32,122]
def zBu:Str:=[83,40,120,41,44,32,83,40,121,41,44,32,120,32,60,61,32,121]
def zBv:Str:=[67,40,120,44,32,121,41,44,32,110,111,116,32,82,40,120,44,32,121,41]
def zBx:Str:=[82,40,120,44,32,120,41]
def zBy:Str:=[83,40,120,41,44,32,120,32,61,32,64]
def zBz:Str:=[75,40,120,44,32,121,41,44,32,82,40,121,44,32,122,41,44,32,83,40,122,41]
def zBA:Str:=[82,40,120,44,32,121,41,44,32,82,40,120,44,32,122,41,44,32,121,32,60,32,122]
def zBB:Str:=[75,40,120,44,32,64,41,44,32,67,40,121,44,32,120,41]
def paL:List (List F):=[[.s pa0],[.s pa1],[.s pa2],[.s pa3],[.s pa4],[.s pa5],[.s pa6],[.s pa7],[.s pa8],[.s pa9],[.s zBi],[.s zBk],[.s zBl],[.s zBp],[.s zBq],[.s zBr],[.s zBs],[.s zBu],[.s zBv],[.s zBx],[.s zBy],[.s zBz],[.s zBA],[.s zBB]]
theorem zCK:Ans pr 56 [] (.sl 1 paL):=Qs193
theorem kn0:Ans pr 54 [.s [82,40,120,44,32,121,41,44,32,82,40,49,44,32,122,41]] (.tu [.ag [.nils,.sl 2 [[.sl 3 [[.s [82],.b false,.sl 4 [[.s [120],.i .i64 0,.i .i64 0,.s []],[.s [121],.i .i64 0,.i .i64 0,.s []]]],[.s [82],.b false,.sl 4 [[.s [],.i .i64 1,.i .i64 1,.s []],[.s [122],.i .i64 0,.i .i64 0,.s []]]]],.nils]]],.i .i64 0]):=Qs192
theorem kn1:Ans pr 54 [.s [82,40,120,44,32,121,41,44,32,82,40,121,44,32,120,41]] (.tu [.ag [.nils,.sl 2 [[.sl 3 [[.s [82],.b false,.sl 4 [[.s [120],.i .i64 0,.i .i64 0,.s []],[.s [121],.i .i64 0,.i .i64 0,.s []]]],[.s [82],.b false,.sl 4 [[.s [121],.i .i64 0,.i .i64 0,.s []],[.s [120],.i .i64 0,.i .i64 0,.s []]]]],.nils]]],.i .i64 0]):=Qs31
theorem kn2:Ans pr 16 [.ag [.nils,.sl 2 [[.sl 3 [[.s [82],.b false,.sl 4 [[.s [120],.i .i64 0,.i .i64 0,.s []],[.s [121],.i .i64 0,.i .i64 0,.s []]]],[.s [82],.b false,.sl 4 [[.s [],.i .i64 1,.i .i64 1,.s []],[.s [122],.i .i64 0,.i .i64 0,.s []]]]],.nils]]]] (.sl 3 [[.i .i64 1,.i .i64 1,.s []]]):=Qs194
def Rd(p:Str)(r:Nat):Prop:=∃c∈CQl,Ans pr 54 [.s (p.map (rb r))] (.tu [.ag [.nils,.sl 2 [cqF c]],.i .i64 0])
def Rds(p:Str):Prop:=p≠[]/\p.length<1000/\∀r,r<3->Rd p r
def RdX(x:List F):Prop:=∃p,x=[.s p]/\Rds p
theorem qa{fs gs:List F}{x y:F}(h:Ans pr 54 fs x)(e1:fs=gs)(e2:x=y):Ans pr 54 gs y:=by rw[<-e1,<-e2];exact h
theorem rn{p:Str}{fs:List F}{x:F}(h1:p≠[])(h2:p.length<1000)(h:p.all (· != 64)=true){c:CQ}(n:Nat)(hc:CQl[n]? =some c)(q:Ans pr 54 fs x)(e1:fs=[.s p])(e2:x= .tu [.ag [.nils,.sl 2 [cqF c]],.i .i64 0]):RdX [.s p]:=
  ⟨p,rfl,h1,h2,fun r _=>⟨c,mg n hc,by rw[rb_no h];exact qa q e1 e2⟩⟩
theorem r3{p:Str}(h1:p≠[])(h2:p.length<1000)(a:Rd p 0)(b:Rd p 1)(c:Rd p 2):RdX [.s p]:=⟨p,rfl,h1,h2,fun r hr=>match r,hr with
 |0,_=>a
 |1,_=>b
 |2,_=>c⟩
theorem rd0:RdX [.s pa0]:=rn (by simp[pa0]) (by decide) (by decide) (c:=cq0) 0 rfl Qs13 (by kernel_rfl) (by kernel_rfl)
theorem rd1:RdX [.s pa1]:=rn (by simp[pa1]) (by decide) (by decide) (c:=cq1) 1 rfl Qs17 (by kernel_rfl) (by kernel_rfl)
theorem rd2:RdX [.s pa2]:=rn (by simp[pa2]) (by decide) (by decide) (c:=cq2) 2 rfl Qs19 (by kernel_rfl) (by kernel_rfl)
theorem rd3:RdX [.s pa3]:=rn (by simp[pa3]) (by decide) (by decide) (c:=cq3) 3 rfl Qs25 (by kernel_rfl) (by kernel_rfl)
theorem rd4:RdX [.s pa4]:=rn (by simp[pa4]) (by decide) (by decide) (c:=cq4) 4 rfl Qs27 (by kernel_rfl) (by kernel_rfl)
theorem rd5:RdX [.s pa5]:=rn (by simp[pa5]) (by decide) (by decide) (c:=cq5) 5 rfl Qs29 (by kernel_rfl) (by kernel_rfl)
theorem rd6:RdX [.s pa6]:=rn (by simp[pa6]) (by decide) (by decide) (c:=cq6) 6 rfl Qs31 (by kernel_rfl) (by kernel_rfl)
theorem rd7:RdX [.s pa7]:=rn (by simp[pa7]) (by decide) (by decide) (c:=cq7) 7 rfl Qs35 (by kernel_rfl) (by kernel_rfl)
theorem rd8:RdX [.s pa8]:=rn (by simp[pa8]) (by decide) (by decide) (c:=cq8) 8 rfl Qs42 (by kernel_rfl) (by kernel_rfl)
theorem rd9:RdX [.s pa9]:=r3 (by simp[pa9]) (by decide) ⟨cq9,mg 9 rfl,qa Qs69 (by kernel_rfl) (by kernel_rfl)⟩ ⟨ziK,mg 10 rfl,qa Qs91 (by kernel_rfl) (by kernel_rfl)⟩ ⟨ziL,mg 11 rfl,qa Qs114 (by kernel_rfl) (by kernel_rfl)⟩
theorem rd10:RdX [.s zBi]:=rn (by simp[zBi]) (by decide) (by decide) (c:=ziN) 12 rfl Qs116 (by kernel_rfl) (by kernel_rfl)
theorem rd11:RdX [.s zBk]:=rn (by simp[zBk]) (by decide) (by decide) (c:=ziO) 13 rfl Qs118 (by kernel_rfl) (by kernel_rfl)
theorem rd12:RdX [.s zBl]:=rn (by simp[zBl]) (by decide) (by decide) (c:=ziP) 14 rfl Qs120 (by kernel_rfl) (by kernel_rfl)
theorem rd13:RdX [.s zBp]:=r3 (by simp[zBp]) (by decide) ⟨ziQ,mg 15 rfl,qa Qs124 (by kernel_rfl) (by kernel_rfl)⟩ ⟨ziS,mg 16 rfl,qa Qs128 (by kernel_rfl) (by kernel_rfl)⟩ ⟨ziT,mg 17 rfl,qa Qs132 (by kernel_rfl) (by kernel_rfl)⟩
theorem rd14:RdX [.s zBq]:=r3 (by simp[zBq]) (by decide) ⟨ziU,mg 18 rfl,qa Qs136 (by kernel_rfl) (by kernel_rfl)⟩ ⟨ziV,mg 19 rfl,qa Qs140 (by kernel_rfl) (by kernel_rfl)⟩ ⟨ziX,mg 20 rfl,qa Qs144 (by kernel_rfl) (by kernel_rfl)⟩
theorem rd15:RdX [.s zBr]:=rn (by simp[zBr]) (by decide) (by decide) (c:=ziZ) 21 rfl Qs148 (by kernel_rfl) (by kernel_rfl)
theorem rd16:RdX [.s zBs]:=rn (by simp[zBs]) (by decide) (by decide) (c:=zi0) 22 rfl Qs152 (by kernel_rfl) (by kernel_rfl)
theorem rd17:RdX [.s zBu]:=rn (by simp[zBu]) (by decide) (by decide) (c:=zi2) 23 rfl Qs154 (by kernel_rfl) (by kernel_rfl)
theorem rd18:RdX [.s zBv]:=rn (by simp[zBv]) (by decide) (by decide) (c:=zi3) 24 rfl Qs156 (by kernel_rfl) (by kernel_rfl)
theorem rd19:RdX [.s zBx]:=rn (by simp[zBx]) (by decide) (by decide) (c:=zi4) 25 rfl Qs158 (by kernel_rfl) (by kernel_rfl)
theorem rd20:RdX [.s zBy]:=r3 (by simp[zBy]) (by decide) ⟨zi5,mg 26 rfl,qa Qs164 (by kernel_rfl) (by kernel_rfl)⟩ ⟨zi6,mg 27 rfl,qa Qs168 (by kernel_rfl) (by kernel_rfl)⟩ ⟨zi7,mg 28 rfl,qa Qs172 (by kernel_rfl) (by kernel_rfl)⟩
theorem rd21:RdX [.s zBz]:=rn (by simp[zBz]) (by decide) (by decide) (c:=zi9) 29 rfl Qs174 (by kernel_rfl) (by kernel_rfl)
theorem rd22:RdX [.s zBA]:=rn (by simp[zBA]) (by decide) (by decide) (c:=zjc) 30 rfl Qs176 (by kernel_rfl) (by kernel_rfl)
theorem rd23:RdX [.s zBB]:=r3 (by simp[zBB]) (by decide) ⟨zjh,mg 31 rfl,qa Qs180 (by kernel_rfl) (by kernel_rfl)⟩ ⟨zjk,mg 32 rfl,qa Qs184 (by kernel_rfl) (by kernel_rfl)⟩ ⟨zjl,mg 33 rfl,qa Qs188 (by kernel_rfl) (by kernel_rfl)⟩
theorem rdA:∀x∈paL,RdX x:=allL (P:=RdX) (l:=paL) ⟨rd0,rd1,rd2,rd3,rd4,rd5,rd6,rd7,rd8,rd9,rd10,rd11,rd12,rd13,rd14,rd15,rd16,rd17,rd18,rd19,rd20,rd21,rd22,rd23,trivial⟩
def TmV:Trm->Prop
 | .var s=>s=[120]\/s=[121]\/s=[122]
 | .cst _=>True
structure CqN(n:Nat)(c:CQ):Prop where
 al:∀a∈c.as,zbl a/\a.ts.length≤2
 cs:∀k∈c.cs,zbn k
 av:∀a∈c.as,a.ts≠[]/\∀t∈a.ts,TmV t
 cv:∀k∈c.cs,TmV k.l/\TmV k.r
 op:∀k∈c.cs,1≤k.op/\k.op≤4
 la:c.as.length≤3*n
 lc:c.cs.length≤n
 ne:c.as≠[]
theorem cg0:CqN 1 cq0:=⟨by simp[cq0,zbl,zax],by simp[cq0,zbn,zax],by simp[cq0,TmV],by simp[cq0,TmV],by simp[cq0],by decide,by decide,by simp[cq0]⟩
theorem cg1:CqN 1 cq1:=⟨by simp[cq1,zbl,zax],by simp[cq1,zbn,zax],by simp[cq1,TmV],by simp[cq1,TmV],by simp[cq1],by decide,by decide,by simp[cq1]⟩
theorem cg2:CqN 1 cq2:=⟨by simp[cq2,zbl,zax],by simp[cq2,zbn,zax],by simp[cq2,TmV],by simp[cq2,TmV],by simp[cq2],by decide,by decide,by simp[cq2]⟩
theorem cg3:CqN 1 cq3:=⟨by simp[cq3,zbl,zax],by simp[cq3,zbn,zax],by simp[cq3,TmV],by simp[cq3,TmV],by simp[cq3],by decide,by decide,by simp[cq3]⟩
theorem cg4:CqN 1 cq4:=⟨by simp[cq4,zbl,zax],by simp[cq4,zbn,zax],by simp[cq4,TmV],by simp[cq4,TmV],by simp[cq4],by decide,by decide,by simp[cq4]⟩
theorem cg5:CqN 1 cq5:=⟨by simp[cq5,zbl,zax],by simp[cq5,zbn,zax],by simp[cq5,TmV],by simp[cq5,TmV],by simp[cq5],by decide,by decide,by simp[cq5]⟩
theorem cg6:CqN 1 cq6:=⟨by simp[cq6,zbl,zax],by simp[cq6,zbn,zax],by simp[cq6,TmV],by simp[cq6,TmV],by simp[cq6],by decide,by decide,by simp[cq6]⟩
theorem cg7:CqN 1 cq7:=⟨by simp[cq7,zbl,zax],by simp[cq7,zbn,zax],by simp[cq7,TmV],by simp[cq7,TmV],by simp[cq7],by decide,by decide,by simp[cq7]⟩
theorem cg8:CqN 1 cq8:=⟨by simp[cq8,zbl,zax],by simp[cq8,zbn,zax],by simp[cq8,TmV],by simp[cq8,TmV],by simp[cq8],by decide,by decide,by simp[cq8]⟩
theorem cg9:CqN 1 cq9:=⟨by simp[cq9,zbl,zax],by simp[cq9,zbn,zax],by simp[cq9,TmV],by simp[cq9,TmV],by simp[cq9],by decide,by decide,by simp[cq9]⟩
theorem cg10:CqN 1 ziK:=⟨by simp[ziK,zbl,zax],by simp[ziK,zbn,zax],by simp[ziK,TmV],by simp[ziK,TmV],by simp[ziK],by decide,by decide,by simp[ziK]⟩
theorem cg11:CqN 1 ziL:=⟨by simp[ziL,zbl,zax],by simp[ziL,zbn,zax],by simp[ziL,TmV],by simp[ziL,TmV],by simp[ziL],by decide,by decide,by simp[ziL]⟩
theorem cg12:CqN 1 ziN:=⟨by simp[ziN,zbl,zax],by simp[ziN,zbn,zax],by simp[ziN,TmV],by simp[ziN,TmV],by simp[ziN],by decide,by decide,by simp[ziN]⟩
theorem cg13:CqN 1 ziO:=⟨by simp[ziO,zbl,zax],by simp[ziO,zbn,zax],by simp[ziO,TmV],by simp[ziO,TmV],by simp[ziO],by decide,by decide,by simp[ziO]⟩
theorem cg14:CqN 1 ziP:=⟨by simp[ziP,zbl,zax],by simp[ziP,zbn,zax],by simp[ziP,TmV],by simp[ziP,TmV],by simp[ziP],by decide,by decide,by simp[ziP]⟩
theorem cg15:CqN 1 ziQ:=⟨by simp[ziQ,zbl,zax],by simp[ziQ,zbn,zax],by simp[ziQ,TmV],by simp[ziQ,TmV],by simp[ziQ],by decide,by decide,by simp[ziQ]⟩
theorem cg16:CqN 1 ziS:=⟨by simp[ziS,zbl,zax],by simp[ziS,zbn,zax],by simp[ziS,TmV],by simp[ziS,TmV],by simp[ziS],by decide,by decide,by simp[ziS]⟩
theorem cg17:CqN 1 ziT:=⟨by simp[ziT,zbl,zax],by simp[ziT,zbn,zax],by simp[ziT,TmV],by simp[ziT,TmV],by simp[ziT],by decide,by decide,by simp[ziT]⟩
theorem cg18:CqN 1 ziU:=⟨by simp[ziU,zbl,zax],by simp[ziU,zbn,zax],by simp[ziU,TmV],by simp[ziU,TmV],by simp[ziU],by decide,by decide,by simp[ziU]⟩
theorem cg19:CqN 1 ziV:=⟨by simp[ziV,zbl,zax],by simp[ziV,zbn,zax],by simp[ziV,TmV],by simp[ziV,TmV],by simp[ziV],by decide,by decide,by simp[ziV]⟩
theorem cg20:CqN 1 ziX:=⟨by simp[ziX,zbl,zax],by simp[ziX,zbn,zax],by simp[ziX,TmV],by simp[ziX,TmV],by simp[ziX],by decide,by decide,by simp[ziX]⟩
theorem cg21:CqN 1 ziZ:=⟨by simp[ziZ,zbl,zax],by simp[ziZ,zbn,zax],by simp[ziZ,TmV],by simp[ziZ,TmV],by simp[ziZ],by decide,by decide,by simp[ziZ]⟩
theorem cg22:CqN 1 zi0:=⟨by simp[zi0,zbl,zax],by simp[zi0,zbn,zax],by simp[zi0,TmV],by simp[zi0,TmV],by simp[zi0],by decide,by decide,by simp[zi0]⟩
theorem cg23:CqN 1 zi2:=⟨by simp[zi2,zbl,zax],by simp[zi2,zbn,zax],by simp[zi2,TmV],by simp[zi2,TmV],by simp[zi2],by decide,by decide,by simp[zi2]⟩
theorem cg24:CqN 1 zi3:=⟨by simp[zi3,zbl,zax],by simp[zi3,zbn,zax],by simp[zi3,TmV],by simp[zi3,TmV],by simp[zi3],by decide,by decide,by simp[zi3]⟩
theorem cg25:CqN 1 zi4:=⟨by simp[zi4,zbl,zax],by simp[zi4,zbn,zax],by simp[zi4,TmV],by simp[zi4,TmV],by simp[zi4],by decide,by decide,by simp[zi4]⟩
theorem cg26:CqN 1 zi5:=⟨by simp[zi5,zbl,zax],by simp[zi5,zbn,zax],by simp[zi5,TmV],by simp[zi5,TmV],by simp[zi5],by decide,by decide,by simp[zi5]⟩
theorem cg27:CqN 1 zi6:=⟨by simp[zi6,zbl,zax],by simp[zi6,zbn,zax],by simp[zi6,TmV],by simp[zi6,TmV],by simp[zi6],by decide,by decide,by simp[zi6]⟩
theorem cg28:CqN 1 zi7:=⟨by simp[zi7,zbl,zax],by simp[zi7,zbn,zax],by simp[zi7,TmV],by simp[zi7,TmV],by simp[zi7],by decide,by decide,by simp[zi7]⟩
theorem cg29:CqN 1 zi9:=⟨by simp[zi9,zbl,zax],by simp[zi9,zbn,zax],by simp[zi9,TmV],by simp[zi9,TmV],by simp[zi9],by decide,by decide,by simp[zi9]⟩
theorem cg30:CqN 1 zjc:=⟨by simp[zjc,zbl,zax],by simp[zjc,zbn,zax],by simp[zjc,TmV],by simp[zjc,TmV],by simp[zjc],by decide,by decide,by simp[zjc]⟩
theorem cg31:CqN 1 zjh:=⟨by simp[zjh,zbl,zax],by simp[zjh,zbn,zax],by simp[zjh,TmV],by simp[zjh,TmV],by simp[zjh],by decide,by decide,by simp[zjh]⟩
theorem cg32:CqN 1 zjk:=⟨by simp[zjk,zbl,zax],by simp[zjk,zbn,zax],by simp[zjk,TmV],by simp[zjk,TmV],by simp[zjk],by decide,by decide,by simp[zjk]⟩
theorem cg33:CqN 1 zjl:=⟨by simp[zjl,zbl,zax],by simp[zjl,zbn,zax],by simp[zjl,TmV],by simp[zjl,TmV],by simp[zjl],by decide,by decide,by simp[zjl]⟩
theorem zC9:∀c∈CQl,CqN 1 c:=allL (P:=CqN 1) (l:=CQl) ⟨cg0,cg1,cg2,cg3,cg4,cg5,cg6,cg7,cg8,cg9,cg10,cg11,cg12,cg13,cg14,cg15,cg16,cg17,cg18,cg19,cg20,cg21,cg22,cg23,cg24,cg25,cg26,cg27,cg28,cg29,cg30,cg31,cg32,cg33,trivial⟩
end Go.Proofs.YtmnkdfjljkhneaaGreat
