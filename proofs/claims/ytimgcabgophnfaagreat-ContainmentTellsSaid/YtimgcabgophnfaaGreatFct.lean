/- The conjunctive queries of the builders: what they are read from. Written by program. -/
import Derived.Test.YtimgcabgophnfaaGreatPb
import Derived.Test.YtimgcabgophnfaaGreatQt0
import Derived.KernelRfl
set_option linter.all false
noncomputable section
namespace Go.Proofs.YtimgcabgophnfaaGreat
open Go Go.Vse Go.Vse.Sm
set_option maxRecDepth 100000
set_option maxHeartbeats 4000000
def AllL{α:Type}(P:α->Prop):List α->Prop
 |[]=>True
 |a::l=>P a/\AllL P l
theorem allL{α:Type}{P:α->Prop}:∀{l:List α},AllL P l->∀a∈l,P a
 |[],_,a,h=>by simp at h
 |b::l,h,a,ha=>by
  rcases List.mem_cons.1 ha with rfl|ha
  ·exact h.1
  ·exact allL h.2 a ha
theorem mg{α:Type}{l:List α}(n:Nat){a:α}(h:l[n]? =some a):a∈l:=List.mem_of_getElem? h
def rb(r:Nat)(b:UInt8):UInt8:=if b=64 then UInt8.ofNat (49+r)else b
theorem rb_no{p:Str}(h:p.all (· != 64)=true)(r:Nat):p.map (rb r)=p:=by
  refine (List.map_congr_left fun b hb=> ?_).trans (List.map_id p);have:=List.all_eq_true.1 h b hb;have h2:¬b=64:=by simpa using this
  simp[rb,h2]
def cq0:CQ:=⟨[⟨[82],false,[.var [120],.var [121]]⟩],[],false,false⟩
def cq1:CQ:=⟨[⟨[82],false,[.var [120],.var [121]]⟩,⟨[83],false,[.var [121]]⟩],[],false,false⟩
def cq2:CQ:=⟨[⟨[82],false,[.var [120],.var [121]]⟩,⟨[83],false,[.var [120]]⟩],[],false,false⟩
def cq3:CQ:=⟨[⟨[82],false,[.var [120],.var [121]]⟩,⟨[75],false,[.var [121],.var [122]]⟩],[],false,false⟩
def cq4:CQ:=⟨[⟨[75],false,[.var [120],.var [121]]⟩,⟨[83],false,[.var [121]]⟩],[],false,false⟩
def cq5:CQ:=⟨[⟨[82],false,[.var [120],.var [121]]⟩,⟨[82],false,[.var [121],.var [122]]⟩],[],false,false⟩
def cq6:CQ:=⟨[⟨[82],false,[.var [120],.var [121]]⟩,⟨[82],false,[.var [121],.var [120]]⟩],[],false,false⟩
def cq7:CQ:=⟨[⟨[67],false,[.var [120],.var [121]]⟩,⟨[82],false,[.var [121],.var [122]]⟩],[],false,false⟩
def cq8:CQ:=⟨[⟨[82],false,[.var [120],.var [121]]⟩,⟨[83],true,[.var [121]]⟩],[],false,false⟩
def cq9:CQ:=⟨[⟨[83],false,[.var [120]]⟩,⟨[82],true,[.var [120],.cst 1]⟩],[],false,false⟩
def zp6:CQ:=⟨[⟨[83],false,[.var [120]]⟩,⟨[82],true,[.var [120],.cst 2]⟩],[],false,false⟩
def zp9:CQ:=⟨[⟨[83],false,[.var [120]]⟩,⟨[82],true,[.var [120],.cst 3]⟩],[],false,false⟩
def zqa:CQ:=⟨[⟨[67],false,[.var [120],.var [121]]⟩,⟨[83],false,[.var [121]]⟩,⟨[75],true,[.var [120],.var [121]]⟩],[],false,false⟩
def zqb:CQ:=⟨[⟨[82],false,[.var [120],.var [121]]⟩,⟨[83],false,[.var [120]]⟩,⟨[83],false,[.var [121]]⟩],[],false,false⟩
def zqc:CQ:=⟨[⟨[75],false,[.var [120],.var [121]]⟩,⟨[75],false,[.var [122],.var [121]]⟩],[],false,false⟩
def zqd:CQ:=⟨[⟨[82],false,[.var [120],.cst 1]⟩],[],false,false⟩
def zqe:CQ:=⟨[⟨[82],false,[.var [120],.cst 2]⟩],[],false,false⟩
def zqh:CQ:=⟨[⟨[82],false,[.var [120],.cst 3]⟩],[],false,false⟩
def zql:CQ:=⟨[⟨[83],false,[.var [120]]⟩,⟨[75],false,[.var [120],.cst 1]⟩],[],false,false⟩
def zqm:CQ:=⟨[⟨[83],false,[.var [120]]⟩,⟨[75],false,[.var [120],.cst 2]⟩],[],false,false⟩
def zqo:CQ:=⟨[⟨[83],false,[.var [120]]⟩,⟨[75],false,[.var [120],.cst 3]⟩],[],false,false⟩
def zqp:CQ:=⟨[⟨[82],false,[.var [120],.var [121]]⟩],[⟨3,.var [120],.var [121]⟩],false,false⟩
def zqr:CQ:=⟨[⟨[82],false,[.var [120],.var [121]]⟩,⟨[83],false,[.var [122]]⟩],[⟨2,.var [121],.var [122]⟩],false,false⟩
def zqu:CQ:=⟨[⟨[83],false,[.var [120]]⟩,⟨[83],false,[.var [121]]⟩],[⟨4,.var [120],.var [121]⟩],false,false⟩
def zqv:CQ:=⟨[⟨[67],false,[.var [120],.var [121]]⟩,⟨[82],true,[.var [120],.var [121]]⟩],[],false,false⟩
def zqw:CQ:=⟨[⟨[82],false,[.var [120],.var [120]]⟩],[],false,false⟩
def zqx:CQ:=⟨[⟨[83],false,[.var [120]]⟩],[⟨1,.var [120],.cst 1⟩],false,false⟩
def zqG:CQ:=⟨[⟨[83],false,[.var [120]]⟩],[⟨1,.var [120],.cst 2⟩],false,false⟩
def zqH:CQ:=⟨[⟨[83],false,[.var [120]]⟩],[⟨1,.var [120],.cst 3⟩],false,false⟩
def zqI:CQ:=⟨[⟨[75],false,[.var [120],.var [121]]⟩,⟨[82],false,[.var [121],.var [122]]⟩,⟨[83],false,[.var [122]]⟩],[],false,false⟩
def zqJ:CQ:=⟨[⟨[82],false,[.var [120],.var [121]]⟩,⟨[82],false,[.var [120],.var [122]]⟩],[⟨3,.var [121],.var [122]⟩],false,false⟩
def zqL:CQ:=⟨[⟨[75],false,[.var [120],.cst 1]⟩,⟨[67],false,[.var [121],.var [120]]⟩],[],false,false⟩
def zqM:CQ:=⟨[⟨[75],false,[.var [120],.cst 2]⟩,⟨[67],false,[.var [121],.var [120]]⟩],[],false,false⟩
def zqN:CQ:=⟨[⟨[75],false,[.var [120],.cst 3]⟩,⟨[67],false,[.var [121],.var [120]]⟩],[],false,false⟩
def zqP:CQ:=⟨[⟨[82],false,[.var [120],.var [121]]⟩,⟨[82],false,[.var [120],.var [122]]⟩],[],false,false⟩
def zqT:CQ:=⟨[⟨[82],false,[.var [120],.var [121]]⟩,⟨[82],false,[.var [122],.var [121]]⟩,⟨[83],false,[.var [122]]⟩],[],false,false⟩
def zqU:CQ:=⟨[⟨[83],false,[.var [120]]⟩],[],false,false⟩
def zqV:CQ:=⟨[⟨[82],false,[.var [120],.var [121]]⟩,⟨[82],false,[.var [121],.var [122]]⟩,⟨[82],false,[.var [120],.var [120]]⟩],[],false,false⟩
def CQl:List CQ:=[cq0,cq1,cq2,cq3,cq4,cq5,cq6,cq7,cq8,cq9,zp6,zp9,zqa,zqb,zqc,zqd,zqe,zqh,zql,zqm,zqo,zqp,zqr,zqu,zqv,zqw,zqx,zqG,zqH,zqI,zqJ,zqL,zqM,zqN,zqP,zqT,zqU,zqV]
def pa0:Str:=[82,40,120,44,32,121,41]
def pa1:Str:=[82,40,120,44,32,121,41,44,32,83,40,121,41]
def pa2:Str:=[82,40,120,44,32,121,41,44,32,83,40,120,41]
def pa3:Str:=[82,40,120,44,32,121,41,44,32,75,40,121,44,32,122,41]
def pa4:Str:=[75,40,120,44,32,121,41,44,32,83,40,121,41]
def pa5:Str:=[82,40,120,44,32,121,41,44,32,82,40,121,44,32,122,41]
def pa6:Str:=[82,40,120,44,32,121,41,44,32,82,40,121,44,32,120,41]
def pa7:Str:=[67,40,120,44,32,121,41,44,32,82,40,121,44,32,122,41]
def pa8:Str:=[82,40,120,44,32,121,41,44,32,110,111,116,32,83,40,121,41]
def pa9:Str:=[83,40,120,41,44,32,110,111,116,32,82,40,120,44,32,64,41]
def zGl:Str:=[67,40,120,44,32,121,41,44,32,83,40,121,41,44,32,110,111,116,32,75,40,120,44,32,121,41]
def zAO:Str:=[82,40,120,44,32,121,41,44,32,83,40,120,41,44,32,83,40,121,41]
def zAR:Str:=[75,40,120,44,32,121,41,44,32,75,40,122,44,32,121,41]
def zAS:Str:=[82,40,120,44,32,64,41]
def zAT:Str:=[83,40,120,41,44,32,75,40,120,44,32,64,41]
def zGn:Str:=[82,40,120,44,32,121,41,44,32,120,32,60,32,121]
def zGp:Str:=[82,40,120,44,32,121,41,44,32,83,40,122,41,44,32,121,32,33,61,32,122]
def zGr:Str:=[83,40,120,41,44,32,83,40,121,41,44,32,120,32,60,61,32,121]
def zGu:Str:=[67,40,120,44,32,121,41,44,32,110,111,116,32,82,40,120,44,32,121,41]
def zAX:Str:=[82,40,120,44,32,120,41]
def zGv:Str:=[83,40,120,41,44,32,120,32,61,32,64]
def zAY:Str:=[75,40,120,44,32,121,41,44,32,82,40,121,44,32,122,41,44,32,83,40,122,41]
def zGy:Str:=[82,40,120,44,32,121,41,44,32,82,40,120,44,32,122,41,44,32,121,32,60,32,122]
def zGA:Str:=[75,40,120,44,32,64,41,44,32,67,40,121,44,32,120,41]
def pa24:Str:=[82,40,120,44,32,121,41,44,32,82,40,120,44,32,122,41]
def pa25:Str:=[82,40,120,44,32,121,41,44,32,82,40,122,44,32,121,41,44,32,83,40,122,41]
def pa26:Str:=[83,40,120,41]
def pa27:Str:=[82,40,120,44,32,121,41,44,32,82,40,121,44,32,122,41,44,32,82,40,120,44,32,120,41]
def paL:List (List F):=[[.s pa0],[.s pa1],[.s pa2],[.s pa3],[.s pa4],[.s pa5],[.s pa6],[.s pa7],[.s pa8],[.s pa9],[.s zGl],[.s zAO],[.s zAR],[.s zAS],[.s zAT],[.s zGn],[.s zGp],[.s zGr],[.s zGu],[.s zAX],[.s zGv],[.s zAY],[.s zGy],[.s zGA]]
def poL:List (List F):=[[.s pa0],[.s pa1],[.s pa2],[.s pa3],[.s pa4],[.s pa5],[.s pa6],[.s pa7],[.s zAO],[.s zAR],[.s zAS],[.s zAT],[.s zAX],[.s zAY],[.s pa24],[.s pa25],[.s pa26],[.s pa27]]
theorem zH1:Ans pr 37 [] (.sl 1 paL):=Qt197
theorem ans77:Ans pr 77 [] (.sl 1 poL):=Qt198
theorem ans11:Ans pr 11 [] (.b true):=Qt288
def Rd(p:Str)(r:Nat):Prop:=∃c∈CQl,Ans pr 76 [.s (p.map (rb r))] (.tu [.ag [.nils,.sl 2 [cqF c]],.i .i64 0])
def Rds(p:Str):Prop:=p≠[]/\p.length<1000/\∀r,r<3->Rd p r
def RdX(x:List F):Prop:=∃p,x=[.s p]/\Rds p
theorem qa{fs gs:List F}{x y:F}(h:Ans pr 76 fs x)(e1:fs=gs)(e2:x=y):Ans pr 76 gs y:=by rw[<-e1,<-e2];exact h
theorem rn{p:Str}{fs:List F}{x:F}(h1:p≠[])(h2:p.length<1000)(h:p.all (· != 64)=true){c:CQ}(n:Nat)(hc:CQl[n]? =some c)(q:Ans pr 76 fs x)(e1:fs=[.s p])(e2:x= .tu [.ag [.nils,.sl 2 [cqF c]],.i .i64 0]):RdX [.s p]:=
  ⟨p,rfl,h1,h2,fun r _=>⟨c,mg n hc,by rw[rb_no h];exact qa q e1 e2⟩⟩
theorem r3{p:Str}(h1:p≠[])(h2:p.length<1000)(a:Rd p 0)(b:Rd p 1)(c:Rd p 2):RdX [.s p]:=⟨p,rfl,h1,h2,fun r hr=>match r,hr with
 |0,_=>a
 |1,_=>b
 |2,_=>c⟩
theorem rd0:RdX [.s pa0]:=rn (by simp[pa0]) (by decide) (by decide) (c:=cq0) 0 rfl Qt13 (by kernel_rfl) (by kernel_rfl)
theorem rd1:RdX [.s pa1]:=rn (by simp[pa1]) (by decide) (by decide) (c:=cq1) 1 rfl Qt17 (by kernel_rfl) (by kernel_rfl)
theorem rd2:RdX [.s pa2]:=rn (by simp[pa2]) (by decide) (by decide) (c:=cq2) 2 rfl Qt19 (by kernel_rfl) (by kernel_rfl)
theorem rd3:RdX [.s pa3]:=rn (by simp[pa3]) (by decide) (by decide) (c:=cq3) 3 rfl Qt25 (by kernel_rfl) (by kernel_rfl)
theorem rd4:RdX [.s pa4]:=rn (by simp[pa4]) (by decide) (by decide) (c:=cq4) 4 rfl Qt27 (by kernel_rfl) (by kernel_rfl)
theorem rd5:RdX [.s pa5]:=rn (by simp[pa5]) (by decide) (by decide) (c:=cq5) 5 rfl Qt29 (by kernel_rfl) (by kernel_rfl)
theorem rd6:RdX [.s pa6]:=rn (by simp[pa6]) (by decide) (by decide) (c:=cq6) 6 rfl Qt31 (by kernel_rfl) (by kernel_rfl)
theorem rd7:RdX [.s pa7]:=rn (by simp[pa7]) (by decide) (by decide) (c:=cq7) 7 rfl Qt35 (by kernel_rfl) (by kernel_rfl)
theorem rd8:RdX [.s pa8]:=rn (by simp[pa8]) (by decide) (by decide) (c:=cq8) 8 rfl Qt42 (by kernel_rfl) (by kernel_rfl)
theorem rd9:RdX [.s pa9]:=r3 (by simp[pa9]) (by decide) ⟨cq9,mg 9 rfl,qa Qt69 (by kernel_rfl) (by kernel_rfl)⟩ ⟨zp6,mg 10 rfl,qa Qt91 (by kernel_rfl) (by kernel_rfl)⟩ ⟨zp9,mg 11 rfl,qa Qt114 (by kernel_rfl) (by kernel_rfl)⟩
theorem rd10:RdX [.s zGl]:=rn (by simp[zGl]) (by decide) (by decide) (c:=zqa) 12 rfl Qt116 (by kernel_rfl) (by kernel_rfl)
theorem rd11:RdX [.s zAO]:=rn (by simp[zAO]) (by decide) (by decide) (c:=zqb) 13 rfl Qt118 (by kernel_rfl) (by kernel_rfl)
theorem rd12:RdX [.s zAR]:=rn (by simp[zAR]) (by decide) (by decide) (c:=zqc) 14 rfl Qt120 (by kernel_rfl) (by kernel_rfl)
theorem rd13:RdX [.s zAS]:=r3 (by simp[zAS]) (by decide) ⟨zqd,mg 15 rfl,qa Qt124 (by kernel_rfl) (by kernel_rfl)⟩ ⟨zqe,mg 16 rfl,qa Qt128 (by kernel_rfl) (by kernel_rfl)⟩ ⟨zqh,mg 17 rfl,qa Qt132 (by kernel_rfl) (by kernel_rfl)⟩
theorem rd14:RdX [.s zAT]:=r3 (by simp[zAT]) (by decide) ⟨zql,mg 18 rfl,qa Qt136 (by kernel_rfl) (by kernel_rfl)⟩ ⟨zqm,mg 19 rfl,qa Qt140 (by kernel_rfl) (by kernel_rfl)⟩ ⟨zqo,mg 20 rfl,qa Qt144 (by kernel_rfl) (by kernel_rfl)⟩
theorem rd15:RdX [.s zGn]:=rn (by simp[zGn]) (by decide) (by decide) (c:=zqp) 21 rfl Qt148 (by kernel_rfl) (by kernel_rfl)
theorem rd16:RdX [.s zGp]:=rn (by simp[zGp]) (by decide) (by decide) (c:=zqr) 22 rfl Qt152 (by kernel_rfl) (by kernel_rfl)
theorem rd17:RdX [.s zGr]:=rn (by simp[zGr]) (by decide) (by decide) (c:=zqu) 23 rfl Qt154 (by kernel_rfl) (by kernel_rfl)
theorem rd18:RdX [.s zGu]:=rn (by simp[zGu]) (by decide) (by decide) (c:=zqv) 24 rfl Qt156 (by kernel_rfl) (by kernel_rfl)
theorem rd19:RdX [.s zAX]:=rn (by simp[zAX]) (by decide) (by decide) (c:=zqw) 25 rfl Qt158 (by kernel_rfl) (by kernel_rfl)
theorem rd20:RdX [.s zGv]:=r3 (by simp[zGv]) (by decide) ⟨zqx,mg 26 rfl,qa Qt164 (by kernel_rfl) (by kernel_rfl)⟩ ⟨zqG,mg 27 rfl,qa Qt168 (by kernel_rfl) (by kernel_rfl)⟩ ⟨zqH,mg 28 rfl,qa Qt172 (by kernel_rfl) (by kernel_rfl)⟩
theorem rd21:RdX [.s zAY]:=rn (by simp[zAY]) (by decide) (by decide) (c:=zqI) 29 rfl Qt174 (by kernel_rfl) (by kernel_rfl)
theorem rd22:RdX [.s zGy]:=rn (by simp[zGy]) (by decide) (by decide) (c:=zqJ) 30 rfl Qt176 (by kernel_rfl) (by kernel_rfl)
theorem rd23:RdX [.s zGA]:=r3 (by simp[zGA]) (by decide) ⟨zqL,mg 31 rfl,qa Qt180 (by kernel_rfl) (by kernel_rfl)⟩ ⟨zqM,mg 32 rfl,qa Qt184 (by kernel_rfl) (by kernel_rfl)⟩ ⟨zqN,mg 33 rfl,qa Qt188 (by kernel_rfl) (by kernel_rfl)⟩
theorem rd24:RdX [.s pa24]:=rn (by simp[pa24]) (by decide) (by decide) (c:=zqP) 34 rfl zHH (by kernel_rfl) (by kernel_rfl)
theorem rd25:RdX [.s pa25]:=rn (by simp[pa25]) (by decide) (by decide) (c:=zqT) 35 rfl Qt192 (by kernel_rfl) (by kernel_rfl)
theorem rd26:RdX [.s pa26]:=rn (by simp[pa26]) (by decide) (by decide) (c:=zqU) 36 rfl Qt194 (by kernel_rfl) (by kernel_rfl)
theorem rd27:RdX [.s pa27]:=rn (by simp[pa27]) (by decide) (by decide) (c:=zqV) 37 rfl Qt196 (by kernel_rfl) (by kernel_rfl)
theorem rdA:∀x∈paL,RdX x:=allL (P:=RdX) (l:=paL) ⟨rd0,rd1,rd2,rd3,rd4,rd5,rd6,rd7,rd8,rd9,rd10,rd11,rd12,rd13,rd14,rd15,rd16,rd17,rd18,rd19,rd20,rd21,rd22,rd23,trivial⟩
theorem rdO:∀x∈poL,RdX x:=allL (P:=RdX) (l:=poL) ⟨rd0,rd1,rd2,rd3,rd4,rd5,rd6,rd7,rd11,rd12,rd13,rd14,rd19,rd21,rd24,rd25,rd26,rd27,trivial⟩
structure CqN(n:Nat)(c:CQ):Prop where
 al:∀a∈c.as,zcc a/\a.ts.length≤2
 cs:∀k∈c.cs,zb8 k
 la:c.as.length≤3*n
 lc:c.cs.length≤n
 ne:c.as≠[]
theorem cg0:CqN 1 cq0:=⟨by simp[cq0,zcc,zau],by simp[cq0,zb8,zau],by decide,by decide,by simp[cq0]⟩
theorem cg1:CqN 1 cq1:=⟨by simp[cq1,zcc,zau],by simp[cq1,zb8,zau],by decide,by decide,by simp[cq1]⟩
theorem cg2:CqN 1 cq2:=⟨by simp[cq2,zcc,zau],by simp[cq2,zb8,zau],by decide,by decide,by simp[cq2]⟩
theorem cg3:CqN 1 cq3:=⟨by simp[cq3,zcc,zau],by simp[cq3,zb8,zau],by decide,by decide,by simp[cq3]⟩
theorem cg4:CqN 1 cq4:=⟨by simp[cq4,zcc,zau],by simp[cq4,zb8,zau],by decide,by decide,by simp[cq4]⟩
theorem cg5:CqN 1 cq5:=⟨by simp[cq5,zcc,zau],by simp[cq5,zb8,zau],by decide,by decide,by simp[cq5]⟩
theorem cg6:CqN 1 cq6:=⟨by simp[cq6,zcc,zau],by simp[cq6,zb8,zau],by decide,by decide,by simp[cq6]⟩
theorem cg7:CqN 1 cq7:=⟨by simp[cq7,zcc,zau],by simp[cq7,zb8,zau],by decide,by decide,by simp[cq7]⟩
theorem cg8:CqN 1 cq8:=⟨by simp[cq8,zcc,zau],by simp[cq8,zb8,zau],by decide,by decide,by simp[cq8]⟩
theorem cg9:CqN 1 cq9:=⟨by simp[cq9,zcc,zau],by simp[cq9,zb8,zau],by decide,by decide,by simp[cq9]⟩
theorem cg10:CqN 1 zp6:=⟨by simp[zp6,zcc,zau],by simp[zp6,zb8,zau],by decide,by decide,by simp[zp6]⟩
theorem cg11:CqN 1 zp9:=⟨by simp[zp9,zcc,zau],by simp[zp9,zb8,zau],by decide,by decide,by simp[zp9]⟩
theorem cg12:CqN 1 zqa:=⟨by simp[zqa,zcc,zau],by simp[zqa,zb8,zau],by decide,by decide,by simp[zqa]⟩
theorem cg13:CqN 1 zqb:=⟨by simp[zqb,zcc,zau],by simp[zqb,zb8,zau],by decide,by decide,by simp[zqb]⟩
theorem cg14:CqN 1 zqc:=⟨by simp[zqc,zcc,zau],by simp[zqc,zb8,zau],by decide,by decide,by simp[zqc]⟩
theorem cg15:CqN 1 zqd:=⟨by simp[zqd,zcc,zau],by simp[zqd,zb8,zau],by decide,by decide,by simp[zqd]⟩
theorem cg16:CqN 1 zqe:=⟨by simp[zqe,zcc,zau],by simp[zqe,zb8,zau],by decide,by decide,by simp[zqe]⟩
theorem cg17:CqN 1 zqh:=⟨by simp[zqh,zcc,zau],by simp[zqh,zb8,zau],by decide,by decide,by simp[zqh]⟩
theorem cg18:CqN 1 zql:=⟨by simp[zql,zcc,zau],by simp[zql,zb8,zau],by decide,by decide,by simp[zql]⟩
theorem cg19:CqN 1 zqm:=⟨by simp[zqm,zcc,zau],by simp[zqm,zb8,zau],by decide,by decide,by simp[zqm]⟩
theorem cg20:CqN 1 zqo:=⟨by simp[zqo,zcc,zau],by simp[zqo,zb8,zau],by decide,by decide,by simp[zqo]⟩
theorem cg21:CqN 1 zqp:=⟨by simp[zqp,zcc,zau],by simp[zqp,zb8,zau],by decide,by decide,by simp[zqp]⟩
theorem cg22:CqN 1 zqr:=⟨by simp[zqr,zcc,zau],by simp[zqr,zb8,zau],by decide,by decide,by simp[zqr]⟩
theorem cg23:CqN 1 zqu:=⟨by simp[zqu,zcc,zau],by simp[zqu,zb8,zau],by decide,by decide,by simp[zqu]⟩
theorem cg24:CqN 1 zqv:=⟨by simp[zqv,zcc,zau],by simp[zqv,zb8,zau],by decide,by decide,by simp[zqv]⟩
theorem cg25:CqN 1 zqw:=⟨by simp[zqw,zcc,zau],by simp[zqw,zb8,zau],by decide,by decide,by simp[zqw]⟩
theorem cg26:CqN 1 zqx:=⟨by simp[zqx,zcc,zau],by simp[zqx,zb8,zau],by decide,by decide,by simp[zqx]⟩
theorem cg27:CqN 1 zqG:=⟨by simp[zqG,zcc,zau],by simp[zqG,zb8,zau],by decide,by decide,by simp[zqG]⟩
theorem cg28:CqN 1 zqH:=⟨by simp[zqH,zcc,zau],by simp[zqH,zb8,zau],by decide,by decide,by simp[zqH]⟩
theorem cg29:CqN 1 zqI:=⟨by simp[zqI,zcc,zau],by simp[zqI,zb8,zau],by decide,by decide,by simp[zqI]⟩
theorem cg30:CqN 1 zqJ:=⟨by simp[zqJ,zcc,zau],by simp[zqJ,zb8,zau],by decide,by decide,by simp[zqJ]⟩
theorem cg31:CqN 1 zqL:=⟨by simp[zqL,zcc,zau],by simp[zqL,zb8,zau],by decide,by decide,by simp[zqL]⟩
theorem cg32:CqN 1 zqM:=⟨by simp[zqM,zcc,zau],by simp[zqM,zb8,zau],by decide,by decide,by simp[zqM]⟩
theorem cg33:CqN 1 zqN:=⟨by simp[zqN,zcc,zau],by simp[zqN,zb8,zau],by decide,by decide,by simp[zqN]⟩
theorem cg34:CqN 1 zqP:=⟨by simp[zqP,zcc,zau],by simp[zqP,zb8,zau],by decide,by decide,by simp[zqP]⟩
theorem cg35:CqN 1 zqT:=⟨by simp[zqT,zcc,zau],by simp[zqT,zb8,zau],by decide,by decide,by simp[zqT]⟩
theorem cg36:CqN 1 zqU:=⟨by simp[zqU,zcc,zau],by simp[zqU,zb8,zau],by decide,by decide,by simp[zqU]⟩
theorem cg37:CqN 1 zqV:=⟨by simp[zqV,zcc,zau],by simp[zqV,zb8,zau],by decide,by decide,by simp[zqV]⟩
theorem zzs:∀c∈CQl,CqN 1 c:=allL (P:=CqN 1) (l:=CQl) ⟨cg0,cg1,cg2,cg3,cg4,cg5,cg6,cg7,cg8,cg9,cg10,cg11,cg12,cg13,cg14,cg15,cg16,cg17,cg18,cg19,cg20,cg21,cg22,cg23,cg24,cg25,cg26,cg27,cg28,cg29,cg30,cg31,cg32,cg33,cg34,cg35,cg36,cg37,trivial⟩
end Go.Proofs.YtimgcabgophnfaaGreat
