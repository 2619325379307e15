/- The conjunctive queries of the builders: what they are read from. Written by program. -/
import Derived.Test.YtlnfpifjdcmmlaaGreatDoorPm
import Derived.Test.YtlnfpifjdcmmlaaGreatDoorQs0
import Derived.Test.YtlnfpifjdcmmlaaGreatDoorQs1
import Derived.KernelRfl
set_option linter.all false
noncomputable section
namespace Go.Proofs.YtlnfpifjdcmmlaaGreatDoor
open Go Go.Vse Go.Vse.Sm
set_option maxRecDepth 100000
set_option maxHeartbeats 4000000
def AllL{α:Type}(P:α->Prop):List α->Prop
 |[]=>True
 |a::l=>P a/\AllL P l
theorem allL{α:Type}{P:α->Prop}:∀{l:List α},AllL P l->∀a∈l,P a
 |[],_,a,h=>by simp at h
 |b::l,h,a,ha=>by
  rcases Z6.1 ha with rfl|ha
  .exact h.1
  .exact allL h.2 a ha
def mg{α:Type}{l:List α}(n:Nat){a:α}(h:l[n]? =some a):a∈l:=Z40 h
def rb(r:Nat)(b:UInt8):UInt8:=if b=64 then UInt8.ofNat (49+r)else b
def rb_no{p:Str}(h:p.all (· != 64)=true)(r:Nat):p.map (rb r)=p:=by
  refine (List.map_congr_left fun b hb=> ?_).trans (List.map_id p);have:=List.all_eq_true.1 h b hb;have h2:¬b=64:=by simpa using this
  simp[rb,h2]
def cq0:CQ:=⟨[⟨[82],false,[.var [120],.var [121]]⟩],[],false,false⟩
def cq1:CQ:=⟨[⟨[82],false,[.var [120],.var [121]]⟩,⟨[83],false,[.var [121]]⟩],[],false,false⟩
def cq2:CQ:=⟨[⟨[82],false,[.var [120],.var [121]]⟩,⟨[83],false,[.var [120]]⟩],[],false,false⟩
def cq3:CQ:=⟨[⟨[82],false,[.var [120],.var [121]]⟩,⟨[75],false,[.var [121],.var [122]]⟩],[],false,false⟩
def cq4:CQ:=⟨[⟨[75],false,[.var [120],.var [121]]⟩,⟨[83],false,[.var [121]]⟩],[],false,false⟩
def cq5:CQ:=⟨[⟨[82],false,[.var [120],.var [121]]⟩,⟨[82],false,[.var [121],.var [122]]⟩],[],false,false⟩
def cq6:CQ:=⟨[⟨[82],false,[.var [120],.var [121]]⟩,⟨[82],false,[.var [121],.var [120]]⟩],[],false,false⟩
def cq7:CQ:=⟨[⟨[67],false,[.var [120],.var [121]]⟩,⟨[82],false,[.var [121],.var [122]]⟩],[],false,false⟩
def cq8:CQ:=⟨[⟨[82],false,[.var [120],.var [121]]⟩,⟨[83],true,[.var [121]]⟩],[],false,false⟩
def cq9:CQ:=⟨[⟨[83],false,[.var [120]]⟩,⟨[82],true,[.var [120],.cst 1]⟩],[],false,false⟩
def zoK:CQ:=⟨[⟨[83],false,[.var [120]]⟩,⟨[82],true,[.var [120],.cst 2]⟩],[],false,false⟩
def zoL:CQ:=⟨[⟨[83],false,[.var [120]]⟩,⟨[82],true,[.var [120],.cst 3]⟩],[],false,false⟩
def zoM:CQ:=⟨[⟨[67],false,[.var [120],.var [121]]⟩,⟨[83],false,[.var [121]]⟩,⟨[75],true,[.var [120],.var [121]]⟩],[],false,false⟩
def zoS:CQ:=⟨[⟨[82],false,[.var [120],.var [121]]⟩,⟨[83],false,[.var [120]]⟩,⟨[83],false,[.var [121]]⟩],[],false,false⟩
def zoT:CQ:=⟨[⟨[75],false,[.var [120],.var [121]]⟩,⟨[75],false,[.var [122],.var [121]]⟩],[],false,false⟩
def zoU:CQ:=⟨[⟨[82],false,[.var [120],.cst 1]⟩],[],false,false⟩
def zoW:CQ:=⟨[⟨[82],false,[.var [120],.cst 2]⟩],[],false,false⟩
def zoX:CQ:=⟨[⟨[82],false,[.var [120],.cst 3]⟩],[],false,false⟩
def zo1:CQ:=⟨[⟨[83],false,[.var [120]]⟩,⟨[75],false,[.var [120],.cst 1]⟩],[],false,false⟩
def zo2:CQ:=⟨[⟨[83],false,[.var [120]]⟩,⟨[75],false,[.var [120],.cst 2]⟩],[],false,false⟩
def zo3:CQ:=⟨[⟨[83],false,[.var [120]]⟩,⟨[75],false,[.var [120],.cst 3]⟩],[],false,false⟩
def zo4:CQ:=⟨[⟨[82],false,[.var [120],.var [121]]⟩],[⟨3,.var [120],.var [121]⟩],false,false⟩
def zo5:CQ:=⟨[⟨[82],false,[.var [120],.var [121]]⟩,⟨[83],false,[.var [122]]⟩],[⟨2,.var [121],.var [122]⟩],false,false⟩
def zo6:CQ:=⟨[⟨[83],false,[.var [120]]⟩,⟨[83],false,[.var [121]]⟩],[⟨4,.var [120],.var [121]⟩],false,false⟩
def zo8:CQ:=⟨[⟨[67],false,[.var [120],.var [121]]⟩,⟨[82],true,[.var [120],.var [121]]⟩],[],false,false⟩
def zo9:CQ:=⟨[⟨[82],false,[.var [120],.var [120]]⟩],[],false,false⟩
def zpa:CQ:=⟨[⟨[83],false,[.var [120]]⟩],[⟨1,.var [120],.cst 1⟩],false,false⟩
def zpc:CQ:=⟨[⟨[83],false,[.var [120]]⟩],[⟨1,.var [120],.cst 2⟩],false,false⟩
def zpe:CQ:=⟨[⟨[83],false,[.var [120]]⟩],[⟨1,.var [120],.cst 3⟩],false,false⟩
def zph:CQ:=⟨[⟨[75],false,[.var [120],.var [121]]⟩,⟨[82],false,[.var [121],.var [122]]⟩,⟨[83],false,[.var [122]]⟩],[],false,false⟩
def zpi:CQ:=⟨[⟨[82],false,[.var [120],.var [121]]⟩,⟨[82],false,[.var [120],.var [122]]⟩],[⟨3,.var [121],.var [122]⟩],false,false⟩
def zpk:CQ:=⟨[⟨[75],false,[.var [120],.cst 1]⟩,⟨[67],false,[.var [121],.var [120]]⟩],[],false,false⟩
def zpm:CQ:=⟨[⟨[75],false,[.var [120],.cst 2]⟩,⟨[67],false,[.var [121],.var [120]]⟩],[],false,false⟩
def zpp:CQ:=⟨[⟨[75],false,[.var [120],.cst 3]⟩,⟨[67],false,[.var [121],.var [120]]⟩],[],false,false⟩
def zpq:CQ:=⟨[⟨[82],false,[.var [120],.var [121]]⟩,⟨[82],false,[.var [120],.var [122]]⟩],[],false,false⟩
def zpr:CQ:=⟨[⟨[82],false,[.var [120],.var [121]]⟩,⟨[82],false,[.var [122],.var [121]]⟩,⟨[83],false,[.var [122]]⟩],[],false,false⟩
def zpu:CQ:=⟨[⟨[83],false,[.var [120]]⟩],[],false,false⟩
def zpv:CQ:=⟨[⟨[82],false,[.var [120],.var [121]]⟩,⟨[82],false,[.var [121],.var [122]]⟩,⟨[82],false,[.var [120],.var [120]]⟩],[],false,false⟩
def CQl:List CQ:=[cq0,cq1,cq2,cq3,cq4,cq5,cq6,cq7,cq8,cq9,zoK,zoL,zoM,zoS,zoT,zoU,zoW,zoX,zo1,zo2,zo3,zo4,zo5,zo6,zo8,zo9,zpa,zpc,zpe,zph,zpi,zpk,zpm,zpp,zpq,zpr,zpu,zpv]
def pa0:Str:=[82,40,120,44,32,121,41]
def pa1:Str:=[82,40,120,44,32,121,41,44,32,83,40,121,41]
def pa2:Str:=[82,40,120,44,32,121,41,44,32,83,40,120,41]
def pa3:Str:=[82,40,120,44,32,121,41,44,32,75,40,121,44,32,122,41]
def pa4:Str:=[75,40,120,44,32,121,41,44,32,83,40,121,41]
def pa5:Str:=[82,40,120,44,32,121,41,44,32,82,40,121,44,32,122,41]
def pa6:Str:=[82,40,120,44,32,121,41,44,32,82,40,121,44,32,120,41]
def pa7:Str:=[67,40,120,44,32,121,41,44,32,82,40,121,44,32,122,41]
def pa8:Str:=[82,40,120,44,32,121,41,44,32,110,111,116,32,83,40,121,41]
def pa9:Str:=[83,40,120,41,44,32,110,111,116,32,82,40,120,44,32,64,41]
def zBK:Str:=[67,40,120,44,32,121,41,44,32,83,40,121,41,44,32,110,111,116,32,75,40,120,44,32,121,41]
def zxb:Str:=[82,40,120,44,32,121,41,44,32,83,40,120,41,44,32,83,40,121,41]
def zxc:Str:=[75,40,120,44,32,121,41,44,32,75,40,122,44,32,121,41]
def zxe:Str:=[82,40,120,44,32,64,41]
def zxi:Str:=[83,40,120,41,44,32,75,40,120,44,32,64,41]
def zBL:Str:=[82,40,120,44,32,121,41,44,32,120,32,60,32,121]
def zBM:Str:=[82,40,120,44,32,121,41,44,32,83,40,122,41,44,32,121,32,33,61,32,122]
def zBN:Str:=[83,40,120,41,44,32,83,40,121,41,44,32,120,32,60,61,32,121]
def zBO:Str:=[67,40,120,44,32,121,41,44,32,110,111,116,32,82,40,120,44,32,121,41]
def zxj:Str:=[82,40,120,44,32,120,41]
def zBQ:Str:=[83,40,120,41,44,32,120,32,61,32,64]
def zxm:Str:=[75,40,120,44,32,121,41,44,32,82,40,121,44,32,122,41,44,32,83,40,122,41]
def zBR:Str:=[82,40,120,44,32,121,41,44,32,82,40,120,44,32,122,41,44,32,121,32,60,32,122]
def zBS:Str:=[75,40,120,44,32,64,41,44,32,67,40,121,44,32,120,41]
def pa24:Str:=[82,40,120,44,32,121,41,44,32,82,40,120,44,32,122,41]
def pa25:Str:=[82,40,120,44,32,121,41,44,32,82,40,122,44,32,121,41,44,32,83,40,122,41]
def pa26:Str:=[83,40,120,41]
def pa27:Str:=[82,40,120,44,32,121,41,44,32,82,40,121,44,32,122,41,44,32,82,40,120,44,32,120,41]
def paL:List (List F):=[[.s pa0],[.s pa1],[.s pa2],[.s pa3],[.s pa4],[.s pa5],[.s pa6],[.s pa7],[.s pa8],[.s pa9],[.s zBK],[.s zxb],[.s zxc],[.s zxe],[.s zxi],[.s zBL],[.s zBM],[.s zBN],[.s zBO],[.s zxj],[.s zBQ],[.s zxm],[.s zBR],[.s zBS]]
def poL:List (List F):=[[.s pa0],[.s pa1],[.s pa2],[.s pa3],[.s pa4],[.s pa5],[.s pa6],[.s pa7],[.s zxb],[.s zxc],[.s zxe],[.s zxi],[.s zxj],[.s zxm],[.s pa24],[.s pa25],[.s pa26],[.s pa27]]
def ans36:Ans pr 36 [] (.sl 1 paL):=Qs197
def ans38:Ans pr 38 [] (.sl 1 poL):=Qs198
def ans7:Ans pr 7 [] (.b true):=Qs325
def Rd(p:Str)(r:Nat):Prop:=∃c∈CQl,Ans pr 16 [.s (p.map (rb r))] (.tu [.ag [.nils,.sl 2 [cqF c]],.i .i64 0])
def Rds(p:Str):Prop:=p≠[]/\p.length<1000/\∀r,r<3->Rd p r
def RdX(x:List F):Prop:=∃p,x=[.s p]/\Rds p
def qa{fs gs:List F}{x y:F}(h:Ans pr 16 fs x)(e1:fs=gs)(e2:x=y):Ans pr 16 gs y:=by rw[<-e1,<-e2];exact h
def rn{p:Str}{fs:List F}{x:F}(h1:p≠[])(h2:p.length<1000)(h:p.all (· != 64)=true){c:CQ}(n:Nat)(hc:CQl[n]? =some c)(q:Ans pr 16 fs x)(e1:fs=[.s p])(e2:x= .tu [.ag [.nils,.sl 2 [cqF c]],.i .i64 0]):RdX [.s p]:=
  ⟨p,rfl,h1,h2,fun r _=>⟨c,mg n hc,by rw[rb_no h];exact qa q e1 e2⟩⟩
def r3{p:Str}(h1:p≠[])(h2:p.length<1000)(a:Rd p 0)(b:Rd p 1)(c:Rd p 2):RdX [.s p]:=⟨p,rfl,h1,h2,fun r hr=>match r,hr with
 |0,_=>a
 |1,_=>b
 |2,_=>c⟩
def rd0:RdX [.s pa0]:=rn (by simp[pa0]) (by decide) (by decide) (c:=cq0) 0 rfl Qs13 (by kernel_rfl) (by kernel_rfl)
def rd1:RdX [.s pa1]:=rn (by simp[pa1]) (by decide) (by decide) (c:=cq1) 1 rfl Qs17 (by kernel_rfl) (by kernel_rfl)
def rd2:RdX [.s pa2]:=rn (by simp[pa2]) (by decide) (by decide) (c:=cq2) 2 rfl Qs19 (by kernel_rfl) (by kernel_rfl)
def rd3:RdX [.s pa3]:=rn (by simp[pa3]) (by decide) (by decide) (c:=cq3) 3 rfl Qs25 (by kernel_rfl) (by kernel_rfl)
def rd4:RdX [.s pa4]:=rn (by simp[pa4]) (by decide) (by decide) (c:=cq4) 4 rfl Qs27 (by kernel_rfl) (by kernel_rfl)
def rd5:RdX [.s pa5]:=rn (by simp[pa5]) (by decide) (by decide) (c:=cq5) 5 rfl Qs29 (by kernel_rfl) (by kernel_rfl)
def rd6:RdX [.s pa6]:=rn (by simp[pa6]) (by decide) (by decide) (c:=cq6) 6 rfl Qs31 (by kernel_rfl) (by kernel_rfl)
def rd7:RdX [.s pa7]:=rn (by simp[pa7]) (by decide) (by decide) (c:=cq7) 7 rfl Qs35 (by kernel_rfl) (by kernel_rfl)
def rd8:RdX [.s pa8]:=rn (by simp[pa8]) (by decide) (by decide) (c:=cq8) 8 rfl Qs42 (by kernel_rfl) (by kernel_rfl)
def rd9:RdX [.s pa9]:=r3 (by simp[pa9]) (by decide) ⟨cq9,mg 9 rfl,qa Qs69 (by kernel_rfl) (by kernel_rfl)⟩ ⟨zoK,mg 10 rfl,qa Qs91 (by kernel_rfl) (by kernel_rfl)⟩ ⟨zoL,mg 11 rfl,qa Qs114 (by kernel_rfl) (by kernel_rfl)⟩
def rd10:RdX [.s zBK]:=rn (by simp[zBK]) (by decide) (by decide) (c:=zoM) 12 rfl Qs116 (by kernel_rfl) (by kernel_rfl)
def rd11:RdX [.s zxb]:=rn (by simp[zxb]) (by decide) (by decide) (c:=zoS) 13 rfl Qs118 (by kernel_rfl) (by kernel_rfl)
def rd12:RdX [.s zxc]:=rn (by simp[zxc]) (by decide) (by decide) (c:=zoT) 14 rfl Qs120 (by kernel_rfl) (by kernel_rfl)
def rd13:RdX [.s zxe]:=r3 (by simp[zxe]) (by decide) ⟨zoU,mg 15 rfl,qa Qs124 (by kernel_rfl) (by kernel_rfl)⟩ ⟨zoW,mg 16 rfl,qa Qs128 (by kernel_rfl) (by kernel_rfl)⟩ ⟨zoX,mg 17 rfl,qa Qs132 (by kernel_rfl) (by kernel_rfl)⟩
def rd14:RdX [.s zxi]:=r3 (by simp[zxi]) (by decide) ⟨zo1,mg 18 rfl,qa Qs136 (by kernel_rfl) (by kernel_rfl)⟩ ⟨zo2,mg 19 rfl,qa Qs140 (by kernel_rfl) (by kernel_rfl)⟩ ⟨zo3,mg 20 rfl,qa Qs144 (by kernel_rfl) (by kernel_rfl)⟩
def rd15:RdX [.s zBL]:=rn (by simp[zBL]) (by decide) (by decide) (c:=zo4) 21 rfl Qs148 (by kernel_rfl) (by kernel_rfl)
def rd16:RdX [.s zBM]:=rn (by simp[zBM]) (by decide) (by decide) (c:=zo5) 22 rfl Qs152 (by kernel_rfl) (by kernel_rfl)
def rd17:RdX [.s zBN]:=rn (by simp[zBN]) (by decide) (by decide) (c:=zo6) 23 rfl Qs154 (by kernel_rfl) (by kernel_rfl)
def rd18:RdX [.s zBO]:=rn (by simp[zBO]) (by decide) (by decide) (c:=zo8) 24 rfl Qs156 (by kernel_rfl) (by kernel_rfl)
def rd19:RdX [.s zxj]:=rn (by simp[zxj]) (by decide) (by decide) (c:=zo9) 25 rfl Qs158 (by kernel_rfl) (by kernel_rfl)
def rd20:RdX [.s zBQ]:=r3 (by simp[zBQ]) (by decide) ⟨zpa,mg 26 rfl,qa Qs164 (by kernel_rfl) (by kernel_rfl)⟩ ⟨zpc,mg 27 rfl,qa Qs168 (by kernel_rfl) (by kernel_rfl)⟩ ⟨zpe,mg 28 rfl,qa Qs172 (by kernel_rfl) (by kernel_rfl)⟩
def rd21:RdX [.s zxm]:=rn (by simp[zxm]) (by decide) (by decide) (c:=zph) 29 rfl Qs174 (by kernel_rfl) (by kernel_rfl)
def rd22:RdX [.s zBR]:=rn (by simp[zBR]) (by decide) (by decide) (c:=zpi) 30 rfl Qs176 (by kernel_rfl) (by kernel_rfl)
def rd23:RdX [.s zBS]:=r3 (by simp[zBS]) (by decide) ⟨zpk,mg 31 rfl,qa Qs180 (by kernel_rfl) (by kernel_rfl)⟩ ⟨zpm,mg 32 rfl,qa Qs184 (by kernel_rfl) (by kernel_rfl)⟩ ⟨zpp,mg 33 rfl,qa Qs188 (by kernel_rfl) (by kernel_rfl)⟩
def rd24:RdX [.s pa24]:=rn (by simp[pa24]) (by decide) (by decide) (c:=zpq) 34 rfl Qs190 (by kernel_rfl) (by kernel_rfl)
def rd25:RdX [.s pa25]:=rn (by simp[pa25]) (by decide) (by decide) (c:=zpr) 35 rfl Qs192 (by kernel_rfl) (by kernel_rfl)
def rd26:RdX [.s pa26]:=rn (by simp[pa26]) (by decide) (by decide) (c:=zpu) 36 rfl Qs194 (by kernel_rfl) (by kernel_rfl)
def rd27:RdX [.s pa27]:=rn (by simp[pa27]) (by decide) (by decide) (c:=zpv) 37 rfl Qs196 (by kernel_rfl) (by kernel_rfl)
def rdA:∀x∈paL,RdX x:=allL (P:=RdX) (l:=paL) ⟨rd0,rd1,rd2,rd3,rd4,rd5,rd6,rd7,rd8,rd9,rd10,rd11,rd12,rd13,rd14,rd15,rd16,rd17,rd18,rd19,rd20,rd21,rd22,rd23,trivial⟩
def rdO:∀x∈poL,RdX x:=allL (P:=RdX) (l:=poL) ⟨rd0,rd1,rd2,rd3,rd4,rd5,rd6,rd7,rd11,rd12,rd13,rd14,rd19,rd21,rd24,rd25,rd26,rd27,trivial⟩
def vlK{c:CQ}(h:(vrs c).all (fun x=>decide (x.length<1000))=true):∀x∈vrs c,x.length<1000:=fun x hx=>by simpa using List.all_eq_true.1 h x hx
def cg0:CqN 1 cq0:=⟨by simp[cq0,zbS,zav],by simp[cq0,zbU,zav],by decide,by decide,by simp[cq0],vlK (by kernel_rfl)⟩
def cg1:CqN 1 cq1:=⟨by simp[cq1,zbS,zav],by simp[cq1,zbU,zav],by decide,by decide,by simp[cq1],vlK (by kernel_rfl)⟩
def cg2:CqN 1 cq2:=⟨by simp[cq2,zbS,zav],by simp[cq2,zbU,zav],by decide,by decide,by simp[cq2],vlK (by kernel_rfl)⟩
def cg3:CqN 1 cq3:=⟨by simp[cq3,zbS,zav],by simp[cq3,zbU,zav],by decide,by decide,by simp[cq3],vlK (by kernel_rfl)⟩
def cg4:CqN 1 cq4:=⟨by simp[cq4,zbS,zav],by simp[cq4,zbU,zav],by decide,by decide,by simp[cq4],vlK (by kernel_rfl)⟩
def cg5:CqN 1 cq5:=⟨by simp[cq5,zbS,zav],by simp[cq5,zbU,zav],by decide,by decide,by simp[cq5],vlK (by kernel_rfl)⟩
def cg6:CqN 1 cq6:=⟨by simp[cq6,zbS,zav],by simp[cq6,zbU,zav],by decide,by decide,by simp[cq6],vlK (by kernel_rfl)⟩
def cg7:CqN 1 cq7:=⟨by simp[cq7,zbS,zav],by simp[cq7,zbU,zav],by decide,by decide,by simp[cq7],vlK (by kernel_rfl)⟩
def cg8:CqN 1 cq8:=⟨by simp[cq8,zbS,zav],by simp[cq8,zbU,zav],by decide,by decide,by simp[cq8],vlK (by kernel_rfl)⟩
def cg9:CqN 1 cq9:=⟨by simp[cq9,zbS,zav],by simp[cq9,zbU,zav],by decide,by decide,by simp[cq9],vlK (by kernel_rfl)⟩
def cg10:CqN 1 zoK:=⟨by simp[zoK,zbS,zav],by simp[zoK,zbU,zav],by decide,by decide,by simp[zoK],vlK (by kernel_rfl)⟩
def cg11:CqN 1 zoL:=⟨by simp[zoL,zbS,zav],by simp[zoL,zbU,zav],by decide,by decide,by simp[zoL],vlK (by kernel_rfl)⟩
def cg12:CqN 1 zoM:=⟨by simp[zoM,zbS,zav],by simp[zoM,zbU,zav],by decide,by decide,by simp[zoM],vlK (by kernel_rfl)⟩
def cg13:CqN 1 zoS:=⟨by simp[zoS,zbS,zav],by simp[zoS,zbU,zav],by decide,by decide,by simp[zoS],vlK (by kernel_rfl)⟩
def cg14:CqN 1 zoT:=⟨by simp[zoT,zbS,zav],by simp[zoT,zbU,zav],by decide,by decide,by simp[zoT],vlK (by kernel_rfl)⟩
def cg15:CqN 1 zoU:=⟨by simp[zoU,zbS,zav],by simp[zoU,zbU,zav],by decide,by decide,by simp[zoU],vlK (by kernel_rfl)⟩
def cg16:CqN 1 zoW:=⟨by simp[zoW,zbS,zav],by simp[zoW,zbU,zav],by decide,by decide,by simp[zoW],vlK (by kernel_rfl)⟩
def cg17:CqN 1 zoX:=⟨by simp[zoX,zbS,zav],by simp[zoX,zbU,zav],by decide,by decide,by simp[zoX],vlK (by kernel_rfl)⟩
def cg18:CqN 1 zo1:=⟨by simp[zo1,zbS,zav],by simp[zo1,zbU,zav],by decide,by decide,by simp[zo1],vlK (by kernel_rfl)⟩
def cg19:CqN 1 zo2:=⟨by simp[zo2,zbS,zav],by simp[zo2,zbU,zav],by decide,by decide,by simp[zo2],vlK (by kernel_rfl)⟩
def cg20:CqN 1 zo3:=⟨by simp[zo3,zbS,zav],by simp[zo3,zbU,zav],by decide,by decide,by simp[zo3],vlK (by kernel_rfl)⟩
def cg21:CqN 1 zo4:=⟨by simp[zo4,zbS,zav],by simp[zo4,zbU,zav],by decide,by decide,by simp[zo4],vlK (by kernel_rfl)⟩
def cg22:CqN 1 zo5:=⟨by simp[zo5,zbS,zav],by simp[zo5,zbU,zav],by decide,by decide,by simp[zo5],vlK (by kernel_rfl)⟩
def cg23:CqN 1 zo6:=⟨by simp[zo6,zbS,zav],by simp[zo6,zbU,zav],by decide,by decide,by simp[zo6],vlK (by kernel_rfl)⟩
def cg24:CqN 1 zo8:=⟨by simp[zo8,zbS,zav],by simp[zo8,zbU,zav],by decide,by decide,by simp[zo8],vlK (by kernel_rfl)⟩
def cg25:CqN 1 zo9:=⟨by simp[zo9,zbS,zav],by simp[zo9,zbU,zav],by decide,by decide,by simp[zo9],vlK (by kernel_rfl)⟩
def cg26:CqN 1 zpa:=⟨by simp[zpa,zbS,zav],by simp[zpa,zbU,zav],by decide,by decide,by simp[zpa],vlK (by kernel_rfl)⟩
def cg27:CqN 1 zpc:=⟨by simp[zpc,zbS,zav],by simp[zpc,zbU,zav],by decide,by decide,by simp[zpc],vlK (by kernel_rfl)⟩
def cg28:CqN 1 zpe:=⟨by simp[zpe,zbS,zav],by simp[zpe,zbU,zav],by decide,by decide,by simp[zpe],vlK (by kernel_rfl)⟩
def cg29:CqN 1 zph:=⟨by simp[zph,zbS,zav],by simp[zph,zbU,zav],by decide,by decide,by simp[zph],vlK (by kernel_rfl)⟩
def cg30:CqN 1 zpi:=⟨by simp[zpi,zbS,zav],by simp[zpi,zbU,zav],by decide,by decide,by simp[zpi],vlK (by kernel_rfl)⟩
def cg31:CqN 1 zpk:=⟨by simp[zpk,zbS,zav],by simp[zpk,zbU,zav],by decide,by decide,by simp[zpk],vlK (by kernel_rfl)⟩
def cg32:CqN 1 zpm:=⟨by simp[zpm,zbS,zav],by simp[zpm,zbU,zav],by decide,by decide,by simp[zpm],vlK (by kernel_rfl)⟩
def cg33:CqN 1 zpp:=⟨by simp[zpp,zbS,zav],by simp[zpp,zbU,zav],by decide,by decide,by simp[zpp],vlK (by kernel_rfl)⟩
def cg34:CqN 1 zpq:=⟨by simp[zpq,zbS,zav],by simp[zpq,zbU,zav],by decide,by decide,by simp[zpq],vlK (by kernel_rfl)⟩
def cg35:CqN 1 zpr:=⟨by simp[zpr,zbS,zav],by simp[zpr,zbU,zav],by decide,by decide,by simp[zpr],vlK (by kernel_rfl)⟩
def cg36:CqN 1 zpu:=⟨by simp[zpu,zbS,zav],by simp[zpu,zbU,zav],by decide,by decide,by simp[zpu],vlK (by kernel_rfl)⟩
def cg37:CqN 1 zpv:=⟨by simp[zpv,zbS,zav],by simp[zpv,zbU,zav],by decide,by decide,by simp[zpv],vlK (by kernel_rfl)⟩
def cqAll:∀c∈CQl,CqN 1 c:=allL (P:=CqN 1) (l:=CQl) ⟨cg0,cg1,cg2,cg3,cg4,cg5,cg6,cg7,cg8,cg9,cg10,cg11,cg12,cg13,cg14,cg15,cg16,cg17,cg18,cg19,cg20,cg21,cg22,cg23,cg24,cg25,cg26,cg27,cg28,cg29,cg30,cg31,cg32,cg33,cg34,cg35,cg36,cg37,trivial⟩
end Go.Proofs.YtlnfpifjdcmmlaaGreatDoor
