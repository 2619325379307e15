/- The conjunctive queries of the builder: what they are read from. Written by program. -/
import Derived.Test.YtimgcabgophnfaaGreatPb
import Derived.Test.YtimgcabgophnfaaGreatQr0
import Derived.Test.YtimgcabgophnfaaGreatQr1
set_option linter.all false
noncomputable section
namespace Go.Proofs.YtimgcabgophnfaaGreat
open Go Go.Vse Go.Vse.Sm
set_option maxRecDepth 100000
set_option maxHeartbeats 4000000
def AllL {α : Type} (P : α → Prop) : List α → Prop
 | [] => True
 | a :: l => P a ∧ AllL P l
theorem allL {α : Type} {P : α → Prop} : ∀ {l : List α},AllL P l → ∀ a ∈ l,P a
 | [],_,a,h => by simp at h
 | b :: l,h,a,ha => by
  rcases List.mem_cons.1 ha with rfl | ha
  ·exact h.1
  ·exact allL h.2 a ha
theorem mg {α : Type} {l : List α} (n : Nat) {a : α} (h : l[n]? = some a) : a ∈ l := List.mem_of_getElem? h
def cq0 : CQ := ⟨[⟨[82],false,[.var [120],.var [121]]⟩],[],false⟩
def cq1 : CQ := ⟨[⟨[82],false,[.var [120],.var [121]]⟩,⟨[83],false,[.var [121]]⟩],[],false⟩
def cq2 : CQ := ⟨[⟨[82],false,[.var [120],.var [121]]⟩,⟨[83],false,[.var [120]]⟩],[],false⟩
def cq3 : CQ := ⟨[⟨[82],false,[.var [120],.var [121]]⟩,⟨[75],false,[.var [121],.var [122]]⟩],[],false⟩
def cq4 : CQ := ⟨[⟨[75],false,[.var [120],.var [121]]⟩,⟨[83],false,[.var [121]]⟩],[],false⟩
def cq5 : CQ := ⟨[⟨[82],false,[.var [120],.var [121]]⟩,⟨[82],false,[.var [121],.var [122]]⟩],[],false⟩
def cq6 : CQ := ⟨[⟨[82],false,[.var [120],.var [121]]⟩,⟨[82],false,[.var [121],.var [120]]⟩],[],false⟩
def cq7 : CQ := ⟨[⟨[67],false,[.var [120],.var [121]]⟩,⟨[82],false,[.var [121],.var [122]]⟩],[],false⟩
def cq8 : CQ := ⟨[⟨[82],false,[.var [120],.var [121]]⟩,⟨[83],true,[.var [121]]⟩],[],false⟩
def cq9 : CQ := ⟨[⟨[83],false,[.var [120]]⟩,⟨[82],true,[.var [120],.cst 1]⟩],[],false⟩
def zkU : CQ := ⟨[⟨[83],false,[.var [120]]⟩,⟨[82],true,[.var [120],.cst 2]⟩],[],false⟩
def zmC : CQ := ⟨[⟨[83],false,[.var [120]]⟩,⟨[82],true,[.var [120],.cst 3]⟩],[],false⟩
def zo5 : CQ := ⟨[⟨[67],false,[.var [120],.var [121]]⟩,⟨[83],false,[.var [121]]⟩,⟨[75],true,[.var [120],.var [121]]⟩],[],false⟩
def zo9 : CQ := ⟨[⟨[82],false,[.var [120],.var [121]]⟩,⟨[83],false,[.var [120]]⟩,⟨[83],false,[.var [121]]⟩],[],false⟩
def zpz : CQ := ⟨[⟨[75],false,[.var [120],.var [121]]⟩,⟨[75],false,[.var [122],.var [121]]⟩],[],false⟩
def zkK : CQ := ⟨[⟨[82],false,[.var [120],.cst 1]⟩],[],false⟩
def zkt : CQ := ⟨[⟨[82],false,[.var [120],.cst 2]⟩],[],false⟩
def zmJ : CQ := ⟨[⟨[82],false,[.var [120],.cst 3]⟩],[],false⟩
def zll : CQ := ⟨[⟨[83],false,[.var [120]]⟩,⟨[75],false,[.var [120],.cst 1]⟩],[],false⟩
def zkz : CQ := ⟨[⟨[83],false,[.var [120]]⟩,⟨[75],false,[.var [120],.cst 2]⟩],[],false⟩
def zmF : CQ := ⟨[⟨[83],false,[.var [120]]⟩,⟨[75],false,[.var [120],.cst 3]⟩],[],false⟩
def zph : CQ := ⟨[⟨[82],false,[.var [120],.var [121]]⟩],[⟨3,.var [120],.var [121]⟩],false⟩
def zpN : CQ := ⟨[⟨[82],false,[.var [120],.var [121]]⟩,⟨[83],false,[.var [122]]⟩],[⟨2,.var [121],.var [122]⟩],false⟩
def zpG : CQ := ⟨[⟨[83],false,[.var [120]]⟩,⟨[83],false,[.var [121]]⟩],[⟨4,.var [120],.var [121]⟩],false⟩
def zo8 : CQ := ⟨[⟨[67],false,[.var [120],.var [121]]⟩,⟨[82],true,[.var [120],.var [121]]⟩],[],false⟩
def zpL : CQ := ⟨[⟨[82],false,[.var [120],.var [120]]⟩],[],false⟩
def zlA : CQ := ⟨[⟨[83],false,[.var [120]]⟩],[⟨1,.var [120],.cst 1⟩],false⟩
def zk1 : CQ := ⟨[⟨[83],false,[.var [120]]⟩],[⟨1,.var [120],.cst 2⟩],false⟩
def zno : CQ := ⟨[⟨[83],false,[.var [120]]⟩],[⟨1,.var [120],.cst 3⟩],false⟩
def zpH : CQ := ⟨[⟨[75],false,[.var [120],.var [121]]⟩,⟨[82],false,[.var [121],.var [122]]⟩,⟨[83],false,[.var [122]]⟩],[],false⟩
def zo1 : CQ := ⟨[⟨[82],false,[.var [120],.var [121]]⟩,⟨[82],false,[.var [120],.var [122]]⟩],[⟨3,.var [121],.var [122]⟩],false⟩
def zkV : CQ := ⟨[⟨[75],false,[.var [120],.cst 1]⟩,⟨[67],false,[.var [121],.var [120]]⟩],[],false⟩
def zk8 : CQ := ⟨[⟨[75],false,[.var [120],.cst 2]⟩,⟨[67],false,[.var [121],.var [120]]⟩],[],false⟩
def znh : CQ := ⟨[⟨[75],false,[.var [120],.cst 3]⟩,⟨[67],false,[.var [121],.var [120]]⟩],[],false⟩
def CQl : List CQ := [cq0,cq1,cq2,cq3,cq4,cq5,cq6,cq7,cq8,cq9,zkU,zmC,zo5,zo9,zpz,zkK,zkt,zmJ,zll,zkz,zmF,zph,zpN,zpG,zo8,zpL,zlA,zk1,zno,zpH,zo1,zkV,zk8,znh]
def pa0 : List UInt8 := [82,40,120,44,32,121,41]
def pa1 : List UInt8 := [82,40,120,44,32,121,41,44,32,83,40,121,41]
def pa2 : List UInt8 := [82,40,120,44,32,121,41,44,32,83,40,120,41]
def pa3 : List UInt8 := [82,40,120,44,32,121,41,44,32,75,40,121,44,32,122,41]
def pa4 : List UInt8 := [75,40,120,44,32,121,41,44,32,83,40,121,41]
def pa5 : List UInt8 := [82,40,120,44,32,121,41,44,32,82,40,121,44,32,122,41]
def pa6 : List UInt8 := [82,40,120,44,32,121,41,44,32,82,40,121,44,32,120,41]
def pa7 : List UInt8 := [67,40,120,44,32,121,41,44,32,82,40,121,44,32,122,41]
def pa8 : List UInt8 := [82,40,120,44,32,121,41,44,32,110,111,116,32,83,40,121,41]
def pa9 : List UInt8 := [83,40,120,41,44,32,110,111,116,32,82,40,120,44,32,64,41]
def zD8 : List UInt8 := [67,40,120,44,32,121,41,44,32,83,40,121,41,44,32,110,111,116,32,75,40,120,44,32,121,41]
def zDz : List UInt8 := [82,40,120,44,32,121,41,44,32,83,40,120,41,44,32,83,40,121,41]
def zCK : List UInt8 := [75,40,120,44,32,121,41,44,32,75,40,122,44,32,121,41]
def zDE : List UInt8 := [82,40,120,44,32,64,41]
def zDx : List UInt8 := [83,40,120,41,44,32,75,40,120,44,32,64,41]
def zEi : List UInt8 := [82,40,120,44,32,121,41,44,32,120,32,60,32,121]
def zDK : List UInt8 := [82,40,120,44,32,121,41,44,32,83,40,122,41,44,32,121,32,33,61,32,122]
def zD1 : List UInt8 := [83,40,120,41,44,32,83,40,121,41,44,32,120,32,60,61,32,121]
def zDn : List UInt8 := [67,40,120,44,32,121,41,44,32,110,111,116,32,82,40,120,44,32,121,41]
def zCI : List UInt8 := [82,40,120,44,32,120,41]
def zDW : List UInt8 := [83,40,120,41,44,32,120,32,61,32,64]
def zCl : List UInt8 := [75,40,120,44,32,121,41,44,32,82,40,121,44,32,122,41,44,32,83,40,122,41]
def zC4 : List UInt8 := [82,40,120,44,32,121,41,44,32,82,40,120,44,32,122,41,44,32,121,32,60,32,122]
def zD3 : List UInt8 := [75,40,120,44,32,64,41,44,32,67,40,121,44,32,120,41]
def paL : List (List F) := [[.s pa0],[.s pa1],[.s pa2],[.s pa3],[.s pa4],[.s pa5],[.s pa6],[.s pa7],[.s pa8],[.s pa9],[.s zD8],[.s zDz],[.s zCK],[.s zDE],[.s zDx],[.s zEi],[.s zDK],[.s zD1],[.s zDn],[.s zCI],[.s zDW],[.s zCl],[.s zC4],[.s zD3]]
theorem ans37 : Ans pr 37 [] (.sl 1 paL) := Qr189
theorem ans11 : Ans pr 11 [] (.b true) := Qr281
theorem rq {fs : List F} {y : F} {l : List EnP} (ha : zi6 pr l) (h : zxq (zy4 75557863725914323419136 l) pr 400 38 fs = some y) : Ans pr 38 fs y := zbS (e := (38,fs,y)) ha h
theorem aU {e : EnP} (h : zbO pr e) : zi6 pr [e] := ⟨h,trivial⟩
theorem rd0 (k : Nat) (_ : k < 8) : ∃ c ∈ CQl,Ans pr 38 [.s pa0,.i .i64 k] (.ag (cqF c)) := ⟨cq0,mg 0 rfl,rq (aU Qr13) (by kernel_rfl)⟩
theorem rd1 (k : Nat) (_ : k < 8) : ∃ c ∈ CQl,Ans pr 38 [.s pa1,.i .i64 k] (.ag (cqF c)) := ⟨cq1,mg 1 rfl,rq (aU Qr17) (by kernel_rfl)⟩
theorem rd2 (k : Nat) (_ : k < 8) : ∃ c ∈ CQl,Ans pr 38 [.s pa2,.i .i64 k] (.ag (cqF c)) := ⟨cq2,mg 2 rfl,rq (aU Qr19) (by kernel_rfl)⟩
theorem rd3 (k : Nat) (_ : k < 8) : ∃ c ∈ CQl,Ans pr 38 [.s pa3,.i .i64 k] (.ag (cqF c)) := ⟨cq3,mg 3 rfl,rq (aU Qr25) (by kernel_rfl)⟩
theorem rd4 (k : Nat) (_ : k < 8) : ∃ c ∈ CQl,Ans pr 38 [.s pa4,.i .i64 k] (.ag (cqF c)) := ⟨cq4,mg 4 rfl,rq (aU Qr27) (by kernel_rfl)⟩
theorem rd5 (k : Nat) (_ : k < 8) : ∃ c ∈ CQl,Ans pr 38 [.s pa5,.i .i64 k] (.ag (cqF c)) := ⟨cq5,mg 5 rfl,rq (aU Qr29) (by kernel_rfl)⟩
theorem rd6 (k : Nat) (_ : k < 8) : ∃ c ∈ CQl,Ans pr 38 [.s pa6,.i .i64 k] (.ag (cqF c)) := ⟨cq6,mg 6 rfl,rq (aU Qr31) (by kernel_rfl)⟩
theorem rd7 (k : Nat) (_ : k < 8) : ∃ c ∈ CQl,Ans pr 38 [.s pa7,.i .i64 k] (.ag (cqF c)) := ⟨cq7,mg 7 rfl,rq (aU Qr35) (by kernel_rfl)⟩
theorem rd8 (k : Nat) (_ : k < 8) : ∃ c ∈ CQl,Ans pr 38 [.s pa8,.i .i64 k] (.ag (cqF c)) := ⟨cq8,mg 8 rfl,rq (aU Qr42) (by kernel_rfl)⟩
theorem rd9 : ∀ k : Nat,k < 8 → ∃ c ∈ CQl,Ans pr 38 [.s pa9,.i .i64 k] (.ag (cqF c))
 | 0,_ => ⟨cq9,mg 9 rfl,rq (aU zCG) (by kernel_rfl)⟩
 | 1,_ => ⟨zkU,mg 10 rfl,rq (aU zDq) (by kernel_rfl)⟩
 | 2,_ => ⟨zmC,mg 11 rfl,rq (aU zHH) (by kernel_rfl)⟩
 | 3,_ => ⟨cq9,mg 9 rfl,rq (aU zCG) (by kernel_rfl)⟩
 | 4,_ => ⟨zkU,mg 10 rfl,rq (aU zDq) (by kernel_rfl)⟩
 | 5,_ => ⟨zmC,mg 11 rfl,rq (aU zHH) (by kernel_rfl)⟩
 | 6,_ => ⟨cq9,mg 9 rfl,rq (aU zCG) (by kernel_rfl)⟩
 | 7,_ => ⟨zkU,mg 10 rfl,rq (aU zDq) (by kernel_rfl)⟩
 | _ + 8,h => absurd h (by omega)
theorem rd10 (k : Nat) (_ : k < 8) : ∃ c ∈ CQl,Ans pr 38 [.s zD8,.i .i64 k] (.ag (cqF c)) := ⟨zo5,mg 12 rfl,rq (aU Qr116) (by kernel_rfl)⟩
theorem rd11 (k : Nat) (_ : k < 8) : ∃ c ∈ CQl,Ans pr 38 [.s zDz,.i .i64 k] (.ag (cqF c)) := ⟨zo9,mg 13 rfl,rq (aU Qr118) (by kernel_rfl)⟩
theorem rd12 (k : Nat) (_ : k < 8) : ∃ c ∈ CQl,Ans pr 38 [.s zCK,.i .i64 k] (.ag (cqF c)) := ⟨zpz,mg 14 rfl,rq (aU Qr120) (by kernel_rfl)⟩
theorem rd13 : ∀ k : Nat,k < 8 → ∃ c ∈ CQl,Ans pr 38 [.s zDE,.i .i64 k] (.ag (cqF c))
 | 0,_ => ⟨zkK,mg 15 rfl,rq (aU zxM) (by kernel_rfl)⟩
 | 1,_ => ⟨zkt,mg 16 rfl,rq (aU zwR) (by kernel_rfl)⟩
 | 2,_ => ⟨zmJ,mg 17 rfl,rq (aU zFY) (by kernel_rfl)⟩
 | 3,_ => ⟨zkK,mg 15 rfl,rq (aU zxM) (by kernel_rfl)⟩
 | 4,_ => ⟨zkt,mg 16 rfl,rq (aU zwR) (by kernel_rfl)⟩
 | 5,_ => ⟨zmJ,mg 17 rfl,rq (aU zFY) (by kernel_rfl)⟩
 | 6,_ => ⟨zkK,mg 15 rfl,rq (aU zxM) (by kernel_rfl)⟩
 | 7,_ => ⟨zkt,mg 16 rfl,rq (aU zwR) (by kernel_rfl)⟩
 | _ + 8,h => absurd h (by omega)
theorem rd14 : ∀ k : Nat,k < 8 → ∃ c ∈ CQl,Ans pr 38 [.s zDx,.i .i64 k] (.ag (cqF c))
 | 0,_ => ⟨zll,mg 18 rfl,rq (aU zyO) (by kernel_rfl)⟩
 | 1,_ => ⟨zkz,mg 19 rfl,rq (aU zwW) (by kernel_rfl)⟩
 | 2,_ => ⟨zmF,mg 20 rfl,rq (aU zGW) (by kernel_rfl)⟩
 | 3,_ => ⟨zll,mg 18 rfl,rq (aU zyO) (by kernel_rfl)⟩
 | 4,_ => ⟨zkz,mg 19 rfl,rq (aU zwW) (by kernel_rfl)⟩
 | 5,_ => ⟨zmF,mg 20 rfl,rq (aU zGW) (by kernel_rfl)⟩
 | 6,_ => ⟨zll,mg 18 rfl,rq (aU zyO) (by kernel_rfl)⟩
 | 7,_ => ⟨zkz,mg 19 rfl,rq (aU zwW) (by kernel_rfl)⟩
 | _ + 8,h => absurd h (by omega)
theorem rd15 (k : Nat) (_ : k < 8) : ∃ c ∈ CQl,Ans pr 38 [.s zEi,.i .i64 k] (.ag (cqF c)) := ⟨zph,mg 21 rfl,rq (aU Qr148) (by kernel_rfl)⟩
theorem rd16 (k : Nat) (_ : k < 8) : ∃ c ∈ CQl,Ans pr 38 [.s zDK,.i .i64 k] (.ag (cqF c)) := ⟨zpN,mg 22 rfl,rq (aU Qr152) (by kernel_rfl)⟩
theorem rd17 (k : Nat) (_ : k < 8) : ∃ c ∈ CQl,Ans pr 38 [.s zD1,.i .i64 k] (.ag (cqF c)) := ⟨zpG,mg 23 rfl,rq (aU Qr154) (by kernel_rfl)⟩
theorem rd18 (k : Nat) (_ : k < 8) : ∃ c ∈ CQl,Ans pr 38 [.s zDn,.i .i64 k] (.ag (cqF c)) := ⟨zo8,mg 24 rfl,rq (aU Qr156) (by kernel_rfl)⟩
theorem rd19 (k : Nat) (_ : k < 8) : ∃ c ∈ CQl,Ans pr 38 [.s zCI,.i .i64 k] (.ag (cqF c)) := ⟨zpL,mg 25 rfl,rq (aU Qr158) (by kernel_rfl)⟩
theorem rd20 : ∀ k : Nat,k < 8 → ∃ c ∈ CQl,Ans pr 38 [.s zDW,.i .i64 k] (.ag (cqF c))
 | 0,_ => ⟨zlA,mg 26 rfl,rq (aU zxC) (by kernel_rfl)⟩
 | 1,_ => ⟨zk1,mg 27 rfl,rq (aU zxW) (by kernel_rfl)⟩
 | 2,_ => ⟨zno,mg 28 rfl,rq (aU zHw) (by kernel_rfl)⟩
 | 3,_ => ⟨zlA,mg 26 rfl,rq (aU zxC) (by kernel_rfl)⟩
 | 4,_ => ⟨zk1,mg 27 rfl,rq (aU zxW) (by kernel_rfl)⟩
 | 5,_ => ⟨zno,mg 28 rfl,rq (aU zHw) (by kernel_rfl)⟩
 | 6,_ => ⟨zlA,mg 26 rfl,rq (aU zxC) (by kernel_rfl)⟩
 | 7,_ => ⟨zk1,mg 27 rfl,rq (aU zxW) (by kernel_rfl)⟩
 | _ + 8,h => absurd h (by omega)
theorem rd21 (k : Nat) (_ : k < 8) : ∃ c ∈ CQl,Ans pr 38 [.s zCl,.i .i64 k] (.ag (cqF c)) := ⟨zpH,mg 29 rfl,rq (aU Qr174) (by kernel_rfl)⟩
theorem rd22 (k : Nat) (_ : k < 8) : ∃ c ∈ CQl,Ans pr 38 [.s zC4,.i .i64 k] (.ag (cqF c)) := ⟨zo1,mg 30 rfl,rq (aU Qr176) (by kernel_rfl)⟩
theorem rd23 : ∀ k : Nat,k < 8 → ∃ c ∈ CQl,Ans pr 38 [.s zD3,.i .i64 k] (.ag (cqF c))
 | 0,_ => ⟨zkV,mg 31 rfl,rq (aU zwO) (by kernel_rfl)⟩
 | 1,_ => ⟨zk8,mg 32 rfl,rq (aU zw6) (by kernel_rfl)⟩
 | 2,_ => ⟨znh,mg 33 rfl,rq (aU zHR) (by kernel_rfl)⟩
 | 3,_ => ⟨zkV,mg 31 rfl,rq (aU zwO) (by kernel_rfl)⟩
 | 4,_ => ⟨zk8,mg 32 rfl,rq (aU zw6) (by kernel_rfl)⟩
 | 5,_ => ⟨znh,mg 33 rfl,rq (aU zHR) (by kernel_rfl)⟩
 | 6,_ => ⟨zkV,mg 31 rfl,rq (aU zwO) (by kernel_rfl)⟩
 | 7,_ => ⟨zk8,mg 32 rfl,rq (aU zw6) (by kernel_rfl)⟩
 | _ + 8,h => absurd h (by omega)
theorem rdAll (j : Nat) (hj : j < 24) (k : Nat) (hk : k < 8) : ∃ c ∈ CQl,∃ p,paL[j]? = some [.s p] ∧ Ans pr 38 [.s p,.i .i64 k] (.ag (cqF c)) := by
 match j,hj with
 | 0,_ => obtain ⟨c,h1,h2⟩ := rd0 k hk; exact ⟨c,h1,pa0,rfl,h2⟩
 | 1,_ => obtain ⟨c,h1,h2⟩ := rd1 k hk; exact ⟨c,h1,pa1,rfl,h2⟩
 | 2,_ => obtain ⟨c,h1,h2⟩ := rd2 k hk; exact ⟨c,h1,pa2,rfl,h2⟩
 | 3,_ => obtain ⟨c,h1,h2⟩ := rd3 k hk; exact ⟨c,h1,pa3,rfl,h2⟩
 | 4,_ => obtain ⟨c,h1,h2⟩ := rd4 k hk; exact ⟨c,h1,pa4,rfl,h2⟩
 | 5,_ => obtain ⟨c,h1,h2⟩ := rd5 k hk; exact ⟨c,h1,pa5,rfl,h2⟩
 | 6,_ => obtain ⟨c,h1,h2⟩ := rd6 k hk; exact ⟨c,h1,pa6,rfl,h2⟩
 | 7,_ => obtain ⟨c,h1,h2⟩ := rd7 k hk; exact ⟨c,h1,pa7,rfl,h2⟩
 | 8,_ => obtain ⟨c,h1,h2⟩ := rd8 k hk; exact ⟨c,h1,pa8,rfl,h2⟩
 | 9,_ => obtain ⟨c,h1,h2⟩ := rd9 k hk; exact ⟨c,h1,pa9,rfl,h2⟩
 | 10,_ => obtain ⟨c,h1,h2⟩ := rd10 k hk; exact ⟨c,h1,zD8,rfl,h2⟩
 | 11,_ => obtain ⟨c,h1,h2⟩ := rd11 k hk; exact ⟨c,h1,zDz,rfl,h2⟩
 | 12,_ => obtain ⟨c,h1,h2⟩ := rd12 k hk; exact ⟨c,h1,zCK,rfl,h2⟩
 | 13,_ => obtain ⟨c,h1,h2⟩ := rd13 k hk; exact ⟨c,h1,zDE,rfl,h2⟩
 | 14,_ => obtain ⟨c,h1,h2⟩ := rd14 k hk; exact ⟨c,h1,zDx,rfl,h2⟩
 | 15,_ => obtain ⟨c,h1,h2⟩ := rd15 k hk; exact ⟨c,h1,zEi,rfl,h2⟩
 | 16,_ => obtain ⟨c,h1,h2⟩ := rd16 k hk; exact ⟨c,h1,zDK,rfl,h2⟩
 | 17,_ => obtain ⟨c,h1,h2⟩ := rd17 k hk; exact ⟨c,h1,zD1,rfl,h2⟩
 | 18,_ => obtain ⟨c,h1,h2⟩ := rd18 k hk; exact ⟨c,h1,zDn,rfl,h2⟩
 | 19,_ => obtain ⟨c,h1,h2⟩ := rd19 k hk; exact ⟨c,h1,zCI,rfl,h2⟩
 | 20,_ => obtain ⟨c,h1,h2⟩ := rd20 k hk; exact ⟨c,h1,zDW,rfl,h2⟩
 | 21,_ => obtain ⟨c,h1,h2⟩ := rd21 k hk; exact ⟨c,h1,zCl,rfl,h2⟩
 | 22,_ => obtain ⟨c,h1,h2⟩ := rd22 k hk; exact ⟨c,h1,zC4,rfl,h2⟩
 | 23,_ => obtain ⟨c,h1,h2⟩ := rd23 k hk; exact ⟨c,h1,zD3,rfl,h2⟩
 | _ + 24,h => omega
structure CqN (n : Nat) (c : CQ) : Prop where
 al : ∀ a ∈ c.as,zb8 a ∧ a.ts.length ≤ 2
 cs : ∀ k ∈ c.cs,zb7 k
 la : c.as.length ≤ 3 * n
 lc : c.cs.length ≤ n
 ne : c.as ≠ []
theorem cg0 : CqN 1 cq0 := ⟨by simp [cq0,zb8,zau],by simp [cq0,zb7,zau],by decide,by decide,by simp [cq0]⟩
theorem cg1 : CqN 1 cq1 := ⟨by simp [cq1,zb8,zau],by simp [cq1,zb7,zau],by decide,by decide,by simp [cq1]⟩
theorem cg2 : CqN 1 cq2 := ⟨by simp [cq2,zb8,zau],by simp [cq2,zb7,zau],by decide,by decide,by simp [cq2]⟩
theorem cg3 : CqN 1 cq3 := ⟨by simp [cq3,zb8,zau],by simp [cq3,zb7,zau],by decide,by decide,by simp [cq3]⟩
theorem cg4 : CqN 1 cq4 := ⟨by simp [cq4,zb8,zau],by simp [cq4,zb7,zau],by decide,by decide,by simp [cq4]⟩
theorem cg5 : CqN 1 cq5 := ⟨by simp [cq5,zb8,zau],by simp [cq5,zb7,zau],by decide,by decide,by simp [cq5]⟩
theorem cg6 : CqN 1 cq6 := ⟨by simp [cq6,zb8,zau],by simp [cq6,zb7,zau],by decide,by decide,by simp [cq6]⟩
theorem cg7 : CqN 1 cq7 := ⟨by simp [cq7,zb8,zau],by simp [cq7,zb7,zau],by decide,by decide,by simp [cq7]⟩
theorem cg8 : CqN 1 cq8 := ⟨by simp [cq8,zb8,zau],by simp [cq8,zb7,zau],by decide,by decide,by simp [cq8]⟩
theorem cg9 : CqN 1 cq9 := ⟨by simp [cq9,zb8,zau],by simp [cq9,zb7,zau],by decide,by decide,by simp [cq9]⟩
theorem cg10 : CqN 1 zkU := ⟨by simp [zkU,zb8,zau],by simp [zkU,zb7,zau],by decide,by decide,by simp [zkU]⟩
theorem cg11 : CqN 1 zmC := ⟨by simp [zmC,zb8,zau],by simp [zmC,zb7,zau],by decide,by decide,by simp [zmC]⟩
theorem cg12 : CqN 1 zo5 := ⟨by simp [zo5,zb8,zau],by simp [zo5,zb7,zau],by decide,by decide,by simp [zo5]⟩
theorem cg13 : CqN 1 zo9 := ⟨by simp [zo9,zb8,zau],by simp [zo9,zb7,zau],by decide,by decide,by simp [zo9]⟩
theorem cg14 : CqN 1 zpz := ⟨by simp [zpz,zb8,zau],by simp [zpz,zb7,zau],by decide,by decide,by simp [zpz]⟩
theorem cg15 : CqN 1 zkK := ⟨by simp [zkK,zb8,zau],by simp [zkK,zb7,zau],by decide,by decide,by simp [zkK]⟩
theorem cg16 : CqN 1 zkt := ⟨by simp [zkt,zb8,zau],by simp [zkt,zb7,zau],by decide,by decide,by simp [zkt]⟩
theorem cg17 : CqN 1 zmJ := ⟨by simp [zmJ,zb8,zau],by simp [zmJ,zb7,zau],by decide,by decide,by simp [zmJ]⟩
theorem cg18 : CqN 1 zll := ⟨by simp [zll,zb8,zau],by simp [zll,zb7,zau],by decide,by decide,by simp [zll]⟩
theorem cg19 : CqN 1 zkz := ⟨by simp [zkz,zb8,zau],by simp [zkz,zb7,zau],by decide,by decide,by simp [zkz]⟩
theorem cg20 : CqN 1 zmF := ⟨by simp [zmF,zb8,zau],by simp [zmF,zb7,zau],by decide,by decide,by simp [zmF]⟩
theorem cg21 : CqN 1 zph := ⟨by simp [zph,zb8,zau],by simp [zph,zb7,zau],by decide,by decide,by simp [zph]⟩
theorem cg22 : CqN 1 zpN := ⟨by simp [zpN,zb8,zau],by simp [zpN,zb7,zau],by decide,by decide,by simp [zpN]⟩
theorem cg23 : CqN 1 zpG := ⟨by simp [zpG,zb8,zau],by simp [zpG,zb7,zau],by decide,by decide,by simp [zpG]⟩
theorem cg24 : CqN 1 zo8 := ⟨by simp [zo8,zb8,zau],by simp [zo8,zb7,zau],by decide,by decide,by simp [zo8]⟩
theorem cg25 : CqN 1 zpL := ⟨by simp [zpL,zb8,zau],by simp [zpL,zb7,zau],by decide,by decide,by simp [zpL]⟩
theorem cg26 : CqN 1 zlA := ⟨by simp [zlA,zb8,zau],by simp [zlA,zb7,zau],by decide,by decide,by simp [zlA]⟩
theorem cg27 : CqN 1 zk1 := ⟨by simp [zk1,zb8,zau],by simp [zk1,zb7,zau],by decide,by decide,by simp [zk1]⟩
theorem cg28 : CqN 1 zno := ⟨by simp [zno,zb8,zau],by simp [zno,zb7,zau],by decide,by decide,by simp [zno]⟩
theorem cg29 : CqN 1 zpH := ⟨by simp [zpH,zb8,zau],by simp [zpH,zb7,zau],by decide,by decide,by simp [zpH]⟩
theorem cg30 : CqN 1 zo1 := ⟨by simp [zo1,zb8,zau],by simp [zo1,zb7,zau],by decide,by decide,by simp [zo1]⟩
theorem cg31 : CqN 1 zkV := ⟨by simp [zkV,zb8,zau],by simp [zkV,zb7,zau],by decide,by decide,by simp [zkV]⟩
theorem cg32 : CqN 1 zk8 := ⟨by simp [zk8,zb8,zau],by simp [zk8,zb7,zau],by decide,by decide,by simp [zk8]⟩
theorem cg33 : CqN 1 znh := ⟨by simp [znh,zb8,zau],by simp [znh,zb7,zau],by decide,by decide,by simp [znh]⟩
theorem zHu : ∀ c ∈ CQl,CqN 1 c := allL (P := CqN 1) (l := CQl) ⟨cg0,cg1,cg2,cg3,cg4,cg5,cg6,cg7,cg8,cg9,cg10,cg11,cg12,cg13,cg14,cg15,cg16,cg17,cg18,cg19,cg20,cg21,cg22,cg23,cg24,cg25,cg26,cg27,cg28,cg29,cg30,cg31,cg32,cg33,trivial⟩
end Go.Proofs.YtimgcabgophnfaaGreat
