/- Tables joined; runs that take their answers from them. Written by program. -/
import Derived.Test.YtlinkhjnihjbaaaGreatDoorPb
import Derived.Test.YtlinkhjnihjbaaaGreatDoorPc
import Derived.Test.YtlinkhjnihjbaaaGreatDoorPd
import Derived.Test.YtlinkhjnihjbaaaGreatDoorPe
import Derived.Test.YtlinkhjnihjbaaaGreatDoorPf
import Derived.Test.YtlinkhjnihjbaaaGreatDoorPg
import Derived.KernelRfl
set_option linter.all false
set_option maxRecDepth 100000
set_option maxHeartbeats 4000000
noncomputable section
namespace Go.Proofs.YtlinkhjnihjbaaaGreatDoor
open Go Go.Vse Go.Vse.Sm
def gAll:zaL (zaL PG) GT:=⟨gA0,gA1,gA2,gA3,gA4,gA5,gA6,gA7,trivial⟩
def vAll:zaL (zaL PV) VT:=⟨vA0,vA1,vA2,vA3,vA4,vA5,vA6,vA7,vA8,vA9,vA10,vA11,vA12,trivial⟩
def zG:zav pr (eG .nils 0 1):=zab (n:=1000) (zad pr) (by kernel_rfl)
def zV:zav pr (eV .nils 0 1):=zab (n:=1000) (zad pr) (by kernel_rfl)
def tM(T:List (List (Nat×Nat)))(x y:Nat):Bool:=T.any (mmN (x,y))
def tN(T:List (List (Nat×Nat)))(x y:Nat):Bool:=tM T x y&&(Nat.blt 0 x||Nat.beq y 1)
def zCr{T:List (List (Nat×Nat))}{x y:Nat}{P:Nat×Nat->Prop}(h:tM T x y=true)(hT:zaL (zaL P) T):P (x,y):=by
 obtain⟨l,hl,h2⟩ :=Z30.1 h;exact allL (allL hT l hl) _ (ze8 h2)
def gM{x y:Nat}(h:tM GT x y=true):zav pr (eG (frM x) x y):=zCr h gAll
def vM{x y:Nat}(h:tM VT x y=true):zav pr (eV (frM x) x y):=zCr h vAll
def gN{x y:Nat}(h:tN GT x y=true):zav pr (eG (frN x) x y):=by
 rw[tN,Z14]at h;cases x with
 |zero=>
  have:y=1:=Z88 (by simpa [Nat.blt]using h.2);subst this;exact zG
 |succ x=>exact gM h.1
def vN{x y:Nat}(h:tN VT x y=true):zav pr (eV (frN x) x y):=by
 rw[tN,Z14]at h;cases x with
 |zero=>
  have:y=1:=Z88 (by simpa [Nat.blt]using h.2);subst this;exact zV
 |succ x=>exact vM h.1
def lS(s:Nat×Nat):List EnP:=[eG (frN s.1) s.1 s.2,eV (frN s.1) s.1 1,eV (frN s.2) s.2 1]
def kS(s:Nat×Nat):Bool:=tN GT s.1 s.2&&(tN VT s.1 1&&tN VT s.2 1)
def lF(n d:Nat):List EnP:=[eG (frM n) n d,eV (frM n) n (Nat.gcd n d),eV (frN d) d (Nat.gcd n d)]
def kF(n d:Nat):Bool:=tM GT n d&&(tM VT n (Nat.gcd n d)&&tN VT d (Nat.gcd n d))
theorem zh4:∀{l m:List EnP},zeW pr l->zeW pr m->zeW pr (l++m)
 |[],_,_,h=>h
 |_::_,_,h,h2=>⟨h.1,zh4 h.2 h2⟩
def zfJ{s:Nat×Nat}(h:kS s=true):zeW pr (lS s):=by
 rw[kS,Z14,Z14]at h;exact⟨gN h.1,vN h.2.1,vN h.2.2,trivial⟩
def zGk{n d:Nat}(h:kF n d=true):zeW pr (lF n d):=by
 rw[kF,Z14,Z14]at h;exact⟨gM h.1,vM h.2.1,vN h.2.2,trivial⟩
def zDS(l:List EnP):Orc:=zuU 18389946490390666300300164325803710203424869466203226112 l
def za2{f:Nat}{fs:List F}{x:F}{l:List EnP}(hl:zeW pr l)(h:zn4 (zDS l) pr 400 f fs=some x):Ans pr f fs x:=zab (zwZ hl) h
def zcs(s p:Nat×Nat)(h1:kS s=true)(h2:kS p=true)(h3:kF (s.1*p.2+p.1*s.2) (s.2*p.2)=true)(h:zn4 (zDS (lS s++(lS p++lF (s.1*p.2+p.1*s.2) (s.2*p.2)))) pr 400 192 [.ag (fr s),.ag (fr p)]=some (.ag (fr (adN s p)))):UA s p:=
 za2 (zh4 (zfJ h1) (zh4 (zfJ h2) (zGk h3))) h
def ab1(s:Nat×Nat):Nat:=bif le1 s then s.2 - s.1 else s.1 - s.2
def rd1(s:Nat×Nat):Nat×Nat:=(ab1 s/Nat.gcd (ab1 s) s.2,s.2/Nat.gcd (ab1 s) s.2)
def lI(s:Nat×Nat):List EnP:=lS (1,1)++(lS s++(lF (ab1 s) s.2++lS (rd1 s)))
def kI(s:Nat×Nat):Bool:=kS (1,1)&&(kS s&&(kF (ab1 s) s.2&&kS (rd1 s)))
def zaS{s:Nat×Nat}(h:kI s=true):zeW pr (lI s):=by
 rw[kI,Z14,Z14,Z14]at h;exact zh4 (zfJ h.1) (zh4 (zfJ h.2.1) (zh4 (zGk h.2.2.1) (zfJ h.2.2.2)))
def zaF(s:Nat×Nat)(h1:kI s=true)(h:zn4 (zDS (lI s)) pr 400 103 [.ag (fr s)]=some (.b (le1 s))):UI s:=za2 (zaS h1) h
end Go.Proofs.YtlinkhjnihjbaaaGreatDoor
