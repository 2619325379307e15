/- Tables joined; runs that take their answers from them. Written by program. -/
import Derived.Test.YtbhholaillniiaaGreatDoorPb
import Derived.Test.YtbhholaillniiaaGreatDoorPc
import Derived.Test.YtbhholaillniiaaGreatDoorPd
import Derived.KernelRfl
set_option linter.all false
set_option maxRecDepth 100000
set_option maxHeartbeats 4000000
noncomputable section
namespace Go.Proofs.YtbhholaillniiaaGreatDoor
open Go Go.Vse Go.Vse.Sm
def gAll:zat (zat PG) GT:=⟨gA0,gA1,gA2,gA3,gA4,gA5,gA6,gA7,trivial⟩
def vAll:zat (zat PV) VT:=⟨vA0,vA1,vA2,vA3,vA4,vA5,vA6,vA7,vA8,vA9,vA10,vA11,vA12,trivial⟩
def zG:zk3 pr (eG .nils 0 1):=rA
def zV:zk3 pr (eV .nils 0 1):=rA
def tM(T:List (List (Nat×Nat)))(x y:Nat):Bool:=T.any (mmN (x,y))
def tN(T:List (List (Nat×Nat)))(x y:Nat):Bool:=tM T x y&&(Nat.blt 0 x||Nat.beq y 1)
def zDX{T:List (List (Nat×Nat))}{x y:Nat}{P:Nat×Nat->Prop}(h:tM T x y=true)(hT:zat (zat P) T):P (x,y):=by
 obtain⟨l,hl,h2⟩ :=Z30.1 h;exact allL (allL hT l hl) _ (zfx h2)
def gM{x y:Nat}(h:tM GT x y=true):zk3 pr (eG (frM x) x y):=zDX h gAll
def vM{x y:Nat}(h:tM VT x y=true):zk3 pr (eV (frM x) x y):=zDX h vAll
def gN{x y:Nat}(h:tN GT x y=true):zk3 pr (eG (zex x) x y):=by
 rw[tN,Z14]at h;cases x with
 |zero=>
  have:y=1:=Z88 (by simpa [Nat.blt]using h.2);subst this;exact zG
 |succ x=>exact gM h.1
def vN{x y:Nat}(h:tN VT x y=true):zk3 pr (eV (zex x) x y):=by
 rw[tN,Z14]at h;cases x with
 |zero=>
  have:y=1:=Z88 (by simpa [Nat.blt]using h.2);subst this;exact zV
 |succ x=>exact vM h.1
def lS(s:Nat×Nat):List EnP:=[eG (zex s.1) s.1 s.2,eV (zex s.1) s.1 1,eV (zex s.2) s.2 1]
def kS(s:Nat×Nat):Bool:=tN GT s.1 s.2&&(tN VT s.1 1&&tN VT s.2 1)
def lF(n d:Nat):List EnP:=[eG (frM n) n d,eV (frM n) n (Nat.gcd n d),eV (zex d) d (Nat.gcd n d)]
def kF(n d:Nat):Bool:=tM GT n d&&(tM VT n (Nat.gcd n d)&&tN VT d (Nat.gcd n d))
theorem ziS:∀{l m:List EnP},zgg pr l->zgg pr m->zgg pr (l++m)
 |[],_,_,h=>h
 |_::_,_,h,h2=>⟨h.1,ziS h.2 h2⟩
def znq{s:Nat×Nat}(h:kS s=true):zgg pr (lS s):=by
 rw[kS,Z14,Z14]at h;exact⟨gN h.1,vN h.2.1,vN h.2.2,trivial⟩
def zH0{n d:Nat}(h:kF n d=true):zgg pr (lF n d):=by
 rw[kF,Z14,Z14]at h;exact⟨gM h.1,vM h.2.1,vN h.2.2,trivial⟩
def zoh(l:List EnP):Orc:=zFA 118842243771396506390315925504 l
def zre{f:Nat}{fs:List F}{x:F}{l:List EnP}(hl:zgg pr l)(h:zjo (zoh l) pr 400 f fs=some x):Ans pr f fs x:=zlJ (zKF hl) h
def uA_of{s p:Nat×Nat}(h1:kS s=true:=by kernel_rfl)(h2:kS p=true:=by kernel_rfl)(h3:kF (s.1*p.2+p.1*s.2) (s.2*p.2)=true:=by kernel_rfl)(h:zjo (zoh (lS s++(lS p++lF (s.1*p.2+p.1*s.2) (s.2*p.2)))) pr 400 172 [.ag (fr s),.ag (fr p)]=some (.ag (fr (adN s p))):=by kernel_rfl):UA s p:=
 zre (ziS (znq h1) (ziS (znq h2) (zH0 h3))) h
def uAr{s:Nat×Nat}(h:zat (UA s) PN:=by repeat (first|exact trivial|refine And.intro uA_of ?_)):zat (UA s) PN:=h
def ab1(s:Nat×Nat):Nat:=bif le1 s then s.2 - s.1 else s.1 - s.2
def rd1(s:Nat×Nat):Nat×Nat:=(ab1 s/Nat.gcd (ab1 s) s.2,s.2/Nat.gcd (ab1 s) s.2)
def lI(s:Nat×Nat):List EnP:=lS (1,1)++(lS s++(lF (ab1 s) s.2++lS (rd1 s)))
def kI(s:Nat×Nat):Bool:=kS (1,1)&&(kS s&&(kF (ab1 s) s.2&&kS (rd1 s)))
def zsL{s:Nat×Nat}(h:kI s=true):zgg pr (lI s):=by
 rw[kI,Z14,Z14,Z14]at h;exact ziS (znq h.1) (ziS (znq h.2.1) (ziS (zH0 h.2.2.1) (znq h.2.2.2)))
def zaC{s:Nat×Nat}(h1:kI s=true:=by kernel_rfl)(h:zjo (zoh (lI s)) pr 400 100 [.ag (fr s)]=some (.b (le1 s)):=by kernel_rfl):UI s:=zre (zsL h1) h
end Go.Proofs.YtbhholaillniiaaGreatDoor
