/- Tables joined; runs that take their answers from them. Written by program. -/
import Derived.Test.YtdlcolcidohbkaaGreatDoorPb
import Derived.Test.YtdlcolcidohbkaaGreatDoorPc
import Derived.Test.YtdlcolcidohbkaaGreatDoorPd
import Derived.KernelRfl
set_option linter.all false
set_option maxRecDepth 100000
set_option maxHeartbeats 4000000
noncomputable section
namespace Go.Proofs.YtdlcolcidohbkaaGreatDoor
open Go Go.Vse Go.Vse.Sm
def gAll:zaF (zaF PG) GT:=⟨gA0,gA1,gA2,gA3,gA4,gA5,gA6,gA7,trivial⟩
def vAll:zaF (zaF PV) VT:=⟨vA0,vA1,vA2,vA3,vA4,vA5,vA6,vA7,vA8,vA9,vA10,vA11,vA12,trivial⟩
def zG:zl2 pr (eG .nils 0 1):=rA
def zV:zl2 pr (eV .nils 0 1):=rA
def tM(T:List (List (Nat×Nat)))(x y:Nat):Bool:=T.any (mmN (x,y))
def tN(T:List (List (Nat×Nat)))(x y:Nat):Bool:=tM T x y&&(Nat.blt 0 x||Nat.beq y 1)
def zDd{T:List (List (Nat×Nat))}{x y:Nat}{P:Nat×Nat->Prop}(h:tM T x y=true)(hT:zaF (zaF P) T):P (x,y):=by
 obtain⟨l,hl,h2⟩ :=Z30.1 h;exact allL (allL hT l hl) _ (zfG h2)
def gM{x y:Nat}(h:tM GT x y=true):zl2 pr (eG (frM x) x y):=zDd h gAll
def vM{x y:Nat}(h:tM VT x y=true):zl2 pr (eV (frM x) x y):=zDd h vAll
def gN{x y:Nat}(h:tN GT x y=true):zl2 pr (eG (zeE x) x y):=by
 rw[tN,Z14]at h;cases x with
 |zero=>
  have:y=1:=Z88 (by simpa [Nat.blt]using h.2);subst this;exact zG
 |succ x=>exact gM h.1
def vN{x y:Nat}(h:tN VT x y=true):zl2 pr (eV (zeE x) x y):=by
 rw[tN,Z14]at h;cases x with
 |zero=>
  have:y=1:=Z88 (by simpa [Nat.blt]using h.2);subst this;exact zV
 |succ x=>exact vM h.1
def lS(s:Nat×Nat):List EnP:=[eG (zeE s.1) s.1 s.2,eV (zeE s.1) s.1 1,eV (zeE s.2) s.2 1]
def kS(s:Nat×Nat):Bool:=tN GT s.1 s.2&&(tN VT s.1 1&&tN VT s.2 1)
def lF(n d:Nat):List EnP:=[eG (frM n) n d,eV (frM n) n (Nat.gcd n d),eV (zeE d) d (Nat.gcd n d)]
def kF(n d:Nat):Bool:=tM GT n d&&(tM VT n (Nat.gcd n d)&&tN VT d (Nat.gcd n d))
theorem zjO:∀{l m:List EnP},zgD pr l->zgD pr m->zgD pr (l++m)
 |[],_,_,h=>h
 |_::_,_,h,h2=>⟨h.1,zjO h.2 h2⟩
def zov{s:Nat×Nat}(h:kS s=true):zgD pr (lS s):=by
 rw[kS,Z14,Z14]at h;exact⟨gN h.1,vN h.2.1,vN h.2.2,trivial⟩
def zGL{n d:Nat}(h:kF n d=true):zgD pr (lF n d):=by
 rw[kF,Z14,Z14]at h;exact⟨gM h.1,vM h.2.1,vN h.2.2,trivial⟩
def zpy(l:List EnP):Orc:=zEG 1813388729421943762059264 l
def zrV{f:Nat}{fs:List F}{x:F}{l:List EnP}(hl:zgD pr l)(h:zkC (zpy l) pr 400 f fs=some x):Ans pr f fs x:=zgn (zJw hl) h
def uA_of{s p:Nat×Nat}(h1:kS s=true:=by kernel_rfl)(h2:kS p=true:=by kernel_rfl)(h3:kF (s.1*p.2+p.1*s.2) (s.2*p.2)=true:=by kernel_rfl)(h:zkC (zpy (lS s++(lS p++lF (s.1*p.2+p.1*s.2) (s.2*p.2)))) pr 400 159 [.ag (fr s),.ag (fr p)]=some (.ag (fr (adN s p))):=by kernel_rfl):UA s p:=
 zrV (zjO (zov h1) (zjO (zov h2) (zGL h3))) h
def uAr{s:Nat×Nat}(h:zaF (UA s) PN:=by repeat (first|exact trivial|refine And.intro uA_of ?_)):zaF (UA s) PN:=h
def ab1(s:Nat×Nat):Nat:=bif le1 s then s.2 - s.1 else s.1 - s.2
def rd1(s:Nat×Nat):Nat×Nat:=(ab1 s/Nat.gcd (ab1 s) s.2,s.2/Nat.gcd (ab1 s) s.2)
def lI(s:Nat×Nat):List EnP:=lS (1,1)++(lS s++(lF (ab1 s) s.2++lS (rd1 s)))
def kI(s:Nat×Nat):Bool:=kS (1,1)&&(kS s&&(kF (ab1 s) s.2&&kS (rd1 s)))
def zto{s:Nat×Nat}(h:kI s=true):zgD pr (lI s):=by
 rw[kI,Z14,Z14,Z14]at h;exact zjO (zov h.1) (zjO (zov h.2.1) (zjO (zGL h.2.2.1) (zov h.2.2.2)))
def zaB{s:Nat×Nat}(h1:kI s=true:=by kernel_rfl)(h:zkC (zpy (lI s)) pr 400 83 [.ag (fr s)]=some (.b (le1 s)):=by kernel_rfl):UI s:=zrV (zto h1) h
end Go.Proofs.YtdlcolcidohbkaaGreatDoor
