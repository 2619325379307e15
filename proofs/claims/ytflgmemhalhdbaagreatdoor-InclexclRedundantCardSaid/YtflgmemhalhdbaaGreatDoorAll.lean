/- The evaluator's list of functions fits the program. Written by program. -/
import Derived.Test.YtflgmemhalhdbaaGreatDoorOk0
import Derived.Test.YtflgmemhalhdbaaGreatDoorOk1
import Derived.Test.YtflgmemhalhdbaaGreatDoorOk2
import Derived.Test.YtflgmemhalhdbaaGreatDoorOk3
import Derived.WalkKit
import Derived.Lib.Walk
set_option linter.all false
namespace Go.Proofs.YtflgmemhalhdbaaGreatDoor
open Go.Vse
open Go (BinOp IntKind UnOp)
open Go Go.RowKit
def zAN(i:Nat)(g:Go.Vse.Fn):Prop:=∃F,Tryz.prog.funcs[i]? =some F/\F.name≠ "runtime.NumGoroutine" /\∃pu:Nat->Bool,zae Tryz.prog pu F=some g
def zyG:List (Nat×Go.Vse.Fn)->Prop
 |[]=>True
 |p::l=>zAN p.1 p.2/\zyG l
theorem zu3:∀(l:List (Nat×Go.Vse.Fn)),zyG l->∀n g,zs9 l n=some g->zAN n g
 |[],_,n,g,h=>by cases h
 |p::l,ha,n,g,h=>by
  have e:zs9 (p::l) n= @Bool.rec (fun _=>Option Go.Vse.Fn) (zs9 l n) (some p.2) (Nat.beq p.1 n):=rfl;rw[e]at h;cases hb:Nat.beq p.1 n with
  |true=>
   rw[hb]at h;cases h;rw[<-Nat.eq_of_beq_eq_true hb];exact ha.1
  |false=>rw[hb]at h;exact zu3 l ha.2 n g h
theorem zRA:zyG fns:=
 ⟨⟨Tryz.f3,Tryz.func3,by decide,_,c3⟩,⟨Tryz.f4,Tryz.func4,by decide,_,c4⟩,⟨Tryz.f5,Tryz.func5,by decide,_,c5⟩,⟨Tryz.f6,Tryz.func6,by decide,_,c6⟩,⟨Tryz.f7,Tryz.func7,by decide,_,c7⟩,⟨Tryz.f8,Tryz.func8,by decide,_,c8⟩,⟨Tryz.f9,Tryz.func9,by decide,_,c9⟩,⟨Tryz.f10,Tryz.func10,by decide,_,c10⟩,⟨Tryz.f11,Tryz.func11,by decide,_,c11⟩,⟨Tryz.f12,Tryz.func12,by decide,_,c12⟩,⟨Tryz.f13,Tryz.func13,by decide,_,c13⟩,⟨Tryz.f14,Tryz.func14,by decide,_,c14⟩,⟨Tryz.f15,Tryz.func15,by decide,_,c15⟩,⟨Tryz.f16,Tryz.func16,by decide,_,c16⟩,⟨Tryz.f17,Tryz.func17,by decide,_,c17⟩,⟨Tryz.f18,Tryz.func18,by decide,_,c18⟩,⟨Tryz.f19,Tryz.func19,by decide,_,c19⟩,⟨Tryz.f20,Tryz.func20,by decide,_,c20⟩,⟨Tryz.f21,Tryz.func21,by decide,_,c21⟩,⟨Tryz.f22,Tryz.func22,by decide,_,c22⟩,⟨Tryz.f23,Tryz.func23,by decide,_,c23⟩,⟨Tryz.f24,Tryz.func24,by decide,_,c24⟩,⟨Tryz.f25,Tryz.func25,by decide,_,c25⟩,⟨Tryz.f26,Tryz.func26,by decide,_,c26⟩,⟨Tryz.f27,Tryz.func27,by decide,_,c27⟩,⟨Tryz.f28,Tryz.func28,by decide,_,c28⟩,⟨Tryz.f29,Tryz.func29,by decide,_,c29⟩,⟨Tryz.f30,Tryz.func30,by decide,_,c30⟩,⟨Tryz.f31,Tryz.func31,by decide,_,c31⟩,⟨Tryz.f32,Tryz.func32,by decide,_,c32⟩,⟨Tryz.f33,Tryz.func33,by decide,_,c33⟩,⟨Tryz.f34,Tryz.func34,by decide,_,c34⟩,⟨Tryz.f35,Tryz.func35,by decide,_,c35⟩,⟨Tryz.f36,Tryz.func36,by decide,_,c36⟩,⟨Tryz.f37,Tryz.func37,by decide,_,c37⟩,⟨Tryz.f38,Tryz.func38,by decide,_,c38⟩,⟨Tryz.f39,Tryz.func39,by decide,_,c39⟩,⟨Tryz.f40,Tryz.func40,by decide,_,c40⟩,⟨Tryz.f41,Tryz.func41,by decide,_,c41⟩,⟨Tryz.f42,Tryz.func42,by decide,_,c42⟩,⟨Tryz.f43,Tryz.func43,by decide,_,c43⟩,⟨Tryz.f44,Tryz.func44,by decide,_,c44⟩,⟨Tryz.f45,Tryz.func45,by decide,_,c45⟩,⟨Tryz.f46,Tryz.func46,by decide,_,c46⟩,⟨Tryz.f47,Tryz.func47,by decide,_,c47⟩,⟨Tryz.f48,Tryz.func48,by decide,_,c48⟩,⟨Tryz.f49,Tryz.func49,by decide,_,c49⟩,⟨Tryz.f50,Tryz.func50,by decide,_,c50⟩,⟨Tryz.f51,Tryz.func51,by decide,_,c51⟩,⟨Tryz.f52,Tryz.func52,by decide,_,c52⟩,⟨Tryz.f53,Tryz.func53,by decide,_,c53⟩,⟨Tryz.f54,Tryz.func54,by decide,_,c54⟩,⟨Tryz.f56,Tryz.func56,by decide,_,c56⟩,⟨Tryz.f57,Tryz.func57,by decide,_,c57⟩,⟨Tryz.f58,Tryz.func58,by decide,_,c58⟩,⟨Tryz.f59,Tryz.func59,by decide,_,c59⟩,⟨Tryz.f60,Tryz.func60,by decide,_,c60⟩,⟨Tryz.f61,Tryz.func61,by decide,_,c61⟩,⟨Tryz.f62,Tryz.func62,by decide,_,c62⟩,⟨Tryz.f63,Tryz.func63,by decide,_,c63⟩,⟨Tryz.f64,Tryz.func64,by decide,_,c64⟩,⟨Tryz.f65,Tryz.func65,by decide,_,c65⟩,⟨Tryz.f66,Tryz.func66,by decide,_,c66⟩,⟨Tryz.f67,Tryz.func67,by decide,_,c67⟩,⟨Tryz.f68,Tryz.func68,by decide,_,c68⟩,⟨Tryz.f69,Tryz.func69,by decide,_,c69⟩,⟨Tryz.f70,Tryz.func70,by decide,_,c70⟩,⟨Tryz.f71,Tryz.func71,by decide,_,c71⟩,⟨Tryz.f72,Tryz.func72,by decide,_,c72⟩,⟨Tryz.f73,Tryz.func73,by decide,_,c73⟩,⟨Tryz.f74,Tryz.func74,by decide,_,c74⟩,⟨Tryz.f75,Tryz.func75,by decide,_,c75⟩,⟨Tryz.f76,Tryz.func76,by decide,_,c76⟩,⟨Tryz.f77,Tryz.func77,by decide,_,c77⟩,⟨Tryz.f78,Tryz.func78,by decide,_,c78⟩,⟨Tryz.f79,Tryz.func79,by decide,_,c79⟩,⟨Tryz.f80,Tryz.func80,by decide,_,c80⟩,⟨Tryz.f81,Tryz.func81,by decide,_,c81⟩,⟨Tryz.f82,Tryz.func82,by decide,_,c82⟩,⟨Tryz.f83,Tryz.func83,by decide,_,c83⟩,⟨Tryz.f84,Tryz.func84,by decide,_,c84⟩,⟨Tryz.f85,Tryz.func85,by decide,_,c85⟩,⟨Tryz.f86,Tryz.func86,by decide,_,c86⟩,⟨Tryz.f87,Tryz.func87,by decide,_,c87⟩,⟨Tryz.f88,Tryz.func88,by decide,_,c88⟩,⟨Tryz.f89,Tryz.func89,by decide,_,c89⟩,⟨Tryz.f90,Tryz.func90,by decide,_,c90⟩,⟨Tryz.f91,Tryz.func91,by decide,_,c91⟩,⟨Tryz.f92,Tryz.func92,by decide,_,c92⟩,⟨Tryz.f93,Tryz.func93,by decide,_,c93⟩,⟨Tryz.f94,Tryz.func94,by decide,_,c94⟩,⟨Tryz.f95,Tryz.func95,by decide,_,c95⟩,⟨Tryz.f96,Tryz.func96,by decide,_,c96⟩,⟨Tryz.f97,Tryz.func97,by decide,_,c97⟩,⟨Tryz.f98,Tryz.func98,by decide,_,c98⟩,⟨Tryz.f99,Tryz.func99,by decide,_,c99⟩,⟨Tryz.f100,Tryz.func100,by decide,_,c100⟩,⟨Tryz.f101,Tryz.func101,by decide,_,c101⟩,⟨Tryz.f102,Tryz.func102,by decide,_,c102⟩,⟨Tryz.f103,Tryz.func103,by decide,_,c103⟩,⟨Tryz.f104,Tryz.func104,by decide,_,c104⟩,⟨Tryz.f105,Tryz.func105,by decide,_,c105⟩,⟨Tryz.f106,Tryz.func106,by decide,_,c106⟩,⟨Tryz.f107,Tryz.func107,by decide,_,c107⟩,⟨Tryz.f108,Tryz.func108,by decide,_,c108⟩,⟨Tryz.f109,Tryz.func109,by decide,_,c109⟩,⟨Tryz.f110,Tryz.func110,by decide,_,c110⟩,⟨Tryz.f111,Tryz.func111,by decide,_,c111⟩,⟨Tryz.f112,Tryz.func112,by decide,_,c112⟩,⟨Tryz.f113,Tryz.func113,by decide,_,c113⟩,⟨Tryz.f114,Tryz.func114,by decide,_,c114⟩,⟨Tryz.f115,Tryz.func115,by decide,_,c115⟩,⟨Tryz.f116,Tryz.func116,by decide,_,c116⟩,⟨Tryz.f117,Tryz.func117,by decide,_,c117⟩,⟨Tryz.f121,Tryz.func121,by decide,_,c121⟩,⟨Tryz.f122,Tryz.func122,by decide,_,c122⟩,⟨Tryz.f123,Tryz.func123,by decide,_,c123⟩,⟨Tryz.f124,Tryz.func124,by decide,_,c124⟩,⟨Tryz.f125,Tryz.func125,by decide,_,c125⟩,⟨Tryz.f127,Tryz.func127,by decide,_,c127⟩,⟨Tryz.f128,Tryz.func128,by decide,_,c128⟩,⟨Tryz.f129,Tryz.func129,by decide,_,c129⟩,⟨Tryz.f131,Tryz.func131,by decide,_,c131⟩,⟨Tryz.f132,Tryz.func132,by decide,_,c132⟩,⟨Tryz.f133,Tryz.func133,by decide,_,c133⟩,⟨Tryz.f134,Tryz.func134,by decide,_,c134⟩,⟨Tryz.f136,Tryz.func136,by decide,_,c136⟩,⟨Tryz.f137,Tryz.func137,by decide,_,c137⟩,⟨Tryz.f138,Tryz.func138,by decide,_,c138⟩,⟨Tryz.f139,Tryz.func139,by decide,_,c139⟩,⟨Tryz.f144,Tryz.func144,by decide,_,c144⟩,⟨Tryz.f145,Tryz.func145,by decide,_,c145⟩,⟨Tryz.f146,Tryz.func146,by decide,_,c146⟩,⟨Tryz.f148,Tryz.func148,by decide,_,c148⟩,⟨Tryz.f149,Tryz.func149,by decide,_,c149⟩,⟨Tryz.f150,Tryz.func150,by decide,_,c150⟩,⟨Tryz.f152,Tryz.func152,by decide,_,c152⟩,⟨Tryz.f155,Tryz.func155,by decide,_,c155⟩,⟨Tryz.f156,Tryz.func156,by decide,_,c156⟩,⟨Tryz.f157,Tryz.func157,by decide,_,c157⟩,⟨Tryz.f158,Tryz.func158,by decide,_,c158⟩,⟨Tryz.f159,Tryz.func159,by decide,_,c159⟩,⟨Tryz.f160,Tryz.func160,by decide,_,c160⟩,⟨Tryz.f161,Tryz.func161,by decide,_,c161⟩,⟨Tryz.f162,Tryz.func162,by decide,_,c162⟩,⟨Tryz.f163,Tryz.func163,by decide,_,c163⟩,⟨Tryz.f164,Tryz.func164,by decide,_,c164⟩,⟨Tryz.f165,Tryz.func165,by decide,_,c165⟩,⟨Tryz.f166,Tryz.func166,by decide,_,c166⟩,⟨Tryz.f167,Tryz.func167,by decide,_,c167⟩,⟨Tryz.f168,Tryz.func168,by decide,_,c168⟩,trivial⟩
set_option maxHeartbeats 1000000 in
set_option maxRecDepth 100000 in
theorem zK7(a b:ByteArray)(w:World):
  Calls Tryz.prog 135 #[.string a,.string b] w fun e w'=>e= .returned (.int .i64 (Lib.compareBytes a.data.toList b.data.toList))/\w'=w:=by
 go_enter Tryz.func135,Tryz.ntmps135
 go_wp2
 rw[run_callFunc_extern Tryz.func151 (by kernel_rfl) (by kernel_rfl) (by kernel_rfl) (e:=Extern.BytealgCompare.compare) (by kernel_rfl),Lib.run_compareString];simp only[Result.andThen];rw[Oper.upon_value]
 go_wp2
 go_ret
 exact⟨rfl,rfl⟩
theorem zRu(f:Nat)(args:List D)(x:F)(h:zEJ f args=some x):zg4 Tryz.prog f/\∀(w:World) μ ρ c vs,zas w.heap μ ρ c args vs->
  Calls Tryz.prog f ⟨vs⟩ w fun e w'=>∃v,e= .returned v/\Base w w'/\w.heap.size<=w'.heap.size/\(∀b,b<w.heap.size->w'.heap[b]? =w.heap[b]?)/\zal w'.heap μ x v:=by
 unfold zEJ at h;cases hb:Nat.beq f 135 with
 |false=>rw[hb]at h;cases h
 |true=>
  rw[hb]at h;have hf:=Nat.eq_of_beq_eq_true hb;subst hf;refine⟨⟨Tryz.f135,Tryz.func135,rfl,by decide⟩,fun w μ ρ c vs hr=> ?_⟩;split at h
  .rename_i a b;cases h;simp only[zas,Rel,zal]at hr;obtain⟨_,_,rfl,rfl,_,_,rfl,rfl,rfl⟩ :=hr;refine (zK7 ⟨⟨a⟩⟩ ⟨⟨b⟩⟩ w).mono fun e w' ⟨he,hw⟩ => ?_
   subst he hw;exact⟨_,rfl,Base.refl _,Nat.le_refl _,fun _ _=>rfl,by simp only[zal]⟩
  .cases h
theorem prOk:zye Tryz.prog pur pr:=⟨fun f g h=>zu3 fns zRA f g h,zRu,fun _ _ _ _ _ h=>by cases h⟩
end Go.Proofs.YtflgmemhalhdbaaGreatDoor
