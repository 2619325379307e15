/- The evaluator's list of functions fits the program. Written by program. -/
import Derived.Test.YtimgcabgophnfaaGreatOk0
import Derived.Test.YtimgcabgophnfaaGreatOk1
import Derived.Test.YtimgcabgophnfaaGreatOk2
import Derived.Test.YtimgcabgophnfaaGreatOk3
import Derived.WalkKit
import Derived.Lib.Walk
set_option linter.all false
namespace Go.Proofs.YtimgcabgophnfaaGreat
open Go.Vse
open Go (BinOp IntKind UnOp)
open Go Go.RowKit
def zBD(i:Nat)(g:Go.Vse.Fn):Prop:=∃F,Tryz.prog.funcs[i]? =some F/\F.name≠ "runtime.NumGoroutine" /\zah Tryz.prog pur F=some g
def zy5:List (Nat×Go.Vse.Fn)->Prop
 |[]=>True
 |p::l=>zBD p.1 p.2/\zy5 l
theorem zuZ:∀(l:List (Nat×Go.Vse.Fn)),zy5 l->∀n g,zs4 l n=some g->zBD n g
 |[],_,n,g,h=>by cases h
 |p::l,ha,n,g,h=>by
  have e:zs4 (p::l) n= @Bool.rec (fun _=>Option Go.Vse.Fn) (zs4 l n) (some p.2) (Nat.beq p.1 n):=rfl;rw[e]at h;cases hb:Nat.beq p.1 n with
  |true=>
   rw[hb]at h;cases h;rw[<-Nat.eq_of_beq_eq_true hb];exact ha.1
  |false=>rw[hb]at h;exact zuZ l ha.2 n g h
theorem zP3:zy5 fns:=
 ⟨⟨Tryz.f4,Tryz.func4,by decide,c4⟩,⟨Tryz.f5,Tryz.func5,by decide,c5⟩,⟨Tryz.f6,Tryz.func6,by decide,c6⟩,⟨Tryz.f7,Tryz.func7,by decide,c7⟩,⟨Tryz.f8,Tryz.func8,by decide,c8⟩,⟨Tryz.f9,Tryz.func9,by decide,c9⟩,⟨Tryz.f11,Tryz.func11,by decide,c11⟩,⟨Tryz.f12,Tryz.func12,by decide,c12⟩,⟨Tryz.f13,Tryz.func13,by decide,c13⟩,⟨Tryz.f14,Tryz.func14,by decide,c14⟩,⟨Tryz.f15,Tryz.func15,by decide,c15⟩,⟨Tryz.f16,Tryz.func16,by decide,c16⟩,⟨Tryz.f17,Tryz.func17,by decide,c17⟩,⟨Tryz.f18,Tryz.func18,by decide,c18⟩,⟨Tryz.f19,Tryz.func19,by decide,c19⟩,⟨Tryz.f20,Tryz.func20,by decide,c20⟩,⟨Tryz.f21,Tryz.func21,by decide,c21⟩,⟨Tryz.f22,Tryz.func22,by decide,c22⟩,⟨Tryz.f23,Tryz.func23,by decide,c23⟩,⟨Tryz.f24,Tryz.func24,by decide,c24⟩,⟨Tryz.f25,Tryz.func25,by decide,c25⟩,⟨Tryz.f26,Tryz.func26,by decide,c26⟩,⟨Tryz.f27,Tryz.func27,by decide,c27⟩,⟨Tryz.f28,Tryz.func28,by decide,c28⟩,⟨Tryz.f29,Tryz.func29,by decide,c29⟩,⟨Tryz.f30,Tryz.func30,by decide,c30⟩,⟨Tryz.f31,Tryz.func31,by decide,c31⟩,⟨Tryz.f32,Tryz.func32,by decide,c32⟩,⟨Tryz.f33,Tryz.func33,by decide,c33⟩,⟨Tryz.f34,Tryz.func34,by decide,c34⟩,⟨Tryz.f35,Tryz.func35,by decide,c35⟩,⟨Tryz.f36,Tryz.func36,by decide,c36⟩,⟨Tryz.f37,Tryz.func37,by decide,c37⟩,⟨Tryz.f38,Tryz.func38,by decide,c38⟩,⟨Tryz.f39,Tryz.func39,by decide,c39⟩,⟨Tryz.f40,Tryz.func40,by decide,c40⟩,⟨Tryz.f41,Tryz.func41,by decide,c41⟩,⟨Tryz.f42,Tryz.func42,by decide,c42⟩,⟨Tryz.f43,Tryz.func43,by decide,c43⟩,⟨Tryz.f44,Tryz.func44,by decide,c44⟩,⟨Tryz.f45,Tryz.func45,by decide,c45⟩,⟨Tryz.f46,Tryz.func46,by decide,c46⟩,⟨Tryz.f47,Tryz.func47,by decide,c47⟩,⟨Tryz.f48,Tryz.func48,by decide,c48⟩,⟨Tryz.f49,Tryz.func49,by decide,c49⟩,⟨Tryz.f50,Tryz.func50,by decide,c50⟩,⟨Tryz.f51,Tryz.func51,by decide,c51⟩,⟨Tryz.f52,Tryz.func52,by decide,c52⟩,⟨Tryz.f53,Tryz.func53,by decide,c53⟩,⟨Tryz.f54,Tryz.func54,by decide,c54⟩,⟨Tryz.f55,Tryz.func55,by decide,c55⟩,⟨Tryz.f56,Tryz.func56,by decide,c56⟩,⟨Tryz.f57,Tryz.func57,by decide,c57⟩,⟨Tryz.f58,Tryz.func58,by decide,c58⟩,⟨Tryz.f59,Tryz.func59,by decide,c59⟩,⟨Tryz.f60,Tryz.func60,by decide,c60⟩,⟨Tryz.f61,Tryz.func61,by decide,c61⟩,⟨Tryz.f62,Tryz.func62,by decide,c62⟩,⟨Tryz.f63,Tryz.func63,by decide,c63⟩,⟨Tryz.f64,Tryz.func64,by decide,c64⟩,⟨Tryz.f65,Tryz.func65,by decide,c65⟩,⟨Tryz.f66,Tryz.func66,by decide,c66⟩,⟨Tryz.f67,Tryz.func67,by decide,c67⟩,⟨Tryz.f68,Tryz.func68,by decide,c68⟩,⟨Tryz.f69,Tryz.func69,by decide,c69⟩,⟨Tryz.f70,Tryz.func70,by decide,c70⟩,⟨Tryz.f71,Tryz.func71,by decide,c71⟩,⟨Tryz.f72,Tryz.func72,by decide,c72⟩,⟨Tryz.f73,Tryz.func73,by decide,c73⟩,⟨Tryz.f74,Tryz.func74,by decide,c74⟩,⟨Tryz.f75,Tryz.func75,by decide,c75⟩,⟨Tryz.f76,Tryz.func76,by decide,c76⟩,⟨Tryz.f77,Tryz.func77,by decide,c77⟩,⟨Tryz.f78,Tryz.func78,by decide,c78⟩,⟨Tryz.f79,Tryz.func79,by decide,c79⟩,⟨Tryz.f80,Tryz.func80,by decide,c80⟩,⟨Tryz.f81,Tryz.func81,by decide,c81⟩,⟨Tryz.f82,Tryz.func82,by decide,c82⟩,⟨Tryz.f83,Tryz.func83,by decide,c83⟩,⟨Tryz.f84,Tryz.func84,by decide,c84⟩,⟨Tryz.f85,Tryz.func85,by decide,c85⟩,⟨Tryz.f86,Tryz.func86,by decide,c86⟩,⟨Tryz.f87,Tryz.func87,by decide,c87⟩,⟨Tryz.f88,Tryz.func88,by decide,c88⟩,⟨Tryz.f89,Tryz.func89,by decide,c89⟩,⟨Tryz.f90,Tryz.func90,by decide,c90⟩,⟨Tryz.f91,Tryz.func91,by decide,c91⟩,⟨Tryz.f92,Tryz.func92,by decide,c92⟩,⟨Tryz.f93,Tryz.func93,by decide,c93⟩,⟨Tryz.f94,Tryz.func94,by decide,c94⟩,⟨Tryz.f95,Tryz.func95,by decide,c95⟩,⟨Tryz.f96,Tryz.func96,by decide,c96⟩,⟨Tryz.f97,Tryz.func97,by decide,c97⟩,⟨Tryz.f98,Tryz.func98,by decide,c98⟩,⟨Tryz.f99,Tryz.func99,by decide,c99⟩,⟨Tryz.f100,Tryz.func100,by decide,c100⟩,⟨Tryz.f101,Tryz.func101,by decide,c101⟩,⟨Tryz.f102,Tryz.func102,by decide,c102⟩,⟨Tryz.f103,Tryz.func103,by decide,c103⟩,⟨Tryz.f104,Tryz.func104,by decide,c104⟩,⟨Tryz.f105,Tryz.func105,by decide,c105⟩,⟨Tryz.f106,Tryz.func106,by decide,c106⟩,⟨Tryz.f108,Tryz.func108,by decide,c108⟩,⟨Tryz.f109,Tryz.func109,by decide,c109⟩,⟨Tryz.f110,Tryz.func110,by decide,c110⟩,⟨Tryz.f111,Tryz.func111,by decide,c111⟩,⟨Tryz.f112,Tryz.func112,by decide,c112⟩,⟨Tryz.f113,Tryz.func113,by decide,c113⟩,⟨Tryz.f114,Tryz.func114,by decide,c114⟩,⟨Tryz.f115,Tryz.func115,by decide,c115⟩,⟨Tryz.f116,Tryz.func116,by decide,c116⟩,⟨Tryz.f117,Tryz.func117,by decide,c117⟩,⟨Tryz.f118,Tryz.func118,by decide,c118⟩,⟨Tryz.f120,Tryz.func120,by decide,c120⟩,⟨Tryz.f121,Tryz.func121,by decide,c121⟩,⟨Tryz.f122,Tryz.func122,by decide,c122⟩,⟨Tryz.f124,Tryz.func124,by decide,c124⟩,⟨Tryz.f125,Tryz.func125,by decide,c125⟩,⟨Tryz.f126,Tryz.func126,by decide,c126⟩,⟨Tryz.f127,Tryz.func127,by decide,c127⟩,⟨Tryz.f129,Tryz.func129,by decide,c129⟩,⟨Tryz.f130,Tryz.func130,by decide,c130⟩,⟨Tryz.f131,Tryz.func131,by decide,c131⟩,⟨Tryz.f132,Tryz.func132,by decide,c132⟩,⟨Tryz.f133,Tryz.func133,by decide,c133⟩,⟨Tryz.f134,Tryz.func134,by decide,c134⟩,⟨Tryz.f136,Tryz.func136,by decide,c136⟩,⟨Tryz.f137,Tryz.func137,by decide,c137⟩,⟨Tryz.f138,Tryz.func138,by decide,c138⟩,⟨Tryz.f139,Tryz.func139,by decide,c139⟩,⟨Tryz.f140,Tryz.func140,by decide,c140⟩,⟨Tryz.f141,Tryz.func141,by decide,c141⟩,⟨Tryz.f142,Tryz.func142,by decide,c142⟩,⟨Tryz.f144,Tryz.func144,by decide,c144⟩,⟨Tryz.f145,Tryz.func145,by decide,c145⟩,⟨Tryz.f146,Tryz.func146,by decide,c146⟩,⟨Tryz.f148,Tryz.func148,by decide,c148⟩,⟨Tryz.f149,Tryz.func149,by decide,c149⟩,⟨Tryz.f150,Tryz.func150,by decide,c150⟩,⟨Tryz.f151,Tryz.func151,by decide,c151⟩,⟨Tryz.f152,Tryz.func152,by decide,c152⟩,⟨Tryz.f153,Tryz.func153,by decide,c153⟩,⟨Tryz.f154,Tryz.func154,by decide,c154⟩,⟨Tryz.f155,Tryz.func155,by decide,c155⟩,⟨Tryz.f156,Tryz.func156,by decide,c156⟩,⟨Tryz.f157,Tryz.func157,by decide,c157⟩,⟨Tryz.f158,Tryz.func158,by decide,c158⟩,⟨Tryz.f159,Tryz.func159,by decide,c159⟩,⟨Tryz.f160,Tryz.func160,by decide,c160⟩,⟨Tryz.f161,Tryz.func161,by decide,c161⟩,⟨Tryz.f162,Tryz.func162,by decide,c162⟩,⟨Tryz.f163,Tryz.func163,by decide,c163⟩,⟨Tryz.f164,Tryz.func164,by decide,c164⟩,⟨Tryz.f165,Tryz.func165,by decide,c165⟩,⟨Tryz.f166,Tryz.func166,by decide,c166⟩,⟨Tryz.f167,Tryz.func167,by decide,c167⟩,⟨Tryz.f168,Tryz.func168,by decide,c168⟩,⟨Tryz.f169,Tryz.func169,by decide,c169⟩,⟨Tryz.f170,Tryz.func170,by decide,c170⟩,⟨Tryz.f171,Tryz.func171,by decide,c171⟩,⟨Tryz.f172,Tryz.func172,by decide,c172⟩,⟨Tryz.f173,Tryz.func173,by decide,c173⟩,⟨Tryz.f174,Tryz.func174,by decide,c174⟩,⟨Tryz.f175,Tryz.func175,by decide,c175⟩,⟨Tryz.f176,Tryz.func176,by decide,c176⟩,⟨Tryz.f177,Tryz.func177,by decide,c177⟩,⟨Tryz.f178,Tryz.func178,by decide,c178⟩,trivial⟩
set_option maxHeartbeats 1000000 in
set_option maxRecDepth 100000 in
theorem zMp(a b:ByteArray)(w:World):
  Calls Tryz.prog 128 #[.string a,.string b] w fun e w'=>e= .returned (.int .i64 (Lib.compareBytes a.data.toList b.data.toList))/\w'=w:=by
 go_enter Tryz.func128,Tryz.ntmps128
 go_wp2
 rw[run_callFunc_extern Tryz.func147 (by kernel_rfl) (by kernel_rfl) (by kernel_rfl) (e:=Extern.BytealgCompare.compare) (by kernel_rfl),Lib.run_compareString];simp only[Result.andThen];rw[Oper.upon_value]
 go_wp2
 go_ret
 exact⟨rfl,rfl⟩
theorem zPW(f:Nat)(args:List D)(x:F)(h:zFS f args=some x):zgS Tryz.prog f/\∀(w:World) μ ρ c vs,zav w.heap μ ρ c args vs->
  Calls Tryz.prog f ⟨vs⟩ w fun e w'=>∃v,e= .returned v/\Base w w'/\w.heap.size≤w'.heap.size/\(∀b,b<w.heap.size->w'.heap[b]? =w.heap[b]?)/\zaq w'.heap μ x v:=by
 unfold zFS at h;cases hb:Nat.beq f 128 with
 |false=>rw[hb]at h;cases h
 |true=>
  rw[hb]at h;have hf:=Nat.eq_of_beq_eq_true hb;subst hf;refine⟨⟨Tryz.f128,Tryz.func128,rfl,by decide⟩,fun w μ ρ c vs hr=> ?_⟩;split at h
  ·rename_i a b;cases h;simp only[zav,Rel,zaq]at hr;obtain⟨_,_,rfl,rfl,_,_,rfl,rfl,rfl⟩ :=hr;refine (zMp ⟨⟨a⟩⟩ ⟨⟨b⟩⟩ w).mono fun e w' ⟨he,hw⟩ => ?_
   subst he hw;exact⟨_,rfl,Base.refl _,Nat.le_refl _,fun _ _=>rfl,by simp only[zaq]⟩
  ·cases h
theorem prOk:zyP Tryz.prog pur pr:=⟨fun f g h=>zuZ fns zP3 f g h,zPW,fun _ _ _ _ _ h=>by cases h⟩
end Go.Proofs.YtimgcabgophnfaaGreat
