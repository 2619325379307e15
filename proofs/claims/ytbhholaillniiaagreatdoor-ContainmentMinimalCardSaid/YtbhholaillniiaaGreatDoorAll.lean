/- The evaluator's list of functions fits the program. Written by program. -/
import Derived.Test.YtbhholaillniiaaGreatDoorOk0
import Derived.Test.YtbhholaillniiaaGreatDoorOk1
import Derived.Test.YtbhholaillniiaaGreatDoorOk2
import Derived.Test.YtbhholaillniiaaGreatDoorOk3
import Derived.WalkKit
import Derived.Lib.Walk
set_option linter.all false
namespace Go.Proofs.YtbhholaillniiaaGreatDoor
open Go.Vse
open Go (BinOp IntKind UnOp)
open Go Go.RowKit
def zoG(i:Nat)(g:Go.Vse.Fn):Prop:=∃F,Tryz.prog.funcs[i]? =some F/\F.name≠ "runtime.NumGoroutine" /\∃pu:Nat->Bool,zhk Tryz.prog pu F=some g
def zyZ:List (Nat×Go.Vse.Fn)->Prop
 |[]=>True
 |p::l=>zoG p.1 p.2/\zyZ l
theorem zuP:∀(l:List (Nat×Go.Vse.Fn)),zyZ l->∀n g,zpF l n=some g->zoG n g
 |[],_,n,g,h=>by cases h
 |p::l,ha,n,g,h=>by
  have e:zpF (p::l) n= @Bool.rec (fun _=>Option Go.Vse.Fn) (zpF l n) (some p.2) (Nat.beq p.1 n):=rfl;rw[e]at h;cases hb:Nat.beq p.1 n with
  |true=>
   rw[hb]at h;cases h;rw[<-Nat.eq_of_beq_eq_true hb];exact ha.1
  |false=>rw[hb]at h;exact zuP l ha.2 n g h
theorem cmI{i:Nat}{F:Func}{g:Go.Vse.Fn}(h:Tryz.prog.funcs[i]? =some F)(c:zhk Tryz.prog pur F=some g)(d:F.name≠ "runtime.NumGoroutine" :=by decide):zoG i g:=⟨F,h,d,pur,c⟩
set_option maxRecDepth 100000 in
theorem zOu:zyZ fns:=
  ⟨cmI Tryz.func3 c3,
   cmI Tryz.func4 c4,
   cmI Tryz.func5 c5,
   cmI Tryz.func6 c6,
   cmI Tryz.func7 c7,
   cmI Tryz.func8 c8,
   cmI Tryz.func9 c9,
   cmI Tryz.func12 c12,
   cmI Tryz.func13 c13,
   cmI Tryz.func15 c15,
   cmI Tryz.func16 c16,
   cmI Tryz.func17 c17,
   cmI Tryz.func20 c20,
   cmI Tryz.func21 c21,
   cmI Tryz.func22 c22,
   cmI Tryz.func23 c23,
   cmI Tryz.func25 c25,
   cmI Tryz.func26 c26,
   cmI Tryz.func27 c27,
   cmI Tryz.func28 c28,
   cmI Tryz.func29 c29,
   cmI Tryz.func30 c30,
   cmI Tryz.func32 c32,
   cmI Tryz.func33 c33,
   cmI Tryz.func34 c34,
   cmI Tryz.func35 c35,
   cmI Tryz.func36 c36,
   cmI Tryz.func37 c37,
   cmI Tryz.func39 c39,
   cmI Tryz.func40 c40,
   cmI Tryz.func41 c41,
   cmI Tryz.func42 c42,
   cmI Tryz.func44 c44,
   cmI Tryz.func46 c46,
   cmI Tryz.func51 c51,
   cmI Tryz.func54 c54,
   cmI Tryz.func55 c55,
   cmI Tryz.func56 c56,
   cmI Tryz.func57 c57,
   cmI Tryz.func59 c59,
   cmI Tryz.func60 c60,
   cmI Tryz.func61 c61,
   cmI Tryz.func62 c62,
   cmI Tryz.func64 c64,
   cmI Tryz.func65 c65,
   cmI Tryz.func66 c66,
   cmI Tryz.func67 c67,
   cmI Tryz.func68 c68,
   cmI Tryz.func69 c69,
   cmI Tryz.func70 c70,
   cmI Tryz.func71 c71,
   cmI Tryz.func72 c72,
   ⟨Tryz.f75,Tryz.func75,by decide,_,c75⟩,
   cmI Tryz.func77 c77,
   cmI Tryz.func78 c78,
   cmI Tryz.func82 c82,
   cmI Tryz.func83 c83,
   cmI Tryz.func84 c84,
   cmI Tryz.func85 c85,
   cmI Tryz.func86 c86,
   cmI Tryz.func87 c87,
   cmI Tryz.func88 c88,
   cmI Tryz.func94 c94,
   cmI Tryz.func95 c95,
   cmI Tryz.func96 c96,
   cmI Tryz.func97 c97,
   cmI Tryz.func98 c98,
   cmI Tryz.func100 c100,
   cmI Tryz.func101 c101,
   cmI Tryz.func103 c103,
   cmI Tryz.func104 c104,
   cmI Tryz.func105 c105,
   cmI Tryz.func106 c106,
   cmI Tryz.func109 c109,
   cmI Tryz.func110 c110,
   cmI Tryz.func111 c111,
   cmI Tryz.func112 c112,
   cmI Tryz.func113 c113,
   cmI Tryz.func114 c114,
   cmI Tryz.func115 c115,
   cmI Tryz.func116 c116,
   cmI Tryz.func117 c117,
   cmI Tryz.func118 c118,
   cmI Tryz.func119 c119,
   cmI Tryz.func120 c120,
   cmI Tryz.func121 c121,
   cmI Tryz.func130 c130,
   cmI Tryz.func131 c131,
   cmI Tryz.func132 c132,
   cmI Tryz.func133 c133,
   cmI Tryz.func134 c134,
   cmI Tryz.func135 c135,
   cmI Tryz.func144 c144,
   cmI Tryz.func145 c145,
   cmI Tryz.func146 c146,
   cmI Tryz.func147 c147,
   cmI Tryz.func148 c148,
   cmI Tryz.func149 c149,
   cmI Tryz.func150 c150,
   cmI Tryz.func151 c151,
   cmI Tryz.func152 c152,
   cmI Tryz.func153 c153,
   cmI Tryz.func154 c154,
   cmI Tryz.func155 c155,
   cmI Tryz.func157 c157,
   cmI Tryz.func158 c158,
   cmI Tryz.func159 c159,
   cmI Tryz.func160 c160,
   cmI Tryz.func163 c163,
   cmI Tryz.func164 c164,
   cmI Tryz.func165 c165,
   cmI Tryz.func166 c166,
   cmI Tryz.func167 c167,
   cmI Tryz.func170 c170,
   cmI Tryz.func171 c171,
   cmI Tryz.func172 c172,
   cmI Tryz.func173 c173,
   cmI Tryz.func179 c179,
   cmI Tryz.func181 c181,
   cmI Tryz.func182 c182,
   cmI Tryz.func183 c183,
   cmI Tryz.func184 c184,
   cmI Tryz.func185 c185,
   cmI Tryz.func186 c186,
   cmI Tryz.func187 c187,
   cmI Tryz.func188 c188,
   cmI Tryz.func190 c190,
   cmI Tryz.func191 c191,
   cmI Tryz.func197 c197,
   cmI Tryz.func198 c198,
   cmI Tryz.func207 c207,
   cmI Tryz.func208 c208,
   cmI Tryz.func209 c209,
   cmI Tryz.func210 c210,
   cmI Tryz.func214 c214,
   cmI Tryz.func215 c215,
   cmI Tryz.func216 c216,
   cmI Tryz.func217 c217,
   cmI Tryz.func222 c222,
   cmI Tryz.func225 c225,
   cmI Tryz.func226 c226,
   cmI Tryz.func227 c227,
   cmI Tryz.func228 c228,
   cmI Tryz.func229 c229,
   cmI Tryz.func230 c230,
   cmI Tryz.func231 c231,
   cmI Tryz.func232 c232,
   cmI Tryz.func233 c233,
   cmI Tryz.func234 c234,
   cmI Tryz.func241 c241,
   cmI Tryz.func242 c242,
   cmI Tryz.func251 c251,
   cmI Tryz.func254 c254,
   cmI Tryz.func255 c255,
   cmI Tryz.func256 c256,
   cmI Tryz.func257 c257,
   cmI Tryz.func258 c258,
   cmI Tryz.func259 c259,
   cmI Tryz.func260 c260,
   cmI Tryz.func269 c269,
   cmI Tryz.func270 c270,trivial⟩
set_option maxHeartbeats 1000000 in
set_option maxRecDepth 100000 in
theorem zJS(a b:ByteArray)(w:World):
  Calls Tryz.prog 199 #[.string a,.string b] w fun e w'=>e= .returned (.int .i64 (Lib.compareBytes a.data.toList b.data.toList))/\w'=w:=by
 go_enter Tryz.func199,Tryz.ntmps199
 go_wp2
 rw[run_callFunc_extern Tryz.func236 (by kernel_rfl) (by kernel_rfl) (by kernel_rfl) (e:=Extern.BytealgCompare.compare) (by kernel_rfl),Lib.run_compareString];simp only[Result.andThen];rw[Oper.upon_value]
 go_wp2
 go_ret
 exact⟨rfl,rfl⟩
theorem zOr(f:Nat)(args:List D)(x:F)(h:zEW f args=some x):zg5 Tryz.prog f/\∀(w:World) μ ρ c vs,zao w.heap μ ρ c args vs->
  Calls Tryz.prog f ⟨vs⟩ w fun e w'=>∃v,e= .returned v/\Base w w'/\w.heap.size<=w'.heap.size/\(∀b,b<w.heap.size->w'.heap[b]? =w.heap[b]?)/\zaj w'.heap μ x v:=by
 unfold zEW at h;cases hb:Nat.beq f 199 with
 |false=>rw[hb]at h;cases h
 |true=>
  rw[hb]at h;have hf:=Nat.eq_of_beq_eq_true hb;subst hf;refine⟨⟨Tryz.f199,Tryz.func199,rfl,by decide⟩,fun w μ ρ c vs hr=> ?_⟩;split at h
  .rename_i a b;cases h;simp only[zao,Rel,zaj]at hr;obtain⟨_,_,rfl,rfl,_,_,rfl,rfl,rfl⟩ :=hr;refine (zJS ⟨⟨a⟩⟩ ⟨⟨b⟩⟩ w).mono fun e w' ⟨he,hw⟩ => ?_
   subst he hw;exact⟨_,rfl,Base.refl _,Nat.le_refl _,fun _ _=>rfl,by simp only[zaj]⟩
  .cases h
theorem zuN:∀(l:List Nat) n g,zsM l n=some g->n∈l/\cAt n=some g
 |[],n,g,h=>by cases h
 |p::l,n,g,h=>by
  have e:zsM (p::l) n= @Bool.rec (fun _=>Option Go.Vse.Fn) (zsM l n) (cAt p) (Nat.beq p n):=rfl;rw[e]at h;cases hb:Nat.beq p n with
  |true=>
   rw[hb]at h;rw[<-Nat.eq_of_beq_eq_true hb];exact⟨List.mem_cons_self,h⟩
  |false=>
   rw[hb]at h;have:=zuN l n g h;exact⟨List.mem_cons_of_mem _ this.1,this.2⟩
set_option maxRecDepth 100000 in
theorem zMH:(zzw.all fun n=>match Tryz.prog.funcs[n]? with
  |some F=>decide (F.name≠ "runtime.NumGoroutine")
  |none=>true)=true:=by kernel_rfl
theorem zFi(f:Nat)(g:Go.Vse.Fn)(h:zAs f=some g):zoG f g:=by
 unfold zAs at h;cases hl:zpF fns f with
 |some g2=>
  rw[hl]at h;cases h;exact zuP fns zOu f g hl
 |none=>
  rw[hl]at h;obtain⟨h1,h2⟩ :=zuN zzw f g h;have hn:=List.all_eq_true.1 zMH f h1;unfold cAt at h2;cases hF:Tryz.prog.funcs[f]? with
  |none=>rw[hF]at h2;cases h2
  |some F=>
   rw[hF]at h2 hn;exact⟨F,hF,of_decide_eq_true hn,pur,h2⟩
theorem zOq(f:Nat)(args:List D)(h:T Ob)(n:Nat)(q:CR)(hq:znZ f args h n=some q):zgx Tryz.prog f args h n q:=by
 unfold znZ at hq;split at hq
 .rename_i hx;cases hq;exact (Classical.choose_spec hx).1
 .cases hq
theorem zhL:zk6 Tryz.prog pur pr:=⟨zFi,zOr,zOq⟩
end Go.Proofs.YtbhholaillniiaaGreatDoor
