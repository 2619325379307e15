/- The evaluator's list of functions fits the program. Written by program. -/
import Derived.Test.YtdlcolcidohbkaaGreatDoorOk0
import Derived.Test.YtdlcolcidohbkaaGreatDoorOk1
import Derived.WalkKit
import Derived.Lib.Walk
set_option linter.all false
namespace Go.Proofs.YtdlcolcidohbkaaGreatDoor
open Go.Vse
open Go (BinOp IntKind UnOp)
open Go Go.RowKit
def zpQ(i:Nat)(g:Go.Vse.Fn):Prop:=∃F,Tryz.prog.funcs[i]? =some F/\F.name≠ "runtime.NumGoroutine" /\∃pu:Nat->Bool,zhZ Tryz.prog pu F=some g
def zys:List (Nat×Go.Vse.Fn)->Prop
 |[]=>True
 |p::l=>zpQ p.1 p.2/\zys l
theorem zuY:∀(l:List (Nat×Go.Vse.Fn)),zys l->∀n g,zqH l n=some g->zpQ n g
 |[],_,n,g,h=>by cases h
 |p::l,ha,n,g,h=>by
  have e:zqH (p::l) n= @Bool.rec (fun _=>Option Go.Vse.Fn) (zqH l n) (some p.2) (Nat.beq p.1 n):=rfl;rw[e]at h;cases hb:Nat.beq p.1 n with
  |true=>
   rw[hb]at h;cases h;rw[<-Nat.eq_of_beq_eq_true hb];exact ha.1
  |false=>rw[hb]at h;exact zuY l ha.2 n g h
theorem cmI{i:Nat}{F:Func}{g:Go.Vse.Fn}(h:Tryz.prog.funcs[i]? =some F)(c:zhZ Tryz.prog pur F=some g)(d:F.name≠ "runtime.NumGoroutine" :=by decide):zpQ i g:=⟨F,h,d,pur,c⟩
set_option maxRecDepth 100000 in
theorem zOF:zys fns:=
  ⟨cmI Tryz.func3 c3,
   cmI Tryz.func4 c4,
   cmI Tryz.func5 c5,
   cmI Tryz.func6 c6,
   cmI Tryz.func7 c7,
   cmI Tryz.func8 c8,
   cmI Tryz.func10 c10,
   cmI Tryz.func12 c12,
   cmI Tryz.func13 c13,
   cmI Tryz.func15 c15,
   cmI Tryz.func16 c16,
   cmI Tryz.func18 c18,
   cmI Tryz.func20 c20,
   cmI Tryz.func21 c21,
   cmI Tryz.func26 c26,
   cmI Tryz.func27 c27,
   cmI Tryz.func28 c28,
   cmI Tryz.func29 c29,
   cmI Tryz.func30 c30,
   cmI Tryz.func31 c31,
   cmI Tryz.func32 c32,
   cmI Tryz.func33 c33,
   cmI Tryz.func34 c34,
   cmI Tryz.func35 c35,
   cmI Tryz.func36 c36,
   cmI Tryz.func37 c37,
   cmI Tryz.func39 c39,
   cmI Tryz.func44 c44,
   cmI Tryz.func46 c46,
   cmI Tryz.func47 c47,
   cmI Tryz.func54 c54,
   cmI Tryz.func55 c55,
   cmI Tryz.func56 c56,
   cmI Tryz.func58 c58,
   cmI Tryz.func59 c59,
   cmI Tryz.func60 c60,
   cmI Tryz.func61 c61,
   cmI Tryz.func62 c62,
   cmI Tryz.func63 c63,
   cmI Tryz.func64 c64,
   cmI Tryz.func65 c65,
   cmI Tryz.func66 c66,
   cmI Tryz.func67 c67,
   cmI Tryz.func68 c68,
   cmI Tryz.func69 c69,
   cmI Tryz.func70 c70,
   cmI Tryz.func71 c71,
   cmI Tryz.func72 c72,
   cmI Tryz.func73 c73,
   cmI Tryz.func74 c74,
   cmI Tryz.func84 c84,
   cmI Tryz.func100 c100,
   cmI Tryz.func102 c102,
   cmI Tryz.func103 c103,
   cmI Tryz.func104 c104,
   cmI Tryz.func105 c105,
   ⟨Tryz.f106,Tryz.func106,by decide,_,c106⟩,
   cmI Tryz.func107 c107,
   cmI Tryz.func108 c108,
   cmI Tryz.func109 c109,
   cmI Tryz.func110 c110,
   cmI Tryz.func111 c111,
   cmI Tryz.func112 c112,
   cmI Tryz.func113 c113,
   cmI Tryz.func114 c114,
   cmI Tryz.func115 c115,
   cmI Tryz.func116 c116,
   cmI Tryz.func125 c125,
   cmI Tryz.func126 c126,
   cmI Tryz.func127 c127,
   cmI Tryz.func128 c128,
   cmI Tryz.func129 c129,
   cmI Tryz.func130 c130,
   cmI Tryz.func131 c131,
   cmI Tryz.func132 c132,
   cmI Tryz.func133 c133,
   cmI Tryz.func134 c134,
   cmI Tryz.func135 c135,
   cmI Tryz.func136 c136,
   cmI Tryz.func137 c137,
   cmI Tryz.func138 c138,
   cmI Tryz.func139 c139,
   cmI Tryz.func140 c140,
   cmI Tryz.func141 c141,
   cmI Tryz.func142 c142,
   cmI Tryz.func143 c143,
   cmI Tryz.func144 c144,
   cmI Tryz.func145 c145,
   cmI Tryz.func146 c146,
   cmI Tryz.func150 c150,
   cmI Tryz.func181 c181,
   cmI Tryz.func182 c182,
   cmI Tryz.func184 c184,
   cmI Tryz.func185 c185,
   cmI Tryz.func186 c186,
   cmI Tryz.func187 c187,
   cmI Tryz.func188 c188,
   cmI Tryz.func189 c189,
   cmI Tryz.func191 c191,
   cmI Tryz.func192 c192,
   cmI Tryz.func198 c198,
   cmI Tryz.func199 c199,
   cmI Tryz.func201 c201,
   cmI Tryz.func202 c202,
   cmI Tryz.func203 c203,
   cmI Tryz.func204 c204,
   cmI Tryz.func205 c205,
   cmI Tryz.func206 c206,
   cmI Tryz.func207 c207,
   cmI Tryz.func208 c208,
   cmI Tryz.func229 c229,
   cmI Tryz.func230 c230,
   cmI Tryz.func231 c231,
   cmI Tryz.func232 c232,
   cmI Tryz.func233 c233,
   cmI Tryz.func236 c236,
   cmI Tryz.func237 c237,
   cmI Tryz.func245 c245,
   cmI Tryz.func257 c257,
   cmI Tryz.func258 c258,trivial⟩
set_option maxHeartbeats 1000000 in
set_option maxRecDepth 100000 in
theorem zIh(a b:ByteArray)(w:World):
  Calls Tryz.prog 200 #[.string a,.string b] w fun e w'=>e= .returned (.int .i64 (Lib.compareBytes a.data.toList b.data.toList))/\w'=w:=by
 go_enter Tryz.func200,Tryz.ntmps200
 go_wp2
 rw[run_callFunc_extern Tryz.func235 (by kernel_rfl) (by kernel_rfl) (by kernel_rfl) (e:=Extern.BytealgCompare.compare) (by kernel_rfl),Lib.run_compareString];simp only[Result.andThen];rw[Oper.upon_value]
 go_wp2
 go_ret
 exact⟨rfl,rfl⟩
theorem zOB(f:Nat)(args:List D)(x:F)(h:zD1 f args=some x):zhJ Tryz.prog f/\∀(w:World) μ ρ c vs,zaq w.heap μ ρ c args vs->
  Calls Tryz.prog f ⟨vs⟩ w fun e w'=>∃v,e= .returned v/\Base w w'/\w.heap.size<=w'.heap.size/\(∀b,b<w.heap.size->w'.heap[b]? =w.heap[b]?)/\zaj w'.heap μ x v:=by
 unfold zD1 at h;cases hb:Nat.beq f 200 with
 |false=>rw[hb]at h;cases h
 |true=>
  rw[hb]at h;have hf:=Nat.eq_of_beq_eq_true hb;subst hf;refine⟨⟨Tryz.f200,Tryz.func200,rfl,by decide⟩,fun w μ ρ c vs hr=> ?_⟩;split at h
  .rename_i a b;cases h;simp only[zaq,Rel,zaj]at hr;obtain⟨_,_,rfl,rfl,_,_,rfl,rfl,rfl⟩ :=hr;refine (zIh ⟨⟨a⟩⟩ ⟨⟨b⟩⟩ w).mono fun e w' ⟨he,hw⟩ => ?_
   subst he hw;exact⟨_,rfl,Base.refl _,Nat.le_refl _,fun _ _=>rfl,by simp only[zaj]⟩
  .cases h
theorem zuW:∀(l:List Nat) n g,ztp l n=some g->n∈l/\cAt n=some g
 |[],n,g,h=>by cases h
 |p::l,n,g,h=>by
  have e:ztp (p::l) n= @Bool.rec (fun _=>Option Go.Vse.Fn) (ztp l n) (cAt p) (Nat.beq p n):=rfl;rw[e]at h;cases hb:Nat.beq p n with
  |true=>
   rw[hb]at h;rw[<-Nat.eq_of_beq_eq_true hb];exact⟨List.mem_cons_self,h⟩
  |false=>
   rw[hb]at h;have:=zuW l n g h;exact⟨List.mem_cons_of_mem _ this.1,this.2⟩
set_option maxRecDepth 100000 in
theorem zLP:(zyU.all fun n=>match Tryz.prog.funcs[n]? with
  |some F=>decide (F.name≠ "runtime.NumGoroutine")
  |none=>true)=true:=by kernel_rfl
theorem zEt(f:Nat)(g:Go.Vse.Fn)(h:zAu f=some g):zpQ f g:=by
 unfold zAu at h;cases hl:zqH fns f with
 |some g2=>
  rw[hl]at h;cases h;exact zuY fns zOF f g hl
 |none=>
  rw[hl]at h;obtain⟨h1,h2⟩ :=zuW zyU f g h;have hn:=List.all_eq_true.1 zLP f h1;unfold cAt at h2;cases hF:Tryz.prog.funcs[f]? with
  |none=>rw[hF]at h2;cases h2
  |some F=>
   rw[hF]at h2 hn;exact⟨F,hF,of_decide_eq_true hn,pur,h2⟩
theorem zOz(f:Nat)(args:List D)(h:T Ob)(n:Nat)(q:CR)(hq:zpc f args h n=some q):zgW Tryz.prog f args h n q:=by
 unfold zpc at hq;split at hq
 .rename_i hx;cases hq;exact (Classical.choose_spec hx).1
 .cases hq
theorem ziB:zmb Tryz.prog pur pr:=⟨zEt,zOB,zOz⟩
end Go.Proofs.YtdlcolcidohbkaaGreatDoor
