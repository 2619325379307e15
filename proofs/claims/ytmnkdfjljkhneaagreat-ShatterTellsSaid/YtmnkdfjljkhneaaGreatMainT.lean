/- 'ShatterTells' returns true for every list of numbers and every three numbers, and changes nothing that was there before. Conditions: none. (The frame was written by the kit's program proof-skeleton.mjs.) -/
import Derived.Test.YtmnkdfjljkhneaaGreatPp
import Derived.Test.YtmnkdfjljkhneaaGreatAll
import Derived.Test.YtmnkdfjljkhneaaGreatRows
import Derived.WalkKit
import Derived.ProofKit
import Derived.OpenShut
import Derived.ShutString
import Derived.ChangeOld
import Derived.Below
set_option linter.all false
set_option linter.all false
namespace Go.Proofs.YtmnkdfjljkhneaaGreat.shatterTells
open Go.ChangeShapes Go.WideShapes Go.ChangeAt Go.RowKit
open Go.ChangeMaps (open_string shut_string)
set_option linter.unusedVariables false
theorem own:ownKnob Tryz.prog.godebug=none:=by kernel_rfl
theorem laidOut:laidOutB Tryz.prog=true:=by kernel_rfl
def IsRow(k:IntKind)(w:World)(a:Option Addr)(len cap:Nat)(zs:List Int):Prop:=
 (a=none/\len=0/\cap=0/\zs=[])\/
 ∃x,a=some x/\len<=cap/\cap<=maxLen/\zs.length=cap/\(∀i,i<zs.length->w.cell? (x.add i)=some (.int k (zs.getD i 0)))/\∀n∈zs,(Lit.int k n).wf=true
theorem zyO(k:IntKind)(hk:k= .i64)(b:Bool)(len:Nat)(zs:List Int):zg4 (Go.Vse.znE k b len zs):=by
 subst hk;unfold Go.Vse.znE;split
 .exact .inl rfl
 .exact .inr ⟨_,rfl⟩
theorem zPW{k:IntKind}{w:World}{a:Option Addr}{len cap:Nat}{zs:List Int}(h:IsRow k w a len cap zs):Go.Vse.zas w.heap Go.Vse.zhB (Go.Vse.znE k a.isNone len zs) (.slice a len cap):=
 Go.Vse.zMh (h.imp id fun⟨x,h1,h2,_,h4,h5,_⟩ =>⟨x,h1,h2,h4,h5⟩)
theorem frz_b{h:Nat->Option Go.Vse.Ob}{n:Nat}{d:Go.Vse.D}{b:Bool}{rd:List Nat}(hf:Go.Vse.frz h (n+1) d=some (.b b,rd)):d= .f (.b b):=by
 cases d with
 |f x=>simp only[Go.Vse.frz,Option.some.injEq,Prod.mk.injEq]at hf;rw[hf.1]
 |ag cs=>
  rw[Go.Vse.zov]at hf;simp only[Go.Vse.om]at hf;cases h1:Go.Vse.za7 (Go.Vse.frz h n) cs with
  |none=>rw[h1]at hf;cases hf
  |some p=>rw[h1]at hf;simp at hf
 |tu cs=>
  rw[Go.Vse.zHY]at hf;simp only[Go.Vse.om]at hf;cases h1:Go.Vse.za7 (Go.Vse.frz h n) cs with
  |none=>rw[h1]at hf;cases hf
  |some p=>rw[h1]at hf;simp at hf
 |sl id off len es lim ex=>
  rw[Go.Vse.zdx]at hf;simp only[Go.Vse.om]at hf;cases h1:h id with
  |none=>rw[h1]at hf;cases hf
  |some o=>
   rw[h1]at hf;cases o with
   |arr es' ro els=>
    simp only[Option.bind_some,Go.Vse.fzS]at hf;split at hf
    .simp only[Go.Vse.om]at hf;cases h2:Go.Vse.zaQ (Go.Vse.frz h n) ((els.drop off).take len)with
     |none=>rw[h2]at hf;cases hf
     |some p=>rw[h2]at hf;simp at hf
    .cases hf
   |_=>cases hf
 |_=>cases hf
theorem walk(a0:Option Addr)(len0 cap0:Nat)(z0:List Int)(a1:Int)(a2:Int)(a3:Int)(w:World)(w0:IsRow .i64 w a0 len0 cap0 z0)(w1:(Lit.int .i64 a1).wf=true)(w2:(Lit.int .i64 a2).wf=true)(w3:(Lit.int .u8 a3).wf=true):
  Calls Tryz.prog 3 #[.slice a0 len0 cap0,.int .i64 a1,.int .i64 a2,.int .u8 a3] w fun e w'=>e= .returned (.bool true)/\Below w.heap.size w w':=by
 obtain⟨q,rd,hc,hq⟩ :=ans3 (zyO .i64 rfl a0.isNone len0 z0) a1 a2 a3;refine Go.Vse.land ztB (vs:=[.slice a0 len0 cap0,.int .i64 a1,.int .i64 a2,.int .u8 a3]) (fun n cs h=>by cases h) ?_ hc (frz_b hq);simp only[Go.Vse.zaX];exact⟨_,_,rfl,zPW w0,_,_,rfl,rfl,_,_,rfl,rfl,_,_,rfl,rfl,rfl⟩
set_option maxRecDepth 100000 in
theorem lifted(os:Os)(started:os.Started)(H:Type)(enc:TypeId×Value->H):
  ReturnsInHanded {} Tryz.checked os 3 .any (Rows.shatterTellsSpec.pre6 enc Tryz.prog Tryz.f3 Rows.shatterTellsRow.domain false) (Rows.shatterTellsSpec.post enc Tryz.prog Tryz.f3 false true false false):=by
 refine returnsInHanded_of_change (C:=Tryz.checked) own started (by kernel_rfl) Tryz.func3
  (ChangeSpec.witness6 (enc:=enc) (C:=Tryz.checked) false ⟨#[],#[.slice none 0 0,.int .i64 0,.int .i64 0,.int .u8 0],[]⟩ 8 (by kernel_rfl) (by kernel_rfl) (by kernel_rfl) (by kernel_rfl)) ?_
 intro W base args ds gs before hval0 hW hcnd _;have hval:∀(j:Nat) t v,Tryz.f3.params[j]? =some t->args[j]? =some v->Value.okWide Tryz.prog W .any base t v:=hval0
 have hW':=hW;obtain⟨p,q,hA0,hV,rfl,hfz,hnd⟩ :=hW;have hA:DataW.TrodAll enc Tryz.prog W 0 (fun _=>true) true Tryz.f3.params.toList args.toList ds p:=hA0;rw[Tryz.params3]at hA hval;obtain⟨v0,vs0,d0,ds0,p0,q0,hargs,rfl,rfl,h0,r0⟩ :=trodAll_cons hA;obtain⟨v1,vs1,d1,ds1,p1,q1,rfl,rfl,rfl,h1,r1⟩ :=trodAll_cons r0;obtain⟨v2,vs2,d2,ds2,p2,q2,rfl,rfl,rfl,h2,r2⟩ :=trodAll_cons r1;obtain⟨v3,vs3,d3,ds3,p3,q3,rfl,rfl,rfl,h3,r3⟩ :=trodAll_cons r2;obtain⟨rfl,rfl,rfl⟩ :=trodAll_nil r3;obtain rfl:args= #[v0,v1,v2,v3]:=by cases args;simp_all
 obtain⟨rfl,rfl⟩ :=trodVars_none hV;obtain⟨a0,len0,cap0,rfl⟩ :=okWide_slice Tryz.underlying22 (hval 0 22 v0 rfl rfl);have k0:=h0;have lt0:∀x∈p0,x.block<W.heap.size:=by obtain⟨m,hm⟩ :=k0;exact DataW.trod_lt m _ _ _ hm
 obtain⟨z0,w0⟩ :∃zs,IsRow .i64 W a0 len0 cap0 zs:=by
  obtain⟨fuel,hf⟩ :=h0;rcases open_ints Tryz.underlying22 Tryz.underlying3 (by kernel_rfl) hf with⟨hcs,_⟩ |⟨x,l,c,zs,hcs,_,hl,hm,hz,_,hcell,hwz⟩
  .simp[Value.cells]at hcs;obtain⟨rfl,rfl,rfl⟩ :=hcs;exact⟨[],.inl ⟨rfl,rfl,rfl,rfl⟩⟩
  .simp[Value.cells]at hcs;obtain⟨rfl,rfl,rfl⟩ :=hcs;exact⟨zs,.inr ⟨_,rfl,hl,hm,by simpa using hz,hcell,hwz⟩⟩
 obtain⟨a1,rfl,rfl,rfl,w1⟩ :=open_int Tryz.underlying3 (hval 1 3 v1 rfl rfl) h1;obtain⟨a2,rfl,rfl,rfl,w2⟩ :=open_int Tryz.underlying2 (hval 2 2 v2 rfl rfl) h2;obtain⟨a3,rfl,rfl,rfl,w3⟩ :=open_int Tryz.underlying5 (hval 3 5 v3 rfl rfl) h3;clear hA0 hval0;refine (walk a0 len0 cap0 z0 a1 a2 a3 W w0 w1 w2 w3).mono fun e W' ⟨he,bel⟩ => ?_
 subst he;exact⟨_,rfl,_,_,_,[],_,[],hW',trodAll_mk1 (shut_bool Tryz.underlying4 _),(trodAll_cons_mk (Below.trod laidOut (by kernel_rfl) (of_decide_eq_true (by kernel_rfl)) k0 bel lt0) (trodAll_cons_mk (shut_int Tryz.underlying3 w1) (trodAll_cons_mk (shut_int Tryz.underlying2 w2) (trodAll_cons_mk (shut_int Tryz.underlying5 w3) trodAll_mk0)))),rfl,bel.frame _,fun h=>by cases h⟩
theorem over:Rows.shatterTellsRow.holds Tryz.pinned (OpenSpec.ofChange Rows.shatterTellsSpec):=
 OpenClaim.holds_of_wide 3 Tryz.f3 rfl rfl rfl rfl rfl rfl rfl ⟨rfl,rfl,rfl,rfl,rfl⟩ rfl rfl rfl rfl rfl (by kernel_rfl) Tryz.func3 (by kernel_rfl)
  (of_decide_eq_true (by kernel_rfl)) (by unfold Func.isWrapper;first|(rw[if_pos (by decide+kernel)];kernel_rfl)|(rw[if_neg (by decide+kernel)];exact⟨rfl,rfl⟩))
  (fun os started H enc _=>lifted os started H enc)
theorem proved:Rows.ShatterTellsSaid:=over
#print axioms proved
end Go.Proofs.YtmnkdfjljkhneaaGreat.shatterTells
