/- 'ContainmentSound' returns true for every input, where the listed tables hold what the program's text lays; nothing that was there before is changed. (The frame follows the seat's worked example and the kit's skeleton.) -/
import Derived.Test.YtdlcolcidohbkaaGreatDoorCards
import Derived.Test.YtdlcolcidohbkaaGreatDoorFact0
import Derived.Test.YtdlcolcidohbkaaGreatDoorFact1
import Derived.Test.YtdlcolcidohbkaaGreatDoorTie
import Derived.Test.YtdlcolcidohbkaaGreatDoorAll
import Derived.Test.YtdlcolcidohbkaaGreatDoorPzm
import Derived.WalkKit
import Derived.ProofKit
import Derived.OpenShut
import Derived.ShutString
import Derived.ChangeOld
import Derived.Below
import Derived.Deep.DeepHandedRow
import Derived.Lib.LaidTab
import Derived.Stop.LaidErr
set_option linter.all false
noncomputable section
namespace Go.Proofs.YtdlcolcidohbkaaGreatDoor.containmentSound
open Go.ChangeShapes Go.WideShapes Go.ChangeAt Go.RowKit
set_option linter.unusedVariables false
set_option maxRecDepth 100000
theorem own:ownKnob Tryz.prog.godebug=none:=by kernel_rfl
theorem laidOut:laidOutB Tryz.prog=true:=by kernel_rfl
def nm0:String:=match Rows.containmentSoundRow.laid with
 |x::_=>x.1
 |_=> ""
theorem zGI:Tryz.prog.globalNamed nm0=some 0:=by kernel_rfl
theorem zOH:(Tryz.prog.globals[0]?).map (·.type)=some 280:=by kernel_rfl
theorem zDJ:Tryz.prog.cellsOf 280=32:=by kernel_rfl
def tab0:List Int:=[0,1,28,2,29,14,24,3,30,22,20,15,25,17,4,8,31,27,13,23,21,19,16,7,26,12,18,6,11,5,10,9]
def nm1:String:=match Rows.containmentSoundRow.laid with
 |_::x::_=>x.1
 |_=> ""
theorem zGJ:Tryz.prog.globalNamed nm1=some 1:=by kernel_rfl
theorem zOI:(Tryz.prog.globals[1]?).map (·.type)=some 281:=by kernel_rfl
theorem zDK:Tryz.prog.cellsOf 281=64:=by kernel_rfl
def tab1:List Int:=[0,1,56,2,57,49,28,3,61,58,42,50,38,29,17,4,62,47,59,36,45,43,51,22,53,39,33,30,24,18,12,5,63,55,48,27,60,41,37,16,46,35,44,21,52,32,23,11,54,26,40,15,34,20,31,10,25,14,19,9,13,8,7,6]
theorem cells5:Tryz.prog.cellsOf 5=1:=by kernel_rfl
theorem zQ9{W:World}(h:laidMet Tryz.prog Rows.containmentSoundRow.laid W):Lib.TabIs Tryz.prog W nm0 .u8 tab0:=
 Lib.tabIs_of_head (rest:=_) zGI zOH Tryz.underlying280 Tryz.underlying5 cells5 zDJ h
theorem zRc{W:World}(h:laidMet Tryz.prog Rows.containmentSoundRow.laid W):Lib.TabIs Tryz.prog W nm1 .u8 tab1:=
 Lib.tabIs_of_head (rest:=_) zGJ zOI Tryz.underlying281 Tryz.underlying5 cells5 zDK (laidMet.tail h)
theorem globs_in{W:World}(h:laidMet Tryz.prog Rows.containmentSoundRow.laid W):Go.Vse.zrt W.heap:=by
 intro n cs hn;have hn':zAo n=some cs:=hn;unfold zAo at hn';cases hb1:Nat.beq n 1 with
 |true=>
  rw[hb1]at hn';cases hn';rw[Nat.eq_of_beq_eq_true hb1];exact Go.Vse.zsH (zs:=tab1) (k:= .u8) fun j hj=>(zRc h).cell zGJ j hj
 |false=>
  rw[hb1]at hn';cases hb0:Nat.beq n 0 with
  |true=>
   rw[hb0]at hn';cases hn';rw[Nat.eq_of_beq_eq_true hb0];exact Go.Vse.zsH (zs:=tab0) (k:= .u8) fun j hj=>(zQ9 h).cell zGI j hj
  |false=>
   rw[hb0]at hn';cases hn'
def IsRow(k:IntKind)(w:World)(a:Option Addr)(len cap:Nat)(zs:List Int):Prop:=
 (a=none/\len=0/\cap=0/\zs=[])\/
 ∃x,a=some x/\len<=cap/\cap<=maxLen/\zs.length=cap/\(∀i,i<zs.length->w.cell? (x.add i)=some (.int k (zs.getD i 0)))/\∀n∈zs,(Lit.int k n).wf=true
theorem zmE(k:IntKind)(hk:k= .i64)(b:Bool)(len:Nat)(zs:List Int):zcG (Go.Vse.zpG k b len zs):=by
 subst hk;unfold Go.Vse.zpG;split
 .exact .inl rfl
 .exact .inr ⟨_,rfl⟩
theorem zvo{k:IntKind}{w:World}{a:Option Addr}{len cap:Nat}{zs:List Int}(h:IsRow k w a len cap zs):Go.Vse.zaj w.heap Go.Vse.zgS (Go.Vse.zpG k a.isNone len zs) (.slice a len cap):=
 Go.Vse.zJH (h.imp id fun⟨x,h1,h2,_,h4,h5,_⟩ =>⟨x,h1,h2,h4,h5⟩)
theorem frz_b{h:Nat->Option Go.Vse.Ob}{n:Nat}{d:Go.Vse.D}{b:Bool}{rd:List Nat}(hf:Go.Vse.frz h (n+1) d=some (.b b,rd)):d= .f (.b b):=by
 cases d with
 |f x=>simp only[Go.Vse.frz,Option.some.injEq,Prod.mk.injEq]at hf;rw[hf.1]
 |ag cs=>
  rw[Go.Vse.zqu]at hf;simp only[Go.Vse.om]at hf;cases h1:Go.Vse.zaT (Go.Vse.frz h n) cs with
  |none=>rw[h1]at hf;cases hf
  |some p=>rw[h1]at hf;simp at hf
 |tu cs=>
  rw[Go.Vse.zGH]at hf;simp only[Go.Vse.om]at hf;cases h1:Go.Vse.zaT (Go.Vse.frz h n) cs with
  |none=>rw[h1]at hf;cases hf
  |some p=>rw[h1]at hf;simp at hf
 |sl id off len es lim ex=>
  rw[Go.Vse.zfw]at hf;simp only[Go.Vse.om]at hf;cases h1:h id with
  |none=>rw[h1]at hf;cases hf
  |some o=>
   rw[h1]at hf;cases o with
   |arr es' ro els=>
    simp only[Option.bind_some,Go.Vse.fzS]at hf;split at hf
    .simp only[Go.Vse.om]at hf;cases h2:Go.Vse.zaU (Go.Vse.frz h n) ((els.drop off).take len)with
     |none=>rw[h2]at hf;cases hf
     |some p=>rw[h2]at hf;simp at hf
    .cases hf
   |_=>cases hf
 |_=>cases hf
theorem walk(a0:Option Addr)(len0 cap0:Nat)(z0:List Int)(a1:Option Addr)(len1 cap1:Nat)(z1:List Int)(a2:Option Addr)(len2 cap2:Nat)(z2:List Int)(w:World)(w0:IsRow .i64 w a0 len0 cap0 z0)(w1:IsRow .i64 w a1 len1 cap1 z1)(w2:IsRow .i64 w a2 len2 cap2 z2)(hL:laidMet Tryz.prog Rows.containmentSoundRow.laid w):
  Calls Tryz.prog 3 #[.slice a0 len0 cap0,.slice a1 len1 cap1,.slice a2 len2 cap2] w fun e w'=>e= .returned (.bool true)/\Below w.heap.size w w':=by
 obtain⟨q,rd,hc,hq⟩ :=ans3 (zmE .i64 rfl a0.isNone len0 z0) (zmE .i64 rfl a1.isNone len1 z1) (zmE .i64 rfl a2.isNone len2 z2);refine Go.Vse.land ziB (vs:=[.slice a0 len0 cap0,.slice a1 len1 cap1,.slice a2 len2 cap2]) (globs_in hL) ?_ hc (frz_b hq);simp only[Go.Vse.zaM];exact⟨_,_,rfl,zvo w0,⟨_,_,rfl,zvo w1,⟨_,_,rfl,zvo w2,rfl⟩⟩⟩
theorem contract(H:Type)(enc:TypeId×Value->H)(W:World)(base:Nat)(args:Array Value)(ds gs:List (DataW H))(before:List MemPlace)
  (hval:∀(j:Nat) t v,Tryz.f3.params[j]? =some t->args[j]? =some v->Value.okWide Tryz.prog W .any base t v)
  (hW:DataW.Whole enc Tryz.prog Tryz.f3.params.toList Rows.containmentSoundSpec.vars false W args.toList ds gs before)(hL:laidMetH Tryz.prog Rows.containmentSoundRow.laid W):
  Calls Tryz.prog 3 args W fun e W'=>∃v,e= .returned v/\Rows.containmentSoundSpec.post enc Tryz.prog Tryz.f3 false true false false W args v W':=by
 have hW':=hW;obtain⟨p,q,hA0,hV,rfl,hfz,hnd⟩ :=hW;have hA:DataW.TrodAll enc Tryz.prog W 0 (fun _=>true) true Tryz.f3.params.toList args.toList ds p:=hA0;rw[Tryz.params3]at hA hval;obtain⟨v0,vs0,d0,ds0,p0,q0,hargs,rfl,rfl,h0,r0⟩ :=trodAll_cons hA;obtain⟨v1,vs1,d1,ds1,p1,q1,rfl,rfl,rfl,h1,r1⟩ :=trodAll_cons r0;obtain⟨v2,vs2,d2,ds2,p2,q2,rfl,rfl,rfl,h2,r2⟩ :=trodAll_cons r1;obtain⟨rfl,rfl,rfl⟩ :=trodAll_nil r2;obtain rfl:args= #[v0,v1,v2]:=by cases args;simp_all
 obtain⟨rfl,rfl⟩ :=trodVars_none hV;obtain⟨a0,len0,cap0,rfl⟩ :=okWide_slice Tryz.underlying22 (hval 0 22 v0 rfl rfl);have k0:=h0;have lt0:∀x∈p0,x.block<W.heap.size:=by obtain⟨m,hm⟩ :=k0;exact DataW.trod_lt m _ _ _ hm
 obtain⟨z0,w0⟩ :∃zs,IsRow .i64 W a0 len0 cap0 zs:=by
  obtain⟨fuel,hf⟩ :=h0;rcases open_ints Tryz.underlying22 Tryz.underlying3 (by kernel_rfl) hf with⟨hcs,_⟩ |⟨x,l,c,zs,hcs,_,hl,hm,hz,_,hcell,hwz⟩
  .simp[Value.cells]at hcs;obtain⟨rfl,rfl,rfl⟩ :=hcs;exact⟨[],.inl ⟨rfl,rfl,rfl,rfl⟩⟩
  .simp[Value.cells]at hcs;obtain⟨rfl,rfl,rfl⟩ :=hcs;exact⟨zs,.inr ⟨_,rfl,hl,hm,by simpa using hz,hcell,hwz⟩⟩
 obtain⟨a1,len1,cap1,rfl⟩ :=okWide_slice Tryz.underlying22 (hval 1 22 v1 rfl rfl);have k1:=h1;have lt1:∀x∈p1,x.block<W.heap.size:=by obtain⟨m,hm⟩ :=k1;exact DataW.trod_lt m _ _ _ hm
 obtain⟨z1,w1⟩ :∃zs,IsRow .i64 W a1 len1 cap1 zs:=by
  obtain⟨fuel,hf⟩ :=h1;rcases open_ints Tryz.underlying22 Tryz.underlying3 (by kernel_rfl) hf with⟨hcs,_⟩ |⟨x,l,c,zs,hcs,_,hl,hm,hz,_,hcell,hwz⟩
  .simp[Value.cells]at hcs;obtain⟨rfl,rfl,rfl⟩ :=hcs;exact⟨[],.inl ⟨rfl,rfl,rfl,rfl⟩⟩
  .simp[Value.cells]at hcs;obtain⟨rfl,rfl,rfl⟩ :=hcs;exact⟨zs,.inr ⟨_,rfl,hl,hm,by simpa using hz,hcell,hwz⟩⟩
 obtain⟨a2,len2,cap2,rfl⟩ :=okWide_slice Tryz.underlying22 (hval 2 22 v2 rfl rfl);have k2:=h2;have lt2:∀x∈p2,x.block<W.heap.size:=by obtain⟨m,hm⟩ :=k2;exact DataW.trod_lt m _ _ _ hm
 obtain⟨z2,w2⟩ :∃zs,IsRow .i64 W a2 len2 cap2 zs:=by
  obtain⟨fuel,hf⟩ :=h2;rcases open_ints Tryz.underlying22 Tryz.underlying3 (by kernel_rfl) hf with⟨hcs,_⟩ |⟨x,l,c,zs,hcs,_,hl,hm,hz,_,hcell,hwz⟩
  .simp[Value.cells]at hcs;obtain⟨rfl,rfl,rfl⟩ :=hcs;exact⟨[],.inl ⟨rfl,rfl,rfl,rfl⟩⟩
  .simp[Value.cells]at hcs;obtain⟨rfl,rfl,rfl⟩ :=hcs;exact⟨zs,.inr ⟨_,rfl,hl,hm,by simpa using hz,hcell,hwz⟩⟩
 clear hA0;simp only[List.append_nil]at hW';refine (walk a0 len0 cap0 z0 a1 len1 cap1 z1 a2 len2 cap2 z2 W w0 w1 w2 hL).mono fun e W' ⟨he,bel⟩ => ?_
 subst he;exact⟨_,rfl,_,_,_,[],_,[],hW',trodAll_mk1 (shut_bool Tryz.underlying4 _),(trodAll_cons_mk (Below.trod laidOut (by kernel_rfl) (of_decide_eq_true (by kernel_rfl)) k0 bel lt0) (trodAll_cons_mk (Below.trod laidOut (by kernel_rfl) (of_decide_eq_true (by kernel_rfl)) k1 bel lt1) (trodAll_cons_mk (Below.trod laidOut (by kernel_rfl) (of_decide_eq_true (by kernel_rfl)) k2 bel lt2) trodAll_mk0))),rfl,bel.frame _,fun h=>by cases h⟩
def laidWorld(os:Os):World:=
  {World.holding Tryz.prog os ⟨#[],#[],[]⟩with heap:=(((World.holding Tryz.prog os ⟨#[],#[],[]⟩).heap.modify 0 fun
      | .cells _ t frozen=> .cells #[.int .u8 0,.int .u8 1,.int .u8 28,.int .u8 2,.int .u8 29,.int .u8 14,.int .u8 24,.int .u8 3,.int .u8 30,.int .u8 22,.int .u8 20,.int .u8 15,.int .u8 25,.int .u8 17,.int .u8 4,.int .u8 8,.int .u8 31,.int .u8 27,.int .u8 13,.int .u8 23,.int .u8 21,.int .u8 19,.int .u8 16,.int .u8 7,.int .u8 26,.int .u8 12,.int .u8 18,.int .u8 6,.int .u8 11,.int .u8 5,.int .u8 10,.int .u8 9] t frozen
      |o=>o).modify 1 fun
      | .cells _ t frozen=> .cells #[.int .u8 0,.int .u8 1,.int .u8 56,.int .u8 2,.int .u8 57,.int .u8 49,.int .u8 28,.int .u8 3,.int .u8 61,.int .u8 58,.int .u8 42,.int .u8 50,.int .u8 38,.int .u8 29,.int .u8 17,.int .u8 4,.int .u8 62,.int .u8 47,.int .u8 59,.int .u8 36,.int .u8 45,.int .u8 43,.int .u8 51,.int .u8 22,.int .u8 53,.int .u8 39,.int .u8 33,.int .u8 30,.int .u8 24,.int .u8 18,.int .u8 12,.int .u8 5,.int .u8 63,.int .u8 55,.int .u8 48,.int .u8 27,.int .u8 60,.int .u8 41,.int .u8 37,.int .u8 16,.int .u8 46,.int .u8 35,.int .u8 44,.int .u8 21,.int .u8 52,.int .u8 32,.int .u8 23,.int .u8 11,.int .u8 54,.int .u8 26,.int .u8 40,.int .u8 15,.int .u8 34,.int .u8 20,.int .u8 31,.int .u8 10,.int .u8 25,.int .u8 14,.int .u8 19,.int .u8 9,.int .u8 13,.int .u8 8,.int .u8 7,.int .u8 6] t frozen
      |o=>o)}
set_option maxRecDepth 100000 in
theorem laid_met(os:Os):laidMet Tryz.prog Rows.containmentSoundRow.laid ((laidWorld os).forCall (fun _ _=>0) ⟨#[],#[.slice none 0 0,.slice none 0 0,.slice none 0 0],[]⟩).memory:=
 laidMet_of_run' 8 (by kernel_rfl) (by kernel_rfl)
set_option maxRecDepth 100000 in
theorem reads(os:Os){H:Type}(enc:TypeId×Value->H):∃places,DataW.whole enc Tryz.prog ((laidWorld os).forCall (fun _ _=>0) ⟨#[],#[.slice none 0 0,.slice none 0 0,.slice none 0 0],[]⟩).memory Tryz.f3.params.toList Rows.containmentSoundSpec.vars false #[Value.slice none 0 0,Value.slice none 0 0,Value.slice none 0 0].toList 8=some ([.nil,.nil,.nil],[],places):=
 ⟨[],by kernel_rfl⟩
set_option maxRecDepth 100000 in
theorem lifted(os:Os)(started:os.Started)(H:Type)(enc:TypeId×Value->H)(F:Stop.Interp):
  ReturnsInHanded {} Tryz.checked os 3 .any ((OpenSpec.ofChange Rows.containmentSoundSpec).preRow enc Tryz.prog Tryz.f3 Rows.containmentSoundRow.domain false Rows.containmentSoundRow.laid) (((OpenSpec.ofChange Rows.containmentSoundSpec).at F).post enc Tryz.prog Tryz.f3 false true false false):=by
 obtain⟨places,hx⟩ :=reads os enc;refine returnsInHanded_of_row (C:=Tryz.checked) (s:=OpenSpec.ofChange Rows.containmentSoundSpec) own started (by kernel_rfl) Tryz.func3
  (witness_row_at (enc:=enc) (C:=Tryz.checked) false (laidWorld os) #[.slice none 0 0,.slice none 0 0,.slice none 0 0] rfl (by kernel_rfl) (by kernel_rfl) (by kernel_rfl)
   (OpenSpec.preRow_of_cond 8 hx (by kernel_rfl) (fun k hk=>by cases hk) (by kernel_rfl) (laid_met os))) ?_
 intro W base args ds gs before hval hW _ _ _ hL _ _;exact contract H enc W base args ds gs before hval hW hL
theorem closed:joinedFacts Tryz.prog 3 Tryz.f3 (OpenSpec.ofChange Rows.containmentSoundSpec).bare Rows.containmentSoundRow=true:=by
 unfold joinedFacts;rw[fIn,fUn,fRe,fNa]
 kernel_rfl
theorem said:Rows.ContainmentSoundSaid:=
 OpenClaim.holds_of_cond 3 Tryz.f3 rfl rfl rfl rfl rfl rfl rfl ⟨rfl,rfl,rfl,rfl,rfl⟩ rfl rfl rfl rfl rfl (by kernel_rfl) Tryz.func3 closed
  (of_decide_eq_true (by kernel_rfl)) (by unfold Func.isWrapper;first|(rw[if_pos (by decide+kernel)];kernel_rfl)|(rw[if_neg (by decide+kernel)];exact⟨rfl,rfl⟩))
  (fun os started H enc _ F=>by rw[OpenClaim.pre_eq_preRow];exact lifted os started H enc F)
theorem plain(f:FuncId)(fn:Func)(hf:Tryz.pinned.checked.prog.funcNamed Rows.containmentSoundRow.func=some f)(hfn:Tryz.pinned.checked.prog.funcs[f]? =some fn):
  false=Tryz.pinned.checked.prog.looks []/\∀(j:Nat) t,fn.params[j]? =some t->Tryz.pinned.checked.prog.wantsStandIn t=false:=by
 obtain rfl:f=3:=Option.some.inj ((show Tryz.prog.funcNamed Rows.containmentSoundRow.func=some 3 by kernel_rfl).symm.trans hf) |>.symm;obtain rfl:fn=Tryz.f3:=(Option.some.inj (Tryz.func3.symm.trans hfn)).symm;refine⟨by kernel_rfl,fun j t ht=> ?_⟩;rw[Tryz.params3]at ht;have hm:=Array.mem_of_getElem? ht;simp at hm;rcases hm with rfl
 .exact (show Tryz.prog.wantsStandIn 22=false by kernel_rfl)
theorem noGo:Tryz.prog.funcs.any Func.goes=false:=by kernel_rfl
theorem goes_no(func:String):Tryz.prog.goesAt .entering func=false:=by
 have h1:∀g:Nat,(Tryz.prog.funcs[g]?).any Func.goes=false:=by
  intro g;cases hg:Tryz.prog.funcs[g]? with
  |none=>rfl
  |some fn=>
   have hm:=Array.mem_of_getElem? hg;have:=noGo;rw[Array.any_eq_false']at this;simpa using this fn hm
 have h2:∀f,Tryz.prog.goes f=false:=by
  intro f;unfold Program.goes;rw[noGo,Bool.and_false,Bool.or_false];rw[List.any_eq_false];intro g _;simp[h1 g]
 unfold Program.goesAt Program.goesFrom;rw[Bool.or_false];cases Tryz.prog.funcNamed func with
 |none=>rfl
 |some f=>simpa using h2 f
theorem card:Rows.ContainmentSoundCardSaid:=
 Claim7.holds_tied_plain_at .later [] _ _ _ _ said (fun _ h=>by cases h) (by kernel_rfl) (fun _ h=>by cases h) containmentSound_row_tie rfl ⟨rfl,rfl⟩ (by kernel_rfl) rfl plain (goes_no _).symm
#print axioms card
end Go.Proofs.YtdlcolcidohbkaaGreatDoor.containmentSound
