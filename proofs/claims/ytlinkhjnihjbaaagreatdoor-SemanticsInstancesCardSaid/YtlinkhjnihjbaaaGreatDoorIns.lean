/- slices.Insert of one value at the head of a slice of one element that has room: the two copies, in place. Conditions: none. -/
import Derived.Test.YtlinkhjnihjbaaaGreatDoorProg
import Derived.Test.YtlinkhjnihjbaaaGreatDoorVe
import Derived.WalkKit
import Derived.ProofKit
import Derived.Deep.RegionLaw
import Derived.Lib.Overlaps
import Derived.KernelRfl
set_option linter.all false
namespace Go.Proofs.YtlinkhjnihjbaaaGreatDoor
open Go Go.RowKit
set_option maxRecDepth 100000
set_option maxHeartbeats 4000000
theorem zxF{P:Program}{ops:Array Oper}{o:Oper}{a:Act}{w w':World}{v:Value}{K:Act->World->Prop}{Q:Exit->Act->World->Prop}{E:Prop}
  (hg:o.guard=none)(d s:Operand)(dT sT:TypeId)(hop:o.op=Op.call {callee:=Callee.builtin Builtin.copy,args:= #[d,s],argTypes:= #[dT,sT]})
  (dv sv:Value)(hd:a.eval d=dv)(hs:a.eval s=sv)(hrun:(Builtin.copy_ #[dT,sT] o.type #[dv,sv]).run P w= .ok v w')(hK:K (a.put o.dst v) w'):
  if Region.wanted o (yielded ops a.tmps)=true then Oper.wp P o a w K Q else E:=by
 have hw:Region.wanted o (yielded ops a.tmps)=true:=by simp[Region.wanted,hg]
 rw[if_pos hw];unfold Oper.wp;simp[execOp,hop,resolve,invoke,builtin,hd,hs,hrun,Result.andThen];exact hK
theorem zKU(w:World)(b bv ov C Cv:Nat)(hC:2<=C)
  (hov:(callFunc 165 #[.slice (some ⟨bv,ov,none⟩) 1 Cv,.slice (some ⟨b,1,none⟩) 1 (C - 1)]).run Tryz.prog w= .ok (.value (.bool false)) w)
  (w1 w2:World)(hcp1:(Builtin.copy_ #[99,99] 3 #[.slice (some ⟨b,1,none⟩) 1 (C - 1),.slice (some ⟨b,0,none⟩) 2 C]).run Tryz.prog w.drew= .ok (.int .i64 1) w1)
  (hcp2:(Builtin.copy_ #[99,99] 3 #[.slice (some ⟨b,0,none⟩) 2 C,.slice (some ⟨bv,ov,none⟩) 1 Cv]).run Tryz.prog w1= .ok (.int .i64 1) w2):
  Calls Tryz.prog 82 #[.slice (some ⟨b,0,none⟩) 1 C,.int .i64 0,.slice (some ⟨bv,ov,none⟩) 1 Cv] w fun e w'=>e= .returned (.slice (some ⟨b,0,none⟩) 2 C)/\w'=w2:=by
 have hgt:¬(C<2):=by omega
 have hw1:IntKind.i64.wrap 1=1:=rfl;have hw2:IntKind.i64.wrap 2=2:=rfl;have hC1:¬(C=1):=by omega
 go_enter Tryz.func82,Tryz.ntmps82
 go_wp2
 go_region_law (refine zxF rfl (.tmp 73) (.tmp 76) 99 99 rfl _ _ (by simp[Act.eval,Act.put]) (by simp[Act.eval,Act.put]) hcp1 ?_)
 go_wp2
 go_ret
 exact⟨rfl,rfl⟩
theorem zG8:Tryz.prog.underlying 99=some (.slice 36):=by kernel_rfl
theorem szo36:((Tryz.prog.info? 36).map (·.size)).isSome=true:=by kernel_rfl
theorem zIm:Go.Vse.InPlace Tryz.prog 82 1 99:=by
  intro w w1 w2 b bv ov C Cv hC hap h1 h2;obtain⟨hne,tA,kA,tB,kB,hsa,hsb,hkB,hfa,hfe⟩ :=hap;refine zKU w b bv ov C Cv hC ?_ w1 w2 h1 h2;rw[run_callFunc_extern Tryz.func165 (by kernel_rfl) (by kernel_rfl) (by kernel_rfl) (e:=Extern.SlicesOverlaps.overlaps Tryz.f165.params Tryz.f165.resultTypes) rfl];obtain⟨i,hi⟩ :=Option.isSome_iff_exists.1 szo36;obtain⟨inf,hinf,_⟩ :=Option.map_eq_some_iff.1 hi;have:=Go.Lib.run_overlaps_apart (P:=Tryz.prog) w 99 4 36 zG8 inf.size (by intro w;simp[sizeOf,typeInfo,hinf]) ⟨bv,ov,none⟩ ⟨b,1,none⟩ 1 Cv 1 (C - 1) hne tA tB kA kB hsa hsb hkB hfa hfe;exact (congrArg (Result.andThen · _) this).trans rfl
theorem zKX(w:World)(b bv ov C Cv:Nat)(hC:2<=C)
  (hov:(callFunc 167 #[.slice (some ⟨bv,ov,none⟩) 1 Cv,.slice (some ⟨b,3,none⟩) 1 (C - 1)]).run Tryz.prog w= .ok (.value (.bool false)) w)
  (w1 w2:World)(hcp1:(Builtin.copy_ #[48,48] 3 #[.slice (some ⟨b,3,none⟩) 1 (C - 1),.slice (some ⟨b,0,none⟩) 2 C]).run Tryz.prog w.drew= .ok (.int .i64 1) w1)
  (hcp2:(Builtin.copy_ #[48,48] 3 #[.slice (some ⟨b,0,none⟩) 2 C,.slice (some ⟨bv,ov,none⟩) 1 Cv]).run Tryz.prog w1= .ok (.int .i64 1) w2):
  Calls Tryz.prog 84 #[.slice (some ⟨b,0,none⟩) 1 C,.int .i64 0,.slice (some ⟨bv,ov,none⟩) 1 Cv] w fun e w'=>e= .returned (.slice (some ⟨b,0,none⟩) 2 C)/\w'=w2:=by
 have hgt:¬(C<2):=by omega
 have hw1:IntKind.i64.wrap 1=1:=rfl;have hw2:IntKind.i64.wrap 2=2:=rfl;have hC1:¬(C=1):=by omega
 go_enter Tryz.func84,Tryz.ntmps84
 go_wp2
 go_region_law (refine zxF rfl (.tmp 73) (.tmp 76) 48 48 rfl _ _ (by simp[Act.eval,Act.put]) (by simp[Act.eval,Act.put]) hcp1 ?_)
 go_wp2
 go_ret
 exact⟨rfl,rfl⟩
theorem zG6:Tryz.prog.underlying 48=some (.slice 82):=by kernel_rfl
theorem szo82:((Tryz.prog.info? 82).map (·.size)).isSome=true:=by kernel_rfl
theorem zIp:Go.Vse.InPlace Tryz.prog 84 3 48:=by
  intro w w1 w2 b bv ov C Cv hC hap h1 h2;obtain⟨hne,tA,kA,tB,kB,hsa,hsb,hkB,hfa,hfe⟩ :=hap;refine zKX w b bv ov C Cv hC ?_ w1 w2 h1 h2;rw[run_callFunc_extern Tryz.func167 (by kernel_rfl) (by kernel_rfl) (by kernel_rfl) (e:=Extern.SlicesOverlaps.overlaps Tryz.f167.params Tryz.f167.resultTypes) rfl];obtain⟨i,hi⟩ :=Option.isSome_iff_exists.1 szo82;obtain⟨inf,hinf,_⟩ :=Option.map_eq_some_iff.1 hi;have:=Go.Lib.run_overlaps_apart (P:=Tryz.prog) w 48 4 82 zG6 inf.size (by intro w;simp[sizeOf,typeInfo,hinf]) ⟨bv,ov,none⟩ ⟨b,3,none⟩ 1 Cv 1 (C - 1) hne tA tB kA kB hsa hsb hkB hfa hfe;exact (congrArg (Result.andThen · _) this).trans rfl
end Go.Proofs.YtlinkhjnihjbaaaGreatDoor
