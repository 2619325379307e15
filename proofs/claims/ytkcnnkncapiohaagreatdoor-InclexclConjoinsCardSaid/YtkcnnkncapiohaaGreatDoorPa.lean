/- The resolved code of the functions that the laws reach. Written by program. -/
import Derived.Test.YtkcnnkncapiohaaGreatDoorCode0
set_option linter.all false
set_option maxRecDepth 100000
set_option maxHeartbeats 4000000
noncomputable section
namespace Go.Proofs.YtkcnnkncapiohaaGreatDoor
open Go.Vse
open Go (BinOp IntKind UnOp)
def g205:Go.Vse.Fn:=⟨25,[.t 2],oZ [oR 2 (.mv (.k (.i .i64 0)))]
 (.seq (oD [oM 3 0,oR 4 (.bin .geq (.t 3) (.k (.i .u64 4294967296)))] 4 (oZ [oM 5 0,oR 6 (.bin .shr (.t 5) (.k (.i .u64 32))),oM 0 6]
 (.reg [oR 2 (.mv (.k (.i .i64 32)))])) .skip)
 (.seq (oD [oM 7 0,oR 8 (.bin .geq (.t 7) (.k (.i .u64 65536)))] 8 (oZ [oM 9 0,oR 10 (.bin .shr (.t 9) (.k (.i .u64 16))),oM 0 10]
 (.reg [oM 11 2,oR 12 (.bin .add (.t 11) (.k (.i .i64 16))),oM 2 12])) .skip)
 (.seq (oD [oM 13 0,oR 14 (.bin .geq (.t 13) (.k (.i .u64 256)))] 14 (oZ [oM 15 0,oR 16 (.bin .shr (.t 15) (.k (.i .u64 8))),oM 0 16]
 (.reg [oM 17 2,oR 18 (.bin .add (.t 17) (.k (.i .i64 8))),oM 2 18])) .skip)
 (oZ [oM 19 2,oM 20 0,oR 21 (.cvi .u8 (.t 20)),oR 22 (.ixs (.k (.s [0,1,2,2,3,3,3,3,4,4,4,4,4,4,4,4,5,5,5,5,5,5,5,5,5,5,5,5,5,5,5,5,6,6,6,6,6,6,6,6,6,6,6,6,6,6,6,6,6,6,6,6,6,6,6,6,6,6,6,6,6,6,6,6,7,7,7,7,7,7,7,7,7,7,7,7,7,7,7,7,7,7,7,7,7,7,7,7,7,7,7,7,7,7,7,7,7,7,7,7,7,7,7,7,7,7,7,7,7,7,7,7,7,7,7,7,7,7,7,7,7,7,7,7,7,7,7,7,8,8,8,8,8,8,8,8,8,8,8,8,8,8,8,8,8,8,8,8,8,8,8,8,8,8,8,8,8,8,8,8,8,8,8,8,8,8,8,8,8,8,8,8,8,8,8,8,8,8,8,8,8,8,8,8,8,8,8,8,8,8,8,8,8,8,8,8,8,8,8,8,8,8,8,8,8,8,8,8,8,8,8,8,8,8,8,8,8,8,8,8,8,8,8,8,8,8,8,8,8,8,8,8,8,8,8,8,8,8,8,8,8,8,8,8,8,8,8,8,8,8,8,8,8,8,8,8])) (.t 21)),oR 23 (.cvi .i64 (.t 22)),oR 24 (.bin .add (.t 19) (.t 23)),oM 2 24]
 .ret))))⟩
def g206:Go.Vse.Fn:=⟨4,[.t 2],oZ [oR 2 (.mv (.k (.i .i64 0)))]
 (.seq (oD [oM 3 0] 3 (oZ [oR 2 (.mv (.k (.i .i64 1)))]
 .ret) .skip)
 (oZ [oR 2 (.mv (.k (.i .i64 0)))]
 .ret))⟩
def g207:Go.Vse.Fn:=⟨8,[.t 2],oZ [oR 2 (.mv (.k (.b false)))]
 (oZ [oM 3 0,oM 4 0,oR 5 (.bin .sub (.t 4) (.k (.i .i64 1))),oR 6 (.bin .and (.t 3) (.t 5)),oR 7 (.bin .eql (.t 6) (.k (.i .i64 0))),oM 2 7]
 .ret)⟩
def g208:Go.Vse.Fn:=⟨8,[.t 2],oZ [oR 2 (.mv (.k (.i .i64 0)))]
 (.seq (.cond (.k (.b false)) (oZ [oM 3 0,oR 4 (.cvi .u32 (.t 3)),oR 5 (.call 242 [(.t 4)]),oM 2 5]
 .ret) .skip)
 (oZ [oM 6 0,oR 7 (.call 243 [(.t 6)]),oM 2 7]
 .ret))⟩
def zBD:Go.Vse.Fn:=⟨55,[.t 4],oZ [oR 4 (.mv (.k .nils))]
 (oZ [oR 5 (.mv (.k .nils))]
 (oZ [oR 6 (.mv (.k (.i .u64 0)))]
 (.seq (oZ [oR 7 (.mv (.k (.i .i64 0)))]
 (.blk 0 (.loop (.seq (oD [oM 8 7,oM 9 0,oR 10 (.len (.t 9)),oR 11 (.bin .lss (.t 8) (.t 10)),oM 12 11,oH 13 12 (.mv (.t 7)),oH 14 12 (.mv (.t 1)),oH 15 12 (.len (.t 14)),oH 16 12 (.bin .lss (.t 13) (.t 15)),oR 17 (.pick (.t 12) (.k (.b true)) (.t 16))] 17 .skip (.exit 0))
 (.seq (.blk 1 (.seq (oD [oM 20 7,oM 21 0,oR 22 (.len (.t 21)),oR 23 (.bin .lss (.t 20) (.t 22))] 23 (.reg [oM 24 6,oM 25 0,oM 26 7,oI 27 1 25 26,oK 28 1 27,oR 29 (.cvi .u64 (.t 28)),oR 30 (.bin .add (.t 24) (.t 29)),oM 6 30]) .skip)
 (.seq (oD [oM 31 7,oM 32 1,oR 33 (.len (.t 32)),oR 34 (.bin .lss (.t 31) (.t 33))] 34 (.reg [oM 35 6,oM 36 1,oM 37 7,oI 38 1 36 37,oK 39 1 38,oR 40 (.cvi .u64 (.t 39)),oR 41 (.bin .add (.t 35) (.t 40)),oM 6 41]) .skip)
 (oZ [oM 42 5,oM 43 6,oR 44 (.cvi .u32 (.t 43)),oR 45 (.bsf 1 [.i .u32 0] 1 [(0,(.t 44))]),oR 46 (.app 1 4 (.t 42) (.t 45)),oM 5 46]
 (.reg [oM 47 6,oR 48 (.bin .shr (.t 47) (.k (.i .u64 32))),oM 6 48])))))
 (.reg [oM 18 7,oR 19 (.bin .add (.t 18) (.k (.i .i64 1))),oM 7 19]))))))
 (oZ [oM 49 5,oM 50 6,oR 51 (.cvi .u32 (.t 50)),oR 52 (.bsf 1 [.i .u32 0] 1 [(0,(.t 51))]),oR 53 (.app 1 4 (.t 49) (.t 52)),oR 54 (.call 122 [(.t 53)]),oM 4 54]
 .ret))))⟩
def zBE:Go.Vse.Fn:=⟨11,[.cell 2 true 3],oZ [oR 1 (.box (.t 0)),oR 2 (.new [.b false,.nils,.nils])]
 (oZ [oF 3 0 1,oK 4 1 3,oR 5 (.un .not (.t 4)),oF 6 1 1,oK 7 1 6,oF 8 2 1,oK 9 1 8,oR 10 (.callp 78 [(.t 5),(.t 7),(.t 9)]),oS 3 2 10]
 .ret)⟩
def g211:Go.Vse.Fn:=⟨11,[.cell 2 true 3],oZ [oR 2 (.new [.b false,.nils,.nils])]
 (oZ [oM 6 0,oR 7 (.callp 93 [(.t 6),(.k (.i .i64 1))]),oM 5 7,oR 8 (.ext (.t 5) 0),oR 9 (.ext (.t 5) 1),oR 3 (.new [.b false,.nils,.nils]),oS 3 3 8,oM 4 9]
 (oZ [oL 10 3 3,oS 3 2 10]
 .ret))⟩
def g212:Go.Vse.Fn:=⟨40,[.t 4,.t 5],oZ [oR 4 (.mv (.k .nils)),oR 5 (.mv (.k (.i .u64 0)))]
 (oZ [oM 9 0,oR 10 (.len (.t 9)),oR 11 (.mks 1 4 [.i .u32 0] (.t 10) (.t 10)),oM 6 11]
 (oZ [oR 7 (.mv (.k (.i .u64 0)))]
 (.seq (oZ [oM 12 0,oR 13 (.len (.t 12)),oR 14 (.bin .sub (.t 13) (.k (.i .i64 1))),oM 8 14]
 (.blk 0 (.loop (.seq (oD [oM 15 8,oR 16 (.bin .geq (.t 15) (.k (.i .i64 0)))] 16 .skip (.exit 0))
 (.seq (.blk 1 (oZ [oM 19 7,oR 20 (.bin .shl (.t 19) (.k (.i .u64 32))),oM 21 0,oM 22 8,oI 23 1 21 22,oK 24 1 23,oR 25 (.cvi .u64 (.t 24)),oR 26 (.bin .add (.t 20) (.t 25)),oM 7 26]
 (oZ [oM 27 6,oM 28 8,oM 29 7,oM 30 1,oR 31 (.bin .quo (.t 29) (.t 30)),oR 32 (.cvi .u32 (.t 31)),oI 33 1 27 28,oS 1 33 32]
 (.reg [oM 34 7,oM 35 1,oR 36 (.bin .rem (.t 34) (.t 35)),oM 7 36]))))
 (.reg [oM 17 8,oR 18 (.bin .sub (.t 17) (.k (.i .i64 1))),oM 8 18]))))))
 (oZ [oM 37 6,oR 38 (.call 122 [(.t 37)]),oM 39 7,oM 4 38,oM 5 39]
 .ret))))⟩
def g213:Go.Vse.Fn:=⟨45,[.t 4],oZ [oR 2 (.box (.t 0)),oR 3 (.box (.t 1)),oR 4 (.mv (.k (.b false)))]
 (.seq (oD [oF 6 0 2,oK 7 1 6,oF 8 0 3,oK 9 1 8,oR 10 (.bin .neq (.t 7) (.t 9)),oM 11 10,oH 12 11 (.fa 1 (.t 2)),oH 13 11 (.ld false 1 (.t 12)),oH 14 11 (.fa 1 (.t 3)),oH 15 11 (.ld false 1 (.t 14)),oH 16 11 (.eqb true (.t 13) (.t 15)),oR 17 (.pick (.t 11) (.k (.b true)) (.t 16)),oM 18 17,oH 19 18 (.fa 2 (.t 2)),oH 20 18 (.ld false 1 (.t 19)),oH 21 18 (.len (.t 20)),oH 22 18 (.fa 2 (.t 3)),oH 23 18 (.ld false 1 (.t 22)),oH 24 18 (.len (.t 23)),oH 25 18 (.bin .neq (.t 21) (.t 24)),oR 26 (.pick (.t 18) (.k (.b true)) (.t 25))] 26 (oZ [oR 4 (.mv (.k (.b false)))]
 .ret) .skip)
 (.seq (oZ [oR 5 (.mv (.k (.i .i64 0)))]
 (.blk 0 (.loop (.seq (oD [oM 27 5,oF 28 2 2,oK 29 1 28,oR 30 (.len (.t 29)),oR 31 (.bin .lss (.t 27) (.t 30))] 31 .skip (.exit 0))
 (.seq (.blk 1 (.seq (.dreg [(oF 34 2 2,0),(oK 35 1 34,0),(oM 36 5,3),(oI 37 3 35 36,0),(oL 38 3 37,0),(oF 39 2 3,31),(oK 40 1 39,31),(oM 41 5,127),(oI 42 3 40 41,31),(oL 43 3 42,31),(oR 44 (.eqa [1,0,2] true (.t 38) (.t 43)),0)])
 (.cond (.t 44) (oZ [oR 4 (.mv (.k (.b false)))]
 .ret) .skip)))
 (.reg [oM 32 5,oR 33 (.bin .add (.t 32) (.k (.i .i64 1))),oM 5 33]))))))
 (oZ [oR 4 (.mv (.k (.b true)))]
 .ret)))⟩
def g214:Go.Vse.Fn:=⟨26,[.t 4],oZ [oR 4 (.mv (.k (.b false)))]
 (.seq (oD [oM 6 0,oR 7 (.len (.t 6)),oM 8 1,oR 9 (.len (.t 8)),oR 10 (.bin .neq (.t 7) (.t 9))] 10 (oZ [oR 4 (.mv (.k (.b false)))]
 .ret) .skip)
 (.seq (oZ [oR 5 (.mv (.k (.i .i64 0)))]
 (.blk 0 (.loop (.seq (oD [oM 11 5,oM 12 0,oR 13 (.len (.t 12)),oR 14 (.bin .lss (.t 11) (.t 13))] 14 .skip (.exit 0))
 (.seq (.blk 1 (.seq (.dreg [(oM 17 0,0),(oM 18 5,1),(oI 19 3 17 18,0),(oL 20 3 19,0),(oM 21 1,15),(oM 22 5,31),(oI 23 3 21 22,15),(oL 24 3 23,15),(oR 25 (.eqa [0,0,1] true (.t 20) (.t 24)),0)])
 (.cond (.t 25) (oZ [oR 4 (.mv (.k (.b false)))]
 .ret) .skip)))
 (.reg [oM 15 5,oR 16 (.bin .add (.t 15) (.k (.i .i64 1))),oM 5 16]))))))
 (oZ [oR 4 (.mv (.k (.b true)))]
 .ret)))⟩
def g215:Go.Vse.Fn:=⟨26,[.t 4],oZ [oR 4 (.mv (.k (.b false)))]
 (.seq (oD [oM 6 0,oR 7 (.len (.t 6)),oM 8 1,oR 9 (.len (.t 8)),oR 10 (.bin .neq (.t 7) (.t 9))] 10 (oZ [oR 4 (.mv (.k (.b false)))]
 .ret) .skip)
 (.seq (oZ [oR 5 (.mv (.k (.i .i64 0)))]
 (.blk 0 (.loop (.seq (oD [oM 11 5,oM 12 0,oR 13 (.len (.t 12)),oR 14 (.bin .lss (.t 11) (.t 13))] 14 .skip (.exit 0))
 (.seq (.blk 1 (.seq (.dreg [(oM 17 0,0),(oM 18 5,1),(oI 19 1 17 18,0),(oK 20 1 19,0),(oM 21 1,15),(oM 22 5,31),(oI 23 1 21 22,15),(oK 24 1 23,15),(oR 25 (.bin .neq (.t 20) (.t 24)),0)])
 (.cond (.t 25) (oZ [oR 4 (.mv (.k (.b false)))]
 .ret) .skip)))
 (.reg [oM 15 5,oR 16 (.bin .add (.t 15) (.k (.i .i64 1))),oM 5 16]))))))
 (oZ [oR 4 (.mv (.k (.b true)))]
 .ret)))⟩
def g216:Go.Vse.Fn:=⟨58,[.t 4],oZ [oR 2 (.box (.t 0)),oR 3 (.box (.t 1)),oR 4 (.mv (.k (.i .i64 0)))]
 (.seq (oZ [oF 8 0 2,oK 9 1 8,oF 10 0 3,oK 11 1 10,oR 12 (.callp 244 [(.t 9),(.t 11)]),oM 5 12]
 (oD [oM 13 5,oR 14 (.bin .neq (.t 13) (.k (.i .i64 0)))] 14 (oZ [oM 15 5,oM 4 15]
 .ret) .skip))
 (.seq (oD [oF 16 1 2,oK 17 1 16,oF 18 1 3,oK 19 1 18,oR 20 (.eqb true (.t 17) (.t 19))] 20 (.seq (oD [oF 21 1 3,oK 22 1 21] 22 (oZ [oR 4 (.mv (.k (.i .i64 (-1))))]
 .ret) .skip)
 (oZ [oR 4 (.mv (.k (.i .i64 1)))]
 .ret)) .skip)
 (.seq (oZ [oR 6 (.mv (.k (.i .i64 0)))]
 (.blk 0 (.loop (.seq (oD [oM 23 6,oF 24 2 2,oK 25 1 24,oR 26 (.len (.t 25)),oR 27 (.bin .lss (.t 23) (.t 26)),oM 28 27,oG 29 28 (.mv (.t 6)),oG 30 28 (.fa 2 (.t 3)),oG 31 28 (.ld false 1 (.t 30)),oG 32 28 (.len (.t 31)),oG 33 28 (.bin .lss (.t 29) (.t 32)),oR 34 (.pick (.t 28) (.t 33) (.k (.b false)))] 34 .skip (.exit 0))
 (.seq (.blk 1 (.seq (.dreg [(oF 37 2 2,0),(oK 38 1 37,0),(oM 39 6,3),(oI 40 4 38 39,0),(oL 41 4 40,0),(oF 42 2 3,31),(oK 43 1 42,31),(oM 44 6,127),(oI 45 4 43 44,31),(oL 46 4 45,31),(oR 47 (.callp 245 [(.t 41),(.t 46)]),0),(oM 7 47,0)])
 (oD [oM 48 7,oR 49 (.bin .neq (.t 48) (.k (.i .i64 0)))] 49 (oZ [oM 50 7,oM 4 50]
 .ret) .skip)))
 (.reg [oM 35 6,oR 36 (.bin .add (.t 35) (.k (.i .i64 1))),oM 6 36]))))))
 (oZ [oF 51 2 2,oK 52 1 51,oR 53 (.len (.t 52)),oF 54 2 3,oK 55 1 54,oR 56 (.len (.t 55)),oR 57 (.bin .sub (.t 53) (.t 56)),oM 4 57]
 .ret))))⟩
def g217:Go.Vse.Fn:=⟨29,[.t 4],oZ [oR 2 (.box (.t 0)),oR 3 (.box (.t 1)),oR 4 (.mv (.k (.i .i64 0)))]
 (.seq (oD [oF 6 0 2,oK 7 1 6,oF 8 0 3,oK 9 1 8,oR 10 (.bin .neq (.t 7) (.t 9))] 10 (.seq (oD [oF 11 0 2,oK 12 1 11,oF 13 0 3,oK 14 1 13,oR 15 (.bin .lss (.t 12) (.t 14))] 15 (oZ [oR 4 (.mv (.k (.i .i64 (-1))))]
 .ret) .skip)
 (oZ [oR 4 (.mv (.k (.i .i64 1)))]
 .ret)) .skip)
 (.seq (oZ [oF 16 1 2,oL 17 4 16,oF 18 1 3,oL 19 4 18,oR 20 (.callp 245 [(.t 17),(.t 19)]),oM 5 20]
 (oD [oM 21 5,oR 22 (.bin .neq (.t 21) (.k (.i .i64 0)))] 22 (oZ [oM 23 5,oM 4 23]
 .ret) .skip))
 (oZ [oF 24 5 2,oL 25 4 24,oF 26 5 3,oL 27 4 26,oR 28 (.callp 245 [(.t 25),(.t 27)]),oM 4 28]
 .ret)))⟩
def g218:Go.Vse.Fn:=⟨31,[.t 2],oZ [oR 2 (.mv (.k (.b false)))]
 (.seq (oZ [oR 3 (.mv (.k (.i .i64 0)))]
 (.blk 0 (.loop (.seq (oD [oM 6 3,oM 7 0,oR 8 (.len (.t 7)),oR 9 (.bin .lss (.t 6) (.t 8))] 9 .skip (.exit 0))
 (.seq (.blk 1 (.seq (oD [oM 12 0,oM 13 3,oI 14 3 12 13,oL 15 3 14,oR 16 (.callp 114 [(.t 15)]),oR 17 (.un .not (.t 16))] 17 (oZ [oR 2 (.mv (.k (.b false)))]
 .ret) .skip)
 (.seq (.dreg [(oM 19 0,0),(oM 20 3,1),(oR 21 (.slc 3 (.t 19) none (some (.t 20)) none),0),(oM 22 0,7),(oM 23 3,15),(oI 24 3 22 23,7),(oF 25 0 24,7),(oK 26 1 25,7),(oR 27 (.callp 223 [(.t 21),(.t 26)]),0),(oM 18 27,0),(oR 28 (.ext (.t 18) 0),0),(oR 29 (.ext (.t 18) 1),1024),(oR 4 (.new [.s [],.b false,.nils]),4095),(oS 3 4 28,2048),(oM 5 29,0)])
 (oD [oM 30 5] 30 (oZ [oR 2 (.mv (.k (.b false)))]
 .ret) .skip))))
 (.reg [oM 10 3,oR 11 (.bin .add (.t 10) (.k (.i .i64 1))),oM 3 11]))))))
 (oZ [oR 2 (.mv (.k (.b true)))]
 .ret))⟩
def g219:Go.Vse.Fn:=⟨43,[.t 2],oZ [oR 1 (.box (.t 0)),oR 2 (.mv (.k (.b false)))]
 (.seq (oD [oF 5 1 1,oK 6 1 5,oR 7 (.len (.t 6)),oR 8 (.bin .gtr (.t 7) (.k (.i .i64 5))),oM 9 8,oH 10 9 (.fa 0 (.t 1)),oH 11 9 (.ld false 1 (.t 10)),oH 12 9 (.len (.t 11)),oH 13 9 (.bin .gtr (.t 12) (.k (.i .i64 6))),oR 14 (.pick (.t 9) (.k (.b true)) (.t 13))] 14 (oZ [oR 2 (.mv (.k (.b true)))]
 .ret) .skip)
 (.seq (oZ [oR 3 (.mv (.k (.i .i64 0)))]
 (.blk 0 (.loop (.seq (oD [oM 15 3,oF 16 1 1,oK 17 1 16,oR 18 (.len (.t 17)),oR 19 (.bin .lss (.t 15) (.t 18))] 19 .skip (.exit 0))
 (.seq (.blk 1 (oZ [oF 22 1 1,oK 23 1 22,oM 24 3,oI 25 2 23 24,oL 26 2 25,oR 4 (.new [.nils,.nils]),oS 2 4 26]
 (oD [oF 27 0 4,oK 28 1 27,oR 29 (.len (.t 28)),oR 30 (.bin .gtr (.t 29) (.k (.i .i64 6))),oM 31 30,oH 32 31 (.fa 1 (.t 4)),oH 33 31 (.ld false 1 (.t 32)),oH 34 31 (.len (.t 33)),oH 35 31 (.bin .gtr (.t 34) (.k (.i .i64 4))),oR 36 (.pick (.t 31) (.k (.b true)) (.t 35)),oM 37 36,oH 38 37 (.ld true 2 (.t 4)),oH 39 37 (.callp 10 [(.t 38)]),oH 40 37 (.len (.t 39)),oH 41 37 (.bin .gtr (.t 40) (.k (.i .i64 8))),oR 42 (.pick (.t 37) (.k (.b true)) (.t 41))] 42 (oZ [oR 2 (.mv (.k (.b true)))]
 .ret) .skip)))
 (.reg [oM 20 3,oR 21 (.bin .add (.t 20) (.k (.i .i64 1))),oM 3 21]))))))
 (oZ [oR 2 (.mv (.k (.b false)))]
 .ret)))⟩
def g220:Go.Vse.Fn:=⟨85,[.t 4],oZ [oR 3 (.box (.t 1)),oR 4 (.mv (.k (.b false)))]
 (.seq (oZ [oR 5 (.mv (.k (.i .i64 0)))]
 (.blk 0 (.loop (.seq (oD [oM 13 5,oF 14 0 3,oK 15 1 14,oR 16 (.len (.t 15)),oR 17 (.bin .lss (.t 13) (.t 16))] 17 .skip (.exit 0))
 (.seq (.blk 1 (.seq (.dreg [(oF 20 0 3,0),(oK 21 1 20,0),(oM 22 5,3),(oI 23 1 21 22,0),(oK 24 1 23,0),(oR 25 (.callp 166 [(.t 24)]),0),(oR 26 (.un .not (.t 25)),0),(oM 27 26,0),(oH 28 27 (.fa 0 (.t 3)),0),(oH 29 27 (.ld false 1 (.t 28)),0),(oH 30 27 (.mv (.t 5)),768),(oH 31 27 (.slc 1 (.t 29) none (some (.t 30)) none),0),(oH 32 27 (.fa 0 (.t 3)),3840),(oH 33 27 (.ld false 1 (.t 32)),3840),(oH 34 27 (.mv (.t 5)),16128),(oH 35 27 (.ia 1 (.t 33) (.t 34)),3840),(oH 36 27 (.ld false 1 (.t 35)),3840),(oH 37 27 (.callp 58 [(.t 31),(.t 36)]),0),(oR 38 (.pick (.t 27) (.k (.b true)) (.t 37)),0)])
 (.cond (.t 38) (oZ [oR 4 (.mv (.k (.b false)))]
 .ret) .skip)))
 (.reg [oM 18 5,oR 19 (.bin .add (.t 18) (.k (.i .i64 1))),oM 5 19]))))))
 (.seq (oZ [oR 6 (.mv (.k (.i .i64 0)))]
 (.blk 2 (.loop (.seq (oD [oM 39 6,oF 40 1 3,oK 41 1 40,oR 42 (.len (.t 41)),oR 43 (.bin .lss (.t 39) (.t 42))] 43 .skip (.exit 2))
 (.seq (.blk 3 (oZ [oF 46 1 3,oK 47 1 46,oM 48 6,oI 49 2 47 48,oL 50 2 49,oR 7 (.new [.nils,.nils]),oS 2 7 50]
 (oZ [oL 51 2 7,oR 52 (.callp 10 [(.t 51)]),oM 8 52]
 (.seq (oZ [oR 9 (.mv (.k (.i .i64 0)))]
 (.blk 4 (.loop (.seq (oD [oM 53 9,oM 54 8,oR 55 (.len (.t 54)),oR 56 (.bin .lss (.t 53) (.t 55))] 56 .skip (.exit 4))
 (.seq (.blk 5 (oD [oM 59 8,oM 60 9,oI 61 1 59 60,oK 62 1 61,oR 63 (.callp 166 [(.t 62)]),oR 64 (.un .not (.t 63))] 64 (oZ [oR 4 (.mv (.k (.b false)))]
 .ret) .skip))
 (.reg [oM 57 9,oR 58 (.bin .add (.t 57) (.k (.i .i64 1))),oM 9 58]))))))
 (oZ [oR 10 (.mv (.k (.i .i64 0)))]
 (.blk 6 (.loop (.seq (oD [oM 65 10,oF 66 0 7,oK 67 1 66,oR 68 (.len (.t 67)),oR 69 (.bin .lss (.t 65) (.t 68))] 69 .skip (.exit 6))
 (.seq (.blk 7 (oZ [oM 73 0,oF 74 0 7,oK 75 1 74,oM 76 10,oI 77 3 75 76,oF 78 0 77,oK 79 1 78,oR 80 (.callp 223 [(.t 73),(.t 79)]),oM 72 80,oR 81 (.ext (.t 72) 0),oR 82 (.ext (.t 72) 1),oR 11 (.new [.s [],.b false,.nils]),oS 3 11 81,oM 12 82]
 (oD [oM 83 12,oR 84 (.un .not (.t 83))] 84 (oZ [oR 4 (.mv (.k (.b false)))]
 .ret) .skip)))
 (.reg [oM 70 10,oR 71 (.bin .add (.t 70) (.k (.i .i64 1))),oM 10 71]))))))))))
 (.reg [oM 44 6,oR 45 (.bin .add (.t 44) (.k (.i .i64 1))),oM 6 45]))))))
 (oZ [oR 4 (.mv (.k (.b true)))]
 .ret)))⟩
def g221:Go.Vse.Fn:=⟨144,[.t 4],oZ [oR 3 (.box (.t 1)),oR 4 (.mv (.k (.b false)))]
 (.seq (oZ [oR 5 (.mv (.k (.i .i64 0)))]
 (.blk 0 (.loop (.seq (oD [oM 16 5,oF 17 0 3,oK 18 1 17,oR 19 (.len (.t 18)),oR 20 (.bin .lss (.t 16) (.t 19))] 20 .skip (.exit 0))
 (.seq (.blk 1 (oZ [oM 24 0,oF 25 0 3,oK 26 1 25,oM 27 5,oI 28 3 26 27,oF 29 0 28,oK 30 1 29,oR 31 (.callp 223 [(.t 24),(.t 30)]),oM 23 31,oR 32 (.ext (.t 23) 0),oR 33 (.ext (.t 23) 1),oR 6 (.new [.s [],.b false,.nils]),oS 3 6 32,oM 7 33]
 (.seq (.dreg [(oF 34 0 3,0),(oK 35 1 34,0),(oM 36 5,3),(oI 37 3 35 36,0),(oF 38 2 37,0),(oK 39 1 38,0),(oR 40 (.len (.t 39)),0),(oF 41 2 6,127),(oK 42 1 41,127),(oR 43 (.len (.t 42)),127),(oR 44 (.bin .neq (.t 40) (.t 43)),0)])
 (.cond (.t 44) (oZ [oR 4 (.mv (.k (.b false)))]
 .ret) .skip))))
 (.reg [oM 21 5,oR 22 (.bin .add (.t 21) (.k (.i .i64 1))),oM 5 22]))))))
 (.seq (oZ [oR 8 (.mv (.k (.i .i64 0)))]
 (.blk 2 (.loop (.seq (oD [oM 45 8,oF 46 0 3,oK 47 1 46,oR 48 (.len (.t 47)),oR 49 (.bin .lss (.t 45) (.t 48))] 49 .skip (.exit 2))
 (.seq (.blk 3 (oZ [oM 53 0,oF 54 0 3,oK 55 1 54,oM 56 8,oI 57 3 55 56,oF 58 0 57,oK 59 1 58,oR 60 (.callp 223 [(.t 53),(.t 59)]),oM 52 60,oR 61 (.ext (.t 52) 0),oR 62 (.ext (.t 52) 1),oR 9 (.new [.s [],.b false,.nils]),oS 3 9 61,oM 10 62]
 (oZ [oR 11 (.mv (.k (.i .i64 0)))]
 (.blk 4 (.loop (.seq (oD [oM 63 11,oF 64 0 3,oK 65 1 64,oM 66 8,oI 67 3 65 66,oF 68 2 67,oK 69 1 68,oR 70 (.len (.t 69)),oR 71 (.bin .lss (.t 63) (.t 70))] 71 .skip (.exit 4))
 (.seq (.blk 5 (.seq (.dreg [(oM 74 0,0),(oL 75 2 3,1),(oF 76 0 3,3),(oK 77 1 76,3),(oM 78 8,15),(oI 79 3 77 78,3),(oF 80 2 79,3),(oK 81 1 80,3),(oM 82 11,255),(oI 83 4 81 82,3),(oL 84 4 83,3),(oR 85 (.callp 246 [(.t 74),(.t 75),(.t 84)]),0),(oF 86 2 9,4095),(oK 87 1 86,4095),(oM 88 11,16383),(oI 89 3 87 88,4095),(oF 90 1 89,4095),(oK 91 1 90,4095),(oR 92 (.bin .neq (.t 85) (.t 91)),0)])
 (.cond (.t 92) (oZ [oR 4 (.mv (.k (.b false)))]
 .ret) .skip)))
 (.reg [oM 72 11,oR 73 (.bin .add (.t 72) (.k (.i .i64 1))),oM 11 73]))))))))
 (.reg [oM 50 8,oR 51 (.bin .add (.t 50) (.k (.i .i64 1))),oM 8 51]))))))
 (.seq (oZ [oR 12 (.mv (.k (.i .i64 0)))]
 (.blk 6 (.loop (.seq (oD [oM 93 12,oF 94 1 3,oK 95 1 94,oR 96 (.len (.t 95)),oR 97 (.bin .lss (.t 93) (.t 96))] 97 .skip (.exit 6))
 (.seq (.blk 7 (oZ [oF 100 1 3,oK 101 1 100,oM 102 12,oI 103 9 101 102,oL 104 9 103,oR 13 (.new [.i .i64 0,.s [],.i .i64 0,.i .i64 0,.s [],.s [],.i .i64 0,.i .i64 0,.s []]),oS 9 13 104]
 (.seq (.dreg [(oM 105 0,0),(oL 106 2 3,1),(oF 107 1 13,3),(oL 108 4 107,3),(oR 109 (.callp 246 [(.t 105),(.t 106),(.t 108)]),0),(oM 110 0,31),(oL 111 2 3,63),(oF 112 5 13,127),(oL 113 4 112,127),(oR 114 (.callp 246 [(.t 110),(.t 111),(.t 113)]),0),(oM 14 109,0),(oM 15 114,0)])
 (oD [oF 115 0 13,oK 116 1 115,oR 117 (.bin .lss (.t 116) (.k (.i .i64 1))),oM 118 117,oH 119 118 (.fa 0 (.t 13)),oH 120 118 (.ld false 1 (.t 119)),oH 121 118 (.bin .gtr (.t 120) (.k (.i .i64 4))),oR 122 (.pick (.t 118) (.k (.b true)) (.t 121)),oM 123 122,oH 124 123 (.mv (.t 14)),oH 125 123 (.bin .lss (.t 124) (.k (.i .i64 0))),oR 126 (.pick (.t 123) (.k (.b true)) (.t 125)),oM 127 126,oH 128 127 (.mv (.t 15)),oH 129 127 (.bin .lss (.t 128) (.k (.i .i64 0))),oR 130 (.pick (.t 127) (.k (.b true)) (.t 129)),oM 131 130,oH 132 131 (.mv (.t 14)),oH 133 131 (.bin .neq (.t 132) (.k (.i .i64 0))),oH 134 131 (.mv (.t 133)),oG 135 134 (.mv (.t 15)),oG 136 134 (.bin .neq (.t 135) (.k (.i .i64 0))),oH 137 131 (.pick (.t 134) (.t 136) (.k (.b false))),oH 138 131 (.mv (.t 137)),oG 139 138 (.mv (.t 14)),oG 140 138 (.mv (.t 15)),oG 141 138 (.bin .neq (.t 139) (.t 140)),oH 142 131 (.pick (.t 138) (.t 141) (.k (.b false))),oR 143 (.pick (.t 131) (.k (.b true)) (.t 142))] 143 (oZ [oR 4 (.mv (.k (.b false)))]
 .ret) .skip))))
 (.reg [oM 98 12,oR 99 (.bin .add (.t 98) (.k (.i .i64 1))),oM 12 99]))))))
 (oZ [oR 4 (.mv (.k (.b true)))]
 .ret))))⟩
def g222:Go.Vse.Fn:=⟨46,[.t 2],oZ [oR 1 (.box (.t 0)),oR 2 (.mv (.k .nils))]
 (oZ [oR 3 (.mv (.k .nils))]
 (.seq (oZ [oR 4 (.mv (.k (.i .i64 0)))]
 (.blk 0 (.loop (.seq (oD [oM 6 4,oF 7 0 1,oK 8 1 7,oR 9 (.len (.t 8)),oR 10 (.bin .lss (.t 6) (.t 9))] 10 .skip (.exit 0))
 (.seq (.blk 1 (oZ [oR 5 (.mv (.k (.i .i64 0)))]
 (.blk 2 (.loop (.seq (oD [oM 13 5,oF 14 0 1,oK 15 1 14,oM 16 4,oI 17 3 15 16,oF 18 2 17,oK 19 1 18,oR 20 (.len (.t 19)),oR 21 (.bin .lss (.t 13) (.t 20)),oM 22 21,oG 23 22 (.fa 0 (.t 1)),oG 24 22 (.ld false 1 (.t 23)),oG 25 22 (.mv (.t 4)),oG 26 22 (.ia 3 (.t 24) (.t 25)),oG 27 22 (.fa 1 (.t 26)),oG 28 22 (.ld false 1 (.t 27)),oG 29 22 (.un .not (.t 28)),oR 30 (.pick (.t 22) (.t 29) (.k (.b false)))] 30 .skip (.exit 2))
 (.seq (.blk 3 (.reg [oM 33 3,oF 34 0 1,oK 35 1 34,oM 36 4,oI 37 3 35 36,oF 38 2 37,oK 39 1 38,oM 40 5,oI 41 4 39 40,oF 42 0 41,oK 43 1 42,oR 44 (.call 24 [(.t 33),(.t 43)]),oM 3 44]))
 (.reg [oM 31 5,oR 32 (.bin .add (.t 31) (.k (.i .i64 1))),oM 5 32])))))))
 (.reg [oM 11 4,oR 12 (.bin .add (.t 11) (.k (.i .i64 1))),oM 4 12]))))))
 (oZ [oM 45 3,oM 2 45]
 .ret)))⟩
def g223:Go.Vse.Fn:=⟨25,[.cell 4 true 3,.t 5],oZ [oR 4 (.new [.s [],.b false,.nils]),oR 5 (.mv (.k (.b false)))]
 (.seq (oZ [oR 6 (.mv (.k (.i .i64 0)))]
 (.blk 0 (.loop (.seq (oD [oM 7 6,oM 8 0,oR 9 (.len (.t 8)),oR 10 (.bin .lss (.t 7) (.t 9))] 10 .skip (.exit 0))
 (.seq (.blk 1 (oD [oM 13 0,oM 14 6,oI 15 3 13 14,oF 16 0 15,oK 17 1 16,oM 18 1,oR 19 (.bin .eql (.t 17) (.t 18))] 19 (oZ [oM 20 0,oM 21 6,oI 22 3 20 21,oL 23 3 22,oS 3 4 23,oR 5 (.mv (.k (.b true)))]
 .ret) .skip))
 (.reg [oM 11 6,oR 12 (.bin .add (.t 11) (.k (.i .i64 1))),oM 6 12]))))))
 (oZ [oR 24 (.bld [.s [],.b false,.nils] []),oS 3 4 24,oR 5 (.mv (.k (.b false)))]
 .ret))⟩
def g224:Go.Vse.Fn:=⟨20,[.cell 4 true 2],oZ [oR 2 (.box (.t 0)),oR 3 (.box (.t 1)),oR 4 (.new [.nils,.nils])]
 (.seq (.dreg [(oF 6 0 2,0),(oK 7 1 6,0),(oF 9 0 3,3),(oK 10 1 9,3),(oF 13 1 2,15),(oK 14 1 13,15),(oF 16 1 3,63),(oK 17 1 16,63),(oR 5 (.bsl 3 [.s [],.b false,.nils] 0 []),255),(oR 8 (.app 3 48 (.t 5) (.t 7)),252),(oR 11 (.app 3 48 (.t 8) (.t 10)),240),(oR 12 (.bsl 9 [.i .i64 0,.s [],.i .i64 0,.i .i64 0,.s [],.s [],.i .i64 0,.i .i64 0,.s []] 0 []),2047),(oR 15 (.app 9 104 (.t 12) (.t 14)),192),(oR 18 (.app 9 104 (.t 15) (.t 17)),0),(oR 19 (.bld [.nils,.nils] [(0,1,(.t 11)),(1,1,(.t 18))]),0),(oS 2 4 19,0)])
 .ret)⟩
def g225:Go.Vse.Fn:=⟨44,[.t 4],oZ [oR 4 (.mv (.k .nils))]
 (oZ [oR 5 (.mv (.k .nils))]
 (.seq (oZ [oM 10 1,oR 11 (.len (.t 10)),oR 12 (.mv (.k (.i .i64 0)))]
 (.blk 0 (.loop (oZ [oR 13 (.bin .lss (.t 12) (.t 11))]
 (.seq (.cond (.t 13) .skip (.exit 0))
 (.seq (.blk 1 (oZ [oI 14 4 10 12,oL 15 4 14,oR 7 (.new [.s [],.i .i64 0,.i .i64 0,.s []]),oS 4 7 15]
 (.seq (.dreg [(oM 17 0,0),(oR 18 (.nck (.t 17)),0),(oF 19 1 18,0),(oK 20 1 19,0),(oF 21 0 7,15),(oK 22 1 21,15),(oR 23 (.mlk 1 (.i .i64 0) true (.t 20) (.t 22)),0),(oM 16 23,0),(oR 24 (.ext (.t 16) 0),0),(oR 25 (.ext (.t 16) 1),256),(oM 8 24,512),(oM 9 25,0)])
 (oD [oM 26 9,oM 27 26,oG 28 27 (.fa 0 (.t 7)),oG 29 27 (.ld false 1 (.t 28)),oG 30 27 (.bin .neq (.t 29) (.k (.s []))),oR 31 (.pick (.t 27) (.t 30) (.k (.b false))),oM 32 31,oG 33 32 (.mv (.t 5)),oG 34 32 (.mv (.t 8)),oG 35 32 (.callp 247 [(.t 33),(.t 34)]),oG 36 32 (.un .not (.t 35)),oR 37 (.pick (.t 32) (.t 36) (.k (.b false)))] 37 (.reg [oM 38 5,oM 39 8,oR 40 (.bsf 1 [.i .i64 0] 1 [(0,(.t 39))]),oR 41 (.app 1 8 (.t 38) (.t 40)),oM 5 41]) .skip))))
 (.reg [oR 42 (.bin .add (.t 12) (.k (.i .i64 1))),oM 12 42])))))))
 (oZ [oM 43 5,oM 4 43]
 .ret)))⟩
def g226:Go.Vse.Fn:=⟨10,[.cell 2 true 4],oZ [oR 1 (.box (.t 0)),oR 2 (.new [.s [],.i .i64 0,.i .i64 0,.s []])]
 (.seq (oD [oF 3 0 1,oK 4 1 3,oR 5 (.bin .neq (.t 4) (.k (.s [])))] 5 (oZ [oF 6 0 1,oK 7 1 6,oR 8 (.bld [.s [],.i .i64 0,.i .i64 0,.s []] [(0,1,(.t 7))]),oS 4 2 8]
 .ret) .skip)
 (oZ [oL 9 4 1,oS 4 2 9]
 .ret))⟩
def g227:Go.Vse.Fn:=⟨14,[],oZ [oM 5 0,oR 6 (.len (.t 5)),oM 4 6]
 (.reg [oM 7 0,oM 8 4,oM 9 4,oR 10 (.cvi .u64 (.t 9)),oR 11 (.call 249 [(.t 10)]),oM 12 1,oR 13 (.call 248 [(.t 7),(.k (.i .i64 0)),(.t 8),(.t 11),(.t 12)])])⟩
def g228:Go.Vse.Fn:=⟨32,[.t 4],oZ [oR 2 (.box (.t 0)),oR 3 (.box (.t 1)),oR 4 (.mv (.k (.i .i64 0)))]
 (.seq (.blk 0 (oD [oF 6 0 2,oK 7 1 6,oR 8 (.bin .eql (.t 7) (.k (.s []))),oM 9 8,oG 10 9 (.fa 0 (.t 3)),oG 11 9 (.ld false 1 (.t 10)),oG 12 9 (.bin .eql (.t 11) (.k (.s []))),oR 13 (.pick (.t 9) (.t 12) (.k (.b false))),oM 5 13] 5 (oZ [oF 14 1 2,oL 15 3 14,oF 16 1 3,oL 17 3 16,oR 18 (.callp 250 [(.t 15),(.t 17)]),oM 4 18]
 .ret) (oD [oF 20 0 2,oK 21 1 20,oR 22 (.bin .eql (.t 21) (.k (.s []))),oM 19 22] 19 (oZ [oR 4 (.mv (.k (.i .i64 (-1))))]
 .ret) (oD [oF 24 0 3,oK 25 1 24,oR 26 (.bin .eql (.t 25) (.k (.s []))),oM 23 26] 23 (oZ [oR 4 (.mv (.k (.i .i64 1)))]
 .ret) .skip))))
 (oZ [oF 27 0 2,oK 28 1 27,oF 29 0 3,oK 30 1 29,oR 31 (.callp 251 [(.t 28),(.t 30)]),oM 4 31]
 .ret))⟩
def g229:Go.Vse.Fn:=⟨66,[.t 4],oZ [oR 4 (.mv (.k .nils))]
 (.seq (oD [oM 8 0,oR 9 (.len (.t 8)),oR 10 (.bin .lss (.t 9) (.k (.i .i64 2)))] 10 (oZ [oM 11 0,oM 4 11]
 .ret) .skip)
 (.seq (oZ [oR 5 (.mv (.k (.i .i64 1)))]
 (.blk 0 (.loop (.seq (oD [oM 12 5,oM 13 0,oR 14 (.len (.t 13)),oR 15 (.bin .lss (.t 12) (.t 14))] 15 .skip (.exit 0))
 (.seq (.blk 1 (.seq (.dreg [(oM 18 1,0),(oM 19 0,1),(oM 20 5,3),(oI 21 4 19 20,1),(oL 22 4 21,1),(oM 23 0,31),(oM 24 5,63),(oR 25 (.bin .sub (.t 24) (.k (.i .i64 1))),63),(oI 26 4 23 25,31),(oL 27 4 26,31),(oR 28 (.callv (.t 18) [(.t 22),(.t 27)]),0)])
 (.cond (.t 28) (oZ [oM 29 0,oM 30 5,oR 31 (.slc 4 (.t 29) (some (.t 30)) none none),oM 6 31]
 (.seq (oZ [oR 7 (.mv (.k (.i .i64 1)))]
 (.blk 2 (.loop (.seq (oD [oM 32 7,oM 33 6,oR 34 (.len (.t 33)),oR 35 (.bin .lss (.t 32) (.t 34))] 35 .skip (.exit 2))
 (.seq (.blk 3 (.seq (.dreg [(oM 38 1,0),(oM 39 6,1),(oM 40 7,3),(oI 41 4 39 40,1),(oL 42 4 41,1),(oM 43 6,31),(oM 44 7,63),(oR 45 (.bin .sub (.t 44) (.k (.i .i64 1))),63),(oI 46 4 43 45,31),(oL 47 4 46,31),(oR 48 (.callv (.t 38) [(.t 42),(.t 47)]),0),(oR 49 (.un .not (.t 48)),0)])
 (.cond (.t 49) (oZ [oM 50 0,oM 51 5,oM 52 6,oM 53 7,oI 54 4 52 53,oL 55 4 54,oI 56 4 50 51,oS 4 56 55]
 (.reg [oM 57 5,oR 58 (.bin .add (.t 57) (.k (.i .i64 1))),oM 5 58])) .skip)))
 (.reg [oM 36 7,oR 37 (.bin .add (.t 36) (.k (.i .i64 1))),oM 7 37]))))))
 (oZ [oM 59 0,oM 60 5,oR 61 (.slc 4 (.t 59) (some (.t 60)) none none),oN (.clr 4 [.s [],.i .i64 0,.i .i64 0,.s []] (.t 61))]
 (oZ [oM 62 0,oM 63 5,oR 64 (.slc 4 (.t 62) none (some (.t 63)) none),oM 4 64]
 .ret)))) .skip)))
 (.reg [oM 16 5,oR 17 (.bin .add (.t 16) (.k (.i .i64 1))),oM 5 17]))))))
 (oZ [oM 65 0,oM 4 65]
 .ret)))⟩
def g230:Go.Vse.Fn:=⟨9,[.t 4],oZ [oR 2 (.box (.t 0)),oR 3 (.box (.t 1)),oR 4 (.mv (.k (.b false)))]
 (oZ [oL 5 4 2,oL 6 4 3,oR 7 (.callp 228 [(.t 5),(.t 6)]),oR 8 (.bin .eql (.t 7) (.k (.i .i64 0))),oM 4 8]
 .ret)⟩
def g231:Go.Vse.Fn:=⟨9,[.t 4],oZ [oR 4 (.mv (.k (.b false)))]
 (oZ [oM 5 0,oM 6 1,oR 7 (.call 252 [(.t 5),(.t 6)]),oR 8 (.bin .geq (.t 7) (.k (.i .i64 0))),oM 4 8]
 .ret)⟩
def g232:Go.Vse.Fn:=⟨14,[.t 4],oZ [oR 3 (.box (.t 0)),oR 4 (.mv (.k (.b false)))]
 (.seq (.dreg [(oL 5 4 3,0),(oK 6 1 1,1),(oR 7 (.nck (.t 6)),1),(oF 8 2 7,1),(oK 9 1 8,1),(oK 10 1 2,31),(oI 11 4 9 10,1),(oL 12 4 11,1),(oR 13 (.callp 230 [(.t 5),(.t 12)]),0),(oM 4 13,0)])
 .ret)⟩
def g233:Go.Vse.Fn:=⟨9,[.t 4],oZ [oR 4 (.mv (.k (.b false)))]
 (oZ [oM 5 0,oM 6 1,oR 7 (.call 253 [(.t 5),(.t 6)]),oR 8 (.bin .geq (.t 7) (.k (.i .i64 0))),oM 4 8]
 .ret)⟩
def g234:Go.Vse.Fn:=⟨15,[.t 4],oZ [oR 3 (.box (.t 0)),oR 4 (.mv (.k (.b false)))]
 (.seq (.dreg [(oK 5 1 1,0),(oK 6 1 1,1),(oR 7 (.nck (.t 6)),1),(oF 8 4 7,1),(oK 9 1 8,1),(oK 10 1 2,31),(oI 11 3 9 10,1),(oL 12 3 11,1),(oL 13 3 3,255),(oR 14 (.call 235 [(.t 5),(.t 12),(.t 13)]),0),(oM 4 14,0)])
 .ret)⟩
def g235:Go.Vse.Fn:=⟨58,[.t 6],oZ [oR 4 (.box (.t 1)),oR 5 (.box (.t 2)),oR 6 (.mv (.k (.b false)))]
 (.seq (oD [oF 11 0 4,oK 12 1 11,oF 13 0 5,oK 14 1 13,oR 15 (.bin .neq (.t 12) (.t 14)),oM 16 15,oH 17 16 (.fa 1 (.t 4)),oH 18 16 (.ld false 1 (.t 17)),oH 19 16 (.fa 1 (.t 5)),oH 20 16 (.ld false 1 (.t 19)),oH 21 16 (.eqb true (.t 18) (.t 20)),oR 22 (.pick (.t 16) (.k (.b true)) (.t 21)),oM 23 22,oH 24 23 (.fa 2 (.t 4)),oH 25 23 (.ld false 1 (.t 24)),oH 26 23 (.len (.t 25)),oH 27 23 (.fa 2 (.t 5)),oH 28 23 (.ld false 1 (.t 27)),oH 29 23 (.len (.t 28)),oH 30 23 (.bin .neq (.t 26) (.t 29)),oR 31 (.pick (.t 23) (.k (.b true)) (.t 30))] 31 (oZ [oR 6 (.mv (.k (.b false)))]
 .ret) .skip)
 (.seq (oZ [oF 32 2 4,oK 33 1 32,oR 34 (.len (.t 33)),oR 35 (.mv (.k (.i .i64 0)))]
 (.blk 0 (.loop (oZ [oR 36 (.bin .lss (.t 35) (.t 34))]
 (.seq (.cond (.t 36) .skip (.exit 0))
 (.seq (.blk 1 (oZ [oM 37 35,oI 38 4 33 35,oL 39 4 38,oR 8 (.new [.s [],.i .i64 0,.i .i64 0,.s []]),oM 7 37,oS 4 8 39]
 (oZ [oM 41 0,oL 42 4 8,oR 43 (.call 236 [(.t 41),(.t 42)]),oM 40 43,oR 44 (.ext (.t 40) 0),oR 45 (.ext (.t 40) 1),oR 9 (.new [.s [],.i .i64 0,.i .i64 0,.s []]),oS 4 9 44,oM 10 45]
 (.seq (.dreg [(oM 46 10,0),(oM 47 46,0),(oG 48 47 (.ld true 4 (.t 9)),0),(oG 49 47 (.fa 2 (.t 5)),4),(oG 50 47 (.ld false 1 (.t 49)),4),(oG 51 47 (.mv (.t 7)),28),(oG 52 47 (.ia 4 (.t 50) (.t 51)),4),(oG 53 47 (.ld true 4 (.t 52)),4),(oG 54 47 (.callp 230 [(.t 48),(.t 53)]),0),(oG 55 47 (.un .not (.t 54)),0),(oR 56 (.pick (.t 47) (.t 55) (.k (.b false))),0)])
 (.cond (.t 56) (oZ [oR 6 (.mv (.k (.b false)))]
 .ret) .skip)))))
 (.reg [oR 57 (.bin .add (.t 35) (.k (.i .i64 1))),oM 35 57])))))))
 (oZ [oR 6 (.mv (.k (.b true)))]
 .ret)))⟩
def g236:Go.Vse.Fn:=⟨32,[.cell 4 true 4,.t 5],oZ [oR 3 (.box (.t 1)),oR 4 (.new [.s [],.i .i64 0,.i .i64 0,.s []]),oR 5 (.mv (.k (.b false)))]
 (.seq (oD [oF 7 0 3,oK 8 1 7,oR 9 (.bin .eql (.t 8) (.k (.s [])))] 9 (oZ [oL 10 4 3,oS 4 4 10,oR 5 (.mv (.k (.b true)))]
 .ret) .skip)
 (.seq (.dreg [(oM 11 0,0),(oR 12 (.nck (.t 11)),0),(oF 13 1 12,0),(oK 14 1 13,0),(oF 15 0 3,15),(oK 16 1 15,15),(oR 17 (.mlk 1 (.i .i64 0) false (.t 14) (.t 16)),0),(oM 6 17,0)])
 (.seq (.dreg [(oM 18 0,0),(oR 19 (.nck (.t 18)),0),(oF 20 2 19,0),(oK 21 1 20,0),(oM 22 6,15),(oI 23 4 21 22,0),(oL 24 4 23,0),(oM 25 0,127),(oR 26 (.nck (.t 25)),127),(oF 27 3 26,127),(oK 28 1 27,127),(oM 29 6,2047),(oI 30 1 28 29,127),(oK 31 1 30,127),(oS 4 4 24,16256),(oM 5 31,0)])
 .ret)))⟩
def g237:Go.Vse.Fn:=⟨23,[.t 4],oZ [oR 3 (.box (.t 1)),oR 4 (.mv (.k (.b false)))]
 (.seq (oD [oL 6 9 3,oR 7 (.callp 254 [(.t 6)])] 7 (oZ [oR 4 (.mv (.k (.b true)))]
 .ret) .skip)
 (oZ [oF 8 0 3,oK 9 1 8,oR 10 (.bin .eql (.t 9) (.k (.i .i64 1))),oM 11 10,oH 12 11 (.fa 0 (.t 3)),oH 13 11 (.ld false 1 (.t 12)),oH 14 11 (.bin .eql (.t 13) (.k (.i .i64 2))),oR 15 (.pick (.t 11) (.k (.b true)) (.t 14)),oR 5 (.new [.b false]),oS 1 5 15]
 (oZ [oM 16 0,oR 17 (.nck (.t 16)),oF 18 8 17,oF 19 1 18,oK 20 1 19,oR 21 (.mkf 256 [] [(.t 3),(.t 5)]),oR 22 (.call 255 [(.t 20),(.t 21)]),oM 4 22]
 .ret)))⟩
def g238:Go.Vse.Fn:=⟨15,[.t 3],oZ [oR 3 (.mv (.k (.i .i64 0)))]
 (.seq (.blk 0 (.loop (.seq (oD [oK 4 1 1,oM 5 0,oI 6 1 4 5,oK 7 1 6,oM 8 0,oR 9 (.bin .neq (.t 7) (.t 8))] 9 .skip (.exit 0))
 (.blk 1 (.reg [oK 10 1 1,oM 11 0,oI 12 1 10 11,oK 13 1 12,oM 0 13])))))
 (oZ [oM 14 0,oM 3 14]
 .ret))⟩
def g239:Go.Vse.Fn:=⟨43,[],oZ [oR 5 (.mv (.k (.i .i64 (-1))))]
 (oZ [oK 10 1 1,oM 11 0,oR 12 (.call 225 [(.t 10),(.t 11)]),oR 13 (.len (.t 12)),oR 14 (.mv (.k (.i .i64 0)))]
 (.blk 0 (.loop (oZ [oR 15 (.bin .lss (.t 14) (.t 13))]
 (.seq (.cond (.t 15) .skip (.exit 0))
 (.seq (.blk 1 (oZ [oI 16 1 12 14,oK 17 1 16,oM 7 17]
 (.seq (oD [oK 18 1 1,oR 19 (.nck (.t 18)),oF 20 3 19,oK 21 1 20,oM 22 7,oI 23 1 21 22,oK 24 1 23] 24 (.exit 1) .skip)
 (.seq (oD [oM 25 5,oR 26 (.bin .geq (.t 25) (.k (.i .i64 0)))] 26 (.seq (.dreg [(oK 27 1 2,0),(oM 28 5,1),(oR 29 (.callv (.t 27) [(.t 28)]),0),(oK 30 1 2,7),(oM 31 7,15),(oR 32 (.callv (.t 30) [(.t 31)]),0),(oM 8 29,0),(oM 9 32,0)])
 (.reg [oK 33 1 3,oM 34 8,oM 35 9,oR 36 (.mm true (.t 34) (.t 35)),oM 37 8,oM 38 9,oR 39 (.mm false (.t 37) (.t 38)),oI 40 1 33 36,oS 1 40 39])) .skip)
 (.reg [oM 41 7,oM 5 41])))))
 (.reg [oR 42 (.bin .add (.t 14) (.k (.i .i64 1))),oM 14 42])))))))⟩
def g240:Go.Vse.Fn:=⟨42,[.t 4],oZ [oR 4 (.mv (.k .nils))]
 (oZ [oM 8 0,oM 9 1,oR 10 (.call 257 [(.t 8),(.t 9)]),oM 5 10]
 (.seq (oD [oM 11 5,oR 12 (.bin .eql (.t 11) (.k (.i .i64 (-1))))] 12 (oZ [oM 13 0,oM 4 13]
 .ret) .skip)
 (.seq (oZ [oM 14 5,oR 15 (.bin .add (.t 14) (.k (.i .i64 1))),oM 6 15]
 (.blk 0 (.loop (.seq (oD [oM 16 6,oM 17 0,oR 18 (.len (.t 17)),oR 19 (.bin .lss (.t 16) (.t 18))] 19 .skip (.exit 0))
 (.seq (.blk 1 (oZ [oM 22 0,oM 23 6,oI 24 1 22 23,oK 25 1 24,oM 7 25]
 (oD [oM 26 1,oM 27 7,oR 28 (.callv (.t 26) [(.t 27)]),oR 29 (.un .not (.t 28))] 29 (oZ [oM 30 0,oM 31 5,oM 32 7,oI 33 1 30 31,oS 1 33 32]
 (.reg [oM 34 5,oR 35 (.bin .add (.t 34) (.k (.i .i64 1))),oM 5 35])) .skip)))
 (.reg [oM 20 6,oR 21 (.bin .add (.t 20) (.k (.i .i64 1))),oM 6 21]))))))
 (oZ [oM 36 0,oM 37 5,oR 38 (.slc 1 (.t 36) (some (.t 37)) none none),oN (.clr 1 [.nils] (.t 38))]
 (oZ [oM 39 0,oM 40 5,oR 41 (.slc 1 (.t 39) none (some (.t 40)) none),oM 4 41]
 .ret)))))⟩
def g241:Go.Vse.Fn:=⟨6,[.t 2],oZ [oR 2 (.mv (.k (.b false)))]
 (oZ [oM 3 0,oR 4 (.len (.t 3)),oR 5 (.bin .eql (.t 4) (.k (.i .i64 0))),oM 2 5]
 .ret)⟩
def g242:Go.Vse.Fn:=⟨14,[.t 2],oZ [oR 2 (.mv (.k (.i .i64 0)))]
 (.seq (oD [oM 3 0,oR 4 (.bin .eql (.t 3) (.k (.i .u32 0)))] 4 (oZ [oR 2 (.mv (.k (.i .i64 32)))]
 .ret) .skip)
 (oZ [oM 5 0,oM 6 0,oR 7 (.un .neg (.t 6)),oR 8 (.bin .and (.t 5) (.t 7)),oR 9 (.bin .mul (.t 8) (.k (.i .u32 125613361))),oR 10 (.bin .shr (.t 9) (.k (.i .u64 27))),oR 11 (.iaa 1 32 (.g [.i .u8 0,.i .u8 1,.i .u8 28,.i .u8 2,.i .u8 29,.i .u8 14,.i .u8 24,.i .u8 3,.i .u8 30,.i .u8 22,.i .u8 20,.i .u8 15,.i .u8 25,.i .u8 17,.i .u8 4,.i .u8 8,.i .u8 31,.i .u8 27,.i .u8 13,.i .u8 23,.i .u8 21,.i .u8 19,.i .u8 16,.i .u8 7,.i .u8 26,.i .u8 12,.i .u8 18,.i .u8 6,.i .u8 11,.i .u8 5,.i .u8 10,.i .u8 9]) (.t 10)),oK 12 1 11,oR 13 (.cvi .i64 (.t 12)),oM 2 13]
 .ret))⟩
def g243:Go.Vse.Fn:=⟨14,[.t 2],oZ [oR 2 (.mv (.k (.i .i64 0)))]
 (.seq (oD [oM 3 0,oR 4 (.bin .eql (.t 3) (.k (.i .u64 0)))] 4 (oZ [oR 2 (.mv (.k (.i .i64 64)))]
 .ret) .skip)
 (oZ [oM 5 0,oM 6 0,oR 7 (.un .neg (.t 6)),oR 8 (.bin .and (.t 5) (.t 7)),oR 9 (.bin .mul (.t 8) (.k (.i .u64 285870213051353865))),oR 10 (.bin .shr (.t 9) (.k (.i .u64 58))),oR 11 (.iaa 1 64 (.g [.i .u8 0,.i .u8 1,.i .u8 56,.i .u8 2,.i .u8 57,.i .u8 49,.i .u8 28,.i .u8 3,.i .u8 61,.i .u8 58,.i .u8 42,.i .u8 50,.i .u8 38,.i .u8 29,.i .u8 17,.i .u8 4,.i .u8 62,.i .u8 47,.i .u8 59,.i .u8 36,.i .u8 45,.i .u8 43,.i .u8 51,.i .u8 22,.i .u8 53,.i .u8 39,.i .u8 33,.i .u8 30,.i .u8 24,.i .u8 18,.i .u8 12,.i .u8 5,.i .u8 63,.i .u8 55,.i .u8 48,.i .u8 27,.i .u8 60,.i .u8 41,.i .u8 37,.i .u8 16,.i .u8 46,.i .u8 35,.i .u8 44,.i .u8 21,.i .u8 52,.i .u8 32,.i .u8 23,.i .u8 11,.i .u8 54,.i .u8 26,.i .u8 40,.i .u8 15,.i .u8 34,.i .u8 20,.i .u8 31,.i .u8 10,.i .u8 25,.i .u8 14,.i .u8 19,.i .u8 9,.i .u8 13,.i .u8 8,.i .u8 7,.i .u8 6]) (.t 10)),oK 12 1 11,oR 13 (.cvi .i64 (.t 12)),oM 2 13]
 .ret))⟩
def g244:Go.Vse.Fn:=⟨13,[.t 4],oZ [oR 4 (.mv (.k (.i .i64 0)))]
 (.seq (.blk 0 (oD [oM 6 0,oM 7 1,oR 8 (.bin .lss (.t 6) (.t 7)),oM 5 8] 5 (oZ [oR 4 (.mv (.k (.i .i64 (-1))))]
 .ret) (oD [oM 10 0,oM 11 1,oR 12 (.bin .gtr (.t 10) (.t 11)),oM 9 12] 9 (oZ [oR 4 (.mv (.k (.i .i64 1)))]
 .ret) .skip)))
 (oZ [oR 4 (.mv (.k (.i .i64 0)))]
 .ret))⟩
def g245:Go.Vse.Fn:=⟨31,[.t 4],oZ [oR 2 (.box (.t 0)),oR 3 (.box (.t 1)),oR 4 (.mv (.k (.i .i64 0)))]
 (.seq (.blk 0 (oD [oF 6 0 2,oK 7 1 6,oR 8 (.bin .eql (.t 7) (.k (.s []))),oM 9 8,oG 10 9 (.fa 0 (.t 3)),oG 11 9 (.ld false 1 (.t 10)),oG 12 9 (.bin .eql (.t 11) (.k (.s []))),oR 13 (.pick (.t 9) (.t 12) (.k (.b false))),oM 5 13] 5 (oZ [oF 14 1 2,oL 15 3 14,oF 16 1 3,oL 17 3 16,oR 18 (.callp 156 [(.t 15),(.t 17)]),oM 4 18]
 .ret) (oD [oF 20 0 2,oK 21 1 20,oF 22 0 3,oK 23 1 22,oR 24 (.bin .lss (.t 21) (.t 23)),oM 19 24] 19 (oZ [oR 4 (.mv (.k (.i .i64 (-1))))]
 .ret) (oD [oF 26 0 2,oK 27 1 26,oF 28 0 3,oK 29 1 28,oR 30 (.bin .gtr (.t 27) (.t 29)),oM 25 30] 25 (oZ [oR 4 (.mv (.k (.i .i64 1)))]
 .ret) .skip))))
 (oZ [oR 4 (.mv (.k (.i .i64 0)))]
 .ret))⟩
def g246:Go.Vse.Fn:=⟨22,[.t 6],oZ [oR 4 (.box (.t 1)),oR 5 (.box (.t 2)),oR 6 (.mv (.k (.i .i64 0)))]
 (.seq (oD [oF 7 0 5,oK 8 1 7,oR 9 (.bin .neq (.t 8) (.k (.s [])))] 9 (oZ [oM 10 0,oL 11 2 4,oF 12 0 5,oK 13 1 12,oR 14 (.callp 191 [(.t 10),(.t 11),(.t 13)]),oM 6 14]
 .ret) .skip)
 (.seq (oD [oF 15 1 5,oL 16 3 15,oR 17 (.callp 153 [(.t 16)]),oR 18 (.un .not (.t 17))] 18 (oZ [oR 6 (.mv (.k (.i .i64 (-1))))]
 .ret) .skip)
 (oZ [oF 19 1 5,oF 20 0 19,oK 21 1 20,oM 6 21]
 .ret)))⟩
def g247:Go.Vse.Fn:=⟨9,[.t 4],oZ [oR 4 (.mv (.k (.b false)))]
 (oZ [oM 5 0,oM 6 1,oR 7 (.callp 258 [(.t 5),(.t 6)]),oR 8 (.bin .geq (.t 7) (.k (.i .i64 0))),oM 4 8]
 .ret)⟩
def g248:Go.Vse.Fn:=⟨148,[],oZ [oR 10 (.mv (.k (.b true)))]
 (oZ [oR 11 (.mv (.k (.b true)))]
 (.blk 0 (.loop (.blk 1 (oZ [oM 21 2,oM 22 1,oR 23 (.bin .sub (.t 21) (.t 22)),oM 12 23]
 (.seq (oD [oM 24 12,oR 25 (.bin .leq (.t 24) (.k (.i .i64 12)))] 25 (oZ [oM 26 0,oM 27 1,oM 28 2,oM 29 4,oR 30 (.call 259 [(.t 26),(.t 27),(.t 28),(.t 29)])]
 .ret) .skip)
 (.seq (oD [oM 31 3,oR 32 (.bin .eql (.t 31) (.k (.i .i64 0)))] 32 (oZ [oM 33 0,oM 34 1,oM 35 2,oM 36 4,oR 37 (.call 260 [(.t 33),(.t 34),(.t 35),(.t 36)])]
 .ret) .skip)
 (.seq (oD [oM 38 10,oR 39 (.un .not (.t 38))] 39 (oZ [oM 40 0,oM 41 1,oM 42 2,oM 43 4,oR 44 (.call 261 [(.t 40),(.t 41),(.t 42),(.t 43)])]
 (.reg [oM 45 3,oR 46 (.bin .sub (.t 45) (.k (.i .i64 1))),oM 3 46])) .skip)
 (oZ [oM 48 0,oM 49 1,oM 50 2,oM 51 4,oR 52 (.call 262 [(.t 48),(.t 49),(.t 50),(.t 51)]),oM 47 52,oR 53 (.ext (.t 47) 0),oR 54 (.ext (.t 47) 1),oM 13 53,oM 14 54]
 (.seq (oD [oM 55 14,oR 56 (.bin .eql (.t 55) (.k (.i .i64 2)))] 56 (oZ [oM 57 0,oM 58 1,oM 59 2,oM 60 4,oR 61 (.call 263 [(.t 57),(.t 58),(.t 59),(.t 60)])]
 (oZ [oM 62 2,oR 63 (.bin .sub (.t 62) (.k (.i .i64 1))),oM 64 13,oM 65 1,oR 66 (.bin .sub (.t 64) (.t 65)),oR 67 (.bin .sub (.t 63) (.t 66)),oM 13 67]
 (.reg [oR 14 (.mv (.k (.i .i64 1)))]))) .skip)
 (.seq (oD [oM 68 10,oM 69 68,oG 70 69 (.mv (.t 11)),oR 71 (.pick (.t 69) (.t 70) (.k (.b false))),oM 72 71,oG 73 72 (.mv (.t 14)),oG 74 72 (.bin .eql (.t 73) (.k (.i .i64 1))),oR 75 (.pick (.t 72) (.t 74) (.k (.b false)))] 75 (oD [oM 76 0,oM 77 1,oM 78 2,oM 79 4,oR 80 (.call 264 [(.t 76),(.t 77),(.t 78),(.t 79)])] 80 .ret .skip) .skip)
 (.seq (.seq (.dreg [(oM 81 1,0),(oR 82 (.bin .gtr (.t 81) (.k (.i .i64 0))),0),(oM 83 82,0),(oG 84 83 (.mv (.t 4)),0),(oG 85 83 (.mv (.t 0)),8),(oG 86 83 (.mv (.t 1)),24),(oG 87 83 (.bin .sub (.t 86) (.k (.i .i64 1))),24),(oG 88 83 (.ia 4 (.t 85) (.t 87)),8),(oG 89 83 (.ld true 4 (.t 88)),8),(oG 90 83 (.mv (.t 0)),504),(oG 91 83 (.mv (.t 13)),1016),(oG 92 83 (.ia 4 (.t 90) (.t 91)),504),(oG 93 83 (.ld true 4 (.t 92)),504),(oG 94 83 (.callv (.t 84) [(.t 89),(.t 93)]),0),(oG 95 83 (.bin .lss (.t 94) (.k (.i .i64 0))),0),(oG 96 83 (.un .not (.t 95)),0),(oR 97 (.pick (.t 83) (.t 96) (.k (.b false))),0)])
 (.cond (.t 97) (oZ [oM 98 0,oM 99 1,oM 100 2,oM 101 13,oM 102 4,oR 103 (.call 265 [(.t 98),(.t 99),(.t 100),(.t 101),(.t 102)]),oM 15 103]
 (oZ [oM 104 15,oM 1 104]
 (.exit 1))) .skip))
 (oZ [oM 106 0,oM 107 1,oM 108 2,oM 109 13,oM 110 4,oR 111 (.call 266 [(.t 106),(.t 107),(.t 108),(.t 109),(.t 110)]),oM 105 111,oR 112 (.ext (.t 105) 0),oR 113 (.ext (.t 105) 1),oM 16 112,oM 17 113]
 (oZ [oM 114 17,oM 11 114]
 (oZ [oM 115 16,oM 116 1,oR 117 (.bin .sub (.t 115) (.t 116)),oM 118 2,oM 119 16,oR 120 (.bin .sub (.t 118) (.t 119)),oM 18 117,oM 19 120]
 (oZ [oM 121 12,oR 122 (.bin .quo (.t 121) (.k (.i .i64 8))),oM 20 122]
 (oD [oM 123 18,oM 124 19,oR 125 (.bin .lss (.t 123) (.t 124))] 125 (oZ [oM 126 18,oM 127 20,oR 128 (.bin .geq (.t 126) (.t 127)),oM 10 128]
 (oZ [oM 129 0,oM 130 1,oM 131 16,oM 132 3,oM 133 4,oR 134 (.call 248 [(.t 129),(.t 130),(.t 131),(.t 132),(.t 133)])]
 (.reg [oM 135 16,oR 136 (.bin .add (.t 135) (.k (.i .i64 1))),oM 1 136]))) (oZ [oM 137 19,oM 138 20,oR 139 (.bin .geq (.t 137) (.t 138)),oM 10 139]
 (oZ [oM 140 0,oM 141 16,oR 142 (.bin .add (.t 141) (.k (.i .i64 1))),oM 143 2,oM 144 3,oM 145 4,oR 146 (.call 248 [(.t 140),(.t 142),(.t 143),(.t 144),(.t 145)])]
 (.reg [oM 147 16,oM 2 147]))))))))))))))))))))⟩
def g249:Go.Vse.Fn:=⟨8,[.t 2],oZ [oR 2 (.mv (.k (.i .i64 0)))]
 (.seq (.cond (.k (.b false)) (oZ [oM 3 0,oR 4 (.cvi .u32 (.t 3)),oR 5 (.call 267 [(.t 4)]),oM 2 5]
 .ret) .skip)
 (oZ [oM 6 0,oR 7 (.call 205 [(.t 6)]),oM 2 7]
 .ret))⟩
def g250:Go.Vse.Fn:=⟨22,[.t 4],oZ [oR 2 (.box (.t 0)),oR 3 (.box (.t 1)),oR 4 (.mv (.k (.i .i64 0)))]
 (.seq (.dreg [(oF 5 0 2,0),(oK 6 1 5,0),(oF 7 0 3,3),(oK 8 1 7,3),(oR 9 (.callp 269 [(.t 6),(.t 8)]),0),(oF 10 1 2,31),(oK 11 1 10,31),(oF 12 1 3,127),(oK 13 1 12,127),(oR 14 (.callp 270 [(.t 11),(.t 13)]),0),(oF 15 2 2,1023),(oK 16 1 15,1023),(oF 17 2 3,4095),(oK 18 1 17,4095),(oR 19 (.callp 251 [(.t 16),(.t 18)]),0),(oR 20 (.bsl 1 [.i .i64 0] 3 [(0,(.t 9)),(1,(.t 14)),(2,(.t 19))]),0),(oR 21 (.callp 268 [(.t 20)]),0),(oM 4 21,0)])
 .ret)⟩
def g251:Go.Vse.Fn:=⟨8,[.t 4],oZ [oR 4 (.mv (.k (.i .i64 0)))]
 (oZ [oM 5 0,oM 6 1,oR 7 (.call 271 [(.t 5),(.t 6)]),oM 4 7]
 .ret)⟩
def g252:Go.Vse.Fn:=⟨19,[.t 4],oZ [oR 4 (.mv (.k (.i .i64 0)))]
 (.seq (oZ [oM 6 0,oR 7 (.len (.t 6)),oR 8 (.mv (.k (.i .i64 0)))]
 (.blk 0 (.loop (oZ [oR 9 (.bin .lss (.t 8) (.t 7))]
 (.seq (.cond (.t 9) .skip (.exit 0))
 (.seq (.blk 1 (oZ [oM 10 8,oM 5 10]
 (oD [oM 11 1,oM 12 0,oM 13 5,oI 14 4 12 13,oL 15 4 14,oR 16 (.callv (.t 11) [(.t 15)])] 16 (oZ [oM 17 5,oM 4 17]
 .ret) .skip)))
 (.reg [oR 18 (.bin .add (.t 8) (.k (.i .i64 1))),oM 8 18])))))))
 (oZ [oR 4 (.mv (.k (.i .i64 (-1))))]
 .ret))⟩
def g253:Go.Vse.Fn:=⟨19,[.t 4],oZ [oR 4 (.mv (.k (.i .i64 0)))]
 (.seq (oZ [oM 6 0,oR 7 (.len (.t 6)),oR 8 (.mv (.k (.i .i64 0)))]
 (.blk 0 (.loop (oZ [oR 9 (.bin .lss (.t 8) (.t 7))]
 (.seq (.cond (.t 9) .skip (.exit 0))
 (.seq (.blk 1 (oZ [oM 10 8,oM 5 10]
 (oD [oM 11 1,oM 12 0,oM 13 5,oI 14 3 12 13,oL 15 3 14,oR 16 (.callv (.t 11) [(.t 15)])] 16 (oZ [oM 17 5,oM 4 17]
 .ret) .skip)))
 (.reg [oR 18 (.bin .add (.t 8) (.k (.i .i64 1))),oM 8 18])))))))
 (oZ [oR 4 (.mv (.k (.i .i64 (-1))))]
 .ret))⟩
def g254:Go.Vse.Fn:=⟨54,[.t 2],oZ [oR 1 (.box (.t 0)),oR 2 (.mv (.k (.b false)))]
 (.seq (oD [oF 4 1 1,oL 5 4 4,oF 6 5 1,oL 7 4 6,oR 8 (.callp 230 [(.t 5),(.t 7)]),oM 9 8,oG 10 9 (.fa 0 (.t 1)),oG 11 9 (.ld false 1 (.t 10)),oG 12 9 (.bin .eql (.t 11) (.k (.i .i64 1))),oG 13 9 (.mv (.t 12)),oH 14 13 (.fa 0 (.t 1)),oH 15 13 (.ld false 1 (.t 14)),oH 16 13 (.bin .eql (.t 15) (.k (.i .i64 4))),oG 17 9 (.pick (.t 13) (.k (.b true)) (.t 16)),oR 18 (.pick (.t 9) (.t 17) (.k (.b false)))] 18 (oZ [oR 2 (.mv (.k (.b true)))]
 .ret) .skip)
 (.seq (oD [oF 19 1 1,oF 20 0 19,oK 21 1 20,oR 22 (.bin .neq (.t 21) (.k (.s []))),oM 23 22,oH 24 23 (.fa 5 (.t 1)),oH 25 23 (.fa 0 (.t 24)),oH 26 23 (.ld false 1 (.t 25)),oH 27 23 (.bin .neq (.t 26) (.k (.s []))),oR 28 (.pick (.t 23) (.k (.b true)) (.t 27))] 28 (oZ [oR 2 (.mv (.k (.b false)))]
 .ret) .skip)
 (oZ [oF 29 1 1,oF 30 1 29,oL 31 3 30,oF 32 5 1,oF 33 1 32,oL 34 3 33,oR 35 (.callp 250 [(.t 31),(.t 34)]),oM 3 35]
 (.seq (oZ [oF 36 0 1,oK 37 1 36]
 (.blk 0 (oD [oR 39 (.bin .eql (.t 37) (.k (.i .i64 1))),oM 38 39] 38 (oZ [oM 40 3,oR 41 (.bin .eql (.t 40) (.k (.i .i64 0))),oM 2 41]
 .ret) (oD [oR 43 (.bin .eql (.t 37) (.k (.i .i64 2))),oM 42 43] 42 (oZ [oM 44 3,oR 45 (.bin .neq (.t 44) (.k (.i .i64 0))),oM 2 45]
 .ret) (oD [oR 47 (.bin .eql (.t 37) (.k (.i .i64 3))),oM 46 47] 46 (oZ [oM 48 3,oR 49 (.bin .lss (.t 48) (.k (.i .i64 0))),oM 2 49]
 .ret) (oD [oR 51 (.bin .eql (.t 37) (.k (.i .i64 4))),oM 50 51] 50 (oZ [oM 52 3,oR 53 (.bin .leq (.t 52) (.k (.i .i64 0))),oM 2 53]
 .ret) .skip))))))
 (oZ [oR 2 (.mv (.k (.b false)))]
 .ret)))))⟩
def g255:Go.Vse.Fn:=⟨9,[.t 4],oZ [oR 4 (.mv (.k (.b false)))]
 (oZ [oM 5 0,oM 6 1,oR 7 (.call 272 [(.t 5),(.t 6)]),oR 8 (.bin .geq (.t 7) (.k (.i .i64 0))),oM 4 8]
 .ret)⟩
def g256:Go.Vse.Fn:=⟨41,[.t 4],oZ [oR 3 (.box (.t 0)),oR 4 (.mv (.k (.b false)))]
 (oZ [oF 5 0 3,oK 6 1 5,oF 7 0 1,oK 8 1 7,oR 9 (.bin .eql (.t 6) (.t 8)),oM 10 9,oG 11 10 (.fa 1 (.t 3)),oG 12 10 (.ld true 4 (.t 11)),oG 13 10 (.fa 1 (.t 1)),oG 14 10 (.ld true 4 (.t 13)),oG 15 10 (.callp 230 [(.t 12),(.t 14)]),oG 16 10 (.mv (.t 15)),oG 17 16 (.fa 5 (.t 3)),oG 18 16 (.ld true 4 (.t 17)),oG 19 16 (.fa 5 (.t 1)),oG 20 16 (.ld true 4 (.t 19)),oG 21 16 (.callp 230 [(.t 18),(.t 20)]),oG 22 10 (.pick (.t 16) (.t 21) (.k (.b false))),oG 23 10 (.mv (.t 22)),oH 24 23 (.ld false 1 (.t 2)),oH 25 23 (.mv (.t 24)),oG 26 25 (.fa 1 (.t 3)),oG 27 25 (.ld true 4 (.t 26)),oG 28 25 (.fa 5 (.t 1)),oG 29 25 (.ld true 4 (.t 28)),oG 30 25 (.callp 230 [(.t 27),(.t 29)]),oH 31 23 (.pick (.t 25) (.t 30) (.k (.b false))),oH 32 23 (.mv (.t 31)),oG 33 32 (.fa 5 (.t 3)),oG 34 32 (.ld true 4 (.t 33)),oG 35 32 (.fa 1 (.t 1)),oG 36 32 (.ld true 4 (.t 35)),oG 37 32 (.callp 230 [(.t 34),(.t 36)]),oH 38 23 (.pick (.t 32) (.t 37) (.k (.b false))),oG 39 10 (.pick (.t 23) (.k (.b true)) (.t 38)),oR 40 (.pick (.t 10) (.t 39) (.k (.b false))),oM 4 40]
 .ret)⟩
def g257:Go.Vse.Fn:=⟨19,[.t 4],oZ [oR 4 (.mv (.k (.i .i64 0)))]
 (.seq (oZ [oM 6 0,oR 7 (.len (.t 6)),oR 8 (.mv (.k (.i .i64 0)))]
 (.blk 0 (.loop (oZ [oR 9 (.bin .lss (.t 8) (.t 7))]
 (.seq (.cond (.t 9) .skip (.exit 0))
 (.seq (.blk 1 (oZ [oM 10 8,oM 5 10]
 (oD [oM 11 1,oM 12 0,oM 13 5,oI 14 1 12 13,oK 15 1 14,oR 16 (.callv (.t 11) [(.t 15)])] 16 (oZ [oM 17 5,oM 4 17]
 .ret) .skip)))
 (.reg [oR 18 (.bin .add (.t 8) (.k (.i .i64 1))),oM 8 18])))))))
 (oZ [oR 4 (.mv (.k (.i .i64 (-1))))]
 .ret))⟩
def g258:Go.Vse.Fn:=⟨19,[.t 4],oZ [oR 4 (.mv (.k (.i .i64 0)))]
 (.seq (oZ [oM 6 0,oR 7 (.len (.t 6)),oR 8 (.mv (.k (.i .i64 0)))]
 (.blk 0 (.loop (oZ [oR 9 (.bin .lss (.t 8) (.t 7))]
 (.seq (.cond (.t 9) .skip (.exit 0))
 (.seq (.blk 1 (oZ [oM 10 8,oM 5 10]
 (oD [oM 11 1,oM 12 0,oM 13 5,oI 14 1 12 13,oK 15 1 14,oR 16 (.bin .eql (.t 11) (.t 15))] 16 (oZ [oM 17 5,oM 4 17]
 .ret) .skip)))
 (.reg [oR 18 (.bin .add (.t 8) (.k (.i .i64 1))),oM 8 18])))))))
 (oZ [oR 4 (.mv (.k (.i .i64 (-1))))]
 .ret))⟩
def g259:Go.Vse.Fn:=⟨53,[],oZ [oM 10 1,oR 11 (.bin .add (.t 10) (.k (.i .i64 1))),oM 8 11]
 (.blk 0 (.loop (.seq (oD [oM 12 8,oM 13 2,oR 14 (.bin .lss (.t 12) (.t 13))] 14 .skip (.exit 0))
 (.seq (.blk 1 (oZ [oM 17 8,oM 9 17]
 (.blk 2 (.loop (.seq (.seq (.dreg [(oM 18 9,0),(oM 19 1,1),(oR 20 (.bin .gtr (.t 18) (.t 19)),0),(oM 21 20,0),(oG 22 21 (.mv (.t 3)),0),(oG 23 21 (.mv (.t 0)),16),(oG 24 21 (.mv (.t 9)),48),(oG 25 21 (.ia 4 (.t 23) (.t 24)),16),(oG 26 21 (.ld true 4 (.t 25)),16),(oG 27 21 (.mv (.t 0)),496),(oG 28 21 (.mv (.t 9)),1008),(oG 29 21 (.bin .sub (.t 28) (.k (.i .i64 1))),1008),(oG 30 21 (.ia 4 (.t 27) (.t 29)),496),(oG 31 21 (.ld true 4 (.t 30)),496),(oG 32 21 (.callv (.t 22) [(.t 26),(.t 31)]),0),(oG 33 21 (.bin .lss (.t 32) (.k (.i .i64 0))),0),(oR 34 (.pick (.t 21) (.t 33) (.k (.b false))),0)])
 (.cond (.t 34) .skip (.exit 2)))
 (.seq (.blk 3 (.dreg [(oM 37 0,0),(oM 38 9,1),(oM 39 0,3),(oM 40 9,7),(oR 41 (.bin .sub (.t 40) (.k (.i .i64 1))),7),(oM 42 0,31),(oM 43 9,63),(oR 44 (.bin .sub (.t 43) (.k (.i .i64 1))),63),(oI 45 4 42 44,31),(oL 46 4 45,31),(oM 47 0,1023),(oM 48 9,2047),(oI 49 4 47 48,1023),(oL 50 4 49,1023),(oI 51 4 37 38,28),(oS 4 51 46,28),(oI 52 4 39 41,0),(oS 4 52 50,0)]))
 (.reg [oM 35 9,oR 36 (.bin .sub (.t 35) (.k (.i .i64 1))),oM 9 36])))))))
 (.reg [oM 15 8,oR 16 (.bin .add (.t 15) (.k (.i .i64 1))),oM 8 16])))))⟩
def g260:Go.Vse.Fn:=⟨60,[],oZ [oM 13 1,oM 8 13]
 (oZ [oR 9 (.mv (.k (.i .i64 0)))]
 (oZ [oM 14 2,oM 15 1,oR 16 (.bin .sub (.t 14) (.t 15)),oM 10 16]
 (.seq (oZ [oM 17 10,oR 18 (.bin .sub (.t 17) (.k (.i .i64 1))),oR 19 (.bin .quo (.t 18) (.k (.i .i64 2))),oM 11 19]
 (.blk 0 (.loop (.seq (oD [oM 20 11,oR 21 (.bin .geq (.t 20) (.k (.i .i64 0)))] 21 .skip (.exit 0))
 (.seq (.blk 1 (.reg [oM 24 0,oM 25 11,oM 26 10,oM 27 8,oM 28 3,oR 29 (.call 273 [(.t 24),(.t 25),(.t 26),(.t 27),(.t 28)])]))
 (.reg [oM 22 11,oR 23 (.bin .sub (.t 22) (.k (.i .i64 1))),oM 11 23]))))))
 (oZ [oM 30 10,oR 31 (.bin .sub (.t 30) (.k (.i .i64 1))),oM 12 31]
 (.blk 2 (.loop (.seq (oD [oM 32 12,oR 33 (.bin .geq (.t 32) (.k (.i .i64 0)))] 33 .skip (.exit 2))
 (.seq (.blk 3 (.seq (.dreg [(oM 36 0,0),(oM 37 8,1),(oM 38 0,3),(oM 39 8,7),(oM 40 12,15),(oR 41 (.bin .add (.t 39) (.t 40)),7),(oM 42 0,63),(oM 43 8,127),(oM 44 12,255),(oR 45 (.bin .add (.t 43) (.t 44)),127),(oI 46 4 42 45,63),(oL 47 4 46,63),(oM 48 0,4095),(oM 49 8,8191),(oI 50 4 48 49,4095),(oL 51 4 50,4095),(oI 52 4 36 37,60),(oS 4 52 47,60),(oI 53 4 38 41,0),(oS 4 53 51,0)])
 (.reg [oM 54 0,oM 55 9,oM 56 12,oM 57 8,oM 58 3,oR 59 (.call 273 [(.t 54),(.t 55),(.t 56),(.t 57),(.t 58)])])))
 (.reg [oM 34 12,oR 35 (.bin .sub (.t 34) (.k (.i .i64 1))),oM 12 35])))))))))⟩
def g261:Go.Vse.Fn:=⟨67,[],oZ [oM 13 2,oM 14 1,oR 15 (.bin .sub (.t 13) (.t 14)),oM 8 15]
 (oD [oM 16 8,oR 17 (.bin .geq (.t 16) (.k (.i .i64 8)))] 17 (oZ [oM 18 8,oR 19 (.cvi .u64 (.t 18)),oR 9 (.new [.i .u64 0]),oS 1 9 19]
 (oZ [oM 20 8,oR 21 (.call 274 [(.t 20)]),oM 10 21]
 (oZ [oM 22 1,oM 23 8,oR 24 (.bin .quo (.t 23) (.k (.i .i64 4))),oR 25 (.bin .mul (.t 24) (.k (.i .i64 2))),oR 26 (.bin .add (.t 22) (.t 25)),oR 27 (.bin .sub (.t 26) (.k (.i .i64 1))),oM 11 27]
 (.blk 0 (.loop (.seq (oD [oM 28 11,oM 29 1,oM 30 8,oR 31 (.bin .quo (.t 30) (.k (.i .i64 4))),oR 32 (.bin .mul (.t 31) (.k (.i .i64 2))),oR 33 (.bin .add (.t 29) (.t 32)),oR 34 (.bin .add (.t 33) (.k (.i .i64 1))),oR 35 (.bin .leq (.t 28) (.t 34))] 35 .skip (.exit 0))
 (.seq (.blk 1 (oZ [oR 38 (.call 275 [(.t 9)]),oM 39 10,oR 40 (.bin .sub (.t 39) (.k (.i .u64 1))),oR 41 (.bin .and (.t 38) (.t 40)),oR 42 (.cvi .i64 (.t 41)),oM 12 42]
 (.seq (oD [oM 43 12,oM 44 8,oR 45 (.bin .geq (.t 43) (.t 44))] 45 (.reg [oM 46 12,oM 47 8,oR 48 (.bin .sub (.t 46) (.t 47)),oM 12 48]) .skip)
 (.dreg [(oM 49 0,0),(oM 50 11,1),(oM 51 0,3),(oM 52 1,7),(oM 53 12,15),(oR 54 (.bin .add (.t 52) (.t 53)),7),(oM 55 0,63),(oM 56 1,127),(oM 57 12,255),(oR 58 (.bin .add (.t 56) (.t 57)),127),(oI 59 4 55 58,63),(oL 60 4 59,63),(oM 61 0,4095),(oM 62 11,8191),(oI 63 4 61 62,4095),(oL 64 4 63,4095),(oI 65 4 49 50,60),(oS 4 65 60,60),(oI 66 4 51 54,0),(oS 4 66 64,0)]))))
 (.reg [oM 36 11,oR 37 (.bin .add (.t 36) (.k (.i .i64 1))),oM 11 37])))))))) .skip)⟩
def g262:Go.Vse.Fn:=⟨63,[.t 8,.t 9],oZ [oR 8 (.mv (.k (.i .i64 0))),oR 9 (.mv (.k (.i .i64 0)))]
 (oZ [oM 15 2,oM 16 1,oR 17 (.bin .sub (.t 15) (.t 16)),oM 10 17]
 (oZ [oR 11 (.new [.i .i64 0])]
 (oZ [oM 18 1,oM 19 10,oR 20 (.bin .quo (.t 19) (.k (.i .i64 4))),oR 21 (.bin .mul (.t 20) (.k (.i .i64 1))),oR 22 (.bin .add (.t 18) (.t 21)),oM 12 22]
 (oZ [oM 23 1,oM 24 10,oR 25 (.bin .quo (.t 24) (.k (.i .i64 4))),oR 26 (.bin .mul (.t 25) (.k (.i .i64 2))),oR 27 (.bin .add (.t 23) (.t 26)),oM 13 27]
 (oZ [oM 28 1,oM 29 10,oR 30 (.bin .quo (.t 29) (.k (.i .i64 4))),oR 31 (.bin .mul (.t 30) (.k (.i .i64 3))),oR 32 (.bin .add (.t 28) (.t 31)),oM 14 32]
 (.seq (oD [oM 33 10,oR 34 (.bin .geq (.t 33) (.k (.i .i64 8)))] 34 (.seq (oD [oM 35 10,oR 36 (.bin .geq (.t 35) (.k (.i .i64 50)))] 36 (oZ [oM 37 0,oM 38 12,oM 39 3,oR 40 (.call 276 [(.t 37),(.t 38),(.t 11),(.t 39)]),oM 12 40]
 (oZ [oM 41 0,oM 42 13,oM 43 3,oR 44 (.call 276 [(.t 41),(.t 42),(.t 11),(.t 43)]),oM 13 44]
 (.reg [oM 45 0,oM 46 14,oM 47 3,oR 48 (.call 276 [(.t 45),(.t 46),(.t 11),(.t 47)]),oM 14 48]))) .skip)
 (.reg [oM 49 0,oM 50 12,oM 51 13,oM 52 14,oM 53 3,oR 54 (.call 277 [(.t 49),(.t 50),(.t 51),(.t 52),(.t 11),(.t 53)]),oM 13 54])) .skip)
 (oZ [oK 55 1 11]
 (.blk 0 (oD [oR 58 (.bin .eql (.t 55) (.k (.i .i64 0))),oM 57 58] 57 (oZ [oM 59 13,oM 8 59,oR 9 (.mv (.k (.i .i64 1)))]
 .ret) (oD [oR 61 (.bin .eql (.t 55) (.k (.i .i64 12))),oM 60 61] 60 (oZ [oM 62 13,oM 8 62,oR 9 (.mv (.k (.i .i64 2)))]
 .ret) (oZ [oM 56 13,oM 8 56,oR 9 (.mv (.k (.i .i64 0)))]
 .ret)))))))))))⟩
def g263:Go.Vse.Fn:=⟨34,[],oZ [oM 10 1,oM 8 10]
 (oZ [oM 11 2,oR 12 (.bin .sub (.t 11) (.k (.i .i64 1))),oM 9 12]
 (.blk 0 (.loop (.seq (oD [oM 13 8,oM 14 9,oR 15 (.bin .lss (.t 13) (.t 14))] 15 .skip (.exit 0))
 (.blk 1 (.seq (.dreg [(oM 16 0,0),(oM 17 8,1),(oM 18 0,3),(oM 19 9,7),(oM 20 0,15),(oM 21 9,31),(oI 22 4 20 21,15),(oL 23 4 22,15),(oM 24 0,255),(oM 25 8,511),(oI 26 4 24 25,255),(oL 27 4 26,255),(oI 28 4 16 17,12),(oS 4 28 23,12),(oI 29 4 18 19,0),(oS 4 29 27,0)])
 (oZ [oM 30 8,oR 31 (.bin .add (.t 30) (.k (.i .i64 1))),oM 8 31]
 (.reg [oM 32 9,oR 33 (.bin .sub (.t 32) (.k (.i .i64 1))),oM 9 33]))))))))⟩
def g264:Go.Vse.Fn:=⟨141,[.t 8],oZ [oR 8 (.mv (.k (.b false)))]
 (oZ [oM 13 1,oR 14 (.bin .add (.t 13) (.k (.i .i64 1))),oM 9 14]
 (.seq (oZ [oR 10 (.mv (.k (.i .i64 0)))]
 (.blk 0 (.loop (.seq (oD [oM 15 10,oR 16 (.bin .lss (.t 15) (.k (.i .i64 5)))] 16 .skip (.exit 0))
 (.seq (.blk 1 (.seq (.blk 2 (.loop (.seq (.seq (.dreg [(oM 19 9,0),(oM 20 2,1),(oR 21 (.bin .lss (.t 19) (.t 20)),0),(oM 22 21,0),(oG 23 22 (.mv (.t 3)),0),(oG 24 22 (.mv (.t 0)),16),(oG 25 22 (.mv (.t 9)),48),(oG 26 22 (.ia 4 (.t 24) (.t 25)),16),(oG 27 22 (.ld true 4 (.t 26)),16),(oG 28 22 (.mv (.t 0)),496),(oG 29 22 (.mv (.t 9)),1008),(oG 30 22 (.bin .sub (.t 29) (.k (.i .i64 1))),1008),(oG 31 22 (.ia 4 (.t 28) (.t 30)),496),(oG 32 22 (.ld true 4 (.t 31)),496),(oG 33 22 (.callv (.t 23) [(.t 27),(.t 32)]),0),(oG 34 22 (.bin .lss (.t 33) (.k (.i .i64 0))),0),(oG 35 22 (.un .not (.t 34)),0),(oR 36 (.pick (.t 22) (.t 35) (.k (.b false))),0)])
 (.cond (.t 36) .skip (.exit 2)))
 (.blk 3 (.reg [oM 37 9,oR 38 (.bin .add (.t 37) (.k (.i .i64 1))),oM 9 38])))))
 (.seq (oD [oM 39 9,oM 40 2,oR 41 (.bin .eql (.t 39) (.t 40))] 41 (oZ [oR 8 (.mv (.k (.b true)))]
 .ret) .skip)
 (.seq (oD [oM 42 2,oM 43 1,oR 44 (.bin .sub (.t 42) (.t 43)),oR 45 (.bin .lss (.t 44) (.k (.i .i64 50)))] 45 (oZ [oR 8 (.mv (.k (.b false)))]
 .ret) .skip)
 (.seq (.dreg [(oM 46 0,0),(oM 47 9,1),(oM 48 0,3),(oM 49 9,7),(oR 50 (.bin .sub (.t 49) (.k (.i .i64 1))),7),(oM 51 0,31),(oM 52 9,63),(oR 53 (.bin .sub (.t 52) (.k (.i .i64 1))),63),(oI 54 4 51 53,31),(oL 55 4 54,31),(oM 56 0,1023),(oM 57 9,2047),(oI 58 4 56 57,1023),(oL 59 4 58,1023),(oI 60 4 46 47,28),(oS 4 60 55,28),(oI 61 4 48 50,0),(oS 4 61 59,0)])
 (.seq (oD [oM 62 9,oM 63 1,oR 64 (.bin .sub (.t 62) (.t 63)),oR 65 (.bin .geq (.t 64) (.k (.i .i64 2)))] 65 (oZ [oM 66 9,oR 67 (.bin .sub (.t 66) (.k (.i .i64 1))),oM 11 67]
 (.blk 4 (.loop (.seq (oD [oM 68 11,oR 69 (.bin .geq (.t 68) (.k (.i .i64 1)))] 69 .skip (.exit 4))
 (.seq (.blk 5 (.seq (.seq (.dreg [(oM 72 3,0),(oM 73 0,1),(oM 74 11,3),(oI 75 4 73 74,1),(oL 76 4 75,1),(oM 77 0,31),(oM 78 11,63),(oR 79 (.bin .sub (.t 78) (.k (.i .i64 1))),63),(oI 80 4 77 79,31),(oL 81 4 80,31),(oR 82 (.callv (.t 72) [(.t 76),(.t 81)]),0),(oR 83 (.bin .lss (.t 82) (.k (.i .i64 0))),0),(oR 84 (.un .not (.t 83)),0)])
 (.cond (.t 84) (.exit 4) .skip))
 (.dreg [(oM 85 0,0),(oM 86 11,1),(oM 87 0,3),(oM 88 11,7),(oR 89 (.bin .sub (.t 88) (.k (.i .i64 1))),7),(oM 90 0,31),(oM 91 11,63),(oR 92 (.bin .sub (.t 91) (.k (.i .i64 1))),63),(oI 93 4 90 92,31),(oL 94 4 93,31),(oM 95 0,1023),(oM 96 11,2047),(oI 97 4 95 96,1023),(oL 98 4 97,1023),(oI 99 4 85 86,28),(oS 4 99 94,28),(oI 100 4 87 89,0),(oS 4 100 98,0)])))
 (.reg [oM 70 11,oR 71 (.bin .sub (.t 70) (.k (.i .i64 1))),oM 11 71])))))) .skip)
 (oD [oM 101 2,oM 102 9,oR 103 (.bin .sub (.t 101) (.t 102)),oR 104 (.bin .geq (.t 103) (.k (.i .i64 2)))] 104 (oZ [oM 105 9,oR 106 (.bin .add (.t 105) (.k (.i .i64 1))),oM 12 106]
 (.blk 6 (.loop (.seq (oD [oM 107 12,oM 108 2,oR 109 (.bin .lss (.t 107) (.t 108))] 109 .skip (.exit 6))
 (.seq (.blk 7 (.seq (.seq (.dreg [(oM 112 3,0),(oM 113 0,1),(oM 114 12,3),(oI 115 4 113 114,1),(oL 116 4 115,1),(oM 117 0,31),(oM 118 12,63),(oR 119 (.bin .sub (.t 118) (.k (.i .i64 1))),63),(oI 120 4 117 119,31),(oL 121 4 120,31),(oR 122 (.callv (.t 112) [(.t 116),(.t 121)]),0),(oR 123 (.bin .lss (.t 122) (.k (.i .i64 0))),0),(oR 124 (.un .not (.t 123)),0)])
 (.cond (.t 124) (.exit 6) .skip))
 (.dreg [(oM 125 0,0),(oM 126 12,1),(oM 127 0,3),(oM 128 12,7),(oR 129 (.bin .sub (.t 128) (.k (.i .i64 1))),7),(oM 130 0,31),(oM 131 12,63),(oR 132 (.bin .sub (.t 131) (.k (.i .i64 1))),63),(oI 133 4 130 132,31),(oL 134 4 133,31),(oM 135 0,1023),(oM 136 12,2047),(oI 137 4 135 136,1023),(oL 138 4 137,1023),(oI 139 4 125 126,28),(oS 4 139 134,28),(oI 140 4 127 129,0),(oS 4 140 138,0)])))
 (.reg [oM 110 12,oR 111 (.bin .add (.t 110) (.k (.i .i64 1))),oM 12 111])))))) .skip)))))))
 (.reg [oM 17 10,oR 18 (.bin .add (.t 17) (.k (.i .i64 1))),oM 10 18]))))))
 (oZ [oR 8 (.mv (.k (.b false)))]
 .ret)))⟩
def g265:Go.Vse.Fn:=⟨90,[.t 10],oZ [oR 10 (.mv (.k (.i .i64 0)))]
 (.seq (.dreg [(oM 13 0,0),(oM 14 1,1),(oM 15 0,3),(oM 16 3,7),(oM 17 0,15),(oM 18 3,31),(oI 19 4 17 18,15),(oL 20 4 19,15),(oM 21 0,255),(oM 22 1,511),(oI 23 4 21 22,255),(oL 24 4 23,255),(oI 25 4 13 14,12),(oS 4 25 20,12),(oI 26 4 15 16,0),(oS 4 26 24,0)])
 (oZ [oM 27 1,oR 28 (.bin .add (.t 27) (.k (.i .i64 1))),oM 29 2,oR 30 (.bin .sub (.t 29) (.k (.i .i64 1))),oM 11 28,oM 12 30]
 (.seq (.blk 0 (.loop (.blk 1 (.seq (.blk 2 (.loop (.seq (.seq (.dreg [(oM 31 11,0),(oM 32 12,1),(oR 33 (.bin .leq (.t 31) (.t 32)),0),(oM 34 33,0),(oG 35 34 (.mv (.t 4)),0),(oG 36 34 (.mv (.t 0)),16),(oG 37 34 (.mv (.t 1)),48),(oG 38 34 (.ia 4 (.t 36) (.t 37)),16),(oG 39 34 (.ld true 4 (.t 38)),16),(oG 40 34 (.mv (.t 0)),496),(oG 41 34 (.mv (.t 11)),1008),(oG 42 34 (.ia 4 (.t 40) (.t 41)),496),(oG 43 34 (.ld true 4 (.t 42)),496),(oG 44 34 (.callv (.t 35) [(.t 39),(.t 43)]),0),(oG 45 34 (.bin .lss (.t 44) (.k (.i .i64 0))),0),(oG 46 34 (.un .not (.t 45)),0),(oR 47 (.pick (.t 34) (.t 46) (.k (.b false))),0)])
 (.cond (.t 47) .skip (.exit 2)))
 (.blk 3 (.reg [oM 48 11,oR 49 (.bin .add (.t 48) (.k (.i .i64 1))),oM 11 49])))))
 (.seq (.blk 4 (.loop (.seq (.seq (.dreg [(oM 50 11,0),(oM 51 12,1),(oR 52 (.bin .leq (.t 50) (.t 51)),0),(oM 53 52,0),(oG 54 53 (.mv (.t 4)),0),(oG 55 53 (.mv (.t 0)),16),(oG 56 53 (.mv (.t 1)),48),(oG 57 53 (.ia 4 (.t 55) (.t 56)),16),(oG 58 53 (.ld true 4 (.t 57)),16),(oG 59 53 (.mv (.t 0)),496),(oG 60 53 (.mv (.t 12)),1008),(oG 61 53 (.ia 4 (.t 59) (.t 60)),496),(oG 62 53 (.ld true 4 (.t 61)),496),(oG 63 53 (.callv (.t 54) [(.t 58),(.t 62)]),0),(oG 64 53 (.bin .lss (.t 63) (.k (.i .i64 0))),0),(oR 65 (.pick (.t 53) (.t 64) (.k (.b false))),0)])
 (.cond (.t 65) .skip (.exit 4)))
 (.blk 5 (.reg [oM 66 12,oR 67 (.bin .sub (.t 66) (.k (.i .i64 1))),oM 12 67])))))
 (.seq (oD [oM 68 11,oM 69 12,oR 70 (.bin .gtr (.t 68) (.t 69))] 70 (.exit 0) .skip)
 (.seq (.dreg [(oM 71 0,0),(oM 72 11,1),(oM 73 0,3),(oM 74 12,7),(oM 75 0,15),(oM 76 12,31),(oI 77 4 75 76,15),(oL 78 4 77,15),(oM 79 0,255),(oM 80 11,511),(oI 81 4 79 80,255),(oL 82 4 81,255),(oI 83 4 71 72,12),(oS 4 83 78,12),(oI 84 4 73 74,0),(oS 4 84 82,0)])
 (oZ [oM 85 11,oR 86 (.bin .add (.t 85) (.k (.i .i64 1))),oM 11 86]
 (.reg [oM 87 12,oR 88 (.bin .sub (.t 87) (.k (.i .i64 1))),oM 12 88])))))))))
 (oZ [oM 89 11,oM 10 89]
 .ret))))⟩
def g266:Go.Vse.Fn:=⟨178,[.t 10,.t 11],oZ [oR 10 (.mv (.k (.i .i64 0))),oR 11 (.mv (.k (.b false)))]
 (.seq (.dreg [(oM 14 0,0),(oM 15 1,1),(oM 16 0,3),(oM 17 3,7),(oM 18 0,15),(oM 19 3,31),(oI 20 4 18 19,15),(oL 21 4 20,15),(oM 22 0,255),(oM 23 1,511),(oI 24 4 22 23,255),(oL 25 4 24,255),(oI 26 4 14 15,12),(oS 4 26 21,12),(oI 27 4 16 17,0),(oS 4 27 25,0)])
 (oZ [oM 28 1,oR 29 (.bin .add (.t 28) (.k (.i .i64 1))),oM 30 2,oR 31 (.bin .sub (.t 30) (.k (.i .i64 1))),oM 12 29,oM 13 31]
 (.seq (.blk 0 (.loop (.seq (.seq (.dreg [(oM 32 12,0),(oM 33 13,1),(oR 34 (.bin .leq (.t 32) (.t 33)),0),(oM 35 34,0),(oG 36 35 (.mv (.t 4)),0),(oG 37 35 (.mv (.t 0)),16),(oG 38 35 (.mv (.t 12)),48),(oG 39 35 (.ia 4 (.t 37) (.t 38)),16),(oG 40 35 (.ld true 4 (.t 39)),16),(oG 41 35 (.mv (.t 0)),496),(oG 42 35 (.mv (.t 1)),1008),(oG 43 35 (.ia 4 (.t 41) (.t 42)),496),(oG 44 35 (.ld true 4 (.t 43)),496),(oG 45 35 (.callv (.t 36) [(.t 40),(.t 44)]),0),(oG 46 35 (.bin .lss (.t 45) (.k (.i .i64 0))),0),(oR 47 (.pick (.t 35) (.t 46) (.k (.b false))),0)])
 (.cond (.t 47) .skip (.exit 0)))
 (.blk 1 (.reg [oM 48 12,oR 49 (.bin .add (.t 48) (.k (.i .i64 1))),oM 12 49])))))
 (.seq (.blk 2 (.loop (.seq (.seq (.dreg [(oM 50 12,0),(oM 51 13,1),(oR 52 (.bin .leq (.t 50) (.t 51)),0),(oM 53 52,0),(oG 54 53 (.mv (.t 4)),0),(oG 55 53 (.mv (.t 0)),16),(oG 56 53 (.mv (.t 13)),48),(oG 57 53 (.ia 4 (.t 55) (.t 56)),16),(oG 58 53 (.ld true 4 (.t 57)),16),(oG 59 53 (.mv (.t 0)),496),(oG 60 53 (.mv (.t 1)),1008),(oG 61 53 (.ia 4 (.t 59) (.t 60)),496),(oG 62 53 (.ld true 4 (.t 61)),496),(oG 63 53 (.callv (.t 54) [(.t 58),(.t 62)]),0),(oG 64 53 (.bin .lss (.t 63) (.k (.i .i64 0))),0),(oG 65 53 (.un .not (.t 64)),0),(oR 66 (.pick (.t 53) (.t 65) (.k (.b false))),0)])
 (.cond (.t 66) .skip (.exit 2)))
 (.blk 3 (.reg [oM 67 13,oR 68 (.bin .sub (.t 67) (.k (.i .i64 1))),oM 13 68])))))
 (.seq (oD [oM 69 12,oM 70 13,oR 71 (.bin .gtr (.t 69) (.t 70))] 71 (.seq (.dreg [(oM 72 0,0),(oM 73 13,1),(oM 74 0,3),(oM 75 1,7),(oM 76 0,15),(oM 77 1,31),(oI 78 4 76 77,15),(oL 79 4 78,15),(oM 80 0,255),(oM 81 13,511),(oI 82 4 80 81,255),(oL 83 4 82,255),(oI 84 4 72 73,12),(oS 4 84 79,12),(oI 85 4 74 75,0),(oS 4 85 83,0)])
 (oZ [oM 86 13,oM 10 86,oR 11 (.mv (.k (.b true)))]
 .ret)) .skip)
 (.seq (.dreg [(oM 87 0,0),(oM 88 12,1),(oM 89 0,3),(oM 90 13,7),(oM 91 0,15),(oM 92 13,31),(oI 93 4 91 92,15),(oL 94 4 93,15),(oM 95 0,255),(oM 96 12,511),(oI 97 4 95 96,255),(oL 98 4 97,255),(oI 99 4 87 88,12),(oS 4 99 94,12),(oI 100 4 89 90,0),(oS 4 100 98,0)])
 (oZ [oM 101 12,oR 102 (.bin .add (.t 101) (.k (.i .i64 1))),oM 12 102]
 (oZ [oM 103 13,oR 104 (.bin .sub (.t 103) (.k (.i .i64 1))),oM 13 104]
 (.seq (.blk 4 (.loop (.blk 5 (.seq (.blk 6 (.loop (.seq (.seq (.dreg [(oM 105 12,0),(oM 106 13,1),(oR 107 (.bin .leq (.t 105) (.t 106)),0),(oM 108 107,0),(oG 109 108 (.mv (.t 4)),0),(oG 110 108 (.mv (.t 0)),16),(oG 111 108 (.mv (.t 12)),48),(oG 112 108 (.ia 4 (.t 110) (.t 111)),16),(oG 113 108 (.ld true 4 (.t 112)),16),(oG 114 108 (.mv (.t 0)),496),(oG 115 108 (.mv (.t 1)),1008),(oG 116 108 (.ia 4 (.t 114) (.t 115)),496),(oG 117 108 (.ld true 4 (.t 116)),496),(oG 118 108 (.callv (.t 109) [(.t 113),(.t 117)]),0),(oG 119 108 (.bin .lss (.t 118) (.k (.i .i64 0))),0),(oR 120 (.pick (.t 108) (.t 119) (.k (.b false))),0)])
 (.cond (.t 120) .skip (.exit 6)))
 (.blk 7 (.reg [oM 121 12,oR 122 (.bin .add (.t 121) (.k (.i .i64 1))),oM 12 122])))))
 (.seq (.blk 8 (.loop (.seq (.seq (.dreg [(oM 123 12,0),(oM 124 13,1),(oR 125 (.bin .leq (.t 123) (.t 124)),0),(oM 126 125,0),(oG 127 126 (.mv (.t 4)),0),(oG 128 126 (.mv (.t 0)),16),(oG 129 126 (.mv (.t 13)),48),(oG 130 126 (.ia 4 (.t 128) (.t 129)),16),(oG 131 126 (.ld true 4 (.t 130)),16),(oG 132 126 (.mv (.t 0)),496),(oG 133 126 (.mv (.t 1)),1008),(oG 134 126 (.ia 4 (.t 132) (.t 133)),496),(oG 135 126 (.ld true 4 (.t 134)),496),(oG 136 126 (.callv (.t 127) [(.t 131),(.t 135)]),0),(oG 137 126 (.bin .lss (.t 136) (.k (.i .i64 0))),0),(oG 138 126 (.un .not (.t 137)),0),(oR 139 (.pick (.t 126) (.t 138) (.k (.b false))),0)])
 (.cond (.t 139) .skip (.exit 8)))
 (.blk 9 (.reg [oM 140 13,oR 141 (.bin .sub (.t 140) (.k (.i .i64 1))),oM 13 141])))))
 (.seq (oD [oM 142 12,oM 143 13,oR 144 (.bin .gtr (.t 142) (.t 143))] 144 (.exit 4) .skip)
 (.seq (.dreg [(oM 145 0,0),(oM 146 12,1),(oM 147 0,3),(oM 148 13,7),(oM 149 0,15),(oM 150 13,31),(oI 151 4 149 150,15),(oL 152 4 151,15),(oM 153 0,255),(oM 154 12,511),(oI 155 4 153 154,255),(oL 156 4 155,255),(oI 157 4 145 146,12),(oS 4 157 152,12),(oI 158 4 147 148,0),(oS 4 158 156,0)])
 (oZ [oM 159 12,oR 160 (.bin .add (.t 159) (.k (.i .i64 1))),oM 12 160]
 (.reg [oM 161 13,oR 162 (.bin .sub (.t 161) (.k (.i .i64 1))),oM 13 162])))))))))
 (.seq (.dreg [(oM 163 0,0),(oM 164 13,1),(oM 165 0,3),(oM 166 1,7),(oM 167 0,15),(oM 168 1,31),(oI 169 4 167 168,15),(oL 170 4 169,15),(oM 171 0,255),(oM 172 13,511),(oI 173 4 171 172,255),(oL 174 4 173,255),(oI 175 4 163 164,12),(oS 4 175 170,12),(oI 176 4 165 166,0),(oS 4 176 174,0)])
 (oZ [oM 177 13,oM 10 177,oR 11 (.mv (.k (.b false)))]
 .ret)))))))))))⟩
def g267:Go.Vse.Fn:=⟨19,[.t 2],oZ [oR 2 (.mv (.k (.i .i64 0)))]
 (.seq (oD [oM 3 0,oR 4 (.bin .geq (.t 3) (.k (.i .u32 65536)))] 4 (oZ [oM 5 0,oR 6 (.bin .shr (.t 5) (.k (.i .u64 16))),oM 0 6]
 (.reg [oR 2 (.mv (.k (.i .i64 16)))])) .skip)
 (.seq (oD [oM 7 0,oR 8 (.bin .geq (.t 7) (.k (.i .u32 256)))] 8 (oZ [oM 9 0,oR 10 (.bin .shr (.t 9) (.k (.i .u64 8))),oM 0 10]
 (.reg [oM 11 2,oR 12 (.bin .add (.t 11) (.k (.i .i64 8))),oM 2 12])) .skip)
 (oZ [oM 13 2,oM 14 0,oR 15 (.cvi .u8 (.t 14)),oR 16 (.ixs (.k (.s [0,1,2,2,3,3,3,3,4,4,4,4,4,4,4,4,5,5,5,5,5,5,5,5,5,5,5,5,5,5,5,5,6,6,6,6,6,6,6,6,6,6,6,6,6,6,6,6,6,6,6,6,6,6,6,6,6,6,6,6,6,6,6,6,7,7,7,7,7,7,7,7,7,7,7,7,7,7,7,7,7,7,7,7,7,7,7,7,7,7,7,7,7,7,7,7,7,7,7,7,7,7,7,7,7,7,7,7,7,7,7,7,7,7,7,7,7,7,7,7,7,7,7,7,7,7,7,7,8,8,8,8,8,8,8,8,8,8,8,8,8,8,8,8,8,8,8,8,8,8,8,8,8,8,8,8,8,8,8,8,8,8,8,8,8,8,8,8,8,8,8,8,8,8,8,8,8,8,8,8,8,8,8,8,8,8,8,8,8,8,8,8,8,8,8,8,8,8,8,8,8,8,8,8,8,8,8,8,8,8,8,8,8,8,8,8,8,8,8,8,8,8,8,8,8,8,8,8,8,8,8,8,8,8,8,8,8,8,8,8,8,8,8,8,8,8,8,8,8,8,8,8,8,8,8,8])) (.t 15)),oR 17 (.cvi .i64 (.t 16)),oR 18 (.bin .add (.t 13) (.t 17)),oM 2 18]
 .ret)))⟩
def g268:Go.Vse.Fn:=⟨18,[.t 2],oZ [oR 2 (.mv (.k (.i .i64 0)))]
 (oZ [oR 3 (.mv (.k (.i .i64 0)))]
 (.seq (oZ [oM 6 0,oR 7 (.len (.t 6)),oR 8 (.mv (.k (.i .i64 0)))]
 (.blk 0 (.loop (oZ [oR 9 (.bin .lss (.t 8) (.t 7))]
 (.seq (.cond (.t 9) .skip (.exit 0))
 (.seq (.blk 1 (oZ [oI 10 1 6 8,oK 11 1 10,oM 5 11]
 (oD [oM 12 5,oM 13 3,oR 14 (.bin .neq (.t 12) (.t 13))] 14 (oZ [oM 15 5,oM 2 15]
 .ret) .skip)))
 (.reg [oR 16 (.bin .add (.t 8) (.k (.i .i64 1))),oM 8 16])))))))
 (oZ [oM 17 3,oM 2 17]
 .ret)))⟩
def g269:Go.Vse.Fn:=⟨20,[.t 4],oZ [oR 4 (.mv (.k (.i .i64 0)))]
 (oZ [oM 7 0,oR 8 (.callp 278 [(.t 7)]),oM 5 8]
 (oZ [oM 9 1,oR 10 (.callp 278 [(.t 9)]),oM 6 10]
 (.seq (oD [oM 11 5] 11 (.seq (oD [oM 12 6] 12 (oZ [oR 4 (.mv (.k (.i .i64 0)))]
 .ret) .skip)
 (oZ [oR 4 (.mv (.k (.i .i64 (-1))))]
 .ret)) .skip)
 (.seq (oD [oM 13 6] 13 (oZ [oR 4 (.mv (.k (.i .i64 1)))]
 .ret) .skip)
 (.seq (oD [oM 14 0,oM 15 1,oR 16 (.bin .lss (.t 14) (.t 15))] 16 (oZ [oR 4 (.mv (.k (.i .i64 (-1))))]
 .ret) .skip)
 (.seq (oD [oM 17 0,oM 18 1,oR 19 (.bin .gtr (.t 17) (.t 18))] 19 (oZ [oR 4 (.mv (.k (.i .i64 1)))]
 .ret) .skip)
 (oZ [oR 4 (.mv (.k (.i .i64 0)))]
 .ret)))))))⟩
def g270:Go.Vse.Fn:=⟨20,[.t 4],oZ [oR 4 (.mv (.k (.i .i64 0)))]
 (oZ [oM 7 0,oR 8 (.callp 279 [(.t 7)]),oM 5 8]
 (oZ [oM 9 1,oR 10 (.callp 279 [(.t 9)]),oM 6 10]
 (.seq (oD [oM 11 5] 11 (.seq (oD [oM 12 6] 12 (oZ [oR 4 (.mv (.k (.i .i64 0)))]
 .ret) .skip)
 (oZ [oR 4 (.mv (.k (.i .i64 (-1))))]
 .ret)) .skip)
 (.seq (oD [oM 13 6] 13 (oZ [oR 4 (.mv (.k (.i .i64 1)))]
 .ret) .skip)
 (.seq (oD [oM 14 0,oM 15 1,oR 16 (.bin .lss (.t 14) (.t 15))] 16 (oZ [oR 4 (.mv (.k (.i .i64 (-1))))]
 .ret) .skip)
 (.seq (oD [oM 17 0,oM 18 1,oR 19 (.bin .gtr (.t 17) (.t 18))] 19 (oZ [oR 4 (.mv (.k (.i .i64 1)))]
 .ret) .skip)
 (oZ [oR 4 (.mv (.k (.i .i64 0)))]
 .ret)))))))⟩
def g272:Go.Vse.Fn:=⟨19,[.t 4],oZ [oR 4 (.mv (.k (.i .i64 0)))]
 (.seq (oZ [oM 6 0,oR 7 (.len (.t 6)),oR 8 (.mv (.k (.i .i64 0)))]
 (.blk 0 (.loop (oZ [oR 9 (.bin .lss (.t 8) (.t 7))]
 (.seq (.cond (.t 9) .skip (.exit 0))
 (.seq (.blk 1 (oZ [oM 10 8,oM 5 10]
 (oD [oM 11 1,oM 12 0,oM 13 5,oI 14 9 12 13,oL 15 9 14,oR 16 (.callv (.t 11) [(.t 15)])] 16 (oZ [oM 17 5,oM 4 17]
 .ret) .skip)))
 (.reg [oR 18 (.bin .add (.t 8) (.k (.i .i64 1))),oM 8 18])))))))
 (oZ [oR 4 (.mv (.k (.i .i64 (-1))))]
 .ret))⟩
def g273:Go.Vse.Fn:=⟨82,[],oZ [oM 12 1,oM 10 12]
 (.blk 0 (.loop (.blk 1 (oZ [oM 13 10,oR 14 (.bin .mul (.k (.i .i64 2)) (.t 13)),oR 15 (.bin .add (.t 14) (.k (.i .i64 1))),oM 11 15]
 (.seq (oD [oM 16 11,oM 17 2,oR 18 (.bin .geq (.t 16) (.t 17))] 18 (.exit 0) .skip)
 (.seq (.seq (.dreg [(oM 19 11,0),(oR 20 (.bin .add (.t 19) (.k (.i .i64 1))),0),(oM 21 2,3),(oR 22 (.bin .lss (.t 20) (.t 21)),0),(oM 23 22,0),(oG 24 23 (.mv (.t 4)),0),(oG 25 23 (.mv (.t 0)),32),(oG 26 23 (.mv (.t 3)),96),(oG 27 23 (.mv (.t 11)),224),(oG 28 23 (.bin .add (.t 26) (.t 27)),96),(oG 29 23 (.ia 4 (.t 25) (.t 28)),32),(oG 30 23 (.ld true 4 (.t 29)),32),(oG 31 23 (.mv (.t 0)),4064),(oG 32 23 (.mv (.t 3)),8160),(oG 33 23 (.mv (.t 11)),16352),(oG 34 23 (.bin .add (.t 32) (.t 33)),8160),(oG 35 23 (.bin .add (.t 34) (.k (.i .i64 1))),8160),(oG 36 23 (.ia 4 (.t 31) (.t 35)),4064),(oG 37 23 (.ld true 4 (.t 36)),4064),(oG 38 23 (.callv (.t 24) [(.t 30),(.t 37)]),0),(oG 39 23 (.bin .lss (.t 38) (.k (.i .i64 0))),0),(oR 40 (.pick (.t 23) (.t 39) (.k (.b false))),0)])
 (.cond (.t 40) (.reg [oM 41 11,oR 42 (.bin .add (.t 41) (.k (.i .i64 1))),oM 11 42]) .skip))
 (.seq (.seq (.dreg [(oM 43 4,0),(oM 44 0,1),(oM 45 3,3),(oM 46 10,7),(oR 47 (.bin .add (.t 45) (.t 46)),3),(oI 48 4 44 47,1),(oL 49 4 48,1),(oM 50 0,127),(oM 51 3,255),(oM 52 11,511),(oR 53 (.bin .add (.t 51) (.t 52)),255),(oI 54 4 50 53,127),(oL 55 4 54,127),(oR 56 (.callv (.t 43) [(.t 49),(.t 55)]),0),(oR 57 (.bin .lss (.t 56) (.k (.i .i64 0))),0),(oR 58 (.un .not (.t 57)),0)])
 (.cond (.t 58) .ret .skip))
 (.seq (.dreg [(oM 59 0,0),(oM 60 3,1),(oM 61 10,3),(oR 62 (.bin .add (.t 60) (.t 61)),1),(oM 63 0,15),(oM 64 3,31),(oM 65 11,63),(oR 66 (.bin .add (.t 64) (.t 65)),31),(oM 67 0,255),(oM 68 3,511),(oM 69 11,1023),(oR 70 (.bin .add (.t 68) (.t 69)),511),(oI 71 4 67 70,255),(oL 72 4 71,255),(oM 73 0,16383),(oM 74 3,32767),(oM 75 10,65535),(oR 76 (.bin .add (.t 74) (.t 75)),32767),(oI 77 4 73 76,16383),(oL 78 4 77,16383),(oI 79 4 59 62,240),(oS 4 79 72,240),(oI 80 4 63 66,0),(oS 4 80 78,0)])
 (.reg [oM 81 11,oM 10 81])))))))))⟩
def g274:Go.Vse.Fn:=⟨7,[.t 2],oZ [oR 2 (.mv (.k (.i .u64 0)))]
 (oZ [oM 3 0,oR 4 (.cvi .u64 (.t 3)),oR 5 (.call 249 [(.t 4)]),oR 6 (.bin .shl (.k (.i .u64 1)) (.t 5)),oM 2 6]
 .ret)⟩
def g275:Go.Vse.Fn:=⟨33,[.t 2],oZ [oR 2 (.mv (.k (.i .u64 0)))]
 (.seq (.dreg [(oM 3 0,0),(oR 4 (.nck (.t 3)),0),(oK 5 1 4,0),(oM 6 0,7),(oR 7 (.nck (.t 6)),7),(oK 8 1 7,7),(oR 9 (.bin .shl (.t 8) (.k (.i .u64 13))),7),(oR 10 (.bin .xor (.t 5) (.t 9)),0),(oR 11 (.nck (.t 3)),0),(oS 1 11 10,0)])
 (.seq (.dreg [(oM 12 0,0),(oR 13 (.nck (.t 12)),0),(oK 14 1 13,0),(oM 15 0,7),(oR 16 (.nck (.t 15)),7),(oK 17 1 16,7),(oR 18 (.bin .shr (.t 17) (.k (.i .u64 7))),7),(oR 19 (.bin .xor (.t 14) (.t 18)),0),(oR 20 (.nck (.t 12)),0),(oS 1 20 19,0)])
 (.seq (.dreg [(oM 21 0,0),(oR 22 (.nck (.t 21)),0),(oK 23 1 22,0),(oM 24 0,7),(oR 25 (.nck (.t 24)),7),(oK 26 1 25,7),(oR 27 (.bin .shl (.t 26) (.k (.i .u64 17))),7),(oR 28 (.bin .xor (.t 23) (.t 27)),0),(oR 29 (.nck (.t 21)),0),(oS 1 29 28,0)])
 (oZ [oM 30 0,oR 31 (.nck (.t 30)),oK 32 1 31,oM 2 32]
 .ret))))⟩
def g276:Go.Vse.Fn:=⟨18,[.t 8],oZ [oR 8 (.mv (.k (.i .i64 0)))]
 (oZ [oM 9 0,oM 10 1,oR 11 (.bin .sub (.t 10) (.k (.i .i64 1))),oM 12 1,oM 13 1,oR 14 (.bin .add (.t 13) (.k (.i .i64 1))),oM 15 2,oM 16 3,oR 17 (.call 277 [(.t 9),(.t 11),(.t 12),(.t 14),(.t 15),(.t 16)]),oM 8 17]
 .ret)⟩
def g277:Go.Vse.Fn:=⟨41,[.t 12],oZ [oR 12 (.mv (.k (.i .i64 0)))]
 (oZ [oM 14 0,oM 15 1,oM 16 2,oM 17 4,oM 18 5,oR 19 (.call 281 [(.t 14),(.t 15),(.t 16),(.t 17),(.t 18)]),oM 13 19,oR 20 (.ext (.t 13) 0),oR 21 (.ext (.t 13) 1),oM 1 20,oM 2 21]
 (oZ [oM 23 0,oM 24 2,oM 25 3,oM 26 4,oM 27 5,oR 28 (.call 281 [(.t 23),(.t 24),(.t 25),(.t 26),(.t 27)]),oM 22 28,oR 29 (.ext (.t 22) 0),oR 30 (.ext (.t 22) 1),oM 2 29,oM 3 30]
 (oZ [oM 32 0,oM 33 1,oM 34 2,oM 35 4,oM 36 5,oR 37 (.call 281 [(.t 32),(.t 33),(.t 34),(.t 35),(.t 36)]),oM 31 37,oR 38 (.ext (.t 31) 0),oR 39 (.ext (.t 31) 1),oM 1 38,oM 2 39]
 (oZ [oM 40 2,oM 12 40]
 .ret))))⟩
def g278:Go.Vse.Fn:=⟨6,[.t 2],oZ [oR 2 (.mv (.k (.b false)))]
 (oZ [oM 3 0,oM 4 0,oR 5 (.bin .neq (.t 3) (.t 4)),oM 2 5]
 .ret)⟩
def g279:Go.Vse.Fn:=⟨6,[.t 2],oZ [oR 2 (.mv (.k (.b false)))]
 (oZ [oM 3 0,oM 4 0,oR 5 (.bin .neq (.t 3) (.t 4)),oM 2 5]
 .ret)⟩
def g281:Go.Vse.Fn:=⟨32,[.t 10,.t 11],oZ [oR 10 (.mv (.k (.i .i64 0))),oR 11 (.mv (.k (.i .i64 0)))]
 (.seq (.seq (.dreg [(oM 12 4,0),(oM 13 0,1),(oM 14 2,3),(oI 15 4 13 14,1),(oL 16 4 15,1),(oM 17 0,31),(oM 18 1,63),(oI 19 4 17 18,31),(oL 20 4 19,31),(oR 21 (.callv (.t 12) [(.t 16),(.t 20)]),0),(oR 22 (.bin .lss (.t 21) (.k (.i .i64 0))),0)])
 (.cond (.t 22) (oZ [oM 23 3,oR 24 (.nck (.t 23)),oK 25 1 24,oR 26 (.bin .add (.t 25) (.k (.i .i64 1))),oR 27 (.nck (.t 23)),oS 1 27 26]
 (oZ [oM 28 2,oM 29 1,oM 10 28,oM 11 29]
 .ret)) .skip))
 (oZ [oM 30 1,oM 31 2,oM 10 30,oM 11 31]
 .ret))⟩
end Go.Proofs.YtkcnnkncapiohaaGreatDoor
