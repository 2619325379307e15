/- The resolved code of the functions that the laws reach. Written by program. -/
import Derived.Test.YtffjpakgkecheaaGreatCode0
import Derived.Test.YtffjpakgkecheaaGreatVe
set_option linter.all false
namespace Go.Proofs.YtffjpakgkecheaaGreat
open Go.Vse
open Go (BinOp IntKind UnOp)
set_option maxRecDepth 10000
noncomputable def g174 : Go.Vse.Fn := ⟨18, [.t 2], oZ [oR 2 (.mv (.k (.i .i64 0)))]
 (oZ [oM 6 0,oR 7 (.call 116 [(.t 6),(.k (.i .i64 2))]),oR 8 (.callp 173 [(.t 7)]),oM 5 8,oR 9 (.ext (.t 5) 0),oR 10 (.ext (.t 5) 1),oR 3 (.new [.i .i64 0,.i .i64 0,.s []]),oS 3 3 9,oM 4 10]
 (.seq (oD [oM 11 4,oR 12 (.un .not (.t 11))] 12 (.reg [oM 13 0,oR 14 (.nck (.t 13)),oF 15 2 14,oN (.st 1 (.t 15) (.k (.b true)))]) .skip)
 (oZ [oF 16 1 3,oK 17 1 16,oM 2 17]
 .ret)))⟩
noncomputable def g175 : Go.Vse.Fn := ⟨39, [.t 2], oZ [oR 1 (.box (.t 0)),oR 2 (.mv (.k (.s [])))]
 (.seq (oD [oL 5 3 1,oR 6 (.callp 74 [(.t 5)]),oR 7 (.un .not (.t 6))] 7 (oZ [oR 2 (.mv (.k (.s [])))]
 .ret) .skip)
 (.seq (oD [oF 8 0 1,oK 9 1 8,oR 10 (.bin .eql (.t 9) (.k (.i .i64 1)))] 10 (oZ [oF 11 1 1,oK 12 1 11,oR 13 (.callp 177 [(.t 12)]),oR 14 (.callp 176 [(.t 13)]),oM 2 14]
 .ret) .skip)
 (oZ [oR 3 (.mv (.k (.s [39])))]
 (.seq (oZ [oR 4 (.mv (.k (.i .i64 0)))]
 (.blk 0 (.loop (.seq (oD [oM 15 4,oF 16 2 1,oK 17 1 16,oR 18 (.lns (.t 17)),oR 19 (.bin .lss (.t 15) (.t 18))] 19 .skip (.exit 0))
 (.seq (.blk 1 (oZ [oM 22 3,oF 23 2 1,oK 24 1 23,oM 25 4,oM 26 4,oR 27 (.bin .add (.t 26) (.k (.i .i64 1))),oR 28 (.sls (.t 24) (some (.t 25)) (some (.t 27))),oR 29 (.bin .add (.t 22) (.t 28)),oM 3 29]
 (oD [oF 30 2 1,oK 31 1 30,oM 32 4,oR 33 (.ixs (.t 31) (.t 32)),oR 34 (.bin .eql (.t 33) (.k (.i .u8 39)))] 34 (.reg [oM 35 3,oR 36 (.bin .add (.t 35) (.k (.s [39]))),oM 3 36]) .skip)))
 (.reg [oM 20 4,oR 21 (.bin .add (.t 20) (.k (.i .i64 1))),oM 4 21]))))))
 (oZ [oM 37 3,oR 38 (.bin .add (.t 37) (.k (.s [39]))),oM 2 38]
 .ret)))))⟩
noncomputable def g176 : Go.Vse.Fn := ⟨26, [.t 2], oZ [oR 1 (.box (.t 0)),oR 2 (.mv (.k (.s [])))]
 (oZ [oL 5 3 1,oR 6 (.callp 76 [(.t 5)]),oR 3 (.new [.b false,.nils,.nils]),oS 3 3 6]
 (oZ [oF 7 1 3,oK 8 1 7,oR 9 (.callp 178 [(.t 8)]),oM 4 9]
 (.seq (oD [oF 10 0 3,oK 11 1 10] 11 (.reg [oM 12 4,oR 13 (.bin .add (.k (.s [45])) (.t 12)),oM 4 13]) .skip)
 (.seq (.seq (.dreg [(oF 14 2 3,0),(oK 15 1 14,0),(oR 16 (.callp 33 [(.k (.i .u64 1))]),3),(oR 17 (.callp 105 [(.t 15),(.t 16)]),0),(oR 18 (.bin .neq (.t 17) (.k (.i .i64 0))),0)])
 (.cond (.t 18) (.reg [oM 19 4,oR 20 (.bin .add (.t 19) (.k (.s [47]))),oF 21 2 3,oK 22 1 21,oR 23 (.callp 178 [(.t 22)]),oR 24 (.bin .add (.t 20) (.t 23)),oM 4 24]) .skip))
 (oZ [oM 25 4,oM 2 25]
 .ret)))))⟩
noncomputable def g177 : Go.Vse.Fn := ⟨11, [.cell 2 true 3], oZ [oR 2 (.new [.b false,.nils,.nils])]
 (oZ [oM 6 0,oR 7 (.callp 31 [(.t 6),(.k (.i .i64 1))]),oM 5 7,oR 8 (.ext (.t 5) 0),oR 9 (.ext (.t 5) 1),oR 3 (.new [.b false,.nils,.nils]),oS 3 3 8,oM 4 9]
 (oZ [oL 10 3 3,oS 3 2 10]
 .ret))⟩
noncomputable def g178 : Go.Vse.Fn := ⟨27, [.t 2], oZ [oR 2 (.mv (.k (.s [])))]
 (oZ [oM 6 0,oR 7 (.call 69 [(.t 6)]),oM 3 7]
 (.seq (oD [oM 8 3,oR 9 (.len (.t 8)),oR 10 (.bin .eql (.t 9) (.k (.i .i64 0)))] 10 (oZ [oR 2 (.mv (.k (.s [48])))]
 .ret) .skip)
 (oZ [oR 4 (.mv (.k (.s [])))]
 (.seq (.blk 0 (.loop (.seq (oD [oM 11 3,oR 12 (.len (.t 11)),oR 13 (.bin .gtr (.t 12) (.k (.i .i64 0)))] 13 .skip (.exit 0))
 (.blk 1 (oZ [oR 5 (.mv (.k (.i .u64 0)))]
 (oZ [oM 15 3,oR 16 (.callp 179 [(.t 15),(.k (.i .u64 10))]),oM 14 16,oR 17 (.ext (.t 14) 0),oR 18 (.ext (.t 14) 1),oM 3 17,oM 5 18]
 (.reg [oM 19 5,oR 20 (.bin .add (.k (.i .u64 48)) (.t 19)),oR 21 (.cvi .u8 (.t 20)),oR 22 (.bsl 1 [.i .u8 0] 1 [(0,(.t 21))]),oR 23 (.b2s (.t 22)),oM 24 4,oR 25 (.bin .add (.t 23) (.t 24)),oM 4 25])))))))
 (oZ [oM 26 4,oM 2 26]
 .ret)))))⟩
noncomputable def g179 : Go.Vse.Fn := ⟨40, [.t 4,.t 5], oZ [oR 4 (.mv (.k .nils)),oR 5 (.mv (.k (.i .u64 0)))]
 (oZ [oM 9 0,oR 10 (.len (.t 9)),oR 11 (.mks 1 4 [.i .u32 0] (.t 10) (.t 10)),oM 6 11]
 (oZ [oR 7 (.mv (.k (.i .u64 0)))]
 (.seq (oZ [oM 12 0,oR 13 (.len (.t 12)),oR 14 (.bin .sub (.t 13) (.k (.i .i64 1))),oM 8 14]
 (.blk 0 (.loop (.seq (oD [oM 15 8,oR 16 (.bin .geq (.t 15) (.k (.i .i64 0)))] 16 .skip (.exit 0))
 (.seq (.blk 1 (oZ [oM 19 7,oR 20 (.bin .shl (.t 19) (.k (.i .u64 32))),oM 21 0,oM 22 8,oI 23 1 21 22,oK 24 1 23,oR 25 (.cvi .u64 (.t 24)),oR 26 (.bin .add (.t 20) (.t 25)),oM 7 26]
 (oZ [oM 27 6,oM 28 8,oM 29 7,oM 30 1,oR 31 (.bin .quo (.t 29) (.t 30)),oR 32 (.cvi .u32 (.t 31)),oI 33 1 27 28,oS 1 33 32]
 (.reg [oM 34 7,oM 35 1,oR 36 (.bin .rem (.t 34) (.t 35)),oM 7 36]))))
 (.reg [oM 17 8,oR 18 (.bin .sub (.t 17) (.k (.i .i64 1))),oM 8 18]))))))
 (oZ [oM 37 6,oR 38 (.call 69 [(.t 37)]),oM 39 7,oM 4 38,oM 5 39]
 .ret))))⟩
end Go.Proofs.YtffjpakgkecheaaGreat
