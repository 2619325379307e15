/- The resolved code of the functions that the laws reach. Written by program. -/
import Derived.Test.YtffjpakgkecheaaGreatVe
set_option linter.all false
namespace Go.Proofs.YtffjpakgkecheaaGreat
open Go.Vse
open Go (BinOp IntKind UnOp)
set_option maxRecDepth 10000
def oR (d : Nat) (x : O A) : Go.Vse.Op := ⟨some d, none, x⟩
def oM (d s : Nat) : Go.Vse.Op := ⟨some d, none, .mv (.t s)⟩
def oN (x : O A) : Go.Vse.Op := ⟨none, none, x⟩
def oG (d g : Nat) (x : O A) : Go.Vse.Op := ⟨some d, some (g, true), x⟩
def oH (d g : Nat) (x : O A) : Go.Vse.Op := ⟨some d, some (g, false), x⟩
def oF (d n s : Nat) : Go.Vse.Op := ⟨some d, none, .fa n (.t s)⟩
def oL (d n s : Nat) : Go.Vse.Op := ⟨some d, none, .ld true n (.t s)⟩
def oK (d n s : Nat) : Go.Vse.Op := ⟨some d, none, .ld false n (.t s)⟩
def oI (d n a b : Nat) : Go.Vse.Op := ⟨some d, none, .ia n (.t a) (.t b)⟩
def oS (n a b : Nat) : Go.Vse.Op := ⟨none, none, .st n (.t a) (.t b)⟩
def oZ (l : List Go.Vse.Op) (c : C) : C := .seq (.reg l) c
def oD (l : List Go.Vse.Op) (i : Nat) (a b : C) : C := .seq (.reg l) (.cond (.t i) a b)
noncomputable def g3 : Go.Vse.Fn := ⟨69, [.t 6], oZ [oR 6 (.mv (.k (.b false)))]
 (oZ [oM 15 0,oR 16 (.callp 4 [(.t 15)]),oM 7 16]
 (oZ [oM 17 1,oR 18 (.callp 5 [(.t 17)]),oR 8 (.new [.nils,.nils]),oS 2 8 18]
 (oZ [oM 19 2,oR 20 (.bin .and (.t 19) (.k (.i .i8 3))),oR 21 (.cvi .i64 (.t 20)),oR 22 (.callp 6 [(.t 21)]),oR 9 (.new [.i .i64 0,.i .i64 0,.s []]),oS 3 9 22]
 (oZ [oL 23 2 8,oL 24 3 9,oR 25 (.callp 7 [(.t 23),(.k (.s [120])),(.t 24)]),oM 10 25]
 (.seq (oD [oM 26 10,oR 27 (.len (.t 26)),oR 28 (.bin .neq (.t 27) (.k (.i .i64 2)))] 28 (oZ [oR 6 (.mv (.k (.b false)))]
 .ret) .skip)
 (oZ [oM 29 7,oR 30 (.bsl 1 [.s []] 1 [(0,(.k (.s [120])))]),oL 31 2 8,oR 32 (.bsl 2 [.nils,.nils] 1 [(0,(.t 31))]),oR 33 (.bld [.nils,.nils] [(0,1,(.t 30)),(1,1,(.t 32))]),oR 34 (.callp 8 [(.t 29),(.t 33)]),oM 11 34]
 (oZ [oM 35 7,oR 36 (.bsl 1 [.s []] 1 [(0,(.k (.s [120])))]),oM 37 10,oR 38 (.slc 2 (.t 37) (some (.k (.i .i64 1))) none none),oR 39 (.bld [.nils,.nils] [(0,1,(.t 36)),(1,1,(.t 38))]),oR 40 (.callp 8 [(.t 35),(.t 39)]),oM 12 40]
 (oZ [oM 41 7,oM 42 10,oR 43 (.slc 2 (.t 42) none (some (.k (.i .i64 1))) none),oR 44 (.bld [.nils,.nils] [(1,1,(.t 43))]),oR 45 (.callp 9 [(.t 41),(.t 44)]),oM 13 45]
 (oZ [oM 46 12,oL 47 3 9,oR 48 (.bsl 3 [.i .i64 0,.i .i64 0,.s []] 1 [(0,(.t 47))]),oR 49 (.callp 10 [(.t 46),(.t 48)]),oM 14 49]
 (.seq (oD [oM 50 14,oR 51 (.len (.t 50)),oM 52 12,oR 53 (.len (.t 52)),oR 54 (.bin .add (.t 53) (.k (.i .i64 1))),oR 55 (.bin .neq (.t 51) (.t 54))] 55 (oZ [oR 6 (.mv (.k (.b false)))]
 .ret) .skip)
 (.seq (oD [oM 56 13] 56 (oZ [oM 57 11,oM 58 14,oR 59 (.callp 11 [(.t 57),(.t 58)]),oM 60 59,oG 61 60 (.callp 12 []),oR 62 (.pick (.t 60) (.t 61) (.k (.b false))),oM 6 62]
 .ret) .skip)
 (oZ [oM 63 11,oM 64 12,oR 65 (.callp 11 [(.t 63),(.t 64)]),oM 66 65,oG 67 66 (.callp 12 []),oR 68 (.pick (.t 66) (.t 67) (.k (.b false))),oM 6 68]
 .ret))))))))))))⟩
noncomputable def g4 : Go.Vse.Fn := ⟨95, [.t 2], oZ [oR 2 (.mv (.k .nils))]
 (oZ [oR 3 (.mv (.k .nils))]
 (oZ [oR 13 (.callp 13 []),oM 4 13]
 (.seq (oZ [oR 5 (.mv (.k (.i .i64 0)))]
 (.blk 0 (.loop (.seq (oD [oM 14 5,oM 15 4,oR 16 (.len (.t 15)),oR 17 (.bin .lss (.t 14) (.t 16))] 17 .skip (.exit 0))
 (.seq (.blk 1 (oZ [oM 20 4,oM 21 5,oI 22 3 20 21,oL 23 3 22,oR 24 (.bld [.s [],.b false,.nils,.nils] [(0,3,(.t 23))]),oR 6 (.new [.s [],.b false,.nils,.nils]),oS 4 6 24]
 (.seq (oZ [oR 7 (.mv (.k (.i .i64 0)))]
 (.blk 2 (.loop (.seq (oD [oM 25 7,oM 26 0,oM 27 5,oR 28 (.callp 14 [(.t 26),(.t 27)]),oR 29 (.bin .rem (.t 28) (.k (.i .i64 4))),oR 30 (.bin .lss (.t 25) (.t 29)),oM 31 30,oG 32 31 (.mv (.t 5)),oG 33 31 (.bin .eql (.t 32) (.k (.i .i64 1))),oG 34 31 (.mv (.t 33)),oG 35 34 (.mv (.t 7)),oG 36 34 (.bin .eql (.t 35) (.k (.i .i64 2))),oG 37 31 (.pick (.t 34) (.t 36) (.k (.b false))),oG 38 31 (.un .not (.t 37)),oR 39 (.pick (.t 31) (.t 38) (.k (.b false)))] 39 .skip (.exit 2))
 (.seq (.blk 3 (oZ [oM 42 0,oM 43 5,oR 44 (.bin .mul (.k (.i .i64 3)) (.t 43)),oR 45 (.bin .add (.k (.i .i64 4)) (.t 44)),oM 46 7,oR 47 (.bin .add (.t 45) (.t 46)),oR 48 (.callp 14 [(.t 42),(.t 47)]),oM 8 48]
 (oZ [oM 49 8,oR 50 (.bin .shr (.t 49) (.k (.i .u64 4))),oR 51 (.callp 15 [(.t 50)]),oR 52 (.bld [.nils,.b false,.nils,.nils] [(1,3,(.t 51))]),oR 9 (.new [.nils,.b false,.nils,.nils]),oS 4 9 52]
 (.seq (oD [oM 53 4,oM 54 5,oI 55 3 53 54,oF 56 1 55,oK 57 1 56] 57 (.reg [oR 58 (.callp 16 [(.k (.i .i64 1))]),oF 59 1 9,oS 3 59 58]) .skip)
 (.seq (oZ [oR 10 (.mv (.k (.i .i64 0)))]
 (.blk 4 (.loop (.seq (oD [oM 60 10,oM 61 4,oM 62 5,oI 63 3 61 62,oF 64 2 63,oK 65 1 64,oR 66 (.len (.t 65)),oR 67 (.bin .lss (.t 60) (.t 66))] 67 .skip (.exit 4))
 (.seq (.blk 5 (.seq (.dreg [(oF 70 0 9,0),(oK 71 1 70,0),(oM 72 8,3),(oR 73 (.bin .rem (.t 72) (.k (.i .i64 3))),3),(oR 74 (.bin .add (.k (.i .i64 1)) (.t 73)),3),(oR 75 (.callp 6 [(.t 74)]),3),(oR 76 (.bsf 3 [.i .i64 0,.i .i64 0,.s []] 1 [(0,(.t 75))]),3),(oR 77 (.app 3 32 (.t 71) (.t 76)),0),(oF 78 0 9,0),(oS 1 78 77,0)])
 (.reg [oM 79 8,oR 80 (.bin .quo (.t 79) (.k (.i .i64 3))),oM 8 80])))
 (.reg [oM 68 10,oR 69 (.bin .add (.t 68) (.k (.i .i64 1))),oM 10 69]))))))
 (oZ [oL 82 4 6,oL 83 4 9,oR 84 (.callp 17 [(.t 82),(.t 83)]),oM 81 84,oR 85 (.ext (.t 81) 0),oR 86 (.ext (.t 81) 1),oR 11 (.new [.s [],.b false,.nils,.nils]),oS 4 11 85,oM 12 86]
 (oD [oM 87 12,oR 88 (.bin .eql (.t 87) (.k (.i .i64 0)))] 88 (.reg [oL 89 4 11,oS 4 6 89]) .skip)))))))
 (.reg [oM 40 7,oR 41 (.bin .add (.t 40) (.k (.i .i64 1))),oM 7 41]))))))
 (.reg [oM 90 3,oL 91 4 6,oR 92 (.bsf 4 [.s [],.b false,.nils,.nils] 1 [(0,(.t 91))]),oR 93 (.app 4 72 (.t 90) (.t 92)),oM 3 93]))))
 (.reg [oM 18 5,oR 19 (.bin .add (.t 18) (.k (.i .i64 1))),oM 5 19]))))))
 (oZ [oM 94 3,oM 2 94]
 .ret))))⟩
noncomputable def g5 : Go.Vse.Fn := ⟨17, [.cell 2 true 2], oZ [oR 2 (.new [.nils,.nils])]
 (oZ [oR 4 (.callp 18 []),oM 3 4]
 (oZ [oM 5 3,oM 6 0,oR 7 (.bin .and (.t 6) (.k (.i .i64 65535))),oM 8 3,oR 9 (.len (.t 8)),oR 10 (.bin .rem (.t 7) (.t 9)),oI 11 1 5 10,oK 12 1 11,oM 13 0,oR 14 (.bin .shr (.t 13) (.k (.i .u64 6))),oR 15 (.bin .and (.t 14) (.k (.i .i64 7))),oR 16 (.callp 19 [(.t 12),(.t 15)]),oS 2 2 16]
 .ret))⟩
noncomputable def g6 : Go.Vse.Fn := ⟨5, [.cell 2 true 3], oZ [oR 2 (.new [.i .i64 0,.i .i64 0,.s []])]
 (oZ [oM 3 0,oR 4 (.bld [.i .i64 0,.i .i64 0,.s []] [(0,1,(.k (.i .i64 1))),(1,1,(.t 3))]),oS 3 2 4]
 .ret)⟩
noncomputable def g7 : Go.Vse.Fn := ⟨21, [.t 6], oZ [oR 3 (.box (.t 0)),oR 5 (.box (.t 2)),oR 6 (.mv (.k .nils))]
 (.seq (oD [oM 7 1,oR 8 (.bin .eql (.t 7) (.k (.s [])))] 8 (oZ [oR 6 (.mv (.k .nils))]
 .ret) .skip)
 (.seq (.dreg [(oL 9 2 3,0),(oM 10 1,1),(oL 11 3 5,3),(oR 12 (.callp 21 [(.t 9),(.t 10),(.t 11)]),0),(oR 13 (.call 20 [(.t 12)]),0),(oL 14 2 3,31),(oM 15 1,63),(oR 16 (.bld [.s [],.i .i64 0,.i .i64 0,.s []] [(0,1,(.t 15))]),63),(oL 17 3 5,255),(oR 18 (.bld [.s [],.i .i64 0,.i .i64 0,.s []] [(1,3,(.t 17))]),255),(oR 19 (.callp 22 [(.t 14),(.k (.i .i64 2)),(.t 16),(.t 18)]),0),(oR 20 (.bsl 2 [.nils,.nils] 2 [(0,(.t 13)),(1,(.t 19))]),0),(oM 6 20,0)])
 .ret))⟩
noncomputable def g8 : Go.Vse.Fn := ⟨40, [.t 4], oZ [oR 3 (.box (.t 1)),oR 4 (.mv (.k .nils))]
 (oZ [oR 5 (.mv (.k .nils))]
 (.seq (oZ [oR 6 (.mv (.k (.i .i64 0)))]
 (.blk 0 (.loop (.seq (oD [oM 9 6,oF 10 1 3,oK 11 1 10,oR 12 (.len (.t 11)),oR 13 (.bin .lss (.t 9) (.t 12))] 13 .skip (.exit 0))
 (.seq (.blk 1 (.seq (.dreg [(oM 16 0,0),(oF 17 1 3,1),(oK 18 1 17,1),(oM 19 6,7),(oI 20 2 18 19,1),(oL 21 2 20,1),(oR 22 (.bld [.nils,.nils] []),63),(oR 23 (.callp 24 [(.t 16),(.t 21),(.k (.i .i64 0)),(.t 22),(.k (.b true))]),0),(oF 24 0 3,255),(oK 25 1 24,255),(oR 26 (.callp 23 [(.t 23),(.t 25)]),0),(oM 7 26,0)])
 (oZ [oR 8 (.mv (.k (.i .i64 0)))]
 (.blk 2 (.loop (.seq (oD [oM 27 8,oM 28 7,oR 29 (.len (.t 28)),oR 30 (.bin .lss (.t 27) (.t 29))] 30 .skip (.exit 2))
 (.seq (.blk 3 (.reg [oM 33 5,oM 34 7,oM 35 8,oI 36 1 34 35,oK 37 1 36,oR 38 (.callp 10 [(.t 33),(.t 37)]),oM 5 38]))
 (.reg [oM 31 8,oR 32 (.bin .add (.t 31) (.k (.i .i64 1))),oM 8 32]))))))))
 (.reg [oM 14 6,oR 15 (.bin .add (.t 14) (.k (.i .i64 1))),oM 6 15]))))))
 (oZ [oM 39 5,oM 4 39]
 .ret)))⟩
noncomputable def g9 : Go.Vse.Fn := ⟨23, [.t 4], oZ [oR 3 (.box (.t 1)),oR 4 (.mv (.k (.b false)))]
 (.seq (oZ [oR 5 (.mv (.k (.i .i64 0)))]
 (.blk 0 (.loop (.seq (oD [oM 6 5,oF 7 1 3,oK 8 1 7,oR 9 (.len (.t 8)),oR 10 (.bin .lss (.t 6) (.t 9))] 10 .skip (.exit 0))
 (.seq (.blk 1 (oD [oM 13 0,oF 14 1 3,oK 15 1 14,oM 16 5,oI 17 2 15 16,oL 18 2 17,oR 19 (.bld [.nils,.nils] []),oR 20 (.callp 24 [(.t 13),(.t 18),(.k (.i .i64 0)),(.t 19),(.k (.b true))]),oR 21 (.len (.t 20)),oR 22 (.bin .gtr (.t 21) (.k (.i .i64 0)))] 22 (oZ [oR 4 (.mv (.k (.b true)))]
 .ret) .skip))
 (.reg [oM 11 5,oR 12 (.bin .add (.t 11) (.k (.i .i64 1))),oM 5 12]))))))
 (oZ [oR 4 (.mv (.k (.b false)))]
 .ret))⟩
noncomputable def g10 : Go.Vse.Fn := ⟨49, [.t 4], oZ [oR 4 (.mv (.k .nils))]
 (oZ [oR 5 (.mv (.k (.i .i64 0)))]
 (.seq (.blk 0 (.loop (.seq (oD [oM 7 5,oM 8 0,oR 9 (.len (.t 8)),oR 10 (.bin .lss (.t 7) (.t 9)),oM 11 10,oG 12 11 (.mv (.t 0)),oG 13 11 (.mv (.t 5)),oG 14 11 (.ia 1 (.t 12) (.t 13)),oG 15 11 (.ld false 1 (.t 14)),oG 16 11 (.mv (.t 1)),oG 17 11 (.callp 25 [(.t 15),(.t 16)]),oG 18 11 (.bin .lss (.t 17) (.k (.i .i64 0))),oR 19 (.pick (.t 11) (.t 18) (.k (.b false)))] 19 .skip (.exit 0))
 (.blk 1 (.reg [oM 20 5,oR 21 (.bin .add (.t 20) (.k (.i .i64 1))),oM 5 21])))))
 (.seq (oD [oM 22 5,oM 23 0,oR 24 (.len (.t 23)),oR 25 (.bin .lss (.t 22) (.t 24)),oM 26 25,oG 27 26 (.mv (.t 0)),oG 28 26 (.mv (.t 5)),oG 29 26 (.ia 1 (.t 27) (.t 28)),oG 30 26 (.ld false 1 (.t 29)),oG 31 26 (.mv (.t 1)),oG 32 26 (.callp 25 [(.t 30),(.t 31)]),oG 33 26 (.bin .eql (.t 32) (.k (.i .i64 0))),oR 34 (.pick (.t 26) (.t 33) (.k (.b false)))] 34 (oZ [oM 35 0,oM 4 35]
 .ret) .skip)
 (oZ [oR 36 (.bsl 1 [.nils] 0 []),oM 37 0,oM 38 5,oR 39 (.slc 1 (.t 37) none (some (.t 38)) none),oR 40 (.app 1 24 (.t 36) (.t 39)),oM 6 40]
 (.seq (.dreg [(oM 41 6,0),(oM 42 1,1),(oM 45 0,3),(oM 46 5,7),(oR 47 (.slc 1 (.t 45) (some (.t 46)) none none),3),(oR 43 (.bsf 1 [.nils] 1 [(0,(.t 42))]),29),(oR 44 (.app 1 24 (.t 41) (.t 43)),28),(oR 48 (.app 1 24 (.t 44) (.t 47)),0),(oM 4 48,0)])
 .ret)))))⟩
noncomputable def g11 : Go.Vse.Fn := ⟨27, [.t 4], oZ [oR 4 (.mv (.k (.b false)))]
 (.seq (oD [oM 6 0,oR 7 (.len (.t 6)),oM 8 1,oR 9 (.len (.t 8)),oR 10 (.bin .neq (.t 7) (.t 9))] 10 (oZ [oR 4 (.mv (.k (.b false)))]
 .ret) .skip)
 (.seq (oZ [oR 5 (.mv (.k (.i .i64 0)))]
 (.blk 0 (.loop (.seq (oD [oM 11 5,oM 12 0,oR 13 (.len (.t 12)),oR 14 (.bin .lss (.t 11) (.t 13))] 14 .skip (.exit 0))
 (.seq (.blk 1 (.seq (.dreg [(oM 17 0,0),(oM 18 5,1),(oI 19 1 17 18,0),(oK 20 1 19,0),(oM 21 1,15),(oM 22 5,31),(oI 23 1 21 22,15),(oK 24 1 23,15),(oR 25 (.callp 26 [(.t 20),(.t 24)]),0),(oR 26 (.un .not (.t 25)),0)])
 (.cond (.t 26) (oZ [oR 4 (.mv (.k (.b false)))]
 .ret) .skip)))
 (.reg [oM 15 5,oR 16 (.bin .add (.t 15) (.k (.i .i64 1))),oM 5 16]))))))
 (oZ [oR 4 (.mv (.k (.b true)))]
 .ret)))⟩
noncomputable def g12 : Go.Vse.Fn := ⟨60, [.t 0], oZ [oR 0 (.mv (.k (.b false)))]
 (oZ [oR 10 (.callp 27 [(.k (.s [82,40,120,44,32,121,41,44,32,82,40,49,44,32,122,41]))]),oM 9 10,oR 11 (.ext (.t 9) 0),oR 12 (.ext (.t 9) 1),oR 1 (.new [.nils,.nils]),oS 2 1 11,oM 2 12]
 (oZ [oL 14 2 1,oR 15 (.callp 28 [(.t 14)]),oM 13 15,oR 16 (.ext (.t 13) 0),oR 17 (.ext (.t 13) 1),oR 3 (.new [.nils,.nils]),oS 2 3 16,oM 4 17]
 (oZ [oR 19 (.callp 27 [(.k (.s [82,40,120,44,32,121,41,44,32,82,40,121,44,32,120,41]))]),oM 18 19,oR 20 (.ext (.t 18) 0),oR 21 (.ext (.t 18) 1),oR 5 (.new [.nils,.nils]),oS 2 5 20,oM 6 21]
 (oZ [oL 23 2 5,oR 24 (.callp 29 [(.t 23)]),oM 22 24,oR 25 (.ext (.t 22) 0),oR 26 (.ext (.t 22) 1),oR 7 (.new [.nils,.nils]),oS 2 7 25,oM 8 26]
 (oZ [oM 27 4,oR 28 (.bin .eql (.t 27) (.k (.i .i64 0))),oM 29 28,oG 30 29 (.fa 1 (.t 3)),oG 31 29 (.ld false 1 (.t 30)),oG 32 29 (.len (.t 31)),oG 33 29 (.bin .eql (.t 32) (.k (.i .i64 2))),oR 34 (.pick (.t 29) (.t 33) (.k (.b false))),oM 35 34,oG 36 35 (.fa 1 (.t 3)),oG 37 35 (.ld false 1 (.t 36)),oG 38 35 (.ia 2 (.t 37) (.k (.i .i64 1))),oG 39 35 (.fa 1 (.t 38)),oG 40 35 (.ld false 1 (.t 39)),oG 41 35 (.len (.t 40)),oG 42 35 (.bin .eql (.t 41) (.k (.i .i64 1))),oR 43 (.pick (.t 35) (.t 42) (.k (.b false))),oM 44 43,oG 45 44 (.mv (.t 8)),oG 46 44 (.bin .eql (.t 45) (.k (.i .i64 0))),oR 47 (.pick (.t 44) (.t 46) (.k (.b false))),oM 48 47,oG 49 48 (.fa 1 (.t 7)),oG 50 48 (.ld false 1 (.t 49)),oG 51 48 (.len (.t 50)),oG 52 48 (.bin .eql (.t 51) (.k (.i .i64 3))),oR 53 (.pick (.t 48) (.t 52) (.k (.b false))),oM 54 53,oG 55 54 (.ld true 2 (.t 1)),oG 56 54 (.callp 30 [(.t 55)]),oG 57 54 (.len (.t 56)),oG 58 54 (.bin .eql (.t 57) (.k (.i .i64 1))),oR 59 (.pick (.t 54) (.t 58) (.k (.b false))),oM 0 59]
 .ret)))))⟩
noncomputable def g13 : Go.Vse.Fn := ⟨21, [.t 0], oZ [oR 0 (.mv (.k .nils))]
 (oZ [oR 3 (.bld [.s [],.i .i64 0,.b false] [(0,1,(.k (.s [97]))),(1,1,(.k (.i .i64 1)))]),oR 4 (.bld [.s [],.i .i64 0,.b false] [(0,1,(.k (.s [98]))),(1,1,(.k (.i .i64 1)))]),oR 1 (.new [.s [],.i .i64 0,.b false]),oR 2 (.new [.s [],.i .i64 0,.b false]),oS 3 1 3,oS 3 2 4]
 (oZ [oL 5 3 1,oL 6 3 2,oR 7 (.bsl 3 [.s [],.i .i64 0,.b false] 2 [(0,(.t 5)),(1,(.t 6))]),oR 8 (.bld [.s [],.b false,.nils] [(0,1,(.k (.s [82]))),(2,1,(.t 7))]),oL 9 3 1,oR 10 (.bsl 3 [.s [],.i .i64 0,.b false] 1 [(0,(.t 9))]),oR 11 (.bld [.s [],.b false,.nils] [(0,1,(.k (.s [83]))),(2,1,(.t 10))]),oR 12 (.bld [.s [],.i .i64 0,.b false] [(0,1,(.k (.s [107]))),(1,1,(.k (.i .i64 1))),(2,1,(.k (.b true)))]),oR 13 (.bld [.s [],.i .i64 0,.b false] [(0,1,(.k (.s [118]))),(1,1,(.k (.i .i64 1)))]),oR 14 (.bsl 3 [.s [],.i .i64 0,.b false] 2 [(0,(.t 12)),(1,(.t 13))]),oR 15 (.bld [.s [],.b false,.nils] [(0,1,(.k (.s [75]))),(2,1,(.t 14))]),oL 16 3 1,oL 17 3 2,oR 18 (.bsl 3 [.s [],.i .i64 0,.b false] 2 [(0,(.t 16)),(1,(.t 17))]),oR 19 (.bld [.s [],.b false,.nils] [(0,1,(.k (.s [67]))),(1,1,(.k (.b true))),(2,1,(.t 18))]),oR 20 (.bsl 3 [.s [],.b false,.nils] 4 [(0,(.t 8)),(1,(.t 11)),(2,(.t 15)),(3,(.t 19))]),oM 0 20]
 .ret))⟩
noncomputable def g14 : Go.Vse.Fn := ⟨23, [.t 4], oZ [oR 4 (.mv (.k (.i .i64 0)))]
 (.seq (oD [oM 5 0,oR 6 (.len (.t 5)),oR 7 (.bin .eql (.t 6) (.k (.i .i64 0)))] 7 (oZ [oM 8 1,oR 9 (.bin .and (.t 8) (.k (.i .i64 65535))),oM 4 9]
 .ret) .skip)
 (.seq (.dreg [(oM 10 0,0),(oM 11 1,1),(oM 12 0,3),(oR 13 (.len (.t 12)),3),(oR 14 (.bin .rem (.t 11) (.t 13)),1),(oI 15 1 10 14,0),(oK 16 1 15,0),(oR 17 (.bin .and (.t 16) (.k (.i .i64 65535))),0),(oM 18 1,255),(oM 19 0,511),(oR 20 (.len (.t 19)),511),(oR 21 (.bin .quo (.t 18) (.t 20)),255),(oR 22 (.bin .add (.t 17) (.t 21)),0),(oM 4 22,0)])
 .ret))⟩
noncomputable def g15 : Go.Vse.Fn := ⟨24, [.cell 2 true 3], oZ [oR 2 (.new [.b false,.nils,.nils])]
 (oZ [oR 7 (.bsl 1 [.i .i64 0] 8 [(0,(.k (.i .i64 1))),(1,(.k (.i .i64 1))),(2,(.k (.i .i64 2))),(3,(.k (.i .i64 1))),(4,(.k (.i .i64 1))),(5,(.k (.i .i64 0))),(6,(.k (.i .i64 3))),(7,(.k (.i .i64 1)))]),oM 8 0,oR 9 (.bin .and (.t 8) (.k (.i .i64 7))),oI 10 1 7 9,oK 11 1 10,oM 3 11]
 (oZ [oR 12 (.bsl 1 [.i .i64 0] 8 [(0,(.k (.i .i64 2))),(1,(.k (.i .i64 3))),(2,(.k (.i .i64 3))),(3,(.k (.i .i64 4))),(4,(.k (.i .i64 1))),(5,(.k (.i .i64 1))),(6,(.k (.i .i64 5))),(7,(.k (.i .i64 7)))]),oM 13 0,oR 14 (.bin .and (.t 13) (.k (.i .i64 7))),oI 15 1 12 14,oK 16 1 15,oM 4 16]
 (oZ [oM 18 3,oM 19 4,oR 20 (.callp 31 [(.t 18),(.t 19)]),oM 17 20,oR 21 (.ext (.t 17) 0),oR 22 (.ext (.t 17) 1),oR 5 (.new [.b false,.nils,.nils]),oS 3 5 21,oM 6 22]
 (oZ [oL 23 3 5,oS 3 2 23]
 .ret))))⟩
noncomputable def g16 : Go.Vse.Fn := ⟨18, [.cell 2 true 3], oZ [oR 2 (.new [.b false,.nils,.nils])]
 (.seq (oD [oM 3 0,oR 4 (.bin .lss (.t 3) (.k (.i .i64 0)))] 4 (oZ [oM 5 0,oR 6 (.bin .add (.t 5) (.k (.i .i64 1))),oR 7 (.un .neg (.t 6)),oR 8 (.cvi .u64 (.t 7)),oR 9 (.bin .add (.t 8) (.k (.i .u64 1))),oR 10 (.callp 33 [(.t 9)]),oR 11 (.callp 33 [(.k (.i .u64 1))]),oR 12 (.callp 32 [(.k (.b true)),(.t 10),(.t 11)]),oS 3 2 12]
 .ret) .skip)
 (oZ [oM 13 0,oR 14 (.cvi .u64 (.t 13)),oR 15 (.callp 33 [(.t 14)]),oR 16 (.callp 33 [(.k (.i .u64 1))]),oR 17 (.callp 32 [(.k (.b false)),(.t 15),(.t 16)]),oS 3 2 17]
 .ret))⟩
noncomputable def g17 : Go.Vse.Fn := ⟨82, [.cell 4 true 4,.t 5], oZ [oR 2 (.box (.t 0)),oR 3 (.box (.t 1)),oR 4 (.new [.s [],.b false,.nils,.nils]),oR 5 (.mv (.k (.i .i64 0)))]
 (.seq (oZ [oL 13 4 2,oR 14 (.callp 34 [(.t 13)]),oM 6 14]
 (oD [oM 15 6,oR 16 (.bin .neq (.t 15) (.k (.i .i64 0)))] 16 (oZ [oR 17 (.bld [.s [],.b false,.nils,.nils] []),oM 18 6,oS 4 4 17,oM 5 18]
 .ret) .skip))
 (.seq (oZ [oF 19 0 2,oL 20 3 19,oL 21 4 3,oR 22 (.callp 35 [(.t 20),(.t 21)]),oM 7 22]
 (oD [oM 23 7,oR 24 (.bin .neq (.t 23) (.k (.i .i64 0)))] 24 (oZ [oR 25 (.bld [.s [],.b false,.nils,.nils] []),oM 26 7,oS 4 4 25,oM 5 26]
 .ret) .skip))
 (.seq (oZ [oL 28 4 2,oF 29 0 3,oK 30 1 29,oR 31 (.callp 36 [(.t 28),(.t 30)]),oM 27 31,oR 32 (.ext (.t 27) 0),oR 33 (.ext (.t 27) 1),oM 8 32,oM 9 33]
 (oD [oM 34 9] 34 (oZ [oR 35 (.bld [.s [],.b false,.nils,.nils] []),oS 4 4 35,oR 5 (.mv (.k (.i .i64 8)))]
 .ret) .skip))
 (oZ [oR 10 (.mv (.k (.i .i64 0)))]
 (.seq (.blk 0 (.loop (.seq (.seq (.dreg [(oM 36 10,0),(oF 37 3 2,1),(oK 38 1 37,1),(oR 39 (.len (.t 38)),1),(oR 40 (.bin .lss (.t 36) (.t 39)),0),(oM 41 40,0),(oG 42 41 (.fa 3 (.t 2)),0),(oG 43 41 (.ld false 1 (.t 42)),0),(oG 44 41 (.mv (.t 10)),192),(oG 45 41 (.ia 4 (.t 43) (.t 44)),0),(oG 46 41 (.fa 0 (.t 45)),0),(oG 47 41 (.ld false 1 (.t 46)),0),(oG 48 41 (.fa 0 (.t 3)),4032),(oG 49 41 (.ld false 1 (.t 48)),4032),(oG 50 41 (.callp 25 [(.t 47),(.t 49)]),0),(oG 51 41 (.bin .lss (.t 50) (.k (.i .i64 0))),0),(oR 52 (.pick (.t 41) (.t 51) (.k (.b false))),0)])
 (.cond (.t 52) .skip (.exit 0)))
 (.blk 1 (.reg [oM 53 10,oR 54 (.bin .add (.t 53) (.k (.i .i64 1))),oM 10 54])))))
 (oZ [oF 55 0 2,oL 56 3 55,oR 57 (.bld [.s [],.b false,.nils,.nils] [(0,3,(.t 56))]),oR 11 (.new [.s [],.b false,.nils,.nils]),oS 4 11 57]
 (.seq (.dreg [(oF 58 3 11,0),(oK 59 1 58,0),(oF 60 3 2,3),(oK 61 1 60,3),(oM 62 10,15),(oR 63 (.slc 4 (.t 61) none (some (.t 62)) none),3),(oL 65 4 3,63),(oF 68 3 2,127),(oK 69 1 68,127),(oM 70 10,511),(oR 71 (.slc 4 (.t 69) (some (.t 70)) none none),127),(oR 64 (.app 4 80 (.t 59) (.t 63)),1984),(oR 66 (.bsf 4 [.nils,.b false,.nils,.nils] 1 [(0,(.t 65))]),4031),(oR 67 (.app 4 80 (.t 64) (.t 66)),1920),(oR 72 (.app 4 80 (.t 67) (.t 71)),0),(oF 73 3 11,0),(oS 1 73 72,0)])
 (.seq (oZ [oL 74 4 11,oR 75 (.callp 34 [(.t 74)]),oM 12 75]
 (oD [oM 76 12,oR 77 (.bin .neq (.t 76) (.k (.i .i64 0)))] 77 (oZ [oR 78 (.bld [.s [],.b false,.nils,.nils] []),oM 79 12,oS 4 4 78,oM 5 79]
 .ret) .skip))
 (oZ [oL 80 4 11,oR 81 (.callp 37 [(.t 80)]),oS 4 4 81,oR 5 (.mv (.k (.i .i64 0)))]
 .ret)))))))))⟩
noncomputable def g18 : Go.Vse.Fn := ⟨2, [.t 0], oZ [oR 0 (.mv (.k .nils))]
 (oZ [oR 1 (.bsl 1 [.s []] 24 [(0,(.k (.s [82,40,120,44,32,121,41]))),(1,(.k (.s [82,40,120,44,32,121,41,44,32,83,40,121,41]))),(2,(.k (.s [82,40,120,44,32,121,41,44,32,83,40,120,41]))),(3,(.k (.s [82,40,120,44,32,121,41,44,32,75,40,121,44,32,122,41]))),(4,(.k (.s [75,40,120,44,32,121,41,44,32,83,40,121,41]))),(5,(.k (.s [82,40,120,44,32,121,41,44,32,82,40,121,44,32,122,41]))),(6,(.k (.s [82,40,120,44,32,121,41,44,32,82,40,121,44,32,120,41]))),(7,(.k (.s [67,40,120,44,32,121,41,44,32,82,40,121,44,32,122,41]))),(8,(.k (.s [82,40,120,44,32,121,41,44,32,110,111,116,32,83,40,121,41]))),(9,(.k (.s [83,40,120,41,44,32,110,111,116,32,82,40,120,44,32,64,41]))),(10,(.k (.s [67,40,120,44,32,121,41,44,32,83,40,121,41,44,32,110,111,116,32,75,40,120,44,32,121,41]))),(11,(.k (.s [82,40,120,44,32,121,41,44,32,83,40,120,41,44,32,83,40,121,41]))),(12,(.k (.s [75,40,120,44,32,121,41,44,32,75,40,122,44,32,121,41]))),(13,(.k (.s [82,40,120,44,32,64,41]))),(14,(.k (.s [83,40,120,41,44,32,75,40,120,44,32,64,41]))),(15,(.k (.s [82,40,120,44,32,121,41,44,32,120,32,60,32,121]))),(16,(.k (.s [82,40,120,44,32,121,41,44,32,83,40,122,41,44,32,121,32,33,61,32,122]))),(17,(.k (.s [83,40,120,41,44,32,83,40,121,41,44,32,120,32,60,61,32,121]))),(18,(.k (.s [67,40,120,44,32,121,41,44,32,110,111,116,32,82,40,120,44,32,121,41]))),(19,(.k (.s [82,40,120,44,32,120,41]))),(20,(.k (.s [83,40,120,41,44,32,120,32,61,32,64]))),(21,(.k (.s [75,40,120,44,32,121,41,44,32,82,40,121,44,32,122,41,44,32,83,40,122,41]))),(22,(.k (.s [82,40,120,44,32,121,41,44,32,82,40,120,44,32,122,41,44,32,121,32,60,32,122]))),(23,(.k (.s [75,40,120,44,32,64,41,44,32,67,40,121,44,32,120,41])))]),oM 0 1]
 .ret)⟩
noncomputable def g19 : Go.Vse.Fn := ⟨44, [.cell 4 true 2], oZ [oR 4 (.new [.nils,.nils])]
 (oZ [oM 9 0,oR 10 (.s2b (.t 9)),oM 5 10]
 (.seq (oZ [oR 6 (.mv (.k (.i .i64 0)))]
 (.blk 0 (.loop (.seq (oD [oM 11 6,oM 12 5,oR 13 (.len (.t 12)),oR 14 (.bin .lss (.t 11) (.t 13))] 14 .skip (.exit 0))
 (.seq (.blk 1 (oD [oM 17 5,oM 18 6,oI 19 1 17 18,oK 20 1 19,oR 21 (.bin .eql (.t 20) (.k (.i .u8 64)))] 21 (.reg [oM 22 5,oM 23 6,oM 24 1,oR 25 (.bin .rem (.t 24) (.k (.i .i64 3))),oR 26 (.bin .add (.k (.i .i64 49)) (.t 25)),oR 27 (.cvi .u8 (.t 26)),oI 28 1 22 23,oS 1 28 27]) .skip))
 (.reg [oM 15 6,oR 16 (.bin .add (.t 15) (.k (.i .i64 1))),oM 6 16]))))))
 (oZ [oM 30 5,oR 31 (.b2s (.t 30)),oR 32 (.callp 27 [(.t 31)]),oM 29 32,oR 33 (.ext (.t 29) 0),oR 34 (.ext (.t 29) 1),oR 7 (.new [.nils,.nils]),oS 2 7 33,oM 8 34]
 (.seq (oD [oF 35 1 7,oK 36 1 35,oR 37 (.len (.t 36)),oR 38 (.bin .eql (.t 37) (.k (.i .i64 0)))] 38 (oZ [oR 39 (.bld [.nils,.nils] []),oS 2 4 39]
 .ret) .skip)
 (oZ [oF 40 1 7,oK 41 1 40,oR 42 (.ia 2 (.t 41) (.k (.i .i64 0))),oL 43 2 42,oS 2 4 43]
 .ret)))))⟩
noncomputable def g20 : Go.Vse.Fn := ⟨29, [.cell 2 true 2], oZ [oR 1 (.box (.t 0)),oR 2 (.new [.nils,.nils])]
 (oZ [oF 6 1 1,oK 7 1 6,oR 8 (.call 38 [(.t 7)]),oR 9 (.bld [.nils,.nils] [(1,1,(.t 8))]),oR 3 (.new [.nils,.nils]),oS 2 3 9]
 (.seq (oZ [oF 10 0 1,oK 11 1 10,oR 12 (.len (.t 11)),oR 13 (.mv (.k (.i .i64 0)))]
 (.blk 0 (.loop (oZ [oR 14 (.bin .lss (.t 13) (.t 12))]
 (.seq (.cond (.t 14) .skip (.exit 0))
 (.seq (.blk 1 (oZ [oI 15 3 11 13,oL 16 3 15,oR 5 (.new [.s [],.b false,.nils]),oS 3 5 16]
 (oZ [oF 17 2 5,oK 18 1 17,oR 19 (.call 39 [(.t 18)]),oF 20 2 5,oS 1 20 19]
 (.reg [oF 21 0 3,oK 22 1 21,oL 23 3 5,oR 24 (.bsf 3 [.s [],.b false,.nils] 1 [(0,(.t 23))]),oR 25 (.app 3 48 (.t 22) (.t 24)),oF 26 0 3,oS 1 26 25]))))
 (.reg [oR 27 (.bin .add (.t 13) (.k (.i .i64 1))),oM 13 27])))))))
 (oZ [oL 28 2 3,oS 2 2 28]
 .ret)))⟩
noncomputable def g21 : Go.Vse.Fn := ⟨10, [.cell 6 true 2], oZ [oR 3 (.box (.t 0)),oR 4 (.box (.t 1)),oR 5 (.box (.t 2)),oR 6 (.new [.nils,.nils])]
 (oZ [oL 7 2 3,oR 8 (.mkf 41 [] [(.t 4),(.t 5)]),oR 9 (.call 40 [(.t 7),(.t 8)]),oS 2 6 9]
 .ret)⟩
noncomputable def g22 : Go.Vse.Fn := ⟨21, [.cell 8 true 2], oZ [oR 4 (.box (.t 0)),oR 6 (.box (.t 2)),oR 7 (.box (.t 3)),oR 8 (.new [.nils,.nils])]
 (oZ [oL 9 2 4,oR 10 (.call 20 [(.t 9)]),oS 2 4 10]
 (oZ [oF 11 1 4,oK 12 1 11,oM 13 1,oL 14 4 6,oL 15 4 7,oR 16 (.bld [.i .i64 0,.s [],.i .i64 0,.i .i64 0,.s [],.s [],.i .i64 0,.i .i64 0,.s []] [(0,1,(.t 13)),(1,4,(.t 14)),(5,4,(.t 15))]),oR 17 (.bsf 9 [.i .i64 0,.s [],.i .i64 0,.i .i64 0,.s [],.s [],.i .i64 0,.i .i64 0,.s []] 1 [(0,(.t 16))]),oR 18 (.app 9 104 (.t 12) (.t 17)),oF 19 1 4,oS 1 19 18]
 (oZ [oL 20 2 4,oS 2 8 20]
 .ret)))⟩
noncomputable def g23 : Go.Vse.Fn := ⟨50, [.t 4], oZ [oR 4 (.mv (.k .nils))]
 (oZ [oR 5 (.mv (.k .nils))]
 (.seq (oZ [oR 6 (.mv (.k (.i .i64 0)))]
 (.blk 0 (.loop (.seq (oD [oM 12 6,oM 13 0,oR 14 (.len (.t 13)),oR 15 (.bin .lss (.t 12) (.t 14))] 15 .skip (.exit 0))
 (.seq (.blk 1 (oZ [oR 7 (.mv (.k .nils))]
 (oZ [oR 8 (.mv (.k (.b true)))]
 (.seq (oZ [oR 9 (.mv (.k (.i .i64 0)))]
 (.blk 2 (.loop (.seq (oD [oM 18 9,oM 19 1,oR 20 (.len (.t 19)),oR 21 (.bin .lss (.t 18) (.t 20))] 21 .skip (.exit 2))
 (.seq (.blk 3 (.seq (.dreg [(oM 25 0,0),(oM 26 6,1),(oI 27 2 25 26,0),(oL 28 2 27,0),(oM 29 1,15),(oM 30 9,31),(oI 31 1 29 30,15),(oK 32 1 31,15),(oR 33 (.bld [.s [],.i .i64 0,.i .i64 0,.s []] [(0,1,(.t 32))]),15),(oR 34 (.callp 42 [(.t 28),(.t 33)]),0),(oM 24 34,0),(oR 35 (.ext (.t 24) 0),0),(oR 36 (.ext (.t 24) 1),2048),(oR 10 (.new [.i .i64 0,.i .i64 0,.s []]),8191),(oS 3 10 35,4096),(oM 11 36,0)])
 (oZ [oM 37 7,oL 38 3 10,oR 39 (.bsf 3 [.i .i64 0,.i .i64 0,.s []] 1 [(0,(.t 38))]),oR 40 (.app 3 32 (.t 37) (.t 39)),oM 7 40]
 (.reg [oM 41 8,oM 42 41,oG 43 42 (.mv (.t 11)),oR 44 (.pick (.t 42) (.t 43) (.k (.b false))),oM 8 44]))))
 (.reg [oM 22 9,oR 23 (.bin .add (.t 22) (.k (.i .i64 1))),oM 9 23]))))))
 (oD [oM 45 8] 45 (.reg [oM 46 5,oM 47 7,oR 48 (.callp 10 [(.t 46),(.t 47)]),oM 5 48]) .skip)))))
 (.reg [oM 16 6,oR 17 (.bin .add (.t 16) (.k (.i .i64 1))),oM 6 17]))))))
 (oZ [oM 49 5,oM 4 49]
 .ret)))⟩
noncomputable def g24 : Go.Vse.Fn := ⟨82, [.t 10], oZ [oR 6 (.box (.t 1)),oR 8 (.box (.t 3)),oR 10 (.mv (.k .nils))]
 (.seq (.blk 0 (.loop (.seq (oD [oM 16 2,oF 17 0 6,oK 18 1 17,oR 19 (.len (.t 18)),oR 20 (.bin .lss (.t 16) (.t 19)),oM 21 20,oG 22 21 (.fa 0 (.t 6)),oG 23 21 (.ld false 1 (.t 22)),oG 24 21 (.mv (.t 2)),oG 25 21 (.ia 3 (.t 23) (.t 24)),oG 26 21 (.fa 1 (.t 25)),oG 27 21 (.ld false 1 (.t 26)),oR 28 (.pick (.t 21) (.t 27) (.k (.b false)))] 28 .skip (.exit 0))
 (.blk 1 (.reg [oM 29 2,oR 30 (.bin .add (.t 29) (.k (.i .i64 1))),oM 2 30])))))
 (.seq (oD [oM 31 2,oF 32 0 6,oK 33 1 32,oR 34 (.len (.t 33)),oR 35 (.bin .eql (.t 31) (.t 34))] 35 (.seq (oD [oM 36 0,oL 37 2 6,oL 38 2 8,oM 39 4,oR 40 (.callp 43 [(.t 36),(.t 37),(.t 38),(.t 39)])] 40 (oZ [oL 41 2 8,oR 42 (.bsl 2 [.nils,.nils] 1 [(0,(.t 41))]),oM 10 42]
 .ret) .skip)
 (oZ [oR 10 (.mv (.k .nils))]
 .ret)) .skip)
 (oZ [oR 11 (.mv (.k .nils))]
 (oZ [oM 43 0,oF 44 0 6,oK 45 1 44,oM 46 2,oI 47 3 45 46,oF 48 0 47,oK 49 1 48,oR 50 (.callp 44 [(.t 43),(.t 49)]),oM 12 50]
 (.seq (oZ [oR 13 (.mv (.k (.i .i64 0)))]
 (.blk 2 (.loop (.seq (oD [oM 51 13,oM 52 12,oR 53 (.len (.t 52)),oR 54 (.bin .lss (.t 51) (.t 53))] 54 .skip (.exit 2))
 (.seq (.blk 3 (.seq (.dreg [(oL 58 2 8,0),(oF 59 0 6,1),(oK 60 1 59,1),(oM 61 2,7),(oI 62 3 60 61,1),(oL 63 3 62,1),(oM 64 12,63),(oM 65 13,127),(oI 66 4 64 65,63),(oL 67 4 66,63),(oR 68 (.callp 45 [(.t 58),(.t 63),(.t 67)]),0),(oM 57 68,0),(oR 69 (.ext (.t 57) 0),0),(oR 70 (.ext (.t 57) 1),4096),(oR 14 (.new [.nils,.nils]),16383),(oS 2 14 69,8192),(oM 15 70,0)])
 (oD [oM 71 15] 71 (.reg [oM 72 11,oM 73 0,oL 74 2 6,oM 75 2,oR 76 (.bin .add (.t 75) (.k (.i .i64 1))),oL 77 2 14,oM 78 4,oR 79 (.callp 24 [(.t 73),(.t 74),(.t 76),(.t 77),(.t 78)]),oR 80 (.app 2 48 (.t 72) (.t 79)),oM 11 80]) .skip)))
 (.reg [oM 55 13,oR 56 (.bin .add (.t 55) (.k (.i .i64 1))),oM 13 56]))))))
 (oZ [oM 81 11,oM 10 81]
 .ret))))))⟩
noncomputable def g25 : Go.Vse.Fn := ⟨43, [.t 4], oZ [oR 4 (.mv (.k (.i .i64 0)))]
 (.seq (oZ [oR 5 (.mv (.k (.i .i64 0)))]
 (.blk 0 (.loop (.seq (oD [oM 7 5,oM 8 0,oR 9 (.len (.t 8)),oR 10 (.bin .lss (.t 7) (.t 9)),oM 11 10,oG 12 11 (.mv (.t 5)),oG 13 11 (.mv (.t 1)),oG 14 11 (.len (.t 13)),oG 15 11 (.bin .lss (.t 12) (.t 14)),oR 16 (.pick (.t 11) (.t 15) (.k (.b false)))] 16 .skip (.exit 0))
 (.seq (.blk 1 (.seq (.dreg [(oM 19 0,0),(oM 20 5,1),(oI 21 3 19 20,0),(oL 22 3 21,0),(oM 23 1,15),(oM 24 5,31),(oI 25 3 23 24,15),(oL 26 3 25,15),(oR 27 (.callp 46 [(.t 22),(.t 26)]),0),(oM 6 27,0)])
 (oD [oM 28 6,oR 29 (.bin .neq (.t 28) (.k (.i .i64 0)))] 29 (oZ [oM 30 6,oM 4 30]
 .ret) .skip)))
 (.reg [oM 17 5,oR 18 (.bin .add (.t 17) (.k (.i .i64 1))),oM 5 18]))))))
 (.seq (.blk 2 (oD [oM 32 0,oR 33 (.len (.t 32)),oM 34 1,oR 35 (.len (.t 34)),oR 36 (.bin .lss (.t 33) (.t 35)),oM 31 36] 31 (oZ [oR 4 (.mv (.k (.i .i64 (-1))))]
 .ret) (oD [oM 38 0,oR 39 (.len (.t 38)),oM 40 1,oR 41 (.len (.t 40)),oR 42 (.bin .gtr (.t 39) (.t 41)),oM 37 42] 37 (oZ [oR 4 (.mv (.k (.i .i64 1)))]
 .ret) .skip)))
 (oZ [oR 4 (.mv (.k (.i .i64 0)))]
 .ret)))⟩
noncomputable def g26 : Go.Vse.Fn := ⟨26, [.t 4], oZ [oR 4 (.mv (.k (.b false)))]
 (.seq (oD [oM 6 0,oR 7 (.len (.t 6)),oM 8 1,oR 9 (.len (.t 8)),oR 10 (.bin .neq (.t 7) (.t 9))] 10 (oZ [oR 4 (.mv (.k (.b false)))]
 .ret) .skip)
 (.seq (oZ [oR 5 (.mv (.k (.i .i64 0)))]
 (.blk 0 (.loop (.seq (oD [oM 11 5,oM 12 0,oR 13 (.len (.t 12)),oR 14 (.bin .lss (.t 11) (.t 13))] 14 .skip (.exit 0))
 (.seq (.blk 1 (.seq (.dreg [(oM 17 0,0),(oM 18 5,1),(oI 19 3 17 18,0),(oL 20 3 19,0),(oM 21 1,15),(oM 22 5,31),(oI 23 3 21 22,15),(oL 24 3 23,15),(oR 25 (.eqa [0, 0, 1] true (.t 20) (.t 24)),0)])
 (.cond (.t 25) (oZ [oR 4 (.mv (.k (.b false)))]
 .ret) .skip)))
 (.reg [oM 15 5,oR 16 (.bin .add (.t 15) (.k (.i .i64 1))),oM 5 16]))))))
 (oZ [oR 4 (.mv (.k (.b true)))]
 .ret)))⟩
noncomputable def g27 : Go.Vse.Fn := ⟨51, [.cell 2 true 2,.t 3], oZ [oR 2 (.new [.nils,.nils]),oR 3 (.mv (.k (.i .i64 0)))]
 (.seq (oD [oM 9 0,oR 10 (.lns (.t 9)),oR 11 (.bin .gtr (.t 10) (.k (.i .i64 16384)))] 11 (oZ [oR 12 (.bld [.nils,.nils] []),oS 2 2 12,oR 3 (.mv (.k (.i .i64 4)))]
 .ret) .skip)
 (.seq (oZ [oR 4 (.mv (.k (.i .i64 0)))]
 (.blk 0 (.loop (.seq (oD [oM 13 4,oM 14 0,oR 15 (.lns (.t 14)),oR 16 (.bin .lss (.t 13) (.t 15))] 16 .skip (.exit 0))
 (.seq (.blk 1 (oD [oM 19 0,oM 20 4,oR 21 (.ixs (.t 19) (.t 20)),oR 22 (.bin .eql (.t 21) (.k (.i .u8 10)))] 22 (oZ [oR 23 (.bld [.nils,.nils] []),oS 2 2 23,oR 3 (.mv (.k (.i .i64 2)))]
 .ret) .skip))
 (.reg [oM 17 4,oR 18 (.bin .add (.t 17) (.k (.i .i64 1))),oM 4 18]))))))
 (oZ [oM 25 0,oR 26 (.callp 47 [(.t 25)]),oM 24 26,oR 27 (.ext (.t 24) 0),oR 28 (.ext (.t 24) 1),oM 5 27,oM 6 28]
 (.seq (oD [oM 29 6,oR 30 (.un .not (.t 29))] 30 (oZ [oR 31 (.bld [.nils,.nils] []),oS 2 2 31,oR 3 (.mv (.k (.i .i64 2)))]
 .ret) .skip)
 (oZ [oM 32 5,oR 33 (.bld [.nils,.i .i64 0,.b false] [(0,1,(.t 32))]),oR 34 (.box (.t 33)),oM 7 34]
 (oZ [oR 35 (.bld [.nils,.nils] []),oR 8 (.new [.nils,.nils]),oS 2 8 35]
 (.seq (oD [oM 36 7,oR 37 (.call 48 [(.t 36),(.k (.s [40]))])] 37 (oZ [oM 38 7,oR 39 (.call 49 [(.t 38),(.k (.b false))]),oF 40 0 8,oS 1 40 39]
 (.reg [oM 41 7,oR 42 (.call 50 [(.t 41),(.k (.s [58]))])])) .skip)
 (oZ [oM 43 7,oR 44 (.call 51 [(.t 43)]),oF 45 1 8,oS 1 45 44]
 (.seq (oD [oM 46 7,oR 47 (.call 52 [(.t 46)]),oR 48 (.un .not (.t 47))] 48 (oZ [oR 49 (.bld [.nils,.nils] []),oS 2 2 49,oR 3 (.mv (.k (.i .i64 2)))]
 .ret) .skip)
 (oZ [oL 50 2 8,oS 2 2 50,oR 3 (.mv (.k (.i .i64 0)))]
 .ret))))))))))⟩
noncomputable def g28 : Go.Vse.Fn := ⟨8, [.cell 2 true 2,.t 3], oZ [oR 1 (.box (.t 0)),oR 2 (.new [.nils,.nils]),oR 3 (.mv (.k (.i .i64 0)))]
 (oZ [oL 4 2 1,oR 5 (.call 53 [(.t 4),(.k (.fn 54))]),oR 6 (.ext (.t 5) 0),oR 7 (.ext (.t 5) 1),oS 2 2 6,oM 3 7]
 .ret)⟩
noncomputable def g29 : Go.Vse.Fn := ⟨8, [.cell 2 true 2,.t 3], oZ [oR 1 (.box (.t 0)),oR 2 (.new [.nils,.nils]),oR 3 (.mv (.k (.i .i64 0)))]
 (oZ [oL 4 2 1,oR 5 (.call 53 [(.t 4),(.k (.fn 58))]),oR 6 (.ext (.t 5) 0),oR 7 (.ext (.t 5) 1),oS 2 2 6,oM 3 7]
 .ret)⟩
noncomputable def g30 : Go.Vse.Fn := ⟨61, [.t 2], oZ [oR 1 (.box (.t 0)),oR 2 (.mv (.k .nils))]
 (oZ [oR 3 (.new [.nils])]
 (oZ [oR 13 (.mkf 61 [] [(.t 3)]),oM 4 13]
 (.seq (oZ [oF 14 1 1,oK 15 1 14,oR 16 (.len (.t 15)),oR 17 (.mv (.k (.i .i64 0)))]
 (.blk 0 (.loop (oZ [oR 18 (.bin .lss (.t 17) (.t 16))]
 (.seq (.cond (.t 18) .skip (.exit 0))
 (.seq (.blk 1 (oZ [oI 19 2 15 17,oL 20 2 19,oR 6 (.new [.nils,.nils]),oS 2 6 20]
 (.seq (oZ [oF 21 0 6,oK 22 1 21,oR 23 (.len (.t 22)),oR 24 (.mv (.k (.i .i64 0)))]
 (.blk 2 (.loop (oZ [oR 25 (.bin .lss (.t 24) (.t 23))]
 (.seq (.cond (.t 25) .skip (.exit 2))
 (.seq (.blk 3 (oZ [oI 26 3 22 24,oL 27 3 26,oR 8 (.new [.s [],.b false,.nils]),oS 3 8 27]
 (oZ [oF 28 2 8,oK 29 1 28,oR 30 (.len (.t 29)),oR 31 (.mv (.k (.i .i64 0)))]
 (.blk 4 (.loop (oZ [oR 32 (.bin .lss (.t 31) (.t 30))]
 (.seq (.cond (.t 32) .skip (.exit 4))
 (.seq (.blk 5 (oZ [oI 33 4 29 31,oL 34 4 33,oR 10 (.new [.s [],.i .i64 0,.i .i64 0,.s []]),oS 4 10 34]
 (.reg [oM 35 4,oL 36 4 10,oR 37 (.callv (.t 35) [(.t 36)])])))
 (.reg [oR 38 (.bin .add (.t 31) (.k (.i .i64 1))),oM 31 38])))))))))
 (.reg [oR 39 (.bin .add (.t 24) (.k (.i .i64 1))),oM 24 39])))))))
 (oZ [oF 40 1 6,oK 41 1 40,oR 42 (.len (.t 41)),oR 43 (.mv (.k (.i .i64 0)))]
 (.blk 6 (.loop (oZ [oR 44 (.bin .lss (.t 43) (.t 42))]
 (.seq (.cond (.t 44) .skip (.exit 6))
 (.seq (.blk 7 (oZ [oI 45 9 41 43,oL 46 9 45,oR 12 (.new [.i .i64 0,.s [],.i .i64 0,.i .i64 0,.s [],.s [],.i .i64 0,.i .i64 0,.s []]),oS 9 12 46]
 (oZ [oM 47 4,oF 48 1 12,oL 49 4 48,oR 50 (.callv (.t 47) [(.t 49)])]
 (.reg [oM 51 4,oF 52 5 12,oL 53 4 52,oR 54 (.callv (.t 51) [(.t 53)])]))))
 (.reg [oR 55 (.bin .add (.t 43) (.k (.i .i64 1))),oM 43 55]))))))))))
 (.reg [oR 56 (.bin .add (.t 17) (.k (.i .i64 1))),oM 17 56])))))))
 (oZ [oK 57 1 3,oR 58 (.call 62 [(.t 57),(.k (.fn 63))])]
 (oZ [oK 59 1 3,oR 60 (.call 64 [(.t 59),(.k (.fn 65))]),oM 2 60]
 .ret)))))⟩
noncomputable def g31 : Go.Vse.Fn := ⟨19, [.cell 4 true 3,.t 5], oZ [oR 4 (.new [.b false,.nils,.nils]),oR 5 (.mv (.k (.i .i64 0)))]
 (.seq (oD [oM 6 1,oR 7 (.bin .eql (.t 6) (.k (.i .i64 0)))] 7 (oZ [oR 8 (.bld [.b false,.nils,.nils] []),oS 3 4 8,oR 5 (.mv (.k (.i .i64 20)))]
 .ret) .skip)
 (oZ [oM 9 0,oR 10 (.bin .lss (.t 9) (.k (.i .i64 0))),oM 11 1,oR 12 (.bin .lss (.t 11) (.k (.i .i64 0))),oR 13 (.eqb true (.t 10) (.t 12)),oM 14 0,oR 15 (.callp 66 [(.t 14)]),oM 16 1,oR 17 (.callp 66 [(.t 16)]),oR 18 (.callp 32 [(.t 13),(.t 15),(.t 17)]),oS 3 4 18,oR 5 (.mv (.k (.i .i64 0)))]
 .ret))⟩
noncomputable def g32 : Go.Vse.Fn := ⟨49, [.cell 6 true 3], oZ [oR 6 (.new [.b false,.nils,.nils])]
 (oZ [oM 14 1,oM 15 2,oR 16 (.callp 67 [(.t 14),(.t 15)]),oM 7 16]
 (oZ [oM 18 1,oM 19 7,oR 20 (.callp 68 [(.t 18),(.t 19)]),oM 17 20,oR 21 (.ext (.t 17) 0),oR 22 (.ext (.t 17) 1),oR 23 (.ext (.t 17) 2),oM 8 21,oM 9 22,oM 10 23]
 (oZ [oM 25 2,oM 26 7,oR 27 (.callp 68 [(.t 25),(.t 26)]),oM 24 27,oR 28 (.ext (.t 24) 0),oR 29 (.ext (.t 24) 1),oR 30 (.ext (.t 24) 2),oM 11 28,oM 12 29,oM 13 30]
 (.seq (oD [oM 31 10,oR 32 (.un .not (.t 31)),oM 33 32,oH 34 33 (.mv (.t 8)),oH 35 33 (.len (.t 34)),oH 36 33 (.bin .eql (.t 35) (.k (.i .i64 0))),oR 37 (.pick (.t 33) (.k (.b true)) (.t 36)),oM 38 37,oH 39 38 (.mv (.t 11)),oH 40 38 (.len (.t 39)),oH 41 38 (.bin .eql (.t 40) (.k (.i .i64 0))),oR 42 (.pick (.t 38) (.k (.b true)) (.t 41))] 42 (oZ [oR 43 (.callp 33 [(.k (.i .u64 1))]),oR 44 (.bld [.b false,.nils,.nils] [(2,1,(.t 43))]),oS 3 6 44]
 .ret) .skip)
 (oZ [oM 45 0,oM 46 8,oM 47 11,oR 48 (.bld [.b false,.nils,.nils] [(0,1,(.t 45)),(1,1,(.t 46)),(2,1,(.t 47))]),oS 3 6 48]
 .ret)))))⟩
noncomputable def g33 : Go.Vse.Fn := ⟨10, [.t 2], oZ [oR 2 (.mv (.k .nils))]
 (oZ [oM 3 0,oR 4 (.cvi .u32 (.t 3)),oM 5 0,oR 6 (.bin .shr (.t 5) (.k (.i .u64 32))),oR 7 (.cvi .u32 (.t 6)),oR 8 (.bsl 1 [.i .u32 0] 2 [(0,(.t 4)),(1,(.t 7))]),oR 9 (.call 69 [(.t 8)]),oM 2 9]
 .ret)⟩
noncomputable def g34 : Go.Vse.Fn := ⟨85, [.t 2], oZ [oR 1 (.box (.t 0)),oR 2 (.mv (.k (.i .i64 0)))]
 (.seq (oD [oF 9 0 1,oL 10 3 9,oR 11 (.callp 70 [(.t 10)]),oR 12 (.un .not (.t 11))] 12 (oZ [oR 2 (.mv (.k (.i .i64 1)))]
 .ret) .skip)
 (.seq (oD [oF 13 3 1,oK 14 1 13,oR 15 (.len (.t 14)),oR 16 (.bin .gtr (.t 15) (.k (.i .i64 64)))] 16 (oZ [oR 2 (.mv (.k (.i .i64 4)))]
 .ret) .skip)
 (.seq (oZ [oR 3 (.mv (.k (.i .i64 0)))]
 (.blk 0 (.loop (.seq (oD [oM 17 3,oF 18 3 1,oK 19 1 18,oR 20 (.len (.t 19)),oR 21 (.bin .lss (.t 17) (.t 20))] 21 .skip (.exit 0))
 (.seq (.blk 1 (.seq (.seq (.dreg [(oF 24 0 1,0),(oL 25 3 24,0),(oF 26 3 1,3),(oK 27 1 26,3),(oM 28 3,15),(oI 29 4 27 28,3),(oL 30 4 29,3),(oR 31 (.callp 35 [(.t 25),(.t 30)]),0),(oM 4 31,0)])
 (oD [oM 32 4,oR 33 (.bin .neq (.t 32) (.k (.i .i64 0)))] 33 (oZ [oM 34 4,oM 2 34]
 .ret) .skip))
 (.seq (oD [oM 35 3,oR 36 (.bin .eql (.t 35) (.k (.i .i64 0)))] 36 (.exit 1) .skip)
 (.seq (.dreg [(oF 37 3 1,0),(oK 38 1 37,0),(oM 39 3,3),(oR 40 (.bin .sub (.t 39) (.k (.i .i64 1))),3),(oI 41 4 38 40,0),(oF 42 0 41,0),(oK 43 1 42,0),(oF 44 3 1,127),(oK 45 1 44,127),(oM 46 3,511),(oI 47 4 45 46,127),(oF 48 0 47,127),(oK 49 1 48,127),(oR 50 (.callp 25 [(.t 43),(.t 49)]),0),(oM 5 50,0)])
 (.blk 2 (oD [oM 52 5,oR 53 (.bin .eql (.t 52) (.k (.i .i64 0))),oM 51 53] 51 (oZ [oR 2 (.mv (.k (.i .i64 8)))]
 .ret) (oD [oM 55 5,oR 56 (.bin .gtr (.t 55) (.k (.i .i64 0))),oM 54 56] 54 (oZ [oR 2 (.mv (.k (.i .i64 1)))]
 .ret) .skip)))))))
 (.reg [oM 22 3,oR 23 (.bin .add (.t 22) (.k (.i .i64 1))),oM 3 23]))))))
 (oZ [oL 57 4 1,oR 58 (.callp 71 [(.t 57)]),oM 6 58]
 (.seq (oZ [oR 7 (.mv (.k (.i .i64 0)))]
 (.blk 3 (.loop (.seq (oD [oM 59 7,oM 60 6,oR 61 (.len (.t 60)),oR 62 (.bin .lss (.t 59) (.t 61))] 62 .skip (.exit 3))
 (.seq (.blk 4 (oD [oM 65 6,oM 66 7,oI 67 1 65 66,oK 68 1 67,oR 69 (.len (.t 68)),oR 70 (.bin .gtr (.t 69) (.k (.i .i64 16)))] 70 (oZ [oR 2 (.mv (.k (.i .i64 4)))]
 .ret) .skip))
 (.reg [oM 63 7,oR 64 (.bin .add (.t 63) (.k (.i .i64 1))),oM 7 64]))))))
 (.seq (oZ [oR 8 (.mv (.k (.i .i64 0)))]
 (.blk 5 (.loop (.seq (oD [oM 71 8,oM 72 6,oR 73 (.len (.t 72)),oR 74 (.bin .lss (.t 71) (.t 73))] 74 .skip (.exit 5))
 (.seq (.blk 6 (.seq (.dreg [(oL 77 4 1,0),(oM 78 6,1),(oM 79 8,3),(oI 80 1 78 79,1),(oK 81 1 80,1),(oR 82 (.callp 73 [(.t 77),(.t 81)]),0),(oR 83 (.callp 72 [(.t 82)]),0),(oR 84 (.un .not (.t 83)),0)])
 (.cond (.t 84) (oZ [oR 2 (.mv (.k (.i .i64 19)))]
 .ret) .skip)))
 (.reg [oM 75 8,oR 76 (.bin .add (.t 75) (.k (.i .i64 1))),oM 8 76]))))))
 (oZ [oR 2 (.mv (.k (.i .i64 0)))]
 .ret)))))))⟩
noncomputable def g35 : Go.Vse.Fn := ⟨67, [.t 4], oZ [oR 2 (.box (.t 0)),oR 3 (.box (.t 1)),oR 4 (.mv (.k (.i .i64 0)))]
 (.seq (oD [oL 6 3 2,oR 7 (.callp 70 [(.t 6)]),oR 8 (.un .not (.t 7))] 8 (oZ [oR 4 (.mv (.k (.i .i64 1)))]
 .ret) .skip)
 (.seq (oD [oF 9 0 3,oK 10 1 9,oR 11 (.len (.t 10)),oF 12 2 2,oK 13 1 12,oR 14 (.len (.t 13)),oR 15 (.bin .neq (.t 11) (.t 14))] 15 (oZ [oR 4 (.mv (.k (.i .i64 13)))]
 .ret) .skip)
 (.seq (oZ [oR 5 (.mv (.k (.i .i64 0)))]
 (.blk 0 (.loop (.seq (oD [oM 16 5,oF 17 0 3,oK 18 1 17,oR 19 (.len (.t 18)),oR 20 (.bin .lss (.t 16) (.t 19))] 20 .skip (.exit 0))
 (.seq (.blk 1 (.seq (.dreg [(oF 23 0 3,0),(oK 24 1 23,0),(oM 25 5,3),(oI 26 3 24 25,0),(oL 27 3 26,0),(oR 28 (.callp 74 [(.t 27)]),0),(oR 29 (.un .not (.t 28)),0),(oM 30 29,0),(oH 31 30 (.fa 0 (.t 3)),0),(oH 32 30 (.ld false 1 (.t 31)),0),(oH 33 30 (.mv (.t 5)),768),(oH 34 30 (.ia 3 (.t 32) (.t 33)),0),(oH 35 30 (.fa 0 (.t 34)),0),(oH 36 30 (.ld false 1 (.t 35)),0),(oH 37 30 (.fa 2 (.t 2)),16128),(oH 38 30 (.ld false 1 (.t 37)),16128),(oH 39 30 (.mv (.t 5)),65280),(oH 40 30 (.ia 3 (.t 38) (.t 39)),16128),(oH 41 30 (.fa 1 (.t 40)),16128),(oH 42 30 (.ld false 1 (.t 41)),16128),(oH 43 30 (.bin .neq (.t 36) (.t 42)),0),(oR 44 (.pick (.t 30) (.k (.b true)) (.t 43)),0)])
 (.cond (.t 44) (oZ [oR 4 (.mv (.k (.i .i64 13)))]
 .ret) .skip)))
 (.reg [oM 21 5,oR 22 (.bin .add (.t 21) (.k (.i .i64 1))),oM 5 22]))))))
 (.seq (oD [oF 45 1 3,oL 46 3 45,oR 47 (.callp 72 [(.t 46)]),oR 48 (.un .not (.t 47)),oM 49 48,oH 50 49 (.fa 1 (.t 3)),oH 51 49 (.ld true 3 (.t 50)),oH 52 49 (.callp 76 [(.t 51)]),oH 53 49 (.fld false 2 1 (.t 52)),oH 54 49 (.callp 75 [(.t 53)]),oH 55 49 (.bin .gtr (.t 54) (.k (.i .i64 65536))),oR 56 (.pick (.t 49) (.k (.b true)) (.t 55)),oM 57 56,oH 58 57 (.fa 1 (.t 2)),oH 59 57 (.ld false 1 (.t 58)),oH 60 57 (.mv (.t 59)),oG 61 60 (.fa 1 (.t 3)),oG 62 60 (.ld true 3 (.t 61)),oG 63 60 (.callp 77 [(.t 62)]),oG 64 60 (.un .not (.t 63)),oH 65 57 (.pick (.t 60) (.t 64) (.k (.b false))),oR 66 (.pick (.t 57) (.k (.b true)) (.t 65))] 66 (oZ [oR 4 (.mv (.k (.i .i64 19)))]
 .ret) .skip)
 (oZ [oR 4 (.mv (.k (.i .i64 0)))]
 .ret)))))⟩
noncomputable def g36 : Go.Vse.Fn := ⟨24, [.t 4,.t 5], oZ [oR 2 (.box (.t 0)),oR 4 (.mv (.k (.i .i64 0))),oR 5 (.mv (.k (.b false)))]
 (.seq (oZ [oR 6 (.mv (.k (.i .i64 0)))]
 (.blk 0 (.loop (.seq (oD [oM 7 6,oF 8 3 2,oK 9 1 8,oR 10 (.len (.t 9)),oR 11 (.bin .lss (.t 7) (.t 10))] 11 .skip (.exit 0))
 (.seq (.blk 1 (oD [oF 14 3 2,oK 15 1 14,oM 16 6,oI 17 4 15 16,oF 18 0 17,oK 19 1 18,oM 20 1,oR 21 (.callp 25 [(.t 19),(.t 20)]),oR 22 (.bin .eql (.t 21) (.k (.i .i64 0)))] 22 (oZ [oM 23 6,oM 4 23,oR 5 (.mv (.k (.b true)))]
 .ret) .skip))
 (.reg [oM 12 6,oR 13 (.bin .add (.t 12) (.k (.i .i64 1))),oM 6 13]))))))
 (oZ [oR 4 (.mv (.k (.i .i64 0))),oR 5 (.mv (.k (.b false)))]
 .ret))⟩
noncomputable def g37 : Go.Vse.Fn := ⟨35, [.cell 2 true 4], oZ [oR 1 (.box (.t 0)),oR 2 (.new [.s [],.b false,.nils,.nils])]
 (oZ [oF 5 0 1,oL 6 3 5,oR 7 (.bld [.s [],.b false,.nils,.nils] [(0,3,(.t 6))]),oR 3 (.new [.s [],.b false,.nils,.nils]),oS 4 3 7]
 (.seq (oZ [oR 4 (.mv (.k (.i .i64 0)))]
 (.blk 0 (.loop (.seq (oD [oM 8 4,oF 9 3 1,oK 10 1 9,oR 11 (.len (.t 10)),oR 12 (.bin .lss (.t 8) (.t 11))] 12 .skip (.exit 0))
 (.seq (.blk 1 (.dreg [(oF 15 3 3,0),(oK 16 1 15,0),(oF 17 3 1,3),(oK 18 1 17,3),(oM 19 4,15),(oI 20 4 18 19,3),(oF 21 0 20,3),(oK 22 1 21,3),(oF 23 3 1,255),(oK 24 1 23,255),(oM 25 4,1023),(oI 26 4 24 25,255),(oF 27 1 26,255),(oL 28 3 27,255),(oR 29 (.callp 76 [(.t 28)]),255),(oR 30 (.bld [.nils,.b false,.nils,.nils] [(0,1,(.t 22)),(1,3,(.t 29))]),3),(oR 31 (.bsf 4 [.nils,.b false,.nils,.nils] 1 [(0,(.t 30))]),3),(oR 32 (.app 4 80 (.t 16) (.t 31)),0),(oF 33 3 3,0),(oS 1 33 32,0)]))
 (.reg [oM 13 4,oR 14 (.bin .add (.t 13) (.k (.i .i64 1))),oM 4 14]))))))
 (oZ [oL 34 4 3,oS 4 2 34]
 .ret)))⟩
noncomputable def g38 : Go.Vse.Fn := ⟨8, [.t 2], oZ [oR 2 (.mv (.k .nils))]
 (.seq (oD [oM 3 0,oR 4 (.eqn 0 false (.t 3) (.k .nils))] 4 (oZ [oR 2 (.mv (.k .nils))]
 .ret) .skip)
 (oZ [oR 5 (.bsl 9 [.i .i64 0,.s [],.i .i64 0,.i .i64 0,.s [],.s [],.i .i64 0,.i .i64 0,.s []] 0 []),oM 6 0,oR 7 (.app 9 104 (.t 5) (.t 6)),oM 2 7]
 .ret))⟩
noncomputable def g39 : Go.Vse.Fn := ⟨8, [.t 2], oZ [oR 2 (.mv (.k .nils))]
 (.seq (oD [oM 3 0,oR 4 (.eqn 0 false (.t 3) (.k .nils))] 4 (oZ [oR 2 (.mv (.k .nils))]
 .ret) .skip)
 (oZ [oR 5 (.bsl 4 [.s [],.i .i64 0,.i .i64 0,.s []] 0 []),oM 6 0,oR 7 (.app 4 48 (.t 5) (.t 6)),oM 2 7]
 .ret))⟩
noncomputable def g40 : Go.Vse.Fn := ⟨73, [.cell 4 true 2], oZ [oR 2 (.box (.t 0)),oR 4 (.new [.nils,.nils])]
 (oZ [oR 5 (.new [.nils,.nils])]
 (.seq (oZ [oF 13 0 2,oK 14 1 13,oR 15 (.len (.t 14)),oR 16 (.mv (.k (.i .i64 0)))]
 (.blk 0 (.loop (oZ [oR 17 (.bin .lss (.t 16) (.t 15))]
 (.seq (.cond (.t 17) .skip (.exit 0))
 (.seq (.blk 1 (oZ [oI 18 3 14 16,oL 19 3 18,oR 7 (.new [.s [],.b false,.nils]),oS 3 7 19]
 (oZ [oF 20 0 7,oK 21 1 20,oF 22 1 7,oK 23 1 22,oR 24 (.bld [.s [],.b false,.nils] [(0,1,(.t 21)),(1,1,(.t 23))]),oR 8 (.new [.s [],.b false,.nils]),oS 3 8 24]
 (.seq (oZ [oF 25 2 7,oK 26 1 25,oR 27 (.len (.t 26)),oR 28 (.mv (.k (.i .i64 0)))]
 (.blk 2 (.loop (oZ [oR 29 (.bin .lss (.t 28) (.t 27))]
 (.seq (.cond (.t 29) .skip (.exit 2))
 (.seq (.blk 3 (oZ [oI 30 4 26 28,oL 31 4 30,oR 10 (.new [.s [],.i .i64 0,.i .i64 0,.s []]),oS 4 10 31]
 (.dreg [(oF 32 2 8,0),(oK 33 1 32,0),(oM 34 1,3),(oL 35 4 10,7),(oR 36 (.callv (.t 34) [(.t 35)]),3),(oR 37 (.bsf 4 [.s [],.i .i64 0,.i .i64 0,.s []] 1 [(0,(.t 36))]),3),(oR 38 (.app 4 48 (.t 33) (.t 37)),0),(oF 39 2 8,0),(oS 1 39 38,0)])))
 (.reg [oR 40 (.bin .add (.t 28) (.k (.i .i64 1))),oM 28 40])))))))
 (.reg [oF 41 0 5,oK 42 1 41,oL 43 3 8,oR 44 (.bsf 3 [.s [],.b false,.nils] 1 [(0,(.t 43))]),oR 45 (.app 3 48 (.t 42) (.t 44)),oF 46 0 5,oS 1 46 45])))))
 (.reg [oR 47 (.bin .add (.t 16) (.k (.i .i64 1))),oM 16 47])))))))
 (.seq (oZ [oF 48 1 2,oK 49 1 48,oR 50 (.len (.t 49)),oR 51 (.mv (.k (.i .i64 0)))]
 (.blk 4 (.loop (oZ [oR 52 (.bin .lss (.t 51) (.t 50))]
 (.seq (.cond (.t 52) .skip (.exit 4))
 (.seq (.blk 5 (oZ [oI 53 9 49 51,oL 54 9 53,oR 12 (.new [.i .i64 0,.s [],.i .i64 0,.i .i64 0,.s [],.s [],.i .i64 0,.i .i64 0,.s []]),oS 9 12 54]
 (.dreg [(oF 55 1 5,0),(oK 56 1 55,0),(oF 57 0 12,3),(oK 58 1 57,3),(oM 59 1,15),(oF 60 1 12,31),(oL 61 4 60,31),(oR 62 (.callv (.t 59) [(.t 61)]),15),(oM 63 1,255),(oF 64 5 12,511),(oL 65 4 64,511),(oR 66 (.callv (.t 63) [(.t 65)]),15),(oR 67 (.bld [.i .i64 0,.s [],.i .i64 0,.i .i64 0,.s [],.s [],.i .i64 0,.i .i64 0,.s []] [(0,1,(.t 58)),(1,4,(.t 62)),(5,4,(.t 66))]),3),(oR 68 (.bsf 9 [.i .i64 0,.s [],.i .i64 0,.i .i64 0,.s [],.s [],.i .i64 0,.i .i64 0,.s []] 1 [(0,(.t 67))]),3),(oR 69 (.app 9 104 (.t 56) (.t 68)),0),(oF 70 1 5,0),(oS 1 70 69,0)])))
 (.reg [oR 71 (.bin .add (.t 51) (.k (.i .i64 1))),oM 51 71])))))))
 (oZ [oL 72 2 5,oS 2 4 72]
 .ret))))⟩
noncomputable def g41 : Go.Vse.Fn := ⟨16, [.cell 4 true 4], oZ [oR 3 (.box (.t 0)),oR 4 (.new [.s [],.i .i64 0,.i .i64 0,.s []])]
 (.seq (oD [oK 5 1 1,oR 6 (.bin .neq (.t 5) (.k (.s []))),oM 7 6,oG 8 7 (.fa 0 (.t 3)),oG 9 7 (.ld false 1 (.t 8)),oG 10 7 (.ld false 1 (.t 1)),oG 11 7 (.bin .eql (.t 9) (.t 10)),oR 12 (.pick (.t 7) (.t 11) (.k (.b false)))] 12 (oZ [oL 13 3 2,oR 14 (.bld [.s [],.i .i64 0,.i .i64 0,.s []] [(1,3,(.t 13))]),oS 4 4 14]
 .ret) .skip)
 (oZ [oL 15 4 3,oS 4 4 15]
 .ret))⟩
noncomputable def g42 : Go.Vse.Fn := ⟨33, [.cell 4 true 3,.t 5], oZ [oR 2 (.box (.t 0)),oR 3 (.box (.t 1)),oR 4 (.new [.i .i64 0,.i .i64 0,.s []]),oR 5 (.mv (.k (.b false)))]
 (.seq (oD [oF 7 0 3,oK 8 1 7,oR 9 (.bin .eql (.t 8) (.k (.s [])))] 9 (oZ [oF 10 1 3,oL 11 3 10,oS 3 4 11,oR 5 (.mv (.k (.b true)))]
 .ret) .skip)
 (.seq (oZ [oR 6 (.mv (.k (.i .i64 0)))]
 (.blk 0 (.loop (.seq (oD [oM 12 6,oF 13 0 2,oK 14 1 13,oR 15 (.len (.t 14)),oR 16 (.bin .lss (.t 12) (.t 15))] 16 .skip (.exit 0))
 (.seq (.blk 1 (.seq (.dreg [(oF 19 0 2,0),(oK 20 1 19,0),(oM 21 6,3),(oI 22 1 20 21,0),(oK 23 1 22,0),(oF 24 0 3,31),(oK 25 1 24,31),(oR 26 (.bin .eql (.t 23) (.t 25)),0)])
 (.cond (.t 26) (oZ [oF 27 1 2,oK 28 1 27,oM 29 6,oI 30 3 28 29,oL 31 3 30,oS 3 4 31,oR 5 (.mv (.k (.b true)))]
 .ret) .skip)))
 (.reg [oM 17 6,oR 18 (.bin .add (.t 17) (.k (.i .i64 1))),oM 6 18]))))))
 (oZ [oR 32 (.bld [.i .i64 0,.i .i64 0,.s []] []),oS 3 4 32,oR 5 (.mv (.k (.b false)))]
 .ret)))⟩
noncomputable def g43 : Go.Vse.Fn := ⟨121, [.t 8], oZ [oR 5 (.box (.t 1)),oR 6 (.box (.t 2)),oR 8 (.mv (.k (.b false)))]
 (.seq (oZ [oR 9 (.mv (.k (.i .i64 0)))]
 (.blk 0 (.loop (.seq (oD [oM 19 9,oF 20 1 5,oK 21 1 20,oR 22 (.len (.t 21)),oR 23 (.bin .lss (.t 19) (.t 22))] 23 .skip (.exit 0))
 (.seq (.blk 1 (.seq (.dreg [(oL 27 2 6,0),(oF 28 1 5,1),(oK 29 1 28,1),(oM 30 9,7),(oI 31 9 29 30,1),(oF 32 1 31,1),(oL 33 4 32,1),(oR 34 (.callp 42 [(.t 27),(.t 33)]),0),(oM 26 34,0),(oR 35 (.ext (.t 26) 0),0),(oR 36 (.ext (.t 26) 1),512),(oR 10 (.new [.i .i64 0,.i .i64 0,.s []]),2047),(oS 3 10 35,1024),(oM 11 36,0)])
 (.seq (.dreg [(oL 38 2 6,0),(oF 39 1 5,1),(oK 40 1 39,1),(oM 41 9,7),(oI 42 9 40 41,1),(oF 43 5 42,1),(oL 44 4 43,1),(oR 45 (.callp 42 [(.t 38),(.t 44)]),0),(oM 37 45,0),(oR 46 (.ext (.t 37) 0),0),(oR 47 (.ext (.t 37) 1),512),(oR 12 (.new [.i .i64 0,.i .i64 0,.s []]),2047),(oS 3 12 46,1024),(oM 13 47,0)])
 (.seq (.dreg [(oM 48 11,0),(oR 49 (.un .not (.t 48)),0),(oM 50 49,0),(oH 51 50 (.mv (.t 13)),0),(oH 52 50 (.un .not (.t 51)),0),(oR 53 (.pick (.t 50) (.k (.b true)) (.t 52)),0),(oM 54 53,0),(oH 55 54 (.fa 1 (.t 5)),0),(oH 56 54 (.ld false 1 (.t 55)),0),(oH 57 54 (.mv (.t 9)),384),(oH 58 54 (.ia 9 (.t 56) (.t 57)),0),(oH 59 54 (.fa 0 (.t 58)),0),(oH 60 54 (.ld false 1 (.t 59)),0),(oH 61 54 (.ld true 3 (.t 10)),8064),(oH 62 54 (.ld true 3 (.t 12)),16256),(oH 63 54 (.callp 78 [(.t 60),(.t 61),(.t 62)]),0),(oH 64 54 (.un .not (.t 63)),0),(oR 65 (.pick (.t 54) (.k (.b true)) (.t 64)),0)])
 (.cond (.t 65) (oZ [oR 8 (.mv (.k (.b false)))]
 .ret) .skip)))))
 (.reg [oM 24 9,oR 25 (.bin .add (.t 24) (.k (.i .i64 1))),oM 9 25]))))))
 (.seq (oZ [oR 14 (.mv (.k (.i .i64 0)))]
 (.blk 2 (.loop (.seq (oD [oM 66 14,oF 67 0 5,oK 68 1 67,oR 69 (.len (.t 68)),oR 70 (.bin .lss (.t 66) (.t 69)),oM 71 70,oG 72 71 (.mv (.t 3)),oR 73 (.pick (.t 71) (.t 72) (.k (.b false)))] 73 .skip (.exit 2))
 (.seq (.blk 3 (.seq (oD [oF 76 0 5,oK 77 1 76,oM 78 14,oI 79 3 77 78,oF 80 1 79,oK 81 1 80,oR 82 (.un .not (.t 81))] 82 (.exit 3) .skip)
 (oZ [oM 83 0,oF 84 0 5,oK 85 1 84,oM 86 14,oI 87 3 85 86,oF 88 0 87,oK 89 1 88,oR 90 (.callp 44 [(.t 83),(.t 89)]),oM 15 90]
 (oZ [oR 16 (.mv (.k (.i .i64 0)))]
 (.blk 4 (.loop (.seq (oD [oM 91 16,oM 92 15,oR 93 (.len (.t 92)),oR 94 (.bin .lss (.t 91) (.t 93))] 94 .skip (.exit 4))
 (.seq (.blk 5 (.seq (.dreg [(oL 98 2 6,0),(oF 99 0 5,1),(oK 100 1 99,1),(oM 101 14,7),(oI 102 3 100 101,1),(oL 103 3 102,1),(oM 104 15,63),(oM 105 16,127),(oI 106 4 104 105,63),(oL 107 4 106,63),(oR 108 (.callp 45 [(.t 98),(.t 103),(.t 107)]),0),(oM 97 108,0),(oR 109 (.ext (.t 97) 0),0),(oR 110 (.ext (.t 97) 1),4096),(oR 17 (.new [.nils,.nils]),16383),(oS 2 17 109,8192),(oM 18 110,0)])
 (oD [oM 111 18,oM 112 111,oG 113 112 (.fa 0 (.t 17)),oG 114 112 (.ld false 1 (.t 113)),oG 115 112 (.len (.t 114)),oG 116 112 (.fa 0 (.t 6)),oG 117 112 (.ld false 1 (.t 116)),oG 118 112 (.len (.t 117)),oG 119 112 (.bin .eql (.t 115) (.t 118)),oR 120 (.pick (.t 112) (.t 119) (.k (.b false)))] 120 (oZ [oR 8 (.mv (.k (.b false)))]
 .ret) .skip)))
 (.reg [oM 95 16,oR 96 (.bin .add (.t 95) (.k (.i .i64 1))),oM 16 96])))))))))
 (.reg [oM 74 14,oR 75 (.bin .add (.t 74) (.k (.i .i64 1))),oM 14 75]))))))
 (oZ [oR 8 (.mv (.k (.b true)))]
 .ret)))⟩
noncomputable def g44 : Go.Vse.Fn := ⟨25, [.t 4], oZ [oR 4 (.mv (.k .nils))]
 (.seq (oZ [oR 5 (.mv (.k (.i .i64 0)))]
 (.blk 0 (.loop (.seq (oD [oM 6 5,oM 7 0,oR 8 (.len (.t 7)),oR 9 (.bin .lss (.t 6) (.t 8))] 9 .skip (.exit 0))
 (.seq (.blk 1 (oD [oM 12 0,oM 13 5,oI 14 4 12 13,oF 15 0 14,oF 16 0 15,oK 17 1 16,oM 18 1,oR 19 (.bin .eql (.t 17) (.t 18))] 19 (oZ [oM 20 0,oM 21 5,oI 22 4 20 21,oF 23 3 22,oK 24 1 23,oM 4 24]
 .ret) .skip))
 (.reg [oM 10 5,oR 11 (.bin .add (.t 10) (.k (.i .i64 1))),oM 5 11]))))))
 (oZ [oR 4 (.mv (.k .nils))]
 .ret))⟩
noncomputable def g45 : Go.Vse.Fn := ⟨45, [.cell 6 true 2,.t 7], oZ [oR 3 (.box (.t 0)),oR 4 (.box (.t 1)),oR 5 (.box (.t 2)),oR 6 (.new [.nils,.nils]),oR 7 (.mv (.k (.b false)))]
 (.seq (oD [oF 10 2 4,oK 11 1 10,oR 12 (.len (.t 11)),oF 13 0 5,oK 14 1 13,oR 15 (.len (.t 14)),oR 16 (.bin .neq (.t 12) (.t 15))] 16 (oZ [oL 17 2 3,oS 2 6 17,oR 7 (.mv (.k (.b false)))]
 .ret) .skip)
 (oZ [oR 8 (.mv (.k (.b true)))]
 (.seq (oZ [oR 9 (.mv (.k (.i .i64 0)))]
 (.blk 0 (.loop (.seq (oD [oM 18 9,oF 19 2 4,oK 20 1 19,oR 21 (.len (.t 20)),oR 22 (.bin .lss (.t 18) (.t 21)),oM 23 22,oG 24 23 (.mv (.t 8)),oR 25 (.pick (.t 23) (.t 24) (.k (.b false)))] 25 .skip (.exit 0))
 (.seq (.blk 1 (.dreg [(oL 29 2 3,0),(oF 30 2 4,1),(oK 31 1 30,1),(oM 32 9,7),(oI 33 4 31 32,1),(oL 34 4 33,1),(oF 35 0 5,63),(oK 36 1 35,63),(oM 37 9,255),(oI 38 3 36 37,63),(oL 39 3 38,63),(oR 40 (.callp 79 [(.t 29),(.t 34),(.t 39)]),0),(oM 28 40,0),(oR 41 (.ext (.t 28) 0),0),(oR 42 (.ext (.t 28) 1),8192),(oS 2 3 41,16384),(oM 8 42,0)]))
 (.reg [oM 26 9,oR 27 (.bin .add (.t 26) (.k (.i .i64 1))),oM 9 27]))))))
 (oZ [oL 43 2 3,oM 44 8,oS 2 6 43,oM 7 44]
 .ret))))⟩
noncomputable def g46 : Go.Vse.Fn := ⟨39, [.t 4], oZ [oR 2 (.box (.t 0)),oR 3 (.box (.t 1)),oR 4 (.mv (.k (.i .i64 0)))]
 (.seq (.blk 0 (oD [oF 6 0 2,oK 7 1 6,oF 8 0 3,oK 9 1 8,oR 10 (.bin .neq (.t 7) (.t 9)),oM 5 10] 5 (.seq (oD [oF 11 0 2,oK 12 1 11,oF 13 0 3,oK 14 1 13,oR 15 (.bin .lss (.t 12) (.t 14))] 15 (oZ [oR 4 (.mv (.k (.i .i64 (-1))))]
 .ret) .skip)
 (oZ [oR 4 (.mv (.k (.i .i64 1)))]
 .ret)) (oD [oF 17 1 2,oK 18 1 17,oF 19 1 3,oK 20 1 19,oR 21 (.bin .neq (.t 18) (.t 20)),oM 16 21] 16 (.seq (oD [oF 22 1 2,oK 23 1 22,oF 24 1 3,oK 25 1 24,oR 26 (.bin .lss (.t 23) (.t 25))] 26 (oZ [oR 4 (.mv (.k (.i .i64 (-1))))]
 .ret) .skip)
 (oZ [oR 4 (.mv (.k (.i .i64 1)))]
 .ret)) (oD [oF 28 2 2,oK 29 1 28,oF 30 2 3,oK 31 1 30,oR 32 (.bin .lss (.t 29) (.t 31)),oM 27 32] 27 (oZ [oR 4 (.mv (.k (.i .i64 (-1))))]
 .ret) (oD [oF 34 2 2,oK 35 1 34,oF 36 2 3,oK 37 1 36,oR 38 (.bin .gtr (.t 35) (.t 37)),oM 33 38] 33 (oZ [oR 4 (.mv (.k (.i .i64 1)))]
 .ret) .skip)))))
 (oZ [oR 4 (.mv (.k (.i .i64 0)))]
 .ret))⟩
noncomputable def g47 : Go.Vse.Fn := ⟨140, [.t 2,.t 3], oZ [oR 2 (.mv (.k .nils)),oR 3 (.mv (.k (.b false)))]
 (oZ [oR 4 (.mv (.k .nils))]
 (.seq (oZ [oR 5 (.mv (.k (.i .i64 0)))]
 (.blk 0 (.loop (.seq (oD [oM 9 5,oM 10 0,oR 11 (.lns (.t 10)),oR 12 (.bin .lss (.t 9) (.t 11))] 12 .skip (.exit 0))
 (.blk 1 (oZ [oM 13 0,oM 14 5,oR 15 (.ixs (.t 13) (.t 14)),oM 6 15]
 (oZ [oM 16 5,oM 7 16]
 (oZ [oR 8 (.mv (.k (.i .i64 0)))]
 (.seq (.blk 2 (oD [oM 18 6,oR 19 (.bin .eql (.t 18) (.k (.i .u8 32))),oM 17 19] 17 (oZ [oM 20 5,oR 21 (.bin .add (.t 20) (.k (.i .i64 1))),oM 5 21]
 (.exit 1)) (oD [oM 23 6,oR 24 (.bin .eql (.t 23) (.k (.i .u8 35))),oM 22 24] 22 (oZ [oM 25 4,oM 2 25,oR 3 (.mv (.k (.b true)))]
 .ret) (oD [oM 27 6,oR 28 (.callp 80 [(.t 27)]),oM 26 28] 26 (oZ [oR 8 (.mv (.k (.i .i64 1)))]
 (.blk 3 (.loop (.seq (oD [oM 29 7,oM 30 0,oR 31 (.lns (.t 30)),oR 32 (.bin .lss (.t 29) (.t 31)),oM 33 32,oG 34 33 (.mv (.t 0)),oG 35 33 (.mv (.t 7)),oG 36 33 (.ixs (.t 34) (.t 35)),oG 37 33 (.callp 80 [(.t 36)]),oG 38 33 (.mv (.t 37)),oH 39 38 (.mv (.t 0)),oH 40 38 (.mv (.t 7)),oH 41 38 (.ixs (.t 39) (.t 40)),oH 42 38 (.callp 81 [(.t 41)]),oG 43 33 (.pick (.t 38) (.k (.b true)) (.t 42)),oG 44 33 (.mv (.t 43)),oH 45 44 (.mv (.t 0)),oH 46 44 (.mv (.t 7)),oH 47 44 (.ixs (.t 45) (.t 46)),oH 48 44 (.bin .eql (.t 47) (.k (.i .u8 95))),oG 49 33 (.pick (.t 44) (.k (.b true)) (.t 48)),oR 50 (.pick (.t 33) (.t 49) (.k (.b false)))] 50 .skip (.exit 3))
 (.blk 4 (.reg [oM 51 7,oR 52 (.bin .add (.t 51) (.k (.i .i64 1))),oM 7 52])))))) (oD [oM 54 6,oR 55 (.bin .eql (.t 54) (.k (.i .u8 45))),oM 56 55,oH 57 56 (.mv (.t 6)),oH 58 56 (.callp 81 [(.t 57)]),oR 59 (.pick (.t 56) (.k (.b true)) (.t 58)),oM 53 59] 53 (.reg [oM 60 0,oM 61 5,oR 62 (.callp 82 [(.t 60),(.t 61)]),oR 8 (.mv (.k (.i .i64 2))),oM 7 62]) (oD [oM 64 6,oR 65 (.bin .eql (.t 64) (.k (.i .u8 39))),oM 63 65] 63 (.reg [oM 66 0,oM 67 5,oR 68 (.callp 83 [(.t 66),(.t 67)]),oR 8 (.mv (.k (.i .i64 3))),oM 7 68]) (oD [oM 70 6,oR 71 (.bin .eql (.t 70) (.k (.i .u8 40))),oM 72 71,oH 73 72 (.mv (.t 6)),oH 74 72 (.bin .eql (.t 73) (.k (.i .u8 41))),oR 75 (.pick (.t 72) (.k (.b true)) (.t 74)),oM 76 75,oH 77 76 (.mv (.t 6)),oH 78 76 (.bin .eql (.t 77) (.k (.i .u8 44))),oR 79 (.pick (.t 76) (.k (.b true)) (.t 78)),oM 80 79,oH 81 80 (.mv (.t 6)),oH 82 80 (.bin .eql (.t 81) (.k (.i .u8 58))),oR 83 (.pick (.t 80) (.k (.b true)) (.t 82)),oM 84 83,oH 85 84 (.mv (.t 6)),oH 86 84 (.bin .eql (.t 85) (.k (.i .u8 61))),oR 87 (.pick (.t 84) (.k (.b true)) (.t 86)),oM 69 87] 69 (.reg [oM 88 5,oR 89 (.bin .add (.t 88) (.k (.i .i64 1))),oR 8 (.mv (.k (.i .i64 4))),oM 7 89]) (oD [oM 91 6,oR 92 (.bin .eql (.t 91) (.k (.i .u8 60))),oM 90 92] 90 (oZ [oM 93 5,oR 94 (.bin .add (.t 93) (.k (.i .i64 1))),oR 8 (.mv (.k (.i .i64 4))),oM 7 94]
 (oD [oM 95 7,oM 96 0,oR 97 (.lns (.t 96)),oR 98 (.bin .lss (.t 95) (.t 97)),oM 99 98,oG 100 99 (.mv (.t 0)),oG 101 99 (.mv (.t 7)),oG 102 99 (.ixs (.t 100) (.t 101)),oG 103 99 (.bin .eql (.t 102) (.k (.i .u8 61))),oR 104 (.pick (.t 99) (.t 103) (.k (.b false)))] 104 (.reg [oM 105 7,oR 106 (.bin .add (.t 105) (.k (.i .i64 1))),oM 7 106]) .skip)) (oD [oM 108 6,oR 109 (.bin .eql (.t 108) (.k (.i .u8 33))),oM 110 109,oG 111 110 (.mv (.t 5)),oG 112 110 (.bin .add (.t 111) (.k (.i .i64 1))),oG 113 110 (.mv (.t 0)),oG 114 110 (.lns (.t 113)),oG 115 110 (.bin .lss (.t 112) (.t 114)),oR 116 (.pick (.t 110) (.t 115) (.k (.b false))),oM 117 116,oG 118 117 (.mv (.t 0)),oG 119 117 (.mv (.t 5)),oG 120 117 (.bin .add (.t 119) (.k (.i .i64 1))),oG 121 117 (.ixs (.t 118) (.t 120)),oG 122 117 (.bin .eql (.t 121) (.k (.i .u8 61))),oR 123 (.pick (.t 117) (.t 122) (.k (.b false))),oM 107 123] 107 (.reg [oM 124 5,oR 125 (.bin .add (.t 124) (.k (.i .i64 2))),oR 8 (.mv (.k (.i .i64 4))),oM 7 125]) .skip)))))))))
 (.seq (oD [oM 126 7,oM 127 5,oR 128 (.bin .eql (.t 126) (.t 127))] 128 (oZ [oR 2 (.mv (.k .nils)),oR 3 (.mv (.k (.b false)))]
 .ret) .skip)
 (oZ [oM 129 4,oM 130 8,oM 131 0,oM 132 5,oM 133 7,oR 134 (.sls (.t 131) (some (.t 132)) (some (.t 133))),oR 135 (.bld [.i .i64 0,.s []] [(0,1,(.t 130)),(1,1,(.t 134))]),oR 136 (.bsf 2 [.i .i64 0,.s []] 1 [(0,(.t 135))]),oR 137 (.app 2 24 (.t 129) (.t 136)),oM 4 137]
 (.reg [oM 138 7,oM 5 138]))))))))))))
 (oZ [oM 139 4,oM 2 139,oR 3 (.mv (.k (.b true)))]
 .ret)))⟩
noncomputable def g48 : Go.Vse.Fn := ⟨65, [.t 4], oZ [oR 4 (.mv (.k (.b false)))]
 (.seq (.dreg [(oM 5 0,0),(oR 6 (.nck (.t 5)),0),(oF 7 2 6,0),(oK 8 1 7,0),(oR 9 (.un .not (.t 8)),0),(oM 10 9,0),(oG 11 10 (.mv (.t 0)),0),(oG 12 10 (.nck (.t 11)),0),(oG 13 10 (.fa 1 (.t 12)),0),(oG 14 10 (.ld false 1 (.t 13)),0),(oG 15 10 (.mv (.t 0)),960),(oG 16 10 (.nck (.t 15)),960),(oG 17 10 (.fa 0 (.t 16)),960),(oG 18 10 (.ld false 1 (.t 17)),960),(oG 19 10 (.len (.t 18)),960),(oG 20 10 (.bin .lss (.t 14) (.t 19)),0),(oR 21 (.pick (.t 10) (.t 20) (.k (.b false))),0),(oM 22 21,0),(oG 23 22 (.mv (.t 0)),0),(oG 24 22 (.nck (.t 23)),0),(oG 25 22 (.fa 0 (.t 24)),0),(oG 26 22 (.ld false 1 (.t 25)),0),(oG 27 22 (.mv (.t 0)),3932160),(oG 28 22 (.nck (.t 27)),3932160),(oG 29 22 (.fa 1 (.t 28)),3932160),(oG 30 22 (.ld false 1 (.t 29)),3932160),(oG 31 22 (.ia 2 (.t 26) (.t 30)),0),(oG 32 22 (.fa 0 (.t 31)),0),(oG 33 22 (.ld false 1 (.t 32)),0),(oG 34 22 (.bin .neq (.t 33) (.k (.i .i64 3))),0),(oR 35 (.pick (.t 22) (.t 34) (.k (.b false))),0),(oM 36 35,0),(oG 37 36 (.mv (.t 0)),0),(oG 38 36 (.nck (.t 37)),0),(oG 39 36 (.fa 0 (.t 38)),0),(oG 40 36 (.ld false 1 (.t 39)),0),(oG 41 36 (.mv (.t 0)),64424509440),(oG 42 36 (.nck (.t 41)),64424509440),(oG 43 36 (.fa 1 (.t 42)),64424509440),(oG 44 36 (.ld false 1 (.t 43)),64424509440),(oG 45 36 (.ia 2 (.t 40) (.t 44)),0),(oG 46 36 (.fa 0 (.t 45)),0),(oG 47 36 (.ld false 1 (.t 46)),0),(oG 48 36 (.bin .neq (.t 47) (.k (.i .i64 2))),0),(oR 49 (.pick (.t 36) (.t 48) (.k (.b false))),0),(oM 50 49,0),(oG 51 50 (.mv (.t 0)),0),(oG 52 50 (.nck (.t 51)),0),(oG 53 50 (.fa 0 (.t 52)),0),(oG 54 50 (.ld false 1 (.t 53)),0),(oG 55 50 (.mv (.t 0)),1055531162664960),(oG 56 50 (.nck (.t 55)),1055531162664960),(oG 57 50 (.fa 1 (.t 56)),1055531162664960),(oG 58 50 (.ld false 1 (.t 57)),1055531162664960),(oG 59 50 (.ia 2 (.t 54) (.t 58)),0),(oG 60 50 (.fa 1 (.t 59)),0),(oG 61 50 (.ld false 1 (.t 60)),0),(oG 62 50 (.mv (.t 1)),144044819331678208),(oG 63 50 (.bin .eql (.t 61) (.t 62)),0),(oR 64 (.pick (.t 50) (.t 63) (.k (.b false))),0),(oM 4 64,0)])
 .ret)⟩
noncomputable def g50 : Go.Vse.Fn := ⟨11, [], oD [oM 4 0,oM 5 1,oR 6 (.call 84 [(.t 4),(.t 5)]),oR 7 (.un .not (.t 6))] 7 (.reg [oM 8 0,oR 9 (.nck (.t 8)),oF 10 2 9,oN (.st 1 (.t 10) (.k (.b true)))]) .skip⟩
noncomputable def g51 : Go.Vse.Fn := ⟨7, [.t 2], oZ [oR 2 (.mv (.k .nils))]
 (.seq (oD [oM 3 0,oR 4 (.call 84 [(.t 3),(.k (.s [102,97,108,115,101]))])] 4 (oZ [oR 2 (.mv (.k .nils))]
 .ret) .skip)
 (oZ [oM 5 0,oR 6 (.call 86 [(.t 5)]),oM 2 6]
 .ret))⟩
noncomputable def g52 : Go.Vse.Fn := ⟨20, [.t 2], oZ [oR 2 (.mv (.k (.b false)))]
 (.seq (.dreg [(oM 3 0,0),(oR 4 (.nck (.t 3)),0),(oF 5 2 4,0),(oK 6 1 5,0),(oR 7 (.un .not (.t 6)),0),(oM 8 7,0),(oG 9 8 (.mv (.t 0)),0),(oG 10 8 (.nck (.t 9)),0),(oG 11 8 (.fa 1 (.t 10)),0),(oG 12 8 (.ld false 1 (.t 11)),0),(oG 13 8 (.mv (.t 0)),960),(oG 14 8 (.nck (.t 13)),960),(oG 15 8 (.fa 0 (.t 14)),960),(oG 16 8 (.ld false 1 (.t 15)),960),(oG 17 8 (.len (.t 16)),960),(oG 18 8 (.bin .eql (.t 12) (.t 17)),0),(oR 19 (.pick (.t 8) (.t 18) (.k (.b false))),0),(oM 2 19,0)])
 .ret)⟩
noncomputable def g53 : Go.Vse.Fn := ⟨40, [.cell 4 true 2,.t 5], oZ [oR 2 (.box (.t 0)),oR 4 (.new [.nils,.nils]),oR 5 (.mv (.k (.i .i64 0)))]
 (oZ [oL 8 2 2,oR 9 (.call 87 [(.t 8)]),oS 2 2 9]
 (.blk 0 (.loop (.blk 1 (.seq (oD [oF 10 1 2,oK 11 1 10,oR 12 (.len (.t 11)),oR 13 (.bin .gtr (.t 12) (.k (.i .i64 64)))] 13 (oZ [oR 14 (.bld [.nils,.nils] []),oS 2 4 14,oR 5 (.mv (.k (.i .i64 4)))]
 .ret) .skip)
 (oZ [oM 16 1,oL 17 2 2,oR 18 (.callv (.t 16) [(.t 17)]),oM 15 18,oR 19 (.ext (.t 15) 0),oR 20 (.ext (.t 15) 1),oM 6 19,oM 7 20]
 (.seq (oD [oM 21 7,oR 22 (.len (.t 21)),oR 23 (.bin .eql (.t 22) (.k (.i .i64 0)))] 23 (oZ [oL 24 2 2,oS 2 4 24,oR 5 (.mv (.k (.i .i64 0)))]
 .ret) .skip)
 (oZ [oF 25 1 2,oK 26 1 25,oM 27 6,oM 28 6,oR 29 (.bin .add (.t 28) (.k (.i .i64 1))),oM 30 7,oR 31 (.call 88 [(.t 26),(.t 27),(.t 29),(.t 30)]),oF 32 1 2,oS 1 32 31]
 (.seq (oD [oF 33 1 2,oK 34 1 33,oR 35 (.len (.t 34)),oR 36 (.bin .gtr (.t 35) (.k (.i .i64 64)))] 36 (oZ [oR 37 (.bld [.nils,.nils] []),oS 2 4 37,oR 5 (.mv (.k (.i .i64 4)))]
 .ret) .skip)
 (.reg [oL 38 2 2,oR 39 (.call 87 [(.t 38)]),oS 2 2 39]))))))))))⟩
noncomputable def g54 : Go.Vse.Fn := ⟨44, [.t 2,.t 3], oZ [oR 1 (.box (.t 0)),oR 2 (.mv (.k (.i .i64 0))),oR 3 (.mv (.k .nils))]
 (.seq (oZ [oF 10 1 1,oK 11 1 10,oR 12 (.len (.t 11)),oR 13 (.mv (.k (.i .i64 0)))]
 (.blk 0 (.loop (oZ [oR 14 (.bin .lss (.t 13) (.t 12))]
 (.seq (.cond (.t 14) .skip (.exit 0))
 (.seq (.blk 1 (oZ [oM 15 13,oI 16 2 11 13,oL 17 2 16,oR 5 (.new [.nils,.nils]),oM 4 15,oS 2 5 17]
 (oZ [oL 18 2 5,oR 19 (.callp 55 [(.t 18)]),oR 20 (.len (.t 19)),oR 21 (.mv (.k (.i .i64 0)))]
 (.blk 2 (.loop (oZ [oR 22 (.bin .lss (.t 21) (.t 20))]
 (.seq (.cond (.t 22) .skip (.exit 2))
 (.seq (.blk 3 (oZ [oI 23 1 19 21,oK 24 1 23,oM 7 24]
 (.seq (oD [oF 25 0 1,oK 26 1 25,oM 27 7,oR 28 (.callp 56 [(.t 26),(.t 27)])] 28 (.exit 3) .skip)
 (oZ [oL 30 2 1,oL 31 2 5,oM 32 7,oR 33 (.call 57 [(.t 30),(.t 31),(.t 32)]),oM 29 33,oR 34 (.ext (.t 29) 0),oR 35 (.ext (.t 29) 1),oR 8 (.new [.i .i64 0,.i .i64 0,.s []]),oS 3 8 34,oM 9 35]
 (oD [oM 36 9] 36 (oZ [oM 37 4,oL 38 2 5,oM 39 7,oL 40 3 8,oR 41 (.callp 7 [(.t 38),(.t 39),(.t 40)]),oM 2 37,oM 3 41]
 .ret) .skip)))))
 (.reg [oR 42 (.bin .add (.t 21) (.k (.i .i64 1))),oM 21 42])))))))))
 (.reg [oR 43 (.bin .add (.t 13) (.k (.i .i64 1))),oM 13 43])))))))
 (oZ [oR 2 (.mv (.k (.i .i64 0))),oR 3 (.mv (.k .nils))]
 .ret))⟩
noncomputable def g55 : Go.Vse.Fn := ⟨30, [.t 2], oZ [oR 1 (.box (.t 0)),oR 2 (.mv (.k .nils))]
 (oZ [oR 3 (.mv (.k .nils))]
 (.seq (oZ [oL 6 2 1,oR 7 (.callp 89 [(.t 6)]),oR 8 (.len (.t 7)),oR 9 (.mv (.k (.i .i64 0)))]
 (.blk 0 (.loop (oZ [oR 10 (.bin .lss (.t 9) (.t 8))]
 (.seq (.cond (.t 10) .skip (.exit 0))
 (.seq (.blk 1 (oZ [oI 11 4 7 9,oL 12 4 11,oR 5 (.new [.s [],.i .i64 0,.i .i64 0,.s []]),oS 4 5 12]
 (oD [oF 13 0 5,oK 14 1 13,oR 15 (.bin .neq (.t 14) (.k (.s []))),oM 16 15,oG 17 16 (.mv (.t 3)),oG 18 16 (.fa 0 (.t 5)),oG 19 16 (.ld false 1 (.t 18)),oG 20 16 (.callp 56 [(.t 17),(.t 19)]),oG 21 16 (.un .not (.t 20)),oR 22 (.pick (.t 16) (.t 21) (.k (.b false)))] 22 (.reg [oM 23 3,oF 24 0 5,oK 25 1 24,oR 26 (.bsf 1 [.s []] 1 [(0,(.t 25))]),oR 27 (.app 1 16 (.t 23) (.t 26)),oM 3 27]) .skip)))
 (.reg [oR 28 (.bin .add (.t 9) (.k (.i .i64 1))),oM 9 28])))))))
 (oZ [oM 29 3,oM 2 29]
 .ret)))⟩
noncomputable def g56 : Go.Vse.Fn := ⟨9, [.t 4], oZ [oR 4 (.mv (.k (.b false)))]
 (oZ [oM 5 0,oM 6 1,oR 7 (.callp 90 [(.t 5),(.t 6)]),oR 8 (.bin .geq (.t 7) (.k (.i .i64 0))),oM 4 8]
 .ret)⟩
noncomputable def g57 : Go.Vse.Fn := ⟨66, [.cell 6 true 3,.t 7], oZ [oR 3 (.box (.t 0)),oR 4 (.box (.t 1)),oR 6 (.new [.i .i64 0,.i .i64 0,.s []]),oR 7 (.mv (.k (.b false)))]
 (oZ [oR 8 (.new [.i .i64 0,.i .i64 0,.s []])]
 (oZ [oR 9 (.mv (.k (.b false)))]
 (.seq (oZ [oF 16 0 4,oK 17 1 16,oR 18 (.len (.t 17)),oR 19 (.mv (.k (.i .i64 0)))]
 (.blk 0 (.loop (oZ [oR 20 (.bin .lss (.t 19) (.t 18))]
 (.seq (.cond (.t 20) .skip (.exit 0))
 (.seq (.blk 1 (oZ [oI 21 3 17 19,oL 22 3 21,oR 11 (.new [.s [],.b false,.nils]),oS 3 11 22]
 (oZ [oF 23 2 11,oK 24 1 23,oR 25 (.len (.t 24)),oR 26 (.mv (.k (.i .i64 0)))]
 (.blk 2 (.loop (oZ [oR 27 (.bin .lss (.t 26) (.t 25))]
 (.seq (.cond (.t 27) .skip (.exit 2))
 (.seq (.blk 3 (oZ [oM 28 26,oI 29 4 24 26,oL 30 4 29,oR 13 (.new [.s [],.i .i64 0,.i .i64 0,.s []]),oM 12 28,oS 4 13 30]
 (.seq (oD [oF 31 0 13,oK 32 1 31,oM 33 2,oR 34 (.bin .neq (.t 32) (.t 33))] 34 (.exit 3) .skip)
 (oZ [oL 35 2 3,oF 36 0 11,oK 37 1 36,oM 38 12,oR 39 (.call 91 [(.t 35),(.t 37),(.t 38)]),oR 40 (.len (.t 39)),oR 41 (.mv (.k (.i .i64 0)))]
 (.blk 4 (.loop (oZ [oR 42 (.bin .lss (.t 41) (.t 40))]
 (.seq (.cond (.t 42) .skip (.exit 4))
 (.seq (.blk 5 (oZ [oI 43 3 39 41,oL 44 3 43,oR 15 (.new [.i .i64 0,.i .i64 0,.s []]),oS 3 15 44]
 (oD [oM 45 9,oR 46 (.un .not (.t 45)),oM 47 46,oH 48 47 (.ld true 3 (.t 15)),oH 49 47 (.ld true 3 (.t 8)),oH 50 47 (.callp 63 [(.t 48),(.t 49)]),oH 51 47 (.bin .lss (.t 50) (.k (.i .i64 0))),oR 52 (.pick (.t 47) (.k (.b true)) (.t 51)),oM 53 52,oG 54 53 (.ld true 2 (.t 4)),oG 55 53 (.mv (.t 2)),oG 56 53 (.ld true 3 (.t 15)),oG 57 53 (.callp 92 [(.t 54),(.t 55),(.t 56)]),oG 58 53 (.un .not (.t 57)),oR 59 (.pick (.t 53) (.t 58) (.k (.b false)))] 59 (.reg [oL 60 3 15,oS 3 8 60,oR 9 (.mv (.k (.b true)))]) .skip)))
 (.reg [oR 61 (.bin .add (.t 41) (.k (.i .i64 1))),oM 41 61]))))))))))
 (.reg [oR 62 (.bin .add (.t 26) (.k (.i .i64 1))),oM 26 62])))))))))
 (.reg [oR 63 (.bin .add (.t 19) (.k (.i .i64 1))),oM 19 63])))))))
 (oZ [oL 64 3 8,oM 65 9,oS 3 6 64,oM 7 65]
 .ret))))⟩
noncomputable def g58 : Go.Vse.Fn := ⟨46, [.t 2,.t 3], oZ [oR 1 (.box (.t 0)),oR 2 (.mv (.k (.i .i64 0))),oR 3 (.mv (.k .nils))]
 (.seq (oZ [oF 9 1 1,oK 10 1 9,oR 11 (.len (.t 10)),oR 12 (.mv (.k (.i .i64 0)))]
 (.blk 0 (.loop (oZ [oR 13 (.bin .lss (.t 12) (.t 11))]
 (.seq (.cond (.t 13) .skip (.exit 0))
 (.seq (.blk 1 (oZ [oM 14 12,oI 15 2 10 12,oL 16 2 15,oR 5 (.new [.nils,.nils]),oM 4 14,oS 2 5 16]
 (oZ [oL 18 2 5,oF 19 0 1,oK 20 1 19,oR 21 (.callp 59 [(.t 18),(.t 20)]),oM 17 21,oR 22 (.ext (.t 17) 0),oR 23 (.ext (.t 17) 1),oR 24 (.ext (.t 17) 2),oM 6 22,oM 7 23,oM 8 24]
 (oD [oM 25 8] 25 (.seq (.dreg [(oM 26 4,0),(oL 27 2 5,1),(oM 28 6,3),(oR 29 (.bld [.s [],.i .i64 0,.i .i64 0,.s []] [(0,1,(.t 28))]),3),(oM 30 7,15),(oR 31 (.bld [.s [],.i .i64 0,.i .i64 0,.s []] [(0,1,(.t 30))]),15),(oR 32 (.callp 22 [(.t 27),(.k (.i .i64 3)),(.t 29),(.t 31)]),1),(oL 33 2 5,127),(oM 34 7,255),(oM 35 6,511),(oR 36 (.callp 60 [(.t 33),(.t 34),(.t 35)]),1),(oR 37 (.call 20 [(.t 36)]),1),(oL 38 2 5,4095),(oM 39 7,8191),(oR 40 (.bld [.s [],.i .i64 0,.i .i64 0,.s []] [(0,1,(.t 39))]),8191),(oM 41 6,32767),(oR 42 (.bld [.s [],.i .i64 0,.i .i64 0,.s []] [(0,1,(.t 41))]),32767),(oR 43 (.callp 22 [(.t 38),(.k (.i .i64 3)),(.t 40),(.t 42)]),1),(oM 2 26,0),(oR 44 (.bsl 2 [.nils,.nils] 3 [(0,(.t 32)),(1,(.t 37)),(2,(.t 43))]),262145),(oM 3 44,0)])
 .ret) .skip))))
 (.reg [oR 45 (.bin .add (.t 12) (.k (.i .i64 1))),oM 12 45])))))))
 (oZ [oR 2 (.mv (.k (.i .i64 0))),oR 3 (.mv (.k .nils))]
 .ret))⟩
noncomputable def g59 : Go.Vse.Fn := ⟨49, [.t 4,.t 5,.t 6], oZ [oR 2 (.box (.t 0)),oR 3 (.box (.t 1)),oR 4 (.mv (.k (.s []))),oR 5 (.mv (.k (.s []))),oR 6 (.mv (.k (.b false)))]
 (oZ [oL 12 2 2,oR 13 (.callp 55 [(.t 12)]),oR 14 (.mkf 94 [] [(.t 3)]),oR 15 (.call 93 [(.t 13),(.t 14)]),oM 7 15]
 (.seq (oZ [oM 16 7,oR 17 (.len (.t 16)),oR 18 (.mv (.k (.i .i64 0)))]
 (.blk 0 (.loop (oZ [oR 19 (.bin .lss (.t 18) (.t 17))]
 (.seq (.cond (.t 19) .skip (.exit 0))
 (.seq (.blk 1 (oZ [oM 20 18,oI 21 1 16 18,oK 22 1 21,oM 8 20,oM 9 22]
 (oZ [oM 23 7,oM 24 8,oR 25 (.bin .add (.t 24) (.k (.i .i64 1))),oR 26 (.slc 1 (.t 23) (some (.t 25)) none none),oR 27 (.len (.t 26)),oR 28 (.mv (.k (.i .i64 0)))]
 (.blk 2 (.loop (oZ [oR 29 (.bin .lss (.t 28) (.t 27))]
 (.seq (.cond (.t 29) .skip (.exit 2))
 (.seq (.blk 3 (oZ [oI 30 1 26 28,oK 31 1 30,oM 11 31]
 (oD [oL 32 2 2,oM 33 9,oR 34 (.bld [.s [],.i .i64 0,.i .i64 0,.s []] [(0,1,(.t 33))]),oM 35 11,oR 36 (.bld [.s [],.i .i64 0,.i .i64 0,.s []] [(0,1,(.t 35))]),oR 37 (.callp 95 [(.t 32),(.k (.i .i64 3)),(.t 34),(.t 36)]),oR 38 (.un .not (.t 37)),oM 39 38,oG 40 39 (.ld true 2 (.t 2)),oG 41 39 (.mv (.t 9)),oG 42 39 (.mv (.t 11)),oG 43 39 (.callp 96 [(.t 40),(.t 41),(.t 42)]),oR 44 (.pick (.t 39) (.t 43) (.k (.b false)))] 44 (oZ [oM 45 9,oM 46 11,oM 4 45,oM 5 46,oR 6 (.mv (.k (.b true)))]
 .ret) .skip)))
 (.reg [oR 47 (.bin .add (.t 28) (.k (.i .i64 1))),oM 28 47])))))))))
 (.reg [oR 48 (.bin .add (.t 18) (.k (.i .i64 1))),oM 18 48])))))))
 (oZ [oR 4 (.mv (.k (.s []))),oR 5 (.mv (.k (.s []))),oR 6 (.mv (.k (.b false)))]
 .ret)))⟩
noncomputable def g60 : Go.Vse.Fn := ⟨10, [.cell 6 true 2], oZ [oR 3 (.box (.t 0)),oR 4 (.box (.t 1)),oR 5 (.box (.t 2)),oR 6 (.new [.nils,.nils])]
 (oZ [oL 7 2 3,oR 8 (.mkf 97 [] [(.t 4),(.t 5)]),oR 9 (.call 40 [(.t 7),(.t 8)]),oS 2 6 9]
 .ret)⟩
noncomputable def g61 : Go.Vse.Fn := ⟨11, [], oZ [oR 2 (.box (.t 0))]
 (oD [oF 3 0 2,oK 4 1 3,oR 5 (.bin .eql (.t 4) (.k (.s [])))] 5 (.reg [oK 6 1 1,oF 7 1 2,oL 8 3 7,oR 9 (.bsf 3 [.i .i64 0,.i .i64 0,.s []] 1 [(0,(.t 8))]),oR 10 (.app 3 32 (.t 6) (.t 9)),oS 1 1 10]) .skip)⟩
noncomputable def g62 : Go.Vse.Fn := ⟨14, [], oZ [oM 5 0,oR 6 (.len (.t 5)),oM 4 6]
 (.reg [oM 7 0,oM 8 4,oM 9 4,oR 10 (.cvi .u64 (.t 9)),oR 11 (.call 99 [(.t 10)]),oM 12 1,oR 13 (.call 98 [(.t 7),(.k (.i .i64 0)),(.t 8),(.t 11),(.t 12)])])⟩
noncomputable def g63 : Go.Vse.Fn := ⟨22, [.t 4], oZ [oR 2 (.box (.t 0)),oR 3 (.box (.t 1)),oR 4 (.mv (.k (.i .i64 0)))]
 (.seq (.dreg [(oF 5 0 2,0),(oK 6 1 5,0),(oF 7 0 3,3),(oK 8 1 7,3),(oR 9 (.callp 101 [(.t 6),(.t 8)]),0),(oF 10 1 2,31),(oK 11 1 10,31),(oF 12 1 3,127),(oK 13 1 12,127),(oR 14 (.callp 102 [(.t 11),(.t 13)]),0),(oF 15 2 2,1023),(oK 16 1 15,1023),(oF 17 2 3,4095),(oK 18 1 17,4095),(oR 19 (.callp 103 [(.t 16),(.t 18)]),0),(oR 20 (.bsl 1 [.i .i64 0] 3 [(0,(.t 9)),(1,(.t 14)),(2,(.t 19))]),0),(oR 21 (.callp 100 [(.t 20)]),0),(oM 4 21,0)])
 .ret)⟩
noncomputable def g64 : Go.Vse.Fn := ⟨66, [.t 4], oZ [oR 4 (.mv (.k .nils))]
 (.seq (oD [oM 8 0,oR 9 (.len (.t 8)),oR 10 (.bin .lss (.t 9) (.k (.i .i64 2)))] 10 (oZ [oM 11 0,oM 4 11]
 .ret) .skip)
 (.seq (oZ [oR 5 (.mv (.k (.i .i64 1)))]
 (.blk 0 (.loop (.seq (oD [oM 12 5,oM 13 0,oR 14 (.len (.t 13)),oR 15 (.bin .lss (.t 12) (.t 14))] 15 .skip (.exit 0))
 (.seq (.blk 1 (.seq (.dreg [(oM 18 1,0),(oM 19 0,1),(oM 20 5,3),(oI 21 3 19 20,1),(oL 22 3 21,1),(oM 23 0,31),(oM 24 5,63),(oR 25 (.bin .sub (.t 24) (.k (.i .i64 1))),63),(oI 26 3 23 25,31),(oL 27 3 26,31),(oR 28 (.callv (.t 18) [(.t 22),(.t 27)]),0)])
 (.cond (.t 28) (oZ [oM 29 0,oM 30 5,oR 31 (.slc 3 (.t 29) (some (.t 30)) none none),oM 6 31]
 (.seq (oZ [oR 7 (.mv (.k (.i .i64 1)))]
 (.blk 2 (.loop (.seq (oD [oM 32 7,oM 33 6,oR 34 (.len (.t 33)),oR 35 (.bin .lss (.t 32) (.t 34))] 35 .skip (.exit 2))
 (.seq (.blk 3 (.seq (.dreg [(oM 38 1,0),(oM 39 6,1),(oM 40 7,3),(oI 41 3 39 40,1),(oL 42 3 41,1),(oM 43 6,31),(oM 44 7,63),(oR 45 (.bin .sub (.t 44) (.k (.i .i64 1))),63),(oI 46 3 43 45,31),(oL 47 3 46,31),(oR 48 (.callv (.t 38) [(.t 42),(.t 47)]),0),(oR 49 (.un .not (.t 48)),0)])
 (.cond (.t 49) (oZ [oM 50 0,oM 51 5,oM 52 6,oM 53 7,oI 54 3 52 53,oL 55 3 54,oI 56 3 50 51,oS 3 56 55]
 (.reg [oM 57 5,oR 58 (.bin .add (.t 57) (.k (.i .i64 1))),oM 5 58])) .skip)))
 (.reg [oM 36 7,oR 37 (.bin .add (.t 36) (.k (.i .i64 1))),oM 7 37]))))))
 (oZ [oM 59 0,oM 60 5,oR 61 (.slc 3 (.t 59) (some (.t 60)) none none),oN (.clr 3 [.i .i64 0,.i .i64 0,.s []] (.t 61))]
 (oZ [oM 62 0,oM 63 5,oR 64 (.slc 3 (.t 62) none (some (.t 63)) none),oM 4 64]
 .ret)))) .skip)))
 (.reg [oM 16 5,oR 17 (.bin .add (.t 16) (.k (.i .i64 1))),oM 5 17]))))))
 (oZ [oM 65 0,oM 4 65]
 .ret)))⟩
noncomputable def g66 : Go.Vse.Fn := ⟨14, [.t 2], oZ [oR 2 (.mv (.k .nils))]
 (.seq (oD [oM 3 0,oR 4 (.bin .lss (.t 3) (.k (.i .i64 0)))] 4 (oZ [oM 5 0,oR 6 (.bin .add (.t 5) (.k (.i .i64 1))),oR 7 (.un .neg (.t 6)),oR 8 (.cvi .u64 (.t 7)),oR 9 (.bin .add (.t 8) (.k (.i .u64 1))),oR 10 (.callp 33 [(.t 9)]),oM 2 10]
 .ret) .skip)
 (oZ [oM 11 0,oR 12 (.cvi .u64 (.t 11)),oR 13 (.callp 33 [(.t 12)]),oM 2 13]
 .ret))⟩
noncomputable def g67 : Go.Vse.Fn := ⟨76, [.t 4], oZ [oR 4 (.mv (.k .nils))]
 (oZ [oM 9 0,oR 10 (.call 69 [(.t 9)]),oM 11 1,oR 12 (.call 69 [(.t 11)]),oM 5 10,oM 6 12]
 (.seq (oD [oM 13 5,oR 14 (.len (.t 13)),oR 15 (.bin .eql (.t 14) (.k (.i .i64 0)))] 15 (oZ [oM 16 6,oM 4 16]
 .ret) .skip)
 (.seq (oD [oM 17 6,oR 18 (.len (.t 17)),oR 19 (.bin .eql (.t 18) (.k (.i .i64 0)))] 19 (oZ [oM 20 5,oM 4 20]
 .ret) .skip)
 (oZ [oR 7 (.mv (.k (.i .i64 0)))]
 (.seq (.blk 0 (.loop (.seq (oD [oM 21 5,oR 22 (.ia 1 (.t 21) (.k (.i .i64 0))),oK 23 1 22,oR 24 (.bin .and (.t 23) (.k (.i .u32 1))),oR 25 (.bin .eql (.t 24) (.k (.i .u32 0))),oM 26 25,oG 27 26 (.mv (.t 6)),oG 28 26 (.ia 1 (.t 27) (.k (.i .i64 0))),oG 29 26 (.ld false 1 (.t 28)),oG 30 26 (.bin .and (.t 29) (.k (.i .u32 1))),oG 31 26 (.bin .eql (.t 30) (.k (.i .u32 0))),oR 32 (.pick (.t 26) (.t 31) (.k (.b false)))] 32 .skip (.exit 0))
 (.blk 1 (oZ [oM 33 5,oR 34 (.callp 104 [(.t 33)]),oM 35 6,oR 36 (.callp 104 [(.t 35)]),oM 5 34,oM 6 36]
 (.reg [oM 37 7,oR 38 (.bin .add (.t 37) (.k (.i .i64 1))),oM 7 38]))))))
 (.seq (.blk 2 (.loop (.seq (oD [oM 39 6,oR 40 (.len (.t 39)),oR 41 (.bin .gtr (.t 40) (.k (.i .i64 0)))] 41 .skip (.exit 2))
 (.blk 3 (.seq (.blk 4 (.loop (.seq (oD [oM 42 5,oR 43 (.ia 1 (.t 42) (.k (.i .i64 0))),oK 44 1 43,oR 45 (.bin .and (.t 44) (.k (.i .u32 1))),oR 46 (.bin .eql (.t 45) (.k (.i .u32 0)))] 46 .skip (.exit 4))
 (.blk 5 (.reg [oM 47 5,oR 48 (.callp 104 [(.t 47)]),oM 5 48])))))
 (.seq (.blk 6 (.loop (.seq (oD [oM 49 6,oR 50 (.ia 1 (.t 49) (.k (.i .i64 0))),oK 51 1 50,oR 52 (.bin .and (.t 51) (.k (.i .u32 1))),oR 53 (.bin .eql (.t 52) (.k (.i .u32 0)))] 53 .skip (.exit 6))
 (.blk 7 (.reg [oM 54 6,oR 55 (.callp 104 [(.t 54)]),oM 6 55])))))
 (.seq (oD [oM 56 5,oM 57 6,oR 58 (.callp 105 [(.t 56),(.t 57)]),oR 59 (.bin .gtr (.t 58) (.k (.i .i64 0)))] 59 (.reg [oM 60 6,oM 61 5,oM 5 60,oM 6 61]) .skip)
 (.reg [oM 63 6,oM 64 5,oR 65 (.callp 106 [(.t 63),(.t 64)]),oM 62 65,oR 66 (.ext (.t 62) 0),oR 67 (.ext (.t 62) 1),oM 6 66]))))))))
 (.seq (oZ [oR 8 (.mv (.k (.i .i64 0)))]
 (.blk 8 (.loop (.seq (oD [oM 68 8,oM 69 7,oR 70 (.bin .lss (.t 68) (.t 69))] 70 .skip (.exit 8))
 (.seq (.blk 9 (.reg [oM 73 5,oR 74 (.callp 107 [(.t 73),(.k (.i .u32 0))]),oM 5 74]))
 (.reg [oM 71 8,oR 72 (.bin .add (.t 71) (.k (.i .i64 1))),oM 8 72]))))))
 (oZ [oM 75 5,oM 4 75]
 .ret))))))))⟩
noncomputable def g68 : Go.Vse.Fn := ⟨70, [.t 4,.t 5,.t 6], oZ [oR 4 (.mv (.k .nils)),oR 5 (.mv (.k .nils)),oR 6 (.mv (.k (.b false)))]
 (oZ [oM 12 0,oR 13 (.call 69 [(.t 12)]),oM 14 1,oR 15 (.call 69 [(.t 14)]),oM 7 13,oM 8 15]
 (.seq (oD [oM 16 8,oR 17 (.len (.t 16)),oR 18 (.bin .eql (.t 17) (.k (.i .i64 0)))] 18 (oZ [oR 4 (.mv (.k .nils)),oR 5 (.mv (.k .nils)),oR 6 (.mv (.k (.b false)))]
 .ret) .skip)
 (oZ [oM 19 7,oR 20 (.len (.t 19)),oR 21 (.mks 1 4 [.i .u32 0] (.t 20) (.t 20)),oM 9 21]
 (oZ [oR 10 (.mv (.k .nils))]
 (.seq (oZ [oM 22 7,oR 23 (.len (.t 22)),oR 24 (.bin .mul (.k (.i .i64 32)) (.t 23)),oR 25 (.bin .sub (.t 24) (.k (.i .i64 1))),oM 11 25]
 (.blk 0 (.loop (.seq (oD [oM 26 11,oR 27 (.bin .geq (.t 26) (.k (.i .i64 0)))] 27 .skip (.exit 0))
 (.seq (.blk 1 (oZ [oM 30 10,oM 31 7,oM 32 11,oR 33 (.bin .quo (.t 32) (.k (.i .i64 32))),oI 34 1 31 33,oK 35 1 34,oM 36 11,oR 37 (.bin .rem (.t 36) (.k (.i .i64 32))),oR 38 (.cvi .u64 (.t 37)),oR 39 (.bin .shr (.t 35) (.t 38)),oR 40 (.bin .and (.t 39) (.k (.i .u32 1))),oR 41 (.callp 107 [(.t 30),(.t 40)]),oM 10 41]
 (oD [oM 42 10,oM 43 8,oR 44 (.callp 105 [(.t 42),(.t 43)]),oR 45 (.bin .geq (.t 44) (.k (.i .i64 0)))] 45 (oZ [oM 47 10,oM 48 8,oR 49 (.callp 106 [(.t 47),(.t 48)]),oM 46 49,oR 50 (.ext (.t 46) 0),oR 51 (.ext (.t 46) 1),oM 10 50]
 (.reg [oM 52 9,oM 53 11,oR 54 (.bin .quo (.t 53) (.k (.i .i64 32))),oM 55 9,oM 56 11,oR 57 (.bin .quo (.t 56) (.k (.i .i64 32))),oI 58 1 55 57,oK 59 1 58,oM 60 11,oR 61 (.bin .rem (.t 60) (.k (.i .i64 32))),oR 62 (.cvi .u64 (.t 61)),oR 63 (.bin .shl (.k (.i .u32 1)) (.t 62)),oR 64 (.bin .or (.t 59) (.t 63)),oI 65 1 52 54,oS 1 65 64])) .skip)))
 (.reg [oM 28 11,oR 29 (.bin .sub (.t 28) (.k (.i .i64 1))),oM 11 29]))))))
 (oZ [oM 66 9,oR 67 (.call 69 [(.t 66)]),oM 68 10,oR 69 (.call 69 [(.t 68)]),oM 4 67,oM 5 69,oR 6 (.mv (.k (.b true)))]
 .ret))))))⟩
noncomputable def g69 : Go.Vse.Fn := ⟨23, [.t 2], oZ [oR 2 (.mv (.k .nils))]
 (oZ [oM 4 0,oR 5 (.len (.t 4)),oM 3 5]
 (.seq (.blk 0 (.loop (.seq (oD [oM 6 3,oR 7 (.bin .gtr (.t 6) (.k (.i .i64 0))),oM 8 7,oG 9 8 (.mv (.t 0)),oG 10 8 (.mv (.t 3)),oG 11 8 (.bin .sub (.t 10) (.k (.i .i64 1))),oG 12 8 (.ia 1 (.t 9) (.t 11)),oG 13 8 (.ld false 1 (.t 12)),oG 14 8 (.bin .eql (.t 13) (.k (.i .u32 0))),oR 15 (.pick (.t 8) (.t 14) (.k (.b false)))] 15 .skip (.exit 0))
 (.blk 1 (.reg [oM 16 3,oR 17 (.bin .sub (.t 16) (.k (.i .i64 1))),oM 3 17])))))
 (oZ [oR 18 (.bsl 1 [.i .u32 0] 0 []),oM 19 0,oM 20 3,oR 21 (.slc 1 (.t 19) none (some (.t 20)) none),oR 22 (.app 1 4 (.t 18) (.t 21)),oM 2 22]
 .ret)))⟩
noncomputable def g70 : Go.Vse.Fn := ⟨70, [.t 2], oZ [oR 1 (.box (.t 0)),oR 2 (.mv (.k (.b false)))]
 (.seq (oD [oF 6 0 1,oK 7 1 6,oR 8 (.callp 108 [(.t 7)]),oR 9 (.un .not (.t 8)),oM 10 9,oH 11 10 (.fa 2 (.t 1)),oH 12 10 (.ld false 1 (.t 11)),oH 13 10 (.len (.t 12)),oH 14 10 (.bin .lss (.t 13) (.k (.i .i64 1))),oR 15 (.pick (.t 10) (.k (.b true)) (.t 14)),oM 16 15,oH 17 16 (.fa 2 (.t 1)),oH 18 16 (.ld false 1 (.t 17)),oH 19 16 (.len (.t 18)),oH 20 16 (.bin .gtr (.t 19) (.k (.i .i64 6))),oR 21 (.pick (.t 16) (.k (.b true)) (.t 20))] 21 (oZ [oR 2 (.mv (.k (.b false)))]
 .ret) .skip)
 (.seq (oZ [oR 3 (.mv (.k (.i .i64 0)))]
 (.blk 0 (.loop (.seq (oD [oM 22 3,oF 23 2 1,oK 24 1 23,oR 25 (.len (.t 24)),oR 26 (.bin .lss (.t 22) (.t 25))] 26 .skip (.exit 0))
 (.seq (.blk 1 (oZ [oF 29 2 1,oK 30 1 29,oM 31 3,oI 32 3 30 31,oL 33 3 32,oR 4 (.new [.s [],.i .i64 0,.b false]),oS 3 4 33]
 (.seq (oD [oF 34 0 4,oK 35 1 34,oR 36 (.callp 108 [(.t 35)]),oR 37 (.un .not (.t 36)),oM 38 37,oH 39 38 (.fa 1 (.t 4)),oH 40 38 (.ld false 1 (.t 39)),oH 41 38 (.bin .neq (.t 40) (.k (.i .i64 1))),oH 42 38 (.mv (.t 41)),oG 43 42 (.fa 1 (.t 4)),oG 44 42 (.ld false 1 (.t 43)),oG 45 42 (.bin .neq (.t 44) (.k (.i .i64 2))),oH 46 38 (.pick (.t 42) (.t 45) (.k (.b false))),oR 47 (.pick (.t 38) (.k (.b true)) (.t 46)),oM 48 47,oH 49 48 (.fa 1 (.t 1)),oH 50 48 (.ld false 1 (.t 49)),oH 51 48 (.mv (.t 50)),oG 52 51 (.fa 2 (.t 4)),oG 53 51 (.ld false 1 (.t 52)),oH 54 48 (.pick (.t 51) (.t 53) (.k (.b false))),oR 55 (.pick (.t 48) (.k (.b true)) (.t 54))] 55 (oZ [oR 2 (.mv (.k (.b false)))]
 .ret) .skip)
 (oZ [oR 5 (.mv (.k (.i .i64 0)))]
 (.blk 2 (.loop (.seq (oD [oM 56 5,oM 57 3,oR 58 (.bin .lss (.t 56) (.t 57))] 58 .skip (.exit 2))
 (.seq (.blk 3 (.seq (.dreg [(oF 61 2 1,0),(oK 62 1 61,0),(oM 63 5,3),(oI 64 3 62 63,0),(oF 65 0 64,0),(oK 66 1 65,0),(oF 67 0 4,63),(oK 68 1 67,63),(oR 69 (.bin .eql (.t 66) (.t 68)),0)])
 (.cond (.t 69) (oZ [oR 2 (.mv (.k (.b false)))]
 .ret) .skip)))
 (.reg [oM 59 5,oR 60 (.bin .add (.t 59) (.k (.i .i64 1))),oM 5 60])))))))))
 (.reg [oM 27 3,oR 28 (.bin .add (.t 27) (.k (.i .i64 1))),oM 3 28]))))))
 (oZ [oR 2 (.mv (.k (.b true)))]
 .ret)))⟩
noncomputable def g71 : Go.Vse.Fn := ⟨92, [.t 2], oZ [oR 1 (.box (.t 0)),oR 2 (.mv (.k .nils))]
 (oZ [oR 3 (.mv (.k .nils))]
 (.seq (oD [oF 11 0 1,oF 12 1 11,oK 13 1 12] 13 (oZ [oR 2 (.mv (.k .nils))]
 .ret) .skip)
 (oZ [oF 14 0 1,oL 15 3 14,oR 16 (.callp 109 [(.t 15)]),oM 4 16]
 (.seq (oZ [oR 5 (.mv (.k (.i .i64 0)))]
 (.blk 0 (.loop (.seq (oD [oM 17 5,oF 18 3 1,oK 19 1 18,oR 20 (.len (.t 19)),oR 21 (.bin .lss (.t 17) (.t 20))] 21 .skip (.exit 0))
 (.seq (.blk 1 (.seq (oD [oM 24 4,oR 25 (.un .not (.t 24))] 25 (oZ [oM 26 3,oM 27 5,oR 28 (.bsl 1 [.i .i64 0] 1 [(0,(.t 27))]),oR 29 (.bsf 1 [.nils] 1 [(0,(.t 28))]),oR 30 (.app 1 24 (.t 26) (.t 29)),oM 3 30]
 (.exit 1)) .skip)
 (.seq (.dreg [(oF 31 0 1,0),(oL 32 3 31,0),(oF 33 3 1,3),(oK 34 1 33,3),(oM 35 5,15),(oI 36 4 34 35,3),(oF 37 0 36,3),(oK 38 1 37,3),(oR 39 (.callp 110 [(.t 32),(.t 38)]),0),(oM 6 39,0)])
 (oZ [oR 7 (.mv (.k (.i .i64 0))),oR 8 (.mv (.k (.b false)))]
 (.seq (.blk 2 (.loop (.seq (oD [oM 40 7,oM 41 3,oR 42 (.len (.t 41)),oR 43 (.bin .lss (.t 40) (.t 42))] 43 .skip (.exit 2))
 (.blk 3 (.seq (.dreg [(oF 44 0 1,0),(oL 45 3 44,0),(oF 46 3 1,3),(oK 47 1 46,3),(oM 48 3,15),(oM 49 7,31),(oI 50 1 48 49,15),(oK 51 1 50,15),(oR 52 (.ia 1 (.t 51) (.k (.i .i64 0))),15),(oK 53 1 52,15),(oI 54 4 47 53,3),(oF 55 0 54,3),(oK 56 1 55,3),(oR 57 (.callp 110 [(.t 45),(.t 56)]),0),(oM 58 6,16383),(oR 59 (.callp 25 [(.t 57),(.t 58)]),0),(oM 9 59,0)])
 (oZ [oM 60 9,oR 61 (.bin .eql (.t 60) (.k (.i .i64 0))),oM 8 61]
 (.seq (oD [oM 62 9,oR 63 (.bin .geq (.t 62) (.k (.i .i64 0)))] 63 (.exit 2) .skip)
 (.reg [oM 64 7,oR 65 (.bin .add (.t 64) (.k (.i .i64 1))),oM 7 65]))))))))
 (.seq (oD [oM 66 8] 66 (oZ [oM 67 3,oM 68 7,oM 69 3,oM 70 7,oI 71 1 69 70,oK 72 1 71,oM 73 5,oR 74 (.bsf 1 [.i .i64 0] 1 [(0,(.t 73))]),oR 75 (.app 1 8 (.t 72) (.t 74)),oI 76 1 67 68,oS 1 76 75]
 (.exit 1)) .skip)
 (oZ [oR 77 (.bsl 1 [.nils] 0 []),oM 78 3,oM 79 7,oR 80 (.slc 1 (.t 78) none (some (.t 79)) none),oR 81 (.app 1 24 (.t 77) (.t 80)),oM 10 81]
 (.dreg [(oM 82 10,0),(oM 83 5,1),(oM 87 3,3),(oM 88 7,7),(oR 89 (.slc 1 (.t 87) (some (.t 88)) none none),3),(oR 84 (.bsl 1 [.i .i64 0] 1 [(0,(.t 83))]),29),(oR 85 (.bsf 1 [.nils] 1 [(0,(.t 84))]),29),(oR 86 (.app 1 24 (.t 82) (.t 85)),28),(oR 90 (.app 1 24 (.t 86) (.t 89)),0),(oM 3 90,0)]))))))))
 (.reg [oM 22 5,oR 23 (.bin .add (.t 22) (.k (.i .i64 1))),oM 5 23]))))))
 (oZ [oM 91 3,oM 2 91]
 .ret)))))⟩
noncomputable def g72 : Go.Vse.Fn := ⟨12, [.t 2], oZ [oR 1 (.box (.t 0)),oR 2 (.mv (.k (.b false)))]
 (oZ [oL 3 3 1,oR 4 (.callp 111 [(.t 3)]),oR 5 (.bin .geq (.t 4) (.k (.i .i64 0))),oM 6 5,oG 7 6 (.ld true 3 (.t 1)),oG 8 6 (.callp 112 [(.t 7)]),oG 9 6 (.callp 111 [(.t 8)]),oG 10 6 (.bin .geq (.t 9) (.k (.i .i64 0))),oR 11 (.pick (.t 6) (.t 10) (.k (.b false))),oM 2 11]
 .ret)⟩
noncomputable def g73 : Go.Vse.Fn := ⟨26, [.cell 4 true 3], oZ [oR 2 (.box (.t 0)),oR 4 (.new [.b false,.nils,.nils])]
 (oZ [oR 7 (.callp 16 [(.k (.i .i64 0))]),oR 5 (.new [.b false,.nils,.nils]),oS 3 5 7]
 (.seq (oZ [oR 6 (.mv (.k (.i .i64 0)))]
 (.blk 0 (.loop (.seq (oD [oM 8 6,oM 9 1,oR 10 (.len (.t 9)),oR 11 (.bin .lss (.t 8) (.t 10))] 11 .skip (.exit 0))
 (.seq (.blk 1 (.dreg [(oL 14 3 5,0),(oF 15 3 2,1),(oK 16 1 15,1),(oM 17 1,7),(oM 18 6,15),(oI 19 1 17 18,7),(oK 20 1 19,7),(oI 21 4 16 20,1),(oF 22 1 21,1),(oL 23 3 22,1),(oR 24 (.callp 113 [(.t 14),(.t 23)]),0),(oS 3 5 24,0)]))
 (.reg [oM 12 6,oR 13 (.bin .add (.t 12) (.k (.i .i64 1))),oM 6 13]))))))
 (oZ [oL 25 3 5,oS 3 4 25]
 .ret)))⟩
noncomputable def g74 : Go.Vse.Fn := ⟨41, [.t 2], oZ [oR 1 (.box (.t 0)),oR 2 (.mv (.k (.b false)))]
 (.seq (oZ [oF 4 0 1,oK 5 1 4]
 (.blk 0 (oD [oR 7 (.bin .eql (.t 5) (.k (.i .i64 1))),oM 6 7] 6 (oZ [oF 8 2 1,oK 9 1 8,oR 10 (.bin .eql (.t 9) (.k (.s []))),oM 2 10]
 .ret) (oD [oR 12 (.bin .eql (.t 5) (.k (.i .i64 2))),oM 11 12] 11 (.seq (oZ [oR 3 (.mv (.k (.i .i64 0)))]
 (.blk 1 (.loop (.seq (oD [oM 13 3,oF 14 2 1,oK 15 1 14,oR 16 (.lns (.t 15)),oR 17 (.bin .lss (.t 13) (.t 16))] 17 .skip (.exit 1))
 (.seq (.blk 2 (oD [oF 20 2 1,oK 21 1 20,oM 22 3,oR 23 (.ixs (.t 21) (.t 22)),oR 24 (.bin .lss (.t 23) (.k (.i .u8 32))),oM 25 24,oH 26 25 (.fa 2 (.t 1)),oH 27 25 (.ld false 1 (.t 26)),oH 28 25 (.mv (.t 3)),oH 29 25 (.ixs (.t 27) (.t 28)),oH 30 25 (.bin .gtr (.t 29) (.k (.i .u8 126))),oR 31 (.pick (.t 25) (.k (.b true)) (.t 30))] 31 (oZ [oR 2 (.mv (.k (.b false)))]
 .ret) .skip))
 (.reg [oM 18 3,oR 19 (.bin .add (.t 18) (.k (.i .i64 1))),oM 3 19]))))))
 (oZ [oF 32 1 1,oK 33 1 32,oR 34 (.bin .eql (.t 33) (.k (.i .i64 0))),oM 35 34,oG 36 35 (.fa 2 (.t 1)),oG 37 35 (.ld false 1 (.t 36)),oG 38 35 (.lns (.t 37)),oG 39 35 (.bin .leq (.t 38) (.k (.i .i64 64))),oR 40 (.pick (.t 35) (.t 39) (.k (.b false))),oM 2 40]
 .ret)) .skip))))
 (oZ [oR 2 (.mv (.k (.b false)))]
 .ret))⟩
noncomputable def g75 : Go.Vse.Fn := ⟨28, [.t 2], oZ [oR 2 (.mv (.k (.i .i64 0)))]
 (oZ [oM 6 0,oR 7 (.call 69 [(.t 6)]),oM 3 7]
 (.seq (oD [oM 8 3,oR 9 (.len (.t 8)),oR 10 (.bin .eql (.t 9) (.k (.i .i64 0)))] 10 (oZ [oR 2 (.mv (.k (.i .i64 0)))]
 .ret) .skip)
 (oZ [oM 11 3,oR 12 (.len (.t 11)),oR 13 (.bin .sub (.t 12) (.k (.i .i64 1))),oR 14 (.bin .mul (.k (.i .i64 32)) (.t 13)),oM 4 14]
 (.seq (oZ [oM 15 3,oM 16 3,oR 17 (.len (.t 16)),oR 18 (.bin .sub (.t 17) (.k (.i .i64 1))),oI 19 1 15 18,oK 20 1 19,oM 5 20]
 (.blk 0 (.loop (.seq (oD [oM 21 5,oR 22 (.bin .gtr (.t 21) (.k (.i .u32 0)))] 22 .skip (.exit 0))
 (.seq (.blk 1 (.reg [oM 25 4,oR 26 (.bin .add (.t 25) (.k (.i .i64 1))),oM 4 26]))
 (.reg [oM 23 5,oR 24 (.bin .shr (.t 23) (.k (.i .u64 1))),oM 5 24]))))))
 (oZ [oM 27 4,oM 2 27]
 .ret)))))⟩
noncomputable def g76 : Go.Vse.Fn := ⟨10, [.cell 2 true 3], oZ [oR 1 (.box (.t 0)),oR 2 (.new [.b false,.nils,.nils])]
 (oZ [oF 3 0 1,oK 4 1 3,oF 5 1 1,oK 6 1 5,oF 7 2 1,oK 8 1 7,oR 9 (.callp 32 [(.t 4),(.t 6),(.t 8)]),oS 3 2 9]
 .ret)⟩
noncomputable def g77 : Go.Vse.Fn := ⟨7, [.t 2], oZ [oR 1 (.box (.t 0)),oR 2 (.mv (.k (.b false)))]
 (.seq (.dreg [(oL 3 3 1,0),(oR 4 (.callp 16 [(.k (.i .i64 1))]),1),(oR 5 (.callp 114 [(.t 3),(.t 4)]),0),(oR 6 (.bin .eql (.t 5) (.k (.i .i64 0))),0),(oM 2 6,0)])
 .ret)⟩
noncomputable def g78 : Go.Vse.Fn := ⟨30, [.t 6], oZ [oR 4 (.box (.t 1)),oR 5 (.box (.t 2)),oR 6 (.mv (.k (.b false)))]
 (oZ [oL 8 3 4,oL 9 3 5,oR 10 (.callp 46 [(.t 8),(.t 9)]),oM 7 10]
 (.seq (oZ [oM 11 0]
 (.blk 0 (oD [oR 13 (.bin .eql (.t 11) (.k (.i .i64 1))),oM 12 13] 12 (oZ [oM 14 7,oR 15 (.bin .eql (.t 14) (.k (.i .i64 0))),oM 6 15]
 .ret) (oD [oR 17 (.bin .eql (.t 11) (.k (.i .i64 2))),oM 16 17] 16 (oZ [oM 18 7,oR 19 (.bin .neq (.t 18) (.k (.i .i64 0))),oM 6 19]
 .ret) (oD [oR 21 (.bin .eql (.t 11) (.k (.i .i64 3))),oM 20 21] 20 (oZ [oM 22 7,oR 23 (.bin .lss (.t 22) (.k (.i .i64 0))),oM 6 23]
 .ret) .skip)))))
 (oZ [oM 24 0,oR 25 (.bin .eql (.t 24) (.k (.i .i64 4))),oM 26 25,oG 27 26 (.mv (.t 7)),oG 28 26 (.bin .leq (.t 27) (.k (.i .i64 0))),oR 29 (.pick (.t 26) (.t 28) (.k (.b false))),oM 6 29]
 .ret)))⟩
noncomputable def g79 : Go.Vse.Fn := ⟨38, [.cell 6 true 2,.t 7], oZ [oR 3 (.box (.t 0)),oR 4 (.box (.t 1)),oR 5 (.box (.t 2)),oR 6 (.new [.nils,.nils]),oR 7 (.mv (.k (.b false)))]
 (oZ [oL 11 2 3,oL 12 4 4,oR 13 (.callp 42 [(.t 11),(.t 12)]),oM 10 13,oR 14 (.ext (.t 10) 0),oR 15 (.ext (.t 10) 1),oR 8 (.new [.i .i64 0,.i .i64 0,.s []]),oS 3 8 14,oM 9 15]
 (.seq (oD [oM 16 9] 16 (.seq (.dreg [(oL 17 2 3,0),(oL 18 3 5,1),(oL 19 3 8,3),(oR 20 (.callp 46 [(.t 18),(.t 19)]),1),(oR 21 (.bin .eql (.t 20) (.k (.i .i64 0))),1),(oS 2 6 17,16),(oM 7 21,0)])
 .ret) .skip)
 (.seq (.dreg [(oF 23 0 3,0),(oK 24 1 23,0),(oF 26 0 4,3),(oK 27 1 26,3),(oF 31 1 3,15),(oK 32 1 31,15),(oL 34 3 5,63),(oR 22 (.bsl 1 [.s []] 0 []),127),(oR 25 (.app 1 16 (.t 22) (.t 24)),124),(oR 28 (.bsf 1 [.s []] 1 [(0,(.t 27))]),499),(oR 29 (.app 1 16 (.t 25) (.t 28)),112),(oR 30 (.bsl 3 [.i .i64 0,.i .i64 0,.s []] 0 []),2047),(oR 33 (.app 3 32 (.t 30) (.t 32)),64),(oR 35 (.bsf 3 [.i .i64 0,.i .i64 0,.s []] 1 [(0,(.t 34))]),8127),(oR 36 (.app 3 32 (.t 33) (.t 35)),0),(oR 37 (.bld [.nils,.nils] [(0,1,(.t 29)),(1,1,(.t 36))]),0),(oS 2 6 37,0),(oR 7 (.mv (.k (.b true))),0)])
 .ret)))⟩
noncomputable def g80 : Go.Vse.Fn := ⟨17, [.t 2], oZ [oR 2 (.mv (.k (.b false)))]
 (oZ [oM 3 0,oR 4 (.bin .geq (.t 3) (.k (.i .u8 97))),oM 5 4,oG 6 5 (.mv (.t 0)),oG 7 5 (.bin .leq (.t 6) (.k (.i .u8 122))),oR 8 (.pick (.t 5) (.t 7) (.k (.b false))),oM 9 8,oH 10 9 (.mv (.t 0)),oH 11 9 (.bin .geq (.t 10) (.k (.i .u8 65))),oH 12 9 (.mv (.t 11)),oG 13 12 (.mv (.t 0)),oG 14 12 (.bin .leq (.t 13) (.k (.i .u8 90))),oH 15 9 (.pick (.t 12) (.t 14) (.k (.b false))),oR 16 (.pick (.t 9) (.k (.b true)) (.t 15)),oM 2 16]
 .ret)⟩
noncomputable def g81 : Go.Vse.Fn := ⟨9, [.t 2], oZ [oR 2 (.mv (.k (.b false)))]
 (oZ [oM 3 0,oR 4 (.bin .geq (.t 3) (.k (.i .u8 48))),oM 5 4,oG 6 5 (.mv (.t 0)),oG 7 5 (.bin .leq (.t 6) (.k (.i .u8 57))),oR 8 (.pick (.t 5) (.t 7) (.k (.b false))),oM 2 8]
 .ret)⟩
noncomputable def g82 : Go.Vse.Fn := ⟨48, [.t 4], oZ [oR 4 (.mv (.k (.i .i64 0)))]
 (oZ [oM 8 1,oM 5 8]
 (.seq (oD [oM 9 0,oM 10 5,oR 11 (.ixs (.t 9) (.t 10)),oR 12 (.bin .eql (.t 11) (.k (.i .u8 45)))] 12 (.reg [oM 13 5,oR 14 (.bin .add (.t 13) (.k (.i .i64 1))),oM 5 14]) .skip)
 (oZ [oM 15 0,oM 16 5,oR 17 (.callp 115 [(.t 15),(.t 16)]),oM 6 17]
 (.seq (oD [oM 18 6,oM 19 5,oR 20 (.bin .eql (.t 18) (.t 19))] 20 (oZ [oM 21 1,oM 4 21]
 .ret) .skip)
 (.seq (oD [oM 22 6,oM 23 0,oR 24 (.lns (.t 23)),oR 25 (.bin .lss (.t 22) (.t 24)),oM 26 25,oG 27 26 (.mv (.t 0)),oG 28 26 (.mv (.t 6)),oG 29 26 (.ixs (.t 27) (.t 28)),oG 30 26 (.bin .eql (.t 29) (.k (.i .u8 47))),oG 31 26 (.mv (.t 30)),oH 32 31 (.mv (.t 0)),oH 33 31 (.mv (.t 6)),oH 34 31 (.ixs (.t 32) (.t 33)),oH 35 31 (.bin .eql (.t 34) (.k (.i .u8 46))),oG 36 26 (.pick (.t 31) (.k (.b true)) (.t 35)),oR 37 (.pick (.t 26) (.t 36) (.k (.b false)))] 37 (oZ [oM 38 0,oM 39 6,oR 40 (.bin .add (.t 39) (.k (.i .i64 1))),oR 41 (.callp 115 [(.t 38),(.t 40)]),oM 7 41]
 (oD [oM 42 7,oM 43 6,oR 44 (.bin .add (.t 43) (.k (.i .i64 1))),oR 45 (.bin .gtr (.t 42) (.t 44))] 45 (oZ [oM 46 7,oM 4 46]
 .ret) .skip)) .skip)
 (oZ [oM 47 6,oM 4 47]
 .ret))))))⟩
noncomputable def g84 : Go.Vse.Fn := ⟨16, [.t 4], oZ [oR 4 (.mv (.k (.b false)))]
 (.seq (oD [oM 5 0,oM 6 1,oR 7 (.call 48 [(.t 5),(.t 6)]),oR 8 (.un .not (.t 7))] 8 (oZ [oR 4 (.mv (.k (.b false)))]
 .ret) .skip)
 (oZ [oM 9 0,oR 10 (.nck (.t 9)),oF 11 1 10,oK 12 1 11,oR 13 (.bin .add (.t 12) (.k (.i .i64 1))),oR 14 (.nck (.t 9)),oF 15 1 14,oS 1 15 13]
 (oZ [oR 4 (.mv (.k (.b true)))]
 .ret)))⟩
noncomputable def g85 : Go.Vse.Fn := ⟨12, [.t 2], oZ [oR 2 (.mv (.k (.s [])))]
 (oZ [oM 4 0,oR 5 (.call 116 [(.t 4),(.k (.i .i64 1))]),oM 3 5]
 (.seq (oD [oM 6 3,oR 7 (.callp 117 [(.t 6)])] 7 (.reg [oM 8 0,oR 9 (.nck (.t 8)),oF 10 2 9,oN (.st 1 (.t 10) (.k (.b true)))]) .skip)
 (oZ [oM 11 3,oM 2 11]
 .ret)))⟩
noncomputable def g86 : Go.Vse.Fn := ⟨15, [.t 2], oZ [oR 2 (.mv (.k .nils))]
 (oZ [oM 4 0,oR 5 (.call 118 [(.t 4)]),oR 6 (.bsl 2 [.nils,.nils] 1 [(0,(.t 5))]),oM 3 6]
 (.seq (.blk 0 (.loop (.seq (oD [oM 7 0,oR 8 (.call 84 [(.t 7),(.k (.s [111,114]))])] 8 .skip (.exit 0))
 (.blk 1 (.reg [oM 9 3,oM 10 0,oR 11 (.call 118 [(.t 10)]),oR 12 (.bsf 2 [.nils,.nils] 1 [(0,(.t 11))]),oR 13 (.app 2 48 (.t 9) (.t 12)),oM 3 13])))))
 (oZ [oM 14 3,oM 2 14]
 .ret)))⟩
noncomputable def g87 : Go.Vse.Fn := ⟨36, [.cell 2 true 2], oZ [oR 1 (.box (.t 0)),oR 2 (.new [.nils,.nils])]
 (oZ [oF 8 0 1,oK 9 1 8,oR 10 (.call 119 [(.t 9)]),oR 11 (.bld [.nils,.nils] [(0,1,(.t 10))]),oR 3 (.new [.nils,.nils]),oS 2 3 11]
 (.seq (oZ [oF 12 1 1,oK 13 1 12,oR 14 (.len (.t 13)),oR 15 (.mv (.k (.i .i64 0)))]
 (.blk 0 (.loop (oZ [oR 16 (.bin .lss (.t 15) (.t 14))]
 (.seq (.cond (.t 16) .skip (.exit 0))
 (.seq (.blk 1 (oZ [oI 17 2 13 15,oL 18 2 17,oR 5 (.new [.nils,.nils]),oS 2 5 18]
 (.seq (.dreg [(oL 20 2 5,0),(oR 21 (.call 20 [(.t 20)]),0),(oF 22 0 1,3),(oK 23 1 22,3),(oR 24 (.callp 120 [(.t 21),(.t 23)]),0),(oM 19 24,0),(oR 25 (.ext (.t 19) 0),0),(oR 26 (.ext (.t 19) 1),64),(oR 6 (.new [.nils,.nils]),253),(oS 2 6 25,128),(oM 7 26,0)])
 (oD [oM 27 7] 27 (.reg [oF 28 1 3,oK 29 1 28,oL 30 2 6,oR 31 (.bsf 2 [.nils,.nils] 1 [(0,(.t 30))]),oR 32 (.app 2 48 (.t 29) (.t 31)),oF 33 1 3,oS 1 33 32]) .skip))))
 (.reg [oR 34 (.bin .add (.t 15) (.k (.i .i64 1))),oM 15 34])))))))
 (oZ [oL 35 2 3,oS 2 2 35]
 .ret)))⟩
noncomputable def g88 : Go.Vse.Fn := ⟨224, [.t 8], oZ [oR 8 (.mv (.k .nils))]
 (oZ [oM 15 0,oM 16 1,oM 17 2,oR 18 (.slc 2 (.t 15) (some (.t 16)) (some (.t 17)) none)]
 (.seq (oD [oM 19 1,oM 20 2,oR 21 (.bin .eql (.t 19) (.t 20))] 21 (oZ [oM 22 0,oM 23 1,oM 24 3,oR 25 (.call 121 [(.t 22),(.t 23),(.t 24)]),oM 8 25]
 .ret) .skip)
 (.seq (oD [oM 26 2,oM 27 0,oR 28 (.len (.t 27)),oR 29 (.bin .eql (.t 26) (.t 28))] 29 (oZ [oM 30 0,oM 31 1,oR 32 (.slc 2 (.t 30) none (some (.t 31)) none),oM 33 3,oR 34 (.app 2 48 (.t 32) (.t 33)),oM 9 34]
 (.seq (oD [oM 35 9,oR 36 (.len (.t 35)),oM 37 0,oR 38 (.len (.t 37)),oR 39 (.bin .lss (.t 36) (.t 38))] 39 (.reg [oM 40 0,oM 41 9,oR 42 (.len (.t 41)),oR 43 (.slc 2 (.t 40) (some (.t 42)) none none),oN (.clr 2 [.nils,.nils] (.t 43))]) .skip)
 (oZ [oM 44 9,oM 8 44]
 .ret))) .skip)
 (.seq (.dreg [(oM 45 0,0),(oM 46 1,1),(oR 47 (.slc 2 (.t 45) none (some (.t 46)) none),0),(oR 48 (.len (.t 47)),0),(oM 49 3,15),(oR 50 (.len (.t 49)),15),(oR 51 (.bin .add (.t 48) (.t 50)),0),(oM 52 0,127),(oM 53 2,255),(oR 54 (.slc 2 (.t 52) (some (.t 53)) none none),127),(oR 55 (.len (.t 54)),127),(oR 56 (.bin .add (.t 51) (.t 55)),0),(oM 10 56,0)])
 (.seq (oD [oM 57 10,oM 58 0,oR 59 (.cap (.t 58)),oR 60 (.bin .gtr (.t 57) (.t 59))] 60 (oZ [oM 61 0,oM 62 1,oR 63 (.slc 2 (.t 61) none (some (.t 62)) none),oM 64 10,oM 65 1,oR 66 (.bin .sub (.t 64) (.t 65)),oR 67 (.apz 2 48 [.nils,.nils] (.t 63) (.t 66)),oM 11 67]
 (oZ [oM 68 11,oM 69 1,oR 70 (.slc 2 (.t 68) (some (.t 69)) none none),oM 71 3,oR 72 (.cpy 2 (.t 70) (.t 71))]
 (.seq (.dreg [(oM 73 11,0),(oM 74 1,1),(oM 75 3,3),(oR 76 (.len (.t 75)),3),(oR 77 (.bin .add (.t 74) (.t 76)),1),(oR 78 (.slc 2 (.t 73) (some (.t 77)) none none),0),(oM 79 0,63),(oM 80 2,127),(oR 81 (.slc 2 (.t 79) (some (.t 80)) none none),63),(oR 82 (.cpy 2 (.t 78) (.t 81)),0)])
 (oZ [oM 83 11,oM 8 83]
 .ret)))) .skip)
 (oZ [oM 84 0,oM 85 10,oR 86 (.slc 2 (.t 84) none (some (.t 85)) none),oM 12 86]
 (.seq (oD [oM 87 1,oM 88 3,oR 89 (.len (.t 88)),oR 90 (.bin .add (.t 87) (.t 89)),oM 91 2,oR 92 (.bin .leq (.t 90) (.t 91))] 92 (oZ [oM 93 12,oM 94 1,oR 95 (.slc 2 (.t 93) (some (.t 94)) none none),oM 96 3,oR 97 (.cpy 2 (.t 95) (.t 96))]
 (.seq (.dreg [(oM 98 12,0),(oM 99 1,1),(oM 100 3,3),(oR 101 (.len (.t 100)),3),(oR 102 (.bin .add (.t 99) (.t 101)),1),(oR 103 (.slc 2 (.t 98) (some (.t 102)) none none),0),(oM 104 0,63),(oM 105 2,127),(oR 106 (.slc 2 (.t 104) (some (.t 105)) none none),63),(oR 107 (.cpy 2 (.t 103) (.t 106)),0)])
 (oZ [oM 108 0,oM 109 10,oR 110 (.slc 2 (.t 108) (some (.t 109)) none none),oN (.clr 2 [.nils,.nils] (.t 110))]
 (oZ [oM 111 12,oM 8 111]
 .ret)))) .skip)
 (.seq (oD [oM 112 12,oM 113 1,oM 114 3,oR 115 (.len (.t 114)),oR 116 (.bin .add (.t 113) (.t 115)),oR 117 (.slc 2 (.t 112) (some (.t 116)) none none),oM 118 3,oR 119 (.call 122 [(.t 117),(.t 118)]),oR 120 (.un .not (.t 119))] 120 (.seq (.dreg [(oM 121 12,0),(oM 122 1,1),(oM 123 3,3),(oR 124 (.len (.t 123)),3),(oR 125 (.bin .add (.t 122) (.t 124)),1),(oR 126 (.slc 2 (.t 121) (some (.t 125)) none none),0),(oM 127 0,63),(oM 128 2,127),(oR 129 (.slc 2 (.t 127) (some (.t 128)) none none),63),(oR 130 (.cpy 2 (.t 126) (.t 129)),0)])
 (oZ [oM 131 12,oM 132 1,oR 133 (.slc 2 (.t 131) (some (.t 132)) none none),oM 134 3,oR 135 (.cpy 2 (.t 133) (.t 134))]
 (oZ [oM 136 12,oM 8 136]
 .ret))) .skip)
 (oZ [oM 137 3,oR 138 (.len (.t 137)),oM 139 2,oM 140 1,oR 141 (.bin .sub (.t 139) (.t 140)),oR 142 (.bin .sub (.t 138) (.t 141)),oM 13 142]
 (.seq (oD [oM 143 12,oM 144 1,oM 145 2,oR 146 (.slc 2 (.t 143) (some (.t 144)) (some (.t 145)) none),oM 147 3,oR 148 (.call 122 [(.t 146),(.t 147)]),oR 149 (.un .not (.t 148))] 149 (.seq (.dreg [(oM 150 12,0),(oM 151 1,1),(oM 152 2,3),(oR 153 (.slc 2 (.t 150) (some (.t 151)) (some (.t 152)) none),0),(oM 154 3,15),(oM 155 13,31),(oR 156 (.slc 2 (.t 154) (some (.t 155)) none none),15),(oR 157 (.cpy 2 (.t 153) (.t 156)),0)])
 (.seq (.dreg [(oM 158 12,0),(oM 159 0,1),(oR 160 (.len (.t 159)),1),(oR 161 (.slc 2 (.t 158) (some (.t 160)) none none),0),(oM 162 3,15),(oM 163 13,31),(oR 164 (.slc 2 (.t 162) none (some (.t 163)) none),15),(oR 165 (.cpy 2 (.t 161) (.t 164)),0)])
 (oZ [oM 166 12,oM 167 1,oR 168 (.slc 2 (.t 166) (some (.t 167)) none none),oM 169 13,oR 170 (.call 123 [(.t 168),(.t 169)])]
 (oZ [oM 171 12,oM 8 171]
 .ret)))) .skip)
 (.seq (oD [oM 172 12,oM 173 0,oR 174 (.len (.t 173)),oR 175 (.slc 2 (.t 172) (some (.t 174)) none none),oM 176 3,oR 177 (.call 122 [(.t 175),(.t 176)]),oR 178 (.un .not (.t 177))] 178 (.seq (.dreg [(oM 179 12,0),(oM 180 0,1),(oR 181 (.len (.t 180)),1),(oR 182 (.slc 2 (.t 179) (some (.t 181)) none none),0),(oM 183 3,15),(oM 184 13,31),(oR 185 (.slc 2 (.t 183) none (some (.t 184)) none),15),(oR 186 (.cpy 2 (.t 182) (.t 185)),0)])
 (.seq (.dreg [(oM 187 12,0),(oM 188 1,1),(oM 189 2,3),(oR 190 (.slc 2 (.t 187) (some (.t 188)) (some (.t 189)) none),0),(oM 191 3,15),(oM 192 13,31),(oR 193 (.slc 2 (.t 191) (some (.t 192)) none none),15),(oR 194 (.cpy 2 (.t 190) (.t 193)),0)])
 (oZ [oM 195 12,oM 196 1,oR 197 (.slc 2 (.t 195) (some (.t 196)) none none),oM 198 13,oR 199 (.call 123 [(.t 197),(.t 198)])]
 (oZ [oM 200 12,oM 8 200]
 .ret)))) .skip)
 (oZ [oM 201 3,oM 202 0,oM 203 2,oR 204 (.slc 2 (.t 202) (some (.t 203)) none none),oR 205 (.call 124 [(.t 201),(.t 204)]),oM 14 205]
 (oZ [oM 206 12,oM 207 1,oR 208 (.slc 2 (.t 206) (some (.t 207)) none none),oM 209 3,oR 210 (.cpy 2 (.t 208) (.t 209))]
 (.seq (.dreg [(oM 211 12,0),(oM 212 1,1),(oM 213 3,3),(oR 214 (.len (.t 213)),3),(oR 215 (.bin .add (.t 212) (.t 214)),1),(oR 216 (.slc 2 (.t 211) (some (.t 215)) none none),0),(oM 217 12,63),(oM 218 1,127),(oM 219 14,255),(oR 220 (.bin .add (.t 218) (.t 219)),127),(oR 221 (.slc 2 (.t 217) (some (.t 220)) none none),63),(oR 222 (.cpy 2 (.t 216) (.t 221)),0)])
 (oZ [oM 223 12,oM 8 223]
 .ret)))))))))))))))⟩
noncomputable def g89 : Go.Vse.Fn := ⟨36, [.t 2], oZ [oR 1 (.box (.t 0)),oR 2 (.mv (.k .nils))]
 (oZ [oR 3 (.mv (.k .nils))]
 (.seq (oZ [oF 8 0 1,oK 9 1 8,oR 10 (.len (.t 9)),oR 11 (.mv (.k (.i .i64 0)))]
 (.blk 0 (.loop (oZ [oR 12 (.bin .lss (.t 11) (.t 10))]
 (.seq (.cond (.t 12) .skip (.exit 0))
 (.seq (.blk 1 (oZ [oI 13 3 9 11,oL 14 3 13,oR 5 (.new [.s [],.b false,.nils]),oS 3 5 14]
 (.reg [oM 15 3,oF 16 2 5,oK 17 1 16,oR 18 (.app 4 48 (.t 15) (.t 17)),oM 3 18])))
 (.reg [oR 19 (.bin .add (.t 11) (.k (.i .i64 1))),oM 11 19])))))))
 (.seq (oZ [oF 20 1 1,oK 21 1 20,oR 22 (.len (.t 21)),oR 23 (.mv (.k (.i .i64 0)))]
 (.blk 2 (.loop (oZ [oR 24 (.bin .lss (.t 23) (.t 22))]
 (.seq (.cond (.t 24) .skip (.exit 2))
 (.seq (.blk 3 (oZ [oI 25 9 21 23,oL 26 9 25,oR 7 (.new [.i .i64 0,.s [],.i .i64 0,.i .i64 0,.s [],.s [],.i .i64 0,.i .i64 0,.s []]),oS 9 7 26]
 (.reg [oM 27 3,oF 28 1 7,oL 29 4 28,oF 30 5 7,oL 31 4 30,oR 32 (.bsf 4 [.s [],.i .i64 0,.i .i64 0,.s []] 2 [(0,(.t 29)),(1,(.t 31))]),oR 33 (.app 4 48 (.t 27) (.t 32)),oM 3 33])))
 (.reg [oR 34 (.bin .add (.t 23) (.k (.i .i64 1))),oM 23 34])))))))
 (oZ [oM 35 3,oM 2 35]
 .ret))))⟩
noncomputable def g90 : Go.Vse.Fn := ⟨19, [.t 4], oZ [oR 4 (.mv (.k (.i .i64 0)))]
 (.seq (oZ [oM 6 0,oR 7 (.len (.t 6)),oR 8 (.mv (.k (.i .i64 0)))]
 (.blk 0 (.loop (oZ [oR 9 (.bin .lss (.t 8) (.t 7))]
 (.seq (.cond (.t 9) .skip (.exit 0))
 (.seq (.blk 1 (oZ [oM 10 8,oM 5 10]
 (oD [oM 11 1,oM 12 0,oM 13 5,oI 14 1 12 13,oK 15 1 14,oR 16 (.bin .eql (.t 11) (.t 15))] 16 (oZ [oM 17 5,oM 4 17]
 .ret) .skip)))
 (.reg [oR 18 (.bin .add (.t 8) (.k (.i .i64 1))),oM 8 18])))))))
 (oZ [oR 4 (.mv (.k (.i .i64 (-1))))]
 .ret))⟩
noncomputable def g91 : Go.Vse.Fn := ⟨58, [.t 6], oZ [oR 3 (.box (.t 0)),oR 6 (.mv (.k .nils))]
 (oZ [oR 7 (.mv (.k .nils))]
 (.seq (oZ [oF 12 1 3,oK 13 1 12,oR 14 (.len (.t 13)),oR 15 (.mv (.k (.i .i64 0)))]
 (.blk 0 (.loop (oZ [oR 16 (.bin .lss (.t 15) (.t 14))]
 (.seq (.cond (.t 16) .skip (.exit 0))
 (.seq (.blk 1 (oZ [oI 17 2 13 15,oL 18 2 17,oR 9 (.new [.nils,.nils]),oS 2 9 18]
 (oZ [oF 19 0 9,oK 20 1 19,oR 21 (.len (.t 20)),oR 22 (.mv (.k (.i .i64 0)))]
 (.blk 2 (.loop (oZ [oR 23 (.bin .lss (.t 22) (.t 21))]
 (.seq (.cond (.t 23) .skip (.exit 2))
 (.seq (.blk 3 (oZ [oI 24 3 20 22,oL 25 3 24,oR 11 (.new [.s [],.b false,.nils]),oS 3 11 25]
 (oD [oF 26 0 11,oK 27 1 26,oM 28 1,oR 29 (.bin .eql (.t 27) (.t 28)),oM 30 29,oG 31 30 (.mv (.t 2)),oG 32 30 (.fa 2 (.t 11)),oG 33 30 (.ld false 1 (.t 32)),oG 34 30 (.len (.t 33)),oG 35 30 (.bin .lss (.t 31) (.t 34)),oR 36 (.pick (.t 30) (.t 35) (.k (.b false))),oM 37 36,oG 38 37 (.fa 2 (.t 11)),oG 39 37 (.ld false 1 (.t 38)),oG 40 37 (.mv (.t 2)),oG 41 37 (.ia 4 (.t 39) (.t 40)),oG 42 37 (.fa 0 (.t 41)),oG 43 37 (.ld false 1 (.t 42)),oG 44 37 (.bin .eql (.t 43) (.k (.s []))),oR 45 (.pick (.t 37) (.t 44) (.k (.b false)))] 45 (.reg [oM 46 7,oF 47 2 11,oK 48 1 47,oM 49 2,oI 50 4 48 49,oF 51 1 50,oL 52 3 51,oR 53 (.bsf 3 [.i .i64 0,.i .i64 0,.s []] 1 [(0,(.t 52))]),oR 54 (.app 3 32 (.t 46) (.t 53)),oM 7 54]) .skip)))
 (.reg [oR 55 (.bin .add (.t 22) (.k (.i .i64 1))),oM 22 55])))))))))
 (.reg [oR 56 (.bin .add (.t 15) (.k (.i .i64 1))),oM 15 56])))))))
 (oZ [oM 57 7,oM 6 57]
 .ret)))⟩
noncomputable def g92 : Go.Vse.Fn := ⟨13, [.t 6], oZ [oR 3 (.box (.t 0)),oR 5 (.box (.t 2)),oR 6 (.mv (.k (.b false)))]
 (oZ [oL 7 2 3,oM 8 1,oR 9 (.bld [.s [],.i .i64 0,.i .i64 0,.s []] [(0,1,(.t 8))]),oL 10 3 5,oR 11 (.bld [.s [],.i .i64 0,.i .i64 0,.s []] [(1,3,(.t 10))]),oR 12 (.callp 95 [(.t 7),(.k (.i .i64 2)),(.t 9),(.t 11)]),oM 6 12]
 .ret)⟩
noncomputable def g93 : Go.Vse.Fn := ⟨42, [.t 4], oZ [oR 4 (.mv (.k .nils))]
 (oZ [oM 8 0,oM 9 1,oR 10 (.call 125 [(.t 8),(.t 9)]),oM 5 10]
 (.seq (oD [oM 11 5,oR 12 (.bin .eql (.t 11) (.k (.i .i64 (-1))))] 12 (oZ [oM 13 0,oM 4 13]
 .ret) .skip)
 (.seq (oZ [oM 14 5,oR 15 (.bin .add (.t 14) (.k (.i .i64 1))),oM 6 15]
 (.blk 0 (.loop (.seq (oD [oM 16 6,oM 17 0,oR 18 (.len (.t 17)),oR 19 (.bin .lss (.t 16) (.t 18))] 19 .skip (.exit 0))
 (.seq (.blk 1 (oZ [oM 22 0,oM 23 6,oI 24 1 22 23,oK 25 1 24,oM 7 25]
 (oD [oM 26 1,oM 27 7,oR 28 (.callv (.t 26) [(.t 27)]),oR 29 (.un .not (.t 28))] 29 (oZ [oM 30 0,oM 31 5,oM 32 7,oI 33 1 30 31,oS 1 33 32]
 (.reg [oM 34 5,oR 35 (.bin .add (.t 34) (.k (.i .i64 1))),oM 5 35])) .skip)))
 (.reg [oM 20 6,oR 21 (.bin .add (.t 20) (.k (.i .i64 1))),oM 6 21]))))))
 (oZ [oM 36 0,oM 37 5,oR 38 (.slc 1 (.t 36) (some (.t 37)) none none),oN (.clr 1 [.s []] (.t 38))]
 (oZ [oM 39 0,oM 40 5,oR 41 (.slc 1 (.t 39) none (some (.t 40)) none),oM 4 41]
 .ret)))))⟩
noncomputable def g94 : Go.Vse.Fn := ⟨7, [.t 3], oZ [oR 3 (.mv (.k (.b false)))]
 (oZ [oK 4 1 1,oM 5 0,oR 6 (.callp 56 [(.t 4),(.t 5)]),oM 3 6]
 .ret)⟩
noncomputable def g95 : Go.Vse.Fn := ⟨13, [.t 8], oZ [oR 4 (.box (.t 0)),oR 5 (.box (.t 1)),oR 6 (.box (.t 2)),oR 7 (.box (.t 3)),oR 8 (.mv (.k (.b false)))]
 (oZ [oF 9 1 4,oK 10 1 9,oR 11 (.mkf 127 [] [(.t 5),(.t 6),(.t 7)]),oR 12 (.call 126 [(.t 10),(.t 11)]),oM 8 12]
 .ret)⟩
noncomputable def g96 : Go.Vse.Fn := ⟨59, [.t 6], oZ [oR 3 (.box (.t 0)),oR 6 (.mv (.k (.b false)))]
 (.seq (oZ [oF 13 0 3,oK 14 1 13,oR 15 (.len (.t 14)),oR 16 (.mv (.k (.i .i64 0)))]
 (.blk 0 (.loop (oZ [oR 17 (.bin .lss (.t 16) (.t 15))]
 (.seq (.cond (.t 17) .skip (.exit 0))
 (.seq (.blk 1 (oZ [oI 18 3 14 16,oL 19 3 18,oR 8 (.new [.s [],.b false,.nils]),oS 3 8 19]
 (oZ [oF 20 2 8,oK 21 1 20,oR 22 (.len (.t 21)),oR 23 (.mv (.k (.i .i64 0)))]
 (.blk 2 (.loop (oZ [oR 24 (.bin .lss (.t 23) (.t 22))]
 (.seq (.cond (.t 24) .skip (.exit 2))
 (.seq (.blk 3 (oZ [oM 25 23,oI 26 4 21 23,oL 27 4 26,oR 10 (.new [.s [],.i .i64 0,.i .i64 0,.s []]),oM 9 25,oS 4 10 27]
 (oZ [oF 28 2 8,oK 29 1 28,oR 30 (.len (.t 29)),oR 31 (.mv (.k (.i .i64 0)))]
 (.blk 4 (.loop (oZ [oR 32 (.bin .lss (.t 31) (.t 30))]
 (.seq (.cond (.t 32) .skip (.exit 4))
 (.seq (.blk 5 (oZ [oM 33 31,oI 34 4 29 31,oL 35 4 34,oR 12 (.new [.s [],.i .i64 0,.i .i64 0,.s []]),oM 11 33,oS 4 12 35]
 (oD [oF 36 0 10,oK 37 1 36,oM 38 1,oR 39 (.bin .eql (.t 37) (.t 38)),oM 40 39,oG 41 40 (.fa 0 (.t 12)),oG 42 40 (.ld false 1 (.t 41)),oG 43 40 (.mv (.t 2)),oG 44 40 (.bin .eql (.t 42) (.t 43)),oR 45 (.pick (.t 40) (.t 44) (.k (.b false))),oM 46 45,oG 47 46 (.ld true 2 (.t 3)),oG 48 46 (.fa 0 (.t 8)),oG 49 46 (.ld false 1 (.t 48)),oG 50 46 (.mv (.t 9)),oG 51 46 (.mv (.t 2)),oG 52 46 (.mv (.t 11)),oG 53 46 (.mv (.t 1)),oG 54 46 (.callp 129 [(.t 47),(.t 49),(.t 50),(.t 51),(.t 52),(.t 53)]),oR 55 (.pick (.t 46) (.t 54) (.k (.b false)))] 55 (oZ [oR 6 (.mv (.k (.b true)))]
 .ret) .skip)))
 (.reg [oR 56 (.bin .add (.t 31) (.k (.i .i64 1))),oM 31 56])))))))))
 (.reg [oR 57 (.bin .add (.t 23) (.k (.i .i64 1))),oM 23 57])))))))))
 (.reg [oR 58 (.bin .add (.t 16) (.k (.i .i64 1))),oM 16 58])))))))
 (oZ [oR 6 (.mv (.k (.b false)))]
 .ret))⟩
noncomputable def g97 : Go.Vse.Fn := ⟨20, [.cell 4 true 4], oZ [oR 3 (.box (.t 0)),oR 4 (.new [.s [],.i .i64 0,.i .i64 0,.s []])]
 (.seq (oD [oK 5 1 1,oR 6 (.bin .neq (.t 5) (.k (.s []))),oM 7 6,oG 8 7 (.ld false 1 (.t 2)),oG 9 7 (.bin .neq (.t 8) (.k (.s []))),oR 10 (.pick (.t 7) (.t 9) (.k (.b false))),oM 11 10,oG 12 11 (.fa 0 (.t 3)),oG 13 11 (.ld false 1 (.t 12)),oG 14 11 (.ld false 1 (.t 1)),oG 15 11 (.bin .eql (.t 13) (.t 14)),oR 16 (.pick (.t 11) (.t 15) (.k (.b false)))] 16 (.reg [oK 17 1 2,oF 18 0 3,oS 1 18 17]) .skip)
 (oZ [oL 19 4 3,oS 4 4 19]
 .ret))⟩
noncomputable def g98 : Go.Vse.Fn := ⟨148, [], oZ [oR 10 (.mv (.k (.b true)))]
 (oZ [oR 11 (.mv (.k (.b true)))]
 (.blk 0 (.loop (.blk 1 (oZ [oM 21 2,oM 22 1,oR 23 (.bin .sub (.t 21) (.t 22)),oM 12 23]
 (.seq (oD [oM 24 12,oR 25 (.bin .leq (.t 24) (.k (.i .i64 12)))] 25 (oZ [oM 26 0,oM 27 1,oM 28 2,oM 29 4,oR 30 (.call 130 [(.t 26),(.t 27),(.t 28),(.t 29)])]
 .ret) .skip)
 (.seq (oD [oM 31 3,oR 32 (.bin .eql (.t 31) (.k (.i .i64 0)))] 32 (oZ [oM 33 0,oM 34 1,oM 35 2,oM 36 4,oR 37 (.call 131 [(.t 33),(.t 34),(.t 35),(.t 36)])]
 .ret) .skip)
 (.seq (oD [oM 38 10,oR 39 (.un .not (.t 38))] 39 (oZ [oM 40 0,oM 41 1,oM 42 2,oM 43 4,oR 44 (.call 132 [(.t 40),(.t 41),(.t 42),(.t 43)])]
 (.reg [oM 45 3,oR 46 (.bin .sub (.t 45) (.k (.i .i64 1))),oM 3 46])) .skip)
 (oZ [oM 48 0,oM 49 1,oM 50 2,oM 51 4,oR 52 (.call 133 [(.t 48),(.t 49),(.t 50),(.t 51)]),oM 47 52,oR 53 (.ext (.t 47) 0),oR 54 (.ext (.t 47) 1),oM 13 53,oM 14 54]
 (.seq (oD [oM 55 14,oR 56 (.bin .eql (.t 55) (.k (.i .i64 2)))] 56 (oZ [oM 57 0,oM 58 1,oM 59 2,oM 60 4,oR 61 (.call 134 [(.t 57),(.t 58),(.t 59),(.t 60)])]
 (oZ [oM 62 2,oR 63 (.bin .sub (.t 62) (.k (.i .i64 1))),oM 64 13,oM 65 1,oR 66 (.bin .sub (.t 64) (.t 65)),oR 67 (.bin .sub (.t 63) (.t 66)),oM 13 67]
 (.reg [oR 14 (.mv (.k (.i .i64 1)))]))) .skip)
 (.seq (oD [oM 68 10,oM 69 68,oG 70 69 (.mv (.t 11)),oR 71 (.pick (.t 69) (.t 70) (.k (.b false))),oM 72 71,oG 73 72 (.mv (.t 14)),oG 74 72 (.bin .eql (.t 73) (.k (.i .i64 1))),oR 75 (.pick (.t 72) (.t 74) (.k (.b false)))] 75 (oD [oM 76 0,oM 77 1,oM 78 2,oM 79 4,oR 80 (.call 135 [(.t 76),(.t 77),(.t 78),(.t 79)])] 80 .ret .skip) .skip)
 (.seq (.seq (.dreg [(oM 81 1,0),(oR 82 (.bin .gtr (.t 81) (.k (.i .i64 0))),0),(oM 83 82,0),(oG 84 83 (.mv (.t 4)),0),(oG 85 83 (.mv (.t 0)),8),(oG 86 83 (.mv (.t 1)),24),(oG 87 83 (.bin .sub (.t 86) (.k (.i .i64 1))),24),(oG 88 83 (.ia 3 (.t 85) (.t 87)),8),(oG 89 83 (.ld true 3 (.t 88)),8),(oG 90 83 (.mv (.t 0)),504),(oG 91 83 (.mv (.t 13)),1016),(oG 92 83 (.ia 3 (.t 90) (.t 91)),504),(oG 93 83 (.ld true 3 (.t 92)),504),(oG 94 83 (.callv (.t 84) [(.t 89),(.t 93)]),0),(oG 95 83 (.bin .lss (.t 94) (.k (.i .i64 0))),0),(oG 96 83 (.un .not (.t 95)),0),(oR 97 (.pick (.t 83) (.t 96) (.k (.b false))),0)])
 (.cond (.t 97) (oZ [oM 98 0,oM 99 1,oM 100 2,oM 101 13,oM 102 4,oR 103 (.call 136 [(.t 98),(.t 99),(.t 100),(.t 101),(.t 102)]),oM 15 103]
 (oZ [oM 104 15,oM 1 104]
 (.exit 1))) .skip))
 (oZ [oM 106 0,oM 107 1,oM 108 2,oM 109 13,oM 110 4,oR 111 (.call 137 [(.t 106),(.t 107),(.t 108),(.t 109),(.t 110)]),oM 105 111,oR 112 (.ext (.t 105) 0),oR 113 (.ext (.t 105) 1),oM 16 112,oM 17 113]
 (oZ [oM 114 17,oM 11 114]
 (oZ [oM 115 16,oM 116 1,oR 117 (.bin .sub (.t 115) (.t 116)),oM 118 2,oM 119 16,oR 120 (.bin .sub (.t 118) (.t 119)),oM 18 117,oM 19 120]
 (oZ [oM 121 12,oR 122 (.bin .quo (.t 121) (.k (.i .i64 8))),oM 20 122]
 (oD [oM 123 18,oM 124 19,oR 125 (.bin .lss (.t 123) (.t 124))] 125 (oZ [oM 126 18,oM 127 20,oR 128 (.bin .geq (.t 126) (.t 127)),oM 10 128]
 (oZ [oM 129 0,oM 130 1,oM 131 16,oM 132 3,oM 133 4,oR 134 (.call 98 [(.t 129),(.t 130),(.t 131),(.t 132),(.t 133)])]
 (.reg [oM 135 16,oR 136 (.bin .add (.t 135) (.k (.i .i64 1))),oM 1 136]))) (oZ [oM 137 19,oM 138 20,oR 139 (.bin .geq (.t 137) (.t 138)),oM 10 139]
 (oZ [oM 140 0,oM 141 16,oR 142 (.bin .add (.t 141) (.k (.i .i64 1))),oM 143 2,oM 144 3,oM 145 4,oR 146 (.call 98 [(.t 140),(.t 142),(.t 143),(.t 144),(.t 145)])]
 (.reg [oM 147 16,oM 2 147]))))))))))))))))))))⟩
noncomputable def g99 : Go.Vse.Fn := ⟨8, [.t 2], oZ [oR 2 (.mv (.k (.i .i64 0)))]
 (.seq (.cond (.k (.b false)) (oZ [oM 3 0,oR 4 (.cvi .u32 (.t 3)),oR 5 (.call 138 [(.t 4)]),oM 2 5]
 .ret) .skip)
 (oZ [oM 6 0,oR 7 (.call 139 [(.t 6)]),oM 2 7]
 .ret))⟩
noncomputable def g100 : Go.Vse.Fn := ⟨18, [.t 2], oZ [oR 2 (.mv (.k (.i .i64 0)))]
 (oZ [oR 3 (.mv (.k (.i .i64 0)))]
 (.seq (oZ [oM 6 0,oR 7 (.len (.t 6)),oR 8 (.mv (.k (.i .i64 0)))]
 (.blk 0 (.loop (oZ [oR 9 (.bin .lss (.t 8) (.t 7))]
 (.seq (.cond (.t 9) .skip (.exit 0))
 (.seq (.blk 1 (oZ [oI 10 1 6 8,oK 11 1 10,oM 5 11]
 (oD [oM 12 5,oM 13 3,oR 14 (.bin .neq (.t 12) (.t 13))] 14 (oZ [oM 15 5,oM 2 15]
 .ret) .skip)))
 (.reg [oR 16 (.bin .add (.t 8) (.k (.i .i64 1))),oM 8 16])))))))
 (oZ [oM 17 3,oM 2 17]
 .ret)))⟩
noncomputable def g101 : Go.Vse.Fn := ⟨20, [.t 4], oZ [oR 4 (.mv (.k (.i .i64 0)))]
 (oZ [oM 7 0,oR 8 (.callp 140 [(.t 7)]),oM 5 8]
 (oZ [oM 9 1,oR 10 (.callp 140 [(.t 9)]),oM 6 10]
 (.seq (oD [oM 11 5] 11 (.seq (oD [oM 12 6] 12 (oZ [oR 4 (.mv (.k (.i .i64 0)))]
 .ret) .skip)
 (oZ [oR 4 (.mv (.k (.i .i64 (-1))))]
 .ret)) .skip)
 (.seq (oD [oM 13 6] 13 (oZ [oR 4 (.mv (.k (.i .i64 1)))]
 .ret) .skip)
 (.seq (oD [oM 14 0,oM 15 1,oR 16 (.bin .lss (.t 14) (.t 15))] 16 (oZ [oR 4 (.mv (.k (.i .i64 (-1))))]
 .ret) .skip)
 (.seq (oD [oM 17 0,oM 18 1,oR 19 (.bin .gtr (.t 17) (.t 18))] 19 (oZ [oR 4 (.mv (.k (.i .i64 1)))]
 .ret) .skip)
 (oZ [oR 4 (.mv (.k (.i .i64 0)))]
 .ret)))))))⟩
noncomputable def g102 : Go.Vse.Fn := ⟨20, [.t 4], oZ [oR 4 (.mv (.k (.i .i64 0)))]
 (oZ [oM 7 0,oR 8 (.callp 141 [(.t 7)]),oM 5 8]
 (oZ [oM 9 1,oR 10 (.callp 141 [(.t 9)]),oM 6 10]
 (.seq (oD [oM 11 5] 11 (.seq (oD [oM 12 6] 12 (oZ [oR 4 (.mv (.k (.i .i64 0)))]
 .ret) .skip)
 (oZ [oR 4 (.mv (.k (.i .i64 (-1))))]
 .ret)) .skip)
 (.seq (oD [oM 13 6] 13 (oZ [oR 4 (.mv (.k (.i .i64 1)))]
 .ret) .skip)
 (.seq (oD [oM 14 0,oM 15 1,oR 16 (.bin .lss (.t 14) (.t 15))] 16 (oZ [oR 4 (.mv (.k (.i .i64 (-1))))]
 .ret) .skip)
 (.seq (oD [oM 17 0,oM 18 1,oR 19 (.bin .gtr (.t 17) (.t 18))] 19 (oZ [oR 4 (.mv (.k (.i .i64 1)))]
 .ret) .skip)
 (oZ [oR 4 (.mv (.k (.i .i64 0)))]
 .ret)))))))⟩
noncomputable def g103 : Go.Vse.Fn := ⟨8, [.t 4], oZ [oR 4 (.mv (.k (.i .i64 0)))]
 (oZ [oM 5 0,oM 6 1,oR 7 (.call 142 [(.t 5),(.t 6)]),oM 4 7]
 .ret)⟩
noncomputable def g104 : Go.Vse.Fn := ⟨36, [.t 2], oZ [oR 2 (.mv (.k .nils))]
 (oZ [oR 3 (.mv (.k .nils))]
 (.seq (oZ [oR 4 (.mv (.k (.i .i64 0)))]
 (.blk 0 (.loop (.seq (oD [oM 6 4,oM 7 0,oR 8 (.len (.t 7)),oR 9 (.bin .lss (.t 6) (.t 8))] 9 .skip (.exit 0))
 (.seq (.blk 1 (oZ [oM 12 0,oM 13 4,oI 14 1 12 13,oK 15 1 14,oR 16 (.bin .shr (.t 15) (.k (.i .u64 1))),oM 5 16]
 (.seq (oD [oM 17 4,oR 18 (.bin .add (.t 17) (.k (.i .i64 1))),oM 19 0,oR 20 (.len (.t 19)),oR 21 (.bin .lss (.t 18) (.t 20))] 21 (.reg [oM 22 5,oM 23 0,oM 24 4,oR 25 (.bin .add (.t 24) (.k (.i .i64 1))),oI 26 1 23 25,oK 27 1 26,oR 28 (.bin .shl (.t 27) (.k (.i .u64 31))),oR 29 (.bin .or (.t 22) (.t 28)),oM 5 29]) .skip)
 (.reg [oM 30 3,oM 31 5,oR 32 (.bsf 1 [.i .u32 0] 1 [(0,(.t 31))]),oR 33 (.app 1 4 (.t 30) (.t 32)),oM 3 33]))))
 (.reg [oM 10 4,oR 11 (.bin .add (.t 10) (.k (.i .i64 1))),oM 4 11]))))))
 (oZ [oM 34 3,oR 35 (.call 69 [(.t 34)]),oM 2 35]
 .ret)))⟩
noncomputable def g105 : Go.Vse.Fn := ⟨47, [.t 4], oZ [oR 4 (.mv (.k (.i .i64 0)))]
 (oZ [oM 8 0,oR 9 (.call 69 [(.t 8)]),oM 10 1,oR 11 (.call 69 [(.t 10)]),oM 5 9,oM 6 11]
 (.seq (oD [oM 12 5,oR 13 (.len (.t 12)),oM 14 6,oR 15 (.len (.t 14)),oR 16 (.bin .neq (.t 13) (.t 15))] 16 (.seq (oD [oM 17 5,oR 18 (.len (.t 17)),oM 19 6,oR 20 (.len (.t 19)),oR 21 (.bin .lss (.t 18) (.t 20))] 21 (oZ [oR 4 (.mv (.k (.i .i64 (-1))))]
 .ret) .skip)
 (oZ [oR 4 (.mv (.k (.i .i64 1)))]
 .ret)) .skip)
 (.seq (oZ [oM 22 5,oR 23 (.len (.t 22)),oR 24 (.bin .sub (.t 23) (.k (.i .i64 1))),oM 7 24]
 (.blk 0 (.loop (.seq (oD [oM 25 7,oR 26 (.bin .geq (.t 25) (.k (.i .i64 0)))] 26 .skip (.exit 0))
 (.seq (.blk 1 (.seq (.seq (.dreg [(oM 29 5,0),(oM 30 7,1),(oI 31 1 29 30,0),(oK 32 1 31,0),(oM 33 6,15),(oM 34 7,31),(oI 35 1 33 34,15),(oK 36 1 35,15),(oR 37 (.bin .lss (.t 32) (.t 36)),0)])
 (.cond (.t 37) (oZ [oR 4 (.mv (.k (.i .i64 (-1))))]
 .ret) .skip))
 (.seq (.dreg [(oM 38 5,0),(oM 39 7,1),(oI 40 1 38 39,0),(oK 41 1 40,0),(oM 42 6,15),(oM 43 7,31),(oI 44 1 42 43,15),(oK 45 1 44,15),(oR 46 (.bin .gtr (.t 41) (.t 45)),0)])
 (.cond (.t 46) (oZ [oR 4 (.mv (.k (.i .i64 1)))]
 .ret) .skip))))
 (.reg [oM 27 7,oR 28 (.bin .sub (.t 27) (.k (.i .i64 1))),oM 7 28]))))))
 (oZ [oR 4 (.mv (.k (.i .i64 0)))]
 .ret))))⟩
noncomputable def g106 : Go.Vse.Fn := ⟨60, [.t 4,.t 5], oZ [oR 4 (.mv (.k .nils)),oR 5 (.mv (.k (.b false)))]
 (.seq (oD [oM 11 0,oM 12 1,oR 13 (.callp 105 [(.t 11),(.t 12)]),oR 14 (.bin .lss (.t 13) (.k (.i .i64 0)))] 14 (oZ [oR 4 (.mv (.k .nils)),oR 5 (.mv (.k (.b false)))]
 .ret) .skip)
 (oZ [oM 15 0,oR 16 (.call 69 [(.t 15)]),oM 17 1,oR 18 (.call 69 [(.t 17)]),oM 6 16,oM 7 18]
 (oZ [oR 8 (.mv (.k (.i .u64 0)))]
 (.seq (oZ [oR 9 (.mv (.k (.i .i64 0)))]
 (.blk 0 (.loop (.seq (oD [oM 19 9,oM 20 6,oR 21 (.len (.t 20)),oR 22 (.bin .lss (.t 19) (.t 21))] 22 .skip (.exit 0))
 (.seq (.blk 1 (oZ [oM 25 8,oM 10 25]
 (.seq (oD [oM 26 9,oM 27 7,oR 28 (.len (.t 27)),oR 29 (.bin .lss (.t 26) (.t 28))] 29 (.reg [oM 30 10,oM 31 7,oM 32 9,oI 33 1 31 32,oK 34 1 33,oR 35 (.cvi .u64 (.t 34)),oR 36 (.bin .add (.t 30) (.t 35)),oM 10 36]) .skip)
 (oZ [oR 8 (.mv (.k (.i .u64 0)))]
 (.seq (oD [oM 37 6,oM 38 9,oI 39 1 37 38,oK 40 1 39,oR 41 (.cvi .u64 (.t 40)),oM 42 10,oR 43 (.bin .lss (.t 41) (.t 42))] 43 (.reg [oR 8 (.mv (.k (.i .u64 1)))]) .skip)
 (.reg [oM 44 6,oM 45 9,oM 46 6,oM 47 9,oI 48 1 46 47,oK 49 1 48,oR 50 (.cvi .u64 (.t 49)),oM 51 8,oR 52 (.bin .shl (.t 51) (.k (.i .u64 32))),oR 53 (.bin .add (.t 50) (.t 52)),oM 54 10,oR 55 (.bin .sub (.t 53) (.t 54)),oR 56 (.cvi .u32 (.t 55)),oI 57 1 44 45,oS 1 57 56]))))))
 (.reg [oM 23 9,oR 24 (.bin .add (.t 23) (.k (.i .i64 1))),oM 9 24]))))))
 (oZ [oM 58 6,oR 59 (.call 69 [(.t 58)]),oM 4 59,oR 5 (.mv (.k (.b true)))]
 .ret)))))⟩
noncomputable def g107 : Go.Vse.Fn := ⟨33, [.t 4], oZ [oR 4 (.mv (.k .nils))]
 (oZ [oR 5 (.mv (.k .nils))]
 (.seq (oZ [oR 6 (.mv (.k (.i .i64 0)))]
 (.blk 0 (.loop (.seq (oD [oM 7 6,oM 8 0,oR 9 (.len (.t 8)),oR 10 (.bin .lss (.t 7) (.t 9))] 10 .skip (.exit 0))
 (.seq (.blk 1 (oZ [oM 13 5,oM 14 0,oM 15 6,oI 16 1 14 15,oK 17 1 16,oR 18 (.bin .shl (.t 17) (.k (.i .u64 1))),oM 19 1,oR 20 (.bin .or (.t 18) (.t 19)),oR 21 (.bsf 1 [.i .u32 0] 1 [(0,(.t 20))]),oR 22 (.app 1 4 (.t 13) (.t 21)),oM 5 22]
 (.reg [oM 23 0,oM 24 6,oI 25 1 23 24,oK 26 1 25,oR 27 (.bin .shr (.t 26) (.k (.i .u64 31))),oM 1 27])))
 (.reg [oM 11 6,oR 12 (.bin .add (.t 11) (.k (.i .i64 1))),oM 6 12]))))))
 (oZ [oM 28 5,oM 29 1,oR 30 (.bsf 1 [.i .u32 0] 1 [(0,(.t 29))]),oR 31 (.app 1 4 (.t 28) (.t 30)),oR 32 (.call 69 [(.t 31)]),oM 4 32]
 .ret)))⟩
noncomputable def g108 : Go.Vse.Fn := ⟨68, [.t 2], oZ [oR 2 (.mv (.k (.b false)))]
 (.seq (oD [oM 6 0,oR 7 (.lns (.t 6)),oR 8 (.bin .lss (.t 7) (.k (.i .i64 1))),oM 9 8,oH 10 9 (.mv (.t 0)),oH 11 9 (.lns (.t 10)),oH 12 9 (.bin .gtr (.t 11) (.k (.i .i64 24))),oR 13 (.pick (.t 9) (.k (.b true)) (.t 12))] 13 (oZ [oR 2 (.mv (.k (.b false)))]
 .ret) .skip)
 (.seq (oZ [oR 3 (.mv (.k (.i .i64 0)))]
 (.blk 0 (.loop (.seq (oD [oM 14 3,oM 15 0,oR 16 (.lns (.t 15)),oR 17 (.bin .lss (.t 14) (.t 16))] 17 .skip (.exit 0))
 (.seq (.blk 1 (oZ [oM 20 0,oM 21 3,oR 22 (.ixs (.t 20) (.t 21)),oR 23 (.bin .geq (.t 22) (.k (.i .u8 97))),oM 24 23,oG 25 24 (.mv (.t 0)),oG 26 24 (.mv (.t 3)),oG 27 24 (.ixs (.t 25) (.t 26)),oG 28 24 (.bin .leq (.t 27) (.k (.i .u8 122))),oR 29 (.pick (.t 24) (.t 28) (.k (.b false))),oM 30 29,oH 31 30 (.mv (.t 0)),oH 32 30 (.mv (.t 3)),oH 33 30 (.ixs (.t 31) (.t 32)),oH 34 30 (.bin .geq (.t 33) (.k (.i .u8 65))),oH 35 30 (.mv (.t 34)),oG 36 35 (.mv (.t 0)),oG 37 35 (.mv (.t 3)),oG 38 35 (.ixs (.t 36) (.t 37)),oG 39 35 (.bin .leq (.t 38) (.k (.i .u8 90))),oH 40 30 (.pick (.t 35) (.t 39) (.k (.b false))),oR 41 (.pick (.t 30) (.k (.b true)) (.t 40)),oM 4 41]
 (oZ [oM 42 0,oM 43 3,oR 44 (.ixs (.t 42) (.t 43)),oR 45 (.bin .geq (.t 44) (.k (.i .u8 48))),oM 46 45,oG 47 46 (.mv (.t 0)),oG 48 46 (.mv (.t 3)),oG 49 46 (.ixs (.t 47) (.t 48)),oG 50 46 (.bin .leq (.t 49) (.k (.i .u8 57))),oR 51 (.pick (.t 46) (.t 50) (.k (.b false))),oM 52 51,oH 53 52 (.mv (.t 0)),oH 54 52 (.mv (.t 3)),oH 55 52 (.ixs (.t 53) (.t 54)),oH 56 52 (.bin .eql (.t 55) (.k (.i .u8 95))),oR 57 (.pick (.t 52) (.k (.b true)) (.t 56)),oM 5 57]
 (oD [oM 58 4,oR 59 (.un .not (.t 58)),oM 60 59,oG 61 60 (.mv (.t 3)),oG 62 60 (.bin .eql (.t 61) (.k (.i .i64 0))),oG 63 60 (.mv (.t 62)),oH 64 63 (.mv (.t 5)),oH 65 63 (.un .not (.t 64)),oG 66 60 (.pick (.t 63) (.k (.b true)) (.t 65)),oR 67 (.pick (.t 60) (.t 66) (.k (.b false)))] 67 (oZ [oR 2 (.mv (.k (.b false)))]
 .ret) .skip))))
 (.reg [oM 18 3,oR 19 (.bin .add (.t 18) (.k (.i .i64 1))),oM 3 19]))))))
 (oZ [oR 2 (.mv (.k (.b true)))]
 .ret)))⟩
noncomputable def g109 : Go.Vse.Fn := ⟨17, [.t 2], oZ [oR 1 (.box (.t 0)),oR 2 (.mv (.k (.b false)))]
 (.seq (oZ [oR 3 (.mv (.k (.i .i64 0)))]
 (.blk 0 (.loop (.seq (oD [oM 4 3,oF 5 2 1,oK 6 1 5,oR 7 (.len (.t 6)),oR 8 (.bin .lss (.t 4) (.t 7))] 8 .skip (.exit 0))
 (.seq (.blk 1 (oD [oF 11 2 1,oK 12 1 11,oM 13 3,oI 14 3 12 13,oF 15 2 14,oK 16 1 15] 16 (oZ [oR 2 (.mv (.k (.b true)))]
 .ret) .skip))
 (.reg [oM 9 3,oR 10 (.bin .add (.t 9) (.k (.i .i64 1))),oM 3 10]))))))
 (oZ [oR 2 (.mv (.k (.b false)))]
 .ret))⟩
noncomputable def g110 : Go.Vse.Fn := ⟨33, [.t 4], oZ [oR 2 (.box (.t 0)),oR 4 (.mv (.k .nils))]
 (.seq (oD [oM 7 1,oR 8 (.len (.t 7)),oF 9 2 2,oK 10 1 9,oR 11 (.len (.t 10)),oR 12 (.bin .neq (.t 8) (.t 11))] 12 (oZ [oR 4 (.mv (.k .nils))]
 .ret) .skip)
 (oZ [oR 5 (.mv (.k .nils))]
 (.seq (oZ [oR 6 (.mv (.k (.i .i64 0)))]
 (.blk 0 (.loop (.seq (oD [oM 13 6,oM 14 1,oR 15 (.len (.t 14)),oR 16 (.bin .lss (.t 13) (.t 15))] 16 .skip (.exit 0))
 (.seq (.blk 1 (oD [oF 19 2 2,oK 20 1 19,oM 21 6,oI 22 3 20 21,oF 23 2 22,oK 24 1 23] 24 (.reg [oM 25 5,oM 26 1,oM 27 6,oI 28 3 26 27,oL 29 3 28,oR 30 (.bsf 3 [.i .i64 0,.i .i64 0,.s []] 1 [(0,(.t 29))]),oR 31 (.app 3 32 (.t 25) (.t 30)),oM 5 31]) .skip))
 (.reg [oM 17 6,oR 18 (.bin .add (.t 17) (.k (.i .i64 1))),oM 6 18]))))))
 (oZ [oM 32 5,oM 4 32]
 .ret))))⟩
noncomputable def g111 : Go.Vse.Fn := ⟨14, [.t 2], oZ [oR 1 (.box (.t 0)),oR 2 (.mv (.k (.i .i64 0)))]
 (oZ [oL 4 3 1,oR 5 (.callp 76 [(.t 4)]),oR 3 (.new [.b false,.nils,.nils]),oS 3 3 5]
 (.seq (.blk 0 (oD [oF 7 1 3,oK 8 1 7,oR 9 (.len (.t 8)),oR 10 (.bin .eql (.t 9) (.k (.i .i64 0))),oM 6 10] 6 (oZ [oR 2 (.mv (.k (.i .i64 0)))]
 .ret) (oD [oF 12 0 3,oK 13 1 12,oM 11 13] 11 (oZ [oR 2 (.mv (.k (.i .i64 (-1))))]
 .ret) .skip)))
 (oZ [oR 2 (.mv (.k (.i .i64 1)))]
 .ret)))⟩
noncomputable def g112 : Go.Vse.Fn := ⟨6, [.cell 2 true 3], oZ [oR 1 (.box (.t 0)),oR 2 (.new [.b false,.nils,.nils])]
 (.seq (.dreg [(oR 3 (.callp 16 [(.k (.i .i64 1))]),0),(oL 4 3 1,1),(oR 5 (.callp 143 [(.t 3),(.t 4)]),0),(oS 3 2 5,0)])
 .ret)⟩
noncomputable def g113 : Go.Vse.Fn := ⟨71, [.cell 4 true 3], oZ [oR 2 (.box (.t 0)),oR 3 (.box (.t 1)),oR 4 (.new [.b false,.nils,.nils])]
 (.seq (.dreg [(oL 14 3 2,0),(oR 15 (.callp 76 [(.t 14)]),0),(oL 16 3 3,3),(oR 17 (.callp 76 [(.t 16)]),0),(oR 5 (.new [.b false,.nils,.nils]),15),(oR 6 (.new [.b false,.nils,.nils]),31),(oS 3 5 15,0),(oS 3 6 17,0)])
 (.seq (.dreg [(oF 18 1 5,0),(oK 19 1 18,0),(oF 20 2 6,3),(oK 21 1 20,3),(oR 22 (.callp 144 [(.t 19),(.t 21)]),0),(oF 23 1 6,31),(oK 24 1 23,31),(oF 25 2 5,127),(oK 26 1 25,127),(oR 27 (.callp 144 [(.t 24),(.t 26)]),0),(oM 7 22,0),(oM 8 27,0)])
 (oZ [oF 28 2 5,oK 29 1 28,oF 30 2 6,oK 31 1 30,oR 32 (.callp 144 [(.t 29),(.t 31)]),oM 9 32]
 (.seq (oD [oF 33 0 5,oK 34 1 33,oF 35 0 6,oK 36 1 35,oR 37 (.eqb false (.t 34) (.t 36))] 37 (.seq (.dreg [(oF 38 0 5,0),(oK 39 1 38,0),(oM 40 7,3),(oM 41 8,7),(oR 42 (.callp 145 [(.t 40),(.t 41)]),3),(oM 43 9,31),(oR 44 (.callp 32 [(.t 39),(.t 42),(.t 43)]),0),(oS 3 4 44,0)])
 .ret) .skip)
 (.seq (oD [oM 45 7,oM 46 8,oR 47 (.callp 105 [(.t 45),(.t 46)]),oR 48 (.bin .geq (.t 47) (.k (.i .i64 0)))] 48 (oZ [oM 50 7,oM 51 8,oR 52 (.callp 106 [(.t 50),(.t 51)]),oM 49 52,oR 53 (.ext (.t 49) 0),oR 54 (.ext (.t 49) 1),oM 10 53,oM 11 54]
 (oZ [oF 55 0 5,oK 56 1 55,oM 57 10,oM 58 9,oR 59 (.callp 32 [(.t 56),(.t 57),(.t 58)]),oS 3 4 59]
 .ret)) .skip)
 (oZ [oM 61 8,oM 62 7,oR 63 (.callp 106 [(.t 61),(.t 62)]),oM 60 63,oR 64 (.ext (.t 60) 0),oR 65 (.ext (.t 60) 1),oM 12 64,oM 13 65]
 (oZ [oF 66 0 6,oK 67 1 66,oM 68 12,oM 69 9,oR 70 (.callp 32 [(.t 67),(.t 68),(.t 69)]),oS 3 4 70]
 .ret)))))))⟩
noncomputable def g114 : Go.Vse.Fn := ⟨9, [.t 4], oZ [oR 2 (.box (.t 0)),oR 3 (.box (.t 1)),oR 4 (.mv (.k (.i .i64 0)))]
 (oZ [oL 5 3 2,oL 6 3 3,oR 7 (.callp 143 [(.t 5),(.t 6)]),oR 8 (.callp 111 [(.t 7)]),oM 4 8]
 .ret)⟩
noncomputable def g115 : Go.Vse.Fn := ⟨18, [.t 4], oZ [oR 4 (.mv (.k (.i .i64 0)))]
 (.seq (.blk 0 (.loop (.seq (oD [oM 5 1,oM 6 0,oR 7 (.lns (.t 6)),oR 8 (.bin .lss (.t 5) (.t 7)),oM 9 8,oG 10 9 (.mv (.t 0)),oG 11 9 (.mv (.t 1)),oG 12 9 (.ixs (.t 10) (.t 11)),oG 13 9 (.callp 81 [(.t 12)]),oR 14 (.pick (.t 9) (.t 13) (.k (.b false)))] 14 .skip (.exit 0))
 (.blk 1 (.reg [oM 15 1,oR 16 (.bin .add (.t 15) (.k (.i .i64 1))),oM 1 16])))))
 (oZ [oM 17 1,oM 4 17]
 .ret))⟩
noncomputable def g116 : Go.Vse.Fn := ⟨58, [.t 4], oZ [oR 4 (.mv (.k (.s [])))]
 (.seq (.seq (.dreg [(oM 5 0,0),(oR 6 (.nck (.t 5)),0),(oF 7 2 6,0),(oK 8 1 7,0),(oM 9 8,0),(oH 10 9 (.mv (.t 0)),0),(oH 11 9 (.nck (.t 10)),0),(oH 12 9 (.fa 1 (.t 11)),0),(oH 13 9 (.ld false 1 (.t 12)),0),(oH 14 9 (.mv (.t 0)),480),(oH 15 9 (.nck (.t 14)),480),(oH 16 9 (.fa 0 (.t 15)),480),(oH 17 9 (.ld false 1 (.t 16)),480),(oH 18 9 (.len (.t 17)),480),(oH 19 9 (.bin .geq (.t 13) (.t 18)),0),(oR 20 (.pick (.t 9) (.k (.b true)) (.t 19)),0),(oM 21 20,0),(oH 22 21 (.mv (.t 0)),0),(oH 23 21 (.nck (.t 22)),0),(oH 24 21 (.fa 0 (.t 23)),0),(oH 25 21 (.ld false 1 (.t 24)),0),(oH 26 21 (.mv (.t 0)),1966080),(oH 27 21 (.nck (.t 26)),1966080),(oH 28 21 (.fa 1 (.t 27)),1966080),(oH 29 21 (.ld false 1 (.t 28)),1966080),(oH 30 21 (.ia 2 (.t 25) (.t 29)),0),(oH 31 21 (.fa 0 (.t 30)),0),(oH 32 21 (.ld false 1 (.t 31)),0),(oH 33 21 (.mv (.t 1)),268304384),(oH 34 21 (.bin .neq (.t 32) (.t 33)),0),(oR 35 (.pick (.t 21) (.k (.b true)) (.t 34)),0)])
 (.cond (.t 35) (oZ [oM 36 0,oR 37 (.nck (.t 36)),oF 38 2 37,oN (.st 1 (.t 38) (.k (.b true)))]
 (oZ [oR 4 (.mv (.k (.s [])))]
 .ret)) .skip))
 (oZ [oM 39 0,oR 40 (.nck (.t 39)),oF 41 1 40,oK 42 1 41,oR 43 (.bin .add (.t 42) (.k (.i .i64 1))),oR 44 (.nck (.t 39)),oF 45 1 44,oS 1 45 43]
 (.seq (.dreg [(oM 46 0,0),(oR 47 (.nck (.t 46)),0),(oF 48 0 47,0),(oK 49 1 48,0),(oM 50 0,15),(oR 51 (.nck (.t 50)),15),(oF 52 1 51,15),(oK 53 1 52,15),(oR 54 (.bin .sub (.t 53) (.k (.i .i64 1))),15),(oI 55 2 49 54,0),(oF 56 1 55,0),(oK 57 1 56,0),(oM 4 57,0)])
 .ret)))⟩
noncomputable def g117 : Go.Vse.Fn := ⟨29, [.t 2], oZ [oR 2 (.mv (.k (.b false)))]
 (.seq (oZ [oM 3 0]
 (.blk 0 (.seq (oD [oR 5 (.bin .eql (.t 3) (.k (.s [114,101,108,97,116,105,111,110]))),oM 4 5] 4 .skip (oD [oR 6 (.bin .eql (.t 3) (.k (.s [99,101,114,116,97,105,110]))),oM 4 6] 4 .skip (oD [oR 7 (.bin .eql (.t 3) (.k (.s [116,117,112,108,101]))),oM 4 7] 4 .skip (oD [oR 8 (.bin .eql (.t 3) (.k (.s [107,101,121]))),oM 4 8] 4 .skip (oD [oR 9 (.bin .eql (.t 3) (.k (.s [114,117,108,101]))),oM 4 9] 4 .skip (oD [oR 10 (.bin .eql (.t 3) (.k (.s [105,109,112,108,105,101,115]))),oM 4 10] 4 .skip (oD [oR 11 (.bin .eql (.t 3) (.k (.s [111,114]))),oM 4 11] 4 .skip (oD [oR 12 (.bin .eql (.t 3) (.k (.s [99,111,117,110,116]))),oM 4 12] 4 .skip (oD [oR 13 (.bin .eql (.t 3) (.k (.s [116,111]))),oM 4 13] 4 .skip (oD [oR 14 (.bin .eql (.t 3) (.k (.s [111,102]))),oM 4 14] 4 .skip (oD [oR 15 (.bin .eql (.t 3) (.k (.s [102,97,99,116,111,114]))),oM 4 15] 4 .skip (oD [oR 16 (.bin .eql (.t 3) (.k (.s [102,111,114]))),oM 4 16] 4 .skip (oD [oR 17 (.bin .eql (.t 3) (.k (.s [111,98,115,101,114,118,101]))),oM 4 17] 4 .skip (oD [oR 18 (.bin .eql (.t 3) (.k (.s [100,101,110,121]))),oM 4 18] 4 .skip (oD [oR 19 (.bin .eql (.t 3) (.k (.s [97,115,107]))),oM 4 19] 4 .skip (oD [oR 20 (.bin .eql (.t 3) (.k (.s [112,114,111,98,97,98,105,108,105,116,121]))),oM 4 20] 4 .skip (oD [oR 21 (.bin .eql (.t 3) (.k (.s [115,117,109]))),oM 4 21] 4 .skip (oD [oR 22 (.bin .eql (.t 3) (.k (.s [116,104,114,101,115,104,111,108,100]))),oM 4 22] 4 .skip (oD [oR 23 (.bin .eql (.t 3) (.k (.s [116,111,112]))),oM 4 23] 4 .skip (oD [oR 24 (.bin .eql (.t 3) (.k (.s [116,114,117,101]))),oM 4 24] 4 .skip (oD [oR 25 (.bin .eql (.t 3) (.k (.s [102,97,108,115,101]))),oM 4 25] 4 .skip (oD [oR 26 (.bin .eql (.t 3) (.k (.s [110,111,116]))),oM 4 26] 4 .skip (oD [oR 27 (.bin .eql (.t 3) (.k (.s [105,110,116]))),oM 4 27] 4 .skip (.reg [oR 28 (.bin .eql (.t 3) (.k (.s [115,116,114,105,110,103]))),oM 4 28]))))))))))))))))))))))))
 (.cond (.t 4) (oZ [oR 2 (.mv (.k (.b true)))]
 .ret) .skip))))
 (oZ [oR 2 (.mv (.k (.b false)))]
 .ret))⟩
noncomputable def g118 : Go.Vse.Fn := ⟨65, [.cell 2 true 2], oZ [oR 2 (.new [.nils,.nils])]
 (oZ [oR 7 (.bld [.nils,.nils] []),oR 3 (.new [.nils,.nils]),oS 2 3 7]
 (.seq (oD [oM 8 0,oR 9 (.call 84 [(.t 8),(.k (.s [116,114,117,101]))])] 9 (oZ [oL 10 2 3,oS 2 2 10]
 .ret) .skip)
 (.seq (oZ [oR 4 (.mv (.k (.b true)))]
 (.blk 0 (.loop (.seq (oD [oM 11 4,oM 12 11,oG 13 12 (.mv (.t 0)),oG 14 12 (.nck (.t 13)),oG 15 12 (.fa 2 (.t 14)),oG 16 12 (.ld false 1 (.t 15)),oG 17 12 (.un .not (.t 16)),oR 18 (.pick (.t 12) (.t 17) (.k (.b false)))] 18 .skip (.exit 0))
 (.seq (.blk 1 (.seq (oD [oM 21 0,oR 22 (.call 84 [(.t 21),(.k (.s [110,111,116]))])] 22 (.seq (.dreg [(oF 23 0 3,0),(oK 24 1 23,0),(oM 25 0,3),(oM 26 0,7),(oR 27 (.call 85 [(.t 26)]),7),(oR 28 (.call 146 [(.t 25),(.t 27),(.k (.b true))]),3),(oR 29 (.bsf 3 [.s [],.b false,.nils] 1 [(0,(.t 28))]),3),(oR 30 (.app 3 48 (.t 24) (.t 29)),0),(oF 31 0 3,0),(oS 1 31 30,0)])
 (.exit 1)) .skip)
 (oZ [oM 32 0,oR 33 (.call 147 [(.t 32)]),oR 5 (.new [.s [],.i .i64 0,.i .i64 0,.s []]),oS 4 5 33]
 (.seq (oD [oF 34 0 5,oK 35 1 34,oR 36 (.bin .neq (.t 35) (.k (.s []))),oM 37 36,oG 38 37 (.mv (.t 0)),oG 39 37 (.call 48 [(.t 38),(.k (.s [40]))]),oR 40 (.pick (.t 37) (.t 39) (.k (.b false)))] 40 (.seq (.dreg [(oF 41 0 3,0),(oK 42 1 41,0),(oM 43 0,3),(oF 44 0 5,7),(oK 45 1 44,7),(oR 46 (.call 146 [(.t 43),(.t 45),(.k (.b false))]),3),(oR 47 (.bsf 3 [.s [],.b false,.nils] 1 [(0,(.t 46))]),3),(oR 48 (.app 3 48 (.t 42) (.t 47)),0),(oF 49 0 3,0),(oS 1 49 48,0)])
 (.exit 1)) .skip)
 (oZ [oL 50 4 5,oR 51 (.bld [.i .i64 0,.s [],.i .i64 0,.i .i64 0,.s [],.s [],.i .i64 0,.i .i64 0,.s []] [(1,4,(.t 50))]),oR 6 (.new [.i .i64 0,.s [],.i .i64 0,.i .i64 0,.s [],.s [],.i .i64 0,.i .i64 0,.s []]),oS 9 6 51]
 (oZ [oM 52 0,oR 53 (.call 148 [(.t 52)]),oF 54 0 6,oS 1 54 53]
 (oZ [oM 55 0,oR 56 (.call 147 [(.t 55)]),oF 57 5 6,oS 4 57 56]
 (.reg [oF 58 1 3,oK 59 1 58,oL 60 9 6,oR 61 (.bsf 9 [.i .i64 0,.s [],.i .i64 0,.i .i64 0,.s [],.s [],.i .i64 0,.i .i64 0,.s []] 1 [(0,(.t 60))]),oR 62 (.app 9 104 (.t 59) (.t 61)),oF 63 1 3,oS 1 63 62]))))))))
 (.reg [oM 19 0,oR 20 (.call 84 [(.t 19),(.k (.s [44]))]),oM 4 20]))))))
 (oZ [oL 64 2 3,oS 2 2 64]
 .ret))))⟩
noncomputable def g119 : Go.Vse.Fn := ⟨8, [.t 2], oZ [oR 2 (.mv (.k .nils))]
 (.seq (oD [oM 3 0,oR 4 (.eqn 0 false (.t 3) (.k .nils))] 4 (oZ [oR 2 (.mv (.k .nils))]
 .ret) .skip)
 (oZ [oR 5 (.bsl 1 [.s []] 0 []),oM 6 0,oR 7 (.app 1 16 (.t 5) (.t 6)),oM 2 7]
 .ret))⟩
noncomputable def g120 : Go.Vse.Fn := ⟨64, [.cell 4 true 2,.t 5], oZ [oR 2 (.box (.t 0)),oR 3 (.box (.t 1)),oR 4 (.new [.nils,.nils]),oR 5 (.mv (.k (.b false)))]
 (.blk 0 (.loop (.blk 1 (.seq (oD [oF 10 1 2,oK 11 1 10,oR 12 (.call 126 [(.t 11),(.k (.fn 149))])] 12 (oZ [oR 13 (.bld [.nils,.nils] []),oS 2 4 13,oR 5 (.mv (.k (.b false)))]
 .ret) .skip)
 (.seq (oZ [oF 14 1 2,oK 15 1 14,oR 16 (.call 150 [(.t 15),(.k (.fn 151))]),oM 6 16]
 (oD [oM 17 6,oR 18 (.bin .geq (.t 17) (.k (.i .i64 0)))] 18 (oZ [oF 19 1 2,oK 20 1 19,oM 21 6,oM 22 6,oR 23 (.bin .add (.t 22) (.k (.i .i64 1))),oR 24 (.call 152 [(.t 20),(.t 21),(.t 23)]),oF 25 1 2,oS 1 25 24]
 (.exit 1)) .skip))
 (oZ [oR 26 (.mkf 153 [] [(.t 3)]),oR 7 (.new [.nilf]),oS 1 7 26]
 (oZ [oF 27 1 2,oK 28 1 27,oR 29 (.mkf 154 [] [(.t 7)]),oR 30 (.call 150 [(.t 28),(.t 29)]),oM 8 30]
 (.seq (oD [oM 31 8,oR 32 (.bin .lss (.t 31) (.k (.i .i64 0)))] 32 (oZ [oL 33 2 2,oS 2 4 33,oR 5 (.mv (.k (.b true)))]
 .ret) .skip)
 (oZ [oF 34 1 2,oK 35 1 34,oM 36 8,oI 37 9 35 36,oL 38 9 37,oR 9 (.new [.i .i64 0,.s [],.i .i64 0,.i .i64 0,.s [],.s [],.i .i64 0,.i .i64 0,.s []]),oS 9 9 38]
 (oZ [oF 39 1 2,oK 40 1 39,oM 41 8,oM 42 8,oR 43 (.bin .add (.t 42) (.k (.i .i64 1))),oR 44 (.call 152 [(.t 40),(.t 41),(.t 43)]),oF 45 1 2,oS 1 45 44]
 (oD [oK 46 1 7,oF 47 5 9,oL 48 4 47,oR 49 (.callv (.t 46) [(.t 48)])] 49 (.reg [oL 50 2 2,oF 51 5 9,oF 52 0 51,oK 53 1 52,oF 54 1 9,oL 55 4 54,oR 56 (.callp 155 [(.t 50),(.t 53),(.t 55)])]) (.reg [oL 57 2 2,oF 58 1 9,oF 59 0 58,oK 60 1 59,oF 61 5 9,oL 62 4 61,oR 63 (.callp 155 [(.t 57),(.t 60),(.t 62)])]))))))))))))⟩
noncomputable def g125 : Go.Vse.Fn := ⟨19, [.t 4], oZ [oR 4 (.mv (.k (.i .i64 0)))]
 (.seq (oZ [oM 6 0,oR 7 (.len (.t 6)),oR 8 (.mv (.k (.i .i64 0)))]
 (.blk 0 (.loop (oZ [oR 9 (.bin .lss (.t 8) (.t 7))]
 (.seq (.cond (.t 9) .skip (.exit 0))
 (.seq (.blk 1 (oZ [oM 10 8,oM 5 10]
 (oD [oM 11 1,oM 12 0,oM 13 5,oI 14 1 12 13,oK 15 1 14,oR 16 (.callv (.t 11) [(.t 15)])] 16 (oZ [oM 17 5,oM 4 17]
 .ret) .skip)))
 (.reg [oR 18 (.bin .add (.t 8) (.k (.i .i64 1))),oM 8 18])))))))
 (oZ [oR 4 (.mv (.k (.i .i64 (-1))))]
 .ret))⟩
noncomputable def g126 : Go.Vse.Fn := ⟨9, [.t 4], oZ [oR 4 (.mv (.k (.b false)))]
 (oZ [oM 5 0,oM 6 1,oR 7 (.call 150 [(.t 5),(.t 6)]),oR 8 (.bin .geq (.t 7) (.k (.i .i64 0))),oM 4 8]
 .ret)⟩
noncomputable def g127 : Go.Vse.Fn := ⟨34, [.t 5], oZ [oR 4 (.box (.t 0)),oR 5 (.mv (.k (.b false)))]
 (oZ [oF 6 0 4,oK 7 1 6,oK 8 1 1,oR 9 (.bin .eql (.t 7) (.t 8)),oM 10 9,oG 11 10 (.fa 1 (.t 4)),oG 12 10 (.ld true 4 (.t 11)),oG 13 10 (.ld true 4 (.t 2)),oG 14 10 (.callp 128 [(.t 12),(.t 13)]),oG 15 10 (.mv (.t 14)),oG 16 15 (.fa 5 (.t 4)),oG 17 15 (.ld true 4 (.t 16)),oG 18 15 (.ld true 4 (.t 3)),oG 19 15 (.callp 128 [(.t 17),(.t 18)]),oG 20 10 (.pick (.t 15) (.t 19) (.k (.b false))),oG 21 10 (.mv (.t 20)),oH 22 21 (.fa 1 (.t 4)),oH 23 21 (.ld true 4 (.t 22)),oH 24 21 (.ld true 4 (.t 3)),oH 25 21 (.callp 128 [(.t 23),(.t 24)]),oH 26 21 (.mv (.t 25)),oG 27 26 (.fa 5 (.t 4)),oG 28 26 (.ld true 4 (.t 27)),oG 29 26 (.ld true 4 (.t 2)),oG 30 26 (.callp 128 [(.t 28),(.t 29)]),oH 31 21 (.pick (.t 26) (.t 30) (.k (.b false))),oG 32 10 (.pick (.t 21) (.k (.b true)) (.t 31)),oR 33 (.pick (.t 10) (.t 32) (.k (.b false))),oM 5 33]
 .ret)⟩
noncomputable def g128 : Go.Vse.Fn := ⟨24, [.t 4], oZ [oR 2 (.box (.t 0)),oR 3 (.box (.t 1)),oR 4 (.mv (.k (.b false)))]
 (.seq (oD [oF 5 0 2,oK 6 1 5,oR 7 (.bin .neq (.t 6) (.k (.s []))),oM 8 7,oH 9 8 (.fa 0 (.t 3)),oH 10 8 (.ld false 1 (.t 9)),oH 11 8 (.bin .neq (.t 10) (.k (.s []))),oR 12 (.pick (.t 8) (.k (.b true)) (.t 11))] 12 (oZ [oF 13 0 2,oK 14 1 13,oF 15 0 3,oK 16 1 15,oR 17 (.bin .eql (.t 14) (.t 16)),oM 4 17]
 .ret) .skip)
 (oZ [oF 18 1 2,oL 19 3 18,oF 20 1 3,oL 21 3 20,oR 22 (.callp 63 [(.t 19),(.t 21)]),oR 23 (.bin .eql (.t 22) (.k (.i .i64 0))),oM 4 23]
 .ret))⟩
noncomputable def g129 : Go.Vse.Fn := ⟨17, [.t 12], oZ [oR 6 (.box (.t 0)),oR 7 (.box (.t 1)),oR 8 (.box (.t 2)),oR 9 (.box (.t 3)),oR 10 (.box (.t 4)),oR 11 (.box (.t 5)),oR 12 (.mv (.k (.b false)))]
 (oZ [oF 13 0 6,oK 14 1 13,oR 15 (.mkf 158 [] [(.t 7),(.t 8),(.t 10),(.t 9),(.t 11)]),oR 16 (.call 157 [(.t 14),(.t 15)]),oM 12 16]
 .ret)⟩
noncomputable def g130 : Go.Vse.Fn := ⟨53, [], oZ [oM 10 1,oR 11 (.bin .add (.t 10) (.k (.i .i64 1))),oM 8 11]
 (.blk 0 (.loop (.seq (oD [oM 12 8,oM 13 2,oR 14 (.bin .lss (.t 12) (.t 13))] 14 .skip (.exit 0))
 (.seq (.blk 1 (oZ [oM 17 8,oM 9 17]
 (.blk 2 (.loop (.seq (.seq (.dreg [(oM 18 9,0),(oM 19 1,1),(oR 20 (.bin .gtr (.t 18) (.t 19)),0),(oM 21 20,0),(oG 22 21 (.mv (.t 3)),0),(oG 23 21 (.mv (.t 0)),16),(oG 24 21 (.mv (.t 9)),48),(oG 25 21 (.ia 3 (.t 23) (.t 24)),16),(oG 26 21 (.ld true 3 (.t 25)),16),(oG 27 21 (.mv (.t 0)),496),(oG 28 21 (.mv (.t 9)),1008),(oG 29 21 (.bin .sub (.t 28) (.k (.i .i64 1))),1008),(oG 30 21 (.ia 3 (.t 27) (.t 29)),496),(oG 31 21 (.ld true 3 (.t 30)),496),(oG 32 21 (.callv (.t 22) [(.t 26),(.t 31)]),0),(oG 33 21 (.bin .lss (.t 32) (.k (.i .i64 0))),0),(oR 34 (.pick (.t 21) (.t 33) (.k (.b false))),0)])
 (.cond (.t 34) .skip (.exit 2)))
 (.seq (.blk 3 (.dreg [(oM 37 0,0),(oM 38 9,1),(oM 39 0,3),(oM 40 9,7),(oR 41 (.bin .sub (.t 40) (.k (.i .i64 1))),7),(oM 42 0,31),(oM 43 9,63),(oR 44 (.bin .sub (.t 43) (.k (.i .i64 1))),63),(oI 45 3 42 44,31),(oL 46 3 45,31),(oM 47 0,1023),(oM 48 9,2047),(oI 49 3 47 48,1023),(oL 50 3 49,1023),(oI 51 3 37 38,28),(oS 3 51 46,28),(oI 52 3 39 41,0),(oS 3 52 50,0)]))
 (.reg [oM 35 9,oR 36 (.bin .sub (.t 35) (.k (.i .i64 1))),oM 9 36])))))))
 (.reg [oM 15 8,oR 16 (.bin .add (.t 15) (.k (.i .i64 1))),oM 8 16])))))⟩
noncomputable def g139 : Go.Vse.Fn := ⟨25, [.t 2], oZ [oR 2 (.mv (.k (.i .i64 0)))]
 (.seq (oD [oM 3 0,oR 4 (.bin .geq (.t 3) (.k (.i .u64 4294967296)))] 4 (oZ [oM 5 0,oR 6 (.bin .shr (.t 5) (.k (.i .u64 32))),oM 0 6]
 (.reg [oR 2 (.mv (.k (.i .i64 32)))])) .skip)
 (.seq (oD [oM 7 0,oR 8 (.bin .geq (.t 7) (.k (.i .u64 65536)))] 8 (oZ [oM 9 0,oR 10 (.bin .shr (.t 9) (.k (.i .u64 16))),oM 0 10]
 (.reg [oM 11 2,oR 12 (.bin .add (.t 11) (.k (.i .i64 16))),oM 2 12])) .skip)
 (.seq (oD [oM 13 0,oR 14 (.bin .geq (.t 13) (.k (.i .u64 256)))] 14 (oZ [oM 15 0,oR 16 (.bin .shr (.t 15) (.k (.i .u64 8))),oM 0 16]
 (.reg [oM 17 2,oR 18 (.bin .add (.t 17) (.k (.i .i64 8))),oM 2 18])) .skip)
 (oZ [oM 19 2,oM 20 0,oR 21 (.cvi .u8 (.t 20)),oR 22 (.ixs (.k (.s [0,1,2,2,3,3,3,3,4,4,4,4,4,4,4,4,5,5,5,5,5,5,5,5,5,5,5,5,5,5,5,5,6,6,6,6,6,6,6,6,6,6,6,6,6,6,6,6,6,6,6,6,6,6,6,6,6,6,6,6,6,6,6,6,7,7,7,7,7,7,7,7,7,7,7,7,7,7,7,7,7,7,7,7,7,7,7,7,7,7,7,7,7,7,7,7,7,7,7,7,7,7,7,7,7,7,7,7,7,7,7,7,7,7,7,7,7,7,7,7,7,7,7,7,7,7,7,7,8,8,8,8,8,8,8,8,8,8,8,8,8,8,8,8,8,8,8,8,8,8,8,8,8,8,8,8,8,8,8,8,8,8,8,8,8,8,8,8,8,8,8,8,8,8,8,8,8,8,8,8,8,8,8,8,8,8,8,8,8,8,8,8,8,8,8,8,8,8,8,8,8,8,8,8,8,8,8,8,8,8,8,8,8,8,8,8,8,8,8,8,8,8,8,8,8,8,8,8,8,8,8,8,8,8,8,8,8,8,8,8,8,8,8,8,8,8,8,8,8,8,8,8,8,8,8,8])) (.t 21)),oR 23 (.cvi .i64 (.t 22)),oR 24 (.bin .add (.t 19) (.t 23)),oM 2 24]
 .ret))))⟩
noncomputable def g140 : Go.Vse.Fn := ⟨6, [.t 2], oZ [oR 2 (.mv (.k (.b false)))]
 (oZ [oM 3 0,oM 4 0,oR 5 (.bin .neq (.t 3) (.t 4)),oM 2 5]
 .ret)⟩
noncomputable def g141 : Go.Vse.Fn := ⟨6, [.t 2], oZ [oR 2 (.mv (.k (.b false)))]
 (oZ [oM 3 0,oM 4 0,oR 5 (.bin .neq (.t 3) (.t 4)),oM 2 5]
 .ret)⟩
noncomputable def g143 : Go.Vse.Fn := ⟨9, [.cell 4 true 3], oZ [oR 2 (.box (.t 0)),oR 3 (.box (.t 1)),oR 4 (.new [.b false,.nils,.nils])]
 (.seq (.dreg [(oL 5 3 2,0),(oL 6 3 3,1),(oR 7 (.callp 165 [(.t 6)]),1),(oR 8 (.callp 113 [(.t 5),(.t 7)]),0),(oS 3 4 8,0)])
 .ret)⟩
noncomputable def g144 : Go.Vse.Fn := ⟨67, [.t 4], oZ [oR 4 (.mv (.k .nils))]
 (oZ [oM 9 0,oR 10 (.len (.t 9)),oM 11 1,oR 12 (.len (.t 11)),oR 13 (.bin .add (.t 10) (.t 12)),oR 14 (.mks 1 4 [.i .u32 0] (.t 13) (.t 13)),oM 5 14]
 (.seq (oZ [oR 6 (.mv (.k (.i .i64 0)))]
 (.blk 0 (.loop (.seq (oD [oM 15 6,oM 16 0,oR 17 (.len (.t 16)),oR 18 (.bin .lss (.t 15) (.t 17))] 18 .skip (.exit 0))
 (.seq (.blk 1 (oZ [oR 7 (.mv (.k (.i .u64 0)))]
 (.seq (oZ [oR 8 (.mv (.k (.i .i64 0)))]
 (.blk 2 (.loop (.seq (oD [oM 21 8,oM 22 1,oR 23 (.len (.t 22)),oR 24 (.bin .lss (.t 21) (.t 23))] 24 .skip (.exit 2))
 (.seq (.blk 3 (.seq (.dreg [(oM 27 7,0),(oM 28 5,1),(oM 29 6,3),(oM 30 8,7),(oR 31 (.bin .add (.t 29) (.t 30)),3),(oI 32 1 28 31,1),(oK 33 1 32,1),(oM 36 0,127),(oM 37 6,255),(oI 38 1 36 37,127),(oK 39 1 38,127),(oM 41 1,2047),(oM 42 8,4095),(oI 43 1 41 42,2047),(oK 44 1 43,2047),(oR 34 (.cvi .u64 (.t 33)),32641),(oR 35 (.bin .add (.t 27) (.t 34)),32640),(oR 40 (.cvi .u64 (.t 39)),129151),(oR 45 (.cvi .u64 (.t 44)),231423),(oR 46 (.bin .mul (.t 40) (.t 45)),98431),(oR 47 (.bin .add (.t 35) (.t 46)),0),(oM 7 47,0)])
 (oZ [oM 48 5,oM 49 6,oM 50 8,oR 51 (.bin .add (.t 49) (.t 50)),oM 52 7,oR 53 (.cvi .u32 (.t 52)),oI 54 1 48 51,oS 1 54 53]
 (.reg [oM 55 7,oR 56 (.bin .shr (.t 55) (.k (.i .u64 32))),oM 7 56]))))
 (.reg [oM 25 8,oR 26 (.bin .add (.t 25) (.k (.i .i64 1))),oM 8 26]))))))
 (.reg [oM 57 5,oM 58 6,oM 59 1,oR 60 (.len (.t 59)),oR 61 (.bin .add (.t 58) (.t 60)),oM 62 7,oR 63 (.cvi .u32 (.t 62)),oI 64 1 57 61,oS 1 64 63]))))
 (.reg [oM 19 6,oR 20 (.bin .add (.t 19) (.k (.i .i64 1))),oM 6 20]))))))
 (oZ [oM 65 5,oR 66 (.call 69 [(.t 65)]),oM 4 66]
 .ret)))⟩
noncomputable def g145 : Go.Vse.Fn := ⟨55, [.t 4], oZ [oR 4 (.mv (.k .nils))]
 (oZ [oR 5 (.mv (.k .nils))]
 (oZ [oR 6 (.mv (.k (.i .u64 0)))]
 (.seq (oZ [oR 7 (.mv (.k (.i .i64 0)))]
 (.blk 0 (.loop (.seq (oD [oM 8 7,oM 9 0,oR 10 (.len (.t 9)),oR 11 (.bin .lss (.t 8) (.t 10)),oM 12 11,oH 13 12 (.mv (.t 7)),oH 14 12 (.mv (.t 1)),oH 15 12 (.len (.t 14)),oH 16 12 (.bin .lss (.t 13) (.t 15)),oR 17 (.pick (.t 12) (.k (.b true)) (.t 16))] 17 .skip (.exit 0))
 (.seq (.blk 1 (.seq (oD [oM 20 7,oM 21 0,oR 22 (.len (.t 21)),oR 23 (.bin .lss (.t 20) (.t 22))] 23 (.reg [oM 24 6,oM 25 0,oM 26 7,oI 27 1 25 26,oK 28 1 27,oR 29 (.cvi .u64 (.t 28)),oR 30 (.bin .add (.t 24) (.t 29)),oM 6 30]) .skip)
 (.seq (oD [oM 31 7,oM 32 1,oR 33 (.len (.t 32)),oR 34 (.bin .lss (.t 31) (.t 33))] 34 (.reg [oM 35 6,oM 36 1,oM 37 7,oI 38 1 36 37,oK 39 1 38,oR 40 (.cvi .u64 (.t 39)),oR 41 (.bin .add (.t 35) (.t 40)),oM 6 41]) .skip)
 (oZ [oM 42 5,oM 43 6,oR 44 (.cvi .u32 (.t 43)),oR 45 (.bsf 1 [.i .u32 0] 1 [(0,(.t 44))]),oR 46 (.app 1 4 (.t 42) (.t 45)),oM 5 46]
 (.reg [oM 47 6,oR 48 (.bin .shr (.t 47) (.k (.i .u64 32))),oM 6 48])))))
 (.reg [oM 18 7,oR 19 (.bin .add (.t 18) (.k (.i .i64 1))),oM 7 19]))))))
 (oZ [oM 49 5,oM 50 6,oR 51 (.cvi .u32 (.t 50)),oR 52 (.bsf 1 [.i .u32 0] 1 [(0,(.t 51))]),oR 53 (.app 1 4 (.t 49) (.t 52)),oR 54 (.call 69 [(.t 53)]),oM 4 54]
 .ret))))⟩
noncomputable def g146 : Go.Vse.Fn := ⟨35, [.cell 6 true 3], oZ [oR 6 (.new [.s [],.b false,.nils])]
 (oZ [oM 8 1,oM 9 2,oR 10 (.bld [.s [],.b false,.nils] [(0,1,(.t 8)),(1,1,(.t 9))]),oR 7 (.new [.s [],.b false,.nils]),oS 3 7 10]
 (oZ [oM 11 0,oR 12 (.call 50 [(.t 11),(.k (.s [40]))])]
 (.seq (oD [oM 13 0,oR 14 (.call 84 [(.t 13),(.k (.s [41]))])] 14 (oZ [oL 15 3 7,oS 3 6 15]
 .ret) .skip)
 (.seq (.dreg [(oF 16 2 7,0),(oK 17 1 16,0),(oM 18 0,3),(oR 19 (.call 147 [(.t 18)]),3),(oR 20 (.bsf 4 [.s [],.i .i64 0,.i .i64 0,.s []] 1 [(0,(.t 19))]),3),(oR 21 (.app 4 48 (.t 17) (.t 20)),0),(oF 22 2 7,0),(oS 1 22 21,0)])
 (.seq (.blk 0 (.loop (.seq (oD [oM 23 0,oR 24 (.call 84 [(.t 23),(.k (.s [44]))])] 24 .skip (.exit 0))
 (.blk 1 (.dreg [(oF 25 2 7,0),(oK 26 1 25,0),(oM 27 0,3),(oR 28 (.call 147 [(.t 27)]),3),(oR 29 (.bsf 4 [.s [],.i .i64 0,.i .i64 0,.s []] 1 [(0,(.t 28))]),3),(oR 30 (.app 4 48 (.t 26) (.t 29)),0),(oF 31 2 7,0),(oS 1 31 30,0)])))))
 (oZ [oM 32 0,oR 33 (.call 50 [(.t 32),(.k (.s [41]))])]
 (oZ [oL 34 3 7,oS 3 6 34]
 .ret)))))))⟩
noncomputable def g147 : Go.Vse.Fn := ⟨11, [.cell 2 true 4], oZ [oR 2 (.new [.s [],.i .i64 0,.i .i64 0,.s []])]
 (.seq (oD [oM 3 0,oR 4 (.call 166 [(.t 3),(.k (.i .i64 1))])] 4 (oZ [oM 5 0,oR 6 (.call 85 [(.t 5)]),oR 7 (.bld [.s [],.i .i64 0,.i .i64 0,.s []] [(0,1,(.t 6))]),oS 4 2 7]
 .ret) .skip)
 (oZ [oM 8 0,oR 9 (.call 167 [(.t 8)]),oR 10 (.bld [.s [],.i .i64 0,.i .i64 0,.s []] [(1,3,(.t 9))]),oS 4 2 10]
 .ret))⟩
noncomputable def g148 : Go.Vse.Fn := ⟨16, [.t 2], oZ [oR 2 (.mv (.k (.i .i64 0)))]
 (.seq (oZ [oM 3 0,oR 4 (.call 116 [(.t 3),(.k (.i .i64 4))])]
 (.blk 0 (oD [oR 6 (.bin .eql (.t 4) (.k (.s [61]))),oM 5 6] 5 (oZ [oR 2 (.mv (.k (.i .i64 1)))]
 .ret) (oD [oR 8 (.bin .eql (.t 4) (.k (.s [33,61]))),oM 7 8] 7 (oZ [oR 2 (.mv (.k (.i .i64 2)))]
 .ret) (oD [oR 10 (.bin .eql (.t 4) (.k (.s [60]))),oM 9 10] 9 (oZ [oR 2 (.mv (.k (.i .i64 3)))]
 .ret) (oD [oR 12 (.bin .eql (.t 4) (.k (.s [60,61]))),oM 11 12] 11 (oZ [oR 2 (.mv (.k (.i .i64 4)))]
 .ret) .skip))))))
 (oZ [oM 13 0,oR 14 (.nck (.t 13)),oF 15 2 14,oN (.st 1 (.t 15) (.k (.b true)))]
 (oZ [oR 2 (.mv (.k (.i .i64 0)))]
 .ret)))⟩
noncomputable def g149 : Go.Vse.Fn := ⟨31, [.t 2], oZ [oR 1 (.box (.t 0)),oR 2 (.mv (.k (.b false)))]
 (.seq (oD [oF 3 1 1,oF 4 0 3,oK 5 1 4,oR 6 (.bin .eql (.t 5) (.k (.s []))),oM 7 6,oG 8 7 (.fa 5 (.t 1)),oG 9 7 (.fa 0 (.t 8)),oG 10 7 (.ld false 1 (.t 9)),oG 11 7 (.bin .eql (.t 10) (.k (.s []))),oR 12 (.pick (.t 7) (.t 11) (.k (.b false)))] 12 (oZ [oL 13 9 1,oR 14 (.callp 168 [(.t 13)]),oR 15 (.un .not (.t 14)),oM 2 15]
 .ret) .skip)
 (oZ [oF 16 1 1,oL 17 4 16,oF 18 5 1,oL 19 4 18,oR 20 (.callp 128 [(.t 17),(.t 19)]),oM 21 20,oG 22 21 (.fa 0 (.t 1)),oG 23 21 (.ld false 1 (.t 22)),oG 24 21 (.bin .eql (.t 23) (.k (.i .i64 2))),oG 25 21 (.mv (.t 24)),oH 26 25 (.fa 0 (.t 1)),oH 27 25 (.ld false 1 (.t 26)),oH 28 25 (.bin .eql (.t 27) (.k (.i .i64 3))),oG 29 21 (.pick (.t 25) (.k (.b true)) (.t 28)),oR 30 (.pick (.t 21) (.t 29) (.k (.b false))),oM 2 30]
 .ret))⟩
noncomputable def g150 : Go.Vse.Fn := ⟨19, [.t 4], oZ [oR 4 (.mv (.k (.i .i64 0)))]
 (.seq (oZ [oM 6 0,oR 7 (.len (.t 6)),oR 8 (.mv (.k (.i .i64 0)))]
 (.blk 0 (.loop (oZ [oR 9 (.bin .lss (.t 8) (.t 7))]
 (.seq (.cond (.t 9) .skip (.exit 0))
 (.seq (.blk 1 (oZ [oM 10 8,oM 5 10]
 (oD [oM 11 1,oM 12 0,oM 13 5,oI 14 9 12 13,oL 15 9 14,oR 16 (.callv (.t 11) [(.t 15)])] 16 (oZ [oM 17 5,oM 4 17]
 .ret) .skip)))
 (.reg [oR 18 (.bin .add (.t 8) (.k (.i .i64 1))),oM 8 18])))))))
 (oZ [oR 4 (.mv (.k (.i .i64 (-1))))]
 .ret))⟩
noncomputable def g151 : Go.Vse.Fn := ⟨30, [.t 2], oZ [oR 1 (.box (.t 0)),oR 2 (.mv (.k (.b false)))]
 (.seq (oD [oF 3 1 1,oF 4 0 3,oK 5 1 4,oR 6 (.bin .eql (.t 5) (.k (.s []))),oM 7 6,oG 8 7 (.fa 5 (.t 1)),oG 9 7 (.fa 0 (.t 8)),oG 10 7 (.ld false 1 (.t 9)),oG 11 7 (.bin .eql (.t 10) (.k (.s []))),oR 12 (.pick (.t 7) (.t 11) (.k (.b false)))] 12 (oZ [oL 13 9 1,oR 14 (.callp 168 [(.t 13)]),oM 2 14]
 .ret) .skip)
 (oZ [oF 15 1 1,oL 16 4 15,oF 17 5 1,oL 18 4 17,oR 19 (.callp 128 [(.t 16),(.t 18)]),oM 20 19,oG 21 20 (.fa 0 (.t 1)),oG 22 20 (.ld false 1 (.t 21)),oG 23 20 (.bin .eql (.t 22) (.k (.i .i64 1))),oG 24 20 (.mv (.t 23)),oH 25 24 (.fa 0 (.t 1)),oH 26 24 (.ld false 1 (.t 25)),oH 27 24 (.bin .eql (.t 26) (.k (.i .i64 4))),oG 28 20 (.pick (.t 24) (.k (.b true)) (.t 27)),oR 29 (.pick (.t 20) (.t 28) (.k (.b false))),oM 2 29]
 .ret))⟩
noncomputable def g154 : Go.Vse.Fn := ⟨19, [.t 3], oZ [oR 2 (.box (.t 0)),oR 3 (.mv (.k (.b false)))]
 (oZ [oF 4 0 2,oK 5 1 4,oR 6 (.bin .eql (.t 5) (.k (.i .i64 1))),oM 7 6,oG 8 7 (.ld false 1 (.t 1)),oG 9 7 (.fa 1 (.t 2)),oG 10 7 (.ld true 4 (.t 9)),oG 11 7 (.callv (.t 8) [(.t 10)]),oG 12 7 (.mv (.t 11)),oH 13 12 (.ld false 1 (.t 1)),oH 14 12 (.fa 5 (.t 2)),oH 15 12 (.ld true 4 (.t 14)),oH 16 12 (.callv (.t 13) [(.t 15)]),oG 17 7 (.pick (.t 12) (.k (.b true)) (.t 16)),oR 18 (.pick (.t 7) (.t 17) (.k (.b false))),oM 3 18]
 .ret)⟩
noncomputable def g157 : Go.Vse.Fn := ⟨9, [.t 4], oZ [oR 4 (.mv (.k (.b false)))]
 (oZ [oM 5 0,oM 6 1,oR 7 (.call 171 [(.t 5),(.t 6)]),oR 8 (.bin .geq (.t 7) (.k (.i .i64 0))),oM 4 8]
 .ret)⟩
noncomputable def g158 : Go.Vse.Fn := ⟨41, [.t 7], oZ [oR 6 (.box (.t 0)),oR 7 (.mv (.k (.b false)))]
 (.seq (.dreg [(oF 8 0 6,0),(oK 9 1 8,0),(oK 10 1 1,3),(oR 11 (.bin .eql (.t 9) (.t 10)),0),(oM 12 11,0),(oG 13 12 (.ld false 1 (.t 2)),0),(oG 14 12 (.ld false 1 (.t 3)),32),(oG 15 12 (.mm true (.t 13) (.t 14)),0),(oG 16 12 (.fa 2 (.t 6)),224),(oG 17 12 (.ld false 1 (.t 16)),224),(oG 18 12 (.len (.t 17)),224),(oG 19 12 (.bin .lss (.t 15) (.t 18)),0),(oR 20 (.pick (.t 12) (.t 19) (.k (.b false))),0),(oM 21 20,0),(oG 22 21 (.fa 2 (.t 6)),0),(oG 23 21 (.ld false 1 (.t 22)),0),(oG 24 21 (.ld false 1 (.t 2)),49152),(oG 25 21 (.ia 4 (.t 23) (.t 24)),0),(oG 26 21 (.fa 0 (.t 25)),0),(oG 27 21 (.ld false 1 (.t 26)),0),(oG 28 21 (.ld false 1 (.t 4)),1032192),(oG 29 21 (.bin .eql (.t 27) (.t 28)),0),(oR 30 (.pick (.t 21) (.t 29) (.k (.b false))),0),(oM 31 30,0),(oG 32 31 (.fa 2 (.t 6)),0),(oG 33 31 (.ld false 1 (.t 32)),0),(oG 34 31 (.ld false 1 (.t 3)),50331648),(oG 35 31 (.ia 4 (.t 33) (.t 34)),0),(oG 36 31 (.fa 0 (.t 35)),0),(oG 37 31 (.ld false 1 (.t 36)),0),(oG 38 31 (.ld false 1 (.t 5)),1056964608),(oG 39 31 (.bin .eql (.t 37) (.t 38)),0),(oR 40 (.pick (.t 31) (.t 39) (.k (.b false))),0),(oM 7 40,0)])
 .ret)⟩
noncomputable def g165 : Go.Vse.Fn := ⟨11, [.cell 2 true 3], oZ [oR 1 (.box (.t 0)),oR 2 (.new [.b false,.nils,.nils])]
 (oZ [oF 3 0 1,oK 4 1 3,oR 5 (.un .not (.t 4)),oF 6 1 1,oK 7 1 6,oF 8 2 1,oK 9 1 8,oR 10 (.callp 32 [(.t 5),(.t 7),(.t 9)]),oS 3 2 10]
 .ret)⟩
noncomputable def g166 : Go.Vse.Fn := ⟨37, [.t 4], oZ [oR 4 (.mv (.k (.b false)))]
 (.seq (.dreg [(oM 5 0,0),(oR 6 (.nck (.t 5)),0),(oF 7 2 6,0),(oK 8 1 7,0),(oR 9 (.un .not (.t 8)),0),(oM 10 9,0),(oG 11 10 (.mv (.t 0)),0),(oG 12 10 (.nck (.t 11)),0),(oG 13 10 (.fa 1 (.t 12)),0),(oG 14 10 (.ld false 1 (.t 13)),0),(oG 15 10 (.mv (.t 0)),960),(oG 16 10 (.nck (.t 15)),960),(oG 17 10 (.fa 0 (.t 16)),960),(oG 18 10 (.ld false 1 (.t 17)),960),(oG 19 10 (.len (.t 18)),960),(oG 20 10 (.bin .lss (.t 14) (.t 19)),0),(oR 21 (.pick (.t 10) (.t 20) (.k (.b false))),0),(oM 22 21,0),(oG 23 22 (.mv (.t 0)),0),(oG 24 22 (.nck (.t 23)),0),(oG 25 22 (.fa 0 (.t 24)),0),(oG 26 22 (.ld false 1 (.t 25)),0),(oG 27 22 (.mv (.t 0)),3932160),(oG 28 22 (.nck (.t 27)),3932160),(oG 29 22 (.fa 1 (.t 28)),3932160),(oG 30 22 (.ld false 1 (.t 29)),3932160),(oG 31 22 (.ia 2 (.t 26) (.t 30)),0),(oG 32 22 (.fa 0 (.t 31)),0),(oG 33 22 (.ld false 1 (.t 32)),0),(oG 34 22 (.mv (.t 1)),536608768),(oG 35 22 (.bin .eql (.t 33) (.t 34)),0),(oR 36 (.pick (.t 22) (.t 35) (.k (.b false))),0),(oM 4 36,0)])
 .ret)⟩
noncomputable def g167 : Go.Vse.Fn := ⟨22, [.cell 2 true 3], oZ [oR 2 (.new [.i .i64 0,.i .i64 0,.s []])]
 (.seq (oD [oM 5 0,oR 6 (.call 166 [(.t 5),(.k (.i .i64 3))])] 6 (oZ [oM 8 0,oR 9 (.call 116 [(.t 8),(.k (.i .i64 3))]),oR 10 (.callp 173 [(.t 9)]),oM 7 10,oR 11 (.ext (.t 7) 0),oR 12 (.ext (.t 7) 1),oR 3 (.new [.i .i64 0,.i .i64 0,.s []]),oS 3 3 11,oM 4 12]
 (.seq (oD [oM 13 4,oR 14 (.un .not (.t 13))] 14 (.reg [oM 15 0,oR 16 (.nck (.t 15)),oF 17 2 16,oN (.st 1 (.t 17) (.k (.b true)))]) .skip)
 (oZ [oL 18 3 3,oS 3 2 18]
 .ret))) .skip)
 (oZ [oM 19 0,oR 20 (.call 174 [(.t 19)]),oR 21 (.callp 6 [(.t 20)]),oS 3 2 21]
 .ret))⟩
noncomputable def g171 : Go.Vse.Fn := ⟨19, [.t 4], oZ [oR 4 (.mv (.k (.i .i64 0)))]
 (.seq (oZ [oM 6 0,oR 7 (.len (.t 6)),oR 8 (.mv (.k (.i .i64 0)))]
 (.blk 0 (.loop (oZ [oR 9 (.bin .lss (.t 8) (.t 7))]
 (.seq (.cond (.t 9) .skip (.exit 0))
 (.seq (.blk 1 (oZ [oM 10 8,oM 5 10]
 (oD [oM 11 1,oM 12 0,oM 13 5,oI 14 3 12 13,oL 15 3 14,oR 16 (.callv (.t 11) [(.t 15)])] 16 (oZ [oM 17 5,oM 4 17]
 .ret) .skip)))
 (.reg [oR 18 (.bin .add (.t 8) (.k (.i .i64 1))),oM 8 18])))))))
 (oZ [oR 4 (.mv (.k (.i .i64 (-1))))]
 .ret))⟩
noncomputable def g173 : Go.Vse.Fn := ⟨87, [.cell 2 true 3,.t 3], oZ [oR 2 (.new [.i .i64 0,.i .i64 0,.s []]),oR 3 (.mv (.k (.b false)))]
 (.seq (oD [oM 7 0,oR 8 (.lns (.t 7)),oR 9 (.bin .gtr (.t 8) (.k (.i .i64 130))),oM 10 9,oH 11 10 (.mv (.t 0)),oH 12 10 (.bin .eql (.t 11) (.k (.s []))),oR 13 (.pick (.t 10) (.k (.b true)) (.t 12))] 13 (oZ [oR 14 (.bld [.i .i64 0,.i .i64 0,.s []] []),oS 3 2 14,oR 3 (.mv (.k (.b false)))]
 .ret) .skip)
 (oZ [oR 15 (.bld [.i .i64 0,.i .i64 0,.s []] []),oR 4 (.new [.i .i64 0,.i .i64 0,.s []]),oS 3 4 15]
 (.seq (oD [oM 16 0,oR 17 (.ixs (.t 16) (.k (.i .i64 0))),oR 18 (.bin .eql (.t 17) (.k (.i .u8 39)))] 18 (oZ [oF 19 0 4,oN (.st 1 (.t 19) (.k (.i .i64 2)))]
 (oZ [oR 5 (.mv (.k (.i .i64 1)))]
 (.blk 0 (.loop (.seq (oD [oM 20 5,oR 21 (.bin .add (.t 20) (.k (.i .i64 1))),oM 22 0,oR 23 (.lns (.t 22)),oR 24 (.bin .lss (.t 21) (.t 23))] 24 .skip (.exit 0))
 (.seq (.blk 1 (.seq (.dreg [(oF 27 2 4,0),(oK 28 1 27,0),(oM 29 0,3),(oM 30 5,7),(oM 31 5,15),(oR 32 (.bin .add (.t 31) (.k (.i .i64 1))),15),(oR 33 (.sls (.t 29) (some (.t 30)) (some (.t 32))),3),(oR 34 (.bin .add (.t 28) (.t 33)),0),(oF 35 2 4,0),(oS 1 35 34,0)])
 (oD [oM 36 0,oM 37 5,oR 38 (.ixs (.t 36) (.t 37)),oR 39 (.bin .eql (.t 38) (.k (.i .u8 39)))] 39 (.reg [oM 40 5,oR 41 (.bin .add (.t 40) (.k (.i .i64 1))),oM 5 41]) .skip)))
 (.reg [oM 25 5,oR 26 (.bin .add (.t 25) (.k (.i .i64 1))),oM 5 26]))))))) (oZ [oF 42 0 4,oN (.st 1 (.t 42) (.k (.i .i64 1)))]
 (.seq (oZ [oR 6 (.mv (.k (.i .i64 0)))]
 (.blk 2 (.loop (.seq (oD [oM 43 6,oM 44 0,oR 45 (.lns (.t 44)),oR 46 (.bin .lss (.t 43) (.t 45))] 46 .skip (.exit 2))
 (.seq (.blk 3 (oD [oM 49 0,oM 50 6,oR 51 (.ixs (.t 49) (.t 50)),oR 52 (.bin .geq (.t 51) (.k (.i .u8 48))),oM 53 52,oG 54 53 (.mv (.t 0)),oG 55 53 (.mv (.t 6)),oG 56 53 (.ixs (.t 54) (.t 55)),oG 57 53 (.bin .leq (.t 56) (.k (.i .u8 57))),oR 58 (.pick (.t 53) (.t 57) (.k (.b false)))] 58 (.dreg [(oF 59 1 4,0),(oK 60 1 59,0),(oR 61 (.bin .mul (.k (.i .i64 10)) (.t 60)),0),(oM 62 0,7),(oM 63 6,15),(oR 64 (.ixs (.t 62) (.t 63)),7),(oR 65 (.bin .sub (.t 64) (.k (.i .u8 48))),7),(oR 66 (.cvi .i64 (.t 65)),7),(oR 67 (.bin .sub (.t 61) (.t 66)),0),(oF 68 1 4,0),(oS 1 68 67,0)]) .skip))
 (.reg [oM 47 6,oR 48 (.bin .add (.t 47) (.k (.i .i64 1))),oM 6 48]))))))
 (oD [oM 69 0,oR 70 (.ixs (.t 69) (.k (.i .i64 0))),oR 71 (.bin .neq (.t 70) (.k (.i .u8 45))),oM 72 71,oG 73 72 (.fa 1 (.t 4)),oG 74 72 (.ld false 1 (.t 73)),oG 75 72 (.bin .neq (.t 74) (.k (.i .i64 (-9223372036854775808)))),oR 76 (.pick (.t 72) (.t 75) (.k (.b false)))] 76 (.reg [oF 77 1 4,oK 78 1 77,oR 79 (.un .neg (.t 78)),oF 80 1 4,oS 1 80 79]) .skip))))
 (.seq (oD [oL 81 3 4,oR 82 (.callp 175 [(.t 81)]),oM 83 0,oR 84 (.bin .neq (.t 82) (.t 83))] 84 (oZ [oR 85 (.bld [.i .i64 0,.i .i64 0,.s []] []),oS 3 2 85,oR 3 (.mv (.k (.b false)))]
 .ret) .skip)
 (oZ [oL 86 3 4,oS 3 2 86,oR 3 (.mv (.k (.b true)))]
 .ret)))))⟩
end Go.Proofs.YtffjpakgkecheaaGreat
