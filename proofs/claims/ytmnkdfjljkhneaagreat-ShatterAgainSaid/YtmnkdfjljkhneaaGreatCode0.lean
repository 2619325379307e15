/- The resolved code of the functions that the laws reach. Written by program. -/
import Derived.Test.YtmnkdfjljkhneaaGreatVe
set_option linter.all false
noncomputable section
namespace Go.Proofs.YtmnkdfjljkhneaaGreat
open Go.Vse
open Go (BinOp IntKind UnOp)
set_option maxRecDepth 10000
def oR(d:Nat)(x:O A):Go.Vse.Op:=⟨some d,none,x⟩
def oM(d s:Nat):Go.Vse.Op:=⟨some d,none,.mv (.t s)⟩
def oN(x:O A):Go.Vse.Op:=⟨none,none,x⟩
def oG(d g:Nat)(x:O A):Go.Vse.Op:=⟨some d,some (g,true),x⟩
def oH(d g:Nat)(x:O A):Go.Vse.Op:=⟨some d,some (g,false),x⟩
def oF(d n s:Nat):Go.Vse.Op:=⟨some d,none,.fa n (.t s)⟩
def oL(d n s:Nat):Go.Vse.Op:=⟨some d,none,.ld true n (.t s)⟩
def oK(d n s:Nat):Go.Vse.Op:=⟨some d,none,.ld false n (.t s)⟩
def oI(d n a b:Nat):Go.Vse.Op:=⟨some d,none,.ia n (.t a) (.t b)⟩
def oS(n a b:Nat):Go.Vse.Op:=⟨none,none,.st n (.t a) (.t b)⟩
def oZ(l:List Go.Vse.Op)(c:C):C:= .seq (.reg l) c
def oD(l:List Go.Vse.Op)(i:Nat)(a b:C):C:= .seq (.reg l) (.cond (.t i) a b)
def oC(d:Nat)(k:Int):=oR d (.mv (.k (.i .i64 k)))
def oE(d a:Nat):=oR d (.len (.t a))
def oA(d a:Nat)(k:Int):=oR d (.bin .add (.t a) (.k (.i .i64 k)))
def oB1(d a:Nat)(k:Int):=oR d (.bin .sub (.t a) (.k (.i .i64 k)))
def oU(d g a:Nat):=oG d g (.mv (.t a))
def oJ(d a b:Nat):=oR d (.bin .lss (.t a) (.t b))
def oO(d:Nat):=oR d (.mv (.k (.b false)))
def oT(d:Nat):=oR d (.mv (.k (.b true)))
def oP(d a b:Nat):=oR d (.pick (.t a) (.t b) (.k (.b false)))
def oX(d a:Nat):=oR d (.box (.t a))
def oY(d a:Nat):=oR d (.nck (.t a))
def oQ(d a n:Nat):=oR d (.ext (.t a) n)
def oV(d f a:Nat):=oR d (.callp f [.t a])
def oW(d f a b:Nat):=oR d (.callp f [.t a,.t b])
def oV1(d f a:Nat):=oR d (.call f [.t a])
def oW1(d f a b:Nat):=oR d (.call f [.t a,.t b])
def oL1(d g n a:Nat):=oG d g (.ld true n (.t a))
def oK1(d g n a:Nat):=oG d g (.ld false n (.t a))
def oF1(d g n a:Nat):=oG d g (.fa n (.t a))
def oI1(d g n a b:Nat):=oG d g (.ia n (.t a) (.t b))
def oN1(d:Nat):=oR d (.mv (.k .nils))
def oA1(d n w a b:Nat):=oR d (.app n w (.t a) (.t b))
def oE1(d a:Nat)(k:Int):=oR d (.bin .eql (.t a) (.k (.i .i64 k)))
def oG1(d a:Nat)(k:Int):=oR d (.bin .geq (.t a) (.k (.i .i64 k)))
def oJ1(d a:Nat)(k:Int):=oR d (.bin .lss (.t a) (.k (.i .i64 k)))
def oU1(d a:Nat):=oR d (.un .not (.t a))
def oD1(d a b:Nat):=oR d (.bin .add (.t a) (.t b))
def oS1(d a b:Nat):=oR d (.bin .sub (.t a) (.t b))
def oP1(d a b:Nat):=oR d (.pick (.t a) (.k (.b true)) (.t b))
def oM1(d g a:Nat):=oH d g (.mv (.t a))
def oF2(d g n a:Nat):=oH d g (.fa n (.t a))
def oK2(d g n a:Nat):=oH d g (.ld false n (.t a))
def oW2(d g f a b:Nat):=oG d g (.callp f [.t a,.t b])
def oR0(d:Nat):=oR d (.new [.nils,.nils])
def rU:=qI @oC.eq_1 (qI @oE.eq_1 (qI @oA.eq_1 (qI @oB1.eq_1 (qI @oU.eq_1 (qI @oJ.eq_1 (qI @oO.eq_1 (qI @oT.eq_1 (qI @oP.eq_1 (qI @oX.eq_1 (qI @oY.eq_1 (qI @oQ.eq_1 (qI @oV.eq_1 (qI @oW.eq_1 (qI @oV1.eq_1 (qI @oW1.eq_1 (qI @oL1.eq_1 (qI @oK1.eq_1 (qI @oF1.eq_1 (qI @oI1.eq_1 (qI @oN1.eq_1 (qI @oA1.eq_1 (qI @oE1.eq_1 (qI @oG1.eq_1 (qI @oJ1.eq_1 (qI @oU1.eq_1 (qI @oD1.eq_1 (qI @oS1.eq_1 (qI @oP1.eq_1 (qI @oM1.eq_1 (qI @oF2.eq_1 (qI @oK2.eq_1 (qI @oW2.eq_1 (qI @oR0.eq_1 (qI @oR.eq_1 (qI @oM.eq_1 (qI @oN.eq_1 (qI @oG.eq_1 (qI @oH.eq_1 (qI @oF.eq_1 (qI @oL.eq_1 (qI @oK.eq_1 (qI @oI.eq_1 (qI @oS.eq_1 (qI @oZ.eq_1 (@oD.eq_1)))))))))))))))))))))))))))))))))))))))))))))
def g3:Go.Vse.Fn:=⟨122,[.t 8],oZ [oO 8]
 (oZ [oM 22 0,oM 23 1,oW 24 6 22 23,oR0 9,oS 2 9 24]
 (oZ [oR 25 (.bsl 1 [.s []] 4 [(0,(.k (.s [120]))),(1,(.k (.s [121]))),(2,(.k (.s []))),(3,(.k (.s [113])))]),oM 26 3,oR 27 (.bin .and (.t 26) (.k (.i .u8 3))),oI 28 1 25 27,oK 29 1 28,oM 10 29]
 (.seq (.dreg [(oF 30 1 9,0),(oK 31 1 30,0),(oR 32 (.ia 2 (.t 31) (.k (.i .i64 0))),0),(oL 33 2 32,0),(oM 34 10,15),(oM 35 2,31),(oV 36 8 35,31),(oR 37 (.callp 7 [(.t 33),(.t 34),(.t 36)]),0),(oF 38 1 9,255),(oK 39 1 38,255),(oR 40 (.ia 2 (.t 39) (.k (.i .i64 0))),255),(oL 41 2 40,255),(oM 42 10,4095),(oM 43 2,8191),(oV 44 8 43,7936),(oR 45 (.callp 9 [(.t 41),(.t 42),(.t 44)]),0),(oM 11 37,0),(oM 12 45,0)])
 (.seq (oD [oM 46 11,oE 47 46,oM 48 12,oE 49 48,oR 50 (.bin .neq (.t 47) (.t 49))] 50 (oZ [oO 8]
 .ret) .skip)
 (.seq (oZ [oC 13 0]
 (.blk 0 (.loop (.seq (oD [oM 51 13,oM 52 11,oE 53 52,oJ 54 51 53] 54 .skip (.exit 0))
 (.seq (.blk 1 (.seq (.dreg [(oM 57 11,0),(oM 58 13,1),(oI 59 2 57 58,0),(oL 60 2 59,0),(oM 61 12,15),(oM 62 13,31),(oI 63 2 61 62,15),(oL 64 2 63,15),(oW 65 10 60 64,0),(oU1 66 65,0)])
 (.cond (.t 66) (oZ [oO 8]
 .ret) .skip)))
 (.reg [oM 55 13,oA 56 55 1,oM 13 56]))))))
 (oZ [oL 68 2 9,oV 69 11 68,oM 67 69,oQ 70 67 0,oQ 71 67 1,oR0 14,oS 2 14 70,oM 15 71]
 (oZ [oL 73 2 9,oV 74 12 73,oM 72 74,oQ 75 72 0,oQ 76 72 1,oR0 16,oS 2 16 75,oM 17 76]
 (oZ [oL 78 2 9,oV 79 13 78,oM 77 79,oQ 80 77 0,oQ 81 77 1,oR0 18,oS 2 18 80,oM 19 81]
 (oZ [oL 83 2 9,oV 84 14 83,oM 82 84,oQ 85 82 0,oQ 86 82 1,oR0 20,oS 2 20 85,oM 21 86]
 (.seq (.dreg [(oL 87 2 9,0),(oV 88 16 87,0),(oL 89 2 9,3),(oV 90 17 89,0),(oW 91 15 88 90,0),(oM 92 91,0),(oL1 93 92 2 9,0),(oG 94 92 (.call 19 [(.t 93)]),0),(oL1 95 92 2 9,192),(oG 96 92 (.callp 20 [(.t 95)]),0),(oW2 97 92 18 94 96,0),(oP 98 92 97,0),(oM 99 98,0),(oL1 100 99 2 14,0),(oL1 101 99 2 16,8192),(oW2 102 99 18 100 101,0),(oP 103 99 102,0),(oM 104 103,0),(oU 105 104 15,0),(oU 106 104 17,262144),(oG 107 104 (.bin .eql (.t 105) (.t 106)),0),(oP 108 104 107,0),(oM 109 108,0),(oL1 110 109 2 18,0),(oL1 111 109 2 20,8388608),(oW2 112 109 18 110 111,0),(oP 113 109 112,0),(oM 114 113,0),(oU 115 114 19,0),(oU 116 114 21,268435456),(oG 117 114 (.bin .eql (.t 115) (.t 116)),0),(oP 118 114 117,0),(oM 119 118,0),(oG 120 119 (.callp 21 []),0),(oP 121 119 120,0),(oM 8 121,0)])
 .ret))))))))))⟩
def g4:Go.Vse.Fn:=⟨169,[.t 4],oZ [oO 4]
 (oZ [oM 17 0,oM 18 1,oW 19 6 17 18,oV 20 11 19,oM 16 20,oQ 21 16 0,oQ 22 16 1,oR0 5,oS 2 5 21,oM 6 22]
 (.seq (oD [oM 23 6,oR 24 (.bin .neq (.t 23) (.k (.i .i64 0)))] 24 (oZ [oM 25 6,oE1 26 25 4,oM 27 26,oG 28 27 (.callp 21 []),oP 29 27 28,oM 4 29]
 .ret) .skip)
 (.seq (oZ [oC 7 0]
 (.blk 0 (.loop (.seq (oD [oM 30 7,oF 31 1 5,oK 32 1 31,oE 33 32,oJ 34 30 33] 34 .skip (.exit 0))
 (.seq (.blk 1 (oZ [oC 8 0]
 (.blk 2 (.loop (.seq (oD [oM 37 8,oF 38 1 5,oK 39 1 38,oM 40 7,oI 41 2 39 40,oF 42 0 41,oK 43 1 42,oE 44 43,oJ 45 37 44] 45 .skip (.exit 2))
 (.seq (.blk 3 (oZ [oF 48 1 5,oK 49 1 48,oM 50 7,oI 51 2 49 50,oF 52 0 51,oK 53 1 52,oM 54 8,oI 55 3 53 54,oL 56 3 55,oR 9 (.new [.s [],.b false,.nils]),oS 3 9 56]
 (oZ [oC 10 0]
 (.blk 4 (.loop (.seq (oD [oM 57 10,oF 58 1 5,oK 59 1 58,oE 60 59,oJ 61 57 60] 61 .skip (.exit 4))
 (.seq (.blk 5 (oZ [oC 11 0]
 (.blk 6 (.loop (.seq (oD [oM 64 11,oF 65 1 5,oK 66 1 65,oM 67 10,oI 68 2 66 67,oF 69 0 68,oK 70 1 69,oE 71 70,oJ 72 64 71] 72 .skip (.exit 6))
 (.seq (.blk 7 (oZ [oF 75 1 5,oK 76 1 75,oM 77 10,oI 78 2 76 77,oF 79 0 78,oK 80 1 79,oM 81 11,oI 82 3 80 81,oL 83 3 82,oR 12 (.new [.s [],.b false,.nils]),oS 3 12 83]
 (oZ [oC 13 0]
 (.blk 8 (.loop (.seq (oD [oM 84 13,oF 85 2 9,oK 86 1 85,oE 87 86,oJ 88 84 87,oM 89 88,oU 90 89 13,oF1 91 89 2 12,oK1 92 89 1 91,oG 93 89 (.len (.t 92)),oG 94 89 (.bin .lss (.t 90) (.t 93)),oP 95 89 94,oM 96 95,oF1 97 96 0 9,oK1 98 96 1 97,oF1 99 96 0 12,oK1 100 96 1 99,oG 101 96 (.bin .eql (.t 98) (.t 100)),oP 102 96 101] 102 .skip (.exit 8))
 (.seq (.blk 9 (oZ [oO 14]
 (.seq (oZ [oC 15 0]
 (.blk 10 (.loop (.seq (oD [oM 105 15,oF 106 0 5,oK 107 1 106,oE 108 107,oJ 109 105 108] 109 .skip (.exit 10))
 (.seq (.blk 11 (.dreg [(oM 112 14,0),(oM 113 112,0),(oF2 114 113 0 5,0),(oK2 115 113 1 114,0),(oM1 116 113 15,12),(oH 117 113 (.ia 1 (.t 115) (.t 116)),0),(oK2 118 113 1 117,0),(oF2 119 113 2 9,124),(oK2 120 113 1 119,124),(oM1 121 113 13,508),(oH 122 113 (.ia 4 (.t 120) (.t 121)),124),(oF2 123 113 0 122,124),(oK2 124 113 1 123,124),(oH 125 113 (.bin .eql (.t 118) (.t 124)),0),(oP1 126 113 125,0),(oM 14 126,0)]))
 (.reg [oM 110 15,oA 111 110 1,oM 15 111]))))))
 (.seq (.dreg [(oF 127 2 9,0),(oK 128 1 127,0),(oM 129 13,3),(oI 130 4 128 129,0),(oF 131 0 130,0),(oK 132 1 131,0),(oR 133 (.bin .neq (.t 132) (.k (.s []))),0),(oM 134 133,0),(oU 135 134 14,0),(oG 136 134 (.un .not (.t 135)),0),(oP 137 134 136,0),(oM 138 137,0),(oF1 139 138 2 12,0),(oK1 140 138 1 139,0),(oU 141 138 13,12288),(oI1 142 138 4 140 141,0),(oF1 143 138 0 142,0),(oK1 144 138 1 143,0),(oG 145 138 (.bin .eql (.t 144) (.k (.s []))),0),(oP 146 138 145,0),(oM 147 146,0),(oF1 148 147 1 5,0),(oK1 149 147 1 148,0),(oU 150 147 7,6291456),(oI1 151 147 2 149 150,0),(oL1 152 147 2 151,0),(oF1 153 147 2 9,65011712),(oK1 154 147 1 153,65011712),(oU 155 147 13,266338304),(oI1 156 147 4 154 155,65011712),(oF1 157 147 0 156,65011712),(oK1 158 147 1 157,65011712),(oF1 159 147 2 12,4292870144),(oK1 160 147 1 159,4292870144),(oU 161 147 13,17177772032),(oI1 162 147 4 160 161,4292870144),(oF1 163 147 1 162,4292870144),(oL1 164 147 3 163,4292870144),(oG 165 147 (.callp 22 [(.t 152),(.t 158),(.t 164)]),0),(oG 166 147 (.un .not (.t 165)),0),(oP 167 147 166,0)])
 (.cond (.t 167) (oZ [oO 4]
 .ret) .skip)))))
 (.reg [oM 103 13,oA 104 103 1,oM 13 104]))))))))
 (.reg [oM 73 11,oA 74 73 1,oM 11 74])))))))
 (.reg [oM 62 10,oA 63 62 1,oM 10 63]))))))))
 (.reg [oM 46 8,oA 47 46 1,oM 8 47])))))))
 (.reg [oM 35 7,oA 36 35 1,oM 7 36]))))))
 (oZ [oR 168 (.callp 21 []),oM 4 168]
 .ret))))⟩
def g5:Go.Vse.Fn:=⟨66,[.t 4],oZ [oO 4]
 (oZ [oM 15 0,oM 16 1,oW 17 6 15 16,oR0 5,oS 2 5 17]
 (oZ [oL 18 2 5,oV1 19 19 18,oR0 6,oS 2 6 19]
 (oZ [oL 21 2 5,oV 22 11 21,oM 20 22,oQ 23 20 0,oQ 24 20 1,oR0 7,oS 2 7 23,oM 8 24]
 (oZ [oL 26 2 5,oV 27 13 26,oM 25 27,oQ 28 25 0,oQ 29 25 1,oR0 9,oS 2 9 28,oM 10 29]
 (.seq (.seq (.dreg [(oL 30 2 6,0),(oV1 31 19 30,0),(oL 32 2 6,3),(oW 33 18 31 32,0),(oU1 34 33,0)])
 (.cond (.t 34) (oZ [oO 4]
 .ret) .skip))
 (.seq (oD [oM 35 8,oE1 36 35 0] 36 (oZ [oL 38 2 7,oV 39 11 38,oM 37 39,oQ 40 37 0,oQ 41 37 1,oR0 11,oS 2 11 40,oM 12 41]
 (oD [oM 42 12,oR 43 (.bin .neq (.t 42) (.k (.i .i64 0))),oM 44 43,oH 45 44 (.ld true 2 (.t 11)),oH 46 44 (.ld true 2 (.t 7)),oH 47 44 (.callp 18 [(.t 45),(.t 46)]),oH 48 44 (.un .not (.t 47)),oP1 49 44 48] 49 (oZ [oO 4]
 .ret) .skip)) .skip)
 (.seq (oD [oM 50 10,oE1 51 50 0] 51 (oZ [oL 53 2 9,oV 54 13 53,oM 52 54,oQ 55 52 0,oQ 56 52 1,oR0 13,oS 2 13 55,oM 14 56]
 (oD [oM 57 14,oR 58 (.bin .neq (.t 57) (.k (.i .i64 0))),oM 59 58,oH 60 59 (.ld true 2 (.t 13)),oH 61 59 (.ld true 2 (.t 9)),oH 62 59 (.callp 18 [(.t 60),(.t 61)]),oH 63 59 (.un .not (.t 62)),oP1 64 59 63] 64 (oZ [oO 4]
 .ret) .skip)) .skip)
 (oZ [oR 65 (.callp 21 []),oM 4 65]
 .ret))))))))⟩
def g6:Go.Vse.Fn:=⟨115,[.cell 4 true 2],oZ [oR0 4]
 (oZ [oM 10 0,oV1 11 23 10,oR0 5,oS 2 5 11]
 (.seq (.dreg [(oF 12 1 5,0),(oK 13 1 12,0),(oM 14 1,3),(oV 15 24 14,3),(oR 16 (.bsf 2 [.nils,.nils] 1 [(0,(.t 15))]),3),(oA1 17 2 48 13 16,0),(oF 18 1 5,0),(oS 1 18 17,0)])
 (.seq (oD [oF 19 0 5,oK 20 1 19,oE 21 20,oE1 22 21 2] 22 (.reg [oF 23 1 5,oK 24 1 23,oF 25 1 5,oK 26 1 25,oE 27 26,oB1 28 27 1,oR 29 (.slc 2 (.t 24) none (some (.t 28)) none),oF 30 1 5,oS 1 30 29]) .skip)
 (.seq (oZ [oC 6 0]
 (.blk 0 (.loop (.seq (oD [oM 31 6,oM 32 1,oR 33 (.bin .shr (.t 32) (.k (.i .u64 6))),oR 34 (.bin .and (.t 33) (.k (.i .i64 3))),oJ 35 31 34] 35 .skip (.exit 0))
 (.seq (.blk 1 (oZ [oM 38 1,oM 39 6,oR 40 (.bin .mul (.k (.i .i64 5)) (.t 39)),oR 41 (.bin .add (.k (.i .i64 8)) (.t 40)),oR 42 (.cvi .u64 (.t 41)),oR 43 (.bin .shr (.t 38) (.t 42)),oR 44 (.bin .and (.t 43) (.k (.i .i64 31))),oM 7 44]
 (oZ [oM 45 7,oR 46 (.bin .and (.t 45) (.k (.i .i64 3))),oR 47 (.bin .add (.k (.i .i64 1)) (.t 46)),oR 48 (.bld [.s [],.i .i64 0,.i .i64 0,.s []] [(0,1,(.k (.s [120])))]),oM 49 7,oR 50 (.bin .shr (.t 49) (.k (.i .u64 2))),oR 51 (.bin .and (.t 50) (.k (.i .i64 3))),oV 52 8 51,oR 53 (.bld [.s [],.i .i64 0,.i .i64 0,.s []] [(1,3,(.t 52))]),oR 54 (.bld [.i .i64 0,.s [],.i .i64 0,.i .i64 0,.s [],.s [],.i .i64 0,.i .i64 0,.s []] [(0,1,(.t 47)),(1,4,(.t 48)),(5,4,(.t 53))]),oR 8 (.new [.i .i64 0,.s [],.i .i64 0,.i .i64 0,.s [],.s [],.i .i64 0,.i .i64 0,.s []]),oS 9 8 54]
 (.seq (oD [oM 55 7,oR 56 (.bin .shr (.t 55) (.k (.i .u64 4))),oE1 57 56 1] 57 (.reg [oR 58 (.bsl 1 [.s []] 2 [(0,(.k (.s [120]))),(1,(.k (.s [121])))]),oM 59 7,oR 60 (.bin .shr (.t 59) (.k (.i .u64 2))),oR 61 (.bin .and (.t 60) (.k (.i .i64 1))),oI 62 1 58 61,oK 63 1 62,oR 64 (.bld [.s [],.i .i64 0,.i .i64 0,.s []] [(0,1,(.t 63))]),oF 65 5 8,oS 4 65 64]) .skip)
 (.seq (oD [oM 66 7,oR 67 (.bin .shr (.t 66) (.k (.i .u64 2))),oR 68 (.bin .and (.t 67) (.k (.i .i64 3))),oE1 69 68 3] 69 (.reg [oR 70 (.callp 8 [(.k (.i .i64 2))]),oR 71 (.bld [.s [],.i .i64 0,.i .i64 0,.s []] [(1,3,(.t 70))]),oF 72 1 8,oS 4 72 71]) .skip)
 (oZ [oM 73 6,oF 74 1 5,oK 75 1 74,oE 76 75,oR 77 (.bin .rem (.t 73) (.t 76)),oM 9 77]
 (oD [oF 78 1 5,oK 79 1 78,oM 80 9,oI 81 2 79 80,oL 82 2 81,oV 83 25 82,oE 84 83,oR 85 (.bin .gtr (.t 84) (.k (.i .i64 1))),oM 86 85,oF2 87 86 5 8,oF2 88 86 0 87,oK2 89 86 1 88,oH 90 86 (.bin .neq (.t 89) (.k (.s [121]))),oP1 91 86 90] 91 (.dreg [(oF 92 1 5,0),(oK 93 1 92,0),(oM 94 9,3),(oF 95 1 5,7),(oK 96 1 95,7),(oM 97 9,31),(oI 98 2 96 97,7),(oF 99 0 98,7),(oK 100 1 99,7),(oF 102 1 5,511),(oK 103 1 102,511),(oM 104 9,2047),(oI 105 2 103 104,511),(oF 106 1 105,511),(oK 107 1 106,511),(oL 109 9 8,32767),(oR 101 (.bsl 9 [.i .i64 0,.s [],.i .i64 0,.i .i64 0,.s [],.s [],.i .i64 0,.i .i64 0,.s []] 0 []),65535),(oA1 108 9 104 101 107,33279),(oR 110 (.bsf 9 [.i .i64 0,.s [],.i .i64 0,.i .i64 0,.s [],.s [],.i .i64 0,.i .i64 0,.s []] 1 [(0,(.t 109))]),229375),(oA1 111 9 104 108 110,511),(oR 112 (.bld [.nils,.nils] [(0,1,(.t 100)),(1,1,(.t 111))]),7),(oI 113 2 93 94,0),(oS 2 113 112,0)]) .skip)))))))
 (.reg [oM 36 6,oA 37 36 1,oM 6 37]))))))
 (oZ [oL 114 2 5,oS 2 4 114]
 .ret)))))⟩
def g7:Go.Vse.Fn:=⟨21,[.t 6],oZ [oX 3 0,oX 5 2,oN1 6]
 (.seq (oD [oM 7 1,oR 8 (.bin .eql (.t 7) (.k (.s [])))] 8 (oZ [oN1 6]
 .ret) .skip)
 (.seq (.dreg [(oL 9 2 3,0),(oM 10 1,1),(oL 11 3 5,3),(oR 12 (.callp 27 [(.t 9),(.t 10),(.t 11)]),0),(oV 13 26 12,0),(oL 14 2 3,31),(oM 15 1,63),(oR 16 (.bld [.s [],.i .i64 0,.i .i64 0,.s []] [(0,1,(.t 15))]),63),(oL 17 3 5,255),(oR 18 (.bld [.s [],.i .i64 0,.i .i64 0,.s []] [(1,3,(.t 17))]),255),(oR 19 (.callp 28 [(.t 14),(.k (.i .i64 2)),(.t 16),(.t 18)]),0),(oR 20 (.bsl 2 [.nils,.nils] 2 [(0,(.t 13)),(1,(.t 19))]),0),(oM 6 20,0)])
 .ret))⟩
def g8:Go.Vse.Fn:=⟨5,[.cell 2 true 3],oZ [oR 2 (.new [.i .i64 0,.i .i64 0,.s []])]
 (oZ [oM 3 0,oR 4 (.bld [.i .i64 0,.i .i64 0,.s []] [(0,1,(.k (.i .i64 1))),(1,1,(.t 3))]),oS 3 2 4]
 .ret)⟩
def g11:Go.Vse.Fn:=⟨8,[.cell 2 true 2,.t 3],oZ [oX 1 0,oR0 2,oC 3 0]
 (oZ [oL 4 2 1,oR 5 (.call 31 [(.t 4),(.k (.fn 32))]),oQ 6 5 0,oQ 7 5 1,oS 2 2 6,oM 3 7]
 .ret)⟩
def g13:Go.Vse.Fn:=⟨8,[.cell 2 true 2,.t 3],oZ [oX 1 0,oR0 2,oC 3 0]
 (oZ [oL 4 2 1,oR 5 (.call 31 [(.t 4),(.k (.fn 37))]),oQ 6 5 0,oQ 7 5 1,oS 2 2 6,oM 3 7]
 .ret)⟩
def g16:Go.Vse.Fn:=⟨61,[.t 2],oZ [oX 1 0,oN1 2]
 (oZ [oR 3 (.new [.nils])]
 (oZ [oR 13 (.mkf 42 [] [(.t 3)]),oM 4 13]
 (.seq (oZ [oF 14 1 1,oK 15 1 14,oE 16 15,oC 17 0]
 (.blk 0 (.loop (oZ [oJ 18 17 16]
 (.seq (.cond (.t 18) .skip (.exit 0))
 (.seq (.blk 1 (oZ [oI 19 2 15 17,oL 20 2 19,oR0 6,oS 2 6 20]
 (.seq (oZ [oF 21 0 6,oK 22 1 21,oE 23 22,oC 24 0]
 (.blk 2 (.loop (oZ [oJ 25 24 23]
 (.seq (.cond (.t 25) .skip (.exit 2))
 (.seq (.blk 3 (oZ [oI 26 3 22 24,oL 27 3 26,oR 8 (.new [.s [],.b false,.nils]),oS 3 8 27]
 (oZ [oF 28 2 8,oK 29 1 28,oE 30 29,oC 31 0]
 (.blk 4 (.loop (oZ [oJ 32 31 30]
 (.seq (.cond (.t 32) .skip (.exit 4))
 (.seq (.blk 5 (oZ [oI 33 4 29 31,oL 34 4 33,oR 10 (.new [.s [],.i .i64 0,.i .i64 0,.s []]),oS 4 10 34]
 (.reg [oM 35 4,oL 36 4 10,oR 37 (.callv (.t 35) [(.t 36)])])))
 (.reg [oA 38 31 1,oM 31 38])))))))))
 (.reg [oA 39 24 1,oM 24 39])))))))
 (oZ [oF 40 1 6,oK 41 1 40,oE 42 41,oC 43 0]
 (.blk 6 (.loop (oZ [oJ 44 43 42]
 (.seq (.cond (.t 44) .skip (.exit 6))
 (.seq (.blk 7 (oZ [oI 45 9 41 43,oL 46 9 45,oR 12 (.new [.i .i64 0,.s [],.i .i64 0,.i .i64 0,.s [],.s [],.i .i64 0,.i .i64 0,.s []]),oS 9 12 46]
 (oZ [oM 47 4,oF 48 1 12,oL 49 4 48,oR 50 (.callv (.t 47) [(.t 49)])]
 (.reg [oM 51 4,oF 52 5 12,oL 53 4 52,oR 54 (.callv (.t 51) [(.t 53)])]))))
 (.reg [oA 55 43 1,oM 43 55]))))))))))
 (.reg [oA 56 17 1,oM 17 56])))))))
 (oZ [oK 57 1 3,oR 58 (.call 43 [(.t 57),(.k (.fn 44))])]
 (oZ [oK 59 1 3,oR 60 (.call 45 [(.t 59),(.k (.fn 46))]),oM 2 60]
 .ret)))))⟩
def g18:Go.Vse.Fn:=⟨40,[.t 4],oZ [oX 2 0,oX 3 1,oO 4]
 (.seq (oD [oF 6 0 2,oK 7 1 6,oF 8 0 3,oK 9 1 8,oW 10 49 7 9,oU1 11 10,oM 12 11,oF2 13 12 1 2,oK2 14 12 1 13,oH 15 12 (.len (.t 14)),oF2 16 12 1 3,oK2 17 12 1 16,oH 18 12 (.len (.t 17)),oH 19 12 (.bin .neq (.t 15) (.t 18)),oP1 20 12 19] 20 (oZ [oO 4]
 .ret) .skip)
 (.seq (oZ [oC 5 0]
 (.blk 0 (.loop (.seq (oD [oM 21 5,oF 22 1 2,oK 23 1 22,oE 24 23,oJ 25 21 24] 25 .skip (.exit 0))
 (.seq (.blk 1 (.seq (.dreg [(oF 28 1 2,0),(oK 29 1 28,0),(oM 30 5,3),(oI 31 2 29 30,0),(oL 32 2 31,0),(oF 33 1 3,31),(oK 34 1 33,31),(oM 35 5,127),(oI 36 2 34 35,31),(oL 37 2 36,31),(oW 38 50 32 37,0),(oR 39 (.bin .neq (.t 38) (.k (.i .i64 0))),0)])
 (.cond (.t 39) (oZ [oO 4]
 .ret) .skip)))
 (.reg [oM 26 5,oA 27 26 1,oM 5 27]))))))
 (oZ [oT 4]
 .ret)))⟩
def g19:Go.Vse.Fn:=⟨36,[.cell 2 true 2],oZ [oX 1 0,oR0 2]
 (oZ [oF 8 0 1,oK 9 1 8,oV1 10 51 9,oR 11 (.bld [.nils,.nils] [(0,1,(.t 10))]),oR0 3,oS 2 3 11]
 (.seq (oZ [oF 12 1 1,oK 13 1 12,oE 14 13,oC 15 0]
 (.blk 0 (.loop (oZ [oJ 16 15 14]
 (.seq (.cond (.t 16) .skip (.exit 0))
 (.seq (.blk 1 (oZ [oI 17 2 13 15,oL 18 2 17,oR0 5,oS 2 5 18]
 (.seq (.dreg [(oL 20 2 5,0),(oV1 21 26 20,0),(oF 22 0 1,3),(oK 23 1 22,3),(oW1 24 52 21 23,0),(oM 19 24,0),(oQ 25 19 0,0),(oQ 26 19 1,64),(oR0 6,237),(oS 2 6 25,128),(oM 7 26,0)])
 (oD [oM 27 7] 27 (.reg [oF 28 1 3,oK 29 1 28,oL 30 2 6,oR 31 (.bsf 2 [.nils,.nils] 1 [(0,(.t 30))]),oA1 32 2 48 29 31,oF 33 1 3,oS 1 33 32]) .skip))))
 (.reg [oA 34 15 1,oM 15 34])))))))
 (oZ [oL 35 2 3,oS 2 2 35]
 .ret)))⟩
def g21:Go.Vse.Fn:=⟨60,[.t 0],oZ [oO 0]
 (oZ [oR 10 (.callp 54 [(.k (.s [82,40,120,44,32,121,41,44,32,82,40,49,44,32,122,41]))]),oM 9 10,oQ 11 9 0,oQ 12 9 1,oR0 1,oS 2 1 11,oM 2 12]
 (oZ [oL 14 2 1,oV 15 11 14,oM 13 15,oQ 16 13 0,oQ 17 13 1,oR0 3,oS 2 3 16,oM 4 17]
 (oZ [oR 19 (.callp 54 [(.k (.s [82,40,120,44,32,121,41,44,32,82,40,121,44,32,120,41]))]),oM 18 19,oQ 20 18 0,oQ 21 18 1,oR0 5,oS 2 5 20,oM 6 21]
 (oZ [oL 23 2 5,oV 24 13 23,oM 22 24,oQ 25 22 0,oQ 26 22 1,oR0 7,oS 2 7 25,oM 8 26]
 (oZ [oM 27 4,oE1 28 27 0,oM 29 28,oF1 30 29 1 3,oK1 31 29 1 30,oG 32 29 (.len (.t 31)),oG 33 29 (.bin .eql (.t 32) (.k (.i .i64 2))),oP 34 29 33,oM 35 34,oF1 36 35 1 3,oK1 37 35 1 36,oG 38 35 (.ia 2 (.t 37) (.k (.i .i64 1))),oF1 39 35 1 38,oK1 40 35 1 39,oG 41 35 (.len (.t 40)),oG 42 35 (.bin .eql (.t 41) (.k (.i .i64 1))),oP 43 35 42,oM 44 43,oU 45 44 8,oG 46 44 (.bin .eql (.t 45) (.k (.i .i64 0))),oP 47 44 46,oM 48 47,oF1 49 48 1 7,oK1 50 48 1 49,oG 51 48 (.len (.t 50)),oG 52 48 (.bin .eql (.t 51) (.k (.i .i64 3))),oP 53 48 52,oM 54 53,oL1 55 54 2 1,oG 56 54 (.callp 16 [(.t 55)]),oG 57 54 (.len (.t 56)),oG 58 54 (.bin .eql (.t 57) (.k (.i .i64 1))),oP 59 54 58,oM 0 59]
 .ret)))))⟩
def g22:Go.Vse.Fn:=⟨64,[.t 6],oZ [oX 3 0,oX 5 2,oO 6]
 (.seq (oZ [oC 7 0]
 (.blk 0 (.loop (.seq (oD [oM 9 7,oF 10 1 3,oK 11 1 10,oE 12 11,oJ 13 9 12] 13 .skip (.exit 0))
 (.seq (.blk 1 (oZ [oF 16 1 3,oK 17 1 16,oM 18 7,oI 19 9 17 18,oL 20 9 19,oR 8 (.new [.i .i64 0,.s [],.i .i64 0,.i .i64 0,.s [],.s [],.i .i64 0,.i .i64 0,.s []]),oS 9 8 20]
 (oD [oF 21 0 8,oK 22 1 21,oE1 23 22 2,oM 24 23,oF1 25 24 1 8,oF1 26 24 0 25,oK1 27 24 1 26,oU 28 24 1,oG 29 24 (.bin .eql (.t 27) (.t 28)),oU 30 24 29,oF1 31 30 5 8,oF1 32 30 0 31,oK1 33 30 1 32,oG 34 30 (.bin .eql (.t 33) (.k (.s []))),oG 35 24 (.pick (.t 30) (.t 34) (.k (.b false))),oU 36 24 35,oF1 37 36 5 8,oF1 38 36 1 37,oL1 39 36 3 38,oL1 40 36 3 5,oG 41 36 (.eqa [0,0,1] false (.t 39) (.t 40)),oG 42 24 (.pick (.t 36) (.t 41) (.k (.b false))),oU 43 24 42,oF2 44 43 5 8,oF2 45 43 0 44,oK2 46 43 1 45,oM1 47 43 1,oH 48 43 (.bin .eql (.t 46) (.t 47)),oM1 49 43 48,oF1 50 49 1 8,oF1 51 49 0 50,oK1 52 49 1 51,oG 53 49 (.bin .eql (.t 52) (.k (.s []))),oH 54 43 (.pick (.t 49) (.t 53) (.k (.b false))),oM1 55 43 54,oF1 56 55 1 8,oF1 57 55 1 56,oL1 58 55 3 57,oL1 59 55 3 5,oG 60 55 (.eqa [0,0,1] false (.t 58) (.t 59)),oH 61 43 (.pick (.t 55) (.t 60) (.k (.b false))),oG 62 24 (.pick (.t 43) (.k (.b true)) (.t 61)),oP 63 24 62] 63 (oZ [oT 6]
 .ret) .skip)))
 (.reg [oM 14 7,oA 15 14 1,oM 7 15]))))))
 (oZ [oO 6]
 .ret))⟩
def g23:Go.Vse.Fn:=⟨52,[.cell 2 true 2],oZ [oR0 2]
 (oZ [oR 8 (.bld [.nils,.nils] []),oR0 3,oS 2 3 8]
 (oZ [oM 9 0,oR 10 (.callp 55 [(.t 9),(.k (.i .i64 0))]),oR 11 (.bin .rem (.t 10) (.k (.i .i64 4))),oM 4 11]
 (oZ [oR 12 (.callp 56 []),oM 5 12]
 (oZ [oM 13 5,oE 14 13,oM 6 14]
 (.seq (oZ [oM 15 4]
 (.blk 0 (.seq (oD [oE1 17 15 1,oM 16 17] 16 .skip (.reg [oE1 18 15 2,oM 16 18]))
 (.cond (.t 16) (.reg [oR 19 (.bsl 1 [.s []] 1 [(0,(.k (.s [120])))]),oF 20 0 3,oS 1 20 19]) (oD [oE1 22 15 3,oM 21 22] 21 (.reg [oR 23 (.bsl 1 [.s []] 2 [(0,(.k (.s [121]))),(1,(.k (.s [120])))]),oF 24 0 3,oS 1 24 23,oC 6 9]) .skip)))))
 (.seq (oZ [oC 7 0]
 (.blk 1 (.loop (.seq (oD [oM 25 7,oM 26 0,oR 27 (.callp 55 [(.t 26),(.k (.i .i64 1))]),oR 28 (.bin .rem (.t 27) (.k (.i .i64 2))),oR 29 (.bin .leq (.t 25) (.t 28))] 29 .skip (.exit 1))
 (.seq (.blk 2 (.dreg [(oF 32 1 3,0),(oK 33 1 32,0),(oM 34 5,3),(oM 35 0,7),(oM 36 7,15),(oR 37 (.bin .add (.k (.i .i64 2)) (.t 36)),15),(oW 38 55 35 37,7),(oM 39 6,127),(oR 40 (.bin .rem (.t 38) (.t 39)),7),(oI 41 1 34 40,3),(oK 42 1 41,3),(oM 43 0,2047),(oM 44 7,4095),(oR 45 (.bin .add (.k (.i .i64 4)) (.t 44)),4095),(oW 46 55 43 45,1927),(oW 47 57 42 46,3),(oR 48 (.bsf 2 [.nils,.nils] 1 [(0,(.t 47))]),3),(oA1 49 2 48 33 48,0),(oF 50 1 3,0),(oS 1 50 49,0)]))
 (.reg [oM 30 7,oA 31 30 1,oM 7 31]))))))
 (oZ [oL 51 2 3,oS 2 2 51]
 .ret)))))))⟩
def g24:Go.Vse.Fn:=⟨17,[.cell 2 true 2],oZ [oR0 2]
 (oZ [oR 4 (.callp 56 []),oM 3 4]
 (oZ [oM 5 3,oM 6 0,oR 7 (.bin .and (.t 6) (.k (.i .i64 65535))),oM 8 3,oE 9 8,oR 10 (.bin .rem (.t 7) (.t 9)),oI 11 1 5 10,oK 12 1 11,oM 13 0,oR 14 (.bin .shr (.t 13) (.k (.i .u64 6))),oR 15 (.bin .and (.t 14) (.k (.i .i64 7))),oW 16 57 12 15,oS 2 2 16]
 .ret))⟩
def g25:Go.Vse.Fn:=⟨30,[.t 2],oZ [oX 1 0,oN1 2]
 (oZ [oN1 3]
 (.seq (oZ [oL 6 2 1,oV 7 58 6,oE 8 7,oC 9 0]
 (.blk 0 (.loop (oZ [oJ 10 9 8]
 (.seq (.cond (.t 10) .skip (.exit 0))
 (.seq (.blk 1 (oZ [oI 11 4 7 9,oL 12 4 11,oR 5 (.new [.s [],.i .i64 0,.i .i64 0,.s []]),oS 4 5 12]
 (oD [oF 13 0 5,oK 14 1 13,oR 15 (.bin .neq (.t 14) (.k (.s []))),oM 16 15,oU 17 16 3,oF1 18 16 0 5,oK1 19 16 1 18,oG 20 16 (.call 33 [(.t 17),(.t 19)]),oG 21 16 (.un .not (.t 20)),oP 22 16 21] 22 (.reg [oM 23 3,oF 24 0 5,oK 25 1 24,oR 26 (.bsf 1 [.s []] 1 [(0,(.t 25))]),oA1 27 1 16 23 26,oM 3 27]) .skip)))
 (.reg [oA 28 9 1,oM 9 28])))))))
 (oZ [oM 29 3,oM 2 29]
 .ret)))⟩
def g26:Go.Vse.Fn:=⟨29,[.cell 2 true 2],oZ [oX 1 0,oR0 2]
 (oZ [oF 6 1 1,oK 7 1 6,oV1 8 59 7,oR 9 (.bld [.nils,.nils] [(1,1,(.t 8))]),oR0 3,oS 2 3 9]
 (.seq (oZ [oF 10 0 1,oK 11 1 10,oE 12 11,oC 13 0]
 (.blk 0 (.loop (oZ [oJ 14 13 12]
 (.seq (.cond (.t 14) .skip (.exit 0))
 (.seq (.blk 1 (oZ [oI 15 3 11 13,oL 16 3 15,oR 5 (.new [.s [],.b false,.nils]),oS 3 5 16]
 (oZ [oF 17 2 5,oK 18 1 17,oV1 19 60 18,oF 20 2 5,oS 1 20 19]
 (.reg [oF 21 0 3,oK 22 1 21,oL 23 3 5,oR 24 (.bsf 3 [.s [],.b false,.nils] 1 [(0,(.t 23))]),oA1 25 3 48 22 24,oF 26 0 3,oS 1 26 25]))))
 (.reg [oA 27 13 1,oM 13 27])))))))
 (oZ [oL 28 2 3,oS 2 2 28]
 .ret)))⟩
def g27:Go.Vse.Fn:=⟨10,[.cell 6 true 2],oZ [oX 3 0,oX 4 1,oX 5 2,oR0 6]
 (oZ [oL 7 2 3,oR 8 (.mkf 62 [] [(.t 4),(.t 5)]),oW1 9 61 7 8,oS 2 6 9]
 .ret)⟩
def g28:Go.Vse.Fn:=⟨21,[.cell 8 true 2],oZ [oX 4 0,oX 6 2,oX 7 3,oR0 8]
 (oZ [oL 9 2 4,oV1 10 26 9,oS 2 4 10]
 (oZ [oF 11 1 4,oK 12 1 11,oM 13 1,oL 14 4 6,oL 15 4 7,oR 16 (.bld [.i .i64 0,.s [],.i .i64 0,.i .i64 0,.s [],.s [],.i .i64 0,.i .i64 0,.s []] [(0,1,(.t 13)),(1,4,(.t 14)),(5,4,(.t 15))]),oR 17 (.bsf 9 [.i .i64 0,.s [],.i .i64 0,.i .i64 0,.s [],.s [],.i .i64 0,.i .i64 0,.s []] 1 [(0,(.t 16))]),oA1 18 9 104 12 17,oF 19 1 4,oS 1 19 18]
 (oZ [oL 20 2 4,oS 2 8 20]
 .ret)))⟩
def g31:Go.Vse.Fn:=⟨40,[.cell 4 true 2,.t 5],oZ [oX 2 0,oR0 4,oC 5 0]
 (oZ [oL 8 2 2,oV1 9 19 8,oS 2 2 9]
 (.blk 0 (.loop (.blk 1 (.seq (oD [oF 10 1 2,oK 11 1 10,oE 12 11,oR 13 (.bin .gtr (.t 12) (.k (.i .i64 64)))] 13 (oZ [oR 14 (.bld [.nils,.nils] []),oS 2 4 14,oC 5 4]
 .ret) .skip)
 (oZ [oM 16 1,oL 17 2 2,oR 18 (.callv (.t 16) [(.t 17)]),oM 15 18,oQ 19 15 0,oQ 20 15 1,oM 6 19,oM 7 20]
 (.seq (oD [oM 21 7,oE 22 21,oE1 23 22 0] 23 (oZ [oL 24 2 2,oS 2 4 24,oC 5 0]
 .ret) .skip)
 (oZ [oF 25 1 2,oK 26 1 25,oM 27 6,oM 28 6,oA 29 28 1,oM 30 7,oR 31 (.call 64 [(.t 26),(.t 27),(.t 29),(.t 30)]),oF 32 1 2,oS 1 32 31]
 (.seq (oD [oF 33 1 2,oK 34 1 33,oE 35 34,oR 36 (.bin .gtr (.t 35) (.k (.i .i64 64)))] 36 (oZ [oR 37 (.bld [.nils,.nils] []),oS 2 4 37,oC 5 4]
 .ret) .skip)
 (.reg [oL 38 2 2,oV1 39 19 38,oS 2 2 39]))))))))))⟩
def g32:Go.Vse.Fn:=⟨44,[.t 2,.t 3],oZ [oX 1 0,oC 2 0,oN1 3]
 (.seq (oZ [oF 10 1 1,oK 11 1 10,oE 12 11,oC 13 0]
 (.blk 0 (.loop (oZ [oJ 14 13 12]
 (.seq (.cond (.t 14) .skip (.exit 0))
 (.seq (.blk 1 (oZ [oM 15 13,oI 16 2 11 13,oL 17 2 16,oR0 5,oM 4 15,oS 2 5 17]
 (oZ [oL 18 2 5,oV 19 25 18,oE 20 19,oC 21 0]
 (.blk 2 (.loop (oZ [oJ 22 21 20]
 (.seq (.cond (.t 22) .skip (.exit 2))
 (.seq (.blk 3 (oZ [oI 23 1 19 21,oK 24 1 23,oM 7 24]
 (.seq (oD [oF 25 0 1,oK 26 1 25,oM 27 7,oW 28 33 26 27] 28 (.exit 3) .skip)
 (oZ [oL 30 2 1,oL 31 2 5,oM 32 7,oR 33 (.call 34 [(.t 30),(.t 31),(.t 32)]),oM 29 33,oQ 34 29 0,oQ 35 29 1,oR 8 (.new [.i .i64 0,.i .i64 0,.s []]),oS 3 8 34,oM 9 35]
 (oD [oM 36 9] 36 (oZ [oM 37 4,oL 38 2 5,oM 39 7,oL 40 3 8,oR 41 (.call 7 [(.t 38),(.t 39),(.t 40)]),oM 2 37,oM 3 41]
 .ret) .skip)))))
 (.reg [oA 42 21 1,oM 21 42])))))))))
 (.reg [oA 43 13 1,oM 13 43])))))))
 (oZ [oC 2 0,oN1 3]
 .ret))⟩
def g33:Go.Vse.Fn:=⟨9,[.t 4],oZ [oO 4]
 (oZ [oM 5 0,oM 6 1,oW1 7 65 5 6,oG1 8 7 0,oM 4 8]
 .ret)⟩
def g34:Go.Vse.Fn:=⟨66,[.cell 6 true 3,.t 7],oZ [oX 3 0,oX 4 1,oR 6 (.new [.i .i64 0,.i .i64 0,.s []]),oO 7]
 (oZ [oR 8 (.new [.i .i64 0,.i .i64 0,.s []])]
 (oZ [oO 9]
 (.seq (oZ [oF 16 0 4,oK 17 1 16,oE 18 17,oC 19 0]
 (.blk 0 (.loop (oZ [oJ 20 19 18]
 (.seq (.cond (.t 20) .skip (.exit 0))
 (.seq (.blk 1 (oZ [oI 21 3 17 19,oL 22 3 21,oR 11 (.new [.s [],.b false,.nils]),oS 3 11 22]
 (oZ [oF 23 2 11,oK 24 1 23,oE 25 24,oC 26 0]
 (.blk 2 (.loop (oZ [oJ 27 26 25]
 (.seq (.cond (.t 27) .skip (.exit 2))
 (.seq (.blk 3 (oZ [oM 28 26,oI 29 4 24 26,oL 30 4 29,oR 13 (.new [.s [],.i .i64 0,.i .i64 0,.s []]),oM 12 28,oS 4 13 30]
 (.seq (oD [oF 31 0 13,oK 32 1 31,oM 33 2,oR 34 (.bin .neq (.t 32) (.t 33))] 34 (.exit 3) .skip)
 (oZ [oL 35 2 3,oF 36 0 11,oK 37 1 36,oM 38 12,oR 39 (.call 66 [(.t 35),(.t 37),(.t 38)]),oE 40 39,oC 41 0]
 (.blk 4 (.loop (oZ [oJ 42 41 40]
 (.seq (.cond (.t 42) .skip (.exit 4))
 (.seq (.blk 5 (oZ [oI 43 3 39 41,oL 44 3 43,oR 15 (.new [.i .i64 0,.i .i64 0,.s []]),oS 3 15 44]
 (oD [oM 45 9,oU1 46 45,oM 47 46,oH 48 47 (.ld true 3 (.t 15)),oH 49 47 (.ld true 3 (.t 8)),oH 50 47 (.callp 44 [(.t 48),(.t 49)]),oH 51 47 (.bin .lss (.t 50) (.k (.i .i64 0))),oP1 52 47 51,oM 53 52,oL1 54 53 2 4,oU 55 53 2,oL1 56 53 3 15,oG 57 53 (.callp 67 [(.t 54),(.t 55),(.t 56)]),oG 58 53 (.un .not (.t 57)),oP 59 53 58] 59 (.reg [oL 60 3 15,oS 3 8 60,oT 9]) .skip)))
 (.reg [oA 61 41 1,oM 41 61]))))))))))
 (.reg [oA 62 26 1,oM 26 62])))))))))
 (.reg [oA 63 19 1,oM 19 63])))))))
 (oZ [oL 64 3 8,oM 65 9,oS 3 6 64,oM 7 65]
 .ret))))⟩
def g37:Go.Vse.Fn:=⟨46,[.t 2,.t 3],oZ [oX 1 0,oC 2 0,oN1 3]
 (.seq (oZ [oF 9 1 1,oK 10 1 9,oE 11 10,oC 12 0]
 (.blk 0 (.loop (oZ [oJ 13 12 11]
 (.seq (.cond (.t 13) .skip (.exit 0))
 (.seq (.blk 1 (oZ [oM 14 12,oI 15 2 10 12,oL 16 2 15,oR0 5,oM 4 14,oS 2 5 16]
 (oZ [oL 18 2 5,oF 19 0 1,oK 20 1 19,oW 21 38 18 20,oM 17 21,oQ 22 17 0,oQ 23 17 1,oQ 24 17 2,oM 6 22,oM 7 23,oM 8 24]
 (oD [oM 25 8] 25 (.seq (.dreg [(oM 26 4,0),(oL 27 2 5,1),(oM 28 6,3),(oR 29 (.bld [.s [],.i .i64 0,.i .i64 0,.s []] [(0,1,(.t 28))]),3),(oM 30 7,15),(oR 31 (.bld [.s [],.i .i64 0,.i .i64 0,.s []] [(0,1,(.t 30))]),15),(oR 32 (.callp 28 [(.t 27),(.k (.i .i64 3)),(.t 29),(.t 31)]),1),(oL 33 2 5,127),(oM 34 7,255),(oM 35 6,511),(oR 36 (.callp 39 [(.t 33),(.t 34),(.t 35)]),1),(oV 37 26 36,1),(oL 38 2 5,4095),(oM 39 7,8191),(oR 40 (.bld [.s [],.i .i64 0,.i .i64 0,.s []] [(0,1,(.t 39))]),8191),(oM 41 6,32767),(oR 42 (.bld [.s [],.i .i64 0,.i .i64 0,.s []] [(0,1,(.t 41))]),32767),(oR 43 (.callp 28 [(.t 38),(.k (.i .i64 3)),(.t 40),(.t 42)]),1),(oM 2 26,0),(oR 44 (.bsl 2 [.nils,.nils] 3 [(0,(.t 32)),(1,(.t 37)),(2,(.t 43))]),262145),(oM 3 44,0)])
 .ret) .skip))))
 (.reg [oA 45 12 1,oM 12 45])))))))
 (oZ [oC 2 0,oN1 3]
 .ret))⟩
def g38:Go.Vse.Fn:=⟨49,[.t 4,.t 5,.t 6],oZ [oX 2 0,oX 3 1,oR 4 (.mv (.k (.s []))),oR 5 (.mv (.k (.s []))),oO 6]
 (oZ [oL 12 2 2,oV1 13 25 12,oR 14 (.mkf 73 [] [(.t 3)]),oW1 15 72 13 14,oM 7 15]
 (.seq (oZ [oM 16 7,oE 17 16,oC 18 0]
 (.blk 0 (.loop (oZ [oJ 19 18 17]
 (.seq (.cond (.t 19) .skip (.exit 0))
 (.seq (.blk 1 (oZ [oM 20 18,oI 21 1 16 18,oK 22 1 21,oM 8 20,oM 9 22]
 (oZ [oM 23 7,oM 24 8,oA 25 24 1,oR 26 (.slc 1 (.t 23) (some (.t 25)) none none),oE 27 26,oC 28 0]
 (.blk 2 (.loop (oZ [oJ 29 28 27]
 (.seq (.cond (.t 29) .skip (.exit 2))
 (.seq (.blk 3 (oZ [oI 30 1 26 28,oK 31 1 30,oM 11 31]
 (oD [oL 32 2 2,oM 33 9,oR 34 (.bld [.s [],.i .i64 0,.i .i64 0,.s []] [(0,1,(.t 33))]),oM 35 11,oR 36 (.bld [.s [],.i .i64 0,.i .i64 0,.s []] [(0,1,(.t 35))]),oR 37 (.callp 74 [(.t 32),(.k (.i .i64 3)),(.t 34),(.t 36)]),oU1 38 37,oM 39 38,oL1 40 39 2 2,oU 41 39 9,oU 42 39 11,oG 43 39 (.callp 75 [(.t 40),(.t 41),(.t 42)]),oP 44 39 43] 44 (oZ [oM 45 9,oM 46 11,oM 4 45,oM 5 46,oT 6]
 .ret) .skip)))
 (.reg [oA 47 28 1,oM 28 47])))))))))
 (.reg [oA 48 18 1,oM 18 48])))))))
 (oZ [oR 4 (.mv (.k (.s []))),oR 5 (.mv (.k (.s []))),oO 6]
 .ret)))⟩
def g39:Go.Vse.Fn:=⟨10,[.cell 6 true 2],oZ [oX 3 0,oX 4 1,oX 5 2,oR0 6]
 (oZ [oL 7 2 3,oR 8 (.mkf 76 [] [(.t 4),(.t 5)]),oW1 9 61 7 8,oS 2 6 9]
 .ret)⟩
def g42:Go.Vse.Fn:=⟨11,[],oZ [oX 2 0]
 (oD [oF 3 0 2,oK 4 1 3,oR 5 (.bin .eql (.t 4) (.k (.s [])))] 5 (.reg [oK 6 1 1,oF 7 1 2,oL 8 3 7,oR 9 (.bsf 3 [.i .i64 0,.i .i64 0,.s []] 1 [(0,(.t 8))]),oA1 10 3 32 6 9,oS 1 1 10]) .skip)⟩
def g43:Go.Vse.Fn:=⟨14,[],oZ [oM 5 0,oE 6 5,oM 4 6]
 (.reg [oM 7 0,oM 8 4,oM 9 4,oR 10 (.cvi .u64 (.t 9)),oV1 11 79 10,oM 12 1,oR 13 (.call 78 [(.t 7),(.k (.i .i64 0)),(.t 8),(.t 11),(.t 12)])])⟩
def g44:Go.Vse.Fn:=⟨22,[.t 4],oZ [oX 2 0,oX 3 1,oC 4 0]
 (.seq (.dreg [(oF 5 0 2,0),(oK 6 1 5,0),(oF 7 0 3,3),(oK 8 1 7,3),(oW 9 81 6 8,0),(oF 10 1 2,31),(oK 11 1 10,31),(oF 12 1 3,127),(oK 13 1 12,127),(oW 14 82 11 13,0),(oF 15 2 2,1023),(oK 16 1 15,1023),(oF 17 2 3,4095),(oK 18 1 17,4095),(oW 19 83 16 18,0),(oR 20 (.bsl 1 [.i .i64 0] 3 [(0,(.t 9)),(1,(.t 14)),(2,(.t 19))]),0),(oV 21 80 20,0),(oM 4 21,0)])
 .ret)⟩
def g45:Go.Vse.Fn:=⟨66,[.t 4],oZ [oN1 4]
 (.seq (oD [oM 8 0,oE 9 8,oJ1 10 9 2] 10 (oZ [oM 11 0,oM 4 11]
 .ret) .skip)
 (.seq (oZ [oC 5 1]
 (.blk 0 (.loop (.seq (oD [oM 12 5,oM 13 0,oE 14 13,oJ 15 12 14] 15 .skip (.exit 0))
 (.seq (.blk 1 (.seq (.dreg [(oM 18 1,0),(oM 19 0,1),(oM 20 5,3),(oI 21 3 19 20,1),(oL 22 3 21,1),(oM 23 0,31),(oM 24 5,63),(oB1 25 24 1,63),(oI 26 3 23 25,31),(oL 27 3 26,31),(oR 28 (.callv (.t 18) [(.t 22),(.t 27)]),0)])
 (.cond (.t 28) (oZ [oM 29 0,oM 30 5,oR 31 (.slc 3 (.t 29) (some (.t 30)) none none),oM 6 31]
 (.seq (oZ [oC 7 1]
 (.blk 2 (.loop (.seq (oD [oM 32 7,oM 33 6,oE 34 33,oJ 35 32 34] 35 .skip (.exit 2))
 (.seq (.blk 3 (.seq (.dreg [(oM 38 1,0),(oM 39 6,1),(oM 40 7,3),(oI 41 3 39 40,1),(oL 42 3 41,1),(oM 43 6,31),(oM 44 7,63),(oB1 45 44 1,63),(oI 46 3 43 45,31),(oL 47 3 46,31),(oR 48 (.callv (.t 38) [(.t 42),(.t 47)]),0),(oU1 49 48,0)])
 (.cond (.t 49) (oZ [oM 50 0,oM 51 5,oM 52 6,oM 53 7,oI 54 3 52 53,oL 55 3 54,oI 56 3 50 51,oS 3 56 55]
 (.reg [oM 57 5,oA 58 57 1,oM 5 58])) .skip)))
 (.reg [oM 36 7,oA 37 36 1,oM 7 37]))))))
 (oZ [oM 59 0,oM 60 5,oR 61 (.slc 3 (.t 59) (some (.t 60)) none none),oN (.clr 3 [.i .i64 0,.i .i64 0,.s []] (.t 61))]
 (oZ [oM 62 0,oM 63 5,oR 64 (.slc 3 (.t 62) none (some (.t 63)) none),oM 4 64]
 .ret)))) .skip)))
 (.reg [oM 16 5,oA 17 16 1,oM 5 17]))))))
 (oZ [oM 65 0,oM 4 65]
 .ret)))⟩
def g46:Go.Vse.Fn:=⟨9,[.t 4],oZ [oX 2 0,oX 3 1,oO 4]
 (oZ [oL 5 3 2,oL 6 3 3,oW 7 44 5 6,oE1 8 7 0,oM 4 8]
 .ret)⟩
def g49:Go.Vse.Fn:=⟨26,[.t 4],oZ [oO 4]
 (.seq (oD [oM 6 0,oE 7 6,oM 8 1,oE 9 8,oR 10 (.bin .neq (.t 7) (.t 9))] 10 (oZ [oO 4]
 .ret) .skip)
 (.seq (oZ [oC 5 0]
 (.blk 0 (.loop (.seq (oD [oM 11 5,oM 12 0,oE 13 12,oJ 14 11 13] 14 .skip (.exit 0))
 (.seq (.blk 1 (.seq (.dreg [(oM 17 0,0),(oM 18 5,1),(oI 19 1 17 18,0),(oK 20 1 19,0),(oM 21 1,15),(oM 22 5,31),(oI 23 1 21 22,15),(oK 24 1 23,15),(oR 25 (.bin .neq (.t 20) (.t 24)),0)])
 (.cond (.t 25) (oZ [oO 4]
 .ret) .skip)))
 (.reg [oM 15 5,oA 16 15 1,oM 5 16]))))))
 (oZ [oT 4]
 .ret)))⟩
def g50:Go.Vse.Fn:=⟨86,[.t 4],oZ [oX 2 0,oX 3 1,oC 4 0]
 (.seq (oZ [oC 5 0]
 (.blk 0 (.loop (.seq (oD [oM 9 5,oF 10 0 2,oK 11 1 10,oE 12 11,oJ 13 9 12,oM 14 13,oU 15 14 5,oF1 16 14 0 3,oK1 17 14 1 16,oG 18 14 (.len (.t 17)),oG 19 14 (.bin .lss (.t 15) (.t 18)),oP 20 14 19] 20 .skip (.exit 0))
 (.seq (.blk 1 (.seq (.dreg [(oF 23 0 2,0),(oK 24 1 23,0),(oM 25 5,3),(oI 26 3 24 25,0),(oL 27 3 26,0),(oF 28 0 3,31),(oK 29 1 28,31),(oM 30 5,127),(oI 31 3 29 30,31),(oL 32 3 31,31),(oW 33 86 27 32,0),(oM 6 33,0)])
 (oD [oM 34 6,oR 35 (.bin .neq (.t 34) (.k (.i .i64 0)))] 35 (oZ [oM 36 6,oM 4 36]
 .ret) .skip)))
 (.reg [oM 21 5,oA 22 21 1,oM 5 22]))))))
 (.seq (oD [oF 37 0 2,oK 38 1 37,oE 39 38,oF 40 0 3,oK 41 1 40,oE 42 41,oR 43 (.bin .neq (.t 39) (.t 42))] 43 (oZ [oF 44 0 2,oK 45 1 44,oE 46 45,oF 47 0 3,oK 48 1 47,oE 49 48,oS1 50 46 49,oM 4 50]
 .ret) .skip)
 (.seq (oZ [oC 7 0]
 (.blk 2 (.loop (.seq (oD [oM 51 7,oF 52 1 2,oK 53 1 52,oE 54 53,oJ 55 51 54,oM 56 55,oU 57 56 7,oF1 58 56 1 3,oK1 59 56 1 58,oG 60 56 (.len (.t 59)),oG 61 56 (.bin .lss (.t 57) (.t 60)),oP 62 56 61] 62 .skip (.exit 2))
 (.seq (.blk 3 (.seq (.dreg [(oF 65 1 2,0),(oK 66 1 65,0),(oM 67 7,3),(oI 68 9 66 67,0),(oL 69 9 68,0),(oF 70 1 3,31),(oK 71 1 70,31),(oM 72 7,127),(oI 73 9 71 72,31),(oL 74 9 73,31),(oW 75 87 69 74,0),(oM 8 75,0)])
 (oD [oM 76 8,oR 77 (.bin .neq (.t 76) (.k (.i .i64 0)))] 77 (oZ [oM 78 8,oM 4 78]
 .ret) .skip)))
 (.reg [oM 63 7,oA 64 63 1,oM 7 64]))))))
 (oZ [oF 79 1 2,oK 80 1 79,oE 81 80,oF 82 1 3,oK 83 1 82,oE 84 83,oS1 85 81 84,oM 4 85]
 .ret))))⟩
def g51:Go.Vse.Fn:=⟨8,[.t 2],oZ [oN1 2]
 (.seq (oD [oM 3 0,oR 4 (.eqn 0 false (.t 3) (.k .nils))] 4 (oZ [oN1 2]
 .ret) .skip)
 (oZ [oR 5 (.bsl 1 [.s []] 0 []),oM 6 0,oA1 7 1 16 5 6,oM 2 7]
 .ret))⟩
def g52:Go.Vse.Fn:=⟨64,[.cell 4 true 2,.t 5],oZ [oX 2 0,oX 3 1,oR0 4,oO 5]
 (.blk 0 (.loop (.blk 1 (.seq (oD [oF 10 1 2,oK 11 1 10,oR 12 (.call 88 [(.t 11),(.k (.fn 89))])] 12 (oZ [oR 13 (.bld [.nils,.nils] []),oS 2 4 13,oO 5]
 .ret) .skip)
 (.seq (oZ [oF 14 1 2,oK 15 1 14,oR 16 (.call 90 [(.t 15),(.k (.fn 91))]),oM 6 16]
 (oD [oM 17 6,oG1 18 17 0] 18 (oZ [oF 19 1 2,oK 20 1 19,oM 21 6,oM 22 6,oA 23 22 1,oR 24 (.call 92 [(.t 20),(.t 21),(.t 23)]),oF 25 1 2,oS 1 25 24]
 (.exit 1)) .skip))
 (oZ [oR 26 (.mkf 93 [] [(.t 3)]),oR 7 (.new [.nilf]),oS 1 7 26]
 (oZ [oF 27 1 2,oK 28 1 27,oR 29 (.mkf 94 [] [(.t 7)]),oW1 30 90 28 29,oM 8 30]
 (.seq (oD [oM 31 8,oJ1 32 31 0] 32 (oZ [oL 33 2 2,oS 2 4 33,oT 5]
 .ret) .skip)
 (oZ [oF 34 1 2,oK 35 1 34,oM 36 8,oI 37 9 35 36,oL 38 9 37,oR 9 (.new [.i .i64 0,.s [],.i .i64 0,.i .i64 0,.s [],.s [],.i .i64 0,.i .i64 0,.s []]),oS 9 9 38]
 (oZ [oF 39 1 2,oK 40 1 39,oM 41 8,oM 42 8,oA 43 42 1,oR 44 (.call 92 [(.t 40),(.t 41),(.t 43)]),oF 45 1 2,oS 1 45 44]
 (oD [oK 46 1 7,oF 47 5 9,oL 48 4 47,oR 49 (.callv (.t 46) [(.t 48)])] 49 (.reg [oL 50 2 2,oF 51 5 9,oF 52 0 51,oK 53 1 52,oF 54 1 9,oL 55 4 54,oR 56 (.call 95 [(.t 50),(.t 53),(.t 55)])]) (.reg [oL 57 2 2,oF 58 1 9,oF 59 0 58,oK 60 1 59,oF 61 5 9,oL 62 4 61,oR 63 (.call 95 [(.t 57),(.t 60),(.t 62)])]))))))))))))⟩
def g54:Go.Vse.Fn:=⟨51,[.cell 2 true 2,.t 3],oZ [oR0 2,oC 3 0]
 (.seq (oD [oM 9 0,oR 10 (.lns (.t 9)),oR 11 (.bin .gtr (.t 10) (.k (.i .i64 16384)))] 11 (oZ [oR 12 (.bld [.nils,.nils] []),oS 2 2 12,oC 3 4]
 .ret) .skip)
 (.seq (oZ [oC 4 0]
 (.blk 0 (.loop (.seq (oD [oM 13 4,oM 14 0,oR 15 (.lns (.t 14)),oJ 16 13 15] 16 .skip (.exit 0))
 (.seq (.blk 1 (oD [oM 19 0,oM 20 4,oR 21 (.ixs (.t 19) (.t 20)),oR 22 (.bin .eql (.t 21) (.k (.i .u8 10)))] 22 (oZ [oR 23 (.bld [.nils,.nils] []),oS 2 2 23,oC 3 2]
 .ret) .skip))
 (.reg [oM 17 4,oA 18 17 1,oM 4 18]))))))
 (oZ [oM 25 0,oV 26 100 25,oM 24 26,oQ 27 24 0,oQ 28 24 1,oM 5 27,oM 6 28]
 (.seq (oD [oM 29 6,oU1 30 29] 30 (oZ [oR 31 (.bld [.nils,.nils] []),oS 2 2 31,oC 3 2]
 .ret) .skip)
 (oZ [oM 32 5,oR 33 (.bld [.nils,.i .i64 0,.b false] [(0,1,(.t 32))]),oX 34 33,oM 7 34]
 (oZ [oR 35 (.bld [.nils,.nils] []),oR0 8,oS 2 8 35]
 (.seq (oD [oM 36 7,oR 37 (.call 101 [(.t 36),(.k (.s [40]))])] 37 (oZ [oM 38 7,oR 39 (.call 102 [(.t 38),(.k (.b false))]),oF 40 0 8,oS 1 40 39]
 (.reg [oM 41 7,oR 42 (.call 103 [(.t 41),(.k (.s [58]))])])) .skip)
 (oZ [oM 43 7,oV1 44 104 43,oF 45 1 8,oS 1 45 44]
 (.seq (oD [oM 46 7,oV1 47 105 46,oU1 48 47] 48 (oZ [oR 49 (.bld [.nils,.nils] []),oS 2 2 49,oC 3 2]
 .ret) .skip)
 (oZ [oL 50 2 8,oS 2 2 50,oC 3 0]
 .ret))))))))))⟩
def g55:Go.Vse.Fn:=⟨23,[.t 4],oZ [oC 4 0]
 (.seq (oD [oM 5 0,oE 6 5,oE1 7 6 0] 7 (oZ [oM 8 1,oR 9 (.bin .and (.t 8) (.k (.i .i64 65535))),oM 4 9]
 .ret) .skip)
 (.seq (.dreg [(oM 10 0,0),(oM 11 1,1),(oM 12 0,3),(oE 13 12,3),(oR 14 (.bin .rem (.t 11) (.t 13)),1),(oI 15 1 10 14,0),(oK 16 1 15,0),(oR 17 (.bin .and (.t 16) (.k (.i .i64 65535))),0),(oM 18 1,255),(oM 19 0,511),(oE 20 19,511),(oR 21 (.bin .quo (.t 18) (.t 20)),255),(oD1 22 17 21,0),(oM 4 22,0)])
 .ret))⟩
def g56:Go.Vse.Fn:=⟨2,[.t 0],oZ [oN1 0]
 (oZ [oR 1 (.bsl 1 [.s []] 24 [(0,(.k (.s [82,40,120,44,32,121,41]))),(1,(.k (.s [82,40,120,44,32,121,41,44,32,83,40,121,41]))),(2,(.k (.s [82,40,120,44,32,121,41,44,32,83,40,120,41]))),(3,(.k (.s [82,40,120,44,32,121,41,44,32,75,40,121,44,32,122,41]))),(4,(.k (.s [75,40,120,44,32,121,41,44,32,83,40,121,41]))),(5,(.k (.s [82,40,120,44,32,121,41,44,32,82,40,121,44,32,122,41]))),(6,(.k (.s [82,40,120,44,32,121,41,44,32,82,40,121,44,32,120,41]))),(7,(.k (.s [67,40,120,44,32,121,41,44,32,82,40,121,44,32,122,41]))),(8,(.k (.s [82,40,120,44,32,121,41,44,32,110,111,116,32,83,40,121,41]))),(9,(.k (.s [83,40,120,41,44,32,110,111,116,32,82,40,120,44,32,64,41]))),(10,(.k (.s [67,40,120,44,32,121,41,44,32,83,40,121,41,44,32,110,111,116,32,75,40,120,44,32,121,41]))),(11,(.k (.s [82,40,120,44,32,121,41,44,32,83,40,120,41,44,32,83,40,121,41]))),(12,(.k (.s [75,40,120,44,32,121,41,44,32,75,40,122,44,32,121,41]))),(13,(.k (.s [82,40,120,44,32,64,41]))),(14,(.k (.s [83,40,120,41,44,32,75,40,120,44,32,64,41]))),(15,(.k (.s [82,40,120,44,32,121,41,44,32,120,32,60,32,121]))),(16,(.k (.s [82,40,120,44,32,121,41,44,32,83,40,122,41,44,32,121,32,33,61,32,122]))),(17,(.k (.s [83,40,120,41,44,32,83,40,121,41,44,32,120,32,60,61,32,121]))),(18,(.k (.s [67,40,120,44,32,121,41,44,32,110,111,116,32,82,40,120,44,32,121,41]))),(19,(.k (.s [82,40,120,44,32,120,41]))),(20,(.k (.s [83,40,120,41,44,32,120,32,61,32,64]))),(21,(.k (.s [75,40,120,44,32,121,41,44,32,82,40,121,44,32,122,41,44,32,83,40,122,41]))),(22,(.k (.s [82,40,120,44,32,121,41,44,32,82,40,120,44,32,122,41,44,32,121,32,60,32,122]))),(23,(.k (.s [75,40,120,44,32,64,41,44,32,67,40,121,44,32,120,41])))]),oM 0 1]
 .ret)⟩
def g57:Go.Vse.Fn:=⟨44,[.cell 4 true 2],oZ [oR0 4]
 (oZ [oM 9 0,oR 10 (.s2b (.t 9)),oM 5 10]
 (.seq (oZ [oC 6 0]
 (.blk 0 (.loop (.seq (oD [oM 11 6,oM 12 5,oE 13 12,oJ 14 11 13] 14 .skip (.exit 0))
 (.seq (.blk 1 (oD [oM 17 5,oM 18 6,oI 19 1 17 18,oK 20 1 19,oR 21 (.bin .eql (.t 20) (.k (.i .u8 64)))] 21 (.reg [oM 22 5,oM 23 6,oM 24 1,oR 25 (.bin .rem (.t 24) (.k (.i .i64 3))),oR 26 (.bin .add (.k (.i .i64 49)) (.t 25)),oR 27 (.cvi .u8 (.t 26)),oI 28 1 22 23,oS 1 28 27]) .skip))
 (.reg [oM 15 6,oA 16 15 1,oM 6 16]))))))
 (oZ [oM 30 5,oR 31 (.b2s (.t 30)),oV 32 54 31,oM 29 32,oQ 33 29 0,oQ 34 29 1,oR0 7,oS 2 7 33,oM 8 34]
 (.seq (oD [oF 35 1 7,oK 36 1 35,oE 37 36,oE1 38 37 0] 38 (oZ [oR 39 (.bld [.nils,.nils] []),oS 2 4 39]
 .ret) .skip)
 (oZ [oF 40 1 7,oK 41 1 40,oR 42 (.ia 2 (.t 41) (.k (.i .i64 0))),oL 43 2 42,oS 2 4 43]
 .ret)))))⟩
def g58:Go.Vse.Fn:=⟨36,[.t 2],oZ [oX 1 0,oN1 2]
 (oZ [oN1 3]
 (.seq (oZ [oF 8 0 1,oK 9 1 8,oE 10 9,oC 11 0]
 (.blk 0 (.loop (oZ [oJ 12 11 10]
 (.seq (.cond (.t 12) .skip (.exit 0))
 (.seq (.blk 1 (oZ [oI 13 3 9 11,oL 14 3 13,oR 5 (.new [.s [],.b false,.nils]),oS 3 5 14]
 (.reg [oM 15 3,oF 16 2 5,oK 17 1 16,oA1 18 4 48 15 17,oM 3 18])))
 (.reg [oA 19 11 1,oM 11 19])))))))
 (.seq (oZ [oF 20 1 1,oK 21 1 20,oE 22 21,oC 23 0]
 (.blk 2 (.loop (oZ [oJ 24 23 22]
 (.seq (.cond (.t 24) .skip (.exit 2))
 (.seq (.blk 3 (oZ [oI 25 9 21 23,oL 26 9 25,oR 7 (.new [.i .i64 0,.s [],.i .i64 0,.i .i64 0,.s [],.s [],.i .i64 0,.i .i64 0,.s []]),oS 9 7 26]
 (.reg [oM 27 3,oF 28 1 7,oL 29 4 28,oF 30 5 7,oL 31 4 30,oR 32 (.bsf 4 [.s [],.i .i64 0,.i .i64 0,.s []] 2 [(0,(.t 29)),(1,(.t 31))]),oA1 33 4 48 27 32,oM 3 33])))
 (.reg [oA 34 23 1,oM 23 34])))))))
 (oZ [oM 35 3,oM 2 35]
 .ret))))⟩
def g59:Go.Vse.Fn:=⟨8,[.t 2],oZ [oN1 2]
 (.seq (oD [oM 3 0,oR 4 (.eqn 0 false (.t 3) (.k .nils))] 4 (oZ [oN1 2]
 .ret) .skip)
 (oZ [oR 5 (.bsl 9 [.i .i64 0,.s [],.i .i64 0,.i .i64 0,.s [],.s [],.i .i64 0,.i .i64 0,.s []] 0 []),oM 6 0,oA1 7 9 104 5 6,oM 2 7]
 .ret))⟩
def g60:Go.Vse.Fn:=⟨8,[.t 2],oZ [oN1 2]
 (.seq (oD [oM 3 0,oR 4 (.eqn 0 false (.t 3) (.k .nils))] 4 (oZ [oN1 2]
 .ret) .skip)
 (oZ [oR 5 (.bsl 4 [.s [],.i .i64 0,.i .i64 0,.s []] 0 []),oM 6 0,oA1 7 4 48 5 6,oM 2 7]
 .ret))⟩
def g61:Go.Vse.Fn:=⟨73,[.cell 4 true 2],oZ [oX 2 0,oR0 4]
 (oZ [oR0 5]
 (.seq (oZ [oF 13 0 2,oK 14 1 13,oE 15 14,oC 16 0]
 (.blk 0 (.loop (oZ [oJ 17 16 15]
 (.seq (.cond (.t 17) .skip (.exit 0))
 (.seq (.blk 1 (oZ [oI 18 3 14 16,oL 19 3 18,oR 7 (.new [.s [],.b false,.nils]),oS 3 7 19]
 (oZ [oF 20 0 7,oK 21 1 20,oF 22 1 7,oK 23 1 22,oR 24 (.bld [.s [],.b false,.nils] [(0,1,(.t 21)),(1,1,(.t 23))]),oR 8 (.new [.s [],.b false,.nils]),oS 3 8 24]
 (.seq (oZ [oF 25 2 7,oK 26 1 25,oE 27 26,oC 28 0]
 (.blk 2 (.loop (oZ [oJ 29 28 27]
 (.seq (.cond (.t 29) .skip (.exit 2))
 (.seq (.blk 3 (oZ [oI 30 4 26 28,oL 31 4 30,oR 10 (.new [.s [],.i .i64 0,.i .i64 0,.s []]),oS 4 10 31]
 (.dreg [(oF 32 2 8,0),(oK 33 1 32,0),(oM 34 1,3),(oL 35 4 10,7),(oR 36 (.callv (.t 34) [(.t 35)]),3),(oR 37 (.bsf 4 [.s [],.i .i64 0,.i .i64 0,.s []] 1 [(0,(.t 36))]),3),(oA1 38 4 48 33 37,0),(oF 39 2 8,0),(oS 1 39 38,0)])))
 (.reg [oA 40 28 1,oM 28 40])))))))
 (.reg [oF 41 0 5,oK 42 1 41,oL 43 3 8,oR 44 (.bsf 3 [.s [],.b false,.nils] 1 [(0,(.t 43))]),oA1 45 3 48 42 44,oF 46 0 5,oS 1 46 45])))))
 (.reg [oA 47 16 1,oM 16 47])))))))
 (.seq (oZ [oF 48 1 2,oK 49 1 48,oE 50 49,oC 51 0]
 (.blk 4 (.loop (oZ [oJ 52 51 50]
 (.seq (.cond (.t 52) .skip (.exit 4))
 (.seq (.blk 5 (oZ [oI 53 9 49 51,oL 54 9 53,oR 12 (.new [.i .i64 0,.s [],.i .i64 0,.i .i64 0,.s [],.s [],.i .i64 0,.i .i64 0,.s []]),oS 9 12 54]
 (.dreg [(oF 55 1 5,0),(oK 56 1 55,0),(oF 57 0 12,3),(oK 58 1 57,3),(oM 59 1,15),(oF 60 1 12,31),(oL 61 4 60,31),(oR 62 (.callv (.t 59) [(.t 61)]),15),(oM 63 1,255),(oF 64 5 12,511),(oL 65 4 64,511),(oR 66 (.callv (.t 63) [(.t 65)]),15),(oR 67 (.bld [.i .i64 0,.s [],.i .i64 0,.i .i64 0,.s [],.s [],.i .i64 0,.i .i64 0,.s []] [(0,1,(.t 58)),(1,4,(.t 62)),(5,4,(.t 66))]),3),(oR 68 (.bsf 9 [.i .i64 0,.s [],.i .i64 0,.i .i64 0,.s [],.s [],.i .i64 0,.i .i64 0,.s []] 1 [(0,(.t 67))]),3),(oA1 69 9 104 56 68,0),(oF 70 1 5,0),(oS 1 70 69,0)])))
 (.reg [oA 71 51 1,oM 51 71])))))))
 (oZ [oL 72 2 5,oS 2 4 72]
 .ret))))⟩
def g62:Go.Vse.Fn:=⟨16,[.cell 4 true 4],oZ [oX 3 0,oR 4 (.new [.s [],.i .i64 0,.i .i64 0,.s []])]
 (.seq (oD [oK 5 1 1,oR 6 (.bin .neq (.t 5) (.k (.s []))),oM 7 6,oF1 8 7 0 3,oK1 9 7 1 8,oK1 10 7 1 1,oG 11 7 (.bin .eql (.t 9) (.t 10)),oP 12 7 11] 12 (oZ [oL 13 3 2,oR 14 (.bld [.s [],.i .i64 0,.i .i64 0,.s []] [(1,3,(.t 13))]),oS 4 4 14]
 .ret) .skip)
 (oZ [oL 15 4 3,oS 4 4 15]
 .ret))⟩
def g64:Go.Vse.Fn:=⟨224,[.t 8],oZ [oN1 8]
 (oZ [oM 15 0,oM 16 1,oM 17 2,oR 18 (.slc 2 (.t 15) (some (.t 16)) (some (.t 17)) none)]
 (.seq (oD [oM 19 1,oM 20 2,oR 21 (.bin .eql (.t 19) (.t 20))] 21 (oZ [oM 22 0,oM 23 1,oM 24 3,oR 25 (.call 107 [(.t 22),(.t 23),(.t 24)]),oM 8 25]
 .ret) .skip)
 (.seq (oD [oM 26 2,oM 27 0,oE 28 27,oR 29 (.bin .eql (.t 26) (.t 28))] 29 (oZ [oM 30 0,oM 31 1,oR 32 (.slc 2 (.t 30) none (some (.t 31)) none),oM 33 3,oA1 34 2 48 32 33,oM 9 34]
 (.seq (oD [oM 35 9,oE 36 35,oM 37 0,oE 38 37,oJ 39 36 38] 39 (.reg [oM 40 0,oM 41 9,oE 42 41,oR 43 (.slc 2 (.t 40) (some (.t 42)) none none),oN (.clr 2 [.nils,.nils] (.t 43))]) .skip)
 (oZ [oM 44 9,oM 8 44]
 .ret))) .skip)
 (.seq (.dreg [(oM 45 0,0),(oM 46 1,1),(oR 47 (.slc 2 (.t 45) none (some (.t 46)) none),0),(oE 48 47,0),(oM 49 3,15),(oE 50 49,15),(oD1 51 48 50,0),(oM 52 0,127),(oM 53 2,255),(oR 54 (.slc 2 (.t 52) (some (.t 53)) none none),127),(oE 55 54,127),(oD1 56 51 55,0),(oM 10 56,0)])
 (.seq (oD [oM 57 10,oM 58 0,oR 59 (.cap (.t 58)),oR 60 (.bin .gtr (.t 57) (.t 59))] 60 (oZ [oM 61 0,oM 62 1,oR 63 (.slc 2 (.t 61) none (some (.t 62)) none),oM 64 10,oM 65 1,oS1 66 64 65,oR 67 (.apz 2 48 [.nils,.nils] (.t 63) (.t 66)),oM 11 67]
 (oZ [oM 68 11,oM 69 1,oR 70 (.slc 2 (.t 68) (some (.t 69)) none none),oM 71 3,oR 72 (.cpy 2 (.t 70) (.t 71))]
 (.seq (.dreg [(oM 73 11,0),(oM 74 1,1),(oM 75 3,3),(oE 76 75,3),(oD1 77 74 76,1),(oR 78 (.slc 2 (.t 73) (some (.t 77)) none none),0),(oM 79 0,63),(oM 80 2,127),(oR 81 (.slc 2 (.t 79) (some (.t 80)) none none),63),(oR 82 (.cpy 2 (.t 78) (.t 81)),0)])
 (oZ [oM 83 11,oM 8 83]
 .ret)))) .skip)
 (oZ [oM 84 0,oM 85 10,oR 86 (.slc 2 (.t 84) none (some (.t 85)) none),oM 12 86]
 (.seq (oD [oM 87 1,oM 88 3,oE 89 88,oD1 90 87 89,oM 91 2,oR 92 (.bin .leq (.t 90) (.t 91))] 92 (oZ [oM 93 12,oM 94 1,oR 95 (.slc 2 (.t 93) (some (.t 94)) none none),oM 96 3,oR 97 (.cpy 2 (.t 95) (.t 96))]
 (.seq (.dreg [(oM 98 12,0),(oM 99 1,1),(oM 100 3,3),(oE 101 100,3),(oD1 102 99 101,1),(oR 103 (.slc 2 (.t 98) (some (.t 102)) none none),0),(oM 104 0,63),(oM 105 2,127),(oR 106 (.slc 2 (.t 104) (some (.t 105)) none none),63),(oR 107 (.cpy 2 (.t 103) (.t 106)),0)])
 (oZ [oM 108 0,oM 109 10,oR 110 (.slc 2 (.t 108) (some (.t 109)) none none),oN (.clr 2 [.nils,.nils] (.t 110))]
 (oZ [oM 111 12,oM 8 111]
 .ret)))) .skip)
 (.seq (oD [oM 112 12,oM 113 1,oM 114 3,oE 115 114,oD1 116 113 115,oR 117 (.slc 2 (.t 112) (some (.t 116)) none none),oM 118 3,oW1 119 108 117 118,oU1 120 119] 120 (.seq (.dreg [(oM 121 12,0),(oM 122 1,1),(oM 123 3,3),(oE 124 123,3),(oD1 125 122 124,1),(oR 126 (.slc 2 (.t 121) (some (.t 125)) none none),0),(oM 127 0,63),(oM 128 2,127),(oR 129 (.slc 2 (.t 127) (some (.t 128)) none none),63),(oR 130 (.cpy 2 (.t 126) (.t 129)),0)])
 (oZ [oM 131 12,oM 132 1,oR 133 (.slc 2 (.t 131) (some (.t 132)) none none),oM 134 3,oR 135 (.cpy 2 (.t 133) (.t 134))]
 (oZ [oM 136 12,oM 8 136]
 .ret))) .skip)
 (oZ [oM 137 3,oE 138 137,oM 139 2,oM 140 1,oS1 141 139 140,oS1 142 138 141,oM 13 142]
 (.seq (oD [oM 143 12,oM 144 1,oM 145 2,oR 146 (.slc 2 (.t 143) (some (.t 144)) (some (.t 145)) none),oM 147 3,oW1 148 108 146 147,oU1 149 148] 149 (.seq (.dreg [(oM 150 12,0),(oM 151 1,1),(oM 152 2,3),(oR 153 (.slc 2 (.t 150) (some (.t 151)) (some (.t 152)) none),0),(oM 154 3,15),(oM 155 13,31),(oR 156 (.slc 2 (.t 154) (some (.t 155)) none none),15),(oR 157 (.cpy 2 (.t 153) (.t 156)),0)])
 (.seq (.dreg [(oM 158 12,0),(oM 159 0,1),(oE 160 159,1),(oR 161 (.slc 2 (.t 158) (some (.t 160)) none none),0),(oM 162 3,15),(oM 163 13,31),(oR 164 (.slc 2 (.t 162) none (some (.t 163)) none),15),(oR 165 (.cpy 2 (.t 161) (.t 164)),0)])
 (oZ [oM 166 12,oM 167 1,oR 168 (.slc 2 (.t 166) (some (.t 167)) none none),oM 169 13,oW1 170 109 168 169]
 (oZ [oM 171 12,oM 8 171]
 .ret)))) .skip)
 (.seq (oD [oM 172 12,oM 173 0,oE 174 173,oR 175 (.slc 2 (.t 172) (some (.t 174)) none none),oM 176 3,oW1 177 108 175 176,oU1 178 177] 178 (.seq (.dreg [(oM 179 12,0),(oM 180 0,1),(oE 181 180,1),(oR 182 (.slc 2 (.t 179) (some (.t 181)) none none),0),(oM 183 3,15),(oM 184 13,31),(oR 185 (.slc 2 (.t 183) none (some (.t 184)) none),15),(oR 186 (.cpy 2 (.t 182) (.t 185)),0)])
 (.seq (.dreg [(oM 187 12,0),(oM 188 1,1),(oM 189 2,3),(oR 190 (.slc 2 (.t 187) (some (.t 188)) (some (.t 189)) none),0),(oM 191 3,15),(oM 192 13,31),(oR 193 (.slc 2 (.t 191) (some (.t 192)) none none),15),(oR 194 (.cpy 2 (.t 190) (.t 193)),0)])
 (oZ [oM 195 12,oM 196 1,oR 197 (.slc 2 (.t 195) (some (.t 196)) none none),oM 198 13,oW1 199 109 197 198]
 (oZ [oM 200 12,oM 8 200]
 .ret)))) .skip)
 (oZ [oM 201 3,oM 202 0,oM 203 2,oR 204 (.slc 2 (.t 202) (some (.t 203)) none none),oW1 205 110 201 204,oM 14 205]
 (oZ [oM 206 12,oM 207 1,oR 208 (.slc 2 (.t 206) (some (.t 207)) none none),oM 209 3,oR 210 (.cpy 2 (.t 208) (.t 209))]
 (.seq (.dreg [(oM 211 12,0),(oM 212 1,1),(oM 213 3,3),(oE 214 213,3),(oD1 215 212 214,1),(oR 216 (.slc 2 (.t 211) (some (.t 215)) none none),0),(oM 217 12,63),(oM 218 1,127),(oM 219 14,255),(oD1 220 218 219,127),(oR 221 (.slc 2 (.t 217) (some (.t 220)) none none),63),(oR 222 (.cpy 2 (.t 216) (.t 221)),0)])
 (oZ [oM 223 12,oM 8 223]
 .ret)))))))))))))))⟩
def g65:Go.Vse.Fn:=⟨19,[.t 4],oZ [oC 4 0]
 (.seq (oZ [oM 6 0,oE 7 6,oC 8 0]
 (.blk 0 (.loop (oZ [oJ 9 8 7]
 (.seq (.cond (.t 9) .skip (.exit 0))
 (.seq (.blk 1 (oZ [oM 10 8,oM 5 10]
 (oD [oM 11 1,oM 12 0,oM 13 5,oI 14 1 12 13,oK 15 1 14,oR 16 (.bin .eql (.t 11) (.t 15))] 16 (oZ [oM 17 5,oM 4 17]
 .ret) .skip)))
 (.reg [oA 18 8 1,oM 8 18])))))))
 (oZ [oR 4 (.mv (.k (.i .i64 (-1))))]
 .ret))⟩
def g66:Go.Vse.Fn:=⟨58,[.t 6],oZ [oX 3 0,oN1 6]
 (oZ [oN1 7]
 (.seq (oZ [oF 12 1 3,oK 13 1 12,oE 14 13,oC 15 0]
 (.blk 0 (.loop (oZ [oJ 16 15 14]
 (.seq (.cond (.t 16) .skip (.exit 0))
 (.seq (.blk 1 (oZ [oI 17 2 13 15,oL 18 2 17,oR0 9,oS 2 9 18]
 (oZ [oF 19 0 9,oK 20 1 19,oE 21 20,oC 22 0]
 (.blk 2 (.loop (oZ [oJ 23 22 21]
 (.seq (.cond (.t 23) .skip (.exit 2))
 (.seq (.blk 3 (oZ [oI 24 3 20 22,oL 25 3 24,oR 11 (.new [.s [],.b false,.nils]),oS 3 11 25]
 (oD [oF 26 0 11,oK 27 1 26,oM 28 1,oR 29 (.bin .eql (.t 27) (.t 28)),oM 30 29,oU 31 30 2,oF1 32 30 2 11,oK1 33 30 1 32,oG 34 30 (.len (.t 33)),oG 35 30 (.bin .lss (.t 31) (.t 34)),oP 36 30 35,oM 37 36,oF1 38 37 2 11,oK1 39 37 1 38,oU 40 37 2,oI1 41 37 4 39 40,oF1 42 37 0 41,oK1 43 37 1 42,oG 44 37 (.bin .eql (.t 43) (.k (.s []))),oP 45 37 44] 45 (.reg [oM 46 7,oF 47 2 11,oK 48 1 47,oM 49 2,oI 50 4 48 49,oF 51 1 50,oL 52 3 51,oR 53 (.bsf 3 [.i .i64 0,.i .i64 0,.s []] 1 [(0,(.t 52))]),oA1 54 3 32 46 53,oM 7 54]) .skip)))
 (.reg [oA 55 22 1,oM 22 55])))))))))
 (.reg [oA 56 15 1,oM 15 56])))))))
 (oZ [oM 57 7,oM 6 57]
 .ret)))⟩
def g67:Go.Vse.Fn:=⟨13,[.t 6],oZ [oX 3 0,oX 5 2,oO 6]
 (oZ [oL 7 2 3,oM 8 1,oR 9 (.bld [.s [],.i .i64 0,.i .i64 0,.s []] [(0,1,(.t 8))]),oL 10 3 5,oR 11 (.bld [.s [],.i .i64 0,.i .i64 0,.s []] [(1,3,(.t 10))]),oR 12 (.callp 74 [(.t 7),(.k (.i .i64 2)),(.t 9),(.t 11)]),oM 6 12]
 .ret)⟩
def g72:Go.Vse.Fn:=⟨42,[.t 4],oZ [oN1 4]
 (oZ [oM 8 0,oM 9 1,oW1 10 113 8 9,oM 5 10]
 (.seq (oD [oM 11 5,oR 12 (.bin .eql (.t 11) (.k (.i .i64 (-1))))] 12 (oZ [oM 13 0,oM 4 13]
 .ret) .skip)
 (.seq (oZ [oM 14 5,oA 15 14 1,oM 6 15]
 (.blk 0 (.loop (.seq (oD [oM 16 6,oM 17 0,oE 18 17,oJ 19 16 18] 19 .skip (.exit 0))
 (.seq (.blk 1 (oZ [oM 22 0,oM 23 6,oI 24 1 22 23,oK 25 1 24,oM 7 25]
 (oD [oM 26 1,oM 27 7,oR 28 (.callv (.t 26) [(.t 27)]),oU1 29 28] 29 (oZ [oM 30 0,oM 31 5,oM 32 7,oI 33 1 30 31,oS 1 33 32]
 (.reg [oM 34 5,oA 35 34 1,oM 5 35])) .skip)))
 (.reg [oM 20 6,oA 21 20 1,oM 6 21]))))))
 (oZ [oM 36 0,oM 37 5,oR 38 (.slc 1 (.t 36) (some (.t 37)) none none),oN (.clr 1 [.s []] (.t 38))]
 (oZ [oM 39 0,oM 40 5,oR 41 (.slc 1 (.t 39) none (some (.t 40)) none),oM 4 41]
 .ret)))))⟩
def g73:Go.Vse.Fn:=⟨7,[.t 3],oZ [oO 3]
 (oZ [oK 4 1 1,oM 5 0,oW 6 33 4 5,oM 3 6]
 .ret)⟩
def g74:Go.Vse.Fn:=⟨13,[.t 8],oZ [oX 4 0,oX 5 1,oX 6 2,oX 7 3,oO 8]
 (oZ [oF 9 1 4,oK 10 1 9,oR 11 (.mkf 114 [] [(.t 5),(.t 6),(.t 7)]),oW1 12 88 10 11,oM 8 12]
 .ret)⟩
def g75:Go.Vse.Fn:=⟨59,[.t 6],oZ [oX 3 0,oO 6]
 (.seq (oZ [oF 13 0 3,oK 14 1 13,oE 15 14,oC 16 0]
 (.blk 0 (.loop (oZ [oJ 17 16 15]
 (.seq (.cond (.t 17) .skip (.exit 0))
 (.seq (.blk 1 (oZ [oI 18 3 14 16,oL 19 3 18,oR 8 (.new [.s [],.b false,.nils]),oS 3 8 19]
 (oZ [oF 20 2 8,oK 21 1 20,oE 22 21,oC 23 0]
 (.blk 2 (.loop (oZ [oJ 24 23 22]
 (.seq (.cond (.t 24) .skip (.exit 2))
 (.seq (.blk 3 (oZ [oM 25 23,oI 26 4 21 23,oL 27 4 26,oR 10 (.new [.s [],.i .i64 0,.i .i64 0,.s []]),oM 9 25,oS 4 10 27]
 (oZ [oF 28 2 8,oK 29 1 28,oE 30 29,oC 31 0]
 (.blk 4 (.loop (oZ [oJ 32 31 30]
 (.seq (.cond (.t 32) .skip (.exit 4))
 (.seq (.blk 5 (oZ [oM 33 31,oI 34 4 29 31,oL 35 4 34,oR 12 (.new [.s [],.i .i64 0,.i .i64 0,.s []]),oM 11 33,oS 4 12 35]
 (oD [oF 36 0 10,oK 37 1 36,oM 38 1,oR 39 (.bin .eql (.t 37) (.t 38)),oM 40 39,oF1 41 40 0 12,oK1 42 40 1 41,oU 43 40 2,oG 44 40 (.bin .eql (.t 42) (.t 43)),oP 45 40 44,oM 46 45,oL1 47 46 2 3,oF1 48 46 0 8,oK1 49 46 1 48,oU 50 46 9,oU 51 46 2,oU 52 46 11,oU 53 46 1,oG 54 46 (.callp 116 [(.t 47),(.t 49),(.t 50),(.t 51),(.t 52),(.t 53)]),oP 55 46 54] 55 (oZ [oT 6]
 .ret) .skip)))
 (.reg [oA 56 31 1,oM 31 56])))))))))
 (.reg [oA 57 23 1,oM 23 57])))))))))
 (.reg [oA 58 16 1,oM 16 58])))))))
 (oZ [oO 6]
 .ret))⟩
def g76:Go.Vse.Fn:=⟨20,[.cell 4 true 4],oZ [oX 3 0,oR 4 (.new [.s [],.i .i64 0,.i .i64 0,.s []])]
 (.seq (oD [oK 5 1 1,oR 6 (.bin .neq (.t 5) (.k (.s []))),oM 7 6,oK1 8 7 1 2,oG 9 7 (.bin .neq (.t 8) (.k (.s []))),oP 10 7 9,oM 11 10,oF1 12 11 0 3,oK1 13 11 1 12,oK1 14 11 1 1,oG 15 11 (.bin .eql (.t 13) (.t 14)),oP 16 11 15] 16 (.reg [oK 17 1 2,oF 18 0 3,oS 1 18 17]) .skip)
 (oZ [oL 19 4 3,oS 4 4 19]
 .ret))⟩
def g78:Go.Vse.Fn:=⟨148,[],oZ [oT 10]
 (oZ [oT 11]
 (.blk 0 (.loop (.blk 1 (oZ [oM 21 2,oM 22 1,oS1 23 21 22,oM 12 23]
 (.seq (oD [oM 24 12,oR 25 (.bin .leq (.t 24) (.k (.i .i64 12)))] 25 (oZ [oM 26 0,oM 27 1,oM 28 2,oM 29 4,oR 30 (.call 118 [(.t 26),(.t 27),(.t 28),(.t 29)])]
 .ret) .skip)
 (.seq (oD [oM 31 3,oE1 32 31 0] 32 (oZ [oM 33 0,oM 34 1,oM 35 2,oM 36 4,oR 37 (.call 119 [(.t 33),(.t 34),(.t 35),(.t 36)])]
 .ret) .skip)
 (.seq (oD [oM 38 10,oU1 39 38] 39 (oZ [oM 40 0,oM 41 1,oM 42 2,oM 43 4,oR 44 (.call 120 [(.t 40),(.t 41),(.t 42),(.t 43)])]
 (.reg [oM 45 3,oB1 46 45 1,oM 3 46])) .skip)
 (oZ [oM 48 0,oM 49 1,oM 50 2,oM 51 4,oR 52 (.call 121 [(.t 48),(.t 49),(.t 50),(.t 51)]),oM 47 52,oQ 53 47 0,oQ 54 47 1,oM 13 53,oM 14 54]
 (.seq (oD [oM 55 14,oE1 56 55 2] 56 (oZ [oM 57 0,oM 58 1,oM 59 2,oM 60 4,oR 61 (.call 122 [(.t 57),(.t 58),(.t 59),(.t 60)])]
 (oZ [oM 62 2,oB1 63 62 1,oM 64 13,oM 65 1,oS1 66 64 65,oS1 67 63 66,oM 13 67]
 (.reg [oC 14 1]))) .skip)
 (.seq (oD [oM 68 10,oM 69 68,oU 70 69 11,oP 71 69 70,oM 72 71,oU 73 72 14,oG 74 72 (.bin .eql (.t 73) (.k (.i .i64 1))),oP 75 72 74] 75 (oD [oM 76 0,oM 77 1,oM 78 2,oM 79 4,oR 80 (.call 123 [(.t 76),(.t 77),(.t 78),(.t 79)])] 80 .ret .skip) .skip)
 (.seq (.seq (.dreg [(oM 81 1,0),(oR 82 (.bin .gtr (.t 81) (.k (.i .i64 0))),0),(oM 83 82,0),(oU 84 83 4,0),(oU 85 83 0,8),(oU 86 83 1,24),(oG 87 83 (.bin .sub (.t 86) (.k (.i .i64 1))),24),(oI1 88 83 3 85 87,8),(oL1 89 83 3 88,8),(oU 90 83 0,504),(oU 91 83 13,1016),(oI1 92 83 3 90 91,504),(oL1 93 83 3 92,504),(oG 94 83 (.callv (.t 84) [(.t 89),(.t 93)]),0),(oG 95 83 (.bin .lss (.t 94) (.k (.i .i64 0))),0),(oG 96 83 (.un .not (.t 95)),0),(oP 97 83 96,0)])
 (.cond (.t 97) (oZ [oM 98 0,oM 99 1,oM 100 2,oM 101 13,oM 102 4,oR 103 (.call 124 [(.t 98),(.t 99),(.t 100),(.t 101),(.t 102)]),oM 15 103]
 (oZ [oM 104 15,oM 1 104]
 (.exit 1))) .skip))
 (oZ [oM 106 0,oM 107 1,oM 108 2,oM 109 13,oM 110 4,oR 111 (.call 125 [(.t 106),(.t 107),(.t 108),(.t 109),(.t 110)]),oM 105 111,oQ 112 105 0,oQ 113 105 1,oM 16 112,oM 17 113]
 (oZ [oM 114 17,oM 11 114]
 (oZ [oM 115 16,oM 116 1,oS1 117 115 116,oM 118 2,oM 119 16,oS1 120 118 119,oM 18 117,oM 19 120]
 (oZ [oM 121 12,oR 122 (.bin .quo (.t 121) (.k (.i .i64 8))),oM 20 122]
 (oD [oM 123 18,oM 124 19,oJ 125 123 124] 125 (oZ [oM 126 18,oM 127 20,oR 128 (.bin .geq (.t 126) (.t 127)),oM 10 128]
 (oZ [oM 129 0,oM 130 1,oM 131 16,oM 132 3,oM 133 4,oR 134 (.call 78 [(.t 129),(.t 130),(.t 131),(.t 132),(.t 133)])]
 (.reg [oM 135 16,oA 136 135 1,oM 1 136]))) (oZ [oM 137 19,oM 138 20,oR 139 (.bin .geq (.t 137) (.t 138)),oM 10 139]
 (oZ [oM 140 0,oM 141 16,oA 142 141 1,oM 143 2,oM 144 3,oM 145 4,oR 146 (.call 78 [(.t 140),(.t 142),(.t 143),(.t 144),(.t 145)])]
 (.reg [oM 147 16,oM 2 147]))))))))))))))))))))⟩
def g79:Go.Vse.Fn:=⟨8,[.t 2],oZ [oC 2 0]
 (.seq (.cond (.k (.b false)) (oZ [oM 3 0,oR 4 (.cvi .u32 (.t 3)),oV1 5 126 4,oM 2 5]
 .ret) .skip)
 (oZ [oM 6 0,oV1 7 127 6,oM 2 7]
 .ret))⟩
def g80:Go.Vse.Fn:=⟨18,[.t 2],oZ [oC 2 0]
 (oZ [oC 3 0]
 (.seq (oZ [oM 6 0,oE 7 6,oC 8 0]
 (.blk 0 (.loop (oZ [oJ 9 8 7]
 (.seq (.cond (.t 9) .skip (.exit 0))
 (.seq (.blk 1 (oZ [oI 10 1 6 8,oK 11 1 10,oM 5 11]
 (oD [oM 12 5,oM 13 3,oR 14 (.bin .neq (.t 12) (.t 13))] 14 (oZ [oM 15 5,oM 2 15]
 .ret) .skip)))
 (.reg [oA 16 8 1,oM 8 16])))))))
 (oZ [oM 17 3,oM 2 17]
 .ret)))⟩
def g81:Go.Vse.Fn:=⟨20,[.t 4],oZ [oC 4 0]
 (oZ [oM 7 0,oV 8 128 7,oM 5 8]
 (oZ [oM 9 1,oV 10 128 9,oM 6 10]
 (.seq (oD [oM 11 5] 11 (.seq (oD [oM 12 6] 12 (oZ [oC 4 0]
 .ret) .skip)
 (oZ [oR 4 (.mv (.k (.i .i64 (-1))))]
 .ret)) .skip)
 (.seq (oD [oM 13 6] 13 (oZ [oC 4 1]
 .ret) .skip)
 (.seq (oD [oM 14 0,oM 15 1,oJ 16 14 15] 16 (oZ [oR 4 (.mv (.k (.i .i64 (-1))))]
 .ret) .skip)
 (.seq (oD [oM 17 0,oM 18 1,oR 19 (.bin .gtr (.t 17) (.t 18))] 19 (oZ [oC 4 1]
 .ret) .skip)
 (oZ [oC 4 0]
 .ret)))))))⟩
def g82:Go.Vse.Fn:=⟨20,[.t 4],oZ [oC 4 0]
 (oZ [oM 7 0,oV 8 129 7,oM 5 8]
 (oZ [oM 9 1,oV 10 129 9,oM 6 10]
 (.seq (oD [oM 11 5] 11 (.seq (oD [oM 12 6] 12 (oZ [oC 4 0]
 .ret) .skip)
 (oZ [oR 4 (.mv (.k (.i .i64 (-1))))]
 .ret)) .skip)
 (.seq (oD [oM 13 6] 13 (oZ [oC 4 1]
 .ret) .skip)
 (.seq (oD [oM 14 0,oM 15 1,oJ 16 14 15] 16 (oZ [oR 4 (.mv (.k (.i .i64 (-1))))]
 .ret) .skip)
 (.seq (oD [oM 17 0,oM 18 1,oR 19 (.bin .gtr (.t 17) (.t 18))] 19 (oZ [oC 4 1]
 .ret) .skip)
 (oZ [oC 4 0]
 .ret)))))))⟩
def g83:Go.Vse.Fn:=⟨8,[.t 4],oZ [oC 4 0]
 (oZ [oM 5 0,oM 6 1,oW1 7 130 5 6,oM 4 7]
 .ret)⟩
def g84:Go.Vse.Fn:=⟨31,[.t 4],oZ [oX 2 0,oX 3 1,oC 4 0]
 (.seq (.blk 0 (oD [oF 6 0 2,oK 7 1 6,oR 8 (.bin .eql (.t 7) (.k (.s []))),oM 9 8,oF1 10 9 0 3,oK1 11 9 1 10,oG 12 9 (.bin .eql (.t 11) (.k (.s []))),oP 13 9 12,oM 5 13] 5 (oZ [oF 14 1 2,oL 15 3 14,oF 16 1 3,oL 17 3 16,oW 18 112 15 17,oM 4 18]
 .ret) (oD [oF 20 0 2,oK 21 1 20,oF 22 0 3,oK 23 1 22,oJ 24 21 23,oM 19 24] 19 (oZ [oR 4 (.mv (.k (.i .i64 (-1))))]
 .ret) (oD [oF 26 0 2,oK 27 1 26,oF 28 0 3,oK 29 1 28,oR 30 (.bin .gtr (.t 27) (.t 29)),oM 25 30] 25 (oZ [oC 4 1]
 .ret) .skip))))
 (oZ [oC 4 0]
 .ret))⟩
def g86:Go.Vse.Fn:=⟨58,[.t 4],oZ [oX 2 0,oX 3 1,oC 4 0]
 (.seq (oZ [oF 8 0 2,oK 9 1 8,oF 10 0 3,oK 11 1 10,oW 12 131 9 11,oM 5 12]
 (oD [oM 13 5,oR 14 (.bin .neq (.t 13) (.k (.i .i64 0)))] 14 (oZ [oM 15 5,oM 4 15]
 .ret) .skip))
 (.seq (oD [oF 16 1 2,oK 17 1 16,oF 18 1 3,oK 19 1 18,oR 20 (.eqb true (.t 17) (.t 19))] 20 (.seq (oD [oF 21 1 3,oK 22 1 21] 22 (oZ [oR 4 (.mv (.k (.i .i64 (-1))))]
 .ret) .skip)
 (oZ [oC 4 1]
 .ret)) .skip)
 (.seq (oZ [oC 6 0]
 (.blk 0 (.loop (.seq (oD [oM 23 6,oF 24 2 2,oK 25 1 24,oE 26 25,oJ 27 23 26,oM 28 27,oU 29 28 6,oF1 30 28 2 3,oK1 31 28 1 30,oG 32 28 (.len (.t 31)),oG 33 28 (.bin .lss (.t 29) (.t 32)),oP 34 28 33] 34 .skip (.exit 0))
 (.seq (.blk 1 (.seq (.dreg [(oF 37 2 2,0),(oK 38 1 37,0),(oM 39 6,3),(oI 40 4 38 39,0),(oL 41 4 40,0),(oF 42 2 3,31),(oK 43 1 42,31),(oM 44 6,127),(oI 45 4 43 44,31),(oL 46 4 45,31),(oW 47 84 41 46,0),(oM 7 47,0)])
 (oD [oM 48 7,oR 49 (.bin .neq (.t 48) (.k (.i .i64 0)))] 49 (oZ [oM 50 7,oM 4 50]
 .ret) .skip)))
 (.reg [oM 35 6,oA 36 35 1,oM 6 36]))))))
 (oZ [oF 51 2 2,oK 52 1 51,oE 53 52,oF 54 2 3,oK 55 1 54,oE 56 55,oS1 57 53 56,oM 4 57]
 .ret))))⟩
def g87:Go.Vse.Fn:=⟨29,[.t 4],oZ [oX 2 0,oX 3 1,oC 4 0]
 (.seq (oD [oF 6 0 2,oK 7 1 6,oF 8 0 3,oK 9 1 8,oR 10 (.bin .neq (.t 7) (.t 9))] 10 (.seq (oD [oF 11 0 2,oK 12 1 11,oF 13 0 3,oK 14 1 13,oJ 15 12 14] 15 (oZ [oR 4 (.mv (.k (.i .i64 (-1))))]
 .ret) .skip)
 (oZ [oC 4 1]
 .ret)) .skip)
 (.seq (oZ [oF 16 1 2,oL 17 4 16,oF 18 1 3,oL 19 4 18,oW 20 84 17 19,oM 5 20]
 (oD [oM 21 5,oR 22 (.bin .neq (.t 21) (.k (.i .i64 0)))] 22 (oZ [oM 23 5,oM 4 23]
 .ret) .skip))
 (oZ [oF 24 5 2,oL 25 4 24,oF 26 5 3,oL 27 4 26,oW 28 84 25 27,oM 4 28]
 .ret)))⟩
def g88:Go.Vse.Fn:=⟨9,[.t 4],oZ [oO 4]
 (oZ [oM 5 0,oM 6 1,oW1 7 90 5 6,oG1 8 7 0,oM 4 8]
 .ret)⟩
def g89:Go.Vse.Fn:=⟨31,[.t 2],oZ [oX 1 0,oO 2]
 (.seq (oD [oF 3 1 1,oF 4 0 3,oK 5 1 4,oR 6 (.bin .eql (.t 5) (.k (.s []))),oM 7 6,oF1 8 7 5 1,oF1 9 7 0 8,oK1 10 7 1 9,oG 11 7 (.bin .eql (.t 10) (.k (.s []))),oP 12 7 11] 12 (oZ [oL 13 9 1,oV 14 132 13,oU1 15 14,oM 2 15]
 .ret) .skip)
 (oZ [oF 16 1 1,oL 17 4 16,oF 18 5 1,oL 19 4 18,oW 20 115 17 19,oM 21 20,oF1 22 21 0 1,oK1 23 21 1 22,oG 24 21 (.bin .eql (.t 23) (.k (.i .i64 2))),oU 25 21 24,oF2 26 25 0 1,oK2 27 25 1 26,oH 28 25 (.bin .eql (.t 27) (.k (.i .i64 3))),oG 29 21 (.pick (.t 25) (.k (.b true)) (.t 28)),oP 30 21 29,oM 2 30]
 .ret))⟩
def g90:Go.Vse.Fn:=⟨19,[.t 4],oZ [oC 4 0]
 (.seq (oZ [oM 6 0,oE 7 6,oC 8 0]
 (.blk 0 (.loop (oZ [oJ 9 8 7]
 (.seq (.cond (.t 9) .skip (.exit 0))
 (.seq (.blk 1 (oZ [oM 10 8,oM 5 10]
 (oD [oM 11 1,oM 12 0,oM 13 5,oI 14 9 12 13,oL 15 9 14,oR 16 (.callv (.t 11) [(.t 15)])] 16 (oZ [oM 17 5,oM 4 17]
 .ret) .skip)))
 (.reg [oA 18 8 1,oM 8 18])))))))
 (oZ [oR 4 (.mv (.k (.i .i64 (-1))))]
 .ret))⟩
def g91:Go.Vse.Fn:=⟨30,[.t 2],oZ [oX 1 0,oO 2]
 (.seq (oD [oF 3 1 1,oF 4 0 3,oK 5 1 4,oR 6 (.bin .eql (.t 5) (.k (.s []))),oM 7 6,oF1 8 7 5 1,oF1 9 7 0 8,oK1 10 7 1 9,oG 11 7 (.bin .eql (.t 10) (.k (.s []))),oP 12 7 11] 12 (oZ [oL 13 9 1,oV 14 132 13,oM 2 14]
 .ret) .skip)
 (oZ [oF 15 1 1,oL 16 4 15,oF 17 5 1,oL 18 4 17,oW 19 115 16 18,oM 20 19,oF1 21 20 0 1,oK1 22 20 1 21,oG 23 20 (.bin .eql (.t 22) (.k (.i .i64 1))),oU 24 20 23,oF2 25 24 0 1,oK2 26 24 1 25,oH 27 24 (.bin .eql (.t 26) (.k (.i .i64 4))),oG 28 20 (.pick (.t 24) (.k (.b true)) (.t 27)),oP 29 20 28,oM 2 29]
 .ret))⟩
def g92:Go.Vse.Fn:=⟨33,[.t 6],oZ [oN1 6]
 (oZ [oM 8 0,oM 9 1,oM 10 2,oM 11 0,oE 12 11,oR 13 (.slc 9 (.t 8) (some (.t 9)) (some (.t 10)) (some (.t 12)))]
 (.seq (oD [oM 14 1,oM 15 2,oR 16 (.bin .eql (.t 14) (.t 15))] 16 (oZ [oM 17 0,oM 6 17]
 .ret) .skip)
 (oZ [oM 18 0,oE 19 18,oM 7 19]
 (.seq (.dreg [(oM 20 0,0),(oM 21 1,1),(oR 22 (.slc 9 (.t 20) none (some (.t 21)) none),0),(oM 23 0,7),(oM 24 2,15),(oR 25 (.slc 9 (.t 23) (some (.t 24)) none none),7),(oA1 26 9 104 22 25,0),(oM 0 26,0)])
 (oZ [oM 27 0,oM 28 0,oE 29 28,oM 30 7,oR 31 (.slc 9 (.t 27) (some (.t 29)) (some (.t 30)) none),oN (.clr 9 [.i .i64 0,.s [],.i .i64 0,.i .i64 0,.s [],.s [],.i .i64 0,.i .i64 0,.s []] (.t 31))]
 (oZ [oM 32 0,oM 6 32]
 .ret))))))⟩
def g93:Go.Vse.Fn:=⟨14,[.t 3],oZ [oX 2 0,oO 3]
 (oZ [oF 4 0 2,oK 5 1 4,oR 6 (.bin .neq (.t 5) (.k (.s []))),oM 7 6,oK1 8 7 1 1,oF1 9 7 0 2,oK1 10 7 1 9,oW2 11 7 33 8 10,oG 12 7 (.un .not (.t 11)),oP 13 7 12,oM 3 13]
 .ret)⟩
def g94:Go.Vse.Fn:=⟨19,[.t 3],oZ [oX 2 0,oO 3]
 (oZ [oF 4 0 2,oK 5 1 4,oE1 6 5 1,oM 7 6,oK1 8 7 1 1,oF1 9 7 1 2,oL1 10 7 4 9,oG 11 7 (.callv (.t 8) [(.t 10)]),oU 12 7 11,oK2 13 12 1 1,oF2 14 12 5 2,oH 15 12 (.ld true 4 (.t 14)),oH 16 12 (.callv (.t 13) [(.t 15)]),oG 17 7 (.pick (.t 12) (.k (.b true)) (.t 16)),oP 18 7 17,oM 3 18]
 .ret)⟩
def g95:Go.Vse.Fn:=⟨54,[],oZ [oX 3 0,oX 4 1,oX 5 2]
 (oZ [oR 11 (.mkf 133 [] [(.t 4),(.t 5)]),oM 6 11]
 (.seq (oZ [oF 12 0 3,oK 13 1 12,oE 14 13,oC 15 0]
 (.blk 0 (.loop (oZ [oJ 16 15 14]
 (.seq (.cond (.t 16) .skip (.exit 0))
 (.seq (.blk 1 (oZ [oI 17 3 13 15,oL 18 3 17,oR 8 (.new [.s [],.b false,.nils]),oS 3 8 18]
 (oZ [oF 19 2 8,oK 20 1 19,oE 21 20,oC 22 0]
 (.blk 2 (.loop (oZ [oJ 23 22 21]
 (.seq (.cond (.t 23) .skip (.exit 2))
 (.seq (.blk 3 (oZ [oM 24 22,oM 9 24]
 (.reg [oM 25 6,oF 26 2 8,oK 27 1 26,oM 28 9,oI 29 4 27 28,oR 30 (.callv (.t 25) [(.t 29)])])))
 (.reg [oA 31 22 1,oM 22 31])))))))))
 (.reg [oA 32 15 1,oM 15 32])))))))
 (oZ [oF 33 1 3,oK 34 1 33,oE 35 34,oC 36 0]
 (.blk 4 (.loop (oZ [oJ 37 36 35]
 (.seq (.cond (.t 37) .skip (.exit 4))
 (.seq (.blk 5 (oZ [oM 38 36,oM 10 38]
 (oZ [oM 39 6,oF 40 1 3,oK 41 1 40,oM 42 10,oI 43 9 41 42,oF 44 1 43,oR 45 (.callv (.t 39) [(.t 44)])]
 (.reg [oM 46 6,oF 47 1 3,oK 48 1 47,oM 49 10,oI 50 9 48 49,oF 51 5 50,oR 52 (.callv (.t 46) [(.t 51)])]))))
 (.reg [oA 53 36 1,oM 36 53])))))))))⟩
def g100:Go.Vse.Fn:=⟨140,[.t 2,.t 3],oZ [oN1 2,oO 3]
 (oZ [oN1 4]
 (.seq (oZ [oC 5 0]
 (.blk 0 (.loop (.seq (oD [oM 9 5,oM 10 0,oR 11 (.lns (.t 10)),oJ 12 9 11] 12 .skip (.exit 0))
 (.blk 1 (oZ [oM 13 0,oM 14 5,oR 15 (.ixs (.t 13) (.t 14)),oM 6 15]
 (oZ [oM 16 5,oM 7 16]
 (oZ [oC 8 0]
 (.seq (.blk 2 (oD [oM 18 6,oR 19 (.bin .eql (.t 18) (.k (.i .u8 32))),oM 17 19] 17 (oZ [oM 20 5,oA 21 20 1,oM 5 21]
 (.exit 1)) (oD [oM 23 6,oR 24 (.bin .eql (.t 23) (.k (.i .u8 35))),oM 22 24] 22 (oZ [oM 25 4,oM 2 25,oT 3]
 .ret) (oD [oM 27 6,oV 28 135 27,oM 26 28] 26 (oZ [oC 8 1]
 (.blk 3 (.loop (.seq (oD [oM 29 7,oM 30 0,oR 31 (.lns (.t 30)),oJ 32 29 31,oM 33 32,oU 34 33 0,oU 35 33 7,oG 36 33 (.ixs (.t 34) (.t 35)),oG 37 33 (.callp 135 [(.t 36)]),oU 38 33 37,oM1 39 38 0,oM1 40 38 7,oH 41 38 (.ixs (.t 39) (.t 40)),oH 42 38 (.callp 136 [(.t 41)]),oG 43 33 (.pick (.t 38) (.k (.b true)) (.t 42)),oU 44 33 43,oM1 45 44 0,oM1 46 44 7,oH 47 44 (.ixs (.t 45) (.t 46)),oH 48 44 (.bin .eql (.t 47) (.k (.i .u8 95))),oG 49 33 (.pick (.t 44) (.k (.b true)) (.t 48)),oP 50 33 49] 50 .skip (.exit 3))
 (.blk 4 (.reg [oM 51 7,oA 52 51 1,oM 7 52])))))) (oD [oM 54 6,oR 55 (.bin .eql (.t 54) (.k (.i .u8 45))),oM 56 55,oM1 57 56 6,oH 58 56 (.callp 136 [(.t 57)]),oP1 59 56 58,oM 53 59] 53 (.reg [oM 60 0,oM 61 5,oW 62 137 60 61,oC 8 2,oM 7 62]) (oD [oM 64 6,oR 65 (.bin .eql (.t 64) (.k (.i .u8 39))),oM 63 65] 63 (.reg [oM 66 0,oM 67 5,oW 68 138 66 67,oC 8 3,oM 7 68]) (oD [oM 70 6,oR 71 (.bin .eql (.t 70) (.k (.i .u8 40))),oM 72 71,oM1 73 72 6,oH 74 72 (.bin .eql (.t 73) (.k (.i .u8 41))),oP1 75 72 74,oM 76 75,oM1 77 76 6,oH 78 76 (.bin .eql (.t 77) (.k (.i .u8 44))),oP1 79 76 78,oM 80 79,oM1 81 80 6,oH 82 80 (.bin .eql (.t 81) (.k (.i .u8 58))),oP1 83 80 82,oM 84 83,oM1 85 84 6,oH 86 84 (.bin .eql (.t 85) (.k (.i .u8 61))),oP1 87 84 86,oM 69 87] 69 (.reg [oM 88 5,oA 89 88 1,oC 8 4,oM 7 89]) (oD [oM 91 6,oR 92 (.bin .eql (.t 91) (.k (.i .u8 60))),oM 90 92] 90 (oZ [oM 93 5,oA 94 93 1,oC 8 4,oM 7 94]
 (oD [oM 95 7,oM 96 0,oR 97 (.lns (.t 96)),oJ 98 95 97,oM 99 98,oU 100 99 0,oU 101 99 7,oG 102 99 (.ixs (.t 100) (.t 101)),oG 103 99 (.bin .eql (.t 102) (.k (.i .u8 61))),oP 104 99 103] 104 (.reg [oM 105 7,oA 106 105 1,oM 7 106]) .skip)) (oD [oM 108 6,oR 109 (.bin .eql (.t 108) (.k (.i .u8 33))),oM 110 109,oU 111 110 5,oG 112 110 (.bin .add (.t 111) (.k (.i .i64 1))),oU 113 110 0,oG 114 110 (.lns (.t 113)),oG 115 110 (.bin .lss (.t 112) (.t 114)),oP 116 110 115,oM 117 116,oU 118 117 0,oU 119 117 5,oG 120 117 (.bin .add (.t 119) (.k (.i .i64 1))),oG 121 117 (.ixs (.t 118) (.t 120)),oG 122 117 (.bin .eql (.t 121) (.k (.i .u8 61))),oP 123 117 122,oM 107 123] 107 (.reg [oM 124 5,oA 125 124 2,oC 8 4,oM 7 125]) .skip)))))))))
 (.seq (oD [oM 126 7,oM 127 5,oR 128 (.bin .eql (.t 126) (.t 127))] 128 (oZ [oN1 2,oO 3]
 .ret) .skip)
 (oZ [oM 129 4,oM 130 8,oM 131 0,oM 132 5,oM 133 7,oR 134 (.sls (.t 131) (some (.t 132)) (some (.t 133))),oR 135 (.bld [.i .i64 0,.s []] [(0,1,(.t 130)),(1,1,(.t 134))]),oR 136 (.bsf 2 [.i .i64 0,.s []] 1 [(0,(.t 135))]),oA1 137 2 24 129 136,oM 4 137]
 (.reg [oM 138 7,oM 5 138]))))))))))))
 (oZ [oM 139 4,oM 2 139,oT 3]
 .ret)))⟩
def g101:Go.Vse.Fn:=⟨65,[.t 4],oZ [oO 4]
 (.seq (.dreg [(oM 5 0,0),(oY 6 5,0),(oF 7 2 6,0),(oK 8 1 7,0),(oU1 9 8,0),(oM 10 9,0),(oU 11 10 0,0),(oG 12 10 (.nck (.t 11)),0),(oF1 13 10 1 12,0),(oK1 14 10 1 13,0),(oU 15 10 0,960),(oG 16 10 (.nck (.t 15)),960),(oF1 17 10 0 16,960),(oK1 18 10 1 17,960),(oG 19 10 (.len (.t 18)),960),(oG 20 10 (.bin .lss (.t 14) (.t 19)),0),(oP 21 10 20,0),(oM 22 21,0),(oU 23 22 0,0),(oG 24 22 (.nck (.t 23)),0),(oF1 25 22 0 24,0),(oK1 26 22 1 25,0),(oU 27 22 0,3932160),(oG 28 22 (.nck (.t 27)),3932160),(oF1 29 22 1 28,3932160),(oK1 30 22 1 29,3932160),(oI1 31 22 2 26 30,0),(oF1 32 22 0 31,0),(oK1 33 22 1 32,0),(oG 34 22 (.bin .neq (.t 33) (.k (.i .i64 3))),0),(oP 35 22 34,0),(oM 36 35,0),(oU 37 36 0,0),(oG 38 36 (.nck (.t 37)),0),(oF1 39 36 0 38,0),(oK1 40 36 1 39,0),(oU 41 36 0,64424509440),(oG 42 36 (.nck (.t 41)),64424509440),(oF1 43 36 1 42,64424509440),(oK1 44 36 1 43,64424509440),(oI1 45 36 2 40 44,0),(oF1 46 36 0 45,0),(oK1 47 36 1 46,0),(oG 48 36 (.bin .neq (.t 47) (.k (.i .i64 2))),0),(oP 49 36 48,0),(oM 50 49,0),(oU 51 50 0,0),(oG 52 50 (.nck (.t 51)),0),(oF1 53 50 0 52,0),(oK1 54 50 1 53,0),(oU 55 50 0,1055531162664960),(oG 56 50 (.nck (.t 55)),1055531162664960),(oF1 57 50 1 56,1055531162664960),(oK1 58 50 1 57,1055531162664960),(oI1 59 50 2 54 58,0),(oF1 60 50 1 59,0),(oK1 61 50 1 60,0),(oU 62 50 1,144044819331678208),(oG 63 50 (.bin .eql (.t 61) (.t 62)),0),(oP 64 50 63,0),(oM 4 64,0)])
 .ret)⟩
def g102:Go.Vse.Fn:=⟨28,[.t 4],oZ [oN1 4]
 (oZ [oN1 5]
 (oZ [oM 6 0,oR 7 (.call 103 [(.t 6),(.k (.s [40]))])]
 (.seq (oD [oM 8 1,oM 9 8,oU 10 9 0,oG 11 9 (.call 139 [(.t 10),(.k (.s [41]))]),oP 12 9 11] 12 (oZ [oN1 4]
 .ret) .skip)
 (oZ [oM 13 5,oM 14 0,oV1 15 140 14,oR 16 (.bsf 1 [.s []] 1 [(0,(.t 15))]),oA1 17 1 16 13 16,oM 5 17]
 (.seq (.blk 0 (.loop (.seq (oD [oM 18 0,oR 19 (.call 139 [(.t 18),(.k (.s [44]))])] 19 .skip (.exit 0))
 (.blk 1 (.reg [oM 20 5,oM 21 0,oV1 22 140 21,oR 23 (.bsf 1 [.s []] 1 [(0,(.t 22))]),oA1 24 1 16 20 23,oM 5 24])))))
 (oZ [oM 25 0,oR 26 (.call 103 [(.t 25),(.k (.s [41]))])]
 (oZ [oM 27 5,oM 4 27]
 .ret)))))))⟩
def g103:Go.Vse.Fn:=⟨11,[],oD [oM 4 0,oM 5 1,oW1 6 139 4 5,oU1 7 6] 7 (.reg [oM 8 0,oY 9 8,oF 10 2 9,oN (.st 1 (.t 10) (.k (.b true)))]) .skip⟩
def g104:Go.Vse.Fn:=⟨7,[.t 2],oZ [oN1 2]
 (.seq (oD [oM 3 0,oR 4 (.call 139 [(.t 3),(.k (.s [102,97,108,115,101]))])] 4 (oZ [oN1 2]
 .ret) .skip)
 (oZ [oM 5 0,oV1 6 141 5,oM 2 6]
 .ret))⟩
def g105:Go.Vse.Fn:=⟨20,[.t 2],oZ [oO 2]
 (.seq (.dreg [(oM 3 0,0),(oY 4 3,0),(oF 5 2 4,0),(oK 6 1 5,0),(oU1 7 6,0),(oM 8 7,0),(oU 9 8 0,0),(oG 10 8 (.nck (.t 9)),0),(oF1 11 8 1 10,0),(oK1 12 8 1 11,0),(oU 13 8 0,960),(oG 14 8 (.nck (.t 13)),960),(oF1 15 8 0 14,960),(oK1 16 8 1 15,960),(oG 17 8 (.len (.t 16)),960),(oG 18 8 (.bin .eql (.t 12) (.t 17)),0),(oP 19 8 18,0),(oM 2 19,0)])
 .ret)⟩
def zvI:Go.Vse.Fn:=⟨39,[.t 4],oZ [oX 2 0,oX 3 1,oC 4 0]
 (.seq (.blk 0 (oD [oF 6 0 2,oK 7 1 6,oF 8 0 3,oK 9 1 8,oR 10 (.bin .neq (.t 7) (.t 9)),oM 5 10] 5 (.seq (oD [oF 11 0 2,oK 12 1 11,oF 13 0 3,oK 14 1 13,oJ 15 12 14] 15 (oZ [oR 4 (.mv (.k (.i .i64 (-1))))]
 .ret) .skip)
 (oZ [oC 4 1]
 .ret)) (oD [oF 17 1 2,oK 18 1 17,oF 19 1 3,oK 20 1 19,oR 21 (.bin .neq (.t 18) (.t 20)),oM 16 21] 16 (.seq (oD [oF 22 1 2,oK 23 1 22,oF 24 1 3,oK 25 1 24,oJ 26 23 25] 26 (oZ [oR 4 (.mv (.k (.i .i64 (-1))))]
 .ret) .skip)
 (oZ [oC 4 1]
 .ret)) (oD [oF 28 2 2,oK 29 1 28,oF 30 2 3,oK 31 1 30,oJ 32 29 31,oM 27 32] 27 (oZ [oR 4 (.mv (.k (.i .i64 (-1))))]
 .ret) (oD [oF 34 2 2,oK 35 1 34,oF 36 2 3,oK 37 1 36,oR 38 (.bin .gtr (.t 35) (.t 37)),oM 33 38] 33 (oZ [oC 4 1]
 .ret) .skip)))))
 (oZ [oC 4 0]
 .ret))⟩
def zvJ:Go.Vse.Fn:=⟨19,[.t 4],oZ [oC 4 0]
 (.seq (oZ [oM 6 0,oE 7 6,oC 8 0]
 (.blk 0 (.loop (oZ [oJ 9 8 7]
 (.seq (.cond (.t 9) .skip (.exit 0))
 (.seq (.blk 1 (oZ [oM 10 8,oM 5 10]
 (oD [oM 11 1,oM 12 0,oM 13 5,oI 14 1 12 13,oK 15 1 14,oR 16 (.callv (.t 11) [(.t 15)])] 16 (oZ [oM 17 5,oM 4 17]
 .ret) .skip)))
 (.reg [oA 18 8 1,oM 8 18])))))))
 (oZ [oR 4 (.mv (.k (.i .i64 (-1))))]
 .ret))⟩
def zvK:Go.Vse.Fn:=⟨34,[.t 5],oZ [oX 4 0,oO 5]
 (oZ [oF 6 0 4,oK 7 1 6,oK 8 1 1,oR 9 (.bin .eql (.t 7) (.t 8)),oM 10 9,oF1 11 10 1 4,oL1 12 10 4 11,oL1 13 10 4 2,oW2 14 10 115 12 13,oU 15 10 14,oF1 16 15 5 4,oL1 17 15 4 16,oL1 18 15 4 3,oW2 19 15 115 17 18,oG 20 10 (.pick (.t 15) (.t 19) (.k (.b false))),oU 21 10 20,oF2 22 21 1 4,oH 23 21 (.ld true 4 (.t 22)),oH 24 21 (.ld true 4 (.t 3)),oH 25 21 (.callp 115 [(.t 23),(.t 24)]),oM1 26 21 25,oF1 27 26 5 4,oL1 28 26 4 27,oL1 29 26 4 2,oW2 30 26 115 28 29,oH 31 21 (.pick (.t 26) (.t 30) (.k (.b false))),oG 32 10 (.pick (.t 21) (.k (.b true)) (.t 31)),oP 33 10 32,oM 5 33]
 .ret)⟩
def zvL:Go.Vse.Fn:=⟨24,[.t 4],oZ [oX 2 0,oX 3 1,oO 4]
 (.seq (oD [oF 5 0 2,oK 6 1 5,oR 7 (.bin .neq (.t 6) (.k (.s []))),oM 8 7,oF2 9 8 0 3,oK2 10 8 1 9,oH 11 8 (.bin .neq (.t 10) (.k (.s []))),oP1 12 8 11] 12 (oZ [oF 13 0 2,oK 14 1 13,oF 15 0 3,oK 16 1 15,oR 17 (.bin .eql (.t 14) (.t 16)),oM 4 17]
 .ret) .skip)
 (oZ [oF 18 1 2,oL 19 3 18,oF 20 1 3,oL 21 3 20,oW 22 44 19 21,oE1 23 22 0,oM 4 23]
 .ret))⟩
def zvM:Go.Vse.Fn:=⟨17,[.t 12],oZ [oX 6 0,oX 7 1,oX 8 2,oX 9 3,oX 10 4,oX 11 5,oO 12]
 (oZ [oF 13 0 6,oK 14 1 13,oR 15 (.mkf 145 [] [(.t 7),(.t 8),(.t 10),(.t 9),(.t 11)]),oW1 16 144 14 15,oM 12 16]
 .ret)⟩
def g118:Go.Vse.Fn:=⟨53,[],oZ [oM 10 1,oA 11 10 1,oM 8 11]
 (.blk 0 (.loop (.seq (oD [oM 12 8,oM 13 2,oJ 14 12 13] 14 .skip (.exit 0))
 (.seq (.blk 1 (oZ [oM 17 8,oM 9 17]
 (.blk 2 (.loop (.seq (.seq (.dreg [(oM 18 9,0),(oM 19 1,1),(oR 20 (.bin .gtr (.t 18) (.t 19)),0),(oM 21 20,0),(oU 22 21 3,0),(oU 23 21 0,16),(oU 24 21 9,48),(oI1 25 21 3 23 24,16),(oL1 26 21 3 25,16),(oU 27 21 0,496),(oU 28 21 9,1008),(oG 29 21 (.bin .sub (.t 28) (.k (.i .i64 1))),1008),(oI1 30 21 3 27 29,496),(oL1 31 21 3 30,496),(oG 32 21 (.callv (.t 22) [(.t 26),(.t 31)]),0),(oG 33 21 (.bin .lss (.t 32) (.k (.i .i64 0))),0),(oP 34 21 33,0)])
 (.cond (.t 34) .skip (.exit 2)))
 (.seq (.blk 3 (.dreg [(oM 37 0,0),(oM 38 9,1),(oM 39 0,3),(oM 40 9,7),(oB1 41 40 1,7),(oM 42 0,31),(oM 43 9,63),(oB1 44 43 1,63),(oI 45 3 42 44,31),(oL 46 3 45,31),(oM 47 0,1023),(oM 48 9,2047),(oI 49 3 47 48,1023),(oL 50 3 49,1023),(oI 51 3 37 38,28),(oS 3 51 46,28),(oI 52 3 39 41,0),(oS 3 52 50,0)]))
 (.reg [oM 35 9,oB1 36 35 1,oM 9 36])))))))
 (.reg [oM 15 8,oA 16 15 1,oM 8 16])))))⟩
def g119:Go.Vse.Fn:=⟨60,[],oZ [oM 13 1,oM 8 13]
 (oZ [oC 9 0]
 (oZ [oM 14 2,oM 15 1,oS1 16 14 15,oM 10 16]
 (.seq (oZ [oM 17 10,oB1 18 17 1,oR 19 (.bin .quo (.t 18) (.k (.i .i64 2))),oM 11 19]
 (.blk 0 (.loop (.seq (oD [oM 20 11,oG1 21 20 0] 21 .skip (.exit 0))
 (.seq (.blk 1 (.reg [oM 24 0,oM 25 11,oM 26 10,oM 27 8,oM 28 3,oR 29 (.call 146 [(.t 24),(.t 25),(.t 26),(.t 27),(.t 28)])]))
 (.reg [oM 22 11,oB1 23 22 1,oM 11 23]))))))
 (oZ [oM 30 10,oB1 31 30 1,oM 12 31]
 (.blk 2 (.loop (.seq (oD [oM 32 12,oG1 33 32 0] 33 .skip (.exit 2))
 (.seq (.blk 3 (.seq (.dreg [(oM 36 0,0),(oM 37 8,1),(oM 38 0,3),(oM 39 8,7),(oM 40 12,15),(oD1 41 39 40,7),(oM 42 0,63),(oM 43 8,127),(oM 44 12,255),(oD1 45 43 44,127),(oI 46 3 42 45,63),(oL 47 3 46,63),(oM 48 0,4095),(oM 49 8,8191),(oI 50 3 48 49,4095),(oL 51 3 50,4095),(oI 52 3 36 37,60),(oS 3 52 47,60),(oI 53 3 38 41,0),(oS 3 53 51,0)])
 (.reg [oM 54 0,oM 55 9,oM 56 12,oM 57 8,oM 58 3,oR 59 (.call 146 [(.t 54),(.t 55),(.t 56),(.t 57),(.t 58)])])))
 (.reg [oM 34 12,oB1 35 34 1,oM 12 35])))))))))⟩
def g120:Go.Vse.Fn:=⟨67,[],oZ [oM 13 2,oM 14 1,oS1 15 13 14,oM 8 15]
 (oD [oM 16 8,oG1 17 16 8] 17 (oZ [oM 18 8,oR 19 (.cvi .u64 (.t 18)),oR 9 (.new [.i .u64 0]),oS 1 9 19]
 (oZ [oM 20 8,oV1 21 147 20,oM 10 21]
 (oZ [oM 22 1,oM 23 8,oR 24 (.bin .quo (.t 23) (.k (.i .i64 4))),oR 25 (.bin .mul (.t 24) (.k (.i .i64 2))),oD1 26 22 25,oB1 27 26 1,oM 11 27]
 (.blk 0 (.loop (.seq (oD [oM 28 11,oM 29 1,oM 30 8,oR 31 (.bin .quo (.t 30) (.k (.i .i64 4))),oR 32 (.bin .mul (.t 31) (.k (.i .i64 2))),oD1 33 29 32,oA 34 33 1,oR 35 (.bin .leq (.t 28) (.t 34))] 35 .skip (.exit 0))
 (.seq (.blk 1 (oZ [oV1 38 148 9,oM 39 10,oR 40 (.bin .sub (.t 39) (.k (.i .u64 1))),oR 41 (.bin .and (.t 38) (.t 40)),oR 42 (.cvi .i64 (.t 41)),oM 12 42]
 (.seq (oD [oM 43 12,oM 44 8,oR 45 (.bin .geq (.t 43) (.t 44))] 45 (.reg [oM 46 12,oM 47 8,oS1 48 46 47,oM 12 48]) .skip)
 (.dreg [(oM 49 0,0),(oM 50 11,1),(oM 51 0,3),(oM 52 1,7),(oM 53 12,15),(oD1 54 52 53,7),(oM 55 0,63),(oM 56 1,127),(oM 57 12,255),(oD1 58 56 57,127),(oI 59 3 55 58,63),(oL 60 3 59,63),(oM 61 0,4095),(oM 62 11,8191),(oI 63 3 61 62,4095),(oL 64 3 63,4095),(oI 65 3 49 50,60),(oS 3 65 60,60),(oI 66 3 51 54,0),(oS 3 66 64,0)]))))
 (.reg [oM 36 11,oA 37 36 1,oM 11 37])))))))) .skip)⟩
def g121:Go.Vse.Fn:=⟨63,[.t 8,.t 9],oZ [oC 8 0,oC 9 0]
 (oZ [oM 15 2,oM 16 1,oS1 17 15 16,oM 10 17]
 (oZ [oR 11 (.new [.i .i64 0])]
 (oZ [oM 18 1,oM 19 10,oR 20 (.bin .quo (.t 19) (.k (.i .i64 4))),oR 21 (.bin .mul (.t 20) (.k (.i .i64 1))),oD1 22 18 21,oM 12 22]
 (oZ [oM 23 1,oM 24 10,oR 25 (.bin .quo (.t 24) (.k (.i .i64 4))),oR 26 (.bin .mul (.t 25) (.k (.i .i64 2))),oD1 27 23 26,oM 13 27]
 (oZ [oM 28 1,oM 29 10,oR 30 (.bin .quo (.t 29) (.k (.i .i64 4))),oR 31 (.bin .mul (.t 30) (.k (.i .i64 3))),oD1 32 28 31,oM 14 32]
 (.seq (oD [oM 33 10,oG1 34 33 8] 34 (.seq (oD [oM 35 10,oG1 36 35 50] 36 (oZ [oM 37 0,oM 38 12,oM 39 3,oR 40 (.call 149 [(.t 37),(.t 38),(.t 11),(.t 39)]),oM 12 40]
 (oZ [oM 41 0,oM 42 13,oM 43 3,oR 44 (.call 149 [(.t 41),(.t 42),(.t 11),(.t 43)]),oM 13 44]
 (.reg [oM 45 0,oM 46 14,oM 47 3,oR 48 (.call 149 [(.t 45),(.t 46),(.t 11),(.t 47)]),oM 14 48]))) .skip)
 (.reg [oM 49 0,oM 50 12,oM 51 13,oM 52 14,oM 53 3,oR 54 (.call 150 [(.t 49),(.t 50),(.t 51),(.t 52),(.t 11),(.t 53)]),oM 13 54])) .skip)
 (oZ [oK 55 1 11]
 (.blk 0 (oD [oE1 58 55 0,oM 57 58] 57 (oZ [oM 59 13,oM 8 59,oC 9 1]
 .ret) (oD [oE1 61 55 12,oM 60 61] 60 (oZ [oM 62 13,oM 8 62,oC 9 2]
 .ret) (oZ [oM 56 13,oM 8 56,oC 9 0]
 .ret)))))))))))⟩
def g122:Go.Vse.Fn:=⟨34,[],oZ [oM 10 1,oM 8 10]
 (oZ [oM 11 2,oB1 12 11 1,oM 9 12]
 (.blk 0 (.loop (.seq (oD [oM 13 8,oM 14 9,oJ 15 13 14] 15 .skip (.exit 0))
 (.blk 1 (.seq (.dreg [(oM 16 0,0),(oM 17 8,1),(oM 18 0,3),(oM 19 9,7),(oM 20 0,15),(oM 21 9,31),(oI 22 3 20 21,15),(oL 23 3 22,15),(oM 24 0,255),(oM 25 8,511),(oI 26 3 24 25,255),(oL 27 3 26,255),(oI 28 3 16 17,12),(oS 3 28 23,12),(oI 29 3 18 19,0),(oS 3 29 27,0)])
 (oZ [oM 30 8,oA 31 30 1,oM 8 31]
 (.reg [oM 32 9,oB1 33 32 1,oM 9 33]))))))))⟩
def g123:Go.Vse.Fn:=⟨141,[.t 8],oZ [oO 8]
 (oZ [oM 13 1,oA 14 13 1,oM 9 14]
 (.seq (oZ [oC 10 0]
 (.blk 0 (.loop (.seq (oD [oM 15 10,oJ1 16 15 5] 16 .skip (.exit 0))
 (.seq (.blk 1 (.seq (.blk 2 (.loop (.seq (.seq (.dreg [(oM 19 9,0),(oM 20 2,1),(oJ 21 19 20,0),(oM 22 21,0),(oU 23 22 3,0),(oU 24 22 0,16),(oU 25 22 9,48),(oI1 26 22 3 24 25,16),(oL1 27 22 3 26,16),(oU 28 22 0,496),(oU 29 22 9,1008),(oG 30 22 (.bin .sub (.t 29) (.k (.i .i64 1))),1008),(oI1 31 22 3 28 30,496),(oL1 32 22 3 31,496),(oG 33 22 (.callv (.t 23) [(.t 27),(.t 32)]),0),(oG 34 22 (.bin .lss (.t 33) (.k (.i .i64 0))),0),(oG 35 22 (.un .not (.t 34)),0),(oP 36 22 35,0)])
 (.cond (.t 36) .skip (.exit 2)))
 (.blk 3 (.reg [oM 37 9,oA 38 37 1,oM 9 38])))))
 (.seq (oD [oM 39 9,oM 40 2,oR 41 (.bin .eql (.t 39) (.t 40))] 41 (oZ [oT 8]
 .ret) .skip)
 (.seq (oD [oM 42 2,oM 43 1,oS1 44 42 43,oJ1 45 44 50] 45 (oZ [oO 8]
 .ret) .skip)
 (.seq (.dreg [(oM 46 0,0),(oM 47 9,1),(oM 48 0,3),(oM 49 9,7),(oB1 50 49 1,7),(oM 51 0,31),(oM 52 9,63),(oB1 53 52 1,63),(oI 54 3 51 53,31),(oL 55 3 54,31),(oM 56 0,1023),(oM 57 9,2047),(oI 58 3 56 57,1023),(oL 59 3 58,1023),(oI 60 3 46 47,28),(oS 3 60 55,28),(oI 61 3 48 50,0),(oS 3 61 59,0)])
 (.seq (oD [oM 62 9,oM 63 1,oS1 64 62 63,oG1 65 64 2] 65 (oZ [oM 66 9,oB1 67 66 1,oM 11 67]
 (.blk 4 (.loop (.seq (oD [oM 68 11,oG1 69 68 1] 69 .skip (.exit 4))
 (.seq (.blk 5 (.seq (.seq (.dreg [(oM 72 3,0),(oM 73 0,1),(oM 74 11,3),(oI 75 3 73 74,1),(oL 76 3 75,1),(oM 77 0,31),(oM 78 11,63),(oB1 79 78 1,63),(oI 80 3 77 79,31),(oL 81 3 80,31),(oR 82 (.callv (.t 72) [(.t 76),(.t 81)]),0),(oJ1 83 82 0,0),(oU1 84 83,0)])
 (.cond (.t 84) (.exit 4) .skip))
 (.dreg [(oM 85 0,0),(oM 86 11,1),(oM 87 0,3),(oM 88 11,7),(oB1 89 88 1,7),(oM 90 0,31),(oM 91 11,63),(oB1 92 91 1,63),(oI 93 3 90 92,31),(oL 94 3 93,31),(oM 95 0,1023),(oM 96 11,2047),(oI 97 3 95 96,1023),(oL 98 3 97,1023),(oI 99 3 85 86,28),(oS 3 99 94,28),(oI 100 3 87 89,0),(oS 3 100 98,0)])))
 (.reg [oM 70 11,oB1 71 70 1,oM 11 71])))))) .skip)
 (oD [oM 101 2,oM 102 9,oS1 103 101 102,oG1 104 103 2] 104 (oZ [oM 105 9,oA 106 105 1,oM 12 106]
 (.blk 6 (.loop (.seq (oD [oM 107 12,oM 108 2,oJ 109 107 108] 109 .skip (.exit 6))
 (.seq (.blk 7 (.seq (.seq (.dreg [(oM 112 3,0),(oM 113 0,1),(oM 114 12,3),(oI 115 3 113 114,1),(oL 116 3 115,1),(oM 117 0,31),(oM 118 12,63),(oB1 119 118 1,63),(oI 120 3 117 119,31),(oL 121 3 120,31),(oR 122 (.callv (.t 112) [(.t 116),(.t 121)]),0),(oJ1 123 122 0,0),(oU1 124 123,0)])
 (.cond (.t 124) (.exit 6) .skip))
 (.dreg [(oM 125 0,0),(oM 126 12,1),(oM 127 0,3),(oM 128 12,7),(oB1 129 128 1,7),(oM 130 0,31),(oM 131 12,63),(oB1 132 131 1,63),(oI 133 3 130 132,31),(oL 134 3 133,31),(oM 135 0,1023),(oM 136 12,2047),(oI 137 3 135 136,1023),(oL 138 3 137,1023),(oI 139 3 125 126,28),(oS 3 139 134,28),(oI 140 3 127 129,0),(oS 3 140 138,0)])))
 (.reg [oM 110 12,oA 111 110 1,oM 12 111])))))) .skip)))))))
 (.reg [oM 17 10,oA 18 17 1,oM 10 18]))))))
 (oZ [oO 8]
 .ret)))⟩
def g124:Go.Vse.Fn:=⟨90,[.t 10],oZ [oC 10 0]
 (.seq (.dreg [(oM 13 0,0),(oM 14 1,1),(oM 15 0,3),(oM 16 3,7),(oM 17 0,15),(oM 18 3,31),(oI 19 3 17 18,15),(oL 20 3 19,15),(oM 21 0,255),(oM 22 1,511),(oI 23 3 21 22,255),(oL 24 3 23,255),(oI 25 3 13 14,12),(oS 3 25 20,12),(oI 26 3 15 16,0),(oS 3 26 24,0)])
 (oZ [oM 27 1,oA 28 27 1,oM 29 2,oB1 30 29 1,oM 11 28,oM 12 30]
 (.seq (.blk 0 (.loop (.blk 1 (.seq (.blk 2 (.loop (.seq (.seq (.dreg [(oM 31 11,0),(oM 32 12,1),(oR 33 (.bin .leq (.t 31) (.t 32)),0),(oM 34 33,0),(oU 35 34 4,0),(oU 36 34 0,16),(oU 37 34 1,48),(oI1 38 34 3 36 37,16),(oL1 39 34 3 38,16),(oU 40 34 0,496),(oU 41 34 11,1008),(oI1 42 34 3 40 41,496),(oL1 43 34 3 42,496),(oG 44 34 (.callv (.t 35) [(.t 39),(.t 43)]),0),(oG 45 34 (.bin .lss (.t 44) (.k (.i .i64 0))),0),(oG 46 34 (.un .not (.t 45)),0),(oP 47 34 46,0)])
 (.cond (.t 47) .skip (.exit 2)))
 (.blk 3 (.reg [oM 48 11,oA 49 48 1,oM 11 49])))))
 (.seq (.blk 4 (.loop (.seq (.seq (.dreg [(oM 50 11,0),(oM 51 12,1),(oR 52 (.bin .leq (.t 50) (.t 51)),0),(oM 53 52,0),(oU 54 53 4,0),(oU 55 53 0,16),(oU 56 53 1,48),(oI1 57 53 3 55 56,16),(oL1 58 53 3 57,16),(oU 59 53 0,496),(oU 60 53 12,1008),(oI1 61 53 3 59 60,496),(oL1 62 53 3 61,496),(oG 63 53 (.callv (.t 54) [(.t 58),(.t 62)]),0),(oG 64 53 (.bin .lss (.t 63) (.k (.i .i64 0))),0),(oP 65 53 64,0)])
 (.cond (.t 65) .skip (.exit 4)))
 (.blk 5 (.reg [oM 66 12,oB1 67 66 1,oM 12 67])))))
 (.seq (oD [oM 68 11,oM 69 12,oR 70 (.bin .gtr (.t 68) (.t 69))] 70 (.exit 0) .skip)
 (.seq (.dreg [(oM 71 0,0),(oM 72 11,1),(oM 73 0,3),(oM 74 12,7),(oM 75 0,15),(oM 76 12,31),(oI 77 3 75 76,15),(oL 78 3 77,15),(oM 79 0,255),(oM 80 11,511),(oI 81 3 79 80,255),(oL 82 3 81,255),(oI 83 3 71 72,12),(oS 3 83 78,12),(oI 84 3 73 74,0),(oS 3 84 82,0)])
 (oZ [oM 85 11,oA 86 85 1,oM 11 86]
 (.reg [oM 87 12,oB1 88 87 1,oM 12 88])))))))))
 (oZ [oM 89 11,oM 10 89]
 .ret))))⟩
def g125:Go.Vse.Fn:=⟨178,[.t 10,.t 11],oZ [oC 10 0,oO 11]
 (.seq (.dreg [(oM 14 0,0),(oM 15 1,1),(oM 16 0,3),(oM 17 3,7),(oM 18 0,15),(oM 19 3,31),(oI 20 3 18 19,15),(oL 21 3 20,15),(oM 22 0,255),(oM 23 1,511),(oI 24 3 22 23,255),(oL 25 3 24,255),(oI 26 3 14 15,12),(oS 3 26 21,12),(oI 27 3 16 17,0),(oS 3 27 25,0)])
 (oZ [oM 28 1,oA 29 28 1,oM 30 2,oB1 31 30 1,oM 12 29,oM 13 31]
 (.seq (.blk 0 (.loop (.seq (.seq (.dreg [(oM 32 12,0),(oM 33 13,1),(oR 34 (.bin .leq (.t 32) (.t 33)),0),(oM 35 34,0),(oU 36 35 4,0),(oU 37 35 0,16),(oU 38 35 12,48),(oI1 39 35 3 37 38,16),(oL1 40 35 3 39,16),(oU 41 35 0,496),(oU 42 35 1,1008),(oI1 43 35 3 41 42,496),(oL1 44 35 3 43,496),(oG 45 35 (.callv (.t 36) [(.t 40),(.t 44)]),0),(oG 46 35 (.bin .lss (.t 45) (.k (.i .i64 0))),0),(oP 47 35 46,0)])
 (.cond (.t 47) .skip (.exit 0)))
 (.blk 1 (.reg [oM 48 12,oA 49 48 1,oM 12 49])))))
 (.seq (.blk 2 (.loop (.seq (.seq (.dreg [(oM 50 12,0),(oM 51 13,1),(oR 52 (.bin .leq (.t 50) (.t 51)),0),(oM 53 52,0),(oU 54 53 4,0),(oU 55 53 0,16),(oU 56 53 13,48),(oI1 57 53 3 55 56,16),(oL1 58 53 3 57,16),(oU 59 53 0,496),(oU 60 53 1,1008),(oI1 61 53 3 59 60,496),(oL1 62 53 3 61,496),(oG 63 53 (.callv (.t 54) [(.t 58),(.t 62)]),0),(oG 64 53 (.bin .lss (.t 63) (.k (.i .i64 0))),0),(oG 65 53 (.un .not (.t 64)),0),(oP 66 53 65,0)])
 (.cond (.t 66) .skip (.exit 2)))
 (.blk 3 (.reg [oM 67 13,oB1 68 67 1,oM 13 68])))))
 (.seq (oD [oM 69 12,oM 70 13,oR 71 (.bin .gtr (.t 69) (.t 70))] 71 (.seq (.dreg [(oM 72 0,0),(oM 73 13,1),(oM 74 0,3),(oM 75 1,7),(oM 76 0,15),(oM 77 1,31),(oI 78 3 76 77,15),(oL 79 3 78,15),(oM 80 0,255),(oM 81 13,511),(oI 82 3 80 81,255),(oL 83 3 82,255),(oI 84 3 72 73,12),(oS 3 84 79,12),(oI 85 3 74 75,0),(oS 3 85 83,0)])
 (oZ [oM 86 13,oM 10 86,oT 11]
 .ret)) .skip)
 (.seq (.dreg [(oM 87 0,0),(oM 88 12,1),(oM 89 0,3),(oM 90 13,7),(oM 91 0,15),(oM 92 13,31),(oI 93 3 91 92,15),(oL 94 3 93,15),(oM 95 0,255),(oM 96 12,511),(oI 97 3 95 96,255),(oL 98 3 97,255),(oI 99 3 87 88,12),(oS 3 99 94,12),(oI 100 3 89 90,0),(oS 3 100 98,0)])
 (oZ [oM 101 12,oA 102 101 1,oM 12 102]
 (oZ [oM 103 13,oB1 104 103 1,oM 13 104]
 (.seq (.blk 4 (.loop (.blk 5 (.seq (.blk 6 (.loop (.seq (.seq (.dreg [(oM 105 12,0),(oM 106 13,1),(oR 107 (.bin .leq (.t 105) (.t 106)),0),(oM 108 107,0),(oU 109 108 4,0),(oU 110 108 0,16),(oU 111 108 12,48),(oI1 112 108 3 110 111,16),(oL1 113 108 3 112,16),(oU 114 108 0,496),(oU 115 108 1,1008),(oI1 116 108 3 114 115,496),(oL1 117 108 3 116,496),(oG 118 108 (.callv (.t 109) [(.t 113),(.t 117)]),0),(oG 119 108 (.bin .lss (.t 118) (.k (.i .i64 0))),0),(oP 120 108 119,0)])
 (.cond (.t 120) .skip (.exit 6)))
 (.blk 7 (.reg [oM 121 12,oA 122 121 1,oM 12 122])))))
 (.seq (.blk 8 (.loop (.seq (.seq (.dreg [(oM 123 12,0),(oM 124 13,1),(oR 125 (.bin .leq (.t 123) (.t 124)),0),(oM 126 125,0),(oU 127 126 4,0),(oU 128 126 0,16),(oU 129 126 13,48),(oI1 130 126 3 128 129,16),(oL1 131 126 3 130,16),(oU 132 126 0,496),(oU 133 126 1,1008),(oI1 134 126 3 132 133,496),(oL1 135 126 3 134,496),(oG 136 126 (.callv (.t 127) [(.t 131),(.t 135)]),0),(oG 137 126 (.bin .lss (.t 136) (.k (.i .i64 0))),0),(oG 138 126 (.un .not (.t 137)),0),(oP 139 126 138,0)])
 (.cond (.t 139) .skip (.exit 8)))
 (.blk 9 (.reg [oM 140 13,oB1 141 140 1,oM 13 141])))))
 (.seq (oD [oM 142 12,oM 143 13,oR 144 (.bin .gtr (.t 142) (.t 143))] 144 (.exit 4) .skip)
 (.seq (.dreg [(oM 145 0,0),(oM 146 12,1),(oM 147 0,3),(oM 148 13,7),(oM 149 0,15),(oM 150 13,31),(oI 151 3 149 150,15),(oL 152 3 151,15),(oM 153 0,255),(oM 154 12,511),(oI 155 3 153 154,255),(oL 156 3 155,255),(oI 157 3 145 146,12),(oS 3 157 152,12),(oI 158 3 147 148,0),(oS 3 158 156,0)])
 (oZ [oM 159 12,oA 160 159 1,oM 12 160]
 (.reg [oM 161 13,oB1 162 161 1,oM 13 162])))))))))
 (.seq (.dreg [(oM 163 0,0),(oM 164 13,1),(oM 165 0,3),(oM 166 1,7),(oM 167 0,15),(oM 168 1,31),(oI 169 3 167 168,15),(oL 170 3 169,15),(oM 171 0,255),(oM 172 13,511),(oI 173 3 171 172,255),(oL 174 3 173,255),(oI 175 3 163 164,12),(oS 3 175 170,12),(oI 176 3 165 166,0),(oS 3 176 174,0)])
 (oZ [oM 177 13,oM 10 177,oO 11]
 .ret)))))))))))⟩
def g126:Go.Vse.Fn:=⟨19,[.t 2],oZ [oC 2 0]
 (.seq (oD [oM 3 0,oR 4 (.bin .geq (.t 3) (.k (.i .u32 65536)))] 4 (oZ [oM 5 0,oR 6 (.bin .shr (.t 5) (.k (.i .u64 16))),oM 0 6]
 (.reg [oC 2 16])) .skip)
 (.seq (oD [oM 7 0,oR 8 (.bin .geq (.t 7) (.k (.i .u32 256)))] 8 (oZ [oM 9 0,oR 10 (.bin .shr (.t 9) (.k (.i .u64 8))),oM 0 10]
 (.reg [oM 11 2,oA 12 11 8,oM 2 12])) .skip)
 (oZ [oM 13 2,oM 14 0,oR 15 (.cvi .u8 (.t 14)),oR 16 (.ixs (.k (.s [0,1,2,2,3,3,3,3,4,4,4,4,4,4,4,4,5,5,5,5,5,5,5,5,5,5,5,5,5,5,5,5,6,6,6,6,6,6,6,6,6,6,6,6,6,6,6,6,6,6,6,6,6,6,6,6,6,6,6,6,6,6,6,6,7,7,7,7,7,7,7,7,7,7,7,7,7,7,7,7,7,7,7,7,7,7,7,7,7,7,7,7,7,7,7,7,7,7,7,7,7,7,7,7,7,7,7,7,7,7,7,7,7,7,7,7,7,7,7,7,7,7,7,7,7,7,7,7,8,8,8,8,8,8,8,8,8,8,8,8,8,8,8,8,8,8,8,8,8,8,8,8,8,8,8,8,8,8,8,8,8,8,8,8,8,8,8,8,8,8,8,8,8,8,8,8,8,8,8,8,8,8,8,8,8,8,8,8,8,8,8,8,8,8,8,8,8,8,8,8,8,8,8,8,8,8,8,8,8,8,8,8,8,8,8,8,8,8,8,8,8,8,8,8,8,8,8,8,8,8,8,8,8,8,8,8,8,8,8,8,8,8,8,8,8,8,8,8,8,8,8,8,8,8,8,8])) (.t 15)),oR 17 (.cvi .i64 (.t 16)),oD1 18 13 17,oM 2 18]
 .ret)))⟩
def g127:Go.Vse.Fn:=⟨25,[.t 2],oZ [oC 2 0]
 (.seq (oD [oM 3 0,oR 4 (.bin .geq (.t 3) (.k (.i .u64 4294967296)))] 4 (oZ [oM 5 0,oR 6 (.bin .shr (.t 5) (.k (.i .u64 32))),oM 0 6]
 (.reg [oC 2 32])) .skip)
 (.seq (oD [oM 7 0,oR 8 (.bin .geq (.t 7) (.k (.i .u64 65536)))] 8 (oZ [oM 9 0,oR 10 (.bin .shr (.t 9) (.k (.i .u64 16))),oM 0 10]
 (.reg [oM 11 2,oA 12 11 16,oM 2 12])) .skip)
 (.seq (oD [oM 13 0,oR 14 (.bin .geq (.t 13) (.k (.i .u64 256)))] 14 (oZ [oM 15 0,oR 16 (.bin .shr (.t 15) (.k (.i .u64 8))),oM 0 16]
 (.reg [oM 17 2,oA 18 17 8,oM 2 18])) .skip)
 (oZ [oM 19 2,oM 20 0,oR 21 (.cvi .u8 (.t 20)),oR 22 (.ixs (.k (.s [0,1,2,2,3,3,3,3,4,4,4,4,4,4,4,4,5,5,5,5,5,5,5,5,5,5,5,5,5,5,5,5,6,6,6,6,6,6,6,6,6,6,6,6,6,6,6,6,6,6,6,6,6,6,6,6,6,6,6,6,6,6,6,6,7,7,7,7,7,7,7,7,7,7,7,7,7,7,7,7,7,7,7,7,7,7,7,7,7,7,7,7,7,7,7,7,7,7,7,7,7,7,7,7,7,7,7,7,7,7,7,7,7,7,7,7,7,7,7,7,7,7,7,7,7,7,7,7,8,8,8,8,8,8,8,8,8,8,8,8,8,8,8,8,8,8,8,8,8,8,8,8,8,8,8,8,8,8,8,8,8,8,8,8,8,8,8,8,8,8,8,8,8,8,8,8,8,8,8,8,8,8,8,8,8,8,8,8,8,8,8,8,8,8,8,8,8,8,8,8,8,8,8,8,8,8,8,8,8,8,8,8,8,8,8,8,8,8,8,8,8,8,8,8,8,8,8,8,8,8,8,8,8,8,8,8,8,8,8,8,8,8,8,8,8,8,8,8,8,8,8,8,8,8,8,8])) (.t 21)),oR 23 (.cvi .i64 (.t 22)),oD1 24 19 23,oM 2 24]
 .ret))))⟩
def g128:Go.Vse.Fn:=⟨6,[.t 2],oZ [oO 2]
 (oZ [oM 3 0,oM 4 0,oR 5 (.bin .neq (.t 3) (.t 4)),oM 2 5]
 .ret)⟩
def zvN:Go.Vse.Fn:=⟨6,[.t 2],oZ [oO 2]
 (oZ [oM 3 0,oM 4 0,oR 5 (.bin .neq (.t 3) (.t 4)),oM 2 5]
 .ret)⟩
def zvO:Go.Vse.Fn:=⟨13,[.t 4],oZ [oC 4 0]
 (.seq (.blk 0 (oD [oM 6 0,oM 7 1,oJ 8 6 7,oM 5 8] 5 (oZ [oR 4 (.mv (.k (.i .i64 (-1))))]
 .ret) (oD [oM 10 0,oM 11 1,oR 12 (.bin .gtr (.t 10) (.t 11)),oM 9 12] 9 (oZ [oC 4 1]
 .ret) .skip)))
 (oZ [oC 4 0]
 .ret))⟩
def zvQ:Go.Vse.Fn:=⟨29,[.t 2],oZ [oX 1 0,oO 2]
 (oZ [oF 4 1 1,oF 5 1 4,oL 6 3 5,oF 7 5 1,oF 8 1 7,oL 9 3 8,oW 10 44 6 9,oM 3 10]
 (.seq (oZ [oF 11 0 1,oK 12 1 11]
 (.blk 0 (oD [oE1 14 12 1,oM 13 14] 13 (oZ [oM 15 3,oE1 16 15 0,oM 2 16]
 .ret) (oD [oE1 18 12 2,oM 17 18] 17 (oZ [oM 19 3,oR 20 (.bin .neq (.t 19) (.k (.i .i64 0))),oM 2 20]
 .ret) (oD [oE1 22 12 3,oM 21 22] 21 (oZ [oM 23 3,oJ1 24 23 0,oM 2 24]
 .ret) (oD [oE1 26 12 4,oM 25 26] 25 (oZ [oM 27 3,oR 28 (.bin .leq (.t 27) (.k (.i .i64 0))),oM 2 28]
 .ret) .skip))))))
 (oZ [oO 2]
 .ret)))⟩
def znW:Go.Vse.Fn:=⟨13,[],.seq (.dreg [(oM 4 0,0),(oY 5 4,0),(oF 6 0 5,0),(oK 7 1 6,0),(oK 8 1 1,15),(oR 9 (.bin .eql (.t 7) (.t 8)),0)])
 (.cond (.t 9) (.reg [oM 10 0,oL 11 4 2,oY 12 10,oS 4 12 11]) .skip)⟩
def g135:Go.Vse.Fn:=⟨17,[.t 2],oZ [oO 2]
 (oZ [oM 3 0,oR 4 (.bin .geq (.t 3) (.k (.i .u8 97))),oM 5 4,oU 6 5 0,oG 7 5 (.bin .leq (.t 6) (.k (.i .u8 122))),oP 8 5 7,oM 9 8,oM1 10 9 0,oH 11 9 (.bin .geq (.t 10) (.k (.i .u8 65))),oM1 12 9 11,oU 13 12 0,oG 14 12 (.bin .leq (.t 13) (.k (.i .u8 90))),oH 15 9 (.pick (.t 12) (.t 14) (.k (.b false))),oP1 16 9 15,oM 2 16]
 .ret)⟩
def g136:Go.Vse.Fn:=⟨9,[.t 2],oZ [oO 2]
 (oZ [oM 3 0,oR 4 (.bin .geq (.t 3) (.k (.i .u8 48))),oM 5 4,oU 6 5 0,oG 7 5 (.bin .leq (.t 6) (.k (.i .u8 57))),oP 8 5 7,oM 2 8]
 .ret)⟩
def g137:Go.Vse.Fn:=⟨48,[.t 4],oZ [oC 4 0]
 (oZ [oM 8 1,oM 5 8]
 (.seq (oD [oM 9 0,oM 10 5,oR 11 (.ixs (.t 9) (.t 10)),oR 12 (.bin .eql (.t 11) (.k (.i .u8 45)))] 12 (.reg [oM 13 5,oA 14 13 1,oM 5 14]) .skip)
 (oZ [oM 15 0,oM 16 5,oW 17 152 15 16,oM 6 17]
 (.seq (oD [oM 18 6,oM 19 5,oR 20 (.bin .eql (.t 18) (.t 19))] 20 (oZ [oM 21 1,oM 4 21]
 .ret) .skip)
 (.seq (oD [oM 22 6,oM 23 0,oR 24 (.lns (.t 23)),oJ 25 22 24,oM 26 25,oU 27 26 0,oU 28 26 6,oG 29 26 (.ixs (.t 27) (.t 28)),oG 30 26 (.bin .eql (.t 29) (.k (.i .u8 47))),oU 31 26 30,oM1 32 31 0,oM1 33 31 6,oH 34 31 (.ixs (.t 32) (.t 33)),oH 35 31 (.bin .eql (.t 34) (.k (.i .u8 46))),oG 36 26 (.pick (.t 31) (.k (.b true)) (.t 35)),oP 37 26 36] 37 (oZ [oM 38 0,oM 39 6,oA 40 39 1,oW 41 152 38 40,oM 7 41]
 (oD [oM 42 7,oM 43 6,oA 44 43 1,oR 45 (.bin .gtr (.t 42) (.t 44))] 45 (oZ [oM 46 7,oM 4 46]
 .ret) .skip)) .skip)
 (oZ [oM 47 6,oM 4 47]
 .ret))))))⟩
def g138:Go.Vse.Fn:=⟨46,[.t 4],oZ [oC 4 0]
 (.seq (oZ [oM 6 1,oA 7 6 1,oM 5 7]
 (.blk 0 (.loop (.seq (oD [oM 8 5,oM 9 0,oR 10 (.lns (.t 9)),oJ 11 8 10] 11 .skip (.exit 0))
 (.seq (.blk 1 (.seq (oD [oM 14 0,oM 15 5,oR 16 (.ixs (.t 14) (.t 15)),oR 17 (.bin .lss (.t 16) (.k (.i .u8 32))),oM 18 17,oM1 19 18 0,oM1 20 18 5,oH 21 18 (.ixs (.t 19) (.t 20)),oH 22 18 (.bin .gtr (.t 21) (.k (.i .u8 126))),oP1 23 18 22] 23 (oZ [oM 24 1,oM 4 24]
 .ret) .skip)
 (.seq (oD [oM 25 0,oM 26 5,oR 27 (.ixs (.t 25) (.t 26)),oR 28 (.bin .neq (.t 27) (.k (.i .u8 39)))] 28 (.exit 1) .skip)
 (.seq (oD [oM 29 5,oA 30 29 1,oM 31 0,oR 32 (.lns (.t 31)),oJ 33 30 32,oM 34 33,oU 35 34 0,oU 36 34 5,oG 37 34 (.bin .add (.t 36) (.k (.i .i64 1))),oG 38 34 (.ixs (.t 35) (.t 37)),oG 39 34 (.bin .eql (.t 38) (.k (.i .u8 39))),oP 40 34 39] 40 (oZ [oM 41 5,oA 42 41 1,oM 5 42]
 (.exit 1)) .skip)
 (oZ [oM 43 5,oA 44 43 1,oM 4 44]
 .ret)))))
 (.reg [oM 12 5,oA 13 12 1,oM 5 13]))))))
 (oZ [oM 45 1,oM 4 45]
 .ret))⟩
def g139:Go.Vse.Fn:=⟨16,[.t 4],oZ [oO 4]
 (.seq (oD [oM 5 0,oM 6 1,oW1 7 101 5 6,oU1 8 7] 8 (oZ [oO 4]
 .ret) .skip)
 (oZ [oM 9 0,oY 10 9,oF 11 1 10,oK 12 1 11,oA 13 12 1,oY 14 9,oF 15 1 14,oS 1 15 13]
 (oZ [oT 4]
 .ret)))⟩
def g140:Go.Vse.Fn:=⟨12,[.t 2],oZ [oR 2 (.mv (.k (.s [])))]
 (oZ [oM 4 0,oR 5 (.call 153 [(.t 4),(.k (.i .i64 1))]),oM 3 5]
 (.seq (oD [oM 6 3,oV 7 154 6] 7 (.reg [oM 8 0,oY 9 8,oF 10 2 9,oN (.st 1 (.t 10) (.k (.b true)))]) .skip)
 (oZ [oM 11 3,oM 2 11]
 .ret)))⟩
def g141:Go.Vse.Fn:=⟨15,[.t 2],oZ [oN1 2]
 (oZ [oM 4 0,oV1 5 155 4,oR 6 (.bsl 2 [.nils,.nils] 1 [(0,(.t 5))]),oM 3 6]
 (.seq (.blk 0 (.loop (.seq (oD [oM 7 0,oR 8 (.call 139 [(.t 7),(.k (.s [111,114]))])] 8 .skip (.exit 0))
 (.blk 1 (.reg [oM 9 3,oM 10 0,oV1 11 155 10,oR 12 (.bsf 2 [.nils,.nils] 1 [(0,(.t 11))]),oA1 13 2 48 9 12,oM 3 13])))))
 (oZ [oM 14 3,oM 2 14]
 .ret)))⟩
def zvR:Go.Vse.Fn:=⟨9,[.t 4],oZ [oO 4]
 (oZ [oM 5 0,oM 6 1,oW1 7 157 5 6,oG1 8 7 0,oM 4 8]
 .ret)⟩
def zvS:Go.Vse.Fn:=⟨41,[.t 7],oZ [oX 6 0,oO 7]
 (.seq (.dreg [(oF 8 0 6,0),(oK 9 1 8,0),(oK 10 1 1,3),(oR 11 (.bin .eql (.t 9) (.t 10)),0),(oM 12 11,0),(oK1 13 12 1 2,0),(oK1 14 12 1 3,32),(oG 15 12 (.mm true (.t 13) (.t 14)),0),(oF1 16 12 2 6,224),(oK1 17 12 1 16,224),(oG 18 12 (.len (.t 17)),224),(oG 19 12 (.bin .lss (.t 15) (.t 18)),0),(oP 20 12 19,0),(oM 21 20,0),(oF1 22 21 2 6,0),(oK1 23 21 1 22,0),(oK1 24 21 1 2,49152),(oI1 25 21 4 23 24,0),(oF1 26 21 0 25,0),(oK1 27 21 1 26,0),(oK1 28 21 1 4,1032192),(oG 29 21 (.bin .eql (.t 27) (.t 28)),0),(oP 30 21 29,0),(oM 31 30,0),(oF1 32 31 2 6,0),(oK1 33 31 1 32,0),(oK1 34 31 1 3,50331648),(oI1 35 31 4 33 34,0),(oF1 36 31 0 35,0),(oK1 37 31 1 36,0),(oK1 38 31 1 5,1056964608),(oG 39 31 (.bin .eql (.t 37) (.t 38)),0),(oP 40 31 39,0),(oM 7 40,0)])
 .ret)⟩
def g146:Go.Vse.Fn:=⟨82,[],oZ [oM 12 1,oM 10 12]
 (.blk 0 (.loop (.blk 1 (oZ [oM 13 10,oR 14 (.bin .mul (.k (.i .i64 2)) (.t 13)),oA 15 14 1,oM 11 15]
 (.seq (oD [oM 16 11,oM 17 2,oR 18 (.bin .geq (.t 16) (.t 17))] 18 (.exit 0) .skip)
 (.seq (.seq (.dreg [(oM 19 11,0),(oA 20 19 1,0),(oM 21 2,3),(oJ 22 20 21,0),(oM 23 22,0),(oU 24 23 4,0),(oU 25 23 0,32),(oU 26 23 3,96),(oU 27 23 11,224),(oG 28 23 (.bin .add (.t 26) (.t 27)),96),(oI1 29 23 3 25 28,32),(oL1 30 23 3 29,32),(oU 31 23 0,4064),(oU 32 23 3,8160),(oU 33 23 11,16352),(oG 34 23 (.bin .add (.t 32) (.t 33)),8160),(oG 35 23 (.bin .add (.t 34) (.k (.i .i64 1))),8160),(oI1 36 23 3 31 35,4064),(oL1 37 23 3 36,4064),(oG 38 23 (.callv (.t 24) [(.t 30),(.t 37)]),0),(oG 39 23 (.bin .lss (.t 38) (.k (.i .i64 0))),0),(oP 40 23 39,0)])
 (.cond (.t 40) (.reg [oM 41 11,oA 42 41 1,oM 11 42]) .skip))
 (.seq (.seq (.dreg [(oM 43 4,0),(oM 44 0,1),(oM 45 3,3),(oM 46 10,7),(oD1 47 45 46,3),(oI 48 3 44 47,1),(oL 49 3 48,1),(oM 50 0,127),(oM 51 3,255),(oM 52 11,511),(oD1 53 51 52,255),(oI 54 3 50 53,127),(oL 55 3 54,127),(oR 56 (.callv (.t 43) [(.t 49),(.t 55)]),0),(oJ1 57 56 0,0),(oU1 58 57,0)])
 (.cond (.t 58) .ret .skip))
 (.seq (.dreg [(oM 59 0,0),(oM 60 3,1),(oM 61 10,3),(oD1 62 60 61,1),(oM 63 0,15),(oM 64 3,31),(oM 65 11,63),(oD1 66 64 65,31),(oM 67 0,255),(oM 68 3,511),(oM 69 11,1023),(oD1 70 68 69,511),(oI 71 3 67 70,255),(oL 72 3 71,255),(oM 73 0,16383),(oM 74 3,32767),(oM 75 10,65535),(oD1 76 74 75,32767),(oI 77 3 73 76,16383),(oL 78 3 77,16383),(oI 79 3 59 62,240),(oS 3 79 72,240),(oI 80 3 63 66,0),(oS 3 80 78,0)])
 (.reg [oM 81 11,oM 10 81])))))))))⟩
def g147:Go.Vse.Fn:=⟨7,[.t 2],oZ [oR 2 (.mv (.k (.i .u64 0)))]
 (oZ [oM 3 0,oR 4 (.cvi .u64 (.t 3)),oV1 5 79 4,oR 6 (.bin .shl (.k (.i .u64 1)) (.t 5)),oM 2 6]
 .ret)⟩
def g148:Go.Vse.Fn:=⟨33,[.t 2],oZ [oR 2 (.mv (.k (.i .u64 0)))]
 (.seq (.dreg [(oM 3 0,0),(oY 4 3,0),(oK 5 1 4,0),(oM 6 0,7),(oY 7 6,7),(oK 8 1 7,7),(oR 9 (.bin .shl (.t 8) (.k (.i .u64 13))),7),(oR 10 (.bin .xor (.t 5) (.t 9)),0),(oY 11 3,0),(oS 1 11 10,0)])
 (.seq (.dreg [(oM 12 0,0),(oY 13 12,0),(oK 14 1 13,0),(oM 15 0,7),(oY 16 15,7),(oK 17 1 16,7),(oR 18 (.bin .shr (.t 17) (.k (.i .u64 7))),7),(oR 19 (.bin .xor (.t 14) (.t 18)),0),(oY 20 12,0),(oS 1 20 19,0)])
 (.seq (.dreg [(oM 21 0,0),(oY 22 21,0),(oK 23 1 22,0),(oM 24 0,7),(oY 25 24,7),(oK 26 1 25,7),(oR 27 (.bin .shl (.t 26) (.k (.i .u64 17))),7),(oR 28 (.bin .xor (.t 23) (.t 27)),0),(oY 29 21,0),(oS 1 29 28,0)])
 (oZ [oM 30 0,oY 31 30,oK 32 1 31,oM 2 32]
 .ret))))⟩
def g149:Go.Vse.Fn:=⟨18,[.t 8],oZ [oC 8 0]
 (oZ [oM 9 0,oM 10 1,oB1 11 10 1,oM 12 1,oM 13 1,oA 14 13 1,oM 15 2,oM 16 3,oR 17 (.call 150 [(.t 9),(.t 11),(.t 12),(.t 14),(.t 15),(.t 16)]),oM 8 17]
 .ret)⟩
def g150:Go.Vse.Fn:=⟨41,[.t 12],oZ [oC 12 0]
 (oZ [oM 14 0,oM 15 1,oM 16 2,oM 17 4,oM 18 5,oR 19 (.call 158 [(.t 14),(.t 15),(.t 16),(.t 17),(.t 18)]),oM 13 19,oQ 20 13 0,oQ 21 13 1,oM 1 20,oM 2 21]
 (oZ [oM 23 0,oM 24 2,oM 25 3,oM 26 4,oM 27 5,oR 28 (.call 158 [(.t 23),(.t 24),(.t 25),(.t 26),(.t 27)]),oM 22 28,oQ 29 22 0,oQ 30 22 1,oM 2 29,oM 3 30]
 (oZ [oM 32 0,oM 33 1,oM 34 2,oM 35 4,oM 36 5,oR 37 (.call 158 [(.t 32),(.t 33),(.t 34),(.t 35),(.t 36)]),oM 31 37,oQ 38 31 0,oQ 39 31 1,oM 1 38,oM 2 39]
 (oZ [oM 40 2,oM 12 40]
 .ret))))⟩
def g152:Go.Vse.Fn:=⟨18,[.t 4],oZ [oC 4 0]
 (.seq (.blk 0 (.loop (.seq (oD [oM 5 1,oM 6 0,oR 7 (.lns (.t 6)),oJ 8 5 7,oM 9 8,oU 10 9 0,oU 11 9 1,oG 12 9 (.ixs (.t 10) (.t 11)),oG 13 9 (.callp 136 [(.t 12)]),oP 14 9 13] 14 .skip (.exit 0))
 (.blk 1 (.reg [oM 15 1,oA 16 15 1,oM 1 16])))))
 (oZ [oM 17 1,oM 4 17]
 .ret))⟩
def g153:Go.Vse.Fn:=⟨58,[.t 4],oZ [oR 4 (.mv (.k (.s [])))]
 (.seq (.seq (.dreg [(oM 5 0,0),(oY 6 5,0),(oF 7 2 6,0),(oK 8 1 7,0),(oM 9 8,0),(oM1 10 9 0,0),(oH 11 9 (.nck (.t 10)),0),(oF2 12 9 1 11,0),(oK2 13 9 1 12,0),(oM1 14 9 0,480),(oH 15 9 (.nck (.t 14)),480),(oF2 16 9 0 15,480),(oK2 17 9 1 16,480),(oH 18 9 (.len (.t 17)),480),(oH 19 9 (.bin .geq (.t 13) (.t 18)),0),(oP1 20 9 19,0),(oM 21 20,0),(oM1 22 21 0,0),(oH 23 21 (.nck (.t 22)),0),(oF2 24 21 0 23,0),(oK2 25 21 1 24,0),(oM1 26 21 0,1966080),(oH 27 21 (.nck (.t 26)),1966080),(oF2 28 21 1 27,1966080),(oK2 29 21 1 28,1966080),(oH 30 21 (.ia 2 (.t 25) (.t 29)),0),(oF2 31 21 0 30,0),(oK2 32 21 1 31,0),(oM1 33 21 1,268304384),(oH 34 21 (.bin .neq (.t 32) (.t 33)),0),(oP1 35 21 34,0)])
 (.cond (.t 35) (oZ [oM 36 0,oY 37 36,oF 38 2 37,oN (.st 1 (.t 38) (.k (.b true)))]
 (oZ [oR 4 (.mv (.k (.s [])))]
 .ret)) .skip))
 (oZ [oM 39 0,oY 40 39,oF 41 1 40,oK 42 1 41,oA 43 42 1,oY 44 39,oF 45 1 44,oS 1 45 43]
 (.seq (.dreg [(oM 46 0,0),(oY 47 46,0),(oF 48 0 47,0),(oK 49 1 48,0),(oM 50 0,15),(oY 51 50,15),(oF 52 1 51,15),(oK 53 1 52,15),(oB1 54 53 1,15),(oI 55 2 49 54,0),(oF 56 1 55,0),(oK 57 1 56,0),(oM 4 57,0)])
 .ret)))⟩
def g154:Go.Vse.Fn:=⟨29,[.t 2],oZ [oO 2]
 (.seq (oZ [oM 3 0]
 (.blk 0 (.seq (oD [oR 5 (.bin .eql (.t 3) (.k (.s [114,101,108,97,116,105,111,110]))),oM 4 5] 4 .skip (oD [oR 6 (.bin .eql (.t 3) (.k (.s [99,101,114,116,97,105,110]))),oM 4 6] 4 .skip (oD [oR 7 (.bin .eql (.t 3) (.k (.s [116,117,112,108,101]))),oM 4 7] 4 .skip (oD [oR 8 (.bin .eql (.t 3) (.k (.s [107,101,121]))),oM 4 8] 4 .skip (oD [oR 9 (.bin .eql (.t 3) (.k (.s [114,117,108,101]))),oM 4 9] 4 .skip (oD [oR 10 (.bin .eql (.t 3) (.k (.s [105,109,112,108,105,101,115]))),oM 4 10] 4 .skip (oD [oR 11 (.bin .eql (.t 3) (.k (.s [111,114]))),oM 4 11] 4 .skip (oD [oR 12 (.bin .eql (.t 3) (.k (.s [99,111,117,110,116]))),oM 4 12] 4 .skip (oD [oR 13 (.bin .eql (.t 3) (.k (.s [116,111]))),oM 4 13] 4 .skip (oD [oR 14 (.bin .eql (.t 3) (.k (.s [111,102]))),oM 4 14] 4 .skip (oD [oR 15 (.bin .eql (.t 3) (.k (.s [102,97,99,116,111,114]))),oM 4 15] 4 .skip (oD [oR 16 (.bin .eql (.t 3) (.k (.s [102,111,114]))),oM 4 16] 4 .skip (oD [oR 17 (.bin .eql (.t 3) (.k (.s [111,98,115,101,114,118,101]))),oM 4 17] 4 .skip (oD [oR 18 (.bin .eql (.t 3) (.k (.s [100,101,110,121]))),oM 4 18] 4 .skip (oD [oR 19 (.bin .eql (.t 3) (.k (.s [97,115,107]))),oM 4 19] 4 .skip (oD [oR 20 (.bin .eql (.t 3) (.k (.s [112,114,111,98,97,98,105,108,105,116,121]))),oM 4 20] 4 .skip (oD [oR 21 (.bin .eql (.t 3) (.k (.s [115,117,109]))),oM 4 21] 4 .skip (oD [oR 22 (.bin .eql (.t 3) (.k (.s [116,104,114,101,115,104,111,108,100]))),oM 4 22] 4 .skip (oD [oR 23 (.bin .eql (.t 3) (.k (.s [116,111,112]))),oM 4 23] 4 .skip (oD [oR 24 (.bin .eql (.t 3) (.k (.s [116,114,117,101]))),oM 4 24] 4 .skip (oD [oR 25 (.bin .eql (.t 3) (.k (.s [102,97,108,115,101]))),oM 4 25] 4 .skip (oD [oR 26 (.bin .eql (.t 3) (.k (.s [110,111,116]))),oM 4 26] 4 .skip (oD [oR 27 (.bin .eql (.t 3) (.k (.s [105,110,116]))),oM 4 27] 4 .skip (.reg [oR 28 (.bin .eql (.t 3) (.k (.s [115,116,114,105,110,103]))),oM 4 28]))))))))))))))))))))))))
 (.cond (.t 4) (oZ [oT 2]
 .ret) .skip))))
 (oZ [oO 2]
 .ret))⟩
def g155:Go.Vse.Fn:=⟨65,[.cell 2 true 2],oZ [oR0 2]
 (oZ [oR 7 (.bld [.nils,.nils] []),oR0 3,oS 2 3 7]
 (.seq (oD [oM 8 0,oR 9 (.call 139 [(.t 8),(.k (.s [116,114,117,101]))])] 9 (oZ [oL 10 2 3,oS 2 2 10]
 .ret) .skip)
 (.seq (oZ [oT 4]
 (.blk 0 (.loop (.seq (oD [oM 11 4,oM 12 11,oU 13 12 0,oG 14 12 (.nck (.t 13)),oF1 15 12 2 14,oK1 16 12 1 15,oG 17 12 (.un .not (.t 16)),oP 18 12 17] 18 .skip (.exit 0))
 (.seq (.blk 1 (.seq (oD [oM 21 0,oR 22 (.call 139 [(.t 21),(.k (.s [110,111,116]))])] 22 (.seq (.dreg [(oF 23 0 3,0),(oK 24 1 23,0),(oM 25 0,3),(oM 26 0,7),(oV1 27 140 26,7),(oR 28 (.call 159 [(.t 25),(.t 27),(.k (.b true))]),3),(oR 29 (.bsf 3 [.s [],.b false,.nils] 1 [(0,(.t 28))]),3),(oA1 30 3 48 24 29,0),(oF 31 0 3,0),(oS 1 31 30,0)])
 (.exit 1)) .skip)
 (oZ [oM 32 0,oV1 33 160 32,oR 5 (.new [.s [],.i .i64 0,.i .i64 0,.s []]),oS 4 5 33]
 (.seq (oD [oF 34 0 5,oK 35 1 34,oR 36 (.bin .neq (.t 35) (.k (.s []))),oM 37 36,oU 38 37 0,oG 39 37 (.call 101 [(.t 38),(.k (.s [40]))]),oP 40 37 39] 40 (.seq (.dreg [(oF 41 0 3,0),(oK 42 1 41,0),(oM 43 0,3),(oF 44 0 5,7),(oK 45 1 44,7),(oR 46 (.call 159 [(.t 43),(.t 45),(.k (.b false))]),3),(oR 47 (.bsf 3 [.s [],.b false,.nils] 1 [(0,(.t 46))]),3),(oA1 48 3 48 42 47,0),(oF 49 0 3,0),(oS 1 49 48,0)])
 (.exit 1)) .skip)
 (oZ [oL 50 4 5,oR 51 (.bld [.i .i64 0,.s [],.i .i64 0,.i .i64 0,.s [],.s [],.i .i64 0,.i .i64 0,.s []] [(1,4,(.t 50))]),oR 6 (.new [.i .i64 0,.s [],.i .i64 0,.i .i64 0,.s [],.s [],.i .i64 0,.i .i64 0,.s []]),oS 9 6 51]
 (oZ [oM 52 0,oV1 53 161 52,oF 54 0 6,oS 1 54 53]
 (oZ [oM 55 0,oV1 56 160 55,oF 57 5 6,oS 4 57 56]
 (.reg [oF 58 1 3,oK 59 1 58,oL 60 9 6,oR 61 (.bsf 9 [.i .i64 0,.s [],.i .i64 0,.i .i64 0,.s [],.s [],.i .i64 0,.i .i64 0,.s []] 1 [(0,(.t 60))]),oA1 62 9 104 59 61,oF 63 1 3,oS 1 63 62]))))))))
 (.reg [oM 19 0,oR 20 (.call 139 [(.t 19),(.k (.s [44]))]),oM 4 20]))))))
 (oZ [oL 64 2 3,oS 2 2 64]
 .ret))))⟩
def zvW:Go.Vse.Fn:=⟨19,[.t 4],oZ [oC 4 0]
 (.seq (oZ [oM 6 0,oE 7 6,oC 8 0]
 (.blk 0 (.loop (oZ [oJ 9 8 7]
 (.seq (.cond (.t 9) .skip (.exit 0))
 (.seq (.blk 1 (oZ [oM 10 8,oM 5 10]
 (oD [oM 11 1,oM 12 0,oM 13 5,oI 14 3 12 13,oL 15 3 14,oR 16 (.callv (.t 11) [(.t 15)])] 16 (oZ [oM 17 5,oM 4 17]
 .ret) .skip)))
 (.reg [oA 18 8 1,oM 8 18])))))))
 (oZ [oR 4 (.mv (.k (.i .i64 (-1))))]
 .ret))⟩
def g158:Go.Vse.Fn:=⟨32,[.t 10,.t 11],oZ [oC 10 0,oC 11 0]
 (.seq (.seq (.dreg [(oM 12 4,0),(oM 13 0,1),(oM 14 2,3),(oI 15 3 13 14,1),(oL 16 3 15,1),(oM 17 0,31),(oM 18 1,63),(oI 19 3 17 18,31),(oL 20 3 19,31),(oR 21 (.callv (.t 12) [(.t 16),(.t 20)]),0),(oJ1 22 21 0,0)])
 (.cond (.t 22) (oZ [oM 23 3,oY 24 23,oK 25 1 24,oA 26 25 1,oY 27 23,oS 1 27 26]
 (oZ [oM 28 2,oM 29 1,oM 10 28,oM 11 29]
 .ret)) .skip))
 (oZ [oM 30 1,oM 31 2,oM 10 30,oM 11 31]
 .ret))⟩
def g159:Go.Vse.Fn:=⟨35,[.cell 6 true 3],oZ [oR 6 (.new [.s [],.b false,.nils])]
 (oZ [oM 8 1,oM 9 2,oR 10 (.bld [.s [],.b false,.nils] [(0,1,(.t 8)),(1,1,(.t 9))]),oR 7 (.new [.s [],.b false,.nils]),oS 3 7 10]
 (oZ [oM 11 0,oR 12 (.call 103 [(.t 11),(.k (.s [40]))])]
 (.seq (oD [oM 13 0,oR 14 (.call 139 [(.t 13),(.k (.s [41]))])] 14 (oZ [oL 15 3 7,oS 3 6 15]
 .ret) .skip)
 (.seq (.dreg [(oF 16 2 7,0),(oK 17 1 16,0),(oM 18 0,3),(oV1 19 160 18,3),(oR 20 (.bsf 4 [.s [],.i .i64 0,.i .i64 0,.s []] 1 [(0,(.t 19))]),3),(oA1 21 4 48 17 20,0),(oF 22 2 7,0),(oS 1 22 21,0)])
 (.seq (.blk 0 (.loop (.seq (oD [oM 23 0,oR 24 (.call 139 [(.t 23),(.k (.s [44]))])] 24 .skip (.exit 0))
 (.blk 1 (.dreg [(oF 25 2 7,0),(oK 26 1 25,0),(oM 27 0,3),(oV1 28 160 27,3),(oR 29 (.bsf 4 [.s [],.i .i64 0,.i .i64 0,.s []] 1 [(0,(.t 28))]),3),(oA1 30 4 48 26 29,0),(oF 31 2 7,0),(oS 1 31 30,0)])))))
 (oZ [oM 32 0,oR 33 (.call 103 [(.t 32),(.k (.s [41]))])]
 (oZ [oL 34 3 7,oS 3 6 34]
 .ret)))))))⟩
def g160:Go.Vse.Fn:=⟨11,[.cell 2 true 4],oZ [oR 2 (.new [.s [],.i .i64 0,.i .i64 0,.s []])]
 (.seq (oD [oM 3 0,oR 4 (.call 162 [(.t 3),(.k (.i .i64 1))])] 4 (oZ [oM 5 0,oV1 6 140 5,oR 7 (.bld [.s [],.i .i64 0,.i .i64 0,.s []] [(0,1,(.t 6))]),oS 4 2 7]
 .ret) .skip)
 (oZ [oM 8 0,oV1 9 163 8,oR 10 (.bld [.s [],.i .i64 0,.i .i64 0,.s []] [(1,3,(.t 9))]),oS 4 2 10]
 .ret))⟩
def g161:Go.Vse.Fn:=⟨16,[.t 2],oZ [oC 2 0]
 (.seq (oZ [oM 3 0,oR 4 (.call 153 [(.t 3),(.k (.i .i64 4))])]
 (.blk 0 (oD [oR 6 (.bin .eql (.t 4) (.k (.s [61]))),oM 5 6] 5 (oZ [oC 2 1]
 .ret) (oD [oR 8 (.bin .eql (.t 4) (.k (.s [33,61]))),oM 7 8] 7 (oZ [oC 2 2]
 .ret) (oD [oR 10 (.bin .eql (.t 4) (.k (.s [60]))),oM 9 10] 9 (oZ [oC 2 3]
 .ret) (oD [oR 12 (.bin .eql (.t 4) (.k (.s [60,61]))),oM 11 12] 11 (oZ [oC 2 4]
 .ret) .skip))))))
 (oZ [oM 13 0,oY 14 13,oF 15 2 14,oN (.st 1 (.t 15) (.k (.b true)))]
 (oZ [oC 2 0]
 .ret)))⟩
def g162:Go.Vse.Fn:=⟨37,[.t 4],oZ [oO 4]
 (.seq (.dreg [(oM 5 0,0),(oY 6 5,0),(oF 7 2 6,0),(oK 8 1 7,0),(oU1 9 8,0),(oM 10 9,0),(oU 11 10 0,0),(oG 12 10 (.nck (.t 11)),0),(oF1 13 10 1 12,0),(oK1 14 10 1 13,0),(oU 15 10 0,960),(oG 16 10 (.nck (.t 15)),960),(oF1 17 10 0 16,960),(oK1 18 10 1 17,960),(oG 19 10 (.len (.t 18)),960),(oG 20 10 (.bin .lss (.t 14) (.t 19)),0),(oP 21 10 20,0),(oM 22 21,0),(oU 23 22 0,0),(oG 24 22 (.nck (.t 23)),0),(oF1 25 22 0 24,0),(oK1 26 22 1 25,0),(oU 27 22 0,3932160),(oG 28 22 (.nck (.t 27)),3932160),(oF1 29 22 1 28,3932160),(oK1 30 22 1 29,3932160),(oI1 31 22 2 26 30,0),(oF1 32 22 0 31,0),(oK1 33 22 1 32,0),(oU 34 22 1,536608768),(oG 35 22 (.bin .eql (.t 33) (.t 34)),0),(oP 36 22 35,0),(oM 4 36,0)])
 .ret)⟩
def g163:Go.Vse.Fn:=⟨22,[.cell 2 true 3],oZ [oR 2 (.new [.i .i64 0,.i .i64 0,.s []])]
 (.seq (oD [oM 5 0,oR 6 (.call 162 [(.t 5),(.k (.i .i64 3))])] 6 (oZ [oM 8 0,oR 9 (.call 153 [(.t 8),(.k (.i .i64 3))]),oV 10 164 9,oM 7 10,oQ 11 7 0,oQ 12 7 1,oR 3 (.new [.i .i64 0,.i .i64 0,.s []]),oS 3 3 11,oM 4 12]
 (.seq (oD [oM 13 4,oU1 14 13] 14 (.reg [oM 15 0,oY 16 15,oF 17 2 16,oN (.st 1 (.t 17) (.k (.b true)))]) .skip)
 (oZ [oL 18 3 3,oS 3 2 18]
 .ret))) .skip)
 (oZ [oM 19 0,oV1 20 165 19,oV 21 8 20,oS 3 2 21]
 .ret))⟩
def g164:Go.Vse.Fn:=⟨87,[.cell 2 true 3,.t 3],oZ [oR 2 (.new [.i .i64 0,.i .i64 0,.s []]),oO 3]
 (.seq (oD [oM 7 0,oR 8 (.lns (.t 7)),oR 9 (.bin .gtr (.t 8) (.k (.i .i64 130))),oM 10 9,oM1 11 10 0,oH 12 10 (.bin .eql (.t 11) (.k (.s []))),oP1 13 10 12] 13 (oZ [oR 14 (.bld [.i .i64 0,.i .i64 0,.s []] []),oS 3 2 14,oO 3]
 .ret) .skip)
 (oZ [oR 15 (.bld [.i .i64 0,.i .i64 0,.s []] []),oR 4 (.new [.i .i64 0,.i .i64 0,.s []]),oS 3 4 15]
 (.seq (oD [oM 16 0,oR 17 (.ixs (.t 16) (.k (.i .i64 0))),oR 18 (.bin .eql (.t 17) (.k (.i .u8 39)))] 18 (oZ [oF 19 0 4,oN (.st 1 (.t 19) (.k (.i .i64 2)))]
 (oZ [oC 5 1]
 (.blk 0 (.loop (.seq (oD [oM 20 5,oA 21 20 1,oM 22 0,oR 23 (.lns (.t 22)),oJ 24 21 23] 24 .skip (.exit 0))
 (.seq (.blk 1 (.seq (.dreg [(oF 27 2 4,0),(oK 28 1 27,0),(oM 29 0,3),(oM 30 5,7),(oM 31 5,15),(oA 32 31 1,15),(oR 33 (.sls (.t 29) (some (.t 30)) (some (.t 32))),3),(oD1 34 28 33,0),(oF 35 2 4,0),(oS 1 35 34,0)])
 (oD [oM 36 0,oM 37 5,oR 38 (.ixs (.t 36) (.t 37)),oR 39 (.bin .eql (.t 38) (.k (.i .u8 39)))] 39 (.reg [oM 40 5,oA 41 40 1,oM 5 41]) .skip)))
 (.reg [oM 25 5,oA 26 25 1,oM 5 26]))))))) (oZ [oF 42 0 4,oN (.st 1 (.t 42) (.k (.i .i64 1)))]
 (.seq (oZ [oC 6 0]
 (.blk 2 (.loop (.seq (oD [oM 43 6,oM 44 0,oR 45 (.lns (.t 44)),oJ 46 43 45] 46 .skip (.exit 2))
 (.seq (.blk 3 (oD [oM 49 0,oM 50 6,oR 51 (.ixs (.t 49) (.t 50)),oR 52 (.bin .geq (.t 51) (.k (.i .u8 48))),oM 53 52,oU 54 53 0,oU 55 53 6,oG 56 53 (.ixs (.t 54) (.t 55)),oG 57 53 (.bin .leq (.t 56) (.k (.i .u8 57))),oP 58 53 57] 58 (.dreg [(oF 59 1 4,0),(oK 60 1 59,0),(oR 61 (.bin .mul (.k (.i .i64 10)) (.t 60)),0),(oM 62 0,7),(oM 63 6,15),(oR 64 (.ixs (.t 62) (.t 63)),7),(oR 65 (.bin .sub (.t 64) (.k (.i .u8 48))),7),(oR 66 (.cvi .i64 (.t 65)),7),(oS1 67 61 66,0),(oF 68 1 4,0),(oS 1 68 67,0)]) .skip))
 (.reg [oM 47 6,oA 48 47 1,oM 6 48]))))))
 (oD [oM 69 0,oR 70 (.ixs (.t 69) (.k (.i .i64 0))),oR 71 (.bin .neq (.t 70) (.k (.i .u8 45))),oM 72 71,oF1 73 72 1 4,oK1 74 72 1 73,oG 75 72 (.bin .neq (.t 74) (.k (.i .i64 (-9223372036854775808)))),oP 76 72 75] 76 (.reg [oF 77 1 4,oK 78 1 77,oR 79 (.un .neg (.t 78)),oF 80 1 4,oS 1 80 79]) .skip))))
 (.seq (oD [oL 81 3 4,oV 82 166 81,oM 83 0,oR 84 (.bin .neq (.t 82) (.t 83))] 84 (oZ [oR 85 (.bld [.i .i64 0,.i .i64 0,.s []] []),oS 3 2 85,oO 3]
 .ret) .skip)
 (oZ [oL 86 3 4,oS 3 2 86,oT 3]
 .ret)))))⟩
def g165:Go.Vse.Fn:=⟨18,[.t 2],oZ [oC 2 0]
 (oZ [oM 6 0,oR 7 (.call 153 [(.t 6),(.k (.i .i64 2))]),oV 8 164 7,oM 5 8,oQ 9 5 0,oQ 10 5 1,oR 3 (.new [.i .i64 0,.i .i64 0,.s []]),oS 3 3 9,oM 4 10]
 (.seq (oD [oM 11 4,oU1 12 11] 12 (.reg [oM 13 0,oY 14 13,oF 15 2 14,oN (.st 1 (.t 15) (.k (.b true)))]) .skip)
 (oZ [oF 16 1 3,oK 17 1 16,oM 2 17]
 .ret)))⟩
def g166:Go.Vse.Fn:=⟨39,[.t 2],oZ [oX 1 0,oR 2 (.mv (.k (.s [])))]
 (.seq (oD [oL 5 3 1,oV 6 167 5,oU1 7 6] 7 (oZ [oR 2 (.mv (.k (.s [])))]
 .ret) .skip)
 (.seq (oD [oF 8 0 1,oK 9 1 8,oE1 10 9 1] 10 (oZ [oF 11 1 1,oK 12 1 11,oV 13 169 12,oV 14 168 13,oM 2 14]
 .ret) .skip)
 (oZ [oR 3 (.mv (.k (.s [39])))]
 (.seq (oZ [oC 4 0]
 (.blk 0 (.loop (.seq (oD [oM 15 4,oF 16 2 1,oK 17 1 16,oR 18 (.lns (.t 17)),oJ 19 15 18] 19 .skip (.exit 0))
 (.seq (.blk 1 (oZ [oM 22 3,oF 23 2 1,oK 24 1 23,oM 25 4,oM 26 4,oA 27 26 1,oR 28 (.sls (.t 24) (some (.t 25)) (some (.t 27))),oD1 29 22 28,oM 3 29]
 (oD [oF 30 2 1,oK 31 1 30,oM 32 4,oR 33 (.ixs (.t 31) (.t 32)),oR 34 (.bin .eql (.t 33) (.k (.i .u8 39)))] 34 (.reg [oM 35 3,oR 36 (.bin .add (.t 35) (.k (.s [39]))),oM 3 36]) .skip)))
 (.reg [oM 20 4,oA 21 20 1,oM 4 21]))))))
 (oZ [oM 37 3,oR 38 (.bin .add (.t 37) (.k (.s [39]))),oM 2 38]
 .ret)))))⟩
def g167:Go.Vse.Fn:=⟨41,[.t 2],oZ [oX 1 0,oO 2]
 (.seq (oZ [oF 4 0 1,oK 5 1 4]
 (.blk 0 (oD [oE1 7 5 1,oM 6 7] 6 (oZ [oF 8 2 1,oK 9 1 8,oR 10 (.bin .eql (.t 9) (.k (.s []))),oM 2 10]
 .ret) (oD [oE1 12 5 2,oM 11 12] 11 (.seq (oZ [oC 3 0]
 (.blk 1 (.loop (.seq (oD [oM 13 3,oF 14 2 1,oK 15 1 14,oR 16 (.lns (.t 15)),oJ 17 13 16] 17 .skip (.exit 1))
 (.seq (.blk 2 (oD [oF 20 2 1,oK 21 1 20,oM 22 3,oR 23 (.ixs (.t 21) (.t 22)),oR 24 (.bin .lss (.t 23) (.k (.i .u8 32))),oM 25 24,oF2 26 25 2 1,oK2 27 25 1 26,oM1 28 25 3,oH 29 25 (.ixs (.t 27) (.t 28)),oH 30 25 (.bin .gtr (.t 29) (.k (.i .u8 126))),oP1 31 25 30] 31 (oZ [oO 2]
 .ret) .skip))
 (.reg [oM 18 3,oA 19 18 1,oM 3 19]))))))
 (oZ [oF 32 1 1,oK 33 1 32,oE1 34 33 0,oM 35 34,oF1 36 35 2 1,oK1 37 35 1 36,oG 38 35 (.lns (.t 37)),oG 39 35 (.bin .leq (.t 38) (.k (.i .i64 64))),oP 40 35 39,oM 2 40]
 .ret)) .skip))))
 (oZ [oO 2]
 .ret))⟩
def g168:Go.Vse.Fn:=⟨26,[.t 2],oZ [oX 1 0,oR 2 (.mv (.k (.s [])))]
 (oZ [oL 5 3 1,oV 6 170 5,oR 3 (.new [.b false,.nils,.nils]),oS 3 3 6]
 (oZ [oF 7 1 3,oK 8 1 7,oV 9 171 8,oM 4 9]
 (.seq (oD [oF 10 0 3,oK 11 1 10] 11 (.reg [oM 12 4,oR 13 (.bin .add (.k (.s [45])) (.t 12)),oM 4 13]) .skip)
 (.seq (.seq (.dreg [(oF 14 2 3,0),(oK 15 1 14,0),(oR 16 (.callp 173 [(.k (.i .u64 1))]),3),(oW 17 172 15 16,0),(oR 18 (.bin .neq (.t 17) (.k (.i .i64 0))),0)])
 (.cond (.t 18) (.reg [oM 19 4,oR 20 (.bin .add (.t 19) (.k (.s [47]))),oF 21 2 3,oK 22 1 21,oV 23 171 22,oD1 24 20 23,oM 4 24]) .skip))
 (oZ [oM 25 4,oM 2 25]
 .ret)))))⟩
def g169:Go.Vse.Fn:=⟨11,[.cell 2 true 3],oZ [oR 2 (.new [.b false,.nils,.nils])]
 (oZ [oM 6 0,oR 7 (.callp 174 [(.t 6),(.k (.i .i64 1))]),oM 5 7,oQ 8 5 0,oQ 9 5 1,oR 3 (.new [.b false,.nils,.nils]),oS 3 3 8,oM 4 9]
 (oZ [oL 10 3 3,oS 3 2 10]
 .ret))⟩
def g170:Go.Vse.Fn:=⟨10,[.cell 2 true 3],oZ [oX 1 0,oR 2 (.new [.b false,.nils,.nils])]
 (oZ [oF 3 0 1,oK 4 1 3,oF 5 1 1,oK 6 1 5,oF 7 2 1,oK 8 1 7,oR 9 (.callp 175 [(.t 4),(.t 6),(.t 8)]),oS 3 2 9]
 .ret)⟩
def g171:Go.Vse.Fn:=⟨27,[.t 2],oZ [oR 2 (.mv (.k (.s [])))]
 (oZ [oM 6 0,oV1 7 176 6,oM 3 7]
 (.seq (oD [oM 8 3,oE 9 8,oE1 10 9 0] 10 (oZ [oR 2 (.mv (.k (.s [48])))]
 .ret) .skip)
 (oZ [oR 4 (.mv (.k (.s [])))]
 (.seq (.blk 0 (.loop (.seq (oD [oM 11 3,oE 12 11,oR 13 (.bin .gtr (.t 12) (.k (.i .i64 0)))] 13 .skip (.exit 0))
 (.blk 1 (oZ [oR 5 (.mv (.k (.i .u64 0)))]
 (oZ [oM 15 3,oR 16 (.callp 177 [(.t 15),(.k (.i .u64 10))]),oM 14 16,oQ 17 14 0,oQ 18 14 1,oM 3 17,oM 5 18]
 (.reg [oM 19 5,oR 20 (.bin .add (.k (.i .u64 48)) (.t 19)),oR 21 (.cvi .u8 (.t 20)),oR 22 (.bsl 1 [.i .u8 0] 1 [(0,(.t 21))]),oR 23 (.b2s (.t 22)),oM 24 4,oD1 25 23 24,oM 4 25])))))))
 (oZ [oM 26 4,oM 2 26]
 .ret)))))⟩
def g172:Go.Vse.Fn:=⟨47,[.t 4],oZ [oC 4 0]
 (oZ [oM 8 0,oV1 9 176 8,oM 10 1,oV1 11 176 10,oM 5 9,oM 6 11]
 (.seq (oD [oM 12 5,oE 13 12,oM 14 6,oE 15 14,oR 16 (.bin .neq (.t 13) (.t 15))] 16 (.seq (oD [oM 17 5,oE 18 17,oM 19 6,oE 20 19,oJ 21 18 20] 21 (oZ [oR 4 (.mv (.k (.i .i64 (-1))))]
 .ret) .skip)
 (oZ [oC 4 1]
 .ret)) .skip)
 (.seq (oZ [oM 22 5,oE 23 22,oB1 24 23 1,oM 7 24]
 (.blk 0 (.loop (.seq (oD [oM 25 7,oG1 26 25 0] 26 .skip (.exit 0))
 (.seq (.blk 1 (.seq (.seq (.dreg [(oM 29 5,0),(oM 30 7,1),(oI 31 1 29 30,0),(oK 32 1 31,0),(oM 33 6,15),(oM 34 7,31),(oI 35 1 33 34,15),(oK 36 1 35,15),(oJ 37 32 36,0)])
 (.cond (.t 37) (oZ [oR 4 (.mv (.k (.i .i64 (-1))))]
 .ret) .skip))
 (.seq (.dreg [(oM 38 5,0),(oM 39 7,1),(oI 40 1 38 39,0),(oK 41 1 40,0),(oM 42 6,15),(oM 43 7,31),(oI 44 1 42 43,15),(oK 45 1 44,15),(oR 46 (.bin .gtr (.t 41) (.t 45)),0)])
 (.cond (.t 46) (oZ [oC 4 1]
 .ret) .skip))))
 (.reg [oM 27 7,oB1 28 27 1,oM 7 28]))))))
 (oZ [oC 4 0]
 .ret))))⟩
def g173:Go.Vse.Fn:=⟨10,[.t 2],oZ [oN1 2]
 (oZ [oM 3 0,oR 4 (.cvi .u32 (.t 3)),oM 5 0,oR 6 (.bin .shr (.t 5) (.k (.i .u64 32))),oR 7 (.cvi .u32 (.t 6)),oR 8 (.bsl 1 [.i .u32 0] 2 [(0,(.t 4)),(1,(.t 7))]),oV1 9 176 8,oM 2 9]
 .ret)⟩
def g174:Go.Vse.Fn:=⟨19,[.cell 4 true 3,.t 5],oZ [oR 4 (.new [.b false,.nils,.nils]),oC 5 0]
 (.seq (oD [oM 6 1,oE1 7 6 0] 7 (oZ [oR 8 (.bld [.b false,.nils,.nils] []),oS 3 4 8,oC 5 20]
 .ret) .skip)
 (oZ [oM 9 0,oJ1 10 9 0,oM 11 1,oJ1 12 11 0,oR 13 (.eqb true (.t 10) (.t 12)),oM 14 0,oV 15 178 14,oM 16 1,oV 17 178 16,oR 18 (.callp 175 [(.t 13),(.t 15),(.t 17)]),oS 3 4 18,oC 5 0]
 .ret))⟩
def g175:Go.Vse.Fn:=⟨49,[.cell 6 true 3],oZ [oR 6 (.new [.b false,.nils,.nils])]
 (oZ [oM 14 1,oM 15 2,oW 16 179 14 15,oM 7 16]
 (oZ [oM 18 1,oM 19 7,oW 20 180 18 19,oM 17 20,oQ 21 17 0,oQ 22 17 1,oQ 23 17 2,oM 8 21,oM 9 22,oM 10 23]
 (oZ [oM 25 2,oM 26 7,oW 27 180 25 26,oM 24 27,oQ 28 24 0,oQ 29 24 1,oQ 30 24 2,oM 11 28,oM 12 29,oM 13 30]
 (.seq (oD [oM 31 10,oU1 32 31,oM 33 32,oM1 34 33 8,oH 35 33 (.len (.t 34)),oH 36 33 (.bin .eql (.t 35) (.k (.i .i64 0))),oP1 37 33 36,oM 38 37,oM1 39 38 11,oH 40 38 (.len (.t 39)),oH 41 38 (.bin .eql (.t 40) (.k (.i .i64 0))),oP1 42 38 41] 42 (oZ [oR 43 (.callp 173 [(.k (.i .u64 1))]),oR 44 (.bld [.b false,.nils,.nils] [(2,1,(.t 43))]),oS 3 6 44]
 .ret) .skip)
 (oZ [oM 45 0,oM 46 8,oM 47 11,oR 48 (.bld [.b false,.nils,.nils] [(0,1,(.t 45)),(1,1,(.t 46)),(2,1,(.t 47))]),oS 3 6 48]
 .ret)))))⟩
def g176:Go.Vse.Fn:=⟨23,[.t 2],oZ [oN1 2]
 (oZ [oM 4 0,oE 5 4,oM 3 5]
 (.seq (.blk 0 (.loop (.seq (oD [oM 6 3,oR 7 (.bin .gtr (.t 6) (.k (.i .i64 0))),oM 8 7,oU 9 8 0,oU 10 8 3,oG 11 8 (.bin .sub (.t 10) (.k (.i .i64 1))),oI1 12 8 1 9 11,oK1 13 8 1 12,oG 14 8 (.bin .eql (.t 13) (.k (.i .u32 0))),oP 15 8 14] 15 .skip (.exit 0))
 (.blk 1 (.reg [oM 16 3,oB1 17 16 1,oM 3 17])))))
 (oZ [oR 18 (.bsl 1 [.i .u32 0] 0 []),oM 19 0,oM 20 3,oR 21 (.slc 1 (.t 19) none (some (.t 20)) none),oA1 22 1 4 18 21,oM 2 22]
 .ret)))⟩
def g177:Go.Vse.Fn:=⟨40,[.t 4,.t 5],oZ [oN1 4,oR 5 (.mv (.k (.i .u64 0)))]
 (oZ [oM 9 0,oE 10 9,oR 11 (.mks 1 4 [.i .u32 0] (.t 10) (.t 10)),oM 6 11]
 (oZ [oR 7 (.mv (.k (.i .u64 0)))]
 (.seq (oZ [oM 12 0,oE 13 12,oB1 14 13 1,oM 8 14]
 (.blk 0 (.loop (.seq (oD [oM 15 8,oG1 16 15 0] 16 .skip (.exit 0))
 (.seq (.blk 1 (oZ [oM 19 7,oR 20 (.bin .shl (.t 19) (.k (.i .u64 32))),oM 21 0,oM 22 8,oI 23 1 21 22,oK 24 1 23,oR 25 (.cvi .u64 (.t 24)),oD1 26 20 25,oM 7 26]
 (oZ [oM 27 6,oM 28 8,oM 29 7,oM 30 1,oR 31 (.bin .quo (.t 29) (.t 30)),oR 32 (.cvi .u32 (.t 31)),oI 33 1 27 28,oS 1 33 32]
 (.reg [oM 34 7,oM 35 1,oR 36 (.bin .rem (.t 34) (.t 35)),oM 7 36]))))
 (.reg [oM 17 8,oB1 18 17 1,oM 8 18]))))))
 (oZ [oM 37 6,oV1 38 176 37,oM 39 7,oM 4 38,oM 5 39]
 .ret))))⟩
def g178:Go.Vse.Fn:=⟨14,[.t 2],oZ [oN1 2]
 (.seq (oD [oM 3 0,oJ1 4 3 0] 4 (oZ [oM 5 0,oA 6 5 1,oR 7 (.un .neg (.t 6)),oR 8 (.cvi .u64 (.t 7)),oR 9 (.bin .add (.t 8) (.k (.i .u64 1))),oV 10 173 9,oM 2 10]
 .ret) .skip)
 (oZ [oM 11 0,oR 12 (.cvi .u64 (.t 11)),oV 13 173 12,oM 2 13]
 .ret))⟩
def g179:Go.Vse.Fn:=⟨76,[.t 4],oZ [oN1 4]
 (oZ [oM 9 0,oV1 10 176 9,oM 11 1,oV1 12 176 11,oM 5 10,oM 6 12]
 (.seq (oD [oM 13 5,oE 14 13,oE1 15 14 0] 15 (oZ [oM 16 6,oM 4 16]
 .ret) .skip)
 (.seq (oD [oM 17 6,oE 18 17,oE1 19 18 0] 19 (oZ [oM 20 5,oM 4 20]
 .ret) .skip)
 (oZ [oC 7 0]
 (.seq (.blk 0 (.loop (.seq (oD [oM 21 5,oR 22 (.ia 1 (.t 21) (.k (.i .i64 0))),oK 23 1 22,oR 24 (.bin .and (.t 23) (.k (.i .u32 1))),oR 25 (.bin .eql (.t 24) (.k (.i .u32 0))),oM 26 25,oU 27 26 6,oG 28 26 (.ia 1 (.t 27) (.k (.i .i64 0))),oK1 29 26 1 28,oG 30 26 (.bin .and (.t 29) (.k (.i .u32 1))),oG 31 26 (.bin .eql (.t 30) (.k (.i .u32 0))),oP 32 26 31] 32 .skip (.exit 0))
 (.blk 1 (oZ [oM 33 5,oV 34 181 33,oM 35 6,oV 36 181 35,oM 5 34,oM 6 36]
 (.reg [oM 37 7,oA 38 37 1,oM 7 38]))))))
 (.seq (.blk 2 (.loop (.seq (oD [oM 39 6,oE 40 39,oR 41 (.bin .gtr (.t 40) (.k (.i .i64 0)))] 41 .skip (.exit 2))
 (.blk 3 (.seq (.blk 4 (.loop (.seq (oD [oM 42 5,oR 43 (.ia 1 (.t 42) (.k (.i .i64 0))),oK 44 1 43,oR 45 (.bin .and (.t 44) (.k (.i .u32 1))),oR 46 (.bin .eql (.t 45) (.k (.i .u32 0)))] 46 .skip (.exit 4))
 (.blk 5 (.reg [oM 47 5,oV 48 181 47,oM 5 48])))))
 (.seq (.blk 6 (.loop (.seq (oD [oM 49 6,oR 50 (.ia 1 (.t 49) (.k (.i .i64 0))),oK 51 1 50,oR 52 (.bin .and (.t 51) (.k (.i .u32 1))),oR 53 (.bin .eql (.t 52) (.k (.i .u32 0)))] 53 .skip (.exit 6))
 (.blk 7 (.reg [oM 54 6,oV 55 181 54,oM 6 55])))))
 (.seq (oD [oM 56 5,oM 57 6,oW 58 172 56 57,oR 59 (.bin .gtr (.t 58) (.k (.i .i64 0)))] 59 (.reg [oM 60 6,oM 61 5,oM 5 60,oM 6 61]) .skip)
 (.reg [oM 63 6,oM 64 5,oW 65 182 63 64,oM 62 65,oQ 66 62 0,oQ 67 62 1,oM 6 66]))))))))
 (.seq (oZ [oC 8 0]
 (.blk 8 (.loop (.seq (oD [oM 68 8,oM 69 7,oJ 70 68 69] 70 .skip (.exit 8))
 (.seq (.blk 9 (.reg [oM 73 5,oR 74 (.callp 183 [(.t 73),(.k (.i .u32 0))]),oM 5 74]))
 (.reg [oM 71 8,oA 72 71 1,oM 8 72]))))))
 (oZ [oM 75 5,oM 4 75]
 .ret))))))))⟩
def g180:Go.Vse.Fn:=⟨70,[.t 4,.t 5,.t 6],oZ [oN1 4,oN1 5,oO 6]
 (oZ [oM 12 0,oV1 13 176 12,oM 14 1,oV1 15 176 14,oM 7 13,oM 8 15]
 (.seq (oD [oM 16 8,oE 17 16,oE1 18 17 0] 18 (oZ [oN1 4,oN1 5,oO 6]
 .ret) .skip)
 (oZ [oM 19 7,oE 20 19,oR 21 (.mks 1 4 [.i .u32 0] (.t 20) (.t 20)),oM 9 21]
 (oZ [oN1 10]
 (.seq (oZ [oM 22 7,oE 23 22,oR 24 (.bin .mul (.k (.i .i64 32)) (.t 23)),oB1 25 24 1,oM 11 25]
 (.blk 0 (.loop (.seq (oD [oM 26 11,oG1 27 26 0] 27 .skip (.exit 0))
 (.seq (.blk 1 (oZ [oM 30 10,oM 31 7,oM 32 11,oR 33 (.bin .quo (.t 32) (.k (.i .i64 32))),oI 34 1 31 33,oK 35 1 34,oM 36 11,oR 37 (.bin .rem (.t 36) (.k (.i .i64 32))),oR 38 (.cvi .u64 (.t 37)),oR 39 (.bin .shr (.t 35) (.t 38)),oR 40 (.bin .and (.t 39) (.k (.i .u32 1))),oW 41 183 30 40,oM 10 41]
 (oD [oM 42 10,oM 43 8,oW 44 172 42 43,oG1 45 44 0] 45 (oZ [oM 47 10,oM 48 8,oW 49 182 47 48,oM 46 49,oQ 50 46 0,oQ 51 46 1,oM 10 50]
 (.reg [oM 52 9,oM 53 11,oR 54 (.bin .quo (.t 53) (.k (.i .i64 32))),oM 55 9,oM 56 11,oR 57 (.bin .quo (.t 56) (.k (.i .i64 32))),oI 58 1 55 57,oK 59 1 58,oM 60 11,oR 61 (.bin .rem (.t 60) (.k (.i .i64 32))),oR 62 (.cvi .u64 (.t 61)),oR 63 (.bin .shl (.k (.i .u32 1)) (.t 62)),oR 64 (.bin .or (.t 59) (.t 63)),oI 65 1 52 54,oS 1 65 64])) .skip)))
 (.reg [oM 28 11,oB1 29 28 1,oM 11 29]))))))
 (oZ [oM 66 9,oV1 67 176 66,oM 68 10,oV1 69 176 68,oM 4 67,oM 5 69,oT 6]
 .ret))))))⟩
def g181:Go.Vse.Fn:=⟨36,[.t 2],oZ [oN1 2]
 (oZ [oN1 3]
 (.seq (oZ [oC 4 0]
 (.blk 0 (.loop (.seq (oD [oM 6 4,oM 7 0,oE 8 7,oJ 9 6 8] 9 .skip (.exit 0))
 (.seq (.blk 1 (oZ [oM 12 0,oM 13 4,oI 14 1 12 13,oK 15 1 14,oR 16 (.bin .shr (.t 15) (.k (.i .u64 1))),oM 5 16]
 (.seq (oD [oM 17 4,oA 18 17 1,oM 19 0,oE 20 19,oJ 21 18 20] 21 (.reg [oM 22 5,oM 23 0,oM 24 4,oA 25 24 1,oI 26 1 23 25,oK 27 1 26,oR 28 (.bin .shl (.t 27) (.k (.i .u64 31))),oR 29 (.bin .or (.t 22) (.t 28)),oM 5 29]) .skip)
 (.reg [oM 30 3,oM 31 5,oR 32 (.bsf 1 [.i .u32 0] 1 [(0,(.t 31))]),oA1 33 1 4 30 32,oM 3 33]))))
 (.reg [oM 10 4,oA 11 10 1,oM 4 11]))))))
 (oZ [oM 34 3,oV1 35 176 34,oM 2 35]
 .ret)))⟩
def g182:Go.Vse.Fn:=⟨60,[.t 4,.t 5],oZ [oN1 4,oO 5]
 (.seq (oD [oM 11 0,oM 12 1,oW 13 172 11 12,oJ1 14 13 0] 14 (oZ [oN1 4,oO 5]
 .ret) .skip)
 (oZ [oM 15 0,oV1 16 176 15,oM 17 1,oV1 18 176 17,oM 6 16,oM 7 18]
 (oZ [oR 8 (.mv (.k (.i .u64 0)))]
 (.seq (oZ [oC 9 0]
 (.blk 0 (.loop (.seq (oD [oM 19 9,oM 20 6,oE 21 20,oJ 22 19 21] 22 .skip (.exit 0))
 (.seq (.blk 1 (oZ [oM 25 8,oM 10 25]
 (.seq (oD [oM 26 9,oM 27 7,oE 28 27,oJ 29 26 28] 29 (.reg [oM 30 10,oM 31 7,oM 32 9,oI 33 1 31 32,oK 34 1 33,oR 35 (.cvi .u64 (.t 34)),oD1 36 30 35,oM 10 36]) .skip)
 (oZ [oR 8 (.mv (.k (.i .u64 0)))]
 (.seq (oD [oM 37 6,oM 38 9,oI 39 1 37 38,oK 40 1 39,oR 41 (.cvi .u64 (.t 40)),oM 42 10,oJ 43 41 42] 43 (.reg [oR 8 (.mv (.k (.i .u64 1)))]) .skip)
 (.reg [oM 44 6,oM 45 9,oM 46 6,oM 47 9,oI 48 1 46 47,oK 49 1 48,oR 50 (.cvi .u64 (.t 49)),oM 51 8,oR 52 (.bin .shl (.t 51) (.k (.i .u64 32))),oD1 53 50 52,oM 54 10,oS1 55 53 54,oR 56 (.cvi .u32 (.t 55)),oI 57 1 44 45,oS 1 57 56]))))))
 (.reg [oM 23 9,oA 24 23 1,oM 9 24]))))))
 (oZ [oM 58 6,oV1 59 176 58,oM 4 59,oT 5]
 .ret)))))⟩
def g183:Go.Vse.Fn:=⟨33,[.t 4],oZ [oN1 4]
 (oZ [oN1 5]
 (.seq (oZ [oC 6 0]
 (.blk 0 (.loop (.seq (oD [oM 7 6,oM 8 0,oE 9 8,oJ 10 7 9] 10 .skip (.exit 0))
 (.seq (.blk 1 (oZ [oM 13 5,oM 14 0,oM 15 6,oI 16 1 14 15,oK 17 1 16,oR 18 (.bin .shl (.t 17) (.k (.i .u64 1))),oM 19 1,oR 20 (.bin .or (.t 18) (.t 19)),oR 21 (.bsf 1 [.i .u32 0] 1 [(0,(.t 20))]),oA1 22 1 4 13 21,oM 5 22]
 (.reg [oM 23 0,oM 24 6,oI 25 1 23 24,oK 26 1 25,oR 27 (.bin .shr (.t 26) (.k (.i .u64 31))),oM 1 27])))
 (.reg [oM 11 6,oA 12 11 1,oM 6 12]))))))
 (oZ [oM 28 5,oM 29 1,oR 30 (.bsf 1 [.i .u32 0] 1 [(0,(.t 29))]),oA1 31 1 4 28 30,oV1 32 176 31,oM 4 32]
 .ret)))⟩
end Go.Proofs.YtmnkdfjljkhneaaGreat
