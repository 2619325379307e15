/- apart: from the lists of variables on. -/
import Derived.Test.YtlnfpifjdcmmlaaGreatDoorPl
import Derived.KernelRfl
import Derived.IntWalk
set_option linter.all false
set_option maxRecDepth 100000
set_option maxHeartbeats 4000000
section
namespace Go.Proofs.YtlnfpifjdcmmlaaGreatDoor
open Go Go.Vse Go.Vse.Sm
def zzg{h:T Ob}{lo c:Nat}{dA dC:D}{q:CQ}{xs:List Nat}(H:HQx h lo c dA dC q.as q xs):RdQ h c dA dC q:=by
 obtain⟨hA,hC,hY⟩ :=H;have hz:(List.zipWith atR q.as xs).length=q.as.length:=by rw[List.length_zipWith,hA.ln,Nat.min_self]
 refine⟨zbO hA.gr,zhr (zfU hC),by rw[Go.Vse.zda hA.gr,hz],zr7 hC,fun n hn=> ?_,fun n hn=> ?_⟩
 .have hx:n<xs.length:=by rw[hA.ln];exact hn
  obtain⟨X,r0,hi,gX,hX1,hX2⟩ :=zgw hA.gr (n:=n) (by rw[hz];exact hn);have hr:=hA.rw n hn hx;have hg:=hA.rg _ (Z2 hx);refine⟨_,.sl xs[n] 0 q.as[n].ts.length 4 q.as[n].ts.length false,[X],[xs[n]],hi,rfl,fun h' hf=>⟨?_,?_⟩⟩
  .have e:(List.zipWith atR q.as xs)[n]? =some (atR q.as[n] xs[n]):=by
    rw[List.getElem?_zipWith,Z0 hn,Z0 hx]
   simp[zbh,hf X hX2,gX,e,zb8,atR]
  .have e:=hf xs[n] hg.2;rw[hr]at e;have hl:=zbt q.as[n].ts;have ht:=zkr q.as[n].ts;rw[zlK,e,zcN,zh4,if_pos ⟨rfl,rfl,by omega⟩,Z35,ht]
 .obtain⟨Y,hi,gY,hYo,hY1,hY2⟩ :=zyO hC hn;refine⟨_,[Y],hi,fun h' hf=> ?_⟩;simp[zbh,hf Y hY2,gY,zb8,hn,cmD,tmD]
def zDk:C:=oZ [oL 39 2 4,oR 40 (.call 42 [(.t 39)]),oM 10 40]
 (oZ [oR 41 (.mmk),oR 11 (.new [.nilm]),oS 1 11 41]
 (.seq (oZ [oM 42 10,oR 43 (.len (.t 42)),oR 44 (.mv (.k (.i .i64 0)))]
 (.blk 2 (.loop (oZ [oR 45 (.bin .lss (.t 44) (.t 43))]
 (.seq (.cond (.t 45) .skip (.exit 2))
 (.seq (.blk 3 (oZ [oI 46 1 42 44,oK 47 1 46,oM 13 47]
 (oD [oM 48 7,oM 49 13,oR 50 (.mlk 1 (.b false) false (.t 48) (.t 49)),oM 51 50,oG 52 51 (.mv (.t 2)),oG 53 51 (.mv (.t 13)),oG 54 51 (.callp 43 [(.t 52),(.t 53)]),oG 55 51 (.un .not (.t 54)),oR 56 (.pick (.t 51) (.t 55) (.k (.b false)))] 56 (.reg [oK 57 1 11,oM 58 13,oN (.mup 1 (.t 57) (.t 58) (.k (.s [])))]) .skip)))
 (.reg [oR 59 (.bin .add (.t 44) (.k (.i .i64 1))),oM 44 59])))))))
 (.seq (oZ [oM 60 10,oR 61 (.len (.t 60)),oR 62 (.mv (.k (.i .i64 0)))]
 (.blk 4 (.loop (oZ [oR 63 (.bin .lss (.t 62) (.t 61))]
 (.seq (.cond (.t 63) .skip (.exit 4))
 (.seq (.blk 5 (oZ [oI 64 1 60 62,oK 65 1 64,oM 15 65]
 (.reg [oM 66 7,oM 67 15,oN (.mup 1 (.t 66) (.t 67) (.k (.b true)))])))
 (.reg [oR 68 (.bin .add (.t 62) (.k (.i .i64 1))),oM 62 68])))))))
 (.seq (oZ [oM 69 2,oR 70 (.len (.t 69)),oR 71 (.mv (.k (.i .i64 0)))]
 (.blk 6 (.loop (oZ [oR 72 (.bin .lss (.t 71) (.t 70))]
 (.seq (.cond (.t 72) .skip (.exit 6))
 (.seq (.blk 7 (oZ [oI 73 1 69 71,oK 74 1 73,oM 17 74]
 (.reg [oM 75 7,oM 76 17,oN (.mup 1 (.t 75) (.t 76) (.k (.b true)))])))
 (.reg [oR 77 (.bin .add (.t 71) (.k (.i .i64 1))),oM 71 77])))))))
 (.seq (oZ [oM 78 10,oR 79 (.len (.t 78)),oR 80 (.mv (.k (.i .i64 0)))]
 (.blk 8 (.loop (oZ [oR 81 (.bin .lss (.t 80) (.t 79))]
 (.seq (.cond (.t 81) .skip (.exit 8))
 (.seq (.blk 9 (oZ [oI 82 1 78 80,oK 83 1 82,oM 19 83]
 (.seq (oZ [oK 85 1 11,oM 86 19,oR 87 (.mlk 1 (.s []) true (.t 85) (.t 86)),oM 84 87,oR 88 (.ext (.t 84) 0),oR 89 (.ext (.t 84) 1),oM 20 88,oM 21 89]
 (oD [oM 90 21,oR 91 (.un .not (.t 90))] 91 (.exit 9) .skip))
 (oZ [oR 22 (.mv (.k (.i .i64 1)))]
 (.seq (.blk 10 (.loop (.seq (oD [oM 92 7,oM 93 19,oR 94 (.bin .add (.t 93) (.k (.s [95]))),oM 95 22,oR 96 (.callp 45 [(.t 95)]),oR 97 (.bin .add (.t 94) (.t 96)),oR 98 (.mlk 1 (.b false) false (.t 92) (.t 97))] 98 .skip (.exit 10))
 (.blk 11 (.reg [oM 99 22,oR 100 (.bin .add (.t 99) (.k (.i .i64 1))),oM 22 100])))))
 (.seq (.dreg [(oK 101 1 11,0),(oM 102 19,1),(oM 103 19,3),(oR 104 (.bin .add (.t 103) (.k (.s [95]))),3),(oM 105 22,15),(oR 106 (.callp 45 [(.t 105)]),15),(oR 107 (.bin .add (.t 104) (.t 106)),3),(oN (.mup 1 (.t 101) (.t 102) (.t 107)),0)])
 (.reg [oM 108 7,oK 109 1 11,oM 110 19,oR 111 (.mlk 1 (.s []) false (.t 109) (.t 110)),oN (.mup 1 (.t 108) (.t 111) (.k (.b true)))])))))))
 (.reg [oR 112 (.bin .add (.t 80) (.k (.i .i64 1))),oM 80 112])))))))
 (oZ [oR 113 (.mkf 46 [] [(.t 11)]),oM 23 113]
 (.seq (oZ [oF 114 0 4,oK 115 1 114,oR 116 (.len (.t 115)),oR 117 (.mv (.k (.i .i64 0)))]
 (.blk 12 (.loop (oZ [oR 118 (.bin .lss (.t 117) (.t 116))]
 (.seq (.cond (.t 118) .skip (.exit 12))
 (.seq (.blk 13 (oZ [oI 119 3 115 117,oL 120 3 119,oR 25 (.new [.s [],.b false,.nils]),oS 3 25 120]
 (oZ [oF 121 2 25,oK 122 1 121,oR 123 (.len (.t 122)),oR 124 (.mv (.k (.i .i64 0)))]
 (.blk 14 (.loop (oZ [oR 125 (.bin .lss (.t 124) (.t 123))]
 (.seq (.cond (.t 125) .skip (.exit 14))
 (.seq (.blk 15 (oZ [oM 126 124,oM 26 126]
 (.reg [oM 127 23,oF 128 2 25,oK 129 1 128,oM 130 26,oI 131 4 129 130,oR 132 (.callv (.t 127) [(.t 131)])])))
 (.reg [oR 133 (.bin .add (.t 124) (.k (.i .i64 1))),oM 124 133])))))))))
 (.reg [oR 134 (.bin .add (.t 117) (.k (.i .i64 1))),oM 117 134])))))))
 (.seq (oZ [oF 135 1 4,oK 136 1 135,oR 137 (.len (.t 136)),oR 138 (.mv (.k (.i .i64 0)))]
 (.blk 16 (.loop (oZ [oR 139 (.bin .lss (.t 138) (.t 137))]
 (.seq (.cond (.t 139) .skip (.exit 16))
 (.seq (.blk 17 (oZ [oM 140 138,oM 27 140]
 (oZ [oM 141 23,oF 142 1 4,oK 143 1 142,oM 144 27,oI 145 9 143 144,oF 146 1 145,oR 147 (.callv (.t 141) [(.t 146)])]
 (.reg [oM 148 23,oF 149 1 4,oK 150 1 149,oM 151 27,oI 152 9 150 151,oF 153 5 152,oR 154 (.callv (.t 148) [(.t 153)])]))))
 (.reg [oR 155 (.bin .add (.t 138) (.k (.i .i64 1))),oM 138 155])))))))
 (oZ [oL 156 2 4,oS 2 6 156]
 .ret)))))))))
def zys:C:= .seq (oZ [oM 60 10,oR 61 (.len (.t 60)),oR 62 (.mv (.k (.i .i64 0)))]
 (.blk 4 (.loop (oZ [oR 63 (.bin .lss (.t 62) (.t 61))]
 (.seq (.cond (.t 63) .skip (.exit 4))
 (.seq (.blk 5 (oZ [oI 64 1 60 62,oK 65 1 64,oM 15 65]
 (.reg [oM 66 7,oM 67 15,oN (.mup 1 (.t 66) (.t 67) (.k (.b true)))])))
 (.reg [oR 68 (.bin .add (.t 62) (.k (.i .i64 1))),oM 62 68])))))))
 (.seq (oZ [oM 69 2,oR 70 (.len (.t 69)),oR 71 (.mv (.k (.i .i64 0)))]
 (.blk 6 (.loop (oZ [oR 72 (.bin .lss (.t 71) (.t 70))]
 (.seq (.cond (.t 72) .skip (.exit 6))
 (.seq (.blk 7 (oZ [oI 73 1 69 71,oK 74 1 73,oM 17 74]
 (.reg [oM 75 7,oM 76 17,oN (.mup 1 (.t 75) (.t 76) (.k (.b true)))])))
 (.reg [oR 77 (.bin .add (.t 71) (.k (.i .i64 1))),oM 71 77])))))))
 (.seq (oZ [oM 78 10,oR 79 (.len (.t 78)),oR 80 (.mv (.k (.i .i64 0)))]
 (.blk 8 (.loop (oZ [oR 81 (.bin .lss (.t 80) (.t 79))]
 (.seq (.cond (.t 81) .skip (.exit 8))
 (.seq (.blk 9 (oZ [oI 82 1 78 80,oK 83 1 82,oM 19 83]
 (.seq (oZ [oK 85 1 11,oM 86 19,oR 87 (.mlk 1 (.s []) true (.t 85) (.t 86)),oM 84 87,oR 88 (.ext (.t 84) 0),oR 89 (.ext (.t 84) 1),oM 20 88,oM 21 89]
 (oD [oM 90 21,oR 91 (.un .not (.t 90))] 91 (.exit 9) .skip))
 (oZ [oR 22 (.mv (.k (.i .i64 1)))]
 (.seq (.blk 10 (.loop (.seq (oD [oM 92 7,oM 93 19,oR 94 (.bin .add (.t 93) (.k (.s [95]))),oM 95 22,oR 96 (.callp 45 [(.t 95)]),oR 97 (.bin .add (.t 94) (.t 96)),oR 98 (.mlk 1 (.b false) false (.t 92) (.t 97))] 98 .skip (.exit 10))
 (.blk 11 (.reg [oM 99 22,oR 100 (.bin .add (.t 99) (.k (.i .i64 1))),oM 22 100])))))
 (.seq (.dreg [(oK 101 1 11,0),(oM 102 19,1),(oM 103 19,3),(oR 104 (.bin .add (.t 103) (.k (.s [95]))),3),(oM 105 22,15),(oR 106 (.callp 45 [(.t 105)]),15),(oR 107 (.bin .add (.t 104) (.t 106)),3),(oN (.mup 1 (.t 101) (.t 102) (.t 107)),0)])
 (.reg [oM 108 7,oK 109 1 11,oM 110 19,oR 111 (.mlk 1 (.s []) false (.t 109) (.t 110)),oN (.mup 1 (.t 108) (.t 111) (.k (.b true)))])))))))
 (.reg [oR 112 (.bin .add (.t 80) (.k (.i .i64 1))),oM 80 112])))))))
 (oZ [oR 113 (.mkf 46 [] [(.t 11)]),oM 23 113]
 (.seq (oZ [oF 114 0 4,oK 115 1 114,oR 116 (.len (.t 115)),oR 117 (.mv (.k (.i .i64 0)))]
 (.blk 12 (.loop (oZ [oR 118 (.bin .lss (.t 117) (.t 116))]
 (.seq (.cond (.t 118) .skip (.exit 12))
 (.seq (.blk 13 (oZ [oI 119 3 115 117,oL 120 3 119,oR 25 (.new [.s [],.b false,.nils]),oS 3 25 120]
 (oZ [oF 121 2 25,oK 122 1 121,oR 123 (.len (.t 122)),oR 124 (.mv (.k (.i .i64 0)))]
 (.blk 14 (.loop (oZ [oR 125 (.bin .lss (.t 124) (.t 123))]
 (.seq (.cond (.t 125) .skip (.exit 14))
 (.seq (.blk 15 (oZ [oM 126 124,oM 26 126]
 (.reg [oM 127 23,oF 128 2 25,oK 129 1 128,oM 130 26,oI 131 4 129 130,oR 132 (.callv (.t 127) [(.t 131)])])))
 (.reg [oR 133 (.bin .add (.t 124) (.k (.i .i64 1))),oM 124 133])))))))))
 (.reg [oR 134 (.bin .add (.t 117) (.k (.i .i64 1))),oM 117 134])))))))
 (.seq (oZ [oF 135 1 4,oK 136 1 135,oR 137 (.len (.t 136)),oR 138 (.mv (.k (.i .i64 0)))]
 (.blk 16 (.loop (oZ [oR 139 (.bin .lss (.t 138) (.t 137))]
 (.seq (.cond (.t 139) .skip (.exit 16))
 (.seq (.blk 17 (oZ [oM 140 138,oM 27 140]
 (oZ [oM 141 23,oF 142 1 4,oK 143 1 142,oM 144 27,oI 145 9 143 144,oF 146 1 145,oR 147 (.callv (.t 141) [(.t 146)])]
 (.reg [oM 148 23,oF 149 1 4,oK 150 1 149,oM 151 27,oI 152 9 150 151,oF 153 5 152,oR 154 (.callv (.t 148) [(.t 153)])]))))
 (.reg [oR 155 (.bin .add (.t 138) (.k (.i .i64 1))),oM 138 155])))))))
 (oZ [oL 156 2 4,oS 2 6 156]
 .ret))))))
def zyt:C:= .seq (oZ [oM 78 10,oR 79 (.len (.t 78)),oR 80 (.mv (.k (.i .i64 0)))]
 (.blk 8 (.loop (oZ [oR 81 (.bin .lss (.t 80) (.t 79))]
 (.seq (.cond (.t 81) .skip (.exit 8))
 (.seq (.blk 9 (oZ [oI 82 1 78 80,oK 83 1 82,oM 19 83]
 (.seq (oZ [oK 85 1 11,oM 86 19,oR 87 (.mlk 1 (.s []) true (.t 85) (.t 86)),oM 84 87,oR 88 (.ext (.t 84) 0),oR 89 (.ext (.t 84) 1),oM 20 88,oM 21 89]
 (oD [oM 90 21,oR 91 (.un .not (.t 90))] 91 (.exit 9) .skip))
 (oZ [oR 22 (.mv (.k (.i .i64 1)))]
 (.seq (.blk 10 (.loop (.seq (oD [oM 92 7,oM 93 19,oR 94 (.bin .add (.t 93) (.k (.s [95]))),oM 95 22,oR 96 (.callp 45 [(.t 95)]),oR 97 (.bin .add (.t 94) (.t 96)),oR 98 (.mlk 1 (.b false) false (.t 92) (.t 97))] 98 .skip (.exit 10))
 (.blk 11 (.reg [oM 99 22,oR 100 (.bin .add (.t 99) (.k (.i .i64 1))),oM 22 100])))))
 (.seq (.dreg [(oK 101 1 11,0),(oM 102 19,1),(oM 103 19,3),(oR 104 (.bin .add (.t 103) (.k (.s [95]))),3),(oM 105 22,15),(oR 106 (.callp 45 [(.t 105)]),15),(oR 107 (.bin .add (.t 104) (.t 106)),3),(oN (.mup 1 (.t 101) (.t 102) (.t 107)),0)])
 (.reg [oM 108 7,oK 109 1 11,oM 110 19,oR 111 (.mlk 1 (.s []) false (.t 109) (.t 110)),oN (.mup 1 (.t 108) (.t 111) (.k (.b true)))])))))))
 (.reg [oR 112 (.bin .add (.t 80) (.k (.i .i64 1))),oM 80 112])))))))
 (oZ [oR 113 (.mkf 46 [] [(.t 11)]),oM 23 113]
 (.seq (oZ [oF 114 0 4,oK 115 1 114,oR 116 (.len (.t 115)),oR 117 (.mv (.k (.i .i64 0)))]
 (.blk 12 (.loop (oZ [oR 118 (.bin .lss (.t 117) (.t 116))]
 (.seq (.cond (.t 118) .skip (.exit 12))
 (.seq (.blk 13 (oZ [oI 119 3 115 117,oL 120 3 119,oR 25 (.new [.s [],.b false,.nils]),oS 3 25 120]
 (oZ [oF 121 2 25,oK 122 1 121,oR 123 (.len (.t 122)),oR 124 (.mv (.k (.i .i64 0)))]
 (.blk 14 (.loop (oZ [oR 125 (.bin .lss (.t 124) (.t 123))]
 (.seq (.cond (.t 125) .skip (.exit 14))
 (.seq (.blk 15 (oZ [oM 126 124,oM 26 126]
 (.reg [oM 127 23,oF 128 2 25,oK 129 1 128,oM 130 26,oI 131 4 129 130,oR 132 (.callv (.t 127) [(.t 131)])])))
 (.reg [oR 133 (.bin .add (.t 124) (.k (.i .i64 1))),oM 124 133])))))))))
 (.reg [oR 134 (.bin .add (.t 117) (.k (.i .i64 1))),oM 117 134])))))))
 (.seq (oZ [oF 135 1 4,oK 136 1 135,oR 137 (.len (.t 136)),oR 138 (.mv (.k (.i .i64 0)))]
 (.blk 16 (.loop (oZ [oR 139 (.bin .lss (.t 138) (.t 137))]
 (.seq (.cond (.t 139) .skip (.exit 16))
 (.seq (.blk 17 (oZ [oM 140 138,oM 27 140]
 (oZ [oM 141 23,oF 142 1 4,oK 143 1 142,oM 144 27,oI 145 9 143 144,oF 146 1 145,oR 147 (.callv (.t 141) [(.t 146)])]
 (.reg [oM 148 23,oF 149 1 4,oK 150 1 149,oM 151 27,oI 152 9 150 151,oF 153 5 152,oR 154 (.callv (.t 148) [(.t 153)])]))))
 (.reg [oR 155 (.bin .add (.t 138) (.k (.i .i64 1))),oM 138 155])))))))
 (oZ [oL 156 2 4,oS 2 6 156]
 .ret))))
def HQx.up{h h':T Ob}{lo c:Nat}{dA dC:D}{l:List Atm}{q:CQ}{xs:List Nat}(H:HQx h lo c dA dC l q xs)(hf:Frm h h' c):HQx h' lo c dA dC l q xs:=
 ⟨H.1.up (fun x _ h2=>hf x h2) (Z3 _) (Z3 _),zhs H.2.1 (fun x _ h2=>hf x h2) (Z3 _) (Z3 _),H.2.2⟩
theorem r25_8{h0:T Ob}{lo c0 P R M C Q:Nat}(o:lo<=c0/\c0<=P/\P<R/\R<M/\M<Q/\Q<C){hd:List Str}{dA dC dB:D}{q:CQ}{xs:List Nat}{U VB:List Str}{N:Nms}(hq:CqSm q)(hU:U.length+VB.length<98)(hxl:∀x∈VB,x.length<1000){K:Ex->St->Prop}(s:St)
  (a1:APS h0 c0 P R M hd dA dC U s)(a2:AQS M C Q dB VB N s)(a3:s.tm.get 10=some dB)(hh:HQx h0 lo c0 dA dC q.as q xs)
  (hK:∀s,s.tm.get 6=some (.ptr R 2 0 0)->s.h.get R=some (.arr 2 0 [[dA,dC]])->Frm h0 s.h lo->HQx s.h lo c0 dA dC (q.as.map (rnA (VB.foldl apS (U,N)).2)) ⟨q.as,q.cs.map (rnK (VB.foldl apS (U,N)).2),q.ne,q.na⟩ xs->R<s.c->K .ret s):wpC pr zyt s K:=by
 obtain⟨⟨h2,h4,h6,h7,gP,gR,gM⟩,hf,hMc⟩ :=a1;obtain⟨⟨h11,gC,gQ⟩,hg,hCc⟩ :=a2;unfold zyt;simp only[rU];have hlen:=zda hg;simp[rW,a3,hlen];refine zM5 (h0:=h0) (c0:=c0) (P:=P) (R:=R) (M:=M) (C:=C) (Q:=Q) (hd:=hd) (dA:=dA) (dC:=dC) (dB:=dB) (U:=U) (VB:=VB) (N:=N) (by omega) hU hxl _ ⟨?_,?_,?_⟩ ⟨?_,?_,?_⟩ ?_ ?_
 .simp[rW,h2,h4,h6,h7,gP,gR,gM]
 .simp[rW,hf]
 .simp[rW,hMc]
 .simp[rW,h11,gC,gQ]
 .simp[rW,hg]
 .simp[rW,hCc]
 .simp[rW,a3]
 rintro s ⟨⟨h2,h4,h6,h7,gP,gR,gM⟩,hf,hMc⟩ ⟨⟨h11,gC,gQ⟩,hg,hCc⟩;generalize (VB.foldl apS (U,N)).2=N2 at gQ hK;have hh2:=hh.up hf;have hla:zbn dA=some q.as.length:=by rw[Go.Vse.zda hh.1.gr,List.length_zipWith,hh.1.ln,Nat.min_self]
 have hlc:=zr7 hh.2.1;simp[rW,h4,h11,gP,hla];refine zIm (h0:=h0) (lo:=lo) (c0:=c0) (P:=P) (R:=R) (C:=C) (Q:=Q) (dA:=dA) (dC:=dC) (N:=N2) (l:=q.as) (q:=q) (xs:=xs) (by omega) (by have:=hq.sa;omega) hq.st _ ⟨?_,?_,?_⟩ ?_ ?_ ?_
 .simp[rW,h4,h6,h11,gP,gR,gC,gQ]
 .simp[rW,];exact fun z hz=>hf z (by omega)
 .simp[rW,hCc]
 .simp[rW,hh2]
 .simp[rW,]
 rintro s ⟨⟨h4,h6,h23,gP,gR,gC,gQ⟩,hf,hCc⟩ hh3;simp[rW,h4,gP,hlc];refine zIr (h0:=h0) (lo:=lo) (c0:=c0) (P:=P) (R:=R) (C:=C) (Q:=Q) (dA:=dA) (dC:=dC) (N:=N2) (l:=q.as.map (rnA N2)) (q:=q) (xs:=xs) (by omega) (by have:=hq.sc;omega) _ ⟨?_,?_,?_⟩ ?_ ?_ ?_
 .simp[rW,h4,h6,h23,gP,gR,gC,gQ]
 .simp[rW,hf]
 .simp[rW,hCc]
 .simp[rW,hh3]
 .simp[rW,]
 rintro s ⟨⟨h4,h6,h23,gP,gR,gC,gQ⟩,hf,hCc⟩ hh4;have ca:=zbO hh.1.gr;have cc:=zhr (zfU hh.2.1);have hRc:R<s.c:=by omega
 simp[rW,h4,h6,gP,gR,ca,cc,hRc];refine hK _ ?_ ?_ ?_ ?_ ?_
 .simp[rW,h6]
 .simp[rW,h6]
 .simp[rW,];exact fun z hz=>by
   have z1:¬z=R:=by omega
   simp[Vse.T.zab,z1,hf z hz]
 .refine⟨hh4.1.up (fun x _ h2=> ?_) (Z3 _) (Z3 _),zhs hh4.2.1 (fun x _ h2=> ?_) (Z3 _) (Z3 _),hh4.2.2⟩
  .have z1:¬x=R:=by omega
   simp[rW,z1]
  .have z1:¬x=R:=by omega
   simp[rW,z1]
 .simp[rW,hRc]
theorem r25_4{h0:T Ob}{lo c0 P R M C Q:Nat}(o:lo<=c0/\c0<=P/\P<R/\R<M/\M<Q/\Q<C){hd:List Str}{dA dC dB:D}{q:CQ}{xs:List Nat}{U VB:List Str}{N:Nms}(hq:CqSm q)(hU:U.length+VB.length+hd.length+VB.length<98)(hxl:∀x∈VB,x.length<1000){K:Ex->St->Prop}(s:St)
  (a1:APS h0 c0 P R M hd dA dC U s)(a2:AQS M C Q dB VB N s)(a3:s.tm.get 10=some dB)(hh:HQx h0 lo c0 dA dC q.as q xs)
  (hK:∀s N2,N2=(VB.foldl apS (hd.foldl zdU (VB.foldl zdU U),N)).2->s.tm.get 6=some (.ptr R 2 0 0)->s.h.get R=some (.arr 2 0 [[dA,dC]])->Frm h0 s.h lo->HQx s.h lo c0 dA dC (q.as.map (rnA N2)) ⟨q.as,q.cs.map (rnK N2),q.ne,q.na⟩ xs->R<s.c->K .ret s):wpC pr zys s K:=by
 obtain⟨⟨h2,h4,h6,h7,gP,gR,gM⟩,hf,hMc⟩ :=a1;obtain⟨⟨h11,gC,gQ⟩,hg,hCc⟩ :=a2;unfold zys;simp only[rU];have hlen:=zda hg;have nQM:¬(Q=M):=by omega
 have nMQ:¬(M=Q):=by omega
 have nMC:¬(M=C):=by omega
 have nCM:¬(C=M):=by omega
 have nPM:¬(P=M):=by omega
 have nRM:¬(R=M):=by omega
 simp[rW,a3,hlen];refine zeF VB zdU U (fun n a s=>APS h0 c0 P R M hd dA dC a s/\AQS M C Q dB VB N s/\(s.tm.get 10=some (dB)/\s.tm.get 60=some (dB)/\s.tm.get 61=some (.f (.i .i64 VB.length))/\s.tm.get 62=some (.f (.i .i64 n)))) (fun e s=>e= .exit 4/\APS h0 c0 P R M hd dA dC (VB.foldl zdU U) s/\AQS M C Q dB VB N s/\s.tm.get 10=some dB) ?_ ?_ _ ?_ ?_
 .clear h2 h4 h6 h7 gP gR gM hf hMc h11 gC gQ hg hCc a3 hK;clear s;rintro n a s hn - ⟨⟨⟨h2,h4,h6,h7,gP,gR,gM⟩,hf,hMc⟩,⟨⟨h11,gC,gQ⟩,hg,hCc⟩,⟨h10,h60,h61,h62⟩⟩;have hw:=zaq n (by omega);obtain⟨X,r0,hi,gX,hX1,hX2⟩ :=zgw hg (n:=n) (by rw[zbW];exact hn);have ht:(zbi VB)[n]? =some [.f (.s VB[n])]:=by simp[zbi,hn]
  have hnt:n< (zbi VB).length:=by rw[zbW];exact hn
  have ht2:∀h:n< (zbi VB).length,(zbi VB)[n]=[.f (.s VB[n])]:=fun h=>by
   rw[Z0 h]at ht;exact Option.some.inj ht
  generalize VB[n]=x at ht ht2|-;simp[rW,h2,h4,h6,h7,gP,gR,gM,h11,gC,gQ,h10,h60,h61,h62,hn,hi,gX,ht,ht2,hnt,zxK,hw,hMc];refine⟨⟨?_,fun z hz=> ?_,?_⟩,⟨?_,zbr hg (Z3 _) fun z hz1 hz2=> ?_,?_⟩⟩
  .simp[rW,h2,h4,h6,h7,gP,gR,gM,nPM,nRM]
  .have z1:¬z=M:=by omega
   simp[rW,z1];exact hf z hz
  .simp[rW,hMc]
  .simp[rW,h11,gC,gQ,nQM,nCM]
  .have z1:¬z=M:=by omega
   simp[rW,z1]
  .simp[rW,hCc]
 .rintro s ⟨⟨⟨h2,h4,h6,h7,gP,gR,gM⟩,hf,hMc⟩,⟨⟨h11,gC,gQ⟩,hg,hCc⟩,⟨h10,h60,h61,h62⟩⟩;simp[rW,h10,h60,h61,h62];refine⟨⟨?_,hf,hMc⟩,⟨?_,hg,hCc⟩⟩
  .simp[rW,h2,h4,h6,h7,gP,gR,gM]
  .simp[rW,h11,gC,gQ]
 .refine⟨⟨?_,hf,hMc⟩,⟨?_,hg,hCc⟩,?_⟩
  .simp[rW,h2,h4,h6,h7,gP,gR,gM]
  .simp[rW,h11,gC,gQ]
  .simp[rW,a3]
 rintro e s ⟨rfl,⟨⟨h2,h4,h6,h7,gP,gR,gM⟩,hf,hMc⟩,⟨⟨h11,gC,gQ⟩,hg,hCc⟩,a3⟩;have hU2:=ziz VB U;generalize VB.foldl zdU U=U2 at gM hU2 hK;simp[rW,h2,zcs];refine zeF hd zdU U2 (fun n a s=>APS h0 c0 P R M hd dA dC a s/\AQS M C Q dB VB N s/\(s.tm.get 10=some (dB)/\s.tm.get 69=some (.f (zaQ hd))/\s.tm.get 70=some (.f (.i .i64 hd.length))/\s.tm.get 71=some (.f (.i .i64 n)))) (fun e s=>e= .exit 6/\APS h0 c0 P R M hd dA dC (hd.foldl zdU U2) s/\AQS M C Q dB VB N s/\s.tm.get 10=some dB) ?_ ?_ _ ?_ ?_
 .clear h2 h4 h6 h7 gP gR gM hf hMc h11 gC gQ hg hCc a3 hK;rintro n a s hn - ⟨⟨⟨h2,h4,h6,h7,gP,gR,gM⟩,hf,hMc⟩,⟨⟨h11,gC,gQ⟩,hg,hCc⟩,⟨h10,h69,h70,h71⟩⟩;have hw:=zaq n (by omega);have hx:hd[n]? =some hd[n]:=Z0 hn;generalize hA:hd[n]=x at hx|-;simp[rW,h2,h4,h6,h7,gP,gR,gM,h11,gC,gQ,h10,h69,h70,h71,hn,zdz,hx,hA,zxK,hw,hMc];refine⟨⟨?_,fun z hz=> ?_,?_⟩,⟨?_,zbr hg (Z3 _) fun z hz1 hz2=> ?_,?_⟩⟩
  .simp[rW,h2,h4,h6,h7,gP,gR,gM,nPM,nRM]
  .have z1:¬z=M:=by omega
   simp[rW,z1];exact hf z hz
  .simp[rW,hMc]
  .simp[rW,h11,gC,gQ,nQM,nCM]
  .have z1:¬z=M:=by omega
   simp[rW,z1]
  .simp[rW,hCc]
 .rintro s ⟨⟨⟨h2,h4,h6,h7,gP,gR,gM⟩,hf,hMc⟩,⟨⟨h11,gC,gQ⟩,hg,hCc⟩,⟨h10,h69,h70,h71⟩⟩;simp[rW,h10,h69,h70,h71];refine⟨⟨?_,hf,hMc⟩,⟨?_,hg,hCc⟩⟩
  .simp[rW,h2,h4,h6,h7,gP,gR,gM]
  .simp[rW,h11,gC,gQ]
 .refine⟨⟨?_,hf,hMc⟩,⟨?_,hg,hCc⟩,?_⟩
  .simp[rW,h2,h4,h6,h7,gP,gR,gM]
  .simp[rW,h11,gC,gQ]
  .simp[rW,h2,a3]
 rintro e s ⟨rfl,b1,b2,b3⟩;have hU3:=ziz hd U2;rw[zjq,if_pos rfl,zlw];refine r25_8 o hq (by omega) hxl s b1 b2 b3 hh fun s' c1 c2 c3 c4 c5=>hK s' _ rfl c1 c2 c3 c4 c5
def zGU(l:List (List D)):hd8 ([.f .nilm]::l)=false:=rfl
theorem r25{h0:T Ob}{lo c0 P R M:Nat}(o:lo<=c0/\c0<=P/\P<R/\R<M){hd:List Str}{dA dC:D}{q:CQ}{xs:List Nat}{U:List Str}(hq:CqSm q)(hU:U.length+(vrs q).length+hd.length+(vrs q).length<98)(hxl:∀x∈vrs q,x.length<1000){K:Ex->St->Prop}(s:St)
    (a1:APS h0 c0 P R M hd dA dC U s)(hh:HQx h0 lo c0 dA dC q.as q xs)
    (hK:∀s N2,N2=((vrs q).foldl apS (hd.foldl zdU ((vrs q).foldl zdU U),(vrs q).foldl (kyS U hd) [])).2->s.tm.get 6=some (.ptr R 2 0 0)->s.h.get R=some (.arr 2 0 [[dA,dC]])->Frm h0 s.h lo->HQx s.h lo c0 dA dC (q.as.map (rnA N2)) ⟨q.as,q.cs.map (rnK N2),q.ne,q.na⟩ xs->R<s.c->K .ret s):wpC pr zDk s K:=by
  obtain⟨⟨h2,h4,h6,h7,gP,gR,gM⟩,hf,hMc⟩ :=a1;have hrd:=zzg (hh.up hf);unfold zDk;simp only[rU];simp[rW,h2,h4,h6,h7,gP,gR,gM,hrd.ca,hrd.cc];refine zd6 rfl rfl (zwe q hq (hrd.up (h':=s.h) (c':=s.c) (fun _ _=>rfl) (by omega))) ?_;rintro dB h' c' lw mx ⟨hf2,hg⟩ hcc;simp only[rG]at hf2 hg hcc;have eP:=hf2 P (by omega);have eR:=hf2 R (by omega);have eM:=hf2 M (by omega);rw[gP]at eP;rw[gR]at eR;rw[gM]at eM;have hlen:=zda hg;have hf3:Frm h0 h' c0:=zik hf hf2 (by omega);have n1:¬(c'+1=c'):=by omega
  have nP:¬(P=c'):=by omega
  have nR:¬(R=c'):=by omega
  have nM:¬(M=c'):=by omega
  have nP1:¬(P=c'+1):=by omega
  have nR1:¬(R=c'+1):=by omega
  have nM1:¬(M=c'+1):=by omega
  simp[rW,h2,h4,h6,h7,hlen,zGU];refine zeF (vrs q) (kyS U hd) [] (fun n a s=>APS h0 c0 P R M hd dA dC U s/\AQS M (c'+1) c' dB (vrs q) a s/\(s.tm.get 10=some (dB)/\s.tm.get 42=some (dB)/\s.tm.get 43=some (.f (.i .i64 (vrs q).length))/\s.tm.get 44=some (.f (.i .i64 n)))) (fun e s=>e= .exit 2/\APS h0 c0 P R M hd dA dC U s/\AQS M (c'+1) c' dB (vrs q) ((vrs q).foldl (kyS U hd) []) s/\s.tm.get 10=some dB) ?_ ?_ _ ?_ ?_
  . clear h2 h4 h6 h7 gP gR gM hf hMc hK hrd eP eR eM hlen;obtain⟨C,hC⟩ :∃C,C=c'+1:=⟨_,rfl⟩
    obtain⟨Q,hQ⟩ :∃Q,Q=c':=⟨_,rfl⟩
    rw[<-hC,<-hQ];rw[<-hC]at nP1 nR1 nM1;rw[<-hQ]at nP nR nM;have nCQ:¬(C=Q):=by omega
    rintro n a s hn - ⟨⟨⟨h2,h4,h6,h7,gP,gR,gM⟩,hf,hMc⟩,⟨⟨h11,gC,gQ⟩,hg,hCc⟩,⟨h10,h42,h43,h44⟩⟩;have hw:=zaq n (by omega);obtain⟨X,r0,hi,gX,hX1,hX2⟩ :=zgw hg (n:=n) (by rw[zbW];exact hn);have ht:(zbi (vrs q))[n]? =some [.f (.s (vrs q)[n])]:=by simp[zbi,hn]
    have hnt:n< (zbi (vrs q)).length:=by rw[zbW];exact hn
    have ht2:∀h:n< (zbi (vrs q)).length,(zbi (vrs q))[n]=[.f (.s (vrs q)[n])]:=fun h=>by
      rw[Z0 h]at ht;exact Option.some.inj ht
    generalize (vrs q)[n]=x at ht ht2|-;have qa:=fun k=>zaB (k:=k) (zvR hd x (by omega))
    have hQc:Q<s.c:=by omega
    by_cases hx:x∈U
    . cases hb:hd.any (· ==x)with
      | true=>
        rw[hb]at qa;have e:kyS U hd a x=a:=by simp only[kyS,hb];simp
        rw[e];simp[rW,h2,h4,h6,h7,gP,gR,gM,h11,gC,gQ,h10,h42,h43,h44,hn,hi,gX,ht,ht2,hnt,lkB,hx,qa,hw];refine⟨⟨?_,?_,?_⟩,⟨?_,?_,?_⟩⟩
        . simp[rW,h2,h4,h6,h7,gP,gR,gM]
        . simp[rW,hf]
        . simp[rW,hMc]
        . simp[rW,h11,gC,gQ]
        . simp[rW,hg]
        . simp[rW,hCc]
      | false=>
        rw[hb]at qa;have e:kyS U hd a x=upS x [] a:=by simp only[kyS,hb];simp[hx]
        rw[e];simp[rW,h2,h4,h6,h7,gP,gR,gM,h11,gC,gQ,h10,h42,h43,h44,hn,hi,gX,ht,ht2,hnt,lkB,hx,qa,upS',hw,hQc];refine⟨⟨?_,fun z hz=> ?_,?_⟩,⟨?_,?_,?_⟩⟩
        . simp[rW,h2,h4,h6,h7,gP,gR,gM,nP,nR,nM]
        . have z1:¬z=Q:=by omega
          simp[rW,z1];exact hf z hz
        . simp[rW,hMc]
        . simp[rW,h11,gC,gQ,nCQ]
        . refine zbr hg (Z3 _) fun z hz1 hz2=> ?_
          have z1:¬z=Q:=by omega
          simp[rW,z1]
        . simp[rW,hCc]
    . have e:kyS U hd a x=a:=by simp[kyS,hx]
      rw[e];simp[rW,h2,h4,h6,h7,gP,gR,gM,h11,gC,gQ,h10,h42,h43,h44,hn,hi,gX,ht,ht2,hnt,lkB,hx,hw];refine⟨⟨?_,?_,?_⟩,⟨?_,?_,?_⟩⟩
      . simp[rW,h2,h4,h6,h7,gP,gR,gM]
      . simp[rW,hf]
      . simp[rW,hMc]
      . simp[rW,h11,gC,gQ]
      . simp[rW,hg]
      . simp[rW,hCc]
  . rintro s ⟨⟨⟨h2,h4,h6,h7,gP,gR,gM⟩,hf,hMc⟩,⟨⟨h11,gC,gQ⟩,hg,hCc⟩,⟨h10,h42,h43,h44⟩⟩;simp[rW,h10,h42,h43,h44];refine⟨⟨?_,?_,?_⟩,⟨?_,?_,?_⟩⟩
    . simp[rW,h2,h4,h6,h7,gP,gR,gM]
    . simp[rW,hf]
    . simp[rW,hMc]
    . simp[rW,h11,gC,gQ]
    . simp[rW,hg]
    . simp[rW,hCc]
  . refine⟨⟨?_,fun z hz=> ?_,?_⟩,⟨?_,?_,?_⟩,?_⟩
    . simp[rW,h2,h4,h6,h7,eP,eR,eM,nP,nR,nM,nP1,nR1,nM1]
    . have z1:¬z=c':=by omega
      have z2:¬z=c'+1:=by omega
      simp[rW,z1,z2];exact hf3 z hz
    . simp[rW,];omega
    . simp[rW,mpS]
    . refine zin (zbr hg (Z3 _) fun z hz1 hz2=> ?_) (by omega);have z1:¬z=c':=by omega
      have z2:¬z=c'+1:=by omega
      simp[rW,z1,z2]
    . simp[rW,]
    . simp[rW,]
  rintro e s ⟨rfl,b1,b2,b3⟩;rw[zjq,if_pos rfl,zlw];exact r25_4 (by omega) hq hU hxl s b1 b2 b3 hh hK
def fn25:pr.fn 25=some g25:=by kernel_rfl
theorem eff25{h:T Ob}{lo c0:Nat}{dA1 dC1 dA dC:D}{A q:CQ}{hd:List Str}{xs:List Nat}(hlo:lo<=c0)(hr:RdQ h c0 dA1 dC1 A)(hA:CqSm A)(hq:CqSm q)(hh:HQx h lo c0 dA dC q.as q xs)(hF:dA.isF=false)
  (hU:(vrs A).length+(vrs q).length+hd.length+(vrs q).length<98)(hxl:∀x∈vrs q,x.length<1000):
  Eff pr 25 [.ag [dA1,dC1],.ag [dA,dC],.f (zaQ hd)] h c0 fun d h' c'=>d= .ag [dA,dC]/\Frm h h' lo/\HQx h' lo c0 dA dC (q.as.map (rnA (apN (vrs A) (vrs q) hd))) ⟨q.as,q.cs.map (rnK (apN (vrs A) (vrs q) hd)),q.ne,q.na⟩ xs:=by
 refine zcx zaS fn25 ?_;simp only[g25,rU];have hrb:=zzg hh;have hfr:∀o1 o2 o3 o4,Frm h ((((h.set c0 o1).set (c0+1) o2).set (c0+1+1) o3).set (c0+1+1+1) o4) c0:=fun o1 o2 o3 o4 x hx=>by
  have n1:¬x=c0:=by omega
  have n2:¬x=c0+1:=by omega
  have n3:¬x=c0+1+1:=by omega
  have n4:¬x=c0+1+1+1:=by omega
  simp[Vse.T.zab,n1,n2,n3,n4]
 have m1:¬(c0=c0+1+1+1):=by omega
 have m2:¬(c0+1=c0+1+1+1):=by omega
 have m3:¬(c0=c0+1+1):=by omega
 have m4:¬(c0=c0+1):=by omega
 simp[rW,st0,zaj,hr.ca,hr.cc,hrb.ca,hrb.cc,m1,m2,m3,m4];refine zd6 rfl rfl (zwe A hA ?_) ?_
 .refine hr.up (hfr _ _ _ _) ?_;simp only[rG];omega
 rintro dV h' c' lw mx ⟨hf,hg⟩ hcc;simp only[rG]at hf hg hcc;have hf0:Frm h h' c0:=zik (hfr _ _ _ _) hf (by omega);have e1:=hf (c0+1) (by omega);have e2:=hf (c0+1+1) (by omega);have e3:=hf (c0+1+1+1) (by omega);simp[Vse.T.zab]at e1 e2 e3;obtain⟨P,hP⟩ :∃P,P=c0+1:=⟨_,rfl⟩
 obtain⟨R,hR⟩ :∃R,R=c0+1+1:=⟨_,rfl⟩
 obtain⟨M,hM⟩ :∃M,M=c0+1+1+1:=⟨_,rfl⟩
 have hlen:=zda hg;have hRd:dA.cells=some [dA]/\dC.cells=some [dC]:=⟨hrb.ca,hrb.cc⟩
 simp[rW,hlen];rw[<-hP]at e1;rw[<-hR]at e2;rw[<-hM]at e3;refine zeF (vrs A) zdU [] (fun n a s=>APS h' c0 P R M hd dA dC a s/\Gro s.h (M+1) c' 1 dV (zbi (vrs A))/\(s.tm.get 30=some (dV)/\s.tm.get 31=some (.f (.i .i64 (vrs A).length))/\s.tm.get 32=some (.f (.i .i64 n)))) (fun e s=>e= .exit 0/\APS h' c0 P R M hd dA dC ((vrs A).foldl zdU []) s) ?_ ?_ _ ?_ ?_
 .clear hlen;rintro n a s hn - ⟨⟨⟨h2,h4,h6,h7,gP,gR,gM⟩,hf,hMc⟩,hg,⟨h30,h31,h32⟩⟩;have hw:=zaq n (by omega);have nPM:¬(P=M):=by omega
  have nRM:¬(R=M):=by omega
  obtain⟨X,r0,hi,gX,hX1,hX2⟩ :=zgw hg (n:=n) (by rw[zbW];exact hn);have ht:(zbi (vrs A))[n]? =some [.f (.s (vrs A)[n])]:=by simp[zbi,hn]
  have hnt:n< (zbi (vrs A)).length:=by rw[zbW];exact hn
  have ht2:∀h:n< (zbi (vrs A)).length,(zbi (vrs A))[n]=[.f (.s (vrs A)[n])]:=fun h=>by
   rw[Z0 h]at ht;exact Option.some.inj ht
  generalize (vrs A)[n]=x at ht ht2|-;simp[rW,h2,h4,h6,h7,gP,gR,gM,h30,h31,h32,hn,hi,gX,ht,ht2,hnt,zxK,hw,hMc];refine⟨⟨?_,fun z hz=> ?_,?_⟩,?_⟩
  .simp[rW,h2,h4,h6,h7,gP,gR,gM,nPM,nRM]
  .have z1:¬z=M:=by omega
   simp[rW,z1];exact hf z hz
  .simp[rW,hMc]
  .refine zbr hg (Z3 _) fun z hz1 hz2=> ?_
   have z1:¬z=M:=by omega
   simp[rW,z1]
 .rintro s ⟨⟨⟨h2,h4,h6,h7,gP,gR,gM⟩,hf,hMc⟩,hg,⟨h30,h31,h32⟩⟩;simp[rW,h30,h31,h32];refine⟨?_,hf,hMc⟩;simp[rW,h2,h4,h6,h7,gP,gR,gM]
 .refine⟨⟨?_,?_,?_⟩,?_,?_⟩
  .simp[rW,e1,e2,e3,<-hP,<-hR,<-hM];exact⟨by omega,by omega,rfl⟩
  .simp[rW,];exact fun _ _=>rfl
  .simp[rW,];omega
  .simp[rW,];exact zin hg (by omega)
  .simp[rW,]
 rintro e s ⟨rfl,a1⟩;rw[zjq,if_pos rfl,zlw];have hal:=ziz (vrs A) [];simp only[List.length_nil,Z26]at hal;refine r25 (h0:=h') (lo:=lo) (c0:=c0) (P:=P) (R:=R) (M:=M) (by omega) hq (by omega) hxl s a1 (hh.up hf0) ?_;rintro s N2 hN h6 gR hf6 hQ hRc;have hN2:N2=apN (vrs A) (vrs q) hd:=hN;rw[<-hN2];simp[rW,h6,gR,hrb.ca,hrb.cc,zca,hF];exact⟨zik (fun z hz=>hf0 z (by omega)) hf6 (Z3 _),hQ⟩
structure CqM(n:Nat)(c:CQ):Prop where
 al:∀a∈c.as,zbS a/\a.ts.length<=2/\a.ts≠[]
 cs:∀k∈c.cs,zbU k
 la:c.as.length<=3*n
 lc:c.cs.length<=n
structure CqN(n:Nat)(c:CQ):Prop where
 al:∀a∈c.as,zbS a/\a.ts.length<=2/\a.ts≠[]
 cs:∀k∈c.cs,zbU k
 la:c.as.length<=3*n
 lc:c.cs.length<=n
 ne:c.as≠[]
 vl:∀x∈vrs c,x.length<1000
def CqN.m{n:Nat}{c:CQ}(h:CqN n c):CqM n c:=⟨h.al,h.cs,h.la,h.lc⟩
def CqM.g{n:Nat}{c:CQ}(h:CqM n c)(hn:n<=4):CqG c:=
 ⟨⟨⟨fun a ha=>(h.al a ha).1,h.cs,by have:=h.la;omega,by have:=h.lc;omega⟩,by have:=h.la;omega,fun a ha=>by have:=(h.al a ha).2.1;omega,by have:=h.lc;omega,fun a ha=>(h.al a ha).2.1⟩,fun a ha=>(h.al a ha).2.2⟩
def ztL{n:Nat}{c:CQ}(h:CqM n c):(vrs c).length<=8*n:=by
 have h1:=zkK (tsC c) [];have h2:zes [] (tsC c)=vrs c:=zot c;have h3:=zfv (·.ts) 2 c.as fun a ha=>(h.al a ha).2.1
 have h4:=zfv ts2 2 c.cs (by simp[ts2]);rw[h2]at h1;have:=h.la;have:=h.lc;simp only[tsC,tsA,Z17,List.length_nil]at h1;omega
def NmF(N:Nms):Prop:=∀x y,lkS x N=some y->y≠[]
theorem zEy(A hd:List Str):∀(B:List Str) (N:Nms) (x y:Str),lkS x (B.foldl (kyS A hd) N)=some y->(∃z,lkS x N=some z)\/x∈B
 |[],N,x,y,h=> .inl ⟨y,h⟩
 |b::B,N,x,y,h=>by
  rw[Z43]at h;rcases zEy A hd B _ x y h with⟨z,hz⟩ |hm
  .unfold kyS at hz;split at hz
   .by_cases e:x=b
    .exact .inr (by rw[e];simp)
    .rw[zsD e]at hz;exact .inl ⟨z,hz⟩
   .exact .inl ⟨z,hz⟩
  .exact .inr (by simp[hm])
theorem zDi:∀(B:List Str) (st:List Str×Nms),(∀x y,lkS x st.2=some y->y≠[]\/x∈B)->NmF (B.foldl apS st).2
 |[],st,h,x,y,hxy=>by rcases h x y hxy with h|h;exact h;simp at h
 |b::B,st,h,x,y,hxy=>by
  rw[Z43]at hxy;refine zDi B (apS st b) (fun u w huw=> ?_) x y hxy;unfold apS at huw;split at huw
  .by_cases e:u=b
   .subst e;simp only[zsE,Z46]at huw;exact .inl (by rw[<-huw];exact zLH _ _)
   .simp only[zsD e]at huw;rcases h u w huw with h|h
    .exact .inl h
    .exact .inr (by simpa [e]using h)
  .rename_i hk;rcases h u w huw with h|h
   .exact .inl h
   .rcases Z6.1 h with rfl|h
    .rw[huw]at hk;simp at hk
    .exact .inr h
def zJD(A B hd:List Str):NmF (apN A B hd):=by
 refine zDi B _ fun x y h=> ?_
 rcases zEy _ _ _ _ _ _ h with⟨z,hz⟩ |hm
 .simp[lkS]at hz
 .exact .inr hm
def zsY{N:Nms}(hN:NmF N){t:Trm}(ht:zav t):zav (rnT N t):=by
 cases t with
 |var s=>
  show rnV N s≠[];unfold rnV;have hs:s≠[]:=ht;rw[if_neg hs];cases h:lkS s N with
  |none=>exact hs
  |some y=>exact hN s y h
 |cst n=>exact ht
def zLV{N:Nms}(hN:NmF N){a:Atm}(ha:zbS a/\a.ts.length<=2/\a.ts≠[]):zbS (rnA N a)/\(rnA N a).ts.length<=2/\(rnA N a).ts≠[]:=by
 refine⟨⟨fun t ht=> ?_,by simpa [rnA]using ha.1.2⟩,by simpa [rnA]using ha.2.1,by simpa [rnA]using ha.2.2⟩;obtain⟨u,hu,rfl⟩ :=Z13.1 ht;exact zsY hN (ha.1.1 u hu)
def cjS(hd:List Str)(acc c:CQ):CQ:=⟨acc.as++c.as.map (rnA (apN (vrs acc) (vrs c) hd)),acc.cs++c.cs.map (rnK (apN (vrs acc) (vrs c) hd)),false,false⟩
def cj0:CQ:=⟨[],[],false,false⟩
def zgP(hd:List Str)(l:List CQ):CQ:=l.foldl (cjS hd) cj0
def zDr{n:Nat}{hd:List Str}{acc c:CQ}(h1:CqM n acc)(h2:CqN 1 c):CqM (n+1) (cjS hd acc c):=by
 have hN:=zJD (vrs acc) (vrs c) hd;refine⟨fun a ha=> ?_,fun k hk=> ?_,?_,?_⟩
 .rcases Z5.1 ha with h|h
  .exact h1.al a h
  .obtain⟨b,hb,rfl⟩ :=Z13.1 h;exact zLV hN (h2.al b hb)
 .rcases Z5.1 hk with h|h
  .exact h1.cs k h
  .obtain⟨b,hb,rfl⟩ :=Z13.1 h;exact⟨zsY hN (h2.cs b hb).1,zsY hN (h2.cs b hb).2⟩
 .have:=h1.la;have:=h2.la;simp[cjS];omega
 .have:=h1.lc;have:=h2.lc;simp[cjS];omega
theorem zyK{hd:List Str}:∀{l:List CQ} {n:Nat} {acc:CQ},CqM n acc->(∀c∈l,CqN 1 c)->CqM (n+l.length) (l.foldl (cjS hd) acc)
 |[],n,acc,h,_=>h
 |c::l,n,acc,h,hl=>by
  have:=zyK (hd:=hd) (l:=l) (zDr (hd:=hd) h (hl c (by simp))) fun d hdm=>hl d (by simp[hdm])
  rw[Z43,Z24,show n+(l.length+1)=n+1+l.length by omega];exact this
def zDq:CqM 0 cj0:=⟨by simp[cj0],by simp[cj0],by simp[cj0],by simp[cj0]⟩
def zr4{hd:List Str}{l:List CQ}(hl:∀c∈l,CqN 1 c):CqM l.length (zgP hd l):=by
 have:=zyK (hd:=hd) zDq hl;rw[Z26]at this;exact this
def fn11:pr.fn 11=some g11:=by kernel_rfl
def RQx(h:T Ob)(lo c:Nat)(dA dC:D)(q:CQ):Prop:=∃xs,AsD h lo c dA q.as xs/\Gro h lo c 9 dC (q.cs.map cmD)/\∀Y,dC.oid=some Y->Y∉xs/\dA.oid≠some Y
def zzQ{h:T Ob}{lo c:Nat}{dA dC:D}{q:CQ}(H:RQx h lo c dA dC q):RdQ h c dA dC q:=by
 obtain⟨xs,hA,hC,hY⟩ :=H;have hz:(List.zipWith atR q.as xs).length=q.as.length:=by rw[List.length_zipWith,hA.ln,Nat.min_self]
 refine⟨zbO hA.gr,zbO hC,by rw[Go.Vse.zda hA.gr,hz],by rw[Go.Vse.zda hC,Z19],fun n hn=> ?_,fun n hn=> ?_⟩
 .have hx:n<xs.length:=by rw[hA.ln];exact hn
  obtain⟨X,r0,hi,gX,hX1,hX2⟩ :=zgw hA.gr (n:=n) (by rw[hz];exact hn);have hr:=hA.rw n hn hx;have hg:=hA.rg _ (Z2 hx);refine⟨_,.sl xs[n] 0 q.as[n].ts.length 4 q.as[n].ts.length false,[X],[xs[n]],hi,rfl,fun h' hf=>⟨?_,?_⟩⟩
  .have e:(List.zipWith atR q.as xs)[n]? =some (atR q.as[n] xs[n]):=by
    rw[List.getElem?_zipWith,Z0 hn,Z0 hx]
   simp[zbh,hf X hX2,gX,e,zb8,atR]
  .have e:=hf xs[n] hg.2;rw[hr]at e;have hl:=zbt q.as[n].ts;have ht:=zkr q.as[n].ts;rw[zlK,e,zcN,zh4,if_pos ⟨rfl,rfl,by omega⟩,Z35,ht]
 .obtain⟨Y,r0,hi,gY,hY1,hY2⟩ :=zgw hC (n:=n) (by rw[Z19];exact hn);refine⟨_,[Y],hi,fun h' hf=> ?_⟩;simp[zbh,hf Y hY2,gY,zb8,hn,cmD,tmD]
def RQx.up{h h':T Ob}{lo c c':Nat}{dA dC:D}{q:CQ}(H:RQx h lo c dA dC q)(hf:∀x,lo<=x->x<c->h'.get x=h.get x)(hc:c<=c'):RQx h' lo c' dA dC q:=by
 obtain⟨xs,hA,hC,hY⟩ :=H;exact⟨xs,hA.up hf (Z3 _) hc,zbr hC hc hf,hY⟩
def zCG{l m:List Atm}{xs ys:List Nat}(h:xs.length=l.length):List.zipWith atR (l++m) (xs++ys)=List.zipWith atR l xs++List.zipWith atR m ys:=List.zipWith_append h.symm
def zK5{h:T Ob}{lo c es:Nat}{d:D}{els:List (List D)}(hg:Gro h lo c es d els):∃rd,elemsOf es h.get d=some (els,rd):=by
 rcases hg with⟨rfl,rfl⟩ |⟨id,ro,rfl,h2,h3,h4,h5,h6⟩
 .exact⟨[],rfl⟩
 .exact⟨[id],by rw[zlK,h3,zcN,zh4,if_pos ⟨rfl,rfl,by omega⟩,Z35,Z8]⟩
def zKb{h:T Ob}{lo c:Nat}{d:D}{q:CQ}(H:CsE h lo c d q):∃rd,elemsOf 9 h.get d=some (q.cs.map cmD,rd):=by
 rcases H with⟨rfl,e,-⟩ |⟨Y,ex,rfl,hY,-,-,h1,h2,-⟩
 .exact⟨[],by rw[e];rfl⟩
 .refine⟨[Y],?_⟩;have hl:(q.cs.map cmD).length=q.cs.length:=Z19 _;rw[zlK,hY,zcN,zh4,if_pos ⟨rfl,rfl,by omega⟩,Z35,<-hl,Z8]
def zmG{h h':T Ob}{lo c c' es:Nat}{d:D}{els:List (List D)}(hg:Gro h lo c es d els)(hh:∀Y,d.oid=some Y->h'.get Y=h.get Y)(hc:c<=c'):Gro h' lo c' es d els:=by
 rcases hg with hg|⟨id,ro,rfl,h2,h3,h4,h5,h6⟩
 .exact .inl hg
 .exact .inr ⟨id,ro,rfl,h2,by rw[hh id rfl];exact h3,h4,h5,by omega⟩
theorem zyI{hd:List Str}:∀(l:List CQ) (acc:CQ),acc.ne=false->acc.na=false->(l.foldl (cjS hd) acc).ne=false/\(l.foldl (cjS hd) acc).na=false
 |[],acc,h1,h2=>⟨h1,h2⟩
 |c::l,acc,h1,h2=>zyI l (cjS hd acc c) rfl rfl
def zFn{h:T Ob}{lo c:Nat}{d:D}{l:List Atm}{xs:List Nat}(H:AsD h lo c d l xs)(hl:∀a∈l,a.ts≠[]):∃rd,frz h.get 11 d=some (slc 3 (l.map atF),rd):=by
 have key:∀(l:List Atm) (xs:List Nat),xs.length=l.length->(∀a∈l,a.ts≠[])->(∀x∈xs,lo<=x/\x<c)->(∀k (hk:k<l.length) (hx:k<xs.length),h.get xs[k]=some (.arr 4 0 (zaC l[k].ts)))->
   ∃W:List (Atm×D),List.zipWith atR l xs=zfL W/\l=W.map (·.1)/\∀p∈W,Own h lo c p.2 (zdL p.1.ts):=by
  intro l
  induction l with
  |nil=>intro xs h1 _ _ _;exact⟨[],by simp[zfL],rfl,by simp⟩
  |cons a l ih=>
   intro xs h1 h2 h3 h4;cases xs with
   |nil=>simp at h1
   |cons x xs=>
    obtain⟨W,e1,e2,e3⟩ :=ih xs (by simpa using h1) (fun b hb=>h2 b (by simp[hb])) (fun y hy=>h3 y (by simp[hy])) fun k hk hx=>by
     have:=h4 (k+1) (by simp;omega) (by simp;omega);simpa using this
    refine⟨(a,.sl x 0 a.ts.length 4 a.ts.length false)::W,?_,by simp[<-e2],fun p hp=> ?_⟩
    .simp only[List.zipWith_cons_cons,e1];rfl
    .rcases Z6.1 hp with rfl|hp
     .have h5:=h4 0 (by simp) (by simp);have h6:=h3 x (by simp);have h7:=h2 a (by simp);refine zlR (es:=4) (rows:=a.ts.map tmF) (.inr ⟨x,0,?_,?_,h5,Nat.zero_le _,h6.1,h6.2⟩)
      .simp
      .simpa using h7
     .exact e3 p hp
 obtain⟨W,e1,e2,e3⟩ :=key l xs H.ln hl H.rg H.rw;have hg:=H.gr;rw[e1]at hg;obtain⟨rd,hr⟩ :=zkg 8 e3;have e4:W.map (fun p=>atF p.1)=l.map atF:=by rw[e2,Z34];rfl
 rw[e4]at hr;refine zsp (k:=10) hg hr ?_;rw[e2];unfold zfL;simp
def zBr{h:T Ob}{lo c:Nat}{d:D}{l:List Cm}(hg:Gro h lo c 9 d (l.map cmD)):∃rd,frz h.get 11 d=some (slc 9 (l.map cmF),rd):=by
 have hf:=ziF h.get 9 (l.map cmF);rw[Z34]at hf;have e:l.map ((fun a=>a.map D.f) ∘ cmF)=l.map cmD:=List.map_congr_left fun k _=>zDs k
 rw[e]at hf;exact zh7 (k:=10) hg hf (by simp)
def XJ(hd:List Str)(l:List CQ)(n:Nat)(qr:CQ)(s:St):Prop:=∃A C:D,(s.tm.get 1=some (.f (zaQ hd))/\s.tm.get 4=some (.ptr 0 2 0 0)/\s.tm.get 5=some (.ptr 1 2 0 0)/\s.tm.get 8=some (.f (qsF l))/\s.tm.get 9=some (.f (.i .i64 l.length))/\s.tm.get 10=some (.f (.i .i64 n))/\s.h.get 0=some (.arr 2 0 [[.f .nils,.f .nils]])/\s.h.get 1=some (.arr 2 0 [[A,C]]))/\RQx s.h 2 s.c A C qr/\2<=s.c
def ans11(hd:List Str)(l:List CQ)(hh:hd.length<=10)(hl:l.length<=3)(hq:∀c∈l,CqN 1 c):Ans pr 11 [qsF l,zaQ hd] (.ag (cqF (zgP hd l))):=by
 refine zco fn11 ?_;simp only[g11,rU];simp[rW,st0,zaj,zka,zbY,zgz];refine zeF l (cjS hd) cj0 (fun n qr s=>CqM n qr/\XJ hd l n qr s) (fun x s=>x= .exit 0/\XJ hd l l.length (zgP hd l) s) ?_ ?_ _ ?_ ?_
 .rintro n qr s hn - ⟨hM,A,C,⟨h1,h4,h5,h8,h9,h10,g0,g1⟩,hR,hc2⟩;have hw:=zaq n (by omega);have hx:l[n]? =some l[n]:=Z0 hn;have hqn:=hq _ (Z2 hn);generalize hA:l[n]=c at hx hqn|-;have hM2:=zDr (hd:=hd) hM hqn;have hrd:=zzQ hR;have n0:¬(0=s.c):=by omega
  have n1:¬(1=s.c):=by omega
  have n1':¬(s.c=1):=by omega
  simp[rW,h1,h4,h5,h8,h9,h10,g0,g1,hn,zlT,hx,hA,cqE,zcH,zcI,zgs,zfT,n0,n1,n1'];refine za0 ?_;simp[rW,h1,h4,h5,h8,h9,h10,g0,g1,hn,zlT,hx,hA,cqE,zcH,zcI,zgs,zfT,n0,n1,n1',hrd.ca,hrd.cc];refine zxO rfl rfl (zKu c (hqn.m.g (by omega))) ?_;rintro d H c' lw mx ⟨hf,dA,dC,rfl,⟨xs,hAs,hCd,hdj⟩,hCs⟩ hcc hcm;simp only[rG]at hf hAs hCd hCs hcc hcm;have e1:=hf 1 (by omega);have ec:=hf s.c (by omega);simp[Vse.T.zab,n1,g1]at e1 ec;have hlow:∀x,x<s.c->H.get x=s.h.get x:=fun x hx=>by
   have nx:¬x=s.c:=by omega
   rw[hf x (by omega)];simp[Vse.T.zab,nx]
  have hqm:=hM.g (show n<=4 by omega);have hcl:=ztL hqn.m;have hrl:=ztL hM;simp[rW,h1,h4,h5,h8,h9,h10,g0,g1,n1,e1,ec];refine zxO rfl rfl (eff25 (lo:=s.c+1+1+1) (A:=qr) (q:=cop c) (xs:=xs) ?_ ?_ hqm.toCqSm (zr5 (hqn.m.g (by omega)).toCqSm) ?_ ?_ ?_ hqn.vl) ?_
  .simp only[rG];omega
  .refine hrd.up (fun x hx=> ?_) ?_
   .simp only[rG];exact hlow x hx
   .simp only[rG];omega
  .refine⟨hAs.up (fun x h1 h2=> ?_) (Z3 _) ?_,zhs hCs (fun x h1 h2=> ?_) (Z3 _) ?_,hdj⟩
   .simp only[rG]
   .simp only[rG];omega
   .simp only[rG]
   .simp only[rG];omega
  .rcases hAs.gr with⟨-,h2⟩ |⟨id,ro,h2,-⟩
   .have h3:(List.zipWith atR (cop c).as xs).length=0:=by rw[h2];rfl
    rw[List.length_zipWith,hAs.ln,Nat.min_self]at h3;exact absurd (Z18.1 h3) hqn.ne
   .rw[h2];rfl
  .show(vrs qr).length+(vrs c).length+hd.length+(vrs c).length<98;omega
  rintro d2 H2 c2 lw2 mx2 ⟨rfl,hf2,hAs2,hCs2,hdj2⟩ hcc2 hcm2;simp only[rG]at hf2 hAs2 hCs2 hcc2 hcm2;have e12:=hf2 1 (by omega);have ec2:=hf2 s.c (by omega);rw[e1]at e12;rw[ec]at ec2;have hlow2:∀x,x<s.c->H2.get x=s.h.get x:=fun x hx=>(hf2 x (by omega)).trans (hlow x hx)
  have ca:=zbO hAs2.gr;have cc:=zhr (zfU hCs2);obtain⟨rd1,hel1⟩ :=zK5 (zbr (h':=H2.set s.c (.arr 2 0 [[dA,dC]])) hAs2.gr (Z3 _) fun x h1 h2=>by
   have:¬x=s.c:=by omega
   simp[Vse.T.zab,this])
  simp[rW,h1,h4,h5,h8,h9,h10,g0,g1,n1,n1',e12,ec2,ca,cc,hel1];obtain⟨xr,hAr,hCr,hYr⟩ :=hR;have hAs3:AsD H2 (s.c+1+1+1) (mx+1) dA (c.as.map (rnA (apN (vrs qr) (vrs c) hd))) xs:=hAs2;have hCs3:CsE H2 (s.c+1+1+1) (mx+1) dC ⟨c.as,c.cs.map (rnK (apN (vrs qr) (vrs c) hd)),c.ne,false⟩ :=hCs2;change _/\oB (zbj 3 48 (H2.set s.c (Ob.arr 2 0 [[dA,dC]])).get (mx2+1) A (List.zipWith atR (c.as.map (rnA (apN (vrs qr) (vrs c) hd))) xs) rd1) _;have ecj:cjS hd qr c=⟨qr.as++c.as.map (rnA (apN (vrs qr) (vrs c) hd)),qr.cs++c.cs.map (rnK (apN (vrs qr) (vrs c) hd)),false,false⟩ :=rfl;clear hAs2 hCs2 hel1;generalize apN (vrs qr) (vrs c) hd=N at*;generalize hlb:c.as.map (rnA N)=lb at*;generalize hkb:c.cs.map (rnK N)=kb at*;have hAo:∀x,A.oid=some x->2<=x/\x<s.c:=fun x hx=>zeb hAr.gr hx
  have hCo:∀x,C.oid=some x->2<=x/\x<s.c:=fun x hx=>zeb hCr hx
  have hl1:(List.zipWith atR qr.as xr).length<=1000:=by rw[List.length_zipWith];have:=hM.la;omega
  have hl2:(List.zipWith atR lb xs).length<=1000:=by
   have:=hM2.la;rw[ecj]at this;simp only[Z17]at this;rw[List.length_zipWith];omega
  have hl3:(qr.cs.map cmD).length+(kb.map cmD).length<=1000:=by
   have:=hM2.lc;rw[ecj]at this;simp only[Z17]at this;simp only[Z19];omega
  refine⟨by omega,?_⟩;refine zfC (zbr (h':=H2.set s.c (.arr 2 0 [[dA,dC]])) (c':=mx2+1) hAr.gr (by omega) fun x h1 h2=> ?_) (by omega) (by omega) (by omega) ?_
  .have nx:¬x=s.c:=by omega
   simp[Vse.T.zab,nx,hlow2 x h2]
  intro r hr1 hr2 hr3 hr4 hr5;have hr6:∀x,x<mx2+1->x≠s.c->A.oid≠some x->(wrT (H2.set s.c (.arr 2 0 [[dA,dC]])) r.wr).get x=H2.get x:=fun x h1 h2 h3=>by
   rw[hr4 x h1 h3];simp[Vse.T.zab,h2]
  have hP1:(wrT (H2.set s.c (.arr 2 0 [[dA,dC]])) r.wr).get 1=some (.arr 2 0 [[A,C]]):=by
   rw[hr6 1 (by omega) n1 (zbN hAr.gr (by omega))];exact e12
  have hPc:(wrT (H2.set s.c (.arr 2 0 [[dA,dC]])) r.wr).get s.c=some (.arr 2 0 [[dA,dC]]):=by
   rw[hr4 s.c (by omega) fun e=>by have:=hAo _ e;omega];simp[Vse.T.zab]
  refine⟨hr1,?_⟩;obtain⟨rd2,hel2⟩ :=zKb (zr8 (h':=(wrT (H2.set s.c (.arr 2 0 [[dA,dC]])) r.wr).set 1 (.arr 2 0 [[r.d,C]])) hCs3 fun Y hY=>by
   have h1:=zuv (zfU hCs3) hY;have nx:¬Y=1:=by omega
   simp only[Vse.T.zab,if_neg nx];exact hr6 Y (by omega) (by omega) fun e=>by have:=hAo _ e;omega)
  simp[rW,hP1,hPc,zbO hr2,n1',hel2];refine⟨by omega,?_⟩;refine zfC (h:=(wrT (H2.set s.c (.arr 2 0 [[dA,dC]])) r.wr).set 1 (.arr 2 0 [[r.d,C]])) (lo:=2) (zmG hCr (fun Y hY=> ?_) (by omega)) (by omega) (by omega) (by omega) ?_
  .have h1:=hCo _ hY;have nx:¬Y=1:=by omega
   simp only[Vse.T.zab,if_neg nx];rw[hr6 Y (by omega) (by omega) (hYr Y hY).2,hlow2 Y h1.2]
  intro r2 hq1 hq2 hq3 hq4 hq5;have hq6:∀x,x<r.c->x≠1->C.oid≠some x->(wrT ((wrT (H2.set s.c (.arr 2 0 [[dA,dC]])) r.wr).set 1 (.arr 2 0 [[r.d,C]])) r2.wr).get x=(wrT (H2.set s.c (.arr 2 0 [[dA,dC]])) r.wr).get x:=fun x h1 h2 h3=>by
   rw[hq4 x h1 h3];simp[Vse.T.zab,h2]
  have hP2:(wrT ((wrT (H2.set s.c (.arr 2 0 [[dA,dC]])) r.wr).set 1 (.arr 2 0 [[r.d,C]])) r2.wr).get 1=some (.arr 2 0 [[r.d,C]]):=by
   rw[hq4 1 (by omega) (zbN hCr (by omega))];simp[Vse.T.zab]
  have hP0:(wrT ((wrT (H2.set s.c (.arr 2 0 [[dA,dC]])) r.wr).set 1 (.arr 2 0 [[r.d,C]])) r2.wr).get 0=some (.arr 2 0 [[.f .nils,.f .nils]]):=by
   rw[hq6 0 (by omega) (by omega) (zbN hCr (by omega)),hr6 0 (by omega) n0 (zbN hAr.gr (by omega)),hlow2 0 (by omega)];exact g0
  refine⟨hq1,?_⟩;simp[rW,hP2,zbO hq2];refine⟨by omega,hM2,?_⟩;rw[ecj];refine⟨r.d,r2.d,?_,⟨xr++xs,⟨?_,?_,?_,?_,?_,?_⟩,?_,?_⟩,?_⟩
  .simp[rW,h1,h4,h5,h8,h9,h10,hP0,hw]
  .simp[hAr.ln,hAs3.ln]
  .refine List.nodup_append.2 ⟨hAr.nd,hAs3.nd,fun x hx y hy=> ?_⟩;have h1:=hAr.rg x hx;have h2:=hAs3.rg y hy;omega
  .intro x hx;simp[rW,];rcases Z5.1 hx with hx|hx
   .have:=hAr.rg x hx;omega
   .have:=hAs3.rg x hx;omega
  .intro k hk hkx;simp[rW,]
   by_cases hkn:k<qr.as.length
   .have hkr:k<xr.length:=by rw[hAr.ln];exact hkn
    have h1:=hAr.rg _ (Z2 hkr);have h2:=hAr.rw k hkn hkr;have h3:¬(xr[k]=1):=by omega
    have h4:C.oid≠some xr[k]:=fun e=>(hYr _ e).1 (Z2 hkr)
    have h5:A.oid≠some xr[k]:=fun e=>hAr.oi _ e (Z2 hkr)
    rw[List.getElem_append_left hkr,List.getElem_append_left hkn,if_neg h3,hq6 _ (by omega) h3 h4,hr6 _ (by omega) (by omega) h5,hlow2 _ h1.2];exact h2
   .have hk2:k - qr.as.length<lb.length:=by simp at hk;omega
    have hkr:k - qr.as.length<xs.length:=by rw[hAs3.ln];exact hk2
    have h1:=hAs3.rg _ (Z2 hkr);have h2:=hAs3.rw _ hk2 hkr;have h3:¬(xs[k - qr.as.length]=1):=by omega
    have h4:C.oid≠some xs[k - qr.as.length]:=fun e=>by have:=hCo _ e;omega
    have h5:A.oid≠some xs[k - qr.as.length]:=fun e=>by have:=hAo _ e;omega
    have e1:(xr++xs)[k]=xs[k - qr.as.length]:=by
     rw[List.getElem_append_right (by rw[hAr.ln];omega)];simp only[hAr.ln]
    have e2:(qr.as++lb)[k]=lb[k - qr.as.length]:=List.getElem_append_right (by omega);rw[e1,e2,if_neg h3,hq6 _ (by omega) h3 h4,hr6 _ (by omega) (by omega) h5];exact h2
  .rw[zCG hAr.ln];refine zmG hr2 (fun Y hY=> ?_) ?_
   .have h1:=zeb hr2 hY;have h2:C.oid≠some Y:=fun e=>by
     have h3:=hCo _ e;rcases hr5 Y hY with h4|h4
     .omega
     .exact (hYr Y e).2 h4
    have nx:¬Y=1:=by omega
    simp[rW,nx];exact hq6 Y (by omega) nx h2
   .simp[rW,];exact hq3
  .intro B hB hm;rcases hr5 B hB with h4|h4
   .rcases Z5.1 hm with hm|hm
    .have:=hAr.rg B hm;omega
    .have:=hAs3.rg B hm;omega
   .rcases Z5.1 hm with hm|hm
    .exact hAr.oi B h4 hm
    .have:=hAs3.rg B hm;have:=hAo _ h4;omega
  .have e9:(qr.cs++kb).map cmD=qr.cs.map cmD++kb.map cmD:=Z21;rw[e9];refine zmG hq2 (fun Y hY=> ?_) ?_
   .have h1:=zeb hq2 hY;have nx:¬Y=1:=by omega
    simp[rW,nx]
   .simp[rW,]
  .intro Y hY;rcases hq5 Y hY with h4|h4
   .refine⟨fun hm=> ?_,fun e=>by have:=zeb hr2 e;omega⟩;rcases Z5.1 hm with hm|hm
    .have:=hAr.rg Y hm;omega
    .have:=hAs3.rg Y hm;omega
   .have h5:=hCo _ h4;refine⟨fun hm=> ?_,fun e=> ?_⟩
    .rcases Z5.1 hm with hm|hm
     .exact (hYr Y h4).1 hm
     .have:=hAs3.rg Y hm;omega
    .rcases hr5 Y e with h6|h6
     .omega
     .exact (hYr Y h4).2 h6
  .simp[rW,];omega
 .rintro s ⟨hM,A,C,⟨h1,h4,h5,h8,h9,h10,g0,g1⟩,hR,hc2⟩;simp[rW,h1,h4,h5,h8,h9,h10,g0,g1];refine⟨A,C,?_,hR,hc2⟩;simp[rW,h1,h4,h5,h8,h9,h10,g0,g1]
 .refine⟨zDq,.f .nils,.f .nils,?_,⟨[],⟨rfl,List.nodup_nil,by simp,fun k hk=>by simp[cj0]at hk,.inl ⟨rfl,rfl⟩,by simp[D.oid]⟩,.inl ⟨rfl,rfl⟩,by simp[D.oid]⟩,?_⟩
  .simp[rW,]
  .simp[rW,]
 .rintro x s ⟨rfl,A,C,⟨h1,h4,h5,h8,h9,h10,g0,g1⟩,hR,hc2⟩;have hrd:=zzQ hR;obtain⟨xs,hA,hC,hY⟩ :=hR.up (h':=s.h.set 0 (.arr 2 0 [[A,C]])) (c':=s.c) (fun x h1 h2=>by
   have nx:¬x=0:=by omega
   simp[Vse.T.zab,nx]) (Z3 _)
  obtain⟨rd1,f1⟩ :=zFn hA fun a ha=>((zr4 (hd:=hd) hq).al a ha).2.2
  obtain⟨rd2,f2⟩ :=zBr hC;have hfl:=zyI (hd:=hd) l cj0 rfl rfl;change (zgP hd l).ne=false/\(zgP hd l).na=false at hfl;have eA:za1 (zgP hd l)=slc 3 ((zgP hd l).as.map atF):=by unfold za1 Sm.asF;rw[hfl.2];simp
  have eC:zaX (zgP hd l)=slc 9 ((zgP hd l).cs.map cmF):=by unfold zaX csF;rw[hfl.1];simp
  simp[rW,h1,h4,h5,h8,h9,h10,g0,g1,hrd.ca,hrd.cc,f1,f2,cqE,eA,eC];omega
end Go.Proofs.YtlnfpifjdcmmlaaGreatDoor
end
