/- The law InclexclRedundant. -/
import Derived.Test.YtflgmemhalhdbaaGreatDoorPq
import Derived.KernelRfl
import Derived.IntWalk
set_option linter.all false
set_option maxRecDepth 100000
set_option maxHeartbeats 4000000
noncomputable section
section
namespace Go.Proofs.YtflgmemhalhdbaaGreatDoor
open Go Go.Vse Go.Vse.Sm
def znn(l:List CQ):(D.f (qsF l)).cells=some [.f (qsF l)]:=zih _ _
def qs_tk{l:List CQ}(h:2<=l.length)(h':Nat->Option Ob):sliceB 2 h' (.f (qsF l)) none (some (.f (.i .i64 2))) none=some (.f (qsF (l.take 2)),[]):=by
 match l,h with
 |a::b::r,_=>simp[qsF,slc,sliceB,za8,zbR]
def el_qs(h:Nat->Option Ob)(l:List CQ):elemsOf 2 h (.f (qsF l))=some (zca l,[]):=by
 cases l with
 |nil=>rfl
 |cons a l=>simp[qsF,slc,elemsOf,zca,cqE,Z68]
def zLe{l:List CQ}{n:Nat}(hn:n<l.length):(zca l)[n]? =some [D.f (zaS l[n]),D.f (zaQ l[n])]:=by simp[zca,hn]
def zLh{l:List CQ}{n:Nat}(hn:n<l.length)(h:n< (zca l).length):(zca l)[n]=[D.f (zaS l[n]),D.f (zaQ l[n])]:=by simp[zca]
def zEb:C:=(.seq (oD [oM 48 6,oF 49 1 4,oK 50 1 49,oR 51 (.len (.t 50)),oR 52 (.bin .lss (.t 48) (.t 51))] 52 .skip (.exit 0))
 (.seq (.blk 1 (.reg [oM 55 5,oF 56 1 4,oK 57 1 56,oM 58 6,oI 59 2 57 58,oF 60 0 59,oK 61 1 60,oR 62 (.len (.t 61)),oR 63 (.bin .add (.t 55) (.t 62)),oM 5 63]))
 (.reg [oM 53 6,oR 54 (.bin .add (.t 53) (.k (.i .i64 1))),oM 6 54])))
def zyQ:C:=(.seq (oD [oM 111 15,oM 112 10,oR 113 (.len (.t 112)),oR 114 (.bin .lss (.t 111) (.t 113))] 114 .skip (.exit 4))
 (.seq (.blk 5 (.dreg [(oM 117 14,0),(oM 118 117,0),(oH 119 118 (.mv (.t 8)),0),(oH 120 118 (.mv (.t 13)),4),(oH 121 118 (.ia 1 (.t 119) (.t 120)),0),(oH 122 118 (.ld false 1 (.t 121)),0),(oH 123 118 (.mv (.t 11)),60),(oH 124 118 (.mv (.t 15)),124),(oH 125 118 (.ia 1 (.t 123) (.t 124)),60),(oH 126 118 (.ld false 1 (.t 125)),60),(oH 127 118 (.bin .eql (.t 122) (.t 126)),0),(oH 128 118 (.mv (.t 127)),0),(oG 129 128 (.mv (.t 7)),0),(oG 130 128 (.mv (.t 13)),4096),(oG 131 128 (.ia 2 (.t 129) (.t 130)),0),(oG 132 128 (.ld true 2 (.t 131)),0),(oG 133 128 (.callp 11 [(.t 132)]),0),(oG 134 128 (.mv (.t 10)),126976),(oG 135 128 (.mv (.t 15)),258048),(oG 136 128 (.ia 2 (.t 134) (.t 135)),126976),(oG 137 128 (.ld true 2 (.t 136)),126976),(oG 138 128 (.callp 11 [(.t 137)]),0),(oG 139 128 (.callp 10 [(.t 133),(.t 138)]),0),(oH 140 118 (.pick (.t 128) (.t 139) (.k (.b false))),0),(oR 141 (.pick (.t 118) (.k (.b true)) (.t 140)),0),(oM 14 141,0)]))
 (.reg [oM 115 15,oR 116 (.bin .add (.t 115) (.k (.i .i64 1))),oM 15 116])))
def zyP:C:=(.seq (oD [oM 105 13,oM 106 7,oR 107 (.len (.t 106)),oR 108 (.bin .lss (.t 105) (.t 107))] 108 .skip (.exit 2))
 (.seq (.blk 3 (oZ [oR 14 (.mv (.k (.b false)))]
 (.seq (oZ [oR 15 (.mv (.k (.i .i64 0)))]
 (.blk 4 (.loop zyQ)))
 (oD [oM 142 14,oR 143 (.un .not (.t 142))] 143 (oZ [oR 2 (.mv (.k (.b false)))]
 .ret) .skip))))
 (.reg [oM 109 13,oR 110 (.bin .add (.t 109) (.k (.i .i64 1))),oM 13 110])))
def zEc:C:=(.seq (oZ [oR 13 (.mv (.k (.i .i64 0)))]
 (.blk 2 (.loop zyP)))
 (oZ [oR 144 (.callp 12 []),oM 2 144]
 .ret))
def ztP:C:=(.seq (oD [oM 78 9,oR 79 (.bin .neq (.t 78) (.k (.i .i64 0))),oM 80 79,oH 81 80 (.mv (.t 12)),oH 82 80 (.bin .neq (.t 81) (.k (.i .i64 0))),oR 83 (.pick (.t 80) (.k (.b true)) (.t 82)),oM 84 83,oH 85 84 (.mv (.t 7)),oH 86 84 (.len (.t 85)),oH 87 84 (.mv (.t 10)),oH 88 84 (.len (.t 87)),oH 89 84 (.bin .neq (.t 86) (.t 88)),oR 90 (.pick (.t 84) (.k (.b true)) (.t 89)),oM 91 90,oH 92 91 (.mv (.t 8)),oH 93 91 (.len (.t 92)),oH 94 91 (.mv (.t 7)),oH 95 91 (.len (.t 94)),oH 96 91 (.bin .neq (.t 93) (.t 95)),oR 97 (.pick (.t 91) (.k (.b true)) (.t 96)),oM 98 97,oH 99 98 (.mv (.t 11)),oH 100 98 (.len (.t 99)),oH 101 98 (.mv (.t 10)),oH 102 98 (.len (.t 101)),oH 103 98 (.bin .neq (.t 100) (.t 102)),oR 104 (.pick (.t 98) (.k (.b true)) (.t 103))] 104 (oZ [oR 2 (.mv (.k (.b false)))]
 .ret) .skip)
 zEc)
def b3_R:C:=(.seq (oD [oM 64 5,oR 65 (.bin .gtr (.t 64) (.k (.i .i64 8)))] 65 (oZ [oR 2 (.mv (.k (.b true)))]
 .ret) .skip)
 (oZ [oL 67 2 3,oR 68 (.callp 9 [(.t 67)]),oM 66 68,oR 69 (.ext (.t 66) 0),oR 70 (.ext (.t 66) 1),oR 71 (.ext (.t 66) 2),oM 7 69,oM 8 70,oM 9 71]
 (oZ [oL 73 2 4,oR 74 (.callp 9 [(.t 73)]),oM 72 74,oR 75 (.ext (.t 72) 0),oR 76 (.ext (.t 72) 1),oR 77 (.ext (.t 72) 2),oM 10 75,oM 11 76,oM 12 77]
 ztP)))
def LX(L:List CQ)(d:CQ)(s:St):Prop:=∃Y ro,(s.tm.get 2=some (.f (.b false))/\s.tm.get 3=some (.ptr 0 2 0 0)/\s.tm.get 4=some (.ptr 1 2 0 0)/\s.h.get 0=some (.arr 2 0 [[.f .nils,.f (qsF L)]])/\s.h.get 1=some (.arr 2 0 [[.f .nils,.sl Y 0 (L.length+1) 2 (L.length+1) false]]))/\s.h.get Y=some (.arr 2 ro (zca (L++[d])))/\ro<=L.length+1/\2<=Y/\Y<s.c
theorem zJ1{L:List CQ}{d:CQ}(hL:L.length<=2)(hs:∀c∈L++[d],c.as.length<=12){K:Ex->St->Prop}(s:St)(h1:LX L d s)(h2:s.tm.get 5=some (.f (.i .i64 0))/\s.tm.get 6=some (.f (.i .i64 0)))
  (hK:∀s (m:Nat),LX L d s->s.tm.get 5=some (.f (.i .i64 (m:Nat)))->m<=36->K (.exit 0) s):WL pr zEb s K:=by
 refine zdo (L.length+1) (fun n s=>∃m:Nat,m<=12*n/\LX L d s/\(s.tm.get 5=some (.f (.i .i64 (m:Nat)))/\s.tm.get 6=some (.f (.i .i64 (n:Nat))))) (fun e s=>e= .exit 0/\∃m:Nat,m<=36/\LX L d s/\s.tm.get 5=some (.f (.i .i64 (m:Nat)))) ?_ ?_ s ⟨0,by omega,h1,h2⟩ (by rintro e s ⟨rfl,m,a,b,c⟩;exact hK s m b c a)
 .clear h1 h2 hK s;rintro n s hn ⟨m,hm,⟨Y,ro,⟨h2,h3,h4,g0,g1⟩,gY,hro,hY2,hYc⟩,⟨h5,h6⟩⟩;unfold zEb;simp only[rU];have hw:=zao n (by omega);have hn2:n< (L++[d]).length:=by simp;omega
  have e1:=zLe hn2;have e2:=zLh hn2;have e3:n< (zca (L++[d])).length:=by rw[zcm];exact hn2
  have hc:=hs _ (Z2 hn2);generalize hA:(L++[d])[n]=c at e1 e2 hc;have hwm:IntKind.i64.wrap ((m:Int)+c.as.length)=((m+c.as.length:Nat):Int):=wrap_i64 _ (by omega) (by omega);have hni:(n:Int)<L.length+1:=by omega
  simp[rW,h2,h3,h4,g0,g1,h5,h6,gY,hn,hni,e1,e2,e3,zeu,hw,hwm];refine⟨m+c.as.length,by omega,⟨Y,ro,?_,?_,hro,hY2,?_⟩,?_⟩
  .simp[rW,h2,h3,h4,g0,g1]
  .simp[rW,gY]
  .simp[rW,hYc]
  .simp[rW,hwm]
 .rintro s ⟨m,hm,⟨Y,ro,⟨h2,h3,h4,g0,g1⟩,gY,hro,hY2,hYc⟩,⟨h5,h6⟩⟩;unfold zEb;simp only[rU];simp[rW,h2,h3,h4,g0,g1,h5,h6];refine⟨m,by omega,⟨Y,ro,?_,?_,hro,hY2,?_⟩,?_⟩
  .simp[rW,h2,h3,h4,g0,g1]
  .simp[rW,gY]
  .simp[rW,hYc]
  .simp[rW,h5,h6]
def LT(T1 T2:List (CQ×Int))(s:St):Prop:=s.tm.get 2=some (.f (.b false))/\s.tm.get 7=some (.f (qsF (T1.map (·.1))))/\s.tm.get 8=some (.f (zF (T1.map (·.2))))/\s.tm.get 10=some (.f (qsF (T2.map (·.1))))/\s.tm.get 11=some (.f (zF (T2.map (·.2))))
def mtQ(p q:CQ×Int):Bool:=decide (p.2=q.2)&&eqR [] p.1 q.1
def fdQ(T2:List (CQ×Int))(p:CQ×Int)(k:Nat):Bool:=(T2.take k).any (mtQ p)
def fdQ_s{T2:List (CQ×Int)}{p:CQ×Int}{k:Nat}(hk:k<T2.length):fdQ T2 p (k+1)=(fdQ T2 p k||mtQ p T2[k]):=by
 unfold fdQ;rw[Z7 hk,List.any_append];simp
theorem wl3_4{T1 T2:List (CQ×Int)}(hs1:∀p∈T1,CqSm p.1)(hs2:∀p∈T2,CqSm p.1)(hl1:T1.length<=8)(hl2:T2.length<=8){n:Nat}(hn:n<T1.length){K:Ex->St->Prop}(s:St)(a1:LT T1 T2 s)(a2:s.tm.get 13=some (.f (.i .i64 (n:Nat)))/\s.tm.get 14=some (.f (.b false))/\s.tm.get 15=some (.f (.i .i64 0)))
  (hK:∀s,LT T1 T2 s->(s.tm.get 13=some (.f (.i .i64 (n:Nat)))/\s.tm.get 14=some (.f (.b (fdQ T2 T1[n] T2.length))))->K (.exit 4) s):WL pr zyQ s K:=by
 refine zdo T2.length (fun k s=>LT T1 T2 s/\(s.tm.get 13=some (.f (.i .i64 (n:Nat)))/\s.tm.get 14=some (.f (.b (fdQ T2 T1[n] k)))/\s.tm.get 15=some (.f (.i .i64 (k:Nat))))) (fun e s=>e= .exit 4/\LT T1 T2 s/\(s.tm.get 13=some (.f (.i .i64 (n:Nat)))/\s.tm.get 14=some (.f (.b (fdQ T2 T1[n] T2.length))))) ?_ ?_ s ⟨a1,a2⟩ (by rintro e s ⟨rfl,a,b⟩;exact hK s a b)
 .clear a1 a2 hK s;rintro k s hk ⟨⟨h2,h7,h8,h10,h11⟩,⟨h13,h14,h15⟩⟩;unfold zyQ;simp only[rU];have hw:=zao k (by omega);have hp:=hs1 _ (Z2 hn);have hq:=hs2 _ (Z2 hk);have xn:T1[n]? =some T1[n]:=Z0 hn;have xk:T2[k]? =some T2[k]:=Z0 hk;have hst:=fdQ_s (p:=T1[n]) hk;generalize hA:T1[n]=p at hp xn hst h14;generalize hB:T2[k]=q at hq xk hst;obtain⟨c,z⟩ :=p;obtain⟨d,w⟩ :=q;simp only at hp hq;have q1:=fun k=>zav (k:=k) (zHH c)
  have q2:=fun k=>zav (k:=k) (zHH d)
  have q3:=fun k=>zav (k:=k) (zHD [] [] [c] [d] (by simp) (by simp) ⟨by simpa using hp,by simp⟩ ⟨by simpa using hq,by simp⟩)
  rw[show(zj2 [] [] [c] [d]&&zj2 [] [] [d] [c])=eqR [] c d from rfl,(show zaM []= .nils from rfl)]at q3;simp only[zvo,cqE]at q1 q2 q3;have hmt:mtQ (c,z) (d,w)=(decide (z=w)&&eqR [] c d):=rfl;rw[hmt]at hst;clear hmt;unfold LT;generalize eqR [] c d=bq at q3 hst;generalize fdQ T2 (c,z) k=b0 at hst h14;cases b0 with
  |true=>
   simp -implicitDefEqProofs [rW,h2,h7,h8,h10,h11,h13,h14,h15,hk,zdf];refine zaF ?_;simp -implicitDefEqProofs [rW,h2,h7,h8,h10,h11,h13,h14,h15,hw,hA,hst]
  |false=>
   by_cases hz:z=w
   .subst hz;simp -implicitDefEqProofs [rW,h2,h7,h8,h10,h11,h13,h14,h15,hk,zdf];refine zaF ?_;simp -implicitDefEqProofs [rW,h2,h7,h8,h10,h11,h13,h14,h15,hw,hn,hk,ztp,zgC,xn,xk,hA,hB,hst,q1,q2,q3,cqE,zbO,zbQ]
   .simp -implicitDefEqProofs [rW,h2,h7,h8,h10,h11,h13,h14,h15,hk,zdf];refine zaF ?_;simp -implicitDefEqProofs [rW,h2,h7,h8,h10,h11,h13,h14,h15,hw,hn,hk,ztp,zgC,xn,xk,hA,hB,hz,hst]
 .rintro s ⟨⟨h2,h7,h8,h10,h11⟩,⟨h13,h14,h15⟩⟩;unfold zyQ;simp only[rU];simp -implicitDefEqProofs [rW,h2,h7,h8,h10,h11,h13,h14,h15,zdf];unfold LT;simp -implicitDefEqProofs [rW,h2,h7,h8,h10,h11]
theorem wl3_2{T1 T2:List (CQ×Int)}(hs1:∀p∈T1,CqSm p.1)(hs2:∀p∈T2,CqSm p.1)(hl1:T1.length<=8)(hl2:T2.length<=8)(hall:∀p∈T1,∃q∈T2,p.2=q.2/\eqR [] p.1 q.1=true){K:Ex->St->Prop}(s:St)(a1:LT T1 T2 s)(a2:s.tm.get 13=some (.f (.i .i64 0)))
  (hK:∀s,LT T1 T2 s->K (.exit 2) s):WL pr zyP s K:=by
 refine zdo T1.length (fun n s=>LT T1 T2 s/\s.tm.get 13=some (.f (.i .i64 (n:Nat)))) (fun e s=>e= .exit 2/\LT T1 T2 s) ?_ ?_ s ⟨a1,a2⟩ (by rintro e s ⟨rfl,a⟩;exact hK s a)
 .clear a1 a2 hK s;rintro n s hn ⟨⟨h2,h7,h8,h10,h11⟩,h13⟩;unfold zyP;simp only[rU];have hw:=zao n (by omega);simp -implicitDefEqProofs [rW,h2,h7,h8,h10,h11,h13,hn,zdf];refine wl3_4 hs1 hs2 hl1 hl2 hn _ ?_ ?_ ?_
  .unfold LT;simp -implicitDefEqProofs [rW,h2,h7,h8,h10,h11]
  .simp -implicitDefEqProofs [rW,h13]
  rintro s ⟨h2,h7,h8,h10,h11⟩ ⟨h13,h14⟩;rw[zfQ,Z52 rfl,zgs];have e:fdQ T2 T1[n] T2.length=true:=by
   obtain⟨q,hq,e1,e2⟩ :=hall _ (Z2 hn);unfold fdQ;rw[Z8];exact Z31.2 ⟨q,hq,by simp[mtQ,e1,e2]⟩
  rw[e]at h14;simp -implicitDefEqProofs [rW,h2,h7,h8,h10,h11,h13,h14,hw];unfold LT;simp -implicitDefEqProofs [rW,h2,h7,h8,h10,h11]
 .rintro s ⟨⟨h2,h7,h8,h10,h11⟩,h13⟩;unfold zyP;simp only[rU];simp -implicitDefEqProofs [rW,h2,h7,h8,h10,h11,h13,zdf];unfold LT;simp -implicitDefEqProofs [rW,h2,h7,h8,h10,h11]
def LS(T1 T2:List (CQ×Int))(s:St):Prop:=LT T1 T2 s/\(s.tm.get 9=some (.f (.i .i64 0))/\s.tm.get 12=some (.f (.i .i64 0)))
def r3T{T1 T2:List (CQ×Int)}(hs1:∀p∈T1,CqSm p.1)(hs2:∀p∈T2,CqSm p.1)(hl1:T1.length<=8)(hl2:T2.length<=8)(hall:∀p∈T1,∃q∈T2,p.2=q.2/\eqR [] p.1 q.1=true){K:Ex->St->Prop}(s:St)(a1:LT T1 T2 s)(hK:∀s,s.tm.get 2=some (.f (.b true))->K .ret s):wpC pr zEc s K:=by
 obtain⟨h2,h7,h8,h10,h11⟩ :=a1;have q12:=fun k=>zav (k:=k) zHI
 unfold zEc;simp only[rU];simp -implicitDefEqProofs [rW,h2,h7,h8,h10,h11];refine wl3_2 hs1 hs2 hl1 hl2 hall _ ?_ ?_ ?_
 .unfold LT;simp -implicitDefEqProofs [rW,h2,h7,h8,h10,h11]
 .simp -implicitDefEqProofs [rW,]
 rintro s ⟨h2,h7,h8,h10,h11⟩;rw[zfQ,Z52 rfl,zgs];simp -implicitDefEqProofs [rW,q12];exact hK _ (by simp -implicitDefEqProofs [rW,])
def r3S{T1 T2:List (CQ×Int)}(hs1:∀p∈T1,CqSm p.1)(hs2:∀p∈T2,CqSm p.1)(hl1:T1.length<=8)(hl2:T2.length<=8)(hlen:T1.length=T2.length)(hall:∀p∈T1,∃q∈T2,p.2=q.2/\eqR [] p.1 q.1=true){K:Ex->St->Prop}(s:St)(a1:LS T1 T2 s)(hK:∀s,s.tm.get 2=some (.f (.b true))->K .ret s):wpC pr ztP s K:=by
 obtain⟨⟨h2,h7,h8,h10,h11⟩,⟨h9,h12⟩⟩ :=a1;unfold ztP;simp only[rU];simp -implicitDefEqProofs [rW,h2,h7,h8,h10,h11,h9,h12,zdf,zwd,hlen];refine r3T hs1 hs2 hl1 hl2 hall _ ?_ hK;unfold LT;simp -implicitDefEqProofs [rW,h2,h7,h8,h10,h11]
structure TW(s:St)(Q:Ex->St->Prop):Prop where
 out:wpC pr ztP s Q
def zxG{s:St}{Q:Ex->St->Prop}:wpC pr ztP s Q↔TW s Q:=⟨fun h=>⟨h⟩,fun h=>h.out⟩
def r3W{T1 T2:List (CQ×Int)}(hs1:∀p∈T1,CqSm p.1)(hs2:∀p∈T2,CqSm p.1)(hl1:T1.length<=8)(hl2:T2.length<=8)(hlen:T1.length=T2.length)(hall:∀p∈T1,∃q∈T2,p.2=q.2/\eqR [] p.1 q.1=true){K:Ex->St->Prop}(s:St)(a1:LS T1 T2 s)(hK:∀s,s.tm.get 2=some (.f (.b true))->K .ret s):TW s K:=⟨r3S hs1 hs2 hl1 hl2 hlen hall s a1 hK⟩
theorem r3R{L:List CQ}{d:CQ}(hL:L.length<=2)(ho1:OkL L)(ho2:OkL (L++[d]))(hlen:(tms (zcz [] L).1 (zcz [] L).2).length=(tms (zcz [] (L++[d])).1 (zcz [] (L++[d])).2).length)
  (hall:∀p∈tms (zcz [] L).1 (zcz [] L).2,∃q∈tms (zcz [] (L++[d])).1 (zcz [] (L++[d])).2,p.2=q.2/\eqR [] p.1 q.1=true){K:Ex->St->Prop}(s:St)(a1:LX L d s){m:Nat}(h5:s.tm.get 5=some (.f (.i .i64 (m:Nat))))
  (hK:∀s,s.tm.get 2=some (.f (.b true))->K .ret s):wpC pr b3_R s K:=by
 obtain⟨Y,ro,⟨h2,h3,h4,g0,g1⟩,gY,hro,hY2,hYc⟩ :=a1;have q1:=fun k=>zav (k:=k) (ans9 [] L (by simp) ho1)
 have q2:=fun k=>zav (k:=k) (ans9 [] (L++[d]) (by simp) ho2)
 have q12:=fun k=>zav (k:=k) zHI
 obtain⟨t1,t2⟩ :=zDz ho1;obtain⟨t3,t4⟩ :=zDz ho2;rw[(show zaM []= .nils from rfl)]at q1 q2;generalize tms (zcz [] L).1 (zcz [] L).2=T1 at*;generalize tms (zcz [] (L++[d])).1 (zcz [] (L++[d])).2=T2 at*;have hqn:F.sl 2 (L.map cqF++[cqF d])=qsF (L++[d]):=by
  rw[show L.map cqF++[cqF d]=(L++[d]).map cqF by simp];exact zdz (by simp)
 have tk:(zca (L++[d])).take (L.length+1)=zca (L++[d]):=Z12 (by simp[zca]);unfold b3_R;simp only[rU]
 by_cases hm:8<m
 .have hm':(8:Int)<m:=by omega
  simp -implicitDefEqProofs [rW,h2,h3,h4,g0,g1,h5,hm,hm'];exact hK _ (by simp -implicitDefEqProofs [rW,])
 .have hm':¬(8:Int)<m:=by omega
  have n0:¬0=Y:=by omega
  have n1:¬1=Y:=by omega
  by_cases hr:L.length+1<=ro
  .simp -implicitDefEqProofs [rW,h2,h3,h4,g0,g1,h5,hm,hm',q1,q2,gY,zcm,zi9,hqn,tk,hr,znn,zhr,zGk,zdf,zwd,hlen,zxG];refine r3W t1 t3 t2 t4 hlen hall _ ?_ hK;unfold LS LT;simp -implicitDefEqProofs [rW,h2]
  .simp -implicitDefEqProofs [rW,h2,h3,h4,g0,g1,h5,hm,hm',q1,q2,gY,zcm,zi9,hqn,tk,hr,n0,n1,znn,zhr,zGk,zdf,zwd,hlen,zxG];refine⟨hYc,?_⟩;refine r3W t1 t3 t2 t4 hlen hall _ ?_ hK;unfold LS LT;simp -implicitDefEqProofs [rW,h2]
def fn3:pr.fn 3=some g3:=by kernel_rfl
def ans3{x:F}(hx:zgo x):Ans pr 3 [x] (.b true):=by
 refine zb6 fn3 ?_;obtain⟨l,⟨hl0,hl3,hlc⟩,a4⟩ :=ans4 hx;obtain⟨z,hz⟩ :=atZ hx;obtain⟨hz0,a8⟩ :=hz 0 (by omega);generalize z 0=z0 at hz0 a8;obtain⟨e,he,a7⟩ :=ans7 (z0*7);obtain⟨L,hL⟩ :∃L,L=l.take 2:=⟨_,rfl⟩
 have hL2:L.length<=2:=by rw[hL];simp;omega
 have hLc:∀c∈L,c∈CQp:=fun c hc=>hlc c (Z14 (hL▸hc))
 obtain⟨d0,r,hd⟩ :∃d0 r,L=d0::r:=by
  match l,hl0 with
  |a::l',_=>exact⟨a,l'.take 1,by rw[hL];rfl⟩
 have h0:L[0]? =some d0:=by rw[hd];rfl
 have hLn:L≠[]:=by rw[hd];simp
 have hd0:d0∈CQp:=hLc d0 (by rw[hd];simp);clear hd;have p0:=(zfy d0 hd0).1;have hpw:=zBp (a:=d0) he;have pe:=(zfy e he).1;have a6:=ans6 d0 e hd0 he;have hne:(apR d0 e).as≠[]:=fun h=>pe.ne (Z18.1 (by rw[<-hpw.ln,h];rfl))
 have a5:Ans pr 5 [.ag (cqF d0),.ag (cqF (apR d0 e))] (.ag (cqF (dN d0 e))):=ans5 d0 (apR d0 e) (zBL p0 (by omega)) (hpw.g (by have:=pe.la;omega)).toCqSm p0.ne hne (zfy d0 hd0).2.1 hpw.cs;obtain⟨o1,o2,o3⟩ :=zSp hL2 hLc hd0 he;obtain⟨t1,t2⟩ :=zDv o3 h0 hL2 (zRR d0 e);have hsz:∀c∈L++[dN d0 e],c.as.length<=12:=fun c hc=>by
  rcases Z5.1 hc with h|h
  .have:=(zfy c (hLc c h)).1.la;omega
  .rw[Z32.1 h];have:=(zH5 hd0 he).1.la;omega
 generalize dN d0 e=d at*;have q4:=fun k=>zav (k:=k) a4
 have q5:=fun k=>zav (k:=k) a5
 have q6:=fun k=>zav (k:=k) a6
 have a7':Ans pr 7 [.i .i64 ((z0:Int)*7)] (.ag (cqF e)):=by
  have:=a7
  push_cast at this
  exact this
 have q7:=fun k=>zav (k:=k) a7'
 have a8':Ans pr 8 [x,.i .i64 0] (.i .i64 (z0:Nat)):=a8;have q8:=fun k=>zav (k:=k) a8'
 have hmul:za7 .mul (.i .i64 z0) (.i .i64 7)=some (.i .i64 ((z0*7:Nat):Int)):=by
  show some (F.i .i64 (IntKind.i64.wrap ((z0:Int)*7)))=_;rw[wrap_i64 _ (by omega) (by omega)]
  push_cast
  rfl
 simp only[cqE]at q5 q6 q7;generalize apR d0 e=w at q5 q6;have hc2:(D.f x).cells=some [.f x]:=by rcases hx with rfl|⟨zs,rfl⟩ <;>rfl
 have lL:L.length≠0:=fun e=>hLn (Z18.1 e)
 have eL:=fun h=>el_qs h L
 have m1:(L.length<=zak)=True:=za2 (by omega);have m2:(L.length*48<=zak)=True:=za2 (by omega);have m3:(L.length+1<=zak)=True:=za2 (by omega);have m4:((L.length+1)*48<=zak)=True:=za2 (by omega);have m5:(L.length+1<=L.length)=False:=leF (by omega);have m6:(1<=zak)=True:=za2 (by omega);have m7:(48<=zak)=True:=za2 (by omega);have tA:List.take L.length (zca L)=zca L:=by rw[<-zcm L,Z8]
 have x0:∀h:0<L.length,L[0]=d0:=fun h=>by
  rw[Z0 h]at h0;exact Z54 h0
 have hl0':0<L.length:=by omega
 simp only[g3,rU]
 by_cases hgt:2<l.length
 .have hgt':(2:Int)<l.length:=by omega
  have s1:=fun h=>qs_tk (l:=l) (by omega) h
  rw[<-hL]at s1;simp -implicitDefEqProofs [rW,st0,zah,zjP hx,hc2,q4,zhr,znn,zdf,hgt,hgt',s1];refine zaF ?_;simp -implicitDefEqProofs [rW,zjP hx,hc2,zhr,znn,zdf,zgC,h0,x0,hl0',lL,hLn,eL,q5,q6,q7,q8,hmul,m1,m2,m3,m4,m5,m6,m7,tA,zcm,cqE,zbO,zbQ];refine zJ1 (L:=L) (d:=d) hL2 hsz _ ⟨23,0,?_,?_,Z62 _,by omega,?_⟩ ?_ ?_
  .simp -implicitDefEqProofs [rW,]
  .simp -implicitDefEqProofs [rW,zf2]
  .simp -implicitDefEqProofs [rW,]
  .simp -implicitDefEqProofs [rW,]
  rintro s m a1 a2 -;rw[zfQ,Z52 rfl,zgs];refine r3R hL2 o1 o2 t1 t2 s a1 a2 ?_;intro s h2;simp -implicitDefEqProofs [rW,h2]
 .have hgt':¬(2:Int)<l.length:=by omega
  have e:L=l:=by rw[hL];exact Z12 (by omega)
  subst e;simp -implicitDefEqProofs [rW,st0,zah,zjP hx,hc2,q4,zhr,znn,zdf,hgt,hgt'];refine zaF ?_;simp -implicitDefEqProofs [rW,zjP hx,hc2,zhr,znn,zdf,zgC,h0,x0,hl0',lL,hLn,eL,q5,q6,q7,q8,hmul,m1,m2,m3,m4,m5,m6,m7,tA,zcm,cqE,zbO,zbQ];refine zJ1 (L:=L) (d:=d) hL2 hsz _ ⟨23,0,?_,?_,Z62 _,by omega,?_⟩ ?_ ?_
  .simp -implicitDefEqProofs [rW,]
  .simp -implicitDefEqProofs [rW,zf2]
  .simp -implicitDefEqProofs [rW,]
  .simp -implicitDefEqProofs [rW,]
  rintro s m a1 a2 -;rw[zfQ,Z52 rfl,zgs];refine r3R hL2 o1 o2 t1 t2 s a1 a2 ?_;intro s h2;simp -implicitDefEqProofs [rW,h2]
end Go.Proofs.YtflgmemhalhdbaaGreatDoor
end
