/- apart: from the lists of variables on. -/
import Derived.Test.YtflgmemhalhdbaaGreatDoorPl
import Derived.KernelRfl
import Derived.IntWalk
import Derived.Test.YtflgmemhalhdbaaGreatDoorPb
import Derived.Test.YtflgmemhalhdbaaGreatDoorPj
import Derived.Test.YtflgmemhalhdbaaGreatDoorPe
set_option linter.all false
set_option maxRecDepth 100000
set_option maxHeartbeats 4000000
noncomputable section
section
namespace Go.Proofs.YtflgmemhalhdbaaGreatDoor
open Go Go.Vse Go.Vse.Sm
def zCt{h:T Ob}{lo c:Nat}{dA dC:D}{q:CQ}{xs:List Nat}(H:HQx h lo c dA dC q.as q xs):RdQ h c dA dC q:=by
 obtain⟨hA,hC,hY⟩ :=H;have hz:(List.zipWith atR q.as xs).length=q.as.length:=by rw[Z85,hA.ln,Z122]
 refine⟨zbj hA.gr,zii (zgt hC),by rw[Go.Vse.zdv hA.gr,hz],zun hC,fun n hn=> ?_,fun n hn=> ?_⟩
 .have hx:n<xs.length:=by rw[hA.ln];exact hn
  obtain⟨X,r0,hi,gX,hX1,hX2⟩ :=zhm hA.gr (n:=n) (by rw[hz];exact hn);have hr:=hA.rw n hn hx;have hg:=hA.rg _ (Z2 hx);refine⟨_,.sl xs[n] 0 q.as[n].ts.length 4 q.as[n].ts.length false,[X],[xs[n]],hi,rfl,fun h' hf=>⟨?_,?_⟩⟩
  .have e:(List.zipWith atR q.as xs)[n]? =some (atR q.as[n] xs[n]):=by
    rw[Z123,Z0 hn,Z0 hx]
   simp[zbq,hf X hX2,gX,e,zcn,atR]
  .have e:=hf xs[n] hg.2;rw[hr]at e;have hl:=zbD q.as[n].ts;have ht:=zlF q.as[n].ts;rw[znw,e,zc0,ziQ,Z52 ⟨rfl,rfl,by omega⟩,Z35,ht]
 .obtain⟨Y,hi,gY,hYo,hY1,hY2⟩ :=zBM hC hn;refine⟨_,[Y],hi,fun h' hf=> ?_⟩;simp[zbq,hf Y hY2,gY,zcn,hn,cmD,tmD]
def ztO:C:= .seq (oZ [oM 78 10,oR 79 (.len (.t 78)),oR 80 (.mv (.k (.i .i64 0)))]
 (.blk 8 (.loop zsP)))
 (oZ [oR 113 (.mkf 68 [] [(.t 11)]),oM 23 113]
 (.seq (oZ [oF 114 0 4,oK 115 1 114,oR 116 (.len (.t 115)),oR 117 (.mv (.k (.i .i64 0)))]
 (.blk 12 (.loop zpq)))
 (.seq (oZ [oF 135 1 4,oK 136 1 135,oR 137 (.len (.t 136)),oR 138 (.mv (.k (.i .i64 0)))]
 (.blk 16 (.loop zpu)))
 (oZ [oL 156 2 4,oS 2 6 156]
 .ret))))
def ztN:C:= .seq (oZ [oM 60 10,oR 61 (.len (.t 60)),oR 62 (.mv (.k (.i .i64 0)))]
 (.blk 4 (.loop (oZ [oR 63 (.bin .lss (.t 62) (.t 61))]
 (.seq (.cond (.t 63) .skip (.exit 4))
 (.seq (.blk 5 (oZ [oI 64 1 60 62,oK 65 1 64,oM 15 65]
 (.reg [oM 66 7,oM 67 15,oN (.mup 1 (.t 66) (.t 67) (.k (.b true)))])))
 (.reg [oR 68 (.bin .add (.t 62) (.k (.i .i64 1))),oM 62 68])))))))
 (.seq (oZ [oM 69 2,oR 70 (.len (.t 69)),oR 71 (.mv (.k (.i .i64 0)))]
 (.blk 6 (.loop (oZ [oR 72 (.bin .lss (.t 71) (.t 70))]
 (.seq (.cond (.t 72) .skip (.exit 6))
 (.seq (.blk 7 (oZ [oI 73 1 69 71,oK 74 1 73,oM 17 74]
 (.reg [oM 75 7,oM 76 17,oN (.mup 1 (.t 75) (.t 76) (.k (.b true)))])))
 (.reg [oR 77 (.bin .add (.t 71) (.k (.i .i64 1))),oM 71 77])))))))
 ztO)
def zHU:C:=oZ [oL 39 2 4,oR 40 (.call 65 [(.t 39)]),oM 10 40]
 (oZ [oR 41 (.mmk),oR 11 (.new [.nilm]),oS 1 11 41]
 (.seq (oZ [oM 42 10,oR 43 (.len (.t 42)),oR 44 (.mv (.k (.i .i64 0)))]
 (.blk 2 (.loop (oZ [oR 45 (.bin .lss (.t 44) (.t 43))]
 (.seq (.cond (.t 45) .skip (.exit 2))
 (.seq (.blk 3 (oZ [oI 46 1 42 44,oK 47 1 46,oM 13 47]
 (oD [oM 48 7,oM 49 13,oR 50 (.mlk 1 (.b false) false (.t 48) (.t 49)),oM 51 50,oG 52 51 (.mv (.t 2)),oG 53 51 (.mv (.t 13)),oG 54 51 (.callp 66 [(.t 52),(.t 53)]),oG 55 51 (.un .not (.t 54)),oR 56 (.pick (.t 51) (.t 55) (.k (.b false)))] 56 (.reg [oK 57 1 11,oM 58 13,oN (.mup 1 (.t 57) (.t 58) (.k (.s [])))]) .skip)))
 (.reg [oR 59 (.bin .add (.t 44) (.k (.i .i64 1))),oM 44 59])))))))
 ztN))
def HQx.up{h h':T Ob}{lo c:Nat}{dA dC:D}{l:List Atm}{q:CQ}{xs:List Nat}(H:HQx h lo c dA dC l q xs)(hf:Frm h h' c):HQx h' lo c dA dC l q xs:=
 ⟨H.1.up (fun x _ h2=>hf x h2) (Z3 _) (Z3 _),zij H.2.1 (fun x _ h2=>hf x h2) (Z3 _) (Z3 _),H.2.2⟩
theorem r25_8{h0:T Ob}{lo c0 P R M C Q:Nat}(o:lo<=c0/\c0<=P/\P<R/\R<M/\M<Q/\Q<C){hd:List Str}{dA dC dB:D}{q:CQ}{xs:List Nat}{U VB:List Str}{N:Nms}(hq:CqSm q)(hU:U.length+VB.length<98)(hxl:∀x∈VB,x.length<1000){K:Ex->St->Prop}(s:St)
  (a1:APS h0 c0 P R M hd dA dC U s)(a2:AQS M C Q dB VB N s)(a3:s.tm.get 10=some dB)(hh:HQx h0 lo c0 dA dC q.as q xs)
  (hK:∀s,s.tm.get 6=some (.ptr R 2 0 0)->s.h.get R=some (.arr 2 0 [[dA,dC]])->Frm h0 s.h lo->HQx s.h lo c0 dA dC (q.as.map (rnA (VB.foldl apS (U,N)).2)) ⟨q.as,q.cs.map (rnK (VB.foldl apS (U,N)).2),q.ne,q.na⟩ xs->R<s.c->K .ret s):wpC pr ztO s K:=by
 obtain⟨⟨h2,h4,h6,h7,gP,gR,gM⟩,hf,hMc⟩ :=a1;obtain⟨⟨h11,gC,gQ⟩,hg,hCc⟩ :=a2;unfold ztO;simp only[rU];have hlen:=zdv hg;simp[rW,a3,hlen];refine zTM (h0:=h0) (c0:=c0) (P:=P) (R:=R) (M:=M) (C:=C) (Q:=Q) (hd:=hd) (dA:=dA) (dC:=dC) (dB:=dB) (U:=U) (VB:=VB) (N:=N) (by omega) hU hxl _ ⟨?_,?_,?_⟩ ⟨?_,?_,?_⟩ ?_ ?_
 .simp[rW,h2,h4,h6,h7,gP,gR,gM]
 .simp[rW,hf]
 .simp[rW,hMc]
 .simp[rW,h11,gC,gQ]
 .simp[rW,hg]
 .simp[rW,hCc]
 .simp[rW,a3]
 rintro s ⟨⟨h2,h4,h6,h7,gP,gR,gM⟩,hf,hMc⟩ ⟨⟨h11,gC,gQ⟩,hg,hCc⟩;generalize (VB.foldl apS (U,N)).2=N2 at gQ hK;have hh2:=hh.up hf;have hla:zbv dA=some q.as.length:=by rw[Go.Vse.zdv hh.1.gr,Z85,hh.1.ln,Z122]
 have hlc:=zun hh.2.1;simp[rW,h4,h11,gP,hla];refine zNw (h0:=h0) (lo:=lo) (c0:=c0) (P:=P) (R:=R) (C:=C) (Q:=Q) (dA:=dA) (dC:=dC) (N:=N2) (l:=q.as) (q:=q) (xs:=xs) (by omega) (by have:=hq.sa;omega) hq.st _ ⟨?_,?_,?_⟩ ?_ ?_ ?_
 .simp[rW,h4,h6,h11,gP,gR,gC,gQ]
 .simp[rW,];exact fun z hz=>hf z (by omega)
 .simp[rW,hCc]
 .simp[rW,hh2]
 .simp[rW,]
 rintro s ⟨⟨h4,h6,h23,gP,gR,gC,gQ⟩,hf,hCc⟩ hh3;simp[rW,h4,gP,hlc];refine zNz (h0:=h0) (lo:=lo) (c0:=c0) (P:=P) (R:=R) (C:=C) (Q:=Q) (dA:=dA) (dC:=dC) (N:=N2) (l:=q.as.map (rnA N2)) (q:=q) (xs:=xs) (by omega) (by have:=hq.sc;omega) _ ⟨?_,?_,?_⟩ ?_ ?_ ?_
 .simp[rW,h4,h6,h23,gP,gR,gC,gQ]
 .simp[rW,hf]
 .simp[rW,hCc]
 .simp[rW,hh3]
 .simp[rW,]
 rintro s ⟨⟨h4,h6,h23,gP,gR,gC,gQ⟩,hf,hCc⟩ hh4;have ca:=zbj hh.1.gr;have cc:=zii (zgt hh.2.1);have hRc:R<s.c:=by omega
 simp[rW,h4,h6,gP,gR,ca,cc,hRc];refine hK _ ?_ ?_ ?_ ?_ ?_
 .simp[rW,h6]
 .simp[rW,h6]
 .simp[rW,];exact fun z hz=>by
   have z1:¬z=R:=by omega
   simp[TG,z1,hf z hz]
 .refine⟨hh4.1.up (fun x _ h2=> ?_) (Z3 _) (Z3 _),zij hh4.2.1 (fun x _ h2=> ?_) (Z3 _) (Z3 _),hh4.2.2⟩
  .have z1:¬x=R:=by omega
   simp[rW,z1]
  .have z1:¬x=R:=by omega
   simp[rW,z1]
 .simp[rW,hRc]
theorem r25_4{h0:T Ob}{lo c0 P R M C Q:Nat}(o:lo<=c0/\c0<=P/\P<R/\R<M/\M<Q/\Q<C){hd:List Str}{dA dC dB:D}{q:CQ}{xs:List Nat}{U VB:List Str}{N:Nms}(hq:CqSm q)(hU:U.length+VB.length+hd.length+VB.length<98)(hxl:∀x∈VB,x.length<1000){K:Ex->St->Prop}(s:St)
  (a1:APS h0 c0 P R M hd dA dC U s)(a2:AQS M C Q dB VB N s)(a3:s.tm.get 10=some dB)(hh:HQx h0 lo c0 dA dC q.as q xs)
  (hK:∀s N2,N2=(VB.foldl apS (hd.foldl zcw (VB.foldl zcw U),N)).2->s.tm.get 6=some (.ptr R 2 0 0)->s.h.get R=some (.arr 2 0 [[dA,dC]])->Frm h0 s.h lo->HQx s.h lo c0 dA dC (q.as.map (rnA N2)) ⟨q.as,q.cs.map (rnK N2),q.ne,q.na⟩ xs->R<s.c->K .ret s):wpC pr ztN s K:=by
 obtain⟨⟨h2,h4,h6,h7,gP,gR,gM⟩,hf,hMc⟩ :=a1;obtain⟨⟨h11,gC,gQ⟩,hg,hCc⟩ :=a2;unfold ztN;simp only[rU];have hlen:=zdv hg;have nQM:¬(Q=M):=by omega
 have nMQ:¬(M=Q):=by omega
 have nMC:¬(M=C):=by omega
 have nCM:¬(C=M):=by omega
 have nPM:¬(P=M):=by omega
 have nRM:¬(R=M):=by omega
 simp[rW,a3,hlen];refine zeO VB zcw U (fun n a s=>APS h0 c0 P R M hd dA dC a s/\AQS M C Q dB VB N s/\(s.tm.get 10=some (dB)/\s.tm.get 60=some (dB)/\s.tm.get 61=some (.f (.i .i64 VB.length))/\s.tm.get 62=some (.f (.i .i64 n)))) (fun e s=>e= .exit 4/\APS h0 c0 P R M hd dA dC (VB.foldl zcw U) s/\AQS M C Q dB VB N s/\s.tm.get 10=some dB) ?_ ?_ _ ?_ ?_
 .clear h2 h4 h6 h7 gP gR gM hf hMc h11 gC gQ hg hCc a3 hK;clear s;rintro n a s hn - ⟨⟨⟨h2,h4,h6,h7,gP,gR,gM⟩,hf,hMc⟩,⟨⟨h11,gC,gQ⟩,hg,hCc⟩,⟨h10,h60,h61,h62⟩⟩;have hw:=zao n (by omega);obtain⟨X,r0,hi,gX,hX1,hX2⟩ :=zhm hg (n:=n) (by rw[zbl];exact hn);have ht:(za1 VB)[n]? =some [.f (.s VB[n])]:=by simp[za1,hn]
  have hnt:n< (za1 VB).length:=by rw[zbl];exact hn
  have ht2:∀h:n< (za1 VB).length,(za1 VB)[n]=[.f (.s VB[n])]:=fun h=>by
   rw[Z0 h]at ht;exact Z54 ht
  generalize VB[n]=x at ht ht2|-;simp[rW,h2,h4,h6,h7,gP,gR,gM,h11,gC,gQ,h10,h60,h61,h62,hn,hi,gX,ht,ht2,hnt,zAF,hw,hMc];refine⟨⟨?_,fun z hz=> ?_,?_⟩,⟨?_,zbh hg (Z3 _) fun z hz1 hz2=> ?_,?_⟩⟩
  .simp[rW,h2,h4,h6,h7,gP,gR,gM,nPM,nRM]
  .have z1:¬z=M:=by omega
   simp[rW,z1];exact hf z hz
  .simp[rW,hMc]
  .simp[rW,h11,gC,gQ,nQM,nCM]
  .have z1:¬z=M:=by omega
   simp[rW,z1]
  .simp[rW,hCc]
 .rintro s ⟨⟨⟨h2,h4,h6,h7,gP,gR,gM⟩,hf,hMc⟩,⟨⟨h11,gC,gQ⟩,hg,hCc⟩,⟨h10,h60,h61,h62⟩⟩;simp[rW,h10,h60,h61,h62];refine⟨⟨?_,hf,hMc⟩,⟨?_,hg,hCc⟩⟩
  .simp[rW,h2,h4,h6,h7,gP,gR,gM]
  .simp[rW,h11,gC,gQ]
 .refine⟨⟨?_,hf,hMc⟩,⟨?_,hg,hCc⟩,?_⟩
  .simp[rW,h2,h4,h6,h7,gP,gR,gM]
  .simp[rW,h11,gC,gQ]
  .simp[rW,a3]
 rintro e s ⟨rfl,⟨⟨h2,h4,h6,h7,gP,gR,gM⟩,hf,hMc⟩,⟨⟨h11,gC,gQ⟩,hg,hCc⟩,a3⟩;have hU2:=zgH VB U;generalize VB.foldl zcw U=U2 at gM hU2 hK;simp[rW,h2,zbN];refine zeO hd zcw U2 (fun n a s=>APS h0 c0 P R M hd dA dC a s/\AQS M C Q dB VB N s/\(s.tm.get 10=some (dB)/\s.tm.get 69=some (.f (zaM hd))/\s.tm.get 70=some (.f (.i .i64 hd.length))/\s.tm.get 71=some (.f (.i .i64 n)))) (fun e s=>e= .exit 6/\APS h0 c0 P R M hd dA dC (hd.foldl zcw U2) s/\AQS M C Q dB VB N s/\s.tm.get 10=some dB) ?_ ?_ _ ?_ ?_
 .clear h2 h4 h6 h7 gP gR gM hf hMc h11 gC gQ hg hCc a3 hK;rintro n a s hn - ⟨⟨⟨h2,h4,h6,h7,gP,gR,gM⟩,hf,hMc⟩,⟨⟨h11,gC,gQ⟩,hg,hCc⟩,⟨h10,h69,h70,h71⟩⟩;have hw:=zao n (by omega);have hx:hd[n]? =some hd[n]:=Z0 hn;generalize hA:hd[n]=x at hx|-;simp[rW,h2,h4,h6,h7,gP,gR,gM,h11,gC,gQ,h10,h69,h70,h71,hn,zco,hx,hA,zAF,hw,hMc];refine⟨⟨?_,fun z hz=> ?_,?_⟩,⟨?_,zbh hg (Z3 _) fun z hz1 hz2=> ?_,?_⟩⟩
  .simp[rW,h2,h4,h6,h7,gP,gR,gM,nPM,nRM]
  .have z1:¬z=M:=by omega
   simp[rW,z1];exact hf z hz
  .simp[rW,hMc]
  .simp[rW,h11,gC,gQ,nQM,nCM]
  .have z1:¬z=M:=by omega
   simp[rW,z1]
  .simp[rW,hCc]
 .rintro s ⟨⟨⟨h2,h4,h6,h7,gP,gR,gM⟩,hf,hMc⟩,⟨⟨h11,gC,gQ⟩,hg,hCc⟩,⟨h10,h69,h70,h71⟩⟩;simp[rW,h10,h69,h70,h71];refine⟨⟨?_,hf,hMc⟩,⟨?_,hg,hCc⟩⟩
  .simp[rW,h2,h4,h6,h7,gP,gR,gM]
  .simp[rW,h11,gC,gQ]
 .refine⟨⟨?_,hf,hMc⟩,⟨?_,hg,hCc⟩,?_⟩
  .simp[rW,h2,h4,h6,h7,gP,gR,gM]
  .simp[rW,h11,gC,gQ]
  .simp[rW,h2,a3]
 rintro e s ⟨rfl,b1,b2,b3⟩;have hU3:=zgH hd U2;rw[zfQ,Z52 rfl,zgs];refine r25_8 o hq (by omega) hxl s b1 b2 b3 hh fun s' c1 c2 c3 c4 c5=>hK s' _ rfl c1 c2 c3 c4 c5
def zLW(l:List (List D)):hd8 ([.f .nilm]::l)=false:=rfl
theorem r25{h0:T Ob}{lo c0 P R M:Nat}(o:lo<=c0/\c0<=P/\P<R/\R<M){hd:List Str}{dA dC:D}{q:CQ}{xs:List Nat}{U:List Str}(hq:CqSm q)(hU:U.length+(vrs q).length+hd.length+(vrs q).length<98)(hxl:∀x∈vrs q,x.length<1000){K:Ex->St->Prop}(s:St)
    (a1:APS h0 c0 P R M hd dA dC U s)(hh:HQx h0 lo c0 dA dC q.as q xs)
    (hK:∀s N2,N2=((vrs q).foldl apS (hd.foldl zcw ((vrs q).foldl zcw U),(vrs q).foldl (kyS U hd) [])).2->s.tm.get 6=some (.ptr R 2 0 0)->s.h.get R=some (.arr 2 0 [[dA,dC]])->Frm h0 s.h lo->HQx s.h lo c0 dA dC (q.as.map (rnA N2)) ⟨q.as,q.cs.map (rnK N2),q.ne,q.na⟩ xs->R<s.c->K .ret s):wpC pr zHU s K:=by
  obtain⟨⟨h2,h4,h6,h7,gP,gR,gM⟩,hf,hMc⟩ :=a1;have hrd:=zCt (hh.up hf);unfold zHU;simp only[rU];simp[rW,h2,h4,h6,h7,gP,gR,gM,hrd.ca,hrd.cc];refine zer rfl rfl (zyX q hq (hrd.up (h':=s.h) (c':=s.c) (fun _ _=>rfl) (by omega))) ?_;rintro dB h' c' lw mx ⟨hf2,hg⟩ hcc;simp only[rG]at hf2 hg hcc;have eP:=hf2 P (by omega);have eR:=hf2 R (by omega);have eM:=hf2 M (by omega);rw[gP]at eP;rw[gR]at eR;rw[gM]at eM;have hlen:=zdv hg;have hf3:Frm h0 h' c0:=zjc hf hf2 (by omega);have n1:¬(c'+1=c'):=by omega
  have nP:¬(P=c'):=by omega
  have nR:¬(R=c'):=by omega
  have nM:¬(M=c'):=by omega
  have nP1:¬(P=c'+1):=by omega
  have nR1:¬(R=c'+1):=by omega
  have nM1:¬(M=c'+1):=by omega
  simp[rW,h2,h4,h6,h7,hlen,zLW];refine zeO (vrs q) (kyS U hd) [] (fun n a s=>APS h0 c0 P R M hd dA dC U s/\AQS M (c'+1) c' dB (vrs q) a s/\(s.tm.get 10=some (dB)/\s.tm.get 42=some (dB)/\s.tm.get 43=some (.f (.i .i64 (vrs q).length))/\s.tm.get 44=some (.f (.i .i64 n)))) (fun e s=>e= .exit 2/\APS h0 c0 P R M hd dA dC U s/\AQS M (c'+1) c' dB (vrs q) ((vrs q).foldl (kyS U hd) []) s/\s.tm.get 10=some dB) ?_ ?_ _ ?_ ?_
  . clear h2 h4 h6 h7 gP gR gM hf hMc hK hrd eP eR eM hlen;obtain⟨C,hC⟩ :∃C,C=c'+1:=⟨_,rfl⟩
    obtain⟨Q,hQ⟩ :∃Q,Q=c':=⟨_,rfl⟩
    rw[<-hC,<-hQ];rw[<-hC]at nP1 nR1 nM1;rw[<-hQ]at nP nR nM;have nCQ:¬(C=Q):=by omega
    rintro n a s hn - ⟨⟨⟨h2,h4,h6,h7,gP,gR,gM⟩,hf,hMc⟩,⟨⟨h11,gC,gQ⟩,hg,hCc⟩,⟨h10,h42,h43,h44⟩⟩;have hw:=zao n (by omega);obtain⟨X,r0,hi,gX,hX1,hX2⟩ :=zhm hg (n:=n) (by rw[zbl];exact hn);have ht:(za1 (vrs q))[n]? =some [.f (.s (vrs q)[n])]:=by simp[za1,hn]
    have hnt:n< (za1 (vrs q)).length:=by rw[zbl];exact hn
    have ht2:∀h:n< (za1 (vrs q)).length,(za1 (vrs q))[n]=[.f (.s (vrs q)[n])]:=fun h=>by
      rw[Z0 h]at ht;exact Z54 ht
    generalize (vrs q)[n]=x at ht ht2|-;have qa:=fun k=>zav (k:=k) (zyI hd x (by omega))
    have hQc:Q<s.c:=by omega
    by_cases hx:x∈U
    . cases hb:hd.any (· ==x)with
      | true=>
        rw[hb]at qa;have e:kyS U hd a x=a:=by simp only[kyS,hb];simp
        rw[e];simp[rW,h2,h4,h6,h7,gP,gR,gM,h11,gC,gQ,h10,h42,h43,h44,hn,hi,gX,ht,ht2,hnt,lkB,hx,qa,hw];refine⟨⟨?_,?_,?_⟩,⟨?_,?_,?_⟩⟩
        . simp[rW,h2,h4,h6,h7,gP,gR,gM]
        . simp[rW,hf]
        . simp[rW,hMc]
        . simp[rW,h11,gC,gQ]
        . simp[rW,hg]
        . simp[rW,hCc]
      | false=>
        rw[hb]at qa;have e:kyS U hd a x=upS x [] a:=by simp only[kyS,hb];simp[hx]
        rw[e];simp[rW,h2,h4,h6,h7,gP,gR,gM,h11,gC,gQ,h10,h42,h43,h44,hn,hi,gX,ht,ht2,hnt,lkB,hx,qa,upS',hw,hQc];refine⟨⟨?_,fun z hz=> ?_,?_⟩,⟨?_,?_,?_⟩⟩
        . simp[rW,h2,h4,h6,h7,gP,gR,gM,nP,nR,nM]
        . have z1:¬z=Q:=by omega
          simp[rW,z1];exact hf z hz
        . simp[rW,hMc]
        . simp[rW,h11,gC,gQ,nCQ]
        . refine zbh hg (Z3 _) fun z hz1 hz2=> ?_
          have z1:¬z=Q:=by omega
          simp[rW,z1]
        . simp[rW,hCc]
    . have e:kyS U hd a x=a:=by simp[kyS,hx]
      rw[e];simp[rW,h2,h4,h6,h7,gP,gR,gM,h11,gC,gQ,h10,h42,h43,h44,hn,hi,gX,ht,ht2,hnt,lkB,hx,hw];refine⟨⟨?_,?_,?_⟩,⟨?_,?_,?_⟩⟩
      . simp[rW,h2,h4,h6,h7,gP,gR,gM]
      . simp[rW,hf]
      . simp[rW,hMc]
      . simp[rW,h11,gC,gQ]
      . simp[rW,hg]
      . simp[rW,hCc]
  . rintro s ⟨⟨⟨h2,h4,h6,h7,gP,gR,gM⟩,hf,hMc⟩,⟨⟨h11,gC,gQ⟩,hg,hCc⟩,⟨h10,h42,h43,h44⟩⟩;simp[rW,h10,h42,h43,h44];refine⟨⟨?_,?_,?_⟩,⟨?_,?_,?_⟩⟩
    . simp[rW,h2,h4,h6,h7,gP,gR,gM]
    . simp[rW,hf]
    . simp[rW,hMc]
    . simp[rW,h11,gC,gQ]
    . simp[rW,hg]
    . simp[rW,hCc]
  . refine⟨⟨?_,fun z hz=> ?_,?_⟩,⟨?_,?_,?_⟩,?_⟩
    . simp[rW,h2,h4,h6,h7,eP,eR,eM,nP,nR,nM,nP1,nR1,nM1]
    . have z1:¬z=c':=by omega
      have z2:¬z=c'+1:=by omega
      simp[rW,z1,z2];exact hf3 z hz
    . simp[rW,];omega
    . simp[rW,mpS]
    . refine zjh (zbh hg (Z3 _) fun z hz1 hz2=> ?_) (by omega);have z1:¬z=c':=by omega
      have z2:¬z=c'+1:=by omega
      simp[rW,z1,z2]
    . simp[rW,]
    . simp[rW,]
  rintro e s ⟨rfl,b1,b2,b3⟩;rw[zfQ,Z52 rfl,zgs];exact r25_4 (by omega) hq hU hxl s b1 b2 b3 hh hK
def fn49:pr.fn 49=some g49:=by kernel_rfl
theorem eff49{h:T Ob}{lo c0:Nat}{dA1 dC1 dA dC:D}{A q:CQ}{hd:List Str}{xs:List Nat}(hlo:lo<=c0)(hr:RdQ h c0 dA1 dC1 A)(hA:CqSm A)(hq:CqSm q)(hh:HQx h lo c0 dA dC q.as q xs)(hF:dA.isF=false)
  (hU:(vrs A).length+(vrs q).length+hd.length+(vrs q).length<98)(hxl:∀x∈vrs q,x.length<1000):
  Eff pr 49 [.ag [dA1,dC1],.ag [dA,dC],.f (zaM hd)] h c0 fun d h' c'=>d= .ag [dA,dC]/\Frm h h' lo/\HQx h' lo c0 dA dC (q.as.map (rnA (apN (vrs A) (vrs q) hd))) ⟨q.as,q.cs.map (rnK (apN (vrs A) (vrs q) hd)),q.ne,q.na⟩ xs:=by
 refine zcG za0 fn49 ?_;simp only[g49,rU];have hrb:=zCt hh;have hfr:∀o1 o2 o3 o4,Frm h ((((h.set c0 o1).set (c0+1) o2).set (c0+1+1) o3).set (c0+1+1+1) o4) c0:=fun o1 o2 o3 o4 x hx=>by
  have n1:¬x=c0:=by omega
  have n2:¬x=c0+1:=by omega
  have n3:¬x=c0+1+1:=by omega
  have n4:¬x=c0+1+1+1:=by omega
  simp[TG,n1,n2,n3,n4]
 have m1:¬(c0=c0+1+1+1):=by omega
 have m2:¬(c0+1=c0+1+1+1):=by omega
 have m3:¬(c0=c0+1+1):=by omega
 have m4:¬(c0=c0+1):=by omega
 simp[rW,st0,zah,hr.ca,hr.cc,hrb.ca,hrb.cc,m1,m2,m3,m4];refine zer rfl rfl (zyX A hA ?_) ?_
 .refine hr.up (hfr _ _ _ _) ?_;simp only[rG];omega
 rintro dV h' c' lw mx ⟨hf,hg⟩ hcc;simp only[rG]at hf hg hcc;have hf0:Frm h h' c0:=zjc (hfr _ _ _ _) hf (by omega);have e1:=hf (c0+1) (by omega);have e2:=hf (c0+1+1) (by omega);have e3:=hf (c0+1+1+1) (by omega);simp[TG]at e1 e2 e3;obtain⟨P,hP⟩ :∃P,P=c0+1:=⟨_,rfl⟩
 obtain⟨R,hR⟩ :∃R,R=c0+1+1:=⟨_,rfl⟩
 obtain⟨M,hM⟩ :∃M,M=c0+1+1+1:=⟨_,rfl⟩
 have hlen:=zdv hg;have hRd:dA.cells=some [dA]/\dC.cells=some [dC]:=⟨hrb.ca,hrb.cc⟩
 simp[rW,hlen];rw[<-hP]at e1;rw[<-hR]at e2;rw[<-hM]at e3;refine zeO (vrs A) zcw [] (fun n a s=>APS h' c0 P R M hd dA dC a s/\Gro s.h (M+1) c' 1 dV (za1 (vrs A))/\(s.tm.get 30=some (dV)/\s.tm.get 31=some (.f (.i .i64 (vrs A).length))/\s.tm.get 32=some (.f (.i .i64 n)))) (fun e s=>e= .exit 0/\APS h' c0 P R M hd dA dC ((vrs A).foldl zcw []) s) ?_ ?_ _ ?_ ?_
 .clear hlen;rintro n a s hn - ⟨⟨⟨h2,h4,h6,h7,gP,gR,gM⟩,hf,hMc⟩,hg,⟨h30,h31,h32⟩⟩;have hw:=zao n (by omega);have nPM:¬(P=M):=by omega
  have nRM:¬(R=M):=by omega
  obtain⟨X,r0,hi,gX,hX1,hX2⟩ :=zhm hg (n:=n) (by rw[zbl];exact hn);have ht:(za1 (vrs A))[n]? =some [.f (.s (vrs A)[n])]:=by simp[za1,hn]
  have hnt:n< (za1 (vrs A)).length:=by rw[zbl];exact hn
  have ht2:∀h:n< (za1 (vrs A)).length,(za1 (vrs A))[n]=[.f (.s (vrs A)[n])]:=fun h=>by
   rw[Z0 h]at ht;exact Z54 ht
  generalize (vrs A)[n]=x at ht ht2|-;simp[rW,h2,h4,h6,h7,gP,gR,gM,h30,h31,h32,hn,hi,gX,ht,ht2,hnt,zAF,hw,hMc];refine⟨⟨?_,fun z hz=> ?_,?_⟩,?_⟩
  .simp[rW,h2,h4,h6,h7,gP,gR,gM,nPM,nRM]
  .have z1:¬z=M:=by omega
   simp[rW,z1];exact hf z hz
  .simp[rW,hMc]
  .refine zbh hg (Z3 _) fun z hz1 hz2=> ?_
   have z1:¬z=M:=by omega
   simp[rW,z1]
 .rintro s ⟨⟨⟨h2,h4,h6,h7,gP,gR,gM⟩,hf,hMc⟩,hg,⟨h30,h31,h32⟩⟩;simp[rW,h30,h31,h32];refine⟨?_,hf,hMc⟩;simp[rW,h2,h4,h6,h7,gP,gR,gM]
 .refine⟨⟨?_,?_,?_⟩,?_,?_⟩
  .simp[rW,e1,e2,e3,<-hP,<-hR,<-hM];exact⟨by omega,by omega,rfl⟩
  .simp[rW,];exact fun _ _=>rfl
  .simp[rW,];omega
  .simp[rW,];exact zjh hg (by omega)
  .simp[rW,]
 rintro e s ⟨rfl,a1⟩;rw[zfQ,Z52 rfl,zgs];have hal:=zgH (vrs A) [];simp only[Z171,Z26]at hal;refine r25 (h0:=h') (lo:=lo) (c0:=c0) (P:=P) (R:=R) (M:=M) (by omega) hq (by omega) hxl s a1 (hh.up hf0) ?_;rintro s N2 hN h6 gR hf6 hQ hRc;have hN2:N2=apN (vrs A) (vrs q) hd:=hN;rw[<-hN2];simp[rW,h6,gR,hrb.ca,hrb.cc,zcp,hF];exact⟨zjc (fun z hz=>hf0 z (by omega)) hf6 (Z3 _),hQ⟩
structure CqM(n:Nat)(c:CQ):Prop where
 al:∀a∈c.as,zc1 a/\a.ts.length<=2/\a.ts≠[]
 cs:∀k∈c.cs,zdm k
 la:c.as.length<=3*n
 lc:c.cs.length<=n
structure CqN(n:Nat)(c:CQ):Prop where
 al:∀a∈c.as,zc1 a/\a.ts.length<=2/\a.ts≠[]
 cs:∀k∈c.cs,zdm k
 la:c.as.length<=3*n
 lc:c.cs.length<=n
 ne:c.as≠[]
 vl:∀x∈vrs c,x.length<1000
def CqN.m{n:Nat}{c:CQ}(h:CqN n c):CqM n c:=⟨h.al,h.cs,h.la,h.lc⟩
def CqM.g{n:Nat}{c:CQ}(h:CqM n c)(hn:n<=4):CqG c:=
 ⟨⟨⟨fun a ha=>(h.al a ha).1,h.cs,by have:=h.la;omega,by have:=h.lc;omega⟩,by have:=h.la;omega,fun a ha=>by have:=(h.al a ha).2.1;omega,by have:=h.lc;omega,fun a ha=>(h.al a ha).2.1⟩,fun a ha=>(h.al a ha).2.2⟩
def zlH{n:Nat}{c:CQ}(h:CqM n c):(vrs c).length<=8*n:=by
 have h1:=zjE (tsC c) [];have h2:zd0 [] (tsC c)=vrs c:=zjA c;have h3:=zfD (·.ts) 2 c.as fun a ha=>(h.al a ha).2.1
 have h4:=zfD ts2 2 c.cs (by simp[ts2]);rw[h2]at h1;have:=h.la;have:=h.lc;simp only[tsC,tsA,Z17,Z171]at h1;omega
def NmF(N:Nms):Prop:=∀x y,lkS x N=some y->y≠[]
theorem zJt(A hd:List Str):∀(B:List Str) (N:Nms) (x y:Str),lkS x (B.foldl (kyS A hd) N)=some y->(∃z,lkS x N=some z)\/x∈B
 |[],N,x,y,h=> .inl ⟨y,h⟩
 |b::B,N,x,y,h=>by
  rw[Z43]at h;rcases zJt A hd B _ x y h with⟨z,hz⟩ |hm
  .unfold kyS at hz;split at hz
   .by_cases e:x=b
    .exact .inr (by rw[e];simp)
    .rw[zgp e]at hz;exact .inl ⟨z,hz⟩
   .exact .inl ⟨z,hz⟩
  .exact .inr (by simp[hm])
theorem zHT:∀(B:List Str) (st:List Str×Nms),(∀x y,lkS x st.2=some y->y≠[]\/x∈B)->NmF (B.foldl apS st).2
 |[],st,h,x,y,hxy=>by rcases h x y hxy with h|h;exact h;simp at h
 |b::B,st,h,x,y,hxy=>by
  rw[Z43]at hxy;refine zHT B (apS st b) (fun u w huw=> ?_) x y hxy;unfold apS at huw;split at huw
  .by_cases e:u=b
   .subst e;simp only[zio,Z46]at huw;exact .inl (by rw[<-huw];exact zvc _ _)
   .simp only[zgp e]at huw;rcases h u w huw with h|h
    .exact .inl h
    .exact .inr (by simpa [e]using h)
  .rename_i hk;rcases h u w huw with h|h
   .exact .inl h
   .rcases Z6.1 h with rfl|h
    .rw[huw]at hk;simp at hk
    .exact .inr h
def zBl(A B hd:List Str):NmF (apN A B hd):=by
 refine zHT B _ fun x y h=> ?_
 rcases zJt _ _ _ _ _ _ h with⟨z,hz⟩ |hm
 .simp[lkS]at hz
 .exact .inr hm
def zqo{N:Nms}(hN:NmF N){t:Trm}(ht:zaL t):zaL (rnT N t):=by
 cases t with
 |var s=>
  show rnV N s≠[];unfold rnV;have hs:s≠[]:=ht;rw[Z50 hs];cases h:lkS s N with
  |none=>exact hs
  |some y=>exact hN s y h
 |cst n=>exact ht
def zSs{N:Nms}(hN:NmF N){a:Atm}(ha:zc1 a/\a.ts.length<=2/\a.ts≠[]):zc1 (rnA N a)/\(rnA N a).ts.length<=2/\(rnA N a).ts≠[]:=by
 refine⟨⟨fun t ht=> ?_,by simpa [rnA]using ha.1.2⟩,by simpa [rnA]using ha.2.1,by simpa [rnA]using ha.2.2⟩;obtain⟨u,hu,rfl⟩ :=Z13.1 ht;exact zqo hN (ha.1.1 u hu)
def cjS(hd:List Str)(acc c:CQ):CQ:=⟨acc.as++c.as.map (rnA (apN (vrs acc) (vrs c) hd)),acc.cs++c.cs.map (rnK (apN (vrs acc) (vrs c) hd)),false,false⟩
def cj0:CQ:=⟨[],[],false,false⟩
def zf1(hd:List Str)(l:List CQ):CQ:=l.foldl (cjS hd) cj0
def zH1{n m:Nat}{hd:List Str}{acc c:CQ}(h1:CqM n acc)(h2:CqN m c):CqM (n+m) (cjS hd acc c):=by
 have hN:=zBl (vrs acc) (vrs c) hd;refine⟨fun a ha=> ?_,fun k hk=> ?_,?_,?_⟩
 .rcases Z5.1 ha with h|h
  .exact h1.al a h
  .obtain⟨b,hb,rfl⟩ :=Z13.1 h;exact zSs hN (h2.al b hb)
 .rcases Z5.1 hk with h|h
  .exact h1.cs k h
  .obtain⟨b,hb,rfl⟩ :=Z13.1 h;exact⟨zqo hN (h2.cs b hb).1,zqo hN (h2.cs b hb).2⟩
 .have:=h1.la;have:=h2.la;simp[cjS];omega
 .have:=h1.lc;have:=h2.lc;simp[cjS];omega
def wq(c:CQ):Nat:=max ((c.as.length+2)/3) c.cs.length
def wl(l:List CQ):Nat:=(l.map wq).sum
def CqN.w{n:Nat}{c:CQ}(h:CqN n c):CqN (wq c) c/\wq c<=n:=by
 have h1:(c.as.length+2)/3<=wq c:=Z136 _ _;have h2:c.cs.length<=wq c:=Z79 _ _;have h3:wq c<=n:=Nat.max_le.2 ⟨by have:=h.la;omega,h.lc⟩;exact⟨⟨h.al,h.cs,by omega,h2,h.ne,h.vl⟩,h3⟩
structure OkL(l:List CQ):Prop where
 ln:l.length<=3
 qn:∀c∈l,CqN (wq c) c
 wt:wl l<=4
def zx9{l:List CQ}{n:Nat}(hn:n<l.length):wl (l.take (n+1))=wl (l.take n)+wq l[n]:=by
 rw[Z7 hn];unfold wl;rw[Z21,List.sum_append];simp only[Z11,Z86,Z160,List.sum_nil,Z112]
def wl_tk(l:List CQ)(n:Nat):wl (l.take n)<=wl l:=by
 have:wl l=wl (l.take n)+wl (l.drop n):=by
  unfold wl;rw[<-List.sum_append,<-Z21,Z95]
 omega
theorem zBH{hd:List Str}:∀{l:List CQ} {n:Nat} {acc:CQ},CqM n acc->(∀c∈l,CqN (wq c) c)->CqM (n+wl l) (l.foldl (cjS hd) acc)
 |[],n,acc,h,_=>h
 |c::l,n,acc,h,hl=>by
  have:=zBH (hd:=hd) (l:=l) (zH1 (hd:=hd) h (hl c (by simp))) fun d hdm=>hl d (by simp[hdm])
  rw[Z43,show n+wl (c::l)=n+wq c+wl l by simp only[wl,Z11,Z160];omega];exact this
def zH0:CqM 0 cj0:=⟨by simp[cj0],by simp[cj0],by simp[cj0],by simp[cj0]⟩
def zuj{hd:List Str}{l:List CQ}(hl:∀c∈l,CqN (wq c) c):CqM (wl l) (zf1 hd l):=by
 have:=zBH (hd:=hd) zH0 hl;rw[Z26]at this;exact this
def fn23:pr.fn 23=some g23:=by kernel_rfl
def fn5:pr.fn 5=some g5:=by kernel_rfl
def zyH(l:List Str)(x:Str)(hl:l.length<1000000):Ans pr 23 [zaM l,.s x] (.b (l.any (· ==x))):=by
  refine zb6 fn23 ?_;simp only[g23,rU];simp -implicitDefEqProofs [rR,st0,zah,zcb];refine zfa l (· ==x) (fun n s=>s.tm.get 0=some (.f (zaM l))/\s.tm.get 1=some (.f (.s x))/\s.tm.get 5=some (.f (.i .i64 n))) (fun x s=>x= .exit 0) (fun n y s=>y= .ret/\s.tm.get 4=some (.f (.b true))) ?_ ?_ _ ?_ ?_ ?_
  . rintro n s hn ⟨h0,h1,h5⟩;have hw:=zao n (by omega)
    by_cases he:l[n]=x
    . simp -implicitDefEqProofs [rR,h0,h1,h5,zbN,zco,hn,he]
    . simp -implicitDefEqProofs [rR,h0,h1,h5,zbN,zco,hn,he,hw]
  . rintro s ⟨h0,h1,h5⟩;simp -implicitDefEqProofs [rR,h0,h1,h5,zbN]
  . simp -implicitDefEqProofs [rR,st0,zah]
  . rintro h x s rfl;rw[zP3 h];simp -implicitDefEqProofs [rR,st0]
  . rintro n hn hp _ x s ⟨rfl,h4⟩;rw[zKg hn hp];simp -implicitDefEqProofs [rR,h4]
def zjZ(a b:CQ):CQ:=⟨a.as++b.as,a.cs++b.cs,true,true⟩
def zB0(h:Nat->Option Ob)(c:CQ):elemsOf 3 h (.f (zaS c))=some ((c.as.map atF).map (·.map D.f),[]):=by
 unfold zaS Sm.asF;split
 .rename_i hh;rw[hh.2];rfl
 .exact zB2 rfl
def zB1(h:Nat->Option Ob)(c:CQ):elemsOf 9 h (.f (zaQ c))=some ((c.cs.map cmF).map (·.map D.f),[]):=by
 unfold zaQ csF;split
 .rename_i hh;rw[hh.2];rfl
 .exact zB2 rfl
def ans5(a b:CQ)(ha:CqSm a)(hb:CqSm b)(hna:a.as≠[])(hnb:b.as≠[])(hC:a.cs=[])(hE:b.cs=[]):Ans pr 5 [.ag (cqF a),.ag (cqF b)] (.ag (cqF (zjZ a b))):=by
 refine zb6 fn5 ?_;simp only[g5,rU];simp -implicitDefEqProofs [rR,st0,zah,cqE,zbO,zbQ];refine zaF ?_;have eA:=fun h=>zB0 h a
 have eB:=fun h=>zB0 h b
 have eC:=fun h=>zB1 h a
 have eE:=fun h=>zB1 h b
 have fr:∀(l:List (List F)) h k,zaV (frz h (k+1)) (l.map (·.map D.f))=some (l,[]):=fun l h k=>ziF h k l
 have fA:∀h,zaV (frz h 10) (a.as.map fun x=>(atF x).map D.f)=some (a.as.map atF,[]):=fun h=>by simpa [Z34,Z68]using fr (a.as.map atF) h 9
 have fB:∀h,zaV (frz h 10) (b.as.map fun x=>(atF x).map D.f)=some (b.as.map atF,[]):=fun h=>by simpa [Z34,Z68]using fr (b.as.map atF) h 9
 have lA:((a.as.map atF).map (·.map D.f)).length=a.as.length:=by simp
 have lB:((b.as.map atF).map (·.map D.f)).length=b.as.length:=by simp
 have hA0:0<a.as.length:=Z130.2 hna;have hB0:0<b.as.length:=Z130.2 hnb;have hA1:=ha.sa;have hB1:=hb.sa;have hr1:zaS (zjZ a b)=F.sl 3 (a.as.map atF++b.as.map atF):=by
  unfold zaS Sm.asF;split
  .rename_i hh;exact absurd (Z142.1 hh.2).1 hna
  .have e:(zjZ a b).as.map atF=a.as.map atF++b.as.map atF:=by simp[zjZ]
   rw[e,zdz (by simp[hna])]
 have hr2:zaQ (zjZ a b)=F.sl 9 []:=by
  simp[zaQ,csF,zjZ,hC,hE,slc]
 rw[hr1,hr2];have m1:(a.as.length<=zak)=True:=za2 (by omega);have m2:(a.as.length*48<=zak)=True:=za2 (by omega);have m3:(a.as.length+b.as.length<=zak)=True:=za2 (by omega);have m4:((a.as.length+b.as.length)*48<=zak)=True:=za2 (by omega);have m5:(a.as.length+b.as.length<=a.as.length)=False:=leF (by omega);have tA:List.take (a.as.length+b.as.length) ((a.as.map fun x=>(atF x).map D.f)++(b.as.map fun x=>(atF x).map D.f))=(a.as.map fun x=>(atF x).map D.f)++(b.as.map fun x=>(atF x).map D.f):=Z12 (by simp);simp -implicitDefEqProofs [rR,eA,eB,eC,eE,hC,hE,hna,hnb,zah,m1,m2,m3,m4,m5,fA,fB,tA]
def fn61:pr.fn 61=some g61:=by kernel_rfl
def fn45:pr.fn 45=some g45:=by kernel_rfl
def fn25:pr.fn 25=some g25:=by kernel_rfl
def sbT(s:Str)(t u:Trm):Trm:=if u= .var s then t else u
def ans61(t:Trm)(s:Str)(b:Trm)(ht:zaL t)(hb:zaL b)(hs:s≠[]):Ans pr 61 [.ag (tmF t),.s s,.ag (tmF b)] (.ag (tmF (sbT s b t))):=by
 refine zb6 fn61 ?_;simp only[g61,rU];unfold sbT;cases t with
 |cst n=>simp[rW,st0,zah,tmF,hs,Ne.symm hs]
 |var v=>
  by_cases e:v=s
  .subst e;cases b with
   |cst m=>simp[rW,st0,zah,tmF,hs]
   |var w=>
    have hw:w≠[]:=hb;simp[rW,st0,zah,tmF,hs,hw]
  .simp[rW,st0,zah,tmF,e]
def mpA(f:Trm->Trm)(a:Atm):Atm:=⟨a.r,a.neg,a.ts.map f⟩
def mpK(f:Trm->Trm)(k:Cm):Cm:=⟨k.op,f k.l,f k.r⟩
def mpC(f:Trm->Trm)(c:CQ):CQ:=⟨c.as.map (mpA f),c.cs.map (mpK f),false,false⟩
def YP1(s1:Str)(b:Trm)(q:CQ)(n:Nat)(s:St):Prop:=∃(B:D) (W:List (Atm×D)),W.map (·.1)=(q.as.take n).map (mpA (sbT s1 b))/\(s.tm.get 1=some (.f (.s s1))/\s.tm.get 3=some (.ptr 0 2 0 0)/\s.tm.get 5=some (.ptr 1 4 0 0)/\s.tm.get 6=some (.ptr 2 2 0 0)/\s.tm.get 7=some (.ptr 3 2 0 0)/\s.tm.get 8=some (.f (.i .i64 n))/\s.h.get 0=some (.arr 2 0 [[.f (zaS q),.f (zaQ q)]])/\s.h.get 1=some (.arr 4 0 [tmD b])/\s.h.get 2=some (.arr 2 0 [[.f .nils,.f .nils]])/\s.h.get 3=some (.arr 2 0 [[B,.f .nils]]))/\Gro s.h 4 s.c 3 B (zez W)/\(∀p∈W,Own s.h 4 s.c p.2 (zdD p.1.ts)/\∀x,p.2.oid=some x->B.oid≠some x)/\4<=s.c
def YP2(s0:St)(s1:Str)(b:Trm)(q:CQ)(A:Atm)(n X m:Nat)(s:St):Prop:=∃T:D,(s.tm.get 1=some (.f (.s s1))/\s.tm.get 3=some (.ptr 0 2 0 0)/\s.tm.get 5=some (.ptr 1 4 0 0)/\s.tm.get 6=some (.ptr 2 2 0 0)/\s.tm.get 7=some (.ptr 3 2 0 0)/\s.tm.get 8=some (.f (.i .i64 n))/\s.tm.get 9=some (.ptr X 3 0 0)/\s.tm.get 10=some (.f (.i .i64 m)))/\s.h.get X=some (.arr 3 0 [[.f (.s A.r),.f (.b A.neg),T]])/\Gro s.h (X+1) s.c 4 T ((A.ts.take m).map fun t=>tmD (sbT s1 b t))/\X+1<=s.c/\s0.c<=X/\(∀x,x<s0.c->s.h.get x=s0.h.get x)
def YP3(s0:St)(s1:Str)(b:Trm)(q:CQ)(B:D)(n:Nat)(s:St):Prop:=∃C:D,(s.tm.get 1=some (.f (.s s1))/\s.tm.get 3=some (.ptr 0 2 0 0)/\s.tm.get 5=some (.ptr 1 4 0 0)/\s.tm.get 6=some (.ptr 2 2 0 0)/\s.tm.get 7=some (.ptr 3 2 0 0)/\s.tm.get 11=some (.f (.i .i64 n)))/\s.h.get 3=some (.arr 2 0 [[B,C]])/\Gro s.h s0.c s.c 9 C ((q.cs.take n).map fun k=>cmD (mpK (sbT s1 b) k))/\s0.c<=s.c/\(∀x,x<s0.c->x≠3->s.h.get x=s0.h.get x)
def ans45(q:CQ)(s1:Str)(b:Trm)(hq:CqG q)(hcs:q.cs=[])(hs:s1≠[])(hb:zaL b):Ans pr 45 [.ag (cqF q),.s s1,.ag (tmF b)] (.ag (cqF (mpC (sbT s1 b) q))):=by
 refine zb6 fn45 ?_;simp only[g45,rU];simp only[tmE];simp[rW,st0,zah,cqE,zbO,zbQ];refine zdo q.as.length (YP1 s1 b q) (fun x s=>x= .exit 0/\YP1 s1 b q q.as.length s) ?_ ?_ _ ?_ ?_
 .rintro n s hn ⟨B,W,hW,⟨h1,h3,h5,h6,h7,h8,g0,g1,g2,g3⟩,hg,hall,hlo⟩;have hw:=zao n (by have:=hq.sa;omega);have hx:q.as[n]? =some q.as[n]:=Z0 hn;have hst:=hq.st _ (Z2 hn);have htn:=hq.tn _ (Z2 hn);have hok:=(hq.toCqSm.toCqOk.as _ (Z2 hn)).1;have htk:=Z7 hn;generalize hAn:q.as[n]=A at hx hst htk htn hok;simp[rW,h1,h3,h5,h6,h7,h8,g0,g1,g2,g3,hn,zeu];refine zaF ?_;simp[rW,h1,h3,h5,h6,h7,h8,g0,g1,g2,g3,hn,zeK,hx,hAn,atE,zib];obtain⟨X,hX⟩ :∃X,X=s.c+1+1+1+1+1+1+1+1+1+1+1+1+1:=⟨_,rfl⟩
  refine zdo A.ts.length (YP2 s s1 b q A n X) (fun x s'=>x= .exit 2/\YP2 s s1 b q A n X A.ts.length s') ?_ ?_ _ ?_ ?_
  .rintro m s' hm ⟨T,⟨h1,h3,h5,h6,h7,h8,h9,h10⟩,gA,hT,hXc,hsX,hlow⟩;have hw2:=zao m (by omega);have hx2:A.ts[m]? =some A.ts[m]:=Z0 hm;have hk2:=Z7 hm;have hot:=hok _ (Z2 hm);generalize hTm:A.ts[m]=t at hx2 hk2 hot;have q1:=fun k=>zav (k:=k) (ans61 t s1 b hot hb hs)
   simp only[tmE]at q1;have z0:=hlow 0 (by omega);have z1:=hlow 1 (by omega);rw[g0]at z0;rw[g1]at z1;simp only[tmD]at z1;have hXl:X<s'.c:=by omega
   simp[rW,h1,h3,h5,h6,h7,h8,h9,h10,z0,z1,hm,zeK,hx,hAn,atE,zh3];refine zaF ?_;simp[rW,h1,h3,h5,h6,h7,h8,h9,h10,z0,z1,gA,hm,zeK,hx,hAn,atE,zm7,hx2,hTm,tmE,q1];refine zfm (zbh (c':=s'.c+1+1+1+1+1+1+1+1+1+1+1+1+1+1+1) hT (by omega) fun _ _ _=>rfl) (by omega) (by simp;omega) (by omega) ?_;intro r hr1 hr2 hr3 hr4 hr5;have y1:=hr4 X (by omega) (zbi hT (by omega));rw[gA]at y1;refine⟨hr1,?_⟩;simp[rW,y1,zbj hr2];refine⟨by omega,r.d,?_,?_,?_,?_,hsX,fun x hx=> ?_⟩
   .simp[rW,h1,h3,h5,h6,h7,h8,h9,h10,hw2]
   .simp[rW,]
   .rw[hk2,Z21];refine zbh hr2 (by simp[rW,];omega) fun x h1 h2=> ?_
    have nx:¬(x=X):=by omega
    simp[rW,nx]
   .simp[rW,];omega
   .have nx:¬(x=X):=by omega
    simp[rW,nx];rw[hr4 x (by omega) (zbi hT (by omega)),hlow x hx]
  .rintro s' ⟨T,⟨h1,h3,h5,h6,h7,h8,h9,h10⟩,gA,hT,hXc,hsX,hlow⟩;have z0:=hlow 0 (by omega);rw[g0]at z0;rw[Z8]at hT;simp[rW,h1,h3,h5,h6,h7,h8,h9,h10,z0,hn,zeK,hx,hAn,atE,zh3];refine⟨T,?_,by simp[rW,];exact gA,by simp[rW,];exact hT,by simp[rW,];exact hXc,hsX,by simp[rW,];exact hlow⟩;simp[rW,h1,h3,h5,h6,h7,h8,h9,h10]
  .refine⟨.f .nils,?_,?_,.inl ⟨rfl,by simp⟩,?_,by omega,fun x hx=> ?_⟩
   .simp[rW,h1,h3,h5,h6,h7,h8,g0,g1,g2,g3,hX]
   .simp[rW,hX]
   .simp[rW,hX]
   .have nx:¬(x=s.c+1+1+1+1+1+1+1+1+1+1+1+1+1):=by omega
    simp[rW,nx]
  .rintro x s' ⟨rfl,T,⟨h1,h3,h5,h6,h7,h8,h9,-⟩,gA,hT,hXc,hsX,hlow⟩;rw[Z8]at hT;have z0:=hlow 0 (by omega);have z1:=hlow 1 (by omega);have z2:=hlow 2 (by omega);have z3:=hlow 3 (by omega);rw[g0]at z0;rw[g1]at z1;rw[g2]at z2;rw[g3]at z3;have hTe:(A.ts.map fun t=>tmD (sbT s1 b t))=(A.ts.map fun t=>tmF (sbT s1 b t)).map fun a=>a.map D.f:=by
    rw[Z34];exact Z69 fun t _=>(zAw _).symm
   have hTo:=hT;rw[hTe]at hTo;have hO:=ziV hTo;have hOe:slc 4 (A.ts.map fun t=>tmF (sbT s1 b t))=zdD (mpA (sbT s1 b) A).ts:=by
    unfold zdD mpA;rw[Z34];rfl
   rw[hOe]at hO;rcases hT with⟨rfl,e⟩ |⟨Z,ro,rfl,hXe,gX,hXr,hX1,hX2⟩
   .exact absurd (Z183.1 e) htn
   have hXl:X<s'.c:=by omega
   simp[rW,h1,h3,h5,h6,h7,h8,h9,gA,z3,zta];have hWl:(zez W).length<=12:=by
    have h1:W.length=(q.as.take n).length:=by
     have:=congrArg List.length hW;simpa using this
    have:=hq.sa;simp[zez,h1];omega
   have hB2:∀x,B.oid=some x->4<=x/\x<s.c:=fun x hx=>zdw hg hx
   refine zfm (zbh (c':=s'.c+1) hg (by omega) fun x h1 h2=> ?_) (by omega) (by simp;omega) (by omega) ?_
   .have nx:¬(x=s'.c):=by omega
    simp[TG,nx];exact hlow x h2
   intro r hr1 hr2 hr3 hr4 hr5;have hP:=hr4 3 (by omega) (zbi hg (by omega));have nP:¬(3=s'.c):=by omega
   simp[TG,nP,z3]at hP;have hr6:∀x,x<s'.c->B.oid≠some x->(wrT _ r.wr).get x=s'.h.get x:=fun x h1 h2=>by
    have nx:¬(x=s'.c):=by omega
    rw[hr4 x (by omega) h2];simp[TG,nx]
   refine⟨hr1,?_⟩;simp[rW,hP,zbj hr2];refine⟨by omega,r.d,W++[(mpA (sbT s1 b) A,.sl Z 0 (A.ts.map fun t=>tmD (sbT s1 b t)).length 4 (A.ts.map fun t=>tmD (sbT s1 b t)).length false)],by rw[htk];simp[hW],⟨?_,?_,?_,?_,?_,?_,?_,?_,?_,?_⟩,?_,?_,?_⟩
   .simp[rW,h1]
   .simp[rW,h3]
   .simp[rW,h5]
   .simp[rW,h6]
   .simp[rW,h7]
   .simp[rW,h8,hw]
   .simp[rW,];rw[hr6 0 (by omega) (zbi hg (by omega)),z0]
   .simp[rW,];rw[hr6 1 (by omega) (zbi hg (by omega)),z1]
   .simp[rW,];rw[hr6 2 (by omega) (zbi hg (by omega)),z2]
   .simp[rW,]
   .have e:zez (W++[(mpA (sbT s1 b) A,.sl Z 0 (A.ts.map fun t=>tmD (sbT s1 b t)).length 4 (A.ts.map fun t=>tmD (sbT s1 b t)).length false)])=zez W++[[.f (.s A.r),.f (.b A.neg),.sl Z 0 A.ts.length 4 A.ts.length false]]:=by simp[zez,mpA]
    rw[e];refine zbh hr2 (by simp[rW,]) fun x h1 h2=> ?_
    have nx:¬(x=3):=by omega
    simp[rW,nx]
   .intro p hp;rcases Z5.1 hp with hp|hp
    .obtain⟨o1,o2⟩ :=hall p hp;refine⟨o1.up (fun x hx=> ?_) (Z3 _) (by simp[rW,];omega),fun x hx hy=> ?_⟩
     .have hx2:=o1.2.2.1 x hx;have nx:¬(x=3):=by omega
      simp[rW,nx];rw[hr6 x (by omega) (o2 x hx),hlow x (by omega)]
     .have hx2:=o1.2.2.1 x hx;rcases hr5 x hy with e|e
      .omega
      .exact o2 x hx e
    .obtain rfl:p=(mpA (sbT s1 b) A,.sl Z 0 (A.ts.map fun t=>tmD (sbT s1 b t)).length 4 (A.ts.map fun t=>tmD (sbT s1 b t)).length false):=by simpa using hp
     refine⟨hO.up (fun x hx=> ?_) (by omega) (by simp[rW,];omega),fun x hx hy=> ?_⟩
     .have hx2:=hO.2.2.1 x hx;have nx:¬(x=3):=by omega
      simp[rW,nx];rw[hr6 x (by omega) (fun e=>by have:=zdw hg e;omega)]
     .have hx2:=hO.2.2.1 x hx;rcases hr5 x hy with e|e
      .omega
      .have:=zdw hg e;omega
   .simp[rW,];omega
 .rintro s ⟨B,W,hW,⟨h1,h3,h5,h6,h7,h8,g0,g1,g2,g3⟩,hg,hall,hlo⟩;simp[rW,h1,h3,h5,h6,h7,h8,g0,g1,g2,g3,zeu];refine⟨B,W,hW,?_,?_,fun p hp=> ?_,?_⟩
  .simp[rW,h1,h3,h5,h6,h7,h8,g0,g1,g2,g3]
  .simp[rW,];exact hg
  .simp[rW,];exact hall p hp
  .simp[rW,];exact hlo
 .refine⟨.f .nils,[],by simp,?_,.inl ⟨rfl,rfl⟩,by simp,?_⟩
  .simp[rW,tmD]
  .simp[rW,]
 .rintro x s ⟨rfl,B,W,hW,⟨h1,h3,h5,h6,h7,h8,g0,g1,g2,g3⟩,hg,hall,hlo⟩;rw[Z8]at hW;simp[rW,h1,h3,h5,h6,h7,h8,g0,g1,g2,g3];refine zdo q.cs.length (YP3 s s1 b q B) (fun x s'=>x= .exit 4/\YP3 s s1 b q B q.cs.length s') ?_ ?_ _ ?_ ?_
  .intro n s' hn;rw[hcs]at hn;exact absurd hn (Nat.not_lt_zero n)
  .rintro s' ⟨C,⟨h1,h3,h5,h6,h7,h11⟩,gC,hC,hlo',hlow⟩;have z0:=hlow 0 (by omega) (by decide);rw[g0]at z0;simp[rW,h1,h3,h5,h6,h7,h11,z0,zhH];refine⟨C,?_,?_,?_,?_,fun x hx hx2=> ?_⟩
   .simp[rW,h1,h3,h5,h6,h7,h11]
   .simp[rW,];exact gC
   .rw[Z8]at hC;simp[rW,];exact hC
   .simp[rW,];exact hlo'
   .simp[rW,];exact hlow x hx hx2
  .refine⟨.f .nils,?_,?_,.inl ⟨rfl,by simp⟩,?_,fun x hx hx2=> ?_⟩
   .simp[rW,h1,h3,h5,h6,h7,h8]
   .simp[rW,];exact g3
   .simp[rW,]
   .simp[rW,]
  .rintro x s' ⟨rfl,C,⟨h1,h3,h5,h6,h7,h11⟩,gC,hC,hlo',hlow⟩;rw[Z8]at hC;have z2:=hlow 2 (by omega) (by decide);rw[g2]at z2;have hBc:B.cells=some [B]:=zbj hg;have hCc:C.cells=some [C]:=zbj hC;simp[rW,h1,h3,h5,h6,h7,h11,gC,z2,hBc,hCc];have hup:∀x,x≠2->(s'.h.set 2 (.arr 2 0 [[B,C]])).get x=s'.h.get x:=fun x hx=>by simp[TG,hx]
   have hh:∀x,4<=x->x<s.c->(s'.h.set 2 (.arr 2 0 [[B,C]])).get x=s.h.get x:=fun x h1 h2=>by
    rw[hup x (by omega),hlow x h2 (by omega)]
   have f1:∃rd,frz (s'.h.set 2 (.arr 2 0 [[B,C]])).get 11 B=some (zaS (mpC (sbT s1 b) q),rd):=by
    obtain⟨rd,h1⟩ :=zju (h:=s'.h.set 2 (.arr 2 0 [[B,C]])) (lo:=4) (c:=s.c) 8 (W:=W) fun p hp=>(hall p hp).1.up (fun x hx=>by
     have:=(hall p hp).1.2.2.1 x hx;exact hh x this.1 this.2) (Z3 _) (Z3 _)
    have:=zov (zbh hg (Z3 _) hh) h1 (by simp[zez]);rw[show slc 3 (W.map fun p=>atF p.1)=zaS (mpC (sbT s1 b) q)from by
     unfold zaS Sm.asF;rw[Z50 (by simp[mpC])];show _=slc 3 ((q.as.map (mpA (sbT s1 b))).map atF);rw[<-hW,Z34];rfl]at this
    exact this
   have f2:∃rd,frz (s'.h.set 2 (.arr 2 0 [[B,C]])).get 11 C=some (zaQ (mpC (sbT s1 b) q),rd):=by
    have hCe:(q.cs.map fun k=>cmD (mpK (sbT s1 b) k))=(q.cs.map fun k=>cmF (mpK (sbT s1 b) k)).map fun a=>a.map D.f:=by
     rw[Z34];exact Z69 fun k _=>(zyU _).symm
    rw[hCe]at hC;have o:=ziV hC;have e:slc 9 (q.cs.map fun k=>cmF (mpK (sbT s1 b) k))=zaQ (mpC (sbT s1 b) q):=by
     unfold zaQ csF;rw[Z50 (by simp[mpC])];show _=slc 9 ((q.cs.map (mpK (sbT s1 b))).map cmF);rw[Z34];rfl
    rw[e]at o;exact o.2.2.2 _ (fun x hx=>by
     have h1:=o.2.2.1 x hx;rw[hup x (by omega)]) 9
   obtain⟨r1,f1⟩ :=f1;obtain⟨r2,f2⟩ :=f2;simp[rW,f1,f2];omega
def ans25(q:CQ)(s w:Str)(hs:s≠[])(hw:w≠[])(hq:CqG q)(hcs:q.cs=[]):Ans pr 25 [.ag (cqF q),.s s,.s w] (.ag (cqF (mpC (sbT s (.var w)) q))):=by
 refine zb6 fn25 ?_;simp only[g25,rU];have q1:=fun k=>zav (k:=k) (ans45 q s (.var w) hq hcs hs hw)
 simp only[cqE,tmF]at q1|-;simp[rW,st0,zah,hs,hw,zbO,zbQ,q1]
end Go.Proofs.YtflgmemhalhdbaaGreatDoor
end
