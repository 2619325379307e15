/- The law's loops over the schemas and the patterns. -/
import Derived.Test.YtdonnbdegnkflaaGreatDoorPd
import Derived.KernelRfl
import Derived.IntWalk
import Derived.Test.YtdonnbdegnkflaaGreatDoorPc
set_option linter.all false
set_option maxRecDepth 100000
set_option maxHeartbeats 4000000
noncomputable section
section
namespace Go.Proofs.YtdonnbdegnkflaaGreatDoor
open Go Go.Vse Go.Vse.Sm
def fn7:pr.fn 7=some g7:=by kernel_rfl
def fn3:pr.fn 3=some g3:=by kernel_rfl
def HR0(h h':T Ob):Prop:=∀x es ro els,h.get x=some (.arr es ro els)->∃ro',h'.get x=some (.arr es ro' els)
def HR0.rfl'{h:T Ob}:HR0 h h:=fun _ _ ro _ e=>⟨ro,e⟩
def HR0.trans{a b c:T Ob}(h1:HR0 a b)(h2:HR0 b c):HR0 a c:=fun x es ro els e=>by
 obtain⟨r1,e1⟩ :=h1 x es ro els e;exact h2 x es r1 els e1
def HR0.mk{h:T Ob}{C es ro r2:Nat}{E:List (List D)}(g:h.get C=some (.arr es ro E)):HR0 h (h.set C (.arr es r2 E)):=fun x es' ro' els e=>by
 by_cases hx:x=C
 .subst hx;rw[g]at e;cases e;exact⟨r2,by rw[T.zaM,Z51 rfl]⟩
 .exact⟨ro',by rw[T.zaM,Z49 hx];exact e⟩
def HR0.new{h:T Ob}{c:Nat}{o:Ob}(g:h.get c=none):HR0 h (h.set c o):=fun x es' ro' els e=>by
 have hx:x≠c:=fun hx=>by rw[hx,g]at e;cases e
 exact⟨ro',by rw[T.zaM,Z49 hx];exact e⟩
def zyA(h:T Ob)(d:D)(X:F):Prop:=(d= .f X/\X= .nils)\/∃C ro E L,d= .sl C 0 E.length 3 E.length true/\h.get C=some (.arr 3 ro E)/\(∀h',zbi (frz h' 10) E=some (L,[]))/\X= .sl 3 L/\7<=C/\C<14
def NmD(h:T Ob)(d:D)(X:F):Prop:=(d= .f X/\X= .nils)\/∃C ro E L,d= .sl C 0 E.length 1 E.length true/\h.get C=some (.arr 1 ro E)/\(∀h',zbi (frz h' 11) E=some (L,[]))/\X= .sl 1 L/\3<=C/\C<7
def zyA.hr{h h':T Ob}{d:D}{X:F}(H:zyA h d X)(hh:HR0 h h'):zyA h' d X:=by
 rcases H with H|⟨C,ro,E,L,h1,h2,h3⟩
 .exact .inl H
 .obtain⟨r,e⟩ :=hh C _ _ _ h2;exact .inr ⟨C,r,E,L,h1,e,h3⟩
def NmD.hr{h h':T Ob}{d:D}{X:F}(H:NmD h d X)(hh:HR0 h h'):NmD h' d X:=by
 rcases H with H|⟨C,ro,E,L,h1,h2,h3⟩
 .exact .inl H
 .obtain⟨r,e⟩ :=hh C _ _ _ h2;exact .inr ⟨C,r,E,L,h1,e,h3⟩
def LB(i j:Int)(R:F)(hd:List Str)(L:List CQ)(a b:CQ)(dn:D)(X:F)(rows:List (List D))(s:St):Prop:=(s.tm.get 5=some (.f (.i .i8 i))/\s.tm.get 6=some (.f (.i .i8 j))/\s.tm.get 15=some (.f R)/\s.tm.get 16=some (.ptr 0 2 0 0)/\s.tm.get 17=some (.ptr 1 2 0 0)/\s.tm.get 18=some (.ptr 2 2 0 0)/\s.tm.get 19=some (dn)/\s.tm.get 20=some (.sl 14 0 5 3 5 false))/\(∃r,s.h.get 0=some (.arr 2 r [[.f (zbQ hd),.f (qsF L)]]))/\(∃r,s.h.get 1=some (.arr 2 r [[.f (zgO a),.f (zgQ a)]]))/\(∃r,s.h.get 2=some (.arr 2 r [[.f (zgO b),.f (zgQ b)]]))/\(∃r,s.h.get 14=some (.arr 3 r rows))/\NmD s.h dn X/\(∀(k:Nat) (S:Sch),zlh[k]? =some S->∃dC,rows[k]? =some [.f (.s S.nm),.f (.b S.ce),dC]/\zyA s.h dC (zkX S.co))/\15<=s.c
def LB.up{i j:Int}{R:F}{hd:List Str}{L:List CQ}{a b:CQ}{dn:D}{X:F}{rows:List (List D)}{s S:St}(H:LB i j R hd L a b dn X rows s)(hc:s.c<=S.c)(hh:HR0 s.h S.h)(t5:S.tm.get 5=s.tm.get 5)(t6:S.tm.get 6=s.tm.get 6)(t15:S.tm.get 15=s.tm.get 15)(t16:S.tm.get 16=s.tm.get 16)(t17:S.tm.get 17=s.tm.get 17)(t18:S.tm.get 18=s.tm.get 18)(t19:S.tm.get 19=s.tm.get 19)(t20:S.tm.get 20=s.tm.get 20):LB i j R hd L a b dn X rows S:=by
 obtain⟨⟨h5,h6,h15,h16,h17,h18,h19,h20⟩,⟨r0,g0⟩,⟨r1,g1⟩,⟨r2,g2⟩,⟨r3,g3⟩,hN,hC,hlo⟩ :=H;exact⟨⟨t5.trans h5,t6.trans h6,t15.trans h15,t16.trans h16,t17.trans h17,t18.trans h18,t19.trans h19,t20.trans h20⟩,hh _ _ _ _ g0,hh _ _ _ _ g1,hh _ _ _ _ g2,hh _ _ _ _ g3,hN.hr hh,fun k S hk=>by obtain⟨dC,e,h⟩ :=hC k S hk;exact⟨dC,e,h.hr hh⟩,by omega⟩
def zFf:C:=(.seq (oD [oM 59 23,oF 60 0 18,oK 61 1 60,oR 62 (.len (.t 61)),oR 63 (.bin .leq (.t 59) (.t 62))] 63 .skip (.exit 4))
 (.seq (.blk 5 (.seq (.dreg [(oM 66 20,0),(oM 67 21,1),(oI 68 3 66 67,0),(oL 69 3 68,0),(oL 70 2 17,15),(oM 71 22,31),(oL 72 2 18,63),(oM 73 23,127),(oM 74 19,255),(oR 75 (.callp 8 [(.t 69),(.t 70),(.t 71),(.t 72),(.t 73),(.t 74)]),0),(oM 76 20,1023),(oM 77 21,2047),(oI 78 3 76 77,1023),(oL 79 3 78,1023),(oL 80 2 17,16383),(oM 81 22,32767),(oL 82 2 18,65535),(oM 83 23,131071),(oM 84 19,262143),(oR 85 (.callp 9 [(.t 79),(.t 80),(.t 81),(.t 82),(.t 83),(.t 84)]),0),(oR 86 (.eqb true (.t 75) (.t 85)),0)])
 (.cond (.t 86) (oZ [oR 14 (.mv (.k (.b false)))]
 .ret) .skip)))
 (.reg [oM 64 23,oR 65 (.bin .add (.t 64) (.k (.i .i64 1))),oM 23 65])))
def L4(i j:Int)(R:F)(hd:List Str)(L:List CQ)(a b:CQ)(dn:D)(X:F)(rows:List (List D))(k:Nat)(t:Int)(u:Nat)(s:St):Prop:=LB i j R hd L a b dn X rows s/\s.tm.get 21=some (.f (.i .i64 k))/\s.tm.get 22=some (.f (.i .i64 t))/\s.tm.get 23=some (.f (.i .i64 ((u:Int) - 1)))
def k4(i j:Int)(R:F)(hd:List Str)(L:List CQ)(a b:CQ)(ha:CqG a)(hb:CqG b)(dn:D)(ps:List Str)(hps:ps.length<10)(rows:List (List D))(k:Nat)(S:Sch)(hk:zlh[k]? =some S)(t:Int){Q:Ex->St->Prop}(s:St)(h:L4 i j R hd L a b dn (zbQ ps) rows k t 0 s)(hQ:∀s,L4 i j R hd L a b dn (zbQ ps) rows k t (b.as.length+2) s->Q (.exit 4) s):WL pr zFf s Q:=by
 have hk5:k<5:=by
  rcases Z145 k 5 with h|h
  .exact h
  .rw[Z97 (by simpa [zlh]using h)]at hk;cases hk
 have hOk:=zKN S (Z39 hk);have hsa:=hb.sa;refine zjr (b.as.length+2) (L4 i j R hd L a b dn (zbQ ps) rows k t) (fun e s=>e= .exit 4/\L4 i j R hd L a b dn (zbQ ps) rows k t (b.as.length+2) s) ?_ ?_ _ h (by rintro e s ⟨rfl,h⟩;exact hQ s h)
 .clear h hQ s;rintro u s hu ⟨hB,h21,h22,h23⟩;unfold zFf;simp only[rU];have hw:IntKind.i64.wrap ((u:Int) - 1+1)=((u+1:Nat):Int) - 1:=by
   rw[wrap_i64 _ (by omega) (by omega)];omega
  have hle:(u:Int) - 1<=b.as.length:=by omega
  have q8:=fun f=>zah (k:=f) (ans8 S hOk.1 a b t ((u:Int) - 1) ps ha hb (by omega))
  have q9:=fun f=>zah (k:=f) (ans9 S hOk a b t ((u:Int) - 1) ps ha hb (by omega))
  generalize ind S a t b ((u:Int) - 1) ps=v at q8 q9;simp only[cqE,zgT]at q8 q9;obtain⟨⟨h5,h6,h15,h16,h17,h18,h19,h20⟩,⟨r0,g0⟩,⟨r1,g1⟩,⟨r2,g2⟩,⟨r3,g3⟩,hN,hC,hlo⟩ :=id hB;obtain⟨dC,hrow,hcol⟩ :=hC k S hk;have hrk:∀h:k<rows.length,rows[k]=[.f (.s S.nm),.f (.b S.ce),dC]:=fun h=>by
   rw[Z0 h]at hrow;exact Z53 hrow
  generalize zbQ ps=X at*;generalize zkX S.co=Y at*;have e1:((u+1:Nat):Int) - 1=u:=by omega
  have hw1:IntKind.i64.wrap (u:Int)=u:=wrap_i64 _ (by omega) (by omega);have e1:((u+1:Nat):Int) - 1=u:=by omega
  have hw1:IntKind.i64.wrap (u:Int)=u:=wrap_i64 _ (by omega) (by omega);have e1:((u+1:Nat):Int) - 1=u:=by omega
  have hw1:IntKind.i64.wrap (u:Int)=u:=wrap_i64 _ (by omega) (by omega);have fin:∀T:St,s.c<=T.c->HR0 s.h T.h->T.tm.get 5=s.tm.get 5->T.tm.get 6=s.tm.get 6->T.tm.get 15=s.tm.get 15->T.tm.get 16=s.tm.get 16->T.tm.get 17=s.tm.get 17->T.tm.get 18=s.tm.get 18->T.tm.get 19=s.tm.get 19->T.tm.get 20=s.tm.get 20->T.tm.get 21=s.tm.get 21->T.tm.get 22=s.tm.get 22->T.tm.get 23=some (.f (.i .i64 (u:Int)))->L4 i j R hd L a b dn X rows k t (u+1) T:=fun T c1 c2 c3 c4 c5 c6 c7 c8 c9 c10 c11 c12 c13=>⟨hB.up c1 c2 c3 c4 c5 c6 c7 c8 c9 c10,c11.trans h21,c12.trans h22,by rw[c13,e1]⟩
  have hvv:(v==v)=true:=by simp
  rcases hcol with⟨rfl,rfl⟩ |⟨C,rc,E,LC,rfl,gC,hE,rfl,hC1,hC2⟩
  .rcases hN with⟨rfl,rfl⟩ |⟨N,rn,E2,LN,rfl,gN,hE2,rfl,hN1,hN2⟩
   .simp -implicitDefEqProofs [rW,h18,h23,g2,hle,zaV];refine zaC ?_;simp -implicitDefEqProofs [rW,h17,h18,h19,h20,h21,h22,h23,g1,g2,g3,hk5,hrow,hrk,za1,za2,q8,q9,hvv,hw1];refine fin _ (by simp -implicitDefEqProofs [rW,]<;>omega) ?_ (by simp -implicitDefEqProofs [rW,]) (by simp -implicitDefEqProofs [rW,]) (by simp -implicitDefEqProofs [rW,]) (by simp -implicitDefEqProofs [rW,]) (by simp -implicitDefEqProofs [rW,]) (by simp -implicitDefEqProofs [rW,]) (by simp -implicitDefEqProofs [rW,]) (by simp -implicitDefEqProofs [rW,]) (by simp -implicitDefEqProofs [rW,]) (by simp -implicitDefEqProofs [rW,]) (by simp -implicitDefEqProofs [rW,hw1]);simp -implicitDefEqProofs [rW,];exact HR0.rfl'
   .have n5:¬N=14:=by omega
    have n6:¬14=N:=by omega
    have n11:¬N=1:=by omega
    have n12:¬1=N:=by omega
    have n13:¬N=2:=by omega
    have n14:¬2=N:=by omega
    by_cases hm2:E2.length<=rn
    .simp -implicitDefEqProofs [rW,h18,h23,g2,hle,zaV];refine zaC ?_;simp -implicitDefEqProofs [rW,h17,h18,h19,h20,h21,h22,h23,g1,g2,g3,hk5,hrow,hrk,za1,za2,gN,hE2,hm2,n5,n6,n11,n12,n13,n14,q8,q9,hvv,hw1];refine fin _ (by simp -implicitDefEqProofs [rW,]<;>omega) ?_ (by simp -implicitDefEqProofs [rW,]) (by simp -implicitDefEqProofs [rW,]) (by simp -implicitDefEqProofs [rW,]) (by simp -implicitDefEqProofs [rW,]) (by simp -implicitDefEqProofs [rW,]) (by simp -implicitDefEqProofs [rW,]) (by simp -implicitDefEqProofs [rW,]) (by simp -implicitDefEqProofs [rW,]) (by simp -implicitDefEqProofs [rW,]) (by simp -implicitDefEqProofs [rW,]) (by simp -implicitDefEqProofs [rW,hw1]);simp -implicitDefEqProofs [rW,];exact HR0.rfl'
    .simp -implicitDefEqProofs [rW,h18,h23,g2,hle,zaV];refine zaC ?_;simp -implicitDefEqProofs [rW,h17,h18,h19,h20,h21,h22,h23,g1,g2,g3,hk5,hrow,hrk,za1,za2,gN,hE2,hm2,n5,n6,n11,n12,n13,n14,q8,q9,hvv,hw1]
     first|refine⟨⟨by omega,by omega⟩,?_⟩ |refine⟨by omega,?_⟩
     refine fin _ (by simp -implicitDefEqProofs [rW,]<;>omega) ?_ (by simp -implicitDefEqProofs [rW,]) (by simp -implicitDefEqProofs [rW,]) (by simp -implicitDefEqProofs [rW,]) (by simp -implicitDefEqProofs [rW,]) (by simp -implicitDefEqProofs [rW,]) (by simp -implicitDefEqProofs [rW,]) (by simp -implicitDefEqProofs [rW,]) (by simp -implicitDefEqProofs [rW,]) (by simp -implicitDefEqProofs [rW,]) (by simp -implicitDefEqProofs [rW,]) (by simp -implicitDefEqProofs [rW,hw1]);simp -implicitDefEqProofs [rW,];exact HR0.mk gN
  .have n3:¬C=14:=by omega
   have n4:¬14=C:=by omega
   have n7:¬C=1:=by omega
   have n8:¬1=C:=by omega
   have n9:¬C=2:=by omega
   have n10:¬2=C:=by omega
   rcases hN with⟨rfl,rfl⟩ |⟨N,rn,E2,LN,rfl,gN,hE2,rfl,hN1,hN2⟩
   .by_cases hm1:E.length<=rc
    .simp -implicitDefEqProofs [rW,h18,h23,g2,hle,zaV];refine zaC ?_;simp -implicitDefEqProofs [rW,h17,h18,h19,h20,h21,h22,h23,g1,g2,g3,hk5,hrow,hrk,za1,za2,gC,hE,hm1,n3,n4,n7,n8,n9,n10,q8,q9,hvv,hw1];refine fin _ (by simp -implicitDefEqProofs [rW,]<;>omega) ?_ (by simp -implicitDefEqProofs [rW,]) (by simp -implicitDefEqProofs [rW,]) (by simp -implicitDefEqProofs [rW,]) (by simp -implicitDefEqProofs [rW,]) (by simp -implicitDefEqProofs [rW,]) (by simp -implicitDefEqProofs [rW,]) (by simp -implicitDefEqProofs [rW,]) (by simp -implicitDefEqProofs [rW,]) (by simp -implicitDefEqProofs [rW,]) (by simp -implicitDefEqProofs [rW,]) (by simp -implicitDefEqProofs [rW,hw1]);simp -implicitDefEqProofs [rW,];exact HR0.rfl'
    .simp -implicitDefEqProofs [rW,h18,h23,g2,hle,zaV];refine zaC ?_;simp -implicitDefEqProofs [rW,h17,h18,h19,h20,h21,h22,h23,g1,g2,g3,hk5,hrow,hrk,za1,za2,gC,hE,hm1,n3,n4,n7,n8,n9,n10,q8,q9,hvv,hw1]
     first|refine⟨⟨by omega,by omega⟩,?_⟩ |refine⟨by omega,?_⟩
     refine fin _ (by simp -implicitDefEqProofs [rW,]<;>omega) ?_ (by simp -implicitDefEqProofs [rW,]) (by simp -implicitDefEqProofs [rW,]) (by simp -implicitDefEqProofs [rW,]) (by simp -implicitDefEqProofs [rW,]) (by simp -implicitDefEqProofs [rW,]) (by simp -implicitDefEqProofs [rW,]) (by simp -implicitDefEqProofs [rW,]) (by simp -implicitDefEqProofs [rW,]) (by simp -implicitDefEqProofs [rW,]) (by simp -implicitDefEqProofs [rW,]) (by simp -implicitDefEqProofs [rW,hw1]);simp -implicitDefEqProofs [rW,];exact HR0.mk gC
   .have n5:¬N=14:=by omega
    have n6:¬14=N:=by omega
    have n11:¬N=1:=by omega
    have n12:¬1=N:=by omega
    have n13:¬N=2:=by omega
    have n14:¬2=N:=by omega
    have n1:¬C=N:=by omega
    have n2:¬N=C:=by omega
    by_cases hm1:E.length<=rc
    .by_cases hm2:E2.length<=rn
     .simp -implicitDefEqProofs [rW,h18,h23,g2,hle,zaV];refine zaC ?_;simp -implicitDefEqProofs [rW,h17,h18,h19,h20,h21,h22,h23,g1,g2,g3,hk5,hrow,hrk,za1,za2,gC,hE,gN,hE2,hm1,hm2,n1,n2,n3,n4,n5,n6,n7,n8,n9,n10,n11,n12,n13,n14,q8,q9,hvv,hw1];refine fin _ (by simp -implicitDefEqProofs [rW,]<;>omega) ?_ (by simp -implicitDefEqProofs [rW,]) (by simp -implicitDefEqProofs [rW,]) (by simp -implicitDefEqProofs [rW,]) (by simp -implicitDefEqProofs [rW,]) (by simp -implicitDefEqProofs [rW,]) (by simp -implicitDefEqProofs [rW,]) (by simp -implicitDefEqProofs [rW,]) (by simp -implicitDefEqProofs [rW,]) (by simp -implicitDefEqProofs [rW,]) (by simp -implicitDefEqProofs [rW,]) (by simp -implicitDefEqProofs [rW,hw1]);simp -implicitDefEqProofs [rW,];exact HR0.rfl'
     .simp -implicitDefEqProofs [rW,h18,h23,g2,hle,zaV];refine zaC ?_;simp -implicitDefEqProofs [rW,h17,h18,h19,h20,h21,h22,h23,g1,g2,g3,hk5,hrow,hrk,za1,za2,gC,hE,gN,hE2,hm1,hm2,n1,n2,n3,n4,n5,n6,n7,n8,n9,n10,n11,n12,n13,n14,q8,q9,hvv,hw1]
      first|refine⟨⟨by omega,by omega⟩,?_⟩ |refine⟨by omega,?_⟩
      refine fin _ (by simp -implicitDefEqProofs [rW,]<;>omega) ?_ (by simp -implicitDefEqProofs [rW,]) (by simp -implicitDefEqProofs [rW,]) (by simp -implicitDefEqProofs [rW,]) (by simp -implicitDefEqProofs [rW,]) (by simp -implicitDefEqProofs [rW,]) (by simp -implicitDefEqProofs [rW,]) (by simp -implicitDefEqProofs [rW,]) (by simp -implicitDefEqProofs [rW,]) (by simp -implicitDefEqProofs [rW,]) (by simp -implicitDefEqProofs [rW,]) (by simp -implicitDefEqProofs [rW,hw1]);simp -implicitDefEqProofs [rW,];exact HR0.mk gN
    .by_cases hm2:E2.length<=rn
     .simp -implicitDefEqProofs [rW,h18,h23,g2,hle,zaV];refine zaC ?_;simp -implicitDefEqProofs [rW,h17,h18,h19,h20,h21,h22,h23,g1,g2,g3,hk5,hrow,hrk,za1,za2,gC,hE,gN,hE2,hm1,hm2,n1,n2,n3,n4,n5,n6,n7,n8,n9,n10,n11,n12,n13,n14,q8,q9,hvv,hw1]
      first|refine⟨⟨by omega,by omega⟩,?_⟩ |refine⟨by omega,?_⟩
      refine fin _ (by simp -implicitDefEqProofs [rW,]<;>omega) ?_ (by simp -implicitDefEqProofs [rW,]) (by simp -implicitDefEqProofs [rW,]) (by simp -implicitDefEqProofs [rW,]) (by simp -implicitDefEqProofs [rW,]) (by simp -implicitDefEqProofs [rW,]) (by simp -implicitDefEqProofs [rW,]) (by simp -implicitDefEqProofs [rW,]) (by simp -implicitDefEqProofs [rW,]) (by simp -implicitDefEqProofs [rW,]) (by simp -implicitDefEqProofs [rW,]) (by simp -implicitDefEqProofs [rW,hw1]);simp -implicitDefEqProofs [rW,];exact HR0.mk gC
     .simp -implicitDefEqProofs [rW,h18,h23,g2,hle,zaV];refine zaC ?_;simp -implicitDefEqProofs [rW,h17,h18,h19,h20,h21,h22,h23,g1,g2,g3,hk5,hrow,hrk,za1,za2,gC,hE,gN,hE2,hm1,hm2,n1,n2,n3,n4,n5,n6,n7,n8,n9,n10,n11,n12,n13,n14,q8,q9,hvv,hw1]
      first|refine⟨⟨by omega,by omega⟩,?_⟩ |refine⟨by omega,?_⟩
      refine fin _ (by simp -implicitDefEqProofs [rW,]<;>omega) ?_ (by simp -implicitDefEqProofs [rW,]) (by simp -implicitDefEqProofs [rW,]) (by simp -implicitDefEqProofs [rW,]) (by simp -implicitDefEqProofs [rW,]) (by simp -implicitDefEqProofs [rW,]) (by simp -implicitDefEqProofs [rW,]) (by simp -implicitDefEqProofs [rW,]) (by simp -implicitDefEqProofs [rW,]) (by simp -implicitDefEqProofs [rW,]) (by simp -implicitDefEqProofs [rW,]) (by simp -implicitDefEqProofs [rW,hw1]);simp -implicitDefEqProofs [rW,];exact (HR0.mk gC).trans (HR0.mk (by rw[TG,Z49 n2];exact gN))
 .rintro s ⟨hB,h21,h22,h23⟩;unfold zFf;simp only[rU];have hle:¬((b.as.length:Int)+1<=b.as.length):=by omega
  have e23:((b.as.length+2:Nat):Int) - 1=(b.as.length:Int)+1:=by omega
  rw[e23]at h23;obtain⟨⟨h5,h6,h15,h16,h17,h18,h19,h20⟩,⟨r0,g0⟩,⟨r1,g1⟩,⟨r2,g2⟩,⟨r3,g3⟩,hN,hC,hlo⟩ :=id hB;simp -implicitDefEqProofs [rW,h18,h23,g2,hle,zaV];refine⟨?_,?_⟩
  .exact hB.up (by simp -implicitDefEqProofs [rW,]) (by simp -implicitDefEqProofs [rW,];exact HR0.rfl') (by simp -implicitDefEqProofs [rW,]) (by simp -implicitDefEqProofs [rW,]) (by simp -implicitDefEqProofs [rW,]) (by simp -implicitDefEqProofs [rW,]) (by simp -implicitDefEqProofs [rW,]) (by simp -implicitDefEqProofs [rW,]) (by simp -implicitDefEqProofs [rW,]) (by simp -implicitDefEqProofs [rW,])
  .simp -implicitDefEqProofs [rW,h21,h22,h23];omega
def zFd:C:=(.seq (oD [oM 52 22,oF 53 0 17,oK 54 1 53,oR 55 (.len (.t 54)),oR 56 (.bin .leq (.t 52) (.t 55))] 56 .skip (.exit 2))
 (.seq (.blk 3 (oZ [oR 23 (.mv (.k (.i .i64 (-1))))]
 (.blk 4 (.loop zFf))))
 (.reg [oM 57 22,oR 58 (.bin .add (.t 57) (.k (.i .i64 1))),oM 22 58])))
def zLM:C:=(.seq (oD [oM 46 21,oM 47 20,oR 48 (.len (.t 47)),oR 49 (.bin .lss (.t 46) (.t 48))] 49 .skip (.exit 0))
 (.seq (.blk 1 (.seq (oZ [oR 22 (.mv (.k (.i .i64 (-1))))]
 (.blk 2 (.loop zFd)))
 (.seq (.dreg [(oM 87 20,0),(oM 88 21,1),(oI 89 3 87 88,0),(oL 90 3 89,0),(oL 91 2 17,15),(oM 92 5,31),(oL 94 2 17,63),(oM 95 6,127),(oM 97 19,255),(oM 99 20,511),(oM 100 21,1023),(oI 101 3 99 100,511),(oL 102 3 101,511),(oL 103 2 17,8191),(oM 104 5,16383),(oL 106 2 17,32767),(oM 107 6,65535),(oM 109 19,131071),(oR 93 (.cvi .i64 (.t 92)),262111),(oR 96 (.cvi .i64 (.t 95)),524159),(oR 98 (.callp 8 [(.t 90),(.t 91),(.t 93),(.t 94),(.t 96),(.t 97)]),261632),(oR 105 (.cvi .i64 (.t 104)),2080767),(oR 108 (.cvi .i64 (.t 107)),4128767),(oR 110 (.callp 9 [(.t 102),(.t 103),(.t 105),(.t 106),(.t 108),(.t 109)]),0),(oR 111 (.eqb true (.t 98) (.t 110)),0)])
 (.cond (.t 111) (oZ [oR 14 (.mv (.k (.b false)))]
 .ret) .skip))))
 (.reg [oM 50 21,oR 51 (.bin .add (.t 50) (.k (.i .i64 1))),oM 21 51])))
def L2(i j:Int)(R:F)(hd:List Str)(L:List CQ)(a b:CQ)(dn:D)(X:F)(rows:List (List D))(k:Nat)(t:Nat)(s:St):Prop:=LB i j R hd L a b dn X rows s/\s.tm.get 21=some (.f (.i .i64 k))/\s.tm.get 22=some (.f (.i .i64 ((t:Int) - 1)))
def k2(i j:Int)(R:F)(hd:List Str)(L:List CQ)(a b:CQ)(ha:CqG a)(hb:CqG b)(dn:D)(ps:List Str)(hps:ps.length<10)(rows:List (List D))(k:Nat)(S:Sch)(hk:zlh[k]? =some S){Q:Ex->St->Prop}(s:St)(h:L2 i j R hd L a b dn (zbQ ps) rows k 0 s)(hQ:∀s,L2 i j R hd L a b dn (zbQ ps) rows k (a.as.length+2) s->Q (.exit 2) s):WL pr zFd s Q:=by
 have hsa:=ha.sa;refine zjr (a.as.length+2) (L2 i j R hd L a b dn (zbQ ps) rows k) (fun e s=>e= .exit 2/\L2 i j R hd L a b dn (zbQ ps) rows k (a.as.length+2) s) ?_ ?_ _ h (by rintro e s ⟨rfl,h⟩;exact hQ s h)
 .clear h hQ s;rintro t s ht ⟨hB,h21,h22⟩;unfold zFd;simp only[rU];have hle:(t:Int) - 1<=a.as.length:=by omega
  have e1:((t+1:Nat):Int) - 1=t:=by omega
  have hw1:IntKind.i64.wrap (t:Int)=t:=wrap_i64 _ (by omega) (by omega);obtain⟨⟨h5,h6,h15,h16,h17,h18,h19,h20⟩,⟨r0,g0⟩,⟨r1,g1⟩,⟨r2,g2⟩,⟨r3,g3⟩,-,-,hlo⟩ :=id hB;simp -implicitDefEqProofs [rW,h17,h22,g1,hle,zaV];refine k4 i j R hd L a b ha hb dn ps hps rows k S hk ((t:Int) - 1) _ ⟨?_,?_⟩ ?_
  .exact hB.up (by simp -implicitDefEqProofs [rW,]) (by simp -implicitDefEqProofs [rW,];exact HR0.rfl') (by simp -implicitDefEqProofs [rW,]) (by simp -implicitDefEqProofs [rW,]) (by simp -implicitDefEqProofs [rW,]) (by simp -implicitDefEqProofs [rW,]) (by simp -implicitDefEqProofs [rW,]) (by simp -implicitDefEqProofs [rW,]) (by simp -implicitDefEqProofs [rW,]) (by simp -implicitDefEqProofs [rW,])
  .simp -implicitDefEqProofs [rW,h21,h22]
  .clear hB h21 h22 h5 h6 h15 h16 h17 h18 h19 h20 g0 g1 g2 g3 hlo;rintro s ⟨hB,h21,h22,h23⟩;simp -implicitDefEqProofs [rW,h22,hw1];refine⟨?_,?_⟩
   .exact hB.up (by simp -implicitDefEqProofs [rW,]) (by simp -implicitDefEqProofs [rW,];exact HR0.rfl') (by simp -implicitDefEqProofs [rW,]) (by simp -implicitDefEqProofs [rW,]) (by simp -implicitDefEqProofs [rW,]) (by simp -implicitDefEqProofs [rW,]) (by simp -implicitDefEqProofs [rW,]) (by simp -implicitDefEqProofs [rW,]) (by simp -implicitDefEqProofs [rW,]) (by simp -implicitDefEqProofs [rW,])
   .rw[e1];simp -implicitDefEqProofs [rW,h21,hw1]
 .rintro s ⟨hB,h21,h22⟩;unfold zFd;simp only[rU];have hle:¬((a.as.length:Int)+1<=a.as.length):=by omega
  have e22:((a.as.length+2:Nat):Int) - 1=(a.as.length:Int)+1:=by omega
  have h22':=h22;rw[e22]at h22;obtain⟨⟨h5,h6,h15,h16,h17,h18,h19,h20⟩,⟨r0,g0⟩,⟨r1,g1⟩,⟨r2,g2⟩,⟨r3,g3⟩,-,-,hlo⟩ :=id hB;simp -implicitDefEqProofs [rW,h17,h22,g1,hle,zaV];refine⟨?_,?_⟩
  .exact hB.up (by simp -implicitDefEqProofs [rW,]) (by simp -implicitDefEqProofs [rW,];exact HR0.rfl') (by simp -implicitDefEqProofs [rW,]) (by simp -implicitDefEqProofs [rW,]) (by simp -implicitDefEqProofs [rW,]) (by simp -implicitDefEqProofs [rW,]) (by simp -implicitDefEqProofs [rW,]) (by simp -implicitDefEqProofs [rW,]) (by simp -implicitDefEqProofs [rW,]) (by simp -implicitDefEqProofs [rW,])
  .simp -implicitDefEqProofs [rW,h21,h22];omega
def L0(i j:Int)(R:F)(hd:List Str)(L:List CQ)(a b:CQ)(dn:D)(X:F)(rows:List (List D))(k:Nat)(s:St):Prop:=LB i j R hd L a b dn X rows s/\s.tm.get 21=some (.f (.i .i64 k))
def k0(i j:Int)(R:F)(hd:List Str)(L:List CQ)(a b:CQ)(ha:CqG a)(hb:CqG b)(dn:D)(ps:List Str)(hps:ps.length<10)(rows:List (List D)){Q:Ex->St->Prop}(s:St)(h:L0 i j R hd L a b dn (zbQ ps) rows 0 s)(hQ:∀s,L0 i j R hd L a b dn (zbQ ps) rows 5 s->Q (.exit 0) s):WL pr zLM s Q:=by
 refine zjr 5 (L0 i j R hd L a b dn (zbQ ps) rows) (fun e s=>e= .exit 0/\L0 i j R hd L a b dn (zbQ ps) rows 5 s) ?_ ?_ _ h (by rintro e s ⟨rfl,h⟩;exact hQ s h)
 .clear h hQ s;rintro k s hk5 ⟨hB,h21⟩;unfold zLM;simp only[rU];have hw:=za5 k (by omega);have hk:zlh[k]? =some zlh[k]:=Z0 (by simpa [zlh]using hk5);generalize zlh[k]=S at hk;have hki:(k:Int)<5:=by omega
  obtain⟨⟨h5,h6,h15,h16,h17,h18,h19,h20⟩,-,-,-,-,-,-,hlo⟩ :=id hB;simp -implicitDefEqProofs [rW,h20,h21,hki,hk5];refine k2 i j R hd L a b ha hb dn ps hps rows k S hk _ ⟨?_,?_⟩ ?_
  .exact hB.up (by simp -implicitDefEqProofs [rW,]) (by simp -implicitDefEqProofs [rW,];exact HR0.rfl') (by simp -implicitDefEqProofs [rW,]) (by simp -implicitDefEqProofs [rW,]) (by simp -implicitDefEqProofs [rW,]) (by simp -implicitDefEqProofs [rW,]) (by simp -implicitDefEqProofs [rW,]) (by simp -implicitDefEqProofs [rW,]) (by simp -implicitDefEqProofs [rW,]) (by simp -implicitDefEqProofs [rW,])
  .simp -implicitDefEqProofs [rW,h21]
  .clear hB h21 h5 h6 h15 h16 h17 h18 h19 h20 hlo;rintro s ⟨hB,h21,h22⟩;have hOk:=zKN S (Z39 hk);have q8:=fun f=>zah (k:=f) (ans8 S hOk.1 a a (IntKind.i64.wrap i) (IntKind.i64.wrap j) ps ha ha (by omega))
   have q9:=fun f=>zah (k:=f) (ans9 S hOk a a (IntKind.i64.wrap i) (IntKind.i64.wrap j) ps ha ha (by omega))
   generalize ind S a (IntKind.i64.wrap i) a (IntKind.i64.wrap j) ps=v at q8 q9;simp only[cqE,zgT]at q8 q9;obtain⟨⟨h5,h6,h15,h16,h17,h18,h19,h20⟩,⟨r0,g0⟩,⟨r1,g1⟩,⟨r2,g2⟩,⟨r3,g3⟩,hN,hC,hlo⟩ :=id hB;obtain⟨dC,hrow,hcol⟩ :=hC k S hk;have hrk:∀h:k<rows.length,rows[k]=[.f (.s S.nm),.f (.b S.ce),dC]:=fun h=>by
    rw[Z0 h]at hrow;exact Z53 hrow
   generalize zbQ ps=X at*;generalize zkX S.co=Y at*;have hvv:(v==v)=true:=by simp
   have fin:∀T:St,s.c<=T.c->HR0 s.h T.h->T.tm.get 5=s.tm.get 5->T.tm.get 6=s.tm.get 6->T.tm.get 15=s.tm.get 15->T.tm.get 16=s.tm.get 16->T.tm.get 17=s.tm.get 17->T.tm.get 18=s.tm.get 18->T.tm.get 19=s.tm.get 19->T.tm.get 20=s.tm.get 20->T.tm.get 21=some (.f (.i .i64 ((k+1:Nat):Int)))->L0 i j R hd L a b dn X rows (k+1) T:=fun T c1 c2 c3 c4 c5 c6 c7 c8 c9 c10 c11=>⟨hB.up c1 c2 c3 c4 c5 c6 c7 c8 c9 c10,c11⟩
   rcases hcol with⟨rfl,rfl⟩ |⟨C,rc,E,LC,rfl,gC,hE,rfl,hC1,hC2⟩
   .rcases hN with⟨rfl,rfl⟩ |⟨N,rn,E2,LN,rfl,gN,hE2,rfl,hN1,hN2⟩
    .simp -implicitDefEqProofs [rW,];refine zaC ?_;simp -implicitDefEqProofs [rW,h5,h6,h17,h18,h19,h20,h21,g1,g2,g3,zjl,hk5,hrow,hrk,za1,za2,q8,q9,hvv,hw];refine fin _ (by simp -implicitDefEqProofs [rW,]<;>omega) ?_ (by simp -implicitDefEqProofs [rW,]) (by simp -implicitDefEqProofs [rW,]) (by simp -implicitDefEqProofs [rW,]) (by simp -implicitDefEqProofs [rW,]) (by simp -implicitDefEqProofs [rW,]) (by simp -implicitDefEqProofs [rW,]) (by simp -implicitDefEqProofs [rW,]) (by simp -implicitDefEqProofs [rW,]) (by simp -implicitDefEqProofs [rW,hw]);simp -implicitDefEqProofs [rW,];exact HR0.rfl'
    .have n5:¬N=14:=by omega
     have n6:¬14=N:=by omega
     have n11:¬N=1:=by omega
     have n12:¬1=N:=by omega
     have n13:¬N=2:=by omega
     have n14:¬2=N:=by omega
     by_cases hm2:E2.length<=rn
     .simp -implicitDefEqProofs [rW,];refine zaC ?_;simp -implicitDefEqProofs [rW,h5,h6,h17,h18,h19,h20,h21,g1,g2,g3,zjl,hk5,hrow,hrk,za1,za2,gN,hE2,hm2,n5,n6,n11,n12,n13,n14,q8,q9,hvv,hw];refine fin _ (by simp -implicitDefEqProofs [rW,]<;>omega) ?_ (by simp -implicitDefEqProofs [rW,]) (by simp -implicitDefEqProofs [rW,]) (by simp -implicitDefEqProofs [rW,]) (by simp -implicitDefEqProofs [rW,]) (by simp -implicitDefEqProofs [rW,]) (by simp -implicitDefEqProofs [rW,]) (by simp -implicitDefEqProofs [rW,]) (by simp -implicitDefEqProofs [rW,]) (by simp -implicitDefEqProofs [rW,hw]);simp -implicitDefEqProofs [rW,];exact HR0.rfl'
     .simp -implicitDefEqProofs [rW,];refine zaC ?_;simp -implicitDefEqProofs [rW,h5,h6,h17,h18,h19,h20,h21,g1,g2,g3,zjl,hk5,hrow,hrk,za1,za2,gN,hE2,hm2,n5,n6,n11,n12,n13,n14,q8,q9,hvv,hw]
      first|refine⟨⟨by omega,by omega⟩,?_⟩ |refine⟨by omega,?_⟩
      refine fin _ (by simp -implicitDefEqProofs [rW,]<;>omega) ?_ (by simp -implicitDefEqProofs [rW,]) (by simp -implicitDefEqProofs [rW,]) (by simp -implicitDefEqProofs [rW,]) (by simp -implicitDefEqProofs [rW,]) (by simp -implicitDefEqProofs [rW,]) (by simp -implicitDefEqProofs [rW,]) (by simp -implicitDefEqProofs [rW,]) (by simp -implicitDefEqProofs [rW,]) (by simp -implicitDefEqProofs [rW,hw]);simp -implicitDefEqProofs [rW,];exact HR0.mk gN
   .have n3:¬C=14:=by omega
    have n4:¬14=C:=by omega
    have n7:¬C=1:=by omega
    have n8:¬1=C:=by omega
    have n9:¬C=2:=by omega
    have n10:¬2=C:=by omega
    rcases hN with⟨rfl,rfl⟩ |⟨N,rn,E2,LN,rfl,gN,hE2,rfl,hN1,hN2⟩
    .by_cases hm1:E.length<=rc
     .simp -implicitDefEqProofs [rW,];refine zaC ?_;simp -implicitDefEqProofs [rW,h5,h6,h17,h18,h19,h20,h21,g1,g2,g3,zjl,hk5,hrow,hrk,za1,za2,gC,hE,hm1,n3,n4,n7,n8,n9,n10,q8,q9,hvv,hw];refine fin _ (by simp -implicitDefEqProofs [rW,]<;>omega) ?_ (by simp -implicitDefEqProofs [rW,]) (by simp -implicitDefEqProofs [rW,]) (by simp -implicitDefEqProofs [rW,]) (by simp -implicitDefEqProofs [rW,]) (by simp -implicitDefEqProofs [rW,]) (by simp -implicitDefEqProofs [rW,]) (by simp -implicitDefEqProofs [rW,]) (by simp -implicitDefEqProofs [rW,]) (by simp -implicitDefEqProofs [rW,hw]);simp -implicitDefEqProofs [rW,];exact HR0.rfl'
     .simp -implicitDefEqProofs [rW,];refine zaC ?_;simp -implicitDefEqProofs [rW,h5,h6,h17,h18,h19,h20,h21,g1,g2,g3,zjl,hk5,hrow,hrk,za1,za2,gC,hE,hm1,n3,n4,n7,n8,n9,n10,q8,q9,hvv,hw]
      first|refine⟨⟨by omega,by omega⟩,?_⟩ |refine⟨by omega,?_⟩
      refine fin _ (by simp -implicitDefEqProofs [rW,]<;>omega) ?_ (by simp -implicitDefEqProofs [rW,]) (by simp -implicitDefEqProofs [rW,]) (by simp -implicitDefEqProofs [rW,]) (by simp -implicitDefEqProofs [rW,]) (by simp -implicitDefEqProofs [rW,]) (by simp -implicitDefEqProofs [rW,]) (by simp -implicitDefEqProofs [rW,]) (by simp -implicitDefEqProofs [rW,]) (by simp -implicitDefEqProofs [rW,hw]);simp -implicitDefEqProofs [rW,];exact HR0.mk gC
    .have n5:¬N=14:=by omega
     have n6:¬14=N:=by omega
     have n11:¬N=1:=by omega
     have n12:¬1=N:=by omega
     have n13:¬N=2:=by omega
     have n14:¬2=N:=by omega
     have n1:¬C=N:=by omega
     have n2:¬N=C:=by omega
     by_cases hm1:E.length<=rc
     .by_cases hm2:E2.length<=rn
      .simp -implicitDefEqProofs [rW,];refine zaC ?_;simp -implicitDefEqProofs [rW,h5,h6,h17,h18,h19,h20,h21,g1,g2,g3,zjl,hk5,hrow,hrk,za1,za2,gC,hE,gN,hE2,hm1,hm2,n1,n2,n3,n4,n5,n6,n7,n8,n9,n10,n11,n12,n13,n14,q8,q9,hvv,hw];refine fin _ (by simp -implicitDefEqProofs [rW,]<;>omega) ?_ (by simp -implicitDefEqProofs [rW,]) (by simp -implicitDefEqProofs [rW,]) (by simp -implicitDefEqProofs [rW,]) (by simp -implicitDefEqProofs [rW,]) (by simp -implicitDefEqProofs [rW,]) (by simp -implicitDefEqProofs [rW,]) (by simp -implicitDefEqProofs [rW,]) (by simp -implicitDefEqProofs [rW,]) (by simp -implicitDefEqProofs [rW,hw]);simp -implicitDefEqProofs [rW,];exact HR0.rfl'
      .simp -implicitDefEqProofs [rW,];refine zaC ?_;simp -implicitDefEqProofs [rW,h5,h6,h17,h18,h19,h20,h21,g1,g2,g3,zjl,hk5,hrow,hrk,za1,za2,gC,hE,gN,hE2,hm1,hm2,n1,n2,n3,n4,n5,n6,n7,n8,n9,n10,n11,n12,n13,n14,q8,q9,hvv,hw]
       first|refine⟨⟨by omega,by omega⟩,?_⟩ |refine⟨by omega,?_⟩
       refine fin _ (by simp -implicitDefEqProofs [rW,]<;>omega) ?_ (by simp -implicitDefEqProofs [rW,]) (by simp -implicitDefEqProofs [rW,]) (by simp -implicitDefEqProofs [rW,]) (by simp -implicitDefEqProofs [rW,]) (by simp -implicitDefEqProofs [rW,]) (by simp -implicitDefEqProofs [rW,]) (by simp -implicitDefEqProofs [rW,]) (by simp -implicitDefEqProofs [rW,]) (by simp -implicitDefEqProofs [rW,hw]);simp -implicitDefEqProofs [rW,];exact HR0.mk gN
     .by_cases hm2:E2.length<=rn
      .simp -implicitDefEqProofs [rW,];refine zaC ?_;simp -implicitDefEqProofs [rW,h5,h6,h17,h18,h19,h20,h21,g1,g2,g3,zjl,hk5,hrow,hrk,za1,za2,gC,hE,gN,hE2,hm1,hm2,n1,n2,n3,n4,n5,n6,n7,n8,n9,n10,n11,n12,n13,n14,q8,q9,hvv,hw]
       first|refine⟨⟨by omega,by omega⟩,?_⟩ |refine⟨by omega,?_⟩
       refine fin _ (by simp -implicitDefEqProofs [rW,]<;>omega) ?_ (by simp -implicitDefEqProofs [rW,]) (by simp -implicitDefEqProofs [rW,]) (by simp -implicitDefEqProofs [rW,]) (by simp -implicitDefEqProofs [rW,]) (by simp -implicitDefEqProofs [rW,]) (by simp -implicitDefEqProofs [rW,]) (by simp -implicitDefEqProofs [rW,]) (by simp -implicitDefEqProofs [rW,]) (by simp -implicitDefEqProofs [rW,hw]);simp -implicitDefEqProofs [rW,];exact HR0.mk gC
      .simp -implicitDefEqProofs [rW,];refine zaC ?_;simp -implicitDefEqProofs [rW,h5,h6,h17,h18,h19,h20,h21,g1,g2,g3,zjl,hk5,hrow,hrk,za1,za2,gC,hE,gN,hE2,hm1,hm2,n1,n2,n3,n4,n5,n6,n7,n8,n9,n10,n11,n12,n13,n14,q8,q9,hvv,hw]
       first|refine⟨⟨by omega,by omega⟩,?_⟩ |refine⟨by omega,?_⟩
       refine fin _ (by simp -implicitDefEqProofs [rW,]<;>omega) ?_ (by simp -implicitDefEqProofs [rW,]) (by simp -implicitDefEqProofs [rW,]) (by simp -implicitDefEqProofs [rW,]) (by simp -implicitDefEqProofs [rW,]) (by simp -implicitDefEqProofs [rW,]) (by simp -implicitDefEqProofs [rW,]) (by simp -implicitDefEqProofs [rW,]) (by simp -implicitDefEqProofs [rW,]) (by simp -implicitDefEqProofs [rW,hw]);simp -implicitDefEqProofs [rW,];exact (HR0.mk gC).trans (HR0.mk (by rw[TG,Z49 n2];exact gN))
 .rintro s ⟨hB,h21⟩;unfold zLM;simp only[rU];obtain⟨⟨h5,h6,h15,h16,h17,h18,h19,h20⟩,-,-,-,-,-,-,hlo⟩ :=id hB;simp -implicitDefEqProofs [rW,h20,h21];refine⟨?_,?_⟩
  .exact hB.up (by simp -implicitDefEqProofs [rW,]) (by simp -implicitDefEqProofs [rW,];exact HR0.rfl') (by simp -implicitDefEqProofs [rW,]) (by simp -implicitDefEqProofs [rW,]) (by simp -implicitDefEqProofs [rW,]) (by simp -implicitDefEqProofs [rW,]) (by simp -implicitDefEqProofs [rW,]) (by simp -implicitDefEqProofs [rW,]) (by simp -implicitDefEqProofs [rW,]) (by simp -implicitDefEqProofs [rW,])
  .simp -implicitDefEqProofs [rW,h21]
def fn84:pr.fn 84=some g84:=by kernel_rfl
def fn43:pr.fn 43=some g43:=by kernel_rfl
def fn45:pr.fn 45=some g45:=by kernel_rfl
structure znS(SS:Nat->List F->Prop)(PP:List F->Prop):Prop where
 z:∃p,SS 0 p/\Ans pr 16 [.i .i64 0] (.ag p)
 pc:∀k p,SS k p->Pc p
 pp:∀p,PP p->Pc p
 add:∀k s p,k<3->SS k s->PP p->∃r,SS (k+1) r/\Ans pr 161 [.ag s,.ag p] (.ag r)
 prob:∀k s,SS k s->∃b,Ans pr 83 [.ag s] (.b b)
 norm:∀p,PP p->Ans pr 87 [.ag p] (.ag p)
def ixF(b:List Nat):F:= .sl 1 (b.map fun i=>[.i .i64 (i:Nat)])
def I73(SS:Nat->List F->Prop)(r:Rl)(b:List Nat)(k:Nat)(s:St):Prop:=
 ∃n:Nat,n<=b.length/\k=b.length - n/\s.tm.get 1=some (.f (ixF b))/\s.tm.get 2=some (.ptr 0 4 0 0)/\s.tm.get 4=some (.ptr 1 3 0 0)/\s.tm.get 5=some (.ptr 2 3 0 0)/\s.tm.get 6=some (.f (.i .i64 n))/\
  s.h.get 0=some (.arr 4 0 [[.f (.s r.nm),.f (.b r.ce),.f r.co,.f (slc 4 (r.tu.map tuF))]])/\s.h.get 1=some (.arr 3 0 [[.f (.b false),.f .nils,.f .nils]])/\3<=s.c/\
  ∃p0 p1 p2:F,SS n [p0,p1,p2]/\s.h.get 2=some (.arr 3 0 [[.f p0,.f p1,.f p2]])
def R73(SS:Nat->List F->Prop)(b:List Nat)(x:Ex)(s:St):Prop:=
 x= .exit 0/\s.tm.get 4=some (.ptr 1 3 0 0)/\s.tm.get 5=some (.ptr 2 3 0 0)/\s.h.get 1=some (.arr 3 0 [[.f (.b false),.f .nils,.f .nils]])/\3<=s.c/\∃p0 p1 p2:F,SS b.length [p0,p1,p2]/\s.h.get 2=some (.arr 3 0 [[.f p0,.f p1,.f p2]])
theorem ans84{SS:Nat->List F->Prop}{PP:List F->Prop}(hS:znS SS PP)(r:Rl)(hco:r.co.d= .f r.co)(hce:(D.f r.co).cells=some [.f r.co])(hT:∀t∈r.tu,PP t.2)(b:List Nat)(hb:b.length<=3)(hbi:∀i∈b,i<r.tu.length):
  ∃p,SS b.length p/\Ans pr 84 [.ag (rlF r),ixF b] (.ag p):=by
 have main:∃y,(∃p,y= .ag p/\SS b.length p)/\Ans pr 84 [.ag (rlF r),ixF b] y:=by
  refine zvX fn84 ?_;obtain⟨z,hz0,hz⟩ :=hS.z;obtain⟨z0,z1,z2,rfl,hd0,hd1,hd2⟩ :=hS.pc _ _ hz0;have q16:=fun k=>zah (k:=k) hz
  simp only[g84,rU];simp -implicitDefEqProofs [rR,st0,zao,rlF,ixF,hco,q16,hd0,hd1,hd2];refine zfU (I73 SS r b) (R73 SS b) ?_ b.length _ ⟨0,Z61 _,rfl,?_,?_,?_,?_,?_,?_,?_,?_,z0,z1,z2,hz0,?_⟩ ?_
  any_goals (simp -implicitDefEqProofs [rR,zao,ixF];done)
  .rintro k s ⟨n,hn,rfl,h1,h2,h4,h5,h6,g0,g1,hc,p0,p1,p2,hp,g2⟩;have hw:=za5 n (by omega);have c0:0<s.c:=by omega
   have c1:1<s.c:=by omega
   have c2:2<s.c:=by omega
   by_cases hlt:n<b.length
   .have hix:=hbi _ (Z1 hlt);have hpt:=hT _ (Z1 hix);obtain⟨x0,x1,x2,hx,_,_,_⟩ :=hS.pp _ hpt;have htu:tuF (r.tu[b[n]])=[valsF (r.tu[b[n]]).1,x0,x1,x2]:=by unfold tuF;rw[hx]
    obtain⟨w,hw1,hw2⟩ :=hS.add n _ _ (by omega) hp hpt;obtain⟨w0,w1,w2,rfl,he0,he1,he2⟩ :=hS.pc _ _ hw1;rw[hx]at hw2;have q113:=fun k=>zah (k:=k) hw2
    simp only[ixF]at h1;simp -implicitDefEqProofs [rR,h1,h2,h4,h5,h6,g0,g1,g2,hlt];refine zaC ?_;simp -implicitDefEqProofs [rR,h1,h2,h4,h5,h6,g0,g1,g2,hlt,hix,htu,q113,he0,he1,he2,c0,c1,c2,hw];rw[zev];refine⟨b.length - (n+1),by omega,n+1,by omega,rfl,?_,?_,?_,?_,?_,?_,?_,?_,w0,w1,w2,hw1,?_⟩
    all_goals simp -implicitDefEqProofs [rR,h1,h2,h4,h5,h6,g0,g1,g2,ixF,c0,c1,c2,hc]
   .have hnl:n=b.length:=by omega
    subst hnl;simp only[ixF]at h1;simp -implicitDefEqProofs [rR,h1,h6];exact⟨rfl,by simp -implicitDefEqProofs [rR,h4],by simp -implicitDefEqProofs [rR,h5],by simp -implicitDefEqProofs [rR,g1],by simp -implicitDefEqProofs [rR,hc],p0,p1,p2,hp,by simp -implicitDefEqProofs [rR,g2]⟩
  .rintro x s ⟨rfl,h4,h5,g1,hc,p0,p1,p2,hp,g2⟩;have c1:1<s.c:=by omega
   simp -implicitDefEqProofs [rR,h4,h5,g1,g2,c1];exact hp
 obtain⟨y,⟨p,rfl,hp⟩,ha⟩ :=main;exact⟨p,hp,ha⟩
def zj6(B:List (List Nat)):F:=slc 1 (B.map fun b=>[ixF b])
structure zg4(SS:Nat->List F->Prop)(PP:List F->Prop)(r:Rl):Prop where
 co:r.co.d= .f r.co
 cc:(D.f r.co).cells=some [.f r.co]
 v:Ans pr 81 [.ag [.s r.nm,.b r.ce,r.co]] (.b true)
 n:r.tu.length<=3
 p:∀t∈r.tu,PP t.2
 c:∀t∈r.tu,∃e,Ans pr 44 [.ag [.s r.nm,.b r.ce,r.co],.ag (tuF t)] (.i .i64 e)
 l:∀t∈r.tu,t.1.length<10
 g:∃B:List (List Nat),Ans pr 82 [.ag (rlF r)] (zj6 B)/\B.length<=3/\∀b∈B,b.length<=3/\∀i∈b,i<r.tu.length
abbrev V2(r:Rl)(s:St):Prop:=s.tm.get 1=some (.ptr 0 4 0 0)/\s.h.get 0=some (.arr 4 0 [[.f (.s r.nm),.f (.b r.ce),.f r.co,.f (slc 4 (r.tu.map tuF))]])/\1<=s.c
def I34(r:Rl)(k:Nat)(s:St):Prop:=∃n:Nat,n<=r.tu.length/\k=r.tu.length - n/\V2 r s/\s.tm.get 3=some (.f (.i .i64 n))
def R34(r:Rl)(x:Ex)(s:St):Prop:=(x= .exit 0/\V2 r s)\/(x= .ret/\∃e,s.tm.get 2=some (.f (.i .i64 e)))
def J34(r:Rl)(B:List (List Nat))(k:Nat)(s:St):Prop:=∃n:Nat,n<=B.length/\k=B.length - n/\V2 r s/\s.tm.get 6=some (.f (zj6 B))/\s.tm.get 7=some (.f (.i .i64 n))
def S34(r:Rl)(B:List (List Nat))(x:Ex)(s:St):Prop:=x= .exit 3/\V2 r s/\s.tm.get 6=some (.f (zj6 B))
def K34(r:Rl)(B:List (List Nat))(k:Nat)(s:St):Prop:=∃n:Nat,n<=B.length/\k=B.length - n/\V2 r s/\s.tm.get 6=some (.f (zj6 B))/\s.tm.get 8=some (.f (.i .i64 n))
def T34(x:Ex)(s:St):Prop:=x= .exit 5\/(x= .ret/\∃e,s.tm.get 2=some (.f (.i .i64 e)))
def zMH(b:List Nat):(ixF b).d= .f (ixF b):=rfl
def zacs(b:List Nat):zd5 (.f (ixF b))=some b.length:=by simp[ixF,zd5]
def blk_d(B:List (List Nat)):(zj6 B).d= .f (zj6 B):=zga ..
def znU(B:List (List Nat)):zd5 (.f (zj6 B))=some B.length:=by simp[zj6,zeQ]
def zzQ(B:List (List Nat))(n:Nat):iaB 1 (.f (zj6 B)) n=(B[n]?).map fun b=>D.fptr [ixF b]:=by simp[zj6,zfX,Z67]
def IsInt(y:F):Prop:=∃e,y= .i .i64 e
def zlo{SS:Nat->List F->Prop}{PP:List F->Prop}(hS:znS SS PP)(r:Rl)(hr:zg4 SS PP r):∃e,Ans pr 43 [.ag (rlF r)] (.i .i64 e):=by
 have main:∃y,IsInt y/\Ans pr 43 [.ag (rlF r)] y:=by
  refine zvX fn43 ?_;obtain⟨B,hB,hBn,hBb⟩ :=hr.g;have hnT:=hr.n;have hco:=hr.co;have q70:=fun k=>zah (k:=k) hr.v
  simp only[rlF]at hB;have q71:=fun k=>zah (k:=k) hB
  have h64:¬((64:Int)< (r.tu.length:Int)):=by omega
  simp only[g43,rU];simp -implicitDefEqProofs [rR,st0,zao,rlF,hco,q70,h64];refine zfU (I34 r) (R34 r) ?_ r.tu.length _ ⟨0,Z61 _,rfl,⟨?_,?_,?_⟩,?_⟩ ?_
  any_goals (simp -implicitDefEqProofs [rR,zao];done)
  .rintro k s ⟨n,hn,rfl,⟨h1,g0,hc⟩,h3⟩;have hw:=za5 n (by omega);have c0:0<s.c:=by omega
   by_cases hlt:n<r.tu.length
   .obtain⟨e,he⟩ :=hr.c _ (Z1 hlt);obtain⟨x0,x1,x2,hx,hd0,hd1,hd2⟩ :=hS.pp _ (hr.p _ (Z1 hlt));have htu:tuF (r.tu[n])=[valsF (r.tu[n]).1,x0,x1,x2]:=by unfold tuF;rw[hx]
    rw[htu]at he;have q44:=fun k=>zah (k:=k) he
    by_cases he0:e=0
    .subst he0;cases n with
     |zero=>
      have hw01:IntKind.i64.wrap 1=1:=by decide
      simp -implicitDefEqProofs [rR,h1,g0,h3,hlt];refine zaC ?_;simp -implicitDefEqProofs [rR,h1,g0,h3,hlt,htu,hco,zaO,hd0,hd1,hd2,q44,hw01];rw[zev];refine⟨r.tu.length - 1,by omega,1,by omega,rfl,⟨?_,?_,?_⟩,?_⟩
      all_goals simp -implicitDefEqProofs [rR,h1,g0,hc]
     |succ m=>
      have hwm:IntKind.i64.wrap (m:Int)=(m:Int):=wrap_i64 _ (by omega) (by omega);have hwm2:IntKind.i64.wrap ((m:Int)+1+1)=((m+2:Nat):Int):=wrap_i64 _ (by omega) (by omega);have hltI:(m:Int)+1<r.tu.length:=by omega
      have hltm:m<r.tu.length:=by omega
      have hne0:¬((m:Int)+1=0):=by omega
      have hp0:(0:Int)<=(m:Int)+1:=by omega
      have h25:=zrG (r.tu[m]).1 (r.tu[m+1]).1 (by have:=hr.l _ (Z1 hltm);omega);obtain⟨y0,y1,y2,hy,_,_,_⟩ :=hS.pp _ (hr.p _ (Z1 hltm));have htum:tuF (r.tu[m])=[valsF (r.tu[m]).1,y0,y1,y2]:=by unfold tuF;rw[hy]
      have q46:=fun k=>zah (k:=k) h25
      obtain⟨z,hz⟩ :∃z,z=cmpL (r.tu[m]).1 (r.tu[m+1]).1:=⟨_,rfl⟩
      rw[<-hz]at q46
      by_cases k0:z=0
      .simp -implicitDefEqProofs [rR,h1,g0,h3,hltI];refine zaC ?_;simp -implicitDefEqProofs [rR,h1,g0,h3,hlt,hltI,hltm,hp0,htu,htum,hco,zaO,hd0,hd1,hd2,q44,hne0];refine zaC ?_;simp -implicitDefEqProofs [rR,h1,g0,h3,hlt,hltI,hltm,hp0,htu,htum,hco,zaO,hd0,hd1,hd2,hwm,q46,k0];exact .inr ⟨rfl,8,by simp -implicitDefEqProofs [rR,h1]⟩
      .by_cases k1:0<z
       .simp -implicitDefEqProofs [rR,h1,g0,h3,hltI];refine zaC ?_;simp -implicitDefEqProofs [rR,h1,g0,h3,hlt,hltI,hltm,hp0,htu,htum,hco,zaO,hd0,hd1,hd2,q44,hne0];refine zaC ?_;simp -implicitDefEqProofs [rR,h1,g0,h3,hlt,hltI,hltm,hp0,htu,htum,hco,zaO,hd0,hd1,hd2,hwm,q46,k0,k1];exact .inr ⟨rfl,1,by simp -implicitDefEqProofs [rR,h1]⟩
       .simp -implicitDefEqProofs [rR,h1,g0,h3,hltI];refine zaC ?_;simp -implicitDefEqProofs [rR,h1,g0,h3,hlt,hltI,hltm,hp0,htu,htum,hco,zaO,hd0,hd1,hd2,q44,hne0];refine zaC ?_;simp -implicitDefEqProofs [rR,h1,g0,h3,hlt,hltI,hltm,hp0,htu,htum,hco,zaO,hd0,hd1,hd2,hwm,q46,k0,k1,hwm2];rw[zev];refine⟨r.tu.length - (m+2),by omega,m+2,by omega,rfl,⟨?_,?_,?_⟩,?_⟩
        all_goals simp -implicitDefEqProofs [rR,h1,g0,hc]
        all_goals omega
    .simp -implicitDefEqProofs [rR,h1,g0,h3,hlt];refine zaC ?_;simp -implicitDefEqProofs [rR,h1,g0,h3,hlt,htu,hco,zaO,hd0,hd1,hd2,q44,he0];exact .inr ⟨rfl,e,by simp -implicitDefEqProofs [rR,h1]⟩
   .simp -implicitDefEqProofs [rR,h1,g0,h3,hlt];exact .inl ⟨rfl,by simp -implicitDefEqProofs [rR,h1],by simp -implicitDefEqProofs [rR,g0],by simp -implicitDefEqProofs [rR,hc]⟩
  .rintro x s (⟨rfl,h1,g0,hc⟩ |⟨rfl,e,h2⟩)
   .have c0:0<s.c:=by omega
    simp -implicitDefEqProofs [rR,h1,g0,hco,q71,blk_d];refine zfU (J34 r B) (S34 r B) ?_ B.length _ ⟨0,Z61 _,rfl,⟨?_,?_,?_⟩,?_,?_⟩ ?_
    any_goals (simp -implicitDefEqProofs [rR,h1,g0,hc];done)
    .rintro k s ⟨n,hn,rfl,⟨h1,g0,hc⟩,h6,h7⟩;have hw:=za5 n (by omega)
     by_cases hlt:n<B.length
     .have hbl:=(hBb _ (Z1 hlt)).1;have h16:¬((16:Int)< ((B[n]).length:Int)):=by omega
      simp -implicitDefEqProofs [rR,h1,g0,h6,h7,hlt,znU,zzQ,zacs,zMH,h16,hw];rw[zev];refine⟨B.length - (n+1),by omega,n+1,by omega,rfl,⟨?_,?_,?_⟩,?_,?_⟩
      all_goals simp -implicitDefEqProofs [rR,h1,g0,hc,h6]
     .simp -implicitDefEqProofs [rR,h1,g0,h6,h7,hlt,znU];exact⟨rfl,⟨by simp -implicitDefEqProofs [rR,h1],by simp -implicitDefEqProofs [rR,g0],by simp -implicitDefEqProofs [rR,hc]⟩,by simp -implicitDefEqProofs [rR,h6]⟩
    .rintro x s ⟨rfl,⟨h1,g0,hc⟩,h6⟩;simp -implicitDefEqProofs [rR,h1,g0,h6];refine zfU (K34 r B) T34 ?_ B.length _ ⟨0,Z61 _,rfl,⟨?_,?_,?_⟩,?_,?_⟩ ?_
     any_goals (simp -implicitDefEqProofs [rR,h1,g0,hc,h6];done)
     .rintro k s ⟨n,hn,rfl,⟨h1,g0,hc⟩,h6,h8⟩;have hw:=za5 n (by omega);have c0:0<s.c:=by omega
      by_cases hlt:n<B.length
      .obtain⟨hbl,hbi⟩ :=hBb _ (Z1 hlt);obtain⟨p,hp,h73⟩ :=ans84 hS r hr.co hr.cc hr.p (B[n]) hbl hbi;obtain⟨b,h72⟩ :=hS.prob _ _ hp;obtain⟨w0,w1,w2,rfl,he0,he1,he2⟩ :=hS.pc _ _ hp;simp only[rlF]at h73;have q73:=fun k=>zah (k:=k) h73
       have q72:=fun k=>zah (k:=k) h72
       cases b with
       |true=>
        simp -implicitDefEqProofs [rR,h1,g0,h6,h8,hlt,znU];refine zaC ?_;simp -implicitDefEqProofs [rR,h1,g0,h6,h8,hlt,zzQ,zMH,hco,q73,q72,he0,he1,he2,hw,c0];rw[zev];refine⟨B.length - (n+1),by omega,n+1,by omega,rfl,⟨?_,?_,?_⟩,?_,?_⟩
        all_goals simp -implicitDefEqProofs [rR,h1,g0,hc,h6]
       |false=>
        simp -implicitDefEqProofs [rR,h1,g0,h6,h8,hlt,znU];refine zaC ?_;simp -implicitDefEqProofs [rR,h1,g0,h6,h8,hlt,zzQ,zMH,hco,q73,q72,he0,he1,he2,hw,c0];exact .inr ⟨rfl,19,by simp -implicitDefEqProofs [rR,h1]⟩
      .simp -implicitDefEqProofs [rR,h1,g0,h6,h8,hlt,znU];exact .inl rfl
     .rintro x s (rfl|⟨rfl,e,h2⟩)
      .simp -implicitDefEqProofs [rR,h1];exact⟨_,rfl⟩
      .simp -implicitDefEqProofs [rR,h2];exact⟨_,rfl⟩
   .simp -implicitDefEqProofs [rR,h2];exact⟨e,rfl⟩
 obtain⟨y,⟨e,rfl⟩,ha⟩ :=main;exact⟨e,ha⟩
end Go.Proofs.YtdonnbdegnkflaaGreatDoor
end
