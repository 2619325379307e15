/- All disjuncts simplified: what is read off the rows. -/
import Derived.Test.YtmnkdfjljkhneaaGreatPd
import Derived.KernelRfl
import Derived.IntWalk
set_option linter.all false
section
namespace Go.Proofs.YtmnkdfjljkhneaaGreat
open Go Go.Vse Go.Vse.Sm
set_option maxRecDepth 100000
set_option maxHeartbeats 1000000
set_option linter.all false
theorem zuM{h:T Ob}{lo c k:Nat}:∀(l:List Atm) (xs:List Nat),xs.length=l.length->(∀i (hi:i<l.length) (hx:i<xs.length),h.get xs[i]=some (.arr 4 0 (zcQ l[i].ts)))->(∀x∈xs,lo≤x/\x<c)->(∀a∈l,a.ts≠[])->
  ∃rd,zaH (frz h.get (k+2)) (List.zipWith atR l xs)=some (l.map atF,rd)/\∀x∈rd,lo≤x/\x<c
 |[],[],_,_,_,_=>⟨[],rfl,by simp⟩
 |[],_::_,h,_,_,_=>by simp at h
 |_::_,[],h,_,_,_=>by simp at h
 |a::l,x::xs,hl,hg,hr,hn=>by
  obtain⟨rd,h1,h2⟩ :=zuM (k:=k) l xs (by simpa using hl) (fun i hi hx=>hg (i+1) (by simpa using hi) (by simpa using hx)) (fun y hy=>hr y (by simp[hy])) fun b hb=>hn b (by simp[hb])
  have g0:=hg 0 (by simp) (by simp);have hna:=hn a (by simp);simp only[List.getElem_cons_zero]at g0;have e1:frz h.get (k+2) (.sl x 0 a.ts.length 4 a.ts.length false)=some (zb7 a.ts,[x]):=by
   rw[zdf,g0,zaT,zcH];have:=zok a.ts;simp only[true_and,Nat.zero_add,this,Nat.le_refl,if_true,List.drop_zero];rw[<-this,List.take_length];have e:zaH (frz h.get (k+1)) (zcQ a.ts)=some (a.ts.map tmF,[]):=zuy _ _ _;rw[e,zaT,zcz (by simpa using hna)];rfl
  have e2:zaQ (frz h.get (k+2)) (atR a x)=some (atF a,[x]):=by
   have a1:frz h.get (k+2) (.f (.s a.r))=some (.s a.r,[]):=rfl;have a2:frz h.get (k+2) (.f (.b a.neg))=some (.b a.neg,[]):=rfl;simp only[atR,zaQ,a1,a2,e1];rfl
  refine⟨[x]++rd,?_,fun y hy=> ?_⟩
  ·rw[List.zipWith_cons_cons,zgp,e2];simp only[h1];rfl
  ·rcases List.mem_append.1 hy with hy|hy
   ·rw[List.mem_singleton.1 hy];exact hr x (by simp)
   ·exact h2 y hy
theorem zss{h:T Ob}{lo c k:Nat}{d:D}{l:List Atm}{xs:List Nat}(H:AsD h lo c d l xs)(hn:∀a∈l,a.ts≠[]):∃rd,frz h.get (k+3) d=some (slc 3 (l.map atF),rd)/\∀x∈rd,lo≤x/\x<c:=by
 obtain⟨rd,h1,h2⟩ :=zuM (k:=k) l xs H.ln H.rw H.rg hn;have hl:(List.zipWith atR l xs).length=l.length:=by rw[List.length_zipWith,H.ln,Nat.min_self]
 rcases H.gr with⟨rfl,hr⟩ |⟨id,ro,rfl,he,ho,hr,hlo,hc⟩
 ·have:l=[]:=by
   apply List.length_eq_zero_iff.1;rw[<-hl,hr];rfl
  subst this;exact⟨[],rfl,by simp⟩
 ·refine⟨id::rd,?_,fun y hy=> ?_⟩
  ·rw[zdf,ho,zaT,zcH];simp only[true_and,Nat.zero_add,Nat.le_refl,if_true,List.drop_zero,List.take_length,h1,zaT];rw[zcz (fun e=>he (List.length_eq_zero_iff.1 (by rw[hl];simpa using e)))]
  ·rcases List.mem_cons.1 hy with rfl|hy
   ·exact⟨hlo,hc⟩
   ·exact h2 y hy
theorem zta{h:T Ob}{lo c k:Nat}{d:D}{q:CQ}(H:CsD h lo c d q):∃rd,frz h.get (k+2) d=some (zaN q,rd)/\∀x∈rd,lo≤x/\x<c:=by
 rcases H with⟨rfl,e,hne⟩ |⟨Y,tail,ex,rfl,g1,g2,g3,g4,g5,g6,g7⟩
 ·refine⟨[],?_,by simp⟩;have:zaN q= .nils:=by unfold zaN csF;rw[if_neg (by simp[hne]),e];rfl
  rw[this];rfl
 ·refine⟨[Y],?_,fun y hy=>by rw[List.mem_singleton.1 hy];exact⟨g4,g5⟩⟩;have e:zaH (frz h.get (k+1)) (q.cs.map cmD)=some (q.cs.map cmF,[]):=by
   have:=zgW h.get k (q.cs.map cmF);rw[List.map_map]at this;rw[<-this]
   congr 1
   exact List.map_congr_left fun k _=>(zkY k).symm
  have ht:(q.cs.map cmD++tail).take q.cs.length=q.cs.map cmD:=by
   rw[List.take_append_of_le_length (by simp),List.take_of_length_le (by simp)]
  rw[zdf,g1,zaT,zcH];have hle:q.cs.length≤(q.cs.map cmD++tail).length:=by simp
  simp only[true_and,Nat.zero_add,hle,if_true,List.drop_zero,ht,e,zaT];unfold zaN csF;split
  ·rename_i hh;rw[hh.2];rfl
  ·rename_i hh;rw[zcz];intro e0;have e1:q.cs=[]:=by simpa using e0
   exact hh ⟨g2 e1,e1⟩
theorem znr{hd:List Str}:∀(n:Nat) (q q':CQ),CqG q->smp hd n q=some q'->CqG q'/\q'.na=q.na
 |0,q,q',_,h=>by simp[smp]at h
 |n+1,q,q',hq,h=>by
  unfold smp at h;split at h
  ·cases h
  ·split at h
   ·rename_i i hi;have:=znr n _ q' (zfM hq i) h;exact this
   ·split at h
    ·rename_i i hi;obtain⟨hlt,-⟩ :=zv1 hi;have hk:=hq.cs _ (List.getElem_mem hlt);rw[List.getElem?_eq_getElem hlt,Option.getD_some]at h;unfold elm at h;split at h
     ·have:=znr n (sbC _ _ (drp q i)) q' (zmz (zfM hq i) hk.1) h;exact this
     ·have:=znr n (sbC _ _ (drp q i)) q' (zmz (zfM hq i) hk.2) h;exact this
    ·cases h;exact⟨hq,rfl⟩
theorem zs9{q:CQ}(hq:CqG q):CqG (cop q):=⟨⟨⟨hq.toCqSm.toCqOk.as,hq.cs,hq.la,hq.lc⟩,hq.sa,hq.st,hq.sc,hq.s2⟩,hq.tn⟩
theorem zuh{hd:List Str}{q q':CQ}(hq:CqG q)(h:zfL hd q=some q'):CqG q'/\q'.na=false:=znr _ _ _ (zs9 hq) h
theorem zKG{h:T Ob}{lo c k:Nat}{dA dC:D}{q:CQ}(H:MQ h lo c dA dC q)(hq:CqG q)(hna:q.na=false):∃rd,zaQ (frz h.get (k+3)) [dA,dC]=some (cqF q,rd)/\∀x∈rd,lo≤x/\x<c:=by
 obtain⟨xs,hA,hC,-⟩ :=H;obtain⟨r1,a1,a2⟩ :=zss (k:=k) hA hq.tn;obtain⟨r2,b1,b2⟩ :=zta (k:=k+1) hC;refine⟨r1++r2,?_,fun x hx=>(List.mem_append.1 hx).elim (a2 x) (b2 x)⟩;have e:slc 3 (q.as.map atF)=zaK q:=by unfold zaK Sm.asF;rw[if_neg (by simp[hna])]
 rw[e]at a1;have b1':frz h.get (k+3) dC=some (zaN q,r2):=b1;simp only[zaQ,a1,b1',cqE];simp
structure SW(h:T Ob)(P c:Nat)(B:D)(W:List (CQ×D×D)):Prop where
 gr:Gro h (P+1) c 2 B (W.map fun w=>[w.2.1,w.2.2])
 rd:∀w∈W,CqG w.1/\w.1.na=false/\∃lo hi,P<lo/\hi≤c/\MQ h lo hi w.2.1 w.2.2 w.1/\∀x,B.oid=some x->¬(lo≤x/\x<hi)
theorem zLK{h:T Ob}{P c k:Nat}{B:D}{W:List (CQ×D×D)}(H:∀w∈W,CqG w.1/\w.1.na=false/\∃lo hi,P<lo/\hi≤c/\MQ h lo hi w.2.1 w.2.2 w.1/\∀x,B.oid=some x->¬(lo≤x/\x<hi)):∃rd,zaH (frz h.get (k+3)) (W.map fun w=>[w.2.1,w.2.2])=some (W.map fun w=>cqF w.1,rd)/\∀x∈rd,B.oid≠some x:=by
 induction W with
 |nil=>exact⟨[],rfl,by simp⟩
 |cons w W ih=>
  obtain⟨rd,h1,h2⟩ :=ih fun v hv=>H v (by simp[hv])
  obtain⟨hq,hna,lo,hi,-,-,hM,hB⟩ :=H w (by simp);obtain⟨r,g1,g2⟩ :=zKG (k:=k) hM hq hna;refine⟨r++rd,?_,fun x hx e=> ?_⟩
  ·rw[List.map_cons,zgp,g1];simp only[h1];rfl
  ·rcases List.mem_append.1 hx with hx|hx
   ·exact hB x e (g2 x hx)
   ·exact h2 x hx e
theorem MQ.mono{h:T Ob}{lo lo' c c':Nat}{dA dC:D}{q:CQ}(H:MQ h lo c dA dC q)(h1:lo'≤lo)(h2:c≤c'):MQ h lo' c' dA dC q:=by
 obtain⟨xs,hA,hC,hD⟩ :=H;exact⟨xs,hA.up (fun _ _ _=>rfl) h1 h2,zhv hC (fun _ _ _=>rfl) h1 h2,hD⟩
theorem MQ.cA{h:T Ob}{lo c:Nat}{dA dC:D}{q:CQ}(H:MQ h lo c dA dC q):dA.cells=some [dA]/\dC.cells=some [dC]:=by
 obtain⟨xs,hA,hC,hD⟩ :=H;exact⟨zbi hA.gr,zez hC⟩
theorem zqT:∀{l:List D} {fs:List F},zcC l=some fs->l=fs.map D.f
 |[],fs,h=>by cases h;rfl
 | .f x::l,fs,h=>by
  rw[zAT]at h;cases hl:zcC l with
  |none=>rw[hl]at h;cases h
  |some m=>
   rw[hl,zaT]at h;cases h;rw[zqT hl];rfl
 | .ag _::_,_,h=>by cases h
 | .tu _::_,_,h=>by cases h
 | .sl .. ::_,_,h=>by cases h
 | .ptr .. ::_,_,h=>by cases h
 | .fptr _::_,_,h=>by cases h
 | .mp _::_,_,h=>by cases h
 | .fn .. ::_,_,h=>by cases h
theorem zJS{h:T Ob}{c:Nat}{a b:D}{K:Rs->Prop}(hK:∀r:Rs,zau r.c r.wr=true->c≤r.c->(∀x,x<c->(wrT h r.wr).get x=h.get x)->(∃rd,elemsOf 2 (wrT h r.wr).get r.d=some ([[a,b]],rd))->K r):oB (zvl c 2 1 [[a,b]] (om (zcC [a,b]) fun y=>some [y])) K:=by
 cases hf:zcC [a,b]with
 |some fs=>
  rw[zaT,zqp,zfU];refine hK _ rfl (Nat.le_refl _) (fun _ _=>rfl) ⟨[],?_⟩;rw[zqT hf];simp[elemsOf]
 |none=>
  rw[znd,zqo,zfU];refine hK _ (by simp[zau,Nat.blt_eq]) (Nat.le_succ _) (fun x hx=> ?_) ⟨[c],?_⟩
  ·have:¬x=c:=by omega
   simp[wrT,Vse.T.zad,this]
  ·simp[wrT,Vse.T.zad,elemsOf]
def GZ(h:T Ob)(d:D):Prop:=∀id es ro els,d.oid=some id->h.get id=some (.arr es ro els)->ro=0
theorem zn0{h:T Ob}{lo c es byt:Nat}{d:D}{els new:List (List D)}{rd:List Nat}{K:Rs->Prop}(hg:Gro h lo c es d els)(hz:GZ h d)(hlo:lo≤c)(hlen:els.length+new.length≤1000000)(hb:byt≤1000)
  (hK:∀r:Rs,zau r.c r.wr=true->Gro (wrT h r.wr) lo r.c es r.d (els++new)->c≤r.c->(∀id,id<c->d.oid≠some id->(wrT h r.wr).get id=h.get id)->(∀x,r.d.oid=some x->x=c\/d.oid=some x)->GZ (wrT h r.wr) r.d->K r):oB (zbk es byt h.get c d new rd) K:=by
 obtain⟨r,h1,h2,h3,h4,h5,h6,h7,h8⟩ :=znY (byt:=byt) (rd:=rd) hg hlo hlen hb;rw[h1];refine hK r h2 h3 h4 h5 h8 ?_;have hm:∀n,n≤1000000->n≤zat:=fun n hn=>by have:=zcJ (n:=n) (by omega);simpa using this
 have hmb:∀n,n≤1000000->n*byt≤zat:=fun n hn=>by
  have:n*byt≤1000000*1000:=Nat.mul_le_mul hn hb;have h2:=zcJ (n:=n*byt) (by omega);simpa using h2
 by_cases h0:new.length=0
 ·have hn:new=[]:=List.length_eq_zero_iff.1 h0;subst hn;rcases hg with⟨rfl,rfl⟩ |⟨id,ro,rfl,he,ho,hr,hl,hc⟩
  ·rw[zhg]at h1;simp at h1;rw[<-h1];intro i es ro els hi;simp[D.oid]at hi
  ·rw[zkU]at h1;simp at h1;rw[<-h1];exact hz
 ·rcases hg with⟨rfl,rfl⟩ |⟨id,ro,rfl,he,ho,hr,hl,hc⟩
  ·rw[zhg,if_neg h0,if_pos ⟨hm _ (by simpa using hlen),hmb _ (by simpa using hlen)⟩]at h1;cases h1;intro i es ro els hi hg;simp only[D.oid,Option.some.injEq]at hi;subst hi;simp[wrT,Vse.T.zad]at hg;exact hg.2.1.symm
  ·have e:zbk es byt h.get c (.sl id 0 els.length es els.length false) new rd=some {d:= .sl c 0 (els.length+new.length) es (els.length+new.length) false,rd:=id::rd,wr:=[(id,none),(c,some (.arr es ro (els++new)))],c:=c+1}:=by
    rw[zkU,if_neg h0,ho];have h1:¬(0+els.length+new.length≤els.length):=by omega
    have h2:=hm (els.length+new.length) hlen;have h3:=hmb (els.length+new.length) hlen;simp[om,apO,h1,h2,h3,hr];omega
   rw[e]at h1;cases h1;have h0':=hz id es ro els rfl ho;intro i es ro els hi hg;simp only[D.oid,Option.some.injEq]at hi;subst hi;simp[wrT,Vse.T.zad]at hg;rw[<-hg.2.1];exact h0'
theorem zHp{h:T Ob}{lo c:Nat}{d:D}{X:F}(H:Own h lo c d X)(hd:d.isF=true):True/\d= .f X:=by
 rcases H.1 with rfl|⟨a,b,e,f,g,x,rfl⟩
 ·exact⟨trivial,rfl⟩
 ·cases hd
theorem zjq{h:Nat->Option Ob}{f:D->Option (F×List Nat)}(hf:∀d x rd,f d=some (x,rd)->∀id∈rd,∃ob,h id=some ob):
  ∀(ds:List D) (xs:List F) (rd:List Nat),zaQ f ds=some (xs,rd)->∀id∈rd,∃ob,h id=some ob
 |[],xs,rd,hm,id,hi=>by
  simp[zaQ]at hm;rw[hm.2]at hi;simp at hi
 |d::ds,xs,rd,hm,id,hi=>by
  unfold zaQ at hm;split at hm
  ·simp at hm
  ·rename_i x r hx;split at hm
   ·simp at hm
   ·rename_i m r' hm';simp at hm;obtain⟨rfl,rfl⟩ :=hm;rcases List.mem_append.1 hi with hi|hi
    ·exact hf d x r hx id hi
    ·exact zjq hf ds m r' hm' id hi
theorem zo8{h:Nat->Option Ob}{f:D->Option (F×List Nat)}(hf:∀d x rd,f d=some (x,rd)->∀id∈rd,∃ob,h id=some ob):
  ∀(ds:List (List D)) (xs:List (List F)) (rd:List Nat),zaH f ds=some (xs,rd)->∀id∈rd,∃ob,h id=some ob
 |[],xs,rd,hm,id,hi=>by
  simp[zaH]at hm;rw[hm.2]at hi;simp at hi
 |d::ds,xs,rd,hm,id,hi=>by
  unfold zaH at hm;split at hm
  ·simp at hm
  ·rename_i x r hx;split at hm
   ·simp at hm
   ·rename_i m r' hm';simp at hm;obtain⟨rfl,rfl⟩ :=hm;rcases List.mem_append.1 hi with hi|hi
    ·exact zjq hf d x r hx id hi
    ·exact zo8 hf ds m r' hm' id hi
theorem zmJ{h:Nat->Option Ob}:∀(k:Nat) (d:D) (x:F) (rd:List Nat),frz h k d=some (x,rd)->∀id∈rd,∃ob,h id=some ob
 |0,d,x,rd,hf,_,_=>by simp[frz]at hf
 |k+1,d,x,rd,hf,id,hi=>by
  unfold frz at hf;split at hf
  ·simp at hf;rw[hf.2]at hi;simp at hi
  ·split at hf
   ·rename_i l r hm;simp at hf;obtain⟨rfl,rfl⟩ :=hf;exact zjq (h:=h) (fun d x rd=>zmJ (h:=h) k d x rd) _ l r hm id hi
   ·simp at hf
  ·split at hf
   ·rename_i l r hm;simp at hf;obtain⟨rfl,rfl⟩ :=hf;exact zjq (h:=h) (fun d x rd=>zmJ (h:=h) k d x rd) _ l r hm id hi
   ·simp at hf
  ·rename_i id' off len es lim ex;split at hf
   ·rename_i es' ro els ho;split at hf
    ·rename_i hc;split at hf
     ·rename_i l r hm;simp at hf;obtain⟨rfl,rfl⟩ :=hf;rcases List.mem_cons.1 hi with rfl|hi
      ·exact⟨_,ho⟩
      ·exact zo8 (h:=h) (fun d x rd=>zmJ (h:=h) k d x rd) _ l r hm id hi
     ·simp at hf
    ·simp at hf
   ·simp at hf
  ·simp at hf
theorem zHo{h h':T Ob}{lo c:Nat}{d:D}{X:F}(H:Own h lo c d X)(hh:∀x,d.oid=some x->h'.get x=h.get x)(k:Nat):∃rd,frz h'.get (k+2) d=some (X,rd)/\∀x∈rd,x<c:=by
 rcases H.1 with rfl|⟨a,b,e,f,g,y,rfl⟩
 ·exact⟨[],rfl,by simp⟩
 ·cases ha:h.get a with
  |none=>
   obtain⟨rd,h1⟩ :=H.2.2.2 h (fun _ _=>rfl) k;rw[zdf,ha]at h1;cases h1
  |some ob=>
   obtain⟨rd,h1⟩ :=H.2.2.2 ((T.e:T Ob).set a ob) (fun x hx=>by
    simp only[D.oid,Option.some.injEq]at hx;subst hx;rw[Vse.T.zad,if_pos rfl,ha]) k
   have hin:=zmJ _ _ _ _ h1;have hra:∀x∈rd,x=a:=fun x hx=>by
    obtain⟨o,ho⟩ :=hin x hx
    by_cases e:x=a
    ·exact e
    ·rw[Vse.T.zad,if_neg e]at ho;simp[Vse.T.zmS]at ho
   refine⟨rd,ze5 _ _ _ _ h1 fun x hx=> ?_,fun x hx=> ?_⟩
   ·rw[hra x hx,hh a rfl,ha,Vse.T.zad,if_pos rfl]
   ·rw[hra x hx];exact (H.2.2.1 a rfl).2
def XS1(hd:List Str)(l:List CQ)(n:Nat)(s:St):Prop:=∃(P:Nat) (dH B:D) (W:List (CQ×D×D)),W.map (·.1)=zaV hd (l.take n)/\(s.tm.get 1=some (.ptr 0 2 0 0)/\s.tm.get 2=some (.ptr 1 2 0 0)/\s.tm.get 3=some (.ptr P 2 0 0)/\s.tm.get 13=some (.f (qsF l))/\s.tm.get 14=some (.f (.i .i64 l.length))/\s.tm.get 15=some (.f (.i .i64 n))/\s.h.get 0=some (.arr 2 0 [[.f (zav hd),.f (qsF l)]])/\s.h.get 1=some (.arr 2 0 [[.f .nils,.f .nils]])/\s.h.get P=some (.arr 2 0 [[dH,B]]))/\Own s.h 2 P dH (zav hd)/\SW s.h P s.c B W/\GZ s.h B/\P<s.c/\2≤P
theorem con19(hd:List Str)(l:List CQ)(hQ:QG hd l):∃q,zp9 pr g19 (F.dL [.ag [zav hd,qsF l]]) .e 0 q/\∃dH rH,frz q.h.get 12 dH=some (zav hd,rH)/\((zaV hd l=[]/\q.d= .ag [dH,.f .nils])\/∃id m lim els r2,q.d= .ag [dH,.sl id 0 (m+1) 2 lim false]/\q.h.get id=some (.arr 2 0 els)/\els.length=m+1/\zaH (frz q.h.get 12) els=some ((zaV hd l).map cqF,r2)/\id∉rH/\id∉r2):=by
 obtain⟨hh,hl,hg⟩ :=hQ;refine znS (R:=fun d h' _ _=>∃dH rH,frz h'.get 12 dH=some (zav hd,rH)/\((zaV hd l=[]/\d= .ag [dH,.f .nils])\/∃id m lim els r2,d= .ag [dH,.sl id 0 (m+1) 2 lim false]/\h'.get id=some (.arr 2 0 els)/\els.length=m+1/\zaH (frz h'.get 12) els=some ((zaV hd l).map cqF,r2)/\id∉rH/\id∉r2)) ?_;simp only[g19,rU];have hcS:(D.f (zav hd)).cells=some [.f (zav hd)]:=zht _ _;have hcQ:(D.f (qsF l)).cells=some [.f (qsF l)]:=zht _ _;simp -implicitDefEqProofs [rW,st0,zaj,zaS,zeF,hcS,hcQ,ziz];refine zcS rfl rfl (eff51 hd (by omega)) ?_;rintro dH h' c' lw mx ⟨hf,hO⟩ hcc;simp only[rG]at hf hO hcc;have e0:=hf 0 (by omega);have e1:=hf 1 (by omega);simp[Vse.T.zad]at e0 e1;have hcd:=hO.2.1;have n0:¬(0=c'):=by omega
 have n1:¬(1=c'):=by omega
 simp -implicitDefEqProofs [rW,e0,e1,hcd,n0,n1,ziz];refine ze2 l.length (XS1 hd l) (fun x s=>x= .exit 0/\XS1 hd l l.length s) ?_ ?_ _ ?_ ?_
 ·rintro n s hn ⟨P,dH,B,W,hW,⟨h1,h2,h3,h13,h14,h15,g0,g1,gP⟩,hH,hS,hZ,hPc,hP2⟩;have hw:=zaC n (by omega);have hx:l[n]? =some l[n]:=List.getElem?_eq_getElem hn;have hgx:=hg _ (List.getElem_mem hn);have htk:=List.take_succ_eq_append_getElem hn;generalize hA:l[n]=A at hx hgx htk;have m0:¬(0=s.c):=by omega
  have m1:¬(1=s.c):=by omega
  have mP:¬(P=s.c):=by omega
  simp -implicitDefEqProofs [rW,h1,h2,h3,h13,h14,h15,g0,g1,gP,hn,zwH,hx,hA,cqE,za7,za4,m0,m1,mP];refine zhy ?_;simp -implicitDefEqProofs [rW,h1,h2,h3,h13,h14,h15,g0,g1,gP,m0,m1,mP];refine zov rfl rfl (zKc A hgx) ?_;rintro d1 H1 c1 lw1 mx1 ⟨hF1,dA,dC,rfl,hM⟩ hcc1 hmm1;simp only[rG]at hF1 hM hcc1 hmm1;have f0:=hF1 0 (by omega);have f1:=hF1 1 (by omega);have fP:=hF1 P (by omega);simp[Vse.T.zad,m0,m1,mP,g0,g1,gP]at f0 f1 fP;have hlow1:∀x,x<s.c->H1.get x=s.h.get x:=fun x hx=>by
   rw[hF1 x (by omega)];have nx:¬x=s.c:=by omega
   simp[Vse.T.zad,nx]
  have hc1:=hM.cA;simp -implicitDefEqProofs [rW,h1,h2,h3,h13,h14,h15,f0,g0,m0,hc1.1,hc1.2,zaS];refine zov rfl rfl (eff52 hd hh (cop A) (zs9 hgx) (lo:=s.c+1) (by simp only[rG];omega) (hM.mono (Nat.le_succ _) (by simp only[rG];omega))) ?_;rintro d2 H2 c2 lw2 mx2 ⟨hF2,hres⟩ hcc2 hmm2;simp only[rG]at hF2 hcc2 hmm2 hres;have hsm:smp hd ((cop A).cs.length+1) (cop A)=zfL hd A:=rfl;rw[hsm]at hres;have k0:=hF2 0 (by omega);have k1:=hF2 1 (by omega);have kP:=hF2 P (by omega);rw[f0]at k0;rw[f1]at k1;rw[fP]at kP;have hlow2:∀x,x<s.c->H2.get x=s.h.get x:=fun x hx=>by rw[hF2 x (by omega),hlow1 x hx]
  have hsn:zaV hd (l.take (n+1))=zaV hd (l.take n)++(zfL hd A).toList:=by
   rw[htk];unfold zaV;rw[List.filterMap_append]
   congr 1
  cases hR:zfL hd A with
  |none=>
   rw[hR]at hres hsn;have hres:d2= .tu [.ag [.f .nils,.f .nils],.f (.b false)]:=hres;subst hres;obtain⟨K6,hK6⟩ :∃K6,K6=mx2+1+1+1:=⟨_,rfl⟩
   have z0:¬(0=K6):=by omega
   have z1:¬(1=K6):=by omega
   have zP:¬(P=K6):=by omega
   have zs:¬(K6=s.c):=by omega
   simp -implicitDefEqProofs [rW,h1,h2,h3,h13,h14,h15,<-hK6,zs,hw];refine⟨by omega,by omega,P,dH,B,W,by rw[hW,hsn];simp,?_,?_,⟨?_,fun w hw=> ?_⟩,?_,?_,hP2⟩
   ·simp -implicitDefEqProofs [rW,h1,h2,h3,h13,h14,h15,z0,z1,zP,k0,k1,kP,hw]
   ·refine hH.up (fun x hx=> ?_) (Nat.le_refl _) (Nat.le_refl _);have h2:=hH.2.2.1 x hx;have nx:¬(x=K6):=by omega
    simp -implicitDefEqProofs [rW,nx];exact hlow2 x (by omega)
   ·refine zbf hS.gr (by simp -implicitDefEqProofs [rW,];omega) fun x h1 h2=> ?_
    have nx:¬(x=K6):=by omega
    simp -implicitDefEqProofs [rW,nx];exact hlow2 x h2
   ·obtain⟨w1,w2,lo,hi,w3,w4,w5,w6⟩ :=hS.rd w hw;refine⟨w1,w2,lo,hi,w3,by simp -implicitDefEqProofs [rW,];omega,w5.up fun x h1 h2=> ?_,w6⟩;have nx:¬(x=K6):=by omega
    simp -implicitDefEqProofs [rW,nx];exact hlow2 x (by omega)
   ·intro i es ro els hi hg;have hb:=zcI hS.gr hi;have nx:¬(i=K6):=by omega
    refine hZ i es ro els hi ?_;rw[<-hg];simp -implicitDefEqProofs [rW,nx];rw[hlow2 i (by omega)]
   ·simp -implicitDefEqProofs [rW,];omega
  |some q'=>
   rw[hR]at hres hsn;obtain⟨dA2,dC2,rfl,hM2⟩ :=hres;have hc2:=hM2.cA;obtain⟨K6,hK6⟩ :∃K6,K6=mx2+1+1+1:=⟨_,rfl⟩
   have z0:¬(0=K6):=by omega
   have z1:¬(1=K6):=by omega
   have zP:¬(P=K6):=by omega
   have zs:¬(K6=s.c):=by omega
   simp -implicitDefEqProofs [rW,h1,h2,h3,h13,h14,h15,hc2.1,hc2.2,<-hK6,zs,zP,kP];refine⟨by omega,by omega,?_⟩;refine zJS (h:=(H2.set K6 (.arr 2 0 [[.f .nils,.f .nils]])).set K6 (.arr 2 0 [[dA2,dC2]])) ?_;rintro r hr1 hr2 hr3 ⟨rd,hr4⟩;refine⟨hr1,?_⟩;simp -implicitDefEqProofs [rW,hr4];have hB2:∀x,B.oid=some x->P+1≤x/\x<s.c:=fun x hx=>zcI hS.gr hx
   have hWl:W.length≤1000:=by
    have h1:(W.map (·.1)).length=(zaV hd (l.take n)).length:=by rw[hW]
    have h2:(zaV hd (l.take n)).length≤(l.take n).length:=List.length_filterMap_le _ _;simp at h1 h2;omega
   have hr5:∀x,x<K6->(wrT ((H2.set K6 (.arr 2 0 [[.f .nils,.f .nils]])).set K6 (.arr 2 0 [[dA2,dC2]])) r.wr).get x=H2.get x:=fun x hx=>by
    rw[hr3 x (by omega)];have nx:¬(x=K6):=by omega
    simp[Vse.T.zad,nx]
   generalize hHr:wrT ((H2.set K6 (.arr 2 0 [[.f .nils,.f .nils]])).set K6 (.arr 2 0 [[dA2,dC2]])) r.wr=Hr at hr5⊢;refine zn0 (zbf (c':=r.c) hS.gr (by omega) fun x h1 h2=>by rw[hr5 x (by omega),hlow2 x h2]) (fun i es ro els hi hg=>hZ i es ro els hi (by have:=hB2 i hi;rw[<-hg,hr5 i (by omega),hlow2 i (by omega)])) (by omega) (by simp;omega) (by omega) ?_;intro r2 u1 u2 u3 u4 u5 u6;have v0:=u4 0 (by omega) (zbz hS.gr (by omega));have v1:=u4 1 (by omega) (zbz hS.gr (by omega));have vP:=u4 P (by omega) (zbz hS.gr (by omega));rw[hr5 0 (by omega),k0]at v0;rw[hr5 1 (by omega),k1]at v1;rw[hr5 P (by omega),kP]at vP;have v6:∀x,x<K6->B.oid≠some x->(wrT Hr r2.wr).get x=H2.get x:=fun x hx hb=>by rw[u4 x (by omega) hb,hr5 x hx]
   refine⟨u1,?_⟩;have y0:¬(0=P):=by omega
   have y1:¬(1=P):=by omega
   simp -implicitDefEqProofs [rW,vP,zbi u2];obtain⟨hq',hna'⟩ :=zuh hgx hR;refine⟨by omega,P,dH,r2.d,W++[(q',dA2,dC2)],by simp[hW,hsn],?_,?_,⟨?_,fun w hw=> ?_⟩,?_,?_,hP2⟩
   ·simp -implicitDefEqProofs [rW,h1,h2,h3,h13,h14,h15,v0,v1,vP,hw,y0,y1,hHr]
   ·refine hH.up (fun x hx=> ?_) (Nat.le_refl _) (Nat.le_refl _);have h2:=hH.2.2.1 x hx;have nx:¬(x=P):=by omega
    simp -implicitDefEqProofs [rW,nx,hHr];rw[v6 x (by omega) (zbz hS.gr (by omega)),hlow2 x (by omega)]
   ·rw[List.map_append];refine zbf u2 (by simp -implicitDefEqProofs [rW,]) fun x h1 h2=> ?_
    have nx:¬(x=P):=by omega
    simp -implicitDefEqProofs [rW,nx,hHr]
   ·rcases List.mem_append.1 hw with hw|hw
    ·obtain⟨w1,w2,lo,hi,w3,w4,w5,w6⟩ :=hS.rd w hw;refine⟨w1,w2,lo,hi,w3,by simp -implicitDefEqProofs [rW,];omega,w5.up fun x h1 h2=> ?_,fun x hx=> ?_⟩
     ·have nx:¬(x=P):=by omega
      simp -implicitDefEqProofs [rW,nx,hHr];rw[v6 x (by omega) (fun e=>w6 x e ⟨h1,h2⟩),hlow2 x (by omega)]
     ·rcases u5 x hx with e|e
      ·omega
      ·exact w6 x e
    ·have:w=(q',dA2,dC2):=by simpa using hw
     subst this;refine⟨hq',hna',s.c+1,mx1+1+1,by omega,by simp -implicitDefEqProofs [rW,];omega,hM2.up fun x h1 h2=> ?_,fun x hx=> ?_⟩
     ·have nx:¬(x=P):=by omega
      simp -implicitDefEqProofs [rW,nx,hHr];exact v6 x (by omega) (fun e=>by have:=hB2 x e;omega)
     ·rcases u5 x hx with e|e
      ·omega
      ·have:=hB2 x e;omega
   ·intro i es ro els hi hg;have nx:¬(i=P):=by
     rcases u5 i hi with e|e
     ·omega
     ·have:=hB2 i e;omega
    refine u6 i es ro els hi ?_;rw[<-hg];simp -implicitDefEqProofs [rW,nx,hHr]
   ·simp -implicitDefEqProofs [rW,];omega
 ·rintro s ⟨P,dH,B,W,hW,⟨h1,h2,h3,h13,h14,h15,g0,g1,gP⟩,hH,hS,hZ,hPc,hP2⟩;simp -implicitDefEqProofs [rW,h1,h2,h3,h13,h14,h15,g0,g1,gP];refine⟨P,dH,B,W,hW,?_,hH,⟨hS.gr,hS.rd⟩,hZ,hPc,hP2⟩;simp -implicitDefEqProofs [rW,h1,h2,h3,h13,h14,h15,g0,g1,gP]
 ·refine⟨c',dH,.f .nils,[],by simp[zaV],?_,?_,⟨.inl ⟨rfl,rfl⟩,by simp⟩,?_,?_,by omega⟩
  ·simp -implicitDefEqProofs [rW,e0,e1,n0,n1]
  ·refine hO.up (fun x hx=> ?_) (Nat.le_refl _) (Nat.le_refl _);have:=hO.2.2.1 x hx;have nx:¬(x=c'):=by omega
   simp -implicitDefEqProofs [rW,nx]
  ·intro i es ro els hi;simp[D.oid]at hi
  ·simp -implicitDefEqProofs [rW,]
 ·rintro x s ⟨rfl,P,dH,B,W,hW,⟨h1,h2,h3,h13,h14,h15,g0,g1,gP⟩,hH,hS,hZ,hPc,hP2⟩;rw[List.take_length]at hW;have hP1:¬(P=1):=by omega
  simp -implicitDefEqProofs [rW,h1,h2,h3,h13,h14,h15,g0,g1,gP,hP1,zbi hS.gr,hH.2.1,zqG];have hup:∀x,x≠1->(s.h.set 1 (.arr 2 0 [[dH,B]])).get x=s.h.get x:=fun x hx=>by simp[Vse.T.zad,hx]
  have hrdU:∀w∈W,CqG w.1/\w.1.na=false/\∃lo hi,P<lo/\hi≤s.c/\MQ (s.h.set 1 (.arr 2 0 [[dH,B]])) lo hi w.2.1 w.2.2 w.1/\∀x,B.oid=some x->¬(lo≤x/\x<hi):=fun w hw=>by
   obtain⟨w1,w2,lo,hi,w3,w4,w5,w6⟩ :=hS.rd w hw;exact⟨w1,w2,lo,hi,w3,w4,w5.up fun x h1 h2=>hup x (by omega),w6⟩
  obtain⟨r2,f1,f2⟩ :=zLK (k:=9) hrdU;have eW:(W.map fun w=>cqF w.1)=(zaV hd l).map cqF:=by rw[<-hW,List.map_map];rfl
  rw[eW]at f1;have hOw:∃rH,frz (s.h.set 1 (.arr 2 0 [[dH,B]])).get 12 dH=some (zav hd,rH)/\∀x∈rH,x<P:=by
   have:=zHo hH (h':=s.h.set 1 (.arr 2 0 [[dH,B]])) (fun x hx=>hup x (by have:=hH.2.2.1 x hx;omega)) 10;exact this
  obtain⟨rH,o1,o2⟩ :=hOw;refine⟨by omega,⟨dH,rH,o1,?_⟩,fun _ h1 h2=> ?_⟩
  ·rcases hS.gr with⟨g1,g2⟩ |⟨id,ro,g1,g2,g3,g4,g5,g6⟩
   ·refine .inl ⟨?_,rfl,g1⟩;have:W=[]:=by simpa using g2
    rw[<-hW,this];rfl
   ·have hz:=hZ id 2 ro _ (by rw[g1];rfl) g3;subst hz;have hn:¬(id=1):=by omega
    have hWn:W.length≠0:=by simpa using g2
    refine .inr ⟨id,W.length - 1,⟨rfl,W.length - 1+1,?_⟩,_,by rw[if_neg hn];exact g3,by simp;omega,r2,f1,fun hm=>by have:=o2 id hm;omega,fun hm=>f2 id hm (by rw[g1];rfl)⟩;rw[g1,List.length_map,show W.length - 1+1=W.length by omega]
  ·rcases hS.gr with⟨g1,g2⟩ |⟨id,ro,g1,g2,g3,g4,g5,g6⟩
   ·obtain⟨k1,rfl⟩ :=zHp hH h1;refine⟨_,⟨_,rfl⟩,?_,rfl,g1⟩;have:W=[]:=by simpa using g2
    rw[<-hW,this];rfl
   ·rw[g1]at h2;cases h2
theorem zJ1{args:List D}{h:T Ob}{n:Nat}{hd:List Str}{l:List CQ}{rd:List Nat}(hQ:QG hd l)(hz:zbN h.get args=some ([.ag [zav hd,qsF l]],rd))(hrd:∀x∈rd,x<n):∃q,zc0 Tryz.prog 19 args h n q/\SpS args h n q:=by
 obtain⟨q,hq,dH,rH,hH,hr⟩ :=con19 hd l hQ;have hc:=zc0.zn9 zrh Tryz.func19 (by decide) c19 hq;refine⟨_,?_,hd,l,rd,hz,hrd,hQ,rfl⟩;rcases hr with⟨e,hdq⟩ |⟨id,m,lim,els,r2,hdq,ho,hl,hf,h1,h2⟩
 ·rw[e];exact hc.thaw0 hz hrd hdq hH
 ·exact hc.thaw hz hrd hdq hH ho hl hf ⟨h1,h2⟩
theorem ziC{es:Nat}{l m:List (List F)}(h:slc es l=slc es m):l=m:=by
 cases l<;>cases m<;>simp_all [slc]
theorem zhD{α β:Type}{f:α->β}(hf:∀a b,f a=f b->a=b):∀{l m:List α},l.map f=m.map f->l=m
 |[],[],_=>rfl
 |[],_::_,h=>by simp at h
 |_::_,[],h=>by simp at h
 |a::l,b::m,h=>by
  simp only[List.map_cons,List.cons.injEq]at h;rw[hf a b h.1,zhD hf h.2]
theorem zom(a b:Trm)(h:tmF a=tmF b):a=b:=by
 cases a<;>cases b<;>simp_all [tmF]
theorem zuz(a:Trm):(tmF a).length=4:=by cases a<;>rfl
theorem zGv(a b:Cm)(h:cmF a=cmF b):a=b:=by
 obtain⟨o,l,r⟩ :=a;obtain⟨o2,l2,r2⟩ :=b;simp only[cmF,List.cons.injEq,F.i.injEq,true_and]at h;have h2:=List.append_inj h.2 (by rw[zuz,zuz]);rw[h.1,zom _ _ h2.1,zom _ _ h2.2]
theorem zGa(a b:Atm)(h:atF a=atF b):a=b:=by
 obtain⟨r,n,ts⟩ :=a;obtain⟨r2,n2,ts2⟩ :=b;simp only[atF,List.cons.injEq,F.s.injEq,F.b.injEq,and_true]at h;rw[h.1,h.2.1,zhD zom (ziC h.2.2)]
theorem zzQ{a b:List Str}(h:zav a=zav b):a=b:=zhD (fun x y h=>by simpa using h) (ziC h)
def Lk(a b:CQ):Prop:=a.as=b.as/\a.cs=b.cs/\(a.cs=[]->a.ne=b.ne)/\(a.as=[]->a.na=b.na)
theorem lk_of{a b:CQ}(h:cqF a=cqF b):Lk a b:=by
 simp only[cqE,List.cons.injEq,and_true]at h;obtain⟨h1,h2⟩ :=h;have e1:a.as=b.as:=by
  unfold zaK Sm.asF at h1;split at h1<;>split at h1
  ·rename_i x y;rw[x.2,y.2]
  ·rename_i x y;cases hb:b.as with
   |nil=>exact x.2
   |cons z l=>rw[hb]at h1;simp[slc]at h1
  ·rename_i x y;cases hb:a.as with
   |nil=>exact y.2.symm
   |cons z l=>rw[hb]at h1;simp[slc]at h1
  ·exact zhD zGa (ziC h1)
 have e2:a.cs=b.cs:=by
  unfold zaN csF at h2;split at h2<;>split at h2
  ·rename_i x y;rw[x.2,y.2]
  ·rename_i x y;cases hb:b.cs with
   |nil=>exact x.2
   |cons z l=>rw[hb]at h2;simp[slc]at h2
  ·rename_i x y;cases hb:a.cs with
   |nil=>exact y.2.symm
   |cons z l=>rw[hb]at h2;simp[slc]at h2
  ·exact zhD zGv (ziC h2)
 refine⟨e1,e2,fun e=> ?_,fun e=> ?_⟩
 ·unfold zaN csF at h2;rw[<-e2,e]at h2;cases ha:a.ne<;>cases hb:b.ne<;>simp[ha,hb,slc]at h2⊢
 ·unfold zaK Sm.asF at h1;rw[<-e1,e]at h1;cases ha:a.na<;>cases hb:b.na<;>simp[ha,hb,slc]at h1⊢
theorem lk_F{a b:CQ}(h:Lk a b):cqF a=cqF b:=by
 obtain⟨h1,h2,h3,h4⟩ :=h;simp only[cqE,List.cons.injEq,and_true];constructor
 ·unfold zaK Sm.asF;rw[<-h1]
  by_cases e:a.as=[]
  ·rw[h4 e]
  ·rw[if_neg fun x=>e x.2,if_neg fun x=>e x.2]
 ·unfold zaN csF;rw[<-h2]
  by_cases e:a.cs=[]
  ·rw[h3 e]
  ·rw[if_neg fun x=>e x.2,if_neg fun x=>e x.2]
theorem zKF{hd:List Str}(n:Nat){a b:CQ}(h1:a.as=b.as)(h2:a.cs=b.cs)(h3:a.cs=[]->a.ne=b.ne)(h4:a.na=b.na):(smp hd n a).map cqF=(smp hd n b).map cqF:=by
 cases n with
 |zero=>rfl
 |succ n=>
  have ed:∀i,drp a i=drp b i:=fun i=>by unfold drp;rw[h1,h2,h4]
  unfold smp;rw[<-h2];split
  ·rfl
  ·split
   ·rename_i i hi;rw[ed i]
   ·split
    ·rename_i i hi;rw[ed i]
    ·simp only[Option.map_some];rw[lk_F ⟨h1,h2,h3,fun _=>h4⟩]
theorem zzz{hd:List Str}:∀{l m:List CQ},l.map cqF=m.map cqF->(zaV hd l).map cqF=(zaV hd m).map cqF
 |[],[],_=>rfl
 |[],_::_,h=>by simp at h
 |_::_,[],h=>by simp at h
 |a::l,b::m,h=>by
  simp only[List.map_cons,List.cons.injEq]at h;have ih:=zzz (hd:=hd) h.2;obtain⟨k1,k2,k3,-⟩ :=lk_of h.1;have hs:(zfL hd a).map cqF=(zfL hd b).map cqF:=by
   unfold zfL;rw[<-k2];exact zKF (a:=cop a) (b:=cop b) _ k1 k2 k3 rfl
  unfold zaV at ih⊢;rw[List.filterMap_cons,List.filterMap_cons];cases ha:zfL hd a<;>cases hb:zfL hd b<;>simp_all
theorem zAR{f:Nat}{args:List D}{h:T Ob}{c:Nat}{q:CR}(hq:Con pr f args h c q):c≤q.c/\q.c≤q.mx:=za8 _ _ _ _ _ hq
theorem zvs{args:List D}{h:T Ob}{n:Nat}{hd:List Str}{l:List CQ}{rd:List Nat}(hQ:QG hd l)(hz:zbN h.get args=some ([.ag [zav hd,qsF l]],rd))(hrd:∀x∈rd,x<n):
  Eff pr 19 args h n fun d h' c'=>(zaV hd l=[]/\d= .ag [.f (zav hd),.f .nils]/\h'=wrT h (zao h.get rd)/\c'=n)\/(zaV hd l≠[]/\d= .ag [.f (zav hd),.sl n 0 (zaV hd l).length 2 (zaV hd l).length false]/\h'=(wrT h (zao h.get rd)).set n (.arr 2 0 (fD ((zaV hd l).map cqF)))/\c'=n+1):=by
 obtain⟨q,hq,hd',l',rd',hz',-,hQ',e⟩ :=exq19 (zJ1 hQ hz hrd);rw[hz]at hz';simp only[Option.some.injEq,Prod.mk.injEq,List.cons.injEq,F.ag.injEq,and_true]at hz';obtain⟨⟨h1,h2⟩,rfl⟩ :=hz';have hhd:=zzQ h1;subst hhd;have hl:=zzz (hd:=hd) (ziC h2);rw[<-hl]at e;have hle:=(zAR hq)
 cases hs:zaV hd l with
 |nil=>
  rw[hs]at e;simp only[List.map_nil,zia]at e;subst e;exact⟨_,hq,.inl ⟨rfl,rfl,rfl,rfl⟩,hle.1,hle.2⟩
 |cons a m=>
  rw[hs]at e;simp only[List.map_cons,zia,List.length_map]at e;subst e;exact⟨_,hq,.inr ⟨by simp,by simp,rfl,rfl⟩,hle.1,hle.2⟩
theorem fn28:pr.fn 28=some g28:=by kernel_rfl
def wth(q:CQ)(k:Cm):CQ:=⟨q.as,q.cs++[k],q.ne,false⟩
theorem zKw{h:T Ob}{lo c:Nat}{d:D}{q:CQ}{k:Cm}{new:List (List D)}{rd:List Nat}{K:Rs->Prop}(hn:new=[cmD k])(hC:CsE h lo c d q)(hl:q.cs.length≤1000)(hlo:lo≤c)
  (hK:∀r:Rs,zau r.c r.wr=true->c≤r.c->(∃Y,r.d= .sl Y 0 (q.cs.length+1) 9 (q.cs.length+1) false/\(wrT h r.wr).get Y=some (.arr 9 0 ((q.cs++[k]).map cmD))/\lo≤Y/\Y<r.c)->(∀id,id<c->d.oid≠some id->(wrT h r.wr).get id=h.get id)->K r):oB (zbk 9 104 h.get c d new rd) K:=by
 subst hn;have m1:(q.cs.length+1≤zat)=True:=zcJ (by omega);have m2:((q.cs.length+1)*104≤zat)=True:=zcJ (by omega);have m3:(1≤zat)=True:=zcJ (by omega);have m4:(104≤zat)=True:=zcJ (by omega);rcases hC with⟨rfl,e,-⟩ |⟨Y,ex,rfl,hY,h3,h4,h5,h6,h7⟩
 ·rw[zhg];have m5:(([cmD k]:List (List D)).length≤zat/\([cmD k]:List (List D)).length*104≤zat):=⟨by simp[m3],by simp[m4]⟩
  rw[if_neg (by simp),if_pos m5,zfU];refine hK _ (by simp[zau,Nat.blt_eq]) (Nat.le_succ _) ⟨c,by rw[e];rfl,by simp[wrT,Vse.T.zad,e],hlo,Nat.lt_succ_self c⟩ fun id h1 _=> ?_
  have:¬id=c:=by omega
  simp[wrT,Vse.T.zad,this]
 ·have hn:¬(q.cs.length+1≤q.cs.length):=by omega
  rw[zkU];cases ex with
  |false=>
   simp[om,hY,apO,hn,m1,m2,zfU];refine hK _ (by simp[zau,Nat.blt_eq];omega) (Nat.le_succ _) ⟨c,rfl,by simp[wrT,Vse.T.zad],hlo,Nat.lt_succ_self _⟩ fun id h1 h2=> ?_
   have a1:¬id=c:=by omega
   have a2:¬id=Y:=fun e=>h2 (by rw[e];rfl)
   simp[wrT,Vse.T.zad,Vse.T.zfN,a1,a2]
  |true=>
   have e:q.cs=[]:=Classical.byContradiction fun h=>by have:=h4 h;cases this
   simp[om,hY,apO,hn,m1,m2,m3,m4,e,zfU];refine hK _ (by simp[zau,Nat.blt_eq]) (Nat.le_succ _) ⟨c,by rw[e];rfl,by simp[wrT,Vse.T.zad,e],hlo,Nat.lt_succ_self c⟩ fun id h1 _=> ?_
   have:¬id=c:=by omega
   simp[wrT,Vse.T.zad,this]
theorem zF7{h h':T Ob}{lo c c':Nat}{d:D}{l:List Atm}{xs:List Nat}(H:AsD h lo c d l xs)(hh:∀x,lo≤x->x<c->(x∈xs\/d.oid=some x)->h'.get x=h.get x)(hc:c≤c'):AsD h' lo c' d l xs:=by
 refine⟨H.ln,H.nd,fun x hx=>by have:=H.rg x hx;omega,fun k hk hx=> ?_,?_,H.oi⟩
 ·have:=H.rg _ (List.getElem_mem hx);rw[hh _ this.1 this.2 (.inl (List.getElem_mem hx))];exact H.rw k hk hx
 ·rcases H.gr with h1|⟨id,ro,h1,h2,h3,h4,h5,h6⟩
  ·exact .inl h1
  ·exact .inr ⟨id,ro,h1,h2,by rw[hh id h5 h6 (.inr (by rw[h1];rfl))];exact h3,h4,by omega,by omega⟩
theorem zu9(q:CQ)(op:Int)(l r:Trm)(hq:CqG q):Ans pr 28 [.ag (cqF q),.i .i64 op,.ag (tmF l),.ag (tmF r)] (.ag (cqF (wth q ⟨op,l,r⟩))):=by
 refine zcm fn28 ?_;simp only[g28,rU];simp -implicitDefEqProofs [rW,st0,zaj,cqE,za7,za4];refine zcS rfl rfl (zxT q hq) ?_;rintro d h' c' lw mx ⟨hf,dA,dC,rfl,hM,hE⟩ hcc;simp only[rG]at hf hM hE hcc;have e0:=hf 0 (by omega);have e1:=hf 1 (by omega);have e2:=hf 2 (by omega);have e3:=hf 3 (by omega);simp[Vse.T.zad]at e0 e1 e2 e3;have hcA:=hM.cA;have n0:¬(0=c'):=by omega
 have n1:¬(1=c'):=by omega
 have n2:¬(2=c'):=by omega
 have n3:¬(3=c'):=by omega
 have hl:((cop q).cs.length≤1000):=by have:=hq.sc;show q.cs.length≤1000;omega
 have hM2:=hM;obtain⟨xs,hA,hC,hD⟩ :=hM;obtain⟨k,hk⟩ :∃k,k=(⟨op,l,r⟩ :Cm):=⟨_,rfl⟩
 rw[<-hk];cases l<;>cases r<;>simp -implicitDefEqProofs [rW,e0,e1,e2,e3,hcA.1,hcA.2,tmF]
 all_goals
  refine⟨by omega,zKw (lo:=4) (q:=cop q) (k:=k) (by rw[hk];rfl) (zj8 hE (fun x h1 h2=> ?_) (Nat.le_refl _) (Nat.le_refl _)) hl hcc ?_⟩
  ·have a1:¬x=0:=by omega
   simp[Vse.T.zad,a1]
  ·intro r hr1 hr2 hr3 hr4;obtain⟨Y,hY,gY,hY1,hY2⟩ :=hr3;have z0:=hr4 0 (by omega) (fun e=>by have:=znT (zgD hE) e;omega);have z3:=hr4 3 (by omega) (fun e=>by have:=znT (zgD hE) e;omega);simp[Vse.T.zad,e3]at z0 z3;have hl1:0<r.c:=by omega
   have hl3:3<r.c:=by omega
   have hcd:r.d.cells=some [r.d]:=by rw[hY];rfl
   simp -implicitDefEqProofs [rW,hr1,z0,z3,hl1,hl3,hcA.1,hcd];generalize hHf:((wrT (h'.set 0 (.arr 2 0 [[dA,dC]])) r.wr).set 0 (.arr 2 0 [[dA,r.d]])).set 3 (.arr 2 0 [[dA,r.d]])=Hf;have hup:∀x,4≤x->Hf.get x=(wrT (h'.set 0 (.arr 2 0 [[dA,dC]])) r.wr).get x:=fun x hx=>by
    rw[<-hHf];have a0:¬x=0:=by omega
    have a3:¬x=3:=by omega
    simp[Vse.T.zad,a0,a3]
   obtain⟨r1,f1,-⟩ :=zss (k:=8) (h:=Hf) (zF7 hA (fun x h1 h2 h3=>by
    have a0:¬x=0:=by omega
    rw[hup x h1,hr4 x h2 (fun e=>h3.elim (hD x e).1 (hD x e).2)];simp[Vse.T.zad,a0]) (Nat.le_refl _)) hq.tn
   obtain⟨r2,f2,-⟩ :=zta (k:=9) (h:=Hf) (lo:=4) (c:=r.c) (d:=r.d) (q:=wth q k) (.inr ⟨Y,[],false,by rw[hY];simp[wth,cop],by rw[hup Y hY1,gY];simp[wth,cop],by simp[wth],by simp,hY1,hY2,by simp,by simp[wth];exact Nat.le_succ_of_le (Nat.le_trans hl (by decide))⟩);have f2':frz Hf.get 11 r.d=some (zaN (wth q k),r2):=f2;rw[f1,f2'];simp -implicitDefEqProofs [rW,];unfold zaK Sm.asF;rw[if_neg (by simp[wth])];rfl
end Go.Proofs.YtmnkdfjljkhneaaGreat
end
