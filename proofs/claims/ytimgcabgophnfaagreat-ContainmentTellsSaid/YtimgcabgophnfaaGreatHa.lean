/- Matching of conjunctive queries over relations of integers, as plain functions; what splitting a query by a constant does to its answers. -/
import Derived.Test.YtimgcabgophnfaaGreatVe
set_option linter.all false
section
namespace Go.Vse.Sm
abbrev Str:=List UInt8
inductive Trm where
 |var (s:Str)
 |cst (n:Int)
 deriving DecidableEq
structure Atm where
 r:Str
 neg:Bool
 ts:List Trm
structure Cm where
 op:Int
 l:Trm
 r:Trm
structure CQ where
 as:List Atm
 cs:List Cm
 ne:Bool:=false
 na:Bool:=false
abbrev Env:=List (Str×Int)
def lk:Env->Str->Option Int
 |[],_=>none
 |(n,v)::e,s=>if n=s then some v else lk e s
def gtm(e:Env):Trm->Option Int
 | .cst n=>some n
 | .var s=>lk e s
def bnd(e:Env)(t:Trm)(v:Int):Env×Bool:=
 match gtm e t with
 |some w=>(e,decide (v=w))
 |none=>match t with
  | .var s=>(e++[(s,v)],true)
  | .cst _=>(e,true)
def zI6:Env->List Trm->List Int->Env×Bool
 |e,t::ts,v::vs=>if(bnd e t v).2 then zI6 (bnd e t v).1 ts vs else bnd e t v
 |e,_,_=>(e,true)
def fits(e:Env)(a:Atm)(vs:List Int):Env×Bool:=
 if a.ts.length=vs.length then zI6 e a.ts vs else(e,false)
def zzq(op a b:Int):Bool:=
 if op=1 then decide (a=b)else if op=2 then decide (a≠b)else if op=3 then decide (a<b)else decide (op=4)&&decide (a≤b)
inductive Asc:List Int->Prop
 |nil:Asc []
 |cons {v:Int} {l:List Int}:(∀w∈l,v<w)->Asc l->Asc (v::l)
def sTm(x:Str)(k:Int):Trm->Trm
 | .var s=>if s=x then .cst k else .var s
 | .cst n=> .cst n
def sAt(x:Str)(k:Int)(a:Atm):Atm:={r:=a.r,neg:=a.neg,ts:=a.ts.map (sTm x k)}
def sCm(x:Str)(k:Int)(m:Cm):Cm:={op:=m.op,l:=sTm x k m.l,r:=sTm x k m.r}
def sub(c:CQ)(x:Str)(k:Int):CQ:={as:=c.as.map (sAt x k),cs:=c.cs.map (sCm x k)}
def del(x:Str):Env->Env
 |[]=>[]
 |(n,v)::e=>if n=x then del x e else(n,v)::del x e
end Go.Vse.Sm
end
section
namespace Go.Vse
variable [Globs]
section
variable {pr:Pr}{s:St}{Q:St->Prop}{dst:Option Nat}{L:List (List Nat×List Nat)}{mask:Nat}
theorem zIJ{l:List (Op×Nat)}{x:A}{i:Nat}:wpE pr L ((⟨dst,none,.ext x i⟩,mask)::l) s Q↔oB (((O.ext x i).res (zad s.tm)).bind (opv s.h.get s.c)) fun r=>zat r.c r.wr=true/\
    zdi mask L r.rd (r.wr.map (·.1))/\wpE pr (L++[(r.rd,r.wr.map (·.1))]) l (s.ae dst r.d r.wr r.c) Q:=zcW rfl
theorem e_un{l:List (Op×Nat)}{x:A}{op:UnOp}:wpE pr L ((⟨dst,none,.un op x⟩,mask)::l) s Q↔oB (((O.un op x).res (zad s.tm)).bind (opv s.h.get s.c)) fun r=>zat r.c r.wr=true/\
    zdi mask L r.rd (r.wr.map (·.1))/\wpE pr (L++[(r.rd,r.wr.map (·.1))]) l (s.ae dst r.d r.wr r.c) Q:=zcW rfl
theorem zID{l:List (Op×Nat)}{ks:List Nat}{ne:Bool}{x y:A}:wpE pr L ((⟨dst,none,.eqa ks ne x y⟩,mask)::l) s Q↔oB (((O.eqa ks ne x y).res (zad s.tm)).bind (opv s.h.get s.c)) fun r=>zat r.c r.wr=true/\
    zdi mask L r.rd (r.wr.map (·.1))/\wpE pr (L++[(r.rd,r.wr.map (·.1))]) l (s.ae dst r.d r.wr r.c) Q:=zcW rfl
theorem zIt{l:List (Op×Nat)}{es byt:Nat}{x y:A}:wpE pr L ((⟨dst,none,.app es byt x y⟩,mask)::l) s Q↔oB (((O.app es byt x y).res (zad s.tm)).bind (opv s.h.get s.c)) fun r=>zat r.c r.wr=true/\
    zdi mask L r.rd (r.wr.map (·.1))/\wpE pr (L++[(r.rd,r.wr.map (·.1))]) l (s.ae dst r.d r.wr r.c) Q:=zcW rfl
theorem zIA{l:List (Op×Nat)}{es m:Nat}{z:List F}{ps:List (Nat×A)}:wpE pr L ((⟨dst,none,.bsl es z m ps⟩,mask)::l) s Q↔oB (((O.bsl es z m ps).res (zad s.tm)).bind (opv s.h.get s.c)) fun r=>zat r.c r.wr=true/\
    zdi mask L r.rd (r.wr.map (·.1))/\wpE pr (L++[(r.rd,r.wr.map (·.1))]) l (s.ae dst r.d r.wr r.c) Q:=zcW rfl
theorem zIy{l:List (Op×Nat)}{es m:Nat}{z:List F}{ps:List (Nat×A)}:wpE pr L ((⟨dst,none,.bsf es z m ps⟩,mask)::l) s Q↔oB (((O.bsf es z m ps).res (zad s.tm)).bind (opv s.h.get s.c)) fun r=>zat r.c r.wr=true/\
    zdi mask L r.rd (r.wr.map (·.1))/\wpE pr (L++[(r.rd,r.wr.map (·.1))]) l (s.ae dst r.d r.wr r.c) Q:=zcW rfl
theorem zIW{l:List (Op×Nat)}{es:Nat}{x:A}{lo hi mx:Option A}:wpE pr L ((⟨dst,none,.slc es x lo hi mx⟩,mask)::l) s Q↔oB (((O.slc es x lo hi mx).res (zad s.tm)).bind (opv s.h.get s.c)) fun r=>zat r.c r.wr=true/\
    zdi mask L r.rd (r.wr.map (·.1))/\wpE pr (L++[(r.rd,r.wr.map (·.1))]) l (s.ae dst r.d r.wr r.c) Q:=zcW rfl
theorem zIB{l:List (Op×Nat)}{k:IntKind}{x:A}:wpE pr L ((⟨dst,none,.cvi k x⟩,mask)::l) s Q↔oB (((O.cvi k x).res (zad s.tm)).bind (opv s.h.get s.c)) fun r=>zat r.c r.wr=true/\
    zdi mask L r.rd (r.wr.map (·.1))/\wpE pr (L++[(r.rd,r.wr.map (·.1))]) l (s.ae dst r.d r.wr r.c) Q:=zcW rfl
theorem zKJ{l:List Op}{ks:List Nat}{ne:Bool}{x y:A}:wpO pr (⟨dst,none,.eqa ks ne x y⟩ ::l) s Q↔oB (((O.eqa ks ne x y).res (zad s.tm)).bind (opv s.h.get s.c)) fun r=>zat r.c r.wr=true/\wpO pr l (s.aft dst r.d r.wr r.c) Q:=zd6 rfl
theorem zKD{l:List Op}{es byt:Nat}{x y:A}:wpO pr (⟨dst,none,.app es byt x y⟩ ::l) s Q↔oB (((O.app es byt x y).res (zad s.tm)).bind (opv s.h.get s.c)) fun r=>zat r.c r.wr=true/\wpO pr l (s.aft dst r.d r.wr r.c) Q:=zd6 rfl
theorem zKG{l:List Op}{es m:Nat}{z:List F}{ps:List (Nat×A)}:wpO pr (⟨dst,none,.bsl es z m ps⟩ ::l) s Q↔oB (((O.bsl es z m ps).res (zad s.tm)).bind (opv s.h.get s.c)) fun r=>zat r.c r.wr=true/\wpO pr l (s.aft dst r.d r.wr r.c) Q:=zd6 rfl
theorem zKF{l:List Op}{es m:Nat}{z:List F}{ps:List (Nat×A)}:wpO pr (⟨dst,none,.bsf es z m ps⟩ ::l) s Q↔oB (((O.bsf es z m ps).res (zad s.tm)).bind (opv s.h.get s.c)) fun r=>zat r.c r.wr=true/\wpO pr l (s.aft dst r.d r.wr r.c) Q:=zd6 rfl
theorem zKO{l:List Op}{es:Nat}{x:A}{lo hi mx:Option A}:wpO pr (⟨dst,none,.slc es x lo hi mx⟩ ::l) s Q↔oB (((O.slc es x lo hi mx).res (zad s.tm)).bind (opv s.h.get s.c)) fun r=>zat r.c r.wr=true/\wpO pr l (s.aft dst r.d r.wr r.c) Q:=zd6 rfl
theorem zKI{l:List Op}{k:IntKind}{x:A}:wpO pr (⟨dst,none,.cvi k x⟩ ::l) s Q↔oB (((O.cvi k x).res (zad s.tm)).bind (opv s.h.get s.c)) fun r=>zat r.c r.wr=true/\wpO pr l (s.aft dst r.d r.wr r.c) Q:=zd6 rfl
theorem zMh{c:C}{Q:Ex->St->Prop}(h:wpC pr c s fun x s'=>match x with
  | .nrm=>wpC pr (.loop c) s' Q
  |x=>Q x s'):wpC pr (.loop c) s Q:=by
 obtain⟨x,s1,hq,ev⟩ :=zfD c s _ h;cases x with
 |nrm=>
  obtain⟨x2,s2,m,h2,e2⟩ :=hq;exact⟨x2,s2,m+1,h2,(ev.and e2).mono fun n ⟨p,q⟩ =>by simp only[iter,p];exact q⟩
 |exit i=>exact⟨.exit i,s1,1,hq,ev.mono fun n p=>by simp only[iter,p]⟩
 |ret=>exact⟨.ret,s1,1,hq,ev.mono fun n p=>by simp only[iter,p]⟩
end
def slc(es:Nat)(l:List (List F)):F:=match l with
 |[]=> .nils
 |_=> .sl es l
theorem zuY:zcr (.f .nils)=some 0:=rfl
theorem zrj(es:Nat)(els:List (List F)):zcr (.f (.sl es els))=some els.length:=rfl
theorem zDz(id off len es lim:Nat)(ex:Bool):zcr (.sl id off len es lim ex)=some len:=rfl
theorem zuN(es es':Nat)(els:List (List F))(i:Nat):iaB es (.f (.sl es' els)) i=if es=es' then(els[i]?).map D.fptr else none:=rfl
theorem zJp(es id off m es' lim:Nat)(ex:Bool)(i:Nat):iaB es (.sl id off m es' lim ex) i=if es=es'/\i<m then some (.ptr id es (off+i) 0)else none:=rfl
theorem zjD(es:Nat)(l:List (List F)):(slc es l).d= .f (slc es l):=by cases l<;>rfl
theorem zgP(es:Nat)(l:List (List F)):zcr (.f (slc es l))=some l.length:=by cases l<;>rfl
theorem zii(es:Nat)(l:List (List F))(n:Nat):iaB es (.f (slc es l)) n=l[n]?.map D.fptr:=by cases l<;>simp[slc,iaB]
theorem zcX{es:Nat}{l:List (List F)}(h:l≠[]):F.sl es l=slc es l:=by
 cases l with
 |nil=>exact absurd rfl h
 |cons=>rfl
theorem zw0(a b:List UInt8):zbv .lss (.s a) (.s b)=some (.b (Go.Op.bytesLess a b)):=rfl
theorem zwZ(a b:List UInt8):zbv .gtr (.s a) (.s b)=some (.b (!(Go.Op.bytesLess a b||a==b))):=rfl
theorem zwY(a b:List UInt8):zbv .eql (.s a) (.s b)=some (.b (a==b)):=rfl
theorem zw1(a b:List UInt8):zbv .neq (.s a) (.s b)=some (.b (!(a==b))):=rfl
theorem zFn{es byt c:Nat}{h:Nat->Option Ob}{id off len lim:Nat}{ex:Bool}{rd:List Nat}:
  zbU es byt h c (.sl id off len es lim ex) [] rd=some {d:= .sl id off len es lim ex,rd,c}:=by
 unfold zbU;simp
theorem zrR{es byt c:Nat}{h:Nat->Option Ob}{new:List (List D)}{rd:List Nat}:zbU es byt h c (.f .nils) new rd=if new.length=0 then some {d:= .f .nils,rd,c} else
  if new.length≤zaj/\new.length*byt≤zaj then some {d:= .sl c 0 new.length es new.length false,rd,wr:=[(c,some (.arr es 0 new))],c:=c+1} else none:=rfl
theorem zwG{es byt c id off len es' lim:Nat}{ex:Bool}{h:Nat->Option Ob}{new:List (List D)}{rd:List Nat}:zbU es byt h c (.sl id off len es' lim ex) new rd=if new.length=0 then some {d:= .sl id off len es' lim ex,rd,c} else
    match h id with
    | some (.arr es'' ro els)=>if es=es'/\es'=es''/\off+len≤els.length then
        if off+len+new.length≤lim then
          if off+len+new.length≤els.length/\ro≤off+len/\zem els (els.take (off+len)++new++els.drop (off+len+new.length))=true then
            some { d:= .sl id off (len+new.length) es lim ex,rd:=id::rd,
                   wr:=[(id,some (.arr es ro (els.take (off+len)++new++els.drop (off+len+new.length))))],c}
          else none
        else if len+new.length≤zaj/\(len+new.length)*byt≤zaj then
          if ex then
            some { d:= .sl c 0 (len+new.length) es (len+new.length) false,rd:=id::rd,
                   wr:=[(c,some (.arr es 0 ((els.drop off).take len++new)))],c:=c+1}
          else if off=0/\len=els.length/\ro≤len then
            some {d:= .sl c 0 (off+len+new.length) es (off+len+new.length) false,rd:=id::rd,wr:=[(id,none),(c,some (.arr es ro (els++new)))],c:=c+1}
          else if off=0/\ro≤len/\els.length≤off+len+new.length/\zem els (els.take len++new)=true then
            some {d:= .sl c 0 (off+len+new.length) es (off+len+new.length) false,rd:=id::rd,wr:=[(id,none),(c,some (.arr es ro (els.take len++new)))],c:=c+1}
          else none
        else none
      else none
    |_=>none:=rfl
theorem zaR{n:Nat}(h:n≤1000000000):(n≤zaj)=True:=by
 have:n≤140737488355328:=by omega
 simpa [zaj]using this
theorem leF{a b:Nat}(h:b<a):(a≤b)=False:=by simp;exact h
theorem zME(f:D->Option (F×List Nat)):zaT f []=some ([],[]):=rfl
theorem zkY(f:D->Option (F×List Nat))(x:List D)(l:List (List D)):zaT f (x::l)=match zbO f x with
  |none=>none
  |some (y,r)=>match zaT f l with
   |none=>none
   |some (m,r')=>some (y::m,r++r'):=rfl
theorem zxI(f:D->Option (F×List Nat)):∀a b:List (List D),zaT f (a++b)=match zaT f a with
  |none=>none
  |some (y,r)=>match zaT f b with
   |none=>none
   |some (m,r')=>some (y++m,r++r')
 |[],b=>by
  simp only[List.nil_append,zME];cases zaT f b with
  |none=>rfl
  |some p=>simp
 |x::a,b=>by
  simp only[List.cons_append,zkY,zxI f a b];cases zbO f x with
  |none=>rfl
  |some p=>
   cases zaT f a with
   |none=>rfl
   |some q=>
    cases zaT f b with
    |none=>rfl
    |some w=>simp
theorem zzJ{α:Type}(h:Nat->Option Ob)(k:Nat)(g:α->F):∀l:List α,zaT (frz h (k+1)) (l.map fun a=>[D.f (g a)])=some (l.map fun a=>[g a],[])
 |[]=>rfl
 |a::l=>by
  have e:zbO (frz h (k+1)) [D.f (g a)]=some ([g a],[]):=rfl;simp only[List.map_cons,zkY,zzJ h k g l,e];rfl
theorem zjq(h:Nat->Option Ob)(k:Nat):∀l:List (List F),zaT (frz h (k+1)) (l.map fun a=>a.map D.f)=some (l,[])
 |[]=>rfl
 |a::l=>by
  have e:∀x:List F,zbO (frz h (k+1)) (x.map D.f)=some (x,[]):=by
   intro x
   induction x with
   |nil=>rfl
   |cons y x ih=>simp only[List.map_cons,zbO,ih];rfl
  simp only[List.map_cons,zkY,zjq h k l,e];rfl
namespace Sm
def vF(n:Int):List F:=[.i .i64 1,.i .i64 n,.s []]
def tmF:Trm->List F
 | .var s=>[.s s,.i .i64 0,.i .i64 0,.s []]
 | .cst n=>[.s [],.i .i64 1,.i .i64 n,.s []]
def atF(a:Atm):List F:=[.s a.r,.b a.neg,slc 4 (a.ts.map tmF)]
def cmF(k:Cm):List F:= .i .i64 k.op::(tmF k.l++tmF k.r)
def csF(c:CQ):F:=if c.ne=true/\c.cs=[]then .sl 9 []else slc 9 (c.cs.map cmF)
def asF(c:CQ):F:=if c.na=true/\c.as=[]then .sl 3 []else slc 3 (c.as.map atF)
def cqF(c:CQ):List F:=[asF c,csF c]
def zas(l:List Str):F:=slc 1 (l.map fun s=>[.s s])
structure Rl where
 nm:Str
 ce:Bool
 co:F
 tu:List (List Int×List F)
def zau:Trm->Prop
 | .var s=>s≠[]
 | .cst _=>True
end Sm
end Go.Vse
end
section
namespace Go.Vse
variable [Globs]
section
variable {pr:Pr}
def sq(pr:Pr)(b:C)(Q:Ex->St->Prop)(x:Ex)(s:St):Prop:=match x with
 | .nrm=>wpC pr b s Q
 |x=>Q x s
def kb(id:Nat)(Q:Ex->St->Prop)(x:Ex)(s:St):Prop:=match x with
 | .exit i=>if i=id then Q .nrm s else Q (.exit i) s
 |x=>Q x s
@[congr] theorem sq_congr{b:C}{Q:Ex->St->Prop}{x:Ex}{s:St}:sq pr b Q x s=sq pr b Q x s:=rfl
@[congr] theorem kb_congr{id:Nat}{Q:Ex->St->Prop}{x:Ex}{s:St}:kb id Q x s=kb id Q x s:=rfl
theorem zKb{a b:C}{s:St}{Q:Ex->St->Prop}:wpC pr (.seq a b) s Q=wpC pr a s (sq pr b Q):=rfl
theorem zJw{id:Nat}{c:C}{s:St}{Q:Ex->St->Prop}:wpC pr (.blk id c) s Q=wpC pr c s (kb id Q):=rfl
theorem zpC{b:C}{Q:Ex->St->Prop}{s:St}:sq pr b Q .nrm s=wpC pr b s Q:=rfl
theorem zEG{b:C}{Q:Ex->St->Prop}{s:St}:sq pr b Q .ret s=Q .ret s:=rfl
theorem zyx{b:C}{Q:Ex->St->Prop}{s:St}{i:Nat}:sq pr b Q (.exit i) s=Q (.exit i) s:=rfl
theorem zDx{id:Nat}{Q:Ex->St->Prop}{s:St}:kb id Q .nrm s=Q .nrm s:=rfl
theorem zDy{id:Nat}{Q:Ex->St->Prop}{s:St}:kb id Q .ret s=Q .ret s:=rfl
theorem zmC{id:Nat}{Q:Ex->St->Prop}{s:St}{i:Nat}:kb id Q (.exit i) s=if i=id then Q .nrm s else Q (.exit i) s:=rfl
theorem k_reg{ops:List Op}{s:St}{Q:Ex->St->Prop}:wpC pr (.reg ops) s Q=wpO pr ops s (Q .nrm):=rfl
def aB(pr:Pr)(f:Nat)(fs:List F)(k:F->Prop):Prop:=∃x,Ans pr f fs x/\k x
@[congr] theorem aB_congr{f:Nat}{fs fs':List F}{k:F->Prop}(h:fs=fs'):aB pr f fs k=aB pr f fs' k:=by rw[h]
theorem Ans.uniq{f:Nat}{fs:List F}{x y:F}(h1:Ans pr f fs x)(h2:Ans pr f fs y):x=y:=by
 obtain⟨q,rd,⟨n,hn⟩,e1⟩ :=h1;obtain⟨q',rd',⟨m,hm⟩,e2⟩ :=h2;have a:zdd pr (Nat.max n m) f (F.dL fs) .e 0=some q:=hn (Nat.max n m) (Nat.le_max_left ..);have b:zdd pr (Nat.max n m) f (F.dL fs) .e 0=some q':=hm (Nat.max n m) (Nat.le_max_right ..);rw[a]at b;cases b;rw[e1]at e2;cases e2;rfl
theorem zak{f:Nat}{fs:List F}{y:F}(h:Ans pr f fs y){k:F->Prop}:aB pr f fs k↔k y:=
 ⟨fun⟨x,hx,hk⟩ =>by rw[Ans.uniq h hx];exact hk,fun hk=>⟨y,h,hk⟩⟩
def lp(I:Nat->St->Prop)(k:Nat)(Q:Ex->St->Prop)(x:Ex)(s:St):Prop:=match x with
 | .nrm=>∃k',k'<k/\I k' s
 |x=>Q x s
@[congr] theorem lp_congr{I:Nat->St->Prop}{k:Nat}{Q:Ex->St->Prop}{x:Ex}{s:St}:lp I k Q x s=lp I k Q x s:=rfl
theorem zbh{I:Nat->St->Prop}{k:Nat}{Q:Ex->St->Prop}{s:St}:lp I k Q .nrm s=∃k',k'<k/\I k' s:=rfl
theorem zDB{I:Nat->St->Prop}{k:Nat}{Q:Ex->St->Prop}{s:St}:lp I k Q .ret s=Q .ret s:=rfl
theorem zxT{I:Nat->St->Prop}{k:Nat}{Q:Ex->St->Prop}{s:St}{i:Nat}:lp I k Q (.exit i) s=Q (.exit i) s:=rfl
theorem ltT{a b:Nat}(h:a<b):(a<b)=True:=by simp[h]
end
end Go.Vse
end
section
namespace Go.Vse
variable [Globs]
section
variable {pr:Pr}
theorem loopQ{c:C}{Q:Ex->St->Prop}(I:Nat->St->Prop)(R:Ex->St->Prop)(hstep:∀k s,I k s->wpC pr c s (lp I k R))(k:Nat)(s:St)(h:I k s)(hQ:∀x s,R x s->Q x s):wpC pr (.loop c) s Q:=by
 have hl:wpC pr (.loop c) s R:=zRm I hstep k s h;unfold wpC at hl⊢;obtain⟨x,s',m,hr,e⟩ :=hl;exact⟨x,s',m,hQ x s' hr,e⟩
theorem zeE{P Q:St->Prop}{S:St}(h1:P S)(h2:∀s,P s->Q s):Q S:=h2 S h1
theorem zCM{es es':Nat}{h:Nat->Option Ob}{els:List (List F)}:elemsOf es h (.f (.sl es' els))=if es=es' then some (els.map (·.map D.f),[])else none:=rfl
theorem zxz{es:Nat}{h:Nat->Option Ob}:elemsOf es h (.f .nils)=some ([],[]):=rfl
theorem zvI{es:Nat}(l:List (List F))(a b:Nat)(h1:a≤b)(h2:b≤l.length):∃x:F,x.d= .f x/\(∀h:Nat->Option Ob,sliceB es h (.f (slc es l)) (some (.f (.i .i64 a))) (some (.f (.i .i64 b))) none=some (.f x,[]))/\
  (a=0->∀h:Nat->Option Ob,sliceB es h (.f (slc es l)) none (some (.f (.i .i64 b))) none=some (.f x,[]))/\
  (b=l.length->∀h:Nat->Option Ob,sliceB es h (.f (slc es l)) (some (.f (.i .i64 a))) none none=some (.f x,[]))/\
  (∀h:Nat->Option Ob,elemsOf es h (.f x)=some (((l.drop a).take (b - a)).map (·.map D.f),[])):=by
 cases l with
 |nil=>
  simp at h2;subst h2;have:a=0:=by omega
  subst this;exact⟨.nils,rfl,fun h=>rfl,fun _ h=>rfl,fun _ h=>rfl,fun h=>rfl⟩
 |cons w l=>
  refine⟨.sl es (((w::l).drop a).take (b - a)),rfl,?_,?_,?_,?_⟩
  ·intro h;have h2':b≤l.length+1:=by simpa using h2
   simp[slc,sliceB,za9,zbz,h1,h2']
  ·intro ha h;subst ha;have h2':b≤l.length+1:=by simpa using h2
   simp[slc,sliceB,za9,zbz,h2']
  ·intro hb h;subst hb;have h1':a≤l.length+1:=by simpa using h1
   simp[slc,sliceB,za9,zbz,h1']
  ·intro h;simp[elemsOf]
end
end Go.Vse
end
section
namespace Go.Vse
def om{α β:Type}(o:Option α)(k:α->Option β):Option β:=o.bind k
@[congr] theorem om_congr{α β:Type}{o o':Option α}{k:α->Option β}(h:o=o'):om o k=om o' k:=by rw[h]
theorem zdU{α β:Type}(a:α)(k:α->Option β):om (some a) k=k a:=rfl
theorem mo_n{α β:Type}(f:α->Option β):zax f []=some []:=rfl
theorem mo_c{α β:Type}(f:α->Option β)(x:α)(l:List α):zax f (x::l)=om (f x) fun y=>om (zax f l) fun m=>some (y::m):=by
 simp only[zax,om];cases f x with
 |none=>rfl
 |some y=>cases zax f l<;>rfl
theorem oo_n{α β:Type}(f:α->Option β):zde f none=some none:=rfl
theorem oo_s{α β:Type}(f:α->Option β)(x:α):zde f (some x)=om (f x) fun y=>some (some y):=by
 simp only[zde,om];cases f x<;>rfl
theorem fr_n(f:D->Option (F×List Nat)):zbO f []=some ([],[]):=rfl
theorem fr_c(f:D->Option (F×List Nat))(d:D)(l:List D):zbO f (d::l)=om (f d) fun p=>om (zbO f l) fun q=>some (p.1::q.1,p.2++q.2):=by
 simp only[zbO,om];cases f d with
 |none=>rfl
 |some y=>cases zbO f l<;>rfl
theorem zJf(f:D->Option (F×List Nat)):zaT f []=some ([],[]):=rfl
theorem zJd(f:D->Option (F×List Nat))(d:List D)(l:List (List D)):zaT f (d::l)=om (zbO f d) fun p=>om (zaT f l) fun q=>some (p.1::q.1,p.2++q.2):=by
 simp only[zaT,om];cases zbO f d with
 |none=>rfl
 |some y=>cases zaT f l<;>rfl
theorem zJc [Globs](f:D->Option (F×List Nat))(a b:List (List D)):zaT f (a++b)=om (zaT f a) fun p=>om (zaT f b) fun q=>some (p.1++q.1,p.2++q.2):=by
 rw[zxI];simp only[om];cases zaT f a with
 |none=>rfl
 |some y=>cases zaT f b<;>rfl
def fzS(h:Nat->Option Ob)(k id off len es:Nat):Ob->Option (F×List Nat)
 | .arr es' _ els=>if es=es'/\off+len≤els.length then om (zaT (frz h k) ((els.drop off).take len)) fun p=>some (.sl es p.1,id::p.2)else none
 |_=>none
theorem zfG{h:Nat->Option Ob}{k id off len es es' ro:Nat}{els:List (List D)}:fzS h k id off len es (.arr es' ro els)=if es=es'/\off+len≤els.length then om (zaT (frz h k) ((els.drop off).take len)) fun p=>some (.sl es p.1,id::p.2)else none:=rfl
theorem zgy(h:Nat->Option Ob)(k id off len es lim:Nat)(ex:Bool):frz h (k+1) (.sl id off len es lim ex)=om (h id) (fzS h k id off len es):=by
 simp only[frz,om];cases h id with
 |none=>rfl
 |some o=>
  cases o with
  |arr es' ro els=>
   simp only[Option.bind_some,fzS];split
   ·cases zaT (frz h k) ((els.drop off).take len)<;>rfl
   ·rfl
  |_=>rfl
theorem zo1(h:Nat->Option Ob)(k:Nat)(cs:List D):frz h (k+1) (.ag cs)=om (zbO (frz h k) cs) fun p=>some (.ag p.1,p.2):=by
 simp only[frz,om];cases zbO (frz h k) cs<;>rfl
theorem zJi(h:Nat->Option Ob)(k:Nat)(cs:List D):frz h (k+1) (.tu cs)=om (zbO (frz h k) cs) fun p=>some (.tu p.1,p.2):=by
 simp only[frz,om];cases zbO (frz h k) cs<;>rfl
theorem f12f(h:Nat->Option Ob)(x:F):frz h 12 (.f x)=some (x,[]):=rfl
theorem f11f(h:Nat->Option Ob)(x:F):frz h 11 (.f x)=some (x,[]):=rfl
theorem f10f(h:Nat->Option Ob)(x:F):frz h 10 (.f x)=some (x,[]):=rfl
theorem f9f(h:Nat->Option Ob)(x:F):frz h 9 (.f x)=some (x,[]):=rfl
theorem f8f(h:Nat->Option Ob)(x:F):frz h 8 (.f x)=some (x,[]):=rfl
theorem f12a(h:Nat->Option Ob)(cs:List D):frz h 12 (.ag cs)=om (zbO (frz h 11) cs) fun p=>some (.ag p.1,p.2):=zo1 h 11 cs
theorem f11a(h:Nat->Option Ob)(cs:List D):frz h 11 (.ag cs)=om (zbO (frz h 10) cs) fun p=>some (.ag p.1,p.2):=zo1 h 10 cs
theorem f10a(h:Nat->Option Ob)(cs:List D):frz h 10 (.ag cs)=om (zbO (frz h 9) cs) fun p=>some (.ag p.1,p.2):=zo1 h 9 cs
theorem f9a(h:Nat->Option Ob)(cs:List D):frz h 9 (.ag cs)=om (zbO (frz h 8) cs) fun p=>some (.ag p.1,p.2):=zo1 h 8 cs
theorem f12t(h:Nat->Option Ob)(cs:List D):frz h 12 (.tu cs)=om (zbO (frz h 11) cs) fun p=>some (.tu p.1,p.2):=zJi h 11 cs
theorem f12s(h:Nat->Option Ob)(id off len es lim:Nat)(ex:Bool):frz h 12 (.sl id off len es lim ex)=om (h id) (fzS h 11 id off len es):=zgy ..
theorem f11s(h:Nat->Option Ob)(id off len es lim:Nat)(ex:Bool):frz h 11 (.sl id off len es lim ex)=om (h id) (fzS h 10 id off len es):=zgy ..
theorem f10s(h:Nat->Option Ob)(id off len es lim:Nat)(ex:Bool):frz h 10 (.sl id off len es lim ex)=om (h id) (fzS h 9 id off len es):=zgy ..
theorem f9s(h:Nat->Option Ob)(id off len es lim:Nat)(ex:Bool):frz h 9 (.sl id off len es lim ex)=om (h id) (fzS h 8 id off len es):=zgy ..
def ldO(g:Bool)(n id es i j:Nat):Ob->Option (D×List Nat)
 | .arr es' _ els=>if es=es' then om els[i]? fun el=>om (zcQ g j n el) fun d=>some (d,[id])else none
 |_=>none
theorem zxR{g:Bool}{n id es i j es' ro:Nat}{els:List (List D)}:ldO g n id es i j (.arr es' ro els)=if es=es' then om els[i]? fun el=>om (zcQ g j n el) fun d=>some (d,[id])else none:=rfl
theorem ld_p{g:Bool}{n:Nat}{h:Nat->Option Ob}{id es i j:Nat}:zcn g n h (.ptr id es i j)=om (h id) (ldO g n id es i j):=by
 simp only[zcn,om];cases h id with
 |none=>rfl
 |some o=>
  cases o with
  |arr es' ro els=>
   simp only[Option.bind_some,ldO];split
   ·simp only[om];cases els[i]? with
    |none=>rfl
    |some el=>simp only[Option.bind_some];cases zcQ g j n el<;>rfl
   ·rfl
  |_=>rfl
theorem zKh{g:Bool}{n:Nat}{h:Nat->Option Ob}{cs:List F}:zcn g n h (.fptr cs)=om (zh2 g n cs) fun d=>some (d,[]):=by
 simp only[zcn,om];cases zh2 g n cs<;>rfl
theorem pF_t{n:Nat}{cs:List F}:zh2 true n cs=if n≤cs.length then some (.ag ((cs.take n).map D.f))else none:=rfl
theorem pF_f{n:Nat}{cs:List F}:zh2 false n cs=om cs[0]? fun x=>some (.f x):=by
 simp only[zh2,om];cases cs[0]? <;>rfl
theorem pD_t{o n:Nat}{cs:List D}:zcQ true o n cs=if o+n≤cs.length then some (.ag ((cs.drop o).take n))else none:=rfl
theorem pD_f{o n:Nat}{cs:List D}:zcQ false o n cs=cs[o]? :=rfl
def stO(n id es i j:Nat)(v:D):Ob->Option (Nat×Ob)
 | .arr es' ro els=>if es=es'/\ro≤i then om els[i]? fun el=>om v.cells fun cs=>if cs.length=n then om (over el j cs) fun el'=>if zem els (els.set i el')=true then some (id,.arr es ro (els.set i el'))else none else none else none
 |_=>none
theorem zyA{n id es i j es' ro:Nat}{v:D}{els:List (List D)}:stO n id es i j v (.arr es' ro els)=if es=es'/\ro≤i then om els[i]? fun el=>om v.cells fun cs=>if cs.length=n then om (over el j cs) fun el'=>if zem els (els.set i el')=true then some (id,.arr es ro (els.set i el'))else none else none else none:=rfl
theorem st_p{n:Nat}{h:Nat->Option Ob}{id es i j:Nat}{v:D}:zes n h (.ptr id es i j) v=om (h id) (stO n id es i j v):=by
 simp only[zes,om];cases h id with
 |none=>rfl
 |some o=>
  cases o with
  |arr es' ro els=>
   simp only[Option.bind_some,stO];split
   ·simp only[om];cases els[i]? with
    |none=>rfl
    |some el=>
     simp only[Option.bind_some];cases v.cells with
     |none=>rfl
     |some cs=>
      simp only[Option.bind_some];split
      ·cases over el j cs with
       |none=>rfl
       |some el'=>rfl
      ·rfl
   ·rfl
  |_=>rfl
theorem zx4(x y:List (List D)):zem x y=(!hd8 x||hd8 y):=rfl
theorem h8_i(n:Int)(l:List (List D)):hd8 ([.f (.i .u8 n)]::l)=true:=rfl
theorem zDm:hd8 []=false:=rfl
theorem zuF(a b:D)(c:List D)(l:List (List D)):hd8 ((a::b::c)::l)=false:=by
 unfold hd8;split
 ·rename_i h;simp at h
 ·rfl
theorem zDl(n:Int)(l:List (List D)):hd8 ([.f (.i .i64 n)]::l)=false:=rfl
theorem h8_b(n:Bool)(l:List (List D)):hd8 ([.f (.b n)]::l)=false:=rfl
theorem h8_s(n:List UInt8)(l:List (List D)):hd8 ([.f (.s n)]::l)=false:=rfl
theorem zxP(l:List (List D)):hd8 ([.f .nils]::l)=false:=rfl
theorem zDk(e:Nat)(x:List (List F))(l:List (List D)):hd8 ([.f (.sl e x)]::l)=false:=rfl
theorem zJl(a b c d e:Nat)(x:Bool)(l:List (List D)):hd8 ([.sl a b c d e x]::l)=false:=rfl
theorem zDn(a b c d:Nat)(l:List (List D)):hd8 ([.ptr a b c d]::l)=false:=rfl
theorem zIl(cs:List D):(D.ag cs).cells=some cs:=rfl
theorem ce_i(k:IntKind)(n:Int):(D.f (.i k n)).cells=some [.f (.i k n)]:=rfl
theorem ce_b(b:Bool):(D.f (.b b)).cells=some [.f (.b b)]:=rfl
theorem ce_s(l:List UInt8):(D.f (.s l)).cells=some [.f (.s l)]:=rfl
theorem zxb:(D.f .nils).cells=some [.f .nils]:=rfl
theorem zCk(e:Nat)(l:List (List F)):(D.f (.sl e l)).cells=some [.f (.sl e l)]:=rfl
theorem zgr(e:Nat)(l:List (List F)):(D.f (slc e l)).cells=some [.f (slc e l)]:=by cases l<;>rfl
theorem zIm(a b c d e:Nat)(x:Bool):(D.sl a b c d e x).cells=some [.sl a b c d e x]:=rfl
theorem zCl(a b c d:Nat):(D.ptr a b c d).cells=some [.ptr a b c d]:=rfl
theorem zxa(x:List F):(D.fptr x).cells=some [.fptr x]:=rfl
theorem d_ag(cs:List F):(F.ag cs).d= .ag (F.dL cs):=rfl
theorem d_tu(cs:List F):(F.tu cs).d= .tu (F.dL cs):=rfl
theorem d_i(k:IntKind)(n:Int):(F.i k n).d= .f (.i k n):=rfl
theorem d_b(b:Bool):(F.b b).d= .f (.b b):=rfl
theorem d_s(l:List UInt8):(F.s l).d= .f (.s l):=rfl
theorem zCw:(F.nils).d= .f .nils:=rfl
theorem d_un:(F.un).d= .f .un:=rfl
theorem d_sl(e:Nat)(l:List (List F)):(F.sl e l).d= .f (.sl e l):=rfl
theorem dl_n:F.dL []=[]:=rfl
theorem dl_c(x:F)(l:List F):F.dL (x::l)=x.d::F.dL l:=rfl
theorem ti_i(k:IntKind)(n:Int):zbz (.f (.i k n))=if 0≤n then some n.toNat else none:=rfl
theorem fa_p(o id es i j:Nat):faB o (.ptr id es i j)=some (.ptr id es i (j+o)):=rfl
theorem fa_f(o:Nat)(cs:List F):faB o (.fptr cs)=some (.fptr (cs.drop o)):=rfl
theorem ov(cs:List D)(o:Nat)(new:List D):over cs o new=if o+new.length≤cs.length then some (cs.take o++new++cs.drop (o+new.length))else none:=rfl
theorem fb_n(cs:List D):zd0 cs []=some cs:=rfl
theorem fb_c(cs:List D)(o n:Nat)(d:D)(l:List (Nat×Nat×D)):zd0 cs ((o,n,d)::l)=om d.cells fun x=>if x.length=n then om (over cs o x) fun y=>zd0 y l else none:=by
 simp only[zd0,om];cases d.cells with
 |none=>rfl
 |some x=>
  simp only[Option.bind_some];split
  ·cases over cs o x<;>rfl
  ·rfl
theorem fe_n(es:Nat)(els:List (List D)):zew es els []=some els:=rfl
theorem fe_c(es:Nat)(els:List (List D))(i:Nat)(d:D)(l:List (Nat×D)):zew es els ((i,d)::l)=om d.cells fun cs=>if cs.length=es/\i<els.length then zew es (els.set i cs) l else none:=by
 simp only[zew,om];cases d.cells with
 |none=>rfl
 |some x=>rfl
theorem zHA(h:T Ob):wrT h []=h:=rfl
theorem zHD(h:T Ob)(id:Nat)(ob:Ob)(l:List (Nat×Option Ob)):wrT h ((id,some ob)::l)=wrT (h.set id ob) l:=rfl
theorem zHz(h:T Ob)(id:Nat)(l:List (Nat×Option Ob)):wrT h ((id,none)::l)=wrT (h.del id) l:=rfl
theorem wo_n(c:Nat):zat c []=true:=rfl
theorem wo_c(c id:Nat)(o:Option Ob)(l:List (Nat×Option Ob)):zat c ((id,o)::l)=(Nat.blt id c&&zat c l):=rfl
def roO(h:Nat->Option Ob)(id:Nat)(l:List Nat):Option Ob->List (Nat×Option Ob)
 |some (.arr es ro els)=>if els.length≤ro then zaH h l else(id,some (.arr es els.length els))::zaH h l
 |_=>zaH h l
theorem ro_n(h:Nat->Option Ob):zaH h []=[]:=rfl
theorem ro_c(h:Nat->Option Ob)(id:Nat)(l:List Nat):zaH h (id::l)=roO h id l (h id):=by
 simp only[zaH,roO];cases h id with
 |none=>rfl
 |some o=>cases o<;>rfl
theorem zD3(h:Nat->Option Ob)(id:Nat)(l:List Nat)(es ro:Nat)(els:List (List D)):roO h id l (some (.arr es ro els))=if els.length≤ro then zaH h l else(id,some (.arr es els.length els))::zaH h l:=rfl
structure WD [Globs](pr:Pr)(ops:List (Op×Nat))(s:St)(Q:Ex->St->Prop):Prop where
 out:wpC pr (.dreg ops) s Q
theorem zDr [Globs]{pr:Pr}{ops:List (Op×Nat)}{s:St}{Q:Ex->St->Prop}:wpC pr (.dreg ops) s Q=WD pr ops s Q:=propext ⟨fun h=>⟨h⟩,fun h=>h.out⟩
theorem zay [Globs]{pr:Pr}{ops:List (Op×Nat)}{s:St}{Q:Ex->St->Prop}(h:wpE pr [] ops s (Q .nrm)):WD pr ops s Q:=⟨zPr h⟩
theorem zLH(h:Nat->Option Ob)(c:Nat)(cs:List D)(i:Nat):opv h c (.ext (.tu cs) i)=om cs[i]? fun d=>some {d,c}:=by
 simp only[opv,om,okD];cases cs[i]? <;>rfl
theorem zLK(h:Nat->Option Ob)(c:Nat)(b:Bool):opv h c (.un .not (.f (.b b)))=some {d:= .f (.b !b),c}:=rfl
theorem zLE(h:Nat->Option Ob)(c:Nat)(ks:List Nat)(ne:Bool)(a b:List D):opv h c (.eqa ks ne (.ag a) (.ag b))=om (zbt ks a b) fun t=>some {d:= .f (.b (if ne then !t else t)),c}:=by
 simp only[opv,om,okF];cases zbt ks a b<;>rfl
theorem zBz(h:Nat->Option Ob)(c:Nat)(k k':IntKind)(n:Int):opv h c (.cvi k (.f (.i k' n)))=some {d:= .f (.i k (k.wrap n)),c}:=rfl
theorem zLL(h:Nat->Option Ob)(c es:Nat)(x:D)(lo hi mx:Option D):opv h c (.slc es x lo hi mx)=om (sliceB es h x lo hi mx) fun p=>some {d:=p.1,rd:=p.2,c}:=by
 simp only[opv,om];cases sliceB es h x lo hi mx<;>rfl
theorem zLx(h:Nat->Option Ob)(c es byt:Nat)(s x:D):opv h c (.app es byt s x)=om (elemsOf es h x) fun p=>zbU es byt h c s p.1 p.2:=by
 simp only[opv,om];cases elemsOf es h x<;>rfl
theorem zLB(h:Nat->Option Ob)(c es m:Nat)(z:List F)(ps:List (Nat×D)):opv h c (.bsl es z m ps)=om (zew es (List.replicate m (z.map D.f)) ps) fun els=>some {d:= .sl c 0 m es m true,wr:=[(c,some (.arr es 0 els))],c:=c+1}:=by
 simp only[opv,om];cases zew es (List.replicate m (z.map D.f)) ps<;>rfl
def zFw(c es m:Nat)(els:List (List D)):Option (List (List F))->Option Rs
 |some fs=>some {d:= .f (.sl es fs),c}
 |none=>some {d:= .sl c 0 m es m true,wr:=[(c,some (.arr es 0 els))],c:=c+1}
theorem zCe(c es m:Nat)(els:List (List D))(fs:List (List F)):zFw c es m els (some fs)=some {d:= .f (.sl es fs),c}:=rfl
theorem zCd(c es m:Nat)(els:List (List D)):zFw c es m els none=some {d:= .sl c 0 m es m true,wr:=[(c,some (.arr es 0 els))],c:=c+1}:=rfl
theorem zLA(h:Nat->Option Ob)(c es m:Nat)(z:List F)(ps:List (Nat×D)):opv h c (.bsf es z m ps)=om (zew es (List.replicate m (z.map D.f)) ps) fun els=>zFw c es m els (zeS els):=by
 simp only[opv,om,okF];cases zew es (List.replicate m (z.map D.f)) ps with
 |none=>rfl
 |some els=>simp only[Option.bind_some];cases zeS els<;>rfl
theorem fc_n:zeb []=some []:=rfl
theorem fc_f(x:F)(l:List D):zeb (.f x::l)=om (zeb l) fun m=>some (x::m):=by
 simp only[zeb,om];cases zeb l<;>rfl
theorem zI0(a b c d e:Nat)(x:Bool)(l:List D):zeb (.sl a b c d e x::l)=none:=rfl
theorem fw_n:zeS []=some []:=rfl
theorem fw_c(x:List D)(l:List (List D)):zeS (x::l)=om (zeb x) fun y=>om (zeS l) fun m=>some (y::m):=by
 simp only[zeS,om];cases zeb x with
 |none=>rfl
 |some y=>cases zeS l<;>rfl
def elO(es id off len es':Nat):Ob->Option (List (List D)×List Nat)
 | .arr es'' _ els=>if es=es'/\es'=es''/\off+len≤els.length then some ((els.drop off).take len,[id])else none
 |_=>none
theorem zqZ{es id off len es' es'' ro:Nat}{els:List (List D)}:elO es id off len es' (.arr es'' ro els)=if es=es'/\es'=es''/\off+len≤els.length then some ((els.drop off).take len,[id])else none:=rfl
theorem zzD{es id off len es' lim:Nat}{ex:Bool}{h:Nat->Option Ob}:elemsOf es h (.sl id off len es' lim ex)=om (h id) (elO es id off len es'):=by
 simp only[elemsOf,om];cases h id with
 |none=>rfl
 |some o=>cases o<;>rfl
theorem zCO{es es':Nat}{h:Nat->Option Ob}{l:List (List F)}(he:es=es'):elemsOf es h (.f (slc es' l))=some (l.map (·.map D.f),[]):=by
 subst he;cases l with
 |nil=>rfl
 |cons x l=>simp[slc,elemsOf]
def apO(es byt c id off len es' lim:Nat)(ex:Bool)(new:List (List D))(rd:List Nat):Ob->Option Rs
  | .arr es'' ro els=>if es=es'/\es'=es''/\off+len≤els.length then
        if off+len+new.length≤lim then
          if off+len+new.length≤els.length/\ro≤off+len/\zem els (els.take (off+len)++new++els.drop (off+len+new.length))=true then
            some { d:= .sl id off (len+new.length) es lim ex,rd:=id::rd,
                   wr:=[(id,some (.arr es ro (els.take (off+len)++new++els.drop (off+len+new.length))))],c}
          else none
        else if len+new.length≤zaj/\(len+new.length)*byt≤zaj then
          if ex=true then
            some { d:= .sl c 0 (len+new.length) es (len+new.length) false,rd:=id::rd,
                   wr:=[(c,some (.arr es 0 ((els.drop off).take len++new)))],c:=c+1}
          else if off=0/\len=els.length/\ro≤len then
            some {d:= .sl c 0 (off+len+new.length) es (off+len+new.length) false,rd:=id::rd,wr:=[(id,none),(c,some (.arr es ro (els++new)))],c:=c+1}
          else if off=0/\ro≤len/\els.length≤off+len+new.length/\zem els (els.take len++new)=true then
            some {d:= .sl c 0 (off+len+new.length) es (off+len+new.length) false,rd:=id::rd,wr:=[(id,none),(c,some (.arr es ro (els.take len++new)))],c:=c+1}
          else none
        else none
      else none
  |_=>none
theorem zht{es byt c:Nat}{h:Nat->Option Ob}{new:List (List D)}{rd:List Nat}:zbU es byt h c (.f .nils) new rd=if new.length=0 then some {d:= .f .nils,rd,c} else
  if new.length≤zaj/\new.length*byt≤zaj then some {d:= .sl c 0 new.length es new.length false,rd,wr:=[(c,some (.arr es 0 new))],c:=c+1} else none:=rfl
theorem zkJ [Globs]{es byt c id off len es' lim:Nat}{ex:Bool}{h:Nat->Option Ob}{new:List (List D)}{rd:List Nat}:zbU es byt h c (.sl id off len es' lim ex) new rd=
  if new.length=0 then some {d:= .sl id off len es' lim ex,rd,c} else om (h id) (apO es byt c id off len es' lim ex new rd):=by
 rw[zwG];split
 ·rfl
 ·simp only[om];cases h id with
  |none=>rfl
  |some o=>cases o<;>rfl
theorem rd_1(s:St)(v:Rv):resD s [v]=resV s v:=by
 simp only[resD,zax];cases resV s v<;>rfl
theorem rd_2(s:St)(v w:Rv):resD s [v,w]=om (resV s v) fun x=>om (resV s w) fun y=>some (.tu [x,y]):=by
 simp only[resD,zax,om];cases resV s v with
 |none=>rfl
 |some x=>cases resV s w<;>rfl
theorem rv_t(s:St)(n:Nat):resV s (.t n)=s.tm.get n:=rfl
theorem rv_c(s:St)(n sz:Nat)(g:Bool):resV s (.cell n g sz)=om (s.tm.get n) fun p=>om (zcn g sz s.h.get p) fun y=>some y.1:=by
 simp only[resV,om];cases s.tm.get n with
 |none=>rfl
 |some p=>simp only[Option.bind_some];cases zcn g sz s.h.get p<;>rfl
theorem zt9{res:List Rv}{y:F}{s:St}:zkV res y .ret s↔oB (resD s res) fun d=>oB (frz s.h.get 12 d) fun p=>p.1=y:=by
 simp only[zkV,true_and,oB];cases resD s res with
 |none=>simp
 |some d=>
  simp only[Option.some.injEq,exists_eq_left'];cases frz s.h.get 12 d with
  |none=>simp
  |some p=>obtain⟨a,b⟩ :=p;simp
theorem zCS{res:List Rv}{y:F}{s:St}:zkV res y .nrm s↔oB (resD s res) fun d=>oB (frz s.h.get 12 d) fun p=>p.1=y:=by
 rw[<-zt9];rfl
end Go.Vse
end
section
namespace Go.Vse
def Grow(h:T Ob)(lo c es:Nat)(d:D)(els:List (List D)):Prop:=
 (d= .f .nils/\els=[])\/∃id,d= .sl id 0 els.length es els.length false/\els≠[]/\h.get id=some (.arr es 0 els)/\lo≤id/\id<c
theorem Grow.nil{h:T Ob}{lo c es:Nat}:Grow h lo c es (.f .nils) []:= .inl ⟨rfl,rfl⟩
theorem zF0 [Globs]{h:T Ob}{lo c es byt:Nat}{d:D}{els new:List (List D)}{rd:List Nat}(hg:Grow h lo c es d els)(hlo:lo≤c)(hlen:els.length+new.length≤1000000)(hb:byt≤1000):
  ∃r,zbU es byt h.get c d new rd=some r/\zat r.c r.wr=true/\Grow (wrT h r.wr) lo r.c es r.d (els++new)/\c≤r.c/\∀id,id<lo->(wrT h r.wr).get id=h.get id:=by
 have hm:∀n,n≤1000000->n≤zaj:=fun n hn=>by have:=zaR (n:=n) (by omega);simpa using this
 have hmb:∀n,n≤1000000->n*byt≤zaj:=fun n hn=>by
  have:n*byt≤1000000*1000:=Nat.mul_le_mul hn hb;have h2:=zaR (n:=n*byt) (by omega);simpa using h2
 by_cases h0:new.length=0
 ·have hn:new=[]:=List.length_eq_zero_iff.1 h0;subst hn;rcases hg with⟨rfl,rfl⟩ |⟨id,rfl,he,ho,hl,hc⟩
  ·exact⟨{d:= .f .nils,rd,c},by rw[zht];simp,rfl,.inl ⟨rfl,rfl⟩,Nat.le_refl _,fun _ _=>rfl⟩
  ·exact⟨{d:= .sl id 0 els.length es els.length false,rd,c},by rw[zkJ];simp,rfl,.inr ⟨id,by simp,by simpa using he,by simpa [wrT]using ho,hl,hc⟩,Nat.le_refl _,fun _ _=>rfl⟩
 ·rcases hg with⟨rfl,rfl⟩ |⟨id,rfl,he,ho,hl,hc⟩
  ·refine⟨{d:= .sl c 0 new.length es new.length false,rd,wr:=[(c,some (.arr es 0 new))],c:=c+1},?_,?_,.inr ⟨c,rfl,?_,?_,hlo,by simp⟩,by simp,?_⟩
   ·rw[zht,if_neg h0,if_pos ⟨hm _ (by simpa using hlen),hmb _ (by simpa using hlen)⟩]
   ·simp[zat,Nat.blt_eq]
   ·simpa using fun e=>h0 (by simp[e])
   ·simp[wrT,T.zab]
   ·intro i hi;have:i≠c:=by omega
    simp[wrT,T.zab,this]
  ·refine⟨{d:= .sl c 0 (els.length+new.length) es (els.length+new.length) false,rd:=id::rd,wr:=[(id,none),(c,some (.arr es 0 (els++new)))],c:=c+1},?_,?_,.inr ⟨c,by simp,?_,?_,hlo,by simp⟩,by simp,?_⟩
   ·rw[zkJ,if_neg h0,ho];have h1:¬(0+els.length+new.length≤els.length):=by omega
    have h2:=hm (els.length+new.length) hlen;have h3:=hmb (els.length+new.length) hlen;simp[om,apO,h1,h2,h3];omega
   ·simp[zat,Nat.blt_eq];omega
   ·simp[he]
   ·simp[wrT,T.zab]
   ·intro i hi;have h1:i≠c:=by omega
    have h2:i≠id:=by omega
    simp[wrT,T.zab,T.zfq,h1,h2]
theorem zMR{h h':T Ob}{lo c c' es:Nat}{d:D}{els:List (List D)}(hg:Grow h lo c es d els)(hh:∀id,id<c->h'.get id=h.get id)(hc:c≤c'):Grow h' lo c' es d els:=by
 rcases hg with⟨rfl,rfl⟩ |⟨id,rfl,he,ho,hl,hlt⟩
 ·exact .inl ⟨rfl,rfl⟩
 ·exact .inr ⟨id,rfl,he,by rw[hh id hlt];exact ho,hl,by omega⟩
theorem zMO [Globs]{h:T Ob}{lo c es byt:Nat}{d:D}{els new:List (List D)}{rd:List Nat}{K:Rs->Prop}(hg:Grow h lo c es d els)(hlo:lo≤c)(hlen:els.length+new.length≤1000000)(hb:byt≤1000)
  (hK:∀r:Rs,zat r.c r.wr=true->Grow (wrT h r.wr) lo r.c es r.d (els++new)->c≤r.c->(∀id,id<lo->(wrT h r.wr).get id=h.get id)->K r):oB (zbU es byt h.get c d new rd) K:=by
 obtain⟨r,h1,h2,h3,h4,h5⟩ :=zF0 (byt:=byt) (rd:=rd) hg hlo hlen hb;rw[h1];exact hK r h2 h3 h4 h5
section
variable [Globs]{pr:Pr}
structure WL(pr:Pr)(c:C)(s:St)(Q:Ex->St->Prop):Prop where
 out:wpC pr (.loop c) s Q
def rn(pr:Pr)(c:C)(Q:Ex->St->Prop)(x:Ex)(s:St):Prop:=match x with
 | .nrm=>WL pr c s Q
 |x=>Q x s
theorem zDZ{c:C}{Q:Ex->St->Prop}{s:St}:rn pr c Q .nrm s=WL pr c s Q:=rfl
theorem zD1{c:C}{Q:Ex->St->Prop}{s:St}:rn pr c Q .ret s=Q .ret s:=rfl
theorem zyb{c:C}{Q:Ex->St->Prop}{s:St}{i:Nat}:rn pr c Q (.exit i) s=Q (.exit i) s:=rfl
theorem round{c:C}{s:St}{Q:Ex->St->Prop}(h:wpC pr c s (rn pr c Q)):WL pr c s Q:=by
 refine⟨zMh ?_⟩;have e:rn pr c Q=fun x s'=>match x with
  | .nrm=>wpC pr (.loop c) s' Q
  |x=>Q x s':=by
  funext x s'
  cases x with
  |nrm=>exact propext ⟨fun h=>h.out,fun h=>⟨h⟩⟩
  |ret=>rfl
  |exit i=>rfl
 rw[e]at h;exact h
theorem zDs{c:C}{s:St}{Q:Ex->St->Prop}:wpC pr (.loop c) s Q=WL pr c s Q:=propext ⟨fun h=>⟨h⟩,fun h=>h.out⟩
theorem zcu{c:C}{Q:Ex->St->Prop}(I:Nat->St->Prop)(R:Ex->St->Prop)(hstep:∀k s,I k s->wpC pr c s (lp I k R))(k:Nat)(s:St)(h:I k s)(hQ:∀x s,R x s->Q x s):WL pr c s Q:=⟨loopQ I R hstep k s h hQ⟩
end
end Go.Vse
end
section
namespace Go.Vse
variable [Globs]
def zFJ(res:List Rv)(P:F->Prop)(x:Ex)(s:St):Prop:=
 (match x with| .exit _=>False|_=>True)/\∃d,resD s res=some d/\∃y rd,frz s.h.get 12 d=some (y,rd)/\P y
theorem zt4{res:List Rv}{P:F->Prop}{s:St}:zFJ res P .ret s↔oB (resD s res) fun d=>oB (frz s.h.get 12 d) fun p=>P p.1:=by
 simp only[zFJ,true_and,oB];cases resD s res with
 |none=>simp
 |some d=>
  simp only[Option.some.injEq,exists_eq_left'];cases frz s.h.get 12 d with
  |none=>simp
  |some p=>
   obtain⟨a,b⟩ :=p;simp only[Option.some.injEq,Prod.mk.injEq];exact⟨fun⟨y,rd,⟨e1,e2⟩,h⟩ =>by rw[e1];exact h,fun h=>⟨a,b,⟨rfl,rfl⟩,h⟩⟩
theorem zCQ{res:List Rv}{P:F->Prop}{s:St}:zFJ res P .nrm s↔oB (resD s res) fun d=>oB (frz s.h.get 12 d) fun p=>P p.1:=by
 rw[<-zt4];rfl
omit [Globs]in
theorem fza(h:Nat->Option Ob)(l:List D):zdx h l=zbO (frz h 12) l:=rfl
omit [Globs]in
omit [Globs]in
omit [Globs]in
omit [Globs]in
theorem oi_n(d:Nat):za9 d none=some d:=rfl
omit [Globs]in
theorem oi_s(d:Nat)(x:D):za9 d (some x)=zbz x:=rfl
omit [Globs]in
theorem zK7{es:Nat}{h:Nat->Option Ob}:sliceB es h (.f .nils) none (some (.f (.i .i64 0))) none=some (.f .nils,[]):=rfl
omit [Globs]in
theorem zK9{es:Nat}{h:Nat->Option Ob}:sliceB es h (.f .nils) (some (.f (.i .i64 0))) none none=some (.f .nils,[]):=rfl
omit [Globs]in
theorem zEy{es es':Nat}{h:Nat->Option Ob}{els:List (List F)}{lo hi:Option D}:sliceB es h (.f (.sl es' els)) lo hi none=om (za9 0 lo) fun l=>om (za9 els.length hi) fun r=>
  if es=es'/\l≤r/\r≤els.length then some (.f (.sl es ((els.drop l).take (r - l))),[])else none:=by
 simp only[sliceB,om];cases za9 0 lo with
 |none=>rfl
 |some l=>simp only[Option.bind_some];cases za9 els.length hi<;>rfl
section
variable {pr:Pr}{s:St}{Q:St->Prop}{dst:Option Nat}{L:List (List Nat×List Nat)}{mask:Nat}
theorem zKM{l:List Op}{g:Bool}{off n:Nat}{x:A}:wpO pr (⟨dst,none,.fld g off n x⟩ ::l) s Q↔oB (((O.fld g off n x).res (zad s.tm)).bind (opv s.h.get s.c)) fun r=>zat r.c r.wr=true/\wpO pr l (s.aft dst r.d r.wr r.c) Q:=zd6 rfl
theorem zIL{l:List (Op×Nat)}{g:Bool}{off n:Nat}{x:A}:wpE pr L ((⟨dst,none,.fld g off n x⟩,mask)::l) s Q↔oB (((O.fld g off n x).res (zad s.tm)).bind (opv s.h.get s.c)) fun r=>zat r.c r.wr=true/\
    zdi mask L r.rd (r.wr.map (·.1))/\wpE pr (L++[(r.rd,r.wr.map (·.1))]) l (s.ae dst r.d r.wr r.c) Q:=zcW rfl
omit [Globs]in
theorem zLI(h:Nat->Option Ob)(c:Nat)(g:Bool)(off n:Nat)(cs:List D):opv h c (.fld g off n (.ag cs))=om (zcQ g off n cs) fun d=>some {d,c}:=by
 simp only[opv,om,okD];cases zcQ g off n cs<;>rfl
end
end Go.Vse
end
section
namespace Go.Vse
set_option maxRecDepth 100000
theorem ob_s{α β:Type}(a:α)(f:α->Option β):(some a).bind f=f a:=rfl
theorem ob_m{α β:Type}(a:α)(f:α->β):(some a).map f=some (f a):=rfl
theorem ob_b{α β:Type}(a:Option α)(f:α->Option β):(a>>=f)=a.bind f:=rfl
theorem cm_n{m:Nat}{rd wr:List Nat}:zdi m [] rd wr=True:=rfl
theorem cm_c{m:Nat}{r w:List Nat}{L:List (List Nat×List Nat)}{rd wr:List Nat}:zdi m ((r,w)::L) rd wr=((m%2=1->zc0 rd w/\zc0 wr w/\zc0 wr r)/\zdi (m/2) L rd wr):=rfl
theorem fn_n(f:Nat):fnD f []= .f (.fn f):=rfl
theorem fn_c(f:Nat)(x:D)(l:List D):fnD f (x::l)= .fn f [] (x::l):=rfl
theorem zEk(f:A->Option D)(x:A)(i:Nat):O.res f (.ext x i)=(f x).bind fun y=>some (.ext y i):=rfl
theorem zK5(f:A->Option D)(op:UnOp)(x:A):O.res f (.un op x)=(f x).bind fun y=>some (.un op y):=rfl
theorem zEc(f:A->Option D)(k:IntKind)(x:A):O.res f (.cvi k x)=(f x).bind fun y=>some (.cvi k y):=rfl
theorem zEe(f:A->Option D)(ks:List Nat)(ne:Bool)(x y:A):O.res f (.eqa ks ne x y)=(f x).bind fun a=>(f y).bind fun b=>some (.eqa ks ne a b):=rfl
theorem zD5(f:A->Option D)(es b:Nat)(x y:A):O.res f (.app es b x y)=(f x).bind fun a=>(f y).bind fun c=>some (.app es b a c):=rfl
theorem zEl(f:A->Option D)(g:Bool)(o n:Nat)(x:A):O.res f (.fld g o n x)=(f x).bind fun y=>some (.fld g o n y):=rfl
theorem zEq(f:A->Option D)(es:Nat)(x:A)(a b c:Option A):O.res f (.slc es x a b c)=(f x).bind fun y=>(zde f a).bind fun a=>(zde f b).bind fun b=>(zde f c).bind fun c=>some (.slc es y a b c):=rfl
theorem zD9(f:A->Option D)(es:Nat)(z:List F)(m:Nat)(ps:List (Nat×A)):O.res f (.bsl es z m ps)=(zax (fun p:Nat×A=>(f p.2).bind fun y=>some (p.1,y)) ps).bind fun qs=>some (.bsl es z m qs):=rfl
theorem zD8(f:A->Option D)(es:Nat)(z:List F)(m:Nat)(ps:List (Nat×A)):O.res f (.bsf es z m ps)=(zax (fun p:Nat×A=>(f p.2).bind fun y=>some (p.1,y)) ps).bind fun qs=>some (.bsf es z m qs):=rfl
def fw(l:List F):List F:=l
theorem fw_e(l:List F):fw l=l:=rfl
theorem zxE [Globs]{pr:Pr}{l:List Op}{s:St}{Q:St->Prop}{dst:Option Nat}{f:Nat}{args:List A}:wpO pr (⟨dst,none,.callp f args⟩ ::l) s Q↔oB (zax (zad s.tm) args) fun ds=>oB (zdx s.h.get ds) fun y=>aB pr f (fw y.1) fun x=>
  zat s.c (zaH s.h.get y.2)=true/\wpO pr l (s.aft dst x.d (zaH s.h.get y.2) s.c) Q:=zOo
theorem zup [Globs]{pr:Pr}{l:List (Op×Nat)}{s:St}{Q:St->Prop}{dst:Option Nat}{L:List (List Nat×List Nat)}{mask f:Nat}{args:List A}:wpE pr L ((⟨dst,none,.callp f args⟩,mask)::l) s Q↔oB (zax (zad s.tm) args) fun ds=>oB (zdx s.h.get ds) fun y=>aB pr f (fw y.1) fun x=>zat s.c (zaH s.h.get y.2)=true/\
    zdi mask L y.2 ((zaH s.h.get y.2).map (·.1))/\wpE pr (L++[(y.2,(zaH s.h.get y.2).map (·.1))]) l (s.ae dst x.d (zaH s.h.get y.2) s.c) Q:=zMv
section
variable [Globs]{pr:Pr}{s:St}{Q:St->Prop}{dst:Option Nat}{L:List (List Nat×List Nat)}{mask:Nat}
theorem zKK{l:List Op}{ne:Bool}{x y:A}:wpO pr (⟨dst,none,.eqb ne x y⟩ ::l) s Q↔oB (((O.eqb ne x y).res (zad s.tm)).bind (opv s.h.get s.c)) fun r=>zat r.c r.wr=true/\wpO pr l (s.aft dst r.d r.wr r.c) Q:=zd6 rfl
theorem zIH{l:List (Op×Nat)}{kd:Nat}{ne:Bool}{x y:A}:wpE pr L ((⟨dst,none,.eqn kd ne x y⟩,mask)::l) s Q↔oB (((O.eqn kd ne x y).res (zad s.tm)).bind (opv s.h.get s.c)) fun r=>zat r.c r.wr=true/\zdi mask L r.rd (r.wr.map (·.1))/\wpE pr (L++[(r.rd,r.wr.map (·.1))]) l (s.ae dst r.d r.wr r.c) Q:=zcW rfl
theorem zKL{l:List Op}{kd:Nat}{ne:Bool}{x y:A}:wpO pr (⟨dst,none,.eqn kd ne x y⟩ ::l) s Q↔oB (((O.eqn kd ne x y).res (zad s.tm)).bind (opv s.h.get s.c)) fun r=>zat r.c r.wr=true/\wpO pr l (s.aft dst r.d r.wr r.c) Q:=zd6 rfl
theorem zIQ{l:List (Op×Nat)}{es b:Nat}{z:List F}{x y:A}:wpE pr L ((⟨dst,none,.mks es b z x y⟩,mask)::l) s Q↔oB (((O.mks es b z x y).res (zad s.tm)).bind (opv s.h.get s.c)) fun r=>zat r.c r.wr=true/\zdi mask L r.rd (r.wr.map (·.1))/\wpE pr (L++[(r.rd,r.wr.map (·.1))]) l (s.ae dst r.d r.wr r.c) Q:=zcW rfl
theorem zKN{l:List Op}{es b:Nat}{z:List F}{x y:A}:wpO pr (⟨dst,none,.mks es b z x y⟩ ::l) s Q↔oB (((O.mks es b z x y).res (zad s.tm)).bind (opv s.h.get s.c)) fun r=>zat r.c r.wr=true/\wpO pr l (s.aft dst r.d r.wr r.c) Q:=zd6 rfl
theorem e_mm{l:List (Op×Nat)}{mx:Bool}{x y:A}:wpE pr L ((⟨dst,none,.mm mx x y⟩,mask)::l) s Q↔oB (((O.mm mx x y).res (zad s.tm)).bind (opv s.h.get s.c)) fun r=>zat r.c r.wr=true/\zdi mask L r.rd (r.wr.map (·.1))/\wpE pr (L++[(r.rd,r.wr.map (·.1))]) l (s.ae dst r.d r.wr r.c) Q:=zcW rfl
theorem o_mm{l:List Op}{mx:Bool}{x y:A}:wpO pr (⟨dst,none,.mm mx x y⟩ ::l) s Q↔oB (((O.mm mx x y).res (zad s.tm)).bind (opv s.h.get s.c)) fun r=>zat r.c r.wr=true/\wpO pr l (s.aft dst r.d r.wr r.c) Q:=zd6 rfl
end
theorem zEi(f:A->Option D)(ne:Bool)(x y:A):O.res f (.eqb ne x y)=(f x).bind fun a=>(f y).bind fun b=>some (.eqb ne a b):=rfl
theorem zEj(f:A->Option D)(kd:Nat)(ne:Bool)(x y:A):O.res f (.eqn kd ne x y)=(f x).bind fun a=>(f y).bind fun b=>some (.eqn kd ne a b):=rfl
theorem zEo(f:A->Option D)(es b:Nat)(z:List F)(x y:A):O.res f (.mks es b z x y)=(f x).bind fun a=>(f y).bind fun c=>some (.mks es b z a c):=rfl
theorem zK1(f:A->Option D)(mx:Bool)(x y:A):O.res f (.mm mx x y)=(f x).bind fun a=>(f y).bind fun c=>some (.mm mx a c):=rfl
theorem zLF(h:Nat->Option Ob)(c:Nat)(ne p q:Bool):opv h c (.eqb ne (.f (.b p)) (.f (.b q)))=some {d:= .f (.b (if ne then !(p==q)else p==q)),c}:=rfl
theorem v_mm(h:Nat->Option Ob)(c:Nat)(mx:Bool)(k:IntKind)(a b:Int):opv h c (.mm mx (.f (.i k a)) (.f (.i k b)))=some {d:= .f (.i k (if mx then(if b>a then b else a)else(if b<a then b else a))),c}:=by simp[opv,okF]
def rulA [Globs]:=
 qI @zKb (qI @k_reg (qI @zDr (qI @zDs (qI @zDZ (qI @zD1 (qI @zyb (qI @zJw (qI @zpC (qI @zEG (qI @zyx (qI @zDx (qI @zDy (qI @zmC (qI @zDB (qI @zxT (qI @zIi (qI @zCh (qI @zCf (qI @zLP (qI @zLO (qI @y_mv (qI @zE4 (qI @y_ld (qI @zLR (qI @zL1 (qI @zLW (qI @y_fa (qI @zLV (qI @zLT (qI @y_st (qI @y_ia (qI @zL0 (qI @zLS (qI @zxE (qI @zE2 (qI @zyN (qI @zIV (qI @e_mv (qI @zCC (qI @e_ld (qI @zIv (qI @zIE (qI @e_len (qI @e_fa (qI @e_ia (qI @zIw (qI @zIT (qI @e_st (qI @zup (qI @zxy (qI @zId (qI @zBZ (qI @ztU (qI @zrW (qI @zea (qI @zBv (qI @zHm (qI @zHk (qI @zBu (qI @zy2 (qI @zFd (qI @zFb (qI @zy1 (qI @zBd (qI @zG5 (qI @zG4 (qI @zBc (qI @zmE (qI @zDJ (qI @zDH (qI @zIb (qI @zIa (qI @zwH (qI @zBX (qI @zwL (qI @zBy (qI @zHr (qI @zHq (qI @zBx (qI @ztw (qI @zy4 (qI @zy3 (qI @ztv (qI @zlT (qI @zsj (qI @T.zab (qI @T.zfq (qI @T.zsU (qI @fza (qI @zwX (qI @zwW (qI @zwT (qI @zwU (qI @zwR (qI @zp0 (qI @zwP (qI @zw2 (qI @zw0 (qI @zwZ (qI @zwY (qI @zw1 (qI @zIJ (qI @e_un (qI @zID (qI @zIt (qI @zIA (qI @zIy (qI @zIW (qI @zIB (qI @zKJ (qI @zKD (qI @zKG (qI @zKF (qI @zKO (qI @zKI (qI @zjD (qI @zgP (qI @zii (qI @zuY (qI @zrj (qI @zDz (qI @zuN (qI @zJp (qI @zdU (qI @mo_n (qI @mo_c (qI @oo_n (qI @oo_s (qI @fr_n (qI @fr_c (qI @zJf (qI @zJd (qI @zJc (qI @zfG (qI @f12f (qI @f11f (qI @f10f (qI @f9f (qI @f8f (qI @f12a (qI @f11a (qI @f10a (qI @f9a (qI @f12t (qI @f12s (qI @f11s (qI @f10s (qI @f9s (qI @zxR (qI @ld_p (qI @zKh (qI @pF_t (qI @pF_f (qI @pD_t (qI @pD_f (qI @zyA (qI @st_p (qI @zx4 (qI @h8_i (qI @zDm (qI @zuF (qI @zDl (qI @h8_b (qI @h8_s (qI @zxP (qI @zDk (qI @zJl (qI @zDn (qI @zIl (qI @ce_i (qI @ce_b (qI @ce_s (qI @zxb (qI @zCk (qI @zgr (qI @zIm (qI @zCl (qI @zxa (qI @d_ag (qI @d_tu (qI @d_i (qI @d_b (qI @d_s (qI @zCw (qI @d_un (qI @d_sl (qI @dl_n (qI @dl_c (qI @ti_i (qI @fa_p (qI @fa_f (qI @ov (qI @fb_n (qI @fb_c (qI @fe_n (qI @fe_c (qI @zHA (qI @zHD (qI @zHz (qI @wo_n (qI @wo_c (qI @ro_n (qI @ro_c (qI @zD3 (qI @zLH (qI @zLK (qI @zLE (qI @zBz (qI @zLL (qI @zLx (qI @zLB (qI @zLA (qI @zCe (qI @zCd (qI @fc_n (qI @fc_f (qI @zI0 (qI @fw_n (qI @fw_c (qI @zxz (qI @zCM (qI @zqZ (qI @zzD (qI @zht (qI @zkJ (qI @rd_1 (qI @rd_2 (qI @rv_t (qI @rv_c (qI @zt9 (qI @zCS (qI @zt4 (qI @zCQ (qI @zKM (qI @zIL (qI @zLI (qI @oi_n (qI @oi_s (qI @zK7 (qI @zK9 (qI @zEy (qI @zKK (qI @zIH (qI @zKL (qI @zIQ (qI @zKN (qI @e_mm (qI @o_mm (qI @zEi (qI @zEj (qI @zEo (qI @zK1 (qI @zLF (qI @v_mm (qI @fw_e (qI @ob_s (qI @ob_m (qI @ob_b (qI @cm_n (qI @cm_c (qI @fn_n (qI @fn_c (qI @zEk (qI @zK5 (qI @zEc (qI @zEe (qI @zD5 (qI @zEl (qI @zEq (qI @zD9 (@zD8)))))))))))))))))))))))))))))))))))))))))))))))))))))))))))))))))))))))))))))))))))))))))))))))))))))))))))))))))))))))))))))))))))))))))))))))))))))))))))))))))))))))))))))))))))))))))))))))))))))))))))))))))))))))))))))))))))))))))))))))))))))))))))))))))))))))))))))))
def rulN [Globs]:=
 qI @zKb (qI @k_reg (qI @zDr (qI @zDs (qI @zDZ (qI @zD1 (qI @zyb (qI @zJw (qI @zpC (qI @zEG (qI @zyx (qI @zDx (qI @zDy (qI @zmC (qI @zDB (qI @zxT (qI @zIi (qI @zCh (qI @zCf (qI @zLP (qI @zLO (qI @y_mv (qI @zE4 (qI @y_ld (qI @zLR (qI @zL1 (qI @zLW (qI @y_fa (qI @zLV (qI @zLT (qI @y_st (qI @y_ia (qI @zL0 (qI @zLS (qI @zxE (qI @zE2 (qI @zyN (qI @zIV (qI @e_mv (qI @zCC (qI @e_ld (qI @zIv (qI @zIE (qI @e_len (qI @e_fa (qI @e_ia (qI @zIw (qI @zIT (qI @e_st (qI @zup (qI @zxy (qI @zId (qI @zBZ (qI @ztU (qI @zrW (qI @zea (qI @zBv (qI @zHm (qI @zHk (qI @zBu (qI @zy2 (qI @zFd (qI @zFb (qI @zy1 (qI @zBd (qI @zG5 (qI @zG4 (qI @zBc (qI @zmE (qI @zDJ (qI @zDH (qI @zIb (qI @zIa (qI @zwH (qI @zBX (qI @zwL (qI @zBy (qI @zHr (qI @zHq (qI @zBx (qI @ztw (qI @zy4 (qI @zy3 (qI @ztv (qI @zlT (qI @zsj (qI @T.zab (qI @T.zfq (qI @T.zsU (qI @fza (qI @zwX (qI @zwW (qI @zwT (qI @zwU (qI @zwR (qI @zp0 (qI @zwP (qI @zw2 (qI @zw0 (qI @zwZ (qI @zwY (qI @zw1 (qI @zIJ (qI @e_un (qI @zID (qI @zIt (qI @zIA (qI @zIy (qI @zIW (qI @zIB (qI @zKJ (qI @zKD (qI @zKG (qI @zKF (qI @zKO (qI @zKI (qI @zjD (qI @zgP (qI @zii (qI @zuY (qI @zrj (qI @zDz (qI @zuN (qI @zJp (qI @zdU (qI @mo_n (qI @mo_c (qI @oo_n (qI @oo_s (qI @fr_n (qI @fr_c (qI @zJf (qI @zJd (qI @zJc (qI @zfG (qI @f12f (qI @f11f (qI @f10f (qI @f9f (qI @f8f (qI @f12a (qI @f11a (qI @f10a (qI @f9a (qI @f12t (qI @f12s (qI @f11s (qI @f10s (qI @f9s (qI @zxR (qI @ld_p (qI @zKh (qI @pF_t (qI @pF_f (qI @pD_t (qI @pD_f (qI @zyA (qI @st_p (qI @zx4 (qI @h8_i (qI @zDm (qI @zuF (qI @zDl (qI @h8_b (qI @h8_s (qI @zxP (qI @zDk (qI @zJl (qI @zDn (qI @zIl (qI @ce_i (qI @ce_b (qI @ce_s (qI @zxb (qI @zCk (qI @zgr (qI @zIm (qI @zCl (qI @zxa (qI @d_ag (qI @d_tu (qI @d_i (qI @d_b (qI @d_s (qI @zCw (qI @d_un (qI @d_sl (qI @dl_n (qI @dl_c (qI @ti_i (qI @fa_p (qI @fa_f (qI @ov (qI @fb_n (qI @fb_c (qI @fe_n (qI @fe_c (qI @zHA (qI @zHD (qI @zHz (qI @wo_n (qI @wo_c (qI @ro_n (qI @ro_c (qI @zD3 (qI @zLH (qI @zLK (qI @zLE (qI @zBz (qI @zLL (qI @zLx (qI @zLB (qI @zLA (qI @zCe (qI @zCd (qI @fc_n (qI @fc_f (qI @zI0 (qI @fw_n (qI @fw_c (qI @zxz (qI @zCM (qI @zqZ (qI @zzD (qI @rd_1 (qI @rd_2 (qI @rv_t (qI @rv_c (qI @zt9 (qI @zCS (qI @zt4 (qI @zCQ (qI @zKM (qI @zIL (qI @zLI (qI @oi_n (qI @oi_s (qI @zK7 (qI @zK9 (qI @zEy (qI @zKK (qI @zIH (qI @zKL (qI @zIQ (qI @zKN (qI @e_mm (qI @o_mm (qI @zEi (qI @zEj (qI @zEo (qI @zK1 (qI @zLF (qI @v_mm (qI @fw_e (qI @ob_s (qI @ob_m (qI @ob_b (qI @cm_n (qI @cm_c (qI @fn_n (qI @fn_c (qI @zEk (qI @zK5 (qI @zEc (qI @zEe (qI @zD5 (qI @zEl (qI @zEq (qI @zD9 (@zD8)))))))))))))))))))))))))))))))))))))))))))))))))))))))))))))))))))))))))))))))))))))))))))))))))))))))))))))))))))))))))))))))))))))))))))))))))))))))))))))))))))))))))))))))))))))))))))))))))))))))))))))))))))))))))))))))))))))))))))))))))))))))))))))))))))))))))))))
end Go.Vse
end
section
set_option linter.all false
namespace Go.Vse
variable [Globs]
section
variable {pr:Pr}{α σ ρ:Type}
def nxF(J:Nat->St->Prop)(R1:Nat->Ex->St->Prop)(hit:Prop)(n:Nat)(x:Ex)(s:St):Prop:=match x with
 | .nrm=>¬hit/\J (n+1) s
 |x=>hit/\R1 n x s
theorem zKq{J:Nat->St->Prop}{R1:Nat->Ex->St->Prop}{hit:Prop}{n:Nat}{s:St}:nxF J R1 hit n .nrm s=(¬hit/\J (n+1) s):=rfl
theorem zKr{J:Nat->St->Prop}{R1:Nat->Ex->St->Prop}{hit:Prop}{n:Nat}{s:St}:nxF J R1 hit n .ret s=(hit/\R1 n .ret s):=rfl
theorem zKp{J:Nat->St->Prop}{R1:Nat->Ex->St->Prop}{hit:Prop}{n i:Nat}{s:St}:nxF J R1 hit n (.exit i) s=(hit/\R1 n (.exit i) s):=rfl
def nxE(R:Ex->St->Prop)(x:Ex)(s:St):Prop:=match x with
 | .nrm=>False
 |x=>R x s
theorem zKm{R:Ex->St->Prop}{s:St}:nxE R .nrm s=False:=rfl
theorem zKo{R:Ex->St->Prop}{s:St}:nxE R .ret s=R .ret s:=rfl
theorem zKj{R:Ex->St->Prop}{i:Nat}{s:St}:nxE R (.exit i) s=R (.exit i) s:=rfl
theorem zpe{c:C}{Q:Ex->St->Prop}(I:Nat->St->Prop)(hstep:∀k s,I k s->∃P:Ex->St->Prop,wpC pr c s P/\∀x s',P x s'->lp I k Q x s'):∀(k:Nat) (s:St),I k s->wpC pr (.loop c) s Q:=by
 intro k
 induction k using Nat.strongRecOn with
 |ind k ih=>
  intro s hI;obtain⟨P,hw,hP⟩ :=hstep k s hI;obtain⟨x,s1,hq,ev⟩ :=zfD c s _ hw;have hq:=hP x s1 hq;cases x with
  |nrm=>
   obtain⟨k',hlt,hI'⟩ :=hq;obtain⟨x2,s2,m,h2,e2⟩ :=ih k' hlt s1 hI';exact⟨x2,s2,m+1,h2,(ev.and e2).mono fun n ⟨p,q⟩ =>by simp only[iter,p];exact q⟩
  |exit i=>exact⟨.exit i,s1,1,hq,ev.mono fun n p=>by simp only[iter,p]⟩
  |ret=>exact⟨.ret,s1,1,hq,ev.mono fun n p=>by simp only[iter,p]⟩
theorem zd2{c:C}{Q:Ex->St->Prop}(l:List α)(p:α->Bool)(J:Nat->St->Prop)(R0:Ex->St->Prop)(R1:Nat->Ex->St->Prop)
  (hb:∀n s (h:n<l.length),J n s->wpC pr c s (nxF J R1 (p l[n]=true) n))
  (he:∀s,J l.length s->wpC pr c s (nxE R0))(s:St)(h0:J 0 s)
  (q0:(∀a∈l,p a=false)->∀x s,R0 x s->Q x s)(q1:∀n (h:n<l.length),p l[n]=true->(∀m (h':m<n),p (l[m]'(by omega))=false)->∀x s,R1 n x s->Q x s):WL pr c s Q:=by
 refine⟨zpe (fun k s=>∃n,n≤l.length/\k=l.length - n/\J n s/\∀m (h:m<n) (h':m<l.length),p l[m]=false) ?_ l.length s ⟨0,Nat.zero_le _,rfl,h0,fun m h=>by omega⟩⟩;rintro k s ⟨n,hn,rfl,hJ,hA⟩
 by_cases hlt:n<l.length
 ·refine⟨_,hb n s hlt hJ,fun x s' hx=> ?_⟩;cases x with
  |nrm=>
   refine⟨l.length - (n+1),by omega,n+1,by omega,rfl,hx.2,fun m hm h'=> ?_⟩
   by_cases hmn:m<n
   ·exact hA m hmn h'
   ·have:m=n:=by omega
    subst this;simpa using hx.1
  |ret=>exact q1 n hlt hx.1 (fun m h=>hA m h (by omega)) _ _ hx.2
  |exit i=>exact q1 n hlt hx.1 (fun m h=>hA m h (by omega)) _ _ hx.2
 ·have:n=l.length:=by omega
  subst this;have hq:=q0 fun a ha=>by
   obtain⟨m,hm,rfl⟩ :=List.mem_iff_getElem.1 ha;exact hA m hm hm
  refine⟨_,he s hJ,fun x s' hx=> ?_⟩;cases x with
  |nrm=>exact hx.elim
  |ret=>exact hq _ _ hx
  |exit i=>exact hq _ _ hx
omit [Globs]in
theorem zuq:∀(l:List α) (p:α->Bool) (n:Nat) (h:n<l.length),p l[n]=true->(∀m (h':m<n),p (l[m]'(by omega))=false)->l.find? p=some l[n]
 |[],_,_,h,_,_=>by simp at h
 |a::l,p,0,h,h1,_=>by simp at h1;simp[h1]
 |a::l,p,n+1,h,h1,h2=>by
  have h0:p a=false:=h2 0 (by omega);simp only[List.find?_cons,h0];exact zuq l p n (by simpa using h) (by simpa using h1) fun m hm=>by simpa using h2 (m+1) (by omega)
omit [Globs]in
theorem zpV{l:List α}{p:α->Bool}{n:Nat}(h:n<l.length)(h1:p l[n]=true):l.any p=true:=List.any_eq_true.2 ⟨l[n],List.getElem_mem h,h1⟩
omit [Globs]in
theorem ztB{l:List α}{p:α->Bool}(h:∀a∈l,p a=false):l.any p=false:=by simpa using h
omit [Globs]in
theorem zMA{l:List α}{p:α->Bool}(h:∀a∈l,p a=false):l.find? p=none:=by simpa using h
def nxG(J:Nat->σ->St->Prop)(n:Nat)(b:σ)(x:Ex)(s:St):Prop:=match x with
 | .nrm=>J (n+1) b s
 |_=>False
theorem zKs{J:Nat->σ->St->Prop}{n:Nat}{b:σ}{s:St}:nxG J n b .nrm s=J (n+1) b s:=rfl
theorem zd5{c:C}{Q:Ex->St->Prop}(l:List α)(f:σ->α->σ)(a0:σ)(J:Nat->σ->St->Prop)(R:Ex->St->Prop)
  (hb:∀n a s (h:n<l.length),a=(l.take n).foldl f a0->J n a s->wpC pr c s (nxG J n (f a l[n])))
  (he:∀s,J l.length (l.foldl f a0) s->wpC pr c s (nxE R))(s:St)(h0:J 0 a0 s)(hq:∀x s,R x s->Q x s):WL pr c s Q:=by
 refine⟨zpe (fun k s=>∃n,n≤l.length/\k=l.length - n/\J n ((l.take n).foldl f a0) s) ?_ l.length s ⟨0,Nat.zero_le _,rfl,by simpa using h0⟩⟩;rintro k s ⟨n,hn,rfl,hJ⟩
 by_cases hlt:n<l.length
 ·refine⟨_,hb n _ s hlt rfl hJ,fun x s' hx=> ?_⟩;cases x with
  |nrm=>
   refine⟨l.length - (n+1),by omega,n+1,by omega,rfl,?_⟩;rw[List.take_add_one,List.getElem?_eq_getElem hlt,Option.toList_some,List.foldl_append];exact hx
  |ret=>exact hx.elim
  |exit i=>exact hx.elim
 ·have:n=l.length:=by omega
  subst this;rw[List.take_length]at hJ;refine⟨_,he s hJ,fun x s' hx=> ?_⟩;cases x with
  |nrm=>exact hx.elim
  |ret=>exact hq _ _ hx
  |exit i=>exact hq _ _ hx
def nxI(J:Nat->St->Prop)(n:Nat)(x:Ex)(s:St):Prop:=match x with
 | .nrm=>J (n+1) s
 |_=>False
theorem zKx{J:Nat->St->Prop}{n:Nat}{s:St}:nxI J n .nrm s=J (n+1) s:=rfl
theorem zex{c:C}{Q:Ex->St->Prop}(len:Nat)(J:Nat->St->Prop)(R:Ex->St->Prop)
  (hb:∀n s,n<len->J n s->wpC pr c s (nxI J n))(he:∀s,J len s->wpC pr c s (nxE R))(s:St)(h0:J 0 s)(hq:∀x s,R x s->Q x s):WL pr c s Q:=by
 refine⟨zpe (fun k s=>∃n,n≤len/\k=len - n/\J n s) ?_ len s ⟨0,Nat.zero_le _,rfl,h0⟩⟩;rintro k s ⟨n,hn,rfl,hJ⟩
 by_cases hlt:n<len
 ·refine⟨_,hb n s hlt hJ,fun x s' hx=> ?_⟩;cases x with
  |nrm=>exact⟨len - (n+1),by omega,n+1,by omega,rfl,hx⟩
  |ret=>exact hx.elim
  |exit i=>exact hx.elim
 ·have:n=len:=by omega
  subst this;refine⟨_,he s hJ,fun x s' hx=> ?_⟩;cases x with
  |nrm=>exact hx.elim
  |ret=>exact hq _ _ hx
  |exit i=>exact hq _ _ hx
def zc1(f:σ->α->σ⊕ρ):σ->List α->σ⊕ρ
 |a,[]=> .inl a
 |a,x::l=>match f a x with
  | .inl b=>zc1 f b l
  | .inr r=> .inr r
theorem zMC(f:σ->α->σ⊕ρ)(a:σ):zc1 f a []= .inl a:=rfl
theorem zhy(f:σ->α->σ⊕ρ)(a:σ)(x:α)(l:List α):zc1 f a (x::l)=(match f a x with| .inl b=>zc1 f b l| .inr r=> .inr r):=rfl
def nxH(J:Nat->σ->St->Prop)(R:ρ->Ex->St->Prop)(n:Nat)(b:σ⊕ρ)(x:Ex)(s:St):Prop:=match x with
 | .nrm=>∃a,b= .inl a/\J (n+1) a s
 |x=>∃r,b= .inr r/\R r x s
theorem zKu{J:Nat->σ->St->Prop}{R:ρ->Ex->St->Prop}{n:Nat}{b:σ⊕ρ}{s:St}:nxH J R n b .nrm s=∃a,b= .inl a/\J (n+1) a s:=rfl
theorem zKw{J:Nat->σ->St->Prop}{R:ρ->Ex->St->Prop}{n:Nat}{b:σ⊕ρ}{s:St}:nxH J R n b .ret s=∃r,b= .inr r/\R r .ret s:=rfl
theorem zKt{J:Nat->σ->St->Prop}{R:ρ->Ex->St->Prop}{n i:Nat}{b:σ⊕ρ}{s:St}:nxH J R n b (.exit i) s=∃r,b= .inr r/\R r (.exit i) s:=rfl
theorem zuv{c:C}{Q:Ex->St->Prop}(l:List α)(f:σ->α->σ⊕ρ)(a0:σ)(J:Nat->σ->St->Prop)(R0:σ->Ex->St->Prop)(R1:ρ->Ex->St->Prop)
  (hb:∀n a s (h:n<l.length),J n a s->wpC pr c s (nxH J R1 n (f a l[n])))
  (he:∀a s,J l.length a s->wpC pr c s (nxE (R0 a)))(s:St)(h0:J 0 a0 s)(q0:∀a,zc1 f a0 l= .inl a->∀x s,R0 a x s->Q x s)(q1:∀r,zc1 f a0 l= .inr r->∀x s,R1 r x s->Q x s):WL pr c s Q:=by
 refine⟨zpe (fun k s=>∃n a,n≤l.length/\k=l.length - n/\J n a s/\zc1 f a0 l=zc1 f a (l.drop n)) ?_ l.length s ⟨0,a0,Nat.zero_le _,rfl,h0,rfl⟩⟩;rintro k s ⟨n,a,hn,rfl,hJ,hA⟩
 by_cases hlt:n<l.length
 ·rw[List.drop_eq_getElem_cons hlt]at hA;rw[zhy]at hA;refine⟨_,hb n a s hlt hJ,fun x s' hx=> ?_⟩;cases x with
  |nrm=>
   obtain⟨b,hf,hJ'⟩ :=hx;rw[hf]at hA;exact⟨l.length - (n+1),by omega,n+1,b,by omega,rfl,hJ',hA⟩
  |ret=>
   obtain⟨r,hf,hr⟩ :=hx;rw[hf]at hA;exact q1 r hA _ _ hr
  |exit i=>
   obtain⟨r,hf,hr⟩ :=hx;rw[hf]at hA;exact q1 r hA _ _ hr
 ·have:n=l.length:=by omega
  subst this;rw[List.drop_length,zMC]at hA;refine⟨_,he a s hJ,fun x s' hx=> ?_⟩;cases x with
  |nrm=>exact hx.elim
  |ret=>exact q0 a hA _ _ hx
  |exit i=>exact q0 a hA _ _ hx
def nxS{β:Type}(J:Nat->St->Prop)(R:β->Ex->St->Prop)(n:Nat)(b:Option β)(x:Ex)(s:St):Prop:=match x with
 | .nrm=>b=none/\J (n+1) s
 |x=>∃r,b=some r/\R r x s
theorem zKA{β:Type}{J:Nat->St->Prop}{R:β->Ex->St->Prop}{n:Nat}{b:Option β}{s:St}:nxS J R n b .nrm s=(b=none/\J (n+1) s):=rfl
theorem zKC{β:Type}{J:Nat->St->Prop}{R:β->Ex->St->Prop}{n:Nat}{b:Option β}{s:St}:nxS J R n b .ret s=∃r,b=some r/\R r .ret s:=rfl
theorem zKz{β:Type}{J:Nat->St->Prop}{R:β->Ex->St->Prop}{n i:Nat}{b:Option β}{s:St}:nxS J R n b (.exit i) s=∃r,b=some r/\R r (.exit i) s:=rfl
theorem zLc{β:Type}{c:C}{Q:Ex->St->Prop}(l:List α)(g:α->Option β)(J:Nat->St->Prop)(R0:Ex->St->Prop)(R1:β->Ex->St->Prop)
  (hb:∀n s (h:n<l.length),J n s->wpC pr c s (nxS J R1 n (g l[n])))
  (he:∀s,J l.length s->wpC pr c s (nxE R0))(s:St)(h0:J 0 s)(q0:l.findSome? g=none->∀x s,R0 x s->Q x s)(q1:∀r,l.findSome? g=some r->∀x s,R1 r x s->Q x s):WL pr c s Q:=by
 refine⟨zpe (fun k s=>∃n,n≤l.length/\k=l.length - n/\J n s/\l.findSome? g=(l.drop n).findSome? g) ?_ l.length s ⟨0,Nat.zero_le _,rfl,h0,rfl⟩⟩;rintro k s ⟨n,hn,rfl,hJ,hA⟩
 by_cases hlt:n<l.length
 ·rw[List.drop_eq_getElem_cons hlt,List.findSome?_cons]at hA;refine⟨_,hb n s hlt hJ,fun x s' hx=> ?_⟩;cases x with
  |nrm=>
   rw[hx.1]at hA;exact⟨l.length - (n+1),by omega,n+1,by omega,rfl,hx.2,hA⟩
  |ret=>
   obtain⟨r,hf,hr⟩ :=hx;rw[hf]at hA;exact q1 r hA _ _ hr
  |exit i=>
   obtain⟨r,hf,hr⟩ :=hx;rw[hf]at hA;exact q1 r hA _ _ hr
 ·have:n=l.length:=by omega
  subst this;rw[List.drop_length]at hA;refine⟨_,he s hJ,fun x s' hx=> ?_⟩;cases x with
  |nrm=>exact hx.elim
  |ret=>exact q0 hA _ _ hx
  |exit i=>exact q0 hA _ _ hx
end
def Held(h:T Ob)(lo c es:Nat)(d:D)(els:List (List D)):Prop:=
 (d= .f .nils/\els=[])\/∃id ro,d= .sl id 0 els.length es els.length false/\els≠[]/\h.get id=some (.arr es ro els)/\lo≤id/\id<c
omit [Globs]in
theorem Grow.held{h:T Ob}{lo c es:Nat}{d:D}{els:List (List D)}(hg:Grow h lo c es d els):Held h lo c es d els:=by
 rcases hg with h|⟨id,h1,h2,h3,h4,h5⟩
 ·exact .inl h
 ·exact .inr ⟨id,0,h1,h2,h3,h4,h5⟩
omit [Globs]in
theorem zAu{h:T Ob}{lo c es:Nat}{d:D}{els:List (List D)}(hg:Grow h lo c es d els):d.cells=some [d]:=by
 rcases hg with⟨rfl,_⟩ |⟨id,rfl,_⟩ <;>rfl
omit [Globs]in
theorem zxO{h h':T Ob}{lo c es:Nat}{d:D}{els:List (List D)}(hg:Grow h lo c es d els)(hh:∀id,lo≤id->h'.get id=h.get id):Grow h' lo c es d els:=by
 rcases hg with h|⟨id,h1,h2,h3,h4,h5⟩
 ·exact .inl h
 ·exact .inr ⟨id,h1,h2,by rw[hh id h4];exact h3,h4,h5⟩
def rR [Globs]:=And.intro rulA (qI @zKx (qI @Function.comp_def.{1,1,1} (qI @Nat.blt_eq (qI @zKq (qI @zKr (qI @zKp (qI @zKm (qI @zKo (qI @zKj (qI @zKs (qI @zKu (qI @zKw (qI @zKt (qI @zKA (qI @zKC (qI @zKz (qI @apO.eq_1 (@apO.eq_2))))))))))))))))))
end Go.Vse
end
