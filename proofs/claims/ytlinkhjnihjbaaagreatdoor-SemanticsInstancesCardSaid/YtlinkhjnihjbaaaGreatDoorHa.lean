/- Matching of conjunctive queries over relations of integers, as plain functions; what splitting a query by a constant does to its answers. -/
import Derived.Test.YtlinkhjnihjbaaaGreatDoorVe
set_option linter.all false
section
namespace Go.Vse.Sm
abbrev Str:=List UInt8
inductive Trm where
 |var (s:Str)
 |cst (n:Int)
 deriving DecidableEq
structure Atm where
 r:Str
 neg:Bool
 ts:List Trm
structure Cm where
 op:Int
 l:Trm
 r:Trm
structure CQ where
 as:List Atm
 cs:List Cm
 ne:Bool:=false
 na:Bool:=false
abbrev Env:=List (Str×Int)
def lk:Env->Str->Option Int
 |[],_=>none
 |(n,v)::e,s=>if n=s then some v else lk e s
def gtm(e:Env):Trm->Option Int
 | .cst n=>some n
 | .var s=>lk e s
def bnd(e:Env)(t:Trm)(v:Int):Env×Bool:=
 match gtm e t with
 |some w=>(e,decide (v=w))
 |none=>match t with
  | .var s=>(e++[(s,v)],true)
  | .cst _=>(e,true)
def zE9:Env->List Trm->List Int->Env×Bool
 |e,t::ts,v::vs=>if(bnd e t v).2 then zE9 (bnd e t v).1 ts vs else bnd e t v
 |e,_,_=>(e,true)
def fits(e:Env)(a:Atm)(vs:List Int):Env×Bool:=
 if a.ts.length=vs.length then zE9 e a.ts vs else(e,false)
inductive Asc:List Int->Prop
 |nil:Asc []
 |cons {v:Int} {l:List Int}:(∀w∈l,v<w)->Asc l->Asc (v::l)
def sTm(x:Str)(k:Int):Trm->Trm
 | .var s=>if s=x then .cst k else .var s
 | .cst n=> .cst n
def sAt(x:Str)(k:Int)(a:Atm):Atm:={r:=a.r,neg:=a.neg,ts:=a.ts.map (sTm x k)}
def sCm(x:Str)(k:Int)(m:Cm):Cm:={op:=m.op,l:=sTm x k m.l,r:=sTm x k m.r}
def sub(c:CQ)(x:Str)(k:Int):CQ:={as:=c.as.map (sAt x k),cs:=c.cs.map (sCm x k)}
def del(x:Str):Env->Env
 |[]=>[]
 |(n,v)::e=>if n=x then del x e else(n,v)::del x e
end Go.Vse.Sm
end
section
namespace Go.Vse
variable [Globs]
section
variable {pr:Pr}{s:St}{Q:St->Prop}{dst:Option Nat}{L:List (List Nat×List Nat)}{mask:Nat}
theorem zEX{l:List (Op×Nat)}{x:A}{i:Nat}:wpE pr L ((⟨dst,none,.ext x i⟩,mask)::l) s Q↔oB (((O.ext x i).res (zah s.tm)).bind (opv s.h.get s.c)) fun r=>zat r.c r.wr=true/\
    zcx mask L r.rd (r.wr.map (·.1))/\wpE pr (L++[(r.rd,r.wr.map (·.1))]) l (s.ae dst r.d r.wr r.c) Q:=zct rfl
theorem e_un{l:List (Op×Nat)}{x:A}{op:UnOp}:wpE pr L ((⟨dst,none,.un op x⟩,mask)::l) s Q↔oB (((O.un op x).res (zah s.tm)).bind (opv s.h.get s.c)) fun r=>zat r.c r.wr=true/\
    zcx mask L r.rd (r.wr.map (·.1))/\wpE pr (L++[(r.rd,r.wr.map (·.1))]) l (s.ae dst r.d r.wr r.c) Q:=zct rfl
theorem zEU{l:List (Op×Nat)}{ks:List Nat}{ne:Bool}{x y:A}:wpE pr L ((⟨dst,none,.eqa ks ne x y⟩,mask)::l) s Q↔oB (((O.eqa ks ne x y).res (zah s.tm)).bind (opv s.h.get s.c)) fun r=>zat r.c r.wr=true/\
    zcx mask L r.rd (r.wr.map (·.1))/\wpE pr (L++[(r.rd,r.wr.map (·.1))]) l (s.ae dst r.d r.wr r.c) Q:=zct rfl
theorem zEK{l:List (Op×Nat)}{es byt:Nat}{x y:A}:wpE pr L ((⟨dst,none,.app es byt x y⟩,mask)::l) s Q↔oB (((O.app es byt x y).res (zah s.tm)).bind (opv s.h.get s.c)) fun r=>zat r.c r.wr=true/\
    zcx mask L r.rd (r.wr.map (·.1))/\wpE pr (L++[(r.rd,r.wr.map (·.1))]) l (s.ae dst r.d r.wr r.c) Q:=zct rfl
theorem zEN{l:List (Op×Nat)}{es m:Nat}{z:List F}{ps:List (Nat×A)}:wpE pr L ((⟨dst,none,.bsl es z m ps⟩,mask)::l) s Q↔oB (((O.bsl es z m ps).res (zah s.tm)).bind (opv s.h.get s.c)) fun r=>zat r.c r.wr=true/\
    zcx mask L r.rd (r.wr.map (·.1))/\wpE pr (L++[(r.rd,r.wr.map (·.1))]) l (s.ae dst r.d r.wr r.c) Q:=zct rfl
theorem zEM{l:List (Op×Nat)}{es m:Nat}{z:List F}{ps:List (Nat×A)}:wpE pr L ((⟨dst,none,.bsf es z m ps⟩,mask)::l) s Q↔oB (((O.bsf es z m ps).res (zah s.tm)).bind (opv s.h.get s.c)) fun r=>zat r.c r.wr=true/\
    zcx mask L r.rd (r.wr.map (·.1))/\wpE pr (L++[(r.rd,r.wr.map (·.1))]) l (s.ae dst r.d r.wr r.c) Q:=zct rfl
theorem zE2{l:List (Op×Nat)}{es:Nat}{x:A}{lo hi mx:Option A}:wpE pr L ((⟨dst,none,.slc es x lo hi mx⟩,mask)::l) s Q↔oB (((O.slc es x lo hi mx).res (zah s.tm)).bind (opv s.h.get s.c)) fun r=>zat r.c r.wr=true/\
    zcx mask L r.rd (r.wr.map (·.1))/\wpE pr (L++[(r.rd,r.wr.map (·.1))]) l (s.ae dst r.d r.wr r.c) Q:=zct rfl
theorem zET{l:List (Op×Nat)}{k:IntKind}{x:A}:wpE pr L ((⟨dst,none,.cvi k x⟩,mask)::l) s Q↔oB (((O.cvi k x).res (zah s.tm)).bind (opv s.h.get s.c)) fun r=>zat r.c r.wr=true/\
    zcx mask L r.rd (r.wr.map (·.1))/\wpE pr (L++[(r.rd,r.wr.map (·.1))]) l (s.ae dst r.d r.wr r.c) Q:=zct rfl
def zGy{l:List Op}{ks:List Nat}{ne:Bool}{x y:A}:wpO pr (⟨dst,none,.eqa ks ne x y⟩ ::l) s Q↔oB (((O.eqa ks ne x y).res (zah s.tm)).bind (opv s.h.get s.c)) fun r=>zat r.c r.wr=true/\wpO pr l (s.aft dst r.d r.wr r.c) Q:=zdg rfl
def zGp{l:List Op}{es byt:Nat}{x y:A}:wpO pr (⟨dst,none,.app es byt x y⟩ ::l) s Q↔oB (((O.app es byt x y).res (zah s.tm)).bind (opv s.h.get s.c)) fun r=>zat r.c r.wr=true/\wpO pr l (s.aft dst r.d r.wr r.c) Q:=zdg rfl
def zGu{l:List Op}{es m:Nat}{z:List F}{ps:List (Nat×A)}:wpO pr (⟨dst,none,.bsl es z m ps⟩ ::l) s Q↔oB (((O.bsl es z m ps).res (zah s.tm)).bind (opv s.h.get s.c)) fun r=>zat r.c r.wr=true/\wpO pr l (s.aft dst r.d r.wr r.c) Q:=zdg rfl
def zGr{l:List Op}{es m:Nat}{z:List F}{ps:List (Nat×A)}:wpO pr (⟨dst,none,.bsf es z m ps⟩ ::l) s Q↔oB (((O.bsf es z m ps).res (zah s.tm)).bind (opv s.h.get s.c)) fun r=>zat r.c r.wr=true/\wpO pr l (s.aft dst r.d r.wr r.c) Q:=zdg rfl
def zGI{l:List Op}{es:Nat}{x:A}{lo hi mx:Option A}:wpO pr (⟨dst,none,.slc es x lo hi mx⟩ ::l) s Q↔oB (((O.slc es x lo hi mx).res (zah s.tm)).bind (opv s.h.get s.c)) fun r=>zat r.c r.wr=true/\wpO pr l (s.aft dst r.d r.wr r.c) Q:=zdg rfl
def zGv{l:List Op}{k:IntKind}{x:A}:wpO pr (⟨dst,none,.cvi k x⟩ ::l) s Q↔oB (((O.cvi k x).res (zah s.tm)).bind (opv s.h.get s.c)) fun r=>zat r.c r.wr=true/\wpO pr l (s.aft dst r.d r.wr r.c) Q:=zdg rfl
theorem zHR{c:C}{Q:Ex->St->Prop}(h:wpC pr c s fun x s'=>match x with
  | .nrm=>wpC pr (.loop c) s' Q
  |x=>Q x s'):wpC pr (.loop c) s Q:=by
 obtain⟨x,s1,hq,ev⟩ :=zex c s _ h;cases x with
 |nrm=>
  obtain⟨x2,s2,m,h2,e2⟩ :=hq;exact⟨x2,s2,m+1,h2,(ev.and e2).mono fun n ⟨p,q⟩ =>by simp only[iter,p];exact q⟩
 |exit i=>exact⟨.exit i,s1,1,hq,ev.mono fun n p=>by simp only[iter,p]⟩
 |ret=>exact⟨.ret,s1,1,hq,ev.mono fun n p=>by simp only[iter,p]⟩
end
def slc(es:Nat)(l:List (List F)):F:=match l with
 |[]=> .nils
 |_=> .sl es l
def zuM:zcE (.f .nils)=some 0:=rfl
def zwM(es:Nat)(els:List (List F)):zcE (.f (.sl es els))=some els.length:=rfl
def zBr(id off len es lim:Nat)(ex:Bool):zcE (.sl id off len es lim ex)=some len:=rfl
def zBc(es es':Nat)(els:List (List F))(i:Nat):iaB es (.f (.sl es' els)) i=if es=es' then(els[i]?).map D.fptr else none:=rfl
def zFu(es id off m es' lim:Nat)(ex:Bool)(i:Nat):iaB es (.sl id off m es' lim ex) i=if es=es'/\i<m then some (.ptr id es (off+i) 0)else none:=rfl
def zgb(es:Nat)(l:List (List F)):(slc es l).d= .f (slc es l):=by cases l<;>rfl
def zfb(es:Nat)(l:List (List F)):zcE (.f (slc es l))=some l.length:=by cases l<;>rfl
def zfC(es:Nat)(l:List (List F))(n:Nat):iaB es (.f (slc es l)) n=l[n]?.map D.fptr:=by cases l<;>simp[slc,iaB]
def zb2(es:Nat):slc es []= .nils:=rfl
def zbz(es:Nat)(x:List F)(l:List (List F)):slc es (x::l)= .sl es (x::l):=rfl
def zmt{es:Nat}{l:List (List F)}(h:l≠[]):F.sl es l=slc es l:=by
 cases l with
 |nil=>exact absurd rfl h
 |cons=>rfl
def zwd(a b:List UInt8):zbk .lss (.s a) (.s b)=some (.b (Go.Op.bytesLess a b)):=rfl
def zwc(a b:List UInt8):zbk .gtr (.s a) (.s b)=some (.b (!(Go.Op.bytesLess a b||a==b))):=rfl
def zwa(a b:List UInt8):zbk .eql (.s a) (.s b)=some (.b (a==b)):=rfl
def zwe(a b:List UInt8):zbk .neq (.s a) (.s b)=some (.b (!(a==b))):=rfl
def zHD{es byt c id off len es' lim:Nat}{ex:Bool}{h:Nat->Option Ob}{new:List (List D)}{rd:List Nat}:zbv es byt h c (.sl id off len es' lim ex) new rd=if new.length=0 then some {d:= .sl id off len es' lim ex,rd,c} else
    match h id with
    | some (.arr es'' ro els)=>if es=es'/\es'=es''/\off+len<=els.length then
        if off+len+new.length<=lim then
          if off+len+new.length<=els.length/\ro<=off+len/\zc1 els (els.take (off+len)++new++els.drop (off+len+new.length))=true then
            some { d:= .sl id off (len+new.length) es lim ex,rd:=id::rd,
                   wr:=[(id,some (.arr es ro (els.take (off+len)++new++els.drop (off+len+new.length))))],c}
          else none
        else if len+new.length<=zaC/\(len+new.length)*byt<=zaC then
          if ex then
            some { d:= .sl c 0 (len+new.length) es (len+new.length) false,rd:=id::rd,
                   wr:=[(c,some (.arr es 0 ((els.drop off).take len++new)))],c:=c+1}
          else if off=0/\len=els.length/\ro<=len then
            some {d:= .sl c 0 (off+len+new.length) es (off+len+new.length) false,rd:=id::rd,wr:=[(id,none),(c,some (.arr es ro (els++new)))],c:=c+1}
          else if off=0/\ro<=len/\els.length<=off+len+new.length/\zc1 els (els.take len++new)=true then
            some {d:= .sl c 0 (off+len+new.length) es (off+len+new.length) false,rd:=id::rd,wr:=[(id,none),(c,some (.arr es ro (els.take len++new)))],c:=c+1}
          else none
        else none
      else none
    |_=>none:=rfl
def zaN{n:Nat}(h:n<=1000000000):(n<=zaC)=True:=by
 have:n<=140737488355328:=by omega
 simpa [zaC]using this
def leF{a b:Nat}(h:b<a):(a<=b)=False:=by simp;exact h
def zH3(f:D->Option (F×List Nat)):za3 f []=some ([],[]):=rfl
theorem zg8(f:D->Option (F×List Nat))(x:List D)(l:List (List D)):za3 f (x::l)=match za0 f x with
  |none=>none
  |some (y,r)=>match za3 f l with
   |none=>none
   |some (m,r')=>some (y::m,r++r'):=rfl
theorem zwz(f:D->Option (F×List Nat)):∀a b:List (List D),za3 f (a++b)=match za3 f a with
  |none=>none
  |some (y,r)=>match za3 f b with
   |none=>none
   |some (m,r')=>some (y++m,r++r')
 |[],b=>by
  simp only[Z28,zH3];cases za3 f b with
  |none=>rfl
  |some p=>simp
 |x::a,b=>by
  simp only[Z29,zg8,zwz f a b];cases za0 f x with
  |none=>rfl
  |some p=>
   cases za3 f a with
   |none=>rfl
   |some q=>
    cases za3 f b with
    |none=>rfl
    |some w=>simp
theorem zmS(h:Nat->Option Ob)(k:Nat):∀l:List (List F),za3 (frz h (k+1)) (l.map fun a=>a.map D.f)=some (l,[])
 |[]=>rfl
 |a::l=>by
  have e:∀x:List F,za0 (frz h (k+1)) (x.map D.f)=some (x,[]):=by
   intro x
   induction x with
   |nil=>rfl
   |cons y x ih=>simp only[Z10,za0,ih];rfl
  simp only[Z10,zg8,zmS h k l,e];rfl
namespace Sm
def vF(n:Int):List F:=[.i .i64 1,.i .i64 n,.s []]
def tmF:Trm->List F
 | .var s=>[.s s,.i .i64 0,.i .i64 0,.s []]
 | .cst n=>[.s [],.i .i64 1,.i .i64 n,.s []]
def atF(a:Atm):List F:=[.s a.r,.b a.neg,slc 4 (a.ts.map tmF)]
def asF(c:CQ):F:=if c.na=true/\c.as=[]then .sl 3 []else slc 3 (c.as.map atF)
def valsF(l:List Int):F:=slc 3 (l.map vF)
structure Rl where
 nm:Str
 ce:Bool
 co:F
 tu:List (List Int×List F)
def tuF(t:List Int×List F):List F:=valsF t.1::t.2
def rlF(r:Rl):List F:=[.s r.nm,.b r.ce,r.co,slc 4 (r.tu.map tuF)]
def zCS:Trm->Prop
 | .var s=>s≠[]
 | .cst _=>True
end Sm
end Go.Vse
end
section
namespace Go.Vse
variable [Globs]
section
variable {pr:Pr}
def sq(pr:Pr)(b:C)(Q:Ex->St->Prop)(x:Ex)(s:St):Prop:=match x with
 | .nrm=>wpC pr b s Q
 |x=>Q x s
def kb(id:Nat)(Q:Ex->St->Prop)(x:Ex)(s:St):Prop:=match x with
 | .exit i=>if i=id then Q .nrm s else Q (.exit i) s
 |x=>Q x s
@[congr] theorem sq_congr{b:C}{Q:Ex->St->Prop}{x:Ex}{s:St}:sq pr b Q x s=sq pr b Q x s:=rfl
@[congr] theorem kb_congr{id:Nat}{Q:Ex->St->Prop}{x:Ex}{s:St}:kb id Q x s=kb id Q x s:=rfl
def zGd{a b:C}{s:St}{Q:Ex->St->Prop}:wpC pr (.seq a b) s Q=wpC pr a s (sq pr b Q):=rfl
def zFB{id:Nat}{c:C}{s:St}{Q:Ex->St->Prop}:wpC pr (.blk id c) s Q=wpC pr c s (kb id Q):=rfl
def zCk{b:C}{Q:Ex->St->Prop}{s:St}:sq pr b Q .nrm s=wpC pr b s Q:=rfl
def zCl{b:C}{Q:Ex->St->Prop}{s:St}:sq pr b Q .ret s=Q .ret s:=rfl
def zxz{b:C}{Q:Ex->St->Prop}{s:St}{i:Nat}:sq pr b Q (.exit i) s=Q (.exit i) s:=rfl
def zBp{id:Nat}{Q:Ex->St->Prop}{s:St}:kb id Q .nrm s=Q .nrm s:=rfl
def zBq{id:Nat}{Q:Ex->St->Prop}{s:St}:kb id Q .ret s=Q .ret s:=rfl
def zwG{id:Nat}{Q:Ex->St->Prop}{s:St}{i:Nat}:kb id Q (.exit i) s=if i=id then Q .nrm s else Q (.exit i) s:=rfl
def k_reg{ops:List Op}{s:St}{Q:Ex->St->Prop}:wpC pr (.reg ops) s Q=wpO pr ops s (Q .nrm):=rfl
def aB(pr:Pr)(f:Nat)(fs:List F)(k:F->Prop):Prop:=∃x,Ans pr f fs x/\k x
@[congr] theorem aB_congr{f:Nat}{fs fs':List F}{k:F->Prop}(h:fs=fs'):aB pr f fs k=aB pr f fs' k:=by rw[h]
def Ans.uniq{f:Nat}{fs:List F}{x y:F}(h1:Ans pr f fs x)(h2:Ans pr f fs y):x=y:=by
 obtain⟨q,rd,⟨n,hn⟩,e1⟩ :=h1;obtain⟨q',rd',⟨m,hm⟩,e2⟩ :=h2;have a:zco pr (Nat.max n m) f (F.dL fs) .e 0=some q:=hn (Nat.max n m) (Z135 ..);have b:zco pr (Nat.max n m) f (F.dL fs) .e 0=some q':=hm (Nat.max n m) (Z78 ..);rw[a]at b;cases b;rw[e1]at e2;cases e2;rfl
def zaj{f:Nat}{fs:List F}{y:F}(h:Ans pr f fs y){k:F->Prop}:aB pr f fs k↔k y:=
 ⟨fun⟨x,hx,hk⟩ =>by rw[Ans.uniq h hx];exact hk,fun hk=>⟨y,h,hk⟩⟩
def lp(I:Nat->St->Prop)(k:Nat)(Q:Ex->St->Prop)(x:Ex)(s:St):Prop:=match x with
 | .nrm=>∃k',k'<k/\I k' s
 |x=>Q x s
@[congr] theorem lp_congr{I:Nat->St->Prop}{k:Nat}{Q:Ex->St->Prop}{x:Ex}{s:St}:lp I k Q x s=lp I k Q x s:=rfl
def zcY{I:Nat->St->Prop}{k:Nat}{Q:Ex->St->Prop}{s:St}:lp I k Q .nrm s=∃k',k'<k/\I k' s:=rfl
def zBs{I:Nat->St->Prop}{k:Nat}{Q:Ex->St->Prop}{s:St}:lp I k Q .ret s=Q .ret s:=rfl
def zwN{I:Nat->St->Prop}{k:Nat}{Q:Ex->St->Prop}{s:St}{i:Nat}:lp I k Q (.exit i) s=Q (.exit i) s:=rfl
end
end Go.Vse
end
section
namespace Go.Vse
variable [Globs]
section
variable {pr:Pr}
def loopQ{c:C}{Q:Ex->St->Prop}(I:Nat->St->Prop)(R:Ex->St->Prop)(hstep:∀k s,I k s->wpC pr c s (lp I k R))(k:Nat)(s:St)(h:I k s)(hQ:∀x s,R x s->Q x s):wpC pr (.loop c) s Q:=by
 have hl:wpC pr (.loop c) s R:=zMp I hstep k s h;unfold wpC at hl|-;obtain⟨x,s',m,hr,e⟩ :=hl;exact⟨x,s',m,hQ x s' hr,e⟩
def zAJ{es es':Nat}{h:Nat->Option Ob}{els:List (List F)}:elemsOf es h (.f (.sl es' els))=if es=es' then some (els.map (·.map D.f),[])else none:=rfl
def zww{es:Nat}{h:Nat->Option Ob}:elemsOf es h (.f .nils)=some ([],[]):=rfl
end
end Go.Vse
end
section
namespace Go.Vse
def om{α β:Type}(o:Option α)(k:α->Option β):Option β:=o.bind k
@[congr] theorem om_congr{α β:Type}{o o':Option α}{k:α->Option β}(h:o=o'):om o k=om o' k:=by rw[h]
def zfN{α β:Type}(a:α)(k:α->Option β):om (some a) k=k a:=rfl
def mo_n{α β:Type}(f:α->Option β):zas f []=some []:=rfl
def mo_c{α β:Type}(f:α->Option β)(x:α)(l:List α):zas f (x::l)=om (f x) fun y=>om (zas f l) fun m=>some (y::m):=by
 simp only[zas,om];cases f x with
 |none=>rfl
 |some y=>cases zas f l<;>rfl
def oo_n{α β:Type}(f:α->Option β):zbN f none=some none:=rfl
def oo_s{α β:Type}(f:α->Option β)(x:α):zbN f (some x)=om (f x) fun y=>some (some y):=by
 simp only[zbN,om];cases f x<;>rfl
def fr_n(f:D->Option (F×List Nat)):za0 f []=some ([],[]):=rfl
def fr_c(f:D->Option (F×List Nat))(d:D)(l:List D):za0 f (d::l)=om (f d) fun p=>om (za0 f l) fun q=>some (p.1::q.1,p.2++q.2):=by
 simp only[za0,om];cases f d with
 |none=>rfl
 |some y=>cases za0 f l<;>rfl
def zFi(f:D->Option (F×List Nat)):za3 f []=some ([],[]):=rfl
def zym(f:D->Option (F×List Nat))(d:List D)(l:List (List D)):za3 f (d::l)=om (za0 f d) fun p=>om (za3 f l) fun q=>some (p.1::q.1,p.2++q.2):=by
 simp only[za3,om];cases za0 f d with
 |none=>rfl
 |some y=>cases za3 f l<;>rfl
def zFf [Globs](f:D->Option (F×List Nat))(a b:List (List D)):za3 f (a++b)=om (za3 f a) fun p=>om (za3 f b) fun q=>some (p.1++q.1,p.2++q.2):=by
 rw[zwz];simp only[om];cases za3 f a with
 |none=>rfl
 |some y=>cases za3 f b<;>rfl
def fzS(h:Nat->Option Ob)(k id off len es:Nat):Ob->Option (F×List Nat)
 | .arr es' _ els=>if es=es'/\off+len<=els.length then om (za3 (frz h k) ((els.drop off).take len)) fun p=>some (.sl es p.1,id::p.2)else none
 |_=>none
def zjW{h:Nat->Option Ob}{k id off len es es' ro:Nat}{els:List (List D)}:fzS h k id off len es (.arr es' ro els)=if es=es'/\off+len<=els.length then om (za3 (frz h k) ((els.drop off).take len)) fun p=>some (.sl es p.1,id::p.2)else none:=rfl
def ziS(h:Nat->Option Ob)(k id off len es lim:Nat)(ex:Bool):frz h (k+1) (.sl id off len es lim ex)=om (h id) (fzS h k id off len es):=by
 simp only[frz,om];cases h id with
 |none=>rfl
 |some o=>
  cases o with
  |arr es' ro els=>
   simp only[Z46,fzS];split
   .cases za3 (frz h k) ((els.drop off).take len)<;>rfl
   .rfl
  |_=>rfl
def zpe(h:Nat->Option Ob)(k:Nat)(cs:List D):frz h (k+1) (.ag cs)=om (za0 (frz h k) cs) fun p=>some (.ag p.1,p.2):=by
 simp only[frz,om];cases za0 (frz h k) cs<;>rfl
def zFk(h:Nat->Option Ob)(k:Nat)(cs:List D):frz h (k+1) (.tu cs)=om (za0 (frz h k) cs) fun p=>some (.tu p.1,p.2):=by
 simp only[frz,om];cases za0 (frz h k) cs<;>rfl
def f12f(h:Nat->Option Ob)(x:F):frz h 12 (.f x)=some (x,[]):=rfl
def f11f(h:Nat->Option Ob)(x:F):frz h 11 (.f x)=some (x,[]):=rfl
def f10f(h:Nat->Option Ob)(x:F):frz h 10 (.f x)=some (x,[]):=rfl
def f9f(h:Nat->Option Ob)(x:F):frz h 9 (.f x)=some (x,[]):=rfl
def f8f(h:Nat->Option Ob)(x:F):frz h 8 (.f x)=some (x,[]):=rfl
def f12a(h:Nat->Option Ob)(cs:List D):frz h 12 (.ag cs)=om (za0 (frz h 11) cs) fun p=>some (.ag p.1,p.2):=zpe h 11 cs
def f11a(h:Nat->Option Ob)(cs:List D):frz h 11 (.ag cs)=om (za0 (frz h 10) cs) fun p=>some (.ag p.1,p.2):=zpe h 10 cs
def f10a(h:Nat->Option Ob)(cs:List D):frz h 10 (.ag cs)=om (za0 (frz h 9) cs) fun p=>some (.ag p.1,p.2):=zpe h 9 cs
def f9a(h:Nat->Option Ob)(cs:List D):frz h 9 (.ag cs)=om (za0 (frz h 8) cs) fun p=>some (.ag p.1,p.2):=zpe h 8 cs
def f12t(h:Nat->Option Ob)(cs:List D):frz h 12 (.tu cs)=om (za0 (frz h 11) cs) fun p=>some (.tu p.1,p.2):=zFk h 11 cs
def f12s(h:Nat->Option Ob)(id off len es lim:Nat)(ex:Bool):frz h 12 (.sl id off len es lim ex)=om (h id) (fzS h 11 id off len es):=ziS ..
def f11s(h:Nat->Option Ob)(id off len es lim:Nat)(ex:Bool):frz h 11 (.sl id off len es lim ex)=om (h id) (fzS h 10 id off len es):=ziS ..
def f10s(h:Nat->Option Ob)(id off len es lim:Nat)(ex:Bool):frz h 10 (.sl id off len es lim ex)=om (h id) (fzS h 9 id off len es):=ziS ..
def f9s(h:Nat->Option Ob)(id off len es lim:Nat)(ex:Bool):frz h 9 (.sl id off len es lim ex)=om (h id) (fzS h 8 id off len es):=ziS ..
def ldO(g:Bool)(n id es i j:Nat):Ob->Option (D×List Nat)
 | .arr es' _ els=>if es=es' then om els[i]? fun el=>om (zcy g j n el) fun d=>some (d,[id])else none
 |_=>none
def zwL{g:Bool}{n id es i j es' ro:Nat}{els:List (List D)}:ldO g n id es i j (.arr es' ro els)=if es=es' then om els[i]? fun el=>om (zcy g j n el) fun d=>some (d,[id])else none:=rfl
def ld_p{g:Bool}{n:Nat}{h:Nat->Option Ob}{id es i j:Nat}:zcC g n h (.ptr id es i j)=om (h id) (ldO g n id es i j):=by
 simp only[zcC,om];cases h id with
 |none=>rfl
 |some o=>
  cases o with
  |arr es' ro els=>
   simp only[Z46,ldO];split
   .simp only[om];cases els[i]? with
    |none=>rfl
    |some el=>simp only[Z46];cases zcy g j n el<;>rfl
   .rfl
  |_=>rfl
def zGl{g:Bool}{n:Nat}{h:Nat->Option Ob}{cs:List F}:zcC g n h (.fptr cs)=om (zgT g n cs) fun d=>some (d,[]):=by
 simp only[zcC,om];cases zgT g n cs<;>rfl
def pF_t{n:Nat}{cs:List F}:zgT true n cs=if n<=cs.length then some (.ag ((cs.take n).map D.f))else none:=rfl
def pF_f{n:Nat}{cs:List F}:zgT false n cs=om cs[0]? fun x=>some (.f x):=by
 simp only[zgT,om];cases cs[0]? <;>rfl
def pD_t{o n:Nat}{cs:List D}:zcy true o n cs=if o+n<=cs.length then some (.ag ((cs.drop o).take n))else none:=rfl
def pD_f{o n:Nat}{cs:List D}:zcy false o n cs=cs[o]? :=rfl
def stO(n id es i j:Nat)(v:D):Ob->Option (Nat×Ob)
 | .arr es' ro els=>if es=es'/\ro<=i then om els[i]? fun el=>om v.cells fun cs=>if cs.length=n then om (over el j cs) fun el'=>if zc1 els (els.set i el')=true then some (id,.arr es ro (els.set i el'))else none else none else none
 |_=>none
def zxD{n id es i j es' ro:Nat}{v:D}{els:List (List D)}:stO n id es i j v (.arr es' ro els)=if es=es'/\ro<=i then om els[i]? fun el=>om v.cells fun cs=>if cs.length=n then om (over el j cs) fun el'=>if zc1 els (els.set i el')=true then some (id,.arr es ro (els.set i el'))else none else none else none:=rfl
def st_p{n:Nat}{h:Nat->Option Ob}{id es i j:Nat}{v:D}:zda n h (.ptr id es i j) v=om (h id) (stO n id es i j v):=by
 simp only[zda,om];cases h id with
 |none=>rfl
 |some o=>
  cases o with
  |arr es' ro els=>
   simp only[Z46,stO];split
   .simp only[om];cases els[i]? with
    |none=>rfl
    |some el=>
     simp only[Z46];cases v.cells with
     |none=>rfl
     |some cs=>
      simp only[Z46];split
      .cases over el j cs with
       |none=>rfl
       |some el'=>rfl
      .rfl
   .rfl
  |_=>rfl
def zwR(x y:List (List D)):zc1 x y=(!hd8 x||hd8 y):=rfl
def h8_i(n:Int)(l:List (List D)):hd8 ([.f (.i .u8 n)]::l)=true:=rfl
def zA7:hd8 []=false:=rfl
def h8_2(a b:D)(c:List D)(l:List (List D)):hd8 ((a::b::c)::l)=false:=by
 unfold hd8;split
 .rename_i h;simp at h
 .rfl
def zA3(n:Int)(l:List (List D)):hd8 ([.f (.i .i64 n)]::l)=false:=rfl
def h8_b(n:Bool)(l:List (List D)):hd8 ([.f (.b n)]::l)=false:=rfl
def h8_s(n:List UInt8)(l:List (List D)):hd8 ([.f (.s n)]::l)=false:=rfl
def zwD(l:List (List D)):hd8 ([.f .nils]::l)=false:=rfl
def zA2(e:Nat)(x:List (List F))(l:List (List D)):hd8 ([.f (.sl e x)]::l)=false:=rfl
def zFs(a b c d e:Nat)(x:Bool)(l:List (List D)):hd8 ([.sl a b c d e x]::l)=false:=rfl
def zA9(a b c d:Nat)(l:List (List D)):hd8 ([.ptr a b c d]::l)=false:=rfl
def zEC(cs:List D):(D.ag cs).cells=some cs:=rfl
def ce_i(k:IntKind)(n:Int):(D.f (.i k n)).cells=some [.f (.i k n)]:=rfl
def ce_b(b:Bool):(D.f (.b b)).cells=some [.f (.b b)]:=rfl
def ce_s(l:List UInt8):(D.f (.s l)).cells=some [.f (.s l)]:=rfl
def zwi:(D.f .nils).cells=some [.f .nils]:=rfl
def zAu(e:Nat)(l:List (List F)):(D.f (.sl e l)).cells=some [.f (.sl e l)]:=rfl
def zcc(e:Nat)(l:List (List F)):(D.f (slc e l)).cells=some [.f (slc e l)]:=by cases l<;>rfl
def zEF(a b c d e:Nat)(x:Bool):(D.sl a b c d e x).cells=some [.sl a b c d e x]:=rfl
def zAv(a b c d:Nat):(D.ptr a b c d).cells=some [.ptr a b c d]:=rfl
def zwh(x:List F):(D.fptr x).cells=some [.fptr x]:=rfl
def d_ag(cs:List F):(F.ag cs).d= .ag (F.dL cs):=rfl
def d_tu(cs:List F):(F.tu cs).d= .tu (F.dL cs):=rfl
def d_i(k:IntKind)(n:Int):(F.i k n).d= .f (.i k n):=rfl
def d_b(b:Bool):(F.b b).d= .f (.b b):=rfl
def d_s(l:List UInt8):(F.s l).d= .f (.s l):=rfl
def zAC:(F.nils).d= .f .nils:=rfl
def d_un:(F.un).d= .f .un:=rfl
def d_sl(e:Nat)(l:List (List F)):(F.sl e l).d= .f (.sl e l):=rfl
def dl_n:F.dL []=[]:=rfl
def dl_c(x:F)(l:List F):F.dL (x::l)=x.d::F.dL l:=rfl
def ti_i(k:IntKind)(n:Int):zbq (.f (.i k n))=if 0<=n then some n.toNat else none:=rfl
def fa_p(o id es i j:Nat):faB o (.ptr id es i j)=some (.ptr id es i (j+o)):=rfl
def fa_f(o:Nat)(cs:List F):faB o (.fptr cs)=some (.fptr (cs.drop o)):=rfl
def ov(cs:List D)(o:Nat)(new:List D):over cs o new=if o+new.length<=cs.length then some (cs.take o++new++cs.drop (o+new.length))else none:=rfl
def fb_n(cs:List D):zc0 cs []=some cs:=rfl
def fb_c(cs:List D)(o n:Nat)(d:D)(l:List (Nat×Nat×D)):zc0 cs ((o,n,d)::l)=om d.cells fun x=>if x.length=n then om (over cs o x) fun y=>zc0 y l else none:=by
 simp only[zc0,om];cases d.cells with
 |none=>rfl
 |some x=>
  simp only[Z46];split
  .cases over cs o x<;>rfl
  .rfl
def fe_n(es:Nat)(els:List (List D)):zdQ es els []=some els:=rfl
def fe_c(es:Nat)(els:List (List D))(i:Nat)(d:D)(l:List (Nat×D)):zdQ es els ((i,d)::l)=om d.cells fun cs=>if cs.length=es/\i<els.length then zdQ es (els.set i cs) l else none:=by
 simp only[zdQ,om];cases d.cells with
 |none=>rfl
 |some x=>rfl
def zca(h:T Ob):wrT h []=h:=rfl
def zcb(h:T Ob)(id:Nat)(ob:Ob)(l:List (Nat×Option Ob)):wrT h ((id,some ob)::l)=wrT (h.set id ob) l:=rfl
def zb8(h:T Ob)(id:Nat)(l:List (Nat×Option Ob)):wrT h ((id,none)::l)=wrT (h.del id) l:=rfl
def wo_n(c:Nat):zat c []=true:=rfl
def wo_c(c id:Nat)(o:Option Ob)(l:List (Nat×Option Ob)):zat c ((id,o)::l)=(Nat.blt id c&&zat c l):=rfl
def roO(h:Nat->Option Ob)(id:Nat)(l:List Nat):Option Ob->List (Nat×Option Ob)
 |some (.arr es ro els)=>if els.length<=ro then zaw h l else(id,some (.arr es els.length els))::zaw h l
 |_=>zaw h l
def ro_n(h:Nat->Option Ob):zaw h []=[]:=rfl
def ro_c(h:Nat->Option Ob)(id:Nat)(l:List Nat):zaw h (id::l)=roO h id l (h id):=by
 simp only[zaw,roO];cases h id with
 |none=>rfl
 |some o=>cases o<;>rfl
def zBK(h:Nat->Option Ob)(id:Nat)(l:List Nat)(es ro:Nat)(els:List (List D)):roO h id l (some (.arr es ro els))=if els.length<=ro then zaw h l else(id,some (.arr es els.length els))::zaw h l:=rfl
structure WD [Globs](pr:Pr)(ops:List (Op×Nat))(s:St)(Q:Ex->St->Prop):Prop where
 out:wpC pr (.dreg ops) s Q
def zBh [Globs]{pr:Pr}{ops:List (Op×Nat)}{s:St}{Q:Ex->St->Prop}:wpC pr (.dreg ops) s Q=WD pr ops s Q:=propext ⟨fun h=>⟨h⟩,fun h=>h.out⟩
def zaM [Globs]{pr:Pr}{ops:List (Op×Nat)}{s:St}{Q:Ex->St->Prop}(h:wpE pr [] ops s (Q .nrm)):WD pr ops s Q:=⟨zAs h⟩
def zHi(h:Nat->Option Ob)(c:Nat)(cs:List D)(i:Nat):opv h c (.ext (.tu cs) i)=om cs[i]? fun d=>some {d,c}:=by
 simp only[opv,om,okD];cases cs[i]? <;>rfl
def zHk(h:Nat->Option Ob)(c:Nat)(b:Bool):opv h c (.un .not (.f (.b b)))=some {d:= .f (.b !b),c}:=rfl
def zHf(h:Nat->Option Ob)(c:Nat)(ks:List Nat)(ne:Bool)(a b:List D):opv h c (.eqa ks ne (.ag a) (.ag b))=om (za5 ks a b) fun t=>some {d:= .f (.b (if ne then !t else t)),c}:=by
 simp only[opv,om,okF];cases za5 ks a b<;>rfl
def zzT(h:Nat->Option Ob)(c:Nat)(k k':IntKind)(n:Int):opv h c (.cvi k (.f (.i k' n)))=some {d:= .f (.i k (k.wrap n)),c}:=rfl
def zHm(h:Nat->Option Ob)(c es:Nat)(x:D)(lo hi mx:Option D):opv h c (.slc es x lo hi mx)=om (sliceB es h x lo hi mx) fun p=>some {d:=p.1,rd:=p.2,c}:=by
 simp only[opv,om];cases sliceB es h x lo hi mx<;>rfl
def zHb(h:Nat->Option Ob)(c es byt:Nat)(s x:D):opv h c (.app es byt s x)=om (elemsOf es h x) fun p=>zbv es byt h c s p.1 p.2:=by
 simp only[opv,om];cases elemsOf es h x<;>rfl
def zHd(h:Nat->Option Ob)(c es m:Nat)(z:List F)(ps:List (Nat×D)):opv h c (.bsl es z m ps)=om (zdQ es (List.replicate m (z.map D.f)) ps) fun els=>some {d:= .sl c 0 m es m true,wr:=[(c,some (.arr es 0 els))],c:=c+1}:=by
 simp only[opv,om];cases zdQ es (List.replicate m (z.map D.f)) ps<;>rfl
def zC6(c es m:Nat)(els:List (List D)):Option (List (List F))->Option Rs
 |some fs=>some {d:= .f (.sl es fs),c}
 |none=>some {d:= .sl c 0 m es m true,wr:=[(c,some (.arr es 0 els))],c:=c+1}
def zAr(c es m:Nat)(els:List (List D))(fs:List (List F)):zC6 c es m els (some fs)=some {d:= .f (.sl es fs),c}:=rfl
def zAq(c es m:Nat)(els:List (List D)):zC6 c es m els none=some {d:= .sl c 0 m es m true,wr:=[(c,some (.arr es 0 els))],c:=c+1}:=rfl
def zHc(h:Nat->Option Ob)(c es m:Nat)(z:List F)(ps:List (Nat×D)):opv h c (.bsf es z m ps)=om (zdQ es (List.replicate m (z.map D.f)) ps) fun els=>zC6 c es m els (zes els):=by
 simp only[opv,om,okF];cases zdQ es (List.replicate m (z.map D.f)) ps with
 |none=>rfl
 |some els=>simp only[Z46];cases zes els<;>rfl
def fc_n:zdd []=some []:=rfl
def fc_f(x:F)(l:List D):zdd (.f x::l)=om (zdd l) fun m=>some (x::m):=by
 simp only[zdd,om];cases zdd l<;>rfl
def zE8(a b c d e:Nat)(x:Bool)(l:List D):zdd (.sl a b c d e x::l)=none:=rfl
def fw_n:zes []=some []:=rfl
def fw_c(x:List D)(l:List (List D)):zes (x::l)=om (zdd x) fun y=>om (zes l) fun m=>some (y::m):=by
 simp only[zes,om];cases zdd x with
 |none=>rfl
 |some y=>cases zes l<;>rfl
def elO(es id off len es':Nat):Ob->Option (List (List D)×List Nat)
 | .arr es'' _ els=>if es=es'/\es'=es''/\off+len<=els.length then some ((els.drop off).take len,[id])else none
 |_=>none
def zwv{es id off len es' es'' ro:Nat}{els:List (List D)}:elO es id off len es' (.arr es'' ro els)=if es=es'/\es'=es''/\off+len<=els.length then some ((els.drop off).take len,[id])else none:=rfl
def zE6{es id off len es' lim:Nat}{ex:Bool}{h:Nat->Option Ob}:elemsOf es h (.sl id off len es' lim ex)=om (h id) (elO es id off len es'):=by
 simp only[elemsOf,om];cases h id with
 |none=>rfl
 |some o=>cases o<;>rfl
def apO(es byt c id off len es' lim:Nat)(ex:Bool)(new:List (List D))(rd:List Nat):Ob->Option Rs
  | .arr es'' ro els=>if es=es'/\es'=es''/\off+len<=els.length then
        if off+len+new.length<=lim then
          if off+len+new.length<=els.length/\ro<=off+len/\zc1 els (els.take (off+len)++new++els.drop (off+len+new.length))=true then
            some { d:= .sl id off (len+new.length) es lim ex,rd:=id::rd,
                   wr:=[(id,some (.arr es ro (els.take (off+len)++new++els.drop (off+len+new.length))))],c}
          else none
        else if len+new.length<=zaC/\(len+new.length)*byt<=zaC then
          if ex=true then
            some { d:= .sl c 0 (len+new.length) es (len+new.length) false,rd:=id::rd,
                   wr:=[(c,some (.arr es 0 ((els.drop off).take len++new)))],c:=c+1}
          else if off=0/\len=els.length/\ro<=len then
            some {d:= .sl c 0 (off+len+new.length) es (off+len+new.length) false,rd:=id::rd,wr:=[(id,none),(c,some (.arr es ro (els++new)))],c:=c+1}
          else if off=0/\ro<=len/\els.length<=off+len+new.length/\zc1 els (els.take len++new)=true then
            some {d:= .sl c 0 (off+len+new.length) es (off+len+new.length) false,rd:=id::rd,wr:=[(id,none),(c,some (.arr es ro (els.take len++new)))],c:=c+1}
          else none
        else none
      else none
  |_=>none
def zh5{es byt c:Nat}{h:Nat->Option Ob}{new:List (List D)}{rd:List Nat}:zbv es byt h c (.f .nils) new rd=if new.length=0 then some {d:= .f .nils,rd,c} else
  if new.length<=zaC/\new.length*byt<=zaC then some {d:= .sl c 0 new.length es new.length false,rd,wr:=[(c,some (.arr es 0 new))],c:=c+1} else none:=rfl
theorem zkz [Globs]{es byt c id off len es' lim:Nat}{ex:Bool}{h:Nat->Option Ob}{new:List (List D)}{rd:List Nat}:zbv es byt h c (.sl id off len es' lim ex) new rd=
  if new.length=0 then some {d:= .sl id off len es' lim ex,rd,c} else om (h id) (apO es byt c id off len es' lim ex new rd):=by
 rw[zHD];split
 .rfl
 .simp only[om];cases h id with
  |none=>rfl
  |some o=>cases o<;>rfl
def rd_1(s:St)(v:Rv):resD s [v]=resV s v:=by
 simp only[resD,zas];cases resV s v<;>rfl
def rd_2(s:St)(v w:Rv):resD s [v,w]=om (resV s v) fun x=>om (resV s w) fun y=>some (.tu [x,y]):=by
 simp only[resD,zas,om];cases resV s v with
 |none=>rfl
 |some x=>cases resV s w<;>rfl
def rv_t(s:St)(n:Nat):resV s (.t n)=s.tm.get n:=rfl
def rv_c(s:St)(n sz:Nat)(g:Bool):resV s (.cell n g sz)=om (s.tm.get n) fun p=>om (zcC g sz s.h.get p) fun y=>some y.1:=by
 simp only[resV,om];cases s.tm.get n with
 |none=>rfl
 |some p=>simp only[Z46];cases zcC g sz s.h.get p<;>rfl
def zt7{res:List Rv}{y:F}{s:St}:znK res y .ret s↔oB (resD s res) fun d=>oB (frz s.h.get 12 d) fun p=>p.1=y:=by
 simp only[znK,true_and,oB];cases resD s res with
 |none=>simp
 |some d=>
  simp only[Z45,exists_eq_left'];cases frz s.h.get 12 d with
  |none=>simp
  |some p=>obtain⟨a,b⟩ :=p;simp
def zAN{res:List Rv}{y:F}{s:St}:znK res y .nrm s↔oB (resD s res) fun d=>oB (frz s.h.get 12 d) fun p=>p.1=y:=by
 rw[<-zt7];rfl
end Go.Vse
end
section
namespace Go.Vse
def Grow(h:T Ob)(lo c es:Nat)(d:D)(els:List (List D)):Prop:=
 (d= .f .nils/\els=[])\/∃id,d= .sl id 0 els.length es els.length false/\els≠[]/\h.get id=some (.arr es 0 els)/\lo<=id/\id<c
def Grow.nil{h:T Ob}{lo c es:Nat}:Grow h lo c es (.f .nils) []:= .inl ⟨rfl,rfl⟩
theorem zDF [Globs]{h:T Ob}{lo c es byt:Nat}{d:D}{els new:List (List D)}{rd:List Nat}(hg:Grow h lo c es d els)(hlo:lo<=c)(hlen:els.length+new.length<=1000000)(hb:byt<=1000):
  ∃r,zbv es byt h.get c d new rd=some r/\zat r.c r.wr=true/\Grow (wrT h r.wr) lo r.c es r.d (els++new)/\c<=r.c/\∀id,id<lo->(wrT h r.wr).get id=h.get id:=by
 have hm:∀n,n<=1000000->n<=zaC:=fun n hn=>by have:=zaN (n:=n) (by omega);simpa using this
 have hmb:∀n,n<=1000000->n*byt<=zaC:=fun n hn=>by
  have:n*byt<=1000000*1000:=Z144 hn hb;have h2:=zaN (n:=n*byt) (by omega);simpa using h2
 by_cases h0:new.length=0
 .have hn:new=[]:=Z17.1 h0;subst hn;rcases hg with⟨rfl,rfl⟩ |⟨id,rfl,he,ho,hl,hc⟩
  .exact⟨{d:= .f .nils,rd,c},by rw[zh5];simp,rfl,.inl ⟨rfl,rfl⟩,Z2 _,fun _ _=>rfl⟩
  .exact⟨{d:= .sl id 0 els.length es els.length false,rd,c},by rw[zkz];simp,rfl,.inr ⟨id,by simp,by simpa using he,by simpa [wrT]using ho,hl,hc⟩,Z2 _,fun _ _=>rfl⟩
 .rcases hg with⟨rfl,rfl⟩ |⟨id,rfl,he,ho,hl,hc⟩
  .refine⟨{d:= .sl c 0 new.length es new.length false,rd,wr:=[(c,some (.arr es 0 new))],c:=c+1},?_,?_,.inr ⟨c,rfl,?_,?_,hlo,by simp⟩,by simp,?_⟩
   .rw[zh5,Z49 h0,Z51 ⟨hm _ (by simpa using hlen),hmb _ (by simpa using hlen)⟩]
   .simp[zat,Z79]
   .simpa using fun e=>h0 (by simp[e])
   .simp[wrT,T.zal]
   .intro i hi;have:i≠c:=by omega
    simp[wrT,T.zal,this]
  .refine⟨{d:= .sl c 0 (els.length+new.length) es (els.length+new.length) false,rd:=id::rd,wr:=[(id,none),(c,some (.arr es 0 (els++new)))],c:=c+1},?_,?_,.inr ⟨c,by simp,?_,?_,hlo,by simp⟩,by simp,?_⟩
   .rw[zkz,Z49 h0,ho];have h1:¬(0+els.length+new.length<=els.length):=by omega
    have h2:=hm (els.length+new.length) hlen;have h3:=hmb (els.length+new.length) hlen;simp[om,apO,h1,h2,h3];omega
   .simp[zat,Z79];omega
   .simp[he]
   .simp[wrT,T.zal]
   .intro i hi;have h1:i≠c:=by omega
    have h2:i≠id:=by omega
    simp[wrT,T.zal,T.zbj,h1,h2]
def zd8{h h':T Ob}{lo c c' es:Nat}{d:D}{els:List (List D)}(hg:Grow h lo c es d els)(hh:∀id,id<c->h'.get id=h.get id)(hc:c<=c'):Grow h' lo c' es d els:=by
 rcases hg with⟨rfl,rfl⟩ |⟨id,rfl,he,ho,hl,hlt⟩
 .exact .inl ⟨rfl,rfl⟩
 .exact .inr ⟨id,rfl,he,by rw[hh id hlt];exact ho,hl,by omega⟩
theorem zmX [Globs]{h:T Ob}{lo c es byt:Nat}{d:D}{els new:List (List D)}{rd:List Nat}{K:Rs->Prop}(hg:Grow h lo c es d els)(hlo:lo<=c)(hlen:els.length+new.length<=1000000)(hb:byt<=1000)
  (hK:∀r:Rs,zat r.c r.wr=true->Grow (wrT h r.wr) lo r.c es r.d (els++new)->c<=r.c->(∀id,id<lo->(wrT h r.wr).get id=h.get id)->K r):oB (zbv es byt h.get c d new rd) K:=by
 obtain⟨r,h1,h2,h3,h4,h5⟩ :=zDF (byt:=byt) (rd:=rd) hg hlo hlen hb;rw[h1];exact hK r h2 h3 h4 h5
def zDG [Globs]{h:T Ob}{lo c es k:Nat}{d:D}{els:List (List D)}{L:List (List F)}(hg:Grow h lo c es d els)(hf:za3 (frz h.get k) els=some (L,[])):∃rd,frz h.get (k+1) d=some (slc es L,rd):=by
 rcases hg with⟨rfl,rfl⟩ |⟨id,rfl,he,ho,hl,hc⟩
 .simp only[za3,Z45,Z66]at hf;rw[<-hf.1];exact⟨[],rfl⟩
 .have hL:L≠[]:=by
   rintro rfl;cases els with
   |nil=>exact he rfl
   |cons x l=>
    rw[zym]at hf;simp only[om]at hf;cases h1:za0 (frz h.get k) x with
    |none=>rw[h1]at hf;simp at hf
    |some p=>
     rw[h1]at hf;cases h2:za3 (frz h.get k) l with
     |none=>rw[h2]at hf;simp at hf
     |some q=>rw[h2]at hf;simp at hf
  refine⟨[id],?_⟩;rw[ziS,ho,zfN,zjW];simp only[true_and,Z25,Z2,Z60,Z34,Z7,hf,zfN];rw[zmt hL]
section
variable [Globs]{pr:Pr}
structure WL(pr:Pr)(c:C)(s:St)(Q:Ex->St->Prop):Prop where
 out:wpC pr (.loop c) s Q
def rn(pr:Pr)(c:C)(Q:Ex->St->Prop)(x:Ex)(s:St):Prop:=match x with
 | .nrm=>WL pr c s Q
 |x=>Q x s
def zBI{c:C}{Q:Ex->St->Prop}{s:St}:rn pr c Q .nrm s=WL pr c s Q:=rfl
def zBJ{c:C}{Q:Ex->St->Prop}{s:St}:rn pr c Q .ret s=Q .ret s:=rfl
def zw5{c:C}{Q:Ex->St->Prop}{s:St}{i:Nat}:rn pr c Q (.exit i) s=Q (.exit i) s:=rfl
def round{c:C}{s:St}{Q:Ex->St->Prop}(h:wpC pr c s (rn pr c Q)):WL pr c s Q:=by
 refine⟨zHR ?_⟩;have e:rn pr c Q=fun x s'=>match x with
  | .nrm=>wpC pr (.loop c) s' Q
  |x=>Q x s':=by
  funext x s'
  cases x with
  |nrm=>exact propext ⟨fun h=>h.out,fun h=>⟨h⟩⟩
  |ret=>rfl
  |exit i=>rfl
 rw[e]at h;exact h
def zBi{c:C}{s:St}{Q:Ex->St->Prop}:wpC pr (.loop c) s Q=WL pr c s Q:=propext ⟨fun h=>⟨h⟩,fun h=>h.out⟩
def zeD{c:C}{Q:Ex->St->Prop}(I:Nat->St->Prop)(R:Ex->St->Prop)(hstep:∀k s,I k s->wpC pr c s (lp I k R))(k:Nat)(s:St)(h:I k s)(hQ:∀x s,R x s->Q x s):WL pr c s Q:=⟨loopQ I R hstep k s h hQ⟩
end
end Go.Vse
end
section
namespace Go.Vse
variable [Globs]
def zyh(res:List Rv)(P:F->Prop)(x:Ex)(s:St):Prop:=
 (match x with| .exit _=>False|_=>True)/\∃d,resD s res=some d/\∃y rd,frz s.h.get 12 d=some (y,rd)/\P y
def znH{pr:Pr}{f:Nat}{fn:Fn}(hf:pr.fn f=some fn){fs:List F}{P:F->Prop}(hw:wpC pr fn.body (st0 (F.dL fs) .e 0) (zyh fn.res P)):∃y,P y/\Ans pr f fs y:=by
 obtain⟨x,s,⟨hx,d,hd,y,rd,hz,hP⟩,ev⟩ :=zex _ _ _ hw;refine⟨y,hP,if Nat.beq s.lw 0&&d.isF then ⟨d,.e,0,0,s.mx⟩else ⟨d,s.h,s.c,s.lw,s.mx⟩,rd,?_,?_⟩
 .have key:EV fun m=>zeu (evC (zco pr m) m) fn (F.dL fs) .e 0=some (if Nat.beq s.lw 0&&d.isF then ⟨d,.e,0,0,s.mx⟩else ⟨d,s.h,s.c,s.lw,s.mx⟩):=by
   refine ev.mono fun m hm=> ?_
   unfold zeu;unfold st0 at hm;rw[hm];cases x with
   |exit i=>exact hx.elim
   |nrm=>simp only[hd];split<;>rfl
   |ret=>simp only[hd];split<;>rfl
  obtain⟨N,hN⟩ :=key;refine⟨N+1,fun m hm=> ?_⟩;obtain⟨m,rfl⟩ :∃m',m=m'+1:=⟨m - 1,by omega⟩
  simp only[zco,hf];exact hN m (by omega)
 .split
  .rename_i hb;simp only[Z14]at hb;have hr:=zmV 12 d y rd hb.2 hz;subst hr;exact zgp 12 d y [] hz fun id hid=>by simp at hid
  .exact hz
def ztY{res:List Rv}{P:F->Prop}{s:St}:zyh res P .ret s↔oB (resD s res) fun d=>oB (frz s.h.get 12 d) fun p=>P p.1:=by
 simp only[zyh,true_and,oB];cases resD s res with
 |none=>simp
 |some d=>
  simp only[Z45,exists_eq_left'];cases frz s.h.get 12 d with
  |none=>simp
  |some p=>
   obtain⟨a,b⟩ :=p;simp only[Z45,Z66];exact⟨fun⟨y,rd,⟨e1,e2⟩,h⟩ =>by rw[e1];exact h,fun h=>⟨a,b,⟨rfl,rfl⟩,h⟩⟩
def zAM{res:List Rv}{P:F->Prop}{s:St}:zyh res P .nrm s↔oB (resD s res) fun d=>oB (frz s.h.get 12 d) fun p=>P p.1:=by
 rw[<-ztY];rfl
omit [Globs]in
def fza(h:Nat->Option Ob)(l:List D):zcA h l=za0 (frz h 12) l:=rfl
omit [Globs]in
def oi_n(d:Nat):zbu d none=some d:=rfl
omit [Globs]in
def oi_s(d:Nat)(x:D):zbu d (some x)=zbq x:=rfl
omit [Globs]in
def zGT{es:Nat}{h:Nat->Option Ob}:sliceB es h (.f .nils) none (some (.f (.i .i64 0))) none=some (.f .nils,[]):=rfl
omit [Globs]in
def zGU{es:Nat}{h:Nat->Option Ob}:sliceB es h (.f .nils) (some (.f (.i .i64 0))) none none=some (.f .nils,[]):=rfl
omit [Globs]in
theorem zCd{es es':Nat}{h:Nat->Option Ob}{els:List (List F)}{lo hi:Option D}:sliceB es h (.f (.sl es' els)) lo hi none=om (zbu 0 lo) fun l=>om (zbu els.length hi) fun r=>
  if es=es'/\l<=r/\r<=els.length then some (.f (.sl es ((els.drop l).take (r - l))),[])else none:=by
 simp only[sliceB,om];cases zbu 0 lo with
 |none=>rfl
 |some l=>simp only[Z46];cases zbu els.length hi<;>rfl
section
variable {pr:Pr}{s:St}{Q:St->Prop}{dst:Option Nat}{L:List (List Nat×List Nat)}{mask:Nat}
def zGC{l:List Op}{g:Bool}{off n:Nat}{x:A}:wpO pr (⟨dst,none,.fld g off n x⟩ ::l) s Q↔oB (((O.fld g off n x).res (zah s.tm)).bind (opv s.h.get s.c)) fun r=>zat r.c r.wr=true/\wpO pr l (s.aft dst r.d r.wr r.c) Q:=zdg rfl
theorem zEZ{l:List (Op×Nat)}{g:Bool}{off n:Nat}{x:A}:wpE pr L ((⟨dst,none,.fld g off n x⟩,mask)::l) s Q↔oB (((O.fld g off n x).res (zah s.tm)).bind (opv s.h.get s.c)) fun r=>zat r.c r.wr=true/\
    zcx mask L r.rd (r.wr.map (·.1))/\wpE pr (L++[(r.rd,r.wr.map (·.1))]) l (s.ae dst r.d r.wr r.c) Q:=zct rfl
omit [Globs]in
def zHj(h:Nat->Option Ob)(c:Nat)(g:Bool)(off n:Nat)(cs:List D):opv h c (.fld g off n (.ag cs))=om (zcy g off n cs) fun d=>some {d,c}:=by
 simp only[opv,om,okD];cases zcy g off n cs<;>rfl
end
def zvE{pr:Pr}{c:C}{S:St}{Q:Ex->St->Prop}(P:St->Prop)(h1:P S)(h2:∀s,P s->WL pr c s Q):WL pr c S Q:=h2 S h1
end Go.Vse
end
section
namespace Go.Vse
set_option maxRecDepth 100000
def ob_s{α β:Type}(a:α)(f:α->Option β):(some a).bind f=f a:=rfl
def ob_m{α β:Type}(a:α)(f:α->β):(some a).map f=some (f a):=rfl
def ob_b{α β:Type}(a:Option α)(f:α->Option β):(a>>=f)=a.bind f:=rfl
def cm_n{m:Nat}{rd wr:List Nat}:zcx m [] rd wr=True:=rfl
def cm_c{m:Nat}{r w:List Nat}{L:List (List Nat×List Nat)}{rd wr:List Nat}:zcx m ((r,w)::L) rd wr=((m%2=1->zcG rd w/\zcG wr w/\zcG wr r)/\zcx (m/2) L rd wr):=rfl
def fn_n(f:Nat):fnD f []= .f (.fn f):=rfl
def fn_c(f:Nat)(x:D)(l:List D):fnD f (x::l)= .fn f [] (x::l):=rfl
def zBZ(f:A->Option D)(x:A)(i:Nat):O.res f (.ext x i)=(f x).bind fun y=>some (.ext y i):=rfl
def zGR(f:A->Option D)(op:UnOp)(x:A):O.res f (.un op x)=(f x).bind fun y=>some (.un op y):=rfl
def zBQ(f:A->Option D)(k:IntKind)(x:A):O.res f (.cvi k x)=(f x).bind fun y=>some (.cvi k y):=rfl
def zBR(f:A->Option D)(ks:List Nat)(ne:Bool)(x y:A):O.res f (.eqa ks ne x y)=(f x).bind fun a=>(f y).bind fun b=>some (.eqa ks ne a b):=rfl
def zBM(f:A->Option D)(es b:Nat)(x y:A):O.res f (.app es b x y)=(f x).bind fun a=>(f y).bind fun c=>some (.app es b a c):=rfl
def zB0(f:A->Option D)(g:Bool)(o n:Nat)(x:A):O.res f (.fld g o n x)=(f x).bind fun y=>some (.fld g o n y):=rfl
def zB2(f:A->Option D)(es:Nat)(x:A)(a b c:Option A):O.res f (.slc es x a b c)=(f x).bind fun y=>(zbN f a).bind fun a=>(zbN f b).bind fun b=>(zbN f c).bind fun c=>some (.slc es y a b c):=rfl
def zBO(f:A->Option D)(es:Nat)(z:List F)(m:Nat)(ps:List (Nat×A)):O.res f (.bsl es z m ps)=(zas (fun p:Nat×A=>(f p.2).bind fun y=>some (p.1,y)) ps).bind fun qs=>some (.bsl es z m qs):=rfl
def zBN(f:A->Option D)(es:Nat)(z:List F)(m:Nat)(ps:List (Nat×A)):O.res f (.bsf es z m ps)=(zas (fun p:Nat×A=>(f p.2).bind fun y=>some (p.1,y)) ps).bind fun qs=>some (.bsf es z m qs):=rfl
def fw(l:List F):List F:=l
def fw_e(l:List F):fw l=l:=rfl
theorem zwx [Globs]{pr:Pr}{l:List Op}{s:St}{Q:St->Prop}{dst:Option Nat}{f:Nat}{args:List A}:wpO pr (⟨dst,none,.callp f args⟩ ::l) s Q↔oB (zas (zah s.tm) args) fun ds=>oB (zcA s.h.get ds) fun y=>aB pr f (fw y.1) fun x=>
  zat s.c (zaw s.h.get y.2)=true/\wpO pr l (s.aft dst x.d (zaw s.h.get y.2) s.c) Q:=znk
theorem zuh [Globs]{pr:Pr}{l:List (Op×Nat)}{s:St}{Q:St->Prop}{dst:Option Nat}{L:List (List Nat×List Nat)}{mask f:Nat}{args:List A}:wpE pr L ((⟨dst,none,.callp f args⟩,mask)::l) s Q↔oB (zas (zah s.tm) args) fun ds=>oB (zcA s.h.get ds) fun y=>aB pr f (fw y.1) fun x=>zat s.c (zaw s.h.get y.2)=true/\
    zcx mask L y.2 ((zaw s.h.get y.2).map (·.1))/\wpE pr (L++[(y.2,(zaw s.h.get y.2).map (·.1))]) l (s.ae dst x.d (zaw s.h.get y.2) s.c) Q:=zmM
section
variable [Globs]{pr:Pr}{s:St}{Q:St->Prop}{dst:Option Nat}{L:List (List Nat×List Nat)}{mask:Nat}
def zGA{l:List Op}{ne:Bool}{x y:A}:wpO pr (⟨dst,none,.eqb ne x y⟩ ::l) s Q↔oB (((O.eqb ne x y).res (zah s.tm)).bind (opv s.h.get s.c)) fun r=>zat r.c r.wr=true/\wpO pr l (s.aft dst r.d r.wr r.c) Q:=zdg rfl
def zEW{l:List (Op×Nat)}{kd:Nat}{ne:Bool}{x y:A}:wpE pr L ((⟨dst,none,.eqn kd ne x y⟩,mask)::l) s Q↔oB (((O.eqn kd ne x y).res (zah s.tm)).bind (opv s.h.get s.c)) fun r=>zat r.c r.wr=true/\zcx mask L r.rd (r.wr.map (·.1))/\wpE pr (L++[(r.rd,r.wr.map (·.1))]) l (s.ae dst r.d r.wr r.c) Q:=zct rfl
def zGB{l:List Op}{kd:Nat}{ne:Bool}{x y:A}:wpO pr (⟨dst,none,.eqn kd ne x y⟩ ::l) s Q↔oB (((O.eqn kd ne x y).res (zah s.tm)).bind (opv s.h.get s.c)) fun r=>zat r.c r.wr=true/\wpO pr l (s.aft dst r.d r.wr r.c) Q:=zdg rfl
def zE0{l:List (Op×Nat)}{es b:Nat}{z:List F}{x y:A}:wpE pr L ((⟨dst,none,.mks es b z x y⟩,mask)::l) s Q↔oB (((O.mks es b z x y).res (zah s.tm)).bind (opv s.h.get s.c)) fun r=>zat r.c r.wr=true/\zcx mask L r.rd (r.wr.map (·.1))/\wpE pr (L++[(r.rd,r.wr.map (·.1))]) l (s.ae dst r.d r.wr r.c) Q:=zct rfl
def zGH{l:List Op}{es b:Nat}{z:List F}{x y:A}:wpO pr (⟨dst,none,.mks es b z x y⟩ ::l) s Q↔oB (((O.mks es b z x y).res (zah s.tm)).bind (opv s.h.get s.c)) fun r=>zat r.c r.wr=true/\wpO pr l (s.aft dst r.d r.wr r.c) Q:=zdg rfl
def e_mm{l:List (Op×Nat)}{mx:Bool}{x y:A}:wpE pr L ((⟨dst,none,.mm mx x y⟩,mask)::l) s Q↔oB (((O.mm mx x y).res (zah s.tm)).bind (opv s.h.get s.c)) fun r=>zat r.c r.wr=true/\zcx mask L r.rd (r.wr.map (·.1))/\wpE pr (L++[(r.rd,r.wr.map (·.1))]) l (s.ae dst r.d r.wr r.c) Q:=zct rfl
def o_mm{l:List Op}{mx:Bool}{x y:A}:wpO pr (⟨dst,none,.mm mx x y⟩ ::l) s Q↔oB (((O.mm mx x y).res (zah s.tm)).bind (opv s.h.get s.c)) fun r=>zat r.c r.wr=true/\wpO pr l (s.aft dst r.d r.wr r.c) Q:=zdg rfl
end
def zBS(f:A->Option D)(ne:Bool)(x y:A):O.res f (.eqb ne x y)=(f x).bind fun a=>(f y).bind fun b=>some (.eqb ne a b):=rfl
def zBX(f:A->Option D)(kd:Nat)(ne:Bool)(x y:A):O.res f (.eqn kd ne x y)=(f x).bind fun a=>(f y).bind fun b=>some (.eqn kd ne a b):=rfl
def zB1(f:A->Option D)(es b:Nat)(z:List F)(x y:A):O.res f (.mks es b z x y)=(f x).bind fun a=>(f y).bind fun c=>some (.mks es b z a c):=rfl
def zGP(f:A->Option D)(mx:Bool)(x y:A):O.res f (.mm mx x y)=(f x).bind fun a=>(f y).bind fun c=>some (.mm mx a c):=rfl
def zHh(h:Nat->Option Ob)(c:Nat)(ne p q:Bool):opv h c (.eqb ne (.f (.b p)) (.f (.b q)))=some {d:= .f (.b (if ne then !(p==q)else p==q)),c}:=rfl
def v_mm(h:Nat->Option Ob)(c:Nat)(mx:Bool)(k:IntKind)(a b:Int):opv h c (.mm mx (.f (.i k a)) (.f (.i k b)))=some {d:= .f (.i k (if mx then(if b>a then b else a)else(if b<a then b else a))),c}:=by simp[opv,okF]
def zaQ [Globs]:=
 qI @zGd (qI @k_reg (qI @zBh (qI @zBi (qI @zBI (qI @zBJ (qI @zw5 (qI @zFB (qI @zCk (qI @zCl (qI @zxz (qI @zBp (qI @zBq (qI @zwG (qI @zBs (qI @zwN (qI @zoM (qI @zlH (qI @zlG (qI @zqp (qI @zqo (qI @zvL (qI @zmB (qI @zvK (qI @zqr (qI @zqI (qI @zqG (qI @zvI (qI @zqx (qI @zqv (qI @zvM (qI @zvJ (qI @zqH (qI @zqu (qI @zwx (qI @zmA (qI @zkj (qI @zo3 (qI @ztO (qI @zlK (qI @ztN (qI @zoW (qI @zo1 (qI @e_len (qI @ztL (qI @ztM (qI @zoX (qI @zo2 (qI @ztP (qI @zuh (qI @zjS (qI @zoL (qI @zlD (qI @zix (qI @zhv (qI @zcX (qI @zbf (qI @zbX (qI @zbO (qI @zna (qI @za8 (qI @zbS (qI @zbD (qI @zmE (qI @zbd (qI @zbW (qI @zbU (qI @zm7 (qI @zfM (qI @zl1 (qI @zlZ (qI @zoK (qI @zoG (qI @zjt (qI @zlC (qI @zju (qI @zbh (qI @zbY (qI @zbB (qI @znd (qI @za1 (qI @za9 (qI @za4 (qI @zjq (qI @zgz (qI @zhB (qI @T.zal (qI @T.zbj (qI @T.zkK (qI @fza (qI @zjH (qI @zjF (qI @zjD (qI @zjE (qI @zjA (qI @zjK (qI @zjw (qI @zjL (qI @zwd (qI @zwc (qI @zwa (qI @zwe (qI @zEX (qI @e_un (qI @zEU (qI @zEK (qI @zEN (qI @zEM (qI @zE2 (qI @zET (qI @zGy (qI @zGp (qI @zGu (qI @zGr (qI @zGI (qI @zGv (qI @zgb (qI @zfb (qI @zfC (qI @zuM (qI @zwM (qI @zBr (qI @zBc (qI @zFu (qI @zfN (qI @mo_n (qI @mo_c (qI @oo_n (qI @oo_s (qI @fr_n (qI @fr_c (qI @zFi (qI @zym (qI @zFf (qI @zjW (qI @f12f (qI @f11f (qI @f10f (qI @f9f (qI @f8f (qI @f12a (qI @f11a (qI @f10a (qI @f9a (qI @f12t (qI @f12s (qI @f11s (qI @f10s (qI @f9s (qI @zwL (qI @ld_p (qI @zGl (qI @pF_t (qI @pF_f (qI @pD_t (qI @pD_f (qI @zxD (qI @st_p (qI @zwR (qI @h8_i (qI @zA7 (qI @h8_2 (qI @zA3 (qI @h8_b (qI @h8_s (qI @zwD (qI @zA2 (qI @zFs (qI @zA9 (qI @zEC (qI @ce_i (qI @ce_b (qI @ce_s (qI @zwi (qI @zAu (qI @zcc (qI @zEF (qI @zAv (qI @zwh (qI @d_ag (qI @d_tu (qI @d_i (qI @d_b (qI @d_s (qI @zAC (qI @d_un (qI @d_sl (qI @dl_n (qI @dl_c (qI @ti_i (qI @fa_p (qI @fa_f (qI @ov (qI @fb_n (qI @fb_c (qI @fe_n (qI @fe_c (qI @zca (qI @zcb (qI @zb8 (qI @wo_n (qI @wo_c (qI @ro_n (qI @ro_c (qI @zBK (qI @zHi (qI @zHk (qI @zHf (qI @zzT (qI @zHm (qI @zHb (qI @zHd (qI @zHc (qI @zAr (qI @zAq (qI @fc_n (qI @fc_f (qI @zE8 (qI @fw_n (qI @fw_c (qI @zww (qI @zAJ (qI @zwv (qI @zE6 (qI @zh5 (qI @zkz (qI @rd_1 (qI @rd_2 (qI @rv_t (qI @rv_c (qI @zt7 (qI @zAN (qI @ztY (qI @zAM (qI @zGC (qI @zEZ (qI @zHj (qI @oi_n (qI @oi_s (qI @zGT (qI @zGU (qI @zCd (qI @zGA (qI @zEW (qI @zGB (qI @zE0 (qI @zGH (qI @e_mm (qI @o_mm (qI @zBS (qI @zBX (qI @zB1 (qI @zGP (qI @zHh (qI @v_mm (qI @fw_e (qI @ob_s (qI @ob_m (qI @ob_b (qI @cm_n (qI @cm_c (qI @fn_n (qI @fn_c (qI @zBZ (qI @zGR (qI @zBQ (qI @zBR (qI @zBM (qI @zB0 (qI @zB2 (qI @zBO (@zBN)))))))))))))))))))))))))))))))))))))))))))))))))))))))))))))))))))))))))))))))))))))))))))))))))))))))))))))))))))))))))))))))))))))))))))))))))))))))))))))))))))))))))))))))))))))))))))))))))))))))))))))))))))))))))))))))))))))))))))))))))))))))))))))))))))))))))))))))
def zzO [Globs]:=
 qI @zGd (qI @k_reg (qI @zBh (qI @zBi (qI @zBI (qI @zBJ (qI @zw5 (qI @zFB (qI @zCk (qI @zCl (qI @zxz (qI @zBp (qI @zBq (qI @zwG (qI @zBs (qI @zwN (qI @zoM (qI @zlH (qI @zlG (qI @zqp (qI @zqo (qI @zvL (qI @zmB (qI @zvK (qI @zqr (qI @zqI (qI @zqG (qI @zvI (qI @zqx (qI @zqv (qI @zvM (qI @zvJ (qI @zqH (qI @zqu (qI @zwx (qI @zmA (qI @zkj (qI @zo3 (qI @ztO (qI @zlK (qI @ztN (qI @zoW (qI @zo1 (qI @e_len (qI @ztL (qI @ztM (qI @zoX (qI @zo2 (qI @ztP (qI @zuh (qI @zjS (qI @zoL (qI @zlD (qI @zix (qI @zhv (qI @zcX (qI @zbf (qI @zbX (qI @zbO (qI @zna (qI @za8 (qI @zbS (qI @zbD (qI @zmE (qI @zbd (qI @zbW (qI @zbU (qI @zm7 (qI @zfM (qI @zl1 (qI @zlZ (qI @zoK (qI @zoG (qI @zjt (qI @zlC (qI @zju (qI @zbh (qI @zbY (qI @zbB (qI @znd (qI @za1 (qI @za9 (qI @za4 (qI @zjq (qI @zgz (qI @zhB (qI @T.zal (qI @T.zbj (qI @T.zkK (qI @fza (qI @zjH (qI @zjF (qI @zjD (qI @zjE (qI @zjA (qI @zjK (qI @zjw (qI @zjL (qI @zwd (qI @zwc (qI @zwa (qI @zwe (qI @zEX (qI @e_un (qI @zEU (qI @zEK (qI @zEN (qI @zEM (qI @zE2 (qI @zET (qI @zGy (qI @zGp (qI @zGu (qI @zGr (qI @zGI (qI @zGv (qI @zgb (qI @zfb (qI @zfC (qI @zuM (qI @zwM (qI @zBr (qI @zBc (qI @zFu (qI @zfN (qI @mo_n (qI @mo_c (qI @oo_n (qI @oo_s (qI @fr_n (qI @fr_c (qI @zFi (qI @zym (qI @zFf (qI @zjW (qI @f12f (qI @f11f (qI @f10f (qI @f9f (qI @f8f (qI @f12a (qI @f11a (qI @f10a (qI @f9a (qI @f12t (qI @f12s (qI @f11s (qI @f10s (qI @f9s (qI @zwL (qI @ld_p (qI @zGl (qI @pF_t (qI @pF_f (qI @pD_t (qI @pD_f (qI @zxD (qI @st_p (qI @zwR (qI @h8_i (qI @zA7 (qI @h8_2 (qI @zA3 (qI @h8_b (qI @h8_s (qI @zwD (qI @zA2 (qI @zFs (qI @zA9 (qI @zEC (qI @ce_i (qI @ce_b (qI @ce_s (qI @zwi (qI @zAu (qI @zcc (qI @zEF (qI @zAv (qI @zwh (qI @d_ag (qI @d_tu (qI @d_i (qI @d_b (qI @d_s (qI @zAC (qI @d_un (qI @d_sl (qI @dl_n (qI @dl_c (qI @ti_i (qI @fa_p (qI @fa_f (qI @ov (qI @fb_n (qI @fb_c (qI @fe_n (qI @fe_c (qI @zca (qI @zcb (qI @zb8 (qI @wo_n (qI @wo_c (qI @ro_n (qI @ro_c (qI @zBK (qI @zHi (qI @zHk (qI @zHf (qI @zzT (qI @zHm (qI @zHb (qI @zHd (qI @zHc (qI @zAr (qI @zAq (qI @fc_n (qI @fc_f (qI @zE8 (qI @fw_n (qI @fw_c (qI @zww (qI @zAJ (qI @zwv (qI @zE6 (qI @rd_1 (qI @rd_2 (qI @rv_t (qI @rv_c (qI @zt7 (qI @zAN (qI @ztY (qI @zAM (qI @zGC (qI @zEZ (qI @zHj (qI @oi_n (qI @oi_s (qI @zGT (qI @zGU (qI @zCd (qI @zGA (qI @zEW (qI @zGB (qI @zE0 (qI @zGH (qI @e_mm (qI @o_mm (qI @zBS (qI @zBX (qI @zB1 (qI @zGP (qI @zHh (qI @v_mm (qI @fw_e (qI @ob_s (qI @ob_m (qI @ob_b (qI @cm_n (qI @cm_c (qI @fn_n (qI @fn_c (qI @zBZ (qI @zGR (qI @zBQ (qI @zBR (qI @zBM (qI @zB0 (qI @zB2 (qI @zBO (@zBN)))))))))))))))))))))))))))))))))))))))))))))))))))))))))))))))))))))))))))))))))))))))))))))))))))))))))))))))))))))))))))))))))))))))))))))))))))))))))))))))))))))))))))))))))))))))))))))))))))))))))))))))))))))))))))))))))))))))))))))))))))))))))))))))))))))))))))))
end Go.Vse
end
section
namespace Go.Vse
variable [Globs]
section
variable {pr:Pr}{α σ ρ:Type}
def nxF(J:Nat->St->Prop)(R1:Nat->Ex->St->Prop)(hit:Prop)(n:Nat)(x:Ex)(s:St):Prop:=match x with
 | .nrm=>¬hit/\J (n+1) s
 |x=>hit/\R1 n x s
def zpP{J:Nat->St->Prop}{R1:Nat->Ex->St->Prop}{hit:Prop}{n:Nat}{s:St}:nxF J R1 hit n .nrm s=(¬hit/\J (n+1) s):=rfl
def zpQ{J:Nat->St->Prop}{R1:Nat->Ex->St->Prop}{hit:Prop}{n:Nat}{s:St}:nxF J R1 hit n .ret s=(hit/\R1 n .ret s):=rfl
def zpO{J:Nat->St->Prop}{R1:Nat->Ex->St->Prop}{hit:Prop}{n i:Nat}{s:St}:nxF J R1 hit n (.exit i) s=(hit/\R1 n (.exit i) s):=rfl
def nxE(R:Ex->St->Prop)(x:Ex)(s:St):Prop:=match x with
 | .nrm=>False
 |x=>R x s
def zpM{R:Ex->St->Prop}{s:St}:nxE R .nrm s=False:=rfl
def zpN{R:Ex->St->Prop}{s:St}:nxE R .ret s=R .ret s:=rfl
def zpL{R:Ex->St->Prop}{i:Nat}{s:St}:nxE R (.exit i) s=R (.exit i) s:=rfl
def loopP{c:C}{Q:Ex->St->Prop}(I:Nat->St->Prop)(hstep:∀k s,I k s->∃P:Ex->St->Prop,wpC pr c s P/\∀x s',P x s'->lp I k Q x s'):∀(k:Nat) (s:St),I k s->wpC pr (.loop c) s Q:=by
 intro k
 induction k using Nat.strongRecOn with
 |ind k ih=>
  intro s hI;obtain⟨P,hw,hP⟩ :=hstep k s hI;obtain⟨x,s1,hq,ev⟩ :=zex c s _ hw;have hq:=hP x s1 hq;cases x with
  |nrm=>
   obtain⟨k',hlt,hI'⟩ :=hq;obtain⟨x2,s2,m,h2,e2⟩ :=ih k' hlt s1 hI';exact⟨x2,s2,m+1,h2,(ev.and e2).mono fun n ⟨p,q⟩ =>by simp only[iter,p];exact q⟩
  |exit i=>exact⟨.exit i,s1,1,hq,ev.mono fun n p=>by simp only[iter,p]⟩
  |ret=>exact⟨.ret,s1,1,hq,ev.mono fun n p=>by simp only[iter,p]⟩
def nxG(J:Nat->σ->St->Prop)(n:Nat)(b:σ)(x:Ex)(s:St):Prop:=match x with
 | .nrm=>J (n+1) b s
 |_=>False
def zpR{J:Nat->σ->St->Prop}{n:Nat}{b:σ}{s:St}:nxG J n b .nrm s=J (n+1) b s:=rfl
def nxI(J:Nat->St->Prop)(n:Nat)(x:Ex)(s:St):Prop:=match x with
 | .nrm=>J (n+1) s
 |_=>False
def zpW{J:Nat->St->Prop}{n:Nat}{s:St}:nxI J n .nrm s=J (n+1) s:=rfl
theorem zcz{c:C}{Q:Ex->St->Prop}(len:Nat)(J:Nat->St->Prop)(R:Ex->St->Prop)
  (hb:∀n s,n<len->J n s->wpC pr c s (nxI J n))(he:∀s,J len s->wpC pr c s (nxE R))(s:St)(h0:J 0 s)(hq:∀x s,R x s->Q x s):WL pr c s Q:=by
 refine⟨loopP (fun k s=>∃n,n<=len/\k=len - n/\J n s) ?_ len s ⟨0,Z61 _,rfl,h0⟩⟩;rintro k s ⟨n,hn,rfl,hJ⟩
 by_cases hlt:n<len
 .refine⟨_,hb n s hlt hJ,fun x s' hx=> ?_⟩;cases x with
  |nrm=>exact⟨len - (n+1),by omega,n+1,by omega,rfl,hx⟩
  |ret=>exact hx.elim
  |exit i=>exact hx.elim
 .have:n=len:=by omega
  subst this;refine⟨_,he s hJ,fun x s' hx=> ?_⟩;cases x with
  |nrm=>exact hx.elim
  |ret=>exact hq _ _ hx
  |exit i=>exact hq _ _ hx
def nxH(J:Nat->σ->St->Prop)(R:ρ->Ex->St->Prop)(n:Nat)(b:σ⊕ρ)(x:Ex)(s:St):Prop:=match x with
 | .nrm=>∃a,b= .inl a/\J (n+1) a s
 |x=>∃r,b= .inr r/\R r x s
def zpU{J:Nat->σ->St->Prop}{R:ρ->Ex->St->Prop}{n:Nat}{b:σ⊕ρ}{s:St}:nxH J R n b .nrm s=∃a,b= .inl a/\J (n+1) a s:=rfl
def zpV{J:Nat->σ->St->Prop}{R:ρ->Ex->St->Prop}{n:Nat}{b:σ⊕ρ}{s:St}:nxH J R n b .ret s=∃r,b= .inr r/\R r .ret s:=rfl
def zpS{J:Nat->σ->St->Prop}{R:ρ->Ex->St->Prop}{n i:Nat}{b:σ⊕ρ}{s:St}:nxH J R n b (.exit i) s=∃r,b= .inr r/\R r (.exit i) s:=rfl
def nxS{β:Type}(J:Nat->St->Prop)(R:β->Ex->St->Prop)(n:Nat)(b:Option β)(x:Ex)(s:St):Prop:=match x with
 | .nrm=>b=none/\J (n+1) s
 |x=>∃r,b=some r/\R r x s
def zpZ{β:Type}{J:Nat->St->Prop}{R:β->Ex->St->Prop}{n:Nat}{b:Option β}{s:St}:nxS J R n b .nrm s=(b=none/\J (n+1) s):=rfl
def zp0{β:Type}{J:Nat->St->Prop}{R:β->Ex->St->Prop}{n:Nat}{b:Option β}{s:St}:nxS J R n b .ret s=∃r,b=some r/\R r .ret s:=rfl
def zpY{β:Type}{J:Nat->St->Prop}{R:β->Ex->St->Prop}{n i:Nat}{b:Option β}{s:St}:nxS J R n b (.exit i) s=∃r,b=some r/\R r (.exit i) s:=rfl
end
def rR [Globs]:=And.intro zaQ (qI @zpW (qI @Function.comp_def.{1,1,1} (qI @Nat.blt_eq (qI @zpP (qI @zpQ (qI @zpO (qI @zpM (qI @zpN (qI @zpL (qI @zpR (qI @zpU (qI @zpV (qI @zpS (qI @zpZ (qI @zp0 (qI @zpY (qI @apO.eq_1 (@apO.eq_2))))))))))))))))))
end Go.Vse
end
