/- Matching of conjunctive queries over relations of integers, as plain functions; what splitting a query by a constant does to its answers. -/
import Derived.Test.YtbhholaillniiaaGreatDoorVe
set_option linter.all false
section
namespace Go.Vse.Sm
abbrev Str:=List UInt8
inductive Trm where
 |var (s:Str)
 |cst (n:Int)
 deriving DecidableEq
structure Atm where
 r:Str
 neg:Bool
 ts:List Trm
structure Cm where
 op:Int
 l:Trm
 r:Trm
structure CQ where
 as:List Atm
 cs:List Cm
 ne:Bool:=false
 na:Bool:=false
abbrev Env:=List (Str×Int)
abbrev Rels:=List (Str×List (List Int))
def lk:Env->Str->Option Int
 |[],_=>none
 |(n,v)::e,s=>if n=s then some v else lk e s
def gtm(e:Env):Trm->Option Int
 | .cst n=>some n
 | .var s=>lk e s
def bnd(e:Env)(t:Trm)(v:Int):Env×Bool:=
 match gtm e t with
 |some w=>(e,decide (v=w))
 |none=>match t with
  | .var s=>(e++[(s,v)],true)
  | .cst _=>(e,true)
def zHD:Env->List Trm->List Int->Env×Bool
 |e,t::ts,v::vs=>if(bnd e t v).2 then zHD (bnd e t v).1 ts vs else bnd e t v
 |e,_,_=>(e,true)
def fits(e:Env)(a:Atm)(vs:List Int):Env×Bool:=
 if a.ts.length=vs.length then zHD e a.ts vs else(e,false)
def zrj:Rels->Str->List (List Int)
 |[],_=>[]
 |(n,t)::l,s=>if n=s then t else zrj l s
def zqM(op a b:Int):Bool:=
 if op=1 then decide (a=b)else if op=2 then decide (a≠b)else if op=3 then decide (a<b)else decide (op=4)&&decide (a<=b)
inductive Asc:List Int->Prop
 |nil:Asc []
 |cons {v:Int} {l:List Int}:(∀w∈l,v<w)->Asc l->Asc (v::l)
def sTm(x:Str)(k:Int):Trm->Trm
 | .var s=>if s=x then .cst k else .var s
 | .cst n=> .cst n
def sAt(x:Str)(k:Int)(a:Atm):Atm:={r:=a.r,neg:=a.neg,ts:=a.ts.map (sTm x k)}
def sCm(x:Str)(k:Int)(m:Cm):Cm:={op:=m.op,l:=sTm x k m.l,r:=sTm x k m.r}
def sub(c:CQ)(x:Str)(k:Int):CQ:={as:=c.as.map (sAt x k),cs:=c.cs.map (sCm x k)}
def del(x:Str):Env->Env
 |[]=>[]
 |(n,v)::e=>if n=x then del x e else(n,v)::del x e
end Go.Vse.Sm
end
section
namespace Go.Vse
variable [Globs]
section
variable {pr:Pr}{s:St}{Q:St->Prop}{dst:Option Nat}{L:List (List Nat×List Nat)}{mask:Nat}
theorem zHo{l:List (Op×Nat)}{x:A}{i:Nat}:wpE pr L ((⟨dst,none,.ext x i⟩,mask)::l) s Q↔oB (((O.ext x i).res (zae s.tm)).bind (opv s.h.get s.c)) fun r=>zaq r.c r.wr=true/\
    zcN mask L r.rd (r.wr.map (·.1))/\wpE pr (L++[(r.rd,r.wr.map (·.1))]) l (s.ae dst r.d r.wr r.c) Q:=zcE rfl
theorem e_un{l:List (Op×Nat)}{x:A}{op:UnOp}:wpE pr L ((⟨dst,none,.un op x⟩,mask)::l) s Q↔oB (((O.un op x).res (zae s.tm)).bind (opv s.h.get s.c)) fun r=>zaq r.c r.wr=true/\
    zcN mask L r.rd (r.wr.map (·.1))/\wpE pr (L++[(r.rd,r.wr.map (·.1))]) l (s.ae dst r.d r.wr r.c) Q:=zcE rfl
theorem zHj{l:List (Op×Nat)}{ks:List Nat}{ne:Bool}{x y:A}:wpE pr L ((⟨dst,none,.eqa ks ne x y⟩,mask)::l) s Q↔oB (((O.eqa ks ne x y).res (zae s.tm)).bind (opv s.h.get s.c)) fun r=>zaq r.c r.wr=true/\
    zcN mask L r.rd (r.wr.map (·.1))/\wpE pr (L++[(r.rd,r.wr.map (·.1))]) l (s.ae dst r.d r.wr r.c) Q:=zcE rfl
theorem zHb{l:List (Op×Nat)}{es byt:Nat}{x y:A}:wpE pr L ((⟨dst,none,.app es byt x y⟩,mask)::l) s Q↔oB (((O.app es byt x y).res (zae s.tm)).bind (opv s.h.get s.c)) fun r=>zaq r.c r.wr=true/\
    zcN mask L r.rd (r.wr.map (·.1))/\wpE pr (L++[(r.rd,r.wr.map (·.1))]) l (s.ae dst r.d r.wr r.c) Q:=zcE rfl
theorem zHh{l:List (Op×Nat)}{es m:Nat}{z:List F}{ps:List (Nat×A)}:wpE pr L ((⟨dst,none,.bsl es z m ps⟩,mask)::l) s Q↔oB (((O.bsl es z m ps).res (zae s.tm)).bind (opv s.h.get s.c)) fun r=>zaq r.c r.wr=true/\
    zcN mask L r.rd (r.wr.map (·.1))/\wpE pr (L++[(r.rd,r.wr.map (·.1))]) l (s.ae dst r.d r.wr r.c) Q:=zcE rfl
theorem zHf{l:List (Op×Nat)}{es m:Nat}{z:List F}{ps:List (Nat×A)}:wpE pr L ((⟨dst,none,.bsf es z m ps⟩,mask)::l) s Q↔oB (((O.bsf es z m ps).res (zae s.tm)).bind (opv s.h.get s.c)) fun r=>zaq r.c r.wr=true/\
    zcN mask L r.rd (r.wr.map (·.1))/\wpE pr (L++[(r.rd,r.wr.map (·.1))]) l (s.ae dst r.d r.wr r.c) Q:=zcE rfl
theorem zHv{l:List (Op×Nat)}{es:Nat}{x:A}{lo hi mx:Option A}:wpE pr L ((⟨dst,none,.slc es x lo hi mx⟩,mask)::l) s Q↔oB (((O.slc es x lo hi mx).res (zae s.tm)).bind (opv s.h.get s.c)) fun r=>zaq r.c r.wr=true/\
    zcN mask L r.rd (r.wr.map (·.1))/\wpE pr (L++[(r.rd,r.wr.map (·.1))]) l (s.ae dst r.d r.wr r.c) Q:=zcE rfl
theorem zHi{l:List (Op×Nat)}{k:IntKind}{x:A}:wpE pr L ((⟨dst,none,.cvi k x⟩,mask)::l) s Q↔oB (((O.cvi k x).res (zae s.tm)).bind (opv s.h.get s.c)) fun r=>zaq r.c r.wr=true/\
    zcN mask L r.rd (r.wr.map (·.1))/\wpE pr (L++[(r.rd,r.wr.map (·.1))]) l (s.ae dst r.d r.wr r.c) Q:=zcE rfl
def zH6{l:List Op}{ks:List Nat}{ne:Bool}{x y:A}:wpO pr (⟨dst,none,.eqa ks ne x y⟩ ::l) s Q↔oB (((O.eqa ks ne x y).res (zae s.tm)).bind (opv s.h.get s.c)) fun r=>zaq r.c r.wr=true/\wpO pr l (s.aft dst r.d r.wr r.c) Q:=zdD rfl
def zH1{l:List Op}{es byt:Nat}{x y:A}:wpO pr (⟨dst,none,.app es byt x y⟩ ::l) s Q↔oB (((O.app es byt x y).res (zae s.tm)).bind (opv s.h.get s.c)) fun r=>zaq r.c r.wr=true/\wpO pr l (s.aft dst r.d r.wr r.c) Q:=zdD rfl
def zH3{l:List Op}{es m:Nat}{z:List F}{ps:List (Nat×A)}:wpO pr (⟨dst,none,.bsl es z m ps⟩ ::l) s Q↔oB (((O.bsl es z m ps).res (zae s.tm)).bind (opv s.h.get s.c)) fun r=>zaq r.c r.wr=true/\wpO pr l (s.aft dst r.d r.wr r.c) Q:=zdD rfl
def zH2{l:List Op}{es m:Nat}{z:List F}{ps:List (Nat×A)}:wpO pr (⟨dst,none,.bsf es z m ps⟩ ::l) s Q↔oB (((O.bsf es z m ps).res (zae s.tm)).bind (opv s.h.get s.c)) fun r=>zaq r.c r.wr=true/\wpO pr l (s.aft dst r.d r.wr r.c) Q:=zdD rfl
def zIe{l:List Op}{es:Nat}{x:A}{lo hi mx:Option A}:wpO pr (⟨dst,none,.slc es x lo hi mx⟩ ::l) s Q↔oB (((O.slc es x lo hi mx).res (zae s.tm)).bind (opv s.h.get s.c)) fun r=>zaq r.c r.wr=true/\wpO pr l (s.aft dst r.d r.wr r.c) Q:=zdD rfl
def zH5{l:List Op}{k:IntKind}{x:A}:wpO pr (⟨dst,none,.cvi k x⟩ ::l) s Q↔oB (((O.cvi k x).res (zae s.tm)).bind (opv s.h.get s.c)) fun r=>zaq r.c r.wr=true/\wpO pr l (s.aft dst r.d r.wr r.c) Q:=zdD rfl
theorem zJK{c:C}{Q:Ex->St->Prop}(h:wpC pr c s fun x s'=>match x with
  | .nrm=>wpC pr (.loop c) s' Q
  |x=>Q x s'):wpC pr (.loop c) s Q:=by
 obtain⟨x,s1,hq,ev⟩ :=zeQ c s _ h;cases x with
 |nrm=>
  obtain⟨x2,s2,m,h2,e2⟩ :=hq;exact⟨x2,s2,m+1,h2,(ev.and e2).mono fun n ⟨p,q⟩ =>by simp only[iter,p];exact q⟩
 |exit i=>exact⟨.exit i,s1,1,hq,ev.mono fun n p=>by simp only[iter,p]⟩
 |ret=>exact⟨.ret,s1,1,hq,ev.mono fun n p=>by simp only[iter,p]⟩
end
def slc(es:Nat)(l:List (List F)):F:=match l with
 |[]=> .nils
 |_=> .sl es l
def zuK:zcp (.f .nils)=some 0:=rfl
def zxy(es:Nat)(els:List (List F)):zcp (.f (.sl es els))=some els.length:=rfl
def zCL(id off len es lim:Nat)(ex:Bool):zcp (.sl id off len es lim ex)=some len:=rfl
def zCC(es es':Nat)(els:List (List F))(i:Nat):iaB es (.f (.sl es' els)) i=if es=es' then(els[i]?).map D.fptr else none:=rfl
def zHV(es id off m es' lim:Nat)(ex:Bool)(i:Nat):iaB es (.sl id off m es' lim ex) i=if es=es'/\i<m then some (.ptr id es (off+i) 0)else none:=rfl
def zew(es:Nat)(l:List (List F)):(slc es l).d= .f (slc es l):=by cases l<;>rfl
def zeo(es:Nat)(l:List (List F)):zcp (.f (slc es l))=some l.length:=by cases l<;>rfl
def zfh(es:Nat)(l:List (List F))(n:Nat):iaB es (.f (slc es l)) n=l[n]?.map D.fptr:=by cases l<;>simp[slc,iaB]
def zbv(es:Nat):slc es []= .nils:=rfl
def zbk(es:Nat)(x:List F)(l:List (List F)):slc es (x::l)= .sl es (x::l):=rfl
def zin{es:Nat}{l:List (List F)}(h:l≠[]):F.sl es l=slc es l:=by
 cases l with
 |nil=>exact absurd rfl h
 |cons=>rfl
def zwR(a b:List UInt8):zaH .lss (.s a) (.s b)=some (.b (Go.Op.bytesLess a b)):=rfl
def zwQ(a b:List UInt8):zaH .gtr (.s a) (.s b)=some (.b (!(Go.Op.bytesLess a b||a==b))):=rfl
def zwP(a b:List UInt8):zaH .eql (.s a) (.s b)=some (.b (a==b)):=rfl
def zwT(a b:List UInt8):zaH .neq (.s a) (.s b)=some (.b (!(a==b))):=rfl
def zJu{es byt c id off len es' lim:Nat}{ex:Bool}{h:Nat->Option Ob}{new:List (List D)}{rd:List Nat}:zbn es byt h c (.sl id off len es' lim ex) new rd=if new.length=0 then some {d:= .sl id off len es' lim ex,rd,c} else
    match h id with
    | some (.arr es'' ro els)=>if es=es'/\es'=es''/\off+len<=els.length then
        if off+len+new.length<=lim then
          if off+len+new.length<=els.length/\ro<=off+len/\zeS els (els.take (off+len)++new++els.drop (off+len+new.length))=true then
            some { d:= .sl id off (len+new.length) es lim ex,rd:=id::rd,
                   wr:=[(id,some (.arr es ro (els.take (off+len)++new++els.drop (off+len+new.length))))],c}
          else none
        else if len+new.length<=zaB/\(len+new.length)*byt<=zaB then
          if ex then
            some { d:= .sl c 0 (len+new.length) es (len+new.length) false,rd:=id::rd,
                   wr:=[(c,some (.arr es 0 ((els.drop off).take len++new)))],c:=c+1}
          else if off=0/\len=els.length/\ro<=len then
            some {d:= .sl c 0 (off+len+new.length) es (off+len+new.length) false,rd:=id::rd,wr:=[(id,none),(c,some (.arr es ro (els++new)))],c:=c+1}
          else if off=0/\ro<=len/\els.length<=off+len+new.length/\zeS els (els.take len++new)=true then
            some {d:= .sl c 0 (off+len+new.length) es (off+len+new.length) false,rd:=id::rd,wr:=[(id,none),(c,some (.arr es ro (els.take len++new)))],c:=c+1}
          else none
        else none
      else none
    |_=>none:=rfl
def zcZ{n:Nat}(h:n<=1000000000):(n<=zaB)=True:=by
 have:n<=140737488355328:=by omega
 simpa [zaB]using this
def leF{a b:Nat}(h:b<a):(a<=b)=False:=by simp;exact h
def zJ4(f:D->Option (F×List Nat)):zaQ f []=some ([],[]):=rfl
theorem zn1(f:D->Option (F×List Nat))(x:List D)(l:List (List D)):zaQ f (x::l)=match zaX f x with
  |none=>none
  |some (y,r)=>match zaQ f l with
   |none=>none
   |some (m,r')=>some (y::m,r++r'):=rfl
theorem zxe(f:D->Option (F×List Nat)):∀a b:List (List D),zaQ f (a++b)=match zaQ f a with
  |none=>none
  |some (y,r)=>match zaQ f b with
   |none=>none
   |some (m,r')=>some (y++m,r++r')
 |[],b=>by
  simp only[Z28,zJ4];cases zaQ f b with
  |none=>rfl
  |some p=>simp
 |x::a,b=>by
  simp only[Z29,zn1,zxe f a b];cases zaX f x with
  |none=>rfl
  |some p=>
   cases zaQ f a with
   |none=>rfl
   |some q=>
    cases zaQ f b with
    |none=>rfl
    |some w=>simp
theorem zHL{α:Type}(h:Nat->Option Ob)(k:Nat)(g:α->F):∀l:List α,zaQ (frz h (k+1)) (l.map fun a=>[D.f (g a)])=some (l.map fun a=>[g a],[])
 |[]=>rfl
 |a::l=>by
  have e:zaX (frz h (k+1)) [D.f (g a)]=some ([g a],[]):=rfl;simp only[Z10,zn1,zHL h k g l,e];rfl
theorem zlA(h:Nat->Option Ob)(k:Nat):∀l:List (List F),zaQ (frz h (k+1)) (l.map fun a=>a.map D.f)=some (l,[])
 |[]=>rfl
 |a::l=>by
  have e:∀x:List F,zaX (frz h (k+1)) (x.map D.f)=some (x,[]):=by
   intro x
   induction x with
   |nil=>rfl
   |cons y x ih=>simp only[Z10,zaX,ih];rfl
  simp only[Z10,zn1,zlA h k l,e];rfl
namespace Sm
def vF(n:Int):List F:=[.i .i64 1,.i .i64 n,.s []]
def tmF:Trm->List F
 | .var s=>[.s s,.i .i64 0,.i .i64 0,.s []]
 | .cst n=>[.s [],.i .i64 1,.i .i64 n,.s []]
def atF(a:Atm):List F:=[.s a.r,.b a.neg,slc 4 (a.ts.map tmF)]
def cmF(k:Cm):List F:= .i .i64 k.op::(tmF k.l++tmF k.r)
def csF(c:CQ):F:=if c.ne=true/\c.cs=[]then .sl 9 []else slc 9 (c.cs.map cmF)
def asF(c:CQ):F:=if c.na=true/\c.as=[]then .sl 3 []else slc 3 (c.as.map atF)
def cqF(c:CQ):List F:=[asF c,csF c]
def valsF(l:List Int):F:=slc 3 (l.map vF)
def zah(l:List Str):F:=slc 1 (l.map fun s=>[.s s])
structure Rl where
 nm:Str
 ce:Bool
 co:F
 tu:List (List Int×List F)
def tuF(t:List Int×List F):List F:=valsF t.1::t.2
def rlF(r:Rl):List F:=[.s r.nm,.b r.ce,r.co,slc 4 (r.tu.map tuF)]
def zjh(l:List Rl):Rels:=l.map fun r=>(r.nm,r.tu.map (·.1))
def zEk:Trm->Prop
 | .var s=>s≠[]
 | .cst _=>True
end Sm
end Go.Vse
end
section
namespace Go.Vse.Sm
def teS(σ:Str->Int):Trm->Int
 | .var s=>σ s
 | .cst n=>n
def zix(L:List Rl)(c:CQ)(σ:Str->Int):Prop:=∀a∈c.as,a.ts.map (teS σ)∈zrj (zjh L) a.r
def rlt:List Int->List Int->Bool
 |[],_::_=>true
 |_,[]=>false
 |a::u,b::v=>decide (a<b)||(decide (a=b)&&rlt u v)
def zfW(R:List (List Int)):F:=slc 1 (R.map fun v=>[F.sl 3 (v.map vF)])
structure zyG(L:List Rl)(hd:List Str)(cs:List CQ)(R:List (List Int)):Prop where
 s:R.Pairwise fun u v=>rlt u v=true
 m:∀v,v∈R↔∃c∈cs,∃σ,zix L c σ/\v=hd.map σ
def qryF(hd:List Str)(cs:List CQ):F:= .ag [zah hd,slc 2 (cs.map cqF)]
def zFZ(L:List Rl):F:=slc 4 (L.map rlF)
def SpE(args:List D)(h:T Ob)(n:Nat)(q:CR):Prop:=∃L hd cs R,args=F.dL [zFZ L,qryF hd cs]/\zyG L hd cs R/\h= .e/\n=0/\q=⟨.f (zfW R),.e,0,0,0⟩
theorem znB:∀u,rlt u u=false
 |[]=>rfl
 |a::u=>by simp[rlt,znB u]
theorem zDd:∀{u v w},rlt u v=true->rlt v w=true->rlt u w=true
 |[],[],_,h,_=>by simp[rlt]at h
 |[],_::_,[],_,h=>by simp[rlt]at h
 |[],_::_,_::_,_,_=>rfl
 |_::_,[],_,h,_=>by simp[rlt]at h
 |_::_,_::_,[],_,h=>by simp[rlt]at h
 |a::u,b::v,c::w,h1,h2=>by
  simp only[rlt,Z115,Z86,Z14]at h1 h2|-;rcases h1 with h1|⟨rfl,h1⟩
  .rcases h2 with h2|⟨rfl,h2⟩
   .exact .inl (by omega)
   .exact .inl h1
  .rcases h2 with h2|⟨rfl,h2⟩
   .exact .inl h2
   .exact .inr ⟨rfl,zDd h1 h2⟩
theorem zDb:∀{a b:List (List Int)},a.Pairwise (fun u v=>rlt u v=true)->b.Pairwise (fun u v=>rlt u v=true)->(∀v,v∈a↔v∈b)->a=b
 |[],[],_,_,_=>rfl
 |[],y::_,_,_,h=>by have:=(h y).2 (by simp);simp at this
 |x::_,[],_,_,h=>by have:=(h x).1 (by simp);simp at this
 |x::a,y::b,h1,h2,h=>by
  obtain⟨p1,p2⟩ :=Z56.1 h1;obtain⟨q1,q2⟩ :=Z56.1 h2;have exy:x=y:=by
   rcases Z5.1 ((h x).1 (by simp))with e|e
   .exact e
   .rcases Z5.1 ((h y).2 (by simp))with e'|e'
    .exact e'.symm
    .have:=zDd (p1 y e') (q1 x e);rw[znB]at this;cases this
  subst exy;rw[zDb p2 q2 fun v=> ?_];constructor
  .intro hv;rcases Z5.1 ((h v).1 (Z40 _ hv))with rfl|e
   .have:=p1 v hv;rw[znB]at this;cases this
   .exact e
  .intro hv;rcases Z5.1 ((h v).2 (Z40 _ hv))with rfl|e
   .have:=q1 v hv;rw[znB]at this;cases this
   .exact e
def zhO{n:Nat}{l m:List (List F)}(h:slc n l=slc n m):l=m:=by
 cases l<;>cases m<;>simp[slc]at h|-;exact h
theorem map_inj{α β:Type}{f:α->β}(hf:∀a b,f a=f b->a=b):∀{l m:List α},l.map f=m.map f->l=m
 |[],[],_=>rfl
 |[],_::_,h=>by simp at h
 |_::_,[],h=>by simp at h
 |a::l,b::m,h=>by
  simp only[Z10,List.cons.injEq]at h;rw[hf a b h.1,map_inj hf h.2]
def zD5{u v:List Int}(h:valsF u=valsF v):u=v:=map_inj (fun a b e=>by simpa [vF]using e) (zhO h)
def zMc(a b:Trm)(h:tmF a=tmF b):a=b:=by
 cases a<;>cases b<;>simp[tmF]at h|- <;>exact h
def zJw(a b:Atm)(h:atF a=atF b):a=b:=by
 obtain⟨r,n,t⟩ :=a;obtain⟨r',n',t'⟩ :=b;simp only[atF,List.cons.injEq,F.s.injEq,F.b.injEq,and_true]at h;obtain⟨rfl,rfl,h⟩ :=h;rw[map_inj zMc (zhO h)]
def zJv{a b:CQ}(h:asF a=asF b):a.as=b.as:=by
 unfold asF at h;split at h
 .rename_i h1;split at h
  .rename_i h2;rw[h1.2,h2.2]
  .cases hb:b.as with
   |nil=>exact h1.2
   |cons x l=>rw[hb]at h;simp[slc]at h
 .split at h
  .rename_i h2;cases ha:a.as with
   |nil=>rw[h2.2]
   |cons x l=>rw[ha]at h;simp[slc]at h
  .exact map_inj zJw (zhO h)
theorem zBS:∀{l m:List CQ},l.map cqF=m.map cqF->l.map (·.as)=m.map (·.as)
  |[],[],_=>rfl
  |[],_::_,h=>by simp at h
  |_::_,[],h=>by simp at h
  | a::l,b::m,h=>by
    simp only[Z10,List.cons.injEq]at h;have h1:=h.1;simp only[cqF,List.cons.injEq]at h1;simp only[Z10,zJv h1.1,zBS h.2]
def zFU{L M:List Rl}(h:L.map rlF=M.map rlF):zjh L=zjh M:=by
  induction L generalizing M with
  |nil=>cases M<;>simp_all [zjh]
  | cons a L ih=>
    cases M with
    |nil=>simp at h
    | cons b M=>
      simp only[Z10,List.cons.injEq]at h;obtain⟨h1,h2⟩ :=h;simp only[rlF,List.cons.injEq,F.s.injEq,F.b.injEq,and_true]at h1;obtain⟨e1,_,_,e4⟩ :=h1;have e5:a.tu.map (·.1)=b.tu.map (·.1):=by
        have key:∀{l m:List (List Int×List F)},l.map tuF=m.map tuF->l.map (·.1)=m.map (·.1):=by
          intro l
          induction l with
          |nil=>intro m h;cases m<;>simp_all
          | cons x l ih=>
            intro m h;cases m with
            |nil=>simp at h
            | cons y m=>
              simp only[Z10,List.cons.injEq,tuF]at h;simp only[Z10,zD5 h.1.1,ih h.2]
        exact key (zhO e4)
      have:=ih h2;simp only[zjh,Z10]at this|-;rw[this,e1,e5]
def zJt{L L':List Rl}{hd hd':List Str}{cs cs':List CQ}{R R':List (List Int)}(h1:zFZ L=zFZ L')(h2:zah hd=zah hd')(h3:slc 2 (cs.map cqF)=slc 2 (cs'.map cqF))(a:zyG L hd cs R)(b:zyG L' hd' cs' R'):R=R':=by
  have e1:=zFU (zhO h1);have e2:hd=hd':=map_inj (fun a b e=>by simpa using e) (zhO h2);have e3:=zBS (zhO h3);subst e2;have key:∀{L L':List Rl} {cs cs':List CQ} (v:List Int),zjh L=zjh L'->cs.map (·.as)=cs'.map (·.as)->(∃c∈cs,∃σ,zix L c σ/\v=hd.map σ)->∃c∈cs',∃σ,zix L' c σ/\v=hd.map σ:=by
    rintro L L' cs cs' v e1 e3 ⟨c,hc,σ,hs,hv⟩;have:c.as∈cs.map (·.as):=List.mem_map_of_mem hc;rw[e3]at this;obtain⟨c',hc',e⟩ :=Z12.1 this;exact⟨c',hc',σ,fun a ha=>by rw[<-e1];exact hs a (e▸ha),hv⟩
  refine zDb a.s b.s fun v=>(a.m v).trans (Iff.trans ⟨key v e1 e3,key v e1.symm e3.symm⟩ (b.m v).symm)
end Go.Vse.Sm
end
section
namespace Go.Vse
variable [Globs]
section
variable {pr:Pr}
def sq(pr:Pr)(b:C)(Q:Ex->St->Prop)(x:Ex)(s:St):Prop:=match x with
 | .nrm=>wpC pr b s Q
 |x=>Q x s
def kb(id:Nat)(Q:Ex->St->Prop)(x:Ex)(s:St):Prop:=match x with
 | .exit i=>if i=id then Q .nrm s else Q (.exit i) s
 |x=>Q x s
@[congr] theorem sq_congr{b:C}{Q:Ex->St->Prop}{x:Ex}{s:St}:sq pr b Q x s=sq pr b Q x s:=rfl
@[congr] theorem kb_congr{id:Nat}{Q:Ex->St->Prop}{x:Ex}{s:St}:kb id Q x s=kb id Q x s:=rfl
def zHZ{a b:C}{s:St}{Q:Ex->St->Prop}:wpC pr (.seq a b) s Q=wpC pr a s (sq pr b Q):=rfl
def zHY{id:Nat}{c:C}{s:St}{Q:Ex->St->Prop}:wpC pr (.blk id c) s Q=wpC pr c s (kb id Q):=rfl
def zDO{b:C}{Q:Ex->St->Prop}{s:St}:sq pr b Q .nrm s=wpC pr b s Q:=rfl
def zDP{b:C}{Q:Ex->St->Prop}{s:St}:sq pr b Q .ret s=Q .ret s:=rfl
def zyh{b:C}{Q:Ex->St->Prop}{s:St}{i:Nat}:sq pr b Q (.exit i) s=Q (.exit i) s:=rfl
def zCJ{id:Nat}{Q:Ex->St->Prop}{s:St}:kb id Q .nrm s=Q .nrm s:=rfl
def zCK{id:Nat}{Q:Ex->St->Prop}{s:St}:kb id Q .ret s=Q .ret s:=rfl
def zxu{id:Nat}{Q:Ex->St->Prop}{s:St}{i:Nat}:kb id Q (.exit i) s=if i=id then Q .nrm s else Q (.exit i) s:=rfl
def k_reg{ops:List Op}{s:St}{Q:Ex->St->Prop}:wpC pr (.reg ops) s Q=wpO pr ops s (Q .nrm):=rfl
def aB(pr:Pr)(f:Nat)(fs:List F)(k:F->Prop):Prop:=∃x,Ans pr f fs x/\k x
@[congr] theorem aB_congr{f:Nat}{fs fs':List F}{k:F->Prop}(h:fs=fs'):aB pr f fs k=aB pr f fs' k:=by rw[h]
def Ans.uniq{f:Nat}{fs:List F}{x y:F}(h1:Ans pr f fs x)(h2:Ans pr f fs y):x=y:=by
 obtain⟨q,rd,⟨n,hn⟩,e1⟩ :=h1;obtain⟨q',rd',⟨m,hm⟩,e2⟩ :=h2;have a:zbQ pr (Nat.max n m) f (F.dL fs) .e 0=some q:=hn (Nat.max n m) (Z135 ..);have b:zbQ pr (Nat.max n m) f (F.dL fs) .e 0=some q':=hm (Nat.max n m) (Z78 ..);rw[a]at b;cases b;rw[e1]at e2;cases e2;rfl
def zad{f:Nat}{fs:List F}{y:F}(h:Ans pr f fs y){k:F->Prop}:aB pr f fs k↔k y:=
 ⟨fun⟨x,hx,hk⟩ =>by rw[Ans.uniq h hx];exact hk,fun hk=>⟨y,h,hk⟩⟩
def lp(I:Nat->St->Prop)(k:Nat)(Q:Ex->St->Prop)(x:Ex)(s:St):Prop:=match x with
 | .nrm=>∃k',k'<k/\I k' s
 |x=>Q x s
@[congr] theorem lp_congr{I:Nat->St->Prop}{k:Nat}{Q:Ex->St->Prop}{x:Ex}{s:St}:lp I k Q x s=lp I k Q x s:=rfl
def zdi{I:Nat->St->Prop}{k:Nat}{Q:Ex->St->Prop}{s:St}:lp I k Q .nrm s=∃k',k'<k/\I k' s:=rfl
def zCO{I:Nat->St->Prop}{k:Nat}{Q:Ex->St->Prop}{s:St}:lp I k Q .ret s=Q .ret s:=rfl
def zxC{I:Nat->St->Prop}{k:Nat}{Q:Ex->St->Prop}{s:St}{i:Nat}:lp I k Q (.exit i) s=Q (.exit i) s:=rfl
end
end Go.Vse
end
section
namespace Go.Vse
variable [Globs]
section
variable {pr:Pr}
def loopQ{c:C}{Q:Ex->St->Prop}(I:Nat->St->Prop)(R:Ex->St->Prop)(hstep:∀k s,I k s->wpC pr c s (lp I k R))(k:Nat)(s:St)(h:I k s)(hQ:∀x s,R x s->Q x s):wpC pr (.loop c) s Q:=by
 have hl:wpC pr (.loop c) s R:=zQA I hstep k s h;unfold wpC at hl|-;obtain⟨x,s',m,hr,e⟩ :=hl;exact⟨x,s',m,hQ x s' hr,e⟩
def zB6{es es':Nat}{h:Nat->Option Ob}{els:List (List F)}:elemsOf es h (.f (.sl es' els))=if es=es' then some (els.map (·.map D.f),[])else none:=rfl
def zw2{es:Nat}{h:Nat->Option Ob}:elemsOf es h (.f .nils)=some ([],[]):=rfl
end
end Go.Vse
end
section
namespace Go.Vse
def om{α β:Type}(o:Option α)(k:α->Option β):Option β:=o.bind k
@[congr] theorem om_congr{α β:Type}{o o':Option α}{k:α->Option β}(h:o=o'):om o k=om o' k:=by rw[h]
def zdQ{α β:Type}(a:α)(k:α->Option β):om (some a) k=k a:=rfl
def mo_n{α β:Type}(f:α->Option β):zas f []=some []:=rfl
def mo_c{α β:Type}(f:α->Option β)(x:α)(l:List α):zas f (x::l)=om (f x) fun y=>om (zas f l) fun m=>some (y::m):=by
 simp only[zas,om];cases f x with
 |none=>rfl
 |some y=>cases zas f l<;>rfl
def oo_n{α β:Type}(f:α->Option β):zdn f none=some none:=rfl
def oo_s{α β:Type}(f:α->Option β)(x:α):zdn f (some x)=om (f x) fun y=>some (some y):=by
 simp only[zdn,om];cases f x<;>rfl
def zE0(f:D->Option (F×List Nat)):zaX f []=some ([],[]):=rfl
def zEZ(f:D->Option (F×List Nat))(d:D)(l:List D):zaX f (d::l)=om (f d) fun p=>om (zaX f l) fun q=>some (p.1::q.1,p.2++q.2):=by
 simp only[zaX,om];cases f d with
 |none=>rfl
 |some y=>cases zaX f l<;>rfl
def zHP(f:D->Option (F×List Nat)):zaQ f []=some ([],[]):=rfl
def zsB(f:D->Option (F×List Nat))(d:List D)(l:List (List D)):zaQ f (d::l)=om (zaX f d) fun p=>om (zaQ f l) fun q=>some (p.1::q.1,p.2++q.2):=by
 simp only[zaQ,om];cases zaX f d with
 |none=>rfl
 |some y=>cases zaQ f l<;>rfl
def zHO [Globs](f:D->Option (F×List Nat))(a b:List (List D)):zaQ f (a++b)=om (zaQ f a) fun p=>om (zaQ f b) fun q=>some (p.1++q.1,p.2++q.2):=by
 rw[zxe];simp only[om];cases zaQ f a with
 |none=>rfl
 |some y=>cases zaQ f b<;>rfl
def fzS(h:Nat->Option Ob)(k id off len es:Nat):Ob->Option (F×List Nat)
 | .arr es' _ els=>if es=es'/\off+len<=els.length then om (zaQ (frz h k) ((els.drop off).take len)) fun p=>some (.sl es p.1,id::p.2)else none
 |_=>none
def zhB{h:Nat->Option Ob}{k id off len es es' ro:Nat}{els:List (List D)}:fzS h k id off len es (.arr es' ro els)=if es=es'/\off+len<=els.length then om (zaQ (frz h k) ((els.drop off).take len)) fun p=>some (.sl es p.1,id::p.2)else none:=rfl
def zfm(h:Nat->Option Ob)(k id off len es lim:Nat)(ex:Bool):frz h (k+1) (.sl id off len es lim ex)=om (h id) (fzS h k id off len es):=by
 simp only[frz,om];cases h id with
 |none=>rfl
 |some o=>
  cases o with
  |arr es' ro els=>
   simp only[Z46,fzS];split
   .cases zaQ (frz h k) ((els.drop off).take len)<;>rfl
   .rfl
  |_=>rfl
def zpu(h:Nat->Option Ob)(k:Nat)(cs:List D):frz h (k+1) (.ag cs)=om (zaX (frz h k) cs) fun p=>some (.ag p.1,p.2):=by
 simp only[frz,om];cases zaX (frz h k) cs<;>rfl
def zHR(h:Nat->Option Ob)(k:Nat)(cs:List D):frz h (k+1) (.tu cs)=om (zaX (frz h k) cs) fun p=>some (.tu p.1,p.2):=by
 simp only[frz,om];cases zaX (frz h k) cs<;>rfl
def f12f(h:Nat->Option Ob)(x:F):frz h 12 (.f x)=some (x,[]):=rfl
def f11f(h:Nat->Option Ob)(x:F):frz h 11 (.f x)=some (x,[]):=rfl
def f10f(h:Nat->Option Ob)(x:F):frz h 10 (.f x)=some (x,[]):=rfl
def f9f(h:Nat->Option Ob)(x:F):frz h 9 (.f x)=some (x,[]):=rfl
def f8f(h:Nat->Option Ob)(x:F):frz h 8 (.f x)=some (x,[]):=rfl
def f12a(h:Nat->Option Ob)(cs:List D):frz h 12 (.ag cs)=om (zaX (frz h 11) cs) fun p=>some (.ag p.1,p.2):=zpu h 11 cs
def f11a(h:Nat->Option Ob)(cs:List D):frz h 11 (.ag cs)=om (zaX (frz h 10) cs) fun p=>some (.ag p.1,p.2):=zpu h 10 cs
def f10a(h:Nat->Option Ob)(cs:List D):frz h 10 (.ag cs)=om (zaX (frz h 9) cs) fun p=>some (.ag p.1,p.2):=zpu h 9 cs
def f9a(h:Nat->Option Ob)(cs:List D):frz h 9 (.ag cs)=om (zaX (frz h 8) cs) fun p=>some (.ag p.1,p.2):=zpu h 8 cs
def f12t(h:Nat->Option Ob)(cs:List D):frz h 12 (.tu cs)=om (zaX (frz h 11) cs) fun p=>some (.tu p.1,p.2):=zHR h 11 cs
def f12s(h:Nat->Option Ob)(id off len es lim:Nat)(ex:Bool):frz h 12 (.sl id off len es lim ex)=om (h id) (fzS h 11 id off len es):=zfm ..
def f11s(h:Nat->Option Ob)(id off len es lim:Nat)(ex:Bool):frz h 11 (.sl id off len es lim ex)=om (h id) (fzS h 10 id off len es):=zfm ..
def f10s(h:Nat->Option Ob)(id off len es lim:Nat)(ex:Bool):frz h 10 (.sl id off len es lim ex)=om (h id) (fzS h 9 id off len es):=zfm ..
def f9s(h:Nat->Option Ob)(id off len es lim:Nat)(ex:Bool):frz h 9 (.sl id off len es lim ex)=om (h id) (fzS h 8 id off len es):=zfm ..
def ldO(g:Bool)(n id es i j:Nat):Ob->Option (D×List Nat)
 | .arr es' _ els=>if es=es' then om els[i]? fun el=>om (zcL g j n el) fun d=>some (d,[id])else none
 |_=>none
def zxv{g:Bool}{n id es i j es' ro:Nat}{els:List (List D)}:ldO g n id es i j (.arr es' ro els)=if es=es' then om els[i]? fun el=>om (zcL g j n el) fun d=>some (d,[id])else none:=rfl
def ld_p{g:Bool}{n:Nat}{h:Nat->Option Ob}{id es i j:Nat}:zc0 g n h (.ptr id es i j)=om (h id) (ldO g n id es i j):=by
 simp only[zc0,om];cases h id with
 |none=>rfl
 |some o=>
  cases o with
  |arr es' ro els=>
   simp only[Z46,ldO];split
   .simp only[om];cases els[i]? with
    |none=>rfl
    |some el=>simp only[Z46];cases zcL g j n el<;>rfl
   .rfl
  |_=>rfl
def zAr{g:Bool}{n:Nat}{h:Nat->Option Ob}{cs:List F}:zc0 g n h (.fptr cs)=om (zjS g n cs) fun d=>some (d,[]):=by
 simp only[zc0,om];cases zjS g n cs<;>rfl
def pF_t{n:Nat}{cs:List F}:zjS true n cs=if n<=cs.length then some (.ag ((cs.take n).map D.f))else none:=rfl
def pF_f{n:Nat}{cs:List F}:zjS false n cs=om cs[0]? fun x=>some (.f x):=by
 simp only[zjS,om];cases cs[0]? <;>rfl
def pD_t{o n:Nat}{cs:List D}:zcL true o n cs=if o+n<=cs.length then some (.ag ((cs.drop o).take n))else none:=rfl
def pD_f{o n:Nat}{cs:List D}:zcL false o n cs=cs[o]? :=rfl
def stO(n id es i j:Nat)(v:D):Ob->Option (Nat×Ob)
 | .arr es' ro els=>if es=es'/\ro<=i then om els[i]? fun el=>om v.cells fun cs=>if cs.length=n then om (over el j cs) fun el'=>if zeS els (els.set i el')=true then some (id,.arr es ro (els.set i el'))else none else none else none
 |_=>none
def zyo{n id es i j es' ro:Nat}{v:D}{els:List (List D)}:stO n id es i j v (.arr es' ro els)=if es=es'/\ro<=i then om els[i]? fun el=>om v.cells fun cs=>if cs.length=n then om (over el j cs) fun el'=>if zeS els (els.set i el')=true then some (id,.arr es ro (els.set i el'))else none else none else none:=rfl
def st_p{n:Nat}{h:Nat->Option Ob}{id es i j:Nat}{v:D}:zd7 n h (.ptr id es i j) v=om (h id) (stO n id es i j v):=by
 simp only[zd7,om];cases h id with
 |none=>rfl
 |some o=>
  cases o with
  |arr es' ro els=>
   simp only[Z46,stO];split
   .simp only[om];cases els[i]? with
    |none=>rfl
    |some el=>
     simp only[Z46];cases v.cells with
     |none=>rfl
     |some cs=>
      simp only[Z46];split
      .cases over el j cs with
       |none=>rfl
       |some el'=>rfl
      .rfl
   .rfl
  |_=>rfl
def zxN(x y:List (List D)):zeS x y=(!hd8 x||hd8 y):=rfl
def h8_i(n:Int)(l:List (List D)):hd8 ([.f (.i .u8 n)]::l)=true:=rfl
def zCw:hd8 []=false:=rfl
def h8_2(a b:D)(c:List D)(l:List (List D)):hd8 ((a::b::c)::l)=false:=by
 unfold hd8;split
 .rename_i h;simp at h
 .rfl
def zCu(n:Int)(l:List (List D)):hd8 ([.f (.i .i64 n)]::l)=false:=rfl
def h8_b(n:Bool)(l:List (List D)):hd8 ([.f (.b n)]::l)=false:=rfl
def h8_s(n:List UInt8)(l:List (List D)):hd8 ([.f (.s n)]::l)=false:=rfl
def zxo(l:List (List D)):hd8 ([.f .nils]::l)=false:=rfl
def zCt(e:Nat)(x:List (List F))(l:List (List D)):hd8 ([.f (.sl e x)]::l)=false:=rfl
def zHU(a b c d e:Nat)(x:Bool)(l:List (List D)):hd8 ([.sl a b c d e x]::l)=false:=rfl
def zCx(a b c d:Nat)(l:List (List D)):hd8 ([.ptr a b c d]::l)=false:=rfl
def zG5(cs:List D):(D.ag cs).cells=some cs:=rfl
def ce_i(k:IntKind)(n:Int):(D.f (.i k n)).cells=some [.f (.i k n)]:=rfl
def ce_b(b:Bool):(D.f (.b b)).cells=some [.f (.b b)]:=rfl
def ce_s(l:List UInt8):(D.f (.s l)).cells=some [.f (.s l)]:=rfl
def zwX:(D.f .nils).cells=some [.f .nils]:=rfl
def zBM(e:Nat)(l:List (List F)):(D.f (.sl e l)).cells=some [.f (.sl e l)]:=rfl
def zcs(e:Nat)(l:List (List F)):(D.f (slc e l)).cells=some [.f (slc e l)]:=by cases l<;>rfl
def zG6(a b c d e:Nat)(x:Bool):(D.sl a b c d e x).cells=some [.sl a b c d e x]:=rfl
def zBN(a b c d:Nat):(D.ptr a b c d).cells=some [.ptr a b c d]:=rfl
def zwW(x:List F):(D.fptr x).cells=some [.fptr x]:=rfl
def d_ag(cs:List F):(F.ag cs).d= .ag (F.dL cs):=rfl
def d_tu(cs:List F):(F.tu cs).d= .tu (F.dL cs):=rfl
def d_i(k:IntKind)(n:Int):(F.i k n).d= .f (.i k n):=rfl
def d_b(b:Bool):(F.b b).d= .f (.b b):=rfl
def d_s(l:List UInt8):(F.s l).d= .f (.s l):=rfl
def zBX:(F.nils).d= .f .nils:=rfl
def d_un:(F.un).d= .f .un:=rfl
def d_sl(e:Nat)(l:List (List F)):(F.sl e l).d= .f (.sl e l):=rfl
def dl_n:F.dL []=[]:=rfl
def dl_c(x:F)(l:List F):F.dL (x::l)=x.d::F.dL l:=rfl
def ti_i(k:IntKind)(n:Int):zbh (.f (.i k n))=if 0<=n then some n.toNat else none:=rfl
def fa_p(o id es i j:Nat):faB o (.ptr id es i j)=some (.ptr id es i (j+o)):=rfl
def fa_f(o:Nat)(cs:List F):faB o (.fptr cs)=some (.fptr (cs.drop o)):=rfl
def ov(cs:List D)(o:Nat)(new:List D):over cs o new=if o+new.length<=cs.length then some (cs.take o++new++cs.drop (o+new.length))else none:=rfl
def fb_n(cs:List D):zdA cs []=some cs:=rfl
def fb_c(cs:List D)(o n:Nat)(d:D)(l:List (Nat×Nat×D)):zdA cs ((o,n,d)::l)=om d.cells fun x=>if x.length=n then om (over cs o x) fun y=>zdA y l else none:=by
 simp only[zdA,om];cases d.cells with
 |none=>rfl
 |some x=>
  simp only[Z46];split
  .cases over cs o x<;>rfl
  .rfl
def fe_n(es:Nat)(els:List (List D)):zea es els []=some els:=rfl
def fe_c(es:Nat)(els:List (List D))(i:Nat)(d:D)(l:List (Nat×D)):zea es els ((i,d)::l)=om d.cells fun cs=>if cs.length=es/\i<els.length then zea es (els.set i cs) l else none:=by
 simp only[zea,om];cases d.cells with
 |none=>rfl
 |some x=>rfl
def zcf(h:T Ob):wrT h []=h:=rfl
def zci(h:T Ob)(id:Nat)(ob:Ob)(l:List (Nat×Option Ob)):wrT h ((id,some ob)::l)=wrT (h.set id ob) l:=rfl
def zcc(h:T Ob)(id:Nat)(l:List (Nat×Option Ob)):wrT h ((id,none)::l)=wrT (h.del id) l:=rfl
def wo_n(c:Nat):zaq c []=true:=rfl
def wo_c(c id:Nat)(o:Option Ob)(l:List (Nat×Option Ob)):zaq c ((id,o)::l)=(Nat.blt id c&&zaq c l):=rfl
def roO(h:Nat->Option Ob)(id:Nat)(l:List Nat):Option Ob->List (Nat×Option Ob)
 |some (.arr es ro els)=>if els.length<=ro then zav h l else(id,some (.arr es els.length els))::zav h l
 |_=>zav h l
def ro_n(h:Nat->Option Ob):zav h []=[]:=rfl
def ro_c(h:Nat->Option Ob)(id:Nat)(l:List Nat):zav h (id::l)=roO h id l (h id):=by
 simp only[zav,roO];cases h id with
 |none=>rfl
 |some o=>cases o<;>rfl
def zDh(h:Nat->Option Ob)(id:Nat)(l:List Nat)(es ro:Nat)(els:List (List D)):roO h id l (some (.arr es ro els))=if els.length<=ro then zav h l else(id,some (.arr es els.length els))::zav h l:=rfl
structure WD [Globs](pr:Pr)(ops:List (Op×Nat))(s:St)(Q:Ex->St->Prop):Prop where
 out:wpC pr (.dreg ops) s Q
def zCG [Globs]{pr:Pr}{ops:List (Op×Nat)}{s:St}{Q:Ex->St->Prop}:wpC pr (.dreg ops) s Q=WD pr ops s Q:=propext ⟨fun h=>⟨h⟩,fun h=>h.out⟩
def zay [Globs]{pr:Pr}{ops:List (Op×Nat)}{s:St}{Q:Ex->St->Prop}(h:wpE pr [] ops s (Q .nrm)):WD pr ops s Q:=⟨zMJ h⟩
def zIQ(h:Nat->Option Ob)(c:Nat)(cs:List D)(i:Nat):opv h c (.ext (.tu cs) i)=om cs[i]? fun d=>some {d,c}:=by
 simp only[opv,om,okD];cases cs[i]? <;>rfl
def zIV(h:Nat->Option Ob)(c:Nat)(b:Bool):opv h c (.un .not (.f (.b b)))=some {d:= .f (.b !b),c}:=rfl
def zIJ(h:Nat->Option Ob)(c:Nat)(ks:List Nat)(ne:Bool)(a b:List D):opv h c (.eqa ks ne (.ag a) (.ag b))=om (za5 ks a b) fun t=>some {d:= .f (.b (if ne then !t else t)),c}:=by
 simp only[opv,om,okF];cases za5 ks a b<;>rfl
def zBc(h:Nat->Option Ob)(c:Nat)(k k':IntKind)(n:Int):opv h c (.cvi k (.f (.i k' n)))=some {d:= .f (.i k (k.wrap n)),c}:=rfl
def zIW(h:Nat->Option Ob)(c es:Nat)(x:D)(lo hi mx:Option D):opv h c (.slc es x lo hi mx)=om (sliceB es h x lo hi mx) fun p=>some {d:=p.1,rd:=p.2,c}:=by
 simp only[opv,om];cases sliceB es h x lo hi mx<;>rfl
def zID(h:Nat->Option Ob)(c es byt:Nat)(s x:D):opv h c (.app es byt s x)=om (elemsOf es h x) fun p=>zbn es byt h c s p.1 p.2:=by
 simp only[opv,om];cases elemsOf es h x<;>rfl
def zIH(h:Nat->Option Ob)(c es m:Nat)(z:List F)(ps:List (Nat×D)):opv h c (.bsl es z m ps)=om (zea es (List.replicate m (z.map D.f)) ps) fun els=>some {d:= .sl c 0 m es m true,wr:=[(c,some (.arr es 0 els))],c:=c+1}:=by
 simp only[opv,om];cases zea es (List.replicate m (z.map D.f)) ps<;>rfl
def zEw(c es m:Nat)(els:List (List D)):Option (List (List F))->Option Rs
 |some fs=>some {d:= .f (.sl es fs),c}
 |none=>some {d:= .sl c 0 m es m true,wr:=[(c,some (.arr es 0 els))],c:=c+1}
def zBI(c es m:Nat)(els:List (List D))(fs:List (List F)):zEw c es m els (some fs)=some {d:= .f (.sl es fs),c}:=rfl
def zBH(c es m:Nat)(els:List (List D)):zEw c es m els none=some {d:= .sl c 0 m es m true,wr:=[(c,some (.arr es 0 els))],c:=c+1}:=rfl
def zIE(h:Nat->Option Ob)(c es m:Nat)(z:List F)(ps:List (Nat×D)):opv h c (.bsf es z m ps)=om (zea es (List.replicate m (z.map D.f)) ps) fun els=>zEw c es m els (zeK els):=by
 simp only[opv,om,okF];cases zea es (List.replicate m (z.map D.f)) ps with
 |none=>rfl
 |some els=>simp only[Z46];cases zeK els<;>rfl
def fc_n:zdu []=some []:=rfl
def fc_f(x:F)(l:List D):zdu (.f x::l)=om (zdu l) fun m=>some (x::m):=by
 simp only[zdu,om];cases zdu l<;>rfl
def zHA(a b c d e:Nat)(x:Bool)(l:List D):zdu (.sl a b c d e x::l)=none:=rfl
def fw_n:zeK []=some []:=rfl
def fw_c(x:List D)(l:List (List D)):zeK (x::l)=om (zdu x) fun y=>om (zeK l) fun m=>some (y::m):=by
 simp only[zeK,om];cases zdu x with
 |none=>rfl
 |some y=>cases zeK l<;>rfl
def elO(es id off len es':Nat):Ob->Option (List (List D)×List Nat)
 | .arr es'' _ els=>if es=es'/\es'=es''/\off+len<=els.length then some ((els.drop off).take len,[id])else none
 |_=>none
def zqP{es id off len es' es'' ro:Nat}{els:List (List D)}:elO es id off len es' (.arr es'' ro els)=if es=es'/\es'=es''/\off+len<=els.length then some ((els.drop off).take len,[id])else none:=rfl
def zzF{es id off len es' lim:Nat}{ex:Bool}{h:Nat->Option Ob}:elemsOf es h (.sl id off len es' lim ex)=om (h id) (elO es id off len es'):=by
 simp only[elemsOf,om];cases h id with
 |none=>rfl
 |some o=>cases o<;>rfl
def apO(es byt c id off len es' lim:Nat)(ex:Bool)(new:List (List D))(rd:List Nat):Ob->Option Rs
  | .arr es'' ro els=>if es=es'/\es'=es''/\off+len<=els.length then
        if off+len+new.length<=lim then
          if off+len+new.length<=els.length/\ro<=off+len/\zeS els (els.take (off+len)++new++els.drop (off+len+new.length))=true then
            some { d:= .sl id off (len+new.length) es lim ex,rd:=id::rd,
                   wr:=[(id,some (.arr es ro (els.take (off+len)++new++els.drop (off+len+new.length))))],c}
          else none
        else if len+new.length<=zaB/\(len+new.length)*byt<=zaB then
          if ex=true then
            some { d:= .sl c 0 (len+new.length) es (len+new.length) false,rd:=id::rd,
                   wr:=[(c,some (.arr es 0 ((els.drop off).take len++new)))],c:=c+1}
          else if off=0/\len=els.length/\ro<=len then
            some {d:= .sl c 0 (off+len+new.length) es (off+len+new.length) false,rd:=id::rd,wr:=[(id,none),(c,some (.arr es ro (els++new)))],c:=c+1}
          else if off=0/\ro<=len/\els.length<=off+len+new.length/\zeS els (els.take len++new)=true then
            some {d:= .sl c 0 (off+len+new.length) es (off+len+new.length) false,rd:=id::rd,wr:=[(id,none),(c,some (.arr es ro (els.take len++new)))],c:=c+1}
          else none
        else none
      else none
  |_=>none
def zgM{es byt c:Nat}{h:Nat->Option Ob}{new:List (List D)}{rd:List Nat}:zbn es byt h c (.f .nils) new rd=if new.length=0 then some {d:= .f .nils,rd,c} else
  if new.length<=zaB/\new.length*byt<=zaB then some {d:= .sl c 0 new.length es new.length false,rd,wr:=[(c,some (.arr es 0 new))],c:=c+1} else none:=rfl
theorem zjA [Globs]{es byt c id off len es' lim:Nat}{ex:Bool}{h:Nat->Option Ob}{new:List (List D)}{rd:List Nat}:zbn es byt h c (.sl id off len es' lim ex) new rd=
  if new.length=0 then some {d:= .sl id off len es' lim ex,rd,c} else om (h id) (apO es byt c id off len es' lim ex new rd):=by
 rw[zJu];split
 .rfl
 .simp only[om];cases h id with
  |none=>rfl
  |some o=>cases o<;>rfl
def rd_1(s:St)(v:Rv):resD s [v]=resV s v:=by
 simp only[resD,zas];cases resV s v<;>rfl
def rd_2(s:St)(v w:Rv):resD s [v,w]=om (resV s v) fun x=>om (resV s w) fun y=>some (.tu [x,y]):=by
 simp only[resD,zas,om];cases resV s v with
 |none=>rfl
 |some x=>cases resV s w<;>rfl
def rv_t(s:St)(n:Nat):resV s (.t n)=s.tm.get n:=rfl
def rv_c(s:St)(n sz:Nat)(g:Bool):resV s (.cell n g sz)=om (s.tm.get n) fun p=>om (zc0 g sz s.h.get p) fun y=>some y.1:=by
 simp only[resV,om];cases s.tm.get n with
 |none=>rfl
 |some p=>simp only[Z46];cases zc0 g sz s.h.get p<;>rfl
def zup{res:List Rv}{y:F}{s:St}:zuo res y .ret s↔oB (resD s res) fun d=>oB (frz s.h.get 12 d) fun p=>p.1=y:=by
 simp only[zuo,true_and,oB];cases resD s res with
 |none=>simp
 |some d=>
  simp only[Z45,exists_eq_left'];cases frz s.h.get 12 d with
  |none=>simp
  |some p=>obtain⟨a,b⟩ :=p;simp
def zB8{res:List Rv}{y:F}{s:St}:zuo res y .nrm s↔oB (resD s res) fun d=>oB (frz s.h.get 12 d) fun p=>p.1=y:=by
 rw[<-zup];rfl
end Go.Vse
end
section
namespace Go.Vse
def Grow(h:T Ob)(lo c es:Nat)(d:D)(els:List (List D)):Prop:=
 (d= .f .nils/\els=[])\/∃id,d= .sl id 0 els.length es els.length false/\els≠[]/\h.get id=some (.arr es 0 els)/\lo<=id/\id<c
def Grow.nil{h:T Ob}{lo c es:Nat}:Grow h lo c es (.f .nils) []:= .inl ⟨rfl,rfl⟩
theorem zE6 [Globs]{h:T Ob}{lo c es byt:Nat}{d:D}{els new:List (List D)}{rd:List Nat}(hg:Grow h lo c es d els)(hlo:lo<=c)(hlen:els.length+new.length<=1000000)(hb:byt<=1000):
  ∃r,zbn es byt h.get c d new rd=some r/\zaq r.c r.wr=true/\Grow (wrT h r.wr) lo r.c es r.d (els++new)/\c<=r.c/\∀id,id<lo->(wrT h r.wr).get id=h.get id:=by
 have hm:∀n,n<=1000000->n<=zaB:=fun n hn=>by have:=zcZ (n:=n) (by omega);simpa using this
 have hmb:∀n,n<=1000000->n*byt<=zaB:=fun n hn=>by
  have:n*byt<=1000000*1000:=Z144 hn hb;have h2:=zcZ (n:=n*byt) (by omega);simpa using h2
 by_cases h0:new.length=0
 .have hn:new=[]:=Z17.1 h0;subst hn;rcases hg with⟨rfl,rfl⟩ |⟨id,rfl,he,ho,hl,hc⟩
  .exact⟨{d:= .f .nils,rd,c},by rw[zgM];simp,rfl,.inl ⟨rfl,rfl⟩,Z2 _,fun _ _=>rfl⟩
  .exact⟨{d:= .sl id 0 els.length es els.length false,rd,c},by rw[zjA];simp,rfl,.inr ⟨id,by simp,by simpa using he,by simpa [wrT]using ho,hl,hc⟩,Z2 _,fun _ _=>rfl⟩
 .rcases hg with⟨rfl,rfl⟩ |⟨id,rfl,he,ho,hl,hc⟩
  .refine⟨{d:= .sl c 0 new.length es new.length false,rd,wr:=[(c,some (.arr es 0 new))],c:=c+1},?_,?_,.inr ⟨c,rfl,?_,?_,hlo,by simp⟩,by simp,?_⟩
   .rw[zgM,Z49 h0,Z51 ⟨hm _ (by simpa using hlen),hmb _ (by simpa using hlen)⟩]
   .simp[zaq,Z79]
   .simpa using fun e=>h0 (by simp[e])
   .simp[wrT,T.zab]
   .intro i hi;have:i≠c:=by omega
    simp[wrT,T.zab,this]
  .refine⟨{d:= .sl c 0 (els.length+new.length) es (els.length+new.length) false,rd:=id::rd,wr:=[(id,none),(c,some (.arr es 0 (els++new)))],c:=c+1},?_,?_,.inr ⟨c,by simp,?_,?_,hlo,by simp⟩,by simp,?_⟩
   .rw[zjA,Z49 h0,ho];have h1:¬(0+els.length+new.length<=els.length):=by omega
    have h2:=hm (els.length+new.length) hlen;have h3:=hmb (els.length+new.length) hlen;simp[om,apO,h1,h2,h3];omega
   .simp[zaq,Z79];omega
   .simp[he]
   .simp[wrT,T.zab]
   .intro i hi;have h1:i≠c:=by omega
    have h2:i≠id:=by omega
    simp[wrT,T.zab,T.zbt,h1,h2]
def zeA{h h':T Ob}{lo c c' es:Nat}{d:D}{els:List (List D)}(hg:Grow h lo c es d els)(hh:∀id,id<c->h'.get id=h.get id)(hc:c<=c'):Grow h' lo c' es d els:=by
 rcases hg with⟨rfl,rfl⟩ |⟨id,rfl,he,ho,hl,hlt⟩
 .exact .inl ⟨rfl,rfl⟩
 .exact .inr ⟨id,rfl,he,by rw[hh id hlt];exact ho,hl,by omega⟩
theorem zno [Globs]{h:T Ob}{lo c es byt:Nat}{d:D}{els new:List (List D)}{rd:List Nat}{K:Rs->Prop}(hg:Grow h lo c es d els)(hlo:lo<=c)(hlen:els.length+new.length<=1000000)(hb:byt<=1000)
  (hK:∀r:Rs,zaq r.c r.wr=true->Grow (wrT h r.wr) lo r.c es r.d (els++new)->c<=r.c->(∀id,id<lo->(wrT h r.wr).get id=h.get id)->K r):oB (zbn es byt h.get c d new rd) K:=by
 obtain⟨r,h1,h2,h3,h4,h5⟩ :=zE6 (byt:=byt) (rd:=rd) hg hlo hlen hb;rw[h1];exact hK r h2 h3 h4 h5
def zE8 [Globs]{h:T Ob}{lo c es k:Nat}{d:D}{els:List (List D)}{L:List (List F)}(hg:Grow h lo c es d els)(hf:zaQ (frz h.get k) els=some (L,[])):∃rd,frz h.get (k+1) d=some (slc es L,rd):=by
 rcases hg with⟨rfl,rfl⟩ |⟨id,rfl,he,ho,hl,hc⟩
 .simp only[zaQ,Z45,Z66]at hf;rw[<-hf.1];exact⟨[],rfl⟩
 .have hL:L≠[]:=by
   rintro rfl;cases els with
   |nil=>exact he rfl
   |cons x l=>
    rw[zsB]at hf;simp only[om]at hf;cases h1:zaX (frz h.get k) x with
    |none=>rw[h1]at hf;simp at hf
    |some p=>
     rw[h1]at hf;cases h2:zaQ (frz h.get k) l with
     |none=>rw[h2]at hf;simp at hf
     |some q=>rw[h2]at hf;simp at hf
  refine⟨[id],?_⟩;rw[zfm,ho,zdQ,zhB];simp only[true_and,Z25,Z2,Z60,Z34,Z7,hf,zdQ];rw[zin hL]
section
variable [Globs]{pr:Pr}
structure WL(pr:Pr)(c:C)(s:St)(Q:Ex->St->Prop):Prop where
 out:wpC pr (.loop c) s Q
def rn(pr:Pr)(c:C)(Q:Ex->St->Prop)(x:Ex)(s:St):Prop:=match x with
 | .nrm=>WL pr c s Q
 |x=>Q x s
def zDe{c:C}{Q:Ex->St->Prop}{s:St}:rn pr c Q .nrm s=WL pr c s Q:=rfl
def zDf{c:C}{Q:Ex->St->Prop}{s:St}:rn pr c Q .ret s=Q .ret s:=rfl
def zxZ{c:C}{Q:Ex->St->Prop}{s:St}{i:Nat}:rn pr c Q (.exit i) s=Q (.exit i) s:=rfl
def round{c:C}{s:St}{Q:Ex->St->Prop}(h:wpC pr c s (rn pr c Q)):WL pr c s Q:=by
 refine⟨zJK ?_⟩;have e:rn pr c Q=fun x s'=>match x with
  | .nrm=>wpC pr (.loop c) s' Q
  |x=>Q x s':=by
  funext x s'
  cases x with
  |nrm=>exact propext ⟨fun h=>h.out,fun h=>⟨h⟩⟩
  |ret=>rfl
  |exit i=>rfl
 rw[e]at h;exact h
def zCI{c:C}{s:St}{Q:Ex->St->Prop}:wpC pr (.loop c) s Q=WL pr c s Q:=propext ⟨fun h=>⟨h⟩,fun h=>h.out⟩
def zcJ{c:C}{Q:Ex->St->Prop}(I:Nat->St->Prop)(R:Ex->St->Prop)(hstep:∀k s,I k s->wpC pr c s (lp I k R))(k:Nat)(s:St)(h:I k s)(hQ:∀x s,R x s->Q x s):WL pr c s Q:=⟨loopQ I R hstep k s h hQ⟩
end
end Go.Vse
end
section
namespace Go.Vse
variable [Globs]
def zzI(res:List Rv)(P:F->Prop)(x:Ex)(s:St):Prop:=
 (match x with| .exit _=>False|_=>True)/\∃d,resD s res=some d/\∃y rd,frz s.h.get 12 d=some (y,rd)/\P y
def zqI{pr:Pr}{f:Nat}{fn:Fn}(hf:pr.fn f=some fn){fs:List F}{P:F->Prop}(hw:wpC pr fn.body (st0 (F.dL fs) .e 0) (zzI fn.res P)):∃y,P y/\Ans pr f fs y:=by
 obtain⟨x,s,⟨hx,d,hd,y,rd,hz,hP⟩,ev⟩ :=zeQ _ _ _ hw;refine⟨y,hP,if Nat.beq s.lw 0&&d.isF then ⟨d,.e,0,0,s.mx⟩else ⟨d,s.h,s.c,s.lw,s.mx⟩,rd,?_,?_⟩
 .have key:EV fun m=>zeY (evC (zbQ pr m) m) fn (F.dL fs) .e 0=some (if Nat.beq s.lw 0&&d.isF then ⟨d,.e,0,0,s.mx⟩else ⟨d,s.h,s.c,s.lw,s.mx⟩):=by
   refine ev.mono fun m hm=> ?_
   unfold zeY;unfold st0 at hm;rw[hm];cases x with
   |exit i=>exact hx.elim
   |nrm=>simp only[hd];split<;>rfl
   |ret=>simp only[hd];split<;>rfl
  obtain⟨N,hN⟩ :=key;refine⟨N+1,fun m hm=> ?_⟩;obtain⟨m,rfl⟩ :∃m',m=m'+1:=⟨m - 1,by omega⟩
  simp only[zbQ,hf];exact hN m (by omega)
 .split
  .rename_i hb;simp only[Z14]at hb;have hr:=znn 12 d y rd hb.2 hz;subst hr;exact zgP 12 d y [] hz fun id hid=>by simp at hid
  .exact hz
def zum{res:List Rv}{P:F->Prop}{s:St}:zzI res P .ret s↔oB (resD s res) fun d=>oB (frz s.h.get 12 d) fun p=>P p.1:=by
 simp only[zzI,true_and,oB];cases resD s res with
 |none=>simp
 |some d=>
  simp only[Z45,exists_eq_left'];cases frz s.h.get 12 d with
  |none=>simp
  |some p=>
   obtain⟨a,b⟩ :=p;simp only[Z45,Z66];exact⟨fun⟨y,rd,⟨e1,e2⟩,h⟩ =>by rw[e1];exact h,fun h=>⟨a,b,⟨rfl,rfl⟩,h⟩⟩
def zB7{res:List Rv}{P:F->Prop}{s:St}:zzI res P .nrm s↔oB (resD s res) fun d=>oB (frz s.h.get 12 d) fun p=>P p.1:=by
 rw[<-zum];rfl
omit [Globs]in
def fza(h:Nat->Option Ob)(l:List D):zcC h l=zaX (frz h 12) l:=rfl
omit [Globs]in
def oi_n(d:Nat):za3 d none=some d:=rfl
omit [Globs]in
def oi_s(d:Nat)(x:D):za3 d (some x)=zbh x:=rfl
omit [Globs]in
def zIs{es:Nat}{h:Nat->Option Ob}:sliceB es h (.f .nils) none (some (.f (.i .i64 0))) none=some (.f .nils,[]):=rfl
omit [Globs]in
def zIt{es:Nat}{h:Nat->Option Ob}:sliceB es h (.f .nils) (some (.f (.i .i64 0))) none none=some (.f .nils,[]):=rfl
omit [Globs]in
theorem zvE{es es':Nat}{h:Nat->Option Ob}{els:List (List F)}{lo hi:Option D}:sliceB es h (.f (.sl es' els)) lo hi none=om (za3 0 lo) fun l=>om (za3 els.length hi) fun r=>
  if es=es'/\l<=r/\r<=els.length then some (.f (.sl es ((els.drop l).take (r - l))),[])else none:=by
 simp only[sliceB,om];cases za3 0 lo with
 |none=>rfl
 |some l=>simp only[Z46];cases za3 els.length hi<;>rfl
section
variable {pr:Pr}{s:St}{Q:St->Prop}{dst:Option Nat}{L:List (List Nat×List Nat)}{mask:Nat}
def zIb{l:List Op}{g:Bool}{off n:Nat}{x:A}:wpO pr (⟨dst,none,.fld g off n x⟩ ::l) s Q↔oB (((O.fld g off n x).res (zae s.tm)).bind (opv s.h.get s.c)) fun r=>zaq r.c r.wr=true/\wpO pr l (s.aft dst r.d r.wr r.c) Q:=zdD rfl
theorem zHp{l:List (Op×Nat)}{g:Bool}{off n:Nat}{x:A}:wpE pr L ((⟨dst,none,.fld g off n x⟩,mask)::l) s Q↔oB (((O.fld g off n x).res (zae s.tm)).bind (opv s.h.get s.c)) fun r=>zaq r.c r.wr=true/\
    zcN mask L r.rd (r.wr.map (·.1))/\wpE pr (L++[(r.rd,r.wr.map (·.1))]) l (s.ae dst r.d r.wr r.c) Q:=zcE rfl
omit [Globs]in
def zIT(h:Nat->Option Ob)(c:Nat)(g:Bool)(off n:Nat)(cs:List D):opv h c (.fld g off n (.ag cs))=om (zcL g off n cs) fun d=>some {d,c}:=by
 simp only[opv,om,okD];cases zcL g off n cs<;>rfl
end
def zv3{pr:Pr}{c:C}{S:St}{Q:Ex->St->Prop}(P:St->Prop)(h1:P S)(h2:∀s,P s->WL pr c s Q):WL pr c S Q:=h2 S h1
end Go.Vse
end
section
namespace Go.Vse
set_option maxRecDepth 100000
def ob_s{α β:Type}(a:α)(f:α->Option β):(some a).bind f=f a:=rfl
def ob_m{α β:Type}(a:α)(f:α->β):(some a).map f=some (f a):=rfl
def ob_b{α β:Type}(a:Option α)(f:α->Option β):(a>>=f)=a.bind f:=rfl
def cm_n{m:Nat}{rd wr:List Nat}:zcN m [] rd wr=True:=rfl
def cm_c{m:Nat}{r w:List Nat}{L:List (List Nat×List Nat)}{rd wr:List Nat}:zcN m ((r,w)::L) rd wr=((m%2=1->zcH rd w/\zcH wr w/\zcH wr r)/\zcN (m/2) L rd wr):=rfl
def fn_n(f:Nat):fnD f []= .f (.fn f):=rfl
def fn_c(f:Nat)(x:D)(l:List D):fnD f (x::l)= .fn f [] (x::l):=rfl
def zDs(f:A->Option D)(x:A)(i:Nat):O.res f (.ext x i)=(f x).bind fun y=>some (.ext y i):=rfl
def zsU(f:A->Option D)(op:UnOp)(x:A):O.res f (.un op x)=(f x).bind fun y=>some (.un op y):=rfl
def zDo(f:A->Option D)(k:IntKind)(x:A):O.res f (.cvi k x)=(f x).bind fun y=>some (.cvi k y):=rfl
def zDp(f:A->Option D)(ks:List Nat)(ne:Bool)(x y:A):O.res f (.eqa ks ne x y)=(f x).bind fun a=>(f y).bind fun b=>some (.eqa ks ne a b):=rfl
def zDl(f:A->Option D)(es b:Nat)(x y:A):O.res f (.app es b x y)=(f x).bind fun a=>(f y).bind fun c=>some (.app es b a c):=rfl
def zDt(f:A->Option D)(g:Bool)(o n:Nat)(x:A):O.res f (.fld g o n x)=(f x).bind fun y=>some (.fld g o n y):=rfl
def zDx(f:A->Option D)(es:Nat)(x:A)(a b c:Option A):O.res f (.slc es x a b c)=(f x).bind fun y=>(zdn f a).bind fun a=>(zdn f b).bind fun b=>(zdn f c).bind fun c=>some (.slc es y a b c):=rfl
def zDn(f:A->Option D)(es:Nat)(z:List F)(m:Nat)(ps:List (Nat×A)):O.res f (.bsl es z m ps)=(zas (fun p:Nat×A=>(f p.2).bind fun y=>some (p.1,y)) ps).bind fun qs=>some (.bsl es z m qs):=rfl
def zDm(f:A->Option D)(es:Nat)(z:List F)(m:Nat)(ps:List (Nat×A)):O.res f (.bsf es z m ps)=(zas (fun p:Nat×A=>(f p.2).bind fun y=>some (p.1,y)) ps).bind fun qs=>some (.bsf es z m qs):=rfl
def fw(l:List F):List F:=l
def fw_e(l:List F):fw l=l:=rfl
theorem zxa [Globs]{pr:Pr}{l:List Op}{s:St}{Q:St->Prop}{dst:Option Nat}{f:Nat}{args:List A}:wpO pr (⟨dst,none,.callp f args⟩ ::l) s Q↔oB (zas (zae s.tm) args) fun ds=>oB (zcC s.h.get ds) fun y=>aB pr f (fw y.1) fun x=>
  zaq s.c (zav s.h.get y.2)=true/\wpO pr l (s.aft dst x.d (zav s.h.get y.2) s.c) Q:=zMr
theorem zuv [Globs]{pr:Pr}{l:List (Op×Nat)}{s:St}{Q:St->Prop}{dst:Option Nat}{L:List (List Nat×List Nat)}{mask f:Nat}{args:List A}:wpE pr L ((⟨dst,none,.callp f args⟩,mask)::l) s Q↔oB (zas (zae s.tm) args) fun ds=>oB (zcC s.h.get ds) fun y=>aB pr f (fw y.1) fun x=>zaq s.c (zav s.h.get y.2)=true/\
    zcN mask L y.2 ((zav s.h.get y.2).map (·.1))/\wpE pr (L++[(y.2,(zav s.h.get y.2).map (·.1))]) l (s.ae dst x.d (zav s.h.get y.2) s.c) Q:=zJV
section
variable [Globs]{pr:Pr}{s:St}{Q:St->Prop}{dst:Option Nat}{L:List (List Nat×List Nat)}{mask:Nat}
def zH8{l:List Op}{ne:Bool}{x y:A}:wpO pr (⟨dst,none,.eqb ne x y⟩ ::l) s Q↔oB (((O.eqb ne x y).res (zae s.tm)).bind (opv s.h.get s.c)) fun r=>zaq r.c r.wr=true/\wpO pr l (s.aft dst r.d r.wr r.c) Q:=zdD rfl
def zHm{l:List (Op×Nat)}{kd:Nat}{ne:Bool}{x y:A}:wpE pr L ((⟨dst,none,.eqn kd ne x y⟩,mask)::l) s Q↔oB (((O.eqn kd ne x y).res (zae s.tm)).bind (opv s.h.get s.c)) fun r=>zaq r.c r.wr=true/\zcN mask L r.rd (r.wr.map (·.1))/\wpE pr (L++[(r.rd,r.wr.map (·.1))]) l (s.ae dst r.d r.wr r.c) Q:=zcE rfl
def zIa{l:List Op}{kd:Nat}{ne:Bool}{x y:A}:wpO pr (⟨dst,none,.eqn kd ne x y⟩ ::l) s Q↔oB (((O.eqn kd ne x y).res (zae s.tm)).bind (opv s.h.get s.c)) fun r=>zaq r.c r.wr=true/\wpO pr l (s.aft dst r.d r.wr r.c) Q:=zdD rfl
def zHq{l:List (Op×Nat)}{es b:Nat}{z:List F}{x y:A}:wpE pr L ((⟨dst,none,.mks es b z x y⟩,mask)::l) s Q↔oB (((O.mks es b z x y).res (zae s.tm)).bind (opv s.h.get s.c)) fun r=>zaq r.c r.wr=true/\zcN mask L r.rd (r.wr.map (·.1))/\wpE pr (L++[(r.rd,r.wr.map (·.1))]) l (s.ae dst r.d r.wr r.c) Q:=zcE rfl
def zId{l:List Op}{es b:Nat}{z:List F}{x y:A}:wpO pr (⟨dst,none,.mks es b z x y⟩ ::l) s Q↔oB (((O.mks es b z x y).res (zae s.tm)).bind (opv s.h.get s.c)) fun r=>zaq r.c r.wr=true/\wpO pr l (s.aft dst r.d r.wr r.c) Q:=zdD rfl
def e_mm{l:List (Op×Nat)}{mx:Bool}{x y:A}:wpE pr L ((⟨dst,none,.mm mx x y⟩,mask)::l) s Q↔oB (((O.mm mx x y).res (zae s.tm)).bind (opv s.h.get s.c)) fun r=>zaq r.c r.wr=true/\zcN mask L r.rd (r.wr.map (·.1))/\wpE pr (L++[(r.rd,r.wr.map (·.1))]) l (s.ae dst r.d r.wr r.c) Q:=zcE rfl
def o_mm{l:List Op}{mx:Bool}{x y:A}:wpO pr (⟨dst,none,.mm mx x y⟩ ::l) s Q↔oB (((O.mm mx x y).res (zae s.tm)).bind (opv s.h.get s.c)) fun r=>zaq r.c r.wr=true/\wpO pr l (s.aft dst r.d r.wr r.c) Q:=zdD rfl
end
def zDq(f:A->Option D)(ne:Bool)(x y:A):O.res f (.eqb ne x y)=(f x).bind fun a=>(f y).bind fun b=>some (.eqb ne a b):=rfl
def zDr(f:A->Option D)(kd:Nat)(ne:Bool)(x y:A):O.res f (.eqn kd ne x y)=(f x).bind fun a=>(f y).bind fun b=>some (.eqn kd ne a b):=rfl
def zDv(f:A->Option D)(es b:Nat)(z:List F)(x y:A):O.res f (.mks es b z x y)=(f x).bind fun a=>(f y).bind fun c=>some (.mks es b z a c):=rfl
def zIr(f:A->Option D)(mx:Bool)(x y:A):O.res f (.mm mx x y)=(f x).bind fun a=>(f y).bind fun c=>some (.mm mx a c):=rfl
def zIL(h:Nat->Option Ob)(c:Nat)(ne p q:Bool):opv h c (.eqb ne (.f (.b p)) (.f (.b q)))=some {d:= .f (.b (if ne then !(p==q)else p==q)),c}:=rfl
def v_mm(h:Nat->Option Ob)(c:Nat)(mx:Bool)(k:IntKind)(a b:Int):opv h c (.mm mx (.f (.i k a)) (.f (.i k b)))=some {d:= .f (.i k (if mx then(if b>a then b else a)else(if b<a then b else a))),c}:=by simp[opv,okF]
def rulA [Globs]:=
 qI @zHZ (qI @k_reg (qI @zCG (qI @zCI (qI @zDe (qI @zDf (qI @zxZ (qI @zHY (qI @zDO (qI @zDP (qI @zyh (qI @zCJ (qI @zCK (qI @zxu (qI @zCO (qI @zxC (qI @zG0 (qI @zBK (qI @zBJ (qI @zI9 (qI @zI6 (qI @y_mv (qI @zEc (qI @y_ld (qI @zJc (qI @zJm (qI @zJi (qI @y_fa (qI @zJh (qI @zJf (qI @y_st (qI @y_ia (qI @zJl (qI @zJd (qI @zxa (qI @zEb (qI @zyC (qI @zHu (qI @e_mv (qI @zB1 (qI @e_ld (qI @zHc (qI @zHk (qI @e_len (qI @e_fa (qI @e_ia (qI @zHd (qI @zHr (qI @e_st (qI @zuv (qI @zw1 (qI @zGS (qI @zBC (qI @zug (qI @zrJ (qI @zdK (qI @zbi (qI @zb8 (qI @zb7 (qI @zA7 (qI @za8 (qI @zbW (qI @zbU (qI @zyX (qI @zbf (qI @zb6 (qI @zb2 (qI @zAX (qI @zxM (qI @zCU (qI @zCS (qI @zGR (qI @zGP (qI @zwz (qI @zBB (qI @zwB (qI @zbj (qI @zcb (qI @zca (qI @zA9 (qI @zaU (qI @zbd (qI @za9 (qI @zth (qI @zmF (qI @zr5 (qI @T.zab (qI @T.zbt (qI @T.zsD (qI @fza (qI @zwN (qI @zwM (qI @zwH (qI @zwL (qI @zwG (qI @zwO (qI @zwE (qI @zwU (qI @zwR (qI @zwQ (qI @zwP (qI @zwT (qI @zHo (qI @e_un (qI @zHj (qI @zHb (qI @zHh (qI @zHf (qI @zHv (qI @zHi (qI @zH6 (qI @zH1 (qI @zH3 (qI @zH2 (qI @zIe (qI @zH5 (qI @zew (qI @zeo (qI @zfh (qI @zuK (qI @zxy (qI @zCL (qI @zCC (qI @zHV (qI @zdQ (qI @mo_n (qI @mo_c (qI @oo_n (qI @oo_s (qI @zE0 (qI @zEZ (qI @zHP (qI @zsB (qI @zHO (qI @zhB (qI @f12f (qI @f11f (qI @f10f (qI @f9f (qI @f8f (qI @f12a (qI @f11a (qI @f10a (qI @f9a (qI @f12t (qI @f12s (qI @f11s (qI @f10s (qI @f9s (qI @zxv (qI @ld_p (qI @zAr (qI @pF_t (qI @pF_f (qI @pD_t (qI @pD_f (qI @zyo (qI @st_p (qI @zxN (qI @h8_i (qI @zCw (qI @h8_2 (qI @zCu (qI @h8_b (qI @h8_s (qI @zxo (qI @zCt (qI @zHU (qI @zCx (qI @zG5 (qI @ce_i (qI @ce_b (qI @ce_s (qI @zwX (qI @zBM (qI @zcs (qI @zG6 (qI @zBN (qI @zwW (qI @d_ag (qI @d_tu (qI @d_i (qI @d_b (qI @d_s (qI @zBX (qI @d_un (qI @d_sl (qI @dl_n (qI @dl_c (qI @ti_i (qI @fa_p (qI @fa_f (qI @ov (qI @fb_n (qI @fb_c (qI @fe_n (qI @fe_c (qI @zcf (qI @zci (qI @zcc (qI @wo_n (qI @wo_c (qI @ro_n (qI @ro_c (qI @zDh (qI @zIQ (qI @zIV (qI @zIJ (qI @zBc (qI @zIW (qI @zID (qI @zIH (qI @zIE (qI @zBI (qI @zBH (qI @fc_n (qI @fc_f (qI @zHA (qI @fw_n (qI @fw_c (qI @zw2 (qI @zB6 (qI @zqP (qI @zzF (qI @zgM (qI @zjA (qI @rd_1 (qI @rd_2 (qI @rv_t (qI @rv_c (qI @zup (qI @zB8 (qI @zum (qI @zB7 (qI @zIb (qI @zHp (qI @zIT (qI @oi_n (qI @oi_s (qI @zIs (qI @zIt (qI @zvE (qI @zH8 (qI @zHm (qI @zIa (qI @zHq (qI @zId (qI @e_mm (qI @o_mm (qI @zDq (qI @zDr (qI @zDv (qI @zIr (qI @zIL (qI @v_mm (qI @fw_e (qI @ob_s (qI @ob_m (qI @ob_b (qI @cm_n (qI @cm_c (qI @fn_n (qI @fn_c (qI @zDs (qI @zsU (qI @zDo (qI @zDp (qI @zDl (qI @zDt (qI @zDx (qI @zDn (@zDm)))))))))))))))))))))))))))))))))))))))))))))))))))))))))))))))))))))))))))))))))))))))))))))))))))))))))))))))))))))))))))))))))))))))))))))))))))))))))))))))))))))))))))))))))))))))))))))))))))))))))))))))))))))))))))))))))))))))))))))))))))))))))))))))))))))))))))))))
def zAT [Globs]:=
 qI @zHZ (qI @k_reg (qI @zCG (qI @zCI (qI @zDe (qI @zDf (qI @zxZ (qI @zHY (qI @zDO (qI @zDP (qI @zyh (qI @zCJ (qI @zCK (qI @zxu (qI @zCO (qI @zxC (qI @zG0 (qI @zBK (qI @zBJ (qI @zI9 (qI @zI6 (qI @y_mv (qI @zEc (qI @y_ld (qI @zJc (qI @zJm (qI @zJi (qI @y_fa (qI @zJh (qI @zJf (qI @y_st (qI @y_ia (qI @zJl (qI @zJd (qI @zxa (qI @zEb (qI @zyC (qI @zHu (qI @e_mv (qI @zB1 (qI @e_ld (qI @zHc (qI @zHk (qI @e_len (qI @e_fa (qI @e_ia (qI @zHd (qI @zHr (qI @e_st (qI @zuv (qI @zw1 (qI @zGS (qI @zBC (qI @zug (qI @zrJ (qI @zdK (qI @zbi (qI @zb8 (qI @zb7 (qI @zA7 (qI @za8 (qI @zbW (qI @zbU (qI @zyX (qI @zbf (qI @zb6 (qI @zb2 (qI @zAX (qI @zxM (qI @zCU (qI @zCS (qI @zGR (qI @zGP (qI @zwz (qI @zBB (qI @zwB (qI @zbj (qI @zcb (qI @zca (qI @zA9 (qI @zaU (qI @zbd (qI @za9 (qI @zth (qI @zmF (qI @zr5 (qI @T.zab (qI @T.zbt (qI @T.zsD (qI @fza (qI @zwN (qI @zwM (qI @zwH (qI @zwL (qI @zwG (qI @zwO (qI @zwE (qI @zwU (qI @zwR (qI @zwQ (qI @zwP (qI @zwT (qI @zHo (qI @e_un (qI @zHj (qI @zHb (qI @zHh (qI @zHf (qI @zHv (qI @zHi (qI @zH6 (qI @zH1 (qI @zH3 (qI @zH2 (qI @zIe (qI @zH5 (qI @zew (qI @zeo (qI @zfh (qI @zuK (qI @zxy (qI @zCL (qI @zCC (qI @zHV (qI @zdQ (qI @mo_n (qI @mo_c (qI @oo_n (qI @oo_s (qI @zE0 (qI @zEZ (qI @zHP (qI @zsB (qI @zHO (qI @zhB (qI @f12f (qI @f11f (qI @f10f (qI @f9f (qI @f8f (qI @f12a (qI @f11a (qI @f10a (qI @f9a (qI @f12t (qI @f12s (qI @f11s (qI @f10s (qI @f9s (qI @zxv (qI @ld_p (qI @zAr (qI @pF_t (qI @pF_f (qI @pD_t (qI @pD_f (qI @zyo (qI @st_p (qI @zxN (qI @h8_i (qI @zCw (qI @h8_2 (qI @zCu (qI @h8_b (qI @h8_s (qI @zxo (qI @zCt (qI @zHU (qI @zCx (qI @zG5 (qI @ce_i (qI @ce_b (qI @ce_s (qI @zwX (qI @zBM (qI @zcs (qI @zG6 (qI @zBN (qI @zwW (qI @d_ag (qI @d_tu (qI @d_i (qI @d_b (qI @d_s (qI @zBX (qI @d_un (qI @d_sl (qI @dl_n (qI @dl_c (qI @ti_i (qI @fa_p (qI @fa_f (qI @ov (qI @fb_n (qI @fb_c (qI @fe_n (qI @fe_c (qI @zcf (qI @zci (qI @zcc (qI @wo_n (qI @wo_c (qI @ro_n (qI @ro_c (qI @zDh (qI @zIQ (qI @zIV (qI @zIJ (qI @zBc (qI @zIW (qI @zID (qI @zIH (qI @zIE (qI @zBI (qI @zBH (qI @fc_n (qI @fc_f (qI @zHA (qI @fw_n (qI @fw_c (qI @zw2 (qI @zB6 (qI @zqP (qI @zzF (qI @rd_1 (qI @rd_2 (qI @rv_t (qI @rv_c (qI @zup (qI @zB8 (qI @zum (qI @zB7 (qI @zIb (qI @zHp (qI @zIT (qI @oi_n (qI @oi_s (qI @zIs (qI @zIt (qI @zvE (qI @zH8 (qI @zHm (qI @zIa (qI @zHq (qI @zId (qI @e_mm (qI @o_mm (qI @zDq (qI @zDr (qI @zDv (qI @zIr (qI @zIL (qI @v_mm (qI @fw_e (qI @ob_s (qI @ob_m (qI @ob_b (qI @cm_n (qI @cm_c (qI @fn_n (qI @fn_c (qI @zDs (qI @zsU (qI @zDo (qI @zDp (qI @zDl (qI @zDt (qI @zDx (qI @zDn (@zDm)))))))))))))))))))))))))))))))))))))))))))))))))))))))))))))))))))))))))))))))))))))))))))))))))))))))))))))))))))))))))))))))))))))))))))))))))))))))))))))))))))))))))))))))))))))))))))))))))))))))))))))))))))))))))))))))))))))))))))))))))))))))))))))))))))))))))))))
end Go.Vse
end
section
namespace Go.Vse
variable [Globs]
section
variable {pr:Pr}{α σ ρ:Type}
def nxF(J:Nat->St->Prop)(R1:Nat->Ex->St->Prop)(hit:Prop)(n:Nat)(x:Ex)(s:St):Prop:=match x with
 | .nrm=>¬hit/\J (n+1) s
 |x=>hit/\R1 n x s
def zpP{J:Nat->St->Prop}{R1:Nat->Ex->St->Prop}{hit:Prop}{n:Nat}{s:St}:nxF J R1 hit n .nrm s=(¬hit/\J (n+1) s):=rfl
def zpQ{J:Nat->St->Prop}{R1:Nat->Ex->St->Prop}{hit:Prop}{n:Nat}{s:St}:nxF J R1 hit n .ret s=(hit/\R1 n .ret s):=rfl
def zpO{J:Nat->St->Prop}{R1:Nat->Ex->St->Prop}{hit:Prop}{n i:Nat}{s:St}:nxF J R1 hit n (.exit i) s=(hit/\R1 n (.exit i) s):=rfl
def nxE(R:Ex->St->Prop)(x:Ex)(s:St):Prop:=match x with
 | .nrm=>False
 |x=>R x s
def zpM{R:Ex->St->Prop}{s:St}:nxE R .nrm s=False:=rfl
def zpN{R:Ex->St->Prop}{s:St}:nxE R .ret s=R .ret s:=rfl
def zpL{R:Ex->St->Prop}{i:Nat}{s:St}:nxE R (.exit i) s=R (.exit i) s:=rfl
def zAt{c:C}{Q:Ex->St->Prop}(I:Nat->St->Prop)(hstep:∀k s,I k s->∃P:Ex->St->Prop,wpC pr c s P/\∀x s',P x s'->lp I k Q x s'):∀(k:Nat) (s:St),I k s->wpC pr (.loop c) s Q:=by
 intro k
 induction k using Nat.strongRecOn with
 |ind k ih=>
  intro s hI;obtain⟨P,hw,hP⟩ :=hstep k s hI;obtain⟨x,s1,hq,ev⟩ :=zeQ c s _ hw;have hq:=hP x s1 hq;cases x with
  |nrm=>
   obtain⟨k',hlt,hI'⟩ :=hq;obtain⟨x2,s2,m,h2,e2⟩ :=ih k' hlt s1 hI';exact⟨x2,s2,m+1,h2,(ev.and e2).mono fun n ⟨p,q⟩ =>by simp only[iter,p];exact q⟩
  |exit i=>exact⟨.exit i,s1,1,hq,ev.mono fun n p=>by simp only[iter,p]⟩
  |ret=>exact⟨.ret,s1,1,hq,ev.mono fun n p=>by simp only[iter,p]⟩
theorem zsA{c:C}{Q:Ex->St->Prop}(l:List α)(p:α->Bool)(J:Nat->St->Prop)(R0:Ex->St->Prop)(R1:Nat->Ex->St->Prop)
  (hb:∀n s (h:n<l.length),J n s->wpC pr c s (nxF J R1 (p l[n]=true) n))
  (he:∀s,J l.length s->wpC pr c s (nxE R0))(s:St)(h0:J 0 s)
  (q0:(∀a∈l,p a=false)->∀x s,R0 x s->Q x s)(q1:∀n (h:n<l.length),p l[n]=true->(∀m (h':m<n),p (l[m]'(by omega))=false)->∀x s,R1 n x s->Q x s):WL pr c s Q:=by
 refine⟨zAt (fun k s=>∃n,n<=l.length/\k=l.length - n/\J n s/\∀m (h:m<n) (h':m<l.length),p l[m]=false) ?_ l.length s ⟨0,Z61 _,rfl,h0,fun m h=>by omega⟩⟩;rintro k s ⟨n,hn,rfl,hJ,hA⟩
 by_cases hlt:n<l.length
 .refine⟨_,hb n s hlt hJ,fun x s' hx=> ?_⟩;cases x with
  |nrm=>
   refine⟨l.length - (n+1),by omega,n+1,by omega,rfl,hx.2,fun m hm h'=> ?_⟩
   by_cases hmn:m<n
   .exact hA m hmn h'
   .have:m=n:=by omega
    subst this;simpa using hx.1
  |ret=>exact q1 n hlt hx.1 (fun m h=>hA m h (by omega)) _ _ hx.2
  |exit i=>exact q1 n hlt hx.1 (fun m h=>hA m h (by omega)) _ _ hx.2
 .have:n=l.length:=by omega
  subst this;have hq:=q0 fun a ha=>by
   obtain⟨m,hm,rfl⟩ :=Z101.1 ha;exact hA m hm hm
  refine⟨_,he s hJ,fun x s' hx=> ?_⟩;cases x with
  |nrm=>exact hx.elim
  |ret=>exact hq _ _ hx
  |exit i=>exact hq _ _ hx
def nxG(J:Nat->σ->St->Prop)(n:Nat)(b:σ)(x:Ex)(s:St):Prop:=match x with
 | .nrm=>J (n+1) b s
 |_=>False
def zpR{J:Nat->σ->St->Prop}{n:Nat}{b:σ}{s:St}:nxG J n b .nrm s=J (n+1) b s:=rfl
theorem zHJ{c:C}{Q:Ex->St->Prop}(l:List α)(f:σ->α->σ)(a0:σ)(J:Nat->σ->St->Prop)(R:Ex->St->Prop)
  (hb:∀n a s (h:n<l.length),a=(l.take n).foldl f a0->J n a s->wpC pr c s (nxG J n (f a l[n])))
  (he:∀s,J l.length (l.foldl f a0) s->wpC pr c s (nxE R))(s:St)(h0:J 0 a0 s)(hq:∀x s,R x s->Q x s):WL pr c s Q:=by
 refine⟨zAt (fun k s=>∃n,n<=l.length/\k=l.length - n/\J n ((l.take n).foldl f a0) s) ?_ l.length s ⟨0,Z61 _,rfl,by simpa using h0⟩⟩;rintro k s ⟨n,hn,rfl,hJ⟩
 by_cases hlt:n<l.length
 .refine⟨_,hb n _ s hlt rfl hJ,fun x s' hx=> ?_⟩;cases x with
  |nrm=>
   refine⟨l.length - (n+1),by omega,n+1,by omega,rfl,?_⟩;rw[Z105,Z0 hlt,Z151,Z142];exact hx
  |ret=>exact hx.elim
  |exit i=>exact hx.elim
 .have:n=l.length:=by omega
  subst this;rw[Z7]at hJ;refine⟨_,he s hJ,fun x s' hx=> ?_⟩;cases x with
  |nrm=>exact hx.elim
  |ret=>exact hq _ _ hx
  |exit i=>exact hq _ _ hx
def nxI(J:Nat->St->Prop)(n:Nat)(x:Ex)(s:St):Prop:=match x with
 | .nrm=>J (n+1) s
 |_=>False
def zpW{J:Nat->St->Prop}{n:Nat}{s:St}:nxI J n .nrm s=J (n+1) s:=rfl
theorem zcA{c:C}{Q:Ex->St->Prop}(len:Nat)(J:Nat->St->Prop)(R:Ex->St->Prop)
  (hb:∀n s,n<len->J n s->wpC pr c s (nxI J n))(he:∀s,J len s->wpC pr c s (nxE R))(s:St)(h0:J 0 s)(hq:∀x s,R x s->Q x s):WL pr c s Q:=by
 refine⟨zAt (fun k s=>∃n,n<=len/\k=len - n/\J n s) ?_ len s ⟨0,Z61 _,rfl,h0⟩⟩;rintro k s ⟨n,hn,rfl,hJ⟩
 by_cases hlt:n<len
 .refine⟨_,hb n s hlt hJ,fun x s' hx=> ?_⟩;cases x with
  |nrm=>exact⟨len - (n+1),by omega,n+1,by omega,rfl,hx⟩
  |ret=>exact hx.elim
  |exit i=>exact hx.elim
 .have:n=len:=by omega
  subst this;refine⟨_,he s hJ,fun x s' hx=> ?_⟩;cases x with
  |nrm=>exact hx.elim
  |ret=>exact hq _ _ hx
  |exit i=>exact hq _ _ hx
def nxH(J:Nat->σ->St->Prop)(R:ρ->Ex->St->Prop)(n:Nat)(b:σ⊕ρ)(x:Ex)(s:St):Prop:=match x with
 | .nrm=>∃a,b= .inl a/\J (n+1) a s
 |x=>∃r,b= .inr r/\R r x s
def zpU{J:Nat->σ->St->Prop}{R:ρ->Ex->St->Prop}{n:Nat}{b:σ⊕ρ}{s:St}:nxH J R n b .nrm s=∃a,b= .inl a/\J (n+1) a s:=rfl
def zpV{J:Nat->σ->St->Prop}{R:ρ->Ex->St->Prop}{n:Nat}{b:σ⊕ρ}{s:St}:nxH J R n b .ret s=∃r,b= .inr r/\R r .ret s:=rfl
def zpS{J:Nat->σ->St->Prop}{R:ρ->Ex->St->Prop}{n i:Nat}{b:σ⊕ρ}{s:St}:nxH J R n b (.exit i) s=∃r,b= .inr r/\R r (.exit i) s:=rfl
def nxS{β:Type}(J:Nat->St->Prop)(R:β->Ex->St->Prop)(n:Nat)(b:Option β)(x:Ex)(s:St):Prop:=match x with
 | .nrm=>b=none/\J (n+1) s
 |x=>∃r,b=some r/\R r x s
def zpZ{β:Type}{J:Nat->St->Prop}{R:β->Ex->St->Prop}{n:Nat}{b:Option β}{s:St}:nxS J R n b .nrm s=(b=none/\J (n+1) s):=rfl
def zp0{β:Type}{J:Nat->St->Prop}{R:β->Ex->St->Prop}{n:Nat}{b:Option β}{s:St}:nxS J R n b .ret s=∃r,b=some r/\R r .ret s:=rfl
def zpY{β:Type}{J:Nat->St->Prop}{R:β->Ex->St->Prop}{n i:Nat}{b:Option β}{s:St}:nxS J R n b (.exit i) s=∃r,b=some r/\R r (.exit i) s:=rfl
end
def rR [Globs]:=And.intro rulA (qI @zpW (qI @Function.comp_def.{1,1,1} (qI @Nat.blt_eq (qI @zpP (qI @zpQ (qI @zpO (qI @zpM (qI @zpN (qI @zpL (qI @zpR (qI @zpU (qI @zpV (qI @zpS (qI @zpZ (qI @zp0 (qI @zpY (qI @apO.eq_1 (@apO.eq_2))))))))))))))))))
end Go.Vse
end
