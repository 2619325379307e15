/- semantics.Evaluate: a round of the loop over the answers; the loop. -/
import Derived.Test.YtbhholaillniiaaGreatDoorPzc
import Derived.KernelRfl
import Derived.IntWalk
set_option linter.all false
set_option maxRecDepth 100000
set_option maxHeartbeats 4000000
noncomputable section
section
namespace Go.Proofs.YtbhholaillniiaaGreatDoor
open Go Go.Vse Go.Vse.Sm
def zhn{a:Act}{i:Nat}{v:Value}(h:a.tmps[i]? =some v):a.eval (.tmp i)=v:=by simp[Act.eval,Z19,h]
def zgE{a:Act}{i:Nat}{v:Value}(h:i<a.tmps.size):(a.put (some i) v).tmps[i]? =some v:=by simp[Act.put,h]
def zmG{a:Act}{i j:Nat}{v:Value}(h:i≠j):(a.put (some i) v).tmps[j]? =a.tmps[j]? :=by simp only[Act.put];exact Z93 h
def zos{a:Act}{i:Nat}{v:Value}:(a.put (some i) v).tmps.size=a.tmps.size:=by simp[Act.put]
def zjs{d:D}{j:Nat}(h:j≠5):((T.e:T D).set 5 d).get j=none:=by rw[TG,Z49 h];rfl
theorem zEU{amb:Mu}{w0 w:World}{key:List Int->Str}{E:List Er}{Mp lo c r bm cl:Nat}{idx:List Nat}{a:Act}{ρ:Nat->Option Nat}{h:T Ob}{d:D}{es:Array MapEntry}{seen:Array Nat}(hJ:LJ amb w0 key E Mp lo idx a w ρ h c d r bm es cl seen)(hE:E.length<=12){Q1:Exit->Act->World->Prop}
    (hend:(∀j,j<E.length->j∈idx)->∀a' w',AtS amb w0 29 (CS (T.e.set 5 d) h c) ρ a' w'->Q1 (.exit 0) a' w')
    (hmore:∀j a' w' ρ' h' c' d' seen',j∉idx->j<E.length->LJ amb w0 key E Mp lo (idx++[j]) a' w' ρ' h' c' d' r bm es cl seen'->Q1 .normal a' w'):evL.wp Tryz.prog Q1 a w:=by
  have hnt:=hJ.A.ss.nt;obtain⟨b,hb,es',cl',m1,m2,m3⟩ :=hJ.A.ss.sim.obj Mp _ hJ.m;have eb:b=bm:=Z53 (hb.symm.trans hJ.I.m);subst eb;have ee:=Z53 (m1.symm.trans hJ.I.e);simp only[Obj.map.injEq]at ee;obtain⟨rfl,rfl⟩ :=ee;rw[zNu];refine wp_seq ?_;obtain⟨id5,e5⟩ :=ev5;rw[e5];refine wp_region ?_;rw[o5_n,wpOps_cons];have h17:=zhn hJ.t;rcases run_next_at (P:=Tryz.prog) w (o5 0).type r b cl' cl' seen es' cl' hJ.I.i hJ.I.e m3.2 (Z2 _)with⟨h0,hrun⟩ |⟨e,hme,w1,hw1,hrun⟩
  . refine zik o50.1 o50.2.2.1 (zrL o50.2.1 (by rw[h17];exact hrun)) ?_;rw[o50.2.2.2,wpOps_cons];refine zik o51.1 o51.2.2.1 (znY (v:= .bool false) o51.2.1 (zhn (zgE (by omega))) rfl) ?_;rw[o51.2.2.2];refine wp_seq ?_;refine wp_cond_false (zhn (zgE (by rw[zos];omega))) ?_;refine wp_exit ?_;refine hend (fun j hj=> ?_) _ _ ((hJ.A.free (zjs (by omega)) _).free (zjs (by omega)) _);have hl:=m2.len;simp only[mpE,Z18,Z72]at hl;have hje:es'[j]? =some es'[j]:=Array.getElem?_eq_getElem (by omega);have hin:=all_seen es' seen h0 es'[j] (by simp);have hin2:(es'[j]'(by omega)).born∈seen.toList:=by simpa using hin
    rw[hJ.s]at hin2;obtain⟨i,hi,he⟩ :=List.mem_filterMap.1 hin2;obtain⟨x,hx,hxe⟩ :=Option.map_eq_some_iff.1 he;have hil:=hJ.b i hi;have hie:es'[i]? =some es'[i]:=Array.getElem?_eq_getElem (by omega);rw[hie]at hx;rw[<-Z53 hx]at hxe;have:i=j:=by
      have h1:i< (es'.toList.map (·.born)).length:=by simp;omega
      have h2:j< (es'.toList.map (·.born)).length:=by simp;omega
      exact (List.getElem_inj (h₀:=h1) (h₁:=h2) m3.1).1 (by simpa using hxe)
    exact this▸hi
  . obtain⟨hme1,hme2⟩ :=mem_left hme;refine zik o50.1 o50.2.2.1 (zrL o50.2.1 (by rw[h17];exact hrun)) ?_;rw[o50.2.2.2,wpOps_cons];refine zik o51.1 o51.2.2.1 (znY (v:= .bool true) o51.2.1 (zhn (zgE (by omega))) rfl) ?_;rw[o51.2.2.2];generalize hw':ChangeMaps.setBlock w1 r (.mapIter (some b) cl' (seen.push e.born) cl')=w';obtain⟨A1,I1⟩ :=hJ.A.iter hJ.I hw1 hw'.symm;obtain⟨b2,hb2,es2,cl2,n1,n2,n3⟩ :=A1.ss.sim.obj Mp _ hJ.m;have eb:b2=b:=Z53 (hb2.symm.trans I1.m);subst eb;have ee:=Z53 (n1.symm.trans I1.e);simp only[Obj.map.injEq]at ee;obtain⟨rfl,rfl⟩ :=ee;obtain⟨j,hj⟩ :=List.mem_iff_getElem?.1 hme1;obtain⟨p,hp,hrel⟩ :=zCd n2 hj;simp only[mpE,Z36]at hp;obtain⟨q,hq,rfl⟩ :=Option.map_eq_some_iff.1 hp;have hqm:=Z39 hq;have hjl:j<E.length:=(Z8.1 hq).1;have hja:es2[j]? =some e:=by rw[<-Z69];exact hj
    have hjn:j∉idx:=fun hi=>by
      have:e.born∈seen.toList:=by
        rw[hJ.s];exact List.mem_filterMap.2 ⟨j,hi,by rw[hja];rfl⟩
      have h2:seen.contains e.born=true:=by simpa using this
      rw[h2]at hme2;cases hme2
    have A2:=(A1.free (zjs (d:=d) (j:=18) (by omega)) (.tuple #[.bool true,e.key,e.val])).free (zjs (d:=d) (j:=19) (by omega)) (.bool true);have t2:(((a.put (some 18) (.tuple #[.bool true,e.key,e.val])).put (some 19) (.bool true))).tmps[17]? =some (.pointer (some ⟨r,0,none⟩)):=by
      rw[zmG (by omega),zmG (by omega)];exact hJ.t
    refine wp_seq ?_;refine wp_cond_true (zhn (zgE (by rw[zos];omega))) ?_;refine wp_skip ?_;generalize (a.put (some 18) (.tuple #[.bool true,e.key,e.val])).put (some 19) (.bool true)=a2 at A2 t2;have hnt2:=A2.ss.nt;refine wp_block ?_;refine wp_seq ?_;obtain⟨id6,e6⟩ :=ev6;rw[e6];refine wp_region ?_;rw[o6_n,wpOps_cons];refine zik o60.1 o60.2.2.1 (zzy o60.2.1 (by rw[zhn t2];exact run_entry_at w' r b2 cl2 seen es2 cl2 e I1.i I1.e hme1 n3.1)) ?_;rw[o60.2.2.2,wpOps_cons];refine zik o61.1 o61.2.2.1 (znY (v:=e.val) o61.2.1 (zhn (zgE (by omega))) rfl) ?_;rw[o61.2.2.2,wpOps_cons];refine zik o62.1 o62.2.2.1 (zwd o62.2.1) ?_;rw[o62.2.2.2,zhn (zgE (by rw[zos];omega))];obtain⟨ir,ro,eq1,k1,k2,k3⟩ :=hJ.e q hqm;have A3:=zJx ((A2.free (zjs (d:=d) (j:=20) (by omega)) (.tuple #[e.key,e.val])).free (zjs (d:=d) (j:=21) (by omega)) e.val) (j:=7) (by omega) hrel;have t3:(((a2.put (some 20) (.tuple #[e.key,e.val])).put (some 21) e.val).put (some 7) e.val).tmps[17]? =some (.pointer (some ⟨r,0,none⟩)):=by
      rw[zmG (by omega),zmG (by omega),zmG (by omega)];exact t2
    show(Code.wp _ _ _ _ _);generalize ((a2.put (some 20) (.tuple #[e.key,e.val])).put (some 21) e.val).put (some 7) e.val=a3 at A3 t3;obtain⟨id7,e7⟩ :=ev7;rw[e7];simp only at A3;rw[eq1]at A3;have hil:idx.length<=E.length:=zmE _ _ hJ.n hJ.b;have hRl:(idx.filterMap (E[·]?)).length<=idx.length:=List.length_filterMap_le _ _;refine zMC zhL o7c A3 (zEr (v:=q.2) hJ.g hJ.z hJ.l.1 hJ.l.2 (by omega)) o7d fun s' ρ' a' w2 hK hA' hKp ht=> ?_
    obtain⟨_,hc,hlw,d',h5,hG',hZ',hfr⟩ :=hK;have hoid:∀x,d.oid=some x->lo<=x:=fun x hx=>(zbr hJ.g hx).1
    have hl:=hJ.l;have hqe:(D.sl ir 0 q.2.length 3 q.2.length true,q.2)=q:=by rw[<-eq1]
    refine hmore j a' w2 ρ' s'.h s'.c d' _ hjn hjl ⟨zBD hA' fun i x hi=> ?_,hKp _ _ _ _ _ _ _ _ I1 (by show Mp<c;omega) hlw,ht.trans t3,?_,fun p hp=> ?_,?_,hZ',⟨hl.1,by omega⟩,?_,fun i hi=> ?_,?_⟩
    . rw[TG]at hi;split at hi
      . rename_i h5';subst h5';cases hi;exact h5
      . cases hi
    . rw[hfr Mp (by omega) fun e=>by have:=hoid _ e;omega];exact hJ.m
    . obtain⟨i1,r1,f1,f2,f3,f4⟩ :=hJ.e p hp;exact⟨i1,r1,f1,by rw[hfr i1 (by omega) fun e=>by have:=hoid _ e;omega];exact f2,f3,f4⟩
    . rw[List.filterMap_append,show[j].filterMap (E[·]?)=[q] by simp[hq]];rw[hqe]at hG';exact hG'
    . rw[Z90];exact⟨hJ.n,by simp,fun x hx y hy e=>by simp only[Z31]at hy;subst hy;subst e;exact hjn hx⟩
    . rcases Z4.1 hi with hi|hi
      . exact hJ.b i hi
      . simp only[Z31]at hi;omega
    . rw[Array.toList_push,hJ.s,List.filterMap_append];simp[hja]
theorem zr7{α:Type}:∀(E:List α),(List.range E.length).filterMap (E[·]?)=E
 |[]=>rfl
 |x::E=>by
  rw[Z23,List.range_succ_eq_map,List.filterMap_cons];simp only[List.getElem?_cons_zero,List.filterMap_map,Z67,List.getElem?_cons_succ];rw[zr7 E]
def zFO{n:Nat}{l:List Nat}(h1:l.Nodup)(h2:∀j∈l,j<n)(h3:∀j,j<n->j∈l):l.Perm (List.range n):=
 (List.perm_ext_iff_of_nodup h1 List.nodup_range).2 fun a=>⟨fun h=>Z174.2 (h2 a h),fun h=>h3 a (Z174.1 h)⟩
def EvEnd(amb:Mu)(w0:World)(E:List Er)(Mp lo:Nat)(a:Act)(w:World):Prop:=∃ρ h c d R,AtS amb w0 29 (CS (T.e.set 5 d) h c) ρ a w/\Gro h lo c 1 d (rE R)/\GZ h d/\R.Perm E/\(∀p∈E,zs8 h Mp lo p.1 p.2)/\lo<=c
def LJ.rows{amb:Mu}{w0 w:World}{key:List Int->Str}{E:List Er}{Mp lo c r bm cl:Nat}{idx:List Nat}{a:Act}{ρ:Nat->Option Nat}{h:T Ob}{d:D}{es:Array MapEntry}{seen:Array Nat}(hJ:LJ amb w0 key E Mp lo idx a w ρ h c d r bm es cl seen):∀p∈E,zs8 h Mp lo p.1 p.2:=hJ.e
theorem zw5{amb:Mu}{w0:World}{key:List Int->Str}{E:List Er}{Mp lo:Nat}(hE:E.length<=12){Q:Exit->Act->World->Prop}(hQ:∀a w,EvEnd amb w0 E Mp lo a w->Q (.exit 0) a w):
  ∀(k:Nat) (idx:List Nat) (a:Act) (w:World) (ρ:Nat->Option Nat) (h:T Ob) (c:Nat) (d:D) (r bm:Nat) (es:Array MapEntry) (cl:Nat) (seen:Array Nat),LJ amb w0 key E Mp lo idx a w ρ h c d r bm es cl seen->E.length<=idx.length+k->Code.rounds Tryz.prog evL Q (k+1) a w
 |k,idx,a,w,ρ,h,c,d,r,bm,es,cl,seen,hJ,hk=>by
  rw[rounds_succ];refine zEU hJ hE (fun hall a' w' hA=> ?_) fun j a' w' ρ' h' c' d' seen' hj hjl hJ'=> ?_
  .show Q (.exit 0) a' w';refine hQ a' w' ⟨ρ,h,c,d,_,hA,hJ.g,hJ.z,?_,hJ.e,hJ.l.2⟩;have:=(zFO hJ.n hJ.b hall).filterMap (E[·]?)
   rwa[zr7]at this
  .show Code.rounds Tryz.prog evL Q k a' w';cases k with
   |zero=>
    have h1:=zmE _ _ hJ'.n hJ'.b;simp at h1;omega
   |succ k=>exact zw5 hE hQ k _ a' w' ρ' h' c' d' r bm es cl seen' hJ' (by simp;omega)
def o4(i:Nat):Oper:=(opsOf evR).getD i default
def ev4:∃id,evR= .region id (opsOf evR) true:=⟨4,by kernel_rfl⟩
def o4_n:(opsOf evR).size=6:=by kernel_rfl
def fol:Tryz.prog.follows .mixedOrders=true:=by kernel_rfl
def rdA:Region.ready .any (opsOf evR) #[false,false,false,false,false,false]=[0,2]:=by kernel_rfl
def rdB:Region.ready .any (opsOf evR) #[true,false,false,false,false,false]=[1,2]:=by kernel_rfl
def rdC:Region.ready .any (opsOf evR) #[false,false,true,false,false,false]=[0]:=by kernel_rfl
def rdD:Region.ready .any (opsOf evR) #[true,true,false,false,false,false]=[2]:=by kernel_rfl
def rdE:Region.ready .any (opsOf evR) #[true,false,true,false,false,false]=[1]:=by kernel_rfl
def rdF:Region.ready .any (opsOf evR) #[true,true,true,false,false,false]=[3]:=by kernel_rfl
def rdG:Region.ready .any (opsOf evR) #[true,true,true,true,false,false]=[4]:=by kernel_rfl
def rdH:Region.ready .any (opsOf evR) #[true,true,true,true,true,false]=[5]:=by kernel_rfl
def rdI:Region.ready .any (opsOf evR) #[true,true,true,true,true,true]=[]:=by kernel_rfl
def cE0:(opsOf evR)[0]? =some (o4 0)/\zbN Tryz.prog pur 29 (opsOf evR) (o4 0)=some ⟨some 12,none,.mv (.t 0)⟩ :=⟨by kernel_rfl,by kernel_rfl⟩
def cE1:(opsOf evR)[1]? =some (o4 1)/\zbN Tryz.prog pur 29 (opsOf evR) (o4 1)=some ⟨some 13,none,.call 34 [.t 12]⟩ :=⟨by kernel_rfl,by kernel_rfl⟩
def cE2:(opsOf evR)[2]? =some (o4 2)/\zbN Tryz.prog pur 29 (opsOf evR) (o4 2)=some ⟨some 14,none,.ld true 2 (.t 3)⟩ :=⟨by kernel_rfl,by kernel_rfl⟩
def cE3:(opsOf evR)[3]? =some (o4 3)/\zbN Tryz.prog pur 29 (opsOf evR) (o4 3)=some ⟨some 15,none,.call 33 [.t 13,.t 14]⟩ :=⟨by kernel_rfl,by kernel_rfl⟩
def cE4:(opsOf evR)[4]? =some (o4 4)/\zbN Tryz.prog pur 29 (opsOf evR) (o4 4)=some ⟨some 16,none,.call 35 [.t 15]⟩ :=⟨by kernel_rfl,by kernel_rfl⟩
def isMp:Option TypeDesc->Bool
 |some (.map _ _)=>true
 |_=>false
def zKr{x:Option TypeDesc}(h:isMp x=true):∃k e,x=some (.map k e):=by
 unfold isMp at h;split at h
 .exact⟨_,_,rfl⟩
 .cases h
def cE5:(opsOf evR)[5]? =some (o4 5)/\(∃t,(o4 5).op= .range t (.tmp 16)/\∃k e,Tryz.prog.underlying t=some (.map k e))/\(o4 5).guard=none/\(o4 5).dst=some 17:=⟨by kernel_rfl,⟨77,by kernel_rfl,zKr (by kernel_rfl)⟩,by kernel_rfl,by kernel_rfl⟩
def zfL{P:Program}{ops:Array Oper}{Q:Exit->Act->World->Prop}{n:Nat}{listed:Array Bool}{a:Act}{w:World}{l:List Nat}(hr:Region.ready .any ops listed=l)(hne:l≠[])(h:∀i∈l,wpOp P ops Q i (wpAny P .any ops Q n (listed.setIfInBounds i true)) a w):wpAny P .any ops Q (n+1) listed a w:=
 ⟨fun e=>absurd (hr▸e) hne,fun i hi=>h i (hr▸hi)⟩
structure Kr(L:List Rl)(hd:List Str)(qs:List (List Str×CQ))(x y z:Bool)(s:St):Prop where
 r:Rg [(0,.f (zbS L)),(3,.ptr 0 2 0 0),(5,.f .nils)] s
 h:s.h.get 0=some (.arr 2 0 [[.f (zah hd),.f (qsF (qs.map (·.2)))]])
 c:0<s.c
 x:x=true->s.tm.get 12=some (.f (zbS L))
 y:y=true->∃S,s.tm.get 13=some (.ptr S 2 0 0)/\zdx s.h s.c S L
 z:z=true->s.tm.get 14=some (.ag ((qyF hd qs).map D.f))
def kr_x{L:List Rl}{hd:List Str}{qs:List (List Str×CQ)}{z:Bool}{s:St}(H:Kr L hd qs false false z s):wpO pr [⟨some 12,none,.mv (.t 0)⟩] s (Kr L hd qs true false z):=by
 obtain⟨⟨k0,k3,k5,-⟩,g,hc,-,-,hz⟩ :=H;simp[rW,k0];exact⟨by simp only[Rg];simp[rW,k0,k3,k5],by simp only[rG];exact g,by simp only[rG];exact hc,(fun _=>by simp[rW]),(fun h=>by cases h),fun h=>by simp[rW];exact hz h⟩
def kr_z{L:List Rl}{hd:List Str}{qs:List (List Str×CQ)}{x y:Bool}{s:St}(H:Kr L hd qs x y false s):wpO pr [⟨some 14,none,.ld true 2 (.t 3)⟩] s (Kr L hd qs x y true):=by
 obtain⟨⟨k0,k3,k5,-⟩,g,hc,hx,hy,-⟩ :=H;simp[rW,k3,g];refine⟨by simp only[Rg];simp[rW,k0,k3,k5],by simp only[rG];exact g,by simp only[rG];exact hc,(fun h=>by simp[rW];exact hx h),fun h=> ?_,fun h=>by simp[rW];rfl⟩;obtain⟨S,h1,h2⟩ :=hy h;exact⟨S,by simp[rW,h1],by simp only[rG];exact h2⟩
def kr_y{L:List Rl}{hd:List Str}{qs:List (List Str×CQ)}{z:Bool}{s:St}(hLR:LR L)(H:Kr L hd qs true false z s):wpO pr [⟨some 13,none,.call 34 [.t 12]⟩] s (Kr L hd qs true true z):=by
 obtain⟨⟨k0,k3,k5,-⟩,g,hc,hx,-,hz⟩ :=H;have k12:=hx rfl;cases z with
 |false=>
  simp[rW,k12];refine zbO [(0,.f (zbS L)),(3,.ptr 0 2 0 0),(5,.f .nils),(12,.f (zbS L))] (zHw hLR (h0:=s.h) (c0:=s.c)) rfl rfl (by simp only[Rg];simp[rW,k0,k3,k5,k12]) rfl ?_;rintro s2 d2 ⟨rfl,W,HSR⟩ hc2 j13 ⟨j0,j3,j5,j12,-⟩;refine⟨?_⟩;simp[rW];exact⟨by simp only[Rg];simp[rW,j0,j3,j5],by rw[HSR.f 0 hc];exact g,by omega,fun _=>j12,fun _=>⟨_,j13,(zDS HSR).lo (Z2 _)⟩,(fun h=>by cases h)⟩
 |true=>
  have k14:=hz rfl;simp[rW,k12];refine zbO [(0,.f (zbS L)),(3,.ptr 0 2 0 0),(5,.f .nils),(12,.f (zbS L)),(14,.ag ((qyF hd qs).map D.f))] (zHw hLR (h0:=s.h) (c0:=s.c)) rfl rfl (by simp only[Rg];simp[rW,k0,k3,k5,k12,k14]) rfl ?_;rintro s2 d2 ⟨rfl,W,HSR⟩ hc2 j13 ⟨j0,j3,j5,j12,j14,-⟩;refine⟨?_⟩;simp[rW];exact⟨by simp only[Rg];simp[rW,j0,j3,j5],by rw[HSR.f 0 hc];exact g,by omega,fun _=>j12,fun _=>⟨_,j13,(zDS HSR).lo (Z2 _)⟩,fun _=>j14⟩
def Ku(L:List Rl)(hd:List Str)(qs:List (List Str×CQ))(s:St):Prop:=s.tm.get 5=some (.f .nils)/\∃S c1 U Z dd dh,s.tm.get 15=some (.ptr U 2 0 0)/\UnA L S c1 U hd qs s.h s.c Z dd dh
def kr_u{L:List Rl}{hd:List Str}{qs:List (List Str×CQ)}{s:St}(HL:zjZ L)(HQ:zyT L hd qs)(H:Kr L hd qs true true true s):wpO pr [⟨some 15,none,.call 33 [.t 13,.t 14]⟩] s (Ku L hd qs):=by
 obtain⟨⟨k0,k3,k5,-⟩,g,hc,-,hy,hz⟩ :=H;obtain⟨S,k13,hS⟩ :=hy rfl;have k14:=hz rfl;simp[rW,k13,k14];refine zbO [(5,.f .nils)] (eff33 (S:=S) (c1:=s.c) (h:=s.h) (c0:=s.c) HL HQ hS (Z2 _)) rfl rfl (by simp only[Rg];simp[rW,k5]) rfl ?_;rintro s3 d3 ⟨U,_,rfl,⟨Z,dd,dh,HA⟩,hf3⟩ hc3 i15 ⟨i5,-⟩;refine⟨?_⟩;simp[rW];exact⟨i5,S,_,U,Z,dd,dh,i15,HA⟩
def Km(L:List Rl)(Vz:Int->Prop)(key:List Int->Str)(hd:List Str)(qs:List (List Str×CQ))(s:St):Prop:=s.tm.get 5=some (.f .nils)/\∃Mp E,s.tm.get 16=some (.mp Mp)/\FmA (Vr Vz hd.length) key Mp E s.h s.c/\AnK L hd qs qs.length E
def kr_m{L:List Rl}{Vz:Int->Prop}{key:List Int->Str}{hd:List Str}{qs:List (List Str×CQ)}{s:St}(hK:zi0 (Vr Vz hd.length) key)(HQ:znS L Vz hd qs)(H:Ku L hd qs s):wpO pr [⟨some 16,none,.call 35 [.t 15]⟩] s (Km L Vz key hd qs):=by
 obtain⟨k5,S,c1,U,Z,dd,dh,k15,HA⟩ :=H;simp[rW,k15];refine zbO [(5,.f .nils)] (eff35 hK HQ HA) rfl rfl (by simp only[Rg];simp[rW,k5]) rfl ?_;rintro s3 d3 ⟨Mp,E,rfl,h1,h2⟩ hc3 i16 ⟨i5,-⟩;refine⟨?_⟩;simp[rW];exact⟨i5,Mp,E,i16,h1,h2⟩
theorem zNv{L:List Rl}{Vz:Int->Prop}{key:List Int->Str}{hd:List Str}{qs:List (List Str×CQ)}(hLR:LR L)(HL:zjZ L)(hK:zi0 (Vr Vz hd.length) key)(HQ:znS L Vz hd qs){amb:Mu}{w0 w:World}{s:St}{ρ:Nat->Option Nat}{a:Act}(hA:AtS amb w0 29 s ρ a w)(H:Kr L hd qs false false false s){Q:Exit->Act->World->Prop}
  (hQ:∀a w ρ h c r bm es cl Mp E,LJ amb w0 key E Mp c [] a w ρ h c (.f .nils) r bm es cl #[]->(E.map (·.2)).Nodup->AnK L hd qs qs.length E->Q .normal a w):evR.wp Tryz.prog Q a w:=by
 obtain⟨id4,e4⟩ :=ev4;rw[e4];refine wp_region_any fol ?_;rw[o4_n];have tail:∀s ρ a w,AtS amb w0 29 s ρ a w->Kr L hd qs true true true s->wpAny Tryz.prog .any (opsOf evR) Q 3 #[true,true,true,false,false,false] a w:=fun s ρ a w hA H=>by
  refine zfL (n:=2) rdF (by simp) fun i hi=> ?_
  simp only[Z31]at hi;subst hi;refine zoX zhL cE3.2 cE3.1 hA (kr_u HL HQ.v.u H) fun s1 ρ1 a1 w1 H1 A1=> ?_
  refine zfL (n:=1) rdG (by simp) fun i hi=> ?_
  simp only[Z31]at hi;subst hi;refine zoX zhL cE4.2 cE4.1 A1 (kr_m hK HQ H1) fun s2 ρ2 a2 w2 H2 A2=> ?_
  refine zfL (n:=0) rdH (by simp) fun i hi=> ?_
  simp only[Z31]at hi;subst hi;obtain⟨k5,Mp,E,k16,HF,hAn⟩ :=H2;obtain⟨v,hv,hr⟩ :=A2.ss.tmr 16 _ k16;have A3:=zBD A2 (t:=T.e.set 5 (.f .nils)) fun i x hi=>by
   rw[TG]at hi;split at hi
   .rename_i h5;subst h5;cases hi;exact k5
   .cases hi
  obtain⟨ho,⟨t,hop,k,e,hu⟩,hg,hdst⟩ :=cE5;obtain⟨bm,es,cl,w3,hrun,A4,I4,-,-⟩ :=zAM A3 (show(CS _ s2.h s2.c).h.get Mp=_ from HF.m) hr hu;refine zik ho hg (zzz hop (by rw[zhn hv];exact hrun)) ?_;rw[hdst];refine⟨rdI,hQ _ w3 ρ2 s2.h s2.c _ bm es cl Mp E ⟨A4.free (zjs (by omega)) _,I4,zgE (by have:=A4.ss.nt;omega),HF.m,fun p hp=>(HF.e p hp).1,Gro.nil,(fun id es ro els e _=>by simp[D.oid]at e),⟨HF.b,Z2 _⟩,List.nodup_nil,(fun j hj=>by cases hj),rfl⟩ HF.n hAn⟩
 have stX:∀z s ρ a w K,AtS amb w0 29 s ρ a w->Kr L hd qs false false z s->(∀s ρ a w,AtS amb w0 29 s ρ a w->Kr L hd qs true false z s->K a w)->wpOp Tryz.prog (opsOf evR) Q 0 K a w:=fun z s ρ a w K hA H hK=>zoX zhL cE0.2 cE0.1 hA (kr_x H) fun s1 ρ1 a1 w1 H1 A1=>hK s1 ρ1 a1 w1 A1 H1
 have stY:∀z s ρ a w K,AtS amb w0 29 s ρ a w->Kr L hd qs true false z s->(∀s ρ a w,AtS amb w0 29 s ρ a w->Kr L hd qs true true z s->K a w)->wpOp Tryz.prog (opsOf evR) Q 1 K a w:=fun z s ρ a w K hA H hK=>zoX zhL cE1.2 cE1.1 hA (kr_y hLR H) fun s1 ρ1 a1 w1 H1 A1=>hK s1 ρ1 a1 w1 A1 H1
 have stZ:∀x y s ρ a w K,AtS amb w0 29 s ρ a w->Kr L hd qs x y false s->(∀s ρ a w,AtS amb w0 29 s ρ a w->Kr L hd qs x y true s->K a w)->wpOp Tryz.prog (opsOf evR) Q 2 K a w:=fun x y s ρ a w K hA H hK=>zoX zhL cE2.2 cE2.1 hA (kr_z H) fun s1 ρ1 a1 w1 H1 A1=>hK s1 ρ1 a1 w1 A1 H1
 have midE:∀s ρ a w,AtS amb w0 29 s ρ a w->Kr L hd qs true false true s->wpAny Tryz.prog .any (opsOf evR) Q 4 #[true,false,true,false,false,false] a w:=fun s ρ a w hA H=>by
  refine zfL (n:=3) rdE (by simp) fun i hi=> ?_
  simp only[Z31]at hi;subst hi;exact stY _ s ρ a w _ hA H fun s ρ a w hA H=>tail s ρ a w hA H
 refine zfL (n:=5) rdA (by simp) fun i hi=> ?_
 simp only[Z5,Z164,or_false]at hi;rcases hi with rfl|rfl
 .refine stX _ s ρ a _ _ hA.drew H fun s ρ a w hA H=> ?_
  refine zfL (n:=4) rdB (by simp) fun i hi=> ?_
  simp only[Z5,Z164,or_false]at hi;rcases hi with rfl|rfl
  .refine stY _ s ρ a w _ hA H fun s ρ a w hA H=> ?_
   refine zfL (n:=3) rdD (by simp) fun i hi=> ?_
   simp only[Z31]at hi;subst hi;exact stZ _ _ s ρ a w _ hA H fun s ρ a w hA H=>tail s ρ a w hA H
  .exact stZ _ _ s ρ a w _ hA H fun s ρ a w hA H=>midE s ρ a w hA H
 .refine stZ _ _ s ρ a _ _ hA.drew H fun s ρ a w hA H=> ?_
  refine zfL (n:=4) rdC (by simp) fun i hi=> ?_
  simp only[Z31]at hi;subst hi;exact stX _ s ρ a w _ hA H fun s ρ a w hA H=>midE s ρ a w hA H
theorem zCQ{α:Type}[DecidableEq α]:∀(l B:List α),l.Nodup->(∀v∈l,v∈B)->l.length<=B.length
 |[],_,_,_=>Z61 _
 |x::l,B,h,hs=>by
  obtain⟨h1,h2⟩ :=Z74.1 h;have hx:=hs x (by simp);have:=zCQ l (B.erase x) h2 fun v hv=>(List.mem_erase_of_ne (fun e:v=x=>h1 (e▸hv))).2 (hs v (by simp[hv]))
  rw[List.length_erase_of_mem hx]at this;have:=List.length_pos_of_mem hx;simp only[Z23];omega
def K1(L:List Rl)(hd:List Str)(qs:List (List Str×CQ))(x:Ex)(s:St):Prop:=x= .nrm/\Rg [(0,.f (zbS L)),(3,.ptr 0 2 0 0)] s/\s.h.get 0=some (.arr 2 0 [[.f (zah hd),.f (qsF (qs.map (·.2)))]])/\0<s.c
def walk0(L:List Rl)(hd:List Str)(qs:List (List Str×CQ)):wpC pr g11.body.l (st0 (F.dL [zbS L,.ag (qyF hd qs)]) .e 0) (K1 L hd qs):=by
  have hsd:(zah hd).d= .f (zah hd):=za4 hd;have hqd:(qsF (qs.map (·.2))).d= .f (qsF (qs.map (·.2))):=zd5 _;have e:F.dL [zbS L,.ag (qyF hd qs)]=[.f (zbS L),.ag [.f (zah hd),.f (qsF (qs.map (·.2)))]]:=by
    simp only[F.dL,F.d,zlH,qyF,hsd,hqd]
  rw[e];unfold g11;simp only[rU,C.l,C.r,C.b,C.o];simp[rW,st0,zal];refine⟨rfl,by simp only[Rg];simp[rW],by simp[rW],by simp only[rG];omega⟩
def walk1{L:List Rl}{hd:List Str}{qs:List (List Str×CQ)}(hval:Ans pr 32 [zbS L,.ag (qyF hd qs)] (.b true)){s:St}(H:K1 L hd qs .nrm s):wpC pr g11.body.r.l s (K1 L hd qs):=by
  obtain⟨-,⟨k0,k3,-⟩,g,hc⟩ :=H;have hsd:(zah hd).d= .f (zah hd):=za4 hd;have hqd:(qsF (qs.map (·.2))).d= .f (qsF (qs.map (·.2))):=zd5 _;have ec:qyF hd qs=[zah hd,qsF (qs.map (·.2))]:=rfl;rw[ec]at hval;have q1:=fun k=>zad (k:=k) hval
  unfold g11;simp only[rU,C.l,C.r,C.b,C.o];simp[rW,k0,k3,g,q1];exact⟨rfl,by simp only[Rg];simp[rW,k0,k3],by simp only[rG];exact g,by simp only[rG];exact hc⟩
def walk2{L:List Rl}{hd:List Str}{qs:List (List Str×CQ)}{s:St}(H:K1 L hd qs .nrm s):wpC pr g11.body.r.r.l s (fun x s=>x= .nrm/\Kr L hd qs false false false s):=by
 obtain⟨-,⟨k0,k3,-⟩,g,hc⟩ :=H;unfold g11;simp only[rU,C.l,C.r,C.b,C.o];simp[rW];exact⟨by simp only[Rg];simp[rW,k0,k3],by simp only[rG];exact g,by simp only[rG];exact hc,(fun h=>by cases h),(fun h=>by cases h),(fun h=>by cases h)⟩
theorem walk4{E R0:List Er}{R:List (List Int)}{Mp lo c:Nat}{h:T Ob}{d:D}(hG:Gro h lo c 1 d (rE R0))(hZ:GZ h d)(hp:R0.Perm E)(hE:∀p∈E,zs8 h Mp lo p.1 p.2)(hn:(E.map (·.2)).Nodup)(hl:E.length<=12)(hv:∀p∈E,p.2.length<1000)(hlo:lo<=c)(hS:zlZ R)(hR:∀v,v∈R↔v∈E.map (·.2)):
    wpC pr g11.body.r.r.r.r (CS (T.e.set 5 d) h c) fun x s=>x= .ret/\∃d' rd,resD s [.t 4]=some d'/\frz s.h.get 12 d'=some (zfW R,rd):=by
  have hlen:=hp.length_eq;have hrow:∀p∈R0,zgb h c p.1 p.2/\p.2.length<1000:=fun p hm=>by
    have hm2:=hp.mem_iff.1 hm;obtain⟨id,ro,e,h1,h2,h3⟩ :=hE p hm2;exact⟨⟨id,ro,true,e,h1,by omega⟩,hv p hm2⟩
  obtain⟨s1,s2⟩ :=insE R0 (by omega);have hRR:(Go.Sort.insertionSort ltE R0.toArray 0 R0.length).toList.map (·.2)=R:=by
    have hnd:((Go.Sort.insertionSort ltE R0.toArray 0 R0.length).toList.map (·.2)).Nodup:=((s1.trans hp).map (·.2)).nodup_iff.2 hn;refine zyk (zL2 s2 hnd) hS fun v=> ?_
    rw[hR];exact ((s1.trans hp).map (·.2)).mem_iff
  unfold g11;simp only[rU,C.l,C.r,C.b,C.o];unfold CS;rcases hG with⟨rfl,he⟩ |⟨id,ro,rfl,g1,g2,g3,g4⟩
  . have hR0:R0=[]:=by simpa [rE]using he
    subst hR0;have hRn:R=[]:=by rw[<-hRR];simpa using s1
    subst hRn;simp[rW];refine zbO [(5,.f .nils)] (zNq (h:=h) (c:=c)) rfl rfl (by simp only[Rg];simp[rW]) rfl ?_;rintro s3 d3 hf hc3 - ⟨k5,-⟩;refine⟨?_⟩;simp[rW,k5];rfl
  . have hro:ro=0:=hZ id 1 ro _ rfl g2;subst hro;have hl1:(rE R0).length=R0.length:=by simp[rE]
    rw[hl1];simp[rW];refine zbO [(5,.sl id 0 R0.length 1 R0.length false)] (eff36 (h:=h) (c:=c) (d:=R0.toArray) (n:=R0.length) (ex:=false) (by simpa using g2) (by simp) (by simpa using hrow) (by omega) (by omega)) rfl rfl (by simp only[Rg];simp[rW]) rfl ?_;rintro s3 d3 HS hc3 - ⟨k5,-⟩;refine⟨?_⟩;simp[rW,k5];have hD:(Go.Sort.insertionSort ltE R0.toArray 0 R0.length).toList.length=R0.length:=s1.length_eq;have hne:R≠[]:=fun e=>by
      have h1:=congrArg List.length hRR;rw[e]at h1;simp only[Z18,Z170]at h1;exact g1 (Z17.1 (by omega))
    have hRl:R.length=R0.length:=by rw[<-hRR,Z18,hD]
    have hat:zGJ s3.h s3.c (.sl id 0 R0.length 1 R0.length false) R:=by
      refine .inr ⟨id,false,_,by rw[hRl],HS.row,hRR,hne,fun p hm=> ?_⟩;obtain⟨⟨i,ro,ex,e,h1,h2⟩,h3⟩ :=HS.el p hm;refine⟨i,ro,ex,e,?_,by have:=HS.le;omega⟩;rw[HS.fr i h2 fun e=>by rw[e,g2]at h1;simp at h1];exact h1
    obtain⟨rd,hz⟩ :=zLP hat 9;have hz2:frz s3.h.get (11+1) (.sl id 0 R0.length 1 R0.length false)=some (zfW R,rd):=hz;rw[zfm]at hz2;exact⟨rd,hz2⟩
def ev_rs:zas (zhz Tryz.prog) Tryz.f11.results.toList=some [.t 4]:=by kernel_rfl
def zio(L:List Rl)(hd:List Str)(qs:List (List Str×CQ))(v:List Int):Prop:=∃q∈qs,∃w,zkz L q.1 q.2 w/\v=hvl q.1 hd w
theorem zJQ{L:List Rl}{Vz:Int->Prop}{key:List Int->Str}{hd:List Str}{qs:List (List Str×CQ)}{R B:List (List Int)}(hLR:LR L)(HL:zjZ L)(hK:zi0 (Vr Vz hd.length) key)(HQ:znS L Vz hd qs)(hval:Ans pr 32 [zbS L,.ag (qyF hd qs)] (.b true))(hS:zlZ R)(hR:∀v,v∈R↔zio L hd qs v)(hB:∀v,zio L hd qs v->v∈B)(hBl:B.length<=12):
  zgx Tryz.prog 11 (F.dL [zbS L,.ag (qyF hd qs)]) .e 0 ⟨.f (zfW R),.e,0,0,0⟩ :=by
 refine zBQ Tryz.func11 (by decide) zNr ev_rs (show 2<=29 by decide) fun amb w0 a hA=> ?_
 rw[zNs];refine wp_seq (zo1 zhL ck0 hA (walk0 L hd qs) fun x s ρ a w hK1 hA _=> ?_);obtain⟨rfl,hK1⟩ :=hK1;refine wp_seq (zo1 zhL ck1 hA (walk1 hval ⟨rfl,hK1⟩) fun x s ρ a w hK1 hA _=> ?_);obtain⟨rfl,hK1⟩ :=hK1;refine wp_seq (zo1 zhL ck2 hA (walk2 ⟨rfl,hK1⟩) fun x s ρ a w hK2 hA _=> ?_);obtain⟨rfl,hK2⟩ :=hK2;refine wp_seq (wp_seq (zNv hLR HL hK HQ hA hK2 fun a w ρ h c r bm es cl Mp E hJ hn hAn=> ?_));have hAv:∀v,v∈E.map (·.2)↔zio L hd qs v:=fun v=>(hAn v).trans ⟨fun⟨i,q,_,h2,h3⟩ =>⟨q,Z39 h2,h3⟩,fun⟨q,h2,h3⟩ =>by
  obtain⟨i,hi⟩ :=List.mem_iff_getElem?.1 h2;exact⟨i,q,(Z8.1 hi).1,hi,h3⟩⟩
 have hEl:E.length<=12:=by
  have:=zCQ _ B hn fun v hv=>hB v ((hAv v).1 hv)
  simp only[Z18]at this;omega
 have hhl:=HQ.v.u.hl;refine wp_block (wp_loop_rounds (E.length+1) (zw5 hEl (fun a w hE=> ?_) E.length [] a w ρ h c _ r bm es cl _ hJ (by simp)));obtain⟨ρ,h,c,d,R0,hA,hG,hZ,hp,hE,hlo⟩ :=hE;refine zo1 zhL ck4 hA (walk4 hG hZ hp hE hn hEl (fun p hp=> ?_) hlo hS fun v=>(hR v).trans (hAv v).symm) fun x s ρ a w hK4 hA _=> ?_
 .obtain⟨q,_,w,_,e⟩ :=(hAv p.2).1 (List.mem_map_of_mem hp);rw[e];simp only[hvl,Z18];exact hhl
 .obtain⟨rfl,d',rd,h1,h2⟩ :=hK4;exact⟨.inr rfl,s,ρ,d',rd,hA,h1,h2⟩
theorem zjL:∀(L:List Rl) (s:Str) (w:List Int),hasB L (riN L s) w=true↔w∈zrj (zjh L) s
 |[],s,w=>by simp[hasB,zrj,zjh]
 |r::L,s,w=>by
  by_cases h:r.nm=s
  .have e:riN (r::L) s=0:=by simp[riN,List.findIdx_cons,h]
   rw[e];simp only[hasB,List.getElem?_cons_zero,zjh,Z10,zrj,Z51 h];rw[Z30,Z12];constructor
   .rintro⟨t,ht,e⟩;exact⟨t,ht,by simpa using e⟩
   .rintro⟨t,ht,e⟩;exact⟨t,ht,by simpa using e⟩
  .have hb:(r.nm==s)=false:=by simpa using h
   have e:riN (r::L) s=riN L s+1:=by simp only[riN,List.findIdx_cons,hb,cond_false]
   rw[e];have ih:=zjL L s w;simp only[hasB,List.getElem?_cons_succ,zjh,Z10,zrj,Z49 h]at ih|-;exact ih
def zMb{ns:List Str}{v:List Int}{σ:Str->Int}(h:∀s∈ns,σ s=zfX ns v (.var s)){t:Trm}(ht:ziq ns t):teS σ t=zfX ns v t:=by
 cases t with
 |cst n=>rfl
 |var s=>exact h s ht.2
def zvY{ns:List Str}{v:List Int}{σ:Str->Int}(h:∀s∈ns,σ s=zfX ns v (.var s)){ts:List Trm}(ht:∀t∈ts,ziq ns t):ts.map (teS σ)=ts.map (zfX ns v):=Z68 fun t hm=>zMb h (ht t hm)
def zGy{ns:List Str}(hn:ns.Nodup){v:List Int}{i:Nat}(hi:i<ns.length):zfX ns v (.var ns[i])=v.getD i 0:=by
 simp only[zfX];rw[zhq hn hi]
def zs9(c:CQ):Prop:=c.cs=[]/\∀a∈c.as,a.neg=false
def zxW{L:List Rl}{ns:List Str}{c:CQ}(hC:zlX L ns c)(hP:zs9 c){v:List Int}{σ:Str->Int}(hl:v.length=ns.length)(h:∀s∈ns,σ s=zfX ns v (.var s)):zkz L ns c v↔zix L c σ:=by
 constructor
 .intro H a ha;have:=H.a a ha;rw[hP.2 a ha,Bool.not_false,zjL]at this;rw[zvY h (hC.t a ha)];exact this
 .intro H;refine⟨hl,fun a ha=> ?_,fun k hk=> ?_⟩
  .have:=H a ha;rw[zvY h (hC.t a ha),<-zjL]at this;rw[this,hP.2 a ha];rfl
  .rw[hP.1]at hk;cases hk
theorem zxz:∀u v,zaM u v<0->rlt u v=true
 |[],[],h=>by simp[zaM]at h
 |[],_::_,_=>rfl
 |_::_,[],h=>by simp[zaM]at h
 |a::u,b::v,h=>by
  simp only[zaM]at h;simp only[rlt,Z115,Z86,Z14];unfold zaT at h
  by_cases h1:a=b
  .subst h1;simp only[Z60,ne_eq,not_true_eq_false,Z63]at h;exact .inr ⟨rfl,zxz u v h⟩
  .rw[Z49 h1]at h
   by_cases h2:a<b
   .exact .inl h2
   .rw[Z49 h2]at h;simp at h
def zwy{L:List Rl}{hd:List Str}{qs:List (List Str×CQ)}(hC:∀q∈qs,zlX L q.1 q.2/\q.1.Nodup/\zs9 q.2)(hh:∀q∈qs,∀s∈hd,s∈q.1)(v:List Int):zio L hd qs v↔∃c∈qs.map (·.2),∃σ,zix L c σ/\v=hd.map σ:=by
 constructor
 .rintro⟨q,hq,w,hw,rfl⟩;obtain⟨h1,h2,h3⟩ :=hC q hq;exact⟨q.2,List.mem_map_of_mem hq,fun s=>zfX q.1 w (.var s),(zxW h1 h3 hw.l fun _ _=>rfl).1 hw,rfl⟩
 .rintro⟨c,hc,σ,hs,rfl⟩;obtain⟨q,hq,rfl⟩ :=Z12.1 hc;obtain⟨h1,h2,h3⟩ :=hC q hq;have key:∀s∈q.1,σ s=zfX q.1 (q.1.map σ) (.var s):=fun s hs=>by
   obtain⟨i,hi,rfl⟩ :=Z101.1 hs;rw[zGy h2 hi];simp[List.getD,hi]
  exact⟨q,hq,q.1.map σ,(zxW h1 h3 (by simp) key).2 hs,Z68 fun s hs'=>key s (hh q hq s hs')⟩
def dL_ag{a b a' b' c d:F}(h:F.dL [a,.ag [b,c]]=F.dL [a',.ag [b',d]])(ha:a.d= .f a)(ha':a'.d= .f a')(hb:b.d= .f b)(hb':b'.d= .f b')(hc:c.d= .f c)(hd:d.d= .f d):a=a'/\b=b'/\c=d:=by
 simp only[F.dL,F.d,ha,ha',hb,hb',hc,hd,List.cons.injEq,D.f.injEq,D.ag.injEq,and_true]at h;exact⟨h.1,h.2.1,h.2.2⟩
def zOo{args:List D}{h:T Ob}{n:Nat}(hx:∃q,zgx Tryz.prog 11 args h n q/\SpE args h n q):∃q,Con pr 11 args h n q/\SpE args h n q:=by
 have hx':∃q,zgx Tryz.prog 11 args h n q/\(11=11/\SpE args h n q):=by
  obtain⟨q,h1,h2⟩ :=hx;exact⟨q,h1,rfl,h2⟩
 refine⟨Classical.choose hx',⟨1,fun m hm=> ?_⟩,(Classical.choose_spec hx').2.2⟩;obtain⟨k,rfl⟩ :∃k,m=k+1:=⟨m - 1,by omega⟩
 have e1:pr.fn 11=none:=by kernel_rfl
 have e2:pr.ext 11 args=none:=by kernel_rfl
 have e3:pr.exq 11 args h n=some (Classical.choose hx'):=by
  show znZ 11 args h n=_;unfold znZ;rw[dif_pos hx']
 simp only[zbQ,e1,e2,e3]
theorem ans11{L:List Rl}{Vz:Int->Prop}{key:List Int->Str}{hd:List Str}{qs:List (List Str×CQ)}{R B:List (List Int)}(hLR:LR L)(HL:zjZ L)(hK:zi0 (Vr Vz hd.length) key)(HQ:znS L Vz hd qs)(hC:∀q∈qs,zlX L q.1 q.2/\q.1.Nodup/\zs9 q.2)(hval:Ans pr 32 [zbS L,.ag (qyF hd qs)] (.b true))(hS:zlZ R)(hR:∀v,v∈R↔zio L hd qs v)(hB:∀v,zio L hd qs v->v∈B)(hBl:B.length<=12):
  Ans pr 11 [zbS L,.ag (qyF hd qs)] (zfW R):=by
 have hcl:=zJQ hLR HL hK HQ hval hS hR hB hBl;have hAR:zyG L hd (qs.map (·.2)) R:=⟨hS.imp fun{u v} h=>zxz u v h,fun v=>(hR v).trans (zwy hC HQ.h v)⟩
 obtain⟨q,h1,L',hd',cs',R',e1,e2,-,-,rfl⟩ :=zOo ⟨_,hcl,L,hd,qs.map (·.2),R,rfl,hAR,rfl,rfl,rfl⟩;have hsd:∀l,(zah l).d= .f (zah l):=za4
 obtain⟨g1,g2,g3⟩ :=dL_ag (b:=zah hd) (c:=qsF (qs.map (·.2))) (b':=zah hd') (d:=slc 2 (cs'.map cqF)) e1 (zlH L) (zew ..) (hsd _) (hsd _) (zd5 _) (zew ..);have:=zJt g1 g2 g3 hAR e2;subst this;exact⟨_,[],h1,rfl⟩
def lkT:List (Str×Trm)->Str->Option Trm
 |[],_=>none
 |(a,t)::l,s=>if a=s then some t else lkT l s
def sb(h:List (Str×Trm)):Trm->Trm
 | .cst n=> .cst n
 | .var s=>(lkT h s).getD (.var s)
def un:List (Str×Trm)->List Trm->List Trm->Option (List (Str×Trm))
 |h,[],[]=>some h
 |h,.cst n::ts,u::us=>if u= .cst n then un h ts us else none
 |h,.var s::ts,u::us=>match lkT h s with
  |some t=>if t=u then un h ts us else none
  |none=>un ((s,u)::h) ts us
 |_,_,_=>none
def fh(d:List Atm):List Atm->List (Str×Trm)->Option (List (Str×Trm))
 |[],h=>some h
 |a::l,h=>d.findSome? fun b=>if b.r=a.r then(un h a.ts b.ts).bind (fh d l)else none
def zFa(b:Bool)(c d:CQ):Bool:=match fh d.as c.as ((hdC b).map fun s=>(s,.var s))with
 |none=>false
 |some h=>(c.as.all fun a=>d.as.any fun a'=>decide (a'.r=a.r)&&decide (a'.ts=a.ts.map (sb h)))&&(hdC b).all fun s=>decide (sb h (.var s)= .var s)
theorem homT:∀b,((ixL b).all fun i=>(ixL b).all fun j=>!exI b i j||zFa b (cqN i) (cqN j))=true
 |false=>by kernel_rfl
 |true=>by kernel_rfl
def zKp{b:Bool}{c d:CQ}(h:zFa b c d=true){L:List Rl}{τ:Str->Int}(hs:zix L d τ):∃σ,zix L c σ/\(hdC b).map σ=(hdC b).map τ:=by
 unfold zFa at h;split at h
 .cases h
 .rename_i h0 _;simp only[Z14,Z50,Z30,Z86]at h;refine⟨fun s=>teS τ (sb h0 (.var s)),fun a ha=> ?_,Z68 fun s hs=> ?_⟩
  .obtain⟨a',ha',h1,h2⟩ :=h.1 a ha;have:=hs a' ha';rw[h1,h2,Z33]at this;have e:a.ts.map (teS fun s=>teS τ (sb h0 (.var s)))=a.ts.map (teS τ ∘ sb h0):=Z68 fun t _=>by cases t<;>rfl
   rw[e];exact this
  .show teS τ (sb h0 (.var s))=τ s;rw[h.2 s hs];rfl
def zOp{b:Bool}{i j:Nat}(hi:i<nH b)(hj:j<nH b)(h:exI b i j=true){L:List Rl}{τ:Str->Int}(hs:zix L (cqN j) τ):∃σ,zix L (cqN i) σ/\(hdC b).map σ=(hdC b).map τ:=by
 have:=Z50.1 (Z50.1 (homT b) i (Z174.2 hi)) j (Z174.2 hj);rw[h,Z89,Bool.false_or]at this;exact zKp this hs
def zw0{b:Bool}{l m:List Nat}(hl:Q3 b l)(hm:Q3 b m)(h:zi6 b l m=true){L:List Rl}{v:List Int}(H:∃c∈cqs l,∃σ,zix L c σ/\v=(hdC b).map σ):∃c∈cqs m,∃σ,zix L c σ/\v=(hdC b).map σ:=by
 obtain⟨c,hc,τ,hs,rfl⟩ :=H;obtain⟨j,hj,rfl⟩ :=Z12.1 hc;obtain⟨i,hi,he⟩ :=Z30.1 (Z50.1 h j hj);obtain⟨σ,h1,h2⟩ :=zOp (hm.1 i hi) (hl.1 j hj) he hs;exact⟨cqN i,List.mem_map_of_mem hi,σ,h1,h2.symm⟩
def fn39:pr.fn 39=some g39:=by kernel_rfl
def fn40:pr.fn 40=some g40:=by kernel_rfl
def fn77:pr.fn 77=some g77:=by kernel_rfl
structure CqV(sch:F)(hd ns:List Str)(c:CQ):Prop where
 k:c.cs=[]
 al:c.as.length<=6
 nl:ns.length<=8
 vr:Ans pr 75 [.ag (cqF c)] (zah ns)
 nm:∀s∈ns,Ans pr 76 [.s s] (.b true)
 fd:∀a∈c.as,∃ce cols,Ans pr 73 [sch,.s a.r] (.tu [.ag [.s a.r,.b ce,slc 3 cols],.b true])/\cols.length=a.ts.length/\∀x∈cols,∃s b,x=[F.s s,.i .i64 1,.b b]
 ng:∀a∈c.as,a.neg=false
 ct:∀a∈c.as,∀n,Trm.cst n∈a.ts->Ans pr 136 [.ag (Sm.vF n)] (.b true)
 tl:∀a∈c.as,a.ts.length<=9
 bd:∀a∈c.as,∃l,l.length<=3/\Ans pr 75 [.ag [.sl 3 [atF a],.nils]] (zah l)/\∀s,Trm.var s∈a.ts->s∈l
 nb:∀s∈hd++ns,∃a∈c.as,Trm.var s∈a.ts
 cc:Ans pr 80 [.sl 1 [[zah hd],[zah ns]]] (zah (hd++ns))
 vn:∀a∈c.as,∀s,Trm.var s∈a.ts->s≠[]
structure QyV(sch:F)(hd:List Str)(l:List (List Str×CQ)):Prop where
 n:l.length<=5
 h:hd=[]\/hd=[[120]]
 s:sch.d= .f sch
 c:∀q∈l,CqV sch hd q.1 q.2
 x:Ans pr 76 [.s [120]] (.b true)
def ans77(l:List Str)(v:Str)(hl:l.length<1000):Ans pr 77 [zah l,.s v] (.b (decide (v∈l))):=by
 have q1:=fun k=>zad (k:=k) (zy2 l v hl)
 refine zcx fn77 ?_;simp only[g77,rU]
 by_cases h:v∈l
 .rw[(zgQ h).1]at q1;simp[rW,st0,zal,za4,q1,h]
 .have e:zgz (fun x=>v==x) l= -1:=by
   unfold zgz;rw[Z43.2 fun x hx=>by simpa using fun e:v=x=>h (e▸hx)]
  rw[e]at q1;simp[rW,st0,zal,za4,q1,h]
def Jvz(l:List CQ)(k:Nat)(s:St):Prop:=s.tm.get 16=some (.f (qsF l))/\s.tm.get 17=some (.f (.i .i64 l.length))/\s.tm.get 18=some (.f (.i .i64 k))
def ans39{sch:F}{hd:List Str}{l:List (List Str×CQ)}(H:QyV sch hd l):Ans pr 39 [.ag [zah hd,qsF (l.map (·.2))]] (.b true):=by
 have hn:=H.n;have hh:hd.length<=6:=by rcases H.h with e|e<;>rw[e]<;>decide
 refine zcx fn39 ?_;simp only[g39,rU];have a1:¬(5:Int)<l.length:=by omega
 have a2:¬(6:Int)<hd.length:=by omega
 simp[rW,st0,zal,za4,zd5,zcS,zdw,Z18,a1,a2];refine zcA l.length (Jvz (l.map (·.2))) (fun e s=>e= .exit 0) ?_ ?_ _ ⟨by simp[rW],by simp[rW,Z18],by simp[rW]⟩ ?_
 .rintro k s hlt ⟨h16,h17,h18⟩;rw[Z18]at h17;have hw:=zau k (by omega);have hc:=H.c _ (Z1 hlt);have hx:(l.map (·.2))[k]? =some l[k].2:=by rw[Z36,Z0 hlt];rfl
  generalize hA:l[k]=q at hc hx;have q1:=fun k=>zad (k:=k) hc.vr
  rw[cqE]at q1;have b1:¬(6:Int)<q.2.as.length:=by have:=hc.al;omega
  have b1':(q.2.as.length:Int)<=6:=by omega
  have b2:=hc.k;have b3:¬(8:Int)<q.1.length:=by have:=hc.nl;omega
  have b3':(q.1.length:Int)<=8:=by omega
  simp[rW,h16,h17,h18,hlt,zgu,hx,hA,cqE,zfZ,zf1,zkJ,zqN,b1,b1',b2,b3,b3',q1,za4,zdw,hw];exact⟨by simp[rW,h16],by simp[rW,h17,Z18],by simp[rW]⟩
 .rintro s ⟨h16,h17,h18⟩;rw[Z18]at h17;simp[rW,h16,h17,h18]
 .rintro e s rfl;simp[rW]
def ziC:C:=g40.body.r.r.l.r.b.o
def zzb:C:=ziC.r.r.l.b.r.l.r.b.o
def zzc:C:=ziC.r.r.l.b.r.r.r.b.o
def zyM(sch:F)(hd:List Str)(l:List CQ)(k:Nat)(s:St):Prop:=(s.tm.get 0=some (.f sch)/\s.tm.get 36=some (.f (qsF l))/\s.tm.get 37=some (.f (.i .i64 l.length))/\s.tm.get 38=some (.f (.i .i64 k)))
def zyN(sch:F)(l:List CQ)(c:CQ)(ns:List Str)(i:Nat)(k j:Nat)(s:St):Prop:=(s.tm.get 0=some (.f sch)/\s.tm.get 8=some (.ptr i 2 0 0)/\s.tm.get 36=some (.f (qsF l))/\s.tm.get 37=some (.f (.i .i64 l.length))/\s.tm.get 38=some (.f (.i .i64 k))/\s.tm.get 43=some (.f (zah ns))/\s.tm.get 44=some (.f (.i .i64 ns.length))/\s.tm.get 45=some (.f (.i .i64 j))/\s.h.get i=some (.arr 2 0 [[.f (zcz c),.f (zcQ c)]]))/\i<s.c
def zyO(sch:F)(l:List CQ)(c:CQ)(k j:Nat)(s:St):Prop:=(s.tm.get 0=some (.f sch)/\s.tm.get 36=some (.f (qsF l))/\s.tm.get 37=some (.f (.i .i64 l.length))/\s.tm.get 38=some (.f (.i .i64 k))/\s.tm.get 54=some (.f (zcz c))/\s.tm.get 55=some (.f (.i .i64 c.as.length))/\s.tm.get 56=some (.f (.i .i64 j)))
def vn_l4{sch:F}{hd ns:List Str}{l:List CQ}{c:CQ}{i k:Nat}(hc:CqV sch hd ns c){s:St}{Q:Ex->St->Prop}(hJ:zyN sch l c ns i k 0 s)(kx:∀s,zyN sch l c ns i k ns.length s->Q (.exit 4) s):WL pr zzb s Q:=by
 have hnl:=hc.nl;refine zcA ns.length (zyN sch l c ns i k) (fun x s=>x= .exit 4/\zyN sch l c ns i k ns.length s) ?_ ?_ _ hJ ?_
 .rintro j s hlt ⟨⟨h0,h8,h36,h37,h38,h43,h44,h45,gi⟩,hi⟩;have hw:=zau j (by omega);have hx:ns[j]? =some ns[j]:=Z0 hlt;have hnm:=hc.nm _ (Z1 hlt);generalize hA:ns[j]=v at hx hnm;have q1:=fun k=>zad (k:=k) hnm
  unfold zzb ziC g40;simp only[rU,C.l,C.r,C.b,C.o];simp[rW,h0,h8,h36,h37,h38,h43,h44,h45,gi,hlt,zfz,hx,hA,q1,hw];exact⟨⟨by simp[rW,h0],by simp[rW,h8],by simp[rW,h36],by simp[rW,h37],by simp[rW,h38],by simp[rW,h43],by simp[rW,h44],by simp[rW],by simp only[rG];exact gi⟩,by simp only[rG];exact hi⟩
 .rintro s ⟨⟨h0,h8,h36,h37,h38,h43,h44,h45,gi⟩,hi⟩;unfold zzb ziC g40;simp only[rU,C.l,C.r,C.b,C.o];simp[rW,h0,h8,h36,h37,h38,h43,h44,h45,gi];exact⟨⟨by simp[rW,h0],by simp[rW,h8],by simp[rW,h36],by simp[rW,h37],by simp[rW,h38],by simp[rW,h43],by simp[rW,h44],by simp[rW,h45],by simp only[rG];exact gi⟩,by simp only[rG];exact hi⟩
 .rintro e s ⟨rfl,hJ⟩;exact kx s hJ
def vn_l6{sch:F}{hd ns:List Str}{l:List CQ}{c:CQ}{k:Nat}(hs:sch.d= .f sch)(hc:CqV sch hd ns c){s:St}{Q:Ex->St->Prop}(hJ:zyO sch l c k 0 s)(kx:∀s,zyO sch l c k c.as.length s->Q (.exit 6) s):WL pr zzc s Q:=by
 have hal:=hc.al;refine zcA c.as.length (zyO sch l c k) (fun x s=>x= .exit 6/\zyO sch l c k c.as.length s) ?_ ?_ _ hJ ?_
 .rintro j s hlt ⟨h0,h36,h37,h38,h54,h55,h56⟩;have hw:=zau j (by omega);have hx:c.as[j]? =some c.as[j]:=Z0 hlt;obtain⟨ce,cols,hf,-,-⟩ :=hc.fd _ (Z1 hlt);generalize hA:c.as[j]=a at hx hf;have q1:=fun k=>zad (k:=k) hf
  have htd:=zsY a.ts;have hcd:(slc 3 cols).d= .f (slc 3 cols):=zew ..;have n1:¬s.c=s.c+1:=by omega
  unfold zzc ziC g40;simp only[rU,C.l,C.r,C.b,C.o];simp[rW,h0,h36,h37,h38,h54,h55,h56,hlt,zo2,hx,hA,atE,htd,hcd,q1,hs,hw,n1,zcs];exact⟨by simp[rW,h0],by simp[rW,h36],by simp[rW,h37],by simp[rW,h38],by simp[rW,h54],by simp[rW,h55],by simp[rW]⟩
 .rintro s ⟨h0,h36,h37,h38,h54,h55,h56⟩;unfold zzc ziC g40;simp only[rU,C.l,C.r,C.b,C.o];simp[rW,h0,h36,h37,h38,h54,h55,h56];exact⟨by simp[rW,h0],by simp[rW,h36],by simp[rW,h37],by simp[rW,h38],by simp[rW,h54],by simp[rW,h55],by simp[rW,h56]⟩
 .rintro e s ⟨rfl,hJ⟩;exact kx s hJ
def cn0:Ans pr 77 [.sl 1 [],.s [120]] (.b false):=zlJ (n:=400) (zq4 pr) (by kernel_rfl)
def zIX{sch:F}{hd:List Str}{l:List (List Str×CQ)}(H:QyV sch hd l){s:St}{Q:Ex->St->Prop}(hJ:zyM sch hd (l.map (·.2)) 0 s)(kx:∀s,zyM sch hd (l.map (·.2)) l.length s->Q (.exit 2) s):WL pr ziC s Q:=by
  have hn:=H.n;refine zcA l.length (zyM sch hd (l.map (·.2))) (fun x s=>x= .exit 2/\zyM sch hd (l.map (·.2)) l.length s) ?_ ?_ _ hJ ?_
  . rintro k s hlt ⟨h0,h36,h37,h38⟩;have h37':=h37;rw[Z18]at h37';have hw:=zau k (by omega);have hc:=H.c _ (Z1 hlt);have hx:(l.map (·.2))[k]? =some l[k].2:=by rw[Z36,Z0 hlt];rfl
    generalize hA:l[k]=q at hc hx;have q1:=fun k=>zad (k:=k) hc.vr
    rw[cqE]at q1;unfold ziC g40;simp only[rU,C.l,C.r,C.b,C.o];simp[rW,h0,h36,h38,h37',hlt,zgu,hx,hA,cqE,zfZ,zf1,q1,za4,zdw];refine vn_l4 (l:=l.map (·.2)) (i:=s.c) hc (k:=k) ⟨⟨by simp[rW,h0],by simp[rW],by simp[rW,h36],by simp[rW,h37],by simp[rW,h38],by simp[rW],by simp[rW],by simp[rW],by simp[rW]⟩,by simp only[rG];omega⟩ ?_;rintro s1 ⟨⟨j0,j8,j36,j37,j38,j43,j44,j45,gi⟩,hi⟩;simp[rW,j8,gi,zkJ];refine vn_l6 (l:=l.map (·.2)) H.s hc (k:=k) ⟨by simp[rW,j0],by simp[rW,j36],by simp[rW,j37],by simp[rW,j38],by simp[rW],by simp[rW],by simp[rW]⟩ ?_;rintro s2 ⟨i0,i36,i37,i38,-,-,-⟩;simp[rW,i38,hw];exact⟨by simp[rW,i0],by simp[rW,i36],by simp[rW,i37],by simp[rW]⟩
  . rintro s ⟨h0,h36,h37,h38⟩;have h37':=h37;rw[Z18]at h37';unfold ziC g40;simp only[rU,C.l,C.r,C.b,C.o];simp[rW,h0,h36,h38,h37'];exact⟨by simp[rW,h0],by simp[rW,h36],by simp[rW,h37],by simp[rW,h38]⟩
  . rintro e s ⟨rfl,hJ⟩;exact kx s hJ
def ans40{sch:F}{hd:List Str}{l:List (List Str×CQ)}(H:QyV sch hd l):Ans pr 40 [sch,.ag [zah hd,qsF (l.map (·.2))]] (.b true):=by
 have hs:=H.s;have q1:=fun k=>zad (k:=k) H.x
 have q2:=fun k=>zad (k:=k) cn0
 refine zcx fn40 ?_;simp only[g40,rU];rcases H.h with rfl|rfl
 .simp[rW,st0,zal,hs,za4,zd5];refine round ?_;simp[rW,hs,zcS,Z18];refine zIX H ⟨by simp[rW,hs],by simp[rW],by simp[rW,Z18],by simp[rW]⟩ fun s1 _=> ?_
  simp[rW]
 .simp[rW,st0,zal,hs,za4,zd5,zah];refine round ?_;simp[rW,hs,q1,q2,zbk];refine round ?_;simp[rW,hs,zcS,Z18];refine zIX H ⟨by simp[rW,hs],by simp[rW],by simp[rW,Z18],by simp[rW]⟩ fun s1 _=> ?_
  simp[rW]
def fn42:pr.fn 42=some g42:=by kernel_rfl
def ziD:C:=g42.body.r.l.r.b.o
def zzd:C:=ziD.r.r.l.b.r.r.l.r.b.o
def zze:C:=ziD.r.r.l.b.r.r.r.r.b.o
def zL6{h:T Ob}{id ro:Nat}{L:List Str}(hg:h.get id=some (.arr 1 ro (zeb L)))(hL:L≠[])(k:Nat):frz h.get (k+2) (.sl id 0 L.length 1 L.length false)=some (zah L,[id]):=by
 rw[zfm,hg,zdQ,zhB];simp only[true_and,Z25,zlL,Z2,Z60,Z34,zsd,zvR,zdQ];rw[zvS hL]
def zJX(h:Nat->Option Ob)(l:List Str):elemsOf 1 h (.f (zah l))=some (zeb l,[]):=by
 cases l with
 |nil=>rfl
 |cons a l=>simp[zah,slc,elemsOf,zeb]
def Jb2(hd:List Str)(l:List CQ)(c:CQ)(k i j:Nat)(s:St):Prop:=(s.tm.get 1=some (.ptr 0 2 0 0)/\s.tm.get 4=some (.ptr i 2 0 0)/\s.tm.get 11=some (.f (qsF l))/\s.tm.get 12=some (.f (.i .i64 l.length))/\s.tm.get 13=some (.f (.i .i64 k))/\s.tm.get 18=some (.f (zcz c))/\s.tm.get 19=some (.f (.i .i64 c.as.length))/\s.tm.get 20=some (.f (.i .i64 j))/\s.h.get 0=some (.arr 2 0 [[.f (zah hd),.f (qsF l)]])/\s.h.get i=some (.arr 2 0 [[.f (zcz c),.f (zcQ c)]]))/\0<i/\i<s.c/\∃d L,s.tm.get 5=some d/\Gro s.h (i+1) s.c 1 d (zeb L)/\L.length<=3*j/\∀n a,n<j->c.as[n]? =some a->∀v,Trm.var v∈a.ts->v∈L
def bo_l2{sch:F}{hd ns:List Str}{l:List CQ}{c:CQ}{i k:Nat}(hc:CqV sch hd ns c){s:St}{Q:Ex->St->Prop}(hJ:Jb2 hd l c k i 0 s)(kx:∀s,Jb2 hd l c k i c.as.length s->Q (.exit 2) s):WL pr zzd s Q:=by
 have hal:=hc.al;refine zcA c.as.length (Jb2 hd l c k i) (fun x s=>x= .exit 2/\Jb2 hd l c k i c.as.length s) ?_ ?_ _ hJ ?_
 .rintro j s hlt ⟨⟨h1,h4,h11,h12,h13,h18,h19,h20,g0,gi⟩,hi0,hi,d,L,h5,hG,hLl,hLm⟩;have hw:=zau j (by omega);have hx:c.as[j]? =some c.as[j]:=Z0 hlt;obtain⟨l1,hl3,hb,hbm⟩ :=hc.bd _ (Z1 hlt);have hng:=hc.ng _ (Z1 hlt);generalize hA:c.as[j]=a at hx hb hbm hng;have q1:=fun k=>zad (k:=k) hb
  rw[atE,hng]at q1;have htd:=zsY a.ts;have n0:¬0=s.c:=by omega
  have n0':¬0=s.c+1:=by omega
  have ni:¬i=s.c:=by omega
  have ni':¬i=s.c+1:=by omega
  have n1:¬s.c=s.c+1:=by omega
  unfold zzd ziD g42;simp only[rU,C.l,C.r,C.b,C.o];simp[rW,h1,h4,h5,h11,h12,h13,h18,h19,h20,g0,gi,hlt,zo2,hx,hA,atE,hng,htd,n1];simp[rW,q1,za4,zJX];refine zfb (zaS hG (by omega) fun y h1 h2=> ?_) (by omega) (by simp[zeb];omega) (by omega) ?_
  .rw[TG,Z49 (by omega),TG,Z49 (by omega),TG,Z49 (by omega),TG,Z49 (by omega)]
  intro r hr1 hr2 hr3 hr4 hr5;have hf:∀y,y<s.c->d.oid≠some y->_:=fun y hy hd=>(hr4 y (by omega) hd)
  have e0:=hr4 0 (by omega) (zfd hG (by omega));have ei:=hr4 i (by omega) (zfd hG (by omega));rw[TG,Z49 (by omega),TG,Z49 (by omega),TG,Z49 (by omega),TG,Z49 (by omega)]at e0 ei;rw[g0]at e0;rw[gi]at ei;simp[rW,hr1,hw];refine⟨⟨by simp[rW,h1],by simp[rW,h4],by simp[rW,h11],by simp[rW,h12],by simp[rW,h13],by simp[rW,h18],by simp[rW,h19],by simp[rW],by simp only[rG];exact e0,by simp only[rG];exact ei⟩,hi0,by simp only[rG];omega,r.d,L++l1,by simp[rW],?_,by simp;omega,fun n b hn hb v hv=> ?_⟩
  .simp only[rG];rw[show zeb (L++l1)=zeb L++zeb l1 by simp[zeb]];exact zaS hr2 (Z2 _) fun _ _ _=>rfl
  .rcases Z145 n j with h|h
   .exact Z102 _ (hLm n b h hb v hv)
   .have:n=j:=by omega
    subst this;rw[hx]at hb;cases hb;exact Z96 _ (hbm v hv)
 .rintro s ⟨⟨h1,h4,h11,h12,h13,h18,h19,h20,g0,gi⟩,hi0,hi,d,L,h5,hG,hLl,hLm⟩;unfold zzd ziD g42;simp only[rU,C.l,C.r,C.b,C.o];simp[rW,h1,h4,h5,h11,h12,h13,h18,h19,h20,g0,gi];exact⟨⟨by simp[rW,h1],by simp[rW,h4],by simp[rW,h11],by simp[rW,h12],by simp[rW,h13],by simp[rW,h18],by simp[rW,h19],by simp[rW,h20],by simp only[rG];exact g0,by simp only[rG];exact gi⟩,hi0,by simp only[rG];exact hi,d,L,by simp[rW,h5],by simp only[rG];exact hG,hLl,hLm⟩
 .rintro e s ⟨rfl,hJ⟩;exact kx s hJ
end Go.Proofs.YtbhholaillniiaaGreatDoor
end
