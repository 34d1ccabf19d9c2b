/- Parts of the proof, one behind the other: the logic, the contracts of the functions that the statement reaches. -/
import Derived.Test.YtebpenldlefgjaaGreatM1C
import Derived.Laws.StructEq
set_option linter.unusedVariables false
set_option linter.unusedSimpArgs false
namespace Lift
open Go
open Go.RowKit (Below)
section
variable {P:Program} {T:Ty} {B:Nat} {F0:Nat→Prop} {w0:bV} {n d:Nat} {o:Oper} {σ:St} {K:St→Prop} {all:Array Oper} {rest:List Oper}
theorem Ar(w:World)(dT sT ty elem:TypeId)(g o dLen dCap:Nat)(a:Addr)(sLen sCap:Nat)(cur:Array Value)(t:TypeId)(cs:List Value)(i:TypeInfo)
  (hu:P.underlying dT=some (.slice elem)) (hi:P.info? elem=some i)
  (hg:w.heap[g]?=some (.cells cur t (0,0))) (hn:cs.length=Nat.min sLen dLen*i.size)
  (hsrc: ∀j v,cs[j]?=some v→w.cell? (a.add j)=some v) (hfit:o+cs.length≤cur.size) (h1: ∀v∈cs,v.oneCell'=true):
  (Builtin.copy_ #[dT,sT] ty #[.slice (some ⟨g,o,none⟩) dLen dCap,.slice (some a) sLen sCap]).run P w =
   .ok (goInt (Nat.min sLen dLen)) (w.setRow g (cur.toList.take o++cs++cur.toList.drop (o+cs.length)).toArray):=by
 have hl:=run_firstCells_some (P:=P) w i.size (Nat.min sLen dLen) a sLen sCap cs hn hsrc;have hst:=run_storeCells_at P g o t cs 0 cur w hg (by simpa using hfit) h1;simp[Builtin.copy_,run_underlying hu,Builtin.lenOf,Go.sizeOf,typeInfo,hi,hl,hst]
theorem x8(w:World)(dT sT ty elem:TypeId)(x a:Option Addr)(dLen dCap sLen sCap:Nat)(i:TypeInfo)(hu:P.underlying dT=some (.slice elem))(hi:P.info? elem=some i)(hn:Nat.min sLen dLen=0):
  (Builtin.copy_ #[dT,sT] ty #[.slice x dLen dCap,.slice a sLen sCap]).run P w= .ok (goInt 0) w:=by
 have hl: ∀(x:Addr),(loadCells x 0).run P w= .ok #[] w:=fun x=>by simpa using run_loadCells_list (P:=P) w x [] (by simp)
 cases x<;>cases a<;>simp[Builtin.copy_,run_underlying hu,Builtin.lenOf,Builtin.firstCells,Go.sizeOf,typeInfo,hi,hn,storeCells,hl]
def GM(T:Ty)(σ:St):Op→Option (Nat×Nat×List D×List D)
 | .call c=>match c.callee with
   | .builtin .copy=>match c.args.toList,c.argTypes.toList with
     | [x,y],[t,u]=>match T.get t,ex T σ.get t x,ex T σ.get u y with
       | some ti,some (.al h),some (.d (.sl s ys))=>match σ.get h with
         | some (.ow e l)=>match Nat.beq ti.kind 4,Nat.beq e ti.elem,T.get ti.elem with
           | true,true,some te=>match Nat.beq te.size s with
             | true=>some (h,e,l,ys)
             | _=>none
           | _,_,_=>none
         | _=>none
       | _,_,_=>none
     | _,_=>none
   | _=>none
 | _=>none
theorem cV.CH(hT:bb P T){h e:Nat}{l ys:List D}(hd:o.dst=some d)(hdn:d<n)(hx:GM T σ o.op=some (h,e,l,ys)):
  cV P B F0 w0 n o σ ((d,.d (.v (.int .i64 ((min ys.length l.length:Nat):Int))))::(h,.ow e (ys.take (min ys.length l.length)++l.drop (min ys.length l.length)))::σ):=by
 intro a w hR K Q hK;obtain ⟨O,hOr,hO⟩:=hR.own;have hI:Inv P B F0 w0 (fun _=>True) σ.get σ.get a w O:=⟨hR.below,hR.base,hR.f0,hOr,fun t _ av h=>hO t av h,fun t av h _=>hO t av h⟩;obtain ⟨dst,op,ty,pos,after,guard⟩:=o;simp only[] at hd hx;subst hd;cases op<;>simp only[GM] at hx<;>try (cases hx;done)
 rename_i c;obtain ⟨callee,args,ats⟩:=c;simp only[] at hx;split at hx<;>try (cases hx;done)
 split at hx<;>try (cases hx;done)
 rename_i x y t u hxy htu;split at hx<;>try (cases hx;done)
 rename_i ti h' s ys' hti hxe hye;split at hx<;>try (cases hx;done)
 rename_i e' l' hav;split at hx<;>try (cases hx;done)
 rename_i te hk hee hte;split at hx<;>simp at hx;rename_i hts;obtain ⟨rfl,rfl,rfl,rfl⟩:=hx;have hee:=Nat.eq_of_beq_eq_true hee;subst hee;have hts:=Nat.eq_of_beq_eq_true hts;subst hts;have hargs:args= #[x,y]:=by apply Array.ext';simpa using hxy
 have hats:ats= #[t,u]:=by apply Array.ext';simpa using htu
 subst hargs;subst hats;obtain ⟨info,dd,z,hok⟩:=hT t ti hti;obtain ⟨info',dd',z',hok'⟩:=hT _ te hte;have hun:=(hok.gK hk).1;have hsz:info'.size=te.size:=hok'.size;have hcel:P.cellsOf ti.elem=te.size:=hok'.cellsOf;have hw:jL σ.get (ex T σ.get t x)=some (h',ti.elem,l',0,l'.length):=by rw[hxe];simp only[jL,hav]
 have hys:s8 T σ.get (ex T σ.get u y)=some (te.size,ys'):=by rw[hye];rfl
 rw[hxe] at hw;rw[hye] at hys;obtain ⟨zz,hz,hrow,hlm,cap,hcap,hmax,hv⟩:=fj hI (aP hI (fun _ _=>trivial) hxe 0).1 hw;rw[hav] at hz;simp at hz;subst hz;obtain ⟨ad,cap',hyv,iu,hall⟩:=jN hT hI (aP hI (fun _ _=>trivial) hye 0).1 hys;obtain ⟨k,hkk⟩: ∃k,k=min ys'.length l'.length:=⟨_,rfl⟩;rw[← hkk] at hK;rcases Nat.eq_zero_or_pos k with hk0 | hk0
 ·
  have hval: ∃ax lc cx,a.eval x= .slice ax lc cx∧lc=l'.length:=by
   rcases hv with ⟨hl0,_,_,base,hev⟩ | ⟨b,o1,len,cap1,cs,off,hq,htm,hev,h0',hOb,hb,hu,hcells⟩
   · exact⟨base,0,_,hev,hl0.symm⟩
   · exact⟨_,_,_,hev,rfl⟩
  obtain ⟨ax,lc,cx,hev,hlc⟩:=hval;have hrun:=x8 (P:=P) w t u ty ti.elem ax ad lc cx ys'.length cap' info' hun hok'.hinfo (by rw[hlc];show min _ _=0;omega)
  have hex:(execOp a.eval {dst:=some d,op:= .call {callee:= .builtin .copy,args:= #[x,y],argTypes:= #[t,u]},type:=ty,pos:=pos,after:=after,guard:=guard}).run P w= .ok (.value (goInt 0)) w:=by
   simp[execOp,resolve,invoke,builtin,hev,hyv,hrun]
  refine aU hex ?_
  have hsame: ∀k2,St.get ((h',AV.ow ti.elem l')::σ) k2=σ.get k2:=fun k2=>by
   rw[St.aE];split
   · rename_i e1;subst e1;exact hav.symm
   · rfl
  have hR1:Rel P B F0 w0 n ((h',.ow ti.elem l')::σ) a w:=⟨hR.below,hR.base,hR.f0,hR.defers,hR.size,O,hOr,fun t av h=>by
   rw[hsame] at h;obtain ⟨v,h1,h2⟩:=hO t av h;refine⟨v,h1,?_⟩;have:St.get ((h',AV.ow ti.elem l')::σ)=σ.get:=funext hsame
   rw[this];exact h2⟩
  subst hk0;rw[List.take_zero,List.drop_zero,List.nil_append] at hK;obtain ⟨O2,hOr2,hO2⟩:=hR1.own;exact hK _ _ (hR1.put (d:=d) (av:= .d (.v (.int .i64 ((0:Nat):Int)))) (v:=goInt 0) hOr2 hO2 hdn (bZ.refl (fun b t hb=>(hOr2 b t hb).2)) (.v rfl))
 rcases hv with ⟨hl0,_⟩ | ⟨b,o1,len,cap1,cs,off,hq,htm,hev,h0',hOb,hb,hu,hcells⟩
 · omega
 rw[hcel] at h0' hu;have hoff:off=0:=by have:=h0'.1;omega
 subst hoff;rcases hall with h | ⟨sa,news,rfl,g1,g2,g3,g4⟩
 · subst h;simp at hkk;omega
 rw[aK g2] at g1;obtain ⟨s,hs⟩: ∃s,s=te.size:=⟨_,rfl⟩;rw[← hs] at g1 g2 hu hcel hsz;have hlfl:=aK hu
 have hcsl:l'.length*s≤cs.size:=by
  rcases Nat.eq_zero_or_pos (l'.length*s) with h0 | h0
  · omega
  · obtain ⟨_,u,f2,_⟩:=hcells (l'.length*s-1) _ (List.getElem?_eq_getElem (by omega));have:=(Array.getElem?_eq_some_iff.1 f2).1;omega
 have hkl:k*s≤l'.length*s:=Nat.mul_le_mul_right s (by omega);have hky:k*s≤ys'.length*s:=Nat.mul_le_mul_right s (by omega);have hnk:(news.take (k*s)).length=k*s:=by rw[List.length_take];omega
 have hrun:=Ar (P:=P) w t u ty ti.elem b 0 l'.length cap sa ys'.length cap' cs ti.elem (news.take (k*s)) info' hun hok'.hinfo hb
  (by rw[hnk,hsz,hkk]) (fun j v hj=>by
   rw[List.getElem?_take] at hj;split at hj
   · exact g3 j v hj
   · cases hj) (by rw[hnk];omega) (fun v hv=>g4.sE v (List.mem_of_mem_take hv))
 rw[hnk,Nat.zero_add,List.take_zero,List.nil_append] at hrun;obtain ⟨cs',hcs'⟩: ∃cs',cs'=(news.take (k*s)++cs.toList.drop (k*s)).toArray:=⟨_,rfl⟩;rw[← hcs',show Nat.min ys'.length l'.length=k from hkk.symm] at hrun
 have hss:cs'.size=cs.size:=by
  rw[hcs'];simp only[List.size_toArray,List.length_append,hnk,List.length_drop,Array.length_toList];omega
 have hex:(execOp a.eval {dst:=some d,op:= .call {callee:= .builtin .copy,args:= #[x,y],argTypes:= #[t,u]},type:=ty,pos:=pos,after:=after,guard:=guard}).run P w= .ok (.value (goInt k)) (w.setRow b cs'):=by
  simp[execOp,resolve,invoke,builtin,hev,hyv,hrun]
 refine aU hex ?_
 have hR1:Rel P B F0 w0 n ((h',.ow ti.elem (ys'.take k++l'.drop k))::σ) a (w.setRow b cs'):=by
  refine Rel.write hb hss hR hOr hO hav hOb (.inr ⟨_,_,_,hrow,(cP hrow).1,by simp only[List.length_append,List.length_take,List.length_drop];omega,(cP hrow).2.2.symm⟩) (fun v hv hr=>?_) (cP hrow).2.1;rw[htm] at hv;simp at hv;subst hv;refine l8 hr hrow hb (setRow_heap w b cs _ ti.elem _ hb) hss (by simp only[List.length_append,List.length_take,List.length_drop];omega) (fun h0=>by subst h0;simp at hkk;omega) (fun x hx=>?_) (fun j dd hj=>?_)
  · rw[hcel];rcases List.mem_append.1 hx with hx | hx
    · exact g2 x (List.mem_of_mem_take hx)
    · exact hu x (List.mem_of_mem_drop hx)
  · have hB: ∀c,aJ O (FW B F0 w) c→(w.setRow b cs').heap[c]?=w.heap[c]?:=fun c hc=>setRow_other w b c _ (fun e=>by rw[e,aJ,hOb] at hc;cases hc.1);have f2:=aK (s:=s) (l:=ys'.take k) (fun x hx=>g2 x (List.mem_of_mem_take hx));have e2:flatAll ys'=flatAll (ys'.take k)++flatAll (ys'.drop k):=by rw[← bB,List.take_append_drop]
    have e3:flatAll l'=flatAll (l'.take k)++flatAll (l'.drop k):=by rw[← bB,List.take_append_drop]
    have f3:=aK (s:=s) (l:=l'.take k) (fun x hx=>hu x (List.mem_of_mem_take hx));rw[List.length_take,show min k ys'.length=k by omega] at f2;rw[List.length_take,show min k l'.length=k by omega] at f3;rw[bB] at hj;have hcg:cs'[j]?=(news.take (k*s)++cs.toList.drop (k*s))[j]?:=by rw[hcs',List.getElem?_toArray]
    rw[hcg];rw[List.getElem?_append] at hj;split at hj
    · rename_i hj2;have h1:(flatAll ys')[j]?=some dd:=by rw[e2,List.getElem?_append_left (by omega)];exact hj
      obtain ⟨q1,v,q2,q3⟩:=g4.get h1;exact⟨q1,v,by rw[List.getElem?_append_left (by omega),List.getElem?_take_of_lt (by omega)];exact q2,q3.mono (fun _ h=>by simpa[aJ,FW] using h) hB⟩
    · rename_i hj1
      have h1:(flatAll l')[j]?=some dd:=by
       rw[e3,List.getElem?_append_right (by omega),← hj]
       congr 1
       omega
      obtain ⟨q1,v,q2,q3⟩:=hcells j dd h1
      exact⟨q1,v,by
       rw[List.getElem?_append_right (by omega),List.getElem?_drop];rw[← q2];simp
       congr 1
       omega,q3.mono (fun _ h=>by simpa[aJ,FW] using h) hB⟩
 obtain ⟨O2,hOr2,hO2⟩:=hR1.own;exact hK _ _ (hR1.put (d:=d) (av:= .d (.v (.int .i64 (k:Int)))) (v:=goInt k) hOr2 hO2 hdn (bZ.refl (fun b t hb=>(hOr2 b t hb).2)) (.v rfl))
theorem aa.CH(hT:bb P T){h e:Nat}{l ys:List D}(hd:o.dst=some d)(hdn:Nat.ble (d+1) n=true)(hg:aA all σ o=true)(hx:GM T σ o.op=some (h,e,l,ys))
  (hk:aa P B F0 w0 n all rest K ((d,.d (.v (.int .i64 ((min ys.length l.length:Nat):Int))))::(h,.ow e (ys.take (min ys.length l.length)++l.drop (min ys.length l.length)))::σ)):aa P B F0 w0 n all (o::rest) K σ :=
 aa.op hg (cV.CH hT hd (Nat.le_of_ble_eq_true hdn) hx) hk
end
end Lift
namespace Lift
abbrev Mx:=Nat→Nat→Rat
structure Red (m n k:Nat) (M:Mx) (pr:Nat→Option Nat):Prop where
 lt: ∀c i,pr c=some i→c<k∧i<m
 inj: ∀c d i,pr c=some i→pr d=some i→c=d
 piv: ∀c i,pr c=some i→M i c≠0
 col: ∀c i j,pr c=some i→j<m→j≠i→M j c=0
 row: ∀j c,j<m→(∀d,pr d≠some j)→c<k→M j c=0
inductive Out where
 | over
 | free
 | val (l:List Rat)
end Lift
namespace Lift
abbrev Mt:=List (List Rat)
def fM(a:Mt):Mx:=fun j c=>(a.getD j []).getD c 0
def Hd(a:Mt)(w:Nat):Prop:= ∀r,r∈a→r.length=w
structure InvG (n k d:Nat) (a:Mt) (pr:Nat→Option Nat):Prop where
 rect:Hd a (n+1)
 red:Red a.length n k (fM a) pr
 img: ∀i,(∃c,pr c=some i)↔i<d
 one: ∀c i,pr c=some i→fM a i c=1
 le:d≤a.length
 way:(d=k∧ ∀c,c<k→pr c=some c)∨(d<k∧ ∃f,f<k∧pr f=none)
end Lift
namespace Lift
abbrev GR:=List (List Rat×Rat)
def gE(l:GR)(j:Nat):List Rat×Rat:=l.getD j ([],0)
def fE2(l:GR):Mx:=fun j c=>if c<(gE l j).1.length then (gE l j).1.getD c 0 else (gE l j).2
def Gu(l:GR)(n:Nat):Prop:= ∀e,e∈l→e.1.length=n
def cE(e:List Rat×Rat)(c:Nat):Rat:=if c<e.1.length then e.1.getD c 0 else e.2
def prR(done:List Int)(c:Nat):Option Nat:=match done[c]? with
 | some x=>if x<0 then none else some x.toNat
 | none=>none
structure InvR (n i:Nat) (l:GR) (done:List Int):Prop where
 rect:Gu l n
 len:done.length=i
 red:Red l.length n i (fE2 l) (prR done)
end Lift
namespace Lift
end Lift
namespace Lift
open Go Go.Proofs
structure TD where
 t:RD
 h:Bool
abbrev TD.D(a:TD):D:= .ag [dB a.t.g,Wd a.t.n,Wd a.t.d,dB a.h]
def TQ:Option Rat→TD
 | none=>⟨Qr 0,true⟩
 | some q=>⟨Qr q,false⟩
theorem eO:LQ 1≤1:=by
 have h:=Gz 1;rw[sQ,show ((1:Int):Rat)=1 from rfl] at h;omega
end Lift
namespace Lift
open Go Go.Proofs
structure PD where
 x:RD
 y:RD
abbrev PD.D(a:PD):D:= .ag [dB a.x.g,Wd a.x.n,Wd a.x.d,dB a.y.g,Wd a.y.n,Wd a.y.d]
structure FR where
 t:TD
 l:PD
abbrev FR.D(p:FR):D:= .ag [dB p.t.t.g,Wd p.t.t.n,Wd p.t.t.d,dB p.t.h,dB p.l.x.g,Wd p.l.x.n,Wd p.l.x.d,dB p.l.y.g,Wd p.l.y.n,Wd p.l.y.d]
abbrev VQ(v:V2):PD:=⟨Qr v.1,Qr v.2⟩
abbrev PoQ(p:Option Rat×V2):FR:=⟨TQ p.1,VQ p.2⟩
end Lift
namespace Lift
open Go Go.Proofs
end Lift
namespace Lift
open Go Go.Proofs
structure FT where
 c:PD
 m:PD
 r:RD
abbrev FT.D(d:FT):D:= .ag [dB d.c.x.g,Wd d.c.x.n,Wd d.c.x.d,dB d.c.y.g,Wd d.c.y.n,Wd d.c.y.d,dB d.m.x.g,Wd d.m.x.n,Wd d.m.x.d,dB d.m.y.g,Wd d.m.y.n,Wd d.m.y.d,dB d.r.g,Wd d.r.n,Wd d.r.d]
abbrev DyQ(d:V2×V2×Rat):FT:=⟨VQ d.1,VQ d.2.1,Qr d.2.2⟩
instance:Inhabited FR:=⟨PoQ (none,(0,0))⟩
abbrev PoL(l:List FR):D:= .sl 10 (l.map FR.D)
abbrev VL(l:List V2):D:= .sl 6 (l.map (fun v=>(VQ v).D))
abbrev FT.rs(d:FT):List RD:=[d.c.x,d.c.y,d.m.x,d.m.y,d.r]
theorem FE{l:List RD}{i:Nat}(hi:i<l.length)(h:(l.getD i default).okB=false):l.all RD.okB=false:=by
 rw[List.all_eq_false];exact⟨l.getD i default,by rw[List.getD_eq_getElem?_getD,List.getElem?_eq_getElem hi];exact List.getElem_mem hi,by rw[h];simp⟩
theorem Ee{l:List RD}(h: ∀i,i<l.length→(l.getD i default).okB=true):l.all RD.okB=true:=by
 rw[List.all_eq_true];intro x hx;obtain ⟨i,hi,rfl⟩:=List.mem_iff_getElem.1 hx;have:=h i hi;rw[List.getD_eq_getElem?_getD,List.getElem?_eq_getElem hi] at this;exact this
end Lift
namespace Lift
open Go Go.Proofs
abbrev Po:=Option Rat×V2
abbrev PsL(ps:List Po):D:= .sl 10 (ps.map (fun p=>(PoQ p).D))
theorem rr{α:Type}(l:List α)(d:α){i:Nat}(h:i<l.length):l.take (i+1)=l.take i++[l.getD i d]:=by
 rw[List.take_add_one,List.getD_eq_getElem?_getD,List.getElem?_eq_getElem h];rfl
end Lift
namespace Lift
open Go Go.Proofs
instance:Inhabited FT:=⟨DyQ ((0,0),(0,0),0)⟩
end Lift
namespace Lift
open Go Go.Proofs
structure GB where
 a2:Rat
 b2:Rat
 c2:Rat
 f:V2
 u:List V2
 sg:List Int
abbrev IL(l:List Int):List D:=l.map (fun n=>dI n)
abbrev VLs(l:List V2):List D:=l.map (fun v=>(VQ v).D)
abbrev Hb(a b c:Rat)(f:V2)(x y:D):List D:=[dB (Qr a).g,Wd (Qr a).n,Wd (Qr a).d,dB (Qr b).g,Wd (Qr b).n,Wd (Qr b).d,dB (Qr c).g,Wd (Qr c).n,Wd (Qr c).d,dB (Qr f.1).g,Wd (Qr f.1).n,Wd (Qr f.1).d,dB (Qr f.2).g,Wd (Qr f.2).n,Wd (Qr f.2).d,x,y]
abbrev GB.D(b:GB):D:= .ag (Hb b.a2 b.b2 b.c2 b.f (.sl 6 (VLs b.u)) (.sl 1 (IL b.sg)))
abbrev barZ:D:= .ag [dB false,.sl 1 [],.sl 1 [],dB false,.sl 1 [],.sl 1 [],dB false,.sl 1 [],.sl 1 [],dB false,.sl 1 [],.sl 1 [],dB false,.sl 1 [],.sl 1 [],.sl 6 [],.sl 1 []]
abbrev Dy:=V2×V2×Rat
end Lift
namespace Lift
open Go Go.Proofs
theorem uN(q:Rat):gW q.num=uM q:=by
 unfold gW uM;have h0:q.num=0↔q=0:=Rat.num_eq_zero
 have h1:q.num<0↔q<0:=by
  have e1:= @Rat.num_nonneg q;have e2:= @Rat.not_le 0 q;rw[← e2,← e1];omega
 by_cases hz:q=0
 · subst hz;rfl
 · rw[if_neg hz];by_cases hl:q<0
   · rw[if_pos hl,if_pos (h1.2 hl)]
   · rw[if_neg hl,if_neg (fun h=>hl (h1.1 h)),if_neg (fun h=>hz (h0.1 h))]
end Lift
namespace Lift
open Go Go.Proofs
abbrev ae(a:NQ):D:= .sl 3 (dV a)
abbrev aL(rt:List NQ):D:= .ag [.sl 1 (rt.map ae)]
theorem wk{k:Nat}(hk:k≤43):IntKind.i64.wrap ((1:Int)*2^(min k IntKind.i64.bits))=((2^k:Nat):Int):=by
 have hb:IntKind.i64.bits=64:=rfl;have h:2^k≤2^43:=Nat.pow_le_pow_right (by decide) hk;rw[hb,Nat.min_eq_left (by omega),show (1:Int)*2^k=((2^k:Nat):Int) by push_cast;omega];generalize 2^k=m at h;rw[au (by omega) (by omega)]
theorem lf(xs:List D)(r:Int)(hx:xs.length≤4398046511104)(hr: ∀k:Nat,k≤43→xs.length≤2^k→(∀j,j<k→2^j<xs.length)→r=if 2^k=xs.length then (k:Int) else -1):Pure Tryz.prog 81 [.sl 3 xs] (dI r):=by
 refine qJ 17 Tryz.func81 rfl rfl rfl rfl (by kernel_rfl) (fun B F0 w0=>?_);refine qX 1 rfl ?_;refine qK 1 rfl ?_;refine qI (AW.block ?_);refine AW.aD [0,3] (fun k:Nat=>[(0,.d (.sl 3 xs)),(3,.d (dI k))]) (fun k=>k≤43∧ ∀j,j<k→2^j<xs.length) (fun k=>43-k) 0 rfl ⟨Nat.zero_le _,fun j h=>by omega⟩ (fun k hi=>?_)
 · obtain ⟨hk,hi⟩:=hi;show AW _ _ _ _ _ _ _ [(0,.d (.sl 3 xs)),(3,.d (dI k))];have hp:2^k≤2^43:=Nat.pow_le_pow_right (by decide) hk;refine AW.seq ?_;refine qX 2 rfl ?_;rw[wk hk];refine qU 3 rfl ?_;refine aa.nil ?_;refine AW.cond rfl (fun h=>?_) (fun h=>?_)
   · have h:2^k<xs.length:=by have:=of_decide_eq_true h;omega
     have hk4:k≠43:=fun e=>by subst e;omega
     refine AW.skip (AW.block ?_);refine qT 2 rfl ?_;rw[au (x:=(k:Int)+1) (by omega) (by omega)];refine qU 1 rfl ?_;refine aa.nil ?_
     exact⟨k+1,rfl,⟨by omega,fun j hj=>by
      by_cases e:j=k
      · rw[e];exact h
      · exact hi j (by omega)⟩,by omega⟩
   have h: ¬2^k<xs.length:=by have:=of_decide_eq_false h;omega
   rw[hr k hk (by omega) hi];refine AW.exit (AW.seq ?_);refine qX 2 rfl ?_;rw[wk hk];refine qU 3 rfl ?_;refine aa.nil ?_;by_cases e:2^k=xs.length
   · rw[if_pos e,e,bne_eq_false_iff_eq.2 rfl];refine AW.ar rfl ?_;refine AW.skip ?_;refine qX 2 rfl ?_;exact qN rfl
   rw[if_neg e,bne_iff_ne.2 (fun h=>e (by omega))];refine AW.aB rfl ?_;refine qX 1 rfl ?_;exact qN rfl
theorem ir{i j:Nat}(h:2^i≤2^j):i≤j:=(Nat.pow_le_pow_iff_right (a:=2) (by decide)).1 h
theorem dC(xs:List D){i:Nat}(h:xs.length=2^i)(hi:i≤42):Pure Tryz.prog 81 [.sl 3 xs] (dI i):=by
 have hp:2^i≤2^42:=Nat.pow_le_pow_right (by decide) hi;refine lf xs i (by omega) (fun k hk h1 h2=>?_);rw[h] at h1;have h1:=ir h1;by_cases e:i<k
 · have:=h2 i e;omega
 · have e:i=k:=by omega
   rw[if_pos (by rw[h,e]),e]
theorem kN(xs:List D)(h: ∀i,xs.length≠2^i)(hx:xs.length≤4398046511104):Pure Tryz.prog 81 [.sl 3 xs] (dI (-1)):=by
 refine lf xs (-1) hx (fun k hk h1 h2=>?_);rw[if_neg (fun e=>h k e.symm)]
theorem q7{a:NQ}{i:Nat}(hi:i<a.length)(h:a.getD i 0≠0):bg a=false:=by
 unfold bg;rw[List.all_eq_false];exact⟨a.getD i 0,by rw[List.getD_eq_getElem?_getD,List.getElem?_eq_getElem hi];exact List.getElem_mem hi,by rw[decide_eq_false h];simp⟩
theorem oG{a:NQ}(h: ∀i,i<a.length→a.getD i 0=0):bg a=true:=by
 unfold bg;rw[List.all_eq_true];intro x hx;obtain ⟨i,hi,rfl⟩:=List.mem_iff_getElem.1 hx;have:=h i hi;rw[List.getD_eq_getElem?_getD,List.getElem?_eq_getElem hi] at this;exact decide_eq_true this
theorem my(a:NQ){k:Nat}(hs:az k a)(hk:k≤17300000000000)(hl:a.length≤1000000):Pure Tryz.prog 170 [ae a] (dB (bg a)):=by
 refine qJ 15 Tryz.func170 rfl rfl rfl rfl (by kernel_rfl) (fun B F0 w0=>?_);have hno:=fun i hi=>q7 (a:=a) (i:=i) hi;have hyes:=oG (a:=a);generalize bg a=E at hno hyes ⊢;refine qX 1 rfl ?_;refine qI ?_;refine qX 2 rfl ?_;rw[List.length_map];refine qU 1 rfl ?_;refine aa.nil ?_;refine AW.block ?_;refine AW.aD [5,6,7] (fun i:Nat=>[(5,.d (ae a)),(6,.d (dI a.length)),(7,.d (dI i))]) (fun i=> ∀j,j<i→j<a.length→a.getD j 0=0) (fun i=>a.length-i) 0 rfl (fun j h=>by omega) (fun i hi=>?_)
 · show AW _ _ _ _ _ _ _ [(5,.d (ae a)),(6,.d (dI a.length)),(7,.d (dI i))];refine qX 1 rfl ?_;refine qI ?_;refine AW.cond rfl (fun h=>?_) (fun h=>?_)
   · have hii:i<a.length:=by have:=of_decide_eq_true h;omega
     have g:=kY hii;have cs:=j7 (Qr (a.getD i 0)) (eN _ (hs i)) hk;have hn:=hno i hii;rw[bH] at cs;have s0:=GU (q:=a.getD i 0);generalize hq:a.getD i 0=q at g cs hn s0;generalize gW q.num=s at cs s0;refine AW.skip (AW.seq (AW.block (AW.seq (AW.region ?_))));refine aa.idx tok (Qr q).D rfl rfl rfl rfl (Int.natCast_nonneg i) g ?_;refine qU 3 rfl ?_;refine qK 1 rfl ?_;refine aa.call tok rfl rfl rfl rfl cs ?_;refine qU 1 rfl ?_;refine aa.nil ?_;refine AW.cond rfl (fun h=>?_) (fun h=>?_)
     · have h:s≠0:=bne_iff_ne.1 h;rw[hn (fun e=>h (s0.2 e))];refine qX 1 rfl ?_;exact qN rfl
     · have h:s=0:=bne_eq_false_iff_eq.1 h;refine AW.skip ?_;refine qT 1 rfl ?_;rw[au (x:=(i:Int)+1) (by omega) (by omega)];refine qU 1 rfl ?_;refine aa.nil ?_;refine⟨i+1,rfl,fun j h1 h2=>?_,by omega⟩;by_cases e:j=i
       · rw[e,hq];exact s0.1 h
       · exact hi j (by omega) h2
   have hii: ¬i<a.length:=by have:=of_decide_eq_false h;omega
   rw[hyes (fun j h=>hi j (by omega) h)];refine AW.exit ?_;refine qX 1 rfl ?_;exact qN rfl
theorem C5(q:Rat):((Qr q).g=false∧(Qr q).n.length=0∧(Qr q).d.length=0)↔q=0:=by
 constructor
 · rintro ⟨_,h,_⟩
   have:=RD.nz (r:=Qr q) (List.length_eq_zero_iff.1 h);rw[bH] at this;exact this
 · intro e;subst e;rw[eF];exact⟨rfl,rfl,rfl⟩
theorem lg(a:NQ)(hl:a.length≤1000000):Pure Tryz.prog 83 [ae a] (dB (bg a)):=by
 refine qJ 26 Tryz.func83 rfl rfl rfl rfl (by kernel_rfl) (fun B F0 w0=>?_);have hno:=fun i hi=>q7 (a:=a) (i:=i) hi;have hyes:=oG (a:=a);generalize bg a=E at hno hyes ⊢;refine qX 1 rfl ?_;refine qI ?_;refine qX 2 rfl ?_;rw[List.length_map];refine qU 1 rfl ?_;refine aa.nil ?_;refine AW.block ?_;refine AW.aD [5,6,7] (fun i:Nat=>[(5,.d (ae a)),(6,.d (dI a.length)),(7,.d (dI i))]) (fun i=> ∀j,j<i→j<a.length→a.getD j 0=0) (fun i=>a.length-i) 0 rfl (fun j h=>by omega) (fun i hi=>?_)
 · show AW _ _ _ _ _ _ _ [(5,.d (ae a)),(6,.d (dI a.length)),(7,.d (dI i))];refine qX 1 rfl ?_;refine qI ?_;refine AW.cond rfl (fun h=>?_) (fun h=>?_)
   · have hii:i<a.length:=by have:=of_decide_eq_true h;omega
     have g:=kY hii;have hn:=hno i hii;have s0:=C5 (a.getD i 0);generalize hq:a.getD i 0=q at g hn s0;generalize Qr q=y at g s0;obtain ⟨yg,yn,yd⟩:=y;simp only[] at s0;refine AW.skip (AW.seq (AW.block (AW.seq (AW.region ?_))));refine aa.idx tok (RD.mk yg yn yd).D rfl rfl rfl rfl (Int.natCast_nonneg i) g ?_;refine qU 3 rfl ?_;refine qK 3 rfl ?_;cases yg with
     | true =>
       refine qU 11 rfl ?_;refine aa.nil ?_;refine AW.aB rfl ?_;rw[hn (fun e=>by have:=s0.2 e;cases this.1)];refine qX 1 rfl ?_;exact qN rfl
     | false =>
     refine qU 3 rfl ?_;rw[aR];refine qU 1 rfl ?_;by_cases h1:(0:Int)<(yn.length:Int)
     · rw[decide_eq_true h1];refine qU 7 rfl ?_;refine aa.nil ?_;refine AW.aB rfl ?_;rw[hn (fun e=>by have:=(s0.2 e).2.1;omega)];refine qX 1 rfl ?_;exact qN rfl
     rw[decide_eq_false h1];refine qU 5 rfl ?_;rw[aR];refine qU 1 rfl ?_;by_cases h2:(0:Int)<(yd.length:Int)
     · rw[decide_eq_true h2];refine qU 1 rfl ?_;refine aa.nil ?_;refine AW.aB rfl ?_;rw[hn (fun e=>by have:=(s0.2 e).2.2;omega)];refine qX 1 rfl ?_;exact qN rfl
     rw[decide_eq_false h2];refine qU 1 rfl ?_;refine aa.nil ?_;refine AW.ar rfl ?_;refine AW.skip ?_;refine qT 1 rfl ?_;rw[au (x:=(i:Int)+1) (by omega) (by omega)];refine qU 1 rfl ?_;refine aa.nil ?_;refine⟨i+1,rfl,fun j h1 h2=>?_,by omega⟩;by_cases e:j=i
     · rw[e,hq];exact s0.1 ⟨rfl,by omega,by omega⟩
     · exact hi j (by omega) h2
   have hii: ¬i<a.length:=by have:=of_decide_eq_false h;omega
   rw[hyes (fun j h=>hi j (by omega) h)];refine AW.exit ?_;refine qX 1 rfl ?_;exact qN rfl
end Lift
namespace Lift
open Go Go.Proofs
section
variable {P:Program} {T:Ty} {B:Nat} {F0:Nat→Prop} {w0:bV} {n:Nat} {σ τ:St} {K:St→Prop} {all:Array Oper} {o:Oper} {d:Nat} {rest:List Oper}
theorem aa.Et(hT:bb P T)(z:Nat){e:Nat}{te:TI}{m:Int}(hd:o.dst=some d)(hdn:Nat.ble (d+1) n=true)(hg:aA all σ o=true)(hx:FO T σ.get o.op=some (e,te,m))(hz:kl te=true)(hzd:q8 te= .ag [.v (.bool false),.sl 1 [],.sl 1 []])(hb:te.bytes=56)(hm:m=z)(h1:z≤1000000)
  (h:aa P B F0 w0 n all rest K ((d,.ow e (dV (List.replicate z 0)))::σ.kill d)):aa P B F0 w0 n all (o::rest) K σ:=by
 subst hm;refine aa.make hT hd hdn hg hx hz (by omega) (by rw[hb];omega) (by omega) ?_;have hq:(Qr 0).D= .ag [.v (.bool false),.sl 1 [],.sl 1 []]:=by rw[eF];rfl
 rw[hzd,← hq,show List.replicate ((z:Int)).toNat (Qr 0).D=dV (List.replicate z 0) by rw[dV,List.map_replicate];rfl];exact h
theorem AY(a:NQ)(m:Nat):(dV a).take (min (dV a).length (dV (List.replicate m 0)).length)++(dV (List.replicate m 0)).drop (min (dV a).length (dV (List.replicate m 0)).length)=dV (aX a m):=by
 rw[List.length_map,List.length_map,List.length_replicate,← List.map_take,← List.map_drop,← List.map_append];unfold aX;rw[List.drop_replicate]
 congr 2
 · by_cases h:a.length≤m
   · rw[Nat.min_eq_left h,List.take_of_length_le (Nat.le_refl _),List.take_of_length_le h]
   · rw[Nat.min_eq_right (by omega)]
 · congr 1;omega
theorem aa.Gl(hT:bb P T){h e m:Nat}{a:NQ}(hd:o.dst=some d)(hdn:Nat.ble (d+1) n=true)(hg:aA all σ o=true)(hx:GM T σ o.op=some (h,e,dV (List.replicate m 0),dV a))
  (hk: ∀z,aa P B F0 w0 n all rest K ((d,.d (.v (.int .i64 z)))::(h,.ow e (dV (aX a m)))::σ)):aa P B F0 w0 n all (o::rest) K σ:=by
 refine aa.CH hT hd hdn hg hx ?_;rw[AY];exact hk _
end
theorem yt{a b:NQ}(h:a.length=b.length)(h2: ∀i,i<a.length→a.getD i 0=b.getD i 0):a=b:=by
 refine List.ext_getElem h (fun i h3 h4=>?_);have:=h2 i h3;rw[List.getD_eq_getElem?_getD,List.getD_eq_getElem?_getD,List.getElem?_eq_getElem h3,List.getElem?_eq_getElem h4] at this;exact this
theorem yM(r:NQ)(i j:Nat)(q:Rat):(r.set i q).getD j 0=if j=i∧i<r.length then q else r.getD j 0:=by
 rw[List.getD_eq_getElem?_getD,List.getElem?_set,List.getD_eq_getElem?_getD];by_cases e:i=j
 · subst e;by_cases h:i<r.length
   · rw[if_pos rfl,if_pos h,if_pos ⟨rfl,h⟩];rfl
   · rw[if_pos rfl,if_neg h,if_neg (fun e=>h e.2),List.getElem?_eq_none (by omega)]
 · rw[if_neg e,if_neg (fun h=>e h.1.symm)]
def BU(r:NQ)(res:D)(R':List LR):Prop:= ∃V,res= .v V∧R'=[(V,AV.ow 68 (dV r))]
theorem gA(a:NQ)(n:Nat)(hn:n≤1000000):fS Tryz.prog 84 [ae a,dI n] [] (BU (aX a n)):=by
 refine fS.intro (n:=12) tok Tryz.func84 rfl rfl rfl (Nat.le_of_ble_eq_true rfl) (by kernel_rfl) (fun B F0 w0=>?_);refine AZ.seq ?_;refine AZ.dm (fun B1 F1 w1=>?_);refine qU 1 rfl ?_;refine aa.nil ⟨rfl,?_⟩;refine AZ.seq ?_;refine AZ.dm (fun B1 F1 w1=>?_);refine qU 1 rfl ?_;refine aa.Et tok n rfl rfl rfl rfl rfl rfl rfl rfl hn ?_;refine qU 1 rfl ?_;refine aa.nil ⟨rfl,?_⟩;refine AZ.seq ?_;refine AZ.dm (fun B1 F1 w1=>?_);refine qU 2 rfl ?_;refine aa.Gl tok (a:=a) (m:=n) rfl rfl rfl rfl (fun z=>?_);refine aa.nil ⟨rfl,?_⟩;refine AZ.seq ?_;refine AZ.dm (fun B1 F1 w1=>?_);refine qU 2 rfl ?_;refine aa.nil ⟨rfl,?_⟩;refine AZ.fL 4 rfl rfl rfl (fun V=>AZ.ret ⟨.v V,rfl,V,rfl,rfl⟩)
theorem dY(a:NQ){k:Nat}(hs:az k a)(hk:k≤17300000000000)(hl:a.length≤1000000):Pure Tryz.prog 129 [ae a] (ae (aY a)):=by
 refine qJ 23 Tryz.func129 rfl rfl rfl rfl (by kernel_rfl) (fun B F0 w0=>?_);refine qX 1 rfl ?_;refine qK 2 rfl ?_;rw[List.length_map];refine aa.Et tok a.length rfl rfl rfl rfl rfl rfl rfl rfl hl ?_;refine qU 1 rfl ?_;refine qI ?_;refine qX 2 rfl ?_;rw[List.length_map];refine qU 1 rfl ?_;refine aa.nil ?_;refine AW.block ?_;refine AW.aD [0,3,9,10] (fun s:Nat×NQ=>[(0,.d (ae a)),(3,.ow 68 (dV s.2)),(9,.d (dI a.length)),(10,.d (dI s.1))]) (fun s=>s.2.length=a.length∧ ∀j,j<s.1→j<a.length→s.2.getD j 0= -a.getD j 0) (fun s=>a.length-s.1) (0,List.replicate a.length 0) rfl ⟨List.length_replicate,fun j h=>by omega⟩ (fun s hi=>?_)
 · obtain ⟨i,r⟩:=s;obtain ⟨hrl,hi⟩:=hi;simp only[] at hrl hi;show AW _ _ _ _ _ _ _ [(0,.d (ae a)),(3,.ow 68 (dV r)),(9,.d (dI a.length)),(10,.d (dI i))];refine qX 1 rfl ?_;refine qI ?_;refine AW.cond rfl (fun h=>?_) (fun h=>?_)
   · have hii:i<a.length:=by have:=of_decide_eq_true h;omega
     have g:=kY hii;have cn:=qn (Qr (a.getD i 0)) (eN _ (hs i)) hk;rw[bH] at cn;refine AW.skip (AW.seq (AW.block ?_));refine qX 2 rfl ?_;refine aa.nil ?_;refine qT 4 rfl ?_;refine aa.idx tok (Qr (a.getD i 0)).D rfl rfl rfl rfl (Int.natCast_nonneg i) g ?_;refine qU 1 rfl ?_;refine aa.call tok rfl rfl rfl rfl cn ?_;refine aa.eJ tok rfl rfl rfl rfl (Int.natCast_nonneg i) (by rw[List.length_map];show i<_;omega) ?_;refine aa.xZ tok (-a.getD i 0) rfl rfl rfl (by show i<_;omega) ?_;refine aa.nil ?_;refine qT 1 rfl ?_;rw[au (x:=(i:Int)+1) (by omega) (by omega)];refine qU 1 rfl ?_;refine aa.nil ?_;refine⟨(i+1,r.set i (-a.getD i 0)),rfl,⟨by rw[List.length_set];exact hrl,fun j h1 h2=>?_⟩,by show a.length-(i+1)<a.length-i;omega⟩;show (r.set i (-a.getD i 0)).getD j 0=_;rw[yM];by_cases e:j=i
     · rw[if_pos ⟨e,by omega⟩,e]
     · rw[if_neg (fun h=>e h.1)];exact hi j (by omega) h2
   have hii: ¬i<a.length:=by have:=of_decide_eq_false h;omega
   obtain rfl:r=aY a:=yt (by rw[hrl,fc]) (fun j hj=>by rw[kC];exact hi j (by omega) (by omega));refine AW.exit ?_;refine qX 2 rfl ?_;exact qN rfl
theorem DR(a b:Nat):(if (b:Int)>(a:Int) then (b:Int) else (a:Int))=((max a b:Nat):Int):=by
 split<;>omega
theorem cW(a b:NQ){k:Nat}(ha:az k a)(hb:az k b)(hk:k≤17300000000000)(hl:a.length≤1000000)(hl2:b.length≤1000000):Pure Tryz.prog 44 [ae a,ae b] (ae (bh a b)):=by
 refine qJ 37 Tryz.func44 rfl rfl rfl rfl (by kernel_rfl) (fun B F0 w0=>?_);obtain ⟨n,hn⟩: ∃n,n=max a.length b.length:=⟨_,rfl⟩;have cw1:=gA a n (by omega);have cw2:=gA b n (by omega);have l1:=bj a n;have l2:=bj b n;have g1: ∀i,i<n→(aX a n).getD i 0=a.getD i 0:=fun i hi=>by rw[fk,if_pos hi]
 have g2: ∀i,i<n→(aX b n).getD i 0=b.getD i 0:=fun i hi=>by rw[fk,if_pos hi]
 have hpl:(bh a b).length=n:=by rw[iE,hn]
 generalize aX a n=wa at cw1 l1 g1;generalize aX b n=wb at cw2 l2 g2;refine qX 1 rfl ?_;refine qK 4 rfl ?_;rw[List.length_map,List.length_map];refine qU 2 rfl ?_;rw[DR,← hn];refine qI ?_;refine AZ.aw ?_;refine AZ.region ?_;refine an.cut 2 rfl (fun B1 F1 w1=>?_);refine qU 2 rfl ?_;refine aa.nil ⟨rfl,?_⟩;refine an.a7 tok [] rfl rfl rfl rfl rfl List.nodup_nil rfl cw1 (fun _ _ _=>Nat.zero_le _) (fun res R1 hP=>?_);obtain ⟨V1,rfl,rfl⟩:=hP;refine an.cut 2 rfl (fun B1 F1 w1=>?_);refine qU 2 rfl ?_;refine aa.nil ⟨rfl,?_⟩;refine an.a7 tok [] rfl rfl rfl rfl rfl List.nodup_nil rfl cw2 (fun _ _ _=>Nat.zero_le _) (fun res R1 hP=>?_);obtain ⟨V2,rfl,rfl⟩:=hP;refine an.cut 2 rfl (fun B1 F1 w1=>?_);refine qU 2 rfl ?_;refine aa.nil ⟨rfl,?_⟩;refine an.to [0,1] [(0,.d (.v V1)),(1,.d (.v V2))] rfl ?_;refine an.cy 0 0 (V:=V1) (av:= .ow 68 (dV wa)) rfl rfl rfl ?_;refine an.to [0,1] [(0,.ow 68 (dV wa)),(1,.d (.v V2))] rfl ?_;refine an.cy 1 1 (V:=V2) (av:= .ow 68 (dV wb)) rfl rfl rfl ?_;refine an.to [0,1] [(0,.ow 68 (dV wa)),(1,.ow 68 (dV wb))] rfl ?_;refine an.nil ?_;refine AW.gO tok 1 rfl rfl ?_;refine AW.seq ?_;refine qX 2 rfl ?_;rw[List.length_map,l1];refine qU 1 rfl ?_;refine aa.nil ?_;refine AW.block ?_;refine AW.aD [0,1,19,20] (fun s:Nat×NQ=>[(0,.ow 68 (dV s.2)),(1,.d (ae wb)),(19,.d (dI n)),(20,.d (dI s.1))]) (fun s=>s.2.length=n∧ ∀j,j<n→s.2.getD j 0=if j<s.1 then a.getD j 0+b.getD j 0 else a.getD j 0) (fun s=>n-s.1) (0,wa) rfl ⟨l1,fun j h=>by rw[if_neg (Nat.not_lt_zero _)];exact g1 j h⟩ (fun s hi=>?_)
 · obtain ⟨i,r⟩:=s;obtain ⟨hrl,hi⟩:=hi;simp only[] at hrl hi;show AW _ _ _ _ _ _ _ [(0,.ow 68 (dV r)),(1,.d (ae wb)),(19,.d (dI n)),(20,.d (dI i))];refine qX 1 rfl ?_;refine qI ?_;refine AW.cond rfl (fun h=>?_) (fun h=>?_)
   · have hii:i<n:=by have:=of_decide_eq_true h;omega
     have e1:=kY (r:=r) (i:=i) (by omega);have e2:=kY (r:=wb) (i:=i) (by omega);rw[hi i hii,if_neg (Nat.lt_irrefl _)] at e1;rw[g2 i hii] at e2;have ca:=kW (Qr (a.getD i 0)) (Qr (b.getD i 0)) (eN _ (ha i)) (eN _ (hb i)) hk;rw[bH,bH] at ca;refine AW.skip (AW.seq (AW.block ?_));refine qX 2 rfl ?_;refine aa.nil ?_;refine AW.draw aI 12 (by kernel_rfl) ?_;refine qP 4 rfl ?_;refine af.eJ tok rfl rfl rfl rfl rfl rfl (Int.natCast_nonneg i) (by rw[List.length_map];show i<_;omega) ?_;refine af.cu tok (Qr (a.getD i 0)).D rfl rfl rfl rfl rfl e1 rfl ?_;refine qP 2 rfl ?_;refine af.idx tok (Qr (b.getD i 0)).D rfl rfl rfl rfl rfl (Int.natCast_nonneg i) e2 ?_;refine qP 1 rfl ?_;refine af.call tok rfl rfl rfl rfl rfl ca ?_;refine af.eJ tok rfl rfl rfl rfl rfl rfl (Int.natCast_nonneg i) (by rw[List.length_map];show i<_;omega) ?_;refine af.nil ?_;refine aa.xZ tok (a.getD i 0+b.getD i 0) rfl rfl rfl (by show i<_;omega) ?_;refine aa.nil ?_;refine qT 1 rfl ?_;rw[au (x:=(i:Int)+1) (by omega) (by omega)];refine qU 1 rfl ?_;refine aa.nil ?_;refine⟨(i+1,r.set i (a.getD i 0+b.getD i 0)),rfl,⟨by rw[List.length_set];exact hrl,fun j h1=>?_⟩,by show n-(i+1)<n-i;omega⟩;show (r.set i (a.getD i 0+b.getD i 0)).getD j 0=if j<i+1 then _ else _
     rw[yM];by_cases e:j=i
     · rw[if_pos ⟨e,by omega⟩,e,if_pos (by omega)]
     · rw[if_neg (fun h=>e h.1),hi j h1];by_cases h2:j<i
       · rw[if_pos h2,if_pos (by omega)]
       · rw[if_neg h2,if_neg (by omega)]
   have hii: ¬i<n:=by have:=of_decide_eq_false h;omega
   obtain rfl:r=bh a b:=yt (by rw[hrl,hpl]) (fun j hj=>by rw[jY,hi j (by omega),if_pos (by omega)]);refine AW.exit ?_;refine qX 2 rfl ?_;exact qN rfl
theorem jD(a b:NQ)(n:Nat)(hn:n≤100000):Pure Tryz.prog 172 [ae a,ae b,dI n] (ae (fZ a b n)):=by
 refine qJ 14 Tryz.func172 rfl rfl rfl rfl (by kernel_rfl) (fun B F0 w0=>?_);have cw1:=gA a n (by omega);have cw2:=gA b n (by omega);have l1:=bj a n;have l2:=bj b n;unfold fZ;generalize aX a n=wa at cw1 l1 ⊢;generalize aX b n=wb at cw2 l2 ⊢;refine qX 1 rfl ?_;refine qI ?_;refine AZ.aw ?_;refine AZ.region ?_;refine an.cut 2 rfl (fun B1 F1 w1=>?_);refine qU 2 rfl ?_;refine aa.nil ⟨rfl,?_⟩;refine an.a7 tok [] rfl rfl rfl rfl rfl List.nodup_nil rfl cw1 (fun _ _ _=>Nat.zero_le _) (fun res R1 hP=>?_);obtain ⟨V1,rfl,rfl⟩:=hP;refine an.cut 2 rfl (fun B1 F1 w1=>?_);refine qU 2 rfl ?_;refine aa.nil ⟨rfl,?_⟩;refine an.a7 tok [] rfl rfl rfl rfl rfl List.nodup_nil rfl cw2 (fun _ _ _=>Nat.zero_le _) (fun res R1 hP=>?_);obtain ⟨V2,rfl,rfl⟩:=hP;refine an.to [9,12] [(9,.d (.v V1)),(12,.d (.v V2))] rfl ?_;refine an.cy 9 0 (V:=V1) (av:= .ow 68 (dV wa)) rfl rfl rfl ?_;refine an.to [9,12] [(9,.ow 68 (dV wa)),(12,.d (.v V2))] rfl ?_;refine an.cy 12 1 (V:=V2) (av:= .ow 68 (dV wb)) rfl rfl rfl ?_;refine an.to [9,12] [(9,.ow 68 (dV wa)),(12,.ow 68 (dV wb))] rfl ?_;refine an.cut 2 rfl (fun B1 F1 w1=>?_);refine aa.gO tok 12 rfl rfl ?_;refine aa.kI tok rfl rfl rfl rfl rfl rfl (by rw[List.length_map,List.length_map,l1,l2];show (_+_)*56≤_;omega) (by rw[List.length_map,List.length_map,l1,l2];omega) ?_;refine qU 1 rfl ?_;refine aa.nil ⟨rfl,?_⟩;refine an.nil ?_;rw[show dV wa++dV wb=dV (wa++wb) from List.map_append.symm];exact AW.ret rfl
theorem gU(a:NQ){k:Nat}(hs:az k a)(hk:k≤17300000000000)(hl:a.length≤1000000):Pure Tryz.prog 82 [ae a] (ae a):=by
 refine qJ 28 Tryz.func82 rfl rfl rfl rfl (by kernel_rfl) (fun B F0 w0=>?_);refine qX 1 rfl ?_;refine qK 1 rfl ?_;refine qI ?_;refine qX 2 rfl ?_;rw[List.length_map];refine qU 1 rfl ?_;refine aa.nil ?_;refine AW.block ?_;refine AW.aD [3,6,7,8] (fun i:Nat=>[(3,.ow 68 (dV (a.take i))),(6,.d (ae a)),(7,.d (dI a.length)),(8,.d (dI i))]) (fun i=>i≤a.length) (fun i=>a.length-i) 0 rfl (Nat.zero_le _) (fun i hi=>?_)
 · have hi:i≤a.length:=hi;show AW _ _ _ _ _ _ _ [(3,.ow 68 (dV (a.take i))),(6,.d (ae a)),(7,.d (dI a.length)),(8,.d (dI i))];refine qX 1 rfl ?_;refine qI ?_;refine AW.cond rfl (fun h=>?_) (fun h=>?_)
   · have hii:i<a.length:=by have:=of_decide_eq_true h;omega
     have g:=kY hii;have hw:=eN _ (hs i);have htk:=rr a 0 hii;have hol:(a.take i).length=i:=by rw[List.length_take];omega
     generalize a.getD i 0=q at g hw htk;have hw1:=hw.2.2.1;have hw2:=hw.2.2.2;refine AW.skip (AW.seq (AW.block (AW.seq (AW.region ?_))));refine aa.idx tok (Qr q).D rfl rfl rfl rfl (Int.natCast_nonneg i) g ?_;refine qU 3 rfl ?_;refine aa.nil ?_;refine AW.draw aI 13 (by kernel_rfl) ?_;refine qP 6 rfl ?_;refine af.lY tok rfl rfl rfl rfl rfl (by show (((Qr q).n.map wd).length)*4≤_;rw[aR];omega) ?_;refine qP 3 rfl ?_;refine af.lY tok rfl rfl rfl rfl rfl (by show (((Qr q).d.map wd).length)*4≤_;rw[aR];omega) ?_;refine qP 1 rfl ?_;refine af.kc tok rfl rfl rfl rfl rfl rfl ?_;refine af.nil ?_;refine aa.kI tok rfl rfl rfl rfl rfl rfl (by rw[List.length_map,hol];show (_+1)*56≤_;omega) (by rw[List.length_map,hol];show _+1≤_;omega) ?_;refine qU 1 rfl ?_;refine aa.nil ?_;refine qT 1 rfl ?_;rw[au (x:=(i:Int)+1) (by omega) (by omega)];refine qU 1 rfl ?_;refine aa.nil ?_;exact⟨i+1,by rw[htk];show _=[(3,AV.ow _ (List.map _ _)),_,_,_];rw[List.map_append];rfl,hii,by omega⟩
   have hii:i=a.length:=by have:=of_decide_eq_false h;omega
   subst hii;rw[List.take_length];refine AW.exit ?_;refine qX 2 rfl ?_;exact qN rfl
end Lift
namespace Lift
open Go Go.Proofs
section
variable {P:Program} {T:Ty} {B:Nat} {F0:Nat→Prop} {w0:bV} {n:Nat} {σ σ0 τ:St} {K:St→Prop} {all ops:Array Oper} {o:Oper} {d:Nat} {ds:List Nat} {rest:List Oper}
theorem zt(a:NQ)(lo hi:Option Int):((dV a).take (bQ (dV a).length hi)).drop (eB lo)=dV ((a.take (bQ a.length hi)).drop (eB lo)):=by
 show List.drop _ (List.take (bQ (List.map _ a).length hi) (List.map _ a))=List.map _ _;rw[List.map_drop,List.map_take,List.length_map]
theorem aa.fC(hT:bb P T){a:NQ}{lo hi:Option Int}(x:NQ)(hd:o.dst=some d)(hdn:Nat.ble (d+1) n=true)(hg:aA all σ o=true)(hx:Ap T σ.get o.op=some (ae a,lo,hi))(g1:okB lo)(g2:okB hi)(g3:eB lo≤bQ a.length hi)(g4:bQ a.length hi≤a.length)(hxx:(a.take (bQ a.length hi)).drop (eB lo)=x)
  (h:aa P B F0 w0 n all rest K ((d,.d (ae x))::σ)):aa P B F0 w0 n all (o::rest) K σ:=by
 refine aa.zu hT hd hdn hg hx g1 g2 (by rw[List.length_map];exact g3) (by rw[List.length_map];exact g4) ?_;rw[zt,hxx];exact h
theorem af.fC(hT:bb P T){a:NQ}{lo hi:Option Int}(x:NQ)(hd:o.dst=some d)(hdn:Nat.ble (d+1) n=true)(hg:aA ops τ o=true)(hs:σ0.get d=none)(hx:Ap T τ.get o.op=some (ae a,lo,hi))(g1:okB lo)(g2:okB hi)(g3:eB lo≤bQ a.length hi)(g4:bQ a.length hi≤a.length)(hxx:(a.take (bQ a.length hi)).drop (eB lo)=x)
  (h:af P B F0 w0 n ops ds σ0 rest ((d,.d (ae x))::τ) K):af P B F0 w0 n ops ds σ0 (o::rest) τ K:=by
 refine af.zu hT hd hdn hg hs hx g1 g2 (by rw[List.length_map];exact g3) (by rw[List.length_map];exact g4) ?_;rw[zt,hxx];exact h
end
theorem f'(i:Nat)(h:i≤9223372036854775807):k0 true .i64 (i:Int) 2= .int .i64 ((i / 2:Nat):Int):=by
 have e:((i:Int).tdiv ((2:Nat):Int))=((i / 2:Nat):Int):=rfl;show Value.int .i64 (IntKind.i64.wrap ((i:Int).tdiv ((2:Nat):Int)))=_;rw[e,au (by omega) (by omega)]
theorem xu{rt:List NQ}{i:Nat}(h:i<rt.length):(rt.map ae)[i]?=some (ae (rt.getD i [])):=by simp[h]
theorem ay.len{l:Nat}{a:NQ}(h:ay l a)(hl:l≤10):a.length≤1024:=Nat.le_trans h.le (Nat.pow_le_pow_right (n:=2) (by decide) hl)
def gh:Nat→NQ→NQ
 | 0,a=>if bg (a.take 1)=true then [] else a.take 1
 | i+1,a=>if bg ((a.take (2^(i+1))).drop (2^i))=true then gh i a else a.take (2^(i+1))
def aG(a:NQ):NQ:=if a.length=0 then [] else gh a.length.log2 a
theorem zv: ∀{i:Nat} {a:NQ} {k:Nat},2^i≤a.length→az k a→ay i (gh i a)∧az k (gh i a)
 | 0,a,k,h,hs=>by
   unfold gh;split
   · exact⟨bY _,dD hs.pos⟩
   · exact⟨.inr ⟨0,Nat.le_refl _,by rw[List.length_take];have h:1≤a.length:=h;show min 1 _=1;omega⟩,hs.take _⟩
 | i+1,a,k,h,hs=>by
   unfold gh;have e:2^(i+1)=2^i*2:=Nat.pow_succ ..;split
   · have:=zv (i:=i) (a:=a) (by omega) hs;exact⟨this.1.mono (by omega),this.2⟩
   · exact⟨.inr ⟨i+1,Nat.le_refl _,by rw[List.length_take];omega⟩,hs.take _⟩
theorem bk{l k:Nat}{a:NQ}(h:ay l a)(hs:az k a):ay l (aG a)∧az k (aG a):=by
 unfold aG;split
 · exact⟨bY _,dD hs.pos⟩
 rename_i h0;rcases h with e | ⟨i,hi,e⟩
 · exact absurd e h0
 rw[e,Nat.log2_two_pow];have:=zv (i:=i) (a:=a) (by omega) hs;exact⟨this.1.mono hi,this.2⟩
theorem bm(a:NQ){l k:Nat}(ha:ay l a)(hl:l≤5)(hs:az k a)(hk:k≤17300000000000):Pure Tryz.prog 43 [ae a] (ae (aG a)):=by
 refine qJ 45 Tryz.func43 rfl rfl rfl rfl (by kernel_rfl) (fun B F0 w0=>?_);have hl10:=ha.len (by omega);rcases ha with h0 | ⟨i,hi,hai⟩
 · obtain rfl:a=[]:=List.length_eq_zero_iff.1 h0;have cl:=kN (dV []) (fun i=>by have:=Nat.two_pow_pos i;show 0≠_;omega) (by decide);have cc:=gU [] hs hk (by decide);refine qX 1 rfl ?_;refine qI ?_;refine qX 1 rfl ?_;refine aa.call tok rfl rfl rfl rfl cl ?_;refine qU 1 rfl ?_;refine qK 11 rfl ?_;refine aa.nil ?_;refine AW.ar rfl ?_;refine AW.skip ?_;refine qX 3 rfl ?_;refine qI (AW.block ?_);refine AW.aD [0,4] (fun _:Unit=>[(0,.d (ae [])),(4,.d (dI 0))]) (fun _=>True) (fun _=>0) () rfl trivial (fun _ _=>?_);refine AW.seq ?_;refine qX 10 rfl ?_;refine aa.nil ?_;refine AW.ar rfl ?_;refine AW.exit (AW.seq ?_);refine qX 7 rfl ?_;refine aa.nil ?_;refine AW.ar rfl ?_;refine AW.skip ?_;refine qX 2 rfl ?_;refine aa.fC tok (a:=[]) [] rfl rfl rfl rfl trivial (Int.le_refl _) (Nat.le_refl _) (Nat.le_refl _) rfl ?_;refine aa.call tok rfl rfl rfl rfl cc ?_;refine qU 1 rfl ?_;exact qN rfl
 have cl:=dC (dV a) (by rw[List.length_map];exact hai) (by omega);have hp:=Nat.two_pow_pos i;have hE:aG a=gh i a:=by unfold aG;rw[if_neg (by omega),hai,Nat.log2_two_pow]
 rw[hE];refine qX 1 rfl ?_;refine qI ?_;refine qX 1 rfl ?_;refine aa.call tok rfl rfl rfl rfl cl ?_;refine qU 1 rfl ?_;refine qK 2 rfl ?_;rw[List.length_map];refine qU 1 rfl ?_;rw[decide_eq_true (show (0:Int)<(a.length:Int) by omega)];refine qU 3 rfl ?_;rw[decide_eq_false (show ¬((i:Int)<0) by omega)];refine qU 3 rfl ?_;rw[decide_eq_false (show ¬((5:Int)<(i:Int)) by omega)];refine qU 2 rfl ?_;refine aa.nil ?_;refine AW.ar rfl ?_;refine AW.skip ?_;refine qX 2 rfl ?_;rw[List.length_map,hai];refine qU 1 rfl ?_;refine qI (AW.block ?_);refine AW.aD [0,4] (fun j:Nat=>[(0,.d (ae a)),(4,.d (dI (2^j:Nat)))]) (fun j=>j≤i∧gh j a=gh i a) (fun j=>j) i rfl ⟨Nat.le_refl _,rfl⟩ (fun j hj=>?_);obtain ⟨hj,hjE⟩:=hj;show AW _ _ _ _ _ _ _ [(0,.d (ae a)),(4,.d (dI (2^j:Nat)))];have hpj:2^j≤2^i:=Nat.pow_le_pow_right (by decide) hj;have hpp:=Nat.two_pow_pos j;refine AW.seq ?_;refine qX 2 rfl ?_;rcases j with _ | j
 · refine qU 8 rfl ?_;refine aa.nil ?_;refine AW.ar rfl ?_;refine AW.exit (AW.seq ?_);refine qX 4 rfl ?_;refine aa.fC tok (a:=a) (a.take 1) rfl rfl rfl rfl trivial (show (0:Int)≤1 by decide) (Nat.zero_le _) (show 1≤a.length by omega) rfl ?_;refine aa.call tok rfl rfl rfl rfl (lg (a.take 1) (by rw[List.length_take];omega)) ?_;refine qU 1 rfl ?_;refine aa.nil ?_;rw[← hjE];unfold gh;cases hz:bg (a.take 1) with
   | true =>
     rw[if_pos rfl];refine AW.aB rfl ?_;refine qX 1 rfl ?_;exact qN rfl
   | false =>
     rw[if_neg (by simp)];refine AW.ar rfl ?_;refine AW.skip ?_;refine qX 2 rfl ?_;refine aa.fC tok (a:=a) (a.take 1) rfl rfl rfl rfl trivial (show (0:Int)≤1 by decide) (Nat.zero_le _) (show 1≤a.length by omega) rfl ?_;refine aa.call tok rfl rfl rfl rfl (gU (a.take 1) (hs.take 1) hk (by rw[List.length_take];omega)) ?_;refine qU 1 rfl ?_;exact qN rfl
 have e2:2^(j+1)=2^j*2:=Nat.pow_succ ..;have eh:=jX j;rw[decide_eq_true (show (1:Int)<((2^(j+1):Nat):Int) by have:=Nat.two_pow_pos j;omega)];refine qU 3 rfl ?_;refine aa.div tok rfl rfl rfl rfl (by decide) ?_;rw[f' _ (by omega),eh];refine qU 1 rfl ?_;refine aa.fC tok (a:=a) ((a.take (2^(j+1))).drop (2^j)) rfl rfl rfl rfl (Int.natCast_nonneg _) (Int.natCast_nonneg _) (show 2^j≤2^(j+1) by omega) (show 2^(j+1)≤a.length by omega) rfl ?_;refine aa.call tok rfl rfl rfl rfl (lg _ (by rw[List.length_drop,List.length_take];omega)) ?_;refine qU 1 rfl ?_;refine aa.nil ?_;cases hz:bg ((a.take (2^(j+1))).drop (2^j)) with
 | true =>
   refine AW.aB rfl ?_;refine AW.skip (AW.block ?_);refine qT 1 rfl ?_;refine aa.div tok rfl rfl rfl rfl (by decide) ?_;rw[f' _ (by omega),eh];refine qU 1 rfl ?_;refine aa.nil ?_;exact⟨j,rfl,⟨by omega,by rw[← hjE];show _=if bg ((a.take (2^(j+1))).drop (2^j))=true then _ else _;rw[if_pos hz]⟩,by omega⟩
 | false =>
 refine AW.ar rfl ?_;refine AW.exit (AW.seq ?_);refine qX 2 rfl ?_;rw[beq_eq_false_iff_ne.2 (show ((2^(j+1):Nat):Int)≠1 by have:=Nat.two_pow_pos j;omega)];refine qU 5 rfl ?_;refine aa.nil ?_;refine AW.ar rfl ?_;refine AW.skip ?_;refine qX 2 rfl ?_;refine aa.fC tok (a:=a) (a.take (2^(j+1))) rfl rfl rfl rfl trivial (Int.natCast_nonneg _) (Nat.zero_le _) (show 2^(j+1)≤a.length by omega) rfl ?_;refine aa.call tok rfl rfl rfl rfl (gU _ (hs.take _) hk (by rw[List.length_take];omega)) ?_;refine qU 1 rfl ?_;refine aa.nil ?_;rw[← hjE];unfold gh;rw[if_neg (by rw[hz];simp)];exact AW.ret rfl
end Lift
namespace Lift
open Go Go.Proofs
abbrev mM(a:NQ):Prop:=az 17300000000000 a
def GH(R:NQ→NQ→NQ)(O:NQ→NQ→Prop)(rt:List NQ)(a b:NQ):Prop :=
 mM a∧mM b∧(a.length≠1→bg a=false→bg b=false →
  (b.length≤a.length / 2→O (a.take (a.length / 2)) b∧O (a.drop (a.length / 2)) b) ∧
  (¬b.length≤a.length / 2→(O (a.take (a.length / 2)) (b.take (a.length / 2))∧O (a.drop (a.length / 2)) (b.drop (a.length / 2))∧O (R (a.drop (a.length / 2)) (b.drop (a.length / 2))) (rt.getD (a.length.log2-1) []) ∧
   O (a.take (a.length / 2)) (b.drop (a.length / 2))∧O (a.drop (a.length / 2)) (b.take (a.length / 2))) ∧
   mM (R (a.take (a.length / 2)) (b.take (a.length / 2)))∧mM (R (R (a.drop (a.length / 2)) (b.drop (a.length / 2))) (rt.getD (a.length.log2-1) []))∧mM (R (a.take (a.length / 2)) (b.drop (a.length / 2)))∧mM (R (a.drop (a.length / 2)) (b.take (a.length / 2)))))
def wY(R:NQ→NQ→NQ)(O:NQ→NQ→Prop)(rt:List NQ)(a b:NQ):Prop:=if a.length<b.length then GH R O rt b a else GH R O rt a b
def zJ:Nat→List NQ→NQ→NQ→Prop
 | 0,rt,a,b=>wY (fun _ _=>[]) (fun _ _=>True) rt a b
 | l+1,rt,a,b=>wY (bc l rt) (zJ l rt) rt a b
set_option maxHeartbeats 1600000 in
theorem rq{l:Nat}{R:NQ→NQ→NQ}{O:NQ→NQ→Prop}{rt:List NQ}{a b:NQ}(ha:ay l a)(hb:ay l b)(hrt:db rt)(hl:l≤rt.length)(hl5:rt.length≤10)(hok:wY R O rt a b)
  (hR: ∀l',l=l'+1→ ∀a' b',ay l' a'→ay l' b'→O a' b'→Pure Tryz.prog 128 [aL rt,ae a',ae b'] (ae (R a' b'))∧ay l' (R a' b')):
  Pure Tryz.prog 128 [aL rt,ae a,ae b] (ae (jM (iT R rt) a b)):=by
 refine qJ 100 Tryz.func128 rfl rfl rfl rfl (by kernel_rfl) (fun B F0 w0=>?_);have hla:=ha.len (by omega);have hlb:=hb.len (by omega);unfold wY at hok;refine qX 2 rfl ?_;refine aa.nil ?_;refine AW.cut [1,2,3] (fun s:NQ×NQ=>[(1,.d (ae s.1)),(2,.d (ae s.2)),(3,.bx [.sl 1 (rt.map ae)])]) (fun s=>iT R rt s.1 s.2=jM (iT R rt) a b∧s.2.length≤s.1.length∧ay l s.1∧ay l s.2∧GH R O rt s.1 s.2) ?_ (fun s hs=>?_)
 · refine qX 4 rfl ?_;rw[List.length_map,List.length_map];refine qU 1 rfl ?_;refine aa.nil ?_;unfold jM;by_cases hab:a.length<b.length
   · rw[decide_eq_true (show (a.length:Int)<(b.length:Int) by omega),if_pos hab];refine AW.aB rfl ?_;refine qT 4 rfl ?_;refine aa.nil ?_;exact⟨(b,a),rfl,rfl,by show a.length≤b.length;omega,hb,ha,by rw[if_pos hab] at hok;exact hok⟩
   · rw[decide_eq_false (show ¬(a.length:Int)<(b.length:Int) by omega),if_neg hab];refine AW.ar rfl ?_;refine AW.skip ?_;exact⟨(a,b),rfl,rfl,by show b.length≤a.length;omega,ha,hb,by rw[if_neg hab] at hok;exact hok⟩
 · obtain ⟨x,y⟩:=s;obtain ⟨hE,hab,ha,hb,sa,sb,hm⟩:=hs;simp only[] at hE hab ha hb sa sb hm;show AW _ _ _ _ _ _ _ [(1,.d (ae x)),(2,.d (ae y)),(3,.bx [.sl 1 (rt.map ae)])];rw[← hE];clear hE;clear hok;generalize x=a at *;generalize y=b at *;have hla:=ha.len (by omega);have hlb:=hb.len (by omega);have cz1:=my a sa (by omega) (by omega);have cz2:=my b sb (by omega) (by omega);unfold iT;refine AW.seq (AW.block ?_);refine qX 1 rfl ?_;refine aa.call tok rfl rfl rfl rfl cz1 ?_;cases hza:bg a with
   | true =>
     rw[if_pos (by rfl)];refine qU 5 rfl ?_;refine aa.nil ?_;refine AW.aB rfl ?_;refine qX 1 rfl ?_;exact qN rfl
   | false =>
   refine qU 2 rfl ?_;refine aa.call tok rfl rfl rfl rfl cz2 ?_;refine qU 2 rfl ?_;refine aa.nil ?_;cases hzb:bg b with
   | true =>
     rw[if_pos (by rfl)];refine AW.aB rfl ?_;refine qX 1 rfl ?_;exact qN rfl
   | false =>
   rw[if_neg (by decide)];refine AW.ar rfl ?_;refine qX 2 rfl ?_;rw[List.length_map];refine qU 2 rfl ?_;refine aa.nil ?_;have hb0:0<b.length:=List.length_pos_iff.2 (l0 hzb);have ha0:0<a.length:=List.length_pos_iff.2 (l0 hza);by_cases h1:a.length=1
   · rw[if_pos h1,beq_iff_eq.2 (show (a.length:Int)=1 by omega)];have g1:=kY (r:=a) (i:=0) ha0;have g2:=kY (r:=b) (i:=0) hb0;have cm:=qo (Qr (a.getD 0 0)) (Qr (b.getD 0 0)) (eN _ (sa 0)) (eN _ (sb 0)) (by omega);rw[bH,bH] at cm;refine AW.aB rfl ?_;refine AW.seq ?_;refine AW.draw aI 8 (by kernel_rfl) ?_;refine qP 1 rfl ?_;refine af.idx tok (Qr (a.getD 0 0)).D rfl rfl rfl rfl rfl (Int.le_refl _) g1 ?_;refine qP 2 rfl ?_;refine af.idx tok (Qr (b.getD 0 0)).D rfl rfl rfl rfl rfl (Int.le_refl _) g2 ?_;refine qP 1 rfl ?_;refine af.call tok rfl rfl rfl rfl rfl cm ?_;refine af.kc tok rfl rfl rfl rfl rfl rfl ?_;refine af.nil ?_;refine qU 1 rfl ?_;exact qN rfl
   rw[if_neg h1,beq_eq_false_iff_ne.2 (show (a.length:Int)≠1 by omega)];refine AW.ar rfl ?_;refine AW.skip ?_
   obtain ⟨i,hi,hla2⟩: ∃i,i≤l∧a.length=2^i:=by
    rcases ha with e | e
    · omega
    · exact e
   have vX:i≠0:=fun e=>h1 (by rw[hla2,e]);obtain ⟨j,rfl⟩: ∃j,i=j+1:=⟨i-1,by omega⟩;obtain ⟨l',rfl⟩: ∃l',l=l'+1:=⟨l-1,by omega⟩;have hj:j≤l':=by omega
   have hR:=fun a' b' h1 h2 h3=>hR l' rfl a' b' h1 h2 h3;obtain ⟨hm1,hm2⟩:=hm h1 hza hzb;obtain ⟨e1,e2,e3⟩:=bG hla2;have hx:ay l' (a.take (a.length / 2)):= .inr ⟨j,hj,e1⟩;have hy:ay l' (a.drop (a.length / 2)):= .inr ⟨j,hj,e2⟩;have hlog:a.length.log2-1=j:=by rw[hla2,Nat.log2_two_pow];omega
   obtain ⟨n,hn⟩: ∃n,n=a.length / 2:=⟨_,rfl⟩
   have hn2:a.length=n+n:=by
    have:2^(j+1)=2^j*2:=Nat.pow_succ ..;omega
   rw[← hn] at e1 e2 e3 hx hy hm1 hm2 ⊢;refine qX 2 rfl ?_;rw[List.length_map];refine aa.div tok rfl rfl rfl rfl (by decide) ?_;rw[f' _ (by omega),← hn];refine qU 1 rfl ?_;refine qI ?_;refine AW.draw aI 7 (by kernel_rfl) ?_;refine qP 2 rfl ?_;refine af.fC tok (a:=a) (a.take n) rfl rfl rfl rfl rfl trivial (Int.natCast_nonneg n) (Nat.zero_le _) (show n≤a.length by omega) rfl ?_;refine qP 2 rfl ?_;refine af.fC tok (a:=a) (a.drop n) rfl rfl rfl rfl rfl (Int.natCast_nonneg n) trivial (show n≤a.length by omega) (Nat.le_refl _) (by show (a.take a.length).drop n=_;rw[List.take_length]) ?_;refine qP 1 rfl ?_;refine af.nil ?_;refine qU 1 rfl ?_;refine qI ?_;refine qX 2 rfl ?_;rw[List.length_map];refine qU 2 rfl ?_;refine aa.nil ?_;by_cases h3:b.length≤n
   · rw[if_pos h3,decide_eq_true (show (b.length:Int)≤(n:Int) by omega)]
     have hb':ay l' b:=by
      rcases hb with e | ⟨i',_,e⟩
      · exact .inl e
      · refine .inr ⟨i',?_,e⟩;rw[e3,e] at h3;have:=ir h3;omega
     have r1:=hR _ _ hx hb' (hm1 h3).1;have r2:=hR _ _ hy hb' (hm1 h3).2;have cj:=jD (R (a.take n) b) (R (a.drop n) b) n (by omega);refine AW.aB rfl ?_;refine AW.seq ?_;refine AW.draw aI 10 (by kernel_rfl) ?_;refine qP 3 rfl ?_;refine af.call tok rfl rfl rfl rfl rfl r1.1 ?_;refine qP 3 rfl ?_;refine af.call tok rfl rfl rfl rfl rfl r2.1 ?_;refine qP 1 rfl ?_;refine af.call tok rfl rfl rfl rfl rfl cj ?_;refine af.nil ?_;refine qU 1 rfl ?_;exact qN rfl
   rw[if_neg h3,decide_eq_false (show ¬(b.length:Int)≤(n:Int) by omega)]
   have hlb2:b.length=2^(j+1):=by
    rcases hb with e | ⟨i',_,e⟩
    · omega
    · rw[e] at h3 hab ⊢;rw[hla2] at hab;rw[e3] at h3;have h4:=ir hab;have h5: ¬i'≤j:=fun h=>h3 (Nat.pow_le_pow_right (by decide) h);rw[show i'=j+1 by omega]
   obtain ⟨f1,f2,f3⟩:=bG hlb2;rw[show b.length / 2=n by omega] at f1 f2;have hu:ay l' (b.take n):= .inr ⟨j,hj,f1⟩;have hv:ay l' (b.drop n):= .inr ⟨j,hj,f2⟩;obtain ⟨⟨o1,o2,o5,o3,o4⟩,z1,z5,z3,z4⟩:=hm2 h3;rw[hlog] at o5 z5;have r1:=hR _ _ hx hu o1;have r2:=hR _ _ hy hv o2;have r3:=hR _ _ hx hv o3;have r4:=hR _ _ hy hu o4;rw[hlog];have hd:ay l' (rt.getD j []):= .inr ⟨j,hj,hrt j (by omega)⟩;have r5:=hR _ _ r2.2 hd o5;have n1:=r1.2.len (by omega);have n3:=r3.2.len (by omega);have n4:=r4.2.len (by omega);have n5:=r5.2.len (by omega);have p1:=cW (R (a.take n) (b.take n)) (R (R (a.drop n) (b.drop n)) (rt.getD j [])) z1 z5 (by omega) (by omega) (by omega);have p2:=cW (R (a.take n) (b.drop n)) (R (a.drop n) (b.take n)) z3 z4 (by omega) (by omega) (by omega);have cj:=jD (bh (R (a.take n) (b.take n)) (R (R (a.drop n) (b.drop n)) (rt.getD j []))) (bh (R (a.take n) (b.drop n)) (R (a.drop n) (b.take n))) n (by omega);have cl:=dC (dV a) (by rw[List.length_map];exact hla2) (by omega);refine AW.ar rfl ?_;refine AW.skip (AW.seq ?_);refine AW.draw aI 7 (by kernel_rfl) ?_;refine qP 2 rfl ?_;refine af.fC tok (a:=b) (b.take n) rfl rfl rfl rfl rfl trivial (Int.natCast_nonneg n) (Nat.zero_le _) (show n≤b.length by omega) rfl ?_;refine qP 2 rfl ?_;refine af.fC tok (a:=b) (b.drop n) rfl rfl rfl rfl rfl (Int.natCast_nonneg n) trivial (show n≤b.length by omega) (Nat.le_refl _) (by show (b.take b.length).drop n=_;rw[List.take_length]) ?_;refine qP 1 rfl ?_;refine af.nil ?_;refine qU 1 rfl ?_;refine qI ?_;refine AW.draw aI 7 (by kernel_rfl) ?_;refine qP 3 rfl ?_;refine af.call tok rfl rfl rfl rfl rfl cl ?_;refine qP 1 rfl ?_;rw[au (x:=((j+1:Nat):Int) -1) (by omega) (by omega),show ((j+1:Nat):Int) -1=(j:Int) by omega];refine af.idx tok (ae (rt.getD j [])) rfl rfl rfl rfl rfl (Int.natCast_nonneg j) (xu (by omega)) ?_;refine qP 1 rfl ?_;refine af.nil ?_;refine qU 1 rfl ?_;refine qI ?_;refine AW.draw aI 12 (by kernel_rfl) ?_;refine qP 3 rfl ?_;refine af.call tok rfl rfl rfl rfl rfl r1.1 ?_;refine qP 4 rfl ?_;refine af.call tok rfl rfl rfl rfl rfl r2.1 ?_;refine qP 1 rfl ?_;refine af.call tok rfl rfl rfl rfl rfl r5.1 ?_;refine af.call tok rfl rfl rfl rfl rfl p1 ?_;refine af.nil ?_;refine qU 1 rfl ?_;refine qI ?_;refine AW.draw aI 12 (by kernel_rfl) ?_;refine qP 4 rfl ?_;refine af.call tok rfl rfl rfl rfl rfl r3.1 ?_;refine qP 3 rfl ?_;refine af.call tok rfl rfl rfl rfl rfl r4.1 ?_;refine af.call tok rfl rfl rfl rfl rfl p2 ?_;refine qP 1 rfl ?_;refine af.call tok rfl rfl rfl rfl rfl cj ?_;refine af.nil ?_;refine qU 1 rfl ?_;exact qN rfl
theorem bE: ∀(l:Nat) {rt:List NQ} {a b:NQ},ay l a→ay l b→db rt→l≤rt.length→rt.length≤10→zJ l rt a b→Pure Tryz.prog 128 [aL rt,ae a,ae b] (ae (bc l rt a b))
 | 0,rt,a,b,ha,hb,hrt,hl,hl5,hok=>rq (O:=fun _ _=>True) ha hb hrt hl hl5 hok (fun l' h=>by omega)
 | l+1,rt,a,b,ha,hb,hrt,hl,hl5,hok=>rq (O:=zJ l rt) ha hb hrt hl hl5 hok (fun l' e a' b' h1 h2 h3=>by
    obtain rfl:l=l':=by omega
    obtain ⟨K,k1,k2,k3⟩:=tP a' b' rt
    exact⟨bE l h1 h2 hrt (by omega) hl5 h3,(cO l h1 h2 hrt (by omega) k1 k2 k3).1⟩)
theorem vg{l k:Nat}{R:NQ→NQ→NQ}{O:NQ→NQ→Prop}{rt:List NQ}{a b:NQ}(ha:ay l a)(hb:ay l b)(hab:b.length≤a.length)(hrt:db rt)(hl:l≤rt.length)(sa:az k a)(sb:az k b)(sr:fA k rt)(hk:sT l k≤17300000000000)
  (hR: ∀l',l=l'+1→ ∀a' b' m,k≤m→ay l' a'→ay l' b'→az m a'→az m b'→sT l' m≤17300000000000→O a' b'∧ay l' (R a' b')∧az (sT l' m) (R a' b')):GH R O rt a b:=by
 have hk1:=sa.pos;have h2:=bS l k;refine⟨sa.mono (by omega),sb.mono (by omega),fun h1 hza hzb=>?_⟩;have hb0:0<b.length:=List.length_pos_iff.2 (l0 hzb);have ha0:0<a.length:=List.length_pos_iff.2 (l0 hza)
 obtain ⟨i,hi,hla⟩: ∃i,i≤l∧a.length=2^i:=by
  rcases ha with e | e
  · omega
  · exact e
 have vX:i≠0:=fun e=>h1 (by rw[hla,e]);obtain ⟨j,rfl⟩: ∃j,i=j+1:=⟨i-1,by omega⟩;obtain ⟨l',rfl⟩: ∃l',l=l'+1:=⟨l-1,by omega⟩;have hj:j≤l':=by omega
 have hR:=fun a' b' m h1 h2 h3 h4 h5=>hR l' rfl a' b' m h1 h2 h3 h4 h5;obtain ⟨e1,e2,e3⟩:=bG hla;have hx:ay l' (a.take (a.length / 2)):= .inr ⟨j,hj,e1⟩;have hy:ay l' (a.drop (a.length / 2)):= .inr ⟨j,hj,e2⟩;have hs0:=bS l' k;have hs1:=bS l' (sT l' k);have hk:sT l' (sT l' k)+sT l' k+1≤17300000000000:=hk;refine⟨fun h3=>?_,fun h3=>?_⟩
 · have hb':ay l' b:=by
    rcases hb with e | ⟨i',_,e⟩
    · exact .inl e
    · refine .inr ⟨i',?_,e⟩;rw[e3,e] at h3;have:=ir h3;omega
   exact⟨(hR _ _ k (Nat.le_refl _) hx hb' (sa.take _) sb (by omega)).1,(hR _ _ k (Nat.le_refl _) hy hb' (sa.drop _) sb (by omega)).1⟩
 have hlb:b.length=2^(j+1):=by
  rcases hb with e | ⟨i',_,e⟩
  · omega
  · rw[e] at h3 hab ⊢;rw[hla] at hab;rw[e3] at h3;have h4:=ir hab;have h5: ¬i'≤j:=fun h=>h3 (Nat.pow_le_pow_right (by decide) h);rw[show i'=j+1 by omega]
 obtain ⟨f1,f2,f3⟩:=bG hlb;rw[show b.length / 2=a.length / 2 by rw[f3,e3]] at f1 f2;have hu:ay l' (b.take (a.length / 2)):= .inr ⟨j,hj,f1⟩;have hv:ay l' (b.drop (a.length / 2)):= .inr ⟨j,hj,f2⟩;have r1:=hR _ _ k (Nat.le_refl _) hx hu (sa.take _) (sb.take _) (by omega);have r2:=hR _ _ k (Nat.le_refl _) hy hv (sa.drop _) (sb.drop _) (by omega);have r3:=hR _ _ k (Nat.le_refl _) hx hv (sa.take _) (sb.drop _) (by omega);have r4:=hR _ _ k (Nat.le_refl _) hy hu (sa.drop _) (sb.take _) (by omega);have hlog:a.length.log2-1=j:=by rw[hla,Nat.log2_two_pow];omega
 have hd:ay l' (rt.getD (a.length.log2-1) []):= .inr ⟨j,hj,by rw[hlog];exact hrt j (by omega)⟩;have r5:=hR _ _ (sT l' k) (by omega) r2.2.1 hd r2.2.2 ((sr _).mono (by omega)) (by omega);exact⟨⟨r1.1,r2.1,r5.1,r3.1,r4.1⟩,r1.2.2.mono (by omega),r5.2.2.mono (by omega),r3.2.2.mono (by omega),r4.2.2.mono (by omega)⟩
theorem oX: ∀(l:Nat) {k:Nat} {rt:List NQ} {a b:NQ},ay l a→ay l b→db rt→l≤rt.length→az k a→az k b→fA k rt→sT l k≤17300000000000→zJ l rt a b
 | 0,k,rt,a,b,ha,hb,hrt,hl,sa,sb,sr,hk=>by
   show wY _ _ rt a b;unfold wY;split
   · exact vg hb ha (by omega) hrt hl sb sa sr hk (fun l' h=>by omega)
   · exact vg ha hb (by omega) hrt hl sa sb sr hk (fun l' h=>by omega)
 | l+1,k,rt,a,b,ha,hb,hrt,hl,sa,sb,sr,hk=>by
   show wY (bc l rt) (zJ l rt) rt a b;unfold wY
   have ih: ∀l',l+1=l'+1→ ∀a' b' m,k≤m→ay l' a'→ay l' b'→az m a'→az m b'→sT l' m≤17300000000000→zJ l rt a' b'∧ay l' (bc l rt a' b')∧az (sT l' m) (bc l rt a' b'):=fun l' e a' b' m hm h1 h2 h3 h4 h5=>by
    obtain rfl:l=l':=by omega
    exact⟨oX l h1 h2 hrt (by omega) h3 h4 (sr.mono hm) h5,cO l h1 h2 hrt (by omega) h3 h4 (sr.mono hm)⟩
   split
   · exact vg hb ha (by omega) hrt hl sb sa sr hk ih
   · exact vg ha hb (by omega) hrt hl sa sb sr hk ih
theorem rm(l:Nat){k:Nat}{rt:List NQ}{a b:NQ}(ha:ay l a)(hb:ay l b)(hrt:db rt)(hl:l≤rt.length)(hl5:rt.length≤10)(sa:az k a)(sb:az k b)(sr:fA k rt)(hk:sT l k≤17300000000000):Pure Tryz.prog 128 [aL rt,ae a,ae b] (ae (bc l rt a b)) :=
 bE l ha hb hrt hl hl5 (oX l ha hb hrt hl sa sb sr (by omega))
end Lift
namespace Lift
open Go Go.Proofs
def ig(l:Nat)(rt:List NQ)(a:NQ):NQ :=
 bh (bc l rt (a.take (a.length / 2)) (a.take (a.length / 2))) (aY (bc l rt (bc l rt (a.drop (a.length / 2)) (a.drop (a.length / 2))) (rt.getD (a.length.log2-1) [])))
def s9(R:NQ→Int)(N:NQ→NQ)(rt:List NQ)(a:NQ):Int :=
 if a.length=0 then 0 else if a.length=1 then uM (a.getD 0 0) else
 if R (rt.getD (a.length.log2-1) [])=0 then R (a.take (a.length / 2)) else
 if R (a.take (a.length / 2))=R (a.drop (a.length / 2))∨R (a.drop (a.length / 2))=0 then R (a.take (a.length / 2)) else
 if R (a.take (a.length / 2))=0 then R (a.drop (a.length / 2)) else R (a.take (a.length / 2))*R (N a)
def eG:Nat→List NQ→NQ→Int
 | 0,rt,a=>s9 (fun _=>0) (fun a=>a) rt (aG a)
 | l+1,rt,a=>s9 (eG l rt) (ig l rt) rt (aG a)
def oF:Nat→Nat→Prop
 | 0,k=>k≤17300000000000
 | l+1,k=>sT (l+1) k≤17300000000000∧oF l (sT (l+1) k)
theorem wZ: ∀{l k m:Nat},oF l k→m≤k→oF l m
 | 0,k,m,h,hm=>Nat.le_trans hm h
 | l+1,k,m,h,hm=>⟨Nat.le_trans (qv hm) h.1,wZ h.2 (qv hm)⟩
theorem vf: ∀{l k:Nat},oF l k→k≤17300000000000
 | 0,k,h=>h
 | l+1,k,h=>by have:=bS (l+1) k;have:=h.1;omega
theorem iR{l k:Nat}(h:oF (l+1) k):oF l k:=wZ h.2 (by have:=bS (l+1) k;omega)
def tL(z:Int):Prop:=z=0∨z=1∨z= -1
theorem ko{x y:Int}(hx:tL x)(hy:tL y):tL (x*y):=by
 unfold tL at *;rcases hx with rfl | rfl | rfl<;>rcases hy with rfl | rfl | rfl<;>decide
theorem wm{R:NQ→Int}{N:NQ→NQ}{rt:List NQ}{a:NQ}(hR: ∀b,tL (R b)):tL (s9 R N rt a):=by
 unfold s9;split
 · exact .inl rfl
 split
 · exact oP _
 split
 · exact hR _
 split
 · exact hR _
 split
 · exact hR _
 · exact ko (hR _) (hR _)
theorem l4: ∀(l:Nat) (rt:List NQ) (a:NQ),tL (eG l rt a)
 | 0,rt,a=>wm (fun _=> .inl rfl)
 | l+1,rt,a=>wm (fun b=>l4 l rt b)
theorem vn{l k j:Nat}{rt:List NQ}{a:NQ}(hj:j≤l)(ha:a.length=2^(j+1))(hrt:db rt)(hl:l<rt.length)(sa:az k a)(sr:fA k rt):ay l (ig l rt a)∧az (sT (l+1) k) (ig l rt a):=by
 obtain ⟨e1,e2,e3⟩:=bG ha;have hx:ay l (a.take (a.length / 2)):= .inr ⟨j,hj,e1⟩;have hy:ay l (a.drop (a.length / 2)):= .inr ⟨j,hj,e2⟩;have hlog:a.length.log2-1=j:=by rw[ha,Nat.log2_two_pow];omega
 have hd:ay l (rt.getD j []):= .inr ⟨j,hj,hrt j (by omega)⟩;have h0:=bS l k;have h1:=bS l (sT l k);have r1:=cO l hx hx hrt (by omega) (sa.take _) (sa.take _) sr;have r2:=cO l hy hy hrt (by omega) (sa.drop _) (sa.drop _) sr;have r3:=cO l r2.1 hd hrt (by omega) r2.2 ((sr _).mono (by omega)) (sr.mono (by omega));unfold ig;rw[hlog];refine⟨r1.1.plus r3.1.minus,(r1.2.plus r3.2.minus).mono ?_⟩;show _≤sT l (sT l k)+sT l k+1;omega
def Fa(l:Nat)(rt:List NQ)(a:NQ):Prop :=
 zJ l rt (a.take (a.length / 2)) (a.take (a.length / 2))∧zJ l rt (a.drop (a.length / 2)) (a.drop (a.length / 2))∧zJ l rt (bc l rt (a.drop (a.length / 2)) (a.drop (a.length / 2))) (rt.getD (a.length.log2-1) []) ∧
 mM (bc l rt (a.take (a.length / 2)) (a.take (a.length / 2)))∧mM (bc l rt (bc l rt (a.drop (a.length / 2)) (a.drop (a.length / 2))) (rt.getD (a.length.log2-1) []))
theorem vp{l j:Nat}{rt:List NQ}{a:NQ}(hj:j≤l)(ha:a.length=2^(j+1))(hrt:db rt)(hl:l<rt.length):ay l (ig l rt a):=by
 obtain ⟨K,k1,_,k3⟩:=tP a a rt;exact(vn hj ha hrt hl k1 k3).1
theorem eS(l:Nat){rt:List NQ}{a b:NQ}(ha:ay l a)(hb:ay l b)(hrt:db rt)(hl:l≤rt.length):ay l (bc l rt a b):=by
 obtain ⟨K,k1,k2,k3⟩:=tP a b rt;exact(cO l ha hb hrt hl k1 k2 k3).1
theorem k9{l j:Nat}{rt:List NQ}{a:NQ}(hj:j≤l)(ha:a.length=2^(j+1))(hrt:db rt)(hl:l<rt.length)(hl5:rt.length≤10)(hok:Fa l rt a):
  Pure Tryz.prog 87 [aL rt,ae a] (ae (ig l rt a)):=by
 refine qJ 36 Tryz.func87 rfl rfl rfl rfl (by kernel_rfl) (fun B F0 w0=>?_);obtain ⟨e1,e2,e3⟩:=bG ha;have hx:ay l (a.take (a.length / 2)):= .inr ⟨j,hj,e1⟩;have hy:ay l (a.drop (a.length / 2)):= .inr ⟨j,hj,e2⟩;have hlog:a.length.log2-1=j:=by rw[ha,Nat.log2_two_pow];omega
 have hd:ay l (rt.getD j []):= .inr ⟨j,hj,hrt j (by omega)⟩;obtain ⟨o1,o2,o3,z1,z3⟩:=hok;rw[hlog] at o3 z3;have r1:=eS l hx hx hrt (by omega);have r2:=eS l hy hy hrt (by omega);have r3:=eS l r2 hd hrt (by omega);have c1:=bE l hx hx hrt (by omega) hl5 o1;have c2:=bE l hy hy hrt (by omega) hl5 o2;have c3:=bE l r2 hd hrt (by omega) hl5 o3;have n1:=r1.len (by omega);have n3:=r3.len (by omega);have c4:=dY _ z3 (by omega) (by omega);have c5:=cW _ _ z1 z3.minus (by omega) (by omega) (by rw[fc];omega);have cl:=dC (dV a) (by rw[List.length_map];exact ha) (by omega);have hp:2^(j+1)≤2^10:=Nat.pow_le_pow_right (by decide) (by omega);unfold ig;rw[hlog];obtain ⟨n,hn⟩: ∃n,n=a.length / 2:=⟨_,rfl⟩;rw[← hn] at e1 e2 e3 hx hy c1 c2 c3 c4 c5 ⊢;refine qX 2 rfl ?_;refine qK 2 rfl ?_;rw[List.length_map];refine aa.div tok rfl rfl rfl rfl (by decide) ?_;rw[f' _ (by omega),← hn];refine qU 1 rfl ?_;refine qI ?_;refine AW.draw aI 7 (by kernel_rfl) ?_;refine qP 2 rfl ?_;refine af.fC tok (a:=a) (a.take n) rfl rfl rfl rfl rfl trivial (Int.natCast_nonneg n) (Nat.zero_le _) (show n≤a.length by omega) rfl ?_;refine qP 2 rfl ?_;refine af.fC tok (a:=a) (a.drop n) rfl rfl rfl rfl rfl (Int.natCast_nonneg n) trivial (show n≤a.length by omega) (Nat.le_refl _) (by show (a.take a.length).drop n=_;rw[List.take_length]) ?_;refine qP 1 rfl ?_;refine af.nil ?_;refine qU 1 rfl ?_;refine qI ?_;refine AW.draw aI 19 (by kernel_rfl) ?_;refine qP 3 rfl ?_;refine af.call tok rfl rfl rfl rfl rfl c1 ?_;refine qP 4 rfl ?_;refine af.call tok rfl rfl rfl rfl rfl c2 ?_;refine qP 3 rfl ?_;refine af.call tok rfl rfl rfl rfl rfl cl ?_;refine qP 1 rfl ?_;rw[au (x:=((j+1:Nat):Int) -1) (by omega) (by omega),show ((j+1:Nat):Int) -1=(j:Int) by omega];refine af.idx tok (ae (rt.getD j [])) rfl rfl rfl rfl rfl (Int.natCast_nonneg j) (xu (by omega)) ?_;refine qP 1 rfl ?_;refine af.call tok rfl rfl rfl rfl rfl c3 ?_;refine af.call tok rfl rfl rfl rfl rfl c4 ?_;refine af.call tok rfl rfl rfl rfl rfl c5 ?_;refine af.nil ?_;refine qU 1 rfl ?_;exact qN rfl
theorem E'{l k j:Nat}{rt:List NQ}{a:NQ}(hj:j≤l)(ha:a.length=2^(j+1))(hrt:db rt)(hl:l<rt.length)(sa:az k a)(sr:fA k rt)(hk:sT (l+1) k≤17300000000000):Fa l rt a:=by
 obtain ⟨e1,e2,e3⟩:=bG ha;have hx:ay l (a.take (a.length / 2)):= .inr ⟨j,hj,e1⟩;have hy:ay l (a.drop (a.length / 2)):= .inr ⟨j,hj,e2⟩;have hlog:a.length.log2-1=j:=by rw[ha,Nat.log2_two_pow];omega
 have hd:ay l (rt.getD j []):= .inr ⟨j,hj,hrt j (by omega)⟩;have h0:=bS l k;have h1:=bS l (sT l k);have hk:sT l (sT l k)+sT l k+1≤17300000000000:=hk;have r1:=cO l hx hx hrt (by omega) (sa.take _) (sa.take _) sr;have r2:=cO l hy hy hrt (by omega) (sa.drop _) (sa.drop _) sr;have r3:=cO l r2.1 hd hrt (by omega) r2.2 ((sr _).mono (by omega)) (sr.mono (by omega));unfold Fa;rw[hlog];exact⟨oX l hx hx hrt (by omega) (sa.take _) (sa.take _) sr (by omega),oX l hy hy hrt (by omega) (sa.drop _) (sa.drop _) sr (by omega),oX l r2.1 hd hrt (by omega) r2.2 ((sr j).mono (by omega)) (sr.mono (by omega)) (by omega),r1.2.mono (by omega),r3.2.mono (by omega)⟩
def F6(O:NQ→Prop)(N:NQ→NQ)(Nk:NQ→Prop)(rt:List NQ)(s:NQ):Prop:=s.length≠0→s.length≠1 →
 O (s.take (s.length / 2))∧O (s.drop (s.length / 2))∧O (rt.getD (s.length.log2-1) [])∧Nk s∧O (N s)
def BY:Nat→List NQ→NQ→Prop
 | 0,rt,a=>mM a
 | l+1,rt,a=>mM a∧F6 (BY l rt) (ig l rt) (Fa l rt) rt (aG a)
theorem rS: ∀(l:Nat) {k:Nat} {rt:List NQ} {a:NQ},ay l a→db rt→l≤rt.length→az k a→fA k rt→oF l k→BY l rt a
 | 0,k,rt,a,ha,hrt,hl,sa,sr,hok=>sa.mono (Nat.le_trans hok (by decide))
 | l+1,k,rt,a,ha,hrt,hl,sa,sr,hok=>by
   have hk:=vf hok;refine⟨sa.mono (by omega),fun h0 h1=>?_⟩;obtain ⟨ha,sa⟩:=bk ha sa;generalize aG a=b at ha sa h0 h1 ⊢
   obtain ⟨i,hi,hla⟩: ∃i,i≤l+1∧b.length=2^i:=by
    rcases ha with e | e
    · omega
    · exact e
   have vX:i≠0:=fun e=>h1 (by rw[hla,e]);obtain ⟨j,rfl⟩: ∃j,i=j+1:=⟨i-1,by omega⟩;have hj:j≤l:=by omega
   obtain ⟨e1,e2,e3⟩:=bG hla;have hx:ay l (b.take (b.length / 2)):= .inr ⟨j,hj,e1⟩;have hy:ay l (b.drop (b.length / 2)):= .inr ⟨j,hj,e2⟩;have hlog:b.length.log2-1=j:=by rw[hla,Nat.log2_two_pow];omega
   have hd:ay l (rt.getD (b.length.log2-1) []):= .inr ⟨j,hj,by rw[hlog];exact hrt j (by omega)⟩;have hn:=vn hj hla hrt (by omega) sa sr;have h2:=bS (l+1) k;have h3:=hok.1;exact⟨rS l hx hrt (by omega) (sa.take _) sr (iR hok),rS l hy hrt (by omega) (sa.drop _) sr (iR hok),rS l hd hrt (by omega) (sr _) sr (iR hok),E' hj hla hrt (by omega) sa sr (by omega),rS l hn.1 hrt (by omega) hn.2 (sr.mono (by omega)) hok.2⟩
theorem BY.sz{l:Nat}{rt:List NQ}{a:NQ}(h:BY l rt a):mM a:=by
 cases l with
 | zero=>exact h
 | succ l=>exact h.1
set_option maxHeartbeats 1600000 in
theorem tT{l:Nat}{R:NQ→Int}{O:NQ→Prop}{N:NQ→NQ}{Nk:NQ→Prop}{rt:List NQ}{a:NQ}(ha:ay l a)(hl5:l≤5)(hrt:db rt)(hl:l≤rt.length)(hl10:rt.length≤10)(sa:mM a)(hok:l≠0→F6 O N Nk rt (aG a))
  (hR: ∀l',l=l'+1→ ∀b,ay l' b→O b→Pure Tryz.prog 45 [aL rt,ae b] (dI (R b))) (hT: ∀b,tL (R b))
  (hN: ∀l',l=l'+1→ ∀b j,j≤l'→b.length=2^(j+1)→Nk b→Pure Tryz.prog 87 [aL rt,ae b] (ae (N b))∧ay l' (N b)):
  Pure Tryz.prog 45 [aL rt,ae a] (dI (s9 R N rt (aG a))):=by
 refine qJ 64 Tryz.func45 rfl rfl rfl rfl (by kernel_rfl) (fun B F0 w0=>?_);have cs:=bm a ha hl5 sa (by omega);obtain ⟨ha,sa⟩:=bk ha sa;generalize aG a=b at cs ha sa hok ⊢;have hlb:=ha.len (by omega);unfold s9;refine qX 2 rfl ?_;refine qK 1 rfl ?_;refine aa.call tok rfl rfl rfl rfl cs ?_;refine qU 1 rfl ?_;refine qI ?_;refine qX 2 rfl ?_;rw[List.length_map];refine qU 1 rfl ?_;refine aa.nil ?_;by_cases h0:b.length=0
 · rw[if_pos h0,h0];refine AW.aB rfl ?_;refine qX 1 rfl ?_;exact qN rfl
 rw[if_neg h0,beq_eq_false_iff_ne.2 (show (b.length:Int)≠0 by omega)];refine AW.ar rfl ?_;refine AW.skip (AW.seq ?_);refine qX 2 rfl ?_;rw[List.length_map];refine qU 1 rfl ?_;refine aa.nil ?_;by_cases h1:b.length=1
 · have g:=kY (r:=b) (i:=0) (by omega);have cq:=j7 (Qr (b.getD 0 0)) (eN _ (sa 0)) (by omega);rw[bH,uN] at cq;rw[if_pos h1,h1];refine AW.aB rfl ?_;refine qX 1 rfl ?_;refine aa.idx tok (Qr (b.getD 0 0)).D rfl rfl rfl rfl (Int.le_refl _) g ?_;refine qU 1 rfl ?_;refine aa.call tok rfl rfl rfl rfl cq ?_;refine qU 1 rfl ?_;exact qN rfl
 rw[if_neg h1,beq_eq_false_iff_ne.2 (show (b.length:Int)≠1 by omega)];refine AW.ar rfl ?_;refine AW.skip ?_
 obtain ⟨i,hi,hla2⟩: ∃i,i≤l∧b.length=2^i:=by
  rcases ha with e | e
  · omega
  · exact e
 have vX:i≠0:=fun e=>h1 (by rw[hla2,e]);obtain ⟨j,rfl⟩: ∃j,i=j+1:=⟨i-1,by omega⟩;obtain ⟨l',rfl⟩: ∃l',l=l'+1:=⟨l-1,by omega⟩;have hj:j≤l':=by omega
 have hR:=hR l' rfl;obtain ⟨o1,o2,o3,o4,o5⟩:=hok (by omega) h0 h1;have hN:=hN l' rfl b j hj hla2 o4;obtain ⟨e1,e2,e3⟩:=bG hla2;have hx:ay l' (b.take (b.length / 2)):= .inr ⟨j,hj,e1⟩;have hy:ay l' (b.drop (b.length / 2)):= .inr ⟨j,hj,e2⟩;have hlog:b.length.log2-1=j:=by rw[hla2,Nat.log2_two_pow];omega
 have hd:ay l' (rt.getD j []):= .inr ⟨j,hj,hrt j (by omega)⟩;rw[hlog] at o3;have r1:=hR _ hx o1;have r2:=hR _ hy o2;have r3:=hR _ hd o3;have r4:=hR _ hN.2 o5;have t1:=hT (b.take (b.length / 2));have t2:=hT (b.drop (b.length / 2));have t4:=ko t1 (hT (N b));have cn:=hN.1;have cl:=dC (dV b) (by rw[List.length_map];exact hla2) (by omega);rw[hlog];obtain ⟨n,hn⟩: ∃n,n=b.length / 2:=⟨_,rfl⟩;rw[← hn] at e1 e2 e3 hx hy r1 r2 t1 t2 t4 ⊢;generalize R (b.take n)=x at r1 t1 t4 ⊢;generalize R (b.drop n)=y at r2 t2 ⊢;generalize R (rt.getD j [])=z at r3 ⊢;generalize R (N b)=u at r4 t4 ⊢;refine qX 2 rfl ?_;rw[List.length_map];refine aa.div tok rfl rfl rfl rfl (by decide) ?_;rw[f' _ (by omega),← hn];refine qU 1 rfl ?_;refine qI ?_;refine AW.draw aI 10 (by kernel_rfl) ?_;refine qP 3 rfl ?_;refine af.fC tok (a:=b) (b.take n) rfl rfl rfl rfl rfl trivial (Int.natCast_nonneg n) (Nat.zero_le _) (show n≤b.length by omega) rfl ?_;refine af.call tok rfl rfl rfl rfl rfl r1 ?_;refine qP 3 rfl ?_;refine af.fC tok (a:=b) (b.drop n) rfl rfl rfl rfl rfl (Int.natCast_nonneg n) trivial (show n≤b.length by omega) (Nat.le_refl _) (by show (b.take b.length).drop n=_;rw[List.take_length]) ?_;refine af.call tok rfl rfl rfl rfl rfl r2 ?_;refine af.nil ?_;refine qU 2 rfl ?_;refine qI (AW.seq ?_);refine AW.draw aI 10 (by kernel_rfl) ?_;refine qP 4 rfl ?_;refine af.call tok rfl rfl rfl rfl rfl cl ?_;refine qP 1 rfl ?_;rw[au (x:=((j+1:Nat):Int) -1) (by omega) (by omega),show ((j+1:Nat):Int) -1=(j:Int) by omega];refine af.idx tok (ae (rt.getD j [])) rfl rfl rfl rfl rfl (Int.natCast_nonneg j) (xu (by omega)) ?_;refine qP 1 rfl ?_;refine af.call tok rfl rfl rfl rfl rfl r3 ?_;refine qP 1 rfl ?_;refine af.nil ?_;refine aa.nil ?_;by_cases hz:z=0
 · rw[if_pos hz,beq_iff_eq.2 hz];refine AW.aB rfl ?_;refine qX 2 rfl ?_;exact qN rfl
 rw[if_neg hz,beq_eq_false_iff_ne.2 hz];refine AW.ar rfl ?_;refine AW.skip (AW.seq (AW.block ?_));refine qX 3 rfl ?_;by_cases hxy:x=y
 · rw[if_pos (.inl hxy),beq_iff_eq.2 hxy];refine qU 5 rfl ?_;refine aa.nil ?_;refine AW.aB rfl ?_;refine qX 2 rfl ?_;exact qN rfl
 rw[beq_eq_false_iff_ne.2 hxy];refine qU 3 rfl ?_;by_cases hy0:y=0
 · rw[if_pos (.inr hy0),beq_iff_eq.2 hy0];refine qU 2 rfl ?_;refine aa.nil ?_;refine AW.aB rfl ?_;refine qX 2 rfl ?_;exact qN rfl
 rw[if_neg (fun h=>h.elim hxy hy0),beq_eq_false_iff_ne.2 hy0];refine qU 2 rfl ?_;refine aa.nil ?_;refine AW.ar rfl ?_;refine qX 3 rfl ?_;refine aa.nil ?_;by_cases hx0:x=0
 · rw[if_pos hx0,beq_iff_eq.2 hx0];refine AW.aB rfl ?_;refine qX 2 rfl ?_;exact qN rfl
 rw[if_neg hx0,beq_eq_false_iff_ne.2 hx0];refine AW.ar rfl ?_;refine AW.skip (AW.seq ?_);refine AW.draw aI 7 (by kernel_rfl) ?_;refine qP 4 rfl ?_;refine af.call tok rfl rfl rfl rfl rfl cn ?_;refine af.call tok rfl rfl rfl rfl rfl r4 ?_;refine qP 1 rfl ?_;rw[au (x:=x*u) (by unfold tL at t4;omega) (by unfold tL at t4;omega)];refine af.nil ?_;refine qU 1 rfl ?_;exact qN rfl
theorem dX: ∀(l:Nat) {rt:List NQ} {a:NQ},ay l a→l≤5→db rt→l≤rt.length→rt.length≤10→BY l rt a→Pure Tryz.prog 45 [aL rt,ae a] (dI (eG l rt a))
 | 0,rt,a,ha,hl5,hrt,hl,hl10,hok=>tT (O:=fun _=>True) (Nk:=fun _=>True) ha hl5 hrt hl hl10 hok (fun h=>absurd rfl h) (fun l' h=>by omega) (fun _=> .inl rfl) (fun l' h=>by omega)
 | l+1,rt,a,ha,hl5,hrt,hl,hl10,hok=>tT (O:=BY l rt) (Nk:=Fa l rt) ha hl5 hrt hl hl10 hok.1 (fun _=>hok.2) (fun l' e b h1 h2=>by
    obtain rfl:l=l':=by omega
    exact dX l h1 (by omega) hrt (by omega) hl10 h2) (l4 l rt) (fun l' e b j h1 h2 h3=>by
    obtain rfl:l=l':=by omega
    exact⟨k9 h1 h2 hrt (by omega) hl10 h3,vp h1 h2 hrt (by omega)⟩)
theorem mz(l:Nat){k:Nat}{rt:List NQ}{a:NQ}(ha:ay l a)(hl5:l≤5)(hrt:db rt)(hl:l≤rt.length)(hl10:rt.length≤10)(sa:az k a)(sr:fA k rt)(hok:oF l k):Pure Tryz.prog 45 [aL rt,ae a] (dI (eG l rt a)) :=
 dX l ha hl5 hrt hl hl10 (rS l ha hrt hl sa sr hok)
end Lift
namespace Lift
open Go Go.Proofs
abbrev a9(a:List RD):D:= .sl 3 (a.map RD.D)
abbrev sW(rt:List (List RD)):D:= .ag [.sl 1 (rt.map a9)]
def jw(a:List RD):Bool:=a.all RD.okB
def yB(m n:Nat):Bool:=(List.range (m+1)).any fun i=>decide (n=2^i)
def bz(m:Nat)(a:List RD):Nat:=if a.length≠0∧yB m a.length=false then 10 else if jw a=false then 2 else 0
def aC(a:List RD):NQ:=a.map RD.val
def wN(k:Nat)(a:List RD):Prop:= ∀i,i<a.length→(a.getD i default).w k
def sV(rt:List (List RD))(k:Nat):Nat:=if (rt.getD k []).length≠2^k then 10 else if bz k (rt.getD k [])≠0 then bz k (rt.getD k []) else if eG k ((rt.take k).map aC) (aC (rt.getD k []))<0 then 3 else 0
def cJ(rt:List (List RD)):Nat:=if 5<rt.length then 4 else fE (sV rt) (rt.length-0) 0
def iY(rt l:List (List RD)):Nat:=if cJ rt≠0 then cJ rt else fE (fun i=>bz rt.length (l.getD i [])) (l.length-0) 0
theorem B5(a:List RD)(i:Nat):(aC a).getD i 0=if i<a.length then (a.getD i default).val else 0:=by
 unfold aC;rw[List.getD_eq_getElem?_getD,List.getElem?_map,List.getD_eq_getElem?_getD];by_cases h:i<a.length
 · rw[if_pos h,List.getElem?_eq_getElem h];rfl
 · rw[if_neg h,List.getElem?_eq_none (by omega)];rfl
theorem lu{a:List RD}{k:Nat}(h:wN k a)(h1:1≤k):az k (aC a):=fun c=>by
 rw[B5];split
 · rename_i hc;exact bC (h c hc) h1
 · exact jK h1
theorem j0{a:List RD}{k:Nat}(hw:wN k a)(h:jw a=true):a9 a=ae (aC a):=by
 show D.sl 3 (a.map RD.D)=D.sl 3 (List.map _ (List.map _ a));rw[List.map_map]
 congr 1
 refine List.map_congr_left fun x hx=>?_;obtain ⟨i,hi,rfl⟩:=List.mem_iff_getElem.1 hx;have hi2:=hw i hi;rw[List.getD_eq_getElem?_getD,List.getElem?_eq_getElem hi] at hi2;unfold jw at h;rw[List.all_eq_true] at h;have:=RD.canon hi2 (h _ (List.getElem_mem hi));simp only[Option.getD_some] at this;show (a[i]).D=(Qr (a[i]).val).D;rw[← this]
theorem w4{l:List RD}{i:Nat}(hi:i<l.length)(h:(l.getD i default).okB=false):jw l=false:=FE hi h
theorem uc{l:List RD}(h: ∀i,i<l.length→(l.getD i default).okB=true):jw l=true:=Ee h
theorem vz(m i:Nat):yB m (2^i)=decide (i≤m):=by
 unfold yB;by_cases h:i≤m
 · rw[decide_eq_true h,List.any_eq_true];exact⟨i,List.mem_range.2 (by omega),decide_eq_true rfl⟩
 · rw[decide_eq_false h,List.any_eq_false];intro j hj;have hj:=List.mem_range.1 hj;rw[decide_eq_false]
   · simp
   · intro e;have h1:=ir (Nat.le_of_eq e);omega
theorem DS{m n:Nat}(h: ∀i,n≠2^i):yB m n=false:=by
 unfold yB;rw[List.any_eq_false];intro j _;rw[decide_eq_false (h j)];simp
theorem Cb{m n:Nat}(h:yB m n=true): ∃i,i≤m∧n=2^i:=by
 unfold yB at h;rw[List.any_eq_true] at h;obtain ⟨i,h1,h2⟩:=h;exact⟨i,by have:=List.mem_range.1 h1;omega,of_decide_eq_true h2⟩
theorem nV{m:Nat}{a:List RD}(h:bz m a=0):ay m (aC a)∧jw a=true:=by
 unfold bz at h;split at h
 · cases h
 rename_i h1;split at h
 · cases h
 rename_i h2;constructor
 · by_cases h0:a.length=0
   · exact .inl (by unfold aC;rw[List.length_map];exact h0)
   · have h3:yB m a.length=true:=by
      cases hv:yB m a.length
      · exact absurd ⟨h0,hv⟩ h1
      · rfl
     obtain ⟨i,h4,h5⟩:=Cb h3;exact .inr ⟨i,h4,by unfold aC;rw[List.length_map];exact h5⟩
 · cases hv:jw a
   · exact absurd hv h2
   · rfl
def ze(m:Nat)(a:List RD):Prop:= ¬(a.length≠0∧yB m a.length=false)
theorem vk{m:Nat}{a:List RD}(h:bz m a=0):ze m a:=by
 unfold bz at h;split at h
 · cases h
 · assumption
theorem kM(xs:List D)(a:List RD){k:Nat}(hw:ze xs.length a→wN k a)(hk:k≤17300000000000)(hl:a.length≤4398046511104)(hx:xs.length≤1000000):Pure Tryz.prog 80 [.ag [.sl 1 xs],a9 a] (ml (bz xs.length a)):=by
 refine qJ 34 Tryz.func80 rfl rfl rfl rfl (by kernel_rfl) (fun B F0 w0=>?_);have hno:=fun i hi=>w4 (l:=a) (i:=i) hi;have hyes:=uc (l:=a);unfold bz;generalize jw a=E at hno hyes ⊢;refine qX 2 rfl ?_;refine aa.nil ?_;refine AW.cut [1] (fun _:Unit=>[(1,.d (a9 a))]) (fun _=> ¬(a.length≠0∧yB xs.length a.length=false)) ?_ (fun _ hs=>?_)
 · refine qX 2 rfl ?_;rw[List.length_map];refine qU 1 rfl ?_;refine aa.nil ?_;by_cases h0:a.length=0
   · rw[h0];refine AW.ar rfl ?_;refine AW.skip ?_;exact⟨(),rfl,fun h=>h.1 rfl⟩
   rw[decide_eq_true (show (0:Int)<(a.length:Int) by omega)];refine AW.aB rfl ?_;by_cases hp: ∃i,a.length=2^i
   · obtain ⟨i,hp⟩:=hp
     have hi:i≤42:=by
      refine ir ?_;rw[← hp];omega
     have cl:=dC (a.map RD.D) (by rw[List.length_map];exact hp) (by omega);rw[hp,vz];refine qX 1 rfl ?_;refine aa.call tok rfl rfl rfl rfl cl ?_;refine qU 1 rfl ?_;refine qK 2 rfl ?_;rw[decide_eq_false (show ¬((i:Int)<0) by omega)];refine qU 6 rfl ?_;by_cases hm:i≤xs.length
     · rw[decide_eq_true hm,decide_eq_false (show ¬((xs.length:Int)<(i:Int)) by omega)];refine qU 1 rfl ?_;refine aa.nil ?_;refine AW.ar rfl ?_;refine AW.skip ?_;exact⟨(),rfl,fun h=>by cases h.2⟩
     · rw[decide_eq_false hm,decide_eq_true (show (xs.length:Int)<(i:Int) by omega),if_pos ⟨by have:=Nat.two_pow_pos i;omega,rfl⟩];refine qU 1 rfl ?_;refine aa.nil ?_;refine AW.aB rfl ?_;refine qX 2 rfl ?_;exact qN rfl
   · have hp: ∀i,a.length≠2^i:=fun i e=>hp ⟨i,e⟩;have cl:=kN (a.map RD.D) (by rw[List.length_map];exact hp) (by rw[List.length_map];omega);rw[if_pos ⟨h0,DS hp⟩];refine qX 1 rfl ?_;refine aa.call tok rfl rfl rfl rfl cl ?_;refine qU 1 rfl ?_;refine qK 9 rfl ?_;refine aa.nil ?_;refine AW.aB rfl ?_;refine qX 2 rfl ?_;exact qN rfl
 · rw[if_neg hs];have hw:=hw hs;show AW _ _ _ _ _ _ _ [(1,.d (a9 a))];refine AW.seq ?_;refine qX 2 rfl ?_;rw[List.length_map];refine qU 1 rfl ?_;refine aa.nil ?_;refine AW.block ?_;refine AW.aD [23,24,25] (fun i:Nat=>[(23,.d (a9 a)),(24,.d (dI a.length)),(25,.d (dI i))]) (fun i=>i≤a.length∧ ∀j,j<i→(a.getD j default).okB=true) (fun i=>a.length-i) 0 rfl ⟨Nat.zero_le _,fun j hj=>by omega⟩ (fun i ⟨hi,hall⟩=>?_);refine qX 1 rfl ?_;refine qI ?_;refine AW.cond rfl (fun h=>?_) (fun h=>?_)
   · have hii:i<a.length:=by have:=of_decide_eq_true h;omega
     have hg:=getM RD.D (l:=a) (i:=i) hii;have hno:=hno i hii;have cv:=dR (a.getD i default) (hw i hii) (by omega);refine AW.skip (AW.seq (AW.block (AW.seq (AW.region ?_))));refine aa.idx tok (a.getD i default).D rfl rfl rfl rfl (Int.natCast_nonneg i) hg ?_;refine qU 3 rfl ?_;refine qK 1 rfl ?_;refine aa.call tok rfl rfl rfl rfl cv ?_;refine qU 1 rfl ?_;cases hv:(a.getD i default).okB with
     | false =>
       rw[hno hv,if_pos rfl];refine aa.nil ?_;refine AW.aB rfl ?_;refine qX 2 rfl ?_;exact qN rfl
     | true =>
       refine aa.nil ?_;refine AW.ar rfl ?_;refine AW.skip ?_;refine qT 1 rfl ?_;rw[au (x:=(i:Int)+1) (by omega) (by omega)];refine qU 1 rfl ?_;refine aa.nil ?_
       exact⟨i+1,rfl,⟨hii,fun j hj=>by
        by_cases e:j=i
        · subst e;exact hv
        · exact hall j (by omega)⟩,by omega⟩
   have hii:i=a.length:=by have:=of_decide_eq_false h;omega
   subst hii;rw[hyes hall,if_neg (by simp)];refine AW.exit ?_;refine qX 1 rfl ?_;exact qN rfl
end Lift
namespace Lift
open Go Go.Proofs
theorem Bs(rt:List (List RD))(k:Nat):((rt.map a9).take (bQ (rt.map a9).length (some (k:Int)))).drop (eB none)=(rt.take k).map a9:=by
 show ((rt.map a9).take k).drop 0=_;rw[List.drop_zero,List.map_take]
theorem mP{rt:List (List RD)}{k m:Nat}(hw: ∀i,i<k→wN m (rt.getD i []))(hk:k≤rt.length)(h: ∀j,j<k→jw (rt.getD j [])=true):(rt.take k).map a9=((rt.take k).map aC).map ae:=by
 rw[List.map_map];refine List.map_congr_left fun x hx=>?_;obtain ⟨i,hi,rfl⟩:=List.mem_iff_getElem.1 hx;rw[List.length_take] at hi
 have e:(rt.take k)[i]'(by rw[List.length_take];exact hi)=rt.getD i []:=by
  rw[List.getElem_take,List.getD_eq_getElem?_getD,List.getElem?_eq_getElem (by omega)];rfl
 rw[e];exact j0 (hw i (by omega)) (h i (by omega))
theorem nw{rt:List (List RD)}{k i:Nat}(hi:i<k):((rt.take k).map aC).getD i []=aC (rt.getD i []):=by
 rw[List.getD_eq_getElem?_getD,List.getElem?_map,List.getElem?_take_of_lt hi,List.getD_eq_getElem?_getD];cases rt[i]? with
 | none=>rfl
 | some x=>rfl
theorem Ai{rt:List (List RD)}{k i:Nat}(hi:k≤i):((rt.take k).map aC).getD i []=[]:=by
 rw[List.getD_eq_getElem?_getD,List.getElem?_eq_none (by rw[List.length_map,List.length_take];omega)];rfl
theorem eP{rt:List (List RD)}{k:Nat}(hk:k≤rt.length):((rt.take k).map aC).length=k:=by rw[List.length_map,List.length_take];omega
theorem qt{rt:List (List RD)}{k m:Nat}(hw: ∀i,i<k→wN m (rt.getD i []))(h1:1≤m)(hk:k≤rt.length):fA m ((rt.take k).map aC):=fun i=>by
 by_cases h:i<k
 · rw[nw h];exact lu (hw i (by omega)) h1
 · rw[Ai (by omega)];exact dD h1
theorem B4(a:List RD):(aC a).length=a.length:=List.length_map ..
theorem gi{rt:List (List RD)}{k:Nat}(h:sV rt k=0):(rt.getD k []).length=2^k∧jw (rt.getD k [])=true∧ ¬eG k ((rt.take k).map aC) (aC (rt.getD k []))<0:=by
 unfold sV at h;split at h
 · cases h
 rename_i h1;split at h
 · rename_i h2;exact absurd h h2
 rename_i h2;split at h
 · cases h
 rename_i h3;exact⟨by omega,(nV (m:=k) (by omega)).2,h3⟩
theorem kn{rt:List (List RD)}{k:Nat}(hk:k≤rt.length)(h: ∀j,j<k→sV rt j=0):db ((rt.take k).map aC):=fun j hj=>by
 rw[eP hk] at hj;rw[nw hj,B4];exact(gi (h j hj)).1
theorem ve{l m k:Nat}(h:oF l k)(hm:m≤l):oF m k:=by
 induction l with
 | zero=>obtain rfl:m=0:=by omega
         exact h
 | succ l ih =>
   by_cases e:m=l+1
   · rw[e];exact h
   · exact ih (iR h) (by omega)
theorem iL(rt:List (List RD)){m:Nat}(hw: ∀i,i<rt.length→(rt.getD i []).length=2^i→wN m (rt.getD i []))(h1:1≤m)(hl:rt.length≤1000000)(hll: ∀i,i<rt.length→(rt.getD i []).length≤4398046511104)(hok:rt.length≤5→oF rt.length m):Pure Tryz.prog 79 [sW rt] (ml (cJ rt)):=by
 refine qJ 43 Tryz.func79 rfl rfl rfl rfl (by kernel_rfl) (fun B F0 w0=>?_);unfold cJ;obtain ⟨E,hE⟩: ∃E,fE (sV rt) (rt.length-0) 0=E:=⟨_,rfl⟩;rw[hE];refine qX 2 rfl ?_;refine qI ?_;refine qX 3 rfl ?_;rw[List.length_map];refine qU 1 rfl ?_;refine aa.nil ?_;by_cases h5:5<rt.length
 · rw[if_pos h5,decide_eq_true (show (5:Int)<(rt.length:Int) by omega)];refine AW.aB rfl ?_;refine qX 2 rfl ?_;exact qN rfl
 rw[if_neg h5,decide_eq_false (show ¬(5:Int)<(rt.length:Int) by omega)];have hok:=hok (by omega);have hm7:=vf hok;refine AW.ar rfl ?_;refine AW.skip (AW.seq ?_);refine qX 3 rfl ?_;rw[List.length_map];refine qU 1 rfl ?_;refine aa.nil ?_;refine AW.block ?_;refine AW.aD [1,13,14,15] (fun i:Nat=>[(1,.bx [.sl 1 (rt.map a9)]),(13,.d (.sl 1 (rt.map a9))),(14,.d (dI rt.length)),(15,.d (dI i))]) (fun i=>i≤rt.length∧fE (sV rt) (rt.length-i) i=E∧ ∀j,j<i→sV rt j=0) (fun i=>rt.length-i) 0 rfl ⟨Nat.zero_le _,hE,fun j hj=>by omega⟩ (fun i ⟨hi,hiE,hall⟩=>?_);refine qX 1 rfl ?_;refine qI ?_;refine AW.cond rfl (fun h=>?_) (fun h=>?_);rotate_left
 · have hii: ¬i<rt.length:=by have:=of_decide_eq_false h;omega
   rw[dy hii] at hiE;subst hiE;refine AW.exit ?_;refine qX 1 rfl ?_;exact qN rfl
 have hii:i<rt.length:=by have:=of_decide_eq_true h;omega
 have hg:(rt.map a9)[i]?=some (a9 (rt.getD i [])):=by simp[hii]
 have hwi:=hw i hii;have hli:=hll i hii;have hmiss:=fun h0:sV rt i=0=>(bX hii h0).symm.trans hiE;have hhit:=fun h0:sV rt i≠0=>(dw hii h0).symm.trans hiE;have hp:2^i≤2^5:=Nat.pow_le_pow_right (by decide) (by omega);have hrt:sV rt i=if (rt.getD i []).length≠2^i then 10 else if bz i (rt.getD i [])≠0 then bz i (rt.getD i []) else if eG i ((rt.take i).map aC) (aC (rt.getD i []))<0 then 3 else 0:=rfl
 refine AW.skip (AW.seq (AW.block ?_));refine qX 1 rfl ?_;refine aa.idx tok (a9 (rt.getD i [])) rfl rfl rfl rfl (Int.natCast_nonneg i) hg ?_;refine qU 3 rfl ?_;refine qI ?_;refine qX 2 rfl ?_;rw[List.length_map];refine qU 2 rfl ?_;rw[wk (by omega)];refine qU 1 rfl ?_;refine aa.nil ?_;by_cases e1:(rt.getD i []).length=2^i;rotate_left
 · rw[if_pos e1] at hrt;rw[bne_iff_ne.2 (show (((rt.getD i []).length:Nat):Int)≠((2^i:Nat):Int) by omega)];have:=hhit (by rw[hrt];decide);rw[hrt] at this;subst this;refine AW.aB rfl ?_;refine qX 2 rfl ?_;exact qN rfl
 rw[if_neg (fun h=>h e1)] at hrt;have hwi:=hwi e1;have cn:=kM ((rt.take i).map a9) (rt.getD i []) (fun _=>hwi) (by omega) hli (by rw[List.length_map,List.length_take];omega);rw[List.length_map,List.length_take,Nat.min_eq_left hi] at cn;rw[e1,bne_eq_false_iff_eq.2 rfl];refine AW.ar rfl ?_;refine AW.skip ?_;refine qX 3 rfl ?_;refine aa.zu tok rfl rfl rfl rfl trivial (Int.natCast_nonneg i) (Nat.zero_le _) (by show i≤_;rw[List.length_map];omega) ?_;rw[Bs];refine qU 3 rfl ?_;refine qI ?_;refine qX 2 rfl ?_;refine aa.call tok rfl rfl rfl rfl cn ?_;refine qU 1 rfl ?_;refine aa.nil ?_;rcases e2:bz i (rt.getD i []) with _ | z
 rotate_left
 · rw[e2,if_pos (Nat.succ_ne_zero z)] at hrt;have:=hhit (by rw[hrt];exact Nat.succ_ne_zero z);rw[hrt] at this;subst this;refine qX 1 rfl ?_;refine aa.err tok rfl rfl rfl rfl rfl ?_;refine aa.nil ?_;refine AW.aB rfl ?_;refine qX 2 rfl ?_;exact qN rfl
 rw[if_neg (by rw[e2];simp)] at hrt;obtain ⟨n1,n2⟩:=nV e2;have cs:=mz i (k:=m) n1 (by omega) (kn hi hall) (by rw[eP hi];exact Nat.le_refl _) (by rw[eP hi];omega) (lu hwi h1) (qt (fun j hj=>hw j (by omega) (gi (hall j hj)).1) h1 hi) (ve hok hi);have tr:=l4 i ((rt.take i).map aC) (aC (rt.getD i []));rw[show aL ((rt.take i).map aC)= .ag [.sl 1 ((rt.take i).map a9)] from by rw[mP (fun j hj=>hw j (by omega) (gi (hall j hj)).1) hi (fun j hj=>(gi (hall j hj)).2.1)],← j0 hwi n2] at cs;generalize eG i ((rt.take i).map aC) (aC (rt.getD i []))=s at cs hrt tr;refine qX 1 rfl ?_;refine aa.err tok rfl rfl rfl rfl rfl ?_;refine aa.nil ?_;refine AW.ar rfl ?_;refine AW.skip ?_;refine qX 2 rfl ?_;refine aa.call tok rfl rfl rfl rfl cs ?_;refine qU 1 rfl ?_;refine aa.nil ?_;by_cases e3:s<0
 · rw[if_pos e3] at hrt;rw[decide_eq_true e3];have:=hhit (by rw[hrt];decide);rw[hrt] at this;subst this;refine AW.aB rfl ?_;refine qX 2 rfl ?_;exact qN rfl
 rw[if_neg e3] at hrt;rw[decide_eq_false e3];refine AW.ar rfl ?_;refine AW.skip ?_;refine qT 1 rfl ?_;rw[au (x:=(i:Int)+1) (by omega) (by omega)];refine qU 1 rfl ?_;refine aa.nil ?_
 exact⟨i+1,rfl,⟨hii,hmiss hrt,fun j hj=>by
  by_cases e:j=i
  · rw[e];exact hrt
  · exact hall j (by omega)⟩,by omega⟩
theorem eY(rt l:List (List RD)){m mn:Nat}(hw: ∀i,i<rt.length→(rt.getD i []).length=2^i→wN m (rt.getD i []))(h1:1≤m)(hl:rt.length≤1000000)(hll: ∀i,i<rt.length→(rt.getD i []).length≤4398046511104)(hok:rt.length≤5→oF rt.length m)
  (hlw: ∀i,i<l.length→ze rt.length (l.getD i [])→wN mn (l.getD i [])) (hl2:l.length≤1000000) (hl3: ∀i,i<l.length→(l.getD i []).length≤4398046511104) (hm:mn≤17300000000000):Pure Tryz.prog 42 [sW rt,.sl 1 (l.map a9)] (ml (iY rt l)):=by
 refine qJ 27 Tryz.func42 rfl rfl rfl rfl (by kernel_rfl) (fun B F0 w0=>?_);have cC:=iL rt hw h1 hl hll hok;unfold iY;obtain ⟨E,hE⟩: ∃E,fE (fun i=>bz rt.length (l.getD i [])) (l.length-0) 0=E:=⟨_,rfl⟩;rw[hE];refine qX 2 rfl ?_;refine qI ?_;refine qX 1 rfl ?_;refine aa.call tok rfl rfl rfl rfl cC ?_;refine qU 1 rfl ?_;refine aa.nil ?_;rcases e2:cJ rt with _ | z
 rotate_left
 · rw[if_pos (Nat.succ_ne_zero z)];refine qX 1 rfl ?_;refine aa.err tok rfl rfl rfl rfl rfl ?_;refine aa.nil ?_;refine AW.aB rfl ?_;refine qX 2 rfl ?_;exact qN rfl
 rw[if_neg (by simp)];refine qX 1 rfl ?_;refine aa.err tok rfl rfl rfl rfl rfl ?_;refine aa.nil ?_;refine AW.ar rfl ?_;refine AW.skip (AW.seq ?_);refine qX 2 rfl ?_;rw[List.length_map];refine qU 1 rfl ?_;refine aa.nil ?_;refine AW.block ?_;refine AW.aD [2,14,15,16] (fun i:Nat=>[(2,.bx [.sl 1 (rt.map a9)]),(14,.d (.sl 1 (l.map a9))),(15,.d (dI l.length)),(16,.d (dI i))]) (fun i=>i≤l.length∧fE (fun i=>bz rt.length (l.getD i [])) (l.length-i) i=E) (fun i=>l.length-i) 0 rfl ⟨Nat.zero_le _,hE⟩ (fun i ⟨hi,hiE⟩=>?_);refine qX 1 rfl ?_;refine qI ?_;refine AW.cond rfl (fun h=>?_) (fun h=>?_);rotate_left
 · have hii: ¬i<l.length:=by have:=of_decide_eq_false h;omega
   rw[dy hii] at hiE;subst hiE;refine AW.exit ?_;refine qX 1 rfl ?_;exact qN rfl
 have hii:i<l.length:=by have:=of_decide_eq_true h;omega
 have hg:(l.map a9)[i]?=some (a9 (l.getD i [])):=by simp[hii]
 have hmiss:=fun h0:bz rt.length (l.getD i [])=0=>(bX (f:=fun i=>bz rt.length (l.getD i [])) hii h0).symm.trans hiE;have hhit:=fun h0:bz rt.length (l.getD i [])≠0=>(dw (f:=fun i=>bz rt.length (l.getD i [])) hii h0).symm.trans hiE;have cn:=kM (rt.map a9) (l.getD i []) (fun h=>hlw i hii (by rw[List.length_map] at h;exact h)) hm (hl3 i hii) (by rw[List.length_map];omega);rw[List.length_map] at cn;refine AW.skip (AW.seq (AW.block (AW.seq (AW.region ?_))));refine aa.idx tok (a9 (l.getD i [])) rfl rfl rfl rfl (Int.natCast_nonneg i) hg ?_;refine qU 2 rfl ?_;refine qK 2 rfl ?_;refine aa.call tok rfl rfl rfl rfl cn ?_;refine qU 1 rfl ?_;refine aa.nil ?_;generalize bz rt.length (l.getD i [])=v at hmiss hhit;rcases v with _ | z
 rotate_left
 · have:=hhit (Nat.succ_ne_zero z);subst this;refine qX 1 rfl ?_;refine aa.err tok rfl rfl rfl rfl rfl ?_;refine aa.nil ?_;refine AW.aB rfl ?_;refine qX 2 rfl ?_;exact qN rfl
 refine qX 1 rfl ?_;refine aa.err tok rfl rfl rfl rfl rfl ?_;refine aa.nil ?_;refine AW.ar rfl ?_;refine AW.skip ?_;refine qT 1 rfl ?_;rw[au (x:=(i:Int)+1) (by omega) (by omega)];refine qU 1 rfl ?_;refine aa.nil ?_;exact⟨i+1,rfl,⟨hii,hmiss rfl⟩,by omega⟩
theorem ou{rt:List (List RD)}(h:cJ rt=0):rt.length≤5∧ ∀j,j<rt.length→sV rt j=0:=by
 unfold cJ at h;split at h
 · cases h
 rename_i h1
 have key: ∀(m i:Nat),fE (sV rt) m i=0→ ∀j,i≤j→j<i+m→sV rt j=0:=by
  intro m
  induction m with
  | zero=>intro i _ j h1 h2;omega
  | succ m ih =>
    intro i h j h1 h2;rw[fE] at h;split at h
    · rename_i h0;by_cases e:j=i
      · rw[e];exact h0
      · exact ih (i+1) h j (by omega) (by omega)
    · rename_i h0;exact absurd h h0
 exact⟨by omega,fun j hj=>key _ _ h j (Nat.zero_le _) (by omega)⟩
def Bu(rt:List (List RD))(a:List RD):D:=if iY rt [a]≠0 then .tu [dI 0,ml (iY rt [a])] else .tu [dI (eG rt.length (rt.map aC) (aC a)),aq]
theorem vR{rt:List (List RD)}{a:List RD}(h:iY rt [a]=0):cJ rt=0∧bz rt.length a=0:=by
 unfold iY at h;split at h
 · rename_i h0;exact absurd h h0
 rename_i h0;refine⟨by omega,?_⟩;have e:fE (fun i=>bz rt.length ([a].getD i [])) ([a].length-0) 0=if bz rt.length a=0 then 0 else bz rt.length a:=rfl
 rw[e] at h;split at h
 · assumption
 · rename_i h1;exact absurd h h1
theorem s5(rt:List (List RD))(a:List RD){m:Nat}(hw: ∀i,i<rt.length→(rt.getD i []).length=2^i→wN m (rt.getD i []))(h1:1≤m)(hl:rt.length≤1000000)(hll: ∀i,i<rt.length→(rt.getD i []).length≤4398046511104)(hok:rt.length≤5→oF rt.length m)
  (haw:ze rt.length a→wN m a) (hal:a.length≤4398046511104) (hm:m≤17300000000000):Pure Tryz.prog 22 [sW rt,a9 a] (Bu rt a):=by
 refine qJ 17 Tryz.func22 rfl rfl rfl rfl (by kernel_rfl) (fun B F0 w0=>?_)
 have h0: ∀i,i<[a].length→i=0:=fun i hi=>by
  have:i<1:=hi;omega
 have cc:=eY rt [a] hw h1 hl hll hok (fun i hi=>by rw[h0 i hi];exact haw) (show 1≤1000000 by decide) (fun i hi=>by rw[h0 i hi];exact hal) hm;unfold Bu;refine qX 3 rfl ?_;refine qI ?_;refine qX 2 rfl ?_;refine aa.kc tok rfl rfl rfl rfl rfl ?_;refine aa.call tok rfl rfl rfl rfl cc ?_;refine qU 1 rfl ?_;refine aa.nil ?_;rcases e2:iY rt [a] with _ | z
 rotate_left
 · rw[if_pos (Nat.succ_ne_zero z)];refine qX 1 rfl ?_;refine aa.err tok rfl rfl rfl rfl rfl ?_;refine aa.nil ?_;refine AW.aB rfl ?_;refine qX 3 rfl ?_;exact qN rfl
 rw[if_neg (by simp)];obtain ⟨k1,k2⟩:=vR e2;obtain ⟨k3,k4⟩:=ou k1;obtain ⟨n1,n2⟩:=nV k2;have vo:=kn (k:=rt.length) (Nat.le_refl _) k4;have vl:=eP (rt:=rt) (k:=rt.length) (Nat.le_refl _);have vs:=qt (k:=rt.length) (fun j hj=>hw j hj (gi (k4 j hj)).1) h1 (Nat.le_refl _);have vc:=mP (k:=rt.length) (fun j hj=>hw j hj (gi (k4 j hj)).1) (Nat.le_refl _) (fun j hj=>(gi (k4 j hj)).2.1);rw[List.take_length] at vo vl vs vc;have cs:=mz rt.length (k:=m) n1 k3 vo (by rw[vl];exact Nat.le_refl _) (by rw[vl];omega) (lu (haw (vk k2)) h1) vs (hok k3);rw[show aL (rt.map aC)= .ag [.sl 1 (rt.map a9)] from by rw[vc],← j0 (haw (vk k2)) n2] at cs;refine qX 1 rfl ?_;refine aa.err tok rfl rfl rfl rfl rfl ?_;refine aa.nil ?_;refine AW.ar rfl ?_;refine AW.skip ?_;refine qX 2 rfl ?_;refine aa.call tok rfl rfl rfl rfl cs ?_;refine qU 2 rfl ?_;exact qN rfl
end Lift
namespace Lift
open Go Go.Proofs
structure mr (m:Nat) (rt:List (List RD)):Prop where
 t: ∃m0,1≤m0∧m0≤m∧(∀i,i<rt.length→(rt.getD i []).length=2^i→wN m0 (rt.getD i []))∧(rt.length≤5→oF rt.length m0)
 m2:m≤1000000
 l:rt.length≤1000000
 ll: ∀i,i<rt.length→(rt.getD i []).length≤4398046511104
theorem mr.m1{m:Nat}{rt:List (List RD)}(T:mr m rt):1≤m:=by
 obtain ⟨m0,h1,h2,_⟩:=T.t;omega
structure iA (m:Nat) (rt:List (List RD)) (a:List RD):Prop where
 w:ze rt.length a→wN m a
 l:a.length≤4398046511104
theorem za{m:Nat}{rt:List (List RD)}{a:List RD}(T:mr m rt)(A:iA m rt a):Pure Tryz.prog 42 [sW rt,.sl 1 [a9 a]] (ml (iY rt [a])):=by
 have hm:=T.m2
 have h0: ∀i,i<[a].length→i=0:=fun i hi=>by
  have:i<1:=hi;omega
 obtain ⟨m0,t1,t2,tw,tk⟩:=T.t;exact eY rt [a] tw t1 T.l T.ll tk (fun i hi=>by rw[h0 i hi];exact A.w) (show 1≤1000000 by decide) (fun i hi=>by rw[h0 i hi];exact A.l) (by omega)
theorem nc{m:Nat}{rt:List (List RD)}{a b:List RD}(T:mr m rt)(A:iA m rt a)(B:iA m rt b):Pure Tryz.prog 42 [sW rt,.sl 1 [a9 a,a9 b]] (ml (iY rt [a,b])):=by
 have hm:=T.m2
 have h0: ∀i,i<[a,b].length→i=0∨i=1:=fun i hi=>by
  have:i<2:=hi;omega
 obtain ⟨m0,t1,t2,tw,tk⟩:=T.t;exact eY rt [a,b] tw t1 T.l T.ll tk (fun i hi=>by rcases h0 i hi with rfl | rfl;exact A.w;exact B.w) (show 2≤1000000 by decide) (fun i hi=>by rcases h0 i hi with rfl | rfl;exact A.l;exact B.l) (by omega)
theorem vQ{rt:List (List RD)}{a b:List RD}(h:iY rt [a,b]=0):cJ rt=0∧bz rt.length a=0∧bz rt.length b=0:=by
 unfold iY at h;split at h
 · rename_i h0;exact absurd h h0
 rename_i h0;have e:fE (fun i=>bz rt.length ([a,b].getD i [])) ([a,b].length-0) 0=if bz rt.length a=0 then (if bz rt.length b=0 then 0 else bz rt.length b) else bz rt.length a:=rfl
 rw[e] at h;by_cases h1:bz rt.length a=0
 · rw[if_pos h1] at h;by_cases h2:bz rt.length b=0
   · exact⟨by omega,h1,h2⟩
   · rw[if_neg h2] at h;exact absurd h h2
 · rw[if_neg h1] at h;exact absurd h h1
structure Hc (m:Nat) (rt:List (List RD)) (v:List NQ):Prop where
 l5:rt.length≤5
 ln:v.length=rt.length
 ro:db v
 sz:fA m v
 t: ∃m0,1≤m0∧m0≤m∧fA m0 v∧oF rt.length m0
 ps: ∀k,k<v.length→ ¬eG k (v.take k) (v.getD k [])<0
 eq:sW rt=aL v
theorem nA{m:Nat}{rt:List (List RD)}(T:mr m rt)(h:cJ rt=0):Hc m rt (rt.map aC):=by
 obtain ⟨k3,k4⟩:=ou h;have vo:=kn (k:=rt.length) (Nat.le_refl _) k4;have vl:=eP (rt:=rt) (k:=rt.length) (Nat.le_refl _);obtain ⟨m0,t1,t2,tw,tk⟩:=T.t;have hw:=fun j hj=>tw j hj (gi (k4 j hj)).1;have vs:=qt (k:=rt.length) hw t1 (Nat.le_refl _);have vc:=mP (k:=rt.length) hw (Nat.le_refl _) (fun j hj=>(gi (k4 j hj)).2.1);rw[List.take_length] at vo vl vs vc;refine⟨k3,vl,vo,vs.mono t2,⟨m0,t1,t2,vs,tk k3⟩,fun k hk=>?_,by show D.ag [.sl 1 (rt.map a9)]=_;rw[vc]⟩;rw[vl] at hk;have:=(gi (k4 k hk)).2.2
 have e:(rt.map aC).getD k []=aC (rt.getD k []):=by
  rw[List.getD_eq_getElem?_getD,List.getElem?_map,List.getD_eq_getElem?_getD,List.getElem?_eq_getElem hk];rfl
 rw[e,← List.map_take];exact this
theorem hC{m:Nat}{rt:List (List RD)}{a:List RD}(m1:1≤m)(A:iA m rt a)(h:bz rt.length a=0):ay rt.length (aC a)∧az m (aC a)∧a9 a=ae (aC a):=by
 obtain ⟨n1,n2⟩:=nV h;have w:=A.w (vk h);exact⟨n1,lu w m1,j0 w n2⟩
def E9(rt:List (List RD))(a:List RD)(F:NQ→NQ):D:=if iY rt [a]≠0 then .tu [ae [],ml (iY rt [a])] else .tu [ae (F (aC a)),aq]
def vb(rt:List (List RD))(a b:List RD)(F:NQ→NQ→NQ):D:=if iY rt [a,b]≠0 then .tu [ae [],ml (iY rt [a,b])] else .tu [ae (F (aC a) (aC b)),aq]
theorem uG{m:Nat}{rt:List (List RD)}{a:List RD}(T:mr m rt)(A:iA m rt a):Pure Tryz.prog 101 [sW rt,a9 a] (E9 rt a (fun x=>aG (aY x))):=by
 refine qJ 17 Tryz.func101 rfl rfl rfl rfl (by kernel_rfl) (fun B0 F0 w0=>?_);have cc:=za T A;have hm:=T.m2;unfold E9;refine qX 3 rfl ?_;refine qI ?_;refine qX 2 rfl ?_;refine aa.kc tok rfl rfl rfl rfl rfl ?_;refine aa.call tok rfl rfl rfl rfl cc ?_;refine qU 1 rfl ?_;refine aa.nil ?_;rcases e2:iY rt [a] with _ | z
 rotate_left
 · rw[if_pos (Nat.succ_ne_zero z)];refine qX 1 rfl ?_;refine aa.err tok rfl rfl rfl rfl rfl ?_;refine aa.nil ?_;refine AW.aB rfl ?_;refine qX 3 rfl ?_;exact qN rfl
 rw[if_neg (by simp)];obtain ⟨k1,k2⟩:=vR e2;have W:=nA T k1;have hl5:=W.l5;obtain ⟨n1,n2,n3⟩:=hC T.m1 A k2;have c1:=dY (aC a) (k:=m) n2 (by omega) (Nat.le_trans (n1.len (by omega)) (by decide));have c2:=bm (aY (aC a)) n1.minus hl5 n2.minus (by omega);rw[← n3] at c1;refine qX 1 rfl ?_;refine aa.err tok rfl rfl rfl rfl rfl ?_;refine aa.nil ?_;refine AW.ar rfl ?_;refine AW.skip ?_;refine qX 1 rfl ?_;refine aa.call tok rfl rfl rfl rfl c1 ?_;refine aa.call tok rfl rfl rfl rfl c2 ?_;refine qU 2 rfl ?_;exact qN rfl
theorem uI{m:Nat}{rt:List (List RD)}{a b:List RD}(T:mr m rt)(A:iA m rt a)(B:iA m rt b):Pure Tryz.prog 21 [sW rt,a9 a,a9 b] (vb rt a b (fun x y=>aG (bh x y))):=by
 refine qJ 21 Tryz.func21 rfl rfl rfl rfl (by kernel_rfl) (fun B0 F0 w0=>?_);have cc:=nc T A B;have hm:=T.m2;unfold vb;refine qX 3 rfl ?_;refine qI ?_;refine qX 3 rfl ?_;refine aa.kc tok rfl rfl rfl rfl rfl ?_;refine aa.call tok rfl rfl rfl rfl cc ?_;refine qU 1 rfl ?_;refine aa.nil ?_;rcases e2:iY rt [a,b] with _ | z
 rotate_left
 · rw[if_pos (Nat.succ_ne_zero z)];refine qX 1 rfl ?_;refine aa.err tok rfl rfl rfl rfl rfl ?_;refine aa.nil ?_;refine AW.aB rfl ?_;refine qX 3 rfl ?_;exact qN rfl
 rw[if_neg (by simp)];obtain ⟨k1,k2,k3⟩:=vQ e2;have W:=nA T k1;have hl5:=W.l5;obtain ⟨n1,n2,n3⟩:=hC T.m1 A k2;obtain ⟨p1,p2,p3⟩:=hC T.m1 B k3;have c1:=cW (aC a) (aC b) (k:=m) n2 p2 (by omega) (Nat.le_trans (n1.len (by omega)) (by decide)) (Nat.le_trans (p1.len (by omega)) (by decide));have c2:=bm (bh (aC a) (aC b)) (n1.plus p1) hl5 (n2.plus p2) (by omega);rw[← n3,← p3] at c1;refine qX 1 rfl ?_;refine aa.err tok rfl rfl rfl rfl rfl ?_;refine aa.nil ?_;refine AW.ar rfl ?_;refine AW.skip ?_;refine qX 2 rfl ?_;refine aa.call tok rfl rfl rfl rfl c1 ?_;refine aa.call tok rfl rfl rfl rfl c2 ?_;refine qU 2 rfl ?_;exact qN rfl
theorem uF{m:Nat}{rt:List (List RD)}{a b:List RD}(T:mr m rt)(A:iA m rt a)(B:iA m rt b):Pure Tryz.prog 105 [sW rt,a9 a,a9 b] (vb rt a b (fun x y=>aG (bh x (aY y)))):=by
 refine qJ 22 Tryz.func105 rfl rfl rfl rfl (by kernel_rfl) (fun B0 F0 w0=>?_);have cc:=nc T A B;have hm:=T.m2;unfold vb;refine qX 3 rfl ?_;refine qI ?_;refine qX 3 rfl ?_;refine aa.kc tok rfl rfl rfl rfl rfl ?_;refine aa.call tok rfl rfl rfl rfl cc ?_;refine qU 1 rfl ?_;refine aa.nil ?_;rcases e2:iY rt [a,b] with _ | z
 rotate_left
 · rw[if_pos (Nat.succ_ne_zero z)];refine qX 1 rfl ?_;refine aa.err tok rfl rfl rfl rfl rfl ?_;refine aa.nil ?_;refine AW.aB rfl ?_;refine qX 3 rfl ?_;exact qN rfl
 rw[if_neg (by simp)];obtain ⟨k1,k2,k3⟩:=vQ e2;have W:=nA T k1;have hl5:=W.l5;obtain ⟨n1,n2,n3⟩:=hC T.m1 A k2;obtain ⟨p1,p2,p3⟩:=hC T.m1 B k3;have c0:=dY (aC b) (k:=m) p2 (by omega) (Nat.le_trans (p1.len (by omega)) (by decide));have c1:=cW (aC a) (aY (aC b)) (k:=m) n2 p2.minus (by omega) (Nat.le_trans (n1.len (by omega)) (by decide)) (Nat.le_trans (p1.minus.len (by omega)) (by decide));have c2:=bm (bh (aC a) (aY (aC b))) (n1.plus p1.minus) hl5 (n2.plus p2.minus) (by omega);rw[← p3] at c0;rw[← n3] at c1;refine qX 1 rfl ?_;refine aa.err tok rfl rfl rfl rfl rfl ?_;refine aa.nil ?_;refine AW.ar rfl ?_;refine AW.skip ?_;refine qX 2 rfl ?_;refine aa.call tok rfl rfl rfl rfl c0 ?_;refine aa.call tok rfl rfl rfl rfl c1 ?_;refine aa.call tok rfl rfl rfl rfl c2 ?_;refine qU 2 rfl ?_;exact qN rfl
theorem uH{m:Nat}{rt:List (List RD)}{a b:List RD}(hsT:sT rt.length m≤17300000000000)(T:mr m rt)(A:iA m rt a)(B:iA m rt b):Pure Tryz.prog 106 [sW rt,a9 a,a9 b] (vb rt a b (fun x y=>aG (bc rt.length (rt.map aC) x y))):=by
 refine qJ 22 Tryz.func106 rfl rfl rfl rfl (by kernel_rfl) (fun B0 F0 w0=>?_);have cc:=nc T A B;have hm:=T.m2;unfold vb;refine qX 3 rfl ?_;refine qI ?_;refine qX 3 rfl ?_;refine aa.kc tok rfl rfl rfl rfl rfl ?_;refine aa.call tok rfl rfl rfl rfl cc ?_;refine qU 1 rfl ?_;refine aa.nil ?_;rcases e2:iY rt [a,b] with _ | z
 rotate_left
 · rw[if_pos (Nat.succ_ne_zero z)];refine qX 1 rfl ?_;refine aa.err tok rfl rfl rfl rfl rfl ?_;refine aa.nil ?_;refine AW.aB rfl ?_;refine qX 3 rfl ?_;exact qN rfl
 rw[if_neg (by simp)];obtain ⟨k1,k2,k3⟩:=vQ e2;have W:=nA T k1;have hl5:=W.l5;obtain ⟨n1,n2,n3⟩:=hC T.m1 A k2;obtain ⟨p1,p2,p3⟩:=hC T.m1 B k3;have ht:=cO rt.length n1 p1 W.ro (by rw[W.ln];exact Nat.le_refl _) n2 p2 W.sz;have c1:=rm rt.length n1 p1 W.ro (by rw[W.ln];exact Nat.le_refl _) (by rw[W.ln];omega) n2 p2 W.sz hsT;have c2:=bm (bc rt.length (rt.map aC) (aC a) (aC b)) ht.1 hl5 ht.2 (by omega);rw[← n3,← p3,← W.eq] at c1;refine qX 1 rfl ?_;refine aa.err tok rfl rfl rfl rfl rfl ?_;refine aa.nil ?_;refine AW.ar rfl ?_;refine AW.skip ?_;refine qX 3 rfl ?_;refine aa.call tok rfl rfl rfl rfl c1 ?_;refine aa.call tok rfl rfl rfl rfl c2 ?_;refine qU 2 rfl ?_;exact qN rfl
def np(q:Rat):NQ:=if q=0 then [] else [q]
theorem Aw(q:Rat):aG [q]=np q:=by
 show (if 1=0 then [] else gh (Nat.log2 1) [q])=_;rw[if_neg (by decide),show Nat.log2 1=0 by decide];unfold gh np;show (if bg [q]=true then [] else [q])=_;have:bg [q]=decide (q=0):=by unfold bg;simp
 rw[this];by_cases h:q=0
 · rw[decide_eq_true h,if_pos rfl,if_pos h]
 · rw[decide_eq_false h,if_neg (by simp),if_neg h]
theorem gH(r:RD){k:Nat}(hr:r.w k)(h1:1≤k)(hk:k≤1000000)(ho:r.okB=true):Pure Tryz.prog 102 [r.D] (ae (np r.val)):=by
 refine qJ 8 Tryz.func102 rfl rfl rfl rfl (by kernel_rfl) (fun B0 F0 w0=>?_);have c1:=kW r (Qr 0) (k:=k) hr (eN _ (by rw[mh];exact h1)) (by omega);have z:=bC hr h1;rw[bH,Rat.add_zero] at c1;have c2:=bm [r.val] (l:=0) (k:=k) (dA 0 _) (by decide) (dZ z) (by omega);rw[Aw] at c2;have hz:(Qr 0).D= .ag [dB false,.sl 1 [],.sl 1 []]:=by rw[eF];rfl
 rw[hz] at c1;refine qX 2 rfl ?_;refine qK 2 rfl ?_;refine aa.call tok rfl rfl rfl rfl c1 ?_;refine aa.kc tok rfl rfl rfl rfl rfl ?_;refine aa.call tok rfl rfl rfl rfl c2 ?_;refine qU 1 rfl ?_;exact qN rfl
end Lift
namespace Lift
abbrev Cf:=Nat→Rat
def cf(a:NQ):Cf:=fun i=>a.getD i 0
def eK(l:Nat)(a:Cf):Cf:=fun i=>a (2^l+i)
def mulC(rt:List NQ):Nat→Cf→Cf→Cf
 | 0,a,b=>fun i=>if i=0 then a 0*b 0 else 0
 | l+1,a,b=>fun i=>if i<2^l then mulC rt l a b i+mulC rt l (mulC rt l (eK l a) (eK l b)) (cf (rt.getD l [])) i else mulC rt l a (eK l b) (i-2^l)+mulC rt l (eK l a) b (i-2^l)
def fR(l:Nat)(a:Cf):Prop:= ∀i,2^l≤i→a i=0
def kX(l:Nat)(a b:Cf):Prop:= ∀i,i<2^l→a i=b i
theorem ck(rt:List NQ): ∀(l:Nat) (a b:Cf),fR l (mulC rt l a b)
 | 0,a,b=>fun i hi=>by
   have:i≠0:=by have:1≤i:=hi;omega
   show (if i=0 then _ else (0:Rat))=0;rw[if_neg this]
 | l+1,a,b=>fun i hi=>by
   rw[Nat.pow_succ] at hi;have hp:0<2^l:=Nat.pow_pos (by decide);show (if i<2^l then _ else _)=(0:Rat);rw[if_neg (by omega),ck rt l _ _ _ (by omega),ck rt l _ _ _ (by omega),Rat.add_zero]
theorem kX.down{l:Nat}{a b:Cf}(h:kX (l+1) a b):kX l a b:=fun i hi=>h i (by rw[Nat.pow_succ];omega)
theorem kX.hi{l:Nat}{a b:Cf}(h:kX (l+1) a b):kX l (eK l a) (eK l b):=fun i hi=>h _ (by rw[Nat.pow_succ];omega)
theorem kX.qd{l:Nat}{a:Cf}:kX l a a:=fun _ _=>rfl
theorem bw(rt:List NQ): ∀(l:Nat) {a b a' b':Cf},kX l a a'→kX l b b'→mulC rt l a b=mulC rt l a' b'
 | 0,a,b,a',b',h1,h2=>funext fun i=>by
   show (if i=0 then a 0*b 0 else 0)=(if i=0 then a' 0*b' 0 else 0);rw[h1 0 (by decide),h2 0 (by decide)]
 | l+1,a,b,a',b',h1,h2=>funext fun i=>by
   show (if i<2^l then mulC rt l a b i+mulC rt l (mulC rt l (eK l a) (eK l b)) (cf (rt.getD l [])) i else mulC rt l a (eK l b) (i-2^l)+mulC rt l (eK l a) b (i-2^l))=(if i<2^l then mulC rt l a' b' i+mulC rt l (mulC rt l (eK l a') (eK l b')) (cf (rt.getD l [])) i else mulC rt l a' (eK l b') (i-2^l)+mulC rt l (eK l a') b' (i-2^l));rw[bw rt l h1.down h2.down,bw rt l h1.hi h2.hi,bw rt l h1.down h2.hi,bw rt l h1.hi h2.down]
def zC:Cf:=fun _=>0
theorem bP(rt:List NQ): ∀(l:Nat) {a b:Cf},kX l a zC∨kX l b zC→mulC rt l a b=zC
 | 0,a,b,h=>funext fun i=>by
   show (if i=0 then a 0*b 0 else 0)=0;split
   · rcases h with h | h
     · rw[h 0 (by decide)];exact Rat.zero_mul _
     · rw[h 0 (by decide)];exact Rat.mul_zero _
   · rfl
 | l+1,a,b,h=>funext fun i=>by
   have hz:kX l zC zC:=kX.qd;have r1:mulC rt l a b=zC:=bP rt l (h.imp kX.down kX.down);have r2:mulC rt l (eK l a) (eK l b)=zC:=bP rt l (h.imp kX.hi kX.hi);have r3:mulC rt l a (eK l b)=zC:=bP rt l (h.imp kX.down kX.hi);have r4:mulC rt l (eK l a) b=zC:=bP rt l (h.imp kX.hi kX.down);have r5:mulC rt l zC (cf (rt.getD l []))=zC:=bP rt l (.inl hz);show (if i<2^l then mulC rt l a b i+mulC rt l (mulC rt l (eK l a) (eK l b)) (cf (rt.getD l [])) i else mulC rt l a (eK l b) (i-2^l)+mulC rt l (eK l a) b (i-2^l))=0;rw[r2,r1,r3,r4,r5];show (if i<2^l then (0:Rat)+0 else 0+0)=0;split<;>exact Rat.add_zero 0
theorem iF(rt:List NQ): ∀(l:Nat) (a b:Cf),mulC rt l a b=mulC rt l b a
 | 0,a,b=>funext fun i=>by
   show (if i=0 then a 0*b 0 else 0)=(if i=0 then b 0*a 0 else 0);rw[Rat.mul_comm]
 | l+1,a,b=>funext fun i=>by
   show (if i<2^l then mulC rt l a b i+mulC rt l (mulC rt l (eK l a) (eK l b)) (cf (rt.getD l [])) i else mulC rt l a (eK l b) (i-2^l)+mulC rt l (eK l a) b (i-2^l))=(if i<2^l then mulC rt l b a i+mulC rt l (mulC rt l (eK l b) (eK l a)) (cf (rt.getD l [])) i else mulC rt l b (eK l a) (i-2^l)+mulC rt l (eK l b) a (i-2^l));rw[iF rt l a b,iF rt l (eK l a) (eK l b),iF rt l a (eK l b),iF rt l (eK l a) b,Rat.add_comm (mulC rt l (eK l b) a _)]
theorem fR.mono{l m:Nat}{a:Cf}(h:fR l a)(hl:l≤m):fR m a:=fun i hi=>h i (Nat.le_trans (Nat.pow_le_pow_right (by decide) hl) hi)
theorem fR.vX{l:Nat}{a:Cf}(h:fR l a):eK l a=zC:=funext fun i=>h _ (by omega)
theorem dQ(rt:List NQ){j:Nat}{a b:Cf}(ha:fR j a)(hb:fR j b): ∀{l:Nat},j≤l→mulC rt l a b=mulC rt j a b:=fun {l} h=>by
 obtain ⟨d,rfl⟩: ∃d,l=j+d:=⟨l-j,by omega⟩;clear h
 induction d with
 | zero=>rfl
 | succ d ih =>
   have ha':fR (j+d) a:=ha.mono (by omega);have hb':fR (j+d) b:=hb.mono (by omega);have hz:kX (j+d) zC zC:=kX.qd;rw[← ih];funext i;show (if i<2^(j+d) then mulC rt (j+d) a b i+mulC rt (j+d) (mulC rt (j+d) (eK (j+d) a) (eK (j+d) b)) (cf (rt.getD (j+d) [])) i else mulC rt (j+d) a (eK (j+d) b) (i-2^(j+d))+mulC rt (j+d) (eK (j+d) a) b (i-2^(j+d)))=_;rw[ha'.vX,hb'.vX,bP rt (j+d) (a:=zC) (b:=zC) (.inl hz),bP rt (j+d) (a:=zC) (.inl hz),bP rt (j+d) (b:=zC) (.inr hz),bP rt (j+d) (a:=zC) (.inl hz)];by_cases hi:i<2^(j+d)
   · rw[if_pos hi];exact Rat.add_zero _
   · rw[if_neg hi,ck rt (j+d) a b i (by omega)];exact Rat.add_zero _
theorem a8{l:Nat}{a:NQ}(h:a.length≤2^l):fR l (cf a):=fun i hi=>fP (by omega)
theorem ix(a b:NQ)(i:Nat):cf (bh a b) i=cf a i+cf b i:=jY a b i
theorem xF(a:NQ)(i:Nat):cf (aY a) i= -cf a i:=kC a i
theorem qH{a:NQ}(h:bg a=true):cf a=zC:=funext fun i=>by
 unfold bg at h;rw[List.all_eq_true] at h;by_cases hi:i<a.length
 · have:=of_decide_eq_true (h a[i] (List.getElem_mem hi));show a.getD i 0=0;rw[List.getD_eq_getElem?_getD,List.getElem?_eq_getElem hi];exact this
 · exact fP (by omega)
theorem e8{j:Nat}{a:NQ}(n:Nat)(hn:n=2^j):kX j (cf (a.take n)) (cf a):=fun i hi=>by
 show (a.take n).getD i 0=a.getD i 0;rw[kF,if_pos (by omega)]
theorem jB{j:Nat}{a:NQ}(n:Nat)(hn:n=2^j):cf (a.drop n)=eK j (cf a):=funext fun i=>by
 show (a.drop n).getD i 0=a.getD (2^j+i) 0;rw[qG,hn]
theorem vw{l:Nat}{R:NQ→NQ→NQ}{rt:List NQ}{a b:NQ}(ha:ay l a)(hb:ay l b)(hab:b.length≤a.length)(hrt:db rt)(hl:l≤rt.length)
  (hR: ∀l',l=l'+1→ ∀a' b',ay l' a'→ay l' b'→ay l' (R a' b')∧cf (R a' b')=mulC rt l' (cf a') (cf b')):cf (iT R rt a b)=mulC rt l (cf a) (cf b):=by
 unfold iT;by_cases h0:(bg a||bg b)=true
 · rw[if_pos h0];have:cf ([]:NQ)=zC:=rfl;rw[this,bP];rw[Bool.or_eq_true] at h0;rcases h0 with h | h
   · left;rw[qH h];exact kX.qd
   · right;rw[qH h];exact kX.qd
 rw[if_neg h0];have hz:=fun z:bg a=true=>h0 (by rw[z];rfl);have hz2:=fun z:bg b=true=>h0 (by rw[z,Bool.or_true]);by_cases h1:a.length=1
 · rw[if_pos h1];have lb:b.length≤1:=by omega
   rw[dQ rt (j:=0) (a8 (by rw[h1];exact Nat.le_refl _)) (a8 lb) (Nat.zero_le _)];funext i;show [a.getD 0 0*b.getD 0 0].getD i 0=if i=0 then a.getD 0 0*b.getD 0 0 else 0
   cases i with
   | zero=>rfl
   | succ i=>rw[if_neg (by omega)];rfl
 rw[if_neg h1]
 obtain ⟨i,hi,hla⟩: ∃i,i≤l∧a.length=2^i:=by
  rcases ha with e | e
  · exact absurd (by rw[List.length_eq_zero_iff.1 e];rfl) hz
  · exact e
 have vX:i≠0:=fun e=>h1 (by rw[hla,e]);obtain ⟨j,rfl⟩: ∃j,i=j+1:=⟨i-1,by omega⟩;obtain ⟨l',rfl⟩: ∃l',l=l'+1:=⟨l-1,by omega⟩;have hj:j≤l':=by omega
 have hR:=fun a' b' h1 h2=>hR l' rfl a' b' h1 h2;obtain ⟨e1,e2,e3⟩:=bG hla;have hx:ay l' (a.take (a.length / 2)):= .inr ⟨j,hj,e1⟩;have hy:ay l' (a.drop (a.length / 2)):= .inr ⟨j,hj,e2⟩;have la:fR (j+1) (cf a):=a8 (by omega);have lb:fR (j+1) (cf b):=a8 (by omega);rw[dQ rt la lb hi]
 have low: ∀{p q:NQ},p.length≤2^j→q.length≤2^j→ay l' p→ay l' q→cf (R p q)=mulC rt j (cf p) (cf q):=fun {p q} hp hq h1 h2=>by
  rw[(hR p q h1 h2).2,dQ rt (a8 hp) (a8 hq) hj]
 have lenR: ∀{p q:NQ},p.length≤2^j→q.length≤2^j→ay l' p→ay l' q→fR j (cf (R p q)):=fun {p q} hp hq h1 h2=>by
  rw[low hp hq h1 h2];exact ck rt j _ _
 have tk:=e8 (a:=a) (a.length / 2) e3;have dr:=jB (a:=a) (a.length / 2) e3
 have cj: ∀{p q:NQ},fR j (cf q)→ ∀i,cf (fZ p q (a.length / 2)) i=if i<2^j then cf p i else cf q (i-2^j):=fun {p q} hq i=>by
  show (fZ p q (a.length / 2)).getD i 0=_;rw[pe,e3];by_cases h:i<2^j
  · rw[if_pos h,if_pos h];rfl
  · rw[if_neg h,if_neg h];by_cases h2:i<2^j+2^j
    · rw[if_pos h2];rfl
    · rw[if_neg h2,hq _ (by omega)]
 by_cases h3:b.length≤a.length / 2
 · rw[if_pos h3]
   have hb':ay l' b:=by
    rcases hb with e | ⟨i',_,e⟩
    · exact .inl e
    · refine .inr ⟨i',?_,e⟩;rw[e3,e] at h3;have:=(Nat.pow_le_pow_iff_right (a:=2) (by decide)).1 h3;omega
   rw[e3] at h3;have lbj:fR j (cf b):=a8 h3;funext i;rw[cj (lenR (by omega) h3 hy hb'),low (by omega) h3 hx hb',low (by omega) h3 hy hb',dr,bw rt j tk kX.qd];show _=if i<2^j then mulC rt j (cf a) (cf b) i+mulC rt j (mulC rt j (eK j (cf a)) (eK j (cf b))) (cf (rt.getD j [])) i else mulC rt j (cf a) (eK j (cf b)) (i-2^j)+mulC rt j (eK j (cf a)) (cf b) (i-2^j)
   have hzz:kX j zC zC:=kX.qd;rw[lbj.vX,bP rt j (b:=zC) (.inr hzz),bP rt j (b:=zC) (.inr hzz),bP rt j (a:=zC) (.inl hzz)];by_cases h:i<2^j
   · rw[if_pos h,if_pos h];exact(Rat.add_zero _).symm
   · rw[if_neg h,if_neg h];exact(Rat.zero_add _).symm
 rw[if_neg h3]
 have hlb:b.length=2^(j+1):=by
  rcases hb with e | ⟨i',_,e⟩
  · exact absurd (by rw[List.length_eq_zero_iff.1 e];rfl) hz2
  · rw[e] at h3 hab ⊢;rw[hla] at hab;rw[e3] at h3;have h4:=(Nat.pow_le_pow_iff_right (a:=2) (by decide)).1 hab;have h5: ¬i'≤j:=fun h=>h3 ((Nat.pow_le_pow_iff_right (a:=2) (by decide)).2 h);rw[show i'=j+1 by omega]
 obtain ⟨f1,f2,f3⟩:=bG hlb;rw[show b.length / 2=a.length / 2 by rw[f3,e3]] at f1 f2;have hu:ay l' (b.take (a.length / 2)):= .inr ⟨j,hj,f1⟩;have hv:ay l' (b.drop (a.length / 2)):= .inr ⟨j,hj,f2⟩;have tkb:=e8 (a:=b) (a.length / 2) e3;have drb:=jB (a:=b) (a.length / 2) e3;have hlog:a.length.log2-1=j:=by rw[hla,Nat.log2_two_pow];omega
 rw[hlog];have hdl:(rt.getD j []).length=2^j:=hrt j (by omega);have hd:ay l' (rt.getD j []):= .inr ⟨j,hj,hdl⟩;have Ryv:=hR _ _ hy hv;have lyv:fR j (cf (R (a.drop (a.length / 2)) (b.drop (a.length / 2)))):=lenR (by omega) (by omega) hy hv;have c1:=low (p:=a.take (a.length / 2)) (q:=b.take (a.length / 2)) (by omega) (by omega) hx hu;have c2:=low (p:=a.drop (a.length / 2)) (q:=b.drop (a.length / 2)) (by omega) (by omega) hy hv;have c3:=low (p:=a.take (a.length / 2)) (q:=b.drop (a.length / 2)) (by omega) (by omega) hx hv;have c4:=low (p:=a.drop (a.length / 2)) (q:=b.take (a.length / 2)) (by omega) (by omega) hy hu
 have c5:cf (R (R (a.drop (a.length / 2)) (b.drop (a.length / 2))) (rt.getD j []))=mulC rt j (cf (R (a.drop (a.length / 2)) (b.drop (a.length / 2)))) (cf (rt.getD j [])):=by
  rw[(hR _ _ Ryv.1 hd).2,dQ rt lyv (a8 (by omega)) hj]
 have lq:fR j (cf (bh (R (a.take (a.length / 2)) (b.drop (a.length / 2))) (R (a.drop (a.length / 2)) (b.take (a.length / 2))))):=fun i hi=>by
  rw[ix,c3,c4,ck rt j _ _ i hi,ck rt j _ _ i hi];exact Rat.add_zero _
 funext i;rw[cj lq,ix,ix,c1,c5,c2,c3,c4,dr,drb,bw rt j tk tkb,bw rt j tk kX.qd,bw rt j kX.qd tkb];rfl
theorem lp: ∀(l:Nat) {rt:List NQ} {a b:NQ},ay l a→ay l b→db rt→l≤rt.length→ay l (bc l rt a b)∧cf (bc l rt a b)=mulC rt l (cf a) (cf b)
 | 0,rt,a,b,ha,hb,hrt,hl=>by
   have key: ∀{a b:NQ},ay 0 a→ay 0 b→b.length≤a.length→ay 0 (iT (fun _ _=>[]) rt a b)∧cf (iT (fun _ _=>[]) rt a b)=mulC rt 0 (cf a) (cf b):=fun {a b} ha hb hab =>
    ⟨by
     unfold iT;split
     · exact bY _
     split
     · exact dA _ _
     · rename_i h0 h1;have:a.length≤1:=ha.le;have:a=[]:=List.length_eq_zero_iff.1 (by omega);subst this
       exact absurd rfl h0,vw ha hb hab hrt hl (fun l' h=>by omega)⟩
   show ay 0 (jM (iT (fun _ _=>[]) rt) a b)∧cf (jM (iT (fun _ _=>[]) rt) a b)=_;unfold jM;split
   · have:=key hb ha (by omega);exact⟨this.1,by rw[this.2,iF]⟩
   · exact key ha hb (by omega)
 | l+1,rt,a,b,ha,hb,hrt,hl=>by
   have ih: ∀l',l+1=l'+1→ ∀a' b',ay l' a'→ay l' b'→ay l' (bc l rt a' b')∧cf (bc l rt a' b')=mulC rt l' (cf a') (cf b'):=fun l' e a' b' h1 h2=>by
    obtain rfl:l=l':=by omega
    exact lp l h1 h2 hrt (by omega)
   have lt:ay (l+1) (bc (l+1) rt a b):=by
    obtain ⟨K,hK⟩: ∃K,az K a∧az K b∧fA K rt:=tP a b rt;exact(cO (l+1) ha hb hrt hl hK.1 hK.2.1 hK.2.2).1
   refine⟨lt,?_⟩;show cf (jM (iT (bc l rt) rt) a b)=_;unfold jM;split
   · rw[vw hb ha (by omega) hrt hl ih,iF]
   · exact vw ha hb (by omega) hrt hl ih
end Lift
namespace Lift
theorem Bz:uM 0=0:=rz.2 rfl
theorem CN: ∀{i:Nat} {a:NQ},fR i (cf a)→cf (gh i a)=cf a
 | 0,a,h=>by
   unfold gh;by_cases h0:bg (a.take 1)=true
   · rw[if_pos h0];have z:=qH h0;funext c;show (0:Rat)=a.getD c 0;cases c with
     | zero =>
       have:(a.take 1).getD 0 0=0:=congrFun z 0;rw[kF,if_pos (by decide)] at this;exact this.symm
     | succ c=>exact(h (c+1) (by show 1≤c+1;omega)).symm
   · rw[if_neg h0];funext c;show (a.take 1).getD c 0=a.getD c 0;rw[kF];split
     · rfl
     · exact(h c (by show 1≤c;omega)).symm
 | i+1,a,h=>by
   unfold gh;have e:2^(i+1)=2^i*2:=Nat.pow_succ ..;by_cases h0:bg ((a.take (2^(i+1))).drop (2^i))=true
   · rw[if_pos h0];refine CN fun c hc=>?_;by_cases hc2:c<2^(i+1)
     · have:=congrFun (qH h0) (c-2^i);have:((a.take (2^(i+1))).drop (2^i)).getD (c-2^i) 0=0:=this;rw[qG,kF,if_pos (by omega),show 2^i+(c-2^i)=c by omega] at this;exact this
     · exact h c (by omega)
   · rw[if_neg h0];funext c;show (a.take (2^(i+1))).getD c 0=a.getD c 0;rw[kF];split
     · rfl
     · exact(h c (by omega)).symm
theorem eX{l:Nat}{a:NQ}(ha:ay l a):cf (aG a)=cf a:=by
 unfold aG;split
 · rename_i h;rw[List.length_eq_zero_iff.1 h]
 rename_i h0;rcases ha with e | ⟨i,hi,e⟩
 · exact absurd e h0
 rw[e,Nat.log2_two_pow];exact CN (a8 (by omega))
theorem b6{l:Nat}{a:NQ}(ha:ay l a):ay l (aG a):=by
 obtain ⟨K,hK⟩:=zo a;exact(bk ha hK).1
structure uA (a:NQ):Prop where
 one:a.length=1→a.getD 0 0≠0
 two: ∀i,a.length=2^(i+1)→ ¬fR i (cf a)
theorem tN:uA []:=⟨fun h=>absurd h (by decide),fun i h=>by
  have hp:0<2^(i+1):=Nat.pow_pos (by decide);have h:0=2^(i+1):=h
  omega⟩
theorem qZ{a:NQ}(h:cf a=zC):bg a=true:=by
 unfold bg;rw[List.all_eq_true];intro x hx;obtain ⟨i,hi,rfl⟩:=List.getElem_of_mem hx;have:=congrFun h i;have:a.getD i 0=0:=this;rw[List.getD_eq_getElem?_getD,List.getElem?_eq_getElem hi] at this;exact decide_eq_true this
theorem tM: ∀{i:Nat} {a:NQ},a.length=2^i∨2^i≤a.length→uA (gh i a)
 | 0,a,h=>by
   unfold gh;by_cases h0:bg (a.take 1)=true
   · rw[if_pos h0];exact tN
   · rw[if_neg h0]
     have hl:(a.take 1).length=1:=by rw[List.length_take];have:1≤a.length:=by rcases h with h | h;(have h:a.length=1:=h;omega);exact h
                                     omega
     refine⟨fun _ e=>h0 (qZ (funext fun c=>?_)),fun i h=>?_⟩
     · show (a.take 1).getD c 0=0;cases c with
       | zero=>exact e
       | succ c=>exact fP (by omega)
     · rw[hl,Nat.pow_succ] at h;omega
 | i+1,a,h=>by
   unfold gh;have e:2^(i+1)=2^i*2:=Nat.pow_succ ..;have hp:0<2^i:=Nat.pow_pos (by decide);by_cases h0:bg ((a.take (2^(i+1))).drop (2^i))=true
   · rw[if_pos h0];exact tM (.inr (by omega))
   · rw[if_neg h0];have hl:(a.take (2^(i+1))).length=2^(i+1):=by rw[List.length_take];omega
     refine⟨fun h1=>?_,fun k hk hlow=>h0 (qZ (funext fun c=>?_))⟩
     · rw[hl] at h1;omega
     · rw[hl] at hk
       have:k=i:=by
        have h1:=(Nat.pow_le_pow_iff_right (a:=2) (by decide)).1 (Nat.le_of_eq hk);have h2:=(Nat.pow_le_pow_iff_right (a:=2) (by decide)).1 (Nat.le_of_eq hk.symm);omega
       subst this;show ((a.take (2^(k+1))).drop (2^k)).getD c 0=0;rw[qG];exact hlow _ (by omega)
theorem lr{l:Nat}{a:NQ}(ha:ay l a):uA (aG a):=by
 unfold aG;split
 · exact tN
 rename_i h0;rcases ha with e | ⟨i,hi,e⟩
 · exact absurd e h0
 rw[e,Nat.log2_two_pow];exact tM (.inl e)
theorem DT{a b:NQ}(hl:a.length=b.length)(h:cf a=cf b):a=b:=by
 refine List.ext_getElem hl fun i h1 h2=>?_;have:a.getD i 0=b.getD i 0:=congrFun h i;rw[List.getD_eq_getElem?_getD,List.getD_eq_getElem?_getD,List.getElem?_eq_getElem h1,List.getElem?_eq_getElem h2] at this;exact this
theorem Bh{l m:Nat}{a b:NQ}(ha:ay l a)(hb:ay m b)(ta:uA a)(tb:uA b)(h:cf a=cf b):a=b:=by
 refine DT ?_ h
 have key: ∀{l m:Nat} {a b:NQ},ay l a→ay m b→uA b→cf a=cf b→b.length≤a.length:=fun {l m a b} ha hb tb h=>by
  by_cases hlt:b.length≤a.length
  · exact hlt
  exfalso;rcases hb with e | ⟨k,_,e⟩
  · omega
  rcases k with _ | k
  · have h1:b.length=1:=e;have h0:a.length=0:=by omega
    refine tb.one h1 ?_;have:a.getD 0 0=b.getD 0 0:=congrFun h 0;rw[← this];exact fP (by omega)
  · refine tb.two k e ?_;rw[← h];refine a8 ?_;rcases ha with e1 | ⟨j,_,e1⟩
    · omega
    · rw[e1,e] at hlt;have: ¬k+1≤j:=fun h=>hlt (Nat.pow_le_pow_right (by decide) h);rw[e1];exact Nat.pow_le_pow_right (by decide) (by omega)
 exact Nat.le_antisymm (key hb ha ta h.symm) (key ha hb tb h)
theorem wj{l m:Nat}{a b:NQ}(ha:ay l a)(hb:ay m b)(h:cf a=cf b):aG a=aG b:=by
 refine Bh (b6 ha) (b6 hb) (lr ha) (lr hb) ?_;rw[eX ha,eX hb,h]
def ij(rt:List NQ)(l:Nat)(a:Cf):Cf:=fun i=>mulC rt l a a i-mulC rt l (mulC rt l (eK l a) (eK l a)) (cf (rt.getD l [])) i
def bD(rt:List NQ):Nat→Cf→Int
 | 0,a=>uM (a 0)
 | l+1,a=>if bD rt l (cf (rt.getD l []))=0 then bD rt l a else if bD rt l a=bD rt l (eK l a)∨bD rt l (eK l a)=0 then bD rt l a else
   if bD rt l a=0 then bD rt l (eK l a) else bD rt l a*bD rt l (ij rt l a)
theorem w6(rt:List NQ){l:Nat}{a b:Cf}(h:kX (l+1) a b):ij rt l a=ij rt l b:=by
 unfold ij;rw[bw rt l h.down h.down,bw rt l h.hi h.hi]
theorem ku(rt:List NQ): ∀(l:Nat) {a b:Cf},kX l a b→bD rt l a=bD rt l b
 | 0,a,b,h=>by show uM (a 0)=uM (b 0);rw[h 0 (by decide)]
 | l+1,a,b,h=>by
   unfold bD;rw[ku rt l h.down,ku rt l h.hi,w6 rt h]
theorem jO(rt:List NQ): ∀(l:Nat),bD rt l zC=0
 | 0=>by show uM 0=0;exact Bz
 | l+1=>by
   have h:=jO rt l;have h2:bD rt l (eK l zC)=0:=h;unfold bD;rw[h,h2];split
   · rfl
   · rw[if_pos (Or.inl rfl)]
theorem e7(rt:List NQ){j:Nat}{a:Cf}(ha:fR j a): ∀{l:Nat},j≤l→bD rt l a=bD rt j a:=fun {l} h=>by
 obtain ⟨d,rfl⟩: ∃d,l=j+d:=⟨l-j,by omega⟩;clear h
 induction d with
 | zero=>rfl
 | succ d ih =>
   have ha':fR (j+d) a:=ha.mono (by omega);show (if bD rt (j+d) (cf (rt.getD (j+d) []))=0 then bD rt (j+d) a else if bD rt (j+d) a=bD rt (j+d) (eK (j+d) a)∨bD rt (j+d) (eK (j+d) a)=0 then bD rt (j+d) a else if bD rt (j+d) a=0 then bD rt (j+d) (eK (j+d) a) else bD rt (j+d) a*bD rt (j+d) (ij rt (j+d) a))=_;rw[ha'.vX,jO,ih];by_cases hd:bD rt (j+d) (cf (rt.getD (j+d) []))=0
   · rw[if_pos hd]
   · rw[if_neg hd,if_pos (Or.inr rfl)]
theorem DK{l j:Nat}{rt:List NQ}{a:NQ}(hj:j≤l)(ha:a.length=2^(j+1))(hrt:db rt)(hl:l<rt.length):ay l (ig l rt a)∧cf (ig l rt a)=ij rt j (cf a):=by
 obtain ⟨K,hK⟩: ∃K,az K a∧az K a∧fA K rt:=tP a a rt;refine⟨(vn hj ha hrt hl hK.1 hK.2.2).1,?_⟩;obtain ⟨e1,e2,e3⟩:=bG ha;have hx:ay l (a.take (a.length / 2)):= .inr ⟨j,hj,e1⟩;have hy:ay l (a.drop (a.length / 2)):= .inr ⟨j,hj,e2⟩;have hlog:a.length.log2-1=j:=by rw[ha,Nat.log2_two_pow];omega
 have hdl:(rt.getD j []).length=2^j:=hrt j (by omega);have hd:ay l (rt.getD j []):= .inr ⟨j,hj,hdl⟩;have r1:=lp l hx hx hrt (by omega);have r2:=lp l hy hy hrt (by omega);have r3:=lp l r2.1 hd hrt (by omega);unfold ig ij;rw[hlog];funext i;rw[ix,xF,r1.2,r3.2,r2.2,dQ rt (a8 (by omega)) (a8 (by omega)) hj,dQ rt (a8 (a:=a.drop (a.length / 2)) (by omega)) (a8 (by omega)) hj,dQ rt (ck rt j _ _) (a8 (by omega)) hj,jB _ e3,bw rt j (e8 _ e3) (e8 _ e3)];exact Rat.sub_eq_add_neg _ _ |>.symm
theorem kr: ∀(l:Nat) {rt:List NQ} {a:NQ},ay l a→db rt→l≤rt.length→eG l rt a=bD rt l (cf a)
 | 0,rt,a,ha,hrt,hl=>by
   have hs:=b6 ha;have hc:=eX ha;show s9 (fun _=>0) (fun a=>a) rt (aG a)=uM (cf a 0);rw[← hc];generalize aG a=s at hs;unfold s9;rcases hs with e | ⟨i,hi,e⟩
   · rw[if_pos e,List.length_eq_zero_iff.1 e];show 0=uM 0;rw[Bz]
   · obtain rfl:i=0:=by omega
     have e:s.length=1:=e;rw[if_neg (by omega),if_pos e];rfl
 | l+1,rt,a,ha,hrt,hl=>by
   have hs:=b6 ha;have hc:=eX ha;show s9 (eG l rt) (ig l rt) rt (aG a)=bD rt (l+1) (cf a);rw[← hc];generalize aG a=s at hs;clear hc ha;unfold s9;by_cases h0:s.length=0
   · rw[if_pos h0,List.length_eq_zero_iff.1 h0];exact(jO rt (l+1)).symm
   rw[if_neg h0];by_cases h1:s.length=1
   · rw[if_pos h1,e7 rt (j:=0) (a8 (by rw[h1];exact Nat.le_refl _)) (Nat.zero_le _)];rfl
   rw[if_neg h1]
   obtain ⟨j,hj,hsl⟩: ∃j,j≤l∧s.length=2^(j+1):=by
    rcases hs with e | ⟨i,hi,e⟩
    · exact absurd e h0
    · rcases i with _ | j
      · exact absurd e h1
      · exact⟨j,by omega,e⟩
   obtain ⟨e1,e2,e3⟩:=bG hsl;have hx:ay l (s.take (s.length / 2)):= .inr ⟨j,hj,e1⟩;have hy:ay l (s.drop (s.length / 2)):= .inr ⟨j,hj,e2⟩;have hlog:s.length.log2-1=j:=by rw[hsl,Nat.log2_two_pow];omega
   have hdl:(rt.getD j []).length=2^j:=hrt j (by omega);have hd:ay l (rt.getD j []):= .inr ⟨j,hj,hdl⟩;have hn:=DK hj hsl hrt (by omega)
   have lowN:fR j (ij rt j (cf s)):=fun i hi=>by
    unfold ij;rw[ck rt j _ _ i hi,ck rt j _ _ i hi];exact Rat.sub_self
   rw[hlog,kr l hd hrt (by omega),kr l hx hrt (by omega),kr l hy hrt (by omega),kr l hn.1 hrt (by omega),hn.2,jB _ e3,
    e7 rt (a8 (a:=rt.getD j []) (by omega)) hj,e7 rt (a8 (a:=s.take (s.length / 2)) (by omega)) hj,e7 rt lowN hj,ku rt j (e8 _ e3)]
   have lh:fR j (eK j (cf s)):=fun i hi=>(a8 (l:=j+1) (by omega)) _ (by rw[Nat.pow_succ];omega);rw[e7 rt lh hj,e7 rt (a:=cf s) (j:=j+1) (l:=l+1) (a8 (by omega)) (by omega)];rfl
end Lift
namespace Lift
def ji(R:NQ→NQ→NQ)(rt:List NQ)(a b:NQ):NQ :=
 if a.length=0∨b.length=0 then [] else if max a.length b.length=1 then [a.getD 0 0*b.getD 0 0] else
 fZ (bh (R ((aX a (max a.length b.length)).take (max a.length b.length / 2)) ((aX b (max a.length b.length)).take (max a.length b.length / 2)))
   (R (R ((aX a (max a.length b.length)).drop (max a.length b.length / 2)) ((aX b (max a.length b.length)).drop (max a.length b.length / 2))) (rt.getD ((max a.length b.length).log2-1) [])))
  (bh (R ((aX a (max a.length b.length)).take (max a.length b.length / 2)) ((aX b (max a.length b.length)).drop (max a.length b.length / 2)))
   (R ((aX a (max a.length b.length)).drop (max a.length b.length / 2)) ((aX b (max a.length b.length)).take (max a.length b.length / 2)))) (max a.length b.length / 2)
def ev:Nat→List NQ→NQ→NQ→NQ
 | 0,rt,a,b=>ji (fun _ _=>[]) rt (aG a) (aG b)
 | l+1,rt,a,b=>ji (ev l rt) rt (aG a) (aG b)
theorem Ad{l:Nat}{a:NQ}(n:Nat)(ha:a.length≤n):cf (aX a n)=cf a:=funext fun i=>by
 show (aX a n).getD i 0=a.getD i 0;rw[fk];split
 · rfl
 · exact(fP (by omega)).symm
theorem wD{l:Nat}{R:NQ→NQ→NQ}{rt:List NQ}{a b:NQ}(ha:ay l a)(hb:ay l b)(hrt:db rt)(hl:l≤rt.length)
  (hR: ∀l',l=l'+1→ ∀a' b',ay l' a'→ay l' b'→ay l' (R a' b')∧cf (R a' b')=mulC rt l' (cf a') (cf b')):ay l (ji R rt a b)∧cf (ji R rt a b)=mulC rt l (cf a) (cf b):=by
 have cz: ∀{x:NQ},x.length=0→cf x=zC:=fun {x} h=>by rw[List.length_eq_zero_iff.1 h];rfl
 unfold ji;by_cases h0:a.length=0∨b.length=0
 · rw[if_pos h0];refine⟨bY _,?_⟩;rw[bP rt l (h0.imp (fun h=>by rw[cz h];exact kX.qd) (fun h=>by rw[cz h];exact kX.qd))];rfl
 rw[if_neg h0];by_cases h1:max a.length b.length=1
 · rw[if_pos h1];refine⟨dA _ _,?_⟩;rw[dQ rt (j:=0) (a8 (show a.length≤1 by omega)) (a8 (show b.length≤1 by omega)) (Nat.zero_le _)];funext i;show [a.getD 0 0*b.getD 0 0].getD i 0=if i=0 then a.getD 0 0*b.getD 0 0 else 0
   cases i with
   | zero=>rfl
   | succ i=>rw[if_neg (by omega)];rfl
 rw[if_neg h1]
 obtain ⟨i,hi,hn⟩: ∃i,i≤l∧max a.length b.length=2^i:=by
  rcases ha with e | ⟨i,hi,e⟩
  · exact absurd (.inl e) h0
  rcases hb with e2 | ⟨k,hk,e2⟩
  · exact absurd (.inr e2) h0
  by_cases h:a.length≤b.length
  · exact⟨k,hk,by rw[Nat.max_eq_right h,e2]⟩
  · exact⟨i,hi,by rw[Nat.max_eq_left (by omega),e]⟩
 have vX:i≠0:=fun e=>h1 (by rw[hn,e]);obtain ⟨j,rfl⟩: ∃j,i=j+1:=⟨i-1,by omega⟩;obtain ⟨l',rfl⟩: ∃l',l=l'+1:=⟨l-1,by omega⟩;have hj:j≤l':=by omega
 have hR:=fun a' b' h1 h2=>hR l' rfl a' b' h1 h2;have ca:=Ad (l:=l') (max a.length b.length) (Nat.le_max_left a.length b.length);have cb:=Ad (l:=l') (max a.length b.length) (Nat.le_max_right a.length b.length);have wa:=bj a (max a.length b.length);have wb:=bj b (max a.length b.length);rw[← ca,← cb];generalize aX a (max a.length b.length)=A at *;generalize aX b (max a.length b.length)=B at *;generalize max a.length b.length=n at *;subst hn;have e0:=jX j;have hlog:(2^(j+1)).log2-1=j:=by rw[Nat.log2_two_pow];omega
 rw[e0,hlog];obtain ⟨e1,e2,e3⟩:=bG wa;obtain ⟨f1,f2,f3⟩:=bG wb;rw[e3] at e1 e2;rw[f3] at f1 f2;have hx:ay l' (A.take (2^j)):= .inr ⟨j,hj,e1⟩;have hy:ay l' (A.drop (2^j)):= .inr ⟨j,hj,e2⟩;have hu:ay l' (B.take (2^j)):= .inr ⟨j,hj,f1⟩;have hv:ay l' (B.drop (2^j)):= .inr ⟨j,hj,f2⟩;have hdl:(rt.getD j []).length=2^j:=hrt j (by omega);have hd:ay l' (rt.getD j []):= .inr ⟨j,hj,hdl⟩
 have low: ∀{p q:NQ},p.length≤2^j→q.length≤2^j→ay l' p→ay l' q→cf (R p q)=mulC rt j (cf p) (cf q):=fun {p q} hp hq h1 h2=>by
  rw[(hR p q h1 h2).2,dQ rt (a8 hp) (a8 hq) hj]
 have Ryv:=hR _ _ hy hv;have c2:=low (p:=A.drop (2^j)) (q:=B.drop (2^j)) (by omega) (by omega) hy hv;have lyv:fR j (cf (R (A.drop (2^j)) (B.drop (2^j)))):=by rw[c2];exact ck rt j _ _
 have c1:=low (p:=A.take (2^j)) (q:=B.take (2^j)) (by omega) (by omega) hx hu;have c3:=low (p:=A.take (2^j)) (q:=B.drop (2^j)) (by omega) (by omega) hx hv;have c4:=low (p:=A.drop (2^j)) (q:=B.take (2^j)) (by omega) (by omega) hy hu
 have c5:cf (R (R (A.drop (2^j)) (B.drop (2^j))) (rt.getD j []))=mulC rt j (cf (R (A.drop (2^j)) (B.drop (2^j)))) (cf (rt.getD j [])):=by
  rw[(hR _ _ Ryv.1 hd).2,dQ rt lyv (a8 (by omega)) hj]
 refine⟨.inr ⟨j+1,by omega,by rw[iG,Nat.pow_succ];omega⟩,?_⟩;rw[dQ rt (j:=j+1) (a8 (by omega)) (a8 (by omega)) (by omega)]
 have lq:fR j (cf (bh (R (A.take (2^j)) (B.drop (2^j))) (R (A.drop (2^j)) (B.take (2^j))))):=fun i hi=>by
  rw[ix,c3,c4,ck rt j _ _ i hi,ck rt j _ _ i hi];exact Rat.add_zero _
 have cj: ∀{p q:NQ},fR j (cf q)→ ∀i,cf (fZ p q (2^j)) i=if i<2^j then cf p i else cf q (i-2^j):=fun {p q} hq i=>by
  show (fZ p q (2^j)).getD i 0=_;rw[pe];by_cases h:i<2^j
  · rw[if_pos h,if_pos h];rfl
  · rw[if_neg h,if_neg h];by_cases h2:i<2^j+2^j
    · rw[if_pos h2];rfl
    · rw[if_neg h2,hq _ (by omega)]
 funext i;rw[cj lq,ix,ix,c1,c5,c2,c3,c4,jB (a:=A) (2^j) rfl,jB (a:=B) (2^j) rfl,bw rt j (e8 (a:=A) (2^j) rfl) (e8 (a:=B) (2^j) rfl),bw rt j (e8 (a:=A) (2^j) rfl) kX.qd,bw rt j kX.qd (e8 (a:=B) (2^j) rfl)];rfl
theorem jR: ∀(l:Nat) {rt:List NQ} {a b:NQ},ay l a→ay l b→db rt→l≤rt.length→ay l (ev l rt a b)∧cf (ev l rt a b)=mulC rt l (cf a) (cf b)
 | 0,rt,a,b,ha,hb,hrt,hl=>by
   have:=wD (R:=fun _ _=>[]) (b6 ha) (b6 hb) hrt hl (fun l' h=>by omega);rw[eX ha,eX hb] at this;exact this
 | l+1,rt,a,b,ha,hb,hrt,hl=>by
   have:=wD (R:=ev l rt) (b6 ha) (b6 hb) hrt hl (fun l' e a' b' h1 h2=>by
    obtain rfl:l=l':=by omega
    exact jR l h1 h2 hrt (by omega))
   rw[eX ha,eX hb] at this;exact this
def jF(l:Nat)(rt:List NQ)(a:NQ):NQ :=
 bh (ev l rt (a.take (a.length / 2)) (a.take (a.length / 2))) (aY (ev l rt (ev l rt (a.drop (a.length / 2)) (a.drop (a.length / 2))) (rt.getD (a.length.log2-1) [])))
def mA(R:NQ→Int)(N:NQ→NQ)(rt:List NQ)(a:NQ):Int :=
 if a.length=0 then 0 else if a.length=1 then uM (a.getD 0 0) else
 if R (a.take (a.length / 2))=R (a.drop (a.length / 2))*R (rt.getD (a.length.log2-1) [])∨R (a.drop (a.length / 2))*R (rt.getD (a.length.log2-1) [])=0 then R (a.take (a.length / 2)) else
 if R (a.take (a.length / 2))=0 then R (a.drop (a.length / 2))*R (rt.getD (a.length.log2-1) []) else R (a.take (a.length / 2))*R (N a)
def oQ:Nat→List NQ→NQ→Int
 | 0,rt,a=>mA (fun _=>0) (fun a=>a) rt (aG a)
 | l+1,rt,a=>mA (oQ l rt) (jF l rt) rt (aG a)
def Ag(rt:List NQ):Prop:= ∀j,j<rt.length→0≤bD rt j (cf (rt.getD j []))
theorem BJ{l j:Nat}{rt:List NQ}{a:NQ}(hj:j≤l)(ha:a.length=2^(j+1))(hrt:db rt)(hl:l<rt.length):ay l (jF l rt a)∧cf (jF l rt a)=ij rt j (cf a):=by
 obtain ⟨e1,e2,e3⟩:=bG ha;have hx:ay l (a.take (a.length / 2)):= .inr ⟨j,hj,e1⟩;have hy:ay l (a.drop (a.length / 2)):= .inr ⟨j,hj,e2⟩;have hlog:a.length.log2-1=j:=by rw[ha,Nat.log2_two_pow];omega
 have hdl:(rt.getD j []).length=2^j:=hrt j (by omega);have hd:ay l (rt.getD j []):= .inr ⟨j,hj,hdl⟩;have r1:=jR l hx hx hrt (by omega);have r2:=jR l hy hy hrt (by omega);have r3:=jR l r2.1 hd hrt (by omega);unfold jF;rw[hlog];refine⟨r1.1.plus r3.1.minus,?_⟩;unfold ij;funext i;rw[ix,xF,r1.2,r3.2,r2.2,dQ rt (a8 (by omega)) (a8 (by omega)) hj,dQ rt (a8 (a:=a.drop (a.length / 2)) (by omega)) (a8 (by omega)) hj,dQ rt (ck rt j _ _) (a8 (by omega)) hj,jB _ e3,bw rt j (e8 _ e3) (e8 _ e3)];exact Rat.sub_eq_add_neg _ _ |>.symm
theorem jP(rt:List NQ): ∀(l:Nat) (a:Cf),tL (bD rt l a)
 | 0,a=>oP _
 | l+1,a=>by
   unfold bD;split
   · exact jP rt l _
   split
   · exact jP rt l _
   split
   · exact jP rt l _
   · exact ko (jP rt l _) (jP rt l _)
theorem jS: ∀(l:Nat) {rt:List NQ} {a:NQ},ay l a→db rt→Ag rt→l≤rt.length→oQ l rt a=bD rt l (cf a)
 | 0,rt,a,ha,hrt,hp,hl=>by
   have hs:=b6 ha;have hc:=eX ha;show mA (fun _=>0) (fun a=>a) rt (aG a)=uM (cf a 0);rw[← hc];generalize aG a=s at hs;unfold mA;rcases hs with e | ⟨i,hi,e⟩
   · rw[if_pos e,List.length_eq_zero_iff.1 e];show 0=uM 0;rw[Bz]
   · obtain rfl:i=0:=by omega
     have e:s.length=1:=e;rw[if_neg (by omega),if_pos e];rfl
 | l+1,rt,a,ha,hrt,hp,hl=>by
   have hs:=b6 ha;have hc:=eX ha;show mA (oQ l rt) (jF l rt) rt (aG a)=bD rt (l+1) (cf a);rw[← hc];generalize aG a=s at hs;clear hc ha;unfold mA;by_cases h0:s.length=0
   · rw[if_pos h0,List.length_eq_zero_iff.1 h0];exact(jO rt (l+1)).symm
   rw[if_neg h0];by_cases h1:s.length=1
   · rw[if_pos h1,e7 rt (j:=0) (a8 (by rw[h1];exact Nat.le_refl _)) (Nat.zero_le _)];rfl
   rw[if_neg h1]
   obtain ⟨j,hj,hsl⟩: ∃j,j≤l∧s.length=2^(j+1):=by
    rcases hs with e | ⟨i,hi,e⟩
    · exact absurd e h0
    · rcases i with _ | j
      · exact absurd e h1
      · exact⟨j,by omega,e⟩
   obtain ⟨e1,e2,e3⟩:=bG hsl;have hx:ay l (s.take (s.length / 2)):= .inr ⟨j,hj,e1⟩;have hy:ay l (s.drop (s.length / 2)):= .inr ⟨j,hj,e2⟩;have hlog:s.length.log2-1=j:=by rw[hsl,Nat.log2_two_pow];omega
   have hdl:(rt.getD j []).length=2^j:=hrt j (by omega);have hd:ay l (rt.getD j []):= .inr ⟨j,hj,hdl⟩;have hn:=BJ hj hsl hrt (by omega)
   have lowN:fR j (ij rt j (cf s)):=fun i hi=>by
    unfold ij;rw[ck rt j _ _ i hi,ck rt j _ _ i hi];exact Rat.sub_self
   have lh:fR j (eK j (cf s)):=fun i hi=>(a8 (l:=j+1) (by omega)) _ (by rw[Nat.pow_succ];omega);have hpj:=hp j (by omega)
   rw[hlog,jS l hd hrt hp (by omega),jS l hx hrt hp (by omega),jS l hy hrt hp (by omega),jS l hn.1 hrt hp (by omega),hn.2,jB _ e3,
    e7 rt (a8 (a:=rt.getD j []) (by omega)) hj,e7 rt (a8 (a:=s.take (s.length / 2)) (by omega)) hj,e7 rt lowN hj,ku rt j (e8 _ e3),e7 rt lh hj,e7 rt (a:=cf s) (j:=j+1) (l:=l+1) (a8 (by omega)) (by omega)]
   show _=if bD rt j (cf (rt.getD j []))=0 then bD rt j (cf s) else if bD rt j (cf s)=bD rt j (eK j (cf s))∨bD rt j (eK j (cf s))=0 then bD rt j (cf s) else
    if bD rt j (cf s)=0 then bD rt j (eK j (cf s)) else bD rt j (cf s)*bD rt j (ij rt j (cf s))
   have ht:=jP rt j (cf (rt.getD j []));generalize bD rt j (cf (rt.getD j []))=D at hpj ht;unfold tL at ht;rcases ht with rfl | rfl | rfl
   · rw[if_pos rfl,Int.mul_zero,if_pos (.inr rfl)]
   · rw[Int.mul_one,if_neg (show ¬(1:Int)=0 by decide)]
   · omega
end Lift
namespace Lift
open Go Go.Proofs
structure iz (m:Nat) (v:List NQ):Prop where
 l5:v.length≤5
 ro:db v
 sz:fA m v
 ps: ∀k,k<v.length→ ¬eG k (v.take k) (v.getD k [])<0
 m2:m≤1000000
 t: ∃m0,1≤m0∧m0≤m∧fA m0 v∧oF v.length m0
theorem iz.m1{m:Nat}{v:List NQ}(V:iz m v):1≤m:=by
 obtain ⟨m0,h1,h2,_⟩:=V.t;omega
theorem iz.mono{m k:Nat}{v:List NQ}(V:iz m v)(h:m≤k)(hk:k≤1000000):iz k v:=by
 obtain ⟨m0,h1,h2,h3,h4⟩:=V.t;exact⟨V.l5,V.ro,V.sz.mono h,V.ps,hk,m0,h1,by omega,h3,h4⟩
theorem iz.of{m:Nat}{rt:List (List RD)}(T:mr m rt)(h:cJ rt=0):iz m (rt.map aC):=by
 have W:=nA T h;exact⟨by rw[W.ln];exact W.l5,W.ro,W.sz,W.ps,T.m2,by rw[W.ln];exact W.t⟩
def gj(a:NQ):List RD:=a.map Qr
theorem fH(a:NQ):aC (gj a)=a:=by
 unfold aC gj;rw[List.map_map];have:(RD.val ∘ Qr)=id:=funext bH;rw[this,List.map_id]
theorem gY(a:NQ):a9 (gj a)=ae a:=by
 show D.sl 3 ((a.map Qr).map RD.D)=D.sl 3 (List.map _ a);rw[List.map_map];rfl
theorem jU(a:NQ):(gj a).length=a.length:=List.length_map ..
theorem uT{a:NQ}{k:Nat}(h:az k a):wN k (gj a):=fun i hi=>by
 rw[jU] at hi;unfold gj;rw[List.getD_eq_getElem?_getD,List.getElem?_map,List.getElem?_eq_getElem hi];have:=h i;rw[List.getD_eq_getElem?_getD,List.getElem?_eq_getElem hi] at this;exact eN _ this
theorem lz{a:NQ}{l:Nat}(h:ay l a):bz l (gj a)=0:=by
 unfold bz;rw[jU]
 have h1: ¬(a.length≠0∧yB l a.length=false):=fun hs=>by
  rcases h with e | ⟨i,hi,e⟩
  · exact hs.1 e
  · rw[e,vz,decide_eq_true hi] at hs;exact Bool.noConfusion hs.2
 have h2:jw (gj a)=true:=by
  unfold jw gj;rw[List.all_map,List.all_eq_true];exact fun q _=>xL q
 rw[if_neg h1,if_neg (by rw[h2];simp)]
def mi(v:List NQ):List (List RD):=v.map gj
theorem ea(v:List NQ):(mi v).length=v.length:=List.length_map ..
theorem nI(v:List NQ)(i:Nat):(mi v).getD i []=gj (v.getD i []):=by
 unfold mi;rw[List.getD_eq_getElem?_getD,List.getElem?_map,List.getD_eq_getElem?_getD];cases v[i]? with
 | none=>rfl
 | some x=>rfl
theorem wE(v:List NQ):(mi v).map aC=v:=by
 unfold mi;rw[List.map_map];have:(aC ∘ gj)=id:=funext fH;rw[this,List.map_id]
theorem mQ(v:List NQ):sW (mi v)=aL v:=by
 show D.ag [.sl 1 ((v.map gj).map a9)]=D.ag [.sl 1 (v.map ae)];rw[List.map_map];have:(a9 ∘ gj)=ae:=funext gY;rw[this]
theorem lT{f:Nat→Nat}: ∀{n i:Nat},(∀j,j<i+n→f j=0)→fE f n i=0
 | 0,i,h=>rfl
 | n+1,i,h=>by
   rw[fE,if_pos (h i (by omega))];exact lT (fun j hj=>h j (by omega))
theorem iz.raw{m:Nat}{v:List NQ}(V:iz m v):mr m (mi v)∧cJ (mi v)=0:=by
 have l5:=V.l5;have hp: ∀i,i<v.length→2^i≤2^5:=fun i hi=>Nat.pow_le_pow_right (by decide) (by omega);obtain ⟨m0,t1,t2,ts,tk⟩:=V.t
 refine⟨⟨⟨m0,t1,t2,fun i hi _=>by rw[nI];exact uT (ts i),fun _=>by rw[ea];exact tk⟩,V.m2,by rw[ea];omega,fun i hi=>by
  rw[ea] at hi;rw[nI,jU,V.ro i hi];have:=hp i hi
  omega⟩,?_⟩
 unfold cJ;rw[ea,if_neg (by omega)];refine lT fun j hj=>?_;have hj:j<v.length:=by omega
 unfold sV;rw[nI,jU,if_neg (fun h=>h (V.ro j hj)),if_neg (fun h=>h (lz (.inr ⟨j,Nat.le_refl _,V.ro j hj⟩))),fH,List.map_take,wE,if_neg (V.ps j hj)]
theorem gD{m:Nat}{v:List NQ}{a:NQ}(V:iz m v)(ha:ay v.length a)(sa:az m a):iA m (mi v) (gj a):=⟨fun _=>uT sa,by
 have l5:=V.l5;rw[jU]
 exact Nat.le_trans (ha.len (by omega)) (by decide)⟩
theorem ck1{m:Nat}{v:List NQ}{a:NQ}(V:iz m v)(ha:ay v.length a):iY (mi v) [gj a]=0:=by
 unfold iY;rw[if_neg (by rw[V.raw.2];simp)];refine lT fun j hj=>?_;have hj:j<0+1:=hj;obtain rfl:j=0:=by omega
 rw[ea];exact lz ha
theorem GO{m:Nat}{v:List NQ}{a b:NQ}(V:iz m v)(ha:ay v.length a)(hb:ay v.length b):iY (mi v) [gj a,gj b]=0:=by
 unfold iY;rw[if_neg (by rw[V.raw.2];simp)];refine lT fun j hj=>?_;have hj:j<0+2:=hj;rw[ea]
 match j,hj with
 | 0,_=>exact lz ha
 | 1,_=>exact lz hb
def aH(a:NQ):NQ:=aG (aY a)
def vU(a b:NQ):NQ:=aG (bh a b)
def fB(a b:NQ):NQ:=aG (bh a (aY b))
def fV(v:List NQ)(a b:NQ):NQ:=aG (bc v.length v a b)
theorem s4{m:Nat}{v:List NQ}{a b:NQ}(V:iz m v)(ha:ay v.length a)(sa:az m a)(hb:ay v.length b)(sb:az m b):Pure Tryz.prog 21 [aL v,ae a,ae b] (.tu [ae (vU a b),aq]):=by
 have h:=uI V.raw.1 (gD V ha sa) (gD V hb sb);unfold vb at h;rw[if_neg (by rw[GO V ha hb];simp),mQ,gY,gY,fH,fH] at h;exact h
theorem sY{m:Nat}{v:List NQ}{a b:NQ}(V:iz m v)(ha:ay v.length a)(sa:az m a)(hb:ay v.length b)(sb:az m b):Pure Tryz.prog 105 [aL v,ae a,ae b] (.tu [ae (fB a b),aq]):=by
 have h:=uF V.raw.1 (gD V ha sa) (gD V hb sb);unfold vb at h;rw[if_neg (by rw[GO V ha hb];simp),mQ,gY,gY,fH,fH] at h;exact h
theorem sZ{m:Nat}{v:List NQ}{a b:NQ}(hsT:sT v.length m≤17300000000000)(V:iz m v)(ha:ay v.length a)(sa:az m a)(hb:ay v.length b)(sb:az m b):Pure Tryz.prog 106 [aL v,ae a,ae b] (.tu [ae (fV v a b),aq]):=by
 have h:=uH (by rw[ea];exact hsT) V.raw.1 (gD V ha sa) (gD V hb sb);unfold vb at h;rw[if_neg (by rw[GO V ha hb];simp),mQ,gY,gY,fH,fH,ea,wE] at h;exact h
theorem DN{l k:Nat}{a:NQ}(ha:ay l a)(sa:az k a):ay l (aH a)∧az k (aH a):=bk ha.minus sa.minus
theorem oC{l k j:Nat}{a b:NQ}(ha:ay l a)(sa:az k a)(hb:ay l b)(sb:az j b):ay l (vU a b)∧az (k+j+1) (vU a b):=bk (ha.plus hb) (sa.plus sb)
theorem eZ{l k j:Nat}{a b:NQ}(ha:ay l a)(sa:az k a)(hb:ay l b)(sb:az j b):ay l (fB a b)∧az (k+j+1) (fB a b):=bk (ha.plus hb.minus) (sa.plus sb.minus)
theorem cG{m:Nat}{v:List NQ}{a b:NQ}(V:iz m v)(ha:ay v.length a)(sa:az m a)(hb:ay v.length b)(sb:az m b):ay v.length (fV v a b)∧az (sT v.length m) (fV v a b):=by
 have h:=cO v.length ha hb V.ro (Nat.le_refl _) sa sb V.sz;exact bk h.1 h.2
theorem kz(l:Nat){q:Rat}{k:Nat}(h:LQ q≤k):ay l (np q)∧az k (np q):=by
 unfold np;split
 · exact⟨bY _,dD (Nat.le_trans (zh _) h)⟩
 · exact⟨dA _ _,dZ h⟩
theorem iz.pos{m:Nat}{v:List NQ}(V:iz m v):Ag v:=fun j hj=>by
 have h:=V.ps j hj
 have e: ∀i,i<j→(v.take j).getD i []=v.getD i []:=fun i hi=>by
  rw[List.getD_eq_getElem?_getD,List.getElem?_take_of_lt hi,List.getD_eq_getElem?_getD]
 have ro:db (v.take j):=fun i hi=>by
  rw[List.length_take] at hi;rw[e i (by omega)];exact V.ro i (by omega)
 have lt:ay j (v.getD j []):= .inr ⟨j,Nat.le_refl _,V.ro j hj⟩;rw[kr j lt ro (by rw[List.length_take];omega)] at h
 have key: ∀(l:Nat) (a:Cf),l≤j→bD (v.take j) l a=bD v l a∧ ∀b:Cf,mulC (v.take j) l a b=mulC v l a b:=by
  intro l
  induction l with
  | zero=>exact fun a _=>⟨rfl,fun b=>rfl⟩
  | succ l ih =>
    intro a hl;have hm: ∀x y:Cf,mulC (v.take j) l x y=mulC v l x y:=fun x y=>(ih x (by omega)).2 y;have hs: ∀x:Cf,bD (v.take j) l x=bD v l x:=fun x=>(ih x (by omega)).1;refine⟨?_,fun b=>?_⟩
    · unfold bD ij;simp only[hm,hs,e l (by omega)]
    · funext i;show (if i<2^l then mulC (v.take j) l a b i+mulC (v.take j) l (mulC (v.take j) l (eK l a) (eK l b)) (cf ((v.take j).getD l [])) i else mulC (v.take j) l a (eK l b) (i-2^l)+mulC (v.take j) l (eK l a) b (i-2^l))=_;simp only[hm,e l (by omega)];rfl
 rw[(key j _ (Nat.le_refl _)).1] at h;omega
end Lift
namespace Lift
open Go
open Go.RowKit (Below)
section
variable {P:Program} {T:Ty} {B:Nat} {F0:Nat→Prop} {w0:bV} {n d:Nat} {o:Oper} {σ:St} {K:St→Prop} {all:Array Oper} {rest:List Oper} {lk hm:Nat→Option AV}
end
end Lift
namespace Lift
open Go
open Go.RowKit (Below)
section
variable {P:Program} {T:Ty} {B:Nat} {F0:Nat→Prop} {w0:bV} {n:Nat} {σ τ σ0:St} {ops all:Array Oper} {l rest:List Oper} {o:Oper} {d:Nat} {lk hm:Nat→Option AV} {K:St→Prop} {ds:List Nat}
end
end Lift
namespace Lift
open Go
open Go.RowKit (Below)
section
variable {P:Program} {T:Ty} {B:Nat} {F0:Nat→Prop} {w0:bV} {n:Nat} {σ:St} {all:Array Oper} {rest:List Oper} {o1 o2:Oper} {K:St→Prop}
theorem wq{w:World}{b:Nat}{cs:Array Value}{e:TypeId}(hb:w.heap[b]?=some (.cells cs e (0,0))):w.setRow b cs=w:=by
 have h1:=setRow_heap w b cs cs e (0,0) hb
 have hh:(w.setRow b cs).heap=w.heap:=by
  refine Array.ext_getElem? fun i=>?_;by_cases hi:i=b
  · subst hi;rw[h1,hb]
  · exact setRow_other w b i cs hi
 have:w.setRow b cs={w with heap:=(w.setRow b cs).heap}:=rfl;rw[this,hh]
theorem aa.EX(hT:bb P T){d1 d2 off size f s t:Nat}{x:Operand}{cs:List D}{c:Value}{i j:TI}{g:Bool}
  (h1d:o1.dst=some d1) (h1:o1.op= .fieldAddr s x f) (h1g:o1.guard=none) (hdn:Nat.ble (d1+1) n=true)
  (h2d:o2.dst=none) (h2:o2.op= .store t (.tmp d1) (.tmp d2)) (h2g:o2.guard=none) (hne:Nat.beq d2 d1=false)
  (hi:T.get s=some i) (hf:pw i f=some (off,size,g)) (hj:T.get t=some j) (hj1:j.size=1)
  (hx:ex T σ.get 0 x=some (.d (.pr cs))) (hc:cs[off]?=some (.v c)) (hyv:b5 T (ex T σ.get t (.tmp d2))=some (.v c))
  (h:aa P B F0 w0 n all rest K ((d1,.rf (cs.drop off))::σ)):aa P B F0 w0 n all (o1::o2::rest) K σ:=by
 intro a w hR Q hQ;obtain ⟨O,hOr,hO⟩:=hR.own;have hI:=hR.inv hOr hO (fun _=>True) d1;have hr:Rd w (aJ O (FW B F0 w)) (.pr cs) (a.eval x):=(aP hI (fun _ _=>trivial) hx d1).1;obtain ⟨b,arr,e,hv,hF,hb,hel⟩:=Rd.E7 hr;obtain ⟨_,u,hu,hru⟩:=hel off (.v c) hc;obtain rfl:=(Rd.iK hru).1;have hyd:=cU hT hI (fun _ _=>trivial) hyv;have hye:=(Rd.iK hyd).1;obtain ⟨info,dd,z,hok⟩:=hT s i hi;obtain ⟨info',dd',z',hok'⟩:=hT t j hj;obtain ⟨fs,fl,jj,dd2,g1,g2,g3,g4,g5,g6,g7,g8⟩:=kG hok hf;have hdn:=Nat.le_of_ble_eq_true hdn;have hne:d2≠d1:=fun e=>by subst e;rw[Nat.beq_refl] at hne;cases hne
 unfold wpList;rw[if_pos (by simp[Region.wanted,h1g])];refine .inl ?_;refine aU (v:= .pointer (some ⟨b,off,none⟩)) (w':=w) ?_ ?_
 · obtain ⟨dst,op,ty,pos,after,guard⟩:=o1;simp only[] at h1;subst h1;have hs:jj.size≠0:=by omega
   simp[execOp,Instr.fieldAt,run_underlying g1,g2,hv,Instr.sureAddr,fieldPlace,Go.sizeOf,typeInfo,g4,hs,g3,Addr.add_lit]
 · have hR':Rel P B F0 w0 n ((d1,.rf (cs.drop off))::σ) (a.put (some d1) (.pointer (some ⟨b,off,none⟩))) w :=
    hR.put (av:= .rf (cs.drop off)) hOr hO hdn (bZ.refl (fun b t hb=>(hOr b t hb).2)) ⟨b,off,arr,e,(0,0),rfl,hF,hb,fun k y hy=>by
      rw[List.getElem?_drop] at hy
      exact hel _ y hy⟩
   rw[h1d];unfold wpList;rw[if_pos (by simp[Region.wanted,h2g])];refine .inl ?_
   have e1:(a.put (some d1) (.pointer (some ⟨b,off,none⟩))).eval (.tmp d1)= .pointer (some ⟨b,off,none⟩):=by
    exact eW (dt (a:=a) (d:=d1) (v:= .pointer (some ⟨b,off,none⟩)) (by rw[hR.size];exact hdn))
   have e2:(a.put (some d1) (.pointer (some ⟨b,off,none⟩))).eval (.tmp d2)=u:=by
    have h3:=cF (a:=a) (d:=d1) (v:= .pointer (some ⟨b,off,none⟩)) hne;have h4:a.eval (.tmp d2)=(a.tmps[d2]?).getD undef:=by simp[Act.eval]
    have h5:(a.put (some d1) (.pointer (some ⟨b,off,none⟩))).eval (.tmp d2)=(((a.put (some d1) (.pointer (some ⟨b,off,none⟩))).tmps)[d2]?).getD undef:=by simp[Act.eval]
    rw[h5,h3,← h4];exact hye
   have hcl:u.cells= #[u]:=by
    have:=(Rd.iK hru).2;cases u<;>simp_all [Value.cells,cZ]
   have hrun:=kq hok' hb (v:=u) (off:=off) (by rw[hcl,hj1];rfl) (by rw[hcl];have:=(Array.getElem?_eq_some_iff.1 hu).1;show off+1≤_;omega) (fun y hy=>by
    rw[hcl] at hy;have hy:y=u:=by simpa using hy
    rw[hy];have:=(Rd.iK hru).2
    cases u<;>simp_all [cZ,Value.oneCell'])
   have hsame:(arr.toList.take off++u.cells.toList++arr.toList.drop (off+u.cells.size)).toArray=arr:=by
    rw[hcl];have hlt:=(Array.getElem?_eq_some_iff.1 hu).1;apply Array.ext';have hu2:arr.toList[off]?=some u:=by simpa using hu
    have:arr.toList=arr.toList.take off++(u::arr.toList.drop (off+1)):=by
     conv=>lhs;rw[← List.take_append_drop off arr.toList]
     congr 1
     rw[List.drop_eq_getElem_cons (by simpa using hlt)]
     congr 1
     exact(List.getElem?_eq_some_iff.1 hu2).2
    show arr.toList.take off++[u]++arr.toList.drop (off+1)=arr.toList;rw[List.append_assoc];exact this.symm
   rw[hsame,wq hb] at hrun;refine rb (w':=w) ?_ ?_
   · obtain ⟨dst,op,ty,pos,after,guard⟩:=o2;simp only[] at h2;subst h2;simp only[execOp,Instr.storeAt,Instr.sureAddr,Sem.run_bind,e1,e2,Sem.run_pure,Result.andThen_ok,hrun]
   · rw[h2d,rP];exact h _ _ hR' Q hQ
end
end Lift
namespace Lift
open Go Go.Proofs
theorem fr(i:Int)(n:Nat):Pure Tryz.prog 100 [dI i,dI n] (dB (gL i n)):=by
 refine qJ 12 Tryz.func100 rfl rfl rfl rfl (by kernel_rfl) (fun B F0 w0=>?_);refine qX 1 rfl ?_;refine qK 2 rfl ?_;refine aa.split (t:=6) rfl (fun h=>?_) (fun h=>?_)
 · have h1:=of_decide_eq_true h;refine qU 6 rfl ?_;refine aa.nil ?_;rw[show gL i n=decide (i<n) by unfold gL;rw[decide_eq_decide];omega];exact AW.ret rfl
 · have h1:=of_decide_eq_false h;refine qU 6 rfl ?_;refine aa.nil ?_;rw[show gL i n=false by unfold gL;rw[decide_eq_false_iff_not];omega];exact AW.ret rfl
set_option maxHeartbeats 1600000 in
theorem qg(bs:List Body){K:Nat}(hn:bs.length≤big)(hb: ∀i,(bs.getD i default).ok K)(hK:K≤50000000):Pure Tryz.prog 52 [ak bs] (ml (br bs)):=by
 refine qJ 85 Tryz.func52 rfl rfl rfl rfl (by kernel_rfl) (fun B F0 w0=>?_);unfold big at hn;refine qX 1 rfl ?_;refine qI ?_;refine qX 3 rfl ?_;rw[List.length_map];refine aa.nil ?_;refine AW.block ?_
 refine AW.aD [0,11,12,13] (fun i:Nat=>[(0,.d (ak bs)),(11,.d (ak bs)),(12,.d (dI bs.length)),(13,.d (dI i))])
  (fun i=>i≤bs.length∧br bs=fE (eI bs) (bs.length-i) i) (fun i=>bs.length-i) 0 rfl ⟨Nat.zero_le _,rfl⟩ (fun i ⟨hi,hE⟩=>?_)
 refine qX 1 rfl ?_;refine qI ?_;refine AW.cond rfl (fun h=>?_) (fun h=>?_)
 · have hin:i<bs.length:=by have:=of_decide_eq_true h;omega
   obtain ⟨bok1,bok2,bok3⟩:=hb i;have hbE:eI bs i≠0→br bs=eI bs i:=fun h0=>hE.trans (dw hin h0);have hbM:eI bs i=0→br bs=fE (eI bs) (bs.length-(i+1)) (i+1):=fun h0=>hE.trans (bX hin h0);obtain ⟨b,hbe⟩: ∃b,b=bs.getD i default:=⟨_,rfl⟩;rw[← hbe] at bok1 bok2 bok3;unfold big at bok1 bok2;have hdup:yZ bs i=dP (fun k=>decide ((bs.getD k default).nm=b.nm)) i 0:=by rw[hbe];rfl
   have hbd:eI bs i=if ch b.nm=false then 5 else if yZ bs i=true then 6 else oU b.pts:=by rw[hbe];rfl
   refine AW.skip (AW.seq (AW.block ?_));refine qX 1 rfl ?_;refine aa.idx tok b.D rfl rfl rfl rfl (Int.natCast_nonneg i) (by rw[hbe];exact getM Body.D hin) ?_;refine qU 4 rfl ?_;refine qI ?_;refine qX 2 rfl ?_;refine aa.call tok rfl rfl rfl rfl (eQ b.nm bok1) ?_;refine qU 1 rfl ?_;refine aa.nil ?_;refine AW.cond rfl (fun h=>?_) (fun h=>?_)
   · have hnm:ch b.nm=false:=by simpa using h
     have h5:eI bs i=5:=by rw[hbd,hnm];rfl
     rw[show br bs=5 by rw[hbE (by omega),h5]];refine qX 2 rfl ?_;exact qN rfl
   · have hnm:ch b.nm=true:=by simpa using h
     rw[hnm,if_neg (by decide)] at hbd;refine AW.skip (AW.seq ?_);refine qX 2 rfl ?_;refine aa.zu tok rfl rfl rfl rfl trivial (Int.natCast_nonneg i) (Nat.zero_le _) (by show i≤_;rw[List.length_map];omega) ?_;refine qU 2 rfl ?_;rw[rv (by rw[List.length_map];omega)];refine aa.nil ?_;refine AW.block ?_
     refine AW.aD [0,3,4,11,12,13,25,26,27] (fun k:Nat=>[(0,.d (ak bs)),(3,.d (dI i)),(4,.bx [dS b.nm,ni b.pts]),(11,.d (ak bs)),(12,.d (dI bs.length)),(13,.d (dI i)),(25,.d (.sl 2 ((bs.map Body.D).take i))),(26,.d (dI i)),(27,.d (dI k))])
      (fun k=>k≤i∧yZ bs i=dP (fun k=>decide ((bs.getD k default).nm=b.nm)) (i-k) k) (fun k=>i-k) 0 rfl ⟨Nat.zero_le _,hdup⟩ (fun k ⟨hk,hD⟩=>?_)
     refine qX 1 rfl ?_;refine qI ?_;refine AW.cond rfl (fun h=>?_) (fun h=>?_)
     · have hki:k<i:=by have:=of_decide_eq_true h;omega
       refine AW.skip (AW.seq (AW.block (AW.seq (AW.region ?_))));refine aa.idx tok (bs.getD k default).D rfl rfl rfl rfl (Int.natCast_nonneg k) (Co Body.D (by omega) hki) ?_;refine qU 3 rfl ?_;refine qK 5 rfl ?_;rw[kp];refine aa.nil ?_;refine AW.cond rfl (fun h=>?_) (fun h=>?_)
       · have h6:eI bs i=6:=by rw[hbd,hD.trans (en hki h)];rfl
         rw[show br bs=6 by rw[hbE (by omega),h6]];refine qX 2 rfl ?_;exact qN rfl
       · refine AW.skip ?_;refine qT 2 rfl ?_;rw[au (x:=(k:Int)+1) (by omega) (by omega)];refine aa.nil ?_;exact⟨k+1,rfl,⟨hki,hD.trans (dk hki h)⟩,by omega⟩
     · have hki: ¬k<i:=by have:=of_decide_eq_false h;omega
       rw[hD.trans (ep hki),if_neg (by decide)] at hbd;refine AW.exit (AW.seq ?_);refine qX 4 rfl ?_;rw[List.length_map];refine aa.nil ?_;refine AW.cond rfl (fun h=>?_) (fun h=>?_)
       · have h8:8<b.pts.length:=by have:=of_decide_eq_true h;omega
         have h4:eI bs i=4:=by rw[hbd,oU,if_pos h8]
         rw[show br bs=4 by rw[hbE (by omega),h4]];refine qX 2 rfl ?_;exact qN rfl
       · have h8: ¬8<b.pts.length:=by have:=of_decide_eq_false h;omega
         rw[oU,if_neg h8] at hbd;refine AW.skip ?_;refine qX 4 rfl ?_;rw[List.length_map];refine aa.nil ?_;refine AW.block ?_
         refine AW.aD [0,4,11,12,13,44,45,46] (fun p:Nat=>[(0,.d (ak bs)),(4,.bx [dS b.nm,ni b.pts]),(11,.d (ak bs)),(12,.d (dI bs.length)),(13,.d (dI i)),(44,.d (ni b.pts)),(45,.d (dI b.pts.length)),(46,.d (dI p))])
          (fun p=>p≤b.pts.length∧eI bs i=fE (qz b.pts) (b.pts.length-p) p) (fun p=>b.pts.length-p) 0 rfl ⟨Nat.zero_le _,hbd⟩ (fun p ⟨hp,hP⟩=>?_)
         refine qX 1 rfl ?_;refine qI ?_;refine AW.cond rfl (fun h=>?_) (fun h=>?_)
         · have hpn:p<b.pts.length:=by have:=of_decide_eq_true h;omega
           obtain ⟨mok1,mok2,mok3⟩:=bok3 p
           have hpE:qz b.pts p≠0→br bs=qz b.pts p:=fun h0=>by
            have:=hP.trans (dw hpn h0);rw[hbE (by omega),this]
           have hpM:qz b.pts p=0→eI bs i=fE (qz b.pts) (b.pts.length-(p+1)) (p+1):=fun h0=>hP.trans (bX hpn h0);obtain ⟨m,hm⟩: ∃m,m=b.pts.getD p default:=⟨_,rfl⟩;rw[← hm] at mok1 mok2 mok3;unfold big at mok1;have hdup2:yW b.pts p=dP (fun k=>decide ((b.pts.getD k default).nm=m.nm)) p 0:=by rw[hm];rfl
           have hpd:qz b.pts p=if ch m.nm=false then 5 else if yW b.pts p=true then 6 else if m.x.okB=true∧m.y.okB=true then 0 else 3:=by rw[hm];rfl
           refine AW.skip (AW.seq (AW.block ?_));refine qX 1 rfl ?_;refine aa.idx tok m.D rfl rfl rfl rfl (Int.natCast_nonneg p) (by rw[hm];exact getM Mark.D hpn) ?_;refine qU 4 rfl ?_;refine qI ?_;refine qX 2 rfl ?_;refine aa.call tok rfl rfl rfl rfl (eQ m.nm mok1) ?_;refine qU 1 rfl ?_;refine aa.nil ?_;refine AW.cond rfl (fun h=>?_) (fun h=>?_)
           · have hnm2:ch m.nm=false:=by simpa using h
             have h5:qz b.pts p=5:=by rw[hpd,hnm2];rfl
             rw[show br bs=5 by rw[hpE (by omega),h5]];refine qX 2 rfl ?_;exact qN rfl
           · have hnm2:ch m.nm=true:=by simpa using h
             rw[hnm2,if_neg (by decide)] at hpd;refine AW.skip (AW.seq ?_);refine qX 3 rfl ?_;refine aa.zu tok rfl rfl rfl rfl trivial (Int.natCast_nonneg p) (Nat.zero_le _) (by show p≤_;rw[List.length_map];omega) ?_;refine qU 2 rfl ?_;rw[rv (by rw[List.length_map];omega)];refine aa.nil ?_;refine AW.block ?_
             refine AW.aD [0,4,8,11,12,13,44,45,46,59,60,61] (fun k:Nat=>[(0,.d (ak bs)),(4,.bx [dS b.nm,ni b.pts]),(8,.bx [dS m.nm,dB m.x.g,Wd m.x.n,Wd m.x.d,dB m.y.g,Wd m.y.n,Wd m.y.d]),(11,.d (ak bs)),(12,.d (dI bs.length)),(13,.d (dI i)),(44,.d (ni b.pts)),(45,.d (dI b.pts.length)),(46,.d (dI p)),(59,.d (.sl 7 ((b.pts.map Mark.D).take p))),(60,.d (dI p)),(61,.d (dI k))])
              (fun k=>k≤p∧yW b.pts p=dP (fun k=>decide ((b.pts.getD k default).nm=m.nm)) (p-k) k) (fun k=>p-k) 0 rfl ⟨Nat.zero_le _,hdup2⟩ (fun k ⟨hk,hD2⟩=>?_)
             refine qX 1 rfl ?_;refine qI ?_;refine AW.cond rfl (fun h=>?_) (fun h=>?_)
             · have hkp:k<p:=by have:=of_decide_eq_true h;omega
               refine AW.skip (AW.seq (AW.block (AW.seq (AW.region ?_))));refine aa.idx tok (b.pts.getD k default).D rfl rfl rfl rfl (Int.natCast_nonneg k) (Co Mark.D (by omega) hkp) ?_;refine qU 3 rfl ?_;refine qK 5 rfl ?_;rw[kp];refine aa.nil ?_;refine AW.cond rfl (fun h=>?_) (fun h=>?_)
               · have h6:qz b.pts p=6:=by rw[hpd,hD2.trans (en hkp h)];rfl
                 rw[show br bs=6 by rw[hpE (by omega),h6]];refine qX 2 rfl ?_;exact qN rfl
               · refine AW.skip ?_;refine qT 2 rfl ?_;rw[au (x:=(k:Int)+1) (by omega) (by omega)];refine aa.nil ?_;exact⟨k+1,rfl,⟨hkp,hD2.trans (dk hkp h)⟩,by omega⟩
             · have hkp: ¬k<p:=by have:=of_decide_eq_false h;omega
               rw[hD2.trans (ep hkp),if_neg (by decide)] at hpd;refine AW.exit ?_;refine AW.cut [0,4,11,12,13,44,45,46,81] (fun _:Unit=>[(0,.d (ak bs)),(4,.bx [dS b.nm,ni b.pts]),(11,.d (ak bs)),(12,.d (dI bs.length)),(13,.d (dI i)),(44,.d (ni b.pts)),(45,.d (dI b.pts.length)),(46,.d (dI p)),(81,.d (dB (!decide (m.x.okB=true∧m.y.okB=true))))]) (fun _=>True) ?_ (fun _ _=>?_)
               · refine qT 2 rfl ?_;refine aa.call tok rfl rfl rfl rfl (dR m.x mok2 (by omega)) ?_;refine aa.split (t:=74) rfl (fun h=>?_) (fun h=>?_)
                 · refine qU 4 rfl ?_;refine aa.call tok rfl rfl rfl rfl (dR m.y mok3 (by omega)) ?_;refine qU 2 rfl ?_;refine aa.nil ?_;exact⟨(),by rw[show decide (m.x.okB=true∧m.y.okB=true)=m.y.okB by simp[h]];rfl,trivial⟩
                 · refine qU 7 rfl ?_;refine aa.nil ?_;exact⟨(),by rw[show decide (m.x.okB=true∧m.y.okB=true)=false by simp[h]];rfl,trivial⟩
               refine AW.cond rfl (fun h=>?_) (fun h=>?_)
               · have hno: ¬(m.x.okB=true∧m.y.okB=true):=fun e=>by rw[decide_eq_true e] at h;cases h
                 have h3:qz b.pts p=3:=by rw[hpd,if_neg hno]
                 rw[show br bs=3 by rw[hpE (by omega),h3]];refine qX 2 rfl ?_;exact qN rfl
               · have hyes:m.x.okB=true∧m.y.okB=true:=by simpa using h
                 rw[if_pos hyes] at hpd;refine AW.skip ?_;refine qT 2 rfl ?_;rw[au (x:=(p:Int)+1) (by omega) (by omega)];refine aa.nil ?_;exact⟨p+1,rfl,⟨hpn,hpM hpd⟩,by omega⟩
         · have hpn: ¬p<b.pts.length:=by have:=of_decide_eq_false h;omega
           have h0:eI bs i=0:=hP.trans (dy hpn);refine AW.exit ?_;refine qT 2 rfl ?_;rw[au (x:=(i:Int)+1) (by omega) (by omega)];refine aa.nil ?_;exact⟨i+1,rfl,⟨hin,hbM h0⟩,by omega⟩
 · have hin: ¬i<bs.length:=by have:=of_decide_eq_false h;omega
   rw[hE,dy hin];refine AW.exit ?_;refine qX 1 rfl ?_;exact qN rfl
end Lift
namespace Lift
open Go Go.Proofs
theorem me(a b:Rat):(vO a b==0)=decide (a=b):=by
 unfold vO;by_cases h:a<b
 · rw[if_pos h];have hne:a≠b:=fun e=>by rw[e] at h;exact absurd h Rat.lt_irrefl
   rw[decide_eq_false hne];rfl
 · rw[if_neg h];by_cases he:a=b
   · rw[if_pos he,decide_eq_true he];rfl
   · rw[if_neg he,decide_eq_false he];rfl
theorem iS{b:Bool}(h:(!b)=true):b=false:=by cases b<;>simp_all
theorem pV{i:Int}{n:Nat}(h:gL i n=true):0≤i∧i.toNat<n:=by
 have:=of_decide_eq_true h;omega
set_option maxHeartbeats 1600000 in
theorem rZ(l:Lkg)(j:bp){K:Nat}(hl:l.ok K)(hK:K≤20000000):Pure Tryz.prog 99 [l.D,j.D] (ml (jE l.bodies j)):=by
 refine qJ 107 Tryz.func99 rfl rfl rfl rfl (by kernel_rfl) (fun B F0 w0=>?_);obtain ⟨ln,bs,js,ds⟩:=l;have hb:=hl.b;simp only[] at hb ⊢;obtain ⟨nm,kind,a,pt,b,on,to⟩:=j
 have hj:jE bs ⟨nm,kind,a,pt,b,on,to⟩=if kind≠0∧kind≠1 then 7 else if (gL a bs.length&&gL b bs.length)=false then 9 else if a=b then 13 else
  if (gL pt (bs.getD a.toNat default).pts.length&&gL on (bs.getD b.toNat default).pts.length)=false then 9 else
  if kind=0 then (if to=0 then 0 else 2) else if gL to (bs.getD b.toNat default).pts.length=false then 9 else
  if jQ ((bs.getD b.toNat default).pts.getD on.toNat default) ((bs.getD b.toNat default).pts.getD to.toNat default)=true then 8 else 0:=rfl
 generalize jE bs ⟨nm,kind,a,pt,b,on,to⟩=E at *;refine qX 3 rfl ?_;refine qI ?_;refine AW.cut [2,3,15] (fun _:Unit=>[(2,.bx [dS ln,ak bs,aj js,ai ds]),(3,.bx [dS nm,dI kind,dI a,dI pt,dI b,dI on,dI to]),(15,.d (dB (decide (kind≠0∧kind≠1))))]) (fun _=>True) ?_ (fun _ _=>?_)
 · refine qT 3 rfl ?_;refine aa.split (t:=10) rfl (fun h=>?_) (fun h=>?_)
   · have h1:kind≠0:=by simpa using h
     refine qU 5 rfl ?_;refine aa.nil ?_;exact⟨(),by rw[show decide (kind≠0∧kind≠1)=(kind != 1) by rw[Bool.eq_iff_iff];simp[h1]];rfl,trivial⟩
   · have h1:kind=0:=by simpa using h
     refine qU 5 rfl ?_;refine aa.nil ?_;exact⟨(),by rw[show decide (kind≠0∧kind≠1)=false by simp[h1]];rfl,trivial⟩
 refine AW.cond rfl (fun h=>?_) (fun h=>?_)
 · rw[if_pos (of_decide_eq_true h)] at hj;rw[hj];refine qX 2 rfl ?_;exact qN rfl
 rw[if_neg (of_decide_eq_false h)] at hj;refine AW.skip (AW.seq ?_);refine AW.cut [2,3,32] (fun _:Unit=>[(2,.bx [dS ln,ak bs,aj js,ai ds]),(3,.bx [dS nm,dI kind,dI a,dI pt,dI b,dI on,dI to]),(32,.d (dB (!(gL a bs.length&&gL b bs.length))))]) (fun _=>True) ?_ (fun _ _=>?_)
 · refine qT 5 rfl ?_;rw[List.length_map];refine aa.call tok rfl rfl rfl rfl (fr a bs.length) ?_;refine aa.split (t:=22) rfl (fun h=>?_) (fun h=>?_)
   · refine qU 7 rfl ?_;rw[List.length_map];refine aa.call tok rfl rfl rfl rfl (fr b bs.length) ?_;refine qU 2 rfl ?_;refine aa.nil ?_;exact⟨(),by rw[h];rfl,trivial⟩
   · refine qU 10 rfl ?_;refine aa.nil ?_;exact⟨(),by rw[h];rfl,trivial⟩
 refine AW.cond rfl (fun h=>?_) (fun h=>?_)
 · rw[if_pos (iS h)] at hj;rw[hj];refine qX 2 rfl ?_;exact qN rfl
 have hab:gL a bs.length=true∧gL b bs.length=true:=by simpa using h
 rw[if_neg (by simp[hab])] at hj;obtain ⟨ha0,ha1⟩:=pV hab.1;obtain ⟨hb0,hb1⟩:=pV hab.2;obtain ⟨Bb,hBb⟩: ∃x,x=bs.getD b.toNat default:=⟨_,rfl⟩;obtain ⟨Ba,hBa⟩: ∃x,x=bs.getD a.toNat default:=⟨_,rfl⟩;have okb:=hb b.toNat;rw[← hBb] at hj okb;rw[← hBa] at hj;refine AW.skip (AW.seq ?_);refine qX 5 rfl ?_;refine aa.nil ?_;refine AW.cond rfl (fun h=>?_) (fun h=>?_)
 · rw[if_pos (by simpa using h)] at hj;rw[hj];refine qX 2 rfl ?_;exact qN rfl
 rw[if_neg (by simpa using h)] at hj;refine AW.skip ?_;refine qX 4 rfl ?_;refine aa.idx tok Bb.D rfl rfl rfl rfl hb0 (by rw[hBb];exact getM Body.D hb1) ?_;refine qU 3 rfl ?_;refine qI ?_;refine AW.cut [2,3,5,66] (fun _:Unit=>[(2,.bx [dS ln,ak bs,aj js,ai ds]),(3,.bx [dS nm,dI kind,dI a,dI pt,dI b,dI on,dI to]),(5,.d (ni Bb.pts)),(66,.d (dB (!(gL pt Ba.pts.length&&gL on Bb.pts.length))))]) (fun _=>True) ?_ (fun _ _=>?_)
 · have c1:=fr pt Ba.pts.length;cases hq:gL pt Ba.pts.length with
   | true =>
     rw[hq] at c1;refine AW.draw aI 20 (by kernel_rfl) ?_;refine qP 6 rfl ?_;refine af.idx tok Ba.D rfl rfl rfl rfl rfl ha0 (by rw[hBa];exact getM Body.D ha1) ?_;refine qP 3 rfl ?_;rw[List.length_map];refine af.call tok rfl rfl rfl rfl rfl c1 ?_;refine qP 6 rfl ?_;rw[List.length_map];refine af.call tok rfl rfl rfl rfl rfl (fr on Bb.pts.length) ?_;refine qP 2 rfl ?_;refine af.nil ?_;refine aa.nil ?_;exact⟨(),rfl,trivial⟩
   | false =>
     rw[hq] at c1;refine AW.draw aI 20 (by kernel_rfl) ?_;refine qP 6 rfl ?_;refine af.idx tok Ba.D rfl rfl rfl rfl rfl ha0 (by rw[hBa];exact getM Body.D ha1) ?_;refine qP 3 rfl ?_;rw[List.length_map];refine af.call tok rfl rfl rfl rfl rfl c1 ?_;refine qP 9 rfl ?_;refine af.nil ?_;refine aa.nil ?_;exact⟨(),rfl,trivial⟩
 refine AW.cond rfl (fun h=>?_) (fun h=>?_)
 · rw[if_pos (iS h)] at hj;rw[hj];refine qX 2 rfl ?_;exact qN rfl
 have hpo:gL pt Ba.pts.length=true∧gL on Bb.pts.length=true:=by simpa using h
 rw[if_neg (by simp[hpo])] at hj;obtain ⟨ho0,ho1⟩:=pV hpo.2;refine AW.skip (AW.seq ?_);refine qX 3 rfl ?_;refine aa.nil ?_;refine AW.cond rfl (fun h=>?_) (fun h=>?_)
 · rw[if_pos (by simpa using h)] at hj;refine AW.seq ?_;refine qX 3 rfl ?_;refine aa.nil ?_;refine AW.cond rfl (fun h=>?_) (fun h=>?_)
   · rw[if_neg (by simpa using h)] at hj;rw[hj];refine qX 2 rfl ?_;exact qN rfl
   · rw[if_pos (by simpa using h)] at hj;rw[hj];refine AW.skip ?_;refine qX 1 rfl ?_;exact qN rfl
 rw[if_neg (by simpa using h)] at hj;refine AW.skip (AW.seq ?_);refine qX 4 rfl ?_;rw[List.length_map];refine aa.call tok rfl rfl rfl rfl (fr to Bb.pts.length) ?_;refine qU 1 rfl ?_;refine aa.nil ?_;refine AW.cond rfl (fun h=>?_) (fun h=>?_)
 · rw[if_pos (by simpa using h)] at hj;rw[hj];refine qX 2 rfl ?_;exact qN rfl
 have hto:gL to Bb.pts.length=true:=by simpa using h
 rw[if_neg (by simp[hto])] at hj;obtain ⟨ht0,ht1⟩:=pV hto;obtain ⟨p,hp⟩: ∃x,x=Bb.pts.getD on.toNat default:=⟨_,rfl⟩;obtain ⟨q,hq⟩: ∃x,x=Bb.pts.getD to.toNat default:=⟨_,rfl⟩;have okp:=okb.2.2 on.toNat;have okq:=okb.2.2 to.toNat;rw[← hp] at hj okp;rw[← hq] at hj okq;refine AW.skip (AW.seq ?_);refine AW.lV tok aI [(5,true),(5,false),(2,true)] 12 [6,7] (by kernel_rfl) ⟨rfl,?_⟩;refine qP 3 rfl ?_;refine af.idx tok p.D rfl rfl rfl rfl rfl ho0 (by rw[hp];exact getM Mark.D ho1) ?_;refine qP 1 rfl ?_;refine af.nil ⟨rfl,?_⟩;refine qP 3 rfl ?_;refine af.idx tok q.D rfl rfl rfl rfl rfl ht0 (by rw[hq];exact getM Mark.D ht1) ?_;refine qP 1 rfl ?_;refine af.nil ⟨rfl,?_⟩;refine qP 2 rfl ?_;refine af.nil ⟨_,k5.cons (.bx rfl) (k5.cons (.bx rfl) (k5.nil)),?_⟩;refine qI ?_;refine AW.cut [105] (fun _:Unit=>[(105,.d (dB (jQ p q)))]) (fun _=>True) ?_ (fun _ _=>?_)
 · refine qT 4 rfl ?_;refine aa.call tok rfl rfl rfl rfl (kV p.x q.x okp.2.1 okq.2.1 (by omega)) ?_;refine qU 1 rfl ?_;rw[me];refine aa.split (t:=97) rfl (fun h=>?_) (fun h=>?_)
   · have h1:=of_decide_eq_true h;refine qU 5 rfl ?_;refine aa.call tok rfl rfl rfl rfl (kV p.y q.y okp.2.2 okq.2.2 (by omega)) ?_;refine qU 2 rfl ?_;rw[me];refine aa.nil ?_;exact⟨(),by rw[show jQ p q=decide (p.y.val=q.y.val) by unfold jQ;simp[h1]];rfl,trivial⟩
   · have h1:=of_decide_eq_false h;refine qU 8 rfl ?_;refine aa.nil ?_;exact⟨(),by rw[show jQ p q=false by unfold jQ;simp[h1]];rfl,trivial⟩
 refine AW.cond rfl (fun h=>?_) (fun h=>?_)
 · rw[if_pos h] at hj;rw[hj];refine qX 2 rfl ?_;exact qN rfl
 · rw[if_neg (by rw[h];decide)] at hj;rw[hj];refine AW.skip ?_;refine qX 1 rfl ?_;exact qN rfl
end Lift
namespace Lift
open Go Go.Proofs
set_option maxHeartbeats 1600000 in
theorem qf(l:Lkg){K:Nat}(hl:l.ok K)(hK:K≤20000000):Pure Tryz.prog 53 [l.D] (ml (cQ l.bodies l.joints)):=by
 refine qJ 49 Tryz.func53 rfl rfl rfl rfl (by kernel_rfl) (fun B F0 w0=>?_);have hjoint:=fun j=>rZ l j hl hK;obtain ⟨ln,bs,js,ds⟩:=l;have hj:=hl.j;have hn:=hl.nj;simp only[] at hj hn hjoint ⊢;show AW _ _ _ _ _ _ _ (df 0 [D.ag [dS ln,ak bs,aj js,ai ds]]);unfold big at hn;refine qX 2 rfl ?_;refine qI ?_;refine qX 4 rfl ?_;rw[List.length_map];refine aa.nil ?_;refine AW.cond rfl (fun h=>?_) (fun h=>?_)
 · have h16:16<js.length:=by have:=of_decide_eq_true h;omega
   rw[cQ,if_pos h16];refine qX 2 rfl ?_;exact qN rfl
 have h16: ¬16<js.length:=by have:=of_decide_eq_false h;omega
 rw[cQ,if_neg h16];refine AW.skip (AW.seq ?_);refine qX 4 rfl ?_;rw[List.length_map];refine aa.nil ?_;refine AW.block ?_
 refine AW.aD [1,14,15,16] (fun i:Nat=>[(1,.bx [dS ln,ak bs,aj js,ai ds]),(14,.d (aj js)),(15,.d (dI js.length)),(16,.d (dI i))])
  (fun i=>i≤js.length∧fE (du bs js) js.length 0=fE (du bs js) (js.length-i) i) (fun i=>js.length-i) 0 rfl ⟨Nat.zero_le _,rfl⟩ (fun i ⟨hi,hE⟩=>?_)
 refine qX 1 rfl ?_;refine qI ?_;refine AW.cond rfl (fun h=>?_) (fun h=>?_)
 · have hin:i<js.length:=by have:=of_decide_eq_true h;omega
   have jok:=hj i;have hbE:du bs js i≠0→fE (du bs js) js.length 0=du bs js i:=fun h0=>hE.trans (dw hin h0);have hbM:du bs js i=0→fE (du bs js) js.length 0=fE (du bs js) (js.length-(i+1)) (i+1):=fun h0=>hE.trans (bX hin h0);generalize fE (du bs js) js.length 0=E at *;obtain ⟨j,hje⟩: ∃j,j=js.getD i default:=⟨_,rfl⟩;rw[← hje] at jok;unfold big at jok;have hdup:yX js i=dP (fun k=>decide ((js.getD k default).nm=j.nm)) i 0:=by rw[hje];rfl
   have hbd:du bs js i=if ch j.nm=false then 5 else if yX js i=true then 6 else jE bs j:=by rw[hje];rfl
   refine AW.skip (AW.seq (AW.block ?_));refine qX 1 rfl ?_;refine aa.idx tok j.D rfl rfl rfl rfl (Int.natCast_nonneg i) (by rw[hje];exact getM bp.D hin) ?_;refine qU 4 rfl ?_;refine qI ?_;refine qX 2 rfl ?_;refine aa.call tok rfl rfl rfl rfl (eQ j.nm jok) ?_;refine qU 1 rfl ?_;refine aa.nil ?_;refine AW.cond rfl (fun h=>?_) (fun h=>?_)
   · have hnm:ch j.nm=false:=iS h;have h5:du bs js i=5:=by rw[hbd,hnm];rfl
     rw[show E=5 by rw[hbE (by omega),h5]];refine qX 2 rfl ?_;exact qN rfl
   have hnm:ch j.nm=true:=by simpa using h
   rw[hnm,if_neg (by decide)] at hbd;refine AW.skip (AW.seq ?_);refine qX 3 rfl ?_;refine aa.zu tok rfl rfl rfl rfl trivial (Int.natCast_nonneg i) (Nat.zero_le _) (by show i≤_;rw[List.length_map];omega) ?_;refine qU 2 rfl ?_;rw[rv (by rw[List.length_map];omega)];refine aa.nil ?_;refine AW.block ?_
   refine AW.aD [1,4,14,15,16,29,30,31] (fun k:Nat=>[(1,.bx [dS ln,ak bs,aj js,ai ds]),(4,.bx [dS j.nm,dI j.kind,dI j.a,dI j.pt,dI j.b,dI j.on,dI j.to]),(14,.d (aj js)),(15,.d (dI js.length)),(16,.d (dI i)),(29,.d (.sl 7 ((js.map bp.D).take i))),(30,.d (dI i)),(31,.d (dI k))])
    (fun k=>k≤i∧yX js i=dP (fun k=>decide ((js.getD k default).nm=j.nm)) (i-k) k) (fun k=>i-k) 0 rfl ⟨Nat.zero_le _,hdup⟩ (fun k ⟨hk,hD⟩=>?_)
   refine qX 1 rfl ?_;refine qI ?_;refine AW.cond rfl (fun h=>?_) (fun h=>?_)
   · have hki:k<i:=by have:=of_decide_eq_true h;omega
     refine AW.skip (AW.seq (AW.block (AW.seq (AW.region ?_))));refine aa.idx tok (js.getD k default).D rfl rfl rfl rfl (Int.natCast_nonneg k) (Co bp.D (by omega) hki) ?_;refine qU 3 rfl ?_;refine qK 5 rfl ?_;rw[kp];refine aa.nil ?_;refine AW.cond rfl (fun h=>?_) (fun h=>?_)
     · have h6:du bs js i=6:=by rw[hbd,hD.trans (en hki h)];rfl
       rw[show E=6 by rw[hbE (by omega),h6]];refine qX 2 rfl ?_;exact qN rfl
     · refine AW.skip ?_;refine qT 2 rfl ?_;rw[au (x:=(k:Int)+1) (by omega) (by omega)];refine aa.nil ?_;exact⟨k+1,rfl,⟨hki,hD.trans (dk hki h)⟩,by omega⟩
   · have hki: ¬k<i:=by have:=of_decide_eq_false h;omega
     rw[hD.trans (ep hki),if_neg (by decide)] at hbd;refine AW.exit ?_;have c:=hjoint j;cases he:jE bs j with
     | zero =>
       rw[he] at hbd c;refine qX 2 rfl ?_;refine aa.call tok rfl rfl rfl rfl c ?_;refine qU 1 rfl ?_;refine qK 1 rfl ?_;refine aa.err tok rfl rfl rfl rfl rfl ?_;refine aa.nil ?_;refine AW.ar rfl ?_;refine AW.skip ?_;refine qT 2 rfl ?_;rw[au (x:=(i:Int)+1) (by omega) (by omega)];refine aa.nil ?_;exact⟨i+1,rfl,⟨hin,hbM hbd⟩,by omega⟩
     | succ m =>
       rw[he] at hbd c;rw[show E=m+1 by rw[hbE (by omega),hbd]];refine qX 2 rfl ?_;refine aa.call tok rfl rfl rfl rfl c ?_;refine qU 1 rfl ?_;refine qK 1 rfl ?_;refine aa.err tok rfl rfl rfl rfl rfl ?_;refine aa.nil ?_;refine AW.aB rfl ?_;refine qX 2 rfl ?_;exact qN rfl
 · have hin: ¬i<js.length:=by have:=of_decide_eq_false h;omega
   rw[hE,dy hin];refine AW.exit ?_;refine qX 1 rfl ?_;exact qN rfl
set_option maxHeartbeats 1600000 in
theorem o7(l:Lkg){K:Nat}(hl:l.ok K):Pure Tryz.prog 54 [l.D] (ml (gS l.bodies.length l.drivers)):=by
 refine qJ 72 Tryz.func54 rfl rfl rfl rfl (by kernel_rfl) (fun B F0 w0=>?_);obtain ⟨ln,bs,js,ds⟩:=l;have hd:=hl.d;have hn:=hl.nd;simp only[] at hd hn ⊢;show AW _ _ _ _ _ _ _ (df 0 [D.ag [dS ln,ak bs,aj js,ai ds]]);unfold big at hn;refine qX 2 rfl ?_;refine qI ?_;refine qX 4 rfl ?_;rw[List.length_map];refine aa.nil ?_;refine AW.cond rfl (fun h=>?_) (fun h=>?_)
 · have h2:2<ds.length:=by have:=of_decide_eq_true h;omega
   rw[gS,if_pos h2];refine qX 2 rfl ?_;exact qN rfl
 have h2: ¬2<ds.length:=by have:=of_decide_eq_false h;omega
 rw[gS,if_neg h2];refine AW.skip (AW.seq ?_);refine qX 4 rfl ?_;rw[List.length_map];refine aa.nil ?_;refine AW.block ?_
 refine AW.aD [1,15,16,17] (fun i:Nat=>[(1,.bx [dS ln,ak bs,aj js,ai ds]),(15,.d (ai ds)),(16,.d (dI ds.length)),(17,.d (dI i))])
  (fun i=>i≤ds.length∧fE (cS bs.length ds) ds.length 0=fE (cS bs.length ds) (ds.length-i) i) (fun i=>ds.length-i) 0 rfl ⟨Nat.zero_le _,rfl⟩ (fun i ⟨hi,hE⟩=>?_)
 refine qX 1 rfl ?_;refine qI ?_;refine AW.cond rfl (fun h=>?_) (fun h=>?_)
 · have hin:i<ds.length:=by have:=of_decide_eq_true h;omega
   have dok:=hd i;have hbE:cS bs.length ds i≠0→fE (cS bs.length ds) ds.length 0=cS bs.length ds i:=fun h0=>hE.trans (dw hin h0);have hbM:cS bs.length ds i=0→fE (cS bs.length ds) ds.length 0=fE (cS bs.length ds) (ds.length-(i+1)) (i+1):=fun h0=>hE.trans (bX hin h0);generalize fE (cS bs.length ds) ds.length 0=E at *;obtain ⟨d,hde⟩: ∃d,d=ds.getD i default:=⟨_,rfl⟩;rw[← hde] at dok;unfold big at dok;have hdup:yY ds i=dP (fun k=>decide ((ds.getD k default).nm=d.nm)) i 0:=by rw[hde];rfl
   have hdup2:yV ds i=dP (fun k=>decide ((ds.getD k default).body=d.body)) i 0:=by rw[hde];rfl
   have hbd:cS bs.length ds i=if ch d.nm=false then 5 else if yY ds i=true then 6 else if gL d.body bs.length=false then 9 else if d.body=0 then 7 else if yV ds i=true then 6 else 0:=by rw[hde];rfl
   refine AW.skip (AW.seq (AW.block ?_));refine qX 1 rfl ?_;refine aa.idx tok d.D rfl rfl rfl rfl (Int.natCast_nonneg i) (by rw[hde];exact getM Driver.D hin) ?_;refine qU 4 rfl ?_;refine qI ?_;refine qX 2 rfl ?_;refine aa.call tok rfl rfl rfl rfl (eQ d.nm dok) ?_;refine qU 1 rfl ?_;refine aa.nil ?_;refine AW.cond rfl (fun h=>?_) (fun h=>?_)
   · have hnm:ch d.nm=false:=iS h;have h5:cS bs.length ds i=5:=by rw[hbd,hnm];rfl
     rw[show E=5 by rw[hbE (by omega),h5]];refine qX 2 rfl ?_;exact qN rfl
   have hnm:ch d.nm=true:=by simpa using h
   rw[hnm,if_neg (by decide)] at hbd;refine AW.skip (AW.seq ?_);refine qX 3 rfl ?_;refine aa.zu tok rfl rfl rfl rfl trivial (Int.natCast_nonneg i) (Nat.zero_le _) (by show i≤_;rw[List.length_map];omega) ?_;refine qU 2 rfl ?_;rw[rv (by rw[List.length_map];omega)];refine aa.nil ?_;refine AW.block ?_
   refine AW.aD [1,3,4,15,16,17,30,31,32] (fun k:Nat=>[(1,.bx [dS ln,ak bs,aj js,ai ds]),(3,.d (dI i)),(4,.bx [dS d.nm,dI d.body]),(15,.d (ai ds)),(16,.d (dI ds.length)),(17,.d (dI i)),(30,.d (.sl 2 ((ds.map Driver.D).take i))),(31,.d (dI i)),(32,.d (dI k))])
    (fun k=>k≤i∧yY ds i=dP (fun k=>decide ((ds.getD k default).nm=d.nm)) (i-k) k) (fun k=>i-k) 0 rfl ⟨Nat.zero_le _,hdup⟩ (fun k ⟨hk,hD⟩=>?_)
   refine qX 1 rfl ?_;refine qI ?_;refine AW.cond rfl (fun h=>?_) (fun h=>?_)
   · have hki:k<i:=by have:=of_decide_eq_true h;omega
     refine AW.skip (AW.seq (AW.block (AW.seq (AW.region ?_))));refine aa.idx tok (ds.getD k default).D rfl rfl rfl rfl (Int.natCast_nonneg k) (Co Driver.D (by omega) hki) ?_;refine qU 3 rfl ?_;refine qK 5 rfl ?_;rw[kp];refine aa.nil ?_;refine AW.cond rfl (fun h=>?_) (fun h=>?_)
     · have h6:cS bs.length ds i=6:=by rw[hbd,hD.trans (en hki h)];rfl
       rw[show E=6 by rw[hbE (by omega),h6]];refine qX 2 rfl ?_;exact qN rfl
     · refine AW.skip ?_;refine qT 2 rfl ?_;rw[au (x:=(k:Int)+1) (by omega) (by omega)];refine aa.nil ?_;exact⟨k+1,rfl,⟨hki,hD.trans (dk hki h)⟩,by omega⟩
   · have hki: ¬k<i:=by have:=of_decide_eq_false h;omega
     rw[hD.trans (ep hki),if_neg (by decide)] at hbd;refine AW.exit (AW.seq ?_);refine qX 5 rfl ?_;rw[List.length_map];refine aa.call tok rfl rfl rfl rfl (fr d.body bs.length) ?_;refine qU 1 rfl ?_;refine aa.nil ?_;refine AW.cond rfl (fun h=>?_) (fun h=>?_)
     · rw[if_pos (iS h)] at hbd;rw[show E=9 by rw[hbE (by omega),hbd]];refine qX 2 rfl ?_;exact qN rfl
     have hinb:gL d.body bs.length=true:=by simpa using h
     rw[if_neg (by simp[hinb])] at hbd;refine AW.skip (AW.seq ?_);refine qX 3 rfl ?_;refine aa.nil ?_;refine AW.cond rfl (fun h=>?_) (fun h=>?_)
     · rw[if_pos (by simpa using h)] at hbd;rw[show E=7 by rw[hbE (by omega),hbd]];refine qX 2 rfl ?_;exact qN rfl
     rw[if_neg (by simpa using h)] at hbd;refine AW.skip ?_;refine qX 3 rfl ?_;refine aa.zu tok rfl rfl rfl rfl trivial (Int.natCast_nonneg i) (Nat.zero_le _) (by show i≤_;rw[List.length_map];omega) ?_;refine qU 2 rfl ?_;rw[rv (by rw[List.length_map];omega)];refine aa.nil ?_;refine AW.block ?_
     refine AW.aD [1,4,15,16,17,58,59,60] (fun k:Nat=>[(1,.bx [dS ln,ak bs,aj js,ai ds]),(4,.bx [dS d.nm,dI d.body]),(15,.d (ai ds)),(16,.d (dI ds.length)),(17,.d (dI i)),(58,.d (.sl 2 ((ds.map Driver.D).take i))),(59,.d (dI i)),(60,.d (dI k))])
      (fun k=>k≤i∧yV ds i=dP (fun k=>decide ((ds.getD k default).body=d.body)) (i-k) k) (fun k=>i-k) 0 rfl ⟨Nat.zero_le _,hdup2⟩ (fun k ⟨hk,hD⟩=>?_)
     refine qX 1 rfl ?_;refine qI ?_;refine AW.cond rfl (fun h=>?_) (fun h=>?_)
     · have hki:k<i:=by have:=of_decide_eq_true h;omega
       refine AW.skip (AW.seq (AW.block (AW.seq (AW.region ?_))));refine aa.idx tok (ds.getD k default).D rfl rfl rfl rfl (Int.natCast_nonneg k) (Co Driver.D (by omega) hki) ?_;refine qU 3 rfl ?_;refine qK 5 rfl ?_;refine aa.nil ?_;refine AW.cond rfl (fun h=>?_) (fun h=>?_)
       · have h':decide ((ds.getD k default).body=d.body)=true:=by simpa using h
         rw[hD.trans (en hki h')] at hbd;rw[show E=6 by rw[hbE (by rw[hbd];decide),hbd];rfl];refine qX 2 rfl ?_;exact qN rfl
       · have h':decide ((ds.getD k default).body=d.body)=false:=by simpa using h
         refine AW.skip ?_;refine qT 2 rfl ?_;rw[au (x:=(k:Int)+1) (by omega) (by omega)];refine aa.nil ?_;exact⟨k+1,rfl,⟨hki,hD.trans (dk hki h')⟩,by omega⟩
     · have hki: ¬k<i:=by have:=of_decide_eq_false h;omega
       rw[hD.trans (ep hki),if_neg (by decide)] at hbd;refine AW.exit ?_;refine qT 2 rfl ?_;rw[au (x:=(i:Int)+1) (by omega) (by omega)];refine aa.nil ?_;exact⟨i+1,rfl,⟨hin,hbM hbd⟩,by omega⟩
 · have hin: ¬i<ds.length:=by have:=of_decide_eq_false h;omega
   rw[hE,dy hin];refine AW.exit ?_;refine qX 1 rfl ?_;exact qN rfl
set_option maxHeartbeats 1600000 in
theorem lH(l:Lkg){K:Nat}(hl:l.ok K)(hK:K≤20000000):Pure Tryz.prog 31 [l.D] (ml (tD l)):=by
 refine qJ 33 Tryz.func31 rfl rfl rfl rfl (by kernel_rfl) (fun B F0 w0=>?_);have c1:=qg l.bodies hl.nb hl.b (by omega);have c2:=qf l hl hK;have c3:=o7 l hl
 have hcd:tD l=if ch l.nm=false then 5 else if l.bodies=[] then 10 else if 8<l.bodies.length then 4 else
  if br l.bodies≠0 then br l.bodies else if cQ l.bodies l.joints≠0 then cQ l.bodies l.joints else gS l.bodies.length l.drivers:=rfl
 generalize tD l=E at *;obtain ⟨ln,bs,js,ds⟩:=l;have hnm:=hl.nm;have hnb:=hl.nb;simp only[] at hcd c1 c2 c3 hnm hnb ⊢;show AW _ _ _ _ _ _ _ (df 0 [D.ag [dS ln,ak bs,aj js,ai ds]]);unfold big at hnm hnb;refine qX 2 rfl ?_;refine qI ?_;refine qX 2 rfl ?_;refine aa.call tok rfl rfl rfl rfl (eQ ln hnm) ?_;refine qU 1 rfl ?_;refine aa.nil ?_;refine AW.cond rfl (fun h=>?_) (fun h=>?_)
 · rw[if_pos (iS h)] at hcd;rw[hcd];refine qX 2 rfl ?_;exact qN rfl
 rw[if_neg (by simpa using h)] at hcd;refine AW.skip (AW.seq ?_);refine qX 4 rfl ?_;rw[List.length_map];refine aa.nil ?_;refine AW.cond rfl (fun h=>?_) (fun h=>?_)
 · have h0:bs=[]:=List.length_eq_zero_iff.1 (by have:(bs.length:Int)=0:=by simpa using h
                                                omega)
   rw[if_pos h0] at hcd;rw[hcd];refine qX 2 rfl ?_;exact qN rfl
 have h0:bs≠[]:=by rintro rfl;simp at h
 rw[if_neg h0] at hcd;refine AW.skip (AW.seq ?_);refine qX 4 rfl ?_;rw[List.length_map];refine aa.nil ?_;refine AW.cond rfl (fun h=>?_) (fun h=>?_)
 · have h8:8<bs.length:=by have:=of_decide_eq_true h;omega
   rw[if_pos h8] at hcd;rw[hcd];refine qX 2 rfl ?_;exact qN rfl
 have h8: ¬8<bs.length:=by have:=of_decide_eq_false h;omega
 rw[if_neg h8] at hcd;refine AW.skip ?_;cases he:br bs with
 | succ m =>
   rw[he] at hcd c1;rw[show E=m+1 by rw[hcd,if_pos (by omega)]];refine AW.seq ?_;refine qX 2 rfl ?_;refine aa.call tok rfl rfl rfl rfl c1 ?_;refine qU 1 rfl ?_;refine qK 1 rfl ?_;refine aa.err tok rfl rfl rfl rfl rfl ?_;refine aa.nil ?_;refine AW.aB rfl ?_;refine qX 2 rfl ?_;exact qN rfl
 | zero =>
   rw[he] at hcd c1;rw[if_neg (by omega)] at hcd;refine AW.seq ?_;refine qX 2 rfl ?_;refine aa.call tok rfl rfl rfl rfl c1 ?_;refine qU 1 rfl ?_;refine qK 1 rfl ?_;refine aa.err tok rfl rfl rfl rfl rfl ?_;refine aa.nil ?_;refine AW.ar rfl ?_;refine AW.skip ?_;cases he2:cQ bs js with
   | succ m =>
     rw[he2] at hcd c2;rw[show E=m+1 by rw[hcd,if_pos (by omega)]];refine AW.seq ?_;refine qX 1 rfl ?_;refine aa.call tok rfl rfl rfl rfl c2 ?_;refine qU 1 rfl ?_;refine qK 1 rfl ?_;refine aa.err tok rfl rfl rfl rfl rfl ?_;refine aa.nil ?_;refine AW.aB rfl ?_;refine qX 2 rfl ?_;exact qN rfl
   | zero =>
     rw[he2] at hcd c2;rw[if_neg (by omega)] at hcd;rw[hcd];refine AW.seq ?_;refine qX 1 rfl ?_;refine aa.call tok rfl rfl rfl rfl c2 ?_;refine qU 1 rfl ?_;refine qK 1 rfl ?_;refine aa.err tok rfl rfl rfl rfl rfl ?_;refine aa.nil ?_;refine AW.ar rfl ?_;refine AW.skip ?_;refine qX 1 rfl ?_;refine aa.call tok rfl rfl rfl rfl c3 ?_;refine qU 1 rfl ?_;exact qN rfl
end Lift
namespace Lift
open Go Go.Proofs
abbrev ratZ:D:= .ag [dB false,.sl 1 [],.sl 1 []]
end Lift
namespace Lift
open Go Go.Proofs
abbrev uz(v:List NQ):D:= .pr [.sl 1 (v.map ae),aq]
theorem mK{v:List NQ}{f:Nat}{a b r:NQ}(hP:Pure Tryz.prog f [aL v,ae a,ae b] (.tu [ae r,aq])):Pure Tryz.prog 104 [uz v,.fn f [] [],ae a,ae b] (ae r):=by
 refine qJ 32 Tryz.func104 rfl rfl rfl rfl (by kernel_rfl) (fun B0 F0 w0=>?_);refine qX 1 rfl ?_;refine qI ?_;refine qX 1 rfl ?_;refine aa.w7 tok rfl rfl rfl rfl rfl ?_;refine qU 2 rfl ?_;refine aa.err tok rfl rfl rfl rfl rfl ?_;refine aa.nil ?_;refine AW.ar rfl ?_
 · skip
   refine AW.skip ?_;refine qX 2 rfl ?_;refine aa.w7 tok rfl rfl rfl rfl rfl ?_;refine qU 4 rfl ?_;refine aa.CO tok rfl rfl rfl rfl hP ?_;refine qU 5 rfl ?_;refine qK 2 rfl ?_;refine aa.w7 tok rfl rfl rfl rfl rfl ?_;refine aa.EX tok rfl rfl rfl rfl rfl rfl rfl rfl rfl rfl rfl rfl rfl rfl rfl ?_;refine qK 2 rfl ?_;exact qN rfl
theorem k7{m:Nat}{v:List NQ}{a b:NQ}(V:iz m v)(ha:ay v.length a)(sa:az m a)(hb:ay v.length b)(sb:az m b):Pure Tryz.prog 103 [uz v,ae a,ae b] (ae (vU a b)):=by
 refine qJ 11 Tryz.func103 rfl rfl rfl rfl (by kernel_rfl) (fun B0 F0 w0=>?_);have c:=mK (s4 V ha sa hb sb);refine qX 1 rfl ?_;refine qK 3 rfl ?_;refine aa.call tok rfl rfl rfl rfl c ?_;refine qU 1 rfl ?_;exact qN rfl
theorem gG{m:Nat}{v:List NQ}{a b:NQ}(V:iz m v)(ha:ay v.length a)(sa:az m a)(hb:ay v.length b)(sb:az m b):Pure Tryz.prog 57 [uz v,ae a,ae b] (ae (fB a b)):=by
 refine qJ 11 Tryz.func57 rfl rfl rfl rfl (by kernel_rfl) (fun B0 F0 w0=>?_);have c:=mK (sY V ha sa hb sb);refine qX 1 rfl ?_;refine qK 3 rfl ?_;refine aa.call tok rfl rfl rfl rfl c ?_;refine qU 1 rfl ?_;exact qN rfl
theorem fi{m:Nat}{v:List NQ}{a b:NQ}(hsT:sT v.length m≤17300000000000)(V:iz m v)(ha:ay v.length a)(sa:az m a)(hb:ay v.length b)(sb:az m b):Pure Tryz.prog 58 [uz v,ae a,ae b] (ae (fV v a b)):=by
 refine qJ 11 Tryz.func58 rfl rfl rfl rfl (by kernel_rfl) (fun B0 F0 w0=>?_);have c:=mK (sZ hsT V ha sa hb sb);refine qX 1 rfl ?_;refine qK 3 rfl ?_;refine aa.call tok rfl rfl rfl rfl c ?_;refine qU 1 rfl ?_;exact qN rfl
theorem Bn{l:Nat}{a:NQ}(ha:ay l a):fB [] a=aH a:=wj ((bY l).plus ha.minus) ha.minus (funext fun i=>by
 rw[ix];show (0:Rat)+_=_
 rw[Rat.zero_add])
theorem fh{m:Nat}{v:List NQ}{a:NQ}(V:iz m v)(ha:ay v.length a)(sa:az m a):Pure Tryz.prog 60 [uz v,ae a] (ae (aH a)):=by
 refine qJ 8 Tryz.func60 rfl rfl rfl rfl (by kernel_rfl) (fun B0 F0 w0=>?_);have c:=gG V (bY _) (dD V.m1) ha sa;rw[Bn ha] at c;refine qX 1 rfl ?_;refine qK 2 rfl ?_;refine aa.call tok rfl rfl rfl rfl c ?_;refine qU 1 rfl ?_;exact qN rfl
theorem DG{l m:Nat}(hl:l≤2)(hm:m≤30000):oF l m:=by
 have h2:oF 2 m:=by
  show sT 2 m≤17300000000000∧sT 1 (sT 2 m)≤17300000000000∧sT 1 (sT 2 m)≤17300000000000;have e1: ∀k,sT 1 k=6*k+1:=fun k=>by show 2*(2*k)+2*k+1=_;omega
  have e2:sT 2 m=42*m+9:=by
   show sT 1 (sT 1 m)+sT 1 m+1=_;rw[e1,e1];omega
  rw[e2,e1];omega
 exact ve h2 hl
theorem l6{l m:Nat}(hl:l≤2):sT l m≤42*m+9:=by
 have e1: ∀k,sT 1 k=6*k+1:=fun k=>by show 2*(2*k)+2*k+1=_;omega
 match l,hl with
 | 0,_=>show 2*m≤_;omega
 | 1,_=>rw[e1];omega
 | 2,_ =>
   show sT 1 (sT 1 m)+sT 1 m+1≤_;rw[e1,e1];omega
structure C6 where
 c:NQ
 s:NQ
 x:NQ
 y:NQ
abbrev C6.D(b:C6):D:= .ag [ae b.c,ae b.s,ae b.x,ae b.y]
structure C6.ok (l k:Nat) (b:C6):Prop where
 c:ay l b.c∧az k b.c
 s:ay l b.s∧az k b.s
 x:ay l b.x∧az k b.x
 y:ay l b.y∧az k b.y
def FB(v:List NQ)(b:C6)(px py:NQ):NQ:=vU (fB (fV v b.c px) (fV v b.s py)) b.x
def FA(v:List NQ)(b:C6)(px py:NQ):NQ:=vU (vU (fV v b.s px) (fV v b.c py)) b.y
theorem EH{v:List NQ}{b:C6}{px py:NQ}(V:iz 16 v)(hl:v.length≤2)(hb:b.ok v.length 16)(hx:ay v.length px∧az 16 px)(hy:ay v.length py∧az 16 py):
  (ay v.length (FB v b px py)∧az 1400 (FB v b px py))∧(ay v.length (FA v b px py)∧az 1400 (FA v b px py)):=by
 have s1:=l6 (m:=16) hl;have p1:=cG V hb.c.1 hb.c.2 hx.1 hx.2;have p2:=cG V hb.s.1 hb.s.2 hy.1 hy.2;have p3:=cG V hb.s.1 hb.s.2 hx.1 hx.2;have p4:=cG V hb.c.1 hb.c.2 hy.1 hy.2;have q1:=eZ p1.1 p1.2 p2.1 p2.2;have q2:=oC p3.1 p3.2 p4.1 p4.2;have r1:=oC q1.1 q1.2 hb.x.1 hb.x.2;have r2:=oC q2.1 q2.2 hb.y.1 hb.y.2;exact⟨⟨r1.1,r1.2.mono (by omega)⟩,⟨r2.1,r2.2.mono (by omega)⟩⟩
set_option maxHeartbeats 800000 in
theorem xR{v:List NQ}{b:C6}{p:Mark}(V:iz 16 v)(hl:v.length≤2)(hb:b.ok v.length 16)(wx:p.x.w 16)(wy:p.y.w 16)(ox:p.x.okB=true)(oy:p.y.okB=true):
  Pure Tryz.prog 56 [uz v,b.D,p.D] (.tu [ae (FB v b (np p.x.val) (np p.y.val)),ae (FA v b (np p.x.val) (np p.y.val))]):=by
 refine qJ 50 Tryz.func56 rfl rfl rfl rfl (by kernel_rfl) (fun B0 F0 w0=>?_);have c1:=gH p.x wx (by decide) (by decide) ox;have c2:=gH p.y wy (by decide) (by decide) oy;have hx:=kz v.length (bC wx (by decide));have hy:=kz v.length (bC wy (by decide));generalize np p.x.val=px at *;generalize np p.y.val=py at *;have s1:=l6 (m:=16) hl;have V2:=V.mono (k:=1400) (by decide) (by decide);have m1:=fi (by omega) V hb.c.1 hb.c.2 hx.1 hx.2;have m2:=fi (by omega) V hb.s.1 hb.s.2 hy.1 hy.2;have m3:=fi (by omega) V hb.s.1 hb.s.2 hx.1 hx.2;have m4:=fi (by omega) V hb.c.1 hb.c.2 hy.1 hy.2;have p1:=cG V hb.c.1 hb.c.2 hx.1 hx.2;have p2:=cG V hb.s.1 hb.s.2 hy.1 hy.2;have p3:=cG V hb.s.1 hb.s.2 hx.1 hx.2;have p4:=cG V hb.c.1 hb.c.2 hy.1 hy.2;have q1:=eZ p1.1 p1.2 p2.1 p2.2;have q2:=oC p3.1 p3.2 p4.1 p4.2;have n1:=gG V2 p1.1 (p1.2.mono (by omega)) p2.1 (p2.2.mono (by omega));have n2:=k7 V2 p3.1 (p3.2.mono (by omega)) p4.1 (p4.2.mono (by omega));have o1:=k7 V2 q1.1 (q1.2.mono (by omega)) hb.x.1 (hb.x.2.mono (by omega));have o2:=k7 V2 q2.1 (q2.2.mono (by omega)) hb.y.1 (hb.y.2.mono (by omega));unfold FB FA;refine qX 4 rfl ?_;refine qI ?_;refine AW.draw aI 6 (by kernel_rfl) ?_;refine qP 2 rfl ?_;refine af.call tok rfl rfl rfl rfl rfl c1 ?_;refine qP 2 rfl ?_;refine af.call tok rfl rfl rfl rfl rfl c2 ?_;refine af.nil ?_;refine qU 2 rfl ?_;refine qI ?_;refine AW.draw aI 16 (by kernel_rfl) ?_;refine qP 6 rfl ?_;refine af.call tok rfl rfl rfl rfl rfl m1 ?_;refine qP 4 rfl ?_;refine af.call tok rfl rfl rfl rfl rfl m2 ?_;refine af.call tok rfl rfl rfl rfl rfl n1 ?_;refine qP 2 rfl ?_;refine af.call tok rfl rfl rfl rfl rfl o1 ?_;refine af.nil ?_;refine qU 1 rfl ?_;refine qI ?_;refine AW.draw aI 16 (by kernel_rfl) ?_;refine qP 6 rfl ?_;refine af.call tok rfl rfl rfl rfl rfl m3 ?_;refine qP 4 rfl ?_;refine af.call tok rfl rfl rfl rfl rfl m4 ?_;refine af.call tok rfl rfl rfl rfl rfl n2 ?_;refine qP 2 rfl ?_;refine af.call tok rfl rfl rfl rfl rfl o2 ?_;refine af.nil ?_;refine qU 1 rfl ?_;refine qK 4 rfl ?_;exact qN rfl
theorem kB:Pure Tryz.prog 61 [] (ae [1]):=by
 refine qJ 3 Tryz.func61 rfl rfl rfl rfl (by kernel_rfl) (fun B0 F0 w0=>?_);have c1:=fQ 1 (by decide) (by decide);have c2:=gH (Qr ((1:Int):Rat)) (k:=1) (eN _ (by have:=eO;rw[show ((1:Int):Rat)=1 from rfl];omega)) (by decide) (by decide) (xL _);rw[bH,show np ((1:Int):Rat)=[1] from rfl] at c2;refine qX 1 rfl ?_;refine qI (AW.region ?_);refine aa.call tok rfl rfl rfl rfl c1 ?_;refine aa.call tok rfl rfl rfl rfl c2 ?_;refine qU 1 rfl ?_;exact qN rfl
end Lift
namespace Lift
open Go Go.Proofs
structure dL where
 c:List RD
 s:List RD
 x:List RD
 y:List RD
deriving Inhabited
abbrev dL.D(p:dL):D:= .ag [a9 p.c,a9 p.s,a9 p.x,a9 p.y]
structure Asm where
 rt:List (List RD)
 bodies:List dL
 modes:List Int
abbrev Asm.D(a:Asm):D:= .ag [.sl 1 (a.rt.map a9),.sl 4 (a.bodies.map dL.D),.sl 1 (a.modes.map (fun n=>dI n))]
structure dL.ok (m:Nat) (rt:List (List RD)) (p:dL):Prop where
 c:iA m rt p.c
 s:iA m rt p.s
 x:iA m rt p.x
 y:iA m rt p.y
structure Asm.ok (m:Nat) (a:Asm):Prop where
 t:mr m a.rt
 b: ∀i,i<a.bodies.length→(a.bodies.getD i default).ok m a.rt
 l:a.bodies.length≤1000000
def Au(rt:List (List RD))(p:dL)(k:Nat):Nat:=bz rt.length ([p.c,p.s,p.x,p.y].getD k [])
def ub(rt:List (List RD))(p:dL):Nat:=fE (Au rt p) (4-0) 0
def fD(l:Lkg)(a:Asm):Nat:=if tD l≠0 then tD l else if cJ a.rt≠0 then cJ a.rt else if a.bodies.length≠l.bodies.length then 10 else fE (fun i=>ub a.rt (a.bodies.getD i default)) (a.bodies.length-0) 0
theorem EF{rt:List (List RD)}{a:List RD}(h:cJ rt=0):iY rt [a]=bz rt.length a:=by
 unfold iY;rw[if_neg (by rw[h];simp)];show (if bz rt.length a=0 then 0 else bz rt.length a)=_;by_cases h0:bz rt.length a=0
 · rw[if_pos h0,h0]
 · rw[if_neg h0]
set_option maxHeartbeats 1600000 in
theorem vy(l:Lkg)(a:Asm){K m:Nat}(hl:l.ok K)(hK:K≤20000000)(hb:l.bodies.length≤1000000000000)(ha:a.ok m):Pure Tryz.prog 55 [l.D,a.D] (ml (fD l a)):=by
 refine qJ 65 Tryz.func55 rfl rfl rfl rfl (by kernel_rfl) (fun B0 F0 w0=>?_);have cM:=lH l hl hK;obtain ⟨m0,t1,t2,tw,tk⟩:=ha.t.t;have cT:=iL a.rt tw t1 ha.t.l ha.t.ll tk;have hal:=ha.l;unfold fD;obtain ⟨E,hE⟩: ∃E,fE (fun i=>ub a.rt (a.bodies.getD i default)) (a.bodies.length-0) 0=E:=⟨_,rfl⟩;rw[hE];refine qX 3 rfl ?_;refine qI ?_;refine qX 1 rfl ?_;refine aa.call tok rfl rfl rfl rfl cM ?_;refine qU 1 rfl ?_;refine aa.nil ?_;rcases e1:tD l with _ | z
 rotate_left
 · rw[if_pos (Nat.succ_ne_zero z)];refine qX 1 rfl ?_;refine aa.err tok rfl rfl rfl rfl rfl ?_;refine aa.nil ?_;refine AW.aB rfl ?_;refine qX 2 rfl ?_;exact qN rfl
 rw[if_neg (by simp)];refine qX 1 rfl ?_;refine aa.err tok rfl rfl rfl rfl rfl ?_;refine aa.nil ?_;refine AW.ar rfl ?_;refine AW.skip (AW.seq ?_);refine qX 2 rfl ?_;refine aa.call tok rfl rfl rfl rfl cT ?_;refine qU 1 rfl ?_;refine aa.nil ?_;rcases e2:cJ a.rt with _ | z
 rotate_left
 · rw[if_pos (Nat.succ_ne_zero z)];refine qX 1 rfl ?_;refine aa.err tok rfl rfl rfl rfl rfl ?_;refine aa.nil ?_;refine AW.aB rfl ?_;refine qX 2 rfl ?_;exact qN rfl
 rw[if_neg (by simp)];refine qX 1 rfl ?_;refine aa.err tok rfl rfl rfl rfl rfl ?_;refine aa.nil ?_;refine AW.ar rfl ?_;refine AW.skip (AW.seq ?_);refine qX 6 rfl ?_;rw[List.length_map,List.length_map];refine qU 1 rfl ?_;refine aa.nil ?_;by_cases hbl:a.bodies.length=l.bodies.length;rotate_left
 · rw[if_pos hbl,bne_iff_ne.2 (show (a.bodies.length:Int)≠(l.bodies.length:Int) by omega)];refine AW.aB rfl ?_;refine qX 2 rfl ?_;exact qN rfl
 rw[if_neg (fun h=>h hbl),bne_eq_false_iff_eq.2 (show (a.bodies.length:Int)=(l.bodies.length:Int) by omega)];refine AW.ar rfl ?_;refine AW.skip ?_;obtain ⟨rt,bs,md⟩:=a;simp only[] at *;refine AW.seq ?_;refine qX 3 rfl ?_;rw[List.length_map];refine qU 1 rfl ?_;refine aa.nil ?_;refine AW.block ?_;refine AW.aD [3,33,34,35] (fun i:Nat=>[(3,.bx [.sl 1 (rt.map a9),.sl 4 (bs.map dL.D),.sl 1 (md.map (fun n=>dI n))]),(33,.d (.sl 4 (bs.map dL.D))),(34,.d (dI bs.length)),(35,.d (dI i))]) (fun i=>i≤bs.length∧fE (fun i=>ub rt (bs.getD i default)) (bs.length-i) i=E) (fun i=>bs.length-i) 0 rfl ⟨Nat.zero_le _,hE⟩ (fun i ⟨hi,hiE⟩=>?_);refine qX 1 rfl ?_;refine qI ?_;refine AW.cond rfl (fun h=>?_) (fun h=>?_);rotate_left
 · have hii: ¬i<bs.length:=by have:=of_decide_eq_false h;omega
   rw[dy hii] at hiE;subst hiE;refine AW.exit ?_;refine qX 1 rfl ?_;exact qN rfl
 have hii:i<bs.length:=by have:=of_decide_eq_true h;omega
 have hg:(bs.map dL.D)[i]?=some (bs.getD i default).D:=by simp[hii]
 have hmiss:=fun h0:ub rt (bs.getD i default)=0=>(bX (f:=fun i=>ub rt (bs.getD i default)) hii h0).symm.trans hiE;have hhit:=fun h0:ub rt (bs.getD i default)≠0=>(dw (f:=fun i=>ub rt (bs.getD i default)) hii h0).symm.trans hiE;have hp:=ha.b i hii;generalize bs.getD i default=p at hg hmiss hhit hp;obtain ⟨P,hP⟩: ∃P,ub rt p=P:=⟨_,rfl⟩;rw[hP] at hmiss hhit;unfold ub at hP;obtain ⟨pc,ps,px,py⟩:=p;refine AW.skip (AW.seq (AW.block (AW.seq (AW.region ?_))));refine aa.idx tok (dL.mk pc ps px py).D rfl rfl rfl rfl (Int.natCast_nonneg i) hg ?_;refine qU 3 rfl ?_;refine qK 8 rfl ?_;refine aa.kc tok rfl rfl rfl rfl rfl ?_;refine qU 2 rfl ?_;refine aa.nil ?_;refine AW.block ?_;refine AW.aD [3,33,34,35,47,48,49] (fun k:Nat=>[(3,.bx [.sl 1 (rt.map a9),.sl 4 (bs.map dL.D),.sl 1 (md.map (fun n=>dI n))]),(33,.d (.sl 4 (bs.map dL.D))),(34,.d (dI bs.length)),(35,.d (dI i)),(47,.d (.sl 1 [a9 pc,a9 ps,a9 px,a9 py])),(48,.d (dI 4)),(49,.d (dI k))]) (fun k=>k≤4∧fE (Au rt ⟨pc,ps,px,py⟩) (4-k) k=P) (fun k=>4-k) 0 rfl ⟨Nat.zero_le _,hP⟩ (fun k ⟨hk,hkP⟩=>?_);refine qX 1 rfl ?_;refine qI ?_;refine AW.cond rfl (fun h=>?_) (fun h=>?_);rotate_left
 · have hkk: ¬k<4:=by have:=of_decide_eq_false h;omega
   rw[dy hkk] at hkP;refine AW.exit ?_;refine qT 1 rfl ?_;rw[au (x:=(i:Int)+1) (by omega) (by omega)];refine qU 1 rfl ?_;refine aa.nil ?_;exact⟨i+1,rfl,⟨hii,hmiss hkP.symm⟩,by omega⟩
 have hkk:k<4:=by have:=of_decide_eq_true h;omega
 have km:=fun h0:Au rt ⟨pc,ps,px,py⟩ k=0=>(bX (f:=Au rt ⟨pc,ps,px,py⟩) hkk h0).symm.trans hkP;have kh:=fun h0:Au rt ⟨pc,ps,px,py⟩ k≠0=>(dw (f:=Au rt ⟨pc,ps,px,py⟩) hkk h0).symm.trans hkP
 obtain ⟨q,hq,hqg,hqn⟩: ∃q,[a9 pc,a9 ps,a9 px,a9 py][k]?=some (a9 q)∧Au rt ⟨pc,ps,px,py⟩ k=bz rt.length q∧iA m rt q:=by
  match k,hkk with
  | 0,_=>exact⟨pc,rfl,rfl,hp.c⟩
  | 1,_=>exact⟨ps,rfl,rfl,hp.s⟩
  | 2,_=>exact⟨px,rfl,rfl,hp.x⟩
  | 3,_=>exact⟨py,rfl,rfl,hp.y⟩
 rw[hqg] at km kh;have cN:=uG ha.t hqn;unfold E9 at cN;rw[EF e2] at cN;refine AW.skip (AW.seq (AW.block (AW.seq (AW.region ?_))));refine aa.idx tok (a9 q) rfl rfl rfl rfl (Int.natCast_nonneg k) hq ?_;refine qU 2 rfl ?_;refine qK 3 rfl ?_;rcases e3:bz rt.length q with _ | z
 rotate_left
 · rw[e3] at kh;rw[e3,if_pos (Nat.succ_ne_zero z)] at cN;have h1:=kh (Nat.succ_ne_zero z);have h2:=hhit (by rw[← h1];exact Nat.succ_ne_zero z);rw[← h1] at h2;subst h2;refine aa.call tok rfl rfl rfl rfl cN ?_;refine qU 5 rfl ?_;refine qK 1 rfl ?_;refine aa.err tok rfl rfl rfl rfl rfl ?_;refine aa.nil ?_;refine AW.aB rfl ?_;refine qX 2 rfl ?_;exact qN rfl
 rw[e3] at km;rw[e3,if_neg (by simp)] at cN;refine aa.call tok rfl rfl rfl rfl cN ?_;refine qU 5 rfl ?_;refine qK 1 rfl ?_;refine aa.err tok rfl rfl rfl rfl rfl ?_;refine aa.nil ?_;refine AW.ar rfl ?_;refine AW.skip ?_;refine qT 1 rfl ?_;rw[au (x:=(k:Int)+1) (by omega) (by omega)];refine qU 1 rfl ?_;refine aa.nil ?_;exact⟨k+1,rfl,⟨hkk,km rfl⟩,by omega⟩
def pk(js:List bp):Nat→Int
 | 0=>0
 | i+1=>pk js i+if (js.getD i default).kind=0 then 2 else 1
theorem yI(js:List bp): ∀i,0≤pk js i∧pk js i≤2*i
 | 0=>by exact⟨Int.le_refl _,Int.le_refl _⟩
 | i+1=>by
   have:=yI js i;show 0≤pk js i+(if _ then _ else _)∧pk js i+(if _ then _ else _)≤_;split<;>omega
def yH(l:Lkg):Int:=3*((l.bodies.length:Int) -1) -pk l.joints l.joints.length
def AG(l:Lkg):D:=if tD l≠0 then .tu [dI 0,ml (tD l)] else .tu [dI (yH l),aq]
theorem kS(l:Lkg){K:Nat}(hl:l.ok K)(hK:K≤20000000):Pure Tryz.prog 13 [l.D] (AG l):=by
 refine qJ 34 Tryz.func13 rfl rfl rfl rfl (by kernel_rfl) (fun B0 F0 w0=>?_);have cM:=lH l hl hK;have nb:=hl.nb;have nj:=hl.nj;unfold big at nb nj;unfold AG yH;refine qX 3 rfl ?_;refine qI ?_;refine qX 1 rfl ?_;refine aa.call tok rfl rfl rfl rfl cM ?_;refine qU 1 rfl ?_;refine aa.nil ?_;rcases e1:tD l with _ | z
 rotate_left
 · rw[if_pos (Nat.succ_ne_zero z)];refine qX 1 rfl ?_;refine aa.err tok rfl rfl rfl rfl rfl ?_;refine aa.nil ?_;refine AW.aB rfl ?_;refine qX 3 rfl ?_;exact qN rfl
 rw[if_neg (by simp)];refine qX 1 rfl ?_;refine aa.err tok rfl rfl rfl rfl rfl ?_;refine aa.nil ?_;refine AW.ar rfl ?_;refine AW.skip ?_;clear cM e1 hl;obtain ⟨ln,bs,js,ds⟩:=l;simp only[] at nb nj ⊢;refine qX 3 rfl ?_;rw[List.length_map];refine qU 1 rfl ?_;rw[au (x:=(bs.length:Int) -1) (by omega) (by omega)];refine qU 1 rfl ?_;rw[au (x:=3*((bs.length:Int) -1)) (by omega) (by omega)];refine qU 1 rfl ?_;refine qI ?_;refine qX 3 rfl ?_;rw[List.length_map];refine qU 1 rfl ?_;refine aa.nil ?_;refine AW.block ?_;refine AW.aD [5,19,20,21] (fun i:Nat=>[(5,.d (dI (3*((bs.length:Int) -1) -pk js i))),(19,.d (aj js)),(20,.d (dI js.length)),(21,.d (dI i))]) (fun i=>i≤js.length) (fun i=>js.length-i) 0 (by show _=([(5,.d (dI (3*((bs.length:Int) -1) -0))),(19,.d (aj js)),(20,.d (dI js.length)),(21,.d (dI (0:Nat)))]:St);rw[Int.sub_zero];rfl) (Nat.zero_le _) (fun i hi=>?_);refine qX 1 rfl ?_;refine qI ?_;refine AW.cond rfl (fun h=>?_) (fun h=>?_);rotate_left
 · have hii:i=js.length:=by have:=of_decide_eq_false h;have:i≤js.length:=hi;omega
   subst hii;refine AW.exit ?_;refine qX 3 rfl ?_;exact qN rfl
 have hii:i<js.length:=by have:=of_decide_eq_true h;omega
 have hg:(js.map bp.D)[i]?=some (js.getD i default).D:=by simp[hii]
 have hgc:pk js (i+1)=pk js i+if (js.getD i default).kind=0 then 2 else 1:=rfl
 have gb:=yI js i;generalize js.getD i default=j at hg hgc;obtain ⟨nm,kd,a,pt,b,on,to⟩:=j;simp only[] at hgc;refine AW.skip (AW.seq (AW.block (AW.seq (AW.region ?_))));refine aa.idx tok (bp.mk nm kd a pt b on to).D rfl rfl rfl rfl (Int.natCast_nonneg i) hg ?_;refine qU 3 rfl ?_;refine qK 3 rfl ?_;refine aa.nil ?_;by_cases hkd:kd=0
 · rw[if_pos hkd] at hgc;rw[beq_iff_eq.2 hkd];refine AW.aB rfl ?_;refine qT 2 rfl ?_;rw[au (x:=3*((bs.length:Int) -1) -pk js i-2) (by omega) (by omega),show 3*((bs.length:Int) -1) -pk js i-2=3*((bs.length:Int) -1) -pk js (i+1) by omega];refine qU 1 rfl ?_;refine aa.nil ?_;refine qT 1 rfl ?_;rw[au (x:=(i:Int)+1) (by omega) (by omega)];refine qU 1 rfl ?_;refine aa.nil ?_;exact⟨i+1,rfl,hii,by omega⟩
 · rw[if_neg hkd] at hgc;rw[beq_eq_false_iff_ne.2 hkd];refine AW.ar rfl ?_;refine qT 2 rfl ?_;rw[au (x:=3*((bs.length:Int) -1) -pk js i-1) (by omega) (by omega),show 3*((bs.length:Int) -1) -pk js i-1=3*((bs.length:Int) -1) -pk js (i+1) by omega];refine qU 1 rfl ?_;refine aa.nil ?_;refine qT 1 rfl ?_;rw[au (x:=(i:Int)+1) (by omega) (by omega)];refine qU 1 rfl ?_;refine aa.nil ?_;exact⟨i+1,rfl,hii,by omega⟩
end Lift
namespace Lift
open Go Go.Proofs
section
open Go.RowKit (Below)
variable {P:Program} {T:Ty} {B:Nat} {F0:Nat→Prop} {w0:bV} {n:Nat} {σ:St} {all:Array Oper} {rest:List Oper} {o:Oper} {d:Nat} {K:St→Prop}
theorem aa.Gm(hT:bb P T){h e lo m:Nat}{av:AV}{l ys:List D}{row:AV}(hd:o.dst=some d)(hdn:Nat.ble (d+1) n=true)(hg:aA all σ o=true)(hx:GN T σ o.op=some (h,av,e,l,lo,m,ys))(hm:0<m)(hy:ys≠[])
  (he:av.bW (l.take lo++ys.take (min ys.length m)++l.drop (lo+min ys.length m))=row)
  (hk:aa P B F0 w0 n all rest K ((d,.d (.v (.int .i64 ((min ys.length m:Nat):Int))))::(h,row)::σ)):aa P B F0 w0 n all (o::rest) K σ :=
 aa.copy hT hd hdn hg hx hm hy (by rw[he];exact hk)
end
abbrev cH(l:List NQ):List D:=l.map ae
def aN(r:List NQ)(b:Int)(x y w:NQ):List NQ:=if 0<b then r.take (3*(b.toNat-1))++[x,y,w]++r.drop (3*(b.toNat-1)+3) else r
theorem nS{r:List NQ}{b:Int}(x y w:NQ)(h:0<b→3*b.toNat≤r.length):(aN r b x y w).length=r.length:=by
 unfold aN;split
 · rename_i h0;have:=h h0;rw[List.length_append,List.length_append,List.length_take,List.length_drop];show min _ _+3+_=_;omega
 · rfl
def zH(V:Value)(r:List NQ)(b:Int)(x y w:NQ)(res:D)(R':List LR):Prop:=res= .tu []∧R'=[(V,AV.ow 52 (cH (aN r b x y w)))]
theorem gp(V:Value)(r:List NQ)(b:Int)(x y w:NQ)(h1:0<b→3*b.toNat≤r.length)(hb:b≤1000000)(hb0: -1000000≤b):fS Tryz.prog 59 [.v V,dI b,ae x,ae y,ae w] [(V,AV.ow 52 (cH r))] (zH V r b x y w):=by
 refine fS.intro (n:=22) tok Tryz.func59 rfl rfl rfl (Nat.le_of_ble_eq_true rfl) (by kernel_rfl) (fun B0 F0 w0=>?_);unfold zH;refine AZ.seq ?_;refine AZ.dm (fun B1 F1 w1=>?_);refine qU 2 rfl ?_;by_cases h0:0<b;rotate_left
 · rw[decide_eq_false h0];refine aa.nil ⟨rfl,?_⟩;refine AZ.ar rfl ?_;refine AZ.skip ?_;exact⟨.tu [],rfl,rfl,by unfold aN;rw[if_neg h0]⟩
 rw[decide_eq_true h0];refine aa.nil ⟨rfl,?_⟩;have h1:=h1 h0;have hlo:3*(b-1)=((3*(b.toNat-1):Nat):Int):=by omega
 refine AZ.aB rfl ?_;refine AZ.region ?_;refine an.cut 4 rfl (fun B1 F1 w1=>?_);refine qU 3 rfl ?_;rw[au (x:=b-1) (by omega) (by omega)];refine qU 1 rfl ?_;rw[au (x:=3*(b-1)) (by omega) (by omega),hlo];refine aa.nil ⟨rfl,?_⟩;refine an.cy 12 0 rfl rfl rfl ?_;refine an.cut 6 rfl (fun B1 F1 w1=>?_);refine aa.FN tok rfl rfl rfl rfl (Int.natCast_nonneg _) trivial (by show 3*(b.toNat-1)≤(cH r).length;rw[List.length_map];omega) (Nat.le_refl _) ?_;refine qU 3 rfl ?_;refine aa.kc tok rfl rfl rfl rfl rfl ?_;refine aa.Gm tok (row:= .ow 52 (cH (aN r b x y w))) rfl rfl rfl rfl (by show 0<(cH r).length-3*(b.toNat-1);rw[List.length_map];omega) (by simp) ?_ ?_
 · have e3:min [ae x,ae y,ae w].length ((cH r).length-3*(b.toNat-1))=3:=by
    rw[List.length_map];show min 3 _=3;omega
   show AV.ow _ ((cH r).take (0+3*(b.toNat-1))++[ae x,ae y,ae w].take (min [ae x,ae y,ae w].length ((cH r).length-3*(b.toNat-1)))++(cH r).drop (0+3*(b.toNat-1)+min [ae x,ae y,ae w].length ((cH r).length-3*(b.toNat-1))))=_;rw[e3,Nat.zero_add];unfold aN;rw[if_pos h0];show AV.ow _ ((r.map ae).take _++[x,y,w].map ae++(r.map ae).drop _)=AV.ow _ ((_++[x,y,w]++_).map ae);rw[List.map_append,List.map_append,List.map_take,List.map_drop]
 refine aa.nil ⟨rfl,?_⟩;refine an.back 12 0 rfl rfl rfl (List.Mem.head _) rfl ?_;refine an.nil ?_;exact⟨.tu [],rfl,rfl,rfl⟩
end Lift
namespace Lift
open Go Go.Proofs
theorem AJ{f:Nat→Nat}: ∀{m i:Nat},fE f m i=0→ ∀k,i≤k→k<i+m→f k=0
 | 0,i,_,k,h1,h2=>by omega
 | m+1,i,h,k,h1,h2=>by
   rw[fE] at h;split at h
   · rename_i h0;rcases Nat.eq_or_lt_of_le h1 with e | e
     · subst e;exact h0
     · exact AJ h k (by omega) (by omega)
   · rename_i h0;exact absurd h h0
structure GA (bs:List Body) (j:bp):Prop where
 k:j.kind=0∨j.kind=1
 a:0≤j.a∧j.a<bs.length
 b:0≤j.b∧j.b<bs.length
 ab:j.a≠j.b
 pt:0≤j.pt∧j.pt<(bs.getD j.a.toNat default).pts.length
 on:0≤j.on∧j.on<(bs.getD j.b.toNat default).pts.length
 to:j.kind≠0→0≤j.to∧j.to<(bs.getD j.b.toNat default).pts.length
structure LkG (l:Lkg):Prop where
 b1:0<l.bodies.length
 b8:l.bodies.length≤8
 j16:l.joints.length≤16
 p: ∀i,i<l.bodies.length→ ∀k,k<(l.bodies.getD i default).pts.length→((l.bodies.getD i default).pts.getD k default).x.okB=true∧((l.bodies.getD i default).pts.getD k default).y.okB=true
 j: ∀i,i<l.joints.length→GA l.bodies (l.joints.getD i default)
theorem xp{i:Int}{n:Nat}(h:gL i n=true):0≤i∧i<n:=of_decide_eq_true h
theorem EI{a b:Bool}(h: ¬(a&&b)=false):a=true∧b=true:=by cases a<;>cases b<;>simp_all
theorem F9{l:Lkg}(h:tD l=0):LkG l:=by
 unfold tD at h;split at h
 · cases h
 split at h
 · cases h
 rename_i h2;split at h
 · cases h
 rename_i h3;split at h
 · rename_i h4;exact absurd h h4
 rename_i h4;split at h
 · rename_i h5;exact absurd h h5
 rename_i h5;have h4:br l.bodies=0:=Decidable.not_not.1 h4;have h5:cQ l.bodies l.joints=0:=Decidable.not_not.1 h5;unfold br at h4;unfold cQ at h5;split at h5
 · cases h5
 rename_i h6;refine⟨List.length_pos_iff.2 h2,by omega,by omega,fun i hi k hk=>?_,fun i hi=>?_⟩
 · have:=AJ h4 i (Nat.zero_le _) (by omega);unfold eI at this;split at this
   · cases this
   split at this
   · cases this
   unfold oU at this;split at this
   · cases this
   have:=AJ this k (Nat.zero_le _) (by omega);unfold qz at this;split at this
   · cases this
   split at this
   · cases this
   split at this
   · assumption
   · cases this
 · have:=AJ h5 i (Nat.zero_le _) (by omega);unfold du at this;split at this
   · cases this
   split at this
   · cases this
   generalize l.joints.getD i default=j at this;unfold jE at this;split at this
   · cases this
   rename_i g1;split at this
   · cases this
   rename_i g2;split at this
   · cases this
   rename_i g3;split at this
   · cases this
   rename_i g4;obtain ⟨a1,a2⟩:=EI g2;obtain ⟨a3,a4⟩:=EI g4
   have hk:j.kind=0∨j.kind=1:=by
    by_cases e:j.kind=0
    · exact .inl e
    · by_cases e2:j.kind=1
      · exact .inr e2
      · exact absurd ⟨e,e2⟩ g1
   refine⟨hk,xp a1,xp a2,g3,xp a3,xp a4,fun hne=>?_⟩;rw[if_neg hne] at this;split at this
   · cases this
   rename_i g5
   have:gL j.to (l.bodies.getD j.b.toNat default).pts.length=true:=by
    cases hv:gL j.to (l.bodies.getD j.b.toNat default).pts.length
    · exact absurd hv g5
    · rfl
   exact xp this
def zI(p:dL):C6:=⟨aC p.c,aC p.s,aC p.x,aC p.y⟩
instance:Inhabited C6:=⟨⟨[],[],[],[]⟩⟩
structure Gv (l:Lkg) (a:Asm):Prop where
 lk:LkG l
 tw:cJ a.rt=0
 ln:a.bodies.length=l.bodies.length
 pl: ∀i,i<a.bodies.length→ub a.rt (a.bodies.getD i default)=0
theorem u6{l:Lkg}{a:Asm}(h:fD l a=0):Gv l a:=by
 unfold fD at h;split at h
 · rename_i h0;exact absurd h h0
 rename_i h0;split at h
 · rename_i h1;exact absurd h h1
 rename_i h1;split at h
 · cases h
 rename_i h2;exact⟨F9 (Decidable.not_not.1 h0),Decidable.not_not.1 h1,Decidable.not_not.1 h2,fun i hi=>AJ h i (Nat.zero_le _) (by omega)⟩
theorem BQ{m:Nat}{rt:List (List RD)}{p:dL}(m1:1≤m)(hp:p.ok m rt)(h:ub rt p=0):(zI p).ok rt.length m∧p.D=(zI p).D:=by
 have g:=fun k (hk:k<4)=>AJ (f:=Au rt p) (m:=4) (i:=0) h k (Nat.zero_le _) (by omega);have c:=hC m1 hp.c (g 0 (by decide));have s:=hC m1 hp.s (g 1 (by decide));have x:=hC m1 hp.x (g 2 (by decide));have y:=hC m1 hp.y (g 3 (by decide));refine⟨⟨⟨c.1,c.2.1⟩,⟨s.1,s.2.1⟩,⟨x.1,x.2.1⟩,⟨y.1,y.2.1⟩⟩,?_⟩;show D.ag [a9 p.c,a9 p.s,a9 p.x,a9 p.y]=_;rw[c.2.2,s.2.2,x.2.2,y.2.2];rfl
def qC(v:List NQ)(l:Lkg)(a:Asm)(b p:Int):NQ:=FB v (zI (a.bodies.getD b.toNat default)) (np ((l.bodies.getD b.toNat default).pts.getD p.toNat default).x.val) (np ((l.bodies.getD b.toNat default).pts.getD p.toNat default).y.val)
def qA(v:List NQ)(l:Lkg)(a:Asm)(b p:Int):NQ:=FA v (zI (a.bodies.getD b.toNat default)) (np ((l.bodies.getD b.toNat default).pts.getD p.toNat default).x.val) (np ((l.bodies.getD b.toNat default).pts.getD p.toNat default).y.val)
def iZ(n:Nat):List NQ:=List.replicate (3*(n-1)) []
def Ao(v:List NQ)(r:List NQ)(a b:Int)(px py qx qy rx ry:NQ):List NQ :=
 aN (aN r a (fB qy ry) (fB rx qx) (fB (fV v (fB rx qx) px) (fV v (fB qy ry) py))) b (aH (fB qy ry)) (aH (fB rx qx)) (aH (fB (fV v (fB rx qx) px) (fV v (fB qy ry) py)))
def BS(r:List NQ)(a b:Int)(py qy:NQ):List NQ:=aN (aN r a [1] [] (aH py)) b (aH [1]) [] qy
def BR(r:List NQ)(a b:Int)(px qx:NQ):List NQ:=aN (aN r a [] [1] px) b [] (aH [1]) (aH qx)
def Ch(v:List NQ)(l:Lkg)(a:Asm)(j:bp):List (List NQ) :=
 if j.kind=1 then [Ao v (iZ l.bodies.length) j.a j.b (qC v l a j.a j.pt) (qA v l a j.a j.pt) (qC v l a j.b j.on) (qA v l a j.b j.on) (qC v l a j.b j.to) (qA v l a j.b j.to)]
 else [BS (iZ l.bodies.length) j.a j.b (qA v l a j.a j.pt) (qA v l a j.b j.on),BR (iZ l.bodies.length) j.a j.b (qC v l a j.a j.pt) (qC v l a j.b j.on)]
def AU(j:bp):Nat:=if j.kind=1 then 1 else 2
theorem DX(v:List NQ)(l:Lkg)(a:Asm)(j:bp):(Ch v l a j).length=AU j:=by
 unfold Ch AU;split<;>rfl
def iO(v:List NQ)(l:Lkg)(a:Asm):Nat→List (List NQ)
 | 0=>[]
 | i+1=>iO v l a i++Ch v l a (l.joints.getD i default)
def Ep(js:List bp):Nat→List Int
 | 0=>[]
 | i+1=>Ep js i++List.replicate (AU (js.getD i default)) (i:Int)
theorem l7(v:List NQ)(l:Lkg)(a:Asm): ∀i,(iO v l a i).length≤2*i
 | 0=>Nat.zero_le _
 | i+1=>by
   have h1:=l7 v l a i;have h2:=DX v l a (l.joints.getD i default);have h3:AU (l.joints.getD i default)≤2:=by unfold AU;split<;>omega
   show (iO v l a i++_).length≤_;rw[List.length_append,h2];omega
theorem zL(js:List bp): ∀i,(Ep js i).length≤2*i
 | 0=>Nat.zero_le _
 | i+1=>by
   have h1:=zL js i;have h3:AU (js.getD i default)≤2:=by unfold AU;split<;>omega
   show (Ep js i++_).length≤_;rw[List.length_append,List.length_replicate];omega
abbrev pC(r:List NQ):D:= .sl 1 (cH r)
abbrev Gt(m:List (List NQ)):D:= .sl 1 (m.map pC)
def zB(l:Lkg)(a:Asm):D:=if fD l a≠0 then .tu [.sl 1 [],.sl 1 [],ml (fD l a)] else .tu [Gt (iO (a.rt.map aC) l a l.joints.length),.sl 1 ((Ep l.joints l.joints.length).map (fun n=>dI n)),aq]
theorem nG(n:Nat):(iZ n).length=3*(n-1):=List.length_replicate
end Lift
namespace Lift
open Go Go.Proofs
section
open Go.RowKit (Below)
variable {P:Program} {T:Ty} {B:Nat} {F0:Nat→Prop} {w0:bV} {n:Nat} {σ:St} {all:Array Oper} {rest:List Oper} {o:Oper} {d:Nat} {K:St→Prop}
theorem aa.Ca(hT:bb P T)(r:List NQ){z e:Nat}{te:TI}{m:Int}(hd:o.dst=some d)(hdn:Nat.ble (d+1) n=true)(hg:aA all σ o=true)(hx:FO T σ.get o.op=some (e,te,m))(hz:kl te=true)(hzd:q8 te= .sl 3 [])(hb:te.bytes=24)(hm:m=(z:Int))(h1:z≤1000000)(hr:r=List.replicate z [])
  (h:aa P B F0 w0 n all rest K ((d,.ow e (cH r))::σ.kill d)):aa P B F0 w0 n all (o::rest) K σ:=by
 subst hm;subst hr;refine aa.make hT hd hdn hg hx hz (by omega) (by rw[hb];omega) (by omega) ?_;rw[hzd,show List.replicate ((z:Int)).toNat (D.sl 3 [])=cH (List.replicate z []) by unfold cH;rw[List.map_replicate];rfl];exact h
end
set_option maxHeartbeats 6400000 in
theorem pS(l:Lkg)(a:Asm)(hl:l.ok 16)(ha:a.ok 16)(h2:a.rt.length≤2)(hnb:l.bodies.length≤1000000000000):Pure Tryz.prog 32 [l.D,a.D] (zB l a):=by
 refine qJ 211 Tryz.func32 rfl rfl rfl rfl (by kernel_rfl) (fun B0 F0 w0=>?_);have cC:=vy l a hl (by decide) hnb ha;unfold zB;refine qX 5 rfl ?_;refine qI ?_;refine qX 2 rfl ?_;refine aa.call tok rfl rfl rfl rfl cC ?_;refine qU 1 rfl ?_;refine aa.nil ?_;rcases e1:fD l a with _ | z
 rotate_left
 · rw[if_pos (Nat.succ_ne_zero z)];refine qX 1 rfl ?_;refine aa.err tok rfl rfl rfl rfl rfl ?_;refine aa.nil ?_;refine AW.aB rfl ?_;refine qX 4 rfl ?_;exact qN rfl
 rw[if_neg (by simp)];refine qX 1 rfl ?_;refine aa.err tok rfl rfl rfl rfl rfl ?_;refine aa.nil ?_;refine AW.ar rfl ?_;refine AW.skip ?_;have G:=u6 e1;have V:=iz.of ha.t G.tw;have W:=nA ha.t G.tw;have hvl:(a.rt.map aC).length≤2:=by rw[List.length_map];exact h2
 have hrt:a.rt.map a9=(a.rt.map aC).map ae:=by
  have:=W.eq;simpa using this
 have gP: ∀b:Int,0≤b→b<l.bodies.length→(a.bodies.map dL.D)[b.toNat]?=some (zI (a.bodies.getD b.toNat default)).D∧(zI (a.bodies.getD b.toNat default)).ok (a.rt.map aC).length 16:=fun b b0 b1=>by
  have hln:=G.ln;have hb:b.toNat<a.bodies.length:=by omega
  have h3:=BQ (by decide) (ha.b _ hb) (G.pl _ hb);rw[List.length_map,← h3.2];exact⟨by simp[hb],h3.1⟩
 have gB: ∀b:Int,0≤b→b<l.bodies.length→(l.bodies.map Body.D)[b.toNat]?=some (l.bodies.getD b.toNat default).D:=fun b b0 b1=>by
  exact getM Body.D (by omega)
 have gM: ∀(b p:Int),0≤p→p<(l.bodies.getD b.toNat default).pts.length→((l.bodies.getD b.toNat default).pts.map Mark.D)[p.toNat]?=some ((l.bodies.getD b.toNat default).pts.getD p.toNat default).D:=fun b p p0 p1=>by
  exact getM Mark.D (by omega)
 have cAt: ∀(b p:Int),0≤b→b<l.bodies.length→0≤p→p<(l.bodies.getD b.toNat default).pts.length→Pure Tryz.prog 56 [uz (a.rt.map aC),(zI (a.bodies.getD b.toNat default)).D,((l.bodies.getD b.toNat default).pts.getD p.toNat default).D] (.tu [ae (qC (a.rt.map aC) l a b p),ae (qA (a.rt.map aC) l a b p)]):=fun b p b0 b1 p0 p1=>by
  have hm:=(hl.b b.toNat).2.2 p.toNat;have ho:=G.lk.p b.toNat (by omega) p.toNat (by omega);exact xR V hvl (gP b b0 b1).2 hm.2.1 hm.2.2 ho.1 ho.2
 have sAt: ∀(b p:Int),0≤b→b<l.bodies.length→0≤p→p<(l.bodies.getD b.toNat default).pts.length→(ay (a.rt.map aC).length (qC (a.rt.map aC) l a b p)∧az 1400 (qC (a.rt.map aC) l a b p))∧(ay (a.rt.map aC).length (qA (a.rt.map aC) l a b p)∧az 1400 (qA (a.rt.map aC) l a b p)):=fun b p b0 b1 p0 p1=>by
  have hm:=(hl.b b.toNat).2.2 p.toNat;exact EH V hvl (gP b b0 b1).2 (kz _ (bC hm.2.1 (by decide))) (kz _ (bC hm.2.2 (by decide)))
 have hRs: ∀i,iO (a.rt.map aC) l a (i+1)=iO (a.rt.map aC) l a i++Ch (a.rt.map aC) l a (l.joints.getD i default):=fun i=>rfl;have hR0:iO (a.rt.map aC) l a 0=[]:=rfl;have hRl:=l7 (a.rt.map aC) l a;have hJ: ∀j,Ch (a.rt.map aC) l a j=if j.kind=1 then [Ao (a.rt.map aC) (iZ l.bodies.length) j.a j.b (qC (a.rt.map aC) l a j.a j.pt) (qA (a.rt.map aC) l a j.a j.pt) (qC (a.rt.map aC) l a j.b j.on) (qA (a.rt.map aC) l a j.b j.on) (qC (a.rt.map aC) l a j.b j.to) (qA (a.rt.map aC) l a j.b j.to)] else [BS (iZ l.bodies.length) j.a j.b (qA (a.rt.map aC) l a j.a j.pt) (qA (a.rt.map aC) l a j.b j.on),BR (iZ l.bodies.length) j.a j.b (qC (a.rt.map aC) l a j.a j.pt) (qC (a.rt.map aC) l a j.b j.on)]:=fun j=>rfl
 generalize iO (a.rt.map aC) l a=R at hRs hR0 hRl ⊢;generalize qC (a.rt.map aC) l a=X at cAt sAt hJ;generalize qA (a.rt.map aC) l a=Y at cAt sAt hJ;generalize Ch (a.rt.map aC) l a=J at hRs hJ;have hOs: ∀i,Ep l.joints (i+1)=Ep l.joints i++List.replicate (AU (l.joints.getD i default)) (i:Int):=fun i=>rfl;have hO0:Ep l.joints 0=[]:=rfl;have hOl:=zL l.joints;generalize Ep l.joints=O at hOs hO0 hOl ⊢;have LG:=G.lk;clear e1 G W cC ha;obtain ⟨ln,lb,js,lds⟩:=l;obtain ⟨rt,bs,md⟩:=a;have lb1:=LG.b1;have lb8:=LG.b8;have lj:=LG.j16;have lJ:=LG.j;clear LG;simp only[] at *
 have hD:(Asm.mk rt bs md).D=D.ag [.sl 1 ((rt.map aC).map ae),.sl 4 (bs.map dL.D),.sl 1 (md.map (fun n=>dI n))]:=by
  show D.ag [.sl 1 (rt.map a9),_,_]=_;rw[hrt]
 rw[hD];clear hrt hD;generalize rt.map aC=v at *;refine qX 4 rfl ?_;refine aa.G3 34 rfl ?_;refine qU 1 rfl ?_;refine qK 1 rfl ?_;refine qK 1 rfl ?_;refine qI ?_;refine qX 3 rfl ?_;rw[List.length_map];refine qU 1 rfl ?_;refine aa.nil ?_;refine AW.block ?_;refine AW.aD [2,3,8,9,10,36,37,38] (fun i:Nat=>[(2,.bx [dS ln,ak lb,aj js,ai lds]),(3,.bx [.sl 1 (v.map ae),.sl 4 (bs.map dL.D),.sl 1 (md.map (fun n=>dI n))]),(8,.d (uz v)),(9,.ow 27 ((R i).map pC)),(10,.ow 3 ((O i).map (fun n=>dI n))),(36,.d (aj js)),(37,.d (dI js.length)),(38,.d (dI i))]) (fun i=>i≤js.length) (fun i=>js.length-i) 0 (by show _=([(2,.bx [dS ln,ak lb,aj js,ai lds]),(3,.bx [.sl 1 (v.map ae),.sl 4 (bs.map dL.D),.sl 1 (md.map (fun n=>dI n))]),(8,.d (uz v)),(9,.ow 27 ((R 0).map pC)),(10,.ow 3 ((O 0).map (fun n=>dI n))),(36,.d (aj js)),(37,.d (dI js.length)),(38,.d (dI (0:Nat)))]:St);rw[hR0,hO0];rfl) (Nat.zero_le _) (fun i hi=>?_);refine qX 1 rfl ?_;refine qI ?_;refine AW.cond rfl (fun h=>?_) (fun h=>?_);rotate_left
 · have hii:i=js.length:=by have:=of_decide_eq_false h;have:i≤js.length:=hi;omega
   subst hii;refine AW.exit (AW.seq ?_);refine AW.gO tok 9 rfl rfl ?_;refine AW.gO tok 10 rfl rfl ?_;refine AW.draw aI 8 (by kernel_rfl) ?_;refine qP 3 rfl ?_;refine af.w7 tok rfl rfl rfl rfl rfl ?_;refine qP 4 rfl ?_;refine af.nil ?_;refine qU 1 rfl ?_;exact qN rfl
 have hii:i<js.length:=by have:=of_decide_eq_true h;omega
 have hg:(js.map bp.D)[i]?=some (js.getD i default).D:=by simp[hii]
 have jg:=lJ i hii;have hRi:=hRs i;have hOi:=hOs i;have hRl:=hRl i;have hOl:=hOl i;rw[hJ] at hRi;generalize js.getD i default=j at hg jg hRi hOi;obtain ⟨nm,kd,ja,jp,jb,jo,jt⟩:=j;obtain ⟨jk,⟨a0,a1⟩,⟨b0,b1⟩,ab,⟨p0,p1⟩,⟨o0,o1⟩,jto⟩:=jg;simp only[] at *;have gPa:=(gP ja a0 a1).1;have gPb:=(gP jb b0 b1).1;have gBa:=gB ja a0 a1;have gBb:=gB jb b0 b1;have gMp:=gM ja jp p0 p1;have gMo:=gM jb jo o0 o1;have cA:=cAt ja jp a0 a1 p0 p1;have cB:=cAt jb jo b0 b1 o0 o1;obtain ⟨⟨sx1,sx2⟩,⟨sy1,sy2⟩⟩:=sAt ja jp a0 a1 p0 p1;obtain ⟨⟨tx1,tx2⟩,⟨ty1,ty2⟩⟩:=sAt jb jo b0 b1 o0 o1;refine AW.skip (AW.seq (AW.block ?_));refine qX 1 rfl ?_;refine aa.idx tok (bp.mk nm kd ja jp jb jo jt).D rfl rfl rfl rfl (Int.natCast_nonneg i) hg ?_;refine qU 4 rfl ?_;refine qK 4 rfl ?_;refine aa.idx tok (lb.getD jb.toNat default).D rfl rfl rfl rfl b0 gBb ?_;refine qU 3 rfl ?_;refine qI ?_;refine AW.draw aI 23 (by kernel_rfl) ?_;refine qP 5 rfl ?_;refine af.idx tok (zI (bs.getD ja.toNat default)).D rfl rfl rfl rfl rfl a0 gPa ?_;refine qP 5 rfl ?_;refine af.idx tok (lb.getD ja.toNat default).D rfl rfl rfl rfl rfl a0 gBa ?_;refine qP 4 rfl ?_;refine af.idx tok ((lb.getD ja.toNat default).pts.getD jp.toNat default).D rfl rfl rfl rfl rfl p0 gMp ?_;refine qP 1 rfl ?_;refine af.call tok rfl rfl rfl rfl rfl cA ?_;refine qP 4 rfl ?_;refine af.nil ?_;refine qU 1 rfl ?_;refine qI ?_;refine AW.draw aI 17 (by kernel_rfl) ?_;refine qP 5 rfl ?_;refine af.idx tok (zI (bs.getD jb.toNat default)).D rfl rfl rfl rfl rfl b0 gPb ?_;refine qP 4 rfl ?_;refine af.idx tok ((lb.getD jb.toNat default).pts.getD jo.toNat default).D rfl rfl rfl rfl rfl o0 gMo ?_;refine qP 1 rfl ?_;refine af.call tok rfl rfl rfl rfl rfl cB ?_;refine qP 4 rfl ?_;refine af.nil ?_;refine qU 1 rfl ?_;refine qK 3 rfl ?_;rw[List.length_map];refine qU 1 rfl ?_;rw[au (x:=(lb.length:Int) -1) (by omega) (by omega)];refine qU 1 rfl ?_;rw[au (x:=3*((lb.length:Int) -1)) (by omega) (by omega)];refine aa.Ca tok (iZ lb.length) (z:=3*(lb.length-1)) rfl rfl rfl rfl rfl rfl rfl (by omega) (by omega) rfl ?_;refine qU 1 rfl ?_;refine aa.nil ?_;have hzl:=nG lb.length;have hzr:iZ lb.length=List.replicate (3*(lb.length-1)) []:=rfl;generalize iZ lb.length=Z at hRi hzl hzr ⊢;refine AW.seq ?_;refine qX 3 rfl ?_;refine aa.nil ?_;have ga:0<ja→3*ja.toNat≤Z.length:=fun h=>by rw[hzl];omega
 have gb:0<jb→3*jb.toNat≤Z.length:=fun h=>by rw[hzl];omega
 have V2:=V.mono (k:=1400) (by decide) (by decide);have V3:=V.mono (k:=2801) (by decide) (by decide);have V4:=V.mono (k:=120000) (by decide) (by decide);have V5:=V.mono (k:=240000) (by decide) (by decide);have sT3:=l6 (m:=2801) hvl;by_cases hk1:kd=1
 · rw[if_pos hk1] at hRi;rw[beq_iff_eq.2 hk1];rw[show AU (bp.mk nm kd ja jp jb jo jt)=1 by unfold AU;rw[if_pos hk1]] at hOi;obtain ⟨r0,r1⟩:=jto (by omega);have gMt:=gM jb jt r0 r1;have cT:=cAt jb jt b0 b1 r0 r1;obtain ⟨⟨ux1,ux2⟩,⟨uy1,uy2⟩⟩:=sAt jb jt b0 b1 r0 r1;generalize X ja jp=px at *;generalize Y ja jp=py at *;generalize X jb jo=qx at *;generalize Y jb jo=qy at *;generalize X jb jt=rx at *;generalize Y jb jt=ry at *;have n1:=gG V2 ty1 ty2 uy1 uy2;have n2:=gG V2 ux1 ux2 tx1 tx2;have m1:=eZ ty1 ty2 uy1 uy2;have m2:=eZ ux1 ux2 tx1 tx2;unfold Ao at hRi;generalize fB qy ry=nx at *;generalize fB rx qx=ny at *;have n3:=fi (by omega) V3 m2.1 (m2.2.mono (by decide)) sx1 (sx2.mono (by decide));have n4:=fi (by omega) V3 m1.1 (m1.2.mono (by decide)) sy1 (sy2.mono (by decide));have m3:=cG V3 m2.1 (m2.2.mono (by decide)) sx1 (sx2.mono (by decide));have m4:=cG V3 m1.1 (m1.2.mono (by decide)) sy1 (sy2.mono (by decide));generalize fV v ny px=e1 at *;generalize fV v nx py=e2 at *;have n5:=gG V4 m3.1 (m3.2.mono (by omega)) m4.1 (m4.2.mono (by omega));have m5:=eZ m3.1 m3.2 m4.1 m4.2;generalize fB e1 e2=mm at *;have n6:=fh V5 m1.1 (m1.2.mono (by decide));have n7:=fh V5 m2.1 (m2.2.mono (by decide));have n8:=fh V5 m5.1 (m5.2.mono (by omega));generalize aH nx=nx' at *;generalize aH ny=ny' at *;generalize aH mm=mm' at *;have u1:=fun V=>gp V Z ja nx ny mm ga (by omega) (by omega);have u2:=fun V=>gp V (aN Z ja nx ny mm) jb nx' ny' mm' (by rw[nS _ _ _ ga];exact gb) (by omega) (by omega);refine AW.aB rfl ?_;refine AW.seq ?_;refine AW.draw aI 17 (by kernel_rfl) ?_;refine qP 5 rfl ?_;refine af.idx tok (zI (bs.getD jb.toNat default)).D rfl rfl rfl rfl rfl b0 gPb ?_;refine qP 4 rfl ?_;refine af.idx tok ((lb.getD jb.toNat default).pts.getD jt.toNat default).D rfl rfl rfl rfl rfl r0 gMt ?_;refine qP 1 rfl ?_;refine af.call tok rfl rfl rfl rfl rfl cT ?_;refine qP 4 rfl ?_;refine af.nil ?_;refine qU 1 rfl ?_;refine qK 3 rfl ?_;refine aa.call tok rfl rfl rfl rfl n1 ?_;refine qU 3 rfl ?_;refine aa.call tok rfl rfl rfl rfl n2 ?_;refine qU 2 rfl ?_;refine qK 4 rfl ?_;refine aa.call tok rfl rfl rfl rfl n3 ?_;refine qU 3 rfl ?_;refine aa.call tok rfl rfl rfl rfl n4 ?_;refine aa.call tok rfl rfl rfl rfl n5 ?_;refine qU 1 rfl ?_;refine aa.nil ?_;refine AZ.aw ?_;refine AZ.fL 18 rfl rfl rfl (fun V1=>?_);refine AZ.to [2,3,8,9,10,36,37,38,11,12,18,21,22,23] ([(2,.bx [dS ln,ak lb,aj js,ai lds]),(3,.bx [.sl 1 (v.map ae),.sl 4 (bs.map dL.D),.sl 1 (md.map (fun n=>dI n))]),(8,.d (uz v)),(9,.ow 27 ((R i).map pC)),(10,.ow 3 ((O i).map (fun n=>dI n))),(36,.d (aj js)),(37,.d (dI js.length)),(38,.d (dI i)),(11,.d (dI i)),(12,.bx [dS nm,dI kd,dI ja,dI jp,dI jb,dI jo,dI jt]),(18,.d (.v V1)),(21,.d (ae nx)),(22,.d (ae ny)),(23,.d (ae mm))]:St) rfl ?_;refine AZ.seq ?_;refine AZ.region ?_;refine an.cut 6 rfl (fun B1 F1 w1=>?_);refine qU 6 rfl ?_;refine aa.nil ⟨rfl,?_⟩;refine an.a7 tok [0] rfl rfl rfl rfl rfl (by simp) rfl (u1 V1) (fun res R1 hP=>by rw[hP.2];exact Nat.le_refl _) (fun res R1 hP=>?_);obtain ⟨rfl,rfl⟩:=hP;refine an.nil ?_;refine AZ.to [2,3,8,9,10,36,37,38,11,12,18,21,22,23] ([(2,.bx [dS ln,ak lb,aj js,ai lds]),(3,.bx [.sl 1 (v.map ae),.sl 4 (bs.map dL.D),.sl 1 (md.map (fun n=>dI n))]),(8,.d (uz v)),(9,.ow 27 ((R i).map pC)),(10,.ow 3 ((O i).map (fun n=>dI n))),(36,.d (aj js)),(37,.d (dI js.length)),(38,.d (dI i)),(11,.d (dI i)),(12,.bx [dS nm,dI kd,dI ja,dI jp,dI jb,dI jo,dI jt]),(18,.d (.v V1)),(21,.d (ae nx)),(22,.d (ae ny)),(23,.d (ae mm))]:St) rfl ?_;refine AZ.seq ?_;refine AZ.any aI (iW.draw 12 (by kernel_rfl) (fun B1 F1 w1=>?_));refine qP 5 rfl ?_;refine af.call tok rfl rfl rfl rfl rfl n6 ?_;refine qP 2 rfl ?_;refine af.call tok rfl rfl rfl rfl rfl n7 ?_;refine qP 2 rfl ?_;refine af.call tok rfl rfl rfl rfl rfl n8 ?_;refine af.nil ⟨rfl,?_⟩;refine an.a7 tok [0] rfl rfl rfl rfl rfl (by simp) rfl (u2 V1) (fun res R1 hP=>by rw[hP.2];exact Nat.le_refl _) (fun res R1 hP=>?_);obtain ⟨rfl,rfl⟩:=hP;refine an.nil ?_;refine AZ.to [2,3,8,9,10,36,37,38,11,12,18,21,22,23] ([(2,.bx [dS ln,ak lb,aj js,ai lds]),(3,.bx [.sl 1 (v.map ae),.sl 4 (bs.map dL.D),.sl 1 (md.map (fun n=>dI n))]),(8,.d (uz v)),(9,.ow 27 ((R i).map pC)),(10,.ow 3 ((O i).map (fun n=>dI n))),(36,.d (aj js)),(37,.d (dI js.length)),(38,.d (dI i)),(11,.d (dI i)),(12,.bx [dS nm,dI kd,dI ja,dI jp,dI jb,dI jo,dI jt]),(18,.d (.v V1)),(21,.d (ae nx)),(22,.d (ae ny)),(23,.d (ae mm))]:St) rfl ?_;refine AZ.seq ?_;refine AZ.cy 18 0 rfl rfl rfl ?_;refine AZ.dm (fun B1 F1 w1=>?_);refine aa.gO tok 18 rfl rfl ?_;refine qU 2 rfl ?_;refine aa.bs tok rfl rfl rfl rfl ?_;refine aa.kI tok rfl rfl rfl rfl rfl rfl (by rw[List.length_map];show (_+1)*24≤_;omega) (by rw[List.length_map];show _+1≤_;omega) ?_;refine qU 2 rfl ?_;refine aa.bs tok rfl rfl rfl rfl ?_;refine aa.kI tok rfl rfl rfl rfl rfl rfl (by rw[List.length_map];show (_+1)*8≤_;omega) (by rw[List.length_map];show _+1≤_;omega) ?_;refine qU 2 rfl ?_;refine aa.nil ⟨rfl,?_⟩;refine AZ.exit ?_;refine qT 1 rfl ?_;rw[au (x:=(i:Int)+1) (by omega) (by omega)];refine qU 1 rfl ?_;refine aa.nil ?_;exact⟨i+1,by show _=([(2,.bx [dS ln,ak lb,aj js,ai lds]),(3,.bx [.sl 1 (v.map ae),.sl 4 (bs.map dL.D),.sl 1 (md.map (fun n=>dI n))]),(8,.d (uz v)),(9,.ow 27 ((R (i+1)).map pC)),(10,.ow 3 ((O (i+1)).map (fun n=>dI n))),(36,.d (aj js)),(37,.d (dI js.length)),(38,.d (dI (i+1:Nat)))]:St);rw[hRi,hOi,List.map_append,List.map_append];rfl,hii,by omega⟩
 rw[if_neg hk1] at hRi;rw[beq_eq_false_iff_ne.2 hk1];rw[show AU (bp.mk nm kd ja jp jb jo jt)=2 by unfold AU;rw[if_neg hk1]] at hOi;generalize X ja jp=px at *;generalize Y ja jp=py at *;generalize X jb jo=qx at *;generalize Y jb jo=qy at *;have o1:=kz v.length (q:=1) (k:=1) (by have:=eO;omega);have n6:=fh V2 sy1 sy2;have n7:=fh V2 tx1 tx2;have n8:Pure Tryz.prog 60 [uz v,ae [1]] (ae (aH [1])):=fh V2 (dA _ _) (dZ (by have:=eO;omega));unfold BS BR at hRi;generalize aH py=py' at *;generalize aH qx=qx' at *;generalize aH [1]=on' at *;have u1:=fun V=>gp V Z ja [1] [] py' ga (by omega) (by omega);have u2:=fun V=>gp V (aN Z ja [1] [] py') jb on' [] qy (by rw[nS _ _ _ ga];exact gb) (by omega) (by omega);have u3:=fun V=>gp V Z ja [] [1] px ga (by omega) (by omega);have u4:=fun V=>gp V (aN Z ja [] [1] px) jb [] on' qx' (by rw[nS _ _ _ ga];exact gb) (by omega) (by omega);refine AW.ar rfl ?_;refine AW.skip ?_;refine qX 2 rfl ?_;rw[List.length_map,hzl];refine aa.Ca tok Z (z:=3*(lb.length-1)) rfl rfl rfl rfl rfl rfl rfl rfl (by omega) hzr ?_;refine qU 1 rfl ?_;refine aa.nil ?_;refine AZ.aw ?_;refine AZ.fL 18 rfl rfl rfl (fun V1=>?_);refine AZ.fL 24 rfl rfl rfl (fun V2=>?_);refine AZ.to [2,3,8,9,10,36,37,38,11,12,14,15,16,17,18,24] ([(2,.bx [dS ln,ak lb,aj js,ai lds]),(3,.bx [.sl 1 (v.map ae),.sl 4 (bs.map dL.D),.sl 1 (md.map (fun n=>dI n))]),(8,.d (uz v)),(9,.ow 27 ((R i).map pC)),(10,.ow 3 ((O i).map (fun n=>dI n))),(36,.d (aj js)),(37,.d (dI js.length)),(38,.d (dI i)),(11,.d (dI i)),(12,.bx [dS nm,dI kd,dI ja,dI jp,dI jb,dI jo,dI jt]),(14,.d (ae px)),(15,.d (ae py)),(16,.d (ae qx)),(17,.d (ae qy)),(18,.d (.v V1)),(24,.d (.v V2))]:St) rfl ?_;refine AZ.seq ?_;refine AZ.any aI (iW.draw 7 (by kernel_rfl) (fun B1 F1 w1=>?_));refine qP 3 rfl ?_;refine af.call tok rfl rfl rfl rfl rfl kB ?_;refine qP 2 rfl ?_;refine af.call tok rfl rfl rfl rfl rfl n6 ?_;refine af.nil ⟨rfl,?_⟩;refine an.a7 tok [0] rfl rfl rfl rfl rfl (by simp) rfl (u1 V1) (fun res R1 hP=>by rw[hP.2];exact Nat.le_refl _) (fun res R1 hP=>?_);obtain ⟨rfl,rfl⟩:=hP;refine an.nil ?_;refine AZ.to [2,3,8,9,10,36,37,38,11,12,14,15,16,17,18,24] ([(2,.bx [dS ln,ak lb,aj js,ai lds]),(3,.bx [.sl 1 (v.map ae),.sl 4 (bs.map dL.D),.sl 1 (md.map (fun n=>dI n))]),(8,.d (uz v)),(9,.ow 27 ((R i).map pC)),(10,.ow 3 ((O i).map (fun n=>dI n))),(36,.d (aj js)),(37,.d (dI js.length)),(38,.d (dI i)),(11,.d (dI i)),(12,.bx [dS nm,dI kd,dI ja,dI jp,dI jb,dI jo,dI jt]),(14,.d (ae px)),(15,.d (ae py)),(16,.d (ae qx)),(17,.d (ae qy)),(18,.d (.v V1)),(24,.d (.v V2))]:St) rfl ?_;refine AZ.seq ?_;refine AZ.any aI (iW.draw 7 (by kernel_rfl) (fun B1 F1 w1=>?_));refine qP 4 rfl ?_;refine af.call tok rfl rfl rfl rfl rfl kB ?_;refine af.call tok rfl rfl rfl rfl rfl n8 ?_;refine qP 1 rfl ?_;refine af.nil ⟨rfl,?_⟩;refine an.a7 tok [0] rfl rfl rfl rfl rfl (by simp) rfl (u2 V1) (fun res R1 hP=>by rw[hP.2];exact Nat.le_refl _) (fun res R1 hP=>?_);obtain ⟨rfl,rfl⟩:=hP;refine an.nil ?_;refine AZ.to [2,3,8,9,10,36,37,38,11,12,14,15,16,17,18,24] ([(2,.bx [dS ln,ak lb,aj js,ai lds]),(3,.bx [.sl 1 (v.map ae),.sl 4 (bs.map dL.D),.sl 1 (md.map (fun n=>dI n))]),(8,.d (uz v)),(9,.ow 27 ((R i).map pC)),(10,.ow 3 ((O i).map (fun n=>dI n))),(36,.d (aj js)),(37,.d (dI js.length)),(38,.d (dI i)),(11,.d (dI i)),(12,.bx [dS nm,dI kd,dI ja,dI jp,dI jb,dI jo,dI jt]),(14,.d (ae px)),(15,.d (ae py)),(16,.d (ae qx)),(17,.d (ae qy)),(18,.d (.v V1)),(24,.d (.v V2))]:St) rfl ?_;refine AZ.seq ?_;refine AZ.any aI (iW.draw 5 (by kernel_rfl) (fun B1 F1 w1=>?_));refine qP 3 rfl ?_;refine af.call tok rfl rfl rfl rfl rfl kB ?_;refine qP 1 rfl ?_;refine af.nil ⟨rfl,?_⟩;refine an.a7 tok [1] rfl rfl rfl rfl rfl (by simp) rfl (u3 V2) (fun res R1 hP=>by rw[hP.2];exact Nat.le_refl _) (fun res R1 hP=>?_);obtain ⟨rfl,rfl⟩:=hP;refine an.nil ?_;refine AZ.to [2,3,8,9,10,36,37,38,11,12,14,15,16,17,18,24] ([(2,.bx [dS ln,ak lb,aj js,ai lds]),(3,.bx [.sl 1 (v.map ae),.sl 4 (bs.map dL.D),.sl 1 (md.map (fun n=>dI n))]),(8,.d (uz v)),(9,.ow 27 ((R i).map pC)),(10,.ow 3 ((O i).map (fun n=>dI n))),(36,.d (aj js)),(37,.d (dI js.length)),(38,.d (dI i)),(11,.d (dI i)),(12,.bx [dS nm,dI kd,dI ja,dI jp,dI jb,dI jo,dI jt]),(14,.d (ae px)),(15,.d (ae py)),(16,.d (ae qx)),(17,.d (ae qy)),(18,.d (.v V1)),(24,.d (.v V2))]:St) rfl ?_;refine AZ.seq ?_;refine AZ.any aI (iW.draw 9 (by kernel_rfl) (fun B1 F1 w1=>?_));refine qP 4 rfl ?_;refine af.call tok rfl rfl rfl rfl rfl kB ?_;refine af.call tok rfl rfl rfl rfl rfl n8 ?_;refine qP 2 rfl ?_;refine af.call tok rfl rfl rfl rfl rfl n7 ?_;refine af.nil ⟨rfl,?_⟩;refine an.a7 tok [1] rfl rfl rfl rfl rfl (by simp) rfl (u4 V2) (fun res R1 hP=>by rw[hP.2];exact Nat.le_refl _) (fun res R1 hP=>?_);obtain ⟨rfl,rfl⟩:=hP;refine an.nil ?_;refine AZ.to [2,3,8,9,10,36,37,38,11,12,14,15,16,17,18,24] ([(2,.bx [dS ln,ak lb,aj js,ai lds]),(3,.bx [.sl 1 (v.map ae),.sl 4 (bs.map dL.D),.sl 1 (md.map (fun n=>dI n))]),(8,.d (uz v)),(9,.ow 27 ((R i).map pC)),(10,.ow 3 ((O i).map (fun n=>dI n))),(36,.d (aj js)),(37,.d (dI js.length)),(38,.d (dI i)),(11,.d (dI i)),(12,.bx [dS nm,dI kd,dI ja,dI jp,dI jb,dI jo,dI jt]),(14,.d (ae px)),(15,.d (ae py)),(16,.d (ae qx)),(17,.d (ae qy)),(18,.d (.v V1)),(24,.d (.v V2))]:St) rfl ?_;refine AZ.cy 18 0 rfl rfl rfl ?_;refine AZ.cy 24 1 rfl rfl rfl ?_;refine AZ.dm (fun B1 F1 w1=>?_);refine aa.gO tok 18 rfl rfl ?_;refine aa.gO tok 24 rfl rfl ?_;refine qU 3 rfl ?_;refine aa.bs tok rfl rfl rfl rfl ?_;refine aa.kI tok rfl rfl rfl rfl rfl rfl (by rw[List.length_map];show (_+2)*24≤_;omega) (by rw[List.length_map];show _+2≤_;omega) ?_;refine qU 3 rfl ?_;refine aa.bs tok rfl rfl rfl rfl ?_;refine aa.kI tok rfl rfl rfl rfl rfl rfl (by rw[List.length_map];show (_+2)*8≤_;omega) (by rw[List.length_map];show _+2≤_;omega) ?_;refine qU 2 rfl ?_;refine aa.nil ⟨rfl,?_⟩;refine qT 1 rfl ?_;rw[au (x:=(i:Int)+1) (by omega) (by omega)];refine qU 1 rfl ?_;refine aa.nil ?_;exact⟨i+1,by show _=([(2,.bx [dS ln,ak lb,aj js,ai lds]),(3,.bx [.sl 1 (v.map ae),.sl 4 (bs.map dL.D),.sl 1 (md.map (fun n=>dI n))]),(8,.d (uz v)),(9,.ow 27 ((R (i+1)).map pC)),(10,.ow 3 ((O (i+1)).map (fun n=>dI n))),(36,.d (aj js)),(37,.d (dI js.length)),(38,.d (dI (i+1:Nat)))]:St);rw[hRi,hOi,List.map_append,List.map_append];rfl,hii,by omega⟩
end Lift
namespace Lift
open Go Go.Proofs
def vC(R:NQ→NQ)(S:NQ→Int)(N:NQ→NQ)(T:NQ→NQ→NQ)(s:NQ):NQ :=
 if s.length=1 then [1 / s.getD 0 0] else
 if S (N s)=0 then R (bh (s.take (s.length / 2)) (s.take (s.length / 2))) else
 T (fZ (s.take (s.length / 2)) (aY (s.drop (s.length / 2))) (s.length / 2)) (R (N s))
def tC:Nat→List NQ→NQ→NQ
 | 0,rt,a=>vC (fun _=>[]) (fun _=>0) (fun a=>a) (fun _ _=>[]) (aG a)
 | l+1,rt,a=>vC (tC l rt) (eG l rt) (ig l rt) (bc (l+1) rt) (aG a)
def F5(O:NQ→Prop)(R:NQ→NQ)(S:NQ→Int)(Sk:NQ→Prop)(N:NQ→NQ)(Nk:NQ→Prop)(Tk:NQ→NQ→Prop)(s:NQ):Prop:=s.length≠0∧(s.length≠1 →
 Nk s∧Sk (N s)∧(S (N s)=0→O (bh (s.take (s.length / 2)) (s.take (s.length / 2)))) ∧
 (S (N s)≠0→O (N s)∧Tk (fZ (s.take (s.length / 2)) (aY (s.drop (s.length / 2))) (s.length / 2)) (R (N s))))
def GI:Nat→List NQ→NQ→Prop
 | 0,rt,a=>mM a∧(aG a).length≠0
 | l+1,rt,a=>mM a∧F5 (GI l rt) (tC l rt) (eG l rt) (BY l rt) (ig l rt) (Fa l rt) (zJ (l+1) rt) (aG a)
theorem Aq{l:Nat}{a:NQ}(ha:ay l a)(h:(aG a).length=1):(aG a).getD 0 0≠0:=(lr ha).one h
theorem zV{l:Nat}{R:NQ→NQ}{S:NQ→Int}{N:NQ→NQ}{T:NQ→NQ→NQ}{s:NQ}(hs:ay l s)(h0:s.length≠0)
  (hR: ∀l',l=l'+1→ ∀b,ay l' b→ay l' (R b)) (hN: ∀l',l=l'+1→ ∀j,j≤l'→s.length=2^(j+1)→ay l' (N s)) (hT: ∀b c,ay l b→ay l c→ay l (T b c)):ay l (vC R S N T s):=by
 unfold vC;split
 · exact dA _ _
 rename_i h1
 obtain ⟨i,hi,hla2⟩: ∃i,i≤l∧s.length=2^i:=by
  rcases hs with e | e
  · omega
  · exact e
 have vX:i≠0:=fun e=>h1 (by rw[hla2,e]);obtain ⟨j,rfl⟩: ∃j,i=j+1:=⟨i-1,by omega⟩;obtain ⟨l',rfl⟩: ∃l',l=l'+1:=⟨l-1,by omega⟩;obtain ⟨e1,e2,e3⟩:=bG hla2;have hx:ay l' (s.take (s.length / 2)):= .inr ⟨j,by omega,e1⟩;have hN:=hN l' rfl j (by omega) hla2;split
 · exact(hR l' rfl _ (hx.plus hx)).mono (by omega)
 · exact hT _ _ (.inr ⟨j+1,by omega,by rw[iG,e3,Nat.pow_succ];omega⟩) ((hR l' rfl _ hN).mono (by omega))
theorem pf: ∀(l:Nat) {rt:List NQ} {a:NQ},ay l a→db rt→l≤rt.length→ay l (tC l rt a)
 | 0,rt,a,ha,hrt,hl=>by
   have hs:=b6 ha;show ay 0 (vC _ _ _ _ _);by_cases h0:(aG a).length=0
   · rw[List.length_eq_zero_iff.1 h0];exact bY _
   · exact zV hs h0 (fun l' h=>by omega) (fun l' h=>by omega) (fun _ _ _ _=>bY _)
 | l+1,rt,a,ha,hrt,hl=>by
   have hs:=b6 ha;show ay (l+1) (vC _ _ _ _ _);by_cases h0:(aG a).length=0
   · rw[List.length_eq_zero_iff.1 h0];unfold vC;rw[if_neg (by decide)];split
     · exact(pf l (bY _) hrt (by omega)).mono (by omega)
     · exact eS (l+1) (bY _) ((pf l (by
        obtain ⟨K,k1,_,k3⟩:=tP (ig l rt []) [] rt;unfold ig
        have t0: ∀c,ay l (bc l rt c []):=fun c=>by
         cases l with
         | zero=>show ay 0 (jM _ c []);unfold jM;rw[if_neg (show ¬c.length<([]:NQ).length from Nat.not_lt_zero _)];unfold iT;rw[if_pos (by show (bg c||true)=true;rw[Bool.or_true])];exact bY _
         | succ l=>show ay (l+1) (jM _ c []);unfold jM;rw[if_neg (show ¬c.length<([]:NQ).length from Nat.not_lt_zero _)];unfold iT;rw[if_pos (by show (bg c||true)=true;rw[Bool.or_true])];exact bY _
        have e:rt.getD (Nat.log2 ([]:NQ).length-1) []=rt.getD 0 []:=rfl;have hd:ay l (rt.getD 0 []):= .inr ⟨0,Nat.zero_le _,hrt 0 (by omega)⟩
        exact(t0 []).plus (eS l (t0 []) hd hrt (by omega)).minus) hrt (by omega)).mono (by omega)) hrt hl
   · exact zV hs h0 (fun l' e b hb=>by
      obtain rfl:l=l':=by omega
      exact pf l hb hrt (by omega)) (fun l' e j h1 h2=>by
      obtain rfl:l=l':=by omega
      exact vp h1 h2 hrt (by omega)) (fun b c hb hc=>eS (l+1) hb hc hrt hl)
set_option maxHeartbeats 1600000 in
theorem xo{l:Nat}{O:NQ→Prop}{R:NQ→NQ}{S:NQ→Int}{Sk:NQ→Prop}{N:NQ→NQ}{Nk:NQ→Prop}{T:NQ→NQ→NQ}{Tk:NQ→NQ→Prop}{rt:List NQ}{a:NQ}(ha:ay l a)(hl5:l≤5)(hl:l≤rt.length)(hl10:rt.length≤10)(sa:mM a)(h0:(aG a).length≠0)
  (hok:l≠0→F5 O R S Sk N Nk Tk (aG a))
  (hR: ∀l',l=l'+1→ ∀b,ay l' b→O b→Pure Tryz.prog 175 [aL rt,ae b] (ae (R b)))
  (hRl: ∀l',l=l'+1→ ∀b,ay l' b→ay l' (R b))
  (hS: ∀l',l=l'+1→ ∀b,ay l' b→Sk b→Pure Tryz.prog 45 [aL rt,ae b] (dI (S b)))
  (hN: ∀l',l=l'+1→ ∀b j,j≤l'→b.length=2^(j+1)→Nk b→Pure Tryz.prog 87 [aL rt,ae b] (ae (N b))∧ay l' (N b))
  (hT: ∀b c,ay l b→ay l c→Tk b c→Pure Tryz.prog 128 [aL rt,ae b,ae c] (ae (T b c))):
  Pure Tryz.prog 175 [aL rt,ae a] (ae (vC R S N T (aG a))):=by
 refine qJ 57 Tryz.func175 rfl rfl rfl rfl (by kernel_rfl) (fun B F0 w0=>?_);have cs:=bm a ha hl5 sa (by omega);have hone:=Aq ha;obtain ⟨ha,sa⟩:=bk ha sa;generalize aG a=b at cs ha sa hok hone h0 ⊢;have hlb:=ha.len (by omega);unfold vC;refine qX 2 rfl ?_;refine qK 1 rfl ?_;refine aa.call tok rfl rfl rfl rfl cs ?_;refine qU 1 rfl ?_;refine qI ?_;refine qX 2 rfl ?_;rw[List.length_map];refine qU 1 rfl ?_;refine aa.nil ?_;by_cases h1:b.length=1
 · have g:=kY (r:=b) (i:=0) (by omega);have cq:=qp (Qr 1) (Qr (b.getD 0 0)) (eN 1 (by have:=eO;omega)) (eN _ (sa 0)) (by omega) (by rw[bH];exact hone h1);rw[bH,bH] at cq;rw[if_pos h1,beq_iff_eq.2 (show (b.length:Int)=1 by omega)];refine AW.aB rfl ?_;refine AW.seq ?_;refine AW.lV tok aI [(7,true),(1,false),(1,true)] 9 [5] (by kernel_rfl) ⟨rfl,?_⟩;refine af.call tok rfl rfl rfl rfl rfl (fQ 1 (by decide) (by decide)) ?_;refine qP 1 rfl ?_;refine af.idx tok (Qr (b.getD 0 0)).D rfl rfl rfl rfl rfl (Int.le_refl _) g ?_;refine qP 1 rfl ?_;refine af.call tok rfl rfl rfl rfl rfl cq ?_;refine qP 2 rfl ?_;refine af.nil ⟨rfl,?_⟩;refine qP 1 rfl ?_;refine af.nil ⟨rfl,?_⟩;refine qP 1 rfl ?_;refine af.nil ⟨_,k5.cons (.bx rfl) (k5.nil),?_⟩;refine qU 1 rfl ?_;refine qK 1 rfl ?_;refine aa.kc tok rfl rfl rfl rfl rfl ?_;refine qU 1 rfl ?_;exact qN rfl
 rw[if_neg h1,beq_eq_false_iff_ne.2 (show (b.length:Int)≠1 by omega)];refine AW.ar rfl ?_;refine AW.skip ?_
 obtain ⟨i,hi,hla2⟩: ∃i,i≤l∧b.length=2^i:=by
  rcases ha with e | e
  · omega
  · exact e
 have vX:i≠0:=fun e=>h1 (by rw[hla2,e]);obtain ⟨j,rfl⟩: ∃j,i=j+1:=⟨i-1,by omega⟩;obtain ⟨l',rfl⟩: ∃l',l=l'+1:=⟨l-1,by omega⟩;have hj:j≤l':=by omega
 obtain ⟨_,o1⟩:=hok (by omega);obtain ⟨oN,oS,oz,oi⟩:=o1 h1;have hN:=hN l' rfl b j hj hla2 oN;have hS:=hS l' rfl _ hN.2 oS;obtain ⟨e1,e2,e3⟩:=bG hla2;obtain ⟨n,hn⟩: ∃n,n=b.length / 2:=⟨_,rfl⟩;rw[← hn] at e1 e2 e3 oz oi ⊢
 have hn2:b.length=n+n:=by
  have:2^(j+1)=2^j*2:=Nat.pow_succ ..;omega
 have hx:ay l' (b.take n):= .inr ⟨j,hj,e1⟩;have hy:ay l' (b.drop n):= .inr ⟨j,hj,e2⟩;refine qX 2 rfl ?_;rw[List.length_map];refine aa.div tok rfl rfl rfl rfl (by decide) ?_;rw[f' _ (by omega),← hn];refine qU 1 rfl ?_;refine qK 2 rfl ?_;refine aa.call tok rfl rfl rfl rfl hN.1 ?_;refine qU 1 rfl ?_;refine qI ?_;refine qX 2 rfl ?_;refine aa.call tok rfl rfl rfl rfl hS ?_;refine qU 1 rfl ?_;refine aa.nil ?_;by_cases hz:S (N b)=0
 · have ci:=hR l' rfl _ (hx.plus hx) (oz hz);have cp:=cW (b.take n) (b.take n) (sa.take n) (sa.take n) (by omega) (by rw[e1];omega) (by rw[e1];omega);rw[if_pos hz,beq_iff_eq.2 hz];refine AW.aB rfl ?_;refine AW.seq ?_;refine AW.draw aI 9 (by kernel_rfl) ?_;refine qP 3 rfl ?_;refine af.fC tok (a:=b) (b.take n) rfl rfl rfl rfl rfl trivial (Int.natCast_nonneg n) (Nat.zero_le _) (show n≤b.length by omega) rfl ?_;refine qP 2 rfl ?_;refine af.fC tok (a:=b) (b.take n) rfl rfl rfl rfl rfl trivial (Int.natCast_nonneg n) (Nat.zero_le _) (show n≤b.length by omega) rfl ?_;refine af.call tok rfl rfl rfl rfl rfl cp ?_;refine af.call tok rfl rfl rfl rfl rfl ci ?_;refine af.nil ?_;refine qU 1 rfl ?_;exact qN rfl
 obtain ⟨o2,o3⟩:=oi hz;have ci:=hR l' rfl _ hN.2 o2;have cm:=dY (b.drop n) (sa.drop n) (by omega) (by rw[e2];omega);have cj:=jD (b.take n) (aY (b.drop n)) n (by omega);have ct:=hT _ _ (.inr ⟨j+1,by omega,by rw[iG,e3,Nat.pow_succ];omega⟩) ((hRl l' rfl _ hN.2).mono (by omega)) o3;rw[if_neg hz,beq_eq_false_iff_ne.2 hz];refine AW.ar rfl ?_;refine AW.skip (AW.seq ?_);refine AW.draw aI 14 (by kernel_rfl) ?_;refine qP 3 rfl ?_;refine af.fC tok (a:=b) (b.take n) rfl rfl rfl rfl rfl trivial (Int.natCast_nonneg n) (Nat.zero_le _) (show n≤b.length by omega) rfl ?_;refine qP 2 rfl ?_;refine af.fC tok (a:=b) (b.drop n) rfl rfl rfl rfl rfl (Int.natCast_nonneg n) trivial (show n≤b.length by omega) (Nat.le_refl _) (by show (b.take b.length).drop n=_;rw[List.take_length]) ?_;refine af.call tok rfl rfl rfl rfl rfl cm ?_;refine qP 1 rfl ?_;refine af.call tok rfl rfl rfl rfl rfl cj ?_;refine qP 2 rfl ?_;refine af.call tok rfl rfl rfl rfl rfl ci ?_;refine af.call tok rfl rfl rfl rfl rfl ct ?_;refine af.nil ?_;refine qU 1 rfl ?_;exact qN rfl
theorem je: ∀(l:Nat) {rt:List NQ} {a:NQ},ay l a→l≤5→db rt→l≤rt.length→rt.length≤10→GI l rt a→Pure Tryz.prog 175 [aL rt,ae a] (ae (tC l rt a))
 | 0,rt,a,ha,hl5,hrt,hl,hl10,hok=>xo (O:=fun _=>True) (Sk:=fun _=>True) (Nk:=fun _=>True) (Tk:=fun _ _=>False) ha hl5 hl hl10 hok.1 hok.2 (fun h=>absurd rfl h) (fun l' h=>by omega) (fun l' h=>by omega) (fun l' h=>by omega) (fun l' h=>by omega) (fun _ _ _ _ h=>h.elim)
 | l+1,rt,a,ha,hl5,hrt,hl,hl10,hok=>xo (O:=GI l rt) (Sk:=BY l rt) (Nk:=Fa l rt) (Tk:=zJ (l+1) rt) ha hl5 hl hl10 hok.1 hok.2.1 (fun _=>hok.2) (fun l' e b h1 h2=>by
    obtain rfl:l=l':=by omega
    exact je l h1 (by omega) hrt (by omega) hl10 h2) (fun l' e b h1=>by
    obtain rfl:l=l':=by omega
    exact pf l h1 hrt (by omega)) (fun l' e b h1 h2=>by
    obtain rfl:l=l':=by omega
    exact dX l h1 (by omega) hrt (by omega) hl10 h2) (fun l' e b j h1 h2 h3=>by
    obtain rfl:l=l':=by omega
    exact⟨k9 h1 h2 hrt (by omega) hl10 h3,vp h1 h2 hrt (by omega)⟩) (fun b c h1 h2 h3=>bE (l+1) h1 h2 hrt hl hl10 h3)
end Lift
namespace Lift
open Go Go.Proofs
def qR(v:List NQ):Prop:= ∃m,iz m v
theorem iz.a{m:Nat}{v:List NQ}(V:iz m v):qR v:=⟨m,V⟩
theorem qR.l5{v:List NQ}(V:qR v):v.length≤5:=V.elim fun _ V=>V.l5
theorem qR.ro{v:List NQ}(V:qR v):db v:=V.elim fun _ V=>V.ro
def AN(v:List NQ)(a b:NQ):NQ:=aG (bc v.length v a (tC v.length v b))
def xN(v:List NQ)(a:NQ):Int:=eG v.length v a
def zK(v:List NQ)(a b:NQ):Prop:=mM a∧mM b∧zJ v.length v a b∧mM (bc v.length v a b)
def Eo(a b:NQ):Prop:=mM a∧mM b∧mM (bh a (aY b))
def BZ(v:List NQ)(a b:NQ):Prop:=mM a∧mM b∧BY v.length v b∧xN v b≠0∧GI v.length v b∧zJ v.length v a (tC v.length v b)∧mM (bc v.length v a (tC v.length v b))
def Av(v:List NQ)(a:NQ):Prop:=BY v.length v a
theorem Av.sz{v:List NQ}{a:NQ}(h:Av v a):mM a:=BY.sz h
theorem Ac{v:List NQ}(V:qR v)(l:List NQ)(hl:l.length≤1000000)(h: ∀i,i<l.length→ay v.length (l.getD i [])∧mM (l.getD i [])):Pure Tryz.prog 42 [aL v,.sl 1 (l.map ae)] aq:=by
 obtain ⟨m,V⟩:=V;obtain ⟨m0,t1,t2,tw,tk⟩:=V.raw.1.t;have l5:=V.l5
 have g: ∀i,(l.map gj).getD i []=gj (l.getD i []):=fun i=>by
  rw[List.getD_eq_getElem?_getD,List.getElem?_map,List.getD_eq_getElem?_getD];cases l[i]? with
  | none=>rfl
  | some x=>rfl
 have c:=eY (mi v) (l.map gj) (mn:=17300000000000) tw t1 V.raw.1.l V.raw.1.ll tk (fun i hi=>by
  rw[List.length_map] at hi;rw[g];exact fun _=>uT (h i hi).2) (by rw[List.length_map];exact hl) (fun i hi=>by
  rw[List.length_map] at hi
  rw[g,jU];exact Nat.le_trans ((h i hi).1.len (by omega)) (by decide)) (by omega)
 have e:iY (mi v) (l.map gj)=0:=by
  unfold iY;rw[if_neg (by rw[V.raw.2];simp)];refine lT fun j hj=>?_;rw[List.length_map] at hj;rw[ea,g];exact lz (h j (by omega)).1
 rw[e,mQ,List.map_map,show (a9 ∘ gj)=ae from funext gY] at c;exact c
theorem CM{v:List NQ}{a:NQ}(V:qR v)(ha:ay v.length a)(sa:mM a):Pure Tryz.prog 42 [aL v,.sl 1 [ae a]] aq :=
 Ac V [a] (show 1≤1000000 by decide) (fun i hi=>by
  have:i<1:=hi;obtain rfl:i=0:=by omega
  exact⟨ha,sa⟩)
theorem sD{v:List NQ}{a b:NQ}(V:qR v)(ha:ay v.length a)(sa:mM a)(hb:ay v.length b)(sb:mM b):Pure Tryz.prog 42 [aL v,.sl 1 [ae a,ae b]] aq :=
 Ac V [a,b] (show 2≤1000000 by decide) (fun i hi=>by
  have:i<2:=hi
  match i,this with
  | 0,_=>exact⟨ha,sa⟩
  | 1,_=>exact⟨hb,sb⟩)
theorem xX{v:List NQ}{a:NQ}{b:NQ}(V:qR v)(ha:ay v.length a)(hb:ay v.length b)(ok:Eo a b):Pure Tryz.prog 105 [aL v,ae a,ae b] (.tu [ae (fB a b),aq]):=by
 refine qJ 22 Tryz.func105 rfl rfl rfl rfl (by kernel_rfl) (fun B0 F0 w0=>?_);have hl5:=V.l5;have hro:=V.ro;obtain ⟨sa,sb,sc⟩:=ok;have cc:=sD V ha sa hb sb;have c0:=dY b sb (by omega) (Nat.le_trans (hb.len (by omega)) (by decide));have c1:=cW a (aY b) sa sb.minus (by omega) (Nat.le_trans (ha.len (by omega)) (by decide)) (Nat.le_trans (hb.minus.len (by omega)) (by decide));have c2:=bm (bh a (aY b)) (ha.plus hb.minus) hl5 sc (by omega);refine qX 3 rfl ?_;refine qI ?_;refine qX 3 rfl ?_;refine aa.kc tok rfl rfl rfl rfl rfl ?_;refine aa.call tok rfl rfl rfl rfl cc ?_;refine qU 1 rfl ?_;refine qK 1 rfl ?_;refine aa.err tok rfl rfl rfl rfl rfl ?_;refine aa.nil ?_;refine AW.ar rfl ?_
 · refine AW.skip ?_;refine qX 2 rfl ?_;refine aa.call tok rfl rfl rfl rfl c0 ?_;refine aa.call tok rfl rfl rfl rfl c1 ?_;refine aa.call tok rfl rfl rfl rfl c2 ?_;refine qU 2 rfl ?_;exact qN rfl
theorem rn{v:List NQ}{a:NQ}{b:NQ}(V:qR v)(ha:ay v.length a)(hb:ay v.length b)(ok:zK v a b):Pure Tryz.prog 106 [aL v,ae a,ae b] (.tu [ae (fV v a b),aq]):=by
 refine qJ 22 Tryz.func106 rfl rfl rfl rfl (by kernel_rfl) (fun B0 F0 w0=>?_);have hl5:=V.l5;have hro:=V.ro;obtain ⟨sa,sb,st,sc⟩:=ok;have cc:=sD V ha sa hb sb;have c1:=bE v.length ha hb hro (Nat.le_refl _) (by omega) st;have c2:=bm _ (eS v.length ha hb hro (Nat.le_refl _)) hl5 sc (by omega);refine qX 3 rfl ?_;refine qI ?_;refine qX 3 rfl ?_;refine aa.kc tok rfl rfl rfl rfl rfl ?_;refine aa.call tok rfl rfl rfl rfl cc ?_;refine qU 1 rfl ?_;refine qK 1 rfl ?_;refine aa.err tok rfl rfl rfl rfl rfl ?_;refine aa.nil ?_;refine AW.ar rfl ?_
 · refine AW.skip ?_;refine qX 3 rfl ?_;refine aa.call tok rfl rfl rfl rfl c1 ?_;refine aa.call tok rfl rfl rfl rfl c2 ?_;refine qU 2 rfl ?_;exact qN rfl
theorem xY{v:List NQ}{a:NQ}{b:NQ}(V:qR v)(ha:ay v.length a)(hb:ay v.length b)(ok:BZ v a b):Pure Tryz.prog 133 [aL v,ae a,ae b] (.tu [ae (AN v a b),aq]):=by
 refine qJ 29 Tryz.func133 rfl rfl rfl rfl (by kernel_rfl) (fun B0 F0 w0=>?_);have hl5:=V.l5;have hro:=V.ro;obtain ⟨sa,sb,sg,s0,si,st,sc⟩:=ok;have cc:=sD V ha sa hb sb;have hi:=pf v.length hb hro (Nat.le_refl _);have c0:=dX v.length hb hl5 hro (Nat.le_refl _) (by omega) sg;have c1:=je v.length hb hl5 hro (Nat.le_refl _) (by omega) si;have c2:=bE v.length ha hi hro (Nat.le_refl _) (by omega) st;have c3:=bm _ (eS v.length ha hi hro (Nat.le_refl _)) hl5 sc (by omega);change eG v.length v b≠0 at s0;unfold AN;generalize eG v.length v b=z at c0 s0;refine qX 3 rfl ?_;refine qI ?_;refine qX 3 rfl ?_;refine aa.kc tok rfl rfl rfl rfl rfl ?_;refine aa.call tok rfl rfl rfl rfl cc ?_;refine qU 1 rfl ?_;refine qK 1 rfl ?_;refine aa.err tok rfl rfl rfl rfl rfl ?_;refine aa.nil ?_;refine AW.ar rfl ?_
 · refine AW.skip (AW.seq ?_);refine qX 2 rfl ?_;refine aa.call tok rfl rfl rfl rfl c0 ?_;refine qU 1 rfl ?_;refine aa.nil ?_;rw[beq_eq_false_iff_ne.2 s0];refine AW.ar rfl ?_
   · refine AW.skip (AW.seq ?_);refine AW.draw aI 7 (by kernel_rfl) ?_;refine qP 4 rfl ?_;refine af.call tok rfl rfl rfl rfl rfl c1 ?_;refine af.call tok rfl rfl rfl rfl rfl c2 ?_;refine af.call tok rfl rfl rfl rfl rfl c3 ?_;refine af.nil ?_;refine qU 2 rfl ?_;exact qN rfl
theorem wc{v:List NQ}{a:NQ}(V:qR v)(ha:ay v.length a)(ok:Av v a):Pure Tryz.prog 22 [aL v,ae a] (.tu [dI (xN v a),aq]):=by
 refine qJ 17 Tryz.func22 rfl rfl rfl rfl (by kernel_rfl) (fun B0 F0 w0=>?_);have hl5:=V.l5;have hro:=V.ro;have cc:=CM V ha ok.sz;have c1:=dX v.length ha hl5 hro (Nat.le_refl _) (by omega) ok;refine qX 3 rfl ?_;refine qI ?_;refine qX 2 rfl ?_;refine aa.kc tok rfl rfl rfl rfl rfl ?_;refine aa.call tok rfl rfl rfl rfl cc ?_;refine qU 1 rfl ?_;refine qK 1 rfl ?_;refine aa.err tok rfl rfl rfl rfl rfl ?_;refine aa.nil ?_;refine AW.ar rfl ?_
 · refine AW.skip ?_;refine qX 2 rfl ?_;refine aa.call tok rfl rfl rfl rfl c1 ?_;refine qU 2 rfl ?_;exact qN rfl
end Lift
namespace Lift
open Go
open Go.RowKit (Below)
section
variable {P:Program} {T:Ty} {B:Nat} {F0:Nat→Prop} {w0:bV} {n:Nat} {σ:St} {all:Array Oper} {rest:List Oper} {o:Oper} {d:Nat} {K:St→Prop}
def CB(T:Ty)(lk:Nat→Option AV):Op→Option (Nat×List D)
 | .binOp .eql t x (.const (.slice none 0 0)) _=>match T.get t,b5 T (ex T lk 0 x) with
   | some ti,some (.sl s xs)=>match Nat.beq ti.kind 4 with
     | true=>some (s,xs)
     | false=>none
   | _,_=>none
 | _=>none
theorem yR{w:World}{t e:TypeId}(hi:P.underlying t=some (.slice e))(k:Nat)(b:Option Addr)(l c:Nat):(Op.equalIn (k+1) t (.slice b l c) (.slice none 0 0)).run P w= .ok b.isNone w:=by
 cases b<;>simp[Op.equalIn,run_underlying hi]
theorem Cz{w:World}{t e:TypeId}(hi:P.underlying t=some (.slice e))(b:Option Addr)(l c:Nat):(Op.equal t (.slice b l c) (.slice none 0 0)).run P w= .ok b.isNone w:=yR hi 9999 b l c
theorem CT{w:World}{t e:TypeId}(hi:P.underlying t=some (.slice e))(b:Option Addr)(l c:Nat):(Go.binOp .eql t (.slice b l c) (.slice none 0 0)).run P w= .ok (.bool b.isNone) w:=by
 have:Go.binOp .eql t (.slice b l c) (.slice none 0 0)=(do pure (.bool (← Op.equal t (.slice b l c) (.slice none 0 0))):Sem Value):=rfl;rw[this];simp only[Sem.run_bind,Cz hi,Result.andThen_ok,Sem.run_pure]
theorem aa.eqn(hT:bb P T){s:Nat}{xs:List D}(hd:o.dst=some d)(hdn:Nat.ble (d+1) n=true)(hg:o.guard=none)(hx:CB T σ.get o.op=some (s,xs))
  (h: ∀b:Bool,(xs≠[]→b=false)→aa P B F0 w0 n all rest K ((d,.d (.v (.bool b)))::σ)):aa P B F0 w0 n all (o::rest) K σ:=by
 intro a w hR Q hQ;unfold wpList;rw[if_pos (by simp[Region.wanted,hg])];refine .inl ?_;obtain ⟨O,hOr,hO⟩:=hR.own;have hI:=hR.inv hOr hO (fun t=> .tmp t∈o.op.operands) d;obtain ⟨dst,op,ty,pos,after,guard⟩:=o;simp only[] at hd hx hI;cases op<;>try (simp only[CB] at hx;cases hx;done)
 rename_i bop t x y ty2;cases bop<;>try (simp only[CB] at hx;cases hx;done)
 cases y<;>try (simp only[CB] at hx;cases hx;done)
 rename_i c;unfold CB at hx;split at hx<;>try (cases hx;done)
 rename_i heq;simp only[Op.binOp.injEq,Operand.const.injEq,true_and] at heq;obtain ⟨rfl,rfl,rfl,rfl⟩:=heq;split at hx<;>try (cases hx;done)
 rename_i ti s' xs' hti hdx;split at hx<;>simp at hx;rename_i hk;obtain ⟨rfl,rfl⟩:=hx;obtain ⟨info,dd,z,hok⟩:=hT _ ti hti;have hrd:=cU hT hI (fun t ht=>by subst ht;simp[Op.operands]) hdx;obtain ⟨ad,cap,hv,h1,h2,hne⟩:=Rd.wi hrd
 have hg2:(eqGuard .eql t x (.const (.slice none 0 0)) (a.eval x) (.slice none 0 0)).run P w= .ok () w:=by
  rw[hv];simp[eqGuard]
 refine aU (v:= .bool ad.isNone) (w':=w) ?_ ?_
 · simp only[execOp,eval_const,Sem.run_bind,hg2,Result.andThen_ok];rw[hv];rw[CT (hok.gK hk).1];rfl
 · rw[hd];refine h ad.isNone (fun hx=>?_) _ _ (hR.put hOr hO (Nat.le_of_ble_eq_true hdn) (bZ.refl hI.lt) (show dn _ _ _ _ _ _ _ _ (.d (.v (.bool ad.isNone))) (.bool ad.isNone) from Rd.v rfl)) Q hQ;rcases hne with e | ⟨b,off,cs,e,fz,hb,_⟩
   · exact absurd e hx
   · rw[hb];rfl
end
end Lift
namespace Lift
open Go Go.Proofs
abbrev C2(r:List (List RD)):D:= .sl 1 (r.map a9)
abbrev zf(a:List (List (List RD))):D:= .sl 1 (a.map C2)
abbrev gx(r:List NQ):D:= .sl 1 (r.map ae)
abbrev gT(a:List (List NQ)):D:= .sl 1 (a.map gx)
structure FG (m:Nat) (rt:List (List RD)) (a:List (List (List RD))):Prop where
 n: ∀i k,iA m rt ((a.getD i []).getD k [])
 l:a.length≤1000000
 r: ∀i,(a.getD i []).length≤1000000
def gf{α:Type}(a:List (List α)):Nat:=(a.getD 0 []).length
def Db(a:List (List (List RD)))(i:Nat):Nat:=if (a.getD i []).length≠gf a then 10 else 0
def uQ(rt:List (List RD))(r:List (List RD)):Nat:=fE (fun k=>iY rt [r.getD k []]) (r.length-0) 0
def DQ(rt:List (List RD))(a:List (List (List RD))):Nat :=
 if a.length=0 then 0 else if 32<a.length∨32<gf a then 4 else
 if fE (Db a) (a.length-0) 0≠0 then fE (Db a) (a.length-0) 0 else fE (fun i=>uQ rt (a.getD i [])) (a.length-0) 0
def zQ(rt:List (List RD))(a:List (List (List RD))):Nat:=if cJ rt≠0 then cJ rt else DQ rt a
structure GQ (m:Nat) (rt:List (List RD)):Prop where
 w: ∀i,i<rt.length→(rt.getD i []).length=2^i→wN m (rt.getD i [])
 m1:1≤m
 l:rt.length≤1000000
 ll: ∀i,i<rt.length→(rt.getD i []).length≤4398046511104
 ok:rt.length≤5→oF rt.length m
 m2:m≤1000000
theorem o9{m:Nat}{rt:List (List RD)}{x:List RD}(T:GQ m rt)(X:iA m rt x):Pure Tryz.prog 174 [sW rt,a9 x] (ml (iY rt [x])):=by
 refine qJ 14 Tryz.func174 rfl rfl rfl rfl (by kernel_rfl) (fun B F0 w0=>?_);have hm:=T.m2;have c:=s5 rt x T.w T.m1 T.l T.ll T.ok X.w X.l (by omega);unfold Bu at c;refine qX 2 rfl ?_;refine qK 2 rfl ?_;by_cases h:iY rt [x]≠0
 · rw[if_pos h] at c;refine aa.call tok rfl rfl rfl rfl c ?_;refine qU 5 rfl ?_;refine qK 2 rfl ?_;exact qN rfl
 rw[if_neg h] at c;have h:iY rt [x]=0:=by omega
 rw[h];refine aa.call tok rfl rfl rfl rfl c ?_;refine qU 5 rfl ?_;refine qK 2 rfl ?_;exact qN rfl
set_option maxHeartbeats 1600000 in
theorem pa{m:Nat}{rt:List (List RD)}{a:List (List (List RD))}(T:GQ m rt)(A:FG m rt a):Pure Tryz.prog 130 [sW rt,zf a] (ml (DQ rt a)):=by
 refine qJ 61 Tryz.func130 rfl rfl rfl rfl (by kernel_rfl) (fun B F0 w0=>?_);have hal:=A.l;unfold DQ;obtain ⟨E,hE⟩: ∃E,fE (Db a) (a.length-0) 0=E:=⟨_,rfl⟩;obtain ⟨G,hG⟩: ∃G,fE (fun i=>uQ rt (a.getD i [])) (a.length-0) 0=G:=⟨_,rfl⟩;rw[hE,hG];refine qX 2 rfl ?_;refine qI ?_;refine qX 2 rfl ?_;rw[List.length_map];refine qU 1 rfl ?_;refine aa.nil ?_;by_cases h0:a.length=0
 · rw[if_pos h0,h0];refine AW.aB rfl ?_;refine qX 1 rfl ?_;exact qN rfl
 rw[if_neg h0,beq_eq_false_iff_ne.2 (show (a.length:Int)≠0 by omega)];have hc0:gf a=(a.getD 0 []).length:=rfl;have hcl:=A.r 0;have g0:=getM C2 (l:=a) (i:=0) (by omega);refine AW.ar rfl ?_
 · skip
   refine AW.skip (AW.seq ?_);refine qX 2 rfl ?_;rw[List.length_map];refine qU 1 rfl ?_;by_cases h1:32<a.length
   · rw[decide_eq_true (show (32:Int)<(a.length:Int) by omega),if_pos (.inl h1)];refine qU 7 rfl ?_;refine aa.nil ?_;refine AW.aB rfl ?_;refine qX 2 rfl ?_;exact qN rfl
   rw[decide_eq_false (show ¬(32:Int)<(a.length:Int) by omega)];refine qU 2 rfl ?_;refine aa.idx tok (C2 (a.getD 0 [])) rfl rfl rfl rfl (Int.le_refl _) g0 ?_;refine qU 2 rfl ?_;rw[List.length_map];refine qU 1 rfl ?_;by_cases h2:32<gf a
   · rw[decide_eq_true (show (32:Int)<((a.getD 0 []).length:Int) by omega),if_pos (.inr h2)];refine qU 1 rfl ?_;refine aa.nil ?_;refine AW.aB rfl ?_;refine qX 2 rfl ?_;exact qN rfl
   rw[decide_eq_false (show ¬(32:Int)<((a.getD 0 []).length:Int) by omega),if_neg (fun h=>h.elim h1 h2)];refine qU 1 rfl ?_;refine aa.nil ?_;refine AW.ar rfl ?_
   · refine AW.skip (AW.seq ?_);refine qX 2 rfl ?_;rw[List.length_map];refine qU 1 rfl ?_;refine aa.nil ?_;refine AW.block ?_;refine AW.aD [1,2,26,27,28] (fun i:Nat=>[(1,.d (zf a)),(2,.bx [.sl 1 (rt.map a9)]),(26,.d (zf a)),(27,.d (dI a.length)),(28,.d (dI i))]) (fun i=>i≤a.length∧fE (Db a) (a.length-i) i=E) (fun i=>a.length-i) 0 rfl ⟨Nat.zero_le _,hE⟩ (fun i ⟨hi,hiE⟩=>?_)
     · show AW _ _ _ _ _ _ _ [(1,.d (zf a)),(2,.bx [.sl 1 (rt.map a9)]),(26,.d (zf a)),(27,.d (dI a.length)),(28,.d (dI i))];refine qX 1 rfl ?_;refine qI ?_;refine AW.cond rfl (fun h=>?_) (fun h=>?_)
       · have hii:i<a.length:=by have:=of_decide_eq_true h;omega
         have hg:=getM C2 (l:=a) (i:=i) hii;have hri:=A.r i;have hmiss:=fun h0:Db a i=0=>(bX hii h0).symm.trans hiE;have hhit:=fun h0:Db a i≠0=>(dw hii h0).symm.trans hiE;refine AW.skip (AW.seq (AW.block (AW.seq (AW.region ?_))));refine aa.idx tok (C2 (a.getD i [])) rfl rfl rfl rfl (Int.natCast_nonneg i) hg ?_;refine qU 2 rfl ?_;refine qK 2 rfl ?_;rw[List.length_map];refine qU 1 rfl ?_;refine aa.idx tok (C2 (a.getD 0 [])) rfl rfl rfl rfl (Int.le_refl _) g0 ?_;refine qU 2 rfl ?_;rw[List.length_map];refine qU 1 rfl ?_;refine aa.nil ?_;refine AW.cond rfl (fun h=>?_) (fun h=>?_)
         · have hne:(a.getD i []).length≠gf a:=by have:=bne_iff_ne.1 h;omega
           have e:Db a i=10:=if_pos hne;have:=hhit (by rw[e];decide);rw[e] at this;subst this;rw[if_pos (by decide)];refine qX 2 rfl ?_;exact qN rfl
         · have heq:(a.getD i []).length=gf a:=by have:=bne_eq_false_iff_eq.1 h;omega
           have e:Db a i=0:=if_neg (fun h=>h heq);refine AW.skip ?_;refine qT 1 rfl ?_;rw[au (x:=(i:Int)+1) (by omega) (by omega)];refine qU 1 rfl ?_;refine aa.nil ?_;exact⟨i+1,rfl,⟨hii,hmiss e⟩,by omega⟩
       have hii: ¬i<a.length:=by have:=of_decide_eq_false h;omega
       rw[dy hii] at hiE;subst hiE;rw[if_neg (by decide)];refine AW.exit (AW.seq ?_);refine qX 2 rfl ?_;rw[List.length_map];refine qU 1 rfl ?_;refine aa.nil ?_;refine AW.block ?_;refine AW.aD [1,2,41,42,43] (fun i:Nat=>[(1,.d (zf a)),(2,.bx [.sl 1 (rt.map a9)]),(41,.d (zf a)),(42,.d (dI a.length)),(43,.d (dI i))]) (fun i=>i≤a.length∧fE (fun i=>uQ rt (a.getD i [])) (a.length-i) i=G) (fun i=>a.length-i) 0 rfl ⟨Nat.zero_le _,hG⟩ (fun i ⟨hi,hiG⟩=>?_)
       · show AW _ _ _ _ _ _ _ [(1,.d (zf a)),(2,.bx [.sl 1 (rt.map a9)]),(41,.d (zf a)),(42,.d (dI a.length)),(43,.d (dI i))];refine qX 1 rfl ?_;refine qI ?_;refine AW.cond rfl (fun h=>?_) (fun h=>?_)
         · have hii:i<a.length:=by have:=of_decide_eq_true h;omega
           have hg:=getM C2 (l:=a) (i:=i) hii;have hri:=A.r i;have hni:=A.n i;have hmiss:=fun h0:uQ rt (a.getD i [])=0=>(bX (f:=fun i=>uQ rt (a.getD i [])) hii h0).symm.trans hiG;have hhit:=fun h0:uQ rt (a.getD i [])≠0=>(dw (f:=fun i=>uQ rt (a.getD i [])) hii h0).symm.trans hiG;refine AW.skip (AW.seq (AW.block (AW.seq (AW.region ?_))));refine aa.idx tok (C2 (a.getD i [])) rfl rfl rfl rfl (Int.natCast_nonneg i) hg ?_;refine qU 2 rfl ?_;refine aa.nil ?_;generalize a.getD i []=r at hri hni hmiss hhit;obtain ⟨H,hH⟩: ∃H,uQ rt r=H:=⟨_,rfl⟩;rw[hH] at hmiss hhit;refine qX 2 rfl ?_;rw[List.length_map];refine qU 1 rfl ?_;refine aa.nil ?_;refine AW.block ?_;refine AW.aD [1,2,41,42,43,47,48,49] (fun k:Nat=>[(1,.d (zf a)),(2,.bx [.sl 1 (rt.map a9)]),(41,.d (zf a)),(42,.d (dI a.length)),(43,.d (dI i)),(47,.d (C2 r)),(48,.d (dI r.length)),(49,.d (dI k))]) (fun k=>k≤r.length∧fE (fun k=>iY rt [r.getD k []]) (r.length-k) k=H) (fun k=>r.length-k) 0 rfl ⟨Nat.zero_le _,hH⟩ (fun k ⟨hk,hkH⟩=>?_)
           · show AW _ _ _ _ _ _ _ [(1,.d (zf a)),(2,.bx [.sl 1 (rt.map a9)]),(41,.d (zf a)),(42,.d (dI a.length)),(43,.d (dI i)),(47,.d (C2 r)),(48,.d (dI r.length)),(49,.d (dI k))];refine qX 1 rfl ?_;refine qI ?_;refine AW.cond rfl (fun h=>?_) (fun h=>?_)
             · have hkk:k<r.length:=by have:=of_decide_eq_true h;omega
               have hg2:=getM a9 (l:=r) (i:=k) hkk;have cn:=o9 T (hni k);have km:=fun h0:iY rt [r.getD k []]=0=>(bX (f:=fun k=>iY rt [r.getD k []]) hkk h0).symm.trans hkH;have kh:=fun h0:iY rt [r.getD k []]≠0=>(dw (f:=fun k=>iY rt [r.getD k []]) hkk h0).symm.trans hkH;refine AW.skip (AW.seq (AW.block (AW.seq (AW.region ?_))));refine aa.idx tok (a9 (r.getD k [])) rfl rfl rfl rfl (Int.natCast_nonneg k) hg2 ?_;refine qU 2 rfl ?_;refine qK 2 rfl ?_;refine aa.call tok rfl rfl rfl rfl cn ?_;refine qU 1 rfl ?_;refine aa.nil ?_;generalize iY rt [r.getD k []]=e at cn km kh;rcases e with _ | z
               rotate_left
               · have:=kh (Nat.succ_ne_zero z);subst this;have:=hhit (Nat.succ_ne_zero z);subst this;refine qX 1 rfl ?_;refine aa.err tok rfl rfl rfl rfl rfl ?_;refine aa.nil ?_;refine AW.aB rfl ?_;refine qX 2 rfl ?_;exact qN rfl
               refine qX 1 rfl ?_;refine aa.err tok rfl rfl rfl rfl rfl ?_;refine aa.nil ?_;refine AW.ar rfl ?_
               · skip
                 refine AW.skip ?_;refine qT 1 rfl ?_;rw[au (x:=(k:Int)+1) (by omega) (by omega)];refine qU 1 rfl ?_;refine aa.nil ?_;exact⟨k+1,rfl,⟨hkk,km rfl⟩,by omega⟩
             have hkk: ¬k<r.length:=by have:=of_decide_eq_false h;omega
             rw[dy hkk] at hkH;subst hkH;refine AW.exit ?_;refine qT 1 rfl ?_;rw[au (x:=(i:Int)+1) (by omega) (by omega)];refine qU 1 rfl ?_;refine aa.nil ?_;exact⟨i+1,rfl,⟨hii,hmiss rfl⟩,by omega⟩
         have hii: ¬i<a.length:=by have:=of_decide_eq_false h;omega
         rw[dy hii] at hiG;subst hiG;refine AW.exit ?_;refine qX 1 rfl ?_;exact qN rfl
theorem qi{m:Nat}{rt:List (List RD)}{a:List (List (List RD))}(T:GQ m rt)(A:FG m rt a):Pure Tryz.prog 88 [sW rt,zf a] (ml (zQ rt a)):=by
 refine qJ 14 Tryz.func88 rfl rfl rfl rfl (by kernel_rfl) (fun B F0 w0=>?_);have cc:=iL rt T.w T.m1 T.l T.ll T.ok;have cm:=pa T A;unfold zQ;refine qX 2 rfl ?_;refine qI ?_;refine qX 1 rfl ?_;refine aa.call tok rfl rfl rfl rfl cc ?_;refine qU 1 rfl ?_;refine aa.nil ?_;generalize cJ rt=e at cc ⊢;rcases e with _ | z
 rotate_left
 · rw[if_pos (Nat.succ_ne_zero z)];refine qX 1 rfl ?_;refine aa.err tok rfl rfl rfl rfl rfl ?_;refine aa.nil ?_;refine AW.aB rfl ?_;refine qX 2 rfl ?_;exact qN rfl
 rw[if_neg (by simp)];refine qX 1 rfl ?_;refine aa.err tok rfl rfl rfl rfl rfl ?_;refine aa.nil ?_;refine AW.ar rfl ?_
 · skip
   refine AW.skip ?_;refine qX 2 rfl ?_;refine aa.call tok rfl rfl rfl rfl cm ?_;refine qU 1 rfl ?_;exact qN rfl
theorem lK{v:List NQ}{a:NQ}(V:qR v)(ha:ay v.length a)(ok:Av v a):Pure Tryz.prog 132 [aL v,ae a] (dI (xN v a)):=by
 refine qJ 14 Tryz.func132 rfl rfl rfl rfl (by kernel_rfl) (fun B F0 w0=>?_);have c:=wc V ha ok;refine qX 2 rfl ?_;refine qK 2 rfl ?_;refine aa.call tok rfl rfl rfl rfl c ?_;refine qU 5 rfl ?_;refine qK 2 rfl ?_;exact qN rfl
theorem nY(a:List (List NQ)):Pure Tryz.prog 90 [gT a] (dI (gf a)):=by
 refine qJ 10 Tryz.func90 rfl rfl rfl rfl (by kernel_rfl) (fun B F0 w0=>?_);refine qX 1 rfl ?_;refine qI ?_;refine qX 2 rfl ?_;rw[List.length_map];refine qU 1 rfl ?_;refine aa.nil ?_;by_cases h0:a.length=0
 · rw[List.length_eq_zero_iff.1 h0];refine AW.aB rfl ?_;refine qX 1 rfl ?_;exact qN rfl
 rw[beq_eq_false_iff_ne.2 (show (a.length:Int)≠0 by omega)];have g0:=getM gx (l:=a) (i:=0) (by omega);refine AW.ar rfl ?_
 · refine AW.skip ?_;refine qX 1 rfl ?_;refine aa.idx tok (gx (a.getD 0 [])) rfl rfl rfl rfl (Int.le_refl _) g0 ?_;refine qU 2 rfl ?_;rw[List.length_map];refine qU 1 rfl ?_;exact qN rfl
def BV(r:List NQ)(res:D)(R':List LR):Prop:= ∃V,res= .v V∧R'=[(V,AV.ow 52 (r.map ae))]
theorem xE(r:List NQ)(hl:r.length≤1000000):fS Tryz.prog 131 [gx r] [] (BV r):=by
 refine fS.intro (n:=8) tok Tryz.func131 rfl rfl rfl (Nat.le_of_ble_eq_true rfl) (by kernel_rfl) (fun B F0 w0=>?_);refine AZ.seq ?_;refine AZ.dm (fun B1 F1 w1=>?_);refine qU 1 rfl ?_;refine aa.nil ⟨rfl,?_⟩;refine AZ.seq ?_;refine AZ.seq ?_;refine AZ.dm (fun B1 F1 w1=>?_);refine qU 1 rfl ?_;refine aa.eqn tok rfl rfl rfl rfl (fun b hb=>?_);refine aa.nil ⟨rfl,?_⟩;refine AZ.cond rfl (fun h=>?_) (fun h=>?_)
 · have hr:r=[]:=by
    refine Classical.byContradiction fun hr=>?_;have:=hb (by simp[hr]);rw[this] at h;cases h
   subst hr;refine AZ.seq ?_;refine AZ.dm (fun B1 F1 w1=>?_);refine qU 1 rfl ?_;refine aa.nil ⟨rfl,?_⟩;exact AZ.fL 2 rfl rfl rfl (fun V=>AZ.ret ⟨.v V,rfl,V,rfl,rfl⟩)
 · skip
   refine AZ.skip ?_;refine AZ.seq ?_;refine AZ.dm (fun B1 F1 w1=>?_);refine qU 2 rfl ?_;refine aa.zd tok rfl rfl rfl rfl (by rw[List.length_map];show r.length*24≤_;omega) ?_;refine qU 1 rfl ?_;refine aa.nil ⟨rfl,?_⟩;exact AZ.fL 2 rfl rfl rfl (fun V=>AZ.ret ⟨.v V,rfl,V,rfl,rfl⟩)
end Lift
namespace Lift
open Go
open Go.RowKit (Below)
section
variable {P:Program} {T:Ty} {B:Nat} {F0:Nat→Prop} {w0:bV} {n:Nat} {σ:St} {R:List LR} {all ops:Array Oper} {l:List Oper} {o:Oper} {x:Code} {a:Act} {w:World} {K:List LR→St→Prop} {p:kg} {Q:Exit→List LR→St→Prop}
theorem lS: ∀{cs:List D},(∀d,d∈cs→d.flat=[d])→flatAll cs=cs
 | [],h=>rfl
 | d::r,h=>by
   show d.flat++flatAll r=d::r;rw[h d (List.mem_cons_self ..),lS (fun x hx=>h x (List.mem_cons_of_mem _ hx))];rfl
theorem bL.Fl{i j k e eo:Nat}{V Vo:Value}{xs cs:List D}(hR:bL P B F0 w0 n R σ a w)(hj:R[j]?=some (Vo,.ow eo cs))(hc1: ∀d,d∈cs→d.flat=[d])(hk:cs[k]?=some (.v V))(hi:R[i]?=some (V,.ow e xs))(hij:i≠j):
  bL P B F0 w0 n ((R.set i (V,.junk)).set j (Vo,.ow eo (cs.set k (.sl (P.cellsOf e) xs)))) σ a w:=by
 obtain ⟨O,hOr,hO,hL⟩:=hR.own
 let O':Nat→Option Nat:=fun b=>if O b=some (n+i) then none else O b
 have h1: ∀b t,O' b=some t→O b=some t:=fun b t h=>by
  simp only[O'] at h;split at h
  · cases h
  · exact h
 have h2: ∀b t,t≠n+i→O b=some t→O' b=some t:=fun b t ht h=>by
  simp only[O',h];rw[if_neg (by simpa using ht)]
 have hF: ∀c,aJ O (FW B F0 w) c→aJ O' (FW B F0 w) c:=fun c hc=>⟨by simp only[O',hc.1];simp,hc.2⟩
 have hlt: ∀t av,σ.get t=some av→t<n:=fun t av h=>by
  obtain ⟨v,hv,_⟩:=hO t av h;rw[← hR.size];exact(Array.getElem?_eq_some_iff.1 hv).1
 have hil:=(List.getElem?_eq_some_iff.1 hi).1;have hjl:=(List.getElem?_eq_some_iff.1 hj).1;have hkl:=(List.getElem?_eq_some_iff.1 hk).1;refine⟨hR.below,hR.base,hR.f0,hR.defers,hR.size,O',fun b t hb=>hOr b t (h1 b t hb),fun j av hav=>?_,fun m r hr=>?_⟩
 · obtain ⟨v,hv,hr⟩:=hO j av hav;exact⟨v,hv,hr.move (fun c hc=>⟨hF c hc,rfl⟩) (fun _ c hc=>⟨h2 c j (by have:=hlt j av hav;omega) hc,rfl⟩) (fun k _ x _ hk=>⟨hk,rfl⟩)⟩
 · by_cases hmj:m=j
   · subst hmj;rw[List.getElem?_set_self (by simpa using hjl)] at hr;cases hr
     have hcs': ∀d,d∈cs.set k (.sl (P.cellsOf e) xs)→d.flat=[d]:=fun d hd=>by
      rcases List.mem_or_eq_of_mem_set hd with h | h
      · exact hc1 d h
      · subst h;rfl
     rcases hL m _ hj with h | ⟨_,_,h⟩
     · cases h
     refine .inr ⟨rfl,rfl,?_⟩;rcases h with ⟨base,h3,h4⟩ | ⟨b',cap,cs',h3,h4,h5,h6,h7,h8,h9,h10⟩
     · subst h4;simp at hk
     · simp only at h3;subst h3;refine .inr ⟨b',cap,cs',by simp,h2 b' _ (by omega) h4,h5,by simpa using h6,h7,h8,fun d hd=>?_,fun q d hd=>?_⟩
       · rcases List.mem_or_eq_of_mem_set hd with h | h
         · exact h9 d h
         · subst h;have:=h9 _ (List.mem_of_getElem? hk);exact this
       · rw[lS hcs'] at hd;rw[lS hc1] at h10;by_cases hq:q=k
         · subst hq;rw[List.getElem?_set_self hkl] at hd;cases hd;obtain ⟨_,u,hu,hru⟩:=h10 q _ hk;have:=(Rd.iK hru).1;subst this;refine⟨rfl,_,hu,?_⟩;rcases hL i _ hi with h | ⟨_,_,h⟩
           · cases h
           · rcases h with ⟨base,h3,h4⟩ | ⟨b2,cap2,cs2,g3,g4,g5,g6,g7,g8,g9,g10⟩
             · simp only at h3 h4;subst h3;subst h4;exact .nil (Nat.zero_le _)
             · simp only at g3;subst g3;refine Rd.kP (off:=0) ⟨by simp only[O',g4];simp,(hOr b2 _ g4).fw hR.f0⟩ g5 g6 g7 g9 (fun m d hd=>?_);obtain ⟨f1,u,f2,f3⟩:=g10 m d hd;exact⟨f1,u,by simpa using f2,f3.mono hF (fun _ _=>rfl)⟩
         · rw[List.getElem?_set_ne (Ne.symm hq)] at hd;obtain ⟨f1,u,f2,f3⟩:=h10 q d hd;exact⟨f1,u,f2,f3.mono hF (fun _ _=>rfl)⟩
   · have hr:=iD hmj hr;by_cases hmi:m=i
     · subst hmi;rw[List.getElem?_set_self hil] at hr;cases hr;exact .inl rfl
     · have:=iD hmi hr;rcases hL m r this with h | ⟨g1,g2,g3⟩
       · exact .inl h
       · exact .inr ⟨g1,g2,g3.move (fun c hc=>⟨hF c hc,rfl⟩) (fun _ c hc=>⟨h2 c _ (by omega) hc,rfl⟩) (fun k _ x _ hk=>by cases hk)⟩
theorem AZ.Fl(hT:bb P T)(i j k:Nat){V Vo:Value}{e eo:Nat}{te:TI}{xs cs:List D}(hj:R[j]?=some (Vo,.ow eo cs))(hc1: ∀d,d∈cs→d.flat=[d])(hk:cs[k]?=some (.v V))(hi:R[i]?=some (V,.ow e xs))(hij:i≠j)(he:T.get e=some te)
  (h:AZ P B F0 w0 n x Q ((R.set i (V,.junk)).set j (Vo,.ow eo (cs.set k (.sl te.size xs)))) σ):AZ P B F0 w0 n x Q R σ:=by
 obtain ⟨info,d,z,hok⟩:=hT e te he;intro a w hR;have:=hR.Fl hj hc1 hk hi hij;rw[hok.cellsOf] at this;exact h a w this
theorem an.xk(t i:Nat){av:AV}(ht:σ.get t=some av)(hrow:av.row.isSome=true)(htag:av.tag=false)(hi:Nat.ble (i+1) R.length=true)(h: ∀V:Value,an P B F0 w0 n all l K p (R.set i (V,av)) ((t,.d (.v V))::σ.kill t)):an P B F0 w0 n all l K p R σ:=by
 intro a w hR hpin Q hQ;obtain ⟨O,_,hO,_⟩:=hR.own;obtain ⟨V,hV,_⟩:=hO t _ ht;exact h V a w (hR.fL (i:=i) ht hrow htag hV (List.getElem?_set_self (Nat.le_of_ble_eq_true hi)) (fun j r hj hr=>iD hj hr)) hpin Q hQ
theorem iW.DO(i:Nat){oi:Oper}(hB:yU ops i=true)(hoi:ops[i]?=some oi)(hm:vB oi.op=true)(hpan: ∀c R σ,Q (.panic c) R σ→False)(hout: ∀R σ,Q .outgrown R σ→False)(h:iW P B F0 w0 n (eE i ops) Q R σ):iW P B F0 w0 n ops Q R σ:=by
 intro a w hR;obtain ⟨v,hv⟩:=w9 hm a;have hA:=h a w hR;rw[vL] at hA;refine uB i hB (fun c a w hq=>?_) (fun hq=>?_) hoi hv hA
 · obtain ⟨R,σ,h,_⟩:=hq;exact hpan c R σ h
 · obtain ⟨a,w,R,σ,h,_⟩:=hq;exact hout R σ h
theorem ao{K:List LR→St→Prop}(h: ∀B1 F1 w1,sO P B1 F1 w1 R→aa P B1 F1 w1 n ops [o] (fun σ'=>σ'.fq=true∧K R σ') σ):an P B F0 w0 n ops [o] K [] R σ :=
 an.G7 1 rfl (fun B1 F1 w1 hS=>by
  have:=h B1 F1 w1 hS
  refine fun a w hR Q hQ=>this a w hR Q (fun a' w' σ' ⟨h1,h2⟩ hR'=>hQ a' w' σ' ⟨h1,an.nil h2⟩ hR'))
end
section
variable {P:Program} {T:Ty} {B:Nat} {F0:Nat→Prop} {w0:bV} {n:Nat} {σ:St} {R:List LR} {ops:Array Oper} {o1 o2 o3 o4:Oper} {Q:Exit→List LR→St→Prop} {β:fy} {fuel:Nat} {listed:Array Bool}
theorem ZH.four(i j k m:Nat)(hr:Region.ready .any ops listed=[i,j,k,m])(ho1:ops[i]?=some o1)(ho2:ops[j]?=some o2)(ho3:ops[k]?=some o3)(ho4:ops[m]?=some o4)(hg1:o1.guard=none)(hg2:o2.guard=none)(hg3:o3.guard=none)(hg4:o4.guard=none)(hp1: ∀bl,eH (cg β bl) [o1]=true)(hp2: ∀bl,eH (cg β bl) [o2]=true)(hp3: ∀bl,eH (cg β bl) [o3]=true)(hp4: ∀bl,eH (cg β bl) [o4]=true)(hσ:kL σ β)
  (h1:mI P B F0 w0 n ops Q β fuel listed R σ i o1) (h2:mI P B F0 w0 n ops Q β fuel listed R σ j o2) (h3:mI P B F0 w0 n ops Q β fuel listed R σ k o3) (h4:mI P B F0 w0 n ops Q β fuel listed R σ m o4):ZH P B F0 w0 n ops Q β (fuel+1) listed R σ :=
 ZH.many [i,j,k,m] hr (by simp) hσ (fun q hk=>by
   simp only[List.mem_cons,List.not_mem_nil,or_false] at hk;rcases hk with rfl | rfl | rfl | rfl
   · exact⟨o1,ho1,hg1,hp1,h1⟩
   · exact⟨o2,ho2,hg2,hp2,h2⟩
   · exact⟨o3,ho3,hg3,hp3,h3⟩
   · exact⟨o4,ho4,hg4,hp4,h4⟩)
end
end Lift
