/- Parts of the proof, one behind the other: the logic, the contracts of the functions that the statement reaches. -/
import Derived.Test.YtfakkdmfofiibaaGreatT7C
import Derived.Laws.StructEq
set_option linter.unusedVariables false
set_option linter.unusedSimpArgs false
namespace Lift
open Go
open Go.RowKit (Below)
section
variable {P:Program} {T:Ty} {B:Nat} {F0:Nat→Prop} {w0:c7} {n d:Nat} {o:Oper} {σ:St} {K:St→Prop} {all:Array Oper} {rest:List Oper}
theorem C9(w:World)(dT sT ty elem:TypeId)(g o dLen dCap:Nat)(a:Addr)(sLen sCap:Nat)(cur:Array Value)(t:TypeId)(cs:List Value)(i:TypeInfo)
  (hu:P.underlying dT=some (.slice elem)) (hi:P.info? elem=some i)
  (hg:w.heap[g]?=some (.cells cur t (0,0))) (hn:cs.length=Nat.min sLen dLen*i.size)
  (hsrc: ∀j v,cs[j]?=some v→w.cell? (a.add j)=some v) (hfit:o+cs.length≤cur.size) (h1: ∀v∈cs,v.oneCell'=true):
  (Builtin.copy_ #[dT,sT] ty #[.slice (some ⟨g,o,none⟩) dLen dCap,.slice (some a) sLen sCap]).run P w =
   .ok (goInt (Nat.min sLen dLen)) (w.setRow g (cur.toList.take o++cs++cur.toList.drop (o+cs.length)).toArray):=by
 have hl:=run_firstCells_some (P:=P) w i.size (Nat.min sLen dLen) a sLen sCap cs hn hsrc;have hst:=run_storeCells_at P g o t cs 0 cur w hg (by simpa using hfit) h1;simp[Builtin.copy_,run_underlying hu,Builtin.lenOf,Go.sizeOf,typeInfo,hi,hl,hst]
theorem Bh(w:World)(dT sT ty elem:TypeId)(x a:Option Addr)(dLen dCap sLen sCap:Nat)(i:TypeInfo)(hu:P.underlying dT=some (.slice elem))(hi:P.info? elem=some i)(hn:Nat.min sLen dLen=0):
  (Builtin.copy_ #[dT,sT] ty #[.slice x dLen dCap,.slice a sLen sCap]).run P w= .ok (goInt 0) w:=by
 have hl: ∀(x:Addr),(loadCells x 0).run P w= .ok #[] w:=fun x=>by simpa using run_loadCells_list (P:=P) w x [] (by simp)
 cases x<;>cases a<;>simp[Builtin.copy_,run_underlying hu,Builtin.lenOf,Builtin.firstCells,Go.sizeOf,typeInfo,hi,hn,storeCells,hl]
def J3(T:Ty)(σ:St):Op→Option (Nat×Nat×List D×List D)
 | .call c=>match c.callee with
   | .builtin .copy=>match c.args.toList,c.argTypes.toList with
     | [x,y],[t,u]=>match T.get t,ex T σ.get t x,ex T σ.get u y with
       | some ti,some (.al h),some (.d (.sl s ys))=>match σ.get h with
         | some (.ow e l)=>match Nat.beq ti.kind 4,Nat.beq e ti.elem,T.get ti.elem with
           | true,true,some te=>match Nat.beq te.size s with
             | true=>some (h,e,l,ys)
             | _=>none
           | _,_,_=>none
         | _=>none
       | _,_,_=>none
     | _,_=>none
   | _=>none
 | _=>none
theorem ez.FA(hT:bH P T){h e:Nat}{l ys:List D}(hd:o.dst=some d)(hdn:d<n)(hx:J3 T σ o.op=some (h,e,l,ys)):
  ez P B F0 w0 n o σ ((d,.d (.v (.int .i64 ((min ys.length l.length:Nat):Int))))::(h,.ow e (ys.take (min ys.length l.length)++l.drop (min ys.length l.length)))::σ):=by
 intro a w hR K Q hK;obtain ⟨O,hOr,hO⟩:=hR.own;have hI:Inv P B F0 w0 (fun _=>True) σ.get σ.get a w O:=⟨hR.below,hR.base,hR.f0,hOr,fun t _ av h=>hO t av h,fun t av h _=>hO t av h⟩;obtain ⟨dst,op,ty,pos,after,guard⟩:=o;simp only[] at hd hx;subst hd;cases op<;>simp only[J3] at hx<;>try (cases hx;done)
 rename_i c;obtain ⟨callee,args,ats⟩:=c;simp only[] at hx;split at hx<;>try (cases hx;done)
 split at hx<;>try (cases hx;done)
 rename_i x y t u hxy htu;split at hx<;>try (cases hx;done)
 rename_i ti h' s ys' hti hxe hye;split at hx<;>try (cases hx;done)
 rename_i e' l' hav;split at hx<;>try (cases hx;done)
 rename_i te hk hee hte;split at hx<;>simp at hx;rename_i hts;obtain ⟨rfl,rfl,rfl,rfl⟩:=hx;have hee:=Nat.eq_of_beq_eq_true hee;subst hee;have hts:=Nat.eq_of_beq_eq_true hts;subst hts;have hargs:args= #[x,y]:=by apply Array.ext';simpa using hxy
 have hats:ats= #[t,u]:=by apply Array.ext';simpa using htu
 subst hargs;subst hats;obtain ⟨info,dd,z,hok⟩:=hT t ti hti;obtain ⟨info',dd',z',hok'⟩:=hT _ te hte;have hun:=(hok.jF hk).1;have hsz:info'.size=te.size:=hok'.size;have hcel:P.cellsOf ti.elem=te.size:=hok'.cellsOf;have hw:mQ σ.get (ex T σ.get t x)=some (h',ti.elem,l',0,l'.length):=by rw[hxe];simp only[mQ,hav]
 have hys:zj T σ.get (ex T σ.get u y)=some (te.size,ys'):=by rw[hye];rfl
 rw[hxe] at hw;rw[hye] at hys;obtain ⟨zz,hz,hrow,hlm,cap,hcap,hmax,hv⟩:=iE hI (bj hI (fun _ _=>trivial) hxe 0).1 hw;rw[hav] at hz;simp at hz;subst hz;obtain ⟨ad,cap',hyv,jG,hall⟩:=nX hT hI (bj hI (fun _ _=>trivial) hye 0).1 hys;obtain ⟨k,hkk⟩: ∃k,k=min ys'.length l'.length:=⟨_,rfl⟩;rw[← hkk] at hK;rcases Nat.eq_zero_or_pos k with hk0 | hk0
 ·
  have hval: ∃ax lc cx,a.eval x= .slice ax lc cx∧lc=l'.length:=by
   rcases hv with ⟨hl0,_,_,base,hev⟩ | ⟨b,o1,len,cap1,cs,off,hq,htm,hev,h0',hOb,hb,hu,hcells⟩
   · exact⟨base,0,_,hev,hl0.symm⟩
   · exact⟨_,_,_,hev,rfl⟩
  obtain ⟨ax,lc,cx,hev,hlc⟩:=hval;have hrun:=Bh (P:=P) w t u ty ti.elem ax ad lc cx ys'.length cap' info' hun hok'.hinfo (by rw[hlc];show min _ _=0;omega)
  have hex:(execOp a.eval {dst:=some d,op:= .call {callee:= .builtin .copy,args:= #[x,y],argTypes:= #[t,u]},type:=ty,pos:=pos,after:=after,guard:=guard}).run P w= .ok (.value (goInt 0)) w:=by
   simp[execOp,resolve,invoke,builtin,hev,hyv,hrun]
  refine br hex ?_
  have hsame: ∀k2,St.get ((h',AV.ow ti.elem l')::σ) k2=σ.get k2:=fun k2=>by
   rw[St.aI];split
   · rename_i e1;subst e1;exact hav.symm
   · rfl
  have hR1:Rel P B F0 w0 n ((h',.ow ti.elem l')::σ) a w:=⟨hR.below,hR.base,hR.f0,hR.defers,hR.size,O,hOr,fun t av h=>by
   rw[hsame] at h;obtain ⟨v,h1,h2⟩:=hO t av h;refine⟨v,h1,?_⟩;have:St.get ((h',AV.ow ti.elem l')::σ)=σ.get:=funext hsame
   rw[this];exact h2⟩
  subst hk0;rw[List.take_zero,List.drop_zero,List.nil_append] at hK;obtain ⟨O2,hOr2,hO2⟩:=hR1.own;exact hK _ _ (hR1.put (d:=d) (av:= .d (.v (.int .i64 ((0:Nat):Int)))) (v:=goInt 0) hOr2 hO2 hdn (dy.refl (fun b t hb=>(hOr2 b t hb).2)) (.v rfl))
 rcases hv with ⟨hl0,_⟩ | ⟨b,o1,len,cap1,cs,off,hq,htm,hev,h0',hOb,hb,hu,hcells⟩
 · omega
 rw[hcel] at h0' hu;have hoff:off=0:=by have:=h0'.1;omega
 subst hoff;rcases hall with h | ⟨sa,news,rfl,g1,g2,g3,g4⟩
 · subst h;simp at hkk;omega
 rw[aZ g2] at g1;obtain ⟨s,hs⟩: ∃s,s=te.size:=⟨_,rfl⟩;rw[← hs] at g1 g2 hu hcel hsz;have hlfl:=aZ hu
 have hcsl:l'.length*s≤cs.size:=by
  rcases Nat.eq_zero_or_pos (l'.length*s) with h0 | h0
  · omega
  · obtain ⟨_,u,f2,_⟩:=hcells (l'.length*s-1) _ (a8 (by omega));have:=(Array.getElem?_eq_some_iff.1 f2).1;omega
 have hkl:k*s≤l'.length*s:=Nat.mul_le_mul_right s (by omega);have hky:k*s≤ys'.length*s:=Nat.mul_le_mul_right s (by omega);have hnk:(news.take (k*s)).length=k*s:=by rw[aT];omega
 have hrun:=C9 (P:=P) w t u ty ti.elem b 0 l'.length cap sa ys'.length cap' cs ti.elem (news.take (k*s)) info' hun hok'.hinfo hb
  (by rw[hnk,hsz,hkk]) (fun j v hj=>by
   rw[List.getElem?_take] at hj;split at hj
   · exact g3 j v hj
   · cases hj) (by rw[hnk];omega) (fun v hv=>g4.yQ v (List.mem_of_mem_take hv))
 rw[hnk,Nat.zero_add,List.take_zero,List.nil_append] at hrun;obtain ⟨cs',hcs'⟩: ∃cs',cs'=(news.take (k*s)++cs.toList.drop (k*s)).toArray:=⟨_,rfl⟩;rw[← hcs',show Nat.min ys'.length l'.length=k from hkk.symm] at hrun
 have hss:cs'.size=cs.size:=by
  rw[hcs'];simp only[List.size_toArray,List.length_append,hnk,List.length_drop,Array.length_toList];omega
 have hex:(execOp a.eval {dst:=some d,op:= .call {callee:= .builtin .copy,args:= #[x,y],argTypes:= #[t,u]},type:=ty,pos:=pos,after:=after,guard:=guard}).run P w= .ok (.value (goInt k)) (w.setRow b cs'):=by
  simp[execOp,resolve,invoke,builtin,hev,hyv,hrun]
 refine br hex ?_
 have hR1:Rel P B F0 w0 n ((h',.ow ti.elem (ys'.take k++l'.drop k))::σ) a (w.setRow b cs'):=by
  refine Rel.write hb hss hR hOr hO hav hOb (.inr ⟨_,_,_,hrow,(fu hrow).1,by simp only[List.length_append,aT,List.length_drop];omega,(fu hrow).2.2.symm⟩) (fun v hv hr=>?_) (fu hrow).2.1;rw[htm] at hv;simp at hv;subst hv;refine rF hr hrow hb (setRow_heap w b cs _ ti.elem _ hb) hss (by simp only[List.length_append,aT,List.length_drop];omega) (fun h0=>by subst h0;simp at hkk;omega) (fun x hx=>?_) (fun j dd hj=>?_)
  · rw[hcel];rcases List.mem_append.1 hx with hx | hx
    · exact g2 x (List.mem_of_mem_take hx)
    · exact hu x (List.mem_of_mem_drop hx)
  · have hB: ∀c,aR O (FW B F0 w) c→(w.setRow b cs').heap[c]?=w.heap[c]?:=fun c hc=>setRow_other w b c _ (fun e=>by rw[e,aR,hOb] at hc;cases hc.1);have f2:=aZ (s:=s) (l:=ys'.take k) (fun x hx=>g2 x (List.mem_of_mem_take hx));have e2:flatAll ys'=flatAll (ys'.take k)++flatAll (ys'.drop k):=by rw[← ig,List.take_append_drop]
    have e3:flatAll l'=flatAll (l'.take k)++flatAll (l'.drop k):=by rw[← ig,List.take_append_drop]
    have f3:=aZ (s:=s) (l:=l'.take k) (fun x hx=>hu x (List.mem_of_mem_take hx));rw[aT,show min k ys'.length=k by omega] at f2;rw[aT,show min k l'.length=k by omega] at f3;rw[ig] at hj;have hcg:cs'[j]?=(news.take (k*s)++cs.toList.drop (k*s))[j]?:=by rw[hcs',List.getElem?_toArray]
    rw[hcg];rw[List.getElem?_append] at hj;split at hj
    · rename_i hj2;have h1:(flatAll ys')[j]?=some dd:=by rw[e2,List.getElem?_append_left (by omega)];exact hj
      obtain ⟨q1,v,q2,q3⟩:=g4.get h1;exact⟨q1,v,by rw[List.getElem?_append_left (by omega),List.getElem?_take_of_lt (by omega)];exact q2,q3.mono (fun _ h=>by simpa[aR,FW] using h) hB⟩
    · rename_i hj1
      have h1:(flatAll l')[j]?=some dd:=by
       rw[e3,List.getElem?_append_right (by omega),← hj]
       congr 1
       omega
      obtain ⟨q1,v,q2,q3⟩:=hcells j dd h1
      exact⟨q1,v,by
       rw[List.getElem?_append_right (by omega),List.getElem?_drop];rw[← q2];simp
       congr 1
       omega,q3.mono (fun _ h=>by simpa[aR,FW] using h) hB⟩
 obtain ⟨O2,hOr2,hO2⟩:=hR1.own;exact hK _ _ (hR1.put (d:=d) (av:= .d (.v (.int .i64 (k:Int)))) (v:=goInt k) hOr2 hO2 hdn (dy.refl (fun b t hb=>(hOr2 b t hb).2)) (.v rfl))
theorem ab.FA(hT:bH P T){h e:Nat}{l ys:List D}(hd:o.dst=some d)(hdn:Nat.ble (d+1) n=true)(hg:aH all σ o=true)(hx:J3 T σ o.op=some (h,e,l,ys))
  (hk:ab P B F0 w0 n all rest K ((d,.d (.v (.int .i64 ((min ys.length l.length:Nat):Int))))::(h,.ow e (ys.take (min ys.length l.length)++l.drop (min ys.length l.length)))::σ)):ab P B F0 w0 n all (o::rest) K σ :=
 ab.op hg (ez.FA hT hd (Nat.le_of_ble_eq_true hdn) hx) hk
end
end Lift
namespace Lift
end Lift
namespace Lift
def nz(x:Rat):Bool:=decide (x≠0)
end Lift
namespace Lift
end Lift
namespace Lift
end Lift
namespace Lift
open Go Go.Proofs
structure TD where
 t:RD
 h:Bool
def TQ:Option Rat→TD
 | none=>⟨Qr 0,true⟩
 | some q=>⟨Qr q,false⟩
theorem jD:LQ 1≤1:=by
 have h:=JS 1;rw[wz,show ((1:Int):Rat)=1 from rfl] at h;omega
end Lift
namespace Lift
open Go Go.Proofs
structure PD where
 x:RD
 y:RD
structure PoD where
 t:TD
 l:PD
abbrev VQ(v:V2):PD:=⟨Qr v.1,Qr v.2⟩
abbrev PoQ(p:Option Rat×V2):PoD:=⟨TQ p.1,VQ p.2⟩
end Lift
namespace Lift
open Go Go.Proofs
end Lift
namespace Lift
open Go Go.Proofs
structure DyD where
 c:PD
 m:PD
 r:RD
abbrev DyQ(d:V2×V2×Rat):DyD:=⟨VQ d.1,VQ d.2.1,Qr d.2.2⟩
instance:Inhabited PoD:=⟨PoQ (none,(0,0))⟩
theorem IS{l:List RD}{i:Nat}(hi:i<l.length)(h:(l.getD i default).okB=false):l.all RD.okB=false:=by
 rw[List.all_eq_false];exact⟨l.getD i default,by rw[aE,a8 hi];exact List.getElem_mem hi,by rw[h];simp⟩
theorem Hn{l:List RD}(h: ∀i,i<l.length→(l.getD i default).okB=true):l.all RD.okB=true:=by
 rw[List.all_eq_true];intro x hx;obtain ⟨i,hi,rfl⟩:=List.mem_iff_getElem.1 hx;have:=h i hi;rw[aE,a8 hi] at this;exact this
end Lift
namespace Lift
open Go Go.Proofs
theorem uK{α:Type}(l:List α)(d:α){i:Nat}(h:i<l.length):l.take (i+1)=l.take i++[l.getD i d]:=by
 rw[List.take_add_one,aE,a8 h];rfl
end Lift
namespace Lift
open Go Go.Proofs
instance:Inhabited DyD:=⟨DyQ ((0,0),(0,0),0)⟩
end Lift
namespace Lift
open Go Go.Proofs
end Lift
namespace Lift
open Go Go.Proofs
theorem xY(q:Rat):jS q.num=k7 q:=by
 unfold jS k7;have h0:q.num=0↔q=0:=Rat.num_eq_zero
 have h1:q.num<0↔q<0:=by
  have e1:= @Rat.num_nonneg q;have e2:= @Rat.not_le 0 q;rw[← e2,← e1];omega
 by_cases hz:q=0
 · subst hz;rfl
 · rw[if_neg hz];by_cases hl:q<0
   · rw[if_pos hl,if_pos (h1.2 hl)]
   · rw[if_neg hl,if_neg (fun h=>hl (h1.1 h)),if_neg (fun h=>hz (h0.1 h))]
end Lift
namespace Lift
open Go Go.Proofs
abbrev ah(a:NQ):D:= .sl 3 (fa a)
abbrev bt(rt:List NQ):D:= .ag [.sl 1 (rt.map ah)]
theorem zn{k:Nat}(hk:k≤43):IntKind.i64.wrap ((1:Int)*2^(min k IntKind.i64.bits))=((2^k:Nat):Int):=by
 have hb:IntKind.i64.bits=64:=rfl;have h:2^k≤2^43:=Nat.pow_le_pow_right (by decide) hk;rw[hb,Nat.min_eq_left (by omega),show (1:Int)*2^k=((2^k:Nat):Int) by push_cast;omega];generalize 2^k=m at h;rw[aF (by omega) (by omega)]
theorem mY(xs:List D)(r:Int)(hx:xs.length≤4398046511104)(hr: ∀k:Nat,k≤43→xs.length≤2^k→(∀j,j<k→2^j<xs.length)→r=if 2^k=xs.length then (k:Int) else -1):Pure Tryz.prog 102 [.sl 3 xs] (dI r):=by
 refine qJ 17 Tryz.func102 rfl rfl rfl rfl (by kernel_rfl) (fun B F0 w0=>?_);refine qX 1 rfl ?_;refine qK 1 rfl ?_;refine qI (AW.block ?_);refine AW.aG [0,3] (fun k:Nat=>[(0,.d (.sl 3 xs)),(3,.d (dI k))]) (fun k=>k≤43∧ ∀j,j<k→2^j<xs.length) (fun k=>43-k) 0 rfl ⟨Nat.zero_le _,fun j h=>by omega⟩ (fun k hi=>?_)
 · obtain ⟨hk,hi⟩:=hi;show AW _ _ _ _ _ _ _ [(0,.d (.sl 3 xs)),(3,.d (dI k))];have hp:2^k≤2^43:=Nat.pow_le_pow_right (by decide) hk;refine AW.seq (qX 2 rfl ?_);rw[zn hk];refine qU 3 rfl ?_;refine ab.nil ?_;refine AW.cond rfl (fun h=>?_) (fun h=>?_)
   · have h:2^k<xs.length:=by have:=aq h;omega
     have hk4:k≠43:=fun e=>by subst e;omega
     refine AW.skip (AW.block ?_);refine qT 2 rfl ?_;rw[aF (x:=(k:Int)+1) (by omega) (by omega)];refine qU 1 rfl ?_;refine ab.nil ?_
     exact⟨k+1,rfl,⟨by omega,fun j hj=>by
      by_cases e:j=k
      · rw[e];exact h
      · exact hi j (by omega)⟩,by omega⟩
   have h: ¬2^k<xs.length:=by have:=au h;omega
   rw[hr k hk (by omega) hi];refine AW.exit (AW.seq ?_);refine qX 2 rfl ?_;rw[zn hk];refine qU 3 rfl ?_;refine ab.nil ?_;by_cases e:2^k=xs.length
   · rw[if_pos e,e,bne_eq_false_iff_eq.2 rfl];refine AW.aA rfl ?_;refine AW.skip (qX 2 rfl ?_);exact qN rfl
   rw[if_neg e,bne_iff_ne.2 (fun h=>e (by omega))];refine AW.aL rfl ?_;refine qX 1 rfl ?_;exact qN rfl
theorem jJ{i j:Nat}(h:2^i≤2^j):i≤j:=(Nat.pow_le_pow_iff_right (a:=2) (by decide)).1 h
theorem eP(xs:List D){i:Nat}(h:xs.length=2^i)(hi:i≤42):Pure Tryz.prog 102 [.sl 3 xs] (dI i):=by
 have hp:2^i≤2^42:=Nat.pow_le_pow_right (by decide) hi;refine mY xs i (by omega) (fun k hk h1 h2=>?_);rw[h] at h1;have h1:=jJ h1;by_cases e:i<k
 · have:=h2 i e;omega
 · have e:i=k:=by omega
   rw[if_pos (by rw[h,e]),e]
theorem mF(xs:List D)(h: ∀i,xs.length≠2^i)(hx:xs.length≤4398046511104):Pure Tryz.prog 102 [.sl 3 xs] (dI (-1)):=by
 refine mY xs (-1) hx (fun k hk h1 h2=>?_);rw[if_neg (fun e=>h k e.symm)]
theorem uB{a:NQ}{i:Nat}(hi:i<a.length)(h:a.getD i 0≠0):bF a=false:=by
 unfold bF;rw[List.all_eq_false];exact⟨a.getD i 0,by rw[aE,a8 hi];exact List.getElem_mem hi,by rw[aO h];simp⟩
theorem rv{a:NQ}(h: ∀i,i<a.length→a.getD i 0=0):bF a=true:=by
 unfold bF;rw[List.all_eq_true];intro x hx;obtain ⟨i,hi,rfl⟩:=List.mem_iff_getElem.1 hx;have:=h i hi;rw[aE,a8 hi] at this;exact aN this
theorem oK(a:NQ){k:Nat}(hs:ay k a)(hk:k≤17300000000000)(hl:a.length≤1000000):Pure Tryz.prog 105 [ah a] (dB (bF a)):=by
 refine qJ 15 Tryz.func105 rfl rfl rfl rfl (by kernel_rfl) (fun B F0 w0=>?_);have hno:=fun i hi=>uB (a:=a) (i:=i) hi;have hyes:=rv (a:=a);generalize bF a=E at hno hyes ⊢;refine qX 1 rfl ?_;refine qI (qX 2 rfl ?_);rw[ae];refine qU 1 rfl ?_;refine ab.nil ?_;refine AW.block ?_;refine AW.aG [5,6,7] (fun i:Nat=>[(5,.d (ah a)),(6,.d (dI a.length)),(7,.d (dI i))]) (fun i=> ∀j,j<i→j<a.length→a.getD j 0=0) (fun i=>a.length-i) 0 rfl (fun j h=>by omega) (fun i hi=>?_)
 · show AW _ _ _ _ _ _ _ [(5,.d (ah a)),(6,.d (dI a.length)),(7,.d (dI i))];refine qX 1 rfl ?_;refine qI ?_;refine AW.cond rfl (fun h=>?_) (fun h=>?_)
   · have hii:i<a.length:=by have:=aq h;omega
     have g:=mu hii;have cs:=lN (Qr (a.getD i 0)) (jB _ (hs i)) hk;have hn:=hno i hii;rw[cG] at cs;have s0:=J9 (q:=a.getD i 0);generalize hq:a.getD i 0=q at g cs hn s0;generalize jS q.num=s at cs s0;refine AW.skip (AW.seq (AW.block (AW.seq (AW.region ?_))));refine ab.idx tok (Qr q).D rfl rfl rfl rfl (aj i) g ?_;refine qU 3 rfl ?_;refine qK 1 rfl ?_;refine ab.call tok rfl rfl rfl rfl cs ?_;refine qU 1 rfl ?_;refine ab.nil ?_;refine AW.cond rfl (fun h=>?_) (fun h=>?_)
     · have h:s≠0:=bne_iff_ne.1 h;rw[hn (fun e=>h (s0.2 e))];refine qX 1 rfl ?_;exact qN rfl
     · have h:s=0:=bne_eq_false_iff_eq.1 h;refine AW.skip (qT 1 rfl ?_);rw[aF (x:=(i:Int)+1) (by omega) (by omega)];refine qU 1 rfl ?_;refine ab.nil ?_;refine⟨i+1,rfl,fun j h1 h2=>?_,by omega⟩;by_cases e:j=i
       · rw[e,hq];exact s0.1 h
       · exact hi j (by omega) h2
   have hii: ¬i<a.length:=by have:=au h;omega
   rw[hyes (fun j h=>hi j (by omega) h)];refine AW.exit ?_;refine qX 1 rfl ?_;exact qN rfl
theorem F4(q:Rat):((Qr q).g=false∧(Qr q).n.length=0∧(Qr q).d.length=0)↔q=0:=by
 constructor
 · rintro ⟨_,h,_⟩
   have:=RD.p0 (r:=Qr q) (List.length_eq_zero_iff.1 h);rw[cG] at this;exact this
 · intro e;subst e;rw[jO];exact⟨rfl,rfl,rfl⟩
theorem mZ(a:NQ)(hl:a.length≤1000000):Pure Tryz.prog 104 [ah a] (dB (bF a)):=by
 refine qJ 26 Tryz.func104 rfl rfl rfl rfl (by kernel_rfl) (fun B F0 w0=>?_);have hno:=fun i hi=>uB (a:=a) (i:=i) hi;have hyes:=rv (a:=a);generalize bF a=E at hno hyes ⊢;refine qX 1 rfl ?_;refine qI (qX 2 rfl ?_);rw[ae];refine qU 1 rfl ?_;refine ab.nil ?_;refine AW.block ?_;refine AW.aG [5,6,7] (fun i:Nat=>[(5,.d (ah a)),(6,.d (dI a.length)),(7,.d (dI i))]) (fun i=> ∀j,j<i→j<a.length→a.getD j 0=0) (fun i=>a.length-i) 0 rfl (fun j h=>by omega) (fun i hi=>?_)
 · show AW _ _ _ _ _ _ _ [(5,.d (ah a)),(6,.d (dI a.length)),(7,.d (dI i))];refine qX 1 rfl ?_;refine qI ?_;refine AW.cond rfl (fun h=>?_) (fun h=>?_)
   · have hii:i<a.length:=by have:=aq h;omega
     have g:=mu hii;have hn:=hno i hii;have s0:=F4 (a.getD i 0);generalize hq:a.getD i 0=q at g hn s0;generalize Qr q=y at g s0;obtain ⟨yg,yn,yd⟩:=y;simp only[] at s0;refine AW.skip (AW.seq (AW.block (AW.seq (AW.region ?_))));refine ab.idx tok (RD.mk yg yn yd).D rfl rfl rfl rfl (aj i) g ?_;refine qU 3 rfl ?_;refine qK 3 rfl ?_;cases yg with
     | true =>
       refine qU 11 rfl ?_;refine ab.nil ?_;refine AW.aL rfl ?_;rw[hn (fun e=>by have:=s0.2 e;cases this.1)];refine qX 1 rfl ?_;exact qN rfl
     | false =>
     refine qU 3 rfl ?_;rw[bo];refine qU 1 rfl ?_;by_cases h1:(0:Int)<(yn.length:Int)
     · rw[aN h1];refine qU 7 rfl ?_;refine ab.nil ?_;refine AW.aL rfl ?_;rw[hn (fun e=>by have:=(s0.2 e).2.1;omega)];refine qX 1 rfl ?_;exact qN rfl
     rw[aO h1];refine qU 5 rfl ?_;rw[bo];refine qU 1 rfl ?_;by_cases h2:(0:Int)<(yd.length:Int)
     · rw[aN h2];refine qU 1 rfl ?_;refine ab.nil ?_;refine AW.aL rfl ?_;rw[hn (fun e=>by have:=(s0.2 e).2.2;omega)];refine qX 1 rfl ?_;exact qN rfl
     rw[aO h2];refine qU 1 rfl ?_;refine ab.nil ?_;refine AW.aA rfl ?_;refine AW.skip (qT 1 rfl ?_);rw[aF (x:=(i:Int)+1) (by omega) (by omega)];refine qU 1 rfl ?_;refine ab.nil ?_;refine⟨i+1,rfl,fun j h1 h2=>?_,by omega⟩;by_cases e:j=i
     · rw[e,hq];exact s0.1 ⟨rfl,by omega,by omega⟩
     · exact hi j (by omega) h2
   have hii: ¬i<a.length:=by have:=au h;omega
   rw[hyes (fun j h=>hi j (by omega) h)];refine AW.exit ?_;refine qX 1 rfl ?_;exact qN rfl
end Lift
namespace Lift
open Go Go.Proofs
section
variable {P:Program} {T:Ty} {B:Nat} {F0:Nat→Prop} {w0:c7} {n:Nat} {σ τ:St} {K:St→Prop} {all:Array Oper} {o:Oper} {d:Nat} {rest:List Oper}
theorem ab.HE(hT:bH P T)(z:Nat){e:Nat}{te:TI}{m:Int}(hd:o.dst=some d)(hdn:Nat.ble (d+1) n=true)(hg:aH all σ o=true)(hx:I6 T σ.get o.op=some (e,te,m))(hz:lX te=true)(hzd:uC te= .ag [.v (.bool false),.sl 1 [],.sl 1 []])(hb:te.bytes=56)(hm:m=z)(h1:z≤1000000)
  (h:ab P B F0 w0 n all rest K ((d,.ow e (fa (List.replicate z 0)))::σ.kill d)):ab P B F0 w0 n all (o::rest) K σ:=by
 subst hm;refine ab.make hT hd hdn hg hx hz (by omega) (by rw[hb];omega) (by omega) ?_;have hq:(Qr 0).D= .ag [.v (.bool false),.sl 1 [],.sl 1 []]:=by rw[jO];rfl
 rw[hzd,← hq,show List.replicate ((z:Int)).toNat (Qr 0).D=fa (List.replicate z 0) by rw[fa,List.map_replicate];rfl];exact h
theorem DK(a:NQ)(m:Nat):(fa a).take (min (fa a).length (fa (List.replicate m 0)).length)++(fa (List.replicate m 0)).drop (min (fa a).length (fa (List.replicate m 0)).length)=fa (bq a m):=by
 rw[ae,ae,List.length_replicate,← List.map_take,← List.map_drop,← List.map_append];unfold bq;rw[List.drop_replicate]
 congr 2
 · by_cases h:a.length≤m
   · rw[Nat.min_eq_left h,List.take_of_length_le (ak _),List.take_of_length_le h]
   · rw[Nat.min_eq_right (by omega)]
 · congr 1;omega
theorem ab.JK(hT:bH P T){h e m:Nat}{a:NQ}(hd:o.dst=some d)(hdn:Nat.ble (d+1) n=true)(hg:aH all σ o=true)(hx:J3 T σ o.op=some (h,e,fa (List.replicate m 0),fa a))
  (hk: ∀z,ab P B F0 w0 n all rest K ((d,.d (.v (.int .i64 z)))::(h,.ow e (fa (bq a m)))::σ)):ab P B F0 w0 n all (o::rest) K σ:=by
 refine ab.FA hT hd hdn hg hx ?_;rw[DK];exact hk _
end
theorem Bz{a b:NQ}(h:a.length=b.length)(h2: ∀i,i<a.length→a.getD i 0=b.getD i 0):a=b:=by
 refine List.ext_getElem h (fun i h3 h4=>?_);have:=h2 i h3;rw[aE,aE,a8 h3,a8 h4] at this;exact this
theorem BO(r:NQ)(i j:Nat)(q:Rat):(r.set i q).getD j 0=if j=i∧i<r.length then q else r.getD j 0:=by
 rw[aE,List.getElem?_set,aE];by_cases e:i=j
 · subst e;by_cases h:i<r.length
   · rw[if_pos rfl,if_pos h,if_pos ⟨rfl,h⟩];rfl
   · rw[if_pos rfl,if_neg h,if_neg (fun e=>h e.2),List.getElem?_eq_none (by omega)]
 · rw[if_neg e,if_neg (fun h=>e h.1.symm)]
def Ex(r:NQ)(res:D)(R':List LR):Prop:= ∃V,res= .v V∧R'=[(V,AV.ow 111 (fa r))]
theorem iV(a:NQ)(n:Nat)(hn:n≤1000000):jn Tryz.prog 125 [ah a,dI n] [] (Ex (bq a n)):=by
 refine jn.intro (n:=12) tok Tryz.func125 rfl rfl rfl (Nat.le_of_ble_eq_true rfl) (by kernel_rfl) (fun B F0 w0=>?_);refine AZ.seq (AZ.cQ (fun B1 F1 w1=>?_));refine qU 1 rfl ?_;refine ab.nil ⟨rfl,?_⟩;refine AZ.seq (AZ.cQ (fun B1 F1 w1=>?_));refine qU 1 rfl ?_;refine ab.HE tok n rfl rfl rfl rfl rfl rfl rfl rfl hn ?_;refine qU 1 rfl ?_;refine ab.nil ⟨rfl,?_⟩;refine AZ.seq (AZ.cQ (fun B1 F1 w1=>?_));refine qU 2 rfl ?_;refine ab.JK tok (a:=a) (m:=n) rfl rfl rfl rfl (fun z=>?_);refine ab.nil ⟨rfl,?_⟩;refine AZ.seq (AZ.cQ (fun B1 F1 w1=>?_));refine qU 2 rfl ?_;refine ab.nil ⟨rfl,?_⟩;refine AZ.iM 4 rfl rfl rfl (fun V=>AZ.ret ⟨.v V,rfl,V,rfl,rfl⟩)
theorem fo(a:NQ){k:Nat}(hs:ay k a)(hk:k≤17300000000000)(hl:a.length≤1000000):Pure Tryz.prog 86 [ah a] (ah (aM a)):=by
 refine qJ 23 Tryz.func86 rfl rfl rfl rfl (by kernel_rfl) (fun B F0 w0=>?_);refine qX 1 rfl ?_;refine qK 2 rfl ?_;rw[ae];refine ab.HE tok a.length rfl rfl rfl rfl rfl rfl rfl rfl hl ?_;refine qU 1 rfl ?_;refine qI (qX 2 rfl ?_);rw[ae];refine qU 1 rfl ?_;refine ab.nil ?_;refine AW.block ?_;refine AW.aG [0,3,9,10] (fun s:Nat×NQ=>[(0,.d (ah a)),(3,.ow 111 (fa s.2)),(9,.d (dI a.length)),(10,.d (dI s.1))]) (fun s=>s.2.length=a.length∧ ∀j,j<s.1→j<a.length→s.2.getD j 0= -a.getD j 0) (fun s=>a.length-s.1) (0,List.replicate a.length 0) rfl ⟨List.length_replicate,fun j h=>by omega⟩ (fun s hi=>?_)
 · obtain ⟨i,r⟩:=s;obtain ⟨hrl,hi⟩:=hi;simp only[] at hrl hi;show AW _ _ _ _ _ _ _ [(0,.d (ah a)),(3,.ow 111 (fa r)),(9,.d (dI a.length)),(10,.d (dI i))];refine qX 1 rfl ?_;refine qI ?_;refine AW.cond rfl (fun h=>?_) (fun h=>?_)
   · have hii:i<a.length:=by have:=aq h;omega
     have g:=mu hii;have cn:=tO (Qr (a.getD i 0)) (jB _ (hs i)) hk;rw[cG] at cn;refine AW.skip (AW.seq (AW.block ?_));refine qX 2 rfl ?_;refine ab.nil ?_;refine qT 4 rfl ?_;refine ab.idx tok (Qr (a.getD i 0)).D rfl rfl rfl rfl (aj i) g ?_;refine qU 1 rfl ?_;refine ab.call tok rfl rfl rfl rfl cn ?_;refine ab.fR tok rfl rfl rfl rfl (aj i) (by rw[ae];show i<_;omega) ?_;refine ab.A9 tok (-a.getD i 0) rfl rfl rfl (by show i<_;omega) ?_;refine ab.nil ?_;refine qT 1 rfl ?_;rw[aF (x:=(i:Int)+1) (by omega) (by omega)];refine qU 1 rfl ?_;refine ab.nil ?_;refine⟨(i+1,r.set i (-a.getD i 0)),rfl,⟨by rw[List.length_set];exact hrl,fun j h1 h2=>?_⟩,by show a.length-(i+1)<a.length-i;omega⟩;show (r.set i (-a.getD i 0)).getD j 0=_;rw[BO];by_cases e:j=i
     · rw[if_pos ⟨e,by omega⟩,e]
     · rw[if_neg (fun h=>e h.1)];exact hi j (by omega) h2
   have hii: ¬i<a.length:=by have:=au h;omega
   obtain rfl:r=aM a:=Bz (by rw[hrl,bB]) (fun j hj=>by rw[pB];exact hi j (by omega) (by omega));refine AW.exit ?_;refine qX 2 rfl ?_;exact qN rfl
theorem Iq(a b:Nat):(if (b:Int)>(a:Int) then (b:Int) else (a:Int))=((max a b:Nat):Int):=by
 split<;>omega
theorem dO(a b:NQ){k:Nat}(ha:ay k a)(hb:ay k b)(hk:k≤17300000000000)(hl:a.length≤1000000)(hl2:b.length≤1000000):Pure Tryz.prog 85 [ah a,ah b] (ah (aW a b)):=by
 refine qJ 37 Tryz.func85 rfl rfl rfl rfl (by kernel_rfl) (fun B F0 w0=>?_);obtain ⟨n,hn⟩: ∃n,n=max a.length b.length:=⟨_,rfl⟩;have cw1:=iV a n (by omega);have cw2:=iV b n (by omega);have l1:=bM a n;have l2:=bM b n;have g1: ∀i,i<n→(bq a n).getD i 0=a.getD i 0:=fun i hi=>by rw[gz,if_pos hi]
 have g2: ∀i,i<n→(bq b n).getD i 0=b.getD i 0:=fun i hi=>by rw[gz,if_pos hi]
 have hpl:(aW a b).length=n:=by rw[jV,hn]
 generalize bq a n=wa at cw1 l1 g1;generalize bq b n=wb at cw2 l2 g2;refine qX 1 rfl ?_;refine qK 4 rfl ?_;rw[ae,ae];refine qU 2 rfl ?_;rw[Iq,← hn];refine qI (AZ.aw ?_);refine AZ.region ?_;refine ai.cut 2 rfl (fun B1 F1 w1=>?_);refine qU 2 rfl ?_;refine ab.nil ⟨rfl,?_⟩;refine ai.iD tok [] rfl rfl rfl rfl rfl List.nodup_nil rfl cw1 (fun _ _ _=>Nat.zero_le _) (fun res R1 hP=>?_);obtain ⟨V1,rfl,rfl⟩:=hP;refine ai.cut 2 rfl (fun B1 F1 w1=>?_);refine qU 2 rfl ?_;refine ab.nil ⟨rfl,?_⟩;refine ai.iD tok [] rfl rfl rfl rfl rfl List.nodup_nil rfl cw2 (fun _ _ _=>Nat.zero_le _) (fun res R1 hP=>?_);obtain ⟨V2,rfl,rfl⟩:=hP;refine ai.cut 2 rfl (fun B1 F1 w1=>?_);refine qU 2 rfl ?_;refine ab.nil ⟨rfl,?_⟩;refine ai.to [0,1] [(0,.d (.v V1)),(1,.d (.v V2))] rfl ?_;refine ai.c8 0 0 (V:=V1) (av:= .ow 111 (fa wa)) rfl rfl rfl ?_;refine ai.to [0,1] [(0,.ow 111 (fa wa)),(1,.d (.v V2))] rfl ?_;refine ai.c8 1 1 (V:=V2) (av:= .ow 111 (fa wb)) rfl rfl rfl ?_;refine ai.to [0,1] [(0,.ow 111 (fa wa)),(1,.ow 111 (fa wb))] rfl ?_;refine ai.nil ?_;refine AW.fT tok 1 rfl rfl ?_;refine AW.seq (qX 2 rfl ?_);rw[ae,l1];refine qU 1 rfl ?_;refine ab.nil ?_;refine AW.block ?_;refine AW.aG [0,1,19,20] (fun s:Nat×NQ=>[(0,.ow 111 (fa s.2)),(1,.d (ah wb)),(19,.d (dI n)),(20,.d (dI s.1))]) (fun s=>s.2.length=n∧ ∀j,j<n→s.2.getD j 0=if j<s.1 then a.getD j 0+b.getD j 0 else a.getD j 0) (fun s=>n-s.1) (0,wa) rfl ⟨l1,fun j h=>by rw[if_neg (Nat.not_lt_zero _)];exact g1 j h⟩ (fun s hi=>?_)
 · obtain ⟨i,r⟩:=s;obtain ⟨hrl,hi⟩:=hi;simp only[] at hrl hi;show AW _ _ _ _ _ _ _ [(0,.ow 111 (fa r)),(1,.d (ah wb)),(19,.d (dI n)),(20,.d (dI i))];refine qX 1 rfl ?_;refine qI ?_;refine AW.cond rfl (fun h=>?_) (fun h=>?_)
   · have hii:i<n:=by have:=aq h;omega
     have e1:=mu (r:=r) (i:=i) (by omega);have e2:=mu (r:=wb) (i:=i) (by omega);rw[hi i hii,if_neg (Nat.lt_irrefl _)] at e1;rw[g2 i hii] at e2;have ca:=mM (Qr (a.getD i 0)) (Qr (b.getD i 0)) (jB _ (ha i)) (jB _ (hb i)) hk;rw[cG,cG] at ca;refine AW.skip (AW.seq (AW.block ?_));refine qX 2 rfl ?_;refine ab.nil ?_;refine AW.draw aQ 12 (by kernel_rfl) ?_;refine qP 4 rfl ?_;refine af.fR tok rfl rfl rfl rfl rfl rfl (aj i) (by rw[ae];show i<_;omega) ?_;refine af.dh tok (Qr (a.getD i 0)).D rfl rfl rfl rfl rfl e1 rfl ?_;refine qP 2 rfl ?_;refine af.idx tok (Qr (b.getD i 0)).D rfl rfl rfl rfl rfl (aj i) e2 ?_;refine qP 1 rfl ?_;refine af.call tok rfl rfl rfl rfl rfl ca ?_;refine af.fR tok rfl rfl rfl rfl rfl rfl (aj i) (by rw[ae];show i<_;omega) ?_;refine af.nil ?_;refine ab.A9 tok (a.getD i 0+b.getD i 0) rfl rfl rfl (by show i<_;omega) ?_;refine ab.nil ?_;refine qT 1 rfl ?_;rw[aF (x:=(i:Int)+1) (by omega) (by omega)];refine qU 1 rfl ?_;refine ab.nil ?_;refine⟨(i+1,r.set i (a.getD i 0+b.getD i 0)),rfl,⟨by rw[List.length_set];exact hrl,fun j h1=>?_⟩,by show n-(i+1)<n-i;omega⟩;show (r.set i (a.getD i 0+b.getD i 0)).getD j 0=if j<i+1 then _ else _
     rw[BO];by_cases e:j=i
     · rw[if_pos ⟨e,by omega⟩,e,if_pos (by omega)]
     · rw[if_neg (fun h=>e h.1),hi j h1];by_cases h2:j<i
       · rw[if_pos h2,if_pos (by omega)]
       · rw[if_neg h2,if_neg (by omega)]
   have hii: ¬i<n:=by have:=au h;omega
   obtain rfl:r=aW a b:=Bz (by rw[hrl,hpl]) (fun j hj=>by rw[n9,hi j (by omega),if_pos (by omega)]);refine AW.exit ?_;refine qX 2 rfl ?_;exact qN rfl
theorem kR(a b:NQ)(n:Nat)(hn:n≤100000):Pure Tryz.prog 107 [ah a,ah b,dI n] (ah (dL a b n)):=by
 refine qJ 14 Tryz.func107 rfl rfl rfl rfl (by kernel_rfl) (fun B F0 w0=>?_);have cw1:=iV a n (by omega);have cw2:=iV b n (by omega);have l1:=bM a n;have l2:=bM b n;unfold dL;generalize bq a n=wa at cw1 l1 ⊢;generalize bq b n=wb at cw2 l2 ⊢;refine qX 1 rfl ?_;refine qI (AZ.aw ?_);refine AZ.region ?_;refine ai.cut 2 rfl (fun B1 F1 w1=>?_);refine qU 2 rfl ?_;refine ab.nil ⟨rfl,?_⟩;refine ai.iD tok [] rfl rfl rfl rfl rfl List.nodup_nil rfl cw1 (fun _ _ _=>Nat.zero_le _) (fun res R1 hP=>?_);obtain ⟨V1,rfl,rfl⟩:=hP;refine ai.cut 2 rfl (fun B1 F1 w1=>?_);refine qU 2 rfl ?_;refine ab.nil ⟨rfl,?_⟩;refine ai.iD tok [] rfl rfl rfl rfl rfl List.nodup_nil rfl cw2 (fun _ _ _=>Nat.zero_le _) (fun res R1 hP=>?_);obtain ⟨V2,rfl,rfl⟩:=hP;refine ai.to [9,12] [(9,.d (.v V1)),(12,.d (.v V2))] rfl ?_;refine ai.c8 9 0 (V:=V1) (av:= .ow 111 (fa wa)) rfl rfl rfl ?_;refine ai.to [9,12] [(9,.ow 111 (fa wa)),(12,.d (.v V2))] rfl ?_;refine ai.c8 12 1 (V:=V2) (av:= .ow 111 (fa wb)) rfl rfl rfl ?_;refine ai.to [9,12] [(9,.ow 111 (fa wa)),(12,.ow 111 (fa wb))] rfl ?_;refine ai.cut 2 rfl (fun B1 F1 w1=>?_);refine ab.fT tok 12 rfl rfl ?_;refine ab.gv tok rfl rfl rfl rfl rfl rfl (by rw[ae,ae,l1,l2];show (_+_)*56≤_;omega) (by rw[ae,ae,l1,l2];omega) ?_;refine qU 1 rfl ?_;refine ab.nil ⟨rfl,?_⟩;refine ai.nil ?_;rw[show fa wa++fa wb=fa (wa++wb) from List.map_append.symm];exact AW.ret rfl
theorem jo(a:NQ){k:Nat}(hs:ay k a)(hk:k≤17300000000000)(hl:a.length≤1000000):Pure Tryz.prog 103 [ah a] (ah a):=by
 refine qJ 28 Tryz.func103 rfl rfl rfl rfl (by kernel_rfl) (fun B F0 w0=>?_);refine qX 1 rfl ?_;refine qK 1 rfl ?_;refine qI (qX 2 rfl ?_);rw[ae];refine qU 1 rfl ?_;refine ab.nil ?_;refine AW.block ?_;refine AW.aG [3,6,7,8] (fun i:Nat=>[(3,.ow 111 (fa (a.take i))),(6,.d (ah a)),(7,.d (dI a.length)),(8,.d (dI i))]) (fun i=>i≤a.length) (fun i=>a.length-i) 0 rfl (Nat.zero_le _) (fun i hi=>?_)
 · have hi:i≤a.length:=hi;show AW _ _ _ _ _ _ _ [(3,.ow 111 (fa (a.take i))),(6,.d (ah a)),(7,.d (dI a.length)),(8,.d (dI i))];refine qX 1 rfl ?_;refine qI ?_;refine AW.cond rfl (fun h=>?_) (fun h=>?_)
   · have hii:i<a.length:=by have:=aq h;omega
     have g:=mu hii;have hw:=jB _ (hs i);have htk:=uK a 0 hii;have hol:(a.take i).length=i:=by rw[aT];omega
     generalize a.getD i 0=q at g hw htk;have hw1:=hw.2.2.1;have hw2:=hw.2.2.2;refine AW.skip (AW.seq (AW.block (AW.seq (AW.region ?_))));refine ab.idx tok (Qr q).D rfl rfl rfl rfl (aj i) g ?_;refine qU 3 rfl ?_;refine ab.nil ?_;refine AW.draw aQ 13 (by kernel_rfl) ?_;refine qP 6 rfl ?_;refine af.nQ tok rfl rfl rfl rfl rfl (by show (((Qr q).n.map wd).length)*4≤_;rw[bo];omega) ?_;refine qP 3 rfl ?_;refine af.nQ tok rfl rfl rfl rfl rfl (by show (((Qr q).d.map wd).length)*4≤_;rw[bo];omega) ?_;refine qP 1 rfl ?_;refine af.fj tok rfl rfl rfl rfl rfl rfl ?_;refine af.nil ?_;refine ab.gv tok rfl rfl rfl rfl rfl rfl (by rw[ae,hol];show (_+1)*56≤_;omega) (by rw[ae,hol];show _+1≤_;omega) ?_;refine qU 1 rfl ?_;refine ab.nil ?_;refine qT 1 rfl ?_;rw[aF (x:=(i:Int)+1) (by omega) (by omega)];refine qU 1 rfl ?_;refine ab.nil ?_;exact⟨i+1,by rw[htk];show _=[(3,AV.ow _ (List.map _ _)),_,_,_];rw[List.map_append];rfl,hii,by omega⟩
   have hii:i=a.length:=by have:=au h;omega
   subst hii;rw[List.take_length];refine AW.exit ?_;refine qX 2 rfl ?_;exact qN rfl
end Lift
namespace Lift
open Go Go.Proofs
section
variable {P:Program} {T:Ty} {B:Nat} {F0:Nat→Prop} {w0:c7} {n:Nat} {σ σ0 τ:St} {K:St→Prop} {all ops:Array Oper} {o:Oper} {d:Nat} {ds:List Nat} {rest:List Oper}
theorem Cj(a:NQ)(lo hi:Option Int):((fa a).take (cR (fa a).length hi)).drop (fK lo)=fa ((a.take (cR a.length hi)).drop (fK lo)):=by
 show List.drop _ (List.take (cR (List.map _ a).length hi) (List.map _ a))=List.map _ _;rw[List.map_drop,List.map_take,ae]
theorem ab.fZ(hT:bH P T){a:NQ}{lo hi:Option Int}(x:NQ)(hd:o.dst=some d)(hdn:Nat.ble (d+1) n=true)(hg:aH all σ o=true)(hx:C7 T σ.get o.op=some (ah a,lo,hi))(g1:okB lo)(g2:okB hi)(g3:fK lo≤cR a.length hi)(g4:cR a.length hi≤a.length)(hxx:(a.take (cR a.length hi)).drop (fK lo)=x)
  (h:ab P B F0 w0 n all rest K ((d,.d (ah x))::σ)):ab P B F0 w0 n all (o::rest) K σ:=by
 refine ab.Ck hT hd hdn hg hx g1 g2 (by rw[ae];exact g3) (by rw[ae];exact g4) ?_;rw[Cj,hxx];exact h
theorem af.fZ(hT:bH P T){a:NQ}{lo hi:Option Int}(x:NQ)(hd:o.dst=some d)(hdn:Nat.ble (d+1) n=true)(hg:aH ops τ o=true)(hs:σ0.get d=none)(hx:C7 T τ.get o.op=some (ah a,lo,hi))(g1:okB lo)(g2:okB hi)(g3:fK lo≤cR a.length hi)(g4:cR a.length hi≤a.length)(hxx:(a.take (cR a.length hi)).drop (fK lo)=x)
  (h:af P B F0 w0 n ops ds σ0 rest ((d,.d (ah x))::τ) K):af P B F0 w0 n ops ds σ0 (o::rest) τ K:=by
 refine af.Ck hT hd hdn hg hs hx g1 g2 (by rw[ae];exact g3) (by rw[ae];exact g4) ?_;rw[Cj,hxx];exact h
end
theorem gM(i:Nat)(h:i≤9223372036854775807):mS true .i64 (i:Int) 2= .int .i64 ((i / 2:Nat):Int):=by
 have e:((i:Int).tdiv ((2:Nat):Int))=((i / 2:Nat):Int):=rfl;show Value.int .i64 (IntKind.i64.wrap ((i:Int).tdiv ((2:Nat):Int)))=_;rw[e,aF (by omega) (by omega)]
theorem oW{rt:List NQ}{i:Nat}(h:i<rt.length):(rt.map ah)[i]?=some (ah (rt.getD i [])):=by simp[h]
theorem aC.len{l:Nat}{a:NQ}(h:aC l a)(hl:l≤10):a.length≤1024:=Nat.le_trans h.le (Nat.pow_le_pow_right (n:=2) (by decide) hl)
def iI:Nat→NQ→NQ
 | 0,a=>if bF (a.take 1)=true then [] else a.take 1
 | i+1,a=>if bF ((a.take (2^(i+1))).drop (2^i))=true then iI i a else a.take (2^(i+1))
def ar(a:NQ):NQ:=if a.length=0 then [] else iI a.length.log2 a
theorem Cl: ∀{i:Nat} {a:NQ} {k:Nat},2^i≤a.length→ay k a→aC i (iI i a)∧ay k (iI i a)
 | 0,a,k,h,hs=>by
   unfold iI;split
   · exact⟨bm _,bn hs.pos⟩
   · exact⟨.inr ⟨0,ak _,by rw[aT];have h:1≤a.length:=h;show min 1 _=1;omega⟩,hs.take _⟩
 | i+1,a,k,h,hs=>by
   unfold iI;have e:2^(i+1)=2^i*2:=Nat.pow_succ ..;split
   · have:=Cl (i:=i) (a:=a) (by omega) hs;exact⟨this.1.mono (by omega),this.2⟩
   · exact⟨.inr ⟨i+1,ak _,by rw[aT];omega⟩,hs.take _⟩
theorem a5{l k:Nat}{a:NQ}(h:aC l a)(hs:ay k a):aC l (ar a)∧ay k (ar a):=by
 unfold ar;split
 · exact⟨bm _,bn hs.pos⟩
 rename_i h0;rcases h with e | ⟨i,hi,e⟩
 · exact absurd e h0
 rw[e,Nat.log2_two_pow];have:=Cl (i:=i) (a:=a) (by omega) hs;exact⟨this.1.mono hi,this.2⟩
theorem cM(a:NQ){l k:Nat}(ha:aC l a)(hl:l≤5)(hs:ay k a)(hk:k≤17300000000000):Pure Tryz.prog 62 [ah a] (ah (ar a)):=by
 refine qJ 45 Tryz.func62 rfl rfl rfl rfl (by kernel_rfl) (fun B F0 w0=>?_);have hl10:=ha.len (by omega);rcases ha with h0 | ⟨i,hi,hai⟩
 · obtain rfl:a=[]:=List.length_eq_zero_iff.1 h0;have cl:=mF (fa []) (fun i=>by have:=Nat.two_pow_pos i;show 0≠_;omega) (by decide);have cc:=jo [] hs hk (by decide);refine qX 1 rfl ?_;refine qI (qX 1 rfl ?_);refine ab.call tok rfl rfl rfl rfl cl ?_;refine qU 1 rfl ?_;refine qK 11 rfl ?_;refine ab.nil ?_;refine AW.aA rfl ?_;refine AW.skip (qX 3 rfl ?_);refine qI (AW.block ?_);refine AW.aG [0,4] (fun _:Unit=>[(0,.d (ah [])),(4,.d (dI 0))]) (fun _=>True) (fun _=>0) () rfl trivial (fun _ _=>?_);refine AW.seq (qX 10 rfl ?_);refine ab.nil ?_;refine AW.aA rfl ?_;refine AW.exit (AW.seq ?_);refine qX 7 rfl ?_;refine ab.nil ?_;refine AW.aA rfl ?_;refine AW.skip (qX 2 rfl ?_);refine ab.fZ tok (a:=[]) [] rfl rfl rfl rfl trivial (Int.le_refl _) (ak _) (ak _) rfl ?_;refine ab.call tok rfl rfl rfl rfl cc ?_;refine qU 1 rfl ?_;exact qN rfl
 have cl:=eP (fa a) (by rw[ae];exact hai) (by omega);have hp:=Nat.two_pow_pos i;have hE:ar a=iI i a:=by unfold ar;rw[if_neg (by omega),hai,Nat.log2_two_pow]
 rw[hE];refine qX 1 rfl ?_;refine qI (qX 1 rfl ?_);refine ab.call tok rfl rfl rfl rfl cl ?_;refine qU 1 rfl ?_;refine qK 2 rfl ?_;rw[ae];refine qU 1 rfl ?_;rw[aN (show (0:Int)<(a.length:Int) by omega)];refine qU 3 rfl ?_;rw[aO (show ¬((i:Int)<0) by omega)];refine qU 3 rfl ?_;rw[aO (show ¬((5:Int)<(i:Int)) by omega)];refine qU 2 rfl ?_;refine ab.nil ?_;refine AW.aA rfl ?_;refine AW.skip (qX 2 rfl ?_);rw[ae,hai];refine qU 1 rfl ?_;refine qI (AW.block ?_);refine AW.aG [0,4] (fun j:Nat=>[(0,.d (ah a)),(4,.d (dI (2^j:Nat)))]) (fun j=>j≤i∧iI j a=iI i a) (fun j=>j) i rfl ⟨ak _,rfl⟩ (fun j hj=>?_);obtain ⟨hj,hjE⟩:=hj;show AW _ _ _ _ _ _ _ [(0,.d (ah a)),(4,.d (dI (2^j:Nat)))];have hpj:2^j≤2^i:=Nat.pow_le_pow_right (by decide) hj;have hpp:=Nat.two_pow_pos j;refine AW.seq (qX 2 rfl ?_);rcases j with _ | j
 · refine qU 8 rfl ?_;refine ab.nil ?_;refine AW.aA rfl ?_;refine AW.exit (AW.seq ?_);refine qX 4 rfl ?_;refine ab.fZ tok (a:=a) (a.take 1) rfl rfl rfl rfl trivial (show (0:Int)≤1 by decide) (Nat.zero_le _) (show 1≤a.length by omega) rfl ?_;refine ab.call tok rfl rfl rfl rfl (mZ (a.take 1) (by rw[aT];omega)) ?_;refine qU 1 rfl ?_;refine ab.nil ?_;rw[← hjE];unfold iI;cases hz:bF (a.take 1) with
   | true =>
     rw[if_pos rfl];refine AW.aL rfl ?_;refine qX 1 rfl ?_;exact qN rfl
   | false =>
     rw[if_neg (by simp)];refine AW.aA rfl ?_;refine AW.skip (qX 2 rfl ?_);refine ab.fZ tok (a:=a) (a.take 1) rfl rfl rfl rfl trivial (show (0:Int)≤1 by decide) (Nat.zero_le _) (show 1≤a.length by omega) rfl ?_;refine ab.call tok rfl rfl rfl rfl (jo (a.take 1) (hs.take 1) hk (by rw[aT];omega)) ?_;refine qU 1 rfl ?_;exact qN rfl
 have e2:2^(j+1)=2^j*2:=Nat.pow_succ ..;have eh:=lE j;rw[aN (show (1:Int)<((2^(j+1):Nat):Int) by have:=Nat.two_pow_pos j;omega)];refine qU 3 rfl ?_;refine ab.div tok rfl rfl rfl rfl (by decide) ?_;rw[gM _ (by omega),eh];refine qU 1 rfl ?_;refine ab.fZ tok (a:=a) ((a.take (2^(j+1))).drop (2^j)) rfl rfl rfl rfl (aj _) (aj _) (show 2^j≤2^(j+1) by omega) (show 2^(j+1)≤a.length by omega) rfl ?_;refine ab.call tok rfl rfl rfl rfl (mZ _ (by rw[List.length_drop,aT];omega)) ?_;refine qU 1 rfl ?_;refine ab.nil ?_;cases hz:bF ((a.take (2^(j+1))).drop (2^j)) with
 | true =>
   refine AW.aL rfl ?_;refine AW.skip (AW.block ?_);refine qT 1 rfl ?_;refine ab.div tok rfl rfl rfl rfl (by decide) ?_;rw[gM _ (by omega),eh];refine qU 1 rfl ?_;refine ab.nil ?_;exact⟨j,rfl,⟨by omega,by rw[← hjE];show _=if bF ((a.take (2^(j+1))).drop (2^j))=true then _ else _;rw[if_pos hz]⟩,by omega⟩
 | false =>
 refine AW.aA rfl ?_;refine AW.exit (AW.seq ?_);refine qX 2 rfl ?_;rw[beq_eq_false_iff_ne.2 (show ((2^(j+1):Nat):Int)≠1 by have:=Nat.two_pow_pos j;omega)];refine qU 5 rfl ?_;refine ab.nil ?_;refine AW.aA rfl ?_;refine AW.skip (qX 2 rfl ?_);refine ab.fZ tok (a:=a) (a.take (2^(j+1))) rfl rfl rfl rfl trivial (aj _) (Nat.zero_le _) (show 2^(j+1)≤a.length by omega) rfl ?_;refine ab.call tok rfl rfl rfl rfl (jo _ (hs.take _) hk (by rw[aT];omega)) ?_;refine qU 1 rfl ?_;refine ab.nil ?_;rw[← hjE];unfold iI;rw[if_neg (by rw[hz];simp)];exact AW.ret rfl
end Lift
namespace Lift
open Go Go.Proofs
abbrev mH(a:NQ):Prop:=ay 17300000000000 a
def JZ(R:NQ→NQ→NQ)(O:NQ→NQ→Prop)(rt:List NQ)(a b:NQ):Prop :=
 mH a∧mH b∧(a.length≠1→bF a=false→bF b=false →
  (b.length≤a.length / 2→O (a.take (a.length / 2)) b∧O (a.drop (a.length / 2)) b) ∧
  (¬b.length≤a.length / 2→(O (a.take (a.length / 2)) (b.take (a.length / 2))∧O (a.drop (a.length / 2)) (b.drop (a.length / 2))∧O (R (a.drop (a.length / 2)) (b.drop (a.length / 2))) (rt.getD (a.length.log2-1) []) ∧
   O (a.take (a.length / 2)) (b.drop (a.length / 2))∧O (a.drop (a.length / 2)) (b.take (a.length / 2))) ∧
   mH (R (a.take (a.length / 2)) (b.take (a.length / 2)))∧mH (R (R (a.drop (a.length / 2)) (b.drop (a.length / 2))) (rt.getD (a.length.log2-1) []))∧mH (R (a.take (a.length / 2)) (b.drop (a.length / 2)))∧mH (R (a.drop (a.length / 2)) (b.take (a.length / 2)))))
def zY(R:NQ→NQ→NQ)(O:NQ→NQ→Prop)(rt:List NQ)(a b:NQ):Prop:=if a.length<b.length then JZ R O rt b a else JZ R O rt a b
def Df:Nat→List NQ→NQ→NQ→Prop
 | 0,rt,a,b=>zY (fun _ _=>[]) (fun _ _=>True) rt a b
 | l+1,rt,a,b=>zY (bd l rt) (Df l rt) rt a b
set_option maxHeartbeats 1600000 in
theorem uJ{l:Nat}{R:NQ→NQ→NQ}{O:NQ→NQ→Prop}{rt:List NQ}{a b:NQ}(ha:aC l a)(hb:aC l b)(hrt:da rt)(hl:l≤rt.length)(hl5:rt.length≤10)(hok:zY R O rt a b)
  (hR: ∀l',l=l'+1→ ∀a' b',aC l' a'→aC l' b'→O a' b'→Pure Tryz.prog 63 [bt rt,ah a',ah b'] (ah (R a' b'))∧aC l' (R a' b')):
  Pure Tryz.prog 63 [bt rt,ah a,ah b] (ah (kp (jv R rt) a b)):=by
 refine qJ 100 Tryz.func63 rfl rfl rfl rfl (by kernel_rfl) (fun B F0 w0=>?_);have hla:=ha.len (by omega);have hlb:=hb.len (by omega);unfold zY at hok;refine qX 2 rfl ?_;refine ab.nil ?_;refine AW.cut [1,2,3] (fun s:NQ×NQ=>[(1,.d (ah s.1)),(2,.d (ah s.2)),(3,.bx [.sl 1 (rt.map ah)])]) (fun s=>jv R rt s.1 s.2=kp (jv R rt) a b∧s.2.length≤s.1.length∧aC l s.1∧aC l s.2∧JZ R O rt s.1 s.2) ?_ (fun s hs=>?_)
 · refine qX 4 rfl ?_;rw[ae,ae];refine qU 1 rfl ?_;refine ab.nil ?_;unfold kp;by_cases hab:a.length<b.length
   · rw[aN (show (a.length:Int)<(b.length:Int) by omega),if_pos hab];refine AW.aL rfl ?_;refine qT 4 rfl ?_;refine ab.nil ?_;exact⟨(b,a),rfl,rfl,by show a.length≤b.length;omega,hb,ha,by rw[if_pos hab] at hok;exact hok⟩
   · rw[aO (show ¬(a.length:Int)<(b.length:Int) by omega),if_neg hab];refine AW.aA rfl ?_;refine AW.skip ?_;exact⟨(a,b),rfl,rfl,by show b.length≤a.length;omega,ha,hb,by rw[if_neg hab] at hok;exact hok⟩
 · obtain ⟨x,y⟩:=s;obtain ⟨hE,hab,ha,hb,sa,sb,hm⟩:=hs;simp only[] at hE hab ha hb sa sb hm;show AW _ _ _ _ _ _ _ [(1,.d (ah x)),(2,.d (ah y)),(3,.bx [.sl 1 (rt.map ah)])];rw[← hE];clear hE;clear hok;generalize x=a at *;generalize y=b at *;have hla:=ha.len (by omega);have hlb:=hb.len (by omega);have cz1:=oK a sa (by omega) (by omega);have cz2:=oK b sb (by omega) (by omega);unfold jv;refine AW.seq (AW.block ?_);refine qX 1 rfl ?_;refine ab.call tok rfl rfl rfl rfl cz1 ?_;cases hza:bF a with
   | true =>
     rw[if_pos (by rfl)];refine qU 5 rfl ?_;refine ab.nil ?_;refine AW.aL rfl ?_;refine qX 1 rfl ?_;exact qN rfl
   | false =>
   refine qU 2 rfl ?_;refine ab.call tok rfl rfl rfl rfl cz2 ?_;refine qU 2 rfl ?_;refine ab.nil ?_;cases hzb:bF b with
   | true =>
     rw[if_pos (by rfl)];refine AW.aL rfl ?_;refine qX 1 rfl ?_;exact qN rfl
   | false =>
   rw[if_neg (by decide)];refine AW.aA rfl ?_;refine qX 2 rfl ?_;rw[ae];refine qU 2 rfl ?_;refine ab.nil ?_;have hb0:0<b.length:=List.length_pos_iff.2 (nU hzb);have ha0:0<a.length:=List.length_pos_iff.2 (nU hza);by_cases h1:a.length=1
   · rw[if_pos h1,beq_iff_eq.2 (show (a.length:Int)=1 by omega)];have g1:=mu (r:=a) (i:=0) ha0;have g2:=mu (r:=b) (i:=0) hb0;have cm:=tP (Qr (a.getD 0 0)) (Qr (b.getD 0 0)) (jB _ (sa 0)) (jB _ (sb 0)) (by omega);rw[cG,cG] at cm;refine AW.aL rfl ?_;refine AW.seq (AW.draw aQ 8 (by kernel_rfl) ?_);refine qP 1 rfl ?_;refine af.idx tok (Qr (a.getD 0 0)).D rfl rfl rfl rfl rfl (Int.le_refl _) g1 ?_;refine qP 2 rfl ?_;refine af.idx tok (Qr (b.getD 0 0)).D rfl rfl rfl rfl rfl (Int.le_refl _) g2 ?_;refine qP 1 rfl ?_;refine af.call tok rfl rfl rfl rfl rfl cm ?_;refine af.fj tok rfl rfl rfl rfl rfl rfl ?_;refine af.nil ?_;refine qU 1 rfl ?_;exact qN rfl
   rw[if_neg h1,beq_eq_false_iff_ne.2 (show (a.length:Int)≠1 by omega)];refine AW.aA rfl ?_;refine AW.skip ?_
   obtain ⟨i,hi,hla2⟩: ∃i,i≤l∧a.length=2^i:=by
    rcases ha with e | e
    · omega
    · exact e
   have xz:i≠0:=fun e=>h1 (by rw[hla2,e]);obtain ⟨j,rfl⟩: ∃j,i=j+1:=⟨i-1,by omega⟩;obtain ⟨l',rfl⟩: ∃l',l=l'+1:=⟨l-1,by omega⟩;have hj:j≤l':=by omega
   have hR:=fun a' b' h1 h2 h3=>hR l' rfl a' b' h1 h2 h3;obtain ⟨hm1,hm2⟩:=hm h1 hza hzb;obtain ⟨e1,e2,e3⟩:=bD hla2;have hx:aC l' (a.take (a.length / 2)):= .inr ⟨j,hj,e1⟩;have hy:aC l' (a.drop (a.length / 2)):= .inr ⟨j,hj,e2⟩;have hlog:a.length.log2-1=j:=by rw[hla2,Nat.log2_two_pow];omega
   obtain ⟨n,hn⟩: ∃n,n=a.length / 2:=⟨_,rfl⟩
   have hn2:a.length=n+n:=by
    have:2^(j+1)=2^j*2:=Nat.pow_succ ..;omega
   rw[← hn] at e1 e2 e3 hx hy hm1 hm2 ⊢;refine qX 2 rfl ?_;rw[ae];refine ab.div tok rfl rfl rfl rfl (by decide) ?_;rw[gM _ (by omega),← hn];refine qU 1 rfl ?_;refine qI (AW.draw aQ 7 (by kernel_rfl) ?_);refine qP 2 rfl ?_;refine af.fZ tok (a:=a) (a.take n) rfl rfl rfl rfl rfl trivial (aj n) (Nat.zero_le _) (show n≤a.length by omega) rfl ?_;refine qP 2 rfl ?_;refine af.fZ tok (a:=a) (a.drop n) rfl rfl rfl rfl rfl (aj n) trivial (show n≤a.length by omega) (ak _) (by show (a.take a.length).drop n=_;rw[List.take_length]) ?_;refine qP 1 rfl ?_;refine af.nil ?_;refine qU 1 rfl ?_;refine qI (qX 2 rfl ?_);rw[ae];refine qU 2 rfl ?_;refine ab.nil ?_;by_cases h3:b.length≤n
   · rw[if_pos h3,aN (show (b.length:Int)≤(n:Int) by omega)]
     have hb':aC l' b:=by
      rcases hb with e | ⟨i',_,e⟩
      · exact .inl e
      · refine .inr ⟨i',?_,e⟩;rw[e3,e] at h3;have:=jJ h3;omega
     have r1:=hR _ _ hx hb' (hm1 h3).1;have r2:=hR _ _ hy hb' (hm1 h3).2;have cj:=kR (R (a.take n) b) (R (a.drop n) b) n (by omega);refine AW.aL rfl ?_;refine AW.seq (AW.draw aQ 10 (by kernel_rfl) ?_);refine qP 3 rfl ?_;refine af.call tok rfl rfl rfl rfl rfl r1.1 ?_;refine qP 3 rfl ?_;refine af.call tok rfl rfl rfl rfl rfl r2.1 ?_;refine qP 1 rfl ?_;refine af.call tok rfl rfl rfl rfl rfl cj ?_;refine af.nil ?_;refine qU 1 rfl ?_;exact qN rfl
   rw[if_neg h3,aO (show ¬(b.length:Int)≤(n:Int) by omega)]
   have hlb2:b.length=2^(j+1):=by
    rcases hb with e | ⟨i',_,e⟩
    · omega
    · rw[e] at h3 hab ⊢;rw[hla2] at hab;rw[e3] at h3;have h4:=jJ hab;have h5: ¬i'≤j:=fun h=>h3 (Nat.pow_le_pow_right (by decide) h);rw[show i'=j+1 by omega]
   obtain ⟨f1,f2,f3⟩:=bD hlb2;rw[show b.length / 2=n by omega] at f1 f2;have hu:aC l' (b.take n):= .inr ⟨j,hj,f1⟩;have hv:aC l' (b.drop n):= .inr ⟨j,hj,f2⟩;obtain ⟨⟨o1,o2,o5,o3,o4⟩,z1,z5,z3,z4⟩:=hm2 h3;rw[hlog] at o5 z5;have r1:=hR _ _ hx hu o1;have r2:=hR _ _ hy hv o2;have r3:=hR _ _ hx hv o3;have r4:=hR _ _ hy hu o4;rw[hlog];have hd:aC l' (rt.getD j []):= .inr ⟨j,hj,hrt j (by omega)⟩;have r5:=hR _ _ r2.2 hd o5;have n1:=r1.2.len (by omega);have n3:=r3.2.len (by omega);have n4:=r4.2.len (by omega);have n5:=r5.2.len (by omega);have p1:=dO (R (a.take n) (b.take n)) (R (R (a.drop n) (b.drop n)) (rt.getD j [])) z1 z5 (by omega) (by omega) (by omega);have p2:=dO (R (a.take n) (b.drop n)) (R (a.drop n) (b.take n)) z3 z4 (by omega) (by omega) (by omega);have cj:=kR (aW (R (a.take n) (b.take n)) (R (R (a.drop n) (b.drop n)) (rt.getD j []))) (aW (R (a.take n) (b.drop n)) (R (a.drop n) (b.take n))) n (by omega);have cl:=eP (fa a) (by rw[ae];exact hla2) (by omega);refine AW.aA rfl ?_;refine AW.skip (AW.seq ?_);refine AW.draw aQ 7 (by kernel_rfl) ?_;refine qP 2 rfl ?_;refine af.fZ tok (a:=b) (b.take n) rfl rfl rfl rfl rfl trivial (aj n) (Nat.zero_le _) (show n≤b.length by omega) rfl ?_;refine qP 2 rfl ?_;refine af.fZ tok (a:=b) (b.drop n) rfl rfl rfl rfl rfl (aj n) trivial (show n≤b.length by omega) (ak _) (by show (b.take b.length).drop n=_;rw[List.take_length]) ?_;refine qP 1 rfl ?_;refine af.nil ?_;refine qU 1 rfl ?_;refine qI (AW.draw aQ 7 (by kernel_rfl) ?_);refine qP 3 rfl ?_;refine af.call tok rfl rfl rfl rfl rfl cl ?_;refine qP 1 rfl ?_;rw[aF (x:=((j+1:Nat):Int) -1) (by omega) (by omega),show ((j+1:Nat):Int) -1=(j:Int) by omega];refine af.idx tok (ah (rt.getD j [])) rfl rfl rfl rfl rfl (aj j) (oW (by omega)) ?_;refine qP 1 rfl ?_;refine af.nil ?_;refine qU 1 rfl ?_;refine qI (AW.draw aQ 12 (by kernel_rfl) ?_);refine qP 3 rfl ?_;refine af.call tok rfl rfl rfl rfl rfl r1.1 ?_;refine qP 4 rfl ?_;refine af.call tok rfl rfl rfl rfl rfl r2.1 ?_;refine qP 1 rfl ?_;refine af.call tok rfl rfl rfl rfl rfl r5.1 ?_;refine af.call tok rfl rfl rfl rfl rfl p1 ?_;refine af.nil ?_;refine qU 1 rfl ?_;refine qI (AW.draw aQ 12 (by kernel_rfl) ?_);refine qP 4 rfl ?_;refine af.call tok rfl rfl rfl rfl rfl r3.1 ?_;refine qP 3 rfl ?_;refine af.call tok rfl rfl rfl rfl rfl r4.1 ?_;refine af.call tok rfl rfl rfl rfl rfl p2 ?_;refine qP 1 rfl ?_;refine af.call tok rfl rfl rfl rfl rfl cj ?_;refine af.nil ?_;refine qU 1 rfl ?_;exact qN rfl
theorem cW: ∀(l:Nat) {rt:List NQ} {a b:NQ},aC l a→aC l b→da rt→l≤rt.length→rt.length≤10→Df l rt a b→Pure Tryz.prog 63 [bt rt,ah a,ah b] (ah (bd l rt a b))
 | 0,rt,a,b,ha,hb,hrt,hl,hl5,hok=>uJ (O:=fun _ _=>True) ha hb hrt hl hl5 hok (fun l' h=>by omega)
 | l+1,rt,a,b,ha,hb,hrt,hl,hl5,hok=>uJ (O:=Df l rt) ha hb hrt hl hl5 hok (fun l' e a' b' h1 h2 h3=>by
    obtain rfl:l=l':=by omega
    obtain ⟨K,k1,k2,k3⟩:=xb a' b' rt
    exact⟨cW l h1 h2 hrt (by omega) hl5 h3,(eQ l h1 h2 hrt (by omega) k1 k2 k3).1⟩)
theorem ym{l k:Nat}{R:NQ→NQ→NQ}{O:NQ→NQ→Prop}{rt:List NQ}{a b:NQ}(ha:aC l a)(hb:aC l b)(hab:b.length≤a.length)(hrt:da rt)(hl:l≤rt.length)(sa:ay k a)(sb:ay k b)(sr:fq k rt)(hk:sT l k≤17300000000000)
  (hR: ∀l',l=l'+1→ ∀a' b' m,k≤m→aC l' a'→aC l' b'→ay m a'→ay m b'→sT l' m≤17300000000000→O a' b'∧aC l' (R a' b')∧ay (sT l' m) (R a' b')):JZ R O rt a b:=by
 have hk1:=sa.pos;have h2:=bU l k;refine⟨sa.mono (by omega),sb.mono (by omega),fun h1 hza hzb=>?_⟩;have hb0:0<b.length:=List.length_pos_iff.2 (nU hzb);have ha0:0<a.length:=List.length_pos_iff.2 (nU hza)
 obtain ⟨i,hi,hla⟩: ∃i,i≤l∧a.length=2^i:=by
  rcases ha with e | e
  · omega
  · exact e
 have xz:i≠0:=fun e=>h1 (by rw[hla,e]);obtain ⟨j,rfl⟩: ∃j,i=j+1:=⟨i-1,by omega⟩;obtain ⟨l',rfl⟩: ∃l',l=l'+1:=⟨l-1,by omega⟩;have hj:j≤l':=by omega
 have hR:=fun a' b' m h1 h2 h3 h4 h5=>hR l' rfl a' b' m h1 h2 h3 h4 h5;obtain ⟨e1,e2,e3⟩:=bD hla;have hx:aC l' (a.take (a.length / 2)):= .inr ⟨j,hj,e1⟩;have hy:aC l' (a.drop (a.length / 2)):= .inr ⟨j,hj,e2⟩;have hs0:=bU l' k;have hs1:=bU l' (sT l' k);have hk:sT l' (sT l' k)+sT l' k+1≤17300000000000:=hk;refine⟨fun h3=>?_,fun h3=>?_⟩
 · have hb':aC l' b:=by
    rcases hb with e | ⟨i',_,e⟩
    · exact .inl e
    · refine .inr ⟨i',?_,e⟩;rw[e3,e] at h3;have:=jJ h3;omega
   exact⟨(hR _ _ k (ak _) hx hb' (sa.take _) sb (by omega)).1,(hR _ _ k (ak _) hy hb' (sa.drop _) sb (by omega)).1⟩
 have hlb:b.length=2^(j+1):=by
  rcases hb with e | ⟨i',_,e⟩
  · omega
  · rw[e] at h3 hab ⊢;rw[hla] at hab;rw[e3] at h3;have h4:=jJ hab;have h5: ¬i'≤j:=fun h=>h3 (Nat.pow_le_pow_right (by decide) h);rw[show i'=j+1 by omega]
 obtain ⟨f1,f2,f3⟩:=bD hlb;rw[show b.length / 2=a.length / 2 by rw[f3,e3]] at f1 f2;have hu:aC l' (b.take (a.length / 2)):= .inr ⟨j,hj,f1⟩;have hv:aC l' (b.drop (a.length / 2)):= .inr ⟨j,hj,f2⟩;have r1:=hR _ _ k (ak _) hx hu (sa.take _) (sb.take _) (by omega);have r2:=hR _ _ k (ak _) hy hv (sa.drop _) (sb.drop _) (by omega);have r3:=hR _ _ k (ak _) hx hv (sa.take _) (sb.drop _) (by omega);have r4:=hR _ _ k (ak _) hy hu (sa.drop _) (sb.take _) (by omega);have hlog:a.length.log2-1=j:=by rw[hla,Nat.log2_two_pow];omega
 have hd:aC l' (rt.getD (a.length.log2-1) []):= .inr ⟨j,hj,by rw[hlog];exact hrt j (by omega)⟩;have r5:=hR _ _ (sT l' k) (by omega) r2.2.1 hd r2.2.2 ((sr _).mono (by omega)) (by omega);exact⟨⟨r1.1,r2.1,r5.1,r3.1,r4.1⟩,r1.2.2.mono (by omega),r5.2.2.mono (by omega),r3.2.2.mono (by omega),r4.2.2.mono (by omega)⟩
theorem rO: ∀(l:Nat) {k:Nat} {rt:List NQ} {a b:NQ},aC l a→aC l b→da rt→l≤rt.length→ay k a→ay k b→fq k rt→sT l k≤17300000000000→Df l rt a b
 | 0,k,rt,a,b,ha,hb,hrt,hl,sa,sb,sr,hk=>by
   show zY _ _ rt a b;unfold zY;split
   · exact ym hb ha (by omega) hrt hl sb sa sr hk (fun l' h=>by omega)
   · exact ym ha hb (by omega) hrt hl sa sb sr hk (fun l' h=>by omega)
 | l+1,k,rt,a,b,ha,hb,hrt,hl,sa,sb,sr,hk=>by
   show zY (bd l rt) (Df l rt) rt a b;unfold zY
   have ih: ∀l',l+1=l'+1→ ∀a' b' m,k≤m→aC l' a'→aC l' b'→ay m a'→ay m b'→sT l' m≤17300000000000→Df l rt a' b'∧aC l' (bd l rt a' b')∧ay (sT l' m) (bd l rt a' b'):=fun l' e a' b' m hm h1 h2 h3 h4 h5=>by
    obtain rfl:l=l':=by omega
    exact⟨rO l h1 h2 hrt (by omega) h3 h4 (sr.mono hm) h5,eQ l h1 h2 hrt (by omega) h3 h4 (sr.mono hm)⟩
   split
   · exact ym hb ha (by omega) hrt hl sb sa sr hk ih
   · exact ym ha hb (by omega) hrt hl sa sb sr hk ih
end Lift
namespace Lift
open Go Go.Proofs
def eW(l:Nat)(rt:List NQ)(a:NQ):NQ :=
 aW (bd l rt (a.take (a.length / 2)) (a.take (a.length / 2))) (aM (bd l rt (bd l rt (a.drop (a.length / 2)) (a.drop (a.length / 2))) (rt.getD (a.length.log2-1) [])))
def wG(R:NQ→Int)(N:NQ→NQ)(rt:List NQ)(a:NQ):Int :=
 if a.length=0 then 0 else if a.length=1 then k7 (a.getD 0 0) else
 if R (rt.getD (a.length.log2-1) [])=0 then R (a.take (a.length / 2)) else
 if R (a.take (a.length / 2))=R (a.drop (a.length / 2))∨R (a.drop (a.length / 2))=0 then R (a.take (a.length / 2)) else
 if R (a.take (a.length / 2))=0 then R (a.drop (a.length / 2)) else R (a.take (a.length / 2))*R (N a)
def ed:Nat→List NQ→NQ→Int
 | 0,rt,a=>wG (fun _=>0) (fun a=>a) rt (ar a)
 | l+1,rt,a=>wG (ed l rt) (eW l rt) rt (ar a)
def od:Nat→Nat→Prop
 | 0,k=>k≤17300000000000
 | l+1,k=>sT (l+1) k≤17300000000000∧od l (sT (l+1) k)
theorem zZ: ∀{l k m:Nat},od l k→m≤k→od l m
 | 0,k,m,h,hm=>Nat.le_trans hm h
 | l+1,k,m,h,hm=>⟨Nat.le_trans (tZ hm) h.1,zZ h.2 (tZ hm)⟩
theorem pw: ∀{l k:Nat},od l k→k≤17300000000000
 | 0,k,h=>h
 | l+1,k,h=>by have:=bU (l+1) k;have:=h.1;omega
theorem kd{l k:Nat}(h:od (l+1) k):od l k:=zZ h.2 (by have:=bU (l+1) k;omega)
def w7(z:Int):Prop:=z=0∨z=1∨z= -1
theorem l0{x y:Int}(hx:w7 x)(hy:w7 y):w7 (x*y):=by
 unfold w7 at *;rcases hx with rfl | rfl | rfl<;>rcases hy with rfl | rfl | rfl<;>decide
theorem zo{R:NQ→Int}{N:NQ→NQ}{rt:List NQ}{a:NQ}(hR: ∀b,w7 (R b)):w7 (wG R N rt a):=by
 unfold wG;split
 · exact .inl rfl
 split
 · exact gC _
 split
 · exact hR _
 split
 · exact hR _
 split
 · exact hR _
 · exact l0 (hR _) (hR _)
theorem n0: ∀(l:Nat) (rt:List NQ) (a:NQ),w7 (ed l rt a)
 | 0,rt,a=>zo (fun _=> .inl rfl)
 | l+1,rt,a=>zo (fun b=>n0 l rt b)
theorem ue{l k j:Nat}{rt:List NQ}{a:NQ}(hj:j≤l)(ha:a.length=2^(j+1))(hrt:da rt)(hl:l<rt.length)(sa:ay k a)(sr:fq k rt):aC l (eW l rt a)∧ay (sT (l+1) k) (eW l rt a):=by
 obtain ⟨e1,e2,e3⟩:=bD ha;have hx:aC l (a.take (a.length / 2)):= .inr ⟨j,hj,e1⟩;have hy:aC l (a.drop (a.length / 2)):= .inr ⟨j,hj,e2⟩;have hlog:a.length.log2-1=j:=by rw[ha,Nat.log2_two_pow];omega
 have hd:aC l (rt.getD j []):= .inr ⟨j,hj,hrt j (by omega)⟩;have h0:=bU l k;have h1:=bU l (sT l k);have r1:=eQ l hx hx hrt (by omega) (sa.take _) (sa.take _) sr;have r2:=eQ l hy hy hrt (by omega) (sa.drop _) (sa.drop _) sr;have r3:=eQ l r2.1 hd hrt (by omega) r2.2 ((sr _).mono (by omega)) (sr.mono (by omega));unfold eW;rw[hlog];refine⟨r1.1.plus r3.1.minus,(r1.2.plus r3.2.minus).mono ?_⟩;show _≤sT l (sT l k)+sT l k+1;omega
def Ih(l:Nat)(rt:List NQ)(a:NQ):Prop :=
 Df l rt (a.take (a.length / 2)) (a.take (a.length / 2))∧Df l rt (a.drop (a.length / 2)) (a.drop (a.length / 2))∧Df l rt (bd l rt (a.drop (a.length / 2)) (a.drop (a.length / 2))) (rt.getD (a.length.log2-1) []) ∧
 mH (bd l rt (a.take (a.length / 2)) (a.take (a.length / 2)))∧mH (bd l rt (bd l rt (a.drop (a.length / 2)) (a.drop (a.length / 2))) (rt.getD (a.length.log2-1) []))
theorem uf{l j:Nat}{rt:List NQ}{a:NQ}(hj:j≤l)(ha:a.length=2^(j+1))(hrt:da rt)(hl:l<rt.length):aC l (eW l rt a):=by
 obtain ⟨K,k1,_,k3⟩:=xb a a rt;exact(ue hj ha hrt hl k1 k3).1
theorem fp(l:Nat){rt:List NQ}{a b:NQ}(ha:aC l a)(hb:aC l b)(hrt:da rt)(hl:l≤rt.length):aC l (bd l rt a b):=by
 obtain ⟨K,k1,k2,k3⟩:=xb a b rt;exact(eQ l ha hb hrt hl k1 k2 k3).1
theorem mX{l j:Nat}{rt:List NQ}{a:NQ}(hj:j≤l)(ha:a.length=2^(j+1))(hrt:da rt)(hl:l<rt.length)(hl5:rt.length≤10)(hok:Ih l rt a):
  Pure Tryz.prog 109 [bt rt,ah a] (ah (eW l rt a)):=by
 refine qJ 36 Tryz.func109 rfl rfl rfl rfl (by kernel_rfl) (fun B F0 w0=>?_);obtain ⟨e1,e2,e3⟩:=bD ha;have hx:aC l (a.take (a.length / 2)):= .inr ⟨j,hj,e1⟩;have hy:aC l (a.drop (a.length / 2)):= .inr ⟨j,hj,e2⟩;have hlog:a.length.log2-1=j:=by rw[ha,Nat.log2_two_pow];omega
 have hd:aC l (rt.getD j []):= .inr ⟨j,hj,hrt j (by omega)⟩;obtain ⟨o1,o2,o3,z1,z3⟩:=hok;rw[hlog] at o3 z3;have r1:=fp l hx hx hrt (by omega);have r2:=fp l hy hy hrt (by omega);have r3:=fp l r2 hd hrt (by omega);have c1:=cW l hx hx hrt (by omega) hl5 o1;have c2:=cW l hy hy hrt (by omega) hl5 o2;have c3:=cW l r2 hd hrt (by omega) hl5 o3;have n1:=r1.len (by omega);have n3:=r3.len (by omega);have c4:=fo _ z3 (by omega) (by omega);have c5:=dO _ _ z1 z3.minus (by omega) (by omega) (by rw[bB];omega);have cl:=eP (fa a) (by rw[ae];exact ha) (by omega);have hp:2^(j+1)≤2^10:=Nat.pow_le_pow_right (by decide) (by omega);unfold eW;rw[hlog];obtain ⟨n,hn⟩: ∃n,n=a.length / 2:=⟨_,rfl⟩;rw[← hn] at e1 e2 e3 hx hy c1 c2 c3 c4 c5 ⊢;refine qX 2 rfl ?_;refine qK 2 rfl ?_;rw[ae];refine ab.div tok rfl rfl rfl rfl (by decide) ?_;rw[gM _ (by omega),← hn];refine qU 1 rfl ?_;refine qI (AW.draw aQ 7 (by kernel_rfl) ?_);refine qP 2 rfl ?_;refine af.fZ tok (a:=a) (a.take n) rfl rfl rfl rfl rfl trivial (aj n) (Nat.zero_le _) (show n≤a.length by omega) rfl ?_;refine qP 2 rfl ?_;refine af.fZ tok (a:=a) (a.drop n) rfl rfl rfl rfl rfl (aj n) trivial (show n≤a.length by omega) (ak _) (by show (a.take a.length).drop n=_;rw[List.take_length]) ?_;refine qP 1 rfl ?_;refine af.nil ?_;refine qU 1 rfl ?_;refine qI (AW.draw aQ 19 (by kernel_rfl) ?_);refine qP 3 rfl ?_;refine af.call tok rfl rfl rfl rfl rfl c1 ?_;refine qP 4 rfl ?_;refine af.call tok rfl rfl rfl rfl rfl c2 ?_;refine qP 3 rfl ?_;refine af.call tok rfl rfl rfl rfl rfl cl ?_;refine qP 1 rfl ?_;rw[aF (x:=((j+1:Nat):Int) -1) (by omega) (by omega),show ((j+1:Nat):Int) -1=(j:Int) by omega];refine af.idx tok (ah (rt.getD j [])) rfl rfl rfl rfl rfl (aj j) (oW (by omega)) ?_;refine qP 1 rfl ?_;refine af.call tok rfl rfl rfl rfl rfl c3 ?_;refine af.call tok rfl rfl rfl rfl rfl c4 ?_;refine af.call tok rfl rfl rfl rfl rfl c5 ?_;refine af.nil ?_;refine qU 1 rfl ?_;exact qN rfl
theorem EB{l k j:Nat}{rt:List NQ}{a:NQ}(hj:j≤l)(ha:a.length=2^(j+1))(hrt:da rt)(hl:l<rt.length)(sa:ay k a)(sr:fq k rt)(hk:sT (l+1) k≤17300000000000):Ih l rt a:=by
 obtain ⟨e1,e2,e3⟩:=bD ha;have hx:aC l (a.take (a.length / 2)):= .inr ⟨j,hj,e1⟩;have hy:aC l (a.drop (a.length / 2)):= .inr ⟨j,hj,e2⟩;have hlog:a.length.log2-1=j:=by rw[ha,Nat.log2_two_pow];omega
 have hd:aC l (rt.getD j []):= .inr ⟨j,hj,hrt j (by omega)⟩;have h0:=bU l k;have h1:=bU l (sT l k);have hk:sT l (sT l k)+sT l k+1≤17300000000000:=hk;have r1:=eQ l hx hx hrt (by omega) (sa.take _) (sa.take _) sr;have r2:=eQ l hy hy hrt (by omega) (sa.drop _) (sa.drop _) sr;have r3:=eQ l r2.1 hd hrt (by omega) r2.2 ((sr _).mono (by omega)) (sr.mono (by omega));unfold Ih;rw[hlog];exact⟨rO l hx hx hrt (by omega) (sa.take _) (sa.take _) sr (by omega),rO l hy hy hrt (by omega) (sa.drop _) (sa.drop _) sr (by omega),rO l r2.1 hd hrt (by omega) r2.2 ((sr j).mono (by omega)) (sr.mono (by omega)) (by omega),r1.2.mono (by omega),r3.2.mono (by omega)⟩
def Js(O:NQ→Prop)(N:NQ→NQ)(Nk:NQ→Prop)(rt:List NQ)(s:NQ):Prop:=s.length≠0→s.length≠1 →
 O (s.take (s.length / 2))∧O (s.drop (s.length / 2))∧O (rt.getD (s.length.log2-1) [])∧Nk s∧O (N s)
def EC:Nat→List NQ→NQ→Prop
 | 0,rt,a=>mH a
 | l+1,rt,a=>mH a∧Js (EC l rt) (eW l rt) (Ih l rt) rt (ar a)
theorem px: ∀(l:Nat) {k:Nat} {rt:List NQ} {a:NQ},aC l a→da rt→l≤rt.length→ay k a→fq k rt→od l k→EC l rt a
 | 0,k,rt,a,ha,hrt,hl,sa,sr,hok=>sa.mono (Nat.le_trans hok (by decide))
 | l+1,k,rt,a,ha,hrt,hl,sa,sr,hok=>by
   have hk:=pw hok;refine⟨sa.mono (by omega),fun h0 h1=>?_⟩;obtain ⟨ha,sa⟩:=a5 ha sa;generalize ar a=b at ha sa h0 h1 ⊢
   obtain ⟨i,hi,hla⟩: ∃i,i≤l+1∧b.length=2^i:=by
    rcases ha with e | e
    · omega
    · exact e
   have xz:i≠0:=fun e=>h1 (by rw[hla,e]);obtain ⟨j,rfl⟩: ∃j,i=j+1:=⟨i-1,by omega⟩;have hj:j≤l:=by omega
   obtain ⟨e1,e2,e3⟩:=bD hla;have hx:aC l (b.take (b.length / 2)):= .inr ⟨j,hj,e1⟩;have hy:aC l (b.drop (b.length / 2)):= .inr ⟨j,hj,e2⟩;have hlog:b.length.log2-1=j:=by rw[hla,Nat.log2_two_pow];omega
   have hd:aC l (rt.getD (b.length.log2-1) []):= .inr ⟨j,hj,by rw[hlog];exact hrt j (by omega)⟩;have hn:=ue hj hla hrt (by omega) sa sr;have h2:=bU (l+1) k;have h3:=hok.1;exact⟨px l hx hrt (by omega) (sa.take _) sr (kd hok),px l hy hrt (by omega) (sa.drop _) sr (kd hok),px l hd hrt (by omega) (sr _) sr (kd hok),EB hj hla hrt (by omega) sa sr (by omega),px l hn.1 hrt (by omega) hn.2 (sr.mono (by omega)) hok.2⟩
theorem EC.sz{l:Nat}{rt:List NQ}{a:NQ}(h:EC l rt a):mH a:=by
 cases l with
 | zero=>exact h
 | succ l=>exact h.1
set_option maxHeartbeats 1600000 in
theorem xi{l:Nat}{R:NQ→Int}{O:NQ→Prop}{N:NQ→NQ}{Nk:NQ→Prop}{rt:List NQ}{a:NQ}(ha:aC l a)(hl5:l≤5)(hrt:da rt)(hl:l≤rt.length)(hl10:rt.length≤10)(sa:mH a)(hok:l≠0→Js O N Nk rt (ar a))
  (hR: ∀l',l=l'+1→ ∀b,aC l' b→O b→Pure Tryz.prog 64 [bt rt,ah b] (dI (R b))) (hT: ∀b,w7 (R b))
  (hN: ∀l',l=l'+1→ ∀b j,j≤l'→b.length=2^(j+1)→Nk b→Pure Tryz.prog 109 [bt rt,ah b] (ah (N b))∧aC l' (N b)):
  Pure Tryz.prog 64 [bt rt,ah a] (dI (wG R N rt (ar a))):=by
 refine qJ 64 Tryz.func64 rfl rfl rfl rfl (by kernel_rfl) (fun B F0 w0=>?_);have cs:=cM a ha hl5 sa (by omega);obtain ⟨ha,sa⟩:=a5 ha sa;generalize ar a=b at cs ha sa hok ⊢;have hlb:=ha.len (by omega);unfold wG;refine qX 2 rfl ?_;refine qK 1 rfl ?_;refine ab.call tok rfl rfl rfl rfl cs ?_;refine qU 1 rfl ?_;refine qI (qX 2 rfl ?_);rw[ae];refine qU 1 rfl ?_;refine ab.nil ?_;by_cases h0:b.length=0
 · rw[if_pos h0,h0];refine AW.aL rfl ?_;refine qX 1 rfl ?_;exact qN rfl
 rw[if_neg h0,beq_eq_false_iff_ne.2 (show (b.length:Int)≠0 by omega)];refine AW.aA rfl ?_;refine AW.skip (AW.seq ?_);refine qX 2 rfl ?_;rw[ae];refine qU 1 rfl ?_;refine ab.nil ?_;by_cases h1:b.length=1
 · have g:=mu (r:=b) (i:=0) (by omega);have cq:=lN (Qr (b.getD 0 0)) (jB _ (sa 0)) (by omega);rw[cG,xY] at cq;rw[if_pos h1,h1];refine AW.aL rfl ?_;refine qX 1 rfl ?_;refine ab.idx tok (Qr (b.getD 0 0)).D rfl rfl rfl rfl (Int.le_refl _) g ?_;refine qU 1 rfl ?_;refine ab.call tok rfl rfl rfl rfl cq ?_;refine qU 1 rfl ?_;exact qN rfl
 rw[if_neg h1,beq_eq_false_iff_ne.2 (show (b.length:Int)≠1 by omega)];refine AW.aA rfl ?_;refine AW.skip ?_
 obtain ⟨i,hi,hla2⟩: ∃i,i≤l∧b.length=2^i:=by
  rcases ha with e | e
  · omega
  · exact e
 have xz:i≠0:=fun e=>h1 (by rw[hla2,e]);obtain ⟨j,rfl⟩: ∃j,i=j+1:=⟨i-1,by omega⟩;obtain ⟨l',rfl⟩: ∃l',l=l'+1:=⟨l-1,by omega⟩;have hj:j≤l':=by omega
 have hR:=hR l' rfl;obtain ⟨o1,o2,o3,o4,o5⟩:=hok (by omega) h0 h1;have hN:=hN l' rfl b j hj hla2 o4;obtain ⟨e1,e2,e3⟩:=bD hla2;have hx:aC l' (b.take (b.length / 2)):= .inr ⟨j,hj,e1⟩;have hy:aC l' (b.drop (b.length / 2)):= .inr ⟨j,hj,e2⟩;have hlog:b.length.log2-1=j:=by rw[hla2,Nat.log2_two_pow];omega
 have hd:aC l' (rt.getD j []):= .inr ⟨j,hj,hrt j (by omega)⟩;rw[hlog] at o3;have r1:=hR _ hx o1;have r2:=hR _ hy o2;have r3:=hR _ hd o3;have r4:=hR _ hN.2 o5;have t1:=hT (b.take (b.length / 2));have t2:=hT (b.drop (b.length / 2));have t4:=l0 t1 (hT (N b));have cn:=hN.1;have cl:=eP (fa b) (by rw[ae];exact hla2) (by omega);rw[hlog];obtain ⟨n,hn⟩: ∃n,n=b.length / 2:=⟨_,rfl⟩;rw[← hn] at e1 e2 e3 hx hy r1 r2 t1 t2 t4 ⊢;generalize R (b.take n)=x at r1 t1 t4 ⊢;generalize R (b.drop n)=y at r2 t2 ⊢;generalize R (rt.getD j [])=z at r3 ⊢;generalize R (N b)=u at r4 t4 ⊢;refine qX 2 rfl ?_;rw[ae];refine ab.div tok rfl rfl rfl rfl (by decide) ?_;rw[gM _ (by omega),← hn];refine qU 1 rfl ?_;refine qI (AW.draw aQ 10 (by kernel_rfl) ?_);refine qP 3 rfl ?_;refine af.fZ tok (a:=b) (b.take n) rfl rfl rfl rfl rfl trivial (aj n) (Nat.zero_le _) (show n≤b.length by omega) rfl ?_;refine af.call tok rfl rfl rfl rfl rfl r1 ?_;refine qP 3 rfl ?_;refine af.fZ tok (a:=b) (b.drop n) rfl rfl rfl rfl rfl (aj n) trivial (show n≤b.length by omega) (ak _) (by show (b.take b.length).drop n=_;rw[List.take_length]) ?_;refine af.call tok rfl rfl rfl rfl rfl r2 ?_;refine af.nil ?_;refine qU 2 rfl ?_;refine qI (AW.seq ?_);refine AW.draw aQ 10 (by kernel_rfl) ?_;refine qP 4 rfl ?_;refine af.call tok rfl rfl rfl rfl rfl cl ?_;refine qP 1 rfl ?_;rw[aF (x:=((j+1:Nat):Int) -1) (by omega) (by omega),show ((j+1:Nat):Int) -1=(j:Int) by omega];refine af.idx tok (ah (rt.getD j [])) rfl rfl rfl rfl rfl (aj j) (oW (by omega)) ?_;refine qP 1 rfl ?_;refine af.call tok rfl rfl rfl rfl rfl r3 ?_;refine qP 1 rfl ?_;refine af.nil ?_;refine ab.nil ?_;by_cases hz:z=0
 · rw[if_pos hz,beq_iff_eq.2 hz];refine AW.aL rfl ?_;refine qX 2 rfl ?_;exact qN rfl
 rw[if_neg hz,beq_eq_false_iff_ne.2 hz];refine AW.aA rfl ?_;refine AW.skip (AW.seq (AW.block ?_));refine qX 3 rfl ?_;by_cases hxy:x=y
 · rw[if_pos (.inl hxy),beq_iff_eq.2 hxy];refine qU 5 rfl ?_;refine ab.nil ?_;refine AW.aL rfl ?_;refine qX 2 rfl ?_;exact qN rfl
 rw[beq_eq_false_iff_ne.2 hxy];refine qU 3 rfl ?_;by_cases hy0:y=0
 · rw[if_pos (.inr hy0),beq_iff_eq.2 hy0];refine qU 2 rfl ?_;refine ab.nil ?_;refine AW.aL rfl ?_;refine qX 2 rfl ?_;exact qN rfl
 rw[if_neg (fun h=>h.elim hxy hy0),beq_eq_false_iff_ne.2 hy0];refine qU 2 rfl ?_;refine ab.nil ?_;refine AW.aA rfl ?_;refine qX 3 rfl ?_;refine ab.nil ?_;by_cases hx0:x=0
 · rw[if_pos hx0,beq_iff_eq.2 hx0];refine AW.aL rfl ?_;refine qX 2 rfl ?_;exact qN rfl
 rw[if_neg hx0,beq_eq_false_iff_ne.2 hx0];refine AW.aA rfl ?_;refine AW.skip (AW.seq ?_);refine AW.draw aQ 7 (by kernel_rfl) ?_;refine qP 4 rfl ?_;refine af.call tok rfl rfl rfl rfl rfl cn ?_;refine af.call tok rfl rfl rfl rfl rfl r4 ?_;refine qP 1 rfl ?_;rw[aF (x:=x*u) (by unfold w7 at t4;omega) (by unfold w7 at t4;omega)];refine af.nil ?_;refine qU 1 rfl ?_;exact qN rfl
theorem dZ: ∀(l:Nat) {rt:List NQ} {a:NQ},aC l a→l≤5→da rt→l≤rt.length→rt.length≤10→EC l rt a→Pure Tryz.prog 64 [bt rt,ah a] (dI (ed l rt a))
 | 0,rt,a,ha,hl5,hrt,hl,hl10,hok=>xi (O:=fun _=>True) (Nk:=fun _=>True) ha hl5 hrt hl hl10 hok (fun h=>absurd rfl h) (fun l' h=>by omega) (fun _=> .inl rfl) (fun l' h=>by omega)
 | l+1,rt,a,ha,hl5,hrt,hl,hl10,hok=>xi (O:=EC l rt) (Nk:=Ih l rt) ha hl5 hrt hl hl10 hok.1 (fun _=>hok.2) (fun l' e b h1 h2=>by
    obtain rfl:l=l':=by omega
    exact dZ l h1 (by omega) hrt (by omega) hl10 h2) (n0 l rt) (fun l' e b j h1 h2 h3=>by
    obtain rfl:l=l':=by omega
    exact⟨mX h1 h2 hrt (by omega) hl10 h3,uf h1 h2 hrt (by omega)⟩)
theorem oL(l:Nat){k:Nat}{rt:List NQ}{a:NQ}(ha:aC l a)(hl5:l≤5)(hrt:da rt)(hl:l≤rt.length)(hl10:rt.length≤10)(sa:ay k a)(sr:fq k rt)(hok:od l k):Pure Tryz.prog 64 [bt rt,ah a] (dI (ed l rt a)) :=
 dZ l ha hl5 hrt hl hl10 (px l ha hrt hl sa sr hok)
end Lift
namespace Lift
open Go Go.Proofs
abbrev dC(a:List RD):D:= .sl 3 (a.map RD.D)
abbrev TrD(rt:List (List RD)):D:= .ag [.sl 1 (rt.map dC)]
def kH(a:List RD):Bool:=a.all RD.okB
def BC(m n:Nat):Bool:=(List.range (m+1)).any fun i=>decide (n=2^i)
def bL(m:Nat)(a:List RD):Nat:=if a.length≠0∧BC m a.length=false then 10 else if kH a=false then 2 else 0
def bb(a:List RD):NQ:=a.map RD.val
def wN(k:Nat)(a:List RD):Prop:= ∀i,i<a.length→(a.getD i default).w k
def wD(rt:List (List RD))(k:Nat):Nat:=if (rt.getD k []).length≠2^k then 10 else if bL k (rt.getD k [])≠0 then bL k (rt.getD k []) else if ed k ((rt.take k).map bb) (bb (rt.getD k []))<0 then 3 else 0
def du(rt:List (List RD)):Nat:=if 5<rt.length then 4 else fE (wD rt) (rt.length-0) 0
def rb(rt l:List (List RD)):Nat:=if du rt≠0 then du rt else fE (fun i=>bL rt.length (l.getD i [])) (l.length-0) 0
theorem EF(a:List RD)(i:Nat):(bb a).getD i 0=if i<a.length then (a.getD i default).val else 0:=by
 unfold bb;rw[aE,List.getElem?_map,aE];by_cases h:i<a.length
 · rw[if_pos h,a8 h];rfl
 · rw[if_neg h,List.getElem?_eq_none (by omega)];rfl
theorem m5{a:List RD}{k:Nat}(h:wN k a)(h1:1≤k):ay k (bb a):=fun c=>by
 rw[EF];split
 · rename_i hc;exact fe (h c hc) h1
 · exact mD h1
theorem lG{a:List RD}{k:Nat}(hw:wN k a)(h:kH a=true):dC a=ah (bb a):=by
 show D.sl 3 (a.map RD.D)=D.sl 3 (List.map _ (List.map _ a));rw[List.map_map]
 congr 1
 refine List.map_congr_left fun x hx=>?_;obtain ⟨i,hi,rfl⟩:=List.mem_iff_getElem.1 hx;have hi2:=hw i hi;rw[aE,a8 hi] at hi2;unfold kH at h;rw[List.all_eq_true] at h;have:=RD.canon hi2 (h _ (List.getElem_mem hi));simp only[Option.getD_some] at this;show (a[i]).D=(Qr (a[i]).val).D;rw[← this]
theorem z9{l:List RD}{i:Nat}(hi:i<l.length)(h:(l.getD i default).okB=false):kH l=false:=IS hi h
theorem xq{l:List RD}(h: ∀i,i<l.length→(l.getD i default).okB=true):kH l=true:=Hn h
theorem yA(m i:Nat):BC m (2^i)=decide (i≤m):=by
 unfold BC;by_cases h:i≤m
 · rw[aN h,List.any_eq_true];exact⟨i,List.mem_range.2 (by omega),aN rfl⟩
 · rw[aO h,List.any_eq_false];intro j hj;have hj:=List.mem_range.1 hj;rw[aO]
   · simp
   · intro e;have h1:=jJ (Nat.le_of_eq e);omega
theorem GV{m n:Nat}(h: ∀i,n≠2^i):BC m n=false:=by
 unfold BC;rw[List.any_eq_false];intro j _;rw[aO (h j)];simp
theorem EO{m n:Nat}(h:BC m n=true): ∃i,i≤m∧n=2^i:=by
 unfold BC at h;rw[List.any_eq_true] at h;obtain ⟨i,h1,h2⟩:=h;exact⟨i,by have:=List.mem_range.1 h1;omega,aq h2⟩
theorem qt{m:Nat}{a:List RD}(h:bL m a=0):aC m (bb a)∧kH a=true:=by
 unfold bL at h;split at h
 · cases h
 rename_i h1;split at h
 · cases h
 rename_i h2;constructor
 · by_cases h0:a.length=0
   · exact .inl (by unfold bb;rw[ae];exact h0)
   · have h3:BC m a.length=true:=by
      cases hv:BC m a.length
      · exact absurd ⟨h0,hv⟩ h1
      · rfl
     obtain ⟨i,h4,h5⟩:=EO h3;exact .inr ⟨i,h4,by unfold bb;rw[ae];exact h5⟩
 · cases hv:kH a
   · exact absurd hv h2
   · rfl
def B5(m:Nat)(a:List RD):Prop:= ¬(a.length≠0∧BC m a.length=false)
theorem yq{m:Nat}{a:List RD}(h:bL m a=0):B5 m a:=by
 unfold bL at h;split at h
 · cases h
 · assumption
theorem mE(xs:List D)(a:List RD){k:Nat}(hw:B5 xs.length a→wN k a)(hk:k≤17300000000000)(hl:a.length≤4398046511104)(hx:xs.length≤1000000):Pure Tryz.prog 99 [.ag [.sl 1 xs],dC a] (tR (bL xs.length a)):=by
 refine qJ 34 Tryz.func99 rfl rfl rfl rfl (by kernel_rfl) (fun B F0 w0=>?_);have hno:=fun i hi=>z9 (l:=a) (i:=i) hi;have hyes:=xq (l:=a);unfold bL;generalize kH a=E at hno hyes ⊢;refine qX 2 rfl ?_;refine ab.nil ?_;refine AW.cut [1] (fun _:Unit=>[(1,.d (dC a))]) (fun _=> ¬(a.length≠0∧BC xs.length a.length=false)) ?_ (fun _ hs=>?_)
 · refine qX 2 rfl ?_;rw[ae];refine qU 1 rfl ?_;refine ab.nil ?_;by_cases h0:a.length=0
   · rw[h0];refine AW.aA rfl ?_;refine AW.skip ?_;exact⟨(),rfl,fun h=>h.1 rfl⟩
   rw[aN (show (0:Int)<(a.length:Int) by omega)];refine AW.aL rfl ?_;by_cases hp: ∃i,a.length=2^i
   · obtain ⟨i,hp⟩:=hp
     have hi:i≤42:=by
      refine jJ ?_;rw[← hp];omega
     have cl:=eP (a.map RD.D) (by rw[ae];exact hp) (by omega);rw[hp,yA];refine qX 1 rfl ?_;refine ab.call tok rfl rfl rfl rfl cl ?_;refine qU 1 rfl ?_;refine qK 2 rfl ?_;rw[aO (show ¬((i:Int)<0) by omega)];refine qU 6 rfl ?_;by_cases hm:i≤xs.length
     · rw[aN hm,aO (show ¬((xs.length:Int)<(i:Int)) by omega)];refine qU 1 rfl ?_;refine ab.nil ?_;refine AW.aA rfl ?_;refine AW.skip ?_;exact⟨(),rfl,fun h=>by cases h.2⟩
     · rw[aO hm,aN (show (xs.length:Int)<(i:Int) by omega),if_pos ⟨by have:=Nat.two_pow_pos i;omega,rfl⟩];refine qU 1 rfl ?_;refine ab.nil ?_;refine AW.aL rfl ?_;refine qX 2 rfl ?_;exact qN rfl
   · have hp: ∀i,a.length≠2^i:=fun i e=>hp ⟨i,e⟩;have cl:=mF (a.map RD.D) (by rw[ae];exact hp) (by rw[ae];omega);rw[if_pos ⟨h0,GV hp⟩];refine qX 1 rfl ?_;refine ab.call tok rfl rfl rfl rfl cl ?_;refine qU 1 rfl ?_;refine qK 9 rfl ?_;refine ab.nil ?_;refine AW.aL rfl ?_;refine qX 2 rfl ?_;exact qN rfl
 · rw[if_neg hs];have hw:=hw hs;show AW _ _ _ _ _ _ _ [(1,.d (dC a))];refine AW.seq (qX 2 rfl ?_);rw[ae];refine qU 1 rfl ?_;refine ab.nil ?_;refine AW.block (AW.aG [23,24,25] (fun i:Nat=>[(23,.d (dC a)),(24,.d (dI a.length)),(25,.d (dI i))]) (fun i=>i≤a.length∧ ∀j,j<i→(a.getD j default).okB=true) (fun i=>a.length-i) 0 rfl ⟨Nat.zero_le _,fun j hj=>by omega⟩ (fun i ⟨hi,hall⟩=>?_));refine qX 1 rfl ?_;refine qI ?_;refine AW.cond rfl (fun h=>?_) (fun h=>?_)
   · have hii:i<a.length:=by have:=aq h;omega
     have hg:=getM RD.D (l:=a) (i:=i) hii;have hno:=hno i hii;have cv:=kO (a.getD i default) (hw i hii) (by omega);refine AW.skip (AW.seq (AW.block (AW.seq (AW.region ?_))));refine ab.idx tok (a.getD i default).D rfl rfl rfl rfl (aj i) hg ?_;refine qU 3 rfl ?_;refine qK 1 rfl ?_;refine ab.call tok rfl rfl rfl rfl cv ?_;refine qU 1 rfl ?_;cases hv:(a.getD i default).okB with
     | false =>
       rw[hno hv,if_pos rfl];refine ab.nil ?_;refine AW.aL rfl ?_;refine qX 2 rfl ?_;exact qN rfl
     | true =>
       refine ab.nil ?_;refine AW.aA rfl ?_;refine AW.skip (qT 1 rfl ?_);rw[aF (x:=(i:Int)+1) (by omega) (by omega)];refine qU 1 rfl ?_;refine ab.nil ?_
       exact⟨i+1,rfl,⟨hii,fun j hj=>by
        by_cases e:j=i
        · subst e;exact hv
        · exact hall j (by omega)⟩,by omega⟩
   have hii:i=a.length:=by have:=au h;omega
   subst hii;rw[hyes hall,if_neg (by simp)];refine AW.exit ?_;refine qX 1 rfl ?_;exact qN rfl
end Lift
namespace Lift
open Go Go.Proofs
theorem D5(rt:List (List RD))(k:Nat):((rt.map dC).take (cR (rt.map dC).length (some (k:Int)))).drop (fK none)=(rt.take k).map dC:=by
 show ((rt.map dC).take k).drop 0=_;rw[List.drop_zero,List.map_take]
theorem pe{rt:List (List RD)}{k m:Nat}(hw: ∀i,i<k→wN m (rt.getD i []))(hk:k≤rt.length)(h: ∀j,j<k→kH (rt.getD j [])=true):(rt.take k).map dC=((rt.take k).map bb).map ah:=by
 rw[List.map_map];refine List.map_congr_left fun x hx=>?_;obtain ⟨i,hi,rfl⟩:=List.mem_iff_getElem.1 hx;rw[aT] at hi
 have e:(rt.take k)[i]'(by rw[aT];exact hi)=rt.getD i []:=by
  rw[List.getElem_take,aE,a8 (by omega)];rfl
 rw[e];exact lG (hw i (by omega)) (h i (by omega))
theorem pZ{rt:List (List RD)}{k i:Nat}(hi:i<k):((rt.take k).map bb).getD i []=bb (rt.getD i []):=by
 rw[aE,List.getElem?_map,List.getElem?_take_of_lt hi,aE];cases rt[i]? with
 | none=>rfl
 | some x=>rfl
theorem CZ{rt:List (List RD)}{k i:Nat}(hi:k≤i):((rt.take k).map bb).getD i []=[]:=by
 rw[aE,List.getElem?_eq_none (by rw[ae,aT];omega)];rfl
theorem fY{rt:List (List RD)}{k:Nat}(hk:k≤rt.length):((rt.take k).map bb).length=k:=by rw[ae,aT];omega
theorem tX{rt:List (List RD)}{k m:Nat}(hw: ∀i,i<k→wN m (rt.getD i []))(h1:1≤m)(hk:k≤rt.length):fq m ((rt.take k).map bb):=fun i=>by
 by_cases h:i<k
 · rw[pZ h];exact m5 (hw i (by omega)) h1
 · rw[CZ (by omega)];exact bn h1
theorem EE(a:List RD):(bb a).length=a.length:=ae ..
theorem iK{rt:List (List RD)}{k:Nat}(h:wD rt k=0):(rt.getD k []).length=2^k∧kH (rt.getD k [])=true∧ ¬ed k ((rt.take k).map bb) (bb (rt.getD k []))<0:=by
 unfold wD at h;split at h
 · cases h
 rename_i h1;split at h
 · rename_i h2;exact absurd h h2
 rename_i h2;split at h
 · cases h
 rename_i h3;exact⟨by omega,(qt (m:=k) (by omega)).2,h3⟩
theorem lY{rt:List (List RD)}{k:Nat}(hk:k≤rt.length)(h: ∀j,j<k→wD rt j=0):da ((rt.take k).map bb):=fun j hj=>by
 rw[fY hk] at hj;rw[pZ hj,EE];exact(iK (h j hj)).1
theorem Ez{l m k:Nat}(h:od l k)(hm:m≤l):od m k:=by
 induction l with
 | zero=>obtain rfl:m=0:=by omega
         exact h
 | succ l ih =>
   by_cases e:m=l+1
   · rw[e];exact h
   · exact ih (kd h) (by omega)
theorem m4(rt:List (List RD)){m:Nat}(hw: ∀i,i<rt.length→(rt.getD i []).length=2^i→wN m (rt.getD i []))(h1:1≤m)(hl:rt.length≤1000000)(hll: ∀i,i<rt.length→(rt.getD i []).length≤4398046511104)(hok:rt.length≤5→od rt.length m):Pure Tryz.prog 54 [TrD rt] (tR (du rt)):=by
 refine qJ 43 Tryz.func54 rfl rfl rfl rfl (by kernel_rfl) (fun B F0 w0=>?_);unfold du;obtain ⟨E,hE⟩: ∃E,fE (wD rt) (rt.length-0) 0=E:=⟨_,rfl⟩;rw[hE];refine qX 2 rfl ?_;refine qI (qX 3 rfl ?_);rw[ae];refine qU 1 rfl ?_;refine ab.nil ?_;by_cases h5:5<rt.length
 · rw[if_pos h5,aN (show (5:Int)<(rt.length:Int) by omega)];refine AW.aL rfl ?_;refine qX 2 rfl ?_;exact qN rfl
 rw[if_neg h5,aO (show ¬(5:Int)<(rt.length:Int) by omega)];have hok:=hok (by omega);have hm7:=pw hok;refine AW.aA rfl ?_;refine AW.skip (AW.seq ?_);refine qX 3 rfl ?_;rw[ae];refine qU 1 rfl ?_;refine ab.nil ?_;refine AW.block (AW.aG [1,13,14,15] (fun i:Nat=>[(1,.bx [.sl 1 (rt.map dC)]),(13,.d (.sl 1 (rt.map dC))),(14,.d (dI rt.length)),(15,.d (dI i))]) (fun i=>i≤rt.length∧fE (wD rt) (rt.length-i) i=E∧ ∀j,j<i→wD rt j=0) (fun i=>rt.length-i) 0 rfl ⟨Nat.zero_le _,hE,fun j hj=>by omega⟩ (fun i ⟨hi,hiE,hall⟩=>?_));refine qX 1 rfl ?_;refine qI (AW.cond rfl (fun h=>?_) (fun h=>?_));rotate_left
 · have hii: ¬i<rt.length:=by have:=au h;omega
   rw[iR hii] at hiE;subst hiE;refine AW.exit ?_;refine qX 1 rfl ?_;exact qN rfl
 have hii:i<rt.length:=by have:=aq h;omega
 have hg:(rt.map dC)[i]?=some (dC (rt.getD i [])):=by simp[hii]
 have hwi:=hw i hii;have hli:=hll i hii;have hmiss:=fun h0:wD rt i=0=>(fU hii h0).symm.trans hiE;have hhit:=fun h0:wD rt i≠0=>(iP hii h0).symm.trans hiE;have hp:2^i≤2^5:=Nat.pow_le_pow_right (by decide) (by omega);have hrt:wD rt i=if (rt.getD i []).length≠2^i then 10 else if bL i (rt.getD i [])≠0 then bL i (rt.getD i []) else if ed i ((rt.take i).map bb) (bb (rt.getD i []))<0 then 3 else 0:=rfl
 refine AW.skip (AW.seq (AW.block ?_));refine qX 1 rfl ?_;refine ab.idx tok (dC (rt.getD i [])) rfl rfl rfl rfl (aj i) hg ?_;refine qU 3 rfl ?_;refine qI (qX 2 rfl ?_);rw[ae];refine qU 2 rfl ?_;rw[zn (by omega)];refine qU 1 rfl ?_;refine ab.nil ?_;by_cases e1:(rt.getD i []).length=2^i;rotate_left
 · rw[if_pos e1] at hrt;rw[bne_iff_ne.2 (show (((rt.getD i []).length:Nat):Int)≠((2^i:Nat):Int) by omega)];have:=hhit (by rw[hrt];decide);rw[hrt] at this;subst this;refine AW.aL rfl ?_;refine qX 2 rfl ?_;exact qN rfl
 rw[if_neg (fun h=>h e1)] at hrt;have hwi:=hwi e1;have cn:=mE ((rt.take i).map dC) (rt.getD i []) (fun _=>hwi) (by omega) hli (by rw[ae,aT];omega);rw[ae,aT,Nat.min_eq_left hi] at cn;rw[e1,bne_eq_false_iff_eq.2 rfl];refine AW.aA rfl ?_;refine AW.skip (qX 3 rfl ?_);refine ab.Ck tok rfl rfl rfl rfl trivial (aj i) (Nat.zero_le _) (by show i≤_;rw[ae];omega) ?_;rw[D5];refine qU 3 rfl ?_;refine qI (qX 2 rfl ?_);refine ab.call tok rfl rfl rfl rfl cn ?_;refine qU 1 rfl ?_;refine ab.nil ?_;rcases e2:bL i (rt.getD i []) with _ | z
 rotate_left
 · rw[e2,if_pos (Nat.succ_ne_zero z)] at hrt;have:=hhit (by rw[hrt];exact Nat.succ_ne_zero z);rw[hrt] at this;subst this;refine qX 1 rfl ?_;refine ab.err tok rfl rfl rfl rfl rfl ?_;refine ab.nil ?_;refine AW.aL rfl ?_;refine qX 2 rfl ?_;exact qN rfl
 rw[if_neg (by rw[e2];simp)] at hrt;obtain ⟨n1,n2⟩:=qt e2;have cs:=oL i (k:=m) n1 (by omega) (lY hi hall) (by rw[fY hi];exact ak _) (by rw[fY hi];omega) (m5 hwi h1) (tX (fun j hj=>hw j (by omega) (iK (hall j hj)).1) h1 hi) (Ez hok hi);have tr:=n0 i ((rt.take i).map bb) (bb (rt.getD i []));rw[show bt ((rt.take i).map bb)= .ag [.sl 1 ((rt.take i).map dC)] from by rw[pe (fun j hj=>hw j (by omega) (iK (hall j hj)).1) hi (fun j hj=>(iK (hall j hj)).2.1)],← lG hwi n2] at cs;generalize ed i ((rt.take i).map bb) (bb (rt.getD i []))=s at cs hrt tr;refine qX 1 rfl ?_;refine ab.err tok rfl rfl rfl rfl rfl ?_;refine ab.nil ?_;refine AW.aA rfl ?_;refine AW.skip (qX 2 rfl ?_);refine ab.call tok rfl rfl rfl rfl cs ?_;refine qU 1 rfl ?_;refine ab.nil ?_;by_cases e3:s<0
 · rw[if_pos e3] at hrt;rw[aN e3];have:=hhit (by rw[hrt];decide);rw[hrt] at this;subst this;refine AW.aL rfl ?_;refine qX 2 rfl ?_;exact qN rfl
 rw[if_neg e3] at hrt;rw[aO e3];refine AW.aA rfl ?_;refine AW.skip (qT 1 rfl ?_);rw[aF (x:=(i:Int)+1) (by omega) (by omega)];refine qU 1 rfl ?_;refine ab.nil ?_
 exact⟨i+1,rfl,⟨hii,hmiss hrt,fun j hj=>by
  by_cases e:j=i
  · rw[e];exact hrt
  · exact hall j (by omega)⟩,by omega⟩
theorem mG(rt l:List (List RD)){m mn:Nat}(hw: ∀i,i<rt.length→(rt.getD i []).length=2^i→wN m (rt.getD i []))(h1:1≤m)(hl:rt.length≤1000000)(hll: ∀i,i<rt.length→(rt.getD i []).length≤4398046511104)(hok:rt.length≤5→od rt.length m)
  (hlw: ∀i,i<l.length→B5 rt.length (l.getD i [])→wN mn (l.getD i [])) (hl2:l.length≤1000000) (hl3: ∀i,i<l.length→(l.getD i []).length≤4398046511104) (hm:mn≤17300000000000):Pure Tryz.prog 61 [TrD rt,.sl 1 (l.map dC)] (tR (rb rt l)):=by
 refine qJ 27 Tryz.func61 rfl rfl rfl rfl (by kernel_rfl) (fun B F0 w0=>?_);have cC:=m4 rt hw h1 hl hll hok;unfold rb;obtain ⟨E,hE⟩: ∃E,fE (fun i=>bL rt.length (l.getD i [])) (l.length-0) 0=E:=⟨_,rfl⟩;rw[hE];refine qX 2 rfl ?_;refine qI (qX 1 rfl ?_);refine ab.call tok rfl rfl rfl rfl cC ?_;refine qU 1 rfl ?_;refine ab.nil ?_;rcases e2:du rt with _ | z
 rotate_left
 · rw[if_pos (Nat.succ_ne_zero z)];refine qX 1 rfl ?_;refine ab.err tok rfl rfl rfl rfl rfl ?_;refine ab.nil ?_;refine AW.aL rfl ?_;refine qX 2 rfl ?_;exact qN rfl
 rw[if_neg (by simp)];refine qX 1 rfl ?_;refine ab.err tok rfl rfl rfl rfl rfl ?_;refine ab.nil ?_;refine AW.aA rfl ?_;refine AW.skip (AW.seq ?_);refine qX 2 rfl ?_;rw[ae];refine qU 1 rfl ?_;refine ab.nil ?_;refine AW.block (AW.aG [2,14,15,16] (fun i:Nat=>[(2,.bx [.sl 1 (rt.map dC)]),(14,.d (.sl 1 (l.map dC))),(15,.d (dI l.length)),(16,.d (dI i))]) (fun i=>i≤l.length∧fE (fun i=>bL rt.length (l.getD i [])) (l.length-i) i=E) (fun i=>l.length-i) 0 rfl ⟨Nat.zero_le _,hE⟩ (fun i ⟨hi,hiE⟩=>?_));refine qX 1 rfl ?_;refine qI (AW.cond rfl (fun h=>?_) (fun h=>?_));rotate_left
 · have hii: ¬i<l.length:=by have:=au h;omega
   rw[iR hii] at hiE;subst hiE;refine AW.exit ?_;refine qX 1 rfl ?_;exact qN rfl
 have hii:i<l.length:=by have:=aq h;omega
 have hg:(l.map dC)[i]?=some (dC (l.getD i [])):=by simp[hii]
 have hmiss:=fun h0:bL rt.length (l.getD i [])=0=>(fU (f:=fun i=>bL rt.length (l.getD i [])) hii h0).symm.trans hiE;have hhit:=fun h0:bL rt.length (l.getD i [])≠0=>(iP (f:=fun i=>bL rt.length (l.getD i [])) hii h0).symm.trans hiE;have cn:=mE (rt.map dC) (l.getD i []) (fun h=>hlw i hii (by rw[ae] at h;exact h)) hm (hl3 i hii) (by rw[ae];omega);rw[ae] at cn;refine AW.skip (AW.seq (AW.block (AW.seq (AW.region ?_))));refine ab.idx tok (dC (l.getD i [])) rfl rfl rfl rfl (aj i) hg ?_;refine qU 2 rfl ?_;refine qK 2 rfl ?_;refine ab.call tok rfl rfl rfl rfl cn ?_;refine qU 1 rfl ?_;refine ab.nil ?_;generalize bL rt.length (l.getD i [])=v at hmiss hhit;rcases v with _ | z
 rotate_left
 · have:=hhit (Nat.succ_ne_zero z);subst this;refine qX 1 rfl ?_;refine ab.err tok rfl rfl rfl rfl rfl ?_;refine ab.nil ?_;refine AW.aL rfl ?_;refine qX 2 rfl ?_;exact qN rfl
 refine qX 1 rfl ?_;refine ab.err tok rfl rfl rfl rfl rfl ?_;refine ab.nil ?_;refine AW.aA rfl ?_;refine AW.skip (qT 1 rfl ?_);rw[aF (x:=(i:Int)+1) (by omega) (by omega)];refine qU 1 rfl ?_;refine ab.nil ?_;exact⟨i+1,rfl,⟨hii,hmiss rfl⟩,by omega⟩
theorem lQ{rt:List (List RD)}(h:du rt=0):rt.length≤5∧ ∀j,j<rt.length→wD rt j=0:=by
 unfold du at h;split at h
 · cases h
 rename_i h1
 have key: ∀(m i:Nat),fE (wD rt) m i=0→ ∀j,i≤j→j<i+m→wD rt j=0:=by
  intro m
  induction m with
  | zero=>intro i _ j h1 h2;omega
  | succ m ih =>
    intro i h j h1 h2;rw[fE] at h;split at h
    · rename_i h0;by_cases e:j=i
      · rw[e];exact h0
      · exact ih (i+1) h j (by omega) (by omega)
    · rename_i h0;exact absurd h h0
 exact⟨by omega,fun j hj=>key _ _ h j (Nat.zero_le _) (by omega)⟩
def D7(rt:List (List RD))(a:List RD):D:=if rb rt [a]≠0 then .tu [dI 0,tR (rb rt [a])] else .tu [dI (ed rt.length (rt.map bb) (bb a)),aP]
theorem Hj{rt:List (List RD)}{a:List RD}(h:rb rt [a]=0):du rt=0∧bL rt.length a=0:=by
 unfold rb at h;split at h
 · rename_i h0;exact absurd h h0
 rename_i h0;refine⟨by omega,?_⟩;have e:fE (fun i=>bL rt.length ([a].getD i [])) ([a].length-0) 0=if bL rt.length a=0 then 0 else bL rt.length a:=rfl
 rw[e] at h;split at h
 · assumption
 · rename_i h1;exact absurd h h1
theorem wF(rt:List (List RD))(a:List RD){m:Nat}(hw: ∀i,i<rt.length→(rt.getD i []).length=2^i→wN m (rt.getD i []))(h1:1≤m)(hl:rt.length≤1000000)(hll: ∀i,i<rt.length→(rt.getD i []).length≤4398046511104)(hok:rt.length≤5→od rt.length m)
  (haw:B5 rt.length a→wN m a) (hal:a.length≤4398046511104) (hm:m≤17300000000000):Pure Tryz.prog 29 [TrD rt,dC a] (D7 rt a):=by
 refine qJ 17 Tryz.func29 rfl rfl rfl rfl (by kernel_rfl) (fun B F0 w0=>?_)
 have h0: ∀i,i<[a].length→i=0:=fun i hi=>by
  have:i<1:=hi;omega
 have cc:=mG rt [a] hw h1 hl hll hok (fun i hi=>by rw[h0 i hi];exact haw) (show 1≤1000000 by decide) (fun i hi=>by rw[h0 i hi];exact hal) hm;unfold D7;refine qX 3 rfl ?_;refine qI (qX 2 rfl ?_);refine ab.fj tok rfl rfl rfl rfl rfl ?_;refine ab.call tok rfl rfl rfl rfl cc ?_;refine qU 1 rfl ?_;refine ab.nil ?_;rcases e2:rb rt [a] with _ | z
 rotate_left
 · rw[if_pos (Nat.succ_ne_zero z)];refine qX 1 rfl ?_;refine ab.err tok rfl rfl rfl rfl rfl ?_;refine ab.nil ?_;refine AW.aL rfl ?_;refine qX 3 rfl ?_;exact qN rfl
 rw[if_neg (by simp)];obtain ⟨k1,k2⟩:=Hj e2;obtain ⟨k3,k4⟩:=lQ k1;obtain ⟨n1,n2⟩:=qt k2;have vo:=lY (k:=rt.length) (ak _) k4;have vl:=fY (rt:=rt) (k:=rt.length) (ak _);have vs:=tX (k:=rt.length) (fun j hj=>hw j hj (iK (k4 j hj)).1) h1 (ak _);have vc:=pe (k:=rt.length) (fun j hj=>hw j hj (iK (k4 j hj)).1) (ak _) (fun j hj=>(iK (k4 j hj)).2.1);rw[List.take_length] at vo vl vs vc;have cs:=oL rt.length (k:=m) n1 k3 vo (by rw[vl];exact ak _) (by rw[vl];omega) (m5 (haw (yq k2)) h1) vs (hok k3);rw[show bt (rt.map bb)= .ag [.sl 1 (rt.map dC)] from by rw[vc],← lG (haw (yq k2)) n2] at cs;refine qX 1 rfl ?_;refine ab.err tok rfl rfl rfl rfl rfl ?_;refine ab.nil ?_;refine AW.aA rfl ?_;refine AW.skip (qX 2 rfl ?_);refine ab.call tok rfl rfl rfl rfl cs ?_;refine qU 2 rfl ?_;exact qN rfl
end Lift
namespace Lift
open Go Go.Proofs
structure Hr (m:Nat) (rt:List (List RD)):Prop where
 t: ∃m0,1≤m0∧m0≤m∧(∀i,i<rt.length→(rt.getD i []).length=2^i→wN m0 (rt.getD i []))∧(rt.length≤5→od rt.length m0)
 m2:m≤1000000
 l:rt.length≤1000000
 ll: ∀i,i<rt.length→(rt.getD i []).length≤4398046511104
structure DE (m:Nat) (rt:List (List RD)) (a:List RD):Prop where
 w:B5 rt.length a→wN m a
 l:a.length≤4398046511104
structure Kt (m:Nat) (rt:List (List RD)) (v:List NQ):Prop where
 l5:rt.length≤5
 ln:v.length=rt.length
 ro:da v
 sz:fq m v
 t: ∃m0,1≤m0∧m0≤m∧fq m0 v∧od rt.length m0
 ps: ∀k,k<v.length→ ¬ed k (v.take k) (v.getD k [])<0
 eq:TrD rt=bt v
theorem Hv{m:Nat}{rt:List (List RD)}(T:Hr m rt)(h:du rt=0):Kt m rt (rt.map bb):=by
 obtain ⟨k3,k4⟩:=lQ h;have vo:=lY (k:=rt.length) (ak _) k4;have vl:=fY (rt:=rt) (k:=rt.length) (ak _);obtain ⟨m0,t1,t2,tw,tk⟩:=T.t;have hw:=fun j hj=>tw j hj (iK (k4 j hj)).1;have vs:=tX (k:=rt.length) hw t1 (ak _);have vc:=pe (k:=rt.length) hw (ak _) (fun j hj=>(iK (k4 j hj)).2.1);rw[List.take_length] at vo vl vs vc;refine⟨k3,vl,vo,vs.mono t2,⟨m0,t1,t2,vs,tk k3⟩,fun k hk=>?_,by show D.ag [.sl 1 (rt.map dC)]=_;rw[vc]⟩;rw[vl] at hk;have:=(iK (k4 k hk)).2.2
 have e:(rt.map bb).getD k []=bb (rt.getD k []):=by
  rw[aE,List.getElem?_map,aE,a8 hk];rfl
 rw[e,← List.map_take];exact this
theorem Ik{m:Nat}{rt:List (List RD)}{a:List RD}(m1:1≤m)(A:DE m rt a)(h:bL rt.length a=0):aC rt.length (bb a)∧ay m (bb a)∧dC a=ah (bb a):=by
 obtain ⟨n1,n2⟩:=qt h;have w:=A.w (yq h);exact⟨n1,m5 w m1,lG w n2⟩
def I5(q:Rat):NQ:=if q=0 then [] else [q]
theorem Dg(q:Rat):ar [q]=I5 q:=by
 show (if 1=0 then [] else iI (Nat.log2 1) [q])=_;rw[if_neg (by decide),show Nat.log2 1=0 by decide];unfold iI I5;show (if bF [q]=true then [] else [q])=_;have:bF [q]=decide (q=0):=by unfold bF;simp
 rw[this];by_cases h:q=0
 · rw[aN h,if_pos rfl,if_pos h]
 · rw[aO h,if_neg (by simp),if_neg h]
theorem m3(r:RD){k:Nat}(hr:r.w k)(h1:1≤k)(hk:k≤1000000)(ho:r.okB=true):Pure Tryz.prog 87 [r.D] (ah (I5 r.val)):=by
 refine qJ 8 Tryz.func87 rfl rfl rfl rfl (by kernel_rfl) (fun B0 F0 w0=>?_);have c1:=mM r (Qr 0) (k:=k) hr (jB _ (by rw[ru];exact h1)) (by omega);have z:=fe hr h1;rw[cG,Rat.add_zero] at c1;have c2:=cM [r.val] (l:=0) (k:=k) (fh 0 _) (by decide) (ft z) (by omega);rw[Dg] at c2;have hz:(Qr 0).D= .ag [dB false,.sl 1 [],.sl 1 []]:=by rw[jO];rfl
 rw[hz] at c1;refine qX 2 rfl ?_;refine qK 2 rfl ?_;refine ab.call tok rfl rfl rfl rfl c1 ?_;refine ab.fj tok rfl rfl rfl rfl rfl ?_;refine ab.call tok rfl rfl rfl rfl c2 ?_;refine qU 1 rfl ?_;exact qN rfl
end Lift
namespace Lift
abbrev Cf:=Nat→Rat
def cf(a:NQ):Cf:=fun i=>a.getD i 0
def cy(l:Nat)(a:Cf):Cf:=fun i=>a (2^l+i)
def mulC(rt:List NQ):Nat→Cf→Cf→Cf
 | 0,a,b=>fun i=>if i=0 then a 0*b 0 else 0
 | l+1,a,b=>fun i=>if i<2^l then mulC rt l a b i+mulC rt l (mulC rt l (cy l a) (cy l b)) (cf (rt.getD l [])) i else mulC rt l a (cy l b) (i-2^l)+mulC rt l (cy l a) b (i-2^l)
def db(l:Nat)(a:Cf):Prop:= ∀i,2^l≤i→a i=0
def ku(l:Nat)(a b:Cf):Prop:= ∀i,i<2^l→a i=b i
theorem bh(rt:List NQ): ∀(l:Nat) (a b:Cf),db l (mulC rt l a b)
 | 0,a,b=>fun i hi=>by
   have:i≠0:=by have:1≤i:=hi;omega
   show (if i=0 then _ else (0:Rat))=0;rw[if_neg this]
 | l+1,a,b=>fun i hi=>by
   rw[Nat.pow_succ] at hi;have hp:0<2^l:=Nat.pow_pos (by decide);show (if i<2^l then _ else _)=(0:Rat);rw[if_neg (by omega),bh rt l _ _ _ (by omega),bh rt l _ _ _ (by omega),Rat.add_zero]
theorem ku.down{l:Nat}{a b:Cf}(h:ku (l+1) a b):ku l a b:=fun i hi=>h i (by rw[Nat.pow_succ];omega)
theorem ku.hi{l:Nat}{a b:Cf}(h:ku (l+1) a b):ku l (cy l a) (cy l b):=fun i hi=>h _ (by rw[Nat.pow_succ];omega)
theorem ku.tq{l:Nat}{a:Cf}:ku l a a:=fun _ _=>rfl
theorem ku.full{l:Nat}{a b:Cf}(h:ku l a b)(ha:db l a)(hb:db l b):a=b:=funext fun i=>by
 by_cases hi:i<2^l
 · exact h i hi
 · rw[ha i (by omega),hb i (by omega)]
theorem b5(rt:List NQ): ∀(l:Nat) {a b a' b':Cf},ku l a a'→ku l b b'→mulC rt l a b=mulC rt l a' b'
 | 0,a,b,a',b',h1,h2=>funext fun i=>by
   show (if i=0 then a 0*b 0 else 0)=(if i=0 then a' 0*b' 0 else 0);rw[h1 0 (by decide),h2 0 (by decide)]
 | l+1,a,b,a',b',h1,h2=>funext fun i=>by
   show (if i<2^l then mulC rt l a b i+mulC rt l (mulC rt l (cy l a) (cy l b)) (cf (rt.getD l [])) i else mulC rt l a (cy l b) (i-2^l)+mulC rt l (cy l a) b (i-2^l))=(if i<2^l then mulC rt l a' b' i+mulC rt l (mulC rt l (cy l a') (cy l b')) (cf (rt.getD l [])) i else mulC rt l a' (cy l b') (i-2^l)+mulC rt l (cy l a') b' (i-2^l));rw[b5 rt l h1.down h2.down,b5 rt l h1.hi h2.hi,b5 rt l h1.down h2.hi,b5 rt l h1.hi h2.down]
def zC:Cf:=fun _=>0
theorem cV(rt:List NQ): ∀(l:Nat) {a b:Cf},ku l a zC∨ku l b zC→mulC rt l a b=zC
 | 0,a,b,h=>funext fun i=>by
   show (if i=0 then a 0*b 0 else 0)=0;split
   · rcases h with h | h
     · rw[h 0 (by decide)];exact Rat.zero_mul _
     · rw[h 0 (by decide)];exact Rat.mul_zero _
   · rfl
 | l+1,a,b,h=>funext fun i=>by
   have hz:ku l zC zC:=ku.tq;have r1:mulC rt l a b=zC:=cV rt l (h.imp ku.down ku.down);have r2:mulC rt l (cy l a) (cy l b)=zC:=cV rt l (h.imp ku.hi ku.hi);have r3:mulC rt l a (cy l b)=zC:=cV rt l (h.imp ku.down ku.hi);have r4:mulC rt l (cy l a) b=zC:=cV rt l (h.imp ku.hi ku.down);have r5:mulC rt l zC (cf (rt.getD l []))=zC:=cV rt l (.inl hz);show (if i<2^l then mulC rt l a b i+mulC rt l (mulC rt l (cy l a) (cy l b)) (cf (rt.getD l [])) i else mulC rt l a (cy l b) (i-2^l)+mulC rt l (cy l a) b (i-2^l))=0;rw[r2,r1,r3,r4,r5];show (if i<2^l then (0:Rat)+0 else 0+0)=0;split<;>exact Rat.add_zero 0
theorem jX(rt:List NQ): ∀(l:Nat) (a b:Cf),mulC rt l a b=mulC rt l b a
 | 0,a,b=>funext fun i=>by
   show (if i=0 then a 0*b 0 else 0)=(if i=0 then b 0*a 0 else 0);rw[Rat.mul_comm]
 | l+1,a,b=>funext fun i=>by
   show (if i<2^l then mulC rt l a b i+mulC rt l (mulC rt l (cy l a) (cy l b)) (cf (rt.getD l [])) i else mulC rt l a (cy l b) (i-2^l)+mulC rt l (cy l a) b (i-2^l))=(if i<2^l then mulC rt l b a i+mulC rt l (mulC rt l (cy l b) (cy l a)) (cf (rt.getD l [])) i else mulC rt l b (cy l a) (i-2^l)+mulC rt l (cy l b) a (i-2^l));rw[jX rt l a b,jX rt l (cy l a) (cy l b),jX rt l a (cy l b),jX rt l (cy l a) b,Rat.add_comm (mulC rt l (cy l b) a _)]
theorem db.mono{l m:Nat}{a:Cf}(h:db l a)(hl:l≤m):db m a:=fun i hi=>h i (Nat.le_trans (Nat.pow_le_pow_right (by decide) hl) hi)
theorem db.xz{l:Nat}{a:Cf}(h:db l a):cy l a=zC:=funext fun i=>h _ (by omega)
theorem dw(rt:List NQ){j:Nat}{a b:Cf}(ha:db j a)(hb:db j b): ∀{l:Nat},j≤l→mulC rt l a b=mulC rt j a b:=fun {l} h=>by
 obtain ⟨d,rfl⟩: ∃d,l=j+d:=⟨l-j,by omega⟩;clear h
 induction d with
 | zero=>rfl
 | succ d ih =>
   have ha':db (j+d) a:=ha.mono (by omega);have hb':db (j+d) b:=hb.mono (by omega);have hz:ku (j+d) zC zC:=ku.tq;rw[← ih];funext i;show (if i<2^(j+d) then mulC rt (j+d) a b i+mulC rt (j+d) (mulC rt (j+d) (cy (j+d) a) (cy (j+d) b)) (cf (rt.getD (j+d) [])) i else mulC rt (j+d) a (cy (j+d) b) (i-2^(j+d))+mulC rt (j+d) (cy (j+d) a) b (i-2^(j+d)))=_;rw[ha'.xz,hb'.xz,cV rt (j+d) (a:=zC) (b:=zC) (.inl hz),cV rt (j+d) (a:=zC) (.inl hz),cV rt (j+d) (b:=zC) (.inr hz),cV rt (j+d) (a:=zC) (.inl hz)];by_cases hi:i<2^(j+d)
   · rw[if_pos hi];exact Rat.add_zero _
   · rw[if_neg hi,bh rt (j+d) a b i (by omega)];exact Rat.add_zero _
theorem a7{l:Nat}{a:NQ}(h:a.length≤2^l):db l (cf a):=fun i hi=>gj (by omega)
theorem fV(a b:NQ)(i:Nat):cf (aW a b) i=cf a i+cf b i:=n9 a b i
theorem lR(a:NQ)(i:Nat):cf (aM a) i= -cf a i:=pB a i
theorem uv{a:NQ}(h:bF a=true):cf a=zC:=funext fun i=>by
 unfold bF at h;rw[List.all_eq_true] at h;by_cases hi:i<a.length
 · have:=aq (h a[i] (List.getElem_mem hi));show a.getD i 0=0;rw[aE,a8 hi];exact this
 · exact gj (by omega)
theorem Hm{j:Nat}{p q:NQ}(n:Nat)(hn:n=2^j)(hq:q.length≤2^j)(i:Nat):cf (dL p q n) i=if i<2^j then cf p i else cf q (i-2^j):=by
 show (dL p q n).getD i 0=_;rw[oh,hn];by_cases h:i<2^j
 · rw[if_pos h,if_pos h];rfl
 · rw[if_neg h,if_neg h];by_cases h2:i<2^j+2^j
   · rw[if_pos h2];rfl
   · rw[if_neg h2];exact(gj (by omega)).symm
theorem fg{j:Nat}{a:NQ}(n:Nat)(hn:n=2^j):ku j (cf (a.take n)) (cf a):=fun i hi=>by
 show (a.take n).getD i 0=a.getD i 0;rw[mw,if_pos (by omega)]
theorem jL{j:Nat}{a:NQ}(n:Nat)(hn:n=2^j):cf (a.drop n)=cy j (cf a):=funext fun i=>by
 show (a.drop n).getD i 0=a.getD (2^j+i) 0;rw[um,hn]
theorem yw{l:Nat}{R:NQ→NQ→NQ}{rt:List NQ}{a b:NQ}(ha:aC l a)(hb:aC l b)(hab:b.length≤a.length)(hrt:da rt)(hl:l≤rt.length)
  (hR: ∀l',l=l'+1→ ∀a' b',aC l' a'→aC l' b'→aC l' (R a' b')∧cf (R a' b')=mulC rt l' (cf a') (cf b')):cf (jv R rt a b)=mulC rt l (cf a) (cf b):=by
 unfold jv;by_cases h0:(bF a||bF b)=true
 · rw[if_pos h0];have:cf ([]:NQ)=zC:=rfl;rw[this,cV];rw[Bool.or_eq_true] at h0;rcases h0 with h | h
   · left;rw[uv h];exact ku.tq
   · right;rw[uv h];exact ku.tq
 rw[if_neg h0];have hz:=fun z:bF a=true=>h0 (by rw[z];rfl);have hz2:=fun z:bF b=true=>h0 (by rw[z,Bool.or_true]);by_cases h1:a.length=1
 · rw[if_pos h1];have lb:b.length≤1:=by omega
   rw[dw rt (j:=0) (a7 (by rw[h1];exact ak _)) (a7 lb) (Nat.zero_le _)];funext i;show [a.getD 0 0*b.getD 0 0].getD i 0=if i=0 then a.getD 0 0*b.getD 0 0 else 0
   cases i with
   | zero=>rfl
   | succ i=>rw[if_neg (by omega)];rfl
 rw[if_neg h1]
 obtain ⟨i,hi,hla⟩: ∃i,i≤l∧a.length=2^i:=by
  rcases ha with e | e
  · exact absurd (by rw[List.length_eq_zero_iff.1 e];rfl) hz
  · exact e
 have xz:i≠0:=fun e=>h1 (by rw[hla,e]);obtain ⟨j,rfl⟩: ∃j,i=j+1:=⟨i-1,by omega⟩;obtain ⟨l',rfl⟩: ∃l',l=l'+1:=⟨l-1,by omega⟩;have hj:j≤l':=by omega
 have hR:=fun a' b' h1 h2=>hR l' rfl a' b' h1 h2;obtain ⟨e1,e2,e3⟩:=bD hla;have hx:aC l' (a.take (a.length / 2)):= .inr ⟨j,hj,e1⟩;have hy:aC l' (a.drop (a.length / 2)):= .inr ⟨j,hj,e2⟩;have la:db (j+1) (cf a):=a7 (by omega);have lb:db (j+1) (cf b):=a7 (by omega);rw[dw rt la lb hi]
 have low: ∀{p q:NQ},p.length≤2^j→q.length≤2^j→aC l' p→aC l' q→cf (R p q)=mulC rt j (cf p) (cf q):=fun {p q} hp hq h1 h2=>by
  rw[(hR p q h1 h2).2,dw rt (a7 hp) (a7 hq) hj]
 have lenR: ∀{p q:NQ},p.length≤2^j→q.length≤2^j→aC l' p→aC l' q→db j (cf (R p q)):=fun {p q} hp hq h1 h2=>by
  rw[low hp hq h1 h2];exact bh rt j _ _
 have tk:=fg (a:=a) (a.length / 2) e3;have dr:=jL (a:=a) (a.length / 2) e3
 have cj: ∀{p q:NQ},db j (cf q)→ ∀i,cf (dL p q (a.length / 2)) i=if i<2^j then cf p i else cf q (i-2^j):=fun {p q} hq i=>by
  show (dL p q (a.length / 2)).getD i 0=_;rw[oh,e3];by_cases h:i<2^j
  · rw[if_pos h,if_pos h];rfl
  · rw[if_neg h,if_neg h];by_cases h2:i<2^j+2^j
    · rw[if_pos h2];rfl
    · rw[if_neg h2,hq _ (by omega)]
 by_cases h3:b.length≤a.length / 2
 · rw[if_pos h3]
   have hb':aC l' b:=by
    rcases hb with e | ⟨i',_,e⟩
    · exact .inl e
    · refine .inr ⟨i',?_,e⟩;rw[e3,e] at h3;have:=(Nat.pow_le_pow_iff_right (a:=2) (by decide)).1 h3;omega
   rw[e3] at h3;have lbj:db j (cf b):=a7 h3;funext i;rw[cj (lenR (by omega) h3 hy hb'),low (by omega) h3 hx hb',low (by omega) h3 hy hb',dr,b5 rt j tk ku.tq];show _=if i<2^j then mulC rt j (cf a) (cf b) i+mulC rt j (mulC rt j (cy j (cf a)) (cy j (cf b))) (cf (rt.getD j [])) i else mulC rt j (cf a) (cy j (cf b)) (i-2^j)+mulC rt j (cy j (cf a)) (cf b) (i-2^j)
   have hzz:ku j zC zC:=ku.tq;rw[lbj.xz,cV rt j (b:=zC) (.inr hzz),cV rt j (b:=zC) (.inr hzz),cV rt j (a:=zC) (.inl hzz)];by_cases h:i<2^j
   · rw[if_pos h,if_pos h];exact(Rat.add_zero _).symm
   · rw[if_neg h,if_neg h];exact(Rat.zero_add _).symm
 rw[if_neg h3]
 have hlb:b.length=2^(j+1):=by
  rcases hb with e | ⟨i',_,e⟩
  · exact absurd (by rw[List.length_eq_zero_iff.1 e];rfl) hz2
  · rw[e] at h3 hab ⊢;rw[hla] at hab;rw[e3] at h3;have h4:=(Nat.pow_le_pow_iff_right (a:=2) (by decide)).1 hab;have h5: ¬i'≤j:=fun h=>h3 ((Nat.pow_le_pow_iff_right (a:=2) (by decide)).2 h);rw[show i'=j+1 by omega]
 obtain ⟨f1,f2,f3⟩:=bD hlb;rw[show b.length / 2=a.length / 2 by rw[f3,e3]] at f1 f2;have hu:aC l' (b.take (a.length / 2)):= .inr ⟨j,hj,f1⟩;have hv:aC l' (b.drop (a.length / 2)):= .inr ⟨j,hj,f2⟩;have tkb:=fg (a:=b) (a.length / 2) e3;have drb:=jL (a:=b) (a.length / 2) e3;have hlog:a.length.log2-1=j:=by rw[hla,Nat.log2_two_pow];omega
 rw[hlog];have hdl:(rt.getD j []).length=2^j:=hrt j (by omega);have hd:aC l' (rt.getD j []):= .inr ⟨j,hj,hdl⟩;have Ryv:=hR _ _ hy hv;have lyv:db j (cf (R (a.drop (a.length / 2)) (b.drop (a.length / 2)))):=lenR (by omega) (by omega) hy hv;have c1:=low (p:=a.take (a.length / 2)) (q:=b.take (a.length / 2)) (by omega) (by omega) hx hu;have c2:=low (p:=a.drop (a.length / 2)) (q:=b.drop (a.length / 2)) (by omega) (by omega) hy hv;have c3:=low (p:=a.take (a.length / 2)) (q:=b.drop (a.length / 2)) (by omega) (by omega) hx hv;have c4:=low (p:=a.drop (a.length / 2)) (q:=b.take (a.length / 2)) (by omega) (by omega) hy hu
 have c5:cf (R (R (a.drop (a.length / 2)) (b.drop (a.length / 2))) (rt.getD j []))=mulC rt j (cf (R (a.drop (a.length / 2)) (b.drop (a.length / 2)))) (cf (rt.getD j [])):=by
  rw[(hR _ _ Ryv.1 hd).2,dw rt lyv (a7 (by omega)) hj]
 have lq:db j (cf (aW (R (a.take (a.length / 2)) (b.drop (a.length / 2))) (R (a.drop (a.length / 2)) (b.take (a.length / 2))))):=fun i hi=>by
  rw[fV,c3,c4,bh rt j _ _ i hi,bh rt j _ _ i hi];exact Rat.add_zero _
 funext i;rw[cj lq,fV,fV,c1,c5,c2,c3,c4,dr,drb,b5 rt j tk tkb,b5 rt j tk ku.tq,b5 rt j ku.tq tkb];rfl
theorem eS: ∀(l:Nat) {rt:List NQ} {a b:NQ},aC l a→aC l b→da rt→l≤rt.length→aC l (bd l rt a b)∧cf (bd l rt a b)=mulC rt l (cf a) (cf b)
 | 0,rt,a,b,ha,hb,hrt,hl=>by
   have key: ∀{a b:NQ},aC 0 a→aC 0 b→b.length≤a.length→aC 0 (jv (fun _ _=>[]) rt a b)∧cf (jv (fun _ _=>[]) rt a b)=mulC rt 0 (cf a) (cf b):=fun {a b} ha hb hab =>
    ⟨by
     unfold jv;split
     · exact bm _
     split
     · exact fh _ _
     · rename_i h0 h1;have:a.length≤1:=ha.le;have:a=[]:=List.length_eq_zero_iff.1 (by omega);subst this
       exact absurd rfl h0,yw ha hb hab hrt hl (fun l' h=>by omega)⟩
   show aC 0 (kp (jv (fun _ _=>[]) rt) a b)∧cf (kp (jv (fun _ _=>[]) rt) a b)=_;unfold kp;split
   · have:=key hb ha (by omega);exact⟨this.1,by rw[this.2,jX]⟩
   · exact key ha hb (by omega)
 | l+1,rt,a,b,ha,hb,hrt,hl=>by
   have ih: ∀l',l+1=l'+1→ ∀a' b',aC l' a'→aC l' b'→aC l' (bd l rt a' b')∧cf (bd l rt a' b')=mulC rt l' (cf a') (cf b'):=fun l' e a' b' h1 h2=>by
    obtain rfl:l=l':=by omega
    exact eS l h1 h2 hrt (by omega)
   have lt:aC (l+1) (bd (l+1) rt a b):=by
    obtain ⟨K,hK⟩: ∃K,ay K a∧ay K b∧fq K rt:=xb a b rt;exact(eQ (l+1) ha hb hrt hl hK.1 hK.2.1 hK.2.2).1
   refine⟨lt,?_⟩;show cf (kp (jv (bd l rt) rt) a b)=_;unfold kp;split
   · rw[yw hb ha (by omega) hrt hl ih,jX]
   · exact yw ha hb (by omega) hrt hl ih
end Lift
namespace Lift
theorem Eb:k7 0=0:=jd.2 rfl
theorem FH: ∀{i:Nat} {a:NQ},db i (cf a)→cf (iI i a)=cf a
 | 0,a,h=>by
   unfold iI;by_cases h0:bF (a.take 1)=true
   · rw[if_pos h0];have z:=uv h0;funext c;show (0:Rat)=a.getD c 0;cases c with
     | zero =>
       have:(a.take 1).getD 0 0=0:=congrFun z 0;rw[mw,if_pos (by decide)] at this;exact this.symm
     | succ c=>exact(h (c+1) (by show 1≤c+1;omega)).symm
   · rw[if_neg h0];funext c;show (a.take 1).getD c 0=a.getD c 0;rw[mw];split
     · rfl
     · exact(h c (by show 1≤c;omega)).symm
 | i+1,a,h=>by
   unfold iI;have e:2^(i+1)=2^i*2:=Nat.pow_succ ..;by_cases h0:bF ((a.take (2^(i+1))).drop (2^i))=true
   · rw[if_pos h0];refine FH fun c hc=>?_;by_cases hc2:c<2^(i+1)
     · have:=congrFun (uv h0) (c-2^i);have:((a.take (2^(i+1))).drop (2^i)).getD (c-2^i) 0=0:=this;rw[um,mw,if_pos (by omega),show 2^i+(c-2^i)=c by omega] at this;exact this
     · exact h c (by omega)
   · rw[if_neg h0];funext c;show (a.take (2^(i+1))).getD c 0=a.getD c 0;rw[mw];split
     · rfl
     · exact(h c (by omega)).symm
theorem bO{l:Nat}{a:NQ}(ha:aC l a):cf (ar a)=cf a:=by
 unfold ar;split
 · rename_i h;rw[List.length_eq_zero_iff.1 h]
 rename_i h0;rcases ha with e | ⟨i,hi,e⟩
 · exact absurd e h0
 rw[e,Nat.log2_two_pow];exact FH (a7 (by omega))
theorem bf{l:Nat}{a:NQ}(ha:aC l a):aC l (ar a):=by
 obtain ⟨K,hK⟩:=Cg a;exact(a5 ha hK).1
structure wy (a:NQ):Prop where
 one:a.length=1→a.getD 0 0≠0
 two: ∀i,a.length=2^(i+1)→ ¬db i (cf a)
theorem xa:wy []:=⟨fun h=>absurd h (by decide),fun i h=>by
  have hp:0<2^(i+1):=Nat.pow_pos (by decide);have h:0=2^(i+1):=h
  omega⟩
theorem uA{a:NQ}(h:cf a=zC):bF a=true:=by
 unfold bF;rw[List.all_eq_true];intro x hx;obtain ⟨i,hi,rfl⟩:=List.getElem_of_mem hx;have:=congrFun h i;have:a.getD i 0=0:=this;rw[aE,a8 hi] at this;exact aN this
theorem w9: ∀{i:Nat} {a:NQ},a.length=2^i∨2^i≤a.length→wy (iI i a)
 | 0,a,h=>by
   unfold iI;by_cases h0:bF (a.take 1)=true
   · rw[if_pos h0];exact xa
   · rw[if_neg h0]
     have hl:(a.take 1).length=1:=by rw[aT];have:1≤a.length:=by rcases h with h | h;(have h:a.length=1:=h;omega);exact h
                                     omega
     refine⟨fun _ e=>h0 (uA (funext fun c=>?_)),fun i h=>?_⟩
     · show (a.take 1).getD c 0=0;cases c with
       | zero=>exact e
       | succ c=>exact gj (by omega)
     · rw[hl,Nat.pow_succ] at h;omega
 | i+1,a,h=>by
   unfold iI;have e:2^(i+1)=2^i*2:=Nat.pow_succ ..;have hp:0<2^i:=Nat.pow_pos (by decide);by_cases h0:bF ((a.take (2^(i+1))).drop (2^i))=true
   · rw[if_pos h0];exact w9 (.inr (by omega))
   · rw[if_neg h0];have hl:(a.take (2^(i+1))).length=2^(i+1):=by rw[aT];omega
     refine⟨fun h1=>?_,fun k hk hlow=>h0 (uA (funext fun c=>?_))⟩
     · rw[hl] at h1;omega
     · rw[hl] at hk
       have:k=i:=by
        have h1:=(Nat.pow_le_pow_iff_right (a:=2) (by decide)).1 (Nat.le_of_eq hk);have h2:=(Nat.pow_le_pow_iff_right (a:=2) (by decide)).1 (Nat.le_of_eq hk.symm);omega
       subst this;show ((a.take (2^(k+1))).drop (2^k)).getD c 0=0;rw[um];exact hlow _ (by omega)
theorem jc{l:Nat}{a:NQ}(ha:aC l a):wy (ar a):=by
 unfold ar;split
 · exact xa
 rename_i h0;rcases ha with e | ⟨i,hi,e⟩
 · exact absurd e h0
 rw[e,Nat.log2_two_pow];exact w9 (.inl e)
theorem GW{a b:NQ}(hl:a.length=b.length)(h:cf a=cf b):a=b:=by
 refine List.ext_getElem hl fun i h1 h2=>?_;have:a.getD i 0=b.getD i 0:=congrFun h i;rw[aE,aE,a8 h1,a8 h2] at this;exact this
theorem DS{l m:Nat}{a b:NQ}(ha:aC l a)(hb:aC m b)(ta:wy a)(tb:wy b)(h:cf a=cf b):a=b:=by
 refine GW ?_ h
 have key: ∀{l m:Nat} {a b:NQ},aC l a→aC m b→wy b→cf a=cf b→b.length≤a.length:=fun {l m a b} ha hb tb h=>by
  by_cases hlt:b.length≤a.length
  · exact hlt
  exfalso;rcases hb with e | ⟨k,_,e⟩
  · omega
  rcases k with _ | k
  · have h1:b.length=1:=e;have h0:a.length=0:=by omega
    refine tb.one h1 ?_;have:a.getD 0 0=b.getD 0 0:=congrFun h 0;rw[← this];exact gj (by omega)
  · refine tb.two k e ?_;rw[← h];refine a7 ?_;rcases ha with e1 | ⟨j,_,e1⟩
    · omega
    · rw[e1,e] at hlt;have: ¬k+1≤j:=fun h=>hlt (Nat.pow_le_pow_right (by decide) h);rw[e1];exact Nat.pow_le_pow_right (by decide) (by omega)
 exact Nat.le_antisymm (key hb ha ta h.symm) (key ha hb tb h)
theorem nc{l m:Nat}{a b:NQ}(ha:aC l a)(hb:aC m b)(h:cf a=cf b):ar a=ar b:=by
 refine DS (bf ha) (bf hb) (jc ha) (jc hb) ?_;rw[bO ha,bO hb,h]
def b8(rt:List NQ)(l:Nat)(a:Cf):Cf:=fun i=>mulC rt l a a i-mulC rt l (mulC rt l (cy l a) (cy l a)) (cf (rt.getD l [])) i
def bg(rt:List NQ):Nat→Cf→Int
 | 0,a=>k7 (a 0)
 | l+1,a=>if bg rt l (cf (rt.getD l []))=0 then bg rt l a else if bg rt l a=bg rt l (cy l a)∨bg rt l (cy l a)=0 then bg rt l a else
   if bg rt l a=0 then bg rt l (cy l a) else bg rt l a*bg rt l (b8 rt l a)
theorem Ab(rt:List NQ){l:Nat}{a b:Cf}(h:ku (l+1) a b):b8 rt l a=b8 rt l b:=by
 unfold b8;rw[b5 rt l h.down h.down,b5 rt l h.hi h.hi]
theorem l8(rt:List NQ): ∀(l:Nat) {a b:Cf},ku l a b→bg rt l a=bg rt l b
 | 0,a,b,h=>by show k7 (a 0)=k7 (b 0);rw[h 0 (by decide)]
 | l+1,a,b,h=>by
   unfold bg;rw[l8 rt l h.down,l8 rt l h.hi,Ab rt h]
theorem gB(rt:List NQ): ∀(l:Nat),bg rt l zC=0
 | 0=>by show k7 0=0;exact Eb
 | l+1=>by
   have h:=gB rt l;have h2:bg rt l (cy l zC)=0:=h;unfold bg;rw[h,h2];split
   · rfl
   · rw[if_pos (Or.inl rfl)]
theorem b6(rt:List NQ){j:Nat}{a:Cf}(ha:db j a): ∀{l:Nat},j≤l→bg rt l a=bg rt j a:=fun {l} h=>by
 obtain ⟨d,rfl⟩: ∃d,l=j+d:=⟨l-j,by omega⟩;clear h
 induction d with
 | zero=>rfl
 | succ d ih =>
   have ha':db (j+d) a:=ha.mono (by omega);show (if bg rt (j+d) (cf (rt.getD (j+d) []))=0 then bg rt (j+d) a else if bg rt (j+d) a=bg rt (j+d) (cy (j+d) a)∨bg rt (j+d) (cy (j+d) a)=0 then bg rt (j+d) a else if bg rt (j+d) a=0 then bg rt (j+d) (cy (j+d) a) else bg rt (j+d) a*bg rt (j+d) (b8 rt (j+d) a))=_;rw[ha'.xz,gB,ih];by_cases hd:bg rt (j+d) (cf (rt.getD (j+d) []))=0
   · rw[if_pos hd]
   · rw[if_neg hd,if_pos (Or.inr rfl)]
theorem kJ{l j:Nat}{rt:List NQ}{a:NQ}(hj:j≤l)(ha:a.length=2^(j+1))(hrt:da rt)(hl:l<rt.length):aC l (eW l rt a)∧cf (eW l rt a)=b8 rt j (cf a):=by
 obtain ⟨K,hK⟩: ∃K,ay K a∧ay K a∧fq K rt:=xb a a rt;refine⟨(ue hj ha hrt hl hK.1 hK.2.2).1,?_⟩;obtain ⟨e1,e2,e3⟩:=bD ha;have hx:aC l (a.take (a.length / 2)):= .inr ⟨j,hj,e1⟩;have hy:aC l (a.drop (a.length / 2)):= .inr ⟨j,hj,e2⟩;have hlog:a.length.log2-1=j:=by rw[ha,Nat.log2_two_pow];omega
 have hdl:(rt.getD j []).length=2^j:=hrt j (by omega);have hd:aC l (rt.getD j []):= .inr ⟨j,hj,hdl⟩;have r1:=eS l hx hx hrt (by omega);have r2:=eS l hy hy hrt (by omega);have r3:=eS l r2.1 hd hrt (by omega);unfold eW b8;rw[hlog];funext i;rw[fV,lR,r1.2,r3.2,r2.2,dw rt (a7 (by omega)) (a7 (by omega)) hj,dw rt (a7 (a:=a.drop (a.length / 2)) (by omega)) (a7 (by omega)) hj,dw rt (bh rt j _ _) (a7 (by omega)) hj,jL _ e3,b5 rt j (fg _ e3) (fg _ e3)];exact Rat.sub_eq_add_neg _ _ |>.symm
theorem eI: ∀(l:Nat) {rt:List NQ} {a:NQ},aC l a→da rt→l≤rt.length→ed l rt a=bg rt l (cf a)
 | 0,rt,a,ha,hrt,hl=>by
   have hs:=bf ha;have hc:=bO ha;show wG (fun _=>0) (fun a=>a) rt (ar a)=k7 (cf a 0);rw[← hc];generalize ar a=s at hs;unfold wG;rcases hs with e | ⟨i,hi,e⟩
   · rw[if_pos e,List.length_eq_zero_iff.1 e];show 0=k7 0;rw[Eb]
   · obtain rfl:i=0:=by omega
     have e:s.length=1:=e;rw[if_neg (by omega),if_pos e];rfl
 | l+1,rt,a,ha,hrt,hl=>by
   have hs:=bf ha;have hc:=bO ha;show wG (ed l rt) (eW l rt) rt (ar a)=bg rt (l+1) (cf a);rw[← hc];generalize ar a=s at hs;clear hc ha;unfold wG;by_cases h0:s.length=0
   · rw[if_pos h0,List.length_eq_zero_iff.1 h0];exact(gB rt (l+1)).symm
   rw[if_neg h0];by_cases h1:s.length=1
   · rw[if_pos h1,b6 rt (j:=0) (a7 (by rw[h1];exact ak _)) (Nat.zero_le _)];rfl
   rw[if_neg h1]
   obtain ⟨j,hj,hsl⟩: ∃j,j≤l∧s.length=2^(j+1):=by
    rcases hs with e | ⟨i,hi,e⟩
    · exact absurd e h0
    · rcases i with _ | j
      · exact absurd e h1
      · exact⟨j,by omega,e⟩
   obtain ⟨e1,e2,e3⟩:=bD hsl;have hx:aC l (s.take (s.length / 2)):= .inr ⟨j,hj,e1⟩;have hy:aC l (s.drop (s.length / 2)):= .inr ⟨j,hj,e2⟩;have hlog:s.length.log2-1=j:=by rw[hsl,Nat.log2_two_pow];omega
   have hdl:(rt.getD j []).length=2^j:=hrt j (by omega);have hd:aC l (rt.getD j []):= .inr ⟨j,hj,hdl⟩;have hn:=kJ hj hsl hrt (by omega)
   have lowN:db j (b8 rt j (cf s)):=fun i hi=>by
    unfold b8;rw[bh rt j _ _ i hi,bh rt j _ _ i hi];exact Rat.sub_self
   rw[hlog,eI l hd hrt (by omega),eI l hx hrt (by omega),eI l hy hrt (by omega),eI l hn.1 hrt (by omega),hn.2,jL _ e3,
    b6 rt (a7 (a:=rt.getD j []) (by omega)) hj,b6 rt (a7 (a:=s.take (s.length / 2)) (by omega)) hj,b6 rt lowN hj,l8 rt j (fg _ e3)]
   have lh:db j (cy j (cf s)):=fun i hi=>(a7 (l:=j+1) (by omega)) _ (by rw[Nat.pow_succ];omega);rw[b6 rt lh hj,b6 rt (a:=cf s) (j:=j+1) (l:=l+1) (a7 (by omega)) (by omega)];rfl
end Lift
namespace Lift
def kC(R:NQ→NQ→NQ)(rt:List NQ)(a b:NQ):NQ :=
 if a.length=0∨b.length=0 then [] else if max a.length b.length=1 then [a.getD 0 0*b.getD 0 0] else
 dL (aW (R ((bq a (max a.length b.length)).take (max a.length b.length / 2)) ((bq b (max a.length b.length)).take (max a.length b.length / 2)))
   (R (R ((bq a (max a.length b.length)).drop (max a.length b.length / 2)) ((bq b (max a.length b.length)).drop (max a.length b.length / 2))) (rt.getD ((max a.length b.length).log2-1) [])))
  (aW (R ((bq a (max a.length b.length)).take (max a.length b.length / 2)) ((bq b (max a.length b.length)).drop (max a.length b.length / 2)))
   (R ((bq a (max a.length b.length)).drop (max a.length b.length / 2)) ((bq b (max a.length b.length)).take (max a.length b.length / 2)))) (max a.length b.length / 2)
def ff:Nat→List NQ→NQ→NQ→NQ
 | 0,rt,a,b=>kC (fun _ _=>[]) rt (ar a) (ar b)
 | l+1,rt,a,b=>kC (ff l rt) rt (ar a) (ar b)
theorem CU{l:Nat}{a:NQ}(n:Nat)(ha:a.length≤n):cf (bq a n)=cf a:=funext fun i=>by
 show (bq a n).getD i 0=a.getD i 0;rw[gz];split
 · rfl
 · exact(gj (by omega)).symm
theorem zD{l:Nat}{R:NQ→NQ→NQ}{rt:List NQ}{a b:NQ}(ha:aC l a)(hb:aC l b)(hrt:da rt)(hl:l≤rt.length)
  (hR: ∀l',l=l'+1→ ∀a' b',aC l' a'→aC l' b'→aC l' (R a' b')∧cf (R a' b')=mulC rt l' (cf a') (cf b')):aC l (kC R rt a b)∧cf (kC R rt a b)=mulC rt l (cf a) (cf b):=by
 have cz: ∀{x:NQ},x.length=0→cf x=zC:=fun {x} h=>by rw[List.length_eq_zero_iff.1 h];rfl
 unfold kC;by_cases h0:a.length=0∨b.length=0
 · rw[if_pos h0];refine⟨bm _,?_⟩;rw[cV rt l (h0.imp (fun h=>by rw[cz h];exact ku.tq) (fun h=>by rw[cz h];exact ku.tq))];rfl
 rw[if_neg h0];by_cases h1:max a.length b.length=1
 · rw[if_pos h1];refine⟨fh _ _,?_⟩;rw[dw rt (j:=0) (a7 (show a.length≤1 by omega)) (a7 (show b.length≤1 by omega)) (Nat.zero_le _)];funext i;show [a.getD 0 0*b.getD 0 0].getD i 0=if i=0 then a.getD 0 0*b.getD 0 0 else 0
   cases i with
   | zero=>rfl
   | succ i=>rw[if_neg (by omega)];rfl
 rw[if_neg h1]
 obtain ⟨i,hi,hn⟩: ∃i,i≤l∧max a.length b.length=2^i:=by
  rcases ha with e | ⟨i,hi,e⟩
  · exact absurd (.inl e) h0
  rcases hb with e2 | ⟨k,hk,e2⟩
  · exact absurd (.inr e2) h0
  by_cases h:a.length≤b.length
  · exact⟨k,hk,by rw[Nat.max_eq_right h,e2]⟩
  · exact⟨i,hi,by rw[Nat.max_eq_left (by omega),e]⟩
 have xz:i≠0:=fun e=>h1 (by rw[hn,e]);obtain ⟨j,rfl⟩: ∃j,i=j+1:=⟨i-1,by omega⟩;obtain ⟨l',rfl⟩: ∃l',l=l'+1:=⟨l-1,by omega⟩;have hj:j≤l':=by omega
 have hR:=fun a' b' h1 h2=>hR l' rfl a' b' h1 h2;have ca:=CU (l:=l') (max a.length b.length) (Nat.le_max_left a.length b.length);have cb:=CU (l:=l') (max a.length b.length) (Nat.le_max_right a.length b.length);have wa:=bM a (max a.length b.length);have wb:=bM b (max a.length b.length);rw[← ca,← cb];generalize bq a (max a.length b.length)=A at *;generalize bq b (max a.length b.length)=B at *;generalize max a.length b.length=n at *;subst hn;have e0:=lE j;have hlog:(2^(j+1)).log2-1=j:=by rw[Nat.log2_two_pow];omega
 rw[e0,hlog];obtain ⟨e1,e2,e3⟩:=bD wa;obtain ⟨f1,f2,f3⟩:=bD wb;rw[e3] at e1 e2;rw[f3] at f1 f2;have hx:aC l' (A.take (2^j)):= .inr ⟨j,hj,e1⟩;have hy:aC l' (A.drop (2^j)):= .inr ⟨j,hj,e2⟩;have hu:aC l' (B.take (2^j)):= .inr ⟨j,hj,f1⟩;have hv:aC l' (B.drop (2^j)):= .inr ⟨j,hj,f2⟩;have hdl:(rt.getD j []).length=2^j:=hrt j (by omega);have hd:aC l' (rt.getD j []):= .inr ⟨j,hj,hdl⟩
 have low: ∀{p q:NQ},p.length≤2^j→q.length≤2^j→aC l' p→aC l' q→cf (R p q)=mulC rt j (cf p) (cf q):=fun {p q} hp hq h1 h2=>by
  rw[(hR p q h1 h2).2,dw rt (a7 hp) (a7 hq) hj]
 have Ryv:=hR _ _ hy hv;have c2:=low (p:=A.drop (2^j)) (q:=B.drop (2^j)) (by omega) (by omega) hy hv;have lyv:db j (cf (R (A.drop (2^j)) (B.drop (2^j)))):=by rw[c2];exact bh rt j _ _
 have c1:=low (p:=A.take (2^j)) (q:=B.take (2^j)) (by omega) (by omega) hx hu;have c3:=low (p:=A.take (2^j)) (q:=B.drop (2^j)) (by omega) (by omega) hx hv;have c4:=low (p:=A.drop (2^j)) (q:=B.take (2^j)) (by omega) (by omega) hy hu
 have c5:cf (R (R (A.drop (2^j)) (B.drop (2^j))) (rt.getD j []))=mulC rt j (cf (R (A.drop (2^j)) (B.drop (2^j)))) (cf (rt.getD j [])):=by
  rw[(hR _ _ Ryv.1 hd).2,dw rt lyv (a7 (by omega)) hj]
 refine⟨.inr ⟨j+1,by omega,by rw[et,Nat.pow_succ];omega⟩,?_⟩;rw[dw rt (j:=j+1) (a7 (by omega)) (a7 (by omega)) (by omega)]
 have lq:db j (cf (aW (R (A.take (2^j)) (B.drop (2^j))) (R (A.drop (2^j)) (B.take (2^j))))):=fun i hi=>by
  rw[fV,c3,c4,bh rt j _ _ i hi,bh rt j _ _ i hi];exact Rat.add_zero _
 have cj: ∀{p q:NQ},db j (cf q)→ ∀i,cf (dL p q (2^j)) i=if i<2^j then cf p i else cf q (i-2^j):=fun {p q} hq i=>by
  show (dL p q (2^j)).getD i 0=_;rw[oh];by_cases h:i<2^j
  · rw[if_pos h,if_pos h];rfl
  · rw[if_neg h,if_neg h];by_cases h2:i<2^j+2^j
    · rw[if_pos h2];rfl
    · rw[if_neg h2,hq _ (by omega)]
 funext i;rw[cj lq,fV,fV,c1,c5,c2,c3,c4,jL (a:=A) (2^j) rfl,jL (a:=B) (2^j) rfl,b5 rt j (fg (a:=A) (2^j) rfl) (fg (a:=B) (2^j) rfl),b5 rt j (fg (a:=A) (2^j) rfl) ku.tq,b5 rt j ku.tq (fg (a:=B) (2^j) rfl)];rfl
theorem jU: ∀(l:Nat) {rt:List NQ} {a b:NQ},aC l a→aC l b→da rt→l≤rt.length→aC l (ff l rt a b)∧cf (ff l rt a b)=mulC rt l (cf a) (cf b)
 | 0,rt,a,b,ha,hb,hrt,hl=>by
   have:=zD (R:=fun _ _=>[]) (bf ha) (bf hb) hrt hl (fun l' h=>by omega);rw[bO ha,bO hb] at this;exact this
 | l+1,rt,a,b,ha,hb,hrt,hl=>by
   have:=zD (R:=ff l rt) (bf ha) (bf hb) hrt hl (fun l' e a' b' h1 h2=>by
    obtain rfl:l=l':=by omega
    exact jU l h1 h2 hrt (by omega))
   rw[bO ha,bO hb] at this;exact this
def fv(l:Nat)(rt:List NQ)(a:NQ):NQ :=
 aW (ff l rt (a.take (a.length / 2)) (a.take (a.length / 2))) (aM (ff l rt (ff l rt (a.drop (a.length / 2)) (a.drop (a.length / 2))) (rt.getD (a.length.log2-1) [])))
def oM(R:NQ→Int)(N:NQ→NQ)(rt:List NQ)(a:NQ):Int :=
 if a.length=0 then 0 else if a.length=1 then k7 (a.getD 0 0) else
 if R (a.take (a.length / 2))=R (a.drop (a.length / 2))*R (rt.getD (a.length.log2-1) [])∨R (a.drop (a.length / 2))*R (rt.getD (a.length.log2-1) [])=0 then R (a.take (a.length / 2)) else
 if R (a.take (a.length / 2))=0 then R (a.drop (a.length / 2))*R (rt.getD (a.length.log2-1) []) else R (a.take (a.length / 2))*R (N a)
def ni:Nat→List NQ→NQ→Int
 | 0,rt,a=>oM (fun _=>0) (fun a=>a) rt (ar a)
 | l+1,rt,a=>oM (ni l rt) (fv l rt) rt (ar a)
def o8(rt:List NQ):Prop:= ∀j,j<rt.length→0≤bg rt j (cf (rt.getD j []))
theorem uS{l j:Nat}{rt:List NQ}{a:NQ}(hj:j≤l)(ha:a.length=2^(j+1))(hrt:da rt)(hl:l<rt.length):aC l (fv l rt a)∧cf (fv l rt a)=b8 rt j (cf a):=by
 obtain ⟨e1,e2,e3⟩:=bD ha;have hx:aC l (a.take (a.length / 2)):= .inr ⟨j,hj,e1⟩;have hy:aC l (a.drop (a.length / 2)):= .inr ⟨j,hj,e2⟩;have hlog:a.length.log2-1=j:=by rw[ha,Nat.log2_two_pow];omega
 have hdl:(rt.getD j []).length=2^j:=hrt j (by omega);have hd:aC l (rt.getD j []):= .inr ⟨j,hj,hdl⟩;have r1:=jU l hx hx hrt (by omega);have r2:=jU l hy hy hrt (by omega);have r3:=jU l r2.1 hd hrt (by omega);unfold fv;rw[hlog];refine⟨r1.1.plus r3.1.minus,?_⟩;unfold b8;funext i;rw[fV,lR,r1.2,r3.2,r2.2,dw rt (a7 (by omega)) (a7 (by omega)) hj,dw rt (a7 (a:=a.drop (a.length / 2)) (by omega)) (a7 (by omega)) hj,dw rt (bh rt j _ _) (a7 (by omega)) hj,jL _ e3,b5 rt j (fg _ e3) (fg _ e3)];exact Rat.sub_eq_add_neg _ _ |>.symm
theorem lj(rt:List NQ): ∀(l:Nat) (a:Cf),w7 (bg rt l a)
 | 0,a=>gC _
 | l+1,a=>by
   unfold bg;split
   · exact lj rt l _
   split
   · exact lj rt l _
   split
   · exact lj rt l _
   · exact l0 (lj rt l _) (lj rt l _)
theorem f': ∀(l:Nat) {rt:List NQ} {a:NQ},aC l a→da rt→o8 rt→l≤rt.length→ni l rt a=bg rt l (cf a)
 | 0,rt,a,ha,hrt,hp,hl=>by
   have hs:=bf ha;have hc:=bO ha;show oM (fun _=>0) (fun a=>a) rt (ar a)=k7 (cf a 0);rw[← hc];generalize ar a=s at hs;unfold oM;rcases hs with e | ⟨i,hi,e⟩
   · rw[if_pos e,List.length_eq_zero_iff.1 e];show 0=k7 0;rw[Eb]
   · obtain rfl:i=0:=by omega
     have e:s.length=1:=e;rw[if_neg (by omega),if_pos e];rfl
 | l+1,rt,a,ha,hrt,hp,hl=>by
   have hs:=bf ha;have hc:=bO ha;show oM (ni l rt) (fv l rt) rt (ar a)=bg rt (l+1) (cf a);rw[← hc];generalize ar a=s at hs;clear hc ha;unfold oM;by_cases h0:s.length=0
   · rw[if_pos h0,List.length_eq_zero_iff.1 h0];exact(gB rt (l+1)).symm
   rw[if_neg h0];by_cases h1:s.length=1
   · rw[if_pos h1,b6 rt (j:=0) (a7 (by rw[h1];exact ak _)) (Nat.zero_le _)];rfl
   rw[if_neg h1]
   obtain ⟨j,hj,hsl⟩: ∃j,j≤l∧s.length=2^(j+1):=by
    rcases hs with e | ⟨i,hi,e⟩
    · exact absurd e h0
    · rcases i with _ | j
      · exact absurd e h1
      · exact⟨j,by omega,e⟩
   obtain ⟨e1,e2,e3⟩:=bD hsl;have hx:aC l (s.take (s.length / 2)):= .inr ⟨j,hj,e1⟩;have hy:aC l (s.drop (s.length / 2)):= .inr ⟨j,hj,e2⟩;have hlog:s.length.log2-1=j:=by rw[hsl,Nat.log2_two_pow];omega
   have hdl:(rt.getD j []).length=2^j:=hrt j (by omega);have hd:aC l (rt.getD j []):= .inr ⟨j,hj,hdl⟩;have hn:=uS hj hsl hrt (by omega)
   have lowN:db j (b8 rt j (cf s)):=fun i hi=>by
    unfold b8;rw[bh rt j _ _ i hi,bh rt j _ _ i hi];exact Rat.sub_self
   have lh:db j (cy j (cf s)):=fun i hi=>(a7 (l:=j+1) (by omega)) _ (by rw[Nat.pow_succ];omega);have hpj:=hp j (by omega)
   rw[hlog,f' l hd hrt hp (by omega),f' l hx hrt hp (by omega),f' l hy hrt hp (by omega),f' l hn.1 hrt hp (by omega),hn.2,jL _ e3,
    b6 rt (a7 (a:=rt.getD j []) (by omega)) hj,b6 rt (a7 (a:=s.take (s.length / 2)) (by omega)) hj,b6 rt lowN hj,l8 rt j (fg _ e3),b6 rt lh hj,b6 rt (a:=cf s) (j:=j+1) (l:=l+1) (a7 (by omega)) (by omega)]
   show _=if bg rt j (cf (rt.getD j []))=0 then bg rt j (cf s) else if bg rt j (cf s)=bg rt j (cy j (cf s))∨bg rt j (cy j (cf s))=0 then bg rt j (cf s) else
    if bg rt j (cf s)=0 then bg rt j (cy j (cf s)) else bg rt j (cf s)*bg rt j (b8 rt j (cf s))
   have ht:=lj rt j (cf (rt.getD j []));generalize bg rt j (cf (rt.getD j []))=D at hpj ht;unfold w7 at ht;rcases ht with rfl | rfl | rfl
   · rw[if_pos rfl,Int.mul_zero,if_pos (.inr rfl)]
   · rw[Int.mul_one,if_neg (show ¬(1:Int)=0 by decide)]
   · omega
end Lift
namespace Lift
open Go Go.Proofs
structure j5 (m:Nat) (v:List NQ):Prop where
 l5:v.length≤5
 ro:da v
 sz:fq m v
 ps: ∀k,k<v.length→ ¬ed k (v.take k) (v.getD k [])<0
 m2:m≤1000000
 t: ∃m0,1≤m0∧m0≤m∧fq m0 v∧od v.length m0
theorem j5.m1{m:Nat}{v:List NQ}(V:j5 m v):1≤m:=by
 obtain ⟨m0,h1,h2,_⟩:=V.t;omega
theorem j5.of{m:Nat}{rt:List (List RD)}(T:Hr m rt)(h:du rt=0):j5 m (rt.map bb):=by
 have W:=Hv T h;exact⟨by rw[W.ln];exact W.l5,W.ro,W.sz,W.ps,T.m2,by rw[W.ln];exact W.t⟩
def dQ(a:NQ):List RD:=a.map Qr
theorem zJ(a:NQ):bb (dQ a)=a:=by
 unfold bb dQ;rw[List.map_map];have:(RD.val ∘ Qr)=id:=funext cG;rw[this,List.map_id]
theorem pg(a:NQ):dC (dQ a)=ah a:=by
 show D.sl 3 ((a.map Qr).map RD.D)=D.sl 3 (List.map _ a);rw[List.map_map];rfl
theorem gV(a:NQ):(dQ a).length=a.length:=ae ..
theorem pf{a:NQ}{k:Nat}(h:ay k a):wN k (dQ a):=fun i hi=>by
 rw[gV] at hi;unfold dQ;rw[aE,List.getElem?_map,a8 hi];have:=h i;rw[aE,a8 hi] at this;exact jB _ this
theorem nk{a:NQ}{l:Nat}(h:aC l a):bL l (dQ a)=0:=by
 unfold bL;rw[gV]
 have h1: ¬(a.length≠0∧BC l a.length=false):=fun hs=>by
  rcases h with e | ⟨i,hi,e⟩
  · exact hs.1 e
  · rw[e,yA,aN hi] at hs;exact Bool.noConfusion hs.2
 have h2:kH (dQ a)=true:=by
  unfold kH dQ;rw[List.all_map,List.all_eq_true];exact fun q _=>AJ q
 rw[if_neg h1,if_neg (by rw[h2];simp)]
def mR(v:List NQ):List (List RD):=v.map dQ
theorem ga(v:List NQ):(mR v).length=v.length:=ae ..
theorem qd(v:List NQ)(i:Nat):(mR v).getD i []=dQ (v.getD i []):=by
 unfold mR;rw[aE,List.getElem?_map,aE];cases v[i]? with
 | none=>rfl
 | some x=>rfl
theorem Ek(v:List NQ):(mR v).map bb=v:=by
 unfold mR;rw[List.map_map];have:(bb ∘ dQ)=id:=funext zJ;rw[this,List.map_id]
theorem rI(v:List NQ):TrD (mR v)=bt v:=by
 show D.ag [.sl 1 ((v.map dQ).map dC)]=D.ag [.sl 1 (v.map ah)];rw[List.map_map];have:(dC ∘ dQ)=ah:=funext pg;rw[this]
theorem kU{f:Nat→Nat}: ∀{n i:Nat},(∀j,j<i+n→f j=0)→fE f n i=0
 | 0,i,h=>rfl
 | n+1,i,h=>by
   rw[fE,if_pos (h i (by omega))];exact kU (fun j hj=>h j (by omega))
theorem j5.raw{m:Nat}{v:List NQ}(V:j5 m v):Hr m (mR v)∧du (mR v)=0:=by
 have l5:=V.l5;have hp: ∀i,i<v.length→2^i≤2^5:=fun i hi=>Nat.pow_le_pow_right (by decide) (by omega);obtain ⟨m0,t1,t2,ts,tk⟩:=V.t
 refine⟨⟨⟨m0,t1,t2,fun i hi _=>by rw[qd];exact pf (ts i),fun _=>by rw[ga];exact tk⟩,V.m2,by rw[ga];omega,fun i hi=>by
  rw[ga] at hi;rw[qd,gV,V.ro i hi];have:=hp i hi
  omega⟩,?_⟩
 unfold du;rw[ga,if_neg (by omega)];refine kU fun j hj=>?_;have hj:j<v.length:=by omega
 unfold wD;rw[qd,gV,if_neg (fun h=>h (V.ro j hj)),if_neg (fun h=>h (nk (.inr ⟨j,ak _,V.ro j hj⟩))),zJ,List.map_take,Ek,if_neg (V.ps j hj)]
theorem GD{m:Nat}{v:List NQ}{a:NQ}(V:j5 m v)(ha:aC v.length a)(sa:ay m a):DE m (mR v) (dQ a):=⟨fun _=>pf sa,by
 have l5:=V.l5;rw[gV]
 exact Nat.le_trans (ha.len (by omega)) (by decide)⟩
theorem Kp{m:Nat}{v:List NQ}{a:NQ}(V:j5 m v)(ha:aC v.length a):rb (mR v) [dQ a]=0:=by
 unfold rb;rw[if_neg (by rw[V.raw.2];simp)];refine kU fun j hj=>?_;have hj:j<0+1:=hj;obtain rfl:j=0:=by omega
 rw[ga];exact nk ha
theorem ck2{m:Nat}{v:List NQ}{a b:NQ}(V:j5 m v)(ha:aC v.length a)(hb:aC v.length b):rb (mR v) [dQ a,dQ b]=0:=by
 unfold rb;rw[if_neg (by rw[V.raw.2];simp)];refine kU fun j hj=>?_;have hj:j<0+2:=hj;rw[ga]
 match j,hj with
 | 0,_=>exact nk ha
 | 1,_=>exact nk hb
def ju(a:NQ):NQ:=ar (aM a)
def tV(a b:NQ):NQ:=ar (aW a b)
def oD(a b:NQ):NQ:=ar (aW a (aM b))
def dK(v:List NQ)(a b:NQ):NQ:=ar (bd v.length v a b)
theorem ug{l k:Nat}{a:NQ}(ha:aC l a)(sa:ay k a):aC l (ju a)∧ay k (ju a):=a5 ha.minus sa.minus
theorem Hp{l k j:Nat}{a b:NQ}(ha:aC l a)(sa:ay k a)(hb:aC l b)(sb:ay j b):aC l (tV a b)∧ay (k+j+1) (tV a b):=a5 (ha.plus hb) (sa.plus sb)
theorem Gg{l k j:Nat}{a b:NQ}(ha:aC l a)(sa:ay k a)(hb:aC l b)(sb:ay j b):aC l (oD a b)∧ay (k+j+1) (oD a b):=a5 (ha.plus hb.minus) (sa.plus sb.minus)
theorem j5.pos{m:Nat}{v:List NQ}(V:j5 m v):o8 v:=fun j hj=>by
 have h:=V.ps j hj
 have e: ∀i,i<j→(v.take j).getD i []=v.getD i []:=fun i hi=>by
  rw[aE,List.getElem?_take_of_lt hi,aE]
 have ro:da (v.take j):=fun i hi=>by
  rw[aT] at hi;rw[e i (by omega)];exact V.ro i (by omega)
 have lt:aC j (v.getD j []):= .inr ⟨j,ak _,V.ro j hj⟩;rw[eI j lt ro (by rw[aT];omega)] at h
 have key: ∀(l:Nat) (a:Cf),l≤j→bg (v.take j) l a=bg v l a∧ ∀b:Cf,mulC (v.take j) l a b=mulC v l a b:=by
  intro l
  induction l with
  | zero=>exact fun a _=>⟨rfl,fun b=>rfl⟩
  | succ l ih =>
    intro a hl;have hm: ∀x y:Cf,mulC (v.take j) l x y=mulC v l x y:=fun x y=>(ih x (by omega)).2 y;have hs: ∀x:Cf,bg (v.take j) l x=bg v l x:=fun x=>(ih x (by omega)).1;refine⟨?_,fun b=>?_⟩
    · unfold bg b8;simp only[hm,hs,e l (by omega)]
    · funext i;show (if i<2^l then mulC (v.take j) l a b i+mulC (v.take j) l (mulC (v.take j) l (cy l a) (cy l b)) (cf ((v.take j).getD l [])) i else mulC (v.take j) l a (cy l b) (i-2^l)+mulC (v.take j) l (cy l a) b (i-2^l))=_;simp only[hm,e l (by omega)];rfl
 rw[(key j _ (ak _)).1] at h;omega
end Lift
namespace Lift
open Go Go.Proofs
def kS(R:NQ→NQ)(S:NQ→Int)(N:NQ→NQ)(T:NQ→NQ→NQ)(s:NQ):NQ :=
 if s.length=1 then [1 / s.getD 0 0] else
 if S (N s)=0 then R (aW (s.take (s.length / 2)) (s.take (s.length / 2))) else
 T (dL (s.take (s.length / 2)) (aM (s.drop (s.length / 2))) (s.length / 2)) (R (N s))
def gZ:Nat→List NQ→NQ→NQ
 | 0,rt,a=>kS (fun _=>[]) (fun _=>0) (fun a=>a) (fun _ _=>[]) (ar a)
 | l+1,rt,a=>kS (gZ l rt) (ed l rt) (eW l rt) (bd (l+1) rt) (ar a)
def Jq(O:NQ→Prop)(R:NQ→NQ)(S:NQ→Int)(Sk:NQ→Prop)(N:NQ→NQ)(Nk:NQ→Prop)(Tk:NQ→NQ→Prop)(s:NQ):Prop:=s.length≠0∧(s.length≠1 →
 Nk s∧Sk (N s)∧(S (N s)=0→O (aW (s.take (s.length / 2)) (s.take (s.length / 2)))) ∧
 (S (N s)≠0→O (N s)∧Tk (dL (s.take (s.length / 2)) (aM (s.drop (s.length / 2))) (s.length / 2)) (R (N s))))
def Jr:Nat→List NQ→NQ→Prop
 | 0,rt,a=>mH a∧(ar a).length≠0
 | l+1,rt,a=>mH a∧Jq (Jr l rt) (gZ l rt) (ed l rt) (EC l rt) (eW l rt) (Ih l rt) (Df (l+1) rt) (ar a)
theorem n6{l:Nat}{a:NQ}(ha:aC l a)(h:(ar a).length=1):(ar a).getD 0 0≠0:=(jc ha).one h
theorem CF{l:Nat}{R:NQ→NQ}{S:NQ→Int}{N:NQ→NQ}{T:NQ→NQ→NQ}{s:NQ}(hs:aC l s)(h0:s.length≠0)
  (hR: ∀l',l=l'+1→ ∀b,aC l' b→aC l' (R b)) (hN: ∀l',l=l'+1→ ∀j,j≤l'→s.length=2^(j+1)→aC l' (N s)) (hT: ∀b c,aC l b→aC l c→aC l (T b c)):aC l (kS R S N T s):=by
 unfold kS;split
 · exact fh _ _
 rename_i h1
 obtain ⟨i,hi,hla2⟩: ∃i,i≤l∧s.length=2^i:=by
  rcases hs with e | e
  · omega
  · exact e
 have xz:i≠0:=fun e=>h1 (by rw[hla2,e]);obtain ⟨j,rfl⟩: ∃j,i=j+1:=⟨i-1,by omega⟩;obtain ⟨l',rfl⟩: ∃l',l=l'+1:=⟨l-1,by omega⟩;obtain ⟨e1,e2,e3⟩:=bD hla2;have hx:aC l' (s.take (s.length / 2)):= .inr ⟨j,by omega,e1⟩;have hN:=hN l' rfl j (by omega) hla2;split
 · exact(hR l' rfl _ (hx.plus hx)).mono (by omega)
 · exact hT _ _ (.inr ⟨j+1,by omega,by rw[et,e3,Nat.pow_succ];omega⟩) ((hR l' rfl _ hN).mono (by omega))
theorem fX: ∀(l:Nat) {rt:List NQ} {a:NQ},aC l a→da rt→l≤rt.length→aC l (gZ l rt a)
 | 0,rt,a,ha,hrt,hl=>by
   have hs:=bf ha;show aC 0 (kS _ _ _ _ _);by_cases h0:(ar a).length=0
   · rw[List.length_eq_zero_iff.1 h0];exact bm _
   · exact CF hs h0 (fun l' h=>by omega) (fun l' h=>by omega) (fun _ _ _ _=>bm _)
 | l+1,rt,a,ha,hrt,hl=>by
   have hs:=bf ha;show aC (l+1) (kS _ _ _ _ _);by_cases h0:(ar a).length=0
   · rw[List.length_eq_zero_iff.1 h0];unfold kS;rw[if_neg (by decide)];split
     · exact(fX l (bm _) hrt (by omega)).mono (by omega)
     · exact fp (l+1) (bm _) ((fX l (by
        obtain ⟨K,k1,_,k3⟩:=xb (eW l rt []) [] rt;unfold eW
        have t0: ∀c,aC l (bd l rt c []):=fun c=>by
         cases l with
         | zero=>show aC 0 (kp _ c []);unfold kp;rw[if_neg (show ¬c.length<([]:NQ).length from Nat.not_lt_zero _)];unfold jv;rw[if_pos (by show (bF c||true)=true;rw[Bool.or_true])];exact bm _
         | succ l=>show aC (l+1) (kp _ c []);unfold kp;rw[if_neg (show ¬c.length<([]:NQ).length from Nat.not_lt_zero _)];unfold jv;rw[if_pos (by show (bF c||true)=true;rw[Bool.or_true])];exact bm _
        have e:rt.getD (Nat.log2 ([]:NQ).length-1) []=rt.getD 0 []:=rfl;have hd:aC l (rt.getD 0 []):= .inr ⟨0,Nat.zero_le _,hrt 0 (by omega)⟩
        exact(t0 []).plus (fp l (t0 []) hd hrt (by omega)).minus) hrt (by omega)).mono (by omega)) hrt hl
   · exact CF hs h0 (fun l' e b hb=>by
      obtain rfl:l=l':=by omega
      exact fX l hb hrt (by omega)) (fun l' e j h1 h2=>by
      obtain rfl:l=l':=by omega
      exact uf h1 h2 hrt (by omega)) (fun b c hb hc=>fp (l+1) hb hc hrt hl)
set_option maxHeartbeats 1600000 in
theorem Am{l:Nat}{O:NQ→Prop}{R:NQ→NQ}{S:NQ→Int}{Sk:NQ→Prop}{N:NQ→NQ}{Nk:NQ→Prop}{T:NQ→NQ→NQ}{Tk:NQ→NQ→Prop}{rt:List NQ}{a:NQ}(ha:aC l a)(hl5:l≤5)(hl:l≤rt.length)(hl10:rt.length≤10)(sa:mH a)(h0:(ar a).length≠0)
  (hok:l≠0→Jq O R S Sk N Nk Tk (ar a))
  (hR: ∀l',l=l'+1→ ∀b,aC l' b→O b→Pure Tryz.prog 131 [bt rt,ah b] (ah (R b)))
  (hRl: ∀l',l=l'+1→ ∀b,aC l' b→aC l' (R b))
  (hS: ∀l',l=l'+1→ ∀b,aC l' b→Sk b→Pure Tryz.prog 64 [bt rt,ah b] (dI (S b)))
  (hN: ∀l',l=l'+1→ ∀b j,j≤l'→b.length=2^(j+1)→Nk b→Pure Tryz.prog 109 [bt rt,ah b] (ah (N b))∧aC l' (N b))
  (hT: ∀b c,aC l b→aC l c→Tk b c→Pure Tryz.prog 63 [bt rt,ah b,ah c] (ah (T b c))):
  Pure Tryz.prog 131 [bt rt,ah a] (ah (kS R S N T (ar a))):=by
 refine qJ 57 Tryz.func131 rfl rfl rfl rfl (by kernel_rfl) (fun B F0 w0=>?_);have cs:=cM a ha hl5 sa (by omega);have hone:=n6 ha;obtain ⟨ha,sa⟩:=a5 ha sa;generalize ar a=b at cs ha sa hok hone h0 ⊢;have hlb:=ha.len (by omega);unfold kS;refine qX 2 rfl ?_;refine qK 1 rfl ?_;refine ab.call tok rfl rfl rfl rfl cs ?_;refine qU 1 rfl ?_;refine qI (qX 2 rfl ?_);rw[ae];refine qU 1 rfl ?_;refine ab.nil ?_;by_cases h1:b.length=1
 · have g:=mu (r:=b) (i:=0) (by omega);have cq:=tQ (Qr 1) (Qr (b.getD 0 0)) (jB 1 (by have:=jD;omega)) (jB _ (sa 0)) (by omega) (by rw[cG];exact hone h1);rw[cG,cG] at cq;rw[if_pos h1,beq_iff_eq.2 (show (b.length:Int)=1 by omega)];refine AW.aL rfl ?_;refine AW.seq (AW.mO tok aQ [(7,true),(1,false),(1,true)] 9 [5] (by kernel_rfl) ⟨rfl,?_⟩);refine af.call tok rfl rfl rfl rfl rfl (ic 1 (by decide) (by decide)) ?_;refine qP 1 rfl ?_;refine af.idx tok (Qr (b.getD 0 0)).D rfl rfl rfl rfl rfl (Int.le_refl _) g ?_;refine qP 1 rfl ?_;refine af.call tok rfl rfl rfl rfl rfl cq ?_;refine qP 2 rfl ?_;refine af.nil ⟨rfl,?_⟩;refine qP 1 rfl ?_;refine af.nil ⟨rfl,?_⟩;refine qP 1 rfl ?_;refine af.nil ⟨_,oB.cons (.bx rfl) (oB.nil),?_⟩;refine qU 1 rfl ?_;refine qK 1 rfl ?_;refine ab.fj tok rfl rfl rfl rfl rfl ?_;refine qU 1 rfl ?_;exact qN rfl
 rw[if_neg h1,beq_eq_false_iff_ne.2 (show (b.length:Int)≠1 by omega)];refine AW.aA rfl ?_;refine AW.skip ?_
 obtain ⟨i,hi,hla2⟩: ∃i,i≤l∧b.length=2^i:=by
  rcases ha with e | e
  · omega
  · exact e
 have xz:i≠0:=fun e=>h1 (by rw[hla2,e]);obtain ⟨j,rfl⟩: ∃j,i=j+1:=⟨i-1,by omega⟩;obtain ⟨l',rfl⟩: ∃l',l=l'+1:=⟨l-1,by omega⟩;have hj:j≤l':=by omega
 obtain ⟨_,o1⟩:=hok (by omega);obtain ⟨oN,oS,oz,oi⟩:=o1 h1;have hN:=hN l' rfl b j hj hla2 oN;have hS:=hS l' rfl _ hN.2 oS;obtain ⟨e1,e2,e3⟩:=bD hla2;obtain ⟨n,hn⟩: ∃n,n=b.length / 2:=⟨_,rfl⟩;rw[← hn] at e1 e2 e3 oz oi ⊢
 have hn2:b.length=n+n:=by
  have:2^(j+1)=2^j*2:=Nat.pow_succ ..;omega
 have hx:aC l' (b.take n):= .inr ⟨j,hj,e1⟩;have hy:aC l' (b.drop n):= .inr ⟨j,hj,e2⟩;refine qX 2 rfl ?_;rw[ae];refine ab.div tok rfl rfl rfl rfl (by decide) ?_;rw[gM _ (by omega),← hn];refine qU 1 rfl ?_;refine qK 2 rfl ?_;refine ab.call tok rfl rfl rfl rfl hN.1 ?_;refine qU 1 rfl ?_;refine qI (qX 2 rfl ?_);refine ab.call tok rfl rfl rfl rfl hS ?_;refine qU 1 rfl ?_;refine ab.nil ?_;by_cases hz:S (N b)=0
 · have ci:=hR l' rfl _ (hx.plus hx) (oz hz);have cp:=dO (b.take n) (b.take n) (sa.take n) (sa.take n) (by omega) (by rw[e1];omega) (by rw[e1];omega);rw[if_pos hz,beq_iff_eq.2 hz];refine AW.aL rfl ?_;refine AW.seq (AW.draw aQ 9 (by kernel_rfl) ?_);refine qP 3 rfl ?_;refine af.fZ tok (a:=b) (b.take n) rfl rfl rfl rfl rfl trivial (aj n) (Nat.zero_le _) (show n≤b.length by omega) rfl ?_;refine qP 2 rfl ?_;refine af.fZ tok (a:=b) (b.take n) rfl rfl rfl rfl rfl trivial (aj n) (Nat.zero_le _) (show n≤b.length by omega) rfl ?_;refine af.call tok rfl rfl rfl rfl rfl cp ?_;refine af.call tok rfl rfl rfl rfl rfl ci ?_;refine af.nil ?_;refine qU 1 rfl ?_;exact qN rfl
 obtain ⟨o2,o3⟩:=oi hz;have ci:=hR l' rfl _ hN.2 o2;have cm:=fo (b.drop n) (sa.drop n) (by omega) (by rw[e2];omega);have cj:=kR (b.take n) (aM (b.drop n)) n (by omega);have ct:=hT _ _ (.inr ⟨j+1,by omega,by rw[et,e3,Nat.pow_succ];omega⟩) ((hRl l' rfl _ hN.2).mono (by omega)) o3;rw[if_neg hz,beq_eq_false_iff_ne.2 hz];refine AW.aA rfl ?_;refine AW.skip (AW.seq ?_);refine AW.draw aQ 14 (by kernel_rfl) ?_;refine qP 3 rfl ?_;refine af.fZ tok (a:=b) (b.take n) rfl rfl rfl rfl rfl trivial (aj n) (Nat.zero_le _) (show n≤b.length by omega) rfl ?_;refine qP 2 rfl ?_;refine af.fZ tok (a:=b) (b.drop n) rfl rfl rfl rfl rfl (aj n) trivial (show n≤b.length by omega) (ak _) (by show (b.take b.length).drop n=_;rw[List.take_length]) ?_;refine af.call tok rfl rfl rfl rfl rfl cm ?_;refine qP 1 rfl ?_;refine af.call tok rfl rfl rfl rfl rfl cj ?_;refine qP 2 rfl ?_;refine af.call tok rfl rfl rfl rfl rfl ci ?_;refine af.call tok rfl rfl rfl rfl rfl ct ?_;refine af.nil ?_;refine qU 1 rfl ?_;exact qN rfl
theorem ky: ∀(l:Nat) {rt:List NQ} {a:NQ},aC l a→l≤5→da rt→l≤rt.length→rt.length≤10→Jr l rt a→Pure Tryz.prog 131 [bt rt,ah a] (ah (gZ l rt a))
 | 0,rt,a,ha,hl5,hrt,hl,hl10,hok=>Am (O:=fun _=>True) (Sk:=fun _=>True) (Nk:=fun _=>True) (Tk:=fun _ _=>False) ha hl5 hl hl10 hok.1 hok.2 (fun h=>absurd rfl h) (fun l' h=>by omega) (fun l' h=>by omega) (fun l' h=>by omega) (fun l' h=>by omega) (fun _ _ _ _ h=>h.elim)
 | l+1,rt,a,ha,hl5,hrt,hl,hl10,hok=>Am (O:=Jr l rt) (Sk:=EC l rt) (Nk:=Ih l rt) (Tk:=Df (l+1) rt) ha hl5 hl hl10 hok.1 hok.2.1 (fun _=>hok.2) (fun l' e b h1 h2=>by
    obtain rfl:l=l':=by omega
    exact ky l h1 (by omega) hrt (by omega) hl10 h2) (fun l' e b h1=>by
    obtain rfl:l=l':=by omega
    exact fX l h1 hrt (by omega)) (fun l' e b h1 h2=>by
    obtain rfl:l=l':=by omega
    exact dZ l h1 (by omega) hrt (by omega) hl10 h2) (fun l' e b j h1 h2 h3=>by
    obtain rfl:l=l':=by omega
    exact⟨mX h1 h2 hrt (by omega) hl10 h3,uf h1 h2 hrt (by omega)⟩) (fun b c h1 h2 h3=>cW (l+1) h1 h2 hrt hl hl10 h3)
end Lift
namespace Lift
open Go Go.Proofs
def k8(v:List NQ):Prop:= ∃m,j5 m v
theorem j5.a{m:Nat}{v:List NQ}(V:j5 m v):k8 v:=⟨m,V⟩
theorem k8.l5{v:List NQ}(V:k8 v):v.length≤5:=V.elim fun _ V=>V.l5
theorem k8.ro{v:List NQ}(V:k8 v):da v:=V.elim fun _ V=>V.ro
def mT(v:List NQ)(a b:NQ):NQ:=ar (bd v.length v a (gZ v.length v b))
def fi(v:List NQ)(a:NQ):Int:=ed v.length v a
def vn(v:List NQ)(a b:NQ):Prop:=mH a∧mH b∧Df v.length v a b∧mH (bd v.length v a b)
def z0(a b:NQ):Prop:=mH a∧mH b∧mH (aW a b)
def Ey(a b:NQ):Prop:=mH a∧mH b∧mH (aW a (aM b))
def ED(v:List NQ)(a b:NQ):Prop:=mH a∧mH b∧EC v.length v b∧fi v b≠0∧Jr v.length v b∧Df v.length v a (gZ v.length v b)∧mH (bd v.length v a (gZ v.length v b))
def vm(v:List NQ)(a:NQ):Prop:=EC v.length v a
theorem vm.sz{v:List NQ}{a:NQ}(h:vm v a):mH a:=EC.sz h
theorem CT{v:List NQ}(V:k8 v)(l:List NQ)(hl:l.length≤1000000)(h: ∀i,i<l.length→aC v.length (l.getD i [])∧mH (l.getD i [])):Pure Tryz.prog 61 [bt v,.sl 1 (l.map ah)] aP:=by
 obtain ⟨m,V⟩:=V;obtain ⟨m0,t1,t2,tw,tk⟩:=V.raw.1.t;have l5:=V.l5
 have g: ∀i,(l.map dQ).getD i []=dQ (l.getD i []):=fun i=>by
  rw[aE,List.getElem?_map,aE];cases l[i]? with
  | none=>rfl
  | some x=>rfl
 have c:=mG (mR v) (l.map dQ) (mn:=17300000000000) tw t1 V.raw.1.l V.raw.1.ll tk (fun i hi=>by
  rw[ae] at hi;rw[g];exact fun _=>pf (h i hi).2) (by rw[ae];exact hl) (fun i hi=>by
  rw[ae] at hi
  rw[g,gV];exact Nat.le_trans ((h i hi).1.len (by omega)) (by decide)) (by omega)
 have e:rb (mR v) (l.map dQ)=0:=by
  unfold rb;rw[if_neg (by rw[V.raw.2];simp)];refine kU fun j hj=>?_;rw[ae] at hj;rw[ga,g];exact nk (h j (by omega)).1
 rw[e,rI,List.map_map,show (dC ∘ dQ)=ah from funext pg] at c;exact c
theorem AB{v:List NQ}{a:NQ}(V:k8 v)(ha:aC v.length a)(sa:mH a):Pure Tryz.prog 61 [bt v,.sl 1 [ah a]] aP :=
 CT V [a] (show 1≤1000000 by decide) (fun i hi=>by
  have:i<1:=hi;obtain rfl:i=0:=by omega
  exact⟨ha,sa⟩)
theorem nO{v:List NQ}{a b:NQ}(V:k8 v)(ha:aC v.length a)(sa:mH a)(hb:aC v.length b)(sb:mH b):Pure Tryz.prog 61 [bt v,.sl 1 [ah a,ah b]] aP :=
 CT V [a,b] (show 2≤1000000 by decide) (fun i hi=>by
  have:i<2:=hi
  match i,this with
  | 0,_=>exact⟨ha,sa⟩
  | 1,_=>exact⟨hb,sb⟩)
theorem uI{v:List NQ}{a:NQ}(V:k8 v)(ha:aC v.length a)(sa:mH a):Pure Tryz.prog 91 [bt v,ah a] (.tu [ah (ju a),aP]):=by
 refine qJ 17 Tryz.func91 rfl rfl rfl rfl (by kernel_rfl) (fun B0 F0 w0=>?_);have hl5:=V.l5;have hro:=V.ro;have cc:=AB V ha sa;have c1:=fo a sa (by omega) (Nat.le_trans (ha.len (by omega)) (by decide));have c2:=cM (aM a) ha.minus hl5 sa.minus (by omega);refine qX 3 rfl ?_;refine qI (qX 2 rfl ?_);refine ab.fj tok rfl rfl rfl rfl rfl ?_;refine ab.call tok rfl rfl rfl rfl cc ?_;refine qU 1 rfl ?_;refine qK 1 rfl ?_;refine ab.err tok rfl rfl rfl rfl rfl ?_;refine ab.nil ?_;refine AW.aA rfl ?_
 · refine AW.skip (qX 1 rfl ?_);refine ab.call tok rfl rfl rfl rfl c1 ?_;refine ab.call tok rfl rfl rfl rfl c2 ?_;refine qU 2 rfl ?_;exact qN rfl
theorem A4{v:List NQ}{a:NQ}{b:NQ}(V:k8 v)(ha:aC v.length a)(hb:aC v.length b)(ok:z0 a b):Pure Tryz.prog 101 [bt v,ah a,ah b] (.tu [ah (tV a b),aP]):=by
 refine qJ 21 Tryz.func101 rfl rfl rfl rfl (by kernel_rfl) (fun B0 F0 w0=>?_);have hl5:=V.l5;have hro:=V.ro;obtain ⟨sa,sb,sc⟩:=ok;have cc:=nO V ha sa hb sb;have c1:=dO a b sa sb (by omega) (Nat.le_trans (ha.len (by omega)) (by decide)) (Nat.le_trans (hb.len (by omega)) (by decide));have c2:=cM (aW a b) (ha.plus hb) hl5 sc (by omega);refine qX 3 rfl ?_;refine qI (qX 3 rfl ?_);refine ab.fj tok rfl rfl rfl rfl rfl ?_;refine ab.call tok rfl rfl rfl rfl cc ?_;refine qU 1 rfl ?_;refine qK 1 rfl ?_;refine ab.err tok rfl rfl rfl rfl rfl ?_;refine ab.nil ?_;refine AW.aA rfl ?_
 · refine AW.skip (qX 2 rfl ?_);refine ab.call tok rfl rfl rfl rfl c1 ?_;refine ab.call tok rfl rfl rfl rfl c2 ?_;refine qU 2 rfl ?_;exact qN rfl
theorem AY{v:List NQ}{a:NQ}{b:NQ}(V:k8 v)(ha:aC v.length a)(hb:aC v.length b)(ok:Ey a b):Pure Tryz.prog 132 [bt v,ah a,ah b] (.tu [ah (oD a b),aP]):=by
 refine qJ 22 Tryz.func132 rfl rfl rfl rfl (by kernel_rfl) (fun B0 F0 w0=>?_);have hl5:=V.l5;have hro:=V.ro;obtain ⟨sa,sb,sc⟩:=ok;have cc:=nO V ha sa hb sb;have c0:=fo b sb (by omega) (Nat.le_trans (hb.len (by omega)) (by decide));have c1:=dO a (aM b) sa sb.minus (by omega) (Nat.le_trans (ha.len (by omega)) (by decide)) (Nat.le_trans (hb.minus.len (by omega)) (by decide));have c2:=cM (aW a (aM b)) (ha.plus hb.minus) hl5 sc (by omega);refine qX 3 rfl ?_;refine qI (qX 3 rfl ?_);refine ab.fj tok rfl rfl rfl rfl rfl ?_;refine ab.call tok rfl rfl rfl rfl cc ?_;refine qU 1 rfl ?_;refine qK 1 rfl ?_;refine ab.err tok rfl rfl rfl rfl rfl ?_;refine ab.nil ?_;refine AW.aA rfl ?_
 · refine AW.skip (qX 2 rfl ?_);refine ab.call tok rfl rfl rfl rfl c0 ?_;refine ab.call tok rfl rfl rfl rfl c1 ?_;refine ab.call tok rfl rfl rfl rfl c2 ?_;refine qU 2 rfl ?_;exact qN rfl
theorem pa{v:List NQ}{a:NQ}{b:NQ}(V:k8 v)(ha:aC v.length a)(hb:aC v.length b)(ok:vn v a b):Pure Tryz.prog 28 [bt v,ah a,ah b] (.tu [ah (dK v a b),aP]):=by
 refine qJ 22 Tryz.func28 rfl rfl rfl rfl (by kernel_rfl) (fun B0 F0 w0=>?_);have hl5:=V.l5;have hro:=V.ro;obtain ⟨sa,sb,st,sc⟩:=ok;have cc:=nO V ha sa hb sb;have c1:=cW v.length ha hb hro (ak _) (by omega) st;have c2:=cM _ (fp v.length ha hb hro (ak _)) hl5 sc (by omega);refine qX 3 rfl ?_;refine qI (qX 3 rfl ?_);refine ab.fj tok rfl rfl rfl rfl rfl ?_;refine ab.call tok rfl rfl rfl rfl cc ?_;refine qU 1 rfl ?_;refine qK 1 rfl ?_;refine ab.err tok rfl rfl rfl rfl rfl ?_;refine ab.nil ?_;refine AW.aA rfl ?_
 · refine AW.skip (qX 3 rfl ?_);refine ab.call tok rfl rfl rfl rfl c1 ?_;refine ab.call tok rfl rfl rfl rfl c2 ?_;refine qU 2 rfl ?_;exact qN rfl
theorem A0{v:List NQ}{a:NQ}{b:NQ}(V:k8 v)(ha:aC v.length a)(hb:aC v.length b)(ok:ED v a b):Pure Tryz.prog 89 [bt v,ah a,ah b] (.tu [ah (mT v a b),aP]):=by
 refine qJ 29 Tryz.func89 rfl rfl rfl rfl (by kernel_rfl) (fun B0 F0 w0=>?_);have hl5:=V.l5;have hro:=V.ro;obtain ⟨sa,sb,sg,s0,si,st,sc⟩:=ok;have cc:=nO V ha sa hb sb;have hi:=fX v.length hb hro (ak _);have c0:=dZ v.length hb hl5 hro (ak _) (by omega) sg;have c1:=ky v.length hb hl5 hro (ak _) (by omega) si;have c2:=cW v.length ha hi hro (ak _) (by omega) st;have c3:=cM _ (fp v.length ha hi hro (ak _)) hl5 sc (by omega);change ed v.length v b≠0 at s0;unfold mT;generalize ed v.length v b=z at c0 s0;refine qX 3 rfl ?_;refine qI (qX 3 rfl ?_);refine ab.fj tok rfl rfl rfl rfl rfl ?_;refine ab.call tok rfl rfl rfl rfl cc ?_;refine qU 1 rfl ?_;refine qK 1 rfl ?_;refine ab.err tok rfl rfl rfl rfl rfl ?_;refine ab.nil ?_;refine AW.aA rfl ?_
 · refine AW.skip (AW.seq ?_);refine qX 2 rfl ?_;refine ab.call tok rfl rfl rfl rfl c0 ?_;refine qU 1 rfl ?_;refine ab.nil ?_;rw[beq_eq_false_iff_ne.2 s0];refine AW.aA rfl ?_
   · refine AW.skip (AW.seq ?_);refine AW.draw aQ 7 (by kernel_rfl) ?_;refine qP 4 rfl ?_;refine af.call tok rfl rfl rfl rfl rfl c1 ?_;refine af.call tok rfl rfl rfl rfl rfl c2 ?_;refine af.call tok rfl rfl rfl rfl rfl c3 ?_;refine af.nil ?_;refine qU 2 rfl ?_;exact qN rfl
theorem sI{v:List NQ}{a:NQ}(V:k8 v)(ha:aC v.length a)(ok:vm v a):Pure Tryz.prog 29 [bt v,ah a] (.tu [dI (fi v a),aP]):=by
 refine qJ 17 Tryz.func29 rfl rfl rfl rfl (by kernel_rfl) (fun B0 F0 w0=>?_);have hl5:=V.l5;have hro:=V.ro;have cc:=AB V ha ok.sz;have c1:=dZ v.length ha hl5 hro (ak _) (by omega) ok;refine qX 3 rfl ?_;refine qI (qX 2 rfl ?_);refine ab.fj tok rfl rfl rfl rfl rfl ?_;refine ab.call tok rfl rfl rfl rfl cc ?_;refine qU 1 rfl ?_;refine qK 1 rfl ?_;refine ab.err tok rfl rfl rfl rfl rfl ?_;refine ab.nil ?_;refine AW.aA rfl ?_
 · refine AW.skip (qX 2 rfl ?_);refine ab.call tok rfl rfl rfl rfl c1 ?_;refine qU 2 rfl ?_;exact qN rfl
end Lift
namespace Lift
theorem Bd(x:Rat)(h:0<x):k7 x=1:=by
 have:=qb.2 h;rcases gC x with e | e | e<;>omega
theorem H'(x:Rat)(h:x<0):k7 x= -1:=by
 have:=xX.2 h;rcases gC x with e | e | e<;>omega
theorem C8(x y:Rat):k7 (x*y)=k7 x*k7 y:=by
 have key: ∀{x y:Rat},0<x→k7 (x*y)=k7 y:=fun {x y} hx=>by
  rcases gC y with e | e | e
  · rw[jd.1 e,Rat.mul_zero]
  · have h:=Rat.mul_pos hx (qb.1 (show 0<k7 y by omega));rw[e,Bd _ h]
  · have h:=Rat.mul_pos hx (show 0< -y from by have:=xX.1 (show k7 y<0 by omega);grind);rw[e,H']
    grind
 rcases gC x with e | e | e
 · rw[jd.1 e,Rat.zero_mul,jd.2 rfl,Int.zero_mul]
 · rw[e,Int.one_mul];exact key (qb.1 (by omega))
 · have hx:0< -x:=by have:=xX.1 (show k7 x<0 by omega);grind
   have h:=key (y:=y) hx;have h2:=uO (x*y);rw[show -(x*y)= -x*y by grind,h] at h2;rw[e];omega
def qp:Cf:=fun i=>if i=0 then 1 else 0
def Jl:OR where
 T:=Rat
 add:=(· + ·)
 mul:=(· * ·)
 neg:=(- ·)
 z:=0
 o:=1
 ac:=Rat.add_comm
 aa:=Rat.add_assoc
 az:=Rat.add_zero
 an:=Rat.add_neg_cancel
 mc:=Rat.mul_comm
 ma:=Rat.mul_assoc
 mo:=Rat.mul_one
 md:=Rat.mul_add
 sgn:=k7
 s3 x:=by rcases gC x with h | h | h<;>omega
 sn:=uO
 sm:=C8
 sp x y hx hy:=by
  have h1:=qb.1 (show 0<k7 x by omega);have h2:=qb.1 (show 0<k7 y by omega);exact Bd _ (by grind)
 s0 x y hx:=by
  rw[jd.1 hx];show k7 (0+y)=k7 y;rw[Rat.zero_add]
 s1:=Bd 1 (by decide)
theorem El(x:Rat)(h:x≠0):k7 (x*x⁻¹ + -1)=0:=by
 rw[Rat.mul_inv_cancel _ h];exact jd.2 (Rat.add_neg_cancel 1)
theorem Em:Jl.Inv:=fun x hx=>⟨_,El x (fun e=>hx (jd.2 e))⟩
structure I8 (v:List NQ) (l:Nat) where
 R:OR
 of:Cf→R.T
 inv:R.Inv
 add: ∀a b:Cf,of (fun i=>a i+b i)=of a+of b
 neg: ∀a:Cf,of (fun i=> -a i)= -of a
 mul: ∀a b:Cf,of (mulC v l a b)=of a*of b
 one:of qp=1
 zero:of zC=0
 sgn: ∀a:Cf,R.sgn (of a)=bg v l a
 inj: ∀a b:Cf,of a=of b→ku l a b
 cong: ∀a b:Cf,ku l a b→of a=of b
theorem I8.sub{v:List NQ}{l:Nat}(T:I8 v l)(a b:Cf):T.of (fun i=>a i-b i)=T.of a-T.of b:=by
 rw[Rg.sub_def,← T.neg,← T.add]
 congr 1
 funext i;exact Rat.sub_eq_add_neg ..
def J6(v:List NQ):I8 v 0 where
 R:=Jl
 of a:=a 0
 inv:=Em
 add _ _:=rfl
 neg _:=rfl
 mul a b:=by
  show (if (0:Nat)=0 then a 0*b 0 else 0)=_;rw[if_pos rfl];rfl
 one:=rfl
 zero:=rfl
 sgn _:=rfl
 inj a b h i hi:=by
  obtain rfl:i=0:=by have:i<1:=hi;omega
  exact h
 cong a b h:=h 0 (by decide)
theorem E6(l:Nat):cy l zC=zC:=rfl
theorem G7(l:Nat):cy l qp=zC:=funext fun i=>by
 have hp:0<2^l:=Nat.pow_pos (by decide);show (if 2^l+i=0 then (1:Rat) else 0)=0;rw[if_neg (by omega)]
def H0{v:List NQ}{l:Nat}(T:I8 v l)(hd:0≤bg v l (cf (v.getD l []))):I8 v (l+1) where
 R:=T.R.ext (T.of (cf (v.getD l []))) (by rw[T.sgn];exact hd)
 of a:=(T.of a,T.of (cy l a))
 inv:=OR.He T.inv _
 add a b:=Prod.ext (T.add a b) (T.add (cy l a) (cy l b))
 neg a:=Prod.ext (T.neg a) (T.neg (cy l a))
 mul a b:=by
  refine Prod.ext ?_ ?_
  · show T.of (mulC v (l+1) a b)=T.of a*T.of b+T.of (cy l a)*T.of (cy l b)*T.of (cf (v.getD l []));rw[← T.mul,← T.mul,← T.mul,← T.add];refine T.cong _ _ fun i hi=>?_;show (if i<2^l then _ else _)=_;rw[if_pos hi]
  · show T.of (cy l (mulC v (l+1) a b))=T.of a*T.of (cy l b)+T.of (cy l a)*T.of b;rw[← T.mul,← T.mul,← T.add];refine T.cong _ _ fun i hi=>?_;show (if 2^l+i<2^l then _ else _)=_;rw[if_neg (by omega),Nat.add_sub_cancel_left]
 one:=Prod.ext T.one (by show T.of (cy l qp)=0;rw[G7,T.zero])
 zero:=Prod.ext T.zero (by show T.of (cy l zC)=0;rw[E6,T.zero])
 sgn a:=by
  show OR.es T.R (T.of (cf (v.getD l []))) (T.of a,T.of (cy l a))=bg v (l+1) a;unfold OR.es bg;simp only[];rw[T.sgn,T.sgn,T.sgn,← T.mul,← T.mul,← T.mul,← T.sub,T.sgn];rfl
 inj a b h i hi:=by
  have h1:=T.inj _ _ (congrArg Prod.fst h);have h2:=T.inj _ _ (congrArg Prod.snd h);by_cases c:i<2^l
  · exact h1 i c
  · rw[Nat.pow_succ] at hi;have:=h2 (i-2^l) (by omega);have:a (2^l+(i-2^l))=b (2^l+(i-2^l)):=this
    rwa [show 2^l+(i-2^l)=i by omega] at this
 cong a b h:=Prod.ext (T.cong _ _ h.down) (T.cong _ _ h.hi)
theorem I4{v:List NQ}(hp:o8 v): ∀l,l≤v.length→Nonempty (I8 v l)
 | 0,_=>⟨J6 v⟩
 | l+1,hl=>by
   obtain ⟨T⟩:=I4 hp l (by omega);exact⟨H0 T (hp l (by omega))⟩
theorem zX(l:Nat):db l qp:=fun i hi=>by
 have hp:0<2^l:=Nat.pow_pos (by decide);exact if_neg (by omega)
def oE(a b:Cf):Cf:=fun i=>a i-b i
theorem db.sub{l:Nat}{a b:Cf}(ha:db l a)(hb:db l b):db l (oE a b):=fun i hi=>by
 show a i-b i=0;rw[ha i hi,hb i hi];exact Rat.sub_self
theorem Is{v:List NQ}(hrt:da v)(hp:o8 v): ∀(l:Nat) {a:NQ},aC l a→l≤v.length→bg v l (cf a)≠0→bg v l (oE (mulC v l (cf a) (cf (gZ l v a))) qp)=0:=by
 have one: ∀(l:Nat) (s:NQ),l≤v.length→s.length=1→s.getD 0 0≠0→bg v l (oE (mulC v l (cf s) (cf [1 / s.getD 0 0])) qp)=0:=fun l s hl h1 h0=>by
  have e:mulC v l (cf s) (cf [1 / s.getD 0 0])=qp:=by
   rw[dw v (a7 (a:=s) (l:=0) (by rw[h1];exact ak _)) (a7 (a:=[1 / s.getD 0 0]) (l:=0) (by exact ak _)) (Nat.zero_le l)];funext i;show (if i=0 then s.getD 0 0*(1 / s.getD 0 0) else 0)=if i=0 then 1 else 0
   split
   · rw[Rat.div_def,Rat.one_mul,Rat.mul_inv_cancel _ h0]
   · rfl
  rw[e,show oE qp qp=zC from funext fun i=>Rat.sub_self];exact gB v l
 intro l
 induction l with
 | zero =>
   intro a ha hl h;have hs:=bf ha;have hc:=bO ha;have ho:=n6 ha;show bg v 0 (oE (mulC v 0 (cf a) (cf (kS _ _ _ _ (ar a)))) qp)=0;rw[← hc] at h ⊢;generalize ar a=s at *;rcases hs with e | ⟨i,hi,e⟩
   · rw[List.length_eq_zero_iff.1 e] at h;exact absurd (gB v 0) h
   · obtain rfl:i=0:=by omega
     unfold kS;rw[if_pos e];exact one 0 s (Nat.zero_le _) e (ho e)
 | succ l ih =>
   intro a ha hl h;have hs:=bf ha;have hc:=bO ha;have ho:=n6 ha;show bg v (l+1) (oE (mulC v (l+1) (cf a) (cf (kS (gZ l v) (ed l v) (eW l v) (bd (l+1) v) (ar a)))) qp)=0;rw[← hc] at h ⊢;generalize ar a=s at *;by_cases h0:s.length=0
   · rw[List.length_eq_zero_iff.1 h0] at h;exact absurd (gB v (l+1)) h
   unfold kS;by_cases h1:s.length=1
   · rw[if_pos h1];exact one (l+1) s hl h1 (ho h1)
   rw[if_neg h1]
   obtain ⟨j,hj,hsl⟩: ∃j,j≤l∧s.length=2^(j+1):=by
    rcases hs with e | ⟨i,hi,e⟩
    · exact absurd e h0
    · rcases i with _ | j
      · exact absurd e h1
      · exact⟨j,by omega,e⟩
   obtain ⟨e1,e2,e3⟩:=bD hsl;have hx:aC l (s.take (s.length / 2)):= .inr ⟨j,hj,e1⟩;have hy:aC l (s.drop (s.length / 2)):= .inr ⟨j,hj,e2⟩;have hn:=kJ hj hsl hrt (by omega);have ex:ku j (cf (s.take (s.length / 2))) (cf s):=fg _ e3;have ey:cf (s.drop (s.length / 2))=cy j (cf s):=jL _ e3
   have lowN:db j (b8 v j (cf s)):=fun i hi=>by
    unfold b8;rw[bh v j _ _ i hi,bh v j _ _ i hi];exact Rat.sub_self
   have ls:db (j+1) (cf s):=a7 (by omega);have lx:db j (cf (s.take (s.length / 2))):=a7 (by omega);obtain ⟨Tj⟩:=I4 hp j (by omega);have hdj:=hp j (by omega)
   let T:=H0 Tj hdj
   obtain ⟨Tl⟩:=I4 hp l (by omega);obtain ⟨TL⟩:=I4 hp (l+1) hl;rw[eI l hn.1 hrt (by omega),hn.2,b6 v lowN hj];rw[b6 v ls (by omega)] at h
   have hT:Tj.R.sgn (OR.nr (Tj.of (cf (v.getD j []))) (T.of (cf s)))=bg v j (b8 v j (cf s)):=by
    rw[← Tj.sgn]
    congr 1
    show Tj.of (cf s)*Tj.of (cf s) -Tj.of (cy j (cf s))*Tj.of (cy j (cf s))*Tj.of (cf (v.getD j []))=Tj.of (b8 v j (cf s));rw[← Tj.mul,← Tj.mul,← Tj.mul,← Tj.sub];rfl
   by_cases hN:bg v j (b8 v j (cf s))=0
   · rw[if_pos hN];have hxx:aC l (aW (s.take (s.length / 2)) (s.take (s.length / 2))):=hx.plus hx;have cxx:cf (aW (s.take (s.length / 2)) (s.take (s.length / 2)))=fun i=>cf (s.take (s.length / 2)) i+cf (s.take (s.length / 2)) i:=funext fun i=>fV _ _ i
     have lxx:db j (cf (aW (s.take (s.length / 2)) (s.take (s.length / 2)))):=by
      rw[cxx];exact fun i hi=>by
       show _+_=(0:Rat);rw[lx i hi];exact Rat.add_zero 0
     have F:T.R.sgn (-Tj.of (cf s),Tj.of (cy j (cf s)))=0∧Tj.R.sgn (Tj.of (cf s)+Tj.of (cf s))≠0:=by
      have hes:T.R.sgn (T.of (cf s))≠0:=by rw[T.sgn];exact h
      exact OR.Fx (R:=Tj.R) (d:=Tj.of (cf (v.getD j []))) (by rw[Tj.sgn];exact hdj) hes (by
       have h5:=hT;rw[hN] at h5;exact h5)
     have hr:=ih hxx (by omega) (by
      rw[b6 v lxx hj,← Tj.sgn,cxx,Tj.add,Tj.cong _ _ ex]
      exact F.2)
     obtain ⟨r,hrr⟩: ∃r,gZ l v (aW (s.take (s.length / 2)) (s.take (s.length / 2)))=r:=⟨_,rfl⟩;have hrl:aC l r:=by rw[← hrr];exact fX l hxx hrt (by omega)
     rw[hrr] at hr ⊢
     have g1:bg v (l+1) (oE (cf s) (cf (aW (s.take (s.length / 2)) (s.take (s.length / 2)))))=0:=by
      rw[b6 v (ls.sub (lxx.mono (by omega))) (by omega),← T.sgn]
      have:T.of (oE (cf s) (cf (aW (s.take (s.length / 2)) (s.take (s.length / 2)))))=(-Tj.of (cf s),Tj.of (cy j (cf s))):=by
       refine Prod.ext ?_ ?_
       · show Tj.of (oE (cf s) (cf (aW (s.take (s.length / 2)) (s.take (s.length / 2)))))= -Tj.of (cf s);rw[show Tj.of (oE (cf s) (cf (aW (s.take (s.length / 2)) (s.take (s.length / 2)))))=Tj.of (cf s) -Tj.of (cf (aW (s.take (s.length / 2)) (s.take (s.length / 2)))) from Tj.sub _ _,cxx,Tj.add,Tj.cong _ _ ex];exact Rg.fW [Tj.of (cf s)] (X0-(X0+X0)) (-X0) rfl
       · show Tj.of (cy j (oE (cf s) (cf (aW (s.take (s.length / 2)) (s.take (s.length / 2))))))=Tj.of (cy j (cf s));refine Tj.cong _ _ fun i hi=>?_;show cf s (2^j+i) -cf (aW (s.take (s.length / 2)) (s.take (s.length / 2))) (2^j+i)=cf s (2^j+i);rw[lxx _ (by omega)];exact Rat.sub_eq_add_neg .. |>.trans (by rw[Rat.neg_zero,Rat.add_zero])
      rw[this];exact F.1
     have g2:bg v (l+1) (oE (mulC v (l+1) (cf (aW (s.take (s.length / 2)) (s.take (s.length / 2)))) (cf r)) qp)=0:=by
      rw[dw v (a7 hxx.le) (a7 hrl.le) (Nat.le_succ l),b6 v ((bh v l _ _).sub (zX l)) (Nat.le_succ l)];exact hr
     rw[← TL.sgn] at g1 g2 ⊢;rw[show TL.of (oE _ _)=_ from TL.sub _ _,TL.mul,TL.one] at g2 ⊢;rw[show TL.of (oE _ _)=_ from TL.sub _ _] at g1
     have e:TL.of (cf s)*TL.of (cf r) -1=(TL.of (cf s) -TL.of (cf (aW (s.take (s.length / 2)) (s.take (s.length / 2)))))*TL.of (cf r)+(TL.of (cf (aW (s.take (s.length / 2)) (s.take (s.length / 2))))*TL.of (cf r) -1) :=
      Rg.fW [TL.of (cf s),TL.of (cf r),TL.of (cf (aW (s.take (s.length / 2)) (s.take (s.length / 2))))] (X0*X1-1) ((X0-X2)*X1+(X2*X1-1)) rfl
     rw[e,OR.null _ _ (OR.kr _ g1)];exact g2
   · rw[if_neg hN];have hr:=ih hn.1 (by omega) (by rw[hn.2,b6 v lowN hj];exact hN);obtain ⟨r,hrr⟩: ∃r,gZ l v (eW l v s)=r:=⟨_,rfl⟩;have hrl:aC l r:=by rw[← hrr];exact fX l hn.1 hrt (by omega)
     rw[hrr] at hr ⊢;rw[hn.2] at hr
     have hjl:aC (l+1) (dL (s.take (s.length / 2)) (aM (s.drop (s.length / 2))) (s.length / 2)):= .inr ⟨j+1,by omega,by
      rw[et]
      omega⟩
     have cJ: ∀i,cf (dL (s.take (s.length / 2)) (aM (s.drop (s.length / 2))) (s.length / 2)) i=if i<2^j then cf (s.take (s.length / 2)) i else cf (aM (s.drop (s.length / 2))) (i-2^j):=fun i=>Hm _ e3 (by rw[bB];omega) i
     have lJ:db (j+1) (cf (dL (s.take (s.length / 2)) (aM (s.drop (s.length / 2))) (s.length / 2))):=a7 (by rw[et];omega);have ht:=eS (l+1) hjl (hrl.mono (Nat.le_succ l)) hrt hl;rw[ht.2];generalize dL (s.take (s.length / 2)) (aM (s.drop (s.length / 2))) (s.length / 2)=J at cJ lJ hjl ht
     have eN:mulC v (l+1) (cf s) (cf J)=b8 v j (cf s):=by
      rw[dw v ls lJ (by omega)];refine ku.full (T.inj _ _ ?_) (bh v (j+1) _ _) (lowN.mono (Nat.le_succ j));rw[T.mul];have o1:Tj.of (cf J)=Tj.of (cf s):=Tj.cong _ _ fun i hi=>by rw[cJ i,if_pos hi];exact ex i hi
      have o2:Tj.of (cy j (cf J))= -Tj.of (cy j (cf s)):=by
       rw[← Tj.neg];refine Tj.cong _ _ fun i hi=>?_;show cf J (2^j+i)= -cf s (2^j+i);rw[cJ,if_neg (by omega),lR,Nat.add_sub_cancel_left,ey];rfl
      have o3:Tj.of (cy j (b8 v j (cf s)))=0:=by rw[lowN.xz,Tj.zero]
      have o4:Tj.of (b8 v j (cf s))=Tj.of (cf s)*Tj.of (cf s) -Tj.of (cy j (cf s))*Tj.of (cy j (cf s))*Tj.of (cf (v.getD j [])):=by
       rw[← Tj.mul,← Tj.mul,← Tj.mul,← Tj.sub];rfl
      refine Prod.ext ?_ ?_
      · show Tj.of (cf s)*Tj.of (cf J)+Tj.of (cy j (cf s))*Tj.of (cy j (cf J))*Tj.of (cf (v.getD j []))=Tj.of (b8 v j (cf s));rw[o1,o2,o4];exact Rg.fW [Tj.of (cf s),Tj.of (cy j (cf s)),Tj.of (cf (v.getD j []))] (X0*X0+X1* -X1*X2) (X0*X0-X1*X1*X2) rfl
      · show Tj.of (cf s)*Tj.of (cy j (cf J))+Tj.of (cy j (cf s))*Tj.of (cf J)=Tj.of (cy j (b8 v j (cf s)));rw[o1,o2,o3];exact Rg.fW [Tj.of (cf s),Tj.of (cy j (cf s))] (X0* -X1+X1*X0) 0 rfl
     have g2:bg v (l+1) (oE (mulC v (l+1) (b8 v j (cf s)) (cf r)) qp)=0:=by
      rw[dw v (lowN.mono hj) (a7 hrl.le) (Nat.le_succ l),b6 v ((bh v l _ _).sub (zX l)) (Nat.le_succ l)];exact hr
     rw[← eN] at g2;rw[← TL.sgn] at g2 ⊢;rw[show TL.of (oE _ _)=_ from TL.sub _ _,TL.mul,TL.mul,TL.one] at g2 ⊢;rw[← Rg.mul_assoc];exact g2
structure FV (v:List NQ) where
 K:Fd
 val:NQ→K.T
 add: ∀{a b:NQ},aC v.length a→aC v.length b→val (tV a b)=val a+val b
 sub: ∀{a b:NQ},aC v.length a→aC v.length b→val (oD a b)=val a-val b
 neg: ∀{a:NQ},aC v.length a→val (ju a)= -val a
 mul: ∀{a b:NQ},aC v.length a→aC v.length b→val (dK v a b)=val a*val b
 div: ∀{a b:NQ},aC v.length a→aC v.length b→fi v b≠0→val (mT v a b)=val a*K.inv (val b)
 nil:val []=0
 one:val [1]=1
 sg: ∀{a:NQ},aC v.length a→(fi v a=0↔val a=0)
 eq: ∀{a b:NQ},bg v v.length (cf (aW a (aM b)))=0↔val a=val b
 inv: ∀{b:NQ},aC v.length b→fi v b≠0→val (gZ v.length v b)=K.inv (val b)
theorem Hl:cf []=zC:=rfl
theorem Hk:cf [1]=qp:=funext fun i=>by
 cases i with
 | zero=>rfl
 | succ i=>rfl
theorem qR{m:Nat}{v:List NQ}(V:j5 m v):Nonempty (FV v):=by
 obtain ⟨T⟩:=I4 V.pos v.length (ak _);have hs: ∀{a:NQ},aC v.length a→fi v a=bg v v.length (cf a):=fun h=>eI v.length h V.ro (ak _)
 have iv: ∀{b:NQ},aC v.length b→fi v b≠0→OR.cl T.inv (T.of (cf (gZ v.length v b)))=(T.R.fd T.inv).inv (OR.cl T.inv (T.of (cf b))):=fun {b} hb h0=>by
  rw[hs hb] at h0;have h:=Is V.ro V.pos v.length hb (ak _) h0;refine Fd.inv_eq ?_;rw[← OR.FF,← T.mul,← OR.IE,OR.FG,← T.one,← T.sub,T.sgn];exact h
 refine⟨⟨T.R.fd T.inv,fun a=>OR.cl T.inv (T.of (cf a)),fun {a b} ha hb=>?_,fun {a b} ha hb=>?_,fun {a} ha=>?_,fun {a b} ha hb=>?_,fun {a b} ha hb h0=>?_,?_,?_,fun {a} ha=>?_,fun {a b}=>?_,iv⟩⟩
 · show OR.cl T.inv (T.of (cf (ar (aW a b))))=_;rw[bO (ha.plus hb),show cf (aW a b)=fun i=>cf a i+cf b i from funext fun i=>fV a b i,T.add];rfl
 · show OR.cl T.inv (T.of (cf (ar (aW a (aM b)))))=_;rw[bO (ha.plus hb.minus),show cf (aW a (aM b))=fun i=>cf a i-cf b i from funext fun i=>by rw[fV,lR];exact(Rat.sub_eq_add_neg ..).symm,T.sub];rfl
 · show OR.cl T.inv (T.of (cf (ar (aM a))))=_;rw[bO ha.minus,show cf (aM a)=fun i=> -cf a i from funext fun i=>lR a i,T.neg];rfl
 · have ht:=eS v.length ha hb V.ro (ak _);show OR.cl T.inv (T.of (cf (ar (bd v.length v a b))))=_;rw[bO ht.1,ht.2,T.mul];rfl
 · have ht:=eS v.length ha (fX v.length hb V.ro (ak _)) V.ro (ak _);show OR.cl T.inv (T.of (cf (ar (bd v.length v a (gZ v.length v b)))))=_;rw[bO ht.1,ht.2,T.mul,OR.FF,iv hb h0]
 · show OR.cl T.inv (T.of (cf []))=0;rw[Hl,T.zero];rfl
 · show OR.cl T.inv (T.of (cf [1]))=1;rw[Hk,T.one];rfl
 · rw[OR.Ko,T.sgn,hs ha]
 · rw[OR.FG,← T.sub,T.sgn,show cf (aW a (aM b))=fun i=>cf a i-cf b i from funext fun i=>by rw[fV,lR];exact(Rat.sub_eq_add_neg ..).symm]
end Lift
namespace Lift
open Go
open Go.RowKit (Below)
section
variable {P:Program} {T:Ty} {B:Nat} {F0:Nat→Prop} {w0:c7} {n d:Nat} {o:Oper} {σ:St} {K:St→Prop} {all:Array Oper} {rest:List Oper} {lk hm:Nat→Option AV}
end
end Lift
namespace Lift
open Go
open Go.RowKit (Below)
section
variable {P:Program} {T:Ty} {B:Nat} {F0:Nat→Prop} {w0:c7} {n:Nat} {σ τ σ0:St} {ops all:Array Oper} {l rest:List Oper} {o:Oper} {d:Nat} {lk hm:Nat→Option AV} {K:St→Prop} {ds:List Nat}
end
end Lift
namespace Lift
open Go
open Go.RowKit (Below)
section
variable {P:Program} {T:Ty} {B:Nat} {F0:Nat→Prop} {w0:c7} {n:Nat} {σ:St} {all:Array Oper} {rest:List Oper} {o1 o2:Oper} {K:St→Prop}
end
end Lift
namespace Lift
open Go
open Go.RowKit (Below)
section
variable {P:Program} {T:Ty} {B:Nat} {F0:Nat→Prop} {w0:c7} {n:Nat} {σ:St} {all:Array Oper} {rest:List Oper} {o:Oper} {d:Nat} {K:St→Prop}
def Fl(T:Ty)(lk:Nat→Option AV):Op→Option (Nat×List D)
 | .binOp .eql t x (.const (.slice none 0 0)) _=>match T.get t,dp T (ex T lk 0 x) with
   | some ti,some (.sl s xs)=>match Nat.beq ti.kind 4 with
     | true=>some (s,xs)
     | false=>none
   | _,_=>none
 | _=>none
theorem BQ{w:World}{t e:TypeId}(hi:P.underlying t=some (.slice e))(k:Nat)(b:Option Addr)(l c:Nat):(Op.equalIn (k+1) t (.slice b l c) (.slice none 0 0)).run P w= .ok b.isNone w:=by
 cases b<;>simp[Op.equalIn,run_underlying hi]
theorem Fk{w:World}{t e:TypeId}(hi:P.underlying t=some (.slice e))(b:Option Addr)(l c:Nat):(Op.equal t (.slice b l c) (.slice none 0 0)).run P w= .ok b.isNone w:=BQ hi 9999 b l c
theorem FM{w:World}{t e:TypeId}(hi:P.underlying t=some (.slice e))(b:Option Addr)(l c:Nat):(Go.binOp .eql t (.slice b l c) (.slice none 0 0)).run P w= .ok (.bool b.isNone) w:=by
 have:Go.binOp .eql t (.slice b l c) (.slice none 0 0)=(do pure (.bool (← Op.equal t (.slice b l c) (.slice none 0 0))):Sem Value):=rfl;rw[this];simp only[Sem.run_bind,Fk hi,Result.andThen_ok,Sem.run_pure]
theorem ab.eqn(hT:bH P T){s:Nat}{xs:List D}(hd:o.dst=some d)(hdn:Nat.ble (d+1) n=true)(hg:o.guard=none)(hx:Fl T σ.get o.op=some (s,xs))
  (h: ∀b:Bool,(xs≠[]→b=false)→ab P B F0 w0 n all rest K ((d,.d (.v (.bool b)))::σ)):ab P B F0 w0 n all (o::rest) K σ:=by
 intro a w hR Q hQ;unfold wpList;rw[if_pos (by simp[Region.wanted,hg])];refine .inl ?_;obtain ⟨O,hOr,hO⟩:=hR.own;have hI:=hR.inv hOr hO (fun t=> .tmp t∈o.op.operands) d;obtain ⟨dst,op,ty,pos,after,guard⟩:=o;simp only[] at hd hx hI;cases op<;>try (simp only[Fl] at hx;cases hx;done)
 rename_i bop t x y ty2;cases bop<;>try (simp only[Fl] at hx;cases hx;done)
 cases y<;>try (simp only[Fl] at hx;cases hx;done)
 rename_i c;unfold Fl at hx;split at hx<;>try (cases hx;done)
 rename_i heq;simp only[Op.binOp.injEq,Operand.const.injEq,true_and] at heq;obtain ⟨rfl,rfl,rfl,rfl⟩:=heq;split at hx<;>try (cases hx;done)
 rename_i ti s' xs' hti hdx;split at hx<;>simp at hx;rename_i hk;obtain ⟨rfl,rfl⟩:=hx;obtain ⟨info,dd,z,hok⟩:=hT _ ti hti;have hrd:=dY hT hI (fun t ht=>by subst ht;simp[Op.operands]) hdx;obtain ⟨ad,cap,hv,h1,h2,hne⟩:=Rd.zk hrd
 have hg2:(eqGuard .eql t x (.const (.slice none 0 0)) (a.eval x) (.slice none 0 0)).run P w= .ok () w:=by
  rw[hv];simp[eqGuard]
 refine br (v:= .bool ad.isNone) (w':=w) ?_ ?_
 · simp only[execOp,eval_const,Sem.run_bind,hg2,Result.andThen_ok];rw[hv];rw[FM (hok.jF hk).1];rfl
 · rw[hd];refine h ad.isNone (fun hx=>?_) _ _ (hR.put hOr hO (Nat.le_of_ble_eq_true hdn) (dy.refl hI.lt) (show eG _ _ _ _ _ _ _ _ (.d (.v (.bool ad.isNone))) (.bool ad.isNone) from Rd.v rfl)) Q hQ;rcases hne with e | ⟨b,off,cs,e,fz,hb,_⟩
   · exact absurd e hx
   · rw[hb];rfl
end
end Lift
namespace Lift
open Go Go.Proofs
end Lift
namespace Lift
open Go Go.Proofs
end Lift
namespace Lift
open Go Go.Proofs
end Lift
namespace Lift
open Go Go.Proofs
end Lift
namespace Lift
open Go Go.Proofs
abbrev kn(r:List (List RD)):D:= .sl 1 (r.map dC)
abbrev MxR(a:List (List (List RD))):D:= .sl 1 (a.map kn)
abbrev bW(r:List NQ):D:= .sl 1 (r.map ah)
abbrev aX(a:List (List NQ)):D:= .sl 1 (a.map bW)
structure DF (m:Nat) (rt:List (List RD)) (a:List (List (List RD))):Prop where
 n: ∀i k,DE m rt ((a.getD i []).getD k [])
 l:a.length≤1000000
 r: ∀i,(a.getD i []).length≤1000000
def ao{α:Type}(a:List (List α)):Nat:=(a.getD 0 []).length
def yZ(a:List (List (List RD)))(i:Nat):Nat:=if (a.getD i []).length≠ao a then 10 else 0
def lv(rt:List (List RD))(r:List (List RD)):Nat:=fE (fun k=>rb rt [r.getD k []]) (r.length-0) 0
def yx(rt:List (List RD))(a:List (List (List RD))):Nat :=
 if a.length=0 then 0 else if 32<a.length∨32<ao a then 4 else
 if fE (yZ a) (a.length-0) 0≠0 then fE (yZ a) (a.length-0) 0 else fE (fun i=>lv rt (a.getD i [])) (a.length-0) 0
def nB(rt:List (List RD))(a:List (List (List RD))):Nat:=if du rt≠0 then du rt else yx rt a
structure IW (m:Nat) (rt:List (List RD)):Prop where
 w: ∀i,i<rt.length→(rt.getD i []).length=2^i→wN m (rt.getD i [])
 m1:1≤m
 l:rt.length≤1000000
 ll: ∀i,i<rt.length→(rt.getD i []).length≤4398046511104
 ok:rt.length≤5→od rt.length m
 m2:m≤1000000
theorem lH{m:Nat}{rt:List (List RD)}{x:List RD}(T:IW m rt)(X:DE m rt x):Pure Tryz.prog 67 [TrD rt,dC x] (tR (rb rt [x])):=by
 refine qJ 14 Tryz.func67 rfl rfl rfl rfl (by kernel_rfl) (fun B F0 w0=>?_);have hm:=T.m2;have c:=wF rt x T.w T.m1 T.l T.ll T.ok X.w X.l (by omega);unfold D7 at c;refine qX 2 rfl ?_;refine qK 2 rfl ?_;by_cases h:rb rt [x]≠0
 · rw[if_pos h] at c;refine ab.call tok rfl rfl rfl rfl c ?_;refine qU 5 rfl ?_;refine qK 2 rfl ?_;exact qN rfl
 rw[if_neg h] at c;have h:rb rt [x]=0:=by omega
 rw[h];refine ab.call tok rfl rfl rfl rfl c ?_;refine qU 5 rfl ?_;refine qK 2 rfl ?_;exact qN rfl
theorem yP{rt:List (List RD)}(h:du rt=0)(x:List RD):rb rt [x]=bL rt.length x:=by
 unfold rb;rw[if_neg (by rw[h];simp)];show (if bL rt.length x=0 then 0 else bL rt.length x)=_;split
 · rename_i e;exact e.symm
 · rfl
set_option maxHeartbeats 1600000 in
theorem vB{rt:List (List RD)}{a:List (List (List RD))}(hal:a.length≤1000000)(har: ∀i,(a.getD i []).length≤1000000)(han: ∀i k,Pure Tryz.prog 67 [TrD rt,dC ((a.getD i []).getD k [])] (tR (rb rt [(a.getD i []).getD k []]))):Pure Tryz.prog 55 [TrD rt,MxR a] (tR (yx rt a)):=by
 refine qJ 61 Tryz.func55 rfl rfl rfl rfl (by kernel_rfl) (fun B F0 w0=>?_);unfold yx;obtain ⟨E,hE⟩: ∃E,fE (yZ a) (a.length-0) 0=E:=⟨_,rfl⟩;obtain ⟨G,hG⟩: ∃G,fE (fun i=>lv rt (a.getD i [])) (a.length-0) 0=G:=⟨_,rfl⟩;rw[hE,hG];refine qX 2 rfl ?_;refine qI (qX 2 rfl ?_);rw[ae];refine qU 1 rfl ?_;refine ab.nil ?_;by_cases h0:a.length=0
 · rw[if_pos h0,h0];refine AW.aL rfl ?_;refine qX 1 rfl ?_;exact qN rfl
 rw[if_neg h0,beq_eq_false_iff_ne.2 (show (a.length:Int)≠0 by omega)];have hc0:ao a=(a.getD 0 []).length:=rfl;have hcl:=har 0;have g0:=getM kn (l:=a) (i:=0) (by omega);refine AW.aA rfl ?_
 · skip
   refine AW.skip (AW.seq ?_);refine qX 2 rfl ?_;rw[ae];refine qU 1 rfl ?_;by_cases h1:32<a.length
   · rw[aN (show (32:Int)<(a.length:Int) by omega),if_pos (.inl h1)];refine qU 7 rfl ?_;refine ab.nil ?_;refine AW.aL rfl ?_;refine qX 2 rfl ?_;exact qN rfl
   rw[aO (show ¬(32:Int)<(a.length:Int) by omega)];refine qU 2 rfl ?_;refine ab.idx tok (kn (a.getD 0 [])) rfl rfl rfl rfl (Int.le_refl _) g0 ?_;refine qU 2 rfl ?_;rw[ae];refine qU 1 rfl ?_;by_cases h2:32<ao a
   · rw[aN (show (32:Int)<((a.getD 0 []).length:Int) by omega),if_pos (.inr h2)];refine qU 1 rfl ?_;refine ab.nil ?_;refine AW.aL rfl ?_;refine qX 2 rfl ?_;exact qN rfl
   rw[aO (show ¬(32:Int)<((a.getD 0 []).length:Int) by omega),if_neg (fun h=>h.elim h1 h2)];refine qU 1 rfl ?_;refine ab.nil ?_;refine AW.aA rfl ?_
   · refine AW.skip (AW.seq ?_);refine qX 2 rfl ?_;rw[ae];refine qU 1 rfl ?_;refine ab.nil ?_;refine AW.block ?_;refine AW.aG [1,2,26,27,28] (fun i:Nat=>[(1,.d (MxR a)),(2,.bx [.sl 1 (rt.map dC)]),(26,.d (MxR a)),(27,.d (dI a.length)),(28,.d (dI i))]) (fun i=>i≤a.length∧fE (yZ a) (a.length-i) i=E) (fun i=>a.length-i) 0 rfl ⟨Nat.zero_le _,hE⟩ (fun i ⟨hi,hiE⟩=>?_)
     · show AW _ _ _ _ _ _ _ [(1,.d (MxR a)),(2,.bx [.sl 1 (rt.map dC)]),(26,.d (MxR a)),(27,.d (dI a.length)),(28,.d (dI i))];refine qX 1 rfl ?_;refine qI ?_;refine AW.cond rfl (fun h=>?_) (fun h=>?_)
       · have hii:i<a.length:=by have:=aq h;omega
         have hg:=getM kn (l:=a) (i:=i) hii;have hri:=har i;have hmiss:=fun h0:yZ a i=0=>(fU hii h0).symm.trans hiE;have hhit:=fun h0:yZ a i≠0=>(iP hii h0).symm.trans hiE;refine AW.skip (AW.seq (AW.block (AW.seq (AW.region ?_))));refine ab.idx tok (kn (a.getD i [])) rfl rfl rfl rfl (aj i) hg ?_;refine qU 2 rfl ?_;refine qK 2 rfl ?_;rw[ae];refine qU 1 rfl ?_;refine ab.idx tok (kn (a.getD 0 [])) rfl rfl rfl rfl (Int.le_refl _) g0 ?_;refine qU 2 rfl ?_;rw[ae];refine qU 1 rfl ?_;refine ab.nil ?_;refine AW.cond rfl (fun h=>?_) (fun h=>?_)
         · have hne:(a.getD i []).length≠ao a:=by have:=bne_iff_ne.1 h;omega
           have e:yZ a i=10:=if_pos hne;have:=hhit (by rw[e];decide);rw[e] at this;subst this;rw[if_pos (by decide)];refine qX 2 rfl ?_;exact qN rfl
         · have heq:(a.getD i []).length=ao a:=by have:=bne_eq_false_iff_eq.1 h;omega
           have e:yZ a i=0:=if_neg (fun h=>h heq);refine AW.skip (qT 1 rfl ?_);rw[aF (x:=(i:Int)+1) (by omega) (by omega)];refine qU 1 rfl ?_;refine ab.nil ?_;exact⟨i+1,rfl,⟨hii,hmiss e⟩,by omega⟩
       have hii: ¬i<a.length:=by have:=au h;omega
       rw[iR hii] at hiE;subst hiE;rw[if_neg (by decide)];refine AW.exit (AW.seq ?_);refine qX 2 rfl ?_;rw[ae];refine qU 1 rfl ?_;refine ab.nil ?_;refine AW.block ?_;refine AW.aG [1,2,41,42,43] (fun i:Nat=>[(1,.d (MxR a)),(2,.bx [.sl 1 (rt.map dC)]),(41,.d (MxR a)),(42,.d (dI a.length)),(43,.d (dI i))]) (fun i=>i≤a.length∧fE (fun i=>lv rt (a.getD i [])) (a.length-i) i=G) (fun i=>a.length-i) 0 rfl ⟨Nat.zero_le _,hG⟩ (fun i ⟨hi,hiG⟩=>?_)
       · show AW _ _ _ _ _ _ _ [(1,.d (MxR a)),(2,.bx [.sl 1 (rt.map dC)]),(41,.d (MxR a)),(42,.d (dI a.length)),(43,.d (dI i))];refine qX 1 rfl ?_;refine qI ?_;refine AW.cond rfl (fun h=>?_) (fun h=>?_)
         · have hii:i<a.length:=by have:=aq h;omega
           have hg:=getM kn (l:=a) (i:=i) hii;have hri:=har i;have hni:=han i;have hmiss:=fun h0:lv rt (a.getD i [])=0=>(fU (f:=fun i=>lv rt (a.getD i [])) hii h0).symm.trans hiG;have hhit:=fun h0:lv rt (a.getD i [])≠0=>(iP (f:=fun i=>lv rt (a.getD i [])) hii h0).symm.trans hiG;refine AW.skip (AW.seq (AW.block (AW.seq (AW.region ?_))));refine ab.idx tok (kn (a.getD i [])) rfl rfl rfl rfl (aj i) hg ?_;refine qU 2 rfl ?_;refine ab.nil ?_;generalize a.getD i []=r at hri hni hmiss hhit;obtain ⟨H,hH⟩: ∃H,lv rt r=H:=⟨_,rfl⟩;rw[hH] at hmiss hhit;refine qX 2 rfl ?_;rw[ae];refine qU 1 rfl ?_;refine ab.nil ?_;refine AW.block ?_;refine AW.aG [1,2,41,42,43,47,48,49] (fun k:Nat=>[(1,.d (MxR a)),(2,.bx [.sl 1 (rt.map dC)]),(41,.d (MxR a)),(42,.d (dI a.length)),(43,.d (dI i)),(47,.d (kn r)),(48,.d (dI r.length)),(49,.d (dI k))]) (fun k=>k≤r.length∧fE (fun k=>rb rt [r.getD k []]) (r.length-k) k=H) (fun k=>r.length-k) 0 rfl ⟨Nat.zero_le _,hH⟩ (fun k ⟨hk,hkH⟩=>?_)
           · show AW _ _ _ _ _ _ _ [(1,.d (MxR a)),(2,.bx [.sl 1 (rt.map dC)]),(41,.d (MxR a)),(42,.d (dI a.length)),(43,.d (dI i)),(47,.d (kn r)),(48,.d (dI r.length)),(49,.d (dI k))];refine qX 1 rfl ?_;refine qI ?_;refine AW.cond rfl (fun h=>?_) (fun h=>?_)
             · have hkk:k<r.length:=by have:=aq h;omega
               have hg2:=getM dC (l:=r) (i:=k) hkk;have cn:=hni k;have km:=fun h0:rb rt [r.getD k []]=0=>(fU (f:=fun k=>rb rt [r.getD k []]) hkk h0).symm.trans hkH;have kh:=fun h0:rb rt [r.getD k []]≠0=>(iP (f:=fun k=>rb rt [r.getD k []]) hkk h0).symm.trans hkH;refine AW.skip (AW.seq (AW.block (AW.seq (AW.region ?_))));refine ab.idx tok (dC (r.getD k [])) rfl rfl rfl rfl (aj k) hg2 ?_;refine qU 2 rfl ?_;refine qK 2 rfl ?_;refine ab.call tok rfl rfl rfl rfl cn ?_;refine qU 1 rfl ?_;refine ab.nil ?_;generalize rb rt [r.getD k []]=e at cn km kh;rcases e with _ | z
               rotate_left
               · have:=kh (Nat.succ_ne_zero z);subst this;have:=hhit (Nat.succ_ne_zero z);subst this;refine qX 1 rfl ?_;refine ab.err tok rfl rfl rfl rfl rfl ?_;refine ab.nil ?_;refine AW.aL rfl ?_;refine qX 2 rfl ?_;exact qN rfl
               refine qX 1 rfl ?_;refine ab.err tok rfl rfl rfl rfl rfl ?_;refine ab.nil ?_;refine AW.aA rfl ?_
               · skip
                 refine AW.skip (qT 1 rfl ?_);rw[aF (x:=(k:Int)+1) (by omega) (by omega)];refine qU 1 rfl ?_;refine ab.nil ?_;exact⟨k+1,rfl,⟨hkk,km rfl⟩,by omega⟩
             have hkk: ¬k<r.length:=by have:=au h;omega
             rw[iR hkk] at hkH;subst hkH;refine AW.exit ?_;refine qT 1 rfl ?_;rw[aF (x:=(i:Int)+1) (by omega) (by omega)];refine qU 1 rfl ?_;refine ab.nil ?_;exact⟨i+1,rfl,⟨hii,hmiss rfl⟩,by omega⟩
         have hii: ¬i<a.length:=by have:=au h;omega
         rw[iR hii] at hiG;subst hiG;refine AW.exit ?_;refine qX 1 rfl ?_;exact qN rfl
theorem rW{m:Nat}{rt:List (List RD)}{a:List (List (List RD))}(T:IW m rt)(A:DF m rt a):Pure Tryz.prog 55 [TrD rt,MxR a] (tR (yx rt a)) :=
 vB A.l A.r (fun i k=>lH T (A.n i k))
theorem gi{m:Nat}{rt:List (List RD)}{a:List (List (List RD))}(T:IW m rt)(A:DF m rt a):Pure Tryz.prog 20 [TrD rt,MxR a] (tR (nB rt a)):=by
 refine qJ 14 Tryz.func20 rfl rfl rfl rfl (by kernel_rfl) (fun B F0 w0=>?_);have cc:=m4 rt T.w T.m1 T.l T.ll T.ok;have cm:=rW T A;unfold nB;refine qX 2 rfl ?_;refine qI (qX 1 rfl ?_);refine ab.call tok rfl rfl rfl rfl cc ?_;refine qU 1 rfl ?_;refine ab.nil ?_;generalize du rt=e at cc ⊢;rcases e with _ | z
 rotate_left
 · rw[if_pos (Nat.succ_ne_zero z)];refine qX 1 rfl ?_;refine ab.err tok rfl rfl rfl rfl rfl ?_;refine ab.nil ?_;refine AW.aL rfl ?_;refine qX 2 rfl ?_;exact qN rfl
 rw[if_neg (by simp)];refine qX 1 rfl ?_;refine ab.err tok rfl rfl rfl rfl rfl ?_;refine ab.nil ?_;refine AW.aA rfl ?_
 · skip
   refine AW.skip (qX 2 rfl ?_);refine ab.call tok rfl rfl rfl rfl cm ?_;refine qU 1 rfl ?_;exact qN rfl
theorem gX{v:List NQ}{a:NQ}(V:k8 v)(ha:aC v.length a)(ok:vm v a):Pure Tryz.prog 69 [bt v,ah a] (dI (fi v a)):=by
 refine qJ 14 Tryz.func69 rfl rfl rfl rfl (by kernel_rfl) (fun B F0 w0=>?_);have c:=sI V ha ok;refine qX 2 rfl ?_;refine qK 2 rfl ?_;refine ab.call tok rfl rfl rfl rfl c ?_;refine qU 5 rfl ?_;refine qK 2 rfl ?_;exact qN rfl
theorem bP(a:List (List NQ)):Pure Tryz.prog 47 [aX a] (dI (ao a)):=by
 refine qJ 10 Tryz.func47 rfl rfl rfl rfl (by kernel_rfl) (fun B F0 w0=>?_);refine qX 1 rfl ?_;refine qI (qX 2 rfl ?_);rw[ae];refine qU 1 rfl ?_;refine ab.nil ?_;by_cases h0:a.length=0
 · rw[List.length_eq_zero_iff.1 h0];refine AW.aL rfl ?_;refine qX 1 rfl ?_;exact qN rfl
 rw[beq_eq_false_iff_ne.2 (show (a.length:Int)≠0 by omega)];have g0:=getM bW (l:=a) (i:=0) (by omega);refine AW.aA rfl ?_
 · refine AW.skip (qX 1 rfl ?_);refine ab.idx tok (bW (a.getD 0 [])) rfl rfl rfl rfl (Int.le_refl _) g0 ?_;refine qU 2 rfl ?_;rw[ae];refine qU 1 rfl ?_;exact qN rfl
def Jp(r:List NQ)(res:D)(R':List LR):Prop:= ∃V,res= .v V∧R'=[(V,AV.ow 53 (r.map ah))]
theorem AA(r:List NQ)(hl:r.length≤1000000):jn Tryz.prog 68 [bW r] [] (Jp r):=by
 refine jn.intro (n:=8) tok Tryz.func68 rfl rfl rfl (Nat.le_of_ble_eq_true rfl) (by kernel_rfl) (fun B F0 w0=>?_);refine AZ.seq (AZ.cQ (fun B1 F1 w1=>?_));refine qU 1 rfl ?_;refine ab.nil ⟨rfl,?_⟩;refine AZ.seq (AZ.seq ?_);refine AZ.cQ (fun B1 F1 w1=>?_);refine qU 1 rfl ?_;refine ab.eqn tok rfl rfl rfl rfl (fun b hb=>?_);refine ab.nil ⟨rfl,?_⟩;refine AZ.cond rfl (fun h=>?_) (fun h=>?_)
 · have hr:r=[]:=by
    refine Classical.byContradiction fun hr=>?_;have:=hb (by simp[hr]);rw[this] at h;cases h
   subst hr;refine AZ.seq (AZ.cQ (fun B1 F1 w1=>?_));refine qU 1 rfl ?_;refine ab.nil ⟨rfl,?_⟩;exact AZ.iM 2 rfl rfl rfl (fun V=>AZ.ret ⟨.v V,rfl,V,rfl,rfl⟩)
 · skip
   refine AZ.skip (AZ.seq ?_);refine AZ.cQ (fun B1 F1 w1=>?_);refine qU 2 rfl ?_;refine ab.tS tok rfl rfl rfl rfl (by rw[ae];show r.length*24≤_;omega) ?_;refine qU 1 rfl ?_;refine ab.nil ⟨rfl,?_⟩;exact AZ.iM 2 rfl rfl rfl (fun V=>AZ.ret ⟨.v V,rfl,V,rfl,rfl⟩)
end Lift
namespace Lift
open Go
open Go.RowKit (Below)
section
variable {P:Program} {T:Ty} {B:Nat} {F0:Nat→Prop} {w0:c7} {n:Nat} {σ:St} {R:List LR} {all ops:Array Oper} {l:List Oper} {o:Oper} {x:Code} {a:Act} {w:World} {K:List LR→St→Prop} {p:lV} {Q:Exit→List LR→St→Prop}
theorem nM: ∀{cs:List D},(∀d,d∈cs→d.flat=[d])→flatAll cs=cs
 | [],h=>rfl
 | d::r,h=>by
   show d.flat++flatAll r=d::r;rw[h d (List.mem_cons_self ..),nM (fun x hx=>h x (List.mem_cons_of_mem _ hx))];rfl
theorem cK.Ha{i j k e eo:Nat}{V Vo:Value}{xs cs:List D}(hR:cK P B F0 w0 n R σ a w)(hj:R[j]?=some (Vo,.ow eo cs))(hc1: ∀d,d∈cs→d.flat=[d])(hk:cs[k]?=some (.v V))(hi:R[i]?=some (V,.ow e xs))(hij:i≠j):
  cK P B F0 w0 n ((R.set i (V,.junk)).set j (Vo,.ow eo (cs.set k (.sl (P.cellsOf e) xs)))) σ a w:=by
 obtain ⟨O,hOr,hO,hL⟩:=hR.own
 let O':Nat→Option Nat:=fun b=>if O b=some (n+i) then none else O b
 have h1: ∀b t,O' b=some t→O b=some t:=fun b t h=>by
  simp only[O'] at h;split at h
  · cases h
  · exact h
 have h2: ∀b t,t≠n+i→O b=some t→O' b=some t:=fun b t ht h=>by
  simp only[O',h];rw[if_neg (by simpa using ht)]
 have hF: ∀c,aR O (FW B F0 w) c→aR O' (FW B F0 w) c:=fun c hc=>⟨by simp only[O',hc.1];simp,hc.2⟩
 have hlt: ∀t av,σ.get t=some av→t<n:=fun t av h=>by
  obtain ⟨v,hv,_⟩:=hO t av h;rw[← hR.size];exact(Array.getElem?_eq_some_iff.1 hv).1
 have hil:=(List.getElem?_eq_some_iff.1 hi).1;have hjl:=(List.getElem?_eq_some_iff.1 hj).1;have hkl:=(List.getElem?_eq_some_iff.1 hk).1;refine⟨hR.below,hR.base,hR.f0,hR.defers,hR.size,O',fun b t hb=>hOr b t (h1 b t hb),fun j av hav=>?_,fun m r hr=>?_⟩
 · obtain ⟨v,hv,hr⟩:=hO j av hav;exact⟨v,hv,hr.move (fun c hc=>⟨hF c hc,rfl⟩) (fun _ c hc=>⟨h2 c j (by have:=hlt j av hav;omega) hc,rfl⟩) (fun k _ x _ hk=>⟨hk,rfl⟩)⟩
 · by_cases hmj:m=j
   · subst hmj;rw[List.getElem?_set_self (by simpa using hjl)] at hr;cases hr
     have hcs': ∀d,d∈cs.set k (.sl (P.cellsOf e) xs)→d.flat=[d]:=fun d hd=>by
      rcases List.mem_or_eq_of_mem_set hd with h | h
      · exact hc1 d h
      · subst h;rfl
     rcases hL m _ hj with h | ⟨_,_,h⟩
     · cases h
     refine .inr ⟨rfl,rfl,?_⟩;rcases h with ⟨base,h3,h4⟩ | ⟨b',cap,cs',h3,h4,h5,h6,h7,h8,h9,h10⟩
     · subst h4;simp at hk
     · simp only at h3;subst h3;refine .inr ⟨b',cap,cs',by simp,h2 b' _ (by omega) h4,h5,by simpa using h6,h7,h8,fun d hd=>?_,fun q d hd=>?_⟩
       · rcases List.mem_or_eq_of_mem_set hd with h | h
         · exact h9 d h
         · subst h;have:=h9 _ (List.mem_of_getElem? hk);exact this
       · rw[nM hcs'] at hd;rw[nM hc1] at h10;by_cases hq:q=k
         · subst hq;rw[List.getElem?_set_self hkl] at hd;cases hd;obtain ⟨_,u,hu,hru⟩:=h10 q _ hk;have:=(Rd.lZ hru).1;subst this;refine⟨rfl,_,hu,?_⟩;rcases hL i _ hi with h | ⟨_,_,h⟩
           · cases h
           · rcases h with ⟨base,h3,h4⟩ | ⟨b2,cap2,cs2,g3,g4,g5,g6,g7,g8,g9,g10⟩
             · simp only at h3 h4;subst h3;subst h4;exact .nil (Nat.zero_le _)
             · simp only at g3;subst g3;refine Rd.mI (off:=0) ⟨by simp only[O',g4];simp,(hOr b2 _ g4).fw hR.f0⟩ g5 g6 g7 g9 (fun m d hd=>?_);obtain ⟨f1,u,f2,f3⟩:=g10 m d hd;exact⟨f1,u,by simpa using f2,f3.mono hF (fun _ _=>rfl)⟩
         · rw[List.getElem?_set_ne (Ne.symm hq)] at hd;obtain ⟨f1,u,f2,f3⟩:=h10 q d hd;exact⟨f1,u,f2,f3.mono hF (fun _ _=>rfl)⟩
   · have hr:=jT hmj hr;by_cases hmi:m=i
     · subst hmi;rw[List.getElem?_set_self hil] at hr;cases hr;exact .inl rfl
     · have:=jT hmi hr;rcases hL m r this with h | ⟨g1,g2,g3⟩
       · exact .inl h
       · exact .inr ⟨g1,g2,g3.move (fun c hc=>⟨hF c hc,rfl⟩) (fun _ c hc=>⟨h2 c _ (by omega) hc,rfl⟩) (fun k _ x _ hk=>by cases hk)⟩
theorem AZ.Ha(hT:bH P T)(i j k:Nat){V Vo:Value}{e eo:Nat}{te:TI}{xs cs:List D}(hj:R[j]?=some (Vo,.ow eo cs))(hc1: ∀d,d∈cs→d.flat=[d])(hk:cs[k]?=some (.v V))(hi:R[i]?=some (V,.ow e xs))(hij:i≠j)(he:T.get e=some te)
  (h:AZ P B F0 w0 n x Q ((R.set i (V,.junk)).set j (Vo,.ow eo (cs.set k (.sl te.size xs)))) σ):AZ P B F0 w0 n x Q R σ:=by
 obtain ⟨info,d,z,hok⟩:=hT e te he;intro a w hR;have:=hR.Ha hj hc1 hk hi hij;rw[hok.cellsOf] at this;exact h a w this
theorem ai.vG(t i:Nat){av:AV}(ht:σ.get t=some av)(hrow:av.row.isSome=true)(htag:av.tag=false)(hi:Nat.ble (i+1) R.length=true)(h: ∀V:Value,ai P B F0 w0 n all l K p (R.set i (V,av)) ((t,.d (.v V))::σ.kill t)):ai P B F0 w0 n all l K p R σ:=by
 intro a w hR hpin Q hQ;obtain ⟨O,_,hO,_⟩:=hR.own;obtain ⟨V,hV,_⟩:=hO t _ ht;exact h V a w (hR.iM (i:=i) ht hrow htag hV (List.getElem?_set_self (Nat.le_of_ble_eq_true hi)) (fun j r hj hr=>jT hj hr)) hpin Q hQ
theorem bG{K:List LR→St→Prop}(h: ∀B1 F1 w1,td P B1 F1 w1 R→ab P B1 F1 w1 n ops [o] (fun σ'=>σ'.gH=true∧K R σ') σ):ai P B F0 w0 n ops [o] K [] R σ :=
 ai.we 1 rfl (fun B1 F1 w1 hS=>by
  have:=h B1 F1 w1 hS
  refine fun a w hR Q hQ=>this a w hR Q (fun a' w' σ' ⟨h1,h2⟩ hR'=>hQ a' w' σ' ⟨h1,ai.nil h2⟩ hR'))
end
section
variable {P:Program} {T:Ty} {B:Nat} {F0:Nat→Prop} {w0:c7} {n:Nat} {σ:St} {R:List LR} {ops:Array Oper} {o1 o2 o3 o4:Oper} {Q:Exit→List LR→St→Prop} {β:gP} {fuel:Nat} {listed:Array Bool}
end
end Lift
namespace Lift
open Go Go.Proofs
abbrev eO(r:List NQ):AV:=AV.ow 53 (r.map ah)
def ir{α:Type}(zs xs:List α)(i:Nat):List α:=zs.take i++xs.drop i
theorem qx{α:Type}{zs xs:List α}(h:zs.length=xs.length){i:Nat}(hi:i≤xs.length):(ir zs xs i).length=xs.length:=by
 unfold ir;rw[List.length_append,aT,List.length_drop,h];omega
theorem vy{α:Type}{zs xs:List α}(h:zs.length=xs.length){i:Nat}(hi:i<xs.length)(d:α):(ir zs xs i).getD i d=xs.getD i d:=by
 unfold ir;rw[aE,List.getElem?_append_right (by rw[aT];omega),aT,h,List.getElem?_drop,aE]
 congr 2;omega
theorem vx{α:Type}{zs xs:List α}(h:zs.length=xs.length){i:Nat}(hi:i<xs.length){d z:α}(hz:zs.getD i d=z):(ir zs xs i).set i z=ir zs xs (i+1):=by
 subst hz;refine List.ext_getElem? (fun c=>?_);by_cases hc:c=i
 · subst hc;rw[List.getElem?_set_self (by rw[qx h (by omega)];exact hi)];unfold ir;rw[List.getElem?_append_left (by rw[aT];omega),List.getElem?_take,if_pos (by omega)];have h1:c<zs.length:=by omega
   simp[h1]
 · rw[List.getElem?_set_ne (Ne.symm hc)];unfold ir;rcases Nat.lt_or_ge c i with g | g
   · rw[List.getElem?_append_left (by rw[aT];omega),List.getElem?_append_left (by rw[aT];omega),List.getElem?_take,List.getElem?_take,if_pos g,if_pos (by omega)]
   · rw[List.getElem?_append_right (by rw[aT];omega),List.getElem?_append_right (by rw[aT];omega),List.getElem?_drop,List.getElem?_drop,aT,aT]
     congr 1;omega
theorem rS{α:Type}(zs xs:List α):ir zs xs 0=xs:=by unfold ir;simp
theorem vz{α:Type}{zs xs:List α}(h:zs.length=xs.length):ir zs xs xs.length=zs:=by
 unfold ir;rw[List.drop_length,List.append_nil,← h,List.take_length]
section
variable {P:Program} {T:Ty} {B:Nat} {F0:Nat→Prop} {w0:c7} {n:Nat} {σ τ:St} {K:St→Prop} {all:Array Oper} {o:Oper} {d:Nat} {rest:List Oper}
theorem ab.m7(hT:bH P T){k e i:Nat}{r:List NQ}(q:NQ)(hd:o.dst=none)(hg:aH all σ o=true)(hx:Co T σ o.op=some (k,.ow e (r.map ah),r.map ah,i,0,ah q))(hi:i<r.length)
  (h:ab P B F0 w0 n all rest K ((k,.ow e ((r.set i q).map ah))::σ)):ab P B F0 w0 n all (o::rest) K σ:=by
 refine ab.kA hT (ah (r.getD i [])) hd hg hx (getM ah hi) rfl ?_;show ab P B F0 w0 n all rest K ((k,.ow e ((r.map ah).set i (ah q)))::σ);rw[show (r.map ah).set i (ah q)=(r.set i q).map ah from (List.map_set ..).symm];exact h
end
def eT(v:List NQ)(xs ys:List NQ)(c:NQ):List NQ:=(List.range xs.length).map fun k=>oD (xs.getD k []) (dK v c (ys.getD k []))
theorem gA(v:List NQ)(xs ys:List NQ)(c:NQ):(eT v xs ys c).length=xs.length:=by unfold eT;rw[ae,List.length_range]
theorem iH(v:List NQ)(xs ys:List NQ)(c:NQ){k:Nat}(h:k<xs.length):(eT v xs ys c).getD k []=oD (xs.getD k []) (dK v c (ys.getD k [])):=by
 unfold eT;rw[aE,List.getElem?_map,List.getElem?_range h];rfl
def Bu(v:List NQ)(xs ys:List NQ)(c:NQ):Prop:= ∀k,k<xs.length→vn v c (ys.getD k [])∧Ey (xs.getD k []) (dK v c (ys.getD k []))
def DU(V1 V2:Value)(zs ys:List NQ)(res:D)(R':List LR):Prop:=res=aP∧R'=[(V1,eO zs),(V2,eO ys)]
theorem ja{v:List NQ}(V:k8 v){a b:NQ}(ha:aC v.length a)(hb:aC v.length b):aC v.length (dK v a b):=bf (fp v.length ha hb V.ro (ak _))
theorem Gh{l:Nat}{a b:NQ}(ha:aC l a)(hb:aC l b):aC l (oD a b):=bf (ha.plus hb.minus)
theorem uq{v:List NQ}(V:k8 v){a b:NQ}(ha:aC v.length a)(hb:aC v.length b):aC v.length (mT v a b):=bf (fp v.length ha (fX v.length hb V.ro (ak _)) V.ro (ak _))
set_option maxHeartbeats 3200000 in
theorem vA(V1 V2:Value){v:List NQ}(V:k8 v){xs ys:List NQ}{c:NQ}(hl:ys.length=xs.length)(hl0:0<xs.length)(hl1:xs.length≤1000000)(hx: ∀k,aC v.length (xs.getD k []))(hy: ∀k,aC v.length (ys.getD k []))(hc:aC v.length c)(ok:Bu v xs ys c):
  jn Tryz.prog 90 [bt v,.v V1,.v V2,ah c] [(V1,eO xs),(V2,eO ys)] (DU V1 V2 (eT v xs ys c) ys):=by
 refine jn.intro (n:=47) tok Tryz.func90 rfl rfl rfl (Nat.le_of_ble_eq_true rfl) (by kernel_rfl) (fun B F0 w0=>?_);have hz:=gA v xs ys c;obtain ⟨zs,hzs⟩: ∃zs,eT v xs ys c=zs:=⟨_,rfl⟩;rw[hzs] at hz ⊢;refine AZ.seq (AZ.cQ (fun B1 F1 w1=>?_));refine qU 2 rfl ?_;refine ab.nil ⟨rfl,?_⟩;refine AZ.seq (AZ.seq ?_);refine AZ.rG (fun B1 F1 w1 hS=>?_);refine qU 1 rfl ?_;refine ab.lens tok (hS.at (i:=0) rfl (by rw[ae];exact hl0)) rfl rfl rfl rfl ?_;refine qU 1 rfl ?_;rw[ae];refine ab.nil ⟨rfl,?_⟩;refine AZ.block ?_;refine AZ.aG [1,2,3,4,13,14] (fun i:Nat=>([(V1,eO (ir zs xs i)),(V2,eO ys)],[(1,.d (.v V1)),(2,.d (.v V2)),(3,.d (ah c)),(4,.bx [.sl 1 (v.map ah)]),(13,.d (dI xs.length)),(14,.d (dI i))])) (fun i=>i≤xs.length) (fun i=>xs.length-i) 0 (by rw[rS];rfl) (Nat.zero_le _) (fun i hi=>?_)
 · show AZ _ _ _ _ _ _ _ [(V1,eO (ir zs xs i)),(V2,eO ys)] [(1,.d (.v V1)),(2,.d (.v V2)),(3,.d (ah c)),(4,.bx [.sl 1 (v.map ah)]),(13,.d (dI xs.length)),(14,.d (dI i))];refine AZ.seq (AZ.cQ (fun B1 F1 w1=>?_));refine qU 1 rfl ?_;refine ab.nil ⟨rfl,?_⟩;refine AZ.seq ?_;refine AZ.cond rfl (fun h=>?_) (fun h=>?_)
   · have hin:i<xs.length:=by have:=aq h;omega
     have hpl:=qx hz (i:=i) (by omega);have hpg:=vy hz hin [];have hps:=vx hz hin (d:=[]) (show zs.getD i []=oD (xs.getD i []) (dK v c (ys.getD i [])) by rw[← hzs];exact iH v xs ys c hin);have hyi:i<ys.length:=by omega
     obtain ⟨okm,oks⟩:=ok i hin;have cm:=pa V hc (hy i) okm;have cs:=AY V (hx i) (ja V hc (hy i)) oks;generalize ir zs xs i=ps at *;generalize hX:xs.getD i []=X at *;generalize hY:ys.getD i []=Y at *;generalize dK v c Y=M at *;generalize oD X M=S at *;refine AZ.skip (AZ.seq ?_);refine AZ.block (AZ.seq ?_);refine AZ.cQ (fun B1 F1 w1=>?_);refine qU 2 rfl ?_;refine ab.nil ⟨rfl,?_⟩;refine AZ.seq (AZ.any aQ (iy.kP 11 (by kernel_rfl) (fun B1 F1 w1 hS=>?_)));have hS2:=hS.at (i:=1) rfl (by rw[ae];omega);refine qP 4 rfl ?_;refine af.idxs tok hS2 rfl rfl rfl rfl rfl (aj i) (by rw[ae];exact hyi) ?_;refine af.bc tok (ah (ys.getD i [])) hS2 rfl rfl rfl rfl rfl rfl rfl (getM ah hyi) rfl ?_;rw[hY];refine af.call tok rfl rfl rfl rfl rfl cm ?_;refine qP 4 rfl ?_;refine af.nil ⟨rfl,?_⟩;refine ai.cut 1 rfl (fun B1 F1 w1=>?_);refine qU 1 rfl ?_;refine ab.nil ⟨rfl,?_⟩;refine ai.nil ?_;refine AZ.to [1,2,3,4,9,10,11,13,14] [(1,.d (.v V1)),(2,.d (.v V2)),(3,.d (ah c)),(4,.bx [.sl 1 (v.map ah)]),(9,.d (dI i)),(10,.d (ah M)),(11,.d aP),(13,.d (dI xs.length)),(14,.d (dI i))] rfl ?_;refine AZ.seq (AZ.seq ?_);refine AZ.cQ (fun B1 F1 w1=>?_);refine qU 1 rfl ?_;refine ab.err tok rfl rfl rfl rfl rfl ?_;refine ab.nil ⟨rfl,?_⟩;refine AZ.aA rfl ?_;refine AZ.skip (AZ.seq ?_);refine AZ.any aQ (ZH.any (β:=[]) ?_);refine ZH.mv 0 rfl rfl (by kernel_rfl) (by kernel_rfl) (by kernel_rfl) rfl (fun _ _ _ h=>h) (fun _=>rfl) trivial (fun B1 F1 w1=>?_);refine qU 1 rfl ?_;refine ab.nil ⟨rfl,?_⟩;refine ZH.mv 1 rfl rfl (by kernel_rfl) (by kernel_rfl) (by kernel_rfl) rfl (fun _ _ _ h=>h) (fun _=>rfl) trivial (fun B1 F1 w1=>?_);refine qU 1 rfl ?_;refine ab.nil ⟨rfl,?_⟩;refine ZH.mv 3 rfl rfl (by kernel_rfl) (by kernel_rfl) (by kernel_rfl) rfl (fun _ _ _ h=>h) (fun _=>rfl) trivial (fun B1 F1 w1=>?_);refine qU 1 rfl ?_;refine ab.nil ⟨rfl,?_⟩;refine ZH.mv 4 rfl rfl (by kernel_rfl) (by kernel_rfl) (by kernel_rfl) rfl (fun _ _ _ h=>h) (fun _=>rfl) trivial (fun B1 F1 w1=>?_);refine qU 1 rfl ?_;refine ab.nil ⟨rfl,?_⟩;refine ZH.mv 7 rfl rfl (by kernel_rfl) (by kernel_rfl) (by kernel_rfl) rfl (fun _ _ _ h=>h) (fun _=>rfl) trivial (fun B1 F1 w1=>?_);refine qU 1 rfl ?_;refine ab.nil ⟨rfl,?_⟩;refine ZH.meet 0 (qB 15 32767) (fun V=>[(V1,eO (ir zs xs (i+1))),(V2,eO ys)]) (fun V=>[(1,.d (.v V1)),(2,.d (.v V2)),(3,.d (ah c)),(4,.bx [.sl 1 (v.map ah)]),(9,.d (dI i)),(10,.d (ah M)),(13,.d (dI xs.length)),(14,.d (dI i)),(31,.d (.v V1)),(32,.d (dI i)),(34,.d (.v V1)),(35,.d (dI i)),(38,.d (ah M)),(33,.d (bt v)),(36,.d (.v (eV V1 (i*1)))),(37,.d (ah X)),(39,.d (.tu [ah S,aP])),(30,.d (.tu [ah S,aP])),(40,.d (ah S)),(41,.d aP),(11,.d aP)]) (fun V=>?_) (fun N1_2_5_1_1=>?_)
     · refine ZH.done (by kernel_rfl) trivial ?_;refine AZ.to [1,2,3,4,11,13,14] [(1,.d (.v V1)),(2,.d (.v V2)),(3,.d (ah c)),(4,.bx [.sl 1 (v.map ah)]),(11,.d aP),(13,.d (dI xs.length)),(14,.d (dI i))] rfl ?_;refine AZ.seq (AZ.cQ (fun B1 F1 w1=>?_));refine qU 1 rfl ?_;refine ab.err tok rfl rfl rfl rfl rfl ?_;refine ab.nil ⟨rfl,?_⟩;refine AZ.aA rfl ?_;refine AZ.skip (AZ.cQ (fun B1 F1 w1=>?_));refine qU 1 rfl ?_;rw[aF (x:=(i:Int)+1) (by omega) (by omega)];refine qU 1 rfl ?_;refine ab.nil ⟨rfl,?_⟩;exact⟨i+1,rfl,hin,by omega⟩
     refine ZH.meet 1 (qB 15 16383) (fun V=>[(V1,eO (ir zs xs (i+1))),(V2,eO ys)]) (fun V=>[(1,.d (.v V1)),(2,.d (.v V2)),(3,.d (ah c)),(4,.bx [.sl 1 (v.map ah)]),(9,.d (dI i)),(10,.d (ah M)),(13,.d (dI xs.length)),(14,.d (dI i)),(31,.d (.v V1)),(32,.d (dI i)),(34,.d (.v V1)),(35,.d (dI i)),(38,.d (ah M)),(33,.d (bt v)),(36,.d (.v (eV V1 (i*1)))),(37,.d (ah X)),(39,.d (.tu [ah S,aP])),(30,.d (.tu [ah S,aP])),(40,.d (ah S)),(41,.d aP)]) (fun V=>?_) (fun N1_2_5_1_0=>?_)
     · refine ZH.all 14 (by kernel_rfl) rfl rfl (fun _=>rfl) trivial ?_;refine aD (fun B1 F1 w1=>?_);refine qU 1 rfl ?_;refine ab.nil ⟨rfl,?_⟩;exact qL (N1_2_5_1_1 V) (by kernel_rfl) rfl trivial
     refine ZH.meet 2 (qB 15 8191) (fun V=>[(V1,eO ps),(V2,eO ys)]) (fun V=>[(1,.d (.v V1)),(2,.d (.v V2)),(3,.d (ah c)),(4,.bx [.sl 1 (v.map ah)]),(9,.d (dI i)),(10,.d (ah M)),(13,.d (dI xs.length)),(14,.d (dI i)),(31,.d (.v V1)),(32,.d (dI i)),(34,.d (.v V1)),(35,.d (dI i)),(38,.d (ah M)),(33,.d (bt v)),(36,.d (.v (eV V1 (i*1)))),(37,.d (ah X)),(39,.d (.tu [ah S,aP])),(30,.d (.tu [ah S,aP])),(40,.d (ah S)),(42,.d (.v (eV V1 (i*1)))),(41,.d aP)]) (fun V=>?_) (fun N1_2_4_1_0=>?_)
     · refine ZH.all 13 (by kernel_rfl) rfl rfl (fun _=>rfl) trivial ?_;refine ai.c8 31 0 rfl rfl rfl ?_;refine ai.el tok 31 42 rfl (List.Mem.head _) rfl rfl rfl (by rw[ae,hpl];exact hin) rfl ?_;refine ai.cut 1 rfl (fun B1 F1 w1=>?_);refine ab.m7 tok S rfl rfl rfl (by omega) ?_;rw[hps];refine ab.nil ⟨rfl,?_⟩;refine ai.back 31 0 rfl rfl rfl (List.Mem.head _) rfl ?_;refine ai.nil ?_;exact qL (N1_2_5_1_0 V) (by kernel_rfl) rfl trivial
     refine ZH.meet 2 (qB 15 14335) (fun V=>[(V1,eO (ir zs xs (i+1))),(V2,eO ys)]) (fun V=>[(1,.d (.v V1)),(2,.d (.v V2)),(3,.d (ah c)),(4,.bx [.sl 1 (v.map ah)]),(9,.d (dI i)),(10,.d (ah M)),(13,.d (dI xs.length)),(14,.d (dI i)),(31,.d (.v V1)),(32,.d (dI i)),(34,.d (.v V1)),(35,.d (dI i)),(38,.d (ah M)),(33,.d (bt v)),(36,.d (.v (eV V1 (i*1)))),(37,.d (ah X)),(39,.d (.tu [ah S,aP])),(30,.d (.tu [ah S,aP])),(40,.d (ah S))]) (fun V=>?_) (fun N1_2_5_0_0=>?_)
     · refine ZH.all 11 (by kernel_rfl) rfl rfl (fun _=>rfl) trivial ?_;refine aD (fun B1 F1 w1=>?_);refine qU 1 rfl ?_;refine ab.nil ⟨rfl,?_⟩;exact qL (N1_2_5_1_0 V) (by kernel_rfl) rfl trivial
     refine ZH.meet 3 (qB 15 4095) (fun V=>[(V1,eO ps),(V2,eO ys)]) (fun V=>[(1,.d (.v V1)),(2,.d (.v V2)),(3,.d (ah c)),(4,.bx [.sl 1 (v.map ah)]),(9,.d (dI i)),(10,.d (ah M)),(13,.d (dI xs.length)),(14,.d (dI i)),(31,.d (.v V1)),(32,.d (dI i)),(34,.d (.v V1)),(35,.d (dI i)),(38,.d (ah M)),(33,.d (bt v)),(36,.d (.v (eV V1 (i*1)))),(37,.d (ah X)),(39,.d (.tu [ah S,aP])),(30,.d (.tu [ah S,aP])),(40,.d (ah S)),(41,.d aP)]) (fun V=>?_) (fun N1_2_3_1_0=>?_)
     · refine ZH.all 12 (by kernel_rfl) rfl rfl (fun _=>rfl) trivial ?_;refine bG (fun B1 F1 w1 hS=>?_);refine ab.idxs tok (hS.at (i:=0) rfl (by rw[ae];omega)) rfl rfl rfl rfl (aj i) (by rw[ae,hpl];exact hin) ?_;refine ab.nil ⟨rfl,?_⟩;exact qL (N1_2_4_1_0 V) (by kernel_rfl) rfl trivial
     refine ZH.meet 3 (qB 15 6143) (fun V=>[(V1,eO ps),(V2,eO ys)]) (fun V=>[(1,.d (.v V1)),(2,.d (.v V2)),(3,.d (ah c)),(4,.bx [.sl 1 (v.map ah)]),(9,.d (dI i)),(10,.d (ah M)),(13,.d (dI xs.length)),(14,.d (dI i)),(31,.d (.v V1)),(32,.d (dI i)),(34,.d (.v V1)),(35,.d (dI i)),(38,.d (ah M)),(33,.d (bt v)),(36,.d (.v (eV V1 (i*1)))),(37,.d (ah X)),(39,.d (.tu [ah S,aP])),(30,.d (.tu [ah S,aP])),(40,.d (ah S)),(42,.d (.v (eV V1 (i*1))))]) (fun V=>?_) (fun N1_2_4_0_0=>?_)
     · refine ZH.two 11 13 (by kernel_rfl) rfl rfl rfl rfl (fun _=>rfl) (fun _=>rfl) trivial ?_ ?_
       · refine aD (fun B1 F1 w1=>?_);refine qU 1 rfl ?_;refine ab.nil ⟨rfl,?_⟩;exact qL (N1_2_4_1_0 V) (by kernel_rfl) rfl trivial
       · refine ai.c8 31 0 rfl rfl rfl ?_;refine ai.el tok 31 42 rfl (List.Mem.head _) rfl rfl rfl (by rw[ae,hpl];exact hin) rfl ?_;refine ai.cut 1 rfl (fun B1 F1 w1=>?_);refine ab.m7 tok S rfl rfl rfl (by omega) ?_;rw[hps];refine ab.nil ⟨rfl,?_⟩;refine ai.back 31 0 rfl rfl rfl (List.Mem.head _) rfl ?_;refine ai.nil ?_;exact qL (N1_2_5_0_0 V) (by kernel_rfl) rfl trivial
     refine ZH.meet 4 (qB 15 3071) (fun V=>[(V1,eO ps),(V2,eO ys)]) (fun V=>[(1,.d (.v V1)),(2,.d (.v V2)),(3,.d (ah c)),(4,.bx [.sl 1 (v.map ah)]),(9,.d (dI i)),(10,.d (ah M)),(13,.d (dI xs.length)),(14,.d (dI i)),(31,.d (.v V1)),(32,.d (dI i)),(34,.d (.v V1)),(35,.d (dI i)),(38,.d (ah M)),(33,.d (bt v)),(36,.d (.v (eV V1 (i*1)))),(37,.d (ah X)),(39,.d (.tu [ah S,aP])),(30,.d (.tu [ah S,aP])),(41,.d aP)]) (fun V=>?_) (fun N1_2_2_1_0=>?_)
     · refine ZH.all 10 (by kernel_rfl) rfl rfl (fun _=>rfl) trivial ?_;refine aD (fun B1 F1 w1=>?_);refine qU 1 rfl ?_;refine ab.nil ⟨rfl,?_⟩;exact qL (N1_2_3_1_0 V) (by kernel_rfl) rfl trivial
     refine ZH.meet 4 (qB 15 2047) (fun V=>[(V1,eO ps),(V2,eO ys)]) (fun V=>[(1,.d (.v V1)),(2,.d (.v V2)),(3,.d (ah c)),(4,.bx [.sl 1 (v.map ah)]),(9,.d (dI i)),(10,.d (ah M)),(13,.d (dI xs.length)),(14,.d (dI i)),(31,.d (.v V1)),(32,.d (dI i)),(34,.d (.v V1)),(35,.d (dI i)),(38,.d (ah M)),(33,.d (bt v)),(36,.d (.v (eV V1 (i*1)))),(37,.d (ah X)),(39,.d (.tu [ah S,aP])),(30,.d (.tu [ah S,aP])),(40,.d (ah S))]) (fun V=>?_) (fun N1_2_3_0_0=>?_)
     · refine ZH.two 11 12 (by kernel_rfl) rfl rfl rfl rfl (fun _=>rfl) (fun _=>rfl) trivial ?_ ?_
       · refine aD (fun B1 F1 w1=>?_);refine qU 1 rfl ?_;refine ab.nil ⟨rfl,?_⟩;exact qL (N1_2_3_1_0 V) (by kernel_rfl) rfl trivial
       · refine bG (fun B1 F1 w1 hS=>?_);refine ab.idxs tok (hS.at (i:=0) rfl (by rw[ae];omega)) rfl rfl rfl rfl (aj i) (by rw[ae,hpl];exact hin) ?_;refine ab.nil ⟨rfl,?_⟩;exact qL (N1_2_4_0_0 V) (by kernel_rfl) rfl trivial
     refine ZH.meet 5 (qB 15 1023) (fun V=>[(V1,eO ps),(V2,eO ys)]) (fun V=>[(1,.d (.v V1)),(2,.d (.v V2)),(3,.d (ah c)),(4,.bx [.sl 1 (v.map ah)]),(9,.d (dI i)),(10,.d (ah M)),(13,.d (dI xs.length)),(14,.d (dI i)),(31,.d (.v V1)),(32,.d (dI i)),(34,.d (.v V1)),(35,.d (dI i)),(38,.d (ah M)),(33,.d (bt v)),(36,.d (.v (eV V1 (i*1)))),(37,.d (ah X)),(39,.d (.tu [ah S,aP])),(30,.d (.tu [ah S,aP]))]) (fun V=>?_) (fun N1_2_2_0_0=>?_)
     · refine ZH.two 10 11 (by kernel_rfl) rfl rfl rfl rfl (fun _=>rfl) (fun _=>rfl) trivial ?_ ?_
       · refine aD (fun B1 F1 w1=>?_);refine qU 1 rfl ?_;refine ab.nil ⟨rfl,?_⟩;exact qL (N1_2_3_0_0 V) (by kernel_rfl) rfl trivial
       · refine aD (fun B1 F1 w1=>?_);refine qU 1 rfl ?_;refine ab.nil ⟨rfl,?_⟩;exact qL (N1_2_2_1_0 V) (by kernel_rfl) rfl trivial
     refine ZH.meet 6 (qB 15 511) (fun V=>[(V1,eO ps),(V2,eO ys)]) (fun V=>[(1,.d (.v V1)),(2,.d (.v V2)),(3,.d (ah c)),(4,.bx [.sl 1 (v.map ah)]),(9,.d (dI i)),(10,.d (ah M)),(13,.d (dI xs.length)),(14,.d (dI i)),(31,.d (.v V1)),(32,.d (dI i)),(34,.d (.v V1)),(35,.d (dI i)),(38,.d (ah M)),(33,.d (bt v)),(36,.d (.v (eV V1 (i*1)))),(37,.d (ah X)),(39,.d (.tu [ah S,aP]))]) (fun V=>?_) (fun N1_2_1_0_0=>?_)
     · refine ZH.all 9 (by kernel_rfl) rfl rfl (fun _=>rfl) trivial ?_;refine aD (fun B1 F1 w1=>?_);refine qU 1 rfl ?_;refine ab.nil ⟨rfl,?_⟩;exact qL (N1_2_2_0_0 V) (by kernel_rfl) rfl trivial
     refine ZH.meet 7 (qB 15 255) (fun V=>[(V1,eO ps),(V2,eO ys)]) (fun V=>[(1,.d (.v V1)),(2,.d (.v V2)),(3,.d (ah c)),(4,.bx [.sl 1 (v.map ah)]),(9,.d (dI i)),(10,.d (ah M)),(13,.d (dI xs.length)),(14,.d (dI i)),(31,.d (.v V1)),(32,.d (dI i)),(34,.d (.v V1)),(35,.d (dI i)),(38,.d (ah M)),(33,.d (bt v)),(36,.d (.v (eV V1 (i*1)))),(37,.d (ah X))]) (fun V=>?_) (fun N1_2_0_0_0=>?_)
     · refine ZH.all 8 (by kernel_rfl) rfl rfl (fun _=>rfl) trivial ?_;refine aD (fun B1 F1 w1=>?_);refine ab.call tok rfl rfl rfl rfl cs ?_;refine ab.nil ⟨rfl,?_⟩;exact qL (N1_2_1_0_0 V) (by kernel_rfl) rfl trivial
     refine ZH.meet 8 (qB 15 251) (fun V=>[(V1,eO ps),(V2,eO ys)]) (fun V=>[(1,.d (.v V1)),(2,.d (.v V2)),(3,.d (ah c)),(4,.bx [.sl 1 (v.map ah)]),(9,.d (dI i)),(10,.d (ah M)),(13,.d (dI xs.length)),(14,.d (dI i)),(31,.d (.v V1)),(32,.d (dI i)),(34,.d (.v V1)),(35,.d (dI i)),(38,.d (ah M)),(36,.d (.v (eV V1 (i*1)))),(37,.d (ah X))]) (fun V=>?_) (fun N0_2_0_0_0=>?_)
     · refine ZH.all 2 (by kernel_rfl) rfl rfl (fun _=>rfl) trivial ?_;refine aD (fun B1 F1 w1=>?_);refine qU 1 rfl ?_;refine ab.nil ⟨rfl,?_⟩;exact qL (N1_2_0_0_0 V) (by kernel_rfl) rfl trivial
     refine ZH.meet 8 (qB 15 191) (fun V=>[(V1,eO ps),(V2,eO ys)]) (fun V=>[(1,.d (.v V1)),(2,.d (.v V2)),(3,.d (ah c)),(4,.bx [.sl 1 (v.map ah)]),(9,.d (dI i)),(10,.d (ah M)),(13,.d (dI xs.length)),(14,.d (dI i)),(31,.d (.v V1)),(32,.d (dI i)),(34,.d (.v V1)),(35,.d (dI i)),(38,.d (ah M)),(33,.d (bt v)),(36,.d (.v (eV V1 (i*1))))]) (fun V=>?_) (fun N1_1_0_0_0=>?_)
     · refine ZH.all 6 (by kernel_rfl) rfl rfl (fun _=>rfl) trivial ?_;refine bG (fun B1 F1 w1 hS=>?_);refine ab.bc tok (ah (ps.getD i [])) (hS.at (i:=0) rfl (by rw[ae];omega)) rfl rfl rfl rfl rfl rfl (getM ah (by omega)) rfl ?_;rw[hpg];refine ab.nil ⟨rfl,?_⟩;exact qL (N1_2_0_0_0 V) (by kernel_rfl) rfl trivial
     refine ZH.meet 9 (qB 15 187) (fun V=>[(V1,eO ps),(V2,eO ys)]) (fun V=>[(1,.d (.v V1)),(2,.d (.v V2)),(3,.d (ah c)),(4,.bx [.sl 1 (v.map ah)]),(9,.d (dI i)),(10,.d (ah M)),(13,.d (dI xs.length)),(14,.d (dI i)),(31,.d (.v V1)),(32,.d (dI i)),(34,.d (.v V1)),(35,.d (dI i)),(38,.d (ah M)),(36,.d (.v (eV V1 (i*1))))]) (fun V=>?_) (fun N0_1_0_0_0=>?_)
     · refine ZH.two 2 6 (by kernel_rfl) rfl rfl rfl rfl (fun _=>rfl) (fun _=>rfl) trivial ?_ ?_
       · refine aD (fun B1 F1 w1=>?_);refine qU 1 rfl ?_;refine ab.nil ⟨rfl,?_⟩;exact qL (N1_1_0_0_0 V) (by kernel_rfl) rfl trivial
       · refine bG (fun B1 F1 w1 hS=>?_);refine ab.bc tok (ah (ps.getD i [])) (hS.at (i:=0) rfl (by rw[ae];omega)) rfl rfl rfl rfl rfl rfl (getM ah (by omega)) rfl ?_;rw[hpg];refine ab.nil ⟨rfl,?_⟩;exact qL (N0_2_0_0_0 V) (by kernel_rfl) rfl trivial
     refine ZH.meet 9 (qB 15 159) (fun V=>[(V1,eO ps),(V2,eO ys)]) (fun V=>[(1,.d (.v V1)),(2,.d (.v V2)),(3,.d (ah c)),(4,.bx [.sl 1 (v.map ah)]),(9,.d (dI i)),(10,.d (ah M)),(13,.d (dI xs.length)),(14,.d (dI i)),(31,.d (.v V1)),(32,.d (dI i)),(34,.d (.v V1)),(35,.d (dI i)),(38,.d (ah M)),(33,.d (bt v))]) (fun V=>?_) (fun N1_0_0_0_0=>?_)
     · refine ZH.all 5 (by kernel_rfl) rfl rfl (fun _=>rfl) trivial ?_;refine bG (fun B1 F1 w1 hS=>?_);refine ab.idxs tok (hS.at (i:=0) rfl (by rw[ae];omega)) rfl rfl rfl rfl (aj i) (by rw[ae,hpl];exact hin) ?_;refine ab.nil ⟨rfl,?_⟩;exact qL (N1_1_0_0_0 V) (by kernel_rfl) rfl trivial
     refine ZH.meet 10 (qB 15 155) (fun V=>[(V1,eO ps),(V2,eO ys)]) (fun V=>[(1,.d (.v V1)),(2,.d (.v V2)),(3,.d (ah c)),(4,.bx [.sl 1 (v.map ah)]),(9,.d (dI i)),(10,.d (ah M)),(13,.d (dI xs.length)),(14,.d (dI i)),(31,.d (.v V1)),(32,.d (dI i)),(34,.d (.v V1)),(35,.d (dI i)),(38,.d (ah M))]) (fun V=>?_) (fun N0_0_0_0_0=>?_)
     · refine ZH.two 2 5 (by kernel_rfl) rfl rfl rfl rfl (fun _=>rfl) (fun _=>rfl) trivial ?_ ?_
       · refine aD (fun B1 F1 w1=>?_);refine qU 1 rfl ?_;refine ab.nil ⟨rfl,?_⟩;exact qL (N1_0_0_0_0 V) (by kernel_rfl) rfl trivial
       · refine bG (fun B1 F1 w1 hS=>?_);refine ab.idxs tok (hS.at (i:=0) rfl (by rw[ae];omega)) rfl rfl rfl rfl (aj i) (by rw[ae,hpl];exact hin) ?_;refine ab.nil ⟨rfl,?_⟩;exact qL (N0_1_0_0_0 V) (by kernel_rfl) rfl trivial
     exact qL (N0_0_0_0_0 gQ) (by kernel_rfl) rfl trivial
   have hin:i=xs.length:=by have:=au h;omega
   subst hin;rw[vz hz];refine AZ.exit ?_;refine AZ.seq (AZ.cQ (fun B1 F1 w1=>?_));refine qU 1 rfl ?_;refine ab.nil ⟨rfl,?_⟩;exact AZ.ret ⟨aP,rfl,rfl,rfl⟩
end Lift
namespace Lift
abbrev a6:=List (List NQ)
structure im where
 rows:a6
 cols:List Nat
 sg:Int
 cE:NQ
def gR(g:Nat→Bool):Nat→Nat→Nat
 | 0,i=>i
 | m+1,i=>if g i=true then i else gR g m (i+1)
theorem ot{g:Nat→Bool}{n i:Nat}(h:i<n)(h0:g i=false):gR g (n-i) i=gR g (n-(i+1)) (i+1):=by
 rw[show n-i=(n-(i+1))+1 by omega,gR,if_neg (by rw[h0];simp)]
theorem qS{g:Nat→Bool}{n i:Nat}(h:i<n)(h0:g i=true):gR g (n-i) i=i:=by
 rw[show n-i=(n-(i+1))+1 by omega,gR,if_pos h0]
theorem qV{g:Nat→Bool}{n i:Nat}(h: ¬i<n):gR g (n-i) i=i:=by rw[show n-i=0 by omega,gR]
theorem lM{g:Nat→Bool}: ∀{m i:Nat},i≤gR g m i∧gR g m i≤i+m∧(∀k,i≤k→k<gR g m i→g k=false)∧(gR g m i<i+m→g (gR g m i)=true)
 | 0,i=>⟨ak _,ak _,fun k h1 h2=>by simp only[gR] at h2;omega,fun h=>by simp only[gR] at h;omega⟩
 | m+1,i=>by
   simp only[gR];split
   · rename_i h;exact⟨ak _,by omega,fun k h1 h2=>by omega,fun _=>h⟩
   · rename_i h;obtain ⟨h1,h2,h3,h4⟩:=lM (g:=g) (m:=m) (i:=i+1);refine⟨by omega,by omega,fun k k1 k2=>?_,fun k=>h4 (by omega)⟩;by_cases e:k=i
     · subst e;simpa using h
     · exact h3 k (by omega) k2
def aS(a:a6)(i k:Nat):NQ:=(a.getD i []).getD k []
def Dh(v:List NQ)(a:a6)(c j:Nat):Bool:=decide (fi v (aS a j c)≠0)
def zf(b:a6)(r t:Nat):a6:=(b.set t (b.getD r [])).set r (b.getD t [])
def cD(v:List NQ)(e:a6)(r c:Nat):Nat→a6
 | 0=>e
 | i+1=>if i≠r∧fi v (aS (cD v e r c i) i c)≠0 then (cD v e r c i).set i (eT v ((cD v e r c i).getD i []) ((cD v e r c i).getD r []) (aS (cD v e r c i) i c)) else cD v e r c i
def atR(v:List NQ)(s:im)(c:Nat):Nat:=gR (Dh v s.rows c) (s.rows.length-s.cols.length) s.cols.length
def bR(v:List NQ)(s:im)(c:Nat):a6:=if atR v s c=s.cols.length then s.rows else zf s.rows s.cols.length (atR v s c)
def pR(v:List NQ)(s:im)(c:Nat):NQ:=aS (bR v s c) s.cols.length c
def yr(v:List NQ)(r:List NQ)(p:NQ):List NQ:=r.map (fun x=>mT v x p)
def eR(v:List NQ)(s:im)(c:Nat):a6:=(bR v s c).set s.cols.length (yr v ((bR v s c).getD s.cols.length []) (pR v s c))
def cT(v:List NQ)(s:im)(c:Nat):im :=
 if atR v s c<s.rows.length then ⟨cD v (eR v s c) s.cols.length c (eR v s c).length,s.cols++[c],if atR v s c=s.cols.length then s.sg else -s.sg,dK v s.cE (pR v s c)⟩ else s
def aB(v:List NQ)(a:a6):Nat→im
 | 0=>⟨a,[],1,[1]⟩
 | c+1=>cT v (aB v a c) c
structure kZ (v:List NQ) (s:im) (c:Nat):Prop where
 sg: ∀j,s.cols.length≤j→j<s.rows.length→vm v (aS s.rows j c)
 cE:atR v s c<s.rows.length→vn v s.cE (pR v s c)
 div:atR v s c<s.rows.length→ ∀k,k<((bR v s c).getD s.cols.length []).length→ED v (aS (bR v s c) s.cols.length k) (pR v s c)
 sg2:atR v s c<s.rows.length→ ∀i,i<s.rows.length→i≠s.cols.length→vm v (aS (eR v s c) i c)
 take:atR v s c<s.rows.length→ ∀i,i<s.rows.length→i≠s.cols.length→fi v (aS (eR v s c) i c)≠0→Bu v ((eR v s c).getD i []) ((eR v s c).getD s.cols.length []) (aS (eR v s c) i c)
def bk(N:Nat)(a:a6):Prop:= ∀j,j<a.length→(a.getD j []).length=N
def jC(l:Nat)(a:a6):Prop:= ∀j k,aC l (aS a j k)
theorem eM(a:a6)(i j:Nat)(r:List NQ):(a.set i r).getD j []=if j=i∧i<a.length then r else a.getD j []:=by
 rw[aE,List.getElem?_set,aE];by_cases e:i=j
 · subst e;by_cases h:i<a.length
   · rw[if_pos rfl,if_pos h,if_pos ⟨rfl,h⟩];rfl
   · rw[if_pos rfl,if_neg h,if_neg (fun e=>h e.2),List.getElem?_eq_none (by omega)]
 · rw[if_neg e,if_neg (fun h=>e h.1.symm)]
theorem gk{a:a6}{i:Nat}(h:a.length≤i):a.getD i []=[]:=by rw[aE,List.getElem?_eq_none h];rfl
theorem my{r:List NQ}{i:Nat}(h:r.length≤i):r.getD i []=[]:=by rw[aE,List.getElem?_eq_none h];rfl
theorem bk.set{N:Nat}{a:a6}(h:bk N a){r:List NQ}(hr:r.length=N)(i:Nat):bk N (a.set i r):=fun j hj=>by
 rw[eM];split
 · exact hr
 · exact h j (by simpa using hj)
theorem jC.set{l:Nat}{a:a6}(h:jC l a){r:List NQ}(hr: ∀k,aC l (r.getD k []))(i:Nat):jC l (a.set i r):=fun j k=>by
 unfold aS;rw[eM];split
 · exact hr k
 · exact h j k
theorem Ch(b:a6)(r t:Nat):(zf b r t).length=b.length:=by unfold zf;rw[List.length_set,List.length_set]
theorem ze{N:Nat}{b:a6}(h:bk N b){r t:Nat}(hr:r<b.length)(ht:t<b.length):bk N (zf b r t):=(h.set (h r hr) t).set (h t ht) r
theorem DZ{l:Nat}{b:a6}(h:jC l b)(r t:Nat):jC l (zf b r t):=(h.set (h r) t).set (h t) r
theorem qu(v:List NQ)(r:List NQ)(p:NQ):(yr v r p).length=r.length:=ae ..
theorem qv(v:List NQ)(r:List NQ)(p:NQ){k:Nat}(h:k<r.length):(yr v r p).getD k []=mT v (r.getD k []) p:=by
 unfold yr;rw[aE,List.getElem?_map,aE,a8 h];rfl
theorem Il{v:List NQ}(V:k8 v){r:List NQ}{p:NQ}(hr: ∀k,aC v.length (r.getD k []))(hp:aC v.length p)(k:Nat):aC v.length ((yr v r p).getD k []):=by
 by_cases h:k<r.length
 · rw[qv v r p h];exact uq V (hr k) hp
 · rw[my (by rw[qu];omega)];exact bm _
theorem za{v:List NQ}(V:k8 v){xs ys:List NQ}{c:NQ}(hx: ∀k,aC v.length (xs.getD k []))(hy: ∀k,aC v.length (ys.getD k []))(hc:aC v.length c)(k:Nat):aC v.length ((eT v xs ys c).getD k []):=by
 by_cases h:k<xs.length
 · rw[iH v xs ys c h];exact Gh (hx k) (ja V hc (hy k))
 · rw[my (by rw[gA];omega)];exact bm _
theorem kj(v:List NQ)(e:a6)(r c:Nat): ∀i,(cD v e r c i).length=e.length
 | 0=>rfl
 | i+1=>by
   unfold cD;split
   · rw[List.length_set];exact kj v e r c i
   · exact kj v e r c i
theorem ox{N:Nat}{v:List NQ}{e:a6}{r c:Nat}(h:bk N e): ∀i,i≤e.length→bk N (cD v e r c i)
 | 0,_=>h
 | i+1,hi=>by
   have ih:=ox (v:=v) (r:=r) (c:=c) h i (by omega);unfold cD;split
   · exact ih.set (by rw[gA];exact ih i (by rw[kj];omega)) i
   · exact ih
theorem ur{v:List NQ}(V:k8 v){e:a6}{r c:Nat}(h:jC v.length e): ∀i,jC v.length (cD v e r c i)
 | 0=>h
 | i+1=>by
   have ih:=ur V (r:=r) (c:=c) h i;unfold cD;split
   · exact ih.set (za V (ih i) (ih r) (ih i c)) i
   · exact ih
theorem fJ(v:List NQ)(e:a6)(r c:Nat): ∀i,(∀j,i≤j∨j=r→(cD v e r c i).getD j []=e.getD j [])
 | 0,j,_=>rfl
 | i+1,j,hj=>by
   have ih:=fJ v e r c i j (by omega);unfold cD;split
   · rename_i h;rw[eM,if_neg (fun g=>by rcases hj with hj | hj<;>omega)];exact ih
   · exact ih
theorem uu(v:List NQ)(e:a6)(r c:Nat)(i:Nat)(k:Nat):aS (cD v e r c i) i k=aS e i k:=by unfold aS;rw[fJ v e r c i i (.inl (ak _))]
structure o7 (v:List NQ) (m N c:Nat) (s:im):Prop where
 len:s.rows.length=m
 rect:bk N s.rows
 lt:jC v.length s.rows
 cl:s.cols.length≤c
 cm:s.cols.length≤m
 cE:aC v.length s.cE
 sg:s.sg=1∨s.sg= -1
theorem gg(v:List NQ)(s:im)(c:Nat)(h:s.cols.length≤s.rows.length):s.cols.length≤atR v s c∧atR v s c≤s.rows.length∧(∀k,s.cols.length≤k→k<atR v s c→fi v (aS s.rows k c)=0)∧(atR v s c<s.rows.length→fi v (aS s.rows (atR v s c) c)≠0):=by
 obtain ⟨h1,h2,h3,h4⟩:=lM (g:=Dh v s.rows c) (m:=s.rows.length-s.cols.length) (i:=s.cols.length);refine⟨h1,by unfold atR;omega,fun k k1 k2=>?_,fun h=>?_⟩
 · have:=h3 k k1 k2;unfold Dh at this;exact Classical.byContradiction fun g=>by rw[aN g] at this;cases this
 · exact aq (h4 (by unfold atR at h;omega))
theorem s8{v:List NQ}{m N c k:Nat}{s:im}(R:o7 v m N k s)(h:atR v s c<s.rows.length):(bR v s c).length=m∧bk N (bR v s c)∧jC v.length (bR v s c):=by
 have hl:=R.len;have:=(gg v s c (by have:=R.cm;omega)).1;unfold bR;split
 · exact⟨R.len,R.rect,R.lt⟩
 · exact⟨by rw[Ch];exact R.len,ze R.rect (by omega) h,DZ R.lt _ _⟩
theorem Au{v:List NQ}(V:k8 v){m N c k:Nat}{s:im}(R:o7 v m N k s)(h:atR v s c<s.rows.length):(eR v s c).length=m∧bk N (eR v s c)∧jC v.length (eR v s c):=by
 obtain ⟨h1,h2,h3⟩:=s8 (c:=c) R h;have hl:=R.len;have:=(gg v s c (by have:=R.cm;omega)).1;unfold eR;exact⟨by rw[List.length_set];exact h1,h2.set (by rw[qu];exact h2 _ (by omega)) _,h3.set (Il V (h3 _) (h3 _ _)) _⟩
theorem Gm{v:List NQ}(V:k8 v){m N c:Nat}{s:im}(R:o7 v m N c s):o7 v m N (c+1) (cT v s c):=by
 have hl:=R.len;have hc:=R.cl;unfold cT;split
 · rename_i h;obtain ⟨e1,e2,e3⟩:=Au V (c:=c) R h;have ha:=(gg v s c (by have:=R.cm;omega)).1;refine⟨by rw[kj];exact e1,ox e2 _ (ak _),ur V e3 _,?_,?_,ja V R.cE ((s8 R h).2.2 _ _),?_⟩
   · show (s.cols++[c]).length≤c+1;rw[List.length_append];show s.cols.length+1≤_;omega
   · show (s.cols++[c]).length≤m;rw[List.length_append];show s.cols.length+1≤_;omega
   · rcases R.sg with h1 | h1<;>(show (if _ then s.sg else -s.sg)=1∨_= -1;split<;>simp[h1])
 · exact⟨R.len,R.rect,R.lt,by omega,R.cm,R.cE,R.sg⟩
theorem cY{v:List NQ}(V:k8 v){a:a6}{N:Nat}(hr:bk N a)(hl:jC v.length a): ∀c,o7 v a.length N c (aB v a c)
 | 0=>⟨rfl,hr,hl,ak _,Nat.zero_le _,fh _ _,.inl rfl⟩
 | c+1=>Gm V (cY V hr hl c)
theorem ub(v:List NQ): ∀c,aB v [] c=⟨[],[],1,[1]⟩
 | 0=>rfl
 | c+1=>by
   show cT v (aB v [] c) c=_;rw[ub v c];unfold cT;exact if_neg (Nat.not_lt_zero _)
end Lift
namespace Lift
def vM{v:List NQ}(F:FV v)(a:a6):Mk F.K:=fun i k=>F.val (aS a i k)
theorem xI(v:List NQ)(e:a6)(r c:Nat): ∀n i,i<n→n≤e.length→(cD v e r c n).getD i []=if i≠r∧fi v (aS e i c)≠0 then eT v (e.getD i []) (e.getD r []) (aS e i c) else e.getD i []
 | 0,i,hi,_=>absurd hi (Nat.not_lt_zero i)
 | n+1,i,hi,hn=>by
   by_cases e1:i=n
   · subst e1;unfold cD;rw[uu];split
     · rw[eM,if_pos ⟨rfl,by rw[kj];omega⟩,fJ v e r c i i (.inl (ak _)),fJ v e r c i r (.inr rfl)]
     · exact fJ v e r c i i (.inl (ak _))
   · have ih:=xI v e r c n i (by omega) (by omega);rw[← ih]
     conv=>lhs;unfold cD
     split
     · rw[eM,if_neg (fun h=>e1 h.1)]
     · rfl
theorem wu{v:List NQ}{s:im}{c i:Nat}(h1:s.cols.length≤atR v s c)(h:atR v s c<s.rows.length)(hi:i<s.rows.length):(bR v s c).getD i []=s.rows.getD (sw s.cols.length (atR v s c) i) []:=by
 unfold bR;split
 · rename_i e;rw[e];unfold sw;by_cases g:i=s.cols.length
   · rw[if_pos g,g]
   · rw[if_neg g,if_neg g]
 · unfold zf sw;rw[eM,eM];by_cases g:i=s.cols.length
   · rw[if_pos ⟨g,by rw[List.length_set];omega⟩,if_pos g]
   · rw[if_neg (fun h=>g h.1),if_neg g];by_cases g2:i=atR v s c
     · rw[if_pos ⟨g2,h⟩,if_pos g2]
     · rw[if_neg (fun h=>g2 h.1),if_neg g2]
theorem uM{v:List NQ}(V:k8 v)(F:FV v){m N c:Nat}{s:im}(R:o7 v m N c s)(hc:c<N)(h:atR v s c<s.rows.length):
  vM F s.rows (atR v s c) c≠0∧ ∀i k,i<m→k<N→vM F (cD v (eR v s c) s.cols.length c (eR v s c).length) i k=if i=s.cols.length then vM F s.rows (atR v s c) k*F.K.inv (vM F s.rows (atR v s c) c) else vM F s.rows (sw s.cols.length (atR v s c) i) k-vM F s.rows (sw s.cols.length (atR v s c) i) c*(vM F s.rows (atR v s c) k*F.K.inv (vM F s.rows (atR v s c) c)):=by
 have hl:=R.len;obtain ⟨a1,a2,a3,a4⟩:=gg v s c (by have:=R.cm;omega);have hz:=a4 h;obtain ⟨b1,b2,b3⟩:=s8 (c:=c) R h;obtain ⟨e1,e2,e3⟩:=Au V (c:=c) R h;have hrm:s.cols.length<m:=by omega
 have eB: ∀i k,i<m→aS (bR v s c) i k=aS s.rows (sw s.cols.length (atR v s c) i) k:=fun i k hi=>by
  unfold aS;rw[wu a1 h (by omega)]
 have hp:pR v s c=aS s.rows (atR v s c) c:=by
  unfold pR;rw[eB _ _ hrm,A6]
 have hpz:fi v (pR v s c)≠0:=by rw[hp];exact hz
 have eE: ∀i k,i<m→k<N→aS (eR v s c) i k=if i=s.cols.length then mT v (aS s.rows (atR v s c) k) (aS s.rows (atR v s c) c) else aS s.rows (sw s.cols.length (atR v s c) i) k:=fun i k hi hk=>by
  unfold aS eR;rw[eM];by_cases e:i=s.cols.length
  · rw[if_pos ⟨e,by omega⟩,if_pos e,qv _ _ _ (by rw[b2 _ (by omega)];exact hk),hp,wu a1 h (by omega),A6];rfl
  · rw[if_neg (fun h=>e h.1),if_neg e,wu a1 h (by omega)]
 have ltR:=R.lt
 have vE: ∀i k,i<m→k<N→F.val (aS (eR v s c) i k)=if i=s.cols.length then vM F s.rows (atR v s c) k*F.K.inv (vM F s.rows (atR v s c) c) else vM F s.rows (sw s.cols.length (atR v s c) i) k:=fun i k hi hk=>by
  rw[eE i k hi hk];by_cases e:i=s.cols.length
  · rw[if_pos e,if_pos e,F.div (ltR _ _) (ltR _ _) hz];rfl
  · rw[if_neg e,if_neg e];rfl
 refine⟨fun e=>hz ((F.sg (ltR _ _)).2 e),fun i k hi hk=>?_⟩;have hd:=xI v (eR v s c) s.cols.length c (eR v s c).length i (by omega) (ak _);show F.val (((cD v (eR v s c) s.cols.length c (eR v s c).length).getD i []).getD k [])=_;rw[hd];by_cases e:i=s.cols.length
 · rw[if_neg (fun h=>h.1 e),if_pos e];have:=vE i k hi hk;rw[if_pos e] at this;exact this
 · rw[if_neg e];have v1:=vE i k hi hk;have v2:=vE i c hi hc;have v3:=vE s.cols.length k hrm hk;rw[if_neg e] at v1 v2;rw[if_pos rfl] at v3;by_cases g:fi v (aS (eR v s c) i c)=0
   · rw[if_neg (fun h=>h.2 g)];have z:=(F.sg (e3 i c)).1 g;rw[v2] at z;rw[z,Rg.zero_mul];show F.val (aS (eR v s c) i k)=_;rw[v1];exact(Rg.fW [vM F s.rows (sw s.cols.length (atR v s c) i) k] (X0-0) X0 rfl).symm
   · rw[if_pos ⟨e,g⟩,iH v _ _ _ (by rw[e2 i (by omega)];exact hk)];show F.val (oD (aS (eR v s c) i k) (dK v (aS (eR v s c) i c) (aS (eR v s c) s.cols.length k)))=_;rw[F.sub (e3 i k) (ja V (e3 i c) (e3 _ k)),F.mul (e3 i c) (e3 _ k)];show F.val (aS (eR v s c) i k) -F.val (aS (eR v s c) i c)*F.val (aS (eR v s c) s.cols.length k)=_;rw[v1,v2,v3]
theorem gn{v:List NQ}(V:k8 v)(F:FV v){a:a6}{N:Nat}(hr:bk N a)(hl:jC v.length a): ∀c,c≤N→RI a.length N c (vM F a) (vM F (aB v a c).rows) (aB v a c).cols
 | 0,_=>RI.start a.length N (vM F a)
 | c+1,hc=>by
   have I:=gn V F hr hl c (by omega);have R:=cY V hr hl c;have hlen:=R.len;obtain ⟨a1,a2,a3,a4⟩:=gg v (aB v a c) c (by have:=R.cm;omega);show RI a.length N (c+1) (vM F a) (vM F (cT v (aB v a c) c).rows) (cT v (aB v a c) c).cols;unfold cT;by_cases h:atR v (aB v a c) c<(aB v a c).rows.length
   · rw[if_pos h];obtain ⟨h3,h4⟩:=uM V F R (by omega) h;exact I.hit (by omega) a1 (by omega) h3 h4
   · rw[if_neg h];exact I.Ki (by omega) fun q h1 h2=>(F.sg (R.lt q c)).1 (a3 q h1 (by omega))
theorem bk.take{N:Nat}{a:a6}(h:bk N a)(n:Nat):bk N (a.take n):=fun j hj=>by
 rw[aT] at hj;rw[aE,List.getElem?_take,if_pos (by omega),← aE];exact h j (by omega)
theorem CL{a:a6}{n j:Nat}(hj:j<n):(a.take n).getD j []=a.getD j []:=by
 rw[aE,List.getElem?_take,if_pos hj,← aE]
theorem qZ{a:a6}{n j:Nat}(hj:j<n)(k:Nat):aS (a.take n) j k=aS a j k:=by
 unfold aS;rw[CL hj]
theorem jC.take{l:Nat}{a:a6}(h:jC l a)(n:Nat):jC l (a.take n):=fun j k=>by
 by_cases hj:j<n
 · rw[qZ hj];exact h j k
 · unfold aS;rw[gk (by rw[aT];omega)];exact bm l
theorem Da{m0:Nat}{v:List NQ}(V:j5 m0 v){a b:a6}{N n:Nat}(ha:bk N a)(la:jC v.length a)(hb:bk a.length b)(lb:jC v.length b)(hbN:b.length=N)(hab: ∀i k,i<a.length→k<N→aS b k i=aS a i k)(hn:n≤a.length):
  (aB v b n).cols.length=(aB v (a.take n) N).cols.length:=by
 obtain ⟨F⟩:=qR V;have I1:=gn V.a F hb lb n hn;have I2:=gn V.a F (ha.take n) (la.take n) N (ak N);have hl:(a.take n).length=n:=by rw[aT];omega
 rw[hl] at I2;rw[hbN] at I1
 have key: ∀s,AM N n s (vM F b)↔AM n N s (vM F (a.take n)):=fun s=>by
  constructor
  · intro h;refine h.Jc.congr fun i k hi hk=>?_;show F.val (aS b k i)=F.val (aS (a.take n) i k);rw[hab i k (by omega) hk,qZ hi]
  · intro h;refine h.Jc.congr fun k i hk hi=>?_;show F.val (aS (a.take n) i k)=F.val (aS b k i);rw[hab i k (by omega) hk,qZ hi]
 have h1:=fun s=>(I1.I7 (s:=s)).symm.trans ((key s).trans I2.I7);exact Nat.le_antisymm ((h1 _).2 (ak _)) ((h1 _).1 (ak _))
end Lift
namespace Lift
open Go
open Go.RowKit (Below)
section
variable {P:Program} {T:Ty} {B:Nat} {F0:Nat→Prop} {w0:c7} {n:Nat} {σ:St} {R:List LR} {ops:Array Oper}
def jj(j k i:Nat)(o:Oper):Oper:=match Nat.beq i k with
 | true=>addEdge j i o
 | false=>o
def dJ(ops:Array Oper)(x:Nat×Nat):Array Oper:=(ops.toList.zipIdx.map fun y=>jj x.1 x.2 y.2 y.1).toArray
theorem kF(ops:Array Oper)(j k i:Nat):(dJ ops (j,k))[i]?=(ops[i]?).map (jj j k i):=by
 unfold dJ;rw[List.getElem?_toArray,List.getElem?_map,List.getElem?_zipIdx];simp;cases ops[i]?<;>rfl
theorem qo(ops:Array Oper)(x:Nat×Nat):(dJ ops x).size=ops.size:=by simp[dJ]
theorem At(j k i:Nat)(o:Oper):(jj j k i o).op=o.op∧(jj j k i o).dst=o.dst∧(jj j k i o).guard=o.guard:=by
 unfold jj;split
 · exact B4 j i o
 · exact⟨rfl,rfl,rfl⟩
theorem vY(j k i:Nat)(o:Oper)(ρ:Operand→Value):execOp ρ (jj j k i o)=execOp ρ o:=by
 unfold jj;split
 · exact yV j i o ρ
 · rfl
theorem Fm{j k i:Nat}(h:i≠k)(o:Oper):jj j k i o=o:=by
 unfold jj;cases hb:Nat.beq i k with
 | true=>exact absurd (Nat.eq_of_beq_eq_true hb) h
 | false=>rfl
theorem s6{j k i:Nat}{o:Oper}{e:Edge}:(e∈o.after→e∈(jj j k i o).after)∧(e∈(jj j k i o).after→e∈o.after∨e.on=j):=by
 unfold jj addEdge;split
 · split
   · exact⟨id,.inl⟩
   · refine⟨fun h=>by simp[h],fun h=>?_⟩;simp at h;rcases h with h | rfl
     · exact .inl h
     · exact .inr rfl
 · exact⟨id,.inl⟩
variable {Q:Exit→Act→World→Prop}
theorem pX(j k i:Nat){K:Act→World→Prop}{a:Act}{w:World}(h:wpOp P (dJ ops (j,k)) Q i K a w):wpOp P ops Q i K a w:=by
 unfold wpOp at *;rw[kF] at h;cases ho:ops[i]? with
 | none=>rw[ho] at h;exact h
 | some o =>
   rw[ho] at h;simp only[Option.map_some] at h ⊢;obtain ⟨e1,e2,e3⟩:=At j k i o
   have hy: ∀g,yielded (dJ ops (j,k)) a.tmps g=yielded ops a.tmps g:=fun g=>by
    unfold yielded;rw[kF];cases ops[g]? with
    | none=>rfl
    | some og=>simp only[Option.map_some,Option.bind_some,(At j k g og).2.1]
   have hw:Region.wanted (jj j k i o) (yielded (dJ ops (j,k)) a.tmps)=Region.wanted o (yielded ops a.tmps):=by
    unfold Region.wanted;rw[e3];split
    · rfl
    · rw[hy]
   rw[hw,e2] at h
   have hwp:(jj j k i o).wp P a w K Q→o.wp P a w K Q:=fun h=>by
    unfold Oper.wp at *;rw[vY] at h;generalize (execOp a.eval o).run P w=r at *;cases r with
    | ok n w'=>cases n<;>simp only[Oper.upon,e2] at h ⊢ <;>exact h
    | halt x w'=>cases x<;>simp only[Oper.upon] at h ⊢ <;>exact h
   have has:(jj j k i o).asks P a w→o.asks P a w:=fun h=>by
    unfold Oper.asks at *;rw[vY] at h;exact h
   split
   · rename_i hc;rw[if_pos hc] at h;rcases h with h | ⟨h1,h2⟩
     · exact .inl (hwp h)
     · exact .inr ⟨has h1,h2⟩
   · rename_i hc;rw[if_neg hc] at h;exact h
def xV:Op→Bool
 | .move _=>true
 | .extract _ _=>true
 | _=>false
theorem C6{o:Oper}(hs:xV o.op=true){a:Act}{w:World}{K:Act→World→Prop}(hpan: ∀c a w,Q (.panic c) a w→False)(h:o.wp P a w K Q): ∃v,(∀w',(execOp a.eval o).run P w'= .ok (.value v) w')∧K (a.put o.dst v) w:=by
 unfold Oper.wp at h;obtain ⟨dst,op,ty,pos,after,guard⟩:=o;simp only[] at hs;cases op<;>simp only[xV] at hs<;>try (cases hs;done)
 · rename_i x;refine⟨a.eval x,fun w'=>by simp[execOp],?_⟩;simpa[execOp,Oper.upon] using h
 · rename_i x ix;cases hx:a.eval x<;>try (exfalso;simp[execOp,Instr.extract,hx,Oper.upon] at h;done)
   rename_i vs;cases hv:vs[ix]? with
   | none=>exfalso;simp[execOp,Instr.extract,hx,hv,Oper.upon] at h
   | some v=>exact⟨v,fun w'=>by simp[execOp,Instr.extract,hx,hv],by simpa[execOp,Instr.extract,hx,hv,Oper.upon] using h⟩
def Fo(ops:Array Oper)(j k:Nat):Bool:=match ops[j]?,ops[k]? with
 | some oj,some ok=>xV oj.op&&oj.guard.isNone&&HD ops&& !Nat.beq j k &&
   (oj.after.toList.all fun e=> !Region.binds .any e||ok.after.toList.any fun f=>Region.binds .any f&&Nat.beq f.on e.on) &&
   ((List.range ops.size).all fun i=>Nat.beq i j||(oj.after.toList.any fun e=>Region.binds .any e&&Nat.beq e.on i)||match ops[i]? with
     | some o=>(o.after.toList.any fun e=>Region.binds .any e&&Nat.beq e.on j)||oj.apart ops o
     | none=>true)
 | _,_=>false
theorem AP{j k:Nat}(hB:Fo ops j k=true)(hpan: ∀c a w,Q (.panic c) a w→False)(hout:LetsOut Q→False): ∀(f:Nat) (L:Array Bool) (a:Act) (w:World),L.size=ops.size →
  wpAny P .any (dJ ops (j,k)) Q f L a w→wpAny P .any ops Q f L a w:=by
 unfold Fo at hB;split at hB;rotate_left
 · cases hB
 rename_i oj ok hoj hok;simp only[Bool.and_eq_true,List.all_eq_true,Bool.not_eq_true'] at hB;obtain ⟨⟨⟨⟨⟨hst,hg⟩,hsel⟩,hjk⟩,haf⟩,hap⟩:=hB;have hjk:=Nat.ne_of_beq_eq_false hjk;have hgn:oj.guard=none:=by simpa using hg
 have hjl:j<ops.size:=(Array.getElem?_eq_some_iff.1 hoj).1
 have hdich: ∀L:Array Bool,L.size=ops.size→L.getD j true=false∨L.getD j false=true:=fun L hL=>by
  simp only[Array.getD_eq_getD_getElem?];rw[Array.getElem?_eq_getElem (by omega)];simp only[Option.getD_some];cases L[j]'(by omega)<;>simp
 have r1: ∀(L:Array Bool) i,i∈Region.ready .any (dJ ops (j,k)) L→i∈Region.ready .any ops L:=fun L i hi=>by
  rw[mem_ready] at hi ⊢;obtain ⟨h1,o,ho,h2⟩:=hi;rw[kF] at ho;cases hx:ops[i]? with
  | none=>rw[hx] at ho;cases ho
  | some o' =>
    rw[hx] at ho;simp at ho;subst ho;exact⟨h1,o',rfl,fun e he hb=>h2 e (s6.1 he) hb⟩
 have r2: ∀(L:Array Bool) i,i∈Region.ready .any ops L→(i≠k∨L.getD j false=true)→i∈Region.ready .any (dJ ops (j,k)) L:=fun L i hi hc=>by
  rw[mem_ready] at hi ⊢;obtain ⟨h1,o,ho,h2⟩:=hi;refine⟨h1,jj j k i o,by rw[kF,ho];rfl,fun e he hb=>?_⟩;rcases hc with hc | hc
  · rw[Fm hc] at he;exact h2 e he hb
  · rcases s6.2 he with h | h
    · exact h2 e h hb
    · rw[h];exact hc
 have rj: ∀L:Array Bool,k∈Region.ready .any ops L→L.getD j true=false→j∈Region.ready .any ops L:=fun L hk hj=>by
  rw[mem_ready] at hk ⊢;obtain ⟨_,o,ho,h2⟩:=hk;rw[hok] at ho;cases ho;refine⟨hj,oj,hoj,fun e he hb=>?_⟩;have:=haf e (by simpa using he);rw[hb] at this;simp only[Bool.not_true,Bool.false_or] at this;obtain ⟨f,hf,hfb⟩:=List.any_eq_true.1 this;simp only[Bool.and_eq_true] at hfb;rw[← Nat.eq_of_beq_eq_true hfb.2];exact h2 f (by simpa using hf) hfb.1
 intro f
 induction f with
 | zero =>
   intro L a w hL h;refine⟨List.eq_nil_iff_forall_not_mem.2 fun i hi=>?_,h.2⟩;rcases hdich L hL with hd | hd
   · by_cases hik:i=k
     · subst hik;have:=r2 L j (rj L hi hd) (.inl hjk);rw[h.1] at this;cases this
     · have:=r2 L i hi (.inl hik);rw[h.1] at this;cases this
   · have:=r2 L i hi (.inr hd);rw[h.1] at this;cases this
 | succ f ih =>
   intro L a w hL h;have hLs: ∀i,(L.setIfInBounds i true).size=ops.size:=fun i=>by simpa using hL
   refine⟨fun hn=>h.1 (List.eq_nil_iff_forall_not_mem.2 fun i hi=>?_),fun i hi=>?_⟩
   · have:=r1 L i hi;rw[hn] at this;cases this
   · have easy:(i≠k∨L.getD j false=true)→wpOp P ops Q i (wpAny P .any ops Q f (L.setIfInBounds i true)) a w:=fun hc =>
      wpOp_mono (fun a' w' h'=>ih _ a' w' (hLs i) h') (pX j k i (h.2 i (r2 L i hi hc)))
     rcases hdich L hL with hd | hd
     rotate_left
     · exact easy (.inr hd)
     by_cases hik:i=k;rotate_left
     · exact easy (.inl hik)
     subst hik;have hjr:=rj L hi hd;have h1:=pX j i j (h.2 j (r2 L j hjr (.inl hjk)));have hwant:Region.wanted oj (yielded ops a.tmps)=true:=by simp[Region.wanted,hgn]
     unfold wpOp at h1;simp only[hoj,hwant,if_true] at h1;rcases h1 with h1 | ⟨_,h1⟩
     rotate_left
     · exact(hout h1).elim
     obtain ⟨v,hv,hK⟩:=C6 hst hpan h1;have h3:=ih _ _ _ (hLs j) hK
     have h4:=wpAny_first (i:=j) (oi:=oj) (v:=v) hoj (fun i o cs b hi he=>by
      unfold HD at hsel;have:=List.all_eq_true.1 hsel o (by simpa using Array.mem_of_getElem? hi);rw[he] at this
      cases this) (fun c a' w' hq=>(hpan _ _ _ hq).elim) f L a w (fun i oi hi hij hli hne=>by
       have:=hap i (List.mem_range.2 (Array.getElem?_eq_some_iff.1 hi).1);rw[hi] at this;simp only[Bool.or_eq_true] at this;rcases this with (h | h) | h
       · exact absurd (Nat.eq_of_beq_eq_true h) hij
       · exfalso;obtain ⟨e,he,hb⟩:=List.any_eq_true.1 h;simp only[Bool.and_eq_true] at hb;obtain ⟨_,o,ho,h2⟩:=mem_ready.1 hjr;rw[hoj] at ho;cases ho;have h3:=h2 e (by simpa using he) hb.1;rw[Nat.eq_of_beq_eq_true hb.2,getD_both hli] at h3;cases h3
       · rcases h with h | h
         · exfalso;obtain ⟨e,he,hb⟩:=List.any_eq_true.1 h;simp only[Bool.and_eq_true] at hb;exact hne e (by simpa using he) hb.1 (Nat.eq_of_beq_eq_true hb.2)
         · exact h) hjr (.inl ⟨hwant,fun w=>hv w⟩) h3
     exact h4.2 i hi
def vX:List (Nat×Nat)→Array Oper→Bool
 | [],_=>true
 | x::l,ops=>Fo ops x.1 x.2&&vX l (dJ ops x)
theorem mW(hpan: ∀c a w,Q (.panic c) a w→False)(hout:LetsOut Q→False){f:Nat}{L:Array Bool}{a:Act}{w:World}: ∀(l:List (Nat×Nat)) (ops:Array Oper),vX l ops=true→L.size=ops.size→wpAny P .any (l.foldl dJ ops) Q f L a w→wpAny P .any ops Q f L a w
 | [],_,_,_,h=>h
 | x::l,ops,hB,hL,h=>by
   rw[vX,Bool.and_eq_true] at hB;exact AP hB.1 hpan hout f L a w hL (mW hpan hout l (dJ ops x) hB.2 (by rw[qo];exact hL) h)
theorem pO: ∀(l:List (Nat×Nat)) (ops:Array Oper),(l.foldl dJ ops).size=ops.size
 | [],_=>rfl
 | x::l,ops=>(pO l (dJ ops x)).trans (qo ops x)
end
section
variable {P:Program} {T:Ty} {B:Nat} {F0:Nat→Prop} {w0:c7} {n:Nat} {σ:St} {R:List LR} {ops:Array Oper} {Q:Exit→List LR→St→Prop}
theorem iy.q7(l:List (Nat×Nat))(hB:vX l ops=true)(hpan: ∀c R σ,Q (.panic c) R σ→False)(hout: ∀R σ,Q .outgrown R σ→False)(h:iy P B F0 w0 n (l.foldl dJ ops) Q R σ):iy P B F0 w0 n ops Q R σ:=by
 intro a w hR;have hA:=h a w hR;rw[pO] at hA;refine mW (fun c a w hq=>?_) (fun hq=>?_) l ops hB (by simp) hA
 · obtain ⟨R,σ,h,_⟩:=hq;exact hpan c R σ h
 · obtain ⟨a,w,R,σ,h,_⟩:=hq;exact hout R σ h
theorem pV.q7{Q:Exit→St→Prop}(l:List (Nat×Nat))(hB:vX l ops=true)(hpan: ∀c σ,Q (.panic c) σ→False)(hout: ∀σ,Q .outgrown σ→False)(h:pV P B F0 w0 n (l.foldl dJ ops) Q σ):pV P B F0 w0 n ops Q σ:=by
 intro a w hR;have hA:=h a w hR;rw[pO] at hA;refine mW (fun c a w hq=>?_) (fun hq=>?_) l ops hB (by simp) hA
 · obtain ⟨σ,h,_⟩:=hq;exact hpan c σ h
 · obtain ⟨a,w,σ,h,_⟩:=hq;exact hout σ h
end
end Lift
