/- Parts of the proof, one behind the other: the logic, the contracts of the functions that the statement reaches. -/
import Derived.Test.YtebpenldlefgjaaGreatM5A
import Derived.ChangeArms
import GoSem.ClaimJoined
import Derived.ProofKit
import Derived.SizedLaws
import Derived.Test.YtebpenldlefgjaaGreatChecked
import Derived.KernelRfl
set_option linter.unusedVariables false
set_option linter.unusedSimpArgs false
namespace Lift
open Go
open Go.RowKit (Below)
section
variable {P:Program} {T:Ty} {B:Nat} {F0:Nat→Prop} {w0:cX} {n:Nat} {lk hm:Nat→Option AV} {o:Oper} {d:Nat} {σ σ':St}
def Lk(T:Ty)(lk hm:Nat→Option AV):Op→Option (Nat×List D×Nat×Nat×Option Int×Option Int)
 | .slice t x lo hi none=>match T.get t,lE hm (ex T lk 0 x),DZ T lk lo,DZ T lk hi with
   | some ti,some (h,e,l,a,m),some l',some h'=>match Nat.beq ti.kind 4,T.get ti.elem,Nat.beq e ti.elem with
     | true,some _,true=>some (h,l,a,m,l',h')
     | _,_,_=>none
   | _,_,_,_=>none
 | _=>none
theorem aN.Mr(hT:bD P T){h a0 m:Nat}{l:List D}{lo hi:Option Int}(hd:o.dst=some d)(hn:hm d=none)(hx:Lk T lk hm o.op=some (h,l,a0,m,lo,hi))(g1:okB lo)(g2:okB hi)(g3:fU lo≤cV m hi)(g4:cV m hi≤m):
  aN P B F0 w0 d o lk hm (.sb h (a0+fU lo) (cV m hi-fU lo)):=by
 refine⟨hd,hn,fun a w O hI K Q hK=>?_⟩;obtain ⟨dst,op,ty,pos,after,guard⟩:=o;simp only[] at hd hx hI;cases op<;>simp only[Lk] at hx<;>try (cases hx;done)
 rename_i t x lo' hi' mx;cases mx<;>simp only[] at hx<;>try (cases hx;done)
 split at hx<;>try (cases hx;done)
 rename_i ti h' e l' a1 m' lo1 hi1 hti hw hl hh;split at hx<;>simp at hx;rename_i te hk hte hee;obtain ⟨rfl,rfl,rfl,rfl,rfl,rfl⟩:=hx;have hee:=Nat.eq_of_beq_eq_true hee;obtain ⟨info,dd,z,hok⟩:=hT t ti hti;obtain ⟨info',dd',z',hok'⟩:=hT _ te hte;cases hxe:ex T lk 0 x with
 | none=>rw[hxe] at hw;simp[lE] at hw
 | some av =>
   rw[hxe] at hw;have hxv:=(a6 hI (fun t ht=>by subst ht;simp[Op.operands]) hxe 0).1;obtain ⟨y,hy,hrow,hlm,cap,hcap,hmax,hv⟩:=gJ hI hxv hw
   obtain ⟨ad,hev,hval⟩: ∃ad,a.eval x= .slice ad m' cap∧((l'.length=0∧y.tag=false∧cap=0)∨ ∃b o1 len cap1 o,a.tmps[h']?=some (.slice (some ⟨b,o1,none⟩) len cap1)∧ad=some ⟨b,o,none⟩∧((m'=0∨o=a1*P.cellsOf e)∧(cap=0∨o=a1*P.cellsOf e)∧o+cap*P.cellsOf e≤o1+cap1*P.cellsOf e∧cap≤cap1)):=by
    rcases hv with ⟨h0,hq,hc0,base,hv⟩ | ⟨b,o1,len,cap1,cs,o,_,htm,hv,h0,_⟩
    · exact⟨base,by rw[hv];congr 1;omega,.inl ⟨h0,hq,hc0⟩⟩
    · exact⟨_,hv,.inr ⟨b,o1,len,cap1,o,htm,rfl,h0⟩⟩
   have hb:=wX hT hI (fun y hy t ht=>by subst hy;subst ht;simp[Op.operands]) (fun y hy t ht=>by subst hy;subst ht;simp[Op.operands]) hl hh true m' cap g1 g2 g3 g4 hcap;refine bg (v:= .slice (if cap=fU lo1 then ad else ad.map (·.add (fU lo1*te.size))) (cV m' hi1-fU lo1) (cap-fU lo1)) (w':=w) ?_ (hK _ w O (du.refl hI.lt) ?_)
   · simp only[execOp,Instr.sliceAt,hev,Sem.run_bind,run_underlying (hok.jy hk).1,Result.andThen_ok,Instr.slice,hb,Go.sizeOf,typeInfo,run_program,hok'.hinfo,Sem.run_pure,hok'.size,Option.map_none]
   · intro y' e' l'' hy' hrow';rw[hy] at hy';simp at hy';subst hy';rw[hrow] at hrow';simp at hrow';obtain ⟨rfl,rfl⟩:=hrow';refine⟨by omega,cap-fU lo1,by omega,by omega,?_⟩;rcases hval with ⟨h0,hq,hc0⟩ | ⟨b,o1,len,cap1,o,htm,rfl,⟨h0,hcx⟩⟩
     · exact .inl ⟨h0,hq,by omega,_,by congr 1;omega⟩
     · refine .inr ⟨b,o1,len,cap1,if cap=fU lo1 then o else o+fU lo1*te.size,htm,?_,?_,?_⟩
       · split
         · rfl
         · simp[Addr.add_lit]
       · by_cases hz:cV m' hi1-fU lo1=0
         · exact .inl hz
         · refine .inr ?_;rw[if_neg (by omega),Nat.add_mul];have:o=a1*P.cellsOf e:=by omega
           rw[this,hee,hok'.cellsOf]
       · obtain ⟨c1,c2,c3⟩:=hcx;have hs:P.cellsOf e=te.size:=by rw[hee,hok'.cellsOf]
         rw[hs] at c1 c2 ⊢;refine⟨?_,?_,by omega⟩
         · by_cases hz:cap=fU lo1
           · exact .inl (by omega)
           · refine .inr ?_;rw[if_neg hz,Nat.add_mul];have:o=a1*te.size:=by omega
             rw[this]
         · split
           · rename_i hz;rw[hz,Nat.sub_self,Nat.zero_mul];have:=Nat.zero_le (cap*te.size);omega
           · have:cap*te.size=(cap-fU lo1)*te.size+fU lo1*te.size:=by rw[← Nat.add_mul];congr 1;omega
             omega
def K3(P:Program)(w w':World)(F:Nat→Prop)(e:Nat)(L:List D)(lo m:Nat)(v:Value):Prop :=
 ∃O:Nat→Option Nat,(∀c t,O c=some t→t=0∧w.heap.size≤c∧c<w'.heap.size)∧eQ P (fun _=>False) w' O (FW w.heap.size F w') (fun _=>none) (fun _=>none) 0 (.wn false e L lo m) v
def lY(P:Program)(f:FuncId)(args:List D)(e:Nat)(L:List D)(lo m:Nat):Prop :=
 s5 P f∧ ∀(w:World) (F:Nat→Prop) (vs:List Value),(∀b,F b→b<w.heap.size)→vs.length=args.length→(∀(i:Nat) (d:D) (v:Value),args[i]?=some d→vs[i]?=some v→Rd w F d v) →
  Calls P f vs.toArray w (fun ee w'=> ∃v,ee= .returned v∧Below w.heap.size w w'∧K3 P w w' F e L lo m v)
theorem lY.pure(hT:bD P T){f:FuncId}{args:List D}{e:Nat}{te:TI}{L:List D}{lo m:Nat}(h:lY P f args e L lo m)(he:T.get e=some te):Pure P f args (.sl te.size ((L.drop lo).take m)):=by
 refine⟨h.1,fun w F vs h1 h2 h3=>(h.2 w F vs h1 h2 h3).mono fun ee w' ⟨v,hv,hb,O,hO,hr⟩=>⟨v,hv,hb,?_⟩⟩;obtain ⟨info,d,z,hok⟩:=hT e te he;rcases hr with ⟨_,base,rfl,rfl,rfl,rfl⟩ | ⟨b,o,cap,cs,_,rfl,⟨h0,_⟩,g2,g3,g4,g5,g6,g7,g8⟩
 · exact .nil (Nat.zero_le _)
 · rw[hok.cellsOf] at g7 h0;rcases Nat.eq_zero_or_pos m with hm0 | hm0
   · subst hm0;rw[List.take_zero];exact .nil g6
   have h0:o=lo*te.size:=by omega
   subst h0;have hlen:((L.drop lo).take m).length=m:=by simp;omega
   have:=Rd.mK (w:=w') (F:=FW w.heap.size F w') (s:=te.size) (l:=(L.drop lo).take m) (off:=lo*te.size) (cap:=cap) (.inr (hO b 0 g2).2) g3 (by omega) g6 (fun y hy=>g7 y (List.mem_of_mem_drop (List.mem_of_mem_take hy))) (fun j d hj=>by
    obtain ⟨f1,u,f2,f3⟩:=g8 _ d (jB g7 lo m j hj)
    exact⟨f1,u,f2,f3.mono (fun c hc=>hc.2) (fun _ _=>rfl)⟩)
   rwa [hlen] at this
def sO(T:Ty)(σ:St)(t:Nat):Option (Nat×List D×Nat×Nat):=match ex T σ.get 0 (.tmp t) with
 | some (.e0 e)=>some (e,[],0,0)
 | some (.al h)=>match lE σ.get (some (.al h)) with
   | some (_,e,l,lo,m)=>some (e,l,lo,m)
   | none=>none
 | some (.sb h i k)=>match lE σ.get (some (.sb h i k)) with
   | some (_,e,l,lo,m)=>some (e,l,lo,m)
   | none=>none
 | _=>none
def NW(T:Ty)(t e:Nat)(L:List D)(lo m:Nat):Exit→St→Prop
 | .normal,σ=>sO T σ t=some (e,L,lo,m)
 | .ret,σ=>sO T σ t=some (e,L,lo,m)
 | .exit _,_=>False
 | .goto _,_=>False
 | .panic _,_=>False
 | .outgrown,_=>False
theorem tc{fn:Func}{t:Nat}(hrs:fn.results.toList=[.tmp t]){tmps:Array Value}{v:Value}{w:World}(hv:tmps[t]?=some v):(results fn tmps).run P w= .ok v w:=by
 rw[eg];have hg:tmps.getD t undef=v:=by simp[Array.getD_eq_getD_getElem?,hv]
 simp only[Sem.run_bind,Array.mapM_eq_mapM_toList,hrs,Sem.run_map,List.mapM_cons,List.mapM_nil,nt,Sem.run_pure,Result.andThen_ok,hg];rfl
def IZ(P:Program)(X:Nat→Prop)(w:World)(O:Nat→Option Nat)(F:Nat→Prop)(h e:Nat)(L:List D)(lo m:Nat)(v:Value):Prop :=
 (∃base,v= .slice base 0 0∧L=[]∧lo=0∧m=0) ∨
  ∃b o cap cs,v= .slice (some ⟨b,o,none⟩) m cap∧((m=0∨o=lo*P.cellsOf e)∧(cap=0∨o=lo*P.cellsOf e)∧o+cap*P.cellsOf e≤cs.size)∧O b=some h∧w.heap[b]?=some (.cells cs e (0,0))∧lo+m≤L.length∧m≤cap∧cap≤maxLen∧(∀x,x∈L→x.flat.length=P.cellsOf e) ∧
   ∀(i:Nat) (d:D),(flatAll L)[i]?=some d→d.bc=true∧ ∃u,cs[i]?=some u∧Rd w (aP O F) d u
theorem An{a:Act}{w:World}{t e lo m:Nat}{L:List D}(hR:Rel P B F0 w0 n σ a w)(h:sO T σ t=some (e,L,lo,m)):
  ∃v O h',a.tmps[t]?=some v∧(∀c t,O c=some t→j7 B w0 w c)∧IZ P w0.X w O (FW B F0 w) h' e L lo m v:=by
 obtain ⟨O,hOr,hO⟩:=hR.own;have hI:Inv P B F0 w0 (fun _=>True) σ.get σ.get a w O:=⟨hR.below,hR.base,hR.f0,hOr,fun t _ av h=>hO t av h,fun t av h _=>hO t av h⟩
 have hsome: ∃v,a.tmps[t]?=some v:=by
  cases hs:σ.get t with
  | none=>simp[sO,ex,hs] at h
  | some av=>obtain ⟨v,hv,_⟩:=hO t av hs;exact⟨v,hv⟩
 obtain ⟨v,hv⟩:=hsome
 have fin: ∀av,ex T σ.get 0 (.tmp t)=some av→ ∀h',lE σ.get (some av)=some (h',e,L,lo,m)→ ∃v O h',a.tmps[t]?=some v∧(∀c t,O c=some t→j7 B w0 w c)∧IZ P w0.X w O (FW B F0 w) h' e L lo m v:=fun av hav h' hw=>by
  obtain ⟨x,hx,hrow,hlm,cap',hc1,hc2,hvv⟩:=gJ hI (a6 hI (fun _ _=>trivial) hav 0).1 hw;rw[gn hv] at hvv;refine⟨v,O,h',hv,hOr,?_⟩;rcases hvv with ⟨h0,_,hc0,base,rfl⟩ | ⟨b,o1,len,cap,cs,o,hq,htm,rfl,h0,hOb,hb,hu,hcells⟩
  · exact .inl ⟨base,by rw[hc0],List.eq_nil_of_length_eq_zero h0,by omega,by omega⟩
  · exact .inr ⟨b,o,cap',cs,rfl,⟨h0.1,h0.2.1,Nat.le_trans h0.2.2.1 hq.2⟩,hOb,hb,hlm,hc1,hc2,hu,hcells⟩
 unfold sO at h;split at h<;>try (cases h;done)
 · rename_i e' hav;simp at h;obtain ⟨rfl,rfl,rfl,rfl⟩:=h;obtain ⟨base,hb⟩:=(a6 hI (fun _ _=>trivial) hav 0).1;rw[gn hv] at hb;exact⟨v,O,0,hv,hOr,.inl ⟨base,hb,rfl,rfl,rfl⟩⟩
 · rename_i h' hav;split at h<;>simp at h;rename_i k e' l' lo' m' hw;obtain ⟨rfl,rfl,rfl,rfl⟩:=h;exact fin _ hav _ hw
 · rename_i h' i k hav;split at h<;>simp at h;rename_i k e' l' lo' m' hw;obtain ⟨rfl,rfl,rfl,rfl⟩:=h;exact fin _ hav _ hw
theorem lY.intro{f:FuncId}{fn:Func}{c:Code}{t e lo m:Nat}{args L:List D}(hT:bD P T)(hf:P.funcs[f]?=some fn)(hb:fn.body=some c)(hrs:fn.results.toList=[.tmp t])(hn:fn.ntmps=n)(hl:args.length≤n)(hnm:(fn.name=="runtime.NumGoroutine")=false)
  (h: ∀(B:Nat) (F0:Nat→Prop) (w0:cX),AW P B F0 w0 n c (NW T t e L lo m) (eI 0 args)):lY P f args e L lo m:=by
 refine⟨⟨fn,hf,hnm,by simp[hb]⟩,fun w F vs hF hlen hr=>?_⟩;refine calls_of_wp hf hb (wp_mono (h w.heap.size F ⟨w,fun _=>False⟩ _ w ?_) ?_)
 · refine⟨.refl _ _ _,Nat.le_refl _,⟨hF,fun b hb=>hb.elim⟩,rfl,?_,fun _=>none,(fun b t hb=>by simp at hb),fun t av hav=>?_⟩
   · simp[hn];omega
   · rw[iX] at hav;simp only[Nat.zero_le,if_true,Nat.sub_zero,Option.map_eq_some_iff] at hav;obtain ⟨d,hd,rfl⟩:=hav;have hlt:t<vs.length:=by rw[hlen];exact(List.getElem?_eq_some_iff.1 hd).1
     refine⟨vs[t],by simp[Array.getElem?_append,hlt],?_⟩;exact(hr t d _ hd (List.getElem?_eq_getElem hlt)).mono (fun b hb=>⟨rfl,.inl hb⟩) (fun _ _=>rfl)
 · rintro ee a w' ⟨σ',hq,hR⟩
   have key:sO T σ' t=some (e,L,lo,m)→a.defers=[]∧ ∃v,(results fn a.tmps).run P w'= .ok v w'∧ ∃v',Ending.returned v= .returned v'∧Below w.heap.size w w'∧K3 P w w' F e L lo m v':=fun hq=>by
    refine⟨hR.defers,?_⟩;have hbel:Below w.heap.size w w':=⟨hR.below.os,hR.below.tape,hR.below.output,hR.below.size,fun k hk=>hR.below.block k hk (fun h=>h)⟩;obtain ⟨v,O,h',hv,hOr,hc⟩:=An hR hq;refine⟨v,tc hrs hv,v,rfl,hbel,fun c=>if O c=some h' then some 0 else none,fun c t hc=>?_,?_⟩
    · simp only[] at hc;split at hc<;>simp at hc;rename_i hc1;have:=hOr c _ hc1;exact⟨hc.symm,this.1.resolve_right (fun h=>h),this.2⟩
    · rcases hc with ⟨base,h1,h3,h4,h5⟩ | ⟨b,o,cap,cs,h1,h0,h2,h3,h4,h5,h6,h7,h8⟩
      · exact .inl ⟨rfl,base,h1,h3,h4,h5⟩
      · refine .inr ⟨b,o,cap,cs,fun h=>by simp at h,h1,⟨h0.1,h0.2.1,h0.2.2⟩,by simp[h2],h3,h4,h5,h6,h7,fun i d hd=>?_⟩;obtain ⟨f1,u,f2,f3⟩:=h8 i d hd;exact⟨f1,u,f2,f3.mono (fun c hc=>⟨by simp only[];rw[hc.1];simp,hc.2⟩) (fun _ _=>rfl)⟩
   cases ee with
   | normal=>exact key hq
   | ret=>exact key hq
   | exit _=>exact hq.elim
   | goto _=>exact hq.elim
   | panic _=>exact hq.elim
   | outgrown=>exact hq.elim
def jL(l:List D):Bool:=(flatAll l).all fF
theorem Rd.plain{w w':World}{F F':Nat→Prop}{y:D}{u:Value}(hy:Rd w F y u)(hp:fF y=true):Rd w' F' y u:=by
 cases hy with
 | v h=>exact .v h
 | nil=>simp[fF] at hp
 | sl=>simp[fF] at hp
 | ag=>simp[fF] at hp
 | tu=>simp[fF] at hp
 | pr=>simp[fF] at hp
 | fn=>simp[fF] at hp
theorem pJ{l:List D}(h:jL l=true){i:Nat}{d:D}(hd:(flatAll l)[i]?=some d):fF d=true:=by
 simp only[jL,List.all_eq_true] at h;exact h d (List.mem_of_getElem? hd)
theorem aN.wU(hT:bD P T){f:FuncId}{ds:List D}{e lo m:Nat}{L:List D}(hd:o.dst=some d)(hn:hm d=none)(hx:wV T lk hm o.op=some (f,ds))(hP:lY P f ds e L lo m)(hs:jL L=true):aN P B F0 w0 d o lk hm (.wn false e L lo m):=by
 refine⟨hd,hn,fun a w O hI K Q hK=>?_⟩;obtain ⟨dst,op,ty,pos,after,guard⟩:=o;simp only[] at hd hx hI;cases op<;>simp only[wV] at hx<;>try (cases hx;done)
 rename_i c;obtain ⟨callee,args,ats⟩:=c;simp only[] at hx;split at hx<;>try (cases hx;done)
 rename_i g;split at hx<;>simp at hx;rename_i ds' hds;obtain ⟨rfl,rfl⟩:=hx;have hr:=lW hT hI (G:=FW B F0 w) (fun _ hc=>hc.2) (fun c t _ hc _ _=>(hI.orange c t hc).fw hI.f0) args.toList ats.toList ds' (fun x hx t ht=>by subst ht;simp[Op.operands,Call.operands];exact Array.mem_toList_iff.1 hx) hds;unfold Oper.wp;rw[lV hP.1];show Calls P g (args.map a.eval) w _;have hc:=hP.2 w (FW B F0 w) (args.toList.map a.eval) (fun b hb=>(FW.step hI.f0 hI.base (Nat.le_refl _) b hb).1) hr.1 hr.2;have he:(args.toList.map a.eval).toArray=args.map a.eval:=by apply Array.ext';simp
 rw[he] at hc;refine hc.mono fun ee w' ⟨v,he,hb,O1,hO1,hv⟩=>?_;subst he;have hsz:=hb.size;refine hK v w' (fun c=>if c<w.heap.size then O c else if O1 c=some 0 then some d else none) ⟨hb,fun b hb=>by simp[hb],fun b t hbt=>?_⟩ ?_
 · split at hbt
   · rename_i h;exact .inl h
   · split at hbt<;>simp at hbt;rename_i h1 h2;exact .inr ⟨hbt.symm,(hO1 b 0 h2).2.2⟩
 · rcases hv with hv | ⟨b,o,cap,cs,_,h1,h0,h2,h3,h4,h5,h6,h7,h8⟩
   · exact .inl hv
   · have hbge:=(hO1 b 0 h2).2.1;refine .inr ⟨b,o,cap,cs,fun h=>by simp at h,h1,h0,(if_neg (by omega)).trans (if_pos h2),h3,h4,h5,h6,h7,fun i d hd=>?_⟩;obtain ⟨f1,u,f2,f3⟩:=h8 i d hd;exact⟨f1,u,f2,f3.plain (pJ hs hd)⟩
end
end Lift
namespace Lift
open Go
open Go.RowKit (Below)
section
variable {P:Program} {T:Ty} {B:Nat} {F0:Nat→Prop} {w0:cX} {n:Nat} {lk hm:Nat→Option AV} {o:Oper} {d:Nat} {σ σ':St}
inductive MR where
 | val (res:D)
 | part (lo m:Nat)
def Mn(P:Program)(e b N:Nat)(L:List D)(w:World)(F:Nat→Prop):MR→Value→Prop
 | .val res,v=>il res=true∧Rd w F res v
 | .part lo m,v=>lo+m≤L.length∧ ∃o cap,v= .slice (some ⟨b,o,none⟩) m cap∧((m=0∨o=lo*P.cellsOf e)∧(cap=0∨o=lo*P.cellsOf e)∧o+cap*P.cellsOf e≤N)∧m≤cap∧cap≤maxLen
def Cells(P:Program)(w:World)(F:Nat→Prop)(e:Nat)(L:List D)(cs:Array Value):Prop :=
 (∀x,x∈L→x.flat.length=P.cellsOf e)∧ ∀(i:Nat) (d:D),(flatAll L)[i]?=some d→d.bc=true∧ ∃u,cs[i]?=some u∧Rd w F d u
def AG(P:Program)(f:FuncId)(e:Nat)(L:List D)(lo m:Nat)(pre post L':List D)(r:MR):Prop :=
 s5 P f∧L'.length=L.length∧ ∀(w:World) (G:Nat→Prop) (b o cap:Nat) (cs:Array Value) (us vs:List Value),(∀c,G c→c<w.heap.size∧c≠b)→w.heap[b]?=some (.cells cs e (0,0)) →
  ((m=0∨o=lo*P.cellsOf e)∧(cap=0∨o=lo*P.cellsOf e)∧o+cap*P.cellsOf e≤cs.size)→lo+m≤L.length→m≤cap→cap≤maxLen→Cells P w G e L cs→us.length=pre.length→(∀(i:Nat) (d:D) (v:Value),pre[i]?=some d→us[i]?=some v→Rd w G d v) →
  vs.length=post.length→(∀(i:Nat) (d:D) (v:Value),post[i]?=some d→vs[i]?=some v→Rd w G d v) →
  Calls P f (us++Value.slice (some ⟨b,o,none⟩) m cap::vs).toArray w (fun ee w'=> ∃v cs',ee= .returned v∧iI w.heap.size ⟨w,fun c=>c=b⟩ w w'∧w'.heap[b]?=some (.cells cs' e (0,0))∧Cells P w' (FW w.heap.size G w') e L' cs'∧Mn P e b cs'.size L' w' (FW w.heap.size G w') r v)
abbrev D4(P:Program)(f:FuncId)(e:Nat)(L:List D)(lo m:Nat)(args L':List D)(r:MR):Prop:=AG P f e L lo m [] args L' r
def L2(T:Ty)(σ:St)(p:Nat)(rs:List ResultVar)(e:Nat)(L':List D):MR→Prop
 | .val res=>(∃lo m,σ.get p=some (.wn true e L' lo m))∧il res=true∧C7 T σ rs=some res
 | .part lo m=> ∃h,(∃lo0 m0,σ.get h=some (.wn true e L' lo0 m0))∧ ∃t,rs=[.tmp t]∧ ∃av,ex T σ.get 0 (.tmp t)=some av∧lE σ.get (some av)=some (h,e,L',lo,m)
def MH(T:Ty)(p:Nat)(rs:List ResultVar)(e:Nat)(L':List D)(r:MR):Exit→St→Prop
 | .normal,σ=>L2 T σ p rs e L' r
 | .ret,σ=>L2 T σ p rs e L' r
 | .exit _,_=>False
 | .goto _,_=>False
 | .panic _,_=>False
 | .outgrown,_=>False
theorem C6(hT:bD P T){fn:Func}{rs:List ResultVar}{res:D}(hrs:fn.results.toList=rs){a:Act}{w:World}(hR:Rel P B F0 w0 n σ a w)(hq:C7 T σ rs=some res):
  ∃v,(results fn a.tmps).run P w= .ok v w∧Rd w (FW B F0 w) res v:=by
 unfold C7 at hq;split at hq<;>simp at hq
 · rename_i d hd;subst hq;obtain ⟨vs',hrun,hl',hall⟩:=eS hT hR rs _ hd
   match vs',hl' with
   | [v],_ =>
     refine⟨v,?_,hall 0 d v rfl rfl⟩;rw[eg];simp only[Sem.run_bind,Array.mapM_eq_mapM_toList,hrs,Sem.run_map,hrun,Result.andThen_ok,Sem.run_pure];rfl
 · rename_i hd;subst hq;obtain ⟨vs',hrun,hl',hall⟩:=eS hT hR rs _ hd
   match vs',hl' with
   | [],_ =>
     refine⟨.tuple #[],?_,Rd.tu (vs:=[]) rfl (fun i d v h=>by simp at h)⟩;rw[eg];simp only[Sem.run_bind,Array.mapM_eq_mapM_toList,hrs,Sem.run_map,hrun,Result.andThen_ok,Sem.run_pure];rfl
 · rename_i d e r hd;subst hq;obtain ⟨vs',hrun,hl',hall⟩:=eS hT hR rs _ hd;refine⟨.tuple vs'.toArray,?_,Rd.tu hl' (fun i d v h1 h2=>hall i d v h1 h2)⟩;rw[eg];simp only[Sem.run_bind,Array.mapM_eq_mapM_toList,hrs,Sem.run_map,hrun,Result.andThen_ok,Sem.run_pure];rw[dif_neg (by simp at hl' ⊢; omega)]
theorem ET(t:Nat)(σ2:St): ∀(σ1:St),St.get (σ1++σ2) t=match St.get σ1 t with
  | some x=>some x
  | none=>St.get σ2 t
 | []=>rfl
 | (k,a)::r=>by
   rw[List.cons_append,St.aM,St.aM];split
   · rfl
   · exact ET t σ2 r
theorem AG.intro(hT:bD P T){f:FuncId}{fn:Func}{c:Code}{rs:List ResultVar}{e lo m:Nat}{pre post L L':List D}{r:MR}(hf:P.funcs[f]?=some fn)(hb:fn.body=some c)(hrs:fn.results.toList=rs)(hn:fn.ntmps=n)(hl:pre.length+post.length+1≤n)(hnm:(fn.name=="runtime.NumGoroutine")=false)(hlen:L'.length=L.length)
  (h: ∀(B:Nat) (F0:Nat→Prop) (w0:cX),AW P B F0 w0 n c (MH T pre.length rs e L' r) ((pre.length,.wn true e L lo m)::(eI 0 pre++eI (pre.length+1) post))):AG P f e L lo m pre post L' r:=by
 refine⟨⟨fn,hf,hnm,by simp[hb]⟩,hlen,fun w G b o cap cs us vs hG hb' h0 hlm hcap hmax hcs hlu hru hlv hr=>?_⟩;have hbs:=(Array.getElem?_eq_some_iff.1 hb').1;have hF0:D8 w.heap.size (fun c=>G c∨c=b) ⟨w,fun c=>c=b⟩:=⟨fun c hc=>hc.elim (fun h=>(hG c h).1) (fun h=>h▸hbs),fun c hc=> .inr hc⟩;refine calls_of_wp hf hb (wp_mono (h w.heap.size (fun c=>G c∨c=b) ⟨w,fun c=>c=b⟩ _ w ?_) ?_)
 · have hfree: ∀c,G c→aP (fun c=>if c=b then some pre.length else none) (FW w.heap.size (fun c=>G c∨c=b) w) c:=fun c hc=>⟨by simp[(hG c hc).2],.inl (.inl hc)⟩;refine⟨.refl _ _ _,Nat.le_refl _,hF0,rfl,?_,fun c=>if c=b then some pre.length else none,(fun c t hc=>?_),fun t av hav=>?_⟩
   · simp[hn];omega
   · simp only[] at hc;split at hc<;>simp at hc;rename_i hcb;subst hcb;exact⟨.inr rfl,hbs⟩
   · have htm: ∀(k:Nat) (v:Value),(us++Value.slice (some ⟨b,o,none⟩) m cap::vs)[k]?=some v→((us++Value.slice (some ⟨b,o,none⟩) m cap::vs).toArray++Array.replicate (fn.ntmps-(us++Value.slice (some ⟨b,o,none⟩) m cap::vs).toArray.size) undef)[k]?=some v:=fun k v hk=>by
      have hlt:=(List.getElem?_eq_some_iff.1 hk).1;rw[Array.getElem?_append,if_pos (by simpa using hlt)];simpa using hk
     rw[St.aM] at hav;split at hav
     · rename_i ht;subst ht;simp at hav;subst hav;refine⟨.slice (some ⟨b,o,none⟩) m cap,htm _ _ (by rw[← hlu];simp),.inr ⟨b,o,cap,cs,fun _=>rfl,rfl,⟨h0.1,h0.2.1,h0.2.2⟩,by simp,hb',hlm,hcap,hmax,hcs.1,fun i d hd=>?_⟩⟩;obtain ⟨f1,u,f2,f3⟩:=hcs.2 i d hd;exact⟨f1,u,f2,f3.mono hfree (fun _ _=>rfl)⟩
     · rename_i ht;rw[ET,iX,iX] at hav;simp only[Nat.zero_le,if_true,Nat.sub_zero] at hav;cases hp:pre[t]? with
       | some d =>
         rw[hp] at hav;simp at hav;subst hav;have hlt:t<us.length:=by rw[hlu];exact(List.getElem?_eq_some_iff.1 hp).1
         refine⟨us[t],htm _ _ (by rw[List.getElem?_append_left hlt,List.getElem?_eq_getElem hlt]),?_⟩;exact(hru t d _ hp (List.getElem?_eq_getElem hlt)).mono hfree (fun _ _=>rfl)
       | none =>
         rw[hp] at hav;simp only[Option.map_none] at hav;split at hav<;>try (cases hav;done)
         simp only[Option.map_eq_some_iff] at hav;obtain ⟨d,hd,rfl⟩:=hav;obtain ⟨k,rfl⟩: ∃k,t=pre.length+1+k:=⟨t-(pre.length+1),by omega⟩;rw[Nat.add_sub_cancel_left] at hd;have hlt:k<vs.length:=by rw[hlv];exact(List.getElem?_eq_some_iff.1 hd).1
         refine⟨vs[k],htm _ _ (by rw[← hlu,List.getElem?_append_right (by omega),show us.length+1+k-us.length=k+1 by omega,List.getElem?_cons_succ,List.getElem?_eq_getElem hlt]),?_⟩;exact(hr k d _ hd (List.getElem?_eq_getElem hlt)).mono hfree (fun _ _=>rfl)
 · rintro ee a w' ⟨σ',hq,hR⟩
   have key:L2 T σ' pre.length rs e L' r→a.defers=[]∧ ∃v,(results fn a.tmps).run P w'= .ok v w'∧ ∃v' cs',Ending.returned v= .returned v'∧iI w.heap.size ⟨w,fun c=>c=b⟩ w w'∧w'.heap[b]?=some (.cells cs' e (0,0))∧Cells P w' (FW w.heap.size G w') e L' cs'∧Mn P e b cs'.size L' w' (FW w.heap.size G w') r v':=fun hq=>by
    refine⟨hR.defers,?_⟩;obtain ⟨O,hOr,hO⟩:=hR.own;have hI:Inv P w.heap.size (fun c=>G c∨c=b) ⟨w,fun c=>c=b⟩ (fun _=>True) σ'.get σ'.get a w' O:=⟨hR.below,hR.base,hR.f0,hOr,fun t _ av h=>hO t av h,fun t av h _=>hO t av h⟩
    have home: ∀k lo m,σ'.get k=some (.wn true e L' lo m)→ ∃cs',O b=some k∧w'.heap[b]?=some (.cells cs' e (0,0))∧Cells P w' (FW w.heap.size G w') e L' cs':=fun k lo m h=>by
     obtain ⟨v,hv,hr⟩:=hO k _ h;rcases hr with ⟨h,_⟩ | ⟨b',o',cap',cs',hq,h1,h0,h2,h3,h4,h5,h6,h7,h8⟩
     · cases h
     have hbb:b'=b:=hq rfl;subst hbb;refine⟨cs',h2,h3,h7,fun i d hd=>?_⟩;obtain ⟨f1,u,f2,f3⟩:=h8 i d hd;refine⟨f1,u,f2,f3.mono (fun c hc=>?_) (fun _ _=>rfl)⟩;have hne:c≠b':=fun e=>by subst e;rw[aP,h2] at hc;cases hc.1
     rcases hc.2 with h | h
     · exact .inl (h.resolve_right hne)
     · exact .inr h
    cases r with
    | val res =>
      obtain ⟨⟨lo,m,h0⟩,hs,hres⟩:=hq;obtain ⟨cs',_,hb1,hc1⟩:=home _ lo m h0;obtain ⟨v,hrun,hrd⟩:=C6 hT hrs hR hres;exact⟨v,hrun,v,cs',rfl,hR.below,hb1,hc1,hs,hrd.scalar hs⟩
    | part lo m =>
      obtain ⟨h,⟨lo0,m0,h0⟩,t,hrt,av,hav,hw⟩:=hq;obtain ⟨cs',hOb,hb1,hc1⟩:=home _ lo0 m0 h0;subst hrt
      have hsome: ∃v,a.tmps[t]?=some v:=by
       cases hs:σ'.get t with
       | none=>simp[ex,hs] at hav
       | some av=>obtain ⟨v,hv,_⟩:=hO t av hs;exact⟨v,hv⟩
      obtain ⟨v,hv⟩:=hsome;obtain ⟨x,hx,hrow,hlm,cap',hc1',hc2,hvv⟩:=gJ hI (a6 hI (fun _ _=>trivial) hav 0).1 hw;rw[gn hv] at hvv;rw[h0] at hx;simp at hx;subst hx;refine⟨v,tc hrs hv,v,cs',rfl,hR.below,hb1,hc1,hlm,?_⟩;rcases hvv with ⟨_,hq,_⟩ | ⟨b',o1,len,cap,cs2,o2,hq,htm,rfl,h0',hOb',hb2,_⟩
      · simp[AV.tag] at hq
      · have hbb:b'=b:=hq.1 rfl;subst hbb;rw[hb1] at hb2;simp at hb2;subst hb2;exact⟨o2,cap',rfl,⟨h0'.1,h0'.2.1,Nat.le_trans h0'.2.2.1 hq.2⟩,hc1',hc2⟩
   cases ee with
   | normal=>exact key hq
   | ret=>exact key hq
   | exit _=>exact hq.elim
   | goto _=>exact hq.elim
   | panic _=>exact hq.elim
   | outgrown=>exact hq.elim
theorem D4.intro(hT:bD P T){f:FuncId}{fn:Func}{c:Code}{rs:List ResultVar}{e lo m:Nat}{args L L':List D}{r:MR}(hf:P.funcs[f]?=some fn)(hb:fn.body=some c)(hrs:fn.results.toList=rs)(hn:fn.ntmps=n)(hl:args.length+1≤n)(hnm:(fn.name=="runtime.NumGoroutine")=false)(hlen:L'.length=L.length)
  (h: ∀(B:Nat) (F0:Nat→Prop) (w0:cX),AW P B F0 w0 n c (MH T 0 rs e L' r) ((0,.wn true e L lo m)::eI 1 args)):D4 P f e L lo m args L' r :=
 AG.intro hT hf hb hrs hn (by simp;omega) hnm hlen h
theorem Rel.K5{a:Act}{w w':World}{h b:Nat}{x x':AV}{cs cs0:Array Value}{e0:TypeId}{fz:Nat×Nat}{O:Nat→Option Nat}(hbb:w.heap[b]?=some (.cells cs0 e0 fz))(hbb':w'.heap[b]?=some (.cells cs e0 fz))(hbel:iI B w0 w w')(hold: ∀c,c<w.heap.size→c≠b→w'.heap[c]?=w.heap[c]?)(hR:Rel P B F0 w0 n σ a w)
  (hOr: ∀b t,O b=some t→j7 B w0 w b) (hO: ∀t av,σ.get t=some av→ ∃v,a.tmps[t]?=some v∧eQ P w0.X w O (FW B F0 w) σ.get (fun h=>a.tmps[h]?) t av v)
  (hx:σ.get h=some x) (hb:O b=some h) (hsame: ∃e l l',x.row=some (e,l)∧x'.row=some (e,l')∧l.length=l'.length∧x.tag=x'.tag)
  (hv: ∀v,a.tmps[h]?=some v→eQ P w0.X w O (FW B F0 w) σ.get (fun h=>a.tmps[h]?) h x v→eQ P w0.X w' O (FW B F0 w') σ.get (fun h=>a.tmps[h]?) h x' v)
  (hh:x'.home=true):Rel P B F0 w0 n ((h,x')::σ) a w':=by
 have hget: ∀t,St.get ((h,x')::σ) t=if h=t then some x' else σ.get t:=fun t=>St.aM _ _ _ _
 have hbase':B≤w'.heap.size:=Nat.le_trans hR.base hbel.size;refine⟨hR.below.trans hbel,hbase',hR.f0,hR.defers,hR.size,O,fun c t hc=>⟨(hOr c t hc).1,Nat.lt_of_lt_of_le (hOr c t hc).2 hbel.size⟩,fun t av hav=>?_⟩;rw[hget] at hav;by_cases htd:h=t
 · subst htd;simp at hav;subst hav;obtain ⟨v,hv',hr⟩:=hO h x hx;refine⟨v,hv',(hv v hv' hr).mono (fun c hc=>FW.step hR.f0 hbase' (Nat.le_refl _) c hc) (fun _ _=>rfl) (fun c u hc=>Nat.lt_of_lt_of_le (hOr c u hc).2 hbel.size) (fun _ _=>rfl) (fun k hk=>?_)⟩;exfalso;cases x'<;>simp_all [AV.home,AV.refs]
 · rw[if_neg htd] at hav;obtain ⟨v,hv',hr⟩:=hO t av hav;refine⟨v,hv',?_⟩;have h1:eQ P w0.X (w.setRow b cs) O (FW B F0 w) (St.get ((h,x')::σ)) (fun h=>a.tmps[h]?) t av v:=hr.write hb (fun e=>absurd e.symm htd) (fun _ hc=>hc) (fun k hk=>⟨fun ds hds=>?_,fun z e l hz hl=>?_⟩)
   · refine h1.mono (fun c hc=>⟨by simpa using (FW.step hR.f0 hR.base (Nat.le_refl _) c hc).1,(FW.step hR.f0 hR.base hbel.size c hc).2⟩) (fun _ _=>rfl) (fun c u hc=>by simpa using (hOr c u hc).2) (fun c hc=>?_) (fun k hk x hx hg=>⟨hg,rfl⟩);by_cases hcb:c=b
     · subst hcb;rw[hbb',setRow_heap w c _ cs e0 fz hbb]
     · rw[setRow_other w b c cs hcb];exact hold c (by simpa using hc) hcb
   · rw[hget] at hds;split at hds
     · rename_i hk';subst hk';simp at hds;subst hds;obtain ⟨_,_,_,_,h2,_,_⟩:=hsame;simp[AV.row] at h2
     · exact⟨ds,hds⟩
   · rw[hget] at hz;split at hz
     · rename_i hk';subst hk';simp at hz;subst hz;obtain ⟨e',l1,l2,h1,h2,h3,h4⟩:=hsame;rw[h2] at hl;simp at hl;obtain ⟨rfl,rfl⟩:=hl;exact⟨x,l1,hx,h1,h3,h4⟩
     · exact⟨z,l,hz,hl,rfl,rfl⟩
def yX(T:Ty)(σ:St):List Operand→List Nat→Option (Nat×Nat×Nat×List D×Nat×Nat)
 | x::xs,t::ts=>match lE σ.get (ex T σ.get t x) with
   | some (h,e,l,lo,m)=>some (0,h,e,l,lo,m)
   | none=>match yX T σ xs ts with
     | some (p,h,e,l,lo,m)=>some (p+1,h,e,l,lo,m)
     | none=>none
 | _,_=>none
theorem w6{T:Ty}{σ:St}: ∀{xs:List Operand} {ts:List Nat} {p h e lo m:Nat} {l:List D},yX T σ xs ts=some (p,h,e,l,lo,m)→ ∃x t,xs=xs.take p++x::xs.drop (p+1)∧xs[p]?=some x∧lE σ.get (ex T σ.get t x)=some (h,e,l,lo,m)
 | [],_,_,_,_,_,_,_,h=>by simp[yX] at h
 | _::_,[],_,_,_,_,_,_,h=>by simp[yX] at h
 | x::xs,t::ts,p,hh,e,lo,m,l,h=>by
   simp only[yX] at h;split at h
   · rename_i h1;simp at h;obtain ⟨rfl,rfl,rfl,rfl,rfl,rfl⟩:=h;exact⟨x,t,by simp,rfl,h1⟩
   · split at h<;>simp at h;rename_i h1;obtain ⟨rfl,rfl,rfl,rfl,rfl,rfl⟩:=h;obtain ⟨y,u,g1,g2,g3⟩:=w6 h1;exact⟨y,u,by rw[List.take_succ_cons,List.cons_append,List.drop_succ_cons,← g1],by simpa using g2,g3⟩
def FZ(T:Ty)(σ:St):Op→Option (FuncId×Nat×AV×Nat×List D×Nat×Nat×List D×List D)
 | .call c=>match c.callee with
   | .value (.func f)=>match yX T σ c.args.toList c.argTypes.toList with
     | some (p,h,e,l,lo,m)=>match σ.get h,tL T σ.get (jG σ h) (c.args.toList.take p) (c.argTypes.toList.take p),tL T σ.get (jG σ h) (c.args.toList.drop (p+1)) (c.argTypes.toList.drop (p+1)) with
       | some y,some d1,some d2=>some (f,h,y,e,l,lo,m,d1,d2)
       | _,_,_=>none
     | none=>none
   | _=>none
 | _=>none
def Mm(P:Program)(B:Nat)(F0:Nat→Prop)(w0:cX)(n:Nat)(σ:St)(a:Act)(h e:Nat)(y:AV)(l':List D)(r:MR)(v:Value)(w':World):Prop :=
 Rel P B F0 w0 n ((h,y.dc l')::σ) a w'∧ ∃b o1 len cap1 cs' G,l'≠[]∧(y.tag=true→w0.X b)∧a.tmps[h]?=some (.slice (some ⟨b,o1,none⟩) len cap1)∧w'.heap[b]?=some (.cells cs' e (0,0))∧Cells P w' G e l' cs'∧Mn P e b cs'.size l' w' G r v
theorem Cr(hT:bD P T){f h e lo m:Nat}{y:AV}{l l' d1 d2:List D}{r:MR}(hx:FZ T σ o.op=some (f,h,y,e,l,lo,m,d1,d2))(hP:AG P f e l lo m d1 d2 l' r)(h0:0<m)(hs:jL l'=true)
  {a:Act} {w:World} (hR:Rel P B F0 w0 n σ a w) (K:Act→World→Prop) (Q:Exit→Act→World→Prop) (hK: ∀v w',y.row=some (e,l)→Mm P B F0 w0 n σ a h e y l' r v w'→K (a.put o.dst v) w'):o.wp P a w K Q:=by
 obtain ⟨O,hOr,hO⟩:=hR.own;have hI:Inv P B F0 w0 (fun _=>True) σ.get σ.get a w O:=⟨hR.below,hR.base,hR.f0,hOr,fun t _ av h=>hO t av h,fun t av h _=>hO t av h⟩;obtain ⟨dst,op,ty,pos,after,guard⟩:=o;simp only[] at hx hK;cases op<;>simp only[FZ] at hx<;>try (cases hx;done)
 rename_i c;obtain ⟨callee,args,ats⟩:=c;simp only[] at hx;split at hx<;>try (cases hx;done)
 rename_i g;split at hx<;>try (cases hx;done)
 rename_i p h' e' l1 lo' m' hw;split at hx<;>simp at hx;rename_i y' d1' d2' hy hds1 hds2;obtain ⟨rfl,rfl,rfl,rfl,rfl,rfl,rfl,rfl,rfl⟩:=hx;obtain ⟨x,t,hxs,_,hwx⟩:=w6 hw;cases hxe:ex T σ.get t x with
 | none=>rw[hxe] at hwx;simp[lE] at hwx
 | some av =>
 rw[hxe] at hwx;obtain ⟨z,hz,hrow,hlm,cap,hcap,hmax,hv⟩:=gJ hI (a6 hI (fun _ _=>trivial) hxe 0).1 hwx;rw[hy] at hz;simp at hz;subst hz;rcases hv with ⟨hl0,_⟩ | ⟨b,o1,len,cap1,cs,off,hq,htm,hev,h0',hOb,hb,hu,hcells⟩
 · omega
 have hIh:=hR.inv hOr hO (fun _=>True) h';have hG1: ∀c,aP O (FW B F0 w) c→FW B F0 w c∧O c≠some h':=fun c hc=>⟨hc.2,by rw[hc.1];simp⟩;have hG2: ∀c t y,O c=some t→jG σ h' t=some y→y.home=true→FW B F0 w c∧O c≠some h':=fun c t y hc ht _=>⟨(hOr c t hc).fw hR.f0,by rw[hc];simpa using (ru ht).1⟩;have hargs1:=lW hT hIh (G:=fun c=>FW B F0 w c∧O c≠some h') hG1 hG2 _ _ d1' (fun _ _ _ _=>trivial) hds1;have hargs2:=lW hT hIh (G:=fun c=>FW B F0 w c∧O c≠some h') hG1 hG2 _ _ d2' (fun _ _ _ _=>trivial) hds2
 have hcall:=hP.2.2 w (fun c=>FW B F0 w c∧O c≠some h') b off cap cs _ _ (fun c hc=>⟨(FW.step hR.f0 hR.base (Nat.le_refl _) c hc.1).1,fun e=>hc.2 (e▸hOb)⟩) hb ⟨h0'.1,h0'.2.1,Nat.le_trans h0'.2.2.1 hq.2⟩ hlm hcap hmax
  ⟨hu,fun i d hd=>by obtain ⟨f1,u,f2,f3⟩:=hcells i d hd;exact⟨f1,u,f2,f3.mono hG1 (fun _ _=>rfl)⟩⟩ hargs1.1 hargs1.2 hargs2.1 hargs2.2
 unfold Oper.wp;rw[lV hP.1];show Calls P g (args.map a.eval) w _
 have he:((args.toList.take p).map a.eval++Value.slice (some ⟨b,off,none⟩) m' cap::(args.toList.drop (p+1)).map a.eval).toArray=args.map a.eval:=by
  rw[← hev];apply Array.ext';rw[Array.toList_map]
  conv=>rhs;rw[hxs]
  simp
 rw[he] at hcall;have hbs:=(hOr b h' hOb);refine hcall.mono fun ee w' ⟨v,cs',he,hbel,hb',hc',hr⟩=>?_;subst he;have hsz:=hbel.size
 have hbelB:iI B w0 w w':=⟨hbel.os,hbel.tape,hbel.output,hbel.size,fun k hk hxk=>hbel.block k (Nat.lt_of_lt_of_le hk hR.base) (fun e=>by
  subst e;rcases hbs.1 with h1 | h1
  · omega
  · exact hxk h1),hbel.same⟩
 have hcsz:cs'.size=cs.size:=by
  obtain ⟨c2,h1,h2⟩:=hbel.same b cs _ _ hb;rw[hb'] at h1;simp at h1;rw[h1];exact h2
 have hR1:Rel P B F0 w0 n ((h',y'.dc l')::σ) a w':=by
  refine Rel.K5 hb hb' hbelB (fun c hc hne=>hbel.block c hc hne) hR hOr hO hy hOb ⟨_,_,_,hrow,(dQ hrow).1,hP.2.1.symm,(dQ hrow).2.2.symm⟩ (fun v hv hr=>?_) (dQ hrow).2.1;rw[htm] at hv;simp at hv;subst hv;exact oA hr hrow hb hb' hcsz hP.2.1 (fun e=>by subst e;simp at hlm;omega) hc'.1 (fun i d hd=>by obtain ⟨f1,u,f2,f3⟩:=hc'.2 i d hd;exact⟨f1,u,f2,f3.plain (pJ hs hd)⟩)
 exact hK v w' hrow ⟨hR1,b,o1,len,cap1,cs',_,fun e=>by have h1:=hP.2.1;rw[e] at h1;simp at h1;omega,hq.1,htm,hb',hc',hr⟩
theorem dZ.yW(hT:bD P T){f h e lo m:Nat}{y:AV}{l l' d1 d2:List D}{res:D}(hd:o.dst=some d)(hdn:d<n)(hx:FZ T σ o.op=some (f,h,y,e,l,lo,m,d1,d2))(hP:AG P f e l lo m d1 d2 l' (.val res))(h0:0<m)(hs:jL l'=true)(hne:h≠d):
  dZ P B F0 w0 n o σ ((d,.d res)::(h,y.dc l')::σ):=by
 intro a w hR K Q hK;refine Cr hT hx hP h0 hs hR K Q (fun v w' _ ⟨hR1,b,o1,len,cap1,cs',G,_,_,_,_,_,hr⟩=>?_);obtain ⟨O2,hOr2,hO2⟩:=hR1.own;rw[hd];have hput:=hR1.put (d:=d) (av:= .d res) (v:=v) hOr2 hO2 hdn (du.refl (fun b t hb=>(hOr2 b t hb).2)) (hr.2.scalar hr.1);exact hK _ _ hput
theorem dZ.tJ(hT:bD P T){f h e lo m lo' m':Nat}{y:AV}{l l' d1 d2:List D}(hd:o.dst=some d)(hdn:d<n)(hx:FZ T σ o.op=some (f,h,y,e,l,lo,m,d1,d2))(hP:AG P f e l lo m d1 d2 l' (.part lo' m'))(h0:0<m)(hs:jL l'=true)(hne:h≠d):
  dZ P B F0 w0 n o σ ((d,.wn y.tag e l' lo' m')::(h,.junk)::St.kill d ((h,y.dc l')::σ)):=by
 intro a w hR K Q hK;refine Cr hT hx hP h0 hs hR K Q (fun v w' hrow ⟨hR1,b,o1,len,cap1,cs',G,hne',hX,htm,hb',hc',hr⟩=>?_);obtain ⟨O2,hOr2,hO2⟩:=hR1.own;obtain ⟨hlm2,o2,cap2,rfl,h02,hc2,hm2⟩:=hr;have hget:St.get ((h,y.dc l')::σ) h=some (y.dc l'):=by rw[St.aM,if_pos rfl]
 obtain ⟨u,hu,hur⟩:=hO2 h _ hget;rw[htm] at hu;simp at hu;subst hu;rw[hd];refine hK _ _ (hR1.consume (O':=rV O2 h d) hO2 hdn hne ⟨_,hget⟩ rfl (.refl _ _ _) (nq hOr2) (fun c hc=>⟨⟨ff.2 hc.1,hc.2⟩,rfl⟩) (fun c t hc h1 h2=>⟨fN hc h1 h2,rfl⟩) ?_)
 have hOb:O2 b=some h:=by
  rcases lI hur (dQ hrow).1 with ⟨h1,_⟩ | ⟨_,_,h1,_⟩
  · exact absurd h1 hne'
  · exact h1
 exact .inr ⟨b,o2,cap2,cs',hX,rfl,⟨h02.1,h02.2.1,h02.2.2⟩,by simp[rV,hOb],hb',hlm2,hc2,hm2,hc'.1,fun i dd hdd=>by
  obtain ⟨f1,u,f2,f3⟩:=hc'.2 i dd hdd
  exact⟨f1,u,f2,f3.plain (pJ hs hdd)⟩⟩
end
end Lift
namespace Lift
open Go
section
variable {P:Program} {T:Ty} {B:Nat} {F0:Nat→Prop} {w0:cX} {n:Nat} {o:Oper} {d:Nat} {σ:St} {K:St→Prop} {all ops:Array Oper} {rest:List Oper} {ds:List Nat} {σ0 τ:St}
theorem ae.Mr(hT:bD P T){h a0 m:Nat}{l:List D}{lo hi:Option Int}(hd:o.dst=some d)(hdn:Nat.ble (d+1) n=true)(hg:aG all σ o=true)(hx:Lk T σ.get (jG σ d) o.op=some (h,l,a0,m,lo,hi))(g1:okB lo)(g2:okB hi)(g3:fU lo≤cV m hi)(g4:cV m hi≤m)
  (hk:ae P B F0 w0 n all rest K ((d,.sb h (a0+fU lo) (cV m hi-fU lo))::σ)):ae P B F0 w0 n all (o::rest) K σ:=ae.pure hg hdn (aN.Mr hT hd (bu σ d) hx g1 g2 g3 g4) hk
theorem ae.wU(hT:bD P T){f:FuncId}{xas L:List D}{e lo m:Nat}(hd:o.dst=some d)(hdn:Nat.ble (d+1) n=true)(hg:aG all σ o=true)(hx:wV T σ.get (jG σ d) o.op=some (f,xas))(hP:lY P f xas e L lo m)(hs:jL L=true)
  (hk:ae P B F0 w0 n all rest K ((d,.wn false e L lo m)::σ.kill d)):ae P B F0 w0 n all (o::rest) K σ:=ae.pure hg hdn (aN.wU hT hd (bu σ d) hx hP hs) hk
theorem ae.yW(hT:bD P T){f:FuncId}{h e lo m:Nat}{y:AV}{l l' d1 d2:List D}{res:D}(hd:o.dst=some d)(hdn:Nat.ble (d+1) n=true)(hg:aG all σ o=true)(hx:FZ T σ o.op=some (f,h,y,e,l,lo,m,d1,d2))(hP:AG P f e l lo m d1 d2 l' (.val res))(h0:0<m)(hs:jL l'=true)(hne:Nat.beq h d=false)
  (hk:ae P B F0 w0 n all rest K ((d,.d res)::(h,y.dc l')::σ)):ae P B F0 w0 n all (o::rest) K σ:=ae.op hg (dZ.yW hT hd (Nat.le_of_ble_eq_true hdn) hx hP h0 hs (Nat.ne_of_beq_eq_false hne)) hk
theorem ae.tJ(hT:bD P T){f:FuncId}{h e lo m lo' m':Nat}{y:AV}{l l' d1 d2:List D}(hd:o.dst=some d)(hdn:Nat.ble (d+1) n=true)(hg:aG all σ o=true)(hx:FZ T σ o.op=some (f,h,y,e,l,lo,m,d1,d2))(hP:AG P f e l lo m d1 d2 l' (.part lo' m'))(h0:0<m)(hs:jL l'=true)(hne:Nat.beq h d=false)
  (hk:ae P B F0 w0 n all rest K ((d,.wn y.tag e l' lo' m')::(h,.junk)::St.kill d ((h,y.dc l')::σ))):ae P B F0 w0 n all (o::rest) K σ:=ae.op hg (dZ.tJ hT hd (Nat.le_of_ble_eq_true hdn) hx hP h0 hs (Nat.ne_of_beq_eq_false hne)) hk
theorem ah.wU(hT:bD P T){f:FuncId}{xas L:List D}{e lo m:Nat}(hd:o.dst=some d)(hdn:Nat.ble (d+1) n=true)(hg:aG ops τ o=true)(hs:σ0.get d=none)(hx:wV T τ.get σ0.get o.op=some (f,xas))(hP:lY P f xas e L lo m)(hsc:jL L=true)
  (h:ah P B F0 w0 n ops ds σ0 rest ((d,.wn false e L lo m)::τ) K):ah P B F0 w0 n ops ds σ0 (o::rest) τ K:=ah.pure hd hdn rfl hg (aN.wU hT hd hs hx hP hsc) h
def Og{S:Type}(ks:List Nat)(mk:S→St)(I:S→Prop)(Q:Exit→St→Prop):Exit→St→Prop
 | .normal,σ=> ∃s,σ.dJ ks=mk s∧I s
 | .exit i,σ=>Q (.exit i) σ
 | .goto i,σ=>Q (.goto i) σ
 | .ret,σ=>Q .ret σ
 | .panic c,σ=>Q (.panic c) σ
 | .outgrown,σ=>Q .outgrown σ
theorem AW.cut{x y:Code}{Q:Exit→St→Prop}{S:Type}(ks:List Nat)(mk:S→St)(I:S→Prop)(hx:AW P B F0 w0 n x (Og ks mk I Q) σ)(hy: ∀s,I s→AW P B F0 w0 n y Q (mk s)):AW P B F0 w0 n (.seq x y) Q σ:=by
 refine AW.seq (AW.mono hx fun e σ' hq=>?_);cases e with
 | normal =>
   obtain ⟨s,h1,h2⟩:=hq;exact AW.dJ ks (h1▸hy s h2)
 | _=>exact hq
end
end Lift
namespace Lift
open Go
open Go.RowKit (Below)
section
variable {P:Program} {T:Ty} {B:Nat} {F0:Nat→Prop} {w0:cX} {n d:Nat} {o:Oper} {σ:St} {K:St→Prop} {all:Array Oper} {rest:List Oper}
theorem MK{X:Nat→Prop}{w:World}{O:Nat→Option Nat}{F:Nat→Prop}{hm:Nat→Option AV}{tm:Nat→Option Value}{t e:Nat}{l:List D}{v:Value}(h:eQ P X w O F hm tm t (.ow e l) v):eQ P X w O F hm tm t (.wn false e l 0 l.length) v:=by
 rcases h with ⟨base,rfl,rfl⟩ | ⟨b,cap,cs,h1,h2,h3,h4,h5,h6,h7,h8⟩
 · exact .inl ⟨rfl,base,rfl,rfl,rfl,rfl⟩
 · exact .inr ⟨b,0,cap,cs,fun h=>by (cases h),h1,⟨.inr (by simp),.inr (by simp),by omega⟩,h2,h3,by omega,h4,h5,h7,h8⟩
def NN(T:Ty)(σ:St):Op→Option (Nat×AV×Nat×List D×Nat×Nat×List D)
 | .call c=>match c.callee with
   | .builtin .copy=>match c.args.toList,c.argTypes.toList with
     | [x,y],[t,u]=>match T.get t,lE σ.get (ex T σ.get t x),xv T σ.get (ex T σ.get u y) with
       | some ti,some (h,e,l,lo,m),some (s,ys)=>match Nat.beq ti.kind 4,Nat.beq e ti.elem,T.get ti.elem,σ.get h with
         | true,true,some te,some av=>match Nat.beq te.size 1,Nat.beq s 1 with
           | true,true=>some (h,av,e,l,lo,m,ys)
           | _,_=>none
         | _,_,_,_=>none
       | _,_,_=>none
     | _,_=>none
   | _=>none
 | _=>none
theorem dZ.copy(hT:bD P T){h e lo m:Nat}{av:AV}{l ys:List D}(hd:o.dst=some d)(hdn:d<n)(hx:NN T σ o.op=some (h,av,e,l,lo,m,ys))(hm:0<m)(hy:ys≠[]):
  dZ P B F0 w0 n o σ ((d,.d (.v (.int .i64 ((min ys.length m:Nat):Int))))::(h,av.dc (l.take lo++ys.take (min ys.length m)++l.drop (lo+min ys.length m)))::σ):=by
 intro a w hR K Q hK;obtain ⟨O,hOr,hO⟩:=hR.own;have hI:Inv P B F0 w0 (fun _=>True) σ.get σ.get a w O:=⟨hR.below,hR.base,hR.f0,hOr,fun t _ av h=>hO t av h,fun t av h _=>hO t av h⟩;obtain ⟨dst,op,ty,pos,after,guard⟩:=o;simp only[] at hd hx;subst hd;cases op<;>simp only[NN] at hx<;>try (cases hx;done)
 rename_i c;obtain ⟨callee,args,ats⟩:=c;simp only[] at hx;split at hx<;>try (cases hx;done)
 split at hx<;>try (cases hx;done)
 rename_i x y t u hxy htu;split at hx<;>try (cases hx;done)
 rename_i ti h' e' l' lo' m' s ys' hti hw hys;split at hx<;>try (cases hx;done)
 rename_i te av' hk hee hte hav;split at hx<;>simp at hx;rename_i hts hss;obtain ⟨rfl,rfl,rfl,rfl,rfl,rfl,rfl⟩:=hx;have hee:=Nat.eq_of_beq_eq_true hee;subst hee;have hts:=Nat.eq_of_beq_eq_true hts;have hss:=Nat.eq_of_beq_eq_true hss;subst hss;have hargs:args= #[x,y]:=by apply Array.ext';simpa using hxy
 have hats:ats= #[t,u]:=by apply Array.ext';simpa using htu
 subst hargs;subst hats;obtain ⟨info,dd,z,hok⟩:=hT t ti hti;obtain ⟨info',dd',z',hok'⟩:=hT _ te hte;have hun:=(hok.jy hk).1;have hsz:info'.size=1:=hok'.size.trans hts;have hcel:P.cellsOf ti.elem=1:=hok'.cellsOf.trans hts;cases hxe:ex T σ.get t x with
 | none=>rw[hxe] at hw;simp[lE] at hw
 | some avx =>
 cases hye:ex T σ.get u y with
 | none=>rw[hye] at hys;simp[xv] at hys
 | some avy =>
 rw[hxe] at hw;rw[hye] at hys;obtain ⟨zz,hz,hrow,hlm,cap,hcap,hmax,hv⟩:=gJ hI (a6 hI (fun _ _=>trivial) hxe 0).1 hw;rw[hav] at hz;simp at hz;subst hz;obtain ⟨ad,cap',hyv,jG,hall⟩:=lF hT hI (a6 hI (fun _ _=>trivial) hye 0).1 hys;rcases hv with ⟨hl0,_⟩ | ⟨b,o1,len,cap1,cs,off,hq,htm,hev,h0',hOb,hb,hu,hcells⟩
 · omega
 rw[hcel] at h0' hu;have hoff:off=lo':=by have:=h0'.1;omega
 subst hoff;rcases hall with h | ⟨sa,news,rfl,g1,g2,g3,g4⟩
 · exact absurd h hy
 have hylen:0<ys'.length:=List.length_pos_iff.2 hy;rw[aR g2,Nat.mul_one] at g1;obtain ⟨k,hkk⟩: ∃k,k=min ys'.length m':=⟨_,rfl⟩;rw[← hkk] at hK
 have hcsl:l'.length≤cs.size:=by
  have h1:=aR hu;rw[Nat.mul_one] at h1;rcases Nat.eq_zero_or_pos l'.length with h0 | h0
  · omega
  · obtain ⟨_,u,f2,_⟩:=hcells (l'.length-1) _ (List.getElem?_eq_getElem (by omega));have:=(Array.getElem?_eq_some_iff.1 f2).1;omega
 have hrun:=run_copy_row (P:=P) w t u ty ti.elem b off m' cap sa ys'.length cap' cs ti.elem (news.take k) hun (by rw[hok'.hinfo];simp[hsz]) hb
  (by rw[List.length_take,g1,hkk];show min (min ys'.length m') ys'.length=min ys'.length m';omega) (fun j v hj=>by
   rw[List.getElem?_take] at hj;split at hj
   · exact g3 j v hj
   · cases hj) (by rw[List.length_take];omega) (fun v hv=>g4.wT v (List.mem_of_mem_take hv))
 have hnk:(news.take k).length=k:=by rw[List.length_take];omega
 rw[hnk] at hrun;obtain ⟨cs',hcs'⟩: ∃cs',cs'=(cs.toList.take off++news.take k++cs.toList.drop (off+k)).toArray:=⟨_,rfl⟩;rw[← hcs'] at hrun
 have hss:cs'.size=cs.size:=by
  rw[hcs'];simp only[List.size_toArray,List.length_append,List.length_take,List.length_drop,Array.length_toList];omega
 have hex:(execOp a.eval {dst:=some d,op:= .call {callee:= .builtin .copy,args:= #[x,y],argTypes:= #[t,u]},type:=ty,pos:=pos,after:=after,guard:=guard}).run P w= .ok (.value (goInt k)) (w.setRow b cs'):=by
  simp[execOp,resolve,invoke,builtin,hev,hyv,hrun]
 refine bg hex ?_
 have hR1:Rel P B F0 w0 n ((h',av'.dc (l'.take off++ys'.take k++l'.drop (off+k)))::σ) a (w.setRow b cs'):=by
  refine Rel.write hb hss hR hOr hO hav hOb (.inr ⟨_,_,_,hrow,(dQ hrow).1,by simp only[List.length_append,List.length_take,List.length_drop];omega,(dQ hrow).2.2.symm⟩) (fun v hv hr=>?_) (dQ hrow).2.1;rw[htm] at hv;simp at hv;subst hv;refine oA hr hrow hb (setRow_heap w b cs _ ti.elem _ hb) hss (by simp only[List.length_append,List.length_take,List.length_drop];omega) (fun h0=>by subst h0;simp at hlm;omega) (fun x hx=>?_) (fun j dd hj=>?_)
  · rw[hcel];rcases List.mem_append.1 hx with hx | hx
    · rcases List.mem_append.1 hx with hx | hx
      · exact hu x (List.mem_of_mem_take hx)
      · exact g2 x (List.mem_of_mem_take hx)
    · exact hu x (List.mem_of_mem_drop hx)
  · have hB: ∀c,aP O (FW B F0 w) c→(w.setRow b cs').heap[c]?=w.heap[c]?:=fun c hc=>setRow_other w b c _ (fun e=>by rw[e,aP,hOb] at hc;cases hc.1);have fl: ∀(q:List D),(∀x,x∈q→x.flat.length=1)→(flatAll q).length=q.length:=fun q hq=>by rw[aR hq,Nat.mul_one]
    have f1:=fl (l'.take off) (fun x hx=>hu x (List.mem_of_mem_take hx));have f2:=fl (ys'.take k) (fun x hx=>g2 x (List.mem_of_mem_take hx));have e1:flatAll l'=flatAll (l'.take off)++flatAll (l'.drop off):=by rw[← b9,List.take_append_drop]
    have e2:flatAll ys'=flatAll (ys'.take k)++flatAll (ys'.drop k):=by rw[← b9,List.take_append_drop]
    have e3:flatAll l'=flatAll (l'.take (off+k))++flatAll (l'.drop (off+k)):=by rw[← b9,List.take_append_drop]
    have f3:=fl (l'.take (off+k)) (fun x hx=>hu x (List.mem_of_mem_take hx));rw[List.length_take] at f1 f2 f3;rw[b9,b9] at hj;have hcg:cs'[j]?=(cs.toList.take off++news.take k++cs.toList.drop (off+k))[j]?:=by rw[hcs',List.getElem?_toArray]
    rw[hcg];rw[List.getElem?_append] at hj;rw[List.length_append] at hj;split at hj
    · rename_i hj1;rw[List.getElem?_append] at hj;split at hj
      · rename_i hj2;have h1:(flatAll l')[j]?=some dd:=by rw[e1,List.getElem?_append_left hj2];exact hj
        obtain ⟨q1,v,q2,q3⟩:=hcells j dd h1;exact⟨q1,v,by rw[List.append_assoc,List.getElem?_append_left (by simp;omega),List.getElem?_take_of_lt (by omega)];simpa using q2,q3.mono (fun _ h=>by simpa[aP,FW] using h) hB⟩
      · rename_i hj2;have h1:(flatAll ys')[j-(flatAll (l'.take off)).length]?=some dd:=by rw[e2,List.getElem?_append_left (by omega)];exact hj
        obtain ⟨q1,v,q2,q3⟩:=g4.get h1
        exact⟨q1,v,by
         rw[List.append_assoc,List.getElem?_append_right (by simp;omega),List.getElem?_append_left (by simp;omega),List.getElem?_take_of_lt (by simp;omega),← q2]
         congr 1
         simp
         omega,q3.mono (fun _ h=>by simpa[aP,FW] using h) hB⟩
    · rename_i hj1
      have h1:(flatAll l')[j]?=some dd:=by
       rw[e3,List.getElem?_append_right (by omega),← hj]
       congr 1
       omega
      obtain ⟨q1,v,q2,q3⟩:=hcells j dd h1
      exact⟨q1,v,by
       rw[List.getElem?_append_right (by simp;omega),List.getElem?_drop];rw[← q2];simp
       congr 1
       omega,q3.mono (fun _ h=>by simpa[aP,FW] using h) hB⟩
 obtain ⟨O2,hOr2,hO2⟩:=hR1.own;exact hK _ _ (hR1.put (d:=d) (av:= .d (.v (.int .i64 (k:Int)))) (v:=goInt k) hOr2 hO2 hdn (du.refl (fun b t hb=>(hOr2 b t hb).2)) (.v rfl))
theorem ae.copy(hT:bD P T){h e lo m:Nat}{av:AV}{l ys:List D}(hd:o.dst=some d)(hdn:Nat.ble (d+1) n=true)(hg:aG all σ o=true)(hx:NN T σ o.op=some (h,av,e,l,lo,m,ys))(hm:0<m)(hy:ys≠[])
  (hk:ae P B F0 w0 n all rest K ((d,.d (.v (.int .i64 ((min ys.length m:Nat):Int))))::(h,av.dc (l.take lo++ys.take (min ys.length m)++l.drop (lo+min ys.length m)))::σ)):ae P B F0 w0 n all (o::rest) K σ :=
 ae.op hg (dZ.copy hT hd (Nat.le_of_ble_eq_true hdn) hx hm hy) hk
def addEdge(i j:Nat)(o:Oper):Oper:=match Nat.beq i j with
 | true=>o
 | false=>⟨o.dst,o.op,o.type,o.pos,o.after.push ⟨i,.data⟩,o.guard⟩
theorem D1(i j:Nat)(o:Oper):(addEdge i j o).op=o.op∧(addEdge i j o).dst=o.dst∧(addEdge i j o).guard=o.guard:=by
 unfold addEdge;split<;>exact⟨rfl,rfl,rfl⟩
theorem AF(i j:Nat)(o:Oper)(ρ:Operand→Value):execOp ρ (addEdge i j o)=execOp ρ o:=by
 unfold addEdge;split
 · rfl
 · obtain ⟨dst,op,ty,pos,after,guard⟩:=o;rfl
def KD(ops:Array Oper):Bool:=ops.toList.all fun o=>match o.op with
 | .select _ _=>false
 | _=>true
section
variable {Q:Exit→Act→World→Prop} {ops:Array Oper}
end
end
end Lift
namespace Lift
open Go
open Go.RowKit (Below)
def St.wo(hs:List Nat):St→St
 | []=>[]
 | (k,a)::r=>match pW k hs with
   | true=>St.wo hs r
   | false=>(k,a)::St.wo hs r
theorem H0(hs:List Nat)(σ:St)(t:Nat):(σ.wo hs).get t=if t∈hs then none else σ.get t:=by
 induction σ with
 | nil=>simp[St.wo,St.get]
 | cons e r ih =>
   obtain ⟨k,a⟩:=e;simp only[St.wo];split
   · rename_i h;have h:=fj.1 h;rw[ih,St.aM];by_cases hk:k=t
     · subst hk;simp[h]
     · simp[hk]
   · rename_i h;have h:k ∉ hs:=fun e=>by rw[fj.2 e] at h;cases h
     rw[St.aM,St.aM,ih];by_cases hk:k=t
     · subst hk;simp[h]
     · simp[hk]
theorem yZ{hs:List Nat}{σ:St}{t:Nat}{av:AV}(h:(σ.wo hs).get t=some av):t ∉ hs∧σ.get t=some av:=by
 rw[H0] at h;split at h
 · cases h
 · rename_i hn;exact⟨hn,h⟩
def oY(listed:Array Bool):Nat→List (Nat×AV)→St
 | _,[]=>[]
 | k,e::r=>match listed.getD k false with
   | true=>e::oY listed (k+1) r
   | false=>oY listed (k+1) r
theorem gV{listed:Array Bool}{t:Nat}: ∀(l:List (Nat×AV)) (k:Nat),(∀(i:Nat) (e:Nat×AV),l[i]?=some e→listed.getD (k+i) false=true→e.1≠t)→(oY listed k l).get t=none
 | [],k,h=>rfl
 | e::r,k,h=>by
   have ih:=gV r (k+1) (fun i e' he hl=>h (i+1) e' (by simpa using he) (by rw[show k+(i+1)=k+1+i by omega];exact hl));simp only[oY];split
   · rename_i hl;obtain ⟨k',a⟩:=e;rw[St.aM,if_neg (h 0 (k',a) rfl hl)];exact ih
   · exact ih
theorem sS{listed:Array Bool}{t:Nat}{av:AV}: ∀(l:List (Nat×AV)) (k i:Nat),(∀(i j:Nat) (a b:AV),l[i]?=some (t,a)→l[j]?=some (t,b)→i=j)→l[i]?=some (t,av)→listed.getD (k+i) false=true→(oY listed k l).get t=some av
 | [],k,i,_,h,_=>by simp at h
 | e::r,k,0,hd,h,hl=>by
   simp at h;subst h;simp only[Nat.add_zero] at hl;simp only[oY,hl];rw[St.aM,if_pos rfl]
 | e::r,k,i+1,hd,h,hl=>by
   have ih:=sS r (k+1) i (fun i j a b h1 h2=>by have:=hd (i+1) (j+1) a b (by simpa using h1) (by simpa using h2);omega) (by simpa using h) (by rw[show k+1+i=k+(i+1) by omega];exact hl);simp only[oY];split
   · obtain ⟨k',a⟩:=e
     have hne:k'≠t:=fun e=>by
      subst e;have:=hd 0 (i+1) a av rfl h;omega
     rw[St.aM,if_neg hne];exact ih
   · exact ih
theorem A5{T:Ty}{τ σ':St}{op:Op}(h:pC T τ op=some σ'): ∃t p x i h off ds y,op= .store t p x∧T.get t=some i∧ex T τ.get 0 p=some (.pt h off)∧dC T (ex T τ.get t x)=some y∧τ.get h=some (.bx ds) ∧
  vX y=true∧Nat.beq y.flat.length i.size=true∧Nat.ble (off+y.flat.length) ds.length=true∧σ'=(h,.bx (ds.take off++y.flat++ds.drop (off+y.flat.length)))::τ:=by
 cases op<;>simp only[pC] at h<;>try (cases h;done)
 rename_i t p x;split at h<;>try (cases h;done)
 rename_i i k off y hi hp hx;split at h<;>try (cases h;done)
 rename_i ds hh hnt hs;split at h<;>try (cases h;done)
 rename_i hl;exact⟨t,p,x,i,k,off,ds,y,rfl,hi,hp,hx,hh,hnt,hs,hl,(Option.some.inj h).symm⟩
theorem G7{T:Ty}{τ:St}{op:Op}{h i off:Nat}{xh:AV}{l:List D}{y:D}(hx:Ep T τ op=some (h,xh,l,i,off,y)): ∃t p x ti e,op= .store t p x∧T.get t=some ti∧ex T τ.get 0 p=some (.el h i off)∧dC T (ex T τ.get t x)=some y∧τ.get h=some xh∧xh.row=some (e,l) ∧
  vX y=true∧Nat.beq y.flat.length ti.size=true:=by
 cases op<;>simp only[Ep] at hx<;>try (cases hx;done)
 rename_i t p x;split at hx<;>try (cases hx;done)
 rename_i ti h' i' off' y' hti hp hy;split at hx<;>try (cases hx;done)
 rename_i xh' hg;split at hx<;>try (cases hx;done)
 rename_i e l' hrow;split at hx<;>simp at hx;rename_i h1 h2;obtain ⟨rfl,rfl,rfl,rfl,rfl,rfl⟩:=hx;exact⟨t,p,x,ti,e,rfl,hti,hp,hy,hg,hrow,h1,h2⟩
inductive sX (T:Ty) (τ:St) (o:Oper) (h:Nat):AV→Prop
 | bx {av:AV} (hs:pC T τ o.op=some ((h,av)::τ)):sX T τ o h av
 | el {xh:AV} {l:List D} {i off:Nat} {y old:D} (hx:Ep T τ o.op=some (h,xh,l,i,off,y)) (hold:l[i]?=some old) (hok:xI old y off=true):sX T τ o h (xh.dc (l.set i (nF old y off)))
theorem sX.spec{T:Ty}{τ:St}{o:Oper}{h:Nat}{av:AV}(hs:sX T τ o h av): ∃t p x q y xh,o.op= .store t p x∧ex T τ.get 0 p=some q∧((∃off,q= .pt h off)∨ ∃i off,q= .el h i off)∧dC T (ex T τ.get t x)=some y∧τ.get h=some xh∧xh.home=true∧av.home=true ∧
  ∀(σ:St),ex T σ.get 0 p=ex T τ.get 0 p→ex T σ.get t x=ex T τ.get t x→σ.get h=some xh→sX T σ o h av:=by
 cases hs with
 | bx hs =>
   obtain ⟨t,p,x,i,h',off,ds,y,hop,hi,hp,hx,hg,hnt,hsz,hle,he⟩:=A5 hs;simp only[List.cons.injEq,Prod.mk.injEq,and_true] at he;obtain ⟨rfl,rfl⟩:=he;refine⟨t,p,x,_,y,_,hop,hp,.inl ⟨off,rfl⟩,hx,hg,rfl,rfl,fun σ h1 h2 h3=> .bx ?_⟩;rw[hop];simp only[pC,hi,h1,hp,h2,hx,h3,hnt,hsz,hle]
 | @el xh l i off y old hx hold hok =>
   obtain ⟨t,p,x,ti,e,hop,hti,hp,hy,hg,hrow,hnt,hsz⟩:=G7 hx;refine⟨t,p,x,_,y,xh,hop,hp,.inr ⟨i,off,rfl⟩,hy,hg,dy (by rw[hrow];rfl),(dQ hrow).2.1,fun σ h1 h2 h3=> .el ?_ hold hok⟩;rw[hop];simp only[Ep,hti,h1,hp,h2,hy,h3,hrow,hnt,hsz]
def oM(T:Ty)(τ:St):List Nat→List Oper→List (Nat×AV)→Prop
 | [],[],[]=>True
 | h::hs,o::r,(h',av)::wl=>h'=h∧sX T τ o h av∧oM T τ hs r wl
 | [],[],_::_=>False
 | [],_::_,_=>False
 | _::_,[],_=>False
 | _::_,_::_,[]=>False
theorem oM.nil{T:Ty}{τ:St}:oM T τ [] [] []:=trivial
theorem oM.cons{T:Ty}{τ:St}{h:Nat}{hs:List Nat}{o:Oper}{r:List Oper}{av:AV}{wl:List (Nat×AV)}(h1:sX T τ o h av)(h2:oM T τ hs r wl):oM T τ (h::hs) (o::r) ((h,av)::wl):=⟨rfl,h1,h2⟩
theorem oM.spec{T:Ty}{τ:St}: ∀{hs:List Nat} {l:List Oper} {wl:List (Nat×AV)},oM T τ hs l wl→wl.length=hs.length∧l.length=hs.length ∧
  ∀(k:Nat) (o:Oper) (h:Nat),l[k]?=some o→hs[k]?=some h→ ∃av,wl[k]?=some (h,av)∧sX T τ o h av
 | [],[],[],_=>⟨rfl,rfl,fun k o h hk=>by simp at hk⟩
 | h0::hs,o0::r,(h',av)::wl,h=>by
   obtain ⟨rfl,h1,h2⟩:=h;obtain ⟨g1,g2,g3⟩:=oM.spec h2;refine⟨by simp[g1],by simp[g2],fun k o h hk hh=>?_⟩;cases k with
   | zero =>
     simp at hk hh;subst hk;subst hh;exact⟨av,rfl,h1⟩
   | succ k=>exact g3 k o h (by simpa using hk) (by simpa using hh)
 | [],[],_::_,h=>h.elim
 | [],_::_,_,h=>h.elim
 | _::_,[],_,h=>h.elim
 | _::_,_::_,[],h=>h.elim
def Gq(o:Oper)(i:Nat):Bool:=o.after.any fun e=>Region.binds .any e&&e.on==i
theorem AP{o:Oper}{i:Nat}(h:Gq o i=true): ∃e∈o.after,Region.binds .any e=true∧e.on=i:=by
 obtain ⟨e,he,hb⟩:=Array.any_eq_true'.1 h;simp only[Bool.and_eq_true,beq_iff_eq] at hb;exact⟨e,he,hb.1,hb.2⟩
def C1(ops:Array Oper)(m:Nat)(o:Oper)(t:Nat):Bool:=match setter ops m t with
 | some i=>Gq o i
 | none=>true
theorem yl{ops:Array Oper}{m:Nat}{o:Oper}{t:Nat}(h:C1 ops m o t=true){i:Nat}{o':Oper}(hi:i<m)(ho:ops[i]?=some o')(ht:o'.dst=some t):
  ∃i' o2,i'<m∧ops[i']?=some o2∧o2.dst=some t∧ ∃e∈o.after,Region.binds .any e=true∧e.on=i':=by
 unfold C1 at h;cases hs:setter ops m t with
 | none =>
   exfalso;have:=List.find?_eq_none.1 hs i (List.mem_range.2 hi);simp[ho,ht] at this
 | some i' =>
   rw[hs] at h;have hf:=List.find?_some hs;have hm':=List.mem_of_find?_eq_some hs;split at hf<;>try (cases hf;done)
   rename_i o2 ho2;exact⟨i',o2,List.mem_range.1 hm',ho2,by simpa using hf,AP h⟩
def vW:List Nat→Bool
 | []=>true
 | k::r=>match pW k r with
   | true=>false
   | false=>vW r
theorem nE: ∀{l:List Nat},vW l=true→ ∀(i j t:Nat),l[i]?=some t→l[j]?=some t→i=j
 | [],_,i,j,t,h,_=>by simp at h
 | k::r,h,i,j,t,h1,h2=>by
   simp only[vW] at h;split at h<;>try (cases h;done)
   rename_i hm;have hn:k ∉ r:=fun e=>by rw[fj.2 e] at hm;cases hm
   have ih:=nE h;cases i with
   | zero =>
     cases j with
     | zero=>rfl
     | succ j =>
       simp at h1 h2;subst h1;exact absurd (List.mem_of_getElem? h2) hn
   | succ i =>
     cases j with
     | zero =>
       simp at h1 h2;subst h2;exact absurd (List.mem_of_getElem? h1) hn
     | succ j=>rw[ih i j t (by simpa using h1) (by simpa using h2)]
def r7(ops:Array Oper):Nat→Nat→Nat→Bool
 | 0,_,_=>false
 | f+1,j,i=>match ops[j]? with
   | some o=>o.after.any fun e=>Region.binds .any e&&(e.on==i||r7 ops f e.on i)
   | none=>false
theorem td{ops:Array Oper}{listed:Array Bool}(hc: ∀j oj,ops[j]?=some oj→listed.getD j false=true→ ∀e∈oj.after,Region.binds .any e=true→listed.getD e.on false=true):
  ∀(f j i:Nat),r7 ops f j i=true→listed.getD j false=true→listed.getD i false=true
 | 0,j,i,h,_=>by simp[r7] at h
 | f+1,j,i,h,hl=>by
   simp only[r7] at h;split at h<;>try (cases h;done)
   rename_i o ho;obtain ⟨e,he,hb⟩:=Array.any_eq_true'.1 h;simp only[Bool.and_eq_true,Bool.or_eq_true,beq_iff_eq] at hb;have h1:=hc j o ho hl e he hb.1;rcases hb.2 with h2 | h2
   · rw[← h2];exact h1
   · exact td hc f e.on i h2 h1
def dp:List (Nat×Bool)→Nat→Bool
 | [],_=>true
 | (k,b)::r,j=>match Nat.blt j k with
   | true=> !b
   | false=>dp r (j-k)
def za(ops:Array Oper)(lt:List (Nat×Bool))(m:Nat)(hs:List Nat):Bool:=(List.range hs.length).all fun k=>match ops[m+k]? with
 | some o=>o.dst.isNone&&o.guard.isNone&&(o.after.all fun e=> !(Region.binds .any e)||decide (e.on<m+k)) &&
   ((o.looksAt ops).all (C1 ops m o))&&(match hs[k]? with
     | some h=>C1 ops m o h
     | none=>false)&&((List.range m).all fun i=>dp lt i||r7 ops 6 (m+k) i)
 | none=>false
def HN(ops:Array Oper)(lt:List (Nat×Bool))(m:Nat)(hs:List Nat):Bool:=(List.range m).all fun j=> !(dp lt j)||match ops[j]? with
 | some o=>(o.looksAt ops).all fun t=> !(pW t hs)
 | none=>false
theorem B5{ops:Array Oper}{lt:List (Nat×Bool)}{m:Nat}{hs:List Nat}(h:HN ops lt m hs=true){j:Nat}{o:Oper}(hj:j<m)(h0:dp lt j=true)(ho:ops[j]?=some o): ∀t∈o.looksAt ops,t ∉ hs:=fun t ht hm=>by
 have:=List.all_eq_true.1 h j (List.mem_range.2 hj);simp only[h0,Bool.not_true,Bool.false_or,ho] at this;have:=List.all_eq_true.1 this t ht;rw[fj.2 hm] at this;cases this
def DS(ops:Array Oper)(lt:List (Nat×Bool))(m:Nat)(hs:List Nat):Bool :=
 decide (m+hs.length≤ops.size)&&EN ops m&&za ops lt m hs&&vW hs&&HN ops lt m hs &&
  (decide (m+hs.length=ops.size)||(Region.sinkB .any ops (m+hs.length)&&Region.chainB .any ops (m+hs.length))) &&
  Region.seqB .any ops (ops.size-(m+hs.length)) (m+hs.length) (Array.replicate (m+hs.length) true++Array.replicate (ops.size-(m+hs.length)) false)
theorem ij{ops:Array Oper}{lt:List (Nat×Bool)}{m:Nat}{hs:List Nat}(hB:za ops lt m hs=true){k:Nat}(hk:k<hs.length): ∃o h,ops[m+k]?=some o∧hs[k]?=some h∧o.dst=none∧o.guard=none∧(∀e∈o.after,Region.binds .any e=true→e.on<m+k) ∧
  (∀t∈o.looksAt ops,C1 ops m o t=true)∧C1 ops m o h=true∧ ∀i,i<m→dp lt i=false→r7 ops 6 (m+k) i=true:=by
 have h:=List.all_eq_true.1 hB k (List.mem_range.2 hk);split at h<;>try (cases h;done)
 rename_i o ho;simp only[Bool.and_eq_true] at h;obtain ⟨⟨⟨⟨⟨h1,h2⟩,h3⟩,h4⟩,h5⟩,h6⟩:=h;have hh:hs[k]?=some hs[k]:=List.getElem?_eq_getElem hk;rw[hh] at h5;refine⟨o,hs[k],ho,hh,by simpa using h1,by simpa using h2,fun e he hb=>?_,List.all_eq_true.1 h4,h5,fun i hi hl=>?_⟩
 · have:=(Array.all_eq_true_iff_forall_mem.1 h3) e he;simpa[hb] using this
 · have:=List.all_eq_true.1 h6 i (List.mem_range.2 hi);rw[hl] at this;simpa using this
section
variable {P:Program} {T:Ty} {B:Nat} {F0:Nat→Prop} {w0:cX} {n:Nat} {σ:St} {ops:Array Oper}
theorem Rel.ext{σ σ':St}{a:Act}{w:World}(h: ∀t,σ'.get t=σ.get t)(hR:Rel P B F0 w0 n σ a w):Rel P B F0 w0 n σ' a w:=by
 have e:σ'.get=σ.get:=funext h;exact⟨hR.below,hR.base,hR.f0,hR.defers,hR.size,by rw[e];exact hR.own⟩
theorem aN.lift{o:Oper}{d:Nat}{av:AV}{lk hm lk' hm':Nat→Option AV}(h:aN P B F0 w0 d o lk hm av)(hd':hm' d=none)
  (h1: ∀t,.tmp t∈o.op.operands→ ∀x,lk t=some x→lk' t=some x) (h2: ∀t x,hm t=some x→x.home=true→hm' t=some x)
  (h3: ∀k,av.refs=some k→ ∀x,x.home=true→hm' k=some x→hm k=some x):aN P B F0 w0 d o lk' hm' av:=by
 obtain ⟨g1,g2,g3⟩:=h;refine⟨g1,hd',fun a w O hI K Q hK=>?_⟩;refine g3 a w O ⟨hI.below,hI.base,hI.f0,hI.orange,fun t ht x hx=>?_,fun t x hx hxh=>?_⟩ K Q (fun v w' O' hg hv=>hK v w' O' hg (hv.move (fun c hc=>⟨hc,rfl⟩) (fun _ c hc=>⟨hc,rfl⟩) (fun k hk x hx hkx=>⟨h3 k hk x hx hkx,rfl⟩)))
 · obtain ⟨v,hv,hr⟩:=hI.rd t ht x (h1 t ht x hx);exact⟨v,hv,hr.move (fun c hc=>⟨hc,rfl⟩) (fun _ c hc=>⟨hc,rfl⟩) (fun k _ y hy hky=>⟨h2 k y hky hy,rfl⟩)⟩
 · obtain ⟨v,hv,hr⟩:=hI.hm t x (h2 t x hx hxh) hxh;exact⟨v,hv,hr.move (fun c hc=>⟨hc,rfl⟩) (fun _ c hc=>⟨hc,rfl⟩) (fun k _ y hy hky=>⟨h2 k y hky hy,rfl⟩)⟩
theorem rA{l:List (Nat×AV)}{t:Nat}{av:AV}{i:Nat}(hd: ∀(i j:Nat) (a b:AV),l[i]?=some (t,a)→l[j]?=some (t,b)→i=j)(h:l[i]?=some (t,av)):St.get l.reverse t=some av:=by
 cases hg:St.get l.reverse t with
 | none=>exact absurd (List.mem_reverse.2 (List.mem_of_getElem? h)) (yH hg av)
 | some x =>
   obtain ⟨j,hj⟩:=List.mem_iff_getElem?.1 (List.mem_reverse.1 (get_mem hg));have:=hd i j av x h hj;subst this;rw[h] at hj;simp at hj;rw[hj]
theorem rB{l:List (Nat×AV)}{t:Nat}(h: ∀(i:Nat) (a:AV),l[i]?≠some (t,a)):St.get l.reverse t=none:=by
 cases hg:St.get l.reverse t with
 | none=>rfl
 | some x =>
   obtain ⟨j,hj⟩:=List.mem_iff_getElem?.1 (List.mem_reverse.1 (get_mem hg));exact absurd hj (h j x)
theorem F5{x:AV}{d:Nat}(h:x.home=true):x.refs≠some d:=by
 cases x<;>simp[AV.home,AV.refs] at h ⊢
theorem J2{d:Nat}{x:AV}(h:x.refs≠some d):x.kill d=x:=by
 have key: ∀h:Nat,h≠d→Nat.beq h d=false:=fun h e=>by
  cases hb:Nat.beq h d with
  | true=>exact absurd (Nat.eq_of_beq_eq_true hb) e
  | false=>rfl
 cases x<;>simp only[AV.kill,AV.refs,ne_eq,Option.some.injEq] at h ⊢ <;>(try rfl)<;>rw[key _ h]
theorem kS{ds:List Nat}{av:AV}{k:Nat}(h:cE ds av=true)(hk:av.refs=some k):k ∉ ds:=fun hkd=>by
 unfold cE at h;rw[hk] at h;simp only[fj.2 hkd] at h;cases h
theorem pf{listed:Array Bool}{i:Nat}(h:listed.getD i true=false):listed.getD i false=false:=getD_both h
theorem fI(listed:Array Bool)(i:Nat):listed.getD i false=true∨listed.getD i false=false:=by
 cases listed.getD i false<;>simp
structure D2 (P:Program) (T:Ty) (B:Nat) (F0:Nat→Prop) (w0:cX) (n:Nat) (ops:Array Oper) (lt:List (Nat×Bool)) (m:Nat) (hs ds:List Nat) (σ0:St) (tl wl:List (Nat×AV)):Prop where
 size:m+hs.length≤ops.size
 head:EN ops m=true
 stores:za ops lt m hs=true
 nodup:vW hs=true
 s0: ∀t av,σ0.get t=some av→t ∉ ds∧cE ds av=true
 step: ∀j,j<m→ ∃o d av,ops[j]?=some o∧o.dst=some d∧tl[j]?=some (d,av)∧d<n∧d∈ds∧cE ds av=true∧(dp lt j=true→cE hs av=true) ∧
  ∃lk hm:St,(∀t av,t∈o.looksAt ops→lk.get t=some av→(dp lt j=true→t ∉ hs)∧St.get ((tl.take j).reverse++σ0) t=some av)∧(∀t av,hm.get t=some av→(dp lt j=true→t ∉ hs)∧σ0.get t=some av) ∧
   (∀t av,σ0.get t=some av→(dp lt j=true→t ∉ hs)→hm.get t=some av)∧p9 P B F0 w0 ops hm lk o d av
 tlen:tl.length=m
 dist: ∀(i j t:Nat) (a b:AV),tl[i]?=some (t,a)→tl[j]?=some (t,b)→i=j
 wls:wl.length=hs.length∧ ∀(k h:Nat),hs[k]?=some h→ ∃av,wl[k]?=some (h,av)∧ ∃o,ops[m+k]?=some o∧sX T (tl.reverse++σ0) o h av
namespace D2
theorem Cg{lk lk':Nat→Option AV}{ty:Nat}{x:Operand}(h: ∀t,x= .tmp t→lk t=lk' t):ex T lk ty x=ex T lk' ty x:=by
 cases x with
 | tmp t=>simp only[ex,h t rfl]
 | const v =>
   cases v with
   | slice b n c=>cases b<;>cases n<;>cases c<;>rfl
   | pointer p=>cases p<;>rfl
   | _=>rfl
 | _=>rfl
variable {lt:List (Nat×Bool)} {m:Nat} {hs ds:List Nat} {σ0:St} {tl wl:List (Nat×AV)} (H:D2 P T B F0 w0 n ops lt m hs ds σ0 tl wl)
include H
def tM(_:D2 P T B F0 w0 n ops lt m hs ds σ0 tl wl)(listed:Array Bool):St:=oY listed m wl++(oY listed 0 tl++σ0)
theorem qg{k t:Nat}{a:AV}(h:wl[k]?=some (t,a)):hs[k]?=some t∧a.home=true:=by
 have hk:k<hs.length:=by rw[← H.wls.1];exact(List.getElem?_eq_some_iff.1 h).1
 obtain ⟨av,h1,o,_,hst⟩:=H.wls.2 k hs[k] (List.getElem?_eq_getElem hk);rw[h] at h1;simp at h1;obtain ⟨_,_,_,_,_,_,_,_,_,_,_,_,hh,_⟩:=hst.spec;exact⟨by rw[List.getElem?_eq_getElem hk,h1.1],by rw[h1.2];exact hh⟩
theorem D9(i j t:Nat)(a b:AV)(h1:wl[i]?=some (t,a))(h2:wl[j]?=some (t,b)):i=j:=nE H.nodup i j t (H.qg h1).1 (H.qg h2).1
theorem wH{j t:Nat}{a:AV}(h:tl[j]?=some (t,a)):t∈ds∧j<m:=by
 have hj:j<m:=by rw[← H.tlen];exact(List.getElem?_eq_some_iff.1 h).1
 obtain ⟨o,d,av,_,_,h3,_,h5,_⟩:=H.step j hj;rw[h] at h3;simp at h3;exact⟨h3.1▸h5,hj⟩
def CE(_:D2 P T B F0 w0 n ops lt m hs ds σ0 tl wl)(listed:Array Bool)(t:Nat):Prop:= ∀k,hs[k]?=some t→listed.getD (m+k) false=false
theorem Dv{listed:Array Bool}{k t:Nat}{a:AV}(h:wl[k]?=some (t,a))(hl:listed.getD (m+k) false=true):(H.tM listed).get t=some a:=by
 unfold tM;rw[get_append,sS wl m k (fun i j a b h1 h2=>H.D9 i j t a b h1 h2) h hl]
theorem Ak{listed:Array Bool}{t:Nat}(hu:H.CE listed t):(H.tM listed).get t=St.get (oY listed 0 tl++σ0) t:=by
 unfold tM
 rw[get_append,gV wl m (fun i e he hl hk=>by
  obtain ⟨t',a⟩:=e;simp only[] at hk;subst hk;have:=hu i (H.qg he).1;rw[hl] at this
  cases this)]
theorem Al{listed:Array Bool}{j t:Nat}{a:AV}(hu:H.CE listed t)(h:tl[j]?=some (t,a))(hl:listed.getD j false=true):(H.tM listed).get t=some a:=by
 rw[H.Ak hu,get_append,sS tl 0 j (fun i j a b h1 h2=>H.dist i j t a b h1 h2) h (by rw[Nat.zero_add];exact hl)]
theorem J9{listed:Array Bool}{t:Nat}(hu:H.CE listed t)(ht:t ∉ ds):(H.tM listed).get t=σ0.get t:=by
 rw[H.Ak hu,get_append,gV tl 0 (fun i e he _ hk=>by
  obtain ⟨t',a⟩:=e;simp only[] at hk;subst hk
  exact ht (H.wH he).1)]
theorem H4{listed:Array Bool}{j t:Nat}{a:AV}(hu:H.CE listed t)(h:tl[j]?=some (t,a))(hl:listed.getD j false=false):(H.tM listed).get t=none:=by
 rw[H.Ak hu,get_append,gV tl 0 (fun i e he hl' hk=>by
  obtain ⟨t',a'⟩:=e;simp only[] at hk;subst hk;have:=H.dist i j t' a' a he h;subst this;rw[Nat.zero_add,hl] at hl'
  cases hl')]
 cases hg:σ0.get t with
 | none=>rfl
 | some x=>exact absurd (H.wH h).1 (H.s0 t x hg).1
theorem KK{j t:Nat}{a:AV}(hj:j≤m)(h:St.get ((tl.take j).reverse++σ0) t=some a):(∃i,i<j∧tl[i]?=some (t,a))∨(σ0.get t=some a∧t ∉ ds):=by
 rw[get_append] at h;split at h
 · rename_i x hx;simp at h;subst h;have:=get_mem hx;rw[List.mem_reverse] at this;obtain ⟨i,hi⟩:=List.mem_iff_getElem?.1 this;rw[List.getElem?_take] at hi;split at hi<;>try (cases hi;done)
   rename_i hij;exact .inl ⟨i,hij,hi⟩
 · exact .inr ⟨h,(H.s0 t a h).1⟩
structure Ok (_:D2 P T B F0 w0 n ops lt m hs ds σ0 tl wl) (listed:Array Bool):Prop where
 size:listed.size=ops.size
 closed: ∀j oj,ops[j]?=some oj→listed.getD j false=true→ ∀e∈oj.after,Region.binds .any e=true→listed.getD e.on false=true
theorem Fp{listed:Array Bool}(h:H.Ok listed){j:Nat}(hjm:j<m)(hj:dp lt j=false)(hl:listed.getD j false=false)(t:Nat):H.CE listed t:=fun k hk=>by
 rcases fI listed (m+k) with hw | hw
 · exfalso;obtain ⟨o,h',h1,_,_,_,_,_,_,h8⟩:=ij H.stores (List.getElem?_eq_some_iff.1 hk).1;have:=td h.closed 6 _ _ (h8 j hjm hj) hw;rw[hl] at this;cases this
 · exact hw
theorem CM{listed:Array Bool}(h:H.Ok listed){j:Nat}(hjm:j<m)(hl:listed.getD j false=false){t:Nat}(ht:dp lt j=true→t ∉ hs):H.CE listed t:=by
 cases h':dp lt j with
 | false=>exact H.Fp h hjm h' hl t
 | true=>exact fun k hk=>absurd (List.mem_of_getElem? hk) (ht h')
theorem Gs{listed:Array Bool}(h:H.Ok listed){j t:Nat}{a:AV}(hj:tl[j]?=some (t,a))(hl:listed.getD j false=false):H.CE listed t:=fun k hk=>by
 rcases fI listed (m+k) with hw | hw
 · exfalso;obtain ⟨o,h',h1,h2,_,_,_,_,h7,_⟩:=ij H.stores (List.getElem?_eq_some_iff.1 hk).1;rw[hk] at h2;simp at h2;subst h2;obtain ⟨oj,d,av,g1,g2,g3,_⟩:=H.step j (H.wH hj).2;rw[hj] at g3;simp at g3;obtain ⟨rfl,rfl⟩:=g3;obtain ⟨i',o2,k1,k2,k3,e,he,hb,hon⟩:=yl h7 (H.wH hj).2 g1 g2;obtain ⟨o3,d3,av3,f1,f2,f3,_⟩:=H.step i' k1;rw[k2] at f1;simp at f1;subst f1;rw[k3] at f2;simp at f2;subst f2;have:=H.dist i' j t av3 a f3 hj;subst this;have:=h.closed _ o h1 hw e he hb;rw[hon,hl] at this;cases this
 · exact hw
theorem one{listed:Array Bool}(h:H.Ok listed){j:Nat}(hj:j<m)(hr:j∈Region.ready .any ops listed){a:Act}{w:World}(hR:Rel P B F0 w0 n (H.tM listed) a w)(Q':Exit→Act→World→Prop)(K:Act→World→Prop)
  (hK: ∀a w,Rel P B F0 w0 n (H.tM (listed.setIfInBounds j true)) a w→K a w):wpOp P ops Q' j K a w:=by
 obtain ⟨o,d,av,h1,h2,h3,h4,h5,h6,h7,lk,hm,g1,g2,g3,g4⟩:=H.step j hj;obtain ⟨hun,o',ho',hall⟩:=mem_ready.1 hr;rw[h1] at ho';simp at ho';subst ho';have hlf:=pf hun;have hjs:j<listed.size:=by rw[h.size];have:=H.size;omega
 obtain ⟨_,_,e1,_,e3,e4,_,e6⟩:=fH H.head hj;rw[h1] at e1;simp at e1;subst e1
 have hlk: ∀t,t∈o.looksAt ops→ ∀x,lk.get t=some x→(H.tM listed).get t=some x:=fun t ht x hx=>by
  obtain ⟨f1,f2⟩:=g1 t x ht hx;have hu:=H.CM h hj hlf f1;rcases H.KK (Nat.le_of_lt hj) f2 with ⟨i,hij,hi⟩ | ⟨hs0,htd⟩
  · obtain ⟨oi,di,avi,k1,k2,k3,_⟩:=H.step i (by omega);rw[hi] at k3;simp at k3;obtain ⟨rfl,rfl⟩:=k3;obtain ⟨i',⟨o2,q1,q2⟩,q3,e,q4,q5,q6⟩:=e4 t ht i (by omega) ⟨oi,k1,k2⟩;obtain ⟨o3,d3,av3,p1,p2,p3,_⟩:=H.step i' q3;rw[q1] at p1;simp at p1;subst p1;rw[q2] at p2;simp at p2;subst p2;have:=H.dist i' i t av3 x p3 hi;subst this;have hl:=hall e q4 q5;rw[q6] at hl;exact H.Al hu hi hl
  · rw[H.J9 hu htd];exact hs0
 have hput: ∀(τ:St),(∀t,t≠d→τ.get t=(H.tM listed).get t)→τ.get d=some av→ ∀t,(H.tM (listed.setIfInBounds j true)).get t=τ.get t:=fun τ hne hd t=>by
  have hud:=H.Gs h h3 hlf
  have hu2: ∀t,H.CE listed t→H.CE (listed.setIfInBounds j true) t:=fun t hu k hk=>by
   have hkl:=(List.getElem?_eq_some_iff.1 hk).1;rw[getD_set_ne false (by omega)];exact hu k hk
  by_cases htd:t=d
  · subst htd;rw[hd];exact H.Al (hu2 _ hud) h3 (by simp[hjs])
  · rw[hne t htd];by_cases hu:H.CE listed t
    · by_cases hds: ∃(i:Nat) (x:AV),tl[i]?=some (t,x)
      · obtain ⟨i,x,hi⟩:=hds
        have hij:i≠j:=fun e=>by
         subst e;rw[h3] at hi;simp at hi;exact htd hi.1.symm
        rcases fI listed i with hl | hl
        · rw[H.Al hu hi hl,H.Al (hu2 _ hu) hi (by rw[getD_set_ne false (Ne.symm hij)];exact hl)]
        · rw[H.H4 hu hi hl,H.H4 (hu2 _ hu) hi (by rw[getD_set_ne false (Ne.symm hij)];exact hl)]
      · have e0: ∀(listed:Array Bool),St.get (oY listed 0 tl) t=none:=fun listed=>gV tl 0 (fun i e he _ hk=>by
         obtain ⟨t',a⟩:=e;simp only[] at hk;subst hk
         exact hds ⟨i,a,he⟩)
        rw[H.Ak hu,H.Ak (hu2 _ hu),get_append,get_append,e0,e0]
    · have: ∃k,hs[k]?=some t∧listed.getD (m+k) false=true:=by
       apply Classical.byContradiction;intro hn
       exact hu (fun k hk=>by
        rcases fI listed (m+k) with hw | hw
        · exact absurd ⟨k,hk,hw⟩ hn
        · exact hw)
      obtain ⟨k,hk,hw⟩:=this;obtain ⟨cs,hwl,_⟩:=H.wls.2 k t hk;have hkl:=(List.getElem?_eq_some_iff.1 hk).1;rw[H.Dv hwl hw,H.Dv hwl (by rw[getD_set_ne false (by omega)];exact hw)]
 unfold wpOp;simp only[h1]
 have hgv: ∀g b',(∃b,o.guard=some (g,b))→jA ops lk g=some b'→yielded ops a.tmps g=some b':=by
  rintro g b' ⟨b,hgd⟩ hg
  obtain ⟨og,tg,q1,q2,q3⟩:=k5 hg
  have hl:tg∈o.looksAt ops:=by
   unfold Oper.looksAt;refine List.mem_append_right _ ?_;rw[hgd];simp[q1,q2]
  obtain ⟨O,hOr,hO⟩:=hR.own;obtain ⟨u,hu,hur⟩:=hO tg _ (hlk tg hl _ q3);have:=(Rd.kn hur).1;subst this;simp[yielded,q1,q2,hu]
 have hgvu: ∀g b,o.guard=some (g,b)→my ops lk g=true→yielded ops a.tmps g≠some b:=by
  intro g b hgd hg;obtain ⟨og,tg,q1,q2,q3⟩:=pX hg
  have hl:tg∈o.looksAt ops:=by
   unfold Oper.looksAt;refine List.mem_append_right _ ?_;rw[hgd];simp[q1,q2]
  obtain ⟨O,hOr,hO⟩:=hR.own;obtain ⟨u,hu,hur⟩:=hO tg _ (hlk tg hl _ q3);have hur:u=undef:=hur;subst hur;simp[yielded,q1,q2,hu,undef]
 rcases g4 with ⟨hgok,hps⟩ | ⟨g,b,hgd,hgn,rfl⟩
 · have hw:Region.wanted o (yielded ops a.tmps)=true:=by
    unfold aG at hgok;unfold Region.wanted;split at hgok
    · rename_i hgd;simp[hgd]
    · rename_i g b hgd;split at hgok
      · rename_i b' hb';have hbb:b'=b:=by simpa using hgok
        subst hbb;simp[hgd,hgv g b' ⟨_,hgd⟩ hb']
      · cases hgok
   rw[if_pos hw];refine .inl ?_
   have hps':aN P B F0 w0 d o (H.tM listed).get (jG (H.tM listed) d) av:=by
    refine hps.lift (bu _ d) (fun t ht x hx=>hlk t ?_ x hx) (fun t x hx hxh=>?_) (fun k hk x hxh hx=>?_)
    · unfold Oper.looksAt;exact List.mem_append_left _ (List.mem_filterMap.2 ⟨.tmp t,by simpa using ht,rfl⟩)
    · obtain ⟨f1,f2⟩:=g2 t x hx;have htd:=(H.s0 t x f2).1;have htd':t≠d:=fun e=>htd (by rw[e];exact h5);rw[HV htd',H.J9 (H.CM h hj hlf f1) htd];exact f2
    · obtain ⟨hkd,hx'⟩:=ru hx;have hkds:=kS h6 hk;have hkh:dp lt j=true→k ∉ hs:=fun hj0=>kS (h7 hj0) hk;rw[H.J9 (H.CM h hj hlf hkh) hkds] at hx';exact g3 k x hx' hkh
   refine dZ.zS hps' h4 a w hR K Q' (fun a' w' hR'=>hK _ _ (hR'.ext ?_));refine hput _ (fun t ht=>?_) (iB _ d av);rw[mz _ d av ht];split
   · rename_i hh;cases hg:(H.tM listed).get t with
     | none=>rfl
     | some x =>
       simp only[Option.map_some]
       congr 1
       refine J2 (fun hxr=>?_);by_cases hu:H.CE listed t
       · by_cases hds: ∃(i:Nat) (x:AV),tl[i]?=some (t,x)
         · obtain ⟨i,y,hi⟩:=hds;rcases fI listed i with hl | hl
           · rw[H.Al hu hi hl] at hg;obtain ⟨oi,di,yi,_,_,f3,_,_,f6,_⟩:=H.step i (H.wH hi).2;rw[hi] at f3;simp at f3 hg;obtain ⟨rfl,rfl⟩:=f3;subst hg;exact kS f6 hxr h5
           · rw[H.H4 hu hi hl] at hg;cases hg
         · have htds:(oY listed 0 tl).get t=none:=gV tl 0 (fun i e he _ hk=>by
            obtain ⟨t',a⟩:=e;simp only[] at hk;subst hk
            exact hds ⟨i,a,he⟩)
           rw[H.Ak hu,get_append] at hg
           have hg:St.get σ0 t=some x:=by
            have e:St.get (oY listed 0 tl) t=none:=htds;rw[e] at hg;exact hg
           exact kS (H.s0 t x hg).2 hxr h5
       · have: ∃k,hs[k]?=some t∧listed.getD (m+k) false=true:=by
          apply Classical.byContradiction;intro hn
          exact hu (fun k hk=>by
           rcases fI listed (m+k) with hw | hw
           · exact absurd ⟨k,hk,hw⟩ hn
           · exact hw)
         obtain ⟨k,hk,hw⟩:=this;obtain ⟨cs,hwl,_⟩:=H.wls.2 k t hk;rw[H.Dv hwl hw] at hg;simp at hg;subst hg;exact F5 (H.qg hwl).2 hxr
   · rfl
 · have hw:Region.wanted o (yielded ops a.tmps)=false:=by
    unfold Region.wanted;rcases hgn with ⟨b',hgval,hne⟩ | hgu
    · simp[hgd,hgv g b' ⟨_,hgd⟩ hgval];simpa using hne
    · simp[hgd];simpa using hgvu g b hgd hgu
   rw[if_neg (by rw[hw];simp),h2];obtain ⟨O,hOr,hO⟩:=hR.own;have hR':=hR.put (av:= .un) hOr hO h4 (du.refl (fun b t hb=>(hOr b t hb).2)) (v:=undef) rfl;refine hK _ _ (hR'.ext ?_);refine hput _ (fun t ht=>?_) (iB _ d .un);rw[mz _ d .un ht];rfl
theorem NZ(hT:bD P T){listed:Array Bool}(h:H.Ok listed){k:Nat}(hk:k<hs.length)(hr:m+k∈Region.ready .any ops listed){a:Act}{w:World}(hR:Rel P B F0 w0 n (H.tM listed) a w)(Q':Exit→Act→World→Prop)(K:Act→World→Prop)
  (hK: ∀a w,Rel P B F0 w0 n (H.tM (listed.setIfInBounds (m+k) true)) a w→K a w):wpOp P ops Q' (m+k) K a w:=by
 obtain ⟨o,hm,h1,h2,hdst,hgd,_,h6,h7,_⟩:=ij H.stores hk;obtain ⟨hun,o',ho',hall⟩:=mem_ready.1 hr;rw[h1] at ho';simp at ho';subst ho';have hlf:=pf hun;have hks:m+k<listed.size:=by rw[h.size];have:=H.size;omega
 obtain ⟨cs,hwl,o',ho',hst⟩:=H.wls.2 k hm h2;rw[h1] at ho';simp at ho';subst ho';obtain ⟨t,p,x,q,y,xh,hop,hp,hq,hx,hg,hxh,hch,hre⟩:=hst.spec
 have hbx: ∀k' h',hs[k']?=some h'→ ∃z,St.get (tl.reverse++σ0) h'=some z∧z.home=true:=fun k' h' hk'=>by
  obtain ⟨cs',_,o2,_,hst'⟩:=H.wls.2 k' h' hk';obtain ⟨_,_,_,_,_,z,_,_,_,_,hz,hzh,_⟩:=hst'.spec;exact⟨z,hz,hzh⟩
 have hlk: ∀t',H.CE listed t'→C1 ops m o t'=true→ ∀z,St.get (tl.reverse++σ0) t'=some z→(H.tM listed).get t'=some z:=fun t' hu hsb z hz=>by
  have hz':St.get ((tl.take m).reverse++σ0) t'=some z:=by rw[List.take_of_length_le (by rw[H.tlen];exact Nat.le_refl _)];exact hz
  rcases H.KK (Nat.le_refl m) hz' with ⟨i,him,hti⟩ | ⟨hs0,htd⟩
  · obtain ⟨oi,di,avi,k1,k2,k3,_⟩:=H.step i him;rw[hti] at k3;simp at k3;obtain ⟨rfl,rfl⟩:=k3;obtain ⟨i',o2,q1,q2,q3,e,q4,q5,q6⟩:=yl hsb him k1 k2;obtain ⟨o3,d3,av3,p1,p2,p3,_⟩:=H.step i' q1;rw[q2] at p1;simp at p1;subst p1;rw[q3] at p2;simp at p2;subst p2;have:=H.dist i' i t' av3 z p3 hti;subst this;have hl:=hall e q4 q5;rw[q6] at hl;exact H.Al hu hti hl
  · rw[H.J9 hu htd];exact hs0
 have huh:H.CE listed hm:=fun k' hk'=>by
  have:=nE H.nodup k' k hm hk' h2;subst this;exact hlf
 have hla: ∀t',.tmp t'∈o.op.operands→t'∈o.looksAt ops:=fun t' ht'=>by
  unfold Oper.looksAt;exact List.mem_append_left _ (List.mem_filterMap.2 ⟨.tmp t',by simpa using ht',rfl⟩)
 have hpe:ex T (H.tM listed).get 0 p=ex T (St.get (tl.reverse++σ0)) 0 p:=by
  refine D2.Cg (fun tp htp=>?_);subst htp;cases hz:St.get (tl.reverse++σ0) tp with
  | none=>simp[ex,hz] at hp
  | some z =>
    refine hlk tp (fun k' hk'=>?_) (h6 tp (hla tp (by rw[hop];simp[Op.operands]))) z hz;obtain ⟨z',hz',hzh⟩:=hbx k' tp hk';rw[hz] at hz';simp at hz';subst hz';cases z<;>simp[AV.home] at hzh<;>simp[ex,hz] at hp<;>subst hp
    · rcases hq with ⟨off,hq⟩ | ⟨i,off,hq⟩<;>simp at hq
      rw[hq.1] at hk';exact huh k' hk'
    · rcases hq with ⟨off,hq⟩ | ⟨i,off,hq⟩<;>simp at hq
    · rcases hq with ⟨off,hq⟩ | ⟨i,off,hq⟩<;>simp at hq
 have hxe:ex T (H.tM listed).get t x=ex T (St.get (tl.reverse++σ0)) t x:=by
  refine D2.Cg (fun tx htx=>?_);subst htx;cases hz:St.get (tl.reverse++σ0) tx with
  | none=>simp[ex,hz,dC] at hx
  | some z =>
    refine hlk tx (fun k' hk'=>?_) (h6 tx (hla tx (by rw[hop];simp[Op.operands]))) z hz;obtain ⟨z',hz',hzh⟩:=hbx k' tx hk';rw[hz] at hz';simp at hz';subst hz';cases z<;>simp[AV.home] at hzh<;>simp[ex,hz,dC] at hx
 have hge:=hlk hm huh h7 _ hg;have hstS:=hre (H.tM listed) hpe hxe hge
 have hok:dZ P B F0 w0 n o (H.tM listed) ((hm,cs)::H.tM listed):=by
  cases hstS with
  | bx hs=>exact x9 hT hdst hs
  | el hx hold hok=>exact dZ.kQ hT hdst hx hold hok
 unfold wpOp;simp only[h1];rw[if_pos (by simp[Region.wanted,hgd])];refine .inl (hok a w hR K Q' (fun a' w' hR'=>hK _ _ (hR'.ext (fun t'=>?_))));rw[St.aM];by_cases ht:hm=t'
 · subst ht;rw[if_pos rfl];exact H.Dv hwl (by simp[hks])
 · rw[if_neg ht]
   have hne: ∀k',hs[k']?=some t'→m+k≠m+k':=fun k' hk' e=>by
    have:k=k':=by omega
    subst this;rw[h2] at hk';simp at hk';exact ht hk'
   by_cases hu:H.CE listed t'
   · have hu2:H.CE (listed.setIfInBounds (m+k) true) t':=fun k' hk'=>by
      rw[getD_set_ne false (hne k' hk')];exact hu k' hk'
     by_cases hds: ∃(i:Nat) (x:AV),tl[i]?=some (t',x)
     · obtain ⟨i,x,hti⟩:=hds;have him:=(H.wH hti).2;rcases fI listed i with hl | hl
       · rw[H.Al hu hti hl,H.Al hu2 hti (by rw[getD_set_ne false (by omega)];exact hl)]
       · rw[H.H4 hu hti hl,H.H4 hu2 hti (by rw[getD_set_ne false (by omega)];exact hl)]
     · have e0: ∀(listed:Array Bool),St.get (oY listed 0 tl) t'=none:=fun listed=>gV tl 0 (fun i e he _ hk=>by
        obtain ⟨t2,a⟩:=e;simp only[] at hk;subst hk
        exact hds ⟨i,a,he⟩)
       rw[H.Ak hu,H.Ak hu2,get_append,get_append,e0,e0]
   · have: ∃k',hs[k']?=some t'∧listed.getD (m+k') false=true:=by
      apply Classical.byContradiction;intro hn
      exact hu (fun k' hk'=>by
       rcases fI listed (m+k') with hw | hw
       · exact absurd ⟨k',hk',hw⟩ hn
       · exact hw)
     obtain ⟨k',hk',hw⟩:=this;obtain ⟨cs',hwl',_⟩:=H.wls.2 k' t' hk';rw[H.Dv hwl' hw,H.Dv hwl' (by rw[getD_set_ne false (hne k' hk')];exact hw)]
theorem all(hT:bD P T)(htail:m+hs.length=ops.size∨(Region.sinkB .any ops (m+hs.length)=true∧Region.chainB .any ops (m+hs.length)=true))
  (hseq:Region.seqB .any ops (ops.size-(m+hs.length)) (m+hs.length) (Array.replicate (m+hs.length) true++Array.replicate (ops.size-(m+hs.length)) false)=true) {K:St→Prop}
  (hK:ae P B F0 w0 n ops (ops.toList.drop (m+hs.length)) K (wl.reverse++(tl.reverse++σ0))): ∀(f:Nat) (listed:Array Bool) (a:Act) (w:World) (Q':Exit→Act→World→Prop),HeadInv .any ops (m+hs.length) listed→un listed (m+hs.length)=f→Rel P B F0 w0 n (H.tM listed) a w →
  (∀a w σ',K σ'→Rel P B F0 w0 n σ' a w→Q' .normal a w)→wpAny P .any ops Q' (f+(ops.size-(m+hs.length))) listed a w:=by
 have hsize:=H.size;intro f
 induction f with
 | zero =>
   intro listed a w Q' hinv hun hR hQ;have hlist:=ux (m+hs.length) hun
   have hlist': ∀j,j<m+hs.length→listed.getD j false=true:=fun j hj=>by
    have:=hlist j hj;have hs:j<listed.size:=by rw[hinv.size];omega
    simp[hs] at this ⊢;exact this
   have heq:listed=Array.replicate (m+hs.length) true++Array.replicate (ops.size-(m+hs.length)) false:=by
    apply Array.ext
    · rw[hinv.size];simp;omega
    · intro i hi1 hi2;rw[hinv.size] at hi1;rw[Array.getElem_append];by_cases him:i<m+hs.length
      · have:=hlist i him;have hlt:i<listed.size:=by rw[hinv.size];exact hi1
        simp[hlt] at this;simp[him,this]
      · have:=hinv.tail i (by omega) hi1;have hlt:i<listed.size:=by rw[hinv.size];exact hi1
        simp[hlt] at this;simp[him,this]
   rw[Nat.zero_add];have hdl:(ops.toList.drop (m+hs.length)).length=ops.size-(m+hs.length):=by simp
   rw[← hdl];refine wpAny_of_seq (md:= .any) (ops.toList.drop (m+hs.length)) (m+hs.length) listed a w (fun j=>by simp[List.getElem?_drop]) (by rw[hdl,heq];exact hseq) ?_;refine hK a w (hR.ext (fun t=>?_)) Q' hQ;rw[get_append];by_cases hw: ∃(k:Nat) (x:AV),wl[k]?=some (t,x)
   · obtain ⟨k,x,hk⟩:=hw;have hkl:k<hs.length:=(List.getElem?_eq_some_iff.1 (H.qg hk).1).1;rw[rA (fun i j a b h1 h2=>H.D9 i j t a b h1 h2) hk];rw[H.Dv hk (hlist' _ (by omega))]
   · have hu:H.CE listed t:=fun k hk=>by
      obtain ⟨cs,hwl,_⟩:=H.wls.2 k t hk;exact absurd ⟨k,_,hwl⟩ hw
     rw[rB (fun i a hi=>hw ⟨i,a,hi⟩),get_append];by_cases hds: ∃(i:Nat) (x:AV),tl[i]?=some (t,x)
     · obtain ⟨i,x,hti⟩:=hds;have him:=(H.wH hti).2;rw[rA (fun i j a b h1 h2=>H.dist i j t a b h1 h2) hti];rw[H.Al hu hti (hlist' _ (by omega))]
     · rw[rB (fun i a hi=>hds ⟨i,a,hi⟩)]
       rw[H.Ak hu,get_append,gV tl 0 (fun i e he _ hk=>by
        obtain ⟨t2,a⟩:=e;simp only[] at hk;subst hk
        exact hds ⟨i,a,he⟩)]
 | succ f ih =>
   intro listed a w Q' hinv hun hR hQ;have h:H.Ok listed:=⟨hinv.size,hinv.closed⟩;obtain ⟨j,hj,hju,hjl⟩:=CO (m+hs.length) (by omega:0<un listed (m+hs.length))
   have hless: ∀i∈Region.ready .any ops listed,i<m+hs.length:=fun i hi=>by
    rcases htail with h | ⟨hs1,hc⟩
    · obtain ⟨_,o,ho,_⟩:=mem_ready.1 hi;have:=(Array.getElem?_eq_some_iff.1 ho).1;omega
    · rcases Nat.lt_or_ge (m+hs.length) ops.size with hlt | hge
      · rcases Nat.lt_or_ge i (m+hs.length) with h | h
        · exact h
        · exact absurd hi (tail_waits hs1 hc hlt hinv _ j rfl hj hju i h)
      · obtain ⟨_,o,ho,_⟩:=mem_ready.1 hi;have:=(Array.getElem?_eq_some_iff.1 ho).1;omega
   have hjr:j∈Region.ready .any ops listed:=by
    have key: ∀o,ops[j]?=some o→(∀e∈o.after,Region.binds .any e=true→e.on<j)→j∈Region.ready .any ops listed:=fun o ho hlt=>by
     refine mem_ready.2 ⟨hju,o,ho,fun e he hb=>?_⟩;have h1:=hlt e he hb;have:=hjl e.on h1;have hsz:e.on<listed.size:=by rw[hinv.size];omega
     simp[hsz] at this ⊢;exact this
    rcases Nat.lt_or_ge j m with hjm | hjm
    · obtain ⟨o,d,h1,h2,h3,_⟩:=fH H.head hjm;exact key o h1 h3
    · obtain ⟨o,_,h1,_,_,_,h5,_⟩:=ij H.stores (show j-m<hs.length by omega);rw[show m+(j-m)=j by omega] at h1 h5;exact key o h1 h5
   rw[show f+1+(ops.size-(m+hs.length))=(f+(ops.size-(m+hs.length)))+1 by omega];refine⟨fun h0=>(by rw[h0] at hjr;cases hjr),fun i hi=>?_⟩;have hil:=hless i hi
   have hrec: ∀a' w',Rel P B F0 w0 n (H.tM (listed.setIfInBounds i true)) a' w'→wpAny P .any ops Q' (f+(ops.size-(m+hs.length))) (listed.setIfInBounds i true) a' w':=fun a' w' hR' =>
    ih _ a' w' Q' (hinv.set hi hil) (by have:=CN (mem_ready.1 hi).1 (m+hs.length) hil;omega) hR' hQ
   rcases Nat.lt_or_ge i m with him | him
   · exact H.one h him hi hR Q' _ hrec
   · obtain ⟨k,rfl⟩: ∃k,i=m+k:=⟨i-m,by omega⟩;exact H.NZ hT h (by omega) hi hR Q' _ hrec
end D2
def xf(P:Program)(B:Nat)(F0:Nat→Prop)(w0:cX)(n:Nat)(ops:Array Oper)(ds hs:List Nat)(σ0:St):List (Nat×Bool)→List Oper→St→(St→Prop)→Prop
 | [],[],τ,K=>K τ
 | [],_::_,_,_=>False
 | (k,true)::cs,l,τ,K=>Nat.ble k l.length=true∧ah P B F0 w0 n ops ds σ0 (l.take k) τ (fun τ'=>xf P B F0 w0 n ops ds hs σ0 cs (l.drop k) τ' K)
 | (k,false)::cs,l,τ,K=>Nat.ble k l.length=true∧ah P B F0 w0 n ops (ds++hs) (σ0.wo hs) (l.take k) (τ.wo hs) (fun τ'=>xf P B F0 w0 n ops ds hs σ0 cs (l.drop k) (τ'.take k++τ) K)
theorem xf.out{ds hs:List Nat}{σ0:St}{K:St→Prop}: ∀(cs:List (Nat×Bool)) (l:List Oper) (τ:St),xf P B F0 w0 n ops ds hs σ0 cs l τ K →
  ∃tl:List (Nat×AV),tl.length=l.length∧K (tl.reverse++τ)∧ ∀(j:Nat) (o:Oper),l[j]?=some o→ ∃d av,tl[j]?=some (d,av)∧o.dst=some d∧d<n∧cE ds av=true∧(dp cs j=true→cE hs av=true) ∧
   ∃lk hm:St,(∀t av,((dp cs j=true→t ∉ hs)→lk.get t=some av→St.get ((tl.take j).reverse++τ) t=some av))∧(∀t av,hm.get t=some av→(dp cs j=true→t ∉ hs)∧σ0.get t=some av) ∧
    (∀t av,σ0.get t=some av→(dp cs j=true→t ∉ hs)→hm.get t=some av)∧p9 P B F0 w0 ops hm lk o d av
 | [],[],τ,h=>⟨[],rfl,h,fun j o hj=>by simp at hj⟩
 | [],_::_,τ,h=>h.elim
 | (k,true)::cs,l,τ,h=>by
   simp only[xf] at h;obtain ⟨hkl,h⟩:=h;have hkl:=Nat.le_of_ble_eq_true hkl;obtain ⟨t1,h1,h2,h3⟩:=ah.out _ _ h;obtain ⟨t2,g1,g2,g3⟩:=xf.out cs _ _ h2;have hl:t1.length+t2.length=l.length:=by rw[h1,g1];simp;omega
   refine⟨t1++t2,by simpa using hl,by simpa using g2,fun j o hj=>?_⟩;have hjl:=(List.getElem?_eq_some_iff.1 hj).1;rcases Nat.lt_or_ge j t1.length with hjk | hjk
   · have hjk':j<k:=by rw[h1] at hjk;simp at hjk;omega
     have hlt:dp ((k,true)::cs) j=false:=by
      have e:Nat.blt j k=true:=by simp[Nat.blt];omega
      simp only[dp,e];rfl
     obtain ⟨d,av,e1,e2,e3,e4,e5⟩:=h3 j o (by rw[List.getElem?_take,if_pos hjk'];exact hj);refine⟨d,av,by rw[List.getElem?_append_left hjk];exact e1,e2,e3,e4,fun hx=>(by rw[hlt] at hx;cases hx),(t1.take j).reverse++τ,σ0,fun t av _ hg=>by rw[List.take_append_of_le_length (by omega)];exact hg,fun t av hg=>⟨fun hx=>(by rw[hlt] at hx;cases hx),hg⟩,fun t av hg _=>hg,e5⟩
   · have hk:t1.length=k:=by rw[h1];simp;rw[h1] at hjk;simp at hjk;omega
     obtain ⟨j',rfl⟩: ∃j',j=k+j':=⟨j-k,by omega⟩
     have hlt:dp ((k,true)::cs) (k+j')=dp cs j':=by
      have e:Nat.blt (k+j') k=false:=by
       cases hb:Nat.blt (k+j') k with
       | false=>rfl
       | true=>have:k+j'+1≤k:=by simpa[Nat.blt] using hb
               omega
      simp only[dp,e,Nat.add_sub_cancel_left]
     obtain ⟨d,av,e1,e2,e3,e4,e5,lk,hm,q1,q2,q3,q4⟩:=g3 j' o (by rw[List.getElem?_drop];exact hj);rw[hlt];refine⟨d,av,by rw[List.getElem?_append_right (by omega),hk,Nat.add_sub_cancel_left];exact e1,e2,e3,e4,e5,lk,hm,fun t av hn hg=>?_,q2,q3,q4⟩;have:=q1 t av hn hg;rw[List.take_append,List.take_of_length_le (by omega),hk,Nat.add_sub_cancel_left,List.reverse_append,List.append_assoc];exact this
 | (k,false)::cs,l,τ,h=>by
   simp only[xf] at h;obtain ⟨hkl,h⟩:=h;have hkl:=Nat.le_of_ble_eq_true hkl;obtain ⟨t1,h1,h2,h3⟩:=ah.out _ _ h;have hk:t1.length=k:=by rw[h1];simp;omega
   have htake:(t1.reverse++St.wo hs τ).take k=t1.reverse:=by
    rw[List.take_append_of_le_length (by simp;omega),List.take_of_length_le (by simp;omega)]
   rw[htake] at h2;obtain ⟨t2,g1,g2,g3⟩:=xf.out cs _ _ h2;have hl:t1.length+t2.length=l.length:=by rw[g1];simp;omega
   refine⟨t1++t2,by simpa using hl,by simpa using g2,fun j o hj=>?_⟩;have hjl:=(List.getElem?_eq_some_iff.1 hj).1;rcases Nat.lt_or_ge j k with hjk | hjk
   · have hlt:dp ((k,false)::cs) j=true:=by
      have e:Nat.blt j k=true:=by simp[Nat.blt];omega
      simp only[dp,e];rfl
     obtain ⟨d,av,e1,e2,e3,e4,e5⟩:=h3 j o (by rw[List.getElem?_take,if_pos hjk];exact hj)
     have hr2:cE ds av=true∧cE hs av=true:=by
      unfold cE at e4 ⊢;split at e4
      · rename_i q hq;have hq':q ∉ ds++hs:=fun e=>by rw[fj.2 e] at e4;cases e4
        have e1:pW q ds=false:=by cases hb:pW q ds with
         | false=>rfl
         | true=>exact absurd (List.mem_append_left _ (fj.1 hb)) hq'
        have e2:pW q hs=false:=by cases hb:pW q hs with
         | false=>rfl
         | true=>exact absurd (List.mem_append_right _ (fj.1 hb)) hq'
        simp[e1,e2]
      · exact⟨rfl,rfl⟩
     rw[hlt];refine⟨d,av,by rw[List.getElem?_append_left (by omega)];exact e1,e2,e3,hr2.1,fun _=>hr2.2,(t1.take j).reverse++St.wo hs τ,σ0.wo hs,fun t av _ hg=>?_,fun t av hg=>⟨fun _=>(yZ hg).1,(yZ hg).2⟩,fun t av hg hn=>by rw[H0,if_neg (hn rfl)];exact hg,e5⟩;rw[List.take_append_of_le_length (by omega)];rw[get_append] at hg ⊢;split at hg
     · exact hg
     · exact(yZ hg).2
   · obtain ⟨j',rfl⟩: ∃j',j=k+j':=⟨j-k,by omega⟩
     have hlt:dp ((k,false)::cs) (k+j')=dp cs j':=by
      have e:Nat.blt (k+j') k=false:=by
       cases hb:Nat.blt (k+j') k with
       | false=>rfl
       | true=>have:k+j'+1≤k:=by simpa[Nat.blt] using hb
               omega
      simp only[dp,e,Nat.add_sub_cancel_left]
     obtain ⟨d,av,e1,e2,e3,e4,e5,lk,hm,q1,q2,q3,q4⟩:=g3 j' o (by rw[List.getElem?_drop];exact hj);rw[hlt];refine⟨d,av,by rw[List.getElem?_append_right (by omega),hk,Nat.add_sub_cancel_left];exact e1,e2,e3,e4,e5,lk,hm,fun t av hn hg=>?_,q2,q3,q4⟩;have:=q1 t av hn hg;rw[List.take_append,List.take_of_length_le (by omega),hk,Nat.add_sub_cancel_left,List.reverse_append,List.append_assoc];exact this
theorem xi.nW(hT:bD P T){Q:Exit→St→Prop}(cs:List (Nat×Bool))(m:Nat)(hs:List Nat)(hB:DS ops cs m hs=true)
  (h:xf P B F0 w0 n ops (eC ops m) hs (σ.less (eC ops m)) cs (ops.toList.take m) (σ.less (eC ops m)) (fun τ =>
   ∃wl,oM T τ hs ((ops.toList.drop m).take hs.length) wl∧ae P B F0 w0 n ops (ops.toList.drop (m+hs.length)) (Q .normal) (wl.reverse++τ))):xi P B F0 w0 n ops Q σ:=by
 intro a w hR;simp only[DS,Bool.and_eq_true,decide_eq_true_eq,Bool.or_eq_true] at hB;obtain ⟨⟨⟨⟨⟨⟨hsize,hhead⟩,hstores⟩,hnodup⟩,hlooks⟩,htail⟩,hseq⟩:=hB;have hR0:=(hR.less (eC ops m)).drew;generalize hds:eC ops m=ds at h hR0;generalize hσ0:σ.less ds=σ0 at h hR0
 have hs0ds: ∀t av,σ0.get t=some av→t ∉ ds∧cE ds av=true:=fun t av hg=>by
  rw[← hσ0,rD] at hg;split at hg<;>try (cases hg;done)
  rename_i htd;refine⟨htd,?_⟩;cases hs:σ.get t with
  | none=>simp[hs] at hg
  | some y =>
    simp only[hs,Option.map_some,Option.some.injEq] at hg;subst hg;unfold AV.tD;cases hr:cE ds y with
    | true=>exact hr
    | false=>rfl
 obtain ⟨tl,htl,⟨wl,hwl,hQ⟩,hst⟩:=xf.out _ _ _ h;obtain ⟨hw1,_,hw3⟩:=hwl.spec;have hop: ∀j,j<m→(ops.toList.take m)[j]?=ops[j]?:=fun j hj=>by simp[List.getElem?_take,hj]
 have hstep: ∀j,j<m→ ∃o d av,ops[j]?=some o∧o.dst=some d∧tl[j]?=some (d,av)∧d<n∧d∈ds∧cE ds av=true∧(dp cs j=true→cE hs av=true) ∧
  ∃lk hm:St,(∀t av,t∈o.looksAt ops→lk.get t=some av→(dp cs j=true→t ∉ hs)∧St.get ((tl.take j).reverse++σ0) t=some av)∧(∀t av,hm.get t=some av→(dp cs j=true→t ∉ hs)∧σ0.get t=some av) ∧
   (∀t av,σ0.get t=some av→(dp cs j=true→t ∉ hs)→hm.get t=some av)∧p9 P B F0 w0 ops hm lk o d av:=fun j hj=>by
  obtain ⟨o,d,h1,h2,_⟩:=fH hhead hj;obtain ⟨d',av,g1,g2,g3,g4,g5,lk,hm,q1,q2,q3,q4⟩:=hst j o (by rw[hop j hj];exact h1);rw[h2] at g2;simp at g2;subst g2;refine⟨o,d,av,h1,h2,g1,g3,?_,g4,g5,lk,hm,fun t av ht hg=>?_,q2,q3,q4⟩
  · rw[← hds];exact List.mem_filterMap.2 ⟨o,List.mem_of_getElem? ((hop j hj).trans h1),h2⟩
  · have hn:dp cs j=true→t ∉ hs:=fun hl=>B5 hlooks hj hl h1 t ht;exact⟨hn,q1 t av hn hg⟩
 have hdist: ∀(i j t:Nat) (a b:AV),tl[i]?=some (t,a)→tl[j]?=some (t,b)→i=j:=fun i j t a b h1 h2=>by
  have hi:i<m:=by have:=(List.getElem?_eq_some_iff.1 h1).1;rw[htl] at this;simp at this;omega
  have hj:j<m:=by have:=(List.getElem?_eq_some_iff.1 h2).1;rw[htl] at this;simp at this;omega
  by_cases hij:i=j
  · exact hij
  · exfalso;obtain ⟨o,d,av1,g1,g2,g3,_⟩:=hstep j hj;obtain ⟨o',d',av2,f1,f2,f3,_⟩:=hstep i hi;obtain ⟨o2,d2,e1,e2,_,_,e3,_⟩:=fH hhead hj;rw[g1] at e1;simp at e1;subst e1;have:=e3 i o' hi hij f1;rw[f2,g2] at this;rw[h1] at f3;rw[h2] at g3;simp at f3 g3;exact this (by rw[← f3.1,← g3.1])
 have H:D2 P T B F0 w0 n ops cs m hs ds σ0 tl wl:=⟨hsize,hhead,hstores,hnodup,hs0ds,hstep,by rw[htl];simp;omega,hdist,hw1,fun k hm hk=>by
  have hkl:=(List.getElem?_eq_some_iff.1 hk).1;obtain ⟨o,_,h1,_⟩:=ij hstores hkl;obtain ⟨av,k1,k2⟩:=hw3 k o hm (by rw[List.getElem?_take,if_pos hkl,List.getElem?_drop];simpa using h1) hk
  exact⟨av,k1,o,h1,k2⟩⟩
 have hu0:un (Array.replicate ops.size false) (m+hs.length)=m+hs.length:=by
  have: ∀k,k≤m+hs.length→un (Array.replicate ops.size false) k=k:=fun k hk=>by
   induction k with
   | zero=>rfl
   | succ k ih =>
     have hlt:k<ops.size:=by omega
     simp[un,ih (by omega),hlt]
  exact this _ (Nat.le_refl _)
 have hinv0:HeadInv .any ops (m+hs.length) (Array.replicate ops.size false) :=
  ⟨by simp,fun j oj _ hl=>(by rw[getD_replicate_false] at hl;cases hl),fun t _ ht=>getD_in (by simpa using ht) (getD_replicate_false _ _)⟩
 have:=D2.all H hT htail hseq hQ (m+hs.length) (Array.replicate ops.size false) a {w with drawn:=w.drawn+1} (fun e a' w'=> ∃σ',Q e σ'∧Rel P B F0 w0 n σ' a' w') hinv0 hu0 (hR0.ext (fun t=>?_)) (fun a w σ' hk hr=>⟨σ',hk,hr⟩)
 · rw[show m+hs.length+(ops.size-(m+hs.length))=ops.size by omega] at this;exact this
 · have e1: ∀(l:List (Nat×AV)) (k:Nat),oY (Array.replicate ops.size false) k l=[]:=fun l=>by
    induction l with
    | nil=>intro k;rfl
    | cons e r ih=>intro k;simp only[oY,getD_replicate_false];exact ih (k+1)
   unfold D2.tM;rw[e1,e1];rfl
theorem AW.nW(hT:bD P T){Q:Exit→St→Prop}{id:Nat}(jG:P.follows .mixedOrders=true)(cs:List (Nat×Bool))(m:Nat)(hs:List Nat)(hB:DS ops cs m hs=true)
  (h:xf P B F0 w0 n ops (eC ops m) hs (σ.less (eC ops m)) cs (ops.toList.take m) (σ.less (eC ops m)) (fun τ =>
   ∃wl,oM T τ hs ((ops.toList.drop m).take hs.length) wl∧ae P B F0 w0 n ops (ops.toList.drop (m+hs.length)) (Q .normal) (wl.reverse++τ))):AW P B F0 w0 n (.region id ops true) Q σ:=AW.any jG (xi.nW hT cs m hs hB h)
end
end Lift
namespace Lift
open Go
section
variable {P:Program} {T:Ty} {B:Nat} {F0:Nat→Prop} {w0:cX} {n:Nat} {σ:St} {K:St→Prop} {Q:Exit→St→Prop} {all:Array Oper} {l:List Oper} {c:Code}
def St.gw(t s:Nat)(av:AV)(σ:St):St:=(s,av)::(t,.al s)::St.kill s (σ.kill t)
theorem Rel.gw{t s:Nat}{av:AV}{a:Act}{w:World}(hR:Rel P B F0 w0 n σ a w)(ht:σ.get t=some av)(hrow:av.row.isSome=true)(hs:σ.get s=some (.al t))(hne:t≠s):Rel P B F0 w0 n (σ.gw t s av) a w:=by
 obtain ⟨O,hOr,hO⟩:=hR.own;obtain ⟨v,hv,hr⟩:=hO t av ht;obtain ⟨u,hu,hur⟩:=hO s _ hs
 have hvu:v=u:=by
  have:=hur av ht hrow;simp only[hv] at this;exact Option.some.inj this
 subst hvu;have hF: ∀c,aP O (FW B F0 w) c→aP (rV O t s) (FW B F0 w) c:=fun c hc=>⟨ff.2 hc.1,hc.2⟩
 have hcell: ∀{l:List D} {cs:Array Value},(∀(i:Nat) (d:D),(flatAll l)[i]?=some d→d.bc=true∧ ∃u,cs[i]?=some u∧Rd w (aP O (FW B F0 w)) d u) →
   ∀(i:Nat) (d:D),(flatAll l)[i]?=some d→d.bc=true∧ ∃u,cs[i]?=some u∧Rd w (aP (rV O t s) (FW B F0 w)) d u:=fun h8 i dd hdd=>⟨(h8 i dd hdd).1,let ⟨z,hz,hzr⟩:=(h8 i dd hdd).2;⟨z,hz,hzr.mono hF (fun _ _=>rfl)⟩⟩
 refine⟨hR.below,hR.base,hR.f0,hR.defers,hR.size,rV O t s,nq hOr,fun k x hk=>?_⟩;unfold St.gw at hk;rw[St.ki] at hk;split at hk
 · rename_i hks;subst hks;simp at hk;subst hk;refine⟨v,hu,?_⟩;cases av<;>simp[AV.row] at hrow
   · rcases hr with hr | ⟨b,cap,cs,h1,h2,h3,h4,h5,h6,h7,h8⟩
     · exact .inl hr
     · exact .inr ⟨b,cap,cs,h1,by simp[rV,h2],h3,h4,h5,h6,h7,hcell h8⟩
   · rcases hr with hr | ⟨b,o,cap,cs,hq,h1,h0,h2,h3,h4,h5,h6,h7,h8⟩
     · exact .inl hr
     · exact .inr ⟨b,o,cap,cs,hq,h1,h0,by simp[rV,h2],h3,h4,h5,h6,h7,hcell h8⟩
 · rename_i hks;split at hk
   · rename_i hkt;subst hkt;simp at hk;subst hk;exact⟨v,hv,fun _ _ _=>hu⟩
   · rename_i hkt;rw[St.dV,St.dV] at hk;cases hg:σ.get k with
     | none=>simp[hg] at hk
     | some y =>
       simp only[hg,Option.map_some,Option.some.injEq] at hk;subst hk;obtain ⟨z,hz,hzr⟩:=hO k y hg;refine⟨z,hz,?_⟩;rcases AV.kZ t y with ⟨h1,h2⟩ | h1
       · rw[h1];rcases AV.kZ s y with ⟨h3,h4⟩ | h3
         · rw[h3];refine hzr.move (fun c hc=>⟨hF c hc,rfl⟩) (fun _ c hc=>⟨fN hc (Ne.symm hkt) (Ne.symm hks),rfl⟩) (fun j hj x hx hg'=>?_);have hjt:j≠t:=fun e=>h2 (e▸hj);have hjs:j≠s:=fun e=>h4 (e▸hj);unfold St.gw at hg';rw[St.ki,if_neg (Ne.symm hjs),if_neg (Ne.symm hjt),St.dV,St.dV] at hg';cases hgj:σ.get j with
           | none=>simp[hgj] at hg'
           | some y' =>
             simp only[hgj,Option.map_some,Option.some.injEq] at hg';subst hg';have e1:=gA hx;rw[e1] at hx ⊢;rw[gA hx];exact⟨rfl,rfl⟩
         · rw[h3];trivial
       · rw[h1,show AV.kill s .junk= .junk from rfl];trivial
theorem ae.gw(t s:Nat){av:AV}(ht:σ.get t=some av)(hrow:av.row.isSome=true)(hs:σ.get s=some (.al t))(hne:Nat.beq t s=false)(h:ae P B F0 w0 n all l K (σ.gw t s av)):ae P B F0 w0 n all l K σ :=
 fun a w hR=>h a w (hR.gw ht hrow hs (Nat.ne_of_beq_eq_false hne))
theorem eQ.KA{X:Nat→Prop}{w:World}{O:Nat→Option Nat}{F:Nat→Prop}{hm hm':Nat→Option AV}{tm:Nat→Option Value}{t:Nat}{av:AV}{v:Value}(ha:eQ P X w O F hm tm t av v)
  (hr: ∀k,av.refs=some k→(∀ds,hm' k=some (.bx ds)→ ∃ds',hm k=some (.bx ds'))∧(∀x e l,hm' k=some x→x.row=some (e,l)→ ∃y l',hm k=some y∧y.row=some (e,l')∧l'.length=l.length∧y.tag=x.tag)):eQ P X w O F hm' tm t av v:=by
 cases av with
 | pt k off =>
   intro ds hds;obtain ⟨ds',e2⟩:=(hr k rfl).1 ds hds;exact ha ds' e2
 | al k =>
   intro x hx hrow;cases hrw:x.row with
   | none=>rw[hrw] at hrow;cases hrow
   | some p =>
     obtain ⟨y,l',e2,e3,_,_⟩:=(hr k rfl).2 x p.1 p.2 hx hrw;exact ha y e2 (by rw[e3];rfl)
 | el k i off =>
   intro x e l hx hrow;obtain ⟨y,l',e2,e3,e4,e5⟩:=(hr k rfl).2 x e l hx hrow;obtain ⟨h0,h1⟩:=ha y e l' e2 e3;exact⟨by omega,h1⟩
 | sb k lo m =>
   intro x e l hx hrow;obtain ⟨y,l',e2,e3,e4,e5⟩:=(hr k rfl).2 x e l hx hrow;have:=ha y e l' e2 e3;rw[e4,e5] at this;exact this
 | _=>exact ha
theorem Rel.GC{t e:Nat}{xs:List D}{a:Act}{w:World}(hR:Rel P B F0 w0 n σ a w)(ht:σ.get t=some (.ow e xs)):Rel P B F0 w0 n ((t,.wn false e xs 0 xs.length)::σ) a w:=by
 obtain ⟨O,hOr,hO⟩:=hR.own;refine⟨hR.below,hR.base,hR.f0,hR.defers,hR.size,O,hOr,fun k x hk=>?_⟩
 have key: ∀j,(∀ds,St.get ((t,AV.wn false e xs 0 xs.length)::σ) j=some (.bx ds)→ ∃ds',σ.get j=some (.bx ds'))∧(∀x e' l,St.get ((t,AV.wn false e xs 0 xs.length)::σ) j=some x→x.row=some (e',l)→ ∃y l',σ.get j=some y∧y.row=some (e',l')∧l'.length=l.length∧y.tag=x.tag):=fun j=>by
  by_cases hj:t=j
  · subst hj;refine⟨fun ds hds=>?_,fun x e' l hx hrow=>?_⟩
    · rw[St.aM,if_pos rfl] at hds;cases hds
    · rw[St.aM,if_pos rfl] at hx;simp at hx;subst hx;simp[AV.row] at hrow;obtain ⟨rfl,rfl⟩:=hrow;exact⟨_,xs,ht,rfl,rfl,rfl⟩
  · rw[St.aM,if_neg hj];exact⟨fun ds hds=>⟨ds,hds⟩,fun x e' l hx hrow=>⟨x,l,hx,hrow,rfl,rfl⟩⟩
 rw[St.aM] at hk;split at hk
 · rename_i htk;subst htk;simp at hk;subst hk;obtain ⟨v,hv,hr⟩:=hO t _ ht;refine⟨v,hv,?_⟩;exact MK hr
 · obtain ⟨v,hv,hr⟩:=hO k x hk;exact⟨v,hv,hr.KA (fun j _=>key j)⟩
theorem ae.GC(t:Nat){e:Nat}{xs:List D}(ht:σ.get t=some (.ow e xs))(h:ae P B F0 w0 n all l K ((t,.wn false e xs 0 xs.length)::σ)):ae P B F0 w0 n all l K σ:=fun a w hR=>h a w (hR.GC ht)
end
end Lift
namespace Lift
open Go
open Go.RowKit (Below)
section
variable {P:Program} {T:Ty} {B B1:Nat} {F0 F1:Nat→Prop} {w0 w1:cX} {n:Nat}
theorem iI.back{w:World}(h0:iI B w0 w0.w w1.w)(hB:B≤B1)(hX: ∀b,w1.X b→B≤b∨w0.X b)(h:iI B1 w1 w1.w w):iI B w0 w0.w w :=
 ⟨h.os.trans h0.os,h.tape.trans h0.tape,h.output.trans h0.output,Nat.le_trans h0.size h.size,fun k hk hx=>(h.block k (by omega) (fun h'=>by
   rcases hX k h' with g | g
   · omega
   · exact hx g)).trans (h0.block k hk hx),fun k cs e fz hk=>by
   obtain ⟨c1,g1,g2⟩:=h0.same k cs e fz hk;obtain ⟨c2,g3,g4⟩:=h.same k c1 e fz g1
   exact⟨c2,g3,g4.trans g2⟩⟩
def MJ(P:Program)(all:Array Oper)(l:List Oper)(Q:Exit→Act→World→Prop):Exit→Act→World→Prop
 | .normal,a,w=>wpList P all Q l a w
 | .exit i,a,w=>Q (.exit i) a w
 | .goto i,a,w=>Q (.goto i) a w
 | .ret,a,w=>Q .ret a w
 | .panic c,a,w=>Q (.panic c) a w
 | .outgrown,a,w=>Q .outgrown a w
theorem CL{o:Oper}{a:Act}{next:Act→World→Prop}{Q Q':Exit→Act→World→Prop}(hp: ∀c a w,Q (.panic c) a w↔Q' (.panic c) a w)(ho:LetsOut Q↔LetsOut Q')
  {r:Result Next} (h:o.upon P a next Q r):o.upon P a next Q' r:=by
 cases r with
 | ok n w' =>
   cases n<;>simp only[Oper.upon] at h ⊢ <;>
    first
     | exact h
     | exact Calls.mono h (fun e w'' he=>by cases e<;>first | exact he | exact(hp _ _ _).1 he | exact ho.1 he)
 | halt x w'=>cases x<;>simp only[Oper.upon] at h ⊢ <;>exact(hp _ _ _).1 h
theorem jc{all:Array Oper}{Q:Exit→Act→World→Prop}(l2:List Oper): ∀(l1:List Oper) (a:Act) (w:World),wpList P all (MJ P all l2 Q) l1 a w→wpList P all Q (l1++l2) a w
 | [],a,w,h=>h
 | o::l1,a,w,h=>by
   rw[List.cons_append];unfold wpList at h ⊢;split at h
   · rw[if_pos (by assumption)];rcases h with h | h
     · refine .inl ?_;have h1:=Oper.wp_mono (K':=wpList P all Q (l1++l2)) (fun a w=>jc l2 l1 a w) h;exact CL (fun c a w=>Iff.rfl) Iff.rfl h1
     · exact .inr h
   · rw[if_neg (by assumption)];exact jc l2 l1 _ _ h
end
end Lift
namespace Lift
open Go
section
variable {H:Type} {enc:TypeId×Value→H} {P:Program}
def Wt{H:Type}(P:Program)(t:TypeId)(d:DataW H):Prop:= ∀n,n∈d.weights P t→n≤reachBytes
theorem nJ{H:Type}{P:Program}{e:TypeId}{d:DataW H}{n:Nat}(hn:n∈d.weights P e): ∀{l:List (DataW H)},d∈l→n∈DataW.weightsAll P e l
 | x::l,h=>by
   rw[DataW.weightsAll];rcases List.mem_cons.1 h with rfl | h
   · exact List.mem_append_left _ hn
   · exact List.mem_append_right _ (nJ hn h)
def RT(P:Program)(t:TypeId)(α:Type)(cells:α→List D)(ok:α→Prop):Prop :=
 (∀v,(cells v).length=P.cellsOf t∧ ∀d∈cells v,d.bc=true) ∧
 ∀(H:Type) (enc:TypeId×Value→H) (w:World) (fuel:Nat) (cs:List Value) (x:DataW H×List MemPlace),DataW.trod enc P w 0 (fun _=>true) true fuel t cs=some x→Wt P t x.1 →
  ∃v,ok v∧mF w (fun b=>b<w.heap.size) (cells v) cs
def k8(P:Program)(m:Nat)(fs:List Field)(off:Nat)(α:Type)(cells:α→List D)(ok:α→Prop):Prop :=
 (∀v,∀d∈cells v,d.bc=true) ∧
 ∀(H:Type) (enc:TypeId×Value→H) (w:World) (n:Nat) (cs:List Value) (xs:List (DataW H×List MemPlace)),cs.length=m→xs.length=fs.length →
  (∀(i:Nat) (f:Field),fs[i]?=some f→DataW.trod enc P w 0 (fun _=>true) true n f.type ((cs.drop f.offset).take (P.cellsOf f.type))=xs[i]?) →
  (∀n,n∈DataW.weightsEach P (fs.map (·.type)) (xs.map (·.1))→n≤reachBytes)→ ∃v,ok v∧mF w (fun b=>b<w.heap.size) (cells v) (cs.drop off)
theorem mF.one{w:World}{F:Nat→Prop}{d:D}{v:Value}(hc:d.bc=true)(h:Rd w F d v):mF w F [d] [v] :=
 ⟨rfl,fun i e u h1 h2=>by cases i<;>simp at h1 h2;subst h1;subst h2;exact⟨hc,h⟩⟩
theorem mF.append{w:World}{F:Nat→Prop}{ds es:List D}{vs us:List Value}(h:mF w F ds vs)(k:mF w F es us):mF w F (ds++es) (vs++us):=by
 refine⟨by simp[h.1,k.1],fun i d u h1 h2=>?_⟩;rcases Nat.lt_or_ge i ds.length with hi | hi
 · rw[List.getElem?_append_left hi] at h1;rw[List.getElem?_append_left (by rw[h.1];exact hi)] at h2;exact h.2 i d u h1 h2
 · rw[List.getElem?_append_right hi] at h1;rw[List.getElem?_append_right (by rw[h.1];exact hi),h.1] at h2;exact k.2 _ d u h1 h2
theorem RT.bool{t:TypeId}(ht:P.underlying t=some .bool)(h1:P.cellsOf t=1):RT P t Bool (fun b=>[.v (.bool b)]) (fun _=>True) :=
 ⟨fun v=>⟨h1.symm,fun d hd=>by simp at hd;subst hd;rfl⟩,fun H enc w fuel cs x h _=>by
  obtain ⟨b,rfl,_⟩:=DataW.trod_bool ht h
  exact⟨b,trivial,mF.one rfl (.v rfl)⟩⟩
theorem RT.int{t:TypeId}{k:IntKind}(ht:P.underlying t=some (.int k))(h1:P.cellsOf t=1):RT P t Int (fun n=>[.v (.int k n)]) (fun n=>(Lit.int k n).wf=true) :=
 ⟨fun v=>⟨h1.symm,fun d hd=>by simp at hd;subst hd;rfl⟩,fun H enc w fuel cs x h _=>by
  obtain ⟨n,rfl,_,hw⟩:=DataW.trod_int ht h
  exact⟨n,hw,mF.one rfl (.v rfl)⟩⟩
theorem RT.string{t:TypeId}(ht:P.underlying t=some .string)(h1:P.cellsOf t=1):RT P t ByteArray (fun s=>[.v (.string s)]) (fun s=>s.size≤reachBytes) :=
 ⟨fun v=>⟨h1.symm,fun d hd=>by simp at hd;subst hd;rfl⟩,fun H enc w fuel cs x h hw=>by
  obtain ⟨s,rfl,rfl,hs⟩:=DataW.trod_string ht h
  exact⟨s,hw _ (by rw[DataW.weights];simp),mF.one rfl (.v (decide_eq_true hs))⟩⟩
theorem RT.map{t:TypeId}{α β:Type}{ca:α→List D}{cb:β→List D}{oa:α→Prop}{ob:β→Prop}(h:RT P t α ca oa)(f:α→β)(hc: ∀a,oa a→cb (f a)=ca a)(ho: ∀a,oa a→ob (f a))(hb: ∀v,(cb v).length=P.cellsOf t∧ ∀d∈cb v,d.bc=true):RT P t β cb ob :=
 ⟨hb,fun H enc w fuel cs x hx hw=>by
  obtain ⟨a,h1,h2⟩:=h.2 H enc w fuel cs x hx hw
  exact⟨f a,ho a h1,by rw[hc a h1];exact h2⟩⟩
theorem k8.nil{m:Nat}:k8 P m [] m Unit (fun _=>[]) (fun _=>True) :=
 ⟨(fun v d hd=>by cases hd),fun H enc w n cs xs hm hl hx _=>⟨(),trivial,by
   rw[List.drop_eq_nil_of_le (by omega)]
   exact⟨rfl,fun i d u h=>by cases h⟩⟩⟩
theorem k8.cons{m off:Nat}{f:Field}{fs:List Field}{α β:Type}{ca:α→List D}{cb:β→List D}{oa:α→Prop}{ob:β→Prop}(ho:off=f.offset+P.cellsOf f.type)(h:RT P f.type α ca oa)(k:k8 P m fs off β cb ob):
  k8 P m (f::fs) f.offset (α×β) (fun v=>ca v.1++cb v.2) (fun v=>oa v.1∧ob v.2):=by
 subst ho;refine⟨fun v d hd=>?_,fun H enc w n cs xs hm hl hx hw=>?_⟩
 · rcases List.mem_append.1 hd with hd | hd
   · exact(h.1 v.1).2 d hd
   · exact k.1 v.2 d hd
 · match xs,hl with
   | x::xs,hl =>
     rw[List.map_cons,List.map_cons,DataW.weightsEach] at hw;obtain ⟨a,ha,hra⟩:=h.2 H enc w n _ x (hx 0 f rfl) (fun n hn=>hw n (List.mem_append_left _ hn));obtain ⟨b,hb,hrb⟩:=k.2 H enc w n cs xs hm (by simpa using hl) (fun i g hg=>hx (i+1) g (by simpa using hg)) (fun n hn=>hw n (List.mem_append_right _ hn));refine⟨(a,b),⟨ha,hb⟩,?_⟩;have:=hra.append hrb
     rwa [← List.drop_drop,List.take_append_drop] at this
theorem RT.struct{t:TypeId}{fs:Array Field}{m:Nat}{α:Type}{ca:α→List D}{oa:α→Prop}(ht:P.underlying t=some (.struct fs))(hm:P.cellsOf t=m)(h:k8 P m fs.toList 0 α ca oa)(hlen: ∀v,(ca v).length=m):RT P t α ca oa:=by
 refine⟨fun v=>⟨(hlen v).trans hm.symm,h.1 v⟩,fun H enc w fuel cs x hx hw=>?_⟩;obtain ⟨xs,n,_,rfl,hl,hxl,hf⟩:=DataW.trod_struct ht hx;obtain ⟨v,hv,hr⟩:=h.2 H enc w n cs xs (hl.trans hm) (by simpa using hxl) (fun i f hi=>hf i f (by simpa using hi)) (fun n hn=>hw n (by rw[DataW.weights,ht];exact hn));exact⟨v,hv,by simpa using hr⟩
theorem yV{w:World}{b off:Nat}{u:Value}(h:w.cell? ⟨b,off,none⟩=some u): ∃cs e fz,w.heap[b]?=some (.cells cs e fz)∧cs[off]?=some u:=by
 unfold World.cell? at h;split at h
 · rename_i cs e fz hh;exact⟨cs,e,fz,hh,by simpa using h⟩
 · cases h
theorem RT.sliceB(c:Nat){t e:TypeId}{s:Nat}{α:Type}{ca:α→List D}{oa:α→Prop}{el:α→D}(ht:P.underlying t=some (.slice e))(h1:P.cellsOf t=1)(hs:P.cellsOf e=s)(h0:0<s)(hby:c≤P.bytesOf e)(h:RT P e α ca oa)(hel: ∀v,(el v).flat=ca v):
  RT P t (List α) (fun l=>[.sl s (l.map el)]) (fun l=>l.length*c≤reachBytes∧ ∀v∈l,oa v):=by
 refine⟨fun v=>⟨h1.symm,fun d hd=>by simp at hd;subst hd;rfl⟩,fun H enc w fuel cs x hx hw=>?_⟩;rcases DataW.trod_slice ht hx with ⟨rfl,_⟩ | ⟨a,len,cap,elems,rest,n,_,rfl,rfl,_,hlc,hcm,hel',hget,_,_⟩
 · exact⟨[],⟨by rw[List.length_nil,Nat.zero_mul];exact Nat.zero_le _,fun v hv=>by cases hv⟩,mF.one rfl (.nil (Nat.zero_le _))⟩
 rw[hs] at hget;unfold Wt at hw;rw[DataW.weights,ht] at hw
 have hlen0:len*c≤reachBytes:=by
  have h2:=hw _ (List.mem_cons_self ..);rw[List.length_map,hel'] at h2;exact Nat.le_trans (Nat.mul_le_mul (Nat.le_add_right _ _) hby) h2
 have each: ∀i:Fin len,∃v,oa v∧ ∃cs',w.cells? 0 (a.add (i.1*s)) s=some cs'∧mF w (fun b=>b<w.heap.size) (ca v) cs':=fun i=>by
  have hi:=hget i.1 i.2;have he:elems[i.1]?=some elems[i.1]:=List.getElem?_eq_getElem (by omega);rw[he,Option.bind_eq_some_iff] at hi;obtain ⟨cs',h2,h3⟩:=hi;obtain ⟨v,hv,hr⟩:=h.2 H enc w n cs' _ h3 (fun n hn=>hw n (List.mem_cons_of_mem _ (List.mem_append_left _ (nJ hn (List.mem_map_of_mem (List.getElem_mem _))))));exact⟨v,hv,cs',h2,hr⟩
 obtain ⟨f,hf⟩:=Classical.axiomOfChoice each;refine⟨List.ofFn f,⟨by rw[List.length_ofFn];exact hlen0,fun v hv=>?_⟩,mF.one rfl ?_⟩
 · obtain ⟨i,rfl⟩:=List.mem_ofFn.1 hv;exact(hf i).1
 rcases Nat.eq_zero_or_pos len with hz | hpos
 · subst hz;rw[List.ofFn_zero,List.map_nil];exact .nil hcm
 obtain ⟨b,off,spot⟩:=a
 have hsp:spot=none:=by
  obtain ⟨_,cs',h2,_⟩:=hf ⟨0,hpos⟩;obtain ⟨_,hl,hc⟩:=World.cells?_some h2;have:=hc 0 h0;rw[Nat.zero_mul] at this;have he:cs'[0]?=some cs'[0]:=List.getElem?_eq_getElem (by omega);rw[he] at this;simpa[Addr.add] using World.cell?_spot this
 subst hsp
 have hadd: ∀k m:Nat,((⟨b,off,none⟩:Addr).add k).add m=⟨b,off+(k+m),none⟩:=fun k m=>by
  simp only[Addr.add];split<;>split<;>simp_all<;>omega
 have hu: ∀x,x∈(List.ofFn f).map el→x.flat.length=s:=fun x hx=>by
  obtain ⟨v,_,rfl⟩:=List.mem_map.1 hx;rw[hel,(h.1 v).1,hs]
 have hblk: ∃arr e' fz,w.heap[b]?=some (.cells arr e' fz):=by
  obtain ⟨_,cs',h2,_⟩:=hf ⟨0,hpos⟩;obtain ⟨_,hl,hc⟩:=World.cells?_some h2;have:=hc 0 h0;rw[hadd,show cs'[0]?=some cs'[0] from List.getElem?_eq_getElem (by omega)] at this;obtain ⟨arr,e',fz,g,_⟩:=yV this;exact⟨arr,e',fz,g⟩
 obtain ⟨arr,e',fz,hblk⟩:=hblk;have hlen:((List.ofFn f).map el).length=len:=by rw[List.length_map,List.length_ofFn]
 have key:=Rd.mK (w:=w) (F:=fun b=>b<w.heap.size) (s:=s) (l:=(List.ofFn f).map el) (off:=off) (cap:=cap) (Array.getElem?_eq_some_iff.1 hblk).1 hblk (by omega) hcm hu (fun j d hj=>?_)
 · rwa [hlen] at key
 have hjl:=(List.getElem?_eq_some_iff.1 hj).1;rw[aR hu,hlen] at hjl;have hdm:=Nat.div_add_mod j s;have hml:=Nat.mod_lt j h0;have hil:j / s<len:=Nat.div_lt_of_lt_mul (by rw[Nat.mul_comm];exact hjl);obtain ⟨_,cs',h2,hr⟩:=hf ⟨j / s,hil⟩;have hg:((List.ofFn f).map el)[j / s]?=some (el (f ⟨j / s,hil⟩)):=by simp[hil]
 have hfa:=cO (j%s) hu hg hml;rw[show j / s*s+j%s=j by rw[Nat.mul_comm];exact hdm,hj,hel] at hfa;obtain ⟨g1,u,g2,g3⟩:=hr.get hfa.symm;obtain ⟨_,hl,hc⟩:=World.cells?_some h2;have hc':=hc (j%s) hml;rw[hadd,g2,show j / s*s+j%s=j by rw[Nat.mul_comm];exact hdm] at hc';obtain ⟨arr2,e2,fz2,k1,k2⟩:=yV hc';rw[hblk] at k1;cases k1;exact⟨g1,u,k2,g3⟩
end
theorem RT.slice{P:Program}{t e:TypeId}{s:Nat}{α:Type}{ca:α→List D}{oa:α→Prop}{el:α→D}(ht:P.underlying t=some (.slice e))(h1:P.cellsOf t=1)(hs:P.cellsOf e=s)(h0:0<s)(hby:0<P.bytesOf e)(h:RT P e α ca oa)(hel: ∀v,(el v).flat=ca v):
  RT P t (List α) (fun l=>[.sl s (l.map el)]) (fun l=>l.length≤reachBytes∧ ∀v∈l,oa v) :=
 (RT.sliceB 1 ht h1 hs h0 hby h hel).map id (fun v h=>rfl) (fun v h=>⟨by have:=h.1;rw[Nat.mul_one] at this;exact this,h.2⟩) (fun v=>⟨h1.symm,fun d hd=>by simp at hd;subst hd;rfl⟩)
end Lift
namespace Lift
open Go Go.ChangeShapes
open Go.RowKit (Below)
section
variable {P:Program}
def RA(P:Program)(t:TypeId)(α:Type)(el:α→D)(ok:α→Prop):Prop :=
 ∀(H:Type) (enc:TypeId×Value→H) (w:World) (v:Value) (d:DataW H) (ps:List MemPlace) (r:Reach) (b0:Nat),DataW.Trod enc P w 0 (fun _=>true) true t v d ps→Wt P t d→Value.okWide P w r b0 t v→ ∃a,ok a∧Rd w (fun b=>b<w.heap.size) (el a) v
theorem RA.agg{t:TypeId}{α:Type}{cells:α→List D}{ok:α→Prop}{fs:Array Field}(ht:P.underlying t=some (.struct fs))(h:RT P t α cells ok):RA P t α (fun a=> .ag (cells a)) ok:=by
 intro H enc w v d ps r b0 ⟨fuel,hd⟩ hw hv;unfold Value.okWide at hv;rw[ht] at hv;obtain ⟨cs,rfl,_,_⟩:=hv;obtain ⟨a,ha,hl,hr⟩:=h.2 H enc w fuel _ _ hd hw;refine⟨a,ha,?_⟩;have:=Rd.ag (w:=w) (F:=fun b=>b<w.heap.size) (l:=cells a) (vs:=cs.toList) (by simpa[Value.cells] using hl) (fun d hd=>(h.1 a).2 d hd) (fun i d u h1 h2=>(hr i d u h1 (by simpa[Value.cells] using h2)).2);simpa using this
theorem RA.cell{t:TypeId}{α:Type}{el:α→D}{ok:α→Prop}(h1: ∀(w:World) (r:Reach) (b0:Nat) (v:Value),Value.okWide P w r b0 t v→v.cells= #[v])(h:RT P t α (fun a=>[el a]) ok):RA P t α el ok:=by
 intro H enc w v d ps r b0 ⟨fuel,hd⟩ hw hv;obtain ⟨a,ha,hl,hr⟩:=h.2 H enc w fuel _ _ hd hw;rw[h1 w r b0 v hv] at hr;exact⟨a,ha,(hr 0 _ v rfl rfl).2⟩
theorem one_int{t:TypeId}{k:IntKind}(ht:P.underlying t=some (.int k))(w:World)(r:Reach)(b0:Nat)(v:Value)(h:Value.okWide P w r b0 t v):v.cells= #[v]:=by
 obtain ⟨n,rfl⟩:=WideShapes.okWide_int ht h;rfl
def RAs(P:Program)(ts:List TypeId)(α:Type)(ds:α→List D)(ok:α→Prop):Prop :=
 (∀t∈ts,P.readableRec t=true∧t<P.types.size) ∧
 ∀(H:Type) (enc:TypeId×Value→H) (w:World) (vs:List Value) (xs:List (DataW H)) (ps:List MemPlace) (r:Reach) (b0:Nat),DataW.TrodAll enc P w 0 (fun _=>true) true ts vs xs ps→(∀n,n∈DataW.weightsEach P ts xs→n≤reachBytes) →
  (∀(j:Nat) (t:TypeId) (v:Value),ts[j]?=some t→vs[j]?=some v→Value.okWide P w r b0 t v) →
  ∃a,ok a∧vs.length=(ds a).length∧ ∀(i:Nat) (d:D) (v:Value),(ds a)[i]?=some d→vs[i]?=some v→Rd w (fun b=>b<w.heap.size) d v
theorem RAs.nil:RAs P [] Unit (fun _=>[]) (fun _=>True) :=
 ⟨(fun t h=>by cases h),fun H enc w vs xs ps r b0 h _ _=>by
   obtain ⟨rfl,rfl,rfl⟩:=trodAll_nil h
   exact⟨(),trivial,rfl,fun i d v h=>by cases h⟩⟩
theorem RAs.cons{t:TypeId}{ts:List TypeId}{α β:Type}{el:α→D}{ds:β→List D}{oa:α→Prop}{ob:β→Prop}(h1:P.readableRec t=true)(h2:t<P.types.size)(h:RA P t α el oa)(k:RAs P ts β ds ob):
  RAs P (t::ts) (α×β) (fun v=>el v.1::ds v.2) (fun v=>oa v.1∧ob v.2):=by
 refine⟨fun u hu=>?_,fun H enc w vs xs ps r b0 ht hw hv=>?_⟩
 · rcases List.mem_cons.1 hu with rfl | hu
   · exact⟨h1,h2⟩
   · exact k.1 u hu
 · obtain ⟨v,vs',d,ds',p,q,rfl,rfl,rfl,hd,hrest⟩:=trodAll_cons ht;rw[DataW.weightsEach] at hw;obtain ⟨a,ha,hra⟩:=h H enc w v d p r b0 hd (fun n hn=>hw n (List.mem_append_left _ hn)) (hv 0 t v rfl rfl);obtain ⟨b,hb,hlb,hrb⟩:=k.2 H enc w vs' ds' q r b0 hrest (fun n hn=>hw n (List.mem_append_right _ hn)) (fun j t v h1 h2=>hv (j+1) t v (by simpa using h1) (by simpa using h2));refine⟨(a,b),⟨ha,hb⟩,by simp[hlb],fun i d v h1 h2=>?_⟩;cases i with
   | zero =>
     simp at h1 h2;subst h1;subst h2;exact hra
   | succ i=>exact hrb i d v (by simpa using h1) (by simpa using h2)
theorem oZ(hl:laidOutB P=true){H:Type}{enc:TypeId×Value→H}{W W':World}(hb:Below W.heap.size W W'): ∀{ts:List TypeId} {vs:List Value} {ds:List (DataW H)} {ps:List MemPlace},(∀t∈ts,P.readableRec t=true∧t<P.types.size) →
  DataW.TrodAll enc P W 0 (fun _=>true) true ts vs ds ps→(∀x∈ps,x.block<W.heap.size)→DataW.TrodAll enc P W' 0 (fun b=>decide (b<W.heap.size)) true ts vs ds ps
 | [],_,_,_,_,h,_=>by
   obtain ⟨rfl,rfl,rfl⟩:=trodAll_nil h;exact trodAll_mk0
 | t::ts,_,_,_,hr,h,hp=>by
   obtain ⟨v,vs',d,ds',p,q,rfl,rfl,rfl,hd,hrest⟩:=trodAll_cons h
   exact⟨p,q,Go.RowKit.Below.trod hl (hr t (List.mem_cons_self ..)).1 (hr t (List.mem_cons_self ..)).2 hd hb (fun x hx=>hp x (List.mem_append_left _ hx)),
    oZ hl hb (fun t ht=>hr t (List.mem_cons_of_mem _ ht)) hrest (fun x hx=>hp x (List.mem_append_right _ hx)),rfl⟩
theorem s8{H:Type}{enc:TypeId×Value→H}{w:World}{base:Nat}{spare:Nat→Bool}{held:Bool}: ∀{ts:List TypeId} {vs:List Value} {ds:List (DataW H)} {ps:List MemPlace},DataW.TrodAll enc P w base spare held ts vs ds ps→ds.length=ts.length
 | [],_,_,_,h=>by
   obtain ⟨rfl,rfl,rfl⟩:=trodAll_nil h;rfl
 | t::ts,_,_,_,h=>by
   obtain ⟨v,vs',d,ds',p,q,rfl,rfl,rfl,hd,hrest⟩:=trodAll_cons h;rw[List.length_cons,List.length_cons,s8 hrest]
theorem law_post{C:Checked}{os:Os}{f:FuncId}{fn:Func}{s:ChangeSpec}{conds:List PathCond}{fresh handsOn:Bool}{apart:Bool}{H:Type}{enc:TypeId×Value→H}{α:Type}{ds:α→List D}{ok:α→Prop}{tb:TypeId}
  (own:ownKnob C.prog.godebug=none) (started:os.Started) (noInit:C.prog.inits.idxOf? f=none) (hfn:C.prog.funcs[f]?=some fn) (hl:laidOutB C.prog=true)
  (witness: ∃(w:World) (tape:Tape) (i:Input),w.os=os∧(w.forCall tape i).Shaped C.prog∧i.vars=[]∧Input.okWide C.prog (w.forCall tape i) .any w.heap.size f i ∧
   s.pre6 enc C.prog fn conds apart (w.forCall tape i).memory i.args∧({}:Assume).holds C.prog (lone (Frame.enter C.prog f i.args .normal) [] (w.forCall tape i)))
  (hvars:s.vars=[]) (hres:fn.resultTypes= #[tb]) (htb:C.prog.underlying tb=some .bool)
  (hspec: ∀xs:List (DataW H),xs.length=fn.params.toList.length→s.fn H xs={results:=[.lit (.bool true)],args:=xs})
  (hargs:RAs C.prog fn.params.toList α ds ok) (h: ∀a,ok a→Pure C.prog f (ds a) (.v (.bool true))):
  ReturnsInHanded {} C os f .any (s.pre6 enc C.prog fn conds apart) (s.post enc C.prog fn apart fresh handsOn false):=by
 refine returnsInHanded_of_change_sized own started noInit hfn witness ?_;intro W base args xs gs before hval hW hcnd hwt _;have hW':=hW;obtain ⟨p,q,hA,hV,rfl,hfz,hnd⟩:=hW;rw[hvars] at hV;obtain ⟨rfl,rfl⟩:=trodVars_none hV
 have hvt:s.plain.varTypes C.prog=[]:=by
  show (s.vars.filterMap _)=[];rw[hvars];rfl
 rw[hvt,List.append_nil,List.append_nil] at hwt;obtain ⟨a,ha,hlen,hr⟩:=hargs.2 H enc W args.toList xs p .any base hA (fun n hn=>by simpa using List.all_eq_true.1 hwt n hn) (fun j t v h1 h2=>hval j t v (by simpa using h1) (by simpa using h2));have hc:=(h a ha).2 W (fun b=>b<W.heap.size) args.toList (fun b hb=>hb) hlen hr;rw[Array.toArray_toList] at hc;refine hc.mono fun e W' ⟨v,he,hb,hrd⟩=>⟨v,he,?_⟩;obtain ⟨rfl,_⟩:=hrd.kn;have hsp:=hspec xs (s8 hA);have hlt: ∀x∈p,x.block<W.heap.size:=fun x hx=>hW'.lt x (List.mem_append_left _ hx);refine⟨xs,[],p++[],[],p,[],hW',?_,?_,?_,hb.frame _,fun h=>by cases h⟩
 · rw[List.append_nil,hsp,hres];exact trodAll_mk1 (Go.RowKit.shut_bool htb true)
 · rw[List.append_nil,hsp];exact oZ hl hb hargs.1 hA hlt
 · rw[List.append_nil,hsp,hvars];rfl
end
end Lift
namespace Lift
theorem af{α β:Type}{l:List α}(f:α→β):(l.map f).length=l.length:=List.length_map f
theorem aj(n:Nat):(0:Int)≤(n:Int):=Int.natCast_nonneg n
theorem ar{p:Prop}[inst:Decidable p](h:decide p=false):¬p:=of_decide_eq_false h
theorem ao{p:Prop}[inst:Decidable p](h:decide p=true):p:=of_decide_eq_true h
theorem aO{p:Prop}[inst:Decidable p](h:p):decide p=true:=decide_eq_true h
theorem a7{p:Prop}[inst:Decidable p](h:¬p):decide p=false:=decide_eq_false h
theorem aK{α:Type}{l:List α}{i:Nat}{a:α}:l.getD i a=l[i]?.getD a:=List.getD_eq_getElem?_getD
theorem bP{α:Type}{l:List α}{i:Nat}(h:i<l.length):l[i]?=some l[i]:=List.getElem?_eq_getElem h
theorem bb{α:Type}{i:Nat}{l:List α}:(l.take i).length=min i l.length:=List.length_take
theorem ai(n:Nat):n≤n:=Nat.le_refl n
open Go Go.Proofs
def I7:Ty:=[
 (1,⟨1,8,false,[.v .nilFunc],[],0,8,.i64⟩),
 (2,⟨1,8,false,[.v (.int .i64 0)],[],0,2,.i64⟩),
 (3,⟨1,8,false,[.v (.int .i64 0)],[],0,2,.i64⟩),
 (4,⟨1,1,false,[.v (.bool false)],[],0,1,.i64⟩),
 (5,⟨1,1,false,[.v (.int .u8 0)],[],0,2,.u8⟩),
 (6,⟨1,1,false,[.v (.int .u8 0)],[],0,2,.u8⟩),
 (7,⟨4,24,true,[.v (.int .i64 0),.v (.int .i64 0),.v (.bool false),.v (.int .u8 0)],[(0,1,false),(1,1,false),(2,1,false),(3,1,false)],0,5,.i64⟩),
 (8,⟨4,24,true,[.v (.int .i64 0),.v (.int .i64 0),.v (.bool false),.v (.int .u8 0)],[(0,1,false),(1,1,false),(2,1,false),(3,1,false)],0,5,.i64⟩),
 (9,⟨1,16,false,[.v (.string ⟨#[]⟩)],[],0,3,.i64⟩),
 (10,⟨1,16,false,[.v (.string ⟨#[]⟩)],[],0,3,.i64⟩),
 (11,⟨1,16,false,[.v (.string ⟨#[]⟩)],[],0,3,.i64⟩),
 (12,⟨1,8,false,[.v (.int .u64 0)],[],0,2,.u64⟩),
 (13,⟨2,24,true,[.v (.string ⟨#[]⟩),.v (.int .u64 0)],[(0,1,false),(1,1,false)],0,5,.i64⟩),
 (14,⟨2,24,true,[.v (.string ⟨#[]⟩),.v (.int .u64 0)],[(0,1,false),(1,1,false)],0,5,.i64⟩),
 (15,⟨1,8,false,[.v (.pointer none)],[],0,7,.i64⟩),
 (16,⟨1,8,false,[.v (.pointer none)],[],0,7,.i64⟩),
 (17,⟨1,8,false,[.v (.pointer none)],[],0,7,.i64⟩),
 (20,⟨1,16,false,[.v .nilIface],[],0,6,.i64⟩),
 (21,⟨1,4,false,[.v (.int .i32 0)],[],0,2,.i32⟩),
 (22,⟨1,24,false,[.sl 2 []],[],65,4,.i64⟩),
 (23,⟨1,24,false,[.sl 7 []],[],41,4,.i64⟩),
 (24,⟨1,24,false,[.sl 2 []],[],110,4,.i64⟩),
 (25,⟨4,88,true,[.v (.string ⟨#[]⟩),.sl 2 [],.sl 7 [],.sl 2 []],[(0,1,false),(1,1,false),(2,1,false),(3,1,false)],0,5,.i64⟩),
 (26,⟨4,88,true,[.v (.string ⟨#[]⟩),.sl 2 [],.sl 7 [],.sl 2 []],[(0,1,false),(1,1,false),(2,1,false),(3,1,false)],0,5,.i64⟩),
 (27,⟨1,24,false,[.sl 1 []],[],52,4,.i64⟩),
 (28,⟨1,24,true,[.sl 1 []],[(0,1,false)],0,5,.i64⟩),
 (29,⟨1,24,true,[.sl 1 []],[(0,1,false)],0,5,.i64⟩),
 (30,⟨1,24,false,[.sl 4 []],[],73,4,.i64⟩),
 (31,⟨1,24,false,[.sl 1 []],[],3,4,.i64⟩),
 (32,⟨3,72,true,[.sl 1 [],.sl 4 [],.sl 1 []],[(0,1,true),(1,1,false),(2,1,false)],0,5,.i64⟩),
 (33,⟨3,72,true,[.sl 1 [],.sl 4 [],.sl 1 []],[(0,1,true),(1,1,false),(2,1,false)],0,5,.i64⟩),
 (34,⟨1,8,false,[.v .nilFunc],[],0,8,.i64⟩),
 (35,⟨1,8,false,[.v .nilFunc],[],0,8,.i64⟩),
 (36,⟨1,16,false,[.v .nilIface],[],0,6,.i64⟩),
 (37,⟨1,16,false,[.v .nilIface],[],0,6,.i64⟩),
 (39,⟨1,8,false,[.v .nilFunc],[],0,8,.i64⟩),
 (40,⟨7,64,true,[.v (.string ⟨#[]⟩),.v (.int .i64 0),.v (.int .i64 0),.v (.int .i64 0),.v (.int .i64 0),.v (.int .i64 0),.v (.int .i64 0)],[(0,1,false),(1,1,false),(2,1,false),(3,1,false),(4,1,false),(5,1,false),(6,1,false)],0,5,.i64⟩),
 (41,⟨7,64,true,[.v (.string ⟨#[]⟩),.v (.int .i64 0),.v (.int .i64 0),.v (.int .i64 0),.v (.int .i64 0),.v (.int .i64 0),.v (.int .i64 0)],[(0,1,false),(1,1,false),(2,1,false),(3,1,false),(4,1,false),(5,1,false),(6,1,false)],0,5,.i64⟩),
 (42,⟨1,8,false,[.v .nilFunc],[],0,8,.i64⟩),
 (43,⟨1,24,false,[.sl 1 []],[],27,4,.i64⟩),
 (45,⟨1,8,false,[.v .nilFunc],[],0,8,.i64⟩),
 (46,⟨1,8,false,[.v .nilFunc],[],0,8,.i64⟩),
 (47,⟨1,8,false,[.v .nilFunc],[],0,8,.i64⟩),
 (48,⟨1,8,false,[.v .nilFunc],[],0,8,.i64⟩),
 (49,⟨1,8,false,[.v .nilFunc],[],0,8,.i64⟩),
 (50,⟨1,8,false,[.v .nilFunc],[],0,8,.i64⟩),
 (51,⟨1,24,false,[.sl 3 []],[],68,4,.i64⟩),
 (52,⟨1,24,false,[.sl 3 []],[],68,4,.i64⟩),
 (54,⟨1,8,false,[.v .nilFunc],[],0,8,.i64⟩),
 (55,⟨1,8,false,[.v .nilFunc],[],0,8,.i64⟩),
 (57,⟨1,8,false,[.v .nilFunc],[],0,8,.i64⟩),
 (58,⟨1,8,false,[.v .nilFunc],[],0,8,.i64⟩),
 (59,⟨1,8,false,[.v .nilFunc],[],0,8,.i64⟩),
 (60,⟨1,8,false,[.v .nilFunc],[],0,8,.i64⟩),
 (62,⟨1,8,false,[.v .nilFunc],[],0,8,.i64⟩),
 (63,⟨1,24,false,[.sl 7 []],[],70,4,.i64⟩),
 (64,⟨2,40,true,[.v (.string ⟨#[]⟩),.sl 7 []],[(0,1,false),(1,1,false)],0,5,.i64⟩),
 (65,⟨2,40,true,[.v (.string ⟨#[]⟩),.sl 7 []],[(0,1,false),(1,1,false)],0,5,.i64⟩),
 (66,⟨1,24,false,[.sl 1 []],[],117,4,.i64⟩),
 (67,⟨3,56,true,[.v (.bool false),.sl 1 [],.sl 1 []],[(0,1,false),(1,1,false),(2,1,false)],0,5,.i64⟩),
 (68,⟨3,56,true,[.v (.bool false),.sl 1 [],.sl 1 []],[(0,1,false),(1,1,false),(2,1,false)],0,5,.i64⟩),
 (69,⟨7,128,true,[.v (.string ⟨#[]⟩),.v (.bool false),.sl 1 [],.sl 1 [],.v (.bool false),.sl 1 [],.sl 1 []],[(0,1,false),(1,3,true),(4,3,true)],0,5,.i64⟩),
 (70,⟨7,128,true,[.v (.string ⟨#[]⟩),.v (.bool false),.sl 1 [],.sl 1 [],.v (.bool false),.sl 1 [],.sl 1 []],[(0,1,false),(1,3,true),(4,3,true)],0,5,.i64⟩),
 (71,⟨1,8,false,[.v .nilFunc],[],0,8,.i64⟩),
 (72,⟨4,96,true,[.sl 3 [],.sl 3 [],.sl 3 [],.sl 3 []],[(0,1,false),(1,1,false),(2,1,false),(3,1,false)],0,5,.i64⟩),
 (73,⟨4,96,true,[.sl 3 [],.sl 3 [],.sl 3 [],.sl 3 []],[(0,1,false),(1,1,false),(2,1,false),(3,1,false)],0,5,.i64⟩),
 (74,⟨1,8,false,[.v .nilFunc],[],0,8,.i64⟩),
 (76,⟨1,8,false,[.v .nilFunc],[],0,8,.i64⟩),
 (77,⟨1,8,false,[.v .nilFunc],[],0,8,.i64⟩),
 (78,⟨1,8,false,[.v .nilFunc],[],0,8,.i64⟩),
 (79,⟨1,8,false,[.v .nilFunc],[],0,8,.i64⟩),
 (80,⟨1,8,false,[.v .nilFunc],[],0,8,.i64⟩),
 (81,⟨1,8,false,[.v (.int .i64 0)],[],0,2,.i64⟩),
 (84,⟨1,8,false,[.v .nilFunc],[],0,8,.i64⟩),
 (85,⟨1,8,false,[.v .nilFunc],[],0,8,.i64⟩),
 (86,⟨1,8,false,[.v .nilFunc],[],0,8,.i64⟩),
 (87,⟨1,8,false,[.v .nilFunc],[],0,8,.i64⟩),
 (88,⟨1,8,false,[.v .nilFunc],[],0,8,.i64⟩),
 (89,⟨1,8,false,[.v .nilFunc],[],0,8,.i64⟩),
 (90,⟨1,8,false,[.v .nilFunc],[],0,8,.i64⟩),
 (91,⟨1,8,false,[.v .nilFunc],[],0,8,.i64⟩),
 (92,⟨1,8,false,[.v .nilFunc],[],0,8,.i64⟩),
 (93,⟨1,8,false,[.v .nilFunc],[],0,8,.i64⟩),
 (94,⟨1,8,false,[.v .nilFunc],[],0,8,.i64⟩),
 (95,⟨1,8,false,[.v .nilFunc],[],0,8,.i64⟩),
 (96,⟨1,8,false,[.v .nilFunc],[],0,8,.i64⟩),
 (97,⟨1,8,false,[.v .nilFunc],[],0,8,.i64⟩),
 (98,⟨1,8,false,[.v (.pointer none)],[],0,7,.i64⟩),
 (99,⟨2,40,true,[.sl 1 [],.v .nilIface],[(0,1,true),(1,1,false)],0,5,.i64⟩),
 (100,⟨2,40,true,[.sl 1 [],.v .nilIface],[(0,1,true),(1,1,false)],0,5,.i64⟩),
 (102,⟨1,8,false,[.v .nilFunc],[],0,8,.i64⟩),
 (103,⟨1,8,false,[.v .nilFunc],[],0,8,.i64⟩),
 (104,⟨1,8,false,[.v .nilFunc],[],0,8,.i64⟩),
 (105,⟨1,8,false,[.v .nilFunc],[],0,8,.i64⟩),
 (106,⟨1,8,false,[.v .nilFunc],[],0,8,.i64⟩),
 (107,⟨1,8,false,[.v .nilFunc],[],0,8,.i64⟩),
 (108,⟨1,8,false,[.v .nilFunc],[],0,8,.i64⟩),
 (109,⟨2,24,true,[.v (.string ⟨#[]⟩),.v (.int .i64 0)],[(0,1,false),(1,1,false)],0,5,.i64⟩),
 (110,⟨2,24,true,[.v (.string ⟨#[]⟩),.v (.int .i64 0)],[(0,1,false),(1,1,false)],0,5,.i64⟩),
 (111,⟨1,8,false,[.v .nilFunc],[],0,8,.i64⟩),
 (113,⟨1,8,false,[.v .nilFunc],[],0,8,.i64⟩),
 (114,⟨1,8,false,[.v .nilFunc],[],0,8,.i64⟩),
 (115,⟨1,8,false,[.v .nilFunc],[],0,8,.i64⟩),
 (116,⟨1,8,false,[.v .nilFunc],[],0,8,.i64⟩),
 (117,⟨1,4,false,[.v (.int .u32 0)],[],0,2,.u32⟩),
 (118,⟨1,8,false,[.v .nilFunc],[],0,8,.i64⟩),
 (119,⟨1,8,false,[.v .nilFunc],[],0,8,.i64⟩),
 (120,⟨1,8,false,[.v .nilFunc],[],0,8,.i64⟩),
 (121,⟨1,8,false,[.v .nilFunc],[],0,8,.i64⟩),
 (122,⟨1,8,false,[.v .nilFunc],[],0,8,.i64⟩),
 (123,⟨1,8,false,[.v .nilFunc],[],0,8,.i64⟩),
 (124,⟨1,8,false,[.v .nilFunc],[],0,8,.i64⟩),
 (125,⟨1,8,false,[.v .nilFunc],[],0,8,.i64⟩),
 (126,⟨1,8,false,[.v .nilFunc],[],0,8,.i64⟩),
 (127,⟨1,8,false,[.v .nilFunc],[],0,8,.i64⟩),
 (128,⟨1,8,false,[.v .nilFunc],[],0,8,.i64⟩),
 (129,⟨4,80,true,[.sl 1 [],.sl 1 [],.v (.int .i64 0),.sl 3 []],[(0,1,false),(1,1,false),(2,1,false),(3,1,false)],0,5,.i64⟩),
 (130,⟨4,80,true,[.sl 1 [],.sl 1 [],.v (.int .i64 0),.sl 3 []],[(0,1,false),(1,1,false),(2,1,false),(3,1,false)],0,5,.i64⟩),
 (132,⟨1,8,false,[.v .nilFunc],[],0,8,.i64⟩),
 (133,⟨1,8,false,[.v .nilFunc],[],0,8,.i64⟩),
 (134,⟨1,8,false,[.v .nilFunc],[],0,8,.i64⟩),
 (135,⟨1,8,false,[.v .nilFunc],[],0,8,.i64⟩),
 (136,⟨1,8,false,[.v .nilFunc],[],0,8,.i64⟩),
 (137,⟨2,32,true,[.v (.bool false),.sl 1 []],[(0,1,false),(1,1,false)],0,5,.i64⟩),
 (138,⟨2,32,true,[.v (.bool false),.sl 1 []],[(0,1,false),(1,1,false)],0,5,.i64⟩),
 (139,⟨1,8,false,[.v .nilFunc],[],0,8,.i64⟩),
 (140,⟨1,8,false,[.v .nilFunc],[],0,8,.i64⟩),
 (141,⟨1,8,false,[.v .nilFunc],[],0,8,.i64⟩),
 (142,⟨1,8,false,[.v .nilFunc],[],0,8,.i64⟩),
 (143,⟨1,8,false,[.v .nilFunc],[],0,8,.i64⟩),
 (144,⟨1,8,false,[.v .nilFunc],[],0,8,.i64⟩),
 (145,⟨1,8,false,[.v .nilFunc],[],0,8,.i64⟩),
 (146,⟨1,8,false,[.v .nilFunc],[],0,8,.i64⟩),
 (147,⟨1,8,false,[.v .nilFunc],[],0,8,.i64⟩),
 (148,⟨1,8,false,[.v .nilFunc],[],0,8,.i64⟩),
 (150,⟨1,8,false,[.v .nilFunc],[],0,8,.i64⟩),
 (151,⟨1,8,false,[.v .nilFunc],[],0,8,.i64⟩),
 (152,⟨1,8,false,[.v .nilFunc],[],0,8,.i64⟩),
 (153,⟨1,8,false,[.v .nilFunc],[],0,8,.i64⟩),
 (155,⟨1,8,false,[.v .nilFunc],[],0,8,.i64⟩),
 (156,⟨1,8,false,[.v .nilFunc],[],0,8,.i64⟩),
 (157,⟨1,8,false,[.v .nilFunc],[],0,8,.i64⟩),
 (158,⟨1,8,false,[.v .nilFunc],[],0,8,.i64⟩),
 (159,⟨1,8,false,[.v .nilFunc],[],0,8,.i64⟩),
 (160,⟨1,8,false,[.v .nilFunc],[],0,8,.i64⟩),
 (161,⟨1,8,false,[.v .nilFunc],[],0,8,.i64⟩),
 (162,⟨1,8,false,[.v .nilFunc],[],0,8,.i64⟩),
 (164,⟨1,8,false,[.v .nilFunc],[],0,8,.i64⟩),
 (165,⟨1,8,false,[.v .nilFunc],[],0,8,.i64⟩),
 (167,⟨1,8,false,[.v .nilFunc],[],0,8,.i64⟩),
 (168,⟨1,8,false,[.v (.int .u64 0)],[],0,2,.u64⟩),
 (169,⟨1,8,false,[.v .nilFunc],[],0,8,.i64⟩),
 (170,⟨1,8,false,[.v (.int .u64 0)],[],0,2,.u64⟩),
 (171,⟨1,8,false,[.v .nilFunc],[],0,8,.i64⟩),
 (172,⟨1,8,false,[.v .nilFunc],[],0,8,.i64⟩),
 (173,⟨1,8,false,[.v .nilFunc],[],0,8,.i64⟩),
 (175,⟨1,8,false,[.v .nilFunc],[],0,8,.i64⟩),
 (176,⟨1,8,false,[.v .nilFunc],[],0,8,.i64⟩),
 (177,⟨1,8,false,[.v .nilFunc],[],0,8,.i64⟩),
 (178,⟨1,8,false,[.v .nilFunc],[],0,8,.i64⟩),
 (179,⟨1,8,false,[.v .nilFunc],[],0,8,.i64⟩),
 (180,⟨1,8,false,[.v .nilFunc],[],0,8,.i64⟩),
 (181,⟨1,8,false,[.v .nilFunc],[],0,8,.i64⟩),
 (182,⟨1,8,false,[.v .nilFunc],[],0,8,.i64⟩),
 (184,⟨1,8,false,[.v .nilFunc],[],0,8,.i64⟩),
 (185,⟨1,8,false,[.v .nilFunc],[],0,8,.i64⟩),
 (186,⟨1,8,false,[.v .nilFunc],[],0,8,.i64⟩),
 (188,⟨1,8,false,[.v .nilFunc],[],0,8,.i64⟩),
 (189,⟨1,8,false,[.v .nilFunc],[],0,8,.i64⟩),
 (190,⟨1,8,false,[.v .nilFunc],[],0,8,.i64⟩),
 (191,⟨1,8,false,[.v .nilFunc],[],0,8,.i64⟩),
 (192,⟨1,8,false,[.v .nilFunc],[],0,8,.i64⟩),
 (194,⟨1,8,false,[.v .nilFunc],[],0,8,.i64⟩),
 (195,⟨1,8,false,[.v .nilFunc],[],0,8,.i64⟩),
 (196,⟨1,8,false,[.v .nilFunc],[],0,8,.i64⟩),
 (197,⟨1,8,false,[.v .nilFunc],[],0,8,.i64⟩),
 (198,⟨1,8,false,[.v .nilFunc],[],0,8,.i64⟩),
 (200,⟨1,8,false,[.v .nilFunc],[],0,8,.i64⟩),
 (201,⟨1,8,false,[.v .nilFunc],[],0,8,.i64⟩),
 (202,⟨1,8,false,[.v .nilFunc],[],0,8,.i64⟩),
 (208,⟨1,8,false,[.v .nilFunc],[],0,8,.i64⟩),
 (209,⟨1,1,false,[.v (.int .u8 0)],[],0,2,.u8⟩),
 (210,⟨1,1,false,[.v (.int .u8 0)],[],0,2,.u8⟩),
 (211,⟨1,8,false,[.v .nilFunc],[],0,8,.i64⟩),
 (212,⟨1,8,false,[.v (.pointer none)],[],0,7,.i64⟩),
 (213,⟨1,4,false,[.v (.int .i32 0)],[],0,2,.i32⟩),
 (214,⟨1,4,false,[.v (.int .i32 0)],[],0,2,.i32⟩)]
theorem tok:bD Tryz.prog I7:=Ty.rJ (by kernel_rfl)
theorem aS:Tryz.prog.follows .mixedOrders=true:=by kernel_rfl
end Lift
namespace Lift
open Go Go.Proofs
section
variable {B:Nat} {F0:Nat→Prop} {w0:cX} {n id:Nat} {ops:Array Oper} {l r:List Oper} {σ σ':St} {K:St→Prop} {Q Q':Exit→St→Prop} {y:Code}
theorem qU(k:Nat)(h:zj I7 n ops k l σ=some (σ',r))(hk:ae Tryz.prog B F0 w0 n ops r K σ'):ae Tryz.prog B F0 w0 n ops l K σ:=ae.run tok k _ _ _ _ h hk
theorem qT(k:Nat)(h:zj I7 n ops k ops.toList σ=some (σ',r))(hk:ae Tryz.prog B F0 w0 n ops r (Q .normal) σ'):AW Tryz.prog B F0 w0 n (.region id ops false) Q σ:=AW.region (qU k h hk)
theorem qX(k:Nat)(h:zj I7 n ops k ops.toList σ=some (σ',r))(hk:ae Tryz.prog B F0 w0 n ops r (qk (AW Tryz.prog B F0 w0 n y Q) Q .normal) σ'):AW Tryz.prog B F0 w0 n (.seq (.region id ops false) y) Q σ:=AW.seq (qT k h hk)
theorem qN(h:Q' .ret σ):ae Tryz.prog B F0 w0 n ops [] (qk (AW Tryz.prog B F0 w0 n .ret Q') Q .normal) σ:=ae.nil (AW.ret h)
theorem qI{x:Code}(h:AW Tryz.prog B F0 w0 n x (qk (AW Tryz.prog B F0 w0 n y Q') Q') σ):ae Tryz.prog B F0 w0 n ops [] (qk (AW Tryz.prog B F0 w0 n (.seq x y) Q') Q .normal) σ:=ae.nil (AW.seq h)
theorem qK{op2:Array Oper}(k:Nat)(h:zj I7 n op2 k op2.toList σ=some (σ',r))(hk:ae Tryz.prog B F0 w0 n op2 r (qk (AW Tryz.prog B F0 w0 n y Q') Q' .normal) σ'):ae Tryz.prog B F0 w0 n ops [] (qk (AW Tryz.prog B F0 w0 n (.seq (.region id op2 false) y) Q') Q .normal) σ:=ae.nil (qX k h hk)
end
theorem qJ(n:Nat){f:FuncId}{fn:Func}{c:Code}{rs:List ResultVar}{args:List D}{res:D}(hf:Tryz.prog.funcs[f]?=some fn)(hb:fn.body=some c)(hrs:fn.results.toList=rs)(hn:fn.ntmps=n)(hl:Nat.ble args.length n=true)(hnm:(fn.name=="runtime.NumGoroutine")=false)
  (h: ∀(B:Nat) (F0:Nat→Prop) (w0:cX),AW Tryz.prog B F0 w0 n c (MG I7 rs res) (eI 0 args)):Pure Tryz.prog f args res:=Pure.intro tok hf hb hrs hn (Nat.le_of_ble_eq_true hl) hnm h
section
variable {B:Nat} {F0:Nat→Prop} {w0:cX} {n d:Nat} {all:Array Oper} {o:Oper} {rest:List Oper} {σ:St} {K:St→Prop}
theorem qM{f:FuncId}{ds:List D}{res:D}(h:(o.dst,Nat.ble (d+1) n,aG all σ o,tK I7 σ.get o.op)=(some d,true,true,some (f,ds)))(hP:Pure Tryz.prog f ds res)
  (hk:ae Tryz.prog B F0 w0 n all rest K ((d,.d res)::σ)):ae Tryz.prog B F0 w0 n all (o::rest) K σ:=by
 injection h with h1 h2;injection h2 with h2 h3;injection h3 with h3 h4
 exact ae.call tok h1 h2 h3 h4 hP hk
theorem qR{q:Bool}{u:Value}(h:(o.dst,Nat.ble (d+1) n,aG all σ o,DJ I7 σ.get o.op)=(some d,true,true,some (q,u)))(hi:jP u=true)
  (hk:ae Tryz.prog B F0 w0 n all rest K ((d,.d (.v (.bool (vY u==q))))::σ)):ae Tryz.prog B F0 w0 n all (o::rest) K σ:=by
 injection h with h1 h2;injection h2 with h2 h3;injection h3 with h3 h4
 exact ae.err tok h1 h2 h3 h4 hi hk
end
end Lift
namespace Lift
open Go Go.Proofs
section
variable {B:Nat} {F0:Nat→Prop} {w0:cX} {n:Nat} {ops:Array Oper} {ds:List Nat} {l r:List Oper} {σ0 τ τ':St} {K:St→Prop}
theorem qP(k:Nat)(h:FG I7 n ops ds σ0 k l τ=some (τ',r))(hk:ah Tryz.prog B F0 w0 n ops ds σ0 r τ' K):ah Tryz.prog B F0 w0 n ops ds σ0 l τ K:=ah.run tok k _ _ _ _ h hk
end
section
variable {B:Nat} {F0:Nat→Prop} {w0:cX} {n d:Nat} {ops:Array Oper} {ds:List Nat} {o:Oper} {rest:List Oper} {σ0 τ:St} {K:St→Prop}
theorem qQ{f:FuncId}{xas:List D}{res:D}(h:(o.dst,Nat.ble (d+1) n,aG ops τ o,σ0.get d,tK I7 τ.get o.op)=(some d,true,true,none,some (f,xas)))(hP:Pure Tryz.prog f xas res)
  (hk:ah Tryz.prog B F0 w0 n ops ds σ0 rest ((d,.d res)::τ) K):ah Tryz.prog B F0 w0 n ops ds σ0 (o::rest) τ K:=by
 injection h with h1 h2;injection h2 with h2 h3;injection h3 with h3 h4;injection h4 with h4 h5
 exact ah.call tok h1 h2 h3 h4 h5 hP hk
end
end Lift
namespace Lift
def nv:List Nat→Nat
 | []=>0
 | x::r=>x+4294967296*nv r
def a8(l:List Nat):Prop:= ∀x,x∈l→x<4294967296
def Nm(l:List Nat):Prop:=l.getLast?≠some 0
theorem a8.nil:a8 []:=fun x h=>by simp at h
theorem a8.cons{x:Nat}{l:List Nat}:a8 (x::l)↔x<4294967296∧a8 l:=by simp[a8]
theorem a8.append{l m:List Nat}:a8 (l++m)↔a8 l∧a8 m:=by
 constructor
 · intro h;exact⟨fun x hx=>h x (by simp[hx]),fun x hx=>h x (by simp[hx])⟩
 · rintro ⟨h1,h2⟩ x hx
   rcases List.mem_append.1 hx with h | h
   · exact h1 x h
   · exact h2 x h
theorem a8.take{l:List Nat}(h:a8 l)(k:Nat):a8 (l.take k):=fun x hx=>h x (List.mem_of_mem_take hx)
theorem a8.drop{l:List Nat}(h:a8 l)(k:Nat):a8 (l.drop k):=fun x hx=>h x (List.mem_of_mem_drop hx)
theorem a8.getD{l:List Nat}(h:a8 l)(i:Nat):l.getD i 0<4294967296:=by
 by_cases hi:i<l.length
 · simp[hi];exact h _ (List.getElem_mem hi)
 · simp[hi]
theorem a8.set{l:List Nat}(h:a8 l)(i:Nat){x:Nat}(hx:x<4294967296):a8 (l.set i x):=fun y hy=>by
 rcases List.mem_or_eq_of_mem_set hy with h' | rfl
 · exact h y h'
 · exact hx
theorem a8.replicate(k:Nat):a8 (List.replicate k 0):=fun x hx=>by rw[(List.mem_replicate.1 hx).2];omega
theorem su(l m:List Nat):nv (l++m)=nv l+4294967296^l.length*nv m:=by
 induction l with
 | nil=>simp[nv]
 | cons x l ih =>
   simp only[List.cons_append,nv,ih,List.length_cons,Nat.pow_succ];rw[Nat.mul_add,← Nat.add_assoc,← Nat.mul_assoc,Nat.mul_comm 4294967296 (4294967296^l.length)]
theorem dm{l:List Nat}(h:a8 l):nv l<4294967296^l.length:=by
 induction l with
 | nil=>simp[nv]
 | cons x l ih =>
   rw[a8.cons] at h;have:=ih h.2;simp only[nv,List.length_cons,Nat.pow_succ]
   have h2:4294967296*nv l+4294967296≤4294967296*4294967296^l.length:=by
    rw[← Nat.mul_succ];exact Nat.mul_le_mul_left _ this
   rw[Nat.mul_comm (4294967296^l.length)];omega
theorem ir(k:Nat):nv (List.replicate k 0)=0:=by
 induction k with
 | zero=>rfl
 | succ k ih=>simp[List.replicate_succ,nv,ih]
theorem bC(l:List Nat)(i:Nat)(h:i≤l.length):nv l=nv (l.take i)+4294967296^i*nv (l.drop i):=by
 have:=su (l.take i) (l.drop i);rw[List.take_append_drop] at this;rw[this,bb,Nat.min_eq_left h]
theorem dO(l:List Nat)(i:Nat)(h:i<l.length):l.drop i=l.getD i 0::l.drop (i+1):=by
 rw[List.drop_eq_getElem_cons h];simp[h]
theorem vU(l:List Nat)(i:Nat)(h:i<l.length):nv l=nv (l.take i)+4294967296^i*(l.getD i 0+4294967296*nv (l.drop (i+1))):=by
 rw[bC l i (by omega),dO l i h,nv]
theorem LB(l:List Nat)(i x:Nat)(h:i<l.length):nv (l.set i x)=nv (l.take i)+4294967296^i*(x+4294967296*nv (l.drop (i+1))):=by
 have:=vU (l.set i x) i (by simpa using h);rw[this]
 have e1:(l.set i x).take i=l.take i:=by
  apply List.ext_getElem?;intro j;simp only[List.getElem?_take,List.getElem?_set];by_cases hj:j<i
  · simp[hj,Nat.ne_of_gt hj]
  · simp[hj]
 have e2:(l.set i x).drop (i+1)=l.drop (i+1):=by
  apply List.ext_getElem?;intro j;simp only[List.getElem?_drop,List.getElem?_set];rw[if_neg (by omega)]
 have e3:(l.set i x).getD i 0=x:=by simp[h]
 rw[e1,e2,e3]
theorem zT{l:List Nat}(h:Nm l)(h0:l≠[]):4294967296^(l.length-1)≤nv l:=by
 have hl:0<l.length:=List.length_pos_iff.2 h0;rw[vU l (l.length-1) (by omega)]
 have:l.getD (l.length-1) 0≠0:=by
  intro e;apply h;rw[List.getLast?_eq_getElem?];have hlt:l.length-1<l.length:=by omega
  rw[bP hlt];simp[hlt] at e;rw[e]
 have h1:4294967296^(l.length-1)*1≤4294967296^(l.length-1)*(l.getD (l.length-1) 0+4294967296*nv (l.drop (l.length-1+1))):=Nat.mul_le_mul_left _ (by omega);omega
theorem jf{l:List Nat}(h:Nm l):nv l=0↔l=[]:=by
 constructor
 · intro h0;by_cases hl:l=[]
   · exact hl
   · have:=zT h hl;have hp:0<4294967296^(l.length-1):=Nat.pow_pos (by omega);omega
 · rintro rfl;rfl
theorem lN{a b:List Nat}(ha:a8 a)(hb:Nm b)(h:a.length<b.length):nv a<nv b:=by
 have h1:=dm ha;have h2:=zT hb (by intro e;subst e;simp at h);have h3:4294967296^a.length≤4294967296^(b.length-1):=Nat.pow_le_pow_right (by omega) (by omega);omega
theorem so{a b:List Nat}(ha:a8 a)(hb:a8 b){i:Nat}(hia:i<a.length)(hib:i<b.length)(h:a.getD i 0<b.getD i 0)(he:a.drop (i+1)=b.drop (i+1)):nv a<nv b:=by
 rw[vU a i hia,vU b i hib,he]
 have h1:nv (a.take i)<4294967296^i:=by
  have:=dm (ha.take i)
  rwa [bb,Nat.min_eq_left (by omega)] at this
 have h2:4294967296^i*(a.getD i 0+4294967296*nv (b.drop (i+1))+1)≤4294967296^i*(b.getD i 0+4294967296*nv (b.drop (i+1))):=Nat.mul_le_mul_left _ (by omega);rw[Nat.mul_add (4294967296^i) _ 1] at h2;omega
theorem vS: ∀{a b:List Nat},a8 a→a8 b→a.length=b.length→nv a=nv b→a=b
 | [],[],_,_,_,_=>rfl
 | [],_::_,_,_,h,_=>by simp at h
 | _::_,[],_,_,h,_=>by simp at h
 | x::a,y::b,ha,hb,hl,h=>by
   rw[a8.cons] at ha hb;simp only[nv] at h
   have:x=y∧nv a=nv b:=by
    have h1:(x+4294967296*nv a)%4294967296=x:=by rw[Nat.add_mul_mod_self_left];exact Nat.mod_eq_of_lt ha.1
    have h2:(y+4294967296*nv b)%4294967296=y:=by rw[Nat.add_mul_mod_self_left];exact Nat.mod_eq_of_lt hb.1
    rw[h] at h1;have e:x=y:=by omega
    refine⟨e,?_⟩;omega
   rw[this.1,vS ha.2 hb.2 (by simpa using hl) this.2]
theorem JO{a b:List Nat}(ha:a8 a)(hb:a8 b)(na:Nm a)(nb:Nm b)(h:nv a=nv b):a=b:=by
 rcases Nat.lt_trichotomy a.length b.length with hl | hl | hl
 · have:=lN ha nb hl;omega
 · exact vS ha hb hl h
 · have:=lN hb na hl;omega
def tw(n:Nat):List Nat:=if h:n=0 then [] else n%4294967296::tw (n / 4294967296)
termination_by n
decreasing_by omega
theorem jW:tw 0=[]:=by rw[tw];simp
theorem u9{n:Nat}(h:n≠0):tw n=n%4294967296::tw (n / 4294967296):=by rw[tw];simp[h]
theorem ez(n:Nat):nv (tw n)=n:=by
 induction n using Nat.strongRecOn with
 | _ n ih =>
   by_cases h:n=0
   · subst h;rw[jW];rfl
   · rw[u9 h,nv,ih (n / 4294967296) (by omega)];omega
theorem fr(n:Nat):a8 (tw n):=by
 induction n using Nat.strongRecOn with
 | _ n ih =>
   by_cases h:n=0
   · subst h;rw[jW];exact a8.nil
   · rw[u9 h,a8.cons];exact⟨by omega,ih (n / 4294967296) (by omega)⟩
theorem tA(n:Nat):Nm (tw n):=by
 induction n using Nat.strongRecOn with
 | _ n ih =>
   by_cases h:n=0
   · subst h;rw[jW];simp[Nm]
   · have ih:=ih (n / 4294967296) (by omega);rw[u9 h];unfold Nm at ih ⊢;by_cases h2:n / 4294967296=0
     · rw[h2,jW];simp;omega
     · rw[u9 h2] at ih ⊢;rw[List.getLast?_cons_cons];exact ih
theorem AU{l:List Nat}(h:a8 l)(hn:Nm l):tw (nv l)=l:=JO (fr _) h (tA _) hn (ez _)
theorem gL{n k:Nat}(h:n<4294967296^k):(tw n).length≤k:=by
 rcases Nat.lt_or_ge k (tw n).length with hl | hl
 · have h1:=zT (tA n) (by intro e;rw[e] at hl;simp at hl);rw[ez] at h1;have:4294967296^k≤4294967296^((tw n).length-1):=Nat.pow_le_pow_right (by omega) (by omega);omega
 · exact hl
theorem eV(n:Nat):n<4294967296^(tw n).length:=by
 have:=dm (fr n)
 rwa [ez] at this
theorem vT: ∀{l:List Nat},(∀i,l.getD i 0=0)→nv l=0
 | [],_=>rfl
 | x::l,h=>by
   have h0:x=0:=h 0;have:=vT (l:=l) (fun i=>h (i+1));simp[nv,h0,this]
theorem JQ{a:List Nat}{n:Nat}(hn:n≤a.length)(h:n=0∨a.getD (n-1) 0≠0):Nm (a.take n):=by
 intro hc;rcases h with rfl | h
 · simp at hc
 · rcases Nat.eq_zero_or_pos n with h0 | h0
   · subst h0;simp at hc
   · rw[List.getLast?_eq_getElem?] at hc;simp only[bb,Nat.min_eq_left hn] at hc;rw[List.getElem?_take,if_pos (by omega)] at hc;apply h;simp[List.getD,hc]
theorem y5{a:List Nat}(ha:a8 a){n:Nat}(hn:n≤a.length)(hz: ∀i,n≤i→a.getD i 0=0)(h:n=0∨a.getD (n-1) 0≠0):a.take n=tw (nv a):=by
 have h1:nv (a.drop n)=0:=vT (fun i=>by
  have:=hz (n+i) (by omega)
  simpa[List.getD,List.getElem?_drop] using this)
 rw[bC a n hn,h1,Nat.mul_zero,Nat.add_zero];exact(AU (ha.take n) (JQ hn h)).symm
theorem qj{a:List Nat}(ha:a8 a):(tw (nv a)).length≤a.length:=gL (dm ha)
theorem eW{l:List Nat}{i:Nat}(h:l.length≤i):l.getD i 0=0:=by simp[List.getD,List.getElem?_eq_none h]
theorem aW(l:List Nat)(i:Nat):nv (l.take (i+1))=nv (l.take i)+4294967296^i*l.getD i 0:=by
 by_cases h:i<l.length
 · have h1:=bC (l.take (i+1)) i (by simp;omega);rw[h1,List.take_take,Nat.min_eq_left (by omega),List.drop_take,dO l i h,show i+1-i=1 by omega];simp[nv]
 · rw[eW (by omega),List.take_of_length_le (by omega),List.take_of_length_le (by omega)];omega
theorem kW{l:List Nat}{i x:Nat}(h:i<l.length):nv ((l.set i x).take (i+1))=nv (l.take i)+4294967296^i*x:=by
 rw[aW,List.take_set_of_le (ai i)]
 congr 2
 simp[List.getD,h]
theorem gE(p S:Nat):p*(S%4294967296)+p*4294967296*(S / 4294967296)=p*S:=by rw[Nat.mul_assoc,← Nat.mul_add,Nat.mod_add_div]
theorem iU{m n:Nat}(h:m≤n):4294967296^m≤4294967296^n:=Nat.pow_le_pow_right (by decide) h
theorem pow_pos(n:Nat):0<4294967296^n:=Nat.pow_pos (by decide)
def dg:Nat→Nat→List Nat
 | 0,_=>[]
 | k+1,v=>v%4294967296::dg k (v / 4294967296)
theorem aT: ∀k v,(dg k v).length=k
 | 0,_=>rfl
 | k+1,v=>by simp[dg,aT k]
theorem fx: ∀k v,a8 (dg k v)
 | 0,_=>a8.nil
 | k+1,v=>a8.cons.2 ⟨Nat.mod_lt _ (by decide),fx k _⟩
theorem iN: ∀k v,nv (dg k v)=v%4294967296^k
 | 0,v=>by simp[dg,nv,Nat.mod_one]
 | k+1,v=>by
   simp only[dg,nv,iN k];rw[Nat.pow_succ,Nat.mul_comm (4294967296^k),Nat.mod_mul]
theorem KX: ∀{l:List Nat},a8 l→dg l.length (nv l)=l
 | [],_=>rfl
 | x::l,h=>by
   have h1:=(a8.cons.1 h).1;have h2:=KX (a8.cons.1 h).2;simp only[List.length_cons,dg,nv];rw[Nat.add_mul_mod_self_left,Nat.mod_eq_of_lt h1,Nat.add_mul_div_left _ _ (by decide),Nat.div_eq_of_lt h1,Nat.zero_add,h2]
theorem Ci{l:List Nat}(h:a8 l){k:Nat}(hk:l.length=k){v:Nat}(hv:nv l=v):l=dg k v:=by subst hk;subst hv;exact(KX h).symm
theorem fG: ∀{l:List Nat},a8 l→ ∀i,l.getD i 0=nv l / 4294967296^i%4294967296
 | [],_,i=>by simp[nv]
 | x::l,h,0=>by
   have h1:=(a8.cons.1 h).1;simp[nv,Nat.add_mul_mod_self_left,Nat.mod_eq_of_lt h1]
 | x::l,h,i+1=>by
   have h1:=(a8.cons.1 h).1;have ih:=fG (a8.cons.1 h).2 i;simp only[List.getD_cons_succ,ih,nv];rw[Nat.pow_succ,Nat.mul_comm (4294967296^i),← Nat.div_div_eq_div_mul,Nat.add_mul_div_left _ _ (by decide),Nat.div_eq_of_lt h1,Nat.zero_add]
theorem gx{l:List Nat}{i x:Nat}(h:i<l.length):nv (l.set i x)+4294967296^i*l.getD i 0=nv l+4294967296^i*x:=by
 rw[LB l i x h,vU l i h,Nat.mul_add,Nat.mul_add];omega
theorem rH{l m:List Nat}(hl:l.length=m.length)(h: ∀i,i<l.length→l.getD i 0=m.getD i 0):l=m:=by
 apply List.ext_getElem hl;intro i h1 h2;have:=h i h1;simpa[List.getD,h1,h2] using this
theorem fk(l:List Nat)(i j x:Nat)(h:i<l.length):(l.set i x).getD j 0=if j=i then x else l.getD j 0:=by
 by_cases hj:j=i
 · subst hj;simp[List.getD,h]
 · rw[if_neg hj];simp[List.getD,List.getElem?_set,Ne.symm hj]
theorem zM(a k b:Nat)(h:b<2^k):(a*2^k ||| b)=a*2^k+b:=by
 rw[Nat.mul_comm,Nat.two_pow_add_eq_or_of_lt h]
theorem zL(a k b:Nat)(h:b<2^k):(b ||| a*2^k)=a*2^k+b:=by rw[Nat.or_comm,zM a k b h]
def dE(l:List Nat)(lo m:Nat):List Nat:=(l.drop lo).take m
def put(l:List Nat)(lo m:Nat)(w:List Nat):List Nat:=l.take lo++w++l.drop (lo+m)
theorem bU{l:List Nat}{lo m:Nat}(h:lo+m≤l.length):(dE l lo m).length=m:=by simp[dE];omega
theorem ei{l:List Nat}{lo m:Nat}{w:List Nat}(h:lo+m≤l.length)(hw:w.length=m):(put l lo m w).length=l.length:=by simp[put,hw];omega
theorem a8.dE{l:List Nat}(h:a8 l)(lo m:Nat):a8 (dE l lo m):=(h.drop lo).take m
theorem a8.put{l w:List Nat}(h:a8 l)(hw:a8 w)(lo m:Nat):a8 (put l lo m w):=a8.append.2 ⟨a8.append.2 ⟨h.take lo,hw⟩,h.drop _⟩
theorem gm(l:List Nat)(lo m i:Nat)(h:i<m):(dE l lo m).getD i 0=l.getD (lo+i) 0:=by
 simp[dE,List.getD,List.getElem?_take,h,List.getElem?_drop]
theorem Ar{l k:List Nat}{lo m:Nat}{w:List Nat}(h1:k.take lo=l.take lo)(h2:k.drop (lo+m)=l.drop (lo+m))(h3:dE k lo m=w):k=put l lo m w:=by
 rw[put,← h1,← h2,← h3,dE,List.append_assoc,← List.drop_drop,List.take_append_drop,List.take_append_drop]
theorem fW{l k:List Nat}{i:Nat}(h:k.drop i=l.drop i):k.getD i 0=l.getD i 0:=by
 have:=congrArg (fun z=>z.getD 0 0) h;simpa[List.getD,List.getElem?_drop] using this
theorem kO(k:List Nat)(lo i x:Nat):(k.set (lo+i) x).take lo=k.take lo:=List.take_set_of_le (by omega)
theorem gW(k:List Nat)(j x:Nat):(k.set j x).drop (j+1)=k.drop (j+1):=List.drop_set_of_lt (by omega)
theorem pS{k:List Nat}{lo i x:Nat}(h:lo+i<k.length):nv (((k.set (lo+i) x).drop lo).take (i+1))=nv ((k.drop lo).take i)+4294967296^i*x:=by
 rw[List.drop_set,if_neg (by omega),show lo+i-lo=i by omega];exact kW (by simp;omega)
theorem lS(l:List Nat)(lo i:Nat):(l.drop lo).getD i 0=l.getD (lo+i) 0:=by simp[List.getD,List.getElem?_drop]
theorem kj{l k:List Nat}{i:Nat}(h:k.drop i=l.drop i):k.drop (i+1)=l.drop (i+1):=by
 rw[← List.drop_drop,← List.drop_drop,h]
theorem uu{l w:List Nat}{lo m:Nat}(h:lo+m≤l.length)(hw:w.length=m):dE (put l lo m w) lo m=w:=by
 have h1:(l.take lo).length=lo:=by simp;omega
 rw[dE,put,List.append_assoc,List.drop_append_of_le_length (by omega),List.drop_of_length_le (by omega),List.nil_append,List.take_append_of_le_length (by omega),List.take_of_length_le (by omega)]
end Lift
namespace Lift
open Go Go.Proofs
def wd(x:Nat):D:= .v (.int .u32 (x:Int))
def Wd(ws:List Nat):D:= .sl 1 (ws.map wd)
abbrev dI(n:Int):D:= .v (.int .i64 n)
abbrev dU(n:Int):D:= .v (.int .u64 n)
abbrev dB(b:Bool):D:= .v (.bool b)
theorem tR{x:Int}(h0:0≤x)(h1:x<18446744073709551616):IntKind.u64.wrap x=x:=by
 simp only[IntKind.wrap,IntKind.bits,IntKind.signed];simp;omega
theorem Mz{x:Int}(h0:0≤x)(h1:x<4294967296):IntKind.u32.wrap x=x:=by
 simp only[IntKind.wrap,IntKind.bits,IntKind.signed];simp;omega
theorem aI{x:Int}(h0: -9223372036854775808≤x)(h1:x≤9223372036854775807):IntKind.i64.wrap x=x:=by
 rw[IntKind.wrap_i64];omega
theorem uq(m n:Nat)(h:m+n<18446744073709551616):IntKind.u64.wrap ((m:Int)+(n:Int))=((m+n:Nat):Int):=by rw[tR (by omega) (by omega)];omega
theorem JV(m n:Nat)(h:m*n<18446744073709551616):IntKind.u64.wrap ((m:Int)*(n:Int))=((m*n:Nat):Int):=by
 have e:(m:Int)*(n:Int)=((m*n:Nat):Int):=by push_cast;rfl
 rw[e,tR (by omega) (by omega)]
theorem fK(m:Nat)(h:m<18446744073709551616):IntKind.u64.wrap (m:Int)=(m:Int):=tR (by omega) (by omega)
theorem fm(m:Nat):IntKind.u32.wrap (m:Int)=((m%4294967296:Nat):Int):=by
 simp only[IntKind.wrap,IntKind.bits,IntKind.signed];simp
theorem Jx(m k:Nat)(hk:k≤64):(m:Int).fdiv (2^(min k IntKind.u64.bits))=((m / 2^k:Nat):Int):=by
 rw[show min k IntKind.u64.bits=k from Nat.min_eq_left hk,Int.fdiv_eq_ediv_of_nonneg _ (Int.pow_nonneg (by decide))]
 push_cast
 rfl
theorem kq(m:Nat):(m:Int).fdiv (2^(min 32 IntKind.u64.bits))=((m / 4294967296:Nat):Int):=Jx m 32 (by decide)
theorem Lm(m k:Nat)(hk:k≤64)(h:m*2^k<18446744073709551616):IntKind.u64.wrap ((m:Int)*2^(min k IntKind.u64.bits))=((m*2^k:Nat):Int):=by
 rw[show min k IntKind.u64.bits=k from Nat.min_eq_left hk];have e:(m:Int)*2^k=((m*2^k:Nat):Int):=by push_cast;rfl
 rw[e,tR (by omega) (by omega)]
theorem N4(m n:Nat)(hm:m<18446744073709551616)(hn:n<18446744073709551616):IntKind.u64.wrap ((BitVec.ofInt IntKind.u64.bits (m:Int) ||| BitVec.ofInt IntKind.u64.bits (n:Int)).toNat:Int)=((m ||| n:Nat):Int):=by
 have hb:IntKind.u64.bits=64:=rfl;rw[hb,BitVec.ofInt_natCast,BitVec.ofInt_natCast,BitVec.toNat_or,BitVec.toNat_ofNat,BitVec.toNat_ofNat,Nat.mod_eq_of_lt hm,Nat.mod_eq_of_lt hn];have:m ||| n<2^64:=Nat.or_lt_two_pow hm hn;exact tR (by omega) (by omega)
theorem Hs(m n:Nat)(hm:m<4294967296)(hn:n<4294967296):IntKind.u32.wrap ((BitVec.ofInt IntKind.u32.bits (m:Int) ||| BitVec.ofInt IntKind.u32.bits (n:Int)).toNat:Int)=((m ||| n:Nat):Int):=by
 have hb:IntKind.u32.bits=32:=rfl;rw[hb,BitVec.ofInt_natCast,BitVec.ofInt_natCast,BitVec.toNat_or,BitVec.toNat_ofNat,BitVec.toNat_ofNat,Nat.mod_eq_of_lt hm,Nat.mod_eq_of_lt hn];have:m ||| n<2^32:=Nat.or_lt_two_pow hm hn;exact Mz (by omega) (by omega)
theorem MC(x y c:Nat)(hx:x<4294967296)(hy:y<4294967296)(hc:c≤1):IntKind.u64.wrap (IntKind.u64.wrap ((x:Int) -(y:Int)) -(c:Int))=((if y+c≤x then x-y-c else 18446744073709551616+x-y-c:Nat):Int):=by
 simp only[IntKind.wrap,IntKind.bits,IntKind.signed];simp;split<;>omega
theorem zf(m:Nat)(h:m<4294967296):IntKind.u64.wrap ((m:Int)*2^(min 32 IntKind.u64.bits))=((m*4294967296:Nat):Int):=Lm m 32 (by decide) (by omega)
theorem N3(m n:Nat)(hm:m<4294967296)(hn:n<4294967296):IntKind.u64.wrap ((BitVec.ofInt IntKind.u64.bits ((m*4294967296:Nat):Int) ||| BitVec.ofInt IntKind.u64.bits (n:Int)).toNat:Int)=((m*4294967296+n:Nat):Int):=by
 rw[N4 (m*4294967296) n (by omega) (by omega),zM m 32 n (by omega)]
theorem N0(m n:Nat)(hm:m<4294967296)(hn:n<4294967296):IntKind.u64.wrap ((BitVec.ofInt IntKind.u64.bits (n:Int) ||| BitVec.ofInt IntKind.u64.bits ((m*4294967296:Nat):Int)).toNat:Int)=((m*4294967296+n:Nat):Int):=by
 rw[N4 n (m*4294967296) (by omega) (by omega),zL m 32 n (by omega)]
theorem KU(x y:Nat)(h:x<18446744073709551616):mW true .u64 (x:Int) (y:Int)= .int .u64 ((x / y:Nat):Int):=by
 have e:((x:Int).tdiv (y:Int))=((x / y:Nat):Int):=rfl;have:x / y≤x:=Nat.div_le_self x y;simp only[mW,e,fK _ (Nat.lt_of_le_of_lt this h)]
theorem KT(x y:Nat):mW false .u64 (x:Int) (y:Int)= .int .u64 ((x%y:Nat):Int):=rfl
theorem GZ(m:Nat):(m:Int).fdiv (2^(min 63 IntKind.u64.bits))=((m / 9223372036854775808:Nat):Int):=Jx m 63 (by decide)
theorem bS{ws:List Nat}{i:Nat}(h:i<ws.length):(ws.map wd)[i]?=some (wd (ws.getD i 0)):=by
 simp[h]
theorem ba(ws:List Nat):(ws.map wd).length=ws.length:=by simp
set_option maxHeartbeats 400000 in
theorem dN(ws:List Nat)(hw:a8 ws)(i:Nat):Pure Tryz.prog 197 [Wd ws,dI i] (dU (ws.getD i 0:Nat)):=by
 refine qJ 14 Tryz.func197 rfl rfl rfl rfl (by kernel_rfl) (fun B F0 w0=>?_);refine AW.seq (AW.region (qU 1 rfl (ae.nil (AW.seq (AW.seq (AW.region (qU 4 rfl (ae.nil ?_))))))));refine AW.cond rfl (fun h=>?_) (fun h=>?_)
 · have h':i<ws.length:=by simpa using h
   refine AW.seq (AW.region (qU 2 rfl (ae.idx tok (wd (ws.getD i 0)) rfl rfl rfl rfl (aj i) (bS h') ?_)));refine qU 3 rfl ?_;have hb:=hw.getD i;rw[tR (by omega) (by omega)];exact qN rfl
 · have h':ws.getD i 0=0:=by
    have:ws.length≤i:=by simpa using h
    simp[List.getD,List.getElem?_eq_none this]
   rw[h'];exact AW.skip (AW.seq (AW.region (qU 1 rfl (qN rfl))))
def iZ(a b:Nat):Int:=if a<b then -1 else if a=b then 0 else 1
section
variable {P:Program} {T:Ty} {B:Nat} {F0:Nat→Prop} {w0:cX} {n:Nat} {o:Oper} {d:Nat} {σ:St} {K:St→Prop} {all:Array Oper} {rest:List Oper}
theorem sH(xs:List Nat)(i b:Nat):(xs.map wd).set i (wd b)=(xs.set i b).map wd:=(List.map_set ..).symm
def b4:TI→Bool
 | ⟨_,b,_,_,_,_,_,_⟩=>Nat.beq b 4
theorem Ns{t:TI}(h:b4 t=true):t.bytes=4:=Nat.eq_of_beq_eq_true h
theorem ae.pb(hT:bD P T)(k:Nat){e:Nat}{te:TI}{m:Int}(hd:o.dst=some d)(hdn:Nat.ble (d+1) n=true)(hg:aG all σ o=true)(hx:Mt T σ.get o.op=some (e,te,m))(hz:l6 te=true)(hzd:uX te=wd 0)(hm:m=(k:Int))(hb4:b4 te=true)(hk:k≤70368744177664)
  (h:ae P B F0 w0 n all rest K ((d,.ow e ((List.replicate k 0).map wd))::σ.kill d)):ae P B F0 w0 n all (o::rest) K σ:=by
 subst hm;refine ae.make hT hd hdn hg hx hz (aj k) (by rw[Ns hb4];omega) (by omega) ?_;rw[hzd,Int.toNat_natCast];simpa using h
theorem ae.jI(hT:bD P T)(b:Nat){k e i:Nat}{xs:List Nat}{z:Int}(hd:o.dst=none)(hg:aG all σ o=true)(hx:Ep T σ o.op=some (k,.ow e (xs.map wd),xs.map wd,i,0,.v (.int .u32 z)))(hi:i<xs.length)(hz:z=(b:Int))
  (h:ae P B F0 w0 n all rest K ((k,.ow e ((xs.set i b).map wd))::σ)):ae P B F0 w0 n all (o::rest) K σ:=by
 subst hz;refine ae.kQ hT (wd (xs.getD i 0)) hd hg hx (bS hi) rfl ?_;rw[← sH] at h;exact h
theorem ae.zb(hT:bD P T)(b:Nat){q:Bool}{k e i lo m:Nat}{xs:List Nat}{z:Int}(hd:o.dst=none)(hg:aG all σ o=true)(hx:Ep T σ o.op=some (k,.wn q e (xs.map wd) lo m,xs.map wd,i,0,.v (.int .u32 z)))(hi:i<xs.length)(hz:z=(b:Int))
  (h:ae P B F0 w0 n all rest K ((k,.wn q e ((xs.set i b).map wd) lo m)::σ)):ae P B F0 w0 n all (o::rest) K σ:=by
 subst hz;refine ae.Jt hT (wd (xs.getD i 0)) hd hg hx (bS hi) rfl ?_;rw[← sH] at h;exact h
end
theorem sX.elW{T:Ty}{τ:St}{o:Oper}{h e i:Nat}{xs:List Nat}{z:Int}(b:Nat)(hx:Ep T τ o.op=some (h,.ow e (xs.map wd),xs.map wd,i,0,.v (.int .u32 z)))(hi:i<xs.length)(hz:z=(b:Int)):sX T τ o h (.ow e ((xs.set i b).map wd)):=by
 subst hz;have:=sX.el hx (bS hi) rfl;rw[← sH];exact this
set_option maxHeartbeats 800000 in
theorem kD(a b:List Nat)(ha:a8 a)(hb:a8 b)(na:Nm a)(nb:Nm b)(hla:a.length≤35000000000000):Pure Tryz.prog 167 [Wd a,Wd b] (dI (iZ (nv a) (nv b))):=by
 refine qJ 41 Tryz.func167 rfl rfl rfl rfl (by kernel_rfl) (fun B F0 w0=>?_);refine qX 1 rfl (qI (qX 5 rfl (ae.nil (AW.cond rfl (fun h=>?_) (fun h=>?_)))))
 · have hne:a.length≠b.length:=by
    have: ¬(a.length:Int)=b.length:=by simpa using h
    omega
   refine AW.seq (qX 5 rfl (ae.nil (AW.cond rfl (fun h=>?_) (fun h=>?_))))
   · have hlt:a.length<b.length:=by simpa using h
     rw[show iZ (nv a) (nv b)= -1 by simp[iZ,lN ha nb hlt]];exact qX 1 rfl (qN rfl)
   · have hlt:b.length<a.length:=by have:b.length≤a.length:=by simpa using h
                                    omega
     have hl:=lN hb na hlt;rw[show iZ (nv a) (nv b)=1 by unfold iZ;rw[if_neg (by omega),if_neg (by omega)]];exact AW.skip (qX 1 rfl (qN rfl))
 · have hl:a.length=b.length:=by
    have:(a.length:Int)=b.length:=by simpa using h
    omega
   refine AW.skip (AW.seq (qX 4 rfl ?_));rw[ba,aI (by omega) (by omega)];refine ae.nil ?_;refine AW.block (AW.aL [0,1,5] (fun k:Nat=>[(0,.d (Wd a)),(1,.d (Wd b)),(5,.d (dI ((k:Int) -1)))]) (fun k=>k≤a.length∧a.drop k=b.drop k) (fun k=>k) a.length rfl ⟨ai _,by simp[hl]⟩ (fun k ⟨hk,hd⟩=>?_));refine AW.seq (qX 2 rfl (ae.nil (AW.cond rfl (fun h=>?_) (fun h=>?_))))
   · have hk0:0<k:=by have:(0:Int)≤(k:Int) -1:=by simpa using h
                      omega
     obtain ⟨j,rfl⟩: ∃j,k=j+1:=⟨k-1,by omega⟩;have ej:((j+1:Nat):Int) -1=(j:Int):=by omega
     rw[ej];refine AW.skip (AW.seq (AW.block (AW.seq (AW.draw aS 9 (by kernel_rfl) ?_))));refine qP 2 rfl (ah.idx tok (wd (a.getD j 0)) rfl rfl rfl rfl rfl (aj j) (bS (by omega)) ?_);refine qP 3 rfl (ah.idx tok (wd (b.getD j 0)) rfl rfl rfl rfl rfl (aj j) (bS (by omega)) ?_);refine qP 2 rfl (ah.nil (ae.nil (AW.cond rfl (fun h=>?_) (fun h=>?_))))
     · have hne:a.getD j 0≠b.getD j 0:=by
        intro e;rw[e] at h;simp at h
       refine AW.seq (AW.seq (AW.draw aS 9 (by kernel_rfl) ?_));refine qP 2 rfl (ah.idx tok (wd (a.getD j 0)) rfl rfl rfl rfl rfl (aj j) (bS (by omega)) ?_);refine qP 3 rfl (ah.idx tok (wd (b.getD j 0)) rfl rfl rfl rfl rfl (aj j) (bS (by omega)) ?_);refine qP 2 rfl (ah.nil (ae.nil (AW.cond rfl (fun h=>?_) (fun h=>?_))))
       · have hlt:a.getD j 0<b.getD j 0:=by have:=ao h;omega
         have hv:=so ha hb (by omega) (by omega) hlt hd;rw[show iZ (nv a) (nv b)= -1 by simp[iZ,hv]];exact qX 1 rfl (qN rfl)
       · have hlt:b.getD j 0<a.getD j 0:=by have:=ar h;omega
         have hv:=so hb ha (by omega) (by omega) hlt hd.symm;rw[show iZ (nv a) (nv b)=1 by unfold iZ;rw[if_neg (by omega),if_neg (by omega)]];exact AW.skip (qX 1 rfl (qN rfl))
     · have he:a.getD j 0=b.getD j 0:=by
        have:((a.getD j 0:Nat):Int)=((b.getD j 0:Nat):Int):=by simpa using h
        omega
       refine AW.skip (qT 3 rfl ?_);rw[aI (by omega) (by omega)];refine ae.nil ?_;exact⟨j,rfl,⟨by omega,by rw[dO a j (by omega),dO b j (by omega),he,hd]⟩,by omega⟩
   · have hk0:k=0:=by have: ¬(0:Int)≤(k:Int) -1:=by simpa using h
                      omega
     subst hk0;simp at hd;rw[show iZ (nv a) (nv b)=0 by rw[hd];simp[iZ]];exact AW.exit (qX 1 rfl (qN rfl))
theorem Mi(a:List Nat)(n:Nat):(a.map wd).take n=(a.take n).map wd:=by rw[List.map_take]
set_option maxHeartbeats 800000 in
theorem bT(a:List Nat)(ha:a8 a)(hla:a.length≤35000000000000):Pure Tryz.prog 196 [Wd a] (Wd (tw (nv a))):=by
 refine qJ 25 Tryz.func196 rfl rfl rfl rfl (by kernel_rfl) (fun B F0 w0=>?_);refine qX 1 rfl (qK 3 rfl ?_);rw[ba];refine ae.nil ?_;refine AW.cut [0,3] (fun k:Nat=>[(0,.d (Wd a)),(3,.d (dI (k:Int)))]) (fun k=>k≤a.length∧(∀i,k≤i→a.getD i 0=0)∧(k=0∨a.getD (k-1) 0≠0)) ?_ (fun k ⟨hk,hz,hnz⟩=>?_)
 · refine AW.block (AW.aL [0,3] (fun k:Nat=>[(0,.d (Wd a)),(3,.d (dI (k:Int)))]) (fun k=>k≤a.length∧ ∀i,k≤i→a.getD i 0=0) (fun k=>k) a.length rfl ⟨ai _,fun i hi=>by simp[List.getD,List.getElem?_eq_none hi]⟩ (fun k ⟨hk,hz⟩=>?_));refine AW.seq ?_;refine AW.cut [0,3,15] (fun b:Bool=>[(0,.d (Wd a)),(3,.d (dI (k:Int))),(15,.d (dB b))]) (fun b=>(b=true→0<k∧a.getD (k-1) 0=0)∧(b=false→k=0∨a.getD (k-1) 0≠0)) ?_ (fun b ⟨ht,hf⟩=>?_)
   · refine qT 3 rfl ?_;refine ae.split (t:=8) rfl (fun h=>?_) (fun h=>?_)
     · have hk0:0<k:=by have:=ao h;omega
       obtain ⟨j,rfl⟩: ∃j,k=j+1:=⟨k-1,by omega⟩;refine qU 3 rfl ?_;rw[aI (by omega) (by omega),show ((j+1:Nat):Int) -1=(j:Int) by omega];refine ae.idx tok (wd (a.getD j 0)) rfl rfl rfl rfl (aj j) (bS (by omega)) ?_;refine qU 3 rfl (ae.nil ?_);exact⟨_,rfl,fun h=>⟨by omega,by have:=ao h;simp at this;simpa using this⟩,fun h=> .inr (by simpa using h)⟩
     · have hk0:k=0:=by have:=ar h;omega
       refine qU 7 rfl (ae.nil ?_);exact⟨_,rfl,fun h=>by simp at h,fun h=> .inl hk0⟩
   · refine AW.cond rfl (fun h=>?_) (fun h=>?_)
     · obtain ⟨h0,h1⟩:=ht h;refine AW.skip (AW.block (qT 3 rfl ?_));rw[aI (by omega) (by omega)];refine ae.nil ?_;refine⟨k-1,by rw[show ((k-1:Nat):Int)=(k:Int) -1 by omega];rfl,⟨by omega,fun i hi=>?_⟩,by omega⟩;by_cases he:i=k-1
       · rw[he,h1]
       · exact hz i (by omega)
     · refine AW.exit ?_;exact⟨k,rfl,hk,hz,hf h⟩
 · have hres:=y5 ha hk hz hnz;refine AW.seq (qX 2 rfl (ae.nil (AW.cond rfl (fun h=>?_) (fun h=>?_))))
   · have hk0:k=0:=by simpa using h
     subst hk0;rw[← hres,List.take_zero];exact qX 1 rfl (qN rfl)
   · refine AW.skip (qX 3 rfl ?_);refine ae.Ej tok rfl rfl rfl rfl trivial (aj k) (Nat.zero_le _) (by simp[cV];omega) ?_;refine ae.Ct tok rfl rfl rfl rfl (by simp[cV];omega) ?_;refine qU 1 rfl (ae.nil ?_);rw[← hres,Wd,← Mi];exact AW.ret rfl
set_option maxHeartbeats 800000 in
theorem mQ(a b:List Nat)(ha:a8 a)(hb:a8 b)(hla:a.length≤34900000000000)(hlb:b.length≤34900000000000):Pure Tryz.prog 166 [Wd a,Wd b] (Wd (tw (nv a+nv b))):=by
 refine qJ 39 Tryz.func166 rfl rfl rfl rfl (by kernel_rfl) (fun B F0 w0=>?_);obtain ⟨N,hN⟩: ∃N,N=max a.length b.length+1:=⟨_,rfl⟩;refine qX 1 rfl (qK 6 rfl ?_);refine ae.pb tok N rfl rfl rfl rfl rfl rfl (by simp only[af];rw[aI (by split<;>omega) (by split<;>omega)];split<;>omega) rfl (by omega) ?_;refine qU 1 rfl (qK 1 rfl (qI (qX 3 rfl ?_)));rw[ba,List.length_replicate];refine ae.nil (AW.block ?_)
 refine AW.aL [0,1,5,6,16,17] (fun s:Nat×List Nat×Nat=>[(0,.d (Wd a)),(1,.d (Wd b)),(5,.ow 117 (s.2.1.map wd)),(6,.d (dU s.2.2)),(16,.d (dI N)),(17,.d (dI s.1))])
  (fun s=>s.1≤N∧s.2.1.length=N∧a8 s.2.1∧s.2.2≤1∧nv (s.2.1.take s.1)+4294967296^s.1*s.2.2=nv (a.take s.1)+nv (b.take s.1)) (fun s=>N-s.1) (0,List.replicate N 0,0) rfl ⟨Nat.zero_le _,by simp,a8.replicate N,by simp,by simp[nv]⟩ (fun (i,out,c) ⟨hi,hol,how,hc,hv⟩=>?_)
 simp only[] at hi hol how hc hv;refine qX 1 rfl (qI (AW.cond rfl (fun h=>?_) (fun h=>?_)))
 · have cV:i<N:=by have:=ao h;omega
   refine AW.skip (AW.seq (AW.block (qX 2 rfl (qK 3 rfl (qM rfl (dN a ha i) ?_)))));refine qU 2 rfl (qM rfl (dN b hb i) ?_);refine qU 3 rfl ?_;have hx:=ha.getD i;have hy:=hb.getD i;rw[uq (a.getD i 0) (b.getD i 0) (by omega),uq c (a.getD i 0+b.getD i 0) (by omega)];refine qK 4 rfl ?_;refine ae.gD tok rfl rfl rfl rfl (aj i) (by simp;omega) ?_;refine ae.jI tok ((c+(a.getD i 0+b.getD i 0))%4294967296) rfl rfl rfl (by omega) (fm _) ?_;refine ae.nil (qT 3 rfl ?_);rw[kq];refine ae.nil (qT 2 rfl ?_);rw[aI (by omega) (by omega)];refine ae.nil ?_;refine⟨(i+1,out.set i ((c+(a.getD i 0+b.getD i 0))%4294967296),(c+(a.getD i 0+b.getD i 0)) / 4294967296),rfl,⟨by omega,by simpa using hol,how.set i (by omega),by show _ / _≤1;omega,?_⟩,by simp only[];omega⟩;simp only[kW (show i<out.length by omega),aW a i,aW b i,Nat.pow_succ];have:=gE (4294967296^i) (c+(a.getD i 0+b.getD i 0));rw[Nat.mul_add,Nat.mul_add] at this;omega
 · have cV:i=N:=by have:=ar h;omega
   subst cV;rw[List.take_of_length_le (by omega),List.take_of_length_le (by omega),List.take_of_length_le (by omega)] at hv;have h1:=dm ha;have h2:=dm hb
   have hc0:c=0:=by
    have h3:=iU (show a.length≤i-1 by omega);have h4:=iU (show b.length≤i-1 by omega);have h5:4294967296^i=4294967296^(i-1)*4294967296:=by rw[← Nat.pow_succ];congr 1;omega
    rcases Nat.eq_zero_or_pos c with h | h
    · exact h
    · have:4294967296^i*1≤4294967296^i*c:=Nat.mul_le_mul_left _ h;omega
   have hres:nv out=nv a+nv b:=by rw[hc0] at hv;simpa using hv
   refine AW.exit (qX 1 rfl (ae.jh tok 5 rfl rfl ?_));refine qM rfl (bT out how (by omega)) ?_;refine qU 1 rfl (ae.nil ?_);rw[hres];exact AW.ret rfl
end Lift
namespace Lift
open Go Go.Proofs
set_option maxHeartbeats 800000 in
theorem mR(a b:List Nat)(ha:a8 a)(hb:a8 b)(hla:a.length≤34900000000000)(hle:nv b≤nv a):Pure Tryz.prog 168 [Wd a,Wd b] (Wd (tw (nv a-nv b))):=by
 refine qJ 38 Tryz.func168 rfl rfl rfl rfl (by kernel_rfl) (fun B F0 w0=>?_);obtain ⟨N,hN⟩: ∃N,N=a.length:=⟨_,rfl⟩;refine qX 1 rfl (qK 2 rfl ?_);refine ae.pb tok N rfl rfl rfl rfl rfl rfl (by simp only[af];omega) rfl (by omega) ?_;refine qU 1 rfl (qK 1 rfl (qI (qX 3 rfl ?_)));rw[ba (List.replicate N 0),List.length_replicate];refine ae.nil (AW.block ?_)
 refine AW.aL [0,1,5,6,13,14] (fun s:Nat×List Nat×Nat=>[(0,.d (Wd a)),(1,.d (Wd b)),(5,.ow 117 (s.2.1.map wd)),(6,.d (dU s.2.2)),(13,.d (dI N)),(14,.d (dI s.1))])
  (fun s=>s.1≤N∧s.2.1.length=N∧a8 s.2.1∧s.2.2≤1∧nv (s.2.1.take s.1)+nv (b.take s.1)=nv (a.take s.1)+4294967296^s.1*s.2.2) (fun s=>N-s.1) (0,List.replicate N 0,0) rfl ⟨Nat.zero_le _,by simp,a8.replicate N,by simp,by simp[nv]⟩ (fun (i,out,c) ⟨hi,hol,how,hc,hv⟩=>?_)
 simp only[] at hi hol how hc hv;refine qX 1 rfl (qI (AW.cond rfl (fun h=>?_) (fun h=>?_)))
 · have cV:i<N:=by have:=ao h;omega
   have hx:=ha.getD i;have hy:=hb.getD i;refine AW.skip (AW.seq (AW.block (qX 2 rfl (qI (AW.draw aS 11 (by kernel_rfl) ?_)))));refine qP 2 rfl (ah.idx tok (wd (a.getD i 0)) rfl rfl rfl rfl rfl (aj i) (bS (by omega)) ?_);refine qP 4 rfl (qQ rfl (dN b hb i) ?_);refine qP 3 rfl (ah.nil (qU 1 rfl ?_));rw[fK (a.getD i 0) (by omega),MC (a.getD i 0) (b.getD i 0) c hx hy hc];obtain ⟨D,hD⟩: ∃D,D=(if b.getD i 0+c≤a.getD i 0 then a.getD i 0-b.getD i 0-c else 18446744073709551616+a.getD i 0-b.getD i 0-c:Nat):=⟨_,rfl⟩;rw[← hD];refine qK 4 rfl ?_;refine ae.gD tok rfl rfl rfl rfl (aj i) (by simp;omega) ?_;refine ae.jI tok (D%4294967296) rfl rfl rfl (by omega) (fm _) ?_;refine ae.nil (qT 3 rfl ?_);rw[GZ];refine ae.nil (qT 2 rfl ?_);rw[aI (by omega) (by omega)];refine ae.nil ?_
   have hkey:D / 9223372036854775808≤1∧D%4294967296+b.getD i 0+c=a.getD i 0+4294967296*(D / 9223372036854775808):=by
    rw[hD];split<;>omega
   refine⟨(i+1,out.set i (D%4294967296),D / 9223372036854775808),rfl,⟨by omega,by simpa using hol,how.set i (by omega),hkey.1,?_⟩,by simp only[];omega⟩;simp only[kW (show i<out.length by omega),aW a i,aW b i,Nat.pow_succ];have:=congrArg (fun z=>4294967296^i*z) hkey.2;simp only[Nat.mul_add] at this;rw[Nat.mul_assoc];omega
 · have cV:i=N:=by have:=ar h;omega
   subst cV;rw[List.take_of_length_le (l:=out) (by omega),List.take_of_length_le (l:=a) (by omega)] at hv;have h1:=dm ha;have h3:=dm how;rw[hol] at h3;rw[← hN] at h1
   have hbt:nv (b.take i)=nv b:=by
    by_cases hlb:i≤b.length
    · have h4:=bC b i hlb;rcases Nat.eq_zero_or_pos (nv (b.drop i)) with h | h
      · rw[h4,h];omega
      · have:4294967296^i*1≤4294967296^i*nv (b.drop i):=Nat.mul_le_mul_left _ h;omega
    · rw[List.take_of_length_le (by omega)]
   have hc0:c=0:=by
    rcases Nat.eq_zero_or_pos c with h | h
    · exact h
    · have:4294967296^i*1≤4294967296^i*c:=Nat.mul_le_mul_left _ h;omega
   have hres:nv out=nv a-nv b:=by rw[hc0] at hv;omega
   refine AW.exit (qX 1 rfl (ae.jh tok 5 rfl rfl ?_));refine qM rfl (bT out how (by omega)) ?_;refine qU 1 rfl (ae.nil ?_);rw[hres];exact AW.ret rfl
set_option maxHeartbeats 800000 in
theorem sK(a b:List Nat)(ha:a8 a)(hb:a8 b)(hla:a.length≤17450000000000)(hlb:b.length≤17450000000000):Pure Tryz.prog 169 [Wd a,Wd b] (Wd (tw (nv a*nv b))):=by
 refine qJ 67 Tryz.func169 rfl rfl rfl rfl (by kernel_rfl) (fun B F0 w0=>?_);refine qX 1 rfl (qK 5 rfl ?_);refine ae.pb tok (a.length+b.length) rfl rfl rfl rfl rfl rfl (by simp only[af];rw[aI (by omega) (by omega)];omega) rfl (by omega) ?_;refine qU 1 rfl (qI (qX 3 rfl ?_));rw[ba a];refine ae.nil (AW.block ?_)
 refine AW.aL [0,1,5,17,18,19] (fun s:Nat×List Nat=>[(0,.d (Wd a)),(1,.d (Wd b)),(5,.ow 117 (s.2.map wd)),(17,.d (Wd a)),(18,.d (dI a.length)),(19,.d (dI s.1))])
  (fun s=>s.1≤a.length∧s.2.length=a.length+b.length∧a8 s.2∧(∀j,s.1+b.length≤j→s.2.getD j 0=0)∧nv s.2=nv (a.take s.1)*nv b) (fun s=>a.length-s.1) (0,List.replicate (a.length+b.length) 0) rfl ⟨Nat.zero_le _,by simp,a8.replicate _,fun j _=>by simp[List.getD,List.getElem?_replicate];split<;>rfl,by simp[nv,ir]⟩ (fun (i,out) ⟨hi,hol,how,hz,hv⟩=>?_)
 simp only[] at hi hol how hz hv;refine qX 1 rfl (qI (AW.cond rfl (fun h=>?_) (fun h=>?_)))
 · have cV:i<a.length:=by have:=ao h;omega
   have hx:=ha.getD i;refine AW.skip (AW.seq (AW.block (qX 1 rfl (ae.idx tok (wd (a.getD i 0)) rfl rfl rfl rfl (aj i) (bS (by omega)) ?_))));refine qU 3 rfl (qK 1 rfl (qI (qX 3 rfl ?_)));rw[ba b];refine ae.nil (AW.block ?_)
   refine AW.aL [0,1,5,17,18,19,6,7,8,24,25,26] (fun s:Nat×List Nat×Nat=>[(0,.d (Wd a)),(1,.d (Wd b)),(5,.ow 117 (s.2.1.map wd)),(17,.d (Wd a)),(18,.d (dI a.length)),(19,.d (dI i)),(6,.d (dI i)),(7,.d (wd (a.getD i 0))),(8,.d (dU s.2.2)),(24,.d (Wd b)),(25,.d (dI b.length)),(26,.d (dI s.1))])
    (fun s=>s.1≤b.length∧s.2.1.length=a.length+b.length∧a8 s.2.1∧(∀j,i+b.length≤j→s.2.1.getD j 0=0)∧s.2.2<4294967296∧nv s.2.1+4294967296^(i+s.1)*s.2.2=nv (a.take i)*nv b+4294967296^i*(a.getD i 0*nv (b.take s.1))) (fun s=>b.length-s.1) (0,out,0) rfl ⟨Nat.zero_le _,hol,how,hz,by simp,by simp[nv,hv]⟩ (fun (k,o,c) ⟨hk,hol,how,hz,hc,hv⟩=>?_)
   simp only[] at hk hol how hz hc hv;refine qX 1 rfl (qI (AW.cond rfl (fun h=>?_) (fun h=>?_)))
   · have hkN:k<b.length:=by have:=ao h;omega
     have hy:=hb.getD k;have ho:=how.getD (i+k);have hxy:a.getD i 0*b.getD k 0≤4294967295*4294967295:=Nat.mul_le_mul (by omega) (by omega);refine AW.skip (AW.seq (AW.block (qX 1 rfl (ae.idx tok (wd (b.getD k 0)) rfl rfl rfl rfl (aj k) (bS (by omega)) ?_))));refine qU 3 rfl (qK 10 rfl ?_);rw[aI (x:=(i:Int)+(k:Int)) (by omega) (by omega),← Int.natCast_add i k];refine ae.gD tok rfl rfl rfl rfl (aj (i+k)) (by simp;omega) ?_;refine ae.df tok (wd (o.getD (i+k) 0)) rfl rfl rfl rfl (bS (by simp;omega)) rfl ?_;refine qU 4 rfl ?_;rw[fK (a.getD i 0) (by omega),fK (b.getD k 0) (by omega),JV (a.getD i 0) (b.getD k 0) (by omega),fK (o.getD (i+k) 0) (by omega),uq _ (o.getD (i+k) 0) (by omega),uq c _ (by omega)];refine ae.nil ?_;obtain ⟨S,hS⟩: ∃S,S=c+(a.getD i 0*b.getD k 0+o.getD (i+k) 0):=⟨_,rfl⟩;rw[← hS];refine qX 6 rfl ?_;rw[aI (x:=(i:Int)+(k:Int)) (by omega) (by omega),← Int.natCast_add i k];refine ae.gD tok rfl rfl rfl rfl (aj (i+k)) (by simp;omega) ?_;refine ae.jI tok (S%4294967296) rfl rfl rfl (by simp;omega) (fm _) ?_;refine ae.nil (qT 3 rfl ?_);rw[kq];refine ae.nil (qT 2 rfl ?_);rw[aI (by omega) (by omega)];refine ae.nil ?_;refine⟨(k+1,o.set (i+k) (S%4294967296),S / 4294967296),rfl,⟨by omega,by simpa using hol,how.set _ (by omega),fun j hj=>?_,by show S / 4294967296<4294967296;omega,?_⟩,by simp only[];omega⟩
     · rw[fk _ _ _ _ (by omega),if_neg (by (try simp only[] at hj);omega)];exact hz j hj
     · have h1:=gx (l:=o) (i:=i+k) (x:=S%4294967296) (by omega);have h2:=gE (4294967296^(i+k)) S;have h3:4294967296^(i+k)*S=4294967296^(i+k)*c+(4294967296^(i+k)*(a.getD i 0*b.getD k 0)+4294967296^(i+k)*o.getD (i+k) 0):=by rw[hS,Nat.mul_add,Nat.mul_add]
       have h4:4294967296^i*(a.getD i 0*(nv (b.take k)+4294967296^k*b.getD k 0))=4294967296^i*(a.getD i 0*nv (b.take k))+4294967296^(i+k)*(a.getD i 0*b.getD k 0):=by
        rw[Nat.pow_add];simp only[Nat.mul_add]
        congr 1
        ac_rfl
       simp only[aW b k];rw[h4,show i+(k+1)=i+k+1 by omega,Nat.pow_succ];omega
   · have hkN:k=b.length:=by have:=ar h;omega
     subst hkN;refine AW.exit (qT 7 rfl ?_);rw[ba b,aI (x:=(i:Int)+(b.length:Int)) (by omega) (by omega),← Int.natCast_add i b.length];refine ae.gD tok rfl rfl rfl rfl (aj (i+b.length)) (by simp;omega) ?_;refine ae.jI tok (c%4294967296) rfl rfl rfl (by simp;omega) (fm _) ?_;refine ae.nil (qT 2 rfl ?_);rw[aI (by omega) (by omega)];refine ae.nil ?_;refine⟨(i+1,o.set (i+b.length) (c%4294967296)),rfl,⟨by omega,by simpa using hol,how.set _ (by omega),fun j hj=>?_,?_⟩,by simp only[];omega⟩
     · rw[fk _ _ _ _ (by omega),if_neg (by (try simp only[] at hj);omega)];exact hz j (by (try simp only[] at hj);omega)
     · have h1:=gx (l:=o) (i:=i+b.length) (x:=c%4294967296) (by omega);rw[hz (i+b.length) (ai _),Nat.mul_zero,Nat.add_zero,Nat.mod_eq_of_lt hc,hv,List.take_of_length_le (ai _)] at h1;simp only[aW a i];rw[Nat.mod_eq_of_lt hc,h1,Nat.add_mul]
       ac_rfl
 · have cV:i=a.length:=by have:=ar h;omega
   subst cV;rw[List.take_of_length_le (ai _)] at hv;refine AW.exit (qX 1 rfl (ae.jh tok 5 rfl rfl ?_));refine qM rfl (bT out how (by omega)) ?_;refine qU 1 rfl (ae.nil ?_);rw[hv];exact AW.ret rfl
end Lift
namespace Lift
open Go Go.Proofs
set_option maxHeartbeats 800000 in
theorem sL(a:List Nat)(b:Nat)(ha:a8 a)(hla:a.length≤34900000000000)(hb:b<4294967296)(hb0:0<b):Pure Tryz.prog 208 [Wd a,wd b] (.tu [Wd (tw (nv a / b)),wd (nv a%b)]):=by
 refine qJ 43 Tryz.func208 rfl rfl rfl rfl (by kernel_rfl) (fun B F0 w0=>?_);refine qX 2 rfl (qK 2 rfl ?_);refine ae.pb tok a.length rfl rfl rfl rfl rfl rfl (by simp only[af]) rfl (by omega) ?_;refine qU 1 rfl (qK 1 rfl (qI (qX 4 rfl ?_)));rw[ba a,aI (by omega) (by omega)];refine ae.nil (AW.block ?_)
 refine AW.aL [0,1,6,7,8] (fun s:Nat×List Nat×Nat=>[(0,.d (Wd a)),(1,.d (wd b)),(6,.ow 117 (s.2.1.map wd)),(7,.d (dU s.2.2)),(8,.d (dI ((s.1:Int) -1)))])
  (fun s=>s.1≤a.length∧s.2.1.length=a.length∧a8 s.2.1∧s.2.2<b∧nv (a.drop s.1)=nv (s.2.1.drop s.1)*b+s.2.2) (fun s=>s.1) (a.length,List.replicate a.length 0,0) rfl ⟨ai _,by simp,a8.replicate _,hb0,by simp[nv]⟩ (fun (k,out,r) ⟨hk,hol,how,hr,hv⟩=>?_)
 simp only[] at hk hol how hr hv;refine AW.seq (qX 2 rfl (ae.nil (AW.cond rfl (fun h=>?_) (fun h=>?_))))
 · have hk0:0<k:=by have:(0:Int)≤(k:Int) -1:=by simpa using h
                    omega
   obtain ⟨j,rfl⟩: ∃j,k=j+1:=⟨k-1,by omega⟩;have hx:=ha.getD j;have ej:((j+1:Nat):Int) -1=(j:Int):=by omega
   rw[ej];refine AW.skip (AW.seq (AW.block (qX 4 rfl (ae.idx tok (wd (a.getD j 0)) rfl rfl rfl rfl (aj j) (bS (by omega)) ?_))));refine qU 4 rfl ?_;rw[zf r (by omega),fK (a.getD j 0) (by omega),N3 r (a.getD j 0) (by omega) (by omega)];refine ae.nil ?_;obtain ⟨S,hS⟩: ∃S,S=r*4294967296+a.getD j 0:=⟨_,rfl⟩;rw[← hS]
   have hSb:S / b<4294967296:=by
    rw[Nat.div_lt_iff_lt_mul hb0];have:r*4294967296≤(b-1)*4294967296:=Nat.mul_le_mul_right _ (by omega);omega
   refine qX 5 rfl ?_;rw[fK b (by omega)];refine ae.div tok rfl rfl rfl rfl (by omega) ?_;rw[KU S b (by omega)];refine qU 1 rfl ?_;refine ae.gD tok rfl rfl rfl rfl (aj j) (by simp;omega) ?_;refine ae.jI tok ((S / b)%4294967296) rfl rfl rfl (by omega) (fm _) ?_;refine ae.nil (qT 3 rfl ?_);rw[fK b (by omega)];refine ae.div tok rfl rfl rfl rfl (by omega) ?_;rw[KT S b];refine qU 1 rfl (ae.nil (qT 3 rfl ?_));rw[aI (by omega) (by omega)];refine ae.nil ?_;refine⟨(j,out.set j ((S / b)%4294967296),S%b),rfl,⟨by omega,by simpa using hol,how.set _ (by omega),Nat.mod_lt _ hb0,?_⟩,by simp only[];omega⟩;simp only[];rw[Nat.mod_eq_of_lt hSb,dO a j (by omega),dO (out.set j (S / b)) j (by simp;omega),fk _ _ _ _ (by omega),if_pos rfl,List.drop_set_of_lt (by omega)];simp only[nv,hv];have:=Nat.div_add_mod S b;have h2:(S / b+4294967296*nv (out.drop (j+1)))*b=b*(S / b)+4294967296*(nv (out.drop (j+1))*b):=by rw[Nat.add_mul,Nat.mul_comm (S / b),Nat.mul_assoc]
   rw[h2];omega
 · have hk0:k=0:=by have: ¬(0:Int)≤(k:Int) -1:=by simpa using h
                    omega
   subst hk0;simp only[List.drop_zero] at hv;have hq:nv a / b=nv out:=by rw[hv,Nat.mul_comm,Nat.mul_add_div hb0,Nat.div_eq_of_lt hr];omega
   have hr':nv a%b=r:=by rw[hv,Nat.mul_comm,Nat.mul_add_mod,Nat.mod_eq_of_lt hr]
   refine AW.exit (qX 1 rfl (ae.jh tok 6 rfl rfl ?_));refine qM rfl (bT out how (by omega)) ?_;refine qU 4 rfl ?_;rw[fm r,Nat.mod_eq_of_lt (show r<4294967296 by omega)];refine ae.nil ?_;rw[hq,hr'];exact AW.ret rfl
theorem Jg{x n o:Nat}(hn:n<32)(hx:x<4294967296)(ho:o<2^n):x*2^n<18446744073709551616∧(o ||| x*2^n%4294967296)=o+x*2^n%4294967296∧o+x*2^n%4294967296<4294967296∧x*2^n / 4294967296<2^n:=by
 have h32:(4294967296:Nat)=2^(32-n)*2^n:=by rw[← Nat.pow_add,show 32-n+n=32 by omega]
 have hp:0<2^n:=Nat.pow_pos (by decide);have hle:2^n≤2^31:=Nat.pow_le_pow_right (by decide) (by omega);have h1:x*2^n%4294967296=x%2^(32-n)*2^n:=by rw[h32,Nat.mul_mod_mul_right]
 have h2:x%2^(32-n)<2^(32-n):=Nat.mod_lt _ (Nat.pow_pos (by decide));have h3:(x%2^(32-n)+1)*2^n≤2^(32-n)*2^n:=Nat.mul_le_mul_right _ h2;have h4:x*2^n<4294967296*2^n:=Nat.mul_lt_mul_of_pos_right hx hp;have h5:4294967296*2^n≤4294967296*2^31:=Nat.mul_le_mul_left _ hle;rw[Nat.add_mul,Nat.one_mul,← h32] at h3;refine⟨by omega,?_,?_,?_⟩
 · rw[h1,zL _ n o ho,Nat.add_comm]
 · rw[h1];omega
 · rw[Nat.div_lt_iff_lt_mul (by decide),Nat.mul_comm (2^n)];exact h4
set_option maxHeartbeats 800000 in
theorem pd(a:List Nat)(n:Nat)(ha:a8 a)(hla:a.length≤34900000000000)(hn:n<32):lY Tryz.prog 210 [Wd a,dI n] 117 ((dg (a.length+1) (nv a*2^n)).map wd) 0 (a.length+1):=by
 refine lY.intro (n:=41) tok Tryz.func210 rfl rfl rfl (Nat.le_of_ble_eq_true rfl) (by kernel_rfl) (fun B F0 w0=>?_);refine qX 1 rfl (qK 3 rfl ?_);refine ae.pb tok (a.length+1) rfl rfl rfl rfl rfl rfl (by simp only[af];rw[aI (by omega) (by omega)];omega) rfl (by omega) ?_;refine qU 1 rfl (qI (qX 3 rfl ?_));rw[ba a];refine ae.nil (AW.block ?_)
 refine AW.aL [0,1,5,13,14,15] (fun s:Nat×List Nat=>[(0,.d (Wd a)),(1,.d (dI n)),(5,.ow 117 (s.2.map wd)),(13,.d (Wd a)),(14,.d (dI a.length)),(15,.d (dI s.1))])
  (fun s=>s.1≤a.length∧s.2.length=a.length+1∧a8 s.2∧s.2.getD s.1 0<2^n∧(∀j,s.1<j→s.2.getD j 0=0)∧nv s.2=nv (a.take s.1)*2^n) (fun s=>a.length-s.1) (0,List.replicate (a.length+1) 0) rfl
  ⟨Nat.zero_le _,by simp,a8.replicate _,by simpa[List.getD,List.getElem?_replicate] using Nat.pow_pos (by decide),fun j _=>by simp[List.getD,List.getElem?_replicate];split<;>rfl,by simp[nv,ir]⟩ (fun (i,out) ⟨hi,hol,how,htop,hz,hv⟩=>?_)
 simp only[] at hi hol how htop hz hv;refine qX 1 rfl (qI (AW.cond rfl (fun h=>?_) (fun h=>?_)))
 · have cV:i<a.length:=by have:=ao h;omega
   have hx:=ha.getD i;obtain ⟨u1,u2,u3,u4⟩:=Jg (o:=out.getD i 0) hn hx htop;have h2n:2^n≤2^31:=Nat.pow_le_pow_right (by decide) (by omega);refine AW.skip (AW.seq (AW.block (qX 1 rfl (ae.idx tok (wd (a.getD i 0)) rfl rfl rfl rfl (aj i) (bS (by omega)) ?_))));refine qU 3 rfl (qK 5 rfl ?_);rw[fK (a.getD i 0) (by omega),Lm (a.getD i 0) n (by omega) u1];refine ae.nil ?_;obtain ⟨Y,hY⟩: ∃Y,Y=a.getD i 0*2^n:=⟨_,rfl⟩;rw[← hY];rw[← hY] at u1 u2 u3 u4;refine qX 2 rfl ?_;refine ae.gD tok rfl rfl rfl rfl (aj i) (by simp;omega) ?_;refine ae.df tok (wd (out.getD i 0)) rfl rfl rfl rfl (bS (by simp;omega)) rfl ?_;refine qU 3 rfl ?_;rw[fm Y,Hs (out.getD i 0) (Y%4294967296) (by omega) (by omega),u2];refine ae.gD tok rfl rfl rfl rfl (aj i) (by simp;omega) ?_;refine ae.jI tok (out.getD i 0+Y%4294967296) rfl rfl rfl (by simp;omega) rfl ?_;refine ae.nil (qT 6 rfl ?_);rw[aI (x:=(i:Int)+1) (by omega) (by omega),show (i:Int)+1=((i+1:Nat):Int) by omega,kq];refine ae.gD tok rfl rfl rfl rfl (aj (i+1)) (by simp;omega) ?_;refine ae.jI tok (Y / 4294967296%4294967296) rfl rfl rfl (by simp;omega) (fm _) ?_;refine ae.nil (qT 2 rfl ?_);rw[aI (by omega) (by omega)];refine ae.nil ?_;have hY4:Y / 4294967296%4294967296=Y / 4294967296:=Nat.mod_eq_of_lt (by omega);rw[hY4];refine⟨(i+1,(out.set i (out.getD i 0+Y%4294967296)).set (i+1) (Y / 4294967296)),rfl,⟨by omega,by simpa using hol,(how.set _ u3).set _ (by omega),?_,fun j hj=>?_,?_⟩,by simp only[];omega⟩
   · simp only[];rw[fk _ _ _ _ (by simp;omega),if_pos rfl];exact u4
   · simp only[] at hj ⊢;rw[fk _ _ _ _ (by simp;omega),if_neg (by omega),fk _ _ _ _ (by omega),if_neg (by omega)];exact hz j (by omega)
   · have h1:=gx (l:=out) (i:=i) (x:=out.getD i 0+Y%4294967296) (by omega);have h2:=gx (l:=out.set i (out.getD i 0+Y%4294967296)) (i:=i+1) (x:=Y / 4294967296) (by simp;omega);rw[fk _ _ _ _ (by omega),if_neg (by omega),hz (i+1) (by omega),Nat.mul_zero,Nat.add_zero,Nat.pow_succ] at h2;have h3:=gE (4294967296^i) Y;rw[Nat.mul_add] at h1;simp only[aW a i,h2,Nat.add_mul];have h4:4294967296^i*a.getD i 0*2^n=4294967296^i*Y:=by rw[hY,Nat.mul_assoc]
     omega
 · have cV:i=a.length:=by have:=ar h;omega
   subst cV;rw[List.take_of_length_le (ai _)] at hv;have hres:=Ci how hol hv;refine AW.exit (qX 2 rfl (ae.nil (AW.ret ?_)));rw[← hres];exact congrArg (fun z=>some (_,out.map wd,0,z)) (show (out.map wd).length=a.length+1 by simpa using hol)
end Lift
namespace Lift
open Go Go.Proofs
theorem nN{l:List Nat}{lo m:Nat}(h:lo+m≤l.length):(((l.map wd).drop lo).take m).length=m:=by simp;omega
theorem wJ(v n i:Nat)(hn:n<32):v / 2^n / 4294967296^i%4294967296=(v / 4294967296^(i+1)%4294967296*4294967296+v / 4294967296^i%4294967296) / 2^n%4294967296:=by
 rw[Nat.div_div_eq_div_mul,Nat.mul_comm (2^n),← Nat.div_div_eq_div_mul,Nat.pow_succ,← Nat.div_div_eq_div_mul];generalize v / 4294967296^i=w;have h32:(4294967296:Nat)=2^n*2^(32-n):=by rw[← Nat.pow_add,show n+(32-n)=32 by omega]
 have hp:0<2^n:=Nat.pow_pos (by decide);have h1:w=4294967296*4294967296*(w / 4294967296 / 4294967296)+(w / 4294967296%4294967296*4294967296+w%4294967296):=by omega
 have h2:4294967296*4294967296*(w / 4294967296 / 4294967296)=2^n*(4294967296*(2^(32-n)*(w / 4294967296 / 4294967296))):=by
  conv=>lhs;rw[Nat.mul_assoc];lhs;rw[h32]
  ac_rfl
 conv=>lhs;rw[h1,h2,Nat.mul_add_div hp,Nat.mul_add_mod]
set_option maxHeartbeats 800000 in
theorem uf(a:List Nat)(n:Nat)(ha:a8 a)(hla:a.length≤34900000000000)(hn:n<32):Pure Tryz.prog 213 [Wd a,dI n] (Wd (tw (nv a / 2^n))):=by
 refine qJ 35 Tryz.func213 rfl rfl rfl rfl (by kernel_rfl) (fun B F0 w0=>?_);refine qX 1 rfl (qK 2 rfl ?_);refine ae.pb tok a.length rfl rfl rfl rfl rfl rfl (by simp only[af]) rfl (by omega) ?_;refine qU 1 rfl (qI (qX 3 rfl ?_));rw[ba a];refine ae.nil (AW.block ?_)
 refine AW.aL [0,1,5,11,12] (fun s:Nat×List Nat=>[(0,.d (Wd a)),(1,.d (dI n)),(5,.ow 117 (s.2.map wd)),(11,.d (dI a.length)),(12,.d (dI s.1))])
  (fun s=>s.1≤a.length∧s.2.length=a.length∧a8 s.2∧ ∀j,j<s.1→s.2.getD j 0=nv a / 2^n / 4294967296^j%4294967296) (fun s=>a.length-s.1) (0,List.replicate a.length 0) rfl ⟨Nat.zero_le _,by simp,a8.replicate _,fun j hj=>by simp at hj⟩ (fun (i,out) ⟨hi,hol,how,hv⟩=>?_)
 simp only[] at hi hol how hv;refine qX 1 rfl (qI (AW.cond rfl (fun h=>?_) (fun h=>?_)))
 · have cV:i<a.length:=by have:=ao h;omega
   have hx:=ha.getD i;have hy:=ha.getD (i+1);refine AW.skip (AW.seq (AW.block (qX 2 rfl (ae.nil (AW.draw aS 17 (by kernel_rfl) ?_)))));refine qP 4 rfl (ah.idx tok (wd (a.getD i 0)) rfl rfl rfl rfl rfl (aj i) (bS (by omega)) ?_);refine qP 5 rfl ?_;rw[aI (x:=(i:Int)+1) (by omega) (by omega),show (i:Int)+1=((i+1:Nat):Int) by omega];refine qQ rfl (dN a ha (i+1)) ?_;refine qP 5 rfl ?_;rw[zf (a.getD (i+1) 0) hy,fK (a.getD i 0) (by omega),N0 (a.getD (i+1) 0) (a.getD i 0) hy hx,Jx (a.getD (i+1) 0*4294967296+a.getD i 0) n (by omega),fm];refine ah.gD tok rfl rfl rfl rfl rfl rfl (aj i) (by simp;omega) ?_;refine ah.nil (ae.jI tok ((a.getD (i+1) 0*4294967296+a.getD i 0) / 2^n%4294967296) rfl rfl rfl (by omega) rfl ?_);refine ae.nil (qT 2 rfl ?_);rw[aI (by omega) (by omega)];refine ae.nil ?_;refine⟨(i+1,out.set i ((a.getD (i+1) 0*4294967296+a.getD i 0) / 2^n%4294967296)),rfl,⟨by omega,by simpa using hol,how.set _ (by omega),fun j hj=>?_⟩,by simp only[];omega⟩;simp only[] at hj ⊢;rw[fk _ _ _ _ (by omega)];split
   · rename_i hji;subst hji;rw[wJ _ _ _ hn,← fG ha,← fG ha]
   · exact hv j (by omega)
 · have cV:i=a.length:=by have:=ar h;omega
   subst cV
   have hres:nv out=nv a / 2^n:=by
    have h1:out=dg a.length (nv a / 2^n):=by
     refine rH (by rw[hol,aT]) (fun j hj=>?_);have h2:=fG (fx a.length (nv a / 2^n)) j;rw[h2,iN,hv j (by omega)];have h3:nv a / 2^n<4294967296^a.length:=Nat.lt_of_le_of_lt (Nat.div_le_self _ _) (dm ha);rw[Nat.mod_eq_of_lt h3]
    rw[h1,iN];exact Nat.mod_eq_of_lt (Nat.lt_of_le_of_lt (Nat.div_le_self _ _) (dm ha))
   refine AW.exit (qX 1 rfl (ae.jh tok 5 rfl rfl ?_));refine qM rfl (bT out how (by omega)) ?_;refine qU 1 rfl (ae.nil ?_);rw[hres];exact AW.ret rfl
set_option maxHeartbeats 800000 in
theorem ug(L v:List Nat)(lo m:Nat)(hL:a8 L)(hv:a8 v)(hlm:lo+m≤L.length)(hvm:v.length≤m)(hm:m≤34900000000000):
  D4 Tryz.prog 212 117 (L.map wd) lo m [Wd v] ((put L lo m (dg m (nv (dE L lo m)+nv v))).map wd) (.val (.tu [])):=by
 refine D4.intro (n:=30) tok Tryz.func212 rfl rfl rfl (Nat.le_of_ble_eq_true rfl) (by kernel_rfl) (by rw[af,af,ei hlm (aT _ _)]) (fun B F0 w0=>?_);refine qX 1 rfl (qK 3 rfl ?_);rw[nN hlm];refine ae.nil (AW.block ?_)
 refine AW.aL [0,1,4,7,8] (fun s:Nat×List Nat×Nat=>[(0,.wn true 117 (s.2.1.map wd) lo m),(1,.d (Wd v)),(4,.d (dU s.2.2)),(7,.d (dI m)),(8,.d (dI s.1))])
  (fun s=>s.1≤m∧s.2.1.length=L.length∧a8 s.2.1∧s.2.2≤1∧s.2.1.take lo=L.take lo∧s.2.1.drop (lo+s.1)=L.drop (lo+s.1)∧nv ((s.2.1.drop lo).take s.1)+4294967296^s.1*s.2.2=nv ((L.drop lo).take s.1)+nv (v.take s.1)) (fun s=>m-s.1) (0,L,0) rfl ⟨Nat.zero_le _,rfl,hL,by simp,rfl,rfl,by simp[nv]⟩ (fun (i,M,c) ⟨hi,hMl,hMw,hc,ht,hd,he⟩=>?_)
 simp only[] at hi hMl hMw hc ht hd he;refine qX 1 rfl (qI (AW.cond rfl (fun h=>?_) (fun h=>?_)))
 · have cV:i<m:=by have:=ao h;omega
   have hx:=hMw.getD (lo+i);have hy:=hv.getD i;have hME:=fW hd;refine AW.skip (AW.seq (AW.block (qX 2 rfl (qI (AW.draw aS 11 (by kernel_rfl) ?_)))));refine qP 3 rfl (ah.oX tok rfl rfl rfl rfl rfl rfl (aj i) cV ?_);refine ah.df tok (wd (M.getD (lo+i) 0)) rfl rfl rfl rfl rfl (bS (by simp;omega)) rfl ?_;refine qP 3 rfl (qQ rfl (dN v hv i) ?_);refine qP 2 rfl (ah.nil (qU 1 rfl ?_));rw[fK (M.getD (lo+i) 0) (by omega),uq (M.getD (lo+i) 0) (v.getD i 0) (by omega),uq c _ (by omega)];refine ae.nil ?_;obtain ⟨S,hS⟩: ∃S,S=c+(M.getD (lo+i) 0+v.getD i 0):=⟨_,rfl⟩;rw[← hS];refine qX 4 rfl (ae.oX tok rfl rfl rfl rfl (aj i) cV ?_);refine ae.zb tok (S%4294967296) rfl rfl rfl (by simp;omega) (fm _) ?_;refine ae.nil (qT 3 rfl ?_);rw[kq];refine ae.nil (qT 2 rfl ?_);rw[aI (by omega) (by omega)];refine ae.nil ?_;refine⟨(i+1,M.set (lo+i) (S%4294967296),S / 4294967296),rfl,⟨by omega,by simpa using hMl,hMw.set _ (by omega),by show S / 4294967296≤1;omega,?_,?_,?_⟩,by simp only[];omega⟩
   · simp only[kO,ht]
   · simp only[];rw[← Nat.add_assoc,gW,kj hd]
   · simp only[];rw[pS (by omega),aW (L.drop lo) i,aW v i,lS,← hME,Nat.pow_succ];have:=gE (4294967296^i) S;rw[hS,Nat.mul_add,Nat.mul_add,← hS] at this;omega
 · have cV:i=m:=by have:=ar h;omega
   subst cV;rw[List.take_of_length_le (l:=v) hvm] at he
   have hres:put L lo i (dg i (nv (dE L lo i)+nv v))=M:=by
    have h1:dE M lo i=dg i (nv (dE M lo i)):=Ci (hMw.dE lo i) (bU (by omega)) rfl
    have h2:dg i (nv (dE M lo i))=dg i (nv (dE L lo i)+nv v):=by
     have e:nv (dE L lo i)+nv v=nv (dE M lo i)+4294967296^i*c:=he.symm;have h3:nv (dE M lo i)<4294967296^i:=by have:=dm (hMw.dE lo i);rwa [bU (by omega)] at this
     have h4:nv (dg i (nv (dE M lo i)))=nv (dg i (nv (dE L lo i)+nv v)):=by rw[iN,iN,e,Nat.add_mul_mod_self_left]
     exact vS (fx _ _) (fx _ _) (by rw[aT,aT]) h4
    exact(Ar ht hd (h1.trans h2)).symm
   rw[hres];refine AW.exit ?_;exact⟨⟨lo,i,rfl⟩,rfl,rfl⟩
set_option maxHeartbeats 800000 in
theorem rq(L v:List Nat)(lo m n:Nat)(hL:a8 L)(hv:a8 v)(hn:n<4294967296)(hlm:lo+m≤L.length)(hvm:v.length<m)(hm:m≤34900000000000):
  D4 Tryz.prog 211 117 (L.map wd) lo m [Wd v,dU n] ((put L lo m (dg m (nv (dE L lo m)+(if nv (dE L lo m)<n*nv v then 4294967296^m else 0) -n*nv v))).map wd) (.val (dB (decide (nv (dE L lo m)<n*nv v)))):=by
 refine D4.intro (n:=46) tok Tryz.func211 rfl rfl rfl (Nat.le_of_ble_eq_true rfl) (by kernel_rfl) (by rw[af,af,ei hlm (aT _ _)]) (fun B F0 w0=>?_);refine qX 1 rfl (qK 2 rfl (qI (qX 3 rfl ?_)));rw[nN hlm];refine ae.nil (AW.block ?_)
 refine AW.aL [0,1,2,7,8,12,13] (fun s:Nat×List Nat×Nat×Nat=>[(0,.wn true 117 (s.2.1.map wd) lo m),(1,.d (Wd v)),(2,.d (dU n)),(7,.d (dU s.2.2.1)),(8,.d (dU s.2.2.2)),(12,.d (dI m)),(13,.d (dI s.1))])
  (fun s=>s.1≤m∧s.2.1.length=L.length∧a8 s.2.1∧s.2.2.1<4294967296∧s.2.2.2≤1∧(v.length<s.1→s.2.2.1=0)∧s.2.1.take lo=L.take lo∧s.2.1.drop (lo+s.1)=L.drop (lo+s.1) ∧
   nv ((s.2.1.drop lo).take s.1)+n*nv (v.take s.1)=nv ((L.drop lo).take s.1)+4294967296^s.1*(s.2.2.1+s.2.2.2)) (fun s=>m-s.1) (0,L,0,0) rfl ⟨Nat.zero_le _,rfl,hL,by simp,by simp,fun _=>rfl,rfl,rfl,by simp[nv]⟩ (fun (i,M,c,b) ⟨hi,hMl,hMw,hc,hb,hc0,ht,hd,he⟩=>?_)
 simp only[] at hi hMl hMw hc hb hc0 ht hd he;refine qX 1 rfl (qI (AW.cond rfl (fun h=>?_) (fun h=>?_)))
 · have cV:i<m:=by have:=ao h;omega
   have hx:=hMw.getD (lo+i);have hy:=hv.getD i;have hME:=fW hd;have hny:n*v.getD i 0≤4294967295*4294967295:=Nat.mul_le_mul (by omega) (by omega);refine AW.skip (AW.seq (AW.block (qX 2 rfl (qK 4 rfl (qM rfl (dN v hv i) ?_)))));refine qU 3 rfl ?_;rw[JV n (v.getD i 0) (by omega),uq c _ (by omega)];refine ae.nil ?_;obtain ⟨S,hS⟩: ∃S,S=c+n*v.getD i 0:=⟨_,rfl⟩;rw[← hS];refine qX 2 rfl (ae.oX tok rfl rfl rfl rfl (aj i) cV ?_);refine ae.df tok (wd (M.getD (lo+i) 0)) rfl rfl rfl rfl (bS (by simp;omega)) rfl ?_;refine qU 8 rfl ?_;rw[fK (M.getD (lo+i) 0) (by omega),fm S,fK (S%4294967296) (by omega),MC (M.getD (lo+i) 0) (S%4294967296) b hx (by omega) hb];refine ae.nil ?_;obtain ⟨D,hD⟩: ∃D,D=(if S%4294967296+b≤M.getD (lo+i) 0 then M.getD (lo+i) 0-S%4294967296-b else 18446744073709551616+M.getD (lo+i) 0-S%4294967296-b:Nat):=⟨_,rfl⟩;rw[← hD];refine qX 4 rfl (ae.oX tok rfl rfl rfl rfl (aj i) cV ?_);refine ae.zb tok (D%4294967296) rfl rfl rfl (by simp;omega) (fm _) ?_;refine qK 3 rfl ?_;rw[GZ];refine ae.nil (qT 3 rfl ?_);rw[kq];refine ae.nil (qT 2 rfl ?_);rw[aI (by omega) (by omega)];refine ae.nil ?_
   have hkey:D / 9223372036854775808≤1∧D%4294967296+S%4294967296+b=M.getD (lo+i) 0+4294967296*(D / 9223372036854775808):=by
    rw[hD];split<;>omega
   refine⟨(i+1,M.set (lo+i) (D%4294967296),S / 4294967296,D / 9223372036854775808),rfl,⟨by omega,by simpa using hMl,hMw.set _ (by omega),by show S / 4294967296<4294967296;omega,hkey.1,fun hvi=>?_,?_,?_,?_⟩,by simp only[];omega⟩
   · simp only[] at hvi ⊢;rw[hS,eW (by omega),Nat.mul_zero];omega
   · simp only[kO,ht]
   · simp only[];rw[← Nat.add_assoc,gW,kj hd]
   · simp only[];rw[pS (by omega),aW (L.drop lo) i,aW v i,lS,← hME,Nat.pow_succ];have h1:=gE (4294967296^i) S;have h2:=congrArg (fun z=>4294967296^i*z) hkey.2;simp only[Nat.mul_add] at h2;have h3:n*(nv (v.take i)+4294967296^i*v.getD i 0)=n*nv (v.take i)+4294967296^i*(n*v.getD i 0):=by rw[Nat.mul_add];congr 1;ac_rfl
     have h4:4294967296^i*S=4294967296^i*c+4294967296^i*(n*v.getD i 0):=by rw[hS,Nat.mul_add]
     rw[h3,Nat.mul_add (4294967296^i*4294967296),Nat.mul_assoc (4294967296^i) 4294967296 (D / _)];rw[Nat.mul_add] at he;omega
 · have cV:i=m:=by have:=ar h;omega
   subst cV;rw[hc0 hvm,Nat.zero_add,List.take_of_length_le (l:=v) (by omega)] at he;have hw:nv (dE M lo i)<4294967296^i:=by have:=dm (hMw.dE lo i);rwa [bU (by omega)] at this
   have he:nv (dE M lo i)+n*nv v=nv (dE L lo i)+4294967296^i*b:=he
   have hbb:(nv (dE L lo i)<n*nv v)↔b=1:=by
    constructor
    · intro hlt;rcases Nat.eq_zero_or_pos b with h | h
      · rw[h] at he;omega
      · omega
    · intro h;rw[h] at he;omega
   have hif:(if nv (dE L lo i)<n*nv v then 4294967296^i else 0)=4294967296^i*b:=by
    split
    · rename_i h;rw[hbb.1 h,Nat.mul_one]
    · rename_i h;have:b=0:=by have: ¬b=1:=fun e=>h (hbb.2 e);omega
      rw[this,Nat.mul_zero]
   have hres:put L lo i (dg i (nv (dE L lo i)+(if nv (dE L lo i)<n*nv v then 4294967296^i else 0) -n*nv v))=M:=by
    refine(Ar ht hd (Ci (hMw.dE lo i) (bU (by omega)) ?_)).symm;rw[hif];omega
   rw[hres];refine AW.exit (qX 3 rfl (ae.nil (AW.ret ?_)))
   have hd:decide (nv (dE L lo i)<n*nv v)=((b:Int)==1):=by
    by_cases h:nv (dE L lo i)<n*nv v
    · rw[hbb.1 h];simp[h,hbb.1 h]
    · have:b≠1:=fun e=>h (hbb.2 e);have h2: ¬(b:Int)=1:=by omega
      simp[h,h2]
   rw[hd];exact⟨⟨lo,i,rfl⟩,rfl,rfl⟩
end Lift
namespace Lift
open Go Go.Proofs
def bl(n:Nat):Nat:=if h:n=0 then 0 else 1+bl (n / 2)
termination_by n
decreasing_by omega
theorem oK:bl 0=0:=by rw[bl];simp
theorem AD{n:Nat}(h:n≠0):bl n=1+bl (n / 2):=by rw[bl];simp[h]
theorem rK: ∀(k x:Nat),2^k≤x→bl x=k+bl (x / 2^k)
 | 0,x,_=>by simp
 | k+1,x,h=>by
   have hp:0<2^k:=Nat.pow_pos (by decide);rw[Nat.pow_succ] at h;have h2:2^k≤x / 2:=by omega
   rw[AD (by omega),rK k (x / 2) h2,Nat.pow_succ,Nat.mul_comm,Nat.div_div_eq_div_mul];omega
theorem HL(n:Nat):n<2^bl n:=by
 induction n using Nat.strongRecOn with
 | ind n ih =>
   by_cases h:n=0
   · subst h;simp[oK]
   · have:=ih (n / 2) (by omega);rw[AD h,Nat.add_comm,Nat.pow_succ];omega
theorem KZ{n:Nat}(h:n≠0):0<bl n∧2^(bl n-1)≤n:=by
 induction n using Nat.strongRecOn with
 | ind n ih =>
   rw[AD h];refine⟨by omega,?_⟩;rw[show 1+bl (n / 2) -1=bl (n / 2) by omega];by_cases h2:n / 2=0
   · rw[h2,oK];omega
   · have:=ih (n / 2) (by omega) h2;have e:2^bl (n / 2)=2^(bl (n / 2) -1)*2:=by rw[← Nat.pow_succ];congr 1;omega
     omega
theorem gX{n k:Nat}(h:n<2^k):bl n≤k:=by
 by_cases h0:n=0
 · subst h0;rw[oK];omega
 · obtain ⟨h1,h2⟩:=KZ h0;have:2^(bl n-1)<2^k:=Nat.lt_of_le_of_lt h2 h;have:=(Nat.pow_lt_pow_iff_right (by decide:1<2)).1 this;omega
theorem GY(m k:Nat)(hk:k≤32):(m:Int).fdiv (2^(min k IntKind.u32.bits))=((m / 2^k:Nat):Int):=by
 rw[show min k IntKind.u32.bits=k from Nat.min_eq_left hk,Int.fdiv_eq_ediv_of_nonneg _ (Int.pow_nonneg (by decide))]
 push_cast
 rfl
theorem wU8{x:Int}(h0:0≤x)(h1:x<256):IntKind.u8.wrap x=x:=by
 simp only[IntKind.wrap,IntKind.bits,IntKind.signed];simp;omega
section
variable {P:Program} {T:Ty} {B:Nat} {F0:Nat→Prop} {w0:cX} {n:Nat} {o:Oper} {d:Nat} {σ:St} {K:St→Prop} {all:Array Oper} {rest:List Oper}
theorem ae.Lh(hT:bD P T)(tab:Nat→Nat)(N:Nat){s:ByteArray}{x:Nat}(hd:o.dst=some d)(hdn:Nat.ble (d+1) n=true)(hg:aG all σ o=true)(hx:Js T σ.get o.op=some (s,(x:Int)))(hlt:x<N)
  (hs:Nat.beq s.size N=true) (htab:(List.range N).all (fun i=>Nat.beq (s.data.toList.getD i 0).toNat (tab i))=true)
  (h:ae P B F0 w0 n all rest K ((d,.d (.v (.int .u8 ((tab x:Nat):Int))))::σ)):ae P B F0 w0 n all (o::rest) K σ:=by
 refine ae.x8 hT hd hdn hg hx (aj x) (by have:=Nat.eq_of_beq_eq_true hs;simp;omega) ?_;have:=List.all_eq_true.1 htab x (List.mem_range.2 hlt);have:=Nat.eq_of_beq_eq_true this;rw[Int.toNat_natCast,this];exact h
end
def Ol(i:Nat):Nat:=if i=0 then 0 else if i<2 then 1 else if i<4 then 2 else if i<8 then 3 else if i<16 then 4 else if i<32 then 5 else if i<64 then 6 else if i<128 then 7 else 8
theorem Mc{i:Nat}(h:i<256):Ol i=bl i:=by
 have lo: ∀k,2^k≤i→i<2^(k+1)→bl i=k+1:=fun k h1 h2=>by
  have h3:=gX h2;have h4:=HL i;have:2^k<2^bl i:=Nat.lt_of_le_of_lt h1 h4;have:=(Nat.pow_lt_pow_iff_right (by decide:1<2)).1 this;omega
 unfold Ol;split
 · rename_i h;rw[h,oK]
 split
 · exact(lo 0 (by omega) (by omega)).symm
 split
 · exact(lo 1 (by omega) (by omega)).symm
 split
 · exact(lo 2 (by omega) (by omega)).symm
 split
 · exact(lo 3 (by omega) (by omega)).symm
 split
 · exact(lo 4 (by omega) (by omega)).symm
 split
 · exact(lo 5 (by omega) (by omega)).symm
 split
 · exact(lo 6 (by omega) (by omega)).symm
 · exact(lo 7 (by omega) (by omega)).symm
set_option maxRecDepth 8000 in
set_option maxHeartbeats 800000 in
theorem xN(x:Nat)(hx:x<4294967296):Pure Tryz.prog 216 [wd x] (dI (bl x)):=by
 refine qJ 19 Tryz.func216 rfl rfl rfl rfl (by kernel_rfl) (fun B F0 w0=>?_);refine qX 1 rfl (ae.nil ?_);refine AW.cut [0,2] (fun s:Nat×Nat=>[(0,.d (wd s.1)),(2,.d (dI s.2))]) (fun s=>s.1<65536∧s.2≤16∧bl x=s.2+bl s.1) ?_ (fun (y,k) ⟨hy,hk,he⟩=>?_)
 · refine qX 2 rfl (ae.nil (AW.cond rfl (fun h=>?_) (fun h=>?_)))
   · have hge:65536≤x:=by have:=ao h;omega
     refine qX 3 rfl ?_;rw[GY x 16 (by decide)];refine ae.nil (qT 1 rfl (ae.nil ?_));exact⟨(x / 2^16,16),rfl,by show x / 2^16<65536;omega,ai _,rK 16 x hge⟩
   · have hlt:x<65536:=by have:=ar h;omega
     refine AW.skip ?_;exact⟨(x,0),rfl,hlt,by simp,(Nat.zero_add _).symm⟩
 · simp only[] at hy hk he;refine AW.cut [0,2] (fun s:Nat×Nat=>[(0,.d (wd s.1)),(2,.d (dI s.2))]) (fun s=>s.1<256∧s.2≤24∧bl x=s.2+bl s.1) ?_ (fun (y,k) ⟨hy,hk,he⟩=>?_)
   · refine qX 2 rfl (ae.nil (AW.cond rfl (fun h=>?_) (fun h=>?_)))
     · have hge:256≤y:=by have:=ao h;omega
       refine qX 3 rfl ?_;rw[GY y 8 (by decide)];refine ae.nil (qT 3 rfl ?_);rw[aI (by omega) (by omega)];refine ae.nil ?_;exact⟨(y / 2^8,k+8),rfl,by show y / 2^8<256;omega,by show k+8≤24;omega,by simp only[];rw[he,rK 8 y hge,Nat.add_assoc]⟩
     · have hlt:y<256:=by have:=ar h;omega
       refine AW.skip ?_;exact⟨(y,k),rfl,hlt,by show k≤24;omega,he⟩
   · simp only[] at hy hk he;refine qX 3 rfl ?_;rw[wU8 (by omega) (by omega)];refine ae.Lh tok Ol 256 rfl rfl rfl rfl hy (by kernel_rfl) (by kernel_rfl) ?_;rw[Mc hy];refine qU 3 rfl ?_;have hb:=gX (show y<2^8 by omega);rw[aI (x:=((bl y:Nat):Int)) (by omega) (by omega),aI (by omega) (by omega)];refine ae.nil ?_;rw[he];exact AW.ret rfl
theorem mE(x:Nat)(hx:x<4294967296):Pure Tryz.prog 209 [wd x] (dI ((32-bl x:Nat):Int)):=by
 refine qJ 6 Tryz.func209 rfl rfl rfl rfl (by kernel_rfl) (fun B F0 w0=>?_);have hb:=gX (show x<2^32 by omega);refine qX 1 rfl (qK 1 rfl (qM rfl (xN x hx) ?_));refine qU 2 rfl ?_;rw[aI (by omega) (by omega),show (32:Int) -((bl x:Nat):Int)=((32-bl x:Nat):Int) by omega];exact qN rfl
end Lift
namespace Lift
theorem F7{R top next Vl V p2 Ul U head rest guess:Nat}(hV:V=Vl+R*(next+4294967296*top))(hU:U=Ul+R*(p2+4294967296*head))(hl:Ul<R)(hh:guess*top+rest=head)(hc:rest*4294967296+p2<guess*next):U<guess*V:=by
 have h1:p2+4294967296*head+1≤guess*next+4294967296*(guess*top):=by omega
 have h2:R*(p2+4294967296*head+1)≤R*(guess*next+4294967296*(guess*top)):=Nat.mul_le_mul_left _ h1
 have h3:R*(guess*next+4294967296*(guess*top))=guess*(R*(next+4294967296*top)):=by
  rw[Nat.mul_add R next,Nat.mul_add guess,Nat.mul_add R]
  congr 1<;>ac_rfl
 have h4:guess*V=guess*Vl+guess*(R*(next+4294967296*top)):=by rw[hV,Nat.mul_add]
 rw[Nat.mul_add,Nat.mul_one] at h2;omega
theorem F6{R top next Vl V p2 Ul U head rest guess:Nat}(hV:V=Vl+R*(next+4294967296*top))(hU:U=Ul+R*(p2+4294967296*head))(hvl:Vl<R)(ht:0<top)(hn:next<4294967296)(hg:guess<4294967296)(hh:guess*top+rest=head)
  (hc:guess*next≤rest*4294967296+p2∨4294967296≤rest):guess*V≤U+V:=by
 have hgn:guess*next≤4294967295*4294967295:=Nat.mul_le_mul (by omega) (by omega)
 have h1:guess*next+4294967296*(guess*top)≤p2+4294967296*head:=by omega
 have h2:R*(guess*next+4294967296*(guess*top))≤R*(p2+4294967296*head):=Nat.mul_le_mul_left _ h1
 have h3:R*(guess*next+4294967296*(guess*top))=guess*(R*(next+4294967296*top)):=by
  rw[Nat.mul_add R next,Nat.mul_add guess,Nat.mul_add R]
  congr 1<;>ac_rfl
 have h4:guess*V=guess*Vl+guess*(R*(next+4294967296*top)):=by rw[hV,Nat.mul_add]
 have h5:guess*Vl≤4294967296*R:=Nat.mul_le_mul (by omega) (by omega);have h6:R*(4294967296*1)≤R*(next+4294967296*top):=Nat.mul_le_mul_left _ (by omega);omega
theorem Cb{V U R Vl top next head p2 Ul:Nat}(hV:V=Vl+R*(next+4294967296*top))(hU:U=Ul+R*(p2+4294967296*head))(hl:Ul<R)(hp2:p2<4294967296)(ht:0<top):U<(head / top+1)*V:=by
 have h0:=Nat.div_add_mod head top;have h1:=Nat.mod_lt head ht;have h2:(head / top+1)*top=top*(head / top)+top:=by rw[Nat.add_mul,Nat.one_mul,Nat.mul_comm]
 have h3:head+1≤(head / top+1)*top:=by omega
 have h4:R*(4294967296*(head+1))≤R*(4294967296*((head / top+1)*top)):=Nat.mul_le_mul_left _ (Nat.mul_le_mul_left _ h3);have h5:R*(4294967296*((head / top+1)*top))=(head / top+1)*(R*(4294967296*top)):=by ac_rfl
 have h6:(head / top+1)*(R*(4294967296*top))≤(head / top+1)*V:=Nat.mul_le_mul_left _ (by rw[hV,Nat.mul_add];omega);have h7:R*(p2+4294967296*head+1)≤R*(4294967296*(head+1)):=Nat.mul_le_mul_left _ (by omega);rw[Nat.mul_add,Nat.mul_one] at h7;omega
theorem JN{v:List Nat}{n:Nat}(hn:v.length=n+2):nv v=nv (v.take n)+4294967296^n*(v.getD n 0+4294967296*v.getD (n+1) 0):=by
 rw[bC v n (by omega),dO v n (by omega),dO v (n+1) (by omega),List.drop_of_length_le (by omega)];simp[nv]
theorem JM{v:List Nat}{n:Nat}(hn:v.length=n+3):nv v=nv (v.take n)+4294967296^n*(v.getD n 0+4294967296*(v.getD (n+1) 0+4294967296*v.getD (n+2) 0)):=by
 rw[bC v n (by omega),dO v n (by omega),dO v (n+1) (by omega),dO v (n+2) (by omega),List.drop_of_length_le (by omega)];simp[nv]
theorem mu{v:List Nat}(h:a8 v)(n:Nat):nv (v.take n)<4294967296^n:=by
 have h1:=dm (h.take n);exact Nat.lt_of_lt_of_le h1 (iU (by simp;omega))
theorem q7{l:List Nat}(n:Nat)(h:nv l<4294967296^n)(hn:n≤l.length):nv (l.drop n)=0:=by
 have:=bC l n hn;rcases Nat.eq_zero_or_pos (nv (l.drop n)) with h0 | h0
 · exact h0
 · have:4294967296^n*1≤4294967296^n*nv (l.drop n):=Nat.mul_le_mul_left _ h0;omega
theorem q8{l:List Nat}{j:Nat}(h:j<l.length):nv (l.drop j)=l.getD j 0+4294967296*nv (l.drop (j+1)):=by
 rw[dO l j h];rfl
theorem Co{u w:List Nat}{j n V U r:Nat}(hu:a8 u)(hjn:j+(n+1)≤u.length)(hV:V<4294967296^n)(hlt:nv (u.drop (j+1))<V)(hU:U=nv (dE u j (n+1)))(hw:w=dg (n+1) r)(hr:r<V):
  nv (u.drop j)=U∧U<4294967296*V∧nv ((put u j (n+1) w).drop j)=r∧nv (put u j (n+1) w)+4294967296^j*U=nv u+4294967296^j*r:=by
 have hz:nv ((u.drop (j+1)).drop n)=0:=q7 n (Nat.lt_trans hlt hV) (by simp;omega);rw[List.drop_drop,show j+1+n=j+(n+1) by omega] at hz
 have h1:nv (u.drop j)=U:=by
  have:=bC (u.drop j) (n+1) (by simp;omega);rw[List.drop_drop,hz,Nat.mul_zero,Nat.add_zero] at this;rw[this,hU];rfl
 have hwl:w.length=n+1:=by rw[hw,aT]
 have hwv:nv w=r:=by
  rw[hw,iN];exact Nat.mod_eq_of_lt (Nat.lt_trans hr (Nat.lt_of_lt_of_le hV (iU (by omega))))
 have hpl:(put u j (n+1) w).length=u.length:=ei hjn hwl
 have ht:(put u j (n+1) w).take j=u.take j:=by
  have:(u.take j).length=j:=by simp;omega
  rw[put,List.append_assoc,List.take_append_of_le_length (by omega),List.take_of_length_le (by omega)]
 have hd:nv ((put u j (n+1) w).drop j)=r:=by
  have:(u.take j).length=j:=by simp;omega
  rw[put,List.append_assoc,List.drop_append_of_le_length (by omega),List.drop_of_length_le (by omega),List.nil_append,su,hz,hwv];omega
 refine⟨h1,?_,hd,?_⟩
 · rw[← h1,q8 (by omega)];have:=hu.getD j;omega
 · have e1:=bC (put u j (n+1) w) j (by omega);have e2:=bC u j (by omega);rw[hd,ht] at e1;rw[h1] at e2;omega
end Lift
namespace Lift
open Go Go.Proofs
theorem Au: ∀(k m v:Nat),k≤m→(dg m v).take k=dg k v
 | 0,m,v,_=>by simp[dg]
 | k+1,0,v,h=>by omega
 | k+1,m+1,v,h=>by simp[dg,Au k m (v / 4294967296) (by omega)]
theorem ue(a:List Nat)(n:Nat)(ha:a8 a)(hla:a.length≤34900000000000)(hn:n<32):Pure Tryz.prog 210 [Wd a,dI n] (Wd (dg (a.length+1) (nv a*2^n))):=by
 have:=lY.pure tok (pd a n ha hla hn) (te:=_) rfl
 have e:(((dg (a.length+1) (nv a*2^n)).map wd).drop 0).take (a.length+1)=(dg (a.length+1) (nv a*2^n)).map wd:=by
  rw[List.drop_zero,List.take_of_length_le (by simp[aT])]
 rw[e] at this;exact this
theorem fR(l:List Nat):jL (l.map wd)=true:=by
 simp only[jL,List.all_eq_true,flatAll];intro x hx;obtain ⟨y,hy,hxy⟩:=List.mem_flatMap.1 hx;obtain ⟨z,_,rfl⟩:=List.mem_map.1 hy;simp[wd,D.flat] at hxy;subst hxy;rfl
theorem AW.norm{P:Program}{B:Nat}{F0:Nat→Prop}{w0:cX}{n:Nat}{σ:St}{x:Code}{Q:Exit→St→Prop}(ks:List Nat)(σ':St)(h:σ.dJ ks=σ')(hk:AW P B F0 w0 n x Q σ'):AW P B F0 w0 n x Q σ:=AW.dJ ks (h▸hk)
theorem BM{s n B L T V:Nat}(hs:s=32-bl T)(hs1:0<bl T)(hs2:2^(bl T-1)≤T)(hs3:bl T≤32)(h1:B=L+4294967296^(n+1)*T)(h2:L<4294967296^(n+1))(hT:T<4294967296)(hV:V=B*2^s):V<4294967296^(n+2)∧4294967296^(n+2)≤2*V:=by
 have h4:=HL T;have e1:2^bl T*2^s=4294967296:=by rw[← Nat.pow_add,hs,show bl T+(32-bl T)=32 by omega]
 have e2:2^bl T=2^(bl T-1)*2:=by rw[← Nat.pow_succ];congr 1;omega
 have h5:B+1≤4294967296^(n+1)*2^bl T:=by
  have:4294967296^(n+1)*(T+1)≤4294967296^(n+1)*2^bl T:=Nat.mul_le_mul_left _ h4;rw[Nat.mul_add,Nat.mul_one] at this;omega
 have h6:(B+1)*2^s≤4294967296^(n+1)*2^bl T*2^s:=Nat.mul_le_mul_right _ h5;have hp:0<2^s:=Nat.pow_pos (by decide);rw[Nat.mul_assoc,e1,← Nat.pow_succ,Nat.add_mul,Nat.one_mul] at h6
 have h7:4294967296^(n+1)*2^(bl T-1)≤B:=by
  have:4294967296^(n+1)*2^(bl T-1)≤4294967296^(n+1)*T:=Nat.mul_le_mul_left _ hs2;omega
 have h8:4294967296^(n+1)*2^(bl T-1)*2^s≤B*2^s:=Nat.mul_le_mul_right _ h7;refine⟨by rw[hV];show B*2^s<4294967296^(n+1+1);omega,?_⟩
 have e3:4294967296^(n+2)=4294967296^(n+1)*2^(bl T-1)*2^s*2:=by
  rw[show n+2=n+1+1 from rfl,Nat.pow_succ,← e1,e2]
  ac_rfl
 rw[e3,hV];omega
theorem Jn{n V Vl nx top R:Nat}(h1:4294967296^(n+2)≤2*V)(h2:V=Vl+R*(nx+4294967296*top))(h3:Vl<R)(h4:nx<4294967296)(hR:R=4294967296^n):2147483648≤top:=by
 rcases Nat.lt_or_ge top 2147483648 with h | h
 · exfalso;have h5:R*(nx+4294967296*top+1)≤R*(4294967296*2147483648):=Nat.mul_le_mul_left _ (by omega);rw[Nat.mul_add,Nat.mul_one] at h5;have e:4294967296^(n+2)=R*(4294967296*2147483648)*2:=by rw[hR,Nat.pow_add];omega
   omega
 · exact h
theorem Jh{A s N L:Nat}(h:A<4294967296^L)(hN:N=L+1)(hs:s≤32):A*2^s<4294967296^N:=by
 have h1:2^s≤2^32:=Nat.pow_le_pow_right (by decide) hs;have h2:A*2^s≤A*4294967296:=Nat.mul_le_mul_left _ h1;rw[hN,Nat.pow_succ];omega
theorem DR{u:List Nat}{A s n Q V L:Nat}(hu:nv u=A*2^s)(hA:A<4294967296^L)(hs:s≤31)(hL:L=Q+(n+1))(hV:4294967296^(n+2)≤2*V)(hl:Q≤u.length):nv (u.drop Q)<V:=by
 have h1:=bC u Q hl;have h2:2^s≤2^31:=Nat.pow_le_pow_right (by decide) hs;have h3:A*2^s≤A*2147483648:=Nat.mul_le_mul_left _ h2;rw[hL,Nat.pow_add] at hA;rcases Nat.lt_or_ge (nv (u.drop Q)) V with h | h
 · exact h
 · exfalso;have h4:4294967296^Q*(2*V)≤4294967296^Q*(2*nv (u.drop Q)):=Nat.mul_le_mul_left _ (by omega);have h5:4294967296^Q*4294967296^(n+2)≤4294967296^Q*(2*V):=Nat.mul_le_mul_left _ hV;have e:4294967296^Q*4294967296^(n+2)=4294967296^Q*4294967296^(n+1)*4294967296:=by rw[show n+2=n+1+1 from rfl,Nat.pow_succ,Nat.mul_assoc]
   have e2:4294967296^Q*(2*nv (u.drop Q))=2*(4294967296^Q*nv (u.drop Q)):=by ac_rfl
   omega
theorem Ca{g top r head:Nat}(h:g*top+r=head)(ht:2147483648≤top)(hh:head<18446744073709551616):g<8589934592:=by
 have h1:g*2147483648≤g*top:=Nat.mul_le_mul_left _ ht;omega
theorem Dr{R top next Vl V p2 Ul U head rest guess:Nat}(hV:V=Vl+R*(next+4294967296*top))(hU:U=Ul+R*(p2+4294967296*head))(hl:Ul<R)(hUV:U<4294967296*V)(hh:guess*top+rest=head)(hr:rest<4294967296)
  (hc:4294967296≤guess∨rest*4294967296+p2<guess*next):0<guess∧U<guess*V:=by
 rcases hc with h | h
 · have:4294967296*V≤guess*V:=Nat.mul_le_mul_right _ h;exact⟨by omega,by omega⟩
 · refine⟨?_,F7 hV hU hl hh h⟩;rcases Nat.eq_zero_or_pos guess with h0 | h0
   · subst h0;omega
   · exact h0
theorem Dt{R top next Vl V p2 Ul U head rest guess:Nat}(hV:V=Vl+R*(next+4294967296*top))(hU:U=Ul+R*(p2+4294967296*head))(hl:Ul<R)(hvl:Vl<R)(hUV:U<4294967296*V)(ht:0<top)(hn:next<4294967296)(hh:guess*top+rest=head)
  (hc:4294967296≤rest∨(guess<4294967296∧guess*next≤rest*4294967296+p2)):guess<4294967296∧guess*V≤U+V:=by
 have hg:guess<4294967296:=by
  rcases hc with h | h
  · have h1:head<4294967296*(top+1):=by
     rcases Nat.lt_or_ge head (4294967296*(top+1)) with h2 | h2
     · exact h2
     · exfalso;have h3:R*(4294967296*(4294967296*(top+1)))≤R*(4294967296*head):=Nat.mul_le_mul_left _ (Nat.mul_le_mul_left _ h2);have h4:R*(next+4294967296*top+1)≤R*(4294967296*(top+1)):=Nat.mul_le_mul_left _ (by omega);have h5:R*(4294967296*(4294967296*(top+1)))=4294967296*(R*(4294967296*(top+1))):=by ac_rfl
       rw[Nat.mul_add R p2] at hU;rw[Nat.mul_add,Nat.mul_one] at h4;omega
    rcases Nat.lt_or_ge guess 4294967296 with h2 | h2
    · exact h2
    · exfalso;have h3:4294967296*top≤guess*top:=Nat.mul_le_mul_right _ h2;omega
  · exact h.1
 exact⟨hg,F6 hV hU hvl ht hn hg hh (by rcases hc with h | h;exact .inr h;exact .inl h.2)⟩
theorem Il{U V g B:Nat}(h1:U<g*V)(h2:g*V≤U+V)(hV:0<V)(hB:V≤B):U+B-g*V+V=B+U%V∧U / V=g-1:=by
 obtain ⟨g',rfl⟩: ∃g',g=g'+1:=⟨g-1,by have:g≠0:=(by rintro rfl;omega);omega⟩;rw[Nat.add_mul,Nat.one_mul] at h1 h2 ⊢
 have h3:U / V=g':=by
  refine Nat.div_eq_of_lt_le ?_ ?_
  · omega
  · rw[Nat.add_mul,Nat.one_mul];omega
 refine⟨?_,by omega⟩;have h4:=Nat.div_add_mod U V;rw[h3,Nat.mul_comm] at h4;generalize U%V=r at h4 ⊢;generalize g'*V=y at h1 h2 h4 ⊢;omega
theorem Ga{U V g:Nat}(h1: ¬U<g*V)(h2:U<(g+1)*V)(hV:0<V):U-g*V=U%V∧U / V=g:=by
 have h3:U / V=g:=Nat.div_eq_of_lt_le (by omega) h2;have h4:=Nat.div_add_mod U V;rw[h3,Nat.mul_comm] at h4;exact⟨by omega,h3⟩
theorem JF{l w x:List Nat}{lo m:Nat}(h:lo+m≤l.length)(hw:w.length=m):put (put l lo m w) lo m x=put l lo m x:=by
 have h1:(l.take lo).length=lo:=by simp;omega
 simp only[put,List.append_assoc];rw[List.take_append_of_le_length (by omega),List.take_of_length_le (by omega),← List.append_assoc,← List.append_assoc (l.take lo),List.drop_append_of_le_length (by simp[hw];omega),List.drop_of_length_le (by simp[hw];omega)];simp
theorem Im{k x y:Nat}(h:x%4294967296^k=y%4294967296^k):dg k x=dg k y:=vS (fx _ _) (fx _ _) (by rw[aT,aT]) (by rw[iN,iN,h])
theorem BK{l:List Nat}{j x:Nat}(h:j<l.length):nv ((l.set j x).drop j)=x+4294967296*nv (l.drop (j+1)):=by
 rw[q8 (by simpa using h),fk _ _ _ _ h,if_pos rfl,gW]
theorem F9{u u' P P1 U r V q Z:Nat}(h:u'+P*U=u+P*r)(h1:V*q+r=U)(hP:P1=P*4294967296):u'+P*(q+4294967296*Z)*V=u+P1*Z*V:=by
 subst hP;rw[← h1,Nat.mul_add] at h;rw[Nat.mul_add,Nat.add_mul];have e1:P*q*V=P*(V*q):=by ac_rfl
 have e2:P*(4294967296*Z)*V=P*4294967296*Z*V:=by ac_rfl
 omega
theorem Gb{u q V b a s:Nat}(hV:V=b*2^s)(h1:u<V)(h2:u+q*V=a*2^s)(hs:0<2^s):q=a / b∧u / 2^s=a%b:=by
 have hb:0<b:=by
  have:b≠0:=by rintro rfl;omega
  omega
 have hdv:u%2^s=0:=by
  have:(u+q*V)%2^s=0:=by rw[h2,Nat.mul_mod_left]
  rw[hV,← Nat.mul_assoc,Nat.add_mul_mod_self_right] at this;exact this
 have hu:=Nat.div_add_mod u (2^s);rw[hdv,Nat.add_zero] at hu;obtain ⟨r,hr⟩: ∃r,r=u / 2^s:=⟨_,rfl⟩;rw[← hr] at hu ⊢
 have h3:r+q*b=a:=by
  have:2^s*(r+q*b)=2^s*a:=by
   rw[Nat.mul_add,hu,Nat.mul_comm _ a,← h2,hV]
   congr 1
   ac_rfl
  exact Nat.eq_of_mul_eq_mul_left hs this
 have h4:r<b:=by
  rw[← hu,hV,Nat.mul_comm] at h1;exact Nat.lt_of_mul_lt_mul_right h1
 have h5:a / b=q:=by rw[← h3,Nat.add_mul_div_right _ _ hb,Nat.div_eq_of_lt h4,Nat.zero_add]
 have h6:a%b=r:=by rw[← h3,Nat.add_mul_mod_self_right,Nat.mod_eq_of_lt h4]
 exact⟨h5.symm,h6.symm⟩
set_option maxHeartbeats 1600000 in
theorem rr(a b:List Nat)(ha:a8 a)(hb:a8 b)(na:Nm a)(nb:Nm b)(hla:a.length≤34800000000000)(hlb:b.length≤34800000000000)(hb0:b≠[]):Pure Tryz.prog 191 [Wd a,Wd b] (.tu [Wd (tw (nv a / nv b)),Wd (tw (nv a%nv b))]):=by
 refine qJ 158 Tryz.func191 rfl rfl rfl rfl (by kernel_rfl) (fun B F0 w0=>?_);have hbpos:0<nv b:=Nat.pos_of_ne_zero (fun e=>hb0 ((jf nb).1 e));refine qX 2 rfl (qI (qX 2 rfl (qM rfl (kD a b ha hb na nb (by omega)) ?_)));refine qU 1 rfl (ae.nil (AW.cond rfl (fun h=>?_) (fun h=>?_)))
 · have hlt:nv a<nv b:=by
    have h:=ao h;unfold iZ at h;split at h
    · assumption
    · split at h<;>omega
   rw[Nat.div_eq_of_lt hlt,Nat.mod_eq_of_lt hlt,jW];refine qX 1 rfl (qM rfl (bT a ha (by omega)) ?_);exact qU 2 rfl (qN rfl)
 have hge:nv b≤nv a:=by
  have h:=ar h;unfold iZ at h;split at h
  · omega
  · omega
 refine AW.skip (AW.seq (qX 3 rfl (ae.nil (AW.cond rfl (fun h=>?_) (fun h=>?_)))))
 · have hl1:b.length=1:=by
    have:(b.length:Int)=1:=by simpa using h
    omega
   obtain ⟨c,rfl⟩: ∃c,b=[c]:=List.length_eq_one_iff.1 hl1;have hc:=(a8.cons.1 hb).1;have hnc:nv [c]=c:=by simp[nv]
   rw[hnc] at hbpos hge ⊢;refine qX 2 rfl (ae.idx tok (wd c) rfl rfl rfl rfl (Int.le_refl 0) rfl ?_);refine qU 1 rfl (qM rfl (sL a c ha (by omega) hc hbpos) ?_);refine qU 5 rfl (qK 2 rfl (ae.bs tok rfl rfl rfl rfl ?_));refine ae.jh tok 38 rfl rfl ?_;refine qM rfl (bT [nv a%c] (a8.cons.2 ⟨Nat.lt_trans (Nat.mod_lt _ hbpos) hc,a8.nil⟩) (by simp)) ?_;refine qU 2 rfl (ae.nil ?_);rw[show nv [nv a%c]=nv a%c by simp[nv]];exact AW.ret rfl
 have hl2:2≤b.length:=by
  have h1: ¬(b.length:Int)=1:=by simpa using h
  have:b.length≠0:=fun e=>hb0 (List.eq_nil_of_length_eq_zero e);omega
 obtain ⟨n,hn⟩: ∃n,b.length=n+2:=⟨b.length-2,by omega⟩
 have hlab:n+2≤a.length:=by
  rcases Nat.lt_or_ge a.length b.length with h | h
  · have:=lN ha nb h;omega
  · omega
 have hT:=hb.getD (n+1);have hT0:b.getD (n+1) 0≠0:=fun e=>nb (by rw[List.getLast?_eq_getElem?,hn,show n+2-1=n+1 by omega,bP (by omega)];simpa[List.getD,show n+1<b.length by omega] using e);obtain ⟨hs1,hs2⟩:=KZ hT0;have hs3:=gX (show b.getD (n+1) 0<2^32 by omega);obtain ⟨s,hs⟩: ∃s,s=32-bl (b.getD (n+1) 0):=⟨_,rfl⟩;refine AW.skip (qX 4 rfl ?_);rw[ba b,aI (by omega) (by omega),show (b.length:Int) -1=((n+1:Nat):Int) by omega];refine ae.idx tok (wd (b.getD (n+1) 0)) rfl rfl rfl rfl (aj _) (bS (by omega)) ?_;refine qU 1 rfl (qM rfl (mE _ hT) ?_);refine qU 1 rfl ?_;rw[← hs];refine qI (AW.draw aS 9 (by kernel_rfl) ?_);refine qP 2 rfl (qQ rfl (ue b s hb (by omega) (by omega)) ?_);refine qP 2 rfl ?_;refine ah.Ej tok rfl rfl rfl rfl rfl trivial (aj _) (Nat.zero_le _) (by simp[cV,aT]) ?_;refine qP 2 rfl (ah.wU tok rfl rfl rfl rfl rfl (pd a s ha (by omega) (by omega)) (fR _) ?_);refine ah.nil (qU 2 rfl (ae.nil ?_));obtain ⟨V,hV⟩: ∃V,V=nv b*2^s:=⟨_,rfl⟩;obtain ⟨v,hv⟩: ∃v,v=dg (n+2) V:=⟨_,rfl⟩;obtain ⟨N,hN⟩: ∃N,N=a.length+1:=⟨_,rfl⟩;obtain ⟨u0,hu0⟩: ∃u0,u0=dg N (nv a*2^s):=⟨_,rfl⟩;have hvl:v.length=n+2:=by rw[hv,aT]
 have hvw:a8 v:=by rw[hv];exact fx _ _
 have hVb:V<4294967296^(n+2)∧4294967296^(n+2)≤2*V:=by
  have h1:=vU b (n+1) (by omega);rw[List.drop_of_length_le (by omega)] at h1;simp only[nv,Nat.mul_zero,Nat.add_zero] at h1;have h2:=mu hb (n+1);exact BM hs hs1 hs2 hs3 h1 h2 hT hV
 have hvv:nv v=V:=by rw[hv,iN];exact Nat.mod_eq_of_lt hVb.1
 have e9:D.sl 1 (((((dg (b.length+1) (nv b*2^s)).map wd)).take (cV ((dg (b.length+1) (nv b*2^s)).map wd).length (some ((b.map wd).length:Int)))).drop (fU none))=Wd v:=by
  simp only[cV,fU,List.drop_zero,Int.toNat_natCast,af,Wd,← List.map_take];rw[Au _ _ _ (by omega),hn,← hV,← hv]
 refine AW.norm [8,9,10] [(8,.d (dI s)),(9,.d (Wd v)),(10,.wn false 117 (u0.map wd) 0 N)] (by rw[← e9,hu0,hN];rfl) ?_;have hul0:u0.length=N:=by rw[hu0,aT]
 have huw0:a8 u0:=by rw[hu0];exact fx _ _
 obtain ⟨Q,hQ⟩: ∃Q,N=Q+(n+2):=⟨N-(n+2),by omega⟩;refine qX 5 rfl ?_;refine ae.pb tok Q rfl rfl rfl rfl rfl rfl (by rw[nN (show 0+N≤u0.length by omega),ba v,aI (by omega) (by omega)];omega) rfl (by omega) ?_;refine qU 1 rfl (qI (AW.draw aS 15 (by kernel_rfl) ?_));refine qP 4 rfl ?_;rw[ba v,aI (x:=(v.length:Int) -1) (by omega) (by omega),show (v.length:Int) -1=((n+1:Nat):Int) by omega];refine ah.idx tok (wd (v.getD (n+1) 0)) rfl rfl rfl rfl rfl (aj _) (bS (by omega)) ?_;refine qP 6 rfl ?_;rw[ba v,aI (x:=(v.length:Int) -2) (by omega) (by omega),show (v.length:Int) -2=((n:Nat):Int) by omega];refine ah.idx tok (wd (v.getD n 0)) rfl rfl rfl rfl rfl (aj _) (bS (by omega)) ?_;refine qP 3 rfl (ah.nil (qU 1 rfl ?_));have htw:=hvw.getD (n+1);have hnw:=hvw.getD n;rw[fK (v.getD (n+1) 0) (by omega),fK (v.getD n 0) (by omega)];refine qI (qX 4 rfl ?_);rw[ba,List.length_replicate,aI (by omega) (by omega)];refine ae.nil (AW.block ?_);have hv2:=JN hvl;obtain ⟨top,htop⟩: ∃top,top=v.getD (n+1) 0:=⟨_,rfl⟩;obtain ⟨nx,hnx⟩: ∃nx,nx=v.getD n 0:=⟨_,rfl⟩;rw[hvv,← htop,← hnx] at hv2;rw[← htop] at htw;rw[← hnx] at hnw;rw[← htop,← hnx];obtain ⟨R,hR⟩: ∃R,R=4294967296^n:=⟨_,rfl⟩;have hR0:0<R:=by rw[hR];exact Nat.pow_pos (by decide)
 have hvl0:nv (v.take n)<R:=by rw[hR];exact mu hvw n
 obtain ⟨Vl,hVl⟩: ∃Vl,Vl=nv (v.take n):=⟨_,rfl⟩;rw[← hVl,← hR] at hv2;rw[← hVl] at hvl0;have htop0:2147483648≤top:=Jn hVb.2 hv2 hvl0 hnw hR;have hVB:V<4294967296^(n+2):=hVb.1
 have hu00:nv u0=nv a*2^s:=by
  rw[hu0,iN];exact Nat.mod_eq_of_lt (Jh (dm ha) hN (by omega))
 have hstart:nv (u0.drop Q)<V:=DR hu00 (dm ha) (by omega) (show a.length=Q+(n+1) by omega) hVb.2 (by omega);clear hVb
 refine AW.aL [8,9,10,11,12,13,14] (fun z:Nat×List Nat×List Nat=>[(8,.d (dI s)),(9,.d (Wd v)),(10,.wn false 117 (z.2.1.map wd) 0 N),(11,.ow 117 (z.2.2.map wd)),(12,.d (dU top)),(13,.d (dU nx)),(14,.d (dI ((z.1:Int) -1)))])
  (fun z=>z.1≤Q∧z.2.1.length=N∧a8 z.2.1∧z.2.2.length=Q∧a8 z.2.2∧nv (z.2.1.drop z.1)<V∧nv z.2.1+4294967296^z.1*nv (z.2.2.drop z.1)*V=nv a*2^s) (fun z=>z.1) (Q,u0,List.replicate Q 0) rfl
  ⟨ai _,hul0,huw0,by simp,a8.replicate _,hstart,by simp[nv,hu00]⟩ (fun (k,u,q) ⟨hk,hul,huw,hql,hqw,hlt,hval⟩=>?_)
 simp only[] at hk hul huw hql hqw hlt hval;refine AW.seq (qX 2 rfl (ae.nil (AW.cond rfl (fun h=>?_) (fun h=>?_))))
 · have hk0:0<k:=by have:=ao h;omega
   obtain ⟨j,rfl⟩: ∃j,k=j+1:=⟨k-1,by omega⟩;rw[show ((j+1:Nat):Int) -1=(j:Int) by omega];refine AW.skip (AW.seq (AW.block (qX 7 rfl ?_)));rw[ba v,hvl,aI (x:=(j:Int)+((n+2:Nat):Int)) (by omega) (by omega),aI (x:=(j:Int)+((n+2:Nat):Int)+1) (by omega) (by omega),show (j:Int)+((n+2:Nat):Int)+1=((j+(n+3):Nat):Int) by omega];refine ae.Mr tok rfl rfl rfl rfl (aj _) (aj _) (by simp only[fU,cV,Int.toNat_natCast];omega) (by simp only[cV,Int.toNat_natCast];omega) ?_;rw[show 0+fU (some (j:Int))=j by simp[fU],show cV N (some ((j+(n+3):Nat):Int)) -fU (some (j:Int))=n+3 by simp[fU,cV];omega];refine qU 1 rfl (ae.nil (AW.norm [8,9,10,11,12,13,14,15] [(8,.d (dI s)),(9,.d (Wd v)),(10,.wn false 117 (u.map wd) 0 N),(11,.ow 117 (q.map wd)),(12,.d (dU top)),(13,.d (dU nx)),(14,.d (dI j)),(15,.sb 10 j (n+3))] rfl ?_));refine AW.seq (AW.draw aS 15 (by kernel_rfl) ?_);refine qP 3 rfl ?_;rw[ba v,hvl];have hx2:=huw.getD (j+(n+2));have hx1:=huw.getD (j+(n+1));have hx0:=huw.getD (j+n);refine ah.oX tok rfl rfl rfl rfl rfl rfl (aj _) (by simp only[Int.toNat_natCast];omega) ?_;rw[Int.toNat_natCast];refine ah.df tok (wd (u.getD (j+(n+2)) 0)) rfl rfl rfl rfl rfl (bS (by omega)) rfl ?_;refine qP 6 rfl ?_;rw[ba v,hvl,aI (x:=((n+2:Nat):Int) -1) (by omega) (by omega),show ((n+2:Nat):Int) -1=((n+1:Nat):Int) by omega];refine ah.oX tok rfl rfl rfl rfl rfl rfl (aj _) (by simp only[Int.toNat_natCast];omega) ?_;rw[Int.toNat_natCast];refine ah.df tok (wd (u.getD (j+(n+1)) 0)) rfl rfl rfl rfl rfl (bS (by omega)) rfl ?_;refine qP 2 rfl (ah.nil (qU 1 rfl ?_));obtain ⟨x2,hx2e⟩: ∃x,x=u.getD (j+(n+2)) 0:=⟨_,rfl⟩;obtain ⟨x1,hx1e⟩: ∃x,x=u.getD (j+(n+1)) 0:=⟨_,rfl⟩;obtain ⟨x0,hx0e⟩: ∃x,x=u.getD (j+n) 0:=⟨_,rfl⟩;rw[← hx2e] at hx2 ⊢;rw[← hx1e] at hx1 ⊢;rw[← hx0e] at hx0;rw[fK x2 (by omega),fK x1 (by omega),zf x2 hx2,N3 x2 x1 hx2 hx1];obtain ⟨head,hhead⟩: ∃h,h=x2*4294967296+x1:=⟨_,rfl⟩;rw[← hhead];refine ae.nil (AW.norm [8,9,10,11,12,13,14,15,16] [(8,.d (dI s)),(9,.d (Wd v)),(10,.wn false 117 (u.map wd) 0 N),(11,.ow 117 (q.map wd)),(12,.d (dU top)),(13,.d (dU nx)),(14,.d (dI j)),(15,.sb 10 j (n+3)),(16,.d (dU head))] rfl ?_);obtain ⟨U,hU⟩: ∃U,U=nv (dE u j (n+3)):=⟨_,rfl⟩;have hUV:U<4294967296*V:=(Co (w:=dg (n+3) 0) (r:=0) huw (by omega) hVB hlt hU rfl (by omega)).2.1
   have hU3: ∃Ul,Ul<R∧U=Ul+R*(x0+4294967296*head):=by
    have h1:=JM (bU (l:=u) (lo:=j) (m:=n+3) (by omega));rw[gm _ _ _ _ (by omega),gm _ _ _ _ (by omega),gm _ _ _ _ (by omega),← hx0e,← hx1e,← hx2e,← hU,← hR] at h1;exact⟨nv ((dE u j (n+3)).take n),by rw[hR];exact mu (huw.dE _ _) n,by rw[h1,hhead,Nat.mul_comm x2,Nat.add_comm x1]⟩
   obtain ⟨Ul,hUl,hU3⟩:=hU3;have hhd:head<18446744073709551616:=by omega
   have hfirst:=Cb hv2 hU3 hUl hx0 (by omega);refine AW.seq (AW.draw aS 7 (by kernel_rfl) ?_);refine qP 2 rfl (ah.div tok rfl rfl rfl rfl rfl (by omega) ?_);refine qP 2 rfl (ah.div tok rfl rfl rfl rfl rfl (by omega) ?_);rw[KU head top hhd,KT head top];refine qP 1 rfl (ah.nil (qU 1 rfl (ae.nil ?_)));have hx0e':=hx0e;clear hx2e hx1e hx0e hx1 hx2 hhead
   refine AW.cut [8,9,10,11,12,13,14,15,17] (fun g:Nat=>[(8,.d (dI s)),(9,.d (Wd v)),(10,.wn false 117 (u.map wd) 0 N),(11,.ow 117 (q.map wd)),(12,.d (dU top)),(13,.d (dU nx)),(14,.d (dI j)),(15,.sb 10 j (n+3)),(17,.d (dU g))])
    (fun g=>g<4294967296∧g*V≤U+V∧U<(g+1)*V) ?_ (fun g ⟨hg1,hg2,hg3⟩=>?_)
   · refine AW.block ?_
     refine AW.aL [8,9,10,11,12,13,14,15,16,17,18] (fun z:Nat×Nat=>[(8,.d (dI s)),(9,.d (Wd v)),(10,.wn false 117 (u.map wd) 0 N),(11,.ow 117 (q.map wd)),(12,.d (dU top)),(13,.d (dU nx)),(14,.d (dI j)),(15,.sb 10 j (n+3)),(16,.d (dU head)),(17,.d (dU z.1)),(18,.d (dU z.2))])
      (fun z=>z.1*top+z.2=head∧U<(z.1+1)*V) (fun z=>z.1) (head / top,head%top) rfl ⟨by rw[Nat.mul_comm];exact Nat.div_add_mod head top,hfirst⟩ (fun (g,r) ⟨hg1,hg2⟩=>?_)
     simp only[] at hg1 hg2;have hgb:g<8589934592:=Ca hg1 htop0 hhd;refine AW.seq ?_
     refine AW.cut [8,9,10,11,12,13,14,15,16,17,18,133] (fun c:Bool=>[(8,.d (dI s)),(9,.d (Wd v)),(10,.wn false 117 (u.map wd) 0 N),(11,.ow 117 (q.map wd)),(12,.d (dU top)),(13,.d (dU nx)),(14,.d (dI j)),(15,.sb 10 j (n+3)),(16,.d (dU head)),(17,.d (dU g)),(18,.d (dU r)),(133,.d (dB c))])
      (fun c=>(c=true→r<4294967296∧(4294967296≤g∨r*4294967296+x0<g*nx))∧(c=false→4294967296≤r∨(g<4294967296∧g*nx≤r*4294967296+x0))) ?_ (fun c ⟨hct,hcf⟩=>?_)
     · refine qT 3 rfl ?_;refine ae.split (t:=114) rfl (fun h=>?_) (fun h=>?_)
       · have hr:r<4294967296:=by have:=ao h;omega
         refine qU 3 rfl ?_;refine ae.split (t:=117) rfl (fun h=>?_) (fun h=>?_)
         · have hg:4294967296≤g:=by have:=ao h;omega
           refine qU 16 rfl (ae.nil ?_);exact⟨true,rfl,⟨fun _=>⟨hr,.inl hg⟩,(fun h=>by cases h)⟩⟩
         · have hg:g<4294967296:=by have:=ar h;omega
           refine qU 9 rfl ?_;have hgn:g*nx≤4294967295*4294967295:=Nat.mul_le_mul (by omega) (by omega);rw[ba v,hvl,aI (x:=((n+2:Nat):Int) -2) (by omega) (by omega),show ((n+2:Nat):Int) -2=((n:Nat):Int) by omega,JV g nx (by omega),zf r hr];refine ae.oX tok rfl rfl rfl rfl (aj _) (by simp only[Int.toNat_natCast];omega) ?_;rw[Int.toNat_natCast];refine ae.df tok (wd x0) rfl rfl rfl rfl (by rw[hx0e'];exact bS (by omega)) rfl ?_;refine qU 5 rfl ?_;rw[fK x0 (by omega),N3 r x0 hr hx0];refine ae.nil ?_;refine⟨_,rfl,fun h=>⟨hr,.inr ?_⟩,fun h=> .inr ⟨hg,?_⟩⟩
           · have:=ao h;omega
           · have:=ar h;omega
       · have hr:4294967296≤r:=by have:=ar h;omega
         refine qU 19 rfl (ae.nil ?_);exact⟨false,rfl,⟨(fun h=>by cases h),fun _=> .inl hr⟩⟩
     · refine AW.cond rfl (fun h=>?_) (fun h=>?_)
       · subst h;obtain ⟨hr,hc⟩:=hct rfl;have hnew:=Dr hv2 hU3 hUl hUV hg1 hr hc;obtain ⟨g',rfl⟩: ∃g',g=g'+1:=⟨g-1,by omega⟩;refine AW.skip (AW.block (qX 3 rfl ?_));rw[show ((g'+1:Nat):Int) -1=(g':Int) by omega,fK g' (by omega)];refine ae.nil (qT 4 rfl ?_);rw[uq r top (by omega)];refine ae.nil ?_;exact⟨(g',r+top),rfl,⟨by simp only[];rw[Nat.add_mul] at hg1;omega,hnew.2⟩,by simp only[];omega⟩
       · subst h;have hend:=Dt hv2 hU3 hUl hvl0 hUV (by omega) hnw hg1 (hcf rfl);refine AW.exit ?_;exact⟨g,rfl,hend.1,hend.2,hg2⟩
   obtain ⟨u',hu'⟩: ∃u',u'=put u j (n+3) (dg (n+3) (U%V)):=⟨_,rfl⟩;have hVp:0<V:=by omega
   refine AW.cut [8,9,10,11,12,13,14,17] (fun _:Unit=>[(8,.d (dI s)),(9,.d (Wd v)),(10,.wn false 117 (u'.map wd) 0 N),(11,.ow 117 (q.map wd)),(12,.d (dU top)),(13,.d (dU nx)),(14,.d (dI j)),(17,.d (dU (U / V:Nat)))]) (fun _=>True) ?_ (fun _ _=>?_)
   · refine qX 3 rfl (ae.yW tok rfl rfl rfl rfl (rq u v j (n+3) g huw hvw hg1 (by omega) (by omega) (by omega)) (by omega) (fR _) rfl ?_);refine ae.nil (AW.cond rfl (fun h=>?_) (fun h=>?_))
     · have hneg:=ao h;rw[hvv,← hU] at hneg;obtain ⟨hm1,hm2⟩:=Il (B:=4294967296^(n+3)) hneg hg2 hVp (Nat.le_of_lt (Nat.lt_of_lt_of_le hVB (iU (by omega))));obtain ⟨g',rfl⟩: ∃g',g=g'+1:=⟨g-1,by have:g≠0:=(by rintro rfl;omega);omega⟩;refine qX 3 rfl ?_;rw[show ((g'+1:Nat):Int) -1=(g':Int) by omega,fK g' (by omega)];refine ae.nil (qT 2 rfl ?_);rw[hvv,← hU,if_pos hneg];refine ae.yW tok rfl rfl rfl rfl (ug (put u j (n+3) (dg (n+3) (U+4294967296^(n+3) -(g'+1)*V))) v j (n+3) (huw.put (fx _ _) _ _) hvw (by rw[ei (by omega) (aT _ _)];omega) (by omega) (by omega)) (by omega) (fR _) rfl ?_;refine ae.nil ?_
       have e1:put (put u j (n+3) (dg (n+3) (U+4294967296^(n+3) -(g'+1)*V))) j (n+3) (dg (n+3) (nv (dE (put u j (n+3) (dg (n+3) (U+4294967296^(n+3) -(g'+1)*V))) j (n+3))+nv v))=u':=by
        rw[uu (by omega) (aT _ _),JF (by omega) (aT _ _),hu',hvv]
        congr 1
        refine Im ?_;rw[iN,Nat.mod_add_mod,hm1,Nat.add_mod_left]
       rw[e1];exact⟨(),by rw[hm2,Nat.add_sub_cancel];rfl,trivial⟩
     · have hnn:=ar h;rw[hvv,← hU] at hnn;obtain ⟨hm1,hm2⟩:=Ga hnn hg3 hVp;refine AW.skip ?_;rw[hvv,← hU,if_neg hnn,Nat.add_zero U,hm1,← hu'];exact⟨(),by rw[hm2];rfl,trivial⟩
   · refine qT 4 rfl ?_;refine ae.gD tok rfl rfl rfl rfl (aj _) (by simp;omega) ?_;have hqv:U / V<4294967296:=(Nat.div_lt_iff_lt_mul hVp).2 hUV;refine ae.jI tok (U / V) rfl rfl rfl (by omega) (by rw[fm,Nat.mod_eq_of_lt hqv]) ?_;refine ae.nil (qT 3 rfl ?_);rw[aI (x:=(j:Int) -1) (by omega) (by omega)];refine ae.nil ?_;have hr:U%V<V:=Nat.mod_lt _ hVp;obtain ⟨_,_,hd1,hd2⟩:=Co (w:=dg (n+3) (U%V)) huw (by omega) hVB hlt hU rfl hr;rw[← hu'] at hd1 hd2;refine⟨(j,u',q.set j (U / V)),rfl,⟨by omega,by rw[hu',ei (by omega) (aT _ _),hul],by rw[hu'];exact huw.put (fx _ _) _ _,by simpa using hql,hqw.set _ hqv,by rw[hd1];exact hr,?_⟩,by simp only[];omega⟩;simp only[];rw[BK (by omega),← hval];exact F9 hd2 (Nat.div_add_mod U V) (Nat.pow_succ ..)
 · have hk0:k=0:=by have:=ar h;omega
   subst hk0;simp only[List.drop_zero,Nat.pow_zero,Nat.one_mul] at hlt hval;have hsp:0<2^s:=Nat.pow_pos (by decide);obtain ⟨hq1,hr1⟩:=Gb hV hlt hval hsp;refine AW.exit (qX 1 rfl (ae.jh tok 11 rfl rfl ?_));refine qM rfl (bT q hqw (by omega)) ?_;refine qU 2 rfl (ae.F8 tok 10 rfl rfl ?_);have eu:((u.map wd).drop 0).take N=u.map wd:=by rw[List.drop_zero,List.take_of_length_le (by simp;omega)]
   rw[eu];refine qM rfl (uf u s huw (by omega) (by omega)) ?_;refine qU 2 rfl (ae.nil ?_);rw[hq1,hr1];exact AW.ret rfl
end Lift
namespace Lift
open Go Go.Proofs
abbrev Wh(g:Bool)(m:List Nat):D:= .ag [dB g,Wd m]
def iw(z:Int):List Nat:=tw z.natAbs
abbrev fa(z:Int):D:= .ag [dB (decide (z<0)),Wd (iw z)]
def L(z:Int):Nat:=(iw z).length
abbrev er(n:Int):D:= .v (.iface 81 (.int .i64 n))
abbrev aQ:D:= .v .nilIface
def iL(a b:Int):Int:=if a<b then -1 else if a=b then 0 else 1
def jJ(a:Int):Int:=if a<0 then -1 else if a=0 then 0 else 1
theorem bV(z:Int):a8 (iw z):=fr _
theorem tB(z:Int):Nm (iw z):=tA _
theorem cS(z:Int):nv (iw z)=z.natAbs:=ez _
theorem nP{z:Int}:iw z=[]↔z=0:=by
 rw[← jf (tB z),cS];omega
theorem uJ:iw 0=[]:=jW
theorem Mo:L 0=0:=by simp[L,uJ]
theorem D5{z:Int}{k:Nat}(h:z.natAbs<4294967296^k):L z≤k:=gL h
theorem Dl(z:Int):z.natAbs<4294967296^L z:=eV _
theorem n9{a b:Int}(h:a.natAbs≤b.natAbs):L a≤L b:=D5 (Nat.lt_of_le_of_lt h (Dl b))
theorem n0(a:Int):L (-a)=L a:=by simp[L,iw]
theorem Cz(a b:Int):L (a+b)≤max (L a) (L b)+1:=by
 refine D5 ?_;have h1:=Dl a;have h2:=Dl b;have h3:=iU (show L a≤max (L a) (L b) by omega);have h4:=iU (show L b≤max (L a) (L b) by omega);rw[Nat.pow_succ];omega
theorem fY(a b:Int):L (a*b)≤L a+L b:=by
 refine D5 ?_;rw[Int.natAbs_mul,Nat.pow_add];exact Nat.mul_lt_mul'' (Dl a) (Dl b)
theorem xb:L 1=1:=by
 have:iw 1=[1]:=by rw[iw,show (1:Int).natAbs=1 from rfl,u9 (by decide),show 1 / 4294967296=0 from rfl,jW]
 rw[L,this];rfl
theorem NA(n:Int)(h:n.natAbs≤9223372036854775808):L n≤2:=D5 (by omega)
theorem zX{m:List Nat}(hn:Nm m)(h:m≠[]):m.getD (m.length-1) 0≠0:=fun e=>hn (by
 have:0<m.length:=List.length_pos_iff.2 h;rw[List.getLast?_eq_getElem?,bP (by omega)]
 simpa[List.getD,show m.length-1<m.length by omega] using e)
theorem J1{m:List Nat}(h:m.getD (m.length-1) 0≠0):Nm m:=fun e=>by
 rw[List.getLast?_eq_getElem?] at e;rw[List.getD,e] at h;simp at h
def okW(g:Bool)(m:List Nat):Bool:=if m=[] then !g else m.getD (m.length-1) 0 != 0
theorem zO(z:Int):okW (decide (z<0)) (iw z)=true:=by
 unfold okW;by_cases h:iw z=[]
 · rw[if_pos h,nP.1 h];rfl
 · rw[if_neg h];simpa using zX (tB z) h
theorem fV(g:Bool)(m:List Nat)(hm:a8 m)(hl:m.length≤35000000000000):Pure Tryz.prog 146 [Wh g m] (dB (okW g m)):=by
 refine qJ 19 Tryz.func146 rfl rfl rfl rfl (by kernel_rfl) (fun B F0 w0=>?_);refine qX 2 rfl (qI (qX 4 rfl (ae.nil (AW.cond rfl (fun h=>?_) (fun h=>?_)))))
 · have h0:m=[]:=by simpa using h
   rw[okW,if_pos h0];exact qX 4 rfl (qN rfl)
 · have h0:m≠[]:=by simpa using h
   have hp:0<m.length:=List.length_pos_iff.2 h0;rw[okW,if_neg h0];refine AW.skip (qX 6 rfl ?_);rw[ba,aI (by omega) (by omega),show (m.length:Int) -1=((m.length-1:Nat):Int) by omega];refine ae.idx tok (wd (m.getD (m.length-1) 0)) rfl rfl rfl rfl (aj _) (bS (by omega)) ?_;refine qU 3 rfl (ae.nil ?_)
   have e:(m.getD (m.length-1) 0 != 0)=(((m.getD (m.length-1) 0:Nat):Int) != 0):=by
    rw[Bool.eq_iff_iff];simp
   rw[e];exact AW.ret rfl
theorem bt(z:Int)(hl:L z≤35000000000000):Pure Tryz.prog 163 [fa z] (Wd (iw z)):=by
 refine qJ 8 Tryz.func163 rfl rfl rfl rfl (by kernel_rfl) (fun B F0 w0=>?_);refine qX 2 rfl (qI (qX 1 rfl (qM rfl (fV (decide (z<0)) (iw z) (bV z) hl) ?_)));rw[zO];exact qU 1 rfl (ae.nil (AW.aH rfl (AW.skip (qX 3 rfl (qN rfl)))))
theorem bq(z:Int)(hl:L z≤35000000000000):Pure Tryz.prog 164 [fa z] (dB (decide (z<0))):=by
 refine qJ 9 Tryz.func164 rfl rfl rfl rfl (by kernel_rfl) (fun B F0 w0=>?_);refine qX 2 rfl (qK 1 rfl (qM rfl (fV (decide (z<0)) (iw z) (bV z) hl) ?_));rw[zO];exact qU 5 rfl (qN rfl)
def sg(g:Bool)(n:Nat):Int:=if g then -(n:Int) else n
theorem ou(g:Bool)(n:Nat):(sg g n).natAbs=n:=by unfold sg;split<;>omega
theorem KH(g:Bool)(n:Nat):iw (sg g n)=tw n:=by rw[iw,ou]
theorem G2(g:Bool)(n:Nat):decide (sg g n<0)=(g&&decide (n≠0)):=by
 rw[Bool.eq_iff_iff];unfold sg;cases g<;>simp;omega
theorem CY(z:Int):sg (decide (z<0)) z.natAbs=z:=by
 unfold sg;split
 · rename_i h;have:=ao h;omega
 · rename_i h;have:=ar (by simpa using h:decide (z<0)=false);omega
theorem CK(g:Bool)(n:Nat):fa (sg g n)=Wh (g&&decide (n≠0)) (tw n):=by
 rw[fa,G2,KH]
theorem iW(g:Bool)(m:List Nat)(hm:a8 m)(hl:m.length≤35000000000000):Pure Tryz.prog 165 [dB g,Wd m] (fa (sg g (nv m))):=by
 refine qJ 15 Tryz.func165 rfl rfl rfl rfl (by kernel_rfl) (fun B F0 w0=>?_);refine qX 1 rfl (qK 1 rfl (qM rfl (bT m hm hl) ?_));refine qU 1 rfl (qI ?_)
 have hz:decide (((tw (nv m)).map wd).length>(0:Int))=decide (nv m≠0):=by
  rw[Bool.eq_iff_iff,ba];have:=jf (tA (nv m));rw[ez] at this;simp[this];exact List.length_pos_iff
 refine qT 2 rfl ?_;refine ae.split (t:=8) rfl (fun h=>?_) (fun h=>?_)
 · subst h;refine qU 7 rfl (ae.nil ?_);rw[hz,CK,Bool.true_and];exact AW.ret rfl
 · subst h;refine qU 7 rfl (ae.nil ?_);rw[CK,Bool.false_and];exact AW.ret rfl
theorem sJ(g:Bool)(z:Int)(hl:L z≤35000000000000):Pure Tryz.prog 165 [dB g,Wd (iw z)] (fa (sg g z.natAbs)):=by
 have:=iW g (iw z) (bV z) hl
 rwa [cS] at this
theorem cG(g:Bool)(n:Nat)(hl:(tw n).length≤35000000000000):Pure Tryz.prog 165 [dB g,Wd (tw n)] (fa (sg g n)):=by
 have:=iW g (tw n) (fr n) hl
 rwa [ez] at this
theorem xU(m:Nat)(h:m<18446744073709551616):nv [m%4294967296,m / 4294967296%4294967296]=m:=by
 simp only[nv];omega
theorem MS(m:Nat)(h0:0<m)(h:m≤18446744073709551616):IntKind.u64.wrap (0-(m:Int))=((18446744073709551616-m:Nat):Int):=by
 simp only[IntKind.wrap,IntKind.bits,IntKind.signed];simp;omega
theorem Iq(n:Int)(h0:n<0)(h: -9223372036854775808≤n):IntKind.u64.wrap n=((18446744073709551616-n.natAbs:Nat):Int):=by
 simp only[IntKind.wrap,IntKind.bits,IntKind.signed];simp;omega
theorem pe(n:Int)(h0: -9223372036854775808≤n)(h1:n≤9223372036854775807):Pure Tryz.prog 151 [dI n] (fa n):=by
 refine qJ 19 Tryz.func151 rfl rfl rfl rfl (by kernel_rfl) (fun B F0 w0=>?_)
 have hfin: ∀(m:Nat),m<18446744073709551616→m=n.natAbs→Pure Tryz.prog 165 [dB (decide (n<0)),Wd [m%4294967296,m / 4294967296%4294967296]] (fa n):=fun m hm he=>by
  have:=iW (decide (n<0)) [m%4294967296,m / 4294967296%4294967296] (a8.cons.2 ⟨Nat.mod_lt _ (by decide),a8.cons.2 ⟨Nat.mod_lt _ (by decide),a8.nil⟩⟩) (by simp);rw[xU m hm,he,CY] at this;rw[he];exact this
 refine qX 1 rfl (qK 3 rfl (ae.nil ?_));refine AW.cut [0,2,3] (fun _:Unit=>[(0,.d (dI n)),(2,.bx [dB false,.sl 1 []]),(3,.d (dU n.natAbs))]) (fun _=>True) ?_ (fun _ _=>?_)
 · refine qX 2 rfl (ae.nil (AW.cond rfl (fun h=>?_) (fun h=>?_)))
   · have hn:=ao h;refine qT 3 rfl ?_;rw[Iq n hn h0,MS _ (by omega) (by omega),show 18446744073709551616-(18446744073709551616-n.natAbs)=n.natAbs by omega];refine ae.nil ?_;exact⟨(),rfl,trivial⟩
   · have hn:=ar h;refine AW.skip ?_;rw[tR (x:=n) (by omega) (by omega)];exact⟨(),by rw[show ((n.natAbs:Nat):Int)=n by omega];rfl,trivial⟩
 · refine qX 7 rfl ?_;rw[fm,kq,fm];refine ae.bs tok rfl rfl rfl rfl ?_;refine ae.jh tok 17 rfl rfl ?_;refine qM rfl (hfin n.natAbs (by omega) rfl) ?_;exact qU 1 rfl (qN rfl)
theorem da(z:Int)(hl:L z≤35000000000000):Pure Tryz.prog 127 [fa z] (dI (jJ z)):=by
 refine qJ 11 Tryz.func127 rfl rfl rfl rfl (by kernel_rfl) (fun B F0 w0=>?_);refine qX 2 rfl (qI (AW.block (qX 1 rfl (qM rfl (bt z hl) ?_))));refine qU 3 rfl (ae.nil (AW.cond rfl (fun h=>?_) (fun h=>?_)))
 · have h0:z=0:=nP.1 (by simpa using h);rw[show jJ z=0 by subst h0;rfl];exact qX 1 rfl (qN rfl)
 · have h0:z≠0:=fun e=>by rw[nP.2 e] at h;cases h
   refine qX 3 rfl (ae.nil (AW.cond rfl (fun h=>?_) (fun h=>?_)))
   · have hn:=ao h;rw[show jJ z= -1 by unfold jJ;rw[if_pos hn]];exact qX 1 rfl (qN rfl)
   · have hn:=ar h;rw[show jJ z=1 by unfold jJ;rw[if_neg hn,if_neg h0]];exact AW.skip (qX 1 rfl (qN rfl))
theorem E4(x y:Int):iZ (nv (iw x)) (nv (iw y))=iL x.natAbs y.natAbs:=by
 rw[cS,cS];unfold iZ iL
 repeat' split
 all_goals first | rfl | omega
theorem wO(x y:Int)(hx:L x≤35000000000000):Pure Tryz.prog 167 [Wd (iw x),Wd (iw y)] (dI (iL x.natAbs y.natAbs)):=by
 rw[← E4];exact kD (iw x) (iw y) (bV x) (bV y) (tB x) (tB y) hx
theorem Ge{x y:Int}(h:jJ x≠jJ y):iL x y=if jJ x<jJ y then -1 else 1:=by
 unfold jJ at h ⊢;unfold iL
 repeat' split at h
 all_goals first | (exact absurd rfl h) | skip
 all_goals (repeat' split)
 all_goals first | rfl | omega
theorem Iy{x y:Int}(h:jJ x=jJ y):iL x y=if x<0 then -(iL x.natAbs y.natAbs) else iL x.natAbs y.natAbs:=by
 unfold jJ at h;unfold iL
 repeat' split at h
 all_goals first | (cases h;done) | skip
 all_goals (repeat' split)
 all_goals first | rfl | omega
theorem DV(x y:Int):iL x y= -1∨iL x y=0∨iL x y=1:=by
 unfold iL;repeat' split
 all_goals simp
theorem nS(x y:Int)(hx:L x≤35000000000000)(hy:L y≤35000000000000):Pure Tryz.prog 147 [fa x,fa y] (dI (iL x y)):=by
 refine qJ 28 Tryz.func147 rfl rfl rfl rfl (by kernel_rfl) (fun B F0 w0=>?_);refine qX 3 rfl (qI (AW.seq (AW.draw aS 4 (by kernel_rfl) ?_)));refine qP 1 rfl (qQ rfl (da x hx) ?_);refine qP 1 rfl (qQ rfl (da y hy) ?_);refine ah.nil (qU 2 rfl (qK 3 rfl (ae.nil (AW.cond rfl (fun h=>?_) (fun h=>?_)))))
 · have hne:jJ x≠jJ y:=by simpa using h
   rw[Ge hne];refine AW.seq (qX 3 rfl (ae.nil (AW.cond rfl (fun h=>?_) (fun h=>?_))))
   · rw[if_pos (ao h)];exact qX 1 rfl (qN rfl)
   · rw[if_neg (ar h)];exact AW.skip (qX 1 rfl (qN rfl))
 · have heq:jJ x=jJ y:=by simpa using h
   rw[Iy heq];refine AW.skip (AW.seq (AW.draw aS 5 (by kernel_rfl) ?_));refine qP 1 rfl (qQ rfl (bt x hx) ?_);refine qP 1 rfl (qQ rfl (bt y hy) ?_);refine qQ rfl (wO x y hx) ?_;refine ah.nil (qU 1 rfl (qI (qX 1 rfl (qM rfl (bq x hx) ?_))));refine ae.nil (AW.cond rfl (fun h=>?_) (fun h=>?_))
   · rw[if_pos (ao h)];refine qX 3 rfl ?_;have hr:=DV x.natAbs y.natAbs;rw[aI (by omega) (by omega),Int.zero_sub];exact qN rfl
   · rw[if_neg (ar h)];exact AW.skip (qX 2 rfl (qN rfl))
end Lift
namespace Lift
open Go Go.Proofs
theorem G1(z:Int):sg (!decide (z<0)) z.natAbs= -z:=by
 unfold sg;by_cases h:z<0
 · simp[h];omega
 · simp[h];omega
theorem iA(z:Int)(hl:L z≤35000000000000):Pure Tryz.prog 161 [fa z] (fa (-z)):=by
 refine qJ 9 Tryz.func161 rfl rfl rfl rfl (by kernel_rfl) (fun B F0 w0=>?_);refine qX 2 rfl (qI (AW.draw aS 6 (by kernel_rfl) ?_));refine qP 1 rfl (qQ rfl (bq z hl) ?_);refine qP 2 rfl (qQ rfl (bt z hl) ?_);refine qQ rfl (sJ (!decide (z<0)) z hl) ?_;refine ah.nil (qU 1 rfl (ae.nil ?_));rw[G1];exact AW.ret rfl
theorem JI(x y:Int)(hx:L x≤34900000000000)(hy:L y≤34900000000000):Pure Tryz.prog 166 [Wd (iw x),Wd (iw y)] (Wd (tw (x.natAbs+y.natAbs))):=by
 have:=mQ (iw x) (iw y) (bV x) (bV y) hx hy
 rwa [cS,cS] at this
theorem EJ(x y:Int)(hx:L x≤34900000000000)(hle:y.natAbs≤x.natAbs):Pure Tryz.prog 168 [Wd (iw x),Wd (iw y)] (Wd (tw (x.natAbs-y.natAbs))):=by
 have:=mR (iw x) (iw y) (bV x) (bV y) hx (by rwa [cS,cS])
 rwa [cS,cS] at this
theorem GD(x y:Int)(hx:L x≤17450000000000)(hy:L y≤17450000000000):Pure Tryz.prog 169 [Wd (iw x),Wd (iw y)] (Wd (tw (x.natAbs*y.natAbs))):=by
 have:=sK (iw x) (iw y) (bV x) (bV y) hx hy
 rwa [cS,cS] at this
theorem yS(x y:Int)(hx:L x≤34800000000000)(hy:L y≤34800000000000)(h0:y≠0):Pure Tryz.prog 191 [Wd (iw x),Wd (iw y)] (.tu [Wd (tw (x.natAbs / y.natAbs)),Wd (tw (x.natAbs%y.natAbs))]):=by
 have:=rr (iw x) (iw y) (bV x) (bV y) (tB x) (tB y) hx hy (fun e=>h0 (nP.1 e))
 rwa [cS,cS] at this
theorem jO{n:Nat}{z:Int}(h:n≤z.natAbs):(tw n).length≤L z:=gL (Nat.lt_of_le_of_lt h (Dl z))
theorem EL(x y:Int):(tw (x.natAbs+y.natAbs)).length≤max (L x) (L y)+1:=by
 have:=Cz (x.natAbs:Int) (y.natAbs:Int);simpa[L,iw,Int.natAbs_add_of_nonneg] using this
theorem EK(x y:Int):(tw (x.natAbs*y.natAbs)).length≤L x+L y:=by
 have:=fY x y
 rwa [L,iw,Int.natAbs_mul] at this
theorem add_same{a b:Int}(h:decide (a<0)=decide (b<0)):sg (decide (a<0)) (a.natAbs+b.natAbs)=a+b:=by
 unfold sg;by_cases ha:a<0<;>by_cases hb:b<0<;>simp[ha,hb] at h ⊢ <;>omega
theorem AE{a b:Int}(h:decide (a<0)≠decide (b<0))(hc:b.natAbs≤a.natAbs):sg (decide (a<0)) (a.natAbs-b.natAbs)=a+b:=by
 unfold sg;by_cases ha:a<0<;>by_cases hb:b<0<;>simp[ha,hb] at h ⊢ <;>omega
theorem E6{a b:Nat}(h:(0:Int)≤iL a b):b≤a:=by
 unfold iL at h;split at h<;>omega
theorem E5{a b:Nat}(h: ¬(0:Int)≤iL a b):a<b:=by
 unfold iL at h;split at h
 · omega
 · split at h<;>omega
set_option maxHeartbeats 400000 in
theorem wk(a b:Int)(ha:L a≤34900000000000)(hb:L b≤34900000000000):Pure Tryz.prog 125 [fa a,fa b] (fa (a+b)):=by
 refine qJ 40 Tryz.func125 rfl rfl rfl rfl (by kernel_rfl) (fun B F0 w0=>?_);refine qX 3 rfl (qI (AW.draw aS 4 (by kernel_rfl) ?_));refine qP 1 rfl (qQ rfl (bt a (by omega)) ?_);refine qP 1 rfl (qQ rfl (bt b (by omega)) ?_);refine ah.nil (qU 2 rfl (ae.nil (AW.norm [2,3,4,5,6] [(2,.bx [dB (decide (a<0)),Wd (iw a)]),(3,.bx [dB (decide (b<0)),Wd (iw b)]),(4,.bx [dB false,.sl 1 []]),(5,.d (Wd (iw a))),(6,.d (Wd (iw b)))] rfl ?_)));refine AW.seq (AW.block (AW.seq (AW.draw aS 5 (by kernel_rfl) ?_)));refine qP 1 rfl (qQ rfl (bq a (by omega)) ?_);refine qP 1 rfl (qQ rfl (bq b (by omega)) ?_);refine ah.be tok rfl rfl rfl rfl rfl ?_;refine ah.nil (qU 1 rfl (ae.nil (AW.norm [2,3,4,5,6,11] [(2,.bx [dB (decide (a<0)),Wd (iw a)]),(3,.bx [dB (decide (b<0)),Wd (iw b)]),(4,.bx [dB false,.sl 1 []]),(5,.d (Wd (iw a))),(6,.d (Wd (iw b))),(11,.d (dB ((decide (a<0)==decide (b<0))==true)))] rfl ?_)));refine AW.cond rfl (fun h=>?_) (fun h=>?_)
 · have he:decide (a<0)=decide (b<0):=by simpa using h
   rw[← add_same he];have hl:=EL a b;refine qX 1 rfl (qM rfl (bq a (by omega)) ?_);refine qU 2 rfl (qM rfl (JI a b ha hb) ?_);refine qM rfl (cG (decide (a<0)) _ (by omega)) ?_;exact qU 1 rfl (qN rfl)
 · have he:decide (a<0)≠decide (b<0):=by simpa using h
   refine qX 2 rfl (qM rfl (wO a b (by omega)) ?_);refine qU 2 rfl (ae.nil (AW.cond rfl (fun h=>?_) (fun h=>?_)))
   · have hc:=E6 (ao h);rw[← AE he hc];have hl:=jO (z:=a) (n:=a.natAbs-b.natAbs) (by omega);refine qX 1 rfl (qM rfl (bq a (by omega)) ?_);refine qU 2 rfl (qM rfl (EJ a b ha hc) ?_);refine qM rfl (cG (decide (a<0)) _ (by omega)) ?_;exact qU 1 rfl (qN rfl)
   · have hc:=E5 (ar h);rw[Int.add_comm,← AE (Ne.symm he) (Nat.le_of_lt hc)];have hl:=jO (z:=b) (n:=b.natAbs-a.natAbs) (by omega);refine AW.skip (qX 1 rfl (qM rfl (bq b (by omega)) ?_));refine qU 2 rfl (qM rfl (EJ b a hb (by omega)) ?_);refine qM rfl (cG (decide (b<0)) _ (by omega)) ?_;exact qU 1 rfl (qN rfl)
theorem HE(a b:Int):sg ((decide (a<0)==decide (b<0))==false) (a.natAbs*b.natAbs)=a*b:=by
 have h:=Int.natAbs_mul a b;rw[← h];by_cases ha:a<0<;>by_cases hb:b<0
 · have:0<a*b:=Int.mul_pos_of_neg_of_neg ha hb;simp[ha,hb,sg];omega
 · have:a*b≤0:=Int.mul_nonpos_of_nonpos_of_nonneg (by omega) (by omega);simp[ha,hb,sg];omega
 · have:a*b≤0:=Int.mul_nonpos_of_nonneg_of_nonpos (by omega) (by omega);simp[ha,hb,sg];omega
 · have:0≤a*b:=Int.mul_nonneg (by omega) (by omega);simp[ha,hb,sg];omega
theorem b7(a b:Int)(ha:L a≤17450000000000)(hb:L b≤17450000000000):Pure Tryz.prog 126 [fa a,fa b] (fa (a*b)):=by
 refine qJ 16 Tryz.func126 rfl rfl rfl rfl (by kernel_rfl) (fun B F0 w0=>?_);have hl:=EK a b;refine qX 3 rfl (qI (AW.draw aS 11 (by kernel_rfl) ?_));refine qP 1 rfl (qQ rfl (bq a (by omega)) ?_);refine qP 1 rfl (qQ rfl (bq b (by omega)) ?_);refine ah.be tok rfl rfl rfl rfl rfl ?_;refine qP 1 rfl (qQ rfl (bt a (by omega)) ?_);refine qP 1 rfl (qQ rfl (bt b (by omega)) ?_);refine qQ rfl (GD a b ha hb) ?_;refine qQ rfl (cG ((decide (a<0)==decide (b<0))==false) _ (by omega)) ?_;refine ah.nil (qU 1 rfl (ae.nil ?_));rw[HE];exact AW.ret rfl
theorem rT(n:Nat):((((tw n).map wd).length:Int)>0)↔n≠0:=by
 have h:=jf (tA n);rw[ez] at h;rw[ba,Ne,h];exact Iff.trans (by omega) List.length_pos_iff
theorem B6(n:Nat):(tw (n+1)).length≤(tw n).length+1:=gL (by
 have:=eV n
 rw[Nat.pow_succ];omega)
theorem L3{a b q r:Int}(h:b*q+r=a)(h0:0≤r)(h1:r<b.natAbs):a / b=q∧a%b=r:=by
 have key: ∀(b q:Int),0<b→b*q+r=a→r<b→a / b=q∧a%b=r:=fun b q hb h h1=>by
  subst h;have e:(b*q+r)%b=r:=by rw[Int.add_comm,Int.add_mul_emod_self_left,Int.emod_eq_of_lt h0 h1]
  refine⟨?_,e⟩;rw[Int.add_comm,Int.add_mul_ediv_left _ _ (by omega),Int.ediv_eq_zero_of_lt h0 h1,Int.zero_add]
 by_cases hb:0<b
 · exact key b q hb h (by omega)
 · have h2:=key (-b) (-q) (by omega) (by rw[Int.neg_mul_neg];exact h) (by omega);rw[Int.ediv_neg,Int.emod_neg] at h2;exact⟨by omega,h2.2⟩
theorem At{a b:Int}(hb:b≠0)(m n:Nat)(h:(a<0∧a.natAbs%b.natAbs≠0∧m=a.natAbs / b.natAbs+1∧n=b.natAbs-a.natAbs%b.natAbs)∨((0≤a∨a.natAbs%b.natAbs=0)∧m=a.natAbs / b.natAbs∧n=a.natAbs%b.natAbs)):
  sg ((decide (a<0)==decide (b<0))==false) m=a / b∧sg false n=a%b:=by
 have hlt:a.natAbs%b.natAbs<b.natAbs:=Nat.mod_lt _ (by omega);have hdm:=Nat.div_add_mod a.natAbs b.natAbs;have hnn:sg false n=(n:Int):=rfl;rw[hnn];generalize a.natAbs / b.natAbs=q0 at h hdm;generalize a.natAbs%b.natAbs=r0 at h hdm hlt
 have hs: ∀g:Bool,b*sg g m=if ((decide (b<0))==g) then ((b.natAbs*m:Nat):Int) else -((b.natAbs*m:Nat):Int):=fun g=>by
  rw[Int.natCast_mul];unfold sg;by_cases h:b<0
  · have e:b= -(b.natAbs:Int):=by omega
    cases g<;>simp[h]<;>(conv=>lhs;rw[e])<;>simp[Int.neg_mul,Int.mul_neg]
  · have e:b=(b.natAbs:Int):=by omega
    cases g<;>simp[h]<;>(conv=>lhs;rw[e])<;>simp[Int.neg_mul,Int.mul_neg]
 refine(fun h=>⟨h.1.symm,h.2.symm⟩) (L3 (q:=sg ((decide (a<0)==decide (b<0))==false) m) (r:=(n:Int)) ?_ (by omega) ?_)
 · rw[hs]
   have hg:(decide (b<0)==((decide (a<0)==decide (b<0))==false))= !decide (a<0):=by
    by_cases h1:a<0<;>by_cases h2:b<0<;>simp[h1,h2]
   rw[hg];rcases h with ⟨h1,h2,rfl,rfl⟩ | ⟨h1,rfl,rfl⟩
   · rw[Nat.mul_add,Nat.mul_one];generalize b.natAbs*q0=p at hdm ⊢;simp only[h1,decide_true,Bool.not_true,Bool.false_eq_true,if_false];omega
   · generalize b.natAbs*m=p at hdm ⊢;by_cases ha:a<0
     · simp only[ha,decide_true,Bool.not_true,Bool.false_eq_true,if_false];omega
     · simp only[ha,decide_false,Bool.not_false,if_true];omega
 · rcases h with ⟨h1,h2,rfl,rfl⟩ | ⟨h1,rfl,rfl⟩<;>omega
set_option maxHeartbeats 800000 in
theorem nR(a b:Int)(ha:L a≤34800000000000)(hb:L b≤34800000000000)(h0:b≠0):Pure Tryz.prog 162 [fa a,fa b] (.tu [fa (a / b),fa (a%b),aQ]):=by
 refine qJ 47 Tryz.func162 rfl rfl rfl rfl (by kernel_rfl) (fun B F0 w0=>?_);refine qX 5 rfl (qK 1 rfl (qM rfl (bt b (by omega)) ?_));refine qU 1 rfl (qI (qX 3 rfl ?_))
 have hne:(((iw b).map wd).length:Int)≠0:=by
  have:iw b≠[]:=fun e=>h0 (nP.1 e);have:=List.length_pos_iff.2 this;rw[ba];omega
 rw[show ((((iw b).map wd).length:Int)==0)=false by simpa using hne];refine ae.nil (AW.aH rfl (AW.skip (qX 1 rfl (qM rfl (bt a (by omega)) ?_))));refine qU 1 rfl (qM rfl (yS a b ha hb h0) ?_);refine qU 5 rfl (ae.nil ?_);have hlt:a.natAbs%b.natAbs<b.natAbs:=Nat.mod_lt _ (by omega);have hdl:a.natAbs / b.natAbs≤a.natAbs:=Nat.div_le_self _ _;have hr0:=rT (a.natAbs%b.natAbs);have hl1:=jO (z:=a) hdl;have hl2:=jO (z:=b) (n:=a.natAbs%b.natAbs) (by omega)
 refine AW.cut [2,3,4,5,8,9] (fun s:Nat×Nat=>[(2,.bx [dB (decide (a<0)),Wd (iw a)]),(3,.bx [dB (decide (b<0)),Wd (iw b)]),(4,.bx [dB false,.sl 1 []]),(5,.bx [dB false,.sl 1 []]),(8,.d (Wd (tw s.1))),(9,.d (Wd (tw s.2)))])
  (fun s=>(tw s.1).length≤34800000000002∧(tw s.2).length≤34800000000002∧sg ((decide (a<0)==decide (b<0))==false) s.1=a / b∧sg false s.2=a%b) ?_ (fun (m,n) ⟨hm,hn,hq,hr⟩=>?_)
 · refine AW.cut [2,3,4,5,7,8,9,31] (fun c:Bool=>[(2,.bx [dB (decide (a<0)),Wd (iw a)]),(3,.bx [dB (decide (b<0)),Wd (iw b)]),(4,.bx [dB false,.sl 1 []]),(5,.bx [dB false,.sl 1 []]),(7,.d (Wd (iw b))),(8,.d (Wd (tw (a.natAbs / b.natAbs)))),(9,.d (Wd (tw (a.natAbs%b.natAbs)))),(31,.d (dB c))])
    (fun c=>(c=true→a<0∧a.natAbs%b.natAbs≠0)∧(c=false→0≤a∨a.natAbs%b.natAbs=0)) ?_ (fun c ⟨ht,hf⟩=>?_)
   · refine qT 1 rfl (qM rfl (bq a (by omega)) ?_);refine qU 1 rfl ?_;refine ae.split (t:=27) rfl (fun h=>?_) (fun h=>?_)
     · have hneg:=ao h;refine qU 4 rfl (ae.nil ?_);refine⟨_,rfl,⟨fun h=>⟨hneg,hr0.1 (ao h)⟩,fun h=> .inr ?_⟩⟩;have:=ar h;rw[hr0] at this;exact Decidable.not_not.1 this
     · have hneg:=ar h;refine qU 4 rfl (ae.nil ?_);exact⟨false,rfl,⟨(fun h=>by cases h),fun _=> .inl (by omega)⟩⟩
   · refine AW.cond rfl (fun h=>?_) (fun h=>?_)
     · subst h;obtain ⟨hneg,hrn⟩:=ht rfl;have hl3:=B6 (a.natAbs / b.natAbs);refine qT 1 rfl (ae.bs tok rfl rfl rfl rfl ?_);refine ae.jh tok 33 rfl rfl ?_;refine qM rfl (mQ (tw (a.natAbs / b.natAbs)) [1] (fr _) (a8.cons.2 ⟨by decide,a8.nil⟩) (by omega) (by decide)) ?_;refine qU 2 rfl ?_;refine qM rfl (mR (iw b) (tw (a.natAbs%b.natAbs)) (bV b) (fr _) (Nat.le_trans hb (by decide)) (by rw[ez,cS];omega)) ?_;rw[ez,ez,cS,show nv [1]=1 from rfl];refine qU 2 rfl (ae.nil ?_);exact⟨(a.natAbs / b.natAbs+1,b.natAbs-a.natAbs%b.natAbs),rfl,⟨Nat.le_trans hl3 (by omega),Nat.le_trans (jO (z:=b) (by simp only[];omega)) (by omega),At h0 _ _ (.inl ⟨hneg,hrn,rfl,rfl⟩)⟩⟩
     · subst h;refine AW.skip ?_;exact⟨(a.natAbs / b.natAbs,a.natAbs%b.natAbs),rfl,⟨by simp only[];omega,by simp only[];omega,At h0 _ _ (.inr ⟨hf rfl,rfl,rfl⟩)⟩⟩
 · simp only[] at hm hn hq hr;refine AW.seq (AW.draw aS 9 (by kernel_rfl) ?_);refine qP 1 rfl (qQ rfl (bq a (by omega)) ?_);refine qP 1 rfl (qQ rfl (bq b (by omega)) ?_);refine ah.be tok rfl rfl rfl rfl rfl ?_;refine qP 1 rfl (qQ rfl (cG ((decide (a<0)==decide (b<0))==false) m (by omega)) ?_);refine qP 1 rfl (qQ rfl (cG false n (by omega)) ?_);refine ah.nil (qU 3 rfl (ae.nil ?_));rw[hq,hr];exact AW.ret rfl
theorem nQ(a b:Int)(ha:L a≤34800000000000)(hb:L b≤34800000000000):Pure Tryz.prog 148 [fa a,fa b] (fa (Nat.gcd a.natAbs b.natAbs)):=by
 refine qJ 26 Tryz.func148 rfl rfl rfl rfl (by kernel_rfl) (fun B F0 w0=>?_);refine qX 3 rfl (qI (AW.draw aS 4 (by kernel_rfl) ?_));refine qP 1 rfl (qQ rfl (bt a (by omega)) ?_);refine qP 1 rfl (qQ rfl (bt b (by omega)) ?_);refine ah.nil (qU 2 rfl (qI (AW.block ?_)))
 refine AW.aL [4,5,6] (fun s:Nat×Nat=>[(4,.bx [dB false,.sl 1 []]),(5,.d (Wd (tw s.1))),(6,.d (Wd (tw s.2)))])
  (fun s=>(tw s.1).length≤34800000000000∧(tw s.2).length≤34800000000000∧Nat.gcd s.1 s.2=Nat.gcd a.natAbs b.natAbs) (fun s=>s.2) (a.natAbs,b.natAbs) rfl ⟨ha,hb,rfl⟩ (fun (x,y) ⟨hx,hy,hg⟩=>?_)
 simp only[] at hx hy hg;have hy0:=rT y;refine AW.seq (qX 3 rfl (ae.nil (AW.cond rfl (fun h=>?_) (fun h=>?_))))
 · have hyn:=hy0.1 (ao h);refine AW.skip (AW.block (qX 2 rfl (qM rfl (yS (x:Int) (y:Int) hx hy (by omega)) ?_)));refine qU 5 rfl (ae.nil (qT 4 rfl (ae.nil ?_)));have hlt:x%y<y:=Nat.mod_lt _ (by omega);exact⟨(y,x%y),rfl,⟨hy,Nat.le_trans (jO (z:=(y:Int)) (by simp only[];omega)) hy,by simp only[];rw[← hg,Nat.gcd_comm x y,Nat.gcd_rec y x,Nat.gcd_comm]⟩,hlt⟩
 · have hy1:y=0:=Decidable.not_not.1 (fun hn=>(ar h) (hy0.2 hn));subst hy1;rw[Nat.gcd_zero_right] at hg;refine AW.exit (qX 1 rfl (qM rfl (cG false x (by omega)) ?_));refine qU 1 rfl (ae.nil ?_);rw[hg];exact AW.ret rfl
end Lift
namespace Lift
open Go Go.Proofs
structure RD where
 g:Bool
 n:List Nat
 d:List Nat
abbrev RD.D(r:RD):D:= .ag [dB r.g,Wd r.n,Wd r.d]
def RD.w(r:RD)(k:Nat):Prop:=a8 r.n∧a8 r.d∧r.n.length≤k∧r.d.length≤k
def RD.okB(r:RD):Bool:=if r.n=[]∧r.d=[] then !r.g else decide (r.n≠[]∧r.d≠[]∧okW false r.n=true∧okW false r.d=true∧Nat.gcd (nv r.n) (nv r.d)=1)
def RD.val(r:RD):Rat:=if r.okB=true then Rat.divInt (sg r.g (nv r.n)) (nv r.d) else 0
def Qr(q:Rat):RD:=⟨decide (q.num<0),iw q.num,if q.num=0 then [] else tw q.den⟩
def LQ(q:Rat):Nat:=max (L q.num) (tw q.den).length
theorem RD.w.mono{r:RD}{k m:Nat}(h:r.w k)(hk:k≤m):r.w m:=⟨h.1,h.2.1,Nat.le_trans h.2.2.1 hk,Nat.le_trans h.2.2.2 hk⟩
theorem Jz(g:Bool):sg g 0=0:=by cases g<;>rfl
theorem RD.oe{r:RD}(h:r.n=[]):r.val=0:=by
 unfold RD.val;split
 · rw[h,show nv []=0 from rfl,Jz,Rat.zero_divInt]
 · rfl
theorem RD.uw{r:RD}(h:r.okB=false):r.val=0:=by
 unfold RD.val;rw[h];rfl
theorem sf{m:List Nat}(h:okW false m=true):Nm m:=by
 unfold okW at h;split at h
 · rename_i h0;rw[h0];simp[Nm]
 · exact J1 (by simpa using h)
theorem GB{m:Nat}(h:m≠0):tw m≠[]:=fun e=>h (by rw[← ez m,e];rfl)
theorem RD.parts{r:RD}{k:Nat}(hw:r.w k)(h:r.okB=true)(hn:r.n≠[]):
  r.val.num=sg r.g (nv r.n)∧r.val.den=nv r.d∧r.g=decide (r.val.num<0)∧r.n=iw r.val.num∧r.d=tw r.val.den∧r.val.num≠0:=by
 have h':=h;unfold RD.okB at h;rw[if_neg (fun e=>hn e.1)] at h;obtain ⟨_,hd,hok1,hok2,hg⟩:=ao h
 have hv:r.val=Rat.divInt (sg r.g (nv r.n)) (nv r.d):=by
  unfold RD.val;rw[if_pos h']
 have nn:=sf hok1;have nd:=sf hok2;have hd0:nv r.d≠0:=fun e=>hd ((jf nd).1 e);have hn0:nv r.n≠0:=fun e=>hn ((jf nn).1 e)
 have hgcd:Int.gcd (nv r.d:Int) (sg r.g (nv r.n))=1:=by
  rw[Int.gcd,ou,Int.natAbs_natCast,Nat.gcd_comm];exact hg
 have h1:r.val.num=sg r.g (nv r.n):=by
  rw[hv,Rat.num_divInt,hgcd,Int.sign_eq_one_of_pos (by omega)];simp
 have h2:r.val.den=nv r.d:=by
  rw[hv,Rat.den_divInt,if_neg (by omega),hgcd];simp
 refine⟨h1,h2,?_,?_,?_,?_⟩
 · rw[h1,G2];simp[hn0]
 · rw[h1,KH,AU hw.1 nn]
 · rw[h2,AU hw.2.1 nd]
 · rw[h1];intro e;have:=ou r.g (nv r.n);rw[e] at this;exact hn0 this.symm
theorem Cx(q:Rat):(Qr q).okB=true:=by
 unfold Qr RD.okB;by_cases h:q.num=0
 · simp[h,uJ]
 · have h1:iw q.num≠[]:=fun e=>h (nP.1 e);have h2:tw q.den≠[]:=GB q.den_nz;simp only[h,if_false,h1,h2,false_and,ne_eq,not_false_eq_true,true_and,decide_eq_true_eq];have k1:okW false (iw q.num)=true:=by unfold okW;rw[if_neg h1];simpa using zX (tB _) h1
   have k2:okW false (tw q.den)=true:=by unfold okW;rw[if_neg h2];simpa using zX (tA _) h2
   exact⟨k1,k2,by rw[cS,ez];exact q.reduced⟩
theorem dk(q:Rat):(Qr q).val=q:=by
 unfold RD.val;rw[Cx];simp only[if_true];show Rat.divInt (sg (decide (q.num<0)) (nv (iw q.num))) (nv (if q.num=0 then [] else tw q.den))=q;rw[cS,CY];split
 · rename_i h;rw[h,Rat.zero_divInt];exact(Rat.num_eq_zero.1 h).symm
 · rw[ez];exact Rat.num_divInt_den q
theorem iG(q:Rat){k:Nat}(h:LQ q≤k):(Qr q).w k:=by
 unfold LQ L at h;refine⟨bV _,?_,by show (iw q.num).length≤k;omega,?_⟩
 · show a8 (if q.num=0 then [] else tw q.den);split
   · exact a8.nil
   · exact fr _
 · show (if q.num=0 then [] else tw q.den).length≤k;split
   · simp
   · omega
theorem jm:LQ 0=1:=by
 have h:=xb;rw[L,iw] at h;unfold LQ;rw[show (0:Rat).num=0 from rfl,Mo,show (0:Rat).den=(1:Int).natAbs from rfl,h];rfl
theorem cF{r:RD}{k:Nat}(h:r.w k)(hk:1≤k):LQ r.val≤k:=by
 by_cases hn:r.n=[]
 · rw[RD.oe hn,jm];exact hk
 · cases ho:r.okB with
   | false=>rw[RD.uw ho,jm];exact hk
   | true =>
     obtain ⟨_,_,_,h4,h5,_⟩:=RD.parts h ho hn;have h1:=h.2.2.1;have h2:=h.2.2.2;rw[h4] at h1;rw[h5] at h2;unfold LQ L;omega
theorem j8(q:Rat):L q.num≤LQ q:=by unfold LQ;omega
theorem kL(q:Rat):L (q.den:Int)≤LQ q:=by unfold LQ L iw;rw[Int.natAbs_natCast];omega
theorem wv{n d:Int}(hd:0<d):(Rat.divInt n d).num=n / (Nat.gcd n.natAbs d.natAbs:Int)∧((Rat.divInt n d).den:Int)=d / (Nat.gcd n.natAbs d.natAbs:Int):=by
 have hg:Int.gcd d n=Nat.gcd n.natAbs d.natAbs:=by rw[Int.gcd,Nat.gcd_comm]
 rw[Rat.num_divInt,Rat.den_divInt,if_neg (by omega),hg,Int.sign_eq_one_of_pos hd,Int.one_mul];refine⟨rfl,?_⟩;rw[Int.natCast_ediv]
 congr 1
 omega
theorem l0(n d:Int)(hd:d≠0):LQ (Rat.divInt n d)≤max (L n) (L d):=by
 have key: ∀(n d:Int),0<d→LQ (Rat.divInt n d)≤max (L n) (L d):=fun n d hd=>by
  obtain ⟨h1,h2⟩:=wv (n:=n) hd;have e1:(Rat.divInt n d).num.natAbs≤n.natAbs:=by rw[h1];exact Int.natAbs_ediv_le_natAbs n _
  have e2:((Rat.divInt n d).den:Int).natAbs≤d.natAbs:=by rw[h2];exact Int.natAbs_ediv_le_natAbs d _
  have f1:=n9 e1;have f2:=n9 e2;unfold LQ;rw[show (tw (Rat.divInt n d).den).length=L ((Rat.divInt n d).den:Int) by rw[L,iw,Int.natAbs_natCast]];omega
 by_cases h:0<d
 · exact key n d h
 · have:=key (-n) (-d) (by omega);rw[Rat.neg_divInt_neg,n0,n0] at this;exact this
theorem p8(a b:Rat):Rat.divInt (a.num*(b.den:Int)+b.num*(a.den:Int)) ((a.den:Int)*(b.den:Int))=a+b:=by
 rw[Rat.add_def',← Rat.divInt_ofNat]
 congr 1
theorem pU(a b:Rat):Rat.divInt (a.num*b.num) ((a.den:Int)*(b.den:Int))=a*b:=by
 rw[Rat.mul_def',← Rat.divInt_ofNat]
 congr 1
theorem neg_divInt(a:Rat):Rat.divInt (-a.num) (a.den:Int)= -a:=by
 rw[← Rat.neg_divInt,Rat.num_divInt_den]
theorem sh(n:Int):Rat.divInt n 1=(n:Rat):=by
 have:=Rat.num_divInt_den (n:Rat);simpa using this
theorem sU(a:Rat):(a.den:Int)≠0:=by have:=a.den_nz;omega
theorem iY(a b:Rat):(a.den:Int)*(b.den:Int)≠0:=Int.mul_ne_zero (sU a) (sU b)
theorem xc(a b:Rat):LQ (a+b)≤LQ a+LQ b+1:=by
 rw[← p8];have h:=l0 (a.num*(b.den:Int)+b.num*(a.den:Int)) ((a.den:Int)*(b.den:Int)) (iY a b);have h1:=fY a.num b.den;have h2:=fY b.num a.den;have h3:=fY a.den b.den;have h4:=Cz (a.num*(b.den:Int)) (b.num*(a.den:Int));have:=j8 a;have:=j8 b;have:=kL a;have:=kL b;omega
theorem s4(a b:Rat):LQ (a*b)≤LQ a+LQ b:=by
 rw[← pU];have h:=l0 (a.num*b.num) ((a.den:Int)*(b.den:Int)) (iY a b);have h1:=fY a.num b.num;have h3:=fY a.den b.den;have:=j8 a;have:=j8 b;have:=kL a;have:=kL b;omega
theorem AI(a:Rat):LQ (-a)=LQ a:=by
 unfold LQ;rw[Rat.neg_num,Rat.neg_den,n0]
theorem D6(a b:Rat):LQ (a-b)≤LQ a+LQ b+1:=by
 rw[Rat.sub_eq_add_neg];have:=xc a (-b);rw[AI] at this;exact this
theorem K2(n:Int):LQ (n:Rat)≤max (L n) 1:=by
 rw[← sh];have:=l0 n 1 (by decide)
 rwa [xb] at this
theorem AH(a:Rat):1≤LQ a:=by
 have:tw a.den≠[]:=GB a.den_nz;have:=List.length_pos_iff.2 this;unfold LQ;omega
def Av(a b:Rat):Int:=if a<b then -1 else if a=b then 0 else 1
theorem Ix(a b:Rat):iL (a.num*b.den) (b.num*a.den)=Av a b:=by
 unfold iL Av;have h1:=Rat.lt_iff a b;have h2:= @Rat.eq_iff_mul_eq_mul a b;by_cases hl:a<b
 · rw[if_pos (h1.1 hl),if_pos hl]
 · rw[if_neg (fun h=>hl (h1.2 h)),if_neg hl];by_cases he:a=b
   · rw[if_pos (h2.1 he),if_pos he]
   · rw[if_neg (fun h=>he (h2.2 h)),if_neg he]
theorem sub_eq_zero{a b:Rat}(h:a-b=0):a=b:=by
 have:= @Rat.sub_add_cancel a b;rw[h,Rat.zero_add] at this;exact this.symm
theorem Iw(a b:Rat):jJ (a-b).num=Av a b:=by
 unfold jJ Av
 have h1:(a-b).num<0↔a<b:=by
  have e1:= @Rat.num_nonneg (a-b);have e2:= @Rat.not_le 0 (a-b);have e3:= @Rat.sub_lt_iff a 0 b;rw[Rat.zero_add] at e3;rw[← e3,← e2,← e1];omega
 have h2:(a-b).num=0↔a=b:=by
  rw[Rat.num_eq_zero];exact⟨sub_eq_zero,fun h=>by rw[h,Rat.sub_self]⟩
 by_cases hl:a<b
 · rw[if_pos (h1.2 hl),if_pos hl]
 · rw[if_neg (fun h=>hl (h1.1 h)),if_neg hl];by_cases he:a=b
   · rw[if_pos (h2.2 he),if_pos he]
   · rw[if_neg (fun h=>he (h2.1 h)),if_neg he]
end Lift
namespace Lift
open Go Go.Proofs
theorem jQ:Pure Tryz.prog 149 [] (fa 1):=by
 refine qJ 2 Tryz.func149 rfl rfl rfl rfl (by kernel_rfl) (fun B F0 w0=>?_);refine qX 1 rfl (qI (AW.region (qM rfl (pe 1 (by decide) (by decide)) ?_)));exact qU 1 rfl (qN rfl)
theorem xJ{m:List Nat}:(((m.map wd).length:Int)==0)=decide (m=[]):=by
 rw[ba,Bool.eq_iff_iff];simp
theorem oG{m:List Nat}(hm:a8 m)(h:okW false m=true):Wh false m=fa (nv m:Nat):=by
 have h1:decide (((nv m:Nat):Int)<0)=false:=by simp
 have h2:iw ((nv m:Nat):Int)=m:=by rw[iw,Int.natAbs_natCast,AU hm (sf h)]
 rw[fa,h1,h2]
theorem rP{m:List Nat}(hm:a8 m)(h:okW false m=true):L (nv m:Nat)=m.length:=by
 rw[L,iw,Int.natAbs_natCast,AU hm (sf h)]
set_option maxHeartbeats 800000 in
theorem ft(r:RD){k:Nat}(hw:r.w k)(hk:k≤34800000000000):Pure Tryz.prog 98 [r.D] (dB r.okB):=by
 obtain ⟨g,m,d⟩:=r;obtain ⟨hm,hd,hlm,hld⟩:=hw;simp only[] at hm hd hlm hld;refine qJ 50 Tryz.func98 rfl rfl rfl rfl (by kernel_rfl) (fun B F0 w0=>?_);refine qX 2 rfl (qI ?_);refine AW.cut [1,14] (fun _:Unit=>[(1,.bx [dB g,Wd m,Wd d]),(14,.d (dB (decide (m=[]∧d=[]))))]) (fun _=>True) ?_ (fun _ _=>?_)
 · refine qT 5 rfl ?_;rw[xJ];refine ae.split (t:=9) rfl (fun h=>?_) (fun h=>?_)
   · refine qU 5 rfl (ae.nil ?_);have:=ao h;exact⟨(),by rw[show decide (m=[]∧d=[])=(((d.map wd).length:Int)==0) by rw[xJ,Bool.eq_iff_iff];simp only[decide_eq_true_eq];exact⟨fun e=>e.2,fun e=>⟨this,e⟩⟩];rfl,trivial⟩
   · refine qU 5 rfl (ae.nil ?_);have:=ar h;exact⟨(),by rw[show decide (m=[]∧d=[])=false by simp[this]];rfl,trivial⟩
 refine AW.cond rfl (fun h=>?_) (fun h=>?_)
 · have h0:=ao h;rw[show RD.okB ⟨g,m,d⟩= !g by unfold RD.okB;rw[if_pos h0]];exact qX 4 rfl (qN rfl)
 · have h0:=ar h;have hokB:RD.okB ⟨g,m,d⟩=decide (m≠[]∧d≠[]∧okW false m=true∧okW false d=true∧Nat.gcd (nv m) (nv d)=1):=by unfold RD.okB;rw[if_neg h0]
   rw[hokB];clear hokB;refine AW.skip (AW.seq (AW.nW tok aS [(3,true),(5,false)] 8 [3,4] (by kernel_rfl) ⟨rfl,?_⟩));refine qP 3 rfl (ah.nil ⟨rfl,?_⟩);refine qP 5 rfl (ah.nil ⟨_,oM.cons (.bx rfl) (oM.cons (.bx rfl) oM.nil),ae.nil ?_⟩);refine AW.norm [1,3,4] [(1,.bx [dB g,Wd m,Wd d]),(3,.bx [dB false,Wd m]),(4,.bx [dB false,Wd d])] rfl ?_;refine AW.seq ?_;refine AW.cut [1,3,4,43] (fun _:Unit=>[(1,.bx [dB g,Wd m,Wd d]),(3,.bx [dB false,Wd m]),(4,.bx [dB false,Wd d]),(43,.d (dB (!decide (m≠[]∧d≠[]∧okW false m=true∧okW false d=true))))]) (fun _=>True) ?_ (fun _ _=>?_)
   · refine qT 5 rfl ?_;rw[xJ];refine ae.split (t:=28) rfl (fun h=>?_) (fun h=>?_)
     · have h1:=ao h;refine qU 15 rfl (ae.nil ?_);exact⟨(),by rw[show decide (m≠[]∧d≠[]∧okW false m=true∧okW false d=true)=false by simp[h1]];rfl,trivial⟩
     · have h1:=ar h;refine qU 6 rfl ?_;rw[xJ];refine ae.split (t:=34) rfl (fun h=>?_) (fun h=>?_)
       · have h2:=ao h;refine qU 9 rfl (ae.nil ?_);exact⟨(),by rw[show decide (m≠[]∧d≠[]∧okW false m=true∧okW false d=true)=false by simp[h2]];rfl,trivial⟩
       · have h2:=ar h;refine qU 1 rfl (qM rfl (fV false m hm (by omega)) ?_);refine qU 3 rfl ?_;refine ae.split (t:=39) rfl (fun h=>?_) (fun h=>?_)
         · have h3:okW false m=false:=by simpa using h
           refine qU 4 rfl (ae.nil ?_);exact⟨(),by rw[show decide (m≠[]∧d≠[]∧okW false m=true∧okW false d=true)=false by simp[h3]];rfl,trivial⟩
         · have h3:okW false m=true:=by simpa using h
           refine qU 1 rfl (qM rfl (fV false d hd (by omega)) ?_);refine qU 2 rfl (ae.nil ?_);exact⟨(),by rw[show decide (m≠[]∧d≠[]∧okW false m=true∧okW false d=true)=okW false d by simp[h1,h2,h3]];rfl,trivial⟩
   · refine AW.cond rfl (fun h=>?_) (fun h=>?_)
     · have h1: ¬(m≠[]∧d≠[]∧okW false m=true∧okW false d=true):=fun e=>by rw[aO e] at h;cases h
       rw[show decide (m≠[]∧d≠[]∧okW false m=true∧okW false d=true∧Nat.gcd (nv m) (nv d)=1)=false from a7 fun e=>h1 ⟨e.1,e.2.1,e.2.2.1,e.2.2.2.1⟩];exact qX 1 rfl (qN rfl)
     · have h1:(m≠[]∧d≠[]∧okW false m=true∧okW false d=true):=by
        have:decide (m≠[]∧d≠[]∧okW false m=true∧okW false d=true)=true:=by rw[← Bool.not_not (decide _),h];rfl
        exact ao this
       obtain ⟨hm0,hd0,ok1,ok2⟩:=h1;have e1:=oG hm ok1;have e2:=oG hd ok2;have l1:=rP hm ok1;have l2:=rP hd ok2
       have hgl:L ((Nat.gcd (nv m) (nv d):Nat):Int)≤34800000000000:=by
        have hp:0<nv m:=Nat.pos_of_ne_zero fun e=>hm0 ((jf (sf ok1)).1 e);have:=Nat.gcd_le_left (nv d) hp;have:=n9 (a:=((Nat.gcd (nv m) (nv d):Nat):Int)) (b:=((nv m:Nat):Int)) (by simpa using this);omega
       have hgcd:=nQ (nv m:Nat) (nv d:Nat) (by omega) (by omega);rw[← e1,← e2,Int.natAbs_natCast,Int.natAbs_natCast] at hgcd;refine AW.skip (qX 2 rfl (qM rfl hgcd (qM rfl jQ ?_)));refine qM rfl (nS ((Nat.gcd (nv m) (nv d):Nat):Int) 1 (by omega) (by rw[xb];decide)) ?_;refine qU 2 rfl (ae.nil ?_)
       rw[show decide (m≠[]∧d≠[]∧okW false m=true∧okW false d=true∧Nat.gcd (nv m) (nv d)=1)=(iL ((Nat.gcd (nv m) (nv d):Nat):Int) 1==0) by
        rw[Bool.eq_iff_iff];simp only[ne_eq,hm0,not_false_eq_true,hd0,ok1,ok2,true_and,decide_eq_true_eq,beq_iff_eq];unfold iL;constructor
        · intro h;rw[h];rfl
        · intro h;split at h
          · cases h
          · split at h
            · omega
            · cases h]
       exact AW.ret rfl
theorem AO:fa 0= .ag [dB false,.sl 1 []]:=by rw[fa,uJ];rfl
theorem bk(r:RD){k:Nat}(hw:r.w k)(hk:k≤34800000000000):Pure Tryz.prog 123 [r.D] (.tu [fa r.val.num,fa r.val.den]):=by
 refine qJ 28 Tryz.func123 rfl rfl rfl rfl (by kernel_rfl) (fun B F0 w0=>?_);refine qX 3 rfl (qI ?_);refine AW.cut [1,2,3,12] (fun _:Unit=>[(1,.bx [dB r.g,Wd r.n,Wd r.d]),(2,.bx [dB false,.sl 1 []]),(3,.bx [dB false,.sl 1 []]),(12,.d (dB (decide (r.okB=false∨r.n=[]))))]) (fun _=>True) ?_ (fun _ _=>?_)
 · refine qT 1 rfl (qM rfl (ft r hw hk) ?_);refine qU 2 rfl ?_;refine ae.split (t:=7) rfl (fun h=>?_) (fun h=>?_)
   · have h1:r.okB=false:=by simpa using h
     refine qU 5 rfl (ae.nil ?_);exact⟨(),by rw[show decide (r.okB=false∨r.n=[])=true by simp[h1]];rfl,trivial⟩
   · have h1:r.okB=true:=by simpa using h
     refine qU 5 rfl ?_;rw[xJ];refine ae.nil ?_;exact⟨(),by rw[show decide (r.okB=false∨r.n=[])=decide (r.n=[]) by simp only[h1];simp];rfl,trivial⟩
 refine AW.cond rfl (fun h=>?_) (fun h=>?_)
 · have h1:=ao h
   have hv:r.val=0:=by
    rcases h1 with h1 | h1
    · exact RD.uw h1
    · exact RD.oe h1
   rw[hv,show (0:Rat).num=0 from rfl,show (((0:Rat).den:Nat):Int)=1 from rfl,AO];exact qX 1 rfl (qM rfl jQ (qU 2 rfl (qN rfl)))
 · have h1:=ar h
   have h2:r.okB=true:=by cases ho:r.okB with
    | true=>rfl
    | false=>exact absurd (.inl ho) h1
   obtain ⟨_,_,p3,p4,p5,_⟩:=RD.parts hw h2 (fun e=>h1 (.inr e));have e1:fa r.val.num=Wh r.g r.n:=by rw[fa,← p3,← p4]
   have e2:fa (r.val.den:Nat)=Wh false r.d:=by
    have:decide (((r.val.den:Nat):Int)<0)=false:=by simp
    rw[fa,this,iw,Int.natAbs_natCast,← p5]
   rw[e1,e2];have hl1:=hw.2.2.1;have hl2:=hw.2.2.2;refine AW.skip (AW.seq (AW.draw aS 7 (by kernel_rfl) ?_));refine qP 5 rfl ?_;refine ah.nY tok rfl rfl rfl rfl rfl (by show ((r.n.map wd).length)*4≤_;rw[ba];omega) ?_;refine qP 1 rfl (ah.nil (qU 1 rfl (qI (AW.norm [1,2,3] [(1,.bx [dB r.g,Wd r.n,Wd r.d]),(2,.bx [dB r.g,Wd r.n]),(3,.bx [dB false,.sl 1 []])] rfl ?_))));refine AW.nW tok aS [(1,true),(5,false)] 6 [2,3] (by kernel_rfl) ⟨rfl,?_⟩;refine qP 1 rfl (ah.nil ⟨rfl,?_⟩);refine qP 3 rfl ?_;refine ah.nY tok rfl rfl rfl rfl rfl (by show ((r.d.map wd).length)*4≤_;rw[ba];omega) ?_;refine qP 1 rfl (ah.nil ⟨_,oM.cons (.bx rfl) (oM.cons (.bx rfl) oM.nil),ae.nil ?_⟩);exact AW.ret rfl
theorem jl:Qr 0=⟨false,[],[]⟩:=by
 unfold Qr;rw[show (0:Rat).num=0 from rfl,uJ];rfl
theorem BP{n d:Int}(hd:0<d)(hn:n≠0):(Qr (Rat.divInt n d)).D= .ag [dB (decide (n<0)),Wd (iw ((n.natAbs:Int) / (Nat.gcd n.natAbs d.natAbs:Int))),Wd (iw (d / (Nat.gcd n.natAbs d.natAbs:Int)))]:=by
 obtain ⟨h1,h2⟩:=wv (n:=n) hd
 have hg:0<(Nat.gcd n.natAbs d.natAbs:Int):=by
  have:0<Nat.gcd n.natAbs d.natAbs:=Nat.gcd_pos_of_pos_left _ (by omega);omega
 have hgn:(Nat.gcd n.natAbs d.natAbs:Int) ∣ n:=Int.ofNat_dvd_left.2 (Nat.gcd_dvd_left _ _);obtain ⟨q,hq⟩:=hgn;generalize (Nat.gcd n.natAbs d.natAbs:Int)=g at *;have hnum:n / g=q:=by rw[hq,Int.mul_ediv_cancel_left _ (by omega)]
 have hneg:(n / g<0)↔n<0:=by
  rw[hnum];constructor
  · intro h;rw[hq];exact Int.mul_neg_of_pos_of_neg hg h
  · intro h;rcases Int.lt_or_le q 0 with h' | h'
    · exact h'
    · have:=Int.mul_nonneg (Int.le_of_lt hg) h';omega
 have hq0:q≠0:=by rintro rfl;rw[Int.mul_zero] at hq;exact hn hq
 have habs:(n.natAbs:Int) / g=(q.natAbs:Int):=by
  have:(n.natAbs:Int)=g*(q.natAbs:Int):=by rw[hq,Int.natAbs_mul,Int.natCast_mul];congr 1;omega
  rw[this,Int.mul_ediv_cancel_left _ (by omega)]
 have e1:decide ((Rat.divInt n d).num<0)=decide (n<0):=by rw[h1];exact decide_eq_decide.2 hneg
 have e2:iw (Rat.divInt n d).num=iw ((n.natAbs:Int) / g):=by rw[h1,habs,hnum];simp only[iw,Int.natAbs_natCast]
 have e3:(if (Rat.divInt n d).num=0 then [] else tw (Rat.divInt n d).den)=iw (d / g):=by
  rw[if_neg (by rw[h1,hnum];exact hq0),← h2,iw,Int.natAbs_natCast]
 show D.ag [dB (decide ((Rat.divInt n d).num<0)),Wd (iw (Rat.divInt n d).num),Wd (if (Rat.divInt n d).num=0 then [] else tw (Rat.divInt n d).den)]=_;rw[e1,e2,e3]
set_option maxHeartbeats 800000 in
theorem eK(n d:Int)(hn:L n≤34800000000000)(hd:L d≤34800000000000)(h0:d≠0):Pure Tryz.prog 124 [fa n,fa d] (Qr (Rat.divInt n d)).D:=by
 refine qJ 47 Tryz.func124 rfl rfl rfl rfl (by kernel_rfl) (fun B F0 w0=>?_);refine qX 3 rfl (qI (qX 1 rfl (qM rfl (da n (by omega)) ?_)));refine qU 1 rfl (ae.nil (AW.cond rfl (fun h=>?_) (fun h=>?_)))
 · have hn0:n=0:=by
    have:jJ n=0:=by simpa using h
    unfold jJ at this
    repeat' split at this
    all_goals omega
   rw[hn0,Rat.zero_divInt,jl];exact qX 2 rfl (qN rfl)
 · have hn0:n≠0:=by rintro rfl;simp[jJ] at h
   refine AW.skip ?_
   refine AW.cut [2,3,4] (fun s:Int×Int=>[(2,.bx [dB (decide (s.1<0)),Wd (iw s.1)]),(3,.bx [dB (decide (s.2<0)),Wd (iw s.2)]),(4,.bx [dB false,.sl 1 [],.sl 1 []])])
    (fun s=>0<s.2∧s.1≠0∧L s.1≤34800000000000∧L s.2≤34800000000000∧Rat.divInt s.1 s.2=Rat.divInt n d) ?_ (fun (x,y) ⟨hy,hx,hlx,hly,he⟩=>?_)
   · refine qX 1 rfl (qM rfl (da d (by omega)) ?_);refine qU 1 rfl (ae.nil (AW.cond rfl (fun h=>?_) (fun h=>?_)))
     · have hd0:d<0:=by
        have:=ao h;unfold jJ at this
        repeat' split at this
        all_goals omega
       refine AW.draw aS 4 (by kernel_rfl) ?_;refine qP 1 rfl (qQ rfl (iA n (by omega)) ?_);refine qP 1 rfl (qQ rfl (iA d (by omega)) ?_);refine ah.nil (qU 2 rfl (ae.nil ?_));exact⟨(-n, -d),rfl,⟨by simp only[];omega,by simp only[];omega,by rw[n0];exact hn,by rw[n0];exact hd,Rat.neg_divInt_neg n d⟩⟩
     · have hd0:0<d:=by
        have:=ar h;unfold jJ at this
        repeat' split at this
        all_goals omega
       refine AW.skip ?_;exact⟨(n,d),rfl,⟨hd0,hn0,hn,hd,rfl⟩⟩
   · simp only[] at hy hx hlx hly he;rw[← he]
     have hgl:L ((Nat.gcd x.natAbs y.natAbs:Nat):Int)≤34800000000000:=by
      have:=Nat.gcd_le_left y.natAbs (show 0<x.natAbs by omega);have:=n9 (a:=((Nat.gcd x.natAbs y.natAbs:Nat):Int)) (b:=x) (by simpa using this);omega
     have hg0:((Nat.gcd x.natAbs y.natAbs:Nat):Int)≠0:=by
      have:0<Nat.gcd x.natAbs y.natAbs:=Nat.gcd_pos_of_pos_left _ (by omega);omega
     rw[BP hy hx];have hgcd:=nQ x y hlx hly;generalize ((Nat.gcd x.natAbs y.natAbs:Nat):Int)=g at *;have hla:L (x.natAbs:Int)≤34800000000000:=by have:=n9 (a:=(x.natAbs:Int)) (b:=x) (by simp);omega
     refine qX 2 rfl (qM rfl hgcd (qU 2 rfl (qK 1 rfl (qM rfl (da x (by omega)) ?_))));refine qU 2 rfl (ae.nil ?_)
     have hsg:decide (jJ x<0)=decide (x<0):=by
      unfold jJ
      repeat' split
      all_goals (rw[decide_eq_decide];omega)
     rw[hsg];refine AW.cut [2,3,4,5,6] (fun _:Unit=>[(2,.bx [dB (decide ((x.natAbs:Int)<0)),Wd (iw (x.natAbs:Int))]),(3,.bx [dB (decide (y<0)),Wd (iw y)]),(4,.bx [dB false,.sl 1 [],.sl 1 []]),(5,.bx [dB (decide (g<0)),Wd (iw g)]),(6,.d (dB (decide (x<0))))]) (fun _=>True) ?_ (fun _ _=>?_)
     · refine qX 1 rfl (ae.nil (AW.cond rfl (fun h=>?_) (fun h=>?_)))
       · have hx0:=ao h;refine qT 1 rfl (qM rfl (iA x (by omega)) ?_);refine qU 1 rfl (ae.nil ?_);exact⟨(),by rw[show (x.natAbs:Int)= -x by omega];rfl,trivial⟩
       · have hx0:=ar h;refine AW.skip ?_;exact⟨(),by rw[show (x.natAbs:Int)=x by omega];rfl,trivial⟩
     refine qX 2 rfl (qM rfl (nR (x.natAbs:Int) g hla hgl hg0) ?_);refine qU 5 rfl (qK 2 rfl (qM rfl (nR y g hly hgl hg0) ?_));exact qU 5 rfl (qK 7 rfl (qN rfl))
theorem ui(r:RD){k:Nat}(hw:r.w k)(hk:k≤17300000000000):Pure Tryz.prog 173 [r.D] (Qr (-r.val)).D:=by
 refine qJ 14 Tryz.func173 rfl rfl rfl rfl (by kernel_rfl) (fun B F0 w0=>?_);have hl:=cF (hw.mono (Nat.le_max_left k 1)) (Nat.le_max_right k 1);have hn:=j8 r.val;have hd:=kL r.val;rw[← neg_divInt];refine qX 2 rfl (qK 1 rfl (qM rfl (bk r hw (by omega)) ?_));refine qU 7 rfl (qI (AW.draw aS 4 (by kernel_rfl) ?_));refine qP 1 rfl (qQ rfl (iA r.val.num (by omega)) ?_);refine qP 1 rfl ?_;refine qQ rfl (eK (-r.val.num) r.val.den (by rw[n0];omega) (by omega) (sU _)) ?_;exact ah.nil (qU 1 rfl (qN rfl))
theorem mS(r s:RD){k:Nat}(hr:r.w k)(hs:s.w k)(hk:k≤17300000000000):Pure Tryz.prog 150 [r.D,s.D] (dI (Av r.val s.val)):=by
 refine qJ 26 Tryz.func150 rfl rfl rfl rfl (by kernel_rfl) (fun B F0 w0=>?_);have hl:=cF (hr.mono (Nat.le_max_left k 1)) (Nat.le_max_right k 1);have hm:=cF (hs.mono (Nat.le_max_left k 1)) (Nat.le_max_right k 1);have:=j8 r.val;have:=kL r.val;have:=j8 s.val;have:=kL s.val;have:=fY r.val.num s.val.den;have:=fY s.val.num r.val.den;rw[← Ix];refine qX 3 rfl (qK 1 rfl (qM rfl (bk r hr (by omega)) ?_));refine qU 7 rfl (qK 1 rfl (qM rfl (bk s hs (by omega)) ?_));refine qU 7 rfl (qI (AW.draw aS 7 (by kernel_rfl) ?_));refine qP 2 rfl (qQ rfl (b7 r.val.num s.val.den (by omega) (by omega)) ?_);refine qP 2 rfl (qQ rfl (b7 s.val.num r.val.den (by omega) (by omega)) ?_);refine qQ rfl (nS (r.val.num*s.val.den) (s.val.num*r.val.den) (by omega) (by omega)) ?_;exact ah.nil (qU 1 rfl (qN rfl))
theorem mT(r s:RD){k:Nat}(hr:r.w k)(hs:s.w k)(hk:k≤17300000000000):Pure Tryz.prog 85 [r.D,s.D] (Qr (r.val+s.val)).D:=by
 refine qJ 30 Tryz.func85 rfl rfl rfl rfl (by kernel_rfl) (fun B F0 w0=>?_);have hl:=cF (hr.mono (Nat.le_max_left k 1)) (Nat.le_max_right k 1);have hm:=cF (hs.mono (Nat.le_max_left k 1)) (Nat.le_max_right k 1);have:=j8 r.val;have:=kL r.val;have:=j8 s.val;have:=kL s.val;have:=fY r.val.num s.val.den;have:=fY s.val.num r.val.den;have:=fY r.val.den s.val.den;have:=Cz (r.val.num*s.val.den) (s.val.num*r.val.den);rw[← p8];refine qX 3 rfl (qK 1 rfl (qM rfl (bk r hr (by omega)) ?_));refine qU 7 rfl (qK 1 rfl (qM rfl (bk s hs (by omega)) ?_));refine qU 7 rfl (qI (AW.draw aS 11 (by kernel_rfl) ?_));refine qP 2 rfl (qQ rfl (b7 r.val.num s.val.den (by omega) (by omega)) ?_);refine qP 2 rfl (qQ rfl (b7 s.val.num r.val.den (by omega) (by omega)) ?_);refine qQ rfl (wk (r.val.num*s.val.den) (s.val.num*r.val.den) (by omega) (by omega)) ?_;refine qP 2 rfl (qQ rfl (b7 r.val.den s.val.den (by omega) (by omega)) ?_);refine qQ rfl (eK (r.val.num*s.val.den+s.val.num*r.val.den) (r.val.den*s.val.den) (by omega) (by omega) (iY _ _)) ?_;exact ah.nil (qU 1 rfl (qN rfl))
theorem uj(r s:RD){k:Nat}(hr:r.w k)(hs:s.w k)(hk:k≤17300000000000):Pure Tryz.prog 171 [r.D,s.D] (Qr (r.val*s.val)).D:=by
 refine qJ 26 Tryz.func171 rfl rfl rfl rfl (by kernel_rfl) (fun B F0 w0=>?_);have hl:=cF (hr.mono (Nat.le_max_left k 1)) (Nat.le_max_right k 1);have hm:=cF (hs.mono (Nat.le_max_left k 1)) (Nat.le_max_right k 1);have:=j8 r.val;have:=kL r.val;have:=j8 s.val;have:=kL s.val;have:=fY r.val.num s.val.num;have:=fY r.val.den s.val.den;rw[← pU];refine qX 3 rfl (qK 1 rfl (qM rfl (bk r hr (by omega)) ?_));refine qU 7 rfl (qK 1 rfl (qM rfl (bk s hs (by omega)) ?_));refine qU 7 rfl (qI (AW.draw aS 7 (by kernel_rfl) ?_));refine qP 2 rfl (qQ rfl (b7 r.val.num s.val.num (by omega) (by omega)) ?_);refine qP 2 rfl (qQ rfl (b7 r.val.den s.val.den (by omega) (by omega)) ?_);refine qQ rfl (eK (r.val.num*s.val.num) (r.val.den*s.val.den) (by omega) (by omega) (iY _ _)) ?_;exact ah.nil (qU 1 rfl (qN rfl))
end Lift
