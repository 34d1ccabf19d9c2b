/- Parts of the proof, one behind the other: the logic, the contracts of the functions that the statement reaches. -/
import Derived.Test.YtebpenldlefgjaaGreatM6A
import Derived.ChangeArms
import GoSem.ClaimJoined
import Derived.ProofKit
import Derived.SizedLaws
import Derived.Test.YtebpenldlefgjaaGreatChecked
import Derived.KernelRfl
set_option linter.unusedVariables false
set_option linter.unusedSimpArgs false
set_option maxHeartbeats 4000000
open Array renaming replicate→ce,getElem?_eq_some_iff→c0,mapM_eq_mapM_toList→f9,ext'→kw,any_eq_true'→k0
open BitVec renaming ofInt→d4,ofInt_natCast→eA,toNat_ofNat→f5,toNat_or→lj
open Bool renaming eq_iff_iff→eb,and_eq_true→gx,not_true→i8,false_eq_true→la,or_eq_true→mc
open Classical renaming byContradiction→f4
open Decidable renaming not_not→jn
open Go.DataW renaming weightsEach→ga,TrodAll→g9,weights→i4,weightsAll→li,trod→n4
open Go.IntKind renaming u64→a1,signed→dT,u32→ea,wrap→ef,bits→eh
open Go.Oper renaming looksAt→ii,upon→ja
open Go.Region renaming binds→c9,wanted→dl,ready→ek,chainB→ly,sinkB→mi,seqB→mx
open Go.Result renaming andThen_ok→hH
open Go.RowKit.Below renaming trod→nl
open Go.Sem renaming run_pure→jo,run_bind→jp,run_map→kb
open Go.Value renaming slice→g6,okWide→i9,cells→nm
open Go.World renaming cells?_some→h9
open Iff renaming rfl→n3
open Int renaming natCast_nonneg→aa,toNat_natCast→a3,natAbs_natCast→cg,natAbs_mul→g8,natCast_add→i0,fdiv_eq_ediv_of_nonneg→i3,natAbs_ediv_le_natAbs→i7,mul_ediv_cancel_left→jg,sign_eq_one_of_pos→j0,add_comm→j1,gcd→lx,natCast_mul→ms,pow_nonneg→ne,mul_nonneg→nj
open List renaming take_of_length_le→ab,getElem?_eq_some_iff→ap,getElem?_eq_getElem→az,getElem?_append_left→bn,getElem?_append_right→b1,length_map→b3,append_assoc→b8,mem_append_left→cc,getElem?_drop→cd,take_append_of_le_length→ci,getElem?_take→cm,length_take→co,getD→cp,replicate→ct,length_pos_iff→cw,take_append_drop→cx,mem_append_right→cz,mem_of_mem_take→cC,drop_of_length_le→cN,all_eq_true→cT,getLast?_eq_getElem?→c4,mem_of_getElem?→d0,mem_range→en,drop_zero→eo,drop_drop→ep,getElem?_eq_none→ew,length_cons→ey,drop_append_of_le_length→eE,append_nil→eX,length_append→f8,mem_reverse→gc,getElem?_replicate→go,cons_append→gt,mem_append→gB,mem_iff_getElem?→gR,length_replicate→g0,mem_filterMap→hM,mem_cons_self→hZ,getElem?_set→ik,ofFn→ip,length_drop→it,eq_nil_iff_forall_not_mem→iv,range→i1,map_take→i5,getElem?_take_of_lt→i6,mem_of_mem_drop→j2,mem_cons_of_mem→j3,getElem?_append→ka,take_set_of_le→kh,reverse_append→kk,drop_set_of_lt→km,ext_getElem?→lh,take_append→lm,length_ofFn→ln,getElem_mem→lw,nil_append→ma,mem_cons→m4,map_cons→m5,mem_map→ny
open Nat renaming mul_le_mul_left→am,mul_add→an,mod_eq_of_lt→ax,pow_succ→a2,mul_comm→bi,eq_zero_or_pos→bv,le_of_ble_eq_true→bz,le_refl→b2,lt_or_ge→ch,zero_le→cj,lt_of_lt_of_le→cn,add_sub_cancel_left→cr,gcd→cv,eq_of_beq_eq_true→cA,mul_assoc→cB,pow_le_pow_right→cI,mod_lt→cJ,div_add_mod→cM,le_trans→cS,lt_of_le_of_lt→c3,add_mul_mod_self_left→c5,mul_one→c6,mul_le_mul_right→c7,le_max_right→c8,pow_pos→c',add_mul→dj,zero_add→dn,div_div_eq_div_mul→dr,add_zero→dx,min_eq_left→dz,le_max_left→dM,mul_zero→d5,ble→d6,beq→d7,mul_le_mul→eq,div_eq_of_lt→eB,pow_add→eL,strongRecOn→eY,blt→f7,one_mul→gb,ne_of_beq_eq_false→gy,div_le_self→gM,div_lt_iff_lt_mul→g7,add_assoc→hJ,gcd_comm→io,add_mul_mod_self_right→i2,pow_lt_pow_iff_right→jb,gcd_pos_of_pos_left→jk,lt_trans→jr,le_of_lt→js,add_comm→jt,add_mul_div_left→kd,div_eq_of_lt_le→k4,pos_of_ne_zero→lc,or_lt_two_pow→ll,mul_add_mod→mn,mul_add_div→mo,gcd_le_left→mp,zero_mul→n2
open Ne renaming symm→hE
open Option renaming map_some→d9
open Option.some renaming injEq→eN,inj→jj
open Rat renaming divInt→a4,num_divInt_den→ie,zero_divInt→ix,neg_divInt_neg→lb,divInt_ofNat→lJ,num_eq_zero→mm,num_divInt→m2,den_divInt→m3,zero_add→n1
namespace Lift
open Go
open Go.RowKit (Below)
variable {y:AV}{c:Code}{res:D}{fn:Func}{L' d1 d2 l l':List D}{rs:List ResultVar}{e f h lo m:Nat}
section
variable {P:Program} {T:Ty} {B:Nat} {F0:Nat→Prop} {w0:dh} {n:Nat} {lk hm:Nat→Option AV} {o:Oper} {d:Nat} {σ σ':St}
inductive MR where
 |val (res:D)
 |part (lo m:Nat)
def Od(P:Program)(e b N:Nat)(L:List D)(w:World)(F:Nat→Prop):MR→Value→Prop
 | .val res,v=>iV res=true∧Rd w F res v
 | .part lo m,v=>lo+m≤L.length∧ ∃o cap,v= .slice (some ⟨b,o,none⟩) m cap∧((m=0∨o=lo*P.cellsOf e)∧(cap=0∨o=lo*P.cellsOf e)∧o+cap*P.cellsOf e≤N)∧m≤cap∧cap≤maxLen
def Cells(P:Program)(w:World)(F:Nat→Prop)(e:Nat)(L:List D)(cs:Array Value):Prop :=
 (∀x,x∈L→x.flat.length=P.cellsOf e)∧ ∀(i:Nat) (d:D),(flatAll L)[i]?=some d→d.ba=true∧ ∃u,cs[i]?=some u∧Rd w F d u
def Ck(P:Program)(f:FuncId)(e:Nat)(L:List D)(lo m:Nat)(pre post L':List D)(r:MR):Prop :=
 uL P f∧L'.length=L.length∧ ∀(w:World) (G:Nat→Prop) (b o cap:Nat) (cs:Array Value) (us vs:List Value),(∀c,G c→c<w.heap.size∧c≠b)→w.heap[b]?=some (.cells cs e (0,0)) →
  ((m=0∨o=lo*P.cellsOf e)∧(cap=0∨o=lo*P.cellsOf e)∧o+cap*P.cellsOf e≤cs.size)→lo+m≤L.length→m≤cap→cap≤maxLen→Cells P w G e L cs→us.length=pre.length→(∀(i:Nat) (d:D) (v:Value),pre[i]?=some d→us[i]?=some v→Rd w G d v) →
  vs.length=post.length→(∀(i:Nat) (d:D) (v:Value),post[i]?=some d→vs[i]?=some v→Rd w G d v) →
  Calls P f (us++g6 (some ⟨b,o,none⟩) m cap::vs).toArray w (fun ee w'=> ∃v cs',ee= .returned v∧jq w.heap.size ⟨w,fun c=>c=b⟩ w w'∧w'.heap[b]?=some (.cells cs' e (0,0))∧Cells P w' (FW w.heap.size G w') e L' cs'∧Od P e b cs'.size L' w' (FW w.heap.size G w') r v)
abbrev FP(P:Program)(f:FuncId)(e:Nat)(L:List D)(lo m:Nat)(args L':List D)(r:MR):Prop:=Ck P f e L lo m [] args L' r
def NS(T:Ty)(σ:St)(p:Nat)(rs:List ResultVar)(e:Nat)(L':List D):MR→Prop
 | .val res=>(∃lo m,σ.get p=some (.wn true e L' lo m))∧iV res=true∧EO T σ rs=some res
 | .part lo m=> ∃h,(∃lo0 m0,σ.get h=some (.wn true e L' lo0 m0))∧ ∃t,rs=[.tmp t]∧ ∃av,ex T σ.get 0 (.tmp t)=some av∧my σ.get (some av)=some (h,e,L',lo,m)
def OE(T:Ty)(p:Nat)(rs:List ResultVar)(e:Nat)(L':List D)(r:MR):Exit→St→Prop
 | .normal,σ=>NS T σ p rs e L' r
 | .ret,σ=>NS T σ p rs e L' r
 | .exit _,_=>False
 | .goto _,_=>False
 | .panic _,_=>False
 | .outgrown,_=>False
theorem EN(hT:bB P T)(hrs:fn.results.toList=rs){a:Act}{w:World}(hR:Rel P B F0 w0 n σ a w)(hq:EO T σ rs=some res):
  ∃v,(results fn a.tmps).run P w= .ok v w∧Rd w (FW B F0 w) res v:=by
 unfold EO at hq;split at hq<;>simp at hq
 ·rename_i d hd;subst hq;obtain⟨vs',hrun,hl',hall⟩:=fr hT hR rs _ hd
  match vs',hl' with
  |[v],_ =>
   refine⟨v,?_,hall 0 d v rfl rfl⟩;rw[eV];simp only[jp,f9,hrs,kb,hrun,hH,jo];rfl
 ·rename_i hd;subst hq;obtain⟨vs',hrun,hl',hall⟩:=fr hT hR rs _ hd
  match vs',hl' with
  |[],_ =>
   refine⟨.tuple #[],?_,Rd.tu (vs:=[]) rfl (fun i d v h=>by simp at h)⟩;rw[eV];simp only[jp,f9,hrs,kb,hrun,hH,jo];rfl
 ·rename_i d e r hd;subst hq;obtain⟨vs',hrun,hl',hall⟩:=fr hT hR rs _ hd;refine⟨.tuple vs'.toArray,?_,Rd.tu hl' (fun i d v h1 h2=>hall i d v h1 h2)⟩;rw[eV];simp only[jp,f9,hrs,kb,hrun,hH,jo];rw[dif_neg (by simp at hl' ⊢; omega)]
theorem GR(t:Nat)(σ2:St): ∀(σ1:St),St.get (σ1++σ2) t=match St.get σ1 t with
  |some x=>some x
  |none=>St.get σ2 t
 |[]=>rfl
 |(k,a)::r=>by
  rw[gt,St.aL,St.aL];split
  ·rfl
  ·exact GR t σ2 r
theorem Ck.intro(hT:bB P T){f:FuncId}{pre post L:List D}{r:MR}(hf:P.funcs[f]?=some fn)(hb:fn.body=some c)(hrs:fn.results.toList=rs)(hn:fn.ntmps=n)(hl:pre.length+post.length+1≤n)(hnm:(fn.name=="runtime.NumGoroutine")=false)(hlen:L'.length=L.length)
  (h: ∀(B:Nat) (F0:Nat→Prop) (w0:dh),AW P B F0 w0 n c (OE T pre.length rs e L' r) ((pre.length,.wn true e L lo m)::(fh 0 pre++fh (pre.length+1) post))):Ck P f e L lo m pre post L' r:=by
 refine⟨⟨fn,hf,hnm,by simp[hb]⟩,hlen,fun w G b o cap cs us vs hG hb' h0 hlm hcap hmax hcs hlu hru hlv hr=>?_⟩;have hbs:=(c0.1 hb').1;have hF0:FU w.heap.size (fun c=>G c∨c=b) ⟨w,fun c=>c=b⟩:=⟨fun c hc=>hc.elim (fun h=>(hG c h).1) (fun h=>h▸hbs),fun c hc=>.inr hc⟩;refine calls_of_wp hf hb<|wp_mono (h w.heap.size (fun c=>G c∨c=b) ⟨w,fun c=>c=b⟩ _ w ?_) ?_
 ·have hfree: ∀c,G c→aQ (fun c=>if c=b then some pre.length else none) (FW w.heap.size (fun c=>G c∨c=b) w) c:=fun c hc=>⟨by simp[(hG c hc).2],.inl (.inl hc)⟩;refine⟨.refl _ _ _,b2 _,hF0,rfl,?_,fun c=>if c=b then some pre.length else none,(fun c t hc=>?_),fun t av hav=>?_⟩
  ·simp[hn];omega
  ·simp only[]at hc;split at hc<;>simp at hc;rename_i hcb;subst hcb;exact⟨.inr rfl,hbs⟩
  ·have htm: ∀(k:Nat) (v:Value),(us++g6 (some ⟨b,o,none⟩) m cap::vs)[k]?=some v→((us++g6 (some ⟨b,o,none⟩) m cap::vs).toArray++ce (fn.ntmps-(us++g6 (some ⟨b,o,none⟩) m cap::vs).toArray.size) undef)[k]?=some v:=fun k v hk=>by have hlt:=(ap.1 hk).1;rw[Array.getElem?_append,if_pos (by simpa using hlt)];simpa using hk
   rw[St.aL]at hav;split at hav
   ·rename_i ht;subst ht;simp at hav;subst hav;refine⟨.slice (some ⟨b,o,none⟩) m cap,htm _ _ (by rw[←hlu];simp),.inr ⟨b,o,cap,cs,fun _=>rfl,rfl,⟨h0.1,h0.2.1,h0.2.2⟩,by simp,hb',hlm,hcap,hmax,hcs.1,fun i d hd=>?_⟩⟩;obtain⟨f1,u,f2,f3⟩:=hcs.2 i d hd;exact⟨f1,u,f2,f3.mono hfree (fun _ _=>rfl)⟩
   ·rename_i ht;rw[GR,jL,jL]at hav;simp only[cj,if_true,Nat.sub_zero]at hav;cases hp:pre[t]? with
    |some d =>
     rw[hp]at hav;simp at hav;subst hav;have hlt:t<us.length:=by rw[hlu];exact(ap.1 hp).1
     refine⟨us[t],htm _ _ (by rw[bn hlt,az hlt]),?_⟩;exact(hru t d _ hp (az hlt)).mono hfree (fun _ _=>rfl)
    |none =>
     rw[hp]at hav;simp only[Option.map_none]at hav;split at hav<;>try (cases hav;done)
     simp only[Option.map_eq_some_iff]at hav;obtain⟨d,hd,rfl⟩:=hav;obtain⟨k,rfl⟩: ∃k,t=pre.length+1+k:=⟨t-(pre.length+1),by omega⟩;rw[cr]at hd;have hlt:k<vs.length:=by rw[hlv];exact(ap.1 hd).1
     refine⟨vs[k],htm _ _ (by rw[←hlu,b1 (by omega),show us.length+1+k-us.length=k+1 by omega,List.getElem?_cons_succ,az hlt]),?_⟩;exact(hr k d _ hd (az hlt)).mono hfree (fun _ _=>rfl)
 ·rintro ee a w' ⟨σ',hq,hR⟩
  have key:NS T σ' pre.length rs e L' r→a.defers=[]∧ ∃v,(results fn a.tmps).run P w'= .ok v w'∧ ∃v' cs',Ending.returned v= .returned v'∧jq w.heap.size ⟨w,fun c=>c=b⟩ w w'∧w'.heap[b]?=some (.cells cs' e (0,0))∧Cells P w' (FW w.heap.size G w') e L' cs'∧Od P e b cs'.size L' w' (FW w.heap.size G w') r v':=fun hq=>by
   refine⟨hR.defers,?_⟩;obtain⟨O,hOr,hO⟩:=hR.own;have hI:Inv P w.heap.size (fun c=>G c∨c=b) ⟨w,fun c=>c=b⟩ (fun _=>True) σ'.get σ'.get a w' O:=⟨hR.below,hR.base,hR.f0,hOr,fun t _ av h=>hO t av h,fun t av h _=>hO t av h⟩
   have home: ∀k lo m,σ'.get k=some (.wn true e L' lo m)→ ∃cs',O b=some k∧w'.heap[b]?=some (.cells cs' e (0,0))∧Cells P w' (FW w.heap.size G w') e L' cs':=fun k lo m h=>by
    obtain⟨v,hv,hr⟩:=hO k _ h;rcases hr with⟨h,_⟩|⟨b',o',cap',cs',hq,h1,h0,h2,h3,h4,h5,h6,h7,h8⟩
    ·cases h
    have hbb:b'=b:=hq rfl;subst hbb;refine⟨cs',h2,h3,h7,fun i d hd=>?_⟩;obtain⟨f1,u,f2,f3⟩:=h8 i d hd;refine⟨f1,u,f2,f3.mono (fun c hc=>?_) (fun _ _=>rfl)⟩;have hne:c≠b':=fun e=>by subst e;rw[aQ,h2]at hc;cases hc.1
    rcases hc.2 with h|h
    ·exact .inl (h.resolve_right hne)
    ·exact .inr h
   cases r with
   |val res =>
    obtain⟨⟨lo,m,h0⟩,hs,hres⟩:=hq;obtain⟨cs',_,hb1,hc1⟩:=home _ lo m h0;obtain⟨v,hrun,hrd⟩:=EN hT hrs hR hres;exact⟨v,hrun,v,cs',rfl,hR.below,hb1,hc1,hs,hrd.scalar hs⟩
   |part lo m =>
    obtain⟨h,⟨lo0,m0,h0⟩,t,hrt,av,hav,hw⟩:=hq;obtain⟨cs',hOb,hb1,hc1⟩:=home _ lo0 m0 h0;subst hrt
    have hsome: ∃v,a.tmps[t]?=some v:=by
     cases hs:σ'.get t with
     |none=>simp[ex,hs]at hav
     |some av=>obtain⟨v,hv,_⟩:=hO t av hs;exact⟨v,hv⟩
    obtain⟨v,hv⟩:=hsome;obtain⟨x,hx,hrow,hlm,cap',hc1',hc2,hvv⟩:=iC hI (aZ hI (fun _ _=>trivial) hav 0).1 hw;rw[gp hv]at hvv;rw[h0]at hx;simp at hx;subst hx;refine⟨v,uQ hrs hv,v,cs',rfl,hR.below,hb1,hc1,hlm,?_⟩;rcases hvv with⟨_,hq,_⟩|⟨b',o1,len,cap,cs2,o2,hq,htm,rfl,h0',hOb',hb2,_⟩
    ·simp[AV.tag]at hq
    ·have hbb:b'=b:=hq.1 rfl;subst hbb;rw[hb1]at hb2;simp at hb2;subst hb2;exact⟨o2,cap',rfl,⟨h0'.1,h0'.2.1,cS h0'.2.2.1 hq.2⟩,hc1',hc2⟩
  cases ee with
  |normal=>exact key hq
  |ret=>exact key hq
  |exit _=>exact hq.elim
  |goto _=>exact hq.elim
  |panic _=>exact hq.elim
  |outgrown=>exact hq.elim
theorem FP.intro(hT:bB P T){f:FuncId}{args L:List D}{r:MR}(hf:P.funcs[f]?=some fn)(hb:fn.body=some c)(hrs:fn.results.toList=rs)(hn:fn.ntmps=n)(hl:args.length+1≤n)(hnm:(fn.name=="runtime.NumGoroutine")=false)(hlen:L'.length=L.length)
  (h: ∀(B:Nat) (F0:Nat→Prop) (w0:dh),AW P B F0 w0 n c (OE T 0 rs e L' r) ((0,.wn true e L lo m)::fh 1 args)):FP P f e L lo m args L' r :=
 Ck.intro hT hf hb hrs hn (by simp;omega) hnm hlen h
theorem Rel.M1{a:Act}{w w':World}{b:Nat}{x x':AV}{cs cs0:Array Value}{e0:TypeId}{fz:Nat×Nat}{O:Nat→Option Nat}(hbb:w.heap[b]?=some (.cells cs0 e0 fz))(hbb':w'.heap[b]?=some (.cells cs e0 fz))(hbel:jq B w0 w w')(hold: ∀c,c<w.heap.size→c≠b→w'.heap[c]?=w.heap[c]?)(hR:Rel P B F0 w0 n σ a w)
  (hOr: ∀b t,O b=some t→kS B w0 w b) (hO: ∀t av,σ.get t=some av→ ∃v,a.tmps[t]?=some v∧fo P w0.X w O (FW B F0 w) σ.get (fun h=>a.tmps[h]?) t av v)
  (hx:σ.get h=some x) (hb:O b=some h) (hsame: ∃e l l',x.row=some (e,l)∧x'.row=some (e,l')∧l.length=l'.length∧x.tag=x'.tag)
  (hv: ∀v,a.tmps[h]?=some v→fo P w0.X w O (FW B F0 w) σ.get (fun h=>a.tmps[h]?) h x v→fo P w0.X w' O (FW B F0 w') σ.get (fun h=>a.tmps[h]?) h x' v)
  (hh:x'.home=true):Rel P B F0 w0 n ((h,x')::σ) a w':=by
 have hget: ∀t,St.get ((h,x')::σ) t=if h=t then some x' else σ.get t:=fun t=>St.aL _ _ _ _
 have hbase':B≤w'.heap.size:=cS hR.base hbel.size;refine⟨hR.below.trans hbel,hbase',hR.f0,hR.defers,hR.size,O,fun c t hc=>⟨(hOr c t hc).1,cn (hOr c t hc).2 hbel.size⟩,fun t av hav=>?_⟩;rw[hget]at hav;by_cases htd:h=t
 ·subst htd;simp at hav;subst hav;obtain⟨v,hv',hr⟩:=hO h x hx;refine⟨v,hv',(hv v hv' hr).mono (fun c hc=>FW.step hR.f0 hbase' (b2 _) c hc) (fun _ _=>rfl) (fun c u hc=>cn (hOr c u hc).2 hbel.size) (fun _ _=>rfl) (fun k hk=>?_)⟩;exfalso;cases x'<;>simp_all [AV.home,AV.refs]
 ·rw[if_neg htd]at hav;obtain⟨v,hv',hr⟩:=hO t av hav;refine⟨v,hv',?_⟩;have h1:fo P w0.X (w.setRow b cs) O (FW B F0 w) (St.get ((h,x')::σ)) (fun h=>a.tmps[h]?) t av v:=hr.write hb (fun e=>absurd e.symm htd) (fun _ hc=>hc) (fun k hk=>⟨fun ds hds=>?_,fun z e l hz hl=>?_⟩)
  ·refine h1.mono (fun c hc=>⟨by simpa using (FW.step hR.f0 hR.base (b2 _) c hc).1,(FW.step hR.f0 hR.base hbel.size c hc).2⟩) (fun _ _=>rfl) (fun c u hc=>by simpa using (hOr c u hc).2) (fun c hc=>?_) (fun k hk x hx hg=>⟨hg,rfl⟩);by_cases hcb:c=b
   ·subst hcb;rw[hbb',setRow_heap w c _ cs e0 fz hbb]
   ·rw[setRow_other w b c cs hcb];exact hold c (by simpa using hc) hcb
  ·rw[hget]at hds;split at hds
   ·rename_i hk';subst hk';simp at hds;subst hds;obtain⟨_,_,_,_,h2,_,_⟩:=hsame;simp[AV.row]at h2
   ·exact⟨ds,hds⟩
  ·rw[hget]at hz;split at hz
   ·rename_i hk';subst hk';simp at hz;subst hz;obtain⟨e',l1,l2,h1,h2,h3,h4⟩:=hsame;rw[h2]at hl;simp at hl;obtain⟨rfl,rfl⟩:=hl;exact⟨x,l1,hx,h1,h3,h4⟩
   ·exact⟨z,l,hz,hl,rfl,rfl⟩
def AE(T:Ty)(σ:St):List Operand→List Nat→Option (Nat×Nat×Nat×List D×Nat×Nat)
 |x::xs,t::ts=>match my σ.get (ex T σ.get t x)with
  |some (h,e,l,lo,m)=>some (0,h,e,l,lo,m)
  |none=>match AE T σ xs ts with
   |some (p,h,e,l,lo,m)=>some (p+1,h,e,l,lo,m)
   |none=>none
 |_,_=>none
theorem yL{T:Ty}{σ:St}: ∀{xs:List Operand} {ts:List Nat} {p h e lo m:Nat} {l:List D},AE T σ xs ts=some (p,h,e,l,lo,m)→ ∃x t,xs=xs.take p++x::xs.drop (p+1)∧xs[p]?=some x∧my σ.get (ex T σ.get t x)=some (h,e,l,lo,m)
 |[],_,_,_,_,_,_,_,h=>by simp[AE]at h
 |_::_,[],_,_,_,_,_,_,h=>by simp[AE]at h
 |x::xs,t::ts,p,hh,e,lo,m,l,h=>by
  simp only[AE]at h;split at h
  ·rename_i h1;simp at h;obtain⟨rfl,rfl,rfl,rfl,rfl,rfl⟩:=h;exact⟨x,t,by simp,rfl,h1⟩
  ·split at h<;>simp at h;rename_i h1;obtain⟨rfl,rfl,rfl,rfl,rfl,rfl⟩:=h;obtain⟨y,u,g1,g2,g3⟩:=yL h1;exact⟨y,u,by rw[List.take_succ_cons,gt,List.drop_succ_cons,←g1],by simpa using g2,g3⟩
def HQ(T:Ty)(σ:St):Op→Option (FuncId×Nat×AV×Nat×List D×Nat×Nat×List D×List D)
 | .call c=>match c.callee with
   | .value (.func f)=>match AE T σ c.args.toList c.argTypes.toList with
     |some (p,h,e,l,lo,m)=>match σ.get h,vk T σ.get (kt σ h) (c.args.toList.take p) (c.argTypes.toList.take p),vk T σ.get (kt σ h) (c.args.toList.drop (p+1)) (c.argTypes.toList.drop (p+1))with
      |some y,some d1,some d2=>some (f,h,y,e,l,lo,m,d1,d2)
      |_,_,_=>none
     |none=>none
   |_=>none
 |_=>none
def Ob(P:Program)(B:Nat)(F0:Nat→Prop)(w0:dh)(n:Nat)(σ:St)(a:Act)(h e:Nat)(y:AV)(l':List D)(r:MR)(v:Value)(w':World):Prop :=
 Rel P B F0 w0 n ((h,y.dC l')::σ) a w'∧ ∃b o1 len cap1 cs' G,l'≠[]∧(y.tag=true→w0.X b)∧a.tmps[h]?=some (.slice (some ⟨b,o1,none⟩) len cap1)∧w'.heap[b]?=some (.cells cs' e (0,0))∧Cells P w' G e l' cs'∧Od P e b cs'.size l' w' G r v
theorem D4(hT:bB P T){r:MR}(hx:HQ T σ o.op=some (f,h,y,e,l,lo,m,d1,d2))(hP:Ck P f e l lo m d1 d2 l' r)(h0:0<m)(hs:kA l'=true)
  {a:Act} {w:World} (hR:Rel P B F0 w0 n σ a w) (K:Act→World→Prop) (Q:Exit→Act→World→Prop) (hK: ∀v w',y.row=some (e,l)→Ob P B F0 w0 n σ a h e y l' r v w'→K (a.put o.dst v) w'):o.wp P a w K Q:=by
 obtain⟨O,hOr,hO⟩:=hR.own;have hI:Inv P B F0 w0 (fun _=>True) σ.get σ.get a w O:=⟨hR.below,hR.base,hR.f0,hOr,fun t _ av h=>hO t av h,fun t av h _=>hO t av h⟩;obtain⟨dst,op,ty,pos,after,guard⟩:=o;simp only[]at hx hK;cases op<;>simp only[HQ]at hx<;>try (cases hx;done)
 rename_i c;obtain⟨callee,args,ats⟩:=c;simp only[]at hx;split at hx<;>try (cases hx;done)
 rename_i g;split at hx<;>try (cases hx;done)
 rename_i p h' e' l1 lo' m' hw;split at hx<;>simp at hx;rename_i y' d1' d2' hy hds1 hds2;obtain⟨rfl,rfl,rfl,rfl,rfl,rfl,rfl,rfl,rfl⟩:=hx;obtain⟨x,t,hxs,_,hwx⟩:=yL hw;cases hxe:ex T σ.get t x with
 |none=>rw[hxe]at hwx;simp[my]at hwx
 |some av =>
 rw[hxe]at hwx;obtain⟨z,hz,hrow,hlm,cap,hcap,hmax,hv⟩:=iC hI (aZ hI (fun _ _=>trivial) hxe 0).1 hwx;rw[hy]at hz;simp at hz;subst hz;rcases hv with⟨hl0,_⟩|⟨b,o1,len,cap1,cs,off,hq,htm,hev,h0',hOb,hb,hu,hcells⟩
 ·omega
 have hIh:=hR.inv hOr hO (fun _=>True) h';have hG1: ∀c,aQ O (FW B F0 w) c→FW B F0 w c∧O c≠some h':=fun c hc=>⟨hc.2,by rw[hc.1];simp⟩;have hG2: ∀c t y,O c=some t→kt σ h' t=some y→y.home=true→FW B F0 w c∧O c≠some h':=fun c t y hc ht _=>⟨(hOr c t hc).fw hR.f0,by rw[hc];simpa using (sZ ht).1⟩;have hargs1:=mW hT hIh (G:=fun c=>FW B F0 w c∧O c≠some h') hG1 hG2 _ _ d1' (fun _ _ _ _=>trivial) hds1;have hargs2:=mW hT hIh (G:=fun c=>FW B F0 w c∧O c≠some h') hG1 hG2 _ _ d2' (fun _ _ _ _=>trivial) hds2
 have hcall:=hP.2.2 w (fun c=>FW B F0 w c∧O c≠some h') b off cap cs _ _ (fun c hc=>⟨(FW.step hR.f0 hR.base (b2 _) c hc.1).1,fun e=>hc.2 (e▸hOb)⟩) hb ⟨h0'.1,h0'.2.1,cS h0'.2.2.1 hq.2⟩ hlm hcap hmax
  ⟨hu,fun i d hd=>by obtain⟨f1,u,f2,f3⟩:=hcells i d hd;exact⟨f1,u,f2,f3.mono hG1 (fun _ _=>rfl)⟩⟩ hargs1.1 hargs1.2 hargs2.1 hargs2.2
 unfold Oper.wp;rw[mT hP.1];show Calls P g (args.map a.eval) w _
 have he:((args.toList.take p).map a.eval++g6 (some ⟨b,off,none⟩) m' cap::(args.toList.drop (p+1)).map a.eval).toArray=args.map a.eval:=by
  rw[←hev];apply kw;rw[Array.toList_map]
  conv=>rhs;rw[hxs]
  simp
 rw[he]at hcall;have hbs:=(hOr b h' hOb);refine hcall.mono fun ee w' ⟨v,cs',he,hbel,hb',hc',hr⟩=>?_;subst he;have hsz:=hbel.size
 have hbelB:jq B w0 w w':=⟨hbel.os,hbel.tape,hbel.output,hbel.size,fun k hk hxk=>hbel.block k (cn hk hR.base) (fun e=>by
  subst e;rcases hbs.1 with h1|h1
  ·omega
  ·exact hxk h1),hbel.same⟩
 have hcsz:cs'.size=cs.size:=by obtain⟨c2,h1,h2⟩:=hbel.same b cs _ _ hb;rw[hb']at h1;simp at h1;rw[h1];exact h2
 have hR1:Rel P B F0 w0 n ((h',y'.dC l')::σ) a w':=by refine Rel.M1 hb hb' hbelB (fun c hc hne=>hbel.block c hc hne) hR hOr hO hy hOb ⟨_,_,_,hrow,(eI hrow).1,hP.2.1.symm,(eI hrow).2.2.symm⟩ (fun v hv hr=>?_) (eI hrow).2.1;rw[htm]at hv;simp at hv;subst hv;exact pQ hr hrow hb hb' hcsz hP.2.1 (fun e=>by subst e;simp at hlm;omega) hc'.1 (fun i d hd=>by obtain⟨f1,u,f2,f3⟩:=hc'.2 i d hd;exact⟨f1,u,f2,f3.plain (re hs hd)⟩)
 exact hK v w' hrow ⟨hR1,b,o1,len,cap1,cs',_,fun e=>by have h1:=hP.2.1;rw[e]at h1;simp at h1;omega,hq.1,htm,hb',hc',hr⟩
theorem eS.AD(hT:bB P T)(hd:o.dst=some d)(hdn:d<n)(hx:HQ T σ o.op=some (f,h,y,e,l,lo,m,d1,d2))(hP:Ck P f e l lo m d1 d2 l' (.val res))(h0:0<m)(hs:kA l'=true)(hne:h≠d):
  eS P B F0 w0 n o σ ((d,.d res)::(h,y.dC l')::σ):=by
 intro a w hR K Q hK;refine D4 hT hx hP h0 hs hR K Q fun v w' _ ⟨hR1,b,o1,len,cap1,cs',G,_,_,_,_,_,hr⟩=>?_;obtain⟨O2,hOr2,hO2⟩:=hR1.own;rw[hd];have hput:=hR1.put (d:=d) (av:=.d res) (v:=v) hOr2 hO2 hdn (dG.refl (fun b t hb=>(hOr2 b t hb).2)) (hr.2.scalar hr.1);exact hK _ _ hput
theorem eS.vi(hT:bB P T){lo' m':Nat}(hd:o.dst=some d)(hdn:d<n)(hx:HQ T σ o.op=some (f,h,y,e,l,lo,m,d1,d2))(hP:Ck P f e l lo m d1 d2 l' (.part lo' m'))(h0:0<m)(hs:kA l'=true)(hne:h≠d):
  eS P B F0 w0 n o σ ((d,.wn y.tag e l' lo' m')::(h,.junk)::St.kill d ((h,y.dC l')::σ)):=by
 intro a w hR K Q hK;refine D4 hT hx hP h0 hs hR K Q fun v w' hrow ⟨hR1,b,o1,len,cap1,cs',G,hne',hX,htm,hb',hc',hr⟩=>?_;obtain⟨O2,hOr2,hO2⟩:=hR1.own;obtain⟨hlm2,o2,cap2,rfl,h02,hc2,hm2⟩:=hr;have hget:St.get ((h,y.dC l')::σ) h=some (y.dC l'):=by rw[St.aL,if_pos rfl]
 obtain⟨u,hu,hur⟩:=hO2 h _ hget;rw[htm]at hu;simp at hu;subst hu;rw[hd];refine hK _ _ (hR1.consume (O':=tJ O2 h d) hO2 hdn hne ⟨_,hget⟩ rfl (.refl _ _ _) (oI hOr2) (fun c hc=>⟨⟨fG.2 hc.1,hc.2⟩,rfl⟩) (fun c t hc h1 h2=>⟨gD hc h1 h2,rfl⟩) ?_)
 have hOb:O2 b=some h:=by
  rcases mG hur (eI hrow).1 with⟨h1,_⟩|⟨_,_,h1,_⟩
  ·exact absurd h1 hne'
  ·exact h1
 exact .inr ⟨b,o2,cap2,cs',hX,rfl,⟨h02.1,h02.2.1,h02.2.2⟩,by simp[tJ,hOb],hb',hlm2,hc2,hm2,hc'.1,fun i dd hdd=>by
  obtain⟨f1,u,f2,f3⟩:=hc'.2 i dd hdd
  exact⟨f1,u,f2,f3.plain (re hs hdd)⟩⟩
end
end Lift
namespace Lift
open Go
variable {y:AV}{f:FuncId}{d1 d2 l l' xas:List D}{e h lo m:Nat}
section
variable {P:Program} {T:Ty} {B:Nat} {F0:Nat→Prop} {w0:dh} {n:Nat} {o:Oper} {d:Nat} {σ:St} {K:St→Prop} {all ops:Array Oper} {rest:List Oper} {ds:List Nat} {σ0 τ:St}
theorem ae.Og(hT:bB P T){a0:Nat}{lo hi:Option Int}(hd:o.dst=some d)(hdn:d6 (d+1) n=true)(hg:aJ all σ o=true)(hx:Ni T σ.get (kt σ d) o.op=some (h,l,a0,m,lo,hi))(g1:okB lo)(g2:okB hi)(g3:gA lo≤dm m hi)(g4:dm m hi≤m)
  (hk:ae P B F0 w0 n all rest K ((d,.sb h (a0+gA lo) (dm m hi-gA lo))::σ)):ae P B F0 w0 n all (o::rest) K σ:=ae.pure hg hdn (aM.Og hT hd (bq σ d) hx g1 g2 g3 g4) hk
theorem ae.yD(hT:bB P T){L:List D}(hd:o.dst=some d)(hdn:d6 (d+1) n=true)(hg:aJ all σ o=true)(hx:yE T σ.get (kt σ d) o.op=some (f,xas))(hP:mX P f xas e L lo m)(hs:kA L=true)
  (hk:ae P B F0 w0 n all rest K ((d,.wn false e L lo m)::σ.kill d)):ae P B F0 w0 n all (o::rest) K σ:=ae.pure hg hdn (aM.yD hT hd (bq σ d) hx hP hs) hk
theorem ae.AD(hT:bB P T){res:D}(hd:o.dst=some d)(hdn:d6 (d+1) n=true)(hg:aJ all σ o=true)(hx:HQ T σ o.op=some (f,h,y,e,l,lo,m,d1,d2))(hP:Ck P f e l lo m d1 d2 l' (.val res))(h0:0<m)(hs:kA l'=true)(hne:d7 h d=false)
  (hk:ae P B F0 w0 n all rest K ((d,.d res)::(h,y.dC l')::σ)):ae P B F0 w0 n all (o::rest) K σ:=ae.op hg (eS.AD hT hd (bz hdn) hx hP h0 hs (gy hne)) hk
theorem ae.vi(hT:bB P T){lo' m':Nat}(hd:o.dst=some d)(hdn:d6 (d+1) n=true)(hg:aJ all σ o=true)(hx:HQ T σ o.op=some (f,h,y,e,l,lo,m,d1,d2))(hP:Ck P f e l lo m d1 d2 l' (.part lo' m'))(h0:0<m)(hs:kA l'=true)(hne:d7 h d=false)
  (hk:ae P B F0 w0 n all rest K ((d,.wn y.tag e l' lo' m')::(h,.junk)::St.kill d ((h,y.dC l')::σ))):ae P B F0 w0 n all (o::rest) K σ:=ae.op hg (eS.vi hT hd (bz hdn) hx hP h0 hs (gy hne)) hk
theorem ai.yD(hT:bB P T){L:List D}(hd:o.dst=some d)(hdn:d6 (d+1) n=true)(hg:aJ ops τ o=true)(hs:σ0.get d=none)(hx:yE T τ.get σ0.get o.op=some (f,xas))(hP:mX P f xas e L lo m)(hsc:kA L=true)
  (h:ai P B F0 w0 n ops ds σ0 rest ((d,.wn false e L lo m)::τ) K):ai P B F0 w0 n ops ds σ0 (o::rest) τ K:=ai.pure hd hdn rfl hg (aM.yD hT hd hs hx hP hsc) h
def Qf{S:Type}(ks:List Nat)(mk:S→St)(I:S→Prop)(Q:Exit→St→Prop):Exit→St→Prop
 | .normal,σ=> ∃s,σ.fc ks=mk s∧I s
 | .exit i,σ=>Q (.exit i) σ
 | .goto i,σ=>Q (.goto i) σ
 | .ret,σ=>Q .ret σ
 | .panic c,σ=>Q (.panic c) σ
 | .outgrown,σ=>Q .outgrown σ
theorem AW.cut{x y:Code}{Q:Exit→St→Prop}{S:Type}(ks:List Nat)(mk:S→St)(I:S→Prop)(hx:AW P B F0 w0 n x (Qf ks mk I Q) σ)(hy: ∀s,I s→AW P B F0 w0 n y Q (mk s)):AW P B F0 w0 n (.seq x y) Q σ:=by
 refine AW.seq (AW.mono hx fun e σ' hq=>?_);cases e with
 |normal =>
  obtain⟨s,h1,h2⟩:=hq;exact AW.fc ks<|h1▸hy s h2
 |_=>exact hq
end
end Lift
namespace Lift
open Go
open Go.RowKit (Below)
variable {av x:AV}{listed:Array Bool}{ops:Array Oper}{Q:Exit→St→Prop}{wl:List (Nat×AV)}{l ys:List D}{ds hs:List Nat}{B d e h i j k lo m n t:Nat}{hm lk lk':Nat→Option AV}{F0:Nat→Prop}{o:Oper}{P:Program}{σ σ' τ:St}{K:St→Prop}{T:Ty}{w0:dh}
section
variable {all:Array Oper} {rest:List Oper}
theorem OI{X:Nat→Prop}{w:World}{O:Nat→Option Nat}{F:Nat→Prop}{tm:Nat→Option Value}{v:Value}(h:fo P X w O F hm tm t (.ow e l) v):fo P X w O F hm tm t (.wn false e l 0 l.length) v:=by
 rcases h with⟨base,rfl,rfl⟩|⟨b,cap,cs,h1,h2,h3,h4,h5,h6,h7,h8⟩
 ·exact .inl ⟨rfl,base,rfl,rfl,rfl,rfl⟩
 ·exact .inr ⟨b,0,cap,cs,fun h=>by(cases h),h1,⟨.inr (by simp),.inr (by simp),by omega⟩,h2,h3,by omega,h4,h5,h7,h8⟩
def PK(T:Ty)(σ:St):Op→Option (Nat×AV×Nat×List D×Nat×Nat×List D)
 | .call c=>match c.callee with
   | .builtin .copy=>match c.args.toList,c.argTypes.toList with
     |[x,y],[t,u]=>match T.get t,my σ.get (ex T σ.get t x),y6 T σ.get (ex T σ.get u y)with
      |some ti,some (h,e,l,lo,m),some (s,ys)=>match d7 ti.kind 4,d7 e ti.elem,T.get ti.elem,σ.get h with
       |true,true,some te,some av=>match d7 te.size 1,d7 s 1 with
        |true,true=>some (h,av,e,l,lo,m,ys)
        |_,_=>none
       |_,_,_,_=>none
      |_,_,_=>none
     |_,_=>none
   |_=>none
 |_=>none
theorem eS.copy(hT:bB P T)(hd:o.dst=some d)(hdn:d<n)(hx:PK T σ o.op=some (h,av,e,l,lo,m,ys))(hm:0<m)(hy:ys≠[]):
  eS P B F0 w0 n o σ ((d,.d (.v (.int .i64 ((min ys.length m:Nat):Int))))::(h,av.dC (l.take lo++ys.take (min ys.length m)++l.drop (lo+min ys.length m)))::σ):=by
 intro a w hR K Q hK;obtain⟨O,hOr,hO⟩:=hR.own;have hI:Inv P B F0 w0 (fun _=>True) σ.get σ.get a w O:=⟨hR.below,hR.base,hR.f0,hOr,fun t _ av h=>hO t av h,fun t av h _=>hO t av h⟩;obtain⟨dst,op,ty,pos,after,guard⟩:=o;simp only[]at hd hx;subst hd;cases op<;>simp only[PK]at hx<;>try (cases hx;done)
 rename_i c;obtain⟨callee,args,ats⟩:=c;simp only[]at hx;split at hx<;>try (cases hx;done)
 split at hx<;>try (cases hx;done)
 rename_i x y t u hxy htu;split at hx<;>try (cases hx;done)
 rename_i ti h' e' l' lo' m' s ys' hti hw hys;split at hx<;>try (cases hx;done)
 rename_i te av' hk hee hte hav;split at hx<;>simp at hx;rename_i hts hss;obtain⟨rfl,rfl,rfl,rfl,rfl,rfl,rfl⟩:=hx;have hee:=cA hee;subst hee;have hts:=cA hts;have hss:=cA hss;subst hss;have hargs:args= #[x,y]:=by apply kw;simpa using hxy
 have hats:ats= #[t,u]:=by apply kw;simpa using htu
 subst hargs;subst hats;obtain⟨info,dd,z,hok⟩:=hT t ti hti;obtain⟨info',dd',z',hok'⟩:=hT _ te hte;have hun:=(hok.kg hk).1;have hsz:info'.size=1:=hok'.size.trans hts;have hcel:P.cellsOf ti.elem=1:=hok'.cellsOf.trans hts;cases hxe:ex T σ.get t x with
 |none=>rw[hxe]at hw;simp[my]at hw
 |some avx =>
 cases hye:ex T σ.get u y with
 |none=>rw[hye]at hys;simp[y6]at hys
 |some avy =>
 rw[hxe]at hw;rw[hye]at hys;obtain⟨zz,hz,hrow,hlm,cap,hcap,hmax,hv⟩:=iC hI (aZ hI (fun _ _=>trivial) hxe 0).1 hw;rw[hav]at hz;simp at hz;subst hz;obtain⟨ad,cap',hyv,kt,hall⟩:=mC hT hI (aZ hI (fun _ _=>trivial) hye 0).1 hys;rcases hv with⟨hl0,_⟩|⟨b,o1,len,cap1,cs,off,hq,htm,hev,h0',hOb,hb,hu,hcells⟩
 ·omega
 rw[hcel]at h0' hu;have hoff:off=lo':=by have:=h0'.1;omega
 subst hoff;rcases hall with h|⟨sa,news,rfl,g1,g2,g3,g4⟩
 ·exact absurd h hy
 have hylen:0<ys'.length:=cw.2 hy;rw[aR g2,c6]at g1;obtain⟨k,hkk⟩: ∃k,k=min ys'.length m':=⟨_,rfl⟩;rw[←hkk]at hK
 have hcsl:l'.length≤cs.size:=by
  have h1:=aR hu;rw[c6]at h1;rcases bv l'.length with h0|h0
  ·omega
  ·obtain⟨_,u,f2,_⟩:=hcells (l'.length-1) _ (az (by omega));have:=(c0.1 f2).1;omega
 have hrun:=run_copy_row (P:=P) w t u ty ti.elem b off m' cap sa ys'.length cap' cs ti.elem (news.take k) hun (by rw[hok'.hinfo];simp[hsz]) hb
  (by rw[co,g1,hkk];show min (min ys'.length m') ys'.length=min ys'.length m';omega) (fun j v hj=>by
   rw[cm]at hj;split at hj
   ·exact g3 j v hj
   ·cases hj) (by rw[co];omega) (fun v hv=>g4.yC v (cC hv))
 have hnk:(news.take k).length=k:=by rw[co];omega
 rw[hnk]at hrun;obtain⟨cs',hcs'⟩: ∃cs',cs'=(cs.toList.take off++news.take k++cs.toList.drop (off+k)).toArray:=⟨_,rfl⟩;rw[←hcs']at hrun
 have hss:cs'.size=cs.size:=by rw[hcs'];simp only[List.size_toArray,f8,co,it,Array.length_toList];omega
 have hex:(execOp a.eval {dst:=some d,op:=.call {callee:=.builtin .copy,args:= #[x,y],argTypes:= #[t,u]},type:=ty,pos:=pos,after:=after,guard:=guard}).run P w= .ok (.value (goInt k)) (w.setRow b cs'):=by simp[execOp,resolve,invoke,builtin,hev,hyv,hrun]
 refine bh hex ?_
 have hR1:Rel P B F0 w0 n ((h',av'.dC (l'.take off++ys'.take k++l'.drop (off+k)))::σ) a (w.setRow b cs'):=by
  refine Rel.write hb hss hR hOr hO hav hOb (.inr ⟨_,_,_,hrow,(eI hrow).1,by simp only[f8,co,it];omega,(eI hrow).2.2.symm⟩) (fun v hv hr=>?_) (eI hrow).2.1;rw[htm]at hv;simp at hv;subst hv;refine pQ hr hrow hb (setRow_heap w b cs _ ti.elem _ hb) hss (by simp only[f8,co,it];omega) (fun h0=>by subst h0;simp at hlm;omega) (fun x hx=>?_) fun j dd hj=>?_
  ·rw[hcel];rcases gB.1 hx with hx|hx
   ·rcases gB.1 hx with hx|hx
    ·exact hu x (cC hx)
    ·exact g2 x (cC hx)
   ·exact hu x (j2 hx)
  ·have hB: ∀c,aQ O (FW B F0 w) c→(w.setRow b cs').heap[c]?=w.heap[c]?:=fun c hc=>setRow_other w b c _ (fun e=>by rw[e,aQ,hOb]at hc;cases hc.1);have fl: ∀(q:List D),(∀x,x∈q→x.flat.length=1)→(flatAll q).length=q.length:=fun q hq=>by rw[aR hq,c6]
   have f1:=fl (l'.take off) (fun x hx=>hu x (cC hx));have f2:=fl (ys'.take k) (fun x hx=>g2 x (cC hx));have e1:flatAll l'=flatAll (l'.take off)++flatAll (l'.drop off):=by rw[←cD,cx]
   have e2:flatAll ys'=flatAll (ys'.take k)++flatAll (ys'.drop k):=by rw[←cD,cx]
   have e3:flatAll l'=flatAll (l'.take (off+k))++flatAll (l'.drop (off+k)):=by rw[←cD,cx]
   have f3:=fl (l'.take (off+k)) (fun x hx=>hu x (cC hx));rw[co]at f1 f2 f3;rw[cD,cD]at hj;have hcg:cs'[j]?=(cs.toList.take off++news.take k++cs.toList.drop (off+k))[j]?:=by rw[hcs',List.getElem?_toArray]
   rw[hcg];rw[ka]at hj;rw[f8]at hj;split at hj
   ·rename_i hj1;rw[ka]at hj;split at hj
    ·rename_i hj2;have h1:(flatAll l')[j]?=some dd:=by rw[e1,bn hj2];exact hj
     obtain⟨q1,v,q2,q3⟩:=hcells j dd h1;exact⟨q1,v,by rw[b8,bn (by simp;omega),i6 (by omega)];simpa using q2,q3.mono (fun _ h=>by simpa[aQ,FW]using h) hB⟩
    ·rename_i hj2;have h1:(flatAll ys')[j-(flatAll (l'.take off)).length]?=some dd:=by rw[e2,bn (by omega)];exact hj
     obtain⟨q1,v,q2,q3⟩:=g4.get h1
     exact⟨q1,v,by
      rw[b8,b1 (by simp;omega),bn (by simp;omega),i6 (by simp;omega),←q2]
      congr 1
      simp
      omega,q3.mono (fun _ h=>by simpa[aQ,FW]using h) hB⟩
   ·rename_i hj1
    have h1:(flatAll l')[j]?=some dd:=by
     rw[e3,b1 (by omega),←hj]
     congr 1
     omega
    obtain⟨q1,v,q2,q3⟩:=hcells j dd h1
    exact⟨q1,v,by
     rw[b1 (by simp;omega),cd];rw[←q2];simp
     congr 1
     omega,q3.mono (fun _ h=>by simpa[aQ,FW]using h) hB⟩
 obtain⟨O2,hOr2,hO2⟩:=hR1.own;exact hK _ _ (hR1.put (d:=d) (av:=.d (.v (.int .i64 (k:Int)))) (v:=goInt k) hOr2 hO2 hdn (dG.refl (fun b t hb=>(hOr2 b t hb).2)) (.v rfl))
theorem ae.copy(hT:bB P T)(hd:o.dst=some d)(hdn:d6 (d+1) n=true)(hg:aJ all σ o=true)(hx:PK T σ o.op=some (h,av,e,l,lo,m,ys))(hm:0<m)(hy:ys≠[])
  (hk:ae P B F0 w0 n all rest K ((d,.d (.v (.int .i64 ((min ys.length m:Nat):Int))))::(h,av.dC (l.take lo++ys.take (min ys.length m)++l.drop (lo+min ys.length m)))::σ)):ae P B F0 w0 n all (o::rest) K σ :=
 ae.op hg (eS.copy hT hd (bz hdn) hx hm hy) hk
def addEdge(i j:Nat)(o:Oper):Oper:=match d7 i j with
 |true=>o
 |false=>⟨o.dst,o.op,o.type,o.pos,o.after.push ⟨i,.data⟩,o.guard⟩
def gK(i:Nat)(ops:Array Oper):Array Oper:=(ops.toList.zipIdx.map fun x=>addEdge i x.2 x.1).toArray
theorem l6(i:Nat)(ops:Array Oper)(j:Nat):(gK i ops)[j]?=(ops[j]?).map (addEdge i j):=by unfold gK;simp[List.getElem?_zipIdx];cases ops[j]?<;>simp
theorem B7(i:Nat)(ops:Array Oper):(gK i ops).size=ops.size:=by simp[gK]
theorem Cj(i:Nat)(o:Oper):addEdge i i o=o:=by simp[addEdge]
theorem rL(i j:Nat)(o:Oper):(addEdge i j o).op=o.op∧(addEdge i j o).dst=o.dst∧(addEdge i j o).guard=o.guard:=by unfold addEdge;split<;>exact⟨rfl,rfl,rfl⟩
theorem nQ(i j:Nat)(o:Oper)(ρ:Operand→Value):execOp ρ (addEdge i j o)=execOp ρ o:=by
 unfold addEdge;split
 ·rfl
 ·obtain⟨dst,op,ty,pos,after,guard⟩:=o;rfl
def Gx(ops:Array Oper):Bool:=ops.toList.all fun o=>match o.op with
 | .select _ _=>false
 |_=>true
section
variable {Q:Exit→Act→World→Prop} 
theorem rS(i j:Nat){K:Act→World→Prop}{a:Act}{w:World}(h:wpOp P (gK i ops) Q j K a w):wpOp P ops Q j K a w:=by
 unfold wpOp at *;rw[l6]at h;cases ho:ops[j]? with
 |none=>rw[ho]at h;exact h
 |some o =>
  rw[ho]at h;simp only[d9]at h ⊢;obtain⟨e1,e2,e3⟩:=rL i j o
  have hy: ∀g,yielded (gK i ops) a.tmps g=yielded ops a.tmps g:=fun g=>by
   unfold yielded;rw[l6];cases ops[g]? with
   |none=>rfl
   |some og=>simp only[d9,Option.bind_some,(rL i g og).2.1]
  have hw:dl (addEdge i j o) (yielded (gK i ops) a.tmps)=dl o (yielded ops a.tmps):=by
   unfold dl;rw[e3];split
   ·rfl
   ·rw[hy]
  rw[hw,e2]at h
  have hwp:(addEdge i j o).wp P a w K Q→o.wp P a w K Q:=fun h=>by
   unfold Oper.wp at *;rw[nQ]at h;generalize (execOp a.eval o).run P w=r at *;cases r with
   |ok n w'=>cases n<;>simp only[ja,e2]at h ⊢ <;>exact h
   |halt x w'=>cases x<;>simp only[ja]at h ⊢ <;>exact h
  have has:(addEdge i j o).asks P a w→o.asks P a w:=fun h=>by unfold Oper.asks at *;rw[nQ]at h;exact h
  split
  ·rename_i hc;rw[if_pos hc]at h;rcases h with h|⟨h1,h2⟩
   ·exact .inl (hwp h)
   ·exact .inr ⟨has h1,h2⟩
  ·rename_i hc;rw[if_neg hc]at h;exact h
theorem mb(hi:listed.getD i false=true)(j:Nat):j∈ek .any (gK i ops) listed↔j∈ek .any ops listed:=by
 rw[mem_ready,mem_ready,l6];refine and_congr n3 ⟨fun⟨o,ho,hall⟩=>?_,fun⟨o,ho,hall⟩=>?_⟩
 ·cases hj:ops[j]? with
  |none=>rw[hj]at ho;cases ho
  |some oj =>
   rw[hj]at ho;simp at ho;subst ho;refine⟨oj,rfl,fun e he hb=>hall e ?_ hb⟩;unfold addEdge;split
   ·exact he
   ·simp[he]
 ·refine⟨addEdge i j o,by rw[ho];rfl,fun e he hb=>?_⟩;unfold addEdge at he;split at he
  ·exact hall e he hb
  ·simp at he;rcases he with he|rfl
   ·exact hall e he hb
   ·exact hi
theorem qk{i:Nat}: ∀(f:Nat) (listed:Array Bool) (a:Act) (w:World),listed.getD i false=true→wpAny P .any (gK i ops) Q f listed a w→wpAny P .any ops Q f listed a w
 |0,listed,a,w,hi,h=>by refine⟨?_,h.2⟩;apply iv.2;intro j hj;have:=(mb hi j).2 hj;rw[h.1]at this;cases this
 |f+1,listed,a,w,hi,h=>by
  refine⟨fun hn=>h.1 ?_,fun j hj=>?_⟩
  ·apply iv.2;intro j hj;have:=(mb hi j).1 hj;rw[hn]at this;cases this
  ·refine wpOp_mono (fun a' w' h'=>qk f _ a' w' (getD_set_true hi) h') (rS i j (h.2 j ((mb hi j).2 hj)))
end
end
def St.wo(hs:List Nat):St→St
 |[]=>[]
 |(k,a)::r=>match rC k hs with
  |true=>St.wo hs r
  |false=>(k,a)::St.wo hs r
theorem JP(hs:List Nat)(σ:St)(t:Nat):(σ.wo hs).get t=if t∈hs then none else σ.get t:=by
 induction σ with
 |nil=>simp[St.wo,St.get]
 |cons e r ih =>
  obtain⟨k,a⟩:=e;simp only[St.wo];split
  ·rename_i h;have h:=fI.1 h;rw[ih,St.aL];by_cases hk:k=t
   ·subst hk;simp[h]
   ·simp[hk]
  ·rename_i h;have h:k ∉ hs:=fun e=>by rw[fI.2 e]at h;cases h
   rw[St.aL,St.aL,ih];by_cases hk:k=t
   ·subst hk;simp[h]
   ·simp[hk]
theorem AH(h:(σ.wo hs).get t=some av):t ∉ hs∧σ.get t=some av:=by
 rw[JP]at h;split at h
 ·cases h
 ·rename_i hn;exact⟨hn,h⟩
def qi(listed:Array Bool):Nat→List (Nat×AV)→St
 |_,[]=>[]
 |k,e::r=>match listed.getD k false with
  |true=>e::qi listed (k+1) r
  |false=>qi listed (k+1) r
theorem iK{listed:Array Bool}{t:Nat}: ∀(l:List (Nat×AV)) (k:Nat),(∀(i:Nat) (e:Nat×AV),l[i]?=some e→listed.getD (k+i) false=true→e.1≠t)→(qi listed k l).get t=none
 |[],k,h=>rfl
 |e::r,k,h=>by
  have ih:=iK r (k+1) (fun i e' he hl=>h (i+1) e' (by simpa using he) (by rw[show k+(i+1)=k+1+i by omega];exact hl));simp only[qi];split
  ·rename_i hl;obtain⟨k',a⟩:=e;rw[St.aL,if_neg (h 0 (k',a) rfl hl)];exact ih
  ·exact ih
theorem uB{listed:Array Bool}{t:Nat}{av:AV}: ∀(l:List (Nat×AV)) (k i:Nat),(∀(i j:Nat) (a b:AV),l[i]?=some (t,a)→l[j]?=some (t,b)→i=j)→l[i]?=some (t,av)→listed.getD (k+i) false=true→(qi listed k l).get t=some av
 |[],k,i,_,h,_=>by simp at h
 |e::r,k,0,hd,h,hl=>by simp at h;subst h;simp only[dx]at hl;simp only[qi,hl];rw[St.aL,if_pos rfl]
 |e::r,k,i+1,hd,h,hl=>by
  have ih:=uB r (k+1) i (fun i j a b h1 h2=>by have:=hd (i+1) (j+1) a b (by simpa using h1) (by simpa using h2);omega) (by simpa using h) (by rw[show k+1+i=k+(i+1) by omega];exact hl);simp only[qi];split
  ·obtain⟨k',a⟩:=e
   have hne:k'≠t:=fun e=>by subst e;have:=hd 0 (i+1) a av rfl h;omega
   rw[St.aL,if_neg hne];exact ih
  ·exact ih
theorem CG{op:Op}(h:qS T τ op=some σ'): ∃t p x i h off ds y,op= .store t p x∧T.get t=some i∧ex T τ.get 0 p=some (.pt h off)∧dO T (ex T τ.get t x)=some y∧τ.get h=some (.bx ds) ∧
  xL y=true∧d7 y.flat.length i.size=true∧d6 (off+y.flat.length) ds.length=true∧σ'=(h,.bx (ds.take off++y.flat++ds.drop (off+y.flat.length)))::τ:=by
 cases op<;>simp only[qS]at h<;>try (cases h;done)
 rename_i t p x;split at h<;>try (cases h;done)
 rename_i i k off y hi hp hx;split at h<;>try (cases h;done)
 rename_i ds hh hnt hs;split at h<;>try (cases h;done)
 rename_i hl;exact⟨t,p,x,i,k,off,ds,y,rfl,hi,hp,hx,hh,hnt,hs,hl,(jj h).symm⟩
theorem IS{op:Op}{off:Nat}{xh:AV}{y:D}(hx:Gf T τ op=some (h,xh,l,i,off,y)): ∃t p x ti e,op= .store t p x∧T.get t=some ti∧ex T τ.get 0 p=some (.el h i off)∧dO T (ex T τ.get t x)=some y∧τ.get h=some xh∧xh.row=some (e,l) ∧
  xL y=true∧d7 y.flat.length ti.size=true:=by
 cases op<;>simp only[Gf]at hx<;>try (cases hx;done)
 rename_i t p x;split at hx<;>try (cases hx;done)
 rename_i ti h' i' off' y' hti hp hy;split at hx<;>try (cases hx;done)
 rename_i xh' hg;split at hx<;>try (cases hx;done)
 rename_i e l' hrow;split at hx<;>simp at hx;rename_i h1 h2;obtain⟨rfl,rfl,rfl,rfl,rfl,rfl⟩:=hx;exact⟨t,p,x,ti,e,rfl,hti,hp,hy,hg,hrow,h1,h2⟩
inductive uG (T:Ty) (τ:St) (o:Oper) (h:Nat):AV→Prop
 |bx {av:AV} (hs:qS T τ o.op=some ((h,av)::τ)):uG T τ o h av
 |el {xh:AV} {l:List D} {i off:Nat} {y old:D} (hx:Gf T τ o.op=some (h,xh,l,i,off,y)) (hold:l[i]?=some old) (hok:zo old y off=true):uG T τ o h (xh.dC (l.set i (oW old y off)))
theorem uG.spec(hs:uG T τ o h av): ∃t p x q y xh,o.op= .store t p x∧ex T τ.get 0 p=some q∧((∃off,q= .pt h off)∨ ∃i off,q= .el h i off)∧dO T (ex T τ.get t x)=some y∧τ.get h=some xh∧xh.home=true∧av.home=true ∧
  ∀(σ:St),ex T σ.get 0 p=ex T τ.get 0 p→ex T σ.get t x=ex T τ.get t x→σ.get h=some xh→uG T σ o h av:=by
 cases hs with
 |bx hs =>
  obtain⟨t,p,x,i,h',off,ds,y,hop,hi,hp,hx,hg,hnt,hsz,hle,he⟩:=CG hs;simp only[List.cons.injEq,Prod.mk.injEq,and_true]at he;obtain⟨rfl,rfl⟩:=he;refine⟨t,p,x,_,y,_,hop,hp,.inl ⟨off,rfl⟩,hx,hg,rfl,rfl,fun σ h1 h2 h3=>.bx ?_⟩;rw[hop];simp only[qS,hi,h1,hp,h2,hx,h3,hnt,hsz,hle]
 | @el xh l i off y old hx hold hok =>
   obtain⟨t,p,x,ti,e,hop,hti,hp,hy,hg,hrow,hnt,hsz⟩:=IS hx;refine⟨t,p,x,_,y,xh,hop,hp,.inr ⟨i,off,rfl⟩,hy,hg,dQ (by rw[hrow];rfl),(eI hrow).2.1,fun σ h1 h2 h3=>.el ?_ hold hok⟩;rw[hop];simp only[Gf,hti,h1,hp,h2,hy,h3,hrow,hnt,hsz]
def m8(T:Ty)(τ:St):List Nat→List Oper→List (Nat×AV)→Prop
 |[],[],[]=>True
 |h::hs,o::r,(h',av)::wl=>h'=h∧uG T τ o h av∧m8 T τ hs r wl
 |[],[],_::_=>False
 |[],_::_,_=>False
 |_::_,[],_=>False
 |_::_,_::_,[]=>False
theorem m8.nil:m8 T τ [] [] []:=trivial
theorem m8.cons{r:List Oper}(h1:uG T τ o h av)(h2:m8 T τ hs r wl):m8 T τ (h::hs) (o::r) ((h,av)::wl):=⟨rfl,h1,h2⟩
theorem m8.spec{T:Ty}{τ:St}: ∀{hs:List Nat} {l:List Oper} {wl:List (Nat×AV)},m8 T τ hs l wl→wl.length=hs.length∧l.length=hs.length ∧
  ∀(k:Nat) (o:Oper) (h:Nat),l[k]?=some o→hs[k]?=some h→ ∃av,wl[k]?=some (h,av)∧uG T τ o h av
 |[],[],[],_=>⟨rfl,rfl,fun k o h hk=>by simp at hk⟩
 |h0::hs,o0::r,(h',av)::wl,h=>by
  obtain⟨rfl,h1,h2⟩:=h;obtain⟨g1,g2,g3⟩:=m8.spec h2;refine⟨by simp[g1],by simp[g2],fun k o h hk hh=>?_⟩;cases k with
  |zero =>
   simp at hk hh;subst hk;subst hh;exact⟨av,rfl,h1⟩
  |succ k=>exact g3 k o h (by simpa using hk) (by simpa using hh)
 |[],[],_::_,h=>h.elim
 |[],_::_,_,h=>h.elim
 |_::_,[],_,h=>h.elim
 |_::_,_::_,[],h=>h.elim
def Ie(o:Oper)(i:Nat):Bool:=o.after.any fun e=>c9 .any e&&e.on==i
theorem Cu(h:Ie o i=true): ∃e∈o.after,c9 .any e=true∧e.on=i:=by obtain⟨e,he,hb⟩:=k0.1 h;simp only[gx,beq_iff_eq]at hb;exact⟨e,he,hb.1,hb.2⟩
def EI(ops:Array Oper)(m:Nat)(o:Oper)(t:Nat):Bool:=match setter ops m t with
 |some i=>Ie o i
 |none=>true
theorem z0(h:EI ops m o t=true){o':Oper}(hi:i<m)(ho:ops[i]?=some o')(ht:o'.dst=some t):
  ∃i' o2,i'<m∧ops[i']?=some o2∧o2.dst=some t∧ ∃e∈o.after,c9 .any e=true∧e.on=i':=by
 unfold EI at h;cases hs:setter ops m t with
 |none =>
  exfalso;have:=List.find?_eq_none.1 hs i (en.2 hi);simp[ho,ht]at this
 |some i' =>
  rw[hs]at h;have hf:=List.find?_some hs;have hm':=List.mem_of_find?_eq_some hs;split at hf<;>try (cases hf;done)
  rename_i o2 ho2;exact⟨i',o2,en.1 hm',ho2,by simpa using hf,Cu h⟩
def xK:List Nat→Bool
 |[]=>true
 |k::r=>match rC k r with
  |true=>false
  |false=>xK r
theorem oV: ∀{l:List Nat},xK l=true→ ∀(i j t:Nat),l[i]?=some t→l[j]?=some t→i=j
 |[],_,i,j,t,h,_=>by simp at h
 |k::r,h,i,j,t,h1,h2=>by
  simp only[xK]at h;split at h<;>try (cases h;done)
  rename_i hm;have hn:k ∉ r:=fun e=>by rw[fI.2 e]at hm;cases hm
  have ih:=oV h;cases i with
  |zero =>
   cases j with
   |zero=>rfl
   |succ j =>
    simp at h1 h2;subst h1;exact absurd (d0 h2) hn
  |succ i =>
   cases j with
   |zero =>
    simp at h1 h2;subst h2;exact absurd (d0 h1) hn
   |succ j=>rw[ih i j t (by simpa using h1) (by simpa using h2)]
def tN(ops:Array Oper):Nat→Nat→Nat→Bool
 |0,_,_=>false
 |f+1,j,i=>match ops[j]? with
  |some o=>o.after.any fun e=>c9 .any e&&(e.on==i||tN ops f e.on i)
  |none=>false
theorem uR{ops:Array Oper}{listed:Array Bool}(hc: ∀j oj,ops[j]?=some oj→listed.getD j false=true→ ∀e∈oj.after,c9 .any e=true→listed.getD e.on false=true):
  ∀(f j i:Nat),tN ops f j i=true→listed.getD j false=true→listed.getD i false=true
 |0,j,i,h,_=>by simp[tN]at h
 |f+1,j,i,h,hl=>by
  simp only[tN]at h;split at h<;>try (cases h;done)
  rename_i o ho;obtain⟨e,he,hb⟩:=k0.1 h;simp only[gx,mc,beq_iff_eq]at hb;have h1:=hc j o ho hl e he hb.1;rcases hb.2 with h2|h2
  ·rw[←h2];exact h1
  ·exact uR hc f e.on i h2 h1
def dJ:List (Nat×Bool)→Nat→Bool
 |[],_=>true
 |(k,b)::r,j=>match f7 j k with
  |true=> !b
  |false=>dJ r (j-k)
def AO(ops:Array Oper)(lt:List (Nat×Bool))(m:Nat)(hs:List Nat):Bool:=(i1 hs.length).all fun k=>match ops[m+k]? with
 |some o=>o.dst.isNone&&o.guard.isNone&&(o.after.all fun e=> !(c9 .any e)||decide (e.on<m+k)) &&
   ((o.looksAt ops).all (EI ops m o))&&(match hs[k]? with
     |some h=>EI ops m o h
     |none=>false)&&((i1 m).all fun i=>dJ lt i||tN ops 6 (m+k) i)
 |none=>false
def Jy(ops:Array Oper)(lt:List (Nat×Bool))(m:Nat)(hs:List Nat):Bool:=(i1 m).all fun j=> !(dJ lt j)||match ops[j]? with
 |some o=>(o.looksAt ops).all fun t=> !(rC t hs)
 |none=>false
theorem DL{lt:List (Nat×Bool)}(h:Jy ops lt m hs=true)(hj:j<m)(h0:dJ lt j=true)(ho:ops[j]?=some o): ∀t∈o.looksAt ops,t ∉ hs:=fun t ht hm=>by have:=cT.1 h j (en.2 hj);simp only[h0,i8,Bool.false_or,ho]at this;have:=cT.1 this t ht;rw[fI.2 hm]at this;cases this
def FE(ops:Array Oper)(lt:List (Nat×Bool))(m:Nat)(hs:List Nat):Bool :=
 decide (m+hs.length≤ops.size)&&GM ops m&&AO ops lt m hs&&xK hs&&Jy ops lt m hs &&
  (decide (m+hs.length=ops.size)||(mi .any ops (m+hs.length)&&ly .any ops (m+hs.length))) &&
  mx .any ops (ops.size-(m+hs.length)) (m+hs.length) (ce (m+hs.length) true++ce (ops.size-(m+hs.length)) false)
theorem iU{lt:List (Nat×Bool)}(hB:AO ops lt m hs=true)(hk:k<hs.length): ∃o h,ops[m+k]?=some o∧hs[k]?=some h∧o.dst=none∧o.guard=none∧(∀e∈o.after,c9 .any e=true→e.on<m+k) ∧
  (∀t∈o.looksAt ops,EI ops m o t=true)∧EI ops m o h=true∧ ∀i,i<m→dJ lt i=false→tN ops 6 (m+k) i=true:=by
 have h:=cT.1 hB k (en.2 hk);split at h<;>try (cases h;done)
 rename_i o ho;simp only[gx]at h;obtain⟨⟨⟨⟨⟨h1,h2⟩,h3⟩,h4⟩,h5⟩,h6⟩:=h;have hh:hs[k]?=some hs[k]:=az hk;rw[hh]at h5;refine⟨o,hs[k],ho,hh,by simpa using h1,by simpa using h2,fun e he hb=>?_,cT.1 h4,h5,fun i hi hl=>?_⟩
 ·have:=(Array.all_eq_true_iff_forall_mem.1 h3) e he;simpa[hb]using this
 ·have:=cT.1 h6 i (en.2 hi);rw[hl]at this;simpa using this
theorem Rel.ext{a:Act}{w:World}(h: ∀t,σ'.get t=σ.get t)(hR:Rel P B F0 w0 n σ a w):Rel P B F0 w0 n σ' a w:=by have e:σ'.get=σ.get:=funext h;exact⟨hR.below,hR.base,hR.f0,hR.defers,hR.size,by rw[e];exact hR.own⟩
theorem aM.lift{hm':Nat→Option AV}(h:aM P B F0 w0 d o lk hm av)(hd':hm' d=none)
  (h1: ∀t,.tmp t∈o.op.operands→ ∀x,lk t=some x→lk' t=some x) (h2: ∀t x,hm t=some x→x.home=true→hm' t=some x)
  (h3: ∀k,av.refs=some k→ ∀x,x.home=true→hm' k=some x→hm k=some x):aM P B F0 w0 d o lk' hm' av:=by
 obtain⟨g1,g2,g3⟩:=h;refine⟨g1,hd',fun a w O hI K Q hK=>?_⟩;refine g3 a w O ⟨hI.below,hI.base,hI.f0,hI.orange,fun t ht x hx=>?_,fun t x hx hxh=>?_⟩ K Q fun v w' O' hg hv=>hK v w' O' hg<|hv.move (fun c hc=>⟨hc,rfl⟩) (fun _ c hc=>⟨hc,rfl⟩) fun k hk x hx hkx=>⟨h3 k hk x hx hkx,rfl⟩
 ·obtain⟨v,hv,hr⟩:=hI.rd t ht x (h1 t ht x hx);exact⟨v,hv,hr.move (fun c hc=>⟨hc,rfl⟩) (fun _ c hc=>⟨hc,rfl⟩) (fun k _ y hy hky=>⟨h2 k y hky hy,rfl⟩)⟩
 ·obtain⟨v,hv,hr⟩:=hI.hm t x (h2 t x hx hxh) hxh;exact⟨v,hv,hr.move (fun c hc=>⟨hc,rfl⟩) (fun _ c hc=>⟨hc,rfl⟩) (fun k _ y hy hky=>⟨h2 k y hky hy,rfl⟩)⟩
theorem s4{l:List (Nat×AV)}(hd: ∀(i j:Nat) (a b:AV),l[i]?=some (t,a)→l[j]?=some (t,b)→i=j)(h:l[i]?=some (t,av)):St.get l.reverse t=some av:=by
 cases hg:St.get l.reverse t with
 |none=>exact absurd (gc.2 (d0 h)) (Aq hg av)
 |some x =>
  obtain⟨j,hj⟩:=gR.1 (gc.1 (get_mem hg));have:=hd i j av x h hj;subst this;rw[h]at hj;simp at hj;rw[hj]
theorem s5{l:List (Nat×AV)}(h: ∀(i:Nat) (a:AV),l[i]?≠some (t,a)):St.get l.reverse t=none:=by
 cases hg:St.get l.reverse t with
 |none=>rfl
 |some x =>
  obtain⟨j,hj⟩:=gR.1 (gc.1 (get_mem hg));exact absurd hj<|h j x
theorem HU(h:x.home=true):x.refs≠some d:=by
 cases x<;>simp[AV.home,AV.refs]at h ⊢
theorem LN(h:x.refs≠some d):x.kill d=x:=by
 have key: ∀h:Nat,h≠d→d7 h d=false:=fun h e=>by
  cases hb:d7 h d with
  |true=>exact absurd (cA hb) e
  |false=>rfl
 cases x<;>simp only[AV.kill,AV.refs,ne_eq,eN]at h ⊢ <;>(try rfl)<;>rw[key _ h]
theorem lU(h:cP ds av=true)(hk:av.refs=some k):k ∉ ds:=fun hkd=>by unfold cP at h;rw[hk]at h;simp only[fI.2 hkd]at h;cases h
theorem qD(h:listed.getD i true=false):listed.getD i false=false:=getD_both h
theorem gn(listed:Array Bool)(i:Nat):listed.getD i false=true∨listed.getD i false=false:=by
 cases listed.getD i false<;>simp
structure D2 (P:Program) (T:Ty) (B:Nat) (F0:Nat→Prop) (w0:dh) (n:Nat) (ops:Array Oper) (lt:List (Nat×Bool)) (m:Nat) (hs ds:List Nat) (σ0:St) (tl wl:List (Nat×AV)):Prop where
 size:m+hs.length≤ops.size
 head:GM ops m=true
 stores:AO ops lt m hs=true
 nodup:xK hs=true
 s0: ∀t av,σ0.get t=some av→t ∉ ds∧cP ds av=true
 step: ∀j,j<m→ ∃o d av,ops[j]?=some o∧o.dst=some d∧tl[j]?=some (d,av)∧d<n∧d∈ds∧cP ds av=true∧(dJ lt j=true→cP hs av=true) ∧
  ∃lk hm:St,(∀t av,t∈o.looksAt ops→lk.get t=some av→(dJ lt j=true→t ∉ hs)∧St.get ((tl.take j).reverse++σ0) t=some av)∧(∀t av,hm.get t=some av→(dJ lt j=true→t ∉ hs)∧σ0.get t=some av) ∧
   (∀t av,σ0.get t=some av→(dJ lt j=true→t ∉ hs)→hm.get t=some av)∧rM P B F0 w0 ops hm lk o d av
 tlen:tl.length=m
 dist: ∀(i j t:Nat) (a b:AV),tl[i]?=some (t,a)→tl[j]?=some (t,b)→i=j
 wls:wl.length=hs.length∧ ∀(k h:Nat),hs[k]?=some h→ ∃av,wl[k]?=some (h,av)∧ ∃o,ops[m+k]?=some o∧uG T (tl.reverse++σ0) o h av
namespace D2
theorem DT{ty:Nat}{x:Operand}(h: ∀t,x= .tmp t→lk t=lk' t):ex T lk ty x=ex T lk' ty x:=by
 cases x with
 |tmp t=>simp only[ex,h t rfl]
 |const v =>
  cases v with
  |slice b n c=>cases b<;>cases n<;>cases c<;>rfl
  |pointer p=>cases p<;>rfl
  |_=>rfl
 |_=>rfl
variable {lt:List (Nat×Bool)} {σ0:St} {tl:List (Nat×AV)} (H:D2 P T B F0 w0 n ops lt m hs ds σ0 tl wl)
include H
def vm(_:D2 P T B F0 w0 n ops lt m hs ds σ0 tl wl)(listed:Array Bool):St:=qi listed m wl++(qi listed 0 tl++σ0)
theorem rT{a:AV}(h:wl[k]?=some (t,a)):hs[k]?=some t∧a.home=true:=by
 have hk:k<hs.length:=by rw[←H.wls.1];exact(ap.1 h).1
 obtain⟨av,h1,o,_,hst⟩:=H.wls.2 k hs[k] (az hk);rw[h]at h1;simp at h1;obtain⟨_,_,_,_,_,_,_,_,_,_,_,_,hh,_⟩:=hst.spec;exact⟨by rw[az hk,h1.1],by rw[h1.2];exact hh⟩
theorem FX(i j t:Nat)(a b:AV)(h1:wl[i]?=some (t,a))(h2:wl[j]?=some (t,b)):i=j:=oV H.nodup i j t (H.rT h1).1 (H.rT h2).1
theorem yo{a:AV}(h:tl[j]?=some (t,a)):t∈ds∧j<m:=by
 have hj:j<m:=by rw[←H.tlen];exact(ap.1 h).1
 obtain⟨o,d,av,_,_,h3,_,h5,_⟩:=H.step j hj;rw[h]at h3;simp at h3;exact⟨h3.1▸h5,hj⟩
def Ei(_:D2 P T B F0 w0 n ops lt m hs ds σ0 tl wl)(listed:Array Bool)(t:Nat):Prop:= ∀k,hs[k]?=some t→listed.getD (m+k) false=false
theorem Fj{a:AV}(h:wl[k]?=some (t,a))(hl:listed.getD (m+k) false=true):(H.vm listed).get t=some a:=by unfold vm;rw[get_append,uB wl m k (fun i j a b h1 h2=>H.FX i j t a b h1 h2) h hl]
theorem BT(hu:H.Ei listed t):(H.vm listed).get t=St.get (qi listed 0 tl++σ0) t:=by
 unfold vm
 rw[get_append,iK wl m (fun i e he hl hk=>by
  obtain⟨t',a⟩:=e;simp only[]at hk;subst hk;have:=hu i (H.rT he).1;rw[hl]at this
  cases this)]
theorem BU{a:AV}(hu:H.Ei listed t)(h:tl[j]?=some (t,a))(hl:listed.getD j false=true):(H.vm listed).get t=some a:=by rw[H.BT hu,get_append,uB tl 0 j (fun i j a b h1 h2=>H.dist i j t a b h1 h2) h (by rw[dn];exact hl)]
theorem LX(hu:H.Ei listed t)(ht:t ∉ ds):(H.vm listed).get t=σ0.get t:=by
 rw[H.BT hu,get_append,iK tl 0 (fun i e he _ hk=>by
  obtain⟨t',a⟩:=e;simp only[]at hk;subst hk
  exact ht (H.yo he).1)]
theorem JR{a:AV}(hu:H.Ei listed t)(h:tl[j]?=some (t,a))(hl:listed.getD j false=false):(H.vm listed).get t=none:=by
 rw[H.BT hu,get_append,iK tl 0 (fun i e he hl' hk=>by
  obtain⟨t',a'⟩:=e;simp only[]at hk;subst hk;have:=H.dist i j t' a' a he h;subst this;rw[dn,hl]at hl'
  cases hl')]
 cases hg:σ0.get t with
 |none=>rfl
 |some x=>exact absurd (H.yo h).1 (H.s0 t x hg).1
theorem MF{a:AV}(hj:j≤m)(h:St.get ((tl.take j).reverse++σ0) t=some a):(∃i,i<j∧tl[i]?=some (t,a))∨(σ0.get t=some a∧t ∉ ds):=by
 rw[get_append]at h;split at h
 ·rename_i x hx;simp at h;subst h;have:=get_mem hx;rw[gc]at this;obtain⟨i,hi⟩:=gR.1 this;rw[cm]at hi;split at hi<;>try (cases hi;done)
  rename_i hij;exact .inl ⟨i,hij,hi⟩
 ·exact .inr ⟨h,(H.s0 t a h).1⟩
structure Ok (_:D2 P T B F0 w0 n ops lt m hs ds σ0 tl wl) (listed:Array Bool):Prop where
 size:listed.size=ops.size
 closed: ∀j oj,ops[j]?=some oj→listed.getD j false=true→ ∀e∈oj.after,c9 .any e=true→listed.getD e.on false=true
theorem Hk(h:H.Ok listed)(hjm:j<m)(hj:dJ lt j=false)(hl:listed.getD j false=false)(t:Nat):H.Ei listed t:=fun k hk=>by
 rcases gn listed (m+k)with hw|hw
 ·exfalso;obtain⟨o,h',h1,_,_,_,_,_,_,h8⟩:=iU H.stores (ap.1 hk).1;have:=uR h.closed 6 _ _ (h8 j hjm hj) hw;rw[hl]at this;cases this
 ·exact hw
theorem Es(h:H.Ok listed)(hjm:j<m)(hl:listed.getD j false=false)(ht:dJ lt j=true→t ∉ hs):H.Ei listed t:=by
 cases h':dJ lt j with
 |false=>exact H.Hk h hjm h' hl t
 |true=>exact fun k hk=>absurd (d0 hk) (ht h')
theorem Ig(h:H.Ok listed){a:AV}(hj:tl[j]?=some (t,a))(hl:listed.getD j false=false):H.Ei listed t:=fun k hk=>by
 rcases gn listed (m+k)with hw|hw
 ·exfalso;obtain⟨o,h',h1,h2,_,_,_,_,h7,_⟩:=iU H.stores (ap.1 hk).1;rw[hk]at h2;simp at h2;subst h2;obtain⟨oj,d,av,g1,g2,g3,_⟩:=H.step j (H.yo hj).2;rw[hj]at g3;simp at g3;obtain⟨rfl,rfl⟩:=g3;obtain⟨i',o2,k1,k2,k3,e,he,hb,hon⟩:=z0 h7 (H.yo hj).2 g1 g2;obtain⟨o3,d3,av3,f1,f2,f3,_⟩:=H.step i' k1;rw[k2]at f1;simp at f1;subst f1;rw[k3]at f2;simp at f2;subst f2;have:=H.dist i' j t av3 a f3 hj;subst this;have:=h.closed _ o h1 hw e he hb;rw[hon,hl]at this;cases this
 ·exact hw
theorem one(h:H.Ok listed)(hj:j<m)(hr:j∈ek .any ops listed){a:Act}{w:World}(hR:Rel P B F0 w0 n (H.vm listed) a w)(Q':Exit→Act→World→Prop)(K:Act→World→Prop)
  (hK: ∀a w,Rel P B F0 w0 n (H.vm (listed.setIfInBounds j true)) a w→K a w):wpOp P ops Q' j K a w:=by
 obtain⟨o,d,av,h1,h2,h3,h4,h5,h6,h7,lk,hm,g1,g2,g3,g4⟩:=H.step j hj;obtain⟨hun,o',ho',hall⟩:=mem_ready.1 hr;rw[h1]at ho';simp at ho';subst ho';have hlf:=qD hun;have hjs:j<listed.size:=by rw[h.size];have:=H.size;omega
 obtain⟨_,_,e1,_,e3,e4,_,e6⟩:=gm H.head hj;rw[h1]at e1;simp at e1;subst e1
 have hlk: ∀t,t∈o.looksAt ops→ ∀x,lk.get t=some x→(H.vm listed).get t=some x:=fun t ht x hx=>by
  obtain⟨f1,f2⟩:=g1 t x ht hx;have hu:=H.Es h hj hlf f1;rcases H.MF (js hj) f2 with⟨i,hij,hi⟩|⟨hs0,htd⟩
  ·obtain⟨oi,di,avi,k1,k2,k3,_⟩:=H.step i (by omega);rw[hi]at k3;simp at k3;obtain⟨rfl,rfl⟩:=k3;obtain⟨i',⟨o2,q1,q2⟩,q3,e,q4,q5,q6⟩:=e4 t ht i (by omega) ⟨oi,k1,k2⟩;obtain⟨o3,d3,av3,p1,p2,p3,_⟩:=H.step i' q3;rw[q1]at p1;simp at p1;subst p1;rw[q2]at p2;simp at p2;subst p2;have:=H.dist i' i t av3 x p3 hi;subst this;have hl:=hall e q4 q5;rw[q6]at hl;exact H.BU hu hi hl
  ·rw[H.LX hu htd];exact hs0
 have hput: ∀(τ:St),(∀t,t≠d→τ.get t=(H.vm listed).get t)→τ.get d=some av→ ∀t,(H.vm (listed.setIfInBounds j true)).get t=τ.get t:=fun τ hne hd t=>by
  have hud:=H.Ig h h3 hlf
  have hu2: ∀t,H.Ei listed t→H.Ei (listed.setIfInBounds j true) t:=fun t hu k hk=>by have hkl:=(ap.1 hk).1;rw[getD_set_ne false (by omega)];exact hu k hk
  by_cases htd:t=d
  ·subst htd;rw[hd];exact H.BU (hu2 _ hud) h3 (by simp[hjs])
  ·rw[hne t htd];by_cases hu:H.Ei listed t
   ·by_cases hds: ∃(i:Nat) (x:AV),tl[i]?=some (t,x)
    ·obtain⟨i,x,hi⟩:=hds
     have hij:i≠j:=fun e=>by subst e;rw[h3]at hi;simp at hi;exact htd hi.1.symm
     rcases gn listed i with hl|hl
     ·rw[H.BU hu hi hl,H.BU (hu2 _ hu) hi (by rw[getD_set_ne false (hE hij)];exact hl)]
     ·rw[H.JR hu hi hl,H.JR (hu2 _ hu) hi (by rw[getD_set_ne false (hE hij)];exact hl)]
    ·have e0: ∀(listed:Array Bool),St.get (qi listed 0 tl) t=none:=fun listed=>iK tl 0 (fun i e he _ hk=>by
      obtain⟨t',a⟩:=e;simp only[]at hk;subst hk
      exact hds ⟨i,a,he⟩)
     rw[H.BT hu,H.BT (hu2 _ hu),get_append,get_append,e0,e0]
   ·have: ∃k,hs[k]?=some t∧listed.getD (m+k) false=true:=by
     apply f4;intro hn
     exact hu (fun k hk=>by
      rcases gn listed (m+k)with hw|hw
      ·exact absurd ⟨k,hk,hw⟩ hn
      ·exact hw)
    obtain⟨k,hk,hw⟩:=this;obtain⟨cs,hwl,_⟩:=H.wls.2 k t hk;have hkl:=(ap.1 hk).1;rw[H.Fj hwl hw,H.Fj hwl (by rw[getD_set_ne false (by omega)];exact hw)]
 unfold wpOp;simp only[h1]
 have hgv: ∀g b',(∃b,o.guard=some (g,b))→kl ops lk g=some b'→yielded ops a.tmps g=some b':=by
  rintro g b' ⟨b,hgd⟩ hg
  obtain⟨og,tg,q1,q2,q3⟩:=l3 hg
  have hl:tg∈o.looksAt ops:=by unfold ii;refine cz _ ?_;rw[hgd];simp[q1,q2]
  obtain⟨O,hOr,hO⟩:=hR.own;obtain⟨u,hu,hur⟩:=hO tg _ (hlk tg hl _ q3);have:=(Rd.j5 hur).1;subst this;simp[yielded,q1,q2,hu]
 have hgvu: ∀g b,o.guard=some (g,b)→nI ops lk g=true→yielded ops a.tmps g≠some b:=by
  intro g b hgd hg;obtain⟨og,tg,q1,q2,q3⟩:=rE hg
  have hl:tg∈o.looksAt ops:=by unfold ii;refine cz _ ?_;rw[hgd];simp[q1,q2]
  obtain⟨O,hOr,hO⟩:=hR.own;obtain⟨u,hu,hur⟩:=hO tg _ (hlk tg hl _ q3);have hur:u=undef:=hur;subst hur;simp[yielded,q1,q2,hu,undef]
 rcases g4 with⟨hgok,hps⟩|⟨g,b,hgd,hgn,rfl⟩
 ·have hw:dl o (yielded ops a.tmps)=true:=by
   unfold aJ at hgok;unfold dl;split at hgok
   ·rename_i hgd;simp[hgd]
   ·rename_i g b hgd;split at hgok
    ·rename_i b' hb';have hbb:b'=b:=by simpa using hgok
     subst hbb;simp[hgd,hgv g b' ⟨_,hgd⟩ hb']
    ·cases hgok
  rw[if_pos hw];refine .inl ?_
  have hps':aM P B F0 w0 d o (H.vm listed).get (kt (H.vm listed) d) av:=by
   refine hps.lift (bq _ d) (fun t ht x hx=>hlk t ?_ x hx) (fun t x hx hxh=>?_) fun k hk x hxh hx=>?_
   ·unfold ii;exact cc _<|hM.2 ⟨.tmp t,by simpa using ht,rfl⟩
   ·obtain⟨f1,f2⟩:=g2 t x hx;have htd:=(H.s0 t x f2).1;have htd':t≠d:=fun e=>htd (by rw[e];exact h5);rw[JK htd',H.LX (H.Es h hj hlf f1) htd];exact f2
   ·obtain⟨hkd,hx'⟩:=sZ hx;have hkds:=lU h6 hk;have hkh:dJ lt j=true→k ∉ hs:=fun hj0=>lU (h7 hj0) hk;rw[H.LX (H.Es h hj hlf hkh) hkds]at hx';exact g3 k x hx' hkh
  refine eS.Bv hps' h4 a w hR K Q' fun a' w' hR'=>hK _ _<|hR'.ext ?_;refine hput _ (fun t ht=>?_)<|jf _ d av;rw[nJ _ d av ht];split
  ·rename_i hh;cases hg:(H.vm listed).get t with
   |none=>rfl
   |some x =>
    simp only[d9]
    congr 1
    refine LN fun hxr=>?_;by_cases hu:H.Ei listed t
    ·by_cases hds: ∃(i:Nat) (x:AV),tl[i]?=some (t,x)
     ·obtain⟨i,y,hi⟩:=hds;rcases gn listed i with hl|hl
      ·rw[H.BU hu hi hl]at hg;obtain⟨oi,di,yi,_,_,f3,_,_,f6,_⟩:=H.step i (H.yo hi).2;rw[hi]at f3;simp at f3 hg;obtain⟨rfl,rfl⟩:=f3;subst hg;exact lU f6 hxr h5
      ·rw[H.JR hu hi hl]at hg;cases hg
     ·have htds:(qi listed 0 tl).get t=none:=iK tl 0 (fun i e he _ hk=>by
       obtain⟨t',a⟩:=e;simp only[]at hk;subst hk
       exact hds ⟨i,a,he⟩)
      rw[H.BT hu,get_append]at hg
      have hg:St.get σ0 t=some x:=by have e:St.get (qi listed 0 tl) t=none:=htds;rw[e]at hg;exact hg
      exact lU (H.s0 t x hg).2 hxr h5
    ·have: ∃k,hs[k]?=some t∧listed.getD (m+k) false=true:=by
      apply f4;intro hn
      exact hu (fun k hk=>by
       rcases gn listed (m+k)with hw|hw
       ·exact absurd ⟨k,hk,hw⟩ hn
       ·exact hw)
     obtain⟨k,hk,hw⟩:=this;obtain⟨cs,hwl,_⟩:=H.wls.2 k t hk;rw[H.Fj hwl hw]at hg;simp at hg;subst hg;exact HU (H.rT hwl).2 hxr
  ·rfl
 ·have hw:dl o (yielded ops a.tmps)=false:=by
   unfold dl;rcases hgn with⟨b',hgval,hne⟩|hgu
   ·simp[hgd,hgv g b' ⟨_,hgd⟩ hgval];simpa using hne
   ·simp[hgd];simpa using hgvu g b hgd hgu
  rw[if_neg (by rw[hw];simp),h2];obtain⟨O,hOr,hO⟩:=hR.own;have hR':=hR.put (av:=.un) hOr hO h4 (dG.refl (fun b t hb=>(hOr b t hb).2)) (v:=undef) rfl;refine hK _ _<|hR'.ext ?_;refine hput _ (fun t ht=>?_)<|jf _ d .un;rw[nJ _ d .un ht];rfl
theorem PV(hT:bB P T)(h:H.Ok listed)(hk:k<hs.length)(hr:m+k∈ek .any ops listed){a:Act}{w:World}(hR:Rel P B F0 w0 n (H.vm listed) a w)(Q':Exit→Act→World→Prop)(K:Act→World→Prop)
  (hK: ∀a w,Rel P B F0 w0 n (H.vm (listed.setIfInBounds (m+k) true)) a w→K a w):wpOp P ops Q' (m+k) K a w:=by
 obtain⟨o,hm,h1,h2,hdst,hgd,_,h6,h7,_⟩:=iU H.stores hk;obtain⟨hun,o',ho',hall⟩:=mem_ready.1 hr;rw[h1]at ho';simp at ho';subst ho';have hlf:=qD hun;have hks:m+k<listed.size:=by rw[h.size];have:=H.size;omega
 obtain⟨cs,hwl,o',ho',hst⟩:=H.wls.2 k hm h2;rw[h1]at ho';simp at ho';subst ho';obtain⟨t,p,x,q,y,xh,hop,hp,hq,hx,hg,hxh,hch,hre⟩:=hst.spec
 have hbx: ∀k' h',hs[k']?=some h'→ ∃z,St.get (tl.reverse++σ0) h'=some z∧z.home=true:=fun k' h' hk'=>by obtain⟨cs',_,o2,_,hst'⟩:=H.wls.2 k' h' hk';obtain⟨_,_,_,_,_,z,_,_,_,_,hz,hzh,_⟩:=hst'.spec;exact⟨z,hz,hzh⟩
 have hlk: ∀t',H.Ei listed t'→EI ops m o t'=true→ ∀z,St.get (tl.reverse++σ0) t'=some z→(H.vm listed).get t'=some z:=fun t' hu hsb z hz=>by
  have hz':St.get ((tl.take m).reverse++σ0) t'=some z:=by rw[ab (by rw[H.tlen];exact b2 _)];exact hz
  rcases H.MF (b2 m) hz' with⟨i,him,hti⟩|⟨hs0,htd⟩
  ·obtain⟨oi,di,avi,k1,k2,k3,_⟩:=H.step i him;rw[hti]at k3;simp at k3;obtain⟨rfl,rfl⟩:=k3;obtain⟨i',o2,q1,q2,q3,e,q4,q5,q6⟩:=z0 hsb him k1 k2;obtain⟨o3,d3,av3,p1,p2,p3,_⟩:=H.step i' q1;rw[q2]at p1;simp at p1;subst p1;rw[q3]at p2;simp at p2;subst p2;have:=H.dist i' i t' av3 z p3 hti;subst this;have hl:=hall e q4 q5;rw[q6]at hl;exact H.BU hu hti hl
  ·rw[H.LX hu htd];exact hs0
 have huh:H.Ei listed hm:=fun k' hk'=>by have:=oV H.nodup k' k hm hk' h2;subst this;exact hlf
 have hla: ∀t',.tmp t'∈o.op.operands→t'∈o.looksAt ops:=fun t' ht'=>by unfold ii;exact cc _<|hM.2 ⟨.tmp t',by simpa using ht',rfl⟩
 have hpe:ex T (H.vm listed).get 0 p=ex T (St.get (tl.reverse++σ0)) 0 p:=by
  refine D2.DT fun tp htp=>?_;subst htp;cases hz:St.get (tl.reverse++σ0) tp with
  |none=>simp[ex,hz]at hp
  |some z =>
   refine hlk tp (fun k' hk'=>?_) (h6 tp (hla tp (by rw[hop];simp[Op.operands]))) z hz;obtain⟨z',hz',hzh⟩:=hbx k' tp hk';rw[hz]at hz';simp at hz';subst hz';cases z<;>simp[AV.home]at hzh<;>simp[ex,hz]at hp<;>subst hp
   ·rcases hq with⟨off,hq⟩|⟨i,off,hq⟩<;>simp at hq
    rw[hq.1]at hk';exact huh k' hk'
   ·rcases hq with⟨off,hq⟩|⟨i,off,hq⟩<;>simp at hq
   ·rcases hq with⟨off,hq⟩|⟨i,off,hq⟩<;>simp at hq
 have hxe:ex T (H.vm listed).get t x=ex T (St.get (tl.reverse++σ0)) t x:=by
  refine D2.DT fun tx htx=>?_;subst htx;cases hz:St.get (tl.reverse++σ0) tx with
  |none=>simp[ex,hz,dO]at hx
  |some z =>
   refine hlk tx (fun k' hk'=>?_) (h6 tx (hla tx (by rw[hop];simp[Op.operands]))) z hz;obtain⟨z',hz',hzh⟩:=hbx k' tx hk';rw[hz]at hz';simp at hz';subst hz';cases z<;>simp[AV.home]at hzh<;>simp[ex,hz,dO]at hx
 have hge:=hlk hm huh h7 _ hg;have hstS:=hre (H.vm listed) hpe hxe hge
 have hok:eS P B F0 w0 n o (H.vm listed) ((hm,cs)::H.vm listed):=by
  cases hstS with
  |bx hs=>exact zU hT hdst hs
  |el hx hold hok=>exact eS.lR hT hdst hx hold hok
 unfold wpOp;simp only[h1];rw[if_pos (by simp[dl,hgd])];refine .inl<|hok a w hR K Q' fun a' w' hR'=>hK _ _<|hR'.ext fun t'=>?_;rw[St.aL];by_cases ht:hm=t'
 ·subst ht;rw[if_pos rfl];exact H.Fj hwl (by simp[hks])
 ·rw[if_neg ht]
  have hne: ∀k',hs[k']?=some t'→m+k≠m+k':=fun k' hk' e=>by
   have:k=k':=by omega
   subst this;rw[h2]at hk';simp at hk';exact ht hk'
  by_cases hu:H.Ei listed t'
  ·have hu2:H.Ei (listed.setIfInBounds (m+k) true) t':=fun k' hk'=>by rw[getD_set_ne false (hne k' hk')];exact hu k' hk'
   by_cases hds: ∃(i:Nat) (x:AV),tl[i]?=some (t',x)
   ·obtain⟨i,x,hti⟩:=hds;have him:=(H.yo hti).2;rcases gn listed i with hl|hl
    ·rw[H.BU hu hti hl,H.BU hu2 hti (by rw[getD_set_ne false (by omega)];exact hl)]
    ·rw[H.JR hu hti hl,H.JR hu2 hti (by rw[getD_set_ne false (by omega)];exact hl)]
   ·have e0: ∀(listed:Array Bool),St.get (qi listed 0 tl) t'=none:=fun listed=>iK tl 0 (fun i e he _ hk=>by
     obtain⟨t2,a⟩:=e;simp only[]at hk;subst hk
     exact hds ⟨i,a,he⟩)
    rw[H.BT hu,H.BT hu2,get_append,get_append,e0,e0]
  ·have: ∃k',hs[k']?=some t'∧listed.getD (m+k') false=true:=by
    apply f4;intro hn
    exact hu (fun k' hk'=>by
     rcases gn listed (m+k')with hw|hw
     ·exact absurd ⟨k',hk',hw⟩ hn
     ·exact hw)
   obtain⟨k',hk',hw⟩:=this;obtain⟨cs',hwl',_⟩:=H.wls.2 k' t' hk';rw[H.Fj hwl' hw,H.Fj hwl' (by rw[getD_set_ne false (hne k' hk')];exact hw)]
theorem all(hT:bB P T)(htail:m+hs.length=ops.size∨(mi .any ops (m+hs.length)=true∧ly .any ops (m+hs.length)=true))
  (hseq:mx .any ops (ops.size-(m+hs.length)) (m+hs.length) (ce (m+hs.length) true++ce (ops.size-(m+hs.length)) false)=true) 
  (hK:ae P B F0 w0 n ops (ops.toList.drop (m+hs.length)) K (wl.reverse++(tl.reverse++σ0))): ∀(f:Nat) (listed:Array Bool) (a:Act) (w:World) (Q':Exit→Act→World→Prop),HeadInv .any ops (m+hs.length) listed→un listed (m+hs.length)=f→Rel P B F0 w0 n (H.vm listed) a w →
  (∀a w σ',K σ'→Rel P B F0 w0 n σ' a w→Q' .normal a w)→wpAny P .any ops Q' (f+(ops.size-(m+hs.length))) listed a w:=by
 have hsize:=H.size;intro f
 induction f with
 |zero =>
  intro listed a w Q' hinv hun hR hQ;have hlist:=vV (m+hs.length) hun
  have hlist': ∀j,j<m+hs.length→listed.getD j false=true:=fun j hj=>by
   have:=hlist j hj;have hs:j<listed.size:=by rw[hinv.size];omega
   simp[hs]at this ⊢;exact this
  have heq:listed=ce (m+hs.length) true++ce (ops.size-(m+hs.length)) false:=by
   apply Array.ext
   ·rw[hinv.size];simp;omega
   ·intro i hi1 hi2;rw[hinv.size]at hi1;rw[Array.getElem_append];by_cases him:i<m+hs.length
    ·have:=hlist i him;have hlt:i<listed.size:=by rw[hinv.size];exact hi1
     simp[hlt]at this;simp[him,this]
    ·have:=hinv.tail i (by omega) hi1;have hlt:i<listed.size:=by rw[hinv.size];exact hi1
     simp[hlt]at this;simp[him,this]
  rw[dn];have hdl:(ops.toList.drop (m+hs.length)).length=ops.size-(m+hs.length):=by simp
  rw[←hdl];refine wpAny_of_seq (md:=.any) (ops.toList.drop (m+hs.length)) (m+hs.length) listed a w (fun j=>by simp[cd]) (by rw[hdl,heq];exact hseq) ?_;refine hK a w (hR.ext (fun t=>?_)) Q' hQ;rw[get_append];by_cases hw: ∃(k:Nat) (x:AV),wl[k]?=some (t,x)
  ·obtain⟨k,x,hk⟩:=hw;have hkl:k<hs.length:=(ap.1 (H.rT hk).1).1;rw[s4 (fun i j a b h1 h2=>H.FX i j t a b h1 h2) hk];rw[H.Fj hk (hlist' _ (by omega))]
  ·have hu:H.Ei listed t:=fun k hk=>by obtain⟨cs,hwl,_⟩:=H.wls.2 k t hk;exact absurd ⟨k,_,hwl⟩ hw
   rw[s5 (fun i a hi=>hw ⟨i,a,hi⟩),get_append];by_cases hds: ∃(i:Nat) (x:AV),tl[i]?=some (t,x)
   ·obtain⟨i,x,hti⟩:=hds;have him:=(H.yo hti).2;rw[s4 (fun i j a b h1 h2=>H.dist i j t a b h1 h2) hti];rw[H.BU hu hti (hlist' _ (by omega))]
   ·rw[s5 (fun i a hi=>hds ⟨i,a,hi⟩)]
    rw[H.BT hu,get_append,iK tl 0 (fun i e he _ hk=>by
     obtain⟨t2,a⟩:=e;simp only[]at hk;subst hk
     exact hds ⟨i,a,he⟩)]
 |succ f ih =>
  intro listed a w Q' hinv hun hR hQ;have h:H.Ok listed:=⟨hinv.size,hinv.closed⟩;obtain⟨j,hj,hju,hjl⟩:=Eu (m+hs.length) (by omega:0<un listed (m+hs.length))
  have hless: ∀i∈ek .any ops listed,i<m+hs.length:=fun i hi=>by
   rcases htail with h|⟨hs1,hc⟩
   ·obtain⟨_,o,ho,_⟩:=mem_ready.1 hi;have:=(c0.1 ho).1;omega
   ·rcases ch (m+hs.length) ops.size with hlt|hge
    ·rcases ch i (m+hs.length)with h|h
     ·exact h
     ·exact absurd hi (tail_waits hs1 hc hlt hinv _ j rfl hj hju i h)
    ·obtain⟨_,o,ho,_⟩:=mem_ready.1 hi;have:=(c0.1 ho).1;omega
  have hjr:j∈ek .any ops listed:=by
   have key: ∀o,ops[j]?=some o→(∀e∈o.after,c9 .any e=true→e.on<j)→j∈ek .any ops listed:=fun o ho hlt=>by
    refine mem_ready.2 ⟨hju,o,ho,fun e he hb=>?_⟩;have h1:=hlt e he hb;have:=hjl e.on h1;have hsz:e.on<listed.size:=by rw[hinv.size];omega
    simp[hsz]at this ⊢;exact this
   rcases ch j m with hjm|hjm
   ·obtain⟨o,d,h1,h2,h3,_⟩:=gm H.head hjm;exact key o h1 h3
   ·obtain⟨o,_,h1,_,_,_,h5,_⟩:=iU H.stores (show j-m<hs.length by omega);rw[show m+(j-m)=j by omega]at h1 h5;exact key o h1 h5
  rw[show f+1+(ops.size-(m+hs.length))=(f+(ops.size-(m+hs.length)))+1 by omega];refine⟨fun h0=>(by rw[h0]at hjr;cases hjr),fun i hi=>?_⟩;have hil:=hless i hi
  have hrec: ∀a' w',Rel P B F0 w0 n (H.vm (listed.setIfInBounds i true)) a' w'→wpAny P .any ops Q' (f+(ops.size-(m+hs.length))) (listed.setIfInBounds i true) a' w':=fun a' w' hR' =>
   ih _ a' w' Q' (hinv.set hi hil) (by have:=Et (mem_ready.1 hi).1 (m+hs.length) hil;omega) hR' hQ
  rcases ch i m with him|him
  ·exact H.one h him hi hR Q' _ hrec
  ·obtain⟨k,rfl⟩: ∃k,i=m+k:=⟨i-m,by omega⟩;exact H.PV hT h (by omega) hi hR Q' _ hrec
end D2
def yP(P:Program)(B:Nat)(F0:Nat→Prop)(w0:dh)(n:Nat)(ops:Array Oper)(ds hs:List Nat)(σ0:St):List (Nat×Bool)→List Oper→St→(St→Prop)→Prop
 |[],[],τ,K=>K τ
 |[],_::_,_,_=>False
 |(k,true)::cs,l,τ,K=>d6 k l.length=true∧ai P B F0 w0 n ops ds σ0 (l.take k) τ (fun τ'=>yP P B F0 w0 n ops ds hs σ0 cs (l.drop k) τ' K)
 |(k,false)::cs,l,τ,K=>d6 k l.length=true∧ai P B F0 w0 n ops (ds++hs) (σ0.wo hs) (l.take k) (τ.wo hs) (fun τ'=>yP P B F0 w0 n ops ds hs σ0 cs (l.drop k) (τ'.take k++τ) K)
theorem yP.out{ds hs:List Nat}{σ0:St}{K:St→Prop}: ∀(cs:List (Nat×Bool)) (l:List Oper) (τ:St),yP P B F0 w0 n ops ds hs σ0 cs l τ K →
  ∃tl:List (Nat×AV),tl.length=l.length∧K (tl.reverse++τ)∧ ∀(j:Nat) (o:Oper),l[j]?=some o→ ∃d av,tl[j]?=some (d,av)∧o.dst=some d∧d<n∧cP ds av=true∧(dJ cs j=true→cP hs av=true) ∧
   ∃lk hm:St,(∀t av,((dJ cs j=true→t ∉ hs)→lk.get t=some av→St.get ((tl.take j).reverse++τ) t=some av))∧(∀t av,hm.get t=some av→(dJ cs j=true→t ∉ hs)∧σ0.get t=some av) ∧
    (∀t av,σ0.get t=some av→(dJ cs j=true→t ∉ hs)→hm.get t=some av)∧rM P B F0 w0 ops hm lk o d av
 |[],[],τ,h=>⟨[],rfl,h,fun j o hj=>by simp at hj⟩
 |[],_::_,τ,h=>h.elim
 |(k,true)::cs,l,τ,h=>by
  simp only[yP]at h;obtain⟨hkl,h⟩:=h;have hkl:=bz hkl;obtain⟨t1,h1,h2,h3⟩:=ai.out _ _ h;obtain⟨t2,g1,g2,g3⟩:=yP.out cs _ _ h2;have hl:t1.length+t2.length=l.length:=by rw[h1,g1];simp;omega
  refine⟨t1++t2,by simpa using hl,by simpa using g2,fun j o hj=>?_⟩;have hjl:=(ap.1 hj).1;rcases ch j t1.length with hjk|hjk
  ·have hjk':j<k:=by rw[h1]at hjk;simp at hjk;omega
   have hlt:dJ ((k,true)::cs) j=false:=by
    have e:f7 j k=true:=by simp[f7];omega
    simp only[dJ,e];rfl
   obtain⟨d,av,e1,e2,e3,e4,e5⟩:=h3 j o (by rw[cm,if_pos hjk'];exact hj);refine⟨d,av,by rw[bn hjk];exact e1,e2,e3,e4,fun hx=>(by rw[hlt]at hx;cases hx),(t1.take j).reverse++τ,σ0,fun t av _ hg=>by rw[ci (by omega)];exact hg,fun t av hg=>⟨fun hx=>(by rw[hlt]at hx;cases hx),hg⟩,fun t av hg _=>hg,e5⟩
  ·have hk:t1.length=k:=by rw[h1];simp;rw[h1]at hjk;simp at hjk;omega
   obtain⟨j',rfl⟩: ∃j',j=k+j':=⟨j-k,by omega⟩
   have hlt:dJ ((k,true)::cs) (k+j')=dJ cs j':=by
    have e:f7 (k+j') k=false:=by
     cases hb:f7 (k+j') k with
     |false=>rfl
     |true=>have:k+j'+1≤k:=by simpa[f7]using hb
            omega
    simp only[dJ,e,cr]
   obtain⟨d,av,e1,e2,e3,e4,e5,lk,hm,q1,q2,q3,q4⟩:=g3 j' o (by rw[cd];exact hj);rw[hlt];refine⟨d,av,by rw[b1 (by omega),hk,cr];exact e1,e2,e3,e4,e5,lk,hm,fun t av hn hg=>?_,q2,q3,q4⟩;have:=q1 t av hn hg;rw[lm,ab (by omega),hk,cr,kk,b8];exact this
 |(k,false)::cs,l,τ,h=>by
  simp only[yP]at h;obtain⟨hkl,h⟩:=h;have hkl:=bz hkl;obtain⟨t1,h1,h2,h3⟩:=ai.out _ _ h;have hk:t1.length=k:=by rw[h1];simp;omega
  have htake:(t1.reverse++St.wo hs τ).take k=t1.reverse:=by rw[ci (by simp;omega),ab (by simp;omega)]
  rw[htake]at h2;obtain⟨t2,g1,g2,g3⟩:=yP.out cs _ _ h2;have hl:t1.length+t2.length=l.length:=by rw[g1];simp;omega
  refine⟨t1++t2,by simpa using hl,by simpa using g2,fun j o hj=>?_⟩;have hjl:=(ap.1 hj).1;rcases ch j k with hjk|hjk
  ·have hlt:dJ ((k,false)::cs) j=true:=by
    have e:f7 j k=true:=by simp[f7];omega
    simp only[dJ,e];rfl
   obtain⟨d,av,e1,e2,e3,e4,e5⟩:=h3 j o (by rw[cm,if_pos hjk];exact hj)
   have hr2:cP ds av=true∧cP hs av=true:=by
    unfold cP at e4 ⊢;split at e4
    ·rename_i q hq;have hq':q ∉ ds++hs:=fun e=>by rw[fI.2 e]at e4;cases e4
     have e1:rC q ds=false:=by cases hb:rC q ds with
      |false=>rfl
      |true=>exact absurd (cc _ (fI.1 hb)) hq'
     have e2:rC q hs=false:=by cases hb:rC q hs with
      |false=>rfl
      |true=>exact absurd (cz _ (fI.1 hb)) hq'
     simp[e1,e2]
    ·exact⟨rfl,rfl⟩
   rw[hlt];refine⟨d,av,by rw[bn (by omega)];exact e1,e2,e3,hr2.1,fun _=>hr2.2,(t1.take j).reverse++St.wo hs τ,σ0.wo hs,fun t av _ hg=>?_,fun t av hg=>⟨fun _=>(AH hg).1,(AH hg).2⟩,fun t av hg hn=>by rw[JP,if_neg (hn rfl)];exact hg,e5⟩;rw[ci (by omega)];rw[get_append]at hg ⊢;split at hg
   ·exact hg
   ·exact(AH hg).2
  ·obtain⟨j',rfl⟩: ∃j',j=k+j':=⟨j-k,by omega⟩
   have hlt:dJ ((k,false)::cs) (k+j')=dJ cs j':=by
    have e:f7 (k+j') k=false:=by
     cases hb:f7 (k+j') k with
     |false=>rfl
     |true=>have:k+j'+1≤k:=by simpa[f7]using hb
            omega
    simp only[dJ,e,cr]
   obtain⟨d,av,e1,e2,e3,e4,e5,lk,hm,q1,q2,q3,q4⟩:=g3 j' o (by rw[cd];exact hj);rw[hlt];refine⟨d,av,by rw[b1 (by omega),hk,cr];exact e1,e2,e3,e4,e5,lk,hm,fun t av hn hg=>?_,q2,q3,q4⟩;have:=q1 t av hn hg;rw[lm,ab (by omega),hk,cr,kk,b8];exact this
theorem yQ.mU(hT:bB P T)(cs:List (Nat×Bool))(m:Nat)(hs:List Nat)(hB:FE ops cs m hs=true)
  (h:yP P B F0 w0 n ops (e8 ops m) hs (σ.less (e8 ops m)) cs (ops.toList.take m) (σ.less (e8 ops m)) (fun τ =>
   ∃wl,m8 T τ hs ((ops.toList.drop m).take hs.length) wl∧ae P B F0 w0 n ops (ops.toList.drop (m+hs.length)) (Q .normal) (wl.reverse++τ))):yQ P B F0 w0 n ops Q σ:=by
 intro a w hR;simp only[FE,gx,decide_eq_true_eq,mc]at hB;obtain⟨⟨⟨⟨⟨⟨hsize,hhead⟩,hstores⟩,hnodup⟩,hlooks⟩,htail⟩,hseq⟩:=hB;have hR0:=(hR.less (e8 ops m)).drew;generalize hds:e8 ops m=ds at h hR0;generalize hσ0:σ.less ds=σ0 at h hR0
 have hs0ds: ∀t av,σ0.get t=some av→t ∉ ds∧cP ds av=true:=fun t av hg=>by
  rw[←hσ0,s7]at hg;split at hg<;>try (cases hg;done)
  rename_i htd;refine⟨htd,?_⟩;cases hs:σ.get t with
  |none=>simp[hs]at hg
  |some y =>
   simp only[hs,d9,eN]at hg;subst hg;unfold AV.u6;cases hr:cP ds y with
   |true=>exact hr
   |false=>rfl
 obtain⟨tl,htl,⟨wl,hwl,hQ⟩,hst⟩:=yP.out _ _ _ h;obtain⟨hw1,_,hw3⟩:=hwl.spec;have hop: ∀j,j<m→(ops.toList.take m)[j]?=ops[j]?:=fun j hj=>by simp[cm,hj]
 have hstep: ∀j,j<m→ ∃o d av,ops[j]?=some o∧o.dst=some d∧tl[j]?=some (d,av)∧d<n∧d∈ds∧cP ds av=true∧(dJ cs j=true→cP hs av=true) ∧
  ∃lk hm:St,(∀t av,t∈o.looksAt ops→lk.get t=some av→(dJ cs j=true→t ∉ hs)∧St.get ((tl.take j).reverse++σ0) t=some av)∧(∀t av,hm.get t=some av→(dJ cs j=true→t ∉ hs)∧σ0.get t=some av) ∧
   (∀t av,σ0.get t=some av→(dJ cs j=true→t ∉ hs)→hm.get t=some av)∧rM P B F0 w0 ops hm lk o d av:=fun j hj=>by
  obtain⟨o,d,h1,h2,_⟩:=gm hhead hj;obtain⟨d',av,g1,g2,g3,g4,g5,lk,hm,q1,q2,q3,q4⟩:=hst j o (by rw[hop j hj];exact h1);rw[h2]at g2;simp at g2;subst g2;refine⟨o,d,av,h1,h2,g1,g3,?_,g4,g5,lk,hm,fun t av ht hg=>?_,q2,q3,q4⟩
  ·rw[←hds];exact hM.2 ⟨o,d0 ((hop j hj).trans h1),h2⟩
  ·have hn:dJ cs j=true→t ∉ hs:=fun hl=>DL hlooks hj hl h1 t ht;exact⟨hn,q1 t av hn hg⟩
 have hdist: ∀(i j t:Nat) (a b:AV),tl[i]?=some (t,a)→tl[j]?=some (t,b)→i=j:=fun i j t a b h1 h2=>by
  have hi:i<m:=by have:=(ap.1 h1).1;rw[htl]at this;simp at this;omega
  have hj:j<m:=by have:=(ap.1 h2).1;rw[htl]at this;simp at this;omega
  by_cases hij:i=j
  ·exact hij
  ·exfalso;obtain⟨o,d,av1,g1,g2,g3,_⟩:=hstep j hj;obtain⟨o',d',av2,f1,f2,f3,_⟩:=hstep i hi;obtain⟨o2,d2,e1,e2,_,_,e3,_⟩:=gm hhead hj;rw[g1]at e1;simp at e1;subst e1;have:=e3 i o' hi hij f1;rw[f2,g2]at this;rw[h1]at f3;rw[h2]at g3;simp at f3 g3;exact this (by rw[←f3.1,←g3.1])
 have H:D2 P T B F0 w0 n ops cs m hs ds σ0 tl wl:=⟨hsize,hhead,hstores,hnodup,hs0ds,hstep,by rw[htl];simp;omega,hdist,hw1,fun k hm hk=>by
  have hkl:=(ap.1 hk).1;obtain⟨o,_,h1,_⟩:=iU hstores hkl;obtain⟨av,k1,k2⟩:=hw3 k o hm (by rw[cm,if_pos hkl,cd];simpa using h1) hk
  exact⟨av,k1,o,h1,k2⟩⟩
 have hu0:un (ce ops.size false) (m+hs.length)=m+hs.length:=by
  have: ∀k,k≤m+hs.length→un (ce ops.size false) k=k:=fun k hk=>by
   induction k with
   |zero=>rfl
   |succ k ih =>
    have hlt:k<ops.size:=by omega
    simp[un,ih (by omega),hlt]
  exact this _<|b2 _
 have hinv0:HeadInv .any ops (m+hs.length) (ce ops.size false) :=
  ⟨by simp,fun j oj _ hl=>(by rw[getD_replicate_false]at hl;cases hl),fun t _ ht=>getD_in (by simpa using ht) (getD_replicate_false _ _)⟩
 have:=D2.all H hT htail hseq hQ (m+hs.length) (ce ops.size false) a {w with drawn:=w.drawn+1} (fun e a' w'=> ∃σ',Q e σ'∧Rel P B F0 w0 n σ' a' w') hinv0 hu0 (hR0.ext (fun t=>?_)) (fun a w σ' hk hr=>⟨σ',hk,hr⟩)
 ·rw[show m+hs.length+(ops.size-(m+hs.length))=ops.size by omega]at this;exact this
 ·have e1: ∀(l:List (Nat×AV)) (k:Nat),qi (ce ops.size false) k l=[]:=fun l=>by
   induction l with
   |nil=>intro k;rfl
   |cons e r ih=>intro k;simp only[qi,getD_replicate_false];exact ih<|k+1
  unfold D2.vm;rw[e1,e1];rfl
theorem AW.mU(hT:bB P T){id:Nat}(kt:P.follows .mixedOrders=true)(cs:List (Nat×Bool))(m:Nat)(hs:List Nat)(hB:FE ops cs m hs=true)
  (h:yP P B F0 w0 n ops (e8 ops m) hs (σ.less (e8 ops m)) cs (ops.toList.take m) (σ.less (e8 ops m)) (fun τ =>
   ∃wl,m8 T τ hs ((ops.toList.drop m).take hs.length) wl∧ae P B F0 w0 n ops (ops.toList.drop (m+hs.length)) (Q .normal) (wl.reverse++τ))):AW P B F0 w0 n (.region id ops true) Q σ:=AW.any kt (yQ.mU hT cs m hs hB h)
end Lift
namespace Lift
open Go
variable {av:AV}{xs:List D}{e t:Nat}
section
variable {P:Program} {T:Ty} {B:Nat} {F0:Nat→Prop} {w0:dh} {n:Nat} {σ:St} {K:St→Prop} {Q:Exit→St→Prop} {all:Array Oper} {l:List Oper} {c:Code}
def St.ij(t s:Nat)(av:AV)(σ:St):St:=(s,av)::(t,.al s)::St.kill s (σ.kill t)
theorem Rel.ij{s:Nat}{a:Act}{w:World}(hR:Rel P B F0 w0 n σ a w)(ht:σ.get t=some av)(hrow:av.row.isSome=true)(hs:σ.get s=some (.al t))(hne:t≠s):Rel P B F0 w0 n (σ.ij t s av) a w:=by
 obtain⟨O,hOr,hO⟩:=hR.own;obtain⟨v,hv,hr⟩:=hO t av ht;obtain⟨u,hu,hur⟩:=hO s _ hs
 have hvu:v=u:=by have:=hur av ht hrow;simp only[hv]at this;exact jj this
 subst hvu;have hF: ∀c,aQ O (FW B F0 w) c→aQ (tJ O t s) (FW B F0 w) c:=fun c hc=>⟨fG.2 hc.1,hc.2⟩
 have hcell: ∀{l:List D} {cs:Array Value},(∀(i:Nat) (d:D),(flatAll l)[i]?=some d→d.ba=true∧ ∃u,cs[i]?=some u∧Rd w (aQ O (FW B F0 w)) d u) →
   ∀(i:Nat) (d:D),(flatAll l)[i]?=some d→d.ba=true∧ ∃u,cs[i]?=some u∧Rd w (aQ (tJ O t s) (FW B F0 w)) d u:=fun h8 i dd hdd=>⟨(h8 i dd hdd).1,let ⟨z,hz,hzr⟩:=(h8 i dd hdd).2;⟨z,hz,hzr.mono hF (fun _ _=>rfl)⟩⟩
 refine⟨hR.below,hR.base,hR.f0,hR.defers,hR.size,tJ O t s,oI hOr,fun k x hk=>?_⟩;unfold St.ij at hk;rw[St.k5]at hk;split at hk
 ·rename_i hks;subst hks;simp at hk;subst hk;refine⟨v,hu,?_⟩;cases av<;>simp[AV.row]at hrow
  ·rcases hr with hr|⟨b,cap,cs,h1,h2,h3,h4,h5,h6,h7,h8⟩
   ·exact .inl hr
   ·exact .inr ⟨b,cap,cs,h1,by simp[tJ,h2],h3,h4,h5,h6,h7,hcell h8⟩
  ·rcases hr with hr|⟨b,o,cap,cs,hq,h1,h0,h2,h3,h4,h5,h6,h7,h8⟩
   ·exact .inl hr
   ·exact .inr ⟨b,o,cap,cs,hq,h1,h0,by simp[tJ,h2],h3,h4,h5,h6,h7,hcell h8⟩
 ·rename_i hks;split at hk
  ·rename_i hkt;subst hkt;simp at hk;subst hk;exact⟨v,hv,fun _ _ _=>hu⟩
  ·rename_i hkt;rw[St.dA,St.dA]at hk;cases hg:σ.get k with
   |none=>simp[hg]at hk
   |some y =>
    simp only[hg,d9,eN]at hk;subst hk;obtain⟨z,hz,hzr⟩:=hO k y hg;refine⟨z,hz,?_⟩;rcases AV.jW t y with⟨h1,h2⟩|h1
    ·rw[h1];rcases AV.jW s y with⟨h3,h4⟩|h3
     ·rw[h3];refine hzr.move (fun c hc=>⟨hF c hc,rfl⟩) (fun _ c hc=>⟨gD hc (hE hkt) (hE hks),rfl⟩) fun j hj x hx hg'=>?_;have hjt:j≠t:=fun e=>h2 (e▸hj);have hjs:j≠s:=fun e=>h4 (e▸hj);unfold St.ij at hg';rw[St.k5,if_neg (hE hjs),if_neg (hE hjt),St.dA,St.dA]at hg';cases hgj:σ.get j with
      |none=>simp[hgj]at hg'
      |some y' =>
       simp only[hgj,d9,eN]at hg';subst hg';have e1:=ir hx;rw[e1]at hx ⊢;rw[ir hx];exact⟨rfl,rfl⟩
     ·rw[h3];trivial
    ·rw[h1,show AV.kill s .junk= .junk from rfl];trivial
theorem ae.ij(t s:Nat)(ht:σ.get t=some av)(hrow:av.row.isSome=true)(hs:σ.get s=some (.al t))(hne:d7 t s=false)(h:ae P B F0 w0 n all l K (σ.ij t s av)):ae P B F0 w0 n all l K σ :=
 fun a w hR=>h a w (hR.ij ht hrow hs (gy hne))
theorem fo.Ms{X:Nat→Prop}{w:World}{O:Nat→Option Nat}{F:Nat→Prop}{hm hm':Nat→Option AV}{tm:Nat→Option Value}{v:Value}(ha:fo P X w O F hm tm t av v)
  (hr: ∀k,av.refs=some k→(∀ds,hm' k=some (.bx ds)→ ∃ds',hm k=some (.bx ds'))∧(∀x e l,hm' k=some x→x.row=some (e,l)→ ∃y l',hm k=some y∧y.row=some (e,l')∧l'.length=l.length∧y.tag=x.tag)):fo P X w O F hm' tm t av v:=by
 cases av with
 |pt k off =>
  intro ds hds;obtain⟨ds',e2⟩:=(hr k rfl).1 ds hds;exact ha ds' e2
 |al k =>
  intro x hx hrow;cases hrw:x.row with
  |none=>rw[hrw]at hrow;cases hrow
  |some p =>
   obtain⟨y,l',e2,e3,_,_⟩:=(hr k rfl).2 x p.1 p.2 hx hrw;exact ha y e2 (by rw[e3];rfl)
 |el k i off =>
  intro x e l hx hrow;obtain⟨y,l',e2,e3,e4,e5⟩:=(hr k rfl).2 x e l hx hrow;obtain⟨h0,h1⟩:=ha y e l' e2 e3;exact⟨by omega,h1⟩
 |sb k lo m =>
  intro x e l hx hrow;obtain⟨y,l',e2,e3,e4,e5⟩:=(hr k rfl).2 x e l hx hrow;have:=ha y e l' e2 e3;rw[e4,e5]at this;exact this
 |_=>exact ha
theorem Rel.Ip{a:Act}{w:World}(hR:Rel P B F0 w0 n σ a w)(ht:σ.get t=some (.ow e xs)):Rel P B F0 w0 n ((t,.wn false e xs 0 xs.length)::σ) a w:=by
 obtain⟨O,hOr,hO⟩:=hR.own;refine⟨hR.below,hR.base,hR.f0,hR.defers,hR.size,O,hOr,fun k x hk=>?_⟩
 have key: ∀j,(∀ds,St.get ((t,AV.wn false e xs 0 xs.length)::σ) j=some (.bx ds)→ ∃ds',σ.get j=some (.bx ds'))∧(∀x e' l,St.get ((t,AV.wn false e xs 0 xs.length)::σ) j=some x→x.row=some (e',l)→ ∃y l',σ.get j=some y∧y.row=some (e',l')∧l'.length=l.length∧y.tag=x.tag):=fun j=>by
  by_cases hj:t=j
  ·subst hj;refine⟨fun ds hds=>?_,fun x e' l hx hrow=>?_⟩
   ·rw[St.aL,if_pos rfl]at hds;cases hds
   ·rw[St.aL,if_pos rfl]at hx;simp at hx;subst hx;simp[AV.row]at hrow;obtain⟨rfl,rfl⟩:=hrow;exact⟨_,xs,ht,rfl,rfl,rfl⟩
  ·rw[St.aL,if_neg hj];exact⟨fun ds hds=>⟨ds,hds⟩,fun x e' l hx hrow=>⟨x,l,hx,hrow,rfl,rfl⟩⟩
 rw[St.aL]at hk;split at hk
 ·rename_i htk;subst htk;simp at hk;subst hk;obtain⟨v,hv,hr⟩:=hO t _ ht;refine⟨v,hv,?_⟩;exact OI hr
 ·obtain⟨v,hv,hr⟩:=hO k x hk;exact⟨v,hv,hr.Ms (fun j _=>key j)⟩
theorem ae.Ip(t:Nat)(ht:σ.get t=some (.ow e xs))(h:ae P B F0 w0 n all l K ((t,.wn false e xs 0 xs.length)::σ)):ae P B F0 w0 n all l K σ:=fun a w hR=>h a w (hR.Ip ht)
end
end Lift
namespace Lift
open Go
open Go.RowKit (Below)
section
variable {P:Program} {T:Ty} {B B1:Nat} {F0 F1:Nat→Prop} {w0 w1:dh} {n:Nat}
theorem jq.back{w:World}(h0:jq B w0 w0.w w1.w)(hB:B≤B1)(hX: ∀b,w1.X b→B≤b∨w0.X b)(h:jq B1 w1 w1.w w):jq B w0 w0.w w :=
 ⟨h.os.trans h0.os,h.tape.trans h0.tape,h.output.trans h0.output,cS h0.size h.size,fun k hk hx=>(h.block k (by omega) (fun h'=>by
   rcases hX k h' with g|g
   ·omega
   ·exact hx g)).trans (h0.block k hk hx),fun k cs e fz hk=>by
   obtain⟨c1,g1,g2⟩:=h0.same k cs e fz hk;obtain⟨c2,g3,g4⟩:=h.same k c1 e fz g1
   exact⟨c2,g3,g4.trans g2⟩⟩
def OG(P:Program)(all:Array Oper)(l:List Oper)(Q:Exit→Act→World→Prop):Exit→Act→World→Prop
 | .normal,a,w=>wpList P all Q l a w
 | .exit i,a,w=>Q (.exit i) a w
 | .goto i,a,w=>Q (.goto i) a w
 | .ret,a,w=>Q .ret a w
 | .panic c,a,w=>Q (.panic c) a w
 | .outgrown,a,w=>Q .outgrown a w
theorem Er{o:Oper}{a:Act}{next:Act→World→Prop}{Q Q':Exit→Act→World→Prop}(hp: ∀c a w,Q (.panic c) a w↔Q' (.panic c) a w)(ho:LetsOut Q↔LetsOut Q')
  {r:Result Next} (h:o.upon P a next Q r):o.upon P a next Q' r:=by
 cases r with
 |ok n w' =>
  cases n<;>simp only[ja]at h ⊢ <;>
   first
    |exact h
    |exact Calls.mono h (fun e w'' he=>by cases e<;>first|exact he|exact(hp _ _ _).1 he|exact ho.1 he)
 |halt x w'=>cases x<;>simp only[ja]at h ⊢ <;>exact(hp _ _ _).1 h
theorem jP{all:Array Oper}{Q:Exit→Act→World→Prop}(l2:List Oper): ∀(l1:List Oper) (a:Act) (w:World),wpList P all (OG P all l2 Q) l1 a w→wpList P all Q (l1++l2) a w
 |[],a,w,h=>h
 |o::l1,a,w,h=>by
  rw[gt];unfold wpList at h ⊢;split at h
  ·rw[if_pos (by assumption)];rcases h with h|h
   ·refine .inl ?_;have h1:=Oper.wp_mono (K':=wpList P all Q (l1++l2)) (fun a w=>jP l2 l1 a w) h;exact Er (fun c a w=>n3) n3 h1
   ·exact .inr h
  ·rw[if_neg (by assumption)];exact jP l2 l1 _ _ h
end
end Lift
namespace Lift
open Go
variable {m off:Nat}{F:Nat→Prop}{P:Program}{e t:TypeId}
section
variable {H:Type} {enc:TypeId×Value→H} 
def Wt{H:Type}(P:Program)(t:TypeId)(d:DataW H):Prop:= ∀n,n∈d.weights P t→n≤reachBytes
theorem oY{H:Type}{P:Program}{e:TypeId}{d:DataW H}{n:Nat}(hn:n∈d.weights P e): ∀{l:List (DataW H)},d∈l→n∈li P e l
 |x::l,h=>by
  rw[li];rcases m4.1 h with rfl|h
  ·exact cc _ hn
  ·exact cz _ (oY hn h)
def RT(P:Program)(t:TypeId)(α:Type)(cells:α→List D)(ok:α→Prop):Prop :=
 (∀v,(cells v).length=P.cellsOf t∧ ∀d∈cells v,d.ba=true) ∧
 ∀(H:Type) (enc:TypeId×Value→H) (w:World) (fuel:Nat) (cs:List Value) (x:DataW H×List MemPlace),n4 enc P w 0 (fun _=>true) true fuel t cs=some x→Wt P t x.1 →
  ∃v,ok v∧nR w (fun b=>b<w.heap.size) (cells v) cs
def l7(P:Program)(m:Nat)(fs:List Field)(off:Nat)(α:Type)(cells:α→List D)(ok:α→Prop):Prop :=
 (∀v,∀d∈cells v,d.ba=true) ∧
 ∀(H:Type) (enc:TypeId×Value→H) (w:World) (n:Nat) (cs:List Value) (xs:List (DataW H×List MemPlace)),cs.length=m→xs.length=fs.length →
  (∀(i:Nat) (f:Field),fs[i]?=some f→n4 enc P w 0 (fun _=>true) true n f.type ((cs.drop f.offset).take (P.cellsOf f.type))=xs[i]?) →
  (∀n,n∈ga P (fs.map (·.type)) (xs.map (·.1))→n≤reachBytes)→ ∃v,ok v∧nR w (fun b=>b<w.heap.size) (cells v) (cs.drop off)
theorem nR.one{w:World}{d:D}{v:Value}(hc:d.ba=true)(h:Rd w F d v):nR w F [d] [v] :=
 ⟨rfl,fun i e u h1 h2=>by cases i<;>simp at h1 h2;subst h1;subst h2;exact⟨hc,h⟩⟩
theorem nR.append{w:World}{ds es:List D}{vs us:List Value}(h:nR w F ds vs)(k:nR w F es us):nR w F (ds++es) (vs++us):=by
 refine⟨by simp[h.1,k.1],fun i d u h1 h2=>?_⟩;rcases ch i ds.length with hi|hi
 ·rw[bn hi]at h1;rw[bn (by rw[h.1];exact hi)]at h2;exact h.2 i d u h1 h2
 ·rw[b1 hi]at h1;rw[b1 (by rw[h.1];exact hi),h.1]at h2;exact k.2 _ d u h1 h2
theorem RT.bool(ht:P.underlying t=some .bool)(h1:P.cellsOf t=1):RT P t Bool (fun b=>[.v (.bool b)]) (fun _=>True) :=
 ⟨fun v=>⟨h1.symm,fun d hd=>by simp at hd;subst hd;rfl⟩,fun H enc w fuel cs x h _=>by
  obtain⟨b,rfl,_⟩:=DataW.trod_bool ht h
  exact⟨b,trivial,nR.one rfl (.v rfl)⟩⟩
theorem RT.int{k:IntKind}(ht:P.underlying t=some (.int k))(h1:P.cellsOf t=1):RT P t Int (fun n=>[.v (.int k n)]) (fun n=>(Lit.int k n).wf=true) :=
 ⟨fun v=>⟨h1.symm,fun d hd=>by simp at hd;subst hd;rfl⟩,fun H enc w fuel cs x h _=>by
  obtain⟨n,rfl,_,hw⟩:=DataW.trod_int ht h
  exact⟨n,hw,nR.one rfl (.v rfl)⟩⟩
theorem RT.string(ht:P.underlying t=some .string)(h1:P.cellsOf t=1):RT P t ByteArray (fun s=>[.v (.string s)]) (fun s=>s.size≤reachBytes) :=
 ⟨fun v=>⟨h1.symm,fun d hd=>by simp at hd;subst hd;rfl⟩,fun H enc w fuel cs x h hw=>by
  obtain⟨s,rfl,rfl,hs⟩:=DataW.trod_string ht h
  exact⟨s,hw _ (by rw[i4];simp),nR.one rfl (.v (decide_eq_true hs))⟩⟩
theorem RT.map{α β:Type}{ca:α→List D}{cb:β→List D}{oa:α→Prop}{ob:β→Prop}(h:RT P t α ca oa)(f:α→β)(hc: ∀a,oa a→cb (f a)=ca a)(ho: ∀a,oa a→ob (f a))(hb: ∀v,(cb v).length=P.cellsOf t∧ ∀d∈cb v,d.ba=true):RT P t β cb ob :=
 ⟨hb,fun H enc w fuel cs x hx hw=>by
  obtain⟨a,h1,h2⟩:=h.2 H enc w fuel cs x hx hw
  exact⟨f a,ho a h1,by rw[hc a h1];exact h2⟩⟩
theorem l7.nil:l7 P m [] m Unit (fun _=>[]) (fun _=>True) :=
 ⟨(fun v d hd=>by cases hd),fun H enc w n cs xs hm hl hx _=>⟨(),trivial,by
   rw[List.drop_eq_nil_of_le (by omega)]
   exact⟨rfl,fun i d u h=>by cases h⟩⟩⟩
theorem l7.cons{f:Field}{fs:List Field}{α β:Type}{ca:α→List D}{cb:β→List D}{oa:α→Prop}{ob:β→Prop}(ho:off=f.offset+P.cellsOf f.type)(h:RT P f.type α ca oa)(k:l7 P m fs off β cb ob):
  l7 P m (f::fs) f.offset (α×β) (fun v=>ca v.1++cb v.2) (fun v=>oa v.1∧ob v.2):=by
 subst ho;refine⟨fun v d hd=>?_,fun H enc w n cs xs hm hl hx hw=>?_⟩
 ·rcases gB.1 hd with hd|hd
  ·exact(h.1 v.1).2 d hd
  ·exact k.1 v.2 d hd
 ·match xs,hl with
  |x::xs,hl =>
   rw[m5,m5,ga]at hw;obtain⟨a,ha,hra⟩:=h.2 H enc w n _ x (hx 0 f rfl) (fun n hn=>hw n (cc _ hn));obtain⟨b,hb,hrb⟩:=k.2 H enc w n cs xs hm (by simpa using hl) (fun i g hg=>hx (i+1) g (by simpa using hg)) (fun n hn=>hw n (cz _ hn));refine⟨(a,b),⟨ha,hb⟩,?_⟩;have:=hra.append hrb
   rwa [←ep,cx]at this
theorem RT.struct{fs:Array Field}{α:Type}{ca:α→List D}{oa:α→Prop}(ht:P.underlying t=some (.struct fs))(hm:P.cellsOf t=m)(h:l7 P m fs.toList 0 α ca oa)(hlen: ∀v,(ca v).length=m):RT P t α ca oa:=by refine⟨fun v=>⟨(hlen v).trans hm.symm,h.1 v⟩,fun H enc w fuel cs x hx hw=>?_⟩;obtain⟨xs,n,_,rfl,hl,hxl,hf⟩:=DataW.trod_struct ht hx;obtain⟨v,hv,hr⟩:=h.2 H enc w n cs xs (hl.trans hm) (by simpa using hxl) (fun i f hi=>hf i f (by simpa using hi)) (fun n hn=>hw n (by rw[i4,ht];exact hn));exact⟨v,hv,by simpa using hr⟩
theorem AB{w:World}{b:Nat}{u:Value}(h:w.cell? ⟨b,off,none⟩=some u): ∃cs e fz,w.heap[b]?=some (.cells cs e fz)∧cs[off]?=some u:=by
 unfold World.cell? at h;split at h
 ·rename_i cs e fz hh;exact⟨cs,e,fz,hh,by simpa using h⟩
 ·cases h
theorem RT.sliceB(c:Nat){s:Nat}{α:Type}{ca:α→List D}{oa:α→Prop}{el:α→D}(ht:P.underlying t=some (.slice e))(h1:P.cellsOf t=1)(hs:P.cellsOf e=s)(h0:0<s)(hby:c≤P.bytesOf e)(h:RT P e α ca oa)(hel: ∀v,(el v).flat=ca v):
  RT P t (List α) (fun l=>[.sl s (l.map el)]) (fun l=>l.length*c≤reachBytes∧ ∀v∈l,oa v):=by
 refine⟨fun v=>⟨h1.symm,fun d hd=>by simp at hd;subst hd;rfl⟩,fun H enc w fuel cs x hx hw=>?_⟩;rcases DataW.trod_slice ht hx with⟨rfl,_⟩|⟨a,len,cap,elems,rest,n,_,rfl,rfl,_,hlc,hcm,hel',hget,_,_⟩
 ·exact⟨[],⟨by rw[List.length_nil,n2];exact cj _,fun v hv=>by cases hv⟩,nR.one rfl (.nil (cj _))⟩
 rw[hs]at hget;unfold Wt at hw;rw[i4,ht]at hw
 have hlen0:len*c≤reachBytes:=by have h2:=hw _ (hZ ..);rw[b3,hel']at h2;exact cS (eq (Nat.le_add_right _ _) hby) h2
 have each: ∀i:Fin len,∃v,oa v∧ ∃cs',w.cells? 0 (a.add (i.1*s)) s=some cs'∧nR w (fun b=>b<w.heap.size) (ca v) cs':=fun i=>by have hi:=hget i.1 i.2;have he:elems[i.1]?=some elems[i.1]:=az (by omega);rw[he,Option.bind_eq_some_iff]at hi;obtain⟨cs',h2,h3⟩:=hi;obtain⟨v,hv,hr⟩:=h.2 H enc w n cs' _ h3 (fun n hn=>hw n (j3 _ (cc _ (oY hn (List.mem_map_of_mem (lw _))))));exact⟨v,hv,cs',h2,hr⟩
 obtain⟨f,hf⟩:=Classical.axiomOfChoice each;refine⟨ip f,⟨by rw[ln];exact hlen0,fun v hv=>?_⟩,nR.one rfl ?_⟩
 ·obtain⟨i,rfl⟩:=List.mem_ofFn.1 hv;exact(hf i).1
 rcases bv len with hz|hpos
 ·subst hz;rw[List.ofFn_zero,List.map_nil];exact .nil hcm
 obtain⟨b,off,spot⟩:=a
 have hsp:spot=none:=by obtain⟨_,cs',h2,_⟩:=hf ⟨0,hpos⟩;obtain⟨_,hl,hc⟩:=h9 h2;have:=hc 0 h0;rw[n2]at this;have he:cs'[0]?=some cs'[0]:=az (by omega);rw[he]at this;simpa[Addr.add]using World.cell?_spot this
 subst hsp
 have hadd: ∀k m:Nat,((⟨b,off,none⟩:Addr).add k).add m=⟨b,off+(k+m),none⟩:=fun k m=>by simp only[Addr.add];split<;>split<;>simp_all<;>omega
 have hu: ∀x,x∈(ip f).map el→x.flat.length=s:=fun x hx=>by obtain⟨v,_,rfl⟩:=ny.1 hx;rw[hel,(h.1 v).1,hs]
 have hblk: ∃arr e' fz,w.heap[b]?=some (.cells arr e' fz):=by obtain⟨_,cs',h2,_⟩:=hf ⟨0,hpos⟩;obtain⟨_,hl,hc⟩:=h9 h2;have:=hc 0 h0;rw[hadd,show cs'[0]?=some cs'[0]from az (by omega)]at this;obtain⟨arr,e',fz,g,_⟩:=AB this;exact⟨arr,e',fz,g⟩
 obtain⟨arr,e',fz,hblk⟩:=hblk;have hlen:((ip f).map el).length=len:=by rw[b3,ln]
 have key:=Rd.nV (w:=w) (F:=fun b=>b<w.heap.size) (s:=s) (l:=(ip f).map el) (off:=off) (cap:=cap) (c0.1 hblk).1 hblk (by omega) hcm hu (fun j d hj=>?_)
 ·rwa [hlen]at key
 have hjl:=(ap.1 hj).1;rw[aR hu,hlen]at hjl;have hdm:=cM j s;have hml:=cJ j h0;have hil:j/s<len:=Nat.div_lt_of_lt_mul (by rw[bi];exact hjl);obtain⟨_,cs',h2,hr⟩:=hf ⟨j/s,hil⟩;have hg:((ip f).map el)[j/s]?=some (el (f ⟨j/s,hil⟩)):=by simp[hil]
 have hfa:=de (j%s) hu hg hml;rw[show j/s*s+j%s=j by rw[bi];exact hdm,hj,hel]at hfa;obtain⟨g1,u,g2,g3⟩:=hr.get hfa.symm;obtain⟨_,hl,hc⟩:=h9 h2;have hc':=hc (j%s) hml;rw[hadd,g2,show j/s*s+j%s=j by rw[bi];exact hdm]at hc';obtain⟨arr2,e2,fz2,k1,k2⟩:=AB hc';rw[hblk]at k1;cases k1;exact⟨g1,u,k2,g3⟩
end
theorem RT.slice{s:Nat}{α:Type}{ca:α→List D}{oa:α→Prop}{el:α→D}(ht:P.underlying t=some (.slice e))(h1:P.cellsOf t=1)(hs:P.cellsOf e=s)(h0:0<s)(hby:0<P.bytesOf e)(h:RT P e α ca oa)(hel: ∀v,(el v).flat=ca v):
  RT P t (List α) (fun l=>[.sl s (l.map el)]) (fun l=>l.length≤reachBytes∧ ∀v∈l,oa v) :=
 (RT.sliceB 1 ht h1 hs h0 hby h hel).map id (fun v h=>rfl) (fun v h=>⟨by have:=h.1;rw[c6]at this;exact this,h.2⟩) (fun v=>⟨h1.symm,fun d hd=>by simp at hd;subst hd;rfl⟩)
end Lift
namespace Lift
open Go Go.ChangeShapes
open Go.RowKit (Below)
variable {t:TypeId}
section
variable {P:Program}
def RA(P:Program)(t:TypeId)(α:Type)(el:α→D)(ok:α→Prop):Prop :=
 ∀(H:Type) (enc:TypeId×Value→H) (w:World) (v:Value) (d:DataW H) (ps:List MemPlace) (r:Reach) (b0:Nat),DataW.Trod enc P w 0 (fun _=>true) true t v d ps→Wt P t d→i9 P w r b0 t v→ ∃a,ok a∧Rd w (fun b=>b<w.heap.size) (el a) v
theorem RA.agg{α:Type}{cells:α→List D}{ok:α→Prop}{fs:Array Field}(ht:P.underlying t=some (.struct fs))(h:RT P t α cells ok):RA P t α (fun a=>.ag (cells a)) ok:=by intro H enc w v d ps r b0 ⟨fuel,hd⟩ hw hv;unfold i9 at hv;rw[ht]at hv;obtain⟨cs,rfl,_,_⟩:=hv;obtain⟨a,ha,hl,hr⟩:=h.2 H enc w fuel _ _ hd hw;refine⟨a,ha,?_⟩;have:=Rd.ag (w:=w) (F:=fun b=>b<w.heap.size) (l:=cells a) (vs:=cs.toList) (by simpa[nm]using hl) (fun d hd=>(h.1 a).2 d hd) (fun i d u h1 h2=>(hr i d u h1 (by simpa[nm]using h2)).2);simpa using this
def RAs(P:Program)(ts:List TypeId)(α:Type)(ds:α→List D)(ok:α→Prop):Prop :=
 (∀t∈ts,P.readableRec t=true∧t<P.types.size) ∧
 ∀(H:Type) (enc:TypeId×Value→H) (w:World) (vs:List Value) (xs:List (DataW H)) (ps:List MemPlace) (r:Reach) (b0:Nat),g9 enc P w 0 (fun _=>true) true ts vs xs ps→(∀n,n∈ga P ts xs→n≤reachBytes) →
  (∀(j:Nat) (t:TypeId) (v:Value),ts[j]?=some t→vs[j]?=some v→i9 P w r b0 t v) →
  ∃a,ok a∧vs.length=(ds a).length∧ ∀(i:Nat) (d:D) (v:Value),(ds a)[i]?=some d→vs[i]?=some v→Rd w (fun b=>b<w.heap.size) d v
theorem RAs.nil:RAs P [] Unit (fun _=>[]) (fun _=>True) :=
 ⟨(fun t h=>by cases h),fun H enc w vs xs ps r b0 h _ _=>by
   obtain⟨rfl,rfl,rfl⟩:=trodAll_nil h
   exact⟨(),trivial,rfl,fun i d v h=>by cases h⟩⟩
theorem RAs.cons{ts:List TypeId}{α β:Type}{el:α→D}{ds:β→List D}{oa:α→Prop}{ob:β→Prop}(h1:P.readableRec t=true)(h2:t<P.types.size)(h:RA P t α el oa)(k:RAs P ts β ds ob):
  RAs P (t::ts) (α×β) (fun v=>el v.1::ds v.2) (fun v=>oa v.1∧ob v.2):=by
 refine⟨fun u hu=>?_,fun H enc w vs xs ps r b0 ht hw hv=>?_⟩
 ·rcases m4.1 hu with rfl|hu
  ·exact⟨h1,h2⟩
  ·exact k.1 u hu
 ·obtain⟨v,vs',d,ds',p,q,rfl,rfl,rfl,hd,hrest⟩:=trodAll_cons ht;rw[ga]at hw;obtain⟨a,ha,hra⟩:=h H enc w v d p r b0 hd (fun n hn=>hw n (cc _ hn)) (hv 0 t v rfl rfl);obtain⟨b,hb,hlb,hrb⟩:=k.2 H enc w vs' ds' q r b0 hrest (fun n hn=>hw n (cz _ hn)) (fun j t v h1 h2=>hv (j+1) t v (by simpa using h1) (by simpa using h2));refine⟨(a,b),⟨ha,hb⟩,by simp[hlb],fun i d v h1 h2=>?_⟩;cases i with
  |zero =>
   simp at h1 h2;subst h1;subst h2;exact hra
  |succ i=>exact hrb i d v (by simpa using h1) (by simpa using h2)
theorem ql(hl:laidOutB P=true){H:Type}{enc:TypeId×Value→H}{W W':World}(hb:Below W.heap.size W W'): ∀{ts:List TypeId} {vs:List Value} {ds:List (DataW H)} {ps:List MemPlace},(∀t∈ts,P.readableRec t=true∧t<P.types.size) →
  g9 enc P W 0 (fun _=>true) true ts vs ds ps→(∀x∈ps,x.block<W.heap.size)→g9 enc P W' 0 (fun b=>decide (b<W.heap.size)) true ts vs ds ps
 |[],_,_,_,_,h,_=>by obtain⟨rfl,rfl,rfl⟩:=trodAll_nil h;exact trodAll_mk0
 |t::ts,_,_,_,hr,h,hp=>by
  obtain⟨v,vs',d,ds',p,q,rfl,rfl,rfl,hd,hrest⟩:=trodAll_cons h
  exact⟨p,q,nl hl (hr t (hZ ..)).1 (hr t (hZ ..)).2 hd hb (fun x hx=>hp x (cc _ hx)),
   ql hl hb (fun t ht=>hr t (j3 _ ht)) hrest (fun x hx=>hp x (cz _ hx)),rfl⟩
theorem uO{H:Type}{enc:TypeId×Value→H}{w:World}{base:Nat}{spare:Nat→Bool}{held:Bool}: ∀{ts:List TypeId} {vs:List Value} {ds:List (DataW H)} {ps:List MemPlace},g9 enc P w base spare held ts vs ds ps→ds.length=ts.length
 |[],_,_,_,h=>by obtain⟨rfl,rfl,rfl⟩:=trodAll_nil h;rfl
 |t::ts,_,_,_,h=>by obtain⟨v,vs',d,ds',p,q,rfl,rfl,rfl,hd,hrest⟩:=trodAll_cons h;rw[ey,ey,uO hrest]
theorem law_post{C:Checked}{os:Os}{f:FuncId}{fn:Func}{s:ChangeSpec}{conds:List PathCond}{fresh handsOn:Bool}{apart:Bool}{H:Type}{enc:TypeId×Value→H}{α:Type}{ds:α→List D}{ok:α→Prop}{tb:TypeId}
  (own:ownKnob C.prog.godebug=none) (started:os.Started) (noInit:C.prog.inits.idxOf? f=none) (hfn:C.prog.funcs[f]?=some fn) (hl:laidOutB C.prog=true)
  (witness: ∃(w:World) (tape:Tape) (i:Input),w.os=os∧(w.forCall tape i).Shaped C.prog∧i.vars=[]∧Input.okWide C.prog (w.forCall tape i) .any w.heap.size f i ∧
   s.pre6 enc C.prog fn conds apart (w.forCall tape i).memory i.args∧({}:Assume).holds C.prog (lone (Frame.enter C.prog f i.args .normal) [] (w.forCall tape i)))
  (hvars:s.vars=[]) (hres:fn.resultTypes= #[tb]) (htb:C.prog.underlying tb=some .bool)
  (hspec: ∀xs:List (DataW H),xs.length=fn.params.toList.length→s.fn H xs={results:=[.lit (.bool true)],args:=xs})
  (hargs:RAs C.prog fn.params.toList α ds ok) (h: ∀a,ok a→Pure C.prog f (ds a) (.v (.bool true))):
  ReturnsInHanded {} C os f .any (s.pre6 enc C.prog fn conds apart) (s.post enc C.prog fn apart fresh handsOn false):=by
 refine returnsInHanded_of_change_sized own started noInit hfn witness ?_;intro W base args xs gs before hval hW hcnd hwt _;have hW':=hW;obtain⟨p,q,hA,hV,rfl,hfz,hnd⟩:=hW;rw[hvars]at hV;obtain⟨rfl,rfl⟩:=trodVars_none hV
 have hvt:s.plain.varTypes C.prog=[]:=by show(s.vars.filterMap _)=[];rw[hvars];rfl
 rw[hvt,eX,eX]at hwt;obtain⟨a,ha,hlen,hr⟩:=hargs.2 H enc W args.toList xs p .any base hA (fun n hn=>by simpa using cT.1 hwt n hn) (fun j t v h1 h2=>hval j t v (by simpa using h1) (by simpa using h2));have hc:=(h a ha).2 W (fun b=>b<W.heap.size) args.toList (fun b hb=>hb) hlen hr;rw[Array.toArray_toList]at hc;refine hc.mono fun e W' ⟨v,he,hb,hrd⟩=>⟨v,he,?_⟩;obtain⟨rfl,_⟩:=hrd.j5;have hsp:=hspec xs (uO hA);have hlt: ∀x∈p,x.block<W.heap.size:=fun x hx=>hW'.lt x (cc _ hx);refine⟨xs,[],p++[],[],p,[],hW',?_,?_,?_,hb.frame _,fun h=>by cases h⟩
 ·rw[eX,hsp,hres];exact trodAll_mk1<|Go.RowKit.shut_bool htb true
 ·rw[eX,hsp];exact ql hl hb hargs.1 hA hlt
 ·rw[eX,hsp,hvars];rfl
end
end Lift
namespace Lift
variable {c p:Prop}
theorem ar[inst:Decidable p](h:decide p=false):¬p:=of_decide_eq_false h
theorem ao[inst:Decidable p](h:decide p=true):p:=of_decide_eq_true h
theorem aN[inst:Decidable p](h:p):decide p=true:=decide_eq_true h
theorem a5[inst:Decidable p](h:¬p):decide p=false:=decide_eq_false h
theorem af{h:Decidable c}(g:¬c){α:Type}{t e:α}:(ite c t e)=e:=if_neg g
theorem ah{h:Decidable c}(g:c){α:Type}{t e:α}:(ite c t e)=t:=if_pos g
theorem aliBf{α:Type}[BEq α][LawfulBEq α]{a b:α}:(a==b)=false↔a≠b:=beq_eq_false_iff_ne
theorem aliBe{α:Type}[BEq α][LawfulBEq α]{a b:α}:(a != b)=false↔a=b:=bne_eq_false_iff_eq
theorem aliBn{α:Type}[BEq α][LawfulBEq α]{a b:α}:(a != b)=true↔a≠b:=bne_iff_ne
theorem D7{α:Type}[BEq α][LawfulBEq α]{a b:α}:(a==b)=true↔a=b:=beq_iff_eq
theorem D8{α:Type}[BEq α][ReflBEq α](a:α):(a==a)=true:=beq_self_eq_true a
theorem aG{a b:Prop}(h:a)(g:¬a):b:=absurd h g
open Go Go.Proofs
def KO:Ty:=[
 (2,⟨1,8,false,[.v (.int .i64 0)],[],0,2,.i64⟩),
 (3,⟨1,8,false,[.v (.int .i64 0)],[],0,2,.i64⟩),
 (4,⟨1,1,false,[.v (.bool false)],[],0,1,.i64⟩),
 (5,⟨1,1,false,[.v (.int .u8 0)],[],0,2,.u8⟩),
 (6,⟨1,1,false,[.v (.int .u8 0)],[],0,2,.u8⟩),
 (7,⟨4,24,true,[.v (.int .i64 0),.v (.int .i64 0),.v (.bool false),.v (.int .u8 0)],[(0,1,false),(1,1,false),(2,1,false),(3,1,false)],0,5,.i64⟩),
 (8,⟨4,24,true,[.v (.int .i64 0),.v (.int .i64 0),.v (.bool false),.v (.int .u8 0)],[(0,1,false),(1,1,false),(2,1,false),(3,1,false)],0,5,.i64⟩),
 (9,⟨1,16,false,[.v (.string ⟨#[]⟩)],[],0,3,.i64⟩),
 (10,⟨1,16,false,[.v (.string ⟨#[]⟩)],[],0,3,.i64⟩),
 (11,⟨1,16,false,[.v (.string ⟨#[]⟩)],[],0,3,.i64⟩),
 (12,⟨1,8,false,[.v (.int .u64 0)],[],0,2,.u64⟩),
 (13,⟨2,24,true,[.v (.string ⟨#[]⟩),.v (.int .u64 0)],[(0,1,false),(1,1,false)],0,5,.i64⟩),
 (14,⟨2,24,true,[.v (.string ⟨#[]⟩),.v (.int .u64 0)],[(0,1,false),(1,1,false)],0,5,.i64⟩),
 (15,⟨1,8,false,[.v (.pointer none)],[],0,7,.i64⟩),
 (16,⟨1,8,false,[.v (.pointer none)],[],0,7,.i64⟩),
 (17,⟨1,8,false,[.v (.pointer none)],[],0,7,.i64⟩),
 (20,⟨1,16,false,[.v .nilIface],[],0,6,.i64⟩),
 (21,⟨1,4,false,[.v (.int .i32 0)],[],0,2,.i32⟩),
 (22,⟨1,24,false,[.sl 2 []],[],65,4,.i64⟩),
 (23,⟨1,24,false,[.sl 7 []],[],41,4,.i64⟩),
 (24,⟨1,24,false,[.sl 2 []],[],110,4,.i64⟩),
 (25,⟨4,88,true,[.v (.string ⟨#[]⟩),.sl 2 [],.sl 7 [],.sl 2 []],[(0,1,false),(1,1,false),(2,1,false),(3,1,false)],0,5,.i64⟩),
 (26,⟨4,88,true,[.v (.string ⟨#[]⟩),.sl 2 [],.sl 7 [],.sl 2 []],[(0,1,false),(1,1,false),(2,1,false),(3,1,false)],0,5,.i64⟩),
 (27,⟨1,24,false,[.sl 1 []],[],52,4,.i64⟩),
 (28,⟨1,24,true,[.sl 1 []],[(0,1,false)],0,5,.i64⟩),
 (29,⟨1,24,true,[.sl 1 []],[(0,1,false)],0,5,.i64⟩),
 (30,⟨1,24,false,[.sl 4 []],[],73,4,.i64⟩),
 (31,⟨1,24,false,[.sl 1 []],[],3,4,.i64⟩),
 (32,⟨3,72,true,[.sl 1 [],.sl 4 [],.sl 1 []],[(0,1,true),(1,1,false),(2,1,false)],0,5,.i64⟩),
 (33,⟨3,72,true,[.sl 1 [],.sl 4 [],.sl 1 []],[(0,1,true),(1,1,false),(2,1,false)],0,5,.i64⟩),
 (36,⟨1,16,false,[.v .nilIface],[],0,6,.i64⟩),
 (37,⟨1,16,false,[.v .nilIface],[],0,6,.i64⟩),
 (40,⟨7,64,true,[.v (.string ⟨#[]⟩),.v (.int .i64 0),.v (.int .i64 0),.v (.int .i64 0),.v (.int .i64 0),.v (.int .i64 0),.v (.int .i64 0)],[(0,1,false),(1,1,false),(2,1,false),(3,1,false),(4,1,false),(5,1,false),(6,1,false)],0,5,.i64⟩),
 (41,⟨7,64,true,[.v (.string ⟨#[]⟩),.v (.int .i64 0),.v (.int .i64 0),.v (.int .i64 0),.v (.int .i64 0),.v (.int .i64 0),.v (.int .i64 0)],[(0,1,false),(1,1,false),(2,1,false),(3,1,false),(4,1,false),(5,1,false),(6,1,false)],0,5,.i64⟩),
 (43,⟨1,24,false,[.sl 1 []],[],27,4,.i64⟩),
 (51,⟨1,24,false,[.sl 3 []],[],68,4,.i64⟩),
 (52,⟨1,24,false,[.sl 3 []],[],68,4,.i64⟩),
 (63,⟨1,24,false,[.sl 7 []],[],70,4,.i64⟩),
 (64,⟨2,40,true,[.v (.string ⟨#[]⟩),.sl 7 []],[(0,1,false),(1,1,false)],0,5,.i64⟩),
 (65,⟨2,40,true,[.v (.string ⟨#[]⟩),.sl 7 []],[(0,1,false),(1,1,false)],0,5,.i64⟩),
 (66,⟨1,24,false,[.sl 1 []],[],117,4,.i64⟩),
 (67,⟨3,56,true,[.v (.bool false),.sl 1 [],.sl 1 []],[(0,1,false),(1,1,false),(2,1,false)],0,5,.i64⟩),
 (68,⟨3,56,true,[.v (.bool false),.sl 1 [],.sl 1 []],[(0,1,false),(1,1,false),(2,1,false)],0,5,.i64⟩),
 (69,⟨7,128,true,[.v (.string ⟨#[]⟩),.v (.bool false),.sl 1 [],.sl 1 [],.v (.bool false),.sl 1 [],.sl 1 []],[(0,1,false),(1,3,true),(4,3,true)],0,5,.i64⟩),
 (70,⟨7,128,true,[.v (.string ⟨#[]⟩),.v (.bool false),.sl 1 [],.sl 1 [],.v (.bool false),.sl 1 [],.sl 1 []],[(0,1,false),(1,3,true),(4,3,true)],0,5,.i64⟩),
 (72,⟨4,96,true,[.sl 3 [],.sl 3 [],.sl 3 [],.sl 3 []],[(0,1,false),(1,1,false),(2,1,false),(3,1,false)],0,5,.i64⟩),
 (73,⟨4,96,true,[.sl 3 [],.sl 3 [],.sl 3 [],.sl 3 []],[(0,1,false),(1,1,false),(2,1,false),(3,1,false)],0,5,.i64⟩),
 (81,⟨1,8,false,[.v (.int .i64 0)],[],0,2,.i64⟩),
 (98,⟨1,8,false,[.v (.pointer none)],[],0,7,.i64⟩),
 (99,⟨2,40,true,[.sl 1 [],.v .nilIface],[(0,1,true),(1,1,false)],0,5,.i64⟩),
 (100,⟨2,40,true,[.sl 1 [],.v .nilIface],[(0,1,true),(1,1,false)],0,5,.i64⟩),
 (109,⟨2,24,true,[.v (.string ⟨#[]⟩),.v (.int .i64 0)],[(0,1,false),(1,1,false)],0,5,.i64⟩),
 (110,⟨2,24,true,[.v (.string ⟨#[]⟩),.v (.int .i64 0)],[(0,1,false),(1,1,false)],0,5,.i64⟩),
 (117,⟨1,4,false,[.v (.int .u32 0)],[],0,2,.u32⟩),
 (129,⟨4,80,true,[.sl 1 [],.sl 1 [],.v (.int .i64 0),.sl 3 []],[(0,1,false),(1,1,false),(2,1,false),(3,1,false)],0,5,.i64⟩),
 (130,⟨4,80,true,[.sl 1 [],.sl 1 [],.v (.int .i64 0),.sl 3 []],[(0,1,false),(1,1,false),(2,1,false),(3,1,false)],0,5,.i64⟩),
 (137,⟨2,32,true,[.v (.bool false),.sl 1 []],[(0,1,false),(1,1,false)],0,5,.i64⟩),
 (138,⟨2,32,true,[.v (.bool false),.sl 1 []],[(0,1,false),(1,1,false)],0,5,.i64⟩),
 (168,⟨1,8,false,[.v (.int .u64 0)],[],0,2,.u64⟩),
 (170,⟨1,8,false,[.v (.int .u64 0)],[],0,2,.u64⟩),
 (209,⟨1,1,false,[.v (.int .u8 0)],[],0,2,.u8⟩),
 (210,⟨1,1,false,[.v (.int .u8 0)],[],0,2,.u8⟩),
 (212,⟨1,8,false,[.v (.pointer none)],[],0,7,.i64⟩),
 (213,⟨1,4,false,[.v (.int .i32 0)],[],0,2,.i32⟩),
 (214,⟨1,4,false,[.v (.int .i32 0)],[],0,2,.i32⟩)]
theorem tok:bB Tryz.prog KO:=Ty.th (by kernel_rfl)
theorem aO:Tryz.prog.follows .mixedOrders=true:=by kernel_rfl
end Lift
namespace Lift
open Go Go.Proofs
variable {ops:Array Oper}{res:D}{f:FuncId}{ds:List Nat}{l r rest:List Oper}{B d n:Nat}{F0:Nat→Prop}{o:Oper}{σ σ0 τ:St}{K:St→Prop}{w0:dh}
section
variable {id:Nat} {σ':St} {Q Q':Exit→St→Prop} {y:Code}
theorem qU(k:Nat)(h:y8 KO n ops k l σ=some (σ',r))(hk:ae Tryz.prog B F0 w0 n ops r K σ'):ae Tryz.prog B F0 w0 n ops l K σ:=ae.run tok k _ _ _ _ h hk
theorem qT(k:Nat)(h:y8 KO n ops k ops.toList σ=some (σ',r))(hk:ae Tryz.prog B F0 w0 n ops r (Q .normal) σ'):AW Tryz.prog B F0 w0 n (.region id ops false) Q σ:=AW.region (qU k h hk)
theorem qX(k:Nat)(h:y8 KO n ops k ops.toList σ=some (σ',r))(hk:ae Tryz.prog B F0 w0 n ops r (rX (AW Tryz.prog B F0 w0 n y Q) Q .normal) σ'):AW Tryz.prog B F0 w0 n (.seq (.region id ops false) y) Q σ:=AW.seq (qT k h hk)
theorem qN(h:Q' .ret σ):ae Tryz.prog B F0 w0 n ops [] (rX (AW Tryz.prog B F0 w0 n .ret Q') Q .normal) σ:=ae.nil (AW.ret h)
theorem qI{x:Code}(h:AW Tryz.prog B F0 w0 n x (rX (AW Tryz.prog B F0 w0 n y Q') Q') σ):ae Tryz.prog B F0 w0 n ops [] (rX (AW Tryz.prog B F0 w0 n (.seq x y) Q') Q .normal) σ:=ae.nil (AW.seq h)
theorem qK{op2:Array Oper}(k:Nat)(h:y8 KO n op2 k op2.toList σ=some (σ',r))(hk:ae Tryz.prog B F0 w0 n op2 r (rX (AW Tryz.prog B F0 w0 n y Q') Q' .normal) σ'):ae Tryz.prog B F0 w0 n ops [] (rX (AW Tryz.prog B F0 w0 n (.seq (.region id op2 false) y) Q') Q .normal) σ:=ae.nil (qX k h hk)
end
theorem qJ(n:Nat){fn:Func}{c:Code}{rs:List ResultVar}{args:List D}(hf:Tryz.prog.funcs[f]?=some fn)(h5:(fn.body,fn.results.toList,fn.ntmps,d6 args.length n,fn.name=="runtime.NumGoroutine")=(some c,rs,n,true,false))
  (h: ∀(B:Nat) (F0:Nat→Prop) (w0:dh),AW Tryz.prog B F0 w0 n c (OD KO rs res) (fh 0 args)):Pure Tryz.prog f args res:=by
 injection h5 with h1 h2;injection h2 with h2 h3;injection h3 with h3 h4;injection h4 with h4 h5
 exact Pure.intro tok hf h1 h2 h3 (bz h4) h5 h
section
variable {all:Array Oper} 
theorem qM{ds:List D}(h:(o.dst,d6 (d+1) n,aJ all σ o,vj KO σ.get o.op)=(some d,true,true,some (f,ds)))(hP:Pure Tryz.prog f ds res)
  (hk:ae Tryz.prog B F0 w0 n all rest K ((d,.d res)::σ)):ae Tryz.prog B F0 w0 n all (o::rest) K σ:=by
 injection h with h1 h2;injection h2 with h2 h3;injection h3 with h3 h4
 exact ae.call tok h1 h2 h3 h4 hP hk
theorem qR{q:Bool}{u:Value}(h:(o.dst,d6 (d+1) n,aJ all σ o,HZ KO σ.get o.op)=(some d,true,true,some (q,u)))(hi:lF u=true)
  (hk:ae Tryz.prog B F0 w0 n all rest K ((d,.d (.v (.bool (zp u==q))))::σ)):ae Tryz.prog B F0 w0 n all (o::rest) K σ:=by
 injection h with h1 h2;injection h2 with h2 h3;injection h3 with h3 h4
 exact ae.err tok h1 h2 h3 h4 hi hk
end
section
variable {τ':St} 
theorem qP(k:Nat)(h:HA KO n ops ds σ0 k l τ=some (τ',r))(hk:ai Tryz.prog B F0 w0 n ops ds σ0 r τ' K):ai Tryz.prog B F0 w0 n ops ds σ0 l τ K:=ai.run tok k _ _ _ _ h hk
end
theorem qQ{xas:List D}(h:(o.dst,d6 (d+1) n,aJ ops τ o,σ0.get d,vj KO τ.get o.op)=(some d,true,true,none,some (f,xas)))(hP:Pure Tryz.prog f xas res)
  (hk:ai Tryz.prog B F0 w0 n ops ds σ0 rest ((d,.d res)::τ) K):ai Tryz.prog B F0 w0 n ops ds σ0 (o::rest) τ K:=by
 injection h with h1 h2;injection h2 with h2 h3;injection h3 with h3 h4;injection h4 with h4 h5
 exact ai.call tok h1 h2 h3 h4 h5 hP hk
end Lift
namespace Lift
variable {b k l:List Nat}{i lo m n x:Nat}
def nv:List Nat→Nat
 |[]=>0
 |x::r=>x+4294967296*nv r
def bc(l:List Nat):Prop:= ∀x,x∈l→x<4294967296
def Nm(l:List Nat):Prop:=l.getLast?≠some 0
theorem bc.nil:bc []:=fun x h=>by simp at h
theorem bc.cons:bc (x::l)↔x<4294967296∧bc l:=by simp[bc]
theorem bc.append{m:List Nat}:bc (l++m)↔bc l∧bc m:=by
 constructor
 ·intro h;exact⟨fun x hx=>h x (by simp[hx]),fun x hx=>h x (by simp[hx])⟩
 ·rintro⟨h1,h2⟩ x hx
  rcases gB.1 hx with h|h
  ·exact h1 x h
  ·exact h2 x h
theorem bc.take(h:bc l)(k:Nat):bc (l.take k):=fun x hx=>h x (cC hx)
theorem bc.drop(h:bc l)(k:Nat):bc (l.drop k):=fun x hx=>h x (j2 hx)
theorem bc.getD(h:bc l)(i:Nat):l.getD i 0<4294967296:=by
 by_cases hi:i<l.length
 ·simp[hi];exact h _<|lw hi
 ·simp[hi]
theorem bc.set(h:bc l)(i:Nat)(hx:x<4294967296):bc (l.set i x):=fun y hy=>by
 rcases List.mem_or_eq_of_mem_set hy with h'|rfl
 ·exact h y h'
 ·exact hx
theorem bc.replicate(k:Nat):bc (ct k 0):=fun x hx=>by rw[(List.mem_replicate.1 hx).2];omega
theorem tZ(l m:List Nat):nv (l++m)=nv l+4294967296^l.length*nv m:=by
 induction l with
 |nil=>simp[nv]
 |cons x l ih =>
  simp only[gt,nv,ih,ey,a2];rw[an,←hJ,←cB,bi 4294967296 (4294967296^l.length)]
theorem dH(h:bc l):nv l<4294967296^l.length:=by
 induction l with
 |nil=>simp[nv]
 |cons x l ih =>
  rw[bc.cons]at h;have:=ih h.2;simp only[nv,ey,a2]
  have h2:4294967296*nv l+4294967296≤4294967296*4294967296^l.length:=by rw[←Nat.mul_succ];exact am _ this
  rw[bi (4294967296^l.length)];omega
theorem jc(k:Nat):nv (ct k 0)=0:=by
 induction k with
 |zero=>rfl
 |succ k ih=>simp[List.replicate_succ,nv,ih]
theorem bE(l:List Nat)(i:Nat)(h:i≤l.length):nv l=nv (l.take i)+4294967296^i*nv (l.drop i):=by have:=tZ (l.take i) (l.drop i);rw[cx]at this;rw[this,co,dz h]
theorem eG(l:List Nat)(i:Nat)(h:i<l.length):l.drop i=l.getD i 0::l.drop (i+1):=by rw[List.drop_eq_getElem_cons h];simp[h]
theorem xI(l:List Nat)(i:Nat)(h:i<l.length):nv l=nv (l.take i)+4294967296^i*(l.getD i 0+4294967296*nv (l.drop (i+1))):=by rw[bE l i (by omega),eG l i h,nv]
theorem Ny(l:List Nat)(i x:Nat)(h:i<l.length):nv (l.set i x)=nv (l.take i)+4294967296^i*(x+4294967296*nv (l.drop (i+1))):=by
 have:=xI (l.set i x) i (by simpa using h);rw[this]
 have e1:(l.set i x).take i=l.take i:=by
  apply lh;intro j;simp only[cm,ik];by_cases hj:j<i
  ·simp[hj,Nat.ne_of_gt hj]
  ·simp[hj]
 have e2:(l.set i x).drop (i+1)=l.drop (i+1):=by apply lh;intro j;simp only[cd,ik];rw[af (by omega)]
 have e3:(l.set i x).getD i 0=x:=by simp[h]
 rw[e1,e2,e3]
theorem Bw(h:Nm l)(h0:l≠[]):4294967296^(l.length-1)≤nv l:=by
 have hl:0<l.length:=cw.2 h0;rw[xI l (l.length-1) (by omega)]
 have:l.getD (l.length-1) 0≠0:=by
  intro e;apply h;rw[c4];have hlt:l.length-1<l.length:=by omega
  rw[az hlt];simp[hlt]at e;rw[e]
 have h1:4294967296^(l.length-1)*1≤4294967296^(l.length-1)*(l.getD (l.length-1) 0+4294967296*nv (l.drop (l.length-1+1))):=am _ (by omega);omega
theorem jV(h:Nm l):nv l=0↔l=[]:=by
 constructor
 ·intro h0;by_cases hl:l=[]
  ·exact hl
  ·have:=Bw h hl;have hp:0<4294967296^(l.length-1):=c' (by omega);omega
 ·rintro rfl;rfl
theorem mL{a:List Nat}(ha:bc a)(hb:Nm b)(h:a.length<b.length):nv a<nv b:=by have h1:=dH ha;have h2:=Bw hb (by intro e;subst e;simp at h);have h3:4294967296^a.length≤4294967296^(b.length-1):=cI (by omega) (by omega);omega
theorem tY{a:List Nat}(ha:bc a)(hb:bc b)(hia:i<a.length)(hib:i<b.length)(h:a.getD i 0<b.getD i 0)(he:a.drop (i+1)=b.drop (i+1)):nv a<nv b:=by
 rw[xI a i hia,xI b i hib,he]
 have h1:nv (a.take i)<4294967296^i:=by
  have:=dH (ha.take i)
  rwa [co,dz (by omega)]at this
 have h2:4294967296^i*(a.getD i 0+4294967296*nv (b.drop (i+1))+1)≤4294967296^i*(b.getD i 0+4294967296*nv (b.drop (i+1))):=am _ (by omega);rw[an (4294967296^i) _ 1]at h2;omega
theorem xG: ∀{a b:List Nat},bc a→bc b→a.length=b.length→nv a=nv b→a=b
 |[],[],_,_,_,_=>rfl
 |[],_::_,_,_,h,_=>by simp at h
 |_::_,[],_,_,h,_=>by simp at h
 |x::a,y::b,ha,hb,hl,h=>by
  rw[bc.cons]at ha hb;simp only[nv]at h
  have:x=y∧nv a=nv b:=by
   have h1:(x+4294967296*nv a)%4294967296=x:=by rw[c5];exact ax ha.1
   have h2:(y+4294967296*nv b)%4294967296=y:=by rw[c5];exact ax hb.1
   rw[h]at h1;have e:x=y:=by omega
   refine⟨e,?_⟩;omega
  rw[this.1,xG ha.2 hb.2 (by simpa using hl) this.2]
theorem Lw{a:List Nat}(ha:bc a)(hb:bc b)(na:Nm a)(nb:Nm b)(h:nv a=nv b):a=b:=by
 rcases Nat.lt_trichotomy a.length b.length with hl|hl|hl
 ·have:=mL ha nb hl;omega
 ·exact xG ha hb hl h
 ·have:=mL hb na hl;omega
def tw(n:Nat):List Nat:=if h:n=0 then []else n%4294967296::tw (n/4294967296)
termination_by n
decreasing_by omega
theorem jQ:tw 0=[]:=by rw[tw];simp
theorem tH(h:n≠0):tw n=n%4294967296::tw (n/4294967296):=by rw[tw];simp[h]
theorem eZ(n:Nat):nv (tw n)=n:=by
 induction n using eY with
 |_ n ih =>
  by_cases h:n=0
  ·subst h;rw[jQ];rfl
  ·rw[tH h,nv,ih (n/4294967296) (by omega)];omega
theorem fQ(n:Nat):bc (tw n):=by
 induction n using eY with
 |_ n ih =>
  by_cases h:n=0
  ·subst h;rw[jQ];exact bc.nil
  ·rw[tH h,bc.cons];exact⟨by omega,ih (n/4294967296) (by omega)⟩
theorem uY(n:Nat):Nm (tw n):=by
 induction n using eY with
 |_ n ih =>
  by_cases h:n=0
  ·subst h;rw[jQ];simp[Nm]
  ·have ih:=ih (n/4294967296) (by omega);rw[tH h];unfold Nm at ih ⊢;by_cases h2:n/4294967296=0
   ·rw[h2,jQ];simp;omega
   ·rw[tH h2]at ih ⊢;rw[List.getLast?_cons_cons];exact ih
theorem Cz(h:bc l)(hn:Nm l):tw (nv l)=l:=Lw (fQ _) h (uY _) hn (eZ _)
theorem iE{k:Nat}(h:n<4294967296^k):(tw n).length≤k:=by
 rcases ch k (tw n).length with hl|hl
 ·have h1:=Bw (uY n) (by intro e;rw[e]at hl;simp at hl);rw[eZ]at h1;have:4294967296^k≤4294967296^((tw n).length-1):=cI (by omega) (by omega);omega
 ·exact hl
theorem fx(n:Nat):n<4294967296^(tw n).length:=by
 have:=dH (fQ n)
 rwa [eZ]at this
theorem xH: ∀{l:List Nat},(∀i,l.getD i 0=0)→nv l=0
 |[],_=>rfl
 |x::l,h=>by have h0:x=0:=h 0;have:=xH (l:=l) (fun i=>h (i+1));simp[nv,h0,this]
theorem Ly{a:List Nat}(hn:n≤a.length)(h:n=0∨a.getD (n-1) 0≠0):Nm (a.take n):=by
 intro hc;rcases h with rfl|h
 ·simp at hc
 ·rcases bv n with h0|h0
  ·subst h0;simp at hc
  ·rw[c4]at hc;simp only[co,dz hn]at hc;rw[cm,ah (by omega)]at hc;apply h;simp[cp,hc]
theorem AJ{a:List Nat}(ha:bc a)(hn:n≤a.length)(hz: ∀i,n≤i→a.getD i 0=0)(h:n=0∨a.getD (n-1) 0≠0):a.take n=tw (nv a):=by
 have h1:nv (a.drop n)=0:=xH (fun i=>by
  have:=hz (n+i) (by omega)
  simpa[cp,cd]using this)
 rw[bE a n hn,h1,d5,dx];exact(Cz (ha.take n) (Ly hn h)).symm
theorem rW{a:List Nat}(ha:bc a):(tw (nv a)).length≤a.length:=iE (dH ha)
theorem fA(h:l.length≤i):l.getD i 0=0:=by simp[cp,ew h]
theorem aX(l:List Nat)(i:Nat):nv (l.take (i+1))=nv (l.take i)+4294967296^i*l.getD i 0:=by
 by_cases h:i<l.length
 ·have h1:=bE (l.take (i+1)) i (by simp;omega);rw[h1,List.take_take,dz (by omega),List.drop_take,eG l i h,show i+1-i=1 by omega];simp[nv]
 ·rw[fA (by omega),ab (by omega),ab (by omega)];omega
theorem lX(h:i<l.length):nv ((l.set i x).take (i+1))=nv (l.take i)+4294967296^i*x:=by
 rw[aX,kh (b2 i)]
 congr 2
 simp[cp,h]
theorem iy(p S:Nat):p*(S%4294967296)+p*4294967296*(S/4294967296)=p*S:=by rw[cB,←an,Nat.mod_add_div]
theorem jI(h:m≤n):4294967296^m≤4294967296^n:=cI (by decide) h
theorem pow_pos(n:Nat):0<4294967296^n:=c' (by decide)
def dg:Nat→Nat→List Nat
 |0,_=>[]
 |k+1,v=>v%4294967296::dg k (v/4294967296)
theorem aU: ∀k v,(dg k v).length=k
 |0,_=>rfl
 |k+1,v=>by simp[dg,aU k]
theorem fY: ∀k v,bc (dg k v)
 |0,_=>bc.nil
 |k+1,v=>bc.cons.2 ⟨cJ _ (by decide),fY k _⟩
theorem jy: ∀k v,nv (dg k v)=v%4294967296^k
 |0,v=>by simp[dg,nv,Nat.mod_one]
 |k+1,v=>by simp only[dg,nv,jy k];rw[a2,bi (4294967296^k),Nat.mod_mul]
theorem MQ: ∀{l:List Nat},bc l→dg l.length (nv l)=l
 |[],_=>rfl
 |x::l,h=>by have h1:=(bc.cons.1 h).1;have h2:=MQ (bc.cons.1 h).2;simp only[ey,dg,nv];rw[c5,ax h1,kd _ _ (by decide),eB h1,dn,h2]
theorem DV(h:bc l){k:Nat}(hk:l.length=k){v:Nat}(hv:nv l=v):l=dg k v:=by subst hk;subst hv;exact(MQ h).symm
theorem gj: ∀{l:List Nat},bc l→ ∀i,l.getD i 0=nv l/4294967296^i%4294967296
 |[],_,i=>by simp[nv]
 |x::l,h,0=>by have h1:=(bc.cons.1 h).1;simp[nv,c5,ax h1]
 |x::l,h,i+1=>by have h1:=(bc.cons.1 h).1;have ih:=gj (bc.cons.1 h).2 i;simp only[List.getD_cons_succ,ih,nv];rw[a2,bi (4294967296^i),←dr,kd _ _ (by decide),eB h1,dn]
theorem iq(h:i<l.length):nv (l.set i x)+4294967296^i*l.getD i 0=nv l+4294967296^i*x:=by rw[Ny l i x h,xI l i h,an,an];omega
theorem td{m:List Nat}(hl:l.length=m.length)(h: ∀i,i<l.length→l.getD i 0=m.getD i 0):l=m:=by apply List.ext_getElem hl;intro i h1 h2;have:=h i h1;simpa[cp,h1,h2]using this
theorem fJ(l:List Nat)(i j x:Nat)(h:i<l.length):(l.set i x).getD j 0=if j=i then x else l.getD j 0:=by
 by_cases hj:j=i
 ·subst hj;simp[cp,h]
 ·rw[af hj];simp[cp,ik,hE hj]
theorem Bq(a k b:Nat)(h:b<2^k):(a*2^k ||| b)=a*2^k+b:=by rw[bi,Nat.two_pow_add_eq_or_of_lt h]
theorem Bp(a k b:Nat)(h:b<2^k):(b ||| a*2^k)=a*2^k+b:=by rw[Nat.or_comm,Bq a k b h]
def dW(l:List Nat)(lo m:Nat):List Nat:=(l.drop lo).take m
def put(l:List Nat)(lo m:Nat)(w:List Nat):List Nat:=l.take lo++w++l.drop (lo+m)
theorem bX(h:lo+m≤l.length):(dW l lo m).length=m:=by simp[dW];omega
theorem eW{w:List Nat}(h:lo+m≤l.length)(hw:w.length=m):(put l lo m w).length=l.length:=by simp[put,hw];omega
theorem bc.dW{l:List Nat}(h:bc l)(lo m:Nat):bc (dW l lo m):=(h.drop lo).take m
theorem bc.put{l w:List Nat}(h:bc l)(hw:bc w)(lo m:Nat):bc (put l lo m w):=bc.append.2 ⟨bc.append.2 ⟨h.take lo,hw⟩,h.drop _⟩
theorem ia(l:List Nat)(lo m i:Nat)(h:i<m):(dW l lo m).getD i 0=l.getD (lo+i) 0:=by simp[dW,cp,cm,h,cd]
theorem B5{w:List Nat}(h1:k.take lo=l.take lo)(h2:k.drop (lo+m)=l.drop (lo+m))(h3:dW k lo m=w):k=put l lo m w:=by rw[put,←h1,←h2,←h3,dW,b8,←ep,cx,cx]
theorem gJ(h:k.drop i=l.drop i):k.getD i 0=l.getD i 0:=by have:=congrArg (fun z=>z.getD 0 0) h;simpa[cp,cd]using this
theorem lQ(k:List Nat)(lo i x:Nat):(k.set (lo+i) x).take lo=k.take lo:=kh (by omega)
theorem iL(k:List Nat)(j x:Nat):(k.set j x).drop (j+1)=k.drop (j+1):=km (by omega)
theorem rr(h:lo+i<k.length):nv (((k.set (lo+i) x).drop lo).take (i+1))=nv ((k.drop lo).take i)+4294967296^i*x:=by rw[List.drop_set,af (by omega),show lo+i-lo=i by omega];exact lX (by simp;omega)
theorem mQ(l:List Nat)(lo i:Nat):(l.drop lo).getD i 0=l.getD (lo+i) 0:=by simp[cp,cd]
theorem k6(h:k.drop i=l.drop i):k.drop (i+1)=l.drop (i+1):=by rw[←ep,←ep,h]
theorem vS{w:List Nat}(h:lo+m≤l.length)(hw:w.length=m):dW (put l lo m w) lo m=w:=by
 have h1:(l.take lo).length=lo:=by simp;omega
 rw[dW,put,b8,eE (by omega),cN (by omega),ma,ci (by omega),ab (by omega)]
end Lift
namespace Lift
open Go Go.Proofs
variable {x:Int}{xs:List Nat}{rest:List Oper}{B d e i k lo m n:Nat}{F0:Nat→Prop}{o:Oper}{P:Program}{σ:St}{K:St→Prop}{T:Ty}{w0:dh}
def wd(x:Nat):D:=.v (.int .u32 (x:Int))
def Wd(ws:List Nat):D:=.sl 1 (ws.map wd)
abbrev dI(n:Int):D:=.v (.int .i64 n)
abbrev dU(n:Int):D:=.v (.int .u64 n)
abbrev dB(b:Bool):D:=.v (.bool b)
theorem vu(h0:0≤x)(h1:x<18446744073709551616):a1.wrap x=x:=by simp only[ef,eh,dT];simp;omega
theorem Oo(h0:0≤x)(h1:x<4294967296):ea.wrap x=x:=by simp only[ef,eh,dT];simp;omega
theorem aD(h0: -9223372036854775808≤x)(h1:x≤9223372036854775807):IntKind.i64.wrap x=x:=by rw[IntKind.wrap_i64];omega
theorem vQ(m n:Nat)(h:m+n<18446744073709551616):a1.wrap ((m:Int)+(n:Int))=((m+n:Nat):Int):=by rw[vu (by omega) (by omega)];omega
theorem LD(m n:Nat)(h:m*n<18446744073709551616):a1.wrap ((m:Int)*(n:Int))=((m*n:Nat):Int):=by
 have e:(m:Int)*(n:Int)=((m*n:Nat):Int):=by push_cast;rfl
 rw[e,vu (by omega) (by omega)]
theorem gr(m:Nat)(h:m<18446744073709551616):a1.wrap (m:Int)=(m:Int):=vu (by omega) (by omega)
theorem fK(m:Nat):ea.wrap (m:Int)=((m%4294967296:Nat):Int):=by simp only[ef,eh,dT];simp
theorem Le(m k:Nat)(hk:k≤64):(m:Int).fdiv (2^(min k a1.bits))=((m/2^k:Nat):Int):=by
 rw[show min k a1.bits=k from dz hk,i3 _ (ne (by decide))]
 push_cast
 rfl
theorem lf(m:Nat):(m:Int).fdiv (2^(min 32 a1.bits))=((m/4294967296:Nat):Int):=Le m 32 (by decide)
theorem Nj(m k:Nat)(hk:k≤64)(h:m*2^k<18446744073709551616):a1.wrap ((m:Int)*2^(min k a1.bits))=((m*2^k:Nat):Int):=by
 rw[show min k a1.bits=k from dz hk];have e:(m:Int)*2^k=((m*2^k:Nat):Int):=by push_cast;rfl
 rw[e,vu (by omega) (by omega)]
theorem P0(m n:Nat)(hm:m<18446744073709551616)(hn:n<18446744073709551616):a1.wrap ((d4 a1.bits (m:Int) ||| d4 a1.bits (n:Int)).toNat:Int)=((m ||| n:Nat):Int):=by have hb:a1.bits=64:=rfl;rw[hb,eA,eA,lj,f5,f5,ax hm,ax hn];have:m ||| n<2^64:=ll hm hn;exact vu (by omega) (by omega)
theorem Jg(m n:Nat)(hm:m<4294967296)(hn:n<4294967296):ea.wrap ((d4 ea.bits (m:Int) ||| d4 ea.bits (n:Int)).toNat:Int)=((m ||| n:Nat):Int):=by have hb:ea.bits=32:=rfl;rw[hb,eA,eA,lj,f5,f5,ax hm,ax hn];have:m ||| n<2^32:=ll hm hn;exact Oo (by omega) (by omega)
theorem Ov(x y c:Nat)(hx:x<4294967296)(hy:y<4294967296)(hc:c≤1):a1.wrap (a1.wrap ((x:Int) -(y:Int)) -(c:Int))=((if y+c≤x then x-y-c else 18446744073709551616+x-y-c:Nat):Int):=by simp only[ef,eh,dT];simp;split<;>omega
theorem AS(m:Nat)(h:m<4294967296):a1.wrap ((m:Int)*2^(min 32 a1.bits))=((m*4294967296:Nat):Int):=Nj m 32 (by decide) (by omega)
theorem PZ(m n:Nat)(hm:m<4294967296)(hn:n<4294967296):a1.wrap ((d4 a1.bits ((m*4294967296:Nat):Int) ||| d4 a1.bits (n:Int)).toNat:Int)=((m*4294967296+n:Nat):Int):=by rw[P0 (m*4294967296) n (by omega) (by omega),Bq m 32 n (by omega)]
theorem PW(m n:Nat)(hm:m<4294967296)(hn:n<4294967296):a1.wrap ((d4 a1.bits (n:Int) ||| d4 a1.bits ((m*4294967296:Nat):Int)).toNat:Int)=((m*4294967296+n:Nat):Int):=by rw[P0 n (m*4294967296) (by omega) (by omega),Bp m 32 n (by omega)]
theorem MN(x y:Nat)(h:x<18446744073709551616):ot true .u64 (x:Int) (y:Int)= .int .u64 ((x/y:Nat):Int):=by have e:((x:Int).tdiv (y:Int))=((x/y:Nat):Int):=rfl;have:x/y≤x:=gM x y;simp only[ot,e,gr _ (c3 this h)]
theorem MM(x y:Nat):ot false .u64 (x:Int) (y:Int)= .int .u64 ((x%y:Nat):Int):=rfl
theorem IJ(m:Nat):(m:Int).fdiv (2^(min 63 a1.bits))=((m/9223372036854775808:Nat):Int):=Le m 63 (by decide)
theorem bQ{ws:List Nat}(h:i<ws.length):(ws.map wd)[i]?=some (wd (ws.getD i 0)):=by simp[h]
theorem bf(ws:List Nat):(ws.map wd).length=ws.length:=by simp
theorem eF(ws:List Nat)(hw:bc ws)(i:Nat):Pure Tryz.prog 197 [Wd ws,dI i] (dU (ws.getD i 0:Nat)):=by
 refine qJ 14 Tryz.func197 rfl fun B F0 w0=>?_;refine AW.seq<|AW.region<|qU 1 rfl<|ae.nil<|AW.seq<|AW.seq<|AW.region<|qU 4 rfl<|ae.nil ?_;refine AW.cond rfl (fun h=>?_) fun h=>?_
 ·have h':i<ws.length:=by simpa using h
  refine AW.seq<|AW.region<|qU 2 rfl<|ae.idx tok (wd (ws.getD i 0)) rfl rfl rfl rfl (aa i) (bQ h') ?_;refine qU 3 rfl ?_;have hb:=hw.getD i;rw[vu (by omega) (by omega)];exact qN rfl
 ·have h':ws.getD i 0=0:=by
   have:ws.length≤i:=by simpa using h
   simp[cp,ew this]
  rw[h'];exact AW.skip<|AW.seq<|AW.region<|qU 1 rfl<|qN rfl
def jN(a b:Nat):Int:=if a<b then -1 else if a=b then 0 else 1
section
variable {all:Array Oper} 
theorem uj(xs:List Nat)(i b:Nat):(xs.map wd).set i (wd b)=(xs.set i b).map wd:=(List.map_set ..).symm
def b4:TI→Bool
 |⟨_,b,_,_,_,_,_,_⟩=>d7 b 4
theorem Pm{t:TI}(h:b4 t=true):t.bytes=4:=cA h
theorem ae.qv(hT:bB P T)(k:Nat){te:TI}{m:Int}(hd:o.dst=some d)(hdn:d6 (d+1) n=true)(hg:aJ all σ o=true)(hx:Oi T σ.get o.op=some (e,te,m))(hz:nc te=true)(hzd:wG te=wd 0)(hm:m=(k:Int))(hb4:b4 te=true)(hk:k≤70368744177664)
  (h:ae P B F0 w0 n all rest K ((d,.ow e ((ct k 0).map wd))::σ.kill d)):ae P B F0 w0 n all (o::rest) K σ:=by
 subst hm;refine ae.make hT hd hdn hg hx hz (aa k) (by rw[Pm hb4];omega) (by omega) ?_;rw[hzd,a3];simpa using h
theorem ae.kx(hT:bB P T)(b:Nat){z:Int}(hd:o.dst=none)(hg:aJ all σ o=true)(hx:Gf T σ o.op=some (k,.ow e (xs.map wd),xs.map wd,i,0,.v (.int .u32 z)))(hi:i<xs.length)(hz:z=(b:Int))
  (h:ae P B F0 w0 n all rest K ((k,.ow e ((xs.set i b).map wd))::σ)):ae P B F0 w0 n all (o::rest) K σ:=by
 subst hz;refine ae.lR hT (wd (xs.getD i 0)) hd hg hx (bQ hi) rfl ?_;rw[←uj]at h;exact h
theorem ae.AP(hT:bB P T)(b:Nat){q:Bool}{z:Int}(hd:o.dst=none)(hg:aJ all σ o=true)(hx:Gf T σ o.op=some (k,.wn q e (xs.map wd) lo m,xs.map wd,i,0,.v (.int .u32 z)))(hi:i<xs.length)(hz:z=(b:Int))
  (h:ae P B F0 w0 n all rest K ((k,.wn q e ((xs.set i b).map wd) lo m)::σ)):ae P B F0 w0 n all (o::rest) K σ:=by
 subst hz;refine ae.La hT (wd (xs.getD i 0)) hd hg hx (bQ hi) rfl ?_;rw[←uj]at h;exact h
end
theorem uG.elW{τ:St}{h:Nat}{z:Int}(b:Nat)(hx:Gf T τ o.op=some (h,.ow e (xs.map wd),xs.map wd,i,0,.v (.int .u32 z)))(hi:i<xs.length)(hz:z=(b:Int)):uG T τ o h (.ow e ((xs.set i b).map wd)):=by subst hz;have:=uG.el hx (bQ hi) rfl;rw[←uj];exact this
theorem lE(a b:List Nat)(ha:bc a)(hb:bc b)(na:Nm a)(nb:Nm b)(hla:a.length≤35000000000000):Pure Tryz.prog 167 [Wd a,Wd b] (dI (jN (nv a) (nv b))):=by
 refine qJ 41 Tryz.func167 rfl fun B F0 w0=>?_;refine qX 1 rfl<|qI<|qX 5 rfl<|ae.nil<|AW.cond rfl (fun h=>?_) fun h=>?_
 ·have hne:a.length≠b.length:=by
   have: ¬(a.length:Int)=b.length:=by simpa using h
   omega
  refine AW.seq<|qX 5 rfl<|ae.nil<|AW.cond rfl (fun h=>?_) fun h=>?_
  ·have hlt:a.length<b.length:=by simpa using h
   rw[show jN (nv a) (nv b)= -1 by simp[jN,mL ha nb hlt]];exact qX 1 rfl<|qN rfl
  ·have hlt:b.length<a.length:=by have:b.length≤a.length:=by simpa using h
                                  omega
   have hl:=mL hb na hlt;rw[show jN (nv a) (nv b)=1 by unfold jN;rw[af (by omega),af (by omega)]];exact AW.skip<|qX 1 rfl<|qN rfl
 ·have hl:a.length=b.length:=by
   have:(a.length:Int)=b.length:=by simpa using h
   omega
  refine AW.skip<|AW.seq<|qX 4 rfl ?_;rw[bf,aD (by omega) (by omega)];refine ae.nil ?_;refine AW.block<|AW.aK [0,1,5] (fun k:Nat=>[(0,.d (Wd a)),(1,.d (Wd b)),(5,.d (dI ((k:Int) -1)))]) (fun k=>k≤a.length∧a.drop k=b.drop k) (fun k=>k) a.length rfl ⟨b2 _,by simp[hl]⟩ fun k ⟨hk,hd⟩=>?_;refine AW.seq<|qX 2 rfl<|ae.nil<|AW.cond rfl (fun h=>?_) fun h=>?_
  ·have hk0:0<k:=by have:(0:Int)≤(k:Int) -1:=by simpa using h
                    omega
   obtain⟨j,rfl⟩: ∃j,k=j+1:=⟨k-1,by omega⟩;have ej:((j+1:Nat):Int) -1=(j:Int):=by omega
   rw[ej];refine AW.skip<|AW.seq<|AW.block<|AW.seq<|AW.draw aO 9 (by kernel_rfl) ?_;refine qP 2 rfl<|ai.idx tok (wd (a.getD j 0)) rfl rfl rfl rfl rfl (aa j) (bQ (by omega)) ?_;refine qP 3 rfl<|ai.idx tok (wd (b.getD j 0)) rfl rfl rfl rfl rfl (aa j) (bQ (by omega)) ?_;refine qP 2 rfl<|ai.nil<|ae.nil<|AW.cond rfl (fun h=>?_) fun h=>?_
   ·have hne:a.getD j 0≠b.getD j 0:=by intro e;rw[e]at h;simp at h
    refine AW.seq<|AW.seq<|AW.draw aO 9 (by kernel_rfl) ?_;refine qP 2 rfl<|ai.idx tok (wd (a.getD j 0)) rfl rfl rfl rfl rfl (aa j) (bQ (by omega)) ?_;refine qP 3 rfl<|ai.idx tok (wd (b.getD j 0)) rfl rfl rfl rfl rfl (aa j) (bQ (by omega)) ?_;refine qP 2 rfl<|ai.nil<|ae.nil<|AW.cond rfl (fun h=>?_) fun h=>?_
    ·have hlt:a.getD j 0<b.getD j 0:=by have:=ao h;omega
     have hv:=tY ha hb (by omega) (by omega) hlt hd;rw[show jN (nv a) (nv b)= -1 by simp[jN,hv]];exact qX 1 rfl<|qN rfl
    ·have hlt:b.getD j 0<a.getD j 0:=by have:=ar h;omega
     have hv:=tY hb ha (by omega) (by omega) hlt hd.symm;rw[show jN (nv a) (nv b)=1 by unfold jN;rw[af (by omega),af (by omega)]];exact AW.skip<|qX 1 rfl<|qN rfl
   ·have he:a.getD j 0=b.getD j 0:=by
     have:((a.getD j 0:Nat):Int)=((b.getD j 0:Nat):Int):=by simpa using h
     omega
    refine AW.skip<|qT 3 rfl ?_;rw[aD (by omega) (by omega)];refine ae.nil ?_;exact⟨j,rfl,⟨by omega,by rw[eG a j (by omega),eG b j (by omega),he,hd]⟩,by omega⟩
  ·have hk0:k=0:=by have: ¬(0:Int)≤(k:Int) -1:=by simpa using h
                    omega
   subst hk0;simp at hd;rw[show jN (nv a) (nv b)=0 by rw[hd];simp[jN]];exact AW.exit<|qX 1 rfl<|qN rfl
theorem N9(a:List Nat)(n:Nat):(a.map wd).take n=(a.take n).map wd:=by rw[i5]
theorem bV(a:List Nat)(ha:bc a)(hla:a.length≤35000000000000):Pure Tryz.prog 196 [Wd a] (Wd (tw (nv a))):=by
 refine qJ 25 Tryz.func196 rfl fun B F0 w0=>?_;refine qX 1 rfl<|qK 3 rfl ?_;rw[bf];refine ae.nil ?_;refine AW.cut [0,3] (fun k:Nat=>[(0,.d (Wd a)),(3,.d (dI (k:Int)))]) (fun k=>k≤a.length∧(∀i,k≤i→a.getD i 0=0)∧(k=0∨a.getD (k-1) 0≠0)) ?_ fun k ⟨hk,hz,hnz⟩=>?_
 ·refine AW.block (AW.aK [0,3] (fun k:Nat=>[(0,.d (Wd a)),(3,.d (dI (k:Int)))]) (fun k=>k≤a.length∧ ∀i,k≤i→a.getD i 0=0) (fun k=>k) a.length rfl ⟨b2 _,fun i hi=>by simp[cp,ew hi]⟩ (fun k ⟨hk,hz⟩=>?_));refine AW.seq ?_;refine AW.cut [0,3,15] (fun b:Bool=>[(0,.d (Wd a)),(3,.d (dI (k:Int))),(15,.d (dB b))]) (fun b=>(b=true→0<k∧a.getD (k-1) 0=0)∧(b=false→k=0∨a.getD (k-1) 0≠0)) ?_ fun b ⟨ht,hf⟩=>?_
  ·refine qT 3 rfl ?_;refine ae.split (t:=8) rfl (fun h=>?_) fun h=>?_
   ·have hk0:0<k:=by have:=ao h;omega
    obtain⟨j,rfl⟩: ∃j,k=j+1:=⟨k-1,by omega⟩;refine qU 3 rfl ?_;rw[aD (by omega) (by omega),show((j+1:Nat):Int) -1=(j:Int) by omega];refine ae.idx tok (wd (a.getD j 0)) rfl rfl rfl rfl (aa j) (bQ (by omega)) ?_;refine qU 3 rfl<|ae.nil ?_;exact⟨_,rfl,fun h=>⟨by omega,by have:=ao h;simp at this;simpa using this⟩,fun h=>.inr (by simpa using h)⟩
   ·have hk0:k=0:=by have:=ar h;omega
    refine qU 7 rfl<|ae.nil ?_;exact⟨_,rfl,fun h=>by simp at h,fun h=>.inl hk0⟩
  ·refine AW.cond rfl (fun h=>?_) (fun h=>?_)
   ·obtain⟨h0,h1⟩:=ht h;refine AW.skip<|AW.block<|qT 3 rfl ?_;rw[aD (by omega) (by omega)];refine ae.nil ?_;refine⟨k-1,by rw[show((k-1:Nat):Int)=(k:Int) -1 by omega];rfl,⟨by omega,fun i hi=>?_⟩,by omega⟩;by_cases he:i=k-1
    ·rw[he,h1]
    ·exact hz i (by omega)
   ·refine AW.exit ?_;exact⟨k,rfl,hk,hz,hf h⟩
 ·have hres:=AJ ha hk hz hnz;refine AW.seq<|qX 2 rfl<|ae.nil<|AW.cond rfl (fun h=>?_) fun h=>?_
  ·have hk0:k=0:=by simpa using h
   subst hk0;rw[←hres,List.take_zero];exact qX 1 rfl<|qN rfl
  ·refine AW.skip (qX 3 rfl ?_);refine ae.CK tok rfl rfl rfl rfl trivial (aa k) (cj _) (by simp[dm];omega) ?_;refine ae.Ch tok rfl rfl rfl rfl (by simp[dm];omega) ?_;refine qU 1 rfl<|ae.nil ?_;rw[←hres,Wd,←N9];exact AW.ret rfl
theorem n9(a b:List Nat)(ha:bc a)(hb:bc b)(hla:a.length≤34900000000000)(hlb:b.length≤34900000000000):Pure Tryz.prog 166 [Wd a,Wd b] (Wd (tw (nv a+nv b))):=by
 refine qJ 39 Tryz.func166 rfl fun B F0 w0=>?_;obtain⟨N,hN⟩: ∃N,N=max a.length b.length+1:=⟨_,rfl⟩;refine qX 1 rfl<|qK 6 rfl ?_;refine ae.qv tok N rfl rfl rfl rfl rfl rfl (by simp only[b3];rw[aD (by split<;>omega) (by split<;>omega)];split<;>omega) rfl (by omega) ?_;refine qU 1 rfl<|qK 1 rfl<|qI<|qX 3 rfl ?_;rw[bf,g0];refine ae.nil<|AW.block ?_
 refine AW.aK [0,1,5,6,16,17] (fun s:Nat×List Nat×Nat=>[(0,.d (Wd a)),(1,.d (Wd b)),(5,.ow 117 (s.2.1.map wd)),(6,.d (dU s.2.2)),(16,.d (dI N)),(17,.d (dI s.1))])
  (fun s=>s.1≤N∧s.2.1.length=N∧bc s.2.1∧s.2.2≤1∧nv (s.2.1.take s.1)+4294967296^s.1*s.2.2=nv (a.take s.1)+nv (b.take s.1)) (fun s=>N-s.1) (0,ct N 0,0) rfl ⟨cj _,by simp,bc.replicate N,by simp,by simp[nv]⟩ (fun (i,out,c) ⟨hi,hol,how,hc,hv⟩=>?_)
 simp only[]at hi hol how hc hv;refine qX 1 rfl<|qI<|AW.cond rfl (fun h=>?_) fun h=>?_
 ·have dm:i<N:=by have:=ao h;omega
  refine AW.skip<|AW.seq<|AW.block<|qX 2 rfl<|qK 3 rfl<|qM rfl (eF a ha i) ?_;refine qU 2 rfl<|qM rfl (eF b hb i) ?_;refine qU 3 rfl ?_;have hx:=ha.getD i;have hy:=hb.getD i;rw[vQ (a.getD i 0) (b.getD i 0) (by omega),vQ c (a.getD i 0+b.getD i 0) (by omega)];refine qK 4 rfl ?_;refine ae.gI tok rfl rfl rfl rfl (aa i) (by simp;omega) ?_;refine ae.kx tok ((c+(a.getD i 0+b.getD i 0))%4294967296) rfl rfl rfl (by omega) (fK _) ?_;refine ae.nil<|qT 3 rfl ?_;rw[lf];refine ae.nil<|qT 2 rfl ?_;rw[aD (by omega) (by omega)];refine ae.nil ?_;refine⟨(i+1,out.set i ((c+(a.getD i 0+b.getD i 0))%4294967296),(c+(a.getD i 0+b.getD i 0))/4294967296),rfl,⟨by omega,by simpa using hol,how.set i (by omega),by show _/_≤1;omega,?_⟩,by simp only[];omega⟩;simp only[lX (show i<out.length by omega),aX a i,aX b i,a2];have:=iy (4294967296^i) (c+(a.getD i 0+b.getD i 0));rw[an,an]at this;omega
 ·have dm:i=N:=by have:=ar h;omega
  subst dm;rw[ab (by omega),ab (by omega),ab (by omega)]at hv;have h1:=dH ha;have h2:=dH hb
  have hc0:c=0:=by
   have h3:=jI (show a.length≤i-1 by omega);have h4:=jI (show b.length≤i-1 by omega);have h5:4294967296^i=4294967296^(i-1)*4294967296:=by rw[←a2];congr 1;omega
   rcases bv c with h|h
   ·exact h
   ·have:4294967296^i*1≤4294967296^i*c:=am _ h;omega
  have hres:nv out=nv a+nv b:=by rw[hc0]at hv;simpa using hv
  refine AW.exit<|qX 1 rfl<|ae.iu tok 5 rfl rfl ?_;refine qM rfl (bV out how (by omega)) ?_;refine qU 1 rfl<|ae.nil ?_;rw[hres];exact AW.ret rfl
theorem oc(a b:List Nat)(ha:bc a)(hb:bc b)(hla:a.length≤34900000000000)(hle:nv b≤nv a):Pure Tryz.prog 168 [Wd a,Wd b] (Wd (tw (nv a-nv b))):=by
 refine qJ 38 Tryz.func168 rfl fun B F0 w0=>?_;obtain⟨N,hN⟩: ∃N,N=a.length:=⟨_,rfl⟩;refine qX 1 rfl<|qK 2 rfl ?_;refine ae.qv tok N rfl rfl rfl rfl rfl rfl (by simp only[b3];omega) rfl (by omega) ?_;refine qU 1 rfl<|qK 1 rfl<|qI<|qX 3 rfl ?_;rw[bf (ct N 0),g0];refine ae.nil<|AW.block ?_
 refine AW.aK [0,1,5,6,13,14] (fun s:Nat×List Nat×Nat=>[(0,.d (Wd a)),(1,.d (Wd b)),(5,.ow 117 (s.2.1.map wd)),(6,.d (dU s.2.2)),(13,.d (dI N)),(14,.d (dI s.1))])
  (fun s=>s.1≤N∧s.2.1.length=N∧bc s.2.1∧s.2.2≤1∧nv (s.2.1.take s.1)+nv (b.take s.1)=nv (a.take s.1)+4294967296^s.1*s.2.2) (fun s=>N-s.1) (0,ct N 0,0) rfl ⟨cj _,by simp,bc.replicate N,by simp,by simp[nv]⟩ (fun (i,out,c) ⟨hi,hol,how,hc,hv⟩=>?_)
 simp only[]at hi hol how hc hv;refine qX 1 rfl<|qI<|AW.cond rfl (fun h=>?_) fun h=>?_
 ·have dm:i<N:=by have:=ao h;omega
  have hx:=ha.getD i;have hy:=hb.getD i;refine AW.skip<|AW.seq<|AW.block<|qX 2 rfl<|qI<|AW.draw aO 11 (by kernel_rfl) ?_;refine qP 2 rfl<|ai.idx tok (wd (a.getD i 0)) rfl rfl rfl rfl rfl (aa i) (bQ (by omega)) ?_;refine qP 4 rfl<|qQ rfl (eF b hb i) ?_;refine qP 3 rfl<|ai.nil<|qU 1 rfl ?_;rw[gr (a.getD i 0) (by omega),Ov (a.getD i 0) (b.getD i 0) c hx hy hc];obtain⟨D,hD⟩: ∃D,D=(if b.getD i 0+c≤a.getD i 0 then a.getD i 0-b.getD i 0-c else 18446744073709551616+a.getD i 0-b.getD i 0-c:Nat):=⟨_,rfl⟩;rw[←hD];refine qK 4 rfl ?_;refine ae.gI tok rfl rfl rfl rfl (aa i) (by simp;omega) ?_;refine ae.kx tok (D%4294967296) rfl rfl rfl (by omega) (fK _) ?_;refine ae.nil<|qT 3 rfl ?_;rw[IJ];refine ae.nil<|qT 2 rfl ?_;rw[aD (by omega) (by omega)];refine ae.nil ?_
  have hkey:D/9223372036854775808≤1∧D%4294967296+b.getD i 0+c=a.getD i 0+4294967296*(D/9223372036854775808):=by rw[hD];split<;>omega
  refine⟨(i+1,out.set i (D%4294967296),D/9223372036854775808),rfl,⟨by omega,by simpa using hol,how.set i (by omega),hkey.1,?_⟩,by simp only[];omega⟩;simp only[lX (show i<out.length by omega),aX a i,aX b i,a2];have:=congrArg (fun z=>4294967296^i*z) hkey.2;simp only[an]at this;rw[cB];omega
 ·have dm:i=N:=by have:=ar h;omega
  subst dm;rw[ab (l:=out) (by omega),ab (l:=a) (by omega)]at hv;have h1:=dH ha;have h3:=dH how;rw[hol]at h3;rw[←hN]at h1
  have hbt:nv (b.take i)=nv b:=by
   by_cases hlb:i≤b.length
   ·have h4:=bE b i hlb;rcases bv (nv (b.drop i))with h|h
    ·rw[h4,h];omega
    ·have:4294967296^i*1≤4294967296^i*nv (b.drop i):=am _ h;omega
   ·rw[ab (by omega)]
  have hc0:c=0:=by
   rcases bv c with h|h
   ·exact h
   ·have:4294967296^i*1≤4294967296^i*c:=am _ h;omega
  have hres:nv out=nv a-nv b:=by rw[hc0]at hv;omega
  refine AW.exit<|qX 1 rfl<|ae.iu tok 5 rfl rfl ?_;refine qM rfl (bV out how (by omega)) ?_;refine qU 1 rfl<|ae.nil ?_;rw[hres];exact AW.ret rfl
theorem uo(a b:List Nat)(ha:bc a)(hb:bc b)(hla:a.length≤17450000000000)(hlb:b.length≤17450000000000):Pure Tryz.prog 169 [Wd a,Wd b] (Wd (tw (nv a*nv b))):=by
 refine qJ 67 Tryz.func169 rfl fun B F0 w0=>?_;refine qX 1 rfl<|qK 5 rfl ?_;refine ae.qv tok (a.length+b.length) rfl rfl rfl rfl rfl rfl (by simp only[b3];rw[aD (by omega) (by omega)];omega) rfl (by omega) ?_;refine qU 1 rfl<|qI<|qX 3 rfl ?_;rw[bf a];refine ae.nil<|AW.block ?_
 refine AW.aK [0,1,5,17,18,19] (fun s:Nat×List Nat=>[(0,.d (Wd a)),(1,.d (Wd b)),(5,.ow 117 (s.2.map wd)),(17,.d (Wd a)),(18,.d (dI a.length)),(19,.d (dI s.1))])
  (fun s=>s.1≤a.length∧s.2.length=a.length+b.length∧bc s.2∧(∀j,s.1+b.length≤j→s.2.getD j 0=0)∧nv s.2=nv (a.take s.1)*nv b) (fun s=>a.length-s.1) (0,ct (a.length+b.length) 0) rfl ⟨cj _,by simp,bc.replicate _,fun j _=>by simp[cp,go];split<;>rfl,by simp[nv,jc]⟩ (fun (i,out) ⟨hi,hol,how,hz,hv⟩=>?_)
 simp only[]at hi hol how hz hv;refine qX 1 rfl<|qI<|AW.cond rfl (fun h=>?_) fun h=>?_
 ·have dm:i<a.length:=by have:=ao h;omega
  have hx:=ha.getD i;refine AW.skip<|AW.seq<|AW.block<|qX 1 rfl<|ae.idx tok (wd (a.getD i 0)) rfl rfl rfl rfl (aa i) (bQ (by omega)) ?_;refine qU 3 rfl<|qK 1 rfl<|qI<|qX 3 rfl ?_;rw[bf b];refine ae.nil<|AW.block ?_
  refine AW.aK [0,1,5,17,18,19,6,7,8,24,25,26] (fun s:Nat×List Nat×Nat=>[(0,.d (Wd a)),(1,.d (Wd b)),(5,.ow 117 (s.2.1.map wd)),(17,.d (Wd a)),(18,.d (dI a.length)),(19,.d (dI i)),(6,.d (dI i)),(7,.d (wd (a.getD i 0))),(8,.d (dU s.2.2)),(24,.d (Wd b)),(25,.d (dI b.length)),(26,.d (dI s.1))])
   (fun s=>s.1≤b.length∧s.2.1.length=a.length+b.length∧bc s.2.1∧(∀j,i+b.length≤j→s.2.1.getD j 0=0)∧s.2.2<4294967296∧nv s.2.1+4294967296^(i+s.1)*s.2.2=nv (a.take i)*nv b+4294967296^i*(a.getD i 0*nv (b.take s.1))) (fun s=>b.length-s.1) (0,out,0) rfl ⟨cj _,hol,how,hz,by simp,by simp[nv,hv]⟩ (fun (k,o,c) ⟨hk,hol,how,hz,hc,hv⟩=>?_)
  simp only[]at hk hol how hz hc hv;refine qX 1 rfl<|qI<|AW.cond rfl (fun h=>?_) fun h=>?_
  ·have hkN:k<b.length:=by have:=ao h;omega
   have hy:=hb.getD k;have ho:=how.getD (i+k);have hxy:a.getD i 0*b.getD k 0≤4294967295*4294967295:=eq (by omega) (by omega);refine AW.skip<|AW.seq<|AW.block<|qX 1 rfl<|ae.idx tok (wd (b.getD k 0)) rfl rfl rfl rfl (aa k) (bQ (by omega)) ?_;refine qU 3 rfl<|qK 10 rfl ?_;rw[aD (x:=(i:Int)+(k:Int)) (by omega) (by omega),←i0 i k];refine ae.gI tok rfl rfl rfl rfl (aa (i+k)) (by simp;omega) ?_;refine ae.dE tok (wd (o.getD (i+k) 0)) rfl rfl rfl rfl (bQ (by simp;omega)) rfl ?_;refine qU 4 rfl ?_;rw[gr (a.getD i 0) (by omega),gr (b.getD k 0) (by omega),LD (a.getD i 0) (b.getD k 0) (by omega),gr (o.getD (i+k) 0) (by omega),vQ _ (o.getD (i+k) 0) (by omega),vQ c _ (by omega)];refine ae.nil ?_;obtain⟨S,hS⟩: ∃S,S=c+(a.getD i 0*b.getD k 0+o.getD (i+k) 0):=⟨_,rfl⟩;rw[←hS];refine qX 6 rfl ?_;rw[aD (x:=(i:Int)+(k:Int)) (by omega) (by omega),←i0 i k];refine ae.gI tok rfl rfl rfl rfl (aa (i+k)) (by simp;omega) ?_;refine ae.kx tok (S%4294967296) rfl rfl rfl (by simp;omega) (fK _) ?_;refine ae.nil<|qT 3 rfl ?_;rw[lf];refine ae.nil<|qT 2 rfl ?_;rw[aD (by omega) (by omega)];refine ae.nil ?_;refine⟨(k+1,o.set (i+k) (S%4294967296),S/4294967296),rfl,⟨by omega,by simpa using hol,how.set _ (by omega),fun j hj=>?_,by show S/4294967296<4294967296;omega,?_⟩,by simp only[];omega⟩
   ·rw[fJ _ _ _ _ (by omega),af (by(try simp only[]at hj);omega)];exact hz j hj
   ·have h1:=iq (l:=o) (i:=i+k) (x:=S%4294967296) (by omega);have h2:=iy (4294967296^(i+k)) S;have h3:4294967296^(i+k)*S=4294967296^(i+k)*c+(4294967296^(i+k)*(a.getD i 0*b.getD k 0)+4294967296^(i+k)*o.getD (i+k) 0):=by rw[hS,an,an]
    have h4:4294967296^i*(a.getD i 0*(nv (b.take k)+4294967296^k*b.getD k 0))=4294967296^i*(a.getD i 0*nv (b.take k))+4294967296^(i+k)*(a.getD i 0*b.getD k 0):=by
     rw[eL];simp only[an]
     congr 1
     ac_rfl
    simp only[aX b k];rw[h4,show i+(k+1)=i+k+1 by omega,a2];omega
  ·have hkN:k=b.length:=by have:=ar h;omega
   subst hkN;refine AW.exit<|qT 7 rfl ?_;rw[bf b,aD (x:=(i:Int)+(b.length:Int)) (by omega) (by omega),←i0 i b.length];refine ae.gI tok rfl rfl rfl rfl (aa (i+b.length)) (by simp;omega) ?_;refine ae.kx tok (c%4294967296) rfl rfl rfl (by simp;omega) (fK _) ?_;refine ae.nil<|qT 2 rfl ?_;rw[aD (by omega) (by omega)];refine ae.nil ?_;refine⟨(i+1,o.set (i+b.length) (c%4294967296)),rfl,⟨by omega,by simpa using hol,how.set _ (by omega),fun j hj=>?_,?_⟩,by simp only[];omega⟩
   ·rw[fJ _ _ _ _ (by omega),af (by(try simp only[]at hj);omega)];exact hz j (by(try simp only[]at hj);omega)
   ·have h1:=iq (l:=o) (i:=i+b.length) (x:=c%4294967296) (by omega);rw[hz (i+b.length) (b2 _),d5,dx,ax hc,hv,ab (b2 _)]at h1;simp only[aX a i];rw[ax hc,h1,dj]
    ac_rfl
 ·have dm:i=a.length:=by have:=ar h;omega
  subst dm;rw[ab (b2 _)]at hv;refine AW.exit<|qX 1 rfl<|ae.iu tok 5 rfl rfl ?_;refine qM rfl (bV out how (by omega)) ?_;refine qU 1 rfl<|ae.nil ?_;rw[hv];exact AW.ret rfl
theorem uq(a:List Nat)(b:Nat)(ha:bc a)(hla:a.length≤34900000000000)(hb:b<4294967296)(hb0:0<b):Pure Tryz.prog 208 [Wd a,wd b] (.tu [Wd (tw (nv a/b)),wd (nv a%b)]):=by
 refine qJ 43 Tryz.func208 rfl fun B F0 w0=>?_;refine qX 2 rfl<|qK 2 rfl ?_;refine ae.qv tok a.length rfl rfl rfl rfl rfl rfl (by simp only[b3]) rfl (by omega) ?_;refine qU 1 rfl<|qK 1 rfl<|qI<|qX 4 rfl ?_;rw[bf a,aD (by omega) (by omega)];refine ae.nil<|AW.block ?_
 refine AW.aK [0,1,6,7,8] (fun s:Nat×List Nat×Nat=>[(0,.d (Wd a)),(1,.d (wd b)),(6,.ow 117 (s.2.1.map wd)),(7,.d (dU s.2.2)),(8,.d (dI ((s.1:Int) -1)))])
  (fun s=>s.1≤a.length∧s.2.1.length=a.length∧bc s.2.1∧s.2.2<b∧nv (a.drop s.1)=nv (s.2.1.drop s.1)*b+s.2.2) (fun s=>s.1) (a.length,ct a.length 0,0) rfl ⟨b2 _,by simp,bc.replicate _,hb0,by simp[nv]⟩ (fun (k,out,r) ⟨hk,hol,how,hr,hv⟩=>?_)
 simp only[]at hk hol how hr hv;refine AW.seq<|qX 2 rfl<|ae.nil<|AW.cond rfl (fun h=>?_) fun h=>?_
 ·have hk0:0<k:=by have:(0:Int)≤(k:Int) -1:=by simpa using h
                   omega
  obtain⟨j,rfl⟩: ∃j,k=j+1:=⟨k-1,by omega⟩;have hx:=ha.getD j;have ej:((j+1:Nat):Int) -1=(j:Int):=by omega
  rw[ej];refine AW.skip<|AW.seq<|AW.block<|qX 4 rfl<|ae.idx tok (wd (a.getD j 0)) rfl rfl rfl rfl (aa j) (bQ (by omega)) ?_;refine qU 4 rfl ?_;rw[AS r (by omega),gr (a.getD j 0) (by omega),PZ r (a.getD j 0) (by omega) (by omega)];refine ae.nil ?_;obtain⟨S,hS⟩: ∃S,S=r*4294967296+a.getD j 0:=⟨_,rfl⟩;rw[←hS]
  have hSb:S/b<4294967296:=by rw[g7 hb0];have:r*4294967296≤(b-1)*4294967296:=c7 _ (by omega);omega
  refine qX 5 rfl ?_;rw[gr b (by omega)];refine ae.div tok rfl rfl rfl rfl (by omega) ?_;rw[MN S b (by omega)];refine qU 1 rfl ?_;refine ae.gI tok rfl rfl rfl rfl (aa j) (by simp;omega) ?_;refine ae.kx tok ((S/b)%4294967296) rfl rfl rfl (by omega) (fK _) ?_;refine ae.nil<|qT 3 rfl ?_;rw[gr b (by omega)];refine ae.div tok rfl rfl rfl rfl (by omega) ?_;rw[MM S b];refine qU 1 rfl<|ae.nil<|qT 3 rfl ?_;rw[aD (by omega) (by omega)];refine ae.nil ?_;refine⟨(j,out.set j ((S/b)%4294967296),S%b),rfl,⟨by omega,by simpa using hol,how.set _ (by omega),cJ _ hb0,?_⟩,by simp only[];omega⟩;simp only[];rw[ax hSb,eG a j (by omega),eG (out.set j (S/b)) j (by simp;omega),fJ _ _ _ _ (by omega),ah rfl,km (by omega)];simp only[nv,hv];have:=cM S b;have h2:(S/b+4294967296*nv (out.drop (j+1)))*b=b*(S/b)+4294967296*(nv (out.drop (j+1))*b):=by rw[dj,bi (S/b),cB]
  rw[h2];omega
 ·have hk0:k=0:=by have: ¬(0:Int)≤(k:Int) -1:=by simpa using h
                   omega
  subst hk0;simp only[eo]at hv;have hq:nv a/b=nv out:=by rw[hv,bi,mo hb0,eB hr];omega
  have hr':nv a%b=r:=by rw[hv,bi,mn,ax hr]
  refine AW.exit<|qX 1 rfl<|ae.iu tok 6 rfl rfl ?_;refine qM rfl (bV out how (by omega)) ?_;refine qU 4 rfl ?_;rw[fK r,ax (show r<4294967296 by omega)];refine ae.nil ?_;rw[hq,hr'];exact AW.ret rfl
theorem KV{x o:Nat}(hn:n<32)(hx:x<4294967296)(ho:o<2^n):x*2^n<18446744073709551616∧(o ||| x*2^n%4294967296)=o+x*2^n%4294967296∧o+x*2^n%4294967296<4294967296∧x*2^n/4294967296<2^n:=by
 have h32:(4294967296:Nat)=2^(32-n)*2^n:=by rw[←eL,show 32-n+n=32 by omega]
 have hp:0<2^n:=c' (by decide);have hle:2^n≤2^31:=cI (by decide) (by omega);have h1:x*2^n%4294967296=x%2^(32-n)*2^n:=by rw[h32,Nat.mul_mod_mul_right]
 have h2:x%2^(32-n)<2^(32-n):=cJ _ (c' (by decide));have h3:(x%2^(32-n)+1)*2^n≤2^(32-n)*2^n:=c7 _ h2;have h4:x*2^n<4294967296*2^n:=Nat.mul_lt_mul_of_pos_right hx hp;have h5:4294967296*2^n≤4294967296*2^31:=am _ hle;rw[dj,gb,←h32]at h3;refine⟨by omega,?_,?_,?_⟩
 ·rw[h1,Bp _ n o ho,jt]
 ·rw[h1];omega
 ·rw[g7 (by decide),bi (2^n)];exact h4
theorem qw(a:List Nat)(n:Nat)(ha:bc a)(hla:a.length≤34900000000000)(hn:n<32):mX Tryz.prog 210 [Wd a,dI n] 117 ((dg (a.length+1) (nv a*2^n)).map wd) 0 (a.length+1):=by
 refine mX.intro (n:=41) tok Tryz.func210 rfl rfl rfl (bz rfl) (by kernel_rfl) fun B F0 w0=>?_;refine qX 1 rfl<|qK 3 rfl ?_;refine ae.qv tok (a.length+1) rfl rfl rfl rfl rfl rfl (by simp only[b3];rw[aD (by omega) (by omega)];omega) rfl (by omega) ?_;refine qU 1 rfl<|qI<|qX 3 rfl ?_;rw[bf a];refine ae.nil<|AW.block ?_
 refine AW.aK [0,1,5,13,14,15] (fun s:Nat×List Nat=>[(0,.d (Wd a)),(1,.d (dI n)),(5,.ow 117 (s.2.map wd)),(13,.d (Wd a)),(14,.d (dI a.length)),(15,.d (dI s.1))])
  (fun s=>s.1≤a.length∧s.2.length=a.length+1∧bc s.2∧s.2.getD s.1 0<2^n∧(∀j,s.1<j→s.2.getD j 0=0)∧nv s.2=nv (a.take s.1)*2^n) (fun s=>a.length-s.1) (0,ct (a.length+1) 0) rfl
  ⟨cj _,by simp,bc.replicate _,by simpa[cp,go]using c' (by decide),fun j _=>by simp[cp,go];split<;>rfl,by simp[nv,jc]⟩ (fun (i,out) ⟨hi,hol,how,htop,hz,hv⟩=>?_)
 simp only[]at hi hol how htop hz hv;refine qX 1 rfl<|qI<|AW.cond rfl (fun h=>?_) fun h=>?_
 ·have dm:i<a.length:=by have:=ao h;omega
  have hx:=ha.getD i;obtain⟨u1,u2,u3,u4⟩:=KV (o:=out.getD i 0) hn hx htop;have h2n:2^n≤2^31:=cI (by decide) (by omega);refine AW.skip<|AW.seq<|AW.block<|qX 1 rfl<|ae.idx tok (wd (a.getD i 0)) rfl rfl rfl rfl (aa i) (bQ (by omega)) ?_;refine qU 3 rfl<|qK 5 rfl ?_;rw[gr (a.getD i 0) (by omega),Nj (a.getD i 0) n (by omega) u1];refine ae.nil ?_;obtain⟨Y,hY⟩: ∃Y,Y=a.getD i 0*2^n:=⟨_,rfl⟩;rw[←hY];rw[←hY]at u1 u2 u3 u4;refine qX 2 rfl ?_;refine ae.gI tok rfl rfl rfl rfl (aa i) (by simp;omega) ?_;refine ae.dE tok (wd (out.getD i 0)) rfl rfl rfl rfl (bQ (by simp;omega)) rfl ?_;refine qU 3 rfl ?_;rw[fK Y,Jg (out.getD i 0) (Y%4294967296) (by omega) (by omega),u2];refine ae.gI tok rfl rfl rfl rfl (aa i) (by simp;omega) ?_;refine ae.kx tok (out.getD i 0+Y%4294967296) rfl rfl rfl (by simp;omega) rfl ?_;refine ae.nil<|qT 6 rfl ?_;rw[aD (x:=(i:Int)+1) (by omega) (by omega),show(i:Int)+1=((i+1:Nat):Int) by omega,lf];refine ae.gI tok rfl rfl rfl rfl (aa (i+1)) (by simp;omega) ?_;refine ae.kx tok (Y/4294967296%4294967296) rfl rfl rfl (by simp;omega) (fK _) ?_;refine ae.nil<|qT 2 rfl ?_;rw[aD (by omega) (by omega)];refine ae.nil ?_;have hY4:Y/4294967296%4294967296=Y/4294967296:=ax (by omega);rw[hY4];refine⟨(i+1,(out.set i (out.getD i 0+Y%4294967296)).set (i+1) (Y/4294967296)),rfl,⟨by omega,by simpa using hol,(how.set _ u3).set _ (by omega),?_,fun j hj=>?_,?_⟩,by simp only[];omega⟩
  ·simp only[];rw[fJ _ _ _ _ (by simp;omega),ah rfl];exact u4
  ·simp only[]at hj ⊢;rw[fJ _ _ _ _ (by simp;omega),af (by omega),fJ _ _ _ _ (by omega),af (by omega)];exact hz j (by omega)
  ·have h1:=iq (l:=out) (i:=i) (x:=out.getD i 0+Y%4294967296) (by omega);have h2:=iq (l:=out.set i (out.getD i 0+Y%4294967296)) (i:=i+1) (x:=Y/4294967296) (by simp;omega);rw[fJ _ _ _ _ (by omega),af (by omega),hz (i+1) (by omega),d5,dx,a2]at h2;have h3:=iy (4294967296^i) Y;rw[an]at h1;simp only[aX a i,h2,dj];have h4:4294967296^i*a.getD i 0*2^n=4294967296^i*Y:=by rw[hY,cB]
   omega
 ·have dm:i=a.length:=by have:=ar h;omega
  subst dm;rw[ab (b2 _)]at hv;have hres:=DV how hol hv;refine AW.exit<|qX 2 rfl<|ae.nil<|AW.ret ?_;rw[←hres];exact congrArg (fun z=>some (_,out.map wd,0,z)) (show(out.map wd).length=a.length+1 by simpa using hol)
theorem o8{l:List Nat}(h:lo+m≤l.length):(((l.map wd).drop lo).take m).length=m:=by simp;omega
theorem yq(v n i:Nat)(hn:n<32):v/2^n/4294967296^i%4294967296=(v/4294967296^(i+1)%4294967296*4294967296+v/4294967296^i%4294967296)/2^n%4294967296:=by
 rw[dr,bi (2^n),←dr,a2,←dr];generalize v/4294967296^i=w;have h32:(4294967296:Nat)=2^n*2^(32-n):=by rw[←eL,show n+(32-n)=32 by omega]
 have hp:0<2^n:=c' (by decide);have h1:w=4294967296*4294967296*(w/4294967296/4294967296)+(w/4294967296%4294967296*4294967296+w%4294967296):=by omega
 have h2:4294967296*4294967296*(w/4294967296/4294967296)=2^n*(4294967296*(2^(32-n)*(w/4294967296/4294967296))):=by
  conv=>lhs;rw[cB];lhs;rw[h32]
  ac_rfl
 conv=>lhs;rw[h1,h2,mo hp,mn]
theorem vJ(a:List Nat)(n:Nat)(ha:bc a)(hla:a.length≤34900000000000)(hn:n<32):Pure Tryz.prog 213 [Wd a,dI n] (Wd (tw (nv a/2^n))):=by
 refine qJ 35 Tryz.func213 rfl fun B F0 w0=>?_;refine qX 1 rfl<|qK 2 rfl ?_;refine ae.qv tok a.length rfl rfl rfl rfl rfl rfl (by simp only[b3]) rfl (by omega) ?_;refine qU 1 rfl<|qI<|qX 3 rfl ?_;rw[bf a];refine ae.nil<|AW.block ?_
 refine AW.aK [0,1,5,11,12] (fun s:Nat×List Nat=>[(0,.d (Wd a)),(1,.d (dI n)),(5,.ow 117 (s.2.map wd)),(11,.d (dI a.length)),(12,.d (dI s.1))])
  (fun s=>s.1≤a.length∧s.2.length=a.length∧bc s.2∧ ∀j,j<s.1→s.2.getD j 0=nv a/2^n/4294967296^j%4294967296) (fun s=>a.length-s.1) (0,ct a.length 0) rfl ⟨cj _,by simp,bc.replicate _,fun j hj=>by simp at hj⟩ (fun (i,out) ⟨hi,hol,how,hv⟩=>?_)
 simp only[]at hi hol how hv;refine qX 1 rfl<|qI<|AW.cond rfl (fun h=>?_) fun h=>?_
 ·have dm:i<a.length:=by have:=ao h;omega
  have hx:=ha.getD i;have hy:=ha.getD (i+1);refine AW.skip<|AW.seq<|AW.block<|qX 2 rfl<|ae.nil<|AW.draw aO 17 (by kernel_rfl) ?_;refine qP 4 rfl<|ai.idx tok (wd (a.getD i 0)) rfl rfl rfl rfl rfl (aa i) (bQ (by omega)) ?_;refine qP 5 rfl ?_;rw[aD (x:=(i:Int)+1) (by omega) (by omega),show(i:Int)+1=((i+1:Nat):Int) by omega];refine qQ rfl (eF a ha (i+1)) ?_;refine qP 5 rfl ?_;rw[AS (a.getD (i+1) 0) hy,gr (a.getD i 0) (by omega),PW (a.getD (i+1) 0) (a.getD i 0) hy hx,Le (a.getD (i+1) 0*4294967296+a.getD i 0) n (by omega),fK];refine ai.gI tok rfl rfl rfl rfl rfl rfl (aa i) (by simp;omega) ?_;refine ai.nil<|ae.kx tok ((a.getD (i+1) 0*4294967296+a.getD i 0)/2^n%4294967296) rfl rfl rfl (by omega) rfl ?_;refine ae.nil<|qT 2 rfl ?_;rw[aD (by omega) (by omega)];refine ae.nil ?_;refine⟨(i+1,out.set i ((a.getD (i+1) 0*4294967296+a.getD i 0)/2^n%4294967296)),rfl,⟨by omega,by simpa using hol,how.set _ (by omega),fun j hj=>?_⟩,by simp only[];omega⟩;simp only[]at hj ⊢;rw[fJ _ _ _ _ (by omega)];split
  ·rename_i hji;subst hji;rw[yq _ _ _ hn,←gj ha,←gj ha]
  ·exact hv j (by omega)
 ·have dm:i=a.length:=by have:=ar h;omega
  subst dm
  have hres:nv out=nv a/2^n:=by
   have h1:out=dg a.length (nv a/2^n):=by refine td (by rw[hol,aU]) (fun j hj=>?_);have h2:=gj (fY a.length (nv a/2^n)) j;rw[h2,jy,hv j (by omega)];have h3:nv a/2^n<4294967296^a.length:=c3 (gM _ _) (dH ha);rw[ax h3]
   rw[h1,jy];exact ax<|c3 (gM _ _)<|dH ha
  refine AW.exit<|qX 1 rfl<|ae.iu tok 5 rfl rfl ?_;refine qM rfl (bV out how (by omega)) ?_;refine qU 1 rfl<|ae.nil ?_;rw[hres];exact AW.ret rfl
theorem vK(L v:List Nat)(lo m:Nat)(hL:bc L)(hv:bc v)(hlm:lo+m≤L.length)(hvm:v.length≤m)(hm:m≤34900000000000):
  FP Tryz.prog 212 117 (L.map wd) lo m [Wd v] ((put L lo m (dg m (nv (dW L lo m)+nv v))).map wd) (.val (.tu [])):=by
 refine FP.intro (n:=30) tok Tryz.func212 rfl rfl rfl (bz rfl) (by kernel_rfl) (by rw[b3,b3,eW hlm (aU _ _)]) fun B F0 w0=>?_;refine qX 1 rfl<|qK 3 rfl ?_;rw[o8 hlm];refine ae.nil<|AW.block ?_
 refine AW.aK [0,1,4,7,8] (fun s:Nat×List Nat×Nat=>[(0,.wn true 117 (s.2.1.map wd) lo m),(1,.d (Wd v)),(4,.d (dU s.2.2)),(7,.d (dI m)),(8,.d (dI s.1))])
  (fun s=>s.1≤m∧s.2.1.length=L.length∧bc s.2.1∧s.2.2≤1∧s.2.1.take lo=L.take lo∧s.2.1.drop (lo+s.1)=L.drop (lo+s.1)∧nv ((s.2.1.drop lo).take s.1)+4294967296^s.1*s.2.2=nv ((L.drop lo).take s.1)+nv (v.take s.1)) (fun s=>m-s.1) (0,L,0) rfl ⟨cj _,rfl,hL,by simp,rfl,rfl,by simp[nv]⟩ (fun (i,M,c) ⟨hi,hMl,hMw,hc,ht,hd,he⟩=>?_)
 simp only[]at hi hMl hMw hc ht hd he;refine qX 1 rfl<|qI<|AW.cond rfl (fun h=>?_) fun h=>?_
 ·have dm:i<m:=by have:=ao h;omega
  have hx:=hMw.getD (lo+i);have hy:=hv.getD i;have hME:=gJ hd;refine AW.skip<|AW.seq<|AW.block<|qX 2 rfl<|qI<|AW.draw aO 11 (by kernel_rfl) ?_;refine qP 3 rfl<|ai.qh tok rfl rfl rfl rfl rfl rfl (aa i) dm ?_;refine ai.dE tok (wd (M.getD (lo+i) 0)) rfl rfl rfl rfl rfl (bQ (by simp;omega)) rfl ?_;refine qP 3 rfl<|qQ rfl (eF v hv i) ?_;refine qP 2 rfl<|ai.nil<|qU 1 rfl ?_;rw[gr (M.getD (lo+i) 0) (by omega),vQ (M.getD (lo+i) 0) (v.getD i 0) (by omega),vQ c _ (by omega)];refine ae.nil ?_;obtain⟨S,hS⟩: ∃S,S=c+(M.getD (lo+i) 0+v.getD i 0):=⟨_,rfl⟩;rw[←hS];refine qX 4 rfl<|ae.qh tok rfl rfl rfl rfl (aa i) dm ?_;refine ae.AP tok (S%4294967296) rfl rfl rfl (by simp;omega) (fK _) ?_;refine ae.nil<|qT 3 rfl ?_;rw[lf];refine ae.nil<|qT 2 rfl ?_;rw[aD (by omega) (by omega)];refine ae.nil ?_;refine⟨(i+1,M.set (lo+i) (S%4294967296),S/4294967296),rfl,⟨by omega,by simpa using hMl,hMw.set _ (by omega),by show S/4294967296≤1;omega,?_,?_,?_⟩,by simp only[];omega⟩
  ·simp only[lQ,ht]
  ·simp only[];rw[←hJ,iL,k6 hd]
  ·simp only[];rw[rr (by omega),aX (L.drop lo) i,aX v i,mQ,←hME,a2];have:=iy (4294967296^i) S;rw[hS,an,an,←hS]at this;omega
 ·have dm:i=m:=by have:=ar h;omega
  subst dm;rw[ab (l:=v) hvm]at he
  have hres:put L lo i (dg i (nv (dW L lo i)+nv v))=M:=by
   have h1:dW M lo i=dg i (nv (dW M lo i)):=DV (hMw.dW lo i) (bX (by omega)) rfl
   have h2:dg i (nv (dW M lo i))=dg i (nv (dW L lo i)+nv v):=by
    have e:nv (dW L lo i)+nv v=nv (dW M lo i)+4294967296^i*c:=he.symm;have h3:nv (dW M lo i)<4294967296^i:=by have:=dH (hMw.dW lo i);rwa [bX (by omega)]at this
    have h4:nv (dg i (nv (dW M lo i)))=nv (dg i (nv (dW L lo i)+nv v)):=by rw[jy,jy,e,c5]
    exact xG (fY _ _) (fY _ _) (by rw[aU,aU]) h4
   exact(B5 ht hd (h1.trans h2)).symm
  rw[hres];refine AW.exit ?_;exact⟨⟨lo,i,rfl⟩,rfl,rfl⟩
theorem sX(L v:List Nat)(lo m n:Nat)(hL:bc L)(hv:bc v)(hn:n<4294967296)(hlm:lo+m≤L.length)(hvm:v.length<m)(hm:m≤34900000000000):
  FP Tryz.prog 211 117 (L.map wd) lo m [Wd v,dU n] ((put L lo m (dg m (nv (dW L lo m)+(if nv (dW L lo m)<n*nv v then 4294967296^m else 0) -n*nv v))).map wd) (.val (dB (decide (nv (dW L lo m)<n*nv v)))):=by
 refine FP.intro (n:=46) tok Tryz.func211 rfl rfl rfl (bz rfl) (by kernel_rfl) (by rw[b3,b3,eW hlm (aU _ _)]) fun B F0 w0=>?_;refine qX 1 rfl<|qK 2 rfl<|qI<|qX 3 rfl ?_;rw[o8 hlm];refine ae.nil<|AW.block ?_
 refine AW.aK [0,1,2,7,8,12,13] (fun s:Nat×List Nat×Nat×Nat=>[(0,.wn true 117 (s.2.1.map wd) lo m),(1,.d (Wd v)),(2,.d (dU n)),(7,.d (dU s.2.2.1)),(8,.d (dU s.2.2.2)),(12,.d (dI m)),(13,.d (dI s.1))])
  (fun s=>s.1≤m∧s.2.1.length=L.length∧bc s.2.1∧s.2.2.1<4294967296∧s.2.2.2≤1∧(v.length<s.1→s.2.2.1=0)∧s.2.1.take lo=L.take lo∧s.2.1.drop (lo+s.1)=L.drop (lo+s.1) ∧
   nv ((s.2.1.drop lo).take s.1)+n*nv (v.take s.1)=nv ((L.drop lo).take s.1)+4294967296^s.1*(s.2.2.1+s.2.2.2)) (fun s=>m-s.1) (0,L,0,0) rfl ⟨cj _,rfl,hL,by simp,by simp,fun _=>rfl,rfl,rfl,by simp[nv]⟩ (fun (i,M,c,b) ⟨hi,hMl,hMw,hc,hb,hc0,ht,hd,he⟩=>?_)
 simp only[]at hi hMl hMw hc hb hc0 ht hd he;refine qX 1 rfl<|qI<|AW.cond rfl (fun h=>?_) fun h=>?_
 ·have dm:i<m:=by have:=ao h;omega
  have hx:=hMw.getD (lo+i);have hy:=hv.getD i;have hME:=gJ hd;have hny:n*v.getD i 0≤4294967295*4294967295:=eq (by omega) (by omega);refine AW.skip<|AW.seq<|AW.block<|qX 2 rfl<|qK 4 rfl<|qM rfl (eF v hv i) ?_;refine qU 3 rfl ?_;rw[LD n (v.getD i 0) (by omega),vQ c _ (by omega)];refine ae.nil ?_;obtain⟨S,hS⟩: ∃S,S=c+n*v.getD i 0:=⟨_,rfl⟩;rw[←hS];refine qX 2 rfl<|ae.qh tok rfl rfl rfl rfl (aa i) dm ?_;refine ae.dE tok (wd (M.getD (lo+i) 0)) rfl rfl rfl rfl (bQ (by simp;omega)) rfl ?_;refine qU 8 rfl ?_;rw[gr (M.getD (lo+i) 0) (by omega),fK S,gr (S%4294967296) (by omega),Ov (M.getD (lo+i) 0) (S%4294967296) b hx (by omega) hb];refine ae.nil ?_;obtain⟨D,hD⟩: ∃D,D=(if S%4294967296+b≤M.getD (lo+i) 0 then M.getD (lo+i) 0-S%4294967296-b else 18446744073709551616+M.getD (lo+i) 0-S%4294967296-b:Nat):=⟨_,rfl⟩;rw[←hD];refine qX 4 rfl<|ae.qh tok rfl rfl rfl rfl (aa i) dm ?_;refine ae.AP tok (D%4294967296) rfl rfl rfl (by simp;omega) (fK _) ?_;refine qK 3 rfl ?_;rw[IJ];refine ae.nil<|qT 3 rfl ?_;rw[lf];refine ae.nil<|qT 2 rfl ?_;rw[aD (by omega) (by omega)];refine ae.nil ?_
  have hkey:D/9223372036854775808≤1∧D%4294967296+S%4294967296+b=M.getD (lo+i) 0+4294967296*(D/9223372036854775808):=by rw[hD];split<;>omega
  refine⟨(i+1,M.set (lo+i) (D%4294967296),S/4294967296,D/9223372036854775808),rfl,⟨by omega,by simpa using hMl,hMw.set _ (by omega),by show S/4294967296<4294967296;omega,hkey.1,fun hvi=>?_,?_,?_,?_⟩,by simp only[];omega⟩
  ·simp only[]at hvi ⊢;rw[hS,fA (by omega),d5];omega
  ·simp only[lQ,ht]
  ·simp only[];rw[←hJ,iL,k6 hd]
  ·simp only[];rw[rr (by omega),aX (L.drop lo) i,aX v i,mQ,←hME,a2];have h1:=iy (4294967296^i) S;have h2:=congrArg (fun z=>4294967296^i*z) hkey.2;simp only[an]at h2;have h3:n*(nv (v.take i)+4294967296^i*v.getD i 0)=n*nv (v.take i)+4294967296^i*(n*v.getD i 0):=by rw[an];congr 1;ac_rfl
   have h4:4294967296^i*S=4294967296^i*c+4294967296^i*(n*v.getD i 0):=by rw[hS,an]
   rw[h3,an (4294967296^i*4294967296),cB (4294967296^i) 4294967296 (D/_)];rw[an]at he;omega
 ·have dm:i=m:=by have:=ar h;omega
  subst dm;rw[hc0 hvm,dn,ab (l:=v) (by omega)]at he;have hw:nv (dW M lo i)<4294967296^i:=by have:=dH (hMw.dW lo i);rwa [bX (by omega)]at this
  have he:nv (dW M lo i)+n*nv v=nv (dW L lo i)+4294967296^i*b:=he
  have hbb:(nv (dW L lo i)<n*nv v)↔b=1:=by
   constructor
   ·intro hlt;rcases bv b with h|h
    ·rw[h]at he;omega
    ·omega
   ·intro h;rw[h]at he;omega
  have hif:(if nv (dW L lo i)<n*nv v then 4294967296^i else 0)=4294967296^i*b:=by
   split
   ·rename_i h;rw[hbb.1 h,c6]
   ·rename_i h;have:b=0:=by have: ¬b=1:=fun e=>h (hbb.2 e);omega
    rw[this,d5]
  have hres:put L lo i (dg i (nv (dW L lo i)+(if nv (dW L lo i)<n*nv v then 4294967296^i else 0) -n*nv v))=M:=by refine(B5 ht hd (DV (hMw.dW lo i) (bX (by omega)) ?_)).symm;rw[hif];omega
  rw[hres];refine AW.exit<|qX 3 rfl<|ae.nil<|AW.ret ?_
  have hd:decide (nv (dW L lo i)<n*nv v)=((b:Int)==1):=by
   by_cases h:nv (dW L lo i)<n*nv v
   ·rw[hbb.1 h];simp[h,hbb.1 h]
   ·have:b≠1:=fun e=>h (hbb.2 e);have h2: ¬(b:Int)=1:=by omega
    simp[h,h2]
  rw[hd];exact⟨⟨lo,i,rfl⟩,rfl,rfl⟩
def bl(n:Nat):Nat:=if h:n=0 then 0 else 1+bl (n/2)
termination_by n
decreasing_by omega
theorem p9:bl 0=0:=by rw[bl];simp
theorem Cg(h:n≠0):bl n=1+bl (n/2):=by rw[bl];simp[h]
theorem tj: ∀(k x:Nat),2^k≤x→bl x=k+bl (x/2^k)
 |0,x,_=>by simp
 |k+1,x,h=>by
  have hp:0<2^k:=c' (by decide);rw[a2]at h;have h2:2^k≤x/2:=by omega
  rw[Cg (by omega),tj k (x/2) h2,a2,bi,dr];omega
theorem Jw(n:Nat):n<2^bl n:=by
 induction n using eY with
 |ind n ih =>
  by_cases h:n=0
  ·subst h;simp[p9]
  ·have:=ih (n/2) (by omega);rw[Cg h,jt,a2];omega
theorem MT(h:n≠0):0<bl n∧2^(bl n-1)≤n:=by
 induction n using eY with
 |ind n ih =>
  rw[Cg h];refine⟨by omega,?_⟩;rw[show 1+bl (n/2) -1=bl (n/2) by omega];by_cases h2:n/2=0
  ·rw[h2,p9];omega
  ·have:=ih (n/2) (by omega) h2;have e:2^bl (n/2)=2^(bl (n/2) -1)*2:=by rw[←a2];congr 1;omega
   omega
theorem iO(h:n<2^k):bl n≤k:=by
 by_cases h0:n=0
 ·subst h0;rw[p9];omega
 ·obtain⟨h1,h2⟩:=MT h0;have:2^(bl n-1)<2^k:=c3 h2 h;have:=(jb (by decide:1<2)).1 this;omega
theorem II(m k:Nat)(hk:k≤32):(m:Int).fdiv (2^(min k ea.bits))=((m/2^k:Nat):Int):=by
 rw[show min k ea.bits=k from dz hk,i3 _ (ne (by decide))]
 push_cast
 rfl
theorem wU8(h0:0≤x)(h1:x<256):IntKind.u8.wrap x=x:=by simp only[ef,eh,dT];simp;omega
section
variable {all:Array Oper} 
theorem ae.Nf(hT:bB P T)(tab:Nat→Nat)(N:Nat){s:ByteArray}{x:Nat}(hd:o.dst=some d)(hdn:d6 (d+1) n=true)(hg:aJ all σ o=true)(hx:K9 T σ.get o.op=some (s,(x:Int)))(hlt:x<N)
  (hs:d7 s.size N=true) (htab:(i1 N).all (fun i=>d7 (s.data.toList.getD i 0).toNat (tab i))=true)
  (h:ae P B F0 w0 n all rest K ((d,.d (.v (.int .u8 ((tab x:Nat):Int))))::σ)):ae P B F0 w0 n all (o::rest) K σ:=by
 refine ae.zT hT hd hdn hg hx (aa x) (by have:=cA hs;simp;omega) ?_;have:=cT.1 htab x (en.2 hlt);have:=cA this;rw[a3,this];exact h
end
def Qj(i:Nat):Nat:=if i=0 then 0 else if i<2 then 1 else if i<4 then 2 else if i<8 then 3 else if i<16 then 4 else if i<32 then 5 else if i<64 then 6 else if i<128 then 7 else 8
theorem N3(h:i<256):Qj i=bl i:=by
 have lo: ∀k,2^k≤i→i<2^(k+1)→bl i=k+1:=fun k h1 h2=>by have h3:=iO h2;have h4:=Jw i;have:2^k<2^bl i:=c3 h1 h4;have:=(jb (by decide:1<2)).1 this;omega
 unfold Qj;split
 ·rename_i h;rw[h,p9]
 split
 ·exact(lo 0 (by omega) (by omega)).symm
 split
 ·exact(lo 1 (by omega) (by omega)).symm
 split
 ·exact(lo 2 (by omega) (by omega)).symm
 split
 ·exact(lo 3 (by omega) (by omega)).symm
 split
 ·exact(lo 4 (by omega) (by omega)).symm
 split
 ·exact(lo 5 (by omega) (by omega)).symm
 split
 ·exact(lo 6 (by omega) (by omega)).symm
 ·exact(lo 7 (by omega) (by omega)).symm
set_option maxRecDepth 8000 in
theorem zv(x:Nat)(hx:x<4294967296):Pure Tryz.prog 216 [wd x] (dI (bl x)):=by
 refine qJ 19 Tryz.func216 rfl fun B F0 w0=>?_;refine qX 1 rfl<|ae.nil ?_;refine AW.cut [0,2] (fun s:Nat×Nat=>[(0,.d (wd s.1)),(2,.d (dI s.2))]) (fun s=>s.1<65536∧s.2≤16∧bl x=s.2+bl s.1) ?_ fun (y,k) ⟨hy,hk,he⟩=>?_
 ·refine qX 2 rfl (ae.nil (AW.cond rfl (fun h=>?_) (fun h=>?_)))
  ·have hge:65536≤x:=by have:=ao h;omega
   refine qX 3 rfl ?_;rw[II x 16 (by decide)];refine ae.nil<|qT 1 rfl<|ae.nil ?_;exact⟨(x/2^16,16),rfl,by show x/2^16<65536;omega,b2 _,tj 16 x hge⟩
  ·have hlt:x<65536:=by have:=ar h;omega
   refine AW.skip ?_;exact⟨(x,0),rfl,hlt,by simp,(dn _).symm⟩
 ·simp only[]at hy hk he;refine AW.cut [0,2] (fun s:Nat×Nat=>[(0,.d (wd s.1)),(2,.d (dI s.2))]) (fun s=>s.1<256∧s.2≤24∧bl x=s.2+bl s.1) ?_ fun (y,k) ⟨hy,hk,he⟩=>?_
  ·refine qX 2 rfl (ae.nil (AW.cond rfl (fun h=>?_) (fun h=>?_)))
   ·have hge:256≤y:=by have:=ao h;omega
    refine qX 3 rfl ?_;rw[II y 8 (by decide)];refine ae.nil<|qT 3 rfl ?_;rw[aD (by omega) (by omega)];refine ae.nil ?_;exact⟨(y/2^8,k+8),rfl,by show y/2^8<256;omega,by show k+8≤24;omega,by simp only[];rw[he,tj 8 y hge,hJ]⟩
   ·have hlt:y<256:=by have:=ar h;omega
    refine AW.skip ?_;exact⟨(y,k),rfl,hlt,by show k≤24;omega,he⟩
  ·simp only[]at hy hk he;refine qX 3 rfl ?_;rw[wU8 (by omega) (by omega)];refine ae.Nf tok Qj 256 rfl rfl rfl rfl hy (by kernel_rfl) (by kernel_rfl) ?_;rw[N3 hy];refine qU 3 rfl ?_;have hb:=iO (show y<2^8 by omega);rw[aD (x:=((bl y:Nat):Int)) (by omega) (by omega),aD (by omega) (by omega)];refine ae.nil ?_;rw[he];exact AW.ret rfl
theorem nP(x:Nat)(hx:x<4294967296):Pure Tryz.prog 209 [wd x] (dI ((32-bl x:Nat):Int)):=by refine qJ 6 Tryz.func209 rfl (fun B F0 w0=>?_);have hb:=iO (show x<2^32 by omega);refine qX 1 rfl<|qK 1 rfl<|qM rfl (zv x hx) ?_;refine qU 2 rfl ?_;rw[aD (by omega) (by omega),show(32:Int) -((bl x:Nat):Int)=((32-bl x:Nat):Int) by omega];exact qN rfl
end Lift
namespace Lift
variable {l v:List Nat}{R Ul V Vl guess head j n next p2 rest top:Nat}
theorem HW{U:Nat}(hV:V=Vl+R*(next+4294967296*top))(hU:U=Ul+R*(p2+4294967296*head))(hl:Ul<R)(hh:guess*top+rest=head)(hc:rest*4294967296+p2<guess*next):U<guess*V:=by
 have h1:p2+4294967296*head+1≤guess*next+4294967296*(guess*top):=by omega
 have h2:R*(p2+4294967296*head+1)≤R*(guess*next+4294967296*(guess*top)):=am _ h1
 have h3:R*(guess*next+4294967296*(guess*top))=guess*(R*(next+4294967296*top)):=by
  rw[an R next,an guess,an R]
  congr 1<;>ac_rfl
 have h4:guess*V=guess*Vl+guess*(R*(next+4294967296*top)):=by rw[hV,an]
 rw[an,c6]at h2;omega
theorem HV{U:Nat}(hV:V=Vl+R*(next+4294967296*top))(hU:U=Ul+R*(p2+4294967296*head))(hvl:Vl<R)(ht:0<top)(hn:next<4294967296)(hg:guess<4294967296)(hh:guess*top+rest=head)
  (hc:guess*next≤rest*4294967296+p2∨4294967296≤rest):guess*V≤U+V:=by
 have hgn:guess*next≤4294967295*4294967295:=eq (by omega) (by omega)
 have h1:guess*next+4294967296*(guess*top)≤p2+4294967296*head:=by omega
 have h2:R*(guess*next+4294967296*(guess*top))≤R*(p2+4294967296*head):=am _ h1
 have h3:R*(guess*next+4294967296*(guess*top))=guess*(R*(next+4294967296*top)):=by
  rw[an R next,an guess,an R]
  congr 1<;>ac_rfl
 have h4:guess*V=guess*Vl+guess*(R*(next+4294967296*top)):=by rw[hV,an]
 have h5:guess*Vl≤4294967296*R:=eq (by omega) (by omega);have h6:R*(4294967296*1)≤R*(next+4294967296*top):=am _ (by omega);omega
theorem DR{U:Nat}(hV:V=Vl+R*(next+4294967296*top))(hU:U=Ul+R*(p2+4294967296*head))(hl:Ul<R)(hp2:p2<4294967296)(ht:0<top):U<(head/top+1)*V:=by
 have h0:=cM head top;have h1:=cJ head ht;have h2:(head/top+1)*top=top*(head/top)+top:=by rw[dj,gb,bi]
 have h3:head+1≤(head/top+1)*top:=by omega
 have h4:R*(4294967296*(head+1))≤R*(4294967296*((head/top+1)*top)):=am _ (am _ h3);have h5:R*(4294967296*((head/top+1)*top))=(head/top+1)*(R*(4294967296*top)):=by ac_rfl
 have h6:(head/top+1)*(R*(4294967296*top))≤(head/top+1)*V:=am _ (by rw[hV,an];omega);have h7:R*(p2+4294967296*head+1)≤R*(4294967296*(head+1)):=am _ (by omega);rw[an,c6]at h7;omega
theorem Lv(hn:v.length=n+2):nv v=nv (v.take n)+4294967296^n*(v.getD n 0+4294967296*v.getD (n+1) 0):=by rw[bE v n (by omega),eG v n (by omega),eG v (n+1) (by omega),cN (by omega)];simp[nv]
theorem Lu(hn:v.length=n+3):nv v=nv (v.take n)+4294967296^n*(v.getD n 0+4294967296*(v.getD (n+1) 0+4294967296*v.getD (n+2) 0)):=by rw[bE v n (by omega),eG v n (by omega),eG v (n+1) (by omega),eG v (n+2) (by omega),cN (by omega)];simp[nv]
theorem nF(h:bc v)(n:Nat):nv (v.take n)<4294967296^n:=by have h1:=dH (h.take n);exact cn h1<|jI (by simp;omega)
theorem sO(n:Nat)(h:nv l<4294967296^n)(hn:n≤l.length):nv (l.drop n)=0:=by
 have:=bE l n hn;rcases bv (nv (l.drop n))with h0|h0
 ·exact h0
 ·have:4294967296^n*1≤4294967296^n*nv (l.drop n):=am _ h0;omega
theorem sP(h:j<l.length):nv (l.drop j)=l.getD j 0+4294967296*nv (l.drop (j+1)):=by rw[eG l j h];rfl
theorem D0{u w:List Nat}{U r:Nat}(hu:bc u)(hjn:j+(n+1)≤u.length)(hV:V<4294967296^n)(hlt:nv (u.drop (j+1))<V)(hU:U=nv (dW u j (n+1)))(hw:w=dg (n+1) r)(hr:r<V):
  nv (u.drop j)=U∧U<4294967296*V∧nv ((put u j (n+1) w).drop j)=r∧nv (put u j (n+1) w)+4294967296^j*U=nv u+4294967296^j*r:=by
 have hz:nv ((u.drop (j+1)).drop n)=0:=sO n (jr hlt hV) (by simp;omega);rw[ep,show j+1+n=j+(n+1) by omega]at hz
 have h1:nv (u.drop j)=U:=by have:=bE (u.drop j) (n+1) (by simp;omega);rw[ep,hz,d5,dx]at this;rw[this,hU];rfl
 have hwl:w.length=n+1:=by rw[hw,aU]
 have hwv:nv w=r:=by rw[hw,jy];exact ax<|jr hr<|cn hV<|jI (by omega)
 have hpl:(put u j (n+1) w).length=u.length:=eW hjn hwl
 have ht:(put u j (n+1) w).take j=u.take j:=by
  have:(u.take j).length=j:=by simp;omega
  rw[put,b8,ci (by omega),ab (by omega)]
 have hd:nv ((put u j (n+1) w).drop j)=r:=by
  have:(u.take j).length=j:=by simp;omega
  rw[put,b8,eE (by omega),cN (by omega),ma,tZ,hz,hwv];omega
 refine⟨h1,?_,hd,?_⟩
 ·rw[←h1,sP (by omega)];have:=hu.getD j;omega
 ·have e1:=bE (put u j (n+1) w) j (by omega);have e2:=bE u j (by omega);rw[hd,ht]at e1;rw[h1]at e2;omega
end Lift
namespace Lift
open Go Go.Proofs
variable {b d:Int}{l m:List Nat}{A B R Ul V Vl g guess head k n next p2 q rest top u x y:Nat}
theorem B9: ∀(k m v:Nat),k≤m→(dg m v).take k=dg k v
 |0,m,v,_=>by simp[dg]
 |k+1,0,v,h=>by omega
 |k+1,m+1,v,h=>by simp[dg,B9 k m (v/4294967296) (by omega)]
theorem vI(a:List Nat)(n:Nat)(ha:bc a)(hla:a.length≤34900000000000)(hn:n<32):Pure Tryz.prog 210 [Wd a,dI n] (Wd (dg (a.length+1) (nv a*2^n))):=by
 have:=mX.pure tok (qw a n ha hla hn) (te:=_) rfl
 have e:(((dg (a.length+1) (nv a*2^n)).map wd).drop 0).take (a.length+1)=(dg (a.length+1) (nv a*2^n)).map wd:=by rw[eo,ab (by simp[aU])]
 rw[e]at this;exact this
theorem gG(l:List Nat):kA (l.map wd)=true:=by simp only[kA,cT,flatAll];intro x hx;obtain⟨y,hy,hxy⟩:=List.mem_flatMap.1 hx;obtain⟨z,_,rfl⟩:=ny.1 hy;simp[wd,D.flat]at hxy;subst hxy;rfl
theorem AW.norm{P:Program}{F0:Nat→Prop}{w0:dh}{σ:St}{x:Code}{Q:Exit→St→Prop}(ks:List Nat)(σ':St)(h:σ.fc ks=σ')(hk:AW P B F0 w0 n x Q σ'):AW P B F0 w0 n x Q σ:=AW.fc ks (h▸hk)
theorem Du{s L T:Nat}(hs:s=32-bl T)(hs1:0<bl T)(hs2:2^(bl T-1)≤T)(hs3:bl T≤32)(h1:B=L+4294967296^(n+1)*T)(h2:L<4294967296^(n+1))(hT:T<4294967296)(hV:V=B*2^s):V<4294967296^(n+2)∧4294967296^(n+2)≤2*V:=by
 have h4:=Jw T;have e1:2^bl T*2^s=4294967296:=by rw[←eL,hs,show bl T+(32-bl T)=32 by omega]
 have e2:2^bl T=2^(bl T-1)*2:=by rw[←a2];congr 1;omega
 have h5:B+1≤4294967296^(n+1)*2^bl T:=by have:4294967296^(n+1)*(T+1)≤4294967296^(n+1)*2^bl T:=am _ h4;rw[an,c6]at this;omega
 have h6:(B+1)*2^s≤4294967296^(n+1)*2^bl T*2^s:=c7 _ h5;have hp:0<2^s:=c' (by decide);rw[cB,e1,←a2,dj,gb]at h6
 have h7:4294967296^(n+1)*2^(bl T-1)≤B:=by have:4294967296^(n+1)*2^(bl T-1)≤4294967296^(n+1)*T:=am _ hs2;omega
 have h8:4294967296^(n+1)*2^(bl T-1)*2^s≤B*2^s:=c7 _ h7;refine⟨by rw[hV];show B*2^s<4294967296^(n+1+1);omega,?_⟩
 have e3:4294967296^(n+2)=4294967296^(n+1)*2^(bl T-1)*2^s*2:=by
  rw[show n+2=n+1+1 from rfl,a2,←e1,e2]
  ac_rfl
 rw[e3,hV];omega
theorem K4{nx:Nat}(h1:4294967296^(n+2)≤2*V)(h2:V=Vl+R*(nx+4294967296*top))(h3:Vl<R)(h4:nx<4294967296)(hR:R=4294967296^n):2147483648≤top:=by
 rcases ch top 2147483648 with h|h
 ·exfalso;have h5:R*(nx+4294967296*top+1)≤R*(4294967296*2147483648):=am _ (by omega);rw[an,c6]at h5;have e:4294967296^(n+2)=R*(4294967296*2147483648)*2:=by rw[hR,eL];omega
  omega
 ·exact h
theorem KW{s N L:Nat}(h:A<4294967296^L)(hN:N=L+1)(hs:s≤32):A*2^s<4294967296^N:=by have h1:2^s≤2^32:=cI (by decide) hs;have h2:A*2^s≤A*4294967296:=am _ h1;rw[hN,a2];omega
theorem FD{u:List Nat}{s Q L:Nat}(hu:nv u=A*2^s)(hA:A<4294967296^L)(hs:s≤31)(hL:L=Q+(n+1))(hV:4294967296^(n+2)≤2*V)(hl:Q≤u.length):nv (u.drop Q)<V:=by
 have h1:=bE u Q hl;have h2:2^s≤2^31:=cI (by decide) hs;have h3:A*2^s≤A*2147483648:=am _ h2;rw[hL,eL]at hA;rcases ch (nv (u.drop Q)) V with h|h
 ·exact h
 ·exfalso;have h4:4294967296^Q*(2*V)≤4294967296^Q*(2*nv (u.drop Q)):=am _ (by omega);have h5:4294967296^Q*4294967296^(n+2)≤4294967296^Q*(2*V):=am _ hV;have e:4294967296^Q*4294967296^(n+2)=4294967296^Q*4294967296^(n+1)*4294967296:=by rw[show n+2=n+1+1 from rfl,a2,cB]
  have e2:4294967296^Q*(2*nv (u.drop Q))=2*(4294967296^Q*nv (u.drop Q)):=by ac_rfl
  omega
theorem DQ{r:Nat}(h:g*top+r=head)(ht:2147483648≤top)(hh:head<18446744073709551616):g<8589934592:=by have h1:g*2147483648≤g*top:=am _ ht;omega
theorem Fg{U:Nat}(hV:V=Vl+R*(next+4294967296*top))(hU:U=Ul+R*(p2+4294967296*head))(hl:Ul<R)(hUV:U<4294967296*V)(hh:guess*top+rest=head)(hr:rest<4294967296)
  (hc:4294967296≤guess∨rest*4294967296+p2<guess*next):0<guess∧U<guess*V:=by
 rcases hc with h|h
 ·have:4294967296*V≤guess*V:=c7 _ h;exact⟨by omega,by omega⟩
 ·refine⟨?_,HW hV hU hl hh h⟩;rcases bv guess with h0|h0
  ·subst h0;omega
  ·exact h0
theorem Fh{U:Nat}(hV:V=Vl+R*(next+4294967296*top))(hU:U=Ul+R*(p2+4294967296*head))(hl:Ul<R)(hvl:Vl<R)(hUV:U<4294967296*V)(ht:0<top)(hn:next<4294967296)(hh:guess*top+rest=head)
  (hc:4294967296≤rest∨(guess<4294967296∧guess*next≤rest*4294967296+p2)):guess<4294967296∧guess*V≤U+V:=by
 have hg:guess<4294967296:=by
  rcases hc with h|h
  ·have h1:head<4294967296*(top+1):=by
    rcases ch head (4294967296*(top+1))with h2|h2
    ·exact h2
    ·exfalso;have h3:R*(4294967296*(4294967296*(top+1)))≤R*(4294967296*head):=am _ (am _ h2);have h4:R*(next+4294967296*top+1)≤R*(4294967296*(top+1)):=am _ (by omega);have h5:R*(4294967296*(4294967296*(top+1)))=4294967296*(R*(4294967296*(top+1))):=by ac_rfl
     rw[an R p2]at hU;rw[an,c6]at h4;omega
   rcases ch guess 4294967296 with h2|h2
   ·exact h2
   ·exfalso;have h3:4294967296*top≤guess*top:=c7 _ h2;omega
  ·exact h.1
 exact⟨hg,HV hV hU hvl ht hn hg hh (by rcases hc with h|h;exact .inr h;exact .inl h.2)⟩
theorem Ka{U:Nat}(h1:U<g*V)(h2:g*V≤U+V)(hV:0<V)(hB:V≤B):U+B-g*V+V=B+U%V∧U/V=g-1:=by
 obtain⟨g',rfl⟩: ∃g',g=g'+1:=⟨g-1,by have:g≠0:=(by rintro rfl;omega);omega⟩;rw[dj,gb]at h1 h2 ⊢
 have h3:U/V=g':=by
  refine k4 ?_ ?_
  ·omega
  ·rw[dj,gb];omega
 refine⟨?_,by omega⟩;have h4:=cM U V;rw[h3,bi]at h4;generalize U%V=r at h4 ⊢;generalize g'*V=y at h1 h2 h4 ⊢;omega
theorem H2{U:Nat}(h1: ¬U<g*V)(h2:U<(g+1)*V)(hV:0<V):U-g*V=U%V∧U/V=g:=by have h3:U/V=g:=k4 (by omega) h2;have h4:=cM U V;rw[h3,bi]at h4;exact⟨by omega,h3⟩
theorem Ln{w x:List Nat}{lo m:Nat}(h:lo+m≤l.length)(hw:w.length=m):put (put l lo m w) lo m x=put l lo m x:=by
 have h1:(l.take lo).length=lo:=by simp;omega
 simp only[put,b8];rw[ci (by omega),ab (by omega),←b8,←b8 (l.take lo),eE (by simp[hw];omega),cN (by simp[hw];omega)];simp
theorem Kb(h:x%4294967296^k=y%4294967296^k):dg k x=dg k y:=xG (fY _ _) (fY _ _) (by rw[aU,aU]) (by rw[jy,jy,h])
theorem Dr{j:Nat}(h:j<l.length):nv ((l.set j x).drop j)=x+4294967296*nv (l.drop (j+1)):=by rw[sP (by simpa using h),fJ _ _ _ _ h,ah rfl,iL]
theorem H0{u' P P1 U r Z:Nat}(h:u'+P*U=u+P*r)(h1:V*q+r=U)(hP:P1=P*4294967296):u'+P*(q+4294967296*Z)*V=u+P1*Z*V:=by
 subst hP;rw[←h1,an]at h;rw[an,dj];have e1:P*q*V=P*(V*q):=by ac_rfl
 have e2:P*(4294967296*Z)*V=P*4294967296*Z*V:=by ac_rfl
 omega
theorem H3{b a s:Nat}(hV:V=b*2^s)(h1:u<V)(h2:u+q*V=a*2^s)(hs:0<2^s):q=a/b∧u/2^s=a%b:=by
 have hb:0<b:=by
  have:b≠0:=by rintro rfl;omega
  omega
 have hdv:u%2^s=0:=by
  have:(u+q*V)%2^s=0:=by rw[h2,Nat.mul_mod_left]
  rw[hV,←cB,i2]at this;exact this
 have hu:=cM u (2^s);rw[hdv,dx]at hu;obtain⟨r,hr⟩: ∃r,r=u/2^s:=⟨_,rfl⟩;rw[←hr]at hu ⊢
 have h3:r+q*b=a:=by
  have:2^s*(r+q*b)=2^s*a:=by
   rw[an,hu,bi _ a,←h2,hV]
   congr 1
   ac_rfl
  exact Nat.eq_of_mul_eq_mul_left hs this
 have h4:r<b:=by rw[←hu,hV,bi]at h1;exact Nat.lt_of_mul_lt_mul_right h1
 have h5:a/b=q:=by rw[←h3,Nat.add_mul_div_right _ _ hb,eB h4,dn]
 have h6:a%b=r:=by rw[←h3,i2,ax h4]
 exact⟨h5.symm,h6.symm⟩
theorem sY(a b:List Nat)(ha:bc a)(hb:bc b)(na:Nm a)(nb:Nm b)(hla:a.length≤34800000000000)(hlb:b.length≤34800000000000)(hb0:b≠[]):Pure Tryz.prog 191 [Wd a,Wd b] (.tu [Wd (tw (nv a/nv b)),Wd (tw (nv a%nv b))]):=by
 refine qJ 158 Tryz.func191 rfl fun B F0 w0=>?_;have hbpos:0<nv b:=lc (fun e=>hb0 ((jV nb).1 e));refine qX 2 rfl<|qI<|qX 2 rfl<|qM rfl (lE a b ha hb na nb (by omega)) ?_;refine qU 1 rfl<|ae.nil<|AW.cond rfl (fun h=>?_) fun h=>?_
 ·have hlt:nv a<nv b:=by
   have h:=ao h;unfold jN at h;split at h
   ·assumption
   ·split at h<;>omega
  rw[eB hlt,ax hlt,jQ];refine qX 1 rfl<|qM rfl (bV a ha (by omega)) ?_;exact qU 2 rfl<|qN rfl
 have hge:nv b≤nv a:=by
  have h:=ar h;unfold jN at h;split at h
  ·omega
  ·omega
 refine AW.skip<|AW.seq<|qX 3 rfl<|ae.nil<|AW.cond rfl (fun h=>?_) fun h=>?_
 ·have hl1:b.length=1:=by
   have:(b.length:Int)=1:=by simpa using h
   omega
  obtain⟨c,rfl⟩: ∃c,b=[c]:=List.length_eq_one_iff.1 hl1;have hc:=(bc.cons.1 hb).1;have hnc:nv [c]=c:=by simp[nv]
  rw[hnc]at hbpos hge ⊢;refine qX 2 rfl<|ae.idx tok (wd c) rfl rfl rfl rfl (Int.le_refl 0) rfl ?_;refine qU 1 rfl<|qM rfl (uq a c ha (by omega) hc hbpos) ?_;refine qU 5 rfl<|qK 2 rfl<|ae.bs tok rfl rfl rfl rfl ?_;refine ae.iu tok 38 rfl rfl ?_;refine qM rfl (bV [nv a%c] (bc.cons.2 ⟨jr (cJ _ hbpos) hc,bc.nil⟩) (by simp)) ?_;refine qU 2 rfl<|ae.nil ?_;rw[show nv [nv a%c]=nv a%c by simp[nv]];exact AW.ret rfl
 have hl2:2≤b.length:=by
  have h1: ¬(b.length:Int)=1:=by simpa using h
  have:b.length≠0:=fun e=>hb0 (List.eq_nil_of_length_eq_zero e);omega
 obtain⟨n,hn⟩: ∃n,b.length=n+2:=⟨b.length-2,by omega⟩
 have hlab:n+2≤a.length:=by
  rcases ch a.length b.length with h|h
  ·have:=mL ha nb h;omega
  ·omega
 have hT:=hb.getD (n+1);have hT0:b.getD (n+1) 0≠0:=fun e=>nb (by rw[c4,hn,show n+2-1=n+1 by omega,az (by omega)];simpa[cp,show n+1<b.length by omega]using e);obtain⟨hs1,hs2⟩:=MT hT0;have hs3:=iO (show b.getD (n+1) 0<2^32 by omega);obtain⟨s,hs⟩: ∃s,s=32-bl (b.getD (n+1) 0):=⟨_,rfl⟩;refine AW.skip<|qX 4 rfl ?_;rw[bf b,aD (by omega) (by omega),show(b.length:Int) -1=((n+1:Nat):Int) by omega];refine ae.idx tok (wd (b.getD (n+1) 0)) rfl rfl rfl rfl (aa _) (bQ (by omega)) ?_;refine qU 1 rfl<|qM rfl (nP _ hT) ?_;refine qU 1 rfl ?_;rw[←hs];refine qI<|AW.draw aO 9 (by kernel_rfl) ?_;refine qP 2 rfl<|qQ rfl (vI b s hb (by omega) (by omega)) ?_;refine qP 2 rfl ?_;refine ai.CK tok rfl rfl rfl rfl rfl trivial (aa _) (cj _) (by simp[dm,aU]) ?_;refine qP 2 rfl<|ai.yD tok rfl rfl rfl rfl rfl (qw a s ha (by omega) (by omega)) (gG _) ?_;refine ai.nil<|qU 2 rfl<|ae.nil ?_;obtain⟨V,hV⟩: ∃V,V=nv b*2^s:=⟨_,rfl⟩;obtain⟨v,hv⟩: ∃v,v=dg (n+2) V:=⟨_,rfl⟩;obtain⟨N,hN⟩: ∃N,N=a.length+1:=⟨_,rfl⟩;obtain⟨u0,hu0⟩: ∃u0,u0=dg N (nv a*2^s):=⟨_,rfl⟩;have hvl:v.length=n+2:=by rw[hv,aU]
 have hvw:bc v:=by rw[hv];exact fY _ _
 have hVb:V<4294967296^(n+2)∧4294967296^(n+2)≤2*V:=by have h1:=xI b (n+1) (by omega);rw[cN (by omega)]at h1;simp only[nv,d5,dx]at h1;have h2:=nF hb (n+1);exact Du hs hs1 hs2 hs3 h1 h2 hT hV
 have hvv:nv v=V:=by rw[hv,jy];exact ax hVb.1
 have e9:D.sl 1 (((((dg (b.length+1) (nv b*2^s)).map wd)).take (dm ((dg (b.length+1) (nv b*2^s)).map wd).length (some ((b.map wd).length:Int)))).drop (gA none))=Wd v:=by simp only[dm,gA,eo,a3,b3,Wd,←i5];rw[B9 _ _ _ (by omega),hn,←hV,←hv]
 refine AW.norm [8,9,10] [(8,.d (dI s)),(9,.d (Wd v)),(10,.wn false 117 (u0.map wd) 0 N)] (by rw[←e9,hu0,hN];rfl) ?_;have hul0:u0.length=N:=by rw[hu0,aU]
 have huw0:bc u0:=by rw[hu0];exact fY _ _
 obtain⟨Q,hQ⟩: ∃Q,N=Q+(n+2):=⟨N-(n+2),by omega⟩;refine qX 5 rfl ?_;refine ae.qv tok Q rfl rfl rfl rfl rfl rfl (by rw[o8 (show 0+N≤u0.length by omega),bf v,aD (by omega) (by omega)];omega) rfl (by omega) ?_;refine qU 1 rfl<|qI<|AW.draw aO 15 (by kernel_rfl) ?_;refine qP 4 rfl ?_;rw[bf v,aD (x:=(v.length:Int) -1) (by omega) (by omega),show(v.length:Int) -1=((n+1:Nat):Int) by omega];refine ai.idx tok (wd (v.getD (n+1) 0)) rfl rfl rfl rfl rfl (aa _) (bQ (by omega)) ?_;refine qP 6 rfl ?_;rw[bf v,aD (x:=(v.length:Int) -2) (by omega) (by omega),show(v.length:Int) -2=((n:Nat):Int) by omega];refine ai.idx tok (wd (v.getD n 0)) rfl rfl rfl rfl rfl (aa _) (bQ (by omega)) ?_;refine qP 3 rfl<|ai.nil<|qU 1 rfl ?_;have htw:=hvw.getD (n+1);have hnw:=hvw.getD n;rw[gr (v.getD (n+1) 0) (by omega),gr (v.getD n 0) (by omega)];refine qI<|qX 4 rfl ?_;rw[bf,g0,aD (by omega) (by omega)];refine ae.nil<|AW.block ?_;have hv2:=Lv hvl;obtain⟨top,htop⟩: ∃top,top=v.getD (n+1) 0:=⟨_,rfl⟩;obtain⟨nx,hnx⟩: ∃nx,nx=v.getD n 0:=⟨_,rfl⟩;rw[hvv,←htop,←hnx]at hv2;rw[←htop]at htw;rw[←hnx]at hnw;rw[←htop,←hnx];obtain⟨R,hR⟩: ∃R,R=4294967296^n:=⟨_,rfl⟩;have hR0:0<R:=by rw[hR];exact c' (by decide)
 have hvl0:nv (v.take n)<R:=by rw[hR];exact nF hvw n
 obtain⟨Vl,hVl⟩: ∃Vl,Vl=nv (v.take n):=⟨_,rfl⟩;rw[←hVl,←hR]at hv2;rw[←hVl]at hvl0;have htop0:2147483648≤top:=K4 hVb.2 hv2 hvl0 hnw hR;have hVB:V<4294967296^(n+2):=hVb.1
 have hu00:nv u0=nv a*2^s:=by rw[hu0,jy];exact ax<|KW (dH ha) hN (by omega)
 have hstart:nv (u0.drop Q)<V:=FD hu00 (dH ha) (by omega) (show a.length=Q+(n+1) by omega) hVb.2 (by omega);clear hVb
 refine AW.aK [8,9,10,11,12,13,14] (fun z:Nat×List Nat×List Nat=>[(8,.d (dI s)),(9,.d (Wd v)),(10,.wn false 117 (z.2.1.map wd) 0 N),(11,.ow 117 (z.2.2.map wd)),(12,.d (dU top)),(13,.d (dU nx)),(14,.d (dI ((z.1:Int) -1)))])
  (fun z=>z.1≤Q∧z.2.1.length=N∧bc z.2.1∧z.2.2.length=Q∧bc z.2.2∧nv (z.2.1.drop z.1)<V∧nv z.2.1+4294967296^z.1*nv (z.2.2.drop z.1)*V=nv a*2^s) (fun z=>z.1) (Q,u0,ct Q 0) rfl
  ⟨b2 _,hul0,huw0,by simp,bc.replicate _,hstart,by simp[nv,hu00]⟩ (fun (k,u,q) ⟨hk,hul,huw,hql,hqw,hlt,hval⟩=>?_)
 simp only[]at hk hul huw hql hqw hlt hval;refine AW.seq<|qX 2 rfl<|ae.nil<|AW.cond rfl (fun h=>?_) fun h=>?_
 ·have hk0:0<k:=by have:=ao h;omega
  obtain⟨j,rfl⟩: ∃j,k=j+1:=⟨k-1,by omega⟩;rw[show((j+1:Nat):Int) -1=(j:Int) by omega];refine AW.skip<|AW.seq<|AW.block<|qX 7 rfl ?_;rw[bf v,hvl,aD (x:=(j:Int)+((n+2:Nat):Int)) (by omega) (by omega),aD (x:=(j:Int)+((n+2:Nat):Int)+1) (by omega) (by omega),show(j:Int)+((n+2:Nat):Int)+1=((j+(n+3):Nat):Int) by omega];refine ae.Og tok rfl rfl rfl rfl (aa _) (aa _) (by simp only[gA,dm,a3];omega) (by simp only[dm,a3];omega) ?_;rw[show 0+gA (some (j:Int))=j by simp[gA],show dm N (some ((j+(n+3):Nat):Int)) -gA (some (j:Int))=n+3 by simp[gA,dm];omega];refine qU 1 rfl<|ae.nil<|AW.norm [8,9,10,11,12,13,14,15] [(8,.d (dI s)),(9,.d (Wd v)),(10,.wn false 117 (u.map wd) 0 N),(11,.ow 117 (q.map wd)),(12,.d (dU top)),(13,.d (dU nx)),(14,.d (dI j)),(15,.sb 10 j (n+3))] rfl ?_;refine AW.seq<|AW.draw aO 15 (by kernel_rfl) ?_;refine qP 3 rfl ?_;rw[bf v,hvl];have hx2:=huw.getD (j+(n+2));have hx1:=huw.getD (j+(n+1));have hx0:=huw.getD (j+n);refine ai.qh tok rfl rfl rfl rfl rfl rfl (aa _) (by simp only[a3];omega) ?_;rw[a3];refine ai.dE tok (wd (u.getD (j+(n+2)) 0)) rfl rfl rfl rfl rfl (bQ (by omega)) rfl ?_;refine qP 6 rfl ?_;rw[bf v,hvl,aD (x:=((n+2:Nat):Int) -1) (by omega) (by omega),show((n+2:Nat):Int) -1=((n+1:Nat):Int) by omega];refine ai.qh tok rfl rfl rfl rfl rfl rfl (aa _) (by simp only[a3];omega) ?_;rw[a3];refine ai.dE tok (wd (u.getD (j+(n+1)) 0)) rfl rfl rfl rfl rfl (bQ (by omega)) rfl ?_;refine qP 2 rfl<|ai.nil<|qU 1 rfl ?_;obtain⟨x2,hx2e⟩: ∃x,x=u.getD (j+(n+2)) 0:=⟨_,rfl⟩;obtain⟨x1,hx1e⟩: ∃x,x=u.getD (j+(n+1)) 0:=⟨_,rfl⟩;obtain⟨x0,hx0e⟩: ∃x,x=u.getD (j+n) 0:=⟨_,rfl⟩;rw[←hx2e]at hx2 ⊢;rw[←hx1e]at hx1 ⊢;rw[←hx0e]at hx0;rw[gr x2 (by omega),gr x1 (by omega),AS x2 hx2,PZ x2 x1 hx2 hx1];obtain⟨head,hhead⟩: ∃h,h=x2*4294967296+x1:=⟨_,rfl⟩;rw[←hhead];refine ae.nil<|AW.norm [8,9,10,11,12,13,14,15,16] [(8,.d (dI s)),(9,.d (Wd v)),(10,.wn false 117 (u.map wd) 0 N),(11,.ow 117 (q.map wd)),(12,.d (dU top)),(13,.d (dU nx)),(14,.d (dI j)),(15,.sb 10 j (n+3)),(16,.d (dU head))] rfl ?_;obtain⟨U,hU⟩: ∃U,U=nv (dW u j (n+3)):=⟨_,rfl⟩;have hUV:U<4294967296*V:=(D0 (w:=dg (n+3) 0) (r:=0) huw (by omega) hVB hlt hU rfl (by omega)).2.1
  have hU3: ∃Ul,Ul<R∧U=Ul+R*(x0+4294967296*head):=by have h1:=Lu (bX (l:=u) (lo:=j) (m:=n+3) (by omega));rw[ia _ _ _ _ (by omega),ia _ _ _ _ (by omega),ia _ _ _ _ (by omega),←hx0e,←hx1e,←hx2e,←hU,←hR]at h1;exact⟨nv ((dW u j (n+3)).take n),by rw[hR];exact nF (huw.dW _ _) n,by rw[h1,hhead,bi x2,jt x1]⟩
  obtain⟨Ul,hUl,hU3⟩:=hU3;have hhd:head<18446744073709551616:=by omega
  have hfirst:=DR hv2 hU3 hUl hx0 (by omega);refine AW.seq<|AW.draw aO 7 (by kernel_rfl) ?_;refine qP 2 rfl<|ai.div tok rfl rfl rfl rfl rfl (by omega) ?_;refine qP 2 rfl<|ai.div tok rfl rfl rfl rfl rfl (by omega) ?_;rw[MN head top hhd,MM head top];refine qP 1 rfl<|ai.nil<|qU 1 rfl<|ae.nil ?_;have hx0e':=hx0e;clear hx2e hx1e hx0e hx1 hx2 hhead
  refine AW.cut [8,9,10,11,12,13,14,15,17] (fun g:Nat=>[(8,.d (dI s)),(9,.d (Wd v)),(10,.wn false 117 (u.map wd) 0 N),(11,.ow 117 (q.map wd)),(12,.d (dU top)),(13,.d (dU nx)),(14,.d (dI j)),(15,.sb 10 j (n+3)),(17,.d (dU g))])
   (fun g=>g<4294967296∧g*V≤U+V∧U<(g+1)*V) ?_ (fun g ⟨hg1,hg2,hg3⟩=>?_)
  ·refine AW.block ?_
   refine AW.aK [8,9,10,11,12,13,14,15,16,17,18] (fun z:Nat×Nat=>[(8,.d (dI s)),(9,.d (Wd v)),(10,.wn false 117 (u.map wd) 0 N),(11,.ow 117 (q.map wd)),(12,.d (dU top)),(13,.d (dU nx)),(14,.d (dI j)),(15,.sb 10 j (n+3)),(16,.d (dU head)),(17,.d (dU z.1)),(18,.d (dU z.2))])
    (fun z=>z.1*top+z.2=head∧U<(z.1+1)*V) (fun z=>z.1) (head/top,head%top) rfl ⟨by rw[bi];exact cM head top,hfirst⟩ (fun (g,r) ⟨hg1,hg2⟩=>?_)
   simp only[]at hg1 hg2;have hgb:g<8589934592:=DQ hg1 htop0 hhd;refine AW.seq ?_
   refine AW.cut [8,9,10,11,12,13,14,15,16,17,18,133] (fun c:Bool=>[(8,.d (dI s)),(9,.d (Wd v)),(10,.wn false 117 (u.map wd) 0 N),(11,.ow 117 (q.map wd)),(12,.d (dU top)),(13,.d (dU nx)),(14,.d (dI j)),(15,.sb 10 j (n+3)),(16,.d (dU head)),(17,.d (dU g)),(18,.d (dU r)),(133,.d (dB c))])
    (fun c=>(c=true→r<4294967296∧(4294967296≤g∨r*4294967296+x0<g*nx))∧(c=false→4294967296≤r∨(g<4294967296∧g*nx≤r*4294967296+x0))) ?_ (fun c ⟨hct,hcf⟩=>?_)
   ·refine qT 3 rfl ?_;refine ae.split (t:=114) rfl (fun h=>?_) fun h=>?_
    ·have hr:r<4294967296:=by have:=ao h;omega
     refine qU 3 rfl ?_;refine ae.split (t:=117) rfl (fun h=>?_) fun h=>?_
     ·have hg:4294967296≤g:=by have:=ao h;omega
      refine qU 16 rfl<|ae.nil ?_;exact⟨true,rfl,⟨fun _=>⟨hr,.inl hg⟩,(fun h=>by cases h)⟩⟩
     ·have hg:g<4294967296:=by have:=ar h;omega
      refine qU 9 rfl ?_;have hgn:g*nx≤4294967295*4294967295:=eq (by omega) (by omega);rw[bf v,hvl,aD (x:=((n+2:Nat):Int) -2) (by omega) (by omega),show((n+2:Nat):Int) -2=((n:Nat):Int) by omega,LD g nx (by omega),AS r hr];refine ae.qh tok rfl rfl rfl rfl (aa _) (by simp only[a3];omega) ?_;rw[a3];refine ae.dE tok (wd x0) rfl rfl rfl rfl (by rw[hx0e'];exact bQ (by omega)) rfl ?_;refine qU 5 rfl ?_;rw[gr x0 (by omega),PZ r x0 hr hx0];refine ae.nil ?_;refine⟨_,rfl,fun h=>⟨hr,.inr ?_⟩,fun h=>.inr ⟨hg,?_⟩⟩
      ·have:=ao h;omega
      ·have:=ar h;omega
    ·have hr:4294967296≤r:=by have:=ar h;omega
     refine qU 19 rfl<|ae.nil ?_;exact⟨false,rfl,⟨(fun h=>by cases h),fun _=>.inl hr⟩⟩
   ·refine AW.cond rfl (fun h=>?_) (fun h=>?_)
    ·subst h;obtain⟨hr,hc⟩:=hct rfl;have hnew:=Fg hv2 hU3 hUl hUV hg1 hr hc;obtain⟨g',rfl⟩: ∃g',g=g'+1:=⟨g-1,by omega⟩;refine AW.skip<|AW.block<|qX 3 rfl ?_;rw[show((g'+1:Nat):Int) -1=(g':Int) by omega,gr g' (by omega)];refine ae.nil<|qT 4 rfl ?_;rw[vQ r top (by omega)];refine ae.nil ?_;exact⟨(g',r+top),rfl,⟨by simp only[];rw[dj]at hg1;omega,hnew.2⟩,by simp only[];omega⟩
    ·subst h;have hend:=Fh hv2 hU3 hUl hvl0 hUV (by omega) hnw hg1 (hcf rfl);refine AW.exit ?_;exact⟨g,rfl,hend.1,hend.2,hg2⟩
  obtain⟨u',hu'⟩: ∃u',u'=put u j (n+3) (dg (n+3) (U%V)):=⟨_,rfl⟩;have hVp:0<V:=by omega
  refine AW.cut [8,9,10,11,12,13,14,17] (fun _:Unit=>[(8,.d (dI s)),(9,.d (Wd v)),(10,.wn false 117 (u'.map wd) 0 N),(11,.ow 117 (q.map wd)),(12,.d (dU top)),(13,.d (dU nx)),(14,.d (dI j)),(17,.d (dU (U/V:Nat)))]) (fun _=>True) ?_ fun _ _=>?_
  ·refine qX 3 rfl (ae.AD tok rfl rfl rfl rfl (sX u v j (n+3) g huw hvw hg1 (by omega) (by omega) (by omega)) (by omega) (gG _) rfl ?_);refine ae.nil<|AW.cond rfl (fun h=>?_) fun h=>?_
   ·have hneg:=ao h;rw[hvv,←hU]at hneg;obtain⟨hm1,hm2⟩:=Ka (B:=4294967296^(n+3)) hneg hg2 hVp (js (cn hVB (jI (by omega))));obtain⟨g',rfl⟩: ∃g',g=g'+1:=⟨g-1,by have:g≠0:=(by rintro rfl;omega);omega⟩;refine qX 3 rfl ?_;rw[show((g'+1:Nat):Int) -1=(g':Int) by omega,gr g' (by omega)];refine ae.nil<|qT 2 rfl ?_;rw[hvv,←hU,ah hneg];refine ae.AD tok rfl rfl rfl rfl (vK (put u j (n+3) (dg (n+3) (U+4294967296^(n+3) -(g'+1)*V))) v j (n+3) (huw.put (fY _ _) _ _) hvw (by rw[eW (by omega) (aU _ _)];omega) (by omega) (by omega)) (by omega) (gG _) rfl ?_;refine ae.nil ?_
    have e1:put (put u j (n+3) (dg (n+3) (U+4294967296^(n+3) -(g'+1)*V))) j (n+3) (dg (n+3) (nv (dW (put u j (n+3) (dg (n+3) (U+4294967296^(n+3) -(g'+1)*V))) j (n+3))+nv v))=u':=by
     rw[vS (by omega) (aU _ _),Ln (by omega) (aU _ _),hu',hvv]
     congr 1
     refine Kb ?_;rw[jy,Nat.mod_add_mod,hm1,Nat.add_mod_left]
    rw[e1];exact⟨(),by rw[hm2,Nat.add_sub_cancel];rfl,trivial⟩
   ·have hnn:=ar h;rw[hvv,←hU]at hnn;obtain⟨hm1,hm2⟩:=H2 hnn hg3 hVp;refine AW.skip ?_;rw[hvv,←hU,af hnn,dx U,hm1,←hu'];exact⟨(),by rw[hm2];rfl,trivial⟩
  ·refine qT 4 rfl ?_;refine ae.gI tok rfl rfl rfl rfl (aa _) (by simp;omega) ?_;have hqv:U/V<4294967296:=(g7 hVp).2 hUV;refine ae.kx tok (U/V) rfl rfl rfl (by omega) (by rw[fK,ax hqv]) ?_;refine ae.nil<|qT 3 rfl ?_;rw[aD (x:=(j:Int) -1) (by omega) (by omega)];refine ae.nil ?_;have hr:U%V<V:=cJ _ hVp;obtain⟨_,_,hd1,hd2⟩:=D0 (w:=dg (n+3) (U%V)) huw (by omega) hVB hlt hU rfl hr;rw[←hu']at hd1 hd2;refine⟨(j,u',q.set j (U/V)),rfl,⟨by omega,by rw[hu',eW (by omega) (aU _ _),hul],by rw[hu'];exact huw.put (fY _ _) _ _,by simpa using hql,hqw.set _ hqv,by rw[hd1];exact hr,?_⟩,by simp only[];omega⟩;simp only[];rw[Dr (by omega),←hval];exact H0 hd2 (cM U V)<|a2 ..
 ·have hk0:k=0:=by have:=ar h;omega
  subst hk0;simp only[eo,Nat.pow_zero,gb]at hlt hval;have hsp:0<2^s:=c' (by decide);obtain⟨hq1,hr1⟩:=H3 hV hlt hval hsp;refine AW.exit<|qX 1 rfl<|ae.iu tok 11 rfl rfl ?_;refine qM rfl (bV q hqw (by omega)) ?_;refine qU 2 rfl<|ae.HX tok 10 rfl rfl ?_;have eu:((u.map wd).drop 0).take N=u.map wd:=by rw[eo,ab (by simp;omega)]
  rw[eu];refine qM rfl (vJ u s huw (by omega) (by omega)) ?_;refine qU 2 rfl<|ae.nil ?_;rw[hq1,hr1];exact AW.ret rfl
abbrev Wh(g:Bool)(m:List Nat):D:=.ag [dB g,Wd m]
def iw(z:Int):List Nat:=tw z.natAbs
abbrev fk(z:Int):D:=.ag [dB (decide (z<0)),Wd (iw z)]
def L(z:Int):Nat:=(iw z).length
abbrev er(n:Int):D:=.v (.iface 81 (.int .i64 n))
abbrev bd:D:=.v .nilIface
def jv(a b:Int):Int:=if a<b then -1 else if a=b then 0 else 1
def ky(a:Int):Int:=if a<0 then -1 else if a=0 then 0 else 1
theorem bY(z:Int):bc (iw z):=fQ _
theorem uZ(z:Int):Nm (iw z):=uY _
theorem dq(z:Int):nv (iw z)=z.natAbs:=eZ _
theorem pb{z:Int}:iw z=[]↔z=0:=by rw[←jV (uZ z),dq];omega
theorem wg:iw 0=[]:=jQ
theorem Oe:L 0=0:=by simp[L,wg]
theorem FQ{z:Int}(h:z.natAbs<4294967296^k):L z≤k:=iE h
theorem Fa(z:Int):z.natAbs<4294967296^L z:=fx _
theorem pG{a:Int}(h:a.natAbs≤b.natAbs):L a≤L b:=FQ (c3 h (Fa b))
theorem pE(a:Int):L (-a)=L a:=by simp[L,iw]
theorem Ec(a b:Int):L (a+b)≤max (L a) (L b)+1:=by refine FQ ?_;have h1:=Fa a;have h2:=Fa b;have h3:=jI (show L a≤max (L a) (L b) by omega);have h4:=jI (show L b≤max (L a) (L b) by omega);rw[a2];omega
theorem gQ(a b:Int):L (a*b)≤L a+L b:=by refine FQ ?_;rw[g8,eL];exact Nat.mul_lt_mul'' (Fa a)<|Fa b
theorem yN:L 1=1:=by
 have:iw 1=[1]:=by rw[iw,show(1:Int).natAbs=1 from rfl,tH (by decide),show 1/4294967296=0 from rfl,jQ]
 rw[L,this];rfl
theorem Pv(n:Int)(h:n.natAbs≤9223372036854775808):L n≤2:=FQ (by omega)
theorem BC(hn:Nm m)(h:m≠[]):m.getD (m.length-1) 0≠0:=fun e=>hn (by
 have:0<m.length:=cw.2 h;rw[c4,az (by omega)]
 simpa[cp,show m.length-1<m.length by omega]using e)
theorem LM(h:m.getD (m.length-1) 0≠0):Nm m:=fun e=>by rw[c4]at e;rw[cp,e]at h;simp at h
def okW(g:Bool)(m:List Nat):Bool:=if m=[]then !g else m.getD (m.length-1) 0 != 0
theorem Bs(z:Int):okW (decide (z<0)) (iw z)=true:=by
 unfold okW;by_cases h:iw z=[]
 ·rw[ah h,pb.1 h];rfl
 ·rw[af h];simpa using BC (uZ z) h
theorem gH(g:Bool)(m:List Nat)(hm:bc m)(hl:m.length≤35000000000000):Pure Tryz.prog 146 [Wh g m] (dB (okW g m)):=by
 refine qJ 19 Tryz.func146 rfl fun B F0 w0=>?_;refine qX 2 rfl<|qI<|qX 4 rfl<|ae.nil<|AW.cond rfl (fun h=>?_) fun h=>?_
 ·have h0:m=[]:=by simpa using h
  rw[okW,ah h0];exact qX 4 rfl<|qN rfl
 ·have h0:m≠[]:=by simpa using h
  have hp:0<m.length:=cw.2 h0;rw[okW,af h0];refine AW.skip<|qX 6 rfl ?_;rw[bf,aD (by omega) (by omega),show(m.length:Int) -1=((m.length-1:Nat):Int) by omega];refine ae.idx tok (wd (m.getD (m.length-1) 0)) rfl rfl rfl rfl (aa _) (bQ (by omega)) ?_;refine qU 3 rfl<|ae.nil ?_
  have e:(m.getD (m.length-1) 0 != 0)=(((m.getD (m.length-1) 0:Nat):Int) != 0):=by rw[eb];simp
  rw[e];exact AW.ret rfl
theorem bw(z:Int)(hl:L z≤35000000000000):Pure Tryz.prog 163 [fk z] (Wd (iw z)):=by refine qJ 8 Tryz.func163 rfl (fun B F0 w0=>?_);refine qX 2 rfl<|qI<|qX 1 rfl<|qM rfl (gH (decide (z<0)) (iw z) (bY z) hl) ?_;rw[Bs];exact qU 1 rfl<|ae.nil<|AW.aC rfl<|AW.skip<|qX 3 rfl<|qN rfl
theorem bu(z:Int)(hl:L z≤35000000000000):Pure Tryz.prog 164 [fk z] (dB (decide (z<0))):=by refine qJ 9 Tryz.func164 rfl (fun B F0 w0=>?_);refine qX 2 rfl<|qK 1 rfl<|qM rfl (gH (decide (z<0)) (iw z) (bY z) hl) ?_;rw[Bs];exact qU 5 rfl<|qN rfl
def sg(g:Bool)(n:Nat):Int:=if g then -(n:Int)else n
theorem pL(g:Bool)(n:Nat):(sg g n).natAbs=n:=by unfold sg;split<;>omega
theorem MC(g:Bool)(n:Nat):iw (sg g n)=tw n:=by rw[iw,pL]
theorem IL(g:Bool)(n:Nat):decide (sg g n<0)=(g&&decide (n≠0)):=by rw[eb];unfold sg;cases g<;>simp;omega
theorem EF(z:Int):sg (decide (z<0)) z.natAbs=z:=by
 unfold sg;split
 ·rename_i h;have:=ao h;omega
 ·rename_i h;have:=ar (by simpa using h:decide (z<0)=false);omega
theorem Ep(g:Bool)(n:Nat):fk (sg g n)=Wh (g&&decide (n≠0)) (tw n):=by rw[fk,IL,MC]
theorem jK(g:Bool)(m:List Nat)(hm:bc m)(hl:m.length≤35000000000000):Pure Tryz.prog 165 [dB g,Wd m] (fk (sg g (nv m))):=by
 refine qJ 15 Tryz.func165 rfl fun B F0 w0=>?_;refine qX 1 rfl<|qK 1 rfl<|qM rfl (bV m hm hl) ?_;refine qU 1 rfl<|qI ?_
 have hz:decide (((tw (nv m)).map wd).length>(0:Int))=decide (nv m≠0):=by rw[eb,bf];have:=jV (uY (nv m));rw[eZ]at this;simp[this];exact cw
 refine qT 2 rfl ?_;refine ae.split (t:=8) rfl (fun h=>?_) fun h=>?_
 ·subst h;refine qU 7 rfl<|ae.nil ?_;rw[hz,Ep,Bool.true_and];exact AW.ret rfl
 ·subst h;refine qU 7 rfl<|ae.nil ?_;rw[Ep,Bool.false_and];exact AW.ret rfl
theorem um(g:Bool)(z:Int)(hl:L z≤35000000000000):Pure Tryz.prog 165 [dB g,Wd (iw z)] (fk (sg g z.natAbs)):=by
 have:=jK g (iw z) (bY z) hl
 rwa [dq]at this
theorem cW(g:Bool)(n:Nat)(hl:(tw n).length≤35000000000000):Pure Tryz.prog 165 [dB g,Wd (tw n)] (fk (sg g n)):=by
 have:=jK g (tw n) (fQ n) hl
 rwa [eZ]at this
theorem zH(m:Nat)(h:m<18446744073709551616):nv [m%4294967296,m/4294967296%4294967296]=m:=by simp only[nv];omega
theorem ON(m:Nat)(h0:0<m)(h:m≤18446744073709551616):a1.wrap (0-(m:Int))=((18446744073709551616-m:Nat):Int):=by simp only[ef,eh,dT];simp;omega
theorem Kd(n:Int)(h0:n<0)(h: -9223372036854775808≤n):a1.wrap n=((18446744073709551616-n.natAbs:Nat):Int):=by simp only[ef,eh,dT];simp;omega
theorem qA(n:Int)(h0: -9223372036854775808≤n)(h1:n≤9223372036854775807):Pure Tryz.prog 151 [dI n] (fk n):=by
 refine qJ 19 Tryz.func151 rfl fun B F0 w0=>?_
 have hfin: ∀(m:Nat),m<18446744073709551616→m=n.natAbs→Pure Tryz.prog 165 [dB (decide (n<0)),Wd [m%4294967296,m/4294967296%4294967296]] (fk n):=fun m hm he=>by have:=jK (decide (n<0)) [m%4294967296,m/4294967296%4294967296] (bc.cons.2 ⟨cJ _ (by decide),bc.cons.2 ⟨cJ _ (by decide),bc.nil⟩⟩) (by simp);rw[zH m hm,he,EF]at this;rw[he];exact this
 refine qX 1 rfl<|qK 3 rfl<|ae.nil ?_;refine AW.cut [0,2,3] (fun _:Unit=>[(0,.d (dI n)),(2,.bx [dB false,.sl 1 []]),(3,.d (dU n.natAbs))]) (fun _=>True) ?_ fun _ _=>?_
 ·refine qX 2 rfl (ae.nil (AW.cond rfl (fun h=>?_) (fun h=>?_)))
  ·have hn:=ao h;refine qT 3 rfl ?_;rw[Kd n hn h0,ON _ (by omega) (by omega),show 18446744073709551616-(18446744073709551616-n.natAbs)=n.natAbs by omega];refine ae.nil ?_;exact⟨(),rfl,trivial⟩
  ·have hn:=ar h;refine AW.skip ?_;rw[vu (x:=n) (by omega) (by omega)];exact⟨(),by rw[show((n.natAbs:Nat):Int)=n by omega];rfl,trivial⟩
 ·refine qX 7 rfl ?_;rw[fK,lf,fK];refine ae.bs tok rfl rfl rfl rfl ?_;refine ae.iu tok 17 rfl rfl ?_;refine qM rfl (hfin n.natAbs (by omega) rfl) ?_;exact qU 1 rfl<|qN rfl
theorem dv(z:Int)(hl:L z≤35000000000000):Pure Tryz.prog 127 [fk z] (dI (ky z)):=by
 refine qJ 11 Tryz.func127 rfl fun B F0 w0=>?_;refine qX 2 rfl<|qI<|AW.block<|qX 1 rfl<|qM rfl (bw z hl) ?_;refine qU 3 rfl<|ae.nil<|AW.cond rfl (fun h=>?_) fun h=>?_
 ·have h0:z=0:=pb.1 (by simpa using h);rw[show ky z=0 by subst h0;rfl];exact qX 1 rfl<|qN rfl
 ·have h0:z≠0:=fun e=>by rw[pb.2 e]at h;cases h
  refine qX 3 rfl<|ae.nil<|AW.cond rfl (fun h=>?_) fun h=>?_
  ·have hn:=ao h;rw[show ky z= -1 by unfold ky;rw[ah hn]];exact qX 1 rfl<|qN rfl
  ·have hn:=ar h;rw[show ky z=1 by unfold ky;rw[af hn,af h0]];exact AW.skip<|qX 1 rfl<|qN rfl
theorem G2(x y:Int):jN (nv (iw x)) (nv (iw y))=jv x.natAbs y.natAbs:=by
 rw[dq,dq];unfold jN jv
 repeat' split
 all_goals first|rfl|omega
theorem yw(x y:Int)(hx:L x≤35000000000000):Pure Tryz.prog 167 [Wd (iw x),Wd (iw y)] (dI (jv x.natAbs y.natAbs)):=by rw[←G2];exact lE (iw x) (iw y) (bY x) (bY y) (uZ x) (uZ y) hx
theorem H6{x y:Int}(h:ky x≠ky y):jv x y=if ky x<ky y then -1 else 1:=by
 unfold ky at h ⊢;unfold jv
 repeat' split at h
 all_goals first|(exact aG rfl h)|skip
 all_goals (repeat' split)
 all_goals first|rfl|omega
theorem Kl{x y:Int}(h:ky x=ky y):jv x y=if x<0 then -(jv x.natAbs y.natAbs)else jv x.natAbs y.natAbs:=by
 unfold ky at h;unfold jv
 repeat' split at h
 all_goals first|(cases h;done)|skip
 all_goals (repeat' split)
 all_goals first|rfl|omega
theorem FJ(x y:Int):jv x y= -1∨jv x y=0∨jv x y=1:=by
 unfold jv;repeat' split
 all_goals simp
theorem pf(x y:Int)(hx:L x≤35000000000000)(hy:L y≤35000000000000):Pure Tryz.prog 147 [fk x,fk y] (dI (jv x y)):=by
 refine qJ 28 Tryz.func147 rfl fun B F0 w0=>?_;refine qX 3 rfl<|qI<|AW.seq<|AW.draw aO 4 (by kernel_rfl) ?_;refine qP 1 rfl<|qQ rfl (dv x hx) ?_;refine qP 1 rfl<|qQ rfl (dv y hy) ?_;refine ai.nil<|qU 2 rfl<|qK 3 rfl<|ae.nil<|AW.cond rfl (fun h=>?_) fun h=>?_
 ·have hne:ky x≠ky y:=by simpa using h
  rw[H6 hne];refine AW.seq<|qX 3 rfl<|ae.nil<|AW.cond rfl (fun h=>?_) fun h=>?_
  ·rw[ah (ao h)];exact qX 1 rfl<|qN rfl
  ·rw[af (ar h)];exact AW.skip<|qX 1 rfl<|qN rfl
 ·have heq:ky x=ky y:=by simpa using h
  rw[Kl heq];refine AW.skip<|AW.seq<|AW.draw aO 5 (by kernel_rfl) ?_;refine qP 1 rfl<|qQ rfl (bw x hx) ?_;refine qP 1 rfl<|qQ rfl (bw y hy) ?_;refine qQ rfl (yw x y hx) ?_;refine ai.nil<|qU 1 rfl<|qI<|qX 1 rfl<|qM rfl (bu x hx) ?_;refine ae.nil<|AW.cond rfl (fun h=>?_) fun h=>?_
  ·rw[ah (ao h)];refine qX 3 rfl ?_;have hr:=FJ x.natAbs y.natAbs;rw[aD (by omega) (by omega),Int.zero_sub];exact qN rfl
  ·rw[af (ar h)];exact AW.skip<|qX 2 rfl<|qN rfl
theorem IK(z:Int):sg (!decide (z<0)) z.natAbs= -z:=by
 unfold sg;by_cases h:z<0
 ·simp[h];omega
 ·simp[h];omega
theorem je(z:Int)(hl:L z≤35000000000000):Pure Tryz.prog 161 [fk z] (fk (-z)):=by refine qJ 9 Tryz.func161 rfl (fun B F0 w0=>?_);refine qX 2 rfl<|qI<|AW.draw aO 6 (by kernel_rfl) ?_;refine qP 1 rfl<|qQ rfl (bu z hl) ?_;refine qP 2 rfl<|qQ rfl (bw z hl) ?_;refine qQ rfl (um (!decide (z<0)) z hl) ?_;refine ai.nil<|qU 1 rfl<|ae.nil ?_;rw[IK];exact AW.ret rfl
theorem Lr(x y:Int)(hx:L x≤34900000000000)(hy:L y≤34900000000000):Pure Tryz.prog 166 [Wd (iw x),Wd (iw y)] (Wd (tw (x.natAbs+y.natAbs))):=by
 have:=n9 (iw x) (iw y) (bY x) (bY y) hx hy
 rwa [dq,dq]at this
theorem GF(x y:Int)(hx:L x≤34900000000000)(hle:y.natAbs≤x.natAbs):Pure Tryz.prog 168 [Wd (iw x),Wd (iw y)] (Wd (tw (x.natAbs-y.natAbs))):=by
 have:=oc (iw x) (iw y) (bY x) (bY y) hx (by rwa [dq,dq])
 rwa [dq,dq]at this
theorem Iq(x y:Int)(hx:L x≤17450000000000)(hy:L y≤17450000000000):Pure Tryz.prog 169 [Wd (iw x),Wd (iw y)] (Wd (tw (x.natAbs*y.natAbs))):=by
 have:=uo (iw x) (iw y) (bY x) (bY y) hx hy
 rwa [dq,dq]at this
theorem Ay(x y:Int)(hx:L x≤34800000000000)(hy:L y≤34800000000000)(h0:y≠0):Pure Tryz.prog 191 [Wd (iw x),Wd (iw y)] (.tu [Wd (tw (x.natAbs/y.natAbs)),Wd (tw (x.natAbs%y.natAbs))]):=by
 have:=sY (iw x) (iw y) (bY x) (bY y) (uZ x) (uZ y) hx hy (fun e=>h0 (pb.1 e))
 rwa [dq,dq]at this
theorem kF{z:Int}(h:n≤z.natAbs):(tw n).length≤L z:=iE (c3 h (Fa z))
theorem GH(x y:Int):(tw (x.natAbs+y.natAbs)).length≤max (L x) (L y)+1:=by have:=Ec (x.natAbs:Int) (y.natAbs:Int);simpa[L,iw,Int.natAbs_add_of_nonneg]using this
theorem GG(x y:Int):(tw (x.natAbs*y.natAbs)).length≤L x+L y:=by
 have:=gQ x y
 rwa [L,iw,g8]at this
theorem add_same{a:Int}(h:decide (a<0)=decide (b<0)):sg (decide (a<0)) (a.natAbs+b.natAbs)=a+b:=by unfold sg;by_cases ha:a<0<;>by_cases hb:b<0<;>simp[ha,hb]at h ⊢ <;>omega
theorem Ci{a:Int}(h:decide (a<0)≠decide (b<0))(hc:b.natAbs≤a.natAbs):sg (decide (a<0)) (a.natAbs-b.natAbs)=a+b:=by unfold sg;by_cases ha:a<0<;>by_cases hb:b<0<;>simp[ha,hb]at h ⊢ <;>omega
theorem G4{a b:Nat}(h:(0:Int)≤jv a b):b≤a:=by unfold jv at h;split at h<;>omega
theorem G3{a b:Nat}(h: ¬(0:Int)≤jv a b):a<b:=by
 unfold jv at h;split at h
 ·omega
 ·split at h<;>omega
theorem x5(a b:Int)(ha:L a≤34900000000000)(hb:L b≤34900000000000):Pure Tryz.prog 125 [fk a,fk b] (fk (a+b)):=by
 refine qJ 40 Tryz.func125 rfl fun B F0 w0=>?_;refine qX 3 rfl<|qI<|AW.draw aO 4 (by kernel_rfl) ?_;refine qP 1 rfl<|qQ rfl (bw a (by omega)) ?_;refine qP 1 rfl<|qQ rfl (bw b (by omega)) ?_;refine ai.nil<|qU 2 rfl<|ae.nil<|AW.norm [2,3,4,5,6] [(2,.bx [dB (decide (a<0)),Wd (iw a)]),(3,.bx [dB (decide (b<0)),Wd (iw b)]),(4,.bx [dB false,.sl 1 []]),(5,.d (Wd (iw a))),(6,.d (Wd (iw b)))] rfl ?_;refine AW.seq<|AW.block<|AW.seq<|AW.draw aO 5 (by kernel_rfl) ?_;refine qP 1 rfl<|qQ rfl (bu a (by omega)) ?_;refine qP 1 rfl<|qQ rfl (bu b (by omega)) ?_;refine ai.be tok rfl rfl rfl rfl rfl ?_;refine ai.nil<|qU 1 rfl<|ae.nil<|AW.norm [2,3,4,5,6,11] [(2,.bx [dB (decide (a<0)),Wd (iw a)]),(3,.bx [dB (decide (b<0)),Wd (iw b)]),(4,.bx [dB false,.sl 1 []]),(5,.d (Wd (iw a))),(6,.d (Wd (iw b))),(11,.d (dB ((decide (a<0)==decide (b<0))==true)))] rfl ?_;refine AW.cond rfl (fun h=>?_) fun h=>?_
 ·have he:decide (a<0)=decide (b<0):=by simpa using h
  rw[←add_same he];have hl:=GH a b;refine qX 1 rfl<|qM rfl (bu a (by omega)) ?_;refine qU 2 rfl<|qM rfl (Lr a b ha hb) ?_;refine qM rfl (cW (decide (a<0)) _ (by omega)) ?_;exact qU 1 rfl<|qN rfl
 ·have he:decide (a<0)≠decide (b<0):=by simpa using h
  refine qX 2 rfl<|qM rfl (yw a b (by omega)) ?_;refine qU 2 rfl<|ae.nil<|AW.cond rfl (fun h=>?_) fun h=>?_
  ·have hc:=G4 (ao h);rw[←Ci he hc];have hl:=kF (z:=a) (n:=a.natAbs-b.natAbs) (by omega);refine qX 1 rfl<|qM rfl (bu a (by omega)) ?_;refine qU 2 rfl<|qM rfl (GF a b ha hc) ?_;refine qM rfl (cW (decide (a<0)) _ (by omega)) ?_;exact qU 1 rfl<|qN rfl
  ·have hc:=G3 (ar h);rw[j1,←Ci (hE he) (js hc)];have hl:=kF (z:=b) (n:=b.natAbs-a.natAbs) (by omega);refine AW.skip<|qX 1 rfl<|qM rfl (bu b (by omega)) ?_;refine qU 2 rfl<|qM rfl (GF b a hb (by omega)) ?_;refine qM rfl (cW (decide (b<0)) _ (by omega)) ?_;exact qU 1 rfl<|qN rfl
theorem Js(a b:Int):sg ((decide (a<0)==decide (b<0))==false) (a.natAbs*b.natAbs)=a*b:=by
 have h:=g8 a b;rw[←h];by_cases ha:a<0<;>by_cases hb:b<0
 ·have:0<a*b:=Int.mul_pos_of_neg_of_neg ha hb;simp[ha,hb,sg];omega
 ·have:a*b≤0:=Int.mul_nonpos_of_nonpos_of_nonneg (by omega) (by omega);simp[ha,hb,sg];omega
 ·have:a*b≤0:=Int.mul_nonpos_of_nonneg_of_nonpos (by omega) (by omega);simp[ha,hb,sg];omega
 ·have:0≤a*b:=nj (by omega) (by omega);simp[ha,hb,sg];omega
theorem cy(a b:Int)(ha:L a≤17450000000000)(hb:L b≤17450000000000):Pure Tryz.prog 126 [fk a,fk b] (fk (a*b)):=by refine qJ 16 Tryz.func126 rfl (fun B F0 w0=>?_);have hl:=GG a b;refine qX 3 rfl<|qI<|AW.draw aO 11 (by kernel_rfl) ?_;refine qP 1 rfl<|qQ rfl (bu a (by omega)) ?_;refine qP 1 rfl<|qQ rfl (bu b (by omega)) ?_;refine ai.be tok rfl rfl rfl rfl rfl ?_;refine qP 1 rfl<|qQ rfl (bw a (by omega)) ?_;refine qP 1 rfl<|qQ rfl (bw b (by omega)) ?_;refine qQ rfl (Iq a b ha hb) ?_;refine qQ rfl (cW ((decide (a<0)==decide (b<0))==false) _ (by omega)) ?_;refine ai.nil<|qU 1 rfl<|ae.nil ?_;rw[Js];exact AW.ret rfl
theorem tI(n:Nat):((((tw n).map wd).length:Int)>0)↔n≠0:=by have h:=jV (uY n);rw[eZ]at h;rw[bf,Ne,h];exact Iff.trans (by omega) cw
theorem DM(n:Nat):(tw (n+1)).length≤(tw n).length+1:=iE (by
 have:=fx n
 rw[a2];omega)
theorem NU{a q r:Int}(h:b*q+r=a)(h0:0≤r)(h1:r<b.natAbs):a/b=q∧a%b=r:=by
 have key: ∀(b q:Int),0<b→b*q+r=a→r<b→a/b=q∧a%b=r:=fun b q hb h h1=>by
  subst h;have e:(b*q+r)%b=r:=by rw[j1,Int.add_mul_emod_self_left,Int.emod_eq_of_lt h0 h1]
  refine⟨?_,e⟩;rw[j1,Int.add_mul_ediv_left _ _ (by omega),Int.ediv_eq_zero_of_lt h0 h1,Int.zero_add]
 by_cases hb:0<b
 ·exact key b q hb h (by omega)
 ·have h2:=key (-b) (-q) (by omega) (by rw[Int.neg_mul_neg];exact h) (by omega);rw[Int.ediv_neg,Int.emod_neg]at h2;exact⟨by omega,h2.2⟩
theorem B8{a:Int}(hb:b≠0)(m n:Nat)(h:(a<0∧a.natAbs%b.natAbs≠0∧m=a.natAbs/b.natAbs+1∧n=b.natAbs-a.natAbs%b.natAbs)∨((0≤a∨a.natAbs%b.natAbs=0)∧m=a.natAbs/b.natAbs∧n=a.natAbs%b.natAbs)):
  sg ((decide (a<0)==decide (b<0))==false) m=a/b∧sg false n=a%b:=by
 have hlt:a.natAbs%b.natAbs<b.natAbs:=cJ _ (by omega);have hdm:=cM a.natAbs b.natAbs;have hnn:sg false n=(n:Int):=rfl;rw[hnn];generalize a.natAbs/b.natAbs=q0 at h hdm;generalize a.natAbs%b.natAbs=r0 at h hdm hlt
 have hs: ∀g:Bool,b*sg g m=if ((decide (b<0))==g)then((b.natAbs*m:Nat):Int)else -((b.natAbs*m:Nat):Int):=fun g=>by
  rw[ms];unfold sg;by_cases h:b<0
  ·have e:b= -(b.natAbs:Int):=by omega
   cases g<;>simp[h]<;>(conv=>lhs;rw[e])<;>simp[Int.neg_mul,Int.mul_neg]
  ·have e:b=(b.natAbs:Int):=by omega
   cases g<;>simp[h]<;>(conv=>lhs;rw[e])<;>simp[Int.neg_mul,Int.mul_neg]
 refine(fun h=>⟨h.1.symm,h.2.symm⟩) (NU (q:=sg ((decide (a<0)==decide (b<0))==false) m) (r:=(n:Int)) ?_ (by omega) ?_)
 ·rw[hs]
  have hg:(decide (b<0)==((decide (a<0)==decide (b<0))==false))= !decide (a<0):=by by_cases h1:a<0<;>by_cases h2:b<0<;>simp[h1,h2]
  rw[hg];rcases h with⟨h1,h2,rfl,rfl⟩|⟨h1,rfl,rfl⟩
  ·rw[an,c6];generalize b.natAbs*q0=p at hdm ⊢;simp only[h1,decide_true,i8,la,if_false];omega
  ·generalize b.natAbs*m=p at hdm ⊢;by_cases ha:a<0
   ·simp only[ha,decide_true,i8,la,if_false];omega
   ·simp only[ha,decide_false,Bool.not_false,if_true];omega
 ·rcases h with⟨h1,h2,rfl,rfl⟩|⟨h1,rfl,rfl⟩<;>omega
theorem pe(a b:Int)(ha:L a≤34800000000000)(hb:L b≤34800000000000)(h0:b≠0):Pure Tryz.prog 162 [fk a,fk b] (.tu [fk (a/b),fk (a%b),bd]):=by
 refine qJ 47 Tryz.func162 rfl fun B F0 w0=>?_;refine qX 5 rfl<|qK 1 rfl<|qM rfl (bw b (by omega)) ?_;refine qU 1 rfl<|qI<|qX 3 rfl ?_
 have hne:(((iw b).map wd).length:Int)≠0:=by have:iw b≠[]:=fun e=>h0 (pb.1 e);have:=cw.2 this;rw[bf];omega
 rw[show((((iw b).map wd).length:Int)==0)=false by simpa using hne];refine ae.nil<|AW.aC rfl<|AW.skip<|qX 1 rfl<|qM rfl (bw a (by omega)) ?_;refine qU 1 rfl<|qM rfl (Ay a b ha hb h0) ?_;refine qU 5 rfl<|ae.nil ?_;have hlt:a.natAbs%b.natAbs<b.natAbs:=cJ _ (by omega);have hdl:a.natAbs/b.natAbs≤a.natAbs:=gM _ _;have hr0:=tI (a.natAbs%b.natAbs);have hl1:=kF (z:=a) hdl;have hl2:=kF (z:=b) (n:=a.natAbs%b.natAbs) (by omega)
 refine AW.cut [2,3,4,5,8,9] (fun s:Nat×Nat=>[(2,.bx [dB (decide (a<0)),Wd (iw a)]),(3,.bx [dB (decide (b<0)),Wd (iw b)]),(4,.bx [dB false,.sl 1 []]),(5,.bx [dB false,.sl 1 []]),(8,.d (Wd (tw s.1))),(9,.d (Wd (tw s.2)))])
  (fun s=>(tw s.1).length≤34800000000002∧(tw s.2).length≤34800000000002∧sg ((decide (a<0)==decide (b<0))==false) s.1=a/b∧sg false s.2=a%b) ?_ (fun (m,n) ⟨hm,hn,hq,hr⟩=>?_)
 ·refine AW.cut [2,3,4,5,7,8,9,31] (fun c:Bool=>[(2,.bx [dB (decide (a<0)),Wd (iw a)]),(3,.bx [dB (decide (b<0)),Wd (iw b)]),(4,.bx [dB false,.sl 1 []]),(5,.bx [dB false,.sl 1 []]),(7,.d (Wd (iw b))),(8,.d (Wd (tw (a.natAbs/b.natAbs)))),(9,.d (Wd (tw (a.natAbs%b.natAbs)))),(31,.d (dB c))])
   (fun c=>(c=true→a<0∧a.natAbs%b.natAbs≠0)∧(c=false→0≤a∨a.natAbs%b.natAbs=0)) ?_ (fun c ⟨ht,hf⟩=>?_)
  ·refine qT 1 rfl (qM rfl (bu a (by omega)) ?_);refine qU 1 rfl ?_;refine ae.split (t:=27) rfl (fun h=>?_) fun h=>?_
   ·have hneg:=ao h;refine qU 4 rfl<|ae.nil ?_;refine⟨_,rfl,⟨fun h=>⟨hneg,hr0.1 (ao h)⟩,fun h=>.inr ?_⟩⟩;have:=ar h;rw[hr0]at this;exact jn.1 this
   ·have hneg:=ar h;refine qU 4 rfl<|ae.nil ?_;exact⟨false,rfl,⟨(fun h=>by cases h),fun _=>.inl (by omega)⟩⟩
  ·refine AW.cond rfl (fun h=>?_) (fun h=>?_)
   ·subst h;obtain⟨hneg,hrn⟩:=ht rfl;have hl3:=DM (a.natAbs/b.natAbs);refine qT 1 rfl<|ae.bs tok rfl rfl rfl rfl ?_;refine ae.iu tok 33 rfl rfl ?_;refine qM rfl (n9 (tw (a.natAbs/b.natAbs)) [1] (fQ _) (bc.cons.2 ⟨by decide,bc.nil⟩) (by omega) (by decide)) ?_;refine qU 2 rfl ?_;refine qM rfl (oc (iw b) (tw (a.natAbs%b.natAbs)) (bY b) (fQ _) (cS hb (by decide)) (by rw[eZ,dq];omega)) ?_;rw[eZ,eZ,dq,show nv [1]=1 from rfl];refine qU 2 rfl<|ae.nil ?_;exact⟨(a.natAbs/b.natAbs+1,b.natAbs-a.natAbs%b.natAbs),rfl,⟨cS hl3 (by omega),cS (kF (z:=b) (by simp only[];omega)) (by omega),B8 h0 _ _ (.inl ⟨hneg,hrn,rfl,rfl⟩)⟩⟩
   ·subst h;refine AW.skip ?_;exact⟨(a.natAbs/b.natAbs,a.natAbs%b.natAbs),rfl,⟨by simp only[];omega,by simp only[];omega,B8 h0 _ _ (.inr ⟨hf rfl,rfl,rfl⟩)⟩⟩
 ·simp only[]at hm hn hq hr;refine AW.seq<|AW.draw aO 9 (by kernel_rfl) ?_;refine qP 1 rfl<|qQ rfl (bu a (by omega)) ?_;refine qP 1 rfl<|qQ rfl (bu b (by omega)) ?_;refine ai.be tok rfl rfl rfl rfl rfl ?_;refine qP 1 rfl<|qQ rfl (cW ((decide (a<0)==decide (b<0))==false) m (by omega)) ?_;refine qP 1 rfl<|qQ rfl (cW false n (by omega)) ?_;refine ai.nil<|qU 3 rfl<|ae.nil ?_;rw[hq,hr];exact AW.ret rfl
theorem pd(a b:Int)(ha:L a≤34800000000000)(hb:L b≤34800000000000):Pure Tryz.prog 148 [fk a,fk b] (fk (cv a.natAbs b.natAbs)):=by
 refine qJ 26 Tryz.func148 rfl fun B F0 w0=>?_;refine qX 3 rfl<|qI<|AW.draw aO 4 (by kernel_rfl) ?_;refine qP 1 rfl<|qQ rfl (bw a (by omega)) ?_;refine qP 1 rfl<|qQ rfl (bw b (by omega)) ?_;refine ai.nil<|qU 2 rfl<|qI<|AW.block ?_
 refine AW.aK [4,5,6] (fun s:Nat×Nat=>[(4,.bx [dB false,.sl 1 []]),(5,.d (Wd (tw s.1))),(6,.d (Wd (tw s.2)))])
  (fun s=>(tw s.1).length≤34800000000000∧(tw s.2).length≤34800000000000∧cv s.1 s.2=cv a.natAbs b.natAbs) (fun s=>s.2) (a.natAbs,b.natAbs) rfl ⟨ha,hb,rfl⟩ (fun (x,y) ⟨hx,hy,hg⟩=>?_)
 simp only[]at hx hy hg;have hy0:=tI y;refine AW.seq<|qX 3 rfl<|ae.nil<|AW.cond rfl (fun h=>?_) fun h=>?_
 ·have hyn:=hy0.1 (ao h);refine AW.skip<|AW.block<|qX 2 rfl<|qM rfl (Ay (x:Int) (y:Int) hx hy (by omega)) ?_;refine qU 5 rfl<|ae.nil<|qT 4 rfl<|ae.nil ?_;have hlt:x%y<y:=cJ _ (by omega);exact⟨(y,x%y),rfl,⟨hy,cS (kF (z:=(y:Int)) (by simp only[];omega)) hy,by simp only[];rw[←hg,io x y,Nat.gcd_rec y x,io]⟩,hlt⟩
 ·have hy1:y=0:=jn.1 (fun hn=>(ar h) (hy0.2 hn));subst hy1;rw[Nat.gcd_zero_right]at hg;refine AW.exit<|qX 1 rfl<|qM rfl (cW false x (by omega)) ?_;refine qU 1 rfl<|ae.nil ?_;rw[hg];exact AW.ret rfl
structure RD where
 g:Bool
 n:List Nat
 d:List Nat
abbrev RD.D(r:RD):D:=.ag [dB r.g,Wd r.n,Wd r.d]
def RD.w(r:RD)(k:Nat):Prop:=bc r.n∧bc r.d∧r.n.length≤k∧r.d.length≤k
def RD.okB(r:RD):Bool:=if r.n=[]∧r.d=[]then !r.g else decide (r.n≠[]∧r.d≠[]∧okW false r.n=true∧okW false r.d=true∧cv (nv r.n) (nv r.d)=1)
def RD.val(r:RD):Rat:=if r.okB=true then a4 (sg r.g (nv r.n)) (nv r.d)else 0
def Qr(q:Rat):RD:=⟨decide (q.num<0),iw q.num,if q.num=0 then []else tw q.den⟩
def LQ(q:Rat):Nat:=max (L q.num) (tw q.den).length
variable {r:RD}
theorem RD.w.mono{m:Nat}(h:r.w k)(hk:k≤m):r.w m:=⟨h.1,h.2.1,cS h.2.2.1 hk,cS h.2.2.2 hk⟩
theorem Lg(g:Bool):sg g 0=0:=by cases g<;>rfl
theorem RD.pH(h:r.n=[]):r.val=0:=by
 unfold RD.val;split
 ·rw[h,show nv []=0 from rfl,Lg,ix]
 ·rfl
theorem RD.vU(h:r.okB=false):r.val=0:=by unfold RD.val;rw[h];rfl
theorem tU(h:okW false m=true):Nm m:=by
 unfold okW at h;split at h
 ·rename_i h0;rw[h0];simp[Nm]
 ·exact LM (by simpa using h)
theorem Io{m:Nat}(h:m≠0):tw m≠[]:=fun e=>h (by rw[←eZ m,e];rfl)
theorem RD.parts(hw:r.w k)(h:r.okB=true)(hn:r.n≠[]):
  r.val.num=sg r.g (nv r.n)∧r.val.den=nv r.d∧r.g=decide (r.val.num<0)∧r.n=iw r.val.num∧r.d=tw r.val.den∧r.val.num≠0:=by
 have h':=h;unfold RD.okB at h;rw[af (fun e=>hn e.1)]at h;obtain⟨_,hd,hok1,hok2,hg⟩:=ao h
 have hv:r.val=a4 (sg r.g (nv r.n)) (nv r.d):=by unfold RD.val;rw[ah h']
 have nn:=tU hok1;have nd:=tU hok2;have hd0:nv r.d≠0:=fun e=>hd ((jV nd).1 e);have hn0:nv r.n≠0:=fun e=>hn ((jV nn).1 e)
 have hgcd:lx (nv r.d:Int) (sg r.g (nv r.n))=1:=by rw[lx,pL,cg,io];exact hg
 have h1:r.val.num=sg r.g (nv r.n):=by rw[hv,m2,hgcd,j0 (by omega)];simp
 have h2:r.val.den=nv r.d:=by rw[hv,m3,af (by omega),hgcd];simp
 refine⟨h1,h2,?_,?_,?_,?_⟩
 ·rw[h1,IL];simp[hn0]
 ·rw[h1,MC,Cz hw.1 nn]
 ·rw[h2,Cz hw.2.1 nd]
 ·rw[h1];intro e;have:=pL r.g (nv r.n);rw[e]at this;exact hn0 this.symm
theorem Eb(q:Rat):(Qr q).okB=true:=by
 unfold Qr RD.okB;by_cases h:q.num=0
 ·simp[h,wg]
 ·have h1:iw q.num≠[]:=fun e=>h (pb.1 e);have h2:tw q.den≠[]:=Io q.den_nz;simp only[h,if_false,h1,h2,false_and,ne_eq,not_false_eq_true,true_and,decide_eq_true_eq];have k1:okW false (iw q.num)=true:=by unfold okW;rw[af h1];simpa using BC (uZ _) h1
  have k2:okW false (tw q.den)=true:=by unfold okW;rw[af h2];simpa using BC (uY _) h2
  exact⟨k1,k2,by rw[dq,eZ];exact q.reduced⟩
theorem b5(q:Rat):(Qr q).val=q:=by
 unfold RD.val;rw[Eb];simp only[if_true];show a4 (sg (decide (q.num<0)) (nv (iw q.num))) (nv (if q.num=0 then []else tw q.den))=q;rw[dq,EF];split
 ·rename_i h;rw[h,ix];exact(mm.1 h).symm
 ·rw[eZ];exact ie q
theorem gz(q:Rat)(h:LQ q≤k):(Qr q).w k:=by
 unfold LQ L at h;refine⟨bY _,?_,by show(iw q.num).length≤k;omega,?_⟩
 ·show bc (if q.num=0 then []else tw q.den);split
  ·exact bc.nil
  ·exact fQ _
 ·show(if q.num=0 then []else tw q.den).length≤k;split
  ·simp
  ·omega
theorem jZ:LQ 0=1:=by have h:=yN;rw[L,iw]at h;unfold LQ;rw[show(0:Rat).num=0 from rfl,Oe,show(0:Rat).den=(1:Int).natAbs from rfl,h];rfl
theorem bU(h:r.w k)(hk:1≤k):LQ r.val≤k:=by
 by_cases hn:r.n=[]
 ·rw[RD.pH hn,jZ];exact hk
 ·cases ho:r.okB with
  |false=>rw[RD.vU ho,jZ];exact hk
  |true =>
   obtain⟨_,_,_,h4,h5,_⟩:=RD.parts h ho hn;have h1:=h.2.2.1;have h2:=h.2.2.2;rw[h4]at h1;rw[h5]at h2;unfold LQ L;omega
theorem kr(q:Rat):L q.num≤LQ q:=by unfold LQ;omega
theorem kT(q:Rat):L (q.den:Int)≤LQ q:=by unfold LQ L iw;rw[cg];omega
theorem x9{n:Int}(hd:0<d):(a4 n d).num=n/(cv n.natAbs d.natAbs:Int)∧((a4 n d).den:Int)=d/(cv n.natAbs d.natAbs:Int):=by
 have hg:lx d n=cv n.natAbs d.natAbs:=by rw[lx,io]
 rw[m2,m3,af (by omega),hg,j0 hd,Int.one_mul];refine⟨rfl,?_⟩;rw[Int.natCast_ediv]
 congr 1
 omega
theorem mZ(n d:Int)(hd:d≠0):LQ (a4 n d)≤max (L n) (L d):=by
 have key: ∀(n d:Int),0<d→LQ (a4 n d)≤max (L n) (L d):=fun n d hd=>by
  obtain⟨h1,h2⟩:=x9 (n:=n) hd;have e1:(a4 n d).num.natAbs≤n.natAbs:=by rw[h1];exact i7 n _
  have e2:((a4 n d).den:Int).natAbs≤d.natAbs:=by rw[h2];exact i7 d _
  have f1:=pG e1;have f2:=pG e2;unfold LQ;rw[show(tw (a4 n d).den).length=L ((a4 n d).den:Int) by rw[L,iw,cg]];omega
 by_cases h:0<d
 ·exact key n d h
 ·have:=key (-n) (-d) (by omega);rw[lb,pE,pE]at this;exact this
theorem rK(a b:Rat):a4 (a.num*(b.den:Int)+b.num*(a.den:Int)) ((a.den:Int)*(b.den:Int))=a+b:=by
 rw[Rat.add_def',←lJ]
 congr 1
theorem rA(a b:Rat):a4 (a.num*b.num) ((a.den:Int)*(b.den:Int))=a*b:=by
 rw[Rat.mul_def',←lJ]
 congr 1
theorem neg_divInt(a:Rat):a4 (-a.num) (a.den:Int)= -a:=by rw[←Rat.neg_divInt,ie]
theorem tX(n:Int):a4 n 1=(n:Rat):=by have:=ie (n:Rat);simpa using this
theorem uC(a:Rat):(a.den:Int)≠0:=by have:=a.den_nz;omega
theorem jM(a b:Rat):(a.den:Int)*(b.den:Int)≠0:=Int.mul_ne_zero (uC a) (uC b)
theorem yO(a b:Rat):LQ (a+b)≤LQ a+LQ b+1:=by rw[←rK];have h:=mZ (a.num*(b.den:Int)+b.num*(a.den:Int)) ((a.den:Int)*(b.den:Int)) (jM a b);have h1:=gQ a.num b.den;have h2:=gQ b.num a.den;have h3:=gQ a.den b.den;have h4:=Ec (a.num*(b.den:Int)) (b.num*(a.den:Int));have:=kr a;have:=kr b;have:=kT a;have:=kT b;omega
theorem uK(a b:Rat):LQ (a*b)≤LQ a+LQ b:=by rw[←rA];have h:=mZ (a.num*b.num) ((a.den:Int)*(b.den:Int)) (jM a b);have h1:=gQ a.num b.num;have h3:=gQ a.den b.den;have:=kr a;have:=kr b;have:=kT a;have:=kT b;omega
theorem Cm(a:Rat):LQ (-a)=LQ a:=by unfold LQ;rw[Rat.neg_num,Rat.neg_den,pE]
theorem FR(a b:Rat):LQ (a-b)≤LQ a+LQ b+1:=by rw[Rat.sub_eq_add_neg];have:=yO a (-b);rw[Cm]at this;exact this
theorem MY(n:Int):LQ (n:Rat)≤max (L n) 1:=by
 rw[←tX];have:=mZ n 1 (by decide)
 rwa [yN]at this
theorem Cl(a:Rat):1≤LQ a:=by have:tw a.den≠[]:=Io a.den_nz;have:=cw.2 this;unfold LQ;omega
def Cb(a b:Rat):Int:=if a<b then -1 else if a=b then 0 else 1
theorem Kk(a b:Rat):jv (a.num*b.den) (b.num*a.den)=Cb a b:=by
 unfold jv Cb;have h1:=Rat.lt_iff a b;have h2:= @Rat.eq_iff_mul_eq_mul a b;by_cases hl:a<b
 ·rw[ah (h1.1 hl),ah hl]
 ·rw[af (fun h=>hl (h1.2 h)),af hl];by_cases he:a=b
  ·rw[ah (h2.1 he),ah he]
  ·rw[af (fun h=>he (h2.2 h)),af he]
theorem sub_eq_zero{a b:Rat}(h:a-b=0):a=b:=by have:= @Rat.sub_add_cancel a b;rw[h,n1]at this;exact this.symm
theorem Kj(a b:Rat):ky (a-b).num=Cb a b:=by
 unfold ky Cb
 have h1:(a-b).num<0↔a<b:=by have e1:= @Rat.num_nonneg (a-b);have e2:= @Rat.not_le 0 (a-b);have e3:= @Rat.sub_lt_iff a 0 b;rw[n1]at e3;rw[←e3,←e2,←e1];omega
 have h2:(a-b).num=0↔a=b:=by rw[mm];exact⟨sub_eq_zero,fun h=>by rw[h,Rat.sub_self]⟩
 by_cases hl:a<b
 ·rw[ah (h1.2 hl),ah hl]
 ·rw[af (fun h=>hl (h1.1 h)),af hl];by_cases he:a=b
  ·rw[ah (h2.2 he),ah he]
  ·rw[af (fun h=>he (h2.1 h)),af he]
theorem kH:Pure Tryz.prog 149 [] (fk 1):=by refine qJ 2 Tryz.func149 rfl (fun B F0 w0=>?_);refine qX 1 rfl<|qI<|AW.region<|qM rfl (qA 1 (by decide) (by decide)) ?_;exact qU 1 rfl<|qN rfl
theorem zq:(((m.map wd).length:Int)==0)=decide (m=[]):=by rw[bf,eb];simp
theorem pX(hm:bc m)(h:okW false m=true):Wh false m=fk (nv m:Nat):=by
 have h1:decide (((nv m:Nat):Int)<0)=false:=by simp
 have h2:iw ((nv m:Nat):Int)=m:=by rw[iw,cg,Cz hm (tU h)]
 rw[fk,h1,h2]
theorem tB(hm:bc m)(h:okW false m=true):L (nv m:Nat)=m.length:=by rw[L,iw,cg,Cz hm (tU h)]
theorem fV(r:RD)(hw:r.w k)(hk:k≤34800000000000):Pure Tryz.prog 98 [r.D] (dB r.okB):=by
 obtain⟨g,m,d⟩:=r;obtain⟨hm,hd,hlm,hld⟩:=hw;simp only[]at hm hd hlm hld;refine qJ 50 Tryz.func98 rfl fun B F0 w0=>?_;refine qX 2 rfl<|qI ?_;refine AW.cut [1,14] (fun _:Unit=>[(1,.bx [dB g,Wd m,Wd d]),(14,.d (dB (decide (m=[]∧d=[]))))]) (fun _=>True) ?_ fun _ _=>?_
 ·refine qT 5 rfl ?_;rw[zq];refine ae.split (t:=9) rfl (fun h=>?_) fun h=>?_
  ·refine qU 5 rfl (ae.nil ?_);have:=ao h;exact⟨(),by rw[show decide (m=[]∧d=[])=(((d.map wd).length:Int)==0) by rw[zq,eb];simp only[decide_eq_true_eq];exact⟨fun e=>e.2,fun e=>⟨this,e⟩⟩];rfl,trivial⟩
  ·refine qU 5 rfl (ae.nil ?_);have:=ar h;exact⟨(),by rw[show decide (m=[]∧d=[])=false by simp[this]];rfl,trivial⟩
 refine AW.cond rfl (fun h=>?_) fun h=>?_
 ·have h0:=ao h;rw[show RD.okB ⟨g,m,d⟩= !g by unfold RD.okB;rw[ah h0]];exact qX 4 rfl<|qN rfl
 ·have h0:=ar h;have hokB:RD.okB ⟨g,m,d⟩=decide (m≠[]∧d≠[]∧okW false m=true∧okW false d=true∧cv (nv m) (nv d)=1):=by unfold RD.okB;rw[af h0]
  rw[hokB];clear hokB;refine AW.skip<|AW.seq<|AW.mU tok aO [(3,true),(5,false)] 8 [3,4] (by kernel_rfl) ⟨rfl,?_⟩;refine qP 3 rfl<|ai.nil ⟨rfl,?_⟩;refine qP 5 rfl<|ai.nil ⟨_,m8.cons (.bx rfl) (m8.cons (.bx rfl) m8.nil),ae.nil ?_⟩;refine AW.norm [1,3,4] [(1,.bx [dB g,Wd m,Wd d]),(3,.bx [dB false,Wd m]),(4,.bx [dB false,Wd d])] rfl ?_;refine AW.seq ?_;refine AW.cut [1,3,4,43] (fun _:Unit=>[(1,.bx [dB g,Wd m,Wd d]),(3,.bx [dB false,Wd m]),(4,.bx [dB false,Wd d]),(43,.d (dB (!decide (m≠[]∧d≠[]∧okW false m=true∧okW false d=true))))]) (fun _=>True) ?_ fun _ _=>?_
  ·refine qT 5 rfl ?_;rw[zq];refine ae.split (t:=28) rfl (fun h=>?_) fun h=>?_
   ·have h1:=ao h;refine qU 15 rfl<|ae.nil ?_;exact⟨(),by rw[show decide (m≠[]∧d≠[]∧okW false m=true∧okW false d=true)=false by simp[h1]];rfl,trivial⟩
   ·have h1:=ar h;refine qU 6 rfl ?_;rw[zq];refine ae.split (t:=34) rfl (fun h=>?_) fun h=>?_
    ·have h2:=ao h;refine qU 9 rfl<|ae.nil ?_;exact⟨(),by rw[show decide (m≠[]∧d≠[]∧okW false m=true∧okW false d=true)=false by simp[h2]];rfl,trivial⟩
    ·have h2:=ar h;refine qU 1 rfl<|qM rfl (gH false m hm (by omega)) ?_;refine qU 3 rfl ?_;refine ae.split (t:=39) rfl (fun h=>?_) fun h=>?_
     ·have h3:okW false m=false:=by simpa using h
      refine qU 4 rfl<|ae.nil ?_;exact⟨(),by rw[show decide (m≠[]∧d≠[]∧okW false m=true∧okW false d=true)=false by simp[h3]];rfl,trivial⟩
     ·have h3:okW false m=true:=by simpa using h
      refine qU 1 rfl<|qM rfl (gH false d hd (by omega)) ?_;refine qU 2 rfl<|ae.nil ?_;exact⟨(),by rw[show decide (m≠[]∧d≠[]∧okW false m=true∧okW false d=true)=okW false d by simp[h1,h2,h3]];rfl,trivial⟩
  ·refine AW.cond rfl (fun h=>?_) (fun h=>?_)
   ·have h1: ¬(m≠[]∧d≠[]∧okW false m=true∧okW false d=true):=fun e=>by rw[aN e]at h;cases h
    rw[show decide (m≠[]∧d≠[]∧okW false m=true∧okW false d=true∧cv (nv m) (nv d)=1)=false from a5 fun e=>h1 ⟨e.1,e.2.1,e.2.2.1,e.2.2.2.1⟩];exact qX 1 rfl<|qN rfl
   ·have h1:(m≠[]∧d≠[]∧okW false m=true∧okW false d=true):=by
     have:decide (m≠[]∧d≠[]∧okW false m=true∧okW false d=true)=true:=by rw[←Bool.not_not (decide _),h];rfl
     exact ao this
    obtain⟨hm0,hd0,ok1,ok2⟩:=h1;have e1:=pX hm ok1;have e2:=pX hd ok2;have l1:=tB hm ok1;have l2:=tB hd ok2
    have hgl:L ((cv (nv m) (nv d):Nat):Int)≤34800000000000:=by have hp:0<nv m:=lc fun e=>hm0 ((jV (tU ok1)).1 e);have:=mp (nv d) hp;have:=pG (a:=((cv (nv m) (nv d):Nat):Int)) (b:=((nv m:Nat):Int)) (by simpa using this);omega
    have hgcd:=pd (nv m:Nat) (nv d:Nat) (by omega) (by omega);rw[←e1,←e2,cg,cg]at hgcd;refine AW.skip<|qX 2 rfl<|qM rfl hgcd<|qM rfl kH ?_;refine qM rfl (pf ((cv (nv m) (nv d):Nat):Int) 1 (by omega) (by rw[yN];decide)) ?_;refine qU 2 rfl<|ae.nil ?_
    rw[show decide (m≠[]∧d≠[]∧okW false m=true∧okW false d=true∧cv (nv m) (nv d)=1)=(jv ((cv (nv m) (nv d):Nat):Int) 1==0) by
     rw[eb];simp only[ne_eq,hm0,not_false_eq_true,hd0,ok1,ok2,true_and,decide_eq_true_eq,D7];unfold jv;constructor
     ·intro h;rw[h];rfl
     ·intro h;split at h
      ·cases h
      ·split at h
       ·omega
       ·cases h]
    exact AW.ret rfl
theorem Ct:fk 0= .ag [dB false,.sl 1 []]:=by rw[fk,wg];rfl
theorem bm(r:RD)(hw:r.w k)(hk:k≤34800000000000):Pure Tryz.prog 123 [r.D] (.tu [fk r.val.num,fk r.val.den]):=by
 refine qJ 28 Tryz.func123 rfl fun B F0 w0=>?_;refine qX 3 rfl<|qI ?_;refine AW.cut [1,2,3,12] (fun _:Unit=>[(1,.bx [dB r.g,Wd r.n,Wd r.d]),(2,.bx [dB false,.sl 1 []]),(3,.bx [dB false,.sl 1 []]),(12,.d (dB (decide (r.okB=false∨r.n=[]))))]) (fun _=>True) ?_ fun _ _=>?_
 ·refine qT 1 rfl (qM rfl (fV r hw hk) ?_);refine qU 2 rfl ?_;refine ae.split (t:=7) rfl (fun h=>?_) fun h=>?_
  ·have h1:r.okB=false:=by simpa using h
   refine qU 5 rfl<|ae.nil ?_;exact⟨(),by rw[show decide (r.okB=false∨r.n=[])=true by simp[h1]];rfl,trivial⟩
  ·have h1:r.okB=true:=by simpa using h
   refine qU 5 rfl ?_;rw[zq];refine ae.nil ?_;exact⟨(),by rw[show decide (r.okB=false∨r.n=[])=decide (r.n=[]) by simp only[h1];simp];rfl,trivial⟩
 refine AW.cond rfl (fun h=>?_) fun h=>?_
 ·have h1:=ao h
  have hv:r.val=0:=by
   rcases h1 with h1|h1
   ·exact RD.vU h1
   ·exact RD.pH h1
  rw[hv,show(0:Rat).num=0 from rfl,show(((0:Rat).den:Nat):Int)=1 from rfl,Ct];exact qX 1 rfl<|qM rfl kH<|qU 2 rfl<|qN rfl
 ·have h1:=ar h
  have h2:r.okB=true:=by cases ho:r.okB with
   |true=>rfl
   |false=>exact aG (.inl ho) h1
  obtain⟨_,_,p3,p4,p5,_⟩:=RD.parts hw h2 (fun e=>h1 (.inr e));have e1:fk r.val.num=Wh r.g r.n:=by rw[fk,←p3,←p4]
  have e2:fk (r.val.den:Nat)=Wh false r.d:=by
   have:decide (((r.val.den:Nat):Int)<0)=false:=by simp
   rw[fk,this,iw,cg,←p5]
  rw[e1,e2];have hl1:=hw.2.2.1;have hl2:=hw.2.2.2;refine AW.skip<|AW.seq<|AW.draw aO 7 (by kernel_rfl) ?_;refine qP 5 rfl ?_;refine ai.pB tok rfl rfl rfl rfl rfl (by show((r.n.map wd).length)*4≤_;rw[bf];omega) ?_;refine qP 1 rfl<|ai.nil<|qU 1 rfl<|qI<|AW.norm [1,2,3] [(1,.bx [dB r.g,Wd r.n,Wd r.d]),(2,.bx [dB r.g,Wd r.n]),(3,.bx [dB false,.sl 1 []])] rfl ?_;refine AW.mU tok aO [(1,true),(5,false)] 6 [2,3] (by kernel_rfl) ⟨rfl,?_⟩;refine qP 1 rfl<|ai.nil ⟨rfl,?_⟩;refine qP 3 rfl ?_;refine ai.pB tok rfl rfl rfl rfl rfl (by show((r.d.map wd).length)*4≤_;rw[bf];omega) ?_;refine qP 1 rfl<|ai.nil ⟨_,m8.cons (.bx rfl) (m8.cons (.bx rfl) m8.nil),ae.nil ?_⟩;exact AW.ret rfl
theorem gL:Qr 0=⟨false,[],[]⟩:=by unfold Qr;rw[show(0:Rat).num=0 from rfl,wg];rfl
theorem Dz{n:Int}(hd:0<d)(hn:n≠0):(Qr (a4 n d)).D= .ag [dB (decide (n<0)),Wd (iw ((n.natAbs:Int)/(cv n.natAbs d.natAbs:Int))),Wd (iw (d/(cv n.natAbs d.natAbs:Int)))]:=by
 obtain⟨h1,h2⟩:=x9 (n:=n) hd
 have hg:0<(cv n.natAbs d.natAbs:Int):=by have:0<cv n.natAbs d.natAbs:=jk _ (by omega);omega
 have hgn:(cv n.natAbs d.natAbs:Int) ∣ n:=Int.ofNat_dvd_left.2 (Nat.gcd_dvd_left _ _);obtain⟨q,hq⟩:=hgn;generalize (cv n.natAbs d.natAbs:Int)=g at *;have hnum:n/g=q:=by rw[hq,jg _ (by omega)]
 have hneg:(n/g<0)↔n<0:=by
  rw[hnum];constructor
  ·intro h;rw[hq];exact Int.mul_neg_of_pos_of_neg hg h
  ·intro h;rcases Int.lt_or_le q 0 with h'|h'
   ·exact h'
   ·have:=nj (Int.le_of_lt hg) h';omega
 have hq0:q≠0:=by rintro rfl;rw[Int.mul_zero]at hq;exact hn hq
 have habs:(n.natAbs:Int)/g=(q.natAbs:Int):=by
  have:(n.natAbs:Int)=g*(q.natAbs:Int):=by rw[hq,g8,ms];congr 1;omega
  rw[this,jg _ (by omega)]
 have e1:decide ((a4 n d).num<0)=decide (n<0):=by rw[h1];exact decide_eq_decide.2 hneg
 have e2:iw (a4 n d).num=iw ((n.natAbs:Int)/g):=by rw[h1,habs,hnum];simp only[iw,cg]
 have e3:(if (a4 n d).num=0 then []else tw (a4 n d).den)=iw (d/g):=by rw[af (by rw[h1,hnum];exact hq0),←h2,iw,cg]
 show D.ag [dB (decide ((a4 n d).num<0)),Wd (iw (a4 n d).num),Wd (if (a4 n d).num=0 then []else tw (a4 n d).den)]=_;rw[e1,e2,e3]
theorem fi(n d:Int)(hn:L n≤34800000000000)(hd:L d≤34800000000000)(h0:d≠0):Pure Tryz.prog 124 [fk n,fk d] (Qr (a4 n d)).D:=by
 refine qJ 47 Tryz.func124 rfl fun B F0 w0=>?_;refine qX 3 rfl<|qI<|qX 1 rfl<|qM rfl (dv n (by omega)) ?_;refine qU 1 rfl<|ae.nil<|AW.cond rfl (fun h=>?_) fun h=>?_
 ·have hn0:n=0:=by
   have:ky n=0:=by simpa using h
   unfold ky at this
   repeat' split at this
   all_goals omega
  rw[hn0,ix,gL];exact qX 2 rfl<|qN rfl
 ·have hn0:n≠0:=by rintro rfl;simp[ky]at h
  refine AW.skip ?_
  refine AW.cut [2,3,4] (fun s:Int×Int=>[(2,.bx [dB (decide (s.1<0)),Wd (iw s.1)]),(3,.bx [dB (decide (s.2<0)),Wd (iw s.2)]),(4,.bx [dB false,.sl 1 [],.sl 1 []])])
   (fun s=>0<s.2∧s.1≠0∧L s.1≤34800000000000∧L s.2≤34800000000000∧a4 s.1 s.2=a4 n d) ?_ (fun (x,y) ⟨hy,hx,hlx,hly,he⟩=>?_)
  ·refine qX 1 rfl (qM rfl (dv d (by omega)) ?_);refine qU 1 rfl<|ae.nil<|AW.cond rfl (fun h=>?_) fun h=>?_
   ·have hd0:d<0:=by
     have:=ao h;unfold ky at this
     repeat' split at this
     all_goals omega
    refine AW.draw aO 4 (by kernel_rfl) ?_;refine qP 1 rfl<|qQ rfl (je n (by omega)) ?_;refine qP 1 rfl<|qQ rfl (je d (by omega)) ?_;refine ai.nil<|qU 2 rfl<|ae.nil ?_;exact⟨(-n, -d),rfl,⟨by simp only[];omega,by simp only[];omega,by rw[pE];exact hn,by rw[pE];exact hd,lb n d⟩⟩
   ·have hd0:0<d:=by
     have:=ar h;unfold ky at this
     repeat' split at this
     all_goals omega
    refine AW.skip ?_;exact⟨(n,d),rfl,⟨hd0,hn0,hn,hd,rfl⟩⟩
  ·simp only[]at hy hx hlx hly he;rw[←he]
   have hgl:L ((cv x.natAbs y.natAbs:Nat):Int)≤34800000000000:=by have:=mp y.natAbs (show 0<x.natAbs by omega);have:=pG (a:=((cv x.natAbs y.natAbs:Nat):Int)) (b:=x) (by simpa using this);omega
   have hg0:((cv x.natAbs y.natAbs:Nat):Int)≠0:=by have:0<cv x.natAbs y.natAbs:=jk _ (by omega);omega
   rw[Dz hy hx];have hgcd:=pd x y hlx hly;generalize ((cv x.natAbs y.natAbs:Nat):Int)=g at *;have hla:L (x.natAbs:Int)≤34800000000000:=by have:=pG (a:=(x.natAbs:Int)) (b:=x) (by simp);omega
   refine qX 2 rfl<|qM rfl hgcd<|qU 2 rfl<|qK 1 rfl<|qM rfl (dv x (by omega)) ?_;refine qU 2 rfl<|ae.nil ?_
   have hsg:decide (ky x<0)=decide (x<0):=by
    unfold ky
    repeat' split
    all_goals (rw[decide_eq_decide];omega)
   rw[hsg];refine AW.cut [2,3,4,5,6] (fun _:Unit=>[(2,.bx [dB (decide ((x.natAbs:Int)<0)),Wd (iw (x.natAbs:Int))]),(3,.bx [dB (decide (y<0)),Wd (iw y)]),(4,.bx [dB false,.sl 1 [],.sl 1 []]),(5,.bx [dB (decide (g<0)),Wd (iw g)]),(6,.d (dB (decide (x<0))))]) (fun _=>True) ?_ fun _ _=>?_
   ·refine qX 1 rfl (ae.nil (AW.cond rfl (fun h=>?_) (fun h=>?_)))
    ·have hx0:=ao h;refine qT 1 rfl<|qM rfl (je x (by omega)) ?_;refine qU 1 rfl<|ae.nil ?_;exact⟨(),by rw[show(x.natAbs:Int)= -x by omega];rfl,trivial⟩
    ·have hx0:=ar h;refine AW.skip ?_;exact⟨(),by rw[show(x.natAbs:Int)=x by omega];rfl,trivial⟩
   refine qX 2 rfl<|qM rfl (pe (x.natAbs:Int) g hla hgl hg0) ?_;refine qU 5 rfl<|qK 2 rfl<|qM rfl (pe y g hly hgl hg0) ?_;exact qU 5 rfl<|qK 7 rfl<|qN rfl
theorem vL(r:RD)(hw:r.w k)(hk:k≤17300000000000):Pure Tryz.prog 173 [r.D] (Qr (-r.val)).D:=by refine qJ 14 Tryz.func173 rfl (fun B F0 w0=>?_);have hl:=bU (hw.mono (dM k 1)) (c8 k 1);have hn:=kr r.val;have hd:=kT r.val;rw[←neg_divInt];refine qX 2 rfl<|qK 1 rfl<|qM rfl (bm r hw (by omega)) ?_;refine qU 7 rfl<|qI<|AW.draw aO 4 (by kernel_rfl) ?_;refine qP 1 rfl<|qQ rfl (je r.val.num (by omega)) ?_;refine qP 1 rfl ?_;refine qQ rfl (fi (-r.val.num) r.val.den (by rw[pE];omega) (by omega) (uC _)) ?_;exact ai.nil<|qU 1 rfl<|qN rfl
theorem od(r s:RD)(hr:r.w k)(hs:s.w k)(hk:k≤17300000000000):Pure Tryz.prog 150 [r.D,s.D] (dI (Cb r.val s.val)):=by refine qJ 26 Tryz.func150 rfl (fun B F0 w0=>?_);have hl:=bU (hr.mono (dM k 1)) (c8 k 1);have hm:=bU (hs.mono (dM k 1)) (c8 k 1);have:=kr r.val;have:=kT r.val;have:=kr s.val;have:=kT s.val;have:=gQ r.val.num s.val.den;have:=gQ s.val.num r.val.den;rw[←Kk];refine qX 3 rfl<|qK 1 rfl<|qM rfl (bm r hr (by omega)) ?_;refine qU 7 rfl<|qK 1 rfl<|qM rfl (bm s hs (by omega)) ?_;refine qU 7 rfl<|qI<|AW.draw aO 7 (by kernel_rfl) ?_;refine qP 2 rfl<|qQ rfl (cy r.val.num s.val.den (by omega) (by omega)) ?_;refine qP 2 rfl<|qQ rfl (cy s.val.num r.val.den (by omega) (by omega)) ?_;refine qQ rfl (pf (r.val.num*s.val.den) (s.val.num*r.val.den) (by omega) (by omega)) ?_;exact ai.nil<|qU 1 rfl<|qN rfl
theorem oe(r s:RD)(hr:r.w k)(hs:s.w k)(hk:k≤17300000000000):Pure Tryz.prog 85 [r.D,s.D] (Qr (r.val+s.val)).D:=by refine qJ 30 Tryz.func85 rfl (fun B F0 w0=>?_);have hl:=bU (hr.mono (dM k 1)) (c8 k 1);have hm:=bU (hs.mono (dM k 1)) (c8 k 1);have:=kr r.val;have:=kT r.val;have:=kr s.val;have:=kT s.val;have:=gQ r.val.num s.val.den;have:=gQ s.val.num r.val.den;have:=gQ r.val.den s.val.den;have:=Ec (r.val.num*s.val.den) (s.val.num*r.val.den);rw[←rK];refine qX 3 rfl<|qK 1 rfl<|qM rfl (bm r hr (by omega)) ?_;refine qU 7 rfl<|qK 1 rfl<|qM rfl (bm s hs (by omega)) ?_;refine qU 7 rfl<|qI<|AW.draw aO 11 (by kernel_rfl) ?_;refine qP 2 rfl<|qQ rfl (cy r.val.num s.val.den (by omega) (by omega)) ?_;refine qP 2 rfl<|qQ rfl (cy s.val.num r.val.den (by omega) (by omega)) ?_;refine qQ rfl (x5 (r.val.num*s.val.den) (s.val.num*r.val.den) (by omega) (by omega)) ?_;refine qP 2 rfl<|qQ rfl (cy r.val.den s.val.den (by omega) (by omega)) ?_;refine qQ rfl (fi (r.val.num*s.val.den+s.val.num*r.val.den) (r.val.den*s.val.den) (by omega) (by omega) (jM _ _)) ?_;exact ai.nil<|qU 1 rfl<|qN rfl
theorem vN(r s:RD)(hr:r.w k)(hs:s.w k)(hk:k≤17300000000000):Pure Tryz.prog 171 [r.D,s.D] (Qr (r.val*s.val)).D:=by refine qJ 26 Tryz.func171 rfl (fun B F0 w0=>?_);have hl:=bU (hr.mono (dM k 1)) (c8 k 1);have hm:=bU (hs.mono (dM k 1)) (c8 k 1);have:=kr r.val;have:=kT r.val;have:=kr s.val;have:=kT s.val;have:=gQ r.val.num s.val.num;have:=gQ r.val.den s.val.den;rw[←rA];refine qX 3 rfl<|qK 1 rfl<|qM rfl (bm r hr (by omega)) ?_;refine qU 7 rfl<|qK 1 rfl<|qM rfl (bm s hs (by omega)) ?_;refine qU 7 rfl<|qI<|AW.draw aO 7 (by kernel_rfl) ?_;refine qP 2 rfl<|qQ rfl (cy r.val.num s.val.num (by omega) (by omega)) ?_;refine qP 2 rfl<|qQ rfl (cy r.val.den s.val.den (by omega) (by omega)) ?_;refine qQ rfl (fi (r.val.num*s.val.num) (r.val.den*s.val.den) (by omega) (by omega) (jM _ _)) ?_;exact ai.nil<|qU 1 rfl<|qN rfl
theorem tG(M:List Nat)(lo m:Nat):((M.map wd).drop lo).take m=(dW M lo m).map wd:=by rw[dW,i5,List.map_drop]
theorem xV(xs:List Nat)(x:Nat):xs.map wd++[wd x]=(xs++[x]).map wd:=by simp
theorem Gw(xs:List Nat)(x:Nat):nv (xs++[x])=nv xs+4294967296^xs.length*x:=by rw[tZ];simp[nv]
theorem pY(l:List Nat)(h:bc l)(N i:Nat)(hN:l.length≤N):(dg N (nv l)).getD i 0=l.getD i 0:=by have hlt:nv l<4294967296^N:=cn (dH h) (jI hN);rw[gj (fY N (nv l)) i,gj h i,jy,ax hlt]
theorem xF{a b:List Nat}(ha:bc a)(hb:bc b){i:Nat}(hib:i<b.length)(h:a.getD i 0<b.getD i 0)(he: ∀j,i<j→a.getD j 0=b.getD j 0):nv a<nv b:=by
 obtain⟨N,hN⟩: ∃N,N=max a.length b.length:=⟨_,rfl⟩
 have e: ∀l:List Nat,bc l→l.length≤N→nv (dg N (nv l))=nv l:=fun l hl hlen=>by rw[jy];exact ax<|cn (dH hl)<|jI hlen
 rw[←e a ha (by omega),←e b hb (by omega)];refine tY (fY _ _) (fY _ _) (i:=i) (by rw[aU];omega) (by rw[aU];omega) ?_ ?_
 ·rw[pY a ha N i (by omega),pY b hb N i (by omega)];exact h
 ·refine td (by simp[aU]) (fun j hj=>?_);rw[mQ,mQ,pY a ha N _ (by omega),pY b hb N _ (by omega)];exact he _ (by omega)
theorem HN{a b:List Nat}(ha:bc a)(hb:bc b)(he: ∀j,a.getD j 0=b.getD j 0):nv a=nv b:=by
 obtain⟨N,hN⟩: ∃N,N=max a.length b.length:=⟨_,rfl⟩
 have e: ∀l:List Nat,bc l→l.length≤N→nv (dg N (nv l))=nv l:=fun l hl hlen=>by rw[jy];exact ax<|cn (dH hl)<|jI hlen
 rw[←e a ha (by omega),←e b hb (by omega)]
 congr 1
 refine td (by rw[aU,aU]) fun j _=>?_;rw[pY a ha N j (by omega),pY b hb N j (by omega)];exact he j
theorem K8(m n:Nat)(h:n≤m)(hm:m<18446744073709551616):a1.wrap ((m:Int) -(n:Int))=((m-n:Nat):Int):=by rw[vu (by omega) (by omega)];omega
theorem Pp(x:Nat)(h:x<4294967296):a1.wrap (4294967296+(x:Int))=((4294967296+x:Nat):Int):=by rw[vu (by omega) (by omega)];omega
theorem IA(x:Nat)(h:x≤1):a1.wrap (1-(x:Int))=((1-x:Nat):Int):=by rw[vu (by omega) (by omega)];omega
theorem fO(ws:List Nat)(hw:bc ws)(i:Nat):Pure Tryz.prog 207 [Wd ws,dI i] (dU (ws.getD i 0:Nat)):=by
 refine qJ 14 Tryz.func207 rfl fun B F0 w0=>?_;refine AW.seq<|AW.region<|qU 1 rfl<|ae.nil<|AW.seq<|AW.seq<|AW.region<|qU 4 rfl<|ae.nil ?_;refine AW.cond rfl (fun h=>?_) fun h=>?_
 ·have h':i<ws.length:=by simpa using h
  refine AW.seq<|AW.region<|qU 2 rfl<|ae.idx tok (wd (ws.getD i 0)) rfl rfl rfl rfl (aa i) (bQ h') ?_;refine qU 3 rfl ?_;have hb:=hw.getD i;rw[vu (by omega) (by omega)];exact qN rfl
 ·have h':ws.getD i 0=0:=by
   have:ws.length≤i:=by simpa using h
   simp[cp,ew this]
  rw[h'];exact AW.skip<|AW.seq<|AW.region<|qU 1 rfl<|qN rfl
theorem rb(M:List Nat)(lo m:Nat)(hw:bc M)(i:Nat):Pure Tryz.prog 207 [.sl 1 (((M.map wd).drop lo).take m),dI i] (dU ((dW M lo m).getD i 0:Nat)):=by rw[tG];exact fO _ (hw.dW lo m) i
theorem q9(a:List Nat)(ha:bc a)(hla:a.length≤35184372088831):mX Tryz.prog 189 [Wd a] 117 (a.map wd) 0 (tw (nv a)).length:=by
 refine mX.intro (n:=25) tok Tryz.func189 rfl rfl rfl (bz rfl) (by kernel_rfl) fun B F0 w0=>?_;refine qX 1 rfl<|qK 2 rfl ?_;refine ae.Ch tok rfl rfl rfl rfl (by show((a.map wd).length)*4≤_;rw[bf];omega) ?_;refine qU 1 rfl<|ae.Ip 3 rfl ?_;rw[bf];refine qI<|AW.block ?_;refine AW.aK [3] (fun k:Nat=>[(3,.wn false 117 (a.map wd) 0 k)]) (fun k=>k≤a.length∧ ∀i,k≤i→a.getD i 0=0) (fun k=>k) a.length rfl ⟨b2 _,fun i hi=>fA hi⟩ fun k ⟨hk,hz⟩=>?_;refine AW.seq ?_;have hwl:(((a.map wd).drop 0).take k).length=k:=by simp;omega
 refine AW.cut [3,18] (fun b:Bool=>[(3,.wn false 117 (a.map wd) 0 k),(18,.d (dB b))]) (fun b=>(b=true→0<k∧a.getD (k-1) 0=0)∧(b=false→k=0∨a.getD (k-1) 0≠0)) ?_ fun b ⟨ht,hf⟩=>?_
 ·refine qT 4 rfl ?_;rw[hwl];refine ae.split (t:=10) rfl (fun h=>?_) fun h=>?_
  ·have hk0:0<k:=by have:=ao h;omega
   obtain⟨j,rfl⟩: ∃j,k=j+1:=⟨k-1,by omega⟩;refine qU 4 rfl ?_;rw[hwl,aD (by omega) (by omega),show((j+1:Nat):Int) -1=(j:Int) by omega];refine ae.qh tok rfl rfl rfl rfl (aa j) (by simp only[a3];omega) ?_;rw[a3,dn];refine ae.dE tok (wd (a.getD j 0)) rfl rfl rfl rfl (bQ (by omega)) rfl ?_;refine qU 2 rfl<|ae.nil ?_;exact⟨_,rfl,⟨fun h=>⟨by omega,by have:=ao h;simp at this;simpa using this⟩,fun h=>.inr (by simpa using h)⟩⟩
  ·have hk0:k=0:=by have:=ar h;omega
   refine qU 8 rfl<|ae.nil ?_;exact⟨_,rfl,⟨fun h=>by simp at h,fun h=>.inl hk0⟩⟩
 ·refine AW.cond rfl (fun h=>?_) (fun h=>?_)
  ·obtain⟨h0,h1⟩:=ht h;refine AW.skip<|AW.block<|qT 4 rfl ?_;rw[hwl,aD (by omega) (by omega),show(k:Int) -1=((k-1:Nat):Int) by omega];refine ae.Og tok rfl rfl rfl rfl trivial (aa _) (by simp only[gA,dm,a3];omega) (by simp only[dm,a3];omega) ?_;rw[show 0+gA none=0 from rfl,show dm k (some ((k-1:Nat):Int)) -gA none=k-1 by simp[dm,gA]];refine qU 1 rfl<|ae.nil ?_;refine⟨k-1,rfl,⟨by omega,fun i hi=>?_⟩,by omega⟩;by_cases he:i=k-1
   ·rw[he,h1]
   ·exact hz i (by omega)
  ·have hres:=AJ ha hk hz (hf h);have hlen:k=(tw (nv a)).length:=by rw[←hres];simp;omega
   refine AW.exit ?_;rw[←hlen];exact qX 2 rfl<|qN rfl
theorem Im{a:List Nat}(ha:bc a):dW a 0 (tw (nv a)).length=tw (nv a):=by have h:=rW ha;have hv:nv (a.drop (tw (nv a)).length)=0:=sO _ (fx _) h;have h2:=bE a (tw (nv a)).length h;rw[hv,d5,dx]at h2;rw[dW,eo];exact xG (ha.take _) (fQ _) (by simp;omega) (by rw[eZ,←h2])
theorem iH(a:List Nat)(ha:bc a)(hla:a.length≤35184372088831):Pure Tryz.prog 189 [Wd a] (Wd (tw (nv a))):=by have:=mX.pure tok (q9 a ha hla) (te:=_) rfl;rw[tG,Im ha]at this;exact this
theorem lz(a b:List Nat)(ha:bc a)(hb:bc b)(hla:a.length≤35184372088831)(hlb:b.length≤35184372088831):Pure Tryz.prog 194 [Wd a,Wd b] (dI (jN (nv a) (nv b))):=by
 refine qJ 30 Tryz.func194 rfl fun B F0 w0=>?_;obtain⟨N,hN⟩: ∃N,N=max a.length b.length:=⟨_,rfl⟩;refine qX 1 rfl<|qI<|qX 7 rfl ?_;rw[bf,bf,show(if (b.length:Int)>(a.length:Int)then(b.length:Int)else(a.length:Int))=(N:Int) by split<;>omega,aD (by omega) (by omega)];refine ae.nil ?_;refine AW.block<|AW.aK [0,1,5] (fun k:Nat=>[(0,.d (Wd a)),(1,.d (Wd b)),(5,.d (dI ((k:Int) -1)))]) (fun k=>k≤N∧ ∀j,k≤j→a.getD j 0=b.getD j 0) (fun k=>k) N rfl ⟨b2 _,fun j hj=>by rw[fA (by omega),fA (by omega)]⟩ fun k ⟨hk,hd⟩=>?_;refine AW.seq<|qX 2 rfl<|ae.nil<|AW.cond rfl (fun h=>?_) fun h=>?_
 ·have hk0:0<k:=by have:=ao h;omega
  obtain⟨j,rfl⟩: ∃j,k=j+1:=⟨k-1,by omega⟩;rw[show((j+1:Nat):Int) -1=(j:Int) by omega];refine AW.skip<|AW.seq<|AW.block<|qX 2 rfl<|qM rfl (fO a ha j) ?_;refine qU 2 rfl<|qM rfl (fO b hb j) ?_;refine qU 1 rfl<|ae.nil<|AW.cond rfl (fun h=>?_) fun h=>?_
  ·have hne:a.getD j 0≠b.getD j 0:=fun e=>by rw[e]at h;simp at h
   refine AW.seq<|qX 2 rfl<|qM rfl (fO a ha j) ?_;refine qU 2 rfl<|qM rfl (fO b hb j) ?_;refine qU 1 rfl<|ae.nil<|AW.cond rfl (fun h=>?_) fun h=>?_
   ·have hlt:a.getD j 0<b.getD j 0:=by have:=ao h;omega
    have hjb:j<b.length:=by
     rcases ch j b.length with h|h
     ·exact h
     ·rw[fA h]at hlt;omega
    have hv:=xF ha hb hjb hlt (fun i hi=>hd i (by omega));rw[show jN (nv a) (nv b)= -1 by simp[jN,hv]];exact qX 1 rfl<|qN rfl
   ·have hlt:b.getD j 0<a.getD j 0:=by have:=ar h;omega
    have hja:j<a.length:=by
     rcases ch j a.length with h|h
     ·exact h
     ·rw[fA h]at hlt;omega
    have hv:=xF hb ha hja hlt (fun i hi=>(hd i (by omega)).symm);rw[show jN (nv a) (nv b)=1 by unfold jN;rw[af (by omega),af (by omega)]];exact AW.skip<|qX 1 rfl<|qN rfl
  ·have he:a.getD j 0=b.getD j 0:=by
    have:((a.getD j 0:Nat):Int)=((b.getD j 0:Nat):Int):=by simpa using h
    omega
   refine AW.skip<|qT 3 rfl ?_;rw[aD (by omega) (by omega)];refine ae.nil ?_;refine⟨j,rfl,⟨by omega,fun i hi=>?_⟩,by omega⟩;by_cases hij:i=j
   ·rw[hij,he]
   ·exact hd i (by omega)
 ·have hk0:k=0:=by have:=ar h;omega
  subst hk0;rw[show jN (nv a) (nv b)=0 by rw[HN ha hb (fun j=>hd j (cj _))];simp[jN]];exact AW.exit<|qX 1 rfl<|qN rfl
theorem oQ(a b:List Nat)(ha:bc a)(hb:bc b)(hla:a.length≤35184372088830)(hlb:b.length≤35184372088830):Pure Tryz.prog 187 [Wd a,Wd b] (Wd (tw (nv a+nv b))):=by
 refine qJ 37 Tryz.func187 rfl fun B F0 w0=>?_;obtain⟨N,hN⟩: ∃N,N=max a.length b.length+1:=⟨_,rfl⟩;refine qX 1 rfl<|qK 1 rfl<|qK 1 rfl<|qI<|qX 7 rfl ?_;rw[bf,bf,show(if (b.length:Int)>(a.length:Int)then(b.length:Int)else(a.length:Int))=((N-1:Nat):Int) by split<;>omega,aD (by omega) (by omega),show((N-1:Nat):Int)+1=(N:Int) by omega];refine ae.nil<|AW.block ?_
 refine AW.aK [0,1,5,6,14,15] (fun s:Nat×List Nat×Nat=>[(0,.d (Wd a)),(1,.d (Wd b)),(5,.ow 117 (s.2.1.map wd)),(6,.d (dU s.2.2)),(14,.d (dI N)),(15,.d (dI s.1))])
  (fun s=>s.1≤N∧s.2.1.length=s.1∧bc s.2.1∧s.2.2≤1∧nv s.2.1+4294967296^s.1*s.2.2=nv (a.take s.1)+nv (b.take s.1)) (fun s=>N-s.1) (0,[],0) rfl ⟨cj _,rfl,bc.nil,by simp,by simp[nv]⟩ (fun (i,out,c) ⟨hi,hol,how,hc,hv⟩=>?_)
 simp only[]at hi hol how hc hv;refine qX 1 rfl<|qI<|AW.cond rfl (fun h=>?_) fun h=>?_
 ·have dm:i<N:=by have:=ao h;omega
  refine AW.skip<|AW.seq<|AW.block<|qX 2 rfl<|qK 2 rfl<|qM rfl (fO a ha i) ?_;refine qU 2 rfl<|qM rfl (fO b hb i) ?_;refine qU 4 rfl ?_;have hx:=ha.getD i;have hy:=hb.getD i;rw[vQ (a.getD i 0) (b.getD i 0) (by omega),vQ (a.getD i 0+b.getD i 0) c (by omega)];refine ae.nil ?_;obtain⟨S,hS⟩: ∃S,S=a.getD i 0+b.getD i 0+c:=⟨_,rfl⟩;rw[←hS];refine qT 3 rfl ?_;rw[fK];refine ae.bs tok rfl rfl rfl rfl ?_;refine ae.jw tok rfl rfl rfl rfl rfl rfl (by show((out.map wd).length+1)*4≤_;rw[bf];omega) (by show(out.map wd).length+1≤_;rw[bf];omega) ?_;refine qU 4 rfl ?_;rw[lf];refine ae.nil<|qT 2 rfl ?_;rw[aD (by omega) (by omega)];refine ae.nil ?_;refine⟨(i+1,out++[S%4294967296],S/4294967296),by rw[←xV];rfl,⟨by omega,by simp[hol],bc.append.2 ⟨how,bc.cons.2 ⟨cJ _ (by decide),bc.nil⟩⟩,by show S/_≤1;omega,?_⟩,by simp only[];omega⟩;simp only[Gw,hol,aX a i,aX b i,a2];have:=iy (4294967296^i) S;have h3:4294967296^i*S=4294967296^i*a.getD i 0+4294967296^i*b.getD i 0+4294967296^i*c:=by rw[hS,an,an]
  omega
 ·have dm:i=N:=by have:=ar h;omega
  subst dm;rw[ab (by omega),ab (by omega)]at hv;have h1:=dH ha;have h2:=dH hb
  have hc0:c=0:=by
   have h3:=jI (show a.length≤i-1 by omega);have h4:=jI (show b.length≤i-1 by omega);have h5:4294967296^i=4294967296^(i-1)*4294967296:=by rw[←a2];congr 1;omega
   rcases bv c with h|h
   ·exact h
   ·have:4294967296^i*1≤4294967296^i*c:=am _ h;omega
  have hres:nv out=nv a+nv b:=by rw[hc0]at hv;simpa using hv
  refine AW.exit<|qX 1 rfl<|ae.iu tok 5 rfl rfl ?_;refine qM rfl (iH out how (by omega)) ?_;refine qU 1 rfl<|ae.nil ?_;rw[hres];exact AW.ret rfl
theorem zS{c:Nat}(hx:x<4294967296)(hy:y<4294967296)(hc:c≤1):y+c≤4294967296+x∧(4294967296+x-y-c)/4294967296≤1∧(4294967296+x-y-c)%4294967296+y+c=x+4294967296*(1-(4294967296+x-y-c)/4294967296):=by omega
theorem sI(a b:List Nat)(ha:bc a)(hb:bc b)(hla:a.length≤35184372088830)(hle:nv b≤nv a):Pure Tryz.prog 188 [Wd a,Wd b] (Wd (tw (nv a-nv b))):=by
 refine qJ 35 Tryz.func188 rfl fun B F0 w0=>?_;obtain⟨N,hN⟩: ∃N,N=a.length:=⟨_,rfl⟩;refine qX 1 rfl<|qK 1 rfl<|qK 1 rfl<|qI<|qX 3 rfl ?_;rw[bf,←hN];refine ae.nil<|AW.block ?_
 refine AW.aK [0,1,5,6,10,11] (fun s:Nat×List Nat×Nat=>[(0,.d (Wd a)),(1,.d (Wd b)),(5,.ow 117 (s.2.1.map wd)),(6,.d (dU s.2.2)),(10,.d (dI N)),(11,.d (dI s.1))])
  (fun s=>s.1≤N∧s.2.1.length=s.1∧bc s.2.1∧s.2.2≤1∧nv s.2.1+nv (b.take s.1)=nv (a.take s.1)+4294967296^s.1*s.2.2) (fun s=>N-s.1) (0,[],0) rfl ⟨cj _,rfl,bc.nil,by simp,by simp[nv]⟩ (fun (i,out,c) ⟨hi,hol,how,hc,hv⟩=>?_)
 simp only[]at hi hol how hc hv;refine qX 1 rfl<|qI<|AW.cond rfl (fun h=>?_) fun h=>?_
 ·have dm:i<N:=by have:=ao h;omega
  refine AW.skip<|AW.seq<|AW.block<|qX 2 rfl<|qK 2 rfl<|qM rfl (fO a ha i) ?_;refine qU 3 rfl<|qM rfl (fO b hb i) ?_;refine qU 4 rfl ?_;have hx:=ha.getD i;have hy:=hb.getD i;obtain⟨hd1,hd2,hd3⟩:=zS hx hy hc;rw[Pp (a.getD i 0) hx,K8 (4294967296+a.getD i 0) (b.getD i 0) (by omega) (by omega),K8 (4294967296+a.getD i 0-b.getD i 0) c (by omega) (by omega)];refine ae.nil ?_;obtain⟨S,hS⟩: ∃S,S=4294967296+a.getD i 0-b.getD i 0-c:=⟨_,rfl⟩;rw[←hS]at hd2 hd3 ⊢;refine qT 3 rfl ?_;rw[fK];refine ae.bs tok rfl rfl rfl rfl ?_;refine ae.jw tok rfl rfl rfl rfl rfl rfl (by show((out.map wd).length+1)*4≤_;rw[bf];omega) (by show(out.map wd).length+1≤_;rw[bf];omega) ?_;refine qU 5 rfl ?_;rw[lf,IA (S/4294967296) hd2];refine ae.nil<|qT 2 rfl ?_;rw[aD (by omega) (by omega)];refine ae.nil ?_;refine⟨(i+1,out++[S%4294967296],1-S/4294967296),by rw[←xV];rfl,⟨by omega,by simp[hol],bc.append.2 ⟨how,bc.cons.2 ⟨cJ _ (by decide),bc.nil⟩⟩,by show 1-S/_≤1;omega,?_⟩,by simp only[];omega⟩;simp only[Gw,hol,aX a i,aX b i,a2];have:=congrArg (fun z=>4294967296^i*z) hd3;simp only[an]at this;rw[cB];omega
 ·have dm:i=N:=by have:=ar h;omega
  subst dm;rw[ab (l:=a) (by omega)]at hv;have h1:=dH ha;have h3:=dH how;rw[hol]at h3;rw[←hN]at h1
  have hbt:nv (b.take i)=nv b:=by
   by_cases hlb:i≤b.length
   ·have h4:=bE b i hlb;rcases bv (nv (b.drop i))with h|h
    ·rw[h4,h];omega
    ·have:4294967296^i*1≤4294967296^i*nv (b.drop i):=am _ h;omega
   ·rw[ab (by omega)]
  have hc0:c=0:=by
   rcases bv c with h|h
   ·exact h
   ·have:4294967296^i*1≤4294967296^i*c:=am _ h;omega
  have hres:nv out=nv a-nv b:=by rw[hc0]at hv;omega
  refine AW.exit<|qX 1 rfl<|ae.iu tok 5 rfl rfl ?_;refine qM rfl (iH out how (by omega)) ?_;refine qU 1 rfl<|ae.nil ?_;rw[hres];exact AW.ret rfl
end Lift
