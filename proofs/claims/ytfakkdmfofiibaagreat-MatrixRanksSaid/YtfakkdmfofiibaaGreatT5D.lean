/- Parts of the proof, one behind the other: the logic, the contracts of the functions that the statement reaches. -/
import Derived.Test.YtfakkdmfofiibaaGreatT5C
import Derived.OrdersHeld
import Derived.OrdersIn
import Derived.TacticsIn
import Derived.RangeFuncCalls
import Derived.RangeFuncKeeps
import Derived.Laws.StructEq
set_option linter.unusedVariables false
set_option linter.unusedSimpArgs false
namespace Lift
open Go
open Go.RowKit (Below)
section
variable {P:Program} {T:Ty} {B:Nat} {F0:Nat→Prop} {w0:bQ} {n:Nat} {σ σ' τ:St} {R R':List LR} {ops:Array Oper} {o:Oper} {d:Nat} {Q:Exit→List LR→St→Prop} {a:Act} {w:World}
abbrev fY:=List (Nat×List D)
def SB(β:fY)(bl:Nat→Nat)(w:World):Prop:= ∀t ds,(t,ds)∈β→ ∀(i:Nat) (u:Value),ds[i]?=some (.v u)→ ∃cs e fz,w.heap[bl t]?=some (.cells cs e fz)∧cs[i]?=some u
def cH(β:fY)(bl:Nat→Nat):iM:=β.map fun x=>(x.1,.pointer (some ⟨bl x.1,0,none⟩))
def lg(σ:St):fY→Prop
 | []=>True
 | (t,ds)::r=>σ.get t=some (.bx ds)∧lg σ r
theorem lg.get: ∀{β:fY},lg σ β→ ∀t ds,(t,ds)∈β→σ.get t=some (.bx ds)
 | [],_,t,ds,h=>by cases h
 | (t',ds')::r,h,t,ds,hm=>by
   rcases List.mem_cons.1 hm with e | e
   · cases e;exact h.1
   · exact lg.get h.2 t ds e
theorem tH{β:fY}{bl:Nat→Nat}(h:eG (cH β bl) a){t:Nat}{ds:List D}(hm:(t,ds)∈β):a.tmps[t]?=some (.pointer (some ⟨bl t,0,none⟩)) :=
 h (t,_) (List.mem_map.2 ⟨(t,ds),hm,rfl⟩)
theorem EO{β:fY}{bl:Nat→Nat}(hR:bA P B F0 w0 n R σ a w)(hσ:lg σ β)(hp:eG (cH β bl) a):SB β bl w:=by
 intro t ds hm i u hu;obtain ⟨O,_,hO,_⟩:=hR.own;obtain ⟨v,hv,b,cs,e,rfl,_,g2,g3⟩:=hO t _ (hσ.get t ds hm);rw[tH hp hm] at hv;simp only[Option.some.injEq,Value.pointer.injEq,Addr.mk.injEq] at hv;obtain ⟨rfl,_,_⟩:=hv;obtain ⟨_,u',h1,h2⟩:=g3.get hu;rw[(Rd.jw h2).1] at h1;exact⟨cs,e,_,g2,by simpa using h1⟩
def ZH(P:Program)(B:Nat)(F0:Nat→Prop)(w0:bQ)(n:Nat)(ops:Array Oper)(Q:Exit→List LR→St→Prop)(β:fY)(fuel:Nat)(listed:Array Bool)(R:List LR)(σ:St):Prop :=
 lg σ β∧ ∀(bl:Nat→Nat) (a:Act) (w:World),bA P B F0 w0 n R σ a w→eG (cH β bl) a →
  wpAnyH P .any ops (fun e a' w'=> ∃R' σ',Q e R' σ'∧bA P B F0 w0 n R' σ' a' w') (SB β bl) fuel listed a w
theorem bA.drew(hR:bA P B F0 w0 n R σ a w):bA P B F0 w0 n R σ a {w with drawn:=w.drawn+1}:=by
 obtain ⟨O,hOr,hO,hL⟩:=hR.own;refine⟨hR.below.drew,hR.base,hR.f0,hR.defers,hR.size,O,hOr,fun t av h=>?_,fun i r hr=>?_⟩
 · obtain ⟨v,hv,hr⟩:=hO t av h;exact⟨v,hv,hr.move (fun c hc=>⟨hc,rfl⟩) (fun _ c hc=>⟨hc,rfl⟩) (fun k _ x _ hk=>⟨hk,rfl⟩)⟩
 · rcases hL i r hr with h | ⟨g1,g2,g3⟩
   · exact .inl h
   · exact .inr ⟨g1,g2,g3.move (fun c hc=>⟨hc,rfl⟩) (fun _ c hc=>⟨hc,rfl⟩) (fun k _ x _ hk=>by cases hk)⟩
theorem ZH.any{β:fY}(h:ZH P B F0 w0 n ops Q β ops.size (Array.replicate ops.size false) R σ):gL P B F0 w0 n ops Q R σ:=by
 intro a w hR;refine wpAny_of_held _ _ _ _ (h.2 (fun t=>match a.tmps[t]? with | some (.pointer (some ⟨b,_,_⟩))=>b | _=>0) a _ hR.drew (fun e he=>?_));obtain ⟨⟨t,ds⟩,hm,rfl⟩:=List.mem_map.1 he;obtain ⟨O,_,hO,_⟩:=hR.own;obtain ⟨v,hv,b,cs,e,rfl,_⟩:=hO t _ (h.1.get t ds hm);show a.tmps[t]?=some _;simp only[hv]
theorem s8{β:fY}{bl:Nat→Nat}{K:List LR→St→Prop}(hpn:ed (cH β bl) [o]=true)(h:af P B F0 w0 n ops [o] K [] R σ)(hR:bA P B F0 w0 n R σ a w)(hp:eG (cH β bl) a):
  wpList P ops (fun e a' w'=>(e= .normal∧ ∃R' σ',K R' σ'∧bA P B F0 w0 n R' σ' a' w')∧(e= .normal→eG (cH β bl) a')) [o] a w :=
 gQ hp (gY hpn) (h a w hR (fun e he=>by cases he) _ (fun a w R' σ' h1 h2=>⟨rfl,R',σ',h1,h2⟩))
theorem ZH.all{β:fY}{fuel:Nat}{listed:Array Bool}(i:Nat)(hr:Region.ready .any ops listed=[i])(ho:ops[i]?=some o)(hg:o.guard=none)(hpn: ∀bl,ed (cH β bl) [o]=true)(hσ:lg σ β)
  (h:af P B F0 w0 n ops [o] (fun R' σ'=>ZH P B F0 w0 n ops Q β fuel (listed.setIfInBounds i true) R' σ') [] R σ):ZH P B F0 w0 n ops Q β (fuel+1) listed R σ:=by
 refine⟨hσ,fun bl a w hR hp=>wpAnyH_all hr (by simp) (fun j hj=>?_)⟩;rw[List.mem_singleton] at hj;subst hj;have h1:=s8 (hpn bl) h hR hp;have hw:Region.wanted o (yielded ops a.tmps)=true:=by simp[Region.wanted,hg]
 unfold wpOp;simp only[ho,hw,if_true];unfold wpList at h1;rw[if_pos hw] at h1;rcases h1 with h1 | ⟨_,a1,w1,⟨h2,_⟩,_⟩
 · refine .inl (iY (fun c a w h=>by cases h.1.1) (fun ⟨a,w,h⟩=>by cases h.1.1) (fun v dd w' hn=>?_) h1);unfold wpList at hn;obtain ⟨⟨_,R',σ',h2,h3⟩,h4⟩:=hn;exact⟨EO h3 h2.1 (h4 rfl),h2.2 bl _ _ h3 (h4 rfl)⟩
 · cases h2
theorem ZH.done{β:fY}{fuel:Nat}{listed:Array Bool}(hr:Region.ready .any ops listed=[])(hσ:lg σ β)(h:Q .normal R σ):ZH P B F0 w0 n ops Q β fuel listed R σ :=
 ⟨hσ,fun bl a w hR hp=>wpAnyH_done hr ⟨R,σ,h,hR⟩ fuel⟩
theorem ZH.to{β:fY}{fuel:Nat}{listed:Array Bool}(ks:List Nat)(τ:St)(h:σ.bn ks=τ)(hσ:lg σ β)(hk:ZH P B F0 w0 n ops Q β fuel listed R τ):ZH P B F0 w0 n ops Q β fuel listed R σ :=
 ⟨hσ,fun bl a w hR hp=>hk.2 bl a w (h▸hR.bn ks) hp⟩
theorem ZH.first{β:fY}{fuel:Nat}{listed:Array Bool}(i:Nat)(ho:ops[i]?=some o)(hg:o.guard=none)(hs:Region.noSelect ops=true)(hf:Region.free .any ops listed i=true)(hr:(Region.ready .any ops listed).contains i=true)
  (hpan: ∀c R σ,Q (.panic c) R σ→False) (hpn: ∀bl,ed (cH β bl) [o]=true) (hσ:lg σ β)
  (hy: ∀bl a w,bA P B F0 w0 n R σ a w→eG (cH β bl) a→ ∃v,∀w',SB β bl w'→(execOp a.eval o).run P w'= .ok (.value v) w')
  (h:af P B F0 w0 n ops [o] (fun R' σ'=>ZH P B F0 w0 n ops Q β fuel (listed.setIfInBounds i true) R' σ') [] R σ):ZH P B F0 w0 n ops Q β (fuel+1) listed R σ:=by
 refine⟨hσ,fun bl a w hR hp=>?_⟩;obtain ⟨v,hv⟩:=hy bl a w hR hp;have hS:=EO hR hσ hp;have hw:Region.wanted o (yielded ops a.tmps)=true:=by simp[Region.wanted,hg]
 refine wpAnyH_take ho hs hf hr (fun c a' w' hq=>?_) (.inl ⟨hw,hv⟩) hS ?_
 · obtain ⟨R',σ',hq,_⟩:=hq;exact(hpan c R' σ' hq).elim
 have h1:=s8 (hpn bl) h hR hp;unfold wpList at h1;rw[if_pos hw] at h1;rcases h1 with h1 | ⟨_,a1,w1,⟨h2,_⟩,_⟩
 · unfold Oper.wp at h1;rw[hv w hS] at h1;simp only[Oper.upon] at h1;unfold wpList at h1;obtain ⟨⟨_,R',σ',h2,h3⟩,h4⟩:=h1;exact h2.2 bl _ _ h3 (h4 rfl)
 · cases h2
def Au:Op→Bool
 | .move _=>true
 | _=>false
theorem DL(h:Au o.op=true)(a:Act): ∃v,∀w',(execOp a.eval o).run P w'= .ok (.value v) w':=by
 obtain ⟨dst,op,ty,pos,after,guard⟩:=o;simp only[] at h;cases op<;>simp only[Au] at h<;>try (cases h;done)
 rename_i x;exact⟨a.eval x,fun w'=>by simp[execOp]⟩
def I4(T:Ty)(σ:St)(β:fY):Op→Option (TI×Nat×Nat×List D×Value)
 | .load t (.tmp s)=>match T.get t,σ.get s with
   | some i,some (.pt h off)=>match β.find? (fun x=>Nat.beq x.1 h) with
     | some (_,ds)=>match ds[off]? with
       | some (.v u)=>some (i,h,off,ds,u)
       | _=>none
     | none=>none
   | _,_=>none
 | _=>none
theorem Hr(hT:a6 P T){β:fY}{bl:Nat→Nat}{i:TI}{h off:Nat}{ds:List D}{u:Value}(hR:bA P B F0 w0 n R σ a w)(hσ:lg σ β)(hp:eG (cH β bl) a)(hx:I4 T σ β o.op=some (i,h,off,ds,u))(hl:jo i [.v u]=some (.d (.v u))):
  ∃v,∀w',SB β bl w'→(execOp a.eval o).run P w'= .ok (.value v) w':=by
 obtain ⟨dst,op,ty,pos,after,guard⟩:=o;simp only[] at hx;cases op<;>simp only[I4] at hx<;>try (cases hx;done)
 rename_i t x;cases x<;>simp only[I4] at hx<;>try (cases hx;done)
 rename_i s;split at hx<;>try (cases hx;done)
 rename_i i' h' off' hi hs;split at hx<;>try (cases hx;done)
 rename_i t' ds' hfind;split at hx<;>try (cases hx;done)
 rename_i u' hu;simp only[Option.some.injEq,Prod.mk.injEq] at hx;obtain ⟨rfl,rfl,rfl,rfl,rfl⟩:=hx;have hm:=List.mem_of_find?_eq_some hfind;have he:t'=h':=Nat.eq_of_beq_eq_true (@List.find?_some _ (fun x=>Nat.beq x.1 h') (t',ds') β hfind);subst he;obtain ⟨info,dd,z,hok⟩:=hT t i' hi;obtain ⟨O,hOr,hO,_⟩:=hR.own;obtain ⟨v,hv,hr⟩:=hO s _ hs;obtain ⟨b,hb,rfl⟩:=hr ds' (hσ.get t' ds' hm);obtain ⟨_,_,_,_,_,_,_,_,g3⟩:=hO t' _ (hσ.get t' ds' hm);obtain ⟨hc,u2,_,hr2⟩:=g3.get hu;have hpl:=(Rd.jw hr2).2;have hb:a.tmps[t']?=some (.pointer (some ⟨b,0,none⟩)):=hb;rw[tH hp hm] at hb;simp only[Option.some.injEq,Value.pointer.injEq,Addr.mk.injEq] at hb;obtain ⟨rfl,_,_⟩:=hb;have hev:a.eval (.tmp s)= .pointer (some ⟨bl t',off',none⟩):=ew hv;refine⟨u',fun w' hS=>?_⟩;obtain ⟨cs,e,fz,h1,h2⟩:=hS t' ds' hm off' u' hu
 obtain ⟨x,v,hx,hrun,hrd⟩:=ki (w:=w') hok h1 (off:=off') (F:=fun _=>True) (ds:=[.v u']) (fun j z hj=>by
  cases j with
  | zero=>simp at hj;subst hj;exact⟨hc,u',h2,.v hpl⟩
  | succ j=>simp at hj) hl
 cases hx;have:=(Rd.jw hrd).1;subst this;simp[execOp,Instr.loadAt,Instr.sureAddr,hev,hrun]
end
end Lift
namespace Lift
open Go
open Go.RowKit (Below)
section
variable {P:Program} {T:Ty} {B:Nat} {F0:Nat→Prop} {w0:bQ} {n:Nat} {σ:St} {R:List LR} {all:Array Oper} {l:List Oper} {x:Code} {a:Act} {w:World} {K:List LR→St→Prop} {p:iM}
end
end Lift
namespace Lift
open Go
open Go.RowKit (Below)
abbrev fZ:Value:= .slice none 0 0
def GY(d:D)(v:Value):Bool:=IX d v||match d,v with
 | .v (.slice none 0 0),.slice none 0 0=>true
 | _,_=>false
def sQ:List D→List Value→Bool
 | [],[]=>true
 | d::ds,v::vs=>GY d v&&sQ ds vs
 | _,_=>false
theorem E2{w:World}{F:Nat→Prop}{d:D}{v:Value}(h:GY d v=true):d.aR=true∧Rd w F d v:=by
 unfold GY at h;rw[Bool.or_eq_true] at h;rcases h with h | h
 · exact CK h
 · split at h<;>try (cases h;done)
   exact⟨rfl,.v rfl⟩
theorem xM{w:World}{F:Nat→Prop}: ∀{ds:List D} {vs:List Value},sQ ds vs=true→kD w F ds vs
 | [],[],_=>⟨rfl,fun i d u h=>by simp at h⟩
 | [],_::_,h=>by simp[sQ] at h
 | _::_,[],h=>by simp[sQ] at h
 | d::ds,v::vs,h=>by
   simp only[sQ,Bool.and_eq_true] at h;have ih:=xM (w:=w) (F:=F) h.2;have h1:=E2 (w:=w) (F:=F) h.1;refine⟨by simp[ih.1],fun i d' u hd hu=>?_⟩;cases i with
   | zero=>simp at hd hu;subst hd;subst hu;exact h1
   | succ i=>exact ih.2 i d' u (by simpa using hd) (by simpa using hu)
section
variable {P:Program} {T:Ty} {B:Nat} {F0:Nat→Prop} {w0:bQ} {n:Nat} {σ τ σ0:St} {R:List LR} {ops all:Array Oper} {l rest:List Oper} {o:Oper} {d:Nat} {lk hm:Nat→Option AV} {x:Code} {a:Act} {w:World} {K:List LR→St→Prop} {p:iM} {ds:List Nat}
def Gk(T:Ty)(lk:Nat→Option AV)(zs:List D):Op→Option (Nat×List D)
 | .build t parts=>match T.get t,qg T lk parts.toList with
   | some i,some ps=>match Nat.beq i.kind 5 with
     | true=>match vW i.fields zs ps with
       | some cs=>some (t,cs)
       | none=>none
     | false=>none
   | _,_=>none
 | _=>none
def wj(P:Program)(t:Nat)(zs:List D):Bool:=match P.info? t with
 | some info=>match info.zero with
   | some z=>sQ zs z.cells.toList
   | none=>false
 | none=>false
theorem aB.EE(hT:a6 P T)(zs:List D){t:Nat}{cs:List D}(hd:o.dst=some d)(hn:hm d=none)(hx:Gk T lk zs o.op=some (t,cs))(hz:wj P t zs=true):aB P B F0 w0 d o lk hm (.d (.ag cs)):=by
 refine⟨hd,hn,fun a w O hI K Q hK=>?_⟩;obtain ⟨dst,op,ty,pos,after,guard⟩:=o;simp only[] at hd hx hI;cases op<;>simp only[Gk] at hx<;>try (cases hx;done)
 rename_i t' parts;split at hx<;>try (cases hx;done)
 rename_i i ps hi hps;split at hx<;>try (cases hx;done)
 rename_i hk;split at hx<;>simp at hx;rename_i cs' hcs;obtain ⟨rfl,rfl⟩:=hx;obtain ⟨info,dd,z,hok⟩:=hT t' i hi
 have hzs:sQ zs z.cells.toList=true:=by
  unfold wj at hz;rw[hok.hinfo] at hz;simp only[hok.zero] at hz;exact hz
 obtain ⟨fs,hu,hfs,hall⟩:=hok.DV hk
 have hp:=nU hT hI parts.toList ps (fun p hp t ht=>by
  simp only[Op.operands];have:p.2∈parts.toList.map (·.2):=List.mem_map.2 ⟨p,hp,rfl⟩;rw[ht] at this
  simpa using this) hps
 obtain ⟨cs2,e1,e2,e3⟩:=qV ps (parts.toList.map fun (i,x)=>(i,a.eval x)) zs z.cells cs' (by simp[hp.1]) hp.2 (xM hzs) hcs
 have hmap:fs.toList.mapM (fun f=>(P.info? f.type).map fun i=>(f.offset,i.size))=some (i.fields.map fun x=>(x.1,x.2.1)):=by
  rw[← hfs];clear hfs hu hcs e1;generalize fs.toList=l at hall
  induction l with
  | nil=>rfl
  | cons f l ih =>
    obtain ⟨⟨j,hj⟩,_,_⟩:=hall f (by simp);simp[List.mapM_cons,hj,ih (fun f hf=>hall f (by simp[hf])),fieldsOf,Program.cellsOf]
 have hb:P.built t' (parts.toList.map fun (i,x)=>(i,a.eval x))=some cs2:=by
  unfold Program.built;simp only[hok.hinfo,hu,hok.zero,hmap];rw[← e1]
  congr 1
  funext k;simp
 have hrun:=run_build w t' (parts.map fun (i,x)=>(i,a.eval x)) cs2 (by simpa using hb);refine aX (v:= .agg cs2) (w':=w) (by simp only[execOp,Sem.run_bind,hrun,Result.andThen_ok];rfl) (hK _ w O (cU.refl hI.lt) ?_)
 have:=Rd.ag (w:=w) (F:=aE O (FW B F0 w)) (l:=cs') (vs:=cs2.toList) e2.1 (fun x hx=>by
  obtain ⟨j,hj⟩:=List.mem_iff_getElem?.1 hx
  exact(e2.get hj).1) (fun j x u h1 h2=>(e2.2 j x u h1 h2).2)
 show Rd _ _ _ _;simpa using this
theorem ab.EE(hT:a6 P T){K:St→Prop}(zs:List D){t:Nat}{cs:List D}(hd:o.dst=some d)(hdn:Nat.ble (d+1) n=true)(hg:aq all σ o=true)(hx:Gk T σ.get zs o.op=some (t,cs))(hz:wj P t zs=true)
  (h:ab P B F0 w0 n all rest K ((d,.d (.ag cs))::σ)):ab P B F0 w0 n all (o::rest) K σ:=ab.pure hg hdn (aB.EE hT zs hd (a5 σ d) hx hz) h
theorem ae.EE(hT:a6 P T){K:St→Prop}(zs:List D){t:Nat}{cs:List D}(hd:o.dst=some d)(hdn:Nat.ble (d+1) n=true)(hg:aq ops τ o=true)(hs:σ0.get d=none)(hx:Gk T τ.get zs o.op=some (t,cs))(hz:wj P t zs=true)
  (h:ae P B F0 w0 n ops ds σ0 rest ((d,.d (.ag cs))::τ) K):ae P B F0 w0 n ops ds σ0 (o::rest) τ K:=ae.pure hd hdn rfl hg (aB.EE hT zs hd hs hx hz) h
theorem bA.xa(e:Nat)(hR:bA P B F0 w0 n R σ a w):bA P B F0 w0 n (R++[(fZ,.ow e [])]) σ a w:=by
 obtain ⟨O,hOr,hO,hL⟩:=hR.own;refine⟨hR.below,hR.base,hR.f0,hR.defers,hR.size,O,hOr,hO,fun i r hr=>?_⟩;rcases Nat.lt_or_ge i R.length with h | h
 · rw[List.getElem?_append_left h] at hr;exact hL i r hr
 · rw[List.getElem?_append_right h] at hr
   have:i-R.length=0:=by
    rcases Nat.eq_zero_or_pos (i-R.length) with e | e
    · exact e
    · rw[List.getElem?_eq_none (by simp;omega)] at hr;cases hr
   rw[this] at hr;cases hr;exact .inr ⟨rfl,rfl,.inl ⟨none,rfl,rfl⟩⟩
theorem AZ.xa{Q:Exit→List LR→St→Prop}(e:Nat)(h:AZ P B F0 w0 n x Q (R++[(fZ,.ow e [])]) σ):AZ P B F0 w0 n x Q R σ:=fun a w hR=>h a w (hR.xa e)
end
end Lift
namespace Lift
open Go
open Go.RowKit (Below)
section
variable {P:Program} {T:Ty} {B:Nat} {F0:Nat→Prop} {w0:bQ} {n:Nat} {σ:St} {R:List LR} {ops:Array Oper} {o:Oper} {Q:Exit→List LR→St→Prop} {β:fY} {fuel:Nat} {listed:Array Bool}
theorem ao{K:List LR→St→Prop}(h: ∀B1 F1 w1,ab P B1 F1 w1 n ops [o] (fun σ'=>σ'.ft=true∧K R σ') σ):af P B F0 w0 n ops [o] K [] R σ :=
 af.cut 1 rfl (fun B1 F1 w1=>by
  have:=h B1 F1 w1
  refine fun a w hR Q hQ=>this a w hR Q (fun a' w' σ' ⟨h1,h2⟩ hR'=>hQ a' w' σ' ⟨h1,af.nil h2⟩ hR'))
theorem ZH.mv(i:Nat)(ho:ops[i]?=some o)(hg:o.guard=none)(hs:Region.noSelect ops=true)(hf:Region.free .any ops listed i=true)(hr:(Region.ready .any ops listed).contains i=true)(hm:Au o.op=true)
  (hpan: ∀c R σ,Q (.panic c) R σ→False) (hpn: ∀bl,ed (cH β bl) [o]=true) (hσ:lg σ β)
  (h: ∀B1 F1 w1,ab P B1 F1 w1 n ops [o] (fun σ'=>σ'.ft=true∧ZH P B F0 w0 n ops Q β fuel (listed.setIfInBounds i true) R σ') σ):ZH P B F0 w0 n ops Q β (fuel+1) listed R σ :=
 ZH.first i ho hg hs hf hr hpan hpn hσ (fun bl a w _ _=>let ⟨v,h⟩:=DL hm a;⟨v,fun w' _=>h w'⟩) (ao h)
theorem ZH.fd(hT:a6 P T)(i:Nat)(ho:ops[i]?=some o)(hg:o.guard=none)(hs:Region.noSelect ops=true)(hf:Region.free .any ops listed i=true)(hr:(Region.ready .any ops listed).contains i=true)(hm:Eb T σ o.op=true)
  (hpan: ∀c R σ,Q (.panic c) R σ→False) (hpn: ∀bl,ed (cH β bl) [o]=true) (hσ:lg σ β)
  (h: ∀B1 F1 w1,ab P B1 F1 w1 n ops [o] (fun σ'=>σ'.ft=true∧ZH P B F0 w0 n ops Q β fuel (listed.setIfInBounds i true) R σ') σ):ZH P B F0 w0 n ops Q β (fuel+1) listed R σ :=
 ZH.first i ho hg hs hf hr hpan hpn hσ (fun bl a w hR _=>let ⟨v,h⟩:=BD hT hR.rel hm;⟨v,fun w' _=>h w'⟩) (ao h)
theorem ZH.ld(hT:a6 P T)(i:Nat){ti:TI}{t off:Nat}{ds:List D}{u:Value}(ho:ops[i]?=some o)(hg:o.guard=none)(hs:Region.noSelect ops=true)(hf:Region.free .any ops listed i=true)(hr:(Region.ready .any ops listed).contains i=true)(hx:I4 T σ β o.op=some (ti,t,off,ds,u))(hl:jo ti [.v u]=some (.d (.v u)))
  (hpan: ∀c R σ,Q (.panic c) R σ→False) (hpn: ∀bl,ed (cH β bl) [o]=true) (hσ:lg σ β)
  (h: ∀B1 F1 w1,ab P B1 F1 w1 n ops [o] (fun σ'=>σ'.ft=true∧ZH P B F0 w0 n ops Q β fuel (listed.setIfInBounds i true) R σ') σ):ZH P B F0 w0 n ops Q β (fuel+1) listed R σ :=
 ZH.first i ho hg hs hf hr hpan hpn hσ (fun bl a w hR hp=>Hr hT hR hσ hp hx hl) (ao h)
end
end Lift
namespace Lift
open Go
open Go.RowKit (Below)
section
variable {P:Program} {T:Ty} {B:Nat} {F0:Nat→Prop} {w0:bQ} {n:Nat} {σ:St} {R:List LR} {ops:Array Oper} {o o1 o2 o3:Oper} {Q:Exit→List LR→St→Prop} {β:fY} {fuel:Nat} {listed:Array Bool}
def nG(P:Program)(B:Nat)(F0:Nat→Prop)(w0:bQ)(n:Nat)(ops:Array Oper)(Q:Exit→List LR→St→Prop)(β:fY)(fuel:Nat)(listed:Array Bool)(R:List LR)(σ:St)(i:Nat)(o:Oper):Prop :=
 af P B F0 w0 n ops [o] (fun R' σ'=>ZH P B F0 w0 n ops Q β fuel (listed.setIfInBounds i true) R' σ') [] R σ
theorem ZH.many(rs:List Nat)(hr:Region.ready .any ops listed=rs)(hne:rs≠[])(hσ:lg σ β)
  (h: ∀i∈rs,∃o,ops[i]?=some o∧o.guard=none∧(∀bl,ed (cH β bl) [o]=true)∧nG P B F0 w0 n ops Q β fuel listed R σ i o):ZH P B F0 w0 n ops Q β (fuel+1) listed R σ:=by
 refine⟨hσ,fun bl a w hR hp=>wpAnyH_all hr hne (fun j hj=>?_)⟩;obtain ⟨o,ho,hg,hpn,h⟩:=h j hj;have h1:=s8 (hpn bl) h hR hp;have hw:Region.wanted o (yielded ops a.tmps)=true:=by simp[Region.wanted,hg]
 unfold wpOp;simp only[ho,hw,if_true];unfold wpList at h1;rw[if_pos hw] at h1;rcases h1 with h1 | ⟨_,a1,w1,⟨h2,_⟩,_⟩
 · refine .inl (iY (fun c a w h=>by cases h.1.1) (fun ⟨a,w,h⟩=>by cases h.1.1) (fun v dd w' hn=>?_) h1);unfold wpList at hn;obtain ⟨⟨_,R',σ',h2,h3⟩,h4⟩:=hn;exact⟨EO h3 h2.1 (h4 rfl),h2.2 bl _ _ h3 (h4 rfl)⟩
 · cases h2
theorem ZH.two(i j:Nat)(hr:Region.ready .any ops listed=[i,j])(ho1:ops[i]?=some o1)(ho2:ops[j]?=some o2)(hg1:o1.guard=none)(hg2:o2.guard=none)(hp1: ∀bl,ed (cH β bl) [o1]=true)(hp2: ∀bl,ed (cH β bl) [o2]=true)(hσ:lg σ β)
  (h1:nG P B F0 w0 n ops Q β fuel listed R σ i o1) (h2:nG P B F0 w0 n ops Q β fuel listed R σ j o2):ZH P B F0 w0 n ops Q β (fuel+1) listed R σ :=
 ZH.many [i,j] hr (by simp) hσ (fun k hk=>by
   simp only[List.mem_cons,List.not_mem_nil,or_false] at hk;rcases hk with rfl | rfl
   · exact⟨o1,ho1,hg1,hp1,h1⟩
   · exact⟨o2,ho2,hg2,hp2,h2⟩)
theorem ZH.three(i j k:Nat)(hr:Region.ready .any ops listed=[i,j,k])(ho1:ops[i]?=some o1)(ho2:ops[j]?=some o2)(ho3:ops[k]?=some o3)(hg1:o1.guard=none)(hg2:o2.guard=none)(hg3:o3.guard=none)(hp1: ∀bl,ed (cH β bl) [o1]=true)(hp2: ∀bl,ed (cH β bl) [o2]=true)(hp3: ∀bl,ed (cH β bl) [o3]=true)(hσ:lg σ β)
  (h1:nG P B F0 w0 n ops Q β fuel listed R σ i o1) (h2:nG P B F0 w0 n ops Q β fuel listed R σ j o2) (h3:nG P B F0 w0 n ops Q β fuel listed R σ k o3):ZH P B F0 w0 n ops Q β (fuel+1) listed R σ :=
 ZH.many [i,j,k] hr (by simp) hσ (fun m hk=>by
   simp only[List.mem_cons,List.not_mem_nil,or_false] at hk;rcases hk with rfl | rfl | rfl
   · exact⟨o1,ho1,hg1,hp1,h1⟩
   · exact⟨o2,ho2,hg2,hp2,h2⟩
   · exact⟨o3,ho3,hg3,hp3,h3⟩)
theorem ZH.meet(fuel':Nat)(listed':Array Bool)(Rf:Value→List LR)(σf:Value→St)(h: ∀V,ZH P B F0 w0 n ops Q β fuel' listed' (Rf V) (σf V))
  (hk:(∀V,ZH P B F0 w0 n ops Q β fuel' listed' (Rf V) (σf V))→ZH P B F0 w0 n ops Q β fuel listed R σ):ZH P B F0 w0 n ops Q β fuel listed R σ:=hk h
theorem ZH.ls(l':Array Bool)(h:listed=l')(hk:ZH P B F0 w0 n ops Q β fuel l' R σ):ZH P B F0 w0 n ops Q β fuel listed R σ:=h▸hk
end
end Lift
namespace Lift
open Go
section
variable {P:Program} {B:Nat} {F0:Nat→Prop} {w0:bQ} {n:Nat} {σ τ:St} {R:List LR} {ops:Array Oper} {Q:Exit→List LR→St→Prop} {β:fY} {fuel:Nat} {listed l':Array Bool}
def qB(n k:Nat):Array Bool:=⟨(List.range n).map (fun i=>Nat.testBit k i)⟩
theorem qL(hk:ZH P B F0 w0 n ops Q β fuel l' R τ)(h:listed=l')(hs:σ.bn (τ.map Prod.fst)=τ)(hσ:lg σ β):ZH P B F0 w0 n ops Q β fuel listed R σ :=
 ZH.to _ _ hs hσ (ZH.ls _ h hk)
end
end Lift
namespace Lift
open Go
open Go.RowKit (Below)
section
variable {P:Program} {T:Ty} {B:Nat} {F0:Nat→Prop} {w0:bQ} {n:Nat} {σ τ σ0:St} {R:List LR} {ops all:Array Oper} {l rest:List Oper} {o:Oper} {d:Nat} {lk hm:Nat→Option AV} {x:Code} {a:Act} {w:World} {K:List LR→St→Prop} {p:iM} {ds:List Nat}
end
end Lift
namespace Lift
open Go
open Go.RowKit (Below)
def FR(l:Nat):Fence:=Fence.wide.inRound l
def gf(o:Oper):Bool:=match o.op with
 | .defer _=>false
 | _=>true
theorem tR{o:Oper}(h:gf o=true): ∀c,o.op≠ .defer c:=fun c e=>by simp[gf,e] at h
theorem GG{P:Program}{l m:Nat}{o:Oper}{a:Act}{w:World}{K:Act→World→Prop}{Q:Exit→Act→World→Prop}(hnd:gf o=true)(h:o.wp P a w K Q):o.wpIn (FR l) m P a w K Q:=by
 refine⟨fun _ _=>trivial,?_⟩;rw[Oper.semAt_eq _ _ _ (tR hnd)];unfold Oper.wp at h;generalize (execOp a.eval o).run P w=r at h;have hd:(FR l).depth.isSome=true→1≤m:=fun h=>by simp[FR,Fence.inRound,Fence.wide] at h
 cases r with
 | ok x w' =>
   cases x<;>simp only[Oper.upon] at h<;>try (exact h)
   · exact⟨hd,CallsIn.inRound l ((callsIn_wide.2 h).mono (fun e w'' he=>by cases e<;>exact he))⟩
   · refine⟨hd,fun c cs _=>?_⟩;obtain ⟨v,w'',r,s⟩:=h c cs;exact⟨v,w'',r,stepsIn_wide.2 s⟩
 | halt x w'=>cases x<;>simp only[Oper.upon] at h<;>exact h
theorem pW{P:Program}{l m:Nat}{ops:Array Oper}{Q:Exit→Act→World→Prop}(hQ: ¬LetsOut Q): ∀(os:List Oper) (a:Act) (w:World),os.all gf=true→wpList P ops Q os a w→wpListIn (FR l) m P ops Q os a w
 | [],_,_,_,h=>h
 | o::os,a,w,hnd,h=>by
   simp only[List.all_cons,Bool.and_eq_true] at hnd;unfold wpList at h;unfold wpListIn;split at h
   · rw[if_pos (by assumption)];rcases h with h | ⟨_,h⟩
     · exact Oper.wpIn_mono (fun a w h=>pW hQ os a w hnd.2 h) (GG hnd.1 h)
     · exact absurd h hQ
   · rw[if_neg (by assumption)];exact⟨fun _ _=>trivial,pW hQ os _ _ hnd.2 h⟩
theorem oy{P:Program}{l m:Nat}{ops:Array Oper}{Q:Exit→Act→World→Prop}(hQ: ¬LetsOut Q)(hnd:ops.toList.all gf=true): ∀(fuel:Nat) (listed:Array Bool) (a:Act) (w:World),wpAny P .any ops Q fuel listed a w→wpAnyIn (FR l) m P .any ops Q fuel listed a w
 | 0,_,_,_,h=>h
 | fuel+1,listed,a,w,h=>by
   refine⟨h.1,fun i hi=>?_⟩;have h2:=h.2 i hi;unfold wpOp at h2;unfold wpOpIn;cases ho:ops[i]? with
   | none=>rw[ho] at h2;exact oy hQ hnd fuel _ _ _ h2
   | some o =>
     simp only[ho] at h2 ⊢
     have hno:gf o=true:=by
      rw[List.all_eq_true] at hnd;refine hnd o ?_;rw[Array.mem_toList_iff];exact Array.mem_of_getElem? ho
     split at h2
     · rw[if_pos (by assumption)];rcases h2 with h2 | ⟨_,h2⟩
       · exact Oper.wpIn_mono (fun a w h=>oy hQ hnd fuel _ a w h) (GG hno h2)
       · exact absurd h2 hQ
     · rw[if_neg (by assumption)];exact⟨fun _ _=>trivial,oy hQ hnd fuel _ _ _ h2⟩
section
variable {P:Program} {T:Ty} {B:Nat} {F0:Nat→Prop} {w0:bQ} {n r:Nat} {pn:iM} {σ:St} {R:List LR} {x y:Code} {Q:Exit→List LR→St→Prop}
def Ii(P:Program)(B:Nat)(F0:Nat→Prop)(w0:bQ)(n:Nat)(pn:iM)(Q:Exit→List LR→St→Prop):Exit→Act→World→Prop:=fun e a w=>(∃R σ,Q e R σ∧bA P B F0 w0 n R σ a w)∧eG pn a
theorem yE{p:iM}{a:Act}{o:Oper}{v:Value}{d:List Deferred}(hp:eG p a)(hd: ∀e,e∈p→o.dst≠some e.1):eG p ({a with defers:=d}.put o.dst v):=fun e he=>by
 cases hdst:o.dst with
 | none=>exact hp e he
 | some k =>
   have:k≠e.1:=fun h=>hd e he (by rw[hdst,h]);rw[bD (Ne.symm this)];exact hp e he
theorem kG{p:iM}{ops:Array Oper}{Q:Exit→Act→World→Prop}(hd: ∀e,e∈p→ ∀o,o∈ops.toList→o.dst≠some e.1): ∀(fuel:Nat) (listed:Array Bool) (a:Act) (w:World),eG p a→wpAny P .any ops Q fuel listed a w→wpAny P .any ops (fun e a w=>Q e a w∧(e= .normal→eG p a)) fuel listed a w
 | 0,_,_,_,hp,h=>⟨h.1,h.2,fun _=>hp⟩
 | fuel+1,listed,a,w,hp,h=>by
   refine⟨fun hr=>⟨h.1 hr,fun _=>hp⟩,fun i hi=>?_⟩;have h2:=h.2 i hi;unfold wpOp at h2 ⊢;cases ho:ops[i]? with
   | none=>simp only[ho] at h2 ⊢; exact kG hd fuel _ _ _ hp h2
   | some o =>
     simp only[ho] at h2 ⊢;have hmem:o∈ops.toList:=by rw[Array.mem_toList_iff];exact Array.mem_of_getElem? ho
     have hdo: ∀e,e∈p→o.dst≠some e.1:=fun e he=>hd e he o hmem;split at h2
     · rw[if_pos (by assumption)];rcases h2 with h2 | ⟨h3,a1,w1,h4⟩
       · exact .inl (iY (fun c a w h=>⟨h,fun e=>by cases e⟩) (fun ⟨a,w,h⟩=>⟨a,w,h,fun e=>by cases e⟩) (fun v d w h=>kG hd fuel _ _ _ (yE hp hdo) h) h2)
       · exact .inr ⟨h3,a1,w1,h4,fun e=>by cases e⟩
     · rw[if_neg (by assumption)];exact kG hd fuel _ _ _ (yE (d:=a.defers) hp hdo) h2
theorem y6{c:Operand}{b:Bool}{a:Act}{w:World}(hc:iJ σ c=some b)(hR:bA P B F0 w0 n R σ a w):a.eval c= .bool b:=by
 unfold iJ at hc;split at hc<;>try (cases hc;done)
 · split at hc<;>simp at hc;rename_i hg;subst hc;obtain ⟨O,hOr,hO,_⟩:=hR.own;obtain ⟨v,hv,hr⟩:=hO _ _ hg;have:=(Rd.jw hr).1;subst this;exact ew hv
 · simp at hc;subst hc;rfl
def AR(P:Program)(B:Nat)(F0:Nat→Prop)(w0:bQ)(n r:Nat)(pn:iM)(c:Code)(Q:Exit→List LR→St→Prop)(R:List LR)(σ:St):Prop :=
 ∀(m:Nat) (a:Act) (w:World),bA P B F0 w0 n R σ a w→eG pn a→c.wpIn (FR r) m P (Ii P B F0 w0 n pn Q) a w
theorem AR.skip(h:Q .normal R σ):AR P B F0 w0 n r pn .skip Q R σ:=fun m a w hR hp=>wpIn_skip ⟨⟨R,σ,h,hR⟩,hp⟩
theorem AR.exit{id:Nat}(h:Q (.exit id) R σ):AR P B F0 w0 n r pn (.exit id) Q R σ:=fun m a w hR hp=>wpIn_exit ⟨⟨R,σ,h,hR⟩,hp⟩
theorem AR.ret(h:Q .ret R σ):AR P B F0 w0 n r pn .ret Q R σ:=fun m a w hR hp=>wpIn_ret ⟨⟨R,σ,h,hR⟩,hp⟩
theorem AR.seq(h:AR P B F0 w0 n r pn x (CU (AR P B F0 w0 n r pn y Q) Q) R σ):AR P B F0 w0 n r pn (.seq x y) Q R σ:=by
 intro m a w hR hp;refine wpIn_seq (wpIn_mono (h m a w hR hp) fun e a' w' ⟨⟨R',σ',hq,hR'⟩,hp'⟩=>?_);cases e<;>first | exact hq m a' w' hR' hp' | exact⟨⟨R',σ',hq,hR'⟩,hp'⟩
theorem AR.block{id:Nat}(h:AR P B F0 w0 n r pn x (xz id Q) R σ):AR P B F0 w0 n r pn (.block id x) Q R σ:=by
 intro m a w hR hp;refine wpIn_block (wpIn_mono (h m a w hR hp) fun e a' w' ⟨⟨R',σ',hq,hR'⟩,hp'⟩=>?_);cases e with
 | exit i =>
   simp only[xz] at hq;simp only[Exit.inBlock];split at hq
   · rename_i hb;rw[if_pos (Nat.eq_of_beq_eq_true hb)];exact⟨⟨R',σ',hq,hR'⟩,hp'⟩
   · rename_i hb;rw[if_neg (Nat.ne_of_beq_eq_false hb)];exact⟨⟨R',σ',hq,hR'⟩,hp'⟩
 | _=>exact⟨⟨R',σ',hq,hR'⟩,hp'⟩
theorem AR.region{id:Nat}{ops:Array Oper}(hnd:ops.toList.all gf=true)(hpn:ed pn ops.toList=true)(h:af P B F0 w0 n ops ops.toList (Q .normal) [] R σ):AR P B F0 w0 n r pn (.region id ops false) Q R σ:=by
 intro m a w hR hp
 have h1:wpList P ops (fun e a' w'=>(e= .normal∧ ∃R' σ',Q .normal R' σ'∧bA P B F0 w0 n R' σ' a' w')∧(e= .normal→eG pn a')) ops.toList a w :=
  gQ hp (gY hpn) (h a w hR (fun e he=>by cases he) _ (fun a w R' σ' h1 h2=>⟨rfl,R',σ',h1,h2⟩))
 refine wpIn_mono (wpIn_region_list (pW (fun ⟨a,w,h⟩=>by cases h.1.1) _ _ _ hnd h1)) (fun e a' w' ⟨⟨he,R',σ',hq,hR'⟩,hp'⟩=>?_);subst he;exact⟨⟨R',σ',hq,hR'⟩,hp' rfl⟩
theorem AR.any{id:Nat}{ops:Array Oper}(ia:P.follows .mixedOrders=true)(hnd:ops.toList.all gf=true)(hpn:ed pn ops.toList=true)(h:gL P B F0 w0 n ops (fun e R σ=>e= .normal∧Q .normal R σ) R σ):AR P B F0 w0 n r pn (.region id ops true) Q R σ:=by
 intro m a w hR hp;have h1:=kG (gY hpn) _ _ _ _ (show eG pn a from hp) (h a w hR);refine wpIn_mono (wpIn_region_any ia (oy (fun ⟨a,w,h⟩=>by obtain ⟨⟨_,_,⟨h,_⟩,_⟩,_⟩:=h;cases h) hnd _ _ _ _ h1)) (fun e a' w' ⟨⟨R',σ',⟨he,hq⟩,hR'⟩,hp'⟩=>?_);subst he;exact⟨⟨R',σ',hq,hR'⟩,hp' rfl⟩
theorem AR.to(ks:List Nat)(τ:St)(h:σ.bn ks=τ)(hk:AR P B F0 w0 n r pn x Q R τ):AR P B F0 w0 n r pn x Q R σ:=fun m a w hR hp=>hk m a w (h▸hR.bn ks) hp
theorem AR.cond{c:Operand}{b:Bool}(hc:iJ σ c=some b)(h1:b=true→AR P B F0 w0 n r pn x Q R σ)(h2:b=false→AR P B F0 w0 n r pn y Q R σ):AR P B F0 w0 n r pn (.cond c x y) Q R σ:=by
 intro m a w hR hp;have he:a.eval c= .bool b:=y6 hc hR;exact wpIn_cond_split he (fun h=>h1 h m a w hR hp) (fun h=>h2 h m a w hR hp)
end
end Lift
namespace Lift
open Go
open Go.RowKit (Below)
inductive Th (T:Ty) (R:List LR) (cs:List D):List D→Prop
 | refl:Th T R cs cs
 | set {ds:List D} {V:Value} {e:Nat} {xs:List D} {te:TI} (k i:Nat) (h:Th T R cs ds) (hk:cs[k]?=some (.v V)) (hi:R[i]?=some (V,.ow e xs)) (he:T.get e=some te):Th T R cs (ds.set k (.sl te.size xs))
section
variable {P:Program} {T:Ty} {B:Nat} {F0:Nat→Prop} {w0:bQ} {n:Nat} {σ σ':St} {R R':List LR} {all:Array Oper} {l rest:List Oper} {o:Oper} {d:Nat} {K:List LR→St→Prop} {p:iM}
theorem Th.rd(hT:a6 P T){w:World}{O:Nat→Option Nat}{F G:Nat→Prop}{cs ds:List D}{vs:List Value}(hr:kD w (aE O F) cs vs)(hL: ∀i r,R[i]?=some r→eM P w O F (n+i) r)(hG: ∀c,F c→G c)(hO: ∀c t,O c=some t→G c)(h:Th T R cs ds):
  ∀(j:Nat) (d:D),ds[j]?=some d→d.aR=true∧ ∃u,vs[j]?=some u∧Rd w G d u:=by
 induction h with
 | refl =>
   intro j d hd;obtain ⟨h1,u,h2,h3⟩:=hr.get hd;exact⟨h1,u,h2,h3.mono (fun c hc=>hG c hc.2) (fun _ _=>rfl)⟩
 | set k i h hk hi he ih =>
   rename_i ds V e xs te;intro j d hd;by_cases hj:j=k
   · subst hj
     have hlt:j<ds.length:=by
      rcases Nat.lt_or_ge j ds.length with h | h
      · exact h
      · rw[List.getElem?_eq_none (by simpa using h)] at hd;cases hd
     rw[List.getElem?_set_self hlt] at hd;cases hd;obtain ⟨_,u,h2,h3⟩:=hr.get hk;have hu:=(Rd.jw h3).1;subst hu;obtain ⟨info,dd,z,hok⟩:=hT e te he;refine⟨rfl,u,h2,?_⟩;rcases hL i _ hi with h | ⟨_,_,h⟩
     · cases h
     · rcases h with ⟨base,g1,g2⟩ | ⟨b,cap,cc,g3,g4,g5,g6,g7,g8,g9,g10⟩
       · simp only at g1 g2;subst g1;subst g2;exact .nil (Nat.zero_le _)
       · simp only at g3;subst g3
         have:=Rd.j7 (w:=w) (F:=G) (s:=P.cellsOf e) (l:=xs) (off:=0) (cap:=cap) (hO b _ g4) g5 g6 g7 g9 (fun m d hd=>by
          obtain ⟨f1,u,f2,f3⟩:=g10 m d hd
          exact⟨f1,u,by simpa using f2,f3.mono (fun c hc=>hG c hc.2) (fun _ _=>rfl)⟩)
         rwa [hok.cellsOf] at this
   · rw[List.getElem?_set_ne (Ne.symm hj)] at hd;exact ih j d hd
theorem eM.plain{w:World}{O O':Nat→Option Nat}{F F':Nat→Prop}{s t e:Nat}{V:Value}{xs:List D}(hp:gB xs=true)(h:eM P w O F s (V,.ow e xs))(hO: ∀c,O c=some s→O' c=some t):eM P w O' F' t (V,.ow e xs):=by
 rcases h with h | ⟨h1,h2,h⟩
 · cases h
 · refine .inr ⟨h1,h2,?_⟩;rcases h with h | ⟨b,cap,cc,g3,g4,g5,g6,g7,g8,g9,g10⟩
   · exact .inl h
   · exact .inr ⟨b,cap,cc,g3,hO b g4,g5,g6,g7,g8,g9,fun i d hd=>by
      obtain ⟨f1,u,f2,f3⟩:=g10 i d hd
      exact⟨f1,u,f2,f3.plain (kR hp hd)⟩⟩
end
end Lift
namespace Lift
open Go
open Go.RowKit (Below)
def FF(ro:Option Nat):Fence:={Fence.wide with round:=ro}
theorem Hh{P:Program}{ro:Option Nat}{m:Nat}{o:Oper}{a:Act}{w:World}{K:Act→World→Prop}{Q Q':Exit→Act→World→Prop}(hnd:gf o=true)(hp: ∀c a w,Q' (.panic c) a w→Q (.panic c) a w)(ho:LetsOut Q'→LetsOut Q)(h:o.wp P a w K Q'):o.wpIn (FF ro) m P a w K Q:=by
 refine⟨fun _ _=>trivial,?_⟩;rw[Oper.semAt_eq _ _ _ (tR hnd)];unfold Oper.wp at h;generalize (execOp a.eval o).run P w=r at h;have hd:(FF ro).depth.isSome=true→1≤m:=fun h=>by simp[FF,Fence.wide] at h
 cases r with
 | ok x w' =>
   cases x<;>simp only[Oper.upon] at h<;>try (exact h)
   · rename_i f args;have h1:CallsIn Fence.wide (m-1) P f args w' _:=(callsIn_wide.2 h).mono (fun e w'' he=>he);refine⟨hd,?_⟩;have h2:CallsIn (FF ro) (m-1) P f args w' _:=h1;exact h2.mono (fun e w'' he=>by cases e<;>first | exact he | exact hp _ _ _ he | exact ho he)
   · refine⟨hd,fun c cs _=>?_⟩;obtain ⟨v,w'',r,s⟩:=h c cs;exact⟨v,w'',r,stepsIn_wide.2 s⟩
 | halt x w'=>cases x<;>simp only[Oper.upon] at h<;>exact hp _ _ _ h
theorem n0{P:Program}{ro:Option Nat}{m:Nat}{ops:Array Oper}{Q Q':Exit→Act→World→Prop}{l2:List Oper}(hk: ∀a w,Q' .normal a w→wpListIn (FF ro) m P ops Q l2 a w)(hp: ∀c a w,¬Q' (.panic c) a w)(ho: ¬LetsOut Q'):
  ∀(l1:List Oper) (a:Act) (w:World),l1.all gf=true→wpList P ops Q' l1 a w→wpListIn (FF ro) m P ops Q (l1++l2) a w
 | [],a,w,_,h=>hk a w h
 | o::l1,a,w,hnd,h=>by
   simp only[List.all_cons,Bool.and_eq_true] at hnd;unfold wpList at h;rw[List.cons_append];unfold wpListIn;split at h
   · rw[if_pos (by assumption)];rcases h with h | ⟨_,h⟩
     · exact Oper.wpIn_mono (fun a w h=>n0 hk hp ho l1 a w hnd.2 h) (Hh hnd.1 (fun c a w h=>absurd h (hp c a w)) (fun h=>absurd h ho) h)
     · exact absurd h ho
   · rw[if_neg (by assumption)];exact⟨fun _ _=>trivial,n0 hk hp ho l1 _ _ hnd.2 h⟩
theorem zy{S:Type}{F:Fence}{m:Nat}{P:Program}{c:Code}{Q:Exit→Act→World→Prop}{a:Act}{w:World}(G:Act→World→S→Prop)(μ:S→Nat)(s0:S)(h0:G a w s0)
  (hb: ∀a w s,G a w s→c.wpIn F m P (Exit.then (fun a' w'=> ∃s',G a' w' s'∧μ s'<μ s) Q) a w):(Code.loop c).wpIn F m P Q a w:=by
 have hex: ∀a w,(∃s,G a w s)→ ∃m,(∃s,μ s=m∧G a w s)∧ ∀s,G a w s→m≤μ s:=fun a w ⟨s,h1⟩=>by
  let q:Nat→Prop:=fun m=> ∃s,μ s=m∧G a w s
  have key: ∀k m,m≤k→q m→ ∃m0,q m0∧ ∀m',q m'→m0≤m':=by
   intro k
   induction k with
   | zero=>intro m hm hp;exact⟨m,hp,fun m' _=>by omega⟩
   | succ k ih =>
     intro m hm hp;by_cases hlt: ∃m',m'≤k∧q m'
     · obtain ⟨m',h1,h2⟩:=hlt;exact ih m' h1 h2
     · exact⟨m,hp,fun m' hp'=>by
        rcases Nat.lt_or_ge k m' with h | h
        · omega
        · exact absurd ⟨m',h,hp'⟩ hlt⟩
  obtain ⟨m0,h3,h4⟩:=key (μ s) (μ s) (Nat.le_refl _) ⟨s,rfl,h1⟩;exact⟨m0,h3,fun s' g=>h4 _ ⟨s',rfl,g⟩⟩
 let M:Act→World→Nat:=fun a w=>open Classical in if h: ∃s,G a w s then Classical.choose (hex a w h) else 0
 have hM: ∀a w,(∃s,G a w s)→(∃s,μ s=M a w∧G a w s)∧ ∀s,G a w s→M a w≤μ s:=fun a w h=>by
  have:=Classical.choose_spec (hex a w h);simp only[M,dif_pos h];exact this
 refine wpIn_loop (fun a w=> ∃s,G a w s) M ⟨s0,h0⟩ (fun a w hg=>?_);obtain ⟨⟨s1,hm,hG⟩,_⟩:=hM a w hg;refine wpIn_mono (hb a w s1 hG) fun e a' w' hq=>?_;cases e with
 | normal =>
   obtain ⟨s',h1,h2⟩:=hq;refine⟨⟨s',h1⟩,?_⟩;have:=(hM a' w' ⟨s',h1⟩).2 s' h1;omega
 | _=>exact hq
structure IS (P:Program) (G:Nat→Prop) (l n:Nat) (x:Option D) (ys:List Nat) (σ:St) (a:Act) (W:World):Prop where
 defers:a.defers=[]
 size:a.tmps.size=n
 y: ∀t,t∈ys→a.tmps[t]?=some (.func (.yield l) #[] #[])
 c: ∀xd,x=some xd→ ∃v,a.tmps[1]?=some v∧Rd W G xd v
 lt: ∀b,x≠none→G b→b<W.heap.size
 sl: ∀t av,σ.get t=some av→ ∃z,av= .d (.v z)∧cW z=true∧a.tmps[t]?=some z
def G'(x:Option D)(σ:St):St:=match x with
 | some xd=>(1,.d xd)::σ
 | none=>σ
def HW:St→Bool
 | []=>true
 | (_,.d (.v _))::r=>HW r
 | _=>false
theorem Bl: ∀{σ:St},HW σ=true→ ∀t av,σ.get t=some av→ ∃z,av= .d (.v z)
 | [],_,t,av,h=>by cases h
 | (k,b)::r,hp,t,av,h=>by
   rw[St.au] at h;unfold HW at hp;split at hp<;>try (cases hp;done)
   · rename_i he;cases he
   · rename_i k' z r' he;cases he;split at h
     · cases h;exact⟨_,rfl⟩
     · exact Bl hp t av h
section
variable {P:Program} {T:Ty} {G:Nat→Prop} {l n:Nat} {x:Option D} {ys:List Nat} {σ τ:St} {a a':Act} {W W':World}
theorem IS.rel(h:IS P G l n x ys σ a W):Rel P W.heap.size (fun b=>x≠none∧G b) ⟨W,fun _=>False⟩ n (G' x σ) a W:=by
 refine⟨.refl _ _ _,Nat.le_refl _,⟨fun b hb=>h.lt b hb.1 hb.2,fun _ h=>h.elim⟩,h.defers,h.size,fun _=>none,(fun b t h=>by cases h),fun t av hav=>?_⟩
 have hsl:σ.get t=some av→ ∃v,a.tmps[t]?=some v∧dw P (fun _=>False) W (fun _=>none) (FW W.heap.size (fun b=>x≠none∧G b) W) (St.get (G' x σ)) (fun h=>a.tmps[h]?) t av v:=fun hav=>by
  obtain ⟨z,rfl,hp,hz⟩:=h.sl t av hav;exact⟨z,hz,.v hp⟩
 cases hx:x with
 | none=>rw[hx] at hav hsl;exact hsl hav
 | some xd =>
   rw[hx] at hsl;rw[hx,G',St.au] at hav;split at hav
   · rename_i e;subst e;cases hav;obtain ⟨v,hv,hr⟩:=h.c xd hx;exact⟨v,hv,Rd.mono hr (fun b hb=>⟨rfl,.inl ⟨by simp,hb⟩⟩) (fun _ _=>rfl)⟩
   · exact hsl hav
theorem IS.step{v:Value}{ys':List Nat}{ks:List Nat}{σ':St}(h:IS P G l n x ys σ a W)(hR:Rel P W.heap.size (fun b=>x≠none∧G b) ⟨W,fun _=>False⟩ n σ' a' W')(hv:x≠none→a'.tmps[1]?=a.tmps[1]?)(hy: ∀t,t∈ys'→a'.tmps[t]?=some (.func (.yield l) #[] #[]))(hk:σ'.bn ks=τ)(hp:HW τ=true):
  IS P G l n x ys' τ a' W'∧Below W.heap.size W W':=by
 have hb:Below W.heap.size W W':=⟨hR.below.os,hR.below.tape,hR.below.output,hR.below.size,fun k hk=>hR.below.block k hk (fun h=>h)⟩;refine⟨⟨hR.defers,hR.size,hy,fun xd hx=>?_,fun b hx hG=>Nat.lt_of_lt_of_le (h.lt b hx hG) hb.size,fun t av hav=>?_⟩,hb⟩
 · obtain ⟨u,hu,hr⟩:=h.c xd hx;exact⟨u,by rw[hv (by rw[hx];simp)];exact hu,hr.mono (fun _ h=>h) (fun b hG=>hb.block b (h.lt b (by rw[hx];simp) hG))⟩
 · obtain ⟨z,rfl⟩:=Bl hp t av hav;have hR':=hR.bn ks;rw[hk] at hR';obtain ⟨O,_,hO⟩:=hR'.own;obtain ⟨u,hu,hr⟩:=hO t _ hav;obtain ⟨e,hpl⟩:=Rd.jw hr;subst e;exact⟨_,rfl,hpl,hu⟩
theorem ox{ops:Array Oper}{Q:Exit→Act→World→Prop}{os:List Oper}{a:Act}{W:World}: ∀(ts:List Nat),(∀t,t∈ts→ ∀o,o∈os→o.dst≠some t)→wpList P ops Q os a W→wpList P ops (fun e a' w'=>Q e a' w'∧(e= .normal→ ∀t,t∈ts→a'.tmps[t]?=a.tmps[t]?)) os a W
 | [],_,h=>dN (fun e a w h=>⟨h,fun _ t ht=>by cases ht⟩) h
 | t::ts,hd,h=>by
   have h1:=ox ts (fun t' ht=>hd t' (by simp[ht])) h;refine dN (fun e a' w' h2=>?_) (jB (t:=t) (x:=a.tmps[t]?) os a W (hd t (by simp)) rfl h1);obtain ⟨⟨g1,g2⟩,g3⟩:=h2;refine⟨g1,fun he t' ht=>?_⟩;rcases List.mem_cons.1 ht with rfl | ht
   · exact g3 he
   · exact g2 he t' ht
variable {β:Type} {JJ:β→World→Prop} {ops:Array Oper} {os rest:List Oper} {o:Oper} {Q:Exit→β→Option D→St→Prop} {s s1 s2:β} {c c2:Code} {d:Nat}
def D0(P:Program)(G:Nat→Prop)(l n:Nat)(JJ:β→World→Prop)(Q:Exit→β→Option D→St→Prop):Exit→Act→World→Prop:=fun e a W=> ∃s x σ,Q e s x σ∧IS P G l n x [0] σ a W∧JJ s W
def E1(P:Program)(G:Nat→Prop)(l n:Nat)(JJ:β→World→Prop)(ops:Array Oper)(os:List Oper)(ys:List Nat)(Q:Exit→β→Option D→St→Prop)(s:β)(x:Option D)(σ:St):Prop :=
 ∀(m:Nat) (a:Act) (W:World),IS P G l n x ys σ a W→JJ s W→wpListIn (FF none) m P ops (D0 P G l n JJ Q) os a W
def AI(P:Program)(G:Nat→Prop)(l n:Nat)(JJ:β→World→Prop)(c:Code)(Q:Exit→β→Option D→St→Prop)(s:β)(x:Option D)(σ:St):Prop :=
 ∀(m:Nat) (a:Act) (W:World),IS P G l n x [0] σ a W→JJ s W→c.wpIn (FF none) m P (D0 P G l n JJ Q) a W
def JI(JJ:β→World→Prop):Prop:= ∀s W W',JJ s W→Below W.heap.size W W'→JJ s W'
def Ij(ys:List Nat):iM:=(1::ys).map (fun t=>(t,undef))
theorem E1.nil(h0:0∈ys)(h:Q .normal s x σ):E1 P G l n JJ ops [] ys Q s x σ:=fun m a W hI hJ=>⟨s,x,σ,h,⟨hI.defers,hI.size,fun t ht=>by simp at ht;subst ht;exact hI.y 0 h0,hI.c,hI.lt,hI.sl⟩,hJ⟩
theorem E1.cut(hJ:JI JJ)(k:Nat)(hnd:(os.take k).all gf=true)(hpn:ed (Ij ys) (os.take k)=true)
  (h: ∀B F0 w0,ab P B F0 w0 n ops (os.take k) (fun σ'=> ∃ks τ,σ'.bn ks=τ∧HW τ=true∧E1 P G l n JJ ops (os.drop k) ys Q s x τ) (G' x σ)):E1 P G l n JJ ops os ys Q s x σ:=by
 intro m a W hI hJs
 have h1:wpList P ops (fun e a' w'=>e= .normal∧ ∃σ',(∃ks τ,σ'.bn ks=τ∧HW τ=true∧E1 P G l n JJ ops (os.drop k) ys Q s x τ)∧Rel P W.heap.size (fun b=>x≠none∧G b) ⟨W,fun _=>False⟩ n σ' a' w') (os.take k) a W :=
  h _ _ _ a W hI.rel _ (fun a' w' σ' hk hR'=>⟨rfl,σ',hk,hR'⟩)
 have h2:=ox (1::ys) (fun t ht=>gY hpn (t,undef) (List.mem_map.2 ⟨t,ht,rfl⟩)) h1;rw[← List.take_append_drop k os];refine n0 (ro:=none) (fun a' w' h=>?_) (fun c a w h=>by cases h.1.1) (fun ⟨a,w,h⟩=>by cases h.1.1) _ a W hnd h2;obtain ⟨⟨_,σ',⟨ks,τ,hk,hp,hA⟩,hR'⟩,hkeep⟩:=h;obtain ⟨hI',hb⟩:=hI.step (ys':=ys) (v:=undef) hR' (fun _=>hkeep rfl 1 (by simp)) (fun t ht=>(hkeep rfl t (by simp[ht])).trans (hI.y t ht)) hk hp;exact hA m a' w' hI' (hJ s W w' hJs hb)
theorem IS.wanted(hI:IS P G l n x ys σ a W)(hg:aq ops (G' x σ) o=true):Region.wanted o (yielded ops a.tmps)=true:=by
 unfold aq at hg;split at hg
 · rename_i hgd;simp[Region.wanted,hgd]
 · rename_i g b hgd;split at hg
   · rename_i b' hb';obtain ⟨og,t,h1,h2,h3⟩:=ib hb';have:b'=b:=by simpa using hg
     subst this;simp[Region.wanted,hgd,nK hI.rel h1 h2 h3]
   · cases hg
theorem IS.put{W':World}{x':Option D}{z:Value}(hI:IS P G l n x ys σ a W)(hd:d<n)(h1:d≠1)(hy:d ∉ ys)(hz:cW z=true)(hc: ∀xd,x'=some xd→x=some xd∧(∀b,G b→W'.heap[b]?=W.heap[b]?))(hs:W.heap.size≤W'.heap.size):IS P G l n x' ys ((d,.d (.v z))::σ) (a.put (some d) z) W':=by
 refine⟨by simp[Act.put,hI.defers],by simp[Act.put,hI.size],fun t ht=>?_,fun xd hx=>?_,fun b hx hG=>?_,fun t av hav=>?_⟩
 · rw[bD (show t≠d from fun e=>hy (e▸ht))];exact hI.y t ht
 · obtain ⟨e,hb⟩:=hc xd hx;obtain ⟨v,hv,hr⟩:=hI.c xd e;exact⟨v,by rw[bD (Ne.symm h1)];exact hv,hr.mono (fun _ h=>h) (fun b hG=>hb b hG)⟩
 · cases hx':x' with
   | none=>exact absurd hx' hx
   | some xd =>
     obtain ⟨e,_⟩:=hc xd hx';exact Nat.lt_of_lt_of_le (hI.lt b (by rw[e];simp) hG) hs
 · rw[St.au] at hav;split at hav
   · rename_i e;subst e;cases hav;exact⟨z,rfl,hz,c8 (by rw[hI.size];exact hd)⟩
   · rename_i hne;obtain ⟨z',h2,h3,h4⟩:=hI.sl t av hav;exact⟨z',h2,h3,by rw[bD (Ne.symm hne)];exact h4⟩
theorem E1.yield{dy t1 t2 mm:Nat}{z1 z2:Value}{Kp:World→World→Prop}(hd:o.dst=some d)(hop: ∃ts,o.op= .call {callee:= .value (.tmp dy),args:= #[.tmp t1,.tmp t2],argTypes:=ts})(hdy:dy∈ys)(ht1:σ.get t1=some (.d (.v z1)))(ht2:σ.get t2=some (.d (.v z2)))
  (hg:aq ops (G' x σ) o=true) (hdn:Nat.ble (d+1) n=true) (h1:Nat.beq d 1=false) (hy:d ∉ ys) (hKp: ∀W W',Kp W W'→W.heap.size≤W'.heap.size∧ ∀b,G b→W'.heap[b]?=W.heap[b]?)
  (hyl: ∀W,JJ s W→YieldAt Fence.wide mm P l #[z1,z2] W (fun e W'=>(e= .returned (.bool true)∧JJ s1 W'∧Kp W W')∨(e= .returned (.bool false)∧JJ s2 W')))
  (k1:E1 P G l n JJ ops rest ys Q s1 x ((d,.d (.v (.bool true)))::σ)) (k2: ∀(m:Nat) (a:Act) (W:World),a.defers=[]→a.tmps.size=n→(∀t,t∈ys→a.tmps[t]?=some (.func (.yield l) #[] #[]))→(∀t av,St.get ((d,AV.d (.v (.bool false)))::σ) t=some av→ ∃z,av= .d (.v z)∧cW z=true∧a.tmps[t]?=some z)→JJ s2 W→wpListIn (FF none) m P ops (D0 P G l n JJ Q) rest a W):E1 P G l n JJ ops (o::rest) ys Q s x σ:=by
 intro m a W hI hJs;have hw:=hI.wanted hg;obtain ⟨dst,op,ty,pos,after,guard⟩:=o;simp only[] at hd hop;obtain ⟨ts,rfl⟩:=hop;obtain ⟨_,e1,_,g1⟩:=hI.sl t1 _ ht1;cases e1;obtain ⟨_,e2,_,g2⟩:=hI.sl t2 _ ht2;cases e2;obtain ⟨fn,tmps,assign,body,hyr,hrd⟩:=hyl W hJs;unfold wpListIn;rw[if_pos hw];refine⟨fun _ _=>trivial,?_⟩;rw[Oper.semAt_eq _ _ _ (fun c e=>by cases e)];have hev:=ew (hI.y dy hdy);have ev1:=ew g1;have ev2:=ew g2
 have hrun:(execOp a.eval {dst:=dst,op:= .call {callee:= .value (.tmp dy),args:= #[.tmp t1,.tmp t2],argTypes:=ts},type:=ty,pos:=pos,after:=after,guard:=guard}).run P W= .ok (.round l fn tmps assign body) W:=by
  have e:(#[]:Array Value)++ #[Operand.tmp t1,Operand.tmp t2].map a.eval= #[z1,z2]:=by simp[ev1,ev2]
  simp only[execOp,resolve,Deferred.ofValue,hev,Sem.run_bind,Sem.run_pure,Result.andThen_ok,invoke,e,hyr]
 rw[hrun];have h1:=Nat.ne_of_beq_eq_false h1;have hdn:=Nat.le_of_ble_eq_true hdn;refine⟨fun h=>by simp[FF,Fence.wide] at h,hrd.1,fun c cs _=>?_⟩;obtain ⟨e,w',hR,hc⟩:=hrd.2 c cs (room_wide _);refine⟨e,w',?_,hc⟩;rcases hR with ⟨rfl,hJ1,hK⟩ | ⟨rfl,hJ2⟩
 · show wpListIn (FF none) m P ops _ rest (a.put dst _) w';rw[hd];obtain ⟨hs,hb⟩:=hKp W w' hK;exact k1 m _ w' (hI.put hdn h1 hy rfl (fun xd hx=>⟨hx,hb⟩) hs) hJ1
 · show wpListIn (FF none) m P ops _ rest (a.put dst _) w';rw[hd];refine k2 m _ w' (by simp[Act.put,hI.defers]) (by simp[Act.put,hI.size]) (fun t ht=>?_) (fun t av hav=>?_) hJ2
   · rw[bD (show t≠d from fun e=>hy (e▸ht))];exact hI.y t ht
   · rw[St.au] at hav;split at hav
     · rename_i e;subst e;cases hav;exact⟨_,rfl,rfl,c8 (by rw[hI.size];exact hdn)⟩
     · rename_i hne;obtain ⟨z',h2,h3,h4⟩:=hI.sl t av hav;exact⟨z',h2,h3,by rw[bD (Ne.symm hne)];exact h4⟩
def Gx(K:β→Option D→St→Prop)(Q:Exit→β→Option D→St→Prop):Exit→β→Option D→St→Prop
 | .normal,s,x,σ=>K s x σ
 | .exit i,s,x,σ=>Q (.exit i) s x σ
 | .goto i,s,x,σ=>Q (.goto i) s x σ
 | .ret,s,x,σ=>Q .ret s x σ
 | .panic c,s,x,σ=>Q (.panic c) s x σ
 | .outgrown,s,x,σ=>Q .outgrown s x σ
def ED(id:Nat)(Q:Exit→β→Option D→St→Prop):Exit→β→Option D→St→Prop
 | .normal,s,x,σ=>Q .normal s x σ
 | .exit i,s,x,σ=>match Nat.beq i id with
   | true=>Q .normal s x σ
   | false=>Q (.exit i) s x σ
 | .goto i,s,x,σ=>Q (.goto i) s x σ
 | .ret,s,x,σ=>Q .ret s x σ
 | .panic c,s,x,σ=>Q (.panic c) s x σ
 | .outgrown,s,x,σ=>Q .outgrown s x σ
theorem AI.skip(h:Q .normal s x σ):AI P G l n JJ .skip Q s x σ:=fun m a W hI hJ=>wpIn_skip ⟨s,x,σ,h,hI,hJ⟩
theorem AI.exit{id:Nat}(h:Q (.exit id) s x σ):AI P G l n JJ (.exit id) Q s x σ:=fun m a W hI hJ=>wpIn_exit ⟨s,x,σ,h,hI,hJ⟩
theorem AI.ret(h:Q .ret s x σ):AI P G l n JJ .ret Q s x σ:=fun m a W hI hJ=>wpIn_ret ⟨s,x,σ,h,hI,hJ⟩
theorem AI.seq(h:AI P G l n JJ c (Gx (fun s x σ=>AI P G l n JJ c2 Q s x σ) Q) s x σ):AI P G l n JJ (.seq c c2) Q s x σ:=by
 intro m a W hI hJ;refine wpIn_seq (wpIn_mono (h m a W hI hJ) fun e a' w' ⟨s',x',σ',hq,hI',hJ'⟩=>?_);cases e<;>first | exact hq m a' w' hI' hJ' | exact⟨s',x',σ',hq,hI',hJ'⟩
theorem AI.block{id:Nat}(h:AI P G l n JJ c (ED id Q) s x σ):AI P G l n JJ (.block id c) Q s x σ:=by
 intro m a W hI hJ;refine wpIn_block (wpIn_mono (h m a W hI hJ) fun e a' w' ⟨s',x',σ',hq,hI',hJ'⟩=>?_);cases e with
 | exit i =>
   simp only[ED] at hq;simp only[Exit.inBlock];split at hq
   · rename_i hb;rw[if_pos (Nat.eq_of_beq_eq_true hb)];exact⟨s',x',σ',hq,hI',hJ'⟩
   · rename_i hb;rw[if_neg (Nat.ne_of_beq_eq_false hb)];exact⟨s',x',σ',hq,hI',hJ'⟩
 | _=>exact⟨s',x',σ',hq,hI',hJ'⟩
theorem AI.cond{cc:Operand}{b:Bool}(hc:iJ (G' x σ) cc=some b)(h1:b=true→AI P G l n JJ c Q s x σ)(h2:b=false→AI P G l n JJ c2 Q s x σ):AI P G l n JJ (.cond cc c c2) Q s x σ:=by
 intro m a W hI hJ;have he:a.eval cc= .bool b:=y6 hc hI.rel.z;exact wpIn_cond_split he (fun h=>h1 h m a W hI hJ) (fun h=>h2 h m a W hI hJ)
theorem AI.region{id:Nat}(h:E1 P G l n JJ ops ops.toList [0] Q s x σ):AI P G l n JJ (.region id ops false) Q s x σ:=fun m a W hI hJ=>wpIn_region_list (h m a W hI hJ)
theorem IS.bn(ks:List Nat)(hI:IS P G l n x ys σ a W):IS P G l n x ys (σ.bn ks) a W:=⟨hI.defers,hI.size,hI.y,hI.c,hI.lt,fun t av hav=>by
 have hz:IS P G l n none ys σ a W:=⟨hI.defers,hI.size,hI.y,(fun _ h=>by cases h),(fun _ h _=>absurd rfl h),hI.sl⟩;have hR:=hz.rel.bn ks;have hav2:=hav
 induction ks with
 | nil=>cases hav
 | cons k r ih =>
   simp only[St.bn] at hav;split at hav
   · rename_i av' hk;rw[St.au] at hav;split at hav
     · rename_i e;subst e;cases hav;exact hI.sl _ _ hk
     · exact ih hav (hz.rel.bn r) hav
   · exact ih hav (hz.rel.bn r) hav⟩
theorem AI.aD{S:Type}{xd:Option D}(ks:List Nat)(mk:S→β×St)(I:S→Prop)(μ:S→Nat)(s0:S)(h0:(s,σ.bn ks)=mk s0)(hx:x=xd)(hI0:I s0)
  (hb: ∀s,I s→AI P G l n JJ c (Gx (fun s' x' σ'=> ∃S',x'=xd∧(s',σ'.bn ks)=mk S'∧I S'∧μ S'<μ s) Q) (mk s).1 xd (mk s).2):AI P G l n JJ (.loop c) Q s x σ:=by
 intro m a W hI hJ;subst hx;refine zy (fun a w S'=>I S'∧IS P G l n x [0] (mk S').2 a w∧JJ (mk S').1 w) μ s0 ⟨hI0,by rw[← h0];exact hI.bn ks,by rw[← h0];exact hJ⟩ (fun a w S' ⟨h1,h2,h3⟩=>?_);refine wpIn_mono (hb S' h1 m a w h2 h3) fun e a' w' ⟨s',x',σ',hq,hI',hJ'⟩=>?_;cases e with
 | normal =>
   obtain ⟨S2,g1,g2,g3,g4⟩:=hq;subst g1;exact⟨S2,⟨g3,by rw[← g2];exact hI'.bn ks,by rw[← g2];exact hJ'⟩,g4⟩
 | _=>exact⟨s',x',σ',hq,hI',hJ'⟩
end
end Lift
namespace Lift
open Go
open Go.RowKit (Below)
def mh(w:World)(b:Nat):Prop:= ∃cs e fz,w.heap[b]?=some (.cells cs e fz)
theorem Rd.DM{w w':World}{F F':Nat→Prop}{d:D}{v:Value}(h:Rd w F d v)(hF: ∀b,F b→mh w b→F' b∧w'.heap[b]?=w.heap[b]?):Rd w' F' d v:=by
 induction h with
 | v h=>exact .v h
 | nil hm=>exact .nil hm
 | sl gR hf hbb hcap hm hu hc hk hr ih =>
   obtain ⟨g1,g2⟩:=hF _ hf ⟨_,_,_,hbb⟩;exact .sl gR g1 (g2.trans hbb) hcap hm hu hc hk ih
 | ag hl hk hr ih=>exact .ag hl hk ih
 | tu hl hr ih=>exact .tu hl ih
 | pr gR hf hbb hc hk hr ih =>
   obtain ⟨g1,g2⟩:=hF _ hf ⟨_,_,_,hbb⟩;exact .pr gR g1 (g2.trans hbb) hc hk ih
 | fn ha hc ra rc ih1 ih2=>exact .fn ha hc ih1 ih2
def Fm:AV→Bool
 | .d _=>true
 | .bx _=>true
 | .ow _ _=>false
 | .wn _ _ _ _ _=>false
 | .pt _ _=>false
 | .rf _=>false
 | .e0 _=>false
 | .al _=>false
 | .el _ _ _=>false
 | .sb _ _ _=>false
 | .un=>false
 | .junk=>false
def Fl:St→Bool
 | []=>true
 | (_,a)::r=>Fm a&&Fl r
theorem x7: ∀{σ:St},Fl σ=true→ ∀t av,σ.get t=some av→Fm av=true
 | [],_,t,av,h=>by cases h
 | (k,b)::r,hp,t,av,h=>by
   simp only[Fl,Bool.and_eq_true] at hp;rw[St.au] at h;split at h
   · cases h;exact hp.1
   · exact x7 hp.2 t av h
section
variable {P:Program} {T:Ty} {B:Nat} {F0:Nat→Prop} {w0:bQ} {n:Nat} {σ:St} {R:List LR} {a a':Act} {W W':World}
theorem dw.sim{X X':Nat→Prop}{O O':Nat→Option Nat}{F F':Nat→Prop}{hm hm':Nat→Option AV}{tm tm':Nat→Option Value}{t:Nat}{av:AV}{v:Value}(hs:Fm av=true)(h:dw P X W O F hm tm t av v)
  (hF: ∀c,aE O F c→mh W c→aE O' F' c∧W'.heap[c]?=W.heap[c]?) (hO: ∀c,av.home=true→O c=some t→mh W c→v= .pointer (some ⟨c,0,none⟩)→O' c=some t∧W'.heap[c]?=W.heap[c]?):dw P X' W' O' F' hm' tm' t av v:=by
 cases av<;>simp only[Fm] at hs<;>try (cases hs;done)
 · exact Rd.DM h hF
 · obtain ⟨b,cs,e,h1,h2,h3,h4⟩:=h;obtain ⟨g1,g2⟩:=hO b rfl h2 ⟨_,_,_,h3⟩ h1;exact⟨b,cs,e,h1,g1,g2.trans h3,h4.1,fun i d u k1 k2=>⟨(h4.2 i d u k1 k2).1,(h4.2 i d u k1 k2).2.DM hF⟩⟩
theorem eM.sim{O O':Nat→Option Nat}{F F':Nat→Prop}{s t e:Nat}{V:Value}{xs:List D}(h:eM P W O F s (V,.ow e xs))(hF: ∀c,aE O F c→mh W c→aE O' F' c∧W'.heap[c]?=W.heap[c]?)(hO: ∀c,O c=some s→mh W c→O' c=some t∧W'.heap[c]?=W.heap[c]?):eM P W' O' F' t (V,.ow e xs):=by
 rcases h with h | ⟨h1,h2,h⟩
 · cases h
 · refine .inr ⟨h1,h2,?_⟩;rcases h with h | ⟨b,cap,cc,g3,g4,g5,g6,g7,g8,g9,g10⟩
   · exact .inl h
   · obtain ⟨k1,k2⟩:=hO b g4 ⟨_,_,_,g5⟩
     exact .inr ⟨b,cap,cc,g3,k1,k2.trans g5,g6,g7,g8,g9,fun i d hd=>by
      obtain ⟨f1,u,f2,f3⟩:=g10 i d hd
      exact⟨f1,u,f2,f3.DM hF⟩⟩
theorem bA.more{z:Value}{t:Nat}(hs:Fl σ=true)(hR:bA P B F0 w0 n R σ a W)(ht:a.tmps[t]?=some z)(hz:cW z=true):bA P B F0 w0 n R ((t,.d (.v z))::σ) a W:=by
 obtain ⟨O,hOr,hO,hL⟩:=hR.own;refine⟨hR.below,hR.base,hR.f0,hR.defers,hR.size,O,hOr,fun k av hav=>?_,hL⟩;rw[St.au] at hav;split at hav
 · rename_i e;subst e;cases hav;exact⟨z,ht,Rd.v hz⟩
 · obtain ⟨v,hv,h⟩:=hO k av hav;exact⟨v,hv,h.sim (x7 hs k av hav) (fun c hc _=>⟨hc,rfl⟩) (fun c _ hc _ _=>⟨hc,rfl⟩)⟩
end
end Lift
namespace Lift
open Go
open Go.RowKit (Below)
section
variable {P:Program} {T:Ty} {B:Nat} {F0:Nat→Prop} {w0:bQ} {n:Nat} {o:Oper} {d:Nat} {σ σ':St}
def IP(P:Program)(f:FuncId)(e:Nat)(L:List D)(lo m:Nat)(pre post:List D)(res:D):Prop :=
 q8 P f∧ ∀(w:World) (G:Nat→Prop) (b o cap:Nat) (cs:Array Value) (us vs:List Value),(∀c,G c→c<w.heap.size∧c≠b)→w.heap[b]?=some (.cells cs e (0,0)) →
  ((m=0∨o=lo*P.cellsOf e)∧(cap=0∨o=lo*P.cellsOf e)∧o+cap*P.cellsOf e≤cs.size)→lo+m≤L.length→m≤cap→cap≤maxLen→Cells P w G e L cs→us.length=pre.length→(∀(i:Nat) (d:D) (v:Value),pre[i]?=some d→us[i]?=some v→Rd w G d v) →
  vs.length=post.length→(∀(i:Nat) (d:D) (v:Value),post[i]?=some d→vs[i]?=some v→Rd w G d v) →
  Calls P f (us++Value.slice (some ⟨b,o,none⟩) m cap::vs).toArray w (fun ee w'=> ∃v cs',ee= .returned v∧fv w.heap.size ⟨w,fun c=>c=b⟩ w w'∧w'.heap[b]?=some (.cells cs' e (0,0))∧Cells P w' (FW w.heap.size G w') e L cs'∧Rd w' (FW w.heap.size G w') res v)
def HD(T:Ty)(σ:St)(p:Nat)(rs:List ResultVar)(e:Nat)(L:List D)(res:D):Prop:=(∃lo m,σ.get p=some (.wn true e L lo m))∧B8 T σ rs=some res
def Jh(T:Ty)(p:Nat)(rs:List ResultVar)(e:Nat)(L:List D)(res:D):Exit→St→Prop
 | .normal,σ=>HD T σ p rs e L res
 | .ret,σ=>HD T σ p rs e L res
 | .exit _,_=>False
 | .goto _,_=>False
 | .panic _,_=>False
 | .outgrown,_=>False
theorem IP.intro(hT:a6 P T){f:FuncId}{fn:Func}{c:Code}{rs:List ResultVar}{e lo m:Nat}{pre post L:List D}{res:D}(hf:P.funcs[f]?=some fn)(hb:fn.body=some c)(hrs:fn.results.toList=rs)(hn:fn.ntmps=n)(hl:pre.length+post.length+1≤n)(hnm:(fn.name=="runtime.NumGoroutine")=false)
  (h: ∀(B:Nat) (F0:Nat→Prop) (w0:bQ),AW P B F0 w0 n c (Jh T pre.length rs e L res) ((pre.length,.wn true e L lo m)::(gG 0 pre++gG (pre.length+1) post))):IP P f e L lo m pre post res:=by
 refine⟨⟨fn,hf,hnm,by simp[hb]⟩,fun w G b o cap cs us vs hG hb' h0 hlm hcap hmax hcs hlu hru hlv hr=>?_⟩;have hbs:=(Array.getElem?_eq_some_iff.1 hb').1;have hF0:xH w.heap.size (fun c=>G c∨c=b) ⟨w,fun c=>c=b⟩:=⟨fun c hc=>hc.elim (fun h=>(hG c h).1) (fun h=>h▸hbs),fun c hc=> .inr hc⟩;refine calls_of_wp hf hb (wp_mono (h w.heap.size (fun c=>G c∨c=b) ⟨w,fun c=>c=b⟩ _ w ?_) ?_)
 · have hfree: ∀c,G c→aE (fun c=>if c=b then some pre.length else none) (FW w.heap.size (fun c=>G c∨c=b) w) c:=fun c hc=>⟨by simp[(hG c hc).2],.inl (.inl hc)⟩;refine⟨.refl _ _ _,Nat.le_refl _,hF0,rfl,?_,fun c=>if c=b then some pre.length else none,(fun c t hc=>?_),fun t av hav=>?_⟩
   · simp[hn];omega
   · simp only[] at hc;split at hc<;>simp at hc;rename_i hcb;subst hcb;exact⟨.inr rfl,hbs⟩
   · have htm: ∀(k:Nat) (v:Value),(us++Value.slice (some ⟨b,o,none⟩) m cap::vs)[k]?=some v→((us++Value.slice (some ⟨b,o,none⟩) m cap::vs).toArray++Array.replicate (fn.ntmps-(us++Value.slice (some ⟨b,o,none⟩) m cap::vs).toArray.size) undef)[k]?=some v:=fun k v hk=>by
      have hlt:=(List.getElem?_eq_some_iff.1 hk).1;rw[Array.getElem?_append,if_pos (by simpa using hlt)];simpa using hk
     rw[St.au] at hav;split at hav
     · rename_i ht;subst ht;simp at hav;subst hav;refine⟨.slice (some ⟨b,o,none⟩) m cap,htm _ _ (by rw[← hlu];simp),.inr ⟨b,o,cap,cs,fun _=>rfl,rfl,⟨h0.1,h0.2.1,h0.2.2⟩,by simp,hb',hlm,hcap,hmax,hcs.1,fun i d hd=>?_⟩⟩;obtain ⟨f1,u,f2,f3⟩:=hcs.2 i d hd;exact⟨f1,u,f2,f3.mono hfree (fun _ _=>rfl)⟩
     · rename_i ht;rw[xl,eZ,eZ] at hav;simp only[Nat.zero_le,if_true,Nat.sub_zero] at hav;cases hp:pre[t]? with
       | some d =>
         rw[hp] at hav;simp at hav;subst hav;have hlt:t<us.length:=by rw[hlu];exact(List.getElem?_eq_some_iff.1 hp).1
         refine⟨us[t],htm _ _ (by rw[List.getElem?_append_left hlt,List.getElem?_eq_getElem hlt]),?_⟩;exact(hru t d _ hp (List.getElem?_eq_getElem hlt)).mono hfree (fun _ _=>rfl)
       | none =>
         rw[hp] at hav;simp only[Option.map_none] at hav;split at hav<;>try (cases hav;done)
         simp only[Option.map_eq_some_iff] at hav;obtain ⟨d,hd,rfl⟩:=hav;obtain ⟨k,rfl⟩: ∃k,t=pre.length+1+k:=⟨t-(pre.length+1),by omega⟩;rw[Nat.add_sub_cancel_left] at hd;have hlt:k<vs.length:=by rw[hlv];exact(List.getElem?_eq_some_iff.1 hd).1
         refine⟨vs[k],htm _ _ (by rw[← hlu,List.getElem?_append_right (by omega),show us.length+1+k-us.length=k+1 by omega,List.getElem?_cons_succ,List.getElem?_eq_getElem hlt]),?_⟩;exact(hr k d _ hd (List.getElem?_eq_getElem hlt)).mono hfree (fun _ _=>rfl)
 · rintro ee a w' ⟨σ',hq,hR⟩
   have key:HD T σ' pre.length rs e L res→a.defers=[]∧ ∃v,(results fn a.tmps).run P w'= .ok v w'∧ ∃v' cs',Ending.returned v= .returned v'∧fv w.heap.size ⟨w,fun c=>c=b⟩ w w'∧w'.heap[b]?=some (.cells cs' e (0,0))∧Cells P w' (FW w.heap.size G w') e L cs'∧Rd w' (FW w.heap.size G w') res v':=fun hq=>by
    refine⟨hR.defers,?_⟩;obtain ⟨O,hOr,hO⟩:=hR.own;have hI:Inv P w.heap.size (fun c=>G c∨c=b) ⟨w,fun c=>c=b⟩ (fun _=>True) σ'.get σ'.get a w' O:=⟨hR.below,hR.base,hR.f0,hOr,fun t _ av h=>hO t av h,fun t av h _=>hO t av h⟩
    have home: ∀k lo m,σ'.get k=some (.wn true e L lo m)→ ∃cs',O b=some k∧w'.heap[b]?=some (.cells cs' e (0,0))∧Cells P w' (FW w.heap.size G w') e L cs':=fun k lo m h=>by
     obtain ⟨v,hv,hr⟩:=hO k _ h;rcases hr with ⟨h,_⟩ | ⟨b',o',cap',cs',hq,h1,h0,h2,h3,h4,h5,h6,h7,h8⟩
     · cases h
     have hbb:b'=b:=hq rfl;subst hbb;refine⟨cs',h2,h3,h7,fun i d hd=>?_⟩;obtain ⟨f1,u,f2,f3⟩:=h8 i d hd;refine⟨f1,u,f2,f3.mono (fun c hc=>?_) (fun _ _=>rfl)⟩;have hne:c≠b':=fun e=>by subst e;rw[aE,h2] at hc;cases hc.1
     rcases hc.2 with h | h
     · exact .inl (h.resolve_right hne)
     · exact .inr h
    obtain ⟨⟨lo,m,h0⟩,hres⟩:=hq;obtain ⟨cs',hOb,hb1,hc1⟩:=home _ lo m h0;obtain ⟨v,hrun,hrd⟩:=tj hT hrs hR hOr hO hres;refine⟨v,hrun,v,cs',rfl,hR.below,hb1,hc1,hrd.mono (fun c hc=>?_) (fun _ _=>rfl)⟩;have hne:c≠b:=fun e=>by subst e;rw[aE,hOb] at hc;cases hc.1
    rcases hc.2 with h | h
    · exact .inl (h.resolve_right hne)
    · exact .inr h
   cases ee with
   | normal=>exact key hq
   | ret=>exact key hq
   | exit _=>exact hq.elim
   | goto _=>exact hq.elim
   | panic _=>exact hq.elim
   | outgrown=>exact hq.elim
end
end Lift
namespace Lift
open Go
open Go.RowKit (Below)
section
variable {P:Program} {T:Ty} {B:Nat} {F0:Nat→Prop} {w0:bQ} {n d:Nat} {o:Oper} {σ:St} {K:St→Prop} {all:Array Oper} {rest:List Oper}
theorem B6(w:World)(dT sT ty elem:TypeId)(g o dLen dCap:Nat)(a:Addr)(sLen sCap:Nat)(cur:Array Value)(t:TypeId)(cs:List Value)(i:TypeInfo)
  (hu:P.underlying dT=some (.slice elem)) (hi:P.info? elem=some i)
  (hg:w.heap[g]?=some (.cells cur t (0,0))) (hn:cs.length=Nat.min sLen dLen*i.size)
  (hsrc: ∀j v,cs[j]?=some v→w.cell? (a.add j)=some v) (hfit:o+cs.length≤cur.size) (h1: ∀v∈cs,v.oneCell'=true):
  (Builtin.copy_ #[dT,sT] ty #[.slice (some ⟨g,o,none⟩) dLen dCap,.slice (some a) sLen sCap]).run P w =
   .ok (goInt (Nat.min sLen dLen)) (w.setRow g (cur.toList.take o++cs++cur.toList.drop (o+cs.length)).toArray):=by
 have hl:=run_firstCells_some (P:=P) w i.size (Nat.min sLen dLen) a sLen sCap cs hn hsrc;have hst:=run_storeCells_at P g o t cs 0 cur w hg (by simpa using hfit) h1;simp[Builtin.copy_,run_underlying hu,Builtin.lenOf,Go.sizeOf,typeInfo,hi,hl,hst]
theorem z7(w:World)(dT sT ty elem:TypeId)(x a:Option Addr)(dLen dCap sLen sCap:Nat)(i:TypeInfo)(hu:P.underlying dT=some (.slice elem))(hi:P.info? elem=some i)(hn:Nat.min sLen dLen=0):
  (Builtin.copy_ #[dT,sT] ty #[.slice x dLen dCap,.slice a sLen sCap]).run P w= .ok (goInt 0) w:=by
 have hl: ∀(x:Addr),(loadCells x 0).run P w= .ok #[] w:=fun x=>by simpa using run_loadCells_list (P:=P) w x [] (by simp)
 cases x<;>cases a<;>simp[Builtin.copy_,run_underlying hu,Builtin.lenOf,Builtin.firstCells,Go.sizeOf,typeInfo,hi,hn,storeCells,hl]
def I7(T:Ty)(σ:St):Op→Option (Nat×Nat×List D×List D)
 | .call c=>match c.callee with
   | .builtin .copy=>match c.args.toList,c.argTypes.toList with
     | [x,y],[t,u]=>match T.get t,ex T σ.get t x,ex T σ.get u y with
       | some ti,some (.al h),some (.d (.sl s ys))=>match σ.get h with
         | some (.ow e l)=>match Nat.beq ti.kind 4,Nat.beq e ti.elem,T.get ti.elem with
           | true,true,some te=>match Nat.beq te.size s with
             | true=>some (h,e,l,ys)
             | _=>none
           | _,_,_=>none
         | _=>none
       | _,_,_=>none
     | _,_=>none
   | _=>none
 | _=>none
theorem dh.Eu(hT:a6 P T){h e:Nat}{l ys:List D}(hd:o.dst=some d)(hdn:d<n)(hx:I7 T σ o.op=some (h,e,l,ys)):
  dh P B F0 w0 n o σ ((d,.d (.v (.int .i64 ((min ys.length l.length:Nat):Int))))::(h,.ow e (ys.take (min ys.length l.length)++l.drop (min ys.length l.length)))::σ):=by
 intro a w hR K Q hK;obtain ⟨O,hOr,hO⟩:=hR.own;have hI:Inv P B F0 w0 (fun _=>True) σ.get σ.get a w O:=⟨hR.below,hR.base,hR.f0,hOr,fun t _ av h=>hO t av h,fun t av h _=>hO t av h⟩;obtain ⟨dst,op,ty,pos,after,guard⟩:=o;simp only[] at hd hx;subst hd;cases op<;>simp only[I7] at hx<;>try (cases hx;done)
 rename_i c;obtain ⟨callee,args,ats⟩:=c;simp only[] at hx;split at hx<;>try (cases hx;done)
 split at hx<;>try (cases hx;done)
 rename_i x y t u hxy htu;split at hx<;>try (cases hx;done)
 rename_i ti h' s ys' hti hxe hye;split at hx<;>try (cases hx;done)
 rename_i e' l' hav;split at hx<;>try (cases hx;done)
 rename_i te hk hee hte;split at hx<;>simp at hx;rename_i hts;obtain ⟨rfl,rfl,rfl,rfl⟩:=hx;have hee:=Nat.eq_of_beq_eq_true hee;subst hee;have hts:=Nat.eq_of_beq_eq_true hts;subst hts;have hargs:args= #[x,y]:=by apply Array.ext';simpa using hxy
 have hats:ats= #[t,u]:=by apply Array.ext';simpa using htu
 subst hargs;subst hats;obtain ⟨info,dd,z,hok⟩:=hT t ti hti;obtain ⟨info',dd',z',hok'⟩:=hT _ te hte;have hun:=(hok.gZ hk).1;have hsz:info'.size=te.size:=hok'.size;have hcel:P.cellsOf ti.elem=te.size:=hok'.cellsOf;have hw:j0 σ.get (ex T σ.get t x)=some (h',ti.elem,l',0,l'.length):=by rw[hxe];simp only[j0,hav]
 have hys:uU T σ.get (ex T σ.get u y)=some (te.size,ys'):=by rw[hye];rfl
 rw[hxe] at hw;rw[hye] at hys;obtain ⟨zz,hz,hrow,hlm,cap,hcap,hmax,hv⟩:=fH hI (aP hI (fun _ _=>trivial) hxe 0).1 hw;rw[hav] at hz;simp at hz;subst hz;obtain ⟨ad,cap',hyv,ia,hall⟩:=j6 hT hI (aP hI (fun _ _=>trivial) hye 0).1 hys;obtain ⟨k,hkk⟩: ∃k,k=min ys'.length l'.length:=⟨_,rfl⟩;rw[← hkk] at hK;rcases Nat.eq_zero_or_pos k with hk0 | hk0
 ·
  have hval: ∃ax lc cx,a.eval x= .slice ax lc cx∧lc=l'.length:=by
   rcases hv with ⟨hl0,_,_,base,hev⟩ | ⟨b,o1,len,cap1,cs,off,hq,htm,hev,h0',hOb,hb,hu,hcells⟩
   · exact⟨base,0,_,hev,hl0.symm⟩
   · exact⟨_,_,_,hev,rfl⟩
  obtain ⟨ax,lc,cx,hev,hlc⟩:=hval;have hrun:=z7 (P:=P) w t u ty ti.elem ax ad lc cx ys'.length cap' info' hun hok'.hinfo (by rw[hlc];show min _ _=0;omega)
  have hex:(execOp a.eval {dst:=some d,op:= .call {callee:= .builtin .copy,args:= #[x,y],argTypes:= #[t,u]},type:=ty,pos:=pos,after:=after,guard:=guard}).run P w= .ok (.value (goInt 0)) w:=by
   simp[execOp,resolve,invoke,builtin,hev,hyv,hrun]
  refine aX hex ?_
  have hsame: ∀k2,St.get ((h',AV.ow ti.elem l')::σ) k2=σ.get k2:=fun k2=>by
   rw[St.au];split
   · rename_i e1;subst e1;exact hav.symm
   · rfl
  have hR1:Rel P B F0 w0 n ((h',.ow ti.elem l')::σ) a w:=⟨hR.below,hR.base,hR.f0,hR.defers,hR.size,O,hOr,fun t av h=>by
   rw[hsame] at h;obtain ⟨v,h1,h2⟩:=hO t av h;refine⟨v,h1,?_⟩;have:St.get ((h',AV.ow ti.elem l')::σ)=σ.get:=funext hsame
   rw[this];exact h2⟩
  subst hk0;rw[List.take_zero,List.drop_zero,List.nil_append] at hK;obtain ⟨O2,hOr2,hO2⟩:=hR1.own;exact hK _ _ (hR1.put (d:=d) (av:= .d (.v (.int .i64 ((0:Nat):Int)))) (v:=goInt 0) hOr2 hO2 hdn (cU.refl (fun b t hb=>(hOr2 b t hb).2)) (.v rfl))
 rcases hv with ⟨hl0,_⟩ | ⟨b,o1,len,cap1,cs,off,hq,htm,hev,h0',hOb,hb,hu,hcells⟩
 · omega
 rw[hcel] at h0' hu;have hoff:off=0:=by have:=h0'.1;omega
 subst hoff;rcases hall with h | ⟨sa,news,rfl,g1,g2,g3,g4⟩
 · subst h;simp at hkk;omega
 rw[aG g2] at g1;obtain ⟨s,hs⟩: ∃s,s=te.size:=⟨_,rfl⟩;rw[← hs] at g1 g2 hu hcel hsz;have hlfl:=aG hu
 have hcsl:l'.length*s≤cs.size:=by
  rcases Nat.eq_zero_or_pos (l'.length*s) with h0 | h0
  · omega
  · obtain ⟨_,u,f2,_⟩:=hcells (l'.length*s-1) _ (List.getElem?_eq_getElem (by omega));have:=(Array.getElem?_eq_some_iff.1 f2).1;omega
 have hkl:k*s≤l'.length*s:=Nat.mul_le_mul_right s (by omega);have hky:k*s≤ys'.length*s:=Nat.mul_le_mul_right s (by omega);have hnk:(news.take (k*s)).length=k*s:=by rw[List.length_take];omega
 have hrun:=B6 (P:=P) w t u ty ti.elem b 0 l'.length cap sa ys'.length cap' cs ti.elem (news.take (k*s)) info' hun hok'.hinfo hb
  (by rw[hnk,hsz,hkk]) (fun j v hj=>by
   rw[List.getElem?_take] at hj;split at hj
   · exact g3 j v hj
   · cases hj) (by rw[hnk];omega) (fun v hv=>g4.uG v (List.mem_of_mem_take hv))
 rw[hnk,Nat.zero_add,List.take_zero,List.nil_append] at hrun;obtain ⟨cs',hcs'⟩: ∃cs',cs'=(news.take (k*s)++cs.toList.drop (k*s)).toArray:=⟨_,rfl⟩;rw[← hcs',show Nat.min ys'.length l'.length=k from hkk.symm] at hrun
 have hss:cs'.size=cs.size:=by
  rw[hcs'];simp only[List.size_toArray,List.length_append,hnk,List.length_drop,Array.length_toList];omega
 have hex:(execOp a.eval {dst:=some d,op:= .call {callee:= .builtin .copy,args:= #[x,y],argTypes:= #[t,u]},type:=ty,pos:=pos,after:=after,guard:=guard}).run P w= .ok (.value (goInt k)) (w.setRow b cs'):=by
  simp[execOp,resolve,invoke,builtin,hev,hyv,hrun]
 refine aX hex ?_
 have hR1:Rel P B F0 w0 n ((h',.ow ti.elem (ys'.take k++l'.drop k))::σ) a (w.setRow b cs'):=by
  refine Rel.write hb hss hR hOr hO hav hOb (.inr ⟨_,_,_,hrow,(cZ hrow).1,by simp only[List.length_append,List.length_take,List.length_drop];omega,(cZ hrow).2.2.symm⟩) (fun v hv hr=>?_) (cZ hrow).2.1;rw[htm] at hv;simp at hv;subst hv;refine mM hr hrow hb (setRow_heap w b cs _ ti.elem _ hb) hss (by simp only[List.length_append,List.length_take,List.length_drop];omega) (fun h0=>by subst h0;simp at hkk;omega) (fun x hx=>?_) (fun j dd hj=>?_)
  · rw[hcel];rcases List.mem_append.1 hx with hx | hx
    · exact g2 x (List.mem_of_mem_take hx)
    · exact hu x (List.mem_of_mem_drop hx)
  · have hB: ∀c,aE O (FW B F0 w) c→(w.setRow b cs').heap[c]?=w.heap[c]?:=fun c hc=>setRow_other w b c _ (fun e=>by rw[e,aE,hOb] at hc;cases hc.1);have f2:=aG (s:=s) (l:=ys'.take k) (fun x hx=>g2 x (List.mem_of_mem_take hx));have e2:flatAll ys'=flatAll (ys'.take k)++flatAll (ys'.drop k):=by rw[← bF,List.take_append_drop]
    have e3:flatAll l'=flatAll (l'.take k)++flatAll (l'.drop k):=by rw[← bF,List.take_append_drop]
    have f3:=aG (s:=s) (l:=l'.take k) (fun x hx=>hu x (List.mem_of_mem_take hx));rw[List.length_take,show min k ys'.length=k by omega] at f2;rw[List.length_take,show min k l'.length=k by omega] at f3;rw[bF] at hj;have hcg:cs'[j]?=(news.take (k*s)++cs.toList.drop (k*s))[j]?:=by rw[hcs',List.getElem?_toArray]
    rw[hcg];rw[List.getElem?_append] at hj;split at hj
    · rename_i hj2;have h1:(flatAll ys')[j]?=some dd:=by rw[e2,List.getElem?_append_left (by omega)];exact hj
      obtain ⟨q1,v,q2,q3⟩:=g4.get h1;exact⟨q1,v,by rw[List.getElem?_append_left (by omega),List.getElem?_take_of_lt (by omega)];exact q2,q3.mono (fun _ h=>by simpa[aE,FW] using h) hB⟩
    · rename_i hj1
      have h1:(flatAll l')[j]?=some dd:=by
       rw[e3,List.getElem?_append_right (by omega),← hj]
       congr 1
       omega
      obtain ⟨q1,v,q2,q3⟩:=hcells j dd h1
      exact⟨q1,v,by
       rw[List.getElem?_append_right (by omega),List.getElem?_drop];rw[← q2];simp
       congr 1
       omega,q3.mono (fun _ h=>by simpa[aE,FW] using h) hB⟩
 obtain ⟨O2,hOr2,hO2⟩:=hR1.own;exact hK _ _ (hR1.put (d:=d) (av:= .d (.v (.int .i64 (k:Int)))) (v:=goInt k) hOr2 hO2 hdn (cU.refl (fun b t hb=>(hOr2 b t hb).2)) (.v rfl))
theorem ab.Eu(hT:a6 P T){h e:Nat}{l ys:List D}(hd:o.dst=some d)(hdn:Nat.ble (d+1) n=true)(hg:aq all σ o=true)(hx:I7 T σ o.op=some (h,e,l,ys))
  (hk:ab P B F0 w0 n all rest K ((d,.d (.v (.int .i64 ((min ys.length l.length:Nat):Int))))::(h,.ow e (ys.take (min ys.length l.length)++l.drop (min ys.length l.length)))::σ)):ab P B F0 w0 n all (o::rest) K σ :=
 ab.op hg (dh.Eu hT hd (Nat.le_of_ble_eq_true hdn) hx) hk
end
end Lift
namespace Lift
def gl:Nat→(Nat→Rat)→Rat
 | 0,_=>0
 | n+1,f=>gl n f+f n
theorem kM{f g:Nat→Rat}: ∀{n:Nat},(∀c,c<n→f c=g c)→gl n f=gl n g
 | 0,_=>rfl
 | n+1,h=>by rw[gl,gl,kM (fun c hc=>h c (by omega)),h n (by omega)]
theorem vA{f:Nat→Rat}{n:Nat}(h: ∀c,c<n→f c=0):gl n f=0:=by
 induction n with
 | zero=>rfl
 | succ n ih=>rw[gl,ih (fun c hc=>h c (by omega)),h n (by omega)];grind
theorem xZ(f g:Nat→Rat): ∀n:Nat,gl n (fun c=>f c+g c)=gl n f+gl n g
 | 0=>by simp only[gl];grind
 | n+1=>by simp only[gl,xZ f g n];grind
theorem s7(k:Rat)(f:Nat→Rat): ∀n:Nat,gl n (fun c=>k*f c)=k*gl n f
 | 0=>by simp only[gl];grind
 | n+1=>by simp only[gl,s7 k f n];grind
theorem xX(f g:Nat→Rat): ∀n:Nat,gl n (fun c=>f c-g c)=gl n f-gl n g
 | 0=>by simp only[gl];grind
 | n+1=>by simp only[gl,xX f g n];grind
theorem xY{f:Nat→Rat}{n i:Nat}(hi:i<n)(h: ∀c,c<n→c≠i→f c=0):gl n f=f i:=by
 induction n with
 | zero=>omega
 | succ n ih =>
   rw[gl];rcases Nat.lt_or_ge i n with g | g
   · rw[ih g (fun c hc=>h c (by omega)),h n (by omega) (by omega)];grind
   · have:i=n:=by omega
     subst this;rw[vA (fun c hc=>h c (by omega) (by omega))];grind
abbrev Mx:=Nat→Nat→Rat
def xK(n:Nat)(r:Nat→Rat)(x:Nat→Rat):Prop:=gl n (fun c=>r c*x c)=r n
def xE(m n:Nat)(M:Mx)(x:Nat→Rat):Prop:= ∀j,j<m→xK n (M j) x
theorem ku{n:Nat}{r s:Nat→Rat}(h: ∀c,c≤n→r c=s c)(x:Nat→Rat):xK n r x↔xK n s x:=by
 unfold xK;rw[kM (fun c hc=>by rw[h c (by omega)]),h n (Nat.le_refl _)]
theorem Ct{n:Nat}{r:Nat→Rat}{k:Rat}(hk:k≠0)(x:Nat→Rat):xK n (fun c=>k*r c) x↔xK n r x:=by
 unfold xK;rw[show (fun c=>k*r c*x c)=(fun c=>k*(r c*x c)) from funext fun c=>by grind,s7];constructor
 · intro h;have:k*(gl n (fun c=>r c*x c) -r n)=0:=by grind
   rcases Rat.mul_eq_zero.1 this with h | h
   · exact absurd h hk
   · grind
 · intro h;rw[h]
theorem y8{n:Nat}{r s:Nat→Rat}(k:Rat){x:Nat→Rat}(hs:xK n s x):xK n (fun c=>r c-k*s c) x↔xK n r x:=by
 unfold xK at *;rw[show (fun c=>(r c-k*s c)*x c)=(fun c=>r c*x c-k*(s c*x c)) from funext fun c=>by grind,xX,s7,hs];constructor<;>intro h<;>grind
structure uR (m n k:Nat) (M:Mx) (pr:Nat→Option Nat):Prop where
 lt: ∀c i,pr c=some i→c<k∧i<m
 inj: ∀c d i,pr c=some i→pr d=some i→c=d
 piv: ∀c i,pr c=some i→M i c≠0
 col: ∀c i j,pr c=some i→j<m→j≠i→M j c=0
 row: ∀j c,j<m→(∀d,pr d≠some j)→c<k→M j c=0
def BZ(n:Nat)(M:Mx)(pr:Nat→Option Nat)(y:Nat→Rat)(c:Nat):Rat:=match pr c with
 | some i=>(M i n-gl n (fun d=>match pr d with
   | some _=>0
   | none=>M i d*y d)) / M i c
 | none=>y c
theorem uR.Jc{m n:Nat}{M:Mx}{pr:Nat→Option Nat}(h:uR m n n M pr)(h0: ∀j,j<m→(∀d,pr d≠some j)→M j n=0)(y:Nat→Rat):xE m n M (BZ n M pr y):=by
 intro j hj;unfold xK;by_cases hp: ∃c,pr c=some j
 · obtain ⟨c,hc⟩:=hp;have hcn:=(h.lt c j hc).1;have hne:=h.piv c j hc
   have e:gl n (fun d=>M j d*BZ n M pr y d)=gl n (fun d=>(if d=c then M j c*BZ n M pr y c else 0)+(match pr d with
     | some _=>0
     | none=>M j d*y d)):=kM (fun d hd=>by
    by_cases hdc:d=c
    · subst hdc;rw[if_pos rfl,hc];grind
    · rw[if_neg hdc];cases hpd:pr d with
      | none=>simp only[BZ,hpd];grind
      | some i =>
        have hij:j≠i:=fun e=>hdc (h.inj d c i hpd (e▸hc))
        rw[h.col d i j hpd hj hij];grind)
   rw[e,xZ,xY hcn (fun d _ hd=>by rw[if_neg hd]),if_pos rfl];simp only[BZ,hc];rw[Rat.mul_comm,Rat.div_mul_cancel hne]
   grind
 · have hn: ∀d,pr d≠some j:=fun d hd=>hp ⟨d,hd⟩;rw[vA (fun c hc=>by rw[h.row j c hj hn hc];grind),h0 j hj hn]
theorem uR.two{m n f:Nat}{M:Mx}{pr:Nat→Option Nat}(h:uR m n n M pr)(h0: ∀j,j<m→(∀d,pr d≠some j)→M j n=0)(hf:f<n)(hpf:pr f=none):
  ∃x y,xE m n M x∧xE m n M y∧x f≠y f:=by
 refine⟨_,_,h.Jc h0 (fun _=>0),h.Jc h0 (fun _=>1),?_⟩;simp only[BZ,hpf];decide
theorem uR.one{m n:Nat}{M:Mx}{pr:Nat→Option Nat}(h:uR m n n M pr)(hall: ∀c,c<n→pr c≠none){x:Nat→Rat}(hs:xE m n M x){c i:Nat}(hc:pr c=some i):x c=M i n / M i c:=by
 obtain ⟨hcn,him⟩:=h.lt c i hc;have:=hs i him;unfold xK at this
 rw[xY hcn (fun d hd hdc=>by
  cases hpd:pr d with
  | none=>exact absurd hpd (hall d hd)
  | some j =>
    have hij:i≠j:=fun e=>hdc (h.inj d c i (e▸hpd) hc)
    rw[h.col d j i hpd him hij];grind)] at this
 rw[← this,Rat.mul_comm,Rat.mul_div_cancel (h.piv c i hc)]
theorem uR.skip{m n k:Nat}{M:Mx}{pr:Nat→Option Nat}(h:uR m n k M pr)(h0: ∀j,j<m→(∀d,pr d≠some j)→M j k=0):uR m n (k+1) M pr :=
 ⟨fun c i hc=>⟨by have:=(h.lt c i hc).1;omega,(h.lt c i hc).2⟩,h.inj,h.piv,h.col,fun j c hj hn hc=>by
  rcases Nat.lt_or_ge c k with g | g
  · exact h.row j c hj hn g
  · have:c=k:=by omega
    subst this;exact h0 j hj hn⟩
theorem uR.full{m n k l:Nat}{M:Mx}{pr:Nat→Option Nat}(h:uR m n k M pr)(hl:k≤l)(hall: ∀j,j<m→ ∃d,pr d=some j):uR m n l M pr :=
 ⟨fun c i hc=>⟨by have:=(h.lt c i hc).1;omega,(h.lt c i hc).2⟩,h.inj,h.piv,h.col,fun j c hj hn _=>by
  obtain ⟨d,hd⟩:=hall j hj
  exact absurd hd (hn d)⟩
theorem uR.elim{m n k i:Nat}{M M':Mx}{pr:Nat→Option Nat}(h:uR m n k M pr)(hi:i<m)(hn: ∀d,pr d≠some i)(hk:M i k≠0)(s:Rat)(hs:s≠0)(q:Nat→Rat)(h1: ∀c,c≤k→M' i c=s*M i c)(h2: ∀j c,j<m→j≠i→c≤k→M' j c=M j c-q j*M i c)
  (h3: ∀j,j<m→j≠i→M' j k=0):uR m n (k+1) M' (fun c=>if c=k then some i else pr c):=by
 have hz: ∀c,c<k→M i c=0:=fun c hc=>h.row i c hi hn hc;have hold: ∀j c,j<m→j≠i→c<k→M' j c=M j c:=fun j c hj hji hc=>by rw[h2 j c hj hji (by omega),hz c hc];grind
 refine⟨fun c j hc=>?_,fun c d j hc hd=>?_,fun c j hc=>?_,fun c j l hc hl hlj=>?_,fun j c hj hnj hc=>?_⟩
 · split at hc
   · cases hc;exact⟨by omega,hi⟩
   · exact⟨by have:=(h.lt c j hc).1;omega,(h.lt c j hc).2⟩
 · split at hc<;>split at hd
   · omega
   · cases hc;exact absurd hd (hn d)
   · cases hd;exact absurd hc (hn c)
   · exact h.inj c d j hc hd
 · split at hc
   · rename_i e;cases hc;rw[e,h1 k (Nat.le_refl _)];intro h0;rcases Rat.mul_eq_zero.1 h0 with g | g
     · exact hs g
     · exact hk g
   · have hji:j≠i:=fun e=>hn c (e▸hc);rw[hold j c (h.lt c j hc).2 hji (h.lt c j hc).1];exact h.piv c j hc
 · split at hc
   · rename_i e;cases hc;rw[e];exact h3 l hl hlj
   · have hck:=(h.lt c j hc).1;by_cases hli:l=i
     · subst hli;rw[h1 c (by omega),hz c hck];grind
     · rw[hold l c hl hli hck];exact h.col c j l hc hl hlj
 · have hji:j≠i:=fun e=>hnj k (by simp[e]);rcases Nat.lt_or_ge c k with g | g
   · rw[hold j c hj hji g];refine h.row j c hj (fun d hd=>hnj d ?_) g;have:d≠k:=fun e=>by have:=(h.lt d j hd).1;omega
     simp[this,hd]
   · have:c=k:=by omega
     subst this;exact h3 j hj hji
theorem xE.elim{m n i:Nat}{M M':Mx}(hi:i<m)(s:Rat)(hs:s≠0)(q:Nat→Rat)(h1: ∀c,c≤n→M' i c=s*M i c)(h2: ∀j c,j<m→j≠i→c≤n→M' j c=M j c-q j*M i c)(x:Nat→Rat):xE m n M' x↔xE m n M x:=by
 have hi':xK n (M' i) x↔xK n (M i) x:=(ku h1 x).trans (Ct hs x);constructor
 · intro h j hj;have hii:=hi'.1 (h i hi);by_cases e:j=i
   · subst e;exact hii
   · exact(y8 (q j) hii).1 ((ku (fun c hc=>h2 j c hj e hc) x).1 (h j hj))
 · intro h j hj;by_cases e:j=i
   · subst e;exact hi'.2 (h j hj)
   · exact(ku (fun c hc=>h2 j c hj e hc) x).2 ((y8 (q j) (h i hi)).2 (h j hj))
def EY(a b j:Nat):Nat:=if j=a then b else if j=b then a else j
theorem wx(a b j:Nat):EY a b (EY a b j)=j:=by
 unfold EY;by_cases h1:j=a
 · subst h1;rw[if_pos rfl];by_cases h2:b=j
   · rw[if_pos h2];exact h2
   · rw[if_neg h2,if_pos rfl]
 · rw[if_neg h1];by_cases h2:j=b
   · subst h2;rw[if_pos rfl,if_pos rfl]
   · rw[if_neg h2,if_neg h1,if_neg h2]
theorem s6{a b m:Nat}(ha:a<m)(hb:b<m){j:Nat}(hj:j<m):EY a b j<m:=by
 unfold EY;split
 · exact hb
 · split
   · exact ha
   · exact hj
theorem uR.swap{m n k a b:Nat}{M M':Mx}{pr:Nat→Option Nat}(h:uR m n k M pr)(ha:a<m)(hb:b<m)(hna: ∀d,pr d≠some a)(hnb: ∀d,pr d≠some b)(hM: ∀j c,j<m→c≤n→M' j c=M (EY a b j) c)(hkn:k≤n):uR m n k M' pr:=by
 have hfix: ∀c i,pr c=some i→EY a b i=i:=fun c i hc=>by
  have h1:i≠a:=fun e=>by subst e;exact hna c hc
  have h2:i≠b:=fun e=>by subst e;exact hnb c hc
  unfold EY;rw[if_neg h1,if_neg h2]
 refine⟨h.lt,h.inj,fun c i hc=>?_,fun c i j hc hj hji=>?_,fun j c hj hn hc=>?_⟩
 · have:=h.lt c i hc;rw[hM i c this.2 (by omega),hfix c i hc];exact h.piv c i hc
 · have:=h.lt c i hc;rw[hM j c hj (by omega)];refine h.col c i _ hc (s6 ha hb hj) (fun e=>hji ?_);rw[← wx a b j,e,hfix c i hc]
 · rw[hM j c hj (by omega)];refine h.row _ c (s6 ha hb hj) (fun d hd=>?_) hc;have e:=hfix d _ hd;rw[wx] at e;exact hn d (by rw[hd,← e])
theorem xE.swap{m n a b:Nat}{M M':Mx}(ha:a<m)(hb:b<m)(hM: ∀j c,j<m→c≤n→M' j c=M (EY a b j) c)(x:Nat→Rat):xE m n M' x↔xE m n M x:=by
 constructor
 · intro h j hj;have:=(ku (fun c hc=>hM (EY a b j) c (s6 ha hb hj) hc) x).1 (h _ (s6 ha hb hj))
   rwa [wx] at this
 · intro h j hj;exact(ku (fun c hc=>hM j c hj hc) x).2 (h _ (s6 ha hb hj))
inductive Out where
 | over
 | free
 | val (l:List Rat)
def rM(m n:Nat)(M:Mx):Out→Prop
 | .over=> ∀x,¬xE m n M x
 | .free=> ∃x y f,f<n∧xE m n M x∧xE m n M y∧x f≠y f
 | .val l=>l.length=n∧xE m n M (fun c=>l.getD c 0)∧ ∀y,xE m n M y→ ∀c,c<n→y c=l.getD c 0
theorem rM.congr{m n:Nat}{M M':Mx}{o:Out}(h: ∀x,xE m n M' x↔xE m n M x)(ho:rM m n M' o):rM m n M o:=by
 cases o with
 | over=>exact fun x hx=>ho x ((h x).2 hx)
 | free =>
   obtain ⟨x,y,f,hf,h1,h2,h3⟩:=ho;exact⟨x,y,f,hf,(h x).1 h1,(h y).1 h2,h3⟩
 | val l=>exact⟨ho.1,(h _).1 ho.2.1,fun y hy=>ho.2.2 y ((h y).2 hy)⟩
theorem uR.val{m n:Nat}{M:Mx}{pr:Nat→Option Nat}(h:uR m n n M pr)(h0: ∀j,j<m→(∀d,pr d≠some j)→M j n=0){l:List Rat}(hl:l.length=n)(hv: ∀c,c<n→ ∃i,pr c=some i∧l.getD c 0=M i n / M i c):rM m n M (.val l):=by
 have hall: ∀c,c<n→pr c≠none:=fun c hc e=>by
  obtain ⟨i,h1,_⟩:=hv c hc;rw[h1] at e;cases e
 have hx: ∀y,xE m n M y→ ∀c,c<n→y c=l.getD c 0:=fun y hy c hc=>by
  obtain ⟨i,h1,h2⟩:=hv c hc;rw[h2,h.one hall hy h1]
 refine⟨hl,?_,hx⟩;have hs:=h.Jc h0 (fun _=>0);intro j hj;have:=hs j hj;unfold xK at *;rw[← this];exact kM (fun c hc=>by rw[hx _ hs c hc])
end Lift
namespace Lift
abbrev Mt:=List (List Rat)
def fM(a:Mt):Mx:=fun j c=>(a.getD j []).getD c 0
def CG(a:Mt)(w:Nat):Prop:= ∀r,r∈a→r.length=w
theorem CG.get{a:Mt}{w j:Nat}(h:CG a w)(hj:j<a.length):(a.getD j []).length=w:=by
 rw[List.getD_eq_getElem?_getD,List.getElem?_eq_getElem hj];exact h _ (List.getElem_mem hj)
def nz(x:Rat):Bool:=decide (x≠0)
theorem CG.set{a:Mt}{w i:Nat}{r:List Rat}(h:CG a w)(hr:r.length=w):CG (a.set i r) w:=fun s hs=>by
 rcases List.mem_or_eq_of_mem_set hs with g | g
 · exact h s g
 · rw[g];exact hr
def Jl(n:Nat):Option (Mt×Nat)→Out
 | none=> .over
 | some (b,d)=>if d<n then .free else .val ((b.take n).map (fun r=>r.getD n 0))
structure IV (n k d:Nat) (a:Mt) (pr:Nat→Option Nat):Prop where
 rect:CG a (n+1)
 red:uR a.length n k (fM a) pr
 img: ∀i,(∃c,pr c=some i)↔i<d
 one: ∀c i,pr c=some i→fM a i c=1
 le:d≤a.length
 way:(d=k∧ ∀c,c<k→pr c=some c)∨(d<k∧ ∃f,f<k∧pr f=none)
theorem IV.fin{n k d:Nat}{a:Mt}{pr:Nat→Option Nat}(h:IV n k d a pr)(hr:uR a.length n n (fM a) pr)(hk:k≤n)(h0: ∀j,j<a.length→d≤j→fM a j n=0):rM a.length n (fM a) (Jl n (some (a,d))):=by
 have hz: ∀j,j<a.length→(∀c,pr c≠some j)→fM a j n=0:=fun j hj hn=>h0 j hj (by
  rcases Nat.lt_or_ge j d with g | g
  · obtain ⟨c,hc⟩:=(h.img j).2 g;exact absurd hc (hn c)
  · exact g)
 show rM _ _ _ (if d<n then .free else .val ((a.take n).map (fun r=>r.getD n 0)));split
 · rename_i hd
   have: ∃f,f<n∧pr f=none:=by
    rcases h.way with ⟨h1,h2⟩ | ⟨_,f,h1,h2⟩
    · refine⟨k,by omega,?_⟩;cases hp:pr k with
      | none=>rfl
      | some i=>have:=(h.red.lt k i hp).1;omega
    · exact⟨f,by omega,h2⟩
   obtain ⟨f,hf,hpf⟩:=this;obtain ⟨x,y,h1,h2,h3⟩:=hr.two hz hf hpf;exact⟨x,y,f,hf,h1,h2,h3⟩
 · rename_i hd
   have hk':d=k∧ ∀c,c<k→pr c=some c:=by
    rcases h.way with g | ⟨g,_⟩
    · exact g
    · omega
   have hdn:d=n:=by omega
   refine hr.val hz (by rw[List.length_map,List.length_take];have:=h.le;omega) (fun c hc=>⟨c,hk'.2 c (by omega),?_⟩);rw[h.one c c (hk'.2 c (by omega))];have hca:c<a.length:=by have:=h.le;omega
   have:((a.take n).map (fun r=>r.getD n 0)).getD c 0=fM a c n:=by
    unfold fM;simp only[List.getD_eq_getElem?_getD,List.getElem?_map,List.getElem?_take,if_pos hc];rw[List.getElem?_eq_getElem hca];rfl
   rw[this];grind
end Lift
namespace Lift
abbrev I':=List (List Rat×Rat)
def gE(l:I')(j:Nat):List Rat×Rat:=l.getD j ([],0)
def zp(l:I')(n:Nat):Prop:= ∀e,e∈l→e.1.length=n
theorem zp.get{l:I'}{n j:Nat}(h:zp l n)(hj:j<l.length):(gE l j).1.length=n:=by
 unfold gE;rw[List.getD_eq_getElem?_getD,List.getElem?_eq_getElem hj];exact h _ (List.getElem_mem hj)
theorem zp.set{l:I'}{n i:Nat}{e:List Rat×Rat}(h:zp l n)(he:e.1.length=n):zp (l.set i e) n:=fun s hs=>by
 rcases List.mem_or_eq_of_mem_set hs with g | g
 · exact h s g
 · rw[g];exact he
end Lift
namespace Lift
theorem rM.changed{m n:Nat}{M:Mx}{l l':List Rat}(h:rM m n M (.val l)){i:Nat}(hi:i<n)(hne:l'.getD i 0≠l.getD i 0): ¬xE m n M (fun c=>l'.getD c 0):=fun hs=>hne (h.2.2 _ hs i hi)
end Lift
namespace Lift
open Go Go.Proofs
structure TD where
 t:RD
 h:Bool
abbrev TD.D(a:TD):D:= .ag [dB a.t.g,Wd a.t.n,Wd a.t.d,dB a.h]
def TD.okB(a:TD):Bool:=a.t.okB&&(!a.h||decide (a.t.val=0))
def TD.val(a:TD):Option Rat:=if a.h=true then none else some a.t.val
def TQ:Option Rat→TD
 | none=>⟨Qr 0,true⟩
 | some q=>⟨Qr q,false⟩
theorem TD.canon{a:TD}{k:Nat}(hw:a.t.w k)(h:a.okB=true):a=TQ a.val:=by
 obtain ⟨t,b⟩:=a;unfold TD.okB at h;rw[Bool.and_eq_true] at h;have ht:=RD.canon hw h.1;cases b with
 | true =>
   have h0:t.val=0:=by simpa using h.2
   show TD.mk t true=TD.mk (Qr 0) true;have ht:t=Qr t.val:=ht;rw[h0] at ht;rw[ht]
 | false =>
   show TD.mk t false=TD.mk (Qr t.val) false;have ht:t=Qr t.val:=ht;rw[← ht]
theorem k9:LQ 1≤1:=by
 have h:=IU 1;rw[uN,show ((1:Int):Rat)=1 from rfl] at h;omega
end Lift
namespace Lift
open Go Go.Proofs
structure PD where
 x:RD
 y:RD
abbrev PD.D(a:PD):D:= .ag [dB a.x.g,Wd a.x.n,Wd a.x.d,dB a.y.g,Wd a.y.n,Wd a.y.d]
structure AU where
 t:TD
 l:PD
abbrev AU.D(p:AU):D:= .ag [dB p.t.t.g,Wd p.t.t.n,Wd p.t.t.d,dB p.t.h,dB p.l.x.g,Wd p.l.x.n,Wd p.l.x.d,dB p.l.y.g,Wd p.l.y.n,Wd p.l.y.d]
def PD.okB(a:PD):Bool:=a.x.okB&&a.y.okB
def AU.okB(p:AU):Bool:=p.t.okB&&p.l.okB
def PD.w(k:Nat)(a:PD):Prop:=a.x.w k∧a.y.w k
def AU.w(k:Nat)(p:AU):Prop:=p.t.t.w k∧p.l.w k
abbrev VQ(v:V2):PD:=⟨Qr v.1,Qr v.2⟩
abbrev PoQ(p:Option Rat×V2):AU:=⟨TQ p.1,VQ p.2⟩
def PD.val(a:PD):V2:=(a.x.val,a.y.val)
def AU.val(p:AU):Option Rat×V2:=(p.t.val,p.l.val)
theorem PD.canon{a:PD}{k:Nat}(hw:a.w k)(h:a.okB=true):a=VQ a.val:=by
 obtain ⟨x,y⟩:=a;unfold PD.okB at h;rw[Bool.and_eq_true] at h;have hx:=RD.canon hw.1 h.1;have hy:=RD.canon hw.2 h.2;show PD.mk x y=PD.mk (Qr x.val) (Qr y.val);have hx:x=Qr x.val:=hx;have hy:y=Qr y.val:=hy;rw[← hx,← hy]
theorem AU.canon{p:AU}{k:Nat}(hw:p.w k)(h:p.okB=true):p=PoQ p.val:=by
 obtain ⟨t,l⟩:=p;unfold AU.okB at h;rw[Bool.and_eq_true] at h;have h1:=TD.canon hw.1 h.1;have h2:=PD.canon hw.2 h.2;show AU.mk t l=AU.mk (TQ t.val) (VQ l.val);have h1:t=TQ t.val:=h1;have h2:l=VQ l.val:=h2;rw[← h1,← h2]
end Lift
namespace Lift
open Go Go.Proofs
end Lift
namespace Lift
open Go Go.Proofs
structure zw where
 c:PD
 m:PD
 r:RD
abbrev zw.D(d:zw):D:= .ag [dB d.c.x.g,Wd d.c.x.n,Wd d.c.x.d,dB d.c.y.g,Wd d.c.y.n,Wd d.c.y.d,dB d.m.x.g,Wd d.m.x.n,Wd d.m.x.d,dB d.m.y.g,Wd d.m.y.n,Wd d.m.y.d,dB d.r.g,Wd d.r.n,Wd d.r.d]
def zw.okB(d:zw):Bool:=d.c.okB&&d.m.okB&&d.r.okB
def zw.w(k:Nat)(d:zw):Prop:=d.c.w k∧d.m.w k∧d.r.w k
abbrev DyQ(d:V2×V2×Rat):zw:=⟨VQ d.1,VQ d.2.1,Qr d.2.2⟩
def zw.val(d:zw):V2×V2×Rat:=(d.c.val,d.m.val,d.r.val)
theorem zw.canon{d:zw}{k:Nat}(hw:d.w k)(h:d.okB=true):d=DyQ d.val:=by
 obtain ⟨c,m,r⟩:=d;unfold zw.okB at h;rw[Bool.and_eq_true,Bool.and_eq_true] at h;have h1:=PD.canon hw.1 h.1.1;have h2:=PD.canon hw.2.1 h.1.2;have h3:=RD.canon hw.2.2 h.2;show zw.mk c m r=zw.mk (VQ c.val) (VQ m.val) (Qr r.val);have h1:c=VQ c.val:=h1;have h2:m=VQ m.val:=h2;have h3:r=Qr r.val:=h3;rw[← h1,← h2,← h3]
instance:Inhabited AU:=⟨PoQ (none,(0,0))⟩
abbrev zw.rs(d:zw):List RD:=[d.c.x,d.c.y,d.m.x,d.m.y,d.r]
theorem HM{l:List RD}{i:Nat}(hi:i<l.length)(h:(l.getD i default).okB=false):l.all RD.okB=false:=by
 rw[List.all_eq_false];exact⟨l.getD i default,by rw[List.getD_eq_getElem?_getD,List.getElem?_eq_getElem hi];exact List.getElem_mem hi,by rw[h];simp⟩
theorem Gl{l:List RD}(h: ∀i,i<l.length→(l.getD i default).okB=true):l.all RD.okB=true:=by
 rw[List.all_eq_true];intro x hx;obtain ⟨i,hi,rfl⟩:=List.mem_iff_getElem.1 hx;have:=h i hi;rw[List.getD_eq_getElem?_getD,List.getElem?_eq_getElem hi] at this;exact this
end Lift
namespace Lift
open Go Go.Proofs
theorem s5{α:Type}(l:List α)(d:α){i:Nat}(h:i<l.length):l.take (i+1)=l.take i++[l.getD i d]:=by
 rw[List.take_add_one,List.getD_eq_getElem?_getD,List.getElem?_eq_getElem h];rfl
end Lift
namespace Lift
open Go Go.Proofs
instance:Inhabited zw:=⟨DyQ ((0,0),(0,0),0)⟩
end Lift
namespace Lift
open Go Go.Proofs
structure IW where
 a2:Rat
 b2:Rat
 c2:Rat
 f:V2
 u:List V2
 sg:List Int
abbrev IL(l:List Int):List D:=l.map (fun n=>dI n)
abbrev VLs(l:List V2):List D:=l.map (fun v=>(VQ v).D)
abbrev JE(a b c:Rat)(f:V2)(x y:D):List D:=[dB (Qr a).g,Wd (Qr a).n,Wd (Qr a).d,dB (Qr b).g,Wd (Qr b).n,Wd (Qr b).d,dB (Qr c).g,Wd (Qr c).n,Wd (Qr c).d,dB (Qr f.1).g,Wd (Qr f.1).n,Wd (Qr f.1).d,dB (Qr f.2).g,Wd (Qr f.2).n,Wd (Qr f.2).d,x,y]
abbrev IW.D(b:IW):D:= .ag (JE b.a2 b.b2 b.c2 b.f (.sl 6 (VLs b.u)) (.sl 1 (IL b.sg)))
end Lift
namespace Lift
open Go Go.Proofs
theorem wG(q:Rat):jc q.num=jZ q:=by
 unfold jc jZ;have h0:q.num=0↔q=0:=Rat.num_eq_zero
 have h1:q.num<0↔q<0:=by
  have e1:= @Rat.num_nonneg q;have e2:= @Rat.not_le 0 q;rw[← e2,← e1];omega
 by_cases hz:q=0
 · subst hz;rfl
 · rw[if_neg hz];by_cases hl:q<0
   · rw[if_pos hl,if_pos (h1.2 hl)]
   · rw[if_neg hl,if_neg (fun h=>hl (h1.1 h)),if_neg (fun h=>hz (h0.1 h))]
end Lift
namespace Lift
open Go Go.Proofs
abbrev ah(a:NQ):D:= .sl 3 (eD a)
abbrev bI(rt:List NQ):D:= .ag [.sl 1 (rt.map ah)]
theorem x8{k:Nat}(hk:k≤43):IntKind.i64.wrap ((1:Int)*2^(min k IntKind.i64.bits))=((2^k:Nat):Int):=by
 have hb:IntKind.i64.bits=64:=rfl;have h:2^k≤2^43:=Nat.pow_le_pow_right (by decide) hk;rw[hb,Nat.min_eq_left (by omega),show (1:Int)*2^k=((2^k:Nat):Int) by push_cast;omega];generalize 2^k=m at h;rw[aA (by omega) (by omega)]
theorem lK(xs:List D)(r:Int)(hx:xs.length≤4398046511104)(hr: ∀k:Nat,k≤43→xs.length≤2^k→(∀j,j<k→2^j<xs.length)→r=if 2^k=xs.length then (k:Int) else -1):Pure Tryz.prog 102 [.sl 3 xs] (dI r):=by
 refine qJ 17 Tryz.func102 rfl rfl rfl rfl (by kernel_rfl) (fun B F0 w0=>?_);refine qX 1 rfl ?_;refine qK 1 rfl ?_;refine qI (AW.block ?_);refine AW.aD [0,3] (fun k:Nat=>[(0,.d (.sl 3 xs)),(3,.d (dI k))]) (fun k=>k≤43∧ ∀j,j<k→2^j<xs.length) (fun k=>43-k) 0 rfl ⟨Nat.zero_le _,fun j h=>by omega⟩ (fun k hi=>?_)
 · obtain ⟨hk,hi⟩:=hi;show AW _ _ _ _ _ _ _ [(0,.d (.sl 3 xs)),(3,.d (dI k))];have hp:2^k≤2^43:=Nat.pow_le_pow_right (by decide) hk;refine AW.seq ?_;refine qX 2 rfl ?_;rw[x8 hk];refine qU 3 rfl ?_;refine ab.nil ?_;refine AW.cond rfl (fun h=>?_) (fun h=>?_)
   · have h:2^k<xs.length:=by have:=of_decide_eq_true h;omega
     have hk4:k≠43:=fun e=>by subst e;omega
     refine AW.skip (AW.block ?_);refine qT 2 rfl ?_;rw[aA (x:=(k:Int)+1) (by omega) (by omega)];refine qU 1 rfl ?_;refine ab.nil ?_
     exact⟨k+1,rfl,⟨by omega,fun j hj=>by
      by_cases e:j=k
      · rw[e];exact h
      · exact hi j (by omega)⟩,by omega⟩
   have h: ¬2^k<xs.length:=by have:=of_decide_eq_false h;omega
   rw[hr k hk (by omega) hi];refine AW.exit (AW.seq ?_);refine qX 2 rfl ?_;rw[x8 hk];refine qU 3 rfl ?_;refine ab.nil ?_;by_cases e:2^k=xs.length
   · rw[if_pos e,e,bne_eq_false_iff_eq.2 rfl];refine AW.ar rfl ?_;refine AW.skip ?_;refine qX 2 rfl ?_;exact qN rfl
   rw[if_neg e,bne_iff_ne.2 (fun h=>e (by omega))];refine AW.aF rfl ?_;refine qX 1 rfl ?_;exact qN rfl
theorem iP{i j:Nat}(h:2^i≤2^j):i≤j:=(Nat.pow_le_pow_iff_right (a:=2) (by decide)).1 h
theorem dV(xs:List D){i:Nat}(h:xs.length=2^i)(hi:i≤42):Pure Tryz.prog 102 [.sl 3 xs] (dI i):=by
 have hp:2^i≤2^42:=Nat.pow_le_pow_right (by decide) hi;refine lK xs i (by omega) (fun k hk h1 h2=>?_);rw[h] at h1;have h1:=iP h1;by_cases e:i<k
 · have:=h2 i e;omega
 · have e:i=k:=by omega
   rw[if_pos (by rw[h,e]),e]
theorem lr(xs:List D)(h: ∀i,xs.length≠2^i)(hx:xs.length≤4398046511104):Pure Tryz.prog 102 [.sl 3 xs] (dI (-1)):=by
 refine lK xs (-1) hx (fun k hk h1 h2=>?_);rw[if_neg (fun e=>h k e.symm)]
theorem sS{a:NQ}{i:Nat}(hi:i<a.length)(h:a.getD i 0≠0):ba a=false:=by
 unfold ba;rw[List.all_eq_false];exact⟨a.getD i 0,by rw[List.getD_eq_getElem?_getD,List.getElem?_eq_getElem hi];exact List.getElem_mem hi,by rw[decide_eq_false h];simp⟩
theorem pV{a:NQ}(h: ∀i,i<a.length→a.getD i 0=0):ba a=true:=by
 unfold ba;rw[List.all_eq_true];intro x hx;obtain ⟨i,hi,rfl⟩:=List.mem_iff_getElem.1 hx;have:=h i hi;rw[List.getD_eq_getElem?_getD,List.getElem?_eq_getElem hi] at this;exact decide_eq_true this
theorem nh(a:NQ){k:Nat}(hs:aj k a)(hk:k≤17300000000000)(hl:a.length≤1000000):Pure Tryz.prog 105 [ah a] (dB (ba a)):=by
 refine qJ 15 Tryz.func105 rfl rfl rfl rfl (by kernel_rfl) (fun B F0 w0=>?_);have hno:=fun i hi=>sS (a:=a) (i:=i) hi;have hyes:=pV (a:=a);generalize ba a=E at hno hyes ⊢;refine qX 1 rfl ?_;refine qI ?_;refine qX 2 rfl ?_;rw[List.length_map];refine qU 1 rfl ?_;refine ab.nil ?_;refine AW.block ?_;refine AW.aD [5,6,7] (fun i:Nat=>[(5,.d (ah a)),(6,.d (dI a.length)),(7,.d (dI i))]) (fun i=> ∀j,j<i→j<a.length→a.getD j 0=0) (fun i=>a.length-i) 0 rfl (fun j h=>by omega) (fun i hi=>?_)
 · show AW _ _ _ _ _ _ _ [(5,.d (ah a)),(6,.d (dI a.length)),(7,.d (dI i))];refine qX 1 rfl ?_;refine qI ?_;refine AW.cond rfl (fun h=>?_) (fun h=>?_)
   · have hii:i<a.length:=by have:=of_decide_eq_true h;omega
     have g:=kW hii;have cs:=kq (Qr (a.getD i 0)) (iL _ (hs i)) hk;have hn:=hno i hii;rw[bK] at cs;have s0:=Je (q:=a.getD i 0);generalize hq:a.getD i 0=q at g cs hn s0;generalize jc q.num=s at cs s0;refine AW.skip (AW.seq (AW.block (AW.seq (AW.region ?_))));refine ab.idx tok (Qr q).D rfl rfl rfl rfl (Int.natCast_nonneg i) g ?_;refine qU 3 rfl ?_;refine qK 1 rfl ?_;refine ab.call tok rfl rfl rfl rfl cs ?_;refine qU 1 rfl ?_;refine ab.nil ?_;refine AW.cond rfl (fun h=>?_) (fun h=>?_)
     · have h:s≠0:=bne_iff_ne.1 h;rw[hn (fun e=>h (s0.2 e))];refine qX 1 rfl ?_;exact qN rfl
     · have h:s=0:=bne_eq_false_iff_eq.1 h;refine AW.skip ?_;refine qT 1 rfl ?_;rw[aA (x:=(i:Int)+1) (by omega) (by omega)];refine qU 1 rfl ?_;refine ab.nil ?_;refine⟨i+1,rfl,fun j h1 h2=>?_,by omega⟩;by_cases e:j=i
       · rw[e,hq];exact s0.1 h
       · exact hi j (by omega) h2
   have hii: ¬i<a.length:=by have:=of_decide_eq_false h;omega
   rw[hyes (fun j h=>hi j (by omega) h)];refine AW.exit ?_;refine qX 1 rfl ?_;exact qN rfl
theorem EU(q:Rat):((Qr q).g=false∧(Qr q).n.length=0∧(Qr q).d.length=0)↔q=0:=by
 constructor
 · rintro ⟨_,h,_⟩
   have:=RD.oC (r:=Qr q) (List.length_eq_zero_iff.1 h);rw[bK] at this;exact this
 · intro e;subst e;rw[iV];exact⟨rfl,rfl,rfl⟩
theorem lL(a:NQ)(hl:a.length≤1000000):Pure Tryz.prog 104 [ah a] (dB (ba a)):=by
 refine qJ 26 Tryz.func104 rfl rfl rfl rfl (by kernel_rfl) (fun B F0 w0=>?_);have hno:=fun i hi=>sS (a:=a) (i:=i) hi;have hyes:=pV (a:=a);generalize ba a=E at hno hyes ⊢;refine qX 1 rfl ?_;refine qI ?_;refine qX 2 rfl ?_;rw[List.length_map];refine qU 1 rfl ?_;refine ab.nil ?_;refine AW.block ?_;refine AW.aD [5,6,7] (fun i:Nat=>[(5,.d (ah a)),(6,.d (dI a.length)),(7,.d (dI i))]) (fun i=> ∀j,j<i→j<a.length→a.getD j 0=0) (fun i=>a.length-i) 0 rfl (fun j h=>by omega) (fun i hi=>?_)
 · show AW _ _ _ _ _ _ _ [(5,.d (ah a)),(6,.d (dI a.length)),(7,.d (dI i))];refine qX 1 rfl ?_;refine qI ?_;refine AW.cond rfl (fun h=>?_) (fun h=>?_)
   · have hii:i<a.length:=by have:=of_decide_eq_true h;omega
     have g:=kW hii;have hn:=hno i hii;have s0:=EU (a.getD i 0);generalize hq:a.getD i 0=q at g hn s0;generalize Qr q=y at g s0;obtain ⟨yg,yn,yd⟩:=y;simp only[] at s0;refine AW.skip (AW.seq (AW.block (AW.seq (AW.region ?_))));refine ab.idx tok (RD.mk yg yn yd).D rfl rfl rfl rfl (Int.natCast_nonneg i) g ?_;refine qU 3 rfl ?_;refine qK 3 rfl ?_;cases yg with
     | true =>
       refine qU 11 rfl ?_;refine ab.nil ?_;refine AW.aF rfl ?_;rw[hn (fun e=>by have:=s0.2 e;cases this.1)];refine qX 1 rfl ?_;exact qN rfl
     | false =>
     refine qU 3 rfl ?_;rw[aV];refine qU 1 rfl ?_;by_cases h1:(0:Int)<(yn.length:Int)
     · rw[decide_eq_true h1];refine qU 7 rfl ?_;refine ab.nil ?_;refine AW.aF rfl ?_;rw[hn (fun e=>by have:=(s0.2 e).2.1;omega)];refine qX 1 rfl ?_;exact qN rfl
     rw[decide_eq_false h1];refine qU 5 rfl ?_;rw[aV];refine qU 1 rfl ?_;by_cases h2:(0:Int)<(yd.length:Int)
     · rw[decide_eq_true h2];refine qU 1 rfl ?_;refine ab.nil ?_;refine AW.aF rfl ?_;rw[hn (fun e=>by have:=(s0.2 e).2.2;omega)];refine qX 1 rfl ?_;exact qN rfl
     rw[decide_eq_false h2];refine qU 1 rfl ?_;refine ab.nil ?_;refine AW.ar rfl ?_;refine AW.skip ?_;refine qT 1 rfl ?_;rw[aA (x:=(i:Int)+1) (by omega) (by omega)];refine qU 1 rfl ?_;refine ab.nil ?_;refine⟨i+1,rfl,fun j h1 h2=>?_,by omega⟩;by_cases e:j=i
     · rw[e,hq];exact s0.1 ⟨rfl,by omega,by omega⟩
     · exact hi j (by omega) h2
   have hii: ¬i<a.length:=by have:=of_decide_eq_false h;omega
   rw[hyes (fun j h=>hi j (by omega) h)];refine AW.exit ?_;refine qX 1 rfl ?_;exact qN rfl
end Lift
namespace Lift
open Go Go.Proofs
section
variable {P:Program} {T:Ty} {B:Nat} {F0:Nat→Prop} {w0:bQ} {n:Nat} {σ τ:St} {K:St→Prop} {all:Array Oper} {o:Oper} {d:Nat} {rest:List Oper}
theorem ab.GH(hT:a6 P T)(z:Nat){e:Nat}{te:TI}{m:Int}(hd:o.dst=some d)(hdn:Nat.ble (d+1) n=true)(hg:aq all σ o=true)(hx:Hp T σ.get o.op=some (e,te,m))(hz:jO te=true)(hzd:q9 te= .ag [.v (.bool false),.sl 1 [],.sl 1 []])(hb:te.bytes=56)(hm:m=z)(h1:z≤1000000)
  (h:ab P B F0 w0 n all rest K ((d,.ow e (eD (List.replicate z 0)))::σ.kill d)):ab P B F0 w0 n all (o::rest) K σ:=by
 subst hm;refine ab.make hT hd hdn hg hx hz (by omega) (by rw[hb];omega) (by omega) ?_;have hq:(Qr 0).D= .ag [.v (.bool false),.sl 1 [],.sl 1 []]:=by rw[iV];rfl
 rw[hzd,← hq,show List.replicate ((z:Int)).toNat (Qr 0).D=eD (List.replicate z 0) by rw[eD,List.map_replicate];rfl];exact h
theorem CM(a:NQ)(m:Nat):(eD a).take (min (eD a).length (eD (List.replicate m 0)).length)++(eD (List.replicate m 0)).drop (min (eD a).length (eD (List.replicate m 0)).length)=eD (aW a m):=by
 rw[List.length_map,List.length_map,List.length_replicate,← List.map_take,← List.map_drop,← List.map_append];unfold aW;rw[List.drop_replicate]
 congr 2
 · by_cases h:a.length≤m
   · rw[Nat.min_eq_left h,List.take_of_length_le (Nat.le_refl _),List.take_of_length_le h]
   · rw[Nat.min_eq_right (by omega)]
 · congr 1;omega
theorem ab.IG(hT:a6 P T){h e m:Nat}{a:NQ}(hd:o.dst=some d)(hdn:Nat.ble (d+1) n=true)(hg:aq all σ o=true)(hx:I7 T σ o.op=some (h,e,eD (List.replicate m 0),eD a))
  (hk: ∀z,ab P B F0 w0 n all rest K ((d,.d (.v (.int .i64 z)))::(h,.ow e (eD (aW a m)))::σ)):ab P B F0 w0 n all (o::rest) K σ:=by
 refine ab.Eu hT hd hdn hg hx ?_;rw[CM];exact hk _
end
theorem An{a b:NQ}(h:a.length=b.length)(h2: ∀i,i<a.length→a.getD i 0=b.getD i 0):a=b:=by
 refine List.ext_getElem h (fun i h3 h4=>?_);have:=h2 i h3;rw[List.getD_eq_getElem?_getD,List.getD_eq_getElem?_getD,List.getElem?_eq_getElem h3,List.getElem?_eq_getElem h4] at this;exact this
theorem AD(r:NQ)(i j:Nat)(q:Rat):(r.set i q).getD j 0=if j=i∧i<r.length then q else r.getD j 0:=by
 rw[List.getD_eq_getElem?_getD,List.getElem?_set,List.getD_eq_getElem?_getD];by_cases e:i=j
 · subst e;by_cases h:i<r.length
   · rw[if_pos rfl,if_pos h,if_pos ⟨rfl,h⟩];rfl
   · rw[if_pos rfl,if_neg h,if_neg (fun e=>h e.2),List.getElem?_eq_none (by omega)]
 · rw[if_neg e,if_neg (fun h=>e h.1.symm)]
def Dy(r:NQ)(res:D)(R':List LR):Prop:= ∃V,res= .v V∧R'=[(V,AV.ow 111 (eD r))]
theorem gM(a:NQ)(n:Nat)(hn:n≤1000000):iu Tryz.prog 125 [ah a,dI n] [] (Dy (aW a n)):=by
 refine iu.intro (n:=12) tok Tryz.func125 rfl rfl rfl (Nat.le_of_ble_eq_true rfl) (by kernel_rfl) (fun B F0 w0=>?_);refine AZ.seq ?_;refine AZ.dm (fun B1 F1 w1=>?_);refine qU 1 rfl ?_;refine ab.nil ⟨rfl,?_⟩;refine AZ.seq ?_;refine AZ.dm (fun B1 F1 w1=>?_);refine qU 1 rfl ?_;refine ab.GH tok n rfl rfl rfl rfl rfl rfl rfl rfl hn ?_;refine qU 1 rfl ?_;refine ab.nil ⟨rfl,?_⟩;refine AZ.seq ?_;refine AZ.dm (fun B1 F1 w1=>?_);refine qU 2 rfl ?_;refine ab.IG tok (a:=a) (m:=n) rfl rfl rfl rfl (fun z=>?_);refine ab.nil ⟨rfl,?_⟩;refine AZ.seq ?_;refine AZ.dm (fun B1 F1 w1=>?_);refine qU 2 rfl ?_;refine ab.nil ⟨rfl,?_⟩;refine AZ.gC 4 rfl rfl rfl (fun V=>AZ.ret ⟨.v V,rfl,V,rfl,rfl⟩)
theorem eQ(a:NQ){k:Nat}(hs:aj k a)(hk:k≤17300000000000)(hl:a.length≤1000000):Pure Tryz.prog 86 [ah a] (ah (aC a)):=by
 refine qJ 23 Tryz.func86 rfl rfl rfl rfl (by kernel_rfl) (fun B F0 w0=>?_);refine qX 1 rfl ?_;refine qK 2 rfl ?_;rw[List.length_map];refine ab.GH tok a.length rfl rfl rfl rfl rfl rfl rfl rfl hl ?_;refine qU 1 rfl ?_;refine qI ?_;refine qX 2 rfl ?_;rw[List.length_map];refine qU 1 rfl ?_;refine ab.nil ?_;refine AW.block ?_;refine AW.aD [0,3,9,10] (fun s:Nat×NQ=>[(0,.d (ah a)),(3,.ow 111 (eD s.2)),(9,.d (dI a.length)),(10,.d (dI s.1))]) (fun s=>s.2.length=a.length∧ ∀j,j<s.1→j<a.length→s.2.getD j 0= -a.getD j 0) (fun s=>a.length-s.1) (0,List.replicate a.length 0) rfl ⟨List.length_replicate,fun j h=>by omega⟩ (fun s hi=>?_)
 · obtain ⟨i,r⟩:=s;obtain ⟨hrl,hi⟩:=hi;simp only[] at hrl hi;show AW _ _ _ _ _ _ _ [(0,.d (ah a)),(3,.ow 111 (eD r)),(9,.d (dI a.length)),(10,.d (dI i))];refine qX 1 rfl ?_;refine qI ?_;refine AW.cond rfl (fun h=>?_) (fun h=>?_)
   · have hii:i<a.length:=by have:=of_decide_eq_true h;omega
     have g:=kW hii;have cn:=r6 (Qr (a.getD i 0)) (iL _ (hs i)) hk;rw[bK] at cn;refine AW.skip (AW.seq (AW.block ?_));refine qX 2 rfl ?_;refine ab.nil ?_;refine qT 4 rfl ?_;refine ab.idx tok (Qr (a.getD i 0)).D rfl rfl rfl rfl (Int.natCast_nonneg i) g ?_;refine qU 1 rfl ?_;refine ab.call tok rfl rfl rfl rfl cn ?_;refine ab.fg tok rfl rfl rfl rfl (Int.natCast_nonneg i) (by rw[List.length_map];show i<_;omega) ?_;refine ab.zU tok (-a.getD i 0) rfl rfl rfl (by show i<_;omega) ?_;refine ab.nil ?_;refine qT 1 rfl ?_;rw[aA (x:=(i:Int)+1) (by omega) (by omega)];refine qU 1 rfl ?_;refine ab.nil ?_;refine⟨(i+1,r.set i (-a.getD i 0)),rfl,⟨by rw[List.length_set];exact hrl,fun j h1 h2=>?_⟩,by show a.length-(i+1)<a.length-i;omega⟩;show (r.set i (-a.getD i 0)).getD j 0=_;rw[AD];by_cases e:j=i
     · rw[if_pos ⟨e,by omega⟩,e]
     · rw[if_neg (fun h=>e h.1)];exact hi j (by omega) h2
   have hii: ¬i<a.length:=by have:=of_decide_eq_false h;omega
   obtain rfl:r=aC a:=An (by rw[hrl,a7]) (fun j hj=>by rw[nZ];exact hi j (by omega) (by omega));refine AW.exit ?_;refine qX 2 rfl ?_;exact qN rfl
theorem Hq(a b:Nat):(if (b:Int)>(a:Int) then (b:Int) else (a:Int))=((max a b:Nat):Int):=by
 split<;>omega
theorem eA(a b:NQ){k:Nat}(ha:aj k a)(hb:aj k b)(hk:k≤17300000000000)(hl:a.length≤1000000)(hl2:b.length≤1000000):Pure Tryz.prog 85 [ah a,ah b] (ah (aM a b)):=by
 refine qJ 37 Tryz.func85 rfl rfl rfl rfl (by kernel_rfl) (fun B F0 w0=>?_);obtain ⟨n,hn⟩: ∃n,n=max a.length b.length:=⟨_,rfl⟩;have cw1:=gM a n (by omega);have cw2:=gM b n (by omega);have l1:=bf a n;have l2:=bf b n;have g1: ∀i,i<n→(aW a n).getD i 0=a.getD i 0:=fun i hi=>by rw[fI,if_pos hi]
 have g2: ∀i,i<n→(aW b n).getD i 0=b.getD i 0:=fun i hi=>by rw[fI,if_pos hi]
 have hpl:(aM a b).length=n:=by rw[jf,hn]
 generalize aW a n=wa at cw1 l1 g1;generalize aW b n=wb at cw2 l2 g2;refine qX 1 rfl ?_;refine qK 4 rfl ?_;rw[List.length_map,List.length_map];refine qU 2 rfl ?_;rw[Hq,← hn];refine qI ?_;refine AZ.aw ?_;refine AZ.region ?_;refine af.cut 2 rfl (fun B1 F1 w1=>?_);refine qU 2 rfl ?_;refine ab.nil ⟨rfl,?_⟩;refine af.ju tok [] rfl rfl rfl rfl rfl List.nodup_nil rfl cw1 (fun _ _ _=>Nat.zero_le _) (fun res R1 hP=>?_);obtain ⟨V1,rfl,rfl⟩:=hP;refine af.cut 2 rfl (fun B1 F1 w1=>?_);refine qU 2 rfl ?_;refine ab.nil ⟨rfl,?_⟩;refine af.ju tok [] rfl rfl rfl rfl rfl List.nodup_nil rfl cw2 (fun _ _ _=>Nat.zero_le _) (fun res R1 hP=>?_);obtain ⟨V2,rfl,rfl⟩:=hP;refine af.cut 2 rfl (fun B1 F1 w1=>?_);refine qU 2 rfl ?_;refine ab.nil ⟨rfl,?_⟩;refine af.to [0,1] [(0,.d (.v V1)),(1,.d (.v V2))] rfl ?_;refine af.df 0 0 (V:=V1) (av:= .ow 111 (eD wa)) rfl rfl rfl ?_;refine af.to [0,1] [(0,.ow 111 (eD wa)),(1,.d (.v V2))] rfl ?_;refine af.df 1 1 (V:=V2) (av:= .ow 111 (eD wb)) rfl rfl rfl ?_;refine af.to [0,1] [(0,.ow 111 (eD wa)),(1,.ow 111 (eD wb))] rfl ?_;refine af.nil ?_;refine AW.fS tok 1 rfl rfl ?_;refine AW.seq ?_;refine qX 2 rfl ?_;rw[List.length_map,l1];refine qU 1 rfl ?_;refine ab.nil ?_;refine AW.block ?_;refine AW.aD [0,1,19,20] (fun s:Nat×NQ=>[(0,.ow 111 (eD s.2)),(1,.d (ah wb)),(19,.d (dI n)),(20,.d (dI s.1))]) (fun s=>s.2.length=n∧ ∀j,j<n→s.2.getD j 0=if j<s.1 then a.getD j 0+b.getD j 0 else a.getD j 0) (fun s=>n-s.1) (0,wa) rfl ⟨l1,fun j h=>by rw[if_neg (Nat.not_lt_zero _)];exact g1 j h⟩ (fun s hi=>?_)
 · obtain ⟨i,r⟩:=s;obtain ⟨hrl,hi⟩:=hi;simp only[] at hrl hi;show AW _ _ _ _ _ _ _ [(0,.ow 111 (eD r)),(1,.d (ah wb)),(19,.d (dI n)),(20,.d (dI i))];refine qX 1 rfl ?_;refine qI ?_;refine AW.cond rfl (fun h=>?_) (fun h=>?_)
   · have hii:i<n:=by have:=of_decide_eq_true h;omega
     have e1:=kW (r:=r) (i:=i) (by omega);have e2:=kW (r:=wb) (i:=i) (by omega);rw[hi i hii,if_neg (Nat.lt_irrefl _)] at e1;rw[g2 i hii] at e2;have ca:=lC (Qr (a.getD i 0)) (Qr (b.getD i 0)) (iL _ (ha i)) (iL _ (hb i)) hk;rw[bK,bK] at ca;refine AW.skip (AW.seq (AW.block ?_));refine qX 2 rfl ?_;refine ab.nil ?_;refine AW.draw aL 12 (by kernel_rfl) ?_;refine qP 4 rfl ?_;refine ae.fg tok rfl rfl rfl rfl rfl rfl (Int.natCast_nonneg i) (by rw[List.length_map];show i<_;omega) ?_;refine ae.cL tok (Qr (a.getD i 0)).D rfl rfl rfl rfl rfl e1 rfl ?_;refine qP 2 rfl ?_;refine ae.idx tok (Qr (b.getD i 0)).D rfl rfl rfl rfl rfl (Int.natCast_nonneg i) e2 ?_;refine qP 1 rfl ?_;refine ae.call tok rfl rfl rfl rfl rfl ca ?_;refine ae.fg tok rfl rfl rfl rfl rfl rfl (Int.natCast_nonneg i) (by rw[List.length_map];show i<_;omega) ?_;refine ae.nil ?_;refine ab.zU tok (a.getD i 0+b.getD i 0) rfl rfl rfl (by show i<_;omega) ?_;refine ab.nil ?_;refine qT 1 rfl ?_;rw[aA (x:=(i:Int)+1) (by omega) (by omega)];refine qU 1 rfl ?_;refine ab.nil ?_;refine⟨(i+1,r.set i (a.getD i 0+b.getD i 0)),rfl,⟨by rw[List.length_set];exact hrl,fun j h1=>?_⟩,by show n-(i+1)<n-i;omega⟩;show (r.set i (a.getD i 0+b.getD i 0)).getD j 0=if j<i+1 then _ else _
     rw[AD];by_cases e:j=i
     · rw[if_pos ⟨e,by omega⟩,e,if_pos (by omega)]
     · rw[if_neg (fun h=>e h.1),hi j h1];by_cases h2:j<i
       · rw[if_pos h2,if_pos (by omega)]
       · rw[if_neg h2,if_neg (by omega)]
   have hii: ¬i<n:=by have:=of_decide_eq_false h;omega
   obtain rfl:r=aM a b:=An (by rw[hrl,hpl]) (fun j hj=>by rw[mO,hi j (by omega),if_pos (by omega)]);refine AW.exit ?_;refine qX 2 rfl ?_;exact qN rfl
theorem jQ(a b:NQ)(n:Nat)(hn:n≤100000):Pure Tryz.prog 107 [ah a,ah b,dI n] (ah (c' a b n)):=by
 refine qJ 14 Tryz.func107 rfl rfl rfl rfl (by kernel_rfl) (fun B F0 w0=>?_);have cw1:=gM a n (by omega);have cw2:=gM b n (by omega);have l1:=bf a n;have l2:=bf b n;unfold c';generalize aW a n=wa at cw1 l1 ⊢;generalize aW b n=wb at cw2 l2 ⊢;refine qX 1 rfl ?_;refine qI ?_;refine AZ.aw ?_;refine AZ.region ?_;refine af.cut 2 rfl (fun B1 F1 w1=>?_);refine qU 2 rfl ?_;refine ab.nil ⟨rfl,?_⟩;refine af.ju tok [] rfl rfl rfl rfl rfl List.nodup_nil rfl cw1 (fun _ _ _=>Nat.zero_le _) (fun res R1 hP=>?_);obtain ⟨V1,rfl,rfl⟩:=hP;refine af.cut 2 rfl (fun B1 F1 w1=>?_);refine qU 2 rfl ?_;refine ab.nil ⟨rfl,?_⟩;refine af.ju tok [] rfl rfl rfl rfl rfl List.nodup_nil rfl cw2 (fun _ _ _=>Nat.zero_le _) (fun res R1 hP=>?_);obtain ⟨V2,rfl,rfl⟩:=hP;refine af.to [9,12] [(9,.d (.v V1)),(12,.d (.v V2))] rfl ?_;refine af.df 9 0 (V:=V1) (av:= .ow 111 (eD wa)) rfl rfl rfl ?_;refine af.to [9,12] [(9,.ow 111 (eD wa)),(12,.d (.v V2))] rfl ?_;refine af.df 12 1 (V:=V2) (av:= .ow 111 (eD wb)) rfl rfl rfl ?_;refine af.to [9,12] [(9,.ow 111 (eD wa)),(12,.ow 111 (eD wb))] rfl ?_;refine af.cut 2 rfl (fun B1 F1 w1=>?_);refine ab.fS tok 12 rfl rfl ?_;refine ab.gK tok rfl rfl rfl rfl rfl rfl (by rw[List.length_map,List.length_map,l1,l2];show (_+_)*56≤_;omega) (by rw[List.length_map,List.length_map,l1,l2];omega) ?_;refine qU 1 rfl ?_;refine ab.nil ⟨rfl,?_⟩;refine af.nil ?_;rw[show eD wa++eD wb=eD (wa++wb) from List.map_append.symm];exact AW.ret rfl
theorem iy(a:NQ){k:Nat}(hs:aj k a)(hk:k≤17300000000000)(hl:a.length≤1000000):Pure Tryz.prog 103 [ah a] (ah a):=by
 refine qJ 28 Tryz.func103 rfl rfl rfl rfl (by kernel_rfl) (fun B F0 w0=>?_);refine qX 1 rfl ?_;refine qK 1 rfl ?_;refine qI ?_;refine qX 2 rfl ?_;rw[List.length_map];refine qU 1 rfl ?_;refine ab.nil ?_;refine AW.block ?_;refine AW.aD [3,6,7,8] (fun i:Nat=>[(3,.ow 111 (eD (a.take i))),(6,.d (ah a)),(7,.d (dI a.length)),(8,.d (dI i))]) (fun i=>i≤a.length) (fun i=>a.length-i) 0 rfl (Nat.zero_le _) (fun i hi=>?_)
 · have hi:i≤a.length:=hi;show AW _ _ _ _ _ _ _ [(3,.ow 111 (eD (a.take i))),(6,.d (ah a)),(7,.d (dI a.length)),(8,.d (dI i))];refine qX 1 rfl ?_;refine qI ?_;refine AW.cond rfl (fun h=>?_) (fun h=>?_)
   · have hii:i<a.length:=by have:=of_decide_eq_true h;omega
     have g:=kW hii;have hw:=iL _ (hs i);have htk:=s5 a 0 hii;have hol:(a.take i).length=i:=by rw[List.length_take];omega
     generalize a.getD i 0=q at g hw htk;have hw1:=hw.2.2.1;have hw2:=hw.2.2.2;refine AW.skip (AW.seq (AW.block (AW.seq (AW.region ?_))));refine ab.idx tok (Qr q).D rfl rfl rfl rfl (Int.natCast_nonneg i) g ?_;refine qU 3 rfl ?_;refine ab.nil ?_;refine AW.draw aL 13 (by kernel_rfl) ?_;refine qP 6 rfl ?_;refine ae.mA tok rfl rfl rfl rfl rfl (by show (((Qr q).n.map wd).length)*4≤_;rw[aV];omega) ?_;refine qP 3 rfl ?_;refine ae.mA tok rfl rfl rfl rfl rfl (by show (((Qr q).d.map wd).length)*4≤_;rw[aV];omega) ?_;refine qP 1 rfl ?_;refine ae.fA tok rfl rfl rfl rfl rfl rfl ?_;refine ae.nil ?_;refine ab.gK tok rfl rfl rfl rfl rfl rfl (by rw[List.length_map,hol];show (_+1)*56≤_;omega) (by rw[List.length_map,hol];show _+1≤_;omega) ?_;refine qU 1 rfl ?_;refine ab.nil ?_;refine qT 1 rfl ?_;rw[aA (x:=(i:Int)+1) (by omega) (by omega)];refine qU 1 rfl ?_;refine ab.nil ?_;exact⟨i+1,by rw[htk];show _=[(3,AV.ow _ (List.map _ _)),_,_,_];rw[List.map_append];rfl,hii,by omega⟩
   have hii:i=a.length:=by have:=of_decide_eq_false h;omega
   subst hii;rw[List.take_length];refine AW.exit ?_;refine qX 2 rfl ?_;exact qN rfl
end Lift
namespace Lift
open Go Go.Proofs
section
variable {P:Program} {T:Ty} {B:Nat} {F0:Nat→Prop} {w0:bQ} {n:Nat} {σ σ0 τ:St} {K:St→Prop} {all ops:Array Oper} {o:Oper} {d:Nat} {ds:List Nat} {rest:List Oper}
theorem Bc(a:NQ)(lo hi:Option Int):((eD a).take (bO (eD a).length hi)).drop (eO lo)=eD ((a.take (bO a.length hi)).drop (eO lo)):=by
 show List.drop _ (List.take (bO (List.map _ a).length hi) (List.map _ a))=List.map _ _;rw[List.map_drop,List.map_take,List.length_map]
theorem ab.fp(hT:a6 P T){a:NQ}{lo hi:Option Int}(x:NQ)(hd:o.dst=some d)(hdn:Nat.ble (d+1) n=true)(hg:aq all σ o=true)(hx:B4 T σ.get o.op=some (ah a,lo,hi))(g1:okB lo)(g2:okB hi)(g3:eO lo≤bO a.length hi)(g4:bO a.length hi≤a.length)(hxx:(a.take (bO a.length hi)).drop (eO lo)=x)
  (h:ab P B F0 w0 n all rest K ((d,.d (ah x))::σ)):ab P B F0 w0 n all (o::rest) K σ:=by
 refine ab.Bd hT hd hdn hg hx g1 g2 (by rw[List.length_map];exact g3) (by rw[List.length_map];exact g4) ?_;rw[Bc,hxx];exact h
theorem ae.fp(hT:a6 P T){a:NQ}{lo hi:Option Int}(x:NQ)(hd:o.dst=some d)(hdn:Nat.ble (d+1) n=true)(hg:aq ops τ o=true)(hs:σ0.get d=none)(hx:B4 T τ.get o.op=some (ah a,lo,hi))(g1:okB lo)(g2:okB hi)(g3:eO lo≤bO a.length hi)(g4:bO a.length hi≤a.length)(hxx:(a.take (bO a.length hi)).drop (eO lo)=x)
  (h:ae P B F0 w0 n ops ds σ0 rest ((d,.d (ah x))::τ) K):ae P B F0 w0 n ops ds σ0 (o::rest) τ K:=by
 refine ae.Bd hT hd hdn hg hs hx g1 g2 (by rw[List.length_map];exact g3) (by rw[List.length_map];exact g4) ?_;rw[Bc,hxx];exact h
end
theorem fV(i:Nat)(h:i≤9223372036854775807):lG true .i64 (i:Int) 2= .int .i64 ((i / 2:Nat):Int):=by
 have e:((i:Int).tdiv ((2:Nat):Int))=((i / 2:Nat):Int):=rfl;show Value.int .i64 (IntKind.i64.wrap ((i:Int).tdiv ((2:Nat):Int)))=_;rw[e,aA (by omega) (by omega)]
theorem nC{rt:List NQ}{i:Nat}(h:i<rt.length):(rt.map ah)[i]?=some (ah (rt.getD i [])):=by simp[h]
theorem ak.len{l:Nat}{a:NQ}(h:ak l a)(hl:l≤10):a.length≤1024:=Nat.le_trans h.le (Nat.pow_le_pow_right (n:=2) (by decide) hl)
def gr:Nat→NQ→NQ
 | 0,a=>if ba (a.take 1)=true then [] else a.take 1
 | i+1,a=>if ba ((a.take (2^(i+1))).drop (2^i))=true then gr i a else a.take (2^(i+1))
def ai(a:NQ):NQ:=if a.length=0 then [] else gr a.length.log2 a
theorem Be: ∀{i:Nat} {a:NQ} {k:Nat},2^i≤a.length→aj k a→ak i (gr i a)∧aj k (gr i a)
 | 0,a,k,h,hs=>by
   unfold gr;split
   · exact⟨bL _,bz hs.pos⟩
   · exact⟨.inr ⟨0,Nat.le_refl _,by rw[List.length_take];have h:1≤a.length:=h;show min 1 _=1;omega⟩,hs.take _⟩
 | i+1,a,k,h,hs=>by
   unfold gr;have e:2^(i+1)=2^i*2:=Nat.pow_succ ..;split
   · have:=Be (i:=i) (a:=a) (by omega) hs;exact⟨this.1.mono (by omega),this.2⟩
   · exact⟨.inr ⟨i+1,Nat.le_refl _,by rw[List.length_take];omega⟩,hs.take _⟩
theorem aO{l k:Nat}{a:NQ}(h:ak l a)(hs:aj k a):ak l (ai a)∧aj k (ai a):=by
 unfold ai;split
 · exact⟨bL _,bz hs.pos⟩
 rename_i h0;rcases h with e | ⟨i,hi,e⟩
 · exact absurd e h0
 rw[e,Nat.log2_two_pow];have:=Be (i:=i) (a:=a) (by omega) hs;exact⟨this.1.mono hi,this.2⟩
theorem cE(a:NQ){l k:Nat}(ha:ak l a)(hl:l≤5)(hs:aj k a)(hk:k≤17300000000000):Pure Tryz.prog 62 [ah a] (ah (ai a)):=by
 refine qJ 45 Tryz.func62 rfl rfl rfl rfl (by kernel_rfl) (fun B F0 w0=>?_);have hl10:=ha.len (by omega);rcases ha with h0 | ⟨i,hi,hai⟩
 · obtain rfl:a=[]:=List.length_eq_zero_iff.1 h0;have cl:=lr (eD []) (fun i=>by have:=Nat.two_pow_pos i;show 0≠_;omega) (by decide);have cc:=iy [] hs hk (by decide);refine qX 1 rfl ?_;refine qI ?_;refine qX 1 rfl ?_;refine ab.call tok rfl rfl rfl rfl cl ?_;refine qU 1 rfl ?_;refine qK 11 rfl ?_;refine ab.nil ?_;refine AW.ar rfl ?_;refine AW.skip ?_;refine qX 3 rfl ?_;refine qI (AW.block ?_);refine AW.aD [0,4] (fun _:Unit=>[(0,.d (ah [])),(4,.d (dI 0))]) (fun _=>True) (fun _=>0) () rfl trivial (fun _ _=>?_);refine AW.seq ?_;refine qX 10 rfl ?_;refine ab.nil ?_;refine AW.ar rfl ?_;refine AW.exit (AW.seq ?_);refine qX 7 rfl ?_;refine ab.nil ?_;refine AW.ar rfl ?_;refine AW.skip ?_;refine qX 2 rfl ?_;refine ab.fp tok (a:=[]) [] rfl rfl rfl rfl trivial (Int.le_refl _) (Nat.le_refl _) (Nat.le_refl _) rfl ?_;refine ab.call tok rfl rfl rfl rfl cc ?_;refine qU 1 rfl ?_;exact qN rfl
 have cl:=dV (eD a) (by rw[List.length_map];exact hai) (by omega);have hp:=Nat.two_pow_pos i;have hE:ai a=gr i a:=by unfold ai;rw[if_neg (by omega),hai,Nat.log2_two_pow]
 rw[hE];refine qX 1 rfl ?_;refine qI ?_;refine qX 1 rfl ?_;refine ab.call tok rfl rfl rfl rfl cl ?_;refine qU 1 rfl ?_;refine qK 2 rfl ?_;rw[List.length_map];refine qU 1 rfl ?_;rw[decide_eq_true (show (0:Int)<(a.length:Int) by omega)];refine qU 3 rfl ?_;rw[decide_eq_false (show ¬((i:Int)<0) by omega)];refine qU 3 rfl ?_;rw[decide_eq_false (show ¬((5:Int)<(i:Int)) by omega)];refine qU 2 rfl ?_;refine ab.nil ?_;refine AW.ar rfl ?_;refine AW.skip ?_;refine qX 2 rfl ?_;rw[List.length_map,hai];refine qU 1 rfl ?_;refine qI (AW.block ?_);refine AW.aD [0,4] (fun j:Nat=>[(0,.d (ah a)),(4,.d (dI (2^j:Nat)))]) (fun j=>j≤i∧gr j a=gr i a) (fun j=>j) i rfl ⟨Nat.le_refl _,rfl⟩ (fun j hj=>?_);obtain ⟨hj,hjE⟩:=hj;show AW _ _ _ _ _ _ _ [(0,.d (ah a)),(4,.d (dI (2^j:Nat)))];have hpj:2^j≤2^i:=Nat.pow_le_pow_right (by decide) hj;have hpp:=Nat.two_pow_pos j;refine AW.seq ?_;refine qX 2 rfl ?_;rcases j with _ | j
 · refine qU 8 rfl ?_;refine ab.nil ?_;refine AW.ar rfl ?_;refine AW.exit (AW.seq ?_);refine qX 4 rfl ?_;refine ab.fp tok (a:=a) (a.take 1) rfl rfl rfl rfl trivial (show (0:Int)≤1 by decide) (Nat.zero_le _) (show 1≤a.length by omega) rfl ?_;refine ab.call tok rfl rfl rfl rfl (lL (a.take 1) (by rw[List.length_take];omega)) ?_;refine qU 1 rfl ?_;refine ab.nil ?_;rw[← hjE];unfold gr;cases hz:ba (a.take 1) with
   | true =>
     rw[if_pos rfl];refine AW.aF rfl ?_;refine qX 1 rfl ?_;exact qN rfl
   | false =>
     rw[if_neg (by simp)];refine AW.ar rfl ?_;refine AW.skip ?_;refine qX 2 rfl ?_;refine ab.fp tok (a:=a) (a.take 1) rfl rfl rfl rfl trivial (show (0:Int)≤1 by decide) (Nat.zero_le _) (show 1≤a.length by omega) rfl ?_;refine ab.call tok rfl rfl rfl rfl (iy (a.take 1) (hs.take 1) hk (by rw[List.length_take];omega)) ?_;refine qU 1 rfl ?_;exact qN rfl
 have e2:2^(j+1)=2^j*2:=Nat.pow_succ ..;have eh:=ke j;rw[decide_eq_true (show (1:Int)<((2^(j+1):Nat):Int) by have:=Nat.two_pow_pos j;omega)];refine qU 3 rfl ?_;refine ab.div tok rfl rfl rfl rfl (by decide) ?_;rw[fV _ (by omega),eh];refine qU 1 rfl ?_;refine ab.fp tok (a:=a) ((a.take (2^(j+1))).drop (2^j)) rfl rfl rfl rfl (Int.natCast_nonneg _) (Int.natCast_nonneg _) (show 2^j≤2^(j+1) by omega) (show 2^(j+1)≤a.length by omega) rfl ?_;refine ab.call tok rfl rfl rfl rfl (lL _ (by rw[List.length_drop,List.length_take];omega)) ?_;refine qU 1 rfl ?_;refine ab.nil ?_;cases hz:ba ((a.take (2^(j+1))).drop (2^j)) with
 | true =>
   refine AW.aF rfl ?_;refine AW.skip (AW.block ?_);refine qT 1 rfl ?_;refine ab.div tok rfl rfl rfl rfl (by decide) ?_;rw[fV _ (by omega),eh];refine qU 1 rfl ?_;refine ab.nil ?_;exact⟨j,rfl,⟨by omega,by rw[← hjE];show _=if ba ((a.take (2^(j+1))).drop (2^j))=true then _ else _;rw[if_pos hz]⟩,by omega⟩
 | false =>
 refine AW.ar rfl ?_;refine AW.exit (AW.seq ?_);refine qX 2 rfl ?_;rw[beq_eq_false_iff_ne.2 (show ((2^(j+1):Nat):Int)≠1 by have:=Nat.two_pow_pos j;omega)];refine qU 5 rfl ?_;refine ab.nil ?_;refine AW.ar rfl ?_;refine AW.skip ?_;refine qX 2 rfl ?_;refine ab.fp tok (a:=a) (a.take (2^(j+1))) rfl rfl rfl rfl trivial (Int.natCast_nonneg _) (Nat.zero_le _) (show 2^(j+1)≤a.length by omega) rfl ?_;refine ab.call tok rfl rfl rfl rfl (iy _ (hs.take _) hk (by rw[List.length_take];omega)) ?_;refine qU 1 rfl ?_;refine ab.nil ?_;rw[← hjE];unfold gr;rw[if_neg (by rw[hz];simp)];exact AW.ret rfl
end Lift
namespace Lift
open Go Go.Proofs
abbrev kC(a:NQ):Prop:=aj 17300000000000 a
def I3(R:NQ→NQ→NQ)(O:NQ→NQ→Prop)(rt:List NQ)(a b:NQ):Prop :=
 kC a∧kC b∧(a.length≠1→ba a=false→ba b=false →
  (b.length≤a.length / 2→O (a.take (a.length / 2)) b∧O (a.drop (a.length / 2)) b) ∧
  (¬b.length≤a.length / 2→(O (a.take (a.length / 2)) (b.take (a.length / 2))∧O (a.drop (a.length / 2)) (b.drop (a.length / 2))∧O (R (a.drop (a.length / 2)) (b.drop (a.length / 2))) (rt.getD (a.length.log2-1) []) ∧
   O (a.take (a.length / 2)) (b.drop (a.length / 2))∧O (a.drop (a.length / 2)) (b.take (a.length / 2))) ∧
   kC (R (a.take (a.length / 2)) (b.take (a.length / 2)))∧kC (R (R (a.drop (a.length / 2)) (b.drop (a.length / 2))) (rt.getD (a.length.log2-1) []))∧kC (R (a.take (a.length / 2)) (b.drop (a.length / 2)))∧kC (R (a.drop (a.length / 2)) (b.take (a.length / 2)))))
def yG(R:NQ→NQ→NQ)(O:NQ→NQ→Prop)(rt:List NQ)(a b:NQ):Prop:=if a.length<b.length then I3 R O rt b a else I3 R O rt a b
def Cc:Nat→List NQ→NQ→NQ→Prop
 | 0,rt,a,b=>yG (fun _ _=>[]) (fun _ _=>True) rt a b
 | l+1,rt,a,b=>yG (aS l rt) (Cc l rt) rt a b
set_option maxHeartbeats 1600000 in
theorem s4{l:Nat}{R:NQ→NQ→NQ}{O:NQ→NQ→Prop}{rt:List NQ}{a b:NQ}(ha:ak l a)(hb:ak l b)(hrt:cu rt)(hl:l≤rt.length)(hl5:rt.length≤10)(hok:yG R O rt a b)
  (hR: ∀l',l=l'+1→ ∀a' b',ak l' a'→ak l' b'→O a' b'→Pure Tryz.prog 63 [bI rt,ah a',ah b'] (ah (R a' b'))∧ak l' (R a' b')):
  Pure Tryz.prog 63 [bI rt,ah a,ah b] (ah (jx (iC R rt) a b)):=by
 refine qJ 100 Tryz.func63 rfl rfl rfl rfl (by kernel_rfl) (fun B F0 w0=>?_);have hla:=ha.len (by omega);have hlb:=hb.len (by omega);unfold yG at hok;refine qX 2 rfl ?_;refine ab.nil ?_;refine AW.cut [1,2,3] (fun s:NQ×NQ=>[(1,.d (ah s.1)),(2,.d (ah s.2)),(3,.bx [.sl 1 (rt.map ah)])]) (fun s=>iC R rt s.1 s.2=jx (iC R rt) a b∧s.2.length≤s.1.length∧ak l s.1∧ak l s.2∧I3 R O rt s.1 s.2) ?_ (fun s hs=>?_)
 · refine qX 4 rfl ?_;rw[List.length_map,List.length_map];refine qU 1 rfl ?_;refine ab.nil ?_;unfold jx;by_cases hab:a.length<b.length
   · rw[decide_eq_true (show (a.length:Int)<(b.length:Int) by omega),if_pos hab];refine AW.aF rfl ?_;refine qT 4 rfl ?_;refine ab.nil ?_;exact⟨(b,a),rfl,rfl,by show a.length≤b.length;omega,hb,ha,by rw[if_pos hab] at hok;exact hok⟩
   · rw[decide_eq_false (show ¬(a.length:Int)<(b.length:Int) by omega),if_neg hab];refine AW.ar rfl ?_;refine AW.skip ?_;exact⟨(a,b),rfl,rfl,by show b.length≤a.length;omega,ha,hb,by rw[if_neg hab] at hok;exact hok⟩
 · obtain ⟨x,y⟩:=s;obtain ⟨hE,hab,ha,hb,sa,sb,hm⟩:=hs;simp only[] at hE hab ha hb sa sb hm;show AW _ _ _ _ _ _ _ [(1,.d (ah x)),(2,.d (ah y)),(3,.bx [.sl 1 (rt.map ah)])];rw[← hE];clear hE;clear hok;generalize x=a at *;generalize y=b at *;have hla:=ha.len (by omega);have hlb:=hb.len (by omega);have cz1:=nh a sa (by omega) (by omega);have cz2:=nh b sb (by omega) (by omega);unfold iC;refine AW.seq (AW.block ?_);refine qX 1 rfl ?_;refine ab.call tok rfl rfl rfl rfl cz1 ?_;cases hza:ba a with
   | true =>
     rw[if_pos (by rfl)];refine qU 5 rfl ?_;refine ab.nil ?_;refine AW.aF rfl ?_;refine qX 1 rfl ?_;exact qN rfl
   | false =>
   refine qU 2 rfl ?_;refine ab.call tok rfl rfl rfl rfl cz2 ?_;refine qU 2 rfl ?_;refine ab.nil ?_;cases hzb:ba b with
   | true =>
     rw[if_pos (by rfl)];refine AW.aF rfl ?_;refine qX 1 rfl ?_;exact qN rfl
   | false =>
   rw[if_neg (by decide)];refine AW.ar rfl ?_;refine qX 2 rfl ?_;rw[List.length_map];refine qU 2 rfl ?_;refine ab.nil ?_;have hb0:0<b.length:=List.length_pos_iff.2 (mG hzb);have ha0:0<a.length:=List.length_pos_iff.2 (mG hza);by_cases h1:a.length=1
   · rw[if_pos h1,beq_iff_eq.2 (show (a.length:Int)=1 by omega)];have g1:=kW (r:=a) (i:=0) ha0;have g2:=kW (r:=b) (i:=0) hb0;have cm:=r7 (Qr (a.getD 0 0)) (Qr (b.getD 0 0)) (iL _ (sa 0)) (iL _ (sb 0)) (by omega);rw[bK,bK] at cm;refine AW.aF rfl ?_;refine AW.seq ?_;refine AW.draw aL 8 (by kernel_rfl) ?_;refine qP 1 rfl ?_;refine ae.idx tok (Qr (a.getD 0 0)).D rfl rfl rfl rfl rfl (Int.le_refl _) g1 ?_;refine qP 2 rfl ?_;refine ae.idx tok (Qr (b.getD 0 0)).D rfl rfl rfl rfl rfl (Int.le_refl _) g2 ?_;refine qP 1 rfl ?_;refine ae.call tok rfl rfl rfl rfl rfl cm ?_;refine ae.fA tok rfl rfl rfl rfl rfl rfl ?_;refine ae.nil ?_;refine qU 1 rfl ?_;exact qN rfl
   rw[if_neg h1,beq_eq_false_iff_ne.2 (show (a.length:Int)≠1 by omega)];refine AW.ar rfl ?_;refine AW.skip ?_
   obtain ⟨i,hi,hla2⟩: ∃i,i≤l∧a.length=2^i:=by
    rcases ha with e | e
    · omega
    · exact e
   have sH:i≠0:=fun e=>h1 (by rw[hla2,e]);obtain ⟨j,rfl⟩: ∃j,i=j+1:=⟨i-1,by omega⟩;obtain ⟨l',rfl⟩: ∃l',l=l'+1:=⟨l-1,by omega⟩;have hj:j≤l':=by omega
   have hR:=fun a' b' h1 h2 h3=>hR l' rfl a' b' h1 h2 h3;obtain ⟨hm1,hm2⟩:=hm h1 hza hzb;obtain ⟨e1,e2,e3⟩:=a9 hla2;have hx:ak l' (a.take (a.length / 2)):= .inr ⟨j,hj,e1⟩;have hy:ak l' (a.drop (a.length / 2)):= .inr ⟨j,hj,e2⟩;have hlog:a.length.log2-1=j:=by rw[hla2,Nat.log2_two_pow];omega
   obtain ⟨n,hn⟩: ∃n,n=a.length / 2:=⟨_,rfl⟩
   have hn2:a.length=n+n:=by
    have:2^(j+1)=2^j*2:=Nat.pow_succ ..;omega
   rw[← hn] at e1 e2 e3 hx hy hm1 hm2 ⊢;refine qX 2 rfl ?_;rw[List.length_map];refine ab.div tok rfl rfl rfl rfl (by decide) ?_;rw[fV _ (by omega),← hn];refine qU 1 rfl ?_;refine qI ?_;refine AW.draw aL 7 (by kernel_rfl) ?_;refine qP 2 rfl ?_;refine ae.fp tok (a:=a) (a.take n) rfl rfl rfl rfl rfl trivial (Int.natCast_nonneg n) (Nat.zero_le _) (show n≤a.length by omega) rfl ?_;refine qP 2 rfl ?_;refine ae.fp tok (a:=a) (a.drop n) rfl rfl rfl rfl rfl (Int.natCast_nonneg n) trivial (show n≤a.length by omega) (Nat.le_refl _) (by show (a.take a.length).drop n=_;rw[List.take_length]) ?_;refine qP 1 rfl ?_;refine ae.nil ?_;refine qU 1 rfl ?_;refine qI ?_;refine qX 2 rfl ?_;rw[List.length_map];refine qU 2 rfl ?_;refine ab.nil ?_;by_cases h3:b.length≤n
   · rw[if_pos h3,decide_eq_true (show (b.length:Int)≤(n:Int) by omega)]
     have hb':ak l' b:=by
      rcases hb with e | ⟨i',_,e⟩
      · exact .inl e
      · refine .inr ⟨i',?_,e⟩;rw[e3,e] at h3;have:=iP h3;omega
     have r1:=hR _ _ hx hb' (hm1 h3).1;have r2:=hR _ _ hy hb' (hm1 h3).2;have cj:=jQ (R (a.take n) b) (R (a.drop n) b) n (by omega);refine AW.aF rfl ?_;refine AW.seq ?_;refine AW.draw aL 10 (by kernel_rfl) ?_;refine qP 3 rfl ?_;refine ae.call tok rfl rfl rfl rfl rfl r1.1 ?_;refine qP 3 rfl ?_;refine ae.call tok rfl rfl rfl rfl rfl r2.1 ?_;refine qP 1 rfl ?_;refine ae.call tok rfl rfl rfl rfl rfl cj ?_;refine ae.nil ?_;refine qU 1 rfl ?_;exact qN rfl
   rw[if_neg h3,decide_eq_false (show ¬(b.length:Int)≤(n:Int) by omega)]
   have hlb2:b.length=2^(j+1):=by
    rcases hb with e | ⟨i',_,e⟩
    · omega
    · rw[e] at h3 hab ⊢;rw[hla2] at hab;rw[e3] at h3;have h4:=iP hab;have h5: ¬i'≤j:=fun h=>h3 (Nat.pow_le_pow_right (by decide) h);rw[show i'=j+1 by omega]
   obtain ⟨f1,f2,f3⟩:=a9 hlb2;rw[show b.length / 2=n by omega] at f1 f2;have hu:ak l' (b.take n):= .inr ⟨j,hj,f1⟩;have hv:ak l' (b.drop n):= .inr ⟨j,hj,f2⟩;obtain ⟨⟨o1,o2,o5,o3,o4⟩,z1,z5,z3,z4⟩:=hm2 h3;rw[hlog] at o5 z5;have r1:=hR _ _ hx hu o1;have r2:=hR _ _ hy hv o2;have r3:=hR _ _ hx hv o3;have r4:=hR _ _ hy hu o4;rw[hlog];have hd:ak l' (rt.getD j []):= .inr ⟨j,hj,hrt j (by omega)⟩;have r5:=hR _ _ r2.2 hd o5;have n1:=r1.2.len (by omega);have n3:=r3.2.len (by omega);have n4:=r4.2.len (by omega);have n5:=r5.2.len (by omega);have p1:=eA (R (a.take n) (b.take n)) (R (R (a.drop n) (b.drop n)) (rt.getD j [])) z1 z5 (by omega) (by omega) (by omega);have p2:=eA (R (a.take n) (b.drop n)) (R (a.drop n) (b.take n)) z3 z4 (by omega) (by omega) (by omega);have cj:=jQ (aM (R (a.take n) (b.take n)) (R (R (a.drop n) (b.drop n)) (rt.getD j []))) (aM (R (a.take n) (b.drop n)) (R (a.drop n) (b.take n))) n (by omega);have cl:=dV (eD a) (by rw[List.length_map];exact hla2) (by omega);refine AW.ar rfl ?_;refine AW.skip (AW.seq ?_);refine AW.draw aL 7 (by kernel_rfl) ?_;refine qP 2 rfl ?_;refine ae.fp tok (a:=b) (b.take n) rfl rfl rfl rfl rfl trivial (Int.natCast_nonneg n) (Nat.zero_le _) (show n≤b.length by omega) rfl ?_;refine qP 2 rfl ?_;refine ae.fp tok (a:=b) (b.drop n) rfl rfl rfl rfl rfl (Int.natCast_nonneg n) trivial (show n≤b.length by omega) (Nat.le_refl _) (by show (b.take b.length).drop n=_;rw[List.take_length]) ?_;refine qP 1 rfl ?_;refine ae.nil ?_;refine qU 1 rfl ?_;refine qI ?_;refine AW.draw aL 7 (by kernel_rfl) ?_;refine qP 3 rfl ?_;refine ae.call tok rfl rfl rfl rfl rfl cl ?_;refine qP 1 rfl ?_;rw[aA (x:=((j+1:Nat):Int) -1) (by omega) (by omega),show ((j+1:Nat):Int) -1=(j:Int) by omega];refine ae.idx tok (ah (rt.getD j [])) rfl rfl rfl rfl rfl (Int.natCast_nonneg j) (nC (by omega)) ?_;refine qP 1 rfl ?_;refine ae.nil ?_;refine qU 1 rfl ?_;refine qI ?_;refine AW.draw aL 12 (by kernel_rfl) ?_;refine qP 3 rfl ?_;refine ae.call tok rfl rfl rfl rfl rfl r1.1 ?_;refine qP 4 rfl ?_;refine ae.call tok rfl rfl rfl rfl rfl r2.1 ?_;refine qP 1 rfl ?_;refine ae.call tok rfl rfl rfl rfl rfl r5.1 ?_;refine ae.call tok rfl rfl rfl rfl rfl p1 ?_;refine ae.nil ?_;refine qU 1 rfl ?_;refine qI ?_;refine AW.draw aL 12 (by kernel_rfl) ?_;refine qP 4 rfl ?_;refine ae.call tok rfl rfl rfl rfl rfl r3.1 ?_;refine qP 3 rfl ?_;refine ae.call tok rfl rfl rfl rfl rfl r4.1 ?_;refine ae.call tok rfl rfl rfl rfl rfl p2 ?_;refine qP 1 rfl ?_;refine ae.call tok rfl rfl rfl rfl rfl cj ?_;refine ae.nil ?_;refine qU 1 rfl ?_;exact qN rfl
theorem bV: ∀(l:Nat) {rt:List NQ} {a b:NQ},ak l a→ak l b→cu rt→l≤rt.length→rt.length≤10→Cc l rt a b→Pure Tryz.prog 63 [bI rt,ah a,ah b] (ah (aS l rt a b))
 | 0,rt,a,b,ha,hb,hrt,hl,hl5,hok=>s4 (O:=fun _ _=>True) ha hb hrt hl hl5 hok (fun l' h=>by omega)
 | l+1,rt,a,b,ha,hb,hrt,hl,hl5,hok=>s4 (O:=Cc l rt) ha hb hrt hl hl5 hok (fun l' e a' b' h1 h2 h3=>by
    obtain rfl:l=l':=by omega
    obtain ⟨K,k1,k2,k3⟩:=vz a' b' rt
    exact⟨bV l h1 h2 hrt (by omega) hl5 h3,(dW l h1 h2 hrt (by omega) k1 k2 k3).1⟩)
theorem wZ{l k:Nat}{R:NQ→NQ→NQ}{O:NQ→NQ→Prop}{rt:List NQ}{a b:NQ}(ha:ak l a)(hb:ak l b)(hab:b.length≤a.length)(hrt:cu rt)(hl:l≤rt.length)(sa:aj k a)(sb:aj k b)(sr:eT k rt)(hk:sT l k≤17300000000000)
  (hR: ∀l',l=l'+1→ ∀a' b' m,k≤m→ak l' a'→ak l' b'→aj m a'→aj m b'→sT l' m≤17300000000000→O a' b'∧ak l' (R a' b')∧aj (sT l' m) (R a' b')):I3 R O rt a b:=by
 have hk1:=sa.pos;have h2:=bm l k;refine⟨sa.mono (by omega),sb.mono (by omega),fun h1 hza hzb=>?_⟩;have hb0:0<b.length:=List.length_pos_iff.2 (mG hzb);have ha0:0<a.length:=List.length_pos_iff.2 (mG hza)
 obtain ⟨i,hi,hla⟩: ∃i,i≤l∧a.length=2^i:=by
  rcases ha with e | e
  · omega
  · exact e
 have sH:i≠0:=fun e=>h1 (by rw[hla,e]);obtain ⟨j,rfl⟩: ∃j,i=j+1:=⟨i-1,by omega⟩;obtain ⟨l',rfl⟩: ∃l',l=l'+1:=⟨l-1,by omega⟩;have hj:j≤l':=by omega
 have hR:=fun a' b' m h1 h2 h3 h4 h5=>hR l' rfl a' b' m h1 h2 h3 h4 h5;obtain ⟨e1,e2,e3⟩:=a9 hla;have hx:ak l' (a.take (a.length / 2)):= .inr ⟨j,hj,e1⟩;have hy:ak l' (a.drop (a.length / 2)):= .inr ⟨j,hj,e2⟩;have hs0:=bm l' k;have hs1:=bm l' (sT l' k);have hk:sT l' (sT l' k)+sT l' k+1≤17300000000000:=hk;refine⟨fun h3=>?_,fun h3=>?_⟩
 · have hb':ak l' b:=by
    rcases hb with e | ⟨i',_,e⟩
    · exact .inl e
    · refine .inr ⟨i',?_,e⟩;rw[e3,e] at h3;have:=iP h3;omega
   exact⟨(hR _ _ k (Nat.le_refl _) hx hb' (sa.take _) sb (by omega)).1,(hR _ _ k (Nat.le_refl _) hy hb' (sa.drop _) sb (by omega)).1⟩
 have hlb:b.length=2^(j+1):=by
  rcases hb with e | ⟨i',_,e⟩
  · omega
  · rw[e] at h3 hab ⊢;rw[hla] at hab;rw[e3] at h3;have h4:=iP hab;have h5: ¬i'≤j:=fun h=>h3 (Nat.pow_le_pow_right (by decide) h);rw[show i'=j+1 by omega]
 obtain ⟨f1,f2,f3⟩:=a9 hlb;rw[show b.length / 2=a.length / 2 by rw[f3,e3]] at f1 f2;have hu:ak l' (b.take (a.length / 2)):= .inr ⟨j,hj,f1⟩;have hv:ak l' (b.drop (a.length / 2)):= .inr ⟨j,hj,f2⟩;have r1:=hR _ _ k (Nat.le_refl _) hx hu (sa.take _) (sb.take _) (by omega);have r2:=hR _ _ k (Nat.le_refl _) hy hv (sa.drop _) (sb.drop _) (by omega);have r3:=hR _ _ k (Nat.le_refl _) hx hv (sa.take _) (sb.drop _) (by omega);have r4:=hR _ _ k (Nat.le_refl _) hy hu (sa.drop _) (sb.take _) (by omega);have hlog:a.length.log2-1=j:=by rw[hla,Nat.log2_two_pow];omega
 have hd:ak l' (rt.getD (a.length.log2-1) []):= .inr ⟨j,hj,by rw[hlog];exact hrt j (by omega)⟩;have r5:=hR _ _ (sT l' k) (by omega) r2.2.1 hd r2.2.2 ((sr _).mono (by omega)) (by omega);exact⟨⟨r1.1,r2.1,r5.1,r3.1,r4.1⟩,r1.2.2.mono (by omega),r5.2.2.mono (by omega),r3.2.2.mono (by omega),r4.2.2.mono (by omega)⟩
theorem qi: ∀(l:Nat) {k:Nat} {rt:List NQ} {a b:NQ},ak l a→ak l b→cu rt→l≤rt.length→aj k a→aj k b→eT k rt→sT l k≤17300000000000→Cc l rt a b
 | 0,k,rt,a,b,ha,hb,hrt,hl,sa,sb,sr,hk=>by
   show yG _ _ rt a b;unfold yG;split
   · exact wZ hb ha (by omega) hrt hl sb sa sr hk (fun l' h=>by omega)
   · exact wZ ha hb (by omega) hrt hl sa sb sr hk (fun l' h=>by omega)
 | l+1,k,rt,a,b,ha,hb,hrt,hl,sa,sb,sr,hk=>by
   show yG (aS l rt) (Cc l rt) rt a b;unfold yG
   have ih: ∀l',l+1=l'+1→ ∀a' b' m,k≤m→ak l' a'→ak l' b'→aj m a'→aj m b'→sT l' m≤17300000000000→Cc l rt a' b'∧ak l' (aS l rt a' b')∧aj (sT l' m) (aS l rt a' b'):=fun l' e a' b' m hm h1 h2 h3 h4 h5=>by
    obtain rfl:l=l':=by omega
    exact⟨qi l h1 h2 hrt (by omega) h3 h4 (sr.mono hm) h5,dW l h1 h2 hrt (by omega) h3 h4 (sr.mono hm)⟩
   split
   · exact wZ hb ha (by omega) hrt hl sb sa sr hk ih
   · exact wZ ha hb (by omega) hrt hl sa sb sr hk ih
end Lift
namespace Lift
open Go Go.Proofs
def ef(l:Nat)(rt:List NQ)(a:NQ):NQ :=
 aM (aS l rt (a.take (a.length / 2)) (a.take (a.length / 2))) (aC (aS l rt (aS l rt (a.drop (a.length / 2)) (a.drop (a.length / 2))) (rt.getD (a.length.log2-1) [])))
def uV(R:NQ→Int)(N:NQ→NQ)(rt:List NQ)(a:NQ):Int :=
 if a.length=0 then 0 else if a.length=1 then jZ (a.getD 0 0) else
 if R (rt.getD (a.length.log2-1) [])=0 then R (a.take (a.length / 2)) else
 if R (a.take (a.length / 2))=R (a.drop (a.length / 2))∨R (a.drop (a.length / 2))=0 then R (a.take (a.length / 2)) else
 if R (a.take (a.length / 2))=0 then R (a.drop (a.length / 2)) else R (a.take (a.length / 2))*R (N a)
def dG:Nat→List NQ→NQ→Int
 | 0,rt,a=>uV (fun _=>0) (fun a=>a) rt (ai a)
 | l+1,rt,a=>uV (dG l rt) (ef l rt) rt (ai a)
def mQ:Nat→Nat→Prop
 | 0,k=>k≤17300000000000
 | l+1,k=>sT (l+1) k≤17300000000000∧mQ l (sT (l+1) k)
theorem tJ: ∀{l k m:Nat},mQ l k→m≤k→mQ l m
 | 0,k,m,h,hm=>Nat.le_trans hm h
 | l+1,k,m,h,hm=>⟨Nat.le_trans (mL hm) h.1,tJ h.2 (mL hm)⟩
theorem nV: ∀{l k:Nat},mQ l k→k≤17300000000000
 | 0,k,h=>h
 | l+1,k,h=>by have:=bm (l+1) k;have:=h.1;omega
theorem jn{l k:Nat}(h:mQ (l+1) k):mQ l k:=tJ h.2 (by have:=bm (l+1) k;omega)
def vv(z:Int):Prop:=z=0∨z=1∨z= -1
theorem kK{x y:Int}(hx:vv x)(hy:vv y):vv (x*y):=by
 unfold vv at *;rcases hx with rfl | rfl | rfl<;>rcases hy with rfl | rfl | rfl<;>decide
theorem x9{R:NQ→Int}{N:NQ→NQ}{rt:List NQ}{a:NQ}(hR: ∀b,vv (R b)):vv (uV R N rt a):=by
 unfold uV;split
 · exact .inl rfl
 split
 · exact fL _
 split
 · exact hR _
 split
 · exact hR _
 split
 · exact hR _
 · exact kK (hR _) (hR _)
theorem mJ: ∀(l:Nat) (rt:List NQ) (a:NQ),vv (dG l rt a)
 | 0,rt,a=>x9 (fun _=> .inl rfl)
 | l+1,rt,a=>x9 (fun b=>mJ l rt b)
theorem sD{l k j:Nat}{rt:List NQ}{a:NQ}(hj:j≤l)(ha:a.length=2^(j+1))(hrt:cu rt)(hl:l<rt.length)(sa:aj k a)(sr:eT k rt):ak l (ef l rt a)∧aj (sT (l+1) k) (ef l rt a):=by
 obtain ⟨e1,e2,e3⟩:=a9 ha;have hx:ak l (a.take (a.length / 2)):= .inr ⟨j,hj,e1⟩;have hy:ak l (a.drop (a.length / 2)):= .inr ⟨j,hj,e2⟩;have hlog:a.length.log2-1=j:=by rw[ha,Nat.log2_two_pow];omega
 have hd:ak l (rt.getD j []):= .inr ⟨j,hj,hrt j (by omega)⟩;have h0:=bm l k;have h1:=bm l (sT l k);have r1:=dW l hx hx hrt (by omega) (sa.take _) (sa.take _) sr;have r2:=dW l hy hy hrt (by omega) (sa.drop _) (sa.drop _) sr;have r3:=dW l r2.1 hd hrt (by omega) r2.2 ((sr _).mono (by omega)) (sr.mono (by omega));unfold ef;rw[hlog];refine⟨r1.1.plus r3.1.minus,(r1.2.plus r3.2.minus).mono ?_⟩;show _≤sT l (sT l k)+sT l k+1;omega
def Hi(l:Nat)(rt:List NQ)(a:NQ):Prop :=
 Cc l rt (a.take (a.length / 2)) (a.take (a.length / 2))∧Cc l rt (a.drop (a.length / 2)) (a.drop (a.length / 2))∧Cc l rt (aS l rt (a.drop (a.length / 2)) (a.drop (a.length / 2))) (rt.getD (a.length.log2-1) []) ∧
 kC (aS l rt (a.take (a.length / 2)) (a.take (a.length / 2)))∧kC (aS l rt (aS l rt (a.drop (a.length / 2)) (a.drop (a.length / 2))) (rt.getD (a.length.log2-1) []))
theorem sE{l j:Nat}{rt:List NQ}{a:NQ}(hj:j≤l)(ha:a.length=2^(j+1))(hrt:cu rt)(hl:l<rt.length):ak l (ef l rt a):=by
 obtain ⟨K,k1,_,k3⟩:=vz a a rt;exact(sD hj ha hrt hl k1 k3).1
theorem eS(l:Nat){rt:List NQ}{a b:NQ}(ha:ak l a)(hb:ak l b)(hrt:cu rt)(hl:l≤rt.length):ak l (aS l rt a b):=by
 obtain ⟨K,k1,k2,k3⟩:=vz a b rt;exact(dW l ha hb hrt hl k1 k2 k3).1
theorem lI{l j:Nat}{rt:List NQ}{a:NQ}(hj:j≤l)(ha:a.length=2^(j+1))(hrt:cu rt)(hl:l<rt.length)(hl5:rt.length≤10)(hok:Hi l rt a):
  Pure Tryz.prog 109 [bI rt,ah a] (ah (ef l rt a)):=by
 refine qJ 36 Tryz.func109 rfl rfl rfl rfl (by kernel_rfl) (fun B F0 w0=>?_);obtain ⟨e1,e2,e3⟩:=a9 ha;have hx:ak l (a.take (a.length / 2)):= .inr ⟨j,hj,e1⟩;have hy:ak l (a.drop (a.length / 2)):= .inr ⟨j,hj,e2⟩;have hlog:a.length.log2-1=j:=by rw[ha,Nat.log2_two_pow];omega
 have hd:ak l (rt.getD j []):= .inr ⟨j,hj,hrt j (by omega)⟩;obtain ⟨o1,o2,o3,z1,z3⟩:=hok;rw[hlog] at o3 z3;have r1:=eS l hx hx hrt (by omega);have r2:=eS l hy hy hrt (by omega);have r3:=eS l r2 hd hrt (by omega);have c1:=bV l hx hx hrt (by omega) hl5 o1;have c2:=bV l hy hy hrt (by omega) hl5 o2;have c3:=bV l r2 hd hrt (by omega) hl5 o3;have n1:=r1.len (by omega);have n3:=r3.len (by omega);have c4:=eQ _ z3 (by omega) (by omega);have c5:=eA _ _ z1 z3.minus (by omega) (by omega) (by rw[a7];omega);have cl:=dV (eD a) (by rw[List.length_map];exact ha) (by omega);have hp:2^(j+1)≤2^10:=Nat.pow_le_pow_right (by decide) (by omega);unfold ef;rw[hlog];obtain ⟨n,hn⟩: ∃n,n=a.length / 2:=⟨_,rfl⟩;rw[← hn] at e1 e2 e3 hx hy c1 c2 c3 c4 c5 ⊢;refine qX 2 rfl ?_;refine qK 2 rfl ?_;rw[List.length_map];refine ab.div tok rfl rfl rfl rfl (by decide) ?_;rw[fV _ (by omega),← hn];refine qU 1 rfl ?_;refine qI ?_;refine AW.draw aL 7 (by kernel_rfl) ?_;refine qP 2 rfl ?_;refine ae.fp tok (a:=a) (a.take n) rfl rfl rfl rfl rfl trivial (Int.natCast_nonneg n) (Nat.zero_le _) (show n≤a.length by omega) rfl ?_;refine qP 2 rfl ?_;refine ae.fp tok (a:=a) (a.drop n) rfl rfl rfl rfl rfl (Int.natCast_nonneg n) trivial (show n≤a.length by omega) (Nat.le_refl _) (by show (a.take a.length).drop n=_;rw[List.take_length]) ?_;refine qP 1 rfl ?_;refine ae.nil ?_;refine qU 1 rfl ?_;refine qI ?_;refine AW.draw aL 19 (by kernel_rfl) ?_;refine qP 3 rfl ?_;refine ae.call tok rfl rfl rfl rfl rfl c1 ?_;refine qP 4 rfl ?_;refine ae.call tok rfl rfl rfl rfl rfl c2 ?_;refine qP 3 rfl ?_;refine ae.call tok rfl rfl rfl rfl rfl cl ?_;refine qP 1 rfl ?_;rw[aA (x:=((j+1:Nat):Int) -1) (by omega) (by omega),show ((j+1:Nat):Int) -1=(j:Int) by omega];refine ae.idx tok (ah (rt.getD j [])) rfl rfl rfl rfl rfl (Int.natCast_nonneg j) (nC (by omega)) ?_;refine qP 1 rfl ?_;refine ae.call tok rfl rfl rfl rfl rfl c3 ?_;refine ae.call tok rfl rfl rfl rfl rfl c4 ?_;refine ae.call tok rfl rfl rfl rfl rfl c5 ?_;refine ae.nil ?_;refine qU 1 rfl ?_;exact qN rfl
theorem DB{l k j:Nat}{rt:List NQ}{a:NQ}(hj:j≤l)(ha:a.length=2^(j+1))(hrt:cu rt)(hl:l<rt.length)(sa:aj k a)(sr:eT k rt)(hk:sT (l+1) k≤17300000000000):Hi l rt a:=by
 obtain ⟨e1,e2,e3⟩:=a9 ha;have hx:ak l (a.take (a.length / 2)):= .inr ⟨j,hj,e1⟩;have hy:ak l (a.drop (a.length / 2)):= .inr ⟨j,hj,e2⟩;have hlog:a.length.log2-1=j:=by rw[ha,Nat.log2_two_pow];omega
 have hd:ak l (rt.getD j []):= .inr ⟨j,hj,hrt j (by omega)⟩;have h0:=bm l k;have h1:=bm l (sT l k);have hk:sT l (sT l k)+sT l k+1≤17300000000000:=hk;have r1:=dW l hx hx hrt (by omega) (sa.take _) (sa.take _) sr;have r2:=dW l hy hy hrt (by omega) (sa.drop _) (sa.drop _) sr;have r3:=dW l r2.1 hd hrt (by omega) r2.2 ((sr _).mono (by omega)) (sr.mono (by omega));unfold Hi;rw[hlog];exact⟨qi l hx hx hrt (by omega) (sa.take _) (sa.take _) sr (by omega),qi l hy hy hrt (by omega) (sa.drop _) (sa.drop _) sr (by omega),qi l r2.1 hd hrt (by omega) r2.2 ((sr j).mono (by omega)) (sr.mono (by omega)) (by omega),r1.2.mono (by omega),r3.2.mono (by omega)⟩
def Ip(O:NQ→Prop)(N:NQ→NQ)(Nk:NQ→Prop)(rt:List NQ)(s:NQ):Prop:=s.length≠0→s.length≠1 →
 O (s.take (s.length / 2))∧O (s.drop (s.length / 2))∧O (rt.getD (s.length.log2-1) [])∧Nk s∧O (N s)
def DE:Nat→List NQ→NQ→Prop
 | 0,rt,a=>kC a
 | l+1,rt,a=>kC a∧Ip (DE l rt) (ef l rt) (Hi l rt) rt (ai a)
theorem nW: ∀(l:Nat) {k:Nat} {rt:List NQ} {a:NQ},ak l a→cu rt→l≤rt.length→aj k a→eT k rt→mQ l k→DE l rt a
 | 0,k,rt,a,ha,hrt,hl,sa,sr,hok=>sa.mono (Nat.le_trans hok (by decide))
 | l+1,k,rt,a,ha,hrt,hl,sa,sr,hok=>by
   have hk:=nV hok;refine⟨sa.mono (by omega),fun h0 h1=>?_⟩;obtain ⟨ha,sa⟩:=aO ha sa;generalize ai a=b at ha sa h0 h1 ⊢
   obtain ⟨i,hi,hla⟩: ∃i,i≤l+1∧b.length=2^i:=by
    rcases ha with e | e
    · omega
    · exact e
   have sH:i≠0:=fun e=>h1 (by rw[hla,e]);obtain ⟨j,rfl⟩: ∃j,i=j+1:=⟨i-1,by omega⟩;have hj:j≤l:=by omega
   obtain ⟨e1,e2,e3⟩:=a9 hla;have hx:ak l (b.take (b.length / 2)):= .inr ⟨j,hj,e1⟩;have hy:ak l (b.drop (b.length / 2)):= .inr ⟨j,hj,e2⟩;have hlog:b.length.log2-1=j:=by rw[hla,Nat.log2_two_pow];omega
   have hd:ak l (rt.getD (b.length.log2-1) []):= .inr ⟨j,hj,by rw[hlog];exact hrt j (by omega)⟩;have hn:=sD hj hla hrt (by omega) sa sr;have h2:=bm (l+1) k;have h3:=hok.1;exact⟨nW l hx hrt (by omega) (sa.take _) sr (jn hok),nW l hy hrt (by omega) (sa.drop _) sr (jn hok),nW l hd hrt (by omega) (sr _) sr (jn hok),DB hj hla hrt (by omega) sa sr (by omega),nW l hn.1 hrt (by omega) hn.2 (sr.mono (by omega)) hok.2⟩
theorem DE.sz{l:Nat}{rt:List NQ}{a:NQ}(h:DE l rt a):kC a:=by
 cases l with
 | zero=>exact h
 | succ l=>exact h.1
set_option maxHeartbeats 1600000 in
theorem vF{l:Nat}{R:NQ→Int}{O:NQ→Prop}{N:NQ→NQ}{Nk:NQ→Prop}{rt:List NQ}{a:NQ}(ha:ak l a)(hl5:l≤5)(hrt:cu rt)(hl:l≤rt.length)(hl10:rt.length≤10)(sa:kC a)(hok:l≠0→Ip O N Nk rt (ai a))
  (hR: ∀l',l=l'+1→ ∀b,ak l' b→O b→Pure Tryz.prog 64 [bI rt,ah b] (dI (R b))) (hT: ∀b,vv (R b))
  (hN: ∀l',l=l'+1→ ∀b j,j≤l'→b.length=2^(j+1)→Nk b→Pure Tryz.prog 109 [bI rt,ah b] (ah (N b))∧ak l' (N b)):
  Pure Tryz.prog 64 [bI rt,ah a] (dI (uV R N rt (ai a))):=by
 refine qJ 64 Tryz.func64 rfl rfl rfl rfl (by kernel_rfl) (fun B F0 w0=>?_);have cs:=cE a ha hl5 sa (by omega);obtain ⟨ha,sa⟩:=aO ha sa;generalize ai a=b at cs ha sa hok ⊢;have hlb:=ha.len (by omega);unfold uV;refine qX 2 rfl ?_;refine qK 1 rfl ?_;refine ab.call tok rfl rfl rfl rfl cs ?_;refine qU 1 rfl ?_;refine qI ?_;refine qX 2 rfl ?_;rw[List.length_map];refine qU 1 rfl ?_;refine ab.nil ?_;by_cases h0:b.length=0
 · rw[if_pos h0,h0];refine AW.aF rfl ?_;refine qX 1 rfl ?_;exact qN rfl
 rw[if_neg h0,beq_eq_false_iff_ne.2 (show (b.length:Int)≠0 by omega)];refine AW.ar rfl ?_;refine AW.skip (AW.seq ?_);refine qX 2 rfl ?_;rw[List.length_map];refine qU 1 rfl ?_;refine ab.nil ?_;by_cases h1:b.length=1
 · have g:=kW (r:=b) (i:=0) (by omega);have cq:=kq (Qr (b.getD 0 0)) (iL _ (sa 0)) (by omega);rw[bK,wG] at cq;rw[if_pos h1,h1];refine AW.aF rfl ?_;refine qX 1 rfl ?_;refine ab.idx tok (Qr (b.getD 0 0)).D rfl rfl rfl rfl (Int.le_refl _) g ?_;refine qU 1 rfl ?_;refine ab.call tok rfl rfl rfl rfl cq ?_;refine qU 1 rfl ?_;exact qN rfl
 rw[if_neg h1,beq_eq_false_iff_ne.2 (show (b.length:Int)≠1 by omega)];refine AW.ar rfl ?_;refine AW.skip ?_
 obtain ⟨i,hi,hla2⟩: ∃i,i≤l∧b.length=2^i:=by
  rcases ha with e | e
  · omega
  · exact e
 have sH:i≠0:=fun e=>h1 (by rw[hla2,e]);obtain ⟨j,rfl⟩: ∃j,i=j+1:=⟨i-1,by omega⟩;obtain ⟨l',rfl⟩: ∃l',l=l'+1:=⟨l-1,by omega⟩;have hj:j≤l':=by omega
 have hR:=hR l' rfl;obtain ⟨o1,o2,o3,o4,o5⟩:=hok (by omega) h0 h1;have hN:=hN l' rfl b j hj hla2 o4;obtain ⟨e1,e2,e3⟩:=a9 hla2;have hx:ak l' (b.take (b.length / 2)):= .inr ⟨j,hj,e1⟩;have hy:ak l' (b.drop (b.length / 2)):= .inr ⟨j,hj,e2⟩;have hlog:b.length.log2-1=j:=by rw[hla2,Nat.log2_two_pow];omega
 have hd:ak l' (rt.getD j []):= .inr ⟨j,hj,hrt j (by omega)⟩;rw[hlog] at o3;have r1:=hR _ hx o1;have r2:=hR _ hy o2;have r3:=hR _ hd o3;have r4:=hR _ hN.2 o5;have t1:=hT (b.take (b.length / 2));have t2:=hT (b.drop (b.length / 2));have t4:=kK t1 (hT (N b));have cn:=hN.1;have cl:=dV (eD b) (by rw[List.length_map];exact hla2) (by omega);rw[hlog];obtain ⟨n,hn⟩: ∃n,n=b.length / 2:=⟨_,rfl⟩;rw[← hn] at e1 e2 e3 hx hy r1 r2 t1 t2 t4 ⊢;generalize R (b.take n)=x at r1 t1 t4 ⊢;generalize R (b.drop n)=y at r2 t2 ⊢;generalize R (rt.getD j [])=z at r3 ⊢;generalize R (N b)=u at r4 t4 ⊢;refine qX 2 rfl ?_;rw[List.length_map];refine ab.div tok rfl rfl rfl rfl (by decide) ?_;rw[fV _ (by omega),← hn];refine qU 1 rfl ?_;refine qI ?_;refine AW.draw aL 10 (by kernel_rfl) ?_;refine qP 3 rfl ?_;refine ae.fp tok (a:=b) (b.take n) rfl rfl rfl rfl rfl trivial (Int.natCast_nonneg n) (Nat.zero_le _) (show n≤b.length by omega) rfl ?_;refine ae.call tok rfl rfl rfl rfl rfl r1 ?_;refine qP 3 rfl ?_;refine ae.fp tok (a:=b) (b.drop n) rfl rfl rfl rfl rfl (Int.natCast_nonneg n) trivial (show n≤b.length by omega) (Nat.le_refl _) (by show (b.take b.length).drop n=_;rw[List.take_length]) ?_;refine ae.call tok rfl rfl rfl rfl rfl r2 ?_;refine ae.nil ?_;refine qU 2 rfl ?_;refine qI (AW.seq ?_);refine AW.draw aL 10 (by kernel_rfl) ?_;refine qP 4 rfl ?_;refine ae.call tok rfl rfl rfl rfl rfl cl ?_;refine qP 1 rfl ?_;rw[aA (x:=((j+1:Nat):Int) -1) (by omega) (by omega),show ((j+1:Nat):Int) -1=(j:Int) by omega];refine ae.idx tok (ah (rt.getD j [])) rfl rfl rfl rfl rfl (Int.natCast_nonneg j) (nC (by omega)) ?_;refine qP 1 rfl ?_;refine ae.call tok rfl rfl rfl rfl rfl r3 ?_;refine qP 1 rfl ?_;refine ae.nil ?_;refine ab.nil ?_;by_cases hz:z=0
 · rw[if_pos hz,beq_iff_eq.2 hz];refine AW.aF rfl ?_;refine qX 2 rfl ?_;exact qN rfl
 rw[if_neg hz,beq_eq_false_iff_ne.2 hz];refine AW.ar rfl ?_;refine AW.skip (AW.seq (AW.block ?_));refine qX 3 rfl ?_;by_cases hxy:x=y
 · rw[if_pos (.inl hxy),beq_iff_eq.2 hxy];refine qU 5 rfl ?_;refine ab.nil ?_;refine AW.aF rfl ?_;refine qX 2 rfl ?_;exact qN rfl
 rw[beq_eq_false_iff_ne.2 hxy];refine qU 3 rfl ?_;by_cases hy0:y=0
 · rw[if_pos (.inr hy0),beq_iff_eq.2 hy0];refine qU 2 rfl ?_;refine ab.nil ?_;refine AW.aF rfl ?_;refine qX 2 rfl ?_;exact qN rfl
 rw[if_neg (fun h=>h.elim hxy hy0),beq_eq_false_iff_ne.2 hy0];refine qU 2 rfl ?_;refine ab.nil ?_;refine AW.ar rfl ?_;refine qX 3 rfl ?_;refine ab.nil ?_;by_cases hx0:x=0
 · rw[if_pos hx0,beq_iff_eq.2 hx0];refine AW.aF rfl ?_;refine qX 2 rfl ?_;exact qN rfl
 rw[if_neg hx0,beq_eq_false_iff_ne.2 hx0];refine AW.ar rfl ?_;refine AW.skip (AW.seq ?_);refine AW.draw aL 7 (by kernel_rfl) ?_;refine qP 4 rfl ?_;refine ae.call tok rfl rfl rfl rfl rfl cn ?_;refine ae.call tok rfl rfl rfl rfl rfl r4 ?_;refine qP 1 rfl ?_;rw[aA (x:=x*u) (by unfold vv at t4;omega) (by unfold vv at t4;omega)];refine ae.nil ?_;refine qU 1 rfl ?_;exact qN rfl
theorem dE: ∀(l:Nat) {rt:List NQ} {a:NQ},ak l a→l≤5→cu rt→l≤rt.length→rt.length≤10→DE l rt a→Pure Tryz.prog 64 [bI rt,ah a] (dI (dG l rt a))
 | 0,rt,a,ha,hl5,hrt,hl,hl10,hok=>vF (O:=fun _=>True) (Nk:=fun _=>True) ha hl5 hrt hl hl10 hok (fun h=>absurd rfl h) (fun l' h=>by omega) (fun _=> .inl rfl) (fun l' h=>by omega)
 | l+1,rt,a,ha,hl5,hrt,hl,hl10,hok=>vF (O:=DE l rt) (Nk:=Hi l rt) ha hl5 hrt hl hl10 hok.1 (fun _=>hok.2) (fun l' e b h1 h2=>by
    obtain rfl:l=l':=by omega
    exact dE l h1 (by omega) hrt (by omega) hl10 h2) (mJ l rt) (fun l' e b j h1 h2 h3=>by
    obtain rfl:l=l':=by omega
    exact⟨lI h1 h2 hrt (by omega) hl10 h3,sE h1 h2 hrt (by omega)⟩)
theorem ni(l:Nat){k:Nat}{rt:List NQ}{a:NQ}(ha:ak l a)(hl5:l≤5)(hrt:cu rt)(hl:l≤rt.length)(hl10:rt.length≤10)(sa:aj k a)(sr:eT k rt)(hok:mQ l k):Pure Tryz.prog 64 [bI rt,ah a] (dI (dG l rt a)) :=
 dE l ha hl5 hrt hl hl10 (nW l ha hrt hl sa sr hok)
end Lift
namespace Lift
open Go Go.Proofs
abbrev dn(a:List RD):D:= .sl 3 (a.map RD.D)
abbrev TrD(rt:List (List RD)):D:= .ag [.sl 1 (rt.map dn)]
def jL(a:List RD):Bool:=a.all RD.okB
def Aq(m n:Nat):Bool:=(List.range (m+1)).any fun i=>decide (n=2^i)
def bJ(m:Nat)(a:List RD):Nat:=if a.length≠0∧Aq m a.length=false then 10 else if jL a=false then 2 else 0
def bp(a:List RD):NQ:=a.map RD.val
def wN(k:Nat)(a:List RD):Prop:= ∀i,i<a.length→(a.getD i default).w k
def uQ(rt:List (List RD))(k:Nat):Nat:=if (rt.getD k []).length≠2^k then 10 else if bJ k (rt.getD k [])≠0 then bJ k (rt.getD k []) else if dG k ((rt.take k).map bp) (bp (rt.getD k []))<0 then 3 else 0
def de(rt:List (List RD)):Nat:=if 5<rt.length then 4 else fE (uQ rt) (rt.length-0) 0
def pH(rt l:List (List RD)):Nat:=if de rt≠0 then de rt else fE (fun i=>bJ rt.length (l.getD i [])) (l.length-0) 0
theorem DH(a:List RD)(i:Nat):(bp a).getD i 0=if i<a.length then (a.getD i default).val else 0:=by
 unfold bp;rw[List.getD_eq_getElem?_getD,List.getElem?_map,List.getD_eq_getElem?_getD];by_cases h:i<a.length
 · rw[if_pos h,List.getElem?_eq_getElem h];rfl
 · rw[if_neg h,List.getElem?_eq_none (by omega)];rfl
theorem lO{a:List RD}{k:Nat}(h:wN k a)(h1:1≤k):aj k (bp a):=fun c=>by
 rw[DH];split
 · rename_i hc;exact eI (h c hc) h1
 · exact lf h1
theorem kg{a:List RD}{k:Nat}(hw:wN k a)(h:jL a=true):dn a=ah (bp a):=by
 show D.sl 3 (a.map RD.D)=D.sl 3 (List.map _ (List.map _ a));rw[List.map_map]
 congr 1
 refine List.map_congr_left fun x hx=>?_;obtain ⟨i,hi,rfl⟩:=List.mem_iff_getElem.1 hx;have hi2:=hw i hi;rw[List.getD_eq_getElem?_getD,List.getElem?_eq_getElem hi] at hi2;unfold jL at h;rw[List.all_eq_true] at h;have:=RD.canon hi2 (h _ (List.getElem_mem hi));simp only[Option.getD_some] at this;show (a[i]).D=(Qr (a[i]).val).D;rw[← this]
theorem yJ{l:List RD}{i:Nat}(hi:i<l.length)(h:(l.getD i default).okB=false):jL l=false:=HM hi h
theorem vN{l:List RD}(h: ∀i,i<l.length→(l.getD i default).okB=true):jL l=true:=Gl h
theorem xf(m i:Nat):Aq m (2^i)=decide (i≤m):=by
 unfold Aq;by_cases h:i≤m
 · rw[decide_eq_true h,List.any_eq_true];exact⟨i,List.mem_range.2 (by omega),decide_eq_true rfl⟩
 · rw[decide_eq_false h,List.any_eq_false];intro j hj;have hj:=List.mem_range.1 hj;rw[decide_eq_false]
   · simp
   · intro e;have h1:=iP (Nat.le_of_eq e);omega
theorem FN{m n:Nat}(h: ∀i,n≠2^i):Aq m n=false:=by
 unfold Aq;rw[List.any_eq_false];intro j _;rw[decide_eq_false (h j)];simp
theorem DP{m n:Nat}(h:Aq m n=true): ∃i,i≤m∧n=2^i:=by
 unfold Aq at h;rw[List.any_eq_true] at h;obtain ⟨i,h1,h2⟩:=h;exact⟨i,by have:=List.mem_range.1 h1;omega,of_decide_eq_true h2⟩
theorem o8{m:Nat}{a:List RD}(h:bJ m a=0):ak m (bp a)∧jL a=true:=by
 unfold bJ at h;split at h
 · cases h
 rename_i h1;split at h
 · cases h
 rename_i h2;constructor
 · by_cases h0:a.length=0
   · exact .inl (by unfold bp;rw[List.length_map];exact h0)
   · have h3:Aq m a.length=true:=by
      cases hv:Aq m a.length
      · exact absurd ⟨h0,hv⟩ h1
      · rfl
     obtain ⟨i,h4,h5⟩:=DP h3;exact .inr ⟨i,h4,by unfold bp;rw[List.length_map];exact h5⟩
 · cases hv:jL a
   · exact absurd hv h2
   · rfl
def AT(m:Nat)(a:List RD):Prop:= ¬(a.length≠0∧Aq m a.length=false)
theorem w7{m:Nat}{a:List RD}(h:bJ m a=0):AT m a:=by
 unfold bJ at h;split at h
 · cases h
 · assumption
theorem lp(xs:List D)(a:List RD){k:Nat}(hw:AT xs.length a→wN k a)(hk:k≤17300000000000)(hl:a.length≤4398046511104)(hx:xs.length≤1000000):Pure Tryz.prog 99 [.ag [.sl 1 xs],dn a] (vi (bJ xs.length a)):=by
 refine qJ 34 Tryz.func99 rfl rfl rfl rfl (by kernel_rfl) (fun B F0 w0=>?_);have hno:=fun i hi=>yJ (l:=a) (i:=i) hi;have hyes:=vN (l:=a);unfold bJ;generalize jL a=E at hno hyes ⊢;refine qX 2 rfl ?_;refine ab.nil ?_;refine AW.cut [1] (fun _:Unit=>[(1,.d (dn a))]) (fun _=> ¬(a.length≠0∧Aq xs.length a.length=false)) ?_ (fun _ hs=>?_)
 · refine qX 2 rfl ?_;rw[List.length_map];refine qU 1 rfl ?_;refine ab.nil ?_;by_cases h0:a.length=0
   · rw[h0];refine AW.ar rfl ?_;refine AW.skip ?_;exact⟨(),rfl,fun h=>h.1 rfl⟩
   rw[decide_eq_true (show (0:Int)<(a.length:Int) by omega)];refine AW.aF rfl ?_;by_cases hp: ∃i,a.length=2^i
   · obtain ⟨i,hp⟩:=hp
     have hi:i≤42:=by
      refine iP ?_;rw[← hp];omega
     have cl:=dV (a.map RD.D) (by rw[List.length_map];exact hp) (by omega);rw[hp,xf];refine qX 1 rfl ?_;refine ab.call tok rfl rfl rfl rfl cl ?_;refine qU 1 rfl ?_;refine qK 2 rfl ?_;rw[decide_eq_false (show ¬((i:Int)<0) by omega)];refine qU 6 rfl ?_;by_cases hm:i≤xs.length
     · rw[decide_eq_true hm,decide_eq_false (show ¬((xs.length:Int)<(i:Int)) by omega)];refine qU 1 rfl ?_;refine ab.nil ?_;refine AW.ar rfl ?_;refine AW.skip ?_;exact⟨(),rfl,fun h=>by cases h.2⟩
     · rw[decide_eq_false hm,decide_eq_true (show (xs.length:Int)<(i:Int) by omega),if_pos ⟨by have:=Nat.two_pow_pos i;omega,rfl⟩];refine qU 1 rfl ?_;refine ab.nil ?_;refine AW.aF rfl ?_;refine qX 2 rfl ?_;exact qN rfl
   · have hp: ∀i,a.length≠2^i:=fun i e=>hp ⟨i,e⟩;have cl:=lr (a.map RD.D) (by rw[List.length_map];exact hp) (by rw[List.length_map];omega);rw[if_pos ⟨h0,FN hp⟩];refine qX 1 rfl ?_;refine ab.call tok rfl rfl rfl rfl cl ?_;refine qU 1 rfl ?_;refine qK 9 rfl ?_;refine ab.nil ?_;refine AW.aF rfl ?_;refine qX 2 rfl ?_;exact qN rfl
 · rw[if_neg hs];have hw:=hw hs;show AW _ _ _ _ _ _ _ [(1,.d (dn a))];refine AW.seq ?_;refine qX 2 rfl ?_;rw[List.length_map];refine qU 1 rfl ?_;refine ab.nil ?_;refine AW.block ?_;refine AW.aD [23,24,25] (fun i:Nat=>[(23,.d (dn a)),(24,.d (dI a.length)),(25,.d (dI i))]) (fun i=>i≤a.length∧ ∀j,j<i→(a.getD j default).okB=true) (fun i=>a.length-i) 0 rfl ⟨Nat.zero_le _,fun j hj=>by omega⟩ (fun i ⟨hi,hall⟩=>?_);refine qX 1 rfl ?_;refine qI ?_;refine AW.cond rfl (fun h=>?_) (fun h=>?_)
   · have hii:i<a.length:=by have:=of_decide_eq_true h;omega
     have hg:=getM RD.D (l:=a) (i:=i) hii;have hno:=hno i hii;have cv:=jN (a.getD i default) (hw i hii) (by omega);refine AW.skip (AW.seq (AW.block (AW.seq (AW.region ?_))));refine ab.idx tok (a.getD i default).D rfl rfl rfl rfl (Int.natCast_nonneg i) hg ?_;refine qU 3 rfl ?_;refine qK 1 rfl ?_;refine ab.call tok rfl rfl rfl rfl cv ?_;refine qU 1 rfl ?_;cases hv:(a.getD i default).okB with
     | false =>
       rw[hno hv,if_pos rfl];refine ab.nil ?_;refine AW.aF rfl ?_;refine qX 2 rfl ?_;exact qN rfl
     | true =>
       refine ab.nil ?_;refine AW.ar rfl ?_;refine AW.skip ?_;refine qT 1 rfl ?_;rw[aA (x:=(i:Int)+1) (by omega) (by omega)];refine qU 1 rfl ?_;refine ab.nil ?_
       exact⟨i+1,rfl,⟨hii,fun j hj=>by
        by_cases e:j=i
        · subst e;exact hv
        · exact hall j (by omega)⟩,by omega⟩
   have hii:i=a.length:=by have:=of_decide_eq_false h;omega
   subst hii;rw[hyes hall,if_neg (by simp)];refine AW.exit ?_;refine qX 1 rfl ?_;exact qN rfl
end Lift
namespace Lift
open Go Go.Proofs
theorem C8(rt:List (List RD))(k:Nat):((rt.map dn).take (bO (rt.map dn).length (some (k:Int)))).drop (eO none)=(rt.take k).map dn:=by
 show ((rt.map dn).take k).drop 0=_;rw[List.drop_zero,List.map_take]
theorem nO{rt:List (List RD)}{k m:Nat}(hw: ∀i,i<k→wN m (rt.getD i []))(hk:k≤rt.length)(h: ∀j,j<k→jL (rt.getD j [])=true):(rt.take k).map dn=((rt.take k).map bp).map ah:=by
 rw[List.map_map];refine List.map_congr_left fun x hx=>?_;obtain ⟨i,hi,rfl⟩:=List.mem_iff_getElem.1 hx;rw[List.length_take] at hi
 have e:(rt.take k)[i]'(by rw[List.length_take];exact hi)=rt.getD i []:=by
  rw[List.getElem_take,List.getD_eq_getElem?_getD,List.getElem?_eq_getElem (by omega)];rfl
 rw[e];exact kg (hw i (by omega)) (h i (by omega))
theorem oB{rt:List (List RD)}{k i:Nat}(hi:i<k):((rt.take k).map bp).getD i []=bp (rt.getD i []):=by
 rw[List.getD_eq_getElem?_getD,List.getElem?_map,List.getElem?_take_of_lt hi,List.getD_eq_getElem?_getD];cases rt[i]? with
 | none=>rfl
 | some x=>rfl
theorem BR{rt:List (List RD)}{k i:Nat}(hi:k≤i):((rt.take k).map bp).getD i []=[]:=by
 rw[List.getD_eq_getElem?_getD,List.getElem?_eq_none (by rw[List.length_map,List.length_take];omega)];rfl
theorem fo{rt:List (List RD)}{k:Nat}(hk:k≤rt.length):((rt.take k).map bp).length=k:=by rw[List.length_map,List.length_take];omega
theorem sh{rt:List (List RD)}{k m:Nat}(hw: ∀i,i<k→wN m (rt.getD i []))(h1:1≤m)(hk:k≤rt.length):eT m ((rt.take k).map bp):=fun i=>by
 by_cases h:i<k
 · rw[oB h];exact lO (hw i (by omega)) h1
 · rw[BR (by omega)];exact bz h1
theorem DG(a:List RD):(bp a).length=a.length:=List.length_map ..
theorem gv{rt:List (List RD)}{k:Nat}(h:uQ rt k=0):(rt.getD k []).length=2^k∧jL (rt.getD k [])=true∧ ¬dG k ((rt.take k).map bp) (bp (rt.getD k []))<0:=by
 unfold uQ at h;split at h
 · cases h
 rename_i h1;split at h
 · rename_i h2;exact absurd h h2
 rename_i h2;split at h
 · cases h
 rename_i h3;exact⟨by omega,(o8 (m:=k) (by omega)).2,h3⟩
theorem kH{rt:List (List RD)}{k:Nat}(hk:k≤rt.length)(h: ∀j,j<k→uQ rt j=0):cu ((rt.take k).map bp):=fun j hj=>by
 rw[fo hk] at hj;rw[oB hj,DG];exact(gv (h j hj)).1
theorem DA{l m k:Nat}(h:mQ l k)(hm:m≤l):mQ m k:=by
 induction l with
 | zero=>obtain rfl:m=0:=by omega
         exact h
 | succ l ih =>
   by_cases e:m=l+1
   · rw[e];exact h
   · exact ih (jn h) (by omega)
theorem lN(rt:List (List RD)){m:Nat}(hw: ∀i,i<rt.length→(rt.getD i []).length=2^i→wN m (rt.getD i []))(h1:1≤m)(hl:rt.length≤1000000)(hll: ∀i,i<rt.length→(rt.getD i []).length≤4398046511104)(hok:rt.length≤5→mQ rt.length m):Pure Tryz.prog 54 [TrD rt] (vi (de rt)):=by
 refine qJ 43 Tryz.func54 rfl rfl rfl rfl (by kernel_rfl) (fun B F0 w0=>?_);unfold de;obtain ⟨E,hE⟩: ∃E,fE (uQ rt) (rt.length-0) 0=E:=⟨_,rfl⟩;rw[hE];refine qX 2 rfl ?_;refine qI ?_;refine qX 3 rfl ?_;rw[List.length_map];refine qU 1 rfl ?_;refine ab.nil ?_;by_cases h5:5<rt.length
 · rw[if_pos h5,decide_eq_true (show (5:Int)<(rt.length:Int) by omega)];refine AW.aF rfl ?_;refine qX 2 rfl ?_;exact qN rfl
 rw[if_neg h5,decide_eq_false (show ¬(5:Int)<(rt.length:Int) by omega)];have hok:=hok (by omega);have hm7:=nV hok;refine AW.ar rfl ?_;refine AW.skip (AW.seq ?_);refine qX 3 rfl ?_;rw[List.length_map];refine qU 1 rfl ?_;refine ab.nil ?_;refine AW.block ?_;refine AW.aD [1,13,14,15] (fun i:Nat=>[(1,.bx [.sl 1 (rt.map dn)]),(13,.d (.sl 1 (rt.map dn))),(14,.d (dI rt.length)),(15,.d (dI i))]) (fun i=>i≤rt.length∧fE (uQ rt) (rt.length-i) i=E∧ ∀j,j<i→uQ rt j=0) (fun i=>rt.length-i) 0 rfl ⟨Nat.zero_le _,hE,fun j hj=>by omega⟩ (fun i ⟨hi,hiE,hall⟩=>?_);refine qX 1 rfl ?_;refine qI ?_;refine AW.cond rfl (fun h=>?_) (fun h=>?_);rotate_left
 · have hii: ¬i<rt.length:=by have:=of_decide_eq_false h;omega
   rw[jV hii] at hiE;subst hiE;refine AW.exit ?_;refine qX 1 rfl ?_;exact qN rfl
 have hii:i<rt.length:=by have:=of_decide_eq_true h;omega
 have hg:(rt.map dn)[i]?=some (dn (rt.getD i [])):=by simp[hii]
 have hwi:=hw i hii;have hli:=hll i hii;have hmiss:=fun h0:uQ rt i=0=>(gP hii h0).symm.trans hiE;have hhit:=fun h0:uQ rt i≠0=>(jU hii h0).symm.trans hiE;have hp:2^i≤2^5:=Nat.pow_le_pow_right (by decide) (by omega);have hrt:uQ rt i=if (rt.getD i []).length≠2^i then 10 else if bJ i (rt.getD i [])≠0 then bJ i (rt.getD i []) else if dG i ((rt.take i).map bp) (bp (rt.getD i []))<0 then 3 else 0:=rfl
 refine AW.skip (AW.seq (AW.block ?_));refine qX 1 rfl ?_;refine ab.idx tok (dn (rt.getD i [])) rfl rfl rfl rfl (Int.natCast_nonneg i) hg ?_;refine qU 3 rfl ?_;refine qI ?_;refine qX 2 rfl ?_;rw[List.length_map];refine qU 2 rfl ?_;rw[x8 (by omega)];refine qU 1 rfl ?_;refine ab.nil ?_;by_cases e1:(rt.getD i []).length=2^i;rotate_left
 · rw[if_pos e1] at hrt;rw[bne_iff_ne.2 (show (((rt.getD i []).length:Nat):Int)≠((2^i:Nat):Int) by omega)];have:=hhit (by rw[hrt];decide);rw[hrt] at this;subst this;refine AW.aF rfl ?_;refine qX 2 rfl ?_;exact qN rfl
 rw[if_neg (fun h=>h e1)] at hrt;have hwi:=hwi e1;have cn:=lp ((rt.take i).map dn) (rt.getD i []) (fun _=>hwi) (by omega) hli (by rw[List.length_map,List.length_take];omega);rw[List.length_map,List.length_take,Nat.min_eq_left hi] at cn;rw[e1,bne_eq_false_iff_eq.2 rfl];refine AW.ar rfl ?_;refine AW.skip ?_;refine qX 3 rfl ?_;refine ab.Bd tok rfl rfl rfl rfl trivial (Int.natCast_nonneg i) (Nat.zero_le _) (by show i≤_;rw[List.length_map];omega) ?_;rw[C8];refine qU 3 rfl ?_;refine qI ?_;refine qX 2 rfl ?_;refine ab.call tok rfl rfl rfl rfl cn ?_;refine qU 1 rfl ?_;refine ab.nil ?_;rcases e2:bJ i (rt.getD i []) with _ | z
 rotate_left
 · rw[e2,if_pos (Nat.succ_ne_zero z)] at hrt;have:=hhit (by rw[hrt];exact Nat.succ_ne_zero z);rw[hrt] at this;subst this;refine qX 1 rfl ?_;refine ab.err tok rfl rfl rfl rfl rfl ?_;refine ab.nil ?_;refine AW.aF rfl ?_;refine qX 2 rfl ?_;exact qN rfl
 rw[if_neg (by rw[e2];simp)] at hrt;obtain ⟨n1,n2⟩:=o8 e2;have cs:=ni i (k:=m) n1 (by omega) (kH hi hall) (by rw[fo hi];exact Nat.le_refl _) (by rw[fo hi];omega) (lO hwi h1) (sh (fun j hj=>hw j (by omega) (gv (hall j hj)).1) h1 hi) (DA hok hi);have tr:=mJ i ((rt.take i).map bp) (bp (rt.getD i []));rw[show bI ((rt.take i).map bp)= .ag [.sl 1 ((rt.take i).map dn)] from by rw[nO (fun j hj=>hw j (by omega) (gv (hall j hj)).1) hi (fun j hj=>(gv (hall j hj)).2.1)],← kg hwi n2] at cs;generalize dG i ((rt.take i).map bp) (bp (rt.getD i []))=s at cs hrt tr;refine qX 1 rfl ?_;refine ab.err tok rfl rfl rfl rfl rfl ?_;refine ab.nil ?_;refine AW.ar rfl ?_;refine AW.skip ?_;refine qX 2 rfl ?_;refine ab.call tok rfl rfl rfl rfl cs ?_;refine qU 1 rfl ?_;refine ab.nil ?_;by_cases e3:s<0
 · rw[if_pos e3] at hrt;rw[decide_eq_true e3];have:=hhit (by rw[hrt];decide);rw[hrt] at this;subst this;refine AW.aF rfl ?_;refine qX 2 rfl ?_;exact qN rfl
 rw[if_neg e3] at hrt;rw[decide_eq_false e3];refine AW.ar rfl ?_;refine AW.skip ?_;refine qT 1 rfl ?_;rw[aA (x:=(i:Int)+1) (by omega) (by omega)];refine qU 1 rfl ?_;refine ab.nil ?_
 exact⟨i+1,rfl,⟨hii,hmiss hrt,fun j hj=>by
  by_cases e:j=i
  · rw[e];exact hrt
  · exact hall j (by omega)⟩,by omega⟩
theorem lu(rt l:List (List RD)){m mn:Nat}(hw: ∀i,i<rt.length→(rt.getD i []).length=2^i→wN m (rt.getD i []))(h1:1≤m)(hl:rt.length≤1000000)(hll: ∀i,i<rt.length→(rt.getD i []).length≤4398046511104)(hok:rt.length≤5→mQ rt.length m)
  (hlw: ∀i,i<l.length→AT rt.length (l.getD i [])→wN mn (l.getD i [])) (hl2:l.length≤1000000) (hl3: ∀i,i<l.length→(l.getD i []).length≤4398046511104) (hm:mn≤17300000000000):Pure Tryz.prog 61 [TrD rt,.sl 1 (l.map dn)] (vi (pH rt l)):=by
 refine qJ 27 Tryz.func61 rfl rfl rfl rfl (by kernel_rfl) (fun B F0 w0=>?_);have cC:=lN rt hw h1 hl hll hok;unfold pH;obtain ⟨E,hE⟩: ∃E,fE (fun i=>bJ rt.length (l.getD i [])) (l.length-0) 0=E:=⟨_,rfl⟩;rw[hE];refine qX 2 rfl ?_;refine qI ?_;refine qX 1 rfl ?_;refine ab.call tok rfl rfl rfl rfl cC ?_;refine qU 1 rfl ?_;refine ab.nil ?_;rcases e2:de rt with _ | z
 rotate_left
 · rw[if_pos (Nat.succ_ne_zero z)];refine qX 1 rfl ?_;refine ab.err tok rfl rfl rfl rfl rfl ?_;refine ab.nil ?_;refine AW.aF rfl ?_;refine qX 2 rfl ?_;exact qN rfl
 rw[if_neg (by simp)];refine qX 1 rfl ?_;refine ab.err tok rfl rfl rfl rfl rfl ?_;refine ab.nil ?_;refine AW.ar rfl ?_;refine AW.skip (AW.seq ?_);refine qX 2 rfl ?_;rw[List.length_map];refine qU 1 rfl ?_;refine ab.nil ?_;refine AW.block ?_;refine AW.aD [2,14,15,16] (fun i:Nat=>[(2,.bx [.sl 1 (rt.map dn)]),(14,.d (.sl 1 (l.map dn))),(15,.d (dI l.length)),(16,.d (dI i))]) (fun i=>i≤l.length∧fE (fun i=>bJ rt.length (l.getD i [])) (l.length-i) i=E) (fun i=>l.length-i) 0 rfl ⟨Nat.zero_le _,hE⟩ (fun i ⟨hi,hiE⟩=>?_);refine qX 1 rfl ?_;refine qI ?_;refine AW.cond rfl (fun h=>?_) (fun h=>?_);rotate_left
 · have hii: ¬i<l.length:=by have:=of_decide_eq_false h;omega
   rw[jV hii] at hiE;subst hiE;refine AW.exit ?_;refine qX 1 rfl ?_;exact qN rfl
 have hii:i<l.length:=by have:=of_decide_eq_true h;omega
 have hg:(l.map dn)[i]?=some (dn (l.getD i [])):=by simp[hii]
 have hmiss:=fun h0:bJ rt.length (l.getD i [])=0=>(gP (f:=fun i=>bJ rt.length (l.getD i [])) hii h0).symm.trans hiE;have hhit:=fun h0:bJ rt.length (l.getD i [])≠0=>(jU (f:=fun i=>bJ rt.length (l.getD i [])) hii h0).symm.trans hiE;have cn:=lp (rt.map dn) (l.getD i []) (fun h=>hlw i hii (by rw[List.length_map] at h;exact h)) hm (hl3 i hii) (by rw[List.length_map];omega);rw[List.length_map] at cn;refine AW.skip (AW.seq (AW.block (AW.seq (AW.region ?_))));refine ab.idx tok (dn (l.getD i [])) rfl rfl rfl rfl (Int.natCast_nonneg i) hg ?_;refine qU 2 rfl ?_;refine qK 2 rfl ?_;refine ab.call tok rfl rfl rfl rfl cn ?_;refine qU 1 rfl ?_;refine ab.nil ?_;generalize bJ rt.length (l.getD i [])=v at hmiss hhit;rcases v with _ | z
 rotate_left
 · have:=hhit (Nat.succ_ne_zero z);subst this;refine qX 1 rfl ?_;refine ab.err tok rfl rfl rfl rfl rfl ?_;refine ab.nil ?_;refine AW.aF rfl ?_;refine qX 2 rfl ?_;exact qN rfl
 refine qX 1 rfl ?_;refine ab.err tok rfl rfl rfl rfl rfl ?_;refine ab.nil ?_;refine AW.ar rfl ?_;refine AW.skip ?_;refine qT 1 rfl ?_;rw[aA (x:=(i:Int)+1) (by omega) (by omega)];refine qU 1 rfl ?_;refine ab.nil ?_;exact⟨i+1,rfl,⟨hii,hmiss rfl⟩,by omega⟩
theorem mz{rt:List (List RD)}(h:de rt=0):rt.length≤5∧ ∀j,j<rt.length→uQ rt j=0:=by
 unfold de at h;split at h
 · cases h
 rename_i h1
 have key: ∀(m i:Nat),fE (uQ rt) m i=0→ ∀j,i≤j→j<i+m→uQ rt j=0:=by
  intro m
  induction m with
  | zero=>intro i _ j h1 h2;omega
  | succ m ih =>
    intro i h j h1 h2;rw[fE] at h;split at h
    · rename_i h0;by_cases e:j=i
      · rw[e];exact h0
      · exact ih (i+1) h j (by omega) (by omega)
    · rename_i h0;exact absurd h h0
 exact⟨by omega,fun j hj=>key _ _ h j (Nat.zero_le _) (by omega)⟩
def C'(rt:List (List RD))(a:List RD):D:=if pH rt [a]≠0 then .tu [dI 0,vi (pH rt [a])] else .tu [dI (dG rt.length (rt.map bp) (bp a)),aI]
theorem Gg{rt:List (List RD)}{a:List RD}(h:pH rt [a]=0):de rt=0∧bJ rt.length a=0:=by
 unfold pH at h;split at h
 · rename_i h0;exact absurd h h0
 rename_i h0;refine⟨by omega,?_⟩;have e:fE (fun i=>bJ rt.length ([a].getD i [])) ([a].length-0) 0=if bJ rt.length a=0 then 0 else bJ rt.length a:=rfl
 rw[e] at h;split at h
 · assumption
 · rename_i h1;exact absurd h h1
theorem uT(rt:List (List RD))(a:List RD){m:Nat}(hw: ∀i,i<rt.length→(rt.getD i []).length=2^i→wN m (rt.getD i []))(h1:1≤m)(hl:rt.length≤1000000)(hll: ∀i,i<rt.length→(rt.getD i []).length≤4398046511104)(hok:rt.length≤5→mQ rt.length m)
  (haw:AT rt.length a→wN m a) (hal:a.length≤4398046511104) (hm:m≤17300000000000):Pure Tryz.prog 29 [TrD rt,dn a] (C' rt a):=by
 refine qJ 17 Tryz.func29 rfl rfl rfl rfl (by kernel_rfl) (fun B F0 w0=>?_)
 have h0: ∀i,i<[a].length→i=0:=fun i hi=>by
  have:i<1:=hi;omega
 have cc:=lu rt [a] hw h1 hl hll hok (fun i hi=>by rw[h0 i hi];exact haw) (show 1≤1000000 by decide) (fun i hi=>by rw[h0 i hi];exact hal) hm;unfold C';refine qX 3 rfl ?_;refine qI ?_;refine qX 2 rfl ?_;refine ab.fA tok rfl rfl rfl rfl rfl ?_;refine ab.call tok rfl rfl rfl rfl cc ?_;refine qU 1 rfl ?_;refine ab.nil ?_;rcases e2:pH rt [a] with _ | z
 rotate_left
 · rw[if_pos (Nat.succ_ne_zero z)];refine qX 1 rfl ?_;refine ab.err tok rfl rfl rfl rfl rfl ?_;refine ab.nil ?_;refine AW.aF rfl ?_;refine qX 3 rfl ?_;exact qN rfl
 rw[if_neg (by simp)];obtain ⟨k1,k2⟩:=Gg e2;obtain ⟨k3,k4⟩:=mz k1;obtain ⟨n1,n2⟩:=o8 k2;have vo:=kH (k:=rt.length) (Nat.le_refl _) k4;have vl:=fo (rt:=rt) (k:=rt.length) (Nat.le_refl _);have vs:=sh (k:=rt.length) (fun j hj=>hw j hj (gv (k4 j hj)).1) h1 (Nat.le_refl _);have vc:=nO (k:=rt.length) (fun j hj=>hw j hj (gv (k4 j hj)).1) (Nat.le_refl _) (fun j hj=>(gv (k4 j hj)).2.1);rw[List.take_length] at vo vl vs vc;have cs:=ni rt.length (k:=m) n1 k3 vo (by rw[vl];exact Nat.le_refl _) (by rw[vl];omega) (lO (haw (w7 k2)) h1) vs (hok k3);rw[show bI (rt.map bp)= .ag [.sl 1 (rt.map dn)] from by rw[vc],← kg (haw (w7 k2)) n2] at cs;refine qX 1 rfl ?_;refine ab.err tok rfl rfl rfl rfl rfl ?_;refine ab.nil ?_;refine AW.ar rfl ?_;refine AW.skip ?_;refine qX 2 rfl ?_;refine ab.call tok rfl rfl rfl rfl cs ?_;refine qU 2 rfl ?_;exact qN rfl
end Lift
namespace Lift
open Go Go.Proofs
structure CH (m:Nat) (rt:List (List RD)):Prop where
 t: ∃m0,1≤m0∧m0≤m∧(∀i,i<rt.length→(rt.getD i []).length=2^i→wN m0 (rt.getD i []))∧(rt.length≤5→mQ rt.length m0)
 m2:m≤1000000
 l:rt.length≤1000000
 ll: ∀i,i<rt.length→(rt.getD i []).length≤4398046511104
theorem CH.m1{m:Nat}{rt:List (List RD)}(T:CH m rt):1≤m:=by
 obtain ⟨m0,h1,h2,_⟩:=T.t;omega
structure ES (m:Nat) (rt:List (List RD)) (a:List RD):Prop where
 w:AT rt.length a→wN m a
 l:a.length≤4398046511104
structure JG (m:Nat) (rt:List (List RD)) (v:List NQ):Prop where
 l5:rt.length≤5
 ln:v.length=rt.length
 ro:cu v
 sz:eT m v
 t: ∃m0,1≤m0∧m0≤m∧eT m0 v∧mQ rt.length m0
 ps: ∀k,k<v.length→ ¬dG k (v.take k) (v.getD k [])<0
 eq:TrD rt=bI v
theorem Gw{m:Nat}{rt:List (List RD)}(T:CH m rt)(h:de rt=0):JG m rt (rt.map bp):=by
 obtain ⟨k3,k4⟩:=mz h;have vo:=kH (k:=rt.length) (Nat.le_refl _) k4;have vl:=fo (rt:=rt) (k:=rt.length) (Nat.le_refl _);obtain ⟨m0,t1,t2,tw,tk⟩:=T.t;have hw:=fun j hj=>tw j hj (gv (k4 j hj)).1;have vs:=sh (k:=rt.length) hw t1 (Nat.le_refl _);have vc:=nO (k:=rt.length) hw (Nat.le_refl _) (fun j hj=>(gv (k4 j hj)).2.1);rw[List.take_length] at vo vl vs vc;refine⟨k3,vl,vo,vs.mono t2,⟨m0,t1,t2,vs,tk k3⟩,fun k hk=>?_,by show D.ag [.sl 1 (rt.map dn)]=_;rw[vc]⟩;rw[vl] at hk;have:=(gv (k4 k hk)).2.2
 have e:(rt.map bp).getD k []=bp (rt.getD k []):=by
  rw[List.getD_eq_getElem?_getD,List.getElem?_map,List.getD_eq_getElem?_getD,List.getElem?_eq_getElem hk];rfl
 rw[e,← List.map_take];exact this
theorem Hm{m:Nat}{rt:List (List RD)}{a:List RD}(m1:1≤m)(A:ES m rt a)(h:bJ rt.length a=0):ak rt.length (bp a)∧aj m (bp a)∧dn a=ah (bp a):=by
 obtain ⟨n1,n2⟩:=o8 h;have w:=A.w (w7 h);exact⟨n1,lO w m1,kg w n2⟩
def HX(q:Rat):NQ:=if q=0 then [] else [q]
theorem Cd(q:Rat):ai [q]=HX q:=by
 show (if 1=0 then [] else gr (Nat.log2 1) [q])=_;rw[if_neg (by decide),show Nat.log2 1=0 by decide];unfold gr HX;show (if ba [q]=true then [] else [q])=_;have:ba [q]=decide (q=0):=by unfold ba;simp
 rw[this];by_cases h:q=0
 · rw[decide_eq_true h,if_pos rfl,if_pos h]
 · rw[decide_eq_false h,if_neg (by simp),if_neg h]
theorem lM(r:RD){k:Nat}(hr:r.w k)(h1:1≤k)(hk:k≤1000000)(ho:r.okB=true):Pure Tryz.prog 87 [r.D] (ah (HX r.val)):=by
 refine qJ 8 Tryz.func87 rfl rfl rfl rfl (by kernel_rfl) (fun B0 F0 w0=>?_);have c1:=lC r (Qr 0) (k:=k) hr (iL _ (by rw[pS];exact h1)) (by omega);have z:=eI hr h1;rw[bK,Rat.add_zero] at c1;have c2:=cE [r.val] (l:=0) (k:=k) (fB 0 _) (by decide) (gU z) (by omega);rw[Cd] at c2;have hz:(Qr 0).D= .ag [dB false,.sl 1 [],.sl 1 []]:=by rw[iV];rfl
 rw[hz] at c1;refine qX 2 rfl ?_;refine qK 2 rfl ?_;refine ab.call tok rfl rfl rfl rfl c1 ?_;refine ab.fA tok rfl rfl rfl rfl rfl ?_;refine ab.call tok rfl rfl rfl rfl c2 ?_;refine qU 1 rfl ?_;exact qN rfl
end Lift
namespace Lift
abbrev Cf:=Nat→Rat
def cf(a:NQ):Cf:=fun i=>a.getD i 0
def bG(l:Nat)(a:Cf):Cf:=fun i=>a (2^l+i)
def mulC(rt:List NQ):Nat→Cf→Cf→Cf
 | 0,a,b=>fun i=>if i=0 then a 0*b 0 else 0
 | l+1,a,b=>fun i=>if i<2^l then mulC rt l a b i+mulC rt l (mulC rt l (bG l a) (bG l b)) (cf (rt.getD l [])) i else mulC rt l a (bG l b) (i-2^l)+mulC rt l (bG l a) b (i-2^l)
def cy(l:Nat)(a:Cf):Prop:= ∀i,2^l≤i→a i=0
def jA(l:Nat)(a b:Cf):Prop:= ∀i,i<2^l→a i=b i
theorem aU(rt:List NQ): ∀(l:Nat) (a b:Cf),cy l (mulC rt l a b)
 | 0,a,b=>fun i hi=>by
   have:i≠0:=by have:1≤i:=hi;omega
   show (if i=0 then _ else (0:Rat))=0;rw[if_neg this]
 | l+1,a,b=>fun i hi=>by
   rw[Nat.pow_succ] at hi;have hp:0<2^l:=Nat.pow_pos (by decide);show (if i<2^l then _ else _)=(0:Rat);rw[if_neg (by omega),aU rt l _ _ _ (by omega),aU rt l _ _ _ (by omega),Rat.add_zero]
theorem jA.down{l:Nat}{a b:Cf}(h:jA (l+1) a b):jA l a b:=fun i hi=>h i (by rw[Nat.pow_succ];omega)
theorem jA.hi{l:Nat}{a b:Cf}(h:jA (l+1) a b):jA l (bG l a) (bG l b):=fun i hi=>h _ (by rw[Nat.pow_succ];omega)
theorem jA.rS{l:Nat}{a:Cf}:jA l a a:=fun _ _=>rfl
theorem jA.full{l:Nat}{a b:Cf}(h:jA l a b)(ha:cy l a)(hb:cy l b):a=b:=funext fun i=>by
 by_cases hi:i<2^l
 · exact h i hi
 · rw[ha i (by omega),hb i (by omega)]
theorem bw(rt:List NQ): ∀(l:Nat) {a b a' b':Cf},jA l a a'→jA l b b'→mulC rt l a b=mulC rt l a' b'
 | 0,a,b,a',b',h1,h2=>funext fun i=>by
   show (if i=0 then a 0*b 0 else 0)=(if i=0 then a' 0*b' 0 else 0);rw[h1 0 (by decide),h2 0 (by decide)]
 | l+1,a,b,a',b',h1,h2=>funext fun i=>by
   show (if i<2^l then mulC rt l a b i+mulC rt l (mulC rt l (bG l a) (bG l b)) (cf (rt.getD l [])) i else mulC rt l a (bG l b) (i-2^l)+mulC rt l (bG l a) b (i-2^l))=(if i<2^l then mulC rt l a' b' i+mulC rt l (mulC rt l (bG l a') (bG l b')) (cf (rt.getD l [])) i else mulC rt l a' (bG l b') (i-2^l)+mulC rt l (bG l a') b' (i-2^l));rw[bw rt l h1.down h2.down,bw rt l h1.hi h2.hi,bw rt l h1.down h2.hi,bw rt l h1.hi h2.down]
def zC:Cf:=fun _=>0
theorem bU(rt:List NQ): ∀(l:Nat) {a b:Cf},jA l a zC∨jA l b zC→mulC rt l a b=zC
 | 0,a,b,h=>funext fun i=>by
   show (if i=0 then a 0*b 0 else 0)=0;split
   · rcases h with h | h
     · rw[h 0 (by decide)];exact Rat.zero_mul _
     · rw[h 0 (by decide)];exact Rat.mul_zero _
   · rfl
 | l+1,a,b,h=>funext fun i=>by
   have hz:jA l zC zC:=jA.rS;have r1:mulC rt l a b=zC:=bU rt l (h.imp jA.down jA.down);have r2:mulC rt l (bG l a) (bG l b)=zC:=bU rt l (h.imp jA.hi jA.hi);have r3:mulC rt l a (bG l b)=zC:=bU rt l (h.imp jA.down jA.hi);have r4:mulC rt l (bG l a) b=zC:=bU rt l (h.imp jA.hi jA.down);have r5:mulC rt l zC (cf (rt.getD l []))=zC:=bU rt l (.inl hz);show (if i<2^l then mulC rt l a b i+mulC rt l (mulC rt l (bG l a) (bG l b)) (cf (rt.getD l [])) i else mulC rt l a (bG l b) (i-2^l)+mulC rt l (bG l a) b (i-2^l))=0;rw[r2,r1,r3,r4,r5];show (if i<2^l then (0:Rat)+0 else 0+0)=0;split<;>exact Rat.add_zero 0
theorem jg(rt:List NQ): ∀(l:Nat) (a b:Cf),mulC rt l a b=mulC rt l b a
 | 0,a,b=>funext fun i=>by
   show (if i=0 then a 0*b 0 else 0)=(if i=0 then b 0*a 0 else 0);rw[Rat.mul_comm]
 | l+1,a,b=>funext fun i=>by
   show (if i<2^l then mulC rt l a b i+mulC rt l (mulC rt l (bG l a) (bG l b)) (cf (rt.getD l [])) i else mulC rt l a (bG l b) (i-2^l)+mulC rt l (bG l a) b (i-2^l))=(if i<2^l then mulC rt l b a i+mulC rt l (mulC rt l (bG l b) (bG l a)) (cf (rt.getD l [])) i else mulC rt l b (bG l a) (i-2^l)+mulC rt l (bG l b) a (i-2^l));rw[jg rt l a b,jg rt l (bG l a) (bG l b),jg rt l a (bG l b),jg rt l (bG l a) b,Rat.add_comm (mulC rt l (bG l b) a _)]
theorem cy.mono{l m:Nat}{a:Cf}(h:cy l a)(hl:l≤m):cy m a:=fun i hi=>h i (Nat.le_trans (Nat.pow_le_pow_right (by decide) hl) hi)
theorem cy.sH{l:Nat}{a:Cf}(h:cy l a):bG l a=zC:=funext fun i=>h _ (by omega)
theorem cT(rt:List NQ){j:Nat}{a b:Cf}(ha:cy j a)(hb:cy j b): ∀{l:Nat},j≤l→mulC rt l a b=mulC rt j a b:=fun {l} h=>by
 obtain ⟨d,rfl⟩: ∃d,l=j+d:=⟨l-j,by omega⟩;clear h
 induction d with
 | zero=>rfl
 | succ d ih =>
   have ha':cy (j+d) a:=ha.mono (by omega);have hb':cy (j+d) b:=hb.mono (by omega);have hz:jA (j+d) zC zC:=jA.rS;rw[← ih];funext i;show (if i<2^(j+d) then mulC rt (j+d) a b i+mulC rt (j+d) (mulC rt (j+d) (bG (j+d) a) (bG (j+d) b)) (cf (rt.getD (j+d) [])) i else mulC rt (j+d) a (bG (j+d) b) (i-2^(j+d))+mulC rt (j+d) (bG (j+d) a) b (i-2^(j+d)))=_;rw[ha'.sH,hb'.sH,bU rt (j+d) (a:=zC) (b:=zC) (.inl hz),bU rt (j+d) (a:=zC) (.inl hz),bU rt (j+d) (b:=zC) (.inr hz),bU rt (j+d) (a:=zC) (.inl hz)];by_cases hi:i<2^(j+d)
   · rw[if_pos hi];exact Rat.add_zero _
   · rw[if_neg hi,aU rt (j+d) a b i (by omega)];exact Rat.add_zero _
theorem aN{l:Nat}{a:NQ}(h:a.length≤2^l):cy l (cf a):=fun i hi=>fy (by omega)
theorem fi(a b:NQ)(i:Nat):cf (aM a b) i=cf a i+cf b i:=mO a b i
theorem ky(a:NQ)(i:Nat):cf (aC a) i= -cf a i:=nZ a i
theorem sM{a:NQ}(h:ba a=true):cf a=zC:=funext fun i=>by
 unfold ba at h;rw[List.all_eq_true] at h;by_cases hi:i<a.length
 · have:=of_decide_eq_true (h a[i] (List.getElem_mem hi));show a.getD i 0=0;rw[List.getD_eq_getElem?_getD,List.getElem?_eq_getElem hi];exact this
 · exact fy (by omega)
theorem Gj{j:Nat}{p q:NQ}(n:Nat)(hn:n=2^j)(hq:q.length≤2^j)(i:Nat):cf (c' p q n) i=if i<2^j then cf p i else cf q (i-2^j):=by
 show (c' p q n).getD i 0=_;rw[mS,hn];by_cases h:i<2^j
 · rw[if_pos h,if_pos h];rfl
 · rw[if_neg h,if_neg h];by_cases h2:i<2^j+2^j
   · rw[if_pos h2];rfl
   · rw[if_neg h2];exact(fy (by omega)).symm
theorem eL{j:Nat}{a:NQ}(n:Nat)(hn:n=2^j):jA j (cf (a.take n)) (cf a):=fun i hi=>by
 show (a.take n).getD i 0=a.getD i 0;rw[kX,if_pos (by omega)]
theorem iT{j:Nat}{a:NQ}(n:Nat)(hn:n=2^j):cf (a.drop n)=bG j (cf a):=funext fun i=>by
 show (a.drop n).getD i 0=a.getD (2^j+i) 0;rw[sJ,hn]
theorem xc{l:Nat}{R:NQ→NQ→NQ}{rt:List NQ}{a b:NQ}(ha:ak l a)(hb:ak l b)(hab:b.length≤a.length)(hrt:cu rt)(hl:l≤rt.length)
  (hR: ∀l',l=l'+1→ ∀a' b',ak l' a'→ak l' b'→ak l' (R a' b')∧cf (R a' b')=mulC rt l' (cf a') (cf b')):cf (iC R rt a b)=mulC rt l (cf a) (cf b):=by
 unfold iC;by_cases h0:(ba a||ba b)=true
 · rw[if_pos h0];have:cf ([]:NQ)=zC:=rfl;rw[this,bU];rw[Bool.or_eq_true] at h0;rcases h0 with h | h
   · left;rw[sM h];exact jA.rS
   · right;rw[sM h];exact jA.rS
 rw[if_neg h0];have hz:=fun z:ba a=true=>h0 (by rw[z];rfl);have hz2:=fun z:ba b=true=>h0 (by rw[z,Bool.or_true]);by_cases h1:a.length=1
 · rw[if_pos h1];have lb:b.length≤1:=by omega
   rw[cT rt (j:=0) (aN (by rw[h1];exact Nat.le_refl _)) (aN lb) (Nat.zero_le _)];funext i;show [a.getD 0 0*b.getD 0 0].getD i 0=if i=0 then a.getD 0 0*b.getD 0 0 else 0
   cases i with
   | zero=>rfl
   | succ i=>rw[if_neg (by omega)];rfl
 rw[if_neg h1]
 obtain ⟨i,hi,hla⟩: ∃i,i≤l∧a.length=2^i:=by
  rcases ha with e | e
  · exact absurd (by rw[List.length_eq_zero_iff.1 e];rfl) hz
  · exact e
 have sH:i≠0:=fun e=>h1 (by rw[hla,e]);obtain ⟨j,rfl⟩: ∃j,i=j+1:=⟨i-1,by omega⟩;obtain ⟨l',rfl⟩: ∃l',l=l'+1:=⟨l-1,by omega⟩;have hj:j≤l':=by omega
 have hR:=fun a' b' h1 h2=>hR l' rfl a' b' h1 h2;obtain ⟨e1,e2,e3⟩:=a9 hla;have hx:ak l' (a.take (a.length / 2)):= .inr ⟨j,hj,e1⟩;have hy:ak l' (a.drop (a.length / 2)):= .inr ⟨j,hj,e2⟩;have la:cy (j+1) (cf a):=aN (by omega);have lb:cy (j+1) (cf b):=aN (by omega);rw[cT rt la lb hi]
 have low: ∀{p q:NQ},p.length≤2^j→q.length≤2^j→ak l' p→ak l' q→cf (R p q)=mulC rt j (cf p) (cf q):=fun {p q} hp hq h1 h2=>by
  rw[(hR p q h1 h2).2,cT rt (aN hp) (aN hq) hj]
 have lenR: ∀{p q:NQ},p.length≤2^j→q.length≤2^j→ak l' p→ak l' q→cy j (cf (R p q)):=fun {p q} hp hq h1 h2=>by
  rw[low hp hq h1 h2];exact aU rt j _ _
 have tk:=eL (a:=a) (a.length / 2) e3;have dr:=iT (a:=a) (a.length / 2) e3
 have cj: ∀{p q:NQ},cy j (cf q)→ ∀i,cf (c' p q (a.length / 2)) i=if i<2^j then cf p i else cf q (i-2^j):=fun {p q} hq i=>by
  show (c' p q (a.length / 2)).getD i 0=_;rw[mS,e3];by_cases h:i<2^j
  · rw[if_pos h,if_pos h];rfl
  · rw[if_neg h,if_neg h];by_cases h2:i<2^j+2^j
    · rw[if_pos h2];rfl
    · rw[if_neg h2,hq _ (by omega)]
 by_cases h3:b.length≤a.length / 2
 · rw[if_pos h3]
   have hb':ak l' b:=by
    rcases hb with e | ⟨i',_,e⟩
    · exact .inl e
    · refine .inr ⟨i',?_,e⟩;rw[e3,e] at h3;have:=(Nat.pow_le_pow_iff_right (a:=2) (by decide)).1 h3;omega
   rw[e3] at h3;have lbj:cy j (cf b):=aN h3;funext i;rw[cj (lenR (by omega) h3 hy hb'),low (by omega) h3 hx hb',low (by omega) h3 hy hb',dr,bw rt j tk jA.rS];show _=if i<2^j then mulC rt j (cf a) (cf b) i+mulC rt j (mulC rt j (bG j (cf a)) (bG j (cf b))) (cf (rt.getD j [])) i else mulC rt j (cf a) (bG j (cf b)) (i-2^j)+mulC rt j (bG j (cf a)) (cf b) (i-2^j)
   have hzz:jA j zC zC:=jA.rS;rw[lbj.sH,bU rt j (b:=zC) (.inr hzz),bU rt j (b:=zC) (.inr hzz),bU rt j (a:=zC) (.inl hzz)];by_cases h:i<2^j
   · rw[if_pos h,if_pos h];exact(Rat.add_zero _).symm
   · rw[if_neg h,if_neg h];exact(Rat.zero_add _).symm
 rw[if_neg h3]
 have hlb:b.length=2^(j+1):=by
  rcases hb with e | ⟨i',_,e⟩
  · exact absurd (by rw[List.length_eq_zero_iff.1 e];rfl) hz2
  · rw[e] at h3 hab ⊢;rw[hla] at hab;rw[e3] at h3;have h4:=(Nat.pow_le_pow_iff_right (a:=2) (by decide)).1 hab;have h5: ¬i'≤j:=fun h=>h3 ((Nat.pow_le_pow_iff_right (a:=2) (by decide)).2 h);rw[show i'=j+1 by omega]
 obtain ⟨f1,f2,f3⟩:=a9 hlb;rw[show b.length / 2=a.length / 2 by rw[f3,e3]] at f1 f2;have hu:ak l' (b.take (a.length / 2)):= .inr ⟨j,hj,f1⟩;have hv:ak l' (b.drop (a.length / 2)):= .inr ⟨j,hj,f2⟩;have tkb:=eL (a:=b) (a.length / 2) e3;have drb:=iT (a:=b) (a.length / 2) e3;have hlog:a.length.log2-1=j:=by rw[hla,Nat.log2_two_pow];omega
 rw[hlog];have hdl:(rt.getD j []).length=2^j:=hrt j (by omega);have hd:ak l' (rt.getD j []):= .inr ⟨j,hj,hdl⟩;have Ryv:=hR _ _ hy hv;have lyv:cy j (cf (R (a.drop (a.length / 2)) (b.drop (a.length / 2)))):=lenR (by omega) (by omega) hy hv;have c1:=low (p:=a.take (a.length / 2)) (q:=b.take (a.length / 2)) (by omega) (by omega) hx hu;have c2:=low (p:=a.drop (a.length / 2)) (q:=b.drop (a.length / 2)) (by omega) (by omega) hy hv;have c3:=low (p:=a.take (a.length / 2)) (q:=b.drop (a.length / 2)) (by omega) (by omega) hx hv;have c4:=low (p:=a.drop (a.length / 2)) (q:=b.take (a.length / 2)) (by omega) (by omega) hy hu
 have c5:cf (R (R (a.drop (a.length / 2)) (b.drop (a.length / 2))) (rt.getD j []))=mulC rt j (cf (R (a.drop (a.length / 2)) (b.drop (a.length / 2)))) (cf (rt.getD j [])):=by
  rw[(hR _ _ Ryv.1 hd).2,cT rt lyv (aN (by omega)) hj]
 have lq:cy j (cf (aM (R (a.take (a.length / 2)) (b.drop (a.length / 2))) (R (a.drop (a.length / 2)) (b.take (a.length / 2))))):=fun i hi=>by
  rw[fi,c3,c4,aU rt j _ _ i hi,aU rt j _ _ i hi];exact Rat.add_zero _
 funext i;rw[cj lq,fi,fi,c1,c5,c2,c3,c4,dr,drb,bw rt j tk tkb,bw rt j tk jA.rS,bw rt j jA.rS tkb];rfl
theorem dX: ∀(l:Nat) {rt:List NQ} {a b:NQ},ak l a→ak l b→cu rt→l≤rt.length→ak l (aS l rt a b)∧cf (aS l rt a b)=mulC rt l (cf a) (cf b)
 | 0,rt,a,b,ha,hb,hrt,hl=>by
   have key: ∀{a b:NQ},ak 0 a→ak 0 b→b.length≤a.length→ak 0 (iC (fun _ _=>[]) rt a b)∧cf (iC (fun _ _=>[]) rt a b)=mulC rt 0 (cf a) (cf b):=fun {a b} ha hb hab =>
    ⟨by
     unfold iC;split
     · exact bL _
     split
     · exact fB _ _
     · rename_i h0 h1;have:a.length≤1:=ha.le;have:a=[]:=List.length_eq_zero_iff.1 (by omega);subst this
       exact absurd rfl h0,xc ha hb hab hrt hl (fun l' h=>by omega)⟩
   show ak 0 (jx (iC (fun _ _=>[]) rt) a b)∧cf (jx (iC (fun _ _=>[]) rt) a b)=_;unfold jx;split
   · have:=key hb ha (by omega);exact⟨this.1,by rw[this.2,jg]⟩
   · exact key ha hb (by omega)
 | l+1,rt,a,b,ha,hb,hrt,hl=>by
   have ih: ∀l',l+1=l'+1→ ∀a' b',ak l' a'→ak l' b'→ak l' (aS l rt a' b')∧cf (aS l rt a' b')=mulC rt l' (cf a') (cf b'):=fun l' e a' b' h1 h2=>by
    obtain rfl:l=l':=by omega
    exact dX l h1 h2 hrt (by omega)
   have lt:ak (l+1) (aS (l+1) rt a b):=by
    obtain ⟨K,hK⟩: ∃K,aj K a∧aj K b∧eT K rt:=vz a b rt;exact(dW (l+1) ha hb hrt hl hK.1 hK.2.1 hK.2.2).1
   refine⟨lt,?_⟩;show cf (jx (iC (aS l rt) rt) a b)=_;unfold jx;split
   · rw[xc hb ha (by omega) hrt hl ih,jg]
   · exact xc ha hb (by omega) hrt hl ih
end Lift
namespace Lift
theorem De:jZ 0=0:=gV.2 rfl
theorem EB: ∀{i:Nat} {a:NQ},cy i (cf a)→cf (gr i a)=cf a
 | 0,a,h=>by
   unfold gr;by_cases h0:ba (a.take 1)=true
   · rw[if_pos h0];have z:=sM h0;funext c;show (0:Rat)=a.getD c 0;cases c with
     | zero =>
       have:(a.take 1).getD 0 0=0:=congrFun z 0;rw[kX,if_pos (by decide)] at this;exact this.symm
     | succ c=>exact(h (c+1) (by show 1≤c+1;omega)).symm
   · rw[if_neg h0];funext c;show (a.take 1).getD c 0=a.getD c 0;rw[kX];split
     · rfl
     · exact(h c (by show 1≤c;omega)).symm
 | i+1,a,h=>by
   unfold gr;have e:2^(i+1)=2^i*2:=Nat.pow_succ ..;by_cases h0:ba ((a.take (2^(i+1))).drop (2^i))=true
   · rw[if_pos h0];refine EB fun c hc=>?_;by_cases hc2:c<2^(i+1)
     · have:=congrFun (sM h0) (c-2^i);have:((a.take (2^(i+1))).drop (2^i)).getD (c-2^i) 0=0:=this;rw[sJ,kX,if_pos (by omega),show 2^i+(c-2^i)=c by omega] at this;exact this
     · exact h c (by omega)
   · rw[if_neg h0];funext c;show (a.take (2^(i+1))).getD c 0=a.getD c 0;rw[kX];split
     · rfl
     · exact(h c (by omega)).symm
theorem bh{l:Nat}{a:NQ}(ha:ak l a):cf (ai a)=cf a:=by
 unfold ai;split
 · rename_i h;rw[List.length_eq_zero_iff.1 h]
 rename_i h0;rcases ha with e | ⟨i,hi,e⟩
 · exact absurd e h0
 rw[e,Nat.log2_two_pow];exact EB (aN (by omega))
theorem bg{l:Nat}{a:NQ}(ha:ak l a):ak l (ai a):=by
 obtain ⟨K,hK⟩:=A7 a;exact(aO ha hK).1
structure uM (a:NQ):Prop where
 one:a.length=1→a.getD 0 0≠0
 two: ∀i,a.length=2^(i+1)→ ¬cy i (cf a)
theorem vy:uM []:=⟨fun h=>absurd h (by decide),fun i h=>by
  have hp:0<2^(i+1):=Nat.pow_pos (by decide);have h:0=2^(i+1):=h
  omega⟩
theorem sR{a:NQ}(h:cf a=zC):ba a=true:=by
 unfold ba;rw[List.all_eq_true];intro x hx;obtain ⟨i,hi,rfl⟩:=List.getElem_of_mem hx;have:=congrFun h i;have:a.getD i 0=0:=this;rw[List.getD_eq_getElem?_getD,List.getElem?_eq_getElem hi] at this;exact decide_eq_true this
theorem vx: ∀{i:Nat} {a:NQ},a.length=2^i∨2^i≤a.length→uM (gr i a)
 | 0,a,h=>by
   unfold gr;by_cases h0:ba (a.take 1)=true
   · rw[if_pos h0];exact vy
   · rw[if_neg h0]
     have hl:(a.take 1).length=1:=by rw[List.length_take];have:1≤a.length:=by rcases h with h | h;(have h:a.length=1:=h;omega);exact h
                                     omega
     refine⟨fun _ e=>h0 (sR (funext fun c=>?_)),fun i h=>?_⟩
     · show (a.take 1).getD c 0=0;cases c with
       | zero=>exact e
       | succ c=>exact fy (by omega)
     · rw[hl,Nat.pow_succ] at h;omega
 | i+1,a,h=>by
   unfold gr;have e:2^(i+1)=2^i*2:=Nat.pow_succ ..;have hp:0<2^i:=Nat.pow_pos (by decide);by_cases h0:ba ((a.take (2^(i+1))).drop (2^i))=true
   · rw[if_pos h0];exact vx (.inr (by omega))
   · rw[if_neg h0];have hl:(a.take (2^(i+1))).length=2^(i+1):=by rw[List.length_take];omega
     refine⟨fun h1=>?_,fun k hk hlow=>h0 (sR (funext fun c=>?_))⟩
     · rw[hl] at h1;omega
     · rw[hl] at hk
       have:k=i:=by
        have h1:=(Nat.pow_le_pow_iff_right (a:=2) (by decide)).1 (Nat.le_of_eq hk);have h2:=(Nat.pow_le_pow_iff_right (a:=2) (by decide)).1 (Nat.le_of_eq hk.symm);omega
       subst this;show ((a.take (2^(k+1))).drop (2^k)).getD c 0=0;rw[sJ];exact hlow _ (by omega)
theorem gT{l:Nat}{a:NQ}(ha:ak l a):uM (ai a):=by
 unfold ai;split
 · exact vy
 rename_i h0;rcases ha with e | ⟨i,hi,e⟩
 · exact absurd e h0
 rw[e,Nat.log2_two_pow];exact vx (.inl e)
theorem FO{a b:NQ}(hl:a.length=b.length)(h:cf a=cf b):a=b:=by
 refine List.ext_getElem hl fun i h1 h2=>?_;have:a.getD i 0=b.getD i 0:=congrFun h i;rw[List.getD_eq_getElem?_getD,List.getD_eq_getElem?_getD,List.getElem?_eq_getElem h1,List.getElem?_eq_getElem h2] at this;exact this
theorem CT{l m:Nat}{a b:NQ}(ha:ak l a)(hb:ak m b)(ta:uM a)(tb:uM b)(h:cf a=cf b):a=b:=by
 refine FO ?_ h
 have key: ∀{l m:Nat} {a b:NQ},ak l a→ak m b→uM b→cf a=cf b→b.length≤a.length:=fun {l m a b} ha hb tb h=>by
  by_cases hlt:b.length≤a.length
  · exact hlt
  exfalso;rcases hb with e | ⟨k,_,e⟩
  · omega
  rcases k with _ | k
  · have h1:b.length=1:=e;have h0:a.length=0:=by omega
    refine tb.one h1 ?_;have:a.getD 0 0=b.getD 0 0:=congrFun h 0;rw[← this];exact fy (by omega)
  · refine tb.two k e ?_;rw[← h];refine aN ?_;rcases ha with e1 | ⟨j,_,e1⟩
    · omega
    · rw[e1,e] at hlt;have: ¬k+1≤j:=fun h=>hlt (Nat.pow_le_pow_right (by decide) h);rw[e1];exact Nat.pow_le_pow_right (by decide) (by omega)
 exact Nat.le_antisymm (key hb ha ta h.symm) (key ha hb tb h)
theorem lR{l m:Nat}{a b:NQ}(ha:ak l a)(hb:ak m b)(h:cf a=cf b):ai a=ai b:=by
 refine CT (bg ha) (bg hb) (gT ha) (gT hb) ?_;rw[bh ha,bh hb,h]
def bE(rt:List NQ)(l:Nat)(a:Cf):Cf:=fun i=>mulC rt l a a i-mulC rt l (mulC rt l (bG l a) (bG l a)) (cf (rt.getD l [])) i
def aT(rt:List NQ):Nat→Cf→Int
 | 0,a=>jZ (a 0)
 | l+1,a=>if aT rt l (cf (rt.getD l []))=0 then aT rt l a else if aT rt l a=aT rt l (bG l a)∨aT rt l (bG l a)=0 then aT rt l a else
   if aT rt l a=0 then aT rt l (bG l a) else aT rt l a*aT rt l (bE rt l a)
theorem yL(rt:List NQ){l:Nat}{a b:Cf}(h:jA (l+1) a b):bE rt l a=bE rt l b:=by
 unfold bE;rw[bw rt l h.down h.down,bw rt l h.hi h.hi]
theorem kO(rt:List NQ): ∀(l:Nat) {a b:Cf},jA l a b→aT rt l a=aT rt l b
 | 0,a,b,h=>by show jZ (a 0)=jZ (b 0);rw[h 0 (by decide)]
 | l+1,a,b,h=>by
   unfold aT;rw[kO rt l h.down,kO rt l h.hi,yL rt h]
theorem fK(rt:List NQ): ∀(l:Nat),aT rt l zC=0
 | 0=>by show jZ 0=0;exact De
 | l+1=>by
   have h:=fK rt l;have h2:aT rt l (bG l zC)=0:=h;unfold aT;rw[h,h2];split
   · rfl
   · rw[if_pos (Or.inl rfl)]
theorem bB(rt:List NQ){j:Nat}{a:Cf}(ha:cy j a): ∀{l:Nat},j≤l→aT rt l a=aT rt j a:=fun {l} h=>by
 obtain ⟨d,rfl⟩: ∃d,l=j+d:=⟨l-j,by omega⟩;clear h
 induction d with
 | zero=>rfl
 | succ d ih =>
   have ha':cy (j+d) a:=ha.mono (by omega);show (if aT rt (j+d) (cf (rt.getD (j+d) []))=0 then aT rt (j+d) a else if aT rt (j+d) a=aT rt (j+d) (bG (j+d) a)∨aT rt (j+d) (bG (j+d) a)=0 then aT rt (j+d) a else if aT rt (j+d) a=0 then aT rt (j+d) (bG (j+d) a) else aT rt (j+d) a*aT rt (j+d) (bE rt (j+d) a))=_;rw[ha'.sH,fK,ih];by_cases hd:aT rt (j+d) (cf (rt.getD (j+d) []))=0
   · rw[if_pos hd]
   · rw[if_neg hd,if_pos (Or.inr rfl)]
theorem jM{l j:Nat}{rt:List NQ}{a:NQ}(hj:j≤l)(ha:a.length=2^(j+1))(hrt:cu rt)(hl:l<rt.length):ak l (ef l rt a)∧cf (ef l rt a)=bE rt j (cf a):=by
 obtain ⟨K,hK⟩: ∃K,aj K a∧aj K a∧eT K rt:=vz a a rt;refine⟨(sD hj ha hrt hl hK.1 hK.2.2).1,?_⟩;obtain ⟨e1,e2,e3⟩:=a9 ha;have hx:ak l (a.take (a.length / 2)):= .inr ⟨j,hj,e1⟩;have hy:ak l (a.drop (a.length / 2)):= .inr ⟨j,hj,e2⟩;have hlog:a.length.log2-1=j:=by rw[ha,Nat.log2_two_pow];omega
 have hdl:(rt.getD j []).length=2^j:=hrt j (by omega);have hd:ak l (rt.getD j []):= .inr ⟨j,hj,hdl⟩;have r1:=dX l hx hx hrt (by omega);have r2:=dX l hy hy hrt (by omega);have r3:=dX l r2.1 hd hrt (by omega);unfold ef bE;rw[hlog];funext i;rw[fi,ky,r1.2,r3.2,r2.2,cT rt (aN (by omega)) (aN (by omega)) hj,cT rt (aN (a:=a.drop (a.length / 2)) (by omega)) (aN (by omega)) hj,cT rt (aU rt j _ _) (aN (by omega)) hj,iT _ e3,bw rt j (eL _ e3) (eL _ e3)];exact Rat.sub_eq_add_neg _ _ |>.symm
theorem dO: ∀(l:Nat) {rt:List NQ} {a:NQ},ak l a→cu rt→l≤rt.length→dG l rt a=aT rt l (cf a)
 | 0,rt,a,ha,hrt,hl=>by
   have hs:=bg ha;have hc:=bh ha;show uV (fun _=>0) (fun a=>a) rt (ai a)=jZ (cf a 0);rw[← hc];generalize ai a=s at hs;unfold uV;rcases hs with e | ⟨i,hi,e⟩
   · rw[if_pos e,List.length_eq_zero_iff.1 e];show 0=jZ 0;rw[De]
   · obtain rfl:i=0:=by omega
     have e:s.length=1:=e;rw[if_neg (by omega),if_pos e];rfl
 | l+1,rt,a,ha,hrt,hl=>by
   have hs:=bg ha;have hc:=bh ha;show uV (dG l rt) (ef l rt) rt (ai a)=aT rt (l+1) (cf a);rw[← hc];generalize ai a=s at hs;clear hc ha;unfold uV;by_cases h0:s.length=0
   · rw[if_pos h0,List.length_eq_zero_iff.1 h0];exact(fK rt (l+1)).symm
   rw[if_neg h0];by_cases h1:s.length=1
   · rw[if_pos h1,bB rt (j:=0) (aN (by rw[h1];exact Nat.le_refl _)) (Nat.zero_le _)];rfl
   rw[if_neg h1]
   obtain ⟨j,hj,hsl⟩: ∃j,j≤l∧s.length=2^(j+1):=by
    rcases hs with e | ⟨i,hi,e⟩
    · exact absurd e h0
    · rcases i with _ | j
      · exact absurd e h1
      · exact⟨j,by omega,e⟩
   obtain ⟨e1,e2,e3⟩:=a9 hsl;have hx:ak l (s.take (s.length / 2)):= .inr ⟨j,hj,e1⟩;have hy:ak l (s.drop (s.length / 2)):= .inr ⟨j,hj,e2⟩;have hlog:s.length.log2-1=j:=by rw[hsl,Nat.log2_two_pow];omega
   have hdl:(rt.getD j []).length=2^j:=hrt j (by omega);have hd:ak l (rt.getD j []):= .inr ⟨j,hj,hdl⟩;have hn:=jM hj hsl hrt (by omega)
   have lowN:cy j (bE rt j (cf s)):=fun i hi=>by
    unfold bE;rw[aU rt j _ _ i hi,aU rt j _ _ i hi];exact Rat.sub_self
   rw[hlog,dO l hd hrt (by omega),dO l hx hrt (by omega),dO l hy hrt (by omega),dO l hn.1 hrt (by omega),hn.2,iT _ e3,
    bB rt (aN (a:=rt.getD j []) (by omega)) hj,bB rt (aN (a:=s.take (s.length / 2)) (by omega)) hj,bB rt lowN hj,kO rt j (eL _ e3)]
   have lh:cy j (bG j (cf s)):=fun i hi=>(aN (l:=j+1) (by omega)) _ (by rw[Nat.pow_succ];omega);rw[bB rt lh hj,bB rt (a:=cf s) (j:=j+1) (l:=l+1) (aN (by omega)) (by omega)];rfl
end Lift
namespace Lift
def jG(R:NQ→NQ→NQ)(rt:List NQ)(a b:NQ):NQ :=
 if a.length=0∨b.length=0 then [] else if max a.length b.length=1 then [a.getD 0 0*b.getD 0 0] else
 c' (aM (R ((aW a (max a.length b.length)).take (max a.length b.length / 2)) ((aW b (max a.length b.length)).take (max a.length b.length / 2)))
   (R (R ((aW a (max a.length b.length)).drop (max a.length b.length / 2)) ((aW b (max a.length b.length)).drop (max a.length b.length / 2))) (rt.getD ((max a.length b.length).log2-1) [])))
  (aM (R ((aW a (max a.length b.length)).take (max a.length b.length / 2)) ((aW b (max a.length b.length)).drop (max a.length b.length / 2)))
   (R ((aW a (max a.length b.length)).drop (max a.length b.length / 2)) ((aW b (max a.length b.length)).take (max a.length b.length / 2)))) (max a.length b.length / 2)
def eJ:Nat→List NQ→NQ→NQ→NQ
 | 0,rt,a,b=>jG (fun _ _=>[]) rt (ai a) (ai b)
 | l+1,rt,a,b=>jG (eJ l rt) rt (ai a) (ai b)
theorem BN{l:Nat}{a:NQ}(n:Nat)(ha:a.length≤n):cf (aW a n)=cf a:=funext fun i=>by
 show (aW a n).getD i 0=a.getD i 0;rw[fI];split
 · rfl
 · exact(fy (by omega)).symm
theorem ym{l:Nat}{R:NQ→NQ→NQ}{rt:List NQ}{a b:NQ}(ha:ak l a)(hb:ak l b)(hrt:cu rt)(hl:l≤rt.length)
  (hR: ∀l',l=l'+1→ ∀a' b',ak l' a'→ak l' b'→ak l' (R a' b')∧cf (R a' b')=mulC rt l' (cf a') (cf b')):ak l (jG R rt a b)∧cf (jG R rt a b)=mulC rt l (cf a) (cf b):=by
 have cz: ∀{x:NQ},x.length=0→cf x=zC:=fun {x} h=>by rw[List.length_eq_zero_iff.1 h];rfl
 unfold jG;by_cases h0:a.length=0∨b.length=0
 · rw[if_pos h0];refine⟨bL _,?_⟩;rw[bU rt l (h0.imp (fun h=>by rw[cz h];exact jA.rS) (fun h=>by rw[cz h];exact jA.rS))];rfl
 rw[if_neg h0];by_cases h1:max a.length b.length=1
 · rw[if_pos h1];refine⟨fB _ _,?_⟩;rw[cT rt (j:=0) (aN (show a.length≤1 by omega)) (aN (show b.length≤1 by omega)) (Nat.zero_le _)];funext i;show [a.getD 0 0*b.getD 0 0].getD i 0=if i=0 then a.getD 0 0*b.getD 0 0 else 0
   cases i with
   | zero=>rfl
   | succ i=>rw[if_neg (by omega)];rfl
 rw[if_neg h1]
 obtain ⟨i,hi,hn⟩: ∃i,i≤l∧max a.length b.length=2^i:=by
  rcases ha with e | ⟨i,hi,e⟩
  · exact absurd (.inl e) h0
  rcases hb with e2 | ⟨k,hk,e2⟩
  · exact absurd (.inr e2) h0
  by_cases h:a.length≤b.length
  · exact⟨k,hk,by rw[Nat.max_eq_right h,e2]⟩
  · exact⟨i,hi,by rw[Nat.max_eq_left (by omega),e]⟩
 have sH:i≠0:=fun e=>h1 (by rw[hn,e]);obtain ⟨j,rfl⟩: ∃j,i=j+1:=⟨i-1,by omega⟩;obtain ⟨l',rfl⟩: ∃l',l=l'+1:=⟨l-1,by omega⟩;have hj:j≤l':=by omega
 have hR:=fun a' b' h1 h2=>hR l' rfl a' b' h1 h2;have ca:=BN (l:=l') (max a.length b.length) (Nat.le_max_left a.length b.length);have cb:=BN (l:=l') (max a.length b.length) (Nat.le_max_right a.length b.length);have wa:=bf a (max a.length b.length);have wb:=bf b (max a.length b.length);rw[← ca,← cb];generalize aW a (max a.length b.length)=A at *;generalize aW b (max a.length b.length)=B at *;generalize max a.length b.length=n at *;subst hn;have e0:=ke j;have hlog:(2^(j+1)).log2-1=j:=by rw[Nat.log2_two_pow];omega
 rw[e0,hlog];obtain ⟨e1,e2,e3⟩:=a9 wa;obtain ⟨f1,f2,f3⟩:=a9 wb;rw[e3] at e1 e2;rw[f3] at f1 f2;have hx:ak l' (A.take (2^j)):= .inr ⟨j,hj,e1⟩;have hy:ak l' (A.drop (2^j)):= .inr ⟨j,hj,e2⟩;have hu:ak l' (B.take (2^j)):= .inr ⟨j,hj,f1⟩;have hv:ak l' (B.drop (2^j)):= .inr ⟨j,hj,f2⟩;have hdl:(rt.getD j []).length=2^j:=hrt j (by omega);have hd:ak l' (rt.getD j []):= .inr ⟨j,hj,hdl⟩
 have low: ∀{p q:NQ},p.length≤2^j→q.length≤2^j→ak l' p→ak l' q→cf (R p q)=mulC rt j (cf p) (cf q):=fun {p q} hp hq h1 h2=>by
  rw[(hR p q h1 h2).2,cT rt (aN hp) (aN hq) hj]
 have Ryv:=hR _ _ hy hv;have c2:=low (p:=A.drop (2^j)) (q:=B.drop (2^j)) (by omega) (by omega) hy hv;have lyv:cy j (cf (R (A.drop (2^j)) (B.drop (2^j)))):=by rw[c2];exact aU rt j _ _
 have c1:=low (p:=A.take (2^j)) (q:=B.take (2^j)) (by omega) (by omega) hx hu;have c3:=low (p:=A.take (2^j)) (q:=B.drop (2^j)) (by omega) (by omega) hx hv;have c4:=low (p:=A.drop (2^j)) (q:=B.take (2^j)) (by omega) (by omega) hy hu
 have c5:cf (R (R (A.drop (2^j)) (B.drop (2^j))) (rt.getD j []))=mulC rt j (cf (R (A.drop (2^j)) (B.drop (2^j)))) (cf (rt.getD j [])):=by
  rw[(hR _ _ Ryv.1 hd).2,cT rt lyv (aN (by omega)) hj]
 refine⟨.inr ⟨j+1,by omega,by rw[dJ,Nat.pow_succ];omega⟩,?_⟩;rw[cT rt (j:=j+1) (aN (by omega)) (aN (by omega)) (by omega)]
 have lq:cy j (cf (aM (R (A.take (2^j)) (B.drop (2^j))) (R (A.drop (2^j)) (B.take (2^j))))):=fun i hi=>by
  rw[fi,c3,c4,aU rt j _ _ i hi,aU rt j _ _ i hi];exact Rat.add_zero _
 have cj: ∀{p q:NQ},cy j (cf q)→ ∀i,cf (c' p q (2^j)) i=if i<2^j then cf p i else cf q (i-2^j):=fun {p q} hq i=>by
  show (c' p q (2^j)).getD i 0=_;rw[mS];by_cases h:i<2^j
  · rw[if_pos h,if_pos h];rfl
  · rw[if_neg h,if_neg h];by_cases h2:i<2^j+2^j
    · rw[if_pos h2];rfl
    · rw[if_neg h2,hq _ (by omega)]
 funext i;rw[cj lq,fi,fi,c1,c5,c2,c3,c4,iT (a:=A) (2^j) rfl,iT (a:=B) (2^j) rfl,bw rt j (eL (a:=A) (2^j) rfl) (eL (a:=B) (2^j) rfl),bw rt j (eL (a:=A) (2^j) rfl) jA.rS,bw rt j jA.rS (eL (a:=B) (2^j) rfl)];rfl
theorem je: ∀(l:Nat) {rt:List NQ} {a b:NQ},ak l a→ak l b→cu rt→l≤rt.length→ak l (eJ l rt a b)∧cf (eJ l rt a b)=mulC rt l (cf a) (cf b)
 | 0,rt,a,b,ha,hb,hrt,hl=>by
   have:=ym (R:=fun _ _=>[]) (bg ha) (bg hb) hrt hl (fun l' h=>by omega);rw[bh ha,bh hb] at this;exact this
 | l+1,rt,a,b,ha,hb,hrt,hl=>by
   have:=ym (R:=eJ l rt) (bg ha) (bg hb) hrt hl (fun l' e a' b' h1 h2=>by
    obtain rfl:l=l':=by omega
    exact je l h1 h2 hrt (by omega))
   rw[bh ha,bh hb] at this;exact this
def eU(l:Nat)(rt:List NQ)(a:NQ):NQ :=
 aM (eJ l rt (a.take (a.length / 2)) (a.take (a.length / 2))) (aC (eJ l rt (eJ l rt (a.drop (a.length / 2)) (a.drop (a.length / 2))) (rt.getD (a.length.log2-1) [])))
def nk(R:NQ→Int)(N:NQ→NQ)(rt:List NQ)(a:NQ):Int :=
 if a.length=0 then 0 else if a.length=1 then jZ (a.getD 0 0) else
 if R (a.take (a.length / 2))=R (a.drop (a.length / 2))*R (rt.getD (a.length.log2-1) [])∨R (a.drop (a.length / 2))*R (rt.getD (a.length.log2-1) [])=0 then R (a.take (a.length / 2)) else
 if R (a.take (a.length / 2))=0 then R (a.drop (a.length / 2))*R (rt.getD (a.length.log2-1) []) else R (a.take (a.length / 2))*R (N a)
def lT:Nat→List NQ→NQ→Int
 | 0,rt,a=>nk (fun _=>0) (fun a=>a) rt (ai a)
 | l+1,rt,a=>nk (lT l rt) (eU l rt) rt (ai a)
def mE(rt:List NQ):Prop:= ∀j,j<rt.length→0≤aT rt j (cf (rt.getD j []))
theorem tf{l j:Nat}{rt:List NQ}{a:NQ}(hj:j≤l)(ha:a.length=2^(j+1))(hrt:cu rt)(hl:l<rt.length):ak l (eU l rt a)∧cf (eU l rt a)=bE rt j (cf a):=by
 obtain ⟨e1,e2,e3⟩:=a9 ha;have hx:ak l (a.take (a.length / 2)):= .inr ⟨j,hj,e1⟩;have hy:ak l (a.drop (a.length / 2)):= .inr ⟨j,hj,e2⟩;have hlog:a.length.log2-1=j:=by rw[ha,Nat.log2_two_pow];omega
 have hdl:(rt.getD j []).length=2^j:=hrt j (by omega);have hd:ak l (rt.getD j []):= .inr ⟨j,hj,hdl⟩;have r1:=je l hx hx hrt (by omega);have r2:=je l hy hy hrt (by omega);have r3:=je l r2.1 hd hrt (by omega);unfold eU;rw[hlog];refine⟨r1.1.plus r3.1.minus,?_⟩;unfold bE;funext i;rw[fi,ky,r1.2,r3.2,r2.2,cT rt (aN (by omega)) (aN (by omega)) hj,cT rt (aN (a:=a.drop (a.length / 2)) (by omega)) (aN (by omega)) hj,cT rt (aU rt j _ _) (aN (by omega)) hj,iT _ e3,bw rt j (eL _ e3) (eL _ e3)];exact Rat.sub_eq_add_neg _ _ |>.symm
theorem j8(rt:List NQ): ∀(l:Nat) (a:Cf),vv (aT rt l a)
 | 0,a=>fL _
 | l+1,a=>by
   unfold aT;split
   · exact j8 rt l _
   split
   · exact j8 rt l _
   split
   · exact j8 rt l _
   · exact kK (j8 rt l _) (j8 rt l _)
theorem fq: ∀(l:Nat) {rt:List NQ} {a:NQ},ak l a→cu rt→mE rt→l≤rt.length→lT l rt a=aT rt l (cf a)
 | 0,rt,a,ha,hrt,hp,hl=>by
   have hs:=bg ha;have hc:=bh ha;show nk (fun _=>0) (fun a=>a) rt (ai a)=jZ (cf a 0);rw[← hc];generalize ai a=s at hs;unfold nk;rcases hs with e | ⟨i,hi,e⟩
   · rw[if_pos e,List.length_eq_zero_iff.1 e];show 0=jZ 0;rw[De]
   · obtain rfl:i=0:=by omega
     have e:s.length=1:=e;rw[if_neg (by omega),if_pos e];rfl
 | l+1,rt,a,ha,hrt,hp,hl=>by
   have hs:=bg ha;have hc:=bh ha;show nk (lT l rt) (eU l rt) rt (ai a)=aT rt (l+1) (cf a);rw[← hc];generalize ai a=s at hs;clear hc ha;unfold nk;by_cases h0:s.length=0
   · rw[if_pos h0,List.length_eq_zero_iff.1 h0];exact(fK rt (l+1)).symm
   rw[if_neg h0];by_cases h1:s.length=1
   · rw[if_pos h1,bB rt (j:=0) (aN (by rw[h1];exact Nat.le_refl _)) (Nat.zero_le _)];rfl
   rw[if_neg h1]
   obtain ⟨j,hj,hsl⟩: ∃j,j≤l∧s.length=2^(j+1):=by
    rcases hs with e | ⟨i,hi,e⟩
    · exact absurd e h0
    · rcases i with _ | j
      · exact absurd e h1
      · exact⟨j,by omega,e⟩
   obtain ⟨e1,e2,e3⟩:=a9 hsl;have hx:ak l (s.take (s.length / 2)):= .inr ⟨j,hj,e1⟩;have hy:ak l (s.drop (s.length / 2)):= .inr ⟨j,hj,e2⟩;have hlog:s.length.log2-1=j:=by rw[hsl,Nat.log2_two_pow];omega
   have hdl:(rt.getD j []).length=2^j:=hrt j (by omega);have hd:ak l (rt.getD j []):= .inr ⟨j,hj,hdl⟩;have hn:=tf hj hsl hrt (by omega)
   have lowN:cy j (bE rt j (cf s)):=fun i hi=>by
    unfold bE;rw[aU rt j _ _ i hi,aU rt j _ _ i hi];exact Rat.sub_self
   have lh:cy j (bG j (cf s)):=fun i hi=>(aN (l:=j+1) (by omega)) _ (by rw[Nat.pow_succ];omega);have hpj:=hp j (by omega)
   rw[hlog,fq l hd hrt hp (by omega),fq l hx hrt hp (by omega),fq l hy hrt hp (by omega),fq l hn.1 hrt hp (by omega),hn.2,iT _ e3,
    bB rt (aN (a:=rt.getD j []) (by omega)) hj,bB rt (aN (a:=s.take (s.length / 2)) (by omega)) hj,bB rt lowN hj,kO rt j (eL _ e3),bB rt lh hj,bB rt (a:=cf s) (j:=j+1) (l:=l+1) (aN (by omega)) (by omega)]
   show _=if aT rt j (cf (rt.getD j []))=0 then aT rt j (cf s) else if aT rt j (cf s)=aT rt j (bG j (cf s))∨aT rt j (bG j (cf s))=0 then aT rt j (cf s) else
    if aT rt j (cf s)=0 then aT rt j (bG j (cf s)) else aT rt j (cf s)*aT rt j (bE rt j (cf s))
   have ht:=j8 rt j (cf (rt.getD j []));generalize aT rt j (cf (rt.getD j []))=D at hpj ht;unfold vv at ht;rcases ht with rfl | rfl | rfl
   · rw[if_pos rfl,Int.mul_zero,if_pos (.inr rfl)]
   · rw[Int.mul_one,if_neg (show ¬(1:Int)=0 by decide)]
   · omega
end Lift
namespace Lift
open Go Go.Proofs
structure jv (m:Nat) (v:List NQ):Prop where
 l5:v.length≤5
 ro:cu v
 sz:eT m v
 ps: ∀k,k<v.length→ ¬dG k (v.take k) (v.getD k [])<0
 m2:m≤1000000
 t: ∃m0,1≤m0∧m0≤m∧eT m0 v∧mQ v.length m0
theorem jv.m1{m:Nat}{v:List NQ}(V:jv m v):1≤m:=by
 obtain ⟨m0,h1,h2,_⟩:=V.t;omega
theorem jv.mono{m k:Nat}{v:List NQ}(V:jv m v)(h:m≤k)(hk:k≤1000000):jv k v:=by
 obtain ⟨m0,h1,h2,h3,h4⟩:=V.t;exact⟨V.l5,V.ro,V.sz.mono h,V.ps,hk,m0,h1,by omega,h3,h4⟩
theorem jv.of{m:Nat}{rt:List (List RD)}(T:CH m rt)(h:de rt=0):jv m (rt.map bp):=by
 have W:=Gw T h;exact⟨by rw[W.ln];exact W.l5,W.ro,W.sz,W.ps,T.m2,by rw[W.ln];exact W.t⟩
def dz(a:NQ):List RD:=a.map Qr
theorem yq(a:NQ):bp (dz a)=a:=by
 unfold bp dz;rw[List.map_map];have:(RD.val ∘ Qr)=id:=funext bK;rw[this,List.map_id]
theorem qb(a:NQ):dn (dz a)=ah a:=by
 show D.sl 3 ((a.map Qr).map RD.D)=D.sl 3 (List.map _ a);rw[List.map_map];rfl
theorem gb(a:NQ):(dz a).length=a.length:=List.length_map ..
theorem nQ{a:NQ}{k:Nat}(h:aj k a):wN k (dz a):=fun i hi=>by
 rw[gb] at hi;unfold dz;rw[List.getD_eq_getElem?_getD,List.getElem?_map,List.getElem?_eq_getElem hi];have:=h i;rw[List.getD_eq_getElem?_getD,List.getElem?_eq_getElem hi] at this;exact iL _ this
theorem lV{a:NQ}{l:Nat}(h:ak l a):bJ l (dz a)=0:=by
 unfold bJ;rw[gb]
 have h1: ¬(a.length≠0∧Aq l a.length=false):=fun hs=>by
  rcases h with e | ⟨i,hi,e⟩
  · exact hs.1 e
  · rw[e,xf,decide_eq_true hi] at hs;exact Bool.noConfusion hs.2
 have h2:jL (dz a)=true:=by
  unfold jL dz;rw[List.all_map,List.all_eq_true];exact fun q _=>zq q
 rw[if_neg h1,if_neg (by rw[h2];simp)]
def lE(v:List NQ):List (List RD):=v.map dz
theorem ga(v:List NQ):(lE v).length=v.length:=List.length_map ..
theorem oM(v:List NQ)(i:Nat):(lE v).getD i []=dz (v.getD i []):=by
 unfold lE;rw[List.getD_eq_getElem?_getD,List.getElem?_map,List.getD_eq_getElem?_getD];cases v[i]? with
 | none=>rfl
 | some x=>rfl
theorem Dp(v:List NQ):(lE v).map bp=v:=by
 unfold lE;rw[List.map_map];have:(bp ∘ dz)=id:=funext yq;rw[this,List.map_id]
theorem nP(v:List NQ):TrD (lE v)=bI v:=by
 show D.ag [.sl 1 ((v.map dz).map dn)]=D.ag [.sl 1 (v.map ah)];rw[List.map_map];have:(dn ∘ dz)=ah:=funext qb;rw[this]
theorem mu{f:Nat→Nat}: ∀{n i:Nat},(∀j,j<i+n→f j=0)→fE f n i=0
 | 0,i,h=>rfl
 | n+1,i,h=>by
   rw[fE,if_pos (h i (by omega))];exact mu (fun j hj=>h j (by omega))
theorem jv.raw{m:Nat}{v:List NQ}(V:jv m v):CH m (lE v)∧de (lE v)=0:=by
 have l5:=V.l5;have hp: ∀i,i<v.length→2^i≤2^5:=fun i hi=>Nat.pow_le_pow_right (by decide) (by omega);obtain ⟨m0,t1,t2,ts,tk⟩:=V.t
 refine⟨⟨⟨m0,t1,t2,fun i hi _=>by rw[oM];exact nQ (ts i),fun _=>by rw[ga];exact tk⟩,V.m2,by rw[ga];omega,fun i hi=>by
  rw[ga] at hi;rw[oM,gb,V.ro i hi];have:=hp i hi
  omega⟩,?_⟩
 unfold de;rw[ga,if_neg (by omega)];refine mu fun j hj=>?_;have hj:j<v.length:=by omega
 unfold uQ;rw[oM,gb,if_neg (fun h=>h (V.ro j hj)),if_neg (fun h=>h (lV (.inr ⟨j,Nat.le_refl _,V.ro j hj⟩))),yq,List.map_take,Dp,if_neg (V.ps j hj)]
theorem Fx{m:Nat}{v:List NQ}{a:NQ}(V:jv m v)(ha:ak v.length a)(sa:aj m a):ES m (lE v) (dz a):=⟨fun _=>nQ sa,by
 have l5:=V.l5;rw[gb]
 exact Nat.le_trans (ha.len (by omega)) (by decide)⟩
theorem ck1{m:Nat}{v:List NQ}{a:NQ}(V:jv m v)(ha:ak v.length a):pH (lE v) [dz a]=0:=by
 unfold pH;rw[if_neg (by rw[V.raw.2];simp)];refine mu fun j hj=>?_;have hj:j<0+1:=hj;obtain rfl:j=0:=by omega
 rw[ga];exact lV ha
theorem ck2{m:Nat}{v:List NQ}{a b:NQ}(V:jv m v)(ha:ak v.length a)(hb:ak v.length b):pH (lE v) [dz a,dz b]=0:=by
 unfold pH;rw[if_neg (by rw[V.raw.2];simp)];refine mu fun j hj=>?_;have hj:j<0+2:=hj;rw[ga]
 match j,hj with
 | 0,_=>exact lV ha
 | 1,_=>exact lV hb
def qn(a:NQ):NQ:=ai (aC a)
def CE(a b:NQ):NQ:=ai (aM a b)
def nL(a b:NQ):NQ:=ai (aM a (aC b))
def iD(v:List NQ)(a b:NQ):NQ:=ai (aS v.length v a b)
theorem FK{l k:Nat}{a:NQ}(ha:ak l a)(sa:aj k a):ak l (qn a)∧aj k (qn a):=aO ha.minus sa.minus
theorem Gn{l k j:Nat}{a b:NQ}(ha:ak l a)(sa:aj k a)(hb:ak l b)(sb:aj j b):ak l (CE a b)∧aj (k+j+1) (CE a b):=aO (ha.plus hb) (sa.plus sb)
theorem Fb{l k j:Nat}{a b:NQ}(ha:ak l a)(sa:aj k a)(hb:ak l b)(sb:aj j b):ak l (nL a b)∧aj (k+j+1) (nL a b):=aO (ha.plus hb.minus) (sa.plus sb.minus)
theorem jv.pos{m:Nat}{v:List NQ}(V:jv m v):mE v:=fun j hj=>by
 have h:=V.ps j hj
 have e: ∀i,i<j→(v.take j).getD i []=v.getD i []:=fun i hi=>by
  rw[List.getD_eq_getElem?_getD,List.getElem?_take_of_lt hi,List.getD_eq_getElem?_getD]
 have ro:cu (v.take j):=fun i hi=>by
  rw[List.length_take] at hi;rw[e i (by omega)];exact V.ro i (by omega)
 have lt:ak j (v.getD j []):= .inr ⟨j,Nat.le_refl _,V.ro j hj⟩;rw[dO j lt ro (by rw[List.length_take];omega)] at h
 have key: ∀(l:Nat) (a:Cf),l≤j→aT (v.take j) l a=aT v l a∧ ∀b:Cf,mulC (v.take j) l a b=mulC v l a b:=by
  intro l
  induction l with
  | zero=>exact fun a _=>⟨rfl,fun b=>rfl⟩
  | succ l ih =>
    intro a hl;have hm: ∀x y:Cf,mulC (v.take j) l x y=mulC v l x y:=fun x y=>(ih x (by omega)).2 y;have hs: ∀x:Cf,aT (v.take j) l x=aT v l x:=fun x=>(ih x (by omega)).1;refine⟨?_,fun b=>?_⟩
    · unfold aT bE;simp only[hm,hs,e l (by omega)]
    · funext i;show (if i<2^l then mulC (v.take j) l a b i+mulC (v.take j) l (mulC (v.take j) l (bG l a) (bG l b)) (cf ((v.take j).getD l [])) i else mulC (v.take j) l a (bG l b) (i-2^l)+mulC (v.take j) l (bG l a) b (i-2^l))=_;simp only[hm,e l (by omega)];rfl
 rw[(key j _ (Nat.le_refl _)).1] at h;omega
end Lift
namespace Lift
open Go Go.Proofs
def jT(R:NQ→NQ)(S:NQ→Int)(N:NQ→NQ)(T:NQ→NQ→NQ)(s:NQ):NQ :=
 if s.length=1 then [1 / s.getD 0 0] else
 if S (N s)=0 then R (aM (s.take (s.length / 2)) (s.take (s.length / 2))) else
 T (c' (s.take (s.length / 2)) (aC (s.drop (s.length / 2))) (s.length / 2)) (R (N s))
def hC:Nat→List NQ→NQ→NQ
 | 0,rt,a=>jT (fun _=>[]) (fun _=>0) (fun a=>a) (fun _ _=>[]) (ai a)
 | l+1,rt,a=>jT (hC l rt) (dG l rt) (ef l rt) (aS (l+1) rt) (ai a)
def Io(O:NQ→Prop)(R:NQ→NQ)(S:NQ→Int)(Sk:NQ→Prop)(N:NQ→NQ)(Nk:NQ→Prop)(Tk:NQ→NQ→Prop)(s:NQ):Prop:=s.length≠0∧(s.length≠1 →
 Nk s∧Sk (N s)∧(S (N s)=0→O (aM (s.take (s.length / 2)) (s.take (s.length / 2)))) ∧
 (S (N s)≠0→O (N s)∧Tk (c' (s.take (s.length / 2)) (aC (s.drop (s.length / 2))) (s.length / 2)) (R (N s))))
def FB:Nat→List NQ→NQ→Prop
 | 0,rt,a=>kC a∧(ai a).length≠0
 | l+1,rt,a=>kC a∧Io (FB l rt) (hC l rt) (dG l rt) (DE l rt) (ef l rt) (Hi l rt) (Cc (l+1) rt) (ai a)
theorem mK{l:Nat}{a:NQ}(ha:ak l a)(h:(ai a).length=1):(ai a).getD 0 0≠0:=(gT ha).one h
theorem Bx{l:Nat}{R:NQ→NQ}{S:NQ→Int}{N:NQ→NQ}{T:NQ→NQ→NQ}{s:NQ}(hs:ak l s)(h0:s.length≠0)
  (hR: ∀l',l=l'+1→ ∀b,ak l' b→ak l' (R b)) (hN: ∀l',l=l'+1→ ∀j,j≤l'→s.length=2^(j+1)→ak l' (N s)) (hT: ∀b c,ak l b→ak l c→ak l (T b c)):ak l (jT R S N T s):=by
 unfold jT;split
 · exact fB _ _
 rename_i h1
 obtain ⟨i,hi,hla2⟩: ∃i,i≤l∧s.length=2^i:=by
  rcases hs with e | e
  · omega
  · exact e
 have sH:i≠0:=fun e=>h1 (by rw[hla2,e]);obtain ⟨j,rfl⟩: ∃j,i=j+1:=⟨i-1,by omega⟩;obtain ⟨l',rfl⟩: ∃l',l=l'+1:=⟨l-1,by omega⟩;obtain ⟨e1,e2,e3⟩:=a9 hla2;have hx:ak l' (s.take (s.length / 2)):= .inr ⟨j,by omega,e1⟩;have hN:=hN l' rfl j (by omega) hla2;split
 · exact(hR l' rfl _ (hx.plus hx)).mono (by omega)
 · exact hT _ _ (.inr ⟨j+1,by omega,by rw[dJ,e3,Nat.pow_succ];omega⟩) ((hR l' rfl _ hN).mono (by omega))
theorem fj: ∀(l:Nat) {rt:List NQ} {a:NQ},ak l a→cu rt→l≤rt.length→ak l (hC l rt a)
 | 0,rt,a,ha,hrt,hl=>by
   have hs:=bg ha;show ak 0 (jT _ _ _ _ _);by_cases h0:(ai a).length=0
   · rw[List.length_eq_zero_iff.1 h0];exact bL _
   · exact Bx hs h0 (fun l' h=>by omega) (fun l' h=>by omega) (fun _ _ _ _=>bL _)
 | l+1,rt,a,ha,hrt,hl=>by
   have hs:=bg ha;show ak (l+1) (jT _ _ _ _ _);by_cases h0:(ai a).length=0
   · rw[List.length_eq_zero_iff.1 h0];unfold jT;rw[if_neg (by decide)];split
     · exact(fj l (bL _) hrt (by omega)).mono (by omega)
     · exact eS (l+1) (bL _) ((fj l (by
        obtain ⟨K,k1,_,k3⟩:=vz (ef l rt []) [] rt;unfold ef
        have t0: ∀c,ak l (aS l rt c []):=fun c=>by
         cases l with
         | zero=>show ak 0 (jx _ c []);unfold jx;rw[if_neg (show ¬c.length<([]:NQ).length from Nat.not_lt_zero _)];unfold iC;rw[if_pos (by show (ba c||true)=true;rw[Bool.or_true])];exact bL _
         | succ l=>show ak (l+1) (jx _ c []);unfold jx;rw[if_neg (show ¬c.length<([]:NQ).length from Nat.not_lt_zero _)];unfold iC;rw[if_pos (by show (ba c||true)=true;rw[Bool.or_true])];exact bL _
        have e:rt.getD (Nat.log2 ([]:NQ).length-1) []=rt.getD 0 []:=rfl;have hd:ak l (rt.getD 0 []):= .inr ⟨0,Nat.zero_le _,hrt 0 (by omega)⟩
        exact(t0 []).plus (eS l (t0 []) hd hrt (by omega)).minus) hrt (by omega)).mono (by omega)) hrt hl
   · exact Bx hs h0 (fun l' e b hb=>by
      obtain rfl:l=l':=by omega
      exact fj l hb hrt (by omega)) (fun l' e j h1 h2=>by
      obtain rfl:l=l':=by omega
      exact sE h1 h2 hrt (by omega)) (fun b c hb hc=>eS (l+1) hb hc hrt hl)
set_option maxHeartbeats 1600000 in
theorem yX{l:Nat}{O:NQ→Prop}{R:NQ→NQ}{S:NQ→Int}{Sk:NQ→Prop}{N:NQ→NQ}{Nk:NQ→Prop}{T:NQ→NQ→NQ}{Tk:NQ→NQ→Prop}{rt:List NQ}{a:NQ}(ha:ak l a)(hl5:l≤5)(hl:l≤rt.length)(hl10:rt.length≤10)(sa:kC a)(h0:(ai a).length≠0)
  (hok:l≠0→Io O R S Sk N Nk Tk (ai a))
  (hR: ∀l',l=l'+1→ ∀b,ak l' b→O b→Pure Tryz.prog 131 [bI rt,ah b] (ah (R b)))
  (hRl: ∀l',l=l'+1→ ∀b,ak l' b→ak l' (R b))
  (hS: ∀l',l=l'+1→ ∀b,ak l' b→Sk b→Pure Tryz.prog 64 [bI rt,ah b] (dI (S b)))
  (hN: ∀l',l=l'+1→ ∀b j,j≤l'→b.length=2^(j+1)→Nk b→Pure Tryz.prog 109 [bI rt,ah b] (ah (N b))∧ak l' (N b))
  (hT: ∀b c,ak l b→ak l c→Tk b c→Pure Tryz.prog 63 [bI rt,ah b,ah c] (ah (T b c))):
  Pure Tryz.prog 131 [bI rt,ah a] (ah (jT R S N T (ai a))):=by
 refine qJ 57 Tryz.func131 rfl rfl rfl rfl (by kernel_rfl) (fun B F0 w0=>?_);have cs:=cE a ha hl5 sa (by omega);have hone:=mK ha;obtain ⟨ha,sa⟩:=aO ha sa;generalize ai a=b at cs ha sa hok hone h0 ⊢;have hlb:=ha.len (by omega);unfold jT;refine qX 2 rfl ?_;refine qK 1 rfl ?_;refine ab.call tok rfl rfl rfl rfl cs ?_;refine qU 1 rfl ?_;refine qI ?_;refine qX 2 rfl ?_;rw[List.length_map];refine qU 1 rfl ?_;refine ab.nil ?_;by_cases h1:b.length=1
 · have g:=kW (r:=b) (i:=0) (by omega);have cq:=r8 (Qr 1) (Qr (b.getD 0 0)) (iL 1 (by have:=k9;omega)) (iL _ (sa 0)) (by omega) (by rw[bK];exact hone h1);rw[bK,bK] at cq;rw[if_pos h1,beq_iff_eq.2 (show (b.length:Int)=1 by omega)];refine AW.aF rfl ?_;refine AW.seq ?_;refine AW.my tok aL [(7,true),(1,false),(1,true)] 9 [5] (by kernel_rfl) ⟨rfl,?_⟩;refine ae.call tok rfl rfl rfl rfl rfl (gk 1 (by decide) (by decide)) ?_;refine qP 1 rfl ?_;refine ae.idx tok (Qr (b.getD 0 0)).D rfl rfl rfl rfl rfl (Int.le_refl _) g ?_;refine qP 1 rfl ?_;refine ae.call tok rfl rfl rfl rfl rfl cq ?_;refine qP 2 rfl ?_;refine ae.nil ⟨rfl,?_⟩;refine qP 1 rfl ?_;refine ae.nil ⟨rfl,?_⟩;refine qP 1 rfl ?_;refine ae.nil ⟨_,nH.cons (.bx rfl) (nH.nil),?_⟩;refine qU 1 rfl ?_;refine qK 1 rfl ?_;refine ab.fA tok rfl rfl rfl rfl rfl ?_;refine qU 1 rfl ?_;exact qN rfl
 rw[if_neg h1,beq_eq_false_iff_ne.2 (show (b.length:Int)≠1 by omega)];refine AW.ar rfl ?_;refine AW.skip ?_
 obtain ⟨i,hi,hla2⟩: ∃i,i≤l∧b.length=2^i:=by
  rcases ha with e | e
  · omega
  · exact e
 have sH:i≠0:=fun e=>h1 (by rw[hla2,e]);obtain ⟨j,rfl⟩: ∃j,i=j+1:=⟨i-1,by omega⟩;obtain ⟨l',rfl⟩: ∃l',l=l'+1:=⟨l-1,by omega⟩;have hj:j≤l':=by omega
 obtain ⟨_,o1⟩:=hok (by omega);obtain ⟨oN,oS,oz,oi⟩:=o1 h1;have hN:=hN l' rfl b j hj hla2 oN;have hS:=hS l' rfl _ hN.2 oS;obtain ⟨e1,e2,e3⟩:=a9 hla2;obtain ⟨n,hn⟩: ∃n,n=b.length / 2:=⟨_,rfl⟩;rw[← hn] at e1 e2 e3 oz oi ⊢
 have hn2:b.length=n+n:=by
  have:2^(j+1)=2^j*2:=Nat.pow_succ ..;omega
 have hx:ak l' (b.take n):= .inr ⟨j,hj,e1⟩;have hy:ak l' (b.drop n):= .inr ⟨j,hj,e2⟩;refine qX 2 rfl ?_;rw[List.length_map];refine ab.div tok rfl rfl rfl rfl (by decide) ?_;rw[fV _ (by omega),← hn];refine qU 1 rfl ?_;refine qK 2 rfl ?_;refine ab.call tok rfl rfl rfl rfl hN.1 ?_;refine qU 1 rfl ?_;refine qI ?_;refine qX 2 rfl ?_;refine ab.call tok rfl rfl rfl rfl hS ?_;refine qU 1 rfl ?_;refine ab.nil ?_;by_cases hz:S (N b)=0
 · have ci:=hR l' rfl _ (hx.plus hx) (oz hz);have cp:=eA (b.take n) (b.take n) (sa.take n) (sa.take n) (by omega) (by rw[e1];omega) (by rw[e1];omega);rw[if_pos hz,beq_iff_eq.2 hz];refine AW.aF rfl ?_;refine AW.seq ?_;refine AW.draw aL 9 (by kernel_rfl) ?_;refine qP 3 rfl ?_;refine ae.fp tok (a:=b) (b.take n) rfl rfl rfl rfl rfl trivial (Int.natCast_nonneg n) (Nat.zero_le _) (show n≤b.length by omega) rfl ?_;refine qP 2 rfl ?_;refine ae.fp tok (a:=b) (b.take n) rfl rfl rfl rfl rfl trivial (Int.natCast_nonneg n) (Nat.zero_le _) (show n≤b.length by omega) rfl ?_;refine ae.call tok rfl rfl rfl rfl rfl cp ?_;refine ae.call tok rfl rfl rfl rfl rfl ci ?_;refine ae.nil ?_;refine qU 1 rfl ?_;exact qN rfl
 obtain ⟨o2,o3⟩:=oi hz;have ci:=hR l' rfl _ hN.2 o2;have cm:=eQ (b.drop n) (sa.drop n) (by omega) (by rw[e2];omega);have cj:=jQ (b.take n) (aC (b.drop n)) n (by omega);have ct:=hT _ _ (.inr ⟨j+1,by omega,by rw[dJ,e3,Nat.pow_succ];omega⟩) ((hRl l' rfl _ hN.2).mono (by omega)) o3;rw[if_neg hz,beq_eq_false_iff_ne.2 hz];refine AW.ar rfl ?_;refine AW.skip (AW.seq ?_);refine AW.draw aL 14 (by kernel_rfl) ?_;refine qP 3 rfl ?_;refine ae.fp tok (a:=b) (b.take n) rfl rfl rfl rfl rfl trivial (Int.natCast_nonneg n) (Nat.zero_le _) (show n≤b.length by omega) rfl ?_;refine qP 2 rfl ?_;refine ae.fp tok (a:=b) (b.drop n) rfl rfl rfl rfl rfl (Int.natCast_nonneg n) trivial (show n≤b.length by omega) (Nat.le_refl _) (by show (b.take b.length).drop n=_;rw[List.take_length]) ?_;refine ae.call tok rfl rfl rfl rfl rfl cm ?_;refine qP 1 rfl ?_;refine ae.call tok rfl rfl rfl rfl rfl cj ?_;refine qP 2 rfl ?_;refine ae.call tok rfl rfl rfl rfl rfl ci ?_;refine ae.call tok rfl rfl rfl rfl rfl ct ?_;refine ae.nil ?_;refine qU 1 rfl ?_;exact qN rfl
theorem FB.sz{l:Nat}{rt:List NQ}{a:NQ}(h:FB l rt a):kC a:=by
 cases l with
 | zero=>exact h.1
 | succ l=>exact h.1
theorem FB.ne{l:Nat}{rt:List NQ}{a:NQ}(h:FB l rt a):(ai a).length≠0:=by
 cases l with
 | zero=>exact h.2
 | succ l=>exact h.2.1
theorem jC: ∀(l:Nat) {rt:List NQ} {a:NQ},ak l a→l≤5→cu rt→l≤rt.length→rt.length≤10→FB l rt a→Pure Tryz.prog 131 [bI rt,ah a] (ah (hC l rt a))
 | 0,rt,a,ha,hl5,hrt,hl,hl10,hok=>yX (O:=fun _=>True) (Sk:=fun _=>True) (Nk:=fun _=>True) (Tk:=fun _ _=>False) ha hl5 hl hl10 hok.1 hok.2 (fun h=>absurd rfl h) (fun l' h=>by omega) (fun l' h=>by omega) (fun l' h=>by omega) (fun l' h=>by omega) (fun _ _ _ _ h=>h.elim)
 | l+1,rt,a,ha,hl5,hrt,hl,hl10,hok=>yX (O:=FB l rt) (Sk:=DE l rt) (Nk:=Hi l rt) (Tk:=Cc (l+1) rt) ha hl5 hl hl10 hok.1 hok.2.1 (fun _=>hok.2) (fun l' e b h1 h2=>by
    obtain rfl:l=l':=by omega
    exact jC l h1 (by omega) hrt (by omega) hl10 h2) (fun l' e b h1=>by
    obtain rfl:l=l':=by omega
    exact fj l h1 hrt (by omega)) (fun l' e b h1 h2=>by
    obtain rfl:l=l':=by omega
    exact dE l h1 (by omega) hrt (by omega) hl10 h2) (fun l' e b j h1 h2 h3=>by
    obtain rfl:l=l':=by omega
    exact⟨lI h1 h2 hrt (by omega) hl10 h3,sE h1 h2 hrt (by omega)⟩) (fun b c h1 h2 h3=>bV (l+1) h1 h2 hrt hl hl10 h3)
end Lift
namespace Lift
open Go Go.Proofs
def mC(v:List NQ):Prop:= ∃m,jv m v
theorem jv.a{m:Nat}{v:List NQ}(V:jv m v):mC v:=⟨m,V⟩
theorem mC.l5{v:List NQ}(V:mC v):v.length≤5:=V.elim fun _ V=>V.l5
theorem mC.ro{v:List NQ}(V:mC v):cu v:=V.elim fun _ V=>V.ro
theorem mC.pos{v:List NQ}(V:mC v):mE v:=V.elim fun _ V=>V.pos
def r9(v:List NQ)(a b:NQ):NQ:=ai (aS v.length v a (hC v.length v b))
def lD(v:List NQ)(a:NQ):Int:=dG v.length v a
def tK(v:List NQ)(a b:NQ):Prop:=kC a∧kC b∧Cc v.length v a b∧kC (aS v.length v a b)
def Bq(a b:NQ):Prop:=kC a∧kC b∧kC (aM a b)
def Dz(a b:NQ):Prop:=kC a∧kC b∧kC (aM a (aC b))
def DF(v:List NQ)(a b:NQ):Prop:=kC a∧kC b∧DE v.length v b∧lD v b≠0∧FB v.length v b∧Cc v.length v a (hC v.length v b)∧kC (aS v.length v a (hC v.length v b))
def yH(v:List NQ)(a:NQ):Prop:=DE v.length v a
theorem yH.sz{v:List NQ}{a:NQ}(h:yH v a):kC a:=DE.sz h
theorem BM{v:List NQ}(V:mC v)(l:List NQ)(hl:l.length≤1000000)(h: ∀i,i<l.length→ak v.length (l.getD i [])∧kC (l.getD i [])):Pure Tryz.prog 61 [bI v,.sl 1 (l.map ah)] aI:=by
 obtain ⟨m,V⟩:=V;obtain ⟨m0,t1,t2,tw,tk⟩:=V.raw.1.t;have l5:=V.l5
 have g: ∀i,(l.map dz).getD i []=dz (l.getD i []):=fun i=>by
  rw[List.getD_eq_getElem?_getD,List.getElem?_map,List.getD_eq_getElem?_getD];cases l[i]? with
  | none=>rfl
  | some x=>rfl
 have c:=lu (lE v) (l.map dz) (mn:=17300000000000) tw t1 V.raw.1.l V.raw.1.ll tk (fun i hi=>by
  rw[List.length_map] at hi;rw[g];exact fun _=>nQ (h i hi).2) (by rw[List.length_map];exact hl) (fun i hi=>by
  rw[List.length_map] at hi
  rw[g,gb];exact Nat.le_trans ((h i hi).1.len (by omega)) (by decide)) (by omega)
 have e:pH (lE v) (l.map dz)=0:=by
  unfold pH;rw[if_neg (by rw[V.raw.2];simp)];refine mu fun j hj=>?_;rw[List.length_map] at hj;rw[ga,g];exact lV (h j (by omega)).1
 rw[e,nP,List.map_map,show (dn ∘ dz)=ah from funext qb] at c;exact c
theorem zk{v:List NQ}{a:NQ}(V:mC v)(ha:ak v.length a)(sa:kC a):Pure Tryz.prog 61 [bI v,.sl 1 [ah a]] aI :=
 BM V [a] (show 1≤1000000 by decide) (fun i hi=>by
  have:i<1:=hi;obtain rfl:i=0:=by omega
  exact⟨ha,sa⟩)
theorem pI{v:List NQ}{a b:NQ}(V:mC v)(ha:ak v.length a)(sa:kC a)(hb:ak v.length b)(sb:kC b):Pure Tryz.prog 61 [bI v,.sl 1 [ah a,ah b]] aI :=
 BM V [a,b] (show 2≤1000000 by decide) (fun i hi=>by
  have:i<2:=hi
  match i,this with
  | 0,_=>exact⟨ha,sa⟩
  | 1,_=>exact⟨hb,sb⟩)
theorem sY{v:List NQ}{a:NQ}(V:mC v)(ha:ak v.length a)(sa:kC a):Pure Tryz.prog 91 [bI v,ah a] (.tu [ah (qn a),aI]):=by
 refine qJ 17 Tryz.func91 rfl rfl rfl rfl (by kernel_rfl) (fun B0 F0 w0=>?_);have hl5:=V.l5;have hro:=V.ro;have cc:=zk V ha sa;have c1:=eQ a sa (by omega) (Nat.le_trans (ha.len (by omega)) (by decide));have c2:=cE (aC a) ha.minus hl5 sa.minus (by omega);refine qX 3 rfl ?_;refine qI ?_;refine qX 2 rfl ?_;refine ab.fA tok rfl rfl rfl rfl rfl ?_;refine ab.call tok rfl rfl rfl rfl cc ?_;refine qU 1 rfl ?_;refine qK 1 rfl ?_;refine ab.err tok rfl rfl rfl rfl rfl ?_;refine ab.nil ?_;refine AW.ar rfl ?_
 · refine AW.skip ?_;refine qX 1 rfl ?_;refine ab.call tok rfl rfl rfl rfl c1 ?_;refine ab.call tok rfl rfl rfl rfl c2 ?_;refine qU 2 rfl ?_;exact qN rfl
theorem zL{v:List NQ}{a:NQ}{b:NQ}(V:mC v)(ha:ak v.length a)(hb:ak v.length b)(ok:Dz a b):Pure Tryz.prog 132 [bI v,ah a,ah b] (.tu [ah (nL a b),aI]):=by
 refine qJ 22 Tryz.func132 rfl rfl rfl rfl (by kernel_rfl) (fun B0 F0 w0=>?_);have hl5:=V.l5;have hro:=V.ro;obtain ⟨sa,sb,sc⟩:=ok;have cc:=pI V ha sa hb sb;have c0:=eQ b sb (by omega) (Nat.le_trans (hb.len (by omega)) (by decide));have c1:=eA a (aC b) sa sb.minus (by omega) (Nat.le_trans (ha.len (by omega)) (by decide)) (Nat.le_trans (hb.minus.len (by omega)) (by decide));have c2:=cE (aM a (aC b)) (ha.plus hb.minus) hl5 sc (by omega);refine qX 3 rfl ?_;refine qI ?_;refine qX 3 rfl ?_;refine ab.fA tok rfl rfl rfl rfl rfl ?_;refine ab.call tok rfl rfl rfl rfl cc ?_;refine qU 1 rfl ?_;refine qK 1 rfl ?_;refine ab.err tok rfl rfl rfl rfl rfl ?_;refine ab.nil ?_;refine AW.ar rfl ?_
 · refine AW.skip ?_;refine qX 2 rfl ?_;refine ab.call tok rfl rfl rfl rfl c0 ?_;refine ab.call tok rfl rfl rfl rfl c1 ?_;refine ab.call tok rfl rfl rfl rfl c2 ?_;refine qU 2 rfl ?_;exact qN rfl
theorem sZ{v:List NQ}{a:NQ}{b:NQ}(V:mC v)(ha:ak v.length a)(hb:ak v.length b)(ok:tK v a b):Pure Tryz.prog 28 [bI v,ah a,ah b] (.tu [ah (iD v a b),aI]):=by
 refine qJ 22 Tryz.func28 rfl rfl rfl rfl (by kernel_rfl) (fun B0 F0 w0=>?_);have hl5:=V.l5;have hro:=V.ro;obtain ⟨sa,sb,st,sc⟩:=ok;have cc:=pI V ha sa hb sb;have c1:=bV v.length ha hb hro (Nat.le_refl _) (by omega) st;have c2:=cE _ (eS v.length ha hb hro (Nat.le_refl _)) hl5 sc (by omega);refine qX 3 rfl ?_;refine qI ?_;refine qX 3 rfl ?_;refine ab.fA tok rfl rfl rfl rfl rfl ?_;refine ab.call tok rfl rfl rfl rfl cc ?_;refine qU 1 rfl ?_;refine qK 1 rfl ?_;refine ab.err tok rfl rfl rfl rfl rfl ?_;refine ab.nil ?_;refine AW.ar rfl ?_
 · refine AW.skip ?_;refine qX 3 rfl ?_;refine ab.call tok rfl rfl rfl rfl c1 ?_;refine ab.call tok rfl rfl rfl rfl c2 ?_;refine qU 2 rfl ?_;exact qN rfl
theorem zM{v:List NQ}{a:NQ}{b:NQ}(V:mC v)(ha:ak v.length a)(hb:ak v.length b)(ok:DF v a b):Pure Tryz.prog 89 [bI v,ah a,ah b] (.tu [ah (r9 v a b),aI]):=by
 refine qJ 29 Tryz.func89 rfl rfl rfl rfl (by kernel_rfl) (fun B0 F0 w0=>?_);have hl5:=V.l5;have hro:=V.ro;obtain ⟨sa,sb,sg,s0,si,st,sc⟩:=ok;have cc:=pI V ha sa hb sb;have hi:=fj v.length hb hro (Nat.le_refl _);have c0:=dE v.length hb hl5 hro (Nat.le_refl _) (by omega) sg;have c1:=jC v.length hb hl5 hro (Nat.le_refl _) (by omega) si;have c2:=bV v.length ha hi hro (Nat.le_refl _) (by omega) st;have c3:=cE _ (eS v.length ha hi hro (Nat.le_refl _)) hl5 sc (by omega);change dG v.length v b≠0 at s0;unfold r9;generalize dG v.length v b=z at c0 s0;refine qX 3 rfl ?_;refine qI ?_;refine qX 3 rfl ?_;refine ab.fA tok rfl rfl rfl rfl rfl ?_;refine ab.call tok rfl rfl rfl rfl cc ?_;refine qU 1 rfl ?_;refine qK 1 rfl ?_;refine ab.err tok rfl rfl rfl rfl rfl ?_;refine ab.nil ?_;refine AW.ar rfl ?_
 · refine AW.skip (AW.seq ?_);refine qX 2 rfl ?_;refine ab.call tok rfl rfl rfl rfl c0 ?_;refine qU 1 rfl ?_;refine ab.nil ?_;rw[beq_eq_false_iff_ne.2 s0];refine AW.ar rfl ?_
   · refine AW.skip (AW.seq ?_);refine AW.draw aL 7 (by kernel_rfl) ?_;refine qP 4 rfl ?_;refine ae.call tok rfl rfl rfl rfl rfl c1 ?_;refine ae.call tok rfl rfl rfl rfl rfl c2 ?_;refine ae.call tok rfl rfl rfl rfl rfl c3 ?_;refine ae.nil ?_;refine qU 2 rfl ?_;exact qN rfl
theorem xU{v:List NQ}{a:NQ}(V:mC v)(ha:ak v.length a)(ok:yH v a):Pure Tryz.prog 29 [bI v,ah a] (.tu [dI (lD v a),aI]):=by
 refine qJ 17 Tryz.func29 rfl rfl rfl rfl (by kernel_rfl) (fun B0 F0 w0=>?_);have hl5:=V.l5;have hro:=V.ro;have cc:=zk V ha ok.sz;have c1:=dE v.length ha hl5 hro (Nat.le_refl _) (by omega) ok;refine qX 3 rfl ?_;refine qI ?_;refine qX 2 rfl ?_;refine ab.fA tok rfl rfl rfl rfl rfl ?_;refine ab.call tok rfl rfl rfl rfl cc ?_;refine qU 1 rfl ?_;refine qK 1 rfl ?_;refine ab.err tok rfl rfl rfl rfl rfl ?_;refine ab.nil ?_;refine AW.ar rfl ?_
 · refine AW.skip ?_;refine qX 2 rfl ?_;refine ab.call tok rfl rfl rfl rfl c1 ?_;refine qU 2 rfl ?_;exact qN rfl
end Lift
namespace Lift
theorem zY(x:Rat)(h:0<x):jZ x=1:=by
 have:=oJ.2 h;rcases fL x with e | e | e<;>omega
theorem He(x:Rat)(h:x<0):jZ x= -1:=by
 have:=wF.2 h;rcases fL x with e | e | e<;>omega
theorem B5(x y:Rat):jZ (x*y)=jZ x*jZ y:=by
 have key: ∀{x y:Rat},0<x→jZ (x*y)=jZ y:=fun {x y} hx=>by
  rcases fL y with e | e | e
  · rw[gV.1 e,Rat.mul_zero]
  · have h:=Rat.mul_pos hx (oJ.1 (show 0<jZ y by omega));rw[e,zY _ h]
  · have h:=Rat.mul_pos hx (show 0< -y from by have:=wF.1 (show jZ y<0 by omega);grind);rw[e,He]
    grind
 rcases fL x with e | e | e
 · rw[gV.1 e,Rat.zero_mul,gV.2 rfl,Int.zero_mul]
 · rw[e,Int.one_mul];exact key (oJ.1 (by omega))
 · have hx:0< -x:=by have:=wF.1 (show jZ x<0 by omega);grind
   have h:=key (y:=y) hx;have h2:=s9 (x*y);rw[show -(x*y)= -x*y by grind,h] at h2;rw[e];omega
def oZ:Cf:=fun i=>if i=0 then 1 else 0
def Ih:OR where
 T:=Rat
 add:=(· + ·)
 mul:=(· * ·)
 neg:=(- ·)
 z:=0
 o:=1
 ac:=Rat.add_comm
 aa:=Rat.add_assoc
 az:=Rat.add_zero
 an:=Rat.add_neg_cancel
 mc:=Rat.mul_comm
 ma:=Rat.mul_assoc
 mo:=Rat.mul_one
 md:=Rat.mul_add
 sgn:=jZ
 s3 x:=by rcases fL x with h | h | h<;>omega
 sn:=s9
 sm:=B5
 sp x y hx hy:=by
  have h1:=oJ.1 (show 0<jZ x by omega);have h2:=oJ.1 (show 0<jZ y by omega);exact zY _ (by grind)
 s0 x y hx:=by
  rw[gV.1 hx];show jZ (0+y)=jZ y;rw[Rat.zero_add]
 s1:=zY 1 (by decide)
theorem Dq(x:Rat)(h:x≠0):jZ (x*x⁻¹ + -1)=0:=by
 rw[Rat.mul_inv_cancel _ h];exact gV.2 (Rat.add_neg_cancel 1)
theorem Dr:Ih.Inv:=fun x hx=>⟨_,Dq x (fun e=>hx (gV.2 e))⟩
structure H0 (v:List NQ) (l:Nat) where
 R:OR
 of:Cf→R.T
 inv:R.Inv
 add: ∀a b:Cf,of (fun i=>a i+b i)=of a+of b
 neg: ∀a:Cf,of (fun i=> -a i)= -of a
 mul: ∀a b:Cf,of (mulC v l a b)=of a*of b
 one:of oZ=1
 zero:of zC=0
 sgn: ∀a:Cf,R.sgn (of a)=aT v l a
 inj: ∀a b:Cf,of a=of b→jA l a b
 cong: ∀a b:Cf,jA l a b→of a=of b
theorem H0.sub{v:List NQ}{l:Nat}(T:H0 v l)(a b:Cf):T.of (fun i=>a i-b i)=T.of a-T.of b:=by
 rw[Rg.sub_def,← T.neg,← T.add]
 congr 1
 funext i;exact Rat.sub_eq_add_neg ..
def Ja(v:List NQ):H0 v 0 where
 R:=Ih
 of a:=a 0
 inv:=Dr
 add _ _:=rfl
 neg _:=rfl
 mul a b:=by
  show (if (0:Nat)=0 then a 0*b 0 else 0)=_;rw[if_pos rfl];rfl
 one:=rfl
 zero:=rfl
 sgn _:=rfl
 inj a b h i hi:=by
  obtain rfl:i=0:=by have:i<1:=hi;omega
  exact h
 cong a b h:=h 0 (by decide)
theorem D5(l:Nat):bG l zC=zC:=rfl
theorem F3(l:Nat):bG l oZ=zC:=funext fun i=>by
 have hp:0<2^l:=Nat.pow_pos (by decide);show (if 2^l+i=0 then (1:Rat) else 0)=0;rw[if_neg (by omega)]
def G3{v:List NQ}{l:Nat}(T:H0 v l)(hd:0≤aT v l (cf (v.getD l []))):H0 v (l+1) where
 R:=T.R.ext (T.of (cf (v.getD l []))) (by rw[T.sgn];exact hd)
 of a:=(T.of a,T.of (bG l a))
 inv:=OR.F8 T.inv _
 add a b:=Prod.ext (T.add a b) (T.add (bG l a) (bG l b))
 neg a:=Prod.ext (T.neg a) (T.neg (bG l a))
 mul a b:=by
  refine Prod.ext ?_ ?_
  · show T.of (mulC v (l+1) a b)=T.of a*T.of b+T.of (bG l a)*T.of (bG l b)*T.of (cf (v.getD l []));rw[← T.mul,← T.mul,← T.mul,← T.add];refine T.cong _ _ fun i hi=>?_;show (if i<2^l then _ else _)=_;rw[if_pos hi]
  · show T.of (bG l (mulC v (l+1) a b))=T.of a*T.of (bG l b)+T.of (bG l a)*T.of b;rw[← T.mul,← T.mul,← T.add];refine T.cong _ _ fun i hi=>?_;show (if 2^l+i<2^l then _ else _)=_;rw[if_neg (by omega),Nat.add_sub_cancel_left]
 one:=Prod.ext T.one (by show T.of (bG l oZ)=0;rw[F3,T.zero])
 zero:=Prod.ext T.zero (by show T.of (bG l zC)=0;rw[D5,T.zero])
 sgn a:=by
  show OR.es T.R (T.of (cf (v.getD l []))) (T.of a,T.of (bG l a))=aT v (l+1) a;unfold OR.es aT;simp only[];rw[T.sgn,T.sgn,T.sgn,← T.mul,← T.mul,← T.mul,← T.sub,T.sgn];rfl
 inj a b h i hi:=by
  have h1:=T.inj _ _ (congrArg Prod.fst h);have h2:=T.inj _ _ (congrArg Prod.snd h);by_cases c:i<2^l
  · exact h1 i c
  · rw[Nat.pow_succ] at hi;have:=h2 (i-2^l) (by omega);have:a (2^l+(i-2^l))=b (2^l+(i-2^l)):=this
    rwa [show 2^l+(i-2^l)=i by omega] at this
 cong a b h:=Prod.ext (T.cong _ _ h.down) (T.cong _ _ h.hi)
theorem HV{v:List NQ}(hp:mE v): ∀l,l≤v.length→Nonempty (H0 v l)
 | 0,_=>⟨Ja v⟩
 | l+1,hl=>by
   obtain ⟨T⟩:=HV hp l (by omega);exact⟨G3 T (hp l (by omega))⟩
theorem yF(l:Nat):cy l oZ:=fun i hi=>by
 have hp:0<2^l:=Nat.pow_pos (by decide);exact if_neg (by omega)
def m4(a b:Cf):Cf:=fun i=>a i-b i
theorem cy.sub{l:Nat}{a b:Cf}(ha:cy l a)(hb:cy l b):cy l (m4 a b):=fun i hi=>by
 show a i-b i=0;rw[ha i hi,hb i hi];exact Rat.sub_self
theorem Ht{v:List NQ}(hrt:cu v)(hp:mE v): ∀(l:Nat) {a:NQ},ak l a→l≤v.length→aT v l (cf a)≠0→aT v l (m4 (mulC v l (cf a) (cf (hC l v a))) oZ)=0:=by
 have one: ∀(l:Nat) (s:NQ),l≤v.length→s.length=1→s.getD 0 0≠0→aT v l (m4 (mulC v l (cf s) (cf [1 / s.getD 0 0])) oZ)=0:=fun l s hl h1 h0=>by
  have e:mulC v l (cf s) (cf [1 / s.getD 0 0])=oZ:=by
   rw[cT v (aN (a:=s) (l:=0) (by rw[h1];exact Nat.le_refl _)) (aN (a:=[1 / s.getD 0 0]) (l:=0) (by exact Nat.le_refl _)) (Nat.zero_le l)];funext i;show (if i=0 then s.getD 0 0*(1 / s.getD 0 0) else 0)=if i=0 then 1 else 0
   split
   · rw[Rat.div_def,Rat.one_mul,Rat.mul_inv_cancel _ h0]
   · rfl
  rw[e,show m4 oZ oZ=zC from funext fun i=>Rat.sub_self];exact fK v l
 intro l
 induction l with
 | zero =>
   intro a ha hl h;have hs:=bg ha;have hc:=bh ha;have ho:=mK ha;show aT v 0 (m4 (mulC v 0 (cf a) (cf (jT _ _ _ _ (ai a)))) oZ)=0;rw[← hc] at h ⊢;generalize ai a=s at *;rcases hs with e | ⟨i,hi,e⟩
   · rw[List.length_eq_zero_iff.1 e] at h;exact absurd (fK v 0) h
   · obtain rfl:i=0:=by omega
     unfold jT;rw[if_pos e];exact one 0 s (Nat.zero_le _) e (ho e)
 | succ l ih =>
   intro a ha hl h;have hs:=bg ha;have hc:=bh ha;have ho:=mK ha;show aT v (l+1) (m4 (mulC v (l+1) (cf a) (cf (jT (hC l v) (dG l v) (ef l v) (aS (l+1) v) (ai a)))) oZ)=0;rw[← hc] at h ⊢;generalize ai a=s at *;by_cases h0:s.length=0
   · rw[List.length_eq_zero_iff.1 h0] at h;exact absurd (fK v (l+1)) h
   unfold jT;by_cases h1:s.length=1
   · rw[if_pos h1];exact one (l+1) s hl h1 (ho h1)
   rw[if_neg h1]
   obtain ⟨j,hj,hsl⟩: ∃j,j≤l∧s.length=2^(j+1):=by
    rcases hs with e | ⟨i,hi,e⟩
    · exact absurd e h0
    · rcases i with _ | j
      · exact absurd e h1
      · exact⟨j,by omega,e⟩
   obtain ⟨e1,e2,e3⟩:=a9 hsl;have hx:ak l (s.take (s.length / 2)):= .inr ⟨j,hj,e1⟩;have hy:ak l (s.drop (s.length / 2)):= .inr ⟨j,hj,e2⟩;have hn:=jM hj hsl hrt (by omega);have ex:jA j (cf (s.take (s.length / 2))) (cf s):=eL _ e3;have ey:cf (s.drop (s.length / 2))=bG j (cf s):=iT _ e3
   have lowN:cy j (bE v j (cf s)):=fun i hi=>by
    unfold bE;rw[aU v j _ _ i hi,aU v j _ _ i hi];exact Rat.sub_self
   have ls:cy (j+1) (cf s):=aN (by omega);have lx:cy j (cf (s.take (s.length / 2))):=aN (by omega);obtain ⟨Tj⟩:=HV hp j (by omega);have hdj:=hp j (by omega)
   let T:=G3 Tj hdj
   obtain ⟨Tl⟩:=HV hp l (by omega);obtain ⟨TL⟩:=HV hp (l+1) hl;rw[dO l hn.1 hrt (by omega),hn.2,bB v lowN hj];rw[bB v ls (by omega)] at h
   have hT:Tj.R.sgn (OR.nr (Tj.of (cf (v.getD j []))) (T.of (cf s)))=aT v j (bE v j (cf s)):=by
    rw[← Tj.sgn]
    congr 1
    show Tj.of (cf s)*Tj.of (cf s) -Tj.of (bG j (cf s))*Tj.of (bG j (cf s))*Tj.of (cf (v.getD j []))=Tj.of (bE v j (cf s));rw[← Tj.mul,← Tj.mul,← Tj.mul,← Tj.sub];rfl
   by_cases hN:aT v j (bE v j (cf s))=0
   · rw[if_pos hN];have hxx:ak l (aM (s.take (s.length / 2)) (s.take (s.length / 2))):=hx.plus hx;have cxx:cf (aM (s.take (s.length / 2)) (s.take (s.length / 2)))=fun i=>cf (s.take (s.length / 2)) i+cf (s.take (s.length / 2)) i:=funext fun i=>fi _ _ i
     have lxx:cy j (cf (aM (s.take (s.length / 2)) (s.take (s.length / 2)))):=by
      rw[cxx];exact fun i hi=>by
       show _+_=(0:Rat);rw[lx i hi];exact Rat.add_zero 0
     have F:T.R.sgn (-Tj.of (cf s),Tj.of (bG j (cf s)))=0∧Tj.R.sgn (Tj.of (cf s)+Tj.of (cf s))≠0:=by
      have hes:T.R.sgn (T.of (cf s))≠0:=by rw[T.sgn];exact h
      exact OR.Er (R:=Tj.R) (d:=Tj.of (cf (v.getD j []))) (by rw[Tj.sgn];exact hdj) hes (by
       have h5:=hT;rw[hN] at h5;exact h5)
     have hr:=ih hxx (by omega) (by
      rw[bB v lxx hj,← Tj.sgn,cxx,Tj.add,Tj.cong _ _ ex]
      exact F.2)
     obtain ⟨r,hrr⟩: ∃r,hC l v (aM (s.take (s.length / 2)) (s.take (s.length / 2)))=r:=⟨_,rfl⟩;have hrl:ak l r:=by rw[← hrr];exact fj l hxx hrt (by omega)
     rw[hrr] at hr ⊢
     have g1:aT v (l+1) (m4 (cf s) (cf (aM (s.take (s.length / 2)) (s.take (s.length / 2)))))=0:=by
      rw[bB v (ls.sub (lxx.mono (by omega))) (by omega),← T.sgn]
      have:T.of (m4 (cf s) (cf (aM (s.take (s.length / 2)) (s.take (s.length / 2)))))=(-Tj.of (cf s),Tj.of (bG j (cf s))):=by
       refine Prod.ext ?_ ?_
       · show Tj.of (m4 (cf s) (cf (aM (s.take (s.length / 2)) (s.take (s.length / 2)))))= -Tj.of (cf s);rw[show Tj.of (m4 (cf s) (cf (aM (s.take (s.length / 2)) (s.take (s.length / 2)))))=Tj.of (cf s) -Tj.of (cf (aM (s.take (s.length / 2)) (s.take (s.length / 2)))) from Tj.sub _ _,cxx,Tj.add,Tj.cong _ _ ex];exact Rg.gp [Tj.of (cf s)] (X0-(X0+X0)) (-X0) rfl
       · show Tj.of (bG j (m4 (cf s) (cf (aM (s.take (s.length / 2)) (s.take (s.length / 2))))))=Tj.of (bG j (cf s));refine Tj.cong _ _ fun i hi=>?_;show cf s (2^j+i) -cf (aM (s.take (s.length / 2)) (s.take (s.length / 2))) (2^j+i)=cf s (2^j+i);rw[lxx _ (by omega)];exact Rat.sub_eq_add_neg .. |>.trans (by rw[Rat.neg_zero,Rat.add_zero])
      rw[this];exact F.1
     have g2:aT v (l+1) (m4 (mulC v (l+1) (cf (aM (s.take (s.length / 2)) (s.take (s.length / 2)))) (cf r)) oZ)=0:=by
      rw[cT v (aN hxx.le) (aN hrl.le) (Nat.le_succ l),bB v ((aU v l _ _).sub (yF l)) (Nat.le_succ l)];exact hr
     rw[← TL.sgn] at g1 g2 ⊢;rw[show TL.of (m4 _ _)=_ from TL.sub _ _,TL.mul,TL.one] at g2 ⊢;rw[show TL.of (m4 _ _)=_ from TL.sub _ _] at g1
     have e:TL.of (cf s)*TL.of (cf r) -1=(TL.of (cf s) -TL.of (cf (aM (s.take (s.length / 2)) (s.take (s.length / 2)))))*TL.of (cf r)+(TL.of (cf (aM (s.take (s.length / 2)) (s.take (s.length / 2))))*TL.of (cf r) -1) :=
      Rg.gp [TL.of (cf s),TL.of (cf r),TL.of (cf (aM (s.take (s.length / 2)) (s.take (s.length / 2))))] (X0*X1-1) ((X0-X2)*X1+(X2*X1-1)) rfl
     rw[e,OR.null _ _ (OR.jy _ g1)];exact g2
   · rw[if_neg hN];have hr:=ih hn.1 (by omega) (by rw[hn.2,bB v lowN hj];exact hN);obtain ⟨r,hrr⟩: ∃r,hC l v (ef l v s)=r:=⟨_,rfl⟩;have hrl:ak l r:=by rw[← hrr];exact fj l hn.1 hrt (by omega)
     rw[hrr] at hr ⊢;rw[hn.2] at hr
     have hjl:ak (l+1) (c' (s.take (s.length / 2)) (aC (s.drop (s.length / 2))) (s.length / 2)):= .inr ⟨j+1,by omega,by
      rw[dJ]
      omega⟩
     have cJ: ∀i,cf (c' (s.take (s.length / 2)) (aC (s.drop (s.length / 2))) (s.length / 2)) i=if i<2^j then cf (s.take (s.length / 2)) i else cf (aC (s.drop (s.length / 2))) (i-2^j):=fun i=>Gj _ e3 (by rw[a7];omega) i
     have lJ:cy (j+1) (cf (c' (s.take (s.length / 2)) (aC (s.drop (s.length / 2))) (s.length / 2))):=aN (by rw[dJ];omega);have ht:=dX (l+1) hjl (hrl.mono (Nat.le_succ l)) hrt hl;rw[ht.2];generalize c' (s.take (s.length / 2)) (aC (s.drop (s.length / 2))) (s.length / 2)=J at cJ lJ hjl ht
     have eN:mulC v (l+1) (cf s) (cf J)=bE v j (cf s):=by
      rw[cT v ls lJ (by omega)];refine jA.full (T.inj _ _ ?_) (aU v (j+1) _ _) (lowN.mono (Nat.le_succ j));rw[T.mul];have o1:Tj.of (cf J)=Tj.of (cf s):=Tj.cong _ _ fun i hi=>by rw[cJ i,if_pos hi];exact ex i hi
      have o2:Tj.of (bG j (cf J))= -Tj.of (bG j (cf s)):=by
       rw[← Tj.neg];refine Tj.cong _ _ fun i hi=>?_;show cf J (2^j+i)= -cf s (2^j+i);rw[cJ,if_neg (by omega),ky,Nat.add_sub_cancel_left,ey];rfl
      have o3:Tj.of (bG j (bE v j (cf s)))=0:=by rw[lowN.sH,Tj.zero]
      have o4:Tj.of (bE v j (cf s))=Tj.of (cf s)*Tj.of (cf s) -Tj.of (bG j (cf s))*Tj.of (bG j (cf s))*Tj.of (cf (v.getD j [])):=by
       rw[← Tj.mul,← Tj.mul,← Tj.mul,← Tj.sub];rfl
      refine Prod.ext ?_ ?_
      · show Tj.of (cf s)*Tj.of (cf J)+Tj.of (bG j (cf s))*Tj.of (bG j (cf J))*Tj.of (cf (v.getD j []))=Tj.of (bE v j (cf s));rw[o1,o2,o4];exact Rg.gp [Tj.of (cf s),Tj.of (bG j (cf s)),Tj.of (cf (v.getD j []))] (X0*X0+X1* -X1*X2) (X0*X0-X1*X1*X2) rfl
      · show Tj.of (cf s)*Tj.of (bG j (cf J))+Tj.of (bG j (cf s))*Tj.of (cf J)=Tj.of (bG j (bE v j (cf s)));rw[o1,o2,o3];exact Rg.gp [Tj.of (cf s),Tj.of (bG j (cf s))] (X0* -X1+X1*X0) 0 rfl
     have g2:aT v (l+1) (m4 (mulC v (l+1) (bE v j (cf s)) (cf r)) oZ)=0:=by
      rw[cT v (lowN.mono hj) (aN hrl.le) (Nat.le_succ l),bB v ((aU v l _ _).sub (yF l)) (Nat.le_succ l)];exact hr
     rw[← eN] at g2;rw[← TL.sgn] at g2 ⊢;rw[show TL.of (m4 _ _)=_ from TL.sub _ _,TL.mul,TL.mul,TL.one] at g2 ⊢;rw[← Rg.mul_assoc];exact g2
structure FV (v:List NQ) where
 K:Fd
 val:NQ→K.T
 add: ∀{a b:NQ},ak v.length a→ak v.length b→val (CE a b)=val a+val b
 sub: ∀{a b:NQ},ak v.length a→ak v.length b→val (nL a b)=val a-val b
 neg: ∀{a:NQ},ak v.length a→val (qn a)= -val a
 mul: ∀{a b:NQ},ak v.length a→ak v.length b→val (iD v a b)=val a*val b
 div: ∀{a b:NQ},ak v.length a→ak v.length b→lD v b≠0→val (r9 v a b)=val a*K.inv (val b)
 nil:val []=0
 one:val [1]=1
 sg: ∀{a:NQ},ak v.length a→(lD v a=0↔val a=0)
 eq: ∀{a b:NQ},aT v v.length (cf (aM a (aC b)))=0↔val a=val b
 inv: ∀{b:NQ},ak v.length b→lD v b≠0→val (hC v.length v b)=K.inv (val b)
theorem Gi:cf []=zC:=rfl
theorem Gh:cf [1]=oZ:=funext fun i=>by
 cases i with
 | zero=>rfl
 | succ i=>rfl
theorem GN{m:Nat}{v:List NQ}(V:jv m v):Nonempty (FV v):=by
 obtain ⟨T⟩:=HV V.pos v.length (Nat.le_refl _);have hs: ∀{a:NQ},ak v.length a→lD v a=aT v v.length (cf a):=fun h=>dO v.length h V.ro (Nat.le_refl _)
 have iv: ∀{b:NQ},ak v.length b→lD v b≠0→OR.cl T.inv (T.of (cf (hC v.length v b)))=(T.R.fd T.inv).inv (OR.cl T.inv (T.of (cf b))):=fun {b} hb h0=>by
  rw[hs hb] at h0;have h:=Ht V.ro V.pos v.length hb (Nat.le_refl _) h0;refine Fd.inv_eq ?_;rw[← OR.Ez,← T.mul,← OR.HG,OR.EA,← T.one,← T.sub,T.sgn];exact h
 refine⟨⟨T.R.fd T.inv,fun a=>OR.cl T.inv (T.of (cf a)),fun {a b} ha hb=>?_,fun {a b} ha hb=>?_,fun {a} ha=>?_,fun {a b} ha hb=>?_,fun {a b} ha hb h0=>?_,?_,?_,fun {a} ha=>?_,fun {a b}=>?_,iv⟩⟩
 · show OR.cl T.inv (T.of (cf (ai (aM a b))))=_;rw[bh (ha.plus hb),show cf (aM a b)=fun i=>cf a i+cf b i from funext fun i=>fi a b i,T.add];rfl
 · show OR.cl T.inv (T.of (cf (ai (aM a (aC b)))))=_;rw[bh (ha.plus hb.minus),show cf (aM a (aC b))=fun i=>cf a i-cf b i from funext fun i=>by rw[fi,ky];exact(Rat.sub_eq_add_neg ..).symm,T.sub];rfl
 · show OR.cl T.inv (T.of (cf (ai (aC a))))=_;rw[bh ha.minus,show cf (aC a)=fun i=> -cf a i from funext fun i=>ky a i,T.neg];rfl
 · have ht:=dX v.length ha hb V.ro (Nat.le_refl _);show OR.cl T.inv (T.of (cf (ai (aS v.length v a b))))=_;rw[bh ht.1,ht.2,T.mul];rfl
 · have ht:=dX v.length ha (fj v.length hb V.ro (Nat.le_refl _)) V.ro (Nat.le_refl _);show OR.cl T.inv (T.of (cf (ai (aS v.length v a (hC v.length v b)))))=_;rw[bh ht.1,ht.2,T.mul,OR.Ez,iv hb h0]
 · show OR.cl T.inv (T.of (cf []))=0;rw[Gi,T.zero];rfl
 · show OR.cl T.inv (T.of (cf [1]))=1;rw[Gh,T.one];rfl
 · rw[OR.JC,T.sgn,hs ha]
 · rw[OR.EA,← T.sub,T.sgn,show cf (aM a (aC b))=fun i=>cf a i-cf b i from funext fun i=>by rw[fi,ky];exact(Rat.sub_eq_add_neg ..).symm]
end Lift
namespace Lift
open Go
open Go.RowKit (Below)
section
variable {P:Program} {T:Ty} {B:Nat} {F0:Nat→Prop} {w0:bQ} {n d:Nat} {o:Oper} {σ:St} {K:St→Prop} {all:Array Oper} {rest:List Oper} {lk hm:Nat→Option AV}
end
end Lift
namespace Lift
open Go
open Go.RowKit (Below)
section
variable {P:Program} {T:Ty} {B:Nat} {F0:Nat→Prop} {w0:bQ} {n:Nat} {σ τ σ0:St} {ops all:Array Oper} {l rest:List Oper} {o:Oper} {d:Nat} {lk hm:Nat→Option AV} {K:St→Prop} {ds:List Nat}
end
end Lift
namespace Lift
open Go
open Go.RowKit (Below)
section
variable {P:Program} {T:Ty} {B:Nat} {F0:Nat→Prop} {w0:bQ} {n:Nat} {σ:St} {all:Array Oper} {rest:List Oper} {o1 o2:Oper} {K:St→Prop}
end
end Lift
namespace Lift
open Go
open Go.RowKit (Below)
section
variable {P:Program} {T:Ty} {B:Nat} {F0:Nat→Prop} {w0:bQ} {n:Nat} {σ:St} {all:Array Oper} {rest:List Oper} {o:Oper} {d:Nat} {K:St→Prop}
def Eg(T:Ty)(lk:Nat→Option AV):Op→Option (Nat×List D)
 | .binOp .eql t x (.const (.slice none 0 0)) _=>match T.get t,cO T (ex T lk 0 x) with
   | some ti,some (.sl s xs)=>match Nat.beq ti.kind 4 with
     | true=>some (s,xs)
     | false=>none
   | _,_=>none
 | _=>none
theorem AE{w:World}{t e:TypeId}(hi:P.underlying t=some (.slice e))(k:Nat)(b:Option Addr)(l c:Nat):(Op.equalIn (k+1) t (.slice b l c) (.slice none 0 0)).run P w= .ok b.isNone w:=by
 cases b<;>simp[Op.equalIn,run_underlying hi]
theorem Ef{w:World}{t e:TypeId}(hi:P.underlying t=some (.slice e))(b:Option Addr)(l c:Nat):(Op.equal t (.slice b l c) (.slice none 0 0)).run P w= .ok b.isNone w:=AE hi 9999 b l c
theorem EF{w:World}{t e:TypeId}(hi:P.underlying t=some (.slice e))(b:Option Addr)(l c:Nat):(Go.binOp .eql t (.slice b l c) (.slice none 0 0)).run P w= .ok (.bool b.isNone) w:=by
 have:Go.binOp .eql t (.slice b l c) (.slice none 0 0)=(do pure (.bool (← Op.equal t (.slice b l c) (.slice none 0 0))):Sem Value):=rfl;rw[this];simp only[Sem.run_bind,Ef hi,Result.andThen_ok,Sem.run_pure]
theorem ab.xK(hT:a6 P T){s:Nat}{xs:List D}(hd:o.dst=some d)(hdn:Nat.ble (d+1) n=true)(hg:o.guard=none)(hx:Eg T σ.get o.op=some (s,xs))
  (h: ∀b:Bool,(xs≠[]→b=false)→ab P B F0 w0 n all rest K ((d,.d (.v (.bool b)))::σ)):ab P B F0 w0 n all (o::rest) K σ:=by
 intro a w hR Q hQ;unfold wpList;rw[if_pos (by simp[Region.wanted,hg])];refine .inl ?_;obtain ⟨O,hOr,hO⟩:=hR.own;have hI:=hR.inv hOr hO (fun t=> .tmp t∈o.op.operands) d;obtain ⟨dst,op,ty,pos,after,guard⟩:=o;simp only[] at hd hx hI;cases op<;>try (simp only[Eg] at hx;cases hx;done)
 rename_i bop t x y ty2;cases bop<;>try (simp only[Eg] at hx;cases hx;done)
 cases y<;>try (simp only[Eg] at hx;cases hx;done)
 rename_i c;unfold Eg at hx;split at hx<;>try (cases hx;done)
 rename_i heq;simp only[Op.binOp.injEq,Operand.const.injEq,true_and] at heq;obtain ⟨rfl,rfl,rfl,rfl⟩:=heq;split at hx<;>try (cases hx;done)
 rename_i ti s' xs' hti hdx;split at hx<;>simp at hx;rename_i hk;obtain ⟨rfl,rfl⟩:=hx;obtain ⟨info,dd,z,hok⟩:=hT _ ti hti;have hrd:=dC hT hI (fun t ht=>by subst ht;simp[Op.operands]) hdx;obtain ⟨ad,cap,hv,h1,h2,hne⟩:=Rd.x6 hrd
 have hg2:(eqGuard .eql t x (.const (.slice none 0 0)) (a.eval x) (.slice none 0 0)).run P w= .ok () w:=by
  rw[hv];simp[eqGuard]
 refine aX (v:= .bool ad.isNone) (w':=w) ?_ ?_
 · simp only[execOp,eval_const,Sem.run_bind,hg2,Result.andThen_ok];rw[hv];rw[EF (hok.gZ hk).1];rfl
 · rw[hd];refine h ad.isNone (fun hx=>?_) _ _ (hR.put hOr hO (Nat.le_of_ble_eq_true hdn) (cU.refl hI.lt) (show dw _ _ _ _ _ _ _ _ (.d (.v (.bool ad.isNone))) (.bool ad.isNone) from Rd.v rfl)) Q hQ;rcases hne with e | ⟨b,off,cs,e,fz,hb,_⟩
   · exact absurd e hx
   · rw[hb];rfl
end
end Lift
namespace Lift
open Go Go.Proofs
end Lift
namespace Lift
open Go Go.Proofs
end Lift
namespace Lift
open Go Go.Proofs
end Lift
namespace Lift
open Go Go.Proofs
end Lift
namespace Lift
open Go Go.Proofs
abbrev mD(r:List (List RD)):D:= .sl 1 (r.map dn)
abbrev MxR(a:List (List (List RD))):D:= .sl 1 (a.map mD)
abbrev dv(r:List NQ):D:= .sl 1 (r.map ah)
abbrev bS(a:List (List NQ)):D:= .sl 1 (a.map dv)
structure ET (m:Nat) (rt:List (List RD)) (a:List (List (List RD))):Prop where
 n: ∀i k,ES m rt ((a.getD i []).getD k [])
 l:a.length≤1000000
 r: ∀i,(a.getD i []).length≤1000000
def ay{α:Type}(a:List (List α)):Nat:=(a.getD 0 []).length
def xJ(a:List (List (List RD)))(i:Nat):Nat:=if (a.getD i []).length≠ay a then 10 else 0
def kc(rt:List (List RD))(r:List (List RD)):Nat:=fE (fun k=>pH rt [r.getD k []]) (r.length-0) 0
def xe(rt:List (List RD))(a:List (List (List RD))):Nat :=
 if a.length=0 then 0 else if 32<a.length∨32<ay a then 4 else
 if fE (xJ a) (a.length-0) 0≠0 then fE (xJ a) (a.length-0) 0 else fE (fun i=>kc rt (a.getD i [])) (a.length-0) 0
def nw(rt:List (List RD))(a:List (List (List RD))):Nat:=if de rt≠0 then de rt else xe rt a
structure HZ (m:Nat) (rt:List (List RD)):Prop where
 w: ∀i,i<rt.length→(rt.getD i []).length=2^i→wN m (rt.getD i [])
 m1:1≤m
 l:rt.length≤1000000
 ll: ∀i,i<rt.length→(rt.getD i []).length≤4398046511104
 ok:rt.length≤5→mQ rt.length m
 m2:m≤1000000
theorem qs{m:Nat}{rt:List (List RD)}{x:List RD}(T:HZ m rt)(X:ES m rt x):Pure Tryz.prog 67 [TrD rt,dn x] (vi (pH rt [x])):=by
 refine qJ 14 Tryz.func67 rfl rfl rfl rfl (by kernel_rfl) (fun B F0 w0=>?_);have hm:=T.m2;have c:=uT rt x T.w T.m1 T.l T.ll T.ok X.w X.l (by omega);unfold C' at c;refine qX 2 rfl ?_;refine qK 2 rfl ?_;by_cases h:pH rt [x]≠0
 · rw[if_pos h] at c;refine ab.call tok rfl rfl rfl rfl c ?_;refine qU 5 rfl ?_;refine qK 2 rfl ?_;exact qN rfl
 rw[if_neg h] at c;have h:pH rt [x]=0:=by omega
 rw[h];refine ab.call tok rfl rfl rfl rfl c ?_;refine qU 5 rfl ?_;refine qK 2 rfl ?_;exact qN rfl
theorem Gf{rt:List (List RD)}(h:de rt=0)(x:List RD):pH rt [x]=bJ rt.length x:=by
 unfold pH;rw[if_neg (by rw[h];simp)];show (if bJ rt.length x=0 then 0 else bJ rt.length x)=_;split
 · rename_i e;exact e.symm
 · rfl
set_option maxHeartbeats 1600000 in
theorem tY{rt:List (List RD)}{a:List (List (List RD))}(hal:a.length≤1000000)(har: ∀i,(a.getD i []).length≤1000000)(han: ∀i k,Pure Tryz.prog 67 [TrD rt,dn ((a.getD i []).getD k [])] (vi (pH rt [(a.getD i []).getD k []]))):Pure Tryz.prog 55 [TrD rt,MxR a] (vi (xe rt a)):=by
 refine qJ 61 Tryz.func55 rfl rfl rfl rfl (by kernel_rfl) (fun B F0 w0=>?_);unfold xe;obtain ⟨E,hE⟩: ∃E,fE (xJ a) (a.length-0) 0=E:=⟨_,rfl⟩;obtain ⟨G,hG⟩: ∃G,fE (fun i=>kc rt (a.getD i [])) (a.length-0) 0=G:=⟨_,rfl⟩;rw[hE,hG];refine qX 2 rfl ?_;refine qI ?_;refine qX 2 rfl ?_;rw[List.length_map];refine qU 1 rfl ?_;refine ab.nil ?_;by_cases h0:a.length=0
 · rw[if_pos h0,h0];refine AW.aF rfl ?_;refine qX 1 rfl ?_;exact qN rfl
 rw[if_neg h0,beq_eq_false_iff_ne.2 (show (a.length:Int)≠0 by omega)];have hc0:ay a=(a.getD 0 []).length:=rfl;have hcl:=har 0;have g0:=getM mD (l:=a) (i:=0) (by omega);refine AW.ar rfl ?_
 · skip
   refine AW.skip (AW.seq ?_);refine qX 2 rfl ?_;rw[List.length_map];refine qU 1 rfl ?_;by_cases h1:32<a.length
   · rw[decide_eq_true (show (32:Int)<(a.length:Int) by omega),if_pos (.inl h1)];refine qU 7 rfl ?_;refine ab.nil ?_;refine AW.aF rfl ?_;refine qX 2 rfl ?_;exact qN rfl
   rw[decide_eq_false (show ¬(32:Int)<(a.length:Int) by omega)];refine qU 2 rfl ?_;refine ab.idx tok (mD (a.getD 0 [])) rfl rfl rfl rfl (Int.le_refl _) g0 ?_;refine qU 2 rfl ?_;rw[List.length_map];refine qU 1 rfl ?_;by_cases h2:32<ay a
   · rw[decide_eq_true (show (32:Int)<((a.getD 0 []).length:Int) by omega),if_pos (.inr h2)];refine qU 1 rfl ?_;refine ab.nil ?_;refine AW.aF rfl ?_;refine qX 2 rfl ?_;exact qN rfl
   rw[decide_eq_false (show ¬(32:Int)<((a.getD 0 []).length:Int) by omega),if_neg (fun h=>h.elim h1 h2)];refine qU 1 rfl ?_;refine ab.nil ?_;refine AW.ar rfl ?_
   · refine AW.skip (AW.seq ?_);refine qX 2 rfl ?_;rw[List.length_map];refine qU 1 rfl ?_;refine ab.nil ?_;refine AW.block ?_;refine AW.aD [1,2,26,27,28] (fun i:Nat=>[(1,.d (MxR a)),(2,.bx [.sl 1 (rt.map dn)]),(26,.d (MxR a)),(27,.d (dI a.length)),(28,.d (dI i))]) (fun i=>i≤a.length∧fE (xJ a) (a.length-i) i=E) (fun i=>a.length-i) 0 rfl ⟨Nat.zero_le _,hE⟩ (fun i ⟨hi,hiE⟩=>?_)
     · show AW _ _ _ _ _ _ _ [(1,.d (MxR a)),(2,.bx [.sl 1 (rt.map dn)]),(26,.d (MxR a)),(27,.d (dI a.length)),(28,.d (dI i))];refine qX 1 rfl ?_;refine qI ?_;refine AW.cond rfl (fun h=>?_) (fun h=>?_)
       · have hii:i<a.length:=by have:=of_decide_eq_true h;omega
         have hg:=getM mD (l:=a) (i:=i) hii;have hri:=har i;have hmiss:=fun h0:xJ a i=0=>(gP hii h0).symm.trans hiE;have hhit:=fun h0:xJ a i≠0=>(jU hii h0).symm.trans hiE;refine AW.skip (AW.seq (AW.block (AW.seq (AW.region ?_))));refine ab.idx tok (mD (a.getD i [])) rfl rfl rfl rfl (Int.natCast_nonneg i) hg ?_;refine qU 2 rfl ?_;refine qK 2 rfl ?_;rw[List.length_map];refine qU 1 rfl ?_;refine ab.idx tok (mD (a.getD 0 [])) rfl rfl rfl rfl (Int.le_refl _) g0 ?_;refine qU 2 rfl ?_;rw[List.length_map];refine qU 1 rfl ?_;refine ab.nil ?_;refine AW.cond rfl (fun h=>?_) (fun h=>?_)
         · have hne:(a.getD i []).length≠ay a:=by have:=bne_iff_ne.1 h;omega
           have e:xJ a i=10:=if_pos hne;have:=hhit (by rw[e];decide);rw[e] at this;subst this;rw[if_pos (by decide)];refine qX 2 rfl ?_;exact qN rfl
         · have heq:(a.getD i []).length=ay a:=by have:=bne_eq_false_iff_eq.1 h;omega
           have e:xJ a i=0:=if_neg (fun h=>h heq);refine AW.skip ?_;refine qT 1 rfl ?_;rw[aA (x:=(i:Int)+1) (by omega) (by omega)];refine qU 1 rfl ?_;refine ab.nil ?_;exact⟨i+1,rfl,⟨hii,hmiss e⟩,by omega⟩
       have hii: ¬i<a.length:=by have:=of_decide_eq_false h;omega
       rw[jV hii] at hiE;subst hiE;rw[if_neg (by decide)];refine AW.exit (AW.seq ?_);refine qX 2 rfl ?_;rw[List.length_map];refine qU 1 rfl ?_;refine ab.nil ?_;refine AW.block ?_;refine AW.aD [1,2,41,42,43] (fun i:Nat=>[(1,.d (MxR a)),(2,.bx [.sl 1 (rt.map dn)]),(41,.d (MxR a)),(42,.d (dI a.length)),(43,.d (dI i))]) (fun i=>i≤a.length∧fE (fun i=>kc rt (a.getD i [])) (a.length-i) i=G) (fun i=>a.length-i) 0 rfl ⟨Nat.zero_le _,hG⟩ (fun i ⟨hi,hiG⟩=>?_)
       · show AW _ _ _ _ _ _ _ [(1,.d (MxR a)),(2,.bx [.sl 1 (rt.map dn)]),(41,.d (MxR a)),(42,.d (dI a.length)),(43,.d (dI i))];refine qX 1 rfl ?_;refine qI ?_;refine AW.cond rfl (fun h=>?_) (fun h=>?_)
         · have hii:i<a.length:=by have:=of_decide_eq_true h;omega
           have hg:=getM mD (l:=a) (i:=i) hii;have hri:=har i;have hni:=han i;have hmiss:=fun h0:kc rt (a.getD i [])=0=>(gP (f:=fun i=>kc rt (a.getD i [])) hii h0).symm.trans hiG;have hhit:=fun h0:kc rt (a.getD i [])≠0=>(jU (f:=fun i=>kc rt (a.getD i [])) hii h0).symm.trans hiG;refine AW.skip (AW.seq (AW.block (AW.seq (AW.region ?_))));refine ab.idx tok (mD (a.getD i [])) rfl rfl rfl rfl (Int.natCast_nonneg i) hg ?_;refine qU 2 rfl ?_;refine ab.nil ?_;generalize a.getD i []=r at hri hni hmiss hhit;obtain ⟨H,hH⟩: ∃H,kc rt r=H:=⟨_,rfl⟩;rw[hH] at hmiss hhit;refine qX 2 rfl ?_;rw[List.length_map];refine qU 1 rfl ?_;refine ab.nil ?_;refine AW.block ?_;refine AW.aD [1,2,41,42,43,47,48,49] (fun k:Nat=>[(1,.d (MxR a)),(2,.bx [.sl 1 (rt.map dn)]),(41,.d (MxR a)),(42,.d (dI a.length)),(43,.d (dI i)),(47,.d (mD r)),(48,.d (dI r.length)),(49,.d (dI k))]) (fun k=>k≤r.length∧fE (fun k=>pH rt [r.getD k []]) (r.length-k) k=H) (fun k=>r.length-k) 0 rfl ⟨Nat.zero_le _,hH⟩ (fun k ⟨hk,hkH⟩=>?_)
           · show AW _ _ _ _ _ _ _ [(1,.d (MxR a)),(2,.bx [.sl 1 (rt.map dn)]),(41,.d (MxR a)),(42,.d (dI a.length)),(43,.d (dI i)),(47,.d (mD r)),(48,.d (dI r.length)),(49,.d (dI k))];refine qX 1 rfl ?_;refine qI ?_;refine AW.cond rfl (fun h=>?_) (fun h=>?_)
             · have hkk:k<r.length:=by have:=of_decide_eq_true h;omega
               have hg2:=getM dn (l:=r) (i:=k) hkk;have cn:=hni k;have km:=fun h0:pH rt [r.getD k []]=0=>(gP (f:=fun k=>pH rt [r.getD k []]) hkk h0).symm.trans hkH;have kh:=fun h0:pH rt [r.getD k []]≠0=>(jU (f:=fun k=>pH rt [r.getD k []]) hkk h0).symm.trans hkH;refine AW.skip (AW.seq (AW.block (AW.seq (AW.region ?_))));refine ab.idx tok (dn (r.getD k [])) rfl rfl rfl rfl (Int.natCast_nonneg k) hg2 ?_;refine qU 2 rfl ?_;refine qK 2 rfl ?_;refine ab.call tok rfl rfl rfl rfl cn ?_;refine qU 1 rfl ?_;refine ab.nil ?_;generalize pH rt [r.getD k []]=e at cn km kh;rcases e with _ | z
               rotate_left
               · have:=kh (Nat.succ_ne_zero z);subst this;have:=hhit (Nat.succ_ne_zero z);subst this;refine qX 1 rfl ?_;refine ab.err tok rfl rfl rfl rfl rfl ?_;refine ab.nil ?_;refine AW.aF rfl ?_;refine qX 2 rfl ?_;exact qN rfl
               refine qX 1 rfl ?_;refine ab.err tok rfl rfl rfl rfl rfl ?_;refine ab.nil ?_;refine AW.ar rfl ?_
               · skip
                 refine AW.skip ?_;refine qT 1 rfl ?_;rw[aA (x:=(k:Int)+1) (by omega) (by omega)];refine qU 1 rfl ?_;refine ab.nil ?_;exact⟨k+1,rfl,⟨hkk,km rfl⟩,by omega⟩
             have hkk: ¬k<r.length:=by have:=of_decide_eq_false h;omega
             rw[jV hkk] at hkH;subst hkH;refine AW.exit ?_;refine qT 1 rfl ?_;rw[aA (x:=(i:Int)+1) (by omega) (by omega)];refine qU 1 rfl ?_;refine ab.nil ?_;exact⟨i+1,rfl,⟨hii,hmiss rfl⟩,by omega⟩
         have hii: ¬i<a.length:=by have:=of_decide_eq_false h;omega
         rw[jV hii] at hiG;subst hiG;refine AW.exit ?_;refine qX 1 rfl ?_;exact qN rfl
theorem qt{m:Nat}{rt:List (List RD)}{a:List (List (List RD))}(T:HZ m rt)(A:ET m rt a):Pure Tryz.prog 55 [TrD rt,MxR a] (vi (xe rt a)) :=
 tY A.l A.r (fun i k=>qs T (A.n i k))
theorem ei{m:Nat}{rt:List (List RD)}{a:List (List (List RD))}(T:HZ m rt)(A:ET m rt a):Pure Tryz.prog 20 [TrD rt,MxR a] (vi (nw rt a)):=by
 refine qJ 14 Tryz.func20 rfl rfl rfl rfl (by kernel_rfl) (fun B F0 w0=>?_);have cc:=lN rt T.w T.m1 T.l T.ll T.ok;have cm:=qt T A;unfold nw;refine qX 2 rfl ?_;refine qI ?_;refine qX 1 rfl ?_;refine ab.call tok rfl rfl rfl rfl cc ?_;refine qU 1 rfl ?_;refine ab.nil ?_;generalize de rt=e at cc ⊢;rcases e with _ | z
 rotate_left
 · rw[if_pos (Nat.succ_ne_zero z)];refine qX 1 rfl ?_;refine ab.err tok rfl rfl rfl rfl rfl ?_;refine ab.nil ?_;refine AW.aF rfl ?_;refine qX 2 rfl ?_;exact qN rfl
 rw[if_neg (by simp)];refine qX 1 rfl ?_;refine ab.err tok rfl rfl rfl rfl rfl ?_;refine ab.nil ?_;refine AW.ar rfl ?_
 · skip
   refine AW.skip ?_;refine qX 2 rfl ?_;refine ab.call tok rfl rfl rfl rfl cm ?_;refine qU 1 rfl ?_;exact qN rfl
theorem l8{v:List NQ}{a:NQ}(V:mC v)(ha:ak v.length a)(ok:yH v a):Pure Tryz.prog 69 [bI v,ah a] (dI (lD v a)):=by
 refine qJ 14 Tryz.func69 rfl rfl rfl rfl (by kernel_rfl) (fun B F0 w0=>?_);have c:=xU V ha ok;refine qX 2 rfl ?_;refine qK 2 rfl ?_;refine ab.call tok rfl rfl rfl rfl c ?_;refine qU 5 rfl ?_;refine qK 2 rfl ?_;exact qN rfl
theorem eK(a:List (List NQ)):Pure Tryz.prog 47 [bS a] (dI (ay a)):=by
 refine qJ 10 Tryz.func47 rfl rfl rfl rfl (by kernel_rfl) (fun B F0 w0=>?_);refine qX 1 rfl ?_;refine qI ?_;refine qX 2 rfl ?_;rw[List.length_map];refine qU 1 rfl ?_;refine ab.nil ?_;by_cases h0:a.length=0
 · rw[List.length_eq_zero_iff.1 h0];refine AW.aF rfl ?_;refine qX 1 rfl ?_;exact qN rfl
 rw[beq_eq_false_iff_ne.2 (show (a.length:Int)≠0 by omega)];have g0:=getM dv (l:=a) (i:=0) (by omega);refine AW.ar rfl ?_
 · refine AW.skip ?_;refine qX 1 rfl ?_;refine ab.idx tok (dv (a.getD 0 [])) rfl rfl rfl rfl (Int.le_refl _) g0 ?_;refine qU 2 rfl ?_;rw[List.length_map];refine qU 1 rfl ?_;exact qN rfl
def Im(r:List NQ)(res:D)(R':List LR):Prop:= ∃V,res= .v V∧R'=[(V,AV.ow 53 (r.map ah))]
theorem zj(r:List NQ)(hl:r.length≤1000000):iu Tryz.prog 68 [dv r] [] (Im r):=by
 refine iu.intro (n:=8) tok Tryz.func68 rfl rfl rfl (Nat.le_of_ble_eq_true rfl) (by kernel_rfl) (fun B F0 w0=>?_);refine AZ.seq ?_;refine AZ.dm (fun B1 F1 w1=>?_);refine qU 1 rfl ?_;refine ab.nil ⟨rfl,?_⟩;refine AZ.seq ?_;refine AZ.seq ?_;refine AZ.dm (fun B1 F1 w1=>?_);refine qU 1 rfl ?_;refine ab.xK tok rfl rfl rfl rfl (fun b hb=>?_);refine ab.nil ⟨rfl,?_⟩;refine AZ.cond rfl (fun h=>?_) (fun h=>?_)
 · have hr:r=[]:=by
    refine Classical.byContradiction fun hr=>?_;have:=hb (by simp[hr]);rw[this] at h;cases h
   subst hr;refine AZ.seq ?_;refine AZ.dm (fun B1 F1 w1=>?_);refine qU 1 rfl ?_;refine ab.nil ⟨rfl,?_⟩;exact AZ.gC 2 rfl rfl rfl (fun V=>AZ.ret ⟨.v V,rfl,V,rfl,rfl⟩)
 · skip
   refine AZ.skip ?_;refine AZ.seq ?_;refine AZ.dm (fun B1 F1 w1=>?_);refine qU 2 rfl ?_;refine ab.pL tok rfl rfl rfl rfl (by rw[List.length_map];show r.length*24≤_;omega) ?_;refine qU 1 rfl ?_;refine ab.nil ⟨rfl,?_⟩;exact AZ.gC 2 rfl rfl rfl (fun V=>AZ.ret ⟨.v V,rfl,V,rfl,rfl⟩)
end Lift
namespace Lift
open Go
open Go.RowKit (Below)
section
variable {P:Program} {T:Ty} {B:Nat} {F0:Nat→Prop} {w0:bQ} {n:Nat} {σ:St} {R:List LR} {all ops:Array Oper} {l:List Oper} {o:Oper} {x:Code} {a:Act} {w:World} {K:List LR→St→Prop} {p:iM} {Q:Exit→List LR→St→Prop}
theorem mr: ∀{cs:List D},(∀d,d∈cs→d.flat=[d])→flatAll cs=cs
 | [],h=>rfl
 | d::r,h=>by
   show d.flat++flatAll r=d::r;rw[h d (List.mem_cons_self ..),mr (fun x hx=>h x (List.mem_cons_of_mem _ hx))];rfl
theorem bA.F7{i j k e eo:Nat}{V Vo:Value}{xs cs:List D}(hR:bA P B F0 w0 n R σ a w)(hj:R[j]?=some (Vo,.ow eo cs))(hc1: ∀d,d∈cs→d.flat=[d])(hk:cs[k]?=some (.v V))(hi:R[i]?=some (V,.ow e xs))(hij:i≠j):
  bA P B F0 w0 n ((R.set i (V,.junk)).set j (Vo,.ow eo (cs.set k (.sl (P.cellsOf e) xs)))) σ a w:=by
 obtain ⟨O,hOr,hO,hL⟩:=hR.own
 let O':Nat→Option Nat:=fun b=>if O b=some (n+i) then none else O b
 have h1: ∀b t,O' b=some t→O b=some t:=fun b t h=>by
  simp only[O'] at h;split at h
  · cases h
  · exact h
 have h2: ∀b t,t≠n+i→O b=some t→O' b=some t:=fun b t ht h=>by
  simp only[O',h];rw[if_neg (by simpa using ht)]
 have hF: ∀c,aE O (FW B F0 w) c→aE O' (FW B F0 w) c:=fun c hc=>⟨by simp only[O',hc.1];simp,hc.2⟩
 have hlt: ∀t av,σ.get t=some av→t<n:=fun t av h=>by
  obtain ⟨v,hv,_⟩:=hO t av h;rw[← hR.size];exact(Array.getElem?_eq_some_iff.1 hv).1
 have hil:=(List.getElem?_eq_some_iff.1 hi).1;have hjl:=(List.getElem?_eq_some_iff.1 hj).1;have hkl:=(List.getElem?_eq_some_iff.1 hk).1;refine⟨hR.below,hR.base,hR.f0,hR.defers,hR.size,O',fun b t hb=>hOr b t (h1 b t hb),fun j av hav=>?_,fun m r hr=>?_⟩
 · obtain ⟨v,hv,hr⟩:=hO j av hav;exact⟨v,hv,hr.move (fun c hc=>⟨hF c hc,rfl⟩) (fun _ c hc=>⟨h2 c j (by have:=hlt j av hav;omega) hc,rfl⟩) (fun k _ x _ hk=>⟨hk,rfl⟩)⟩
 · by_cases hmj:m=j
   · subst hmj;rw[List.getElem?_set_self (by simpa using hjl)] at hr;cases hr
     have hcs': ∀d,d∈cs.set k (.sl (P.cellsOf e) xs)→d.flat=[d]:=fun d hd=>by
      rcases List.mem_or_eq_of_mem_set hd with h | h
      · exact hc1 d h
      · subst h;rfl
     rcases hL m _ hj with h | ⟨_,_,h⟩
     · cases h
     refine .inr ⟨rfl,rfl,?_⟩;rcases h with ⟨base,h3,h4⟩ | ⟨b',cap,cs',h3,h4,h5,h6,h7,h8,h9,h10⟩
     · subst h4;simp at hk
     · simp only at h3;subst h3;refine .inr ⟨b',cap,cs',by simp,h2 b' _ (by omega) h4,h5,by simpa using h6,h7,h8,fun d hd=>?_,fun q d hd=>?_⟩
       · rcases List.mem_or_eq_of_mem_set hd with h | h
         · exact h9 d h
         · subst h;have:=h9 _ (List.mem_of_getElem? hk);exact this
       · rw[mr hcs'] at hd;rw[mr hc1] at h10;by_cases hq:q=k
         · subst hq;rw[List.getElem?_set_self hkl] at hd;cases hd;obtain ⟨_,u,hu,hru⟩:=h10 q _ hk;have:=(Rd.jw hru).1;subst this;refine⟨rfl,_,hu,?_⟩;rcases hL i _ hi with h | ⟨_,_,h⟩
           · cases h
           · rcases h with ⟨base,h3,h4⟩ | ⟨b2,cap2,cs2,g3,g4,g5,g6,g7,g8,g9,g10⟩
             · simp only at h3 h4;subst h3;subst h4;exact .nil (Nat.zero_le _)
             · simp only at g3;subst g3;refine Rd.j7 (off:=0) ⟨by simp only[O',g4];simp,(hOr b2 _ g4).fw hR.f0⟩ g5 g6 g7 g9 (fun m d hd=>?_);obtain ⟨f1,u,f2,f3⟩:=g10 m d hd;exact⟨f1,u,by simpa using f2,f3.mono hF (fun _ _=>rfl)⟩
         · rw[List.getElem?_set_ne (Ne.symm hq)] at hd;obtain ⟨f1,u,f2,f3⟩:=h10 q d hd;exact⟨f1,u,f2,f3.mono hF (fun _ _=>rfl)⟩
   · have hr:=jd hmj hr;by_cases hmi:m=i
     · subst hmi;rw[List.getElem?_set_self hil] at hr;cases hr;exact .inl rfl
     · have:=jd hmi hr;rcases hL m r this with h | ⟨g1,g2,g3⟩
       · exact .inl h
       · exact .inr ⟨g1,g2,g3.move (fun c hc=>⟨hF c hc,rfl⟩) (fun _ c hc=>⟨h2 c _ (by omega) hc,rfl⟩) (fun k _ x _ hk=>by cases hk)⟩
theorem AZ.F7(hT:a6 P T)(i j k:Nat){V Vo:Value}{e eo:Nat}{te:TI}{xs cs:List D}(hj:R[j]?=some (Vo,.ow eo cs))(hc1: ∀d,d∈cs→d.flat=[d])(hk:cs[k]?=some (.v V))(hi:R[i]?=some (V,.ow e xs))(hij:i≠j)(he:T.get e=some te)
  (h:AZ P B F0 w0 n x Q ((R.set i (V,.junk)).set j (Vo,.ow eo (cs.set k (.sl te.size xs)))) σ):AZ P B F0 w0 n x Q R σ:=by
 obtain ⟨info,d,z,hok⟩:=hT e te he;intro a w hR;have:=hR.F7 hj hc1 hk hi hij;rw[hok.cellsOf] at this;exact h a w this
theorem af.ub(t i:Nat){av:AV}(ht:σ.get t=some av)(hrow:av.row.isSome=true)(htag:av.tag=false)(hi:Nat.ble (i+1) R.length=true)(h: ∀V:Value,af P B F0 w0 n all l K p (R.set i (V,av)) ((t,.d (.v V))::σ.kill t)):af P B F0 w0 n all l K p R σ:=by
 intro a w hR hpin Q hQ;obtain ⟨O,_,hO,_⟩:=hR.own;obtain ⟨V,hV,_⟩:=hO t _ ht;exact h V a w (hR.gC (i:=i) ht hrow htag hV (List.getElem?_set_self (Nat.le_of_ble_eq_true hi)) (fun j r hj hr=>jd hj hr)) hpin Q hQ
theorem bb{K:List LR→St→Prop}(h: ∀B1 F1 w1,rL P B1 F1 w1 R→ab P B1 F1 w1 n ops [o] (fun σ'=>σ'.ft=true∧K R σ') σ):af P B F0 w0 n ops [o] K [] R σ :=
 af.zg 1 rfl (fun B1 F1 w1 hS=>by
  have:=h B1 F1 w1 hS
  refine fun a w hR Q hQ=>this a w hR Q (fun a' w' σ' ⟨h1,h2⟩ hR'=>hQ a' w' σ' ⟨h1,af.nil h2⟩ hR'))
end
section
variable {P:Program} {T:Ty} {B:Nat} {F0:Nat→Prop} {w0:bQ} {n:Nat} {σ:St} {R:List LR} {ops:Array Oper} {o1 o2 o3 o4:Oper} {Q:Exit→List LR→St→Prop} {β:fY} {fuel:Nat} {listed:Array Bool}
theorem ZH.four(i j k m:Nat)(hr:Region.ready .any ops listed=[i,j,k,m])(ho1:ops[i]?=some o1)(ho2:ops[j]?=some o2)(ho3:ops[k]?=some o3)(ho4:ops[m]?=some o4)(hg1:o1.guard=none)(hg2:o2.guard=none)(hg3:o3.guard=none)(hg4:o4.guard=none)(hp1: ∀bl,ed (cH β bl) [o1]=true)(hp2: ∀bl,ed (cH β bl) [o2]=true)(hp3: ∀bl,ed (cH β bl) [o3]=true)(hp4: ∀bl,ed (cH β bl) [o4]=true)(hσ:lg σ β)
  (h1:nG P B F0 w0 n ops Q β fuel listed R σ i o1) (h2:nG P B F0 w0 n ops Q β fuel listed R σ j o2) (h3:nG P B F0 w0 n ops Q β fuel listed R σ k o3) (h4:nG P B F0 w0 n ops Q β fuel listed R σ m o4):ZH P B F0 w0 n ops Q β (fuel+1) listed R σ :=
 ZH.many [i,j,k,m] hr (by simp) hσ (fun q hk=>by
   simp only[List.mem_cons,List.not_mem_nil,or_false] at hk;rcases hk with rfl | rfl | rfl | rfl
   · exact⟨o1,ho1,hg1,hp1,h1⟩
   · exact⟨o2,ho2,hg2,hp2,h2⟩
   · exact⟨o3,ho3,hg3,hp3,h3⟩
   · exact⟨o4,ho4,hg4,hp4,h4⟩)
end
end Lift
