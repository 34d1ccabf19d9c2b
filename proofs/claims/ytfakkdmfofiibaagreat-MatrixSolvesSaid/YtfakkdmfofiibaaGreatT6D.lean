/- Parts of the proof, one behind the other: the logic, the contracts of the functions that the statement reaches. -/
import Derived.Test.YtfakkdmfofiibaaGreatT6C
import Derived.OrdersIn
import Derived.TacticsIn
import Derived.RangeFuncCalls
import Derived.RangeFuncKeeps
import Derived.Laws.StructEq
set_option linter.unusedVariables false
set_option linter.unusedSimpArgs false
namespace Lift
open Go
open Go.RowKit (Below)
abbrev gu:Value:= .slice none 0 0
def HN(d:D)(v:Value):Bool:=JO d v||match d,v with
 | .v (.slice none 0 0),.slice none 0 0=>true
 | _,_=>false
def tO:List D→List Value→Bool
 | [],[]=>true
 | d::ds,v::vs=>HN d v&&tO ds vs
 | _,_=>false
theorem F3{w:World}{F:Nat→Prop}{d:D}{v:Value}(h:HN d v=true):d.a7=true∧Rd w F d v:=by
 unfold HN at h;rw[Bool.or_eq_true] at h;rcases h with h | h
 · exact DA h
 · split at h<;>try (cases h;done)
   exact⟨rfl,.v rfl⟩
theorem yK{w:World}{F:Nat→Prop}: ∀{ds:List D} {vs:List Value},tO ds vs=true→lO w F ds vs
 | [],[],_=>⟨rfl,fun i d u h=>by simp at h⟩
 | [],_::_,h=>by simp[tO] at h
 | _::_,[],h=>by simp[tO] at h
 | d::ds,v::vs,h=>by
   simp only[tO,Bool.and_eq_true] at h;have ih:=yK (w:=w) (F:=F) h.2;have h1:=F3 (w:=w) (F:=F) h.1;refine⟨by simp[ih.1],fun i d' u hd hu=>?_⟩;cases i with
   | zero=>simp at hd hu;subst hd;subst hu;exact h1
   | succ i=>exact ih.2 i d' u (by simpa using hd) (by simpa using hu)
section
variable {P:Program} {T:Ty} {B:Nat} {F0:Nat→Prop} {w0:cL} {n:Nat} {σ τ σ0:St} {R:List LR} {ops all:Array Oper} {l rest:List Oper} {o:Oper} {d:Nat} {lk hm:Nat→Option AV} {x:Code} {a:Act} {w:World} {K:List LR→St→Prop} {p:ju} {ds:List Nat}
def Hg(T:Ty)(lk:Nat→Option AV)(zs:List D):Op→Option (Nat×List D)
 | .build t parts=>match T.get t,ru T lk parts.toList with
   | some i,some ps=>match Nat.beq i.kind 5 with
     | true=>match xg i.fields zs ps with
       | some cs=>some (t,cs)
       | none=>none
     | false=>none
   | _,_=>none
 | _=>none
def xr(P:Program)(t:Nat)(zs:List D):Bool:=match P.info? t with
 | some info=>match info.zero with
   | some z=>tO zs z.cells.toList
   | none=>false
 | none=>false
theorem aI.Fz(hT:bw P T)(zs:List D){t:Nat}{cs:List D}(hd:o.dst=some d)(hn:hm d=none)(hx:Hg T lk zs o.op=some (t,cs))(hz:xr P t zs=true):aI P B F0 w0 d o lk hm (.d (.ag cs)):=by
 refine⟨hd,hn,fun a w O hI K Q hK=>?_⟩;obtain ⟨dst,op,ty,pos,after,guard⟩:=o;simp only[] at hd hx hI;cases op<;>simp only[Hg] at hx<;>try (cases hx;done)
 rename_i t' parts;split at hx<;>try (cases hx;done)
 rename_i i ps hi hps;split at hx<;>try (cases hx;done)
 rename_i hk;split at hx<;>simp at hx;rename_i cs' hcs;obtain ⟨rfl,rfl⟩:=hx;obtain ⟨info,dd,z,hok⟩:=hT t' i hi
 have hzs:tO zs z.cells.toList=true:=by
  unfold xr at hz;rw[hok.hinfo] at hz;simp only[hok.zero] at hz;exact hz
 obtain ⟨fs,hu,hfs,hall⟩:=hok.EO hk
 have hp:=oZ hT hI parts.toList ps (fun p hp t ht=>by
  simp only[Op.operands];have:p.2∈parts.toList.map (·.2):=List.mem_map.2 ⟨p,hp,rfl⟩;rw[ht] at this
  simpa using this) hps
 obtain ⟨cs2,e1,e2,e3⟩:=rQ ps (parts.toList.map fun (i,x)=>(i,a.eval x)) zs z.cells cs' (by simp[hp.1]) hp.2 (yK hzs) hcs
 have hmap:fs.toList.mapM (fun f=>(P.info? f.type).map fun i=>(f.offset,i.size))=some (i.fields.map fun x=>(x.1,x.2.1)):=by
  rw[← hfs];clear hfs hu hcs e1;generalize fs.toList=l at hall
  induction l with
  | nil=>rfl
  | cons f l ih =>
    obtain ⟨⟨j,hj⟩,_,_⟩:=hall f (by simp);simp[List.mapM_cons,hj,ih (fun f hf=>hall f (by simp[hf])),fieldsOf,Program.cellsOf]
 have hb:P.built t' (parts.toList.map fun (i,x)=>(i,a.eval x))=some cs2:=by
  unfold Program.built;simp only[hok.hinfo,hu,hok.zero,hmap];rw[← e1]
  congr 1
  funext k;simp
 have hrun:=run_build w t' (parts.map fun (i,x)=>(i,a.eval x)) cs2 (by simpa using hb);refine bo (v:= .agg cs2) (w':=w) (by simp only[execOp,Sem.run_bind,hrun,Result.andThen_ok];rfl) (hK _ w O (dv.refl hI.lt) ?_)
 have:=Rd.ag (w:=w) (F:=aM O (FW B F0 w)) (l:=cs') (vs:=cs2.toList) e2.1 (fun x hx=>by
  obtain ⟨j,hj⟩:=List.mem_iff_getElem?.1 hx
  exact(e2.get hj).1) (fun j x u h1 h2=>(e2.2 j x u h1 h2).2)
 show Rd _ _ _ _;simpa using this
theorem ab.Fz(hT:bw P T){K:St→Prop}(zs:List D){t:Nat}{cs:List D}(hd:o.dst=some d)(hdn:Nat.ble (d+1) n=true)(hg:aD all σ o=true)(hx:Hg T σ.get zs o.op=some (t,cs))(hz:xr P t zs=true)
  (h:ab P B F0 w0 n all rest K ((d,.d (.ag cs))::σ)):ab P B F0 w0 n all (o::rest) K σ:=ab.pure hg hdn (aI.Fz hT zs hd (bu σ d) hx hz) h
theorem af.Fz(hT:bw P T){K:St→Prop}(zs:List D){t:Nat}{cs:List D}(hd:o.dst=some d)(hdn:Nat.ble (d+1) n=true)(hg:aD ops τ o=true)(hs:σ0.get d=none)(hx:Hg T τ.get zs o.op=some (t,cs))(hz:xr P t zs=true)
  (h:af P B F0 w0 n ops ds σ0 rest ((d,.d (.ag cs))::τ) K):af P B F0 w0 n ops ds σ0 (o::rest) τ K:=af.pure hd hdn rfl hg (aI.Fz hT zs hd hs hx hz) h
theorem bX.x7(e:Nat)(hR:bX P B F0 w0 n R σ a w):bX P B F0 w0 n (R++[(gu,.ow e [])]) σ a w:=by
 obtain ⟨O,hOr,hO,hL⟩:=hR.own;refine⟨hR.below,hR.base,hR.f0,hR.defers,hR.size,O,hOr,hO,fun i r hr=>?_⟩;rcases Nat.lt_or_ge i R.length with h | h
 · rw[List.getElem?_append_left h] at hr;exact hL i r hr
 · rw[List.getElem?_append_right h] at hr
   have:i-R.length=0:=by
    rcases Nat.eq_zero_or_pos (i-R.length) with e | e
    · exact e
    · rw[List.getElem?_eq_none (by simp;omega)] at hr;cases hr
   rw[this] at hr;cases hr;exact .inr ⟨rfl,rfl,.inl ⟨none,rfl,rfl⟩⟩
theorem AZ.x7{Q:Exit→List LR→St→Prop}(e:Nat)(h:AZ P B F0 w0 n x Q (R++[(gu,.ow e [])]) σ):AZ P B F0 w0 n x Q R σ:=fun a w hR=>h a w (hR.x7 e)
end
end Lift
namespace Lift
open Go
open Go.RowKit (Below)
section
variable {P:Program} {T:Ty} {B:Nat} {F0:Nat→Prop} {w0:cL} {n:Nat} {σ:St} {R:List LR} {ops:Array Oper} {o:Oper} {Q:Exit→List LR→St→Prop} {β:gO} {fuel:Nat} {listed:Array Bool}
theorem ay{K:List LR→St→Prop}(h: ∀B1 F1 w1,ab P B1 F1 w1 n ops [o] (fun σ'=>σ'.f'=true∧K R σ') σ):ah P B F0 w0 n ops [o] K [] R σ :=
 ah.cut 1 rfl (fun B1 F1 w1=>by
  have:=h B1 F1 w1
  refine fun a w hR Q hQ=>this a w hR Q (fun a' w' σ' ⟨h1,h2⟩ hR'=>hQ a' w' σ' ⟨h1,ah.nil h2⟩ hR'))
theorem ZH.mv(i:Nat)(ho:ops[i]?=some o)(hg:o.guard=none)(hs:Region.noSelect ops=true)(hf:Region.free .any ops listed i=true)(hr:(Region.ready .any ops listed).contains i=true)(hm:Bq o.op=true)
  (hpan: ∀c R σ,Q (.panic c) R σ→False) (hpn: ∀bl,eQ (de β bl) [o]=true) (hσ:mq σ β)
  (h: ∀B1 F1 w1,ab P B1 F1 w1 n ops [o] (fun σ'=>σ'.f'=true∧ZH P B F0 w0 n ops Q β fuel (listed.setIfInBounds i true) R σ') σ):ZH P B F0 w0 n ops Q β (fuel+1) listed R σ :=
 ZH.first i ho hg hs hf hr hpan hpn hσ (fun bl a w _ _=>let ⟨v,h⟩:=EE hm a;⟨v,fun w' _=>h w'⟩) (ay h)
theorem ZH.fd(hT:bw P T)(i:Nat)(ho:ops[i]?=some o)(hg:o.guard=none)(hs:Region.noSelect ops=true)(hf:Region.free .any ops listed i=true)(hr:(Region.ready .any ops listed).contains i=true)(hm:E2 T σ o.op=true)
  (hpan: ∀c R σ,Q (.panic c) R σ→False) (hpn: ∀bl,eQ (de β bl) [o]=true) (hσ:mq σ β)
  (h: ∀B1 F1 w1,ab P B1 F1 w1 n ops [o] (fun σ'=>σ'.f'=true∧ZH P B F0 w0 n ops Q β fuel (listed.setIfInBounds i true) R σ') σ):ZH P B F0 w0 n ops Q β (fuel+1) listed R σ :=
 ZH.first i ho hg hs hf hr hpan hpn hσ (fun bl a w hR _=>let ⟨v,h⟩:=Cw hT hR.rel hm;⟨v,fun w' _=>h w'⟩) (ay h)
theorem ZH.ld(hT:bw P T)(i:Nat){ti:TI}{t off:Nat}{ds:List D}{u:Value}(ho:ops[i]?=some o)(hg:o.guard=none)(hs:Region.noSelect ops=true)(hf:Region.free .any ops listed i=true)(hr:(Region.ready .any ops listed).contains i=true)(hx:JT T σ β o.op=some (ti,t,off,ds,u))(hl:jY ti [.v u]=some (.d (.v u)))
  (hpan: ∀c R σ,Q (.panic c) R σ→False) (hpn: ∀bl,eQ (de β bl) [o]=true) (hσ:mq σ β)
  (h: ∀B1 F1 w1,ab P B1 F1 w1 n ops [o] (fun σ'=>σ'.f'=true∧ZH P B F0 w0 n ops Q β fuel (listed.setIfInBounds i true) R σ') σ):ZH P B F0 w0 n ops Q β (fuel+1) listed R σ :=
 ZH.first i ho hg hs hf hr hpan hpn hσ (fun bl a w hR hp=>Im hT hR hσ hp hx hl) (ay h)
end
end Lift
namespace Lift
open Go
open Go.RowKit (Below)
section
variable {P:Program} {T:Ty} {B:Nat} {F0:Nat→Prop} {w0:cL} {n:Nat} {σ:St} {R:List LR} {ops:Array Oper} {o o1 o2 o3:Oper} {Q:Exit→List LR→St→Prop} {β:gO} {fuel:Nat} {listed:Array Bool}
def oK(P:Program)(B:Nat)(F0:Nat→Prop)(w0:cL)(n:Nat)(ops:Array Oper)(Q:Exit→List LR→St→Prop)(β:gO)(fuel:Nat)(listed:Array Bool)(R:List LR)(σ:St)(i:Nat)(o:Oper):Prop :=
 ah P B F0 w0 n ops [o] (fun R' σ'=>ZH P B F0 w0 n ops Q β fuel (listed.setIfInBounds i true) R' σ') [] R σ
theorem ZH.many(rs:List Nat)(hr:Region.ready .any ops listed=rs)(hne:rs≠[])(hσ:mq σ β)
  (h: ∀i∈rs,∃o,ops[i]?=some o∧o.guard=none∧(∀bl,eQ (de β bl) [o]=true)∧oK P B F0 w0 n ops Q β fuel listed R σ i o):ZH P B F0 w0 n ops Q β (fuel+1) listed R σ:=by
 refine⟨hσ,fun bl a w hR hp=>wpAnyH_all hr hne (fun j hj=>?_)⟩;obtain ⟨o,ho,hg,hpn,h⟩:=h j hj;have h1:=ud (hpn bl) h hR hp;have hw:Region.wanted o (yielded ops a.tmps)=true:=by simp[Region.wanted,hg]
 unfold wpOp;simp only[ho,hw,if_true];unfold wpList at h1;rw[if_pos hw] at h1;rcases h1 with h1 | ⟨_,a1,w1,⟨h2,_⟩,_⟩
 · refine .inl (jG (fun c a w h=>by cases h.1.1) (fun ⟨a,w,h⟩=>by cases h.1.1) (fun v dd w' hn=>?_) h1);unfold wpList at hn;obtain ⟨⟨_,R',σ',h2,h3⟩,h4⟩:=hn;exact⟨FK h3 h2.1 (h4 rfl),h2.2 bl _ _ h3 (h4 rfl)⟩
 · cases h2
theorem ZH.two(i j:Nat)(hr:Region.ready .any ops listed=[i,j])(ho1:ops[i]?=some o1)(ho2:ops[j]?=some o2)(hg1:o1.guard=none)(hg2:o2.guard=none)(hp1: ∀bl,eQ (de β bl) [o1]=true)(hp2: ∀bl,eQ (de β bl) [o2]=true)(hσ:mq σ β)
  (h1:oK P B F0 w0 n ops Q β fuel listed R σ i o1) (h2:oK P B F0 w0 n ops Q β fuel listed R σ j o2):ZH P B F0 w0 n ops Q β (fuel+1) listed R σ :=
 ZH.many [i,j] hr (by simp) hσ (fun k hk=>by
   simp only[List.mem_cons,List.not_mem_nil,or_false] at hk;rcases hk with rfl | rfl
   · exact⟨o1,ho1,hg1,hp1,h1⟩
   · exact⟨o2,ho2,hg2,hp2,h2⟩)
theorem ZH.three(i j k:Nat)(hr:Region.ready .any ops listed=[i,j,k])(ho1:ops[i]?=some o1)(ho2:ops[j]?=some o2)(ho3:ops[k]?=some o3)(hg1:o1.guard=none)(hg2:o2.guard=none)(hg3:o3.guard=none)(hp1: ∀bl,eQ (de β bl) [o1]=true)(hp2: ∀bl,eQ (de β bl) [o2]=true)(hp3: ∀bl,eQ (de β bl) [o3]=true)(hσ:mq σ β)
  (h1:oK P B F0 w0 n ops Q β fuel listed R σ i o1) (h2:oK P B F0 w0 n ops Q β fuel listed R σ j o2) (h3:oK P B F0 w0 n ops Q β fuel listed R σ k o3):ZH P B F0 w0 n ops Q β (fuel+1) listed R σ :=
 ZH.many [i,j,k] hr (by simp) hσ (fun m hk=>by
   simp only[List.mem_cons,List.not_mem_nil,or_false] at hk;rcases hk with rfl | rfl | rfl
   · exact⟨o1,ho1,hg1,hp1,h1⟩
   · exact⟨o2,ho2,hg2,hp2,h2⟩
   · exact⟨o3,ho3,hg3,hp3,h3⟩)
theorem ZH.meet(fuel':Nat)(listed':Array Bool)(Rf:Value→List LR)(σf:Value→St)(h: ∀V,ZH P B F0 w0 n ops Q β fuel' listed' (Rf V) (σf V))
  (hk:(∀V,ZH P B F0 w0 n ops Q β fuel' listed' (Rf V) (σf V))→ZH P B F0 w0 n ops Q β fuel listed R σ):ZH P B F0 w0 n ops Q β fuel listed R σ:=hk h
theorem ZH.ls(l':Array Bool)(h:listed=l')(hk:ZH P B F0 w0 n ops Q β fuel l' R σ):ZH P B F0 w0 n ops Q β fuel listed R σ:=h▸hk
end
end Lift
namespace Lift
open Go
section
variable {P:Program} {B:Nat} {F0:Nat→Prop} {w0:cL} {n:Nat} {σ τ:St} {R:List LR} {ops:Array Oper} {Q:Exit→List LR→St→Prop} {β:gO} {fuel:Nat} {listed l':Array Bool}
def qB(n k:Nat):Array Bool:=⟨(List.range n).map (fun i=>Nat.testBit k i)⟩
theorem qL(hk:ZH P B F0 w0 n ops Q β fuel l' R τ)(h:listed=l')(hs:σ.bP (τ.map Prod.fst)=τ)(hσ:mq σ β):ZH P B F0 w0 n ops Q β fuel listed R σ :=
 ZH.to _ _ hs hσ (ZH.ls _ h hk)
end
end Lift
namespace Lift
open Go
open Go.RowKit (Below)
section
variable {P:Program} {T:Ty} {B:Nat} {F0:Nat→Prop} {w0:cL} {n:Nat} {σ τ σ0:St} {R:List LR} {ops all:Array Oper} {l rest:List Oper} {o:Oper} {d:Nat} {lk hm:Nat→Option AV} {x:Code} {a:Act} {w:World} {K:List LR→St→Prop} {p:ju} {ds:List Nat}
end
end Lift
namespace Lift
open Go
open Go.RowKit (Below)
def FR(l:Nat):Fence:=Fence.wide.inRound l
def gW(o:Oper):Bool:=match o.op with
 | .defer _=>false
 | _=>true
theorem uT{o:Oper}(h:gW o=true): ∀c,o.op≠ .defer c:=fun c e=>by simp[gW,e] at h
theorem Hw{P:Program}{l m:Nat}{o:Oper}{a:Act}{w:World}{K:Act→World→Prop}{Q:Exit→Act→World→Prop}(hnd:gW o=true)(h:o.wp P a w K Q):o.wpIn (FR l) m P a w K Q:=by
 refine⟨fun _ _=>trivial,?_⟩;rw[Oper.semAt_eq _ _ _ (uT hnd)];unfold Oper.wp at h;generalize (execOp a.eval o).run P w=r at h;have hd:(FR l).depth.isSome=true→1≤m:=fun h=>by simp[FR,Fence.inRound,Fence.wide] at h
 cases r with
 | ok x w' =>
   cases x<;>simp only[Oper.upon] at h<;>try (exact h)
   · exact⟨hd,CallsIn.inRound l ((callsIn_wide.2 h).mono (fun e w'' he=>by cases e<;>exact he))⟩
   · refine⟨hd,fun c cs _=>?_⟩;obtain ⟨v,w'',r,s⟩:=h c cs;exact⟨v,w'',r,stepsIn_wide.2 s⟩
 | halt x w'=>cases x<;>simp only[Oper.upon] at h<;>exact h
theorem qZ{P:Program}{l m:Nat}{ops:Array Oper}{Q:Exit→Act→World→Prop}(hQ: ¬LetsOut Q): ∀(os:List Oper) (a:Act) (w:World),os.all gW=true→wpList P ops Q os a w→wpListIn (FR l) m P ops Q os a w
 | [],_,_,_,h=>h
 | o::os,a,w,hnd,h=>by
   simp only[List.all_cons,Bool.and_eq_true] at hnd;unfold wpList at h;unfold wpListIn;split at h
   · rw[if_pos (by assumption)];rcases h with h | ⟨_,h⟩
     · exact Oper.wpIn_mono (fun a w h=>qZ hQ os a w hnd.2 h) (Hw hnd.1 h)
     · exact absurd h hQ
   · rw[if_neg (by assumption)];exact⟨fun _ _=>trivial,qZ hQ os _ _ hnd.2 h⟩
theorem pD{P:Program}{l m:Nat}{ops:Array Oper}{Q:Exit→Act→World→Prop}(hQ: ¬LetsOut Q)(hnd:ops.toList.all gW=true): ∀(fuel:Nat) (listed:Array Bool) (a:Act) (w:World),wpAny P .any ops Q fuel listed a w→wpAnyIn (FR l) m P .any ops Q fuel listed a w
 | 0,_,_,_,h=>h
 | fuel+1,listed,a,w,h=>by
   refine⟨h.1,fun i hi=>?_⟩;have h2:=h.2 i hi;unfold wpOp at h2;unfold wpOpIn;cases ho:ops[i]? with
   | none=>rw[ho] at h2;exact pD hQ hnd fuel _ _ _ h2
   | some o =>
     simp only[ho] at h2 ⊢
     have hno:gW o=true:=by
      rw[List.all_eq_true] at hnd;refine hnd o ?_;rw[Array.mem_toList_iff];exact Array.mem_of_getElem? ho
     split at h2
     · rw[if_pos (by assumption)];rcases h2 with h2 | ⟨_,h2⟩
       · exact Oper.wpIn_mono (fun a w h=>pD hQ hnd fuel _ a w h) (Hw hno h2)
       · exact absurd h2 hQ
     · rw[if_neg (by assumption)];exact⟨fun _ _=>trivial,pD hQ hnd fuel _ _ _ h2⟩
section
variable {P:Program} {T:Ty} {B:Nat} {F0:Nat→Prop} {w0:cL} {n r:Nat} {pn:ju} {σ:St} {R:List LR} {x y:Code} {Q:Exit→List LR→St→Prop}
def Jc(P:Program)(B:Nat)(F0:Nat→Prop)(w0:cL)(n:Nat)(pn:ju)(Q:Exit→List LR→St→Prop):Exit→Act→World→Prop:=fun e a w=>(∃R σ,Q e R σ∧bX P B F0 w0 n R σ a w)∧fb pn a
theorem zL{p:ju}{a:Act}{o:Oper}{v:Value}{d:List Deferred}(hp:fb p a)(hd: ∀e,e∈p→o.dst≠some e.1):fb p ({a with defers:=d}.put o.dst v):=fun e he=>by
 cases hdst:o.dst with
 | none=>exact hp e he
 | some k =>
   have:k≠e.1:=fun h=>hd e he (by rw[hdst,h]);rw[b6 (Ne.symm this)];exact hp e he
theorem lR{p:ju}{ops:Array Oper}{Q:Exit→Act→World→Prop}(hd: ∀e,e∈p→ ∀o,o∈ops.toList→o.dst≠some e.1): ∀(fuel:Nat) (listed:Array Bool) (a:Act) (w:World),fb p a→wpAny P .any ops Q fuel listed a w→wpAny P .any ops (fun e a w=>Q e a w∧(e= .normal→fb p a)) fuel listed a w
 | 0,_,_,_,hp,h=>⟨h.1,h.2,fun _=>hp⟩
 | fuel+1,listed,a,w,hp,h=>by
   refine⟨fun hr=>⟨h.1 hr,fun _=>hp⟩,fun i hi=>?_⟩;have h2:=h.2 i hi;unfold wpOp at h2 ⊢;cases ho:ops[i]? with
   | none=>simp only[ho] at h2 ⊢; exact lR hd fuel _ _ _ hp h2
   | some o =>
     simp only[ho] at h2 ⊢;have hmem:o∈ops.toList:=by rw[Array.mem_toList_iff];exact Array.mem_of_getElem? ho
     have hdo: ∀e,e∈p→o.dst≠some e.1:=fun e he=>hd e he o hmem;split at h2
     · rw[if_pos (by assumption)];rcases h2 with h2 | ⟨h3,a1,w1,h4⟩
       · exact .inl (jG (fun c a w h=>⟨h,fun e=>by cases e⟩) (fun ⟨a,w,h⟩=>⟨a,w,h,fun e=>by cases e⟩) (fun v d w h=>lR hd fuel _ _ _ (zL hp hdo) h) h2)
       · exact .inr ⟨h3,a1,w1,h4,fun e=>by cases e⟩
     · rw[if_neg (by assumption)];exact lR hd fuel _ _ _ (zL (d:=a.defers) hp hdo) h2
theorem Ae{c:Operand}{b:Bool}{a:Act}{w:World}(hc:jr σ c=some b)(hR:bX P B F0 w0 n R σ a w):a.eval c= .bool b:=by
 unfold jr at hc;split at hc<;>try (cases hc;done)
 · split at hc<;>simp at hc;rename_i hg;subst hc;obtain ⟨O,hOr,hO,_⟩:=hR.own;obtain ⟨v,hv,hr⟩:=hO _ _ hg;have:=(Rd.ke hr).1;subst this;exact eW hv
 · simp at hc;subst hc;rfl
def AR(P:Program)(B:Nat)(F0:Nat→Prop)(w0:cL)(n r:Nat)(pn:ju)(c:Code)(Q:Exit→List LR→St→Prop)(R:List LR)(σ:St):Prop :=
 ∀(m:Nat) (a:Act) (w:World),bX P B F0 w0 n R σ a w→fb pn a→c.wpIn (FR r) m P (Jc P B F0 w0 n pn Q) a w
theorem AR.skip(h:Q .normal R σ):AR P B F0 w0 n r pn .skip Q R σ:=fun m a w hR hp=>wpIn_skip ⟨⟨R,σ,h,hR⟩,hp⟩
theorem AR.exit{id:Nat}(h:Q (.exit id) R σ):AR P B F0 w0 n r pn (.exit id) Q R σ:=fun m a w hR hp=>wpIn_exit ⟨⟨R,σ,h,hR⟩,hp⟩
theorem AR.ret(h:Q .ret R σ):AR P B F0 w0 n r pn .ret Q R σ:=fun m a w hR hp=>wpIn_ret ⟨⟨R,σ,h,hR⟩,hp⟩
theorem AR.seq(h:AR P B F0 w0 n r pn x (DM (AR P B F0 w0 n r pn y Q) Q) R σ):AR P B F0 w0 n r pn (.seq x y) Q R σ:=by
 intro m a w hR hp;refine wpIn_seq (wpIn_mono (h m a w hR hp) fun e a' w' ⟨⟨R',σ',hq,hR'⟩,hp'⟩=>?_);cases e<;>first | exact hq m a' w' hR' hp' | exact⟨⟨R',σ',hq,hR'⟩,hp'⟩
theorem AR.block{id:Nat}(h:AR P B F0 w0 n r pn x (yu id Q) R σ):AR P B F0 w0 n r pn (.block id x) Q R σ:=by
 intro m a w hR hp;refine wpIn_block (wpIn_mono (h m a w hR hp) fun e a' w' ⟨⟨R',σ',hq,hR'⟩,hp'⟩=>?_);cases e with
 | exit i =>
   simp only[yu] at hq;simp only[Exit.inBlock];split at hq
   · rename_i hb;rw[if_pos (Nat.eq_of_beq_eq_true hb)];exact⟨⟨R',σ',hq,hR'⟩,hp'⟩
   · rename_i hb;rw[if_neg (Nat.ne_of_beq_eq_false hb)];exact⟨⟨R',σ',hq,hR'⟩,hp'⟩
 | _=>exact⟨⟨R',σ',hq,hR'⟩,hp'⟩
theorem AR.region{id:Nat}{ops:Array Oper}(hnd:ops.toList.all gW=true)(hpn:eQ pn ops.toList=true)(h:ah P B F0 w0 n ops ops.toList (Q .normal) [] R σ):AR P B F0 w0 n r pn (.region id ops false) Q R σ:=by
 intro m a w hR hp
 have h1:wpList P ops (fun e a' w'=>(e= .normal∧ ∃R' σ',Q .normal R' σ'∧bX P B F0 w0 n R' σ' a' w')∧(e= .normal→fb pn a')) ops.toList a w :=
  iN hp (iV hpn) (h a w hR (fun e he=>by cases he) _ (fun a w R' σ' h1 h2=>⟨rfl,R',σ',h1,h2⟩))
 refine wpIn_mono (wpIn_region_list (qZ (fun ⟨a,w,h⟩=>by cases h.1.1) _ _ _ hnd h1)) (fun e a' w' ⟨⟨he,R',σ',hq,hR'⟩,hp'⟩=>?_);subst he;exact⟨⟨R',σ',hq,hR'⟩,hp' rfl⟩
theorem AR.any{id:Nat}{ops:Array Oper}(iX:P.follows .mixedOrders=true)(hnd:ops.toList.all gW=true)(hpn:eQ pn ops.toList=true)(h:fP P B F0 w0 n ops (fun e R σ=>e= .normal∧Q .normal R σ) R σ):AR P B F0 w0 n r pn (.region id ops true) Q R σ:=by
 intro m a w hR hp;have h1:=lR (iV hpn) _ _ _ _ (show fb pn a from hp) (h a w hR);refine wpIn_mono (wpIn_region_any iX (pD (fun ⟨a,w,h⟩=>by obtain ⟨⟨_,_,⟨h,_⟩,_⟩,_⟩:=h;cases h) hnd _ _ _ _ h1)) (fun e a' w' ⟨⟨R',σ',⟨he,hq⟩,hR'⟩,hp'⟩=>?_);subst he;exact⟨⟨R',σ',hq,hR'⟩,hp' rfl⟩
theorem AR.to(ks:List Nat)(τ:St)(h:σ.bP ks=τ)(hk:AR P B F0 w0 n r pn x Q R τ):AR P B F0 w0 n r pn x Q R σ:=fun m a w hR hp=>hk m a w (h▸hR.bP ks) hp
theorem AR.cond{c:Operand}{b:Bool}(hc:jr σ c=some b)(h1:b=true→AR P B F0 w0 n r pn x Q R σ)(h2:b=false→AR P B F0 w0 n r pn y Q R σ):AR P B F0 w0 n r pn (.cond c x y) Q R σ:=by
 intro m a w hR hp;have he:a.eval c= .bool b:=Ae hc hR;exact wpIn_cond_split he (fun h=>h1 h m a w hR hp) (fun h=>h2 h m a w hR hp)
end
end Lift
namespace Lift
open Go
open Go.RowKit (Below)
inductive Th (T:Ty) (R:List LR) (cs:List D):List D→Prop
 | refl:Th T R cs cs
 | set {ds:List D} {V:Value} {e:Nat} {xs:List D} {te:TI} (k i:Nat) (h:Th T R cs ds) (hk:cs[k]?=some (.v V)) (hi:R[i]?=some (V,.ow e xs)) (he:T.get e=some te):Th T R cs (ds.set k (.sl te.size xs))
section
variable {P:Program} {T:Ty} {B:Nat} {F0:Nat→Prop} {w0:cL} {n:Nat} {σ σ':St} {R R':List LR} {all:Array Oper} {l rest:List Oper} {o:Oper} {d:Nat} {K:List LR→St→Prop} {p:ju}
theorem Th.rd(hT:bw P T){w:World}{O:Nat→Option Nat}{F G:Nat→Prop}{cs ds:List D}{vs:List Value}(hr:lO w (aM O F) cs vs)(hL: ∀i r,R[i]?=some r→fi P w O F (n+i) r)(hG: ∀c,F c→G c)(hO: ∀c t,O c=some t→G c)(h:Th T R cs ds):
  ∀(j:Nat) (d:D),ds[j]?=some d→d.a7=true∧ ∃u,vs[j]?=some u∧Rd w G d u:=by
 induction h with
 | refl =>
   intro j d hd;obtain ⟨h1,u,h2,h3⟩:=hr.get hd;exact⟨h1,u,h2,h3.mono (fun c hc=>hG c hc.2) (fun _ _=>rfl)⟩
 | set k i h hk hi he ih =>
   rename_i ds V e xs te;intro j d hd;by_cases hj:j=k
   · subst hj
     have hlt:j<ds.length:=by
      rcases Nat.lt_or_ge j ds.length with h | h
      · exact h
      · rw[List.getElem?_eq_none (by simpa using h)] at hd;cases hd
     rw[List.getElem?_set_self hlt] at hd;cases hd;obtain ⟨_,u,h2,h3⟩:=hr.get hk;have hu:=(Rd.ke h3).1;subst hu;obtain ⟨info,dd,z,hok⟩:=hT e te he;refine⟨rfl,u,h2,?_⟩;rcases hL i _ hi with h | ⟨_,_,h⟩
     · cases h
     · rcases h with ⟨base,g1,g2⟩ | ⟨b,cap,cc,g3,g4,g5,g6,g7,g8,g9,g10⟩
       · simp only at g1 g2;subst g1;subst g2;exact .nil (Nat.zero_le _)
       · simp only at g3;subst g3
         have:=Rd.kV (w:=w) (F:=G) (s:=P.cellsOf e) (l:=xs) (off:=0) (cap:=cap) (hO b _ g4) g5 g6 g7 g9 (fun m d hd=>by
          obtain ⟨f1,u,f2,f3⟩:=g10 m d hd
          exact⟨f1,u,by simpa using f2,f3.mono (fun c hc=>hG c hc.2) (fun _ _=>rfl)⟩)
         rwa [hok.cellsOf] at this
   · rw[List.getElem?_set_ne (Ne.symm hj)] at hd;exact ih j d hd
theorem fi.plain{w:World}{O O':Nat→Option Nat}{F F':Nat→Prop}{s t e:Nat}{V:Value}{xs:List D}(hp:iC xs=true)(h:fi P w O F s (V,.ow e xs))(hO: ∀c,O c=some s→O' c=some t):fi P w O' F' t (V,.ow e xs):=by
 rcases h with h | ⟨h1,h2,h⟩
 · cases h
 · refine .inr ⟨h1,h2,?_⟩;rcases h with h | ⟨b,cap,cc,g3,g4,g5,g6,g7,g8,g9,g10⟩
   · exact .inl h
   · exact .inr ⟨b,cap,cc,g3,hO b g4,g5,g6,g7,g8,g9,fun i d hd=>by
      obtain ⟨f1,u,f2,f3⟩:=g10 i d hd
      exact⟨f1,u,f2,f3.plain (l3 hp hd)⟩⟩
end
end Lift
namespace Lift
open Go
open Go.RowKit (Below)
def FF(ro:Option Nat):Fence:={Fence.wide with round:=ro}
theorem H'{P:Program}{ro:Option Nat}{m:Nat}{o:Oper}{a:Act}{w:World}{K:Act→World→Prop}{Q Q':Exit→Act→World→Prop}(hnd:gW o=true)(hp: ∀c a w,Q' (.panic c) a w→Q (.panic c) a w)(ho:LetsOut Q'→LetsOut Q)(h:o.wp P a w K Q'):o.wpIn (FF ro) m P a w K Q:=by
 refine⟨fun _ _=>trivial,?_⟩;rw[Oper.semAt_eq _ _ _ (uT hnd)];unfold Oper.wp at h;generalize (execOp a.eval o).run P w=r at h;have hd:(FF ro).depth.isSome=true→1≤m:=fun h=>by simp[FF,Fence.wide] at h
 cases r with
 | ok x w' =>
   cases x<;>simp only[Oper.upon] at h<;>try (exact h)
   · rename_i f args;have h1:CallsIn Fence.wide (m-1) P f args w' _:=(callsIn_wide.2 h).mono (fun e w'' he=>he);refine⟨hd,?_⟩;have h2:CallsIn (FF ro) (m-1) P f args w' _:=h1;exact h2.mono (fun e w'' he=>by cases e<;>first | exact he | exact hp _ _ _ he | exact ho he)
   · refine⟨hd,fun c cs _=>?_⟩;obtain ⟨v,w'',r,s⟩:=h c cs;exact⟨v,w'',r,stepsIn_wide.2 s⟩
 | halt x w'=>cases x<;>simp only[Oper.upon] at h<;>exact hp _ _ _ h
theorem pc{P:Program}{ro:Option Nat}{m:Nat}{ops:Array Oper}{Q Q':Exit→Act→World→Prop}{l2:List Oper}(hk: ∀a w,Q' .normal a w→wpListIn (FF ro) m P ops Q l2 a w)(hp: ∀c a w,¬Q' (.panic c) a w)(ho: ¬LetsOut Q'):
  ∀(l1:List Oper) (a:Act) (w:World),l1.all gW=true→wpList P ops Q' l1 a w→wpListIn (FF ro) m P ops Q (l1++l2) a w
 | [],a,w,_,h=>hk a w h
 | o::l1,a,w,hnd,h=>by
   simp only[List.all_cons,Bool.and_eq_true] at hnd;unfold wpList at h;rw[List.cons_append];unfold wpListIn;split at h
   · rw[if_pos (by assumption)];rcases h with h | ⟨_,h⟩
     · exact Oper.wpIn_mono (fun a w h=>pc hk hp ho l1 a w hnd.2 h) (H' hnd.1 (fun c a w h=>absurd h (hp c a w)) (fun h=>absurd h ho) h)
     · exact absurd h ho
   · rw[if_neg (by assumption)];exact⟨fun _ _=>trivial,pc hk hp ho l1 _ _ hnd.2 h⟩
theorem AB{S:Type}{F:Fence}{m:Nat}{P:Program}{c:Code}{Q:Exit→Act→World→Prop}{a:Act}{w:World}(G:Act→World→S→Prop)(μ:S→Nat)(s0:S)(h0:G a w s0)
  (hb: ∀a w s,G a w s→c.wpIn F m P (Exit.then (fun a' w'=> ∃s',G a' w' s'∧μ s'<μ s) Q) a w):(Code.loop c).wpIn F m P Q a w:=by
 have hex: ∀a w,(∃s,G a w s)→ ∃m,(∃s,μ s=m∧G a w s)∧ ∀s,G a w s→m≤μ s:=fun a w ⟨s,h1⟩=>by
  let q:Nat→Prop:=fun m=> ∃s,μ s=m∧G a w s
  have key: ∀k m,m≤k→q m→ ∃m0,q m0∧ ∀m',q m'→m0≤m':=by
   intro k
   induction k with
   | zero=>intro m hm hp;exact⟨m,hp,fun m' _=>by omega⟩
   | succ k ih =>
     intro m hm hp;by_cases hlt: ∃m',m'≤k∧q m'
     · obtain ⟨m',h1,h2⟩:=hlt;exact ih m' h1 h2
     · exact⟨m,hp,fun m' hp'=>by
        rcases Nat.lt_or_ge k m' with h | h
        · omega
        · exact absurd ⟨m',h,hp'⟩ hlt⟩
  obtain ⟨m0,h3,h4⟩:=key (μ s) (μ s) (ao _) ⟨s,rfl,h1⟩;exact⟨m0,h3,fun s' g=>h4 _ ⟨s',rfl,g⟩⟩
 let M:Act→World→Nat:=fun a w=>open Classical in if h: ∃s,G a w s then Classical.choose (hex a w h) else 0
 have hM: ∀a w,(∃s,G a w s)→(∃s,μ s=M a w∧G a w s)∧ ∀s,G a w s→M a w≤μ s:=fun a w h=>by
  have:=Classical.choose_spec (hex a w h);simp only[M,dif_pos h];exact this
 refine wpIn_loop (fun a w=> ∃s,G a w s) M ⟨s0,h0⟩ (fun a w hg=>?_);obtain ⟨⟨s1,hm,hG⟩,_⟩:=hM a w hg;refine wpIn_mono (hb a w s1 hG) fun e a' w' hq=>?_;cases e with
 | normal =>
   obtain ⟨s',h1,h2⟩:=hq;refine⟨⟨s',h1⟩,?_⟩;have:=(hM a' w' ⟨s',h1⟩).2 s' h1;omega
 | _=>exact hq
structure IS (P:Program) (G:Nat→Prop) (l n:Nat) (x:Option D) (ys:List Nat) (σ:St) (a:Act) (W:World):Prop where
 defers:a.defers=[]
 size:a.tmps.size=n
 y: ∀t,t∈ys→a.tmps[t]?=some (.func (.yield l) #[] #[])
 c: ∀xd,x=some xd→ ∃v,a.tmps[1]?=some v∧Rd W G xd v
 lt: ∀b,x≠none→G b→b<W.heap.size
 sl: ∀t av,σ.get t=some av→ ∃z,av= .d (.v z)∧dz z=true∧a.tmps[t]?=some z
def HX(x:Option D)(σ:St):St:=match x with
 | some xd=>(1,.d xd)::σ
 | none=>σ
def IX:St→Bool
 | []=>true
 | (_,.d (.v _))::r=>IX r
 | _=>false
theorem Cd: ∀{σ:St},IX σ=true→ ∀t av,σ.get t=some av→ ∃z,av= .d (.v z)
 | [],_,t,av,h=>by cases h
 | (k,b)::r,hp,t,av,h=>by
   rw[St.aE] at h;unfold IX at hp;split at hp<;>try (cases hp;done)
   · rename_i he;cases he
   · rename_i k' z r' he;cases he;split at h
     · cases h;exact⟨_,rfl⟩
     · exact Cd hp t av h
section
variable {P:Program} {T:Ty} {G:Nat→Prop} {l n:Nat} {x:Option D} {ys:List Nat} {σ τ:St} {a a':Act} {W W':World}
theorem IS.rel(h:IS P G l n x ys σ a W):Rel P W.heap.size (fun b=>x≠none∧G b) ⟨W,fun _=>False⟩ n (HX x σ) a W:=by
 refine⟨.refl _ _ _,ao _,⟨fun b hb=>h.lt b hb.1 hb.2,fun _ h=>h.elim⟩,h.defers,h.size,fun _=>none,(fun b t h=>by cases h),fun t av hav=>?_⟩
 have hsl:σ.get t=some av→ ∃v,a.tmps[t]?=some v∧dR P (fun _=>False) W (fun _=>none) (FW W.heap.size (fun b=>x≠none∧G b) W) (St.get (HX x σ)) (fun h=>a.tmps[h]?) t av v:=fun hav=>by
  obtain ⟨z,rfl,hp,hz⟩:=h.sl t av hav;exact⟨z,hz,.v hp⟩
 cases hx:x with
 | none=>rw[hx] at hav hsl;exact hsl hav
 | some xd =>
   rw[hx] at hsl;rw[hx,HX,St.aE] at hav;split at hav
   · rename_i e;subst e;cases hav;obtain ⟨v,hv,hr⟩:=h.c xd hx;exact⟨v,hv,Rd.mono hr (fun b hb=>⟨rfl,.inl ⟨by simp,hb⟩⟩) (fun _ _=>rfl)⟩
   · exact hsl hav
theorem IS.step{v:Value}{ys':List Nat}{ks:List Nat}{σ':St}(h:IS P G l n x ys σ a W)(hR:Rel P W.heap.size (fun b=>x≠none∧G b) ⟨W,fun _=>False⟩ n σ' a' W')(hv:x≠none→a'.tmps[1]?=a.tmps[1]?)(hy: ∀t,t∈ys'→a'.tmps[t]?=some (.func (.yield l) #[] #[]))(hk:σ'.bP ks=τ)(hp:IX τ=true):
  IS P G l n x ys' τ a' W'∧Below W.heap.size W W':=by
 have hb:Below W.heap.size W W':=⟨hR.below.os,hR.below.tape,hR.below.output,hR.below.size,fun k hk=>hR.below.block k hk (fun h=>h)⟩;refine⟨⟨hR.defers,hR.size,hy,fun xd hx=>?_,fun b hx hG=>Nat.lt_of_lt_of_le (h.lt b hx hG) hb.size,fun t av hav=>?_⟩,hb⟩
 · obtain ⟨u,hu,hr⟩:=h.c xd hx;exact⟨u,by rw[hv (by rw[hx];simp)];exact hu,hr.mono (fun _ h=>h) (fun b hG=>hb.block b (h.lt b (by rw[hx];simp) hG))⟩
 · obtain ⟨z,rfl⟩:=Cd hp t av hav;have hR':=hR.bP ks;rw[hk] at hR';obtain ⟨O,_,hO⟩:=hR'.own;obtain ⟨u,hu,hr⟩:=hO t _ hav;obtain ⟨e,hpl⟩:=Rd.ke hr;subst e;exact⟨_,rfl,hpl,hu⟩
theorem pC{ops:Array Oper}{Q:Exit→Act→World→Prop}{os:List Oper}{a:Act}{W:World}: ∀(ts:List Nat),(∀t,t∈ts→ ∀o,o∈os→o.dst≠some t)→wpList P ops Q os a W→wpList P ops (fun e a' w'=>Q e a' w'∧(e= .normal→ ∀t,t∈ts→a'.tmps[t]?=a.tmps[t]?)) os a W
 | [],_,h=>eA (fun e a w h=>⟨h,fun _ t ht=>by cases ht⟩) h
 | t::ts,hd,h=>by
   have h1:=pC ts (fun t' ht=>hd t' (by simp[ht])) h;refine eA (fun e a' w' h2=>?_) (kl (t:=t) (x:=a.tmps[t]?) os a W (hd t (by simp)) rfl h1);obtain ⟨⟨g1,g2⟩,g3⟩:=h2;refine⟨g1,fun he t' ht=>?_⟩;rcases List.mem_cons.1 ht with rfl | ht
   · exact g3 he
   · exact g2 he t' ht
variable {β:Type} {JJ:β→World→Prop} {ops:Array Oper} {os rest:List Oper} {o:Oper} {Q:Exit→β→Option D→St→Prop} {s s1 s2:β} {c c2:Code} {d:Nat}
def ER(P:Program)(G:Nat→Prop)(l n:Nat)(JJ:β→World→Prop)(Q:Exit→β→Option D→St→Prop):Exit→Act→World→Prop:=fun e a W=> ∃s x σ,Q e s x σ∧IS P G l n x [0] σ a W∧JJ s W
def F2(P:Program)(G:Nat→Prop)(l n:Nat)(JJ:β→World→Prop)(ops:Array Oper)(os:List Oper)(ys:List Nat)(Q:Exit→β→Option D→St→Prop)(s:β)(x:Option D)(σ:St):Prop :=
 ∀(m:Nat) (a:Act) (W:World),IS P G l n x ys σ a W→JJ s W→wpListIn (FF none) m P ops (ER P G l n JJ Q) os a W
def AI(P:Program)(G:Nat→Prop)(l n:Nat)(JJ:β→World→Prop)(c:Code)(Q:Exit→β→Option D→St→Prop)(s:β)(x:Option D)(σ:St):Prop :=
 ∀(m:Nat) (a:Act) (W:World),IS P G l n x [0] σ a W→JJ s W→c.wpIn (FF none) m P (ER P G l n JJ Q) a W
def KA(JJ:β→World→Prop):Prop:= ∀s W W',JJ s W→Below W.heap.size W W'→JJ s W'
def Jd(ys:List Nat):ju:=(1::ys).map (fun t=>(t,undef))
theorem F2.nil(h0:0∈ys)(h:Q .normal s x σ):F2 P G l n JJ ops [] ys Q s x σ:=fun m a W hI hJ=>⟨s,x,σ,h,⟨hI.defers,hI.size,fun t ht=>by simp at ht;subst ht;exact hI.y 0 h0,hI.c,hI.lt,hI.sl⟩,hJ⟩
theorem F2.cut(hJ:KA JJ)(k:Nat)(hnd:(os.take k).all gW=true)(hpn:eQ (Jd ys) (os.take k)=true)
  (h: ∀B F0 w0,ab P B F0 w0 n ops (os.take k) (fun σ'=> ∃ks τ,σ'.bP ks=τ∧IX τ=true∧F2 P G l n JJ ops (os.drop k) ys Q s x τ) (HX x σ)):F2 P G l n JJ ops os ys Q s x σ:=by
 intro m a W hI hJs
 have h1:wpList P ops (fun e a' w'=>e= .normal∧ ∃σ',(∃ks τ,σ'.bP ks=τ∧IX τ=true∧F2 P G l n JJ ops (os.drop k) ys Q s x τ)∧Rel P W.heap.size (fun b=>x≠none∧G b) ⟨W,fun _=>False⟩ n σ' a' w') (os.take k) a W :=
  h _ _ _ a W hI.rel _ (fun a' w' σ' hk hR'=>⟨rfl,σ',hk,hR'⟩)
 have h2:=pC (1::ys) (fun t ht=>iV hpn (t,undef) (List.mem_map.2 ⟨t,ht,rfl⟩)) h1;rw[← List.take_append_drop k os];refine pc (ro:=none) (fun a' w' h=>?_) (fun c a w h=>by cases h.1.1) (fun ⟨a,w,h⟩=>by cases h.1.1) _ a W hnd h2;obtain ⟨⟨_,σ',⟨ks,τ,hk,hp,hA⟩,hR'⟩,hkeep⟩:=h;obtain ⟨hI',hb⟩:=hI.step (ys':=ys) (v:=undef) hR' (fun _=>hkeep rfl 1 (by simp)) (fun t ht=>(hkeep rfl t (by simp[ht])).trans (hI.y t ht)) hk hp;exact hA m a' w' hI' (hJ s W w' hJs hb)
theorem IS.wanted(hI:IS P G l n x ys σ a W)(hg:aD ops (HX x σ) o=true):Region.wanted o (yielded ops a.tmps)=true:=by
 unfold aD at hg;split at hg
 · rename_i hgd;simp[Region.wanted,hgd]
 · rename_i g b hgd;split at hg
   · rename_i b' hb';obtain ⟨og,t,h1,h2,h3⟩:=iY hb';have:b'=b:=by simpa using hg
     subst this;simp[Region.wanted,hgd,oM hI.rel h1 h2 h3]
   · cases hg
theorem IS.put{W':World}{x':Option D}{z:Value}(hI:IS P G l n x ys σ a W)(hd:d<n)(h1:d≠1)(hy:d ∉ ys)(hz:dz z=true)(hc: ∀xd,x'=some xd→x=some xd∧(∀b,G b→W'.heap[b]?=W.heap[b]?))(hs:W.heap.size≤W'.heap.size):IS P G l n x' ys ((d,.d (.v z))::σ) (a.put (some d) z) W':=by
 refine⟨by simp[Act.put,hI.defers],by simp[Act.put,hI.size],fun t ht=>?_,fun xd hx=>?_,fun b hx hG=>?_,fun t av hav=>?_⟩
 · rw[b6 (show t≠d from fun e=>hy (e▸ht))];exact hI.y t ht
 · obtain ⟨e,hb⟩:=hc xd hx;obtain ⟨v,hv,hr⟩:=hI.c xd e;exact⟨v,by rw[b6 (Ne.symm h1)];exact hv,hr.mono (fun _ h=>h) (fun b hG=>hb b hG)⟩
 · cases hx':x' with
   | none=>exact absurd hx' hx
   | some xd =>
     obtain ⟨e,_⟩:=hc xd hx';exact Nat.lt_of_lt_of_le (hI.lt b (by rw[e];simp) hG) hs
 · rw[St.aE] at hav;split at hav
   · rename_i e;subst e;cases hav;exact⟨z,rfl,hz,dG (by rw[hI.size];exact hd)⟩
   · rename_i hne;obtain ⟨z',h2,h3,h4⟩:=hI.sl t av hav;exact⟨z',h2,h3,by rw[b6 (Ne.symm hne)];exact h4⟩
theorem F2.yield{dy t1 t2 mm:Nat}{z1 z2:Value}{Kp:World→World→Prop}(hd:o.dst=some d)(hop: ∃ts,o.op= .call {callee:= .value (.tmp dy),args:= #[.tmp t1,.tmp t2],argTypes:=ts})(hdy:dy∈ys)(ht1:σ.get t1=some (.d (.v z1)))(ht2:σ.get t2=some (.d (.v z2)))
  (hg:aD ops (HX x σ) o=true) (hdn:Nat.ble (d+1) n=true) (h1:Nat.beq d 1=false) (hy:d ∉ ys) (hKp: ∀W W',Kp W W'→W.heap.size≤W'.heap.size∧ ∀b,G b→W'.heap[b]?=W.heap[b]?)
  (hyl: ∀W,JJ s W→YieldAt Fence.wide mm P l #[z1,z2] W (fun e W'=>(e= .returned (.bool true)∧JJ s1 W'∧Kp W W')∨(e= .returned (.bool false)∧JJ s2 W')))
  (k1:F2 P G l n JJ ops rest ys Q s1 x ((d,.d (.v (.bool true)))::σ)) (k2: ∀(m:Nat) (a:Act) (W:World),a.defers=[]→a.tmps.size=n→(∀t,t∈ys→a.tmps[t]?=some (.func (.yield l) #[] #[]))→(∀t av,St.get ((d,AV.d (.v (.bool false)))::σ) t=some av→ ∃z,av= .d (.v z)∧dz z=true∧a.tmps[t]?=some z)→JJ s2 W→wpListIn (FF none) m P ops (ER P G l n JJ Q) rest a W):F2 P G l n JJ ops (o::rest) ys Q s x σ:=by
 intro m a W hI hJs;have hw:=hI.wanted hg;obtain ⟨dst,op,ty,pos,after,guard⟩:=o;simp only[] at hd hop;obtain ⟨ts,rfl⟩:=hop;obtain ⟨_,e1,_,g1⟩:=hI.sl t1 _ ht1;cases e1;obtain ⟨_,e2,_,g2⟩:=hI.sl t2 _ ht2;cases e2;obtain ⟨fn,tmps,assign,body,hyr,hrd⟩:=hyl W hJs;unfold wpListIn;rw[if_pos hw];refine⟨fun _ _=>trivial,?_⟩;rw[Oper.semAt_eq _ _ _ (fun c e=>by cases e)];have hev:=eW (hI.y dy hdy);have ev1:=eW g1;have ev2:=eW g2
 have hrun:(execOp a.eval {dst:=dst,op:= .call {callee:= .value (.tmp dy),args:= #[.tmp t1,.tmp t2],argTypes:=ts},type:=ty,pos:=pos,after:=after,guard:=guard}).run P W= .ok (.round l fn tmps assign body) W:=by
  have e:(#[]:Array Value)++ #[Operand.tmp t1,Operand.tmp t2].map a.eval= #[z1,z2]:=by simp[ev1,ev2]
  simp only[execOp,resolve,Deferred.ofValue,hev,Sem.run_bind,Sem.run_pure,Result.andThen_ok,invoke,e,hyr]
 rw[hrun];have h1:=Nat.ne_of_beq_eq_false h1;have hdn:=Nat.le_of_ble_eq_true hdn;refine⟨fun h=>by simp[FF,Fence.wide] at h,hrd.1,fun c cs _=>?_⟩;obtain ⟨e,w',hR,hc⟩:=hrd.2 c cs (room_wide _);refine⟨e,w',?_,hc⟩;rcases hR with ⟨rfl,hJ1,hK⟩ | ⟨rfl,hJ2⟩
 · show wpListIn (FF none) m P ops _ rest (a.put dst _) w';rw[hd];obtain ⟨hs,hb⟩:=hKp W w' hK;exact k1 m _ w' (hI.put hdn h1 hy rfl (fun xd hx=>⟨hx,hb⟩) hs) hJ1
 · show wpListIn (FF none) m P ops _ rest (a.put dst _) w';rw[hd];refine k2 m _ w' (by simp[Act.put,hI.defers]) (by simp[Act.put,hI.size]) (fun t ht=>?_) (fun t av hav=>?_) hJ2
   · rw[b6 (show t≠d from fun e=>hy (e▸ht))];exact hI.y t ht
   · rw[St.aE] at hav;split at hav
     · rename_i e;subst e;cases hav;exact⟨_,rfl,rfl,dG (by rw[hI.size];exact hdn)⟩
     · rename_i hne;obtain ⟨z',h2,h3,h4⟩:=hI.sl t av hav;exact⟨z',h2,h3,by rw[b6 (Ne.symm hne)];exact h4⟩
def Hs(K:β→Option D→St→Prop)(Q:Exit→β→Option D→St→Prop):Exit→β→Option D→St→Prop
 | .normal,s,x,σ=>K s x σ
 | .exit i,s,x,σ=>Q (.exit i) s x σ
 | .goto i,s,x,σ=>Q (.goto i) s x σ
 | .ret,s,x,σ=>Q .ret s x σ
 | .panic c,s,x,σ=>Q (.panic c) s x σ
 | .outgrown,s,x,σ=>Q .outgrown s x σ
def Fy(id:Nat)(Q:Exit→β→Option D→St→Prop):Exit→β→Option D→St→Prop
 | .normal,s,x,σ=>Q .normal s x σ
 | .exit i,s,x,σ=>match Nat.beq i id with
   | true=>Q .normal s x σ
   | false=>Q (.exit i) s x σ
 | .goto i,s,x,σ=>Q (.goto i) s x σ
 | .ret,s,x,σ=>Q .ret s x σ
 | .panic c,s,x,σ=>Q (.panic c) s x σ
 | .outgrown,s,x,σ=>Q .outgrown s x σ
theorem AI.skip(h:Q .normal s x σ):AI P G l n JJ .skip Q s x σ:=fun m a W hI hJ=>wpIn_skip ⟨s,x,σ,h,hI,hJ⟩
theorem AI.exit{id:Nat}(h:Q (.exit id) s x σ):AI P G l n JJ (.exit id) Q s x σ:=fun m a W hI hJ=>wpIn_exit ⟨s,x,σ,h,hI,hJ⟩
theorem AI.ret(h:Q .ret s x σ):AI P G l n JJ .ret Q s x σ:=fun m a W hI hJ=>wpIn_ret ⟨s,x,σ,h,hI,hJ⟩
theorem AI.seq(h:AI P G l n JJ c (Hs (fun s x σ=>AI P G l n JJ c2 Q s x σ) Q) s x σ):AI P G l n JJ (.seq c c2) Q s x σ:=by
 intro m a W hI hJ;refine wpIn_seq (wpIn_mono (h m a W hI hJ) fun e a' w' ⟨s',x',σ',hq,hI',hJ'⟩=>?_);cases e<;>first | exact hq m a' w' hI' hJ' | exact⟨s',x',σ',hq,hI',hJ'⟩
theorem AI.block{id:Nat}(h:AI P G l n JJ c (Fy id Q) s x σ):AI P G l n JJ (.block id c) Q s x σ:=by
 intro m a W hI hJ;refine wpIn_block (wpIn_mono (h m a W hI hJ) fun e a' w' ⟨s',x',σ',hq,hI',hJ'⟩=>?_);cases e with
 | exit i =>
   simp only[Fy] at hq;simp only[Exit.inBlock];split at hq
   · rename_i hb;rw[if_pos (Nat.eq_of_beq_eq_true hb)];exact⟨s',x',σ',hq,hI',hJ'⟩
   · rename_i hb;rw[if_neg (Nat.ne_of_beq_eq_false hb)];exact⟨s',x',σ',hq,hI',hJ'⟩
 | _=>exact⟨s',x',σ',hq,hI',hJ'⟩
theorem AI.cond{cc:Operand}{b:Bool}(hc:jr (HX x σ) cc=some b)(h1:b=true→AI P G l n JJ c Q s x σ)(h2:b=false→AI P G l n JJ c2 Q s x σ):AI P G l n JJ (.cond cc c c2) Q s x σ:=by
 intro m a W hI hJ;have he:a.eval cc= .bool b:=Ae hc hI.rel.z;exact wpIn_cond_split he (fun h=>h1 h m a W hI hJ) (fun h=>h2 h m a W hI hJ)
theorem AI.region{id:Nat}(h:F2 P G l n JJ ops ops.toList [0] Q s x σ):AI P G l n JJ (.region id ops false) Q s x σ:=fun m a W hI hJ=>wpIn_region_list (h m a W hI hJ)
theorem IS.bP(ks:List Nat)(hI:IS P G l n x ys σ a W):IS P G l n x ys (σ.bP ks) a W:=⟨hI.defers,hI.size,hI.y,hI.c,hI.lt,fun t av hav=>by
 have hz:IS P G l n none ys σ a W:=⟨hI.defers,hI.size,hI.y,(fun _ h=>by cases h),(fun _ h _=>absurd rfl h),hI.sl⟩;have hR:=hz.rel.bP ks;have hav2:=hav
 induction ks with
 | nil=>cases hav
 | cons k r ih =>
   simp only[St.bP] at hav;split at hav
   · rename_i av' hk;rw[St.aE] at hav;split at hav
     · rename_i e;subst e;cases hav;exact hI.sl _ _ hk
     · exact ih hav (hz.rel.bP r) hav
   · exact ih hav (hz.rel.bP r) hav⟩
theorem AI.aF{S:Type}{xd:Option D}(ks:List Nat)(mk:S→β×St)(I:S→Prop)(μ:S→Nat)(s0:S)(h0:(s,σ.bP ks)=mk s0)(hx:x=xd)(hI0:I s0)
  (hb: ∀s,I s→AI P G l n JJ c (Hs (fun s' x' σ'=> ∃S',x'=xd∧(s',σ'.bP ks)=mk S'∧I S'∧μ S'<μ s) Q) (mk s).1 xd (mk s).2):AI P G l n JJ (.loop c) Q s x σ:=by
 intro m a W hI hJ;subst hx;refine AB (fun a w S'=>I S'∧IS P G l n x [0] (mk S').2 a w∧JJ (mk S').1 w) μ s0 ⟨hI0,by rw[← h0];exact hI.bP ks,by rw[← h0];exact hJ⟩ (fun a w S' ⟨h1,h2,h3⟩=>?_);refine wpIn_mono (hb S' h1 m a w h2 h3) fun e a' w' ⟨s',x',σ',hq,hI',hJ'⟩=>?_;cases e with
 | normal =>
   obtain ⟨S2,g1,g2,g3,g4⟩:=hq;subst g1;exact⟨S2,⟨g3,by rw[← g2];exact hI'.bP ks,by rw[← g2];exact hJ'⟩,g4⟩
 | _=>exact⟨s',x',σ',hq,hI',hJ'⟩
end
end Lift
namespace Lift
open Go
open Go.RowKit (Below)
def nh(w:World)(b:Nat):Prop:= ∃cs e fz,w.heap[b]?=some (.cells cs e fz)
theorem Rd.EF{w w':World}{F F':Nat→Prop}{d:D}{v:Value}(h:Rd w F d v)(hF: ∀b,F b→nh w b→F' b∧w'.heap[b]?=w.heap[b]?):Rd w' F' d v:=by
 induction h with
 | v h=>exact .v h
 | nil hm=>exact .nil hm
 | sl iO hf hbb hcap hm hu hc hk hr ih =>
   obtain ⟨g1,g2⟩:=hF _ hf ⟨_,_,_,hbb⟩;exact .sl iO g1 (g2.trans hbb) hcap hm hu hc hk ih
 | ag hl hk hr ih=>exact .ag hl hk ih
 | tu hl hr ih=>exact .tu hl ih
 | pr iO hf hbb hc hk hr ih =>
   obtain ⟨g1,g2⟩:=hF _ hf ⟨_,_,_,hbb⟩;exact .pr iO g1 (g2.trans hbb) hc hk ih
 | fn ha hc ra rc ih1 ih2=>exact .fn ha hc ih1 ih2
def Gm:AV→Bool
 | .d _=>true
 | .bx _=>true
 | .ow _ _=>false
 | .wn _ _ _ _ _=>false
 | .pt _ _=>false
 | .rf _=>false
 | .e0 _=>false
 | .al _=>false
 | .el _ _ _=>false
 | .sb _ _ _=>false
 | .un=>false
 | .junk=>false
def Gl:St→Bool
 | []=>true
 | (_,a)::r=>Gm a&&Gl r
theorem y6: ∀{σ:St},Gl σ=true→ ∀t av,σ.get t=some av→Gm av=true
 | [],_,t,av,h=>by cases h
 | (k,b)::r,hp,t,av,h=>by
   simp only[Gl,Bool.and_eq_true] at hp;rw[St.aE] at h;split at h
   · cases h;exact hp.1
   · exact y6 hp.2 t av h
section
variable {P:Program} {T:Ty} {B:Nat} {F0:Nat→Prop} {w0:cL} {n:Nat} {σ:St} {R:List LR} {a a':Act} {W W':World}
theorem dR.sim{X X':Nat→Prop}{O O':Nat→Option Nat}{F F':Nat→Prop}{hm hm':Nat→Option AV}{tm tm':Nat→Option Value}{t:Nat}{av:AV}{v:Value}(hs:Gm av=true)(h:dR P X W O F hm tm t av v)
  (hF: ∀c,aM O F c→nh W c→aM O' F' c∧W'.heap[c]?=W.heap[c]?) (hO: ∀c,av.home=true→O c=some t→nh W c→v= .pointer (some ⟨c,0,none⟩)→O' c=some t∧W'.heap[c]?=W.heap[c]?):dR P X' W' O' F' hm' tm' t av v:=by
 cases av<;>simp only[Gm] at hs<;>try (cases hs;done)
 · exact Rd.EF h hF
 · obtain ⟨b,cs,e,h1,h2,h3,h4⟩:=h;obtain ⟨g1,g2⟩:=hO b rfl h2 ⟨_,_,_,h3⟩ h1;exact⟨b,cs,e,h1,g1,g2.trans h3,h4.1,fun i d u k1 k2=>⟨(h4.2 i d u k1 k2).1,(h4.2 i d u k1 k2).2.EF hF⟩⟩
theorem fi.sim{O O':Nat→Option Nat}{F F':Nat→Prop}{s t e:Nat}{V:Value}{xs:List D}(h:fi P W O F s (V,.ow e xs))(hF: ∀c,aM O F c→nh W c→aM O' F' c∧W'.heap[c]?=W.heap[c]?)(hO: ∀c,O c=some s→nh W c→O' c=some t∧W'.heap[c]?=W.heap[c]?):fi P W' O' F' t (V,.ow e xs):=by
 rcases h with h | ⟨h1,h2,h⟩
 · cases h
 · refine .inr ⟨h1,h2,?_⟩;rcases h with h | ⟨b,cap,cc,g3,g4,g5,g6,g7,g8,g9,g10⟩
   · exact .inl h
   · obtain ⟨k1,k2⟩:=hO b g4 ⟨_,_,_,g5⟩
     exact .inr ⟨b,cap,cc,g3,k1,k2.trans g5,g6,g7,g8,g9,fun i d hd=>by
      obtain ⟨f1,u,f2,f3⟩:=g10 i d hd
      exact⟨f1,u,f2,f3.EF hF⟩⟩
theorem bX.more{z:Value}{t:Nat}(hs:Gl σ=true)(hR:bX P B F0 w0 n R σ a W)(ht:a.tmps[t]?=some z)(hz:dz z=true):bX P B F0 w0 n R ((t,.d (.v z))::σ) a W:=by
 obtain ⟨O,hOr,hO,hL⟩:=hR.own;refine⟨hR.below,hR.base,hR.f0,hR.defers,hR.size,O,hOr,fun k av hav=>?_,hL⟩;rw[St.aE] at hav;split at hav
 · rename_i e;subst e;cases hav;exact⟨z,ht,Rd.v hz⟩
 · obtain ⟨v,hv,h⟩:=hO k av hav;exact⟨v,hv,h.sim (y6 hs k av hav) (fun c hc _=>⟨hc,rfl⟩) (fun c _ hc _ _=>⟨hc,rfl⟩)⟩
end
end Lift
namespace Lift
open Go
open Go.RowKit (Below)
section
variable {P:Program} {T:Ty} {B:Nat} {F0:Nat→Prop} {w0:cL} {n:Nat} {o:Oper} {d:Nat} {σ σ':St}
def JG(P:Program)(f:FuncId)(e:Nat)(L:List D)(lo m:Nat)(pre post:List D)(res:D):Prop :=
 rV P f∧ ∀(w:World) (G:Nat→Prop) (b o cap:Nat) (cs:Array Value) (us vs:List Value),(∀c,G c→c<w.heap.size∧c≠b)→w.heap[b]?=some (.cells cs e (0,0)) →
  ((m=0∨o=lo*P.cellsOf e)∧(cap=0∨o=lo*P.cellsOf e)∧o+cap*P.cellsOf e≤cs.size)→lo+m≤L.length→m≤cap→cap≤maxLen→Cells P w G e L cs→us.length=pre.length→(∀(i:Nat) (d:D) (v:Value),pre[i]?=some d→us[i]?=some v→Rd w G d v) →
  vs.length=post.length→(∀(i:Nat) (d:D) (v:Value),post[i]?=some d→vs[i]?=some v→Rd w G d v) →
  Calls P f (us++Value.slice (some ⟨b,o,none⟩) m cap::vs).toArray w (fun ee w'=> ∃v cs',ee= .returned v∧gh w.heap.size ⟨w,fun c=>c=b⟩ w w'∧w'.heap[b]?=some (.cells cs' e (0,0))∧Cells P w' (FW w.heap.size G w') e L cs'∧Rd w' (FW w.heap.size G w') res v)
def Iy(T:Ty)(σ:St)(p:Nat)(rs:List ResultVar)(e:Nat)(L:List D)(res:D):Prop:=(∃lo m,σ.get p=some (.wn true e L lo m))∧C2 T σ rs=some res
def J8(T:Ty)(p:Nat)(rs:List ResultVar)(e:Nat)(L:List D)(res:D):Exit→St→Prop
 | .normal,σ=>Iy T σ p rs e L res
 | .ret,σ=>Iy T σ p rs e L res
 | .exit _,_=>False
 | .goto _,_=>False
 | .panic _,_=>False
 | .outgrown,_=>False
theorem JG.intro(hT:bw P T){f:FuncId}{fn:Func}{c:Code}{rs:List ResultVar}{e lo m:Nat}{pre post L:List D}{res:D}(hf:P.funcs[f]?=some fn)(hb:fn.body=some c)(hrs:fn.results.toList=rs)(hn:fn.ntmps=n)(hl:pre.length+post.length+1≤n)(hnm:(fn.name=="runtime.NumGoroutine")=false)
  (h: ∀(B:Nat) (F0:Nat→Prop) (w0:cL),AW P B F0 w0 n c (J8 T pre.length rs e L res) ((pre.length,.wn true e L lo m)::(iG 0 pre++iG (pre.length+1) post))):JG P f e L lo m pre post res:=by
 refine⟨⟨fn,hf,hnm,by simp[hb]⟩,fun w G b o cap cs us vs hG hb' h0 hlm hcap hmax hcs hlu hru hlv hr=>?_⟩;have hbs:=(Array.getElem?_eq_some_iff.1 hb').1;have hF0:yF w.heap.size (fun c=>G c∨c=b) ⟨w,fun c=>c=b⟩:=⟨fun c hc=>hc.elim (fun h=>(hG c h).1) (fun h=>h▸hbs),fun c hc=> .inr hc⟩;refine calls_of_wp hf hb (wp_mono (h w.heap.size (fun c=>G c∨c=b) ⟨w,fun c=>c=b⟩ _ w ?_) ?_)
 · have hfree: ∀c,G c→aM (fun c=>if c=b then some pre.length else none) (FW w.heap.size (fun c=>G c∨c=b) w) c:=fun c hc=>⟨by simp[(hG c hc).2],.inl (.inl hc)⟩;refine⟨.refl _ _ _,ao _,hF0,rfl,?_,fun c=>if c=b then some pre.length else none,(fun c t hc=>?_),fun t av hav=>?_⟩
   · simp[hn];omega
   · simp only[] at hc;split at hc<;>simp at hc;rename_i hcb;subst hcb;exact⟨.inr rfl,hbs⟩
   · have htm: ∀(k:Nat) (v:Value),(us++Value.slice (some ⟨b,o,none⟩) m cap::vs)[k]?=some v→((us++Value.slice (some ⟨b,o,none⟩) m cap::vs).toArray++Array.replicate (fn.ntmps-(us++Value.slice (some ⟨b,o,none⟩) m cap::vs).toArray.size) undef)[k]?=some v:=fun k v hk=>by
      have hlt:=(List.getElem?_eq_some_iff.1 hk).1;rw[Array.getElem?_append,if_pos (by simpa using hlt)];simpa using hk
     rw[St.aE] at hav;split at hav
     · rename_i ht;subst ht;simp at hav;subst hav;refine⟨.slice (some ⟨b,o,none⟩) m cap,htm _ _ (by rw[← hlu];simp),.inr ⟨b,o,cap,cs,fun _=>rfl,rfl,⟨h0.1,h0.2.1,h0.2.2⟩,by simp,hb',hlm,hcap,hmax,hcs.1,fun i d hd=>?_⟩⟩;obtain ⟨f1,u,f2,f3⟩:=hcs.2 i d hd;exact⟨f1,u,f2,f3.mono hfree (fun _ _=>rfl)⟩
     · rename_i ht;rw[yh,fC,fC] at hav;simp only[Nat.zero_le,if_true,Nat.sub_zero] at hav;cases hp:pre[t]? with
       | some d =>
         rw[hp] at hav;simp at hav;subst hav;have hlt:t<us.length:=by rw[hlu];exact(List.getElem?_eq_some_iff.1 hp).1
         refine⟨us[t],htm _ _ (by rw[List.getElem?_append_left hlt,bg hlt]),?_⟩;exact(hru t d _ hp (bg hlt)).mono hfree (fun _ _=>rfl)
       | none =>
         rw[hp] at hav;simp only[Option.map_none] at hav;split at hav<;>try (cases hav;done)
         simp only[Option.map_eq_some_iff] at hav;obtain ⟨d,hd,rfl⟩:=hav;obtain ⟨k,rfl⟩: ∃k,t=pre.length+1+k:=⟨t-(pre.length+1),by omega⟩;rw[Nat.add_sub_cancel_left] at hd;have hlt:k<vs.length:=by rw[hlv];exact(List.getElem?_eq_some_iff.1 hd).1
         refine⟨vs[k],htm _ _ (by rw[← hlu,List.getElem?_append_right (by omega),show us.length+1+k-us.length=k+1 by omega,List.getElem?_cons_succ,bg hlt]),?_⟩;exact(hr k d _ hd (bg hlt)).mono hfree (fun _ _=>rfl)
 · rintro ee a w' ⟨σ',hq,hR⟩
   have key:Iy T σ' pre.length rs e L res→a.defers=[]∧ ∃v,(results fn a.tmps).run P w'= .ok v w'∧ ∃v' cs',Ending.returned v= .returned v'∧gh w.heap.size ⟨w,fun c=>c=b⟩ w w'∧w'.heap[b]?=some (.cells cs' e (0,0))∧Cells P w' (FW w.heap.size G w') e L cs'∧Rd w' (FW w.heap.size G w') res v':=fun hq=>by
    refine⟨hR.defers,?_⟩;obtain ⟨O,hOr,hO⟩:=hR.own;have hI:Inv P w.heap.size (fun c=>G c∨c=b) ⟨w,fun c=>c=b⟩ (fun _=>True) σ'.get σ'.get a w' O:=⟨hR.below,hR.base,hR.f0,hOr,fun t _ av h=>hO t av h,fun t av h _=>hO t av h⟩
    have home: ∀k lo m,σ'.get k=some (.wn true e L lo m)→ ∃cs',O b=some k∧w'.heap[b]?=some (.cells cs' e (0,0))∧Cells P w' (FW w.heap.size G w') e L cs':=fun k lo m h=>by
     obtain ⟨v,hv,hr⟩:=hO k _ h;rcases hr with ⟨h,_⟩ | ⟨b',o',cap',cs',hq,h1,h0,h2,h3,h4,h5,h6,h7,h8⟩
     · cases h
     have hbb:b'=b:=hq rfl;subst hbb;refine⟨cs',h2,h3,h7,fun i d hd=>?_⟩;obtain ⟨f1,u,f2,f3⟩:=h8 i d hd;refine⟨f1,u,f2,f3.mono (fun c hc=>?_) (fun _ _=>rfl)⟩;have hne:c≠b':=fun e=>by subst e;rw[aM,h2] at hc;cases hc.1
     rcases hc.2 with h | h
     · exact .inl (h.resolve_right hne)
     · exact .inr h
    obtain ⟨⟨lo,m,h0⟩,hres⟩:=hq;obtain ⟨cs',hOb,hb1,hc1⟩:=home _ lo m h0;obtain ⟨v,hrun,hrd⟩:=uo hT hrs hR hOr hO hres;refine⟨v,hrun,v,cs',rfl,hR.below,hb1,hc1,hrd.mono (fun c hc=>?_) (fun _ _=>rfl)⟩;have hne:c≠b:=fun e=>by subst e;rw[aM,hOb] at hc;cases hc.1
    rcases hc.2 with h | h
    · exact .inl (h.resolve_right hne)
    · exact .inr h
   cases ee with
   | normal=>exact key hq
   | ret=>exact key hq
   | exit _=>exact hq.elim
   | goto _=>exact hq.elim
   | panic _=>exact hq.elim
   | outgrown=>exact hq.elim
end
end Lift
namespace Lift
open Go
open Go.RowKit (Below)
section
variable {P:Program} {T:Ty} {B:Nat} {F0:Nat→Prop} {w0:cL} {n d:Nat} {o:Oper} {σ:St} {K:St→Prop} {all:Array Oper} {rest:List Oper}
theorem C0(w:World)(dT sT ty elem:TypeId)(g o dLen dCap:Nat)(a:Addr)(sLen sCap:Nat)(cur:Array Value)(t:TypeId)(cs:List Value)(i:TypeInfo)
  (hu:P.underlying dT=some (.slice elem)) (hi:P.info? elem=some i)
  (hg:w.heap[g]?=some (.cells cur t (0,0))) (hn:cs.length=Nat.min sLen dLen*i.size)
  (hsrc: ∀j v,cs[j]?=some v→w.cell? (a.add j)=some v) (hfit:o+cs.length≤cur.size) (h1: ∀v∈cs,v.oneCell'=true):
  (Builtin.copy_ #[dT,sT] ty #[.slice (some ⟨g,o,none⟩) dLen dCap,.slice (some a) sLen sCap]).run P w =
   .ok (goInt (Nat.min sLen dLen)) (w.setRow g (cur.toList.take o++cs++cur.toList.drop (o+cs.length)).toArray):=by
 have hl:=run_firstCells_some (P:=P) w i.size (Nat.min sLen dLen) a sLen sCap cs hn hsrc;have hst:=run_storeCells_at P g o t cs 0 cur w hg (by simpa using hfit) h1;simp[Builtin.copy_,run_underlying hu,Builtin.lenOf,Go.sizeOf,typeInfo,hi,hl,hst]
theorem A5(w:World)(dT sT ty elem:TypeId)(x a:Option Addr)(dLen dCap sLen sCap:Nat)(i:TypeInfo)(hu:P.underlying dT=some (.slice elem))(hi:P.info? elem=some i)(hn:Nat.min sLen dLen=0):
  (Builtin.copy_ #[dT,sT] ty #[.slice x dLen dCap,.slice a sLen sCap]).run P w= .ok (goInt 0) w:=by
 have hl: ∀(x:Addr),(loadCells x 0).run P w= .ok #[] w:=fun x=>by simpa using run_loadCells_list (P:=P) w x [] (by simp)
 cases x<;>cases a<;>simp[Builtin.copy_,run_underlying hu,Builtin.lenOf,Builtin.firstCells,Go.sizeOf,typeInfo,hi,hn,storeCells,hl]
def JW(T:Ty)(σ:St):Op→Option (Nat×Nat×List D×List D)
 | .call c=>match c.callee with
   | .builtin .copy=>match c.args.toList,c.argTypes.toList with
     | [x,y],[t,u]=>match T.get t,ex T σ.get t x,ex T σ.get u y with
       | some ti,some (.al h),some (.d (.sl s ys))=>match σ.get h with
         | some (.ow e l)=>match Nat.beq ti.kind 4,Nat.beq e ti.elem,T.get ti.elem with
           | true,true,some te=>match Nat.beq te.size s with
             | true=>some (h,e,l,ys)
             | _=>none
           | _,_,_=>none
         | _=>none
       | _,_,_=>none
     | _,_=>none
   | _=>none
 | _=>none
theorem dK.Fq(hT:bw P T){h e:Nat}{l ys:List D}(hd:o.dst=some d)(hdn:d<n)(hx:JW T σ o.op=some (h,e,l,ys)):
  dK P B F0 w0 n o σ ((d,.d (.v (.int .i64 ((min ys.length l.length:Nat):Int))))::(h,.ow e (ys.take (min ys.length l.length)++l.drop (min ys.length l.length)))::σ):=by
 intro a w hR K Q hK;obtain ⟨O,hOr,hO⟩:=hR.own;have hI:Inv P B F0 w0 (fun _=>True) σ.get σ.get a w O:=⟨hR.below,hR.base,hR.f0,hOr,fun t _ av h=>hO t av h,fun t av h _=>hO t av h⟩;obtain ⟨dst,op,ty,pos,after,guard⟩:=o;simp only[] at hd hx;subst hd;cases op<;>simp only[JW] at hx<;>try (cases hx;done)
 rename_i c;obtain ⟨callee,args,ats⟩:=c;simp only[] at hx;split at hx<;>try (cases hx;done)
 split at hx<;>try (cases hx;done)
 rename_i x y t u hxy htu;split at hx<;>try (cases hx;done)
 rename_i ti h' s ys' hti hxe hye;split at hx<;>try (cases hx;done)
 rename_i e' l' hav;split at hx<;>try (cases hx;done)
 rename_i te hk hee hte;split at hx<;>simp at hx;rename_i hts;obtain ⟨rfl,rfl,rfl,rfl⟩:=hx;have hee:=Nat.eq_of_beq_eq_true hee;subst hee;have hts:=Nat.eq_of_beq_eq_true hts;subst hts;have hargs:args= #[x,y]:=by apply Array.ext';simpa using hxy
 have hats:ats= #[t,u]:=by apply Array.ext';simpa using htu
 subst hargs;subst hats;obtain ⟨info,dd,z,hok⟩:=hT t ti hti;obtain ⟨info',dd',z',hok'⟩:=hT _ te hte;have hun:=(hok.iW hk).1;have hsz:info'.size=te.size:=hok'.size;have hcel:P.cellsOf ti.elem=te.size:=hok'.cellsOf;have hw:kS σ.get (ex T σ.get t x)=some (h',ti.elem,l',0,l'.length):=by rw[hxe];simp only[kS,hav]
 have hys:v9 T σ.get (ex T σ.get u y)=some (te.size,ys'):=by rw[hye];rfl
 rw[hxe] at hw;rw[hye] at hys;obtain ⟨zz,hz,hrow,hlm,cap,hcap,hmax,hv⟩:=gw hI (a5 hI (fun _ _=>trivial) hxe 0).1 hw;rw[hav] at hz;simp at hz;subst hz;obtain ⟨ad,cap',hyv,iX,hall⟩:=kU hT hI (a5 hI (fun _ _=>trivial) hye 0).1 hys;obtain ⟨k,hkk⟩: ∃k,k=min ys'.length l'.length:=⟨_,rfl⟩;rw[← hkk] at hK;rcases Nat.eq_zero_or_pos k with hk0 | hk0
 ·
  have hval: ∃ax lc cx,a.eval x= .slice ax lc cx∧lc=l'.length:=by
   rcases hv with ⟨hl0,_,_,base,hev⟩ | ⟨b,o1,len,cap1,cs,off,hq,htm,hev,h0',hOb,hb,hu,hcells⟩
   · exact⟨base,0,_,hev,hl0.symm⟩
   · exact⟨_,_,_,hev,rfl⟩
  obtain ⟨ax,lc,cx,hev,hlc⟩:=hval;have hrun:=A5 (P:=P) w t u ty ti.elem ax ad lc cx ys'.length cap' info' hun hok'.hinfo (by rw[hlc];show min _ _=0;omega)
  have hex:(execOp a.eval {dst:=some d,op:= .call {callee:= .builtin .copy,args:= #[x,y],argTypes:= #[t,u]},type:=ty,pos:=pos,after:=after,guard:=guard}).run P w= .ok (.value (goInt 0)) w:=by
   simp[execOp,resolve,invoke,builtin,hev,hyv,hrun]
  refine bo hex ?_
  have hsame: ∀k2,St.get ((h',AV.ow ti.elem l')::σ) k2=σ.get k2:=fun k2=>by
   rw[St.aE];split
   · rename_i e1;subst e1;exact hav.symm
   · rfl
  have hR1:Rel P B F0 w0 n ((h',.ow ti.elem l')::σ) a w:=⟨hR.below,hR.base,hR.f0,hR.defers,hR.size,O,hOr,fun t av h=>by
   rw[hsame] at h;obtain ⟨v,h1,h2⟩:=hO t av h;refine⟨v,h1,?_⟩;have:St.get ((h',AV.ow ti.elem l')::σ)=σ.get:=funext hsame
   rw[this];exact h2⟩
  subst hk0;rw[List.take_zero,List.drop_zero,List.nil_append] at hK;obtain ⟨O2,hOr2,hO2⟩:=hR1.own;exact hK _ _ (hR1.put (d:=d) (av:= .d (.v (.int .i64 ((0:Nat):Int)))) (v:=goInt 0) hOr2 hO2 hdn (dv.refl (fun b t hb=>(hOr2 b t hb).2)) (.v rfl))
 rcases hv with ⟨hl0,_⟩ | ⟨b,o1,len,cap1,cs,off,hq,htm,hev,h0',hOb,hb,hu,hcells⟩
 · omega
 rw[hcel] at h0' hu;have hoff:off=0:=by have:=h0'.1;omega
 subst hoff;rcases hall with h | ⟨sa,news,rfl,g1,g2,g3,g4⟩
 · subst h;simp at hkk;omega
 rw[aO g2] at g1;obtain ⟨s,hs⟩: ∃s,s=te.size:=⟨_,rfl⟩;rw[← hs] at g1 g2 hu hcel hsz;have hlfl:=aO hu
 have hcsl:l'.length*s≤cs.size:=by
  rcases Nat.eq_zero_or_pos (l'.length*s) with h0 | h0
  · omega
  · obtain ⟨_,u,f2,_⟩:=hcells (l'.length*s-1) _ (bg (by omega));have:=(Array.getElem?_eq_some_iff.1 f2).1;omega
 have hkl:k*s≤l'.length*s:=Nat.mul_le_mul_right s (by omega);have hky:k*s≤ys'.length*s:=Nat.mul_le_mul_right s (by omega);have hnk:(news.take (k*s)).length=k*s:=by rw[aQ];omega
 have hrun:=C0 (P:=P) w t u ty ti.elem b 0 l'.length cap sa ys'.length cap' cs ti.elem (news.take (k*s)) info' hun hok'.hinfo hb
  (by rw[hnk,hsz,hkk]) (fun j v hj=>by
   rw[List.getElem?_take] at hj;split at hj
   · exact g3 j v hj
   · cases hj) (by rw[hnk];omega) (fun v hv=>g4.vJ v (List.mem_of_mem_take hv))
 rw[hnk,Nat.zero_add,List.take_zero,List.nil_append] at hrun;obtain ⟨cs',hcs'⟩: ∃cs',cs'=(news.take (k*s)++cs.toList.drop (k*s)).toArray:=⟨_,rfl⟩;rw[← hcs',show Nat.min ys'.length l'.length=k from hkk.symm] at hrun
 have hss:cs'.size=cs.size:=by
  rw[hcs'];simp only[List.size_toArray,List.length_append,hnk,List.length_drop,Array.length_toList];omega
 have hex:(execOp a.eval {dst:=some d,op:= .call {callee:= .builtin .copy,args:= #[x,y],argTypes:= #[t,u]},type:=ty,pos:=pos,after:=after,guard:=guard}).run P w= .ok (.value (goInt k)) (w.setRow b cs'):=by
  simp[execOp,resolve,invoke,builtin,hev,hyv,hrun]
 refine bo hex ?_
 have hR1:Rel P B F0 w0 n ((h',.ow ti.elem (ys'.take k++l'.drop k))::σ) a (w.setRow b cs'):=by
  refine Rel.write hb hss hR hOr hO hav hOb (.inr ⟨_,_,_,hrow,(dE hrow).1,by simp only[List.length_append,aQ,List.length_drop];omega,(dE hrow).2.2.symm⟩) (fun v hv hr=>?_) (dE hrow).2.1;rw[htm] at hv;simp at hv;subst hv;refine nL hr hrow hb (setRow_heap w b cs _ ti.elem _ hb) hss (by simp only[List.length_append,aQ,List.length_drop];omega) (fun h0=>by subst h0;simp at hkk;omega) (fun x hx=>?_) (fun j dd hj=>?_)
  · rw[hcel];rcases List.mem_append.1 hx with hx | hx
    · exact g2 x (List.mem_of_mem_take hx)
    · exact hu x (List.mem_of_mem_drop hx)
  · have hB: ∀c,aM O (FW B F0 w) c→(w.setRow b cs').heap[c]?=w.heap[c]?:=fun c hc=>setRow_other w b c _ (fun e=>by rw[e,aM,hOb] at hc;cases hc.1);have f2:=aO (s:=s) (l:=ys'.take k) (fun x hx=>g2 x (List.mem_of_mem_take hx));have e2:flatAll ys'=flatAll (ys'.take k)++flatAll (ys'.drop k):=by rw[← b8,List.take_append_drop]
    have e3:flatAll l'=flatAll (l'.take k)++flatAll (l'.drop k):=by rw[← b8,List.take_append_drop]
    have f3:=aO (s:=s) (l:=l'.take k) (fun x hx=>hu x (List.mem_of_mem_take hx));rw[aQ,show min k ys'.length=k by omega] at f2;rw[aQ,show min k l'.length=k by omega] at f3;rw[b8] at hj;have hcg:cs'[j]?=(news.take (k*s)++cs.toList.drop (k*s))[j]?:=by rw[hcs',List.getElem?_toArray]
    rw[hcg];rw[List.getElem?_append] at hj;split at hj
    · rename_i hj2;have h1:(flatAll ys')[j]?=some dd:=by rw[e2,List.getElem?_append_left (by omega)];exact hj
      obtain ⟨q1,v,q2,q3⟩:=g4.get h1;exact⟨q1,v,by rw[List.getElem?_append_left (by omega),List.getElem?_take_of_lt (by omega)];exact q2,q3.mono (fun _ h=>by simpa[aM,FW] using h) hB⟩
    · rename_i hj1
      have h1:(flatAll l')[j]?=some dd:=by
       rw[e3,List.getElem?_append_right (by omega),← hj]
       congr 1
       omega
      obtain ⟨q1,v,q2,q3⟩:=hcells j dd h1
      exact⟨q1,v,by
       rw[List.getElem?_append_right (by omega),List.getElem?_drop];rw[← q2];simp
       congr 1
       omega,q3.mono (fun _ h=>by simpa[aM,FW] using h) hB⟩
 obtain ⟨O2,hOr2,hO2⟩:=hR1.own;exact hK _ _ (hR1.put (d:=d) (av:= .d (.v (.int .i64 (k:Int)))) (v:=goInt k) hOr2 hO2 hdn (dv.refl (fun b t hb=>(hOr2 b t hb).2)) (.v rfl))
theorem ab.Fq(hT:bw P T){h e:Nat}{l ys:List D}(hd:o.dst=some d)(hdn:Nat.ble (d+1) n=true)(hg:aD all σ o=true)(hx:JW T σ o.op=some (h,e,l,ys))
  (hk:ab P B F0 w0 n all rest K ((d,.d (.v (.int .i64 ((min ys.length l.length:Nat):Int))))::(h,.ow e (ys.take (min ys.length l.length)++l.drop (min ys.length l.length)))::σ)):ab P B F0 w0 n all (o::rest) K σ :=
 ab.op hg (dK.Fq hT hd (Nat.le_of_ble_eq_true hdn) hx) hk
end
end Lift
namespace Lift
def ig:Nat→(Nat→Rat)→Rat
 | 0,_=>0
 | n+1,f=>ig n f+f n
theorem lV{f g:Nat→Rat}: ∀{n:Nat},(∀c,c<n→f c=g c)→ig n f=ig n g
 | 0,_=>rfl
 | n+1,h=>by rw[ig,ig,lV (fun c hc=>h c (by omega)),h n (by omega)]
theorem wS{f:Nat→Rat}{n:Nat}(h: ∀c,c<n→f c=0):ig n f=0:=by
 induction n with
 | zero=>rfl
 | succ n ih=>rw[ig,ih (fun c hc=>h c (by omega)),h n (by omega)];grind
theorem yY(f g:Nat→Rat): ∀n:Nat,ig n (fun c=>f c+g c)=ig n f+ig n g
 | 0=>by simp only[ig];grind
 | n+1=>by simp only[ig,yY f g n];grind
theorem ub(k:Rat)(f:Nat→Rat): ∀n:Nat,ig n (fun c=>k*f c)=k*ig n f
 | 0=>by simp only[ig];grind
 | n+1=>by simp only[ig,ub k f n];grind
theorem yW(f g:Nat→Rat): ∀n:Nat,ig n (fun c=>f c-g c)=ig n f-ig n g
 | 0=>by simp only[ig];grind
 | n+1=>by simp only[ig,yW f g n];grind
theorem yX{f:Nat→Rat}{n i:Nat}(hi:i<n)(h: ∀c,c<n→c≠i→f c=0):ig n f=f i:=by
 induction n with
 | zero=>omega
 | succ n ih =>
   rw[ig];rcases Nat.lt_or_ge i n with g | g
   · rw[ih g (fun c hc=>h c (by omega)),h n (by omega) (by omega)];grind
   · have:i=n:=by omega
     subst this;rw[wS (fun c hc=>h c (by omega) (by omega))];grind
abbrev Mx:=Nat→Nat→Rat
def yI(n:Nat)(r:Nat→Rat)(x:Nat→Rat):Prop:=ig n (fun c=>r c*x c)=r n
def yC(m n:Nat)(M:Mx)(x:Nat→Rat):Prop:= ∀j,j<m→yI n (M j) x
theorem lG{n:Nat}{r s:Nat→Rat}(h: ∀c,c≤n→r c=s c)(x:Nat→Rat):yI n r x↔yI n s x:=by
 unfold yI;rw[lV (fun c hc=>by rw[h c (by omega)]),h n (ao _)]
theorem Dj{n:Nat}{r:Nat→Rat}{k:Rat}(hk:k≠0)(x:Nat→Rat):yI n (fun c=>k*r c) x↔yI n r x:=by
 unfold yI;rw[show (fun c=>k*r c*x c)=(fun c=>k*(r c*x c)) from funext fun c=>by grind,ub];constructor
 · intro h;have:k*(ig n (fun c=>r c*x c) -r n)=0:=by grind
   rcases Rat.mul_eq_zero.1 this with h | h
   · exact absurd h hk
   · grind
 · intro h;rw[h]
theorem Ag{n:Nat}{r s:Nat→Rat}(k:Rat){x:Nat→Rat}(hs:yI n s x):yI n (fun c=>r c-k*s c) x↔yI n r x:=by
 unfold yI at *;rw[show (fun c=>(r c-k*s c)*x c)=(fun c=>r c*x c-k*(s c*x c)) from funext fun c=>by grind,yW,ub,hs];constructor<;>intro h<;>grind
structure v5 (m n k:Nat) (M:Mx) (pr:Nat→Option Nat):Prop where
 lt: ∀c i,pr c=some i→c<k∧i<m
 inj: ∀c d i,pr c=some i→pr d=some i→c=d
 piv: ∀c i,pr c=some i→M i c≠0
 col: ∀c i j,pr c=some i→j<m→j≠i→M j c=0
 row: ∀j c,j<m→(∀d,pr d≠some j)→c<k→M j c=0
def CX(n:Nat)(M:Mx)(pr:Nat→Option Nat)(y:Nat→Rat)(c:Nat):Rat:=match pr c with
 | some i=>(M i n-ig n (fun d=>match pr d with
   | some _=>0
   | none=>M i d*y d)) / M i c
 | none=>y c
theorem v5.J3{m n:Nat}{M:Mx}{pr:Nat→Option Nat}(h:v5 m n n M pr)(h0: ∀j,j<m→(∀d,pr d≠some j)→M j n=0)(y:Nat→Rat):yC m n M (CX n M pr y):=by
 intro j hj;unfold yI;by_cases hp: ∃c,pr c=some j
 · obtain ⟨c,hc⟩:=hp;have hcn:=(h.lt c j hc).1;have hne:=h.piv c j hc
   have e:ig n (fun d=>M j d*CX n M pr y d)=ig n (fun d=>(if d=c then M j c*CX n M pr y c else 0)+(match pr d with
     | some _=>0
     | none=>M j d*y d)):=lV (fun d hd=>by
    by_cases hdc:d=c
    · subst hdc;rw[if_pos rfl,hc];grind
    · rw[if_neg hdc];cases hpd:pr d with
      | none=>simp only[CX,hpd];grind
      | some i =>
        have hij:j≠i:=fun e=>hdc (h.inj d c i hpd (e▸hc))
        rw[h.col d i j hpd hj hij];grind)
   rw[e,yY,yX hcn (fun d _ hd=>by rw[if_neg hd]),if_pos rfl];simp only[CX,hc];rw[Rat.mul_comm,Rat.div_mul_cancel hne]
   grind
 · have hn: ∀d,pr d≠some j:=fun d hd=>hp ⟨d,hd⟩;rw[wS (fun c hc=>by rw[h.row j c hj hn hc];grind),h0 j hj hn]
theorem v5.two{m n f:Nat}{M:Mx}{pr:Nat→Option Nat}(h:v5 m n n M pr)(h0: ∀j,j<m→(∀d,pr d≠some j)→M j n=0)(hf:f<n)(hpf:pr f=none):
  ∃x y,yC m n M x∧yC m n M y∧x f≠y f:=by
 refine⟨_,_,h.J3 h0 (fun _=>0),h.J3 h0 (fun _=>1),?_⟩;simp only[CX,hpf];decide
theorem v5.one{m n:Nat}{M:Mx}{pr:Nat→Option Nat}(h:v5 m n n M pr)(hall: ∀c,c<n→pr c≠none){x:Nat→Rat}(hs:yC m n M x){c i:Nat}(hc:pr c=some i):x c=M i n / M i c:=by
 obtain ⟨hcn,him⟩:=h.lt c i hc;have:=hs i him;unfold yI at this
 rw[yX hcn (fun d hd hdc=>by
  cases hpd:pr d with
  | none=>exact absurd hpd (hall d hd)
  | some j =>
    have hij:i≠j:=fun e=>hdc (h.inj d c i (e▸hpd) hc)
    rw[h.col d j i hpd him hij];grind)] at this
 rw[← this,Rat.mul_comm,Rat.mul_div_cancel (h.piv c i hc)]
theorem v5.skip{m n k:Nat}{M:Mx}{pr:Nat→Option Nat}(h:v5 m n k M pr)(h0: ∀j,j<m→(∀d,pr d≠some j)→M j k=0):v5 m n (k+1) M pr :=
 ⟨fun c i hc=>⟨by have:=(h.lt c i hc).1;omega,(h.lt c i hc).2⟩,h.inj,h.piv,h.col,fun j c hj hn hc=>by
  rcases Nat.lt_or_ge c k with g | g
  · exact h.row j c hj hn g
  · have:c=k:=by omega
    subst this;exact h0 j hj hn⟩
theorem v5.full{m n k l:Nat}{M:Mx}{pr:Nat→Option Nat}(h:v5 m n k M pr)(hl:k≤l)(hall: ∀j,j<m→ ∃d,pr d=some j):v5 m n l M pr :=
 ⟨fun c i hc=>⟨by have:=(h.lt c i hc).1;omega,(h.lt c i hc).2⟩,h.inj,h.piv,h.col,fun j c hj hn _=>by
  obtain ⟨d,hd⟩:=hall j hj
  exact absurd hd (hn d)⟩
theorem v5.elim{m n k i:Nat}{M M':Mx}{pr:Nat→Option Nat}(h:v5 m n k M pr)(hi:i<m)(hn: ∀d,pr d≠some i)(hk:M i k≠0)(s:Rat)(hs:s≠0)(q:Nat→Rat)(h1: ∀c,c≤k→M' i c=s*M i c)(h2: ∀j c,j<m→j≠i→c≤k→M' j c=M j c-q j*M i c)
  (h3: ∀j,j<m→j≠i→M' j k=0):v5 m n (k+1) M' (fun c=>if c=k then some i else pr c):=by
 have hz: ∀c,c<k→M i c=0:=fun c hc=>h.row i c hi hn hc;have hold: ∀j c,j<m→j≠i→c<k→M' j c=M j c:=fun j c hj hji hc=>by rw[h2 j c hj hji (by omega),hz c hc];grind
 refine⟨fun c j hc=>?_,fun c d j hc hd=>?_,fun c j hc=>?_,fun c j l hc hl hlj=>?_,fun j c hj hnj hc=>?_⟩
 · split at hc
   · cases hc;exact⟨by omega,hi⟩
   · exact⟨by have:=(h.lt c j hc).1;omega,(h.lt c j hc).2⟩
 · split at hc<;>split at hd
   · omega
   · cases hc;exact absurd hd (hn d)
   · cases hd;exact absurd hc (hn c)
   · exact h.inj c d j hc hd
 · split at hc
   · rename_i e;cases hc;rw[e,h1 k (ao _)];intro h0;rcases Rat.mul_eq_zero.1 h0 with g | g
     · exact hs g
     · exact hk g
   · have hji:j≠i:=fun e=>hn c (e▸hc);rw[hold j c (h.lt c j hc).2 hji (h.lt c j hc).1];exact h.piv c j hc
 · split at hc
   · rename_i e;cases hc;rw[e];exact h3 l hl hlj
   · have hck:=(h.lt c j hc).1;by_cases hli:l=i
     · subst hli;rw[h1 c (by omega),hz c hck];grind
     · rw[hold l c hl hli hck];exact h.col c j l hc hl hlj
 · have hji:j≠i:=fun e=>hnj k (by simp[e]);rcases Nat.lt_or_ge c k with g | g
   · rw[hold j c hj hji g];refine h.row j c hj (fun d hd=>hnj d ?_) g;have:d≠k:=fun e=>by have:=(h.lt d j hd).1;omega
     simp[this,hd]
   · have:c=k:=by omega
     subst this;exact h3 j hj hji
theorem yC.elim{m n i:Nat}{M M':Mx}(hi:i<m)(s:Rat)(hs:s≠0)(q:Nat→Rat)(h1: ∀c,c≤n→M' i c=s*M i c)(h2: ∀j c,j<m→j≠i→c≤n→M' j c=M j c-q j*M i c)(x:Nat→Rat):yC m n M' x↔yC m n M x:=by
 have hi':yI n (M' i) x↔yI n (M i) x:=(lG h1 x).trans (Dj hs x);constructor
 · intro h j hj;have hii:=hi'.1 (h i hi);by_cases e:j=i
   · subst e;exact hii
   · exact(Ag (q j) hii).1 ((lG (fun c hc=>h2 j c hj e hc) x).1 (h j hj))
 · intro h j hj;by_cases e:j=i
   · subst e;exact hi'.2 (h j hj)
   · exact(lG (fun c hc=>h2 j c hj e hc) x).2 ((Ag (q j) (h i hi)).2 (h j hj))
def FX(a b j:Nat):Nat:=if j=a then b else if j=b then a else j
theorem xz(a b j:Nat):FX a b (FX a b j)=j:=by
 unfold FX;by_cases h1:j=a
 · subst h1;rw[if_pos rfl];by_cases h2:b=j
   · rw[if_pos h2];exact h2
   · rw[if_neg h2,if_pos rfl]
 · rw[if_neg h1];by_cases h2:j=b
   · subst h2;rw[if_pos rfl,if_pos rfl]
   · rw[if_neg h2,if_neg h1,if_neg h2]
theorem ua{a b m:Nat}(ha:a<m)(hb:b<m){j:Nat}(hj:j<m):FX a b j<m:=by
 unfold FX;split
 · exact hb
 · split
   · exact ha
   · exact hj
theorem v5.swap{m n k a b:Nat}{M M':Mx}{pr:Nat→Option Nat}(h:v5 m n k M pr)(ha:a<m)(hb:b<m)(hna: ∀d,pr d≠some a)(hnb: ∀d,pr d≠some b)(hM: ∀j c,j<m→c≤n→M' j c=M (FX a b j) c)(hkn:k≤n):v5 m n k M' pr:=by
 have hfix: ∀c i,pr c=some i→FX a b i=i:=fun c i hc=>by
  have h1:i≠a:=fun e=>by subst e;exact hna c hc
  have h2:i≠b:=fun e=>by subst e;exact hnb c hc
  unfold FX;rw[if_neg h1,if_neg h2]
 refine⟨h.lt,h.inj,fun c i hc=>?_,fun c i j hc hj hji=>?_,fun j c hj hn hc=>?_⟩
 · have:=h.lt c i hc;rw[hM i c this.2 (by omega),hfix c i hc];exact h.piv c i hc
 · have:=h.lt c i hc;rw[hM j c hj (by omega)];refine h.col c i _ hc (ua ha hb hj) (fun e=>hji ?_);rw[← xz a b j,e,hfix c i hc]
 · rw[hM j c hj (by omega)];refine h.row _ c (ua ha hb hj) (fun d hd=>?_) hc;have e:=hfix d _ hd;rw[xz] at e;exact hn d (by rw[hd,← e])
theorem yC.swap{m n a b:Nat}{M M':Mx}(ha:a<m)(hb:b<m)(hM: ∀j c,j<m→c≤n→M' j c=M (FX a b j) c)(x:Nat→Rat):yC m n M' x↔yC m n M x:=by
 constructor
 · intro h j hj;have:=(lG (fun c hc=>hM (FX a b j) c (ua ha hb hj) hc) x).1 (h _ (ua ha hb hj))
   rwa [xz] at this
 · intro h j hj;exact(lG (fun c hc=>hM j c hj hc) x).2 (h _ (ua ha hb hj))
inductive Out where
 | over
 | free
 | val (l:List Rat)
def sQ(m n:Nat)(M:Mx):Out→Prop
 | .over=> ∀x,¬yC m n M x
 | .free=> ∃x y f,f<n∧yC m n M x∧yC m n M y∧x f≠y f
 | .val l=>l.length=n∧yC m n M (fun c=>l.getD c 0)∧ ∀y,yC m n M y→ ∀c,c<n→y c=l.getD c 0
theorem sQ.congr{m n:Nat}{M M':Mx}{o:Out}(h: ∀x,yC m n M' x↔yC m n M x)(ho:sQ m n M' o):sQ m n M o:=by
 cases o with
 | over=>exact fun x hx=>ho x ((h x).2 hx)
 | free =>
   obtain ⟨x,y,f,hf,h1,h2,h3⟩:=ho;exact⟨x,y,f,hf,(h x).1 h1,(h y).1 h2,h3⟩
 | val l=>exact⟨ho.1,(h _).1 ho.2.1,fun y hy=>ho.2.2 y ((h y).2 hy)⟩
theorem v5.val{m n:Nat}{M:Mx}{pr:Nat→Option Nat}(h:v5 m n n M pr)(h0: ∀j,j<m→(∀d,pr d≠some j)→M j n=0){l:List Rat}(hl:l.length=n)(hv: ∀c,c<n→ ∃i,pr c=some i∧l.getD c 0=M i n / M i c):sQ m n M (.val l):=by
 have hall: ∀c,c<n→pr c≠none:=fun c hc e=>by
  obtain ⟨i,h1,_⟩:=hv c hc;rw[h1] at e;cases e
 have hx: ∀y,yC m n M y→ ∀c,c<n→y c=l.getD c 0:=fun y hy c hc=>by
  obtain ⟨i,h1,h2⟩:=hv c hc;rw[h2,h.one hall hy h1]
 refine⟨hl,?_,hx⟩;have hs:=h.J3 h0 (fun _=>0);intro j hj;have:=hs j hj;unfold yI at *;rw[← this];exact lV (fun c hc=>by rw[hx _ hs c hc])
end Lift
namespace Lift
abbrev Mt:=List (List Rat)
def fM(a:Mt):Mx:=fun j c=>(a.getD j []).getD c 0
def Du(a:Mt)(w:Nat):Prop:= ∀r,r∈a→r.length=w
theorem Du.get{a:Mt}{w j:Nat}(h:Du a w)(hj:j<a.length):(a.getD j []).length=w:=by
 rw[aG,bg hj];exact h _ (List.getElem_mem hj)
def nz(x:Rat):Bool:=decide (x≠0)
theorem Du.set{a:Mt}{w i:Nat}{r:List Rat}(h:Du a w)(hr:r.length=w):Du (a.set i r) w:=fun s hs=>by
 rcases List.mem_or_eq_of_mem_set hs with g | g
 · exact h s g
 · rw[g];exact hr
def Kc(n:Nat):Option (Mt×Nat)→Out
 | none=> .over
 | some (b,d)=>if d<n then .free else .val ((b.take n).map (fun r=>r.getD n 0))
structure JL (n k d:Nat) (a:Mt) (pr:Nat→Option Nat):Prop where
 rect:Du a (n+1)
 red:v5 a.length n k (fM a) pr
 img: ∀i,(∃c,pr c=some i)↔i<d
 one: ∀c i,pr c=some i→fM a i c=1
 le:d≤a.length
 way:(d=k∧ ∀c,c<k→pr c=some c)∨(d<k∧ ∃f,f<k∧pr f=none)
theorem JL.fin{n k d:Nat}{a:Mt}{pr:Nat→Option Nat}(h:JL n k d a pr)(hr:v5 a.length n n (fM a) pr)(hk:k≤n)(h0: ∀j,j<a.length→d≤j→fM a j n=0):sQ a.length n (fM a) (Kc n (some (a,d))):=by
 have hz: ∀j,j<a.length→(∀c,pr c≠some j)→fM a j n=0:=fun j hj hn=>h0 j hj (by
  rcases Nat.lt_or_ge j d with g | g
  · obtain ⟨c,hc⟩:=(h.img j).2 g;exact absurd hc (hn c)
  · exact g)
 show sQ _ _ _ (if d<n then .free else .val ((a.take n).map (fun r=>r.getD n 0)));split
 · rename_i hd
   have: ∃f,f<n∧pr f=none:=by
    rcases h.way with ⟨h1,h2⟩ | ⟨_,f,h1,h2⟩
    · refine⟨k,by omega,?_⟩;cases hp:pr k with
      | none=>rfl
      | some i=>have:=(h.red.lt k i hp).1;omega
    · exact⟨f,by omega,h2⟩
   obtain ⟨f,hf,hpf⟩:=this;obtain ⟨x,y,h1,h2,h3⟩:=hr.two hz hf hpf;exact⟨x,y,f,hf,h1,h2,h3⟩
 · rename_i hd
   have hk':d=k∧ ∀c,c<k→pr c=some c:=by
    rcases h.way with g | ⟨g,_⟩
    · exact g
    · omega
   have hdn:d=n:=by omega
   refine hr.val hz (by rw[ae,aQ];have:=h.le;omega) (fun c hc=>⟨c,hk'.2 c (by omega),?_⟩);rw[h.one c c (hk'.2 c (by omega))];have hca:c<a.length:=by have:=h.le;omega
   have:((a.take n).map (fun r=>r.getD n 0)).getD c 0=fM a c n:=by
    unfold fM;simp only[aG,List.getElem?_map,List.getElem?_take,if_pos hc];rw[bg hca];rfl
   rw[this];grind
end Lift
namespace Lift
abbrev J0:=List (List Rat×Rat)
def gE(l:J0)(j:Nat):List Rat×Rat:=l.getD j ([],0)
def Av(l:J0)(n:Nat):Prop:= ∀e,e∈l→e.1.length=n
theorem Av.get{l:J0}{n j:Nat}(h:Av l n)(hj:j<l.length):(gE l j).1.length=n:=by
 unfold gE;rw[aG,bg hj];exact h _ (List.getElem_mem hj)
theorem Av.set{l:J0}{n i:Nat}{e:List Rat×Rat}(h:Av l n)(he:e.1.length=n):Av (l.set i e) n:=fun s hs=>by
 rcases List.mem_or_eq_of_mem_set hs with g | g
 · exact h s g
 · rw[g];exact he
end Lift
namespace Lift
theorem sQ.changed{m n:Nat}{M:Mx}{l l':List Rat}(h:sQ m n M (.val l)){i:Nat}(hi:i<n)(hne:l'.getD i 0≠l.getD i 0): ¬yC m n M (fun c=>l'.getD c 0):=fun hs=>hne (h.2.2 _ hs i hi)
end Lift
namespace Lift
open Go Go.Proofs
structure TD where
 t:RD
 h:Bool
abbrev TD.D(a:TD):D:= .ag [dB a.t.g,Wd a.t.n,Wd a.t.d,dB a.h]
def TD.okB(a:TD):Bool:=a.t.okB&&(!a.h||decide (a.t.val=0))
def TD.val(a:TD):Option Rat:=if a.h=true then none else some a.t.val
def TQ:Option Rat→TD
 | none=>⟨Qr 0,true⟩
 | some q=>⟨Qr q,false⟩
theorem TD.canon{a:TD}{k:Nat}(hw:a.t.w k)(h:a.okB=true):a=TQ a.val:=by
 obtain ⟨t,b⟩:=a;unfold TD.okB at h;rw[Bool.and_eq_true] at h;have ht:=RD.canon hw h.1;cases b with
 | true =>
   have h0:t.val=0:=by simpa using h.2
   show TD.mk t true=TD.mk (Qr 0) true;have ht:t=Qr t.val:=ht;rw[h0] at ht;rw[ht]
 | false =>
   show TD.mk t false=TD.mk (Qr t.val) false;have ht:t=Qr t.val:=ht;rw[← ht]
theorem nD:LQ 1≤1:=by
 have h:=JK 1;rw[vU,show ((1:Int):Rat)=1 from rfl] at h;omega
end Lift
namespace Lift
open Go Go.Proofs
structure PD where
 x:RD
 y:RD
abbrev PD.D(a:PD):D:= .ag [dB a.x.g,Wd a.x.n,Wd a.x.d,dB a.y.g,Wd a.y.n,Wd a.y.d]
structure BQ where
 t:TD
 l:PD
abbrev BQ.D(p:BQ):D:= .ag [dB p.t.t.g,Wd p.t.t.n,Wd p.t.t.d,dB p.t.h,dB p.l.x.g,Wd p.l.x.n,Wd p.l.x.d,dB p.l.y.g,Wd p.l.y.n,Wd p.l.y.d]
def PD.okB(a:PD):Bool:=a.x.okB&&a.y.okB
def BQ.okB(p:BQ):Bool:=p.t.okB&&p.l.okB
def PD.w(k:Nat)(a:PD):Prop:=a.x.w k∧a.y.w k
def BQ.w(k:Nat)(p:BQ):Prop:=p.t.t.w k∧p.l.w k
abbrev VQ(v:V2):PD:=⟨Qr v.1,Qr v.2⟩
abbrev PoQ(p:Option Rat×V2):BQ:=⟨TQ p.1,VQ p.2⟩
def PD.val(a:PD):V2:=(a.x.val,a.y.val)
def BQ.val(p:BQ):Option Rat×V2:=(p.t.val,p.l.val)
theorem PD.canon{a:PD}{k:Nat}(hw:a.w k)(h:a.okB=true):a=VQ a.val:=by
 obtain ⟨x,y⟩:=a;unfold PD.okB at h;rw[Bool.and_eq_true] at h;have hx:=RD.canon hw.1 h.1;have hy:=RD.canon hw.2 h.2;show PD.mk x y=PD.mk (Qr x.val) (Qr y.val);have hx:x=Qr x.val:=hx;have hy:y=Qr y.val:=hy;rw[← hx,← hy]
theorem BQ.canon{p:BQ}{k:Nat}(hw:p.w k)(h:p.okB=true):p=PoQ p.val:=by
 obtain ⟨t,l⟩:=p;unfold BQ.okB at h;rw[Bool.and_eq_true] at h;have h1:=TD.canon hw.1 h.1;have h2:=PD.canon hw.2 h.2;show BQ.mk t l=BQ.mk (TQ t.val) (VQ l.val);have h1:t=TQ t.val:=h1;have h2:l=VQ l.val:=h2;rw[← h1,← h2]
end Lift
namespace Lift
open Go Go.Proofs
end Lift
namespace Lift
open Go Go.Proofs
structure Az where
 c:PD
 m:PD
 r:RD
abbrev Az.D(d:Az):D:= .ag [dB d.c.x.g,Wd d.c.x.n,Wd d.c.x.d,dB d.c.y.g,Wd d.c.y.n,Wd d.c.y.d,dB d.m.x.g,Wd d.m.x.n,Wd d.m.x.d,dB d.m.y.g,Wd d.m.y.n,Wd d.m.y.d,dB d.r.g,Wd d.r.n,Wd d.r.d]
def Az.okB(d:Az):Bool:=d.c.okB&&d.m.okB&&d.r.okB
def Az.w(k:Nat)(d:Az):Prop:=d.c.w k∧d.m.w k∧d.r.w k
abbrev DyQ(d:V2×V2×Rat):Az:=⟨VQ d.1,VQ d.2.1,Qr d.2.2⟩
def Az.val(d:Az):V2×V2×Rat:=(d.c.val,d.m.val,d.r.val)
theorem Az.canon{d:Az}{k:Nat}(hw:d.w k)(h:d.okB=true):d=DyQ d.val:=by
 obtain ⟨c,m,r⟩:=d;unfold Az.okB at h;rw[Bool.and_eq_true,Bool.and_eq_true] at h;have h1:=PD.canon hw.1 h.1.1;have h2:=PD.canon hw.2.1 h.1.2;have h3:=RD.canon hw.2.2 h.2;show Az.mk c m r=Az.mk (VQ c.val) (VQ m.val) (Qr r.val);have h1:c=VQ c.val:=h1;have h2:m=VQ m.val:=h2;have h3:r=Qr r.val:=h3;rw[← h1,← h2,← h3]
instance:Inhabited BQ:=⟨PoQ (none,(0,0))⟩
abbrev Az.rs(d:Az):List RD:=[d.c.x,d.c.y,d.m.x,d.m.y,d.r]
theorem II{l:List RD}{i:Nat}(hi:i<l.length)(h:(l.getD i default).okB=false):l.all RD.okB=false:=by
 rw[List.all_eq_false];exact⟨l.getD i default,by rw[aG,bg hi];exact List.getElem_mem hi,by rw[h];simp⟩
theorem Hh{l:List RD}(h: ∀i,i<l.length→(l.getD i default).okB=true):l.all RD.okB=true:=by
 rw[List.all_eq_true];intro x hx;obtain ⟨i,hi,rfl⟩:=List.mem_iff_getElem.1 hx;have:=h i hi;rw[aG,bg hi] at this;exact this
end Lift
namespace Lift
open Go Go.Proofs
theorem tZ{α:Type}(l:List α)(d:α){i:Nat}(h:i<l.length):l.take (i+1)=l.take i++[l.getD i d]:=by
 rw[List.take_add_one,aG,bg h];rfl
end Lift
namespace Lift
open Go Go.Proofs
instance:Inhabited Az:=⟨DyQ ((0,0),(0,0),0)⟩
end Lift
namespace Lift
open Go Go.Proofs
structure JN where
 a2:Rat
 b2:Rat
 c2:Rat
 f:V2
 u:List V2
 sg:List Int
abbrev IL(l:List Int):List D:=l.map (fun n=>dI n)
abbrev VLs(l:List V2):List D:=l.map (fun v=>(VQ v).D)
abbrev Kv(a b c:Rat)(f:V2)(x y:D):List D:=[dB (Qr a).g,Wd (Qr a).n,Wd (Qr a).d,dB (Qr b).g,Wd (Qr b).n,Wd (Qr b).d,dB (Qr c).g,Wd (Qr c).n,Wd (Qr c).d,dB (Qr f.1).g,Wd (Qr f.1).n,Wd (Qr f.1).d,dB (Qr f.2).g,Wd (Qr f.2).n,Wd (Qr f.2).d,x,y]
abbrev JN.D(b:JN):D:= .ag (Kv b.a2 b.b2 b.c2 b.f (.sl 6 (VLs b.u)) (.sl 1 (IL b.sg)))
end Lift
namespace Lift
open Go Go.Proofs
theorem xG(q:Rat):jJ q.num=kR q:=by
 unfold jJ kR;have h0:q.num=0↔q=0:=Rat.num_eq_zero
 have h1:q.num<0↔q<0:=by
  have e1:= @Rat.num_nonneg q;have e2:= @Rat.not_le 0 q;rw[← e2,← e1];omega
 by_cases hz:q=0
 · subst hz;rfl
 · rw[if_neg hz];by_cases hl:q<0
   · rw[if_pos hl,if_pos (h1.2 hl)]
   · rw[if_neg hl,if_neg (fun h=>hl (h1.1 h)),if_neg (fun h=>hz (h0.1 h))]
end Lift
namespace Lift
open Go Go.Proofs
abbrev ai(a:NQ):D:= .sl 3 (eC a)
abbrev bA(rt:List NQ):D:= .ag [.sl 1 (rt.map ai)]
theorem y7{k:Nat}(hk:k≤43):IntKind.i64.wrap ((1:Int)*2^(min k IntKind.i64.bits))=((2^k:Nat):Int):=by
 have hb:IntKind.i64.bits=64:=rfl;have h:2^k≤2^43:=Nat.pow_le_pow_right (by decide) hk;rw[hb,Nat.min_eq_left (by omega),show (1:Int)*2^k=((2^k:Nat):Int) by push_cast;omega];generalize 2^k=m at h;rw[aH (by omega) (by omega)]
theorem mJ(xs:List D)(r:Int)(hx:xs.length≤4398046511104)(hr: ∀k:Nat,k≤43→xs.length≤2^k→(∀j,j<k→2^j<xs.length)→r=if 2^k=xs.length then (k:Int) else -1):Pure Tryz.prog 102 [.sl 3 xs] (dI r):=by
 refine qJ 17 Tryz.func102 rfl rfl rfl rfl (by kernel_rfl) (fun B F0 w0=>?_);refine qX 1 rfl ?_;refine qK 1 rfl ?_;refine qI (AW.block ?_);refine AW.aF [0,3] (fun k:Nat=>[(0,.d (.sl 3 xs)),(3,.d (dI k))]) (fun k=>k≤43∧ ∀j,j<k→2^j<xs.length) (fun k=>43-k) 0 rfl ⟨Nat.zero_le _,fun j h=>by omega⟩ (fun k hi=>?_)
 · obtain ⟨hk,hi⟩:=hi;show AW _ _ _ _ _ _ _ [(0,.d (.sl 3 xs)),(3,.d (dI k))];have hp:2^k≤2^43:=Nat.pow_le_pow_right (by decide) hk;refine AW.seq (qX 2 rfl ?_);rw[y7 hk];refine qU 3 rfl ?_;refine ab.nil ?_;refine AW.cond rfl (fun h=>?_) (fun h=>?_)
   · have h:2^k<xs.length:=by have:=ar h;omega
     have hk4:k≠43:=fun e=>by subst e;omega
     refine AW.skip (AW.block ?_);refine qT 2 rfl ?_;rw[aH (x:=(k:Int)+1) (by omega) (by omega)];refine qU 1 rfl ?_;refine ab.nil ?_
     exact⟨k+1,rfl,⟨by omega,fun j hj=>by
      by_cases e:j=k
      · rw[e];exact h
      · exact hi j (by omega)⟩,by omega⟩
   have h: ¬2^k<xs.length:=by have:=aA h;omega
   rw[hr k hk (by omega) hi];refine AW.exit (AW.seq ?_);refine qX 2 rfl ?_;rw[y7 hk];refine qU 3 rfl ?_;refine ab.nil ?_;by_cases e:2^k=xs.length
   · rw[if_pos e,e,bne_eq_false_iff_eq.2 rfl];refine AW.aB rfl ?_;refine AW.skip (qX 2 rfl ?_);exact qN rfl
   rw[if_neg e,bne_iff_ne.2 (fun h=>e (by omega))];refine AW.aL rfl ?_;refine qX 1 rfl ?_;exact qN rfl
theorem jx{i j:Nat}(h:2^i≤2^j):i≤j:=(Nat.pow_le_pow_iff_right (a:=2) (by decide)).1 h
theorem eI(xs:List D){i:Nat}(h:xs.length=2^i)(hi:i≤42):Pure Tryz.prog 102 [.sl 3 xs] (dI i):=by
 have hp:2^i≤2^42:=Nat.pow_le_pow_right (by decide) hi;refine mJ xs i (by omega) (fun k hk h1 h2=>?_);rw[h] at h1;have h1:=jx h1;by_cases e:i<k
 · have:=h2 i e;omega
 · have e:i=k:=by omega
   rw[if_pos (by rw[h,e]),e]
theorem mu(xs:List D)(h: ∀i,xs.length≠2^i)(hx:xs.length≤4398046511104):Pure Tryz.prog 102 [.sl 3 xs] (dI (-1)):=by
 refine mJ xs (-1) hx (fun k hk h1 h2=>?_);rw[if_neg (fun e=>h k e.symm)]
theorem tQ{a:NQ}{i:Nat}(hi:i<a.length)(h:a.getD i 0≠0):bD a=false:=by
 unfold bD;rw[List.all_eq_false];exact⟨a.getD i 0,by rw[aG,bg hi];exact List.getElem_mem hi,by rw[aT h];simp⟩
theorem qY{a:NQ}(h: ∀i,i<a.length→a.getD i 0=0):bD a=true:=by
 unfold bD;rw[List.all_eq_true];intro x hx;obtain ⟨i,hi,rfl⟩:=List.mem_iff_getElem.1 hx;have:=h i hi;rw[aG,bg hi] at this;exact aV this
theorem oq(a:NQ){k:Nat}(hs:au k a)(hk:k≤17300000000000)(hl:a.length≤1000000):Pure Tryz.prog 105 [ai a] (dB (bD a)):=by
 refine qJ 15 Tryz.func105 rfl rfl rfl rfl (by kernel_rfl) (fun B F0 w0=>?_);have hno:=fun i hi=>tQ (a:=a) (i:=i) hi;have hyes:=qY (a:=a);generalize bD a=E at hno hyes ⊢;refine qX 1 rfl ?_;refine qI (qX 2 rfl ?_);rw[ae];refine qU 1 rfl ?_;refine ab.nil ?_;refine AW.block ?_;refine AW.aF [5,6,7] (fun i:Nat=>[(5,.d (ai a)),(6,.d (dI a.length)),(7,.d (dI i))]) (fun i=> ∀j,j<i→j<a.length→a.getD j 0=0) (fun i=>a.length-i) 0 rfl (fun j h=>by omega) (fun i hi=>?_)
 · show AW _ _ _ _ _ _ _ [(5,.d (ai a)),(6,.d (dI a.length)),(7,.d (dI i))];refine qX 1 rfl ?_;refine qI ?_;refine AW.cond rfl (fun h=>?_) (fun h=>?_)
   · have hii:i<a.length:=by have:=ar h;omega
     have g:=kN hii;have cs:=lD (Qr (a.getD i 0)) (jt _ (hs i)) hk;have hn:=hno i hii;rw[cE] at cs;have s0:=J5 (q:=a.getD i 0);generalize hq:a.getD i 0=q at g cs hn s0;generalize jJ q.num=s at cs s0;refine AW.skip (AW.seq (AW.block (AW.seq (AW.region ?_))));refine ab.idx tok (Qr q).D rfl rfl rfl rfl (aj i) g ?_;refine qU 3 rfl ?_;refine qK 1 rfl ?_;refine ab.call tok rfl rfl rfl rfl cs ?_;refine qU 1 rfl ?_;refine ab.nil ?_;refine AW.cond rfl (fun h=>?_) (fun h=>?_)
     · have h:s≠0:=bne_iff_ne.1 h;rw[hn (fun e=>h (s0.2 e))];refine qX 1 rfl ?_;exact qN rfl
     · have h:s=0:=bne_eq_false_iff_eq.1 h;refine AW.skip (qT 1 rfl ?_);rw[aH (x:=(i:Int)+1) (by omega) (by omega)];refine qU 1 rfl ?_;refine ab.nil ?_;refine⟨i+1,rfl,fun j h1 h2=>?_,by omega⟩;by_cases e:j=i
       · rw[e,hq];exact s0.1 h
       · exact hi j (by omega) h2
   have hii: ¬i<a.length:=by have:=aA h;omega
   rw[hyes (fun j h=>hi j (by omega) h)];refine AW.exit ?_;refine qX 1 rfl ?_;exact qN rfl
theorem FP(q:Rat):((Qr q).g=false∧(Qr q).n.length=0∧(Qr q).d.length=0)↔q=0:=by
 constructor
 · rintro ⟨_,h,_⟩
   have:=RD.pH (r:=Qr q) (List.length_eq_zero_iff.1 h);rw[cE] at this;exact this
 · intro e;subst e;rw[jC];exact⟨rfl,rfl,rfl⟩
theorem mK(a:NQ)(hl:a.length≤1000000):Pure Tryz.prog 104 [ai a] (dB (bD a)):=by
 refine qJ 26 Tryz.func104 rfl rfl rfl rfl (by kernel_rfl) (fun B F0 w0=>?_);have hno:=fun i hi=>tQ (a:=a) (i:=i) hi;have hyes:=qY (a:=a);generalize bD a=E at hno hyes ⊢;refine qX 1 rfl ?_;refine qI (qX 2 rfl ?_);rw[ae];refine qU 1 rfl ?_;refine ab.nil ?_;refine AW.block ?_;refine AW.aF [5,6,7] (fun i:Nat=>[(5,.d (ai a)),(6,.d (dI a.length)),(7,.d (dI i))]) (fun i=> ∀j,j<i→j<a.length→a.getD j 0=0) (fun i=>a.length-i) 0 rfl (fun j h=>by omega) (fun i hi=>?_)
 · show AW _ _ _ _ _ _ _ [(5,.d (ai a)),(6,.d (dI a.length)),(7,.d (dI i))];refine qX 1 rfl ?_;refine qI ?_;refine AW.cond rfl (fun h=>?_) (fun h=>?_)
   · have hii:i<a.length:=by have:=ar h;omega
     have g:=kN hii;have hn:=hno i hii;have s0:=FP (a.getD i 0);generalize hq:a.getD i 0=q at g hn s0;generalize Qr q=y at g s0;obtain ⟨yg,yn,yd⟩:=y;simp only[] at s0;refine AW.skip (AW.seq (AW.block (AW.seq (AW.region ?_))));refine ab.idx tok (RD.mk yg yn yd).D rfl rfl rfl rfl (aj i) g ?_;refine qU 3 rfl ?_;refine qK 3 rfl ?_;cases yg with
     | true =>
       refine qU 11 rfl ?_;refine ab.nil ?_;refine AW.aL rfl ?_;rw[hn (fun e=>by have:=s0.2 e;cases this.1)];refine qX 1 rfl ?_;exact qN rfl
     | false =>
     refine qU 3 rfl ?_;rw[bb];refine qU 1 rfl ?_;by_cases h1:(0:Int)<(yn.length:Int)
     · rw[aV h1];refine qU 7 rfl ?_;refine ab.nil ?_;refine AW.aL rfl ?_;rw[hn (fun e=>by have:=(s0.2 e).2.1;omega)];refine qX 1 rfl ?_;exact qN rfl
     rw[aT h1];refine qU 5 rfl ?_;rw[bb];refine qU 1 rfl ?_;by_cases h2:(0:Int)<(yd.length:Int)
     · rw[aV h2];refine qU 1 rfl ?_;refine ab.nil ?_;refine AW.aL rfl ?_;rw[hn (fun e=>by have:=(s0.2 e).2.2;omega)];refine qX 1 rfl ?_;exact qN rfl
     rw[aT h2];refine qU 1 rfl ?_;refine ab.nil ?_;refine AW.aB rfl ?_;refine AW.skip (qT 1 rfl ?_);rw[aH (x:=(i:Int)+1) (by omega) (by omega)];refine qU 1 rfl ?_;refine ab.nil ?_;refine⟨i+1,rfl,fun j h1 h2=>?_,by omega⟩;by_cases e:j=i
     · rw[e,hq];exact s0.1 ⟨rfl,by omega,by omega⟩
     · exact hi j (by omega) h2
   have hii: ¬i<a.length:=by have:=aA h;omega
   rw[hyes (fun j h=>hi j (by omega) h)];refine AW.exit ?_;refine qX 1 rfl ?_;exact qN rfl
end Lift
namespace Lift
open Go Go.Proofs
section
variable {P:Program} {T:Ty} {B:Nat} {F0:Nat→Prop} {w0:cL} {n:Nat} {σ τ:St} {K:St→Prop} {all:Array Oper} {o:Oper} {d:Nat} {rest:List Oper}
theorem ab.Hx(hT:bw P T)(z:Nat){e:Nat}{te:TI}{m:Int}(hd:o.dst=some d)(hdn:Nat.ble (d+1) n=true)(hg:aD all σ o=true)(hx:Ij T σ.get o.op=some (e,te,m))(hz:kH te=true)(hzd:rW te= .ag [.v (.bool false),.sl 1 [],.sl 1 []])(hb:te.bytes=56)(hm:m=z)(h1:z≤1000000)
  (h:ab P B F0 w0 n all rest K ((d,.ow e (eC (List.replicate z 0)))::σ.kill d)):ab P B F0 w0 n all (o::rest) K σ:=by
 subst hm;refine ab.make hT hd hdn hg hx hz (by omega) (by rw[hb];omega) (by omega) ?_;have hq:(Qr 0).D= .ag [.v (.bool false),.sl 1 [],.sl 1 []]:=by rw[jC];rfl
 rw[hzd,← hq,show List.replicate ((z:Int)).toNat (Qr 0).D=eC (List.replicate z 0) by rw[eC,List.map_replicate];rfl];exact h
theorem DC(a:NQ)(m:Nat):(eC a).take (min (eC a).length (eC (List.replicate m 0)).length)++(eC (List.replicate m 0)).drop (min (eC a).length (eC (List.replicate m 0)).length)=eC (bk a m):=by
 rw[ae,ae,List.length_replicate,← List.map_take,← List.map_drop,← List.map_append];unfold bk;rw[List.drop_replicate]
 congr 2
 · by_cases h:a.length≤m
   · rw[Nat.min_eq_left h,List.take_of_length_le (ao _),List.take_of_length_le h]
   · rw[Nat.min_eq_right (by omega)]
 · congr 1;omega
theorem ab.Jz(hT:bw P T){h e m:Nat}{a:NQ}(hd:o.dst=some d)(hdn:Nat.ble (d+1) n=true)(hg:aD all σ o=true)(hx:JW T σ o.op=some (h,e,eC (List.replicate m 0),eC a))
  (hk: ∀z,ab P B F0 w0 n all rest K ((d,.d (.v (.int .i64 z)))::(h,.ow e (eC (bk a m)))::σ)):ab P B F0 w0 n all (o::rest) K σ:=by
 refine ab.Fq hT hd hdn hg hx ?_;rw[DC];exact hk _
end
theorem Bk{a b:NQ}(h:a.length=b.length)(h2: ∀i,i<a.length→a.getD i 0=b.getD i 0):a=b:=by
 refine List.ext_getElem h (fun i h3 h4=>?_);have:=h2 i h3;rw[aG,aG,bg h3,bg h4] at this;exact this
theorem By(r:NQ)(i j:Nat)(q:Rat):(r.set i q).getD j 0=if j=i∧i<r.length then q else r.getD j 0:=by
 rw[aG,List.getElem?_set,aG];by_cases e:i=j
 · subst e;by_cases h:i<r.length
   · rw[if_pos rfl,if_pos h,if_pos ⟨rfl,h⟩];rfl
   · rw[if_pos rfl,if_neg h,if_neg (fun e=>h e.2),List.getElem?_eq_none (by omega)]
 · rw[if_neg e,if_neg (fun h=>e h.1.symm)]
def Es(r:NQ)(res:D)(R':List LR):Prop:= ∃V,res= .v V∧R'=[(V,AV.ow 111 (eC r))]
theorem iJ(a:NQ)(n:Nat)(hn:n≤1000000):jg Tryz.prog 125 [ai a,dI n] [] (Es (bk a n)):=by
 refine jg.intro (n:=12) tok Tryz.func125 rfl rfl rfl (Nat.le_of_ble_eq_true rfl) (by kernel_rfl) (fun B F0 w0=>?_);refine AZ.seq (AZ.cO (fun B1 F1 w1=>?_));refine qU 1 rfl ?_;refine ab.nil ⟨rfl,?_⟩;refine AZ.seq (AZ.cO (fun B1 F1 w1=>?_));refine qU 1 rfl ?_;refine ab.Hx tok n rfl rfl rfl rfl rfl rfl rfl rfl hn ?_;refine qU 1 rfl ?_;refine ab.nil ⟨rfl,?_⟩;refine AZ.seq (AZ.cO (fun B1 F1 w1=>?_));refine qU 2 rfl ?_;refine ab.Jz tok (a:=a) (m:=n) rfl rfl rfl rfl (fun z=>?_);refine ab.nil ⟨rfl,?_⟩;refine AZ.seq (AZ.cO (fun B1 F1 w1=>?_));refine qU 2 rfl ?_;refine ab.nil ⟨rfl,?_⟩;refine AZ.iD 4 rfl rfl rfl (fun V=>AZ.ret ⟨.v V,rfl,V,rfl,rfl⟩)
theorem fm(a:NQ){k:Nat}(hs:au k a)(hk:k≤17300000000000)(hl:a.length≤1000000):Pure Tryz.prog 86 [ai a] (ai (aK a)):=by
 refine qJ 23 Tryz.func86 rfl rfl rfl rfl (by kernel_rfl) (fun B F0 w0=>?_);refine qX 1 rfl ?_;refine qK 2 rfl ?_;rw[ae];refine ab.Hx tok a.length rfl rfl rfl rfl rfl rfl rfl rfl hl ?_;refine qU 1 rfl ?_;refine qI (qX 2 rfl ?_);rw[ae];refine qU 1 rfl ?_;refine ab.nil ?_;refine AW.block ?_;refine AW.aF [0,3,9,10] (fun s:Nat×NQ=>[(0,.d (ai a)),(3,.ow 111 (eC s.2)),(9,.d (dI a.length)),(10,.d (dI s.1))]) (fun s=>s.2.length=a.length∧ ∀j,j<s.1→j<a.length→s.2.getD j 0= -a.getD j 0) (fun s=>a.length-s.1) (0,List.replicate a.length 0) rfl ⟨List.length_replicate,fun j h=>by omega⟩ (fun s hi=>?_)
 · obtain ⟨i,r⟩:=s;obtain ⟨hrl,hi⟩:=hi;simp only[] at hrl hi;show AW _ _ _ _ _ _ _ [(0,.d (ai a)),(3,.ow 111 (eC r)),(9,.d (dI a.length)),(10,.d (dI i))];refine qX 1 rfl ?_;refine qI ?_;refine AW.cond rfl (fun h=>?_) (fun h=>?_)
   · have hii:i<a.length:=by have:=ar h;omega
     have g:=kN hii;have cn:=s8 (Qr (a.getD i 0)) (jt _ (hs i)) hk;rw[cE] at cn;refine AW.skip (AW.seq (AW.block ?_));refine qX 2 rfl ?_;refine ab.nil ?_;refine qT 4 rfl ?_;refine ab.idx tok (Qr (a.getD i 0)).D rfl rfl rfl rfl (aj i) g ?_;refine qU 1 rfl ?_;refine ab.call tok rfl rfl rfl rfl cn ?_;refine ab.ga tok rfl rfl rfl rfl (aj i) (by rw[ae];show i<_;omega) ?_;refine ab.AS tok (-a.getD i 0) rfl rfl rfl (by show i<_;omega) ?_;refine ab.nil ?_;refine qT 1 rfl ?_;rw[aH (x:=(i:Int)+1) (by omega) (by omega)];refine qU 1 rfl ?_;refine ab.nil ?_;refine⟨(i+1,r.set i (-a.getD i 0)),rfl,⟨by rw[List.length_set];exact hrl,fun j h1 h2=>?_⟩,by show a.length-(i+1)<a.length-i;omega⟩;show (r.set i (-a.getD i 0)).getD j 0=_;rw[By];by_cases e:j=i
     · rw[if_pos ⟨e,by omega⟩,e]
     · rw[if_neg (fun h=>e h.1)];exact hi j (by omega) h2
   have hii: ¬i<a.length:=by have:=aA h;omega
   obtain rfl:r=aK a:=Bk (by rw[hrl,bz]) (fun j hj=>by rw[pb];exact hi j (by omega) (by omega));refine AW.exit ?_;refine qX 2 rfl ?_;exact qN rfl
theorem Ik(a b:Nat):(if (b:Int)>(a:Int) then (b:Int) else (a:Int))=((max a b:Nat):Int):=by
 split<;>omega
theorem dL(a b:NQ){k:Nat}(ha:au k a)(hb:au k b)(hk:k≤17300000000000)(hl:a.length≤1000000)(hl2:b.length≤1000000):Pure Tryz.prog 85 [ai a,ai b] (ai (aS a b)):=by
 refine qJ 37 Tryz.func85 rfl rfl rfl rfl (by kernel_rfl) (fun B F0 w0=>?_);obtain ⟨n,hn⟩: ∃n,n=max a.length b.length:=⟨_,rfl⟩;have cw1:=iJ a n (by omega);have cw2:=iJ b n (by omega);have l1:=bH a n;have l2:=bH b n;have g1: ∀i,i<n→(bk a n).getD i 0=a.getD i 0:=fun i hi=>by rw[gz,if_pos hi]
 have g2: ∀i,i<n→(bk b n).getD i 0=b.getD i 0:=fun i hi=>by rw[gz,if_pos hi]
 have hpl:(aS a b).length=n:=by rw[jM,hn]
 generalize bk a n=wa at cw1 l1 g1;generalize bk b n=wb at cw2 l2 g2;refine qX 1 rfl ?_;refine qK 4 rfl ?_;rw[ae,ae];refine qU 2 rfl ?_;rw[Ik,← hn];refine qI (AZ.aw ?_);refine AZ.region ?_;refine ah.cut 2 rfl (fun B1 F1 w1=>?_);refine qU 2 rfl ?_;refine ab.nil ⟨rfl,?_⟩;refine ah.fR tok [] rfl rfl rfl rfl rfl List.nodup_nil rfl cw1 (fun _ _ _=>Nat.zero_le _) (fun res R1 hP=>?_);obtain ⟨V1,rfl,rfl⟩:=hP;refine ah.cut 2 rfl (fun B1 F1 w1=>?_);refine qU 2 rfl ?_;refine ab.nil ⟨rfl,?_⟩;refine ah.fR tok [] rfl rfl rfl rfl rfl List.nodup_nil rfl cw2 (fun _ _ _=>Nat.zero_le _) (fun res R1 hP=>?_);obtain ⟨V2,rfl,rfl⟩:=hP;refine ah.cut 2 rfl (fun B1 F1 w1=>?_);refine qU 2 rfl ?_;refine ab.nil ⟨rfl,?_⟩;refine ah.to [0,1] [(0,.d (.v V1)),(1,.d (.v V2))] rfl ?_;refine ah.cT 0 0 (V:=V1) (av:= .ow 111 (eC wa)) rfl rfl rfl ?_;refine ah.to [0,1] [(0,.ow 111 (eC wa)),(1,.d (.v V2))] rfl ?_;refine ah.cT 1 1 (V:=V2) (av:= .ow 111 (eC wb)) rfl rfl rfl ?_;refine ah.to [0,1] [(0,.ow 111 (eC wa)),(1,.ow 111 (eC wb))] rfl ?_;refine ah.nil ?_;refine AW.fQ tok 1 rfl rfl ?_;refine AW.seq (qX 2 rfl ?_);rw[ae,l1];refine qU 1 rfl ?_;refine ab.nil ?_;refine AW.block ?_;refine AW.aF [0,1,19,20] (fun s:Nat×NQ=>[(0,.ow 111 (eC s.2)),(1,.d (ai wb)),(19,.d (dI n)),(20,.d (dI s.1))]) (fun s=>s.2.length=n∧ ∀j,j<n→s.2.getD j 0=if j<s.1 then a.getD j 0+b.getD j 0 else a.getD j 0) (fun s=>n-s.1) (0,wa) rfl ⟨l1,fun j h=>by rw[if_neg (Nat.not_lt_zero _)];exact g1 j h⟩ (fun s hi=>?_)
 · obtain ⟨i,r⟩:=s;obtain ⟨hrl,hi⟩:=hi;simp only[] at hrl hi;show AW _ _ _ _ _ _ _ [(0,.ow 111 (eC r)),(1,.d (ai wb)),(19,.d (dI n)),(20,.d (dI i))];refine qX 1 rfl ?_;refine qI ?_;refine AW.cond rfl (fun h=>?_) (fun h=>?_)
   · have hii:i<n:=by have:=ar h;omega
     have e1:=kN (r:=r) (i:=i) (by omega);have e2:=kN (r:=wb) (i:=i) (by omega);rw[hi i hii,if_neg (Nat.lt_irrefl _)] at e1;rw[g2 i hii] at e2;have ca:=mD (Qr (a.getD i 0)) (Qr (b.getD i 0)) (jt _ (ha i)) (jt _ (hb i)) hk;rw[cE,cE] at ca;refine AW.skip (AW.seq (AW.block ?_));refine qX 2 rfl ?_;refine ab.nil ?_;refine AW.draw aP 12 (by kernel_rfl) ?_;refine qP 4 rfl ?_;refine af.ga tok rfl rfl rfl rfl rfl rfl (aj i) (by rw[ae];show i<_;omega) ?_;refine af.cZ tok (Qr (a.getD i 0)).D rfl rfl rfl rfl rfl e1 rfl ?_;refine qP 2 rfl ?_;refine af.idx tok (Qr (b.getD i 0)).D rfl rfl rfl rfl rfl (aj i) e2 ?_;refine qP 1 rfl ?_;refine af.call tok rfl rfl rfl rfl rfl ca ?_;refine af.ga tok rfl rfl rfl rfl rfl rfl (aj i) (by rw[ae];show i<_;omega) ?_;refine af.nil ?_;refine ab.AS tok (a.getD i 0+b.getD i 0) rfl rfl rfl (by show i<_;omega) ?_;refine ab.nil ?_;refine qT 1 rfl ?_;rw[aH (x:=(i:Int)+1) (by omega) (by omega)];refine qU 1 rfl ?_;refine ab.nil ?_;refine⟨(i+1,r.set i (a.getD i 0+b.getD i 0)),rfl,⟨by rw[List.length_set];exact hrl,fun j h1=>?_⟩,by show n-(i+1)<n-i;omega⟩;show (r.set i (a.getD i 0+b.getD i 0)).getD j 0=if j<i+1 then _ else _
     rw[By];by_cases e:j=i
     · rw[if_pos ⟨e,by omega⟩,e,if_pos (by omega)]
     · rw[if_neg (fun h=>e h.1),hi j h1];by_cases h2:j<i
       · rw[if_pos h2,if_pos (by omega)]
       · rw[if_neg h2,if_neg (by omega)]
   have hii: ¬i<n:=by have:=aA h;omega
   obtain rfl:r=aS a b:=Bk (by rw[hrl,hpl]) (fun j hj=>by rw[nQ,hi j (by omega),if_pos (by omega)]);refine AW.exit ?_;refine qX 2 rfl ?_;exact qN rfl
theorem kJ(a b:NQ)(n:Nat)(hn:n≤100000):Pure Tryz.prog 107 [ai a,ai b,dI n] (ai (dJ a b n)):=by
 refine qJ 14 Tryz.func107 rfl rfl rfl rfl (by kernel_rfl) (fun B F0 w0=>?_);have cw1:=iJ a n (by omega);have cw2:=iJ b n (by omega);have l1:=bH a n;have l2:=bH b n;unfold dJ;generalize bk a n=wa at cw1 l1 ⊢;generalize bk b n=wb at cw2 l2 ⊢;refine qX 1 rfl ?_;refine qI (AZ.aw ?_);refine AZ.region ?_;refine ah.cut 2 rfl (fun B1 F1 w1=>?_);refine qU 2 rfl ?_;refine ab.nil ⟨rfl,?_⟩;refine ah.fR tok [] rfl rfl rfl rfl rfl List.nodup_nil rfl cw1 (fun _ _ _=>Nat.zero_le _) (fun res R1 hP=>?_);obtain ⟨V1,rfl,rfl⟩:=hP;refine ah.cut 2 rfl (fun B1 F1 w1=>?_);refine qU 2 rfl ?_;refine ab.nil ⟨rfl,?_⟩;refine ah.fR tok [] rfl rfl rfl rfl rfl List.nodup_nil rfl cw2 (fun _ _ _=>Nat.zero_le _) (fun res R1 hP=>?_);obtain ⟨V2,rfl,rfl⟩:=hP;refine ah.to [9,12] [(9,.d (.v V1)),(12,.d (.v V2))] rfl ?_;refine ah.cT 9 0 (V:=V1) (av:= .ow 111 (eC wa)) rfl rfl rfl ?_;refine ah.to [9,12] [(9,.ow 111 (eC wa)),(12,.d (.v V2))] rfl ?_;refine ah.cT 12 1 (V:=V2) (av:= .ow 111 (eC wb)) rfl rfl rfl ?_;refine ah.to [9,12] [(9,.ow 111 (eC wa)),(12,.ow 111 (eC wb))] rfl ?_;refine ah.cut 2 rfl (fun B1 F1 w1=>?_);refine ab.fQ tok 12 rfl rfl ?_;refine ab.gg tok rfl rfl rfl rfl rfl rfl (by rw[ae,ae,l1,l2];show (_+_)*56≤_;omega) (by rw[ae,ae,l1,l2];omega) ?_;refine qU 1 rfl ?_;refine ab.nil ⟨rfl,?_⟩;refine ah.nil ?_;rw[show eC wa++eC wb=eC (wa++wb) from List.map_append.symm];exact AW.ret rfl
theorem jh(a:NQ){k:Nat}(hs:au k a)(hk:k≤17300000000000)(hl:a.length≤1000000):Pure Tryz.prog 103 [ai a] (ai a):=by
 refine qJ 28 Tryz.func103 rfl rfl rfl rfl (by kernel_rfl) (fun B F0 w0=>?_);refine qX 1 rfl ?_;refine qK 1 rfl ?_;refine qI (qX 2 rfl ?_);rw[ae];refine qU 1 rfl ?_;refine ab.nil ?_;refine AW.block ?_;refine AW.aF [3,6,7,8] (fun i:Nat=>[(3,.ow 111 (eC (a.take i))),(6,.d (ai a)),(7,.d (dI a.length)),(8,.d (dI i))]) (fun i=>i≤a.length) (fun i=>a.length-i) 0 rfl (Nat.zero_le _) (fun i hi=>?_)
 · have hi:i≤a.length:=hi;show AW _ _ _ _ _ _ _ [(3,.ow 111 (eC (a.take i))),(6,.d (ai a)),(7,.d (dI a.length)),(8,.d (dI i))];refine qX 1 rfl ?_;refine qI ?_;refine AW.cond rfl (fun h=>?_) (fun h=>?_)
   · have hii:i<a.length:=by have:=ar h;omega
     have g:=kN hii;have hw:=jt _ (hs i);have htk:=tZ a 0 hii;have hol:(a.take i).length=i:=by rw[aQ];omega
     generalize a.getD i 0=q at g hw htk;have hw1:=hw.2.2.1;have hw2:=hw.2.2.2;refine AW.skip (AW.seq (AW.block (AW.seq (AW.region ?_))));refine ab.idx tok (Qr q).D rfl rfl rfl rfl (aj i) g ?_;refine qU 3 rfl ?_;refine ab.nil ?_;refine AW.draw aP 13 (by kernel_rfl) ?_;refine qP 6 rfl ?_;refine af.ny tok rfl rfl rfl rfl rfl (by show (((Qr q).n.map wd).length)*4≤_;rw[bb];omega) ?_;refine qP 3 rfl ?_;refine af.ny tok rfl rfl rfl rfl rfl (by show (((Qr q).d.map wd).length)*4≤_;rw[bb];omega) ?_;refine qP 1 rfl ?_;refine af.e7 tok rfl rfl rfl rfl rfl rfl ?_;refine af.nil ?_;refine ab.gg tok rfl rfl rfl rfl rfl rfl (by rw[ae,hol];show (_+1)*56≤_;omega) (by rw[ae,hol];show _+1≤_;omega) ?_;refine qU 1 rfl ?_;refine ab.nil ?_;refine qT 1 rfl ?_;rw[aH (x:=(i:Int)+1) (by omega) (by omega)];refine qU 1 rfl ?_;refine ab.nil ?_;exact⟨i+1,by rw[htk];show _=[(3,AV.ow _ (List.map _ _)),_,_,_];rw[List.map_append];rfl,hii,by omega⟩
   have hii:i=a.length:=by have:=aA h;omega
   subst hii;rw[List.take_length];refine AW.exit ?_;refine qX 2 rfl ?_;exact qN rfl
end Lift
namespace Lift
open Go Go.Proofs
section
variable {P:Program} {T:Ty} {B:Nat} {F0:Nat→Prop} {w0:cL} {n:Nat} {σ σ0 τ:St} {K:St→Prop} {all ops:Array Oper} {o:Oper} {d:Nat} {ds:List Nat} {rest:List Oper}
theorem B6(a:NQ)(lo hi:Option Int):((eC a).take (cP (eC a).length hi)).drop (fy lo)=eC ((a.take (cP a.length hi)).drop (fy lo)):=by
 show List.drop _ (List.take (cP (List.map _ a).length hi) (List.map _ a))=List.map _ _;rw[List.map_drop,List.map_take,ae]
theorem ab.fW(hT:bw P T){a:NQ}{lo hi:Option Int}(x:NQ)(hd:o.dst=some d)(hdn:Nat.ble (d+1) n=true)(hg:aD all σ o=true)(hx:CY T σ.get o.op=some (ai a,lo,hi))(g1:okB lo)(g2:okB hi)(g3:fy lo≤cP a.length hi)(g4:cP a.length hi≤a.length)(hxx:(a.take (cP a.length hi)).drop (fy lo)=x)
  (h:ab P B F0 w0 n all rest K ((d,.d (ai x))::σ)):ab P B F0 w0 n all (o::rest) K σ:=by
 refine ab.Dw hT hd hdn hg hx g1 g2 (by rw[ae];exact g3) (by rw[ae];exact g4) ?_;rw[B6,hxx];exact h
theorem af.fW(hT:bw P T){a:NQ}{lo hi:Option Int}(x:NQ)(hd:o.dst=some d)(hdn:Nat.ble (d+1) n=true)(hg:aD ops τ o=true)(hs:σ0.get d=none)(hx:CY T τ.get o.op=some (ai a,lo,hi))(g1:okB lo)(g2:okB hi)(g3:fy lo≤cP a.length hi)(g4:cP a.length hi≤a.length)(hxx:(a.take (cP a.length hi)).drop (fy lo)=x)
  (h:af P B F0 w0 n ops ds σ0 rest ((d,.d (ai x))::τ) K):af P B F0 w0 n ops ds σ0 (o::rest) τ K:=by
 refine af.Dw hT hd hdn hg hs hx g1 g2 (by rw[ae];exact g3) (by rw[ae];exact g4) ?_;rw[B6,hxx];exact h
end
theorem gL(i:Nat)(h:i≤9223372036854775807):mF true .i64 (i:Int) 2= .int .i64 ((i / 2:Nat):Int):=by
 have e:((i:Int).tdiv ((2:Nat):Int))=((i / 2:Nat):Int):=rfl;show Value.int .i64 (IntKind.i64.wrap ((i:Int).tdiv ((2:Nat):Int)))=_;rw[e,aH (by omega) (by omega)]
theorem oE{rt:List NQ}{i:Nat}(h:i<rt.length):(rt.map ai)[i]?=some (ai (rt.getD i [])):=by simp[h]
theorem aC.len{l:Nat}{a:NQ}(h:aC l a)(hl:l≤10):a.length≤1024:=Nat.le_trans h.le (Nat.pow_le_pow_right (n:=2) (by decide) hl)
def iy:Nat→NQ→NQ
 | 0,a=>if bD (a.take 1)=true then [] else a.take 1
 | i+1,a=>if bD ((a.take (2^(i+1))).drop (2^i))=true then iy i a else a.take (2^(i+1))
def aq(a:NQ):NQ:=if a.length=0 then [] else iy a.length.log2 a
theorem B7: ∀{i:Nat} {a:NQ} {k:Nat},2^i≤a.length→au k a→aC i (iy i a)∧au k (iy i a)
 | 0,a,k,h,hs=>by
   unfold iy;split
   · exact⟨bn _,aY hs.pos⟩
   · exact⟨.inr ⟨0,ao _,by rw[aQ];have h:1≤a.length:=h;show min 1 _=1;omega⟩,hs.take _⟩
 | i+1,a,k,h,hs=>by
   unfold iy;have e:2^(i+1)=2^i*2:=Nat.pow_succ ..;split
   · have:=B7 (i:=i) (a:=a) (by omega) hs;exact⟨this.1.mono (by omega),this.2⟩
   · exact⟨.inr ⟨i+1,ao _,by rw[aQ];omega⟩,hs.take _⟩
theorem aX{l k:Nat}{a:NQ}(h:aC l a)(hs:au k a):aC l (aq a)∧au k (aq a):=by
 unfold aq;split
 · exact⟨bn _,aY hs.pos⟩
 rename_i h0;rcases h with e | ⟨i,hi,e⟩
 · exact absurd e h0
 rw[e,Nat.log2_two_pow];have:=B7 (i:=i) (a:=a) (by omega) hs;exact⟨this.1.mono hi,this.2⟩
theorem cH(a:NQ){l k:Nat}(ha:aC l a)(hl:l≤5)(hs:au k a)(hk:k≤17300000000000):Pure Tryz.prog 62 [ai a] (ai (aq a)):=by
 refine qJ 45 Tryz.func62 rfl rfl rfl rfl (by kernel_rfl) (fun B F0 w0=>?_);have hl10:=ha.len (by omega);rcases ha with h0 | ⟨i,hi,hai⟩
 · obtain rfl:a=[]:=List.length_eq_zero_iff.1 h0;have cl:=mu (eC []) (fun i=>by have:=Nat.two_pow_pos i;show 0≠_;omega) (by decide);have cc:=jh [] hs hk (by decide);refine qX 1 rfl ?_;refine qI (qX 1 rfl ?_);refine ab.call tok rfl rfl rfl rfl cl ?_;refine qU 1 rfl ?_;refine qK 11 rfl ?_;refine ab.nil ?_;refine AW.aB rfl ?_;refine AW.skip (qX 3 rfl ?_);refine qI (AW.block ?_);refine AW.aF [0,4] (fun _:Unit=>[(0,.d (ai [])),(4,.d (dI 0))]) (fun _=>True) (fun _=>0) () rfl trivial (fun _ _=>?_);refine AW.seq (qX 10 rfl ?_);refine ab.nil ?_;refine AW.aB rfl ?_;refine AW.exit (AW.seq ?_);refine qX 7 rfl ?_;refine ab.nil ?_;refine AW.aB rfl ?_;refine AW.skip (qX 2 rfl ?_);refine ab.fW tok (a:=[]) [] rfl rfl rfl rfl trivial (Int.le_refl _) (ao _) (ao _) rfl ?_;refine ab.call tok rfl rfl rfl rfl cc ?_;refine qU 1 rfl ?_;exact qN rfl
 have cl:=eI (eC a) (by rw[ae];exact hai) (by omega);have hp:=Nat.two_pow_pos i;have hE:aq a=iy i a:=by unfold aq;rw[if_neg (by omega),hai,Nat.log2_two_pow]
 rw[hE];refine qX 1 rfl ?_;refine qI (qX 1 rfl ?_);refine ab.call tok rfl rfl rfl rfl cl ?_;refine qU 1 rfl ?_;refine qK 2 rfl ?_;rw[ae];refine qU 1 rfl ?_;rw[aV (show (0:Int)<(a.length:Int) by omega)];refine qU 3 rfl ?_;rw[aT (show ¬((i:Int)<0) by omega)];refine qU 3 rfl ?_;rw[aT (show ¬((5:Int)<(i:Int)) by omega)];refine qU 2 rfl ?_;refine ab.nil ?_;refine AW.aB rfl ?_;refine AW.skip (qX 2 rfl ?_);rw[ae,hai];refine qU 1 rfl ?_;refine qI (AW.block ?_);refine AW.aF [0,4] (fun j:Nat=>[(0,.d (ai a)),(4,.d (dI (2^j:Nat)))]) (fun j=>j≤i∧iy j a=iy i a) (fun j=>j) i rfl ⟨ao _,rfl⟩ (fun j hj=>?_);obtain ⟨hj,hjE⟩:=hj;show AW _ _ _ _ _ _ _ [(0,.d (ai a)),(4,.d (dI (2^j:Nat)))];have hpj:2^j≤2^i:=Nat.pow_le_pow_right (by decide) hj;have hpp:=Nat.two_pow_pos j;refine AW.seq (qX 2 rfl ?_);rcases j with _ | j
 · refine qU 8 rfl ?_;refine ab.nil ?_;refine AW.aB rfl ?_;refine AW.exit (AW.seq ?_);refine qX 4 rfl ?_;refine ab.fW tok (a:=a) (a.take 1) rfl rfl rfl rfl trivial (show (0:Int)≤1 by decide) (Nat.zero_le _) (show 1≤a.length by omega) rfl ?_;refine ab.call tok rfl rfl rfl rfl (mK (a.take 1) (by rw[aQ];omega)) ?_;refine qU 1 rfl ?_;refine ab.nil ?_;rw[← hjE];unfold iy;cases hz:bD (a.take 1) with
   | true =>
     rw[if_pos rfl];refine AW.aL rfl ?_;refine qX 1 rfl ?_;exact qN rfl
   | false =>
     rw[if_neg (by simp)];refine AW.aB rfl ?_;refine AW.skip (qX 2 rfl ?_);refine ab.fW tok (a:=a) (a.take 1) rfl rfl rfl rfl trivial (show (0:Int)≤1 by decide) (Nat.zero_le _) (show 1≤a.length by omega) rfl ?_;refine ab.call tok rfl rfl rfl rfl (jh (a.take 1) (hs.take 1) hk (by rw[aQ];omega)) ?_;refine qU 1 rfl ?_;exact qN rfl
 have e2:2^(j+1)=2^j*2:=Nat.pow_succ ..;have eh:=k7 j;rw[aV (show (1:Int)<((2^(j+1):Nat):Int) by have:=Nat.two_pow_pos j;omega)];refine qU 3 rfl ?_;refine ab.div tok rfl rfl rfl rfl (by decide) ?_;rw[gL _ (by omega),eh];refine qU 1 rfl ?_;refine ab.fW tok (a:=a) ((a.take (2^(j+1))).drop (2^j)) rfl rfl rfl rfl (aj _) (aj _) (show 2^j≤2^(j+1) by omega) (show 2^(j+1)≤a.length by omega) rfl ?_;refine ab.call tok rfl rfl rfl rfl (mK _ (by rw[List.length_drop,aQ];omega)) ?_;refine qU 1 rfl ?_;refine ab.nil ?_;cases hz:bD ((a.take (2^(j+1))).drop (2^j)) with
 | true =>
   refine AW.aL rfl ?_;refine AW.skip (AW.block ?_);refine qT 1 rfl ?_;refine ab.div tok rfl rfl rfl rfl (by decide) ?_;rw[gL _ (by omega),eh];refine qU 1 rfl ?_;refine ab.nil ?_;exact⟨j,rfl,⟨by omega,by rw[← hjE];show _=if bD ((a.take (2^(j+1))).drop (2^j))=true then _ else _;rw[if_pos hz]⟩,by omega⟩
 | false =>
 refine AW.aB rfl ?_;refine AW.exit (AW.seq ?_);refine qX 2 rfl ?_;rw[beq_eq_false_iff_ne.2 (show ((2^(j+1):Nat):Int)≠1 by have:=Nat.two_pow_pos j;omega)];refine qU 5 rfl ?_;refine ab.nil ?_;refine AW.aB rfl ?_;refine AW.skip (qX 2 rfl ?_);refine ab.fW tok (a:=a) (a.take (2^(j+1))) rfl rfl rfl rfl trivial (aj _) (Nat.zero_le _) (show 2^(j+1)≤a.length by omega) rfl ?_;refine ab.call tok rfl rfl rfl rfl (jh _ (hs.take _) hk (by rw[aQ];omega)) ?_;refine qU 1 rfl ?_;refine ab.nil ?_;rw[← hjE];unfold iy;rw[if_neg (by rw[hz];simp)];exact AW.ret rfl
end Lift
namespace Lift
open Go Go.Proofs
abbrev my(a:NQ):Prop:=au 17300000000000 a
def JS(R:NQ→NQ→NQ)(O:NQ→NQ→Prop)(rt:List NQ)(a b:NQ):Prop :=
 my a∧my b∧(a.length≠1→bD a=false→bD b=false →
  (b.length≤a.length / 2→O (a.take (a.length / 2)) b∧O (a.drop (a.length / 2)) b) ∧
  (¬b.length≤a.length / 2→(O (a.take (a.length / 2)) (b.take (a.length / 2))∧O (a.drop (a.length / 2)) (b.drop (a.length / 2))∧O (R (a.drop (a.length / 2)) (b.drop (a.length / 2))) (rt.getD (a.length.log2-1) []) ∧
   O (a.take (a.length / 2)) (b.drop (a.length / 2))∧O (a.drop (a.length / 2)) (b.take (a.length / 2))) ∧
   my (R (a.take (a.length / 2)) (b.take (a.length / 2)))∧my (R (R (a.drop (a.length / 2)) (b.drop (a.length / 2))) (rt.getD (a.length.log2-1) []))∧my (R (a.take (a.length / 2)) (b.drop (a.length / 2)))∧my (R (a.drop (a.length / 2)) (b.take (a.length / 2)))))
def zO(R:NQ→NQ→NQ)(O:NQ→NQ→Prop)(rt:List NQ)(a b:NQ):Prop:=if a.length<b.length then JS R O rt b a else JS R O rt a b
def C5:Nat→List NQ→NQ→NQ→Prop
 | 0,rt,a,b=>zO (fun _ _=>[]) (fun _ _=>True) rt a b
 | l+1,rt,a,b=>zO (bc l rt) (C5 l rt) rt a b
set_option maxHeartbeats 1600000 in
theorem tY{l:Nat}{R:NQ→NQ→NQ}{O:NQ→NQ→Prop}{rt:List NQ}{a b:NQ}(ha:aC l a)(hb:aC l b)(hrt:c7 rt)(hl:l≤rt.length)(hl5:rt.length≤10)(hok:zO R O rt a b)
  (hR: ∀l',l=l'+1→ ∀a' b',aC l' a'→aC l' b'→O a' b'→Pure Tryz.prog 63 [bA rt,ai a',ai b'] (ai (R a' b'))∧aC l' (R a' b')):
  Pure Tryz.prog 63 [bA rt,ai a,ai b] (ai (kf (jl R rt) a b)):=by
 refine qJ 100 Tryz.func63 rfl rfl rfl rfl (by kernel_rfl) (fun B F0 w0=>?_);have hla:=ha.len (by omega);have hlb:=hb.len (by omega);unfold zO at hok;refine qX 2 rfl ?_;refine ab.nil ?_;refine AW.cut [1,2,3] (fun s:NQ×NQ=>[(1,.d (ai s.1)),(2,.d (ai s.2)),(3,.bx [.sl 1 (rt.map ai)])]) (fun s=>jl R rt s.1 s.2=kf (jl R rt) a b∧s.2.length≤s.1.length∧aC l s.1∧aC l s.2∧JS R O rt s.1 s.2) ?_ (fun s hs=>?_)
 · refine qX 4 rfl ?_;rw[ae,ae];refine qU 1 rfl ?_;refine ab.nil ?_;unfold kf;by_cases hab:a.length<b.length
   · rw[aV (show (a.length:Int)<(b.length:Int) by omega),if_pos hab];refine AW.aL rfl ?_;refine qT 4 rfl ?_;refine ab.nil ?_;exact⟨(b,a),rfl,rfl,by show a.length≤b.length;omega,hb,ha,by rw[if_pos hab] at hok;exact hok⟩
   · rw[aT (show ¬(a.length:Int)<(b.length:Int) by omega),if_neg hab];refine AW.aB rfl ?_;refine AW.skip ?_;exact⟨(a,b),rfl,rfl,by show b.length≤a.length;omega,ha,hb,by rw[if_neg hab] at hok;exact hok⟩
 · obtain ⟨x,y⟩:=s;obtain ⟨hE,hab,ha,hb,sa,sb,hm⟩:=hs;simp only[] at hE hab ha hb sa sb hm;show AW _ _ _ _ _ _ _ [(1,.d (ai x)),(2,.d (ai y)),(3,.bx [.sl 1 (rt.map ai)])];rw[← hE];clear hE;clear hok;generalize x=a at *;generalize y=b at *;have hla:=ha.len (by omega);have hlb:=hb.len (by omega);have cz1:=oq a sa (by omega) (by omega);have cz2:=oq b sb (by omega) (by omega);unfold jl;refine AW.seq (AW.block ?_);refine qX 1 rfl ?_;refine ab.call tok rfl rfl rfl rfl cz1 ?_;cases hza:bD a with
   | true =>
     rw[if_pos (by rfl)];refine qU 5 rfl ?_;refine ab.nil ?_;refine AW.aL rfl ?_;refine qX 1 rfl ?_;exact qN rfl
   | false =>
   refine qU 2 rfl ?_;refine ab.call tok rfl rfl rfl rfl cz2 ?_;refine qU 2 rfl ?_;refine ab.nil ?_;cases hzb:bD b with
   | true =>
     rw[if_pos (by rfl)];refine AW.aL rfl ?_;refine qX 1 rfl ?_;exact qN rfl
   | false =>
   rw[if_neg (by decide)];refine AW.aB rfl ?_;refine qX 2 rfl ?_;rw[ae];refine qU 2 rfl ?_;refine ab.nil ?_;have hb0:0<b.length:=List.length_pos_iff.2 (nF hzb);have ha0:0<a.length:=List.length_pos_iff.2 (nF hza);by_cases h1:a.length=1
   · rw[if_pos h1,beq_iff_eq.2 (show (a.length:Int)=1 by omega)];have g1:=kN (r:=a) (i:=0) ha0;have g2:=kN (r:=b) (i:=0) hb0;have cm:=s9 (Qr (a.getD 0 0)) (Qr (b.getD 0 0)) (jt _ (sa 0)) (jt _ (sb 0)) (by omega);rw[cE,cE] at cm;refine AW.aL rfl ?_;refine AW.seq (AW.draw aP 8 (by kernel_rfl) ?_);refine qP 1 rfl ?_;refine af.idx tok (Qr (a.getD 0 0)).D rfl rfl rfl rfl rfl (Int.le_refl _) g1 ?_;refine qP 2 rfl ?_;refine af.idx tok (Qr (b.getD 0 0)).D rfl rfl rfl rfl rfl (Int.le_refl _) g2 ?_;refine qP 1 rfl ?_;refine af.call tok rfl rfl rfl rfl rfl cm ?_;refine af.e7 tok rfl rfl rfl rfl rfl rfl ?_;refine af.nil ?_;refine qU 1 rfl ?_;exact qN rfl
   rw[if_neg h1,beq_eq_false_iff_ne.2 (show (a.length:Int)≠1 by omega)];refine AW.aB rfl ?_;refine AW.skip ?_
   obtain ⟨i,hi,hla2⟩: ∃i,i≤l∧a.length=2^i:=by
    rcases ha with e | e
    · omega
    · exact e
   have vZ:i≠0:=fun e=>h1 (by rw[hla2,e]);obtain ⟨j,rfl⟩: ∃j,i=j+1:=⟨i-1,by omega⟩;obtain ⟨l',rfl⟩: ∃l',l=l'+1:=⟨l-1,by omega⟩;have hj:j≤l':=by omega
   have hR:=fun a' b' h1 h2 h3=>hR l' rfl a' b' h1 h2 h3;obtain ⟨hm1,hm2⟩:=hm h1 hza hzb;obtain ⟨e1,e2,e3⟩:=bC hla2;have hx:aC l' (a.take (a.length / 2)):= .inr ⟨j,hj,e1⟩;have hy:aC l' (a.drop (a.length / 2)):= .inr ⟨j,hj,e2⟩;have hlog:a.length.log2-1=j:=by rw[hla2,Nat.log2_two_pow];omega
   obtain ⟨n,hn⟩: ∃n,n=a.length / 2:=⟨_,rfl⟩
   have hn2:a.length=n+n:=by
    have:2^(j+1)=2^j*2:=Nat.pow_succ ..;omega
   rw[← hn] at e1 e2 e3 hx hy hm1 hm2 ⊢;refine qX 2 rfl ?_;rw[ae];refine ab.div tok rfl rfl rfl rfl (by decide) ?_;rw[gL _ (by omega),← hn];refine qU 1 rfl ?_;refine qI (AW.draw aP 7 (by kernel_rfl) ?_);refine qP 2 rfl ?_;refine af.fW tok (a:=a) (a.take n) rfl rfl rfl rfl rfl trivial (aj n) (Nat.zero_le _) (show n≤a.length by omega) rfl ?_;refine qP 2 rfl ?_;refine af.fW tok (a:=a) (a.drop n) rfl rfl rfl rfl rfl (aj n) trivial (show n≤a.length by omega) (ao _) (by show (a.take a.length).drop n=_;rw[List.take_length]) ?_;refine qP 1 rfl ?_;refine af.nil ?_;refine qU 1 rfl ?_;refine qI (qX 2 rfl ?_);rw[ae];refine qU 2 rfl ?_;refine ab.nil ?_;by_cases h3:b.length≤n
   · rw[if_pos h3,aV (show (b.length:Int)≤(n:Int) by omega)]
     have hb':aC l' b:=by
      rcases hb with e | ⟨i',_,e⟩
      · exact .inl e
      · refine .inr ⟨i',?_,e⟩;rw[e3,e] at h3;have:=jx h3;omega
     have r1:=hR _ _ hx hb' (hm1 h3).1;have r2:=hR _ _ hy hb' (hm1 h3).2;have cj:=kJ (R (a.take n) b) (R (a.drop n) b) n (by omega);refine AW.aL rfl ?_;refine AW.seq (AW.draw aP 10 (by kernel_rfl) ?_);refine qP 3 rfl ?_;refine af.call tok rfl rfl rfl rfl rfl r1.1 ?_;refine qP 3 rfl ?_;refine af.call tok rfl rfl rfl rfl rfl r2.1 ?_;refine qP 1 rfl ?_;refine af.call tok rfl rfl rfl rfl rfl cj ?_;refine af.nil ?_;refine qU 1 rfl ?_;exact qN rfl
   rw[if_neg h3,aT (show ¬(b.length:Int)≤(n:Int) by omega)]
   have hlb2:b.length=2^(j+1):=by
    rcases hb with e | ⟨i',_,e⟩
    · omega
    · rw[e] at h3 hab ⊢;rw[hla2] at hab;rw[e3] at h3;have h4:=jx hab;have h5: ¬i'≤j:=fun h=>h3 (Nat.pow_le_pow_right (by decide) h);rw[show i'=j+1 by omega]
   obtain ⟨f1,f2,f3⟩:=bC hlb2;rw[show b.length / 2=n by omega] at f1 f2;have hu:aC l' (b.take n):= .inr ⟨j,hj,f1⟩;have hv:aC l' (b.drop n):= .inr ⟨j,hj,f2⟩;obtain ⟨⟨o1,o2,o5,o3,o4⟩,z1,z5,z3,z4⟩:=hm2 h3;rw[hlog] at o5 z5;have r1:=hR _ _ hx hu o1;have r2:=hR _ _ hy hv o2;have r3:=hR _ _ hx hv o3;have r4:=hR _ _ hy hu o4;rw[hlog];have hd:aC l' (rt.getD j []):= .inr ⟨j,hj,hrt j (by omega)⟩;have r5:=hR _ _ r2.2 hd o5;have n1:=r1.2.len (by omega);have n3:=r3.2.len (by omega);have n4:=r4.2.len (by omega);have n5:=r5.2.len (by omega);have p1:=dL (R (a.take n) (b.take n)) (R (R (a.drop n) (b.drop n)) (rt.getD j [])) z1 z5 (by omega) (by omega) (by omega);have p2:=dL (R (a.take n) (b.drop n)) (R (a.drop n) (b.take n)) z3 z4 (by omega) (by omega) (by omega);have cj:=kJ (aS (R (a.take n) (b.take n)) (R (R (a.drop n) (b.drop n)) (rt.getD j []))) (aS (R (a.take n) (b.drop n)) (R (a.drop n) (b.take n))) n (by omega);have cl:=eI (eC a) (by rw[ae];exact hla2) (by omega);refine AW.aB rfl ?_;refine AW.skip (AW.seq ?_);refine AW.draw aP 7 (by kernel_rfl) ?_;refine qP 2 rfl ?_;refine af.fW tok (a:=b) (b.take n) rfl rfl rfl rfl rfl trivial (aj n) (Nat.zero_le _) (show n≤b.length by omega) rfl ?_;refine qP 2 rfl ?_;refine af.fW tok (a:=b) (b.drop n) rfl rfl rfl rfl rfl (aj n) trivial (show n≤b.length by omega) (ao _) (by show (b.take b.length).drop n=_;rw[List.take_length]) ?_;refine qP 1 rfl ?_;refine af.nil ?_;refine qU 1 rfl ?_;refine qI (AW.draw aP 7 (by kernel_rfl) ?_);refine qP 3 rfl ?_;refine af.call tok rfl rfl rfl rfl rfl cl ?_;refine qP 1 rfl ?_;rw[aH (x:=((j+1:Nat):Int) -1) (by omega) (by omega),show ((j+1:Nat):Int) -1=(j:Int) by omega];refine af.idx tok (ai (rt.getD j [])) rfl rfl rfl rfl rfl (aj j) (oE (by omega)) ?_;refine qP 1 rfl ?_;refine af.nil ?_;refine qU 1 rfl ?_;refine qI (AW.draw aP 12 (by kernel_rfl) ?_);refine qP 3 rfl ?_;refine af.call tok rfl rfl rfl rfl rfl r1.1 ?_;refine qP 4 rfl ?_;refine af.call tok rfl rfl rfl rfl rfl r2.1 ?_;refine qP 1 rfl ?_;refine af.call tok rfl rfl rfl rfl rfl r5.1 ?_;refine af.call tok rfl rfl rfl rfl rfl p1 ?_;refine af.nil ?_;refine qU 1 rfl ?_;refine qI (AW.draw aP 12 (by kernel_rfl) ?_);refine qP 4 rfl ?_;refine af.call tok rfl rfl rfl rfl rfl r3.1 ?_;refine qP 3 rfl ?_;refine af.call tok rfl rfl rfl rfl rfl r4.1 ?_;refine af.call tok rfl rfl rfl rfl rfl p2 ?_;refine qP 1 rfl ?_;refine af.call tok rfl rfl rfl rfl rfl cj ?_;refine af.nil ?_;refine qU 1 rfl ?_;exact qN rfl
theorem cU: ∀(l:Nat) {rt:List NQ} {a b:NQ},aC l a→aC l b→c7 rt→l≤rt.length→rt.length≤10→C5 l rt a b→Pure Tryz.prog 63 [bA rt,ai a,ai b] (ai (bc l rt a b))
 | 0,rt,a,b,ha,hb,hrt,hl,hl5,hok=>tY (O:=fun _ _=>True) ha hb hrt hl hl5 hok (fun l' h=>by omega)
 | l+1,rt,a,b,ha,hb,hrt,hl,hl5,hok=>tY (O:=C5 l rt) ha hb hrt hl hl5 hok (fun l' e a' b' h1 h2 h3=>by
    obtain rfl:l=l':=by omega
    obtain ⟨K,k1,k2,k3⟩:=wQ a' b' rt
    exact⟨cU l h1 h2 hrt (by omega) hl5 h3,(eJ l h1 h2 hrt (by omega) k1 k2 k3).1⟩)
theorem xX{l k:Nat}{R:NQ→NQ→NQ}{O:NQ→NQ→Prop}{rt:List NQ}{a b:NQ}(ha:aC l a)(hb:aC l b)(hab:b.length≤a.length)(hrt:c7 rt)(hl:l≤rt.length)(sa:au k a)(sb:au k b)(sr:fp k rt)(hk:sT l k≤17300000000000)
  (hR: ∀l',l=l'+1→ ∀a' b' m,k≤m→aC l' a'→aC l' b'→au m a'→au m b'→sT l' m≤17300000000000→O a' b'∧aC l' (R a' b')∧au (sT l' m) (R a' b')):JS R O rt a b:=by
 have hk1:=sa.pos;have h2:=bQ l k;refine⟨sa.mono (by omega),sb.mono (by omega),fun h1 hza hzb=>?_⟩;have hb0:0<b.length:=List.length_pos_iff.2 (nF hzb);have ha0:0<a.length:=List.length_pos_iff.2 (nF hza)
 obtain ⟨i,hi,hla⟩: ∃i,i≤l∧a.length=2^i:=by
  rcases ha with e | e
  · omega
  · exact e
 have vZ:i≠0:=fun e=>h1 (by rw[hla,e]);obtain ⟨j,rfl⟩: ∃j,i=j+1:=⟨i-1,by omega⟩;obtain ⟨l',rfl⟩: ∃l',l=l'+1:=⟨l-1,by omega⟩;have hj:j≤l':=by omega
 have hR:=fun a' b' m h1 h2 h3 h4 h5=>hR l' rfl a' b' m h1 h2 h3 h4 h5;obtain ⟨e1,e2,e3⟩:=bC hla;have hx:aC l' (a.take (a.length / 2)):= .inr ⟨j,hj,e1⟩;have hy:aC l' (a.drop (a.length / 2)):= .inr ⟨j,hj,e2⟩;have hs0:=bQ l' k;have hs1:=bQ l' (sT l' k);have hk:sT l' (sT l' k)+sT l' k+1≤17300000000000:=hk;refine⟨fun h3=>?_,fun h3=>?_⟩
 · have hb':aC l' b:=by
    rcases hb with e | ⟨i',_,e⟩
    · exact .inl e
    · refine .inr ⟨i',?_,e⟩;rw[e3,e] at h3;have:=jx h3;omega
   exact⟨(hR _ _ k (ao _) hx hb' (sa.take _) sb (by omega)).1,(hR _ _ k (ao _) hy hb' (sa.drop _) sb (by omega)).1⟩
 have hlb:b.length=2^(j+1):=by
  rcases hb with e | ⟨i',_,e⟩
  · omega
  · rw[e] at h3 hab ⊢;rw[hla] at hab;rw[e3] at h3;have h4:=jx hab;have h5: ¬i'≤j:=fun h=>h3 (Nat.pow_le_pow_right (by decide) h);rw[show i'=j+1 by omega]
 obtain ⟨f1,f2,f3⟩:=bC hlb;rw[show b.length / 2=a.length / 2 by rw[f3,e3]] at f1 f2;have hu:aC l' (b.take (a.length / 2)):= .inr ⟨j,hj,f1⟩;have hv:aC l' (b.drop (a.length / 2)):= .inr ⟨j,hj,f2⟩;have r1:=hR _ _ k (ao _) hx hu (sa.take _) (sb.take _) (by omega);have r2:=hR _ _ k (ao _) hy hv (sa.drop _) (sb.drop _) (by omega);have r3:=hR _ _ k (ao _) hx hv (sa.take _) (sb.drop _) (by omega);have r4:=hR _ _ k (ao _) hy hu (sa.drop _) (sb.take _) (by omega);have hlog:a.length.log2-1=j:=by rw[hla,Nat.log2_two_pow];omega
 have hd:aC l' (rt.getD (a.length.log2-1) []):= .inr ⟨j,hj,by rw[hlog];exact hrt j (by omega)⟩;have r5:=hR _ _ (sT l' k) (by omega) r2.2.1 hd r2.2.2 ((sr _).mono (by omega)) (by omega);exact⟨⟨r1.1,r2.1,r5.1,r3.1,r4.1⟩,r1.2.2.mono (by omega),r5.2.2.mono (by omega),r3.2.2.mono (by omega),r4.2.2.mono (by omega)⟩
theorem ry: ∀(l:Nat) {k:Nat} {rt:List NQ} {a b:NQ},aC l a→aC l b→c7 rt→l≤rt.length→au k a→au k b→fp k rt→sT l k≤17300000000000→C5 l rt a b
 | 0,k,rt,a,b,ha,hb,hrt,hl,sa,sb,sr,hk=>by
   show zO _ _ rt a b;unfold zO;split
   · exact xX hb ha (by omega) hrt hl sb sa sr hk (fun l' h=>by omega)
   · exact xX ha hb (by omega) hrt hl sa sb sr hk (fun l' h=>by omega)
 | l+1,k,rt,a,b,ha,hb,hrt,hl,sa,sb,sr,hk=>by
   show zO (bc l rt) (C5 l rt) rt a b;unfold zO
   have ih: ∀l',l+1=l'+1→ ∀a' b' m,k≤m→aC l' a'→aC l' b'→au m a'→au m b'→sT l' m≤17300000000000→C5 l rt a' b'∧aC l' (bc l rt a' b')∧au (sT l' m) (bc l rt a' b'):=fun l' e a' b' m hm h1 h2 h3 h4 h5=>by
    obtain rfl:l=l':=by omega
    exact⟨ry l h1 h2 hrt (by omega) h3 h4 (sr.mono hm) h5,eJ l h1 h2 hrt (by omega) h3 h4 (sr.mono hm)⟩
   split
   · exact xX hb ha (by omega) hrt hl sb sa sr hk ih
   · exact xX ha hb (by omega) hrt hl sa sb sr hk ih
end Lift
namespace Lift
open Go Go.Proofs
def eS(l:Nat)(rt:List NQ)(a:NQ):NQ :=
 aS (bc l rt (a.take (a.length / 2)) (a.take (a.length / 2))) (aK (bc l rt (bc l rt (a.drop (a.length / 2)) (a.drop (a.length / 2))) (rt.getD (a.length.log2-1) [])))
def wc(R:NQ→Int)(N:NQ→NQ)(rt:List NQ)(a:NQ):Int :=
 if a.length=0 then 0 else if a.length=1 then kR (a.getD 0 0) else
 if R (rt.getD (a.length.log2-1) [])=0 then R (a.take (a.length / 2)) else
 if R (a.take (a.length / 2))=R (a.drop (a.length / 2))∨R (a.drop (a.length / 2))=0 then R (a.take (a.length / 2)) else
 if R (a.take (a.length / 2))=0 then R (a.drop (a.length / 2)) else R (a.take (a.length / 2))*R (N a)
def ec:Nat→List NQ→NQ→Int
 | 0,rt,a=>wc (fun _=>0) (fun a=>a) rt (aq a)
 | l+1,rt,a=>wc (ec l rt) (eS l rt) rt (aq a)
def nS:Nat→Nat→Prop
 | 0,k=>k≤17300000000000
 | l+1,k=>sT (l+1) k≤17300000000000∧nS l (sT (l+1) k)
theorem uL: ∀{l k m:Nat},nS l k→m≤k→nS l m
 | 0,k,m,h,hm=>Nat.le_trans hm h
 | l+1,k,m,h,hm=>⟨Nat.le_trans (nK hm) h.1,uL h.2 (nK hm)⟩
theorem o7: ∀{l k:Nat},nS l k→k≤17300000000000
 | 0,k,h=>h
 | l+1,k,h=>by have:=bQ (l+1) k;have:=h.1;omega
theorem jV{l k:Nat}(h:nS (l+1) k):nS l k:=uL h.2 (by have:=bQ (l+1) k;omega)
def wL(z:Int):Prop:=z=0∨z=1∨z= -1
theorem lT{x y:Int}(hx:wL x)(hy:wL y):wL (x*y):=by
 unfold wL at *;rcases hx with rfl | rfl | rfl<;>rcases hy with rfl | rfl | rfl<;>decide
theorem y8{R:NQ→Int}{N:NQ→NQ}{rt:List NQ}{a:NQ}(hR: ∀b,wL (R b)):wL (wc R N rt a):=by
 unfold wc;split
 · exact .inl rfl
 split
 · exact gC _
 split
 · exact hR _
 split
 · exact hR _
 split
 · exact hR _
 · exact lT (hR _) (hR _)
theorem nH: ∀(l:Nat) (rt:List NQ) (a:NQ),wL (ec l rt a)
 | 0,rt,a=>y8 (fun _=> .inl rfl)
 | l+1,rt,a=>y8 (fun b=>nH l rt b)
theorem tC{l k j:Nat}{rt:List NQ}{a:NQ}(hj:j≤l)(ha:a.length=2^(j+1))(hrt:c7 rt)(hl:l<rt.length)(sa:au k a)(sr:fp k rt):aC l (eS l rt a)∧au (sT (l+1) k) (eS l rt a):=by
 obtain ⟨e1,e2,e3⟩:=bC ha;have hx:aC l (a.take (a.length / 2)):= .inr ⟨j,hj,e1⟩;have hy:aC l (a.drop (a.length / 2)):= .inr ⟨j,hj,e2⟩;have hlog:a.length.log2-1=j:=by rw[ha,Nat.log2_two_pow];omega
 have hd:aC l (rt.getD j []):= .inr ⟨j,hj,hrt j (by omega)⟩;have h0:=bQ l k;have h1:=bQ l (sT l k);have r1:=eJ l hx hx hrt (by omega) (sa.take _) (sa.take _) sr;have r2:=eJ l hy hy hrt (by omega) (sa.drop _) (sa.drop _) sr;have r3:=eJ l r2.1 hd hrt (by omega) r2.2 ((sr _).mono (by omega)) (sr.mono (by omega));unfold eS;rw[hlog];refine⟨r1.1.plus r3.1.minus,(r1.2.plus r3.2.minus).mono ?_⟩;show _≤sT l (sT l k)+sT l k+1;omega
def Ib(l:Nat)(rt:List NQ)(a:NQ):Prop :=
 C5 l rt (a.take (a.length / 2)) (a.take (a.length / 2))∧C5 l rt (a.drop (a.length / 2)) (a.drop (a.length / 2))∧C5 l rt (bc l rt (a.drop (a.length / 2)) (a.drop (a.length / 2))) (rt.getD (a.length.log2-1) []) ∧
 my (bc l rt (a.take (a.length / 2)) (a.take (a.length / 2)))∧my (bc l rt (bc l rt (a.drop (a.length / 2)) (a.drop (a.length / 2))) (rt.getD (a.length.log2-1) []))
theorem tD{l j:Nat}{rt:List NQ}{a:NQ}(hj:j≤l)(ha:a.length=2^(j+1))(hrt:c7 rt)(hl:l<rt.length):aC l (eS l rt a):=by
 obtain ⟨K,k1,_,k3⟩:=wQ a a rt;exact(tC hj ha hrt hl k1 k3).1
theorem fo(l:Nat){rt:List NQ}{a b:NQ}(ha:aC l a)(hb:aC l b)(hrt:c7 rt)(hl:l≤rt.length):aC l (bc l rt a b):=by
 obtain ⟨K,k1,k2,k3⟩:=wQ a b rt;exact(eJ l ha hb hrt hl k1 k2 k3).1
theorem mI{l j:Nat}{rt:List NQ}{a:NQ}(hj:j≤l)(ha:a.length=2^(j+1))(hrt:c7 rt)(hl:l<rt.length)(hl5:rt.length≤10)(hok:Ib l rt a):
  Pure Tryz.prog 109 [bA rt,ai a] (ai (eS l rt a)):=by
 refine qJ 36 Tryz.func109 rfl rfl rfl rfl (by kernel_rfl) (fun B F0 w0=>?_);obtain ⟨e1,e2,e3⟩:=bC ha;have hx:aC l (a.take (a.length / 2)):= .inr ⟨j,hj,e1⟩;have hy:aC l (a.drop (a.length / 2)):= .inr ⟨j,hj,e2⟩;have hlog:a.length.log2-1=j:=by rw[ha,Nat.log2_two_pow];omega
 have hd:aC l (rt.getD j []):= .inr ⟨j,hj,hrt j (by omega)⟩;obtain ⟨o1,o2,o3,z1,z3⟩:=hok;rw[hlog] at o3 z3;have r1:=fo l hx hx hrt (by omega);have r2:=fo l hy hy hrt (by omega);have r3:=fo l r2 hd hrt (by omega);have c1:=cU l hx hx hrt (by omega) hl5 o1;have c2:=cU l hy hy hrt (by omega) hl5 o2;have c3:=cU l r2 hd hrt (by omega) hl5 o3;have n1:=r1.len (by omega);have n3:=r3.len (by omega);have c4:=fm _ z3 (by omega) (by omega);have c5:=dL _ _ z1 z3.minus (by omega) (by omega) (by rw[bz];omega);have cl:=eI (eC a) (by rw[ae];exact ha) (by omega);have hp:2^(j+1)≤2^10:=Nat.pow_le_pow_right (by decide) (by omega);unfold eS;rw[hlog];obtain ⟨n,hn⟩: ∃n,n=a.length / 2:=⟨_,rfl⟩;rw[← hn] at e1 e2 e3 hx hy c1 c2 c3 c4 c5 ⊢;refine qX 2 rfl ?_;refine qK 2 rfl ?_;rw[ae];refine ab.div tok rfl rfl rfl rfl (by decide) ?_;rw[gL _ (by omega),← hn];refine qU 1 rfl ?_;refine qI (AW.draw aP 7 (by kernel_rfl) ?_);refine qP 2 rfl ?_;refine af.fW tok (a:=a) (a.take n) rfl rfl rfl rfl rfl trivial (aj n) (Nat.zero_le _) (show n≤a.length by omega) rfl ?_;refine qP 2 rfl ?_;refine af.fW tok (a:=a) (a.drop n) rfl rfl rfl rfl rfl (aj n) trivial (show n≤a.length by omega) (ao _) (by show (a.take a.length).drop n=_;rw[List.take_length]) ?_;refine qP 1 rfl ?_;refine af.nil ?_;refine qU 1 rfl ?_;refine qI (AW.draw aP 19 (by kernel_rfl) ?_);refine qP 3 rfl ?_;refine af.call tok rfl rfl rfl rfl rfl c1 ?_;refine qP 4 rfl ?_;refine af.call tok rfl rfl rfl rfl rfl c2 ?_;refine qP 3 rfl ?_;refine af.call tok rfl rfl rfl rfl rfl cl ?_;refine qP 1 rfl ?_;rw[aH (x:=((j+1:Nat):Int) -1) (by omega) (by omega),show ((j+1:Nat):Int) -1=(j:Int) by omega];refine af.idx tok (ai (rt.getD j [])) rfl rfl rfl rfl rfl (aj j) (oE (by omega)) ?_;refine qP 1 rfl ?_;refine af.call tok rfl rfl rfl rfl rfl c3 ?_;refine af.call tok rfl rfl rfl rfl rfl c4 ?_;refine af.call tok rfl rfl rfl rfl rfl c5 ?_;refine af.nil ?_;refine qU 1 rfl ?_;exact qN rfl
theorem Ew{l k j:Nat}{rt:List NQ}{a:NQ}(hj:j≤l)(ha:a.length=2^(j+1))(hrt:c7 rt)(hl:l<rt.length)(sa:au k a)(sr:fp k rt)(hk:sT (l+1) k≤17300000000000):Ib l rt a:=by
 obtain ⟨e1,e2,e3⟩:=bC ha;have hx:aC l (a.take (a.length / 2)):= .inr ⟨j,hj,e1⟩;have hy:aC l (a.drop (a.length / 2)):= .inr ⟨j,hj,e2⟩;have hlog:a.length.log2-1=j:=by rw[ha,Nat.log2_two_pow];omega
 have hd:aC l (rt.getD j []):= .inr ⟨j,hj,hrt j (by omega)⟩;have h0:=bQ l k;have h1:=bQ l (sT l k);have hk:sT l (sT l k)+sT l k+1≤17300000000000:=hk;have r1:=eJ l hx hx hrt (by omega) (sa.take _) (sa.take _) sr;have r2:=eJ l hy hy hrt (by omega) (sa.drop _) (sa.drop _) sr;have r3:=eJ l r2.1 hd hrt (by omega) r2.2 ((sr _).mono (by omega)) (sr.mono (by omega));unfold Ib;rw[hlog];exact⟨ry l hx hx hrt (by omega) (sa.take _) (sa.take _) sr (by omega),ry l hy hy hrt (by omega) (sa.drop _) (sa.drop _) sr (by omega),ry l r2.1 hd hrt (by omega) r2.2 ((sr j).mono (by omega)) (sr.mono (by omega)) (by omega),r1.2.mono (by omega),r3.2.mono (by omega)⟩
def Ji(O:NQ→Prop)(N:NQ→NQ)(Nk:NQ→Prop)(rt:List NQ)(s:NQ):Prop:=s.length≠0→s.length≠1 →
 O (s.take (s.length / 2))∧O (s.drop (s.length / 2))∧O (rt.getD (s.length.log2-1) [])∧Nk s∧O (N s)
def Ex:Nat→List NQ→NQ→Prop
 | 0,rt,a=>my a
 | l+1,rt,a=>my a∧Ji (Ex l rt) (eS l rt) (Ib l rt) rt (aq a)
theorem o8: ∀(l:Nat) {k:Nat} {rt:List NQ} {a:NQ},aC l a→c7 rt→l≤rt.length→au k a→fp k rt→nS l k→Ex l rt a
 | 0,k,rt,a,ha,hrt,hl,sa,sr,hok=>sa.mono (Nat.le_trans hok (by decide))
 | l+1,k,rt,a,ha,hrt,hl,sa,sr,hok=>by
   have hk:=o7 hok;refine⟨sa.mono (by omega),fun h0 h1=>?_⟩;obtain ⟨ha,sa⟩:=aX ha sa;generalize aq a=b at ha sa h0 h1 ⊢
   obtain ⟨i,hi,hla⟩: ∃i,i≤l+1∧b.length=2^i:=by
    rcases ha with e | e
    · omega
    · exact e
   have vZ:i≠0:=fun e=>h1 (by rw[hla,e]);obtain ⟨j,rfl⟩: ∃j,i=j+1:=⟨i-1,by omega⟩;have hj:j≤l:=by omega
   obtain ⟨e1,e2,e3⟩:=bC hla;have hx:aC l (b.take (b.length / 2)):= .inr ⟨j,hj,e1⟩;have hy:aC l (b.drop (b.length / 2)):= .inr ⟨j,hj,e2⟩;have hlog:b.length.log2-1=j:=by rw[hla,Nat.log2_two_pow];omega
   have hd:aC l (rt.getD (b.length.log2-1) []):= .inr ⟨j,hj,by rw[hlog];exact hrt j (by omega)⟩;have hn:=tC hj hla hrt (by omega) sa sr;have h2:=bQ (l+1) k;have h3:=hok.1;exact⟨o8 l hx hrt (by omega) (sa.take _) sr (jV hok),o8 l hy hrt (by omega) (sa.drop _) sr (jV hok),o8 l hd hrt (by omega) (sr _) sr (jV hok),Ew hj hla hrt (by omega) sa sr (by omega),o8 l hn.1 hrt (by omega) hn.2 (sr.mono (by omega)) hok.2⟩
theorem Ex.sz{l:Nat}{rt:List NQ}{a:NQ}(h:Ex l rt a):my a:=by
 cases l with
 | zero=>exact h
 | succ l=>exact h.1
set_option maxHeartbeats 1600000 in
theorem wW{l:Nat}{R:NQ→Int}{O:NQ→Prop}{N:NQ→NQ}{Nk:NQ→Prop}{rt:List NQ}{a:NQ}(ha:aC l a)(hl5:l≤5)(hrt:c7 rt)(hl:l≤rt.length)(hl10:rt.length≤10)(sa:my a)(hok:l≠0→Ji O N Nk rt (aq a))
  (hR: ∀l',l=l'+1→ ∀b,aC l' b→O b→Pure Tryz.prog 64 [bA rt,ai b] (dI (R b))) (hT: ∀b,wL (R b))
  (hN: ∀l',l=l'+1→ ∀b j,j≤l'→b.length=2^(j+1)→Nk b→Pure Tryz.prog 109 [bA rt,ai b] (ai (N b))∧aC l' (N b)):
  Pure Tryz.prog 64 [bA rt,ai a] (dI (wc R N rt (aq a))):=by
 refine qJ 64 Tryz.func64 rfl rfl rfl rfl (by kernel_rfl) (fun B F0 w0=>?_);have cs:=cH a ha hl5 sa (by omega);obtain ⟨ha,sa⟩:=aX ha sa;generalize aq a=b at cs ha sa hok ⊢;have hlb:=ha.len (by omega);unfold wc;refine qX 2 rfl ?_;refine qK 1 rfl ?_;refine ab.call tok rfl rfl rfl rfl cs ?_;refine qU 1 rfl ?_;refine qI (qX 2 rfl ?_);rw[ae];refine qU 1 rfl ?_;refine ab.nil ?_;by_cases h0:b.length=0
 · rw[if_pos h0,h0];refine AW.aL rfl ?_;refine qX 1 rfl ?_;exact qN rfl
 rw[if_neg h0,beq_eq_false_iff_ne.2 (show (b.length:Int)≠0 by omega)];refine AW.aB rfl ?_;refine AW.skip (AW.seq ?_);refine qX 2 rfl ?_;rw[ae];refine qU 1 rfl ?_;refine ab.nil ?_;by_cases h1:b.length=1
 · have g:=kN (r:=b) (i:=0) (by omega);have cq:=lD (Qr (b.getD 0 0)) (jt _ (sa 0)) (by omega);rw[cE,xG] at cq;rw[if_pos h1,h1];refine AW.aL rfl ?_;refine qX 1 rfl ?_;refine ab.idx tok (Qr (b.getD 0 0)).D rfl rfl rfl rfl (Int.le_refl _) g ?_;refine qU 1 rfl ?_;refine ab.call tok rfl rfl rfl rfl cq ?_;refine qU 1 rfl ?_;exact qN rfl
 rw[if_neg h1,beq_eq_false_iff_ne.2 (show (b.length:Int)≠1 by omega)];refine AW.aB rfl ?_;refine AW.skip ?_
 obtain ⟨i,hi,hla2⟩: ∃i,i≤l∧b.length=2^i:=by
  rcases ha with e | e
  · omega
  · exact e
 have vZ:i≠0:=fun e=>h1 (by rw[hla2,e]);obtain ⟨j,rfl⟩: ∃j,i=j+1:=⟨i-1,by omega⟩;obtain ⟨l',rfl⟩: ∃l',l=l'+1:=⟨l-1,by omega⟩;have hj:j≤l':=by omega
 have hR:=hR l' rfl;obtain ⟨o1,o2,o3,o4,o5⟩:=hok (by omega) h0 h1;have hN:=hN l' rfl b j hj hla2 o4;obtain ⟨e1,e2,e3⟩:=bC hla2;have hx:aC l' (b.take (b.length / 2)):= .inr ⟨j,hj,e1⟩;have hy:aC l' (b.drop (b.length / 2)):= .inr ⟨j,hj,e2⟩;have hlog:b.length.log2-1=j:=by rw[hla2,Nat.log2_two_pow];omega
 have hd:aC l' (rt.getD j []):= .inr ⟨j,hj,hrt j (by omega)⟩;rw[hlog] at o3;have r1:=hR _ hx o1;have r2:=hR _ hy o2;have r3:=hR _ hd o3;have r4:=hR _ hN.2 o5;have t1:=hT (b.take (b.length / 2));have t2:=hT (b.drop (b.length / 2));have t4:=lT t1 (hT (N b));have cn:=hN.1;have cl:=eI (eC b) (by rw[ae];exact hla2) (by omega);rw[hlog];obtain ⟨n,hn⟩: ∃n,n=b.length / 2:=⟨_,rfl⟩;rw[← hn] at e1 e2 e3 hx hy r1 r2 t1 t2 t4 ⊢;generalize R (b.take n)=x at r1 t1 t4 ⊢;generalize R (b.drop n)=y at r2 t2 ⊢;generalize R (rt.getD j [])=z at r3 ⊢;generalize R (N b)=u at r4 t4 ⊢;refine qX 2 rfl ?_;rw[ae];refine ab.div tok rfl rfl rfl rfl (by decide) ?_;rw[gL _ (by omega),← hn];refine qU 1 rfl ?_;refine qI (AW.draw aP 10 (by kernel_rfl) ?_);refine qP 3 rfl ?_;refine af.fW tok (a:=b) (b.take n) rfl rfl rfl rfl rfl trivial (aj n) (Nat.zero_le _) (show n≤b.length by omega) rfl ?_;refine af.call tok rfl rfl rfl rfl rfl r1 ?_;refine qP 3 rfl ?_;refine af.fW tok (a:=b) (b.drop n) rfl rfl rfl rfl rfl (aj n) trivial (show n≤b.length by omega) (ao _) (by show (b.take b.length).drop n=_;rw[List.take_length]) ?_;refine af.call tok rfl rfl rfl rfl rfl r2 ?_;refine af.nil ?_;refine qU 2 rfl ?_;refine qI (AW.seq ?_);refine AW.draw aP 10 (by kernel_rfl) ?_;refine qP 4 rfl ?_;refine af.call tok rfl rfl rfl rfl rfl cl ?_;refine qP 1 rfl ?_;rw[aH (x:=((j+1:Nat):Int) -1) (by omega) (by omega),show ((j+1:Nat):Int) -1=(j:Int) by omega];refine af.idx tok (ai (rt.getD j [])) rfl rfl rfl rfl rfl (aj j) (oE (by omega)) ?_;refine qP 1 rfl ?_;refine af.call tok rfl rfl rfl rfl rfl r3 ?_;refine qP 1 rfl ?_;refine af.nil ?_;refine ab.nil ?_;by_cases hz:z=0
 · rw[if_pos hz,beq_iff_eq.2 hz];refine AW.aL rfl ?_;refine qX 2 rfl ?_;exact qN rfl
 rw[if_neg hz,beq_eq_false_iff_ne.2 hz];refine AW.aB rfl ?_;refine AW.skip (AW.seq (AW.block ?_));refine qX 3 rfl ?_;by_cases hxy:x=y
 · rw[if_pos (.inl hxy),beq_iff_eq.2 hxy];refine qU 5 rfl ?_;refine ab.nil ?_;refine AW.aL rfl ?_;refine qX 2 rfl ?_;exact qN rfl
 rw[beq_eq_false_iff_ne.2 hxy];refine qU 3 rfl ?_;by_cases hy0:y=0
 · rw[if_pos (.inr hy0),beq_iff_eq.2 hy0];refine qU 2 rfl ?_;refine ab.nil ?_;refine AW.aL rfl ?_;refine qX 2 rfl ?_;exact qN rfl
 rw[if_neg (fun h=>h.elim hxy hy0),beq_eq_false_iff_ne.2 hy0];refine qU 2 rfl ?_;refine ab.nil ?_;refine AW.aB rfl ?_;refine qX 3 rfl ?_;refine ab.nil ?_;by_cases hx0:x=0
 · rw[if_pos hx0,beq_iff_eq.2 hx0];refine AW.aL rfl ?_;refine qX 2 rfl ?_;exact qN rfl
 rw[if_neg hx0,beq_eq_false_iff_ne.2 hx0];refine AW.aB rfl ?_;refine AW.skip (AW.seq ?_);refine AW.draw aP 7 (by kernel_rfl) ?_;refine qP 4 rfl ?_;refine af.call tok rfl rfl rfl rfl rfl cn ?_;refine af.call tok rfl rfl rfl rfl rfl r4 ?_;refine qP 1 rfl ?_;rw[aH (x:=x*u) (by unfold wL at t4;omega) (by unfold wL at t4;omega)];refine af.nil ?_;refine qU 1 rfl ?_;exact qN rfl
theorem dY: ∀(l:Nat) {rt:List NQ} {a:NQ},aC l a→l≤5→c7 rt→l≤rt.length→rt.length≤10→Ex l rt a→Pure Tryz.prog 64 [bA rt,ai a] (dI (ec l rt a))
 | 0,rt,a,ha,hl5,hrt,hl,hl10,hok=>wW (O:=fun _=>True) (Nk:=fun _=>True) ha hl5 hrt hl hl10 hok (fun h=>absurd rfl h) (fun l' h=>by omega) (fun _=> .inl rfl) (fun l' h=>by omega)
 | l+1,rt,a,ha,hl5,hrt,hl,hl10,hok=>wW (O:=Ex l rt) (Nk:=Ib l rt) ha hl5 hrt hl hl10 hok.1 (fun _=>hok.2) (fun l' e b h1 h2=>by
    obtain rfl:l=l':=by omega
    exact dY l h1 (by omega) hrt (by omega) hl10 h2) (nH l rt) (fun l' e b j h1 h2 h3=>by
    obtain rfl:l=l':=by omega
    exact⟨mI h1 h2 hrt (by omega) hl10 h3,tD h1 h2 hrt (by omega)⟩)
theorem ot(l:Nat){k:Nat}{rt:List NQ}{a:NQ}(ha:aC l a)(hl5:l≤5)(hrt:c7 rt)(hl:l≤rt.length)(hl10:rt.length≤10)(sa:au k a)(sr:fp k rt)(hok:nS l k):Pure Tryz.prog 64 [bA rt,ai a] (dI (ec l rt a)) :=
 dY l ha hl5 hrt hl hl10 (o8 l ha hrt hl sa sr hok)
end Lift
namespace Lift
open Go Go.Proofs
abbrev dn(a:List RD):D:= .sl 3 (a.map RD.D)
abbrev TrD(rt:List (List RD)):D:= .ag [.sl 1 (rt.map dn)]
def kz(a:List RD):Bool:=a.all RD.okB
def Bn(m n:Nat):Bool:=(List.range (m+1)).any fun i=>decide (n=2^i)
def bL(m:Nat)(a:List RD):Nat:=if a.length≠0∧Bn m a.length=false then 10 else if kz a=false then 2 else 0
def bS(a:List RD):NQ:=a.map RD.val
def wN(k:Nat)(a:List RD):Prop:= ∀i,i<a.length→(a.getD i default).w k
def vY(rt:List (List RD))(k:Nat):Nat:=if (rt.getD k []).length≠2^k then 10 else if bL k (rt.getD k [])≠0 then bL k (rt.getD k []) else if ec k ((rt.take k).map bS) (bS (rt.getD k []))<0 then 3 else 0
def dm(rt:List (List RD)):Nat:=if 5<rt.length then 4 else fE (vY rt) (rt.length-0) 0
def qG(rt l:List (List RD)):Nat:=if dm rt≠0 then dm rt else fE (fun i=>bL rt.length (l.getD i [])) (l.length-0) 0
theorem EB(a:List RD)(i:Nat):(bS a).getD i 0=if i<a.length then (a.getD i default).val else 0:=by
 unfold bS;rw[aG,List.getElem?_map,aG];by_cases h:i<a.length
 · rw[if_pos h,bg h];rfl
 · rw[if_neg h,List.getElem?_eq_none (by omega)];rfl
theorem mO{a:List RD}{k:Nat}(h:wN k a)(h1:1≤k):au k (bS a):=fun c=>by
 rw[EB];split
 · rename_i hc;exact fc (h c hc) h1
 · exact mj h1
theorem k9{a:List RD}{k:Nat}(hw:wN k a)(h:kz a=true):dn a=ai (bS a):=by
 show D.sl 3 (a.map RD.D)=D.sl 3 (List.map _ (List.map _ a));rw[List.map_map]
 congr 1
 refine List.map_congr_left fun x hx=>?_;obtain ⟨i,hi,rfl⟩:=List.mem_iff_getElem.1 hx;have hi2:=hw i hi;rw[aG,bg hi] at hi2;unfold kz at h;rw[List.all_eq_true] at h;have:=RD.canon hi2 (h _ (List.getElem_mem hi));simp only[Option.getD_some] at this;show (a[i]).D=(Qr (a[i]).val).D;rw[← this]
theorem zS{l:List RD}{i:Nat}(hi:i<l.length)(h:(l.getD i default).okB=false):kz l=false:=II hi h
theorem w8{l:List RD}(h: ∀i,i<l.length→(l.getD i default).okB=true):kz l=true:=Hh h
theorem yb(m i:Nat):Bn m (2^i)=decide (i≤m):=by
 unfold Bn;by_cases h:i≤m
 · rw[aV h,List.any_eq_true];exact⟨i,List.mem_range.2 (by omega),aV rfl⟩
 · rw[aT h,List.any_eq_false];intro j hj;have hj:=List.mem_range.1 hj;rw[aT]
   · simp
   · intro e;have h1:=jx (Nat.le_of_eq e);omega
theorem GQ{m n:Nat}(h: ∀i,n≠2^i):Bn m n=false:=by
 unfold Bn;rw[List.any_eq_false];intro j _;rw[aT (h j)];simp
theorem EH{m n:Nat}(h:Bn m n=true): ∃i,i≤m∧n=2^i:=by
 unfold Bn at h;rw[List.any_eq_true] at h;obtain ⟨i,h1,h2⟩:=h;exact⟨i,by have:=List.mem_range.1 h1;omega,ar h2⟩
theorem qd{m:Nat}{a:List RD}(h:bL m a=0):aC m (bS a)∧kz a=true:=by
 unfold bL at h;split at h
 · cases h
 rename_i h1;split at h
 · cases h
 rename_i h2;constructor
 · by_cases h0:a.length=0
   · exact .inl (by unfold bS;rw[ae];exact h0)
   · have h3:Bn m a.length=true:=by
      cases hv:Bn m a.length
      · exact absurd ⟨h0,hv⟩ h1
      · rfl
     obtain ⟨i,h4,h5⟩:=EH h3;exact .inr ⟨i,h4,by unfold bS;rw[ae];exact h5⟩
 · cases hv:kz a
   · exact absurd hv h2
   · rfl
def BO(m:Nat)(a:List RD):Prop:= ¬(a.length≠0∧Bn m a.length=false)
theorem x4{m:Nat}{a:List RD}(h:bL m a=0):BO m a:=by
 unfold bL at h;split at h
 · cases h
 · assumption
theorem mr(xs:List D)(a:List RD){k:Nat}(hw:BO xs.length a→wN k a)(hk:k≤17300000000000)(hl:a.length≤4398046511104)(hx:xs.length≤1000000):Pure Tryz.prog 99 [.ag [.sl 1 xs],dn a] (sJ (bL xs.length a)):=by
 refine qJ 34 Tryz.func99 rfl rfl rfl rfl (by kernel_rfl) (fun B F0 w0=>?_);have hno:=fun i hi=>zS (l:=a) (i:=i) hi;have hyes:=w8 (l:=a);unfold bL;generalize kz a=E at hno hyes ⊢;refine qX 2 rfl ?_;refine ab.nil ?_;refine AW.cut [1] (fun _:Unit=>[(1,.d (dn a))]) (fun _=> ¬(a.length≠0∧Bn xs.length a.length=false)) ?_ (fun _ hs=>?_)
 · refine qX 2 rfl ?_;rw[ae];refine qU 1 rfl ?_;refine ab.nil ?_;by_cases h0:a.length=0
   · rw[h0];refine AW.aB rfl ?_;refine AW.skip ?_;exact⟨(),rfl,fun h=>h.1 rfl⟩
   rw[aV (show (0:Int)<(a.length:Int) by omega)];refine AW.aL rfl ?_;by_cases hp: ∃i,a.length=2^i
   · obtain ⟨i,hp⟩:=hp
     have hi:i≤42:=by
      refine jx ?_;rw[← hp];omega
     have cl:=eI (a.map RD.D) (by rw[ae];exact hp) (by omega);rw[hp,yb];refine qX 1 rfl ?_;refine ab.call tok rfl rfl rfl rfl cl ?_;refine qU 1 rfl ?_;refine qK 2 rfl ?_;rw[aT (show ¬((i:Int)<0) by omega)];refine qU 6 rfl ?_;by_cases hm:i≤xs.length
     · rw[aV hm,aT (show ¬((xs.length:Int)<(i:Int)) by omega)];refine qU 1 rfl ?_;refine ab.nil ?_;refine AW.aB rfl ?_;refine AW.skip ?_;exact⟨(),rfl,fun h=>by cases h.2⟩
     · rw[aT hm,aV (show (xs.length:Int)<(i:Int) by omega),if_pos ⟨by have:=Nat.two_pow_pos i;omega,rfl⟩];refine qU 1 rfl ?_;refine ab.nil ?_;refine AW.aL rfl ?_;refine qX 2 rfl ?_;exact qN rfl
   · have hp: ∀i,a.length≠2^i:=fun i e=>hp ⟨i,e⟩;have cl:=mu (a.map RD.D) (by rw[ae];exact hp) (by rw[ae];omega);rw[if_pos ⟨h0,GQ hp⟩];refine qX 1 rfl ?_;refine ab.call tok rfl rfl rfl rfl cl ?_;refine qU 1 rfl ?_;refine qK 9 rfl ?_;refine ab.nil ?_;refine AW.aL rfl ?_;refine qX 2 rfl ?_;exact qN rfl
 · rw[if_neg hs];have hw:=hw hs;show AW _ _ _ _ _ _ _ [(1,.d (dn a))];refine AW.seq (qX 2 rfl ?_);rw[ae];refine qU 1 rfl ?_;refine ab.nil ?_;refine AW.block (AW.aF [23,24,25] (fun i:Nat=>[(23,.d (dn a)),(24,.d (dI a.length)),(25,.d (dI i))]) (fun i=>i≤a.length∧ ∀j,j<i→(a.getD j default).okB=true) (fun i=>a.length-i) 0 rfl ⟨Nat.zero_le _,fun j hj=>by omega⟩ (fun i ⟨hi,hall⟩=>?_));refine qX 1 rfl ?_;refine qI ?_;refine AW.cond rfl (fun h=>?_) (fun h=>?_)
   · have hii:i<a.length:=by have:=ar h;omega
     have hg:=getM RD.D (l:=a) (i:=i) hii;have hno:=hno i hii;have cv:=kD (a.getD i default) (hw i hii) (by omega);refine AW.skip (AW.seq (AW.block (AW.seq (AW.region ?_))));refine ab.idx tok (a.getD i default).D rfl rfl rfl rfl (aj i) hg ?_;refine qU 3 rfl ?_;refine qK 1 rfl ?_;refine ab.call tok rfl rfl rfl rfl cv ?_;refine qU 1 rfl ?_;cases hv:(a.getD i default).okB with
     | false =>
       rw[hno hv,if_pos rfl];refine ab.nil ?_;refine AW.aL rfl ?_;refine qX 2 rfl ?_;exact qN rfl
     | true =>
       refine ab.nil ?_;refine AW.aB rfl ?_;refine AW.skip (qT 1 rfl ?_);rw[aH (x:=(i:Int)+1) (by omega) (by omega)];refine qU 1 rfl ?_;refine ab.nil ?_
       exact⟨i+1,rfl,⟨hii,fun j hj=>by
        by_cases e:j=i
        · subst e;exact hv
        · exact hall j (by omega)⟩,by omega⟩
   have hii:i=a.length:=by have:=aA h;omega
   subst hii;rw[hyes hall,if_neg (by simp)];refine AW.exit ?_;refine qX 1 rfl ?_;exact qN rfl
end Lift
namespace Lift
open Go Go.Proofs
theorem D1(rt:List (List RD))(k:Nat):((rt.map dn).take (cP (rt.map dn).length (some (k:Int)))).drop (fy none)=(rt.take k).map dn:=by
 show ((rt.map dn).take k).drop 0=_;rw[List.drop_zero,List.map_take]
theorem oT{rt:List (List RD)}{k m:Nat}(hw: ∀i,i<k→wN m (rt.getD i []))(hk:k≤rt.length)(h: ∀j,j<k→kz (rt.getD j [])=true):(rt.take k).map dn=((rt.take k).map bS).map ai:=by
 rw[List.map_map];refine List.map_congr_left fun x hx=>?_;obtain ⟨i,hi,rfl⟩:=List.mem_iff_getElem.1 hx;rw[aQ] at hi
 have e:(rt.take k)[i]'(by rw[aQ];exact hi)=rt.getD i []:=by
  rw[List.getElem_take,aG,bg (by omega)];rfl
 rw[e];exact k9 (hw i (by omega)) (h i (by omega))
theorem pG{rt:List (List RD)}{k i:Nat}(hi:i<k):((rt.take k).map bS).getD i []=bS (rt.getD i []):=by
 rw[aG,List.getElem?_map,List.getElem?_take_of_lt hi,aG];cases rt[i]? with
 | none=>rfl
 | some x=>rfl
theorem CO{rt:List (List RD)}{k i:Nat}(hi:k≤i):((rt.take k).map bS).getD i []=[]:=by
 rw[aG,List.getElem?_eq_none (by rw[ae,aQ];omega)];rfl
theorem fU{rt:List (List RD)}{k:Nat}(hk:k≤rt.length):((rt.take k).map bS).length=k:=by rw[ae,aQ];omega
theorem tj{rt:List (List RD)}{k m:Nat}(hw: ∀i,i<k→wN m (rt.getD i []))(h1:1≤m)(hk:k≤rt.length):fp m ((rt.take k).map bS):=fun i=>by
 by_cases h:i<k
 · rw[pG h];exact mO (hw i (by omega)) h1
 · rw[CO (by omega)];exact aY h1
theorem EA(a:List RD):(bS a).length=a.length:=ae ..
theorem iz{rt:List (List RD)}{k:Nat}(h:vY rt k=0):(rt.getD k []).length=2^k∧kz (rt.getD k [])=true∧ ¬ec k ((rt.take k).map bS) (bS (rt.getD k []))<0:=by
 unfold vY at h;split at h
 · cases h
 rename_i h1;split at h
 · rename_i h2;exact absurd h h2
 rename_i h2;split at h
 · cases h
 rename_i h3;exact⟨by omega,(qd (m:=k) (by omega)).2,h3⟩
theorem lS{rt:List (List RD)}{k:Nat}(hk:k≤rt.length)(h: ∀j,j<k→vY rt j=0):c7 ((rt.take k).map bS):=fun j hj=>by
 rw[fU hk] at hj;rw[pG hj,EA];exact(iz (h j hj)).1
theorem Eu{l m k:Nat}(h:nS l k)(hm:m≤l):nS m k:=by
 induction l with
 | zero=>obtain rfl:m=0:=by omega
         exact h
 | succ l ih =>
   by_cases e:m=l+1
   · rw[e];exact h
   · exact ih (jV h) (by omega)
theorem mL(rt:List (List RD)){m:Nat}(hw: ∀i,i<rt.length→(rt.getD i []).length=2^i→wN m (rt.getD i []))(h1:1≤m)(hl:rt.length≤1000000)(hll: ∀i,i<rt.length→(rt.getD i []).length≤4398046511104)(hok:rt.length≤5→nS rt.length m):Pure Tryz.prog 54 [TrD rt] (sJ (dm rt)):=by
 refine qJ 43 Tryz.func54 rfl rfl rfl rfl (by kernel_rfl) (fun B F0 w0=>?_);unfold dm;obtain ⟨E,hE⟩: ∃E,fE (vY rt) (rt.length-0) 0=E:=⟨_,rfl⟩;rw[hE];refine qX 2 rfl ?_;refine qI (qX 3 rfl ?_);rw[ae];refine qU 1 rfl ?_;refine ab.nil ?_;by_cases h5:5<rt.length
 · rw[if_pos h5,aV (show (5:Int)<(rt.length:Int) by omega)];refine AW.aL rfl ?_;refine qX 2 rfl ?_;exact qN rfl
 rw[if_neg h5,aT (show ¬(5:Int)<(rt.length:Int) by omega)];have hok:=hok (by omega);have hm7:=o7 hok;refine AW.aB rfl ?_;refine AW.skip (AW.seq ?_);refine qX 3 rfl ?_;rw[ae];refine qU 1 rfl ?_;refine ab.nil ?_;refine AW.block (AW.aF [1,13,14,15] (fun i:Nat=>[(1,.bx [.sl 1 (rt.map dn)]),(13,.d (.sl 1 (rt.map dn))),(14,.d (dI rt.length)),(15,.d (dI i))]) (fun i=>i≤rt.length∧fE (vY rt) (rt.length-i) i=E∧ ∀j,j<i→vY rt j=0) (fun i=>rt.length-i) 0 rfl ⟨Nat.zero_le _,hE,fun j hj=>by omega⟩ (fun i ⟨hi,hiE,hall⟩=>?_));refine qX 1 rfl ?_;refine qI (AW.cond rfl (fun h=>?_) (fun h=>?_));rotate_left
 · have hii: ¬i<rt.length:=by have:=aA h;omega
   rw[j7 hii] at hiE;subst hiE;refine AW.exit ?_;refine qX 1 rfl ?_;exact qN rfl
 have hii:i<rt.length:=by have:=ar h;omega
 have hg:(rt.map dn)[i]?=some (dn (rt.getD i [])):=by simp[hii]
 have hwi:=hw i hii;have hli:=hll i hii;have hmiss:=fun h0:vY rt i=0=>(ib hii h0).symm.trans hiE;have hhit:=fun h0:vY rt i≠0=>(j6 hii h0).symm.trans hiE;have hp:2^i≤2^5:=Nat.pow_le_pow_right (by decide) (by omega);have hrt:vY rt i=if (rt.getD i []).length≠2^i then 10 else if bL i (rt.getD i [])≠0 then bL i (rt.getD i []) else if ec i ((rt.take i).map bS) (bS (rt.getD i []))<0 then 3 else 0:=rfl
 refine AW.skip (AW.seq (AW.block ?_));refine qX 1 rfl ?_;refine ab.idx tok (dn (rt.getD i [])) rfl rfl rfl rfl (aj i) hg ?_;refine qU 3 rfl ?_;refine qI (qX 2 rfl ?_);rw[ae];refine qU 2 rfl ?_;rw[y7 (by omega)];refine qU 1 rfl ?_;refine ab.nil ?_;by_cases e1:(rt.getD i []).length=2^i;rotate_left
 · rw[if_pos e1] at hrt;rw[bne_iff_ne.2 (show (((rt.getD i []).length:Nat):Int)≠((2^i:Nat):Int) by omega)];have:=hhit (by rw[hrt];decide);rw[hrt] at this;subst this;refine AW.aL rfl ?_;refine qX 2 rfl ?_;exact qN rfl
 rw[if_neg (fun h=>h e1)] at hrt;have hwi:=hwi e1;have cn:=mr ((rt.take i).map dn) (rt.getD i []) (fun _=>hwi) (by omega) hli (by rw[ae,aQ];omega);rw[ae,aQ,Nat.min_eq_left hi] at cn;rw[e1,bne_eq_false_iff_eq.2 rfl];refine AW.aB rfl ?_;refine AW.skip (qX 3 rfl ?_);refine ab.Dw tok rfl rfl rfl rfl trivial (aj i) (Nat.zero_le _) (by show i≤_;rw[ae];omega) ?_;rw[D1];refine qU 3 rfl ?_;refine qI (qX 2 rfl ?_);refine ab.call tok rfl rfl rfl rfl cn ?_;refine qU 1 rfl ?_;refine ab.nil ?_;rcases e2:bL i (rt.getD i []) with _ | z
 rotate_left
 · rw[e2,if_pos (Nat.succ_ne_zero z)] at hrt;have:=hhit (by rw[hrt];exact Nat.succ_ne_zero z);rw[hrt] at this;subst this;refine qX 1 rfl ?_;refine ab.err tok rfl rfl rfl rfl rfl ?_;refine ab.nil ?_;refine AW.aL rfl ?_;refine qX 2 rfl ?_;exact qN rfl
 rw[if_neg (by rw[e2];simp)] at hrt;obtain ⟨n1,n2⟩:=qd e2;have cs:=ot i (k:=m) n1 (by omega) (lS hi hall) (by rw[fU hi];exact ao _) (by rw[fU hi];omega) (mO hwi h1) (tj (fun j hj=>hw j (by omega) (iz (hall j hj)).1) h1 hi) (Eu hok hi);have tr:=nH i ((rt.take i).map bS) (bS (rt.getD i []));rw[show bA ((rt.take i).map bS)= .ag [.sl 1 ((rt.take i).map dn)] from by rw[oT (fun j hj=>hw j (by omega) (iz (hall j hj)).1) hi (fun j hj=>(iz (hall j hj)).2.1)],← k9 hwi n2] at cs;generalize ec i ((rt.take i).map bS) (bS (rt.getD i []))=s at cs hrt tr;refine qX 1 rfl ?_;refine ab.err tok rfl rfl rfl rfl rfl ?_;refine ab.nil ?_;refine AW.aB rfl ?_;refine AW.skip (qX 2 rfl ?_);refine ab.call tok rfl rfl rfl rfl cs ?_;refine qU 1 rfl ?_;refine ab.nil ?_;by_cases e3:s<0
 · rw[if_pos e3] at hrt;rw[aV e3];have:=hhit (by rw[hrt];decide);rw[hrt] at this;subst this;refine AW.aL rfl ?_;refine qX 2 rfl ?_;exact qN rfl
 rw[if_neg e3] at hrt;rw[aT e3];refine AW.aB rfl ?_;refine AW.skip (qT 1 rfl ?_);rw[aH (x:=(i:Int)+1) (by omega) (by omega)];refine qU 1 rfl ?_;refine ab.nil ?_
 exact⟨i+1,rfl,⟨hii,hmiss hrt,fun j hj=>by
  by_cases e:j=i
  · rw[e];exact hrt
  · exact hall j (by omega)⟩,by omega⟩
theorem mw(rt l:List (List RD)){m mn:Nat}(hw: ∀i,i<rt.length→(rt.getD i []).length=2^i→wN m (rt.getD i []))(h1:1≤m)(hl:rt.length≤1000000)(hll: ∀i,i<rt.length→(rt.getD i []).length≤4398046511104)(hok:rt.length≤5→nS rt.length m)
  (hlw: ∀i,i<l.length→BO rt.length (l.getD i [])→wN mn (l.getD i [])) (hl2:l.length≤1000000) (hl3: ∀i,i<l.length→(l.getD i []).length≤4398046511104) (hm:mn≤17300000000000):Pure Tryz.prog 61 [TrD rt,.sl 1 (l.map dn)] (sJ (qG rt l)):=by
 refine qJ 27 Tryz.func61 rfl rfl rfl rfl (by kernel_rfl) (fun B F0 w0=>?_);have cC:=mL rt hw h1 hl hll hok;unfold qG;obtain ⟨E,hE⟩: ∃E,fE (fun i=>bL rt.length (l.getD i [])) (l.length-0) 0=E:=⟨_,rfl⟩;rw[hE];refine qX 2 rfl ?_;refine qI (qX 1 rfl ?_);refine ab.call tok rfl rfl rfl rfl cC ?_;refine qU 1 rfl ?_;refine ab.nil ?_;rcases e2:dm rt with _ | z
 rotate_left
 · rw[if_pos (Nat.succ_ne_zero z)];refine qX 1 rfl ?_;refine ab.err tok rfl rfl rfl rfl rfl ?_;refine ab.nil ?_;refine AW.aL rfl ?_;refine qX 2 rfl ?_;exact qN rfl
 rw[if_neg (by simp)];refine qX 1 rfl ?_;refine ab.err tok rfl rfl rfl rfl rfl ?_;refine ab.nil ?_;refine AW.aB rfl ?_;refine AW.skip (AW.seq ?_);refine qX 2 rfl ?_;rw[ae];refine qU 1 rfl ?_;refine ab.nil ?_;refine AW.block (AW.aF [2,14,15,16] (fun i:Nat=>[(2,.bx [.sl 1 (rt.map dn)]),(14,.d (.sl 1 (l.map dn))),(15,.d (dI l.length)),(16,.d (dI i))]) (fun i=>i≤l.length∧fE (fun i=>bL rt.length (l.getD i [])) (l.length-i) i=E) (fun i=>l.length-i) 0 rfl ⟨Nat.zero_le _,hE⟩ (fun i ⟨hi,hiE⟩=>?_));refine qX 1 rfl ?_;refine qI (AW.cond rfl (fun h=>?_) (fun h=>?_));rotate_left
 · have hii: ¬i<l.length:=by have:=aA h;omega
   rw[j7 hii] at hiE;subst hiE;refine AW.exit ?_;refine qX 1 rfl ?_;exact qN rfl
 have hii:i<l.length:=by have:=ar h;omega
 have hg:(l.map dn)[i]?=some (dn (l.getD i [])):=by simp[hii]
 have hmiss:=fun h0:bL rt.length (l.getD i [])=0=>(ib (f:=fun i=>bL rt.length (l.getD i [])) hii h0).symm.trans hiE;have hhit:=fun h0:bL rt.length (l.getD i [])≠0=>(j6 (f:=fun i=>bL rt.length (l.getD i [])) hii h0).symm.trans hiE;have cn:=mr (rt.map dn) (l.getD i []) (fun h=>hlw i hii (by rw[ae] at h;exact h)) hm (hl3 i hii) (by rw[ae];omega);rw[ae] at cn;refine AW.skip (AW.seq (AW.block (AW.seq (AW.region ?_))));refine ab.idx tok (dn (l.getD i [])) rfl rfl rfl rfl (aj i) hg ?_;refine qU 2 rfl ?_;refine qK 2 rfl ?_;refine ab.call tok rfl rfl rfl rfl cn ?_;refine qU 1 rfl ?_;refine ab.nil ?_;generalize bL rt.length (l.getD i [])=v at hmiss hhit;rcases v with _ | z
 rotate_left
 · have:=hhit (Nat.succ_ne_zero z);subst this;refine qX 1 rfl ?_;refine ab.err tok rfl rfl rfl rfl rfl ?_;refine ab.nil ?_;refine AW.aL rfl ?_;refine qX 2 rfl ?_;exact qN rfl
 refine qX 1 rfl ?_;refine ab.err tok rfl rfl rfl rfl rfl ?_;refine ab.nil ?_;refine AW.aB rfl ?_;refine AW.skip (qT 1 rfl ?_);rw[aH (x:=(i:Int)+1) (by omega) (by omega)];refine qU 1 rfl ?_;refine ab.nil ?_;exact⟨i+1,rfl,⟨hii,hmiss rfl⟩,by omega⟩
theorem kc{rt:List (List RD)}(h:dm rt=0):rt.length≤5∧ ∀j,j<rt.length→vY rt j=0:=by
 unfold dm at h;split at h
 · cases h
 rename_i h1
 have key: ∀(m i:Nat),fE (vY rt) m i=0→ ∀j,i≤j→j<i+m→vY rt j=0:=by
  intro m
  induction m with
  | zero=>intro i _ j h1 h2;omega
  | succ m ih =>
    intro i h j h1 h2;rw[fE] at h;split at h
    · rename_i h0;by_cases e:j=i
      · rw[e];exact h0
      · exact ih (i+1) h j (by omega) (by omega)
    · rename_i h0;exact absurd h h0
 exact⟨by omega,fun j hj=>key _ _ h j (Nat.zero_le _) (by omega)⟩
def D4(rt:List (List RD))(a:List RD):D:=if qG rt [a]≠0 then .tu [dI 0,sJ (qG rt [a])] else .tu [dI (ec rt.length (rt.map bS) (bS a)),aN]
theorem Hc{rt:List (List RD)}{a:List RD}(h:qG rt [a]=0):dm rt=0∧bL rt.length a=0:=by
 unfold qG at h;split at h
 · rename_i h0;exact absurd h h0
 rename_i h0;refine⟨by omega,?_⟩;have e:fE (fun i=>bL rt.length ([a].getD i [])) ([a].length-0) 0=if bL rt.length a=0 then 0 else bL rt.length a:=rfl
 rw[e] at h;split at h
 · assumption
 · rename_i h1;exact absurd h h1
theorem v8(rt:List (List RD))(a:List RD){m:Nat}(hw: ∀i,i<rt.length→(rt.getD i []).length=2^i→wN m (rt.getD i []))(h1:1≤m)(hl:rt.length≤1000000)(hll: ∀i,i<rt.length→(rt.getD i []).length≤4398046511104)(hok:rt.length≤5→nS rt.length m)
  (haw:BO rt.length a→wN m a) (hal:a.length≤4398046511104) (hm:m≤17300000000000):Pure Tryz.prog 29 [TrD rt,dn a] (D4 rt a):=by
 refine qJ 17 Tryz.func29 rfl rfl rfl rfl (by kernel_rfl) (fun B F0 w0=>?_)
 have h0: ∀i,i<[a].length→i=0:=fun i hi=>by
  have:i<1:=hi;omega
 have cc:=mw rt [a] hw h1 hl hll hok (fun i hi=>by rw[h0 i hi];exact haw) (show 1≤1000000 by decide) (fun i hi=>by rw[h0 i hi];exact hal) hm;unfold D4;refine qX 3 rfl ?_;refine qI (qX 2 rfl ?_);refine ab.e7 tok rfl rfl rfl rfl rfl ?_;refine ab.call tok rfl rfl rfl rfl cc ?_;refine qU 1 rfl ?_;refine ab.nil ?_;rcases e2:qG rt [a] with _ | z
 rotate_left
 · rw[if_pos (Nat.succ_ne_zero z)];refine qX 1 rfl ?_;refine ab.err tok rfl rfl rfl rfl rfl ?_;refine ab.nil ?_;refine AW.aL rfl ?_;refine qX 3 rfl ?_;exact qN rfl
 rw[if_neg (by simp)];obtain ⟨k1,k2⟩:=Hc e2;obtain ⟨k3,k4⟩:=kc k1;obtain ⟨n1,n2⟩:=qd k2;have vo:=lS (k:=rt.length) (ao _) k4;have vl:=fU (rt:=rt) (k:=rt.length) (ao _);have vs:=tj (k:=rt.length) (fun j hj=>hw j hj (iz (k4 j hj)).1) h1 (ao _);have vc:=oT (k:=rt.length) (fun j hj=>hw j hj (iz (k4 j hj)).1) (ao _) (fun j hj=>(iz (k4 j hj)).2.1);rw[List.take_length] at vo vl vs vc;have cs:=ot rt.length (k:=m) n1 k3 vo (by rw[vl];exact ao _) (by rw[vl];omega) (mO (haw (x4 k2)) h1) vs (hok k3);rw[show bA (rt.map bS)= .ag [.sl 1 (rt.map dn)] from by rw[vc],← k9 (haw (x4 k2)) n2] at cs;refine qX 1 rfl ?_;refine ab.err tok rfl rfl rfl rfl rfl ?_;refine ab.nil ?_;refine AW.aB rfl ?_;refine AW.skip (qX 2 rfl ?_);refine ab.call tok rfl rfl rfl rfl cs ?_;refine qU 2 rfl ?_;exact qN rfl
end Lift
namespace Lift
open Go Go.Proofs
structure Dv (m:Nat) (rt:List (List RD)):Prop where
 t: ∃m0,1≤m0∧m0≤m∧(∀i,i<rt.length→(rt.getD i []).length=2^i→wN m0 (rt.getD i []))∧(rt.length≤5→nS rt.length m0)
 m2:m≤1000000
 l:rt.length≤1000000
 ll: ∀i,i<rt.length→(rt.getD i []).length≤4398046511104
theorem Dv.m1{m:Nat}{rt:List (List RD)}(T:Dv m rt):1≤m:=by
 obtain ⟨m0,h1,h2,_⟩:=T.t;omega
structure BP (m:Nat) (rt:List (List RD)) (a:List RD):Prop where
 w:BO rt.length a→wN m a
 l:a.length≤4398046511104
structure Kx (m:Nat) (rt:List (List RD)) (v:List NQ):Prop where
 l5:rt.length≤5
 ln:v.length=rt.length
 ro:c7 v
 sz:fp m v
 t: ∃m0,1≤m0∧m0≤m∧fp m0 v∧nS rt.length m0
 ps: ∀k,k<v.length→ ¬ec k (v.take k) (v.getD k [])<0
 eq:TrD rt=bA v
theorem Hr{m:Nat}{rt:List (List RD)}(T:Dv m rt)(h:dm rt=0):Kx m rt (rt.map bS):=by
 obtain ⟨k3,k4⟩:=kc h;have vo:=lS (k:=rt.length) (ao _) k4;have vl:=fU (rt:=rt) (k:=rt.length) (ao _);obtain ⟨m0,t1,t2,tw,tk⟩:=T.t;have hw:=fun j hj=>tw j hj (iz (k4 j hj)).1;have vs:=tj (k:=rt.length) hw t1 (ao _);have vc:=oT (k:=rt.length) hw (ao _) (fun j hj=>(iz (k4 j hj)).2.1);rw[List.take_length] at vo vl vs vc;refine⟨k3,vl,vo,vs.mono t2,⟨m0,t1,t2,vs,tk k3⟩,fun k hk=>?_,by show D.ag [.sl 1 (rt.map dn)]=_;rw[vc]⟩;rw[vl] at hk;have:=(iz (k4 k hk)).2.2
 have e:(rt.map bS).getD k []=bS (rt.getD k []):=by
  rw[aG,List.getElem?_map,aG,bg hk];rfl
 rw[e,← List.map_take];exact this
theorem Ig{m:Nat}{rt:List (List RD)}{a:List RD}(m1:1≤m)(A:BP m rt a)(h:bL rt.length a=0):aC rt.length (bS a)∧au m (bS a)∧dn a=ai (bS a):=by
 obtain ⟨n1,n2⟩:=qd h;have w:=A.w (x4 h);exact⟨n1,mO w m1,k9 w n2⟩
def Jj(q:Rat):NQ:=if q=0 then [] else [q]
theorem C6(q:Rat):aq [q]=Jj q:=by
 show (if 1=0 then [] else iy (Nat.log2 1) [q])=_;rw[if_neg (by decide),show Nat.log2 1=0 by decide];unfold iy Jj;show (if bD [q]=true then [] else [q])=_;have:bD [q]=decide (q=0):=by unfold bD;simp
 rw[this];by_cases h:q=0
 · rw[aV h,if_pos rfl,if_pos h]
 · rw[aT h,if_neg (by simp),if_neg h]
theorem rZ(r:RD){k:Nat}(hr:r.w k)(h1:1≤k)(hk:k≤1000000)(ho:r.okB=true):Pure Tryz.prog 87 [r.D] (ai (Jj r.val)):=by
 refine qJ 8 Tryz.func87 rfl rfl rfl rfl (by kernel_rfl) (fun B0 F0 w0=>?_);have c1:=mD r (Qr 0) (k:=k) hr (jt _ (by rw[qV];exact h1)) (by omega);have z:=fc hr h1;rw[cE,Rat.add_zero] at c1;have c2:=cH [r.val] (l:=0) (k:=k) (gl 0 _) (by decide) (iR z) (by omega);rw[C6] at c2;have hz:(Qr 0).D= .ag [dB false,.sl 1 [],.sl 1 []]:=by rw[jC];rfl
 rw[hz] at c1;refine qX 2 rfl ?_;refine qK 2 rfl ?_;refine ab.call tok rfl rfl rfl rfl c1 ?_;refine ab.e7 tok rfl rfl rfl rfl rfl ?_;refine ab.call tok rfl rfl rfl rfl c2 ?_;refine qU 1 rfl ?_;exact qN rfl
end Lift
namespace Lift
abbrev Cf:=Nat→Rat
def cf(a:NQ):Cf:=fun i=>a.getD i 0
def ck(l:Nat)(a:Cf):Cf:=fun i=>a (2^l+i)
def mulC(rt:List NQ):Nat→Cf→Cf→Cf
 | 0,a,b=>fun i=>if i=0 then a 0*b 0 else 0
 | l+1,a,b=>fun i=>if i<2^l then mulC rt l a b i+mulC rt l (mulC rt l (ck l a) (ck l b)) (cf (rt.getD l [])) i else mulC rt l a (ck l b) (i-2^l)+mulC rt l (ck l a) b (i-2^l)
def c8(l:Nat)(a:Cf):Prop:= ∀i,2^l≤i→a i=0
def kj(l:Nat)(a b:Cf):Prop:= ∀i,i<2^l→a i=b i
theorem bf(rt:List NQ): ∀(l:Nat) (a b:Cf),c8 l (mulC rt l a b)
 | 0,a,b=>fun i hi=>by
   have:i≠0:=by have:1≤i:=hi;omega
   show (if i=0 then _ else (0:Rat))=0;rw[if_neg this]
 | l+1,a,b=>fun i hi=>by
   rw[Nat.pow_succ] at hi;have hp:0<2^l:=Nat.pow_pos (by decide);show (if i<2^l then _ else _)=(0:Rat);rw[if_neg (by omega),bf rt l _ _ _ (by omega),bf rt l _ _ _ (by omega),Rat.add_zero]
theorem kj.down{l:Nat}{a b:Cf}(h:kj (l+1) a b):kj l a b:=fun i hi=>h i (by rw[Nat.pow_succ];omega)
theorem kj.hi{l:Nat}{a b:Cf}(h:kj (l+1) a b):kj l (ck l a) (ck l b):=fun i hi=>h _ (by rw[Nat.pow_succ];omega)
theorem kj.sW{l:Nat}{a:Cf}:kj l a a:=fun _ _=>rfl
theorem kj.full{l:Nat}{a b:Cf}(h:kj l a b)(ha:c8 l a)(hb:c8 l b):a=b:=funext fun i=>by
 by_cases hi:i<2^l
 · exact h i hi
 · rw[ha i (by omega),hb i (by omega)]
theorem bW(rt:List NQ): ∀(l:Nat) {a b a' b':Cf},kj l a a'→kj l b b'→mulC rt l a b=mulC rt l a' b'
 | 0,a,b,a',b',h1,h2=>funext fun i=>by
   show (if i=0 then a 0*b 0 else 0)=(if i=0 then a' 0*b' 0 else 0);rw[h1 0 (by decide),h2 0 (by decide)]
 | l+1,a,b,a',b',h1,h2=>funext fun i=>by
   show (if i<2^l then mulC rt l a b i+mulC rt l (mulC rt l (ck l a) (ck l b)) (cf (rt.getD l [])) i else mulC rt l a (ck l b) (i-2^l)+mulC rt l (ck l a) b (i-2^l))=(if i<2^l then mulC rt l a' b' i+mulC rt l (mulC rt l (ck l a') (ck l b')) (cf (rt.getD l [])) i else mulC rt l a' (ck l b') (i-2^l)+mulC rt l (ck l a') b' (i-2^l));rw[bW rt l h1.down h2.down,bW rt l h1.hi h2.hi,bW rt l h1.down h2.hi,bW rt l h1.hi h2.down]
def zC:Cf:=fun _=>0
theorem cR(rt:List NQ): ∀(l:Nat) {a b:Cf},kj l a zC∨kj l b zC→mulC rt l a b=zC
 | 0,a,b,h=>funext fun i=>by
   show (if i=0 then a 0*b 0 else 0)=0;split
   · rcases h with h | h
     · rw[h 0 (by decide)];exact Rat.zero_mul _
     · rw[h 0 (by decide)];exact Rat.mul_zero _
   · rfl
 | l+1,a,b,h=>funext fun i=>by
   have hz:kj l zC zC:=kj.sW;have r1:mulC rt l a b=zC:=cR rt l (h.imp kj.down kj.down);have r2:mulC rt l (ck l a) (ck l b)=zC:=cR rt l (h.imp kj.hi kj.hi);have r3:mulC rt l a (ck l b)=zC:=cR rt l (h.imp kj.down kj.hi);have r4:mulC rt l (ck l a) b=zC:=cR rt l (h.imp kj.hi kj.down);have r5:mulC rt l zC (cf (rt.getD l []))=zC:=cR rt l (.inl hz);show (if i<2^l then mulC rt l a b i+mulC rt l (mulC rt l (ck l a) (ck l b)) (cf (rt.getD l [])) i else mulC rt l a (ck l b) (i-2^l)+mulC rt l (ck l a) b (i-2^l))=0;rw[r2,r1,r3,r4,r5];show (if i<2^l then (0:Rat)+0 else 0+0)=0;split<;>exact Rat.add_zero 0
theorem jN(rt:List NQ): ∀(l:Nat) (a b:Cf),mulC rt l a b=mulC rt l b a
 | 0,a,b=>funext fun i=>by
   show (if i=0 then a 0*b 0 else 0)=(if i=0 then b 0*a 0 else 0);rw[Rat.mul_comm]
 | l+1,a,b=>funext fun i=>by
   show (if i<2^l then mulC rt l a b i+mulC rt l (mulC rt l (ck l a) (ck l b)) (cf (rt.getD l [])) i else mulC rt l a (ck l b) (i-2^l)+mulC rt l (ck l a) b (i-2^l))=(if i<2^l then mulC rt l b a i+mulC rt l (mulC rt l (ck l b) (ck l a)) (cf (rt.getD l [])) i else mulC rt l b (ck l a) (i-2^l)+mulC rt l (ck l b) a (i-2^l));rw[jN rt l a b,jN rt l (ck l a) (ck l b),jN rt l a (ck l b),jN rt l (ck l a) b,Rat.add_comm (mulC rt l (ck l b) a _)]
theorem c8.mono{l m:Nat}{a:Cf}(h:c8 l a)(hl:l≤m):c8 m a:=fun i hi=>h i (Nat.le_trans (Nat.pow_le_pow_right (by decide) hl) hi)
theorem c8.vZ{l:Nat}{a:Cf}(h:c8 l a):ck l a=zC:=funext fun i=>h _ (by omega)
theorem du(rt:List NQ){j:Nat}{a b:Cf}(ha:c8 j a)(hb:c8 j b): ∀{l:Nat},j≤l→mulC rt l a b=mulC rt j a b:=fun {l} h=>by
 obtain ⟨d,rfl⟩: ∃d,l=j+d:=⟨l-j,by omega⟩;clear h
 induction d with
 | zero=>rfl
 | succ d ih =>
   have ha':c8 (j+d) a:=ha.mono (by omega);have hb':c8 (j+d) b:=hb.mono (by omega);have hz:kj (j+d) zC zC:=kj.sW;rw[← ih];funext i;show (if i<2^(j+d) then mulC rt (j+d) a b i+mulC rt (j+d) (mulC rt (j+d) (ck (j+d) a) (ck (j+d) b)) (cf (rt.getD (j+d) [])) i else mulC rt (j+d) a (ck (j+d) b) (i-2^(j+d))+mulC rt (j+d) (ck (j+d) a) b (i-2^(j+d)))=_;rw[ha'.vZ,hb'.vZ,cR rt (j+d) (a:=zC) (b:=zC) (.inl hz),cR rt (j+d) (a:=zC) (.inl hz),cR rt (j+d) (b:=zC) (.inr hz),cR rt (j+d) (a:=zC) (.inl hz)];by_cases hi:i<2^(j+d)
   · rw[if_pos hi];exact Rat.add_zero _
   · rw[if_neg hi,bf rt (j+d) a b i (by omega)];exact Rat.add_zero _
theorem aZ{l:Nat}{a:NQ}(h:a.length≤2^l):c8 l (cf a):=fun i hi=>gk (by omega)
theorem fO(a b:NQ)(i:Nat):cf (aS a b) i=cf a i+cf b i:=nQ a b i
theorem lI(a:NQ)(i:Nat):cf (aK a) i= -cf a i:=pb a i
theorem tL{a:NQ}(h:bD a=true):cf a=zC:=funext fun i=>by
 unfold bD at h;rw[List.all_eq_true] at h;by_cases hi:i<a.length
 · have:=ar (h a[i] (List.getElem_mem hi));show a.getD i 0=0;rw[aG,bg hi];exact this
 · exact gk (by omega)
theorem Hf{j:Nat}{p q:NQ}(n:Nat)(hn:n=2^j)(hq:q.length≤2^j)(i:Nat):cf (dJ p q n) i=if i<2^j then cf p i else cf q (i-2^j):=by
 show (dJ p q n).getD i 0=_;rw[nU,hn];by_cases h:i<2^j
 · rw[if_pos h,if_pos h];rfl
 · rw[if_neg h,if_neg h];by_cases h2:i<2^j+2^j
   · rw[if_pos h2];rfl
   · rw[if_neg h2];exact(gk (by omega)).symm
theorem fh{j:Nat}{a:NQ}(n:Nat)(hn:n=2^j):kj j (cf (a.take n)) (cf a):=fun i hi=>by
 show (a.take n).getD i 0=a.getD i 0;rw[mb,if_pos (by omega)]
theorem jA{j:Nat}{a:NQ}(n:Nat)(hn:n=2^j):cf (a.drop n)=ck j (cf a):=funext fun i=>by
 show (a.drop n).getD i 0=a.getD (2^j+i) 0;rw[tG,hn]
theorem ya{l:Nat}{R:NQ→NQ→NQ}{rt:List NQ}{a b:NQ}(ha:aC l a)(hb:aC l b)(hab:b.length≤a.length)(hrt:c7 rt)(hl:l≤rt.length)
  (hR: ∀l',l=l'+1→ ∀a' b',aC l' a'→aC l' b'→aC l' (R a' b')∧cf (R a' b')=mulC rt l' (cf a') (cf b')):cf (jl R rt a b)=mulC rt l (cf a) (cf b):=by
 unfold jl;by_cases h0:(bD a||bD b)=true
 · rw[if_pos h0];have:cf ([]:NQ)=zC:=rfl;rw[this,cR];rw[Bool.or_eq_true] at h0;rcases h0 with h | h
   · left;rw[tL h];exact kj.sW
   · right;rw[tL h];exact kj.sW
 rw[if_neg h0];have hz:=fun z:bD a=true=>h0 (by rw[z];rfl);have hz2:=fun z:bD b=true=>h0 (by rw[z,Bool.or_true]);by_cases h1:a.length=1
 · rw[if_pos h1];have lb:b.length≤1:=by omega
   rw[du rt (j:=0) (aZ (by rw[h1];exact ao _)) (aZ lb) (Nat.zero_le _)];funext i;show [a.getD 0 0*b.getD 0 0].getD i 0=if i=0 then a.getD 0 0*b.getD 0 0 else 0
   cases i with
   | zero=>rfl
   | succ i=>rw[if_neg (by omega)];rfl
 rw[if_neg h1]
 obtain ⟨i,hi,hla⟩: ∃i,i≤l∧a.length=2^i:=by
  rcases ha with e | e
  · exact absurd (by rw[List.length_eq_zero_iff.1 e];rfl) hz
  · exact e
 have vZ:i≠0:=fun e=>h1 (by rw[hla,e]);obtain ⟨j,rfl⟩: ∃j,i=j+1:=⟨i-1,by omega⟩;obtain ⟨l',rfl⟩: ∃l',l=l'+1:=⟨l-1,by omega⟩;have hj:j≤l':=by omega
 have hR:=fun a' b' h1 h2=>hR l' rfl a' b' h1 h2;obtain ⟨e1,e2,e3⟩:=bC hla;have hx:aC l' (a.take (a.length / 2)):= .inr ⟨j,hj,e1⟩;have hy:aC l' (a.drop (a.length / 2)):= .inr ⟨j,hj,e2⟩;have la:c8 (j+1) (cf a):=aZ (by omega);have lb:c8 (j+1) (cf b):=aZ (by omega);rw[du rt la lb hi]
 have low: ∀{p q:NQ},p.length≤2^j→q.length≤2^j→aC l' p→aC l' q→cf (R p q)=mulC rt j (cf p) (cf q):=fun {p q} hp hq h1 h2=>by
  rw[(hR p q h1 h2).2,du rt (aZ hp) (aZ hq) hj]
 have lenR: ∀{p q:NQ},p.length≤2^j→q.length≤2^j→aC l' p→aC l' q→c8 j (cf (R p q)):=fun {p q} hp hq h1 h2=>by
  rw[low hp hq h1 h2];exact bf rt j _ _
 have tk:=fh (a:=a) (a.length / 2) e3;have dr:=jA (a:=a) (a.length / 2) e3
 have cj: ∀{p q:NQ},c8 j (cf q)→ ∀i,cf (dJ p q (a.length / 2)) i=if i<2^j then cf p i else cf q (i-2^j):=fun {p q} hq i=>by
  show (dJ p q (a.length / 2)).getD i 0=_;rw[nU,e3];by_cases h:i<2^j
  · rw[if_pos h,if_pos h];rfl
  · rw[if_neg h,if_neg h];by_cases h2:i<2^j+2^j
    · rw[if_pos h2];rfl
    · rw[if_neg h2,hq _ (by omega)]
 by_cases h3:b.length≤a.length / 2
 · rw[if_pos h3]
   have hb':aC l' b:=by
    rcases hb with e | ⟨i',_,e⟩
    · exact .inl e
    · refine .inr ⟨i',?_,e⟩;rw[e3,e] at h3;have:=(Nat.pow_le_pow_iff_right (a:=2) (by decide)).1 h3;omega
   rw[e3] at h3;have lbj:c8 j (cf b):=aZ h3;funext i;rw[cj (lenR (by omega) h3 hy hb'),low (by omega) h3 hx hb',low (by omega) h3 hy hb',dr,bW rt j tk kj.sW];show _=if i<2^j then mulC rt j (cf a) (cf b) i+mulC rt j (mulC rt j (ck j (cf a)) (ck j (cf b))) (cf (rt.getD j [])) i else mulC rt j (cf a) (ck j (cf b)) (i-2^j)+mulC rt j (ck j (cf a)) (cf b) (i-2^j)
   have hzz:kj j zC zC:=kj.sW;rw[lbj.vZ,cR rt j (b:=zC) (.inr hzz),cR rt j (b:=zC) (.inr hzz),cR rt j (a:=zC) (.inl hzz)];by_cases h:i<2^j
   · rw[if_pos h,if_pos h];exact(Rat.add_zero _).symm
   · rw[if_neg h,if_neg h];exact(Rat.zero_add _).symm
 rw[if_neg h3]
 have hlb:b.length=2^(j+1):=by
  rcases hb with e | ⟨i',_,e⟩
  · exact absurd (by rw[List.length_eq_zero_iff.1 e];rfl) hz2
  · rw[e] at h3 hab ⊢;rw[hla] at hab;rw[e3] at h3;have h4:=(Nat.pow_le_pow_iff_right (a:=2) (by decide)).1 hab;have h5: ¬i'≤j:=fun h=>h3 ((Nat.pow_le_pow_iff_right (a:=2) (by decide)).2 h);rw[show i'=j+1 by omega]
 obtain ⟨f1,f2,f3⟩:=bC hlb;rw[show b.length / 2=a.length / 2 by rw[f3,e3]] at f1 f2;have hu:aC l' (b.take (a.length / 2)):= .inr ⟨j,hj,f1⟩;have hv:aC l' (b.drop (a.length / 2)):= .inr ⟨j,hj,f2⟩;have tkb:=fh (a:=b) (a.length / 2) e3;have drb:=jA (a:=b) (a.length / 2) e3;have hlog:a.length.log2-1=j:=by rw[hla,Nat.log2_two_pow];omega
 rw[hlog];have hdl:(rt.getD j []).length=2^j:=hrt j (by omega);have hd:aC l' (rt.getD j []):= .inr ⟨j,hj,hdl⟩;have Ryv:=hR _ _ hy hv;have lyv:c8 j (cf (R (a.drop (a.length / 2)) (b.drop (a.length / 2)))):=lenR (by omega) (by omega) hy hv;have c1:=low (p:=a.take (a.length / 2)) (q:=b.take (a.length / 2)) (by omega) (by omega) hx hu;have c2:=low (p:=a.drop (a.length / 2)) (q:=b.drop (a.length / 2)) (by omega) (by omega) hy hv;have c3:=low (p:=a.take (a.length / 2)) (q:=b.drop (a.length / 2)) (by omega) (by omega) hx hv;have c4:=low (p:=a.drop (a.length / 2)) (q:=b.take (a.length / 2)) (by omega) (by omega) hy hu
 have c5:cf (R (R (a.drop (a.length / 2)) (b.drop (a.length / 2))) (rt.getD j []))=mulC rt j (cf (R (a.drop (a.length / 2)) (b.drop (a.length / 2)))) (cf (rt.getD j [])):=by
  rw[(hR _ _ Ryv.1 hd).2,du rt lyv (aZ (by omega)) hj]
 have lq:c8 j (cf (aS (R (a.take (a.length / 2)) (b.drop (a.length / 2))) (R (a.drop (a.length / 2)) (b.take (a.length / 2))))):=fun i hi=>by
  rw[fO,c3,c4,bf rt j _ _ i hi,bf rt j _ _ i hi];exact Rat.add_zero _
 funext i;rw[cj lq,fO,fO,c1,c5,c2,c3,c4,dr,drb,bW rt j tk tkb,bW rt j tk kj.sW,bW rt j kj.sW tkb];rfl
theorem eK: ∀(l:Nat) {rt:List NQ} {a b:NQ},aC l a→aC l b→c7 rt→l≤rt.length→aC l (bc l rt a b)∧cf (bc l rt a b)=mulC rt l (cf a) (cf b)
 | 0,rt,a,b,ha,hb,hrt,hl=>by
   have key: ∀{a b:NQ},aC 0 a→aC 0 b→b.length≤a.length→aC 0 (jl (fun _ _=>[]) rt a b)∧cf (jl (fun _ _=>[]) rt a b)=mulC rt 0 (cf a) (cf b):=fun {a b} ha hb hab =>
    ⟨by
     unfold jl;split
     · exact bn _
     split
     · exact gl _ _
     · rename_i h0 h1;have:a.length≤1:=ha.le;have:a=[]:=List.length_eq_zero_iff.1 (by omega);subst this
       exact absurd rfl h0,ya ha hb hab hrt hl (fun l' h=>by omega)⟩
   show aC 0 (kf (jl (fun _ _=>[]) rt) a b)∧cf (kf (jl (fun _ _=>[]) rt) a b)=_;unfold kf;split
   · have:=key hb ha (by omega);exact⟨this.1,by rw[this.2,jN]⟩
   · exact key ha hb (by omega)
 | l+1,rt,a,b,ha,hb,hrt,hl=>by
   have ih: ∀l',l+1=l'+1→ ∀a' b',aC l' a'→aC l' b'→aC l' (bc l rt a' b')∧cf (bc l rt a' b')=mulC rt l' (cf a') (cf b'):=fun l' e a' b' h1 h2=>by
    obtain rfl:l=l':=by omega
    exact eK l h1 h2 hrt (by omega)
   have lt:aC (l+1) (bc (l+1) rt a b):=by
    obtain ⟨K,hK⟩: ∃K,au K a∧au K b∧fp K rt:=wQ a b rt;exact(eJ (l+1) ha hb hrt hl hK.1 hK.2.1 hK.2.2).1
   refine⟨lt,?_⟩;show cf (kf (jl (bc l rt) rt) a b)=_;unfold kf;split
   · rw[ya hb ha (by omega) hrt hl ih,jN]
   · exact ya ha hb (by omega) hrt hl ih
end Lift
namespace Lift
theorem D9:kR 0=0:=iS.2 rfl
theorem Fw: ∀{i:Nat} {a:NQ},c8 i (cf a)→cf (iy i a)=cf a
 | 0,a,h=>by
   unfold iy;by_cases h0:bD (a.take 1)=true
   · rw[if_pos h0];have z:=tL h0;funext c;show (0:Rat)=a.getD c 0;cases c with
     | zero =>
       have:(a.take 1).getD 0 0=0:=congrFun z 0;rw[mb,if_pos (by decide)] at this;exact this.symm
     | succ c=>exact(h (c+1) (by show 1≤c+1;omega)).symm
   · rw[if_neg h0];funext c;show (a.take 1).getD c 0=a.getD c 0;rw[mb];split
     · rfl
     · exact(h c (by show 1≤c;omega)).symm
 | i+1,a,h=>by
   unfold iy;have e:2^(i+1)=2^i*2:=Nat.pow_succ ..;by_cases h0:bD ((a.take (2^(i+1))).drop (2^i))=true
   · rw[if_pos h0];refine Fw fun c hc=>?_;by_cases hc2:c<2^(i+1)
     · have:=congrFun (tL h0) (c-2^i);have:((a.take (2^(i+1))).drop (2^i)).getD (c-2^i) 0=0:=this;rw[tG,mb,if_pos (by omega),show 2^i+(c-2^i)=c by omega] at this;exact this
     · exact h c (by omega)
   · rw[if_neg h0];funext c;show (a.take (2^(i+1))).getD c 0=a.getD c 0;rw[mb];split
     · rfl
     · exact(h c (by omega)).symm
theorem bJ{l:Nat}{a:NQ}(ha:aC l a):cf (aq a)=cf a:=by
 unfold aq;split
 · rename_i h;rw[List.length_eq_zero_iff.1 h]
 rename_i h0;rcases ha with e | ⟨i,hi,e⟩
 · exact absurd e h0
 rw[e,Nat.log2_two_pow];exact Fw (aZ (by omega))
theorem bp{l:Nat}{a:NQ}(ha:aC l a):aC l (aq a):=by
 obtain ⟨K,hK⟩:=BY a;exact(aX ha hK).1
structure vS (a:NQ):Prop where
 one:a.length=1→a.getD 0 0≠0
 two: ∀i,a.length=2^(i+1)→ ¬c8 i (cf a)
theorem wP:vS []:=⟨fun h=>absurd h (by decide),fun i h=>by
  have hp:0<2^(i+1):=Nat.pow_pos (by decide);have h:0=2^(i+1):=h
  omega⟩
theorem tP{a:NQ}(h:cf a=zC):bD a=true:=by
 unfold bD;rw[List.all_eq_true];intro x hx;obtain ⟨i,hi,rfl⟩:=List.getElem_of_mem hx;have:=congrFun h i;have:a.getD i 0=0:=this;rw[aG,bg hi] at this;exact aV this
theorem wO: ∀{i:Nat} {a:NQ},a.length=2^i∨2^i≤a.length→vS (iy i a)
 | 0,a,h=>by
   unfold iy;by_cases h0:bD (a.take 1)=true
   · rw[if_pos h0];exact wP
   · rw[if_neg h0]
     have hl:(a.take 1).length=1:=by rw[aQ];have:1≤a.length:=by rcases h with h | h;(have h:a.length=1:=h;omega);exact h
                                     omega
     refine⟨fun _ e=>h0 (tP (funext fun c=>?_)),fun i h=>?_⟩
     · show (a.take 1).getD c 0=0;cases c with
       | zero=>exact e
       | succ c=>exact gk (by omega)
     · rw[hl,Nat.pow_succ] at h;omega
 | i+1,a,h=>by
   unfold iy;have e:2^(i+1)=2^i*2:=Nat.pow_succ ..;have hp:0<2^i:=Nat.pow_pos (by decide);by_cases h0:bD ((a.take (2^(i+1))).drop (2^i))=true
   · rw[if_pos h0];exact wO (.inr (by omega))
   · rw[if_neg h0];have hl:(a.take (2^(i+1))).length=2^(i+1):=by rw[aQ];omega
     refine⟨fun h1=>?_,fun k hk hlow=>h0 (tP (funext fun c=>?_))⟩
     · rw[hl] at h1;omega
     · rw[hl] at hk
       have:k=i:=by
        have h1:=(Nat.pow_le_pow_iff_right (a:=2) (by decide)).1 (Nat.le_of_eq hk);have h2:=(Nat.pow_le_pow_iff_right (a:=2) (by decide)).1 (Nat.le_of_eq hk.symm);omega
       subst this;show ((a.take (2^(k+1))).drop (2^k)).getD c 0=0;rw[tG];exact hlow _ (by omega)
theorem iP{l:Nat}{a:NQ}(ha:aC l a):vS (aq a):=by
 unfold aq;split
 · exact wP
 rename_i h0;rcases ha with e | ⟨i,hi,e⟩
 · exact absurd e h0
 rw[e,Nat.log2_two_pow];exact wO (.inl e)
theorem GS{a b:NQ}(hl:a.length=b.length)(h:cf a=cf b):a=b:=by
 refine List.ext_getElem hl fun i h1 h2=>?_;have:a.getD i 0=b.getD i 0:=congrFun h i;rw[aG,aG,bg h1,bg h2] at this;exact this
theorem DL{l m:Nat}{a b:NQ}(ha:aC l a)(hb:aC m b)(ta:vS a)(tb:vS b)(h:cf a=cf b):a=b:=by
 refine GS ?_ h
 have key: ∀{l m:Nat} {a b:NQ},aC l a→aC m b→vS b→cf a=cf b→b.length≤a.length:=fun {l m a b} ha hb tb h=>by
  by_cases hlt:b.length≤a.length
  · exact hlt
  exfalso;rcases hb with e | ⟨k,_,e⟩
  · omega
  rcases k with _ | k
  · have h1:b.length=1:=e;have h0:a.length=0:=by omega
    refine tb.one h1 ?_;have:a.getD 0 0=b.getD 0 0:=congrFun h 0;rw[← this];exact gk (by omega)
  · refine tb.two k e ?_;rw[← h];refine aZ ?_;rcases ha with e1 | ⟨j,_,e1⟩
    · omega
    · rw[e1,e] at hlt;have: ¬k+1≤j:=fun h=>hlt (Nat.pow_le_pow_right (by decide) h);rw[e1];exact Nat.pow_le_pow_right (by decide) (by omega)
 exact Nat.le_antisymm (key hb ha ta h.symm) (key ha hb tb h)
theorem mR{l m:Nat}{a b:NQ}(ha:aC l a)(hb:aC m b)(h:cf a=cf b):aq a=aq b:=by
 refine DL (bp ha) (bp hb) (iP ha) (iP hb) ?_;rw[bJ ha,bJ hb,h]
def b7(rt:List NQ)(l:Nat)(a:Cf):Cf:=fun i=>mulC rt l a a i-mulC rt l (mulC rt l (ck l a) (ck l a)) (cf (rt.getD l [])) i
def bd(rt:List NQ):Nat→Cf→Int
 | 0,a=>kR (a 0)
 | l+1,a=>if bd rt l (cf (rt.getD l []))=0 then bd rt l a else if bd rt l a=bd rt l (ck l a)∨bd rt l (ck l a)=0 then bd rt l a else
   if bd rt l a=0 then bd rt l (ck l a) else bd rt l a*bd rt l (b7 rt l a)
theorem zU(rt:List NQ){l:Nat}{a b:Cf}(h:kj (l+1) a b):b7 rt l a=b7 rt l b:=by
 unfold b7;rw[bW rt l h.down h.down,bW rt l h.hi h.hi]
theorem lX(rt:List NQ): ∀(l:Nat) {a b:Cf},kj l a b→bd rt l a=bd rt l b
 | 0,a,b,h=>by show kR (a 0)=kR (b 0);rw[h 0 (by decide)]
 | l+1,a,b,h=>by
   unfold bd;rw[lX rt l h.down,lX rt l h.hi,zU rt h]
theorem gB(rt:List NQ): ∀(l:Nat),bd rt l zC=0
 | 0=>by show kR 0=0;exact D9
 | l+1=>by
   have h:=gB rt l;have h2:bd rt l (ck l zC)=0:=h;unfold bd;rw[h,h2];split
   · rfl
   · rw[if_pos (Or.inl rfl)]
theorem bY(rt:List NQ){j:Nat}{a:Cf}(ha:c8 j a): ∀{l:Nat},j≤l→bd rt l a=bd rt j a:=fun {l} h=>by
 obtain ⟨d,rfl⟩: ∃d,l=j+d:=⟨l-j,by omega⟩;clear h
 induction d with
 | zero=>rfl
 | succ d ih =>
   have ha':c8 (j+d) a:=ha.mono (by omega);show (if bd rt (j+d) (cf (rt.getD (j+d) []))=0 then bd rt (j+d) a else if bd rt (j+d) a=bd rt (j+d) (ck (j+d) a)∨bd rt (j+d) (ck (j+d) a)=0 then bd rt (j+d) a else if bd rt (j+d) a=0 then bd rt (j+d) (ck (j+d) a) else bd rt (j+d) a*bd rt (j+d) (b7 rt (j+d) a))=_;rw[ha'.vZ,gB,ih];by_cases hd:bd rt (j+d) (cf (rt.getD (j+d) []))=0
   · rw[if_pos hd]
   · rw[if_neg hd,if_pos (Or.inr rfl)]
theorem kA{l j:Nat}{rt:List NQ}{a:NQ}(hj:j≤l)(ha:a.length=2^(j+1))(hrt:c7 rt)(hl:l<rt.length):aC l (eS l rt a)∧cf (eS l rt a)=b7 rt j (cf a):=by
 obtain ⟨K,hK⟩: ∃K,au K a∧au K a∧fp K rt:=wQ a a rt;refine⟨(tC hj ha hrt hl hK.1 hK.2.2).1,?_⟩;obtain ⟨e1,e2,e3⟩:=bC ha;have hx:aC l (a.take (a.length / 2)):= .inr ⟨j,hj,e1⟩;have hy:aC l (a.drop (a.length / 2)):= .inr ⟨j,hj,e2⟩;have hlog:a.length.log2-1=j:=by rw[ha,Nat.log2_two_pow];omega
 have hdl:(rt.getD j []).length=2^j:=hrt j (by omega);have hd:aC l (rt.getD j []):= .inr ⟨j,hj,hdl⟩;have r1:=eK l hx hx hrt (by omega);have r2:=eK l hy hy hrt (by omega);have r3:=eK l r2.1 hd hrt (by omega);unfold eS b7;rw[hlog];funext i;rw[fO,lI,r1.2,r3.2,r2.2,du rt (aZ (by omega)) (aZ (by omega)) hj,du rt (aZ (a:=a.drop (a.length / 2)) (by omega)) (aZ (by omega)) hj,du rt (bf rt j _ _) (aZ (by omega)) hj,jA _ e3,bW rt j (fh _ e3) (fh _ e3)];exact Rat.sub_eq_add_neg _ _ |>.symm
theorem eD: ∀(l:Nat) {rt:List NQ} {a:NQ},aC l a→c7 rt→l≤rt.length→ec l rt a=bd rt l (cf a)
 | 0,rt,a,ha,hrt,hl=>by
   have hs:=bp ha;have hc:=bJ ha;show wc (fun _=>0) (fun a=>a) rt (aq a)=kR (cf a 0);rw[← hc];generalize aq a=s at hs;unfold wc;rcases hs with e | ⟨i,hi,e⟩
   · rw[if_pos e,List.length_eq_zero_iff.1 e];show 0=kR 0;rw[D9]
   · obtain rfl:i=0:=by omega
     have e:s.length=1:=e;rw[if_neg (by omega),if_pos e];rfl
 | l+1,rt,a,ha,hrt,hl=>by
   have hs:=bp ha;have hc:=bJ ha;show wc (ec l rt) (eS l rt) rt (aq a)=bd rt (l+1) (cf a);rw[← hc];generalize aq a=s at hs;clear hc ha;unfold wc;by_cases h0:s.length=0
   · rw[if_pos h0,List.length_eq_zero_iff.1 h0];exact(gB rt (l+1)).symm
   rw[if_neg h0];by_cases h1:s.length=1
   · rw[if_pos h1,bY rt (j:=0) (aZ (by rw[h1];exact ao _)) (Nat.zero_le _)];rfl
   rw[if_neg h1]
   obtain ⟨j,hj,hsl⟩: ∃j,j≤l∧s.length=2^(j+1):=by
    rcases hs with e | ⟨i,hi,e⟩
    · exact absurd e h0
    · rcases i with _ | j
      · exact absurd e h1
      · exact⟨j,by omega,e⟩
   obtain ⟨e1,e2,e3⟩:=bC hsl;have hx:aC l (s.take (s.length / 2)):= .inr ⟨j,hj,e1⟩;have hy:aC l (s.drop (s.length / 2)):= .inr ⟨j,hj,e2⟩;have hlog:s.length.log2-1=j:=by rw[hsl,Nat.log2_two_pow];omega
   have hdl:(rt.getD j []).length=2^j:=hrt j (by omega);have hd:aC l (rt.getD j []):= .inr ⟨j,hj,hdl⟩;have hn:=kA hj hsl hrt (by omega)
   have lowN:c8 j (b7 rt j (cf s)):=fun i hi=>by
    unfold b7;rw[bf rt j _ _ i hi,bf rt j _ _ i hi];exact Rat.sub_self
   rw[hlog,eD l hd hrt (by omega),eD l hx hrt (by omega),eD l hy hrt (by omega),eD l hn.1 hrt (by omega),hn.2,jA _ e3,
    bY rt (aZ (a:=rt.getD j []) (by omega)) hj,bY rt (aZ (a:=s.take (s.length / 2)) (by omega)) hj,bY rt lowN hj,lX rt j (fh _ e3)]
   have lh:c8 j (ck j (cf s)):=fun i hi=>(aZ (l:=j+1) (by omega)) _ (by rw[Nat.pow_succ];omega);rw[bY rt lh hj,bY rt (a:=cf s) (j:=j+1) (l:=l+1) (aZ (by omega)) (by omega)];rfl
end Lift
namespace Lift
def kt(R:NQ→NQ→NQ)(rt:List NQ)(a b:NQ):NQ :=
 if a.length=0∨b.length=0 then [] else if max a.length b.length=1 then [a.getD 0 0*b.getD 0 0] else
 dJ (aS (R ((bk a (max a.length b.length)).take (max a.length b.length / 2)) ((bk b (max a.length b.length)).take (max a.length b.length / 2)))
   (R (R ((bk a (max a.length b.length)).drop (max a.length b.length / 2)) ((bk b (max a.length b.length)).drop (max a.length b.length / 2))) (rt.getD ((max a.length b.length).log2-1) [])))
  (aS (R ((bk a (max a.length b.length)).take (max a.length b.length / 2)) ((bk b (max a.length b.length)).drop (max a.length b.length / 2)))
   (R ((bk a (max a.length b.length)).drop (max a.length b.length / 2)) ((bk b (max a.length b.length)).take (max a.length b.length / 2)))) (max a.length b.length / 2)
def ff:Nat→List NQ→NQ→NQ→NQ
 | 0,rt,a,b=>kt (fun _ _=>[]) rt (aq a) (aq b)
 | l+1,rt,a,b=>kt (ff l rt) rt (aq a) (aq b)
theorem CI{l:Nat}{a:NQ}(n:Nat)(ha:a.length≤n):cf (bk a n)=cf a:=funext fun i=>by
 show (bk a n).getD i 0=a.getD i 0;rw[gz];split
 · rfl
 · exact(gk (by omega)).symm
theorem zj{l:Nat}{R:NQ→NQ→NQ}{rt:List NQ}{a b:NQ}(ha:aC l a)(hb:aC l b)(hrt:c7 rt)(hl:l≤rt.length)
  (hR: ∀l',l=l'+1→ ∀a' b',aC l' a'→aC l' b'→aC l' (R a' b')∧cf (R a' b')=mulC rt l' (cf a') (cf b')):aC l (kt R rt a b)∧cf (kt R rt a b)=mulC rt l (cf a) (cf b):=by
 have cz: ∀{x:NQ},x.length=0→cf x=zC:=fun {x} h=>by rw[List.length_eq_zero_iff.1 h];rfl
 unfold kt;by_cases h0:a.length=0∨b.length=0
 · rw[if_pos h0];refine⟨bn _,?_⟩;rw[cR rt l (h0.imp (fun h=>by rw[cz h];exact kj.sW) (fun h=>by rw[cz h];exact kj.sW))];rfl
 rw[if_neg h0];by_cases h1:max a.length b.length=1
 · rw[if_pos h1];refine⟨gl _ _,?_⟩;rw[du rt (j:=0) (aZ (show a.length≤1 by omega)) (aZ (show b.length≤1 by omega)) (Nat.zero_le _)];funext i;show [a.getD 0 0*b.getD 0 0].getD i 0=if i=0 then a.getD 0 0*b.getD 0 0 else 0
   cases i with
   | zero=>rfl
   | succ i=>rw[if_neg (by omega)];rfl
 rw[if_neg h1]
 obtain ⟨i,hi,hn⟩: ∃i,i≤l∧max a.length b.length=2^i:=by
  rcases ha with e | ⟨i,hi,e⟩
  · exact absurd (.inl e) h0
  rcases hb with e2 | ⟨k,hk,e2⟩
  · exact absurd (.inr e2) h0
  by_cases h:a.length≤b.length
  · exact⟨k,hk,by rw[Nat.max_eq_right h,e2]⟩
  · exact⟨i,hi,by rw[Nat.max_eq_left (by omega),e]⟩
 have vZ:i≠0:=fun e=>h1 (by rw[hn,e]);obtain ⟨j,rfl⟩: ∃j,i=j+1:=⟨i-1,by omega⟩;obtain ⟨l',rfl⟩: ∃l',l=l'+1:=⟨l-1,by omega⟩;have hj:j≤l':=by omega
 have hR:=fun a' b' h1 h2=>hR l' rfl a' b' h1 h2;have ca:=CI (l:=l') (max a.length b.length) (Nat.le_max_left a.length b.length);have cb:=CI (l:=l') (max a.length b.length) (Nat.le_max_right a.length b.length);have wa:=bH a (max a.length b.length);have wb:=bH b (max a.length b.length);rw[← ca,← cb];generalize bk a (max a.length b.length)=A at *;generalize bk b (max a.length b.length)=B at *;generalize max a.length b.length=n at *;subst hn;have e0:=k7 j;have hlog:(2^(j+1)).log2-1=j:=by rw[Nat.log2_two_pow];omega
 rw[e0,hlog];obtain ⟨e1,e2,e3⟩:=bC wa;obtain ⟨f1,f2,f3⟩:=bC wb;rw[e3] at e1 e2;rw[f3] at f1 f2;have hx:aC l' (A.take (2^j)):= .inr ⟨j,hj,e1⟩;have hy:aC l' (A.drop (2^j)):= .inr ⟨j,hj,e2⟩;have hu:aC l' (B.take (2^j)):= .inr ⟨j,hj,f1⟩;have hv:aC l' (B.drop (2^j)):= .inr ⟨j,hj,f2⟩;have hdl:(rt.getD j []).length=2^j:=hrt j (by omega);have hd:aC l' (rt.getD j []):= .inr ⟨j,hj,hdl⟩
 have low: ∀{p q:NQ},p.length≤2^j→q.length≤2^j→aC l' p→aC l' q→cf (R p q)=mulC rt j (cf p) (cf q):=fun {p q} hp hq h1 h2=>by
  rw[(hR p q h1 h2).2,du rt (aZ hp) (aZ hq) hj]
 have Ryv:=hR _ _ hy hv;have c2:=low (p:=A.drop (2^j)) (q:=B.drop (2^j)) (by omega) (by omega) hy hv;have lyv:c8 j (cf (R (A.drop (2^j)) (B.drop (2^j)))):=by rw[c2];exact bf rt j _ _
 have c1:=low (p:=A.take (2^j)) (q:=B.take (2^j)) (by omega) (by omega) hx hu;have c3:=low (p:=A.take (2^j)) (q:=B.drop (2^j)) (by omega) (by omega) hx hv;have c4:=low (p:=A.drop (2^j)) (q:=B.take (2^j)) (by omega) (by omega) hy hu
 have c5:cf (R (R (A.drop (2^j)) (B.drop (2^j))) (rt.getD j []))=mulC rt j (cf (R (A.drop (2^j)) (B.drop (2^j)))) (cf (rt.getD j [])):=by
  rw[(hR _ _ Ryv.1 hd).2,du rt lyv (aZ (by omega)) hj]
 refine⟨.inr ⟨j+1,by omega,by rw[ei,Nat.pow_succ];omega⟩,?_⟩;rw[du rt (j:=j+1) (aZ (by omega)) (aZ (by omega)) (by omega)]
 have lq:c8 j (cf (aS (R (A.take (2^j)) (B.drop (2^j))) (R (A.drop (2^j)) (B.take (2^j))))):=fun i hi=>by
  rw[fO,c3,c4,bf rt j _ _ i hi,bf rt j _ _ i hi];exact Rat.add_zero _
 have cj: ∀{p q:NQ},c8 j (cf q)→ ∀i,cf (dJ p q (2^j)) i=if i<2^j then cf p i else cf q (i-2^j):=fun {p q} hq i=>by
  show (dJ p q (2^j)).getD i 0=_;rw[nU];by_cases h:i<2^j
  · rw[if_pos h,if_pos h];rfl
  · rw[if_neg h,if_neg h];by_cases h2:i<2^j+2^j
    · rw[if_pos h2];rfl
    · rw[if_neg h2,hq _ (by omega)]
 funext i;rw[cj lq,fO,fO,c1,c5,c2,c3,c4,jA (a:=A) (2^j) rfl,jA (a:=B) (2^j) rfl,bW rt j (fh (a:=A) (2^j) rfl) (fh (a:=B) (2^j) rfl),bW rt j (fh (a:=A) (2^j) rfl) kj.sW,bW rt j kj.sW (fh (a:=B) (2^j) rfl)];rfl
theorem jL: ∀(l:Nat) {rt:List NQ} {a b:NQ},aC l a→aC l b→c7 rt→l≤rt.length→aC l (ff l rt a b)∧cf (ff l rt a b)=mulC rt l (cf a) (cf b)
 | 0,rt,a,b,ha,hb,hrt,hl=>by
   have:=zj (R:=fun _ _=>[]) (bp ha) (bp hb) hrt hl (fun l' h=>by omega);rw[bJ ha,bJ hb] at this;exact this
 | l+1,rt,a,b,ha,hb,hrt,hl=>by
   have:=zj (R:=ff l rt) (bp ha) (bp hb) hrt hl (fun l' e a' b' h1 h2=>by
    obtain rfl:l=l':=by omega
    exact jL l h1 h2 hrt (by omega))
   rw[bJ ha,bJ hb] at this;exact this
def fq(l:Nat)(rt:List NQ)(a:NQ):NQ :=
 aS (ff l rt (a.take (a.length / 2)) (a.take (a.length / 2))) (aK (ff l rt (ff l rt (a.drop (a.length / 2)) (a.drop (a.length / 2))) (rt.getD (a.length.log2-1) [])))
def ou(R:NQ→Int)(N:NQ→NQ)(rt:List NQ)(a:NQ):Int :=
 if a.length=0 then 0 else if a.length=1 then kR (a.getD 0 0) else
 if R (a.take (a.length / 2))=R (a.drop (a.length / 2))*R (rt.getD (a.length.log2-1) [])∨R (a.drop (a.length / 2))*R (rt.getD (a.length.log2-1) [])=0 then R (a.take (a.length / 2)) else
 if R (a.take (a.length / 2))=0 then R (a.drop (a.length / 2))*R (rt.getD (a.length.log2-1) []) else R (a.take (a.length / 2))*R (N a)
def mT:Nat→List NQ→NQ→Int
 | 0,rt,a=>ou (fun _=>0) (fun a=>a) rt (aq a)
 | l+1,rt,a=>ou (mT l rt) (fq l rt) rt (aq a)
def nB(rt:List NQ):Prop:= ∀j,j<rt.length→0≤bd rt j (cf (rt.getD j []))
theorem uk{l j:Nat}{rt:List NQ}{a:NQ}(hj:j≤l)(ha:a.length=2^(j+1))(hrt:c7 rt)(hl:l<rt.length):aC l (fq l rt a)∧cf (fq l rt a)=b7 rt j (cf a):=by
 obtain ⟨e1,e2,e3⟩:=bC ha;have hx:aC l (a.take (a.length / 2)):= .inr ⟨j,hj,e1⟩;have hy:aC l (a.drop (a.length / 2)):= .inr ⟨j,hj,e2⟩;have hlog:a.length.log2-1=j:=by rw[ha,Nat.log2_two_pow];omega
 have hdl:(rt.getD j []).length=2^j:=hrt j (by omega);have hd:aC l (rt.getD j []):= .inr ⟨j,hj,hdl⟩;have r1:=jL l hx hx hrt (by omega);have r2:=jL l hy hy hrt (by omega);have r3:=jL l r2.1 hd hrt (by omega);unfold fq;rw[hlog];refine⟨r1.1.plus r3.1.minus,?_⟩;unfold b7;funext i;rw[fO,lI,r1.2,r3.2,r2.2,du rt (aZ (by omega)) (aZ (by omega)) hj,du rt (aZ (a:=a.drop (a.length / 2)) (by omega)) (aZ (by omega)) hj,du rt (bf rt j _ _) (aZ (by omega)) hj,jA _ e3,bW rt j (fh _ e3) (fh _ e3)];exact Rat.sub_eq_add_neg _ _ |>.symm
theorem kW(rt:List NQ): ∀(l:Nat) (a:Cf),wL (bd rt l a)
 | 0,a=>gC _
 | l+1,a=>by
   unfold bd;split
   · exact kW rt l _
   split
   · exact kW rt l _
   split
   · exact kW rt l _
   · exact lT (kW rt l _) (kW rt l _)
theorem fX: ∀(l:Nat) {rt:List NQ} {a:NQ},aC l a→c7 rt→nB rt→l≤rt.length→mT l rt a=bd rt l (cf a)
 | 0,rt,a,ha,hrt,hp,hl=>by
   have hs:=bp ha;have hc:=bJ ha;show ou (fun _=>0) (fun a=>a) rt (aq a)=kR (cf a 0);rw[← hc];generalize aq a=s at hs;unfold ou;rcases hs with e | ⟨i,hi,e⟩
   · rw[if_pos e,List.length_eq_zero_iff.1 e];show 0=kR 0;rw[D9]
   · obtain rfl:i=0:=by omega
     have e:s.length=1:=e;rw[if_neg (by omega),if_pos e];rfl
 | l+1,rt,a,ha,hrt,hp,hl=>by
   have hs:=bp ha;have hc:=bJ ha;show ou (mT l rt) (fq l rt) rt (aq a)=bd rt (l+1) (cf a);rw[← hc];generalize aq a=s at hs;clear hc ha;unfold ou;by_cases h0:s.length=0
   · rw[if_pos h0,List.length_eq_zero_iff.1 h0];exact(gB rt (l+1)).symm
   rw[if_neg h0];by_cases h1:s.length=1
   · rw[if_pos h1,bY rt (j:=0) (aZ (by rw[h1];exact ao _)) (Nat.zero_le _)];rfl
   rw[if_neg h1]
   obtain ⟨j,hj,hsl⟩: ∃j,j≤l∧s.length=2^(j+1):=by
    rcases hs with e | ⟨i,hi,e⟩
    · exact absurd e h0
    · rcases i with _ | j
      · exact absurd e h1
      · exact⟨j,by omega,e⟩
   obtain ⟨e1,e2,e3⟩:=bC hsl;have hx:aC l (s.take (s.length / 2)):= .inr ⟨j,hj,e1⟩;have hy:aC l (s.drop (s.length / 2)):= .inr ⟨j,hj,e2⟩;have hlog:s.length.log2-1=j:=by rw[hsl,Nat.log2_two_pow];omega
   have hdl:(rt.getD j []).length=2^j:=hrt j (by omega);have hd:aC l (rt.getD j []):= .inr ⟨j,hj,hdl⟩;have hn:=uk hj hsl hrt (by omega)
   have lowN:c8 j (b7 rt j (cf s)):=fun i hi=>by
    unfold b7;rw[bf rt j _ _ i hi,bf rt j _ _ i hi];exact Rat.sub_self
   have lh:c8 j (ck j (cf s)):=fun i hi=>(aZ (l:=j+1) (by omega)) _ (by rw[Nat.pow_succ];omega);have hpj:=hp j (by omega)
   rw[hlog,fX l hd hrt hp (by omega),fX l hx hrt hp (by omega),fX l hy hrt hp (by omega),fX l hn.1 hrt hp (by omega),hn.2,jA _ e3,
    bY rt (aZ (a:=rt.getD j []) (by omega)) hj,bY rt (aZ (a:=s.take (s.length / 2)) (by omega)) hj,bY rt lowN hj,lX rt j (fh _ e3),bY rt lh hj,bY rt (a:=cf s) (j:=j+1) (l:=l+1) (aZ (by omega)) (by omega)]
   show _=if bd rt j (cf (rt.getD j []))=0 then bd rt j (cf s) else if bd rt j (cf s)=bd rt j (ck j (cf s))∨bd rt j (ck j (cf s))=0 then bd rt j (cf s) else
    if bd rt j (cf s)=0 then bd rt j (ck j (cf s)) else bd rt j (cf s)*bd rt j (b7 rt j (cf s))
   have ht:=kW rt j (cf (rt.getD j []));generalize bd rt j (cf (rt.getD j []))=D at hpj ht;unfold wL at ht;rcases ht with rfl | rfl | rfl
   · rw[if_pos rfl,Int.mul_zero,if_pos (.inr rfl)]
   · rw[Int.mul_one,if_neg (show ¬(1:Int)=0 by decide)]
   · omega
end Lift
namespace Lift
open Go Go.Proofs
structure kF (m:Nat) (v:List NQ):Prop where
 l5:v.length≤5
 ro:c7 v
 sz:fp m v
 ps: ∀k,k<v.length→ ¬ec k (v.take k) (v.getD k [])<0
 m2:m≤1000000
 t: ∃m0,1≤m0∧m0≤m∧fp m0 v∧nS v.length m0
theorem kF.m1{m:Nat}{v:List NQ}(V:kF m v):1≤m:=by
 obtain ⟨m0,h1,h2,_⟩:=V.t;omega
theorem kF.mono{m k:Nat}{v:List NQ}(V:kF m v)(h:m≤k)(hk:k≤1000000):kF k v:=by
 obtain ⟨m0,h1,h2,h3,h4⟩:=V.t;exact⟨V.l5,V.ro,V.sz.mono h,V.ps,hk,m0,h1,by omega,h3,h4⟩
theorem kF.of{m:Nat}{rt:List (List RD)}(T:Dv m rt)(h:dm rt=0):kF m (rt.map bS):=by
 have W:=Hr T h;exact⟨by rw[W.ln];exact W.l5,W.ro,W.sz,W.ps,T.m2,by rw[W.ln];exact W.t⟩
def dV(a:NQ):List RD:=a.map Qr
theorem zt(a:NQ):bS (dV a)=a:=by
 unfold bS dV;rw[List.map_map];have:(RD.val ∘ Qr)=id:=funext cE;rw[this,List.map_id]
theorem oV(a:NQ):dn (dV a)=ai a:=by
 show D.sl 3 ((a.map Qr).map RD.D)=D.sl 3 (List.map _ a);rw[List.map_map];rfl
theorem gU(a:NQ):(dV a).length=a.length:=ae ..
theorem oU{a:NQ}{k:Nat}(h:au k a):wN k (dV a):=fun i hi=>by
 rw[gU] at hi;unfold dV;rw[aG,List.getElem?_map,bg hi];have:=h i;rw[aG,bg hi] at this;exact jt _ this
theorem mW{a:NQ}{l:Nat}(h:aC l a):bL l (dV a)=0:=by
 unfold bL;rw[gU]
 have h1: ¬(a.length≠0∧Bn l a.length=false):=fun hs=>by
  rcases h with e | ⟨i,hi,e⟩
  · exact hs.1 e
  · rw[e,yb,aV hi] at hs;exact Bool.noConfusion hs.2
 have h2:kz (dV a)=true:=by
  unfold kz dV;rw[List.all_map,List.all_eq_true];exact fun q _=>CN q
 rw[if_neg h1,if_neg (by rw[h2];simp)]
def kZ(v:List NQ):List (List RD):=v.map dV
theorem gT(v:List NQ):(kZ v).length=v.length:=ae ..
theorem pQ(v:List NQ)(i:Nat):(kZ v).getD i []=dV (v.getD i []):=by
 unfold kZ;rw[aG,List.getElem?_map,aG];cases v[i]? with
 | none=>rfl
 | some x=>rfl
theorem Eg(v:List NQ):(kZ v).map bS=v:=by
 unfold kZ;rw[List.map_map];have:(bS ∘ dV)=id:=funext zt;rw[this,List.map_id]
theorem mV(v:List NQ):TrD (kZ v)=bA v:=by
 show D.ag [.sl 1 ((v.map dV).map dn)]=D.ag [.sl 1 (v.map ai)];rw[List.map_map];have:(dn ∘ dV)=ai:=funext oV;rw[this]
theorem j8{f:Nat→Nat}: ∀{n i:Nat},(∀j,j<i+n→f j=0)→fE f n i=0
 | 0,i,h=>rfl
 | n+1,i,h=>by
   rw[fE,if_pos (h i (by omega))];exact j8 (fun j hj=>h j (by omega))
theorem kF.raw{m:Nat}{v:List NQ}(V:kF m v):Dv m (kZ v)∧dm (kZ v)=0:=by
 have l5:=V.l5;have hp: ∀i,i<v.length→2^i≤2^5:=fun i hi=>Nat.pow_le_pow_right (by decide) (by omega);obtain ⟨m0,t1,t2,ts,tk⟩:=V.t
 refine⟨⟨⟨m0,t1,t2,fun i hi _=>by rw[pQ];exact oU (ts i),fun _=>by rw[gT];exact tk⟩,V.m2,by rw[gT];omega,fun i hi=>by
  rw[gT] at hi;rw[pQ,gU,V.ro i hi];have:=hp i hi
  omega⟩,?_⟩
 unfold dm;rw[gT,if_neg (by omega)];refine j8 fun j hj=>?_;have hj:j<v.length:=by omega
 unfold vY;rw[pQ,gU,if_neg (fun h=>h (V.ro j hj)),if_neg (fun h=>h (mW (.inr ⟨j,ao _,V.ro j hj⟩))),zt,List.map_take,Eg,if_neg (V.ps j hj)]
theorem Gy{m:Nat}{v:List NQ}{a:NQ}(V:kF m v)(ha:aC v.length a)(sa:au m a):BP m (kZ v) (dV a):=⟨fun _=>oU sa,by
 have l5:=V.l5;rw[gU]
 exact Nat.le_trans (ha.len (by omega)) (by decide)⟩
theorem JX{m:Nat}{v:List NQ}{a:NQ}(V:kF m v)(ha:aC v.length a):qG (kZ v) [dV a]=0:=by
 unfold qG;rw[if_neg (by rw[V.raw.2];simp)];refine j8 fun j hj=>?_;have hj:j<0+1:=hj;obtain rfl:j=0:=by omega
 rw[gT];exact mW ha
theorem ck2{m:Nat}{v:List NQ}{a b:NQ}(V:kF m v)(ha:aC v.length a)(hb:aC v.length b):qG (kZ v) [dV a,dV b]=0:=by
 unfold qG;rw[if_neg (by rw[V.raw.2];simp)];refine j8 fun j hj=>?_;have hj:j<0+2:=hj;rw[gT]
 match j,hj with
 | 0,_=>exact mW ha
 | 1,_=>exact mW hb
def qh(a:NQ):NQ:=aq (aK a)
def qO(a b:NQ):NQ:=aq (aS a b)
def n6(a b:NQ):NQ:=aq (aS a (aK b))
def eg(v:List NQ)(a b:NQ):NQ:=aq (bc v.length v a b)
theorem x8{l k:Nat}{a:NQ}(ha:aC l a)(sa:au k a):aC l (qh a)∧au k (qh a):=aX ha.minus sa.minus
theorem Hj{l k j:Nat}{a b:NQ}(ha:aC l a)(sa:au k a)(hb:aC l b)(sb:au j b):aC l (qO a b)∧au (k+j+1) (qO a b):=aX (ha.plus hb) (sa.plus sb)
theorem Gb{l k j:Nat}{a b:NQ}(ha:aC l a)(sa:au k a)(hb:aC l b)(sb:au j b):aC l (n6 a b)∧au (k+j+1) (n6 a b):=aX (ha.plus hb.minus) (sa.plus sb.minus)
theorem kF.pos{m:Nat}{v:List NQ}(V:kF m v):nB v:=fun j hj=>by
 have h:=V.ps j hj
 have e: ∀i,i<j→(v.take j).getD i []=v.getD i []:=fun i hi=>by
  rw[aG,List.getElem?_take_of_lt hi,aG]
 have ro:c7 (v.take j):=fun i hi=>by
  rw[aQ] at hi;rw[e i (by omega)];exact V.ro i (by omega)
 have lt:aC j (v.getD j []):= .inr ⟨j,ao _,V.ro j hj⟩;rw[eD j lt ro (by rw[aQ];omega)] at h
 have key: ∀(l:Nat) (a:Cf),l≤j→bd (v.take j) l a=bd v l a∧ ∀b:Cf,mulC (v.take j) l a b=mulC v l a b:=by
  intro l
  induction l with
  | zero=>exact fun a _=>⟨rfl,fun b=>rfl⟩
  | succ l ih =>
    intro a hl;have hm: ∀x y:Cf,mulC (v.take j) l x y=mulC v l x y:=fun x y=>(ih x (by omega)).2 y;have hs: ∀x:Cf,bd (v.take j) l x=bd v l x:=fun x=>(ih x (by omega)).1;refine⟨?_,fun b=>?_⟩
    · unfold bd b7;simp only[hm,hs,e l (by omega)]
    · funext i;show (if i<2^l then mulC (v.take j) l a b i+mulC (v.take j) l (mulC (v.take j) l (ck l a) (ck l b)) (cf ((v.take j).getD l [])) i else mulC (v.take j) l a (ck l b) (i-2^l)+mulC (v.take j) l (ck l a) b (i-2^l))=_;simp only[hm,e l (by omega)];rfl
 rw[(key j _ (ao _)).1] at h;omega
end Lift
namespace Lift
open Go Go.Proofs
def kM(R:NQ→NQ)(S:NQ→Int)(N:NQ→NQ)(T:NQ→NQ→NQ)(s:NQ):NQ :=
 if s.length=1 then [1 / s.getD 0 0] else
 if S (N s)=0 then R (aS (s.take (s.length / 2)) (s.take (s.length / 2))) else
 T (dJ (s.take (s.length / 2)) (aK (s.drop (s.length / 2))) (s.length / 2)) (R (N s))
def gZ:Nat→List NQ→NQ→NQ
 | 0,rt,a=>kM (fun _=>[]) (fun _=>0) (fun a=>a) (fun _ _=>[]) (aq a)
 | l+1,rt,a=>kM (gZ l rt) (ec l rt) (eS l rt) (bc (l+1) rt) (aq a)
def Jh(O:NQ→Prop)(R:NQ→NQ)(S:NQ→Int)(Sk:NQ→Prop)(N:NQ→NQ)(Nk:NQ→Prop)(Tk:NQ→NQ→Prop)(s:NQ):Prop:=s.length≠0∧(s.length≠1 →
 Nk s∧Sk (N s)∧(S (N s)=0→O (aS (s.take (s.length / 2)) (s.take (s.length / 2)))) ∧
 (S (N s)≠0→O (N s)∧Tk (dJ (s.take (s.length / 2)) (aK (s.drop (s.length / 2))) (s.length / 2)) (R (N s))))
def GF:Nat→List NQ→NQ→Prop
 | 0,rt,a=>my a∧(aq a).length≠0
 | l+1,rt,a=>my a∧Jh (GF l rt) (gZ l rt) (ec l rt) (Ex l rt) (eS l rt) (Ib l rt) (C5 (l+1) rt) (aq a)
theorem nI{l:Nat}{a:NQ}(ha:aC l a)(h:(aq a).length=1):(aq a).getD 0 0≠0:=(iP ha).one h
theorem Cp{l:Nat}{R:NQ→NQ}{S:NQ→Int}{N:NQ→NQ}{T:NQ→NQ→NQ}{s:NQ}(hs:aC l s)(h0:s.length≠0)
  (hR: ∀l',l=l'+1→ ∀b,aC l' b→aC l' (R b)) (hN: ∀l',l=l'+1→ ∀j,j≤l'→s.length=2^(j+1)→aC l' (N s)) (hT: ∀b c,aC l b→aC l c→aC l (T b c)):aC l (kM R S N T s):=by
 unfold kM;split
 · exact gl _ _
 rename_i h1
 obtain ⟨i,hi,hla2⟩: ∃i,i≤l∧s.length=2^i:=by
  rcases hs with e | e
  · omega
  · exact e
 have vZ:i≠0:=fun e=>h1 (by rw[hla2,e]);obtain ⟨j,rfl⟩: ∃j,i=j+1:=⟨i-1,by omega⟩;obtain ⟨l',rfl⟩: ∃l',l=l'+1:=⟨l-1,by omega⟩;obtain ⟨e1,e2,e3⟩:=bC hla2;have hx:aC l' (s.take (s.length / 2)):= .inr ⟨j,by omega,e1⟩;have hN:=hN l' rfl j (by omega) hla2;split
 · exact(hR l' rfl _ (hx.plus hx)).mono (by omega)
 · exact hT _ _ (.inr ⟨j+1,by omega,by rw[ei,e3,Nat.pow_succ];omega⟩) ((hR l' rfl _ hN).mono (by omega))
theorem fS: ∀(l:Nat) {rt:List NQ} {a:NQ},aC l a→c7 rt→l≤rt.length→aC l (gZ l rt a)
 | 0,rt,a,ha,hrt,hl=>by
   have hs:=bp ha;show aC 0 (kM _ _ _ _ _);by_cases h0:(aq a).length=0
   · rw[List.length_eq_zero_iff.1 h0];exact bn _
   · exact Cp hs h0 (fun l' h=>by omega) (fun l' h=>by omega) (fun _ _ _ _=>bn _)
 | l+1,rt,a,ha,hrt,hl=>by
   have hs:=bp ha;show aC (l+1) (kM _ _ _ _ _);by_cases h0:(aq a).length=0
   · rw[List.length_eq_zero_iff.1 h0];unfold kM;rw[if_neg (by decide)];split
     · exact(fS l (bn _) hrt (by omega)).mono (by omega)
     · exact fo (l+1) (bn _) ((fS l (by
        obtain ⟨K,k1,_,k3⟩:=wQ (eS l rt []) [] rt;unfold eS
        have t0: ∀c,aC l (bc l rt c []):=fun c=>by
         cases l with
         | zero=>show aC 0 (kf _ c []);unfold kf;rw[if_neg (show ¬c.length<([]:NQ).length from Nat.not_lt_zero _)];unfold jl;rw[if_pos (by show (bD c||true)=true;rw[Bool.or_true])];exact bn _
         | succ l=>show aC (l+1) (kf _ c []);unfold kf;rw[if_neg (show ¬c.length<([]:NQ).length from Nat.not_lt_zero _)];unfold jl;rw[if_pos (by show (bD c||true)=true;rw[Bool.or_true])];exact bn _
        have e:rt.getD (Nat.log2 ([]:NQ).length-1) []=rt.getD 0 []:=rfl;have hd:aC l (rt.getD 0 []):= .inr ⟨0,Nat.zero_le _,hrt 0 (by omega)⟩
        exact(t0 []).plus (fo l (t0 []) hd hrt (by omega)).minus) hrt (by omega)).mono (by omega)) hrt hl
   · exact Cp hs h0 (fun l' e b hb=>by
      obtain rfl:l=l':=by omega
      exact fS l hb hrt (by omega)) (fun l' e j h1 h2=>by
      obtain rfl:l=l':=by omega
      exact tD h1 h2 hrt (by omega)) (fun b c hb hc=>fo (l+1) hb hc hrt hl)
set_option maxHeartbeats 1600000 in
theorem z9{l:Nat}{O:NQ→Prop}{R:NQ→NQ}{S:NQ→Int}{Sk:NQ→Prop}{N:NQ→NQ}{Nk:NQ→Prop}{T:NQ→NQ→NQ}{Tk:NQ→NQ→Prop}{rt:List NQ}{a:NQ}(ha:aC l a)(hl5:l≤5)(hl:l≤rt.length)(hl10:rt.length≤10)(sa:my a)(h0:(aq a).length≠0)
  (hok:l≠0→Jh O R S Sk N Nk Tk (aq a))
  (hR: ∀l',l=l'+1→ ∀b,aC l' b→O b→Pure Tryz.prog 131 [bA rt,ai b] (ai (R b)))
  (hRl: ∀l',l=l'+1→ ∀b,aC l' b→aC l' (R b))
  (hS: ∀l',l=l'+1→ ∀b,aC l' b→Sk b→Pure Tryz.prog 64 [bA rt,ai b] (dI (S b)))
  (hN: ∀l',l=l'+1→ ∀b j,j≤l'→b.length=2^(j+1)→Nk b→Pure Tryz.prog 109 [bA rt,ai b] (ai (N b))∧aC l' (N b))
  (hT: ∀b c,aC l b→aC l c→Tk b c→Pure Tryz.prog 63 [bA rt,ai b,ai c] (ai (T b c))):
  Pure Tryz.prog 131 [bA rt,ai a] (ai (kM R S N T (aq a))):=by
 refine qJ 57 Tryz.func131 rfl rfl rfl rfl (by kernel_rfl) (fun B F0 w0=>?_);have cs:=cH a ha hl5 sa (by omega);have hone:=nI ha;obtain ⟨ha,sa⟩:=aX ha sa;generalize aq a=b at cs ha sa hok hone h0 ⊢;have hlb:=ha.len (by omega);unfold kM;refine qX 2 rfl ?_;refine qK 1 rfl ?_;refine ab.call tok rfl rfl rfl rfl cs ?_;refine qU 1 rfl ?_;refine qI (qX 2 rfl ?_);rw[ae];refine qU 1 rfl ?_;refine ab.nil ?_;by_cases h1:b.length=1
 · have g:=kN (r:=b) (i:=0) (by omega);have cq:=tc (Qr 1) (Qr (b.getD 0 0)) (jt 1 (by have:=nD;omega)) (jt _ (sa 0)) (by omega) (by rw[cE];exact hone h1);rw[cE,cE] at cq;rw[if_pos h1,beq_iff_eq.2 (show (b.length:Int)=1 by omega)];refine AW.aL rfl ?_;refine AW.seq (AW.oI tok aP [(7,true),(1,false),(1,true)] 9 [5] (by kernel_rfl) ⟨rfl,?_⟩);refine af.call tok rfl rfl rfl rfl rfl (j5 1 (by decide) (by decide)) ?_;refine qP 1 rfl ?_;refine af.idx tok (Qr (b.getD 0 0)).D rfl rfl rfl rfl rfl (Int.le_refl _) g ?_;refine qP 1 rfl ?_;refine af.call tok rfl rfl rfl rfl rfl cq ?_;refine qP 2 rfl ?_;refine af.nil ⟨rfl,?_⟩;refine qP 1 rfl ?_;refine af.nil ⟨rfl,?_⟩;refine qP 1 rfl ?_;refine af.nil ⟨_,py.cons (.bx rfl) (py.nil),?_⟩;refine qU 1 rfl ?_;refine qK 1 rfl ?_;refine ab.e7 tok rfl rfl rfl rfl rfl ?_;refine qU 1 rfl ?_;exact qN rfl
 rw[if_neg h1,beq_eq_false_iff_ne.2 (show (b.length:Int)≠1 by omega)];refine AW.aB rfl ?_;refine AW.skip ?_
 obtain ⟨i,hi,hla2⟩: ∃i,i≤l∧b.length=2^i:=by
  rcases ha with e | e
  · omega
  · exact e
 have vZ:i≠0:=fun e=>h1 (by rw[hla2,e]);obtain ⟨j,rfl⟩: ∃j,i=j+1:=⟨i-1,by omega⟩;obtain ⟨l',rfl⟩: ∃l',l=l'+1:=⟨l-1,by omega⟩;have hj:j≤l':=by omega
 obtain ⟨_,o1⟩:=hok (by omega);obtain ⟨oN,oS,oz,oi⟩:=o1 h1;have hN:=hN l' rfl b j hj hla2 oN;have hS:=hS l' rfl _ hN.2 oS;obtain ⟨e1,e2,e3⟩:=bC hla2;obtain ⟨n,hn⟩: ∃n,n=b.length / 2:=⟨_,rfl⟩;rw[← hn] at e1 e2 e3 oz oi ⊢
 have hn2:b.length=n+n:=by
  have:2^(j+1)=2^j*2:=Nat.pow_succ ..;omega
 have hx:aC l' (b.take n):= .inr ⟨j,hj,e1⟩;have hy:aC l' (b.drop n):= .inr ⟨j,hj,e2⟩;refine qX 2 rfl ?_;rw[ae];refine ab.div tok rfl rfl rfl rfl (by decide) ?_;rw[gL _ (by omega),← hn];refine qU 1 rfl ?_;refine qK 2 rfl ?_;refine ab.call tok rfl rfl rfl rfl hN.1 ?_;refine qU 1 rfl ?_;refine qI (qX 2 rfl ?_);refine ab.call tok rfl rfl rfl rfl hS ?_;refine qU 1 rfl ?_;refine ab.nil ?_;by_cases hz:S (N b)=0
 · have ci:=hR l' rfl _ (hx.plus hx) (oz hz);have cp:=dL (b.take n) (b.take n) (sa.take n) (sa.take n) (by omega) (by rw[e1];omega) (by rw[e1];omega);rw[if_pos hz,beq_iff_eq.2 hz];refine AW.aL rfl ?_;refine AW.seq (AW.draw aP 9 (by kernel_rfl) ?_);refine qP 3 rfl ?_;refine af.fW tok (a:=b) (b.take n) rfl rfl rfl rfl rfl trivial (aj n) (Nat.zero_le _) (show n≤b.length by omega) rfl ?_;refine qP 2 rfl ?_;refine af.fW tok (a:=b) (b.take n) rfl rfl rfl rfl rfl trivial (aj n) (Nat.zero_le _) (show n≤b.length by omega) rfl ?_;refine af.call tok rfl rfl rfl rfl rfl cp ?_;refine af.call tok rfl rfl rfl rfl rfl ci ?_;refine af.nil ?_;refine qU 1 rfl ?_;exact qN rfl
 obtain ⟨o2,o3⟩:=oi hz;have ci:=hR l' rfl _ hN.2 o2;have cm:=fm (b.drop n) (sa.drop n) (by omega) (by rw[e2];omega);have cj:=kJ (b.take n) (aK (b.drop n)) n (by omega);have ct:=hT _ _ (.inr ⟨j+1,by omega,by rw[ei,e3,Nat.pow_succ];omega⟩) ((hRl l' rfl _ hN.2).mono (by omega)) o3;rw[if_neg hz,beq_eq_false_iff_ne.2 hz];refine AW.aB rfl ?_;refine AW.skip (AW.seq ?_);refine AW.draw aP 14 (by kernel_rfl) ?_;refine qP 3 rfl ?_;refine af.fW tok (a:=b) (b.take n) rfl rfl rfl rfl rfl trivial (aj n) (Nat.zero_le _) (show n≤b.length by omega) rfl ?_;refine qP 2 rfl ?_;refine af.fW tok (a:=b) (b.drop n) rfl rfl rfl rfl rfl (aj n) trivial (show n≤b.length by omega) (ao _) (by show (b.take b.length).drop n=_;rw[List.take_length]) ?_;refine af.call tok rfl rfl rfl rfl rfl cm ?_;refine qP 1 rfl ?_;refine af.call tok rfl rfl rfl rfl rfl cj ?_;refine qP 2 rfl ?_;refine af.call tok rfl rfl rfl rfl rfl ci ?_;refine af.call tok rfl rfl rfl rfl rfl ct ?_;refine af.nil ?_;refine qU 1 rfl ?_;exact qN rfl
theorem GF.sz{l:Nat}{rt:List NQ}{a:NQ}(h:GF l rt a):my a:=by
 cases l with
 | zero=>exact h.1
 | succ l=>exact h.1
theorem GF.ne{l:Nat}{rt:List NQ}{a:NQ}(h:GF l rt a):(aq a).length≠0:=by
 cases l with
 | zero=>exact h.2
 | succ l=>exact h.2.1
theorem kn: ∀(l:Nat) {rt:List NQ} {a:NQ},aC l a→l≤5→c7 rt→l≤rt.length→rt.length≤10→GF l rt a→Pure Tryz.prog 131 [bA rt,ai a] (ai (gZ l rt a))
 | 0,rt,a,ha,hl5,hrt,hl,hl10,hok=>z9 (O:=fun _=>True) (Sk:=fun _=>True) (Nk:=fun _=>True) (Tk:=fun _ _=>False) ha hl5 hl hl10 hok.1 hok.2 (fun h=>absurd rfl h) (fun l' h=>by omega) (fun l' h=>by omega) (fun l' h=>by omega) (fun l' h=>by omega) (fun _ _ _ _ h=>h.elim)
 | l+1,rt,a,ha,hl5,hrt,hl,hl10,hok=>z9 (O:=GF l rt) (Sk:=Ex l rt) (Nk:=Ib l rt) (Tk:=C5 (l+1) rt) ha hl5 hl hl10 hok.1 hok.2.1 (fun _=>hok.2) (fun l' e b h1 h2=>by
    obtain rfl:l=l':=by omega
    exact kn l h1 (by omega) hrt (by omega) hl10 h2) (fun l' e b h1=>by
    obtain rfl:l=l':=by omega
    exact fS l h1 hrt (by omega)) (fun l' e b h1 h2=>by
    obtain rfl:l=l':=by omega
    exact dY l h1 (by omega) hrt (by omega) hl10 h2) (fun l' e b j h1 h2 h3=>by
    obtain rfl:l=l':=by omega
    exact⟨mI h1 h2 hrt (by omega) hl10 h3,tD h1 h2 hrt (by omega)⟩) (fun b c h1 h2 h3=>cU (l+1) h1 h2 hrt hl hl10 h3)
end Lift
namespace Lift
open Go Go.Proofs
def lL(v:List NQ):Prop:= ∃m,kF m v
theorem kF.a{m:Nat}{v:List NQ}(V:kF m v):lL v:=⟨m,V⟩
theorem lL.l5{v:List NQ}(V:lL v):v.length≤5:=V.elim fun _ V=>V.l5
theorem lL.ro{v:List NQ}(V:lL v):c7 v:=V.elim fun _ V=>V.ro
theorem lL.pos{v:List NQ}(V:lL v):nB v:=V.elim fun _ V=>V.pos
def mG(v:List NQ)(a b:NQ):NQ:=aq (bc v.length v a (gZ v.length v b))
def jI(v:List NQ)(a:NQ):Int:=ec v.length v a
def uM(v:List NQ)(a b:NQ):Prop:=my a∧my b∧C5 v.length v a b∧my (bc v.length v a b)
def zP(a b:NQ):Prop:=my a∧my b∧my (aS a b)
def Et(a b:NQ):Prop:=my a∧my b∧my (aS a (aK b))
def Ez(v:List NQ)(a b:NQ):Prop:=my a∧my b∧Ex v.length v b∧jI v b≠0∧GF v.length v b∧C5 v.length v a (gZ v.length v b)∧my (bc v.length v a (gZ v.length v b))
def uK(v:List NQ)(a:NQ):Prop:=Ex v.length v a
theorem uK.sz{v:List NQ}{a:NQ}(h:uK v a):my a:=Ex.sz h
theorem CH{v:List NQ}(V:lL v)(l:List NQ)(hl:l.length≤1000000)(h: ∀i,i<l.length→aC v.length (l.getD i [])∧my (l.getD i [])):Pure Tryz.prog 61 [bA v,.sl 1 (l.map ai)] aN:=by
 obtain ⟨m,V⟩:=V;obtain ⟨m0,t1,t2,tw,tk⟩:=V.raw.1.t;have l5:=V.l5
 have g: ∀i,(l.map dV).getD i []=dV (l.getD i []):=fun i=>by
  rw[aG,List.getElem?_map,aG];cases l[i]? with
  | none=>rfl
  | some x=>rfl
 have c:=mw (kZ v) (l.map dV) (mn:=17300000000000) tw t1 V.raw.1.l V.raw.1.ll tk (fun i hi=>by
  rw[ae] at hi;rw[g];exact fun _=>oU (h i hi).2) (by rw[ae];exact hl) (fun i hi=>by
  rw[ae] at hi
  rw[g,gU];exact Nat.le_trans ((h i hi).1.len (by omega)) (by decide)) (by omega)
 have e:qG (kZ v) (l.map dV)=0:=by
  unfold qG;rw[if_neg (by rw[V.raw.2];simp)];refine j8 fun j hj=>?_;rw[ae] at hj;rw[gT,g];exact mW (h j (by omega)).1
 rw[e,mV,List.map_map,show (dn ∘ dV)=ai from funext oV] at c;exact c
theorem Aq{v:List NQ}{a:NQ}(V:lL v)(ha:aC v.length a)(sa:my a):Pure Tryz.prog 61 [bA v,.sl 1 [ai a]] aN :=
 CH V [a] (show 1≤1000000 by decide) (fun i hi=>by
  have:i<1:=hi;obtain rfl:i=0:=by omega
  exact⟨ha,sa⟩)
theorem nu{v:List NQ}{a b:NQ}(V:lL v)(ha:aC v.length a)(sa:my a)(hb:aC v.length b)(sb:my b):Pure Tryz.prog 61 [bA v,.sl 1 [ai a,ai b]] aN :=
 CH V [a,b] (show 2≤1000000 by decide) (fun i hi=>by
  have:i<2:=hi
  match i,this with
  | 0,_=>exact⟨ha,sa⟩
  | 1,_=>exact⟨hb,sb⟩)
theorem AL{v:List NQ}{a:NQ}(V:lL v)(ha:aC v.length a)(sa:my a):Pure Tryz.prog 91 [bA v,ai a] (.tu [ai (qh a),aN]):=by
 refine qJ 17 Tryz.func91 rfl rfl rfl rfl (by kernel_rfl) (fun B0 F0 w0=>?_);have hl5:=V.l5;have hro:=V.ro;have cc:=Aq V ha sa;have c1:=fm a sa (by omega) (Nat.le_trans (ha.len (by omega)) (by decide));have c2:=cH (aK a) ha.minus hl5 sa.minus (by omega);refine qX 3 rfl ?_;refine qI (qX 2 rfl ?_);refine ab.e7 tok rfl rfl rfl rfl rfl ?_;refine ab.call tok rfl rfl rfl rfl cc ?_;refine qU 1 rfl ?_;refine qK 1 rfl ?_;refine ab.err tok rfl rfl rfl rfl rfl ?_;refine ab.nil ?_;refine AW.aB rfl ?_
 · refine AW.skip (qX 1 rfl ?_);refine ab.call tok rfl rfl rfl rfl c1 ?_;refine ab.call tok rfl rfl rfl rfl c2 ?_;refine qU 2 rfl ?_;exact qN rfl
theorem AO{v:List NQ}{a:NQ}{b:NQ}(V:lL v)(ha:aC v.length a)(hb:aC v.length b)(ok:zP a b):Pure Tryz.prog 101 [bA v,ai a,ai b] (.tu [ai (qO a b),aN]):=by
 refine qJ 21 Tryz.func101 rfl rfl rfl rfl (by kernel_rfl) (fun B0 F0 w0=>?_);have hl5:=V.l5;have hro:=V.ro;obtain ⟨sa,sb,sc⟩:=ok;have cc:=nu V ha sa hb sb;have c1:=dL a b sa sb (by omega) (Nat.le_trans (ha.len (by omega)) (by decide)) (Nat.le_trans (hb.len (by omega)) (by decide));have c2:=cH (aS a b) (ha.plus hb) hl5 sc (by omega);refine qX 3 rfl ?_;refine qI (qX 3 rfl ?_);refine ab.e7 tok rfl rfl rfl rfl rfl ?_;refine ab.call tok rfl rfl rfl rfl cc ?_;refine qU 1 rfl ?_;refine qK 1 rfl ?_;refine ab.err tok rfl rfl rfl rfl rfl ?_;refine ab.nil ?_;refine AW.aB rfl ?_
 · refine AW.skip (qX 2 rfl ?_);refine ab.call tok rfl rfl rfl rfl c1 ?_;refine ab.call tok rfl rfl rfl rfl c2 ?_;refine qU 2 rfl ?_;exact qN rfl
theorem AK{v:List NQ}{a:NQ}{b:NQ}(V:lL v)(ha:aC v.length a)(hb:aC v.length b)(ok:Et a b):Pure Tryz.prog 132 [bA v,ai a,ai b] (.tu [ai (n6 a b),aN]):=by
 refine qJ 22 Tryz.func132 rfl rfl rfl rfl (by kernel_rfl) (fun B0 F0 w0=>?_);have hl5:=V.l5;have hro:=V.ro;obtain ⟨sa,sb,sc⟩:=ok;have cc:=nu V ha sa hb sb;have c0:=fm b sb (by omega) (Nat.le_trans (hb.len (by omega)) (by decide));have c1:=dL a (aK b) sa sb.minus (by omega) (Nat.le_trans (ha.len (by omega)) (by decide)) (Nat.le_trans (hb.minus.len (by omega)) (by decide));have c2:=cH (aS a (aK b)) (ha.plus hb.minus) hl5 sc (by omega);refine qX 3 rfl ?_;refine qI (qX 3 rfl ?_);refine ab.e7 tok rfl rfl rfl rfl rfl ?_;refine ab.call tok rfl rfl rfl rfl cc ?_;refine qU 1 rfl ?_;refine qK 1 rfl ?_;refine ab.err tok rfl rfl rfl rfl rfl ?_;refine ab.nil ?_;refine AW.aB rfl ?_
 · refine AW.skip (qX 2 rfl ?_);refine ab.call tok rfl rfl rfl rfl c0 ?_;refine ab.call tok rfl rfl rfl rfl c1 ?_;refine ab.call tok rfl rfl rfl rfl c2 ?_;refine qU 2 rfl ?_;exact qN rfl
theorem oP{v:List NQ}{a:NQ}{b:NQ}(V:lL v)(ha:aC v.length a)(hb:aC v.length b)(ok:uM v a b):Pure Tryz.prog 28 [bA v,ai a,ai b] (.tu [ai (eg v a b),aN]):=by
 refine qJ 22 Tryz.func28 rfl rfl rfl rfl (by kernel_rfl) (fun B0 F0 w0=>?_);have hl5:=V.l5;have hro:=V.ro;obtain ⟨sa,sb,st,sc⟩:=ok;have cc:=nu V ha sa hb sb;have c1:=cU v.length ha hb hro (ao _) (by omega) st;have c2:=cH _ (fo v.length ha hb hro (ao _)) hl5 sc (by omega);refine qX 3 rfl ?_;refine qI (qX 3 rfl ?_);refine ab.e7 tok rfl rfl rfl rfl rfl ?_;refine ab.call tok rfl rfl rfl rfl cc ?_;refine qU 1 rfl ?_;refine qK 1 rfl ?_;refine ab.err tok rfl rfl rfl rfl rfl ?_;refine ab.nil ?_;refine AW.aB rfl ?_
 · refine AW.skip (qX 3 rfl ?_);refine ab.call tok rfl rfl rfl rfl c1 ?_;refine ab.call tok rfl rfl rfl rfl c2 ?_;refine qU 2 rfl ?_;exact qN rfl
theorem AM{v:List NQ}{a:NQ}{b:NQ}(V:lL v)(ha:aC v.length a)(hb:aC v.length b)(ok:Ez v a b):Pure Tryz.prog 89 [bA v,ai a,ai b] (.tu [ai (mG v a b),aN]):=by
 refine qJ 29 Tryz.func89 rfl rfl rfl rfl (by kernel_rfl) (fun B0 F0 w0=>?_);have hl5:=V.l5;have hro:=V.ro;obtain ⟨sa,sb,sg,s0,si,st,sc⟩:=ok;have cc:=nu V ha sa hb sb;have hi:=fS v.length hb hro (ao _);have c0:=dY v.length hb hl5 hro (ao _) (by omega) sg;have c1:=kn v.length hb hl5 hro (ao _) (by omega) si;have c2:=cU v.length ha hi hro (ao _) (by omega) st;have c3:=cH _ (fo v.length ha hi hro (ao _)) hl5 sc (by omega);change ec v.length v b≠0 at s0;unfold mG;generalize ec v.length v b=z at c0 s0;refine qX 3 rfl ?_;refine qI (qX 3 rfl ?_);refine ab.e7 tok rfl rfl rfl rfl rfl ?_;refine ab.call tok rfl rfl rfl rfl cc ?_;refine qU 1 rfl ?_;refine qK 1 rfl ?_;refine ab.err tok rfl rfl rfl rfl rfl ?_;refine ab.nil ?_;refine AW.aB rfl ?_
 · refine AW.skip (AW.seq ?_);refine qX 2 rfl ?_;refine ab.call tok rfl rfl rfl rfl c0 ?_;refine qU 1 rfl ?_;refine ab.nil ?_;rw[beq_eq_false_iff_ne.2 s0];refine AW.aB rfl ?_
   · refine AW.skip (AW.seq ?_);refine AW.draw aP 7 (by kernel_rfl) ?_;refine qP 4 rfl ?_;refine af.call tok rfl rfl rfl rfl rfl c1 ?_;refine af.call tok rfl rfl rfl rfl rfl c2 ?_;refine af.call tok rfl rfl rfl rfl rfl c3 ?_;refine af.nil ?_;refine qU 2 rfl ?_;exact qN rfl
theorem rY{v:List NQ}{a:NQ}(V:lL v)(ha:aC v.length a)(ok:uK v a):Pure Tryz.prog 29 [bA v,ai a] (.tu [dI (jI v a),aN]):=by
 refine qJ 17 Tryz.func29 rfl rfl rfl rfl (by kernel_rfl) (fun B0 F0 w0=>?_);have hl5:=V.l5;have hro:=V.ro;have cc:=Aq V ha ok.sz;have c1:=dY v.length ha hl5 hro (ao _) (by omega) ok;refine qX 3 rfl ?_;refine qI (qX 2 rfl ?_);refine ab.e7 tok rfl rfl rfl rfl rfl ?_;refine ab.call tok rfl rfl rfl rfl cc ?_;refine qU 1 rfl ?_;refine qK 1 rfl ?_;refine ab.err tok rfl rfl rfl rfl rfl ?_;refine ab.nil ?_;refine AW.aB rfl ?_
 · refine AW.skip (qX 2 rfl ?_);refine ab.call tok rfl rfl rfl rfl c1 ?_;refine qU 2 rfl ?_;exact qN rfl
end Lift
namespace Lift
theorem AY(x:Rat)(h:0<x):kR x=1:=by
 have:=pO.2 h;rcases gC x with e | e | e<;>omega
theorem H5(x:Rat)(h:x<0):kR x= -1:=by
 have:=xF.2 h;rcases gC x with e | e | e<;>omega
theorem CZ(x y:Rat):kR (x*y)=kR x*kR y:=by
 have key: ∀{x y:Rat},0<x→kR (x*y)=kR y:=fun {x y} hx=>by
  rcases gC y with e | e | e
  · rw[iS.1 e,Rat.mul_zero]
  · have h:=Rat.mul_pos hx (pO.1 (show 0<kR y by omega));rw[e,AY _ h]
  · have h:=Rat.mul_pos hx (show 0< -y from by have:=xF.1 (show kR y<0 by omega);grind);rw[e,H5]
    grind
 rcases gC x with e | e | e
 · rw[iS.1 e,Rat.zero_mul,iS.2 rfl,Int.zero_mul]
 · rw[e,Int.one_mul];exact key (pO.1 (by omega))
 · have hx:0< -x:=by have:=xF.1 (show kR x<0 by omega);grind
   have h:=key (y:=y) hx;have h2:=uf (x*y);rw[show -(x*y)= -x*y by grind,h] at h2;rw[e];omega
def qa:Cf:=fun i=>if i=0 then 1 else 0
def Jb:OR where
 T:=Rat
 add:=(· + ·)
 mul:=(· * ·)
 neg:=(- ·)
 z:=0
 o:=1
 ac:=Rat.add_comm
 aa:=Rat.add_assoc
 az:=Rat.add_zero
 an:=Rat.add_neg_cancel
 mc:=Rat.mul_comm
 ma:=Rat.mul_assoc
 mo:=Rat.mul_one
 md:=Rat.mul_add
 sgn:=kR
 s3 x:=by rcases gC x with h | h | h<;>omega
 sn:=uf
 sm:=CZ
 sp x y hx hy:=by
  have h1:=pO.1 (show 0<kR x by omega);have h2:=pO.1 (show 0<kR y by omega);exact AY _ (by grind)
 s0 x y hx:=by
  rw[iS.1 hx];show kR (0+y)=kR y;rw[Rat.zero_add]
 s1:=AY 1 (by decide)
theorem Eh(x:Rat)(h:x≠0):kR (x*x⁻¹ + -1)=0:=by
 rw[Rat.mul_inv_cancel _ h];exact iS.2 (Rat.add_neg_cancel 1)
theorem Ei:Jb.Inv:=fun x hx=>⟨_,Eh x (fun e=>hx (iS.2 e))⟩
structure IZ (v:List NQ) (l:Nat) where
 R:OR
 of:Cf→R.T
 inv:R.Inv
 add: ∀a b:Cf,of (fun i=>a i+b i)=of a+of b
 neg: ∀a:Cf,of (fun i=> -a i)= -of a
 mul: ∀a b:Cf,of (mulC v l a b)=of a*of b
 one:of qa=1
 zero:of zC=0
 sgn: ∀a:Cf,R.sgn (of a)=bd v l a
 inj: ∀a b:Cf,of a=of b→kj l a b
 cong: ∀a b:Cf,kj l a b→of a=of b
theorem IZ.sub{v:List NQ}{l:Nat}(T:IZ v l)(a b:Cf):T.of (fun i=>a i-b i)=T.of a-T.of b:=by
 rw[Rg.sub_def,← T.neg,← T.add]
 congr 1
 funext i;exact Rat.sub_eq_add_neg ..
def J1(v:List NQ):IZ v 0 where
 R:=Jb
 of a:=a 0
 inv:=Ei
 add _ _:=rfl
 neg _:=rfl
 mul a b:=by
  show (if (0:Nat)=0 then a 0*b 0 else 0)=_;rw[if_pos rfl];rfl
 one:=rfl
 zero:=rfl
 sgn _:=rfl
 inj a b h i hi:=by
  obtain rfl:i=0:=by have:i<1:=hi;omega
  exact h
 cong a b h:=h 0 (by decide)
theorem EV(l:Nat):ck l zC=zC:=rfl
theorem G1(l:Nat):ck l qa=zC:=funext fun i=>by
 have hp:0<2^l:=Nat.pow_pos (by decide);show (if 2^l+i=0 then (1:Rat) else 0)=0;rw[if_neg (by omega)]
def HS{v:List NQ}{l:Nat}(T:IZ v l)(hd:0≤bd v l (cf (v.getD l []))):IZ v (l+1) where
 R:=T.R.ext (T.of (cf (v.getD l []))) (by rw[T.sgn];exact hd)
 of a:=(T.of a,T.of (ck l a))
 inv:=OR.G6 T.inv _
 add a b:=Prod.ext (T.add a b) (T.add (ck l a) (ck l b))
 neg a:=Prod.ext (T.neg a) (T.neg (ck l a))
 mul a b:=by
  refine Prod.ext ?_ ?_
  · show T.of (mulC v (l+1) a b)=T.of a*T.of b+T.of (ck l a)*T.of (ck l b)*T.of (cf (v.getD l []));rw[← T.mul,← T.mul,← T.mul,← T.add];refine T.cong _ _ fun i hi=>?_;show (if i<2^l then _ else _)=_;rw[if_pos hi]
  · show T.of (ck l (mulC v (l+1) a b))=T.of a*T.of (ck l b)+T.of (ck l a)*T.of b;rw[← T.mul,← T.mul,← T.add];refine T.cong _ _ fun i hi=>?_;show (if 2^l+i<2^l then _ else _)=_;rw[if_neg (by omega),Nat.add_sub_cancel_left]
 one:=Prod.ext T.one (by show T.of (ck l qa)=0;rw[G1,T.zero])
 zero:=Prod.ext T.zero (by show T.of (ck l zC)=0;rw[EV,T.zero])
 sgn a:=by
  show OR.es T.R (T.of (cf (v.getD l []))) (T.of a,T.of (ck l a))=bd v (l+1) a;unfold OR.es bd;simp only[];rw[T.sgn,T.sgn,T.sgn,← T.mul,← T.mul,← T.mul,← T.sub,T.sgn];rfl
 inj a b h i hi:=by
  have h1:=T.inj _ _ (congrArg Prod.fst h);have h2:=T.inj _ _ (congrArg Prod.snd h);by_cases c:i<2^l
  · exact h1 i c
  · rw[Nat.pow_succ] at hi;have:=h2 (i-2^l) (by omega);have:a (2^l+(i-2^l))=b (2^l+(i-2^l)):=this
    rwa [show 2^l+(i-2^l)=i by omega] at this
 cong a b h:=Prod.ext (T.cong _ _ h.down) (T.cong _ _ h.hi)
theorem IW{v:List NQ}(hp:nB v): ∀l,l≤v.length→Nonempty (IZ v l)
 | 0,_=>⟨J1 v⟩
 | l+1,hl=>by
   obtain ⟨T⟩:=IW hp l (by omega);exact⟨HS T (hp l (by omega))⟩
theorem zM(l:Nat):c8 l qa:=fun i hi=>by
 have hp:0<2^l:=Nat.pow_pos (by decide);exact if_neg (by omega)
def n7(a b:Cf):Cf:=fun i=>a i-b i
theorem c8.sub{l:Nat}{a b:Cf}(ha:c8 l a)(hb:c8 l b):c8 l (n7 a b):=fun i hi=>by
 show a i-b i=0;rw[ha i hi,hb i hi];exact Rat.sub_self
theorem Ip{v:List NQ}(hrt:c7 v)(hp:nB v): ∀(l:Nat) {a:NQ},aC l a→l≤v.length→bd v l (cf a)≠0→bd v l (n7 (mulC v l (cf a) (cf (gZ l v a))) qa)=0:=by
 have one: ∀(l:Nat) (s:NQ),l≤v.length→s.length=1→s.getD 0 0≠0→bd v l (n7 (mulC v l (cf s) (cf [1 / s.getD 0 0])) qa)=0:=fun l s hl h1 h0=>by
  have e:mulC v l (cf s) (cf [1 / s.getD 0 0])=qa:=by
   rw[du v (aZ (a:=s) (l:=0) (by rw[h1];exact ao _)) (aZ (a:=[1 / s.getD 0 0]) (l:=0) (by exact ao _)) (Nat.zero_le l)];funext i;show (if i=0 then s.getD 0 0*(1 / s.getD 0 0) else 0)=if i=0 then 1 else 0
   split
   · rw[Rat.div_def,Rat.one_mul,Rat.mul_inv_cancel _ h0]
   · rfl
  rw[e,show n7 qa qa=zC from funext fun i=>Rat.sub_self];exact gB v l
 intro l
 induction l with
 | zero =>
   intro a ha hl h;have hs:=bp ha;have hc:=bJ ha;have ho:=nI ha;show bd v 0 (n7 (mulC v 0 (cf a) (cf (kM _ _ _ _ (aq a)))) qa)=0;rw[← hc] at h ⊢;generalize aq a=s at *;rcases hs with e | ⟨i,hi,e⟩
   · rw[List.length_eq_zero_iff.1 e] at h;exact absurd (gB v 0) h
   · obtain rfl:i=0:=by omega
     unfold kM;rw[if_pos e];exact one 0 s (Nat.zero_le _) e (ho e)
 | succ l ih =>
   intro a ha hl h;have hs:=bp ha;have hc:=bJ ha;have ho:=nI ha;show bd v (l+1) (n7 (mulC v (l+1) (cf a) (cf (kM (gZ l v) (ec l v) (eS l v) (bc (l+1) v) (aq a)))) qa)=0;rw[← hc] at h ⊢;generalize aq a=s at *;by_cases h0:s.length=0
   · rw[List.length_eq_zero_iff.1 h0] at h;exact absurd (gB v (l+1)) h
   unfold kM;by_cases h1:s.length=1
   · rw[if_pos h1];exact one (l+1) s hl h1 (ho h1)
   rw[if_neg h1]
   obtain ⟨j,hj,hsl⟩: ∃j,j≤l∧s.length=2^(j+1):=by
    rcases hs with e | ⟨i,hi,e⟩
    · exact absurd e h0
    · rcases i with _ | j
      · exact absurd e h1
      · exact⟨j,by omega,e⟩
   obtain ⟨e1,e2,e3⟩:=bC hsl;have hx:aC l (s.take (s.length / 2)):= .inr ⟨j,hj,e1⟩;have hy:aC l (s.drop (s.length / 2)):= .inr ⟨j,hj,e2⟩;have hn:=kA hj hsl hrt (by omega);have ex:kj j (cf (s.take (s.length / 2))) (cf s):=fh _ e3;have ey:cf (s.drop (s.length / 2))=ck j (cf s):=jA _ e3
   have lowN:c8 j (b7 v j (cf s)):=fun i hi=>by
    unfold b7;rw[bf v j _ _ i hi,bf v j _ _ i hi];exact Rat.sub_self
   have ls:c8 (j+1) (cf s):=aZ (by omega);have lx:c8 j (cf (s.take (s.length / 2))):=aZ (by omega);obtain ⟨Tj⟩:=IW hp j (by omega);have hdj:=hp j (by omega)
   let T:=HS Tj hdj
   obtain ⟨Tl⟩:=IW hp l (by omega);obtain ⟨TL⟩:=IW hp (l+1) hl;rw[eD l hn.1 hrt (by omega),hn.2,bY v lowN hj];rw[bY v ls (by omega)] at h
   have hT:Tj.R.sgn (OR.nr (Tj.of (cf (v.getD j []))) (T.of (cf s)))=bd v j (b7 v j (cf s)):=by
    rw[← Tj.sgn]
    congr 1
    show Tj.of (cf s)*Tj.of (cf s) -Tj.of (ck j (cf s))*Tj.of (ck j (cf s))*Tj.of (cf (v.getD j []))=Tj.of (b7 v j (cf s));rw[← Tj.mul,← Tj.mul,← Tj.mul,← Tj.sub];rfl
   by_cases hN:bd v j (b7 v j (cf s))=0
   · rw[if_pos hN];have hxx:aC l (aS (s.take (s.length / 2)) (s.take (s.length / 2))):=hx.plus hx;have cxx:cf (aS (s.take (s.length / 2)) (s.take (s.length / 2)))=fun i=>cf (s.take (s.length / 2)) i+cf (s.take (s.length / 2)) i:=funext fun i=>fO _ _ i
     have lxx:c8 j (cf (aS (s.take (s.length / 2)) (s.take (s.length / 2)))):=by
      rw[cxx];exact fun i hi=>by
       show _+_=(0:Rat);rw[lx i hi];exact Rat.add_zero 0
     have F:T.R.sgn (-Tj.of (cf s),Tj.of (ck j (cf s)))=0∧Tj.R.sgn (Tj.of (cf s)+Tj.of (cf s))≠0:=by
      have hes:T.R.sgn (T.of (cf s))≠0:=by rw[T.sgn];exact h
      exact OR.Fm (R:=Tj.R) (d:=Tj.of (cf (v.getD j []))) (by rw[Tj.sgn];exact hdj) hes (by
       have h5:=hT;rw[hN] at h5;exact h5)
     have hr:=ih hxx (by omega) (by
      rw[bY v lxx hj,← Tj.sgn,cxx,Tj.add,Tj.cong _ _ ex]
      exact F.2)
     obtain ⟨r,hrr⟩: ∃r,gZ l v (aS (s.take (s.length / 2)) (s.take (s.length / 2)))=r:=⟨_,rfl⟩;have hrl:aC l r:=by rw[← hrr];exact fS l hxx hrt (by omega)
     rw[hrr] at hr ⊢
     have g1:bd v (l+1) (n7 (cf s) (cf (aS (s.take (s.length / 2)) (s.take (s.length / 2)))))=0:=by
      rw[bY v (ls.sub (lxx.mono (by omega))) (by omega),← T.sgn]
      have:T.of (n7 (cf s) (cf (aS (s.take (s.length / 2)) (s.take (s.length / 2)))))=(-Tj.of (cf s),Tj.of (ck j (cf s))):=by
       refine Prod.ext ?_ ?_
       · show Tj.of (n7 (cf s) (cf (aS (s.take (s.length / 2)) (s.take (s.length / 2)))))= -Tj.of (cf s);rw[show Tj.of (n7 (cf s) (cf (aS (s.take (s.length / 2)) (s.take (s.length / 2)))))=Tj.of (cf s) -Tj.of (cf (aS (s.take (s.length / 2)) (s.take (s.length / 2)))) from Tj.sub _ _,cxx,Tj.add,Tj.cong _ _ ex];exact Rg.jn [Tj.of (cf s)] (X0-(X0+X0)) (-X0) rfl
       · show Tj.of (ck j (n7 (cf s) (cf (aS (s.take (s.length / 2)) (s.take (s.length / 2))))))=Tj.of (ck j (cf s));refine Tj.cong _ _ fun i hi=>?_;show cf s (2^j+i) -cf (aS (s.take (s.length / 2)) (s.take (s.length / 2))) (2^j+i)=cf s (2^j+i);rw[lxx _ (by omega)];exact Rat.sub_eq_add_neg .. |>.trans (by rw[Rat.neg_zero,Rat.add_zero])
      rw[this];exact F.1
     have g2:bd v (l+1) (n7 (mulC v (l+1) (cf (aS (s.take (s.length / 2)) (s.take (s.length / 2)))) (cf r)) qa)=0:=by
      rw[du v (aZ hxx.le) (aZ hrl.le) (Nat.le_succ l),bY v ((bf v l _ _).sub (zM l)) (Nat.le_succ l)];exact hr
     rw[← TL.sgn] at g1 g2 ⊢;rw[show TL.of (n7 _ _)=_ from TL.sub _ _,TL.mul,TL.one] at g2 ⊢;rw[show TL.of (n7 _ _)=_ from TL.sub _ _] at g1
     have e:TL.of (cf s)*TL.of (cf r) -1=(TL.of (cf s) -TL.of (cf (aS (s.take (s.length / 2)) (s.take (s.length / 2)))))*TL.of (cf r)+(TL.of (cf (aS (s.take (s.length / 2)) (s.take (s.length / 2))))*TL.of (cf r) -1) :=
      Rg.jn [TL.of (cf s),TL.of (cf r),TL.of (cf (aS (s.take (s.length / 2)) (s.take (s.length / 2))))] (X0*X1-1) ((X0-X2)*X1+(X2*X1-1)) rfl
     rw[e,OR.null _ _ (OR.kg _ g1)];exact g2
   · rw[if_neg hN];have hr:=ih hn.1 (by omega) (by rw[hn.2,bY v lowN hj];exact hN);obtain ⟨r,hrr⟩: ∃r,gZ l v (eS l v s)=r:=⟨_,rfl⟩;have hrl:aC l r:=by rw[← hrr];exact fS l hn.1 hrt (by omega)
     rw[hrr] at hr ⊢;rw[hn.2] at hr
     have hjl:aC (l+1) (dJ (s.take (s.length / 2)) (aK (s.drop (s.length / 2))) (s.length / 2)):= .inr ⟨j+1,by omega,by
      rw[ei]
      omega⟩
     have cJ: ∀i,cf (dJ (s.take (s.length / 2)) (aK (s.drop (s.length / 2))) (s.length / 2)) i=if i<2^j then cf (s.take (s.length / 2)) i else cf (aK (s.drop (s.length / 2))) (i-2^j):=fun i=>Hf _ e3 (by rw[bz];omega) i
     have lJ:c8 (j+1) (cf (dJ (s.take (s.length / 2)) (aK (s.drop (s.length / 2))) (s.length / 2))):=aZ (by rw[ei];omega);have ht:=eK (l+1) hjl (hrl.mono (Nat.le_succ l)) hrt hl;rw[ht.2];generalize dJ (s.take (s.length / 2)) (aK (s.drop (s.length / 2))) (s.length / 2)=J at cJ lJ hjl ht
     have eN:mulC v (l+1) (cf s) (cf J)=b7 v j (cf s):=by
      rw[du v ls lJ (by omega)];refine kj.full (T.inj _ _ ?_) (bf v (j+1) _ _) (lowN.mono (Nat.le_succ j));rw[T.mul];have o1:Tj.of (cf J)=Tj.of (cf s):=Tj.cong _ _ fun i hi=>by rw[cJ i,if_pos hi];exact ex i hi
      have o2:Tj.of (ck j (cf J))= -Tj.of (ck j (cf s)):=by
       rw[← Tj.neg];refine Tj.cong _ _ fun i hi=>?_;show cf J (2^j+i)= -cf s (2^j+i);rw[cJ,if_neg (by omega),lI,Nat.add_sub_cancel_left,ey];rfl
      have o3:Tj.of (ck j (b7 v j (cf s)))=0:=by rw[lowN.vZ,Tj.zero]
      have o4:Tj.of (b7 v j (cf s))=Tj.of (cf s)*Tj.of (cf s) -Tj.of (ck j (cf s))*Tj.of (ck j (cf s))*Tj.of (cf (v.getD j [])):=by
       rw[← Tj.mul,← Tj.mul,← Tj.mul,← Tj.sub];rfl
      refine Prod.ext ?_ ?_
      · show Tj.of (cf s)*Tj.of (cf J)+Tj.of (ck j (cf s))*Tj.of (ck j (cf J))*Tj.of (cf (v.getD j []))=Tj.of (b7 v j (cf s));rw[o1,o2,o4];exact Rg.jn [Tj.of (cf s),Tj.of (ck j (cf s)),Tj.of (cf (v.getD j []))] (X0*X0+X1* -X1*X2) (X0*X0-X1*X1*X2) rfl
      · show Tj.of (cf s)*Tj.of (ck j (cf J))+Tj.of (ck j (cf s))*Tj.of (cf J)=Tj.of (ck j (b7 v j (cf s)));rw[o1,o2,o3];exact Rg.jn [Tj.of (cf s),Tj.of (ck j (cf s))] (X0* -X1+X1*X0) 0 rfl
     have g2:bd v (l+1) (n7 (mulC v (l+1) (b7 v j (cf s)) (cf r)) qa)=0:=by
      rw[du v (lowN.mono hj) (aZ hrl.le) (Nat.le_succ l),bY v ((bf v l _ _).sub (zM l)) (Nat.le_succ l)];exact hr
     rw[← eN] at g2;rw[← TL.sgn] at g2 ⊢;rw[show TL.of (n7 _ _)=_ from TL.sub _ _,TL.mul,TL.mul,TL.one] at g2 ⊢;rw[← Rg.mul_assoc];exact g2
structure FV (v:List NQ) where
 K:Fd
 val:NQ→K.T
 add: ∀{a b:NQ},aC v.length a→aC v.length b→val (qO a b)=val a+val b
 sub: ∀{a b:NQ},aC v.length a→aC v.length b→val (n6 a b)=val a-val b
 neg: ∀{a:NQ},aC v.length a→val (qh a)= -val a
 mul: ∀{a b:NQ},aC v.length a→aC v.length b→val (eg v a b)=val a*val b
 div: ∀{a b:NQ},aC v.length a→aC v.length b→jI v b≠0→val (mG v a b)=val a*K.inv (val b)
 nil:val []=0
 one:val [1]=1
 sg: ∀{a:NQ},aC v.length a→(jI v a=0↔val a=0)
 eq: ∀{a b:NQ},bd v v.length (cf (aS a (aK b)))=0↔val a=val b
 inv: ∀{b:NQ},aC v.length b→jI v b≠0→val (gZ v.length v b)=K.inv (val b)
theorem He:cf []=zC:=rfl
theorem Hd:cf [1]=qa:=funext fun i=>by
 cases i with
 | zero=>rfl
 | succ i=>rfl
theorem Jt{m:Nat}{v:List NQ}(V:kF m v):Nonempty (FV v):=by
 obtain ⟨T⟩:=IW V.pos v.length (ao _);have hs: ∀{a:NQ},aC v.length a→jI v a=bd v v.length (cf a):=fun h=>eD v.length h V.ro (ao _)
 have iv: ∀{b:NQ},aC v.length b→jI v b≠0→OR.cl T.inv (T.of (cf (gZ v.length v b)))=(T.R.fd T.inv).inv (OR.cl T.inv (T.of (cf b))):=fun {b} hb h0=>by
  rw[hs hb] at h0;have h:=Ip V.ro V.pos v.length hb (ao _) h0;refine Fd.inv_eq ?_;rw[← OR.Fu,← T.mul,← OR.IB,OR.Fv,← T.one,← T.sub,T.sgn];exact h
 refine⟨⟨T.R.fd T.inv,fun a=>OR.cl T.inv (T.of (cf a)),fun {a b} ha hb=>?_,fun {a b} ha hb=>?_,fun {a} ha=>?_,fun {a b} ha hb=>?_,fun {a b} ha hb h0=>?_,?_,?_,fun {a} ha=>?_,fun {a b}=>?_,iv⟩⟩
 · show OR.cl T.inv (T.of (cf (aq (aS a b))))=_;rw[bJ (ha.plus hb),show cf (aS a b)=fun i=>cf a i+cf b i from funext fun i=>fO a b i,T.add];rfl
 · show OR.cl T.inv (T.of (cf (aq (aS a (aK b)))))=_;rw[bJ (ha.plus hb.minus),show cf (aS a (aK b))=fun i=>cf a i-cf b i from funext fun i=>by rw[fO,lI];exact(Rat.sub_eq_add_neg ..).symm,T.sub];rfl
 · show OR.cl T.inv (T.of (cf (aq (aK a))))=_;rw[bJ ha.minus,show cf (aK a)=fun i=> -cf a i from funext fun i=>lI a i,T.neg];rfl
 · have ht:=eK v.length ha hb V.ro (ao _);show OR.cl T.inv (T.of (cf (aq (bc v.length v a b))))=_;rw[bJ ht.1,ht.2,T.mul];rfl
 · have ht:=eK v.length ha (fS v.length hb V.ro (ao _)) V.ro (ao _);show OR.cl T.inv (T.of (cf (aq (bc v.length v a (gZ v.length v b)))))=_;rw[bJ ht.1,ht.2,T.mul,OR.Fu,iv hb h0]
 · show OR.cl T.inv (T.of (cf []))=0;rw[He,T.zero];rfl
 · show OR.cl T.inv (T.of (cf [1]))=1;rw[Hd,T.one];rfl
 · rw[OR.Kt,T.sgn,hs ha]
 · rw[OR.Fv,← T.sub,T.sgn,show cf (aS a (aK b))=fun i=>cf a i-cf b i from funext fun i=>by rw[fO,lI];exact(Rat.sub_eq_add_neg ..).symm]
end Lift
namespace Lift
open Go
open Go.RowKit (Below)
section
variable {P:Program} {T:Ty} {B:Nat} {F0:Nat→Prop} {w0:cL} {n d:Nat} {o:Oper} {σ:St} {K:St→Prop} {all:Array Oper} {rest:List Oper} {lk hm:Nat→Option AV}
end
end Lift
namespace Lift
open Go
open Go.RowKit (Below)
section
variable {P:Program} {T:Ty} {B:Nat} {F0:Nat→Prop} {w0:cL} {n:Nat} {σ τ σ0:St} {ops all:Array Oper} {l rest:List Oper} {o:Oper} {d:Nat} {lk hm:Nat→Option AV} {K:St→Prop} {ds:List Nat}
end
end Lift
namespace Lift
open Go
open Go.RowKit (Below)
section
variable {P:Program} {T:Ty} {B:Nat} {F0:Nat→Prop} {w0:cL} {n:Nat} {σ:St} {all:Array Oper} {rest:List Oper} {o1 o2:Oper} {K:St→Prop}
end
end Lift
namespace Lift
open Go
open Go.RowKit (Below)
section
variable {P:Program} {T:Ty} {B:Nat} {F0:Nat→Prop} {w0:cL} {n:Nat} {σ:St} {all:Array Oper} {rest:List Oper} {o:Oper} {d:Nat} {K:St→Prop}
def E7(T:Ty)(lk:Nat→Option AV):Op→Option (Nat×List D)
 | .binOp .eql t x (.const (.slice none 0 0)) _=>match T.get t,dh T (ex T lk 0 x) with
   | some ti,some (.sl s xs)=>match Nat.beq ti.kind 4 with
     | true=>some (s,xs)
     | false=>none
   | _,_=>none
 | _=>none
theorem BA{w:World}{t e:TypeId}(hi:P.underlying t=some (.slice e))(k:Nat)(b:Option Addr)(l c:Nat):(Op.equalIn (k+1) t (.slice b l c) (.slice none 0 0)).run P w= .ok b.isNone w:=by
 cases b<;>simp[Op.equalIn,run_underlying hi]
theorem E6{w:World}{t e:TypeId}(hi:P.underlying t=some (.slice e))(b:Option Addr)(l c:Nat):(Op.equal t (.slice b l c) (.slice none 0 0)).run P w= .ok b.isNone w:=BA hi 9999 b l c
theorem FA{w:World}{t e:TypeId}(hi:P.underlying t=some (.slice e))(b:Option Addr)(l c:Nat):(Go.binOp .eql t (.slice b l c) (.slice none 0 0)).run P w= .ok (.bool b.isNone) w:=by
 have:Go.binOp .eql t (.slice b l c) (.slice none 0 0)=(do pure (.bool (← Op.equal t (.slice b l c) (.slice none 0 0))):Sem Value):=rfl;rw[this];simp only[Sem.run_bind,E6 hi,Result.andThen_ok,Sem.run_pure]
theorem ab.yI(hT:bw P T){s:Nat}{xs:List D}(hd:o.dst=some d)(hdn:Nat.ble (d+1) n=true)(hg:o.guard=none)(hx:E7 T σ.get o.op=some (s,xs))
  (h: ∀b:Bool,(xs≠[]→b=false)→ab P B F0 w0 n all rest K ((d,.d (.v (.bool b)))::σ)):ab P B F0 w0 n all (o::rest) K σ:=by
 intro a w hR Q hQ;unfold wpList;rw[if_pos (by simp[Region.wanted,hg])];refine .inl ?_;obtain ⟨O,hOr,hO⟩:=hR.own;have hI:=hR.inv hOr hO (fun t=> .tmp t∈o.op.operands) d;obtain ⟨dst,op,ty,pos,after,guard⟩:=o;simp only[] at hd hx hI;cases op<;>try (simp only[E7] at hx;cases hx;done)
 rename_i bop t x y ty2;cases bop<;>try (simp only[E7] at hx;cases hx;done)
 cases y<;>try (simp only[E7] at hx;cases hx;done)
 rename_i c;unfold E7 at hx;split at hx<;>try (cases hx;done)
 rename_i heq;simp only[Op.binOp.injEq,Operand.const.injEq,true_and] at heq;obtain ⟨rfl,rfl,rfl,rfl⟩:=heq;split at hx<;>try (cases hx;done)
 rename_i ti s' xs' hti hdx;split at hx<;>simp at hx;rename_i hk;obtain ⟨rfl,rfl⟩:=hx;obtain ⟨info,dd,z,hok⟩:=hT _ ti hti;have hrd:=dX hT hI (fun t ht=>by subst ht;simp[Op.operands]) hdx;obtain ⟨ad,cap,hv,h1,h2,hne⟩:=Rd.y5 hrd
 have hg2:(eqGuard .eql t x (.const (.slice none 0 0)) (a.eval x) (.slice none 0 0)).run P w= .ok () w:=by
  rw[hv];simp[eqGuard]
 refine bo (v:= .bool ad.isNone) (w':=w) ?_ ?_
 · simp only[execOp,eval_const,Sem.run_bind,hg2,Result.andThen_ok];rw[hv];rw[FA (hok.iW hk).1];rfl
 · rw[hd];refine h ad.isNone (fun hx=>?_) _ _ (hR.put hOr hO (Nat.le_of_ble_eq_true hdn) (dv.refl hI.lt) (show dR _ _ _ _ _ _ _ _ (.d (.v (.bool ad.isNone))) (.bool ad.isNone) from Rd.v rfl)) Q hQ;rcases hne with e | ⟨b,off,cs,e,fz,hb,_⟩
   · exact absurd e hx
   · rw[hb];rfl
end
end Lift
namespace Lift
open Go Go.Proofs
end Lift
namespace Lift
open Go Go.Proofs
end Lift
namespace Lift
open Go Go.Proofs
end Lift
namespace Lift
open Go Go.Proofs
end Lift
namespace Lift
open Go Go.Proofs
abbrev RwR(r:List (List RD)):D:= .sl 1 (r.map dn)
abbrev MxR(a:List (List (List RD))):D:= .sl 1 (a.map RwR)
abbrev a8(r:List NQ):D:= .sl 1 (r.map ai)
abbrev bh(a:List (List NQ)):D:= .sl 1 (a.map a8)
structure FO (m:Nat) (rt:List (List RD)) (a:List (List (List RD))):Prop where
 n: ∀i k,BP m rt ((a.getD i []).getD k [])
 l:a.length≤1000000
 r: ∀i,(a.getD i []).length≤1000000
def ak{α:Type}(a:List (List α)):Nat:=(a.getD 0 []).length
def wX(a:List (List (List RD)))(i:Nat):Nat:=if (a.getD i []).length≠ak a then 10 else 0
def kK(rt:List (List RD))(r:List (List RD)):Nat:=fE (fun k=>qG rt [r.getD k []]) (r.length-0) 0
def sY(rt:List (List RD))(a:List (List (List RD))):Nat :=
 if a.length=0 then 0 else if 32<a.length∨32<ak a then 4 else
 if fE (wX a) (a.length-0) 0≠0 then fE (wX a) (a.length-0) 0 else fE (fun i=>kK rt (a.getD i [])) (a.length-0) 0
def mA(rt:List (List RD))(a:List (List (List RD))):Nat:=if dm rt≠0 then dm rt else sY rt a
structure IM (m:Nat) (rt:List (List RD)):Prop where
 w: ∀i,i<rt.length→(rt.getD i []).length=2^i→wN m (rt.getD i [])
 m1:1≤m
 l:rt.length≤1000000
 ll: ∀i,i<rt.length→(rt.getD i []).length≤4398046511104
 ok:rt.length≤5→nS rt.length m
 m2:m≤1000000
theorem lg{m:Nat}{rt:List (List RD)}{x:List RD}(T:IM m rt)(X:BP m rt x):Pure Tryz.prog 67 [TrD rt,dn x] (sJ (qG rt [x])):=by
 refine qJ 14 Tryz.func67 rfl rfl rfl rfl (by kernel_rfl) (fun B F0 w0=>?_);have hm:=T.m2;have c:=v8 rt x T.w T.m1 T.l T.ll T.ok X.w X.l (by omega);unfold D4 at c;refine qX 2 rfl ?_;refine qK 2 rfl ?_;by_cases h:qG rt [x]≠0
 · rw[if_pos h] at c;refine ab.call tok rfl rfl rfl rfl c ?_;refine qU 5 rfl ?_;refine qK 2 rfl ?_;exact qN rfl
 rw[if_neg h] at c;have h:qG rt [x]=0:=by omega
 rw[h];refine ab.call tok rfl rfl rfl rfl c ?_;refine qU 5 rfl ?_;refine qK 2 rfl ?_;exact qN rfl
theorem CG{rt:List (List RD)}(h:dm rt=0)(x:List RD):qG rt [x]=bL rt.length x:=by
 unfold qG;rw[if_neg (by rw[h];simp)];show (if bL rt.length x=0 then 0 else bL rt.length x)=_;split
 · rename_i e;exact e.symm
 · rfl
set_option maxHeartbeats 1600000 in
theorem m8{rt:List (List RD)}{a:List (List (List RD))}(hal:a.length≤1000000)(har: ∀i,(a.getD i []).length≤1000000)(han: ∀i k,Pure Tryz.prog 67 [TrD rt,dn ((a.getD i []).getD k [])] (sJ (qG rt [(a.getD i []).getD k []]))):Pure Tryz.prog 55 [TrD rt,MxR a] (sJ (sY rt a)):=by
 refine qJ 61 Tryz.func55 rfl rfl rfl rfl (by kernel_rfl) (fun B F0 w0=>?_);unfold sY;obtain ⟨E,hE⟩: ∃E,fE (wX a) (a.length-0) 0=E:=⟨_,rfl⟩;obtain ⟨G,hG⟩: ∃G,fE (fun i=>kK rt (a.getD i [])) (a.length-0) 0=G:=⟨_,rfl⟩;rw[hE,hG];refine qX 2 rfl ?_;refine qI (qX 2 rfl ?_);rw[ae];refine qU 1 rfl ?_;refine ab.nil ?_;by_cases h0:a.length=0
 · rw[if_pos h0,h0];refine AW.aL rfl ?_;refine qX 1 rfl ?_;exact qN rfl
 rw[if_neg h0,beq_eq_false_iff_ne.2 (show (a.length:Int)≠0 by omega)];have hc0:ak a=(a.getD 0 []).length:=rfl;have hcl:=har 0;have g0:=getM RwR (l:=a) (i:=0) (by omega);refine AW.aB rfl ?_
 · skip
   refine AW.skip (AW.seq ?_);refine qX 2 rfl ?_;rw[ae];refine qU 1 rfl ?_;by_cases h1:32<a.length
   · rw[aV (show (32:Int)<(a.length:Int) by omega),if_pos (.inl h1)];refine qU 7 rfl ?_;refine ab.nil ?_;refine AW.aL rfl ?_;refine qX 2 rfl ?_;exact qN rfl
   rw[aT (show ¬(32:Int)<(a.length:Int) by omega)];refine qU 2 rfl ?_;refine ab.idx tok (RwR (a.getD 0 [])) rfl rfl rfl rfl (Int.le_refl _) g0 ?_;refine qU 2 rfl ?_;rw[ae];refine qU 1 rfl ?_;by_cases h2:32<ak a
   · rw[aV (show (32:Int)<((a.getD 0 []).length:Int) by omega),if_pos (.inr h2)];refine qU 1 rfl ?_;refine ab.nil ?_;refine AW.aL rfl ?_;refine qX 2 rfl ?_;exact qN rfl
   rw[aT (show ¬(32:Int)<((a.getD 0 []).length:Int) by omega),if_neg (fun h=>h.elim h1 h2)];refine qU 1 rfl ?_;refine ab.nil ?_;refine AW.aB rfl ?_
   · refine AW.skip (AW.seq ?_);refine qX 2 rfl ?_;rw[ae];refine qU 1 rfl ?_;refine ab.nil ?_;refine AW.block ?_;refine AW.aF [1,2,26,27,28] (fun i:Nat=>[(1,.d (MxR a)),(2,.bx [.sl 1 (rt.map dn)]),(26,.d (MxR a)),(27,.d (dI a.length)),(28,.d (dI i))]) (fun i=>i≤a.length∧fE (wX a) (a.length-i) i=E) (fun i=>a.length-i) 0 rfl ⟨Nat.zero_le _,hE⟩ (fun i ⟨hi,hiE⟩=>?_)
     · show AW _ _ _ _ _ _ _ [(1,.d (MxR a)),(2,.bx [.sl 1 (rt.map dn)]),(26,.d (MxR a)),(27,.d (dI a.length)),(28,.d (dI i))];refine qX 1 rfl ?_;refine qI ?_;refine AW.cond rfl (fun h=>?_) (fun h=>?_)
       · have hii:i<a.length:=by have:=ar h;omega
         have hg:=getM RwR (l:=a) (i:=i) hii;have hri:=har i;have hmiss:=fun h0:wX a i=0=>(ib hii h0).symm.trans hiE;have hhit:=fun h0:wX a i≠0=>(j6 hii h0).symm.trans hiE;refine AW.skip (AW.seq (AW.block (AW.seq (AW.region ?_))));refine ab.idx tok (RwR (a.getD i [])) rfl rfl rfl rfl (aj i) hg ?_;refine qU 2 rfl ?_;refine qK 2 rfl ?_;rw[ae];refine qU 1 rfl ?_;refine ab.idx tok (RwR (a.getD 0 [])) rfl rfl rfl rfl (Int.le_refl _) g0 ?_;refine qU 2 rfl ?_;rw[ae];refine qU 1 rfl ?_;refine ab.nil ?_;refine AW.cond rfl (fun h=>?_) (fun h=>?_)
         · have hne:(a.getD i []).length≠ak a:=by have:=bne_iff_ne.1 h;omega
           have e:wX a i=10:=if_pos hne;have:=hhit (by rw[e];decide);rw[e] at this;subst this;rw[if_pos (by decide)];refine qX 2 rfl ?_;exact qN rfl
         · have heq:(a.getD i []).length=ak a:=by have:=bne_eq_false_iff_eq.1 h;omega
           have e:wX a i=0:=if_neg (fun h=>h heq);refine AW.skip (qT 1 rfl ?_);rw[aH (x:=(i:Int)+1) (by omega) (by omega)];refine qU 1 rfl ?_;refine ab.nil ?_;exact⟨i+1,rfl,⟨hii,hmiss e⟩,by omega⟩
       have hii: ¬i<a.length:=by have:=aA h;omega
       rw[j7 hii] at hiE;subst hiE;rw[if_neg (by decide)];refine AW.exit (AW.seq ?_);refine qX 2 rfl ?_;rw[ae];refine qU 1 rfl ?_;refine ab.nil ?_;refine AW.block ?_;refine AW.aF [1,2,41,42,43] (fun i:Nat=>[(1,.d (MxR a)),(2,.bx [.sl 1 (rt.map dn)]),(41,.d (MxR a)),(42,.d (dI a.length)),(43,.d (dI i))]) (fun i=>i≤a.length∧fE (fun i=>kK rt (a.getD i [])) (a.length-i) i=G) (fun i=>a.length-i) 0 rfl ⟨Nat.zero_le _,hG⟩ (fun i ⟨hi,hiG⟩=>?_)
       · show AW _ _ _ _ _ _ _ [(1,.d (MxR a)),(2,.bx [.sl 1 (rt.map dn)]),(41,.d (MxR a)),(42,.d (dI a.length)),(43,.d (dI i))];refine qX 1 rfl ?_;refine qI ?_;refine AW.cond rfl (fun h=>?_) (fun h=>?_)
         · have hii:i<a.length:=by have:=ar h;omega
           have hg:=getM RwR (l:=a) (i:=i) hii;have hri:=har i;have hni:=han i;have hmiss:=fun h0:kK rt (a.getD i [])=0=>(ib (f:=fun i=>kK rt (a.getD i [])) hii h0).symm.trans hiG;have hhit:=fun h0:kK rt (a.getD i [])≠0=>(j6 (f:=fun i=>kK rt (a.getD i [])) hii h0).symm.trans hiG;refine AW.skip (AW.seq (AW.block (AW.seq (AW.region ?_))));refine ab.idx tok (RwR (a.getD i [])) rfl rfl rfl rfl (aj i) hg ?_;refine qU 2 rfl ?_;refine ab.nil ?_;generalize a.getD i []=r at hri hni hmiss hhit;obtain ⟨H,hH⟩: ∃H,kK rt r=H:=⟨_,rfl⟩;rw[hH] at hmiss hhit;refine qX 2 rfl ?_;rw[ae];refine qU 1 rfl ?_;refine ab.nil ?_;refine AW.block ?_;refine AW.aF [1,2,41,42,43,47,48,49] (fun k:Nat=>[(1,.d (MxR a)),(2,.bx [.sl 1 (rt.map dn)]),(41,.d (MxR a)),(42,.d (dI a.length)),(43,.d (dI i)),(47,.d (RwR r)),(48,.d (dI r.length)),(49,.d (dI k))]) (fun k=>k≤r.length∧fE (fun k=>qG rt [r.getD k []]) (r.length-k) k=H) (fun k=>r.length-k) 0 rfl ⟨Nat.zero_le _,hH⟩ (fun k ⟨hk,hkH⟩=>?_)
           · show AW _ _ _ _ _ _ _ [(1,.d (MxR a)),(2,.bx [.sl 1 (rt.map dn)]),(41,.d (MxR a)),(42,.d (dI a.length)),(43,.d (dI i)),(47,.d (RwR r)),(48,.d (dI r.length)),(49,.d (dI k))];refine qX 1 rfl ?_;refine qI ?_;refine AW.cond rfl (fun h=>?_) (fun h=>?_)
             · have hkk:k<r.length:=by have:=ar h;omega
               have hg2:=getM dn (l:=r) (i:=k) hkk;have cn:=hni k;have km:=fun h0:qG rt [r.getD k []]=0=>(ib (f:=fun k=>qG rt [r.getD k []]) hkk h0).symm.trans hkH;have kh:=fun h0:qG rt [r.getD k []]≠0=>(j6 (f:=fun k=>qG rt [r.getD k []]) hkk h0).symm.trans hkH;refine AW.skip (AW.seq (AW.block (AW.seq (AW.region ?_))));refine ab.idx tok (dn (r.getD k [])) rfl rfl rfl rfl (aj k) hg2 ?_;refine qU 2 rfl ?_;refine qK 2 rfl ?_;refine ab.call tok rfl rfl rfl rfl cn ?_;refine qU 1 rfl ?_;refine ab.nil ?_;generalize qG rt [r.getD k []]=e at cn km kh;rcases e with _ | z
               rotate_left
               · have:=kh (Nat.succ_ne_zero z);subst this;have:=hhit (Nat.succ_ne_zero z);subst this;refine qX 1 rfl ?_;refine ab.err tok rfl rfl rfl rfl rfl ?_;refine ab.nil ?_;refine AW.aL rfl ?_;refine qX 2 rfl ?_;exact qN rfl
               refine qX 1 rfl ?_;refine ab.err tok rfl rfl rfl rfl rfl ?_;refine ab.nil ?_;refine AW.aB rfl ?_
               · skip
                 refine AW.skip (qT 1 rfl ?_);rw[aH (x:=(k:Int)+1) (by omega) (by omega)];refine qU 1 rfl ?_;refine ab.nil ?_;exact⟨k+1,rfl,⟨hkk,km rfl⟩,by omega⟩
             have hkk: ¬k<r.length:=by have:=aA h;omega
             rw[j7 hkk] at hkH;subst hkH;refine AW.exit ?_;refine qT 1 rfl ?_;rw[aH (x:=(i:Int)+1) (by omega) (by omega)];refine qU 1 rfl ?_;refine ab.nil ?_;exact⟨i+1,rfl,⟨hii,hmiss rfl⟩,by omega⟩
         have hii: ¬i<a.length:=by have:=aA h;omega
         rw[j7 hii] at hiG;subst hiG;refine AW.exit ?_;refine qX 1 rfl ?_;exact qN rfl
theorem rF{m:Nat}{rt:List (List RD)}{a:List (List (List RD))}(T:IM m rt)(A:FO m rt a):Pure Tryz.prog 55 [TrD rt,MxR a] (sJ (sY rt a)) :=
 m8 A.l A.r (fun i k=>lg T (A.n i k))
theorem gj{m:Nat}{rt:List (List RD)}{a:List (List (List RD))}(T:IM m rt)(A:FO m rt a):Pure Tryz.prog 20 [TrD rt,MxR a] (sJ (mA rt a)):=by
 refine qJ 14 Tryz.func20 rfl rfl rfl rfl (by kernel_rfl) (fun B F0 w0=>?_);have cc:=mL rt T.w T.m1 T.l T.ll T.ok;have cm:=rF T A;unfold mA;refine qX 2 rfl ?_;refine qI (qX 1 rfl ?_);refine ab.call tok rfl rfl rfl rfl cc ?_;refine qU 1 rfl ?_;refine ab.nil ?_;generalize dm rt=e at cc ⊢;rcases e with _ | z
 rotate_left
 · rw[if_pos (Nat.succ_ne_zero z)];refine qX 1 rfl ?_;refine ab.err tok rfl rfl rfl rfl rfl ?_;refine ab.nil ?_;refine AW.aL rfl ?_;refine qX 2 rfl ?_;exact qN rfl
 rw[if_neg (by simp)];refine qX 1 rfl ?_;refine ab.err tok rfl rfl rfl rfl rfl ?_;refine ab.nil ?_;refine AW.aB rfl ?_
 · skip
   refine AW.skip (qX 2 rfl ?_);refine ab.call tok rfl rfl rfl rfl cm ?_;refine qU 1 rfl ?_;exact qN rfl
theorem jW{v:List NQ}{a:NQ}(V:lL v)(ha:aC v.length a)(ok:uK v a):Pure Tryz.prog 69 [bA v,ai a] (dI (jI v a)):=by
 refine qJ 14 Tryz.func69 rfl rfl rfl rfl (by kernel_rfl) (fun B F0 w0=>?_);have c:=rY V ha ok;refine qX 2 rfl ?_;refine qK 2 rfl ?_;refine ab.call tok rfl rfl rfl rfl c ?_;refine qU 5 rfl ?_;refine qK 2 rfl ?_;exact qN rfl
theorem bM(a:List (List NQ)):Pure Tryz.prog 47 [bh a] (dI (ak a)):=by
 refine qJ 10 Tryz.func47 rfl rfl rfl rfl (by kernel_rfl) (fun B F0 w0=>?_);refine qX 1 rfl ?_;refine qI (qX 2 rfl ?_);rw[ae];refine qU 1 rfl ?_;refine ab.nil ?_;by_cases h0:a.length=0
 · rw[List.length_eq_zero_iff.1 h0];refine AW.aL rfl ?_;refine qX 1 rfl ?_;exact qN rfl
 rw[beq_eq_false_iff_ne.2 (show (a.length:Int)≠0 by omega)];have g0:=getM a8 (l:=a) (i:=0) (by omega);refine AW.aB rfl ?_
 · refine AW.skip (qX 1 rfl ?_);refine ab.idx tok (a8 (a.getD 0 [])) rfl rfl rfl rfl (Int.le_refl _) g0 ?_;refine qU 2 rfl ?_;rw[ae];refine qU 1 rfl ?_;exact qN rfl
def Jg(r:List NQ)(res:D)(R':List LR):Prop:= ∃V,res= .v V∧R'=[(V,AV.ow 53 (r.map ai))]
theorem lH(r:List NQ)(hl:r.length≤1000000):jg Tryz.prog 68 [a8 r] [] (Jg r):=by
 refine jg.intro (n:=8) tok Tryz.func68 rfl rfl rfl (Nat.le_of_ble_eq_true rfl) (by kernel_rfl) (fun B F0 w0=>?_);refine AZ.seq (AZ.cO (fun B1 F1 w1=>?_));refine qU 1 rfl ?_;refine ab.nil ⟨rfl,?_⟩;refine AZ.seq (AZ.seq ?_);refine AZ.cO (fun B1 F1 w1=>?_);refine qU 1 rfl ?_;refine ab.yI tok rfl rfl rfl rfl (fun b hb=>?_);refine ab.nil ⟨rfl,?_⟩;refine AZ.cond rfl (fun h=>?_) (fun h=>?_)
 · have hr:r=[]:=by
    refine Classical.byContradiction fun hr=>?_;have:=hb (by simp[hr]);rw[this] at h;cases h
   subst hr;refine AZ.seq (AZ.cO (fun B1 F1 w1=>?_));refine qU 1 rfl ?_;refine ab.nil ⟨rfl,?_⟩;exact AZ.iD 2 rfl rfl rfl (fun V=>AZ.ret ⟨.v V,rfl,V,rfl,rfl⟩)
 · skip
   refine AZ.skip (AZ.seq ?_);refine AZ.cO (fun B1 F1 w1=>?_);refine qU 2 rfl ?_;refine ab.po tok rfl rfl rfl rfl (by rw[ae];show r.length*24≤_;omega) ?_;refine qU 1 rfl ?_;refine ab.nil ⟨rfl,?_⟩;exact AZ.iD 2 rfl rfl rfl (fun V=>AZ.ret ⟨.v V,rfl,V,rfl,rfl⟩)
end Lift
namespace Lift
open Go
open Go.RowKit (Below)
section
variable {P:Program} {T:Ty} {B:Nat} {F0:Nat→Prop} {w0:cL} {n:Nat} {σ:St} {R:List LR} {all ops:Array Oper} {l:List Oper} {o:Oper} {x:Code} {a:Act} {w:World} {K:List LR→St→Prop} {p:ju} {Q:Exit→List LR→St→Prop}
theorem ns: ∀{cs:List D},(∀d,d∈cs→d.flat=[d])→flatAll cs=cs
 | [],h=>rfl
 | d::r,h=>by
   show d.flat++flatAll r=d::r;rw[h d (List.mem_cons_self ..),ns (fun x hx=>h x (List.mem_cons_of_mem _ hx))];rfl
theorem bX.G5{i j k e eo:Nat}{V Vo:Value}{xs cs:List D}(hR:bX P B F0 w0 n R σ a w)(hj:R[j]?=some (Vo,.ow eo cs))(hc1: ∀d,d∈cs→d.flat=[d])(hk:cs[k]?=some (.v V))(hi:R[i]?=some (V,.ow e xs))(hij:i≠j):
  bX P B F0 w0 n ((R.set i (V,.junk)).set j (Vo,.ow eo (cs.set k (.sl (P.cellsOf e) xs)))) σ a w:=by
 obtain ⟨O,hOr,hO,hL⟩:=hR.own
 let O':Nat→Option Nat:=fun b=>if O b=some (n+i) then none else O b
 have h1: ∀b t,O' b=some t→O b=some t:=fun b t h=>by
  simp only[O'] at h;split at h
  · cases h
  · exact h
 have h2: ∀b t,t≠n+i→O b=some t→O' b=some t:=fun b t ht h=>by
  simp only[O',h];rw[if_neg (by simpa using ht)]
 have hF: ∀c,aM O (FW B F0 w) c→aM O' (FW B F0 w) c:=fun c hc=>⟨by simp only[O',hc.1];simp,hc.2⟩
 have hlt: ∀t av,σ.get t=some av→t<n:=fun t av h=>by
  obtain ⟨v,hv,_⟩:=hO t av h;rw[← hR.size];exact(Array.getElem?_eq_some_iff.1 hv).1
 have hil:=(List.getElem?_eq_some_iff.1 hi).1;have hjl:=(List.getElem?_eq_some_iff.1 hj).1;have hkl:=(List.getElem?_eq_some_iff.1 hk).1;refine⟨hR.below,hR.base,hR.f0,hR.defers,hR.size,O',fun b t hb=>hOr b t (h1 b t hb),fun j av hav=>?_,fun m r hr=>?_⟩
 · obtain ⟨v,hv,hr⟩:=hO j av hav;exact⟨v,hv,hr.move (fun c hc=>⟨hF c hc,rfl⟩) (fun _ c hc=>⟨h2 c j (by have:=hlt j av hav;omega) hc,rfl⟩) (fun k _ x _ hk=>⟨hk,rfl⟩)⟩
 · by_cases hmj:m=j
   · subst hmj;rw[List.getElem?_set_self (by simpa using hjl)] at hr;cases hr
     have hcs': ∀d,d∈cs.set k (.sl (P.cellsOf e) xs)→d.flat=[d]:=fun d hd=>by
      rcases List.mem_or_eq_of_mem_set hd with h | h
      · exact hc1 d h
      · subst h;rfl
     rcases hL m _ hj with h | ⟨_,_,h⟩
     · cases h
     refine .inr ⟨rfl,rfl,?_⟩;rcases h with ⟨base,h3,h4⟩ | ⟨b',cap,cs',h3,h4,h5,h6,h7,h8,h9,h10⟩
     · subst h4;simp at hk
     · simp only at h3;subst h3;refine .inr ⟨b',cap,cs',by simp,h2 b' _ (by omega) h4,h5,by simpa using h6,h7,h8,fun d hd=>?_,fun q d hd=>?_⟩
       · rcases List.mem_or_eq_of_mem_set hd with h | h
         · exact h9 d h
         · subst h;have:=h9 _ (List.mem_of_getElem? hk);exact this
       · rw[ns hcs'] at hd;rw[ns hc1] at h10;by_cases hq:q=k
         · subst hq;rw[List.getElem?_set_self hkl] at hd;cases hd;obtain ⟨_,u,hu,hru⟩:=h10 q _ hk;have:=(Rd.ke hru).1;subst this;refine⟨rfl,_,hu,?_⟩;rcases hL i _ hi with h | ⟨_,_,h⟩
           · cases h
           · rcases h with ⟨base,h3,h4⟩ | ⟨b2,cap2,cs2,g3,g4,g5,g6,g7,g8,g9,g10⟩
             · simp only at h3 h4;subst h3;subst h4;exact .nil (Nat.zero_le _)
             · simp only at g3;subst g3;refine Rd.kV (off:=0) ⟨by simp only[O',g4];simp,(hOr b2 _ g4).fw hR.f0⟩ g5 g6 g7 g9 (fun m d hd=>?_);obtain ⟨f1,u,f2,f3⟩:=g10 m d hd;exact⟨f1,u,by simpa using f2,f3.mono hF (fun _ _=>rfl)⟩
         · rw[List.getElem?_set_ne (Ne.symm hq)] at hd;obtain ⟨f1,u,f2,f3⟩:=h10 q d hd;exact⟨f1,u,f2,f3.mono hF (fun _ _=>rfl)⟩
   · have hr:=jK hmj hr;by_cases hmi:m=i
     · subst hmi;rw[List.getElem?_set_self hil] at hr;cases hr;exact .inl rfl
     · have:=jK hmi hr;rcases hL m r this with h | ⟨g1,g2,g3⟩
       · exact .inl h
       · exact .inr ⟨g1,g2,g3.move (fun c hc=>⟨hF c hc,rfl⟩) (fun _ c hc=>⟨h2 c _ (by omega) hc,rfl⟩) (fun k _ x _ hk=>by cases hk)⟩
theorem AZ.G5(hT:bw P T)(i j k:Nat){V Vo:Value}{e eo:Nat}{te:TI}{xs cs:List D}(hj:R[j]?=some (Vo,.ow eo cs))(hc1: ∀d,d∈cs→d.flat=[d])(hk:cs[k]?=some (.v V))(hi:R[i]?=some (V,.ow e xs))(hij:i≠j)(he:T.get e=some te)
  (h:AZ P B F0 w0 n x Q ((R.set i (V,.junk)).set j (Vo,.ow eo (cs.set k (.sl te.size xs)))) σ):AZ P B F0 w0 n x Q R σ:=by
 obtain ⟨info,d,z,hok⟩:=hT e te he;intro a w hR;have:=hR.G5 hj hc1 hk hi hij;rw[hok.cellsOf] at this;exact h a w this
theorem ah.vg(t i:Nat){av:AV}(ht:σ.get t=some av)(hrow:av.row.isSome=true)(htag:av.tag=false)(hi:Nat.ble (i+1) R.length=true)(h: ∀V:Value,ah P B F0 w0 n all l K p (R.set i (V,av)) ((t,.d (.v V))::σ.kill t)):ah P B F0 w0 n all l K p R σ:=by
 intro a w hR hpin Q hQ;obtain ⟨O,_,hO,_⟩:=hR.own;obtain ⟨V,hV,_⟩:=hO t _ ht;exact h V a w (hR.iD (i:=i) ht hrow htag hV (List.getElem?_set_self (Nat.le_of_ble_eq_true hi)) (fun j r hj hr=>jK hj hr)) hpin Q hQ
theorem bF{K:List LR→St→Prop}(h: ∀B1 F1 w1,sP P B1 F1 w1 R→ab P B1 F1 w1 n ops [o] (fun σ'=>σ'.f'=true∧K R σ') σ):ah P B F0 w0 n ops [o] K [] R σ :=
 ah.vH 1 rfl (fun B1 F1 w1 hS=>by
  have:=h B1 F1 w1 hS
  refine fun a w hR Q hQ=>this a w hR Q (fun a' w' σ' ⟨h1,h2⟩ hR'=>hQ a' w' σ' ⟨h1,ah.nil h2⟩ hR'))
end
section
variable {P:Program} {T:Ty} {B:Nat} {F0:Nat→Prop} {w0:cL} {n:Nat} {σ:St} {R:List LR} {ops:Array Oper} {o1 o2 o3 o4:Oper} {Q:Exit→List LR→St→Prop} {β:gO} {fuel:Nat} {listed:Array Bool}
theorem ZH.four(i j k m:Nat)(hr:Region.ready .any ops listed=[i,j,k,m])(ho1:ops[i]?=some o1)(ho2:ops[j]?=some o2)(ho3:ops[k]?=some o3)(ho4:ops[m]?=some o4)(hg1:o1.guard=none)(hg2:o2.guard=none)(hg3:o3.guard=none)(hg4:o4.guard=none)(hp1: ∀bl,eQ (de β bl) [o1]=true)(hp2: ∀bl,eQ (de β bl) [o2]=true)(hp3: ∀bl,eQ (de β bl) [o3]=true)(hp4: ∀bl,eQ (de β bl) [o4]=true)(hσ:mq σ β)
  (h1:oK P B F0 w0 n ops Q β fuel listed R σ i o1) (h2:oK P B F0 w0 n ops Q β fuel listed R σ j o2) (h3:oK P B F0 w0 n ops Q β fuel listed R σ k o3) (h4:oK P B F0 w0 n ops Q β fuel listed R σ m o4):ZH P B F0 w0 n ops Q β (fuel+1) listed R σ :=
 ZH.many [i,j,k,m] hr (by simp) hσ (fun q hk=>by
   simp only[List.mem_cons,List.not_mem_nil,or_false] at hk;rcases hk with rfl | rfl | rfl | rfl
   · exact⟨o1,ho1,hg1,hp1,h1⟩
   · exact⟨o2,ho2,hg2,hp2,h2⟩
   · exact⟨o3,ho3,hg3,hp3,h3⟩
   · exact⟨o4,ho4,hg4,hp4,h4⟩)
end
end Lift
namespace Lift
open Go Go.Proofs
abbrev et(r:List NQ):AV:=AV.ow 53 (r.map ai)
def ij{α:Type}(zs xs:List α)(i:Nat):List α:=zs.take i++xs.drop i
theorem qi{α:Type}{zs xs:List α}(h:zs.length=xs.length){i:Nat}(hi:i≤xs.length):(ij zs xs i).length=xs.length:=by
 unfold ij;rw[List.length_append,aQ,List.length_drop,h];omega
theorem uX{α:Type}{zs xs:List α}(h:zs.length=xs.length){i:Nat}(hi:i<xs.length)(d:α):(ij zs xs i).getD i d=xs.getD i d:=by
 unfold ij;rw[aG,List.getElem?_append_right (by rw[aQ];omega),aQ,h,List.getElem?_drop,aG]
 congr 2;omega
theorem uW{α:Type}{zs xs:List α}(h:zs.length=xs.length){i:Nat}(hi:i<xs.length){d z:α}(hz:zs.getD i d=z):(ij zs xs i).set i z=ij zs xs (i+1):=by
 subst hz;refine List.ext_getElem? (fun c=>?_);by_cases hc:c=i
 · subst hc;rw[List.getElem?_set_self (by rw[qi h (by omega)];exact hi)];unfold ij;rw[List.getElem?_append_left (by rw[aQ];omega),List.getElem?_take,if_pos (by omega)];have h1:c<zs.length:=by omega
   simp[h1]
 · rw[List.getElem?_set_ne (Ne.symm hc)];unfold ij;rcases Nat.lt_or_ge c i with g | g
   · rw[List.getElem?_append_left (by rw[aQ];omega),List.getElem?_append_left (by rw[aQ];omega),List.getElem?_take,List.getElem?_take,if_pos g,if_pos (by omega)]
   · rw[List.getElem?_append_right (by rw[aQ];omega),List.getElem?_append_right (by rw[aQ];omega),List.getElem?_drop,List.getElem?_drop,aQ,aQ]
     congr 1;omega
theorem rC{α:Type}(zs xs:List α):ij zs xs 0=xs:=by unfold ij;simp
theorem uY{α:Type}{zs xs:List α}(h:zs.length=xs.length):ij zs xs xs.length=zs:=by
 unfold ij;rw[List.drop_length,List.append_nil,← h,List.take_length]
section
variable {P:Program} {T:Ty} {B:Nat} {F0:Nat→Prop} {w0:cL} {n:Nat} {σ τ:St} {K:St→Prop} {all:Array Oper} {o:Oper} {d:Nat} {rest:List Oper}
theorem ab.uc(hT:bw P T){k e i:Nat}{r:List NQ}(q:NQ)(hd:o.dst=none)(hg:aD all σ o=true)(hx:Ca T σ o.op=some (k,.ow e (r.map ai),r.map ai,i,0,ai q))(hi:i<r.length)
  (h:ab P B F0 w0 n all rest K ((k,.ow e ((r.set i q).map ai))::σ)):ab P B F0 w0 n all (o::rest) K σ:=by
 refine ab.kp hT (ai (r.getD i [])) hd hg hx (getM ai hi) rfl ?_;show ab P B F0 w0 n all rest K ((k,.ow e ((r.map ai).set i (ai q)))::σ);rw[show (r.map ai).set i (ai q)=(r.set i q).map ai from (List.map_set ..).symm];exact h
end
def eL(v:List NQ)(xs ys:List NQ)(c:NQ):List NQ:=(List.range xs.length).map fun k=>n6 (xs.getD k []) (eg v c (ys.getD k []))
theorem gA(v:List NQ)(xs ys:List NQ)(c:NQ):(eL v xs ys c).length=xs.length:=by unfold eL;rw[ae,List.length_range]
theorem iu(v:List NQ)(xs ys:List NQ)(c:NQ){k:Nat}(h:k<xs.length):(eL v xs ys c).getD k []=n6 (xs.getD k []) (eg v c (ys.getD k [])):=by
 unfold eL;rw[aG,List.getElem?_map,List.getElem?_range h];rfl
def Bf(v:List NQ)(xs ys:List NQ)(c:NQ):Prop:= ∀k,k<xs.length→uM v c (ys.getD k [])∧Et (xs.getD k []) (eg v c (ys.getD k []))
def DO(V1 V2:Value)(zs ys:List NQ)(res:D)(R':List LR):Prop:=res=aN∧R'=[(V1,et zs),(V2,et ys)]
theorem jy{v:List NQ}(V:lL v){a b:NQ}(ha:aC v.length a)(hb:aC v.length b):aC v.length (eg v a b):=bp (fo v.length ha hb V.ro (ao _))
theorem Gc{l:Nat}{a b:NQ}(ha:aC l a)(hb:aC l b):aC l (n6 a b):=bp (ha.plus hb.minus)
theorem tI{v:List NQ}(V:lL v){a b:NQ}(ha:aC v.length a)(hb:aC v.length b):aC v.length (mG v a b):=bp (fo v.length ha (fS v.length hb V.ro (ao _)) V.ro (ao _))
set_option maxHeartbeats 3200000 in
theorem uZ(V1 V2:Value){v:List NQ}(V:lL v){xs ys:List NQ}{c:NQ}(hl:ys.length=xs.length)(hl0:0<xs.length)(hl1:xs.length≤1000000)(hx: ∀k,aC v.length (xs.getD k []))(hy: ∀k,aC v.length (ys.getD k []))(hc:aC v.length c)(ok:Bf v xs ys c):
  jg Tryz.prog 90 [bA v,.v V1,.v V2,ai c] [(V1,et xs),(V2,et ys)] (DO V1 V2 (eL v xs ys c) ys):=by
 refine jg.intro (n:=47) tok Tryz.func90 rfl rfl rfl (Nat.le_of_ble_eq_true rfl) (by kernel_rfl) (fun B F0 w0=>?_);have hz:=gA v xs ys c;obtain ⟨zs,hzs⟩: ∃zs,eL v xs ys c=zs:=⟨_,rfl⟩;rw[hzs] at hz ⊢;refine AZ.seq (AZ.cO (fun B1 F1 w1=>?_));refine qU 2 rfl ?_;refine ab.nil ⟨rfl,?_⟩;refine AZ.seq (AZ.seq ?_);refine AZ.rl (fun B1 F1 w1 hS=>?_);refine qU 1 rfl ?_;refine ab.lens tok (hS.at (i:=0) rfl (by rw[ae];exact hl0)) rfl rfl rfl rfl ?_;refine qU 1 rfl ?_;rw[ae];refine ab.nil ⟨rfl,?_⟩;refine AZ.block ?_;refine AZ.aF [1,2,3,4,13,14] (fun i:Nat=>([(V1,et (ij zs xs i)),(V2,et ys)],[(1,.d (.v V1)),(2,.d (.v V2)),(3,.d (ai c)),(4,.bx [.sl 1 (v.map ai)]),(13,.d (dI xs.length)),(14,.d (dI i))])) (fun i=>i≤xs.length) (fun i=>xs.length-i) 0 (by rw[rC];rfl) (Nat.zero_le _) (fun i hi=>?_)
 · show AZ _ _ _ _ _ _ _ [(V1,et (ij zs xs i)),(V2,et ys)] [(1,.d (.v V1)),(2,.d (.v V2)),(3,.d (ai c)),(4,.bx [.sl 1 (v.map ai)]),(13,.d (dI xs.length)),(14,.d (dI i))];refine AZ.seq (AZ.cO (fun B1 F1 w1=>?_));refine qU 1 rfl ?_;refine ab.nil ⟨rfl,?_⟩;refine AZ.seq ?_;refine AZ.cond rfl (fun h=>?_) (fun h=>?_)
   · have hin:i<xs.length:=by have:=ar h;omega
     have hpl:=qi hz (i:=i) (by omega);have hpg:=uX hz hin [];have hps:=uW hz hin (d:=[]) (show zs.getD i []=n6 (xs.getD i []) (eg v c (ys.getD i [])) by rw[← hzs];exact iu v xs ys c hin);have hyi:i<ys.length:=by omega
     obtain ⟨okm,oks⟩:=ok i hin;have cm:=oP V hc (hy i) okm;have cs:=AK V (hx i) (jy V hc (hy i)) oks;generalize ij zs xs i=ps at *;generalize hX:xs.getD i []=X at *;generalize hY:ys.getD i []=Y at *;generalize eg v c Y=M at *;generalize n6 X M=S at *;refine AZ.skip (AZ.seq ?_);refine AZ.block (AZ.seq ?_);refine AZ.cO (fun B1 F1 w1=>?_);refine qU 2 rfl ?_;refine ab.nil ⟨rfl,?_⟩;refine AZ.seq (AZ.any aP (fP.kE 11 (by kernel_rfl) (fun B1 F1 w1 hS=>?_)));have hS2:=hS.at (i:=1) rfl (by rw[ae];omega);refine qP 4 rfl ?_;refine af.idxs tok hS2 rfl rfl rfl rfl rfl (aj i) (by rw[ae];exact hyi) ?_;refine af.ba tok (ai (ys.getD i [])) hS2 rfl rfl rfl rfl rfl rfl rfl (getM ai hyi) rfl ?_;rw[hY];refine af.call tok rfl rfl rfl rfl rfl cm ?_;refine qP 4 rfl ?_;refine af.nil ⟨rfl,?_⟩;refine ah.cut 1 rfl (fun B1 F1 w1=>?_);refine qU 1 rfl ?_;refine ab.nil ⟨rfl,?_⟩;refine ah.nil ?_;refine AZ.to [1,2,3,4,9,10,11,13,14] [(1,.d (.v V1)),(2,.d (.v V2)),(3,.d (ai c)),(4,.bx [.sl 1 (v.map ai)]),(9,.d (dI i)),(10,.d (ai M)),(11,.d aN),(13,.d (dI xs.length)),(14,.d (dI i))] rfl ?_;refine AZ.seq (AZ.seq ?_);refine AZ.cO (fun B1 F1 w1=>?_);refine qU 1 rfl ?_;refine ab.err tok rfl rfl rfl rfl rfl ?_;refine ab.nil ⟨rfl,?_⟩;refine AZ.aB rfl ?_;refine AZ.skip (AZ.seq ?_);refine AZ.any aP (ZH.any (β:=[]) ?_);refine ZH.mv 0 rfl rfl (by kernel_rfl) (by kernel_rfl) (by kernel_rfl) rfl (fun _ _ _ h=>h) (fun _=>rfl) trivial (fun B1 F1 w1=>?_);refine qU 1 rfl ?_;refine ab.nil ⟨rfl,?_⟩;refine ZH.mv 1 rfl rfl (by kernel_rfl) (by kernel_rfl) (by kernel_rfl) rfl (fun _ _ _ h=>h) (fun _=>rfl) trivial (fun B1 F1 w1=>?_);refine qU 1 rfl ?_;refine ab.nil ⟨rfl,?_⟩;refine ZH.mv 3 rfl rfl (by kernel_rfl) (by kernel_rfl) (by kernel_rfl) rfl (fun _ _ _ h=>h) (fun _=>rfl) trivial (fun B1 F1 w1=>?_);refine qU 1 rfl ?_;refine ab.nil ⟨rfl,?_⟩;refine ZH.mv 4 rfl rfl (by kernel_rfl) (by kernel_rfl) (by kernel_rfl) rfl (fun _ _ _ h=>h) (fun _=>rfl) trivial (fun B1 F1 w1=>?_);refine qU 1 rfl ?_;refine ab.nil ⟨rfl,?_⟩;refine ZH.mv 7 rfl rfl (by kernel_rfl) (by kernel_rfl) (by kernel_rfl) rfl (fun _ _ _ h=>h) (fun _=>rfl) trivial (fun B1 F1 w1=>?_);refine qU 1 rfl ?_;refine ab.nil ⟨rfl,?_⟩;refine ZH.meet 0 (qB 15 32767) (fun V=>[(V1,et (ij zs xs (i+1))),(V2,et ys)]) (fun V=>[(1,.d (.v V1)),(2,.d (.v V2)),(3,.d (ai c)),(4,.bx [.sl 1 (v.map ai)]),(9,.d (dI i)),(10,.d (ai M)),(13,.d (dI xs.length)),(14,.d (dI i)),(31,.d (.v V1)),(32,.d (dI i)),(34,.d (.v V1)),(35,.d (dI i)),(38,.d (ai M)),(33,.d (bA v)),(36,.d (.v (eO V1 (i*1)))),(37,.d (ai X)),(39,.d (.tu [ai S,aN])),(30,.d (.tu [ai S,aN])),(40,.d (ai S)),(41,.d aN),(11,.d aN)]) (fun V=>?_) (fun N1_2_5_1_1=>?_)
     · refine ZH.done (by kernel_rfl) trivial ?_;refine AZ.to [1,2,3,4,11,13,14] [(1,.d (.v V1)),(2,.d (.v V2)),(3,.d (ai c)),(4,.bx [.sl 1 (v.map ai)]),(11,.d aN),(13,.d (dI xs.length)),(14,.d (dI i))] rfl ?_;refine AZ.seq (AZ.cO (fun B1 F1 w1=>?_));refine qU 1 rfl ?_;refine ab.err tok rfl rfl rfl rfl rfl ?_;refine ab.nil ⟨rfl,?_⟩;refine AZ.aB rfl ?_;refine AZ.skip (AZ.cO (fun B1 F1 w1=>?_));refine qU 1 rfl ?_;rw[aH (x:=(i:Int)+1) (by omega) (by omega)];refine qU 1 rfl ?_;refine ab.nil ⟨rfl,?_⟩;exact⟨i+1,rfl,hin,by omega⟩
     refine ZH.meet 1 (qB 15 16383) (fun V=>[(V1,et (ij zs xs (i+1))),(V2,et ys)]) (fun V=>[(1,.d (.v V1)),(2,.d (.v V2)),(3,.d (ai c)),(4,.bx [.sl 1 (v.map ai)]),(9,.d (dI i)),(10,.d (ai M)),(13,.d (dI xs.length)),(14,.d (dI i)),(31,.d (.v V1)),(32,.d (dI i)),(34,.d (.v V1)),(35,.d (dI i)),(38,.d (ai M)),(33,.d (bA v)),(36,.d (.v (eO V1 (i*1)))),(37,.d (ai X)),(39,.d (.tu [ai S,aN])),(30,.d (.tu [ai S,aN])),(40,.d (ai S)),(41,.d aN)]) (fun V=>?_) (fun N1_2_5_1_0=>?_)
     · refine ZH.all 14 (by kernel_rfl) rfl rfl (fun _=>rfl) trivial ?_;refine ay (fun B1 F1 w1=>?_);refine qU 1 rfl ?_;refine ab.nil ⟨rfl,?_⟩;exact qL (N1_2_5_1_1 V) (by kernel_rfl) rfl trivial
     refine ZH.meet 2 (qB 15 8191) (fun V=>[(V1,et ps),(V2,et ys)]) (fun V=>[(1,.d (.v V1)),(2,.d (.v V2)),(3,.d (ai c)),(4,.bx [.sl 1 (v.map ai)]),(9,.d (dI i)),(10,.d (ai M)),(13,.d (dI xs.length)),(14,.d (dI i)),(31,.d (.v V1)),(32,.d (dI i)),(34,.d (.v V1)),(35,.d (dI i)),(38,.d (ai M)),(33,.d (bA v)),(36,.d (.v (eO V1 (i*1)))),(37,.d (ai X)),(39,.d (.tu [ai S,aN])),(30,.d (.tu [ai S,aN])),(40,.d (ai S)),(42,.d (.v (eO V1 (i*1)))),(41,.d aN)]) (fun V=>?_) (fun N1_2_4_1_0=>?_)
     · refine ZH.all 13 (by kernel_rfl) rfl rfl (fun _=>rfl) trivial ?_;refine ah.cT 31 0 rfl rfl rfl ?_;refine ah.el tok 31 42 rfl (List.Mem.head _) rfl rfl rfl (by rw[ae,hpl];exact hin) rfl ?_;refine ah.cut 1 rfl (fun B1 F1 w1=>?_);refine ab.uc tok S rfl rfl rfl (by omega) ?_;rw[hps];refine ab.nil ⟨rfl,?_⟩;refine ah.back 31 0 rfl rfl rfl (List.Mem.head _) rfl ?_;refine ah.nil ?_;exact qL (N1_2_5_1_0 V) (by kernel_rfl) rfl trivial
     refine ZH.meet 2 (qB 15 14335) (fun V=>[(V1,et (ij zs xs (i+1))),(V2,et ys)]) (fun V=>[(1,.d (.v V1)),(2,.d (.v V2)),(3,.d (ai c)),(4,.bx [.sl 1 (v.map ai)]),(9,.d (dI i)),(10,.d (ai M)),(13,.d (dI xs.length)),(14,.d (dI i)),(31,.d (.v V1)),(32,.d (dI i)),(34,.d (.v V1)),(35,.d (dI i)),(38,.d (ai M)),(33,.d (bA v)),(36,.d (.v (eO V1 (i*1)))),(37,.d (ai X)),(39,.d (.tu [ai S,aN])),(30,.d (.tu [ai S,aN])),(40,.d (ai S))]) (fun V=>?_) (fun N1_2_5_0_0=>?_)
     · refine ZH.all 11 (by kernel_rfl) rfl rfl (fun _=>rfl) trivial ?_;refine ay (fun B1 F1 w1=>?_);refine qU 1 rfl ?_;refine ab.nil ⟨rfl,?_⟩;exact qL (N1_2_5_1_0 V) (by kernel_rfl) rfl trivial
     refine ZH.meet 3 (qB 15 4095) (fun V=>[(V1,et ps),(V2,et ys)]) (fun V=>[(1,.d (.v V1)),(2,.d (.v V2)),(3,.d (ai c)),(4,.bx [.sl 1 (v.map ai)]),(9,.d (dI i)),(10,.d (ai M)),(13,.d (dI xs.length)),(14,.d (dI i)),(31,.d (.v V1)),(32,.d (dI i)),(34,.d (.v V1)),(35,.d (dI i)),(38,.d (ai M)),(33,.d (bA v)),(36,.d (.v (eO V1 (i*1)))),(37,.d (ai X)),(39,.d (.tu [ai S,aN])),(30,.d (.tu [ai S,aN])),(40,.d (ai S)),(41,.d aN)]) (fun V=>?_) (fun N1_2_3_1_0=>?_)
     · refine ZH.all 12 (by kernel_rfl) rfl rfl (fun _=>rfl) trivial ?_;refine bF (fun B1 F1 w1 hS=>?_);refine ab.idxs tok (hS.at (i:=0) rfl (by rw[ae];omega)) rfl rfl rfl rfl (aj i) (by rw[ae,hpl];exact hin) ?_;refine ab.nil ⟨rfl,?_⟩;exact qL (N1_2_4_1_0 V) (by kernel_rfl) rfl trivial
     refine ZH.meet 3 (qB 15 6143) (fun V=>[(V1,et ps),(V2,et ys)]) (fun V=>[(1,.d (.v V1)),(2,.d (.v V2)),(3,.d (ai c)),(4,.bx [.sl 1 (v.map ai)]),(9,.d (dI i)),(10,.d (ai M)),(13,.d (dI xs.length)),(14,.d (dI i)),(31,.d (.v V1)),(32,.d (dI i)),(34,.d (.v V1)),(35,.d (dI i)),(38,.d (ai M)),(33,.d (bA v)),(36,.d (.v (eO V1 (i*1)))),(37,.d (ai X)),(39,.d (.tu [ai S,aN])),(30,.d (.tu [ai S,aN])),(40,.d (ai S)),(42,.d (.v (eO V1 (i*1))))]) (fun V=>?_) (fun N1_2_4_0_0=>?_)
     · refine ZH.two 11 13 (by kernel_rfl) rfl rfl rfl rfl (fun _=>rfl) (fun _=>rfl) trivial ?_ ?_
       · refine ay (fun B1 F1 w1=>?_);refine qU 1 rfl ?_;refine ab.nil ⟨rfl,?_⟩;exact qL (N1_2_4_1_0 V) (by kernel_rfl) rfl trivial
       · refine ah.cT 31 0 rfl rfl rfl ?_;refine ah.el tok 31 42 rfl (List.Mem.head _) rfl rfl rfl (by rw[ae,hpl];exact hin) rfl ?_;refine ah.cut 1 rfl (fun B1 F1 w1=>?_);refine ab.uc tok S rfl rfl rfl (by omega) ?_;rw[hps];refine ab.nil ⟨rfl,?_⟩;refine ah.back 31 0 rfl rfl rfl (List.Mem.head _) rfl ?_;refine ah.nil ?_;exact qL (N1_2_5_0_0 V) (by kernel_rfl) rfl trivial
     refine ZH.meet 4 (qB 15 3071) (fun V=>[(V1,et ps),(V2,et ys)]) (fun V=>[(1,.d (.v V1)),(2,.d (.v V2)),(3,.d (ai c)),(4,.bx [.sl 1 (v.map ai)]),(9,.d (dI i)),(10,.d (ai M)),(13,.d (dI xs.length)),(14,.d (dI i)),(31,.d (.v V1)),(32,.d (dI i)),(34,.d (.v V1)),(35,.d (dI i)),(38,.d (ai M)),(33,.d (bA v)),(36,.d (.v (eO V1 (i*1)))),(37,.d (ai X)),(39,.d (.tu [ai S,aN])),(30,.d (.tu [ai S,aN])),(41,.d aN)]) (fun V=>?_) (fun N1_2_2_1_0=>?_)
     · refine ZH.all 10 (by kernel_rfl) rfl rfl (fun _=>rfl) trivial ?_;refine ay (fun B1 F1 w1=>?_);refine qU 1 rfl ?_;refine ab.nil ⟨rfl,?_⟩;exact qL (N1_2_3_1_0 V) (by kernel_rfl) rfl trivial
     refine ZH.meet 4 (qB 15 2047) (fun V=>[(V1,et ps),(V2,et ys)]) (fun V=>[(1,.d (.v V1)),(2,.d (.v V2)),(3,.d (ai c)),(4,.bx [.sl 1 (v.map ai)]),(9,.d (dI i)),(10,.d (ai M)),(13,.d (dI xs.length)),(14,.d (dI i)),(31,.d (.v V1)),(32,.d (dI i)),(34,.d (.v V1)),(35,.d (dI i)),(38,.d (ai M)),(33,.d (bA v)),(36,.d (.v (eO V1 (i*1)))),(37,.d (ai X)),(39,.d (.tu [ai S,aN])),(30,.d (.tu [ai S,aN])),(40,.d (ai S))]) (fun V=>?_) (fun N1_2_3_0_0=>?_)
     · refine ZH.two 11 12 (by kernel_rfl) rfl rfl rfl rfl (fun _=>rfl) (fun _=>rfl) trivial ?_ ?_
       · refine ay (fun B1 F1 w1=>?_);refine qU 1 rfl ?_;refine ab.nil ⟨rfl,?_⟩;exact qL (N1_2_3_1_0 V) (by kernel_rfl) rfl trivial
       · refine bF (fun B1 F1 w1 hS=>?_);refine ab.idxs tok (hS.at (i:=0) rfl (by rw[ae];omega)) rfl rfl rfl rfl (aj i) (by rw[ae,hpl];exact hin) ?_;refine ab.nil ⟨rfl,?_⟩;exact qL (N1_2_4_0_0 V) (by kernel_rfl) rfl trivial
     refine ZH.meet 5 (qB 15 1023) (fun V=>[(V1,et ps),(V2,et ys)]) (fun V=>[(1,.d (.v V1)),(2,.d (.v V2)),(3,.d (ai c)),(4,.bx [.sl 1 (v.map ai)]),(9,.d (dI i)),(10,.d (ai M)),(13,.d (dI xs.length)),(14,.d (dI i)),(31,.d (.v V1)),(32,.d (dI i)),(34,.d (.v V1)),(35,.d (dI i)),(38,.d (ai M)),(33,.d (bA v)),(36,.d (.v (eO V1 (i*1)))),(37,.d (ai X)),(39,.d (.tu [ai S,aN])),(30,.d (.tu [ai S,aN]))]) (fun V=>?_) (fun N1_2_2_0_0=>?_)
     · refine ZH.two 10 11 (by kernel_rfl) rfl rfl rfl rfl (fun _=>rfl) (fun _=>rfl) trivial ?_ ?_
       · refine ay (fun B1 F1 w1=>?_);refine qU 1 rfl ?_;refine ab.nil ⟨rfl,?_⟩;exact qL (N1_2_3_0_0 V) (by kernel_rfl) rfl trivial
       · refine ay (fun B1 F1 w1=>?_);refine qU 1 rfl ?_;refine ab.nil ⟨rfl,?_⟩;exact qL (N1_2_2_1_0 V) (by kernel_rfl) rfl trivial
     refine ZH.meet 6 (qB 15 511) (fun V=>[(V1,et ps),(V2,et ys)]) (fun V=>[(1,.d (.v V1)),(2,.d (.v V2)),(3,.d (ai c)),(4,.bx [.sl 1 (v.map ai)]),(9,.d (dI i)),(10,.d (ai M)),(13,.d (dI xs.length)),(14,.d (dI i)),(31,.d (.v V1)),(32,.d (dI i)),(34,.d (.v V1)),(35,.d (dI i)),(38,.d (ai M)),(33,.d (bA v)),(36,.d (.v (eO V1 (i*1)))),(37,.d (ai X)),(39,.d (.tu [ai S,aN]))]) (fun V=>?_) (fun N1_2_1_0_0=>?_)
     · refine ZH.all 9 (by kernel_rfl) rfl rfl (fun _=>rfl) trivial ?_;refine ay (fun B1 F1 w1=>?_);refine qU 1 rfl ?_;refine ab.nil ⟨rfl,?_⟩;exact qL (N1_2_2_0_0 V) (by kernel_rfl) rfl trivial
     refine ZH.meet 7 (qB 15 255) (fun V=>[(V1,et ps),(V2,et ys)]) (fun V=>[(1,.d (.v V1)),(2,.d (.v V2)),(3,.d (ai c)),(4,.bx [.sl 1 (v.map ai)]),(9,.d (dI i)),(10,.d (ai M)),(13,.d (dI xs.length)),(14,.d (dI i)),(31,.d (.v V1)),(32,.d (dI i)),(34,.d (.v V1)),(35,.d (dI i)),(38,.d (ai M)),(33,.d (bA v)),(36,.d (.v (eO V1 (i*1)))),(37,.d (ai X))]) (fun V=>?_) (fun N1_2_0_0_0=>?_)
     · refine ZH.all 8 (by kernel_rfl) rfl rfl (fun _=>rfl) trivial ?_;refine ay (fun B1 F1 w1=>?_);refine ab.call tok rfl rfl rfl rfl cs ?_;refine ab.nil ⟨rfl,?_⟩;exact qL (N1_2_1_0_0 V) (by kernel_rfl) rfl trivial
     refine ZH.meet 8 (qB 15 251) (fun V=>[(V1,et ps),(V2,et ys)]) (fun V=>[(1,.d (.v V1)),(2,.d (.v V2)),(3,.d (ai c)),(4,.bx [.sl 1 (v.map ai)]),(9,.d (dI i)),(10,.d (ai M)),(13,.d (dI xs.length)),(14,.d (dI i)),(31,.d (.v V1)),(32,.d (dI i)),(34,.d (.v V1)),(35,.d (dI i)),(38,.d (ai M)),(36,.d (.v (eO V1 (i*1)))),(37,.d (ai X))]) (fun V=>?_) (fun N0_2_0_0_0=>?_)
     · refine ZH.all 2 (by kernel_rfl) rfl rfl (fun _=>rfl) trivial ?_;refine ay (fun B1 F1 w1=>?_);refine qU 1 rfl ?_;refine ab.nil ⟨rfl,?_⟩;exact qL (N1_2_0_0_0 V) (by kernel_rfl) rfl trivial
     refine ZH.meet 8 (qB 15 191) (fun V=>[(V1,et ps),(V2,et ys)]) (fun V=>[(1,.d (.v V1)),(2,.d (.v V2)),(3,.d (ai c)),(4,.bx [.sl 1 (v.map ai)]),(9,.d (dI i)),(10,.d (ai M)),(13,.d (dI xs.length)),(14,.d (dI i)),(31,.d (.v V1)),(32,.d (dI i)),(34,.d (.v V1)),(35,.d (dI i)),(38,.d (ai M)),(33,.d (bA v)),(36,.d (.v (eO V1 (i*1))))]) (fun V=>?_) (fun N1_1_0_0_0=>?_)
     · refine ZH.all 6 (by kernel_rfl) rfl rfl (fun _=>rfl) trivial ?_;refine bF (fun B1 F1 w1 hS=>?_);refine ab.ba tok (ai (ps.getD i [])) (hS.at (i:=0) rfl (by rw[ae];omega)) rfl rfl rfl rfl rfl rfl (getM ai (by omega)) rfl ?_;rw[hpg];refine ab.nil ⟨rfl,?_⟩;exact qL (N1_2_0_0_0 V) (by kernel_rfl) rfl trivial
     refine ZH.meet 9 (qB 15 187) (fun V=>[(V1,et ps),(V2,et ys)]) (fun V=>[(1,.d (.v V1)),(2,.d (.v V2)),(3,.d (ai c)),(4,.bx [.sl 1 (v.map ai)]),(9,.d (dI i)),(10,.d (ai M)),(13,.d (dI xs.length)),(14,.d (dI i)),(31,.d (.v V1)),(32,.d (dI i)),(34,.d (.v V1)),(35,.d (dI i)),(38,.d (ai M)),(36,.d (.v (eO V1 (i*1))))]) (fun V=>?_) (fun N0_1_0_0_0=>?_)
     · refine ZH.two 2 6 (by kernel_rfl) rfl rfl rfl rfl (fun _=>rfl) (fun _=>rfl) trivial ?_ ?_
       · refine ay (fun B1 F1 w1=>?_);refine qU 1 rfl ?_;refine ab.nil ⟨rfl,?_⟩;exact qL (N1_1_0_0_0 V) (by kernel_rfl) rfl trivial
       · refine bF (fun B1 F1 w1 hS=>?_);refine ab.ba tok (ai (ps.getD i [])) (hS.at (i:=0) rfl (by rw[ae];omega)) rfl rfl rfl rfl rfl rfl (getM ai (by omega)) rfl ?_;rw[hpg];refine ab.nil ⟨rfl,?_⟩;exact qL (N0_2_0_0_0 V) (by kernel_rfl) rfl trivial
     refine ZH.meet 9 (qB 15 159) (fun V=>[(V1,et ps),(V2,et ys)]) (fun V=>[(1,.d (.v V1)),(2,.d (.v V2)),(3,.d (ai c)),(4,.bx [.sl 1 (v.map ai)]),(9,.d (dI i)),(10,.d (ai M)),(13,.d (dI xs.length)),(14,.d (dI i)),(31,.d (.v V1)),(32,.d (dI i)),(34,.d (.v V1)),(35,.d (dI i)),(38,.d (ai M)),(33,.d (bA v))]) (fun V=>?_) (fun N1_0_0_0_0=>?_)
     · refine ZH.all 5 (by kernel_rfl) rfl rfl (fun _=>rfl) trivial ?_;refine bF (fun B1 F1 w1 hS=>?_);refine ab.idxs tok (hS.at (i:=0) rfl (by rw[ae];omega)) rfl rfl rfl rfl (aj i) (by rw[ae,hpl];exact hin) ?_;refine ab.nil ⟨rfl,?_⟩;exact qL (N1_1_0_0_0 V) (by kernel_rfl) rfl trivial
     refine ZH.meet 10 (qB 15 155) (fun V=>[(V1,et ps),(V2,et ys)]) (fun V=>[(1,.d (.v V1)),(2,.d (.v V2)),(3,.d (ai c)),(4,.bx [.sl 1 (v.map ai)]),(9,.d (dI i)),(10,.d (ai M)),(13,.d (dI xs.length)),(14,.d (dI i)),(31,.d (.v V1)),(32,.d (dI i)),(34,.d (.v V1)),(35,.d (dI i)),(38,.d (ai M))]) (fun V=>?_) (fun N0_0_0_0_0=>?_)
     · refine ZH.two 2 5 (by kernel_rfl) rfl rfl rfl rfl (fun _=>rfl) (fun _=>rfl) trivial ?_ ?_
       · refine ay (fun B1 F1 w1=>?_);refine qU 1 rfl ?_;refine ab.nil ⟨rfl,?_⟩;exact qL (N1_0_0_0_0 V) (by kernel_rfl) rfl trivial
       · refine bF (fun B1 F1 w1 hS=>?_);refine ab.idxs tok (hS.at (i:=0) rfl (by rw[ae];omega)) rfl rfl rfl rfl (aj i) (by rw[ae,hpl];exact hin) ?_;refine ab.nil ⟨rfl,?_⟩;exact qL (N0_1_0_0_0 V) (by kernel_rfl) rfl trivial
     exact qL (N0_0_0_0_0 gu) (by kernel_rfl) rfl trivial
   have hin:i=xs.length:=by have:=aA h;omega
   subst hin;rw[uY hz];refine AZ.exit ?_;refine AZ.seq (AZ.cO (fun B1 F1 w1=>?_));refine qU 1 rfl ?_;refine ab.nil ⟨rfl,?_⟩;exact AZ.ret ⟨aN,rfl,rfl,rfl⟩
end Lift
