/- Parts of the proof, one behind the other: the logic, the contracts of the functions that the statement reaches. -/
import Derived.StillTail
import Derived.Below
import Derived.Laws.AppendOwn
import Derived.Laws.CopyRow
import Derived.Laws.MakeOwn
set_option linter.unusedVariables false
set_option linter.unusedSimpArgs false
set_option maxHeartbeats 4000000
open Array renaming length_toList→ce,replicate→cj,getElem?_toList→cp,ext'→cA,mem_toList_iff→cS,getElem?_eq_some_iff→cT,getElem?_append_left→c0,mapM_eq_mapM_toList→c5,getD_eq_getD_getElem?→d7,size_append→eN,getElem?_setIfInBounds_ne→eY,getElem?_eq_getElem→gc,getElem?_eq_none→gM,getElem?_append→hD,foldl_toList→hV,range→jg
open BitVec renaming ofInt→d5
open Bool renaming and_eq_true→cd,false_eq_true→eb,or_eq_true→i1
open Classical renaming choose_spec→gb,choose→hN
open Go renaming sizeOf→cB,binOp→d4
open Go.Act renaming put→eh
open Go.Addr renaming add_lit→c6
open Go.Builtin renaming append_→cC,zeroCells→cM,firstCells→d6,len_→gs,lenOf→io,min2→ix,max2→i0
open Go.Call renaming operands→cn
open Go.Ending renaming returned→hZ
open Go.Instr renaming sliceBound→dz,buildSlice→dM,sureAddr→ea,fill→eo,sliceBounds→hX,storeAt→i3,sliceAt→i4,indexAt→i5,loadAt→i6,slice→ja,field→jb
open Go.Op renaming operands→an,equal→e9,equalIn→gx
open Go.Oper renaming wp→f8,looksAt→g9
open Go.Program renaming cellsOf→e6
open Go.Region renaming wanted→cI,binds→ej,ready→gt
open Go.Result renaming andThen_ok→am
open Go.Sem renaming run_bind→az,run_pure→bn,run_map→f7
open Go.Value renaming cells→d0,oneCell'→ip
open Go.World renaming cell?→hE
open List renaming getElem?_eq_some_iff→ab,getElem?_eq_getElem→a2,getElem?_append→a3,getElem?_take→bi,getElem?_drop→bv,eq_nil_of_length_eq_zero→b2,mem_of_getElem?→b3,mem_of_mem_take→ch,mem_of_mem_drop→ci,length_take→cm,length_append→co,mem_iff_getElem?→cr,size_toArray→cv,flatMap_cons→cw,append_assoc→cN,all_eq_true→c4,length_nil→c',take_zero→dl,length_drop→dT,length_cons→en,take_of_length_le→ep,range→eq,replicate→eu,mem_range→ew,mem_cons→eB,map_cons→eE,mem_replicate→eL,zipIdx_cons→f6,mapM_cons→ga,take_nil→gy,drop_nil→gB,mem_map→hA,mem_append_right→hJ,getElem?_toArray→hL,mem_filterMap→hW,foldlM_cons→ii,nil_append→it
open Nat renaming eq_of_beq_eq_true→aa,beq→ap,le_of_ble_eq_true→ax,le_refl→a4,ble→b0,ne_of_beq_eq_false→b8,zero_le→cb,eq_zero_or_pos→cg,le_trans→cx,add_mul→cz,lt_of_lt_of_le→cJ,succ_mul→c7,ne_of_lt→c8,lt_or_ge→c9,zero_mul→dn,zero_add→dr,mul_comm→d9,mul_le_mul_right→ey,div_lt_of_lt_mul→eA,div_add_mod→f9,mod_lt→go,le_mul_of_pos_right→g',sub_zero→hG,add_zero→hH,mul_ne_zero→i2,reducePow→i7,lt_irrefl→i8,add_assoc→i9
open Ne renaming symm→ct
open Option renaming map_some→bz,isSome_iff_exists→ef,map_eq_some_iff→ek,getD_some→eX,isSome_none→hU,map_none→hY
open Option.some renaming injEq→ca,inj→gR
namespace Lift
open Go
open Go.RowKit (Below)
variable {ms:Array (String×TypeId)}{ops:Array Oper}{cs cs':Array Value}{q:Bool}{f:FuncId}{iv:Int}{j:IntKind}{rest:List Oper}{vs:List Value}{B b cap d e g h id k lo m n o1 off t ty:Nat}{fz:Nat×Nat}{O O':Nat→Option Nat}{tm tm':Nat→Option Value}{F F' F0 G R X:Nat→Prop}{o og:Oper}{c x:Operand}{P:Program}{dd:TypeDesc}{info:TypeInfo}{r u v:Value}{w':World}
inductive D where
 |v (x:Value)
 |sl (s:Nat) (l:List D)
 |ag (l:List D)
 |tu (l:List D)
 |pr (l:List D)
 |fn (k:Nat) (a c:List D)
def D.flat:D→List D
 | .ag l=>l
 | .v x=>[.v x]
 | .sl s l=>[.sl s l]
 | .tu l=>[.tu l]
 | .pr l=>[.pr l]
 | .fn k a c=>[.fn k a c]
def D.ba:D→Bool
 | .v _=>true
 | .sl _ _=>true
 | .ag _=>false
 | .tu _=>false
 | .pr _=>true
 | .fn _ _ _=>true
def flatAll(l:List D):List D:=l.flatMap D.flat
def ei:Value→Bool
 | .int _ _=>true
 | .bool _=>true
 | .nilIface=>true
 | .string s=>decide (s.size≤maxLen)
 | .iface _ (.int _ _)=>true
 | .slice _ _ _=>true
 | .pointer _=>true
 | .nilFunc=>true
 |_=>false
inductive Rd (w:World) (F:Nat→Prop):D→Value→Prop
 |v {x:Value} (h:ei x=true):Rd w F (.v x) x
 |nil {s:Nat} {base:Option Addr} {cap:Nat} (hm:cap≤maxLen):Rd w F (.sl s []) (.slice base 0 cap)
 |sl {s:Nat} {l:List D} {b off cap:Nat} {cs:Array Value} {e:TypeId} {fz:Nat×Nat} (k8:Nat→Value) (hF:F b)
   (hb:w.heap[b]?=some (.cells cs e fz)) (hcap:l.length≤cap) (hm:cap≤maxLen) (hu: ∀x,x∈l→x.flat.length=s)
   (hc: ∀i,i<(flatAll l).length→cs[off+i]?=some (k8 i))
   (hk: ∀(i:Nat) (d:D),(flatAll l)[i]?=some d→d.ba=true) (hr: ∀(i:Nat) (d:D),(flatAll l)[i]?=some d→Rd w F d (k8 i)):Rd w F (.sl s l) (.slice (some ⟨b,off,none⟩) l.length cap)
 |ag {l:List D} {vs:List Value} (hl:vs.length=l.length) (hk: ∀d,d∈l→d.ba=true) (hr: ∀(i:Nat) (d:D) (u:Value),l[i]?=some d→vs[i]?=some u→Rd w F d u):Rd w F (.ag l) (.agg vs.toArray)
 |tu {l:List D} {vs:List Value} (hl:vs.length=l.length) (hr: ∀(i:Nat) (d:D) (u:Value),l[i]?=some d→vs[i]?=some u→Rd w F d u):Rd w F (.tu l) (.tuple vs.toArray)
 |pr {l:List D} {b:Nat} {cs:Array Value} {e:TypeId} (k8:Nat→Value) (hF:F b) (hb:w.heap[b]?=some (.cells cs e (0,0))) (hc: ∀i,i<l.length→cs[i]?=some (k8 i))
   (hk: ∀d,d∈l→d.ba=true) (hr: ∀(i:Nat) (d:D),l[i]?=some d→Rd w F d (k8 i)):Rd w F (.pr l) (.pointer (some ⟨b,0,none⟩))
 |fn {k:Nat} {a c:List D} {va vc:List Value} (ha:va.length=a.length) (hc:vc.length=c.length) (ra: ∀(i:Nat) (d:D) (u:Value),a[i]?=some d→va[i]?=some u→Rd w F d u)
   (rc: ∀(i:Nat) (d:D) (u:Value),c[i]?=some d→vc[i]?=some u→Rd w F d u):Rd w F (.fn k a c) (.func (.func k) va.toArray vc.toArray)
def nR(w:World)(F:Nat→Prop)(ds:List D)(vs:List Value):Prop :=
 vs.length=ds.length∧ ∀(i:Nat) (d:D) (u:Value),ds[i]?=some d→vs[i]?=some u→d.ba=true∧Rd w F d u
variable {old res y:D}{ds l l' xs:List D}
section rd
variable {w:World} 
theorem Rd.mono{d:D}(h:Rd w F d v)(hF: ∀b,F b→F' b)(hb: ∀b,F b→w'.heap[b]?=w.heap[b]?):Rd w' F' d v:=by
 induction h with
 |v h=>exact .v h
 |nil hm=>exact .nil hm
 |sl k8 hf hbb hcap hm hu hc hk hr ih=>exact .sl k8 (hF _ hf) ((hb _ hf).trans hbb) hcap hm hu hc hk ih
 |ag hl hk hr ih=>exact .ag hl hk ih
 |tu hl hr ih=>exact .tu hl ih
 |pr k8 hf hbb hc hk hr ih=>exact .pr k8 (hF _ hf) ((hb _ hf).trans hbb) hc hk ih
 |fn ha hc ra rc ih1 ih2=>exact .fn ha hc ih1 ih2
theorem Rd.j5{x:Value}(h:Rd w F (.v x) v):v=x∧ei x=true:=by
 cases h with
 |v h=>exact⟨rfl,h⟩
theorem Rd.Po(h:Rd w F (.ag l) v): ∃vs:List Value,v= .agg vs.toArray∧nR w F l vs:=by
 cases h with
 |ag hl hk hr=>exact⟨_,rfl,hl,fun i d u h1 h2=>⟨hk d (b3 h1),hr i d u h1 h2⟩⟩
theorem Rd.Ou(h:Rd w F (.tu l) v): ∃vs:List Value,v= .tuple vs.toArray∧vs.length=l.length∧ ∀(i:Nat) (d:D) (u:Value),l[i]?=some d→vs[i]?=some u→Rd w F d u:=by
 cases h with
 |tu hl hr=>exact⟨_,rfl,hl,hr⟩
theorem Rd.Ja(h:Rd w F (.pr l) v): ∃b cs e fz,v= .pointer (some ⟨b,0,none⟩)∧F b∧w.heap[b]?=some (.cells cs e fz) ∧
  ∀(i:Nat) (d:D),l[i]?=some d→d.ba=true∧ ∃u,cs[i]?=some u∧Rd w F d u:=by
 cases h with
 |pr k8 hF hb hc hk hr=>exact⟨_,_,_,_,rfl,hF,hb,fun i d hd=>⟨hk d (b3 hd),_,hc i (ab.1 hd).1,hr i d hd⟩⟩
theorem Rd.Nr(h:Rd w F (.pr l) v): ∃b cs e,v= .pointer (some ⟨b,0,none⟩)∧F b∧w.heap[b]?=some (.cells cs e (0,0)) ∧
  ∀(i:Nat) (d:D),l[i]?=some d→d.ba=true∧ ∃u,cs[i]?=some u∧Rd w F d u:=by
 cases h with
 |pr k8 hF hb hc hk hr=>exact⟨_,_,_,rfl,hF,hb,fun i d hd=>⟨hk d (b3 hd),_,hc i (ab.1 hd).1,hr i d hd⟩⟩
theorem Rd.OF{e:TypeId}(hF:F b)(hb:w.heap[b]?=some (.cells cs e (0,0)))
  (hr: ∀(i:Nat) (d:D),l[i]?=some d→d.ba=true∧ ∃u,cs[i]?=some u∧Rd w F d u):Rd w F (.pr l) (.pointer (some ⟨b,0,none⟩)):=by
 refine .pr (fun i=>(cs[i]?).getD undef) hF hb (fun i hi=>?_) (fun d hd=>?_) fun i d hd=>?_
 ·obtain⟨_,u,hu,_⟩:=hr i l[i] (a2 hi);simp[hu]
 ·obtain⟨i,hi⟩:=cr.1 hd;exact(hr i d hi).1
 ·obtain⟨h1,u,hu,h2⟩:=hr i d hd;simp only[hu,eX];exact h2
theorem Rd.O7{a c:List D}(h:Rd w F (.fn k a c) v): ∃va vc:List Value,v= .func (.func k) va.toArray vc.toArray∧va.length=a.length∧vc.length=c.length ∧
  (∀(i:Nat) (d:D) (u:Value),a[i]?=some d→va[i]?=some u→Rd w F d u)∧(∀(i:Nat) (d:D) (u:Value),c[i]?=some d→vc[i]?=some u→Rd w F d u):=by
 cases h with
 |fn ha hc ra rc=>exact⟨_,_,rfl,ha,hc,ra,rc⟩
theorem Rd.CL{s:Nat}(h:Rd w F (.sl s l) v): ∃a cap,v= .slice a l.length cap∧l.length≤cap∧cap≤maxLen ∧
  (l=[]∨ ∃b off cs e fz,a=some ⟨b,off,none⟩∧F b∧w.heap[b]?=some (.cells cs e fz)∧(∀x,x∈l→x.flat.length=s) ∧
   ∀(i:Nat) (d:D),(flatAll l)[i]?=some d→d.ba=true∧ ∃u,cs[off+i]?=some u∧Rd w F d u):=by
 cases h with
 |nil hm=>exact⟨_,_,rfl,cb _,hm,.inl rfl⟩
 |sl k8 hF hb hcap hm hu hc hk hr =>
  refine⟨_,_,rfl,hcap,hm,.inr ⟨_,_,_,_,_,rfl,hF,hb,hu,fun i d hd=>⟨hk i d hd,_,hc i (ab.1 hd).1,hr i d hd⟩⟩⟩
theorem Rd.nV{s:Nat}{e:TypeId}(hF:F b)
  (hb:w.heap[b]?=some (.cells cs e fz)) (hcap:l.length≤cap) (hm:cap≤maxLen) (hu: ∀x,x∈l→x.flat.length=s)
  (hr: ∀(i:Nat) (d:D),(flatAll l)[i]?=some d→d.ba=true∧ ∃u,cs[off+i]?=some u∧Rd w F d u):Rd w F (.sl s l) (.slice (some ⟨b,off,none⟩) l.length cap):=by
 refine .sl (fun i=>(cs[off+i]?).getD undef) hF hb hcap hm hu (fun i hi=>?_) (fun i d hd=>(hr i d hd).1) fun i d hd=>?_
 ·obtain⟨_,u,hu,_⟩:=hr i (flatAll l)[i] (a2 hi);simp[hu]
 ·obtain⟨h1,u,hu,h2⟩:=hr i d hd;simp only[hu,eX];exact h2
theorem uW{x:Value}(h:ei x=true):x.oneCell'=true:=by
 cases x<;>simp_all [ei,ip]
theorem Rd.cell{d:D}(h:Rd w F d v)(hc:d.ba=true):v.oneCell'=true:=by
 cases h with
 |v h=>exact uW h
 |nil=>rfl
 |sl=>rfl
 |ag=>simp[D.ba]at hc
 |tu=>simp[D.ba]at hc
 |pr=>rfl
 |fn=>rfl
theorem H7(h:v.oneCell'=true):v.cells= #[v]:=by
 cases v<;>simp_all [ip,d0]
theorem D.mS{d:D}(h:d.ba=true):d.flat=[d]:=by
 cases d<;>simp_all [D.ba,D.flat]
theorem Rd.cells{d:D}(h:Rd w F d v)(hd: ∀l,d≠ .tu l):nR w F d.flat v.cells.toList:=by
 cases h with
 |v h =>
  rw[H7 (uW h)];refine⟨rfl,fun i d u h1 h2=>?_⟩;cases i<;>simp[D.flat]at h1 h2;subst h1;subst h2;exact⟨rfl,.v h⟩
 | @nil s base cap hm =>
   refine⟨rfl,fun i d u h1 h2=>?_⟩;cases i<;>simp[D.flat,d0]at h1 h2;subst h1;subst h2;exact⟨rfl,.nil hm⟩
 |sl k8 hF hb hcap hm hu hc hk hr =>
  refine⟨rfl,fun i d u h1 h2=>?_⟩;cases i<;>simp[D.flat,d0]at h1 h2;subst h1;subst h2;exact⟨rfl,.sl k8 hF hb hcap hm hu hc hk hr⟩
 |ag hl hk hr=>exact⟨by simpa[d0,D.flat]using hl,fun i d u h1 h2=>⟨hk d (b3 h1),hr i d u h1 (by simpa[d0]using h2)⟩⟩
 |tu=>exact absurd rfl (hd _)
 |pr k8 hF hb hc hk hr =>
  refine⟨rfl,fun i d u h1 h2=>?_⟩;cases i<;>simp[D.flat,d0]at h1 h2;subst h1;subst h2;exact⟨rfl,.pr k8 hF hb hc hk hr⟩
 |fn ha hc ra rc =>
  refine⟨rfl,fun i d u h1 h2=>?_⟩;cases i<;>simp[D.flat,d0]at h1 h2;subst h1;subst h2;exact⟨rfl,.fn ha hc ra rc⟩
theorem nR.mono(h:nR w F ds vs)(hF: ∀b,F b→F' b)(hb: ∀b,F b→w'.heap[b]?=w.heap[b]?):nR w' F' ds vs :=
 ⟨h.1,fun i d u h1 h2=>⟨(h.2 i d u h1 h2).1,(h.2 i d u h1 h2).2.mono hF hb⟩⟩
theorem nR.get(h:nR w F ds vs){i:Nat}{d:D}(hi:ds[i]?=some d):d.ba=true∧ ∃u,vs[i]?=some u∧Rd w F d u:=by
 have hlt:i<vs.length:=by rw[h.1];exact(ab.1 hi).1
 exact⟨(h.2 i d _ hi (a2 hlt)).1,_,a2 hlt,(h.2 i d _ hi (a2 hlt)).2⟩
theorem nR.yC(h:nR w F ds vs): ∀u∈vs,u.oneCell'=true:=by
 intro u hu;obtain⟨i,hi⟩:=cr.1 hu;have hlt:i<ds.length:=by rw[←h.1];exact(ab.1 hi).1
 have:=h.2 i _ u (a2 hlt) hi;exact this.2.cell this.1
end rd
inductive AV where
 |d (x:D)
 |bx (cs:List D)
 |pt (h off:Nat)
 |rf (cs:List D)
 |e0 (e:Nat)
 |ow (e:Nat) (l:List D)
 |wn (q:Bool) (e:Nat) (l:List D) (lo m:Nat)
 |al (h:Nat)
 |el (h i off:Nat)
 |sb (h lo m:Nat)
 |un
 |junk
def AV.refs:AV→Option Nat
 | .pt h _=>some h
 | .al h=>some h
 | .el h _ _=>some h
 | .sb h _ _=>some h
 | .d _=>none
 | .bx _=>none
 | .rf _=>none
 | .e0 _=>none
 | .ow _ _=>none
 | .wn _ _ _ _ _=>none
 | .un=>none
 | .junk=>none
def AV.home:AV→Bool
 | .bx _=>true
 | .ow _ _=>true
 | .wn _ _ _ _ _=>true
 | .d _=>false
 | .pt _ _=>false
 | .rf _=>false
 | .e0 _=>false
 | .al _=>false
 | .el _ _ _=>false
 | .sb _ _ _=>false
 | .un=>false
 | .junk=>false
def AV.row:AV→Option (Nat×List D)
 | .ow e l=>some (e,l)
 | .wn q e l _ _=>some (e,l)
 | .d _=>none
 | .bx _=>none
 | .pt _ _=>none
 | .rf _=>none
 | .e0 _=>none
 | .al _=>none
 | .el _ _ _=>none
 | .sb _ _ _=>none
 | .un=>none
 | .junk=>none
def AV.tag:AV→Bool
 | .wn q _ _ _ _=>q
 | .ow _ _=>false
 | .d _=>false
 | .bx _=>false
 | .pt _ _=>false
 | .rf _=>false
 | .e0 _=>false
 | .al _=>false
 | .el _ _ _=>false
 | .sb _ _ _=>false
 | .un=>false
 | .junk=>false
abbrev St:=List (Nat×AV)
def St.get:St→Nat→Option AV
 |[],_=>none
 |(k,a)::r,t=>match ap k t with
  |true=>some a
  |false=>St.get r t
def AV.kill(d:Nat):AV→AV
 | .pt h o=>match ap h d with
   |true=>.junk
   |false=>.pt h o
 | .al h=>match ap h d with
   |true=>.junk
   |false=>.al h
 | .el h i o=>match ap h d with
   |true=>.junk
   |false=>.el h i o
 | .sb h i o=>match ap h d with
   |true=>.junk
   |false=>.sb h i o
 | .d x=>.d x
 | .bx cs=>.bx cs
 | .rf cs=>.rf cs
 | .e0 e=>.e0 e
 | .ow e l=>.ow e l
 | .wn q e l i o=>.wn q e l i o
 | .un=>.un
 | .junk=>.junk
def St.kill(d:Nat):St→St
 |[]=>[]
 |(k,a)::r=>(k,a.kill d)::St.kill d r
def St.put(σ:St)(d:Nat)(av:AV):St:=match av.home with
 |true=>(d,av)::σ.kill d
 |false=>(d,av)::σ
def St.fc(ks:List Nat)(σ:St):St:=match ks with
 |[]=>[]
 |k::r=>match σ.get k with
  |some a=>(k,a)::St.fc r σ
  |none=>St.fc r σ
theorem St.aL(k:Nat)(a:AV)(r:St)(t:Nat):St.get ((k,a)::r) t=if k=t then some a else St.get r t:=by
 simp only[St.get];cases h:ap k t with
 |true=>simp[aa h]
 |false=>simp[b8 h]
theorem St.dA(d:Nat)(σ:St)(t:Nat):(σ.kill d).get t=(σ.get t).map (AV.kill d):=by
 induction σ with
 |nil=>rfl
 |cons e r ih =>
  obtain⟨k,a⟩:=e;simp only[St.kill,St.aL];split<;>simp[ih]
theorem St.s8(ks:List Nat)(σ:St)(t:Nat):(σ.fc ks).get t=if t∈ks then σ.get t else none:=by
 induction ks with
 |nil=>simp[St.fc,St.get]
 |cons k r ih =>
  simp only[St.fc];cases h:σ.get k with
  |none =>
   simp only[ih];by_cases hk:t=k
   ·subst hk;simp[h]
   ·simp[hk]
  |some a =>
   simp only[St.aL,ih];by_cases hk:k=t
   ·subst hk;simp[h]
   ·simp[hk,ct hk]
theorem AV.jW(d:Nat)(a:AV):a.kill d=a∧a.refs≠some d∨a.kill d= .junk:=by
 have key: ∀h:Nat,h=d∨h≠d∧ap h d=false:=fun h=>by
  by_cases e:h=d
  ·exact .inl e
  ·exact .inr ⟨e,by cases hb:ap h d with
    |true=>exact absurd (aa hb) e
    |false=>rfl⟩
 cases a with
 |pt h o=>rcases key h with rfl|⟨e,hb⟩<;>simp[AV.kill,AV.refs, *]
 |al h=>rcases key h with rfl|⟨e,hb⟩<;>simp[AV.kill,AV.refs, *]
 |el h i o=>rcases key h with rfl|⟨e,hb⟩<;>simp[AV.kill,AV.refs, *]
 |sb h i o=>rcases key h with rfl|⟨e,hb⟩<;>simp[AV.kill,AV.refs, *]
 |_=>simp[AV.kill,AV.refs]
theorem de{s:Nat}: ∀{l:List D} {i:Nat} {e:D} (j:Nat),(∀x,x∈l→x.flat.length=s)→l[i]?=some e→j<s→(flatAll l)[i*s+j]?=e.flat[j]?
 |[],i,e,j,_,h,_=>by simp at h
 |x::l,0,e,j,hu,h,hj=>by simp at h;subst h;have:=hu x (by simp);simp only[flatAll,cw,dn,dr];rw[List.getElem?_append_left (by omega)]
 |x::l,i+1,e,j,hu,h,hj=>by have hx:=hu x (by simp);have ih:=de (l:=l) (i:=i) j (fun y hy=>hu y (by simp[hy])) (by simpa using h) hj;simp only[flatAll,cw];rw[List.getElem?_append_right (by rw[hx,c7];omega),hx,show(i+1)*s+j-s=i*s+j by rw[c7];omega];exact ih
theorem aR{s:Nat}: ∀{l:List D},(∀x,x∈l→x.flat.length=s)→(flatAll l).length=l.length*s
 |[],_=>by simp[flatAll]
 |x::l,hu=>by have hx:=hu x (by simp);have ih:=aR (l:=l) (fun y hy=>hu y (by simp[hy]));simp only[flatAll,cw,co,en,hx]at ih ⊢;rw[ih,c7];omega
theorem cD(l m:List D):flatAll (l++m)=flatAll l++flatAll m:=by simp[flatAll]
theorem kn{s:Nat}(hu: ∀x,x∈l→x.flat.length=s)(lo m i:Nat){d:D}(h:(flatAll ((l.drop lo).take m))[i]?=some d):(flatAll l)[lo*s+i]?=some d:=by
 have hus: ∀y,y∈(l.drop lo).take m→y.flat.length=s:=fun y hy=>hu y (ci (ch hy));have hil:=(ab.1 h).1;rw[aR hus]at hil
 have hs0:0<s:=by
  rcases cg s with h|h
  ·subst h;simp at hil
  ·exact h
 have hq:i/s<((l.drop lo).take m).length:=eA (by rw[d9];exact hil);have hmod:=go i hs0;have hid:i/s*s+i%s=i:=by rw[d9];exact f9 _ _
 have e1:=de (i%s) hus (a2 hq) hmod;rw[hid,h]at e1
 have hel:l[lo+i/s]?=some ((l.drop lo).take m)[i/s]:=by
  have:=a2 hq;rw[bi,bv]at this;split at this
  ·exact this
  ·cases this
 have e2:=de (i%s) hu hel hmod;rw[←e1,cz,i9,hid]at e2;exact e2
structure TI where
 size:Nat
 bytes:Nat
 agg:Bool
 zero:List D
 fields:List (Nat×Nat×Bool)
 elem:Nat
 kind:Nat
 ik:IntKind
abbrev Ty:=List (Nat×TI)
def Ty.get:Ty→Nat→Option TI
 |[],_=>none
 |(k,a)::r,t=>match ap k t with
  |true=>some a
  |false=>Ty.get r t
theorem Ty.aL(k:Nat)(a:TI)(r:Ty)(t:Nat):Ty.get ((k,a)::r) t=if k=t then some a else Ty.get r t:=by
 simp only[Ty.get];cases h:ap k t with
 |true=>simp[aa h]
 |false=>simp[b8 h]
def Py:D→Value→Bool
 | .v (.int k n),.int k' n'=>decide (k=k')&&decide (n=n')
 | .v (.bool b),.bool b'=>b==b'
 | .v (.string s),.string s'=>decide (s.data=s'.data)&&decide (s.size=0)
 | .v .nilIface,.nilIface=>true
 | .v .nilFunc,.nilFunc=>true
 | .v (.pointer none),.pointer none=>true
 | .sl _ [],.slice none 0 0=>true
 |_,_=>false
def vr:List D→List Value→Bool
 |[],[]=>true
 |d::ds,v::vs=>Py d v&&vr ds vs
 |_,_=>false
theorem Ib{w:World}{d:D}(h:Py d v=true):d.ba=true∧Rd w F d v:=by
 unfold Py at h;split at h
 ·simp at h;obtain⟨rfl,rfl⟩:=h;exact⟨rfl,.v rfl⟩
 ·simp at h;subst h;exact⟨rfl,.v rfl⟩
 ·rename_i s s';simp at h;have:s=s':=by cases s;cases s';simp_all
  subst this;exact⟨rfl,.v (by simp[ei,h.2,maxLen])⟩
 ·exact⟨rfl,.v rfl⟩
 ·exact⟨rfl,.v rfl⟩
 ·exact⟨rfl,.v rfl⟩
 ·exact⟨rfl,.nil (cb _)⟩
 ·cases h
theorem rQ{w:World}{F:Nat→Prop}: ∀{ds:List D} {vs:List Value},vr ds vs=true→nR w F ds vs
 |[],[],_=>⟨rfl,fun i d u h=>by simp at h⟩
 |[],_::_,h=>by simp[vr]at h
 |_::_,[],h=>by simp[vr]at h
 |d::ds,v::vs,h=>by
  simp only[vr,cd]at h;have ih:=rQ (w:=w) (F:=F) h.2;refine⟨by simp[ih.1],fun i d' u h1 h2=>?_⟩;cases i with
  |zero=>simp at h1 h2;subst h1;subst h2;exact Ib h.1
  |succ i=>exact ih.2 i d' u (by simpa using h1) (by simpa using h2)
def Mg(P:Program)(t:Nat):Bool:=match P.underlying t with
 |some (.struct _)=>true
 |some (.array _ _)=>true
 |_=>false
def fieldsOf(P:Program)(fs:List Field):List (Nat×Nat×Bool):=fs.map fun f=>(f.offset,P.cellsOf f.type,Mg P f.type)
def mr(P:Program)(i:TI):TypeDesc→Bool
 | .struct fs=>decide (i.kind=5)&&i.agg&&decide (fieldsOf P fs.toList=i.fields)&&fs.toList.all (fun f=>(P.info? f.type).isSome&&(P.underlying f.type).isSome&&decide (0<P.cellsOf f.type))
 | .slice e=>decide (i.kind=4)&& !i.agg&&decide (i.elem=e)
 | .string=>decide (i.kind=3)&& !i.agg
 | .int k=>decide (i.kind=2)&& !i.agg&&decide (i.ik=k)
 | .bool=>decide (i.kind=1)&& !i.agg
 | .interface _=>decide (i.kind=6)&& !i.agg
 | .pointer _=>decide (i.kind=7)&& !i.agg
 | .func _ _ _=>decide (i.kind=8)&& !i.agg
 | .array n e=>decide (i.kind=9)&&i.agg&&decide (i.elem=e)&&decide (i.fields=[(n,P.cellsOf e,true)])
 |_=>false
def TI.check(P:Program)(t:Nat)(i:TI):Bool :=
 match P.info? t,P.underlying t with
 |some info,some d=>decide (info.size=i.size)&&decide (info.bytes=i.bytes)&&mr P i d&&(match info.zero with
  |some z=>vr i.zero z.cells.toList&&decide (z.cells.size=i.size)
  |none=>false)
 |_,_=>false
structure kJ (P:Program) (t:Nat) (i:TI) (info:TypeInfo) (d:TypeDesc) (z:Value):Prop where
 hinfo:P.info? t=some info
 und:P.underlying t=some d
 size:info.size=i.size
 bytes:info.bytes=i.bytes
 desc:mr P i d=true
 zero:info.zero=some z
 vr:vr i.zero z.cells.toList=true
 zsize:z.cells.size=i.size
variable {av:AV}{Q:Exit→St→Prop}{hm hm' lk:Nat→Option AV}{σ σ':St}{K:St→Prop}{i te ti:TI}{T:Ty}
theorem TI.th(h:TI.check P t i=true): ∃info d z,kJ P t i info d z:=by
 unfold TI.check at h;split at h
 ·rename_i info d h1 h2;simp only[cd,decide_eq_true_eq]at h;obtain⟨⟨⟨h3,h4⟩,h5⟩,h6⟩:=h;split at h6
  ·rename_i z hz;simp only[cd,decide_eq_true_eq]at h6;exact⟨info,d,z,h1,h2,h3,h4,h5,hz,h6.1,h6.2⟩
  ·cases h6
 ·cases h
def bB(P:Program)(T:Ty):Prop:= ∀t i,T.get t=some i→ ∃info d z,kJ P t i info d z
def Ty.check(P:Program):Ty→Bool
 |[]=>true
 |(k,i)::r=>TI.check P k i&&Ty.check P r
theorem Ty.th{P:Program}: ∀{T:Ty},T.check P=true→bB P T
 |[],_,t,i,h=>by simp[Ty.get]at h
 |(k,a)::r,hc,t,i,h=>by
  simp only[Ty.check,cd]at hc;rw[Ty.aL]at h;split at h
  ·rename_i hk;subst hk;simp at h;subst h;exact TI.th hc.1
  ·exact Ty.th hc.2 t i h
theorem kJ.cellsOf{d:TypeDesc}{z:Value}(h:kJ P t i info d z):P.cellsOf t=i.size:=by simp[e6,h.hinfo,h.size]
def aQ(O:Nat→Option Nat)(F:Nat→Prop)(b:Nat):Prop:=O b=none∧F b
structure dh where
 w:World
 X:Nat→Prop
def kS(B:Nat)(w0:dh)(w:World)(b:Nat):Prop:=(B≤b∨w0.X b)∧b<w.heap.size
structure jq (B:Nat) (w0:dh) (a c:World):Prop where
 os:c.os=a.os
 tape:c.tape=a.tape
 output:c.output=a.output
 size:a.heap.size≤c.heap.size
 block: ∀k,k<B→ ¬w0.X k→c.heap[k]?=a.heap[k]?
 same: ∀(k:Nat) (cs:Array Value) (e:TypeId) (fz:Nat×Nat),a.heap[k]?=some (Obj.cells cs e fz)→ ∃cs':Array Value,c.heap[k]?=some (Obj.cells cs' e fz)∧cs'.size=cs.size
theorem jq.refl(B:Nat)(w0:dh)(a:World):jq B w0 a a:=⟨rfl,rfl,rfl,a4 _,fun _ _ _=>rfl,fun _ cs _ _ h=>⟨cs,h,rfl⟩⟩
variable {w0:dh}
theorem jq.trans{a b c:World}(h:jq B w0 a b)(k:jq B w0 b c):jq B w0 a c :=
 ⟨k.os.trans h.os,k.tape.trans h.tape,k.output.trans h.output,cx h.size k.size,fun i hi hx=>(k.block i hi hx).trans (h.block i hi hx),fun i cs e fz hi=>by
   obtain⟨c1,h1,h2⟩:=h.same i cs e fz hi;obtain⟨c2,h3,h4⟩:=k.same i c1 e fz h1
   exact⟨c2,h3,h4.trans h2⟩⟩
theorem jq.of{a c:World}(h:Below a.heap.size a c)(hB:B≤a.heap.size):jq B w0 a c :=
 ⟨h.os,h.tape,h.output,h.size,fun i hi _=>h.block i (cJ hi hB),fun i cs e fz hi=>⟨cs,(h.block i (cT.1 hi).1).trans hi,rfl⟩⟩
theorem jq.drew{a w:World}(h:jq B w0 a w):jq B w0 a {w with drawn:=w.drawn+1}:=⟨h.os,h.tape,h.output,h.size,h.block,h.same⟩
theorem jq.write{w:World}{e:TypeId}(hb:w.heap[b]?=some (.cells cs e fz))(hs:cs'.size=cs.size)(hx:B≤b∨w0.X b):jq B w0 w (w.setRow b cs'):=by
 refine⟨rfl,rfl,rfl,by simp,fun k hk hxk=>setRow_other w b k cs' (fun e=>?_),fun k c e' fz' hk=>?_⟩
 ·subst e;rcases hx with h1|h1
  ·omega
  ·exact hxk h1
 ·by_cases hkb:k=b
  ·subst hkb;rw[hb]at hk;simp at hk;obtain⟨rfl,rfl,rfl⟩:=hk;exact⟨cs',setRow_heap w k _ cs' _ _ hb,hs⟩
  ·exact⟨c,(setRow_other w b k cs' hkb).trans hk,rfl⟩
structure FU (B:Nat) (F0:Nat→Prop) (w0:dh):Prop where
 lt: ∀b,F0 b→b<B
 x: ∀b,w0.X b→F0 b
def FW(B:Nat)(F0:Nat→Prop)(w:World)(b:Nat):Prop:=F0 b∨(B≤b∧b<w.heap.size)
def fo(P:Program)(X:Nat→Prop)(w:World)(O:Nat→Option Nat)(F:Nat→Prop)(hm:Nat→Option AV)(tm:Nat→Option Value)(t:Nat):AV→Value→Prop
 | .d x,v=>Rd w (aQ O F) x v
 | .bx ds,v=> ∃b cs e,v= .pointer (some ⟨b,0,none⟩)∧O b=some t∧w.heap[b]?=some (.cells cs e (0,0))∧nR w (aQ O F) ds cs.toList
 | .pt h off,v=> ∀ds,hm h=some (.bx ds)→ ∃b,tm h=some (.pointer (some ⟨b,0,none⟩))∧v= .pointer (some ⟨b,off,none⟩)
 | .rf ds,v=> ∃b off cs e fz,v= .pointer (some ⟨b,off,none⟩)∧aQ O F b∧w.heap[b]?=some (.cells cs e fz) ∧
   ∀(i:Nat) (d:D),ds[i]?=some d→d.ba=true∧ ∃u,cs[off+i]?=some u∧Rd w (aQ O F) d u
 | .e0 _,v=> ∃base,v= .slice base 0 0
 | .ow e l,v=>(∃base,v= .slice base 0 0∧l=[])∨ ∃b cap cs,v= .slice (some ⟨b,0,none⟩) l.length cap∧O b=some t∧w.heap[b]?=some (.cells cs e (0,0)) ∧
   l.length≤cap∧cap≤maxLen∧cs.size=cap*P.cellsOf e∧(∀x,x∈l→x.flat.length=P.cellsOf e) ∧
   ∀(i:Nat) (d:D),(flatAll l)[i]?=some d→d.ba=true∧ ∃u,cs[i]?=some u∧Rd w (aQ O F) d u
 | .wn q e l lo m,v=>(q=false∧ ∃base,v= .slice base 0 0∧l=[]∧lo=0∧m=0)∨ ∃b o cap cs,(q=true→X b)∧v= .slice (some ⟨b,o,none⟩) m cap∧((m=0∨o=lo*P.cellsOf e)∧(cap=0∨o=lo*P.cellsOf e)∧o+cap*P.cellsOf e≤cs.size)∧O b=some t∧w.heap[b]?=some (.cells cs e (0,0)) ∧
   lo+m≤l.length∧m≤cap∧cap≤maxLen∧(∀x,x∈l→x.flat.length=P.cellsOf e) ∧
   ∀(i:Nat) (d:D),(flatAll l)[i]?=some d→d.ba=true∧ ∃u,cs[i]?=some u∧Rd w (aQ O F) d u
 | .al h,v=> ∀x,hm h=some x→x.row.isSome=true→tm h=some v
 | .el h i off,v=> ∀x e l,hm h=some x→x.row=some (e,l)→i<l.length∧ ∃b o1 len cap,tm h=some (.slice (some ⟨b,o1,none⟩) len cap)∧v= .pointer (some ⟨b,i*P.cellsOf e+off,none⟩)
 | .sb h lo m,v=> ∀x e l,hm h=some x→x.row=some (e,l)→lo+m≤l.length∧ ∃cap',m≤cap'∧cap'≤maxLen∧((l.length=0∧x.tag=false∧cap'=0∧ ∃base,v= .slice base 0 cap') ∨
   ∃b o1 len cap o,tm h=some (.slice (some ⟨b,o1,none⟩) len cap)∧v= .slice (some ⟨b,o,none⟩) m cap'∧(m=0∨o=lo*P.cellsOf e)∧(cap'=0∨o=lo*P.cellsOf e)∧o+cap'*P.cellsOf e≤o1+cap*P.cellsOf e∧cap'≤cap)
 | .un,v=>v=undef
 | .junk,_=>True
theorem dQ{x:AV}(h:x.row.isSome=true):x.home=true:=by cases x<;>simp_all [AV.row,AV.home]
theorem fo.mono{w:World}
  (h:fo P X w O F hm tm t av v) (hF: ∀b,F b→b<w.heap.size∧F' b) (hO: ∀b,b<w.heap.size→O' b=O b)
  (hOr: ∀b u,O b=some u→b<w.heap.size) (hb: ∀b,b<w.heap.size→w'.heap[b]?=w.heap[b]?)
  (hr: ∀k,av.refs=some k→ ∀x,x.home=true→hm' k=some x→hm k=some x∧tm' k=tm k):fo P X w' O' F' hm' tm' t av v:=by
 have hFr: ∀b,aQ O F b→aQ O' F' b:=fun b hb=>⟨by rw[hO b (hF b hb.2).1];exact hb.1,(hF b hb.2).2⟩;have hB: ∀b,aQ O F b→w'.heap[b]?=w.heap[b]?:=fun b h'=>hb b (hF b h'.2).1;cases av with
 |d x=>exact Rd.mono h hFr hB
 |bx ds =>
  obtain⟨b,cs,e,h1,h2,h3,h4⟩:=h;have:=hOr b t h2;exact⟨b,cs,e,h1,(hO b this).trans h2,(hb b this).trans h3,h4.mono hFr hB⟩
 |pt k off =>
  intro ds hds;obtain⟨e2,e1⟩:=hr k rfl _ rfl hds;rw[e1];exact h ds e2
 |rf ds =>
  obtain⟨b,off,cs,e,fz,h1,h2,h3,h4⟩:=h;exact⟨b,off,cs,e,fz,h1,hFr b h2,(hB b h2).trans h3,fun i d hd=>⟨(h4 i d hd).1,let ⟨u,hu,hr⟩:=(h4 i d hd).2;⟨u,hu,hr.mono hFr hB⟩⟩⟩
 |e0 e=>exact h
 |ow e l =>
  rcases h with h|⟨b,cap,cs,h1,h2,h3,h4,h5,h6,h7,h8⟩
  ·exact .inl h
  ·have:=hOr b t h2;exact .inr ⟨b,cap,cs,h1,(hO b this).trans h2,(hb b this).trans h3,h4,h5,h6,h7,fun i d hd=>⟨(h8 i d hd).1,let ⟨u,hu,hr⟩:=(h8 i d hd).2;⟨u,hu,hr.mono hFr hB⟩⟩⟩
 |wn q e l lo m =>
  rcases h with h|⟨b,o,cap,cs,hq,h1,h0,h2,h3,h4,h5,h6,h7,h8⟩
  ·exact .inl h
  have:=hOr b t h2;exact .inr ⟨b,o,cap,cs,hq,h1,h0,(hO b this).trans h2,(hb b this).trans h3,h4,h5,h6,h7,fun i d hd=>⟨(h8 i d hd).1,let ⟨u,hu,hr⟩:=(h8 i d hd).2;⟨u,hu,hr.mono hFr hB⟩⟩⟩
 |al k =>
  intro x hx hrow;obtain⟨e2,e1⟩:=hr k rfl _ (dQ hrow) hx;rw[e1];exact h x e2 hrow
 |el k i off =>
  intro x e l hx hrow;obtain⟨e2,e1⟩:=hr k rfl _ (dQ (by rw[hrow];rfl)) hx;rw[e1];exact h x e l e2 hrow
 |sb k lo m =>
  intro x e l hx hrow;obtain⟨e2,e1⟩:=hr k rfl _ (dQ (by rw[hrow];rfl)) hx;rw[e1];exact h x e l e2 hrow
 |un=>exact h
 |junk=>trivial
theorem fo.write{w:World}
  (ha:fo P X w O F hm tm t av v) (hb:O b=some h) (ht:t=h→av.home=false) (hF: ∀b,F b→F' b)
  (hr: ∀k,av.refs=some k→(∀ds,hm' k=some (.bx ds)→ ∃ds',hm k=some (.bx ds'))∧(∀x e l,hm' k=some x→x.row=some (e,l)→ ∃y l',hm k=some y∧y.row=some (e,l')∧l'.length=l.length∧y.tag=x.tag)):
  fo P X (w.setRow b cs) O F' hm' tm t av v:=by
 have hFr: ∀c,aQ O F c→aQ O F' c:=fun c hc=>⟨hc.1,hF c hc.2⟩;have hB: ∀c,aQ O F c→(w.setRow b cs).heap[c]?=w.heap[c]?:=fun c hc=>setRow_other w b c cs (fun e=>by rw[e,aQ,hb]at hc;cases hc.1);cases av with
 |d x=>exact Rd.mono ha hFr hB
 |bx ds =>
  obtain⟨c,cc,e,h1,h2,h3,h4⟩:=ha
  have hne:c≠b:=fun e=>by subst e;rw[hb]at h2;simp at h2;have:=ht h2.symm;simp[AV.home]at this
  exact⟨c,cc,e,h1,h2,(setRow_other w b c cs hne).trans h3,h4.mono hFr hB⟩
 |pt k off =>
  intro ds hds;obtain⟨ds',e2⟩:=(hr k rfl).1 ds hds;exact ha ds' e2
 |rf ds =>
  obtain⟨c,off,cc,e,fz,h1,h2,h3,h4⟩:=ha;exact⟨c,off,cc,e,fz,h1,hFr c h2,(hB c h2).trans h3,fun i d hd=>⟨(h4 i d hd).1,let ⟨u,hu,hr⟩:=(h4 i d hd).2;⟨u,hu,hr.mono hFr hB⟩⟩⟩
 |e0 e=>exact ha
 |ow e l =>
  rcases ha with ha|⟨c,cap,cc,h1,h2,h3,h4,h5,h6,h7,h8⟩
  ·exact .inl ha
  ·have hne:c≠b:=fun e=>by subst e;rw[hb]at h2;simp at h2;have:=ht h2.symm;simp[AV.home]at this
   exact .inr ⟨c,cap,cc,h1,h2,(setRow_other w b c cs hne).trans h3,h4,h5,h6,h7,fun i d hd=>⟨(h8 i d hd).1,let ⟨u,hu,hr⟩:=(h8 i d hd).2;⟨u,hu,hr.mono hFr hB⟩⟩⟩
 |wn q e l lo m =>
  rcases ha with ha|⟨c,o,cap,cc,hq,h1,h0,h2,h3,h4,h5,h6,h7,h8⟩
  ·exact .inl ha
  have hne:c≠b:=fun e=>by subst e;rw[hb]at h2;simp at h2;have:=ht h2.symm;simp[AV.home]at this
  exact .inr ⟨c,o,cap,cc,hq,h1,h0,h2,(setRow_other w b c cs hne).trans h3,h4,h5,h6,h7,fun i d hd=>⟨(h8 i d hd).1,let ⟨u,hu,hr⟩:=(h8 i d hd).2;⟨u,hu,hr.mono hFr hB⟩⟩⟩
 |al k =>
  intro x hx hrow;cases hrw:x.row with
  |none=>rw[hrw]at hrow;cases hrow
  |some p =>
   obtain⟨y,l',e2,e3,_,_⟩:=(hr k rfl).2 x p.1 p.2 hx hrw;exact ha y e2 (by rw[e3];rfl)
 |el k i off =>
  intro x e l hx hrow;obtain⟨y,l',e2,e3,e4,e5⟩:=(hr k rfl).2 x e l hx hrow;obtain⟨h0,h1⟩:=ha y e l' e2 e3;exact⟨by omega,h1⟩
 |sb k lo m =>
  intro x e l hx hrow;obtain⟨y,l',e2,e3,e4,e5⟩:=(hr k rfl).2 x e l hx hrow;obtain⟨h0,cap',h1,h2,h3⟩:=ha y e l' e2 e3;rw[e4]at h0 h3;rw[e5]at h3;exact⟨h0,cap',h1,h2,h3⟩
 |un=>exact ha
 |junk=>trivial
structure Inv (P:Program) (B:Nat) (F0:Nat→Prop) (w0:dh) (R:Nat→Prop) (lk hm:Nat→Option AV) (a:Act) (w:World) (O:Nat→Option Nat):Prop where
 below:jq B w0 w0.w w
 base:B≤w.heap.size
 f0:FU B F0 w0
 orange: ∀b t,O b=some t→kS B w0 w b
 rd: ∀t,R t→ ∀av,lk t=some av→ ∃v,a.tmps[t]?=some v∧fo P w0.X w O (FW B F0 w) hm (fun h=>a.tmps[h]?) t av v
 hm: ∀t av,hm t=some av→av.home=true→ ∃v,a.tmps[t]?=some v∧fo P w0.X w O (FW B F0 w) hm (fun h=>a.tmps[h]?) t av v
structure dG (w:World) (O:Nat→Option Nat) (d:Nat) (w':World) (O':Nat→Option Nat):Prop where
 below:Below w.heap.size w w'
 same: ∀b,b<w.heap.size→O' b=O b
 mine: ∀b t,O' b=some t→b<w.heap.size∨(t=d∧b<w'.heap.size)
theorem dG.refl{w:World}(h: ∀b t,O b=some t→b<w.heap.size):dG w O d w O:=⟨.refl _ _,fun _ _=>rfl,fun b t hb=>.inl (h b t hb)⟩
theorem kS.fw{w:World}(h:kS B w0 w b)(f0:FU B F0 w0):FW B F0 w b:=by
 rcases h.1 with h1|h1
 ·exact .inr ⟨h1,h.2⟩
 ·exact .inl (f0.x b h1)
theorem FW.step{w:World}(f0:FU B F0 w0)(hB:B≤w.heap.size)(hs:w.heap.size≤w'.heap.size)(b:Nat)(h:FW B F0 w b):b<w.heap.size∧FW B F0 w' b:=by
 rcases h with h|⟨h1,h2⟩
 ·exact⟨cJ (f0.lt b h) hB,.inl h⟩
 ·exact⟨h2,.inr ⟨h1,cJ h2 hs⟩⟩
theorem bh{a:Act}{w:World}{K:Act→World→Prop}{Q:Exit→Act→World→Prop}
  (h:(execOp a.eval o).run P w= .ok (.value v) w') (hk:K (a.put o.dst v) w'):o.wp P a w K Q:=by
 unfold f8;rw[h];exact hk
theorem wI{a:Act}{w:World}{K:Act→World→Prop}{Q:Exit→Act→World→Prop}
  (h:(execOp a.eval o).run P w= .ok .skip w') (hk:K (a.put o.dst undef) w'):o.wp P a w K Q:=by
 unfold f8;rw[h];exact hk
def aM(P:Program)(B:Nat)(F0:Nat→Prop)(w0:dh)(d:Nat)(o:Oper)(lk hm:Nat→Option AV)(av:AV):Prop :=
 o.dst=some d∧hm d=none∧ ∀(a:Act) (w:World) (O:Nat→Option Nat),Inv P B F0 w0 (fun t=>.tmp t∈o.op.operands) lk hm a w O →
   ∀(K:Act→World→Prop) (Q:Exit→Act→World→Prop),
    (∀v w' O',dG w O d w' O'→fo P w0.X w' O' (FW B F0 w') hm (fun h=>a.tmps[h]?) d av v→K (a.put o.dst v) w')→o.wp P a w K Q
def Fv(T:Ty)(t:Nat):Option Nat:=match T.get t with
 |some i=>match ap i.kind 4 with
  |true=>some i.elem
  |false=>none
 |none=>none
def ex(T:Ty)(lk:Nat→Option AV)(ty:Nat):Operand→Option AV
 | .tmp t=>match lk t with
   |some (.ow _ _)=>some (.al t)
   |some (.wn _ _ _ _ _)=>some (.al t)
   |some (.sb h i o)=>some (.sb h i o)
   |some (.bx _)=>some (.pt t 0)
   |some .junk=>none
   |some .un=>none
   |some (.d x)=>some (.d x)
   |some (.pt h o)=>some (.pt h o)
   |some (.rf c)=>some (.rf c)
   |some (.e0 e)=>some (.e0 e)
   |some (.al h)=>some (.al h)
   |some (.el h i o)=>some (.el h i o)
   |none=>none
 | .const (.int k n)=>some (.d (.v (.int k n)))
 | .const (.bool b)=>some (.d (.v (.bool b)))
 | .const .nilIface=>some (.d (.v .nilIface))
 | .const .nilFunc=>some (.d (.v .nilFunc))
 | .const (.pointer none)=>some (.d (.v (.pointer none)))
 | .const (.string s)=>match decide (s.size≤maxLen)with
   |true=>some (.d (.v (.string s)))
   |false=>none
 | .const (.slice none 0 0)=>match Fv T ty with
   |some e=>some (.e0 e)
   |none=>none
 | .func k=>some (.d (.fn k [] []))
 |_=>none
def dO(T:Ty):Option AV→Option D
 |some (.d x)=>some x
 |some (.e0 e)=>match T.get e with
  |some i=>some (.sl i.size [])
  |none=>none
 |_=>none
def KS(T:Ty)(hm:Nat→Option AV):Option AV→Option D
 |some (.d x)=>some x
 |some (.e0 e)=>match T.get e with
  |some i=>some (.sl i.size [])
  |none=>none
 |some (.al h)=>match hm h with
  |some (.ow e l)=>match T.get e with
   |some i=>some (.sl i.size l)
   |none=>none
  |some (.wn q e l lo m)=>match T.get e with
   |some i=>some (.sl i.size ((l.drop lo).take m))
   |none=>none
  |_=>none
 |some (.sb h lo m)=>match hm h with
  |some x=>match x.row with
   |some (e,l)=>match T.get e with
    |some i=>some (.sl i.size ((l.drop lo).take m))
    |none=>none
   |none=>none
  |none=>none
 |_=>none
section
variable {a:Act} {w:World} 
theorem gp(h:a.tmps[t]?=some v):a.eval (.tmp t)=v:=by simp[Act.eval,d7,h]
theorem eval_const:a.eval (.const v)=v:=rfl
theorem aZ(hI:Inv P B F0 w0 R lk hm a w O)(hx: ∀t,x= .tmp t→R t)(h:ex T lk ty x=some av)(k:Nat):
  fo P w0.X w O (FW B F0 w) hm (fun h=>a.tmps[h]?) k av (a.eval x)∧av.home=false:=by
 cases x with
 |tmp t =>
  simp only[ex]at h;have hR:=hx t rfl;cases hl:lk t with
  |none=>simp[hl]at h
  |some b =>
   obtain⟨v,hv,hr⟩:=hI.rd t hR b hl;rw[gp hv];rw[hl]at h;cases b<;>simp at h<;>subst h
   case d=>exact⟨hr,rfl⟩
   case bx ds =>
    refine⟨fun ds' hd=>?_,rfl⟩;obtain⟨b,_,_,h1,_⟩:=hr;exact⟨b,by simp only[hv,h1],h1⟩
   case pt=>exact⟨hr,rfl⟩
   case rf=>exact⟨hr,rfl⟩
   case e0=>exact⟨hr,rfl⟩
   case ow e l=>exact⟨fun _ _ _=>hv,rfl⟩
   case wn q e l lo m=>exact⟨fun _ _ _=>hv,rfl⟩
   case sb=>exact⟨hr,rfl⟩
   case al=>exact⟨hr,rfl⟩
   case el=>exact⟨hr,rfl⟩
 |const c =>
  rw[eval_const]
  cases c<;>simp only[ex]at h<;>first
   |(simp at h;subst h;exact⟨.v rfl,rfl⟩)
   |(simp at h;done)
   |skip
  case pointer p =>
   cases p<;>simp at h;subst h;exact⟨.v rfl,rfl⟩
  case string s =>
   split at h
   ·rename_i hs;simp at h;subst h;exact⟨.v (by simpa[ei]using hs),rfl⟩
   ·simp at h
  case slice b l c =>
   cases b with
   |some _=>simp at h
   |none =>
    cases l with
    |succ _=>simp at h
    |zero =>
     cases c with
     |succ _=>simp at h
     |zero =>
      simp only[]at h;split at h
      ·simp at h;subst h;exact⟨⟨none,rfl⟩,rfl⟩
      ·simp at h
 |global g=>simp[ex]at h
 |func f =>
  simp only[ex,ca]at h;subst h;have:=Rd.fn (w:=w) (F:=aQ O (FW B F0 w)) (k:=f) (a:=[]) (c:=[]) (va:=[]) (vc:=[]) rfl rfl (fun i d u h=>by cases h) (fun i d u h=>by cases h);exact⟨this,rfl⟩
theorem FG(hT:bB P T){x:D}(h:fo P X w O F hm tm k av v)(hd:dO T (some av)=some x):Rd w (aQ O F) x v:=by
 cases av<;>simp[dO]at hd
 case d y=>subst hd;exact h
 case e0 e =>
  obtain⟨b,rfl⟩:=h;split at hd<;>simp at hd;subst hd;exact .nil<|cb _
theorem mG{x:AV}{len:Nat}(h:fo P X w O F hm tm t x (.slice (some ⟨b,o1,none⟩) len cap))(hrow:x.row=some (e,l)):
  (l=[]∧x.tag=false∧cap=0)∨ ∃cs,((x.tag=true→X b)∧o1+cap*P.cellsOf e≤cs.size)∧O b=some t∧w.heap[b]?=some (.cells cs e (0,0))∧(∀y,y∈l→y.flat.length=P.cellsOf e) ∧
   ∀(i:Nat) (d:D),(flatAll l)[i]?=some d→d.ba=true∧ ∃u,cs[i]?=some u∧Rd w (aQ O F) d u:=by
 cases x<;>simp[AV.row]at hrow
 ·obtain⟨rfl,rfl⟩:=hrow;rcases h with⟨base,h1,h2⟩|⟨b',cap',cs,h1,h2,h3,h4,h5,h6,h7,h8⟩
  ·simp at h1;exact .inl ⟨h2,rfl,h1.2.2⟩
  ·simp at h1;obtain⟨⟨rfl,rfl⟩,rfl,rfl⟩:=h1;exact .inr ⟨cs,⟨fun h=>by simp[AV.tag]at h,by omega⟩,h2,h3,h7,h8⟩
 ·obtain⟨rfl,rfl⟩:=hrow;rcases h with⟨hq,base,h1,h3,h4⟩|⟨b',o',cap',cs,hq,h1,h0,h2,h3,h4,h5,h6,h7,h8⟩
  ·simp at h1;exact .inl ⟨h3,hq,h1.2.2⟩
  simp at h1;obtain⟨⟨rfl,rfl⟩,rfl,rfl⟩:=h1;exact .inr ⟨cs,⟨hq,h0.2.2⟩,h2,h3,h7,h8⟩
theorem yv(hT:bB P T)(hI:Inv P B F0 w0 R lk hm a w O)(hG1: ∀c,aQ O (FW B F0 w) c→G c)(hG2: ∀c t y,O c=some t→hm t=some y→y.home=true→G c){x:D}(h:fo P w0.X w O (FW B F0 w) hm (fun h=>a.tmps[h]?) k av v)(hd:KS T hm (some av)=some x):Rd w G x v:=by
 cases av<;>simp[KS]at hd
 case d y=>subst hd;exact Rd.mono (F:=aQ O (FW B F0 w)) h hG1 fun _ _=>rfl
 case e0 e =>
  obtain⟨b,rfl⟩:=h;split at hd<;>simp at hd;subst hd;exact .nil<|cb _
 case al t =>
  cases ht:hm t with
  |none=>simp[ht]at hd
  |some b =>
   cases b<;>simp[ht]at hd
   ·rename_i e l;split at hd<;>simp at hd;rename_i i hi;subst hd;obtain⟨info,d,z,hok⟩:=hT e i hi;obtain⟨u,hu,hr⟩:=hI.hm t _ ht rfl;have hv:=h _ ht rfl;simp only[hu]at hv;simp at hv;subst hv;rcases hr with⟨base,rfl,rfl⟩|⟨b,cap,cs,rfl,h2,h3,h4,h5,h6,h7,h8⟩
    ·exact .nil (cb _)
    ·rw[hok.cellsOf]at h7;refine .nV (off:=0) (hG2 b t _ h2 ht rfl) h3 h4 h5 h7 fun i d hd=>⟨(h8 i d hd).1,?_⟩;obtain⟨u,hu,hr⟩:=(h8 i d hd).2;exact⟨u,by simpa using hu,hr.mono hG1 (fun _ _=>rfl)⟩
   ·rename_i q e l lo m;split at hd<;>simp at hd;rename_i i hi;subst hd;obtain⟨info,d,z,hok⟩:=hT e i hi;obtain⟨u,hu,hr⟩:=hI.hm t _ ht rfl;have hv:=h _ ht rfl;simp only[hu]at hv;simp at hv;subst hv;rcases hr with⟨_,base,rfl,rfl,rfl,rfl⟩|⟨b,o,cap,cs,_,rfl,⟨h0,_⟩,h2,h3,h4,h5,h6,h7,h8⟩
    ·exact .nil (cb _)
    rw[hok.cellsOf]at h7 h0;rcases cg m with hm0|hm0
    ·subst hm0;rw[dl];exact .nil h6
    have h0:o=lo*i.size:=by omega
    subst h0;have hlen:((l.drop lo).take m).length=m:=by simp;omega
    have:=Rd.nV (w:=w) (F:=G) (s:=i.size) (l:=(l.drop lo).take m) (off:=lo*i.size) (cap:=cap) (hG2 b t _ h2 ht rfl) h3 (by omega) h6 (fun y hy=>h7 y (ci (ch hy))) (fun j d hj=>by
     obtain⟨f1,u,f2,f3⟩:=h8 _ d (kn h7 lo m j hj)
     exact⟨f1,u,f2,f3.mono hG1 (fun _ _=>rfl)⟩)
    rwa [hlen]at this
 case sb t lo m =>
  cases ht:hm t with
  |none=>simp[ht]at hd
  |some x =>
   simp only[ht]at hd;split at hd<;>try (cases hd;done)
   rename_i e l hrow;split at hd<;>simp at hd;rename_i i hi;subst hd;obtain⟨info,d,z,hok⟩:=hT e i hi;obtain⟨hlo,cap',hc1,hc2,hv⟩:=h x e l ht hrow;have hlen:((l.drop lo).take m).length=m:=by simp;omega
   rcases hv with⟨hl0,_,_,base,rfl⟩|⟨b,o1,len,cap,o,htm,rfl,h0,_⟩
   ·have:l=[]:=b2 hl0;subst this;simp only[gB,gy];exact .nil hc2
   ·obtain⟨u,hu,hr⟩:=hI.hm t _ ht (dQ (by rw[hrow];rfl));simp only[hu]at htm;simp at htm;subst htm;rcases mG hr hrow with⟨hnil,_⟩|⟨cs,_,g2,g3,g7,g8⟩
    ·subst hnil;simp at hlo;obtain⟨rfl,rfl⟩:=hlo;simp only[gB,gy];exact .nil hc2
    rcases cg m with hm0|hm0
    ·subst hm0;rw[dl];exact .nil hc2
    rw[hok.cellsOf]at g7 h0;have h0:o=lo*i.size:=by omega
    subst h0
    have:=Rd.nV (w:=w) (F:=G) (s:=i.size) (l:=(l.drop lo).take m) (off:=lo*i.size) (cap:=cap') (hG2 b t _ g2 ht (dQ (by rw[hrow];rfl))) g3 (by omega) hc2 (fun y hy=>g7 y (ci (ch hy))) (fun j d hj=>by
     obtain⟨f1,u,f2,f3⟩:=g8 _ d (kn g7 lo m j hj)
     exact⟨f1,u,f2,f3.mono hG1 (fun _ _=>rfl)⟩)
    rwa [hlen]at this
theorem H5(hT:bB P T)(hI:Inv P B F0 w0 R lk hm a w O){x:D}(h:fo P w0.X w O (FW B F0 w) hm (fun h=>a.tmps[h]?) k av v)(hd:KS T hm (some av)=some x):Rd w (FW B F0 w) x v :=
 yv hT hI (fun _ hc=>hc.2) (fun c t _ hc _ _=>(hI.orange c t hc).fw hI.f0) h hd
theorem Inv.lt(hI:Inv P B F0 w0 R lk hm a w O): ∀b t,O b=some t→b<w.heap.size:=fun b t h=>(hI.orange b t h).2
end
def CR(j k:IntKind):Bool:=match j,k with
 | .i64,.i64=>true
 | .u64,.u64=>true
 | .u32,.u32=>true
 | .u8,.u8=>true
 | .i32,.i32=>true
 |_,_=>false
theorem CQ{k:IntKind}(h:CR j k=true):j=k:=by cases j<;>cases k<;>simp_all [CR]
def NF(op:BinOp)(k:IntKind)(a b:Int):Option Value:=match op with
 | .add=>some (.int k (k.wrap (a+b)))
 | .sub=>some (.int k (k.wrap (a-b)))
 | .mul=>some (.int k (k.wrap (a*b)))
 | .and=>some (.int k (k.wrap (d5 k.bits a &&& d5 k.bits b).toNat))
 | .or=>some (.int k (k.wrap (d5 k.bits a ||| d5 k.bits b).toNat))
 | .xor=>some (.int k (k.wrap (d5 k.bits a ^^^ d5 k.bits b).toNat))
 | .eql=>some (.bool (a==b))
 | .neq=>some (.bool (a != b))
 | .lss=>some (.bool (decide (a<b)))
 | .leq=>some (.bool (decide (a≤b)))
 | .gtr=>some (.bool (decide (a>b)))
 | .geq=>some (.bool (decide (a≥b)))
 |_=>none
def Ng(op:BinOp)(a b:ByteArray):Option Value:=match op with
 | .eql=>some (.bool (a.toList==b.toList))
 | .neq=>some (.bool (!(a.toList==b.toList)))
 |_=>none
def PO(op:BinOp)(k:IntKind)(a:Int)(n:Nat):Option Value:=match op with
 | .shl=>some (.int k (k.wrap (a*2^(min n k.bits))))
 | .shr=>some (.int k (a.fdiv (2^(min n k.bits))))
 |_=>none
def LP(op:BinOp):Bool:=match op with
 | .shl=>true
 | .shr=>true
 |_=>false
def Ky(op:BinOp):Value→Value→Option Value
 | .int k a,.int j b=>match LP op with
   |true=>match b with
    | .ofNat n=>PO op k a n
    | .negSucc _=>none
   |false=>match CR k j with
    |true=>NF op k a b
    |false=>none
 | .string a,.string b=>Ng op a b
 |_,_=>none
theorem JG{w:World}{op:BinOp}{t:TypeId}{k:IntKind}{a b:Int}(hs:LP op=false)(h:NF op k a b=some r):
  (binOp op t (.int k a) (.int k b)).run P w= .ok r w∧ei r=true:=by
 cases op<;>simp[NF,LP]at h hs<;>subst h<;>refine⟨?_,rfl⟩<;>simp[binOp,Op.intArith,Op.intBits,Op.intCmp]
theorem Lf{w:World}{op:BinOp}{t:TypeId}{k:IntKind}{a:Int}(h:PO op k a n=some r):
  (binOp op t (.int k a) (.int j (Int.ofNat n))).run P w= .ok r w∧ei r=true:=by
 have hn: ¬((n:Int)<0):=by omega
 cases op<;>simp[PO]at h<;>subst h<;>refine⟨?_,rfl⟩<;>simp[binOp,Op.shift,hn]
theorem IB{w:World}{op:BinOp}{t:TypeId}{a b:ByteArray}(h:Ng op a b=some r):
  (binOp op t (.string a) (.string b)).run P w= .ok r w∧ei r=true:=by
 cases op<;>simp[Ng]at h<;>subst h<;>refine⟨?_,rfl⟩<;>simp[binOp,Op.stringOp]
theorem po{w:World}{op:BinOp}{t:TypeId}{y:Operand}{a b:Value}(h:a≠ .nilIface∨b≠ .nilIface)(ha: ∀cs,a≠ .agg cs):(eqGuard op t x y a b).run P w= .ok () w:=by unfold eqGuard;cases op<;>simp<;>(cases a<;>cases b<;>simp_all)
theorem Kx{w:World}{op:BinOp}{t:TypeId}{y:Operand}{a b:Value}(h:Ky op a b=some r):
  (do eqGuard op t x y a b;binOp op t a b:Sem Value).run P w= .ok r w∧ei r=true:=by
 have hg:(eqGuard op t x y a b).run P w= .ok () w:=by refine po (.inl ?_) ?_<;>(cases a<;>simp[Ky]at h ⊢)
 have:(binOp op t a b).run P w= .ok r w∧ei r=true:=by
  cases a<;>cases b<;>simp[Ky]at h
  case int.int k a j b =>
   cases hs:LP op with
   |true =>
    simp only[hs]at h;cases b with
    |ofNat n=>exact Lf h
    |negSucc n=>simp at h
   |false =>
    simp only[hs]at h;split at h
    ·rename_i hk;have:=CQ hk;subst this;exact JG hs h
    ·simp at h
  case string.string=>exact IB h
 exact⟨by simp only[az,hg,am];exact this.1,this.2⟩
def Pz(op:UnOp):Value→Option Value
 | .bool b=>match op with
   | .not=>some (.bool (!b))
   |_=>none
 | .int k n=>match op with
   | .neg=>some (.int k (k.wrap (0-n)))
   |_=>none
 |_=>none
theorem KX{w:World}{op:UnOp}{a:Value}(h:Pz op a=some r):(Op.unary op a).run P w= .ok r w∧ei r=true:=by
 cases a<;>cases op<;>simp[Pz]at h<;>subst h<;>refine⟨?_,rfl⟩<;>simp[Op.unary,Op.intArith]
def Kf(T:Ty)(dst:Nat):Value→Option Value
 | .int _ n=>match T.get dst with
   |some i=>match ap i.kind 2 with
    |true=>match i.ik with
     | .i64=>some (.int .i64 (IntKind.i64.wrap n))
     | .u64=>some (.int .u64 (IntKind.u64.wrap n))
     | .u32=>some (.int .u32 (IntKind.u32.wrap n))
     | .u8=>some (.int .u8 (IntKind.u8.wrap n))
     | .i32=>some (.int .i32 (IntKind.i32.wrap n))
     |_=>none
    |false=>none
   |none=>none
 |_=>none
def lr:Option D→Option Value
 |some (.v x)=>some x
 |_=>none
def sc:Value→AV:=fun x=>.d (.v x)
def nY:Option Value→Option AV
 |some x=>some (.d (.v x))
 |none=>none
def wv(hm:Nat→Option AV):Option AV→Option (List D)
 |some (.pt h off)=>match hm h with
  |some (.bx ds)=>some (ds.drop off)
  |_=>none
 |some (.rf ds)=>some ds
 |some (.d (.pr ds))=>some ds
 |_=>none
def jA(i:TI)(cs:List D):Option AV:=match i.agg with
 |true=>match b0 i.size cs.length with
  |true=>some (.d (.ag (cs.take i.size)))
  |false=>none
 |false=>match cs with
  |c::_=>some (.d c)
  |[]=>none
def uA(i:TI)(f:Nat):Option (Nat×Nat×Bool):=match ap i.kind 5 with
 |true=>i.fields[f]?
 |false=>none
def He(hm:Nat→Option AV)(o:Nat):Option AV→Option AV
 |some (.pt h off)=>match hm h with
  |some (.bx _)=>some (.pt h (off+o))
  |_=>none
 |some (.rf ds)=>some (.rf (ds.drop o))
 |some (.d (.pr ds))=>some (.rf (ds.drop o))
 |some (.el h i off)=>match hm h with
  |some x=>match x.row with
   |some _=>some (.el h i (off+o))
   |none=>none
  |none=>none
 |_=>none
def xL:D→Bool
 | .v _=>true
 | .sl _ _=>true
 | .ag _=>true
 | .tu _=>false
 | .pr _=>true
 | .fn _ _ _=>true
def At(fields:List (Nat×Nat×Bool))(cells:List D):List (Nat×D)→Option (List D)
 |[]=>some cells
 |(i,d)::rest=>match fields[i]? with
  |some (off,size,_)=>match xL d,ap d.flat.length size,b0 (off+d.flat.length) cells.length with
   |true,true,true=>At fields (cells.take off++d.flat++cells.drop (off+d.flat.length)) rest
   |_,_,_=>none
  |none=>none
def tS(T:Ty)(lk:Nat→Option AV):List (Nat×Operand)→Option (List (Nat×D))
 |[]=>some []
 |(i,x)::r=>match dO T (ex T lk 0 x),tS T lk r with
  |some d,some ds=>some ((i,d)::ds)
  |_,_=>none
def BN(k:Nat):D→Option Value
 | .sl _ l=>match ap k 4 with
   |true=>some (.int .i64 (l.length:Int))
   |false=>none
 | .v (.string s)=>match ap k 3 with
   |true=>some (.int .i64 (s.size:Int))
   |false=>none
 |_=>none
def vG(isMax:Bool):Value→List Value→Option Value
 | .int k a,[]=>some (.int k a)
 | .int k a,.int j b::r=>match CR k j with
   |true=>match isMax with
    |true=>vG isMax (.int k (if b>a then b else a)) r
    |false=>vG isMax (.int k (if b<a then b else a)) r
   |false=>none
 |_,_=>none
def k8(T:Ty)(lk:Nat→Option AV):List Operand→Option (List Value)
 |[]=>some []
 |x::r=>match lr (dO T (ex T lk 0 x)),k8 T lk r with
  |some v,some vs=>some (v::vs)
  |_,_=>none
def pF(T:Ty)(lk hm:Nat→Option AV)(ty:Nat):Op→Option AV
 | .move x=>ex T lk ty x
 | .assign x=>match ex T lk ty x with
   |some (.d x)=>some (.d x)
   |some (.e0 e)=>some (.ow e [])
   |_=>none
 | .pick c x y=>match lr (dO T (ex T lk 0 c))with
   |some (.bool true)=>ex T lk ty x
   |some (.bool false)=>ex T lk ty y
   |_=>none
 | .alloc t=>match T.get t with
   |some i=>some (.bx i.zero)
   |none=>none
 | .box t x=>match dO T (ex T lk t x)with
   |some d=>match xL d with
    |true=>some (.bx d.flat)
    |false=>none
   |none=>none
 | .build t parts=>match T.get t,tS T lk parts.toList with
   |some i,some ps=>match ap i.kind 5 with
    |true=>match At i.fields i.zero ps with
     |some cs=>some (.d (.ag cs))
     |none=>none
    |false=>none
   |_,_=>none
 | .buildSlice t n parts=>match ap n 0,parts.toList,Fv T t with
   |true,[],some e=>match T.get e with
    |some _=>some (.e0 e)
    |none=>none
   |_,_,_=>none
 | .load t x=>match T.get t,wv hm (ex T lk 0 x)with
   |some i,some cs=>jA i cs
   |_,_=>none
 | .binOp op _ x y _=>match lr (dO T (ex T lk 0 x)),lr (dO T (ex T lk 0 y))with
   |some a,some b=>nY (Ky op a b)
   |_,_=>none
 | .unOp op _ x=>match lr (dO T (ex T lk 0 x))with
   |some a=>nY (Pz op a)
   |none=>none
 | .convert src dst x=>match T.get src,lr (dO T (ex T lk 0 x))with
   |some _,some a=>nY (Kf T dst a)
   |_,_=>none
 | .makeInterface t x=>match lr (dO T (ex T lk 0 x)),T.get t with
   |some (.int k n),some i=>match ap i.kind 6 with
    |true=>none
    |false=>some (.d (.v (.iface t (.int k n))))
   |_,_=>none
 | .fieldAddr t x f=>match T.get t with
   |some i=>match uA i f with
    |some (off,_,_)=>He hm off (ex T lk 0 x)
    |none=>none
   |none=>none
 | .field t x f=>match T.get t,dO T (ex T lk 0 x)with
   |some i,some (.ag cs)=>match uA i f with
    |some (off,size,agg)=>jA {i with agg:=agg,size:=size} (cs.drop off)
    |none=>none
   |_,_=>none
 | .extract x k=>match dO T (ex T lk 0 x)with
   |some (.tu l)=>match l[k]? with
    |some d=>some (.d d)
    |none=>none
   |_=>none
 | .call c=>match c.callee with
   | .builtin .len=>match c.args.toList,c.argTypes.toList with
     |[x],[t]=>match T.get t,KS T hm (ex T lk 0 x)with
      |some i,some d=>nY (BN i.kind d)
      |_,_=>none
     |_,_=>none
   | .builtin .max=>match k8 T lk c.args.toList with
     |some (v::vs)=>nY (vG true v vs)
     |_=>none
   | .builtin .min=>match k8 T lk c.args.toList with
     |some (v::vs)=>nY (vG false v vs)
     |_=>none
   |_=>none
 |_=>none
section
variable {a:Act} {w:World} 
theorem eO(hT:bB P T)(hI:Inv P B F0 w0 R lk hm a w O)(hx: ∀t,x= .tmp t→R t)(h:dO T (ex T lk ty x)=some y):Rd w (aQ O (FW B F0 w)) y (a.eval x):=by
 cases he:ex T lk ty x with
 |none=>rw[he]at h;simp[dO]at h
 |some av =>
  rw[he]at h;exact FG hT (aZ hI hx he 0).1 h
theorem Kc(hT:bB P T)(hI:Inv P B F0 w0 R lk hm a w O)(hx: ∀t,x= .tmp t→R t)(h:KS T hm (ex T lk ty x)=some y):Rd w (FW B F0 w) y (a.eval x):=by
 cases he:ex T lk ty x with
 |none=>rw[he]at h;simp[KS]at h
 |some av =>
  rw[he]at h;exact H5 hT hI (aZ hI hx he 0).1 h
theorem Ma(hT:bB P T)(hI:Inv P B F0 w0 R lk hm a w O)(hG1: ∀c,aQ O (FW B F0 w) c→G c)(hG2: ∀c t y,O c=some t→hm t=some y→y.home=true→G c)(hx: ∀t,x= .tmp t→R t)(h:KS T hm (ex T lk ty x)=some y):Rd w G y (a.eval x):=by
 cases he:ex T lk ty x with
 |none=>rw[he]at h;simp[KS]at h
 |some av =>
  rw[he]at h;exact yv hT hI hG1 hG2 (aZ hI hx he 0).1 h
theorem cZ(hT:bB P T)(hI:Inv P B F0 w0 R lk hm a w O)(hx: ∀t,x= .tmp t→R t)(h:lr (dO T (ex T lk ty x))=some v):a.eval x=v∧ei v=true:=by
 cases hd:dO T (ex T lk ty x)with
 |none=>rw[hd]at h;simp[lr]at h
 |some d =>
  have hr:=eO hT hI hx hd;rw[hd]at h;cases d<;>simp[lr]at h;subst h;exact hr.j5
theorem zu(hI:Inv P B F0 w0 R lk hm a w O)(h:fo P w0.X w O (FW B F0 w) hm (fun h=>a.tmps[h]?) k av v)(hc:wv hm (some av)=some ds):
  ∃b off cs e fz,v= .pointer (some ⟨b,off,none⟩)∧w.heap[b]?=some (.cells cs e fz)∧ ∀(i:Nat) (d:D),ds[i]?=some d→d.ba=true∧ ∃u,cs[off+i]?=some u∧Rd w (aQ O (FW B F0 w)) d u:=by
 cases av<;>simp[wv]at hc
 case pt t off =>
  cases ht:hm t with
  |none=>simp[ht]at hc
  |some x =>
   cases x<;>simp[ht]at hc;rename_i es;subst hc;obtain⟨u,hu,hr⟩:=hI.hm t _ ht rfl;obtain⟨b,cs,e,rfl,h2,h3,h4⟩:=hr;obtain⟨b',hb',rfl⟩:=h es ht;simp only[hu]at hb';simp at hb';subst hb';refine⟨b,off,cs,e,(0,0),rfl,h3,fun i d hd=>?_⟩;rw[bv]at hd;obtain⟨h5,u',hu',h6⟩:=h4.get hd;exact⟨h5,u',by simpa using hu',h6⟩
 case rf es =>
  subst hc;obtain⟨b,off,cs,e,fz,rfl,h2,h3,h4⟩:=h;exact⟨b,off,cs,e,fz,rfl,h3,h4⟩
 case d x =>
  cases x<;>simp at hc;subst hc;obtain⟨b,cs,e,fz,rfl,h2,h3,h4⟩:=Rd.Ja h;exact⟨b,0,cs,e,fz,rfl,h3,fun i d hd=>by simpa using h4 i d hd⟩
theorem Ap{d:TypeDesc}{z:Value}(h:kJ P t i info d z):(isAgg t).run P w= .ok i.agg w:=by have hd:=h.desc;unfold isAgg;rw[az,run_underlying h.und];cases d<;>simp[mr]at hd<;>simp[hd]
theorem lD{d:TypeDesc}{z:Value}(hi:kJ P t i info d z){e:TypeId}
  (hb:w.heap[b]?=some (.cells cs e fz)) (hr: ∀(j:Nat) (x:D),ds[j]?=some x→x.ba=true∧ ∃u,cs[off+j]?=some u∧Rd w F x u) (hl:jA i ds=some av):
  ∃x v,av= .d x∧(loadVar t ⟨b,off,none⟩).run P w= .ok v w∧Rd w F x v:=by
 unfold jA at hl
 have hcell: ∀j,w.cell? ((⟨b,off,none⟩:Addr).add j)=cs[off+j]?:=fun j=>by rw[c6];simp[hE,hb]
 cases hagg:i.agg with
 |true =>
  simp only[hagg]at hl;split at hl<;>simp at hl;rename_i hle;subst hl;have hle:=ax hle;have hlen:(ds.take i.size).length=i.size:=by simp;omega
  have hcs: ∀j,j<i.size→ ∃u,cs[off+j]?=some u:=fun j hj=>by obtain⟨_,u,hu,_⟩:=hr j ds[j] (a2 (by omega));exact⟨u,hu⟩
  have hrun:(loadCells ⟨b,off,none⟩ i.size).run P w= .ok ((eq i.size).map fun j=>(cs[off+j]?).getD undef).toArray w :=
   run_loadCells w _ _ _ (fun j hj=>by rw[hcell];obtain⟨u,hu⟩:=hcs j hj;simp[hu])
  refine⟨_,_,rfl,?_,.ag (vs:=(eq i.size).map fun j=>(cs[off+j]?).getD undef) (by simp;omega) ?_ ?_⟩
  ·unfold loadVar;simp only[az,Ap hi,am,hagg,if_true,cB,typeInfo,run_program,hi.hinfo,bn,hi.size,hrun]
  ·intro x hx;obtain⟨j,hj⟩:=cr.1 hx;rw[bi]at hj;split at hj
   ·exact(hr j x hj).1
   ·cases hj
  ·intro j x u h1 h2;rw[bi]at h1;split at h1
   ·rename_i hj;obtain⟨_,u',hu',hru⟩:=hr j x h1;simp[hj,hu']at h2;subst h2;exact hru
   ·cases h1
 |false =>
  simp only[hagg]at hl;cases ds with
  |nil=>simp at hl
  |cons c r =>
   simp at hl;subst hl;obtain⟨_,u,hu,hru⟩:=hr 0 c rfl;refine⟨_,u,rfl,?_,hru⟩;have:=hcell 0;rw[Addr.add_zero']at this;unfold loadVar;simp only[az,Ap hi,am,hagg];simp only[eb,if_false,run_load,this,hu]
theorem sS{x:D}(h:xL x=true): ∀l,x≠ .tu l:=by cases x<;>simp_all [xL]
def kQ(O:Nat→Option Nat)(n d:Nat)(b:Nat):Option Nat:=if b=n then some d else O b
theorem dG.alloc(hO: ∀b t,O b=some t→b<w.heap.size)(d:Nat)(o:Obj):dG w O d (w.alloc o) (kQ O w.heap.size d):=by
 refine⟨(Below.refl _ _).alloc (a4 _) _,fun b hb=>?_,fun b t hb=>?_⟩
 ·simp[kQ,c8 hb]
 ·simp only[kQ]at hb;split at hb
  ·rename_i h;simp at hb;exact .inr ⟨hb.symm,by simp[h]⟩
  ·exact .inl (hO b t hb)
theorem dG.KD(hO: ∀b t,O b=some t→b<w.heap.size)(d:Nat)(o:Obj):dG w O d (w.alloc o) O :=
 ⟨(Below.refl _ _).alloc (a4 _) _,fun _ _=>rfl,fun b t hb=>.inl (hO b t hb)⟩
theorem Rd.alloc(hI:Inv P B F0 w0 R lk hm a w O){x:D}(h:Rd w (aQ O (FW B F0 w)) x v)(d:Nat)(o:Obj):Rd (w.alloc o) (aQ (kQ O w.heap.size d) (FW B F0 (w.alloc o))) x v:=by
 refine h.mono (fun b hb=>?_) fun b hb=>?_
 ·have:=FW.step hI.f0 hI.base (w':=w.alloc o) (by simp) b hb.2;refine⟨?_,this.2⟩;simp[kQ,c8 this.1,hb.1]
 ·have:=FW.step hI.f0 hI.base (w':=w.alloc o) (by simp) b hb.2;exact heap_alloc_old w o b this.1
theorem rF(off:Nat): ∀(vs:List Value) (k:Nat) (cs:Array Value),
  ((vs.zipIdx k).foldl (fun (cs:Array Value) (x:Value×Nat)=>cs.setIfInBounds (off+x.2) x.1) cs).size=cs.size ∧
  ∀m,((vs.zipIdx k).foldl (fun (cs:Array Value) (x:Value×Nat)=>cs.setIfInBounds (off+x.2) x.1) cs)[m]? =
   if off+k≤m∧m<off+k+vs.length∧m<cs.size then vs[m-(off+k)]? else cs[m]?
 |[],k,cs=>⟨rfl,fun m=>by simp;intro h1 h2;omega⟩
 |v::vs,k,cs=>by
  obtain⟨h1,h2⟩:=rF off vs (k+1) (cs.setIfInBounds (off+k) v);simp only[f6,List.foldl_cons];refine⟨by rw[h1];simp,fun m=>?_⟩;rw[h2];simp only[Array.size_setIfInBounds,en];by_cases hm:m=off+k
  ·subst hm;have: ¬(off+(k+1)≤off+k):=by omega
   simp only[this,false_and,if_false];by_cases hs:off+k<cs.size
   ·simp[hs]
   ·simp[hs]
  ·by_cases hc:off+(k+1)≤m∧m<off+(k+1)+vs.length∧m<cs.size
   ·rw[if_pos hc,if_pos (by omega)];rw[show m-(off+k)=(m-(off+(k+1)))+1 by omega];simp
   ·rw[if_neg hc,if_neg (by omega),eY (ct hm)]
theorem uz{F:Nat→Prop}{fs:List (Nat×Nat×Bool)}: ∀(ps:List (Nat×D)) (vs:List (Nat×Value)) (ds:List D) (cs:Array Value) (out:List D),
  ps.length=vs.length→(∀(j:Nat) (p:Nat×D) (q:Nat×Value),ps[j]?=some p→vs[j]?=some q→p.1=q.1∧Rd w F p.2 q.2) →
  nR w F ds cs.toList→At fs ds ps=some out →
  ∃cs',eo (fun i=>(fs[i]?).map fun x=>(x.1,x.2.1)) cs vs=some cs'∧nR w F out cs'.toList∧cs'.size=cs.size
 |[],vs,ds,cs,out,hl,hp,hr,h=>by have:vs=[]:=b2 (by simpa using hl.symm);subst this;simp[At]at h;subst h;exact⟨cs,rfl,hr,rfl⟩
 |(i,d)::ps,[],ds,cs,out,hl,hp,hr,h=>by simp at hl
 |(i,d)::ps,(i',v)::vs,ds,cs,out,hl,hp,hr,h=>by
  obtain⟨hii,hd⟩:=hp 0 (i,d) (i',v) rfl rfl;simp only[]at hd hii;subst hii;simp only[At]at h;cases hf:fs[i]? with
  |none=>simp[hf]at h
  |some x =>
   obtain⟨off,size,g⟩:=x;simp only[hf]at h;split at h<;>try (cases h;done)
   rename_i h0 h1 h2;have h1:=aa h1;have h2:=ax h2;have hvc:nR w F d.flat v.cells.toList:=hd.cells (sS h0);have hsz:v.cells.size=d.flat.length:=by have:=hvc.1;simpa using this
   have hcl:cs.size=ds.length:=by have:=hr.1;simpa using this
   obtain⟨g1,g2⟩:=rF off v.cells.toList 0 cs;generalize hcs:((v.cells.toList.zipIdx 0).foldl (fun (cs:Array Value) (x:Value×Nat)=>cs.setIfInBounds (off+x.2) x.1) cs)=cs1 at g1 g2
   have hr1:nR w F (ds.take off++d.flat++ds.drop (off+d.flat.length)) cs1.toList:=by
    refine⟨by simp;omega,fun j y u hy hu=>?_⟩;have hu':cs1[j]?=some u:=by simpa using hu
    rw[g2]at hu';rw[cN,a3]at hy;have htl:(ds.take off).length=off:=by simp;omega
    rw[htl]at hy;split at hy
    ·rename_i hj;rw[bi,if_pos hj]at hy;rw[if_neg (by omega)]at hu';exact hr.2 j y u hy (by simpa using hu')
    ·rename_i hj;rw[a3]at hy;split at hy
     ·rename_i hj2;rw[if_pos ⟨by omega,by simp;omega,by omega⟩]at hu';exact hvc.2 (j-off) y u hy (by simpa using hu')
     ·rename_i hj2;rw[bv]at hy;have hjj:off+d.flat.length+(j-off-d.flat.length)=j:=by omega
      rw[hjj]at hy;rw[if_neg (by simp;omega)]at hu';exact hr.2 j y u hy (by simpa using hu')
   obtain⟨cs',e1,e2,e3⟩:=uz ps vs _ cs1 out (by simpa using hl) (fun j p q h1 h2=>hp (j+1) p q (by simpa using h1) (by simpa using h2)) hr1 h;refine⟨cs',?_,e2,by rw[e3,g1]⟩;simp only[eo,hf,bz];rw[if_neg (by simp;omega)]
   have:v.cells.zipIdx.foldl (fun (cs:Array Value) (x:Value×Nat)=>match x with|(c,j)=>cs.setIfInBounds (off+j) c) cs=cs1:=by rw[←hcs,←hV];simp
   rw[this];exact e1
theorem rk(hT:bB P T)(hI:Inv P B F0 w0 R lk hm a w O): ∀(l:List (Nat×Operand)) (ps:List (Nat×D)),(∀p,p∈l→ ∀t,p.2= .tmp t→R t)→tS T lk l=some ps →
  ps.length=l.length∧ ∀(j:Nat) (p:Nat×D) (q:Nat×Value),ps[j]?=some p→(l.map fun (i,x)=>(i,a.eval x))[j]?=some q→p.1=q.1∧Rd w (aQ O (FW B F0 w)) p.2 q.2
 |[],ps,_,h=>by simp[tS]at h;subst h;exact⟨rfl,fun j p q h=>by simp at h⟩
 |(i,x)::r,ps,hx,h=>by
  simp only[tS]at h;split at h
  ·rename_i d ds h1 h2;simp at h;subst h;have ih:=rk hT hI r ds (fun p hp=>hx p (by simp[hp])) h2;refine⟨by simp[ih.1],fun j p q h3 h4=>?_⟩;cases j with
   |zero =>
    simp at h3 h4;subst h3;subst h4;exact⟨rfl,eO hT hI (fun t ht=>hx (i,x) (by simp) t ht) h1⟩
   |succ j=>exact ih.2 j p q (by simpa using h3) (by simpa using h4)
  ·cases h
theorem wK(hT:bB P T)(hI:Inv P B F0 w0 R lk hm a w O): ∀(l:List Operand) (vs:List Value),(∀x,x∈l→ ∀t,x= .tmp t→R t)→k8 T lk l=some vs→l.map a.eval=vs∧ ∀v,v∈vs→ei v=true
 |[],vs,_,h=>by simp[k8]at h;subst h;exact⟨rfl,fun v h=>by simp at h⟩
 |x::r,vs,hx,h=>by
  simp only[k8]at h;split at h
  ·rename_i v vs' h1 h2;simp at h;subst h;have ih:=wK hT hI r vs' (fun y hy=>hx y (by simp[hy])) h2;have h3:=cZ hT hI (hx x (by simp)) h1;refine⟨by simp[ih.1,h3.1],fun u hu=>?_⟩;simp at hu;rcases hu with rfl|hu
   ·exact h3.2
   ·exact ih.2 u hu
  ·cases h
theorem DJ: ∀(vs:List Value) (v r:Value),vG true v vs=some r→(vs.foldlM i0 v).run P w= .ok r w∧ei r=true
 |[],v,r,h=>by cases v<;>simp[vG]at h;subst h;exact⟨rfl,rfl⟩
 |u::vs,v,r,h=>by
  cases v<;>cases u<;>simp[vG]at h;rename_i k a j b;split at h
  ·have:=DJ vs _ r h;simp only[ii,i0,az,bn,am];exact this
  ·cases h
theorem DI: ∀(vs:List Value) (v r:Value),vG false v vs=some r→(vs.foldlM ix v).run P w= .ok r w∧ei r=true
 |[],v,r,h=>by cases v<;>simp[vG]at h;subst h;exact⟨rfl,rfl⟩
 |u::vs,v,r,h=>by
  cases v<;>cases u<;>simp[vG]at h;rename_i k a j b;split at h
  ·have:=DI vs _ r h;simp only[ii,ix,az,bn,am];exact this
  ·cases h
theorem kJ.kg{d:TypeDesc}{z:Value}(h:kJ P t i info d z)(hk:ap i.kind 4=true):P.underlying t=some (.slice i.elem)∧i.agg=false:=by have hk:=aa hk;have hd:=h.desc;have hu:=h.und;cases d<;>simp[mr,hk]at hd;rw[hd.2];exact⟨hu,hd.1⟩
theorem kJ.MA{d:TypeDesc}{z:Value}(h:kJ P t i info d z)(hk:ap i.kind 3=true):P.underlying t=some .string:=by have hk:=aa hk;have hd:=h.desc;have hu:=h.und;cases d<;>simp[mr,hk]at hd;exact hu
theorem kJ.MB{d:TypeDesc}{z:Value}(h:kJ P t i info d z)(hk:ap i.kind 2=true):P.underlying t=some (.int i.ik):=by have hk:=aa hk;have hd:=h.desc;have hu:=h.und;cases d<;>simp[mr,hk]at hd;rw[hd.2];exact hu
theorem kJ.JC{d:TypeDesc}{z:Value}(h:kJ P t i info d z)(hk:ap i.kind 5=true):
  ∃fs,P.underlying t=some (.struct fs)∧fieldsOf P fs.toList=i.fields∧ ∀f,f∈fs.toList→(∃j,P.info? f.type=some j)∧(∃d,P.underlying f.type=some d)∧0<P.cellsOf f.type:=by
 have hk:=aa hk;have hd:=h.desc;have hu:=h.und;cases d<;>simp only[mr,hk,cd,decide_eq_true_eq,c4]at hd<;>try (simp at hd;done)
 rename_i fs;refine⟨fs,hu,hd.1.2,fun f hf=>?_⟩;have:=hd.2 f hf;exact⟨ef.1 this.1.1,ef.1 this.1.2,this.2⟩
theorem kJ.Lx{d:TypeDesc}{z:Value}(h:kJ P t i info d z)(hk:ap i.kind 6=false): ∀ms,d≠ .interface ms:=by intro ms he;have hd:=h.desc;subst he;simp[mr]at hd;rw[hd.1]at hk;cases hk
theorem JA{t ty:TypeId}{d:TypeDesc}{z:Value}(hi:kJ P t i info d z){x:D}(hr:Rd w F x v)(h:BN i.kind x=some r):(gs #[t] ty #[v]).run P w= .ok r w∧ei r=true:=by
 cases x with
 |sl s l =>
  obtain⟨b,cap,rfl,_⟩:=hr.CL;simp only[BN]at h;split at h<;>simp at h;rename_i hk;subst h;exact⟨by simp[gs,run_underlying (hi.kg hk).1,goInt],rfl⟩
 |v y =>
  obtain⟨e,_⟩:=hr.j5;subst e;cases v<;>simp only[BN]at h<;>try (cases h;done)
  split at h<;>simp at h;rename_i hk;subst h;exact⟨by simp[gs,run_underlying (hi.MA hk),goInt],rfl⟩
 |ag l=>simp[BN]at h
 |tu l=>simp[BN]at h
 |pr l=>simp[BN]at h
 |fn k x y=>simp[BN]at h
theorem D9{o:Nat}{av':AV}(h:fo P X w O F hm tm k av v)(ha:He hm o (some av)=some av'):
  ∃b off,v= .pointer (some ⟨b,off,none⟩)∧fo P X w O F hm tm k av' (.pointer (some ⟨b,off+o,none⟩)):=by
 cases av<;>simp only[He]at ha<;>try (cases ha;done)
 case pt h' off =>
  split at ha<;>simp at ha;rename_i ds hds;subst ha;obtain⟨b,h1,rfl⟩:=h ds hds;exact⟨b,off,rfl,fun ds' hd'=>⟨b,h1,rfl⟩⟩
 case d x =>
  cases x<;>simp only[]at ha<;>try (cases ha;done)
  rename_i ds;simp at ha;subst ha;obtain⟨b,cs,e,fz,rfl,h2,h3,h4⟩:=Rd.Ja h;refine⟨b,0,rfl,b,0+o,cs,e,fz,rfl,h2,h3,fun i d hd=>?_⟩;rw[bv]at hd;obtain⟨h5,u,hu,h6⟩:=h4 _ d hd;exact⟨h5,u,by rw[←hu];congr 1;omega,h6⟩
 case rf ds =>
  simp at ha;subst ha;obtain⟨b,off,cs,e,fz,rfl,h2,h3,h4⟩:=h;refine⟨b,off,rfl,b,off+o,cs,e,fz,rfl,h2,h3,fun i d hd=>?_⟩;rw[bv]at hd;obtain⟨h5,u,hu,h6⟩:=h4 _ d hd;exact⟨h5,u,by rw[←hu];congr 1;omega,h6⟩
 case el h' i off =>
  split at ha<;>try (cases ha;done)
  rename_i x hx;split at ha<;>simp at ha;rename_i p hp;subst ha;obtain⟨e,l⟩:=p;obtain⟨h0,b,o1,len,cap,h1,rfl⟩:=h x e l hx hp;refine⟨b,_,rfl,fun x' e' l' hx' hl'=>?_⟩;rw[hx]at hx';simp at hx';subst hx';rw[hp]at hl';simp at hl';obtain⟨rfl,rfl⟩:=hl';exact⟨h0,b,o1,len,cap,h1,by rw[i9]⟩
theorem nN{d:TypeDesc}{z:Value}(hi:kJ P t i info d z){f size:Nat}{g:Bool}(h:uA i f=some (off,size,g)):
  ∃fs fl j dd,P.underlying t=some (.struct fs)∧fs[f]?=some fl∧fl.offset=off∧P.info? fl.type=some j∧j.size=size∧0<size∧P.underlying fl.type=some dd∧Mg P fl.type=g:=by
 unfold uA at h;split at h<;>try (cases h;done)
 rename_i hk;obtain⟨fs,hu,hf,hall⟩:=hi.JC hk;rw[←hf]at h;simp only[fieldsOf,List.getElem?_map,ek]at h;obtain⟨fl,hfl,he⟩:=h;simp at he;obtain⟨h1,h2,h3⟩:=he;obtain⟨⟨j,hj⟩,⟨dd,hdd⟩,hpos⟩:=hall fl (b3 hfl);have hsz:P.cellsOf fl.type=j.size:=by simp[e6,hj]
 exact⟨fs,fl,j,dd,hu,by simpa using hfl,h1,hj,by rw[←hsz,h2],by rw[←h2];exact hpos,hdd,h3⟩
theorem KE(hu:P.underlying t=some dd):(isAgg t).run P w= .ok (Mg P t) w:=by unfold isAgg Mg;rw[az,run_underlying hu];rw[hu];cases dd<;>rfl
theorem xC(hT:bB P T)(hd:o.dst=some d)(hn:hm d=none)(h:pF T lk hm o.type o.op=some av):aM P B F0 w0 d o lk hm av:=by
 refine⟨hd,hn,fun a w O hI K Q hK=>?_⟩;have hsame: ∀{v:Value},(execOp a.eval o).run P w= .ok (.value v) w→fo P w0.X w O (FW B F0 w) hm (fun h=>a.tmps[h]?) d av v→o.wp P a w K Q:=fun hrun hr=>bh hrun (hK _ w O (dG.refl hI.lt) hr);have hsc: ∀{v:Value},(execOp a.eval o).run P w= .ok (.value v) w→ei v=true→av= .d (.v v)→o.wp P a w K Q:=fun hrun hp he=>hsame hrun (by subst he;exact .v hp);obtain⟨dst,op,ty,pos,after,guard⟩:=o;simp only[]at hd h hI;cases op<;>simp only[pF]at h<;>try (cases h;done)
 case move x =>
  exact hsame (v:=a.eval x) rfl (aZ hI (fun t ht=>by subst ht;simp[an]) h d).1
 case assign x =>
  cases he:ex T lk ty x with
  |none=>rw[he]at h;cases h
  |some b =>
   rw[he]at h;have hr:=(aZ hI (fun t ht=>by subst ht;simp[an]) he d).1;cases b<;>simp at h<;>subst h
   ·exact hsame (v:=a.eval x) rfl hr
   ·obtain⟨base,hb⟩:=hr;exact hsame (v:=a.eval x) rfl (.inl ⟨base,hb,rfl⟩)
 case pick c x y =>
  split at h<;>try (cases h;done)
  ·rename_i hc;have hc:=(cZ hT hI (fun t ht=>by subst ht;simp[an]) hc).1;exact hsame (v:=a.eval x) (by simp[execOp,hc,asBool]) (aZ hI (fun t ht=>by subst ht;simp[an]) h d).1
  ·rename_i hc;have hc:=(cZ hT hI (fun t ht=>by subst ht;simp[an]) hc).1;exact hsame (v:=a.eval y) (by simp[execOp,hc,asBool]) (aZ hI (fun t ht=>by subst ht;simp[an]) h d).1
 case alloc t =>
  split at h<;>simp at h;rename_i i hi;subst h;obtain⟨info,dd,z,hok⟩:=hT t i hi;refine bh (v:=.pointer (some ⟨w.heap.size,0,none⟩)) (w':=w.alloc (.cells z.cells t)) (by simp[execOp,Instr.alloc,zeroValue,typeInfo,hok.hinfo,hok.zero,newVar,newRow])<|hK _ _ _ (dG.alloc hI.lt d _) ?_;exact⟨w.heap.size,z.cells,t,rfl,by simp[kQ],heap_alloc_new w _,rQ hok.vr⟩
 case box t x =>
  split at h<;>try (cases h;done)
  rename_i y hy;split at h<;>simp at h;rename_i hnt;subst h;have hr:=eO hT hI (fun t ht=>by subst ht;simp[an]) hy;refine bh (v:=.pointer (some ⟨w.heap.size,0,none⟩)) (w':=w.alloc (.cells (a.eval x).cells t)) (by simp[execOp,Instr.box,newVar,newRow])<|hK _ _ _ (dG.alloc hI.lt d _) ?_;exact⟨w.heap.size,(a.eval x).cells,t,rfl,by simp[kQ],heap_alloc_new w _,(Rd.alloc hI hr d _).cells (sS hnt)⟩
 case build t parts =>
  split at h<;>try (cases h;done)
  rename_i i ps hi hps;split at h<;>try (cases h;done)
  rename_i hk;split at h<;>simp at h;rename_i cs hcs;subst h;obtain⟨info,dd,z,hok⟩:=hT t i hi;obtain⟨fs,hu,hfs,hall⟩:=hok.JC hk
  have hp:=rk hT hI parts.toList ps (fun p hp t ht=>by
   simp only[an];have:p.2∈parts.toList.map (·.2):=hA.2 ⟨p,hp,rfl⟩;rw[ht]at this
   simpa using this) hps
  obtain⟨cs',e1,e2,e3⟩:=uz ps (parts.toList.map fun (i,x)=>(i,a.eval x)) i.zero z.cells cs (by simp[hp.1]) hp.2 (rQ hok.vr) hcs
  have hmap:fs.toList.mapM (fun f=>(P.info? f.type).map fun i=>(f.offset,i.size))=some (i.fields.map fun x=>(x.1,x.2.1)):=by
   rw[←hfs];clear hfs hu hcs e1;generalize fs.toList=l at hall
   induction l with
   |nil=>rfl
   |cons f l ih =>
    obtain⟨⟨j,hj⟩,_,_⟩:=hall f (by simp);simp[ga,hj,ih (fun f hf=>hall f (by simp[hf])),fieldsOf,e6]
  have hb:P.built t (parts.toList.map fun (i,x)=>(i,a.eval x))=some cs':=by
   unfold Program.built;simp only[hok.hinfo,hu,hok.zero,hmap];rw[←e1]
   congr 1
   funext k;simp
  have hrun:=run_build w t (parts.map fun (i,x)=>(i,a.eval x)) cs' (by simpa using hb)
  exact hsame (v:=.agg cs') (by simp only[execOp,az,hrun,am];rfl) (by
   have:=Rd.ag (w:=w) (F:=aQ O (FW B F0 w)) (l:=cs) (vs:=cs'.toList) e2.1 (fun x hx=>by
    obtain⟨j,hj⟩:=cr.1 hx
    exact(e2.get hj).1) (fun j x u h1 h2=>(e2.2 j x u h1 h2).2)
   show Rd _ _ _ _
   simpa using this)
 case buildSlice t n parts =>
  split at h<;>try (cases h;done)
  rename_i e hn0 hp he;split at h<;>simp at h;rename_i ie hie;subst h;have hn0:=aa hn0;subst hn0;unfold Fv at he;split at he<;>try (cases he;done)
  rename_i i hi;split at he<;>simp at he;rename_i hk;subst he;obtain⟨info,dd,z,hok⟩:=hT t i hi;obtain⟨info',dd',z',hok'⟩:=hT _ ie hie;have hpe:parts= #[]:=by apply cA;simpa using hp
  subst hpe;refine bh (v:=.slice (some ⟨w.heap.size,0,none⟩) 0 0) (w':=w.alloc (.cells #[] i.elem)) ?_<|hK _ _ O (dG.KD hI.lt d _) ⟨_,rfl⟩;simp[execOp,dM,run_underlying (hok.kg hk).1,cB,typeInfo,hok'.hinfo,eo,newRow,Array.range_zero']
 case load t x =>
  split at h<;>try (cases h;done)
  rename_i i cs hi hcs;obtain⟨info,dd,z,hok⟩:=hT t i hi;cases he:ex T lk 0 x with
  |none=>rw[he]at hcs;simp[wv]at hcs
  |some b =>
   rw[he]at hcs;have hr:=(aZ hI (fun t ht=>by subst ht;simp[an]) he d).1;obtain⟨b,off,cc,e,fz,hv,hb,hcells⟩:=zu hI hr hcs;obtain⟨y,v,rfl,hrun,hrd⟩:=lD hok hb hcells h;exact hsame (v:=v) (by simp[execOp,i6,ea,hv,hrun]) hrd
 case binOp op t x y ty2 =>
  split at h<;>try (cases h;done)
  rename_i u v hu hv;have hu:=cZ hT hI (fun t ht=>by subst ht;simp[an]) hu;have hv:=cZ hT hI (fun t ht=>by subst ht;simp[an]) hv;cases hb:Ky op u v with
  |none=>rw[hb]at h;cases h
  |some r =>
   rw[hb]at h;simp[nY]at h;have hrun:=Kx (P:=P) (w:=w) (t:=t) (x:=x) (y:=y) hb
   exact hsc (v:=r) (by
    simp only[execOp,hu.1,hv.1]
    rw[az,hrun.1];rfl) hrun.2 h.symm
 case unOp op t x =>
  split at h<;>try (cases h;done)
  rename_i u hu;have hu:=cZ hT hI (fun t ht=>by subst ht;simp[an]) hu;cases hb:Pz op u with
  |none=>rw[hb]at h;cases h
  |some r =>
   rw[hb]at h;simp[nY]at h;have hrun:=KX (P:=P) (w:=w) hb;exact hsc (v:=r) (by simp[execOp,hu.1,hrun.1]) hrun.2 h.symm
 case convert s t x =>
  split at h<;>try (cases h;done)
  rename_i is u his hu;have hu:=cZ hT hI (fun t ht=>by subst ht;simp[an]) hu;cases hb:Kf T t u with
  |none=>rw[hb]at h;cases h
  |some r =>
   rw[hb]at h;simp[nY]at h;cases u<;>simp only[Kf]at hb<;>try (cases hb;done)
   rename_i kk nn _;split at hb<;>try (cases hb;done)
   rename_i i hi;split at hb<;>try (cases hb;done)
   rename_i hk;obtain⟨info,dd,z,hok⟩:=hT t i hi
   have hb:Value.int i.ik (i.ik.wrap nn)=r:=by split at hb<;>simp at hb<;>(rename_i hik;rw[hik];exact hb)
   subst hb;obtain⟨info',dd',z',hok'⟩:=hT s is his;refine hsc (v:=.int i.ik (i.ik.wrap _)) ?_ rfl h.symm;simp[execOp,Go.convert,run_underlying hok'.und,run_underlying (hok.MB hk),hu.1,Conv.intToInt]
 case makeInterface t x =>
  split at h<;>try (cases h;done)
  rename_i k n i hu hi;split at h<;>simp at h;rename_i hk;have hu:=cZ hT hI (fun t ht=>by subst ht;simp[an]) hu;obtain⟨info,dd,z,hok⟩:=hT t i hi;have hno:=hok.Lx hk;refine hsc (v:=.iface t (.int k n)) ?_ rfl h.symm;simp only[execOp,Instr.makeInterface,az,run_underlying hok.und,am];cases dd<;>simp[hu.1]at hno ⊢
 case fieldAddr t x f =>
  split at h<;>try (cases h;done)
  rename_i i hi;split at h<;>try (cases h;done)
  rename_i off size g hf;obtain⟨info,dd,z,hok⟩:=hT t i hi;obtain⟨fs,fl,j,dd',h1,h2,h3,h4,h5,h6,h7,h8⟩:=nN hok hf;cases he:ex T lk 0 x with
  |none=>rw[he]at h;simp[He]at h
  |some b =>
   rw[he]at h;have hr:=(aZ hI (fun t ht=>by subst ht;simp[an]) he d).1;obtain⟨b,o',hv,hr'⟩:=D9 hr h;refine hsame (v:=.pointer (some ⟨b,o'+off,none⟩)) ?_ hr';have hs:j.size≠0:=by omega
   simp[execOp,Instr.fieldAt,run_underlying h1,h2,hv,ea,fieldPlace,cB,typeInfo,h4,hs,h3,c6]
 case field t x f =>
  split at h<;>try (cases h;done)
  rename_i i cs hi hcs;split at h<;>try (cases h;done)
  rename_i off size g hf;obtain⟨info,dd,z,hok⟩:=hT t i hi;obtain⟨fs,fl,j,dd',h1,h2,h3,h4,h5,h6,h7,h8⟩:=nN hok hf;obtain⟨vs,hv,hr⟩:=(eO hT hI (fun t ht=>by subst ht;simp[an]) hcs).Po
  have hget: ∀(k:Nat) (y:D),(cs.drop off)[k]?=some y→y.ba=true∧ ∃u,vs[off+k]?=some u∧Rd w (aQ O (FW B F0 w)) y u:=fun k y hy=>by rw[bv]at hy;exact hr.get hy
  unfold jA at h;simp only[]at h;have hag:=KE (P:=P) (w:=w) h7;rw[h8]at hag;cases g with
  |true =>
   simp only[]at h;split at h<;>simp at h;rename_i hle;subst h;have hle:=ax hle;have hl:size≤vs.length-off:=by rw[hr.1];simpa using hle
   refine hsame (v:=.agg (vs.toArray.extract off (off+size))) ?_ ?_
   ·simp[execOp,jb,run_underlying h1,h2,hv,asAgg,part,hag,cB,typeInfo,h4,h5,h3]
   ·have he:vs.toArray.extract off (off+size)=((vs.drop off).take size).toArray:=by simp[List.extract_eq_take_drop]
    rw[he];refine Rd.ag (by have e1:=hr.1;simp;omega) (fun y hy=>?_) fun k y u hy hu=>?_
    ·obtain⟨k,hk⟩:=cr.1 hy;rw[bi]at hk;split at hk
     ·exact(hget k y hk).1
     ·cases hk
    ·rw[bi]at hy hu;split at hy<;>try (cases hy;done)
     rename_i hks;rw[if_pos hks,bv]at hu;obtain⟨_,u',hu',hru⟩:=hget k y hy;rw[hu']at hu;simp at hu;subst hu;exact hru
  |false =>
   simp only[]at h;split at h<;>simp at h;rename_i c r hc;subst h;obtain⟨_,u,hu,hru⟩:=hget 0 c (by rw[hc];rfl);refine hsame (v:=u) ?_ hru;simp only[hH]at hu;simp[execOp,jb,run_underlying h1,h2,hv,asAgg,part,hag,h3,hu]
 case extract x k =>
  split at h<;>try (cases h;done)
  rename_i l hl;split at h<;>simp at h;rename_i y hy;subst h;have hr:=eO hT hI (fun t ht=>by subst ht;simp[an]) hl;obtain⟨vs,hv,hlen,hall⟩:=hr.Ou;have hlt:k<vs.length:=by rw[hlen];exact(ab.1 hy).1
  refine hsame (v:=vs[k]) ?_<|hall k y _ hy<|a2 hlt;simp[execOp,Instr.extract,hv,hlt]
 case call c =>
  obtain⟨callee,args,argTypes⟩:=c;simp only[]at h;split at h<;>try (cases h;done)
  ·split at h<;>try (cases h;done)
   rename_i x t hx ht;split at h<;>try (cases h;done)
   rename_i i y hi hy;obtain⟨info,dd,z,hok⟩:=hT t i hi;have hxm:args= #[x]:=by apply cA;simpa using hx
   have htm:argTypes= #[t]:=by apply cA;simpa using ht
   subst hxm;subst htm;have hr:=Kc hT hI (fun t ht=>by subst ht;simp[an,cn]) hy;cases hb:BN i.kind y with
   |none=>rw[hb]at h;cases h
   |some r =>
    rw[hb]at h;simp[nY]at h;have hrun:=JA (w:=w) (ty:=ty) hok hr hb;exact hsc (v:=r) (by simp[execOp,resolve,invoke,builtin,hrun.1]) hrun.2 h.symm
  ·split at h<;>try (cases h;done)
   rename_i v vs hv;have hr:=wK hT hI args.toList _ (fun x hx t ht=>by subst ht;simp[an,cn];exact cS.1 hx) hv;cases hb:vG true v vs with
   |none=>rw[hb]at h;cases h
   |some r =>
    rw[hb]at h;simp[nY]at h;have hrun:=DJ (P:=P) (w:=w) vs v r hb;exact hsc (v:=r) (by simp[execOp,resolve,invoke,builtin,Builtin.max_,hr.1,hrun.1]) hrun.2 h.symm
  ·split at h<;>try (cases h;done)
   rename_i v vs hv;have hr:=wK hT hI args.toList _ (fun x hx t ht=>by subst ht;simp[an,cn];exact cS.1 hx) hv;cases hb:vG false v vs with
   |none=>rw[hb]at h;cases h
   |some r =>
    rw[hb]at h;simp[nY]at h;have hrun:=DI (P:=P) (w:=w) vs v r hb;exact hsc (v:=r) (by simp[execOp,resolve,invoke,builtin,Builtin.min_,hr.1,hrun.1]) hrun.2 h.symm
end
structure Rel (P:Program) (B:Nat) (F0:Nat→Prop) (w0:dh) (n:Nat) (σ:St) (a:Act) (w:World):Prop where
 below:jq B w0 w0.w w
 base:B≤w.heap.size
 f0:FU B F0 w0
 defers:a.defers=[]
 size:a.tmps.size=n
 own: ∃O:Nat→Option Nat,(∀b t,O b=some t→kS B w0 w b)∧ ∀t av,σ.get t=some av→ ∃v,a.tmps[t]?=some v∧fo P w0.X w O (FW B F0 w) σ.get (fun h=>a.tmps[h]?) t av v
def kt(σ:St)(d:Nat)(t:Nat):Option AV:=match ap t d with
 |true=>none
 |false=>σ.get t
theorem bq(σ:St)(d:Nat):kt σ d d=none:=by simp[kt]
theorem sZ(h:kt σ d t=some av):t≠d∧σ.get t=some av:=by
 unfold kt at h;split at h
 ·cases h
 ·rename_i hb;exact⟨b8 hb,h⟩
theorem JK(h:t≠d):kt σ d t=σ.get t:=by
 unfold kt;split
 ·rename_i hb;exact absurd (aa hb) h
 ·rfl
theorem jf(σ:St)(d:Nat)(av:AV):(σ.put d av).get d=some av:=by unfold St.put;cases av.home<;>simp[St.aL]
theorem nJ(σ:St)(d:Nat)(av:AV)(h:t≠d):(σ.put d av).get t=if av.home=true then(σ.get t).map (AV.kill d)else σ.get t:=by unfold St.put;cases av.home<;>simp[St.aL,ct h,St.dA]
theorem ir{a:AV}(h:(a.kill d).home=true):a.kill d=a:=by
 rcases AV.jW d a with h'|h'
 ·exact h'.1
 ·rw[h']at h;simp[AV.home]at h
theorem s6{x:AV}(h:t≠d)(hx:x.home=true)(hg:(σ.put d av).get t=some x):σ.get t=some x:=by
 rw[nJ σ d av h]at hg;split at hg
 ·cases hs:σ.get t with
  |none=>simp[hs]at hg
  |some y =>
   simp only[hs,bz,ca]at hg;subst hg;rw[ir hx]
 ·exact hg
theorem dX{a:Act}(h:t≠d):(a.put (some d) v).tmps[t]?=a.tmps[t]?:=by simp[eh,eY (ct h)]
theorem fu{a:Act}(h:d<a.tmps.size):(a.put (some d) v).tmps[d]?=some v:=by simp[eh,h]
theorem Rel.put{a:Act}{w:World}(hR:Rel P B F0 w0 n σ a w)
  (hOr: ∀b t,O b=some t→kS B w0 w b) (hO: ∀t av,σ.get t=some av→ ∃v,a.tmps[t]?=some v∧fo P w0.X w O (FW B F0 w) σ.get (fun h=>a.tmps[h]?) t av v)
  (hd:d<n) (hg:dG w O d w' O') (hv:fo P w0.X w' O' (FW B F0 w') (kt σ d) (fun h=>a.tmps[h]?) d av v):Rel P B F0 w0 n (σ.put d av) (a.put (some d) v) w':=by
 have hsz:w.heap.size≤w'.heap.size:=hg.below.size;refine⟨hR.below.trans (.of hg.below hR.base),cx hR.base hsz,hR.f0,by simp[eh,hR.defers],by simp[eh,hR.size],O',fun b t hb=>?_,fun t x hx=>?_⟩
 ·rcases hg.mine b t hb with h|⟨_,h⟩
  ·rw[hg.same b h]at hb;exact⟨(hOr b t hb).1,cJ h hsz⟩
  ·rcases c9 b w.heap.size with h'|h'
   ·rw[hg.same b h']at hb;exact⟨(hOr b t hb).1,h⟩
   ·exact⟨.inl (cx hR.base h'),h⟩
 ·by_cases htd:t=d
  ·subst htd;rw[jf]at hx;simp at hx;subst hx;refine⟨v,fu (by rw[hR.size];exact hd),?_⟩
   have hlt: ∀b u,O' b=some u→b<w'.heap.size:=fun b u hb=>by
    rcases hg.mine b u hb with h|⟨_,h⟩
    ·exact cJ h hsz
    ·exact h
   refine hv.mono (fun b hb=>FW.step hR.f0 (cx hR.base hsz) (a4 _) b hb) (fun _ _=>rfl) hlt (fun _ _=>rfl) fun k hk x hx hg'=>?_
   have hkd:k≠t:=fun e=>by subst e;rw[jf]at hg';simp at hg';subst hg';cases av<;>simp_all [AV.home,AV.refs]
   refine⟨?_,dX hkd⟩;rw[JK hkd];exact s6 hkd hx hg'
  ·have key: ∃y,σ.get t=some y∧(x=y∧(av.home=true→y.refs≠some d)∨x= .junk):=by
    rw[nJ σ d av htd]at hx;split at hx
    ·cases hs:σ.get t with
     |none=>simp[hs]at hx
     |some y =>
      simp only[hs,bz,ca]at hx;subst hx;refine⟨y,rfl,?_⟩;rcases AV.jW d y with h|h
      ·exact .inl ⟨h.1,fun _=>h.2⟩
      ·exact .inr h
    ·rename_i h;exact⟨x,hx,.inl ⟨rfl,fun h'=>absurd h' h⟩⟩
   obtain⟨y,hy,hxy⟩:=key;obtain⟨u,hu,hr⟩:=hO t y hy;refine⟨u,by rw[dX htd];exact hu,?_⟩;rcases hxy with⟨rfl,hne⟩|rfl
   ·refine hr.mono (fun b hb=>FW.step hR.f0 hR.base hsz b hb) hg.same (fun b u hb=>(hOr b u hb).2) (fun b hb=>hg.below.block b hb) (fun k hk z hz hg'=>?_)
    have hkd:k≠d:=fun e=>by subst e;rw[jf]at hg';simp at hg';subst hg';exact hne hz hk
    exact⟨s6 hkd hz hg',dX hkd⟩
   ·trivial
def eS(P:Program)(B:Nat)(F0:Nat→Prop)(w0:dh)(n:Nat)(o:Oper)(σ σ':St):Prop :=
 ∀(a:Act) (w:World),Rel P B F0 w0 n σ a w→ ∀(K:Act→World→Prop) (Q:Exit→Act→World→Prop),(∀a' w',Rel P B F0 w0 n σ' a' w'→K a' w')→o.wp P a w K Q
theorem Rel.inv{a:Act}{w:World}(hR:Rel P B F0 w0 n σ a w)(hOr: ∀b t,O b=some t→kS B w0 w b)
  (hO: ∀t av,σ.get t=some av→ ∃v,a.tmps[t]?=some v∧fo P w0.X w O (FW B F0 w) σ.get (fun h=>a.tmps[h]?) t av v) (R:Nat→Prop) (d:Nat):Inv P B F0 w0 R σ.get (kt σ d) a w O:=by
 have hm: ∀t av v,fo P w0.X w O (FW B F0 w) σ.get (fun h=>a.tmps[h]?) t av v→fo P w0.X w O (FW B F0 w) (kt σ d) (fun h=>a.tmps[h]?) t av v:=fun t av v h =>
  h.mono (fun b hb=>FW.step hR.f0 hR.base (a4 _) b hb) (fun _ _=>rfl) (fun b u hb=>(hOr b u hb).2) (fun _ _=>rfl) (fun k _ x _ hk=>⟨(sZ hk).2,rfl⟩)
 refine⟨hR.below,hR.base,hR.f0,hOr,fun t _ av h=>?_,fun t av h _=>?_⟩
 ·obtain⟨v,hv,hr⟩:=hO t av h;exact⟨v,hv,hm _ _ _ hr⟩
 ·obtain⟨v,hv,hr⟩:=hO t av (sZ h).2;exact⟨v,hv,hm _ _ _ hr⟩
theorem eS.Bv(h:aM P B F0 w0 d o σ.get (kt σ d) av)(hd:d<n):eS P B F0 w0 n o σ (σ.put d av):=by intro a w hR K Q hK;obtain⟨hdst,hn,hstep⟩:=h;obtain⟨O,hOr,hO⟩:=hR.own;refine hstep a w O (hR.inv hOr hO _ d) K Q fun v w' O' hg hv=>?_;rw[hdst];exact hK _ _<|hR.put hOr hO hd hg hv
theorem np{z:Value}(hi:kJ P t i info dd z){w:World}{e:TypeId}
  (hb:w.heap[b]?=some (.cells cs e (0,0))) (hs:v.cells.size=i.size) (hl:off+v.cells.size≤cs.size) (h1: ∀u,u∈v.cells.toList→u.oneCell'=true):
  (storeVar t ⟨b,off,none⟩ v).run P w= .ok () (w.setRow b (cs.toList.take off++v.cells.toList++cs.toList.drop (off+v.cells.size)).toArray):=by
 have:=run_storeCells_at P b off e v.cells.toList 0 cs w hb (by simpa using hl) h1;simp only[hH,ce]at this;unfold storeVar;simp only[az,cB,typeInfo,run_program,hi.hinfo,bn,am,hi.size,hs];simp[this,hs]
theorem Rel.write{a:Act}{w:World}{x x':AV}{cs0:Array Value}{e0:TypeId}(hbb:w.heap[b]?=some (.cells cs0 e0 fz))(hss:cs.size=cs0.size)(hR:Rel P B F0 w0 n σ a w)
  (hOr: ∀b t,O b=some t→kS B w0 w b) (hO: ∀t av,σ.get t=some av→ ∃v,a.tmps[t]?=some v∧fo P w0.X w O (FW B F0 w) σ.get (fun h=>a.tmps[h]?) t av v)
  (hx:σ.get h=some x) (hb:O b=some h) (hsame:(∃ds ds',x= .bx ds∧x'= .bx ds')∨(∃e l l',x.row=some (e,l)∧x'.row=some (e,l')∧l.length=l'.length∧x.tag=x'.tag))
  (hv: ∀v,a.tmps[h]?=some v→fo P w0.X w O (FW B F0 w) σ.get (fun h=>a.tmps[h]?) h x v→fo P w0.X (w.setRow b cs) O (FW B F0 w) σ.get (fun h=>a.tmps[h]?) h x' v)
  (hh:x'.home=true):Rel P B F0 w0 n ((h,x')::σ) a (w.setRow b cs):=by
 have hget: ∀t,St.get ((h,x')::σ) t=if h=t then some x' else σ.get t:=fun t=>St.aL _ _ _ _
 have hFW:FW B F0 (w.setRow b cs)=FW B F0 w:=by funext c;simp[FW]
 refine⟨hR.below.trans (.write hbb hss (hOr b h hb).1),by simpa using hR.base,hR.f0,hR.defers,hR.size,O,fun c t hc=>⟨(hOr c t hc).1,by simpa using (hOr c t hc).2⟩,fun t av hav=>?_⟩
 ·rw[hget]at hav;rw[hFW];by_cases htd:h=t
  ·subst htd;simp at hav;subst hav;obtain⟨v,hv',hr⟩:=hO h x hx;refine⟨v,hv',?_⟩;have:=hv v hv' hr;have hlt: ∀c u,O c=some u→c<(w.setRow b cs).heap.size:=fun c u hc=>by simpa using (hOr c u hc).2
   refine this.mono (fun c hc=>⟨by simpa using (FW.step hR.f0 hR.base (a4 _) c hc).1,hc⟩) (fun _ _=>rfl) hlt (fun _ _=>rfl) fun k hk=>?_;exfalso;cases x'<;>simp_all [AV.home,AV.refs]
  ·rw[if_neg htd]at hav;obtain⟨v,hv',hr⟩:=hO t av hav;refine⟨v,hv',hr.write hb (fun e=>absurd e.symm htd) (fun _ hc=>hc) (fun k hk=>⟨fun ds hds=>?_,fun z e l hz hl=>?_⟩)⟩
   ·rw[hget]at hds;split at hds
    ·rename_i hk';subst hk';simp at hds;subst hds;rcases hsame with⟨d1,d2,rfl,_⟩|⟨_,_,_,_,h2,_,_⟩
     ·exact⟨d1,hx⟩
     ·simp[AV.row]at h2
    ·exact⟨ds,hds⟩
   ·rw[hget]at hz;split at hz
    ·rename_i hk';subst hk';simp at hz;subst hz;rcases hsame with⟨_,_,_,h2⟩|⟨e',l1,l2,h1,h2,h3,h4⟩
     ·subst h2;simp[AV.row]at hl
     ·rw[h2]at hl;simp at hl;obtain⟨rfl,rfl⟩:=hl;exact⟨x,l1,hx,h1,h3,h4⟩
    ·exact⟨z,l,hz,hl,rfl,rfl⟩
theorem xA{a:Act}:a.put none v=a:=rfl
theorem eS.IC(hT:bB P T){p:Operand}(hd:o.dst=none)(ho:o.op= .store t p x)(hi:T.get t=some i)
  (hp:ex T σ.get 0 p=some (.pt h off)) (hh:σ.get h=some (.bx ds)) (hx:dO T (ex T σ.get t x)=some y) (hnt:xL y=true) (hs:y.flat.length=i.size) (hl:off+y.flat.length≤ds.length):
  eS P B F0 w0 n o σ ((h,.bx (ds.take off++y.flat++ds.drop (off+y.flat.length)))::σ):=by
 intro a w hR K Q hK;obtain⟨O,hOr,hO⟩:=hR.own;obtain⟨info,dd,z,hok⟩:=hT t i hi;have hI:Inv P B F0 w0 (fun _=>True) σ.get σ.get a w O:=⟨hR.below,hR.base,hR.f0,hOr,fun t _ av h=>hO t av h,fun t av h _=>hO t av h⟩;have hpv:=(aZ hI (fun _ _=>trivial) hp 0).1;have hyv:=eO hT hI (fun _ _=>trivial) hx;obtain⟨u,hu,b,cs,e,rfl,h2,h3,h4⟩:=hO h _ hh;obtain⟨b',hb',hpe⟩:=hpv ds hh;simp only[hu]at hb';simp at hb';subst hb';have hyc:=hyv.cells (sS hnt);have hvs:(a.eval x).cells.size=y.flat.length:=by have:=hyc.1;simpa using this
 have hcs:cs.size=ds.length:=by have:=h4.1;simpa using this
 have hrun:=np hok h3 (v:=a.eval x) (off:=off) (by omega) (by omega) hyc.yC;refine wI (w':=w.setRow b (cs.toList.take off++(a.eval x).cells.toList++cs.toList.drop (off+(a.eval x).cells.size)).toArray) ?_ ?_
 ·obtain⟨dst,op,ty,pos,after,guard⟩:=o;simp only[]at ho;subst ho;simp[execOp,i3,ea,hpe,hrun]
 ·rw[hd,xA];refine hK _ _<|Rel.write h3 (by simp;omega) hR hOr hO hh h2 (.inl ⟨_,_,rfl,rfl⟩) (fun v hv hr=>?_) rfl;rw[hu]at hv;simp at hv;subst hv;refine⟨b,_,e,rfl,h2,setRow_heap w b cs _ e _ h3,?_⟩;have hB: ∀c,aQ O (FW B F0 w) c→(w.setRow b ((cs.toList.take off++(a.eval x).cells.toList++cs.toList.drop (off+(a.eval x).cells.size)).toArray)).heap[c]?=w.heap[c]?:=fun c hc=>setRow_other w b c _ (fun e=>by rw[e,aQ,h2]at hc;cases hc.1);refine nR.mono (w:=w) (F:=aQ O (FW B F0 w)) ?_ (fun _ h=>h) hB;refine⟨by simp;omega,fun j y' u' hy hu'=>?_⟩;rw[cN,a3]at hy hu';have htl:(ds.take off).length=off:=by simp;omega
  have htl':(cs.toList.take off).length=off:=by simp;omega
  rw[htl]at hy;rw[htl']at hu';split at hy
  ·rename_i hj;rw[if_pos hj,bi,if_pos hj]at hu';rw[bi,if_pos hj]at hy;exact h4.2 j y' u' hy hu'
  ·rename_i hj;rw[if_neg hj,a3]at hu';rw[a3]at hy;simp only[ce,hvs]at hu';split at hy
   ·rename_i hj2;rw[if_pos hj2]at hu';exact hyc.2 _ y' u' hy hu'
   ·rename_i hj2;rw[if_neg hj2,bv]at hu';rw[bv]at hy;exact h4.2 _ y' u' hy hu'
section
theorem St.k5(σ:St)(d h:Nat)(x y:AV)(t:Nat):St.get ((d,x)::(h,y)::σ) t=if d=t then some x else if h=t then some y else σ.get t:=by rw[St.aL,St.aL]
theorem eS.ij{y y' z:AV}(hd:o.dst=some d)(hdn:d<n)(ho:o.op= .assign x)
  (hx:ex T σ.get o.type x=some av) (hh:σ.get h=some y)
  (hc:(av= .al h∧y.row.isSome=true∧y'=y∧z= .al d∧h≠d)∨(∃e l lo m,av= .sb h lo m∧y.row=some (e,l)∧y'= .wn y.tag e l lo m∧z= .junk)):eS P B F0 w0 n o σ ((d,y')::(h,z)::σ.kill d):=by
 intro a w hR K Q hK;obtain⟨O,hOr,hO⟩:=hR.own;have hI:Inv P B F0 w0 (fun _=>True) σ.get σ.get a w O:=⟨hR.below,hR.base,hR.f0,hOr,fun t _ av h=>hO t av h,fun t av h _=>hO t av h⟩;have hxv:=(aZ hI (fun _ _=>trivial) hx 0).1;obtain⟨uh,huh,hr⟩:=hO h _ hh
 let O':Nat→Option Nat:=fun c=>if O c=some h then some d else if O c=some d then some h else O c
 have hO'n: ∀c,O' c=none↔O c=none:=fun c=>by
  simp only[O'];split
  ·rename_i h1;simp[h1]
  ·split
   ·rename_i h2;simp[h2]
   ·rfl
 have hF: ∀c,aQ O (FW B F0 w) c→aQ O' (FW B F0 w) c:=fun c hc=>⟨(hO'n c).2 hc.1,hc.2⟩
 have hcell: ∀{l:List D} {cs:Array Value},(∀(i:Nat) (d:D),(flatAll l)[i]?=some d→d.ba=true∧ ∃u,cs[i]?=some u∧Rd w (aQ O (FW B F0 w)) d u) →
   ∀(i:Nat) (d:D),(flatAll l)[i]?=some d→d.ba=true∧ ∃u,cs[i]?=some u∧Rd w (aQ O' (FW B F0 w)) d u:=fun h8 i dd hdd=>⟨(h8 i dd hdd).1,let ⟨z,hz,hzr⟩:=(h8 i dd hdd).2;⟨z,hz,hzr.mono hF (fun _ _=>rfl)⟩⟩
 obtain⟨u,hev,hval⟩: ∃u,a.eval x=u∧ ∀hm tm,fo P w0.X w O' (FW B F0 w) hm tm d y' u:=by
  refine⟨_,rfl,fun hm tm=>?_⟩;rcases hc with⟨rfl,hrow,rfl,rfl,hne⟩|⟨e,l,lo,m,rfl,hrow,rfl,rfl⟩
  ·have:=hxv _ hh hrow;simp only[huh]at this;rw[←gR this];cases y'<;>simp[AV.row]at hrow
   ·rcases hr with hr|⟨b,cap,cs,h1,h2,h3,h4,h5,h6,h7,h8⟩
    ·exact .inl hr
    ·exact .inr ⟨b,cap,cs,h1,by simp[O',h2],h3,h4,h5,h6,h7,hcell h8⟩
   ·rcases hr with hr|⟨b,o,cap,cs,hq,h1,h0,h2,h3,h4,h5,h6,h7,h8⟩
    ·exact .inl hr
    ·exact .inr ⟨b,o,cap,cs,hq,h1,h0,by simp[O',h2],h3,h4,h5,h6,h7,hcell h8⟩
  ·obtain⟨hlo,cap',hc1,hc2,hv⟩:=hxv _ _ _ hh hrow
   have hnil:l.length=0→y.tag=false→ ∀base,a.eval x= .slice base m 0→fo P w0.X w O' (FW B F0 w) hm tm d (.wn y.tag e l lo m) (a.eval x):=fun hl0 hq base hv1=>by
    have hm0:m=0:=by omega
    have hl0':lo=0:=by omega
    subst hm0;subst hl0';exact .inl ⟨hq,base,hv1,b2 hl0,rfl,rfl⟩
   rcases hv with⟨hl0,hq,hc0,base,hv⟩|⟨b,o1,len,cap,o,htm,hv,h0,hcx⟩
   ·have hm0:m=0:=by omega
    exact hnil hl0 hq base (by rw[hm0,hv,hc0])
   ·simp only[huh]at htm;simp at htm;subst htm;rcases mG hr hrow with⟨hl0,hq,hc0⟩|⟨cs,hq,g2,g3,g7,g8⟩
    ·have h1:=hcx.2.2;exact hnil (by rw[hl0];rfl) hq _ (by rw[hv,show cap'=0 by omega])
    ·exact .inr ⟨b,o,cap',cs,hq.1,hv,⟨h0,hcx.1,cx hcx.2.1 hq.2⟩,by simp[O',g2],g3,hlo,hc1,hc2,g7,hcell g8⟩
 refine bh (v:=u) (w':=w) ?_ ?_
 ·obtain⟨dst,op,ty,pos,after,guard⟩:=o;simp only[]at ho hev;subst ho;simp[execOp,hev]
 rw[hd];have hds:d<a.tmps.size:=by rw[hR.size];exact hdn
 refine hK _ _ ⟨hR.below,hR.base,hR.f0,by simp[eh,hR.defers],by simp[eh,hR.size],O',fun c t hc=>?_,fun t av hav=>?_⟩
 ·simp only[O']at hc;split at hc
  ·rename_i h1;exact hOr c h h1
  ·split at hc
   ·rename_i h1;exact hOr c d h1
   ·exact hOr c t hc
 rw[St.k5]at hav;split at hav
 ·rename_i htd;subst htd;simp at hav;subst hav;exact⟨u,fu hds,hval _ _⟩
 ·rename_i htd;split at hav
  ·rename_i hth;subst hth;simp at hav;subst hav;refine⟨uh,by rw[dX (ct htd)];exact huh,?_⟩;rcases hc with⟨rfl,hrow,rfl,rfl,hne⟩|⟨e,l,lo,m,rfl,hrow,rfl,rfl⟩
   ·intro _ _ _;have:=hxv _ hh hrow;simp only[huh]at this;rw[this,←hev];exact fu hds
   ·trivial
  ·rename_i hth;rw[St.dA]at hav;cases hs:σ.get t with
   |none=>simp[hs]at hav
   |some yy =>
    simp only[hs,bz,ca]at hav;subst hav;obtain⟨v,hv,hvr⟩:=hO t yy hs;refine⟨v,by rw[dX (ct htd)];exact hv,?_⟩;rcases AV.jW d yy with⟨h1,h2⟩|h1
    ·rw[h1]
     have hres: ∀k,yy.refs=some k→ ∀x,x.home=true→St.get ((d,y')::(h,z)::σ.kill d) k=some x→σ.get k=some x∧(a.put (some d) u).tmps[k]?=a.tmps[k]?:=fun k hk x hx hg=>by
      have hkd:k≠d:=fun e=>h2 (e▸hk);rw[St.k5,if_neg (ct hkd)]at hg;split at hg
      ·simp at hg;subst hg;rcases hc with⟨_,_,_,rfl,_⟩|⟨_,_,_,_,_,_,_,rfl⟩<;>simp[AV.home]at hx
      ·rw[St.dA]at hg;cases hsk:σ.get k with
       |none=>simp[hsk]at hg
       |some z =>
        simp only[hsk,bz,ca]at hg;subst hg;rw[ir hx];exact⟨rfl,dX hkd⟩
     cases yy with
     |d x=>exact Rd.mono hvr hF (fun _ _=>rfl)
     |bx ds =>
      obtain⟨b,cs,e',g1,g2,g3,g4⟩:=hvr;refine⟨b,cs,e',g1,?_,g3,g4.mono hF (fun _ _=>rfl)⟩;simp only[O',g2];rw[if_neg (by simpa using ct hth),if_neg (by simpa using ct htd)]
     |pt k off=>exact fun ds hds=>by obtain⟨g1,g2⟩:=hres k rfl _ rfl hds;simp only[g2];exact hvr ds g1
     |rf ds =>
      obtain⟨b,off,cs,e',fz,g1,g2,g3,g4⟩:=hvr;exact⟨b,off,cs,e',fz,g1,hF b g2,g3,fun i dd hdd=>⟨(g4 i dd hdd).1,let ⟨z,hz,hzr⟩:=(g4 i dd hdd).2;⟨z,hz,hzr.mono hF (fun _ _=>rfl)⟩⟩⟩
     |e0 e'=>exact hvr
     |ow e' l' =>
      rcases hvr with hvr|⟨b,cap,cs,g1,g2,g3,g4,g5,g6,g7,g8⟩
      ·exact .inl hvr
      ·refine .inr ⟨b,cap,cs,g1,?_,g3,g4,g5,g6,g7,fun i dd hdd=>⟨(g8 i dd hdd).1,let ⟨z,hz,hzr⟩:=(g8 i dd hdd).2;⟨z,hz,hzr.mono hF (fun _ _=>rfl)⟩⟩⟩;simp only[O',g2];rw[if_neg (by simpa using ct hth),if_neg (by simpa using ct htd)]
     |wn q' e' l' lo m =>
      rcases hvr with hvr|⟨b,o,cap,cs,hq,g1,g0,g2,g3,g4,g5,g6,g7,g8⟩
      ·exact .inl hvr
      refine .inr ⟨b,o,cap,cs,hq,g1,g0,?_,g3,g4,g5,g6,g7,fun i dd hdd=>⟨(g8 i dd hdd).1,let ⟨z,hz,hzr⟩:=(g8 i dd hdd).2;⟨z,hz,hzr.mono hF (fun _ _=>rfl)⟩⟩⟩;simp only[O',g2];rw[if_neg (by simpa using ct hth),if_neg (by simpa using ct htd)]
     |al k=>exact fun x' hx' hl'=>by obtain⟨g1,g2⟩:=hres k rfl _ (dQ hl') hx';simp only[g2];exact hvr x' g1 hl'
     |el k i off=>exact fun x' e' l' hx' hl'=>by obtain⟨g1,g2⟩:=hres k rfl _ (dQ (by rw[hl'];rfl)) hx';simp only[g2];exact hvr x' e' l' g1 hl'
     |sb k i off=>exact fun x' e' l' hx' hl'=>by obtain⟨g1,g2⟩:=hres k rfl _ (dQ (by rw[hl'];rfl)) hx';simp only[g2];exact hvr x' e' l' g1 hl'
     |un=>exact hvr
     |junk=>trivial
    ·rw[h1];trivial
def ae(P:Program)(B:Nat)(F0:Nat→Prop)(w0:dh)(n:Nat)(all:Array Oper)(l:List Oper)(K:St→Prop)(σ:St):Prop :=
 ∀(a:Act) (w:World),Rel P B F0 w0 n σ a w→ ∀Q:Exit→Act→World→Prop,(∀a w σ',K σ'→Rel P B F0 w0 n σ' a w→Q .normal a w)→wpList P all Q l a w
variable {all:Array Oper} 
theorem ae.nil(h:K σ):ae P B F0 w0 n all [] K σ:=fun a w hR Q hQ=>hQ a w σ h hR
theorem ae.step(hg:o.guard=none)(ho:eS P B F0 w0 n o σ σ')(h:ae P B F0 w0 n all rest K σ'):ae P B F0 w0 n all (o::rest) K σ:=by intro a w hR Q hQ;unfold wpList;rw[if_pos (by simp[cI,hg])];exact .inl (ho a w hR _ _ fun a' w' hR'=>h a' w' hR' Q hQ)
theorem wH{b:Bool}{a:Act}{w:World}(hR:Rel P B F0 w0 n σ a w)(hg:all[g]?=some og)(ht:og.dst=some t)(hb:σ.get t=some (.d (.v (.bool b)))):yielded all a.tmps g=some b:=by obtain⟨O,hOr,hO⟩:=hR.own;obtain⟨v,hv,hr⟩:=hO t _ hb;have:=(Rd.j5 hr).1;subst this;simp[yielded,hg,ht,hv]
theorem ae.JN{b:Bool}(hgd:o.guard=some (g,b))(hg:all[g]?=some og)(ht:og.dst=some t)(hb:σ.get t=some (.d (.v (.bool b))))
  (ho:eS P B F0 w0 n o σ σ') (h:ae P B F0 w0 n all rest K σ'):ae P B F0 w0 n all (o::rest) K σ:=by
 intro a w hR Q hQ;unfold wpList;rw[if_pos (by simp[cI,hgd,wH hR hg ht hb])];exact .inl (ho a w hR _ _ fun a' w' hR'=>h a' w' hR' Q hQ)
theorem Rel.un{a:Act}{w:World}(hR:Rel P B F0 w0 n σ a w)(hd:d<n):Rel P B F0 w0 n ((d,.un)::σ) (a.put (some d) undef) w:=by obtain⟨O,hOr,hO⟩:=hR.own;exact hR.put (av:=.un) hOr hO hd (dG.refl (fun b t hb=>(hOr b t hb).2)) rfl
theorem ae.NH{b b':Bool}(hgd:o.guard=some (g,b))(hg:all[g]?=some og)(ht:og.dst=some t)(hb:σ.get t=some (.d (.v (.bool b'))))(hne:(b'==b)=false)
  (hd:o.dst=some d) (hdn:d<n) (h:ae P B F0 w0 n all rest K ((d,.un)::σ)):ae P B F0 w0 n all (o::rest) K σ:=by
 intro a w hR Q hQ;unfold wpList;rw[if_neg (by simp[cI,hgd,wH hR hg ht hb];simpa using hne),hd];exact h _ w (hR.un hdn) Q hQ
theorem ae.NG{b:Bool}(hgd:o.guard=some (g,b))(hg:all[g]?=some og)(ht:og.dst=some t)(hb:σ.get t=some .un)
  (hd:o.dst=some d) (hdn:d<n) (h:ae P B F0 w0 n all rest K ((d,.un)::σ)):ae P B F0 w0 n all (o::rest) K σ:=by
 intro a w hR Q hQ
 have hy:yielded all a.tmps g≠some b:=by obtain⟨O,hOr,hO⟩:=hR.own;obtain⟨v,hv,hr⟩:=hO t _ hb;have hr:v=undef:=hr;subst hr;simp[yielded,hg,ht,hv,undef]
 unfold wpList;rw[if_neg (by simp[cI,hgd];simpa using hy),hd];exact h _ w (hR.un hdn) Q hQ
theorem ae.split{l:List Oper}{t:Nat}{b:Bool}(hb:σ.get t=some (.d (.v (.bool b))))
  (h1:b=true→ae P B F0 w0 n all l K ((t,.d (.v (.bool true)))::σ)) (h2:b=false→ae P B F0 w0 n all l K ((t,.d (.v (.bool false)))::σ)):ae P B F0 w0 n all l K σ:=by
 have key: ∀a w,Rel P B F0 w0 n σ a w→Rel P B F0 w0 n ((t,.d (.v (.bool b)))::σ) a w:=fun a w hR=>by
  obtain⟨O,hOr,hO⟩:=hR.own
  have hget: ∀k,St.get ((t,AV.d (.v (.bool b)))::σ) k=σ.get k:=fun k=>by
   rw[St.aL];split
   ·rename_i e;rw[←e,hb]
   ·rfl
  have:St.get ((t,AV.d (.v (.bool b)))::σ)=σ.get:=funext hget;exact⟨hR.below,hR.base,hR.f0,hR.defers,hR.size,O,hOr,fun k av hk=>by rw[this]at hk ⊢; exact hO k av hk⟩
 intro a w hR Q hQ;cases b with
 |true=>exact h1 rfl a w (key a w hR) Q hQ
 |false=>exact h2 rfl a w (key a w hR) Q hQ
def kl(all:Array Oper)(σ:St)(g:Nat):Option Bool:=match all[g]? with
 |some og=>match og.dst with
  |some t=>match σ.get t with
   |some (.d (.v (.bool true)))=>some true
   |some (.d (.v (.bool false)))=>some false
   |_=>none
  |none=>none
 |none=>none
def nI(all:Array Oper)(σ:St)(g:Nat):Bool:=match all[g]? with
 |some og=>match og.dst with
  |some t=>match σ.get t with
   |some .un=>true
   |_=>false
  |none=>false
 |none=>false
theorem rE(h:nI all σ g=true): ∃og t,all[g]?=some og∧og.dst=some t∧σ.get t=some .un:=by
 unfold nI at h;split at h<;>try (cases h;done)
 rename_i og hg;split at h<;>try (cases h;done)
 rename_i t ht;split at h<;>simp at h;rename_i hb;exact⟨og,t,hg,ht,hb⟩
def qS(T:Ty)(σ:St):Op→Option St
 | .store t p x=>match T.get t,ex T σ.get 0 p,dO T (ex T σ.get t x)with
   |some i,some (.pt h off),some y=>match σ.get h,xL y,ap y.flat.length i.size with
    |some (.bx ds),true,true=>match b0 (off+y.flat.length) ds.length with
     |true=>some ((h,.bx (ds.take off++y.flat++ds.drop (off+y.flat.length)))::σ)
     |false=>none
    |_,_,_=>none
   |_,_,_=>none
 |_=>none
def JI(T:Ty)(σ:St)(ty d:Nat):Op→Option St
 | .assign x=>match ex T σ.get ty x with
   |some (.al h)=>match ap h d,σ.get h with
    |false,some (.ow e l)=>some ((d,.ow e l)::(h,.al d)::σ.kill d)
    |false,some (.wn q e l lo m)=>some ((d,.wn q e l lo m)::(h,.al d)::σ.kill d)
    |_,_=>none
   |some (.sb h lo m)=>match ap h d,σ.get h with
    |false,_=>some ((d,.sb h lo m)::σ)
    |true,some (.ow e l)=>some ((d,.wn false e l lo m)::(h,.junk)::σ.kill d)
    |true,some (.wn q e l _ _)=>some ((d,.wn q e l lo m)::(h,.junk)::σ.kill d)
    |_,_=>none
   |_=>none
 |_=>none
def G0(T:Ty)(n:Nat)(σ:St)(dst:Option Nat)(ty:Nat)(op:Op):Option St:=match dst with
 |some d=>match b0 (d+1) n with
  |true=>match pF T σ.get (kt σ d) ty op with
   |some av=>match av.home with
    |true=>some ((d,av)::σ.kill d)
    |false=>some ((d,av)::σ)
   |none=>JI T σ ty d op
  |false=>none
 |none=>qS T σ op
def Mr(T:Ty)(n:Nat)(all:Array Oper)(σ:St)(o:Oper):Option St:=match o.guard with
 |none=>G0 T n σ o.dst o.type o.op
 |some (g,b)=>match kl all σ g with
  |some b'=>match b'==b with
   |true=>G0 T n σ o.dst o.type o.op
   |false=>match o.dst with
    |some d=>match b0 (d+1) n with
     |true=>some ((d,.un)::σ)
     |false=>none
    |none=>none
  |none=>match nI all σ g with
   |true=>match o.dst with
    |some d=>match b0 (d+1) n with
     |true=>some ((d,.un)::σ)
     |false=>none
    |none=>none
   |false=>none
def y8(T:Ty)(n:Nat)(all:Array Oper):Nat→List Oper→St→Option (St×List Oper)
 |0,l,σ=>some (σ,l)
 |k+1,l,σ=>match l with
  |[]=>some (σ,[])
  |o::r=>match Mr T n all σ o with
   |some σ'=>y8 T n all k r σ'
   |none=>none
theorem zU(hT:bB P T)(hd:o.dst=none)(h:qS T σ o.op=some σ'):eS P B F0 w0 n o σ σ':=by
 cases ho:o.op<;>rw[ho]at h<;>simp only[qS]at h<;>try (cases h;done)
 split at h<;>try (cases h;done)
 rename_i i k off y hi hp hx;split at h<;>try (cases h;done)
 rename_i ds hh hnt hs;split at h<;>try (cases h;done)
 rename_i hl;have h:=gR h;subst h;exact eS.IC hT hd ho hi hp hh hx hnt (aa hs)<|ax hl
theorem eS.Pn(hd:o.dst=some d)(hdn:d<n)(ho:o.op= .assign x)(hx:ex T σ.get o.type x=some (.sb h lo m))(hne:h≠d):eS P B F0 w0 n o σ ((d,.sb h lo m)::σ):=by
 intro a w hR K Q hK;obtain⟨O,hOr,hO⟩:=hR.own;have hI:=hR.inv hOr hO (fun _=>True) d;have hxv:=(aZ hI (fun _ _=>trivial) hx d).1;refine bh (v:=a.eval x) (w':=w) ?_ ?_
 ·obtain⟨dst,op,ty,pos,after,guard⟩:=o;simp only[]at ho;subst ho;simp[execOp]
 rw[hd];exact hK _ _ (hR.put (av:=.sb h lo m) hOr hO hdn (dG.refl hI.lt) hxv)
theorem JH(hd:o.dst=some d)(hdn:d<n)(h:JI T σ o.type d o.op=some σ'):eS P B F0 w0 n o σ σ':=by
 cases ho:o.op<;>rw[ho]at h<;>simp only[JI]at h<;>try (cases h;done)
 split at h<;>try (cases h;done)
 ·rename_i k hx;split at h<;>simp at h
  ·rename_i e l hne hh;subst h;exact eS.ij hd hdn ho hx hh (.inl ⟨rfl,rfl,rfl,rfl,b8 hne⟩)
  ·rename_i q e l lo m hne hh;subst h;exact eS.ij hd hdn ho hx hh (.inl ⟨rfl,rfl,rfl,rfl,b8 hne⟩)
 ·rename_i k lo m hx;split at h<;>simp at h
  ·rename_i hne;subst h;exact eS.Pn hd hdn ho hx<|b8 hne
  ·rename_i e l hne hh;subst h;exact eS.ij hd hdn ho hx hh (.inr ⟨_,_,_,_,rfl,rfl,rfl,rfl⟩)
  ·rename_i q e l lo' m' hne hh;subst h;exact eS.ij hd hdn ho hx hh (.inr ⟨_,_,_,_,rfl,rfl,rfl,rfl⟩)
theorem D1(hT:bB P T)(h:G0 T n σ o.dst o.type o.op=some σ'):eS P B F0 w0 n o σ σ':=by
 unfold G0 at h;split at h
 ·rename_i d hd;split at h<;>try (cases h;done)
  rename_i hdn;have hdn:d<n:=ax hdn;split at h
  ·rename_i av hav
   have:σ'=σ.put d av:=by unfold St.put;cases hh:av.home<;>simp[hh]at h ⊢ <;>exact h.symm
   subst this;exact eS.Bv (xC hT hd (bq σ d) hav) hdn
  ·exact JH hd hdn h
 ·rename_i hd;exact zU hT hd h
theorem l3{b:Bool}(h:kl all σ g=some b): ∃og t,all[g]?=some og∧og.dst=some t∧σ.get t=some (.d (.v (.bool b))):=by
 unfold kl at h;split at h<;>try (cases h;done)
 rename_i og hg;split at h<;>try (cases h;done)
 rename_i t ht;split at h<;>simp at h
 ·rename_i hb;subst h;exact⟨og,t,hg,ht,hb⟩
 ·rename_i hb;subst h;exact⟨og,t,hg,ht,hb⟩
theorem ae.run(hT:bB P T): ∀(k:Nat) (l:List Oper) (σ σ':St) (r:List Oper),y8 T n all k l σ=some (σ',r)→ae P B F0 w0 n all r K σ'→ae P B F0 w0 n all l K σ
 |0,l,σ,σ',r,h,hk=>by simp[y8]at h;obtain⟨rfl,rfl⟩:=h;exact hk
 |k+1,[],σ,σ',r,h,hk=>by simp[y8]at h;obtain⟨rfl,rfl⟩:=h;exact hk
 |k+1,o::l,σ,σ',r,h,hk=>by
  simp only[y8]at h;split at h<;>try (cases h;done)
  rename_i σ1 hs;have ih:=ae.run hT k l σ1 σ' r h hk;unfold Mr at hs;split at hs
  ·rename_i hg;exact ae.step hg (D1 hT hs) ih
  ·rename_i g b hg;split at hs
   ·rename_i b' hb';obtain⟨og,t,h1,h2,h3⟩:=l3 hb';split at hs
    ·rename_i hbb;have:b'=b:=by simpa using hbb
     subst this;exact ae.JN hg h1 h2 h3 (D1 hT hs) ih
    ·rename_i hbb;split at hs<;>try (cases hs;done)
     rename_i d hd;split at hs<;>simp at hs;rename_i hdn;subst hs;exact ae.NH hg h1 h2 h3 hbb hd (ax hdn) ih
   ·split at hs<;>try (cases hs;done)
    rename_i hu;obtain⟨og,t,h1,h2,h3⟩:=rE hu;split at hs<;>try (cases hs;done)
    rename_i d hd;split at hs<;>simp at hs;rename_i hdn;subst hs;exact ae.NG hg h1 h2 h3 hd (ax hdn) ih
def AW(P:Program)(B:Nat)(F0:Nat→Prop)(w0:dh)(n:Nat)(c:Code)(Q:Exit→St→Prop)(σ:St):Prop :=
 ∀(a:Act) (w:World),Rel P B F0 w0 n σ a w→c.wp P (fun e a' w'=> ∃σ',Q e σ'∧Rel P B F0 w0 n σ' a' w') a w
variable {x y:Code}
def rX(K:St→Prop)(Q:Exit→St→Prop):Exit→St→Prop
 | .normal,σ=>K σ
 | .exit i,σ=>Q (.exit i) σ
 | .goto i,σ=>Q (.goto i) σ
 | .ret,σ=>Q .ret σ
 | .panic c,σ=>Q (.panic c) σ
 | .outgrown,σ=>Q .outgrown σ
def Kv(id:Nat)(Q:Exit→St→Prop):Exit→St→Prop
 | .normal,σ=>Q .normal σ
 | .exit i,σ=>match ap i id with
   |true=>Q .normal σ
   |false=>Q (.exit i) σ
 | .goto i,σ=>Q (.goto i) σ
 | .ret,σ=>Q .ret σ
 | .panic c,σ=>Q (.panic c) σ
 | .outgrown,σ=>Q .outgrown σ
theorem AW.skip(h:Q .normal σ):AW P B F0 w0 n .skip Q σ:=fun a w hR=>wp_skip ⟨σ,h,hR⟩
theorem AW.exit(h:Q (.exit id) σ):AW P B F0 w0 n (.exit id) Q σ:=fun a w hR=>wp_exit ⟨σ,h,hR⟩
theorem AW.ret(h:Q .ret σ):AW P B F0 w0 n .ret Q σ:=fun a w hR=>wp_ret ⟨σ,h,hR⟩
theorem AW.seq(h:AW P B F0 w0 n x (rX (AW P B F0 w0 n y Q) Q) σ):AW P B F0 w0 n (.seq x y) Q σ:=by intro a w hR;refine wp_seq (wp_mono (h a w hR) fun e a' w' ⟨σ',hq,hR'⟩=>?_);cases e<;>first|exact hq a' w' hR'|exact⟨σ',hq,hR'⟩
theorem AW.block(h:AW P B F0 w0 n x (Kv id Q) σ):AW P B F0 w0 n (.block id x) Q σ:=by
 intro a w hR;refine wp_block (wp_mono (h a w hR) fun e a' w' ⟨σ',hq,hR'⟩=>?_);cases e with
 |exit i =>
  simp only[Kv]at hq;simp only[Exit.inBlock];split at hq
  ·rename_i hb;rw[if_pos (aa hb)];exact⟨σ',hq,hR'⟩
  ·rename_i hb;rw[if_neg (b8 hb)];exact⟨σ',hq,hR'⟩
 |_=>exact⟨σ',hq,hR'⟩
def pv(σ:St):Operand→Option Bool
 | .tmp t=>match σ.get t with
   |some (.d (.v (.bool b)))=>some b
   |_=>none
 | .const (.bool b)=>some b
 |_=>none
theorem AW.cond{b:Bool}(hc:pv σ c=some b)(h1:b=true→AW P B F0 w0 n x Q σ)(h2:b=false→AW P B F0 w0 n y Q σ):AW P B F0 w0 n (.cond c x y) Q σ:=by
 intro a w hR
 have he:a.eval c= .bool b:=by
  unfold pv at hc;split at hc<;>try (cases hc;done)
  ·split at hc<;>simp at hc;rename_i hg;subst hc;obtain⟨O,hOr,hO⟩:=hR.own;obtain⟨v,hv,hr⟩:=hO _ _ hg;have:=(Rd.j5 hr).1;subst this;exact gp hv
  ·simp at hc;subst hc;rfl
 refine wp_cond he ?_;cases b with
 |true=>exact h1 rfl a w hR
 |false=>exact h2 rfl a w hR
theorem AW.aH(hc:pv σ c=some true)(h1:AW P B F0 w0 n x Q σ):AW P B F0 w0 n (.cond c x y) Q σ:=AW.cond hc (fun _=>h1) (fun h=>by cases h)
theorem AW.aC(hc:pv σ c=some false)(h1:AW P B F0 w0 n y Q σ):AW P B F0 w0 n (.cond c x y) Q σ:=AW.cond hc (fun h=>by cases h) (fun _=>h1)
theorem AW.region(h:ae P B F0 w0 n ops ops.toList (Q .normal) σ):AW P B F0 w0 n (.region id ops false) Q σ :=
 fun a w hR=>wp_region_list (h a w hR _ fun a' w' σ' hk hR'=>⟨σ',hk,hR'⟩)
theorem AW.loop(I:St→Prop)(μ:St→Nat)(h0:I σ)(hb: ∀σ,I σ→AW P B F0 w0 n x (rX (fun σ'=>I σ'∧μ σ'<μ σ) Q) σ):AW P B F0 w0 n (.loop x) Q σ:=by
 intro a w hR
 have hex: ∀a w,(∃σ,I σ∧Rel P B F0 w0 n σ a w)→ ∃m,(∃σ,μ σ=m∧I σ∧Rel P B F0 w0 n σ a w)∧ ∀m',(∃σ,μ σ=m'∧I σ∧Rel P B F0 w0 n σ a w)→m≤m':=fun a w ⟨σ,h1,h2⟩=>by
  have: ∃m,∃σ,μ σ=m∧I σ∧Rel P B F0 w0 n σ a w:=⟨μ σ,σ,rfl,h1,h2⟩
  let p:Nat→Prop:=fun m=> ∃σ,μ σ=m∧I σ∧Rel P B F0 w0 n σ a w
  have key: ∀k m,m≤k→p m→ ∃m0,p m0∧ ∀m',p m'→m0≤m':=by
   intro k
   induction k with
   |zero=>intro m hm hp;exact⟨m,hp,fun m' _=>by omega⟩
   |succ k ih =>
    intro m hm hp;by_cases hlt: ∃m',m'≤k∧p m'
    ·obtain⟨m',h1,h2⟩:=hlt;exact ih m' h1 h2
    ·exact⟨m,hp,fun m' hp'=>by
      rcases c9 k m' with h|h
      ·omega
      ·exact absurd ⟨m',h,hp'⟩ hlt⟩
  obtain⟨m,hm⟩:=this;exact key m m (a4 _) hm
 let M:Act→World→Nat:=fun a w=>open Classical in if h: ∃σ,I σ∧Rel P B F0 w0 n σ a w then hN (hex a w h)else 0
 have hM: ∀a w,(∃σ,I σ∧Rel P B F0 w0 n σ a w)→(∃σ,μ σ=M a w∧I σ∧Rel P B F0 w0 n σ a w)∧ ∀σ,I σ→Rel P B F0 w0 n σ a w→M a w≤μ σ:=fun a w h=>by have:=gb (hex a w h);simp only[M,dif_pos h];exact⟨this.1,fun σ h1 h2=>this.2 (μ σ) ⟨σ,rfl,h1,h2⟩⟩
 refine wp_loop (fun a w=> ∃σ,I σ∧Rel P B F0 w0 n σ a w) M ⟨σ,h0,hR⟩ fun a w hI=>?_;obtain⟨⟨σ1,hm,hI1,hR1⟩,_⟩:=hM a w hI;refine wp_mono (hb σ1 hI1 a w hR1) fun e a' w' ⟨σ',hq,hR'⟩=>?_;cases e with
 |normal =>
  obtain⟨h1,h2⟩:=hq;refine⟨⟨σ',h1,hR'⟩,?_⟩;have:=(hM a' w' ⟨σ',h1,hR'⟩).2 σ' h1 hR';omega
 |_=>exact⟨σ',hq,hR'⟩
theorem Rel.fc(ks:List Nat){a:Act}{w:World}(hR:Rel P B F0 w0 n σ a w):Rel P B F0 w0 n (σ.fc ks) a w:=by
 obtain⟨O,hOr,hO⟩:=hR.own;refine⟨hR.below,hR.base,hR.f0,hR.defers,hR.size,O,hOr,fun t av h=>?_⟩;rw[St.s8]at h;split at h<;>try (cases h;done)
 obtain⟨v,hv,hr⟩:=hO t av h;refine⟨v,hv,hr.mono (fun b hb=>FW.step hR.f0 hR.base (a4 _) b hb) (fun _ _=>rfl) (fun b u hb=>(hOr b u hb).2) (fun _ _=>rfl) (fun k hk x hx hg=>?_)⟩;rw[St.s8]at hg;split at hg
 ·exact⟨hg,rfl⟩
 ·cases hg
theorem AW.fc(ks:List Nat)(h:AW P B F0 w0 n x Q (σ.fc ks)):AW P B F0 w0 n x Q σ:=fun a w hR=>h a w (hR.fc ks)
theorem AW.mono{Q':Exit→St→Prop}(h:AW P B F0 w0 n x Q σ)(hq: ∀e σ,Q e σ→Q' e σ):AW P B F0 w0 n x Q' σ:=fun a w hR=>wp_mono (h a w hR) fun e a' w' ⟨σ',h1,h2⟩=>⟨σ',hq _ _ h1,h2⟩
end
def uL(P:Program)(f:FuncId):Prop:= ∃fn,P.funcs[f]?=some fn∧(fn.name=="runtime.NumGoroutine")=false∧fn.body.isNone=false
def Pure(P:Program)(f:FuncId)(args:List D)(res:D):Prop :=
 uL P f∧ ∀(w:World) (F:Nat→Prop) (vs:List Value),(∀b,F b→b<w.heap.size)→vs.length=args.length→(∀(i:Nat) (d:D) (v:Value),args[i]?=some d→vs[i]?=some v→Rd w F d v) →
  Calls P f vs.toArray w (fun e w'=> ∃v,e= .returned v∧Below w.heap.size w w'∧Rd w' (FW w.heap.size F w') res v)
def fh:Nat→List D→St
 |_,[]=>[]
 |k,d::r=>(k,.d d)::fh (k+1) r
theorem jL: ∀(ds:List D) (k t:Nat),(fh k ds).get t=if k≤t then(ds[t-k]?).map AV.d else none
 |[],k,t=>by simp[fh,St.get]
 |d::r,k,t=>by
  simp only[fh,St.aL,jL r (k+1) t];by_cases h:k=t
  ·subst h;simp
  ·by_cases h2:k≤t
   ·rw[if_neg h,if_pos (by omega),if_pos h2,show t-k=(t-(k+1))+1 by omega];simp
   ·rw[if_neg h,if_neg (by omega),if_neg h2]
def A2(T:Ty)(σ:St):ResultVar→Option D
 | .tmp t=>KS T σ.get (ex T σ.get 0 (.tmp t))
 | .cell c t=>match T.get t,σ.get c with
   |some i,some (.bx ds)=>match jA i ds with
    |some (.d x)=>some x
    |_=>none
   |_,_=>none
def w9(T:Ty)(σ:St):List ResultVar→Option (List D)
 |[]=>some []
 |r::rs=>match A2 T σ r,w9 T σ rs with
  |some d,some ds=>some (d::ds)
  |_,_=>none
def EO(T:Ty)(σ:St)(rs:List ResultVar):Option D:=match w9 T σ rs with
 |some [d]=>some d
 |some []=>some (.tu [])
 |some (d::e::r)=>some (.tu (d::e::r))
 |none=>none
def OD(T:Ty)(rs:List ResultVar)(res:D):Exit→St→Prop
 | .normal,σ=>EO T σ rs=some res
 | .ret,σ=>EO T σ rs=some res
 | .exit _,_=>False
 | .goto _,_=>False
 | .panic _,_=>False
 | .outgrown,_=>False
def oL(tmps:Array Value):ResultVar→Sem Value
 | .tmp t=>pure (tmps.getD t undef)
 | .cell c t=>do loadVar t (←asAddr (tmps.getD c undef))
theorem eV(fn:Func)(tmps:Array Value):results fn tmps=(do
  let vs ←fn.results.mapM (oL tmps)
  pure (if h:vs.size=1 then vs[0]else .tuple vs)):=by
 unfold results
 congr 1
theorem AY(hT:bB P T){a:Act}{w:World}(hR:Rel P B F0 w0 n σ a w){r:ResultVar}{d:D}(h:A2 T σ r=some d):
  ∃v,(oL a.tmps r).run P w= .ok v w∧Rd w (FW B F0 w) d v:=by
 obtain⟨O,hOr,hO⟩:=hR.own;have hI:Inv P B F0 w0 (fun _=>True) σ.get σ.get a w O:=⟨hR.below,hR.base,hR.f0,hOr,fun t _ av h=>hO t av h,fun t av h _=>hO t av h⟩;cases r with
 |tmp t =>
  simp only[A2]at h;exact⟨_,rfl,Kc hT hI (fun _ _=>trivial) h⟩
 |cell c t =>
  simp only[A2]at h;split at h<;>try (cases h;done)
  rename_i i ds hi hc;split at h<;>simp at h;rename_i y hy;subst h;obtain⟨info,dd,z,hok⟩:=hT t i hi;obtain⟨u,hu,b,cs,e,rfl,h2,h3,h4⟩:=hO c _ hc;obtain⟨x,v,hx,hrun,hrd⟩:=lD (off:=0) hok h3 (fun j x hj=>by obtain⟨g1,g2⟩:=h4.get hj;exact⟨g1,by simpa using g2⟩) hy;simp at hx;subst hx;refine⟨v,?_,hrd.mono (fun b hb=>hb.2) (fun _ _=>rfl)⟩;have hgd:a.tmps.getD c undef= .pointer (some ⟨b,0,none⟩):=by simp[d7,hu]
  simp only[oL,hgd,asAddr,az,bn,am,hrun]
theorem fr(hT:bB P T){a:Act}{w:World}(hR:Rel P B F0 w0 n σ a w): ∀(rs:List ResultVar) (ds:List D),w9 T σ rs=some ds →
  ∃vs:List Value,(rs.mapM (oL a.tmps)).run P w= .ok vs w∧vs.length=ds.length ∧
   ∀(i:Nat) (d:D) (v:Value),ds[i]?=some d→vs[i]?=some v→Rd w (FW B F0 w) d v
 |[],ds,h=>by simp[w9]at h;subst h;exact⟨[],by simp,rfl,fun i d v h=>by simp at h⟩
 |r::rs,ds,h=>by
  simp only[w9]at h;split at h<;>simp at h;rename_i d ds' h1 h2;subst h;obtain⟨v,hv,hr⟩:=AY hT hR h1;obtain⟨vs,hvs,hl,hall⟩:=fr hT hR rs ds' h2;refine⟨v::vs,?_,by simp[hl],fun i d' u h3 h4=>?_⟩
  ·simp only[ga,az,am,hvs,bn,hv]
  ·cases i with
   |zero=>simp at h3 h4;subst h3;subst h4;exact hr
   |succ i=>exact hall i d' u (by simpa using h3) (by simpa using h4)
theorem Pure.intro(hT:bB P T){fn:Func}{c:Code}{rs:List ResultVar}{args:List D}(hf:P.funcs[f]?=some fn)(hb:fn.body=some c)(hrs:fn.results.toList=rs)(hn:fn.ntmps=n)(hl:args.length≤n)(hnm:(fn.name=="runtime.NumGoroutine")=false)
  (h: ∀(B:Nat) (F0:Nat→Prop) (w0:dh),AW P B F0 w0 n c (OD T rs res) (fh 0 args)):Pure P f args res:=by
 refine⟨⟨fn,hf,hnm,by simp[hb]⟩,fun w F vs hF hlen hr=>?_⟩;refine calls_of_wp hf hb<|wp_mono (h w.heap.size F ⟨w,fun _=>False⟩ _ w ?_) ?_
 ·refine⟨.refl _ _ _,a4 _,⟨hF,fun b hb=>hb.elim⟩,rfl,?_,fun _=>none,(fun b t hb=>by simp at hb),fun t av hav=>?_⟩
  ·simp[hn];omega
  ·rw[jL]at hav;simp only[cb,if_true,hG,ek]at hav;obtain⟨d,hd,rfl⟩:=hav;have hlt:t<vs.length:=by rw[hlen];exact(ab.1 hd).1
   refine⟨vs[t],by simp[hD,hlt],?_⟩;exact(hr t d _ hd (a2 hlt)).mono (fun b hb=>⟨rfl,.inl hb⟩) (fun _ _=>rfl)
 ·rintro e a w' ⟨σ',hq,hR⟩
  have key:EO T σ' rs=some res→a.defers=[]∧ ∃v,(results fn a.tmps).run P w'= .ok v w'∧ ∃v',hZ v= .returned v'∧Below w.heap.size w w'∧Rd w' (FW w.heap.size F w') res v':=fun hq=>by
   refine⟨hR.defers,?_⟩;have hbel:Below w.heap.size w w':=⟨hR.below.os,hR.below.tape,hR.below.output,hR.below.size,fun k hk=>hR.below.block k hk (fun h=>h)⟩;unfold EO at hq;split at hq<;>simp at hq
   ·rename_i d hd;subst hq;obtain⟨vs',hrun,hl',hall⟩:=fr hT hR rs _ hd
    match vs',hl' with
    |[v],_ =>
     refine⟨v,?_,v,rfl,hbel,hall 0 d v rfl rfl⟩;rw[eV];simp only[az,c5,hrs,f7,hrun,am,bn];rfl
   ·rename_i hd;subst hq;obtain⟨vs',hrun,hl',hall⟩:=fr hT hR rs _ hd
    match vs',hl' with
    |[],_ =>
     refine⟨.tuple #[],?_,_,rfl,hbel,Rd.tu (vs:=[]) rfl (fun i d v h=>by simp at h)⟩;rw[eV];simp only[az,c5,hrs,f7,hrun,am,bn];rfl
   ·rename_i d e r hd;subst hq;obtain⟨vs',hrun,hl',hall⟩:=fr hT hR rs _ hd;refine⟨.tuple vs'.toArray,?_,_,rfl,hbel,Rd.tu hl' (fun i d v h1 h2=>hall i d v h1 h2)⟩;rw[eV];simp only[az,c5,hrs,f7,hrun,am,bn];rw[dif_neg (by simp at hl' ⊢; omega)]
  cases e with
  |normal=>exact key hq
  |ret=>exact key hq
  |exit _=>exact hq.elim
  |goto _=>exact hq.elim
  |panic _=>exact hq.elim
  |outgrown=>exact hq.elim
def LU(T:Ty)(lk:Nat→Option AV):Op→Option (List D×Int)
 | .indexAddr t x i=>match T.get t,dO T (ex T lk 0 x),lr (dO T (ex T lk 0 i))with
   |some ti,some (.sl s l),some (.int _ iv)=>match ap ti.kind 4,T.get ti.elem with
    |true,some te=>match ap s te.size with
     |true=>some (l,iv)
     |false=>none
    |_,_=>none
   |_,_,_=>none
 |_=>none
theorem aM.idx(hT:bB P T){e:D}(hd:o.dst=some d)(hn:hm d=none)(h:LU T lk o.op=some (l,iv))(h0:0≤iv)(he:l[iv.toNat]?=some e):aM P B F0 w0 d o lk hm (.rf e.flat):=by
 refine⟨hd,hn,fun a w O hI K Q hK=>?_⟩;obtain⟨dst,op,ty,pos,after,guard⟩:=o;simp only[]at hd h hI;cases op<;>simp only[LU]at h<;>try (cases h;done)
 rename_i t x i;split at h<;>try (cases h;done)
 rename_i ti s l' k iv' hti hx hi;split at h<;>try (cases h;done)
 rename_i te hk hte;split at h<;>simp at h;rename_i hs;obtain⟨rfl,rfl⟩:=h;have hs:=aa hs;obtain⟨info,dd,z,hok⟩:=hT t ti hti;obtain⟨info',dd',z',hok'⟩:=hT _ te hte;have hxv:=eO hT hI (fun t ht=>by subst ht;simp[an]) hx;have hiv:=(cZ hT hI (fun t ht=>by subst ht;simp[an]) hi).1;obtain⟨ad,cap,hv,hcap,hm',hall⟩:=hxv.CL;rcases hall with hnil|⟨b,off,cs,e',fz,rfl,hF,hb,hu,hr⟩
 ·subst hnil;simp at he
 have hlt:iv'.toNat<l'.length:=(ab.1 he).1;refine bh (v:=.pointer (some ⟨b,off+iv'.toNat*s,none⟩)) (w':=w) ?_<|hK _ w O (dG.refl hI.lt) ?_
 ·have h1:0≤iv'∧iv'<(l'.length:Int):=by omega
  have h2:off+iv'.toNat*te.size=off+iv'.toNat*s:=by rw[hs]
  simp[execOp,i5,hv,hiv,asIntOf,run_underlying (hok.kg hk).1,h1,cB,typeInfo,hok'.hinfo,hok'.size,c6,h2]
 ·refine⟨b,_,cs,e',fz,rfl,hF,hb,fun j y hy=>?_⟩;have hel:=hu e (b3 he);have hj:j<s:=by rw[←hel];exact(ab.1 hy).1
  have:=de j hu he hj;rw[hy]at this;obtain⟨g1,u,g2,g3⟩:=hr _ y this;exact⟨g1,u,by rw[←g2];congr 1;omega,g3⟩
def my(hm:Nat→Option AV):Option AV→Option (Nat×Nat×List D×Nat×Nat)
 |some (.al h)=>match hm h with
  |some (.ow e l)=>some (h,e,l,0,l.length)
  |some (.wn q e l lo m)=>some (h,e,l,lo,m)
  |_=>none
 |some (.sb h lo m)=>match hm h with
  |some x=>match x.row with
   |some (e,l)=>some (h,e,l,lo,m)
   |none=>none
  |none=>none
 |_=>none
def HT(T:Ty)(lk hm:Nat→Option AV):Op→Option (Nat×List D×Nat×Nat×Int)
 | .indexAddr t x i=>match T.get t,my hm (ex T lk 0 x),lr (dO T (ex T lk 0 i))with
   |some ti,some (h,e,l,lo,m),some (.int _ iv)=>match ap ti.kind 4,T.get ti.elem,ap e ti.elem with
    |true,some _,true=>some (h,l,lo,m,iv)
    |_,_,_=>none
   |_,_,_=>none
 |_=>none
theorem iC{a:Act}{w:World}(hI:Inv P B F0 w0 R lk hm a w O)(hr:fo P w0.X w O (FW B F0 w) hm (fun h=>a.tmps[h]?) k av v)(hw:my hm (some av)=some (h,e,l,lo,m)):
  ∃x,hm h=some x∧x.row=some (e,l)∧lo+m≤l.length∧ ∃cap',m≤cap'∧cap'≤maxLen∧((l.length=0∧x.tag=false∧cap'=0∧ ∃base,v= .slice base 0 cap') ∨
   ∃b o1 len cap cs o,((x.tag=true→w0.X b)∧o1+cap*P.cellsOf e≤cs.size)∧a.tmps[h]?=some (.slice (some ⟨b,o1,none⟩) len cap)∧v= .slice (some ⟨b,o,none⟩) m cap'∧((m=0∨o=lo*P.cellsOf e)∧(cap'=0∨o=lo*P.cellsOf e)∧o+cap'*P.cellsOf e≤o1+cap*P.cellsOf e∧cap'≤cap)∧O b=some h∧w.heap[b]?=some (.cells cs e (0,0))∧(∀y,y∈l→y.flat.length=P.cellsOf e) ∧
    ∀(i:Nat) (d:D),(flatAll l)[i]?=some d→d.ba=true∧ ∃u,cs[i]?=some u∧Rd w (aQ O (FW B F0 w)) d u):=by
 cases av<;>simp only[my]at hw<;>try (cases hw;done)
 case al t =>
  split at hw<;>simp at hw
  ·rename_i e' l' ht;obtain⟨rfl,rfl,rfl,rfl,rfl⟩:=hw;obtain⟨u,hu,hur⟩:=hI.hm t _ ht rfl;have hv:=hr _ ht rfl;simp only[hu]at hv;simp at hv;subst hv;refine⟨_,ht,rfl,by omega,?_⟩;rcases hur with⟨base,rfl,rfl⟩|⟨b,cap,cs,rfl,h2,h3,h4,h5,h6,h7,h8⟩
   ·exact⟨0,a4 _,cb _,.inl ⟨rfl,rfl,rfl,base,rfl⟩⟩
   ·exact⟨cap,h4,h5,.inr ⟨b,0,_,cap,cs,0,⟨fun h=>by simp[AV.tag]at h,by omega⟩,hu,rfl,⟨.inr (by rw[dn]),.inr (by rw[dn]),a4 _,a4 _⟩,h2,h3,h7,h8⟩⟩
  ·rename_i q' e' l' lo' m' ht;obtain⟨rfl,rfl,rfl,rfl,rfl⟩:=hw;obtain⟨u,hu,hur⟩:=hI.hm t _ ht rfl;have hv:=hr _ ht rfl;simp only[hu]at hv;simp at hv;subst hv;rcases hur with⟨hq,base,rfl,rfl,rfl,rfl⟩|⟨b,o,cap,cs,hq,rfl,h0,h2,h3,h4,h5,h6,h7,h8⟩
   ·exact⟨_,ht,rfl,by simp,0,cb _,cb _,.inl ⟨rfl,hq,rfl,base,rfl⟩⟩
   ·exact⟨_,ht,rfl,h4,cap,h5,h6,.inr ⟨b,_,_,cap,cs,o,⟨hq,h0.2.2⟩,hu,rfl,⟨h0.1,h0.2.1,a4 _,a4 _⟩,h2,h3,h7,h8⟩⟩
 case sb t lo' m' =>
  split at hw<;>try (cases hw;done)
  rename_i x ht;split at hw<;>simp at hw;rename_i e' l' hrow;obtain⟨rfl,rfl,rfl,rfl,rfl⟩:=hw;obtain⟨hlo,cap',hc1,hc2,hv⟩:=hr x _ _ ht hrow;refine⟨x,ht,hrow,hlo,cap',hc1,hc2,?_⟩;rcases hv with⟨hl0,hq,hc0,base,rfl⟩|⟨b,o1,len,cap,o,htm,rfl,h0⟩
  ·exact .inl ⟨hl0,hq,hc0,base,rfl⟩
  ·obtain⟨u,hu,hur⟩:=hI.hm t _ ht (dQ (by rw[hrow];rfl));simp only[hu]at htm;simp at htm;subst htm;rcases mG hur hrow with⟨hnil,hq,hcp⟩|⟨cs,hq,g2,g3,g7,g8⟩
   ·subst hnil;simp at hlo;obtain⟨rfl,rfl⟩:=hlo;have h9:=h0.2.2.2;exact .inl ⟨rfl,hq,by omega,_,rfl⟩
   ·exact .inr ⟨b,o1,len,cap,cs,o,hq,hu,rfl,h0,g2,g3,g7,g8⟩
theorem aM.gI(hT:bB P T)(hd:o.dst=some d)(hn:hm d=none)(hx:HT T lk hm o.op=some (h,l,lo,m,iv))(h0:0≤iv)(hlt:iv.toNat<m):aM P B F0 w0 d o lk hm (.el h (lo+iv.toNat) 0):=by
 refine⟨hd,hn,fun a w O hI K Q hK=>?_⟩;obtain⟨dst,op,ty,pos,after,guard⟩:=o;simp only[]at hd hx hI;cases op<;>simp only[HT]at hx<;>try (cases hx;done)
 rename_i t x i;split at hx<;>try (cases hx;done)
 rename_i ti h' e l' lo' m' k iv' hti hwin hi;split at hx<;>simp at hx;rename_i te hk hte hee;obtain⟨rfl,rfl,rfl,rfl,rfl⟩:=hx;have hee:=aa hee;obtain⟨info,dd,z,hok⟩:=hT t ti hti;obtain⟨info',dd',z',hok'⟩:=hT _ te hte;have hiv:=(cZ hT hI (fun t ht=>by subst ht;simp[an]) hi).1;cases hxe:ex T lk 0 x with
 |none=>rw[hxe]at hwin;simp[my]at hwin
 |some av =>
  rw[hxe]at hwin;have hxv:=(aZ hI (fun t ht=>by subst ht;simp[an]) hxe 0).1;obtain⟨y,hy,hrow,hlm,cap',hc1,hc2,hv⟩:=iC hI hxv hwin;rcases hv with⟨hl0,_,_,base,hv⟩|⟨b,o1,len,cap,cs,o,_,htm,hv,⟨h0',_⟩,hOb,hb,hu,hcells⟩
  ·omega
  have h0':o=lo'*P.cellsOf e:=by omega
  subst h0';refine bh (v:=.pointer (some ⟨b,lo'*P.cellsOf e+iv'.toNat*te.size,none⟩)) (w':=w) ?_<|hK _ w O (dG.refl hI.lt) ?_
  ·have h1:0≤iv'∧iv'<(m':Int):=by omega
   simp[execOp,i5,hv,hiv,asIntOf,run_underlying (hok.kg hk).1,h1,cB,typeInfo,hok'.hinfo,hok'.size,c6]
  ·intro x' e'' l'' hx' hrow';rw[hy]at hx';simp at hx';subst hx';rw[hrow]at hrow';simp at hrow';obtain⟨rfl,rfl⟩:=hrow';refine⟨by omega,b,o1,len,cap,htm,?_⟩;rw[hee,hok'.cellsOf,cz,hH]
def PI(T:Ty)(lk hm:Nat→Option AV):Op→Option (TI×List D×Nat×Nat)
 | .load t x=>match T.get t,ex T lk 0 x with
   |some ti,some (.el h i off)=>match hm h with
    |some x=>match x.row with
     |some (_,l)=>some (ti,l,i,off)
     |none=>none
    |none=>none
   |_,_=>none
 |_=>none
theorem DW{a:Act}{w:World}(hI:Inv P B F0 w0 R lk hm a w O){i:Nat}{x:AV}(hh:hm h=some x)(hrow:x.row=some (e,l))(hr:fo P w0.X w O (FW B F0 w) hm (fun h=>a.tmps[h]?) k (.el h i off) v)(hy:l[i]?=some y):
  ∃b cs o1 len cap,v= .pointer (some ⟨b,i*P.cellsOf e+off,none⟩)∧a.tmps[h]?=some (.slice (some ⟨b,o1,none⟩) len cap)∧O b=some h∧w.heap[b]?=some (.cells cs e (0,0)) ∧
   (∀x,x∈l→x.flat.length=P.cellsOf e)∧(∀(j:Nat) (d:D),(flatAll l)[j]?=some d→d.ba=true∧ ∃u,cs[j]?=some u∧Rd w (aQ O (FW B F0 w)) d u) ∧
   ∀(j:Nat) (d:D),(y.flat.drop off)[j]?=some d→d.ba=true∧ ∃u,cs[i*P.cellsOf e+off+j]?=some u∧Rd w (aQ O (FW B F0 w)) d u:=by
 obtain⟨h0,b,o1,len,cap,h1,rfl⟩:=hr x e l hh hrow;obtain⟨u,hu,hur⟩:=hI.hm h _ hh (dQ (by rw[hrow];rfl));simp only[hu]at h1;simp at h1;subst h1;rcases mG hur hrow with⟨hnil,_⟩|⟨cs,_,g2,g3,g7,g8⟩
 ·subst hnil;simp at hy
 refine⟨b,cs,o1,len,cap,rfl,hu,g2,g3,g7,g8,fun j d hj=>?_⟩;rw[bv]at hj;have hlt:off+j<P.cellsOf e:=by rw[←g7 y (b3 hy)];exact(ab.1 hj).1
 have:=de (off+j) g7 hy hlt;rw[hj]at this;obtain⟨f1,u',f2,f3⟩:=g8 _ d this;exact⟨f1,u',by rw[←f2];congr 1;omega,f3⟩
theorem aM.dE(hT:bB P T){i:Nat}(hd:o.dst=some d)(hn:hm d=none)(hx:PI T lk hm o.op=some (ti,l,i,off))(hy:l[i]?=some y)(hav:jA ti (y.flat.drop off)=some av):aM P B F0 w0 d o lk hm av:=by
 refine⟨hd,hn,fun a w O hI K Q hK=>?_⟩;obtain⟨dst,op,ty,pos,after,guard⟩:=o;simp only[]at hd hx hI;cases op<;>simp only[PI]at hx<;>try (cases hx;done)
 rename_i t x;split at hx<;>try (cases hx;done)
 rename_i ti' h i' off' hti hxe;split at hx<;>try (cases hx;done)
 rename_i xx hh;split at hx<;>simp at hx;rename_i e l' hrow;obtain⟨rfl,rfl,rfl,rfl⟩:=hx;obtain⟨info,dd,z,hok⟩:=hT t ti' hti;have hxv:=(aZ hI (fun t ht=>by subst ht;simp[an]) hxe 0).1;obtain⟨b,cs,o1,len,cap,hv,_,_,hb,_,_,hcells⟩:=DW hI hh hrow hxv hy;obtain⟨x',v,rfl,hrun,hrd⟩:=lD hok hb hcells hav;exact bh (v:=v) (w':=w) (by simp[execOp,i6,ea,hv,hrun])<|hK _ w O (dG.refl hI.lt) hrd
def K9(T:Ty)(lk:Nat→Option AV):Op→Option (ByteArray×Int)
 | .index t x i=>match T.get t,lr (dO T (ex T lk 0 x)),lr (dO T (ex T lk 0 i))with
   |some ti,some (.string s),some (.int _ iv)=>match ap ti.kind 3 with
    |true=>some (s,iv)
    |false=>none
   |_,_,_=>none
 |_=>none
theorem aM.zT(hT:bB P T){s:ByteArray}(hd:o.dst=some d)(hn:hm d=none)(hx:K9 T lk o.op=some (s,iv))(h0:0≤iv)(hlt:iv.toNat<s.size):aM P B F0 w0 d o lk hm (.d (.v (.int .u8 ((s.data.toList.getD iv.toNat 0).toNat:Int)))):=by
 refine⟨hd,hn,fun a w O hI K Q hK=>?_⟩;obtain⟨dst,op,ty,pos,after,guard⟩:=o;simp only[]at hd hx hI;cases op<;>simp only[K9]at hx<;>try (cases hx;done)
 rename_i t x i;split at hx<;>try (cases hx;done)
 rename_i ti s' k iv' hti hs hi;split at hx<;>simp at hx;rename_i hk;obtain⟨rfl,rfl⟩:=hx;obtain⟨info,dd,z,hok⟩:=hT t ti hti;have hsv:=(cZ hT hI (fun t ht=>by subst ht;simp[an]) hs).1;have hiv:=(cZ hT hI (fun t ht=>by subst ht;simp[an]) hi).1
 have hg:s'[iv'.toNat]?=some (s'.data.toList.getD iv'.toNat 0):=by
  have:s'[iv'.toNat]?=some s'[iv'.toNat]:=by simp[hlt]
  rw[this];have h2:iv'.toNat<s'.data.size:=hlt;simp only[List.getD,cp,gc h2,eX];rfl
 refine bh (v:=.int .u8 ((s'.data.toList.getD iv'.toNat 0).toNat:Int)) (w':=w) ?_<|hK _ w O (dG.refl hI.lt) (.v rfl);simp only[execOp,Instr.index,hsv,hiv,asIntOf,az,run_underlying (hok.MA hk),am,bn,h0,if_true,hg]
def FM(T:Ty)(lk:Nat→Option AV):Option Operand→Option (Option Int)
 |none=>some none
 |some x=>match lr (dO T (ex T lk 0 x))with
  |some (.int _ iv)=>some (some iv)
  |_=>none
def Hy(T:Ty)(lk:Nat→Option AV):Op→Option (D×Option Int×Option Int)
 | .slice t x lo hi none=>match T.get t,dO T (ex T lk 0 x),FM T lk lo,FM T lk hi with
   |some ti,some (.sl s l),some l',some h'=>match ap ti.kind 4,T.get ti.elem with
    |true,some te=>match ap s te.size with
     |true=>some (.sl s l,l',h')
     |false=>none
    |_,_=>none
   |some ti,some (.v (.string s)),some l',some h'=>match ap ti.kind 3 with
    |true=>some (.v (.string s),l',h')
    |false=>none
   |_,_,_,_=>none
 |_=>none
theorem Hc(hT:bB P T){a:Act}{w:World}(hI:Inv P B F0 w0 R lk hm a w O)(hx: ∀t,x= .tmp t→R t)(h:FM T lk (some x)=some (some iv))(m:Nat)(h0:0≤iv)(h1:iv.toNat≤m)(code:BoundsCode):
  (dz (a.eval x) m code).run P w= .ok iv.toNat w:=by
 simp only[FM]at h;split at h<;>simp at h;rename_i k iv' hs;subst h;have:=(cZ hT hI hx hs).1;have h2:0≤iv'∧iv'≤(m:Int):=by omega
 simp[dz,this,asIntOf,h2]
def gA:Option Int→Nat
 |none=>0
 |some iv=>iv.toNat
def dm(n:Nat):Option Int→Nat
 |none=>n
 |some iv=>iv.toNat
def okB:Option Int→Prop
 |none=>True
 |some iv=>0≤iv
theorem yG(hT:bB P T){a:Act}{w:World}(hI:Inv P B F0 w0 R lk hm a w O){lo hi:Option Operand}{l' h':Option Int}(hlo: ∀x,lo=some x→ ∀t,x= .tmp t→R t)(hhi: ∀x,hi=some x→ ∀t,x= .tmp t→R t)
  (h1:FM T lk lo=some l') (h2:FM T lk hi=some h') (isS:Bool) (len cap:Nat) (g1:okB l') (g2:okB h') (g3:gA l'≤dm len h') (g4:dm len h'≤len) (hcap:len≤cap):
  (hX isS len cap (lo.map a.eval) (hi.map a.eval) none).run P w= .ok (gA l',dm len h',cap) w:=by
 have hh:((match hi.map a.eval,(none:Option Value)with
  |some v,some _=>dz v cap .slice3B
  |some v,none=>dz v cap (if isS then .sliceAcap else .sliceAlen)
  |none,none=>pure len
  |none,some _=>stuck "Slice: max without high":Sem Nat)).run P w= .ok (dm len h') w:=by
  cases hi with
  |none=>simp[FM]at h2;subst h2;rfl
  |some x =>
   cases h' with
   |none=>simp only[FM]at h2;split at h2<;>simp at h2
   |some iv=>exact Hc hT hI (hhi x rfl) h2 cap g2 (by simp only[dm]at g4 ⊢; omega) _
 have hl:((match lo.map a.eval with
  |some v=>dz v (dm len h') (if (none:Option Value).isSome then .slice3C else .sliceB)
  |none=>pure 0:Sem Nat)).run P w= .ok (gA l') w:=by
  cases lo with
  |none=>simp[FM]at h1;subst h1;rfl
  |some x =>
   cases l' with
   |none=>simp only[FM]at h1;split at h1<;>simp at h1
   |some iv=>exact Hc hT hI (hlo x rfl) h1 _ g1 (by simpa[gA]using g3) _
 unfold hX;cases hi with
 |none =>
  simp[FM]at h2;subst h2;simp only[dm]at hl ⊢;cases lo with
  |none =>
   simp[FM]at h1;subst h1;simp[gA]
  |some x =>
   simp only[bz,hU,eb,if_false]at hl;simp[hl]
 |some y =>
  simp only[bz]at hh;cases lo with
  |none =>
   simp[FM]at h1;subst h1;simp[gA,hh]
  |some x =>
   simp only[bz,hU,eb,if_false]at hl;simp[hl,hh]
theorem aM.CK(hT:bB P T){s:Nat}{lo hi:Option Int}(hd:o.dst=some d)(hn:hm d=none)(hx:Hy T lk o.op=some (.sl s l,lo,hi))(g1:okB lo)(g2:okB hi)(g3:gA lo≤dm l.length hi)(g4:dm l.length hi≤l.length):
  aM P B F0 w0 d o lk hm (.d (.sl s ((l.take (dm l.length hi)).drop (gA lo)))):=by
 refine⟨hd,hn,fun a w O hI K Q hK=>?_⟩;obtain⟨dst,op,ty,pos,after,guard⟩:=o;simp only[]at hd hx hI;cases op<;>simp only[Hy]at hx<;>try (cases hx;done)
 rename_i t x lo' hi' mx;cases mx<;>simp only[]at hx<;>try (cases hx;done)
 split at hx<;>try (cases hx;done)
 ·rename_i ti s' l' lo1 hi1 hti hs hl hh;split at hx<;>try (cases hx;done)
  rename_i te hk hte;split at hx<;>simp at hx;rename_i hse;obtain⟨⟨rfl,rfl⟩,rfl,rfl⟩:=hx;have hse:=aa hse;obtain⟨info,dd,z,hok⟩:=hT t ti hti;obtain⟨info',dd',z',hok'⟩:=hT _ te hte;have hr:=eO hT hI (fun t ht=>by subst ht;simp[an]) hs;obtain⟨ad,cap,hv,hcap,hmax,hall⟩:=hr.CL;have hb:=yG hT hI (fun y hy t ht=>by subst hy;subst ht;simp[an]) (fun y hy t ht=>by subst hy;subst ht;simp[an]) hl hh true l'.length cap g1 g2 g3 g4 hcap;have hlen:((l'.take (dm l'.length hi1)).drop (gA lo1)).length=dm l'.length hi1-gA lo1:=by simp;omega
  refine bh (v:=.slice (if cap=gA lo1 then ad else ad.map (·.add (gA lo1*te.size))) (dm l'.length hi1-gA lo1) (cap-gA lo1)) (w':=w) ?_<|hK _ w O (dG.refl hI.lt) ?_
  ·simp only[execOp,i4,hv,az,run_underlying (hok.kg hk).1,am,ja,hb,cB,typeInfo,run_program,hok'.hinfo,bn,hok'.size,hY]
  ·rw[←hlen];rcases hall with hnil|⟨b,off,cs,e',fz,rfl,hF,hb',hu,hcc⟩
   ·subst hnil;simp only[gy,gB];exact .nil (by omega)
   ·by_cases hz:cap=gA lo1
    ·have:(l'.take (dm l'.length hi1)).drop (gA lo1)=[]:=b2 (by omega);rw[this];exact .nil (by omega)
    ·rw[if_neg hz];have hadd:(some (⟨b,off,none⟩:Addr)).map (·.add (gA lo1*te.size))=some ⟨b,off+gA lo1*te.size,none⟩:=by simp[c6]
     rw[hadd];refine Rd.nV hF hb' (by rw[hlen];omega) (by omega) (fun y hy=>hu y (ch (ci hy))) fun j y hj=>?_;have hus: ∀y,y∈(l'.take (dm l'.length hi1)).drop (gA lo1)→y.flat.length=s':=fun y hy=>hu y (ch (ci hy));have hjl:j<(flatAll ((l'.take (dm l'.length hi1)).drop (gA lo1))).length:=(ab.1 hj).1;rw[aR hus,hlen]at hjl
     have hs0:0<s':=by
      rcases cg s' with h|h
      ·subst h;simp at hjl
      ·exact h
     have hq:j/s'<dm l'.length hi1-gA lo1:=eA (by rw[d9];exact hjl);have hmod:j%s'<s':=go _ hs0;have hjd:j/s'*s'+j%s'=j:=by rw[d9];exact f9 _ _
     have hel: ∃el,((l'.take (dm l'.length hi1)).drop (gA lo1))[j/s']?=some el:=⟨_,a2 (by omega)⟩;obtain⟨el,hel⟩:=hel;have e1:=de (j%s') hus hel hmod;rw[hjd]at e1;rw[e1]at hj
     have hel':l'[gA lo1+j/s']?=some el:=by
      rw[bv,bi]at hel;split at hel
      ·exact hel
      ·cases hel
     have e2:=de (j%s') hu hel' hmod;rw[hj]at e2;obtain⟨f1,u,f2,f3⟩:=hcc _ y e2;refine⟨f1,u,?_,f3⟩;rw[←f2,←hse]
     congr 1
     have:(gA lo1+j/s')*s'=gA lo1*s'+j/s'*s':=cz _ _ _;omega
 ·rename_i hx';split at hx<;>simp at hx
def yK(T:Ty)(lk:Nat→Option AV):List Operand→List Nat→Option (List D)
 |[],_=>some []
 |x::r,t::ts=>match dO T (ex T lk t x),yK T lk r ts with
  |some d,some ds=>some (d::ds)
  |_,_=>none
 |_::_,[]=>none
def vk(T:Ty)(lk hm:Nat→Option AV):List Operand→List Nat→Option (List D)
 |[],_=>some []
 |x::r,t::ts=>match KS T hm (ex T lk t x),vk T lk hm r ts with
  |some d,some ds=>some (d::ds)
  |_,_=>none
 |_::_,[]=>none
def vj(T:Ty)(lk:Nat→Option AV):Op→Option (FuncId×List D)
 | .call c=>match c.callee with
   | .value (.func f)=>match yK T lk c.args.toList c.argTypes.toList with
     |some ds=>some (f,ds)
     |none=>none
   |_=>none
 |_=>none
def yE(T:Ty)(lk hm:Nat→Option AV):Op→Option (FuncId×List D)
 | .call c=>match c.callee with
   | .value (.func f)=>match vk T lk hm c.args.toList c.argTypes.toList with
     |some ds=>some (f,ds)
     |none=>none
   |_=>none
 |_=>none
def gi:D→Bool
 | .v _=>true
 | .sl _ _=>false
 | .ag _=>false
 | .tu _=>false
 | .pr _=>false
 | .fn _ _ _=>false
def iV:D→Bool
 | .v _=>true
 | .tu l=>l.all gi
 | .sl _ _=>false
 | .ag _=>false
 | .pr _=>false
 | .fn _ _ _=>false
theorem Rd.scalar{w:World}{x:D}(h:Rd w F x v)(hs:iV x=true):Rd w' F' x v:=by
 have key: ∀{y:D} {u:Value},Rd w F y u→gi y=true→Rd w' F' y u:=fun {y u} hy hp=>by
  cases hy with
  |v h=>exact .v h
  |nil=>simp[gi]at hp
  |sl=>simp[gi]at hp
  |ag=>simp[gi]at hp
  |tu=>simp[gi]at hp
  |pr=>simp[gi]at hp
  |fn=>simp[gi]at hp
 cases h with
 |v h=>exact .v h
 |nil=>simp[iV]at hs
 |sl=>simp[iV]at hs
 |ag=>simp[iV]at hs
 |pr=>simp[iV]at hs
 |fn=>simp[iV]at hs
 |tu hl hr =>
  simp only[iV,c4]at hs;exact .tu hl fun i d u h1 h2=>key (hr i d u h1 h2)<|hs d<|b3 h1
theorem qa(hT:bB P T){R:Nat→Prop}{a:Act}{w:World}{O:Nat→Option Nat}(hI:Inv P B F0 w0 R lk hm a w O): ∀(l:List Operand) (ts:List Nat) (ds:List D),(∀x,x∈l→ ∀t,x= .tmp t→R t)→yK T lk l ts=some ds →
  (l.map a.eval).length=ds.length∧ ∀(i:Nat) (d:D) (v:Value),ds[i]?=some d→(l.map a.eval)[i]?=some v→Rd w (aQ O (FW B F0 w)) d v
 |[],ts,ds,_,h=>by simp[yK]at h;subst h;exact⟨rfl,fun i d v h=>by simp at h⟩
 |x::r,[],ds,_,h=>by simp[yK]at h
 |x::r,t::ts,ds,hx,h=>by
  simp only[yK]at h;split at h<;>simp at h;rename_i y ys h1 h2;subst h;have ih:=qa hT hI r ts ys (fun z hz=>hx z (by simp[hz])) h2;refine⟨by simp;simpa using ih.1,fun i d v h3 h4=>?_⟩;cases i with
  |zero=>simp at h3 h4;subst h3;subst h4;exact eO hT hI (hx x (by simp)) h1
  |succ i=>exact ih.2 i d v (by simpa using h3) (by simpa using h4)
theorem mW(hT:bB P T){R:Nat→Prop}{a:Act}{w:World}{O:Nat→Option Nat}(hI:Inv P B F0 w0 R lk hm a w O){G:Nat→Prop}(hG1: ∀c,aQ O (FW B F0 w) c→G c)(hG2: ∀c t y,O c=some t→hm t=some y→y.home=true→G c): ∀(l:List Operand) (ts:List Nat) (ds:List D),(∀x,x∈l→ ∀t,x= .tmp t→R t)→vk T lk hm l ts=some ds →
  (l.map a.eval).length=ds.length∧ ∀(i:Nat) (d:D) (v:Value),ds[i]?=some d→(l.map a.eval)[i]?=some v→Rd w G d v
 |[],ts,ds,_,h=>by simp[vk]at h;subst h;exact⟨rfl,fun i d v h=>by simp at h⟩
 |x::r,[],ds,_,h=>by simp[vk]at h
 |x::r,t::ts,ds,hx,h=>by
  simp only[vk]at h;split at h<;>simp at h;rename_i y ys h1 h2;subst h;have ih:=mW hT hI hG1 hG2 r ts ys (fun z hz=>hx z (by simp[hz])) h2;refine⟨by simp;simpa using ih.1,fun i d v h3 h4=>?_⟩;cases i with
  |zero=>simp at h3 h4;subst h3;subst h4;exact Ma hT hI hG1 hG2 (hx x (by simp)) h1
  |succ i=>exact ih.2 i d v (by simpa using h3) (by simpa using h4)
theorem mT{a:Act}{w:World}{args:Array Operand}{ts:Array TypeId}{ty:TypeId}{pos:String}{after:Array Edge}{guard:Option (Nat×Bool)}{dst:Option Tmp}(hok:uL P f):
  (execOp a.eval {dst:=dst,op:=.call {callee:=.value (.func f),args:=args,argTypes:=ts},type:=ty,pos:=pos,after:=after,guard:=guard}).run P w= .ok (.enter f (args.map a.eval)) w:=by
 obtain⟨fn,h1,h2,h3⟩:=hok;simp only[execOp,resolve,Deferred.ofValue,Act.eval,az,bn,am,invoke,callFunc,run_program,h1,h2,h3,eb,if_false,Array.empty_append,Array.append_empty]
theorem aM.call(hT:bB P T)(hd:o.dst=some d)(hn:hm d=none)(hx:vj T lk o.op=some (f,ds))(hP:Pure P f ds res):aM P B F0 w0 d o lk hm (.d res):=by
 refine⟨hd,hn,fun a w O hI K Q hK=>?_⟩;obtain⟨dst,op,ty,pos,after,guard⟩:=o;simp only[]at hd hx hI;cases op<;>simp only[vj]at hx<;>try (cases hx;done)
 rename_i c;obtain⟨callee,args,ats⟩:=c;simp only[]at hx;split at hx<;>try (cases hx;done)
 rename_i g;split at hx<;>simp at hx;rename_i ds' hds;obtain⟨rfl,rfl⟩:=hx;have hr:=qa hT hI args.toList ats.toList ds' (fun x hx t ht=>by subst ht;simp[an,cn];exact cS.1 hx) hds;unfold f8;rw[mT hP.1];show Calls P g (args.map a.eval) w _;have hc:=hP.2 w (aQ O (FW B F0 w)) (args.toList.map a.eval) (fun b hb=>(FW.step hI.f0 hI.base (a4 _) b hb.2).1) hr.1 hr.2;have he:(args.toList.map a.eval).toArray=args.map a.eval:=by apply cA;simp
 rw[he]at hc;refine hc.mono fun e w' ⟨v,he,hb,hv⟩=>?_;subst he;refine hK v w' O ⟨hb,fun _ _=>rfl,fun b t h=>.inl (hI.lt b t h)⟩<|hv.mono (fun b hb'=>?_) fun _ _=>rfl;rcases hb' with h|⟨h1,h2⟩
 ·exact⟨h.1,(FW.step hI.f0 hI.base hb.size b h.2).2⟩
 ·refine⟨?_,.inr ⟨cx hI.base h1,h2⟩⟩;cases ho:O b with
  |none=>rfl
  |some t=>have:=hI.lt b t ho;omega
theorem aM.calls(hT:bB P T)(hd:o.dst=some d)(hn:hm d=none)(hx:yE T lk hm o.op=some (f,ds))(hs:iV res=true)(hP:Pure P f ds res):aM P B F0 w0 d o lk hm (.d res):=by
 refine⟨hd,hn,fun a w O hI K Q hK=>?_⟩;obtain⟨dst,op,ty,pos,after,guard⟩:=o;simp only[]at hd hx hI;cases op<;>simp only[yE]at hx<;>try (cases hx;done)
 rename_i c;obtain⟨callee,args,ats⟩:=c;simp only[]at hx;split at hx<;>try (cases hx;done)
 rename_i g;split at hx<;>simp at hx;rename_i ds' hds;obtain⟨rfl,rfl⟩:=hx;have hr:=mW hT hI (G:=FW B F0 w) (fun _ hc=>hc.2) (fun c t _ hc _ _=>(hI.orange c t hc).fw hI.f0) args.toList ats.toList ds' (fun x hx t ht=>by subst ht;simp[an,cn];exact cS.1 hx) hds;unfold f8;rw[mT hP.1];show Calls P g (args.map a.eval) w _;have hc:=hP.2 w (FW B F0 w) (args.toList.map a.eval) (fun b hb=>(FW.step hI.f0 hI.base (a4 _) b hb).1) hr.1 hr.2;have he:(args.toList.map a.eval).toArray=args.map a.eval:=by apply cA;simp
 rw[he]at hc;refine hc.mono fun e w' ⟨v,he,hb,hv⟩=>?_;subst he;exact hK v w' O ⟨hb,fun _ _=>rfl,fun b t h=>.inl (hI.lt b t h)⟩<|hv.scalar hs
def IT:Operand→Operand→Bool
 | .tmp a,.tmp b=>ap a b
 | .const (.int _ (.ofNat a)),.const (.int _ (.ofNat b))=>ap a b
 |_,_=>false
theorem EJ{a:Act}{y:Operand}(h:IT x y=true){k:IntKind}{u:Int}(hx:a.eval x= .int k u): ∃k',a.eval y= .int k' u:=by
 unfold IT at h;split at h<;>try (cases h;done)
 ·have:=aa h;subst this;exact⟨k,hx⟩
 ·rename_i k1 n1 k2 n2;have:=aa h;subst this;have hx:Value.int k1 (Int.ofNat n1)= .int k u:=hx;simp at hx;obtain⟨rfl,rfl⟩:=hx;exact⟨k2,rfl⟩
def Oi(T:Ty)(lk:Nat→Option AV):Op→Option (Nat×TI×Int)
 | .makeSlice t x y=>match T.get t,lr (dO T (ex T lk 0 x))with
   |some ti,some (.int _ a)=>match ap ti.kind 4,IT x y,T.get ti.elem with
    |true,true,some te=>some (ti.elem,te,a)
    |_,_,_=>none
   |_,_=>none
 |_=>none
def wG(i:TI):D:=match i.agg with
 |true=>.ag i.zero
 |false=>match i.zero with
  |z::_=>z
  |[]=>.ag []
def nc(i:TI):Bool:=match i.agg with
 |true=>Nat.blt 0 i.size
 |false=>match i.zero with
  |[z]=>z.ba
  |_=>false
theorem zG{z:Value}(hi:kJ P t i info dd z)(h:nc i=true):(wG i).flat=i.zero∧i.zero.length=i.size∧0<i.size:=by
 have hz:=(rQ (w:=default) (F:=fun _=>True) hi.vr).1;have hz2:=hi.zsize;have hl:i.zero.length=i.size:=by simp at hz;omega
 unfold nc at h;unfold wG;cases hagg:i.agg with
 |true =>
  simp only[hagg]at h ⊢;exact⟨rfl,hl,by have:=ax h;omega⟩
 |false =>
  simp only[hagg]at h ⊢;split at h
  ·rename_i z' hz';simp only[hz'];exact⟨D.mS h,by rw[←hl,hz'],by rw[←hl,hz'];simp⟩
  ·cases h
theorem tc(m:Nat)(x:D)(k j:Nat)(hx:x.flat.length=k)(hj:j<m*k):(flatAll (eu m x))[j]?=x.flat[j%k]?:=by
 have hk:0<k:=by
  rcases cg k with h|h
  ·subst h;simp at hj
  ·exact h
 have hmod:=go j hk;have hq:j/k<m:=eA (by rw[d9];exact hj);have:=de (s:=k) (l:=eu m x) (i:=j/k) (e:=x) (j%k) (fun y hy=>by rw[(eL.1 hy).2];exact hx) (by simp[hq]) hmod;rw[show j/k*k+j%k=j by rw[d9];exact f9 _ _]at this;exact this
theorem aM.make(hT:bB P T){m:Int}(hd:o.dst=some d)(hn:hm d=none)(hx:Oi T lk o.op=some (e,te,m))(hz:nc te=true)(h0:0≤m)(hb:(te.bytes:Int)*m≤281474976710656)(hm63:m≤9223372036854775807):
  aM P B F0 w0 d o lk hm (.ow e (eu m.toNat (wG te))):=by
 refine⟨hd,hn,fun a w O hI K Q hK=>?_⟩;obtain⟨dst,op,ty,pos,after,guard⟩:=o;simp only[]at hd hx hI;cases op<;>simp only[Oi]at hx<;>try (cases hx;done)
 rename_i t x y;split at hx<;>try (cases hx;done)
 rename_i ti k1 u hti hxu;split at hx<;>simp at hx;rename_i te' hk huv hte;obtain⟨rfl,rfl,rfl⟩:=hx;obtain⟨info,dd,z,hok⟩:=hT t ti hti;obtain⟨info',dd',z',hok'⟩:=hT _ te' hte;have hu:=(cZ hT hI (fun t ht=>by subst ht;simp[an]) hxu).1;obtain⟨k2,hv⟩:=EJ huv hu;have hrun:=run_make (P:=P) w t ti.elem info' z' (hok.kg hk).1 hok'.hinfo hok'.zero k1 k2 u u h0 (Int.le_refl _) (by rw[hok'.bytes];exact hb) hm63;obtain⟨hz1,hz2,hz3⟩:=zG hok' hz;refine bh (v:=.slice (some ⟨w.heap.size,0,none⟩) u.toNat u.toNat) (w':=w.alloc (.cells (madeCells z'.cells (u.toNat*info'.size)) ti.elem)) (by simp[execOp,hu,hv,hrun])<|hK _ _ _ (dG.alloc hI.lt d _) ?_;refine .inr ⟨w.heap.size,u.toNat,_,by simp,by simp[kQ],heap_alloc_new w _,by simp,by simp[maxLen];omega,by rw[size_madeCells,hok'.cellsOf,hok'.size],fun y hy=>?_,fun j y hj=>?_⟩
 ·rw[(eL.1 hy).2,hz1,hz2,hok'.cellsOf]
 ·have hlen:j<u.toNat*te'.size:=by have:=(ab.1 hj).1;rw[aR (s:=te'.size) (fun y hy=>by rw[(eL.1 hy).2,hz1,hz2])]at this;simpa using this
  rw[tc _ _ te'.size j (by rw[hz1,hz2]) hlen,hz1]at hj;obtain⟨g1,c,g2,g3⟩:=(rQ (w:=w.alloc (.cells (madeCells z'.cells (u.toNat*info'.size)) ti.elem)) (F:=aQ (kQ O w.heap.size d) (FW B F0 (w.alloc (.cells (madeCells z'.cells (u.toNat*info'.size)) ti.elem)))) hok'.vr).get hj;refine⟨g1,c,?_,g3⟩;have hlt:j<u.toNat*info'.size:=by rw[hok'.size];exact hlen
  have hzs:z'.cells.size=te'.size:=hok'.zsize;have hml:j%te'.size<z'.cells.size:=by rw[hzs];exact go _ hz3
  simp only[cp]at g2;simp only[madeCells,Array.getElem?_map,Array.getElem?_range,hlt,if_true,bz,hzs];rw[getElem!_pos z'.cells (j%te'.size) hml];rw[gc hml]at g2;exact g2
theorem rJ{w:World}{e:TypeId}(hb:w.heap[b]?=some (.cells cs e fz))
  (hr: ∀(i:Nat) (d:D),ds[i]?=some d→d.ba=true∧ ∃u,cs[off+i]?=some u∧Rd w F d u):
  ∃news:List Value,news.length=ds.length∧(∀(j:Nat) (u:Value),news[j]?=some u→w.cell? ((⟨b,off,none⟩:Addr).add j)=some u)∧nR w F ds news:=by
 refine⟨(eq ds.length).map fun j=>(cs[off+j]?).getD undef,by simp,fun j u hj=>?_,by simp,fun j d u hj hu'=>?_⟩
 ·have hjl:j<ds.length:=by have:=(ab.1 hj).1;simpa using this
  obtain⟨_,u',hu,_⟩:=hr j _ (a2 hjl);simp[hjl,hu]at hj;subst hj;rw[c6];simp[hE,hb,hu]
 ·obtain⟨g1,u1,g2,g3⟩:=hr j d hj;have hjl:=(ab.1 hj).1;simp[hjl,g2]at hu';subst hu';exact⟨g1,g3⟩
def y6(T:Ty)(hm:Nat→Option AV):Option AV→Option (Nat×List D)
 |some (.d (.sl s l))=>some (s,l)
 |some (.e0 e)=>match T.get e with
  |some i=>some (i.size,[])
  |none=>none
 |some (.al h)=>match my hm (some (.al h))with
  |some (_,e,l,lo,m)=>match T.get e with
   |some i=>some (i.size,(l.drop lo).take m)
   |none=>none
  |none=>none
 |some (.sb h i o)=>match my hm (some (.sb h i o))with
  |some (_,e,l,lo,m)=>match T.get e with
   |some i=>some (i.size,(l.drop lo).take m)
   |none=>none
  |none=>none
 |_=>none
theorem FY(hT:bB P T){a:Act}{w:World}(hI:Inv P B F0 w0 R lk hm a w O){s:Nat}(hr:fo P w0.X w O (FW B F0 w) hm (fun h=>a.tmps[h]?) k av v)
  (hs:(match my hm (some av)with
   |some (_,e,l,lo,m)=>match T.get e with
    |some i=>some (i.size,(l.drop lo).take m)
    |none=>none
   |none=>none)=some (s,l)):
  ∃ad cap,v= .slice ad l.length cap∧l.length≤maxLen∧(l=[]∨ ∃(b:Addr) (news:List Value),ad=some b∧news.length=(flatAll l).length∧(∀x,x∈l→x.flat.length=s) ∧
   (∀(j:Nat) (u:Value),news[j]?=some u→w.cell? (b.add j)=some u)∧nR w (aQ O (FW B F0 w)) (flatAll l) news):=by
 split at hs<;>try (cases hs;done)
 rename_i h e l' lo m hw;split at hs<;>simp at hs;rename_i i hi;obtain⟨rfl,rfl⟩:=hs;obtain⟨info,dd,z,hok⟩:=hT e i hi;obtain⟨x,hx,hrow,hlo,cap',hc1,hc2,hv⟩:=iC hI hr hw;have hlen:((l'.drop lo).take m).length=m:=by simp;omega
 rw[hlen];rcases hv with⟨hl0,_,_,base,rfl⟩|⟨b,o1,len,cap,cs,o,_,htm,rfl,⟨h0,_⟩,hOb,hb,hu,hcells⟩
 ·have hm0:m=0:=by omega
  subst hm0;exact⟨base,cap',rfl,by omega,.inl (by simp)⟩
 ·rcases cg m with hm0|hm0
  ·subst hm0;exact⟨_,cap',rfl,by omega,.inl (by simp)⟩
  have h0:o=lo*P.cellsOf e:=by omega
  subst h0;rw[hok.cellsOf]at hu;obtain⟨news,g1,g2,g3⟩:=rJ (off:=lo*i.size) (ds:=flatAll ((l'.drop lo).take m)) hb (fun j d hd=>hcells _ d (kn hu lo m j hd));exact⟨_,cap',rfl,by omega,.inr ⟨_,news,rfl,g1,fun y hy=>hu y (ci (ch hy)),by rw[hok.cellsOf];exact g2,g3⟩⟩
theorem mC(hT:bB P T){a:Act}{w:World}(hI:Inv P B F0 w0 R lk hm a w O){s:Nat}(hr:fo P w0.X w O (FW B F0 w) hm (fun h=>a.tmps[h]?) k av v)(hs:y6 T hm (some av)=some (s,l)):
  ∃ad cap,v= .slice ad l.length cap∧l.length≤maxLen∧(l=[]∨ ∃(b:Addr) (news:List Value),ad=some b∧news.length=(flatAll l).length∧(∀x,x∈l→x.flat.length=s) ∧
   (∀(j:Nat) (u:Value),news[j]?=some u→w.cell? (b.add j)=some u)∧nR w (aQ O (FW B F0 w)) (flatAll l) news):=by
 cases av<;>simp only[y6]at hs<;>try (cases hs;done)
 case d x =>
  cases x<;>simp at hs;obtain⟨rfl,rfl⟩:=hs;have hr:Rd w (aQ O (FW B F0 w)) _ v:=hr;obtain⟨ad,cap,rfl,hcap,kt,hall⟩:=hr.CL;refine⟨ad,cap,rfl,by omega,?_⟩;rcases hall with hnil|⟨b,off,cs,e,fz,rfl,hF,hb,hu,hc⟩
  ·exact .inl hnil
  ·obtain⟨news,h1,h2,h3⟩:=rJ hb hc;exact .inr ⟨_,news,rfl,h1,hu,h2,h3⟩
 case e0 e =>
  split at hs<;>simp at hs;obtain⟨rfl,rfl⟩:=hs;obtain⟨base,rfl⟩:=hr;exact⟨base,0,rfl,cb _,.inl rfl⟩
 case al t=>exact FY hT hI hr hs
 case sb t lo m=>exact FY hT hI hr hs
theorem ff{w:World}{t ty e:TypeId}{i:TypeInfo}(ht:P.underlying t=some (.slice e))(hi:P.info? e=some i)(base ad:Option Addr)(c:Nat):
  (cC #[t,t] ty #[.slice base 0 0,.slice ad 0 c]).run P w= .ok (.slice base 0 0) w:=by
 have hf:(d6 i.size 0 (.slice ad 0 c)).run P w= .ok #[] w:=by
  cases ad with
  |none=>rfl
  |some a=>simp[d6,loadCells,loadCellsFrom]
 cases base<;>simp[cC,run_underlying ht,cB,typeInfo,hi,io,hf,storeCells]
theorem kz{w:World}(t ty e:TypeId)(i:TypeInfo)(z:Value)(ht:P.underlying t=some (.slice e))(hi:P.info? e=some i)(hz:i.zero=some z)(base:Option Addr)
  (a:Addr) (m c:Nat) (news:List Value) (hl:news.length=m*i.size) (hnews: ∀j v,news[j]?=some v→w.cell? (a.add j)=some v)
  (h0:0<m) (h63:(m:Int)≤9223372036854775807) (h48:m*i.bytes≤281474976710656):
  (cC #[t,t] ty #[.slice base 0 0,.slice (some a) m c]).run P w =
   .ok (.slice (some ⟨w.heap.size,0,none⟩) m (grownCap w m 0 e)) (w.drew.alloc (.cells (news.toArray++cM z.cells (grownCap w m 0 e-m)) e)):=by
 cases base with
 |none=>exact run_append_nil w t ty e i z ht hi hz a m c news hl hnews h0 h63 h48
 |some b =>
  have h:=run_append_grow (P:=P) w t ty e i z ht hi hz b 0 0 [] (by simp) (fun j v h=>by simp at h) a m c news hl hnews (by omega) (by simpa using h63) (by
   simp only[dr];rw[nextslicecap_zero h0]
   exact h48)
  simpa using h
def N6(T:Ty)(lk hm:Nat→Option AV):Op→Option (Nat×TI×List D)
 | .call c=>match c.callee with
   | .builtin .append=>match c.args.toList,c.argTypes.toList with
     |[x,y],[t,u]=>match T.get t,ex T lk t x,y6 T hm (ex T lk u y)with
      |some ti,some (.e0 e),some (s,l)=>match ap ti.kind 4,ap t u,ap e ti.elem,T.get ti.elem with
       |true,true,true,some te=>match ap s te.size with
        |true=>some (e,te,l)
        |false=>none
       |_,_,_,_=>none
      |_,_,_=>none
     |_,_=>none
   |_=>none
 |_=>none
theorem pU{W:World}{z:Value}(hok:kJ P e te info dd z){news:List Value}
  (hO:O b=some t) (hb:W.heap[b]?=some (.cells cs e (0,0))) (hcap:l.length≤cap) (hmax:cap≤maxLen) (hcs:cs.size=cap*te.size) (hu: ∀x,x∈l→x.flat.length=te.size)
  (hr:nR W (aQ O F) (flatAll l) news) (hpre: ∀(j:Nat) (u:Value),news[j]?=some u→cs[j]?=some u):fo P X W O F hm tm t (.ow e l) (.slice (some ⟨b,0,none⟩) l.length cap):=by
 refine .inr ⟨b,cap,cs,rfl,hO,hb,hcap,hmax,by rw[hok.cellsOf];exact hcs,fun x hx=>by rw[hok.cellsOf];exact hu x hx,fun j d hj=>?_⟩;obtain⟨g1,u,g2,g3⟩:=hr.get hj;exact⟨g1,u,hpre j u g2,g3⟩
theorem aM.Ch(hT:bB P T)(hd:o.dst=some d)(hn:hm d=none)(hx:N6 T lk hm o.op=some (e,te,l))(hlen:l.length*te.bytes≤140737488355328):
  aM P B F0 w0 d o lk hm (.ow e l):=by
 refine⟨hd,hn,fun a w O hI K Q hK=>?_⟩;obtain⟨dst,op,ty,pos,after,guard⟩:=o;simp only[]at hd hx hI;cases op<;>simp only[N6]at hx<;>try (cases hx;done)
 rename_i c;obtain⟨callee,args,ats⟩:=c;simp only[]at hx;split at hx<;>try (cases hx;done)
 split at hx<;>try (cases hx;done)
 rename_i x y t u hxy htu;split at hx<;>try (cases hx;done)
 rename_i ti e' s l' hti hxe hys;split at hx<;>try (cases hx;done)
 rename_i te' hk htu' hee hte;split at hx<;>simp at hx;rename_i hs;obtain⟨rfl,rfl,rfl⟩:=hx;have htu':=aa htu';subst htu';have hee:=aa hee;subst hee;have hs:=aa hs;subst hs;have hargs:args= #[x,y]:=by apply cA;simpa using hxy
 have hats:ats= #[t,t]:=by apply cA;simpa using htu
 subst hargs;subst hats;obtain⟨info,dd,z,hok⟩:=hT t ti hti;obtain⟨info',dd',z',hok'⟩:=hT _ te' hte;obtain⟨base,hxv⟩:=(aZ hI (fun t ht=>by subst ht;simp[an,cn]) hxe 0).1;cases hye:ex T lk t y with
 |none=>rw[hye]at hys;simp[y6]at hys
 |some avy =>
  rw[hye]at hys;have hyr:=(aZ hI (fun t ht=>by subst ht;simp[an,cn]) hye 0).1;obtain⟨ad,cap,hyv,kt,hall⟩:=mC hT hI hyr hys;have hun:=(hok.kg hk).1;rcases hall with hnil|⟨b,news,rfl,hnl,hu,hcell,hrdl⟩
  ·subst hnil;have hrun:=ff (w:=w) (ty:=ty) hun hok'.hinfo base ad cap;simp only[c']at hyv;exact bh (v:=.slice base 0 0) (w':=w) (by simp[execOp,resolve,invoke,builtin,hxv,hyv,hrun])<|hK _ w O (dG.refl hI.lt) (.inl ⟨base,rfl,rfl⟩)
  ·by_cases h0:l'.length=0
   ·have:l'=[]:=b2 h0;subst this;have hrun:=ff (w:=w) (ty:=ty) hun hok'.hinfo base (some b) cap;simp only[c']at hyv;exact bh (v:=.slice base 0 0) (w':=w) (by simp[execOp,resolve,invoke,builtin,hxv,hyv,hrun])<|hK _ w O (dG.refl hI.lt) (.inl ⟨base,rfl,rfl⟩)
   ·have hfl:=aR hu;have hsz:info'.size=te'.size:=hok'.size;have hnl':news.length=l'.length*info'.size:=by rw[hnl,hfl,hsz]
    have hmx':(l'.length:Int)≤9223372036854775807:=by simp[maxLen]at kt;omega
    have hrun:=kz (P:=P) (w:=w) t ty ti.elem info' z' hun hok'.hinfo hok'.zero base b l'.length cap news hnl' hcell (by omega) hmx' (by rw[hok'.bytes];omega);have hge:=grownCap_ge w l'.length 0 ti.elem;have hle:=grownCap_le_maxLen w l'.length 0 ti.elem kt;have hdrew: ∀x,(w.drew.alloc x).heap=(w.alloc x).heap:=fun x=>rfl;refine bh (v:=.slice (some ⟨w.heap.size,0,none⟩) l'.length (grownCap w l'.length 0 ti.elem)) (w':=w.drew.alloc (.cells (news.toArray++cM z'.cells (grownCap w l'.length 0 ti.elem-l'.length)) ti.elem)) (by simp[execOp,resolve,invoke,builtin,hxv,hyv,hrun])<|hK _ _ (kQ O w.heap.size d) ?_ ?_
    ·refine⟨⟨rfl,rfl,rfl,by rw[hdrew];simp,fun k hk=>by rw[hdrew];exact heap_alloc_old w _ k hk⟩,fun b hb=>by simp[kQ,c8 hb],fun b t hb=>?_⟩;simp only[kQ]at hb;split at hb
     ·rename_i h;simp at hb;exact .inr ⟨hb.symm,by rw[hdrew];simp[h]⟩
     ·exact .inl (hI.lt b t hb)
    ·refine pU hok' (news:=news) (by simp[kQ]) (by rw[hdrew];exact heap_alloc_new w _) hge hle ?_ hu ?_ ?_
     ·simp only[eN,cv,size_zeroCells,hok'.zsize,hnl'];rw[hsz,←cz]
      congr 1
      omega
     ·refine hrdl.mono (fun b hb=>?_) (fun b hb=>?_)
      ·have:=FW.step hI.f0 hI.base (w':=w.drew.alloc (.cells (news.toArray++cM z'.cells (grownCap w l'.length 0 ti.elem-l'.length)) ti.elem)) (by rw[hdrew];simp) b hb.2;exact⟨by simp[kQ,c8 this.1,hb.1],this.2⟩
      ·rw[hdrew];exact heap_alloc_old w _ b (FW.step hI.f0 hI.base (a4 _) b hb.2).1
     ·intro j u hj;have hjl:=(ab.1 hj).1;rw[c0 (by simpa using hjl)];simpa using hj
theorem aM.pB(hT:bB P T)(hd:o.dst=some d)(hn:hm d=none)(hx:N6 T lk hm o.op=some (e,te,l))(hlen:l.length*te.bytes≤140737488355328):
  aM P B F0 w0 d o lk hm (.d (.sl te.size l)):=by
 refine⟨hd,hn,fun a w O hI K Q hK=>?_⟩;obtain⟨dst,op,ty,pos,after,guard⟩:=o;simp only[]at hd hx hI;cases op<;>simp only[N6]at hx<;>try (cases hx;done)
 rename_i c;obtain⟨callee,args,ats⟩:=c;simp only[]at hx;split at hx<;>try (cases hx;done)
 split at hx<;>try (cases hx;done)
 rename_i x y t u hxy htu;split at hx<;>try (cases hx;done)
 rename_i ti e' s l' hti hxe hys;split at hx<;>try (cases hx;done)
 rename_i te' hk htu' hee hte;split at hx<;>simp at hx;rename_i hs;obtain⟨rfl,rfl,rfl⟩:=hx;have htu':=aa htu';subst htu';have hee:=aa hee;subst hee;have hs:=aa hs;subst hs;have hargs:args= #[x,y]:=by apply cA;simpa using hxy
 have hats:ats= #[t,t]:=by apply cA;simpa using htu
 subst hargs;subst hats;obtain⟨info,dd,z,hok⟩:=hT t ti hti;obtain⟨info',dd',z',hok'⟩:=hT _ te' hte;obtain⟨base,hxv⟩:=(aZ hI (fun t ht=>by subst ht;simp[an,cn]) hxe 0).1;cases hye:ex T lk t y with
 |none=>rw[hye]at hys;simp[y6]at hys
 |some avy =>
  rw[hye]at hys;have hyr:=(aZ hI (fun t ht=>by subst ht;simp[an,cn]) hye 0).1;obtain⟨ad,cap,hyv,kt,hall⟩:=mC hT hI hyr hys;have hun:=(hok.kg hk).1;rcases hall with hnil|⟨b,news,rfl,hnl,hu,hcell,hrdl⟩
  ·subst hnil;have hrun:=ff (w:=w) (ty:=ty) hun hok'.hinfo base ad cap;simp only[c']at hyv;exact bh (v:=.slice base 0 0) (w':=w) (by simp[execOp,resolve,invoke,builtin,hxv,hyv,hrun])<|hK _ w O (dG.refl hI.lt)<|Rd.nil<|cb _
  ·by_cases h0:l'.length=0
   ·have:l'=[]:=b2 h0;subst this;have hrun:=ff (w:=w) (ty:=ty) hun hok'.hinfo base (some b) cap;simp only[c']at hyv;exact bh (v:=.slice base 0 0) (w':=w) (by simp[execOp,resolve,invoke,builtin,hxv,hyv,hrun])<|hK _ w O (dG.refl hI.lt)<|Rd.nil<|cb _
   ·have hfl:=aR hu;have hsz:info'.size=te'.size:=hok'.size;have hnl':news.length=l'.length*info'.size:=by rw[hnl,hfl,hsz]
    have hmx':(l'.length:Int)≤9223372036854775807:=by simp[maxLen]at kt;omega
    have hrun:=kz (P:=P) (w:=w) t ty ti.elem info' z' hun hok'.hinfo hok'.zero base b l'.length cap news hnl' hcell (by omega) hmx' (by rw[hok'.bytes];omega);have hge:=grownCap_ge w l'.length 0 ti.elem;have hle:=grownCap_le_maxLen w l'.length 0 ti.elem kt;have hdrew: ∀x,(w.drew.alloc x).heap=(w.alloc x).heap:=fun x=>rfl;refine bh (v:=.slice (some ⟨w.heap.size,0,none⟩) l'.length (grownCap w l'.length 0 ti.elem)) (w':=w.drew.alloc (.cells (news.toArray++cM z'.cells (grownCap w l'.length 0 ti.elem-l'.length)) ti.elem)) (by simp[execOp,resolve,invoke,builtin,hxv,hyv,hrun])<|hK _ _ O ?_ ?_
    ·exact⟨⟨rfl,rfl,rfl,by rw[hdrew];simp,fun k hk=>by rw[hdrew];exact heap_alloc_old w _ k hk⟩,fun b hb=>rfl,fun b t hb=>.inl (hI.lt b t hb)⟩
    ·refine Rd.nV (off:=0) ⟨?_,?_⟩ (by rw[hdrew];exact heap_alloc_new w _) hge hle hu (fun j dj hj=>?_)
     ·cases hOn:O w.heap.size with
      |none=>rfl
      |some t=>exact absurd (hI.lt _ t hOn) (i8 _)
     ·exact .inr ⟨hI.base,by rw[hdrew];simp⟩
     ·have hmono:=hrdl.mono (F':=aQ O (FW B F0 (w.drew.alloc (.cells (news.toArray++cM z'.cells (grownCap w l'.length 0 ti.elem-l'.length)) ti.elem)))) (w':=w.drew.alloc (.cells (news.toArray++cM z'.cells (grownCap w l'.length 0 ti.elem-l'.length)) ti.elem)) (fun b hb=>⟨hb.1,(FW.step hI.f0 hI.base (by rw[hdrew];simp) b hb.2).2⟩) (fun b hb=>by
       rw[hdrew]
       exact heap_alloc_old w _ b (FW.step hI.f0 hI.base (a4 _) b hb.2).1)
      obtain⟨g1,u,g2,g3⟩:=hmono.get hj;refine⟨g1,u,?_,g3⟩;have hjl:=(ab.1 g2).1;rw[dr,c0 (by simpa using hjl)];simpa using g2
theorem fo.move{w:World}
  (h:fo P X w O F hm tm t av v) (hfree: ∀c,aQ O F c→aQ O' F' c∧w'.heap[c]?=w.heap[c]?)
  (hown:av.home=true→ ∀c,O c=some t→O' c=some t∧w'.heap[c]?=w.heap[c]?)
  (hr: ∀k,av.refs=some k→ ∀x,x.home=true→hm' k=some x→hm k=some x∧tm' k=tm k):fo P X w' O' F' hm' tm' t av v:=by
 have hFr: ∀b,aQ O F b→aQ O' F' b:=fun b hb=>(hfree b hb).1;have hB: ∀b,aQ O F b→w'.heap[b]?=w.heap[b]?:=fun b hb=>(hfree b hb).2;cases av with
 |d x=>exact Rd.mono h hFr hB
 |bx ds =>
  obtain⟨b,cs,e,h1,h2,h3,h4⟩:=h;obtain⟨g1,g2⟩:=hown rfl b h2;exact⟨b,cs,e,h1,g1,g2.trans h3,h4.mono hFr hB⟩
 |pt k off =>
  intro ds hds;obtain⟨e2,e1⟩:=hr k rfl _ rfl hds;rw[e1];exact h ds e2
 |rf ds =>
  obtain⟨b,off,cs,e,fz,h1,h2,h3,h4⟩:=h;exact⟨b,off,cs,e,fz,h1,hFr b h2,(hB b h2).trans h3,fun i d hd=>⟨(h4 i d hd).1,let ⟨u,hu,hr⟩:=(h4 i d hd).2;⟨u,hu,hr.mono hFr hB⟩⟩⟩
 |e0 e=>exact h
 |ow e l =>
  rcases h with h|⟨b,cap,cs,h1,h2,h3,h4,h5,h6,h7,h8⟩
  ·exact .inl h
  ·obtain⟨g1,g2⟩:=hown rfl b h2;exact .inr ⟨b,cap,cs,h1,g1,g2.trans h3,h4,h5,h6,h7,fun i d hd=>⟨(h8 i d hd).1,let ⟨u,hu,hr⟩:=(h8 i d hd).2;⟨u,hu,hr.mono hFr hB⟩⟩⟩
 |wn q e l lo m =>
  rcases h with h|⟨b,o,cap,cs,hq,h1,h0,h2,h3,h4,h5,h6,h7,h8⟩
  ·exact .inl h
  obtain⟨g1,g2⟩:=hown rfl b h2;exact .inr ⟨b,o,cap,cs,hq,h1,h0,g1,g2.trans h3,h4,h5,h6,h7,fun i d hd=>⟨(h8 i d hd).1,let ⟨u,hu,hr⟩:=(h8 i d hd).2;⟨u,hu,hr.mono hFr hB⟩⟩⟩
 |al k =>
  intro x hx hrow;obtain⟨e2,e1⟩:=hr k rfl _ (dQ hrow) hx;rw[e1];exact h x e2 hrow
 |el k i off =>
  intro x e l hx hrow;obtain⟨e2,e1⟩:=hr k rfl _ (dQ (by rw[hrow];rfl)) hx;rw[e1];exact h x e l e2 hrow
 |sb k lo m =>
  intro x e l hx hrow;obtain⟨e2,e1⟩:=hr k rfl _ (dQ (by rw[hrow];rfl)) hx;rw[e1];exact h x e l e2 hrow
 |un=>exact h
 |junk=>trivial
theorem Rel.consume{a:Act}{w:World}(hR:Rel P B F0 w0 n σ a w)
  (hO: ∀t av,σ.get t=some av→ ∃v,a.tmps[t]?=some v∧fo P w0.X w O (FW B F0 w) σ.get (fun h=>a.tmps[h]?) t av v) (hd:d<n) (hne:h≠d) (hhx: ∃y,σ.get h=some y) (hav:av.home=true)
  (hb:jq B w0 w w') (hO'r: ∀b t,O' b=some t→kS B w0 w' b) (hfree: ∀c,aQ O (FW B F0 w) c→aQ O' (FW B F0 w') c∧w'.heap[c]?=w.heap[c]?)
  (hown: ∀c t,O c=some t→t≠h→t≠d→O' c=some t∧w'.heap[c]?=w.heap[c]?) (hv:fo P w0.X w' O' (FW B F0 w') σ.get (fun h=>a.tmps[h]?) d av v):
  Rel P B F0 w0 n ((d,av)::(h,.junk)::σ.kill d) (a.put (some d) v) w':=by
 refine⟨hR.below.trans hb,cx hR.base hb.size,hR.f0,by simp[eh,hR.defers],by simp[eh,hR.size],O',hO'r,fun t x hx=>?_⟩
 have hget: ∀k x,x.home=true→St.get ((d,av)::(h,AV.junk)::σ.kill d) k=some x→k≠d→σ.get k=some x:=fun k x hx hg hkd=>by
  rw[St.k5,if_neg (ct hkd)]at hg;split at hg
  ·simp at hg;subst hg;simp[AV.home]at hx
  ·rw[St.dA]at hg;cases hsk:σ.get k with
   |none=>simp[hsk]at hg
   |some z =>
    simp only[hsk,bz,ca]at hg;subst hg;rw[ir hx]
 rw[St.k5]at hx;split at hx
 ·rename_i htd;subst htd;simp at hx;subst hx;refine⟨v,fu (by rw[hR.size];exact hd),hv.move (fun c hc=>⟨hc,rfl⟩) (fun _ c hc=>⟨hc,rfl⟩) (fun k hk=>?_)⟩;exfalso;cases av<;>simp_all [AV.home,AV.refs]
 ·rename_i htd;split at hx
  ·rename_i hth;subst hth;simp at hx;subst hx;obtain⟨y,hy⟩:=hhx;obtain⟨u,hu,_⟩:=hO h y hy;exact⟨u,by rw[dX hne];exact hu,trivial⟩
  ·rename_i hth;rw[St.dA]at hx;cases hs:σ.get t with
   |none=>simp[hs]at hx
   |some y =>
    simp only[hs,bz,ca]at hx;subst hx;obtain⟨u,hu,hur⟩:=hO t y hs;refine⟨u,by rw[dX (ct htd)];exact hu,?_⟩;rcases AV.jW d y with⟨h1,h2⟩|h1
    ·rw[h1];refine hur.move hfree (fun _ c hc=>hown c t hc (ct hth) (ct htd)) fun k hk z hz hg=>?_;have hkd:k≠d:=fun e=>h2 (e▸hk);exact⟨hget k z hz hg hkd,dX hkd⟩
    ·rw[h1];trivial
def N5(T:Ty)(σ:St):Op→Option (Nat×Nat×TI×List D×List D)
 | .call c=>match c.callee with
   | .builtin .append=>match c.args.toList,c.argTypes.toList with
     |[x,y],[t,u]=>match T.get t,ex T σ.get t x,y6 T σ.get (ex T σ.get u y)with
      |some ti,some (.al h),some (s,m)=>match σ.get h with
       |some (.ow e l)=>match ap ti.kind 4,ap t u,ap e ti.elem,T.get ti.elem with
        |true,true,true,some te=>match ap s te.size with
         |true=>some (h,e,te,l,m)
         |false=>none
        |_,_,_,_=>none
       |_=>none
      |_,_,_=>none
     |_,_=>none
   |_=>none
 |_=>none
theorem vx{w:World}{t ty e:TypeId}{i:TypeInfo}(ht:P.underlying t=some (.slice e))(hi:P.info? e=some i)(base ad:Option Addr)(k cap c:Nat)(hk:k≤cap):
  (cC #[t,t] ty #[.slice base k cap,.slice ad 0 c]).run P w= .ok (.slice base k cap) w:=by
 have hf:(d6 i.size 0 (.slice ad 0 c)).run P w= .ok #[] w:=by
  cases ad with
  |none=>rfl
  |some a=>simp[d6,loadCells,loadCellsFrom]
 cases base<;>simp[cC,run_underlying ht,cB,typeInfo,hi,io,hf,storeCells,hk]
def tJ(O:Nat→Option Nat)(h d c:Nat):Option Nat:=if O c=some h then some d else if O c=some d then some h else O c
theorem fG{c:Nat}:tJ O h d c=none↔O c=none:=by
 simp only[tJ];split
 ·rename_i h1;simp[h1]
 ·split
  ·rename_i h2;simp[h2]
  ·rfl
theorem gD{c:Nat}(ho:O c=some t)(h1:t≠h)(h2:t≠d):tJ O h d c=some t:=by simp only[tJ,ho];rw[if_neg (by simpa using h1),if_neg (by simpa using h2)]
theorem oI{p:Nat→Prop}(ho: ∀c t,O c=some t→p c): ∀c t,tJ O h d c=some t→p c:=fun c t hc=>by
 simp only[tJ]at hc;split at hc
 ·rename_i h1;exact ho c _ h1
 ·split at hc
  ·rename_i h1;exact ho c _ h1
  ·exact ho c t hc
theorem eS.jw(hT:bB P T){m:List D}(hd:o.dst=some d)(hdn:d<n)(hx:N5 T σ o.op=some (h,e,te,l,m))(hne:h≠d)(hz:nc te=true)(hlen:(l.length+m.length)*te.bytes≤140737488355328)(h63:l.length+m.length≤9223372036854775807):
  eS P B F0 w0 n o σ ((d,.ow e (l++m))::(h,.junk)::σ.kill d):=by
 intro a w hR K Q hK;obtain⟨O,hOr,hO⟩:=hR.own;have hI:Inv P B F0 w0 (fun _=>True) σ.get σ.get a w O:=⟨hR.below,hR.base,hR.f0,hOr,fun t _ av h=>hO t av h,fun t av h _=>hO t av h⟩;obtain⟨dst,op,ty,pos,after,guard⟩:=o;simp only[]at hd hx;subst hd;cases op<;>simp only[N5]at hx<;>try (cases hx;done)
 rename_i c;obtain⟨callee,args,ats⟩:=c;simp only[]at hx;split at hx<;>try (cases hx;done)
 split at hx<;>try (cases hx;done)
 rename_i x y t u hxy htu;split at hx<;>try (cases hx;done)
 rename_i ti h' s m' hti hxe hys;split at hx<;>try (cases hx;done)
 rename_i e' l' hh;split at hx<;>try (cases hx;done)
 rename_i te' hk htu' hee hte;split at hx<;>simp at hx;rename_i hs;obtain⟨rfl,rfl,rfl,rfl,rfl⟩:=hx;have htu':=aa htu';subst htu';have hee:=aa hee;subst hee;have hs:=aa hs;subst hs;have hargs:args= #[x,y]:=by apply cA;simpa using hxy
 have hats:ats= #[t,t]:=by apply cA;simpa using htu
 subst hargs;subst hats;obtain⟨info,dd,z,hok⟩:=hT t ti hti;obtain⟨info',dd',z',hok'⟩:=hT _ te' hte;have hun:=(hok.kg hk).1;have hzp:=(zG hok' hz).2.2;have hsz:info'.size=te'.size:=hok'.size;have hxv:=(aZ hI (fun _ _=>trivial) hxe 0).1 _ hh rfl;obtain⟨vh,hvh,hhr⟩:=hO h' _ hh;simp only[hvh]at hxv;simp at hxv;have hev:a.eval x=vh:=hxv.symm;cases hye:ex T σ.get t y with
 |none=>rw[hye]at hys;simp[y6]at hys
 |some avy =>
  rw[hye]at hys;have hyr:=(aZ hI (fun _ _=>trivial) hye 0).1;obtain⟨ad,cap',hyv,kt,hall⟩:=mC hT hI hyr hys
  have hsrc:(m'=[]∧True)∨(0<m'.length∧ ∃(b:Addr) (news:List Value),ad=some b∧news.length=m'.length*te'.size∧(∀x,x∈m'→x.flat.length=te'.size) ∧
   (∀(j:Nat) (u:Value),news[j]?=some u→w.cell? (b.add j)=some u)∧nR w (aQ O (FW B F0 w)) (flatAll m') news):=by
   rcases hall with hnil|⟨b,news,h1,h2,h3,h4,h5⟩
   ·exact .inl ⟨hnil,trivial⟩
   ·by_cases h0:m'.length=0
    ·exact .inl ⟨b2 h0,trivial⟩
    ·exact .inr ⟨by omega,b,news,h1,by rw[h2,aR h3],h3,h4,h5⟩
  have hh': ∃y,σ.get h'=some y:=⟨_,hh⟩
  have exec: ∀{v':Value} {w':World},(cC #[t,t] ty #[vh,a.eval y]).run P w= .ok v' w'→(execOp a.eval {dst:=some d,op:=.call {callee:=.builtin .append,args:= #[x,y],argTypes:= #[t,t]},type:=ty,pos:=pos,after:=after,guard:=guard}).run P w= .ok (.value v') w':=fun h=>by simp[execOp,resolve,invoke,builtin,hev,h]
  have fresh: ∀{news:List Value} {cells:Array Value} {cap2:Nat},(∀x,x∈l'++m'→x.flat.length=te'.size)→nR w (aQ O (FW B F0 w)) (flatAll (l'++m')) news→cells.size=cap2*te'.size→(∀(j:Nat) (u:Value),news[j]?=some u→cells[j]?=some u)→l'.length+m'.length≤cap2→cap2≤maxLen →
    (cC #[t,t] ty #[vh,a.eval y]).run P w= .ok (.slice (some ⟨w.heap.size,0,none⟩) (l'.length+m'.length) cap2) (w.drew.alloc (.cells cells ti.elem))→f8 P {dst:=some d,op:=.call {callee:=.builtin .append,args:= #[x,y],argTypes:= #[t,t]},type:=ty,pos:=pos,after:=after,guard:=guard} a w K Q:=by
   intro news cells cap2 hu hrd hsize hpre hc1 hc2 hrun;have hheap:(w.drew.alloc (.cells cells ti.elem)).heap=(w.alloc (.cells cells ti.elem)).heap:=rfl;refine bh (exec hrun) (hK _ _ (hR.consume (O':=kQ O w.heap.size d) hO hdn hne hh' rfl (.of ⟨rfl,rfl,rfl,by rw[hheap];simp,fun k hk=>by rw[hheap];exact heap_alloc_old w _ k hk⟩ hR.base) (fun b t hb=>?_) (fun c hc=>?_) (fun c t hc h1 h2=>?_) ?_))
   ·unfold kS;rw[hheap];simp only[kQ]at hb;split at hb
    ·rename_i h;subst h;exact⟨.inl hR.base,by simp⟩
    ·have:=hOr b t hb;exact⟨this.1,by have:=this.2;simp;omega⟩
   ·have:=FW.step hR.f0 hR.base (w':=w.drew.alloc (.cells cells ti.elem)) (by rw[hheap];simp) c hc.2;exact⟨⟨by simp[kQ,c8 this.1,hc.1],this.2⟩,by rw[hheap];exact heap_alloc_old w _ c this.1⟩
   ·have:=(hOr c t hc).2;exact⟨by simp[kQ,c8 this,hc],by rw[hheap];exact heap_alloc_old w _ c this⟩
   ·have:=pU (X:=w0.X) (tm:=fun h=>a.tmps[h]?) (hm:=σ.get) (F:=FW B F0 (w.drew.alloc (.cells cells ti.elem))) (O:=kQ O w.heap.size d) (l:=l'++m') hok' (news:=news) (cap:=cap2) (b:=w.heap.size) (cs:=cells) (t:=d) (by simp[kQ]) (by rw[hheap];exact heap_alloc_new w _) (by simpa using hc1) hc2 hsize hu ?_ hpre
    ·simpa using this
    ·refine hrd.mono (fun b hb=>?_) (fun b hb=>?_)
     ·have:=FW.step hR.f0 hR.base (w':=w.drew.alloc (.cells cells ti.elem)) (by rw[hheap];simp) b hb.2;exact⟨by simp[kQ,c8 this.1,hb.1],this.2⟩
     ·rw[hheap];exact heap_alloc_old w _ b (FW.step hR.f0 hR.base (a4 _) b hb.2).1
  rcases hhr with⟨base,rfl,rfl⟩|⟨b,cap,cs,rfl,h2,h3,h4,h5,h6,h7,h8⟩
  ·rcases hsrc with⟨rfl,_⟩|⟨hpos,b,news,rfl,g1,g2,g3,g4⟩
   ·simp only[c']at hyv;have hrun:=ff (w:=w) (ty:=ty) hun hok'.hinfo base ad cap';rw[←hyv]at hrun;exact bh (exec hrun) (hK _ _ (hR.consume (O':=O) hO hdn hne hh' rfl (.refl _ _ _) hOr (fun c hc=>⟨hc,rfl⟩) (fun c t hc _ _=>⟨hc,rfl⟩) (.inl ⟨base,rfl,rfl⟩)))
   ·have hmx':(m'.length:Int)≤9223372036854775807:=by simp[maxLen]at kt;omega
    have hrun:=kz (P:=P) (w:=w) t ty ti.elem info' z' hun hok'.hinfo hok'.zero base b m'.length cap' news (by rw[g1,hsz]) g3 hpos hmx' (by rw[hok'.bytes];simp at hlen;omega);have hge:=grownCap_ge w m'.length 0 ti.elem;have hle:=grownCap_le_maxLen w m'.length 0 ti.elem kt;rw[←hyv]at hrun;refine fresh (news:=news) (cap2:=grownCap w m'.length 0 ti.elem) (by simpa using g2) (by simpa using g4) ?_ ?_ (by simpa using hge) hle (by simpa using hrun)
    ·simp only[eN,cv,size_zeroCells,hok'.zsize,g1];rw[←cz]
     congr 1
     omega
    ·intro j u hj;have hjl:=(ab.1 hj).1;rw[c0 (by simpa using hjl)];simpa using hj
  ·have hcel:P.cellsOf ti.elem=te'.size:=hok'.cellsOf;rw[hcel]at h6 h7;obtain⟨olds,p1,p2,p3⟩:=rJ (off:=0) (w:=w) h3 (fun i d hd=>by obtain⟨f1,u,f2,f3⟩:=h8 i d hd;exact⟨f1,u,by simpa using f2,f3⟩);have holds:olds.length=l'.length*te'.size:=by rw[p1,aR h7]
   have hcsget: ∀(j:Nat) (u:Value),olds[j]?=some u→cs[j]?=some u:=fun j u hj=>by have:=p2 j u hj;rw[c6]at this;simpa[hE,h3]using this
   rcases hsrc with⟨rfl,_⟩|⟨hpos,sb,news,rfl,g1,g2,g3,g4⟩
   ·simp only[c']at hyv;have hrun:=vx (w:=w) (ty:=ty) hun hok'.hinfo (some ⟨b,0,none⟩) ad l'.length cap cap' h4;rw[←hyv]at hrun;refine bh (exec hrun) (hK _ _ (hR.consume (O':=tJ O h' d) hO hdn hne hh' rfl (.refl _ _ _) (oI hOr) (fun c hc=>⟨⟨fG.2 hc.1,hc.2⟩,rfl⟩) (fun c t hc h1 h2=>⟨gD hc h1 h2,rfl⟩) ?_));refine .inr ⟨b,cap,cs,by simp,by simp[tJ,h2],h3,by simpa using h4,h5,by rw[hcel];exact h6,fun x hx=>by rw[hcel];exact h7 x (by simpa using hx),fun i dd hdd=>?_⟩;obtain⟨f1,u,f2,f3⟩:=h8 i dd (by simpa using hdd);exact⟨f1,u,f2,f3.mono (fun c hc=>⟨fG.2 hc.1,hc.2⟩) (fun _ _=>rfl)⟩
   ·have hu12: ∀x,x∈l'++m'→x.flat.length=te'.size:=fun x hx=>by
     rcases List.mem_append.1 hx with h|h
     ·exact h7 x h
     ·exact g2 x h
    have hrd12:nR w (aQ O (FW B F0 w)) (flatAll (l'++m')) (olds++news):=by
     rw[cD];refine⟨by simp[p1,g4.1],fun j y u hy hu=>?_⟩;rw[a3]at hy hu;rw[←p1]at hy;split at hy
     ·rename_i hj;rw[if_pos hj]at hu;exact p3.2 j y u hy hu
     ·rename_i hj;rw[if_neg hj]at hu;exact g4.2 _ y u hy hu
    by_cases hroom:l'.length+m'.length≤cap
    ·have hfit:l'.length*info'.size+news.length≤cs.size:=by rw[g1,hsz,h6,←cz];exact ey _ hroom
     have hrun:=run_append_room (P:=P) w t ty ti.elem info' hun hok'.hinfo b l'.length cap cs h3 sb m'.length cap' news (by rw[g1,hsz]) g3 g4.yC hroom hfit;rw[←hyv]at hrun;have hother: ∀c,c≠b→(w.setRow b (cs.toList.take (l'.length*info'.size)++news++cs.toList.drop (l'.length*info'.size+news.length)).toArray).heap[c]?=w.heap[c]?:=fun c hc=>setRow_other w b c _ hc;have hFW: ∀c,FW B F0 (w.setRow b (cs.toList.take (l'.length*info'.size)++news++cs.toList.drop (l'.length*info'.size+news.length)).toArray) c↔FW B F0 w c:=fun c=>by simp[FW]
     have hbB:=(hOr b h' h2)
     have hss:((cs.toList.take (l'.length*info'.size)++news++cs.toList.drop (l'.length*info'.size+news.length)).toArray).size=cs.size:=by simp only[cv,co,cm,dT,ce];omega
     refine bh (exec hrun) (hK _ _ (hR.consume (O':=tJ O h' d) hO hdn hne hh' rfl (.write h3 hss hbB.1) (fun c t hc=>⟨(oI hOr c t hc).1,by simpa using (oI hOr c t hc).2⟩) (fun c hc=>⟨⟨fG.2 hc.1,(hFW c).2 hc.2⟩,hother c (fun e=>by subst e;rw[aQ,h2]at hc;cases hc.1)⟩) (fun c t hc h1 h2'=>⟨gD hc h1 h2',hother c (fun e=>by subst e;rw[h2]at hc;simp at hc;exact h1 hc.symm)⟩) ?_));have:=pU (X:=w0.X) (tm:=fun h=>a.tmps[h]?) (hm:=σ.get) (F:=FW B F0 (w.setRow b (cs.toList.take (l'.length*info'.size)++news++cs.toList.drop (l'.length*info'.size+news.length)).toArray)) (O:=tJ O h' d) (l:=l'++m') hok' (news:=olds++news) (cap:=cap) (b:=b) (t:=d) (cs:=(cs.toList.take (l'.length*info'.size)++news++cs.toList.drop (l'.length*info'.size+news.length)).toArray) (by simp[tJ,h2]) (setRow_heap w b cs _ ti.elem (0,0) h3) (by simpa using hroom) h5 ?_ hu12 ?_ ?_
     ·simpa using this
     ·simp only[cv,co,cm,dT,ce];rw[h6]at hfit ⊢;omega
     ·refine hrd12.mono (fun c hc=>⟨fG.2 hc.1,(hFW c).2 hc.2⟩) (fun c hc=>hother c (fun e=>by subst e;rw[aQ,h2]at hc;cases hc.1))
     ·intro j u hj;rw[a3]at hj;simp only[hL,cN,a3,cm,ce,bi,cp];have hmin:min (l'.length*info'.size) cs.size=olds.length:=by rw[holds,hsz];rw[hsz]at hfit;omega
      rw[hmin];split at hj
      ·rename_i hjl;rw[if_pos hjl,if_pos (by rw[hsz];omega)];exact hcsget j u hj
      ·rename_i hjl;have hjn:=(ab.1 hj).1;rw[if_neg hjl,if_pos hjn];exact hj
    ·have hbig:((l'.length+m'.length:Nat):Int)≤9223372036854775807:=by omega
     have hrun:=run_append_grow (P:=P) w t ty ti.elem info' z' hun hok'.hinfo hok'.zero ⟨b,0,none⟩ l'.length cap olds (by rw[holds,hsz]) p2 sb m'.length cap' news (by rw[g1,hsz]) g3 (by omega) hbig (growslice_fits (by omega) (by rw[hok'.bytes];exact hlen));rw[←hyv]at hrun;have hge:=grownCap_ge w (l'.length+m'.length) cap ti.elem;have hle:=grownCap_le_maxLen w (l'.length+m'.length) cap ti.elem (by simp[maxLen];omega);refine fresh (news:=olds++news) (cap2:=grownCap w (l'.length+m'.length) cap ti.elem) hu12 hrd12 ?_ ?_ hge hle hrun
     ·simp only[eN,cv,size_zeroCells,hok'.zsize,g1,holds];rw[←cz,←cz]
      congr 1
      omega
     ·intro j u hj;have hjl:=(ab.1 hj).1;rw[c0 (by simpa using hjl)];simpa using hj
theorem JX(size:Nat): ∀(vs:List Value) (k:Nat) (cs:Array Value),(∀v,v∈vs→v.cells.size=size)→cs.size=(k+vs.length)*size →
  eo (fun i=>some (i*size,size)) cs ((vs.zipIdx k).map fun x=>(x.2,x.1))=some ((cs.toList.take (k*size)++vs.flatMap fun v=>v.cells.toList).toArray)
 |[],k,cs,_,hs=>by have:cs.toList.take (k*size)=cs.toList:=ep (by simp at hs ⊢; omega);simp[eo,this]
 |v::vs,k,cs,hv,hs=>by
  have h1:=hv v (by simp)
  have hle:k*size+size≤cs.size:=by rw[hs,en,←c7];exact ey _ (by omega)
  obtain⟨g1,g2⟩:=rF (k*size) v.cells.toList 0 cs;generalize hcs:((v.cells.toList.zipIdx 0).foldl (fun (cs:Array Value) (x:Value×Nat)=>cs.setIfInBounds (k*size+x.2) x.1) cs)=cs1 at g1 g2;have ih:=JX size vs (k+1) cs1 (fun u hu=>hv u (by simp[hu])) (by rw[g1,hs];simp only[en];congr 1;omega);simp only[f6,eE,eo];rw[if_neg (by simp;omega)]
  have hfold:v.cells.zipIdx.foldl (fun (cs:Array Value) (x:Value×Nat)=>match x with|(c,j)=>cs.setIfInBounds (k*size+j) c) cs=cs1:=by rw[←hcs,←hV];simp
  rw[hfold,ih]
  congr 2
  simp only[cw];rw[←cN]
  congr 1
  apply List.ext_getElem?;intro j;simp only[bi,a3,cm,ce,cp,g2];have hmin:min (k*size) cs.size=k*size:=by omega
  rw[hmin,c7];by_cases hj:j<k*size
  ·rw[if_pos (by omega),if_neg (by omega),if_pos hj,if_pos hj]
  ·by_cases hj2:j<k*size+size
   ·rw[if_pos hj2,if_pos ⟨by omega,by simp;omega,by omega⟩,if_neg hj];simp
   ·rw[if_neg hj2,if_neg hj];have:v.cells[j-k*size]?=none:=by simp;omega
    rw[this]
def ye(T:Ty)(lk:Nat→Option AV)(ty size:Nat):Nat→List (Nat×Operand)→Option (List D)
 |_,[]=>some []
 |k,(i,x)::r=>match ap i k,dO T (ex T lk ty x),ye T lk ty size (k+1) r with
  |true,some d,some ds=>match xL d,ap d.flat.length size with
   |true,true=>some (d::ds)
   |_,_=>none
  |_,_,_=>none
def NX(T:Ty)(lk:Nat→Option AV):Op→Option (Nat×List D)
 | .buildSlice t m parts=>match T.get t with
   |some ti=>match ap ti.kind 4,T.get ti.elem with
    |true,some te=>match ye T lk ti.elem te.size 0 parts.toList,ap parts.toList.length m,b0 (m*te.size) 16777216 with
     |some ds,true,true=>match b0 1 te.size,b0 1 m with
      |true,true=>some (ti.elem,ds)
      |_,_=>none
     |_,_,_=>none
    |_,_=>none
   |none=>none
 |_=>none
theorem rG(hT:bB P T){R:Nat→Prop}{a:Act}{w:World}{O:Nat→Option Nat}(hI:Inv P B F0 w0 R lk hm a w O){ty size:Nat}: ∀(l:List (Nat×Operand)) (k:Nat) (ds:List D),(∀p,p∈l→ ∀t,p.2= .tmp t→R t)→ye T lk ty size k l=some ds →
  (l.map fun (i,x)=>(i,a.eval x))=((l.map fun p=>a.eval p.2).zipIdx k).map (fun x=>(x.2,x.1))∧(l.map fun p=>a.eval p.2).length=ds.length∧(∀v,v∈l.map (fun p=>a.eval p.2)→v.cells.size=size)∧(∀x,x∈ds→x.flat.length=size) ∧
    nR w (aQ O (FW B F0 w)) (flatAll ds) ((l.map fun p=>a.eval p.2).flatMap fun v=>v.cells.toList)
 |[],k,ds,_,h=>by simp[ye]at h;subst h;exact⟨rfl,rfl,fun v h=>by simp at h,fun x h=>by simp at h,rfl,fun i d u h=>by simp[flatAll]at h⟩
 |(i,x)::r,k,ds,hx,h=>by
  simp only[ye]at h;split at h<;>try (cases h;done)
  rename_i y ys hik h1 h2;split at h<;>simp at h;rename_i hnt hsz;subst h;have hik:=aa hik;subst hik;have hsz:=aa hsz;obtain⟨e1,e2,e3,e4,e5⟩:=rG hT hI r (i+1) ys (fun p hp=>hx p (by simp[hp])) h2;have hy:=eO hT hI (fun t ht=>hx (i,x) (by simp) t ht) h1;have hyc:=hy.cells (sS hnt);have hcs:(a.eval x).cells.size=size:=by have:=hyc.1;simp at this;omega
  refine⟨by simp only[eE,f6];rw[e1],by simp at e2 ⊢; exact e2,fun v hv=>?_,fun z hz=>?_,?_⟩
  ·simp only[eE,eB]at hv;rcases hv with rfl|hv
   ·exact hcs
   ·exact e3 v hv
  ·simp only[eB]at hz;rcases hz with rfl|hz
   ·exact hsz
   ·exact e4 z hz
  ·simp only[flatAll,cw,eE]at e5 ⊢;refine⟨by simp only[co];rw[hyc.1,e5.1],fun j d u hd hu=>?_⟩;rw[a3]at hd hu;rw[hyc.1]at hu;split at hd
   ·rename_i hj;rw[if_pos hj]at hu;exact hyc.2 j d u hd hu
   ·rename_i hj;rw[if_neg hj]at hu;exact e5.2 _ d u hd hu
theorem aM.bs(hT:bB P T)(hd:o.dst=some d)(hn:hm d=none)(hx:NX T lk o.op=some (e,ds)):aM P B F0 w0 d o lk hm (.ow e ds):=by
 refine⟨hd,hn,fun a w O hI K Q hK=>?_⟩;obtain⟨dst,op,ty,pos,after,guard⟩:=o;simp only[]at hd hx hI;cases op<;>simp only[NX]at hx<;>try (cases hx;done)
 rename_i t m parts;split at hx<;>try (cases hx;done)
 rename_i ti hti;split at hx<;>try (cases hx;done)
 rename_i te hk hte;split at hx<;>try (cases hx;done)
 rename_i ds' hds hm' hle;split at hx<;>simp at hx;rename_i hs1 hm1;obtain⟨rfl,rfl⟩:=hx;have hs1:=ax hs1;have hm1:=ax hm1;have h0:m*te.size≠0:=i2 (by omega) (by omega);have hm':=aa hm';have hle:=ax hle;obtain⟨info,dd,z,hok⟩:=hT t ti hti;obtain⟨info',dd',z',hok'⟩:=hT _ te hte;have hsz:info'.size=te.size:=hok'.size
 obtain⟨e1,e2,e3,e4,e5⟩:=rG hT hI parts.toList 0 ds' (fun p hp t ht=>by
   simp only[an];have:p.2∈parts.toList.map (·.2):=hA.2 ⟨p,hp,rfl⟩;rw[ht]at this
   simpa using this) hds
 generalize hvs:(parts.toList.map fun p=>a.eval p.2)=vs at e1 e2 e3 e5;have hlm:vs.length=m:=by rw[←hvs];simpa using hm'
 have hdl:ds'.length=m:=by rw[←e2];exact hlm
 have key: ∃cells:Array Value,cells.size=m*te.size∧cells.toList=vs.flatMap (fun v=>v.cells.toList)∧(dM t m (parts.map fun (i,x)=>(i,a.eval x))).run P w= .ok (.slice (some ⟨w.heap.size,0,none⟩) m m) (w.alloc (.cells cells ti.elem)):=by
  have hflen:(vs.flatMap fun v=>v.cells.toList).length=m*te.size:=by rw[e5.1,aR e4,hdl]
  have hnle: ¬(16777216<m*te.size):=by omega
  have hzs:z'.cells.size=te.size:=hok'.zsize;have hf:=JX te.size vs 0 ((jg (m*te.size)).map (z'.cells[·%te.size]!)) e3 (by simp[hlm]);refine⟨(vs.flatMap fun v=>v.cells.toList).toArray,by simpa using hflen,by simp,?_⟩;have hpl:(parts.map fun (i,x)=>(i,a.eval x)).toList=(vs.zipIdx 0).map fun x=>(x.2,x.1):=by rw[←e1];simp
  simp only[dn,dl,it]at hf;simp only[dM,az,run_underlying (hok.kg hk).1,am,cB,typeInfo,run_program,hok'.hinfo,bn,hsz,i7,gt_iff_lt,hnle,if_false,h0,zeroValue,hok'.zero,hzs,hpl,hf];simp[newRow]
 obtain⟨cells,c1,c2,hrun⟩:=key;refine bh (v:=.slice (some ⟨w.heap.size,0,none⟩) m m) (w':=w.alloc (.cells cells ti.elem)) (by simp only[execOp,az,hrun,am,bn])<|hK _ _ _ (dG.alloc hI.lt d _) ?_;have:=pU (X:=w0.X) (tm:=fun h=>a.tmps[h]?) (hm:=hm) (F:=FW B F0 (w.alloc (.cells cells ti.elem))) (O:=kQ O w.heap.size d) (l:=ds') hok' (news:=vs.flatMap fun v=>v.cells.toList) (cap:=m) (b:=w.heap.size) (t:=d) (cs:=cells) (by simp[kQ]) (heap_alloc_new w _) (by omega) (by have:=g' m hs1;simp only[maxLen];omega) c1 e4 ?_ (fun j u hj=>by rw[←c2]at hj;simpa using hj)
 ·rw[hdl]at this;exact this
 ·refine e5.mono (fun b hb=>?_) (fun b hb=>?_)
  ·have:=FW.step hI.f0 hI.base (w':=w.alloc (.cells cells ti.elem)) (by simp) b hb.2;exact⟨by simp[kQ,c8 this.1,hb.1],this.2⟩
  ·exact heap_alloc_old w _ b (FW.step hI.f0 hI.base (a4 _) b hb.2).1
theorem aM.ku(hT:bB P T){te0:TI}(hte0:T.get e=some te0)(hd:o.dst=some d)(hn:hm d=none)(hx:NX T lk o.op=some (e,ds)):aM P B F0 w0 d o lk hm (.d (.sl te0.size ds)):=by
 refine⟨hd,hn,fun a w O hI K Q hK=>?_⟩;obtain⟨dst,op,ty,pos,after,guard⟩:=o;simp only[]at hd hx hI;cases op<;>simp only[NX]at hx<;>try (cases hx;done)
 rename_i t m parts;split at hx<;>try (cases hx;done)
 rename_i ti hti;split at hx<;>try (cases hx;done)
 rename_i te hk hte;split at hx<;>try (cases hx;done)
 rename_i ds' hds hm' hle;split at hx<;>simp at hx;rename_i hs1 hm1;obtain⟨rfl,rfl⟩:=hx;rw[hte]at hte0;obtain rfl:te=te0:=by simpa using hte0
 have hs1:=ax hs1;have hm1:=ax hm1;have h0:m*te.size≠0:=i2 (by omega) (by omega);have hm':=aa hm';have hle:=ax hle;obtain⟨info,dd,z,hok⟩:=hT t ti hti;obtain⟨info',dd',z',hok'⟩:=hT _ te hte;have hsz:info'.size=te.size:=hok'.size
 obtain⟨e1,e2,e3,e4,e5⟩:=rG hT hI parts.toList 0 ds' (fun p hp t ht=>by
   simp only[an];have:p.2∈parts.toList.map (·.2):=hA.2 ⟨p,hp,rfl⟩;rw[ht]at this
   simpa using this) hds
 generalize hvs:(parts.toList.map fun p=>a.eval p.2)=vs at e1 e2 e3 e5;have hlm:vs.length=m:=by rw[←hvs];simpa using hm'
 have hdl:ds'.length=m:=by rw[←e2];exact hlm
 have key: ∃cells:Array Value,cells.size=m*te.size∧cells.toList=vs.flatMap (fun v=>v.cells.toList)∧(dM t m (parts.map fun (i,x)=>(i,a.eval x))).run P w= .ok (.slice (some ⟨w.heap.size,0,none⟩) m m) (w.alloc (.cells cells ti.elem)):=by
  have hflen:(vs.flatMap fun v=>v.cells.toList).length=m*te.size:=by rw[e5.1,aR e4,hdl]
  have hnle: ¬(16777216<m*te.size):=by omega
  have hzs:z'.cells.size=te.size:=hok'.zsize;have hf:=JX te.size vs 0 ((jg (m*te.size)).map (z'.cells[·%te.size]!)) e3 (by simp[hlm]);refine⟨(vs.flatMap fun v=>v.cells.toList).toArray,by simpa using hflen,by simp,?_⟩;have hpl:(parts.map fun (i,x)=>(i,a.eval x)).toList=(vs.zipIdx 0).map fun x=>(x.2,x.1):=by rw[←e1];simp
  simp only[dn,dl,it]at hf;simp only[dM,az,run_underlying (hok.kg hk).1,am,cB,typeInfo,run_program,hok'.hinfo,bn,hsz,i7,gt_iff_lt,hnle,if_false,h0,zeroValue,hok'.zero,hzs,hpl,hf];simp[newRow]
 obtain⟨cells,c1,c2,hrun⟩:=key;refine bh (v:=.slice (some ⟨w.heap.size,0,none⟩) m m) (w':=w.alloc (.cells cells ti.elem)) (by simp only[execOp,az,hrun,am,bn])<|hK _ _ _ (dG.KD hI.lt d _) ?_;have hmono:=e5.mono (F':=aQ O (FW B F0 (w.alloc (.cells cells ti.elem)))) (w':=w.alloc (.cells cells ti.elem)) (fun b hb=>⟨hb.1,(FW.step hI.f0 hI.base (by simp) b hb.2).2⟩) (fun b hb=>heap_alloc_old w _ b (FW.step hI.f0 hI.base (a4 _) b hb.2).1)
 have key:=Rd.nV (F:=aQ O (FW B F0 (w.alloc (.cells cells ti.elem)))) (s:=te.size) (l:=ds') (off:=0) (cap:=m) (b:=w.heap.size) ⟨?_,.inr ⟨hI.base,by simp⟩⟩ (heap_alloc_new w _) (by omega) (by have:=g' m hs1;simp only[maxLen];omega) e4 (fun j dj hj=>by
  obtain⟨g1,u,g2,g3⟩:=hmono.get hj;refine⟨g1,u,?_,g3⟩;rw[←c2]at g2
  simpa using g2)
 ·rw[hdl]at key;exact key
 ·cases hOn:O w.heap.size with
  |none=>rfl
  |some t=>exact absurd (hI.lt _ t hOn) (i8 _)
def L9(T:Ty)(lk:Nat→Option AV):Op→Option (Bool×IntKind×Int×Int)
 | .binOp op _ x y _=>match lr (dO T (ex T lk 0 x)),lr (dO T (ex T lk 0 y))with
   |some (.int k a),some (.int j b)=>match CR k j with
    |true=>match op with
     | .quo=>some (true,k,a,b)
     | .rem=>some (false,k,a,b)
     |_=>none
    |false=>none
   |_,_=>none
 |_=>none
def ot(q:Bool)(k:IntKind)(a b:Int):Value:=match q with
 |true=>.int k (k.wrap (a.tdiv b))
 |false=>.int k (a.tmod b)
theorem aM.div(hT:bB P T){k:IntKind}{x y:Int}(hd:o.dst=some d)(hn:hm d=none)(hx:L9 T lk o.op=some (q,k,x,y))(h0:y≠0):aM P B F0 w0 d o lk hm (.d (.v (ot q k x y))):=by
 refine⟨hd,hn,fun a w O hI K Q hK=>?_⟩;obtain⟨dst,op,ty,pos,after,guard⟩:=o;simp only[]at hd hx hI;cases op<;>simp only[L9]at hx<;>try (cases hx;done)
 rename_i bop t u v ty2;split at hx<;>try (cases hx;done)
 rename_i k1 a1 k2 b1 hu hv;split at hx<;>try (cases hx;done)
 rename_i hk;have hk:=CQ hk;subst hk;have hu:=(cZ hT hI (fun t ht=>by subst ht;simp[an]) hu).1;have hv:=(cZ hT hI (fun t ht=>by subst ht;simp[an]) hv).1;have hg:(eqGuard bop t u v (a.eval u) (a.eval v)).run P w= .ok () w:=po (.inl (by rw[hu];simp)) (by rw[hu];simp);split at hx<;>simp at hx
 ·obtain⟨rfl,rfl,rfl,rfl⟩:=hx;refine bh (v:=ot true k1 a1 b1) (w':=w) ?_<|hK _ w O (dG.refl hI.lt) (.v rfl);simp only[execOp,az,hg,am];rw[hu,hv];simp[d4,Op.intDiv,h0,ot]
 ·obtain⟨rfl,rfl,rfl,rfl⟩:=hx;refine bh (v:=ot false k1 a1 b1) (w':=w) ?_<|hK _ w O (dG.refl hI.lt) (.v rfl);simp only[execOp,az,hg,am];rw[hu,hv];simp[d4,Op.intDiv,h0,ot]
def lF:Value→Bool
 | .nilIface=>true
 | .iface _ _=>true
 |_=>false
def zp:Value→Bool
 | .nilIface=>true
 |_=>false
def HZ(T:Ty)(lk:Nat→Option AV):Op→Option (Bool×Value)
 | .binOp op t x (.const .nilIface) _=>match T.get t,lr (dO T (ex T lk 0 x))with
   |some ti,some u=>match ap ti.kind 6 with
    |true=>match op with
     | .eql=>some (true,u)
     | .neq=>some (false,u)
     |_=>none
    |false=>none
   |_,_=>none
 |_=>none
theorem kJ.OV{d:TypeDesc}{z:Value}(h:kJ P t i info d z)(hk:ap i.kind 6=true): ∃ms,P.underlying t=some (.interface ms):=by have hk:=aa hk;have hd:=h.desc;have hu:=h.und;cases d<;>simp[mr,hk]at hd;exact⟨_,hu⟩
theorem DU{w:World}{t:TypeId}(hi:P.underlying t=some (.interface ms))(k:Nat)(h:lF u=true):(gx (k+1) t u .nilIface).run P w= .ok (zp u) w:=by
 cases u<;>simp[lF]at h<;>simp[gx,run_underlying hi,zp]
theorem Av{w:World}{t:TypeId}(hi:P.underlying t=some (.interface ms))(h:lF u=true):(e9 t u .nilIface).run P w= .ok (zp u) w:=DU hi 9999 h
theorem zF{w:World}{t:TypeId}(hi:P.underlying t=some (.interface ms))(h:lF u=true):(d4 .eql t u .nilIface).run P w= .ok (.bool (zp u)) w:=by
 have:d4 .eql t u .nilIface=(do pure (.bool (←e9 t u .nilIface)):Sem Value):=by cases u<;>simp[lF]at h<;>rfl
 rw[this];simp only[az,Av hi h,am,bn]
theorem zw{w:World}{t:TypeId}(hi:P.underlying t=some (.interface ms))(h:lF u=true):(d4 .neq t u .nilIface).run P w= .ok (.bool (!(zp u))) w:=by
 have:d4 .neq t u .nilIface=(do pure (.bool (!(←e9 t u .nilIface))):Sem Value):=by cases u<;>simp[lF]at h<;>rfl
 rw[this];simp only[az,Av hi h,am,bn]
theorem aM.err(hT:bB P T)(hd:o.dst=some d)(hn:hm d=none)(hx:HZ T lk o.op=some (q,u))(hi:lF u=true):aM P B F0 w0 d o lk hm (.d (.v (.bool (zp u==q)))):=by
 refine⟨hd,hn,fun a w O hI K Q hK=>?_⟩;obtain⟨dst,op,ty,pos,after,guard⟩:=o;simp only[]at hd hx hI;cases op<;>try (simp only[HZ]at hx;cases hx;done)
 rename_i bop t x y ty2;cases y<;>try (simp only[HZ]at hx;cases hx;done)
 rename_i c;cases c<;>simp only[HZ]at hx<;>try (cases hx;done)
 split at hx<;>try (cases hx;done)
 rename_i ti u' hti hu;split at hx<;>try (cases hx;done)
 rename_i hk;obtain⟨info,dd,z,hok⟩:=hT t ti hti;obtain⟨ms,hms⟩:=hok.OV hk;have hu:=(cZ hT hI (fun t ht=>by subst ht;simp[an]) hu).1
 have hg: ∀bop,(eqGuard bop t x (.const .nilIface) (a.eval x) .nilIface).run P w= .ok () w:=fun bop=>by rw[hu];unfold eqGuard;cases bop<;>simp<;>(cases u'<;>simp_all [lF])
 split at hx<;>simp at hx
 ·obtain⟨rfl,rfl⟩:=hx;refine bh (v:=.bool (zp u'==true)) (w':=w) ?_<|hK _ w O (dG.refl hI.lt) (.v rfl);simp only[execOp,eval_const,az,hg,am];rw[hu,zF hms hi];simp
 ·obtain⟨rfl,rfl⟩:=hx;refine bh (v:=.bool (zp u'==false)) (w':=w) ?_<|hK _ w O (dG.refl hI.lt) (.v rfl);simp only[execOp,eval_const,az,hg,am];rw[hu,zw hms hi];simp
def PA(T:Ty)(lk:Nat→Option AV):Op→Option (Nat×Value)
 | .typeAssert x _ t true=>match T.get t,lr (dO T (ex T lk 0 x))with
   |some ti,some u=>match ap ti.kind 2 with
    |true=>some (t,u)
    |false=>none
   |_,_=>none
 |_=>none
theorem aM.ta(hT:bB P T){k:IntKind}{z:Int}(hd:o.dst=some d)(hn:hm d=none)(hx:PA T lk o.op=some (t,.iface t (.int k z))):aM P B F0 w0 d o lk hm (.d (.tu [.v (.int k z),.v (.bool true)])):=by
 refine⟨hd,hn,fun a w O hI K Q hK=>?_⟩;obtain⟨dst,op,ty,pos,after,guard⟩:=o;simp only[]at hd hx hI;cases op<;>try (simp only[PA]at hx;cases hx;done)
 rename_i x xt t' ok;cases ok<;>simp only[PA]at hx<;>try (cases hx;done)
 split at hx<;>try (cases hx;done)
 rename_i ti u hti hu;split at hx<;>simp at hx;rename_i hk;obtain⟨rfl,rfl⟩:=hx;obtain⟨info,dd,zz,hok⟩:=hT t' ti hti;have hu:=(cZ hT hI (fun t ht=>by subst ht;simp[an]) hu).1;refine bh (v:=.tuple #[.int k z,.bool true]) (w':=w) ?_<|hK _ w O (dG.refl hI.lt) ?_
 ·simp[execOp,Instr.typeAssert,run_underlying (hok.MB hk),hu]
 ·refine Rd.tu (vs:=[.int k z,.bool true]) rfl (fun i d' u h1 h2=>?_)
  match i with
  |0=>simp at h1 h2;subst h1;subst h2;exact .v rfl
  |1=>simp at h1 h2;subst h1;subst h2;exact .v rfl
  |i+2=>simp at h1
def Qk(T:Ty)(lk:Nat→Option AV):Op→Option (Bool×Bool×Bool)
 | .binOp op t x y _=>match T.get t,lr (dO T (ex T lk 0 x)),lr (dO T (ex T lk 0 y))with
   |some ti,some (.bool a),some (.bool b)=>match ap ti.kind 1 with
    |true=>match op with
     | .eql=>some (true,a,b)
     | .neq=>some (false,a,b)
     |_=>none
    |false=>none
   |_,_,_=>none
 |_=>none
theorem kJ.OW{d:TypeDesc}{z:Value}(h:kJ P t i info d z)(hk:ap i.kind 1=true):P.underlying t=some .bool:=by have hk:=aa hk;have hd:=h.desc;have hu:=h.und;cases d<;>simp[mr,hk]at hd;exact hu
theorem B4{w:World}{t:TypeId}(hi:P.underlying t=some .bool)(k:Nat){x y:Bool}:(gx (k+1) t (.bool x) (.bool y)).run P w= .ok (x==y) w:=by simp[gx,run_underlying hi]
theorem yb{w:World}{t:TypeId}(hi:P.underlying t=some .bool){x y:Bool}:(e9 t (.bool x) (.bool y)).run P w= .ok (x==y) w:=B4 hi 9999
theorem yI{w:World}{t:TypeId}(hi:P.underlying t=some .bool){x y:Bool}:(d4 .eql t (.bool x) (.bool y)).run P w= .ok (.bool (x==y)) w:=by have:d4 .eql t (.bool x) (.bool y)=(do pure (.bool (←e9 t (.bool x) (.bool y))):Sem Value):=rfl;rw[this];simp only[az,yb hi,am,bn]
theorem yH{w:World}{t:TypeId}(hi:P.underlying t=some .bool){x y:Bool}:(d4 .neq t (.bool x) (.bool y)).run P w= .ok (.bool (!(x==y))) w:=by have:d4 .neq t (.bool x) (.bool y)=(do pure (.bool (!(←e9 t (.bool x) (.bool y)))):Sem Value):=rfl;rw[this];simp only[az,yb hi,am,bn]
theorem aM.be(hT:bB P T){x y:Bool}(hd:o.dst=some d)(hn:hm d=none)(hx:Qk T lk o.op=some (q,x,y)):aM P B F0 w0 d o lk hm (.d (.v (.bool ((x==y)==q)))):=by
 refine⟨hd,hn,fun a w O hI K Q hK=>?_⟩;obtain⟨dst,op,ty,pos,after,guard⟩:=o;simp only[]at hd hx hI;cases op<;>simp only[Qk]at hx<;>try (cases hx;done)
 rename_i bop t u v ty2;split at hx<;>try (cases hx;done)
 rename_i ti a1 b1 hti hu hv;split at hx<;>try (cases hx;done)
 rename_i hk;obtain⟨info,dd,z,hok⟩:=hT t ti hti;have hb:=hok.OW hk;have hu:=(cZ hT hI (fun t ht=>by subst ht;simp[an]) hu).1;have hv:=(cZ hT hI (fun t ht=>by subst ht;simp[an]) hv).1;have hg:(eqGuard bop t u v (a.eval u) (a.eval v)).run P w= .ok () w:=po (.inl (by rw[hu];simp)) (by rw[hu];simp);split at hx<;>simp at hx
 ·obtain⟨rfl,rfl,rfl⟩:=hx;refine bh (v:=.bool ((a1==b1)==true)) (w':=w) ?_<|hK _ w O (dG.refl hI.lt) (.v rfl);simp only[execOp,az,hg,am];rw[hu,hv,yI hb];simp
 ·obtain⟨rfl,rfl,rfl⟩:=hx;refine bh (v:=.bool ((a1==b1)==false)) (w':=w) ?_<|hK _ w O (dG.refl hI.lt) (.v rfl);simp only[execOp,az,hg,am];rw[hu,hv,yH hb];cases a1<;>cases b1<;>rfl
theorem vb{s:Nat}: ∀{l:List D} {i:Nat} {new:D} (j:Nat),(∀x,x∈l→x.flat.length=s)→i<l.length→new.flat.length=s →
  (flatAll (l.set i new))[j]?=if i*s≤j∧j<i*s+s then new.flat[j-i*s]? else(flatAll l)[j]?
 |[],i,new,j,_,h,_=>by simp at h
 |x::l,0,new,j,hu,h,hn=>by have hx:=hu x (by simp);simp only[List.set_cons_zero,flatAll,cw,dn,cb,true_and,dr,hG];rw[a3,a3,hn,hx];split<;>rfl
 |x::l,i+1,new,j,hu,h,hn=>by
  have hx:=hu x (by simp);have ih:=vb (l:=l) (i:=i) (new:=new) (j-s) (fun y hy=>hu y (by simp[hy])) (by simpa using h) hn;simp only[List.set_cons_succ,flatAll,cw]at ih ⊢;rw[a3,a3,hx];by_cases hj:j<s
  ·rw[if_pos hj,if_pos hj,if_neg (by rw[c7];omega)]
  ·rw[if_neg hj,if_neg hj,ih,c7];by_cases hc:i*s≤j-s∧j-s<i*s+s
   ·rw[if_pos hc,if_pos (by omega)]
    congr 1
    omega
   ·rw[if_neg hc,if_neg (by omega)]
def oW(old y:D)(off:Nat):D:=match old with
 | .ag cs=>.ag (cs.take off++y.flat++cs.drop (off+y.flat.length))
 | .v _=>y
 | .sl _ _=>y
 | .tu _=>y
 | .pr _=>y
 | .fn _ _ _=>y
def zo(old y:D)(off:Nat):Bool:=match old with
 | .ag cs=>b0 (off+y.flat.length) cs.length
 | .v _=>ap off 0&&y.ba
 | .sl _ _=>ap off 0&&y.ba
 | .tu _=>false
 | .pr _=>ap off 0&&y.ba
 | .fn _ _ _=>ap off 0&&y.ba
def Gf(T:Ty)(σ:St):Op→Option (Nat×AV×List D×Nat×Nat×D)
 | .store t p x=>match T.get t,ex T σ.get 0 p,dO T (ex T σ.get t x)with
   |some ti,some (.el h i off),some y=>match σ.get h with
    |some x=>match x.row with
     |some (_,l)=>match xL y,ap y.flat.length ti.size with
      |true,true=>some (h,x,l,i,off,y)
      |_,_=>none
     |none=>none
    |none=>none
   |_,_,_=>none
 |_=>none
def AV.dC(l:List D):AV→AV
 | .ow e _=>.ow e l
 | .wn q e _ lo m=>.wn q e l lo m
 | .d _=>.junk
 | .bx _=>.junk
 | .pt _ _=>.junk
 | .rf _=>.junk
 | .e0 _=>.junk
 | .al _=>.junk
 | .el _ _ _=>.junk
 | .sb _ _ _=>.junk
 | .un=>.junk
 | .junk=>.junk
theorem eI{x:AV}(h:x.row=some (e,l)):(x.dC l').row=some (e,l')∧(x.dC l').home=true∧(x.dC l').tag=x.tag:=by
 cases x<;>simp_all [AV.row,AV.dC,AV.home,AV.tag]
theorem pQ{w:World}{len:Nat}{x:AV}
  (h:fo P X w O F hm tm t x (.slice (some ⟨b,o1,none⟩) len cap)) (hrow:x.row=some (e,l)) (hb:w.heap[b]?=some (.cells cs e (0,0))) (hb':w'.heap[b]?=some (.cells cs' e (0,0))) (hs:cs'.size=cs.size) (hl:l'.length=l.length) (hl0:l≠[])
  (hu: ∀y,y∈l'→y.flat.length=P.cellsOf e) (hc: ∀(i:Nat) (d:D),(flatAll l')[i]?=some d→d.ba=true∧ ∃u,cs'[i]?=some u∧Rd w' (aQ O F') d u):fo P X w' O F' hm' tm t (x.dC l') (.slice (some ⟨b,o1,none⟩) len cap):=by
 cases x<;>simp[AV.row]at hrow
 ·obtain⟨rfl,rfl⟩:=hrow;rcases h with⟨base,h1,h2⟩|⟨b',cap',cs2,h1,h2,h3,h4,h5,h6,h7,h8⟩
  ·exact absurd h2 hl0
  ·simp at h1;obtain⟨⟨rfl,rfl⟩,rfl,rfl⟩:=h1;rw[hb]at h3;simp at h3;subst h3;exact .inr ⟨_,_,_,by rw[hl],h2,hb',by omega,h5,by omega,hu,hc⟩
 ·obtain⟨rfl,rfl⟩:=hrow;rcases h with⟨hq,base,h1,h3,h4⟩|⟨b',o',cap',cs2,hq,h1,h0,h2,h3,h4,h5,h6,h7,h8⟩
  ·exact absurd h3 hl0
  simp at h1;obtain⟨⟨rfl,rfl⟩,rfl,rfl⟩:=h1;rw[hb]at h3;simp at h3;subst h3;exact .inr ⟨_,_,_,_,hq,rfl,by rw[hs];exact h0,h2,hb',by omega,h5,h6,hu,hc⟩
theorem E5(h:zo old y off=true)(hnt:xL y=true): ∀(s:Nat),old.flat.length=s→(oW old y off).flat.length=s∧off+y.flat.length≤s ∧
  ∀j,(oW old y off).flat[j]?=if off≤j∧j<off+y.flat.length then y.flat[j-off]? else old.flat[j]?:=by
 intro s hs;cases old with
 |ag cs =>
  have hle:=ax h;have e1:(oW (.ag cs) y off).flat=cs.take off++y.flat++cs.drop (off+y.flat.length):=rfl;have e2:(D.ag cs).flat=cs:=rfl;rw[e1,e2];rw[e2]at hs;generalize y.flat=yf at hle;refine⟨by simp only[co,cm,dT];omega,by omega,fun j=>?_⟩;rw[cN,a3,cm,show min off cs.length=off by omega];by_cases hj:j<off
  ·rw[if_pos hj,if_neg (by omega),bi,if_pos hj]
  ·rw[if_neg hj,a3];by_cases hj2:j-off<yf.length
   ·rw[if_pos hj2,if_pos (by omega)]
   ·rw[if_neg hj2,if_neg (by omega),bv]
    congr 1
    omega
 |v x =>
  simp only[zo,cd]at h;have h0:=aa h.1;subst h0;have hy:=D.mS h.2;have e1:(oW (D.v x) y 0).flat=[y]:=hy;have e2:(D.v x:D).flat=[D.v x]:=rfl;rw[e1,e2,hy];rw[e2]at hs;refine⟨by simpa using hs,by simp at hs ⊢; omega,fun j=>?_⟩;cases j with
  |zero=>simp
  |succ j=>simp
 |sl k l =>
  simp only[zo,cd]at h;have h0:=aa h.1;subst h0;have hy:=D.mS h.2;have e1:(oW (D.sl k l) y 0).flat=[y]:=hy;have e2:(D.sl k l:D).flat=[D.sl k l]:=rfl;rw[e1,e2,hy];rw[e2]at hs;refine⟨by simpa using hs,by simp at hs ⊢; omega,fun j=>?_⟩;cases j with
  |zero=>simp
  |succ j=>simp
 |tu l=>simp[zo]at h
 |pr l =>
  simp only[zo,cd]at h;have h0:=aa h.1;subst h0;have hy:=D.mS h.2;have e1:(oW (D.pr l) y 0).flat=[y]:=hy;have e2:(D.pr l:D).flat=[D.pr l]:=rfl;rw[e1,e2,hy];rw[e2]at hs;refine⟨by simpa using hs,by simp at hs ⊢; omega,fun j=>?_⟩;cases j with
  |zero=>simp
  |succ j=>simp
 |fn k x1 x2 =>
  simp only[zo,cd]at h;have h0:=aa h.1;subst h0;have hy:=D.mS h.2;have e1:(oW (D.fn k x1 x2) y 0).flat=[y]:=hy;have e2:(D.fn k x1 x2:D).flat=[D.fn k x1 x2]:=rfl;rw[e1,e2,hy];rw[e2]at hs;refine⟨by simpa using hs,by simp at hs ⊢; omega,fun j=>?_⟩;cases j with
  |zero=>simp
  |succ j=>simp
theorem eS.lR(hT:bB P T){i:Nat}{xh:AV}(hd:o.dst=none)(hx:Gf T σ o.op=some (h,xh,l,i,off,y))(hold:l[i]?=some old)(hok:zo old y off=true):
  eS P B F0 w0 n o σ ((h,xh.dC (l.set i (oW old y off)))::σ):=by
 intro a w hR K Q hK;obtain⟨O,hOr,hO⟩:=hR.own;have hI:Inv P B F0 w0 (fun _=>True) σ.get σ.get a w O:=⟨hR.below,hR.base,hR.f0,hOr,fun t _ av h=>hO t av h,fun t av h _=>hO t av h⟩;obtain⟨dst,op,ty,pos,after,guard⟩:=o;simp only[]at hd hx;subst hd;cases op<;>simp only[Gf]at hx<;>try (cases hx;done)
 rename_i t p x;split at hx<;>try (cases hx;done)
 rename_i ti h' i' off' y' hti hp hxy;split at hx<;>try (cases hx;done)
 rename_i xx hh;split at hx<;>try (cases hx;done)
 rename_i e' l' hrow;split at hx<;>simp at hx;rename_i hnt hsz;obtain⟨rfl,rfl,rfl,rfl,rfl,rfl⟩:=hx;have hsz:=aa hsz;obtain⟨info,dd,z,hti'⟩:=hT t ti hti;have hpv:=(aZ hI (fun _ _=>trivial) hp 0).1;have hyv:=eO hT hI (fun _ _=>trivial) hxy;obtain⟨b,cs,o1,len,cap,hpe,hth,hOb,hb,hu,hcc,hcell⟩:=DW hI hh hrow hpv hold;have hyc:=hyv.cells (sS hnt);have hvs:(a.eval x).cells.size=y'.flat.length:=by have:=hyc.1;simpa using this
 have hold':=hu old (b3 hold);obtain⟨n1,n2,n3⟩:=E5 hok hnt _ hold';have hil:i'<l'.length:=(ab.1 hold).1
 have hcsl:l'.length*P.cellsOf e'≤cs.size:=by
  rw[←aR hu];rcases cg (flatAll l').length with h0|h0
  ·omega
  ·obtain⟨_,u,f2,_⟩:=hcc ((flatAll l').length-1) _ (a2 (by omega));have:=(cT.1 f2).1;omega
 have hfit:i'*P.cellsOf e'+off'+y'.flat.length≤cs.size:=by have:(i'+1)*P.cellsOf e'≤l'.length*P.cellsOf e':=ey _ (by omega);rw[c7]at this;omega
 have hrun:=np hti' hb (v:=a.eval x) (off:=i'*P.cellsOf e'+off') (by omega) (by omega) hyc.yC;refine wI (w':=w.setRow b (cs.toList.take (i'*P.cellsOf e'+off')++(a.eval x).cells.toList++cs.toList.drop (i'*P.cellsOf e'+off'+(a.eval x).cells.size)).toArray) ?_ ?_
 ·simp[execOp,i3,ea,hpe,hrun]
 ·rw[xA]
  have hss:(cs.toList.take (i'*P.cellsOf e'+off')++(a.eval x).cells.toList++cs.toList.drop (i'*P.cellsOf e'+off'+(a.eval x).cells.size)).toArray.size=cs.size:=by simp only[cv,co,cm,dT,ce,hvs];omega
  refine hK _ _<|Rel.write hb hss hR hOr hO hh hOb (.inr ⟨_,_,_,hrow,(eI hrow).1,by simp,(eI hrow).2.2.symm⟩) (fun v hv hr=>?_) (eI hrow).2.1;rw[hth]at hv;simp at hv;subst hv;refine pQ hr hrow hb (setRow_heap w b cs _ e' _ hb) ?_ (by simp) (fun h0=>by subst h0;simp at hil) (fun x hx=>?_) fun j dd hj=>?_
  ·simp only[cv,co,cm,dT,ce,hvs];omega
  ·rcases List.mem_or_eq_of_mem_set hx with h|rfl
   ·exact hu x h
   ·exact n1
  ·have hB: ∀c,aQ O (FW B F0 w) c→(w.setRow b ((cs.toList.take (i'*P.cellsOf e'+off')++(a.eval x).cells.toList++cs.toList.drop (i'*P.cellsOf e'+off'+(a.eval x).cells.size)).toArray)).heap[c]?=w.heap[c]?:=fun c hc=>setRow_other w b c _ (fun e=>by rw[e,aQ,hOb]at hc;cases hc.1);rw[vb j hu hil n1]at hj
   have hcget:((cs.toList.take (i'*P.cellsOf e'+off')++(a.eval x).cells.toList++cs.toList.drop (i'*P.cellsOf e'+off'+(a.eval x).cells.size)).toArray)[j]? =
     if i'*P.cellsOf e'+off'≤j∧j<i'*P.cellsOf e'+off'+y'.flat.length then(a.eval x).cells[j-(i'*P.cellsOf e'+off')]? else cs[j]?:=by
    simp only[hL,cN,a3,cm,ce,bi,cp,bv,hvs];rw[show min (i'*P.cellsOf e'+off') cs.size=i'*P.cellsOf e'+off' by omega];by_cases h1:j<i'*P.cellsOf e'+off'
    ·rw[if_pos h1,if_pos h1,if_neg (by omega)]
    ·rw[if_neg h1];by_cases h2:j-(i'*P.cellsOf e'+off')<y'.flat.length
     ·rw[if_pos h2,if_pos (by omega)]
     ·rw[if_neg h2,if_neg (by omega)]
      congr 1
      omega
   rw[hcget];by_cases hin:i'*P.cellsOf e'≤j∧j<i'*P.cellsOf e'+P.cellsOf e'
   ·rw[if_pos hin,n3]at hj;by_cases hin2:off'≤j-i'*P.cellsOf e'∧j-i'*P.cellsOf e'<off'+y'.flat.length
    ·rw[if_pos hin2]at hj;rw[if_pos (by omega)];obtain⟨f1,u,f2,f3⟩:=hyc.get hj;refine⟨f1,u,?_,f3.mono (fun _ h=>h) hB⟩;rw[←f2];simp only[cp]
     congr 1
     omega
    ·rw[if_neg hin2]at hj;rw[if_neg (by omega)];have:=de (j-i'*P.cellsOf e') hu hold (by omega);rw[hj,show i'*P.cellsOf e'+(j-i'*P.cellsOf e')=j by omega]at this;obtain⟨f1,u,f2,f3⟩:=hcc j dd this;exact⟨f1,u,f2,f3.mono (fun _ h=>h) hB⟩
   ·rw[if_neg hin]at hj;rw[if_neg (by omega)];obtain⟨f1,u,f2,f3⟩:=hcc j dd hj;exact⟨f1,u,f2,f3.mono (fun _ h=>h) hB⟩
def AV.iu(t:Nat)(x:D):AV→AV
 | .al h=>match ap h t with
   |true=>.d x
   |false=>.al h
 | .el h i o=>match ap h t with
   |true=>.junk
   |false=>.el h i o
 | .pt h o=>.pt h o
 | .d y=>.d y
 | .bx cs=>.bx cs
 | .rf cs=>.rf cs
 | .e0 e=>.e0 e
 | .ow e l=>.ow e l
 | .wn q e l lo m=>.wn q e l lo m
 | .sb h lo m=>match ap h t with
   |true=>.junk
   |false=>.sb h lo m
 | .un=>.un
 | .junk=>.junk
def St.iu(t:Nat)(x:D):St→St
 |[]=>[]
 |(k,a)::r=>match ap k t with
  |true=>(k,.d x)::St.iu t x r
  |false=>(k,a.iu t x)::St.iu t x r
theorem GQ(t:Nat)(x:D)(σ:St)(k:Nat):(σ.iu t x).get k=if k=t then(σ.get k).map (fun _=>AV.d x)else(σ.get k).map (AV.iu t x):=by
 induction σ with
 |nil=>simp[St.iu,St.get]
 |cons e r ih =>
  obtain⟨m,a⟩:=e;simp only[St.iu];split
  ·rename_i hb;have hb:=aa hb;subst hb;simp only[St.aL,ih];by_cases hk:m=k
   ·subst hk;simp
   ·simp[hk,ct hk]
  ·rename_i hb;have hb:=b8 hb;simp only[St.aL,ih];by_cases hk:m=k
   ·subst hk;simp[hb]
   ·simp[hk]
theorem Rel.O6{a:Act}{w:World}{x0:AV}{dx:D}(hR:Rel P B F0 w0 n σ a w)(ht:σ.get t=some x0)(hrow:x0.row.isSome=true)
  (hdatG: ∀(O:Nat→Option Nat) (v:Value),(∀b t,O b=some t→kS B w0 w b)→fo P w0.X w O (FW B F0 w) σ.get (fun h=>a.tmps[h]?) t x0 v→Rd w (aQ (fun c=>if O c=some t then none else O c) (FW B F0 w)) dx v):Rel P B F0 w0 n (σ.iu t dx) a w:=by
 obtain⟨O,hOr,hO⟩:=hR.own
 let O':Nat→Option Nat:=fun c=>if O c=some t then none else O c
 have hfree: ∀c,aQ O (FW B F0 w) c→aQ O' (FW B F0 w) c:=fun c hc=>⟨by simp only[O'];rw[hc.1];simp,hc.2⟩;have hdat: ∀v,fo P w0.X w O (FW B F0 w) σ.get (fun h=>a.tmps[h]?) t x0 v→Rd w (aQ O' (FW B F0 w)) dx v:=fun v hv=>hdatG O v hOr hv;refine⟨hR.below,hR.base,hR.f0,hR.defers,hR.size,O',fun b k hk=>?_,fun k av hk=>?_⟩
 ·simp only[O']at hk;split at hk
  ·cases hk
  ·exact hOr b k hk
 rw[GQ]at hk;split at hk
 ·rename_i hkt;subst hkt;rw[ht]at hk;simp at hk;subst hk;obtain⟨v,hv,hr⟩:=hO k _ ht;exact⟨v,hv,hdat v hr⟩
 ·rename_i hkt;cases hs:σ.get k with
  |none=>simp[hs]at hk
  |some y =>
   simp only[hs,bz,ca]at hk;subst hk;obtain⟨v,hv,hr⟩:=hO k y hs;refine⟨v,hv,?_⟩
   have hhm: ∀j x,x.home=true→St.get (σ.iu t dx) j=some x→σ.get j=some x:=fun j x hx hj=>by
    rw[GQ]at hj;split at hj
    ·cases hsj:σ.get j with
     |none=>simp[hsj]at hj
     |some z=>simp[hsj]at hj;subst hj;simp[AV.home]at hx
    ·cases hsj:σ.get j with
     |none=>simp[hsj]at hj
     |some z =>
      simp only[hsj,bz,ca]at hj;subst hj;cases z<;>simp only[AV.iu]at hx ⊢ <;>(try rfl)<;>(split at hx<;>simp[AV.home]at hx)
   have hmv: ∀{y:AV},fo P w0.X w O (FW B F0 w) σ.get (fun h=>a.tmps[h]?) k y v→fo P w0.X w O' (FW B F0 w) (St.get (σ.iu t dx)) (fun h=>a.tmps[h]?) k y v:=fun {y} hr =>
    hr.move (fun c hc=>⟨hfree c hc,rfl⟩) (fun _ c hc=>⟨by simp only[O',hc];rw[if_neg (by simpa using hkt)],rfl⟩) (fun j _ x hx hj=>⟨hhm j x hx hj,rfl⟩)
   cases y with
   |al h =>
    simp only[AV.iu];split
    ·rename_i hb;have hb:=aa hb;subst hb;obtain⟨u,hu,hur⟩:=hO h _ ht;have:=hr _ ht hrow;simp only[hu]at this;simp at this;subst this;exact hdat _ hur
    ·exact hmv hr
   |el h i off =>
    simp only[AV.iu];split
    ·trivial
    ·exact hmv hr
   |sb h i off =>
    simp only[AV.iu];split
    ·trivial
    ·exact hmv hr
   |_=>exact hmv hr
theorem Ar: ∀c,aQ O F c→aQ (fun c=>if O c=some t then none else O c) F c:=fun c hc=>⟨by simp only[];rw[hc.1];simp,hc.2⟩
theorem Rel.iu(hT:bB P T){a:Act}{w:World}(hR:Rel P B F0 w0 n σ a w)(ht:σ.get t=some (.ow e l))(he:T.get e=some te):Rel P B F0 w0 n (σ.iu t (.sl te.size l)) a w:=by
 obtain⟨info,dd,z,hok⟩:=hT e te he;refine hR.O6 ht rfl fun O v hOr hv=>?_;rcases hv with⟨base,rfl,rfl⟩|⟨b,cap,cs,rfl,h2,h3,h4,h5,h6,h7,h8⟩
 ·exact .nil (cb _)
 ·rw[hok.cellsOf]at h7;refine .nV (off:=0) ⟨by simp[h2],(hOr b t h2).fw hR.f0⟩ h3 h4 h5 h7 fun i d hd=>?_;obtain⟨f1,u,f2,f3⟩:=h8 i d hd;exact⟨f1,u,by simpa using f2,f3.mono Ar (fun _ _=>rfl)⟩
theorem Rel.HX(hT:bB P T){a:Act}{w:World}(hR:Rel P B F0 w0 n σ a w)(ht:σ.get t=some (.wn q e l lo m))(he:T.get e=some te):Rel P B F0 w0 n (σ.iu t (.sl te.size ((l.drop lo).take m))) a w:=by
 obtain⟨info,dd,z,hok⟩:=hT e te he;refine hR.O6 ht rfl fun O v hOr hv=>?_;rcases hv with⟨_,base,rfl,rfl,rfl,rfl⟩|⟨b,o,cap,cs,_,rfl,⟨h1,_⟩,h2,h3,h4,h5,h6,h7,h8⟩
 ·exact .nil (cb _)
 ·rw[hok.cellsOf]at h1 h7;have hlen:((l.drop lo).take m).length=m:=by simp;omega
  have key:=Rd.nV (s:=te.size) (l:=(l.drop lo).take m) (off:=lo*te.size) (cap:=cap) (b:=b) (w:=w) (F:=aQ (fun c=>if O c=some t then none else O c) (FW B F0 w)) ⟨by simp[h2],(hOr b t h2).fw hR.f0⟩ h3 (by omega) h6 (fun x hx=>h7 x (ci (ch hx))) (fun i d hd=>by
   obtain⟨f1,u,f2,f3⟩:=h8 _ d (kn h7 lo m i hd)
   exact⟨f1,u,f2,f3.mono Ar (fun _ _=>rfl)⟩)
  rcases cg m with hm|hm
  ·subst hm;simp only[dl];exact .nil h6
  ·rcases h1 with h1|h1
   ·omega
   ·rw[hlen]at key;subst h1;exact key
section
variable {all:Array Oper} {l:List Oper} {c:Code}
def aJ(all:Array Oper)(σ:St)(o:Oper):Bool:=match o.guard with
 |none=>true
 |some (g,b)=>match kl all σ g with
  |some b'=>b'==b
  |none=>false
theorem ae.op(hg:aJ all σ o=true)(ho:eS P B F0 w0 n o σ σ')(h:ae P B F0 w0 n all rest K σ'):ae P B F0 w0 n all (o::rest) K σ:=by
 unfold aJ at hg;split at hg
 ·rename_i hgd;exact ae.step hgd ho h
 ·rename_i g b hgd;split at hg
  ·rename_i b' hb';obtain⟨og,t,h1,h2,h3⟩:=l3 hb';have:b'=b:=by simpa using hg
   subst this;exact ae.JN hgd h1 h2 h3 ho h
  ·cases hg
theorem ae.pure(hg:aJ all σ o=true)(hdn:b0 (d+1) n=true)(ho:aM P B F0 w0 d o σ.get (kt σ d) av)(h:ae P B F0 w0 n all rest K (σ.put d av)):ae P B F0 w0 n all (o::rest) K σ :=
 ae.op hg (eS.Bv ho (ax hdn)) h
theorem ae.idx(hT:bB P T)(e:D)(hd:o.dst=some d)(hdn:b0 (d+1) n=true)(hg:aJ all σ o=true)(hx:LU T σ.get o.op=some (xs,iv))(h0:0≤iv)(he:xs[iv.toNat]?=some e)
  (h:ae P B F0 w0 n all rest K ((d,.rf e.flat)::σ)):ae P B F0 w0 n all (o::rest) K σ:=ae.pure hg hdn (aM.idx hT hd (bq σ d) hx h0 he) h
theorem ae.gI(hT:bB P T)(hd:o.dst=some d)(hdn:b0 (d+1) n=true)(hg:aJ all σ o=true)(hx:HT T σ.get (kt σ d) o.op=some (k,xs,0,m,iv))(h0:0≤iv)(hl:iv.toNat<m)
  (h:ae P B F0 w0 n all rest K ((d,.el k iv.toNat 0)::σ)):ae P B F0 w0 n all (o::rest) K σ:=ae.pure hg hdn (aM.gI hT hd (bq σ d) hx h0 hl) (by rw[dr];exact h)
theorem ae.qh(hT:bB P T)(hd:o.dst=some d)(hdn:b0 (d+1) n=true)(hg:aJ all σ o=true)(hx:HT T σ.get (kt σ d) o.op=some (k,xs,lo,m,iv))(h0:0≤iv)(hl:iv.toNat<m)
  (h:ae P B F0 w0 n all rest K ((d,.el k (lo+iv.toNat) 0)::σ)):ae P B F0 w0 n all (o::rest) K σ:=ae.pure hg hdn (aM.gI hT hd (bq σ d) hx h0 hl) h
theorem ae.dE(hT:bB P T){i:Nat}{x:D}(y:D)(hd:o.dst=some d)(hdn:b0 (d+1) n=true)(hg:aJ all σ o=true)(hx:PI T σ.get (kt σ d) o.op=some (ti,xs,i,off))(hy:xs[i]?=some y)(hav:jA ti (y.flat.drop off)=some (.d x))
  (h:ae P B F0 w0 n all rest K ((d,.d x)::σ)):ae P B F0 w0 n all (o::rest) K σ:=ae.pure hg hdn (aM.dE hT hd (bq σ d) hx hy hav) h
theorem ae.lR(hT:bB P T){i:Nat}(old:D)(hd:o.dst=none)(hg:aJ all σ o=true)(hx:Gf T σ o.op=some (k,.ow e xs,xs,i,off,y))(hold:xs[i]?=some old)(hok:zo old y off=true)
  (h:ae P B F0 w0 n all rest K ((k,.ow e (xs.set i (oW old y off)))::σ)):ae P B F0 w0 n all (o::rest) K σ:=ae.op hg (eS.lR hT hd hx hold hok) h
theorem ae.La(hT:bB P T){i:Nat}(old:D)(hd:o.dst=none)(hg:aJ all σ o=true)(hx:Gf T σ o.op=some (k,.wn q e xs lo m,xs,i,off,y))(hold:xs[i]?=some old)(hok:zo old y off=true)
  (h:ae P B F0 w0 n all rest K ((k,.wn q e (xs.set i (oW old y off)) lo m)::σ)):ae P B F0 w0 n all (o::rest) K σ:=ae.op hg (eS.lR hT hd hx hold hok) h
theorem ae.zT(hT:bB P T){s:ByteArray}(hd:o.dst=some d)(hdn:b0 (d+1) n=true)(hg:aJ all σ o=true)(hx:K9 T σ.get o.op=some (s,iv))(h0:0≤iv)(hl:iv.toNat<s.size)
  (h:ae P B F0 w0 n all rest K ((d,.d (.v (.int .u8 ((s.data.toList.getD iv.toNat 0).toNat:Int))))::σ)):ae P B F0 w0 n all (o::rest) K σ:=ae.pure hg hdn (aM.zT hT hd (bq σ d) hx h0 hl) h
theorem ae.CK(hT:bB P T){s:Nat}{lo hi:Option Int}(hd:o.dst=some d)(hdn:b0 (d+1) n=true)(hg:aJ all σ o=true)(hx:Hy T σ.get o.op=some (.sl s xs,lo,hi))(g1:okB lo)(g2:okB hi)(g3:gA lo≤dm xs.length hi)(g4:dm xs.length hi≤xs.length)
  (h:ae P B F0 w0 n all rest K ((d,.d (.sl s ((xs.take (dm xs.length hi)).drop (gA lo))))::σ)):ae P B F0 w0 n all (o::rest) K σ:=ae.pure hg hdn (aM.CK hT hd (bq σ d) hx g1 g2 g3 g4) h
theorem ae.call(hT:bB P T)(hd:o.dst=some d)(hdn:b0 (d+1) n=true)(hg:aJ all σ o=true)(hx:vj T σ.get o.op=some (f,ds))(hP:Pure P f ds res)
  (h:ae P B F0 w0 n all rest K ((d,.d res)::σ)):ae P B F0 w0 n all (o::rest) K σ:=ae.pure hg hdn (aM.call hT hd (bq σ d) hx hP) h
theorem ae.calls(hT:bB P T)(hd:o.dst=some d)(hdn:b0 (d+1) n=true)(hg:aJ all σ o=true)(hx:yE T σ.get (kt σ d) o.op=some (f,ds))(hP:Pure P f ds res)(hs:iV res=true)
  (h:ae P B F0 w0 n all rest K ((d,.d res)::σ)):ae P B F0 w0 n all (o::rest) K σ:=ae.pure hg hdn (aM.calls hT hd (bq σ d) hx hs hP) h
theorem ae.make(hT:bB P T){m:Int}(hd:o.dst=some d)(hdn:b0 (d+1) n=true)(hg:aJ all σ o=true)(hx:Oi T σ.get o.op=some (e,te,m))(hz:nc te=true)(h0:0≤m)(hb:(te.bytes:Int)*m≤281474976710656)(hm63:m≤9223372036854775807)
  (h:ae P B F0 w0 n all rest K ((d,.ow e (eu m.toNat (wG te)))::σ.kill d)):ae P B F0 w0 n all (o::rest) K σ:=ae.pure hg hdn (aM.make hT hd (bq σ d) hx hz h0 hb hm63) h
theorem ae.Ch(hT:bB P T)(hd:o.dst=some d)(hdn:b0 (d+1) n=true)(hg:aJ all σ o=true)(hx:N6 T σ.get (kt σ d) o.op=some (e,te,xs))(hlen:xs.length*te.bytes≤140737488355328)
  (h:ae P B F0 w0 n all rest K ((d,.ow e xs)::σ.kill d)):ae P B F0 w0 n all (o::rest) K σ:=ae.pure hg hdn (aM.Ch hT hd (bq σ d) hx hlen) h
theorem ae.pB(hT:bB P T)(hd:o.dst=some d)(hdn:b0 (d+1) n=true)(hg:aJ all σ o=true)(hx:N6 T σ.get (kt σ d) o.op=some (e,te,xs))(hlen:xs.length*te.bytes≤140737488355328)
  (h:ae P B F0 w0 n all rest K ((d,.d (.sl te.size xs))::σ)):ae P B F0 w0 n all (o::rest) K σ:=ae.pure hg hdn (aM.pB hT hd (bq σ d) hx hlen) h
theorem ae.ku(hT:bB P T)(hd:o.dst=some d)(hdn:b0 (d+1) n=true)(hg:aJ all σ o=true)(hx:NX T σ.get o.op=some (e,xs))(hte:T.get e=some te)
  (h:ae P B F0 w0 n all rest K ((d,.d (.sl te.size xs))::σ)):ae P B F0 w0 n all (o::rest) K σ:=ae.pure hg hdn (aM.ku hT hte hd (bq σ d) hx) h
theorem ae.jw(hT:bB P T){ys:List D}(hd:o.dst=some d)(hdn:b0 (d+1) n=true)(hg:aJ all σ o=true)(hx:N5 T σ o.op=some (k,e,te,xs,ys))(hne:ap k d=false)(hz:nc te=true)(hlen:(xs.length+ys.length)*te.bytes≤140737488355328)(h63:xs.length+ys.length≤9223372036854775807)
  (h:ae P B F0 w0 n all rest K ((d,.ow e (xs++ys))::(k,.junk)::σ.kill d)):ae P B F0 w0 n all (o::rest) K σ:=ae.op hg (eS.jw hT hd (ax hdn) hx (b8 hne) hz hlen h63) h
theorem ae.bs(hT:bB P T)(hd:o.dst=some d)(hdn:b0 (d+1) n=true)(hg:aJ all σ o=true)(hx:NX T σ.get o.op=some (e,xs))
  (h:ae P B F0 w0 n all rest K ((d,.ow e xs)::σ.kill d)):ae P B F0 w0 n all (o::rest) K σ:=ae.pure hg hdn (aM.bs hT hd (bq σ d) hx) h
theorem ae.div(hT:bB P T){k:IntKind}{x y:Int}(hd:o.dst=some d)(hdn:b0 (d+1) n=true)(hg:aJ all σ o=true)(hx:L9 T σ.get o.op=some (q,k,x,y))(h0:y≠0)
  (h:ae P B F0 w0 n all rest K ((d,.d (.v (ot q k x y)))::σ)):ae P B F0 w0 n all (o::rest) K σ:=ae.pure hg hdn (aM.div hT hd (bq σ d) hx h0) h
theorem ae.err(hT:bB P T)(hd:o.dst=some d)(hdn:b0 (d+1) n=true)(hg:aJ all σ o=true)(hx:HZ T σ.get o.op=some (q,u))(hi:lF u=true)
  (h:ae P B F0 w0 n all rest K ((d,.d (.v (.bool (zp u==q))))::σ)):ae P B F0 w0 n all (o::rest) K σ:=ae.pure hg hdn (aM.err hT hd (bq σ d) hx hi) h
theorem ae.ta(hT:bB P T){k:IntKind}{z:Int}(hd:o.dst=some d)(hdn:b0 (d+1) n=true)(hg:aJ all σ o=true)(hx:PA T σ.get o.op=some (t,.iface t (.int k z)))
  (h:ae P B F0 w0 n all rest K ((d,.d (.tu [.v (.int k z),.v (.bool true)]))::σ)):ae P B F0 w0 n all (o::rest) K σ:=ae.pure hg hdn (aM.ta hT hd (bq σ d) hx) h
theorem ae.iu(hT:bB P T)(t:Nat)(ht:σ.get t=some (.ow e xs))(he:T.get e=some te)(h:ae P B F0 w0 n all l K (σ.iu t (.sl te.size xs))):ae P B F0 w0 n all l K σ:=fun a w hR=>h a w (hR.iu hT ht he)
theorem ae.HX(hT:bB P T)(t:Nat)(ht:σ.get t=some (.wn q e xs lo m))(he:T.get e=some te)(h:ae P B F0 w0 n all l K (σ.iu t (.sl te.size ((xs.drop lo).take m)))):ae P B F0 w0 n all l K σ:=fun a w hR=>h a w (hR.HX hT ht he)
theorem AW.HX(hT:bB P T)(t:Nat)(ht:σ.get t=some (.wn q e xs lo m))(he:T.get e=some te)(h:AW P B F0 w0 n c Q (σ.iu t (.sl te.size ((xs.drop lo).take m)))):AW P B F0 w0 n c Q σ:=fun a w hR=>h a w (hR.HX hT ht he)
theorem AW.iu(hT:bB P T)(t:Nat)(ht:σ.get t=some (.ow e xs))(he:T.get e=some te)(h:AW P B F0 w0 n c Q (σ.iu t (.sl te.size xs))):AW P B F0 w0 n c Q σ:=fun a w hR=>h a w (hR.iu hT ht he)
end
def rC(d:Nat):List Nat→Bool
 |[]=>false
 |k::r=>match ap k d with
  |true=>true
  |false=>rC d r
theorem fI{d:Nat}: ∀{l:List Nat},rC d l=true↔d∈l
 |[]=>by simp[rC]
 |k::r=>by
  simp only[rC,eB];cases h:ap k d with
  |true=>simp[aa h]
  |false=>simp[fI (l:=r),ct (b8 h)]
def cP(ds:List Nat)(av:AV):Bool:=match av.refs with
 |some h=>match rC h ds with
  |true=>false
  |false=>true
 |none=>true
def AV.u6(ds:List Nat)(av:AV):AV:=match cP ds av with
 |true=>av
 |false=>.junk
def St.less(ds:List Nat):St→St
 |[]=>[]
 |(k,a)::r=>match rC k ds with
  |true=>St.less ds r
  |false=>(k,a.u6 ds)::St.less ds r
theorem s7(ds:List Nat)(σ:St)(t:Nat):(σ.less ds).get t=if t∈ds then none else(σ.get t).map (AV.u6 ds):=by
 induction σ with
 |nil=>simp[St.less,St.get]
 |cons e r ih =>
  obtain⟨k,a⟩:=e;simp only[St.less];split
  ·rename_i h;rw[fI]at h;rw[ih,St.aL];by_cases ht:t∈ds
   ·simp[ht]
   ·rw[if_neg ht,if_neg ht,if_neg (fun (e:k=t)=>ht (e▸h))]
  ·rename_i h;have h:k ∉ ds:=fun h'=>by rw[fI.2 h']at h;cases h
   rw[St.aL,St.aL,ih];by_cases hk:k=t
   ·subst hk;simp[h]
   ·simp[hk]
theorem Fb{ds:List Nat}{a:AV}(h:(a.u6 ds).home=true):a.u6 ds=a:=by
 unfold AV.u6 at h ⊢;split
 ·rfl
 ·rename_i hr;rw[hr]at h;simp[AV.home]at h
section
theorem Rel.less(ds:List Nat){a:Act}{w:World}(hR:Rel P B F0 w0 n σ a w):Rel P B F0 w0 n (σ.less ds) a w:=by
 obtain⟨O,hOr,hO⟩:=hR.own;refine⟨hR.below,hR.base,hR.f0,hR.defers,hR.size,O,hOr,fun t av h=>?_⟩;rw[s7]at h;split at h<;>try (cases h;done)
 cases hs:σ.get t with
 |none=>simp[hs]at h
 |some y =>
  simp only[hs,bz,ca]at h;subst h;obtain⟨v,hv,hr⟩:=hO t y hs;refine⟨v,hv,?_⟩;unfold AV.u6;split
  ·refine hr.move (fun c hc=>⟨hc,rfl⟩) (fun _ c hc=>⟨hc,rfl⟩) (fun k _ x hx hg=>?_);rw[s7]at hg;split at hg<;>try (cases hg;done)
   cases hk:σ.get k with
   |none=>simp[hk]at hg
   |some z =>
    simp only[hk,bz,ca]at hg;subst hg;rw[Fb hx];exact⟨rfl,rfl⟩
  ·trivial
def rM(P:Program)(B:Nat)(F0:Nat→Prop)(w0:dh)(ops:Array Oper)(σ0 τ:St)(o:Oper)(d:Nat)(av:AV):Prop :=
 (aJ ops τ o=true∧aM P B F0 w0 d o τ.get σ0.get av) ∨
 (∃g b,o.guard=some (g,b)∧((∃b',kl ops τ g=some b'∧(b'==b)=false)∨nI ops τ g=true)∧av= .un)
def ai(P:Program)(B:Nat)(F0:Nat→Prop)(w0:dh)(n:Nat)(ops:Array Oper)(ds:List Nat)(σ0:St):List Oper→St→(St→Prop)→Prop
 |[],τ,K=>K τ
 |o::r,τ,K=> ∃d av,o.dst=some d∧d<n∧cP ds av=true∧rM P B F0 w0 ops σ0 τ o d av∧ai P B F0 w0 n ops ds σ0 r ((d,av)::τ) K
def e8(ops:Array Oper)(m:Nat):List Nat:=(ops.toList.take m).filterMap (·.dst)
def setter(ops:Array Oper)(m t:Nat):Option Nat:=(eq m).find? fun i=>match ops[i]? with
 |some o=>o.dst==some t
 |none=>false
def GM(ops:Array Oper)(m:Nat):Bool:=(eq m).all fun j=>match ops[j]? with
 |some o=>o.dst.isSome&&(o.after.all fun e=> !(ej .any e)||decide (e.on<j)) &&
   ((o.looksAt ops).all fun t=>match setter ops m t with
     |some i=>o.after.any fun e=>ej .any e&&e.on==i
     |none=>true) &&
   ((eq m).all fun i=>i==j||match ops[i]? with
     |some o'=>o'.dst != o.dst
     |none=>true) &&
   (match o.guard with
    |some (g,_)=>decide (g<m)
    |none=>true)
 |none=>false
def yp(ops:Array Oper)(m:Nat):Bool :=
 decide (m≤ops.size)&&GM ops m&&(decide (m=ops.size)||(Region.sinkB .any ops m&&Region.chainB .any ops m)) &&
  Region.seqB .any ops (ops.size-m) m (cj m true++cj (ops.size-m) false)
def un(listed:Array Bool):Nat→Nat
 |0=>0
 |k+1=>un listed k+if listed.getD k true=false then 1 else 0
theorem wL{listed:Array Bool}{i:Nat}: ∀k,k≤i→un (listed.setIfInBounds i true) k=un listed k
 |0,_=>rfl
 |k+1,h=>by simp only[un];rw[wL k (by omega),getD_set_ne true (by omega)]
theorem Et{listed:Array Bool}{i:Nat}(hi:listed.getD i true=false): ∀k,i<k→un (listed.setIfInBounds i true) k+1=un listed k
 |0,h=>by omega
 |k+1,h=>by
  simp only[un];by_cases hk:i=k
  ·subst hk;rw[wL i (a4 _)]
   have hs:i<listed.size:=by
    rcases c9 i listed.size with h'|h'
    ·exact h'
    ·simp[gM h']at hi
   have:(listed.setIfInBounds i true).getD i true=true:=by simp[hs]
   rw[this,hi];simp
  ·have:=Et hi k (by omega);rw[getD_set_ne true hk];omega
theorem vV{listed:Array Bool}: ∀k,un listed k=0→ ∀j,j<k→listed.getD j true=true
 |0,_,j,h=>by omega
 |k+1,h0,j,h=>by
  simp only[un]at h0;by_cases hk:j=k
  ·subst hk;cases hb:listed.getD j true with
   |true=>rfl
   |false=>rw[hb]at h0;simp at h0
  ·exact vV k (by omega) j (by omega)
theorem Eu{listed:Array Bool}: ∀k,0<un listed k→ ∃j,j<k∧listed.getD j true=false∧ ∀i,i<j→listed.getD i true=true
 |0,h=>by simp[un]at h
 |k+1,h=>by
  by_cases h0:0<un listed k
  ·obtain⟨j,h1,h2,h3⟩:=Eu k h0;exact⟨j,by omega,h2,h3⟩
  ·simp only[un]at h;have h0:un listed k=0:=by omega
   have:=vV k h0;refine⟨k,by omega,?_,this⟩;cases hb:listed.getD k true with
   |true=>rw[hb]at h;simp at h;omega
   |false=>rfl
theorem get_append: ∀(l r:St) (t:Nat),St.get (l++r) t=match St.get l t with|some a=>some a|none=>St.get r t
 |[],r,t=>by simp[St.get]
 |(k,a)::l,r,t=>by rw[List.cons_append,St.aL,St.aL,get_append l r t];split<;>rfl
theorem get_mem: ∀{l:St} {t:Nat} {av:AV},St.get l t=some av→(t,av)∈l
 |[],t,av,h=>by simp[St.get]at h
 |(k,a)::l,t,av,h=>by
  rw[St.aL]at h;split at h
  ·rename_i e;simp at h;subst h;subst e;simp
  ·exact List.mem_cons_of_mem _ (get_mem h)
theorem Aq: ∀{l:St} {t:Nat},St.get l t=none→ ∀av,(t,av) ∉ l
 |[],t,_,av,h=>by simp at h
 |(k,a)::l,t,hn,av,h=>by
  rw[St.aL]at hn;split at hn<;>try (cases hn;done)
  rename_i e;rcases eB.1 h with h|h
  ·simp at h;exact e h.1.symm
  ·exact Aq hn av h
theorem ai.out{ds:List Nat}{σ0:St}{K:St→Prop}: ∀(l:List Oper) (τ:St),ai P B F0 w0 n ops ds σ0 l τ K →
  ∃tl:List (Nat×AV),tl.length=l.length∧K (tl.reverse++τ)∧ ∀(j:Nat) (o:Oper),l[j]?=some o→ ∃d av,tl[j]?=some (d,av)∧o.dst=some d∧d<n∧cP ds av=true∧rM P B F0 w0 ops σ0 ((tl.take j).reverse++τ) o d av
 |[],τ,h=>⟨[],rfl,h,fun j o hj=>by simp at hj⟩
 |o::r,τ,h=>by
  obtain⟨d,av,h1,h2,h3,h4,h5⟩:=h;obtain⟨tl,g1,g2,g3⟩:=ai.out r _ h5;refine⟨(d,av)::tl,by simp[g1],by simpa using g2,fun j o' hj=>?_⟩;cases j with
  |zero=>simp at hj;subst hj;exact⟨d,av,rfl,h1,h2,h3,by simpa using h4⟩
  |succ j =>
   obtain⟨d',av',f1,f2,f3,f4,f5⟩:=g3 j o' (by simpa using hj);exact⟨d',av',by simpa using f1,f2,f3,f4,by simpa using f5⟩
structure KK (P:Program) (B:Nat) (F0:Nat→Prop) (w0:dh) (n m:Nat) (σ0:St) (tl:List (Nat×AV)) (listed:Array Bool) (a:Act) (w:World):Prop where
 below:jq B w0 w0.w w
 base:B≤w.heap.size
 f0:FU B F0 w0
 defers:a.defers=[]
 size:a.tmps.size=n
 own: ∃O:Nat→Option Nat,(∀b t,O b=some t→kS B w0 w b) ∧
  (∀t av,σ0.get t=some av→ ∃v,a.tmps[t]?=some v∧fo P w0.X w O (FW B F0 w) σ0.get (fun h=>a.tmps[h]?) t av v) ∧
  (∀j d av,j<m→tl[j]?=some (d,av)→listed.getD j true=true→ ∃v,a.tmps[d]?=some v∧fo P w0.X w O (FW B F0 w) σ0.get (fun h=>a.tmps[h]?) d av v)
theorem Rel.drew{a:Act}{w:World}(hR:Rel P B F0 w0 n σ a w):Rel P B F0 w0 n σ a {w with drawn:=w.drawn+1}:=by obtain⟨O,hOr,hO⟩:=hR.own;refine⟨hR.below.drew,hR.base,hR.f0,hR.defers,hR.size,O,hOr,fun t av h=>?_⟩;obtain⟨v,hv,hr⟩:=hO t av h;exact⟨v,hv,hr.move (fun c hc=>⟨hc,rfl⟩) (fun _ c hc=>⟨hc,rfl⟩) (fun k _ x _ hk=>⟨hk,rfl⟩)⟩
theorem gm(hB:GM ops m=true){j:Nat}(hj:j<m): ∃o d,ops[j]?=some o∧o.dst=some d∧(∀e∈o.after,ej .any e=true→e.on<j) ∧
  (∀t∈o.looksAt ops,∀i,i<m→(∃o',ops[i]?=some o'∧o'.dst=some t)→ ∃i',(∃o',ops[i']?=some o'∧o'.dst=some t)∧i'<m∧ ∃e∈o.after,ej .any e=true∧e.on=i') ∧
  (∀i o',i<m→i≠j→ops[i]?=some o'→o'.dst≠o.dst)∧(∀g b,o.guard=some (g,b)→g<m):=by
 have h:=c4.1 hB j (ew.2 hj);split at h<;>try (cases h;done)
 rename_i o ho;simp only[cd]at h;obtain⟨⟨⟨⟨h1,h2⟩,h3⟩,h4⟩,h5⟩:=h;obtain⟨d,hd⟩:=ef.1 h1;refine⟨o,d,ho,hd,fun e he hb=>?_,fun t ht i hi ⟨o',ho',hdt⟩=>?_,fun i o' hi hij ho'=>?_,fun g b hg=>?_⟩
 ·have:=(Array.all_eq_true_iff_forall_mem.1 h2) e he;simpa[hb]using this
 ·have:=c4.1 h3 t ht;cases hs:setter ops m t with
  |none =>
   exfalso;have:=List.find?_eq_none.1 hs i (ew.2 hi);simp[ho',hdt]at this
  |some i' =>
   rw[hs]at this;simp only[]at this;obtain⟨e,he,hb⟩:=Array.any_eq_true'.1 this;simp only[cd,beq_iff_eq]at hb;have hf:=List.find?_some hs;have hm':=List.mem_of_find?_eq_some hs;split at hf<;>try (cases hf;done)
   rename_i o2 ho2;exact⟨i',⟨o2,ho2,by simpa using hf⟩,ew.1 hm',e,he,hb.1,hb.2⟩
 ·have:=c4.1 h4 i (ew.2 hi);rw[ho']at this;simp only[i1,beq_iff_eq,bne_iff_ne]at this;exact this.resolve_left hij
 ·rw[hg]at h5;simpa using h5
def yQ(P:Program)(B:Nat)(F0:Nat→Prop)(w0:dh)(n:Nat)(ops:Array Oper)(Q:Exit→St→Prop)(σ:St):Prop :=
 ∀(a:Act) (w:World),Rel P B F0 w0 n σ a w→wpAny P .any ops (fun e a' w'=> ∃σ',Q e σ'∧Rel P B F0 w0 n σ' a' w') ops.size (cj ops.size false) a {w with drawn:=w.drawn+1}
theorem yQ.J9{Qx:Exit→Act→World→Prop}{TK:St→Prop}(m:Nat)(hB:yp ops m=true)(htk: ∀τ a w,TK τ→Rel P B F0 w0 n τ a w→wpList P ops Qx (ops.toList.drop m) a w)
  (h:ai P B F0 w0 n ops (e8 ops m) (σ.less (e8 ops m)) (ops.toList.take m) (σ.less (e8 ops m)) TK):
  ∀(a:Act) (w:World),Rel P B F0 w0 n σ a w→wpAny P .any ops Qx ops.size (cj ops.size false) a {w with drawn:=w.drawn+1}:=by
 intro a w hR;simp only[yp,cd,i1,decide_eq_true_eq]at hB;obtain⟨⟨⟨hmle,hhead⟩,htail⟩,hseq⟩:=hB;have hR0:=(hR.less (e8 ops m)).drew;generalize hds:e8 ops m=ds at h hR0;generalize hσ0:σ.less ds=σ0 at h hR0
 have hs0ds: ∀t av,σ0.get t=some av→t ∉ ds∧cP ds av=true:=fun t av hg=>by
  rw[←hσ0,s7]at hg;split at hg<;>try (cases hg;done)
  rename_i htd;refine⟨htd,?_⟩;cases hs:σ.get t with
  |none=>simp[hs]at hg
  |some y =>
   simp only[hs,bz,ca]at hg;subst hg;unfold AV.u6;cases hr:cP ds y with
   |true=>exact hr
   |false=>rfl
 obtain⟨tl,htl,hK,hstep⟩:=ai.out _ _ h;have hlen:tl.length=m:=by rw[htl];simp;omega
 have hop: ∀j,j<m→(ops.toList.take m)[j]?=ops[j]?:=fun j hj=>by simp[bi,hj]
 have hset: ∀j,j<m→ ∃o d av,ops[j]?=some o∧o.dst=some d∧tl[j]?=some (d,av)∧d<n∧cP ds av=true∧d∈ds∧rM P B F0 w0 ops σ0 ((tl.take j).reverse++σ0) o d av:=fun j hj=>by obtain⟨o,d,h1,h2,_⟩:=gm hhead hj;obtain⟨d',av,g1,g2,g3,g4,g5⟩:=hstep j o (by rw[hop j hj];exact h1);rw[h2]at g2;simp at g2;subst g2;refine⟨o,d,av,h1,h2,g1,g3,g4,?_,g5⟩;rw[←hds];exact hW.2 ⟨o,b3 ((hop j hj).trans h1),h2⟩
 have hdist: ∀i j t av av',i<m→j<m→tl[i]?=some (t,av)→tl[j]?=some (t,av')→i=j:=fun i j t av av' hi hj h1 h2=>by
  by_cases hij:i=j
  ·exact hij
  ·exfalso;obtain⟨o,d,av1,g1,g2,g3,_⟩:=hset j hj;obtain⟨o',d',av2,f1,f2,f3,_⟩:=hset i hi;obtain⟨o2,d2,e1,e2,_,_,e3,_⟩:=gm hhead hj;rw[g1]at e1;simp at e1;subst e1;have:=e3 i o' hi hij f1;rw[f2,g2]at this;rw[h1]at f3;rw[h2]at g3;simp at f3 g3;exact this (by rw[←f3.1,←g3.1])
 have hL2: ∀j,j≤m→ ∀t av,St.get ((tl.take j).reverse++σ0) t=some av→(∃i,i<j∧tl[i]?=some (t,av))∨σ0.get t=some av:=fun j hj t av hg=>by
  rw[get_append]at hg;split at hg
  ·rename_i x hx;simp at hg;subst hg;have:=get_mem hx;rw[List.mem_reverse]at this;obtain⟨i,hi⟩:=cr.1 this;rw[bi]at hi;split at hi<;>try (cases hi;done)
   rename_i hij;exact .inl ⟨i,hij,hi⟩
  ·exact .inr hg
 have hval: ∀j o,j<m→ops[j]?=some o→ ∀listed a w,KK P B F0 w0 n m σ0 tl listed a w→(∀e∈o.after,ej .any e=true→listed.getD e.on false=true) →
   ∀O,(∀t av,σ0.get t=some av→ ∃v,a.tmps[t]?=some v∧fo P w0.X w O (FW B F0 w) σ0.get (fun h=>a.tmps[h]?) t av v) →
   (∀j d av,j<m→tl[j]?=some (d,av)→listed.getD j true=true→ ∃v,a.tmps[d]?=some v∧fo P w0.X w O (FW B F0 w) σ0.get (fun h=>a.tmps[h]?) d av v) →
   ∀t,t∈o.looksAt ops→ ∀av,St.get ((tl.take j).reverse++σ0) t=some av→ ∃v,a.tmps[t]?=some v∧fo P w0.X w O (FW B F0 w) σ0.get (fun h=>a.tmps[h]?) t av v:=by
  intro j o hj ho listed a w hRL hall O hO1 hO2 t ht av hg;rcases hL2 j (by omega) t av hg with⟨i,hij,hi⟩|hg
  ·obtain⟨oi,di,avi,f1,f2,f3,_⟩:=hset i (by omega);rw[hi]at f3;simp at f3;obtain⟨rfl,rfl⟩:=f3;obtain⟨o2,d2,e1,e2,_,e4,_⟩:=gm hhead hj;rw[ho]at e1;simp at e1;subst e1;obtain⟨i',⟨o',g1,g2⟩,g3,e,g4,g5,g6⟩:=e4 t ht i (by omega) ⟨oi,f1,f2⟩;obtain⟨o3,d3,av3,k1,k2,k3,_⟩:=hset i' g3;rw[g1]at k1;simp at k1;subst k1;rw[g2]at k2;simp at k2;subst k2;have hii:i'=i:=hdist i' i t av3 av g3 (by omega) k3 hi;subst hii;have hl:=hall e g4 g5;rw[g6]at hl
   have hl':listed.getD i' true=true:=by
    rcases c9 i' listed.size with h'|h'
    ·simp[h']at hl ⊢; exact hl
    ·simp[gM h']at hl
   exact hO2 i' t av g3 hi hl'
  ·exact hO1 t av hg
 have hone: ∀j listed a w,j<m→KK P B F0 w0 n m σ0 tl listed a w→j∈gt .any ops listed→ ∀(Q':Exit→Act→World→Prop) (K:Act→World→Prop),(∀a w,KK P B F0 w0 n m σ0 tl (listed.setIfInBounds j true) a w→K a w)→wpOp P ops Q' j K a w:=by
  intro j listed a w hj hRL hready Q' K hKK;obtain⟨o,d,av,h1,h2,h3,h4,h5,h6,h7⟩:=hset j hj;obtain⟨hun,o',ho',hall⟩:=mem_ready.1 hready;rw[h1]at ho';simp at ho';subst ho';obtain⟨O,hOr,hO1,hO2⟩:=hRL.own;have hv:=hval j o hj h1 listed a w hRL hall O hO1 hO2
  have hdn:σ0.get d=none:=by
   cases hs:σ0.get d with
   |none=>rfl
   |some x=>exact absurd h6 (hs0ds d x hs).1
  have hds':d<a.tmps.size:=by rw[hRL.size];exact h4
  have hback: ∀v w' O',dG w O d w' O'→fo P w0.X w' O' (FW B F0 w') σ0.get (fun h=>a.tmps[h]?) d av v→KK P B F0 w0 n m σ0 tl (listed.setIfInBounds j true) (a.put (some d) v) w':=by
   intro v w' O' hg hr;have hsz:w.heap.size≤w'.heap.size:=hg.below.size
   have hkeep: ∀t av u,t≠d→fo P w0.X w O (FW B F0 w) σ0.get (fun h=>a.tmps[h]?) t av u→fo P w0.X w' O' (FW B F0 w') σ0.get (fun h=>(a.put (some d) v).tmps[h]?) t av u:=fun t av u htd hu =>
    hu.mono (fun b hb=>FW.step hRL.f0 hRL.base hsz b hb) hg.same (fun b u hb=>(hOr b u hb).2) (fun b hb=>hg.below.block b hb) (fun k _ x _ hk=>⟨hk,dX (fun e=>(hs0ds k x hk).1 (e▸h6))⟩)
   refine⟨hRL.below.trans (.of hg.below hRL.base),cx hRL.base hsz,hRL.f0,by simp[eh,hRL.defers],by simp[eh,hRL.size],O',fun b t hb=>?_,fun t av' ht=>?_,fun i d' av' hi hti hl=>?_⟩
   ·rcases hg.mine b t hb with h|⟨_,h⟩
    ·rw[hg.same b h]at hb;exact⟨(hOr b t hb).1,cJ h hsz⟩
    ·rcases c9 b w.heap.size with h'|h'
     ·rw[hg.same b h']at hb;exact⟨(hOr b t hb).1,h⟩
     ·exact⟨.inl (cx hRL.base h'),h⟩
   ·have htd:t≠d:=fun e=>by rw[e,hdn]at ht;cases ht
    obtain⟨u,hu,hur⟩:=hO1 t av' ht;exact⟨u,by rw[dX htd];exact hu,hkeep t av' u htd hur⟩
   ·by_cases hij:i=j
    ·subst hij;rw[h3]at hti;simp at hti;obtain⟨rfl,rfl⟩:=hti;refine⟨v,fu hds',hr.move (fun c hc=>⟨hc,rfl⟩) (fun _ c hc=>⟨hc,rfl⟩) (fun k _ x _ hk=>⟨hk,dX (fun e=>(hs0ds k x hk).1 (e▸h6))⟩)⟩
    ·have hdd:d'≠d:=fun e=>by subst e;exact hij<|hdist i j d' av' av hi hj hti h3
     rw[getD_set_ne true (ct hij)]at hl;obtain⟨u,hu,hur⟩:=hO2 i d' av' hi hti hl;exact⟨u,by rw[dX hdd];exact hu,hkeep d' av' u hdd hur⟩
  unfold wpOp;simp only[h1]
  have hgv: ∀g b',(∃b,o.guard=some (g,b))→kl ops ((tl.take j).reverse++σ0) g=some b'→yielded ops a.tmps g=some b':=by
   rintro g b' ⟨b,hgd⟩ hg
   obtain⟨og,tg,g1,g2,g3⟩:=l3 hg
   have hlk:tg∈o.looksAt ops:=by unfold g9;refine hJ _ ?_;rw[hgd];simp[g1,g2]
   obtain⟨u,hu,hur⟩:=hv tg hlk _ g3;have:=(Rd.j5 hur).1;subst this;simp[yielded,g1,g2,hu]
  have hgvu: ∀g b,o.guard=some (g,b)→nI ops ((tl.take j).reverse++σ0) g=true→yielded ops a.tmps g≠some b:=by
   intro g b hgd hg;obtain⟨og,tg,g1,g2,g3⟩:=rE hg
   have hlk:tg∈o.looksAt ops:=by unfold g9;refine hJ _ ?_;rw[hgd];simp[g1,g2]
   obtain⟨u,hu,hur⟩:=hv tg hlk _ g3;have hur:u=undef:=hur;subst hur;simp[yielded,g1,g2,hu,undef]
  rcases h7 with⟨hgok,hps⟩|⟨g,b,hgd,hgn,rfl⟩
  ·have hw:cI o (yielded ops a.tmps)=true:=by
    unfold aJ at hgok;unfold cI;split at hgok
    ·rename_i hgd;simp[hgd]
    ·rename_i g b hgd;split at hgok
     ·rename_i b' hb';have hbb:b'=b:=by simpa using hgok
      subst hbb;simp[hgd,hgv g b' ⟨_,hgd⟩ hb']
     ·cases hgok
   rw[if_pos hw];refine .inl ?_;obtain⟨_,_,hps⟩:=hps;refine hps a w O ⟨hRL.below,hRL.base,hRL.f0,hOr,fun t ht av' hg=>hv t ?_ av' hg,fun t av' ht _=>hO1 t av' ht⟩ K Q' (fun v w' O' hg hr=>by rw[h2];exact hKK _ _ (hback v w' O' hg hr));unfold g9;exact List.mem_append_left _<|hW.2 ⟨.tmp t,by simpa using ht,rfl⟩
  ·have hw:cI o (yielded ops a.tmps)=false:=by
    unfold cI;rcases hgn with⟨b',hgval,hne⟩|hgu
    ·simp[hgd,hgv g b' ⟨_,hgd⟩ hgval];simpa using hne
    ·simp[hgd];simpa using hgvu g b hgd hgu
   rw[if_neg (by rw[hw];simp),h2];exact hKK _ _<|hback undef w O (dG.refl (fun b t hb=>(hOr b t hb).2)) rfl
 have hall: ∀(f:Nat) (listed:Array Bool) (a:Act) (w:World),HeadInv .any ops m listed→un listed m=f→KK P B F0 w0 n m σ0 tl listed a w→wpAny P .any ops Qx (f+(ops.size-m)) listed a w:=by
  intro f
  induction f with
  |zero =>
   intro listed a w hinv hun hRL;have hlist:=vV m hun
   have heq:listed=cj m true++cj (ops.size-m) false:=by
    apply Array.ext
    ·rw[hinv.size];simp;omega
    ·intro i hi1 hi2;rw[hinv.size]at hi1;rw[Array.getElem_append];by_cases him:i<m
     ·have:=hlist i him;have hlt:i<listed.size:=by rw[hinv.size];exact hi1
      simp[hlt]at this;simp[him,this]
     ·have:=hinv.tail i (by omega) hi1;have hlt:i<listed.size:=by rw[hinv.size];exact hi1
      simp[hlt]at this;simp[him,this]
   rw[dr];have hdl:(ops.toList.drop m).length=ops.size-m:=by simp
   rw[←hdl];refine wpAny_of_seq (md:=.any) (ops.toList.drop m) m listed a w (fun j=>by simp[bv]) (by rw[hdl,heq];exact hseq) ?_;refine htk _ a w hK ?_;obtain⟨O,hOr,hO1,hO2⟩:=hRL.own
   have hget: ∀k x,k ∉ ds→St.get (tl.reverse++σ0) k=some x→σ0.get k=some x:=fun k x hk hg=>by
    have:=hL2 m (a4 _) k x (by rw[ep (by omega)];exact hg);rcases this with⟨i,hi,hti⟩|h
    ·obtain⟨_,d,_,_,_,h3,_,_,h6,_⟩:=hset i hi;rw[hti]at h3;simp at h3;exact absurd (h3.1▸h6) hk
    ·exact h
   have hrefs: ∀{av:AV} {k:Nat},cP ds av=true→av.refs=some k→k ∉ ds:=fun {av k} h hk hkd=>by unfold cP at h;rw[hk]at h;simp only[fI.2 hkd]at h;cases h
   refine⟨hRL.below,hRL.base,hRL.f0,hRL.defers,hRL.size,O,hOr,fun t av hg=>?_⟩;have h2:=hL2 m (a4 _) t av (by rw[ep (by omega)];exact hg);rcases h2 with⟨i,hi,hti⟩|h
   ·obtain⟨_,d,av',_,_,h3,_,h5,_⟩:=hset i hi;rw[hti]at h3;simp at h3;obtain⟨rfl,rfl⟩:=h3;obtain⟨v,hv,hr⟩:=hO2 i t av hi hti (hlist i hi);exact⟨v,hv,hr.move (fun c hc=>⟨hc,rfl⟩) (fun _ c hc=>⟨hc,rfl⟩) (fun k hk x _ hkg=>⟨hget k x (hrefs h5 hk) hkg,rfl⟩)⟩
   ·obtain⟨v,hv,hr⟩:=hO1 t av h;exact⟨v,hv,hr.move (fun c hc=>⟨hc,rfl⟩) (fun _ c hc=>⟨hc,rfl⟩) (fun k hk x _ hkg=>⟨hget k x (hrefs (hs0ds t av h).2 hk) hkg,rfl⟩)⟩
  |succ f ih =>
   intro listed a w hinv hun hRL;obtain⟨j,hj,hju,hjl⟩:=Eu m (by omega:0<un listed m)
   have hless: ∀i∈gt .any ops listed,i<m:=fun i hi=>by
    rcases htail with h|⟨hs,hc⟩
    ·obtain⟨_,o,ho,_⟩:=mem_ready.1 hi;have:=(cT.1 ho).1;omega
    ·rcases c9 m ops.size with hlt|hge
     ·rcases c9 i m with h|h
      ·exact h
      ·exact absurd hi (tail_waits hs hc hlt hinv _ j rfl hj hju i h)
     ·obtain⟨_,o,ho,_⟩:=mem_ready.1 hi;have:=(cT.1 ho).1;omega
   have hjr:j∈gt .any ops listed:=by
    obtain⟨o,d,h1,h2,h3,_⟩:=gm hhead hj;refine mem_ready.2 ⟨hju,o,h1,fun e he hb=>?_⟩;have hlt:=h3 e he hb;have:=hjl e.on hlt;have hsz:e.on<listed.size:=by rw[hinv.size];omega
    simp[hsz]at this ⊢;exact this
   rw[show f+1+(ops.size-m)=(f+(ops.size-m))+1 by omega];refine⟨fun h0=>(by rw[h0]at hjr;cases hjr),fun i hi=>?_⟩;have him:=hless i hi;exact hone i listed a w him hRL hi Qx _ fun a' w' hRL'=>ih _ a' w' (hinv.set hi him) (by have:=Et (mem_ready.1 hi).1 m him;omega) hRL'
 have hu0:un (cj ops.size false) m=m:=by
  have: ∀k,k≤m→un (cj ops.size false) k=k:=fun k hk=>by
   induction k with
   |zero=>rfl
   |succ k ih =>
    have hlt:k<ops.size:=by omega
    simp[un,ih (by omega),hlt]
  exact this m<|a4 _
 have hinv0:HeadInv .any ops m (cj ops.size false) :=
  ⟨by simp,fun j oj _ hl=>(by rw[getD_replicate_false]at hl;cases hl),fun t _ ht=>getD_in (by simpa using ht) (getD_replicate_false _ _)⟩
 obtain⟨O,hOr,hO⟩:=hR0.own
 have:=hall m (cj ops.size false) a {w with drawn:=w.drawn+1} hinv0 hu0 ⟨hR0.below,hR0.base,hR0.f0,hR0.defers,hR0.size,O,hOr,hO,fun j d av hj _ hl=>by
   have hlt:j<ops.size:=by omega
   simp[hlt]at hl⟩
 rw[show m+(ops.size-m)=ops.size by omega]at this;exact this
theorem yQ.draw(m:Nat)(hB:yp ops m=true)
  (h:ai P B F0 w0 n ops (e8 ops m) (σ.less (e8 ops m)) (ops.toList.take m) (σ.less (e8 ops m)) (fun τ=>ae P B F0 w0 n ops (ops.toList.drop m) (Q .normal) τ)):yQ P B F0 w0 n ops Q σ :=
 fun a w hR=>yQ.J9 m hB (TK:=fun τ=>ae P B F0 w0 n ops (ops.toList.drop m) (Q .normal) τ) (fun τ a w h hR=>h a w hR _ (fun a w σ' hk hr=>⟨σ',hk,hr⟩)) h a w hR
variable {ds:List Nat} {σ0 τ:St} 
theorem AW.any(kt:P.follows .mixedOrders=true)(h:yQ P B F0 w0 n ops Q σ):AW P B F0 w0 n (.region id ops true) Q σ:=fun a w hR=>wp_region_any kt (h a w hR)
theorem AW.draw(kt:P.follows .mixedOrders=true)(m:Nat)(hB:yp ops m=true)
  (h:ai P B F0 w0 n ops (e8 ops m) (σ.less (e8 ops m)) (ops.toList.take m) (σ.less (e8 ops m)) (fun τ=>ae P B F0 w0 n ops (ops.toList.drop m) (Q .normal) τ)):AW P B F0 w0 n (.region id ops true) Q σ :=
 AW.any kt (yQ.draw m hB h)
theorem ai.nil(h:K τ):ai P B F0 w0 n ops ds σ0 [] τ K:=h
theorem ai.pure(hd:o.dst=some d)(hdn:b0 (d+1) n=true)(hr:cP ds av=true)(hg:aJ ops τ o=true)(hp:aM P B F0 w0 d o τ.get σ0.get av)(h:ai P B F0 w0 n ops ds σ0 rest ((d,av)::τ) K):ai P B F0 w0 n ops ds σ0 (o::rest) τ K :=
 ⟨d,av,hd,ax hdn,hr,.inl ⟨hg,hp⟩,h⟩
def Nq(T:Ty)(n:Nat)(ops:Array Oper)(ds:List Nat)(σ0 τ:St)(o:Oper):Option (Nat×AV):=match o.dst with
 |some d=>match b0 (d+1) n,σ0.get d with
  |true,none=>match o.guard with
   |none=>match pF T τ.get σ0.get o.type o.op with
    |some av=>match cP ds av with
     |true=>some (d,av)
     |false=>none
    |none=>none
   |some (g,b)=>match kl ops τ g with
    |some b'=>match b'==b with
     |true=>match pF T τ.get σ0.get o.type o.op with
      |some av=>match cP ds av with
       |true=>some (d,av)
       |false=>none
      |none=>none
     |false=>some (d,.un)
    |none=>match nI ops τ g with
     |true=>some (d,.un)
     |false=>none
  |_,_=>none
 |none=>none
def HA(T:Ty)(n:Nat)(ops:Array Oper)(ds:List Nat)(σ0:St):Nat→List Oper→St→Option (St×List Oper)
 |0,l,τ=>some (τ,l)
 |k+1,l,τ=>match l with
  |[]=>some (τ,[])
  |o::r=>match Nq T n ops ds σ0 τ o with
   |some (d,av)=>HA T n ops ds σ0 k r ((d,av)::τ)
   |none=>none
theorem Lp(hT:bB P T)(h:Nq T n ops ds σ0 τ o=some (d,av)):o.dst=some d∧d<n∧cP ds av=true∧rM P B F0 w0 ops σ0 τ o d av:=by
 unfold Nq at h;split at h<;>try (cases h;done)
 rename_i d' hd;split at h<;>try (cases h;done)
 rename_i hn hs;have hn:d'<n:=ax hn;split at h
 ·rename_i hg;split at h<;>try (cases h;done)
  rename_i av' hav;split at h<;>simp at h;rename_i hr;obtain⟨rfl,rfl⟩:=h;exact⟨hd,hn,hr,.inl ⟨by simp[aJ,hg],xC hT hd hs hav⟩⟩
 ·rename_i g b hg;split at h;rotate_left
  ·split at h<;>try (cases h;done)
   rename_i hgu;simp at h;obtain⟨rfl,rfl⟩:=h;exact⟨hd,hn,rfl,.inr ⟨g,b,hg,.inr hgu,rfl⟩⟩
  rename_i b' hb';split at h
  ·rename_i hbb;split at h<;>try (cases h;done)
   rename_i av' hav;split at h<;>simp at h;rename_i hr;obtain⟨rfl,rfl⟩:=h;exact⟨hd,hn,hr,.inl ⟨by simp only[aJ,hg,hb'];exact hbb,xC hT hd hs hav⟩⟩
  ·rename_i hbb;simp at h;obtain⟨rfl,rfl⟩:=h;exact⟨hd,hn,rfl,.inr ⟨g,b,hg,.inl ⟨b',hb',hbb⟩,rfl⟩⟩
theorem ai.run(hT:bB P T): ∀(k:Nat) (l:List Oper) (τ τ':St) (r:List Oper),HA T n ops ds σ0 k l τ=some (τ',r)→ai P B F0 w0 n ops ds σ0 r τ' K→ai P B F0 w0 n ops ds σ0 l τ K
 |0,l,τ,τ',r,h,hk=>by simp[HA]at h;obtain⟨rfl,rfl⟩:=h;exact hk
 |k+1,[],τ,τ',r,h,hk=>by simp[HA]at h;obtain⟨rfl,rfl⟩:=h;exact hk
 |k+1,o::l,τ,τ',r,h,hk=>by
  simp only[HA]at h;split at h<;>try (cases h;done)
  rename_i d av hs;have ih:=ai.run hT k l _ τ' r h hk;obtain⟨h1,h2,h3,h4⟩:=Lp (B:=B) (F0:=F0) (w0:=w0) hT hs;exact⟨d,av,h1,h2,h3,h4,ih⟩
end
end Lift
namespace Lift
open Go
variable {q:Bool}{iv:Int}{xs:List D}{e k m:Nat}{te:TI}
section
variable {P:Program} {T:Ty} {B:Nat} {F0:Nat→Prop} {w0:dh} {n:Nat} {ops:Array Oper} {ds:List Nat} {σ0 τ:St} {K:St→Prop} {o:Oper} {rest:List Oper} {d:Nat}
theorem ai.idx(hT:bB P T)(e:D)(hd:o.dst=some d)(hdn:b0 (d+1) n=true)(hg:aJ ops τ o=true)(hs:σ0.get d=none)(hx:LU T τ.get o.op=some (xs,iv))(h0:0≤iv)(he:xs[iv.toNat]?=some e)
  (h:ai P B F0 w0 n ops ds σ0 rest ((d,.rf e.flat)::τ) K):ai P B F0 w0 n ops ds σ0 (o::rest) τ K:=ai.pure hd hdn rfl hg (aM.idx hT hd hs hx h0 he) h
theorem ai.gI(hT:bB P T)(hd:o.dst=some d)(hdn:b0 (d+1) n=true)(hg:aJ ops τ o=true)(hs:σ0.get d=none)(hk:rC k ds=false)(hx:HT T τ.get σ0.get o.op=some (k,xs,0,m,iv))(h0:0≤iv)(hl:iv.toNat<m)
  (h:ai P B F0 w0 n ops ds σ0 rest ((d,.el k iv.toNat 0)::τ) K):ai P B F0 w0 n ops ds σ0 (o::rest) τ K:=ai.pure hd hdn (by simp[cP,AV.refs,hk]) hg (aM.gI hT hd hs hx h0 hl) (by rw[dr];exact h)
theorem ai.qh(hT:bB P T){lo:Nat}(hd:o.dst=some d)(hdn:b0 (d+1) n=true)(hg:aJ ops τ o=true)(hs:σ0.get d=none)(hk:rC k ds=false)(hx:HT T τ.get σ0.get o.op=some (k,xs,lo,m,iv))(h0:0≤iv)(hl:iv.toNat<m)
  (h:ai P B F0 w0 n ops ds σ0 rest ((d,.el k (lo+iv.toNat) 0)::τ) K):ai P B F0 w0 n ops ds σ0 (o::rest) τ K:=ai.pure hd hdn (by simp[cP,AV.refs,hk]) hg (aM.gI hT hd hs hx h0 hl) h
theorem ai.dE(hT:bB P T){ti:TI}{i off:Nat}{x:D}(y:D)(hd:o.dst=some d)(hdn:b0 (d+1) n=true)(hg:aJ ops τ o=true)(hs:σ0.get d=none)(hx:PI T τ.get σ0.get o.op=some (ti,xs,i,off))(hy:xs[i]?=some y)(hav:jA ti (y.flat.drop off)=some (.d x))
  (h:ai P B F0 w0 n ops ds σ0 rest ((d,.d x)::τ) K):ai P B F0 w0 n ops ds σ0 (o::rest) τ K:=ai.pure hd hdn rfl hg (aM.dE hT hd hs hx hy hav) h
theorem ai.CK(hT:bB P T){s:Nat}{lo hi:Option Int}(hd:o.dst=some d)(hdn:b0 (d+1) n=true)(hg:aJ ops τ o=true)(hs:σ0.get d=none)(hx:Hy T τ.get o.op=some (.sl s xs,lo,hi))(g1:okB lo)(g2:okB hi)(g3:gA lo≤dm xs.length hi)(g4:dm xs.length hi≤xs.length)
  (h:ai P B F0 w0 n ops ds σ0 rest ((d,.d (.sl s ((xs.take (dm xs.length hi)).drop (gA lo))))::τ) K):ai P B F0 w0 n ops ds σ0 (o::rest) τ K:=ai.pure hd hdn rfl hg (aM.CK hT hd hs hx g1 g2 g3 g4) h
theorem ai.call(hT:bB P T){f:FuncId}{xas:List D}{res:D}(hd:o.dst=some d)(hdn:b0 (d+1) n=true)(hg:aJ ops τ o=true)(hs:σ0.get d=none)(hx:vj T τ.get o.op=some (f,xas))(hP:Pure P f xas res)
  (h:ai P B F0 w0 n ops ds σ0 rest ((d,.d res)::τ) K):ai P B F0 w0 n ops ds σ0 (o::rest) τ K:=ai.pure hd hdn rfl hg (aM.call hT hd hs hx hP) h
theorem ai.pB(hT:bB P T)(hd:o.dst=some d)(hdn:b0 (d+1) n=true)(hg:aJ ops τ o=true)(hs:σ0.get d=none)(hx:N6 T τ.get σ0.get o.op=some (e,te,xs))(hlen:xs.length*te.bytes≤140737488355328)
  (h:ai P B F0 w0 n ops ds σ0 rest ((d,.d (.sl te.size xs))::τ) K):ai P B F0 w0 n ops ds σ0 (o::rest) τ K:=ai.pure hd hdn rfl hg (aM.pB hT hd hs hx hlen) h
theorem ai.ku(hT:bB P T)(hd:o.dst=some d)(hdn:b0 (d+1) n=true)(hg:aJ ops τ o=true)(hs:σ0.get d=none)(hx:NX T τ.get o.op=some (e,xs))(hte:T.get e=some te)
  (h:ai P B F0 w0 n ops ds σ0 rest ((d,.d (.sl te.size xs))::τ) K):ai P B F0 w0 n ops ds σ0 (o::rest) τ K:=ai.pure hd hdn rfl hg (aM.ku hT hte hd hs hx) h
theorem ai.div(hT:bB P T){k:IntKind}{x y:Int}(hd:o.dst=some d)(hdn:b0 (d+1) n=true)(hg:aJ ops τ o=true)(hs:σ0.get d=none)(hx:L9 T τ.get o.op=some (q,k,x,y))(h0:y≠0)
  (h:ai P B F0 w0 n ops ds σ0 rest ((d,.d (.v (ot q k x y)))::τ) K):ai P B F0 w0 n ops ds σ0 (o::rest) τ K:=ai.pure hd hdn rfl hg (aM.div hT hd hs hx h0) h
theorem ai.be(hT:bB P T){x y:Bool}(hd:o.dst=some d)(hdn:b0 (d+1) n=true)(hg:aJ ops τ o=true)(hs:σ0.get d=none)(hx:Qk T τ.get o.op=some (q,x,y))
  (h:ai P B F0 w0 n ops ds σ0 rest ((d,.d (.v (.bool ((x==y)==q))))::τ) K):ai P B F0 w0 n ops ds σ0 (o::rest) τ K:=ai.pure hd hdn rfl hg (aM.be hT hd hs hx) h
theorem AW.aK{σ:St}{x:Code}{Q:Exit→St→Prop}{S:Type}(ks:List Nat)(mk:S→St)(I:S→Prop)(μ:S→Nat)(s0:S)(h0:σ.fc ks=mk s0)(hI:I s0)
  (hb: ∀s,I s→AW P B F0 w0 n x (rX (fun σ'=> ∃s',σ'.fc ks=mk s'∧I s'∧μ s'<μ s) Q) (mk s)):AW P B F0 w0 n (.loop x) Q σ:=by
 refine AW.fc ks ?_;rw[h0]
 have hex: ∀σ,(∃s,mk s=σ∧I s)→ ∃m,(∃s,μ s=m∧mk s=σ∧I s)∧ ∀s,mk s=σ→I s→m≤μ s:=fun σ ⟨s,h1,h2⟩=>by
  let p:Nat→Prop:=fun m=> ∃s,μ s=m∧mk s=σ∧I s
  have key: ∀k m,m≤k→p m→ ∃m0,p m0∧ ∀m',p m'→m0≤m':=by
   intro k
   induction k with
   |zero=>intro m hm hp;exact⟨m,hp,fun m' _=>by omega⟩
   |succ k ih =>
    intro m hm hp;by_cases hlt: ∃m',m'≤k∧p m'
    ·obtain⟨m',h1,h2⟩:=hlt;exact ih m' h1 h2
    ·exact⟨m,hp,fun m' hp'=>by
      rcases c9 k m' with h|h
      ·omega
      ·exact absurd ⟨m',h,hp'⟩ hlt⟩
  obtain⟨m0,h3,h4⟩:=key (μ s) (μ s) (a4 _) ⟨s,rfl,h1,h2⟩;exact⟨m0,h3,fun s' g1 g2=>h4 _ ⟨s',rfl,g1,g2⟩⟩
 let M:St→Nat:=fun σ=>open Classical in if h: ∃s,mk s=σ∧I s then hN (hex σ h)else 0
 have hM: ∀σ,(∃s,mk s=σ∧I s)→(∃s,μ s=M σ∧mk s=σ∧I s)∧ ∀s,mk s=σ→I s→M σ≤μ s:=fun σ h=>by have:=gb (hex σ h);simp only[M,dif_pos h];exact this
 refine AW.loop (fun σ=> ∃s,mk s=σ∧I s) M ⟨s0,rfl,hI⟩ fun σ hσ=>?_;obtain⟨⟨s,h1,h2,h3⟩,_⟩:=hM σ hσ;subst h2;intro a w hR;refine wp_mono (hb s h3 a w hR) fun e a' w' ⟨σ',hq,hR'⟩=>?_;cases e with
 |normal =>
  obtain⟨s',g1,g2,g3⟩:=hq;refine⟨mk s',⟨⟨s',rfl,g2⟩,?_⟩,by rw[←g1];exact hR'.fc ks⟩;have:=(hM (mk s') ⟨s',rfl,g2⟩).2 s' rfl g2;omega
 |_=>exact⟨σ',hq,hR'⟩
end
end Lift
namespace Lift
open Go
open Go.RowKit (Below)
variable {fn:Func}{f:FuncId}{args l:List D}{e lo m t:Nat}
section
variable {P:Program} {T:Ty} {B:Nat} {F0:Nat→Prop} {w0:dh} {n:Nat} {lk hm:Nat→Option AV} {o:Oper} {d:Nat} {σ σ':St}
def Ni(T:Ty)(lk hm:Nat→Option AV):Op→Option (Nat×List D×Nat×Nat×Option Int×Option Int)
 | .slice t x lo hi none=>match T.get t,my hm (ex T lk 0 x),FM T lk lo,FM T lk hi with
   |some ti,some (h,e,l,a,m),some l',some h'=>match ap ti.kind 4,T.get ti.elem,ap e ti.elem with
    |true,some _,true=>some (h,l,a,m,l',h')
    |_,_,_=>none
   |_,_,_,_=>none
 |_=>none
theorem aM.Og(hT:bB P T){h a0:Nat}{lo hi:Option Int}(hd:o.dst=some d)(hn:hm d=none)(hx:Ni T lk hm o.op=some (h,l,a0,m,lo,hi))(g1:okB lo)(g2:okB hi)(g3:gA lo≤dm m hi)(g4:dm m hi≤m):
  aM P B F0 w0 d o lk hm (.sb h (a0+gA lo) (dm m hi-gA lo)):=by
 refine⟨hd,hn,fun a w O hI K Q hK=>?_⟩;obtain⟨dst,op,ty,pos,after,guard⟩:=o;simp only[]at hd hx hI;cases op<;>simp only[Ni]at hx<;>try (cases hx;done)
 rename_i t x lo' hi' mx;cases mx<;>simp only[]at hx<;>try (cases hx;done)
 split at hx<;>try (cases hx;done)
 rename_i ti h' e l' a1 m' lo1 hi1 hti hw hl hh;split at hx<;>simp at hx;rename_i te hk hte hee;obtain⟨rfl,rfl,rfl,rfl,rfl,rfl⟩:=hx;have hee:=aa hee;obtain⟨info,dd,z,hok⟩:=hT t ti hti;obtain⟨info',dd',z',hok'⟩:=hT _ te hte;cases hxe:ex T lk 0 x with
 |none=>rw[hxe]at hw;simp[my]at hw
 |some av =>
  rw[hxe]at hw;have hxv:=(aZ hI (fun t ht=>by subst ht;simp[an]) hxe 0).1;obtain⟨y,hy,hrow,hlm,cap,hcap,hmax,hv⟩:=iC hI hxv hw
  obtain⟨ad,hev,hval⟩: ∃ad,a.eval x= .slice ad m' cap∧((l'.length=0∧y.tag=false∧cap=0)∨ ∃b o1 len cap1 o,a.tmps[h']?=some (.slice (some ⟨b,o1,none⟩) len cap1)∧ad=some ⟨b,o,none⟩∧((m'=0∨o=a1*P.cellsOf e)∧(cap=0∨o=a1*P.cellsOf e)∧o+cap*P.cellsOf e≤o1+cap1*P.cellsOf e∧cap≤cap1)):=by
   rcases hv with⟨h0,hq,hc0,base,hv⟩|⟨b,o1,len,cap1,cs,o,_,htm,hv,h0,_⟩
   ·exact⟨base,by rw[hv];congr 1;omega,.inl ⟨h0,hq,hc0⟩⟩
   ·exact⟨_,hv,.inr ⟨b,o1,len,cap1,o,htm,rfl,h0⟩⟩
  have hb:=yG hT hI (fun y hy t ht=>by subst hy;subst ht;simp[an]) (fun y hy t ht=>by subst hy;subst ht;simp[an]) hl hh true m' cap g1 g2 g3 g4 hcap;refine bh (v:=.slice (if cap=gA lo1 then ad else ad.map (·.add (gA lo1*te.size))) (dm m' hi1-gA lo1) (cap-gA lo1)) (w':=w) ?_<|hK _ w O (dG.refl hI.lt) ?_
  ·simp only[execOp,i4,hev,az,run_underlying (hok.kg hk).1,am,ja,hb,cB,typeInfo,run_program,hok'.hinfo,bn,hok'.size,hY]
  ·intro y' e' l'' hy' hrow';rw[hy]at hy';simp at hy';subst hy';rw[hrow]at hrow';simp at hrow';obtain⟨rfl,rfl⟩:=hrow';refine⟨by omega,cap-gA lo1,by omega,by omega,?_⟩;rcases hval with⟨h0,hq,hc0⟩|⟨b,o1,len,cap1,o,htm,rfl,⟨h0,hcx⟩⟩
   ·exact .inl ⟨h0,hq,by omega,_,by congr 1;omega⟩
   ·refine .inr ⟨b,o1,len,cap1,if cap=gA lo1 then o else o+gA lo1*te.size,htm,?_,?_,?_⟩
    ·split
     ·rfl
     ·simp[c6]
    ·by_cases hz:dm m' hi1-gA lo1=0
     ·exact .inl hz
     ·refine .inr ?_;rw[if_neg (by omega),cz];have:o=a1*P.cellsOf e:=by omega
      rw[this,hee,hok'.cellsOf]
    ·obtain⟨c1,c2,c3⟩:=hcx;have hs:P.cellsOf e=te.size:=by rw[hee,hok'.cellsOf]
     rw[hs]at c1 c2 ⊢;refine⟨?_,?_,by omega⟩
     ·by_cases hz:cap=gA lo1
      ·exact .inl (by omega)
      ·refine .inr ?_;rw[if_neg hz,cz];have:o=a1*te.size:=by omega
       rw[this]
     ·split
      ·rename_i hz;rw[hz,Nat.sub_self,dn];have:=cb (cap*te.size);omega
      ·have:cap*te.size=(cap-gA lo1)*te.size+gA lo1*te.size:=by rw[←cz];congr 1;omega
       omega
def MZ(P:Program)(w w':World)(F:Nat→Prop)(e:Nat)(L:List D)(lo m:Nat)(v:Value):Prop :=
 ∃O:Nat→Option Nat,(∀c t,O c=some t→t=0∧w.heap.size≤c∧c<w'.heap.size)∧fo P (fun _=>False) w' O (FW w.heap.size F w') (fun _=>none) (fun _=>none) 0 (.wn false e L lo m) v
def mX(P:Program)(f:FuncId)(args:List D)(e:Nat)(L:List D)(lo m:Nat):Prop :=
 uL P f∧ ∀(w:World) (F:Nat→Prop) (vs:List Value),(∀b,F b→b<w.heap.size)→vs.length=args.length→(∀(i:Nat) (d:D) (v:Value),args[i]?=some d→vs[i]?=some v→Rd w F d v) →
  Calls P f vs.toArray w (fun ee w'=> ∃v,ee= .returned v∧Below w.heap.size w w'∧MZ P w w' F e L lo m v)
theorem mX.pure(hT:bB P T){te:TI}{L:List D}(h:mX P f args e L lo m)(he:T.get e=some te):Pure P f args (.sl te.size ((L.drop lo).take m)):=by
 refine⟨h.1,fun w F vs h1 h2 h3=>(h.2 w F vs h1 h2 h3).mono fun ee w' ⟨v,hv,hb,O,hO,hr⟩=>⟨v,hv,hb,?_⟩⟩;obtain⟨info,d,z,hok⟩:=hT e te he;rcases hr with⟨_,base,rfl,rfl,rfl,rfl⟩|⟨b,o,cap,cs,_,rfl,⟨h0,_⟩,g2,g3,g4,g5,g6,g7,g8⟩
 ·exact .nil (cb _)
 ·rw[hok.cellsOf]at g7 h0;rcases cg m with hm0|hm0
  ·subst hm0;rw[dl];exact .nil g6
  have h0:o=lo*te.size:=by omega
  subst h0;have hlen:((L.drop lo).take m).length=m:=by simp;omega
  have:=Rd.nV (w:=w') (F:=FW w.heap.size F w') (s:=te.size) (l:=(L.drop lo).take m) (off:=lo*te.size) (cap:=cap) (.inr (hO b 0 g2).2) g3 (by omega) g6 (fun y hy=>g7 y (ci (ch hy))) (fun j d hj=>by
   obtain⟨f1,u,f2,f3⟩:=g8 _ d (kn g7 lo m j hj)
   exact⟨f1,u,f2,f3.mono (fun c hc=>hc.2) (fun _ _=>rfl)⟩)
  rwa [hlen]at this
def ux(T:Ty)(σ:St)(t:Nat):Option (Nat×List D×Nat×Nat):=match ex T σ.get 0 (.tmp t)with
 |some (.e0 e)=>some (e,[],0,0)
 |some (.al h)=>match my σ.get (some (.al h))with
  |some (_,e,l,lo,m)=>some (e,l,lo,m)
  |none=>none
 |some (.sb h i k)=>match my σ.get (some (.sb h i k))with
  |some (_,e,l,lo,m)=>some (e,l,lo,m)
  |none=>none
 |_=>none
def PS(T:Ty)(t e:Nat)(L:List D)(lo m:Nat):Exit→St→Prop
 | .normal,σ=>ux T σ t=some (e,L,lo,m)
 | .ret,σ=>ux T σ t=some (e,L,lo,m)
 | .exit _,_=>False
 | .goto _,_=>False
 | .panic _,_=>False
 | .outgrown,_=>False
theorem uQ(hrs:fn.results.toList=[.tmp t]){tmps:Array Value}{v:Value}{w:World}(hv:tmps[t]?=some v):(results fn tmps).run P w= .ok v w:=by
 rw[eV];have hg:tmps.getD t undef=v:=by simp[d7,hv]
 simp only[az,c5,hrs,f7,ga,List.mapM_nil,oL,bn,am,hg];rfl
def KJ(P:Program)(X:Nat→Prop)(w:World)(O:Nat→Option Nat)(F:Nat→Prop)(h e:Nat)(L:List D)(lo m:Nat)(v:Value):Prop :=
 (∃base,v= .slice base 0 0∧L=[]∧lo=0∧m=0) ∨
  ∃b o cap cs,v= .slice (some ⟨b,o,none⟩) m cap∧((m=0∨o=lo*P.cellsOf e)∧(cap=0∨o=lo*P.cellsOf e)∧o+cap*P.cellsOf e≤cs.size)∧O b=some h∧w.heap[b]?=some (.cells cs e (0,0))∧lo+m≤L.length∧m≤cap∧cap≤maxLen∧(∀x,x∈L→x.flat.length=P.cellsOf e) ∧
   ∀(i:Nat) (d:D),(flatAll L)[i]?=some d→d.ba=true∧ ∃u,cs[i]?=some u∧Rd w (aQ O F) d u
theorem BX{a:Act}{w:World}{L:List D}(hR:Rel P B F0 w0 n σ a w)(h:ux T σ t=some (e,L,lo,m)):
  ∃v O h',a.tmps[t]?=some v∧(∀c t,O c=some t→kS B w0 w c)∧KJ P w0.X w O (FW B F0 w) h' e L lo m v:=by
 obtain⟨O,hOr,hO⟩:=hR.own;have hI:Inv P B F0 w0 (fun _=>True) σ.get σ.get a w O:=⟨hR.below,hR.base,hR.f0,hOr,fun t _ av h=>hO t av h,fun t av h _=>hO t av h⟩
 have hsome: ∃v,a.tmps[t]?=some v:=by
  cases hs:σ.get t with
  |none=>simp[ux,ex,hs]at h
  |some av=>obtain⟨v,hv,_⟩:=hO t av hs;exact⟨v,hv⟩
 obtain⟨v,hv⟩:=hsome
 have fin: ∀av,ex T σ.get 0 (.tmp t)=some av→ ∀h',my σ.get (some av)=some (h',e,L,lo,m)→ ∃v O h',a.tmps[t]?=some v∧(∀c t,O c=some t→kS B w0 w c)∧KJ P w0.X w O (FW B F0 w) h' e L lo m v:=fun av hav h' hw=>by
  obtain⟨x,hx,hrow,hlm,cap',hc1,hc2,hvv⟩:=iC hI (aZ hI (fun _ _=>trivial) hav 0).1 hw;rw[gp hv]at hvv;refine⟨v,O,h',hv,hOr,?_⟩;rcases hvv with⟨h0,_,hc0,base,rfl⟩|⟨b,o1,len,cap,cs,o,hq,htm,rfl,h0,hOb,hb,hu,hcells⟩
  ·exact .inl ⟨base,by rw[hc0],b2 h0,by omega,by omega⟩
  ·exact .inr ⟨b,o,cap',cs,rfl,⟨h0.1,h0.2.1,cx h0.2.2.1 hq.2⟩,hOb,hb,hlm,hc1,hc2,hu,hcells⟩
 unfold ux at h;split at h<;>try (cases h;done)
 ·rename_i e' hav;simp at h;obtain⟨rfl,rfl,rfl,rfl⟩:=h;obtain⟨base,hb⟩:=(aZ hI (fun _ _=>trivial) hav 0).1;rw[gp hv]at hb;exact⟨v,O,0,hv,hOr,.inl ⟨base,hb,rfl,rfl,rfl⟩⟩
 ·rename_i h' hav;split at h<;>simp at h;rename_i k e' l' lo' m' hw;obtain⟨rfl,rfl,rfl,rfl⟩:=h;exact fin _ hav _ hw
 ·rename_i h' i k hav;split at h<;>simp at h;rename_i k e' l' lo' m' hw;obtain⟨rfl,rfl,rfl,rfl⟩:=h;exact fin _ hav _ hw
theorem mX.intro{c:Code}{L:List D}(hT:bB P T)(hf:P.funcs[f]?=some fn)(hb:fn.body=some c)(hrs:fn.results.toList=[.tmp t])(hn:fn.ntmps=n)(hl:args.length≤n)(hnm:(fn.name=="runtime.NumGoroutine")=false)
  (h: ∀(B:Nat) (F0:Nat→Prop) (w0:dh),AW P B F0 w0 n c (PS T t e L lo m) (fh 0 args)):mX P f args e L lo m:=by
 refine⟨⟨fn,hf,hnm,by simp[hb]⟩,fun w F vs hF hlen hr=>?_⟩;refine calls_of_wp hf hb<|wp_mono (h w.heap.size F ⟨w,fun _=>False⟩ _ w ?_) ?_
 ·refine⟨.refl _ _ _,a4 _,⟨hF,fun b hb=>hb.elim⟩,rfl,?_,fun _=>none,(fun b t hb=>by simp at hb),fun t av hav=>?_⟩
  ·simp[hn];omega
  ·rw[jL]at hav;simp only[cb,if_true,hG,ek]at hav;obtain⟨d,hd,rfl⟩:=hav;have hlt:t<vs.length:=by rw[hlen];exact(ab.1 hd).1
   refine⟨vs[t],by simp[hD,hlt],?_⟩;exact(hr t d _ hd (a2 hlt)).mono (fun b hb=>⟨rfl,.inl hb⟩) (fun _ _=>rfl)
 ·rintro ee a w' ⟨σ',hq,hR⟩
  have key:ux T σ' t=some (e,L,lo,m)→a.defers=[]∧ ∃v,(results fn a.tmps).run P w'= .ok v w'∧ ∃v',hZ v= .returned v'∧Below w.heap.size w w'∧MZ P w w' F e L lo m v':=fun hq=>by
   refine⟨hR.defers,?_⟩;have hbel:Below w.heap.size w w':=⟨hR.below.os,hR.below.tape,hR.below.output,hR.below.size,fun k hk=>hR.below.block k hk (fun h=>h)⟩;obtain⟨v,O,h',hv,hOr,hc⟩:=BX hR hq;refine⟨v,uQ hrs hv,v,rfl,hbel,fun c=>if O c=some h' then some 0 else none,fun c t hc=>?_,?_⟩
   ·simp only[]at hc;split at hc<;>simp at hc;rename_i hc1;have:=hOr c _ hc1;exact⟨hc.symm,this.1.resolve_right (fun h=>h),this.2⟩
   ·rcases hc with⟨base,h1,h3,h4,h5⟩|⟨b,o,cap,cs,h1,h0,h2,h3,h4,h5,h6,h7,h8⟩
    ·exact .inl ⟨rfl,base,h1,h3,h4,h5⟩
    ·refine .inr ⟨b,o,cap,cs,fun h=>by simp at h,h1,⟨h0.1,h0.2.1,h0.2.2⟩,by simp[h2],h3,h4,h5,h6,h7,fun i d hd=>?_⟩;obtain⟨f1,u,f2,f3⟩:=h8 i d hd;exact⟨f1,u,f2,f3.mono (fun c hc=>⟨by simp only[];rw[hc.1];simp,hc.2⟩) (fun _ _=>rfl)⟩
  cases ee with
  |normal=>exact key hq
  |ret=>exact key hq
  |exit _=>exact hq.elim
  |goto _=>exact hq.elim
  |panic _=>exact hq.elim
  |outgrown=>exact hq.elim
def kA(l:List D):Bool:=(flatAll l).all gi
theorem Rd.plain{w w':World}{F F':Nat→Prop}{y:D}{u:Value}(hy:Rd w F y u)(hp:gi y=true):Rd w' F' y u:=by
 cases hy with
 |v h=>exact .v h
 |nil=>simp[gi]at hp
 |sl=>simp[gi]at hp
 |ag=>simp[gi]at hp
 |tu=>simp[gi]at hp
 |pr=>simp[gi]at hp
 |fn=>simp[gi]at hp
theorem re(h:kA l=true){i:Nat}{d:D}(hd:(flatAll l)[i]?=some d):gi d=true:=by simp only[kA,c4]at h;exact h d<|b3 hd
theorem aM.yD(hT:bB P T){ds:List D}{L:List D}(hd:o.dst=some d)(hn:hm d=none)(hx:yE T lk hm o.op=some (f,ds))(hP:mX P f ds e L lo m)(hs:kA L=true):aM P B F0 w0 d o lk hm (.wn false e L lo m):=by
 refine⟨hd,hn,fun a w O hI K Q hK=>?_⟩;obtain⟨dst,op,ty,pos,after,guard⟩:=o;simp only[]at hd hx hI;cases op<;>simp only[yE]at hx<;>try (cases hx;done)
 rename_i c;obtain⟨callee,args,ats⟩:=c;simp only[]at hx;split at hx<;>try (cases hx;done)
 rename_i g;split at hx<;>simp at hx;rename_i ds' hds;obtain⟨rfl,rfl⟩:=hx;have hr:=mW hT hI (G:=FW B F0 w) (fun _ hc=>hc.2) (fun c t _ hc _ _=>(hI.orange c t hc).fw hI.f0) args.toList ats.toList ds' (fun x hx t ht=>by subst ht;simp[an,cn];exact cS.1 hx) hds;unfold f8;rw[mT hP.1];show Calls P g (args.map a.eval) w _;have hc:=hP.2 w (FW B F0 w) (args.toList.map a.eval) (fun b hb=>(FW.step hI.f0 hI.base (a4 _) b hb).1) hr.1 hr.2;have he:(args.toList.map a.eval).toArray=args.map a.eval:=by apply cA;simp
 rw[he]at hc;refine hc.mono fun ee w' ⟨v,he,hb,O1,hO1,hv⟩=>?_;subst he;have hsz:=hb.size;refine hK v w' (fun c=>if c<w.heap.size then O c else if O1 c=some 0 then some d else none) ⟨hb,fun b hb=>by simp[hb],fun b t hbt=>?_⟩ ?_
 ·split at hbt
  ·rename_i h;exact .inl h
  ·split at hbt<;>simp at hbt;rename_i h1 h2;exact .inr ⟨hbt.symm,(hO1 b 0 h2).2.2⟩
 ·rcases hv with hv|⟨b,o,cap,cs,_,h1,h0,h2,h3,h4,h5,h6,h7,h8⟩
  ·exact .inl hv
  ·have hbge:=(hO1 b 0 h2).2.1;refine .inr ⟨b,o,cap,cs,fun h=>by simp at h,h1,h0,(if_neg (by omega)).trans (if_pos h2),h3,h4,h5,h6,h7,fun i d hd=>?_⟩;obtain⟨f1,u,f2,f3⟩:=h8 i d hd;exact⟨f1,u,f2,f3.plain (re hs hd)⟩
end
end Lift
