/- Parts of the proof, one behind the other: the logic, the contracts of the functions that the statement reaches. -/
import Derived.StillTail
import Derived.Below
import Derived.Laws.AppendOwn
import Derived.Laws.CopyRow
import Derived.Laws.MakeOwn
set_option linter.unusedVariables false
set_option linter.unusedSimpArgs false
namespace Lift
open Go
open Go.RowKit (Below)
inductive D where
 | v (x:Value)
 | sl (s:Nat) (l:List D)
 | ag (l:List D)
 | tu (l:List D)
 | pr (l:List D)
 | fn (k:Nat) (a c:List D)
def D.flat:D→List D
 | .ag l=>l
 | .v x=>[.v x]
 | .sl s l=>[.sl s l]
 | .tu l=>[.tu l]
 | .pr l=>[.pr l]
 | .fn k a c=>[.fn k a c]
def D.bc:D→Bool
 | .v _=>true
 | .sl _ _=>true
 | .ag _=>false
 | .tu _=>false
 | .pr _=>true
 | .fn _ _ _=>true
def flatAll(l:List D):List D:=l.flatMap D.flat
def eG:Value→Bool
 | .int _ _=>true
 | .bool _=>true
 | .nilIface=>true
 | .string s=>decide (s.size≤maxLen)
 | .iface _ (.int _ _)=>true
 | .slice _ _ _=>true
 | .pointer _=>true
 | .nilFunc=>true
 | _=>false
inductive Rd (w:World) (F:Nat→Prop):D→Value→Prop
 | v {x:Value} (h:eG x=true):Rd w F (.v x) x
 | nil {s:Nat} {base:Option Addr} {cap:Nat} (hm:cap≤maxLen):Rd w F (.sl s []) (.slice base 0 cap)
 | sl {s:Nat} {l:List D} {b off cap:Nat} {cs:Array Value} {e:TypeId} {fz:Nat×Nat} (kl:Nat→Value) (hF:F b)
   (hb:w.heap[b]?=some (.cells cs e fz)) (hcap:l.length≤cap) (hm:cap≤maxLen) (hu: ∀x,x∈l→x.flat.length=s)
   (hc: ∀i,i<(flatAll l).length→cs[off+i]?=some (kl i))
   (hk: ∀(i:Nat) (d:D),(flatAll l)[i]?=some d→d.bc=true) (hr: ∀(i:Nat) (d:D),(flatAll l)[i]?=some d→Rd w F d (kl i)):Rd w F (.sl s l) (.slice (some ⟨b,off,none⟩) l.length cap)
 | ag {l:List D} {vs:List Value} (hl:vs.length=l.length) (hk: ∀d,d∈l→d.bc=true) (hr: ∀(i:Nat) (d:D) (u:Value),l[i]?=some d→vs[i]?=some u→Rd w F d u):Rd w F (.ag l) (.agg vs.toArray)
 | tu {l:List D} {vs:List Value} (hl:vs.length=l.length) (hr: ∀(i:Nat) (d:D) (u:Value),l[i]?=some d→vs[i]?=some u→Rd w F d u):Rd w F (.tu l) (.tuple vs.toArray)
 | pr {l:List D} {b:Nat} {cs:Array Value} {e:TypeId} (kl:Nat→Value) (hF:F b) (hb:w.heap[b]?=some (.cells cs e (0,0))) (hc: ∀i,i<l.length→cs[i]?=some (kl i))
   (hk: ∀d,d∈l→d.bc=true) (hr: ∀(i:Nat) (d:D),l[i]?=some d→Rd w F d (kl i)):Rd w F (.pr l) (.pointer (some ⟨b,0,none⟩))
 | fn {k:Nat} {a c:List D} {va vc:List Value} (ha:va.length=a.length) (hc:vc.length=c.length) (ra: ∀(i:Nat) (d:D) (u:Value),a[i]?=some d→va[i]?=some u→Rd w F d u)
   (rc: ∀(i:Nat) (d:D) (u:Value),c[i]?=some d→vc[i]?=some u→Rd w F d u):Rd w F (.fn k a c) (.func (.func k) va.toArray vc.toArray)
def mF(w:World)(F:Nat→Prop)(ds:List D)(vs:List Value):Prop :=
 vs.length=ds.length∧ ∀(i:Nat) (d:D) (u:Value),ds[i]?=some d→vs[i]?=some u→d.bc=true∧Rd w F d u
section rd
variable {w w':World} {F F':Nat→Prop}
theorem Rd.mono{d:D}{v:Value}(h:Rd w F d v)(hF: ∀b,F b→F' b)(hb: ∀b,F b→w'.heap[b]?=w.heap[b]?):Rd w' F' d v:=by
 induction h with
 | v h=>exact .v h
 | nil hm=>exact .nil hm
 | sl kl hf hbb hcap hm hu hc hk hr ih=>exact .sl kl (hF _ hf) ((hb _ hf).trans hbb) hcap hm hu hc hk ih
 | ag hl hk hr ih=>exact .ag hl hk ih
 | tu hl hr ih=>exact .tu hl ih
 | pr kl hf hbb hc hk hr ih=>exact .pr kl (hF _ hf) ((hb _ hf).trans hbb) hc hk ih
 | fn ha hc ra rc ih1 ih2=>exact .fn ha hc ih1 ih2
theorem Rd.kn{x v:Value}(h:Rd w F (.v x) v):v=x∧eG x=true:=by
 cases h with
 | v h=>exact⟨rfl,h⟩
theorem Rd.Nu{l:List D}{v:Value}(h:Rd w F (.ag l) v): ∃vs:List Value,v= .agg vs.toArray∧mF w F l vs:=by
 cases h with
 | ag hl hk hr=>exact⟨_,rfl,hl,fun i d u h1 h2=>⟨hk d (List.mem_of_getElem? h1),hr i d u h1 h2⟩⟩
theorem Rd.MB{l:List D}{v:Value}(h:Rd w F (.tu l) v): ∃vs:List Value,v= .tuple vs.toArray∧vs.length=l.length∧ ∀(i:Nat) (d:D) (u:Value),l[i]?=some d→vs[i]?=some u→Rd w F d u:=by
 cases h with
 | tu hl hr=>exact⟨_,rfl,hl,hr⟩
theorem Rd.Hn{l:List D}{v:Value}(h:Rd w F (.pr l) v): ∃b cs e fz,v= .pointer (some ⟨b,0,none⟩)∧F b∧w.heap[b]?=some (.cells cs e fz) ∧
  ∀(i:Nat) (d:D),l[i]?=some d→d.bc=true∧ ∃u,cs[i]?=some u∧Rd w F d u:=by
 cases h with
 | pr kl hF hb hc hk hr=>exact⟨_,_,_,_,rfl,hF,hb,fun i d hd=>⟨hk d (List.mem_of_getElem? hd),_,hc i (List.getElem?_eq_some_iff.1 hd).1,hr i d hd⟩⟩
theorem Rd.Lt{l:List D}{v:Value}(h:Rd w F (.pr l) v): ∃b cs e,v= .pointer (some ⟨b,0,none⟩)∧F b∧w.heap[b]?=some (.cells cs e (0,0)) ∧
  ∀(i:Nat) (d:D),l[i]?=some d→d.bc=true∧ ∃u,cs[i]?=some u∧Rd w F d u:=by
 cases h with
 | pr kl hF hb hc hk hr=>exact⟨_,_,_,rfl,hF,hb,fun i d hd=>⟨hk d (List.mem_of_getElem? hd),_,hc i (List.getElem?_eq_some_iff.1 hd).1,hr i d hd⟩⟩
theorem Rd.MI{l:List D}{b:Nat}{cs:Array Value}{e:TypeId}(hF:F b)(hb:w.heap[b]?=some (.cells cs e (0,0)))
  (hr: ∀(i:Nat) (d:D),l[i]?=some d→d.bc=true∧ ∃u,cs[i]?=some u∧Rd w F d u):Rd w F (.pr l) (.pointer (some ⟨b,0,none⟩)):=by
 refine .pr (fun i=>(cs[i]?).getD undef) hF hb (fun i hi=>?_) (fun d hd=>?_) (fun i d hd=>?_)
 · obtain ⟨_,u,hu,_⟩:=hr i l[i] (List.getElem?_eq_getElem hi);simp[hu]
 · obtain ⟨i,hi⟩:=List.mem_iff_getElem?.1 hd;exact(hr i d hi).1
 · obtain ⟨h1,u,hu,h2⟩:=hr i d hd;simp only[hu,Option.getD_some];exact h2
theorem Rd.Nb{k:Nat}{a c:List D}{v:Value}(h:Rd w F (.fn k a c) v): ∃va vc:List Value,v= .func (.func k) va.toArray vc.toArray∧va.length=a.length∧vc.length=c.length ∧
  (∀(i:Nat) (d:D) (u:Value),a[i]?=some d→va[i]?=some u→Rd w F d u)∧(∀(i:Nat) (d:D) (u:Value),c[i]?=some d→vc[i]?=some u→Rd w F d u):=by
 cases h with
 | fn ha hc ra rc=>exact⟨_,_,rfl,ha,hc,ra,rc⟩
theorem Rd.A8{s:Nat}{l:List D}{v:Value}(h:Rd w F (.sl s l) v): ∃a cap,v= .slice a l.length cap∧l.length≤cap∧cap≤maxLen ∧
  (l=[]∨ ∃b off cs e fz,a=some ⟨b,off,none⟩∧F b∧w.heap[b]?=some (.cells cs e fz)∧(∀x,x∈l→x.flat.length=s) ∧
   ∀(i:Nat) (d:D),(flatAll l)[i]?=some d→d.bc=true∧ ∃u,cs[off+i]?=some u∧Rd w F d u):=by
 cases h with
 | nil hm=>exact⟨_,_,rfl,Nat.zero_le _,hm,.inl rfl⟩
 | sl kl hF hb hcap hm hu hc hk hr =>
   refine⟨_,_,rfl,hcap,hm,.inr ⟨_,_,_,_,_,rfl,hF,hb,hu,fun i d hd=>⟨hk i d hd,_,hc i (List.getElem?_eq_some_iff.1 hd).1,hr i d hd⟩⟩⟩
theorem Rd.mK{s:Nat}{l:List D}{b off cap:Nat}{cs:Array Value}{e:TypeId}{fz:Nat×Nat}(hF:F b)
  (hb:w.heap[b]?=some (.cells cs e fz)) (hcap:l.length≤cap) (hm:cap≤maxLen) (hu: ∀x,x∈l→x.flat.length=s)
  (hr: ∀(i:Nat) (d:D),(flatAll l)[i]?=some d→d.bc=true∧ ∃u,cs[off+i]?=some u∧Rd w F d u):Rd w F (.sl s l) (.slice (some ⟨b,off,none⟩) l.length cap):=by
 refine .sl (fun i=>(cs[off+i]?).getD undef) hF hb hcap hm hu (fun i hi=>?_) (fun i d hd=>(hr i d hd).1) (fun i d hd=>?_)
 · obtain ⟨_,u,hu,_⟩:=hr i (flatAll l)[i] (List.getElem?_eq_getElem hi);simp[hu]
 · obtain ⟨h1,u,hu,h2⟩:=hr i d hd;simp only[hu,Option.getD_some];exact h2
theorem tt{x:Value}(h:eG x=true):x.oneCell'=true:=by
 cases x<;>simp_all [eG,Value.oneCell']
theorem Rd.cell{d:D}{v:Value}(h:Rd w F d v)(hc:d.bc=true):v.oneCell'=true:=by
 cases h with
 | v h=>exact tt h
 | nil=>rfl
 | sl=>rfl
 | ag=>simp[D.bc] at hc
 | tu=>simp[D.bc] at hc
 | pr=>rfl
 | fn=>rfl
theorem Gf{v:Value}(h:v.oneCell'=true):v.cells= #[v]:=by
 cases v<;>simp_all [Value.oneCell',Value.cells]
theorem D.lU{d:D}(h:d.bc=true):d.flat=[d]:=by
 cases d<;>simp_all [D.bc,D.flat]
theorem Rd.cells{d:D}{v:Value}(h:Rd w F d v)(hd: ∀l,d≠ .tu l):mF w F d.flat v.cells.toList:=by
 cases h with
 | v h =>
   rw[Gf (tt h)];refine⟨rfl,fun i d u h1 h2=>?_⟩;cases i<;>simp[D.flat] at h1 h2;subst h1;subst h2;exact⟨rfl,.v h⟩
 | @nil s base cap hm =>
   refine⟨rfl,fun i d u h1 h2=>?_⟩;cases i<;>simp[D.flat,Value.cells] at h1 h2;subst h1;subst h2;exact⟨rfl,.nil hm⟩
 | sl kl hF hb hcap hm hu hc hk hr =>
   refine⟨rfl,fun i d u h1 h2=>?_⟩;cases i<;>simp[D.flat,Value.cells] at h1 h2;subst h1;subst h2;exact⟨rfl,.sl kl hF hb hcap hm hu hc hk hr⟩
 | ag hl hk hr=>exact⟨by simpa[Value.cells,D.flat] using hl,fun i d u h1 h2=>⟨hk d (List.mem_of_getElem? h1),hr i d u h1 (by simpa[Value.cells] using h2)⟩⟩
 | tu=>exact absurd rfl (hd _)
 | pr kl hF hb hc hk hr =>
   refine⟨rfl,fun i d u h1 h2=>?_⟩;cases i<;>simp[D.flat,Value.cells] at h1 h2;subst h1;subst h2;exact⟨rfl,.pr kl hF hb hc hk hr⟩
 | fn ha hc ra rc =>
   refine⟨rfl,fun i d u h1 h2=>?_⟩;cases i<;>simp[D.flat,Value.cells] at h1 h2;subst h1;subst h2;exact⟨rfl,.fn ha hc ra rc⟩
theorem mF.mono{ds:List D}{vs:List Value}(h:mF w F ds vs)(hF: ∀b,F b→F' b)(hb: ∀b,F b→w'.heap[b]?=w.heap[b]?):mF w' F' ds vs :=
 ⟨h.1,fun i d u h1 h2=>⟨(h.2 i d u h1 h2).1,(h.2 i d u h1 h2).2.mono hF hb⟩⟩
theorem mF.get{ds:List D}{vs:List Value}(h:mF w F ds vs){i:Nat}{d:D}(hi:ds[i]?=some d):d.bc=true∧ ∃u,vs[i]?=some u∧Rd w F d u:=by
 have hlt:i<vs.length:=by rw[h.1];exact(List.getElem?_eq_some_iff.1 hi).1
 exact⟨(h.2 i d _ hi (List.getElem?_eq_getElem hlt)).1,_,List.getElem?_eq_getElem hlt,(h.2 i d _ hi (List.getElem?_eq_getElem hlt)).2⟩
theorem mF.wT{ds:List D}{vs:List Value}(h:mF w F ds vs): ∀u∈vs,u.oneCell'=true:=by
 intro u hu;obtain ⟨i,hi⟩:=List.mem_iff_getElem?.1 hu;have hlt:i<ds.length:=by rw[← h.1];exact(List.getElem?_eq_some_iff.1 hi).1
 have:=h.2 i _ u (List.getElem?_eq_getElem hlt) hi;exact this.2.cell this.1
end rd
inductive AV where
 | d (x:D)
 | bx (cs:List D)
 | pt (h off:Nat)
 | rf (cs:List D)
 | e0 (e:Nat)
 | ow (e:Nat) (l:List D)
 | wn (q:Bool) (e:Nat) (l:List D) (lo m:Nat)
 | al (h:Nat)
 | el (h i off:Nat)
 | sb (h lo m:Nat)
 | un
 | junk
def AV.refs:AV→Option Nat
 | .pt h _=>some h
 | .al h=>some h
 | .el h _ _=>some h
 | .sb h _ _=>some h
 | .d _=>none
 | .bx _=>none
 | .rf _=>none
 | .e0 _=>none
 | .ow _ _=>none
 | .wn _ _ _ _ _=>none
 | .un=>none
 | .junk=>none
def AV.home:AV→Bool
 | .bx _=>true
 | .ow _ _=>true
 | .wn _ _ _ _ _=>true
 | .d _=>false
 | .pt _ _=>false
 | .rf _=>false
 | .e0 _=>false
 | .al _=>false
 | .el _ _ _=>false
 | .sb _ _ _=>false
 | .un=>false
 | .junk=>false
def AV.row:AV→Option (Nat×List D)
 | .ow e l=>some (e,l)
 | .wn q e l _ _=>some (e,l)
 | .d _=>none
 | .bx _=>none
 | .pt _ _=>none
 | .rf _=>none
 | .e0 _=>none
 | .al _=>none
 | .el _ _ _=>none
 | .sb _ _ _=>none
 | .un=>none
 | .junk=>none
def AV.tag:AV→Bool
 | .wn q _ _ _ _=>q
 | .ow _ _=>false
 | .d _=>false
 | .bx _=>false
 | .pt _ _=>false
 | .rf _=>false
 | .e0 _=>false
 | .al _=>false
 | .el _ _ _=>false
 | .sb _ _ _=>false
 | .un=>false
 | .junk=>false
abbrev St:=List (Nat×AV)
def St.get:St→Nat→Option AV
 | [],_=>none
 | (k,a)::r,t=>match Nat.beq k t with
   | true=>some a
   | false=>St.get r t
def AV.kill(d:Nat):AV→AV
 | .pt h o=>match Nat.beq h d with
   | true=> .junk
   | false=> .pt h o
 | .al h=>match Nat.beq h d with
   | true=> .junk
   | false=> .al h
 | .el h i o=>match Nat.beq h d with
   | true=> .junk
   | false=> .el h i o
 | .sb h i o=>match Nat.beq h d with
   | true=> .junk
   | false=> .sb h i o
 | .d x=> .d x
 | .bx cs=> .bx cs
 | .rf cs=> .rf cs
 | .e0 e=> .e0 e
 | .ow e l=> .ow e l
 | .wn q e l i o=> .wn q e l i o
 | .un=> .un
 | .junk=> .junk
def St.kill(d:Nat):St→St
 | []=>[]
 | (k,a)::r=>(k,a.kill d)::St.kill d r
def St.put(σ:St)(d:Nat)(av:AV):St:=match av.home with
 | true=>(d,av)::σ.kill d
 | false=>(d,av)::σ
def St.dJ(ks:List Nat)(σ:St):St:=match ks with
 | []=>[]
 | k::r=>match σ.get k with
   | some a=>(k,a)::St.dJ r σ
   | none=>St.dJ r σ
theorem St.aM(k:Nat)(a:AV)(r:St)(t:Nat):St.get ((k,a)::r) t=if k=t then some a else St.get r t:=by
 simp only[St.get];cases h:Nat.beq k t with
 | true=>simp[Nat.eq_of_beq_eq_true h]
 | false=>simp[Nat.ne_of_beq_eq_false h]
theorem St.dV(d:Nat)(σ:St)(t:Nat):(σ.kill d).get t=(σ.get t).map (AV.kill d):=by
 induction σ with
 | nil=>rfl
 | cons e r ih =>
   obtain ⟨k,a⟩:=e;simp only[St.kill,St.aM];split<;>simp[ih]
theorem St.rE(ks:List Nat)(σ:St)(t:Nat):(σ.dJ ks).get t=if t∈ks then σ.get t else none:=by
 induction ks with
 | nil=>simp[St.dJ,St.get]
 | cons k r ih =>
   simp only[St.dJ];cases h:σ.get k with
   | none =>
     simp only[ih];by_cases hk:t=k
     · subst hk;simp[h]
     · simp[hk]
   | some a =>
     simp only[St.aM,ih];by_cases hk:k=t
     · subst hk;simp[h]
     · simp[hk,Ne.symm hk]
theorem AV.kZ(d:Nat)(a:AV):a.kill d=a∧a.refs≠some d∨a.kill d= .junk:=by
 have key: ∀h:Nat,h=d∨h≠d∧Nat.beq h d=false:=fun h=>by
  by_cases e:h=d
  · exact .inl e
  · exact .inr ⟨e,by cases hb:Nat.beq h d with
     | true=>exact absurd (Nat.eq_of_beq_eq_true hb) e
     | false=>rfl⟩
 cases a with
 | pt h o=>rcases key h with rfl | ⟨e,hb⟩<;>simp[AV.kill,AV.refs, *]
 | al h=>rcases key h with rfl | ⟨e,hb⟩<;>simp[AV.kill,AV.refs, *]
 | el h i o=>rcases key h with rfl | ⟨e,hb⟩<;>simp[AV.kill,AV.refs, *]
 | sb h i o=>rcases key h with rfl | ⟨e,hb⟩<;>simp[AV.kill,AV.refs, *]
 | _=>simp[AV.kill,AV.refs]
theorem cO{s:Nat}: ∀{l:List D} {i:Nat} {e:D} (j:Nat),(∀x,x∈l→x.flat.length=s)→l[i]?=some e→j<s→(flatAll l)[i*s+j]?=e.flat[j]?
 | [],i,e,j,_,h,_=>by simp at h
 | x::l,0,e,j,hu,h,hj=>by
   simp at h;subst h;have:=hu x (by simp);simp only[flatAll,List.flatMap_cons,Nat.zero_mul,Nat.zero_add];rw[List.getElem?_append_left (by omega)]
 | x::l,i+1,e,j,hu,h,hj=>by
   have hx:=hu x (by simp);have ih:=cO (l:=l) (i:=i) j (fun y hy=>hu y (by simp[hy])) (by simpa using h) hj;simp only[flatAll,List.flatMap_cons];rw[List.getElem?_append_right (by rw[hx,Nat.succ_mul];omega),hx,show (i+1)*s+j-s=i*s+j by rw[Nat.succ_mul];omega];exact ih
theorem aR{s:Nat}: ∀{l:List D},(∀x,x∈l→x.flat.length=s)→(flatAll l).length=l.length*s
 | [],_=>by simp[flatAll]
 | x::l,hu=>by
   have hx:=hu x (by simp);have ih:=aR (l:=l) (fun y hy=>hu y (by simp[hy]));simp only[flatAll,List.flatMap_cons,List.length_append,List.length_cons,hx] at ih ⊢;rw[ih,Nat.succ_mul];omega
theorem b9(l m:List D):flatAll (l++m)=flatAll l++flatAll m:=by simp[flatAll]
theorem jB{s:Nat}{l:List D}(hu: ∀x,x∈l→x.flat.length=s)(lo m i:Nat){d:D}(h:(flatAll ((l.drop lo).take m))[i]?=some d):(flatAll l)[lo*s+i]?=some d:=by
 have hus: ∀y,y∈(l.drop lo).take m→y.flat.length=s:=fun y hy=>hu y (List.mem_of_mem_drop (List.mem_of_mem_take hy));have hil:=(List.getElem?_eq_some_iff.1 h).1;rw[aR hus] at hil
 have hs0:0<s:=by
  rcases Nat.eq_zero_or_pos s with h | h
  · subst h;simp at hil
  · exact h
 have hq:i / s<((l.drop lo).take m).length:=Nat.div_lt_of_lt_mul (by rw[Nat.mul_comm];exact hil);have hmod:=Nat.mod_lt i hs0;have hid:i / s*s+i%s=i:=by rw[Nat.mul_comm];exact Nat.div_add_mod _ _
 have e1:=cO (i%s) hus (List.getElem?_eq_getElem hq) hmod;rw[hid,h] at e1
 have hel:l[lo+i / s]?=some ((l.drop lo).take m)[i / s]:=by
  have:=List.getElem?_eq_getElem hq;rw[List.getElem?_take,List.getElem?_drop] at this;split at this
  · exact this
  · cases this
 have e2:=cO (i%s) hu hel hmod;rw[← e1,Nat.add_mul,Nat.add_assoc,hid] at e2;exact e2
end Lift
namespace Lift
open Go
open Go.RowKit (Below)
structure TI where
 size:Nat
 bytes:Nat
 agg:Bool
 zero:List D
 fields:List (Nat×Nat×Bool)
 elem:Nat
 kind:Nat
 ik:IntKind
abbrev Ty:=List (Nat×TI)
def Ty.get:Ty→Nat→Option TI
 | [],_=>none
 | (k,a)::r,t=>match Nat.beq k t with
   | true=>some a
   | false=>Ty.get r t
theorem Ty.aM(k:Nat)(a:TI)(r:Ty)(t:Nat):Ty.get ((k,a)::r) t=if k=t then some a else Ty.get r t:=by
 simp only[Ty.get];cases h:Nat.beq k t with
 | true=>simp[Nat.eq_of_beq_eq_true h]
 | false=>simp[Nat.ne_of_beq_eq_false h]
def NB:D→Value→Bool
 | .v (.int k n),.int k' n'=>decide (k=k')&&decide (n=n')
 | .v (.bool b),.bool b'=>b==b'
 | .v (.string s),.string s'=>decide (s.data=s'.data)&&decide (s.size=0)
 | .v .nilIface,.nilIface=>true
 | .v .nilFunc,.nilFunc=>true
 | .v (.pointer none),.pointer none=>true
 | .sl _ [],.slice none 0 0=>true
 | _,_=>false
def tP:List D→List Value→Bool
 | [],[]=>true
 | d::ds,v::vs=>NB d v&&tP ds vs
 | _,_=>false
theorem Gn{w:World}{F:Nat→Prop}{d:D}{v:Value}(h:NB d v=true):d.bc=true∧Rd w F d v:=by
 unfold NB at h;split at h
 · simp at h;obtain ⟨rfl,rfl⟩:=h;exact⟨rfl,.v rfl⟩
 · simp at h;subst h;exact⟨rfl,.v rfl⟩
 · rename_i s s';simp at h;have:s=s':=by cases s;cases s';simp_all
   subst this;exact⟨rfl,.v (by simp[eG,h.2,maxLen])⟩
 · exact⟨rfl,.v rfl⟩
 · exact⟨rfl,.v rfl⟩
 · exact⟨rfl,.v rfl⟩
 · exact⟨rfl,.nil (Nat.zero_le _)⟩
 · cases h
theorem qe{w:World}{F:Nat→Prop}: ∀{ds:List D} {vs:List Value},tP ds vs=true→mF w F ds vs
 | [],[],_=>⟨rfl,fun i d u h=>by simp at h⟩
 | [],_::_,h=>by simp[tP] at h
 | _::_,[],h=>by simp[tP] at h
 | d::ds,v::vs,h=>by
   simp only[tP,Bool.and_eq_true] at h;have ih:=qe (w:=w) (F:=F) h.2;refine⟨by simp[ih.1],fun i d' u h1 h2=>?_⟩;cases i with
   | zero=>simp at h1 h2;subst h1;subst h2;exact Gn h.1
   | succ i=>exact ih.2 i d' u (by simpa using h1) (by simpa using h2)
def Kq(P:Program)(t:Nat):Bool:=match P.underlying t with
 | some (.struct _)=>true
 | some (.array _ _)=>true
 | _=>false
def fieldsOf(P:Program)(fs:List Field):List (Nat×Nat×Bool):=fs.map fun f=>(f.offset,P.cellsOf f.type,Kq P f.type)
def lA(P:Program)(i:TI):TypeDesc→Bool
 | .struct fs=>decide (i.kind=5)&&i.agg&&decide (fieldsOf P fs.toList=i.fields)&&fs.toList.all (fun f=>(P.info? f.type).isSome&&(P.underlying f.type).isSome&&decide (0<P.cellsOf f.type))
 | .slice e=>decide (i.kind=4)&& !i.agg&&decide (i.elem=e)
 | .string=>decide (i.kind=3)&& !i.agg
 | .int k=>decide (i.kind=2)&& !i.agg&&decide (i.ik=k)
 | .bool=>decide (i.kind=1)&& !i.agg
 | .interface _=>decide (i.kind=6)&& !i.agg
 | .pointer _=>decide (i.kind=7)&& !i.agg
 | .func _ _ _=>decide (i.kind=8)&& !i.agg
 | .array n e=>decide (i.kind=9)&&i.agg&&decide (i.elem=e)&&decide (i.fields=[(n,P.cellsOf e,true)])
 | _=>false
def TI.check(P:Program)(t:Nat)(i:TI):Bool :=
 match P.info? t,P.underlying t with
 | some info,some d=>decide (info.size=i.size)&&decide (info.bytes=i.bytes)&&lA P i d&&(match info.zero with
   | some z=>tP i.zero z.cells.toList&&decide (z.cells.size=i.size)
   | none=>false)
 | _,_=>false
structure jS (P:Program) (t:Nat) (i:TI) (info:TypeInfo) (d:TypeDesc) (z:Value):Prop where
 hinfo:P.info? t=some info
 und:P.underlying t=some d
 size:info.size=i.size
 bytes:info.bytes=i.bytes
 desc:lA P i d=true
 zero:info.zero=some z
 tP:tP i.zero z.cells.toList=true
 zsize:z.cells.size=i.size
theorem TI.rJ{P:Program}{t:Nat}{i:TI}(h:TI.check P t i=true): ∃info d z,jS P t i info d z:=by
 unfold TI.check at h;split at h
 · rename_i info d h1 h2;simp only[Bool.and_eq_true,decide_eq_true_eq] at h;obtain ⟨⟨⟨h3,h4⟩,h5⟩,h6⟩:=h;split at h6
   · rename_i z hz;simp only[Bool.and_eq_true,decide_eq_true_eq] at h6;exact⟨info,d,z,h1,h2,h3,h4,h5,hz,h6.1,h6.2⟩
   · cases h6
 · cases h
def bD(P:Program)(T:Ty):Prop:= ∀t i,T.get t=some i→ ∃info d z,jS P t i info d z
def Ty.check(P:Program):Ty→Bool
 | []=>true
 | (k,i)::r=>TI.check P k i&&Ty.check P r
theorem Ty.rJ{P:Program}: ∀{T:Ty},T.check P=true→bD P T
 | [],_,t,i,h=>by simp[Ty.get] at h
 | (k,a)::r,hc,t,i,h=>by
   simp only[Ty.check,Bool.and_eq_true] at hc;rw[Ty.aM] at h;split at h
   · rename_i hk;subst hk;simp at h;subst h;exact TI.rJ hc.1
   · exact Ty.rJ hc.2 t i h
theorem jS.cellsOf{P:Program}{t:Nat}{i:TI}{info:TypeInfo}{d:TypeDesc}{z:Value}(h:jS P t i info d z):P.cellsOf t=i.size:=by
 simp[Program.cellsOf,h.hinfo,h.size]
def aP(O:Nat→Option Nat)(F:Nat→Prop)(b:Nat):Prop:=O b=none∧F b
structure cX where
 w:World
 X:Nat→Prop
def j7(B:Nat)(w0:cX)(w:World)(b:Nat):Prop:=(B≤b∨w0.X b)∧b<w.heap.size
structure iI (B:Nat) (w0:cX) (a c:World):Prop where
 os:c.os=a.os
 tape:c.tape=a.tape
 output:c.output=a.output
 size:a.heap.size≤c.heap.size
 block: ∀k,k<B→ ¬w0.X k→c.heap[k]?=a.heap[k]?
 same: ∀(k:Nat) (cs:Array Value) (e:TypeId) (fz:Nat×Nat),a.heap[k]?=some (Obj.cells cs e fz)→ ∃cs':Array Value,c.heap[k]?=some (Obj.cells cs' e fz)∧cs'.size=cs.size
theorem iI.refl(B:Nat)(w0:cX)(a:World):iI B w0 a a:=⟨rfl,rfl,rfl,Nat.le_refl _,fun _ _ _=>rfl,fun _ cs _ _ h=>⟨cs,h,rfl⟩⟩
theorem iI.trans{B:Nat}{w0:cX}{a b c:World}(h:iI B w0 a b)(k:iI B w0 b c):iI B w0 a c :=
 ⟨k.os.trans h.os,k.tape.trans h.tape,k.output.trans h.output,Nat.le_trans h.size k.size,fun i hi hx=>(k.block i hi hx).trans (h.block i hi hx),fun i cs e fz hi=>by
   obtain ⟨c1,h1,h2⟩:=h.same i cs e fz hi;obtain ⟨c2,h3,h4⟩:=k.same i c1 e fz h1
   exact⟨c2,h3,h4.trans h2⟩⟩
theorem iI.of{B:Nat}{w0:cX}{a c:World}(h:Below a.heap.size a c)(hB:B≤a.heap.size):iI B w0 a c :=
 ⟨h.os,h.tape,h.output,h.size,fun i hi _=>h.block i (Nat.lt_of_lt_of_le hi hB),fun i cs e fz hi=>⟨cs,(h.block i (Array.getElem?_eq_some_iff.1 hi).1).trans hi,rfl⟩⟩
theorem iI.drew{B:Nat}{w0:cX}{a w:World}(h:iI B w0 a w):iI B w0 a {w with drawn:=w.drawn+1}:=⟨h.os,h.tape,h.output,h.size,h.block,h.same⟩
theorem iI.write{B:Nat}{w0:cX}{w:World}{b:Nat}{cs cs':Array Value}{e:TypeId}{fz:Nat×Nat}(hb:w.heap[b]?=some (.cells cs e fz))(hs:cs'.size=cs.size)(hx:B≤b∨w0.X b):iI B w0 w (w.setRow b cs'):=by
 refine⟨rfl,rfl,rfl,by simp,fun k hk hxk=>setRow_other w b k cs' (fun e=>?_),fun k c e' fz' hk=>?_⟩
 · subst e;rcases hx with h1 | h1
   · omega
   · exact hxk h1
 · by_cases hkb:k=b
   · subst hkb;rw[hb] at hk;simp at hk;obtain ⟨rfl,rfl,rfl⟩:=hk;exact⟨cs',setRow_heap w k _ cs' _ _ hb,hs⟩
   · exact⟨c,(setRow_other w b k cs' hkb).trans hk,rfl⟩
structure D8 (B:Nat) (F0:Nat→Prop) (w0:cX):Prop where
 lt: ∀b,F0 b→b<B
 x: ∀b,w0.X b→F0 b
def FW(B:Nat)(F0:Nat→Prop)(w:World)(b:Nat):Prop:=F0 b∨(B≤b∧b<w.heap.size)
def eQ(P:Program)(X:Nat→Prop)(w:World)(O:Nat→Option Nat)(F:Nat→Prop)(hm:Nat→Option AV)(tm:Nat→Option Value)(t:Nat):AV→Value→Prop
 | .d x,v=>Rd w (aP O F) x v
 | .bx ds,v=> ∃b cs e,v= .pointer (some ⟨b,0,none⟩)∧O b=some t∧w.heap[b]?=some (.cells cs e (0,0))∧mF w (aP O F) ds cs.toList
 | .pt h off,v=> ∀ds,hm h=some (.bx ds)→ ∃b,tm h=some (.pointer (some ⟨b,0,none⟩))∧v= .pointer (some ⟨b,off,none⟩)
 | .rf ds,v=> ∃b off cs e fz,v= .pointer (some ⟨b,off,none⟩)∧aP O F b∧w.heap[b]?=some (.cells cs e fz) ∧
   ∀(i:Nat) (d:D),ds[i]?=some d→d.bc=true∧ ∃u,cs[off+i]?=some u∧Rd w (aP O F) d u
 | .e0 _,v=> ∃base,v= .slice base 0 0
 | .ow e l,v=>(∃base,v= .slice base 0 0∧l=[])∨ ∃b cap cs,v= .slice (some ⟨b,0,none⟩) l.length cap∧O b=some t∧w.heap[b]?=some (.cells cs e (0,0)) ∧
   l.length≤cap∧cap≤maxLen∧cs.size=cap*P.cellsOf e∧(∀x,x∈l→x.flat.length=P.cellsOf e) ∧
   ∀(i:Nat) (d:D),(flatAll l)[i]?=some d→d.bc=true∧ ∃u,cs[i]?=some u∧Rd w (aP O F) d u
 | .wn q e l lo m,v=>(q=false∧ ∃base,v= .slice base 0 0∧l=[]∧lo=0∧m=0)∨ ∃b o cap cs,(q=true→X b)∧v= .slice (some ⟨b,o,none⟩) m cap∧((m=0∨o=lo*P.cellsOf e)∧(cap=0∨o=lo*P.cellsOf e)∧o+cap*P.cellsOf e≤cs.size)∧O b=some t∧w.heap[b]?=some (.cells cs e (0,0)) ∧
   lo+m≤l.length∧m≤cap∧cap≤maxLen∧(∀x,x∈l→x.flat.length=P.cellsOf e) ∧
   ∀(i:Nat) (d:D),(flatAll l)[i]?=some d→d.bc=true∧ ∃u,cs[i]?=some u∧Rd w (aP O F) d u
 | .al h,v=> ∀x,hm h=some x→x.row.isSome=true→tm h=some v
 | .el h i off,v=> ∀x e l,hm h=some x→x.row=some (e,l)→i<l.length∧ ∃b o1 len cap,tm h=some (.slice (some ⟨b,o1,none⟩) len cap)∧v= .pointer (some ⟨b,i*P.cellsOf e+off,none⟩)
 | .sb h lo m,v=> ∀x e l,hm h=some x→x.row=some (e,l)→lo+m≤l.length∧ ∃cap',m≤cap'∧cap'≤maxLen∧((l.length=0∧x.tag=false∧cap'=0∧ ∃base,v= .slice base 0 cap') ∨
   ∃b o1 len cap o,tm h=some (.slice (some ⟨b,o1,none⟩) len cap)∧v= .slice (some ⟨b,o,none⟩) m cap'∧(m=0∨o=lo*P.cellsOf e)∧(cap'=0∨o=lo*P.cellsOf e)∧o+cap'*P.cellsOf e≤o1+cap*P.cellsOf e∧cap'≤cap)
 | .un,v=>v=undef
 | .junk,_=>True
theorem dy{x:AV}(h:x.row.isSome=true):x.home=true:=by cases x<;>simp_all [AV.row,AV.home]
theorem eQ.mono{P:Program}{X:Nat→Prop}{w w':World}{O O':Nat→Option Nat}{F F':Nat→Prop}{hm hm':Nat→Option AV}{tm tm':Nat→Option Value}{t:Nat}{av:AV}{v:Value}
  (h:eQ P X w O F hm tm t av v) (hF: ∀b,F b→b<w.heap.size∧F' b) (hO: ∀b,b<w.heap.size→O' b=O b)
  (hOr: ∀b u,O b=some u→b<w.heap.size) (hb: ∀b,b<w.heap.size→w'.heap[b]?=w.heap[b]?)
  (hr: ∀k,av.refs=some k→ ∀x,x.home=true→hm' k=some x→hm k=some x∧tm' k=tm k):eQ P X w' O' F' hm' tm' t av v:=by
 have hFr: ∀b,aP O F b→aP O' F' b:=fun b hb=>⟨by rw[hO b (hF b hb.2).1];exact hb.1,(hF b hb.2).2⟩;have hB: ∀b,aP O F b→w'.heap[b]?=w.heap[b]?:=fun b h'=>hb b (hF b h'.2).1;cases av with
 | d x=>exact Rd.mono h hFr hB
 | bx ds =>
   obtain ⟨b,cs,e,h1,h2,h3,h4⟩:=h;have:=hOr b t h2;exact⟨b,cs,e,h1,(hO b this).trans h2,(hb b this).trans h3,h4.mono hFr hB⟩
 | pt k off =>
   intro ds hds;obtain ⟨e2,e1⟩:=hr k rfl _ rfl hds;rw[e1];exact h ds e2
 | rf ds =>
   obtain ⟨b,off,cs,e,fz,h1,h2,h3,h4⟩:=h;exact⟨b,off,cs,e,fz,h1,hFr b h2,(hB b h2).trans h3,fun i d hd=>⟨(h4 i d hd).1,let ⟨u,hu,hr⟩:=(h4 i d hd).2;⟨u,hu,hr.mono hFr hB⟩⟩⟩
 | e0 e=>exact h
 | ow e l =>
   rcases h with h | ⟨b,cap,cs,h1,h2,h3,h4,h5,h6,h7,h8⟩
   · exact .inl h
   · have:=hOr b t h2;exact .inr ⟨b,cap,cs,h1,(hO b this).trans h2,(hb b this).trans h3,h4,h5,h6,h7,fun i d hd=>⟨(h8 i d hd).1,let ⟨u,hu,hr⟩:=(h8 i d hd).2;⟨u,hu,hr.mono hFr hB⟩⟩⟩
 | wn q e l lo m =>
   rcases h with h | ⟨b,o,cap,cs,hq,h1,h0,h2,h3,h4,h5,h6,h7,h8⟩
   · exact .inl h
   have:=hOr b t h2;exact .inr ⟨b,o,cap,cs,hq,h1,h0,(hO b this).trans h2,(hb b this).trans h3,h4,h5,h6,h7,fun i d hd=>⟨(h8 i d hd).1,let ⟨u,hu,hr⟩:=(h8 i d hd).2;⟨u,hu,hr.mono hFr hB⟩⟩⟩
 | al k =>
   intro x hx hrow;obtain ⟨e2,e1⟩:=hr k rfl _ (dy hrow) hx;rw[e1];exact h x e2 hrow
 | el k i off =>
   intro x e l hx hrow;obtain ⟨e2,e1⟩:=hr k rfl _ (dy (by rw[hrow];rfl)) hx;rw[e1];exact h x e l e2 hrow
 | sb k lo m =>
   intro x e l hx hrow;obtain ⟨e2,e1⟩:=hr k rfl _ (dy (by rw[hrow];rfl)) hx;rw[e1];exact h x e l e2 hrow
 | un=>exact h
 | junk=>trivial
theorem eQ.write{P:Program}{X:Nat→Prop}{w:World}{O:Nat→Option Nat}{F F':Nat→Prop}{hm hm':Nat→Option AV}{tm:Nat→Option Value}{t h b:Nat}{av:AV}{v:Value}{cs:Array Value}
  (ha:eQ P X w O F hm tm t av v) (hb:O b=some h) (ht:t=h→av.home=false) (hF: ∀b,F b→F' b)
  (hr: ∀k,av.refs=some k→(∀ds,hm' k=some (.bx ds)→ ∃ds',hm k=some (.bx ds'))∧(∀x e l,hm' k=some x→x.row=some (e,l)→ ∃y l',hm k=some y∧y.row=some (e,l')∧l'.length=l.length∧y.tag=x.tag)):
  eQ P X (w.setRow b cs) O F' hm' tm t av v:=by
 have hFr: ∀c,aP O F c→aP O F' c:=fun c hc=>⟨hc.1,hF c hc.2⟩;have hB: ∀c,aP O F c→(w.setRow b cs).heap[c]?=w.heap[c]?:=fun c hc=>setRow_other w b c cs (fun e=>by rw[e,aP,hb] at hc;cases hc.1);cases av with
 | d x=>exact Rd.mono ha hFr hB
 | bx ds =>
   obtain ⟨c,cc,e,h1,h2,h3,h4⟩:=ha
   have hne:c≠b:=fun e=>by
    subst e;rw[hb] at h2;simp at h2;have:=ht h2.symm;simp[AV.home] at this
   exact⟨c,cc,e,h1,h2,(setRow_other w b c cs hne).trans h3,h4.mono hFr hB⟩
 | pt k off =>
   intro ds hds;obtain ⟨ds',e2⟩:=(hr k rfl).1 ds hds;exact ha ds' e2
 | rf ds =>
   obtain ⟨c,off,cc,e,fz,h1,h2,h3,h4⟩:=ha;exact⟨c,off,cc,e,fz,h1,hFr c h2,(hB c h2).trans h3,fun i d hd=>⟨(h4 i d hd).1,let ⟨u,hu,hr⟩:=(h4 i d hd).2;⟨u,hu,hr.mono hFr hB⟩⟩⟩
 | e0 e=>exact ha
 | ow e l =>
   rcases ha with ha | ⟨c,cap,cc,h1,h2,h3,h4,h5,h6,h7,h8⟩
   · exact .inl ha
   · have hne:c≠b:=fun e=>by
      subst e;rw[hb] at h2;simp at h2;have:=ht h2.symm;simp[AV.home] at this
     exact .inr ⟨c,cap,cc,h1,h2,(setRow_other w b c cs hne).trans h3,h4,h5,h6,h7,fun i d hd=>⟨(h8 i d hd).1,let ⟨u,hu,hr⟩:=(h8 i d hd).2;⟨u,hu,hr.mono hFr hB⟩⟩⟩
 | wn q e l lo m =>
   rcases ha with ha | ⟨c,o,cap,cc,hq,h1,h0,h2,h3,h4,h5,h6,h7,h8⟩
   · exact .inl ha
   have hne:c≠b:=fun e=>by
    subst e;rw[hb] at h2;simp at h2;have:=ht h2.symm;simp[AV.home] at this
   exact .inr ⟨c,o,cap,cc,hq,h1,h0,h2,(setRow_other w b c cs hne).trans h3,h4,h5,h6,h7,fun i d hd=>⟨(h8 i d hd).1,let ⟨u,hu,hr⟩:=(h8 i d hd).2;⟨u,hu,hr.mono hFr hB⟩⟩⟩
 | al k =>
   intro x hx hrow;cases hrw:x.row with
   | none=>rw[hrw] at hrow;cases hrow
   | some p =>
     obtain ⟨y,l',e2,e3,_,_⟩:=(hr k rfl).2 x p.1 p.2 hx hrw;exact ha y e2 (by rw[e3];rfl)
 | el k i off =>
   intro x e l hx hrow;obtain ⟨y,l',e2,e3,e4,e5⟩:=(hr k rfl).2 x e l hx hrow;obtain ⟨h0,h1⟩:=ha y e l' e2 e3;exact⟨by omega,h1⟩
 | sb k lo m =>
   intro x e l hx hrow;obtain ⟨y,l',e2,e3,e4,e5⟩:=(hr k rfl).2 x e l hx hrow;obtain ⟨h0,cap',h1,h2,h3⟩:=ha y e l' e2 e3;rw[e4] at h0 h3;rw[e5] at h3;exact⟨h0,cap',h1,h2,h3⟩
 | un=>exact ha
 | junk=>trivial
structure Inv (P:Program) (B:Nat) (F0:Nat→Prop) (w0:cX) (R:Nat→Prop) (lk hm:Nat→Option AV) (a:Act) (w:World) (O:Nat→Option Nat):Prop where
 below:iI B w0 w0.w w
 base:B≤w.heap.size
 f0:D8 B F0 w0
 orange: ∀b t,O b=some t→j7 B w0 w b
 rd: ∀t,R t→ ∀av,lk t=some av→ ∃v,a.tmps[t]?=some v∧eQ P w0.X w O (FW B F0 w) hm (fun h=>a.tmps[h]?) t av v
 hm: ∀t av,hm t=some av→av.home=true→ ∃v,a.tmps[t]?=some v∧eQ P w0.X w O (FW B F0 w) hm (fun h=>a.tmps[h]?) t av v
structure du (w:World) (O:Nat→Option Nat) (d:Nat) (w':World) (O':Nat→Option Nat):Prop where
 below:Below w.heap.size w w'
 same: ∀b,b<w.heap.size→O' b=O b
 mine: ∀b t,O' b=some t→b<w.heap.size∨(t=d∧b<w'.heap.size)
theorem du.refl{w:World}{O:Nat→Option Nat}{d:Nat}(h: ∀b t,O b=some t→b<w.heap.size):du w O d w O:=⟨.refl _ _,fun _ _=>rfl,fun b t hb=> .inl (h b t hb)⟩
theorem j7.fw{B:Nat}{F0:Nat→Prop}{w0:cX}{w:World}{b:Nat}(h:j7 B w0 w b)(f0:D8 B F0 w0):FW B F0 w b:=by
 rcases h.1 with h1 | h1
 · exact .inr ⟨h1,h.2⟩
 · exact .inl (f0.x b h1)
theorem FW.step{B:Nat}{F0:Nat→Prop}{w0:cX}{w w':World}(f0:D8 B F0 w0)(hB:B≤w.heap.size)(hs:w.heap.size≤w'.heap.size)(b:Nat)(h:FW B F0 w b):b<w.heap.size∧FW B F0 w' b:=by
 rcases h with h | ⟨h1,h2⟩
 · exact⟨Nat.lt_of_lt_of_le (f0.lt b h) hB,.inl h⟩
 · exact⟨h2,.inr ⟨h1,Nat.lt_of_lt_of_le h2 hs⟩⟩
theorem bg{P:Program}{o:Oper}{a:Act}{w w':World}{v:Value}{K:Act→World→Prop}{Q:Exit→Act→World→Prop}
  (h:(execOp a.eval o).run P w= .ok (.value v) w') (hk:K (a.put o.dst v) w'):o.wp P a w K Q:=by
 unfold Oper.wp;rw[h];exact hk
theorem uZ{P:Program}{o:Oper}{a:Act}{w w':World}{K:Act→World→Prop}{Q:Exit→Act→World→Prop}
  (h:(execOp a.eval o).run P w= .ok .skip w') (hk:K (a.put o.dst undef) w'):o.wp P a w K Q:=by
 unfold Oper.wp;rw[h];exact hk
def aN(P:Program)(B:Nat)(F0:Nat→Prop)(w0:cX)(d:Nat)(o:Oper)(lk hm:Nat→Option AV)(av:AV):Prop :=
 o.dst=some d∧hm d=none∧ ∀(a:Act) (w:World) (O:Nat→Option Nat),Inv P B F0 w0 (fun t=> .tmp t∈o.op.operands) lk hm a w O →
   ∀(K:Act→World→Prop) (Q:Exit→Act→World→Prop),
    (∀v w' O',du w O d w' O'→eQ P w0.X w' O' (FW B F0 w') hm (fun h=>a.tmps[h]?) d av v→K (a.put o.dst v) w')→o.wp P a w K Q
def DM(T:Ty)(t:Nat):Option Nat:=match T.get t with
 | some i=>match Nat.beq i.kind 4 with
   | true=>some i.elem
   | false=>none
 | none=>none
def ex(T:Ty)(lk:Nat→Option AV)(ty:Nat):Operand→Option AV
 | .tmp t=>match lk t with
   | some (.ow _ _)=>some (.al t)
   | some (.wn _ _ _ _ _)=>some (.al t)
   | some (.sb h i o)=>some (.sb h i o)
   | some (.bx _)=>some (.pt t 0)
   | some .junk=>none
   | some .un=>none
   | some (.d x)=>some (.d x)
   | some (.pt h o)=>some (.pt h o)
   | some (.rf c)=>some (.rf c)
   | some (.e0 e)=>some (.e0 e)
   | some (.al h)=>some (.al h)
   | some (.el h i o)=>some (.el h i o)
   | none=>none
 | .const (.int k n)=>some (.d (.v (.int k n)))
 | .const (.bool b)=>some (.d (.v (.bool b)))
 | .const .nilIface=>some (.d (.v .nilIface))
 | .const .nilFunc=>some (.d (.v .nilFunc))
 | .const (.pointer none)=>some (.d (.v (.pointer none)))
 | .const (.string s)=>match decide (s.size≤maxLen) with
   | true=>some (.d (.v (.string s)))
   | false=>none
 | .const (.slice none 0 0)=>match DM T ty with
   | some e=>some (.e0 e)
   | none=>none
 | .func k=>some (.d (.fn k [] []))
 | _=>none
def dC(T:Ty):Option AV→Option D
 | some (.d x)=>some x
 | some (.e0 e)=>match T.get e with
   | some i=>some (.sl i.size [])
   | none=>none
 | _=>none
def Jc(T:Ty)(hm:Nat→Option AV):Option AV→Option D
 | some (.d x)=>some x
 | some (.e0 e)=>match T.get e with
   | some i=>some (.sl i.size [])
   | none=>none
 | some (.al h)=>match hm h with
   | some (.ow e l)=>match T.get e with
     | some i=>some (.sl i.size l)
     | none=>none
   | some (.wn q e l lo m)=>match T.get e with
     | some i=>some (.sl i.size ((l.drop lo).take m))
     | none=>none
   | _=>none
 | some (.sb h lo m)=>match hm h with
   | some x=>match x.row with
     | some (e,l)=>match T.get e with
       | some i=>some (.sl i.size ((l.drop lo).take m))
       | none=>none
     | none=>none
   | none=>none
 | _=>none
section
variable {P:Program} {T:Ty} {B:Nat} {F0:Nat→Prop} {w0:cX} {R:Nat→Prop} {lk hm:Nat→Option AV} {a:Act} {w:World} {O:Nat→Option Nat}
theorem gn{t:Nat}{v:Value}(h:a.tmps[t]?=some v):a.eval (.tmp t)=v:=by
 simp[Act.eval,Array.getD_eq_getD_getElem?,h]
theorem eval_const{v:Value}:a.eval (.const v)=v:=rfl
theorem a6(hI:Inv P B F0 w0 R lk hm a w O){ty:Nat}{x:Operand}{av:AV}(hx: ∀t,x= .tmp t→R t)(h:ex T lk ty x=some av)(k:Nat):
  eQ P w0.X w O (FW B F0 w) hm (fun h=>a.tmps[h]?) k av (a.eval x)∧av.home=false:=by
 cases x with
 | tmp t =>
   simp only[ex] at h;have hR:=hx t rfl;cases hl:lk t with
   | none=>simp[hl] at h
   | some b =>
     obtain ⟨v,hv,hr⟩:=hI.rd t hR b hl;rw[gn hv];rw[hl] at h;cases b<;>simp at h<;>subst h
     case d=>exact⟨hr,rfl⟩
     case bx ds =>
      refine⟨fun ds' hd=>?_,rfl⟩;obtain ⟨b,_,_,h1,_⟩:=hr;exact⟨b,by simp only[hv,h1],h1⟩
     case pt=>exact⟨hr,rfl⟩
     case rf=>exact⟨hr,rfl⟩
     case e0=>exact⟨hr,rfl⟩
     case ow e l=>exact⟨fun _ _ _=>hv,rfl⟩
     case wn q e l lo m=>exact⟨fun _ _ _=>hv,rfl⟩
     case sb=>exact⟨hr,rfl⟩
     case al=>exact⟨hr,rfl⟩
     case el=>exact⟨hr,rfl⟩
 | const c =>
   rw[eval_const]
   cases c<;>simp only[ex] at h<;>first
    | (simp at h;subst h;exact⟨.v rfl,rfl⟩)
    | (simp at h;done)
    | skip
   case pointer p =>
    cases p<;>simp at h;subst h;exact⟨.v rfl,rfl⟩
   case string s =>
    split at h
    · rename_i hs;simp at h;subst h;exact⟨.v (by simpa[eG] using hs),rfl⟩
    · simp at h
   case slice b l c =>
    cases b with
    | some _=>simp at h
    | none =>
      cases l with
      | succ _=>simp at h
      | zero =>
        cases c with
        | succ _=>simp at h
        | zero =>
          simp only[] at h;split at h
          · simp at h;subst h;exact⟨⟨none,rfl⟩,rfl⟩
          · simp at h
 | global g=>simp[ex] at h
 | func f =>
   simp only[ex,Option.some.injEq] at h;subst h;have:=Rd.fn (w:=w) (F:=aP O (FW B F0 w)) (k:=f) (a:=[]) (c:=[]) (va:=[]) (vc:=[]) rfl rfl (fun i d u h=>by cases h) (fun i d u h=>by cases h);exact⟨this,rfl⟩
theorem DU(hT:bD P T){X:Nat→Prop}{av:AV}{x:D}{v:Value}{F:Nat→Prop}{tm:Nat→Option Value}{k:Nat}(h:eQ P X w O F hm tm k av v)(hd:dC T (some av)=some x):Rd w (aP O F) x v:=by
 cases av<;>simp[dC] at hd
 case d y=>subst hd;exact h
 case e0 e =>
  obtain ⟨b,rfl⟩:=h;split at hd<;>simp at hd;subst hd;exact .nil (Nat.zero_le _)
theorem lI{X:Nat→Prop}{F:Nat→Prop}{tm:Nat→Option Value}{t:Nat}{x:AV}{e:Nat}{l:List D}{b o1 len cap:Nat}(h:eQ P X w O F hm tm t x (.slice (some ⟨b,o1,none⟩) len cap))(hrow:x.row=some (e,l)):
  (l=[]∧x.tag=false∧cap=0)∨ ∃cs,((x.tag=true→X b)∧o1+cap*P.cellsOf e≤cs.size)∧O b=some t∧w.heap[b]?=some (.cells cs e (0,0))∧(∀y,y∈l→y.flat.length=P.cellsOf e) ∧
   ∀(i:Nat) (d:D),(flatAll l)[i]?=some d→d.bc=true∧ ∃u,cs[i]?=some u∧Rd w (aP O F) d u:=by
 cases x<;>simp[AV.row] at hrow
 · obtain ⟨rfl,rfl⟩:=hrow;rcases h with ⟨base,h1,h2⟩ | ⟨b',cap',cs,h1,h2,h3,h4,h5,h6,h7,h8⟩
   · simp at h1;exact .inl ⟨h2,rfl,h1.2.2⟩
   · simp at h1;obtain ⟨⟨rfl,rfl⟩,rfl,rfl⟩:=h1;exact .inr ⟨cs,⟨fun h=>by simp[AV.tag] at h,by omega⟩,h2,h3,h7,h8⟩
 · obtain ⟨rfl,rfl⟩:=hrow;rcases h with ⟨hq,base,h1,h3,h4⟩ | ⟨b',o',cap',cs,hq,h1,h0,h2,h3,h4,h5,h6,h7,h8⟩
   · simp at h1;exact .inl ⟨h3,hq,h1.2.2⟩
   simp at h1;obtain ⟨⟨rfl,rfl⟩,rfl,rfl⟩:=h1;exact .inr ⟨cs,⟨hq,h0.2.2⟩,h2,h3,h7,h8⟩
theorem wL(hT:bD P T)(hI:Inv P B F0 w0 R lk hm a w O){G:Nat→Prop}(hG1: ∀c,aP O (FW B F0 w) c→G c)(hG2: ∀c t y,O c=some t→hm t=some y→y.home=true→G c){av:AV}{x:D}{v:Value}{k:Nat}(h:eQ P w0.X w O (FW B F0 w) hm (fun h=>a.tmps[h]?) k av v)(hd:Jc T hm (some av)=some x):Rd w G x v:=by
 cases av<;>simp[Jc] at hd
 case d y=>subst hd;exact Rd.mono (F:=aP O (FW B F0 w)) h hG1 (fun _ _=>rfl)
 case e0 e =>
  obtain ⟨b,rfl⟩:=h;split at hd<;>simp at hd;subst hd;exact .nil (Nat.zero_le _)
 case al t =>
  cases ht:hm t with
  | none=>simp[ht] at hd
  | some b =>
    cases b<;>simp[ht] at hd
    · rename_i e l;split at hd<;>simp at hd;rename_i i hi;subst hd;obtain ⟨info,d,z,hok⟩:=hT e i hi;obtain ⟨u,hu,hr⟩:=hI.hm t _ ht rfl;have hv:=h _ ht rfl;simp only[hu] at hv;simp at hv;subst hv;rcases hr with ⟨base,rfl,rfl⟩ | ⟨b,cap,cs,rfl,h2,h3,h4,h5,h6,h7,h8⟩
      · exact .nil (Nat.zero_le _)
      · rw[hok.cellsOf] at h7;refine .mK (off:=0) (hG2 b t _ h2 ht rfl) h3 h4 h5 h7 (fun i d hd=>⟨(h8 i d hd).1,?_⟩);obtain ⟨u,hu,hr⟩:=(h8 i d hd).2;exact⟨u,by simpa using hu,hr.mono hG1 (fun _ _=>rfl)⟩
    · rename_i q e l lo m;split at hd<;>simp at hd;rename_i i hi;subst hd;obtain ⟨info,d,z,hok⟩:=hT e i hi;obtain ⟨u,hu,hr⟩:=hI.hm t _ ht rfl;have hv:=h _ ht rfl;simp only[hu] at hv;simp at hv;subst hv;rcases hr with ⟨_,base,rfl,rfl,rfl,rfl⟩ | ⟨b,o,cap,cs,_,rfl,⟨h0,_⟩,h2,h3,h4,h5,h6,h7,h8⟩
      · exact .nil (Nat.zero_le _)
      rw[hok.cellsOf] at h7 h0;rcases Nat.eq_zero_or_pos m with hm0 | hm0
      · subst hm0;rw[List.take_zero];exact .nil h6
      have h0:o=lo*i.size:=by omega
      subst h0;have hlen:((l.drop lo).take m).length=m:=by simp;omega
      have:=Rd.mK (w:=w) (F:=G) (s:=i.size) (l:=(l.drop lo).take m) (off:=lo*i.size) (cap:=cap) (hG2 b t _ h2 ht rfl) h3 (by omega) h6 (fun y hy=>h7 y (List.mem_of_mem_drop (List.mem_of_mem_take hy))) (fun j d hj=>by
       obtain ⟨f1,u,f2,f3⟩:=h8 _ d (jB h7 lo m j hj)
       exact⟨f1,u,f2,f3.mono hG1 (fun _ _=>rfl)⟩)
      rwa [hlen] at this
 case sb t lo m =>
  cases ht:hm t with
  | none=>simp[ht] at hd
  | some x =>
    simp only[ht] at hd;split at hd<;>try (cases hd;done)
    rename_i e l hrow;split at hd<;>simp at hd;rename_i i hi;subst hd;obtain ⟨info,d,z,hok⟩:=hT e i hi;obtain ⟨hlo,cap',hc1,hc2,hv⟩:=h x e l ht hrow;have hlen:((l.drop lo).take m).length=m:=by simp;omega
    rcases hv with ⟨hl0,_,_,base,rfl⟩ | ⟨b,o1,len,cap,o,htm,rfl,h0,_⟩
    · have:l=[]:=List.eq_nil_of_length_eq_zero hl0;subst this;simp only[List.drop_nil,List.take_nil];exact .nil hc2
    · obtain ⟨u,hu,hr⟩:=hI.hm t _ ht (dy (by rw[hrow];rfl));simp only[hu] at htm;simp at htm;subst htm;rcases lI hr hrow with ⟨hnil,_⟩ | ⟨cs,_,g2,g3,g7,g8⟩
      · subst hnil;simp at hlo;obtain ⟨rfl,rfl⟩:=hlo;simp only[List.drop_nil,List.take_nil];exact .nil hc2
      rcases Nat.eq_zero_or_pos m with hm0 | hm0
      · subst hm0;rw[List.take_zero];exact .nil hc2
      rw[hok.cellsOf] at g7 h0;have h0:o=lo*i.size:=by omega
      subst h0
      have:=Rd.mK (w:=w) (F:=G) (s:=i.size) (l:=(l.drop lo).take m) (off:=lo*i.size) (cap:=cap') (hG2 b t _ g2 ht (dy (by rw[hrow];rfl))) g3 (by omega) hc2 (fun y hy=>g7 y (List.mem_of_mem_drop (List.mem_of_mem_take hy))) (fun j d hj=>by
       obtain ⟨f1,u,f2,f3⟩:=g8 _ d (jB g7 lo m j hj)
       exact⟨f1,u,f2,f3.mono hG1 (fun _ _=>rfl)⟩)
      rwa [hlen] at this
theorem Gd(hT:bD P T)(hI:Inv P B F0 w0 R lk hm a w O){av:AV}{x:D}{v:Value}{k:Nat}(h:eQ P w0.X w O (FW B F0 w) hm (fun h=>a.tmps[h]?) k av v)(hd:Jc T hm (some av)=some x):Rd w (FW B F0 w) x v :=
 wL hT hI (fun _ hc=>hc.2) (fun c t _ hc _ _=>(hI.orange c t hc).fw hI.f0) h hd
theorem Inv.lt(hI:Inv P B F0 w0 R lk hm a w O): ∀b t,O b=some t→b<w.heap.size:=fun b t h=>(hI.orange b t h).2
end
end Lift
namespace Lift
open Go
open Go.RowKit (Below)
def Bi(j k:IntKind):Bool:=match j,k with
 | .i64,.i64=>true
 | .u64,.u64=>true
 | .u32,.u32=>true
 | .u8,.u8=>true
 | .i32,.i32=>true
 | _,_=>false
theorem Bh{j k:IntKind}(h:Bi j k=true):j=k:=by cases j<;>cases k<;>simp_all [Bi]
def LL(op:BinOp)(k:IntKind)(a b:Int):Option Value:=match op with
 | .add=>some (.int k (k.wrap (a+b)))
 | .sub=>some (.int k (k.wrap (a-b)))
 | .mul=>some (.int k (k.wrap (a*b)))
 | .and=>some (.int k (k.wrap (BitVec.ofInt k.bits a &&& BitVec.ofInt k.bits b).toNat))
 | .or=>some (.int k (k.wrap (BitVec.ofInt k.bits a ||| BitVec.ofInt k.bits b).toNat))
 | .xor=>some (.int k (k.wrap (BitVec.ofInt k.bits a ^^^ BitVec.ofInt k.bits b).toNat))
 | .eql=>some (.bool (a==b))
 | .neq=>some (.bool (a != b))
 | .lss=>some (.bool (decide (a<b)))
 | .leq=>some (.bool (decide (a≤b)))
 | .gtr=>some (.bool (decide (a>b)))
 | .geq=>some (.bool (decide (a≥b)))
 | _=>none
def Li(op:BinOp)(a b:ByteArray):Option Value:=match op with
 | .eql=>some (.bool (a.toList==b.toList))
 | .neq=>some (.bool (!(a.toList==b.toList)))
 | _=>none
def NS(op:BinOp)(k:IntKind)(a:Int)(n:Nat):Option Value:=match op with
 | .shl=>some (.int k (k.wrap (a*2^(min n k.bits))))
 | .shr=>some (.int k (a.fdiv (2^(min n k.bits))))
 | _=>none
def J4(op:BinOp):Bool:=match op with
 | .shl=>true
 | .shr=>true
 | _=>false
def IM(op:BinOp):Value→Value→Option Value
 | .int k a,.int j b=>match J4 op with
   | true=>match b with
     | .ofNat n=>NS op k a n
     | .negSucc _=>none
   | false=>match Bi k j with
     | true=>LL op k a b
     | false=>none
 | .string a,.string b=>Li op a b
 | _,_=>none
theorem HS{P:Program}{w:World}{op:BinOp}{t:TypeId}{k:IntKind}{a b:Int}{r:Value}(hs:J4 op=false)(h:LL op k a b=some r):
  (binOp op t (.int k a) (.int k b)).run P w= .ok r w∧eG r=true:=by
 cases op<;>simp[LL,J4] at h hs<;>subst h<;>refine⟨?_,rfl⟩<;>simp[binOp,Op.intArith,Op.intBits,Op.intCmp]
theorem Jy{P:Program}{w:World}{op:BinOp}{t:TypeId}{k j:IntKind}{a:Int}{n:Nat}{r:Value}(h:NS op k a n=some r):
  (binOp op t (.int k a) (.int j (Int.ofNat n))).run P w= .ok r w∧eG r=true:=by
 have hn: ¬((n:Int)<0):=by omega
 cases op<;>simp[NS] at h<;>subst h<;>refine⟨?_,rfl⟩<;>simp[binOp,Op.shift,hn]
theorem GQ{P:Program}{w:World}{op:BinOp}{t:TypeId}{a b:ByteArray}{r:Value}(h:Li op a b=some r):
  (binOp op t (.string a) (.string b)).run P w= .ok r w∧eG r=true:=by
 cases op<;>simp[Li] at h<;>subst h<;>refine⟨?_,rfl⟩<;>simp[binOp,Op.stringOp]
theorem nV{P:Program}{w:World}{op:BinOp}{t:TypeId}{x y:Operand}{a b:Value}(h:a≠ .nilIface∨b≠ .nilIface)(ha: ∀cs,a≠ .agg cs):(eqGuard op t x y a b).run P w= .ok () w:=by
 unfold eqGuard;cases op<;>simp<;>(cases a<;>cases b<;>simp_all)
theorem IL{P:Program}{w:World}{op:BinOp}{t:TypeId}{x y:Operand}{a b r:Value}(h:IM op a b=some r):
  (do eqGuard op t x y a b;binOp op t a b:Sem Value).run P w= .ok r w∧eG r=true:=by
 have hg:(eqGuard op t x y a b).run P w= .ok () w:=by
  refine nV (.inl ?_) ?_<;>(cases a<;>simp[IM] at h ⊢)
 have:(binOp op t a b).run P w= .ok r w∧eG r=true:=by
  cases a<;>cases b<;>simp[IM] at h
  case int.int k a j b =>
   cases hs:J4 op with
   | true =>
     simp only[hs] at h;cases b with
     | ofNat n=>exact Jy h
     | negSucc n=>simp at h
   | false =>
     simp only[hs] at h;split at h
     · rename_i hk;have:=Bh hk;subst this;exact HS hs h
     · simp at h
  case string.string=>exact GQ h
 exact⟨by simp only[Sem.run_bind,hg,Result.andThen_ok];exact this.1,this.2⟩
def NC(op:UnOp):Value→Option Value
 | .bool b=>match op with
   | .not=>some (.bool (!b))
   | _=>none
 | .int k n=>match op with
   | .neg=>some (.int k (k.wrap (0-n)))
   | _=>none
 | _=>none
theorem Ji{P:Program}{w:World}{op:UnOp}{a r:Value}(h:NC op a=some r):(Op.unary op a).run P w= .ok r w∧eG r=true:=by
 cases a<;>cases op<;>simp[NC] at h<;>subst h<;>refine⟨?_,rfl⟩<;>simp[Op.unary,Op.intArith]
def Is(T:Ty)(dst:Nat):Value→Option Value
 | .int _ n=>match T.get dst with
   | some i=>match Nat.beq i.kind 2 with
     | true=>match i.ik with
       | .i64=>some (.int .i64 (IntKind.i64.wrap n))
       | .u64=>some (.int .u64 (IntKind.u64.wrap n))
       | .u32=>some (.int .u32 (IntKind.u32.wrap n))
       | .u8=>some (.int .u8 (IntKind.u8.wrap n))
       | .i32=>some (.int .i32 (IntKind.i32.wrap n))
       | _=>none
     | false=>none
   | none=>none
 | _=>none
def kH:Option D→Option Value
 | some (.v x)=>some x
 | _=>none
def sc:Value→AV:=fun x=> .d (.v x)
def mO:Option Value→Option AV
 | some x=>some (.d (.v x))
 | none=>none
def uP(hm:Nat→Option AV):Option AV→Option (List D)
 | some (.pt h off)=>match hm h with
   | some (.bx ds)=>some (ds.drop off)
   | _=>none
 | some (.rf ds)=>some ds
 | some (.d (.pr ds))=>some ds
 | _=>none
def kC(i:TI)(cs:List D):Option AV:=match i.agg with
 | true=>match Nat.ble i.size cs.length with
   | true=>some (.d (.ag (cs.take i.size)))
   | false=>none
 | false=>match cs with
   | c::_=>some (.d c)
   | []=>none
def sR(i:TI)(f:Nat):Option (Nat×Nat×Bool):=match Nat.beq i.kind 5 with
 | true=>i.fields[f]?
 | false=>none
def Fj(hm:Nat→Option AV)(o:Nat):Option AV→Option AV
 | some (.pt h off)=>match hm h with
   | some (.bx _)=>some (.pt h (off+o))
   | _=>none
 | some (.rf ds)=>some (.rf (ds.drop o))
 | some (.d (.pr ds))=>some (.rf (ds.drop o))
 | some (.el h i off)=>match hm h with
   | some x=>match x.row with
     | some _=>some (.el h i (off+o))
     | none=>none
   | none=>none
 | _=>none
def vX:D→Bool
 | .v _=>true
 | .sl _ _=>true
 | .ag _=>true
 | .tu _=>false
 | .pr _=>true
 | .fn _ _ _=>true
def yM(fields:List (Nat×Nat×Bool))(cells:List D):List (Nat×D)→Option (List D)
 | []=>some cells
 | (i,d)::rest=>match fields[i]? with
   | some (off,size,_)=>match vX d,Nat.beq d.flat.length size,Nat.ble (off+d.flat.length) cells.length with
     | true,true,true=>yM fields (cells.take off++d.flat++cells.drop (off+d.flat.length)) rest
     | _,_,_=>none
   | none=>none
def sd(T:Ty)(lk:Nat→Option AV):List (Nat×Operand)→Option (List (Nat×D))
 | []=>some []
 | (i,x)::r=>match dC T (ex T lk 0 x),sd T lk r with
   | some d,some ds=>some ((i,d)::ds)
   | _,_=>none
def Ad(k:Nat):D→Option Value
 | .sl _ l=>match Nat.beq k 4 with
   | true=>some (.int .i64 (l.length:Int))
   | false=>none
 | .v (.string s)=>match Nat.beq k 3 with
   | true=>some (.int .i64 (s.size:Int))
   | false=>none
 | _=>none
def ub(isMax:Bool):Value→List Value→Option Value
 | .int k a,[]=>some (.int k a)
 | .int k a,.int j b::r=>match Bi k j with
   | true=>match isMax with
     | true=>ub isMax (.int k (if b>a then b else a)) r
     | false=>ub isMax (.int k (if b<a then b else a)) r
   | false=>none
 | _,_=>none
def kl(T:Ty)(lk:Nat→Option AV):List Operand→Option (List Value)
 | []=>some []
 | x::r=>match kH (dC T (ex T lk 0 x)),kl T lk r with
   | some v,some vs=>some (v::vs)
   | _,_=>none
def pF(T:Ty)(lk hm:Nat→Option AV)(ty:Nat):Op→Option AV
 | .move x=>ex T lk ty x
 | .assign x=>match ex T lk ty x with
   | some (.d x)=>some (.d x)
   | some (.e0 e)=>some (.ow e [])
   | _=>none
 | .pick c x y=>match kH (dC T (ex T lk 0 c)) with
   | some (.bool true)=>ex T lk ty x
   | some (.bool false)=>ex T lk ty y
   | _=>none
 | .alloc t=>match T.get t with
   | some i=>some (.bx i.zero)
   | none=>none
 | .box t x=>match dC T (ex T lk t x) with
   | some d=>match vX d with
     | true=>some (.bx d.flat)
     | false=>none
   | none=>none
 | .build t parts=>match T.get t,sd T lk parts.toList with
   | some i,some ps=>match Nat.beq i.kind 5 with
     | true=>match yM i.fields i.zero ps with
       | some cs=>some (.d (.ag cs))
       | none=>none
     | false=>none
   | _,_=>none
 | .buildSlice t n parts=>match Nat.beq n 0,parts.toList,DM T t with
   | true,[],some e=>match T.get e with
     | some _=>some (.e0 e)
     | none=>none
   | _,_,_=>none
 | .load t x=>match T.get t,uP hm (ex T lk 0 x) with
   | some i,some cs=>kC i cs
   | _,_=>none
 | .binOp op _ x y _=>match kH (dC T (ex T lk 0 x)),kH (dC T (ex T lk 0 y)) with
   | some a,some b=>mO (IM op a b)
   | _,_=>none
 | .unOp op _ x=>match kH (dC T (ex T lk 0 x)) with
   | some a=>mO (NC op a)
   | none=>none
 | .convert src dst x=>match T.get src,kH (dC T (ex T lk 0 x)) with
   | some _,some a=>mO (Is T dst a)
   | _,_=>none
 | .makeInterface t x=>match kH (dC T (ex T lk 0 x)),T.get t with
   | some (.int k n),some i=>match Nat.beq i.kind 6 with
     | true=>none
     | false=>some (.d (.v (.iface t (.int k n))))
   | _,_=>none
 | .fieldAddr t x f=>match T.get t with
   | some i=>match sR i f with
     | some (off,_,_)=>Fj hm off (ex T lk 0 x)
     | none=>none
   | none=>none
 | .field t x f=>match T.get t,dC T (ex T lk 0 x) with
   | some i,some (.ag cs)=>match sR i f with
     | some (off,size,agg)=>kC {i with agg:=agg,size:=size} (cs.drop off)
     | none=>none
   | _,_=>none
 | .extract x k=>match dC T (ex T lk 0 x) with
   | some (.tu l)=>match l[k]? with
     | some d=>some (.d d)
     | none=>none
   | _=>none
 | .call c=>match c.callee with
   | .builtin .len=>match c.args.toList,c.argTypes.toList with
     | [x],[t]=>match T.get t,Jc T hm (ex T lk 0 x) with
       | some i,some d=>mO (Ad i.kind d)
       | _,_=>none
     | _,_=>none
   | .builtin .max=>match kl T lk c.args.toList with
     | some (v::vs)=>mO (ub true v vs)
     | _=>none
   | .builtin .min=>match kl T lk c.args.toList with
     | some (v::vs)=>mO (ub false v vs)
     | _=>none
   | _=>none
 | _=>none
end Lift
namespace Lift
open Go
open Go.RowKit (Below)
section
variable {P:Program} {T:Ty} {B:Nat} {F0:Nat→Prop} {w0:cX} {R:Nat→Prop} {lk hm:Nat→Option AV} {a:Act} {w:World} {O:Nat→Option Nat}
theorem dX(hT:bD P T)(hI:Inv P B F0 w0 R lk hm a w O){ty:Nat}{x:Operand}{y:D}(hx: ∀t,x= .tmp t→R t)(h:dC T (ex T lk ty x)=some y):Rd w (aP O (FW B F0 w)) y (a.eval x):=by
 cases he:ex T lk ty x with
 | none=>rw[he] at h;simp[dC] at h
 | some av =>
   rw[he] at h;exact DU hT (a6 hI hx he 0).1 h
theorem Ip(hT:bD P T)(hI:Inv P B F0 w0 R lk hm a w O){ty:Nat}{x:Operand}{y:D}(hx: ∀t,x= .tmp t→R t)(h:Jc T hm (ex T lk ty x)=some y):Rd w (FW B F0 w) y (a.eval x):=by
 cases he:ex T lk ty x with
 | none=>rw[he] at h;simp[Jc] at h
 | some av =>
   rw[he] at h;exact Gd hT hI (a6 hI hx he 0).1 h
theorem Kl(hT:bD P T)(hI:Inv P B F0 w0 R lk hm a w O){G:Nat→Prop}(hG1: ∀c,aP O (FW B F0 w) c→G c)(hG2: ∀c t y,O c=some t→hm t=some y→y.home=true→G c){ty:Nat}{x:Operand}{y:D}(hx: ∀t,x= .tmp t→R t)(h:Jc T hm (ex T lk ty x)=some y):Rd w G y (a.eval x):=by
 cases he:ex T lk ty x with
 | none=>rw[he] at h;simp[Jc] at h
 | some av =>
   rw[he] at h;exact wL hT hI hG1 hG2 (a6 hI hx he 0).1 h
theorem cR(hT:bD P T)(hI:Inv P B F0 w0 R lk hm a w O){ty:Nat}{x:Operand}{v:Value}(hx: ∀t,x= .tmp t→R t)(h:kH (dC T (ex T lk ty x))=some v):a.eval x=v∧eG v=true:=by
 cases hd:dC T (ex T lk ty x) with
 | none=>rw[hd] at h;simp[kH] at h
 | some d =>
   have hr:=dX hT hI hx hd;rw[hd] at h;cases d<;>simp[kH] at h;subst h;exact hr.kn
theorem xM(hI:Inv P B F0 w0 R lk hm a w O){av:AV}{ds:List D}{v:Value}{k:Nat}(h:eQ P w0.X w O (FW B F0 w) hm (fun h=>a.tmps[h]?) k av v)(hc:uP hm (some av)=some ds):
  ∃b off cs e fz,v= .pointer (some ⟨b,off,none⟩)∧w.heap[b]?=some (.cells cs e fz)∧ ∀(i:Nat) (d:D),ds[i]?=some d→d.bc=true∧ ∃u,cs[off+i]?=some u∧Rd w (aP O (FW B F0 w)) d u:=by
 cases av<;>simp[uP] at hc
 case pt t off =>
  cases ht:hm t with
  | none=>simp[ht] at hc
  | some x =>
    cases x<;>simp[ht] at hc;rename_i es;subst hc;obtain ⟨u,hu,hr⟩:=hI.hm t _ ht rfl;obtain ⟨b,cs,e,rfl,h2,h3,h4⟩:=hr;obtain ⟨b',hb',rfl⟩:=h es ht;simp only[hu] at hb';simp at hb';subst hb';refine⟨b,off,cs,e,(0,0),rfl,h3,fun i d hd=>?_⟩;rw[List.getElem?_drop] at hd;obtain ⟨h5,u',hu',h6⟩:=h4.get hd;exact⟨h5,u',by simpa using hu',h6⟩
 case rf es =>
  subst hc;obtain ⟨b,off,cs,e,fz,rfl,h2,h3,h4⟩:=h;exact⟨b,off,cs,e,fz,rfl,h3,h4⟩
 case d x =>
  cases x<;>simp at hc;subst hc;obtain ⟨b,cs,e,fz,rfl,h2,h3,h4⟩:=Rd.Hn h;exact⟨b,0,cs,e,fz,rfl,h3,fun i d hd=>by simpa using h4 i d hd⟩
theorem yG{t:Nat}{i:TI}{info:TypeInfo}{d:TypeDesc}{z:Value}(h:jS P t i info d z):(isAgg t).run P w= .ok i.agg w:=by
 have hd:=h.desc;unfold isAgg;rw[Sem.run_bind,run_underlying h.und];cases d<;>simp[lA] at hd<;>simp[hd]
theorem lQ{t:Nat}{i:TI}{info:TypeInfo}{d:TypeDesc}{z:Value}(hi:jS P t i info d z){b off:Nat}{cs:Array Value}{e:TypeId}{fz:Nat×Nat}{ds:List D}{av:AV}
  (hb:w.heap[b]?=some (.cells cs e fz)) {F:Nat→Prop} (hr: ∀(j:Nat) (x:D),ds[j]?=some x→x.bc=true∧ ∃u,cs[off+j]?=some u∧Rd w F x u) (hl:kC i ds=some av):
  ∃x v,av= .d x∧(loadVar t ⟨b,off,none⟩).run P w= .ok v w∧Rd w F x v:=by
 unfold kC at hl
 have hcell: ∀j,w.cell? ((⟨b,off,none⟩:Addr).add j)=cs[off+j]?:=fun j=>by
  rw[Addr.add_lit];simp[World.cell?,hb]
 cases hagg:i.agg with
 | true =>
   simp only[hagg] at hl;split at hl<;>simp at hl;rename_i hle;subst hl;have hle:=Nat.le_of_ble_eq_true hle;have hlen:(ds.take i.size).length=i.size:=by simp;omega
   have hcs: ∀j,j<i.size→ ∃u,cs[off+j]?=some u:=fun j hj=>by
    obtain ⟨_,u,hu,_⟩:=hr j ds[j] (List.getElem?_eq_getElem (by omega));exact⟨u,hu⟩
   have hrun:(loadCells ⟨b,off,none⟩ i.size).run P w= .ok ((List.range i.size).map fun j=>(cs[off+j]?).getD undef).toArray w :=
    run_loadCells w _ _ _ (fun j hj=>by rw[hcell];obtain ⟨u,hu⟩:=hcs j hj;simp[hu])
   refine⟨_,_,rfl,?_,.ag (vs:=(List.range i.size).map fun j=>(cs[off+j]?).getD undef) (by simp;omega) ?_ ?_⟩
   · unfold loadVar;simp only[Sem.run_bind,yG hi,Result.andThen_ok,hagg,if_true,Go.sizeOf,typeInfo,run_program,hi.hinfo,Sem.run_pure,hi.size,hrun]
   · intro x hx;obtain ⟨j,hj⟩:=List.mem_iff_getElem?.1 hx;rw[List.getElem?_take] at hj;split at hj
     · exact(hr j x hj).1
     · cases hj
   · intro j x u h1 h2;rw[List.getElem?_take] at h1;split at h1
     · rename_i hj;obtain ⟨_,u',hu',hru⟩:=hr j x h1;simp[hj,hu'] at h2;subst h2;exact hru
     · cases h1
 | false =>
   simp only[hagg] at hl;cases ds with
   | nil=>simp at hl
   | cons c r =>
     simp at hl;subst hl;obtain ⟨_,u,hu,hru⟩:=hr 0 c rfl;refine⟨_,u,rfl,?_,hru⟩;have:=hcell 0;rw[Addr.add_zero'] at this;unfold loadVar;simp only[Sem.run_bind,yG hi,Result.andThen_ok,hagg];simp only[Bool.false_eq_true,if_false,run_load,this,hu]
theorem re{x:D}(h:vX x=true): ∀l,x≠ .tu l:=by cases x<;>simp_all [vX]
def j6(O:Nat→Option Nat)(n d:Nat)(b:Nat):Option Nat:=if b=n then some d else O b
theorem du.alloc(hO: ∀b t,O b=some t→b<w.heap.size)(d:Nat)(o:Obj):du w O d (w.alloc o) (j6 O w.heap.size d):=by
 refine⟨(Below.refl _ _).alloc (Nat.le_refl _) _,fun b hb=>?_,fun b t hb=>?_⟩
 · simp[j6,Nat.ne_of_lt hb]
 · simp only[j6] at hb;split at hb
   · rename_i h;simp at hb;exact .inr ⟨hb.symm,by simp[h]⟩
   · exact .inl (hO b t hb)
theorem du.IT(hO: ∀b t,O b=some t→b<w.heap.size)(d:Nat)(o:Obj):du w O d (w.alloc o) O :=
 ⟨(Below.refl _ _).alloc (Nat.le_refl _) _,fun _ _=>rfl,fun b t hb=> .inl (hO b t hb)⟩
theorem Rd.alloc(hI:Inv P B F0 w0 R lk hm a w O){x:D}{v:Value}(h:Rd w (aP O (FW B F0 w)) x v)(d:Nat)(o:Obj):Rd (w.alloc o) (aP (j6 O w.heap.size d) (FW B F0 (w.alloc o))) x v:=by
 refine h.mono (fun b hb=>?_) (fun b hb=>?_)
 · have:=FW.step hI.f0 hI.base (w':=w.alloc o) (by simp) b hb.2;refine⟨?_,this.2⟩;simp[j6,Nat.ne_of_lt this.1,hb.1]
 · have:=FW.step hI.f0 hI.base (w':=w.alloc o) (by simp) b hb.2;exact heap_alloc_old w o b this.1
theorem pY(off:Nat): ∀(vs:List Value) (k:Nat) (cs:Array Value),
  ((vs.zipIdx k).foldl (fun (cs:Array Value) (x:Value×Nat)=>cs.setIfInBounds (off+x.2) x.1) cs).size=cs.size ∧
  ∀m,((vs.zipIdx k).foldl (fun (cs:Array Value) (x:Value×Nat)=>cs.setIfInBounds (off+x.2) x.1) cs)[m]? =
   if off+k≤m∧m<off+k+vs.length∧m<cs.size then vs[m-(off+k)]? else cs[m]?
 | [],k,cs=>⟨rfl,fun m=>by simp;intro h1 h2;omega⟩
 | v::vs,k,cs=>by
   obtain ⟨h1,h2⟩:=pY off vs (k+1) (cs.setIfInBounds (off+k) v);simp only[List.zipIdx_cons,List.foldl_cons];refine⟨by rw[h1];simp,fun m=>?_⟩;rw[h2];simp only[Array.size_setIfInBounds,List.length_cons];by_cases hm:m=off+k
   · subst hm;have: ¬(off+(k+1)≤off+k):=by omega
     simp only[this,false_and,if_false];by_cases hs:off+k<cs.size
     · simp[hs]
     · simp[hs]
   · by_cases hc:off+(k+1)≤m∧m<off+(k+1)+vs.length∧m<cs.size
     · rw[if_pos hc,if_pos (by omega)];rw[show m-(off+k)=(m-(off+(k+1)))+1 by omega];simp
     · rw[if_neg hc,if_neg (by omega),Array.getElem?_setIfInBounds_ne (Ne.symm hm)]
theorem sQ{F:Nat→Prop}{fs:List (Nat×Nat×Bool)}: ∀(ps:List (Nat×D)) (vs:List (Nat×Value)) (ds:List D) (cs:Array Value) (out:List D),
  ps.length=vs.length→(∀(j:Nat) (p:Nat×D) (q:Nat×Value),ps[j]?=some p→vs[j]?=some q→p.1=q.1∧Rd w F p.2 q.2) →
  mF w F ds cs.toList→yM fs ds ps=some out →
  ∃cs',Instr.fill (fun i=>(fs[i]?).map fun x=>(x.1,x.2.1)) cs vs=some cs'∧mF w F out cs'.toList∧cs'.size=cs.size
 | [],vs,ds,cs,out,hl,hp,hr,h=>by
   have:vs=[]:=List.eq_nil_of_length_eq_zero (by simpa using hl.symm);subst this;simp[yM] at h;subst h;exact⟨cs,rfl,hr,rfl⟩
 | (i,d)::ps,[],ds,cs,out,hl,hp,hr,h=>by simp at hl
 | (i,d)::ps,(i',v)::vs,ds,cs,out,hl,hp,hr,h=>by
   obtain ⟨hii,hd⟩:=hp 0 (i,d) (i',v) rfl rfl;simp only[] at hd hii;subst hii;simp only[yM] at h;cases hf:fs[i]? with
   | none=>simp[hf] at h
   | some x =>
     obtain ⟨off,size,g⟩:=x;simp only[hf] at h;split at h<;>try (cases h;done)
     rename_i h0 h1 h2;have h1:=Nat.eq_of_beq_eq_true h1;have h2:=Nat.le_of_ble_eq_true h2;have hvc:mF w F d.flat v.cells.toList:=hd.cells (re h0);have hsz:v.cells.size=d.flat.length:=by have:=hvc.1;simpa using this
     have hcl:cs.size=ds.length:=by have:=hr.1;simpa using this
     obtain ⟨g1,g2⟩:=pY off v.cells.toList 0 cs;generalize hcs:((v.cells.toList.zipIdx 0).foldl (fun (cs:Array Value) (x:Value×Nat)=>cs.setIfInBounds (off+x.2) x.1) cs)=cs1 at g1 g2
     have hr1:mF w F (ds.take off++d.flat++ds.drop (off+d.flat.length)) cs1.toList:=by
      refine⟨by simp;omega,fun j y u hy hu=>?_⟩;have hu':cs1[j]?=some u:=by simpa using hu
      rw[g2] at hu';rw[List.append_assoc,List.getElem?_append] at hy;have htl:(ds.take off).length=off:=by simp;omega
      rw[htl] at hy;split at hy
      · rename_i hj;rw[List.getElem?_take,if_pos hj] at hy;rw[if_neg (by omega)] at hu';exact hr.2 j y u hy (by simpa using hu')
      · rename_i hj;rw[List.getElem?_append] at hy;split at hy
        · rename_i hj2;rw[if_pos ⟨by omega,by simp;omega,by omega⟩] at hu';exact hvc.2 (j-off) y u hy (by simpa using hu')
        · rename_i hj2;rw[List.getElem?_drop] at hy;have hjj:off+d.flat.length+(j-off-d.flat.length)=j:=by omega
          rw[hjj] at hy;rw[if_neg (by simp;omega)] at hu';exact hr.2 j y u hy (by simpa using hu')
     obtain ⟨cs',e1,e2,e3⟩:=sQ ps vs _ cs1 out (by simpa using hl) (fun j p q h1 h2=>hp (j+1) p q (by simpa using h1) (by simpa using h2)) hr1 h;refine⟨cs',?_,e2,by rw[e3,g1]⟩;simp only[Instr.fill,hf,Option.map_some];rw[if_neg (by simp;omega)]
     have:v.cells.zipIdx.foldl (fun (cs:Array Value) (x:Value×Nat)=>match x with | (c,j)=>cs.setIfInBounds (off+j) c) cs=cs1:=by
      rw[← hcs,← Array.foldl_toList];simp
     rw[this];exact e1
theorem pK(hT:bD P T)(hI:Inv P B F0 w0 R lk hm a w O): ∀(l:List (Nat×Operand)) (ps:List (Nat×D)),(∀p,p∈l→ ∀t,p.2= .tmp t→R t)→sd T lk l=some ps →
  ps.length=l.length∧ ∀(j:Nat) (p:Nat×D) (q:Nat×Value),ps[j]?=some p→(l.map fun (i,x)=>(i,a.eval x))[j]?=some q→p.1=q.1∧Rd w (aP O (FW B F0 w)) p.2 q.2
 | [],ps,_,h=>by simp[sd] at h;subst h;exact⟨rfl,fun j p q h=>by simp at h⟩
 | (i,x)::r,ps,hx,h=>by
   simp only[sd] at h;split at h
   · rename_i d ds h1 h2;simp at h;subst h;have ih:=pK hT hI r ds (fun p hp=>hx p (by simp[hp])) h2;refine⟨by simp[ih.1],fun j p q h3 h4=>?_⟩;cases j with
     | zero =>
       simp at h3 h4;subst h3;subst h4;exact⟨rfl,dX hT hI (fun t ht=>hx (i,x) (by simp) t ht) h1⟩
     | succ j=>exact ih.2 j p q (by simpa using h3) (by simpa using h4)
   · cases h
theorem u6(hT:bD P T)(hI:Inv P B F0 w0 R lk hm a w O): ∀(l:List Operand) (vs:List Value),(∀x,x∈l→ ∀t,x= .tmp t→R t)→kl T lk l=some vs→l.map a.eval=vs∧ ∀v,v∈vs→eG v=true
 | [],vs,_,h=>by simp[kl] at h;subst h;exact⟨rfl,fun v h=>by simp at h⟩
 | x::r,vs,hx,h=>by
   simp only[kl] at h;split at h
   · rename_i v vs' h1 h2;simp at h;subst h;have ih:=u6 hT hI r vs' (fun y hy=>hx y (by simp[hy])) h2;have h3:=cR hT hI (hx x (by simp)) h1;refine⟨by simp[ih.1,h3.1],fun u hu=>?_⟩;simp at hu;rcases hu with rfl | hu
     · exact h3.2
     · exact ih.2 u hu
   · cases h
theorem BY: ∀(vs:List Value) (v r:Value),ub true v vs=some r→(vs.foldlM Builtin.max2 v).run P w= .ok r w∧eG r=true
 | [],v,r,h=>by cases v<;>simp[ub] at h;subst h;exact⟨rfl,rfl⟩
 | u::vs,v,r,h=>by
   cases v<;>cases u<;>simp[ub] at h;rename_i k a j b;split at h
   · have:=BY vs _ r h;simp only[List.foldlM_cons,Builtin.max2,Sem.run_bind,Sem.run_pure,Result.andThen_ok];exact this
   · cases h
theorem BX: ∀(vs:List Value) (v r:Value),ub false v vs=some r→(vs.foldlM Builtin.min2 v).run P w= .ok r w∧eG r=true
 | [],v,r,h=>by cases v<;>simp[ub] at h;subst h;exact⟨rfl,rfl⟩
 | u::vs,v,r,h=>by
   cases v<;>cases u<;>simp[ub] at h;rename_i k a j b;split at h
   · have:=BX vs _ r h;simp only[List.foldlM_cons,Builtin.min2,Sem.run_bind,Sem.run_pure,Result.andThen_ok];exact this
   · cases h
theorem jS.jy{t:Nat}{i:TI}{info:TypeInfo}{d:TypeDesc}{z:Value}(h:jS P t i info d z)(hk:Nat.beq i.kind 4=true):P.underlying t=some (.slice i.elem)∧i.agg=false:=by
 have hk:=Nat.eq_of_beq_eq_true hk;have hd:=h.desc;have hu:=h.und;cases d<;>simp[lA,hk] at hd;rw[hd.2];exact⟨hu,hd.1⟩
theorem jS.KG{t:Nat}{i:TI}{info:TypeInfo}{d:TypeDesc}{z:Value}(h:jS P t i info d z)(hk:Nat.beq i.kind 3=true):P.underlying t=some .string:=by
 have hk:=Nat.eq_of_beq_eq_true hk;have hd:=h.desc;have hu:=h.und;cases d<;>simp[lA,hk] at hd;exact hu
theorem jS.M1{t:Nat}{i:TI}{info:TypeInfo}{d:TypeDesc}{z:Value}(h:jS P t i info d z)(hk:Nat.beq i.kind 2=true):P.underlying t=some (.int i.ik):=by
 have hk:=Nat.eq_of_beq_eq_true hk;have hd:=h.desc;have hu:=h.und;cases d<;>simp[lA,hk] at hd;rw[hd.2];exact hu
theorem jS.HQ{t:Nat}{i:TI}{info:TypeInfo}{d:TypeDesc}{z:Value}(h:jS P t i info d z)(hk:Nat.beq i.kind 5=true):
  ∃fs,P.underlying t=some (.struct fs)∧fieldsOf P fs.toList=i.fields∧ ∀f,f∈fs.toList→(∃j,P.info? f.type=some j)∧(∃d,P.underlying f.type=some d)∧0<P.cellsOf f.type:=by
 have hk:=Nat.eq_of_beq_eq_true hk;have hd:=h.desc;have hu:=h.und;cases d<;>simp only[lA,hk,Bool.and_eq_true,decide_eq_true_eq,List.all_eq_true] at hd<;>try (simp at hd;done)
 rename_i fs;refine⟨fs,hu,hd.1.2,fun f hf=>?_⟩;have:=hd.2 f hf;exact⟨Option.isSome_iff_exists.1 this.1.1,Option.isSome_iff_exists.1 this.1.2,this.2⟩
theorem jS.JP{t:Nat}{i:TI}{info:TypeInfo}{d:TypeDesc}{z:Value}(h:jS P t i info d z)(hk:Nat.beq i.kind 6=false): ∀ms,d≠ .interface ms:=by
 intro ms he;have hd:=h.desc;subst he;simp[lA] at hd;rw[hd.1] at hk;cases hk
theorem HO{t ty:TypeId}{i:TI}{info:TypeInfo}{d:TypeDesc}{z:Value}(hi:jS P t i info d z){x:D}{v r:Value}{F:Nat→Prop}(hr:Rd w F x v)(h:Ad i.kind x=some r):(Builtin.len_ #[t] ty #[v]).run P w= .ok r w∧eG r=true:=by
 cases x with
 | sl s l =>
   obtain ⟨b,cap,rfl,_⟩:=hr.A8;simp only[Ad] at h;split at h<;>simp at h;rename_i hk;subst h;exact⟨by simp[Builtin.len_,run_underlying (hi.jy hk).1,goInt],rfl⟩
 | v y =>
   obtain ⟨e,_⟩:=hr.kn;subst e;cases v<;>simp only[Ad] at h<;>try (cases h;done)
   split at h<;>simp at h;rename_i hk;subst h;exact⟨by simp[Builtin.len_,run_underlying (hi.KG hk),goInt],rfl⟩
 | ag l=>simp[Ad] at h
 | tu l=>simp[Ad] at h
 | pr l=>simp[Ad] at h
 | fn k x y=>simp[Ad] at h
theorem Cu{X:Nat→Prop}{o:Nat}{av av':AV}{v:Value}{F:Nat→Prop}{tm:Nat→Option Value}{k:Nat}(h:eQ P X w O F hm tm k av v)(ha:Fj hm o (some av)=some av'):
  ∃b off,v= .pointer (some ⟨b,off,none⟩)∧eQ P X w O F hm tm k av' (.pointer (some ⟨b,off+o,none⟩)):=by
 cases av<;>simp only[Fj] at ha<;>try (cases ha;done)
 case pt h' off =>
  split at ha<;>simp at ha;rename_i ds hds;subst ha;obtain ⟨b,h1,rfl⟩:=h ds hds;exact⟨b,off,rfl,fun ds' hd'=>⟨b,h1,rfl⟩⟩
 case d x =>
  cases x<;>simp only[] at ha<;>try (cases ha;done)
  rename_i ds;simp at ha;subst ha;obtain ⟨b,cs,e,fz,rfl,h2,h3,h4⟩:=Rd.Hn h;refine⟨b,0,rfl,b,0+o,cs,e,fz,rfl,h2,h3,fun i d hd=>?_⟩;rw[List.getElem?_drop] at hd;obtain ⟨h5,u,hu,h6⟩:=h4 _ d hd;exact⟨h5,u,by rw[← hu];congr 1;omega,h6⟩
 case rf ds =>
  simp at ha;subst ha;obtain ⟨b,off,cs,e,fz,rfl,h2,h3,h4⟩:=h;refine⟨b,off,rfl,b,off+o,cs,e,fz,rfl,h2,h3,fun i d hd=>?_⟩;rw[List.getElem?_drop] at hd;obtain ⟨h5,u,hu,h6⟩:=h4 _ d hd;exact⟨h5,u,by rw[← hu];congr 1;omega,h6⟩
 case el h' i off =>
  split at ha<;>try (cases ha;done)
  rename_i x hx;split at ha<;>simp at ha;rename_i p hp;subst ha;obtain ⟨e,l⟩:=p;obtain ⟨h0,b,o1,len,cap,h1,rfl⟩:=h x e l hx hp;refine⟨b,_,rfl,fun x' e' l' hx' hl'=>?_⟩;rw[hx] at hx';simp at hx';subst hx';rw[hp] at hl';simp at hl';obtain ⟨rfl,rfl⟩:=hl';exact⟨h0,b,o1,len,cap,h1,by rw[Nat.add_assoc]⟩
theorem mB{t:Nat}{i:TI}{info:TypeInfo}{d:TypeDesc}{z:Value}(hi:jS P t i info d z){f off size:Nat}{g:Bool}(h:sR i f=some (off,size,g)):
  ∃fs fl j dd,P.underlying t=some (.struct fs)∧fs[f]?=some fl∧fl.offset=off∧P.info? fl.type=some j∧j.size=size∧0<size∧P.underlying fl.type=some dd∧Kq P fl.type=g:=by
 unfold sR at h;split at h<;>try (cases h;done)
 rename_i hk;obtain ⟨fs,hu,hf,hall⟩:=hi.HQ hk;rw[← hf] at h;simp only[fieldsOf,List.getElem?_map,Option.map_eq_some_iff] at h;obtain ⟨fl,hfl,he⟩:=h;simp at he;obtain ⟨h1,h2,h3⟩:=he;obtain ⟨⟨j,hj⟩,⟨dd,hdd⟩,hpos⟩:=hall fl (List.mem_of_getElem? hfl);have hsz:P.cellsOf fl.type=j.size:=by simp[Program.cellsOf,hj]
 exact⟨fs,fl,j,dd,hu,by simpa using hfl,h1,hj,by rw[← hsz,h2],by rw[← h2];exact hpos,hdd,h3⟩
theorem IU{t:Nat}{dd:TypeDesc}(hu:P.underlying t=some dd):(isAgg t).run P w= .ok (Kq P t) w:=by
 unfold isAgg Kq;rw[Sem.run_bind,run_underlying hu];rw[hu];cases dd<;>rfl
theorem vO(hT:bD P T){o:Oper}{d:Nat}{av:AV}(hd:o.dst=some d)(hn:hm d=none)(h:pF T lk hm o.type o.op=some av):aN P B F0 w0 d o lk hm av:=by
 refine⟨hd,hn,fun a w O hI K Q hK=>?_⟩;have hsame: ∀{v:Value},(execOp a.eval o).run P w= .ok (.value v) w→eQ P w0.X w O (FW B F0 w) hm (fun h=>a.tmps[h]?) d av v→o.wp P a w K Q:=fun hrun hr=>bg hrun (hK _ w O (du.refl hI.lt) hr);have hsc: ∀{v:Value},(execOp a.eval o).run P w= .ok (.value v) w→eG v=true→av= .d (.v v)→o.wp P a w K Q:=fun hrun hp he=>hsame hrun (by subst he;exact .v hp);obtain ⟨dst,op,ty,pos,after,guard⟩:=o;simp only[] at hd h hI;cases op<;>simp only[pF] at h<;>try (cases h;done)
 case move x =>
  exact hsame (v:=a.eval x) rfl (a6 hI (fun t ht=>by subst ht;simp[Op.operands]) h d).1
 case assign x =>
  cases he:ex T lk ty x with
  | none=>rw[he] at h;cases h
  | some b =>
    rw[he] at h;have hr:=(a6 hI (fun t ht=>by subst ht;simp[Op.operands]) he d).1;cases b<;>simp at h<;>subst h
    · exact hsame (v:=a.eval x) rfl hr
    · obtain ⟨base,hb⟩:=hr;exact hsame (v:=a.eval x) rfl (.inl ⟨base,hb,rfl⟩)
 case pick c x y =>
  split at h<;>try (cases h;done)
  · rename_i hc;have hc:=(cR hT hI (fun t ht=>by subst ht;simp[Op.operands]) hc).1;exact hsame (v:=a.eval x) (by simp[execOp,hc,asBool]) (a6 hI (fun t ht=>by subst ht;simp[Op.operands]) h d).1
  · rename_i hc;have hc:=(cR hT hI (fun t ht=>by subst ht;simp[Op.operands]) hc).1;exact hsame (v:=a.eval y) (by simp[execOp,hc,asBool]) (a6 hI (fun t ht=>by subst ht;simp[Op.operands]) h d).1
 case alloc t =>
  split at h<;>simp at h;rename_i i hi;subst h;obtain ⟨info,dd,z,hok⟩:=hT t i hi;refine bg (v:= .pointer (some ⟨w.heap.size,0,none⟩)) (w':=w.alloc (.cells z.cells t)) (by simp[execOp,Instr.alloc,zeroValue,typeInfo,hok.hinfo,hok.zero,newVar,newRow]) (hK _ _ _ (du.alloc hI.lt d _) ?_);exact⟨w.heap.size,z.cells,t,rfl,by simp[j6],heap_alloc_new w _,qe hok.tP⟩
 case box t x =>
  split at h<;>try (cases h;done)
  rename_i y hy;split at h<;>simp at h;rename_i hnt;subst h;have hr:=dX hT hI (fun t ht=>by subst ht;simp[Op.operands]) hy;refine bg (v:= .pointer (some ⟨w.heap.size,0,none⟩)) (w':=w.alloc (.cells (a.eval x).cells t)) (by simp[execOp,Instr.box,newVar,newRow]) (hK _ _ _ (du.alloc hI.lt d _) ?_);exact⟨w.heap.size,(a.eval x).cells,t,rfl,by simp[j6],heap_alloc_new w _,(Rd.alloc hI hr d _).cells (re hnt)⟩
 case build t parts =>
  split at h<;>try (cases h;done)
  rename_i i ps hi hps;split at h<;>try (cases h;done)
  rename_i hk;split at h<;>simp at h;rename_i cs hcs;subst h;obtain ⟨info,dd,z,hok⟩:=hT t i hi;obtain ⟨fs,hu,hfs,hall⟩:=hok.HQ hk
  have hp:=pK hT hI parts.toList ps (fun p hp t ht=>by
   simp only[Op.operands];have:p.2∈parts.toList.map (·.2):=List.mem_map.2 ⟨p,hp,rfl⟩;rw[ht] at this
   simpa using this) hps
  obtain ⟨cs',e1,e2,e3⟩:=sQ ps (parts.toList.map fun (i,x)=>(i,a.eval x)) i.zero z.cells cs (by simp[hp.1]) hp.2 (qe hok.tP) hcs
  have hmap:fs.toList.mapM (fun f=>(P.info? f.type).map fun i=>(f.offset,i.size))=some (i.fields.map fun x=>(x.1,x.2.1)):=by
   rw[← hfs];clear hfs hu hcs e1;generalize fs.toList=l at hall
   induction l with
   | nil=>rfl
   | cons f l ih =>
     obtain ⟨⟨j,hj⟩,_,_⟩:=hall f (by simp);simp[List.mapM_cons,hj,ih (fun f hf=>hall f (by simp[hf])),fieldsOf,Program.cellsOf]
  have hb:P.built t (parts.toList.map fun (i,x)=>(i,a.eval x))=some cs':=by
   unfold Program.built;simp only[hok.hinfo,hu,hok.zero,hmap];rw[← e1]
   congr 1
   funext k;simp
  have hrun:=run_build w t (parts.map fun (i,x)=>(i,a.eval x)) cs' (by simpa using hb)
  exact hsame (v:= .agg cs') (by simp only[execOp,Sem.run_bind,hrun,Result.andThen_ok];rfl) (by
   have:=Rd.ag (w:=w) (F:=aP O (FW B F0 w)) (l:=cs) (vs:=cs'.toList) e2.1 (fun x hx=>by
    obtain ⟨j,hj⟩:=List.mem_iff_getElem?.1 hx
    exact(e2.get hj).1) (fun j x u h1 h2=>(e2.2 j x u h1 h2).2)
   show Rd _ _ _ _
   simpa using this)
 case buildSlice t n parts =>
  split at h<;>try (cases h;done)
  rename_i e hn0 hp he;split at h<;>simp at h;rename_i ie hie;subst h;have hn0:=Nat.eq_of_beq_eq_true hn0;subst hn0;unfold DM at he;split at he<;>try (cases he;done)
  rename_i i hi;split at he<;>simp at he;rename_i hk;subst he;obtain ⟨info,dd,z,hok⟩:=hT t i hi;obtain ⟨info',dd',z',hok'⟩:=hT _ ie hie;have hpe:parts= #[]:=by apply Array.ext';simpa using hp
  subst hpe;refine bg (v:= .slice (some ⟨w.heap.size,0,none⟩) 0 0) (w':=w.alloc (.cells #[] i.elem)) ?_ (hK _ _ O (du.IT hI.lt d _) ⟨_,rfl⟩);simp[execOp,Instr.buildSlice,run_underlying (hok.jy hk).1,Go.sizeOf,typeInfo,hok'.hinfo,Instr.fill,newRow,Array.range_zero']
 case load t x =>
  split at h<;>try (cases h;done)
  rename_i i cs hi hcs;obtain ⟨info,dd,z,hok⟩:=hT t i hi;cases he:ex T lk 0 x with
  | none=>rw[he] at hcs;simp[uP] at hcs
  | some b =>
    rw[he] at hcs;have hr:=(a6 hI (fun t ht=>by subst ht;simp[Op.operands]) he d).1;obtain ⟨b,off,cc,e,fz,hv,hb,hcells⟩:=xM hI hr hcs;obtain ⟨y,v,rfl,hrun,hrd⟩:=lQ hok hb hcells h;exact hsame (v:=v) (by simp[execOp,Instr.loadAt,Instr.sureAddr,hv,hrun]) hrd
 case binOp op t x y ty2 =>
  split at h<;>try (cases h;done)
  rename_i u v hu hv;have hu:=cR hT hI (fun t ht=>by subst ht;simp[Op.operands]) hu;have hv:=cR hT hI (fun t ht=>by subst ht;simp[Op.operands]) hv;cases hb:IM op u v with
  | none=>rw[hb] at h;cases h
  | some r =>
    rw[hb] at h;simp[mO] at h;have hrun:=IL (P:=P) (w:=w) (t:=t) (x:=x) (y:=y) hb
    exact hsc (v:=r) (by
     simp only[execOp,hu.1,hv.1]
     rw[Sem.run_bind,hrun.1];rfl) hrun.2 h.symm
 case unOp op t x =>
  split at h<;>try (cases h;done)
  rename_i u hu;have hu:=cR hT hI (fun t ht=>by subst ht;simp[Op.operands]) hu;cases hb:NC op u with
  | none=>rw[hb] at h;cases h
  | some r =>
    rw[hb] at h;simp[mO] at h;have hrun:=Ji (P:=P) (w:=w) hb;exact hsc (v:=r) (by simp[execOp,hu.1,hrun.1]) hrun.2 h.symm
 case convert s t x =>
  split at h<;>try (cases h;done)
  rename_i is u his hu;have hu:=cR hT hI (fun t ht=>by subst ht;simp[Op.operands]) hu;cases hb:Is T t u with
  | none=>rw[hb] at h;cases h
  | some r =>
    rw[hb] at h;simp[mO] at h;cases u<;>simp only[Is] at hb<;>try (cases hb;done)
    rename_i kk nn _;split at hb<;>try (cases hb;done)
    rename_i i hi;split at hb<;>try (cases hb;done)
    rename_i hk;obtain ⟨info,dd,z,hok⟩:=hT t i hi
    have hb:Value.int i.ik (i.ik.wrap nn)=r:=by
     split at hb<;>simp at hb<;>(rename_i hik;rw[hik];exact hb)
    subst hb;obtain ⟨info',dd',z',hok'⟩:=hT s is his;refine hsc (v:= .int i.ik (i.ik.wrap _)) ?_ rfl h.symm;simp[execOp,Go.convert,run_underlying hok'.und,run_underlying (hok.M1 hk),hu.1,Conv.intToInt]
 case makeInterface t x =>
  split at h<;>try (cases h;done)
  rename_i k n i hu hi;split at h<;>simp at h;rename_i hk;have hu:=cR hT hI (fun t ht=>by subst ht;simp[Op.operands]) hu;obtain ⟨info,dd,z,hok⟩:=hT t i hi;have hno:=hok.JP hk;refine hsc (v:= .iface t (.int k n)) ?_ rfl h.symm;simp only[execOp,Instr.makeInterface,Sem.run_bind,run_underlying hok.und,Result.andThen_ok];cases dd<;>simp[hu.1] at hno ⊢
 case fieldAddr t x f =>
  split at h<;>try (cases h;done)
  rename_i i hi;split at h<;>try (cases h;done)
  rename_i off size g hf;obtain ⟨info,dd,z,hok⟩:=hT t i hi;obtain ⟨fs,fl,j,dd',h1,h2,h3,h4,h5,h6,h7,h8⟩:=mB hok hf;cases he:ex T lk 0 x with
  | none=>rw[he] at h;simp[Fj] at h
  | some b =>
    rw[he] at h;have hr:=(a6 hI (fun t ht=>by subst ht;simp[Op.operands]) he d).1;obtain ⟨b,o',hv,hr'⟩:=Cu hr h;refine hsame (v:= .pointer (some ⟨b,o'+off,none⟩)) ?_ hr';have hs:j.size≠0:=by omega
    simp[execOp,Instr.fieldAt,run_underlying h1,h2,hv,Instr.sureAddr,fieldPlace,Go.sizeOf,typeInfo,h4,hs,h3,Addr.add_lit]
 case field t x f =>
  split at h<;>try (cases h;done)
  rename_i i cs hi hcs;split at h<;>try (cases h;done)
  rename_i off size g hf;obtain ⟨info,dd,z,hok⟩:=hT t i hi;obtain ⟨fs,fl,j,dd',h1,h2,h3,h4,h5,h6,h7,h8⟩:=mB hok hf;obtain ⟨vs,hv,hr⟩:=(dX hT hI (fun t ht=>by subst ht;simp[Op.operands]) hcs).Nu
  have hget: ∀(k:Nat) (y:D),(cs.drop off)[k]?=some y→y.bc=true∧ ∃u,vs[off+k]?=some u∧Rd w (aP O (FW B F0 w)) y u:=fun k y hy=>by
   rw[List.getElem?_drop] at hy;exact hr.get hy
  unfold kC at h;simp only[] at h;have hag:=IU (P:=P) (w:=w) h7;rw[h8] at hag;cases g with
  | true =>
    simp only[] at h;split at h<;>simp at h;rename_i hle;subst h;have hle:=Nat.le_of_ble_eq_true hle;have hl:size≤vs.length-off:=by rw[hr.1];simpa using hle
    refine hsame (v:= .agg (vs.toArray.extract off (off+size))) ?_ ?_
    · simp[execOp,Instr.field,run_underlying h1,h2,hv,asAgg,part,hag,Go.sizeOf,typeInfo,h4,h5,h3]
    · have he:vs.toArray.extract off (off+size)=((vs.drop off).take size).toArray:=by
       simp[List.extract_eq_take_drop]
      rw[he];refine Rd.ag (by have e1:=hr.1;simp;omega) (fun y hy=>?_) (fun k y u hy hu=>?_)
      · obtain ⟨k,hk⟩:=List.mem_iff_getElem?.1 hy;rw[List.getElem?_take] at hk;split at hk
        · exact(hget k y hk).1
        · cases hk
      · rw[List.getElem?_take] at hy hu;split at hy<;>try (cases hy;done)
        rename_i hks;rw[if_pos hks,List.getElem?_drop] at hu;obtain ⟨_,u',hu',hru⟩:=hget k y hy;rw[hu'] at hu;simp at hu;subst hu;exact hru
  | false =>
    simp only[] at h;split at h<;>simp at h;rename_i c r hc;subst h;obtain ⟨_,u,hu,hru⟩:=hget 0 c (by rw[hc];rfl);refine hsame (v:=u) ?_ hru;simp only[Nat.add_zero] at hu;simp[execOp,Instr.field,run_underlying h1,h2,hv,asAgg,part,hag,h3,hu]
 case extract x k =>
  split at h<;>try (cases h;done)
  rename_i l hl;split at h<;>simp at h;rename_i y hy;subst h;have hr:=dX hT hI (fun t ht=>by subst ht;simp[Op.operands]) hl;obtain ⟨vs,hv,hlen,hall⟩:=hr.MB;have hlt:k<vs.length:=by rw[hlen];exact(List.getElem?_eq_some_iff.1 hy).1
  refine hsame (v:=vs[k]) ?_ (hall k y _ hy (List.getElem?_eq_getElem hlt));simp[execOp,Instr.extract,hv,hlt]
 case call c =>
  obtain ⟨callee,args,argTypes⟩:=c;simp only[] at h;split at h<;>try (cases h;done)
  · split at h<;>try (cases h;done)
    rename_i x t hx ht;split at h<;>try (cases h;done)
    rename_i i y hi hy;obtain ⟨info,dd,z,hok⟩:=hT t i hi;have hxm:args= #[x]:=by apply Array.ext';simpa using hx
    have htm:argTypes= #[t]:=by apply Array.ext';simpa using ht
    subst hxm;subst htm;have hr:=Ip hT hI (fun t ht=>by subst ht;simp[Op.operands,Call.operands]) hy;cases hb:Ad i.kind y with
    | none=>rw[hb] at h;cases h
    | some r =>
      rw[hb] at h;simp[mO] at h;have hrun:=HO (w:=w) (ty:=ty) hok hr hb;exact hsc (v:=r) (by simp[execOp,resolve,invoke,builtin,hrun.1]) hrun.2 h.symm
  · split at h<;>try (cases h;done)
    rename_i v vs hv;have hr:=u6 hT hI args.toList _ (fun x hx t ht=>by subst ht;simp[Op.operands,Call.operands];exact Array.mem_toList_iff.1 hx) hv;cases hb:ub true v vs with
    | none=>rw[hb] at h;cases h
    | some r =>
      rw[hb] at h;simp[mO] at h;have hrun:=BY (P:=P) (w:=w) vs v r hb;exact hsc (v:=r) (by simp[execOp,resolve,invoke,builtin,Builtin.max_,hr.1,hrun.1]) hrun.2 h.symm
  · split at h<;>try (cases h;done)
    rename_i v vs hv;have hr:=u6 hT hI args.toList _ (fun x hx t ht=>by subst ht;simp[Op.operands,Call.operands];exact Array.mem_toList_iff.1 hx) hv;cases hb:ub false v vs with
    | none=>rw[hb] at h;cases h
    | some r =>
      rw[hb] at h;simp[mO] at h;have hrun:=BX (P:=P) (w:=w) vs v r hb;exact hsc (v:=r) (by simp[execOp,resolve,invoke,builtin,Builtin.min_,hr.1,hrun.1]) hrun.2 h.symm
end
end Lift
namespace Lift
open Go
open Go.RowKit (Below)
structure Rel (P:Program) (B:Nat) (F0:Nat→Prop) (w0:cX) (n:Nat) (σ:St) (a:Act) (w:World):Prop where
 below:iI B w0 w0.w w
 base:B≤w.heap.size
 f0:D8 B F0 w0
 defers:a.defers=[]
 size:a.tmps.size=n
 own: ∃O:Nat→Option Nat,(∀b t,O b=some t→j7 B w0 w b)∧ ∀t av,σ.get t=some av→ ∃v,a.tmps[t]?=some v∧eQ P w0.X w O (FW B F0 w) σ.get (fun h=>a.tmps[h]?) t av v
def jG(σ:St)(d:Nat)(t:Nat):Option AV:=match Nat.beq t d with
 | true=>none
 | false=>σ.get t
theorem bu(σ:St)(d:Nat):jG σ d d=none:=by simp[jG]
theorem ru{σ:St}{d t:Nat}{av:AV}(h:jG σ d t=some av):t≠d∧σ.get t=some av:=by
 unfold jG at h;split at h
 · cases h
 · rename_i hb;exact⟨Nat.ne_of_beq_eq_false hb,h⟩
theorem HV{σ:St}{d t:Nat}(h:t≠d):jG σ d t=σ.get t:=by
 unfold jG;split
 · rename_i hb;exact absurd (Nat.eq_of_beq_eq_true hb) h
 · rfl
section
variable {P:Program} {T:Ty} {B:Nat} {F0:Nat→Prop} {w0:cX} {n:Nat}
theorem iB(σ:St)(d:Nat)(av:AV):(σ.put d av).get d=some av:=by
 unfold St.put;cases av.home<;>simp[St.aM]
theorem mz(σ:St)(d:Nat)(av:AV){t:Nat}(h:t≠d):(σ.put d av).get t=if av.home=true then (σ.get t).map (AV.kill d) else σ.get t:=by
 unfold St.put;cases av.home<;>simp[St.aM,Ne.symm h,St.dV]
theorem gA{d:Nat}{a:AV}(h:(a.kill d).home=true):a.kill d=a:=by
 rcases AV.kZ d a with h' | h'
 · exact h'.1
 · rw[h'] at h;simp[AV.home] at h
theorem rC{σ:St}{d:Nat}{av x:AV}{t:Nat}(h:t≠d)(hx:x.home=true)(hg:(σ.put d av).get t=some x):σ.get t=some x:=by
 rw[mz σ d av h] at hg;split at hg
 · cases hs:σ.get t with
   | none=>simp[hs] at hg
   | some y =>
     simp only[hs,Option.map_some,Option.some.injEq] at hg;subst hg;rw[gA hx]
 · exact hg
theorem dF{a:Act}{d t:Nat}{v:Value}(h:t≠d):(a.put (some d) v).tmps[t]?=a.tmps[t]?:=by
 simp[Act.put,Array.getElem?_setIfInBounds_ne (Ne.symm h)]
theorem eT{a:Act}{d:Nat}{v:Value}(h:d<a.tmps.size):(a.put (some d) v).tmps[d]?=some v:=by
 simp[Act.put,h]
theorem Rel.put{σ:St}{a:Act}{w w':World}{d:Nat}{av:AV}{v:Value}{O O':Nat→Option Nat}(hR:Rel P B F0 w0 n σ a w)
  (hOr: ∀b t,O b=some t→j7 B w0 w b) (hO: ∀t av,σ.get t=some av→ ∃v,a.tmps[t]?=some v∧eQ P w0.X w O (FW B F0 w) σ.get (fun h=>a.tmps[h]?) t av v)
  (hd:d<n) (hg:du w O d w' O') (hv:eQ P w0.X w' O' (FW B F0 w') (jG σ d) (fun h=>a.tmps[h]?) d av v):Rel P B F0 w0 n (σ.put d av) (a.put (some d) v) w':=by
 have hsz:w.heap.size≤w'.heap.size:=hg.below.size;refine⟨hR.below.trans (.of hg.below hR.base),Nat.le_trans hR.base hsz,hR.f0,by simp[Act.put,hR.defers],by simp[Act.put,hR.size],O',fun b t hb=>?_,fun t x hx=>?_⟩
 · rcases hg.mine b t hb with h | ⟨_,h⟩
   · rw[hg.same b h] at hb;exact⟨(hOr b t hb).1,Nat.lt_of_lt_of_le h hsz⟩
   · rcases Nat.lt_or_ge b w.heap.size with h' | h'
     · rw[hg.same b h'] at hb;exact⟨(hOr b t hb).1,h⟩
     · exact⟨.inl (Nat.le_trans hR.base h'),h⟩
 · by_cases htd:t=d
   · subst htd;rw[iB] at hx;simp at hx;subst hx;refine⟨v,eT (by rw[hR.size];exact hd),?_⟩
     have hlt: ∀b u,O' b=some u→b<w'.heap.size:=fun b u hb=>by
      rcases hg.mine b u hb with h | ⟨_,h⟩
      · exact Nat.lt_of_lt_of_le h hsz
      · exact h
     refine hv.mono (fun b hb=>FW.step hR.f0 (Nat.le_trans hR.base hsz) (Nat.le_refl _) b hb) (fun _ _=>rfl) hlt (fun _ _=>rfl) (fun k hk x hx hg'=>?_)
     have hkd:k≠t:=fun e=>by
      subst e;rw[iB] at hg';simp at hg';subst hg';cases av<;>simp_all [AV.home,AV.refs]
     refine⟨?_,dF hkd⟩;rw[HV hkd];exact rC hkd hx hg'
   · have key: ∃y,σ.get t=some y∧(x=y∧(av.home=true→y.refs≠some d)∨x= .junk):=by
      rw[mz σ d av htd] at hx;split at hx
      · cases hs:σ.get t with
        | none=>simp[hs] at hx
        | some y =>
          simp only[hs,Option.map_some,Option.some.injEq] at hx;subst hx;refine⟨y,rfl,?_⟩;rcases AV.kZ d y with h | h
          · exact .inl ⟨h.1,fun _=>h.2⟩
          · exact .inr h
      · rename_i h;exact⟨x,hx,.inl ⟨rfl,fun h'=>absurd h' h⟩⟩
     obtain ⟨y,hy,hxy⟩:=key;obtain ⟨u,hu,hr⟩:=hO t y hy;refine⟨u,by rw[dF htd];exact hu,?_⟩;rcases hxy with ⟨rfl,hne⟩ | rfl
     · refine hr.mono (fun b hb=>FW.step hR.f0 hR.base hsz b hb) hg.same (fun b u hb=>(hOr b u hb).2) (fun b hb=>hg.below.block b hb) (fun k hk z hz hg'=>?_)
       have hkd:k≠d:=fun e=>by
        subst e;rw[iB] at hg';simp at hg';subst hg';exact hne hz hk
       exact⟨rC hkd hz hg',dF hkd⟩
     · trivial
def dZ(P:Program)(B:Nat)(F0:Nat→Prop)(w0:cX)(n:Nat)(o:Oper)(σ σ':St):Prop :=
 ∀(a:Act) (w:World),Rel P B F0 w0 n σ a w→ ∀(K:Act→World→Prop) (Q:Exit→Act→World→Prop),(∀a' w',Rel P B F0 w0 n σ' a' w'→K a' w')→o.wp P a w K Q
theorem Rel.inv{σ:St}{a:Act}{w:World}{O:Nat→Option Nat}(hR:Rel P B F0 w0 n σ a w)(hOr: ∀b t,O b=some t→j7 B w0 w b)
  (hO: ∀t av,σ.get t=some av→ ∃v,a.tmps[t]?=some v∧eQ P w0.X w O (FW B F0 w) σ.get (fun h=>a.tmps[h]?) t av v) (R:Nat→Prop) (d:Nat):Inv P B F0 w0 R σ.get (jG σ d) a w O:=by
 have hm: ∀t av v,eQ P w0.X w O (FW B F0 w) σ.get (fun h=>a.tmps[h]?) t av v→eQ P w0.X w O (FW B F0 w) (jG σ d) (fun h=>a.tmps[h]?) t av v:=fun t av v h =>
  h.mono (fun b hb=>FW.step hR.f0 hR.base (Nat.le_refl _) b hb) (fun _ _=>rfl) (fun b u hb=>(hOr b u hb).2) (fun _ _=>rfl) (fun k _ x _ hk=>⟨(ru hk).2,rfl⟩)
 refine⟨hR.below,hR.base,hR.f0,hOr,fun t _ av h=>?_,fun t av h _=>?_⟩
 · obtain ⟨v,hv,hr⟩:=hO t av h;exact⟨v,hv,hm _ _ _ hr⟩
 · obtain ⟨v,hv,hr⟩:=hO t av (ru h).2;exact⟨v,hv,hm _ _ _ hr⟩
theorem dZ.zS{o:Oper}{σ:St}{d:Nat}{av:AV}(h:aN P B F0 w0 d o σ.get (jG σ d) av)(hd:d<n):dZ P B F0 w0 n o σ (σ.put d av):=by
 intro a w hR K Q hK;obtain ⟨hdst,hn,hstep⟩:=h;obtain ⟨O,hOr,hO⟩:=hR.own;refine hstep a w O (hR.inv hOr hO _ d) K Q (fun v w' O' hg hv=>?_);rw[hdst];exact hK _ _ (hR.put hOr hO hd hg hv)
theorem mb{t:Nat}{i:TI}{info:TypeInfo}{dd:TypeDesc}{z:Value}(hi:jS P t i info dd z){w:World}{b off:Nat}{cs:Array Value}{e:TypeId}{v:Value}
  (hb:w.heap[b]?=some (.cells cs e (0,0))) (hs:v.cells.size=i.size) (hl:off+v.cells.size≤cs.size) (h1: ∀u,u∈v.cells.toList→u.oneCell'=true):
  (storeVar t ⟨b,off,none⟩ v).run P w= .ok () (w.setRow b (cs.toList.take off++v.cells.toList++cs.toList.drop (off+v.cells.size)).toArray):=by
 have:=run_storeCells_at P b off e v.cells.toList 0 cs w hb (by simpa using hl) h1;simp only[Nat.add_zero,Array.length_toList] at this;unfold storeVar;simp only[Sem.run_bind,Go.sizeOf,typeInfo,run_program,hi.hinfo,Sem.run_pure,Result.andThen_ok,hi.size,hs];simp[this,hs]
theorem Rel.write{σ:St}{a:Act}{w:World}{h b:Nat}{x x':AV}{cs cs0:Array Value}{e0:TypeId}{fz:Nat×Nat}{O:Nat→Option Nat}(hbb:w.heap[b]?=some (.cells cs0 e0 fz))(hss:cs.size=cs0.size)(hR:Rel P B F0 w0 n σ a w)
  (hOr: ∀b t,O b=some t→j7 B w0 w b) (hO: ∀t av,σ.get t=some av→ ∃v,a.tmps[t]?=some v∧eQ P w0.X w O (FW B F0 w) σ.get (fun h=>a.tmps[h]?) t av v)
  (hx:σ.get h=some x) (hb:O b=some h) (hsame:(∃ds ds',x= .bx ds∧x'= .bx ds')∨(∃e l l',x.row=some (e,l)∧x'.row=some (e,l')∧l.length=l'.length∧x.tag=x'.tag))
  (hv: ∀v,a.tmps[h]?=some v→eQ P w0.X w O (FW B F0 w) σ.get (fun h=>a.tmps[h]?) h x v→eQ P w0.X (w.setRow b cs) O (FW B F0 w) σ.get (fun h=>a.tmps[h]?) h x' v)
  (hh:x'.home=true):Rel P B F0 w0 n ((h,x')::σ) a (w.setRow b cs):=by
 have hget: ∀t,St.get ((h,x')::σ) t=if h=t then some x' else σ.get t:=fun t=>St.aM _ _ _ _
 have hFW:FW B F0 (w.setRow b cs)=FW B F0 w:=by funext c;simp[FW]
 refine⟨hR.below.trans (.write hbb hss (hOr b h hb).1),by simpa using hR.base,hR.f0,hR.defers,hR.size,O,fun c t hc=>⟨(hOr c t hc).1,by simpa using (hOr c t hc).2⟩,fun t av hav=>?_⟩
 · rw[hget] at hav;rw[hFW];by_cases htd:h=t
   · subst htd;simp at hav;subst hav;obtain ⟨v,hv',hr⟩:=hO h x hx;refine⟨v,hv',?_⟩;have:=hv v hv' hr;have hlt: ∀c u,O c=some u→c<(w.setRow b cs).heap.size:=fun c u hc=>by simpa using (hOr c u hc).2
     refine this.mono (fun c hc=>⟨by simpa using (FW.step hR.f0 hR.base (Nat.le_refl _) c hc).1,hc⟩) (fun _ _=>rfl) hlt (fun _ _=>rfl) (fun k hk=>?_);exfalso;cases x'<;>simp_all [AV.home,AV.refs]
   · rw[if_neg htd] at hav;obtain ⟨v,hv',hr⟩:=hO t av hav;refine⟨v,hv',hr.write hb (fun e=>absurd e.symm htd) (fun _ hc=>hc) (fun k hk=>⟨fun ds hds=>?_,fun z e l hz hl=>?_⟩)⟩
     · rw[hget] at hds;split at hds
       · rename_i hk';subst hk';simp at hds;subst hds;rcases hsame with ⟨d1,d2,rfl,_⟩ | ⟨_,_,_,_,h2,_,_⟩
         · exact⟨d1,hx⟩
         · simp[AV.row] at h2
       · exact⟨ds,hds⟩
     · rw[hget] at hz;split at hz
       · rename_i hk';subst hk';simp at hz;subst hz;rcases hsame with ⟨_,_,_,h2⟩ | ⟨e',l1,l2,h1,h2,h3,h4⟩
         · subst h2;simp[AV.row] at hl
         · rw[h2] at hl;simp at hl;obtain ⟨rfl,rfl⟩:=hl;exact⟨x,l1,hx,h1,h3,h4⟩
       · exact⟨z,l,hz,hl,rfl,rfl⟩
theorem vK{a:Act}{v:Value}:a.put none v=a:=rfl
theorem dZ.GR(hT:bD P T){o:Oper}{σ:St}{t:Nat}{p x:Operand}{h off:Nat}{ds:List D}{y:D}{i:TI}(hd:o.dst=none)(ho:o.op= .store t p x)(hi:T.get t=some i)
  (hp:ex T σ.get 0 p=some (.pt h off)) (hh:σ.get h=some (.bx ds)) (hx:dC T (ex T σ.get t x)=some y) (hnt:vX y=true) (hs:y.flat.length=i.size) (hl:off+y.flat.length≤ds.length):
  dZ P B F0 w0 n o σ ((h,.bx (ds.take off++y.flat++ds.drop (off+y.flat.length)))::σ):=by
 intro a w hR K Q hK;obtain ⟨O,hOr,hO⟩:=hR.own;obtain ⟨info,dd,z,hok⟩:=hT t i hi;have hI:Inv P B F0 w0 (fun _=>True) σ.get σ.get a w O:=⟨hR.below,hR.base,hR.f0,hOr,fun t _ av h=>hO t av h,fun t av h _=>hO t av h⟩;have hpv:=(a6 hI (fun _ _=>trivial) hp 0).1;have hyv:=dX hT hI (fun _ _=>trivial) hx;obtain ⟨u,hu,b,cs,e,rfl,h2,h3,h4⟩:=hO h _ hh;obtain ⟨b',hb',hpe⟩:=hpv ds hh;simp only[hu] at hb';simp at hb';subst hb';have hyc:=hyv.cells (re hnt);have hvs:(a.eval x).cells.size=y.flat.length:=by have:=hyc.1;simpa using this
 have hcs:cs.size=ds.length:=by have:=h4.1;simpa using this
 have hrun:=mb hok h3 (v:=a.eval x) (off:=off) (by omega) (by omega) hyc.wT;refine uZ (w':=w.setRow b (cs.toList.take off++(a.eval x).cells.toList++cs.toList.drop (off+(a.eval x).cells.size)).toArray) ?_ ?_
 · obtain ⟨dst,op,ty,pos,after,guard⟩:=o;simp only[] at ho;subst ho;simp[execOp,Instr.storeAt,Instr.sureAddr,hpe,hrun]
 · rw[hd,vK];refine hK _ _ (Rel.write h3 (by simp;omega) hR hOr hO hh h2 (.inl ⟨_,_,rfl,rfl⟩) (fun v hv hr=>?_) rfl);rw[hu] at hv;simp at hv;subst hv;refine⟨b,_,e,rfl,h2,setRow_heap w b cs _ e _ h3,?_⟩;have hB: ∀c,aP O (FW B F0 w) c→(w.setRow b ((cs.toList.take off++(a.eval x).cells.toList++cs.toList.drop (off+(a.eval x).cells.size)).toArray)).heap[c]?=w.heap[c]?:=fun c hc=>setRow_other w b c _ (fun e=>by rw[e,aP,h2] at hc;cases hc.1);refine mF.mono (w:=w) (F:=aP O (FW B F0 w)) ?_ (fun _ h=>h) hB;refine⟨by simp;omega,fun j y' u' hy hu'=>?_⟩;rw[List.append_assoc,List.getElem?_append] at hy hu';have htl:(ds.take off).length=off:=by simp;omega
   have htl':(cs.toList.take off).length=off:=by simp;omega
   rw[htl] at hy;rw[htl'] at hu';split at hy
   · rename_i hj;rw[if_pos hj,List.getElem?_take,if_pos hj] at hu';rw[List.getElem?_take,if_pos hj] at hy;exact h4.2 j y' u' hy hu'
   · rename_i hj;rw[if_neg hj,List.getElem?_append] at hu';rw[List.getElem?_append] at hy;simp only[Array.length_toList,hvs] at hu';split at hy
     · rename_i hj2;rw[if_pos hj2] at hu';exact hyc.2 _ y' u' hy hu'
     · rename_i hj2;rw[if_neg hj2,List.getElem?_drop] at hu';rw[List.getElem?_drop] at hy;exact h4.2 _ y' u' hy hu'
end
end Lift
namespace Lift
open Go
open Go.RowKit (Below)
section
variable {P:Program} {T:Ty} {B:Nat} {F0:Nat→Prop} {w0:cX} {n:Nat}
theorem St.ki(σ:St)(d h:Nat)(x y:AV)(t:Nat):St.get ((d,x)::(h,y)::σ) t=if d=t then some x else if h=t then some y else σ.get t:=by
 rw[St.aM,St.aM]
theorem dZ.gw{o:Oper}{σ:St}{d h:Nat}{x:Operand}{av y y' z:AV}(hd:o.dst=some d)(hdn:d<n)(ho:o.op= .assign x)
  (hx:ex T σ.get o.type x=some av) (hh:σ.get h=some y)
  (hc:(av= .al h∧y.row.isSome=true∧y'=y∧z= .al d∧h≠d)∨(∃e l lo m,av= .sb h lo m∧y.row=some (e,l)∧y'= .wn y.tag e l lo m∧z= .junk)):dZ P B F0 w0 n o σ ((d,y')::(h,z)::σ.kill d):=by
 intro a w hR K Q hK;obtain ⟨O,hOr,hO⟩:=hR.own;have hI:Inv P B F0 w0 (fun _=>True) σ.get σ.get a w O:=⟨hR.below,hR.base,hR.f0,hOr,fun t _ av h=>hO t av h,fun t av h _=>hO t av h⟩;have hxv:=(a6 hI (fun _ _=>trivial) hx 0).1;obtain ⟨uh,huh,hr⟩:=hO h _ hh
 let O':Nat→Option Nat:=fun c=>if O c=some h then some d else if O c=some d then some h else O c
 have hO'n: ∀c,O' c=none↔O c=none:=fun c=>by
  simp only[O'];split
  · rename_i h1;simp[h1]
  · split
    · rename_i h2;simp[h2]
    · rfl
 have hF: ∀c,aP O (FW B F0 w) c→aP O' (FW B F0 w) c:=fun c hc=>⟨(hO'n c).2 hc.1,hc.2⟩
 have hcell: ∀{l:List D} {cs:Array Value},(∀(i:Nat) (d:D),(flatAll l)[i]?=some d→d.bc=true∧ ∃u,cs[i]?=some u∧Rd w (aP O (FW B F0 w)) d u) →
   ∀(i:Nat) (d:D),(flatAll l)[i]?=some d→d.bc=true∧ ∃u,cs[i]?=some u∧Rd w (aP O' (FW B F0 w)) d u:=fun h8 i dd hdd=>⟨(h8 i dd hdd).1,let ⟨z,hz,hzr⟩:=(h8 i dd hdd).2;⟨z,hz,hzr.mono hF (fun _ _=>rfl)⟩⟩
 obtain ⟨u,hev,hval⟩: ∃u,a.eval x=u∧ ∀hm tm,eQ P w0.X w O' (FW B F0 w) hm tm d y' u:=by
  refine⟨_,rfl,fun hm tm=>?_⟩;rcases hc with ⟨rfl,hrow,rfl,rfl,hne⟩ | ⟨e,l,lo,m,rfl,hrow,rfl,rfl⟩
  · have:=hxv _ hh hrow;simp only[huh] at this;rw[← Option.some.inj this];cases y'<;>simp[AV.row] at hrow
    · rcases hr with hr | ⟨b,cap,cs,h1,h2,h3,h4,h5,h6,h7,h8⟩
      · exact .inl hr
      · exact .inr ⟨b,cap,cs,h1,by simp[O',h2],h3,h4,h5,h6,h7,hcell h8⟩
    · rcases hr with hr | ⟨b,o,cap,cs,hq,h1,h0,h2,h3,h4,h5,h6,h7,h8⟩
      · exact .inl hr
      · exact .inr ⟨b,o,cap,cs,hq,h1,h0,by simp[O',h2],h3,h4,h5,h6,h7,hcell h8⟩
  · obtain ⟨hlo,cap',hc1,hc2,hv⟩:=hxv _ _ _ hh hrow
    have hnil:l.length=0→y.tag=false→ ∀base,a.eval x= .slice base m 0→eQ P w0.X w O' (FW B F0 w) hm tm d (.wn y.tag e l lo m) (a.eval x):=fun hl0 hq base hv1=>by
     have hm0:m=0:=by omega
     have hl0':lo=0:=by omega
     subst hm0;subst hl0';exact .inl ⟨hq,base,hv1,List.eq_nil_of_length_eq_zero hl0,rfl,rfl⟩
    rcases hv with ⟨hl0,hq,hc0,base,hv⟩ | ⟨b,o1,len,cap,o,htm,hv,h0,hcx⟩
    · have hm0:m=0:=by omega
      exact hnil hl0 hq base (by rw[hm0,hv,hc0])
    · simp only[huh] at htm;simp at htm;subst htm;rcases lI hr hrow with ⟨hl0,hq,hc0⟩ | ⟨cs,hq,g2,g3,g7,g8⟩
      · have h1:=hcx.2.2;exact hnil (by rw[hl0];rfl) hq _ (by rw[hv,show cap'=0 by omega])
      · exact .inr ⟨b,o,cap',cs,hq.1,hv,⟨h0,hcx.1,Nat.le_trans hcx.2.1 hq.2⟩,by simp[O',g2],g3,hlo,hc1,hc2,g7,hcell g8⟩
 refine bg (v:=u) (w':=w) ?_ ?_
 · obtain ⟨dst,op,ty,pos,after,guard⟩:=o;simp only[] at ho hev;subst ho;simp[execOp,hev]
 rw[hd];have hds:d<a.tmps.size:=by rw[hR.size];exact hdn
 refine hK _ _ ⟨hR.below,hR.base,hR.f0,by simp[Act.put,hR.defers],by simp[Act.put,hR.size],O',fun c t hc=>?_,fun t av hav=>?_⟩
 · simp only[O'] at hc;split at hc
   · rename_i h1;exact hOr c h h1
   · split at hc
     · rename_i h1;exact hOr c d h1
     · exact hOr c t hc
 rw[St.ki] at hav;split at hav
 · rename_i htd;subst htd;simp at hav;subst hav;exact⟨u,eT hds,hval _ _⟩
 · rename_i htd;split at hav
   · rename_i hth;subst hth;simp at hav;subst hav;refine⟨uh,by rw[dF (Ne.symm htd)];exact huh,?_⟩;rcases hc with ⟨rfl,hrow,rfl,rfl,hne⟩ | ⟨e,l,lo,m,rfl,hrow,rfl,rfl⟩
     · intro _ _ _;have:=hxv _ hh hrow;simp only[huh] at this;rw[this,← hev];exact eT hds
     · trivial
   · rename_i hth;rw[St.dV] at hav;cases hs:σ.get t with
     | none=>simp[hs] at hav
     | some yy =>
       simp only[hs,Option.map_some,Option.some.injEq] at hav;subst hav;obtain ⟨v,hv,hvr⟩:=hO t yy hs;refine⟨v,by rw[dF (Ne.symm htd)];exact hv,?_⟩;rcases AV.kZ d yy with ⟨h1,h2⟩ | h1
       · rw[h1]
         have hres: ∀k,yy.refs=some k→ ∀x,x.home=true→St.get ((d,y')::(h,z)::σ.kill d) k=some x→σ.get k=some x∧(a.put (some d) u).tmps[k]?=a.tmps[k]?:=fun k hk x hx hg=>by
          have hkd:k≠d:=fun e=>h2 (e▸hk);rw[St.ki,if_neg (Ne.symm hkd)] at hg;split at hg
          · simp at hg;subst hg;rcases hc with ⟨_,_,_,rfl,_⟩ | ⟨_,_,_,_,_,_,_,rfl⟩<;>simp[AV.home] at hx
          · rw[St.dV] at hg;cases hsk:σ.get k with
            | none=>simp[hsk] at hg
            | some z =>
              simp only[hsk,Option.map_some,Option.some.injEq] at hg;subst hg;rw[gA hx];exact⟨rfl,dF hkd⟩
         cases yy with
         | d x=>exact Rd.mono hvr hF (fun _ _=>rfl)
         | bx ds =>
           obtain ⟨b,cs,e',g1,g2,g3,g4⟩:=hvr;refine⟨b,cs,e',g1,?_,g3,g4.mono hF (fun _ _=>rfl)⟩;simp only[O',g2];rw[if_neg (by simpa using Ne.symm hth),if_neg (by simpa using Ne.symm htd)]
         | pt k off=>exact fun ds hds=>by obtain ⟨g1,g2⟩:=hres k rfl _ rfl hds;simp only[g2];exact hvr ds g1
         | rf ds =>
           obtain ⟨b,off,cs,e',fz,g1,g2,g3,g4⟩:=hvr;exact⟨b,off,cs,e',fz,g1,hF b g2,g3,fun i dd hdd=>⟨(g4 i dd hdd).1,let ⟨z,hz,hzr⟩:=(g4 i dd hdd).2;⟨z,hz,hzr.mono hF (fun _ _=>rfl)⟩⟩⟩
         | e0 e'=>exact hvr
         | ow e' l' =>
           rcases hvr with hvr | ⟨b,cap,cs,g1,g2,g3,g4,g5,g6,g7,g8⟩
           · exact .inl hvr
           · refine .inr ⟨b,cap,cs,g1,?_,g3,g4,g5,g6,g7,fun i dd hdd=>⟨(g8 i dd hdd).1,let ⟨z,hz,hzr⟩:=(g8 i dd hdd).2;⟨z,hz,hzr.mono hF (fun _ _=>rfl)⟩⟩⟩;simp only[O',g2];rw[if_neg (by simpa using Ne.symm hth),if_neg (by simpa using Ne.symm htd)]
         | wn q' e' l' lo m =>
           rcases hvr with hvr | ⟨b,o,cap,cs,hq,g1,g0,g2,g3,g4,g5,g6,g7,g8⟩
           · exact .inl hvr
           refine .inr ⟨b,o,cap,cs,hq,g1,g0,?_,g3,g4,g5,g6,g7,fun i dd hdd=>⟨(g8 i dd hdd).1,let ⟨z,hz,hzr⟩:=(g8 i dd hdd).2;⟨z,hz,hzr.mono hF (fun _ _=>rfl)⟩⟩⟩;simp only[O',g2];rw[if_neg (by simpa using Ne.symm hth),if_neg (by simpa using Ne.symm htd)]
         | al k=>exact fun x' hx' hl'=>by obtain ⟨g1,g2⟩:=hres k rfl _ (dy hl') hx';simp only[g2];exact hvr x' g1 hl'
         | el k i off=>exact fun x' e' l' hx' hl'=>by obtain ⟨g1,g2⟩:=hres k rfl _ (dy (by rw[hl'];rfl)) hx';simp only[g2];exact hvr x' e' l' g1 hl'
         | sb k i off=>exact fun x' e' l' hx' hl'=>by obtain ⟨g1,g2⟩:=hres k rfl _ (dy (by rw[hl'];rfl)) hx';simp only[g2];exact hvr x' e' l' g1 hl'
         | un=>exact hvr
         | junk=>trivial
       · rw[h1];trivial
def ae(P:Program)(B:Nat)(F0:Nat→Prop)(w0:cX)(n:Nat)(all:Array Oper)(l:List Oper)(K:St→Prop)(σ:St):Prop :=
 ∀(a:Act) (w:World),Rel P B F0 w0 n σ a w→ ∀Q:Exit→Act→World→Prop,(∀a w σ',K σ'→Rel P B F0 w0 n σ' a w→Q .normal a w)→wpList P all Q l a w
variable {all:Array Oper} {rest:List Oper} {o:Oper} {K:St→Prop} {σ σ':St}
theorem ae.nil(h:K σ):ae P B F0 w0 n all [] K σ:=fun a w hR Q hQ=>hQ a w σ h hR
theorem ae.step(hg:o.guard=none)(ho:dZ P B F0 w0 n o σ σ')(h:ae P B F0 w0 n all rest K σ'):ae P B F0 w0 n all (o::rest) K σ:=by
 intro a w hR Q hQ;unfold wpList;rw[if_pos (by simp[Region.wanted,hg])];exact .inl (ho a w hR _ _ fun a' w' hR'=>h a' w' hR' Q hQ)
theorem uY{g t:Nat}{og:Oper}{b:Bool}{a:Act}{w:World}(hR:Rel P B F0 w0 n σ a w)(hg:all[g]?=some og)(ht:og.dst=some t)(hb:σ.get t=some (.d (.v (.bool b)))):yielded all a.tmps g=some b:=by
 obtain ⟨O,hOr,hO⟩:=hR.own;obtain ⟨v,hv,hr⟩:=hO t _ hb;have:=(Rd.kn hr).1;subst this;simp[yielded,hg,ht,hv]
theorem ae.HY{g t:Nat}{og:Oper}{b:Bool}(hgd:o.guard=some (g,b))(hg:all[g]?=some og)(ht:og.dst=some t)(hb:σ.get t=some (.d (.v (.bool b))))
  (ho:dZ P B F0 w0 n o σ σ') (h:ae P B F0 w0 n all rest K σ'):ae P B F0 w0 n all (o::rest) K σ:=by
 intro a w hR Q hQ;unfold wpList;rw[if_pos (by simp[Region.wanted,hgd,uY hR hg ht hb])];exact .inl (ho a w hR _ _ fun a' w' hR'=>h a' w' hR' Q hQ)
theorem Rel.un{d:Nat}{a:Act}{w:World}(hR:Rel P B F0 w0 n σ a w)(hd:d<n):Rel P B F0 w0 n ((d,.un)::σ) (a.put (some d) undef) w:=by
 obtain ⟨O,hOr,hO⟩:=hR.own;exact hR.put (av:= .un) hOr hO hd (du.refl (fun b t hb=>(hOr b t hb).2)) rfl
theorem ae.LN{g t d:Nat}{og:Oper}{b b':Bool}(hgd:o.guard=some (g,b))(hg:all[g]?=some og)(ht:og.dst=some t)(hb:σ.get t=some (.d (.v (.bool b'))))(hne:(b'==b)=false)
  (hd:o.dst=some d) (hdn:d<n) (h:ae P B F0 w0 n all rest K ((d,.un)::σ)):ae P B F0 w0 n all (o::rest) K σ:=by
 intro a w hR Q hQ;unfold wpList;rw[if_neg (by simp[Region.wanted,hgd,uY hR hg ht hb];simpa using hne),hd];exact h _ w (hR.un hdn) Q hQ
theorem ae.LM{g t d:Nat}{og:Oper}{b:Bool}(hgd:o.guard=some (g,b))(hg:all[g]?=some og)(ht:og.dst=some t)(hb:σ.get t=some .un)
  (hd:o.dst=some d) (hdn:d<n) (h:ae P B F0 w0 n all rest K ((d,.un)::σ)):ae P B F0 w0 n all (o::rest) K σ:=by
 intro a w hR Q hQ
 have hy:yielded all a.tmps g≠some b:=by
  obtain ⟨O,hOr,hO⟩:=hR.own;obtain ⟨v,hv,hr⟩:=hO t _ hb;have hr:v=undef:=hr;subst hr;simp[yielded,hg,ht,hv,undef]
 unfold wpList;rw[if_neg (by simp[Region.wanted,hgd];simpa using hy),hd];exact h _ w (hR.un hdn) Q hQ
theorem ae.split{l:List Oper}{t:Nat}{b:Bool}(hb:σ.get t=some (.d (.v (.bool b))))
  (h1:b=true→ae P B F0 w0 n all l K ((t,.d (.v (.bool true)))::σ)) (h2:b=false→ae P B F0 w0 n all l K ((t,.d (.v (.bool false)))::σ)):ae P B F0 w0 n all l K σ:=by
 have key: ∀a w,Rel P B F0 w0 n σ a w→Rel P B F0 w0 n ((t,.d (.v (.bool b)))::σ) a w:=fun a w hR=>by
  obtain ⟨O,hOr,hO⟩:=hR.own
  have hget: ∀k,St.get ((t,AV.d (.v (.bool b)))::σ) k=σ.get k:=fun k=>by
   rw[St.aM];split
   · rename_i e;rw[← e,hb]
   · rfl
  have:St.get ((t,AV.d (.v (.bool b)))::σ)=σ.get:=funext hget;exact⟨hR.below,hR.base,hR.f0,hR.defers,hR.size,O,hOr,fun k av hk=>by rw[this] at hk ⊢; exact hO k av hk⟩
 intro a w hR Q hQ;cases b with
 | true=>exact h1 rfl a w (key a w hR) Q hQ
 | false=>exact h2 rfl a w (key a w hR) Q hQ
def jA(all:Array Oper)(σ:St)(g:Nat):Option Bool:=match all[g]? with
 | some og=>match og.dst with
   | some t=>match σ.get t with
     | some (.d (.v (.bool true)))=>some true
     | some (.d (.v (.bool false)))=>some false
     | _=>none
   | none=>none
 | none=>none
def my(all:Array Oper)(σ:St)(g:Nat):Bool:=match all[g]? with
 | some og=>match og.dst with
   | some t=>match σ.get t with
     | some .un=>true
     | _=>false
   | none=>false
 | none=>false
theorem pX{g:Nat}(h:my all σ g=true): ∃og t,all[g]?=some og∧og.dst=some t∧σ.get t=some .un:=by
 unfold my at h;split at h<;>try (cases h;done)
 rename_i og hg;split at h<;>try (cases h;done)
 rename_i t ht;split at h<;>simp at h;rename_i hb;exact⟨og,t,hg,ht,hb⟩
def pC(T:Ty)(σ:St):Op→Option St
 | .store t p x=>match T.get t,ex T σ.get 0 p,dC T (ex T σ.get t x) with
   | some i,some (.pt h off),some y=>match σ.get h,vX y,Nat.beq y.flat.length i.size with
     | some (.bx ds),true,true=>match Nat.ble (off+y.flat.length) ds.length with
       | true=>some ((h,.bx (ds.take off++y.flat++ds.drop (off+y.flat.length)))::σ)
       | false=>none
     | _,_,_=>none
   | _,_,_=>none
 | _=>none
def HU(T:Ty)(σ:St)(ty d:Nat):Op→Option St
 | .assign x=>match ex T σ.get ty x with
   | some (.al h)=>match Nat.beq h d,σ.get h with
     | false,some (.ow e l)=>some ((d,.ow e l)::(h,.al d)::σ.kill d)
     | false,some (.wn q e l lo m)=>some ((d,.wn q e l lo m)::(h,.al d)::σ.kill d)
     | _,_=>none
   | some (.sb h lo m)=>match Nat.beq h d,σ.get h with
     | false,_=>some ((d,.sb h lo m)::σ)
     | true,some (.ow e l)=>some ((d,.wn false e l lo m)::(h,.junk)::σ.kill d)
     | true,some (.wn q e l _ _)=>some ((d,.wn q e l lo m)::(h,.junk)::σ.kill d)
     | _,_=>none
   | _=>none
 | _=>none
def E1(T:Ty)(n:Nat)(σ:St)(dst:Option Nat)(ty:Nat)(op:Op):Option St:=match dst with
 | some d=>match Nat.ble (d+1) n with
   | true=>match pF T σ.get (jG σ d) ty op with
     | some av=>match av.home with
       | true=>some ((d,av)::σ.kill d)
       | false=>some ((d,av)::σ)
     | none=>HU T σ ty d op
   | false=>none
 | none=>pC T σ op
def Kz(T:Ty)(n:Nat)(all:Array Oper)(σ:St)(o:Oper):Option St:=match o.guard with
 | none=>E1 T n σ o.dst o.type o.op
 | some (g,b)=>match jA all σ g with
   | some b'=>match b'==b with
     | true=>E1 T n σ o.dst o.type o.op
     | false=>match o.dst with
       | some d=>match Nat.ble (d+1) n with
         | true=>some ((d,.un)::σ)
         | false=>none
       | none=>none
   | none=>match my all σ g with
     | true=>match o.dst with
       | some d=>match Nat.ble (d+1) n with
         | true=>some ((d,.un)::σ)
         | false=>none
       | none=>none
     | false=>none
def zj(T:Ty)(n:Nat)(all:Array Oper):Nat→List Oper→St→Option (St×List Oper)
 | 0,l,σ=>some (σ,l)
 | k+1,l,σ=>match l with
   | []=>some (σ,[])
   | o::r=>match Kz T n all σ o with
     | some σ'=>zj T n all k r σ'
     | none=>none
theorem x9(hT:bD P T)(hd:o.dst=none)(h:pC T σ o.op=some σ'):dZ P B F0 w0 n o σ σ':=by
 cases ho:o.op<;>rw[ho] at h<;>simp only[pC] at h<;>try (cases h;done)
 split at h<;>try (cases h;done)
 rename_i i k off y hi hp hx;split at h<;>try (cases h;done)
 rename_i ds hh hnt hs;split at h<;>try (cases h;done)
 rename_i hl;have h:=Option.some.inj h;subst h;exact dZ.GR hT hd ho hi hp hh hx hnt (Nat.eq_of_beq_eq_true hs) (Nat.le_of_ble_eq_true hl)
theorem dZ.Nt{d h lo m:Nat}{x:Operand}(hd:o.dst=some d)(hdn:d<n)(ho:o.op= .assign x)(hx:ex T σ.get o.type x=some (.sb h lo m))(hne:h≠d):dZ P B F0 w0 n o σ ((d,.sb h lo m)::σ):=by
 intro a w hR K Q hK;obtain ⟨O,hOr,hO⟩:=hR.own;have hI:=hR.inv hOr hO (fun _=>True) d;have hxv:=(a6 hI (fun _ _=>trivial) hx d).1;refine bg (v:=a.eval x) (w':=w) ?_ ?_
 · obtain ⟨dst,op,ty,pos,after,guard⟩:=o;simp only[] at ho;subst ho;simp[execOp]
 rw[hd];exact hK _ _ (hR.put (av:= .sb h lo m) hOr hO hdn (du.refl hI.lt) hxv)
theorem HT{d:Nat}(hd:o.dst=some d)(hdn:d<n)(h:HU T σ o.type d o.op=some σ'):dZ P B F0 w0 n o σ σ':=by
 cases ho:o.op<;>rw[ho] at h<;>simp only[HU] at h<;>try (cases h;done)
 split at h<;>try (cases h;done)
 · rename_i k hx;split at h<;>simp at h
   · rename_i e l hne hh;subst h;exact dZ.gw hd hdn ho hx hh (.inl ⟨rfl,rfl,rfl,rfl,Nat.ne_of_beq_eq_false hne⟩)
   · rename_i q e l lo m hne hh;subst h;exact dZ.gw hd hdn ho hx hh (.inl ⟨rfl,rfl,rfl,rfl,Nat.ne_of_beq_eq_false hne⟩)
 · rename_i k lo m hx;split at h<;>simp at h
   · rename_i hne;subst h;exact dZ.Nt hd hdn ho hx (Nat.ne_of_beq_eq_false hne)
   · rename_i e l hne hh;subst h;exact dZ.gw hd hdn ho hx hh (.inr ⟨_,_,_,_,rfl,rfl,rfl,rfl⟩)
   · rename_i q e l lo' m' hne hh;subst h;exact dZ.gw hd hdn ho hx hh (.inr ⟨_,_,_,_,rfl,rfl,rfl,rfl⟩)
theorem Cp(hT:bD P T)(h:E1 T n σ o.dst o.type o.op=some σ'):dZ P B F0 w0 n o σ σ':=by
 unfold E1 at h;split at h
 · rename_i d hd;split at h<;>try (cases h;done)
   rename_i hdn;have hdn:d<n:=Nat.le_of_ble_eq_true hdn;split at h
   · rename_i av hav
     have:σ'=σ.put d av:=by
      unfold St.put;cases hh:av.home<;>simp[hh] at h ⊢ <;>exact h.symm
     subst this;exact dZ.zS (vO hT hd (bu σ d) hav) hdn
   · exact HT hd hdn h
 · rename_i hd;exact x9 hT hd h
theorem k5{g:Nat}{b:Bool}(h:jA all σ g=some b): ∃og t,all[g]?=some og∧og.dst=some t∧σ.get t=some (.d (.v (.bool b))):=by
 unfold jA at h;split at h<;>try (cases h;done)
 rename_i og hg;split at h<;>try (cases h;done)
 rename_i t ht;split at h<;>simp at h
 · rename_i hb;subst h;exact⟨og,t,hg,ht,hb⟩
 · rename_i hb;subst h;exact⟨og,t,hg,ht,hb⟩
theorem ae.run(hT:bD P T): ∀(k:Nat) (l:List Oper) (σ σ':St) (r:List Oper),zj T n all k l σ=some (σ',r)→ae P B F0 w0 n all r K σ'→ae P B F0 w0 n all l K σ
 | 0,l,σ,σ',r,h,hk=>by simp[zj] at h;obtain ⟨rfl,rfl⟩:=h;exact hk
 | k+1,[],σ,σ',r,h,hk=>by simp[zj] at h;obtain ⟨rfl,rfl⟩:=h;exact hk
 | k+1,o::l,σ,σ',r,h,hk=>by
   simp only[zj] at h;split at h<;>try (cases h;done)
   rename_i σ1 hs;have ih:=ae.run hT k l σ1 σ' r h hk;unfold Kz at hs;split at hs
   · rename_i hg;exact ae.step hg (Cp hT hs) ih
   · rename_i g b hg;split at hs
     · rename_i b' hb';obtain ⟨og,t,h1,h2,h3⟩:=k5 hb';split at hs
       · rename_i hbb;have:b'=b:=by simpa using hbb
         subst this;exact ae.HY hg h1 h2 h3 (Cp hT hs) ih
       · rename_i hbb;split at hs<;>try (cases hs;done)
         rename_i d hd;split at hs<;>simp at hs;rename_i hdn;subst hs;exact ae.LN hg h1 h2 h3 hbb hd (Nat.le_of_ble_eq_true hdn) ih
     · split at hs<;>try (cases hs;done)
       rename_i hu;obtain ⟨og,t,h1,h2,h3⟩:=pX hu;split at hs<;>try (cases hs;done)
       rename_i d hd;split at hs<;>simp at hs;rename_i hdn;subst hs;exact ae.LM hg h1 h2 h3 hd (Nat.le_of_ble_eq_true hdn) ih
def AW(P:Program)(B:Nat)(F0:Nat→Prop)(w0:cX)(n:Nat)(c:Code)(Q:Exit→St→Prop)(σ:St):Prop :=
 ∀(a:Act) (w:World),Rel P B F0 w0 n σ a w→c.wp P (fun e a' w'=> ∃σ',Q e σ'∧Rel P B F0 w0 n σ' a' w') a w
variable {Q:Exit→St→Prop} {x y:Code}
def qk(K:St→Prop)(Q:Exit→St→Prop):Exit→St→Prop
 | .normal,σ=>K σ
 | .exit i,σ=>Q (.exit i) σ
 | .goto i,σ=>Q (.goto i) σ
 | .ret,σ=>Q .ret σ
 | .panic c,σ=>Q (.panic c) σ
 | .outgrown,σ=>Q .outgrown σ
def IJ(id:Nat)(Q:Exit→St→Prop):Exit→St→Prop
 | .normal,σ=>Q .normal σ
 | .exit i,σ=>match Nat.beq i id with
   | true=>Q .normal σ
   | false=>Q (.exit i) σ
 | .goto i,σ=>Q (.goto i) σ
 | .ret,σ=>Q .ret σ
 | .panic c,σ=>Q (.panic c) σ
 | .outgrown,σ=>Q .outgrown σ
theorem AW.skip(h:Q .normal σ):AW P B F0 w0 n .skip Q σ:=fun a w hR=>wp_skip ⟨σ,h,hR⟩
theorem AW.exit{id:Nat}(h:Q (.exit id) σ):AW P B F0 w0 n (.exit id) Q σ:=fun a w hR=>wp_exit ⟨σ,h,hR⟩
theorem AW.ret(h:Q .ret σ):AW P B F0 w0 n .ret Q σ:=fun a w hR=>wp_ret ⟨σ,h,hR⟩
theorem AW.seq(h:AW P B F0 w0 n x (qk (AW P B F0 w0 n y Q) Q) σ):AW P B F0 w0 n (.seq x y) Q σ:=by
 intro a w hR;refine wp_seq (wp_mono (h a w hR) fun e a' w' ⟨σ',hq,hR'⟩=>?_);cases e<;>first | exact hq a' w' hR' | exact⟨σ',hq,hR'⟩
theorem AW.block{id:Nat}(h:AW P B F0 w0 n x (IJ id Q) σ):AW P B F0 w0 n (.block id x) Q σ:=by
 intro a w hR;refine wp_block (wp_mono (h a w hR) fun e a' w' ⟨σ',hq,hR'⟩=>?_);cases e with
 | exit i =>
   simp only[IJ] at hq;simp only[Exit.inBlock];split at hq
   · rename_i hb;rw[if_pos (Nat.eq_of_beq_eq_true hb)];exact⟨σ',hq,hR'⟩
   · rename_i hb;rw[if_neg (Nat.ne_of_beq_eq_false hb)];exact⟨σ',hq,hR'⟩
 | _=>exact⟨σ',hq,hR'⟩
def nX(σ:St):Operand→Option Bool
 | .tmp t=>match σ.get t with
   | some (.d (.v (.bool b)))=>some b
   | _=>none
 | .const (.bool b)=>some b
 | _=>none
theorem AW.cond{c:Operand}{b:Bool}(hc:nX σ c=some b)(h1:b=true→AW P B F0 w0 n x Q σ)(h2:b=false→AW P B F0 w0 n y Q σ):AW P B F0 w0 n (.cond c x y) Q σ:=by
 intro a w hR
 have he:a.eval c= .bool b:=by
  unfold nX at hc;split at hc<;>try (cases hc;done)
  · split at hc<;>simp at hc;rename_i hg;subst hc;obtain ⟨O,hOr,hO⟩:=hR.own;obtain ⟨v,hv,hr⟩:=hO _ _ hg;have:=(Rd.kn hr).1;subst this;exact gn hv
  · simp at hc;subst hc;rfl
 refine wp_cond he ?_;cases b with
 | true=>exact h1 rfl a w hR
 | false=>exact h2 rfl a w hR
theorem AW.aJ{c:Operand}(hc:nX σ c=some true)(h1:AW P B F0 w0 n x Q σ):AW P B F0 w0 n (.cond c x y) Q σ:=AW.cond hc (fun _=>h1) (fun h=>by cases h)
theorem AW.aH{c:Operand}(hc:nX σ c=some false)(h1:AW P B F0 w0 n y Q σ):AW P B F0 w0 n (.cond c x y) Q σ:=AW.cond hc (fun h=>by cases h) (fun _=>h1)
theorem AW.region{id:Nat}{ops:Array Oper}(h:ae P B F0 w0 n ops ops.toList (Q .normal) σ):AW P B F0 w0 n (.region id ops false) Q σ :=
 fun a w hR=>wp_region_list (h a w hR _ fun a' w' σ' hk hR'=>⟨σ',hk,hR'⟩)
theorem AW.loop(I:St→Prop)(μ:St→Nat)(h0:I σ)(hb: ∀σ,I σ→AW P B F0 w0 n x (qk (fun σ'=>I σ'∧μ σ'<μ σ) Q) σ):AW P B F0 w0 n (.loop x) Q σ:=by
 intro a w hR
 have hex: ∀a w,(∃σ,I σ∧Rel P B F0 w0 n σ a w)→ ∃m,(∃σ,μ σ=m∧I σ∧Rel P B F0 w0 n σ a w)∧ ∀m',(∃σ,μ σ=m'∧I σ∧Rel P B F0 w0 n σ a w)→m≤m':=fun a w ⟨σ,h1,h2⟩=>by
  have: ∃m,∃σ,μ σ=m∧I σ∧Rel P B F0 w0 n σ a w:=⟨μ σ,σ,rfl,h1,h2⟩
  let p:Nat→Prop:=fun m=> ∃σ,μ σ=m∧I σ∧Rel P B F0 w0 n σ a w
  have key: ∀k m,m≤k→p m→ ∃m0,p m0∧ ∀m',p m'→m0≤m':=by
   intro k
   induction k with
   | zero=>intro m hm hp;exact⟨m,hp,fun m' _=>by omega⟩
   | succ k ih =>
     intro m hm hp;by_cases hlt: ∃m',m'≤k∧p m'
     · obtain ⟨m',h1,h2⟩:=hlt;exact ih m' h1 h2
     · exact⟨m,hp,fun m' hp'=>by
        rcases Nat.lt_or_ge k m' with h | h
        · omega
        · exact absurd ⟨m',h,hp'⟩ hlt⟩
  obtain ⟨m,hm⟩:=this;exact key m m (Nat.le_refl _) hm
 let M:Act→World→Nat:=fun a w=>open Classical in if h: ∃σ,I σ∧Rel P B F0 w0 n σ a w then Classical.choose (hex a w h) else 0
 have hM: ∀a w,(∃σ,I σ∧Rel P B F0 w0 n σ a w)→(∃σ,μ σ=M a w∧I σ∧Rel P B F0 w0 n σ a w)∧ ∀σ,I σ→Rel P B F0 w0 n σ a w→M a w≤μ σ:=fun a w h=>by
  have:=Classical.choose_spec (hex a w h);simp only[M,dif_pos h];exact⟨this.1,fun σ h1 h2=>this.2 (μ σ) ⟨σ,rfl,h1,h2⟩⟩
 refine wp_loop (fun a w=> ∃σ,I σ∧Rel P B F0 w0 n σ a w) M ⟨σ,h0,hR⟩ (fun a w hI=>?_);obtain ⟨⟨σ1,hm,hI1,hR1⟩,_⟩:=hM a w hI;refine wp_mono (hb σ1 hI1 a w hR1) fun e a' w' ⟨σ',hq,hR'⟩=>?_;cases e with
 | normal =>
   obtain ⟨h1,h2⟩:=hq;refine⟨⟨σ',h1,hR'⟩,?_⟩;have:=(hM a' w' ⟨σ',h1,hR'⟩).2 σ' h1 hR';omega
 | _=>exact⟨σ',hq,hR'⟩
theorem Rel.dJ(ks:List Nat){a:Act}{w:World}(hR:Rel P B F0 w0 n σ a w):Rel P B F0 w0 n (σ.dJ ks) a w:=by
 obtain ⟨O,hOr,hO⟩:=hR.own;refine⟨hR.below,hR.base,hR.f0,hR.defers,hR.size,O,hOr,fun t av h=>?_⟩;rw[St.rE] at h;split at h<;>try (cases h;done)
 obtain ⟨v,hv,hr⟩:=hO t av h;refine⟨v,hv,hr.mono (fun b hb=>FW.step hR.f0 hR.base (Nat.le_refl _) b hb) (fun _ _=>rfl) (fun b u hb=>(hOr b u hb).2) (fun _ _=>rfl) (fun k hk x hx hg=>?_)⟩;rw[St.rE] at hg;split at hg
 · exact⟨hg,rfl⟩
 · cases hg
theorem AW.dJ(ks:List Nat)(h:AW P B F0 w0 n x Q (σ.dJ ks)):AW P B F0 w0 n x Q σ:=fun a w hR=>h a w (hR.dJ ks)
theorem AW.conv(h:σ=σ')(hk:AW P B F0 w0 n x Q σ'):AW P B F0 w0 n x Q σ:=h▸hk
theorem AW.mono{Q':Exit→St→Prop}(h:AW P B F0 w0 n x Q σ)(hq: ∀e σ,Q e σ→Q' e σ):AW P B F0 w0 n x Q' σ:=fun a w hR=>wp_mono (h a w hR) fun e a' w' ⟨σ',h1,h2⟩=>⟨σ',hq _ _ h1,h2⟩
end
end Lift
namespace Lift
open Go
open Go.RowKit (Below)
def s5(P:Program)(f:FuncId):Prop:= ∃fn,P.funcs[f]?=some fn∧(fn.name=="runtime.NumGoroutine")=false∧fn.body.isNone=false
def Pure(P:Program)(f:FuncId)(args:List D)(res:D):Prop :=
 s5 P f∧ ∀(w:World) (F:Nat→Prop) (vs:List Value),(∀b,F b→b<w.heap.size)→vs.length=args.length→(∀(i:Nat) (d:D) (v:Value),args[i]?=some d→vs[i]?=some v→Rd w F d v) →
  Calls P f vs.toArray w (fun e w'=> ∃v,e= .returned v∧Below w.heap.size w w'∧Rd w' (FW w.heap.size F w') res v)
def eI:Nat→List D→St
 | _,[]=>[]
 | k,d::r=>(k,.d d)::eI (k+1) r
theorem iX: ∀(ds:List D) (k t:Nat),(eI k ds).get t=if k≤t then (ds[t-k]?).map AV.d else none
 | [],k,t=>by simp[eI,St.get]
 | d::r,k,t=>by
   simp only[eI,St.aM,iX r (k+1) t];by_cases h:k=t
   · subst h;simp
   · by_cases h2:k≤t
     · rw[if_neg h,if_pos (by omega),if_pos h2,show t-k=(t-(k+1))+1 by omega];simp
     · rw[if_neg h,if_neg (by omega),if_neg h2]
def zm(T:Ty)(σ:St):ResultVar→Option D
 | .tmp t=>Jc T σ.get (ex T σ.get 0 (.tmp t))
 | .cell c t=>match T.get t,σ.get c with
   | some i,some (.bx ds)=>match kC i ds with
     | some (.d x)=>some x
     | _=>none
   | _,_=>none
def vu(T:Ty)(σ:St):List ResultVar→Option (List D)
 | []=>some []
 | r::rs=>match zm T σ r,vu T σ rs with
   | some d,some ds=>some (d::ds)
   | _,_=>none
def C7(T:Ty)(σ:St)(rs:List ResultVar):Option D:=match vu T σ rs with
 | some [d]=>some d
 | some []=>some (.tu [])
 | some (d::e::r)=>some (.tu (d::e::r))
 | none=>none
def MG(T:Ty)(rs:List ResultVar)(res:D):Exit→St→Prop
 | .normal,σ=>C7 T σ rs=some res
 | .ret,σ=>C7 T σ rs=some res
 | .exit _,_=>False
 | .goto _,_=>False
 | .panic _,_=>False
 | .outgrown,_=>False
section
variable {P:Program} {T:Ty} {B:Nat} {F0:Nat→Prop} {w0:cX} {n:Nat} {σ σ':St}
def nt(tmps:Array Value):ResultVar→Sem Value
 | .tmp t=>pure (tmps.getD t undef)
 | .cell c t=>do loadVar t (← asAddr (tmps.getD c undef))
theorem eg(fn:Func)(tmps:Array Value):results fn tmps=(do
  let vs ← fn.results.mapM (nt tmps)
  pure (if h:vs.size=1 then vs[0] else .tuple vs)):=by
 unfold results
 congr 1
theorem zl(hT:bD P T){a:Act}{w:World}(hR:Rel P B F0 w0 n σ a w){r:ResultVar}{d:D}(h:zm T σ r=some d):
  ∃v,(nt a.tmps r).run P w= .ok v w∧Rd w (FW B F0 w) d v:=by
 obtain ⟨O,hOr,hO⟩:=hR.own;have hI:Inv P B F0 w0 (fun _=>True) σ.get σ.get a w O:=⟨hR.below,hR.base,hR.f0,hOr,fun t _ av h=>hO t av h,fun t av h _=>hO t av h⟩;cases r with
 | tmp t =>
   simp only[zm] at h;exact⟨_,rfl,Ip hT hI (fun _ _=>trivial) h⟩
 | cell c t =>
   simp only[zm] at h;split at h<;>try (cases h;done)
   rename_i i ds hi hc;split at h<;>simp at h;rename_i y hy;subst h;obtain ⟨info,dd,z,hok⟩:=hT t i hi;obtain ⟨u,hu,b,cs,e,rfl,h2,h3,h4⟩:=hO c _ hc;obtain ⟨x,v,hx,hrun,hrd⟩:=lQ (off:=0) hok h3 (fun j x hj=>by obtain ⟨g1,g2⟩:=h4.get hj;exact⟨g1,by simpa using g2⟩) hy;simp at hx;subst hx;refine⟨v,?_,hrd.mono (fun b hb=>hb.2) (fun _ _=>rfl)⟩;have hgd:a.tmps.getD c undef= .pointer (some ⟨b,0,none⟩):=by simp[Array.getD_eq_getD_getElem?,hu]
   simp only[nt,hgd,asAddr,Sem.run_bind,Sem.run_pure,Result.andThen_ok,hrun]
theorem eS(hT:bD P T){a:Act}{w:World}(hR:Rel P B F0 w0 n σ a w): ∀(rs:List ResultVar) (ds:List D),vu T σ rs=some ds →
  ∃vs:List Value,(rs.mapM (nt a.tmps)).run P w= .ok vs w∧vs.length=ds.length ∧
   ∀(i:Nat) (d:D) (v:Value),ds[i]?=some d→vs[i]?=some v→Rd w (FW B F0 w) d v
 | [],ds,h=>by simp[vu] at h;subst h;exact⟨[],by simp,rfl,fun i d v h=>by simp at h⟩
 | r::rs,ds,h=>by
   simp only[vu] at h;split at h<;>simp at h;rename_i d ds' h1 h2;subst h;obtain ⟨v,hv,hr⟩:=zl hT hR h1;obtain ⟨vs,hvs,hl,hall⟩:=eS hT hR rs ds' h2;refine⟨v::vs,?_,by simp[hl],fun i d' u h3 h4=>?_⟩
   · simp only[List.mapM_cons,Sem.run_bind,Result.andThen_ok,hvs,Sem.run_pure,hv]
   · cases i with
     | zero=>simp at h3 h4;subst h3;subst h4;exact hr
     | succ i=>exact hall i d' u (by simpa using h3) (by simpa using h4)
theorem Pure.intro(hT:bD P T){f:FuncId}{fn:Func}{c:Code}{rs:List ResultVar}{args:List D}{res:D}(hf:P.funcs[f]?=some fn)(hb:fn.body=some c)(hrs:fn.results.toList=rs)(hn:fn.ntmps=n)(hl:args.length≤n)(hnm:(fn.name=="runtime.NumGoroutine")=false)
  (h: ∀(B:Nat) (F0:Nat→Prop) (w0:cX),AW P B F0 w0 n c (MG T rs res) (eI 0 args)):Pure P f args res:=by
 refine⟨⟨fn,hf,hnm,by simp[hb]⟩,fun w F vs hF hlen hr=>?_⟩;refine calls_of_wp hf hb (wp_mono (h w.heap.size F ⟨w,fun _=>False⟩ _ w ?_) ?_)
 · refine⟨.refl _ _ _,Nat.le_refl _,⟨hF,fun b hb=>hb.elim⟩,rfl,?_,fun _=>none,(fun b t hb=>by simp at hb),fun t av hav=>?_⟩
   · simp[hn];omega
   · rw[iX] at hav;simp only[Nat.zero_le,if_true,Nat.sub_zero,Option.map_eq_some_iff] at hav;obtain ⟨d,hd,rfl⟩:=hav;have hlt:t<vs.length:=by rw[hlen];exact(List.getElem?_eq_some_iff.1 hd).1
     refine⟨vs[t],by simp[Array.getElem?_append,hlt],?_⟩;exact(hr t d _ hd (List.getElem?_eq_getElem hlt)).mono (fun b hb=>⟨rfl,.inl hb⟩) (fun _ _=>rfl)
 · rintro e a w' ⟨σ',hq,hR⟩
   have key:C7 T σ' rs=some res→a.defers=[]∧ ∃v,(results fn a.tmps).run P w'= .ok v w'∧ ∃v',Ending.returned v= .returned v'∧Below w.heap.size w w'∧Rd w' (FW w.heap.size F w') res v':=fun hq=>by
    refine⟨hR.defers,?_⟩;have hbel:Below w.heap.size w w':=⟨hR.below.os,hR.below.tape,hR.below.output,hR.below.size,fun k hk=>hR.below.block k hk (fun h=>h)⟩;unfold C7 at hq;split at hq<;>simp at hq
    · rename_i d hd;subst hq;obtain ⟨vs',hrun,hl',hall⟩:=eS hT hR rs _ hd
      match vs',hl' with
      | [v],_ =>
        refine⟨v,?_,v,rfl,hbel,hall 0 d v rfl rfl⟩;rw[eg];simp only[Sem.run_bind,Array.mapM_eq_mapM_toList,hrs,Sem.run_map,hrun,Result.andThen_ok,Sem.run_pure];rfl
    · rename_i hd;subst hq;obtain ⟨vs',hrun,hl',hall⟩:=eS hT hR rs _ hd
      match vs',hl' with
      | [],_ =>
        refine⟨.tuple #[],?_,_,rfl,hbel,Rd.tu (vs:=[]) rfl (fun i d v h=>by simp at h)⟩;rw[eg];simp only[Sem.run_bind,Array.mapM_eq_mapM_toList,hrs,Sem.run_map,hrun,Result.andThen_ok,Sem.run_pure];rfl
    · rename_i d e r hd;subst hq;obtain ⟨vs',hrun,hl',hall⟩:=eS hT hR rs _ hd;refine⟨.tuple vs'.toArray,?_,_,rfl,hbel,Rd.tu hl' (fun i d v h1 h2=>hall i d v h1 h2)⟩;rw[eg];simp only[Sem.run_bind,Array.mapM_eq_mapM_toList,hrs,Sem.run_map,hrun,Result.andThen_ok,Sem.run_pure];rw[dif_neg (by simp at hl' ⊢; omega)]
   cases e with
   | normal=>exact key hq
   | ret=>exact key hq
   | exit _=>exact hq.elim
   | goto _=>exact hq.elim
   | panic _=>exact hq.elim
   | outgrown=>exact hq.elim
end
end Lift
namespace Lift
open Go
open Go.RowKit (Below)
section
variable {P:Program} {T:Ty} {B:Nat} {F0:Nat→Prop} {w0:cX} {n:Nat} {lk hm:Nat→Option AV} {o:Oper} {d:Nat}
def J6(T:Ty)(lk:Nat→Option AV):Op→Option (List D×Int)
 | .indexAddr t x i=>match T.get t,dC T (ex T lk 0 x),kH (dC T (ex T lk 0 i)) with
   | some ti,some (.sl s l),some (.int _ iv)=>match Nat.beq ti.kind 4,T.get ti.elem with
     | true,some te=>match Nat.beq s te.size with
       | true=>some (l,iv)
       | false=>none
     | _,_=>none
   | _,_,_=>none
 | _=>none
theorem aN.idx(hT:bD P T){l:List D}{iv:Int}{e:D}(hd:o.dst=some d)(hn:hm d=none)(h:J6 T lk o.op=some (l,iv))(h0:0≤iv)(he:l[iv.toNat]?=some e):aN P B F0 w0 d o lk hm (.rf e.flat):=by
 refine⟨hd,hn,fun a w O hI K Q hK=>?_⟩;obtain ⟨dst,op,ty,pos,after,guard⟩:=o;simp only[] at hd h hI;cases op<;>simp only[J6] at h<;>try (cases h;done)
 rename_i t x i;split at h<;>try (cases h;done)
 rename_i ti s l' k iv' hti hx hi;split at h<;>try (cases h;done)
 rename_i te hk hte;split at h<;>simp at h;rename_i hs;obtain ⟨rfl,rfl⟩:=h;have hs:=Nat.eq_of_beq_eq_true hs;obtain ⟨info,dd,z,hok⟩:=hT t ti hti;obtain ⟨info',dd',z',hok'⟩:=hT _ te hte;have hxv:=dX hT hI (fun t ht=>by subst ht;simp[Op.operands]) hx;have hiv:=(cR hT hI (fun t ht=>by subst ht;simp[Op.operands]) hi).1;obtain ⟨ad,cap,hv,hcap,hm',hall⟩:=hxv.A8;rcases hall with hnil | ⟨b,off,cs,e',fz,rfl,hF,hb,hu,hr⟩
 · subst hnil;simp at he
 have hlt:iv'.toNat<l'.length:=(List.getElem?_eq_some_iff.1 he).1;refine bg (v:= .pointer (some ⟨b,off+iv'.toNat*s,none⟩)) (w':=w) ?_ (hK _ w O (du.refl hI.lt) ?_)
 · have h1:0≤iv'∧iv'<(l'.length:Int):=by omega
   have h2:off+iv'.toNat*te.size=off+iv'.toNat*s:=by rw[hs]
   simp[execOp,Instr.indexAt,hv,hiv,asIntOf,run_underlying (hok.jy hk).1,h1,Go.sizeOf,typeInfo,hok'.hinfo,hok'.size,Addr.add_lit,h2]
 · refine⟨b,_,cs,e',fz,rfl,hF,hb,fun j y hy=>?_⟩;have hel:=hu e (List.mem_of_getElem? he);have hj:j<s:=by rw[← hel];exact(List.getElem?_eq_some_iff.1 hy).1
   have:=cO j hu he hj;rw[hy] at this;obtain ⟨g1,u,g2,g3⟩:=hr _ y this;exact⟨g1,u,by rw[← g2];congr 1;omega,g3⟩
def lE(hm:Nat→Option AV):Option AV→Option (Nat×Nat×List D×Nat×Nat)
 | some (.al h)=>match hm h with
   | some (.ow e l)=>some (h,e,l,0,l.length)
   | some (.wn q e l lo m)=>some (h,e,l,lo,m)
   | _=>none
 | some (.sb h lo m)=>match hm h with
   | some x=>match x.row with
     | some (e,l)=>some (h,e,l,lo,m)
     | none=>none
   | none=>none
 | _=>none
def F4(T:Ty)(lk hm:Nat→Option AV):Op→Option (Nat×List D×Nat×Nat×Int)
 | .indexAddr t x i=>match T.get t,lE hm (ex T lk 0 x),kH (dC T (ex T lk 0 i)) with
   | some ti,some (h,e,l,lo,m),some (.int _ iv)=>match Nat.beq ti.kind 4,T.get ti.elem,Nat.beq e ti.elem with
     | true,some _,true=>some (h,l,lo,m,iv)
     | _,_,_=>none
   | _,_,_=>none
 | _=>none
theorem gJ{R:Nat→Prop}{a:Act}{w:World}{O:Nat→Option Nat}(hI:Inv P B F0 w0 R lk hm a w O){av:AV}{v:Value}{k h e lo m:Nat}{l:List D}(hr:eQ P w0.X w O (FW B F0 w) hm (fun h=>a.tmps[h]?) k av v)(hw:lE hm (some av)=some (h,e,l,lo,m)):
  ∃x,hm h=some x∧x.row=some (e,l)∧lo+m≤l.length∧ ∃cap',m≤cap'∧cap'≤maxLen∧((l.length=0∧x.tag=false∧cap'=0∧ ∃base,v= .slice base 0 cap') ∨
   ∃b o1 len cap cs o,((x.tag=true→w0.X b)∧o1+cap*P.cellsOf e≤cs.size)∧a.tmps[h]?=some (.slice (some ⟨b,o1,none⟩) len cap)∧v= .slice (some ⟨b,o,none⟩) m cap'∧((m=0∨o=lo*P.cellsOf e)∧(cap'=0∨o=lo*P.cellsOf e)∧o+cap'*P.cellsOf e≤o1+cap*P.cellsOf e∧cap'≤cap)∧O b=some h∧w.heap[b]?=some (.cells cs e (0,0))∧(∀y,y∈l→y.flat.length=P.cellsOf e) ∧
    ∀(i:Nat) (d:D),(flatAll l)[i]?=some d→d.bc=true∧ ∃u,cs[i]?=some u∧Rd w (aP O (FW B F0 w)) d u):=by
 cases av<;>simp only[lE] at hw<;>try (cases hw;done)
 case al t =>
  split at hw<;>simp at hw
  · rename_i e' l' ht;obtain ⟨rfl,rfl,rfl,rfl,rfl⟩:=hw;obtain ⟨u,hu,hur⟩:=hI.hm t _ ht rfl;have hv:=hr _ ht rfl;simp only[hu] at hv;simp at hv;subst hv;refine⟨_,ht,rfl,by omega,?_⟩;rcases hur with ⟨base,rfl,rfl⟩ | ⟨b,cap,cs,rfl,h2,h3,h4,h5,h6,h7,h8⟩
    · exact⟨0,Nat.le_refl _,Nat.zero_le _,.inl ⟨rfl,rfl,rfl,base,rfl⟩⟩
    · exact⟨cap,h4,h5,.inr ⟨b,0,_,cap,cs,0,⟨fun h=>by simp[AV.tag] at h,by omega⟩,hu,rfl,⟨.inr (by rw[Nat.zero_mul]),.inr (by rw[Nat.zero_mul]),Nat.le_refl _,Nat.le_refl _⟩,h2,h3,h7,h8⟩⟩
  · rename_i q' e' l' lo' m' ht;obtain ⟨rfl,rfl,rfl,rfl,rfl⟩:=hw;obtain ⟨u,hu,hur⟩:=hI.hm t _ ht rfl;have hv:=hr _ ht rfl;simp only[hu] at hv;simp at hv;subst hv;rcases hur with ⟨hq,base,rfl,rfl,rfl,rfl⟩ | ⟨b,o,cap,cs,hq,rfl,h0,h2,h3,h4,h5,h6,h7,h8⟩
    · exact⟨_,ht,rfl,by simp,0,Nat.zero_le _,Nat.zero_le _,.inl ⟨rfl,hq,rfl,base,rfl⟩⟩
    · exact⟨_,ht,rfl,h4,cap,h5,h6,.inr ⟨b,_,_,cap,cs,o,⟨hq,h0.2.2⟩,hu,rfl,⟨h0.1,h0.2.1,Nat.le_refl _,Nat.le_refl _⟩,h2,h3,h7,h8⟩⟩
 case sb t lo' m' =>
  split at hw<;>try (cases hw;done)
  rename_i x ht;split at hw<;>simp at hw;rename_i e' l' hrow;obtain ⟨rfl,rfl,rfl,rfl,rfl⟩:=hw;obtain ⟨hlo,cap',hc1,hc2,hv⟩:=hr x _ _ ht hrow;refine⟨x,ht,hrow,hlo,cap',hc1,hc2,?_⟩;rcases hv with ⟨hl0,hq,hc0,base,rfl⟩ | ⟨b,o1,len,cap,o,htm,rfl,h0⟩
  · exact .inl ⟨hl0,hq,hc0,base,rfl⟩
  · obtain ⟨u,hu,hur⟩:=hI.hm t _ ht (dy (by rw[hrow];rfl));simp only[hu] at htm;simp at htm;subst htm;rcases lI hur hrow with ⟨hnil,hq,hcp⟩ | ⟨cs,hq,g2,g3,g7,g8⟩
    · subst hnil;simp at hlo;obtain ⟨rfl,rfl⟩:=hlo;have h9:=h0.2.2.2;exact .inl ⟨rfl,hq,by omega,_,rfl⟩
    · exact .inr ⟨b,o1,len,cap,cs,o,hq,hu,rfl,h0,g2,g3,g7,g8⟩
theorem aN.gD(hT:bD P T){l:List D}{iv:Int}{h lo m:Nat}(hd:o.dst=some d)(hn:hm d=none)(hx:F4 T lk hm o.op=some (h,l,lo,m,iv))(h0:0≤iv)(hlt:iv.toNat<m):aN P B F0 w0 d o lk hm (.el h (lo+iv.toNat) 0):=by
 refine⟨hd,hn,fun a w O hI K Q hK=>?_⟩;obtain ⟨dst,op,ty,pos,after,guard⟩:=o;simp only[] at hd hx hI;cases op<;>simp only[F4] at hx<;>try (cases hx;done)
 rename_i t x i;split at hx<;>try (cases hx;done)
 rename_i ti h' e l' lo' m' k iv' hti hwin hi;split at hx<;>simp at hx;rename_i te hk hte hee;obtain ⟨rfl,rfl,rfl,rfl,rfl⟩:=hx;have hee:=Nat.eq_of_beq_eq_true hee;obtain ⟨info,dd,z,hok⟩:=hT t ti hti;obtain ⟨info',dd',z',hok'⟩:=hT _ te hte;have hiv:=(cR hT hI (fun t ht=>by subst ht;simp[Op.operands]) hi).1;cases hxe:ex T lk 0 x with
 | none=>rw[hxe] at hwin;simp[lE] at hwin
 | some av =>
   rw[hxe] at hwin;have hxv:=(a6 hI (fun t ht=>by subst ht;simp[Op.operands]) hxe 0).1;obtain ⟨y,hy,hrow,hlm,cap',hc1,hc2,hv⟩:=gJ hI hxv hwin;rcases hv with ⟨hl0,_,_,base,hv⟩ | ⟨b,o1,len,cap,cs,o,_,htm,hv,⟨h0',_⟩,hOb,hb,hu,hcells⟩
   · omega
   have h0':o=lo'*P.cellsOf e:=by omega
   subst h0';refine bg (v:= .pointer (some ⟨b,lo'*P.cellsOf e+iv'.toNat*te.size,none⟩)) (w':=w) ?_ (hK _ w O (du.refl hI.lt) ?_)
   · have h1:0≤iv'∧iv'<(m':Int):=by omega
     simp[execOp,Instr.indexAt,hv,hiv,asIntOf,run_underlying (hok.jy hk).1,h1,Go.sizeOf,typeInfo,hok'.hinfo,hok'.size,Addr.add_lit]
   · intro x' e'' l'' hx' hrow';rw[hy] at hx';simp at hx';subst hx';rw[hrow] at hrow';simp at hrow';obtain ⟨rfl,rfl⟩:=hrow';refine⟨by omega,b,o1,len,cap,htm,?_⟩;rw[hee,hok'.cellsOf,Nat.add_mul,Nat.add_zero]
def NL(T:Ty)(lk hm:Nat→Option AV):Op→Option (TI×List D×Nat×Nat)
 | .load t x=>match T.get t,ex T lk 0 x with
   | some ti,some (.el h i off)=>match hm h with
     | some x=>match x.row with
       | some (_,l)=>some (ti,l,i,off)
       | none=>none
     | none=>none
   | _,_=>none
 | _=>none
theorem Cj{R:Nat→Prop}{a:Act}{w:World}{O:Nat→Option Nat}(hI:Inv P B F0 w0 R lk hm a w O){h i off e:Nat}{l:List D}{x:AV}{v:Value}{k:Nat}{y:D}(hh:hm h=some x)(hrow:x.row=some (e,l))(hr:eQ P w0.X w O (FW B F0 w) hm (fun h=>a.tmps[h]?) k (.el h i off) v)(hy:l[i]?=some y):
  ∃b cs o1 len cap,v= .pointer (some ⟨b,i*P.cellsOf e+off,none⟩)∧a.tmps[h]?=some (.slice (some ⟨b,o1,none⟩) len cap)∧O b=some h∧w.heap[b]?=some (.cells cs e (0,0)) ∧
   (∀x,x∈l→x.flat.length=P.cellsOf e)∧(∀(j:Nat) (d:D),(flatAll l)[j]?=some d→d.bc=true∧ ∃u,cs[j]?=some u∧Rd w (aP O (FW B F0 w)) d u) ∧
   ∀(j:Nat) (d:D),(y.flat.drop off)[j]?=some d→d.bc=true∧ ∃u,cs[i*P.cellsOf e+off+j]?=some u∧Rd w (aP O (FW B F0 w)) d u:=by
 obtain ⟨h0,b,o1,len,cap,h1,rfl⟩:=hr x e l hh hrow;obtain ⟨u,hu,hur⟩:=hI.hm h _ hh (dy (by rw[hrow];rfl));simp only[hu] at h1;simp at h1;subst h1;rcases lI hur hrow with ⟨hnil,_⟩ | ⟨cs,_,g2,g3,g7,g8⟩
 · subst hnil;simp at hy
 refine⟨b,cs,o1,len,cap,rfl,hu,g2,g3,g7,g8,fun j d hj=>?_⟩;rw[List.getElem?_drop] at hj;have hlt:off+j<P.cellsOf e:=by rw[← g7 y (List.mem_of_getElem? hy)];exact(List.getElem?_eq_some_iff.1 hj).1
 have:=cO (off+j) g7 hy hlt;rw[hj] at this;obtain ⟨f1,u',f2,f3⟩:=g8 _ d this;exact⟨f1,u',by rw[← f2];congr 1;omega,f3⟩
theorem aN.df(hT:bD P T){ti:TI}{l:List D}{i off:Nat}{y:D}{av:AV}(hd:o.dst=some d)(hn:hm d=none)(hx:NL T lk hm o.op=some (ti,l,i,off))(hy:l[i]?=some y)(hav:kC ti (y.flat.drop off)=some av):aN P B F0 w0 d o lk hm av:=by
 refine⟨hd,hn,fun a w O hI K Q hK=>?_⟩;obtain ⟨dst,op,ty,pos,after,guard⟩:=o;simp only[] at hd hx hI;cases op<;>simp only[NL] at hx<;>try (cases hx;done)
 rename_i t x;split at hx<;>try (cases hx;done)
 rename_i ti' h i' off' hti hxe;split at hx<;>try (cases hx;done)
 rename_i xx hh;split at hx<;>simp at hx;rename_i e l' hrow;obtain ⟨rfl,rfl,rfl,rfl⟩:=hx;obtain ⟨info,dd,z,hok⟩:=hT t ti' hti;have hxv:=(a6 hI (fun t ht=>by subst ht;simp[Op.operands]) hxe 0).1;obtain ⟨b,cs,o1,len,cap,hv,_,_,hb,_,_,hcells⟩:=Cj hI hh hrow hxv hy;obtain ⟨x',v,rfl,hrun,hrd⟩:=lQ hok hb hcells hav;exact bg (v:=v) (w':=w) (by simp[execOp,Instr.loadAt,Instr.sureAddr,hv,hrun]) (hK _ w O (du.refl hI.lt) hrd)
def Js(T:Ty)(lk:Nat→Option AV):Op→Option (ByteArray×Int)
 | .index t x i=>match T.get t,kH (dC T (ex T lk 0 x)),kH (dC T (ex T lk 0 i)) with
   | some ti,some (.string s),some (.int _ iv)=>match Nat.beq ti.kind 3 with
     | true=>some (s,iv)
     | false=>none
   | _,_,_=>none
 | _=>none
theorem aN.x8(hT:bD P T){s:ByteArray}{iv:Int}(hd:o.dst=some d)(hn:hm d=none)(hx:Js T lk o.op=some (s,iv))(h0:0≤iv)(hlt:iv.toNat<s.size):aN P B F0 w0 d o lk hm (.d (.v (.int .u8 ((s.data.toList.getD iv.toNat 0).toNat:Int)))):=by
 refine⟨hd,hn,fun a w O hI K Q hK=>?_⟩;obtain ⟨dst,op,ty,pos,after,guard⟩:=o;simp only[] at hd hx hI;cases op<;>simp only[Js] at hx<;>try (cases hx;done)
 rename_i t x i;split at hx<;>try (cases hx;done)
 rename_i ti s' k iv' hti hs hi;split at hx<;>simp at hx;rename_i hk;obtain ⟨rfl,rfl⟩:=hx;obtain ⟨info,dd,z,hok⟩:=hT t ti hti;have hsv:=(cR hT hI (fun t ht=>by subst ht;simp[Op.operands]) hs).1;have hiv:=(cR hT hI (fun t ht=>by subst ht;simp[Op.operands]) hi).1
 have hg:s'[iv'.toNat]?=some (s'.data.toList.getD iv'.toNat 0):=by
  have:s'[iv'.toNat]?=some s'[iv'.toNat]:=by simp[hlt]
  rw[this];have h2:iv'.toNat<s'.data.size:=hlt;simp only[List.getD,Array.getElem?_toList,Array.getElem?_eq_getElem h2,Option.getD_some];rfl
 refine bg (v:= .int .u8 ((s'.data.toList.getD iv'.toNat 0).toNat:Int)) (w':=w) ?_ (hK _ w O (du.refl hI.lt) (.v rfl));simp only[execOp,Instr.index,hsv,hiv,asIntOf,Sem.run_bind,run_underlying (hok.KG hk),Result.andThen_ok,Sem.run_pure,h0,if_true,hg]
def DZ(T:Ty)(lk:Nat→Option AV):Option Operand→Option (Option Int)
 | none=>some none
 | some x=>match kH (dC T (ex T lk 0 x)) with
   | some (.int _ iv)=>some (some iv)
   | _=>none
def FE(T:Ty)(lk:Nat→Option AV):Op→Option (D×Option Int×Option Int)
 | .slice t x lo hi none=>match T.get t,dC T (ex T lk 0 x),DZ T lk lo,DZ T lk hi with
   | some ti,some (.sl s l),some l',some h'=>match Nat.beq ti.kind 4,T.get ti.elem with
     | true,some te=>match Nat.beq s te.size with
       | true=>some (.sl s l,l',h')
       | false=>none
     | _,_=>none
   | some ti,some (.v (.string s)),some l',some h'=>match Nat.beq ti.kind 3 with
     | true=>some (.v (.string s),l',h')
     | false=>none
   | _,_,_,_=>none
 | _=>none
theorem Fg(hT:bD P T){R:Nat→Prop}{a:Act}{w:World}{O:Nat→Option Nat}(hI:Inv P B F0 w0 R lk hm a w O){x:Operand}{iv:Int}(hx: ∀t,x= .tmp t→R t)(h:DZ T lk (some x)=some (some iv))(m:Nat)(h0:0≤iv)(h1:iv.toNat≤m)(code:BoundsCode):
  (Instr.sliceBound (a.eval x) m code).run P w= .ok iv.toNat w:=by
 simp only[DZ] at h;split at h<;>simp at h;rename_i k iv' hs;subst h;have:=(cR hT hI hx hs).1;have h2:0≤iv'∧iv'≤(m:Int):=by omega
 simp[Instr.sliceBound,this,asIntOf,h2]
def fU:Option Int→Nat
 | none=>0
 | some iv=>iv.toNat
def cV(n:Nat):Option Int→Nat
 | none=>n
 | some iv=>iv.toNat
def okB:Option Int→Prop
 | none=>True
 | some iv=>0≤iv
theorem wX(hT:bD P T){R:Nat→Prop}{a:Act}{w:World}{O:Nat→Option Nat}(hI:Inv P B F0 w0 R lk hm a w O){lo hi:Option Operand}{l' h':Option Int}(hlo: ∀x,lo=some x→ ∀t,x= .tmp t→R t)(hhi: ∀x,hi=some x→ ∀t,x= .tmp t→R t)
  (h1:DZ T lk lo=some l') (h2:DZ T lk hi=some h') (isS:Bool) (len cap:Nat) (g1:okB l') (g2:okB h') (g3:fU l'≤cV len h') (g4:cV len h'≤len) (hcap:len≤cap):
  (Instr.sliceBounds isS len cap (lo.map a.eval) (hi.map a.eval) none).run P w= .ok (fU l',cV len h',cap) w:=by
 have hh:((match hi.map a.eval,(none:Option Value) with
  | some v,some _=>Instr.sliceBound v cap .slice3B
  | some v,none=>Instr.sliceBound v cap (if isS then .sliceAcap else .sliceAlen)
  | none,none=>pure len
  | none,some _=>stuck "Slice: max without high":Sem Nat)).run P w= .ok (cV len h') w:=by
  cases hi with
  | none=>simp[DZ] at h2;subst h2;rfl
  | some x =>
    cases h' with
    | none=>simp only[DZ] at h2;split at h2<;>simp at h2
    | some iv=>exact Fg hT hI (hhi x rfl) h2 cap g2 (by simp only[cV] at g4 ⊢; omega) _
 have hl:((match lo.map a.eval with
  | some v=>Instr.sliceBound v (cV len h') (if (none:Option Value).isSome then .slice3C else .sliceB)
  | none=>pure 0:Sem Nat)).run P w= .ok (fU l') w:=by
  cases lo with
  | none=>simp[DZ] at h1;subst h1;rfl
  | some x =>
    cases l' with
    | none=>simp only[DZ] at h1;split at h1<;>simp at h1
    | some iv=>exact Fg hT hI (hlo x rfl) h1 _ g1 (by simpa[fU] using g3) _
 unfold Instr.sliceBounds;cases hi with
 | none =>
   simp[DZ] at h2;subst h2;simp only[cV] at hl ⊢;cases lo with
   | none =>
     simp[DZ] at h1;subst h1;simp[fU]
   | some x =>
     simp only[Option.map_some,Option.isSome_none,Bool.false_eq_true,if_false] at hl;simp[hl]
 | some y =>
   simp only[Option.map_some] at hh;cases lo with
   | none =>
     simp[DZ] at h1;subst h1;simp[fU,hh]
   | some x =>
     simp only[Option.map_some,Option.isSome_none,Bool.false_eq_true,if_false] at hl;simp[hl,hh]
theorem aN.Ej(hT:bD P T){s:Nat}{l:List D}{lo hi:Option Int}(hd:o.dst=some d)(hn:hm d=none)(hx:FE T lk o.op=some (.sl s l,lo,hi))(g1:okB lo)(g2:okB hi)(g3:fU lo≤cV l.length hi)(g4:cV l.length hi≤l.length):
  aN P B F0 w0 d o lk hm (.d (.sl s ((l.take (cV l.length hi)).drop (fU lo)))):=by
 refine⟨hd,hn,fun a w O hI K Q hK=>?_⟩;obtain ⟨dst,op,ty,pos,after,guard⟩:=o;simp only[] at hd hx hI;cases op<;>simp only[FE] at hx<;>try (cases hx;done)
 rename_i t x lo' hi' mx;cases mx<;>simp only[] at hx<;>try (cases hx;done)
 split at hx<;>try (cases hx;done)
 · rename_i ti s' l' lo1 hi1 hti hs hl hh;split at hx<;>try (cases hx;done)
   rename_i te hk hte;split at hx<;>simp at hx;rename_i hse;obtain ⟨⟨rfl,rfl⟩,rfl,rfl⟩:=hx;have hse:=Nat.eq_of_beq_eq_true hse;obtain ⟨info,dd,z,hok⟩:=hT t ti hti;obtain ⟨info',dd',z',hok'⟩:=hT _ te hte;have hr:=dX hT hI (fun t ht=>by subst ht;simp[Op.operands]) hs;obtain ⟨ad,cap,hv,hcap,hmax,hall⟩:=hr.A8;have hb:=wX hT hI (fun y hy t ht=>by subst hy;subst ht;simp[Op.operands]) (fun y hy t ht=>by subst hy;subst ht;simp[Op.operands]) hl hh true l'.length cap g1 g2 g3 g4 hcap;have hlen:((l'.take (cV l'.length hi1)).drop (fU lo1)).length=cV l'.length hi1-fU lo1:=by simp;omega
   refine bg (v:= .slice (if cap=fU lo1 then ad else ad.map (·.add (fU lo1*te.size))) (cV l'.length hi1-fU lo1) (cap-fU lo1)) (w':=w) ?_ (hK _ w O (du.refl hI.lt) ?_)
   · simp only[execOp,Instr.sliceAt,hv,Sem.run_bind,run_underlying (hok.jy hk).1,Result.andThen_ok,Instr.slice,hb,Go.sizeOf,typeInfo,run_program,hok'.hinfo,Sem.run_pure,hok'.size,Option.map_none]
   · rw[← hlen];rcases hall with hnil | ⟨b,off,cs,e',fz,rfl,hF,hb',hu,hcc⟩
     · subst hnil;simp only[List.take_nil,List.drop_nil];exact .nil (by omega)
     · by_cases hz:cap=fU lo1
       · have:(l'.take (cV l'.length hi1)).drop (fU lo1)=[]:=List.eq_nil_of_length_eq_zero (by omega);rw[this];exact .nil (by omega)
       · rw[if_neg hz];have hadd:(some (⟨b,off,none⟩:Addr)).map (·.add (fU lo1*te.size))=some ⟨b,off+fU lo1*te.size,none⟩:=by simp[Addr.add_lit]
         rw[hadd];refine Rd.mK hF hb' (by rw[hlen];omega) (by omega) (fun y hy=>hu y (List.mem_of_mem_take (List.mem_of_mem_drop hy))) (fun j y hj=>?_);have hus: ∀y,y∈(l'.take (cV l'.length hi1)).drop (fU lo1)→y.flat.length=s':=fun y hy=>hu y (List.mem_of_mem_take (List.mem_of_mem_drop hy));have hjl:j<(flatAll ((l'.take (cV l'.length hi1)).drop (fU lo1))).length:=(List.getElem?_eq_some_iff.1 hj).1;rw[aR hus,hlen] at hjl
         have hs0:0<s':=by
          rcases Nat.eq_zero_or_pos s' with h | h
          · subst h;simp at hjl
          · exact h
         have hq:j / s'<cV l'.length hi1-fU lo1:=Nat.div_lt_of_lt_mul (by rw[Nat.mul_comm];exact hjl);have hmod:j%s'<s':=Nat.mod_lt _ hs0;have hjd:j / s'*s'+j%s'=j:=by rw[Nat.mul_comm];exact Nat.div_add_mod _ _
         have hel: ∃el,((l'.take (cV l'.length hi1)).drop (fU lo1))[j / s']?=some el:=⟨_,List.getElem?_eq_getElem (by omega)⟩;obtain ⟨el,hel⟩:=hel;have e1:=cO (j%s') hus hel hmod;rw[hjd] at e1;rw[e1] at hj
         have hel':l'[fU lo1+j / s']?=some el:=by
          rw[List.getElem?_drop,List.getElem?_take] at hel;split at hel
          · exact hel
          · cases hel
         have e2:=cO (j%s') hu hel' hmod;rw[hj] at e2;obtain ⟨f1,u,f2,f3⟩:=hcc _ y e2;refine⟨f1,u,?_,f3⟩;rw[← f2,← hse]
         congr 1
         have:(fU lo1+j / s')*s'=fU lo1*s'+j / s'*s':=Nat.add_mul _ _ _;omega
 · rename_i hx';split at hx<;>simp at hx
end
end Lift
namespace Lift
open Go
open Go.RowKit (Below)
section
variable {P:Program} {T:Ty} {B:Nat} {F0:Nat→Prop} {w0:cX} {n:Nat} {lk hm:Nat→Option AV} {o:Oper} {d:Nat}
def w5(T:Ty)(lk:Nat→Option AV):List Operand→List Nat→Option (List D)
 | [],_=>some []
 | x::r,t::ts=>match dC T (ex T lk t x),w5 T lk r ts with
   | some d,some ds=>some (d::ds)
   | _,_=>none
 | _::_,[]=>none
def tL(T:Ty)(lk hm:Nat→Option AV):List Operand→List Nat→Option (List D)
 | [],_=>some []
 | x::r,t::ts=>match Jc T hm (ex T lk t x),tL T lk hm r ts with
   | some d,some ds=>some (d::ds)
   | _,_=>none
 | _::_,[]=>none
def tK(T:Ty)(lk:Nat→Option AV):Op→Option (FuncId×List D)
 | .call c=>match c.callee with
   | .value (.func f)=>match w5 T lk c.args.toList c.argTypes.toList with
     | some ds=>some (f,ds)
     | none=>none
   | _=>none
 | _=>none
def wV(T:Ty)(lk hm:Nat→Option AV):Op→Option (FuncId×List D)
 | .call c=>match c.callee with
   | .value (.func f)=>match tL T lk hm c.args.toList c.argTypes.toList with
     | some ds=>some (f,ds)
     | none=>none
   | _=>none
 | _=>none
def fF:D→Bool
 | .v _=>true
 | .sl _ _=>false
 | .ag _=>false
 | .tu _=>false
 | .pr _=>false
 | .fn _ _ _=>false
def il:D→Bool
 | .v _=>true
 | .tu l=>l.all fF
 | .sl _ _=>false
 | .ag _=>false
 | .pr _=>false
 | .fn _ _ _=>false
theorem Rd.scalar{w w':World}{F F':Nat→Prop}{x:D}{v:Value}(h:Rd w F x v)(hs:il x=true):Rd w' F' x v:=by
 have key: ∀{y:D} {u:Value},Rd w F y u→fF y=true→Rd w' F' y u:=fun {y u} hy hp=>by
  cases hy with
  | v h=>exact .v h
  | nil=>simp[fF] at hp
  | sl=>simp[fF] at hp
  | ag=>simp[fF] at hp
  | tu=>simp[fF] at hp
  | pr=>simp[fF] at hp
  | fn=>simp[fF] at hp
 cases h with
 | v h=>exact .v h
 | nil=>simp[il] at hs
 | sl=>simp[il] at hs
 | ag=>simp[il] at hs
 | pr=>simp[il] at hs
 | fn=>simp[il] at hs
 | tu hl hr =>
   simp only[il,List.all_eq_true] at hs;exact .tu hl (fun i d u h1 h2=>key (hr i d u h1 h2) (hs d (List.mem_of_getElem? h1)))
theorem oL(hT:bD P T){R:Nat→Prop}{a:Act}{w:World}{O:Nat→Option Nat}(hI:Inv P B F0 w0 R lk hm a w O): ∀(l:List Operand) (ts:List Nat) (ds:List D),(∀x,x∈l→ ∀t,x= .tmp t→R t)→w5 T lk l ts=some ds →
  (l.map a.eval).length=ds.length∧ ∀(i:Nat) (d:D) (v:Value),ds[i]?=some d→(l.map a.eval)[i]?=some v→Rd w (aP O (FW B F0 w)) d v
 | [],ts,ds,_,h=>by simp[w5] at h;subst h;exact⟨rfl,fun i d v h=>by simp at h⟩
 | x::r,[],ds,_,h=>by simp[w5] at h
 | x::r,t::ts,ds,hx,h=>by
   simp only[w5] at h;split at h<;>simp at h;rename_i y ys h1 h2;subst h;have ih:=oL hT hI r ts ys (fun z hz=>hx z (by simp[hz])) h2;refine⟨by simp;simpa using ih.1,fun i d v h3 h4=>?_⟩;cases i with
   | zero=>simp at h3 h4;subst h3;subst h4;exact dX hT hI (hx x (by simp)) h1
   | succ i=>exact ih.2 i d v (by simpa using h3) (by simpa using h4)
theorem lW(hT:bD P T){R:Nat→Prop}{a:Act}{w:World}{O:Nat→Option Nat}(hI:Inv P B F0 w0 R lk hm a w O){G:Nat→Prop}(hG1: ∀c,aP O (FW B F0 w) c→G c)(hG2: ∀c t y,O c=some t→hm t=some y→y.home=true→G c): ∀(l:List Operand) (ts:List Nat) (ds:List D),(∀x,x∈l→ ∀t,x= .tmp t→R t)→tL T lk hm l ts=some ds →
  (l.map a.eval).length=ds.length∧ ∀(i:Nat) (d:D) (v:Value),ds[i]?=some d→(l.map a.eval)[i]?=some v→Rd w G d v
 | [],ts,ds,_,h=>by simp[tL] at h;subst h;exact⟨rfl,fun i d v h=>by simp at h⟩
 | x::r,[],ds,_,h=>by simp[tL] at h
 | x::r,t::ts,ds,hx,h=>by
   simp only[tL] at h;split at h<;>simp at h;rename_i y ys h1 h2;subst h;have ih:=lW hT hI hG1 hG2 r ts ys (fun z hz=>hx z (by simp[hz])) h2;refine⟨by simp;simpa using ih.1,fun i d v h3 h4=>?_⟩;cases i with
   | zero=>simp at h3 h4;subst h3;subst h4;exact Kl hT hI hG1 hG2 (hx x (by simp)) h1
   | succ i=>exact ih.2 i d v (by simpa using h3) (by simpa using h4)
theorem lV{a:Act}{w:World}{f:FuncId}{args:Array Operand}{ts:Array TypeId}{ty:TypeId}{pos:String}{after:Array Edge}{guard:Option (Nat×Bool)}{dst:Option Tmp}(hok:s5 P f):
  (execOp a.eval {dst:=dst,op:= .call {callee:= .value (.func f),args:=args,argTypes:=ts},type:=ty,pos:=pos,after:=after,guard:=guard}).run P w= .ok (.enter f (args.map a.eval)) w:=by
 obtain ⟨fn,h1,h2,h3⟩:=hok;simp only[execOp,resolve,Deferred.ofValue,Act.eval,Sem.run_bind,Sem.run_pure,Result.andThen_ok,invoke,callFunc,run_program,h1,h2,h3,Bool.false_eq_true,if_false,Array.empty_append,Array.append_empty]
theorem aN.call(hT:bD P T){f:FuncId}{ds:List D}{res:D}(hd:o.dst=some d)(hn:hm d=none)(hx:tK T lk o.op=some (f,ds))(hP:Pure P f ds res):aN P B F0 w0 d o lk hm (.d res):=by
 refine⟨hd,hn,fun a w O hI K Q hK=>?_⟩;obtain ⟨dst,op,ty,pos,after,guard⟩:=o;simp only[] at hd hx hI;cases op<;>simp only[tK] at hx<;>try (cases hx;done)
 rename_i c;obtain ⟨callee,args,ats⟩:=c;simp only[] at hx;split at hx<;>try (cases hx;done)
 rename_i g;split at hx<;>simp at hx;rename_i ds' hds;obtain ⟨rfl,rfl⟩:=hx;have hr:=oL hT hI args.toList ats.toList ds' (fun x hx t ht=>by subst ht;simp[Op.operands,Call.operands];exact Array.mem_toList_iff.1 hx) hds;unfold Oper.wp;rw[lV hP.1];show Calls P g (args.map a.eval) w _;have hc:=hP.2 w (aP O (FW B F0 w)) (args.toList.map a.eval) (fun b hb=>(FW.step hI.f0 hI.base (Nat.le_refl _) b hb.2).1) hr.1 hr.2;have he:(args.toList.map a.eval).toArray=args.map a.eval:=by apply Array.ext';simp
 rw[he] at hc;refine hc.mono fun e w' ⟨v,he,hb,hv⟩=>?_;subst he;refine hK v w' O ⟨hb,fun _ _=>rfl,fun b t h=> .inl (hI.lt b t h)⟩ (hv.mono (fun b hb'=>?_) (fun _ _=>rfl));rcases hb' with h | ⟨h1,h2⟩
 · exact⟨h.1,(FW.step hI.f0 hI.base hb.size b h.2).2⟩
 · refine⟨?_,.inr ⟨Nat.le_trans hI.base h1,h2⟩⟩;cases ho:O b with
   | none=>rfl
   | some t=>have:=hI.lt b t ho;omega
theorem aN.calls(hT:bD P T){f:FuncId}{ds:List D}{res:D}(hd:o.dst=some d)(hn:hm d=none)(hx:wV T lk hm o.op=some (f,ds))(hs:il res=true)(hP:Pure P f ds res):aN P B F0 w0 d o lk hm (.d res):=by
 refine⟨hd,hn,fun a w O hI K Q hK=>?_⟩;obtain ⟨dst,op,ty,pos,after,guard⟩:=o;simp only[] at hd hx hI;cases op<;>simp only[wV] at hx<;>try (cases hx;done)
 rename_i c;obtain ⟨callee,args,ats⟩:=c;simp only[] at hx;split at hx<;>try (cases hx;done)
 rename_i g;split at hx<;>simp at hx;rename_i ds' hds;obtain ⟨rfl,rfl⟩:=hx;have hr:=lW hT hI (G:=FW B F0 w) (fun _ hc=>hc.2) (fun c t _ hc _ _=>(hI.orange c t hc).fw hI.f0) args.toList ats.toList ds' (fun x hx t ht=>by subst ht;simp[Op.operands,Call.operands];exact Array.mem_toList_iff.1 hx) hds;unfold Oper.wp;rw[lV hP.1];show Calls P g (args.map a.eval) w _;have hc:=hP.2 w (FW B F0 w) (args.toList.map a.eval) (fun b hb=>(FW.step hI.f0 hI.base (Nat.le_refl _) b hb).1) hr.1 hr.2;have he:(args.toList.map a.eval).toArray=args.map a.eval:=by apply Array.ext';simp
 rw[he] at hc;refine hc.mono fun e w' ⟨v,he,hb,hv⟩=>?_;subst he;exact hK v w' O ⟨hb,fun _ _=>rfl,fun b t h=> .inl (hI.lt b t h)⟩ (hv.scalar hs)
def G8:Operand→Operand→Bool
 | .tmp a,.tmp b=>Nat.beq a b
 | .const (.int _ (.ofNat a)),.const (.int _ (.ofNat b))=>Nat.beq a b
 | _,_=>false
theorem C2{a:Act}{x y:Operand}(h:G8 x y=true){k:IntKind}{u:Int}(hx:a.eval x= .int k u): ∃k',a.eval y= .int k' u:=by
 unfold G8 at h;split at h<;>try (cases h;done)
 · have:=Nat.eq_of_beq_eq_true h;subst this;exact⟨k,hx⟩
 · rename_i k1 n1 k2 n2;have:=Nat.eq_of_beq_eq_true h;subst this;have hx:Value.int k1 (Int.ofNat n1)= .int k u:=hx;simp at hx;obtain ⟨rfl,rfl⟩:=hx;exact⟨k2,rfl⟩
def Mt(T:Ty)(lk:Nat→Option AV):Op→Option (Nat×TI×Int)
 | .makeSlice t x y=>match T.get t,kH (dC T (ex T lk 0 x)) with
   | some ti,some (.int _ a)=>match Nat.beq ti.kind 4,G8 x y,T.get ti.elem with
     | true,true,some te=>some (ti.elem,te,a)
     | _,_,_=>none
   | _,_=>none
 | _=>none
def uX(i:TI):D:=match i.agg with
 | true=> .ag i.zero
 | false=>match i.zero with
   | z::_=>z
   | []=> .ag []
def l6(i:TI):Bool:=match i.agg with
 | true=>Nat.blt 0 i.size
 | false=>match i.zero with
   | [z]=>z.bc
   | _=>false
theorem xT{t:Nat}{i:TI}{info:TypeInfo}{dd:TypeDesc}{z:Value}(hi:jS P t i info dd z)(h:l6 i=true):(uX i).flat=i.zero∧i.zero.length=i.size∧0<i.size:=by
 have hz:=(qe (w:=default) (F:=fun _=>True) hi.tP).1;have hz2:=hi.zsize;have hl:i.zero.length=i.size:=by simp at hz;omega
 unfold l6 at h;unfold uX;cases hagg:i.agg with
 | true =>
   simp only[hagg] at h ⊢;exact⟨rfl,hl,by have:=Nat.le_of_ble_eq_true h;omega⟩
 | false =>
   simp only[hagg] at h ⊢;split at h
   · rename_i z' hz';simp only[hz'];exact⟨D.lU h,by rw[← hl,hz'],by rw[← hl,hz'];simp⟩
   · cases h
theorem rG(m:Nat)(x:D)(k j:Nat)(hx:x.flat.length=k)(hj:j<m*k):(flatAll (List.replicate m x))[j]?=x.flat[j%k]?:=by
 have hk:0<k:=by
  rcases Nat.eq_zero_or_pos k with h | h
  · subst h;simp at hj
  · exact h
 have hmod:=Nat.mod_lt j hk;have hq:j / k<m:=Nat.div_lt_of_lt_mul (by rw[Nat.mul_comm];exact hj);have:=cO (s:=k) (l:=List.replicate m x) (i:=j / k) (e:=x) (j%k) (fun y hy=>by rw[(List.mem_replicate.1 hy).2];exact hx) (by simp[hq]) hmod;rw[show j / k*k+j%k=j by rw[Nat.mul_comm];exact Nat.div_add_mod _ _] at this;exact this
theorem aN.make(hT:bD P T){e:Nat}{te:TI}{m:Int}(hd:o.dst=some d)(hn:hm d=none)(hx:Mt T lk o.op=some (e,te,m))(hz:l6 te=true)(h0:0≤m)(hb:(te.bytes:Int)*m≤281474976710656)(hm63:m≤9223372036854775807):
  aN P B F0 w0 d o lk hm (.ow e (List.replicate m.toNat (uX te))):=by
 refine⟨hd,hn,fun a w O hI K Q hK=>?_⟩;obtain ⟨dst,op,ty,pos,after,guard⟩:=o;simp only[] at hd hx hI;cases op<;>simp only[Mt] at hx<;>try (cases hx;done)
 rename_i t x y;split at hx<;>try (cases hx;done)
 rename_i ti k1 u hti hxu;split at hx<;>simp at hx;rename_i te' hk huv hte;obtain ⟨rfl,rfl,rfl⟩:=hx;obtain ⟨info,dd,z,hok⟩:=hT t ti hti;obtain ⟨info',dd',z',hok'⟩:=hT _ te' hte;have hu:=(cR hT hI (fun t ht=>by subst ht;simp[Op.operands]) hxu).1;obtain ⟨k2,hv⟩:=C2 huv hu;have hrun:=run_make (P:=P) w t ti.elem info' z' (hok.jy hk).1 hok'.hinfo hok'.zero k1 k2 u u h0 (Int.le_refl _) (by rw[hok'.bytes];exact hb) hm63;obtain ⟨hz1,hz2,hz3⟩:=xT hok' hz;refine bg (v:= .slice (some ⟨w.heap.size,0,none⟩) u.toNat u.toNat) (w':=w.alloc (.cells (madeCells z'.cells (u.toNat*info'.size)) ti.elem)) (by simp[execOp,hu,hv,hrun]) (hK _ _ _ (du.alloc hI.lt d _) ?_);refine .inr ⟨w.heap.size,u.toNat,_,by simp,by simp[j6],heap_alloc_new w _,by simp,by simp[maxLen];omega,by rw[size_madeCells,hok'.cellsOf,hok'.size],fun y hy=>?_,fun j y hj=>?_⟩
 · rw[(List.mem_replicate.1 hy).2,hz1,hz2,hok'.cellsOf]
 · have hlen:j<u.toNat*te'.size:=by
    have:=(List.getElem?_eq_some_iff.1 hj).1;rw[aR (s:=te'.size) (fun y hy=>by rw[(List.mem_replicate.1 hy).2,hz1,hz2])] at this;simpa using this
   rw[rG _ _ te'.size j (by rw[hz1,hz2]) hlen,hz1] at hj;obtain ⟨g1,c,g2,g3⟩:=(qe (w:=w.alloc (.cells (madeCells z'.cells (u.toNat*info'.size)) ti.elem)) (F:=aP (j6 O w.heap.size d) (FW B F0 (w.alloc (.cells (madeCells z'.cells (u.toNat*info'.size)) ti.elem)))) hok'.tP).get hj;refine⟨g1,c,?_,g3⟩;have hlt:j<u.toNat*info'.size:=by rw[hok'.size];exact hlen
   have hzs:z'.cells.size=te'.size:=hok'.zsize;have hml:j%te'.size<z'.cells.size:=by rw[hzs];exact Nat.mod_lt _ hz3
   simp only[Array.getElem?_toList] at g2;simp only[madeCells,Array.getElem?_map,Array.getElem?_range,hlt,if_true,Option.map_some,hzs];rw[getElem!_pos z'.cells (j%te'.size) hml];rw[Array.getElem?_eq_getElem hml] at g2;exact g2
end
end Lift
namespace Lift
open Go
open Go.RowKit (Below)
section
variable {P:Program} {T:Ty} {B:Nat} {F0:Nat→Prop} {w0:cX} {n:Nat} {lk hm:Nat→Option AV} {o:Oper} {d:Nat}
theorem p7{w:World}{F:Nat→Prop}{b off:Nat}{cs:Array Value}{e:TypeId}{fz:Nat×Nat}{ds:List D}(hb:w.heap[b]?=some (.cells cs e fz))
  (hr: ∀(i:Nat) (d:D),ds[i]?=some d→d.bc=true∧ ∃u,cs[off+i]?=some u∧Rd w F d u):
  ∃news:List Value,news.length=ds.length∧(∀(j:Nat) (u:Value),news[j]?=some u→w.cell? ((⟨b,off,none⟩:Addr).add j)=some u)∧mF w F ds news:=by
 refine⟨(List.range ds.length).map fun j=>(cs[off+j]?).getD undef,by simp,fun j u hj=>?_,by simp,fun j d u hj hu'=>?_⟩
 · have hjl:j<ds.length:=by
    have:=(List.getElem?_eq_some_iff.1 hj).1;simpa using this
   obtain ⟨_,u',hu,_⟩:=hr j _ (List.getElem?_eq_getElem hjl);simp[hjl,hu] at hj;subst hj;rw[Addr.add_lit];simp[World.cell?,hb,hu]
 · obtain ⟨g1,u1,g2,g3⟩:=hr j d hj;have hjl:=(List.getElem?_eq_some_iff.1 hj).1;simp[hjl,g2] at hu';subst hu';exact⟨g1,g3⟩
def xv(T:Ty)(hm:Nat→Option AV):Option AV→Option (Nat×List D)
 | some (.d (.sl s l))=>some (s,l)
 | some (.e0 e)=>match T.get e with
   | some i=>some (i.size,[])
   | none=>none
 | some (.al h)=>match lE hm (some (.al h)) with
   | some (_,e,l,lo,m)=>match T.get e with
     | some i=>some (i.size,(l.drop lo).take m)
     | none=>none
   | none=>none
 | some (.sb h i o)=>match lE hm (some (.sb h i o)) with
   | some (_,e,l,lo,m)=>match T.get e with
     | some i=>some (i.size,(l.drop lo).take m)
     | none=>none
   | none=>none
 | _=>none
theorem D'(hT:bD P T){R:Nat→Prop}{a:Act}{w:World}{O:Nat→Option Nat}(hI:Inv P B F0 w0 R lk hm a w O){av:AV}{v:Value}{k s:Nat}{l:List D}(hr:eQ P w0.X w O (FW B F0 w) hm (fun h=>a.tmps[h]?) k av v)
  (hs:(match lE hm (some av) with
   | some (_,e,l,lo,m)=>match T.get e with
     | some i=>some (i.size,(l.drop lo).take m)
     | none=>none
   | none=>none)=some (s,l)):
  ∃ad cap,v= .slice ad l.length cap∧l.length≤maxLen∧(l=[]∨ ∃(b:Addr) (news:List Value),ad=some b∧news.length=(flatAll l).length∧(∀x,x∈l→x.flat.length=s) ∧
   (∀(j:Nat) (u:Value),news[j]?=some u→w.cell? (b.add j)=some u)∧mF w (aP O (FW B F0 w)) (flatAll l) news):=by
 split at hs<;>try (cases hs;done)
 rename_i h e l' lo m hw;split at hs<;>simp at hs;rename_i i hi;obtain ⟨rfl,rfl⟩:=hs;obtain ⟨info,dd,z,hok⟩:=hT e i hi;obtain ⟨x,hx,hrow,hlo,cap',hc1,hc2,hv⟩:=gJ hI hr hw;have hlen:((l'.drop lo).take m).length=m:=by simp;omega
 rw[hlen];rcases hv with ⟨hl0,_,_,base,rfl⟩ | ⟨b,o1,len,cap,cs,o,_,htm,rfl,⟨h0,_⟩,hOb,hb,hu,hcells⟩
 · have hm0:m=0:=by omega
   subst hm0;exact⟨base,cap',rfl,by omega,.inl (by simp)⟩
 · rcases Nat.eq_zero_or_pos m with hm0 | hm0
   · subst hm0;exact⟨_,cap',rfl,by omega,.inl (by simp)⟩
   have h0:o=lo*P.cellsOf e:=by omega
   subst h0;rw[hok.cellsOf] at hu;obtain ⟨news,g1,g2,g3⟩:=p7 (off:=lo*i.size) (ds:=flatAll ((l'.drop lo).take m)) hb (fun j d hd=>hcells _ d (jB hu lo m j hd));exact⟨_,cap',rfl,by omega,.inr ⟨_,news,rfl,g1,fun y hy=>hu y (List.mem_of_mem_drop (List.mem_of_mem_take hy)),by rw[hok.cellsOf];exact g2,g3⟩⟩
theorem lF(hT:bD P T){R:Nat→Prop}{a:Act}{w:World}{O:Nat→Option Nat}(hI:Inv P B F0 w0 R lk hm a w O){av:AV}{v:Value}{k s:Nat}{l:List D}(hr:eQ P w0.X w O (FW B F0 w) hm (fun h=>a.tmps[h]?) k av v)(hs:xv T hm (some av)=some (s,l)):
  ∃ad cap,v= .slice ad l.length cap∧l.length≤maxLen∧(l=[]∨ ∃(b:Addr) (news:List Value),ad=some b∧news.length=(flatAll l).length∧(∀x,x∈l→x.flat.length=s) ∧
   (∀(j:Nat) (u:Value),news[j]?=some u→w.cell? (b.add j)=some u)∧mF w (aP O (FW B F0 w)) (flatAll l) news):=by
 cases av<;>simp only[xv] at hs<;>try (cases hs;done)
 case d x =>
  cases x<;>simp at hs;obtain ⟨rfl,rfl⟩:=hs;have hr:Rd w (aP O (FW B F0 w)) _ v:=hr;obtain ⟨ad,cap,rfl,hcap,jG,hall⟩:=hr.A8;refine⟨ad,cap,rfl,by omega,?_⟩;rcases hall with hnil | ⟨b,off,cs,e,fz,rfl,hF,hb,hu,hc⟩
  · exact .inl hnil
  · obtain ⟨news,h1,h2,h3⟩:=p7 hb hc;exact .inr ⟨_,news,rfl,h1,hu,h2,h3⟩
 case e0 e =>
  split at hs<;>simp at hs;obtain ⟨rfl,rfl⟩:=hs;obtain ⟨base,rfl⟩:=hr;exact⟨base,0,rfl,Nat.zero_le _,.inl rfl⟩
 case al t=>exact D' hT hI hr hs
 case sb t lo m=>exact D' hT hI hr hs
theorem eF{w:World}{t ty e:TypeId}{i:TypeInfo}(ht:P.underlying t=some (.slice e))(hi:P.info? e=some i)(base ad:Option Addr)(c:Nat):
  (Builtin.append_ #[t,t] ty #[.slice base 0 0,.slice ad 0 c]).run P w= .ok (.slice base 0 0) w:=by
 have hf:(Builtin.firstCells i.size 0 (.slice ad 0 c)).run P w= .ok #[] w:=by
  cases ad with
  | none=>rfl
  | some a=>simp[Builtin.firstCells,loadCells,loadCellsFrom]
 cases base<;>simp[Builtin.append_,run_underlying ht,Go.sizeOf,typeInfo,hi,Builtin.lenOf,hf,storeCells]
theorem jK{w:World}(t ty e:TypeId)(i:TypeInfo)(z:Value)(ht:P.underlying t=some (.slice e))(hi:P.info? e=some i)(hz:i.zero=some z)(base:Option Addr)
  (a:Addr) (m c:Nat) (news:List Value) (hl:news.length=m*i.size) (hnews: ∀j v,news[j]?=some v→w.cell? (a.add j)=some v)
  (h0:0<m) (h63:(m:Int)≤9223372036854775807) (h48:m*i.bytes≤281474976710656):
  (Builtin.append_ #[t,t] ty #[.slice base 0 0,.slice (some a) m c]).run P w =
   .ok (.slice (some ⟨w.heap.size,0,none⟩) m (grownCap w m 0 e)) (w.drew.alloc (.cells (news.toArray++Builtin.zeroCells z.cells (grownCap w m 0 e-m)) e)):=by
 cases base with
 | none=>exact run_append_nil w t ty e i z ht hi hz a m c news hl hnews h0 h63 h48
 | some b =>
   have h:=run_append_grow (P:=P) w t ty e i z ht hi hz b 0 0 [] (by simp) (fun j v h=>by simp at h) a m c news hl hnews (by omega) (by simpa using h63) (by
    simp only[Nat.zero_add];rw[nextslicecap_zero h0]
    exact h48)
   simpa using h
def Mf(T:Ty)(lk hm:Nat→Option AV):Op→Option (Nat×TI×List D)
 | .call c=>match c.callee with
   | .builtin .append=>match c.args.toList,c.argTypes.toList with
     | [x,y],[t,u]=>match T.get t,ex T lk t x,xv T hm (ex T lk u y) with
       | some ti,some (.e0 e),some (s,l)=>match Nat.beq ti.kind 4,Nat.beq t u,Nat.beq e ti.elem,T.get ti.elem with
         | true,true,true,some te=>match Nat.beq s te.size with
           | true=>some (e,te,l)
           | false=>none
         | _,_,_,_=>none
       | _,_,_=>none
     | _,_=>none
   | _=>none
 | _=>none
theorem oE{X:Nat→Prop}{W:World}{O:Nat→Option Nat}{F:Nat→Prop}{l:List D}{e:Nat}{te:TI}{info:TypeInfo}{dd:TypeDesc}{z:Value}(hok:jS P e te info dd z){news:List Value}{cap b:Nat}{cs:Array Value}{t:Nat}
  (hO:O b=some t) (hb:W.heap[b]?=some (.cells cs e (0,0))) (hcap:l.length≤cap) (hmax:cap≤maxLen) (hcs:cs.size=cap*te.size) (hu: ∀x,x∈l→x.flat.length=te.size)
  (hr:mF W (aP O F) (flatAll l) news) (hpre: ∀(j:Nat) (u:Value),news[j]?=some u→cs[j]?=some u) {tm:Nat→Option Value}:eQ P X W O F hm tm t (.ow e l) (.slice (some ⟨b,0,none⟩) l.length cap):=by
 refine .inr ⟨b,cap,cs,rfl,hO,hb,hcap,hmax,by rw[hok.cellsOf];exact hcs,fun x hx=>by rw[hok.cellsOf];exact hu x hx,fun j d hj=>?_⟩;obtain ⟨g1,u,g2,g3⟩:=hr.get hj;exact⟨g1,u,hpre j u g2,g3⟩
theorem aN.Ct(hT:bD P T){e:Nat}{te:TI}{l:List D}(hd:o.dst=some d)(hn:hm d=none)(hx:Mf T lk hm o.op=some (e,te,l))(hlen:l.length*te.bytes≤140737488355328):
  aN P B F0 w0 d o lk hm (.ow e l):=by
 refine⟨hd,hn,fun a w O hI K Q hK=>?_⟩;obtain ⟨dst,op,ty,pos,after,guard⟩:=o;simp only[] at hd hx hI;cases op<;>simp only[Mf] at hx<;>try (cases hx;done)
 rename_i c;obtain ⟨callee,args,ats⟩:=c;simp only[] at hx;split at hx<;>try (cases hx;done)
 split at hx<;>try (cases hx;done)
 rename_i x y t u hxy htu;split at hx<;>try (cases hx;done)
 rename_i ti e' s l' hti hxe hys;split at hx<;>try (cases hx;done)
 rename_i te' hk htu' hee hte;split at hx<;>simp at hx;rename_i hs;obtain ⟨rfl,rfl,rfl⟩:=hx;have htu':=Nat.eq_of_beq_eq_true htu';subst htu';have hee:=Nat.eq_of_beq_eq_true hee;subst hee;have hs:=Nat.eq_of_beq_eq_true hs;subst hs;have hargs:args= #[x,y]:=by apply Array.ext';simpa using hxy
 have hats:ats= #[t,t]:=by apply Array.ext';simpa using htu
 subst hargs;subst hats;obtain ⟨info,dd,z,hok⟩:=hT t ti hti;obtain ⟨info',dd',z',hok'⟩:=hT _ te' hte;obtain ⟨base,hxv⟩:=(a6 hI (fun t ht=>by subst ht;simp[Op.operands,Call.operands]) hxe 0).1;cases hye:ex T lk t y with
 | none=>rw[hye] at hys;simp[xv] at hys
 | some avy =>
   rw[hye] at hys;have hyr:=(a6 hI (fun t ht=>by subst ht;simp[Op.operands,Call.operands]) hye 0).1;obtain ⟨ad,cap,hyv,jG,hall⟩:=lF hT hI hyr hys;have hun:=(hok.jy hk).1;rcases hall with hnil | ⟨b,news,rfl,hnl,hu,hcell,hrdl⟩
   · subst hnil;have hrun:=eF (w:=w) (ty:=ty) hun hok'.hinfo base ad cap;simp only[List.length_nil] at hyv;exact bg (v:= .slice base 0 0) (w':=w) (by simp[execOp,resolve,invoke,builtin,hxv,hyv,hrun]) (hK _ w O (du.refl hI.lt) (.inl ⟨base,rfl,rfl⟩))
   · by_cases h0:l'.length=0
     · have:l'=[]:=List.eq_nil_of_length_eq_zero h0;subst this;have hrun:=eF (w:=w) (ty:=ty) hun hok'.hinfo base (some b) cap;simp only[List.length_nil] at hyv;exact bg (v:= .slice base 0 0) (w':=w) (by simp[execOp,resolve,invoke,builtin,hxv,hyv,hrun]) (hK _ w O (du.refl hI.lt) (.inl ⟨base,rfl,rfl⟩))
     · have hfl:=aR hu;have hsz:info'.size=te'.size:=hok'.size;have hnl':news.length=l'.length*info'.size:=by rw[hnl,hfl,hsz]
       have hmx':(l'.length:Int)≤9223372036854775807:=by simp[maxLen] at jG;omega
       have hrun:=jK (P:=P) (w:=w) t ty ti.elem info' z' hun hok'.hinfo hok'.zero base b l'.length cap news hnl' hcell (by omega) hmx' (by rw[hok'.bytes];omega);have hge:=grownCap_ge w l'.length 0 ti.elem;have hle:=grownCap_le_maxLen w l'.length 0 ti.elem jG;have hdrew: ∀x,(w.drew.alloc x).heap=(w.alloc x).heap:=fun x=>rfl;refine bg (v:= .slice (some ⟨w.heap.size,0,none⟩) l'.length (grownCap w l'.length 0 ti.elem)) (w':=w.drew.alloc (.cells (news.toArray++Builtin.zeroCells z'.cells (grownCap w l'.length 0 ti.elem-l'.length)) ti.elem)) (by simp[execOp,resolve,invoke,builtin,hxv,hyv,hrun]) (hK _ _ (j6 O w.heap.size d) ?_ ?_)
       · refine⟨⟨rfl,rfl,rfl,by rw[hdrew];simp,fun k hk=>by rw[hdrew];exact heap_alloc_old w _ k hk⟩,fun b hb=>by simp[j6,Nat.ne_of_lt hb],fun b t hb=>?_⟩;simp only[j6] at hb;split at hb
         · rename_i h;simp at hb;exact .inr ⟨hb.symm,by rw[hdrew];simp[h]⟩
         · exact .inl (hI.lt b t hb)
       · refine oE hok' (news:=news) (by simp[j6]) (by rw[hdrew];exact heap_alloc_new w _) hge hle ?_ hu ?_ ?_
         · simp only[Array.size_append,List.size_toArray,size_zeroCells,hok'.zsize,hnl'];rw[hsz,← Nat.add_mul]
           congr 1
           omega
         · refine hrdl.mono (fun b hb=>?_) (fun b hb=>?_)
           · have:=FW.step hI.f0 hI.base (w':=w.drew.alloc (.cells (news.toArray++Builtin.zeroCells z'.cells (grownCap w l'.length 0 ti.elem-l'.length)) ti.elem)) (by rw[hdrew];simp) b hb.2;exact⟨by simp[j6,Nat.ne_of_lt this.1,hb.1],this.2⟩
           · rw[hdrew];exact heap_alloc_old w _ b (FW.step hI.f0 hI.base (Nat.le_refl _) b hb.2).1
         · intro j u hj;have hjl:=(List.getElem?_eq_some_iff.1 hj).1;rw[Array.getElem?_append_left (by simpa using hjl)];simpa using hj
theorem aN.nY(hT:bD P T){e:Nat}{te:TI}{l:List D}(hd:o.dst=some d)(hn:hm d=none)(hx:Mf T lk hm o.op=some (e,te,l))(hlen:l.length*te.bytes≤140737488355328):
  aN P B F0 w0 d o lk hm (.d (.sl te.size l)):=by
 refine⟨hd,hn,fun a w O hI K Q hK=>?_⟩;obtain ⟨dst,op,ty,pos,after,guard⟩:=o;simp only[] at hd hx hI;cases op<;>simp only[Mf] at hx<;>try (cases hx;done)
 rename_i c;obtain ⟨callee,args,ats⟩:=c;simp only[] at hx;split at hx<;>try (cases hx;done)
 split at hx<;>try (cases hx;done)
 rename_i x y t u hxy htu;split at hx<;>try (cases hx;done)
 rename_i ti e' s l' hti hxe hys;split at hx<;>try (cases hx;done)
 rename_i te' hk htu' hee hte;split at hx<;>simp at hx;rename_i hs;obtain ⟨rfl,rfl,rfl⟩:=hx;have htu':=Nat.eq_of_beq_eq_true htu';subst htu';have hee:=Nat.eq_of_beq_eq_true hee;subst hee;have hs:=Nat.eq_of_beq_eq_true hs;subst hs;have hargs:args= #[x,y]:=by apply Array.ext';simpa using hxy
 have hats:ats= #[t,t]:=by apply Array.ext';simpa using htu
 subst hargs;subst hats;obtain ⟨info,dd,z,hok⟩:=hT t ti hti;obtain ⟨info',dd',z',hok'⟩:=hT _ te' hte;obtain ⟨base,hxv⟩:=(a6 hI (fun t ht=>by subst ht;simp[Op.operands,Call.operands]) hxe 0).1;cases hye:ex T lk t y with
 | none=>rw[hye] at hys;simp[xv] at hys
 | some avy =>
   rw[hye] at hys;have hyr:=(a6 hI (fun t ht=>by subst ht;simp[Op.operands,Call.operands]) hye 0).1;obtain ⟨ad,cap,hyv,jG,hall⟩:=lF hT hI hyr hys;have hun:=(hok.jy hk).1;rcases hall with hnil | ⟨b,news,rfl,hnl,hu,hcell,hrdl⟩
   · subst hnil;have hrun:=eF (w:=w) (ty:=ty) hun hok'.hinfo base ad cap;simp only[List.length_nil] at hyv;exact bg (v:= .slice base 0 0) (w':=w) (by simp[execOp,resolve,invoke,builtin,hxv,hyv,hrun]) (hK _ w O (du.refl hI.lt) (Rd.nil (Nat.zero_le _)))
   · by_cases h0:l'.length=0
     · have:l'=[]:=List.eq_nil_of_length_eq_zero h0;subst this;have hrun:=eF (w:=w) (ty:=ty) hun hok'.hinfo base (some b) cap;simp only[List.length_nil] at hyv;exact bg (v:= .slice base 0 0) (w':=w) (by simp[execOp,resolve,invoke,builtin,hxv,hyv,hrun]) (hK _ w O (du.refl hI.lt) (Rd.nil (Nat.zero_le _)))
     · have hfl:=aR hu;have hsz:info'.size=te'.size:=hok'.size;have hnl':news.length=l'.length*info'.size:=by rw[hnl,hfl,hsz]
       have hmx':(l'.length:Int)≤9223372036854775807:=by simp[maxLen] at jG;omega
       have hrun:=jK (P:=P) (w:=w) t ty ti.elem info' z' hun hok'.hinfo hok'.zero base b l'.length cap news hnl' hcell (by omega) hmx' (by rw[hok'.bytes];omega);have hge:=grownCap_ge w l'.length 0 ti.elem;have hle:=grownCap_le_maxLen w l'.length 0 ti.elem jG;have hdrew: ∀x,(w.drew.alloc x).heap=(w.alloc x).heap:=fun x=>rfl;refine bg (v:= .slice (some ⟨w.heap.size,0,none⟩) l'.length (grownCap w l'.length 0 ti.elem)) (w':=w.drew.alloc (.cells (news.toArray++Builtin.zeroCells z'.cells (grownCap w l'.length 0 ti.elem-l'.length)) ti.elem)) (by simp[execOp,resolve,invoke,builtin,hxv,hyv,hrun]) (hK _ _ O ?_ ?_)
       · exact⟨⟨rfl,rfl,rfl,by rw[hdrew];simp,fun k hk=>by rw[hdrew];exact heap_alloc_old w _ k hk⟩,fun b hb=>rfl,fun b t hb=> .inl (hI.lt b t hb)⟩
       · refine Rd.mK (off:=0) ⟨?_,?_⟩ (by rw[hdrew];exact heap_alloc_new w _) hge hle hu (fun j dj hj=>?_)
         · cases hOn:O w.heap.size with
           | none=>rfl
           | some t=>exact absurd (hI.lt _ t hOn) (Nat.lt_irrefl _)
         · exact .inr ⟨hI.base,by rw[hdrew];simp⟩
         · have hmono:=hrdl.mono (F':=aP O (FW B F0 (w.drew.alloc (.cells (news.toArray++Builtin.zeroCells z'.cells (grownCap w l'.length 0 ti.elem-l'.length)) ti.elem)))) (w':=w.drew.alloc (.cells (news.toArray++Builtin.zeroCells z'.cells (grownCap w l'.length 0 ti.elem-l'.length)) ti.elem)) (fun b hb=>⟨hb.1,(FW.step hI.f0 hI.base (by rw[hdrew];simp) b hb.2).2⟩) (fun b hb=>by
            rw[hdrew]
            exact heap_alloc_old w _ b (FW.step hI.f0 hI.base (Nat.le_refl _) b hb.2).1)
           obtain ⟨g1,u,g2,g3⟩:=hmono.get hj;refine⟨g1,u,?_,g3⟩;have hjl:=(List.getElem?_eq_some_iff.1 g2).1;rw[Nat.zero_add,Array.getElem?_append_left (by simpa using hjl)];simpa using g2
end
end Lift
namespace Lift
open Go
open Go.RowKit (Below)
theorem eQ.move{P:Program}{X:Nat→Prop}{w w':World}{O O':Nat→Option Nat}{F F':Nat→Prop}{hm hm':Nat→Option AV}{tm tm':Nat→Option Value}{t:Nat}{av:AV}{v:Value}
  (h:eQ P X w O F hm tm t av v) (hfree: ∀c,aP O F c→aP O' F' c∧w'.heap[c]?=w.heap[c]?)
  (hown:av.home=true→ ∀c,O c=some t→O' c=some t∧w'.heap[c]?=w.heap[c]?)
  (hr: ∀k,av.refs=some k→ ∀x,x.home=true→hm' k=some x→hm k=some x∧tm' k=tm k):eQ P X w' O' F' hm' tm' t av v:=by
 have hFr: ∀b,aP O F b→aP O' F' b:=fun b hb=>(hfree b hb).1;have hB: ∀b,aP O F b→w'.heap[b]?=w.heap[b]?:=fun b hb=>(hfree b hb).2;cases av with
 | d x=>exact Rd.mono h hFr hB
 | bx ds =>
   obtain ⟨b,cs,e,h1,h2,h3,h4⟩:=h;obtain ⟨g1,g2⟩:=hown rfl b h2;exact⟨b,cs,e,h1,g1,g2.trans h3,h4.mono hFr hB⟩
 | pt k off =>
   intro ds hds;obtain ⟨e2,e1⟩:=hr k rfl _ rfl hds;rw[e1];exact h ds e2
 | rf ds =>
   obtain ⟨b,off,cs,e,fz,h1,h2,h3,h4⟩:=h;exact⟨b,off,cs,e,fz,h1,hFr b h2,(hB b h2).trans h3,fun i d hd=>⟨(h4 i d hd).1,let ⟨u,hu,hr⟩:=(h4 i d hd).2;⟨u,hu,hr.mono hFr hB⟩⟩⟩
 | e0 e=>exact h
 | ow e l =>
   rcases h with h | ⟨b,cap,cs,h1,h2,h3,h4,h5,h6,h7,h8⟩
   · exact .inl h
   · obtain ⟨g1,g2⟩:=hown rfl b h2;exact .inr ⟨b,cap,cs,h1,g1,g2.trans h3,h4,h5,h6,h7,fun i d hd=>⟨(h8 i d hd).1,let ⟨u,hu,hr⟩:=(h8 i d hd).2;⟨u,hu,hr.mono hFr hB⟩⟩⟩
 | wn q e l lo m =>
   rcases h with h | ⟨b,o,cap,cs,hq,h1,h0,h2,h3,h4,h5,h6,h7,h8⟩
   · exact .inl h
   obtain ⟨g1,g2⟩:=hown rfl b h2;exact .inr ⟨b,o,cap,cs,hq,h1,h0,g1,g2.trans h3,h4,h5,h6,h7,fun i d hd=>⟨(h8 i d hd).1,let ⟨u,hu,hr⟩:=(h8 i d hd).2;⟨u,hu,hr.mono hFr hB⟩⟩⟩
 | al k =>
   intro x hx hrow;obtain ⟨e2,e1⟩:=hr k rfl _ (dy hrow) hx;rw[e1];exact h x e2 hrow
 | el k i off =>
   intro x e l hx hrow;obtain ⟨e2,e1⟩:=hr k rfl _ (dy (by rw[hrow];rfl)) hx;rw[e1];exact h x e l e2 hrow
 | sb k lo m =>
   intro x e l hx hrow;obtain ⟨e2,e1⟩:=hr k rfl _ (dy (by rw[hrow];rfl)) hx;rw[e1];exact h x e l e2 hrow
 | un=>exact h
 | junk=>trivial
section
variable {P:Program} {T:Ty} {B:Nat} {F0:Nat→Prop} {w0:cX} {n:Nat} {lk hm:Nat→Option AV} {o:Oper} {d:Nat} {σ:St}
theorem Rel.consume{a:Act}{w w':World}{h:Nat}{O O':Nat→Option Nat}{av:AV}{v:Value}(hR:Rel P B F0 w0 n σ a w)
  (hO: ∀t av,σ.get t=some av→ ∃v,a.tmps[t]?=some v∧eQ P w0.X w O (FW B F0 w) σ.get (fun h=>a.tmps[h]?) t av v) (hd:d<n) (hne:h≠d) (hhx: ∃y,σ.get h=some y) (hav:av.home=true)
  (hb:iI B w0 w w') (hO'r: ∀b t,O' b=some t→j7 B w0 w' b) (hfree: ∀c,aP O (FW B F0 w) c→aP O' (FW B F0 w') c∧w'.heap[c]?=w.heap[c]?)
  (hown: ∀c t,O c=some t→t≠h→t≠d→O' c=some t∧w'.heap[c]?=w.heap[c]?) (hv:eQ P w0.X w' O' (FW B F0 w') σ.get (fun h=>a.tmps[h]?) d av v):
  Rel P B F0 w0 n ((d,av)::(h,.junk)::σ.kill d) (a.put (some d) v) w':=by
 refine⟨hR.below.trans hb,Nat.le_trans hR.base hb.size,hR.f0,by simp[Act.put,hR.defers],by simp[Act.put,hR.size],O',hO'r,fun t x hx=>?_⟩
 have hget: ∀k x,x.home=true→St.get ((d,av)::(h,AV.junk)::σ.kill d) k=some x→k≠d→σ.get k=some x:=fun k x hx hg hkd=>by
  rw[St.ki,if_neg (Ne.symm hkd)] at hg;split at hg
  · simp at hg;subst hg;simp[AV.home] at hx
  · rw[St.dV] at hg;cases hsk:σ.get k with
    | none=>simp[hsk] at hg
    | some z =>
      simp only[hsk,Option.map_some,Option.some.injEq] at hg;subst hg;rw[gA hx]
 rw[St.ki] at hx;split at hx
 · rename_i htd;subst htd;simp at hx;subst hx;refine⟨v,eT (by rw[hR.size];exact hd),hv.move (fun c hc=>⟨hc,rfl⟩) (fun _ c hc=>⟨hc,rfl⟩) (fun k hk=>?_)⟩;exfalso;cases av<;>simp_all [AV.home,AV.refs]
 · rename_i htd;split at hx
   · rename_i hth;subst hth;simp at hx;subst hx;obtain ⟨y,hy⟩:=hhx;obtain ⟨u,hu,_⟩:=hO h y hy;exact⟨u,by rw[dF hne];exact hu,trivial⟩
   · rename_i hth;rw[St.dV] at hx;cases hs:σ.get t with
     | none=>simp[hs] at hx
     | some y =>
       simp only[hs,Option.map_some,Option.some.injEq] at hx;subst hx;obtain ⟨u,hu,hur⟩:=hO t y hs;refine⟨u,by rw[dF (Ne.symm htd)];exact hu,?_⟩;rcases AV.kZ d y with ⟨h1,h2⟩ | h1
       · rw[h1];refine hur.move hfree (fun _ c hc=>hown c t hc (Ne.symm hth) (Ne.symm htd)) (fun k hk z hz hg=>?_);have hkd:k≠d:=fun e=>h2 (e▸hk);exact⟨hget k z hz hg hkd,dF hkd⟩
       · rw[h1];trivial
def Me(T:Ty)(σ:St):Op→Option (Nat×Nat×TI×List D×List D)
 | .call c=>match c.callee with
   | .builtin .append=>match c.args.toList,c.argTypes.toList with
     | [x,y],[t,u]=>match T.get t,ex T σ.get t x,xv T σ.get (ex T σ.get u y) with
       | some ti,some (.al h),some (s,m)=>match σ.get h with
         | some (.ow e l)=>match Nat.beq ti.kind 4,Nat.beq t u,Nat.beq e ti.elem,T.get ti.elem with
           | true,true,true,some te=>match Nat.beq s te.size with
             | true=>some (h,e,te,l,m)
             | false=>none
           | _,_,_,_=>none
         | _=>none
       | _,_,_=>none
     | _,_=>none
   | _=>none
 | _=>none
theorem tU{w:World}{t ty e:TypeId}{i:TypeInfo}(ht:P.underlying t=some (.slice e))(hi:P.info? e=some i)(base ad:Option Addr)(k cap c:Nat)(hk:k≤cap):
  (Builtin.append_ #[t,t] ty #[.slice base k cap,.slice ad 0 c]).run P w= .ok (.slice base k cap) w:=by
 have hf:(Builtin.firstCells i.size 0 (.slice ad 0 c)).run P w= .ok #[] w:=by
  cases ad with
  | none=>rfl
  | some a=>simp[Builtin.firstCells,loadCells,loadCellsFrom]
 cases base<;>simp[Builtin.append_,run_underlying ht,Go.sizeOf,typeInfo,hi,Builtin.lenOf,hf,storeCells,hk]
def rV(O:Nat→Option Nat)(h d c:Nat):Option Nat:=if O c=some h then some d else if O c=some d then some h else O c
theorem ff{O:Nat→Option Nat}{h d c:Nat}:rV O h d c=none↔O c=none:=by
 simp only[rV];split
 · rename_i h1;simp[h1]
 · split
   · rename_i h2;simp[h2]
   · rfl
theorem fN{O:Nat→Option Nat}{h d c t:Nat}(ho:O c=some t)(h1:t≠h)(h2:t≠d):rV O h d c=some t:=by
 simp only[rV,ho];rw[if_neg (by simpa using h1),if_neg (by simpa using h2)]
theorem nq{O:Nat→Option Nat}{h d:Nat}{p:Nat→Prop}(ho: ∀c t,O c=some t→p c): ∀c t,rV O h d c=some t→p c:=fun c t hc=>by
 simp only[rV] at hc;split at hc
 · rename_i h1;exact ho c _ h1
 · split at hc
   · rename_i h1;exact ho c _ h1
   · exact ho c t hc
theorem dZ.lB(hT:bD P T){h e:Nat}{te:TI}{l m:List D}(hd:o.dst=some d)(hdn:d<n)(hx:Me T σ o.op=some (h,e,te,l,m))(hne:h≠d)(hz:l6 te=true)(hlen:(l.length+m.length)*te.bytes≤140737488355328)(h63:l.length+m.length≤9223372036854775807):
  dZ P B F0 w0 n o σ ((d,.ow e (l++m))::(h,.junk)::σ.kill d):=by
 intro a w hR K Q hK;obtain ⟨O,hOr,hO⟩:=hR.own;have hI:Inv P B F0 w0 (fun _=>True) σ.get σ.get a w O:=⟨hR.below,hR.base,hR.f0,hOr,fun t _ av h=>hO t av h,fun t av h _=>hO t av h⟩;obtain ⟨dst,op,ty,pos,after,guard⟩:=o;simp only[] at hd hx;subst hd;cases op<;>simp only[Me] at hx<;>try (cases hx;done)
 rename_i c;obtain ⟨callee,args,ats⟩:=c;simp only[] at hx;split at hx<;>try (cases hx;done)
 split at hx<;>try (cases hx;done)
 rename_i x y t u hxy htu;split at hx<;>try (cases hx;done)
 rename_i ti h' s m' hti hxe hys;split at hx<;>try (cases hx;done)
 rename_i e' l' hh;split at hx<;>try (cases hx;done)
 rename_i te' hk htu' hee hte;split at hx<;>simp at hx;rename_i hs;obtain ⟨rfl,rfl,rfl,rfl,rfl⟩:=hx;have htu':=Nat.eq_of_beq_eq_true htu';subst htu';have hee:=Nat.eq_of_beq_eq_true hee;subst hee;have hs:=Nat.eq_of_beq_eq_true hs;subst hs;have hargs:args= #[x,y]:=by apply Array.ext';simpa using hxy
 have hats:ats= #[t,t]:=by apply Array.ext';simpa using htu
 subst hargs;subst hats;obtain ⟨info,dd,z,hok⟩:=hT t ti hti;obtain ⟨info',dd',z',hok'⟩:=hT _ te' hte;have hun:=(hok.jy hk).1;have hzp:=(xT hok' hz).2.2;have hsz:info'.size=te'.size:=hok'.size;have hxv:=(a6 hI (fun _ _=>trivial) hxe 0).1 _ hh rfl;obtain ⟨vh,hvh,hhr⟩:=hO h' _ hh;simp only[hvh] at hxv;simp at hxv;have hev:a.eval x=vh:=hxv.symm;cases hye:ex T σ.get t y with
 | none=>rw[hye] at hys;simp[xv] at hys
 | some avy =>
   rw[hye] at hys;have hyr:=(a6 hI (fun _ _=>trivial) hye 0).1;obtain ⟨ad,cap',hyv,jG,hall⟩:=lF hT hI hyr hys
   have hsrc:(m'=[]∧True)∨(0<m'.length∧ ∃(b:Addr) (news:List Value),ad=some b∧news.length=m'.length*te'.size∧(∀x,x∈m'→x.flat.length=te'.size) ∧
    (∀(j:Nat) (u:Value),news[j]?=some u→w.cell? (b.add j)=some u)∧mF w (aP O (FW B F0 w)) (flatAll m') news):=by
    rcases hall with hnil | ⟨b,news,h1,h2,h3,h4,h5⟩
    · exact .inl ⟨hnil,trivial⟩
    · by_cases h0:m'.length=0
      · exact .inl ⟨List.eq_nil_of_length_eq_zero h0,trivial⟩
      · exact .inr ⟨by omega,b,news,h1,by rw[h2,aR h3],h3,h4,h5⟩
   have hh': ∃y,σ.get h'=some y:=⟨_,hh⟩
   have exec: ∀{v':Value} {w':World},(Builtin.append_ #[t,t] ty #[vh,a.eval y]).run P w= .ok v' w'→(execOp a.eval {dst:=some d,op:= .call {callee:= .builtin .append,args:= #[x,y],argTypes:= #[t,t]},type:=ty,pos:=pos,after:=after,guard:=guard}).run P w= .ok (.value v') w':=fun h=>by
    simp[execOp,resolve,invoke,builtin,hev,h]
   have fresh: ∀{news:List Value} {cells:Array Value} {cap2:Nat},(∀x,x∈l'++m'→x.flat.length=te'.size)→mF w (aP O (FW B F0 w)) (flatAll (l'++m')) news→cells.size=cap2*te'.size→(∀(j:Nat) (u:Value),news[j]?=some u→cells[j]?=some u)→l'.length+m'.length≤cap2→cap2≤maxLen →
     (Builtin.append_ #[t,t] ty #[vh,a.eval y]).run P w= .ok (.slice (some ⟨w.heap.size,0,none⟩) (l'.length+m'.length) cap2) (w.drew.alloc (.cells cells ti.elem))→Oper.wp P {dst:=some d,op:= .call {callee:= .builtin .append,args:= #[x,y],argTypes:= #[t,t]},type:=ty,pos:=pos,after:=after,guard:=guard} a w K Q:=by
    intro news cells cap2 hu hrd hsize hpre hc1 hc2 hrun;have hheap:(w.drew.alloc (.cells cells ti.elem)).heap=(w.alloc (.cells cells ti.elem)).heap:=rfl;refine bg (exec hrun) (hK _ _ (hR.consume (O':=j6 O w.heap.size d) hO hdn hne hh' rfl (.of ⟨rfl,rfl,rfl,by rw[hheap];simp,fun k hk=>by rw[hheap];exact heap_alloc_old w _ k hk⟩ hR.base) (fun b t hb=>?_) (fun c hc=>?_) (fun c t hc h1 h2=>?_) ?_))
    · unfold j7;rw[hheap];simp only[j6] at hb;split at hb
      · rename_i h;subst h;exact⟨.inl hR.base,by simp⟩
      · have:=hOr b t hb;exact⟨this.1,by have:=this.2;simp;omega⟩
    · have:=FW.step hR.f0 hR.base (w':=w.drew.alloc (.cells cells ti.elem)) (by rw[hheap];simp) c hc.2;exact⟨⟨by simp[j6,Nat.ne_of_lt this.1,hc.1],this.2⟩,by rw[hheap];exact heap_alloc_old w _ c this.1⟩
    · have:=(hOr c t hc).2;exact⟨by simp[j6,Nat.ne_of_lt this,hc],by rw[hheap];exact heap_alloc_old w _ c this⟩
    · have:=oE (X:=w0.X) (tm:=fun h=>a.tmps[h]?) (hm:=σ.get) (F:=FW B F0 (w.drew.alloc (.cells cells ti.elem))) (O:=j6 O w.heap.size d) (l:=l'++m') hok' (news:=news) (cap:=cap2) (b:=w.heap.size) (cs:=cells) (t:=d) (by simp[j6]) (by rw[hheap];exact heap_alloc_new w _) (by simpa using hc1) hc2 hsize hu ?_ hpre
      · simpa using this
      · refine hrd.mono (fun b hb=>?_) (fun b hb=>?_)
        · have:=FW.step hR.f0 hR.base (w':=w.drew.alloc (.cells cells ti.elem)) (by rw[hheap];simp) b hb.2;exact⟨by simp[j6,Nat.ne_of_lt this.1,hb.1],this.2⟩
        · rw[hheap];exact heap_alloc_old w _ b (FW.step hR.f0 hR.base (Nat.le_refl _) b hb.2).1
   rcases hhr with ⟨base,rfl,rfl⟩ | ⟨b,cap,cs,rfl,h2,h3,h4,h5,h6,h7,h8⟩
   · rcases hsrc with ⟨rfl,_⟩ | ⟨hpos,b,news,rfl,g1,g2,g3,g4⟩
     · simp only[List.length_nil] at hyv;have hrun:=eF (w:=w) (ty:=ty) hun hok'.hinfo base ad cap';rw[← hyv] at hrun;exact bg (exec hrun) (hK _ _ (hR.consume (O':=O) hO hdn hne hh' rfl (.refl _ _ _) hOr (fun c hc=>⟨hc,rfl⟩) (fun c t hc _ _=>⟨hc,rfl⟩) (.inl ⟨base,rfl,rfl⟩)))
     · have hmx':(m'.length:Int)≤9223372036854775807:=by simp[maxLen] at jG;omega
       have hrun:=jK (P:=P) (w:=w) t ty ti.elem info' z' hun hok'.hinfo hok'.zero base b m'.length cap' news (by rw[g1,hsz]) g3 hpos hmx' (by rw[hok'.bytes];simp at hlen;omega);have hge:=grownCap_ge w m'.length 0 ti.elem;have hle:=grownCap_le_maxLen w m'.length 0 ti.elem jG;rw[← hyv] at hrun;refine fresh (news:=news) (cap2:=grownCap w m'.length 0 ti.elem) (by simpa using g2) (by simpa using g4) ?_ ?_ (by simpa using hge) hle (by simpa using hrun)
       · simp only[Array.size_append,List.size_toArray,size_zeroCells,hok'.zsize,g1];rw[← Nat.add_mul]
         congr 1
         omega
       · intro j u hj;have hjl:=(List.getElem?_eq_some_iff.1 hj).1;rw[Array.getElem?_append_left (by simpa using hjl)];simpa using hj
   · have hcel:P.cellsOf ti.elem=te'.size:=hok'.cellsOf;rw[hcel] at h6 h7;obtain ⟨olds,p1,p2,p3⟩:=p7 (off:=0) (w:=w) h3 (fun i d hd=>by obtain ⟨f1,u,f2,f3⟩:=h8 i d hd;exact⟨f1,u,by simpa using f2,f3⟩);have holds:olds.length=l'.length*te'.size:=by rw[p1,aR h7]
     have hcsget: ∀(j:Nat) (u:Value),olds[j]?=some u→cs[j]?=some u:=fun j u hj=>by
      have:=p2 j u hj;rw[Addr.add_lit] at this;simpa[World.cell?,h3] using this
     rcases hsrc with ⟨rfl,_⟩ | ⟨hpos,sb,news,rfl,g1,g2,g3,g4⟩
     · simp only[List.length_nil] at hyv;have hrun:=tU (w:=w) (ty:=ty) hun hok'.hinfo (some ⟨b,0,none⟩) ad l'.length cap cap' h4;rw[← hyv] at hrun;refine bg (exec hrun) (hK _ _ (hR.consume (O':=rV O h' d) hO hdn hne hh' rfl (.refl _ _ _) (nq hOr) (fun c hc=>⟨⟨ff.2 hc.1,hc.2⟩,rfl⟩) (fun c t hc h1 h2=>⟨fN hc h1 h2,rfl⟩) ?_));refine .inr ⟨b,cap,cs,by simp,by simp[rV,h2],h3,by simpa using h4,h5,by rw[hcel];exact h6,fun x hx=>by rw[hcel];exact h7 x (by simpa using hx),fun i dd hdd=>?_⟩;obtain ⟨f1,u,f2,f3⟩:=h8 i dd (by simpa using hdd);exact⟨f1,u,f2,f3.mono (fun c hc=>⟨ff.2 hc.1,hc.2⟩) (fun _ _=>rfl)⟩
     · have hu12: ∀x,x∈l'++m'→x.flat.length=te'.size:=fun x hx=>by
        rcases List.mem_append.1 hx with h | h
        · exact h7 x h
        · exact g2 x h
       have hrd12:mF w (aP O (FW B F0 w)) (flatAll (l'++m')) (olds++news):=by
        rw[b9];refine⟨by simp[p1,g4.1],fun j y u hy hu=>?_⟩;rw[List.getElem?_append] at hy hu;rw[← p1] at hy;split at hy
        · rename_i hj;rw[if_pos hj] at hu;exact p3.2 j y u hy hu
        · rename_i hj;rw[if_neg hj] at hu;exact g4.2 _ y u hy hu
       by_cases hroom:l'.length+m'.length≤cap
       · have hfit:l'.length*info'.size+news.length≤cs.size:=by rw[g1,hsz,h6,← Nat.add_mul];exact Nat.mul_le_mul_right _ hroom
         have hrun:=run_append_room (P:=P) w t ty ti.elem info' hun hok'.hinfo b l'.length cap cs h3 sb m'.length cap' news (by rw[g1,hsz]) g3 g4.wT hroom hfit;rw[← hyv] at hrun;have hother: ∀c,c≠b→(w.setRow b (cs.toList.take (l'.length*info'.size)++news++cs.toList.drop (l'.length*info'.size+news.length)).toArray).heap[c]?=w.heap[c]?:=fun c hc=>setRow_other w b c _ hc;have hFW: ∀c,FW B F0 (w.setRow b (cs.toList.take (l'.length*info'.size)++news++cs.toList.drop (l'.length*info'.size+news.length)).toArray) c↔FW B F0 w c:=fun c=>by simp[FW]
         have hbB:=(hOr b h' h2)
         have hss:((cs.toList.take (l'.length*info'.size)++news++cs.toList.drop (l'.length*info'.size+news.length)).toArray).size=cs.size:=by
          simp only[List.size_toArray,List.length_append,List.length_take,List.length_drop,Array.length_toList];omega
         refine bg (exec hrun) (hK _ _ (hR.consume (O':=rV O h' d) hO hdn hne hh' rfl (.write h3 hss hbB.1) (fun c t hc=>⟨(nq hOr c t hc).1,by simpa using (nq hOr c t hc).2⟩) (fun c hc=>⟨⟨ff.2 hc.1,(hFW c).2 hc.2⟩,hother c (fun e=>by subst e;rw[aP,h2] at hc;cases hc.1)⟩) (fun c t hc h1 h2'=>⟨fN hc h1 h2',hother c (fun e=>by subst e;rw[h2] at hc;simp at hc;exact h1 hc.symm)⟩) ?_));have:=oE (X:=w0.X) (tm:=fun h=>a.tmps[h]?) (hm:=σ.get) (F:=FW B F0 (w.setRow b (cs.toList.take (l'.length*info'.size)++news++cs.toList.drop (l'.length*info'.size+news.length)).toArray)) (O:=rV O h' d) (l:=l'++m') hok' (news:=olds++news) (cap:=cap) (b:=b) (t:=d) (cs:=(cs.toList.take (l'.length*info'.size)++news++cs.toList.drop (l'.length*info'.size+news.length)).toArray) (by simp[rV,h2]) (setRow_heap w b cs _ ti.elem (0,0) h3) (by simpa using hroom) h5 ?_ hu12 ?_ ?_
         · simpa using this
         · simp only[List.size_toArray,List.length_append,List.length_take,List.length_drop,Array.length_toList];rw[h6] at hfit ⊢;omega
         · refine hrd12.mono (fun c hc=>⟨ff.2 hc.1,(hFW c).2 hc.2⟩) (fun c hc=>hother c (fun e=>by subst e;rw[aP,h2] at hc;cases hc.1))
         · intro j u hj;rw[List.getElem?_append] at hj;simp only[List.getElem?_toArray,List.append_assoc,List.getElem?_append,List.length_take,Array.length_toList,List.getElem?_take,Array.getElem?_toList];have hmin:min (l'.length*info'.size) cs.size=olds.length:=by rw[holds,hsz];rw[hsz] at hfit;omega
           rw[hmin];split at hj
           · rename_i hjl;rw[if_pos hjl,if_pos (by rw[hsz];omega)];exact hcsget j u hj
           · rename_i hjl;have hjn:=(List.getElem?_eq_some_iff.1 hj).1;rw[if_neg hjl,if_pos hjn];exact hj
       · have hbig:((l'.length+m'.length:Nat):Int)≤9223372036854775807:=by omega
         have hrun:=run_append_grow (P:=P) w t ty ti.elem info' z' hun hok'.hinfo hok'.zero ⟨b,0,none⟩ l'.length cap olds (by rw[holds,hsz]) p2 sb m'.length cap' news (by rw[g1,hsz]) g3 (by omega) hbig (growslice_fits (by omega) (by rw[hok'.bytes];exact hlen));rw[← hyv] at hrun;have hge:=grownCap_ge w (l'.length+m'.length) cap ti.elem;have hle:=grownCap_le_maxLen w (l'.length+m'.length) cap ti.elem (by simp[maxLen];omega);refine fresh (news:=olds++news) (cap2:=grownCap w (l'.length+m'.length) cap ti.elem) hu12 hrd12 ?_ ?_ hge hle hrun
         · simp only[Array.size_append,List.size_toArray,size_zeroCells,hok'.zsize,g1,holds];rw[← Nat.add_mul,← Nat.add_mul]
           congr 1
           omega
         · intro j u hj;have hjl:=(List.getElem?_eq_some_iff.1 hj).1;rw[Array.getElem?_append_left (by simpa using hjl)];simpa using hj
end
end Lift
namespace Lift
open Go
open Go.RowKit (Below)
section
variable {P:Program} {T:Ty} {B:Nat} {F0:Nat→Prop} {w0:cX} {n:Nat} {lk hm:Nat→Option AV} {o:Oper} {d:Nat} {σ:St}
theorem H8(size:Nat): ∀(vs:List Value) (k:Nat) (cs:Array Value),(∀v,v∈vs→v.cells.size=size)→cs.size=(k+vs.length)*size →
  Instr.fill (fun i=>some (i*size,size)) cs ((vs.zipIdx k).map fun x=>(x.2,x.1))=some ((cs.toList.take (k*size)++vs.flatMap fun v=>v.cells.toList).toArray)
 | [],k,cs,_,hs=>by
   have:cs.toList.take (k*size)=cs.toList:=List.take_of_length_le (by simp at hs ⊢; omega);simp[Instr.fill,this]
 | v::vs,k,cs,hv,hs=>by
   have h1:=hv v (by simp)
   have hle:k*size+size≤cs.size:=by
    rw[hs,List.length_cons,← Nat.succ_mul];exact Nat.mul_le_mul_right _ (by omega)
   obtain ⟨g1,g2⟩:=pY (k*size) v.cells.toList 0 cs;generalize hcs:((v.cells.toList.zipIdx 0).foldl (fun (cs:Array Value) (x:Value×Nat)=>cs.setIfInBounds (k*size+x.2) x.1) cs)=cs1 at g1 g2;have ih:=H8 size vs (k+1) cs1 (fun u hu=>hv u (by simp[hu])) (by rw[g1,hs];simp only[List.length_cons];congr 1;omega);simp only[List.zipIdx_cons,List.map_cons,Instr.fill];rw[if_neg (by simp;omega)]
   have hfold:v.cells.zipIdx.foldl (fun (cs:Array Value) (x:Value×Nat)=>match x with | (c,j)=>cs.setIfInBounds (k*size+j) c) cs=cs1:=by
    rw[← hcs,← Array.foldl_toList];simp
   rw[hfold,ih]
   congr 2
   simp only[List.flatMap_cons];rw[← List.append_assoc]
   congr 1
   apply List.ext_getElem?;intro j;simp only[List.getElem?_take,List.getElem?_append,List.length_take,Array.length_toList,Array.getElem?_toList,g2];have hmin:min (k*size) cs.size=k*size:=by omega
   rw[hmin,Nat.succ_mul];by_cases hj:j<k*size
   · rw[if_pos (by omega),if_neg (by omega),if_pos hj,if_pos hj]
   · by_cases hj2:j<k*size+size
     · rw[if_pos hj2,if_pos ⟨by omega,by simp;omega,by omega⟩,if_neg hj];simp
     · rw[if_neg hj2,if_neg hj];have:v.cells[j-k*size]?=none:=by simp;omega
       rw[this]
def wC(T:Ty)(lk:Nat→Option AV)(ty size:Nat):Nat→List (Nat×Operand)→Option (List D)
 | _,[]=>some []
 | k,(i,x)::r=>match Nat.beq i k,dC T (ex T lk ty x),wC T lk ty size (k+1) r with
   | true,some d,some ds=>match vX d,Nat.beq d.flat.length size with
     | true,true=>some (d::ds)
     | _,_=>none
   | _,_,_=>none
def L8(T:Ty)(lk:Nat→Option AV):Op→Option (Nat×List D)
 | .buildSlice t m parts=>match T.get t with
   | some ti=>match Nat.beq ti.kind 4,T.get ti.elem with
     | true,some te=>match wC T lk ti.elem te.size 0 parts.toList,Nat.beq parts.toList.length m,Nat.ble (m*te.size) 16777216 with
       | some ds,true,true=>match Nat.ble 1 te.size,Nat.ble 1 m with
         | true,true=>some (ti.elem,ds)
         | _,_=>none
       | _,_,_=>none
     | _,_=>none
   | none=>none
 | _=>none
theorem pZ(hT:bD P T){R:Nat→Prop}{a:Act}{w:World}{O:Nat→Option Nat}(hI:Inv P B F0 w0 R lk hm a w O){ty size:Nat}: ∀(l:List (Nat×Operand)) (k:Nat) (ds:List D),(∀p,p∈l→ ∀t,p.2= .tmp t→R t)→wC T lk ty size k l=some ds →
  (l.map fun (i,x)=>(i,a.eval x))=((l.map fun p=>a.eval p.2).zipIdx k).map (fun x=>(x.2,x.1))∧(l.map fun p=>a.eval p.2).length=ds.length∧(∀v,v∈l.map (fun p=>a.eval p.2)→v.cells.size=size)∧(∀x,x∈ds→x.flat.length=size) ∧
    mF w (aP O (FW B F0 w)) (flatAll ds) ((l.map fun p=>a.eval p.2).flatMap fun v=>v.cells.toList)
 | [],k,ds,_,h=>by simp[wC] at h;subst h;exact⟨rfl,rfl,fun v h=>by simp at h,fun x h=>by simp at h,rfl,fun i d u h=>by simp[flatAll] at h⟩
 | (i,x)::r,k,ds,hx,h=>by
   simp only[wC] at h;split at h<;>try (cases h;done)
   rename_i y ys hik h1 h2;split at h<;>simp at h;rename_i hnt hsz;subst h;have hik:=Nat.eq_of_beq_eq_true hik;subst hik;have hsz:=Nat.eq_of_beq_eq_true hsz;obtain ⟨e1,e2,e3,e4,e5⟩:=pZ hT hI r (i+1) ys (fun p hp=>hx p (by simp[hp])) h2;have hy:=dX hT hI (fun t ht=>hx (i,x) (by simp) t ht) h1;have hyc:=hy.cells (re hnt);have hcs:(a.eval x).cells.size=size:=by have:=hyc.1;simp at this;omega
   refine⟨by simp only[List.map_cons,List.zipIdx_cons];rw[e1],by simp at e2 ⊢; exact e2,fun v hv=>?_,fun z hz=>?_,?_⟩
   · simp only[List.map_cons,List.mem_cons] at hv;rcases hv with rfl | hv
     · exact hcs
     · exact e3 v hv
   · simp only[List.mem_cons] at hz;rcases hz with rfl | hz
     · exact hsz
     · exact e4 z hz
   · simp only[flatAll,List.flatMap_cons,List.map_cons] at e5 ⊢;refine⟨by simp only[List.length_append];rw[hyc.1,e5.1],fun j d u hd hu=>?_⟩;rw[List.getElem?_append] at hd hu;rw[hyc.1] at hu;split at hd
     · rename_i hj;rw[if_pos hj] at hu;exact hyc.2 j d u hd hu
     · rename_i hj;rw[if_neg hj] at hu;exact e5.2 _ d u hd hu
theorem aN.bs(hT:bD P T){e:Nat}{ds:List D}(hd:o.dst=some d)(hn:hm d=none)(hx:L8 T lk o.op=some (e,ds)):aN P B F0 w0 d o lk hm (.ow e ds):=by
 refine⟨hd,hn,fun a w O hI K Q hK=>?_⟩;obtain ⟨dst,op,ty,pos,after,guard⟩:=o;simp only[] at hd hx hI;cases op<;>simp only[L8] at hx<;>try (cases hx;done)
 rename_i t m parts;split at hx<;>try (cases hx;done)
 rename_i ti hti;split at hx<;>try (cases hx;done)
 rename_i te hk hte;split at hx<;>try (cases hx;done)
 rename_i ds' hds hm' hle;split at hx<;>simp at hx;rename_i hs1 hm1;obtain ⟨rfl,rfl⟩:=hx;have hs1:=Nat.le_of_ble_eq_true hs1;have hm1:=Nat.le_of_ble_eq_true hm1;have h0:m*te.size≠0:=Nat.mul_ne_zero (by omega) (by omega);have hm':=Nat.eq_of_beq_eq_true hm';have hle:=Nat.le_of_ble_eq_true hle;obtain ⟨info,dd,z,hok⟩:=hT t ti hti;obtain ⟨info',dd',z',hok'⟩:=hT _ te hte;have hsz:info'.size=te.size:=hok'.size
 obtain ⟨e1,e2,e3,e4,e5⟩:=pZ hT hI parts.toList 0 ds' (fun p hp t ht=>by
   simp only[Op.operands];have:p.2∈parts.toList.map (·.2):=List.mem_map.2 ⟨p,hp,rfl⟩;rw[ht] at this
   simpa using this) hds
 generalize hvs:(parts.toList.map fun p=>a.eval p.2)=vs at e1 e2 e3 e5;have hlm:vs.length=m:=by rw[← hvs];simpa using hm'
 have hdl:ds'.length=m:=by rw[← e2];exact hlm
 have key: ∃cells:Array Value,cells.size=m*te.size∧cells.toList=vs.flatMap (fun v=>v.cells.toList)∧(Instr.buildSlice t m (parts.map fun (i,x)=>(i,a.eval x))).run P w= .ok (.slice (some ⟨w.heap.size,0,none⟩) m m) (w.alloc (.cells cells ti.elem)):=by
  have hflen:(vs.flatMap fun v=>v.cells.toList).length=m*te.size:=by rw[e5.1,aR e4,hdl]
  have hnle: ¬(16777216<m*te.size):=by omega
  have hzs:z'.cells.size=te.size:=hok'.zsize;have hf:=H8 te.size vs 0 ((Array.range (m*te.size)).map (z'.cells[· %te.size]!)) e3 (by simp[hlm]);refine⟨(vs.flatMap fun v=>v.cells.toList).toArray,by simpa using hflen,by simp,?_⟩;have hpl:(parts.map fun (i,x)=>(i,a.eval x)).toList=(vs.zipIdx 0).map fun x=>(x.2,x.1):=by rw[← e1];simp
  simp only[Nat.zero_mul,List.take_zero,List.nil_append] at hf;simp only[Instr.buildSlice,Sem.run_bind,run_underlying (hok.jy hk).1,Result.andThen_ok,Go.sizeOf,typeInfo,run_program,hok'.hinfo,Sem.run_pure,hsz,Nat.reducePow,gt_iff_lt,hnle,if_false,h0,zeroValue,hok'.zero,hzs,hpl,hf];simp[newRow]
 obtain ⟨cells,c1,c2,hrun⟩:=key;refine bg (v:= .slice (some ⟨w.heap.size,0,none⟩) m m) (w':=w.alloc (.cells cells ti.elem)) (by simp only[execOp,Sem.run_bind,hrun,Result.andThen_ok,Sem.run_pure]) (hK _ _ _ (du.alloc hI.lt d _) ?_);have:=oE (X:=w0.X) (tm:=fun h=>a.tmps[h]?) (hm:=hm) (F:=FW B F0 (w.alloc (.cells cells ti.elem))) (O:=j6 O w.heap.size d) (l:=ds') hok' (news:=vs.flatMap fun v=>v.cells.toList) (cap:=m) (b:=w.heap.size) (t:=d) (cs:=cells) (by simp[j6]) (heap_alloc_new w _) (by omega) (by have:=Nat.le_mul_of_pos_right m hs1;simp only[maxLen];omega) c1 e4 ?_ (fun j u hj=>by rw[← c2] at hj;simpa using hj)
 · rw[hdl] at this;exact this
 · refine e5.mono (fun b hb=>?_) (fun b hb=>?_)
   · have:=FW.step hI.f0 hI.base (w':=w.alloc (.cells cells ti.elem)) (by simp) b hb.2;exact⟨by simp[j6,Nat.ne_of_lt this.1,hb.1],this.2⟩
   · exact heap_alloc_old w _ b (FW.step hI.f0 hI.base (Nat.le_refl _) b hb.2).1
theorem aN.mX(hT:bD P T){e:Nat}{te0:TI}{ds:List D}(hte0:T.get e=some te0)(hd:o.dst=some d)(hn:hm d=none)(hx:L8 T lk o.op=some (e,ds)):aN P B F0 w0 d o lk hm (.d (.sl te0.size ds)):=by
 refine⟨hd,hn,fun a w O hI K Q hK=>?_⟩;obtain ⟨dst,op,ty,pos,after,guard⟩:=o;simp only[] at hd hx hI;cases op<;>simp only[L8] at hx<;>try (cases hx;done)
 rename_i t m parts;split at hx<;>try (cases hx;done)
 rename_i ti hti;split at hx<;>try (cases hx;done)
 rename_i te hk hte;split at hx<;>try (cases hx;done)
 rename_i ds' hds hm' hle;split at hx<;>simp at hx;rename_i hs1 hm1;obtain ⟨rfl,rfl⟩:=hx;rw[hte] at hte0;obtain rfl:te=te0:=by simpa using hte0
 have hs1:=Nat.le_of_ble_eq_true hs1;have hm1:=Nat.le_of_ble_eq_true hm1;have h0:m*te.size≠0:=Nat.mul_ne_zero (by omega) (by omega);have hm':=Nat.eq_of_beq_eq_true hm';have hle:=Nat.le_of_ble_eq_true hle;obtain ⟨info,dd,z,hok⟩:=hT t ti hti;obtain ⟨info',dd',z',hok'⟩:=hT _ te hte;have hsz:info'.size=te.size:=hok'.size
 obtain ⟨e1,e2,e3,e4,e5⟩:=pZ hT hI parts.toList 0 ds' (fun p hp t ht=>by
   simp only[Op.operands];have:p.2∈parts.toList.map (·.2):=List.mem_map.2 ⟨p,hp,rfl⟩;rw[ht] at this
   simpa using this) hds
 generalize hvs:(parts.toList.map fun p=>a.eval p.2)=vs at e1 e2 e3 e5;have hlm:vs.length=m:=by rw[← hvs];simpa using hm'
 have hdl:ds'.length=m:=by rw[← e2];exact hlm
 have key: ∃cells:Array Value,cells.size=m*te.size∧cells.toList=vs.flatMap (fun v=>v.cells.toList)∧(Instr.buildSlice t m (parts.map fun (i,x)=>(i,a.eval x))).run P w= .ok (.slice (some ⟨w.heap.size,0,none⟩) m m) (w.alloc (.cells cells ti.elem)):=by
  have hflen:(vs.flatMap fun v=>v.cells.toList).length=m*te.size:=by rw[e5.1,aR e4,hdl]
  have hnle: ¬(16777216<m*te.size):=by omega
  have hzs:z'.cells.size=te.size:=hok'.zsize;have hf:=H8 te.size vs 0 ((Array.range (m*te.size)).map (z'.cells[· %te.size]!)) e3 (by simp[hlm]);refine⟨(vs.flatMap fun v=>v.cells.toList).toArray,by simpa using hflen,by simp,?_⟩;have hpl:(parts.map fun (i,x)=>(i,a.eval x)).toList=(vs.zipIdx 0).map fun x=>(x.2,x.1):=by rw[← e1];simp
  simp only[Nat.zero_mul,List.take_zero,List.nil_append] at hf;simp only[Instr.buildSlice,Sem.run_bind,run_underlying (hok.jy hk).1,Result.andThen_ok,Go.sizeOf,typeInfo,run_program,hok'.hinfo,Sem.run_pure,hsz,Nat.reducePow,gt_iff_lt,hnle,if_false,h0,zeroValue,hok'.zero,hzs,hpl,hf];simp[newRow]
 obtain ⟨cells,c1,c2,hrun⟩:=key;refine bg (v:= .slice (some ⟨w.heap.size,0,none⟩) m m) (w':=w.alloc (.cells cells ti.elem)) (by simp only[execOp,Sem.run_bind,hrun,Result.andThen_ok,Sem.run_pure]) (hK _ _ _ (du.IT hI.lt d _) ?_);have hmono:=e5.mono (F':=aP O (FW B F0 (w.alloc (.cells cells ti.elem)))) (w':=w.alloc (.cells cells ti.elem)) (fun b hb=>⟨hb.1,(FW.step hI.f0 hI.base (by simp) b hb.2).2⟩) (fun b hb=>heap_alloc_old w _ b (FW.step hI.f0 hI.base (Nat.le_refl _) b hb.2).1)
 have key:=Rd.mK (F:=aP O (FW B F0 (w.alloc (.cells cells ti.elem)))) (s:=te.size) (l:=ds') (off:=0) (cap:=m) (b:=w.heap.size) ⟨?_,.inr ⟨hI.base,by simp⟩⟩ (heap_alloc_new w _) (by omega) (by have:=Nat.le_mul_of_pos_right m hs1;simp only[maxLen];omega) e4 (fun j dj hj=>by
  obtain ⟨g1,u,g2,g3⟩:=hmono.get hj;refine⟨g1,u,?_,g3⟩;rw[← c2] at g2
  simpa using g2)
 · rw[hdl] at key;exact key
 · cases hOn:O w.heap.size with
   | none=>rfl
   | some t=>exact absurd (hI.lt _ t hOn) (Nat.lt_irrefl _)
def Kk(T:Ty)(lk:Nat→Option AV):Op→Option (Bool×IntKind×Int×Int)
 | .binOp op _ x y _=>match kH (dC T (ex T lk 0 x)),kH (dC T (ex T lk 0 y)) with
   | some (.int k a),some (.int j b)=>match Bi k j with
     | true=>match op with
       | .quo=>some (true,k,a,b)
       | .rem=>some (false,k,a,b)
       | _=>none
     | false=>none
   | _,_=>none
 | _=>none
def mW(q:Bool)(k:IntKind)(a b:Int):Value:=match q with
 | true=> .int k (k.wrap (a.tdiv b))
 | false=> .int k (a.tmod b)
theorem aN.div(hT:bD P T){q:Bool}{k:IntKind}{x y:Int}(hd:o.dst=some d)(hn:hm d=none)(hx:Kk T lk o.op=some (q,k,x,y))(h0:y≠0):aN P B F0 w0 d o lk hm (.d (.v (mW q k x y))):=by
 refine⟨hd,hn,fun a w O hI K Q hK=>?_⟩;obtain ⟨dst,op,ty,pos,after,guard⟩:=o;simp only[] at hd hx hI;cases op<;>simp only[Kk] at hx<;>try (cases hx;done)
 rename_i bop t u v ty2;split at hx<;>try (cases hx;done)
 rename_i k1 a1 k2 b1 hu hv;split at hx<;>try (cases hx;done)
 rename_i hk;have hk:=Bh hk;subst hk;have hu:=(cR hT hI (fun t ht=>by subst ht;simp[Op.operands]) hu).1;have hv:=(cR hT hI (fun t ht=>by subst ht;simp[Op.operands]) hv).1;have hg:(eqGuard bop t u v (a.eval u) (a.eval v)).run P w= .ok () w:=nV (.inl (by rw[hu];simp)) (by rw[hu];simp);split at hx<;>simp at hx
 · obtain ⟨rfl,rfl,rfl,rfl⟩:=hx;refine bg (v:=mW true k1 a1 b1) (w':=w) ?_ (hK _ w O (du.refl hI.lt) (.v rfl));simp only[execOp,Sem.run_bind,hg,Result.andThen_ok];rw[hu,hv];simp[Go.binOp,Op.intDiv,h0,mW]
 · obtain ⟨rfl,rfl,rfl,rfl⟩:=hx;refine bg (v:=mW false k1 a1 b1) (w':=w) ?_ (hK _ w O (du.refl hI.lt) (.v rfl));simp only[execOp,Sem.run_bind,hg,Result.andThen_ok];rw[hu,hv];simp[Go.binOp,Op.intDiv,h0,mW]
def jP:Value→Bool
 | .nilIface=>true
 | .iface _ _=>true
 | _=>false
def vY:Value→Bool
 | .nilIface=>true
 | _=>false
def DJ(T:Ty)(lk:Nat→Option AV):Op→Option (Bool×Value)
 | .binOp op t x (.const .nilIface) _=>match T.get t,kH (dC T (ex T lk 0 x)) with
   | some ti,some u=>match Nat.beq ti.kind 6 with
     | true=>match op with
       | .eql=>some (true,u)
       | .neq=>some (false,u)
       | _=>none
     | false=>none
   | _,_=>none
 | _=>none
theorem jS.M0{t:Nat}{i:TI}{info:TypeInfo}{d:TypeDesc}{z:Value}(h:jS P t i info d z)(hk:Nat.beq i.kind 6=true): ∃ms,P.underlying t=some (.interface ms):=by
 have hk:=Nat.eq_of_beq_eq_true hk;have hd:=h.desc;have hu:=h.und;cases d<;>simp[lA,hk] at hd;exact⟨_,hu⟩
theorem Ch{w:World}{t:TypeId}{ms:Array (String×TypeId)}(hi:P.underlying t=some (.interface ms))(k:Nat){u:Value}(h:jP u=true):(Op.equalIn (k+1) t u .nilIface).run P w= .ok (vY u) w:=by
 cases u<;>simp[jP] at h<;>simp[Op.equalIn,run_underlying hi,vY]
theorem yO{w:World}{t:TypeId}{ms:Array (String×TypeId)}(hi:P.underlying t=some (.interface ms)){u:Value}(h:jP u=true):(Op.equal t u .nilIface).run P w= .ok (vY u) w:=Ch hi 9999 h
theorem xP{w:World}{t:TypeId}{ms:Array (String×TypeId)}(hi:P.underlying t=some (.interface ms)){u:Value}(h:jP u=true):(Go.binOp .eql t u .nilIface).run P w= .ok (.bool (vY u)) w:=by
 have:Go.binOp .eql t u .nilIface=(do pure (.bool (← Op.equal t u .nilIface)):Sem Value):=by cases u<;>simp[jP] at h<;>rfl
 rw[this];simp only[Sem.run_bind,yO hi h,Result.andThen_ok,Sem.run_pure]
theorem xO{w:World}{t:TypeId}{ms:Array (String×TypeId)}(hi:P.underlying t=some (.interface ms)){u:Value}(h:jP u=true):(Go.binOp .neq t u .nilIface).run P w= .ok (.bool (!(vY u))) w:=by
 have:Go.binOp .neq t u .nilIface=(do pure (.bool (!(← Op.equal t u .nilIface))):Sem Value):=by cases u<;>simp[jP] at h<;>rfl
 rw[this];simp only[Sem.run_bind,yO hi h,Result.andThen_ok,Sem.run_pure]
theorem aN.err(hT:bD P T){q:Bool}{u:Value}(hd:o.dst=some d)(hn:hm d=none)(hx:DJ T lk o.op=some (q,u))(hi:jP u=true):aN P B F0 w0 d o lk hm (.d (.v (.bool (vY u==q)))):=by
 refine⟨hd,hn,fun a w O hI K Q hK=>?_⟩;obtain ⟨dst,op,ty,pos,after,guard⟩:=o;simp only[] at hd hx hI;cases op<;>try (simp only[DJ] at hx;cases hx;done)
 rename_i bop t x y ty2;cases y<;>try (simp only[DJ] at hx;cases hx;done)
 rename_i c;cases c<;>simp only[DJ] at hx<;>try (cases hx;done)
 split at hx<;>try (cases hx;done)
 rename_i ti u' hti hu;split at hx<;>try (cases hx;done)
 rename_i hk;obtain ⟨info,dd,z,hok⟩:=hT t ti hti;obtain ⟨ms,hms⟩:=hok.M0 hk;have hu:=(cR hT hI (fun t ht=>by subst ht;simp[Op.operands]) hu).1
 have hg: ∀bop,(eqGuard bop t x (.const .nilIface) (a.eval x) .nilIface).run P w= .ok () w:=fun bop=>by
  rw[hu];unfold eqGuard;cases bop<;>simp<;>(cases u'<;>simp_all [jP])
 split at hx<;>simp at hx
 · obtain ⟨rfl,rfl⟩:=hx;refine bg (v:= .bool (vY u'==true)) (w':=w) ?_ (hK _ w O (du.refl hI.lt) (.v rfl));simp only[execOp,eval_const,Sem.run_bind,hg,Result.andThen_ok];rw[hu,xP hms hi];simp
 · obtain ⟨rfl,rfl⟩:=hx;refine bg (v:= .bool (vY u'==false)) (w':=w) ?_ (hK _ w O (du.refl hI.lt) (.v rfl));simp only[execOp,eval_const,Sem.run_bind,hg,Result.andThen_ok];rw[hu,xO hms hi];simp
def Om(T:Ty)(lk:Nat→Option AV):Op→Option (Bool×Bool×Bool)
 | .binOp op t x y _=>match T.get t,kH (dC T (ex T lk 0 x)),kH (dC T (ex T lk 0 y)) with
   | some ti,some (.bool a),some (.bool b)=>match Nat.beq ti.kind 1 with
     | true=>match op with
       | .eql=>some (true,a,b)
       | .neq=>some (false,a,b)
       | _=>none
     | false=>none
   | _,_,_=>none
 | _=>none
theorem jS.M3{t:Nat}{i:TI}{info:TypeInfo}{d:TypeDesc}{z:Value}(h:jS P t i info d z)(hk:Nat.beq i.kind 1=true):P.underlying t=some .bool:=by
 have hk:=Nat.eq_of_beq_eq_true hk;have hd:=h.desc;have hu:=h.und;cases d<;>simp[lA,hk] at hd;exact hu
theorem Aq{w:World}{t:TypeId}(hi:P.underlying t=some .bool)(k:Nat){x y:Bool}:(Op.equalIn (k+1) t (.bool x) (.bool y)).run P w= .ok (x==y) w:=by
 simp[Op.equalIn,run_underlying hi]
theorem wA{w:World}{t:TypeId}(hi:P.underlying t=some .bool){x y:Bool}:(Op.equal t (.bool x) (.bool y)).run P w= .ok (x==y) w:=Aq hi 9999
theorem wZ{w:World}{t:TypeId}(hi:P.underlying t=some .bool){x y:Bool}:(Go.binOp .eql t (.bool x) (.bool y)).run P w= .ok (.bool (x==y)) w:=by
 have:Go.binOp .eql t (.bool x) (.bool y)=(do pure (.bool (← Op.equal t (.bool x) (.bool y))):Sem Value):=rfl;rw[this];simp only[Sem.run_bind,wA hi,Result.andThen_ok,Sem.run_pure]
theorem wY{w:World}{t:TypeId}(hi:P.underlying t=some .bool){x y:Bool}:(Go.binOp .neq t (.bool x) (.bool y)).run P w= .ok (.bool (!(x==y))) w:=by
 have:Go.binOp .neq t (.bool x) (.bool y)=(do pure (.bool (!(← Op.equal t (.bool x) (.bool y)))):Sem Value):=rfl;rw[this];simp only[Sem.run_bind,wA hi,Result.andThen_ok,Sem.run_pure]
theorem aN.be(hT:bD P T){q x y:Bool}(hd:o.dst=some d)(hn:hm d=none)(hx:Om T lk o.op=some (q,x,y)):aN P B F0 w0 d o lk hm (.d (.v (.bool ((x==y)==q)))):=by
 refine⟨hd,hn,fun a w O hI K Q hK=>?_⟩;obtain ⟨dst,op,ty,pos,after,guard⟩:=o;simp only[] at hd hx hI;cases op<;>simp only[Om] at hx<;>try (cases hx;done)
 rename_i bop t u v ty2;split at hx<;>try (cases hx;done)
 rename_i ti a1 b1 hti hu hv;split at hx<;>try (cases hx;done)
 rename_i hk;obtain ⟨info,dd,z,hok⟩:=hT t ti hti;have hb:=hok.M3 hk;have hu:=(cR hT hI (fun t ht=>by subst ht;simp[Op.operands]) hu).1;have hv:=(cR hT hI (fun t ht=>by subst ht;simp[Op.operands]) hv).1;have hg:(eqGuard bop t u v (a.eval u) (a.eval v)).run P w= .ok () w:=nV (.inl (by rw[hu];simp)) (by rw[hu];simp);split at hx<;>simp at hx
 · obtain ⟨rfl,rfl,rfl⟩:=hx;refine bg (v:= .bool ((a1==b1)==true)) (w':=w) ?_ (hK _ w O (du.refl hI.lt) (.v rfl));simp only[execOp,Sem.run_bind,hg,Result.andThen_ok];rw[hu,hv,wZ hb];simp
 · obtain ⟨rfl,rfl,rfl⟩:=hx;refine bg (v:= .bool ((a1==b1)==false)) (w':=w) ?_ (hK _ w O (du.refl hI.lt) (.v rfl));simp only[execOp,Sem.run_bind,hg,Result.andThen_ok];rw[hu,hv,wY hb];cases a1<;>cases b1<;>rfl
end
end Lift
namespace Lift
open Go
open Go.RowKit (Below)
section
variable {P:Program} {T:Ty} {B:Nat} {F0:Nat→Prop} {w0:cX} {n:Nat} {lk hm:Nat→Option AV} {o:Oper} {d:Nat} {σ:St}
theorem tF{s:Nat}: ∀{l:List D} {i:Nat} {new:D} (j:Nat),(∀x,x∈l→x.flat.length=s)→i<l.length→new.flat.length=s →
  (flatAll (l.set i new))[j]?=if i*s≤j∧j<i*s+s then new.flat[j-i*s]? else (flatAll l)[j]?
 | [],i,new,j,_,h,_=>by simp at h
 | x::l,0,new,j,hu,h,hn=>by
   have hx:=hu x (by simp);simp only[List.set_cons_zero,flatAll,List.flatMap_cons,Nat.zero_mul,Nat.zero_le,true_and,Nat.zero_add,Nat.sub_zero];rw[List.getElem?_append,List.getElem?_append,hn,hx];split<;>rfl
 | x::l,i+1,new,j,hu,h,hn=>by
   have hx:=hu x (by simp);have ih:=tF (l:=l) (i:=i) (new:=new) (j-s) (fun y hy=>hu y (by simp[hy])) (by simpa using h) hn;simp only[List.set_cons_succ,flatAll,List.flatMap_cons] at ih ⊢;rw[List.getElem?_append,List.getElem?_append,hx];by_cases hj:j<s
   · rw[if_pos hj,if_pos hj,if_neg (by rw[Nat.succ_mul];omega)]
   · rw[if_neg hj,if_neg hj,ih,Nat.succ_mul];by_cases hc:i*s≤j-s∧j-s<i*s+s
     · rw[if_pos hc,if_pos (by omega)]
       congr 1
       omega
     · rw[if_neg hc,if_neg (by omega)]
def nF(old y:D)(off:Nat):D:=match old with
 | .ag cs=> .ag (cs.take off++y.flat++cs.drop (off+y.flat.length))
 | .v _=>y
 | .sl _ _=>y
 | .tu _=>y
 | .pr _=>y
 | .fn _ _ _=>y
def xI(old y:D)(off:Nat):Bool:=match old with
 | .ag cs=>Nat.ble (off+y.flat.length) cs.length
 | .v _=>Nat.beq off 0&&y.bc
 | .sl _ _=>Nat.beq off 0&&y.bc
 | .tu _=>false
 | .pr _=>Nat.beq off 0&&y.bc
 | .fn _ _ _=>Nat.beq off 0&&y.bc
def Ep(T:Ty)(σ:St):Op→Option (Nat×AV×List D×Nat×Nat×D)
 | .store t p x=>match T.get t,ex T σ.get 0 p,dC T (ex T σ.get t x) with
   | some ti,some (.el h i off),some y=>match σ.get h with
     | some x=>match x.row with
       | some (_,l)=>match vX y,Nat.beq y.flat.length ti.size with
         | true,true=>some (h,x,l,i,off,y)
         | _,_=>none
       | none=>none
     | none=>none
   | _,_,_=>none
 | _=>none
def AV.dc(l:List D):AV→AV
 | .ow e _=> .ow e l
 | .wn q e _ lo m=> .wn q e l lo m
 | .d _=> .junk
 | .bx _=> .junk
 | .pt _ _=> .junk
 | .rf _=> .junk
 | .e0 _=> .junk
 | .al _=> .junk
 | .el _ _ _=> .junk
 | .sb _ _ _=> .junk
 | .un=> .junk
 | .junk=> .junk
theorem dQ{x:AV}{e:Nat}{l l':List D}(h:x.row=some (e,l)):(x.dc l').row=some (e,l')∧(x.dc l').home=true∧(x.dc l').tag=x.tag:=by
 cases x<;>simp_all [AV.row,AV.dc,AV.home,AV.tag]
theorem oA{X:Nat→Prop}{w w':World}{O:Nat→Option Nat}{F F':Nat→Prop}{hm hm':Nat→Option AV}{tm:Nat→Option Value}{t b o1 len cap:Nat}{x:AV}{e:Nat}{l l':List D}{cs cs':Array Value}
  (h:eQ P X w O F hm tm t x (.slice (some ⟨b,o1,none⟩) len cap)) (hrow:x.row=some (e,l)) (hb:w.heap[b]?=some (.cells cs e (0,0))) (hb':w'.heap[b]?=some (.cells cs' e (0,0))) (hs:cs'.size=cs.size) (hl:l'.length=l.length) (hl0:l≠[])
  (hu: ∀y,y∈l'→y.flat.length=P.cellsOf e) (hc: ∀(i:Nat) (d:D),(flatAll l')[i]?=some d→d.bc=true∧ ∃u,cs'[i]?=some u∧Rd w' (aP O F') d u):eQ P X w' O F' hm' tm t (x.dc l') (.slice (some ⟨b,o1,none⟩) len cap):=by
 cases x<;>simp[AV.row] at hrow
 · obtain ⟨rfl,rfl⟩:=hrow;rcases h with ⟨base,h1,h2⟩ | ⟨b',cap',cs2,h1,h2,h3,h4,h5,h6,h7,h8⟩
   · exact absurd h2 hl0
   · simp at h1;obtain ⟨⟨rfl,rfl⟩,rfl,rfl⟩:=h1;rw[hb] at h3;simp at h3;subst h3;exact .inr ⟨_,_,_,by rw[hl],h2,hb',by omega,h5,by omega,hu,hc⟩
 · obtain ⟨rfl,rfl⟩:=hrow;rcases h with ⟨hq,base,h1,h3,h4⟩ | ⟨b',o',cap',cs2,hq,h1,h0,h2,h3,h4,h5,h6,h7,h8⟩
   · exact absurd h3 hl0
   simp at h1;obtain ⟨⟨rfl,rfl⟩,rfl,rfl⟩:=h1;rw[hb] at h3;simp at h3;subst h3;exact .inr ⟨_,_,_,_,hq,rfl,by rw[hs];exact h0,h2,hb',by omega,h5,h6,hu,hc⟩
theorem Di{old y:D}{off:Nat}(h:xI old y off=true)(hnt:vX y=true): ∀(s:Nat),old.flat.length=s→(nF old y off).flat.length=s∧off+y.flat.length≤s ∧
  ∀j,(nF old y off).flat[j]?=if off≤j∧j<off+y.flat.length then y.flat[j-off]? else old.flat[j]?:=by
 intro s hs;cases old with
 | ag cs =>
   have hle:=Nat.le_of_ble_eq_true h;have e1:(nF (.ag cs) y off).flat=cs.take off++y.flat++cs.drop (off+y.flat.length):=rfl;have e2:(D.ag cs).flat=cs:=rfl;rw[e1,e2];rw[e2] at hs;generalize y.flat=yf at hle;refine⟨by simp only[List.length_append,List.length_take,List.length_drop];omega,by omega,fun j=>?_⟩;rw[List.append_assoc,List.getElem?_append,List.length_take,show min off cs.length=off by omega];by_cases hj:j<off
   · rw[if_pos hj,if_neg (by omega),List.getElem?_take,if_pos hj]
   · rw[if_neg hj,List.getElem?_append];by_cases hj2:j-off<yf.length
     · rw[if_pos hj2,if_pos (by omega)]
     · rw[if_neg hj2,if_neg (by omega),List.getElem?_drop]
       congr 1
       omega
 | v x =>
   simp only[xI,Bool.and_eq_true] at h;have h0:=Nat.eq_of_beq_eq_true h.1;subst h0;have hy:=D.lU h.2;have e1:(nF (D.v x) y 0).flat=[y]:=hy;have e2:(D.v x:D).flat=[D.v x]:=rfl;rw[e1,e2,hy];rw[e2] at hs;refine⟨by simpa using hs,by simp at hs ⊢; omega,fun j=>?_⟩;cases j with
   | zero=>simp
   | succ j=>simp
 | sl k l =>
   simp only[xI,Bool.and_eq_true] at h;have h0:=Nat.eq_of_beq_eq_true h.1;subst h0;have hy:=D.lU h.2;have e1:(nF (D.sl k l) y 0).flat=[y]:=hy;have e2:(D.sl k l:D).flat=[D.sl k l]:=rfl;rw[e1,e2,hy];rw[e2] at hs;refine⟨by simpa using hs,by simp at hs ⊢; omega,fun j=>?_⟩;cases j with
   | zero=>simp
   | succ j=>simp
 | tu l=>simp[xI] at h
 | pr l =>
   simp only[xI,Bool.and_eq_true] at h;have h0:=Nat.eq_of_beq_eq_true h.1;subst h0;have hy:=D.lU h.2;have e1:(nF (D.pr l) y 0).flat=[y]:=hy;have e2:(D.pr l:D).flat=[D.pr l]:=rfl;rw[e1,e2,hy];rw[e2] at hs;refine⟨by simpa using hs,by simp at hs ⊢; omega,fun j=>?_⟩;cases j with
   | zero=>simp
   | succ j=>simp
 | fn k x1 x2 =>
   simp only[xI,Bool.and_eq_true] at h;have h0:=Nat.eq_of_beq_eq_true h.1;subst h0;have hy:=D.lU h.2;have e1:(nF (D.fn k x1 x2) y 0).flat=[y]:=hy;have e2:(D.fn k x1 x2:D).flat=[D.fn k x1 x2]:=rfl;rw[e1,e2,hy];rw[e2] at hs;refine⟨by simpa using hs,by simp at hs ⊢; omega,fun j=>?_⟩;cases j with
   | zero=>simp
   | succ j=>simp
theorem dZ.kQ(hT:bD P T){h i off:Nat}{xh:AV}{l:List D}{y old:D}(hd:o.dst=none)(hx:Ep T σ o.op=some (h,xh,l,i,off,y))(hold:l[i]?=some old)(hok:xI old y off=true):
  dZ P B F0 w0 n o σ ((h,xh.dc (l.set i (nF old y off)))::σ):=by
 intro a w hR K Q hK;obtain ⟨O,hOr,hO⟩:=hR.own;have hI:Inv P B F0 w0 (fun _=>True) σ.get σ.get a w O:=⟨hR.below,hR.base,hR.f0,hOr,fun t _ av h=>hO t av h,fun t av h _=>hO t av h⟩;obtain ⟨dst,op,ty,pos,after,guard⟩:=o;simp only[] at hd hx;subst hd;cases op<;>simp only[Ep] at hx<;>try (cases hx;done)
 rename_i t p x;split at hx<;>try (cases hx;done)
 rename_i ti h' i' off' y' hti hp hxy;split at hx<;>try (cases hx;done)
 rename_i xx hh;split at hx<;>try (cases hx;done)
 rename_i e' l' hrow;split at hx<;>simp at hx;rename_i hnt hsz;obtain ⟨rfl,rfl,rfl,rfl,rfl,rfl⟩:=hx;have hsz:=Nat.eq_of_beq_eq_true hsz;obtain ⟨info,dd,z,hti'⟩:=hT t ti hti;have hpv:=(a6 hI (fun _ _=>trivial) hp 0).1;have hyv:=dX hT hI (fun _ _=>trivial) hxy;obtain ⟨b,cs,o1,len,cap,hpe,hth,hOb,hb,hu,hcc,hcell⟩:=Cj hI hh hrow hpv hold;have hyc:=hyv.cells (re hnt);have hvs:(a.eval x).cells.size=y'.flat.length:=by have:=hyc.1;simpa using this
 have hold':=hu old (List.mem_of_getElem? hold);obtain ⟨n1,n2,n3⟩:=Di hok hnt _ hold';have hil:i'<l'.length:=(List.getElem?_eq_some_iff.1 hold).1
 have hcsl:l'.length*P.cellsOf e'≤cs.size:=by
  rw[← aR hu];rcases Nat.eq_zero_or_pos (flatAll l').length with h0 | h0
  · omega
  · obtain ⟨_,u,f2,_⟩:=hcc ((flatAll l').length-1) _ (List.getElem?_eq_getElem (by omega));have:=(Array.getElem?_eq_some_iff.1 f2).1;omega
 have hfit:i'*P.cellsOf e'+off'+y'.flat.length≤cs.size:=by
  have:(i'+1)*P.cellsOf e'≤l'.length*P.cellsOf e':=Nat.mul_le_mul_right _ (by omega);rw[Nat.succ_mul] at this;omega
 have hrun:=mb hti' hb (v:=a.eval x) (off:=i'*P.cellsOf e'+off') (by omega) (by omega) hyc.wT;refine uZ (w':=w.setRow b (cs.toList.take (i'*P.cellsOf e'+off')++(a.eval x).cells.toList++cs.toList.drop (i'*P.cellsOf e'+off'+(a.eval x).cells.size)).toArray) ?_ ?_
 · simp[execOp,Instr.storeAt,Instr.sureAddr,hpe,hrun]
 · rw[vK]
   have hss:(cs.toList.take (i'*P.cellsOf e'+off')++(a.eval x).cells.toList++cs.toList.drop (i'*P.cellsOf e'+off'+(a.eval x).cells.size)).toArray.size=cs.size:=by
    simp only[List.size_toArray,List.length_append,List.length_take,List.length_drop,Array.length_toList,hvs];omega
   refine hK _ _ (Rel.write hb hss hR hOr hO hh hOb (.inr ⟨_,_,_,hrow,(dQ hrow).1,by simp,(dQ hrow).2.2.symm⟩) (fun v hv hr=>?_) (dQ hrow).2.1);rw[hth] at hv;simp at hv;subst hv;refine oA hr hrow hb (setRow_heap w b cs _ e' _ hb) ?_ (by simp) (fun h0=>by subst h0;simp at hil) (fun x hx=>?_) (fun j dd hj=>?_)
   · simp only[List.size_toArray,List.length_append,List.length_take,List.length_drop,Array.length_toList,hvs];omega
   · rcases List.mem_or_eq_of_mem_set hx with h | rfl
     · exact hu x h
     · exact n1
   · have hB: ∀c,aP O (FW B F0 w) c→(w.setRow b ((cs.toList.take (i'*P.cellsOf e'+off')++(a.eval x).cells.toList++cs.toList.drop (i'*P.cellsOf e'+off'+(a.eval x).cells.size)).toArray)).heap[c]?=w.heap[c]?:=fun c hc=>setRow_other w b c _ (fun e=>by rw[e,aP,hOb] at hc;cases hc.1);rw[tF j hu hil n1] at hj
     have hcget:((cs.toList.take (i'*P.cellsOf e'+off')++(a.eval x).cells.toList++cs.toList.drop (i'*P.cellsOf e'+off'+(a.eval x).cells.size)).toArray)[j]? =
       if i'*P.cellsOf e'+off'≤j∧j<i'*P.cellsOf e'+off'+y'.flat.length then (a.eval x).cells[j-(i'*P.cellsOf e'+off')]? else cs[j]?:=by
      simp only[List.getElem?_toArray,List.append_assoc,List.getElem?_append,List.length_take,Array.length_toList,List.getElem?_take,Array.getElem?_toList,List.getElem?_drop,hvs];rw[show min (i'*P.cellsOf e'+off') cs.size=i'*P.cellsOf e'+off' by omega];by_cases h1:j<i'*P.cellsOf e'+off'
      · rw[if_pos h1,if_pos h1,if_neg (by omega)]
      · rw[if_neg h1];by_cases h2:j-(i'*P.cellsOf e'+off')<y'.flat.length
        · rw[if_pos h2,if_pos (by omega)]
        · rw[if_neg h2,if_neg (by omega)]
          congr 1
          omega
     rw[hcget];by_cases hin:i'*P.cellsOf e'≤j∧j<i'*P.cellsOf e'+P.cellsOf e'
     · rw[if_pos hin,n3] at hj;by_cases hin2:off'≤j-i'*P.cellsOf e'∧j-i'*P.cellsOf e'<off'+y'.flat.length
       · rw[if_pos hin2] at hj;rw[if_pos (by omega)];obtain ⟨f1,u,f2,f3⟩:=hyc.get hj;refine⟨f1,u,?_,f3.mono (fun _ h=>h) hB⟩;rw[← f2];simp only[Array.getElem?_toList]
         congr 1
         omega
       · rw[if_neg hin2] at hj;rw[if_neg (by omega)];have:=cO (j-i'*P.cellsOf e') hu hold (by omega);rw[hj,show i'*P.cellsOf e'+(j-i'*P.cellsOf e')=j by omega] at this;obtain ⟨f1,u,f2,f3⟩:=hcc j dd this;exact⟨f1,u,f2,f3.mono (fun _ h=>h) hB⟩
     · rw[if_neg hin] at hj;rw[if_neg (by omega)];obtain ⟨f1,u,f2,f3⟩:=hcc j dd hj;exact⟨f1,u,f2,f3.mono (fun _ h=>h) hB⟩
def AV.jh(t:Nat)(x:D):AV→AV
 | .al h=>match Nat.beq h t with
   | true=> .d x
   | false=> .al h
 | .el h i o=>match Nat.beq h t with
   | true=> .junk
   | false=> .el h i o
 | .pt h o=> .pt h o
 | .d y=> .d y
 | .bx cs=> .bx cs
 | .rf cs=> .rf cs
 | .e0 e=> .e0 e
 | .ow e l=> .ow e l
 | .wn q e l lo m=> .wn q e l lo m
 | .sb h lo m=>match Nat.beq h t with
   | true=> .junk
   | false=> .sb h lo m
 | .un=> .un
 | .junk=> .junk
def St.jh(t:Nat)(x:D):St→St
 | []=>[]
 | (k,a)::r=>match Nat.beq k t with
   | true=>(k,.d x)::St.jh t x r
   | false=>(k,a.jh t x)::St.jh t x r
theorem ES(t:Nat)(x:D)(σ:St)(k:Nat):(σ.jh t x).get k=if k=t then (σ.get k).map (fun _=>AV.d x) else (σ.get k).map (AV.jh t x):=by
 induction σ with
 | nil=>simp[St.jh,St.get]
 | cons e r ih =>
   obtain ⟨m,a⟩:=e;simp only[St.jh];split
   · rename_i hb;have hb:=Nat.eq_of_beq_eq_true hb;subst hb;simp only[St.aM,ih];by_cases hk:m=k
     · subst hk;simp
     · simp[hk,Ne.symm hk]
   · rename_i hb;have hb:=Nat.ne_of_beq_eq_false hb;simp only[St.aM,ih];by_cases hk:m=k
     · subst hk;simp[hb]
     · simp[hk]
theorem Rel.Na{a:Act}{w:World}{t:Nat}{x0:AV}{dx:D}(hR:Rel P B F0 w0 n σ a w)(ht:σ.get t=some x0)(hrow:x0.row.isSome=true)
  (hdatG: ∀(O:Nat→Option Nat) (v:Value),(∀b t,O b=some t→j7 B w0 w b)→eQ P w0.X w O (FW B F0 w) σ.get (fun h=>a.tmps[h]?) t x0 v→Rd w (aP (fun c=>if O c=some t then none else O c) (FW B F0 w)) dx v):Rel P B F0 w0 n (σ.jh t dx) a w:=by
 obtain ⟨O,hOr,hO⟩:=hR.own
 let O':Nat→Option Nat:=fun c=>if O c=some t then none else O c
 have hfree: ∀c,aP O (FW B F0 w) c→aP O' (FW B F0 w) c:=fun c hc=>⟨by simp only[O'];rw[hc.1];simp,hc.2⟩;have hdat: ∀v,eQ P w0.X w O (FW B F0 w) σ.get (fun h=>a.tmps[h]?) t x0 v→Rd w (aP O' (FW B F0 w)) dx v:=fun v hv=>hdatG O v hOr hv;refine⟨hR.below,hR.base,hR.f0,hR.defers,hR.size,O',fun b k hk=>?_,fun k av hk=>?_⟩
 · simp only[O'] at hk;split at hk
   · cases hk
   · exact hOr b k hk
 rw[ES] at hk;split at hk
 · rename_i hkt;subst hkt;rw[ht] at hk;simp at hk;subst hk;obtain ⟨v,hv,hr⟩:=hO k _ ht;exact⟨v,hv,hdat v hr⟩
 · rename_i hkt;cases hs:σ.get k with
   | none=>simp[hs] at hk
   | some y =>
     simp only[hs,Option.map_some,Option.some.injEq] at hk;subst hk;obtain ⟨v,hv,hr⟩:=hO k y hs;refine⟨v,hv,?_⟩
     have hhm: ∀j x,x.home=true→St.get (σ.jh t dx) j=some x→σ.get j=some x:=fun j x hx hj=>by
      rw[ES] at hj;split at hj
      · cases hsj:σ.get j with
        | none=>simp[hsj] at hj
        | some z=>simp[hsj] at hj;subst hj;simp[AV.home] at hx
      · cases hsj:σ.get j with
        | none=>simp[hsj] at hj
        | some z =>
          simp only[hsj,Option.map_some,Option.some.injEq] at hj;subst hj;cases z<;>simp only[AV.jh] at hx ⊢ <;>(try rfl)<;>(split at hx<;>simp[AV.home] at hx)
     have hmv: ∀{y:AV},eQ P w0.X w O (FW B F0 w) σ.get (fun h=>a.tmps[h]?) k y v→eQ P w0.X w O' (FW B F0 w) (St.get (σ.jh t dx)) (fun h=>a.tmps[h]?) k y v:=fun {y} hr =>
      hr.move (fun c hc=>⟨hfree c hc,rfl⟩) (fun _ c hc=>⟨by simp only[O',hc];rw[if_neg (by simpa using hkt)],rfl⟩) (fun j _ x hx hj=>⟨hhm j x hx hj,rfl⟩)
     cases y with
     | al h =>
       simp only[AV.jh];split
       · rename_i hb;have hb:=Nat.eq_of_beq_eq_true hb;subst hb;obtain ⟨u,hu,hur⟩:=hO h _ ht;have:=hr _ ht hrow;simp only[hu] at this;simp at this;subst this;exact hdat _ hur
       · exact hmv hr
     | el h i off =>
       simp only[AV.jh];split
       · trivial
       · exact hmv hr
     | sb h i off =>
       simp only[AV.jh];split
       · trivial
       · exact hmv hr
     | _=>exact hmv hr
theorem yK{O:Nat→Option Nat}{F:Nat→Prop}{t:Nat}: ∀c,aP O F c→aP (fun c=>if O c=some t then none else O c) F c:=fun c hc=>⟨by simp only[];rw[hc.1];simp,hc.2⟩
theorem Rel.jh(hT:bD P T){a:Act}{w:World}{t e:Nat}{l:List D}{te:TI}(hR:Rel P B F0 w0 n σ a w)(ht:σ.get t=some (.ow e l))(he:T.get e=some te):Rel P B F0 w0 n (σ.jh t (.sl te.size l)) a w:=by
 obtain ⟨info,dd,z,hok⟩:=hT e te he;refine hR.Na ht rfl (fun O v hOr hv=>?_);rcases hv with ⟨base,rfl,rfl⟩ | ⟨b,cap,cs,rfl,h2,h3,h4,h5,h6,h7,h8⟩
 · exact .nil (Nat.zero_le _)
 · rw[hok.cellsOf] at h7;refine .mK (off:=0) ⟨by simp[h2],(hOr b t h2).fw hR.f0⟩ h3 h4 h5 h7 (fun i d hd=>?_);obtain ⟨f1,u,f2,f3⟩:=h8 i d hd;exact⟨f1,u,by simpa using f2,f3.mono yK (fun _ _=>rfl)⟩
theorem Rel.F8(hT:bD P T){a:Act}{w:World}{t e lo m:Nat}{q:Bool}{l:List D}{te:TI}(hR:Rel P B F0 w0 n σ a w)(ht:σ.get t=some (.wn q e l lo m))(he:T.get e=some te):Rel P B F0 w0 n (σ.jh t (.sl te.size ((l.drop lo).take m))) a w:=by
 obtain ⟨info,dd,z,hok⟩:=hT e te he;refine hR.Na ht rfl (fun O v hOr hv=>?_);rcases hv with ⟨_,base,rfl,rfl,rfl,rfl⟩ | ⟨b,o,cap,cs,_,rfl,⟨h1,_⟩,h2,h3,h4,h5,h6,h7,h8⟩
 · exact .nil (Nat.zero_le _)
 · rw[hok.cellsOf] at h1 h7;have hlen:((l.drop lo).take m).length=m:=by simp;omega
   have key:=Rd.mK (s:=te.size) (l:=(l.drop lo).take m) (off:=lo*te.size) (cap:=cap) (b:=b) (w:=w) (F:=aP (fun c=>if O c=some t then none else O c) (FW B F0 w)) ⟨by simp[h2],(hOr b t h2).fw hR.f0⟩ h3 (by omega) h6 (fun x hx=>h7 x (List.mem_of_mem_drop (List.mem_of_mem_take hx))) (fun i d hd=>by
    obtain ⟨f1,u,f2,f3⟩:=h8 _ d (jB h7 lo m i hd)
    exact⟨f1,u,f2,f3.mono yK (fun _ _=>rfl)⟩)
   rcases Nat.eq_zero_or_pos m with hm | hm
   · subst hm;simp only[List.take_zero];exact .nil h6
   · rcases h1 with h1 | h1
     · omega
     · rw[hlen] at key;subst h1;exact key
end
end Lift
namespace Lift
open Go
open Go.RowKit (Below)
section
variable {P:Program} {T:Ty} {B:Nat} {F0:Nat→Prop} {w0:cX} {n:Nat} {lk hm:Nat→Option AV} {o:Oper} {d:Nat} {σ:St}
variable {K:St→Prop} {Q:Exit→St→Prop} {all:Array Oper} {rest l:List Oper} {c:Code}
def aG(all:Array Oper)(σ:St)(o:Oper):Bool:=match o.guard with
 | none=>true
 | some (g,b)=>match jA all σ g with
   | some b'=>b'==b
   | none=>false
theorem ae.op{σ':St}(hg:aG all σ o=true)(ho:dZ P B F0 w0 n o σ σ')(h:ae P B F0 w0 n all rest K σ'):ae P B F0 w0 n all (o::rest) K σ:=by
 unfold aG at hg;split at hg
 · rename_i hgd;exact ae.step hgd ho h
 · rename_i g b hgd;split at hg
   · rename_i b' hb';obtain ⟨og,t,h1,h2,h3⟩:=k5 hb';have:b'=b:=by simpa using hg
     subst this;exact ae.HY hgd h1 h2 h3 ho h
   · cases hg
theorem ae.pure{av:AV}(hg:aG all σ o=true)(hdn:Nat.ble (d+1) n=true)(ho:aN P B F0 w0 d o σ.get (jG σ d) av)(h:ae P B F0 w0 n all rest K (σ.put d av)):ae P B F0 w0 n all (o::rest) K σ :=
 ae.op hg (dZ.zS ho (Nat.le_of_ble_eq_true hdn)) h
theorem ae.idx(hT:bD P T){xs:List D}{iv:Int}(e:D)(hd:o.dst=some d)(hdn:Nat.ble (d+1) n=true)(hg:aG all σ o=true)(hx:J6 T σ.get o.op=some (xs,iv))(h0:0≤iv)(he:xs[iv.toNat]?=some e)
  (h:ae P B F0 w0 n all rest K ((d,.rf e.flat)::σ)):ae P B F0 w0 n all (o::rest) K σ:=ae.pure hg hdn (aN.idx hT hd (bu σ d) hx h0 he) h
theorem ae.gD(hT:bD P T){xs:List D}{iv:Int}{k m:Nat}(hd:o.dst=some d)(hdn:Nat.ble (d+1) n=true)(hg:aG all σ o=true)(hx:F4 T σ.get (jG σ d) o.op=some (k,xs,0,m,iv))(h0:0≤iv)(hl:iv.toNat<m)
  (h:ae P B F0 w0 n all rest K ((d,.el k iv.toNat 0)::σ)):ae P B F0 w0 n all (o::rest) K σ:=ae.pure hg hdn (aN.gD hT hd (bu σ d) hx h0 hl) (by rw[Nat.zero_add];exact h)
theorem ae.oX(hT:bD P T){xs:List D}{iv:Int}{k lo m:Nat}(hd:o.dst=some d)(hdn:Nat.ble (d+1) n=true)(hg:aG all σ o=true)(hx:F4 T σ.get (jG σ d) o.op=some (k,xs,lo,m,iv))(h0:0≤iv)(hl:iv.toNat<m)
  (h:ae P B F0 w0 n all rest K ((d,.el k (lo+iv.toNat) 0)::σ)):ae P B F0 w0 n all (o::rest) K σ:=ae.pure hg hdn (aN.gD hT hd (bu σ d) hx h0 hl) h
theorem ae.df(hT:bD P T){ti:TI}{xs:List D}{i off:Nat}{x:D}(y:D)(hd:o.dst=some d)(hdn:Nat.ble (d+1) n=true)(hg:aG all σ o=true)(hx:NL T σ.get (jG σ d) o.op=some (ti,xs,i,off))(hy:xs[i]?=some y)(hav:kC ti (y.flat.drop off)=some (.d x))
  (h:ae P B F0 w0 n all rest K ((d,.d x)::σ)):ae P B F0 w0 n all (o::rest) K σ:=ae.pure hg hdn (aN.df hT hd (bu σ d) hx hy hav) h
theorem ae.kQ(hT:bD P T){k e i off:Nat}{xs:List D}{y:D}(old:D)(hd:o.dst=none)(hg:aG all σ o=true)(hx:Ep T σ o.op=some (k,.ow e xs,xs,i,off,y))(hold:xs[i]?=some old)(hok:xI old y off=true)
  (h:ae P B F0 w0 n all rest K ((k,.ow e (xs.set i (nF old y off)))::σ)):ae P B F0 w0 n all (o::rest) K σ:=ae.op hg (dZ.kQ hT hd hx hold hok) h
theorem ae.Jt(hT:bD P T){q:Bool}{k e i off lo m:Nat}{xs:List D}{y:D}(old:D)(hd:o.dst=none)(hg:aG all σ o=true)(hx:Ep T σ o.op=some (k,.wn q e xs lo m,xs,i,off,y))(hold:xs[i]?=some old)(hok:xI old y off=true)
  (h:ae P B F0 w0 n all rest K ((k,.wn q e (xs.set i (nF old y off)) lo m)::σ)):ae P B F0 w0 n all (o::rest) K σ:=ae.op hg (dZ.kQ hT hd hx hold hok) h
theorem ae.x8(hT:bD P T){s:ByteArray}{iv:Int}(hd:o.dst=some d)(hdn:Nat.ble (d+1) n=true)(hg:aG all σ o=true)(hx:Js T σ.get o.op=some (s,iv))(h0:0≤iv)(hl:iv.toNat<s.size)
  (h:ae P B F0 w0 n all rest K ((d,.d (.v (.int .u8 ((s.data.toList.getD iv.toNat 0).toNat:Int))))::σ)):ae P B F0 w0 n all (o::rest) K σ:=ae.pure hg hdn (aN.x8 hT hd (bu σ d) hx h0 hl) h
theorem ae.Ej(hT:bD P T){s:Nat}{xs:List D}{lo hi:Option Int}(hd:o.dst=some d)(hdn:Nat.ble (d+1) n=true)(hg:aG all σ o=true)(hx:FE T σ.get o.op=some (.sl s xs,lo,hi))(g1:okB lo)(g2:okB hi)(g3:fU lo≤cV xs.length hi)(g4:cV xs.length hi≤xs.length)
  (h:ae P B F0 w0 n all rest K ((d,.d (.sl s ((xs.take (cV xs.length hi)).drop (fU lo))))::σ)):ae P B F0 w0 n all (o::rest) K σ:=ae.pure hg hdn (aN.Ej hT hd (bu σ d) hx g1 g2 g3 g4) h
theorem ae.call(hT:bD P T){f:FuncId}{ds:List D}{res:D}(hd:o.dst=some d)(hdn:Nat.ble (d+1) n=true)(hg:aG all σ o=true)(hx:tK T σ.get o.op=some (f,ds))(hP:Pure P f ds res)
  (h:ae P B F0 w0 n all rest K ((d,.d res)::σ)):ae P B F0 w0 n all (o::rest) K σ:=ae.pure hg hdn (aN.call hT hd (bu σ d) hx hP) h
theorem ae.calls(hT:bD P T){f:FuncId}{ds:List D}{res:D}(hd:o.dst=some d)(hdn:Nat.ble (d+1) n=true)(hg:aG all σ o=true)(hx:wV T σ.get (jG σ d) o.op=some (f,ds))(hP:Pure P f ds res)(hs:il res=true)
  (h:ae P B F0 w0 n all rest K ((d,.d res)::σ)):ae P B F0 w0 n all (o::rest) K σ:=ae.pure hg hdn (aN.calls hT hd (bu σ d) hx hs hP) h
theorem ae.make(hT:bD P T){e:Nat}{te:TI}{m:Int}(hd:o.dst=some d)(hdn:Nat.ble (d+1) n=true)(hg:aG all σ o=true)(hx:Mt T σ.get o.op=some (e,te,m))(hz:l6 te=true)(h0:0≤m)(hb:(te.bytes:Int)*m≤281474976710656)(hm63:m≤9223372036854775807)
  (h:ae P B F0 w0 n all rest K ((d,.ow e (List.replicate m.toNat (uX te)))::σ.kill d)):ae P B F0 w0 n all (o::rest) K σ:=ae.pure hg hdn (aN.make hT hd (bu σ d) hx hz h0 hb hm63) h
theorem ae.Ct(hT:bD P T){e:Nat}{te:TI}{xs:List D}(hd:o.dst=some d)(hdn:Nat.ble (d+1) n=true)(hg:aG all σ o=true)(hx:Mf T σ.get (jG σ d) o.op=some (e,te,xs))(hlen:xs.length*te.bytes≤140737488355328)
  (h:ae P B F0 w0 n all rest K ((d,.ow e xs)::σ.kill d)):ae P B F0 w0 n all (o::rest) K σ:=ae.pure hg hdn (aN.Ct hT hd (bu σ d) hx hlen) h
theorem ae.nY(hT:bD P T){e:Nat}{te:TI}{xs:List D}(hd:o.dst=some d)(hdn:Nat.ble (d+1) n=true)(hg:aG all σ o=true)(hx:Mf T σ.get (jG σ d) o.op=some (e,te,xs))(hlen:xs.length*te.bytes≤140737488355328)
  (h:ae P B F0 w0 n all rest K ((d,.d (.sl te.size xs))::σ)):ae P B F0 w0 n all (o::rest) K σ:=ae.pure hg hdn (aN.nY hT hd (bu σ d) hx hlen) h
theorem ae.mX(hT:bD P T){e:Nat}{te:TI}{xs:List D}(hd:o.dst=some d)(hdn:Nat.ble (d+1) n=true)(hg:aG all σ o=true)(hx:L8 T σ.get o.op=some (e,xs))(hte:T.get e=some te)
  (h:ae P B F0 w0 n all rest K ((d,.d (.sl te.size xs))::σ)):ae P B F0 w0 n all (o::rest) K σ:=ae.pure hg hdn (aN.mX hT hte hd (bu σ d) hx) h
theorem ae.lB(hT:bD P T){k e:Nat}{te:TI}{xs ys:List D}(hd:o.dst=some d)(hdn:Nat.ble (d+1) n=true)(hg:aG all σ o=true)(hx:Me T σ o.op=some (k,e,te,xs,ys))(hne:Nat.beq k d=false)(hz:l6 te=true)(hlen:(xs.length+ys.length)*te.bytes≤140737488355328)(h63:xs.length+ys.length≤9223372036854775807)
  (h:ae P B F0 w0 n all rest K ((d,.ow e (xs++ys))::(k,.junk)::σ.kill d)):ae P B F0 w0 n all (o::rest) K σ:=ae.op hg (dZ.lB hT hd (Nat.le_of_ble_eq_true hdn) hx (Nat.ne_of_beq_eq_false hne) hz hlen h63) h
theorem ae.bs(hT:bD P T){e:Nat}{xs:List D}(hd:o.dst=some d)(hdn:Nat.ble (d+1) n=true)(hg:aG all σ o=true)(hx:L8 T σ.get o.op=some (e,xs))
  (h:ae P B F0 w0 n all rest K ((d,.ow e xs)::σ.kill d)):ae P B F0 w0 n all (o::rest) K σ:=ae.pure hg hdn (aN.bs hT hd (bu σ d) hx) h
theorem ae.div(hT:bD P T){q:Bool}{k:IntKind}{x y:Int}(hd:o.dst=some d)(hdn:Nat.ble (d+1) n=true)(hg:aG all σ o=true)(hx:Kk T σ.get o.op=some (q,k,x,y))(h0:y≠0)
  (h:ae P B F0 w0 n all rest K ((d,.d (.v (mW q k x y)))::σ)):ae P B F0 w0 n all (o::rest) K σ:=ae.pure hg hdn (aN.div hT hd (bu σ d) hx h0) h
theorem ae.err(hT:bD P T){q:Bool}{u:Value}(hd:o.dst=some d)(hdn:Nat.ble (d+1) n=true)(hg:aG all σ o=true)(hx:DJ T σ.get o.op=some (q,u))(hi:jP u=true)
  (h:ae P B F0 w0 n all rest K ((d,.d (.v (.bool (vY u==q))))::σ)):ae P B F0 w0 n all (o::rest) K σ:=ae.pure hg hdn (aN.err hT hd (bu σ d) hx hi) h
theorem ae.jh(hT:bD P T)(t:Nat){e:Nat}{xs:List D}{te:TI}(ht:σ.get t=some (.ow e xs))(he:T.get e=some te)(h:ae P B F0 w0 n all l K (σ.jh t (.sl te.size xs))):ae P B F0 w0 n all l K σ:=fun a w hR=>h a w (hR.jh hT ht he)
theorem ae.F8(hT:bD P T)(t:Nat){q:Bool}{e lo m:Nat}{xs:List D}{te:TI}(ht:σ.get t=some (.wn q e xs lo m))(he:T.get e=some te)(h:ae P B F0 w0 n all l K (σ.jh t (.sl te.size ((xs.drop lo).take m)))):ae P B F0 w0 n all l K σ:=fun a w hR=>h a w (hR.F8 hT ht he)
theorem AW.F8(hT:bD P T)(t:Nat){q:Bool}{e lo m:Nat}{xs:List D}{te:TI}(ht:σ.get t=some (.wn q e xs lo m))(he:T.get e=some te)(h:AW P B F0 w0 n c Q (σ.jh t (.sl te.size ((xs.drop lo).take m)))):AW P B F0 w0 n c Q σ:=fun a w hR=>h a w (hR.F8 hT ht he)
theorem AW.jh(hT:bD P T)(t:Nat){e:Nat}{xs:List D}{te:TI}(ht:σ.get t=some (.ow e xs))(he:T.get e=some te)(h:AW P B F0 w0 n c Q (σ.jh t (.sl te.size xs))):AW P B F0 w0 n c Q σ:=fun a w hR=>h a w (hR.jh hT ht he)
end
end Lift
namespace Lift
open Go
open Go.RowKit (Below)
def pW(d:Nat):List Nat→Bool
 | []=>false
 | k::r=>match Nat.beq k d with
   | true=>true
   | false=>pW d r
theorem fj{d:Nat}: ∀{l:List Nat},pW d l=true↔d∈l
 | []=>by simp[pW]
 | k::r=>by
   simp only[pW,List.mem_cons];cases h:Nat.beq k d with
   | true=>simp[Nat.eq_of_beq_eq_true h]
   | false=>simp[fj (l:=r),Ne.symm (Nat.ne_of_beq_eq_false h)]
def cE(ds:List Nat)(av:AV):Bool:=match av.refs with
 | some h=>match pW h ds with
   | true=>false
   | false=>true
 | none=>true
def AV.tD(ds:List Nat)(av:AV):AV:=match cE ds av with
 | true=>av
 | false=> .junk
def St.less(ds:List Nat):St→St
 | []=>[]
 | (k,a)::r=>match pW k ds with
   | true=>St.less ds r
   | false=>(k,a.tD ds)::St.less ds r
theorem rD(ds:List Nat)(σ:St)(t:Nat):(σ.less ds).get t=if t∈ds then none else (σ.get t).map (AV.tD ds):=by
 induction σ with
 | nil=>simp[St.less,St.get]
 | cons e r ih =>
   obtain ⟨k,a⟩:=e;simp only[St.less];split
   · rename_i h;rw[fj] at h;rw[ih,St.aM];by_cases ht:t∈ds
     · simp[ht]
     · rw[if_neg ht,if_neg ht,if_neg (fun (e:k=t)=>ht (e▸h))]
   · rename_i h;have h:k ∉ ds:=fun h'=>by rw[fj.2 h'] at h;cases h
     rw[St.aM,St.aM,ih];by_cases hk:k=t
     · subst hk;simp[h]
     · simp[hk]
theorem Dm{ds:List Nat}{a:AV}(h:(a.tD ds).home=true):a.tD ds=a:=by
 unfold AV.tD at h ⊢;split
 · rfl
 · rename_i hr;rw[hr] at h;simp[AV.home] at h
section
variable {P:Program} {T:Ty} {B:Nat} {F0:Nat→Prop} {w0:cX} {n:Nat} {σ:St} {ops:Array Oper}
theorem Rel.less(ds:List Nat){a:Act}{w:World}(hR:Rel P B F0 w0 n σ a w):Rel P B F0 w0 n (σ.less ds) a w:=by
 obtain ⟨O,hOr,hO⟩:=hR.own;refine⟨hR.below,hR.base,hR.f0,hR.defers,hR.size,O,hOr,fun t av h=>?_⟩;rw[rD] at h;split at h<;>try (cases h;done)
 cases hs:σ.get t with
 | none=>simp[hs] at h
 | some y =>
   simp only[hs,Option.map_some,Option.some.injEq] at h;subst h;obtain ⟨v,hv,hr⟩:=hO t y hs;refine⟨v,hv,?_⟩;unfold AV.tD;split
   · refine hr.move (fun c hc=>⟨hc,rfl⟩) (fun _ c hc=>⟨hc,rfl⟩) (fun k _ x hx hg=>?_);rw[rD] at hg;split at hg<;>try (cases hg;done)
     cases hk:σ.get k with
     | none=>simp[hk] at hg
     | some z =>
       simp only[hk,Option.map_some,Option.some.injEq] at hg;subst hg;rw[Dm hx];exact⟨rfl,rfl⟩
   · trivial
def p9(P:Program)(B:Nat)(F0:Nat→Prop)(w0:cX)(ops:Array Oper)(σ0 τ:St)(o:Oper)(d:Nat)(av:AV):Prop :=
 (aG ops τ o=true∧aN P B F0 w0 d o τ.get σ0.get av) ∨
 (∃g b,o.guard=some (g,b)∧((∃b',jA ops τ g=some b'∧(b'==b)=false)∨my ops τ g=true)∧av= .un)
def ah(P:Program)(B:Nat)(F0:Nat→Prop)(w0:cX)(n:Nat)(ops:Array Oper)(ds:List Nat)(σ0:St):List Oper→St→(St→Prop)→Prop
 | [],τ,K=>K τ
 | o::r,τ,K=> ∃d av,o.dst=some d∧d<n∧cE ds av=true∧p9 P B F0 w0 ops σ0 τ o d av∧ah P B F0 w0 n ops ds σ0 r ((d,av)::τ) K
def eC(ops:Array Oper)(m:Nat):List Nat:=(ops.toList.take m).filterMap (·.dst)
def setter(ops:Array Oper)(m t:Nat):Option Nat:=(List.range m).find? fun i=>match ops[i]? with
 | some o=>o.dst==some t
 | none=>false
def EN(ops:Array Oper)(m:Nat):Bool:=(List.range m).all fun j=>match ops[j]? with
 | some o=>o.dst.isSome&&(o.after.all fun e=> !(Region.binds .any e)||decide (e.on<j)) &&
   ((o.looksAt ops).all fun t=>match setter ops m t with
     | some i=>o.after.any fun e=>Region.binds .any e&&e.on==i
     | none=>true) &&
   ((List.range m).all fun i=>i==j||match ops[i]? with
     | some o'=>o'.dst != o.dst
     | none=>true) &&
   (match o.guard with
    | some (g,_)=>decide (g<m)
    | none=>true)
 | none=>false
def wI(ops:Array Oper)(m:Nat):Bool :=
 decide (m≤ops.size)&&EN ops m&&(decide (m=ops.size)||(Region.sinkB .any ops m&&Region.chainB .any ops m)) &&
  Region.seqB .any ops (ops.size-m) m (Array.replicate m true++Array.replicate (ops.size-m) false)
def un(listed:Array Bool):Nat→Nat
 | 0=>0
 | k+1=>un listed k+if listed.getD k true=false then 1 else 0
theorem u7{listed:Array Bool}{i:Nat}: ∀k,k≤i→un (listed.setIfInBounds i true) k=un listed k
 | 0,_=>rfl
 | k+1,h=>by
   simp only[un];rw[u7 k (by omega),getD_set_ne true (by omega)]
theorem CN{listed:Array Bool}{i:Nat}(hi:listed.getD i true=false): ∀k,i<k→un (listed.setIfInBounds i true) k+1=un listed k
 | 0,h=>by omega
 | k+1,h=>by
   simp only[un];by_cases hk:i=k
   · subst hk;rw[u7 i (Nat.le_refl _)]
     have hs:i<listed.size:=by
      rcases Nat.lt_or_ge i listed.size with h' | h'
      · exact h'
      · simp[Array.getElem?_eq_none h'] at hi
     have:(listed.setIfInBounds i true).getD i true=true:=by simp[hs]
     rw[this,hi];simp
   · have:=CN hi k (by omega);rw[getD_set_ne true hk];omega
theorem ux{listed:Array Bool}: ∀k,un listed k=0→ ∀j,j<k→listed.getD j true=true
 | 0,_,j,h=>by omega
 | k+1,h0,j,h=>by
   simp only[un] at h0;by_cases hk:j=k
   · subst hk;cases hb:listed.getD j true with
     | true=>rfl
     | false=>rw[hb] at h0;simp at h0
   · exact ux k (by omega) j (by omega)
theorem CO{listed:Array Bool}: ∀k,0<un listed k→ ∃j,j<k∧listed.getD j true=false∧ ∀i,i<j→listed.getD i true=true
 | 0,h=>by simp[un] at h
 | k+1,h=>by
   by_cases h0:0<un listed k
   · obtain ⟨j,h1,h2,h3⟩:=CO k h0;exact⟨j,by omega,h2,h3⟩
   · simp only[un] at h;have h0:un listed k=0:=by omega
     have:=ux k h0;refine⟨k,by omega,?_,this⟩;cases hb:listed.getD k true with
     | true=>rw[hb] at h;simp at h;omega
     | false=>rfl
theorem get_append: ∀(l r:St) (t:Nat),St.get (l++r) t=match St.get l t with | some a=>some a | none=>St.get r t
 | [],r,t=>by simp[St.get]
 | (k,a)::l,r,t=>by
   rw[List.cons_append,St.aM,St.aM,get_append l r t];split<;>rfl
theorem get_mem: ∀{l:St} {t:Nat} {av:AV},St.get l t=some av→(t,av)∈l
 | [],t,av,h=>by simp[St.get] at h
 | (k,a)::l,t,av,h=>by
   rw[St.aM] at h;split at h
   · rename_i e;simp at h;subst h;subst e;simp
   · exact List.mem_cons_of_mem _ (get_mem h)
theorem yH: ∀{l:St} {t:Nat},St.get l t=none→ ∀av,(t,av) ∉ l
 | [],t,_,av,h=>by simp at h
 | (k,a)::l,t,hn,av,h=>by
   rw[St.aM] at hn;split at hn<;>try (cases hn;done)
   rename_i e;rcases List.mem_cons.1 h with h | h
   · simp at h;exact e h.1.symm
   · exact yH hn av h
theorem ah.out{ds:List Nat}{σ0:St}{K:St→Prop}: ∀(l:List Oper) (τ:St),ah P B F0 w0 n ops ds σ0 l τ K →
  ∃tl:List (Nat×AV),tl.length=l.length∧K (tl.reverse++τ)∧ ∀(j:Nat) (o:Oper),l[j]?=some o→ ∃d av,tl[j]?=some (d,av)∧o.dst=some d∧d<n∧cE ds av=true∧p9 P B F0 w0 ops σ0 ((tl.take j).reverse++τ) o d av
 | [],τ,h=>⟨[],rfl,h,fun j o hj=>by simp at hj⟩
 | o::r,τ,h=>by
   obtain ⟨d,av,h1,h2,h3,h4,h5⟩:=h;obtain ⟨tl,g1,g2,g3⟩:=ah.out r _ h5;refine⟨(d,av)::tl,by simp[g1],by simpa using g2,fun j o' hj=>?_⟩;cases j with
   | zero=>simp at hj;subst hj;exact⟨d,av,rfl,h1,h2,h3,by simpa using h4⟩
   | succ j =>
     obtain ⟨d',av',f1,f2,f3,f4,f5⟩:=g3 j o' (by simpa using hj);exact⟨d',av',by simpa using f1,f2,f3,f4,by simpa using f5⟩
structure I0 (P:Program) (B:Nat) (F0:Nat→Prop) (w0:cX) (n m:Nat) (σ0:St) (tl:List (Nat×AV)) (listed:Array Bool) (a:Act) (w:World):Prop where
 below:iI B w0 w0.w w
 base:B≤w.heap.size
 f0:D8 B F0 w0
 defers:a.defers=[]
 size:a.tmps.size=n
 own: ∃O:Nat→Option Nat,(∀b t,O b=some t→j7 B w0 w b) ∧
  (∀t av,σ0.get t=some av→ ∃v,a.tmps[t]?=some v∧eQ P w0.X w O (FW B F0 w) σ0.get (fun h=>a.tmps[h]?) t av v) ∧
  (∀j d av,j<m→tl[j]?=some (d,av)→listed.getD j true=true→ ∃v,a.tmps[d]?=some v∧eQ P w0.X w O (FW B F0 w) σ0.get (fun h=>a.tmps[h]?) d av v)
theorem Rel.drew{a:Act}{w:World}(hR:Rel P B F0 w0 n σ a w):Rel P B F0 w0 n σ a {w with drawn:=w.drawn+1}:=by
 obtain ⟨O,hOr,hO⟩:=hR.own;refine⟨hR.below.drew,hR.base,hR.f0,hR.defers,hR.size,O,hOr,fun t av h=>?_⟩;obtain ⟨v,hv,hr⟩:=hO t av h;exact⟨v,hv,hr.move (fun c hc=>⟨hc,rfl⟩) (fun _ c hc=>⟨hc,rfl⟩) (fun k _ x _ hk=>⟨hk,rfl⟩)⟩
theorem fH{m:Nat}(hB:EN ops m=true){j:Nat}(hj:j<m): ∃o d,ops[j]?=some o∧o.dst=some d∧(∀e∈o.after,Region.binds .any e=true→e.on<j) ∧
  (∀t∈o.looksAt ops,∀i,i<m→(∃o',ops[i]?=some o'∧o'.dst=some t)→ ∃i',(∃o',ops[i']?=some o'∧o'.dst=some t)∧i'<m∧ ∃e∈o.after,Region.binds .any e=true∧e.on=i') ∧
  (∀i o',i<m→i≠j→ops[i]?=some o'→o'.dst≠o.dst)∧(∀g b,o.guard=some (g,b)→g<m):=by
 have h:=List.all_eq_true.1 hB j (List.mem_range.2 hj);split at h<;>try (cases h;done)
 rename_i o ho;simp only[Bool.and_eq_true] at h;obtain ⟨⟨⟨⟨h1,h2⟩,h3⟩,h4⟩,h5⟩:=h;obtain ⟨d,hd⟩:=Option.isSome_iff_exists.1 h1;refine⟨o,d,ho,hd,fun e he hb=>?_,fun t ht i hi ⟨o',ho',hdt⟩=>?_,fun i o' hi hij ho'=>?_,fun g b hg=>?_⟩
 · have:=(Array.all_eq_true_iff_forall_mem.1 h2) e he;simpa[hb] using this
 · have:=List.all_eq_true.1 h3 t ht;cases hs:setter ops m t with
   | none =>
     exfalso;have:=List.find?_eq_none.1 hs i (List.mem_range.2 hi);simp[ho',hdt] at this
   | some i' =>
     rw[hs] at this;simp only[] at this;obtain ⟨e,he,hb⟩:=Array.any_eq_true'.1 this;simp only[Bool.and_eq_true,beq_iff_eq] at hb;have hf:=List.find?_some hs;have hm':=List.mem_of_find?_eq_some hs;split at hf<;>try (cases hf;done)
     rename_i o2 ho2;exact⟨i',⟨o2,ho2,by simpa using hf⟩,List.mem_range.1 hm',e,he,hb.1,hb.2⟩
 · have:=List.all_eq_true.1 h4 i (List.mem_range.2 hi);rw[ho'] at this;simp only[Bool.or_eq_true,beq_iff_eq,bne_iff_ne] at this;exact this.resolve_left hij
 · rw[hg] at h5;simpa using h5
def xi(P:Program)(B:Nat)(F0:Nat→Prop)(w0:cX)(n:Nat)(ops:Array Oper)(Q:Exit→St→Prop)(σ:St):Prop :=
 ∀(a:Act) (w:World),Rel P B F0 w0 n σ a w→wpAny P .any ops (fun e a' w'=> ∃σ',Q e σ'∧Rel P B F0 w0 n σ' a' w') ops.size (Array.replicate ops.size false) a {w with drawn:=w.drawn+1}
theorem xi.Ik{Qx:Exit→Act→World→Prop}{TK:St→Prop}(m:Nat)(hB:wI ops m=true)(htk: ∀τ a w,TK τ→Rel P B F0 w0 n τ a w→wpList P ops Qx (ops.toList.drop m) a w)
  (h:ah P B F0 w0 n ops (eC ops m) (σ.less (eC ops m)) (ops.toList.take m) (σ.less (eC ops m)) TK):
  ∀(a:Act) (w:World),Rel P B F0 w0 n σ a w→wpAny P .any ops Qx ops.size (Array.replicate ops.size false) a {w with drawn:=w.drawn+1}:=by
 intro a w hR;simp only[wI,Bool.and_eq_true,Bool.or_eq_true,decide_eq_true_eq] at hB;obtain ⟨⟨⟨hmle,hhead⟩,htail⟩,hseq⟩:=hB;have hR0:=(hR.less (eC ops m)).drew;generalize hds:eC ops m=ds at h hR0;generalize hσ0:σ.less ds=σ0 at h hR0
 have hs0ds: ∀t av,σ0.get t=some av→t ∉ ds∧cE ds av=true:=fun t av hg=>by
  rw[← hσ0,rD] at hg;split at hg<;>try (cases hg;done)
  rename_i htd;refine⟨htd,?_⟩;cases hs:σ.get t with
  | none=>simp[hs] at hg
  | some y =>
    simp only[hs,Option.map_some,Option.some.injEq] at hg;subst hg;unfold AV.tD;cases hr:cE ds y with
    | true=>exact hr
    | false=>rfl
 obtain ⟨tl,htl,hK,hstep⟩:=ah.out _ _ h;have hlen:tl.length=m:=by rw[htl];simp;omega
 have hop: ∀j,j<m→(ops.toList.take m)[j]?=ops[j]?:=fun j hj=>by simp[List.getElem?_take,hj]
 have hset: ∀j,j<m→ ∃o d av,ops[j]?=some o∧o.dst=some d∧tl[j]?=some (d,av)∧d<n∧cE ds av=true∧d∈ds∧p9 P B F0 w0 ops σ0 ((tl.take j).reverse++σ0) o d av:=fun j hj=>by
  obtain ⟨o,d,h1,h2,_⟩:=fH hhead hj;obtain ⟨d',av,g1,g2,g3,g4,g5⟩:=hstep j o (by rw[hop j hj];exact h1);rw[h2] at g2;simp at g2;subst g2;refine⟨o,d,av,h1,h2,g1,g3,g4,?_,g5⟩;rw[← hds];exact List.mem_filterMap.2 ⟨o,List.mem_of_getElem? ((hop j hj).trans h1),h2⟩
 have hdist: ∀i j t av av',i<m→j<m→tl[i]?=some (t,av)→tl[j]?=some (t,av')→i=j:=fun i j t av av' hi hj h1 h2=>by
  by_cases hij:i=j
  · exact hij
  · exfalso;obtain ⟨o,d,av1,g1,g2,g3,_⟩:=hset j hj;obtain ⟨o',d',av2,f1,f2,f3,_⟩:=hset i hi;obtain ⟨o2,d2,e1,e2,_,_,e3,_⟩:=fH hhead hj;rw[g1] at e1;simp at e1;subst e1;have:=e3 i o' hi hij f1;rw[f2,g2] at this;rw[h1] at f3;rw[h2] at g3;simp at f3 g3;exact this (by rw[← f3.1,← g3.1])
 have hL2: ∀j,j≤m→ ∀t av,St.get ((tl.take j).reverse++σ0) t=some av→(∃i,i<j∧tl[i]?=some (t,av))∨σ0.get t=some av:=fun j hj t av hg=>by
  rw[get_append] at hg;split at hg
  · rename_i x hx;simp at hg;subst hg;have:=get_mem hx;rw[List.mem_reverse] at this;obtain ⟨i,hi⟩:=List.mem_iff_getElem?.1 this;rw[List.getElem?_take] at hi;split at hi<;>try (cases hi;done)
    rename_i hij;exact .inl ⟨i,hij,hi⟩
  · exact .inr hg
 have hval: ∀j o,j<m→ops[j]?=some o→ ∀listed a w,I0 P B F0 w0 n m σ0 tl listed a w→(∀e∈o.after,Region.binds .any e=true→listed.getD e.on false=true) →
   ∀O,(∀t av,σ0.get t=some av→ ∃v,a.tmps[t]?=some v∧eQ P w0.X w O (FW B F0 w) σ0.get (fun h=>a.tmps[h]?) t av v) →
   (∀j d av,j<m→tl[j]?=some (d,av)→listed.getD j true=true→ ∃v,a.tmps[d]?=some v∧eQ P w0.X w O (FW B F0 w) σ0.get (fun h=>a.tmps[h]?) d av v) →
   ∀t,t∈o.looksAt ops→ ∀av,St.get ((tl.take j).reverse++σ0) t=some av→ ∃v,a.tmps[t]?=some v∧eQ P w0.X w O (FW B F0 w) σ0.get (fun h=>a.tmps[h]?) t av v:=by
  intro j o hj ho listed a w hRL hall O hO1 hO2 t ht av hg;rcases hL2 j (by omega) t av hg with ⟨i,hij,hi⟩ | hg
  · obtain ⟨oi,di,avi,f1,f2,f3,_⟩:=hset i (by omega);rw[hi] at f3;simp at f3;obtain ⟨rfl,rfl⟩:=f3;obtain ⟨o2,d2,e1,e2,_,e4,_⟩:=fH hhead hj;rw[ho] at e1;simp at e1;subst e1;obtain ⟨i',⟨o',g1,g2⟩,g3,e,g4,g5,g6⟩:=e4 t ht i (by omega) ⟨oi,f1,f2⟩;obtain ⟨o3,d3,av3,k1,k2,k3,_⟩:=hset i' g3;rw[g1] at k1;simp at k1;subst k1;rw[g2] at k2;simp at k2;subst k2;have hii:i'=i:=hdist i' i t av3 av g3 (by omega) k3 hi;subst hii;have hl:=hall e g4 g5;rw[g6] at hl
    have hl':listed.getD i' true=true:=by
     rcases Nat.lt_or_ge i' listed.size with h' | h'
     · simp[h'] at hl ⊢; exact hl
     · simp[Array.getElem?_eq_none h'] at hl
    exact hO2 i' t av g3 hi hl'
  · exact hO1 t av hg
 have hone: ∀j listed a w,j<m→I0 P B F0 w0 n m σ0 tl listed a w→j∈Region.ready .any ops listed→ ∀(Q':Exit→Act→World→Prop) (K:Act→World→Prop),(∀a w,I0 P B F0 w0 n m σ0 tl (listed.setIfInBounds j true) a w→K a w)→wpOp P ops Q' j K a w:=by
  intro j listed a w hj hRL hready Q' K hKK;obtain ⟨o,d,av,h1,h2,h3,h4,h5,h6,h7⟩:=hset j hj;obtain ⟨hun,o',ho',hall⟩:=mem_ready.1 hready;rw[h1] at ho';simp at ho';subst ho';obtain ⟨O,hOr,hO1,hO2⟩:=hRL.own;have hv:=hval j o hj h1 listed a w hRL hall O hO1 hO2
  have hdn:σ0.get d=none:=by
   cases hs:σ0.get d with
   | none=>rfl
   | some x=>exact absurd h6 (hs0ds d x hs).1
  have hds':d<a.tmps.size:=by rw[hRL.size];exact h4
  have hback: ∀v w' O',du w O d w' O'→eQ P w0.X w' O' (FW B F0 w') σ0.get (fun h=>a.tmps[h]?) d av v→I0 P B F0 w0 n m σ0 tl (listed.setIfInBounds j true) (a.put (some d) v) w':=by
   intro v w' O' hg hr;have hsz:w.heap.size≤w'.heap.size:=hg.below.size
   have hkeep: ∀t av u,t≠d→eQ P w0.X w O (FW B F0 w) σ0.get (fun h=>a.tmps[h]?) t av u→eQ P w0.X w' O' (FW B F0 w') σ0.get (fun h=>(a.put (some d) v).tmps[h]?) t av u:=fun t av u htd hu =>
    hu.mono (fun b hb=>FW.step hRL.f0 hRL.base hsz b hb) hg.same (fun b u hb=>(hOr b u hb).2) (fun b hb=>hg.below.block b hb) (fun k _ x _ hk=>⟨hk,dF (fun e=>(hs0ds k x hk).1 (e▸h6))⟩)
   refine⟨hRL.below.trans (.of hg.below hRL.base),Nat.le_trans hRL.base hsz,hRL.f0,by simp[Act.put,hRL.defers],by simp[Act.put,hRL.size],O',fun b t hb=>?_,fun t av' ht=>?_,fun i d' av' hi hti hl=>?_⟩
   · rcases hg.mine b t hb with h | ⟨_,h⟩
     · rw[hg.same b h] at hb;exact⟨(hOr b t hb).1,Nat.lt_of_lt_of_le h hsz⟩
     · rcases Nat.lt_or_ge b w.heap.size with h' | h'
       · rw[hg.same b h'] at hb;exact⟨(hOr b t hb).1,h⟩
       · exact⟨.inl (Nat.le_trans hRL.base h'),h⟩
   · have htd:t≠d:=fun e=>by rw[e,hdn] at ht;cases ht
     obtain ⟨u,hu,hur⟩:=hO1 t av' ht;exact⟨u,by rw[dF htd];exact hu,hkeep t av' u htd hur⟩
   · by_cases hij:i=j
     · subst hij;rw[h3] at hti;simp at hti;obtain ⟨rfl,rfl⟩:=hti;refine⟨v,eT hds',hr.move (fun c hc=>⟨hc,rfl⟩) (fun _ c hc=>⟨hc,rfl⟩) (fun k _ x _ hk=>⟨hk,dF (fun e=>(hs0ds k x hk).1 (e▸h6))⟩)⟩
     · have hdd:d'≠d:=fun e=>by
        subst e;exact hij (hdist i j d' av' av hi hj hti h3)
       rw[getD_set_ne true (Ne.symm hij)] at hl;obtain ⟨u,hu,hur⟩:=hO2 i d' av' hi hti hl;exact⟨u,by rw[dF hdd];exact hu,hkeep d' av' u hdd hur⟩
  unfold wpOp;simp only[h1]
  have hgv: ∀g b',(∃b,o.guard=some (g,b))→jA ops ((tl.take j).reverse++σ0) g=some b'→yielded ops a.tmps g=some b':=by
   rintro g b' ⟨b,hgd⟩ hg
   obtain ⟨og,tg,g1,g2,g3⟩:=k5 hg
   have hlk:tg∈o.looksAt ops:=by
    unfold Oper.looksAt;refine List.mem_append_right _ ?_;rw[hgd];simp[g1,g2]
   obtain ⟨u,hu,hur⟩:=hv tg hlk _ g3;have:=(Rd.kn hur).1;subst this;simp[yielded,g1,g2,hu]
  have hgvu: ∀g b,o.guard=some (g,b)→my ops ((tl.take j).reverse++σ0) g=true→yielded ops a.tmps g≠some b:=by
   intro g b hgd hg;obtain ⟨og,tg,g1,g2,g3⟩:=pX hg
   have hlk:tg∈o.looksAt ops:=by
    unfold Oper.looksAt;refine List.mem_append_right _ ?_;rw[hgd];simp[g1,g2]
   obtain ⟨u,hu,hur⟩:=hv tg hlk _ g3;have hur:u=undef:=hur;subst hur;simp[yielded,g1,g2,hu,undef]
  rcases h7 with ⟨hgok,hps⟩ | ⟨g,b,hgd,hgn,rfl⟩
  · have hw:Region.wanted o (yielded ops a.tmps)=true:=by
     unfold aG at hgok;unfold Region.wanted;split at hgok
     · rename_i hgd;simp[hgd]
     · rename_i g b hgd;split at hgok
       · rename_i b' hb';have hbb:b'=b:=by simpa using hgok
         subst hbb;simp[hgd,hgv g b' ⟨_,hgd⟩ hb']
       · cases hgok
    rw[if_pos hw];refine .inl ?_;obtain ⟨_,_,hps⟩:=hps;refine hps a w O ⟨hRL.below,hRL.base,hRL.f0,hOr,fun t ht av' hg=>hv t ?_ av' hg,fun t av' ht _=>hO1 t av' ht⟩ K Q' (fun v w' O' hg hr=>by rw[h2];exact hKK _ _ (hback v w' O' hg hr));unfold Oper.looksAt;exact List.mem_append_left _ (List.mem_filterMap.2 ⟨.tmp t,by simpa using ht,rfl⟩)
  · have hw:Region.wanted o (yielded ops a.tmps)=false:=by
     unfold Region.wanted;rcases hgn with ⟨b',hgval,hne⟩ | hgu
     · simp[hgd,hgv g b' ⟨_,hgd⟩ hgval];simpa using hne
     · simp[hgd];simpa using hgvu g b hgd hgu
    rw[if_neg (by rw[hw];simp),h2];exact hKK _ _ (hback undef w O (du.refl (fun b t hb=>(hOr b t hb).2)) rfl)
 have hall: ∀(f:Nat) (listed:Array Bool) (a:Act) (w:World),HeadInv .any ops m listed→un listed m=f→I0 P B F0 w0 n m σ0 tl listed a w→wpAny P .any ops Qx (f+(ops.size-m)) listed a w:=by
  intro f
  induction f with
  | zero =>
    intro listed a w hinv hun hRL;have hlist:=ux m hun
    have heq:listed=Array.replicate m true++Array.replicate (ops.size-m) false:=by
     apply Array.ext
     · rw[hinv.size];simp;omega
     · intro i hi1 hi2;rw[hinv.size] at hi1;rw[Array.getElem_append];by_cases him:i<m
       · have:=hlist i him;have hlt:i<listed.size:=by rw[hinv.size];exact hi1
         simp[hlt] at this;simp[him,this]
       · have:=hinv.tail i (by omega) hi1;have hlt:i<listed.size:=by rw[hinv.size];exact hi1
         simp[hlt] at this;simp[him,this]
    rw[Nat.zero_add];have hdl:(ops.toList.drop m).length=ops.size-m:=by simp
    rw[← hdl];refine wpAny_of_seq (md:= .any) (ops.toList.drop m) m listed a w (fun j=>by simp[List.getElem?_drop]) (by rw[hdl,heq];exact hseq) ?_;refine htk _ a w hK ?_;obtain ⟨O,hOr,hO1,hO2⟩:=hRL.own
    have hget: ∀k x,k ∉ ds→St.get (tl.reverse++σ0) k=some x→σ0.get k=some x:=fun k x hk hg=>by
     have:=hL2 m (Nat.le_refl _) k x (by rw[List.take_of_length_le (by omega)];exact hg);rcases this with ⟨i,hi,hti⟩ | h
     · obtain ⟨_,d,_,_,_,h3,_,_,h6,_⟩:=hset i hi;rw[hti] at h3;simp at h3;exact absurd (h3.1▸h6) hk
     · exact h
    have hrefs: ∀{av:AV} {k:Nat},cE ds av=true→av.refs=some k→k ∉ ds:=fun {av k} h hk hkd=>by
     unfold cE at h;rw[hk] at h;simp only[fj.2 hkd] at h;cases h
    refine⟨hRL.below,hRL.base,hRL.f0,hRL.defers,hRL.size,O,hOr,fun t av hg=>?_⟩;have h2:=hL2 m (Nat.le_refl _) t av (by rw[List.take_of_length_le (by omega)];exact hg);rcases h2 with ⟨i,hi,hti⟩ | h
    · obtain ⟨_,d,av',_,_,h3,_,h5,_⟩:=hset i hi;rw[hti] at h3;simp at h3;obtain ⟨rfl,rfl⟩:=h3;obtain ⟨v,hv,hr⟩:=hO2 i t av hi hti (hlist i hi);exact⟨v,hv,hr.move (fun c hc=>⟨hc,rfl⟩) (fun _ c hc=>⟨hc,rfl⟩) (fun k hk x _ hkg=>⟨hget k x (hrefs h5 hk) hkg,rfl⟩)⟩
    · obtain ⟨v,hv,hr⟩:=hO1 t av h;exact⟨v,hv,hr.move (fun c hc=>⟨hc,rfl⟩) (fun _ c hc=>⟨hc,rfl⟩) (fun k hk x _ hkg=>⟨hget k x (hrefs (hs0ds t av h).2 hk) hkg,rfl⟩)⟩
  | succ f ih =>
    intro listed a w hinv hun hRL;obtain ⟨j,hj,hju,hjl⟩:=CO m (by omega:0<un listed m)
    have hless: ∀i∈Region.ready .any ops listed,i<m:=fun i hi=>by
     rcases htail with h | ⟨hs,hc⟩
     · obtain ⟨_,o,ho,_⟩:=mem_ready.1 hi;have:=(Array.getElem?_eq_some_iff.1 ho).1;omega
     · rcases Nat.lt_or_ge m ops.size with hlt | hge
       · rcases Nat.lt_or_ge i m with h | h
         · exact h
         · exact absurd hi (tail_waits hs hc hlt hinv _ j rfl hj hju i h)
       · obtain ⟨_,o,ho,_⟩:=mem_ready.1 hi;have:=(Array.getElem?_eq_some_iff.1 ho).1;omega
    have hjr:j∈Region.ready .any ops listed:=by
     obtain ⟨o,d,h1,h2,h3,_⟩:=fH hhead hj;refine mem_ready.2 ⟨hju,o,h1,fun e he hb=>?_⟩;have hlt:=h3 e he hb;have:=hjl e.on hlt;have hsz:e.on<listed.size:=by rw[hinv.size];omega
     simp[hsz] at this ⊢;exact this
    rw[show f+1+(ops.size-m)=(f+(ops.size-m))+1 by omega];refine⟨fun h0=>(by rw[h0] at hjr;cases hjr),fun i hi=>?_⟩;have him:=hless i hi;exact hone i listed a w him hRL hi Qx _ (fun a' w' hRL'=>ih _ a' w' (hinv.set hi him) (by have:=CN (mem_ready.1 hi).1 m him;omega) hRL')
 have hu0:un (Array.replicate ops.size false) m=m:=by
  have: ∀k,k≤m→un (Array.replicate ops.size false) k=k:=fun k hk=>by
   induction k with
   | zero=>rfl
   | succ k ih =>
     have hlt:k<ops.size:=by omega
     simp[un,ih (by omega),hlt]
  exact this m (Nat.le_refl _)
 have hinv0:HeadInv .any ops m (Array.replicate ops.size false) :=
  ⟨by simp,fun j oj _ hl=>(by rw[getD_replicate_false] at hl;cases hl),fun t _ ht=>getD_in (by simpa using ht) (getD_replicate_false _ _)⟩
 obtain ⟨O,hOr,hO⟩:=hR0.own
 have:=hall m (Array.replicate ops.size false) a {w with drawn:=w.drawn+1} hinv0 hu0 ⟨hR0.below,hR0.base,hR0.f0,hR0.defers,hR0.size,O,hOr,hO,fun j d av hj _ hl=>by
   have hlt:j<ops.size:=by omega
   simp[hlt] at hl⟩
 rw[show m+(ops.size-m)=ops.size by omega] at this;exact this
theorem xi.draw{Q:Exit→St→Prop}(m:Nat)(hB:wI ops m=true)
  (h:ah P B F0 w0 n ops (eC ops m) (σ.less (eC ops m)) (ops.toList.take m) (σ.less (eC ops m)) (fun τ=>ae P B F0 w0 n ops (ops.toList.drop m) (Q .normal) τ)):xi P B F0 w0 n ops Q σ :=
 fun a w hR=>xi.Ik m hB (TK:=fun τ=>ae P B F0 w0 n ops (ops.toList.drop m) (Q .normal) τ) (fun τ a w h hR=>h a w hR _ (fun a w σ' hk hr=>⟨σ',hk,hr⟩)) h a w hR
variable {ds:List Nat} {σ0 τ:St} {K:St→Prop} {o:Oper} {rest:List Oper} {d:Nat}
theorem AW.any{Q:Exit→St→Prop}{id:Nat}(jG:P.follows .mixedOrders=true)(h:xi P B F0 w0 n ops Q σ):AW P B F0 w0 n (.region id ops true) Q σ:=fun a w hR=>wp_region_any jG (h a w hR)
theorem AW.draw{Q:Exit→St→Prop}{id:Nat}(jG:P.follows .mixedOrders=true)(m:Nat)(hB:wI ops m=true)
  (h:ah P B F0 w0 n ops (eC ops m) (σ.less (eC ops m)) (ops.toList.take m) (σ.less (eC ops m)) (fun τ=>ae P B F0 w0 n ops (ops.toList.drop m) (Q .normal) τ)):AW P B F0 w0 n (.region id ops true) Q σ :=
 AW.any jG (xi.draw m hB h)
theorem ah.nil(h:K τ):ah P B F0 w0 n ops ds σ0 [] τ K:=h
theorem ah.pure{av:AV}(hd:o.dst=some d)(hdn:Nat.ble (d+1) n=true)(hr:cE ds av=true)(hg:aG ops τ o=true)(hp:aN P B F0 w0 d o τ.get σ0.get av)(h:ah P B F0 w0 n ops ds σ0 rest ((d,av)::τ) K):ah P B F0 w0 n ops ds σ0 (o::rest) τ K :=
 ⟨d,av,hd,Nat.le_of_ble_eq_true hdn,hr,.inl ⟨hg,hp⟩,h⟩
def Ls(T:Ty)(n:Nat)(ops:Array Oper)(ds:List Nat)(σ0 τ:St)(o:Oper):Option (Nat×AV):=match o.dst with
 | some d=>match Nat.ble (d+1) n,σ0.get d with
   | true,none=>match o.guard with
     | none=>match pF T τ.get σ0.get o.type o.op with
       | some av=>match cE ds av with
         | true=>some (d,av)
         | false=>none
       | none=>none
     | some (g,b)=>match jA ops τ g with
       | some b'=>match b'==b with
         | true=>match pF T τ.get σ0.get o.type o.op with
           | some av=>match cE ds av with
             | true=>some (d,av)
             | false=>none
           | none=>none
         | false=>some (d,.un)
       | none=>match my ops τ g with
         | true=>some (d,.un)
         | false=>none
   | _,_=>none
 | none=>none
def FG(T:Ty)(n:Nat)(ops:Array Oper)(ds:List Nat)(σ0:St):Nat→List Oper→St→Option (St×List Oper)
 | 0,l,τ=>some (τ,l)
 | k+1,l,τ=>match l with
   | []=>some (τ,[])
   | o::r=>match Ls T n ops ds σ0 τ o with
     | some (d,av)=>FG T n ops ds σ0 k r ((d,av)::τ)
     | none=>none
theorem JG(hT:bD P T){av:AV}(h:Ls T n ops ds σ0 τ o=some (d,av)):o.dst=some d∧d<n∧cE ds av=true∧p9 P B F0 w0 ops σ0 τ o d av:=by
 unfold Ls at h;split at h<;>try (cases h;done)
 rename_i d' hd;split at h<;>try (cases h;done)
 rename_i hn hs;have hn:d'<n:=Nat.le_of_ble_eq_true hn;split at h
 · rename_i hg;split at h<;>try (cases h;done)
   rename_i av' hav;split at h<;>simp at h;rename_i hr;obtain ⟨rfl,rfl⟩:=h;exact⟨hd,hn,hr,.inl ⟨by simp[aG,hg],vO hT hd hs hav⟩⟩
 · rename_i g b hg;split at h;rotate_left
   · split at h<;>try (cases h;done)
     rename_i hgu;simp at h;obtain ⟨rfl,rfl⟩:=h;exact⟨hd,hn,rfl,.inr ⟨g,b,hg,.inr hgu,rfl⟩⟩
   rename_i b' hb';split at h
   · rename_i hbb;split at h<;>try (cases h;done)
     rename_i av' hav;split at h<;>simp at h;rename_i hr;obtain ⟨rfl,rfl⟩:=h;exact⟨hd,hn,hr,.inl ⟨by simp only[aG,hg,hb'];exact hbb,vO hT hd hs hav⟩⟩
   · rename_i hbb;simp at h;obtain ⟨rfl,rfl⟩:=h;exact⟨hd,hn,rfl,.inr ⟨g,b,hg,.inl ⟨b',hb',hbb⟩,rfl⟩⟩
theorem ah.run(hT:bD P T): ∀(k:Nat) (l:List Oper) (τ τ':St) (r:List Oper),FG T n ops ds σ0 k l τ=some (τ',r)→ah P B F0 w0 n ops ds σ0 r τ' K→ah P B F0 w0 n ops ds σ0 l τ K
 | 0,l,τ,τ',r,h,hk=>by simp[FG] at h;obtain ⟨rfl,rfl⟩:=h;exact hk
 | k+1,[],τ,τ',r,h,hk=>by simp[FG] at h;obtain ⟨rfl,rfl⟩:=h;exact hk
 | k+1,o::l,τ,τ',r,h,hk=>by
   simp only[FG] at h;split at h<;>try (cases h;done)
   rename_i d av hs;have ih:=ah.run hT k l _ τ' r h hk;obtain ⟨h1,h2,h3,h4⟩:=JG (B:=B) (F0:=F0) (w0:=w0) hT hs;exact⟨d,av,h1,h2,h3,h4,ih⟩
end
end Lift
namespace Lift
open Go
section
variable {P:Program} {T:Ty} {B:Nat} {F0:Nat→Prop} {w0:cX} {n:Nat} {ops:Array Oper} {ds:List Nat} {σ0 τ:St} {K:St→Prop} {o:Oper} {rest:List Oper} {d:Nat}
theorem ah.idx(hT:bD P T){xs:List D}{iv:Int}(e:D)(hd:o.dst=some d)(hdn:Nat.ble (d+1) n=true)(hg:aG ops τ o=true)(hs:σ0.get d=none)(hx:J6 T τ.get o.op=some (xs,iv))(h0:0≤iv)(he:xs[iv.toNat]?=some e)
  (h:ah P B F0 w0 n ops ds σ0 rest ((d,.rf e.flat)::τ) K):ah P B F0 w0 n ops ds σ0 (o::rest) τ K:=ah.pure hd hdn rfl hg (aN.idx hT hd hs hx h0 he) h
theorem ah.gD(hT:bD P T){xs:List D}{iv:Int}{k m:Nat}(hd:o.dst=some d)(hdn:Nat.ble (d+1) n=true)(hg:aG ops τ o=true)(hs:σ0.get d=none)(hk:pW k ds=false)(hx:F4 T τ.get σ0.get o.op=some (k,xs,0,m,iv))(h0:0≤iv)(hl:iv.toNat<m)
  (h:ah P B F0 w0 n ops ds σ0 rest ((d,.el k iv.toNat 0)::τ) K):ah P B F0 w0 n ops ds σ0 (o::rest) τ K:=ah.pure hd hdn (by simp[cE,AV.refs,hk]) hg (aN.gD hT hd hs hx h0 hl) (by rw[Nat.zero_add];exact h)
theorem ah.oX(hT:bD P T){xs:List D}{iv:Int}{k lo m:Nat}(hd:o.dst=some d)(hdn:Nat.ble (d+1) n=true)(hg:aG ops τ o=true)(hs:σ0.get d=none)(hk:pW k ds=false)(hx:F4 T τ.get σ0.get o.op=some (k,xs,lo,m,iv))(h0:0≤iv)(hl:iv.toNat<m)
  (h:ah P B F0 w0 n ops ds σ0 rest ((d,.el k (lo+iv.toNat) 0)::τ) K):ah P B F0 w0 n ops ds σ0 (o::rest) τ K:=ah.pure hd hdn (by simp[cE,AV.refs,hk]) hg (aN.gD hT hd hs hx h0 hl) h
theorem ah.df(hT:bD P T){ti:TI}{xs:List D}{i off:Nat}{x:D}(y:D)(hd:o.dst=some d)(hdn:Nat.ble (d+1) n=true)(hg:aG ops τ o=true)(hs:σ0.get d=none)(hx:NL T τ.get σ0.get o.op=some (ti,xs,i,off))(hy:xs[i]?=some y)(hav:kC ti (y.flat.drop off)=some (.d x))
  (h:ah P B F0 w0 n ops ds σ0 rest ((d,.d x)::τ) K):ah P B F0 w0 n ops ds σ0 (o::rest) τ K:=ah.pure hd hdn rfl hg (aN.df hT hd hs hx hy hav) h
theorem ah.Ej(hT:bD P T){s:Nat}{xs:List D}{lo hi:Option Int}(hd:o.dst=some d)(hdn:Nat.ble (d+1) n=true)(hg:aG ops τ o=true)(hs:σ0.get d=none)(hx:FE T τ.get o.op=some (.sl s xs,lo,hi))(g1:okB lo)(g2:okB hi)(g3:fU lo≤cV xs.length hi)(g4:cV xs.length hi≤xs.length)
  (h:ah P B F0 w0 n ops ds σ0 rest ((d,.d (.sl s ((xs.take (cV xs.length hi)).drop (fU lo))))::τ) K):ah P B F0 w0 n ops ds σ0 (o::rest) τ K:=ah.pure hd hdn rfl hg (aN.Ej hT hd hs hx g1 g2 g3 g4) h
theorem ah.call(hT:bD P T){f:FuncId}{xas:List D}{res:D}(hd:o.dst=some d)(hdn:Nat.ble (d+1) n=true)(hg:aG ops τ o=true)(hs:σ0.get d=none)(hx:tK T τ.get o.op=some (f,xas))(hP:Pure P f xas res)
  (h:ah P B F0 w0 n ops ds σ0 rest ((d,.d res)::τ) K):ah P B F0 w0 n ops ds σ0 (o::rest) τ K:=ah.pure hd hdn rfl hg (aN.call hT hd hs hx hP) h
theorem ah.nY(hT:bD P T){e:Nat}{te:TI}{xs:List D}(hd:o.dst=some d)(hdn:Nat.ble (d+1) n=true)(hg:aG ops τ o=true)(hs:σ0.get d=none)(hx:Mf T τ.get σ0.get o.op=some (e,te,xs))(hlen:xs.length*te.bytes≤140737488355328)
  (h:ah P B F0 w0 n ops ds σ0 rest ((d,.d (.sl te.size xs))::τ) K):ah P B F0 w0 n ops ds σ0 (o::rest) τ K:=ah.pure hd hdn rfl hg (aN.nY hT hd hs hx hlen) h
theorem ah.mX(hT:bD P T){e:Nat}{te:TI}{xs:List D}(hd:o.dst=some d)(hdn:Nat.ble (d+1) n=true)(hg:aG ops τ o=true)(hs:σ0.get d=none)(hx:L8 T τ.get o.op=some (e,xs))(hte:T.get e=some te)
  (h:ah P B F0 w0 n ops ds σ0 rest ((d,.d (.sl te.size xs))::τ) K):ah P B F0 w0 n ops ds σ0 (o::rest) τ K:=ah.pure hd hdn rfl hg (aN.mX hT hte hd hs hx) h
theorem ah.div(hT:bD P T){q:Bool}{k:IntKind}{x y:Int}(hd:o.dst=some d)(hdn:Nat.ble (d+1) n=true)(hg:aG ops τ o=true)(hs:σ0.get d=none)(hx:Kk T τ.get o.op=some (q,k,x,y))(h0:y≠0)
  (h:ah P B F0 w0 n ops ds σ0 rest ((d,.d (.v (mW q k x y)))::τ) K):ah P B F0 w0 n ops ds σ0 (o::rest) τ K:=ah.pure hd hdn rfl hg (aN.div hT hd hs hx h0) h
theorem ah.err(hT:bD P T){q:Bool}{u:Value}(hd:o.dst=some d)(hdn:Nat.ble (d+1) n=true)(hg:aG ops τ o=true)(hs:σ0.get d=none)(hx:DJ T τ.get o.op=some (q,u))(hi:jP u=true)
  (h:ah P B F0 w0 n ops ds σ0 rest ((d,.d (.v (.bool (vY u==q))))::τ) K):ah P B F0 w0 n ops ds σ0 (o::rest) τ K:=ah.pure hd hdn rfl hg (aN.err hT hd hs hx hi) h
theorem ah.be(hT:bD P T){q x y:Bool}(hd:o.dst=some d)(hdn:Nat.ble (d+1) n=true)(hg:aG ops τ o=true)(hs:σ0.get d=none)(hx:Om T τ.get o.op=some (q,x,y))
  (h:ah P B F0 w0 n ops ds σ0 rest ((d,.d (.v (.bool ((x==y)==q))))::τ) K):ah P B F0 w0 n ops ds σ0 (o::rest) τ K:=ah.pure hd hdn rfl hg (aN.be hT hd hs hx) h
theorem AW.aL{σ:St}{x:Code}{Q:Exit→St→Prop}{S:Type}(ks:List Nat)(mk:S→St)(I:S→Prop)(μ:S→Nat)(s0:S)(h0:σ.dJ ks=mk s0)(hI:I s0)
  (hb: ∀s,I s→AW P B F0 w0 n x (qk (fun σ'=> ∃s',σ'.dJ ks=mk s'∧I s'∧μ s'<μ s) Q) (mk s)):AW P B F0 w0 n (.loop x) Q σ:=by
 refine AW.dJ ks ?_;rw[h0]
 have hex: ∀σ,(∃s,mk s=σ∧I s)→ ∃m,(∃s,μ s=m∧mk s=σ∧I s)∧ ∀s,mk s=σ→I s→m≤μ s:=fun σ ⟨s,h1,h2⟩=>by
  let p:Nat→Prop:=fun m=> ∃s,μ s=m∧mk s=σ∧I s
  have key: ∀k m,m≤k→p m→ ∃m0,p m0∧ ∀m',p m'→m0≤m':=by
   intro k
   induction k with
   | zero=>intro m hm hp;exact⟨m,hp,fun m' _=>by omega⟩
   | succ k ih =>
     intro m hm hp;by_cases hlt: ∃m',m'≤k∧p m'
     · obtain ⟨m',h1,h2⟩:=hlt;exact ih m' h1 h2
     · exact⟨m,hp,fun m' hp'=>by
        rcases Nat.lt_or_ge k m' with h | h
        · omega
        · exact absurd ⟨m',h,hp'⟩ hlt⟩
  obtain ⟨m0,h3,h4⟩:=key (μ s) (μ s) (Nat.le_refl _) ⟨s,rfl,h1,h2⟩;exact⟨m0,h3,fun s' g1 g2=>h4 _ ⟨s',rfl,g1,g2⟩⟩
 let M:St→Nat:=fun σ=>open Classical in if h: ∃s,mk s=σ∧I s then Classical.choose (hex σ h) else 0
 have hM: ∀σ,(∃s,mk s=σ∧I s)→(∃s,μ s=M σ∧mk s=σ∧I s)∧ ∀s,mk s=σ→I s→M σ≤μ s:=fun σ h=>by
  have:=Classical.choose_spec (hex σ h);simp only[M,dif_pos h];exact this
 refine AW.loop (fun σ=> ∃s,mk s=σ∧I s) M ⟨s0,rfl,hI⟩ (fun σ hσ=>?_);obtain ⟨⟨s,h1,h2,h3⟩,_⟩:=hM σ hσ;subst h2;intro a w hR;refine wp_mono (hb s h3 a w hR) fun e a' w' ⟨σ',hq,hR'⟩=>?_;cases e with
 | normal =>
   obtain ⟨s',g1,g2,g3⟩:=hq;refine⟨mk s',⟨⟨s',rfl,g2⟩,?_⟩,by rw[← g1];exact hR'.dJ ks⟩;have:=(hM (mk s') ⟨s',rfl,g2⟩).2 s' rfl g2;omega
 | _=>exact⟨σ',hq,hR'⟩
end
end Lift
