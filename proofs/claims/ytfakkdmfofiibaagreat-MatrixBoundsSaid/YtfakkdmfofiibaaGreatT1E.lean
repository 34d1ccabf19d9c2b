/- Parts of the proof, one behind the other: the logic, the contracts of the functions that the statement reaches. -/
import Derived.Test.YtfakkdmfofiibaaGreatT1D
set_option linter.unusedVariables false
set_option linter.unusedSimpArgs false
namespace Lift
open Go Go.Proofs
abbrev sh(Vs:List Value):List D:=Vs.map D.v
theorem bB{Vs:List Value}{i:Nat}(h:i<Vs.length):(sh Vs)[i]?=some (.v (Vs.getD i undef)):=by simp[h]
abbrev OA(Vs:List Value):AV:=AV.ow 22 (sh Vs)
abbrev CA(cols:List Nat):AV:=AV.ow 3 (cols.map (fun c:Nat=>dI c))
def bC(Vs:List Value)(a:bq):List LR:=List.zipWith (fun V r=>(V,fk r)) Vs a
theorem BF{Vs:List Value}{a:bq}(h:Vs.length=a.length)(V:Value)(r:List NQ):bC (Vs++[V]) (a++[r])=bC Vs a++[(V,fk r)]:=by
 unfold bC;rw[List.zipWith_append h];rfl
theorem gC{Vs:List Value}{a:bq}{j:Nat}(hV:j<Vs.length)(ha:j<a.length):(bC Vs a)[j]?=some (Vs.getD j undef,fk (a.getD j [])):=by
 unfold bC;simp[List.getElem?_zipWith,hV,ha]
theorem rI{Vs:List Value}{a:bq}{j:Nat}(hV:j<Vs.length)(ha:j<a.length)(V:Value)(r:List NQ):(bC Vs a).set j (V,fk r)=bC (Vs.set j V) (a.set j r):=by
 unfold bC;refine List.ext_getElem? (fun k=>?_);by_cases hk:k=j
 · subst hk;rw[List.getElem?_set_self (by simp;omega)];simp[List.getElem?_zipWith,hV,ha]
 · rw[List.getElem?_set_ne (Ne.symm hk)];simp[List.getElem?_zipWith,List.getElem?_set_ne (Ne.symm hk)]
theorem z8{Vs:List Value}{j:Nat}(hV:j<Vs.length):Vs.set j (Vs.getD j undef)=Vs:=by
 refine List.ext_getElem? (fun k=>?_);by_cases hk:k=j
 · subst hk;rw[List.getElem?_set_self hV];simp[hV]
 · rw[List.getElem?_set_ne (Ne.symm hk)]
theorem u5{a:bq}{j:Nat}(ha:j<a.length):a.set j (a.getD j [])=a:=by
 refine List.ext_getElem? (fun k=>?_);by_cases hk:k=j
 · subst hk;rw[List.getElem?_set_self ha];simp[ha]
 · rw[List.getElem?_set_ne (Ne.symm hk)]
theorem pW{Vs:List Value}{a:bq}{j:Nat}(hV:j<Vs.length)(ha:j<a.length)(r:List NQ):(bC Vs a).set j (Vs.getD j undef,fk r)=bC Vs (a.set j r):=by
 rw[rI hV ha,z8 hV]
def Er(Vs:List Value)(r t:Nat):List Value:=(Vs.set t (Vs.getD r undef)).set r (Vs.getD t undef)
theorem BR(Vs:List Value)(r t:Nat):(Er Vs r t).length=Vs.length:=by unfold Er;rw[List.length_set,List.length_set]
theorem BE{Vs:List Value}{a:bq}{r t:Nat}(h:Vs.length=a.length)(hr:r<a.length)(ht:t<a.length):
  ((bC Vs a).set t (Vs.getD r undef,fk (a.getD r []))).set r (Vs.getD t undef,fk (a.getD t []))=bC (Er Vs r t) (BQ a r t):=by
 rw[rI (by omega) ht,rI (by simp;omega) (by simp;omega)];rfl
theorem BD{Vs:List Value}{a:bq}{i r:Nat}(h:Vs.length=a.length)(hi:i<a.length)(hr:r<a.length)(hir:i≠r)(z:List NQ):
  ((bC Vs a).set i (Vs.getD i undef,fk z)).set r (Vs.getD r undef,fk (a.getD r []))=bC Vs (a.set i z):=by
 rw[pW (by omega) hi];have e:a.getD r []=(a.set i z).getD r []:=by rw[gf,if_neg (fun g=>hir g.1.symm)]
 rw[e,pW (by omega) (by simpa using hr),u5 (by simpa using hr)]
section
variable {P:Program} {T:Ty} {B:Nat} {F0:Nat→Prop} {w0:bS} {n:Nat} {σ τ:St} {K:St→Prop} {all:Array Oper} {o:Oper} {d:Nat} {rest:List Oper} {R:List LR} {x:Code} {Q:Exit→List LR→St→Prop}
theorem ab.xW(hT:bc P T){k e i:Nat}{Vs:List Value}(V:Value)(hd:o.dst=none)(hg:au all σ o=true)(hx:x8 T σ o.op=some (k,.ow e (sh Vs),sh Vs,i,0,.v V))(hi:i<Vs.length)
  (h:ab P B F0 w0 n all rest K ((k,.ow e (sh (Vs.set i V)))::σ)):ab P B F0 w0 n all (o::rest) K σ:=by
 refine ab.im hT (.v (Vs.getD i undef)) hd hg hx (bB hi) rfl ?_;show ab P B F0 w0 n all rest K ((k,.ow e ((sh Vs).set i (.v V)))::σ);rw[show (sh Vs).set i (.v V)=sh (Vs.set i V) from (List.map_set ..).symm];exact h
theorem AZ.AX(hT:bc P T){e eo:Nat}{te:TI}(he:T.get e=some te)(h1:te.size=1){Vr:Value}{X:LR}{Vs:List Value}{a:bq}(hl:Vs.length=a.length)
  (h:AZ P B F0 w0 n x Q [(Vr,.ow eo (a.map fi)),X] σ): ∀(m k:Nat),m+k=a.length→ ∀L:List LR,(∀j,k≤j→j<a.length→L[j]?=some (Vs.getD j undef,.ow e ((a.getD j []).map af))) →
  AZ P B F0 w0 n x Q ((Vr,.ow eo ((a.take k).map fi++(sh Vs).drop k))::X::L) σ
 | 0,k,hk,L,hL=>by
   rw[List.take_of_length_le (by omega),List.drop_eq_nil_of_le (by rw[List.length_map];omega),List.append_nil];refine AZ.De _ (fun i r hr=> .inl ?_) h
   match i,hr with
   | 0,hr=>exact hr
   | 1,hr=>exact hr
 | m+1,k,hk,L,hL=>by
   have hka:k<a.length:=by omega
   have hll:k<L.length:=(List.getElem?_eq_some_iff.1 (hL k (Nat.le_refl _) hka)).1;have hft:((a.take k).map fi).length=k:=by rw[List.length_map,List.length_take];omega
   refine AZ.DZ hT (k+2) 0 k (cs:=(a.take k).map fi++(sh Vs).drop k) rfl (fun d hd=>?_) ?_ (hL k (Nat.le_refl _) hka) (by omega) he ?_
   · rcases List.mem_append.1 hd with g | g
     · obtain ⟨r,_,rfl⟩:=List.mem_map.1 g;rfl
     · obtain ⟨V,_,rfl⟩:=List.mem_map.1 (List.mem_of_mem_drop g);rfl
   · rw[List.getElem?_append_right (by omega),hft,Nat.sub_self,List.getElem?_drop,Nat.add_zero];exact bB (by omega)
   · have e1:((a.take k).map fi++(sh Vs).drop k).set k (.sl te.size ((a.getD k []).map af))=(a.take (k+1)).map fi++(sh Vs).drop (k+1):=by
      rw[h1,List.set_append_right _ _ (by omega),hft,Nat.sub_self,List.take_succ_eq_append_getElem hka,List.map_append]
      have:(sh Vs).drop k= .v (Vs.getD k undef)::(sh Vs).drop (k+1):=by
       rw[List.drop_eq_getElem_cons (by rw[List.length_map];omega)]
       congr 1
       have:=bB (Vs:=Vs) (i:=k) (by omega);rw[List.getElem?_eq_getElem (by rw[List.length_map];omega)] at this;simpa using this
      rw[this,List.set_cons_zero,List.append_assoc];have g:a[k]=a.getD k []:=by rw[List.getD_eq_getElem?_getD,List.getElem?_eq_getElem hka];rfl
      rw[g];rfl
     show AZ P B F0 w0 n x Q ((Vr,.ow eo (((a.take k).map fi++(sh Vs).drop k).set k (.sl te.size ((a.getD k []).map af))))::X::L.set k (Vs.getD k undef,.junk)) σ;rw[e1]
     exact AZ.AX hT he h1 hl h m (k+1) (by omega) (L.set k (Vs.getD k undef,.junk)) (fun j hj hja=>by
      rw[List.getElem?_set_ne (by omega)];exact hL j (by omega) hja)
end
abbrev zu(s:gj):D:= .ag [ek s.rows,.sl 1 (s.cols.map (fun c:Nat=>dI c)),dI s.sg,af s.det]
set_option maxHeartbeats 12800000 in
theorem nW{v:List NQ}(V:lL v){a:bq}{N most:Nat}(ha0:0<a.length)(ha:a.length≤1000000)(hN:N≤1000000)(hmost:most≤N)(hr:cG N a)(hl:oF v.length a)(ok: ∀c,c<most→jD v (aV v a c) c):
  Pure Tryz.prog 46 [bP v,ek a,dI most] (.tu [zu (aV v a most),aj]):=by
 refine qJ 205 Tryz.func46 rfl rfl rfl rfl (by kernel_rfl) (fun B F0 w0=>?_);have cone:=jZ (Qr ((1:Int):Rat)) (k:=1) (iK _ (by have:=oG;rw[show ((1:Int):Rat)=1 from rfl];omega)) (by decide) (by decide) (wy _);rw[cy,show Es ((1:Int):Rat)=[1] from rfl] at cone;have htk:=fun {i:Nat} (hi:i<a.length)=>List.take_succ_eq_append_getElem (l:=a) hi;refine AZ.aw ?_;refine AZ.seq ?_;refine AZ.gp (fun B1 F1 w1=>?_);refine qU 3 rfl ?_;refine ab.nil ⟨rfl,?_⟩;refine AZ.seq ?_;refine AZ.gp (fun B1 F1 w1=>?_);refine ab.call tok rfl rfl rfl rfl (fe 1 (by decide) (by decide)) ?_;refine ab.call tok rfl rfl rfl rfl cone ?_;refine ab.Ea tok [.v eU,.v eU,dI 0,.sl 3 []] rfl rfl rfl rfl (by kernel_rfl) ?_;refine qU 2 rfl ?_;refine ab.nil ⟨rfl,?_⟩;refine AZ.ue 22 ?_;refine AZ.ue 3 ?_;refine AZ.seq ?_;refine AZ.seq ?_;refine AZ.gp (fun B1 F1 w1=>?_);refine qU 2 rfl ?_;rw[List.length_map];refine qU 1 rfl ?_;refine ab.nil ⟨rfl,?_⟩;refine AZ.block ?_;refine AZ.aE [2,3,6,7,8,22,23,24] (fun s:Nat×Value×List Value=>((s.2.1,OA s.2.2)::(eU,CA [])::bC s.2.2 (a.take s.1),[(2,.d (dI most)),(3,.bx [.sl 1 (v.map af)]),(6,.bx [.sl 1 [],.sl 1 [],dI 0,.sl 3 []]),(7,.d aj),(8,.bx [.v s.2.1,.v eU,dI 1,af [1]]),(22,.d (ek a)),(23,.d (dI a.length)),(24,.d (dI s.1))])) (fun s=>s.1≤a.length∧s.2.2.length=s.1) (fun s=>a.length-s.1) (0,eU,[]) rfl ⟨Nat.zero_le _,rfl⟩ (fun s hs=>?_);obtain ⟨i,Vr,Vs⟩:=s;obtain ⟨hi,hVs⟩:=hs
 dsimp only at hi hVs
 show AZ _ _ _ _ _ _ _ ((Vr,OA Vs)::(eU,CA [])::bC Vs (a.take i)) [(2,.d (dI most)),(3,.bx [.sl 1 (v.map af)]),(6,.bx [.sl 1 [],.sl 1 [],dI 0,.sl 3 []]),(7,.d aj),(8,.bx [.v Vr,.v eU,dI 1,af [1]]),(22,.d (ek a)),(23,.d (dI a.length)),(24,.d (dI i))];refine AZ.seq ?_;refine AZ.gp (fun B1 F1 w1=>?_);refine qU 1 rfl ?_;refine ab.nil ⟨rfl,?_⟩;refine AZ.seq ?_;refine AZ.cond rfl (fun h=>?_) (fun h=>?_)
 · have hii:i<a.length:=by have:=of_decide_eq_true h;omega
   have hg:=getM fi (l:=a) (i:=i) hii;have hrl:(a.getD i []).length≤1000000:=by rw[hr i hii];exact hN
   have htk:=htk hii;have hge:a[i]=a.getD i []:=by rw[List.getD_eq_getElem?_getD,List.getElem?_eq_getElem hii];rfl
   rw[hge] at htk;generalize a.getD i []=row at hg hrl htk;refine AZ.skip ?_;refine AZ.seq ?_;refine AZ.block ?_;refine AZ.seq ?_;refine AZ.gp (fun B1 F1 w1=>?_);refine ab.idx tok (fi row) rfl rfl rfl rfl (Int.natCast_nonneg i) hg ?_;refine qU 2 rfl ?_;refine ab.nil ⟨rfl,?_⟩;refine AZ.any aN (ZH.any (β:=[]) ?_);refine ZH.mv 2 rfl rfl (by kernel_rfl) (by kernel_rfl) (by kernel_rfl) rfl (fun _ _ _ h=>h) (fun _=>rfl) trivial (fun B1 F1 w1=>?_);refine qU 1 rfl ?_;refine ab.nil ⟨rfl,?_⟩;refine ZH.fd tok 0 rfl rfl (by kernel_rfl) (by kernel_rfl) (by kernel_rfl) rfl (fun _ _ _ h=>h) (fun _=>rfl) trivial (fun B1 F1 w1=>?_);refine qU 1 rfl ?_;refine ab.nil ⟨rfl,?_⟩;refine ZH.meet 3 (qB 8 31) (fun V=>(((Vr,OA Vs)::(eU,CA [])::bC Vs (a.take i))++[(V,fk row)])) (fun V=>[(2,.d (dI most)),(3,.bx [.sl 1 (v.map af)]),(6,.bx [.sl 1 [],.sl 1 [],dI 0,.sl 3 []]),(7,.d aj),(8,.bx [.v Vr,.v eU,dI 1,af [1]]),(22,.d (ek a)),(23,.d (dI a.length)),(24,.d (dI i)),(10,.d (fi row)),(30,.d (fi row)),(28,.pt 8 0),(29,.d (.v Vr)),(31,.d (.v V)),(32,.d (.sl 1 [.v V]))]) (fun V=>?_) (fun N1_2=>?_)
   · refine ZH.all 5 (by kernel_rfl) rfl rfl (fun _=>rfl) trivial ?_;refine ai.fh 29 0 rfl rfl rfl ?_;refine ai.cut 1 rfl (fun B1 F1 w1=>?_);refine ab.jC tok rfl rfl rfl rfl rfl rfl (by show ((sh Vs).length+1)*24≤_;rw[List.length_map];omega) (by show (sh Vs).length+1≤_;rw[List.length_map];omega) ?_;refine ab.nil ⟨rfl,?_⟩;refine ai.vO 33 0 rfl rfl rfl rfl (fun Vq=>?_)
     refine ai.ru (R':=(Vq,OA (Vs++[V]))::(eU,CA [])::bC (Vs++[V]) (a.take (i+1))) (by
      show (Vq,AV.ow 22 (sh Vs++[.v V]))::(eU,CA [])::(bC Vs (a.take i)++[(V,fk row)])=_
      rw[htk,BF (by rw[List.length_take];omega),show sh Vs++[.v V]=sh (Vs++[V]) by simp]) ?_
     refine ai.nil ?_;refine ZH.to [2,3,6,7,8,22,23,24,10,30,28,32,33] [(2,.d (dI most)),(3,.bx [.sl 1 (v.map af)]),(6,.bx [.sl 1 [],.sl 1 [],dI 0,.sl 3 []]),(7,.d aj),(8,.bx [.v Vr,.v eU,dI 1,af [1]]),(22,.d (ek a)),(23,.d (dI a.length)),(24,.d (dI i)),(10,.d (fi row)),(30,.d (fi row)),(28,.pt 8 0),(32,.d (.sl 1 [.v V])),(33,.d (.v Vq))] rfl trivial ?_;refine ZH.all 6 (by kernel_rfl) rfl rfl (fun _=>rfl) trivial ?_;refine ak (fun B1 F1 w1=>?_);refine qU 1 rfl ?_;refine ab.nil ⟨rfl,?_⟩;refine ZH.all 7 (by kernel_rfl) rfl rfl (fun _=>rfl) trivial ?_;refine ak (fun B1 F1 w1=>?_);refine qU 1 rfl ?_;refine ab.nil ⟨rfl,?_⟩;refine ZH.done (by kernel_rfl) trivial ?_;refine AZ.to [2,3,6,7,8,22,23,24] [(2,.d (dI most)),(3,.bx [.sl 1 (v.map af)]),(6,.bx [.sl 1 [],.sl 1 [],dI 0,.sl 3 []]),(7,.d aj),(8,.bx [.v Vq,.v eU,dI 1,af [1]]),(22,.d (ek a)),(23,.d (dI a.length)),(24,.d (dI i))] rfl ?_;refine AZ.gp (fun B1 F1 w1=>?_);refine qU 1 rfl ?_;rw[aC (x:=(i:Int)+1) (by omega) (by omega)];refine qU 1 rfl ?_;refine ab.nil ⟨rfl,?_⟩;exact⟨(i+1,Vq,Vs++[V]),rfl,⟨hii,by show (Vs++[V]).length=i+1;rw[List.length_append];show Vs.length+1=_;omega⟩,by show a.length-(i+1)<a.length-i;omega⟩
   refine ZH.meet 4 (qB 8 29) (fun V=>(((Vr,OA Vs)::(eU,CA [])::bC Vs (a.take i))++[(V,fk row)])) (fun V=>[(2,.d (dI most)),(3,.bx [.sl 1 (v.map af)]),(6,.bx [.sl 1 [],.sl 1 [],dI 0,.sl 3 []]),(7,.d aj),(8,.bx [.v Vr,.v eU,dI 1,af [1]]),(22,.d (ek a)),(23,.d (dI a.length)),(24,.d (dI i)),(10,.d (fi row)),(30,.d (fi row)),(28,.pt 8 0),(31,.d (.v V)),(32,.d (.sl 1 [.v V]))]) (fun V=>?_) (fun N0_2=>?_)
   · refine ZH.all 1 (by kernel_rfl) rfl rfl (fun _=>rfl) trivial ?_;refine ak (fun B1 F1 w1=>?_);refine qU 1 rfl ?_;refine ab.nil ⟨rfl,?_⟩;exact qL (N1_2 V) (by kernel_rfl) rfl trivial
   refine ZH.meet 4 (qB 8 15) (fun V=>(((Vr,OA Vs)::(eU,CA [])::bC Vs (a.take i))++[(V,fk row)])) (fun V=>[(2,.d (dI most)),(3,.bx [.sl 1 (v.map af)]),(6,.bx [.sl 1 [],.sl 1 [],dI 0,.sl 3 []]),(7,.d aj),(8,.bx [.v Vr,.v eU,dI 1,af [1]]),(22,.d (ek a)),(23,.d (dI a.length)),(24,.d (dI i)),(10,.d (fi row)),(30,.d (fi row)),(28,.pt 8 0),(29,.d (.v Vr)),(31,.d (.v V))]) (fun V=>?_) (fun N1_1=>?_)
   · refine ZH.all 4 (by kernel_rfl) rfl rfl (fun _=>rfl) trivial ?_;refine ak (fun B1 F1 w1=>?_);refine ab.fU tok rfl rfl rfl rfl rfl ?_;refine ab.nil ⟨rfl,?_⟩;exact qL (N1_2 V) (by kernel_rfl) rfl trivial
   refine ZH.meet 5 (qB 8 13) (fun V=>(((Vr,OA Vs)::(eU,CA [])::bC Vs (a.take i))++[(V,fk row)])) (fun V=>[(2,.d (dI most)),(3,.bx [.sl 1 (v.map af)]),(6,.bx [.sl 1 [],.sl 1 [],dI 0,.sl 3 []]),(7,.d aj),(8,.bx [.v Vr,.v eU,dI 1,af [1]]),(22,.d (ek a)),(23,.d (dI a.length)),(24,.d (dI i)),(10,.d (fi row)),(30,.d (fi row)),(28,.pt 8 0),(31,.d (.v V))]) (fun V=>?_) (fun N0_1=>?_)
   · refine ZH.two 1 4 (by kernel_rfl) rfl rfl rfl rfl (fun _=>rfl) (fun _=>rfl) trivial ?_ ?_
     · refine ak (fun B1 F1 w1=>?_);refine qU 1 rfl ?_;refine ab.nil ⟨rfl,?_⟩;exact qL (N1_1 V) (by kernel_rfl) rfl trivial
     · refine ak (fun B1 F1 w1=>?_);refine ab.fU tok rfl rfl rfl rfl rfl ?_;refine ab.nil ⟨rfl,?_⟩;exact qL (N0_2 V) (by kernel_rfl) rfl trivial
   refine ZH.meet 5 (qB 8 7) (fun V=>((Vr,OA Vs)::(eU,CA [])::bC Vs (a.take i))) (fun V=>[(2,.d (dI most)),(3,.bx [.sl 1 (v.map af)]),(6,.bx [.sl 1 [],.sl 1 [],dI 0,.sl 3 []]),(7,.d aj),(8,.bx [.v Vr,.v eU,dI 1,af [1]]),(22,.d (ek a)),(23,.d (dI a.length)),(24,.d (dI i)),(10,.d (fi row)),(30,.d (fi row)),(28,.pt 8 0),(29,.d (.v Vr))]) (fun V=>?_) (fun N1_0=>?_)
   · refine ZH.all 3 (by kernel_rfl) rfl rfl (fun _=>rfl) trivial ?_;refine ai.kD tok [] rfl rfl rfl rfl rfl List.nodup_nil rfl (wj row hrl) (fun _ _ _=>Nat.zero_le _) (fun res R1 hP=>?_);obtain ⟨V,rfl,rfl⟩:=hP;refine ai.nil ?_;exact qL (N1_1 V) (by kernel_rfl) rfl trivial
   refine ZH.meet 6 (qB 8 5) (fun V=>((Vr,OA Vs)::(eU,CA [])::bC Vs (a.take i))) (fun V=>[(2,.d (dI most)),(3,.bx [.sl 1 (v.map af)]),(6,.bx [.sl 1 [],.sl 1 [],dI 0,.sl 3 []]),(7,.d aj),(8,.bx [.v Vr,.v eU,dI 1,af [1]]),(22,.d (ek a)),(23,.d (dI a.length)),(24,.d (dI i)),(10,.d (fi row)),(30,.d (fi row)),(28,.pt 8 0)]) (fun V=>?_) (fun N0_0=>?_)
   · refine ZH.two 1 3 (by kernel_rfl) rfl rfl rfl rfl (fun _=>rfl) (fun _=>rfl) trivial ?_ ?_
     · refine ak (fun B1 F1 w1=>?_);refine qU 1 rfl ?_;refine ab.nil ⟨rfl,?_⟩;exact qL (N1_0 V) (by kernel_rfl) rfl trivial
     · refine ai.kD tok [] rfl rfl rfl rfl rfl List.nodup_nil rfl (wj row hrl) (fun _ _ _=>Nat.zero_le _) (fun res R1 hP=>?_);obtain ⟨V,rfl,rfl⟩:=hP;refine ai.nil ?_;exact qL (N0_1 V) (by kernel_rfl) rfl trivial
   exact qL (N0_0 eU) (by kernel_rfl) rfl trivial
 have hii:i=a.length:=by have:=of_decide_eq_false h;omega
 subst hii;rw[List.take_length];refine AZ.exit ?_;refine AZ.seq ?_;refine AZ.seq ?_;refine AZ.gp (fun B1 F1 w1=>?_);refine qU 2 rfl ?_;refine ab.nil ⟨rfl,?_⟩;refine AZ.block ?_;refine AZ.aE [3,6,7,8,36,37] (fun z:Nat×Value×Value×List Value=>((z.2.1,OA z.2.2.2)::(z.2.2.1,CA (aV v a z.1).cols)::bC z.2.2.2 (aV v a z.1).rows,[(3,.bx [.sl 1 (v.map af)]),(6,.bx [.sl 1 [],.sl 1 [],dI 0,.sl 3 []]),(7,.d aj),(8,.bx [.v z.2.1,.v z.2.2.1,dI (aV v a z.1).sg,af (aV v a z.1).det]),(36,.d (dI most)),(37,.d (dI z.1))])) (fun z=>z.1≤most∧z.2.2.2.length=a.length) (fun z=>most-z.1) (0,Vr,eU,Vs) rfl ⟨Nat.zero_le _,hVs⟩ (fun z hz=>?_);clear hVs;clear Vr Vs;obtain ⟨c,Vr,Vc,Vs⟩:=z;obtain ⟨hc,hVs⟩:=hz
 dsimp only at hc hVs
 have hR:=gO V hr hl c;have hnext:aV v a (c+1)=eG v (aV v a c) c:=rfl;have hok:=ok c;obtain ⟨s,hs⟩: ∃s,aV v a c=s:=⟨_,rfl⟩;rw[hs] at hR hnext hok;show AZ _ _ _ _ _ _ _ ((Vr,OA Vs)::(Vc,CA (aV v a c).cols)::bC Vs (aV v a c).rows) [(3,.bx [.sl 1 (v.map af)]),(6,.bx [.sl 1 [],.sl 1 [],dI 0,.sl 3 []]),(7,.d aj),(8,.bx [.v Vr,.v Vc,dI (aV v a c).sg,af (aV v a c).det]),(36,.d (dI most)),(37,.d (dI c))];rw[hs];refine AZ.seq ?_;refine AZ.gp (fun B1 F1 w1=>?_);refine qU 1 rfl ?_;refine ab.nil ⟨rfl,?_⟩;refine AZ.seq ?_;refine AZ.cond rfl (fun h=>?_) (fun h=>?_);rotate_left
 · have hcm:c=most:=by have:=of_decide_eq_false h;omega
   subst hcm;rw[hs];refine AZ.exit ?_;refine AZ.De ((Vr,AV.ow 22 ((s.rows.take 0).map fi++(sh Vs).drop 0))::(Vc,CA s.cols)::bC Vs s.rows) (fun _ _ h=> .inl h) ?_;refine AZ.AX (te:=_) tok (e:=53) rfl rfl (by rw[hR.len];exact hVs) ?_ s.rows.length 0 (by omega) (bC Vs s.rows) (fun j _ hj=>gC (by rw[hVs,← hR.len];exact hj) hj);refine AZ.CF tok 8 0 0 rfl rfl rfl rfl ?_;refine AZ.CF tok 8 1 1 rfl rfl rfl rfl ?_;refine AZ.seq ?_;refine AZ.gp (fun B1 F1 w1=>?_);refine qU 3 rfl ?_;refine ab.nil ⟨rfl,?_⟩;exact AZ.ret rfl
 have hcm:c<most:=by have:=of_decide_eq_true h;omega
 have hok:=hok hcm;have hm:=hR.len;have hcN:c<N:=by omega
 have hVm:Vs.length=s.rows.length:=by omega
 have hrm:=hR.cm;rw[← hm] at hrm;obtain ⟨hat1,hat2,hat3,hat4⟩:=gY v s c hrm;have hrow0:0<s.rows.length:=by omega
 have hm6:s.rows.length≤1000000:=by omega
 have hel: ∀{b:bq} {i:Nat},cG N b→i<b.length→ ∀k,k<N→((b.getD i []).map af)[k]?=some (af (bU b i k)):=fun {b i} hb hi k hk=>getM af (by rw[hb i hi];exact hk);refine AZ.skip ?_;refine AZ.seq ?_;refine AZ.block ?_;refine AZ.seq ?_;refine AZ.gp (fun B1 F1 w1=>?_);refine qU 2 rfl ?_;refine ab.nil ⟨rfl,?_⟩;refine AZ.seq ?_;refine AZ.region ?_;refine ai.cut 2 rfl (fun B1 F1 w1=>?_);refine qU 2 rfl ?_;refine ab.nil ⟨rfl,?_⟩;refine ai.fh 41 1 rfl rfl rfl ?_;refine ai.cut 1 rfl (fun B1 F1 w1=>?_);refine qU 1 rfl ?_;rw[List.length_map];refine ab.nil ⟨rfl,?_⟩;refine ai.back 41 1 rfl rfl rfl (List.Mem.head _) rfl ?_;refine ai.cut 1 rfl (fun B1 F1 w1=>?_);refine qU 1 rfl ?_;refine ab.nil ⟨rfl,?_⟩;refine ai.nil ?_;refine AZ.to [3,6,7,8,11,12,36,37] [(3,.bx [.sl 1 (v.map af)]),(6,.bx [.sl 1 [],.sl 1 [],dI 0,.sl 3 []]),(7,.d aj),(8,.bx [.v Vr,.v Vc,dI s.sg,af s.det]),(11,.d (dI c)),(12,.d (dI s.cols.length)),(36,.d (dI most)),(37,.d (dI c))] rfl ?_;refine AZ.seq ?_;refine AZ.gp (fun B1 F1 w1=>?_);refine qU 2 rfl ?_;refine ab.nil ⟨rfl,?_⟩;refine AZ.cut [3,6,7,8,11,12,13,36,37] (fun _:Unit=>(((Vr,OA Vs)::(Vc,CA s.cols)::bC Vs s.rows),[(3,.bx [.sl 1 (v.map af)]),(6,.bx [.sl 1 [],.sl 1 [],dI 0,.sl 3 []]),(7,.d aj),(8,.bx [.v Vr,.v Vc,dI s.sg,af s.det]),(11,.d (dI c)),(12,.d (dI s.cols.length)),(13,.d (dI (atR v s c))),(36,.d (dI most)),(37,.d (dI c))])) (fun _=>True) ?_ (fun _ _=>?_)
 · refine AZ.block ?_;refine AZ.aE [3,6,7,8,11,12,13,36,37] (fun j:Nat=>(((Vr,OA Vs)::(Vc,CA s.cols)::bC Vs s.rows),[(3,.bx [.sl 1 (v.map af)]),(6,.bx [.sl 1 [],.sl 1 [],dI 0,.sl 3 []]),(7,.d aj),(8,.bx [.v Vr,.v Vc,dI s.sg,af s.det]),(11,.d (dI c)),(12,.d (dI s.cols.length)),(13,.d (dI j)),(36,.d (dI most)),(37,.d (dI c))])) (fun j=>s.cols.length≤j∧j≤s.rows.length∧gw (EP v s.rows c) (s.rows.length-j) j=atR v s c) (fun j=>s.rows.length-j) s.cols.length rfl ⟨Nat.le_refl _,hrm,rfl⟩ (fun j hj=>?_);show AZ _ _ _ _ _ _ _ ((Vr,OA Vs)::(Vc,CA s.cols)::bC Vs s.rows) [(3,.bx [.sl 1 (v.map af)]),(6,.bx [.sl 1 [],.sl 1 [],dI 0,.sl 3 []]),(7,.d aj),(8,.bx [.v Vr,.v Vc,dI s.sg,af s.det]),(11,.d (dI c)),(12,.d (dI s.cols.length)),(13,.d (dI j)),(36,.d (dI most)),(37,.d (dI c))];obtain ⟨j1,j2,j3⟩:=hj;refine AZ.seq ?_;refine AZ.seq ?_;refine AZ.any aN (wx.yD 18 (by kernel_rfl) (fun B1 F1 w1 hS=>?_));have hS0:=hS.at (i:=0) rfl (by rw[List.length_map];omega);refine qP 3 rfl ?_;refine ae.lens tok hS0 rfl rfl rfl rfl rfl ?_;rw[List.length_map];refine qP 1 rfl ?_;by_cases hjm:j<s.rows.length;rotate_left
   · rw[vZ hjm] at j3;rw[decide_eq_false (show ¬(j:Int)<(Vs.length:Int) by omega)];refine qP 13 rfl ?_;refine ae.nil ⟨rfl,?_⟩;refine ai.nil ?_;refine AZ.aB rfl ?_;exact AZ.exit ⟨(),by rw[← j3];rfl,trivial⟩
   rw[decide_eq_true (show (j:Int)<(Vs.length:Int) by omega)];have hj6:(s.rows.getD j []).length=N:=hR.rect j hjm;have hS1:=hS.at (i:=j+2) (gC (Vs:=Vs) (by omega) hjm) (by rw[List.length_map];omega);have cs:=kp V (hR.lt j c) (hok.sg j j1 hjm);have hnz:EP v s.rows c j=decide (pc v (bU s.rows j c)≠0):=rfl;generalize pc v (bU s.rows j c)=g at cs hnz;refine qP 5 rfl ?_;refine ae.idxs tok hS0 rfl rfl rfl rfl rfl (Int.natCast_nonneg j) (by rw[List.length_map];omega) ?_;refine ae.aY tok (.v (Vs.getD j undef)) hS0 rfl rfl rfl rfl rfl rfl rfl (bB (by omega)) rfl ?_;refine qP 1 rfl ?_;refine ae.idxs tok hS1 rfl rfl rfl rfl rfl (Int.natCast_nonneg c) (by rw[List.length_map];omega) ?_;refine ae.aY tok (af (bU s.rows j c)) hS1 rfl rfl rfl rfl rfl rfl rfl (hel hR.rect hjm c hcN) rfl ?_;refine ae.call tok rfl rfl rfl rfl rfl cs ?_;refine qP 2 rfl ?_;refine ae.nil ⟨rfl,?_⟩;refine ai.nil ?_;refine AZ.cond rfl (fun h=>?_) (fun h=>?_)
   · have hg:g=0:=beq_iff_eq.1 h;refine AZ.skip ?_;refine AZ.block ?_;refine AZ.gp (fun B1 F1 w1=>?_);refine qU 2 rfl ?_;rw[aC (x:=(j:Int)+1) (by omega) (by omega)];refine qU 1 rfl ?_;refine ab.nil ⟨rfl,?_⟩;exact⟨j+1,rfl,⟨by omega,hjm,by rw[← sY hjm (by rw[hnz,hg];rfl)];exact j3⟩,by omega⟩
   · have hg:g≠0:=beq_eq_false_iff_ne.1 h;rw[vY hjm (by rw[hnz,decide_eq_true hg])] at j3;exact AZ.exit ⟨(),by rw[← j3];rfl,trivial⟩
 show AZ _ _ _ _ _ _ _ ((Vr,OA Vs)::(Vc,CA s.cols)::bC Vs s.rows) [(3,.bx [.sl 1 (v.map af)]),(6,.bx [.sl 1 [],.sl 1 [],dI 0,.sl 3 []]),(7,.d aj),(8,.bx [.v Vr,.v Vc,dI s.sg,af s.det]),(11,.d (dI c)),(12,.d (dI s.cols.length)),(13,.d (dI (atR v s c))),(36,.d (dI most)),(37,.d (dI c))];refine AZ.seq ?_;refine AZ.seq ?_;refine AZ.Af (fun B1 F1 w1 hS=>?_);refine qU 3 rfl ?_;refine ab.lens tok (hS.at (i:=0) rfl (by rw[List.length_map];omega)) rfl rfl rfl rfl ?_;rw[List.length_map];refine qU 1 rfl ?_;refine ab.nil ⟨rfl,?_⟩;refine AZ.cond rfl (fun h=>?_) (fun h=>?_)
 · have hat: ¬atR v s c<s.rows.length:=by have:=of_decide_eq_true h;omega
   have hst:aV v a (c+1)=s:=by rw[hnext];unfold eG;rw[if_neg hat]
   refine AZ.exit ?_;refine AZ.gp (fun B1 F1 w1=>?_);refine qU 1 rfl ?_;rw[aC (x:=(c:Int)+1) (by omega) (by omega)];refine qU 1 rfl ?_;refine ab.nil ⟨rfl,?_⟩;exact⟨(c+1,Vr,Vc,Vs),by rw[hst];rfl,⟨hcm,hVs⟩,by show most-(c+1)<most-c;omega⟩
 have hat:atR v s c<s.rows.length:=by have:=of_decide_eq_false h;omega
 have hst:aV v a (c+1)=⟨cU v (eR v s c) s.cols.length c (eR v s c).length,s.cols++[c],if atR v s c=s.cols.length then s.sg else -s.sg,mW v s.det (pR v s c)⟩:=by rw[hnext];unfold eG;rw[if_pos hat]
 obtain ⟨hb1,hb2,hb3⟩:=wq (c:=c) hR hat;obtain ⟨he1,he2,he3⟩:=yC V (c:=c) hR hat;have hbr:bR v s c=if atR v s c=s.cols.length then s.rows else BQ s.rows s.cols.length (atR v s c):=rfl
 have hpr:pR v s c=bU (bR v s c) s.cols.length c:=rfl;have hE:eR v s c=(bR v s c).set s.cols.length (wA v ((bR v s c).getD s.cols.length []) (pR v s c)):=rfl;have okd:=hok.det hat;have okv:=hok.div hat;have oks:=hok.sg2 hat;have okt:=hok.take hat;generalize bR v s c=b at *;generalize pR v s c=p at *;generalize eR v s c=e at *;generalize atR v s c=t at *;refine AZ.skip ?_;refine AZ.cut [3,6,7,8,11,12,36,37] (fun Ws:List Value=>(((Vr,OA Ws)::(Vc,CA s.cols)::bC Ws b),[(3,.bx [.sl 1 (v.map af)]),(6,.bx [.sl 1 [],.sl 1 [],dI 0,.sl 3 []]),(7,.d aj),(8,.bx [.v Vr,.v Vc,dI (if t=s.cols.length then s.sg else -s.sg),af s.det]),(11,.d (dI c)),(12,.d (dI s.cols.length)),(36,.d (dI most)),(37,.d (dI c))])) (fun Ws=>Ws.length=b.length) ?_ (fun Ws hWs=>?_)
 · refine AZ.seq ?_;refine AZ.gp (fun B1 F1 w1=>?_);refine qU 3 rfl ?_;refine ab.nil ⟨rfl,?_⟩;by_cases htr:t=s.cols.length
   · rw[if_pos htr] at hbr;rw[bne_eq_false_iff_eq.2 (show (t:Int)=(s.cols.length:Int) by omega)];refine AZ.aB rfl ?_;refine AZ.skip ?_;exact⟨Vs,by rw[if_pos htr,hbr];rfl,by omega⟩
   rw[if_neg htr] at hbr;rw[bne_iff_ne.2 (show (t:Int)≠(s.cols.length:Int) by omega)];refine AZ.aH rfl ?_;refine AZ.seq ?_;refine AZ.any aN (ZH.any (β:=[(8,[.v Vr,.v Vc,dI s.sg,af s.det])]) ?_);refine ZH.mv 2 rfl rfl (by kernel_rfl) (by kernel_rfl) (by kernel_rfl) rfl (fun _ _ _ h=>h) (fun _=>rfl) ⟨rfl,trivial⟩ (fun B1 F1 w1=>?_);refine qU 1 rfl ?_;refine ab.nil ⟨rfl,?_⟩;refine ZH.mv 5 rfl rfl (by kernel_rfl) (by kernel_rfl) (by kernel_rfl) rfl (fun _ _ _ h=>h) (fun _=>rfl) ⟨rfl,trivial⟩ (fun B1 F1 w1=>?_);refine qU 1 rfl ?_;refine ab.nil ⟨rfl,?_⟩;refine ZH.mv 8 rfl rfl (by kernel_rfl) (by kernel_rfl) (by kernel_rfl) rfl (fun _ _ _ h=>h) (fun _=>rfl) ⟨rfl,trivial⟩ (fun B1 F1 w1=>?_);refine qU 1 rfl ?_;refine ab.nil ⟨rfl,?_⟩;refine ZH.mv 13 rfl rfl (by kernel_rfl) (by kernel_rfl) (by kernel_rfl) rfl (fun _ _ _ h=>h) (fun _=>rfl) ⟨rfl,trivial⟩ (fun B1 F1 w1=>?_);refine qU 1 rfl ?_;refine ab.nil ⟨rfl,?_⟩;refine ZH.fd tok 0 rfl rfl (by kernel_rfl) (by kernel_rfl) (by kernel_rfl) rfl (fun _ _ _ h=>h) (fun _=>rfl) ⟨rfl,trivial⟩ (fun B1 F1 w1=>?_);refine qU 1 rfl ?_;refine ab.nil ⟨rfl,?_⟩;refine ZH.fd tok 3 rfl rfl (by kernel_rfl) (by kernel_rfl) (by kernel_rfl) rfl (fun _ _ _ h=>h) (fun _=>rfl) ⟨rfl,trivial⟩ (fun B1 F1 w1=>?_);refine qU 1 rfl ?_;refine ab.nil ⟨rfl,?_⟩;refine ZH.fd tok 6 rfl rfl (by kernel_rfl) (by kernel_rfl) (by kernel_rfl) rfl (fun _ _ _ h=>h) (fun _=>rfl) ⟨rfl,trivial⟩ (fun B1 F1 w1=>?_);refine qU 1 rfl ?_;refine ab.nil ⟨rfl,?_⟩;refine ZH.fd tok 11 rfl rfl (by kernel_rfl) (by kernel_rfl) (by kernel_rfl) rfl (fun _ _ _ h=>h) (fun _=>rfl) ⟨rfl,trivial⟩ (fun B1 F1 w1=>?_);refine qU 1 rfl ?_;refine ab.nil ⟨rfl,?_⟩;refine ZH.ld tok 1 rfl rfl (by kernel_rfl) (by kernel_rfl) (by kernel_rfl) rfl rfl (fun _ _ _ h=>h) (fun _=>rfl) ⟨rfl,trivial⟩ (fun B1 F1 w1=>?_);refine qU 1 rfl ?_;refine ab.nil ⟨rfl,?_⟩;refine ZH.ld tok 4 rfl rfl (by kernel_rfl) (by kernel_rfl) (by kernel_rfl) rfl rfl (fun _ _ _ h=>h) (fun _=>rfl) ⟨rfl,trivial⟩ (fun B1 F1 w1=>?_);refine qU 1 rfl ?_;refine ab.nil ⟨rfl,?_⟩;refine ZH.ld tok 7 rfl rfl (by kernel_rfl) (by kernel_rfl) (by kernel_rfl) rfl rfl (fun _ _ _ h=>h) (fun _=>rfl) ⟨rfl,trivial⟩ (fun B1 F1 w1=>?_);refine qU 1 rfl ?_;refine ab.nil ⟨rfl,?_⟩;refine ZH.ld tok 12 rfl rfl (by kernel_rfl) (by kernel_rfl) (by kernel_rfl) rfl rfl (fun _ _ _ h=>h) (fun _=>rfl) ⟨rfl,trivial⟩ (fun B1 F1 w1=>?_);refine qU 1 rfl ?_;refine ab.nil ⟨rfl,?_⟩;refine ZH.meet 4 (qB 20 65535) (fun V=>((Vr,OA Vs)::(Vc,CA s.cols)::bC Vs s.rows)) (fun V=>[(3,.bx [.sl 1 (v.map af)]),(6,.bx [.sl 1 [],.sl 1 [],dI 0,.sl 3 []]),(7,.d aj),(8,.bx [.v Vr,.v Vc,dI s.sg,af s.det]),(11,.d (dI c)),(12,.d (dI s.cols.length)),(13,.d (dI t)),(36,.d (dI most)),(37,.d (dI c)),(73,.d (.v Vr)),(74,.d (dI t)),(76,.d (.v Vr)),(77,.d (dI s.cols.length)),(79,.d (.v Vr)),(80,.d (dI s.cols.length)),(84,.d (.v Vr)),(85,.d (dI t)),(82,.d (.v (Vs.getD s.cols.length undef))),(87,.d (.v (Vs.getD t undef)))]) (fun V=>?_) (fun N2_2=>?_)
   · refine ZH.all 16 (by kernel_rfl) rfl rfl (fun _=>rfl) ⟨rfl,trivial⟩ ?_;refine ah (fun B1 F1 w1 hS=>?_);refine ab.idxs tok (hS.at (i:=0) rfl (by rw[List.length_map];omega)) rfl rfl rfl rfl (Int.natCast_nonneg _) (by show t<_;rw[List.length_map];omega) ?_;refine ab.nil ⟨rfl,?_⟩;refine ZH.to [3,6,7,8,11,12,13,36,37,73,74,76,77,79,80,84,85,82,87,88] [(3,.bx [.sl 1 (v.map af)]),(6,.bx [.sl 1 [],.sl 1 [],dI 0,.sl 3 []]),(7,.d aj),(8,.bx [.v Vr,.v Vc,dI s.sg,af s.det]),(11,.d (dI c)),(12,.d (dI s.cols.length)),(13,.d (dI t)),(36,.d (dI most)),(37,.d (dI c)),(73,.d (.v Vr)),(74,.d (dI t)),(76,.d (.v Vr)),(77,.d (dI s.cols.length)),(79,.d (.v Vr)),(80,.d (dI s.cols.length)),(84,.d (.v Vr)),(85,.d (dI t)),(82,.d (.v (Vs.getD s.cols.length undef))),(87,.d (.v (Vs.getD t undef))),(88,.d (.v (bd Vr (t*1))))] rfl ⟨rfl,trivial⟩ ?_;refine ZH.all 17 (by kernel_rfl) rfl rfl (fun _=>rfl) ⟨rfl,trivial⟩ ?_;refine ai.fh 73 0 rfl rfl rfl ?_;refine ai.el tok 73 88 rfl (List.Mem.head _) rfl rfl rfl (by rw[List.length_map];omega) rfl ?_;refine ai.cut 1 rfl (fun B1 F1 w1=>?_);refine ab.xW tok (Vs.getD s.cols.length undef) rfl rfl rfl (by omega) ?_;refine ab.nil ⟨rfl,?_⟩;refine ai.back 73 0 rfl rfl rfl (List.Mem.head _) rfl ?_;refine ai.nil ?_;refine ZH.to [3,6,7,8,11,12,13,36,37,73,74,76,77,79,80,84,85,82,87] [(3,.bx [.sl 1 (v.map af)]),(6,.bx [.sl 1 [],.sl 1 [],dI 0,.sl 3 []]),(7,.d aj),(8,.bx [.v Vr,.v Vc,dI s.sg,af s.det]),(11,.d (dI c)),(12,.d (dI s.cols.length)),(13,.d (dI t)),(36,.d (dI most)),(37,.d (dI c)),(73,.d (.v Vr)),(74,.d (dI t)),(76,.d (.v Vr)),(77,.d (dI s.cols.length)),(79,.d (.v Vr)),(80,.d (dI s.cols.length)),(84,.d (.v Vr)),(85,.d (dI t)),(82,.d (.v (Vs.getD s.cols.length undef))),(87,.d (.v (Vs.getD t undef)))] rfl ⟨rfl,trivial⟩ ?_;refine ZH.all 18 (by kernel_rfl) rfl rfl (fun _=>rfl) ⟨rfl,trivial⟩ ?_;refine ah (fun B1 F1 w1 hS=>?_);refine ab.idxs tok (hS.at (i:=0) rfl (by rw[List.length_map,List.length_set];omega)) rfl rfl rfl rfl (Int.natCast_nonneg _) (by show s.cols.length<_;rw[List.length_map,List.length_set];omega) ?_;refine ab.nil ⟨rfl,?_⟩;refine ZH.to [3,6,7,8,11,12,13,36,37,73,74,76,77,79,80,84,85,82,87,89] [(3,.bx [.sl 1 (v.map af)]),(6,.bx [.sl 1 [],.sl 1 [],dI 0,.sl 3 []]),(7,.d aj),(8,.bx [.v Vr,.v Vc,dI s.sg,af s.det]),(11,.d (dI c)),(12,.d (dI s.cols.length)),(13,.d (dI t)),(36,.d (dI most)),(37,.d (dI c)),(73,.d (.v Vr)),(74,.d (dI t)),(76,.d (.v Vr)),(77,.d (dI s.cols.length)),(79,.d (.v Vr)),(80,.d (dI s.cols.length)),(84,.d (.v Vr)),(85,.d (dI t)),(82,.d (.v (Vs.getD s.cols.length undef))),(87,.d (.v (Vs.getD t undef))),(89,.d (.v (bd Vr (s.cols.length*1))))] rfl ⟨rfl,trivial⟩ ?_;refine ZH.all 19 (by kernel_rfl) rfl rfl (fun _=>rfl) ⟨rfl,trivial⟩ ?_;refine ai.fh 76 0 rfl rfl rfl ?_;refine ai.el tok 76 89 rfl (List.Mem.head _) rfl rfl rfl (by rw[List.length_map,List.length_set];omega) rfl ?_;refine ai.cut 1 rfl (fun B1 F1 w1=>?_);refine ab.xW tok (Vs.getD t undef) rfl rfl rfl (by rw[List.length_set];omega) ?_;refine ab.nil ⟨rfl,?_⟩;refine ai.back 76 0 rfl rfl rfl (List.Mem.head _) rfl ?_;refine ai.nil ?_;refine ZH.done (by kernel_rfl) ⟨rfl,trivial⟩ ?_;refine AZ.to [3,6,7,8,11,12,13,36,37] [(3,.bx [.sl 1 (v.map af)]),(6,.bx [.sl 1 [],.sl 1 [],dI 0,.sl 3 []]),(7,.d aj),(8,.bx [.v Vr,.v Vc,dI s.sg,af s.det]),(11,.d (dI c)),(12,.d (dI s.cols.length)),(13,.d (dI t)),(36,.d (dI most)),(37,.d (dI c))] rfl ?_;refine AZ.zN (t+2) (s.cols.length+2) (gC (Vs:=Vs) (by omega) hat) (gC (Vs:=Vs) (by omega) (by omega)) ?_;show AZ _ _ _ _ _ _ _ ((Vr,OA (Er Vs s.cols.length t))::(Vc,CA s.cols)::((bC Vs s.rows).set t (Vs.getD s.cols.length undef,fk (s.rows.getD s.cols.length []))).set s.cols.length (Vs.getD t undef,fk (s.rows.getD t []))) _;rw[BE (by omega) (by omega) hat,← hbr];refine AZ.gp (fun B1 F1 w1=>?_);refine qU 3 rfl ?_;rw[aC (x:=0-s.sg) (by have:=hR.sg;omega) (by have:=hR.sg;omega),Int.zero_sub];refine qU 2 rfl ?_;refine ab.nil ⟨rfl,?_⟩;exact⟨Er Vs s.cols.length t,by rw[if_neg htr];rfl,by show (Er Vs s.cols.length t).length=_;rw[BR,hb1];omega⟩
   refine ZH.meet 5 (qB 20 64511) (fun V=>((Vr,OA Vs)::(Vc,CA s.cols)::bC Vs s.rows)) (fun V=>[(3,.bx [.sl 1 (v.map af)]),(6,.bx [.sl 1 [],.sl 1 [],dI 0,.sl 3 []]),(7,.d aj),(8,.bx [.v Vr,.v Vc,dI s.sg,af s.det]),(11,.d (dI c)),(12,.d (dI s.cols.length)),(13,.d (dI t)),(36,.d (dI most)),(37,.d (dI c)),(73,.d (.v Vr)),(74,.d (dI t)),(76,.d (.v Vr)),(77,.d (dI s.cols.length)),(79,.d (.v Vr)),(80,.d (dI s.cols.length)),(84,.d (.v Vr)),(85,.d (dI t)),(81,.d (.v (bd Vr (s.cols.length*1)))),(87,.d (.v (Vs.getD t undef)))]) (fun V=>?_) (fun N1_2=>?_)
   · refine ZH.all 10 (by kernel_rfl) rfl rfl (fun _=>rfl) ⟨rfl,trivial⟩ ?_;refine ah (fun B1 F1 w1 hS=>?_);refine ab.aY tok (.v (Vs.getD s.cols.length undef)) (hS.at (i:=0) rfl (by rw[List.length_map];omega)) rfl rfl rfl rfl rfl rfl (bB (by omega)) rfl ?_;refine ab.nil ⟨rfl,?_⟩;exact qL (N2_2 V) (by kernel_rfl) rfl ⟨rfl,trivial⟩
   refine ZH.meet 5 (qB 20 32767) (fun V=>((Vr,OA Vs)::(Vc,CA s.cols)::bC Vs s.rows)) (fun V=>[(3,.bx [.sl 1 (v.map af)]),(6,.bx [.sl 1 [],.sl 1 [],dI 0,.sl 3 []]),(7,.d aj),(8,.bx [.v Vr,.v Vc,dI s.sg,af s.det]),(11,.d (dI c)),(12,.d (dI s.cols.length)),(13,.d (dI t)),(36,.d (dI most)),(37,.d (dI c)),(73,.d (.v Vr)),(74,.d (dI t)),(76,.d (.v Vr)),(77,.d (dI s.cols.length)),(79,.d (.v Vr)),(80,.d (dI s.cols.length)),(84,.d (.v Vr)),(85,.d (dI t)),(82,.d (.v (Vs.getD s.cols.length undef))),(86,.d (.v (bd Vr (t*1))))]) (fun V=>?_) (fun N2_1=>?_)
   · refine ZH.all 15 (by kernel_rfl) rfl rfl (fun _=>rfl) ⟨rfl,trivial⟩ ?_;refine ah (fun B1 F1 w1 hS=>?_);refine ab.aY tok (.v (Vs.getD t undef)) (hS.at (i:=0) rfl (by rw[List.length_map];omega)) rfl rfl rfl rfl rfl rfl (bB (by omega)) rfl ?_;refine ab.nil ⟨rfl,?_⟩;exact qL (N2_2 V) (by kernel_rfl) rfl ⟨rfl,trivial⟩
   refine ZH.meet 6 (qB 20 63999) (fun V=>((Vr,OA Vs)::(Vc,CA s.cols)::bC Vs s.rows)) (fun V=>[(3,.bx [.sl 1 (v.map af)]),(6,.bx [.sl 1 [],.sl 1 [],dI 0,.sl 3 []]),(7,.d aj),(8,.bx [.v Vr,.v Vc,dI s.sg,af s.det]),(11,.d (dI c)),(12,.d (dI s.cols.length)),(13,.d (dI t)),(36,.d (dI most)),(37,.d (dI c)),(73,.d (.v Vr)),(74,.d (dI t)),(76,.d (.v Vr)),(77,.d (dI s.cols.length)),(79,.d (.v Vr)),(80,.d (dI s.cols.length)),(84,.d (.v Vr)),(85,.d (dI t)),(87,.d (.v (Vs.getD t undef)))]) (fun V=>?_) (fun N0_2=>?_)
   · refine ZH.all 9 (by kernel_rfl) rfl rfl (fun _=>rfl) ⟨rfl,trivial⟩ ?_;refine ah (fun B1 F1 w1 hS=>?_);refine ab.idxs tok (hS.at (i:=0) rfl (by rw[List.length_map];omega)) rfl rfl rfl rfl (Int.natCast_nonneg _) (by show s.cols.length<_;rw[List.length_map];omega) ?_;refine ab.nil ⟨rfl,?_⟩;exact qL (N1_2 V) (by kernel_rfl) rfl ⟨rfl,trivial⟩
   refine ZH.meet 6 (qB 20 31743) (fun V=>((Vr,OA Vs)::(Vc,CA s.cols)::bC Vs s.rows)) (fun V=>[(3,.bx [.sl 1 (v.map af)]),(6,.bx [.sl 1 [],.sl 1 [],dI 0,.sl 3 []]),(7,.d aj),(8,.bx [.v Vr,.v Vc,dI s.sg,af s.det]),(11,.d (dI c)),(12,.d (dI s.cols.length)),(13,.d (dI t)),(36,.d (dI most)),(37,.d (dI c)),(73,.d (.v Vr)),(74,.d (dI t)),(76,.d (.v Vr)),(77,.d (dI s.cols.length)),(79,.d (.v Vr)),(80,.d (dI s.cols.length)),(84,.d (.v Vr)),(85,.d (dI t)),(81,.d (.v (bd Vr (s.cols.length*1)))),(86,.d (.v (bd Vr (t*1))))]) (fun V=>?_) (fun N1_1=>?_)
   · refine ZH.two 10 15 (by kernel_rfl) rfl rfl rfl rfl (fun _=>rfl) (fun _=>rfl) ⟨rfl,trivial⟩ ?_ ?_
     · refine ah (fun B1 F1 w1 hS=>?_);refine ab.aY tok (.v (Vs.getD s.cols.length undef)) (hS.at (i:=0) rfl (by rw[List.length_map];omega)) rfl rfl rfl rfl rfl rfl (bB (by omega)) rfl ?_;refine ab.nil ⟨rfl,?_⟩;exact qL (N2_1 V) (by kernel_rfl) rfl ⟨rfl,trivial⟩
     · refine ah (fun B1 F1 w1 hS=>?_);refine ab.aY tok (.v (Vs.getD t undef)) (hS.at (i:=0) rfl (by rw[List.length_map];omega)) rfl rfl rfl rfl rfl rfl (bB (by omega)) rfl ?_;refine ab.nil ⟨rfl,?_⟩;exact qL (N1_2 V) (by kernel_rfl) rfl ⟨rfl,trivial⟩
   refine ZH.meet 6 (qB 20 16383) (fun V=>((Vr,OA Vs)::(Vc,CA s.cols)::bC Vs s.rows)) (fun V=>[(3,.bx [.sl 1 (v.map af)]),(6,.bx [.sl 1 [],.sl 1 [],dI 0,.sl 3 []]),(7,.d aj),(8,.bx [.v Vr,.v Vc,dI s.sg,af s.det]),(11,.d (dI c)),(12,.d (dI s.cols.length)),(13,.d (dI t)),(36,.d (dI most)),(37,.d (dI c)),(73,.d (.v Vr)),(74,.d (dI t)),(76,.d (.v Vr)),(77,.d (dI s.cols.length)),(79,.d (.v Vr)),(80,.d (dI s.cols.length)),(84,.d (.v Vr)),(85,.d (dI t)),(82,.d (.v (Vs.getD s.cols.length undef)))]) (fun V=>?_) (fun N2_0=>?_)
   · refine ZH.all 14 (by kernel_rfl) rfl rfl (fun _=>rfl) ⟨rfl,trivial⟩ ?_;refine ah (fun B1 F1 w1 hS=>?_);refine ab.idxs tok (hS.at (i:=0) rfl (by rw[List.length_map];omega)) rfl rfl rfl rfl (Int.natCast_nonneg _) (by show t<_;rw[List.length_map];omega) ?_;refine ab.nil ⟨rfl,?_⟩;exact qL (N2_1 V) (by kernel_rfl) rfl ⟨rfl,trivial⟩
   refine ZH.meet 7 (qB 20 31231) (fun V=>((Vr,OA Vs)::(Vc,CA s.cols)::bC Vs s.rows)) (fun V=>[(3,.bx [.sl 1 (v.map af)]),(6,.bx [.sl 1 [],.sl 1 [],dI 0,.sl 3 []]),(7,.d aj),(8,.bx [.v Vr,.v Vc,dI s.sg,af s.det]),(11,.d (dI c)),(12,.d (dI s.cols.length)),(13,.d (dI t)),(36,.d (dI most)),(37,.d (dI c)),(73,.d (.v Vr)),(74,.d (dI t)),(76,.d (.v Vr)),(77,.d (dI s.cols.length)),(79,.d (.v Vr)),(80,.d (dI s.cols.length)),(84,.d (.v Vr)),(85,.d (dI t)),(86,.d (.v (bd Vr (t*1))))]) (fun V=>?_) (fun N0_1=>?_)
   · refine ZH.two 9 15 (by kernel_rfl) rfl rfl rfl rfl (fun _=>rfl) (fun _=>rfl) ⟨rfl,trivial⟩ ?_ ?_
     · refine ah (fun B1 F1 w1 hS=>?_);refine ab.idxs tok (hS.at (i:=0) rfl (by rw[List.length_map];omega)) rfl rfl rfl rfl (Int.natCast_nonneg _) (by show s.cols.length<_;rw[List.length_map];omega) ?_;refine ab.nil ⟨rfl,?_⟩;exact qL (N1_1 V) (by kernel_rfl) rfl ⟨rfl,trivial⟩
     · refine ah (fun B1 F1 w1 hS=>?_);refine ab.aY tok (.v (Vs.getD t undef)) (hS.at (i:=0) rfl (by rw[List.length_map];omega)) rfl rfl rfl rfl rfl rfl (bB (by omega)) rfl ?_;refine ab.nil ⟨rfl,?_⟩;exact qL (N0_2 V) (by kernel_rfl) rfl ⟨rfl,trivial⟩
   refine ZH.meet 7 (qB 20 15359) (fun V=>((Vr,OA Vs)::(Vc,CA s.cols)::bC Vs s.rows)) (fun V=>[(3,.bx [.sl 1 (v.map af)]),(6,.bx [.sl 1 [],.sl 1 [],dI 0,.sl 3 []]),(7,.d aj),(8,.bx [.v Vr,.v Vc,dI s.sg,af s.det]),(11,.d (dI c)),(12,.d (dI s.cols.length)),(13,.d (dI t)),(36,.d (dI most)),(37,.d (dI c)),(73,.d (.v Vr)),(74,.d (dI t)),(76,.d (.v Vr)),(77,.d (dI s.cols.length)),(79,.d (.v Vr)),(80,.d (dI s.cols.length)),(84,.d (.v Vr)),(85,.d (dI t)),(81,.d (.v (bd Vr (s.cols.length*1))))]) (fun V=>?_) (fun N1_0=>?_)
   · refine ZH.two 10 14 (by kernel_rfl) rfl rfl rfl rfl (fun _=>rfl) (fun _=>rfl) ⟨rfl,trivial⟩ ?_ ?_
     · refine ah (fun B1 F1 w1 hS=>?_);refine ab.aY tok (.v (Vs.getD s.cols.length undef)) (hS.at (i:=0) rfl (by rw[List.length_map];omega)) rfl rfl rfl rfl rfl rfl (bB (by omega)) rfl ?_;refine ab.nil ⟨rfl,?_⟩;exact qL (N2_0 V) (by kernel_rfl) rfl ⟨rfl,trivial⟩
     · refine ah (fun B1 F1 w1 hS=>?_);refine ab.idxs tok (hS.at (i:=0) rfl (by rw[List.length_map];omega)) rfl rfl rfl rfl (Int.natCast_nonneg _) (by show t<_;rw[List.length_map];omega) ?_;refine ab.nil ⟨rfl,?_⟩;exact qL (N1_1 V) (by kernel_rfl) rfl ⟨rfl,trivial⟩
   refine ZH.meet 8 (qB 20 14847) (fun V=>((Vr,OA Vs)::(Vc,CA s.cols)::bC Vs s.rows)) (fun V=>[(3,.bx [.sl 1 (v.map af)]),(6,.bx [.sl 1 [],.sl 1 [],dI 0,.sl 3 []]),(7,.d aj),(8,.bx [.v Vr,.v Vc,dI s.sg,af s.det]),(11,.d (dI c)),(12,.d (dI s.cols.length)),(13,.d (dI t)),(36,.d (dI most)),(37,.d (dI c)),(73,.d (.v Vr)),(74,.d (dI t)),(76,.d (.v Vr)),(77,.d (dI s.cols.length)),(79,.d (.v Vr)),(80,.d (dI s.cols.length)),(84,.d (.v Vr)),(85,.d (dI t))]) (fun V=>?_) (fun N0_0=>?_)
   · refine ZH.two 9 14 (by kernel_rfl) rfl rfl rfl rfl (fun _=>rfl) (fun _=>rfl) ⟨rfl,trivial⟩ ?_ ?_
     · refine ah (fun B1 F1 w1 hS=>?_);refine ab.idxs tok (hS.at (i:=0) rfl (by rw[List.length_map];omega)) rfl rfl rfl rfl (Int.natCast_nonneg _) (by show s.cols.length<_;rw[List.length_map];omega) ?_;refine ab.nil ⟨rfl,?_⟩;exact qL (N1_0 V) (by kernel_rfl) rfl ⟨rfl,trivial⟩
     · refine ah (fun B1 F1 w1 hS=>?_);refine ab.idxs tok (hS.at (i:=0) rfl (by rw[List.length_map];omega)) rfl rfl rfl rfl (Int.natCast_nonneg _) (by show t<_;rw[List.length_map];omega) ?_;refine ab.nil ⟨rfl,?_⟩;exact qL (N0_1 V) (by kernel_rfl) rfl ⟨rfl,trivial⟩
   exact qL (N0_0 eU) (by kernel_rfl) rfl ⟨rfl,trivial⟩
 obtain ⟨sg,hsg⟩: ∃sg,(if t=s.cols.length then s.sg else -s.sg)=sg:=⟨_,rfl⟩;obtain ⟨r,hrr⟩: ∃r,s.cols.length=r:=⟨_,rfl⟩;have hrb:r<b.length:=by omega
 have hrN:(b.getD r []).length=N:=hb2 r hrb;have okc:=qd V hR.det (by rw[hpr];exact hb3 _ _) okd;rw[hsg] at hst;rw[hrr] at hst hpr hE okv oks okt;show AZ _ _ _ _ _ _ _ ((Vr,OA Ws)::(Vc,CA s.cols)::bC Ws b) [(3,.bx [.sl 1 (v.map af)]),(6,.bx [.sl 1 [],.sl 1 [],dI 0,.sl 3 []]),(7,.d aj),(8,.bx [.v Vr,.v Vc,dI (if t=s.cols.length then s.sg else -s.sg),af s.det]),(11,.d (dI c)),(12,.d (dI s.cols.length)),(36,.d (dI most)),(37,.d (dI c))];rw[hsg,hrr];refine AZ.seq ?_;refine AZ.Af (fun B1 F1 w1 hS=>?_);refine qU 3 rfl ?_;refine ab.idxs tok (hS.at (i:=0) rfl (by rw[List.length_map];omega)) rfl rfl rfl rfl (Int.natCast_nonneg _) (by show r<_;rw[List.length_map];omega) ?_;refine ab.aY tok (.v (Ws.getD r undef)) (hS.at (i:=0) rfl (by rw[List.length_map];omega)) rfl rfl rfl rfl rfl rfl (bB (by omega)) rfl ?_;refine qU 1 rfl ?_;refine ab.idxs tok (hS.at (i:=r+2) (gC (Vs:=Ws) (by omega) hrb) (by rw[List.length_map];omega)) rfl rfl rfl rfl (Int.natCast_nonneg c) (by rw[List.length_map];omega) ?_;refine ab.aY tok (af (bU b r c)) (hS.at (i:=r+2) (gC (Vs:=Ws) (by omega) hrb) (by rw[List.length_map];omega)) rfl rfl rfl rfl rfl rfl (hel hb2 hrb c hcN) rfl ?_;rw[← hpr];refine qU 1 rfl ?_;refine ab.nil ⟨rfl,?_⟩;refine AZ.seq ?_;refine AZ.gp (fun B1 F1 w1=>?_);refine qU 1 rfl ?_;refine ab.nil ⟨rfl,?_⟩;refine AZ.seq ?_;refine AZ.seq ?_;refine AZ.gp (fun B1 F1 w1=>?_);refine qU 4 rfl ?_;refine ab.call tok rfl rfl rfl rfl okc ?_;refine qU 6 rfl ?_;refine ab.nil ⟨rfl,?_⟩;refine AZ.seq ?_;refine AZ.gp (fun B1 F1 w1=>?_);refine qU 1 rfl ?_;refine ab.err tok rfl rfl rfl rfl rfl ?_;refine ab.nil ⟨rfl,?_⟩;refine AZ.aB rfl ?_;refine AZ.skip ?_;generalize mW v s.det p=det at *;obtain ⟨row,hrow⟩: ∃row,b.getD r []=row:=⟨_,rfl⟩;have hz:=pH v row p;have hsr: ∀k,bU b r k=row.getD k []:=fun k=>by unfold bU;rw[hrow]
 have hb0:bC Ws b=bC Ws (b.set r row):=by rw[← hrow,u5 hrb]
 have hgr: ∀q:List NQ,(bC Ws (b.set r q))[r]?=some (Ws.getD r undef,fk q):=fun q=>by
  rw[gC (by omega) (by simpa using hrb),gf,if_pos ⟨rfl,hrb⟩]
 rw[hrow] at hE hrN okv;rw[hb0];refine AZ.seq ?_;refine AZ.seq ?_;refine AZ.Af (fun B1 F1 w1 hS=>?_);refine qU 3 rfl ?_;refine ab.idxs tok (hS.at (i:=0) rfl (by rw[List.length_map];omega)) rfl rfl rfl rfl (Int.natCast_nonneg _) (by show r<_;rw[List.length_map];omega) ?_;refine ab.aY tok (.v (Ws.getD r undef)) (hS.at (i:=0) rfl (by rw[List.length_map];omega)) rfl rfl rfl rfl rfl rfl (bB (by omega)) rfl ?_;refine ab.lens tok (hS.at (i:=r+2) (hgr row) (by rw[List.length_map];omega)) rfl rfl rfl rfl ?_;rw[List.length_map,hrN];refine qU 1 rfl ?_;refine ab.nil ⟨rfl,?_⟩;refine AZ.block ?_;refine AZ.aE [3,6,7,8,11,12,14,36,37,120,121] (fun k:Nat=>(((Vr,OA Ws)::(Vc,CA s.cols)::bC Ws (b.set r (fA (wA v row p) row k))),[(3,.bx [.sl 1 (v.map af)]),(6,.bx [.sl 1 [],.sl 1 [],dI 0,.sl 3 []]),(7,.d aj),(8,.bx [.v Vr,.v Vc,dI sg,af det]),(11,.d (dI c)),(12,.d (dI r)),(14,.d (af p)),(36,.d (dI most)),(37,.d (dI c)),(120,.d (dI N)),(121,.d (dI k))])) (fun k=>k≤N) (fun k=>N-k) 0 (by rw[sU];rfl) (Nat.zero_le _) (fun k hk=>?_);show AZ _ _ _ _ _ _ _ ((Vr,OA Ws)::(Vc,CA s.cols)::bC Ws (b.set r (fA (wA v row p) row k))) [(3,.bx [.sl 1 (v.map af)]),(6,.bx [.sl 1 [],.sl 1 [],dI 0,.sl 3 []]),(7,.d aj),(8,.bx [.v Vr,.v Vc,dI sg,af det]),(11,.d (dI c)),(12,.d (dI r)),(14,.d (af p)),(36,.d (dI most)),(37,.d (dI c)),(120,.d (dI N)),(121,.d (dI k))];refine AZ.seq ?_;refine AZ.gp (fun B1 F1 w1=>?_);refine qU 1 rfl ?_;refine ab.nil ⟨rfl,?_⟩;refine AZ.seq ?_;refine AZ.cond rfl (fun h=>?_) (fun h=>?_)
 · have hkN:k<N:=by have:=of_decide_eq_true h;omega
   have hpl:=qM hz (i:=k) (by omega);have hpg:=vJ hz (show k<row.length by omega) [];have hps:=vI hz (show k<row.length by omega) (d:=[]) (pI v row p (show k<row.length by omega));have cd:=wJ V (a:=row.getD k []) (b:=p) (by rw[← hrow];exact hb3 r k) (by rw[hpr];exact hb3 _ _) (by have:=okv k (by omega);rw[hsr] at this;exact this);generalize fA (wA v row p) row k=q at *;generalize row.getD k []=X at *;generalize r6 v X p=Y at *;refine AZ.skip ?_;refine AZ.seq ?_;refine AZ.block ?_;refine AZ.seq ?_;refine AZ.gp (fun B1 F1 w1=>?_);refine qU 2 rfl ?_;refine ab.nil ⟨rfl,?_⟩;refine AZ.seq ?_;refine AZ.any aN (ZH.any (β:=[(8,[.v Vr,.v Vc,dI sg,af det])]) ?_);refine ZH.mv 2 rfl rfl (by kernel_rfl) (by kernel_rfl) (by kernel_rfl) rfl (fun _ _ _ h=>h) (fun _=>rfl) ⟨rfl,trivial⟩ (fun B1 F1 w1=>?_);refine qU 1 rfl ?_;refine ab.nil ⟨rfl,?_⟩;refine ZH.mv 5 rfl rfl (by kernel_rfl) (by kernel_rfl) (by kernel_rfl) rfl (fun _ _ _ h=>h) (fun _=>rfl) ⟨rfl,trivial⟩ (fun B1 F1 w1=>?_);refine qU 1 rfl ?_;refine ab.nil ⟨rfl,?_⟩;refine ZH.mv 9 rfl rfl (by kernel_rfl) (by kernel_rfl) (by kernel_rfl) rfl (fun _ _ _ h=>h) (fun _=>rfl) ⟨rfl,trivial⟩ (fun B1 F1 w1=>?_);refine qU 1 rfl ?_;refine ab.nil ⟨rfl,?_⟩;refine ZH.mv 12 rfl rfl (by kernel_rfl) (by kernel_rfl) (by kernel_rfl) rfl (fun _ _ _ h=>h) (fun _=>rfl) ⟨rfl,trivial⟩ (fun B1 F1 w1=>?_);refine qU 1 rfl ?_;refine ab.nil ⟨rfl,?_⟩;refine ZH.mv 15 rfl rfl (by kernel_rfl) (by kernel_rfl) (by kernel_rfl) rfl (fun _ _ _ h=>h) (fun _=>rfl) ⟨rfl,trivial⟩ (fun B1 F1 w1=>?_);refine qU 1 rfl ?_;refine ab.nil ⟨rfl,?_⟩;refine ZH.fd tok 0 rfl rfl (by kernel_rfl) (by kernel_rfl) (by kernel_rfl) rfl (fun _ _ _ h=>h) (fun _=>rfl) ⟨rfl,trivial⟩ (fun B1 F1 w1=>?_);refine qU 1 rfl ?_;refine ab.nil ⟨rfl,?_⟩;refine ZH.fd tok 7 rfl rfl (by kernel_rfl) (by kernel_rfl) (by kernel_rfl) rfl (fun _ _ _ h=>h) (fun _=>rfl) ⟨rfl,trivial⟩ (fun B1 F1 w1=>?_);refine qU 1 rfl ?_;refine ab.nil ⟨rfl,?_⟩;refine ZH.ld tok 1 rfl rfl (by kernel_rfl) (by kernel_rfl) (by kernel_rfl) rfl rfl (fun _ _ _ h=>h) (fun _=>rfl) ⟨rfl,trivial⟩ (fun B1 F1 w1=>?_);refine qU 1 rfl ?_;refine ab.nil ⟨rfl,?_⟩;refine ZH.ld tok 8 rfl rfl (by kernel_rfl) (by kernel_rfl) (by kernel_rfl) rfl rfl (fun _ _ _ h=>h) (fun _=>rfl) ⟨rfl,trivial⟩ (fun B1 F1 w1=>?_);refine qU 1 rfl ?_;refine ab.nil ⟨rfl,?_⟩;refine ZH.meet 0 (qB 23 8388607) (fun V=>((Vr,OA Ws)::(Vc,CA s.cols)::bC Ws (b.set r (fA (wA v row p) row (k+1))))) (fun V=>[(3,.bx [.sl 1 (v.map af)]),(6,.bx [.sl 1 [],.sl 1 [],dI 0,.sl 3 []]),(7,.d aj),(8,.bx [.v Vr,.v Vc,dI sg,af det]),(11,.d (dI c)),(12,.d (dI r)),(14,.d (af p)),(36,.d (dI most)),(37,.d (dI c)),(16,.d (dI k)),(126,.d (.v Vr)),(127,.d (dI r)),(130,.d (dI k)),(133,.d (.v Vr)),(134,.d (dI r)),(137,.d (dI k)),(140,.d (af p)),(120,.d (dI N)),(121,.d (dI k)),(129,.d (.v (Ws.getD r undef))),(131,.d (bP v)),(139,.d (af X)),(124,.d (.tu [af Y,aj])),(142,.d (af Y)),(143,.d aj),(15,.d aj)]) (fun V=>?_) (fun N2_1_4_5_1_1=>?_)
   · refine ZH.done (by kernel_rfl) ⟨rfl,trivial⟩ ?_;refine AZ.to [3,6,7,8,11,12,14,36,37,15,120,121] [(3,.bx [.sl 1 (v.map af)]),(6,.bx [.sl 1 [],.sl 1 [],dI 0,.sl 3 []]),(7,.d aj),(8,.bx [.v Vr,.v Vc,dI sg,af det]),(11,.d (dI c)),(12,.d (dI r)),(14,.d (af p)),(36,.d (dI most)),(37,.d (dI c)),(15,.d aj),(120,.d (dI N)),(121,.d (dI k))] rfl ?_;refine AZ.seq ?_;refine AZ.gp (fun B1 F1 w1=>?_);refine qU 1 rfl ?_;refine ab.err tok rfl rfl rfl rfl rfl ?_;refine ab.nil ⟨rfl,?_⟩;refine AZ.aB rfl ?_;refine AZ.skip ?_;refine AZ.gp (fun B1 F1 w1=>?_);refine qU 1 rfl ?_;rw[aC (x:=(k:Int)+1) (by omega) (by omega)];refine qU 1 rfl ?_;refine ab.nil ⟨rfl,?_⟩;exact⟨k+1,rfl,hkN,by omega⟩
   refine ZH.meet 1 (qB 23 4194303) (fun V=>((Vr,OA Ws)::(Vc,CA s.cols)::bC Ws (b.set r (fA (wA v row p) row (k+1))))) (fun V=>[(3,.bx [.sl 1 (v.map af)]),(6,.bx [.sl 1 [],.sl 1 [],dI 0,.sl 3 []]),(7,.d aj),(8,.bx [.v Vr,.v Vc,dI sg,af det]),(11,.d (dI c)),(12,.d (dI r)),(14,.d (af p)),(36,.d (dI most)),(37,.d (dI c)),(16,.d (dI k)),(126,.d (.v Vr)),(127,.d (dI r)),(130,.d (dI k)),(133,.d (.v Vr)),(134,.d (dI r)),(137,.d (dI k)),(140,.d (af p)),(120,.d (dI N)),(121,.d (dI k)),(129,.d (.v (Ws.getD r undef))),(131,.d (bP v)),(139,.d (af X)),(124,.d (.tu [af Y,aj])),(142,.d (af Y)),(143,.d aj)]) (fun V=>?_) (fun N2_1_4_5_1_0=>?_)
   · refine ZH.all 22 (by kernel_rfl) rfl rfl (fun _=>rfl) ⟨rfl,trivial⟩ ?_;refine ak (fun B1 F1 w1=>?_);refine qU 1 rfl ?_;refine ab.nil ⟨rfl,?_⟩;exact qL (N2_1_4_5_1_1 V) (by kernel_rfl) rfl ⟨rfl,trivial⟩
   refine ZH.meet 2 (qB 23 2097151) (fun V=>((Vr,OA Ws)::(Vc,CA s.cols)::bC Ws (b.set r q))) (fun V=>[(3,.bx [.sl 1 (v.map af)]),(6,.bx [.sl 1 [],.sl 1 [],dI 0,.sl 3 []]),(7,.d aj),(8,.bx [.v Vr,.v Vc,dI sg,af det]),(11,.d (dI c)),(12,.d (dI r)),(14,.d (af p)),(36,.d (dI most)),(37,.d (dI c)),(16,.d (dI k)),(126,.d (.v Vr)),(127,.d (dI r)),(130,.d (dI k)),(133,.d (.v Vr)),(134,.d (dI r)),(137,.d (dI k)),(140,.d (af p)),(120,.d (dI N)),(121,.d (dI k)),(129,.d (.v (Ws.getD r undef))),(131,.d (bP v)),(139,.d (af X)),(124,.d (.tu [af Y,aj])),(142,.d (af Y)),(144,.d (.v (bd (Ws.getD r undef) (k*1)))),(143,.d aj)]) (fun V=>?_) (fun N2_1_4_4_1_0=>?_)
   · refine ZH.all 21 (by kernel_rfl) rfl rfl (fun _=>rfl) ⟨rfl,trivial⟩ ?_;refine ai.fh 129 (r+2) (hgr q) rfl rfl ?_;refine ai.el tok 129 144 rfl (List.Mem.head _) rfl rfl rfl (by rw[List.length_map];omega) rfl ?_;refine ai.cut 1 rfl (fun B1 F1 w1=>?_);refine ab.nG tok Y rfl rfl rfl (by omega) ?_;rw[hps];refine ab.nil ⟨rfl,?_⟩;refine ai.back 129 (r+2) rfl rfl rfl (List.Mem.head _) (List.getElem?_set_self (by have:=(List.getElem?_eq_some_iff.1 (hgr q)).1;simp only[List.length_cons];omega)) ?_
     refine ai.ru (R':=((Vr,OA Ws)::(Vc,CA s.cols)::bC Ws (b.set r (fA (wA v row p) row (k+1))))) (by
      show (Vr,OA Ws)::(Vc,CA s.cols)::((bC Ws (b.set r q)).set r _).set r _=_
      rw[List.set_set,pW (by omega) (by simpa using hrb),List.set_set]) ?_
     refine ai.nil ?_;exact qL (N2_1_4_5_1_0 V) (by kernel_rfl) rfl ⟨rfl,trivial⟩
   refine ZH.meet 2 (qB 23 3670015) (fun V=>((Vr,OA Ws)::(Vc,CA s.cols)::bC Ws (b.set r (fA (wA v row p) row (k+1))))) (fun V=>[(3,.bx [.sl 1 (v.map af)]),(6,.bx [.sl 1 [],.sl 1 [],dI 0,.sl 3 []]),(7,.d aj),(8,.bx [.v Vr,.v Vc,dI sg,af det]),(11,.d (dI c)),(12,.d (dI r)),(14,.d (af p)),(36,.d (dI most)),(37,.d (dI c)),(16,.d (dI k)),(126,.d (.v Vr)),(127,.d (dI r)),(130,.d (dI k)),(133,.d (.v Vr)),(134,.d (dI r)),(137,.d (dI k)),(140,.d (af p)),(120,.d (dI N)),(121,.d (dI k)),(129,.d (.v (Ws.getD r undef))),(131,.d (bP v)),(139,.d (af X)),(124,.d (.tu [af Y,aj])),(142,.d (af Y))]) (fun V=>?_) (fun N2_1_4_5_0_0=>?_)
   · refine ZH.all 19 (by kernel_rfl) rfl rfl (fun _=>rfl) ⟨rfl,trivial⟩ ?_;refine ak (fun B1 F1 w1=>?_);refine qU 1 rfl ?_;refine ab.nil ⟨rfl,?_⟩;exact qL (N2_1_4_5_1_0 V) (by kernel_rfl) rfl ⟨rfl,trivial⟩
   refine ZH.meet 3 (qB 23 1048575) (fun V=>((Vr,OA Ws)::(Vc,CA s.cols)::bC Ws (b.set r q))) (fun V=>[(3,.bx [.sl 1 (v.map af)]),(6,.bx [.sl 1 [],.sl 1 [],dI 0,.sl 3 []]),(7,.d aj),(8,.bx [.v Vr,.v Vc,dI sg,af det]),(11,.d (dI c)),(12,.d (dI r)),(14,.d (af p)),(36,.d (dI most)),(37,.d (dI c)),(16,.d (dI k)),(126,.d (.v Vr)),(127,.d (dI r)),(130,.d (dI k)),(133,.d (.v Vr)),(134,.d (dI r)),(137,.d (dI k)),(140,.d (af p)),(120,.d (dI N)),(121,.d (dI k)),(129,.d (.v (Ws.getD r undef))),(131,.d (bP v)),(139,.d (af X)),(124,.d (.tu [af Y,aj])),(142,.d (af Y)),(143,.d aj)]) (fun V=>?_) (fun N2_1_4_3_1_0=>?_)
   · refine ZH.all 20 (by kernel_rfl) rfl rfl (fun _=>rfl) ⟨rfl,trivial⟩ ?_;refine ah (fun B1 F1 w1 hS=>?_);refine ab.idxs tok (hS.at (i:=r+2) (hgr q) (by rw[List.length_map];omega)) rfl rfl rfl rfl (Int.natCast_nonneg k) (by rw[List.length_map];omega) ?_;refine ab.nil ⟨rfl,?_⟩;exact qL (N2_1_4_4_1_0 V) (by kernel_rfl) rfl ⟨rfl,trivial⟩
   refine ZH.meet 3 (qB 23 1572863) (fun V=>((Vr,OA Ws)::(Vc,CA s.cols)::bC Ws (b.set r q))) (fun V=>[(3,.bx [.sl 1 (v.map af)]),(6,.bx [.sl 1 [],.sl 1 [],dI 0,.sl 3 []]),(7,.d aj),(8,.bx [.v Vr,.v Vc,dI sg,af det]),(11,.d (dI c)),(12,.d (dI r)),(14,.d (af p)),(36,.d (dI most)),(37,.d (dI c)),(16,.d (dI k)),(126,.d (.v Vr)),(127,.d (dI r)),(130,.d (dI k)),(133,.d (.v Vr)),(134,.d (dI r)),(137,.d (dI k)),(140,.d (af p)),(120,.d (dI N)),(121,.d (dI k)),(129,.d (.v (Ws.getD r undef))),(131,.d (bP v)),(139,.d (af X)),(124,.d (.tu [af Y,aj])),(142,.d (af Y)),(144,.d (.v (bd (Ws.getD r undef) (k*1))))]) (fun V=>?_) (fun N2_1_4_4_0_0=>?_)
   · refine ZH.two 19 21 (by kernel_rfl) rfl rfl rfl rfl (fun _=>rfl) (fun _=>rfl) ⟨rfl,trivial⟩ ?_ ?_
     · refine ak (fun B1 F1 w1=>?_);refine qU 1 rfl ?_;refine ab.nil ⟨rfl,?_⟩;exact qL (N2_1_4_4_1_0 V) (by kernel_rfl) rfl ⟨rfl,trivial⟩
     · refine ai.fh 129 (r+2) (hgr q) rfl rfl ?_;refine ai.el tok 129 144 rfl (List.Mem.head _) rfl rfl rfl (by rw[List.length_map];omega) rfl ?_;refine ai.cut 1 rfl (fun B1 F1 w1=>?_);refine ab.nG tok Y rfl rfl rfl (by omega) ?_;rw[hps];refine ab.nil ⟨rfl,?_⟩;refine ai.back 129 (r+2) rfl rfl rfl (List.Mem.head _) (List.getElem?_set_self (by have:=(List.getElem?_eq_some_iff.1 (hgr q)).1;simp only[List.length_cons];omega)) ?_
       refine ai.ru (R':=((Vr,OA Ws)::(Vc,CA s.cols)::bC Ws (b.set r (fA (wA v row p) row (k+1))))) (by
        show (Vr,OA Ws)::(Vc,CA s.cols)::((bC Ws (b.set r q)).set r _).set r _=_
        rw[List.set_set,pW (by omega) (by simpa using hrb),List.set_set]) ?_
       refine ai.nil ?_;exact qL (N2_1_4_5_0_0 V) (by kernel_rfl) rfl ⟨rfl,trivial⟩
   refine ZH.meet 4 (qB 23 1048559) (fun V=>((Vr,OA Ws)::(Vc,CA s.cols)::bC Ws (b.set r q))) (fun V=>[(3,.bx [.sl 1 (v.map af)]),(6,.bx [.sl 1 [],.sl 1 [],dI 0,.sl 3 []]),(7,.d aj),(8,.bx [.v Vr,.v Vc,dI sg,af det]),(11,.d (dI c)),(12,.d (dI r)),(14,.d (af p)),(36,.d (dI most)),(37,.d (dI c)),(16,.d (dI k)),(126,.d (.v Vr)),(127,.d (dI r)),(130,.d (dI k)),(133,.d (.v Vr)),(134,.d (dI r)),(137,.d (dI k)),(140,.d (af p)),(120,.d (dI N)),(121,.d (dI k)),(128,.d (.v (bd Vr (r*1)))),(131,.d (bP v)),(139,.d (af X)),(124,.d (.tu [af Y,aj])),(142,.d (af Y)),(143,.d aj)]) (fun V=>?_) (fun N1_1_4_3_1_0=>?_)
   · refine ZH.all 4 (by kernel_rfl) rfl rfl (fun _=>rfl) ⟨rfl,trivial⟩ ?_;refine ah (fun B1 F1 w1 hS=>?_);refine ab.aY tok (.v (Ws.getD r undef)) (hS.at (i:=0) rfl (by rw[List.length_map];omega)) rfl rfl rfl rfl rfl rfl (bB (by omega)) rfl ?_;refine ab.nil ⟨rfl,?_⟩;exact qL (N2_1_4_3_1_0 V) (by kernel_rfl) rfl ⟨rfl,trivial⟩
   refine ZH.meet 4 (qB 23 786431) (fun V=>((Vr,OA Ws)::(Vc,CA s.cols)::bC Ws (b.set r q))) (fun V=>[(3,.bx [.sl 1 (v.map af)]),(6,.bx [.sl 1 [],.sl 1 [],dI 0,.sl 3 []]),(7,.d aj),(8,.bx [.v Vr,.v Vc,dI sg,af det]),(11,.d (dI c)),(12,.d (dI r)),(14,.d (af p)),(36,.d (dI most)),(37,.d (dI c)),(16,.d (dI k)),(126,.d (.v Vr)),(127,.d (dI r)),(130,.d (dI k)),(133,.d (.v Vr)),(134,.d (dI r)),(137,.d (dI k)),(140,.d (af p)),(120,.d (dI N)),(121,.d (dI k)),(129,.d (.v (Ws.getD r undef))),(131,.d (bP v)),(139,.d (af X)),(124,.d (.tu [af Y,aj])),(143,.d aj)]) (fun V=>?_) (fun N2_1_4_2_1_0=>?_)
   · refine ZH.all 18 (by kernel_rfl) rfl rfl (fun _=>rfl) ⟨rfl,trivial⟩ ?_;refine ak (fun B1 F1 w1=>?_);refine qU 1 rfl ?_;refine ab.nil ⟨rfl,?_⟩;exact qL (N2_1_4_3_1_0 V) (by kernel_rfl) rfl ⟨rfl,trivial⟩
   refine ZH.meet 4 (qB 23 524287) (fun V=>((Vr,OA Ws)::(Vc,CA s.cols)::bC Ws (b.set r q))) (fun V=>[(3,.bx [.sl 1 (v.map af)]),(6,.bx [.sl 1 [],.sl 1 [],dI 0,.sl 3 []]),(7,.d aj),(8,.bx [.v Vr,.v Vc,dI sg,af det]),(11,.d (dI c)),(12,.d (dI r)),(14,.d (af p)),(36,.d (dI most)),(37,.d (dI c)),(16,.d (dI k)),(126,.d (.v Vr)),(127,.d (dI r)),(130,.d (dI k)),(133,.d (.v Vr)),(134,.d (dI r)),(137,.d (dI k)),(140,.d (af p)),(120,.d (dI N)),(121,.d (dI k)),(129,.d (.v (Ws.getD r undef))),(131,.d (bP v)),(139,.d (af X)),(124,.d (.tu [af Y,aj])),(142,.d (af Y))]) (fun V=>?_) (fun N2_1_4_3_0_0=>?_)
   · refine ZH.two 19 20 (by kernel_rfl) rfl rfl rfl rfl (fun _=>rfl) (fun _=>rfl) ⟨rfl,trivial⟩ ?_ ?_
     · refine ak (fun B1 F1 w1=>?_);refine qU 1 rfl ?_;refine ab.nil ⟨rfl,?_⟩;exact qL (N2_1_4_3_1_0 V) (by kernel_rfl) rfl ⟨rfl,trivial⟩
     · refine ah (fun B1 F1 w1 hS=>?_);refine ab.idxs tok (hS.at (i:=r+2) (hgr q) (by rw[List.length_map];omega)) rfl rfl rfl rfl (Int.natCast_nonneg k) (by rw[List.length_map];omega) ?_;refine ab.nil ⟨rfl,?_⟩;exact qL (N2_1_4_4_0_0 V) (by kernel_rfl) rfl ⟨rfl,trivial⟩
   refine ZH.meet 5 (qB 23 1048551) (fun V=>((Vr,OA Ws)::(Vc,CA s.cols)::bC Ws (b.set r q))) (fun V=>[(3,.bx [.sl 1 (v.map af)]),(6,.bx [.sl 1 [],.sl 1 [],dI 0,.sl 3 []]),(7,.d aj),(8,.bx [.v Vr,.v Vc,dI sg,af det]),(11,.d (dI c)),(12,.d (dI r)),(14,.d (af p)),(36,.d (dI most)),(37,.d (dI c)),(16,.d (dI k)),(126,.d (.v Vr)),(127,.d (dI r)),(130,.d (dI k)),(133,.d (.v Vr)),(134,.d (dI r)),(137,.d (dI k)),(140,.d (af p)),(120,.d (dI N)),(121,.d (dI k)),(131,.d (bP v)),(139,.d (af X)),(124,.d (.tu [af Y,aj])),(142,.d (af Y)),(143,.d aj)]) (fun V=>?_) (fun N0_1_4_3_1_0=>?_)
   · refine ZH.all 3 (by kernel_rfl) rfl rfl (fun _=>rfl) ⟨rfl,trivial⟩ ?_;refine ah (fun B1 F1 w1 hS=>?_);refine ab.idxs tok (hS.at (i:=0) rfl (by rw[List.length_map];omega)) rfl rfl rfl rfl (Int.natCast_nonneg _) (by show r<_;rw[List.length_map];omega) ?_;refine ab.nil ⟨rfl,?_⟩;exact qL (N1_1_4_3_1_0 V) (by kernel_rfl) rfl ⟨rfl,trivial⟩
   refine ZH.meet 5 (qB 23 786415) (fun V=>((Vr,OA Ws)::(Vc,CA s.cols)::bC Ws (b.set r q))) (fun V=>[(3,.bx [.sl 1 (v.map af)]),(6,.bx [.sl 1 [],.sl 1 [],dI 0,.sl 3 []]),(7,.d aj),(8,.bx [.v Vr,.v Vc,dI sg,af det]),(11,.d (dI c)),(12,.d (dI r)),(14,.d (af p)),(36,.d (dI most)),(37,.d (dI c)),(16,.d (dI k)),(126,.d (.v Vr)),(127,.d (dI r)),(130,.d (dI k)),(133,.d (.v Vr)),(134,.d (dI r)),(137,.d (dI k)),(140,.d (af p)),(120,.d (dI N)),(121,.d (dI k)),(128,.d (.v (bd Vr (r*1)))),(131,.d (bP v)),(139,.d (af X)),(124,.d (.tu [af Y,aj])),(143,.d aj)]) (fun V=>?_) (fun N1_1_4_2_1_0=>?_)
   · refine ZH.two 4 18 (by kernel_rfl) rfl rfl rfl rfl (fun _=>rfl) (fun _=>rfl) ⟨rfl,trivial⟩ ?_ ?_
     · refine ah (fun B1 F1 w1 hS=>?_);refine ab.aY tok (.v (Ws.getD r undef)) (hS.at (i:=0) rfl (by rw[List.length_map];omega)) rfl rfl rfl rfl rfl rfl (bB (by omega)) rfl ?_;refine ab.nil ⟨rfl,?_⟩;exact qL (N2_1_4_2_1_0 V) (by kernel_rfl) rfl ⟨rfl,trivial⟩
     · refine ak (fun B1 F1 w1=>?_);refine qU 1 rfl ?_;refine ab.nil ⟨rfl,?_⟩;exact qL (N1_1_4_3_1_0 V) (by kernel_rfl) rfl ⟨rfl,trivial⟩
   refine ZH.meet 5 (qB 23 524271) (fun V=>((Vr,OA Ws)::(Vc,CA s.cols)::bC Ws (b.set r q))) (fun V=>[(3,.bx [.sl 1 (v.map af)]),(6,.bx [.sl 1 [],.sl 1 [],dI 0,.sl 3 []]),(7,.d aj),(8,.bx [.v Vr,.v Vc,dI sg,af det]),(11,.d (dI c)),(12,.d (dI r)),(14,.d (af p)),(36,.d (dI most)),(37,.d (dI c)),(16,.d (dI k)),(126,.d (.v Vr)),(127,.d (dI r)),(130,.d (dI k)),(133,.d (.v Vr)),(134,.d (dI r)),(137,.d (dI k)),(140,.d (af p)),(120,.d (dI N)),(121,.d (dI k)),(128,.d (.v (bd Vr (r*1)))),(131,.d (bP v)),(139,.d (af X)),(124,.d (.tu [af Y,aj])),(142,.d (af Y))]) (fun V=>?_) (fun N1_1_4_3_0_0=>?_)
   · refine ZH.two 4 19 (by kernel_rfl) rfl rfl rfl rfl (fun _=>rfl) (fun _=>rfl) ⟨rfl,trivial⟩ ?_ ?_
     · refine ah (fun B1 F1 w1 hS=>?_);refine ab.aY tok (.v (Ws.getD r undef)) (hS.at (i:=0) rfl (by rw[List.length_map];omega)) rfl rfl rfl rfl rfl rfl (bB (by omega)) rfl ?_;refine ab.nil ⟨rfl,?_⟩;exact qL (N2_1_4_3_0_0 V) (by kernel_rfl) rfl ⟨rfl,trivial⟩
     · refine ak (fun B1 F1 w1=>?_);refine qU 1 rfl ?_;refine ab.nil ⟨rfl,?_⟩;exact qL (N1_1_4_3_1_0 V) (by kernel_rfl) rfl ⟨rfl,trivial⟩
   refine ZH.meet 5 (qB 23 262143) (fun V=>((Vr,OA Ws)::(Vc,CA s.cols)::bC Ws (b.set r q))) (fun V=>[(3,.bx [.sl 1 (v.map af)]),(6,.bx [.sl 1 [],.sl 1 [],dI 0,.sl 3 []]),(7,.d aj),(8,.bx [.v Vr,.v Vc,dI sg,af det]),(11,.d (dI c)),(12,.d (dI r)),(14,.d (af p)),(36,.d (dI most)),(37,.d (dI c)),(16,.d (dI k)),(126,.d (.v Vr)),(127,.d (dI r)),(130,.d (dI k)),(133,.d (.v Vr)),(134,.d (dI r)),(137,.d (dI k)),(140,.d (af p)),(120,.d (dI N)),(121,.d (dI k)),(129,.d (.v (Ws.getD r undef))),(131,.d (bP v)),(139,.d (af X)),(124,.d (.tu [af Y,aj]))]) (fun V=>?_) (fun N2_1_4_2_0_0=>?_)
   · refine ZH.two 18 19 (by kernel_rfl) rfl rfl rfl rfl (fun _=>rfl) (fun _=>rfl) ⟨rfl,trivial⟩ ?_ ?_
     · refine ak (fun B1 F1 w1=>?_);refine qU 1 rfl ?_;refine ab.nil ⟨rfl,?_⟩;exact qL (N2_1_4_3_0_0 V) (by kernel_rfl) rfl ⟨rfl,trivial⟩
     · refine ak (fun B1 F1 w1=>?_);refine qU 1 rfl ?_;refine ab.nil ⟨rfl,?_⟩;exact qL (N2_1_4_2_1_0 V) (by kernel_rfl) rfl ⟨rfl,trivial⟩
   refine ZH.meet 6 (qB 23 786407) (fun V=>((Vr,OA Ws)::(Vc,CA s.cols)::bC Ws (b.set r q))) (fun V=>[(3,.bx [.sl 1 (v.map af)]),(6,.bx [.sl 1 [],.sl 1 [],dI 0,.sl 3 []]),(7,.d aj),(8,.bx [.v Vr,.v Vc,dI sg,af det]),(11,.d (dI c)),(12,.d (dI r)),(14,.d (af p)),(36,.d (dI most)),(37,.d (dI c)),(16,.d (dI k)),(126,.d (.v Vr)),(127,.d (dI r)),(130,.d (dI k)),(133,.d (.v Vr)),(134,.d (dI r)),(137,.d (dI k)),(140,.d (af p)),(120,.d (dI N)),(121,.d (dI k)),(131,.d (bP v)),(139,.d (af X)),(124,.d (.tu [af Y,aj])),(143,.d aj)]) (fun V=>?_) (fun N0_1_4_2_1_0=>?_)
   · refine ZH.two 3 18 (by kernel_rfl) rfl rfl rfl rfl (fun _=>rfl) (fun _=>rfl) ⟨rfl,trivial⟩ ?_ ?_
     · refine ah (fun B1 F1 w1 hS=>?_);refine ab.idxs tok (hS.at (i:=0) rfl (by rw[List.length_map];omega)) rfl rfl rfl rfl (Int.natCast_nonneg _) (by show r<_;rw[List.length_map];omega) ?_;refine ab.nil ⟨rfl,?_⟩;exact qL (N1_1_4_2_1_0 V) (by kernel_rfl) rfl ⟨rfl,trivial⟩
     · refine ak (fun B1 F1 w1=>?_);refine qU 1 rfl ?_;refine ab.nil ⟨rfl,?_⟩;exact qL (N0_1_4_3_1_0 V) (by kernel_rfl) rfl ⟨rfl,trivial⟩
   refine ZH.meet 6 (qB 23 524263) (fun V=>((Vr,OA Ws)::(Vc,CA s.cols)::bC Ws (b.set r q))) (fun V=>[(3,.bx [.sl 1 (v.map af)]),(6,.bx [.sl 1 [],.sl 1 [],dI 0,.sl 3 []]),(7,.d aj),(8,.bx [.v Vr,.v Vc,dI sg,af det]),(11,.d (dI c)),(12,.d (dI r)),(14,.d (af p)),(36,.d (dI most)),(37,.d (dI c)),(16,.d (dI k)),(126,.d (.v Vr)),(127,.d (dI r)),(130,.d (dI k)),(133,.d (.v Vr)),(134,.d (dI r)),(137,.d (dI k)),(140,.d (af p)),(120,.d (dI N)),(121,.d (dI k)),(131,.d (bP v)),(139,.d (af X)),(124,.d (.tu [af Y,aj])),(142,.d (af Y))]) (fun V=>?_) (fun N0_1_4_3_0_0=>?_)
   · refine ZH.two 3 19 (by kernel_rfl) rfl rfl rfl rfl (fun _=>rfl) (fun _=>rfl) ⟨rfl,trivial⟩ ?_ ?_
     · refine ah (fun B1 F1 w1 hS=>?_);refine ab.idxs tok (hS.at (i:=0) rfl (by rw[List.length_map];omega)) rfl rfl rfl rfl (Int.natCast_nonneg _) (by show r<_;rw[List.length_map];omega) ?_;refine ab.nil ⟨rfl,?_⟩;exact qL (N1_1_4_3_0_0 V) (by kernel_rfl) rfl ⟨rfl,trivial⟩
     · refine ak (fun B1 F1 w1=>?_);refine qU 1 rfl ?_;refine ab.nil ⟨rfl,?_⟩;exact qL (N0_1_4_3_1_0 V) (by kernel_rfl) rfl ⟨rfl,trivial⟩
   refine ZH.meet 6 (qB 23 262127) (fun V=>((Vr,OA Ws)::(Vc,CA s.cols)::bC Ws (b.set r q))) (fun V=>[(3,.bx [.sl 1 (v.map af)]),(6,.bx [.sl 1 [],.sl 1 [],dI 0,.sl 3 []]),(7,.d aj),(8,.bx [.v Vr,.v Vc,dI sg,af det]),(11,.d (dI c)),(12,.d (dI r)),(14,.d (af p)),(36,.d (dI most)),(37,.d (dI c)),(16,.d (dI k)),(126,.d (.v Vr)),(127,.d (dI r)),(130,.d (dI k)),(133,.d (.v Vr)),(134,.d (dI r)),(137,.d (dI k)),(140,.d (af p)),(120,.d (dI N)),(121,.d (dI k)),(128,.d (.v (bd Vr (r*1)))),(131,.d (bP v)),(139,.d (af X)),(124,.d (.tu [af Y,aj]))]) (fun V=>?_) (fun N1_1_4_2_0_0=>?_)
   · refine ZH.three 4 18 19 (by kernel_rfl) rfl rfl rfl rfl rfl rfl (fun _=>rfl) (fun _=>rfl) (fun _=>rfl) ⟨rfl,trivial⟩ ?_ ?_ ?_
     · refine ah (fun B1 F1 w1 hS=>?_);refine ab.aY tok (.v (Ws.getD r undef)) (hS.at (i:=0) rfl (by rw[List.length_map];omega)) rfl rfl rfl rfl rfl rfl (bB (by omega)) rfl ?_;refine ab.nil ⟨rfl,?_⟩;exact qL (N2_1_4_2_0_0 V) (by kernel_rfl) rfl ⟨rfl,trivial⟩
     · refine ak (fun B1 F1 w1=>?_);refine qU 1 rfl ?_;refine ab.nil ⟨rfl,?_⟩;exact qL (N1_1_4_3_0_0 V) (by kernel_rfl) rfl ⟨rfl,trivial⟩
     · refine ak (fun B1 F1 w1=>?_);refine qU 1 rfl ?_;refine ab.nil ⟨rfl,?_⟩;exact qL (N1_1_4_2_1_0 V) (by kernel_rfl) rfl ⟨rfl,trivial⟩
   refine ZH.meet 6 (qB 23 131071) (fun V=>((Vr,OA Ws)::(Vc,CA s.cols)::bC Ws (b.set r q))) (fun V=>[(3,.bx [.sl 1 (v.map af)]),(6,.bx [.sl 1 [],.sl 1 [],dI 0,.sl 3 []]),(7,.d aj),(8,.bx [.v Vr,.v Vc,dI sg,af det]),(11,.d (dI c)),(12,.d (dI r)),(14,.d (af p)),(36,.d (dI most)),(37,.d (dI c)),(16,.d (dI k)),(126,.d (.v Vr)),(127,.d (dI r)),(130,.d (dI k)),(133,.d (.v Vr)),(134,.d (dI r)),(137,.d (dI k)),(140,.d (af p)),(120,.d (dI N)),(121,.d (dI k)),(129,.d (.v (Ws.getD r undef))),(131,.d (bP v)),(139,.d (af X)),(141,.d (.tu [af Y,aj]))]) (fun V=>?_) (fun N2_1_4_1_0_0=>?_)
   · refine ZH.all 17 (by kernel_rfl) rfl rfl (fun _=>rfl) ⟨rfl,trivial⟩ ?_;refine ak (fun B1 F1 w1=>?_);refine qU 1 rfl ?_;refine ab.nil ⟨rfl,?_⟩;exact qL (N2_1_4_2_0_0 V) (by kernel_rfl) rfl ⟨rfl,trivial⟩
   refine ZH.meet 7 (qB 23 262119) (fun V=>((Vr,OA Ws)::(Vc,CA s.cols)::bC Ws (b.set r q))) (fun V=>[(3,.bx [.sl 1 (v.map af)]),(6,.bx [.sl 1 [],.sl 1 [],dI 0,.sl 3 []]),(7,.d aj),(8,.bx [.v Vr,.v Vc,dI sg,af det]),(11,.d (dI c)),(12,.d (dI r)),(14,.d (af p)),(36,.d (dI most)),(37,.d (dI c)),(16,.d (dI k)),(126,.d (.v Vr)),(127,.d (dI r)),(130,.d (dI k)),(133,.d (.v Vr)),(134,.d (dI r)),(137,.d (dI k)),(140,.d (af p)),(120,.d (dI N)),(121,.d (dI k)),(131,.d (bP v)),(139,.d (af X)),(124,.d (.tu [af Y,aj]))]) (fun V=>?_) (fun N0_1_4_2_0_0=>?_)
   · refine ZH.three 3 18 19 (by kernel_rfl) rfl rfl rfl rfl rfl rfl (fun _=>rfl) (fun _=>rfl) (fun _=>rfl) ⟨rfl,trivial⟩ ?_ ?_ ?_
     · refine ah (fun B1 F1 w1 hS=>?_);refine ab.idxs tok (hS.at (i:=0) rfl (by rw[List.length_map];omega)) rfl rfl rfl rfl (Int.natCast_nonneg _) (by show r<_;rw[List.length_map];omega) ?_;refine ab.nil ⟨rfl,?_⟩;exact qL (N1_1_4_2_0_0 V) (by kernel_rfl) rfl ⟨rfl,trivial⟩
     · refine ak (fun B1 F1 w1=>?_);refine qU 1 rfl ?_;refine ab.nil ⟨rfl,?_⟩;exact qL (N0_1_4_3_0_0 V) (by kernel_rfl) rfl ⟨rfl,trivial⟩
     · refine ak (fun B1 F1 w1=>?_);refine qU 1 rfl ?_;refine ab.nil ⟨rfl,?_⟩;exact qL (N0_1_4_2_1_0 V) (by kernel_rfl) rfl ⟨rfl,trivial⟩
   refine ZH.meet 7 (qB 23 131055) (fun V=>((Vr,OA Ws)::(Vc,CA s.cols)::bC Ws (b.set r q))) (fun V=>[(3,.bx [.sl 1 (v.map af)]),(6,.bx [.sl 1 [],.sl 1 [],dI 0,.sl 3 []]),(7,.d aj),(8,.bx [.v Vr,.v Vc,dI sg,af det]),(11,.d (dI c)),(12,.d (dI r)),(14,.d (af p)),(36,.d (dI most)),(37,.d (dI c)),(16,.d (dI k)),(126,.d (.v Vr)),(127,.d (dI r)),(130,.d (dI k)),(133,.d (.v Vr)),(134,.d (dI r)),(137,.d (dI k)),(140,.d (af p)),(120,.d (dI N)),(121,.d (dI k)),(128,.d (.v (bd Vr (r*1)))),(131,.d (bP v)),(139,.d (af X)),(141,.d (.tu [af Y,aj]))]) (fun V=>?_) (fun N1_1_4_1_0_0=>?_)
   · refine ZH.two 4 17 (by kernel_rfl) rfl rfl rfl rfl (fun _=>rfl) (fun _=>rfl) ⟨rfl,trivial⟩ ?_ ?_
     · refine ah (fun B1 F1 w1 hS=>?_);refine ab.aY tok (.v (Ws.getD r undef)) (hS.at (i:=0) rfl (by rw[List.length_map];omega)) rfl rfl rfl rfl rfl rfl (bB (by omega)) rfl ?_;refine ab.nil ⟨rfl,?_⟩;exact qL (N2_1_4_1_0_0 V) (by kernel_rfl) rfl ⟨rfl,trivial⟩
     · refine ak (fun B1 F1 w1=>?_);refine qU 1 rfl ?_;refine ab.nil ⟨rfl,?_⟩;exact qL (N1_1_4_2_0_0 V) (by kernel_rfl) rfl ⟨rfl,trivial⟩
   refine ZH.meet 7 (qB 23 65535) (fun V=>((Vr,OA Ws)::(Vc,CA s.cols)::bC Ws (b.set r q))) (fun V=>[(3,.bx [.sl 1 (v.map af)]),(6,.bx [.sl 1 [],.sl 1 [],dI 0,.sl 3 []]),(7,.d aj),(8,.bx [.v Vr,.v Vc,dI sg,af det]),(11,.d (dI c)),(12,.d (dI r)),(14,.d (af p)),(36,.d (dI most)),(37,.d (dI c)),(16,.d (dI k)),(126,.d (.v Vr)),(127,.d (dI r)),(130,.d (dI k)),(133,.d (.v Vr)),(134,.d (dI r)),(137,.d (dI k)),(140,.d (af p)),(120,.d (dI N)),(121,.d (dI k)),(129,.d (.v (Ws.getD r undef))),(131,.d (bP v)),(139,.d (af X))]) (fun V=>?_) (fun N2_1_4_0_0_0=>?_)
   · refine ZH.all 16 (by kernel_rfl) rfl rfl (fun _=>rfl) ⟨rfl,trivial⟩ ?_;refine ak (fun B1 F1 w1=>?_);refine ab.call tok rfl rfl rfl rfl cd ?_;refine ab.nil ⟨rfl,?_⟩;exact qL (N2_1_4_1_0_0 V) (by kernel_rfl) rfl ⟨rfl,trivial⟩
   refine ZH.meet 8 (qB 23 131047) (fun V=>((Vr,OA Ws)::(Vc,CA s.cols)::bC Ws (b.set r q))) (fun V=>[(3,.bx [.sl 1 (v.map af)]),(6,.bx [.sl 1 [],.sl 1 [],dI 0,.sl 3 []]),(7,.d aj),(8,.bx [.v Vr,.v Vc,dI sg,af det]),(11,.d (dI c)),(12,.d (dI r)),(14,.d (af p)),(36,.d (dI most)),(37,.d (dI c)),(16,.d (dI k)),(126,.d (.v Vr)),(127,.d (dI r)),(130,.d (dI k)),(133,.d (.v Vr)),(134,.d (dI r)),(137,.d (dI k)),(140,.d (af p)),(120,.d (dI N)),(121,.d (dI k)),(131,.d (bP v)),(139,.d (af X)),(141,.d (.tu [af Y,aj]))]) (fun V=>?_) (fun N0_1_4_1_0_0=>?_)
   · refine ZH.two 3 17 (by kernel_rfl) rfl rfl rfl rfl (fun _=>rfl) (fun _=>rfl) ⟨rfl,trivial⟩ ?_ ?_
     · refine ah (fun B1 F1 w1 hS=>?_);refine ab.idxs tok (hS.at (i:=0) rfl (by rw[List.length_map];omega)) rfl rfl rfl rfl (Int.natCast_nonneg _) (by show r<_;rw[List.length_map];omega) ?_;refine ab.nil ⟨rfl,?_⟩;exact qL (N1_1_4_1_0_0 V) (by kernel_rfl) rfl ⟨rfl,trivial⟩
     · refine ak (fun B1 F1 w1=>?_);refine qU 1 rfl ?_;refine ab.nil ⟨rfl,?_⟩;exact qL (N0_1_4_2_0_0 V) (by kernel_rfl) rfl ⟨rfl,trivial⟩
   refine ZH.meet 8 (qB 23 65519) (fun V=>((Vr,OA Ws)::(Vc,CA s.cols)::bC Ws (b.set r q))) (fun V=>[(3,.bx [.sl 1 (v.map af)]),(6,.bx [.sl 1 [],.sl 1 [],dI 0,.sl 3 []]),(7,.d aj),(8,.bx [.v Vr,.v Vc,dI sg,af det]),(11,.d (dI c)),(12,.d (dI r)),(14,.d (af p)),(36,.d (dI most)),(37,.d (dI c)),(16,.d (dI k)),(126,.d (.v Vr)),(127,.d (dI r)),(130,.d (dI k)),(133,.d (.v Vr)),(134,.d (dI r)),(137,.d (dI k)),(140,.d (af p)),(120,.d (dI N)),(121,.d (dI k)),(128,.d (.v (bd Vr (r*1)))),(131,.d (bP v)),(139,.d (af X))]) (fun V=>?_) (fun N1_1_4_0_0_0=>?_)
   · refine ZH.two 4 16 (by kernel_rfl) rfl rfl rfl rfl (fun _=>rfl) (fun _=>rfl) ⟨rfl,trivial⟩ ?_ ?_
     · refine ah (fun B1 F1 w1 hS=>?_);refine ab.aY tok (.v (Ws.getD r undef)) (hS.at (i:=0) rfl (by rw[List.length_map];omega)) rfl rfl rfl rfl rfl rfl (bB (by omega)) rfl ?_;refine ab.nil ⟨rfl,?_⟩;exact qL (N2_1_4_0_0_0 V) (by kernel_rfl) rfl ⟨rfl,trivial⟩
     · refine ak (fun B1 F1 w1=>?_);refine ab.call tok rfl rfl rfl rfl cd ?_;refine ab.nil ⟨rfl,?_⟩;exact qL (N1_1_4_1_0_0 V) (by kernel_rfl) rfl ⟨rfl,trivial⟩
   refine ZH.meet 8 (qB 23 65471) (fun V=>((Vr,OA Ws)::(Vc,CA s.cols)::bC Ws (b.set r q))) (fun V=>[(3,.bx [.sl 1 (v.map af)]),(6,.bx [.sl 1 [],.sl 1 [],dI 0,.sl 3 []]),(7,.d aj),(8,.bx [.v Vr,.v Vc,dI sg,af det]),(11,.d (dI c)),(12,.d (dI r)),(14,.d (af p)),(36,.d (dI most)),(37,.d (dI c)),(16,.d (dI k)),(126,.d (.v Vr)),(127,.d (dI r)),(130,.d (dI k)),(133,.d (.v Vr)),(134,.d (dI r)),(137,.d (dI k)),(140,.d (af p)),(120,.d (dI N)),(121,.d (dI k)),(129,.d (.v (Ws.getD r undef))),(139,.d (af X))]) (fun V=>?_) (fun N2_0_4_0_0_0=>?_)
   · refine ZH.all 6 (by kernel_rfl) rfl rfl (fun _=>rfl) ⟨rfl,trivial⟩ ?_;refine ak (fun B1 F1 w1=>?_);refine qU 1 rfl ?_;refine ab.nil ⟨rfl,?_⟩;exact qL (N2_1_4_0_0_0 V) (by kernel_rfl) rfl ⟨rfl,trivial⟩
   refine ZH.meet 8 (qB 23 49151) (fun V=>((Vr,OA Ws)::(Vc,CA s.cols)::bC Ws (b.set r q))) (fun V=>[(3,.bx [.sl 1 (v.map af)]),(6,.bx [.sl 1 [],.sl 1 [],dI 0,.sl 3 []]),(7,.d aj),(8,.bx [.v Vr,.v Vc,dI sg,af det]),(11,.d (dI c)),(12,.d (dI r)),(14,.d (af p)),(36,.d (dI most)),(37,.d (dI c)),(16,.d (dI k)),(126,.d (.v Vr)),(127,.d (dI r)),(130,.d (dI k)),(133,.d (.v Vr)),(134,.d (dI r)),(137,.d (dI k)),(140,.d (af p)),(120,.d (dI N)),(121,.d (dI k)),(129,.d (.v (Ws.getD r undef))),(131,.d (bP v)),(136,.d (.v (Ws.getD r undef))),(138,.d (.v (bd (Ws.getD r undef) (k*1))))]) (fun V=>?_) (fun N2_1_3_0_0_0=>?_)
   · refine ZH.all 14 (by kernel_rfl) rfl rfl (fun _=>rfl) ⟨rfl,trivial⟩ ?_;refine ah (fun B1 F1 w1 hS=>?_);refine ab.aY tok (af (q.getD k [])) (hS.at (i:=r+2) (hgr q) (by rw[List.length_map];omega)) rfl rfl rfl rfl rfl rfl (getM af (by omega)) rfl ?_;rw[hpg];refine ab.nil ⟨rfl,?_⟩;exact qL (N2_1_4_0_0_0 V) (by kernel_rfl) rfl ⟨rfl,trivial⟩
   refine ZH.meet 9 (qB 23 65511) (fun V=>((Vr,OA Ws)::(Vc,CA s.cols)::bC Ws (b.set r q))) (fun V=>[(3,.bx [.sl 1 (v.map af)]),(6,.bx [.sl 1 [],.sl 1 [],dI 0,.sl 3 []]),(7,.d aj),(8,.bx [.v Vr,.v Vc,dI sg,af det]),(11,.d (dI c)),(12,.d (dI r)),(14,.d (af p)),(36,.d (dI most)),(37,.d (dI c)),(16,.d (dI k)),(126,.d (.v Vr)),(127,.d (dI r)),(130,.d (dI k)),(133,.d (.v Vr)),(134,.d (dI r)),(137,.d (dI k)),(140,.d (af p)),(120,.d (dI N)),(121,.d (dI k)),(131,.d (bP v)),(139,.d (af X))]) (fun V=>?_) (fun N0_1_4_0_0_0=>?_)
   · refine ZH.two 3 16 (by kernel_rfl) rfl rfl rfl rfl (fun _=>rfl) (fun _=>rfl) ⟨rfl,trivial⟩ ?_ ?_
     · refine ah (fun B1 F1 w1 hS=>?_);refine ab.idxs tok (hS.at (i:=0) rfl (by rw[List.length_map];omega)) rfl rfl rfl rfl (Int.natCast_nonneg _) (by show r<_;rw[List.length_map];omega) ?_;refine ab.nil ⟨rfl,?_⟩;exact qL (N1_1_4_0_0_0 V) (by kernel_rfl) rfl ⟨rfl,trivial⟩
     · refine ak (fun B1 F1 w1=>?_);refine ab.call tok rfl rfl rfl rfl cd ?_;refine ab.nil ⟨rfl,?_⟩;exact qL (N0_1_4_1_0_0 V) (by kernel_rfl) rfl ⟨rfl,trivial⟩
   refine ZH.meet 9 (qB 23 65455) (fun V=>((Vr,OA Ws)::(Vc,CA s.cols)::bC Ws (b.set r q))) (fun V=>[(3,.bx [.sl 1 (v.map af)]),(6,.bx [.sl 1 [],.sl 1 [],dI 0,.sl 3 []]),(7,.d aj),(8,.bx [.v Vr,.v Vc,dI sg,af det]),(11,.d (dI c)),(12,.d (dI r)),(14,.d (af p)),(36,.d (dI most)),(37,.d (dI c)),(16,.d (dI k)),(126,.d (.v Vr)),(127,.d (dI r)),(130,.d (dI k)),(133,.d (.v Vr)),(134,.d (dI r)),(137,.d (dI k)),(140,.d (af p)),(120,.d (dI N)),(121,.d (dI k)),(128,.d (.v (bd Vr (r*1)))),(139,.d (af X))]) (fun V=>?_) (fun N1_0_4_0_0_0=>?_)
   · refine ZH.two 4 6 (by kernel_rfl) rfl rfl rfl rfl (fun _=>rfl) (fun _=>rfl) ⟨rfl,trivial⟩ ?_ ?_
     · refine ah (fun B1 F1 w1 hS=>?_);refine ab.aY tok (.v (Ws.getD r undef)) (hS.at (i:=0) rfl (by rw[List.length_map];omega)) rfl rfl rfl rfl rfl rfl (bB (by omega)) rfl ?_;refine ab.nil ⟨rfl,?_⟩;exact qL (N2_0_4_0_0_0 V) (by kernel_rfl) rfl ⟨rfl,trivial⟩
     · refine ak (fun B1 F1 w1=>?_);refine qU 1 rfl ?_;refine ab.nil ⟨rfl,?_⟩;exact qL (N1_1_4_0_0_0 V) (by kernel_rfl) rfl ⟨rfl,trivial⟩
   refine ZH.meet 9 (qB 23 49135) (fun V=>((Vr,OA Ws)::(Vc,CA s.cols)::bC Ws (b.set r q))) (fun V=>[(3,.bx [.sl 1 (v.map af)]),(6,.bx [.sl 1 [],.sl 1 [],dI 0,.sl 3 []]),(7,.d aj),(8,.bx [.v Vr,.v Vc,dI sg,af det]),(11,.d (dI c)),(12,.d (dI r)),(14,.d (af p)),(36,.d (dI most)),(37,.d (dI c)),(16,.d (dI k)),(126,.d (.v Vr)),(127,.d (dI r)),(130,.d (dI k)),(133,.d (.v Vr)),(134,.d (dI r)),(137,.d (dI k)),(140,.d (af p)),(120,.d (dI N)),(121,.d (dI k)),(128,.d (.v (bd Vr (r*1)))),(131,.d (bP v)),(136,.d (.v (Ws.getD r undef))),(138,.d (.v (bd (Ws.getD r undef) (k*1))))]) (fun V=>?_) (fun N1_1_3_0_0_0=>?_)
   · refine ZH.two 4 14 (by kernel_rfl) rfl rfl rfl rfl (fun _=>rfl) (fun _=>rfl) ⟨rfl,trivial⟩ ?_ ?_
     · refine ah (fun B1 F1 w1 hS=>?_);refine ab.aY tok (.v (Ws.getD r undef)) (hS.at (i:=0) rfl (by rw[List.length_map];omega)) rfl rfl rfl rfl rfl rfl (bB (by omega)) rfl ?_;refine ab.nil ⟨rfl,?_⟩;exact qL (N2_1_3_0_0_0 V) (by kernel_rfl) rfl ⟨rfl,trivial⟩
     · refine ah (fun B1 F1 w1 hS=>?_);refine ab.aY tok (af (q.getD k [])) (hS.at (i:=r+2) (hgr q) (by rw[List.length_map];omega)) rfl rfl rfl rfl rfl rfl (getM af (by omega)) rfl ?_;rw[hpg];refine ab.nil ⟨rfl,?_⟩;exact qL (N1_1_4_0_0_0 V) (by kernel_rfl) rfl ⟨rfl,trivial⟩
   refine ZH.meet 9 (qB 23 49087) (fun V=>((Vr,OA Ws)::(Vc,CA s.cols)::bC Ws (b.set r q))) (fun V=>[(3,.bx [.sl 1 (v.map af)]),(6,.bx [.sl 1 [],.sl 1 [],dI 0,.sl 3 []]),(7,.d aj),(8,.bx [.v Vr,.v Vc,dI sg,af det]),(11,.d (dI c)),(12,.d (dI r)),(14,.d (af p)),(36,.d (dI most)),(37,.d (dI c)),(16,.d (dI k)),(126,.d (.v Vr)),(127,.d (dI r)),(130,.d (dI k)),(133,.d (.v Vr)),(134,.d (dI r)),(137,.d (dI k)),(140,.d (af p)),(120,.d (dI N)),(121,.d (dI k)),(129,.d (.v (Ws.getD r undef))),(136,.d (.v (Ws.getD r undef))),(138,.d (.v (bd (Ws.getD r undef) (k*1))))]) (fun V=>?_) (fun N2_0_3_0_0_0=>?_)
   · refine ZH.two 6 14 (by kernel_rfl) rfl rfl rfl rfl (fun _=>rfl) (fun _=>rfl) ⟨rfl,trivial⟩ ?_ ?_
     · refine ak (fun B1 F1 w1=>?_);refine qU 1 rfl ?_;refine ab.nil ⟨rfl,?_⟩;exact qL (N2_1_3_0_0_0 V) (by kernel_rfl) rfl ⟨rfl,trivial⟩
     · refine ah (fun B1 F1 w1 hS=>?_);refine ab.aY tok (af (q.getD k [])) (hS.at (i:=r+2) (hgr q) (by rw[List.length_map];omega)) rfl rfl rfl rfl rfl rfl (getM af (by omega)) rfl ?_;rw[hpg];refine ab.nil ⟨rfl,?_⟩;exact qL (N2_0_4_0_0_0 V) (by kernel_rfl) rfl ⟨rfl,trivial⟩
   refine ZH.meet 9 (qB 23 40959) (fun V=>((Vr,OA Ws)::(Vc,CA s.cols)::bC Ws (b.set r q))) (fun V=>[(3,.bx [.sl 1 (v.map af)]),(6,.bx [.sl 1 [],.sl 1 [],dI 0,.sl 3 []]),(7,.d aj),(8,.bx [.v Vr,.v Vc,dI sg,af det]),(11,.d (dI c)),(12,.d (dI r)),(14,.d (af p)),(36,.d (dI most)),(37,.d (dI c)),(16,.d (dI k)),(126,.d (.v Vr)),(127,.d (dI r)),(130,.d (dI k)),(133,.d (.v Vr)),(134,.d (dI r)),(137,.d (dI k)),(140,.d (af p)),(120,.d (dI N)),(121,.d (dI k)),(129,.d (.v (Ws.getD r undef))),(131,.d (bP v)),(136,.d (.v (Ws.getD r undef)))]) (fun V=>?_) (fun N2_1_2_0_0_0=>?_)
   · refine ZH.all 13 (by kernel_rfl) rfl rfl (fun _=>rfl) ⟨rfl,trivial⟩ ?_;refine ah (fun B1 F1 w1 hS=>?_);refine ab.idxs tok (hS.at (i:=r+2) (hgr q) (by rw[List.length_map];omega)) rfl rfl rfl rfl (Int.natCast_nonneg k) (by rw[List.length_map];omega) ?_;refine ab.nil ⟨rfl,?_⟩;exact qL (N2_1_3_0_0_0 V) (by kernel_rfl) rfl ⟨rfl,trivial⟩
   refine ZH.meet 10 (qB 23 65447) (fun V=>((Vr,OA Ws)::(Vc,CA s.cols)::bC Ws (b.set r q))) (fun V=>[(3,.bx [.sl 1 (v.map af)]),(6,.bx [.sl 1 [],.sl 1 [],dI 0,.sl 3 []]),(7,.d aj),(8,.bx [.v Vr,.v Vc,dI sg,af det]),(11,.d (dI c)),(12,.d (dI r)),(14,.d (af p)),(36,.d (dI most)),(37,.d (dI c)),(16,.d (dI k)),(126,.d (.v Vr)),(127,.d (dI r)),(130,.d (dI k)),(133,.d (.v Vr)),(134,.d (dI r)),(137,.d (dI k)),(140,.d (af p)),(120,.d (dI N)),(121,.d (dI k)),(139,.d (af X))]) (fun V=>?_) (fun N0_0_4_0_0_0=>?_)
   · refine ZH.two 3 6 (by kernel_rfl) rfl rfl rfl rfl (fun _=>rfl) (fun _=>rfl) ⟨rfl,trivial⟩ ?_ ?_
     · refine ah (fun B1 F1 w1 hS=>?_);refine ab.idxs tok (hS.at (i:=0) rfl (by rw[List.length_map];omega)) rfl rfl rfl rfl (Int.natCast_nonneg _) (by show r<_;rw[List.length_map];omega) ?_;refine ab.nil ⟨rfl,?_⟩;exact qL (N1_0_4_0_0_0 V) (by kernel_rfl) rfl ⟨rfl,trivial⟩
     · refine ak (fun B1 F1 w1=>?_);refine qU 1 rfl ?_;refine ab.nil ⟨rfl,?_⟩;exact qL (N0_1_4_0_0_0 V) (by kernel_rfl) rfl ⟨rfl,trivial⟩
   refine ZH.meet 10 (qB 23 49127) (fun V=>((Vr,OA Ws)::(Vc,CA s.cols)::bC Ws (b.set r q))) (fun V=>[(3,.bx [.sl 1 (v.map af)]),(6,.bx [.sl 1 [],.sl 1 [],dI 0,.sl 3 []]),(7,.d aj),(8,.bx [.v Vr,.v Vc,dI sg,af det]),(11,.d (dI c)),(12,.d (dI r)),(14,.d (af p)),(36,.d (dI most)),(37,.d (dI c)),(16,.d (dI k)),(126,.d (.v Vr)),(127,.d (dI r)),(130,.d (dI k)),(133,.d (.v Vr)),(134,.d (dI r)),(137,.d (dI k)),(140,.d (af p)),(120,.d (dI N)),(121,.d (dI k)),(131,.d (bP v)),(136,.d (.v (Ws.getD r undef))),(138,.d (.v (bd (Ws.getD r undef) (k*1))))]) (fun V=>?_) (fun N0_1_3_0_0_0=>?_)
   · refine ZH.two 3 14 (by kernel_rfl) rfl rfl rfl rfl (fun _=>rfl) (fun _=>rfl) ⟨rfl,trivial⟩ ?_ ?_
     · refine ah (fun B1 F1 w1 hS=>?_);refine ab.idxs tok (hS.at (i:=0) rfl (by rw[List.length_map];omega)) rfl rfl rfl rfl (Int.natCast_nonneg _) (by show r<_;rw[List.length_map];omega) ?_;refine ab.nil ⟨rfl,?_⟩;exact qL (N1_1_3_0_0_0 V) (by kernel_rfl) rfl ⟨rfl,trivial⟩
     · refine ah (fun B1 F1 w1 hS=>?_);refine ab.aY tok (af (q.getD k [])) (hS.at (i:=r+2) (hgr q) (by rw[List.length_map];omega)) rfl rfl rfl rfl rfl rfl (getM af (by omega)) rfl ?_;rw[hpg];refine ab.nil ⟨rfl,?_⟩;exact qL (N0_1_4_0_0_0 V) (by kernel_rfl) rfl ⟨rfl,trivial⟩
   refine ZH.meet 10 (qB 23 49071) (fun V=>((Vr,OA Ws)::(Vc,CA s.cols)::bC Ws (b.set r q))) (fun V=>[(3,.bx [.sl 1 (v.map af)]),(6,.bx [.sl 1 [],.sl 1 [],dI 0,.sl 3 []]),(7,.d aj),(8,.bx [.v Vr,.v Vc,dI sg,af det]),(11,.d (dI c)),(12,.d (dI r)),(14,.d (af p)),(36,.d (dI most)),(37,.d (dI c)),(16,.d (dI k)),(126,.d (.v Vr)),(127,.d (dI r)),(130,.d (dI k)),(133,.d (.v Vr)),(134,.d (dI r)),(137,.d (dI k)),(140,.d (af p)),(120,.d (dI N)),(121,.d (dI k)),(128,.d (.v (bd Vr (r*1)))),(136,.d (.v (Ws.getD r undef))),(138,.d (.v (bd (Ws.getD r undef) (k*1))))]) (fun V=>?_) (fun N1_0_3_0_0_0=>?_)
   · refine ZH.three 4 6 14 (by kernel_rfl) rfl rfl rfl rfl rfl rfl (fun _=>rfl) (fun _=>rfl) (fun _=>rfl) ⟨rfl,trivial⟩ ?_ ?_ ?_
     · refine ah (fun B1 F1 w1 hS=>?_);refine ab.aY tok (.v (Ws.getD r undef)) (hS.at (i:=0) rfl (by rw[List.length_map];omega)) rfl rfl rfl rfl rfl rfl (bB (by omega)) rfl ?_;refine ab.nil ⟨rfl,?_⟩;exact qL (N2_0_3_0_0_0 V) (by kernel_rfl) rfl ⟨rfl,trivial⟩
     · refine ak (fun B1 F1 w1=>?_);refine qU 1 rfl ?_;refine ab.nil ⟨rfl,?_⟩;exact qL (N1_1_3_0_0_0 V) (by kernel_rfl) rfl ⟨rfl,trivial⟩
     · refine ah (fun B1 F1 w1 hS=>?_);refine ab.aY tok (af (q.getD k [])) (hS.at (i:=r+2) (hgr q) (by rw[List.length_map];omega)) rfl rfl rfl rfl rfl rfl (getM af (by omega)) rfl ?_;rw[hpg];refine ab.nil ⟨rfl,?_⟩;exact qL (N1_0_4_0_0_0 V) (by kernel_rfl) rfl ⟨rfl,trivial⟩
   refine ZH.meet 10 (qB 23 40943) (fun V=>((Vr,OA Ws)::(Vc,CA s.cols)::bC Ws (b.set r q))) (fun V=>[(3,.bx [.sl 1 (v.map af)]),(6,.bx [.sl 1 [],.sl 1 [],dI 0,.sl 3 []]),(7,.d aj),(8,.bx [.v Vr,.v Vc,dI sg,af det]),(11,.d (dI c)),(12,.d (dI r)),(14,.d (af p)),(36,.d (dI most)),(37,.d (dI c)),(16,.d (dI k)),(126,.d (.v Vr)),(127,.d (dI r)),(130,.d (dI k)),(133,.d (.v Vr)),(134,.d (dI r)),(137,.d (dI k)),(140,.d (af p)),(120,.d (dI N)),(121,.d (dI k)),(128,.d (.v (bd Vr (r*1)))),(131,.d (bP v)),(136,.d (.v (Ws.getD r undef)))]) (fun V=>?_) (fun N1_1_2_0_0_0=>?_)
   · refine ZH.two 4 13 (by kernel_rfl) rfl rfl rfl rfl (fun _=>rfl) (fun _=>rfl) ⟨rfl,trivial⟩ ?_ ?_
     · refine ah (fun B1 F1 w1 hS=>?_);refine ab.aY tok (.v (Ws.getD r undef)) (hS.at (i:=0) rfl (by rw[List.length_map];omega)) rfl rfl rfl rfl rfl rfl (bB (by omega)) rfl ?_;refine ab.nil ⟨rfl,?_⟩;exact qL (N2_1_2_0_0_0 V) (by kernel_rfl) rfl ⟨rfl,trivial⟩
     · refine ah (fun B1 F1 w1 hS=>?_);refine ab.idxs tok (hS.at (i:=r+2) (hgr q) (by rw[List.length_map];omega)) rfl rfl rfl rfl (Int.natCast_nonneg k) (by rw[List.length_map];omega) ?_;refine ab.nil ⟨rfl,?_⟩;exact qL (N1_1_3_0_0_0 V) (by kernel_rfl) rfl ⟨rfl,trivial⟩
   refine ZH.meet 10 (qB 23 40895) (fun V=>((Vr,OA Ws)::(Vc,CA s.cols)::bC Ws (b.set r q))) (fun V=>[(3,.bx [.sl 1 (v.map af)]),(6,.bx [.sl 1 [],.sl 1 [],dI 0,.sl 3 []]),(7,.d aj),(8,.bx [.v Vr,.v Vc,dI sg,af det]),(11,.d (dI c)),(12,.d (dI r)),(14,.d (af p)),(36,.d (dI most)),(37,.d (dI c)),(16,.d (dI k)),(126,.d (.v Vr)),(127,.d (dI r)),(130,.d (dI k)),(133,.d (.v Vr)),(134,.d (dI r)),(137,.d (dI k)),(140,.d (af p)),(120,.d (dI N)),(121,.d (dI k)),(129,.d (.v (Ws.getD r undef))),(136,.d (.v (Ws.getD r undef)))]) (fun V=>?_) (fun N2_0_2_0_0_0=>?_)
   · refine ZH.two 6 13 (by kernel_rfl) rfl rfl rfl rfl (fun _=>rfl) (fun _=>rfl) ⟨rfl,trivial⟩ ?_ ?_
     · refine ak (fun B1 F1 w1=>?_);refine qU 1 rfl ?_;refine ab.nil ⟨rfl,?_⟩;exact qL (N2_1_2_0_0_0 V) (by kernel_rfl) rfl ⟨rfl,trivial⟩
     · refine ah (fun B1 F1 w1 hS=>?_);refine ab.idxs tok (hS.at (i:=r+2) (hgr q) (by rw[List.length_map];omega)) rfl rfl rfl rfl (Int.natCast_nonneg k) (by rw[List.length_map];omega) ?_;refine ab.nil ⟨rfl,?_⟩;exact qL (N2_0_3_0_0_0 V) (by kernel_rfl) rfl ⟨rfl,trivial⟩
   refine ZH.meet 10 (qB 23 38911) (fun V=>((Vr,OA Ws)::(Vc,CA s.cols)::bC Ws (b.set r q))) (fun V=>[(3,.bx [.sl 1 (v.map af)]),(6,.bx [.sl 1 [],.sl 1 [],dI 0,.sl 3 []]),(7,.d aj),(8,.bx [.v Vr,.v Vc,dI sg,af det]),(11,.d (dI c)),(12,.d (dI r)),(14,.d (af p)),(36,.d (dI most)),(37,.d (dI c)),(16,.d (dI k)),(126,.d (.v Vr)),(127,.d (dI r)),(130,.d (dI k)),(133,.d (.v Vr)),(134,.d (dI r)),(137,.d (dI k)),(140,.d (af p)),(120,.d (dI N)),(121,.d (dI k)),(129,.d (.v (Ws.getD r undef))),(131,.d (bP v)),(135,.d (.v (bd Vr (r*1))))]) (fun V=>?_) (fun N2_1_1_0_0_0=>?_)
   · refine ZH.all 11 (by kernel_rfl) rfl rfl (fun _=>rfl) ⟨rfl,trivial⟩ ?_;refine ah (fun B1 F1 w1 hS=>?_);refine ab.aY tok (.v (Ws.getD r undef)) (hS.at (i:=0) rfl (by rw[List.length_map];omega)) rfl rfl rfl rfl rfl rfl (bB (by omega)) rfl ?_;refine ab.nil ⟨rfl,?_⟩;exact qL (N2_1_2_0_0_0 V) (by kernel_rfl) rfl ⟨rfl,trivial⟩
   refine ZH.meet 11 (qB 23 49063) (fun V=>((Vr,OA Ws)::(Vc,CA s.cols)::bC Ws (b.set r q))) (fun V=>[(3,.bx [.sl 1 (v.map af)]),(6,.bx [.sl 1 [],.sl 1 [],dI 0,.sl 3 []]),(7,.d aj),(8,.bx [.v Vr,.v Vc,dI sg,af det]),(11,.d (dI c)),(12,.d (dI r)),(14,.d (af p)),(36,.d (dI most)),(37,.d (dI c)),(16,.d (dI k)),(126,.d (.v Vr)),(127,.d (dI r)),(130,.d (dI k)),(133,.d (.v Vr)),(134,.d (dI r)),(137,.d (dI k)),(140,.d (af p)),(120,.d (dI N)),(121,.d (dI k)),(136,.d (.v (Ws.getD r undef))),(138,.d (.v (bd (Ws.getD r undef) (k*1))))]) (fun V=>?_) (fun N0_0_3_0_0_0=>?_)
   · refine ZH.three 3 6 14 (by kernel_rfl) rfl rfl rfl rfl rfl rfl (fun _=>rfl) (fun _=>rfl) (fun _=>rfl) ⟨rfl,trivial⟩ ?_ ?_ ?_
     · refine ah (fun B1 F1 w1 hS=>?_);refine ab.idxs tok (hS.at (i:=0) rfl (by rw[List.length_map];omega)) rfl rfl rfl rfl (Int.natCast_nonneg _) (by show r<_;rw[List.length_map];omega) ?_;refine ab.nil ⟨rfl,?_⟩;exact qL (N1_0_3_0_0_0 V) (by kernel_rfl) rfl ⟨rfl,trivial⟩
     · refine ak (fun B1 F1 w1=>?_);refine qU 1 rfl ?_;refine ab.nil ⟨rfl,?_⟩;exact qL (N0_1_3_0_0_0 V) (by kernel_rfl) rfl ⟨rfl,trivial⟩
     · refine ah (fun B1 F1 w1 hS=>?_);refine ab.aY tok (af (q.getD k [])) (hS.at (i:=r+2) (hgr q) (by rw[List.length_map];omega)) rfl rfl rfl rfl rfl rfl (getM af (by omega)) rfl ?_;rw[hpg];refine ab.nil ⟨rfl,?_⟩;exact qL (N0_0_4_0_0_0 V) (by kernel_rfl) rfl ⟨rfl,trivial⟩
   refine ZH.meet 11 (qB 23 40935) (fun V=>((Vr,OA Ws)::(Vc,CA s.cols)::bC Ws (b.set r q))) (fun V=>[(3,.bx [.sl 1 (v.map af)]),(6,.bx [.sl 1 [],.sl 1 [],dI 0,.sl 3 []]),(7,.d aj),(8,.bx [.v Vr,.v Vc,dI sg,af det]),(11,.d (dI c)),(12,.d (dI r)),(14,.d (af p)),(36,.d (dI most)),(37,.d (dI c)),(16,.d (dI k)),(126,.d (.v Vr)),(127,.d (dI r)),(130,.d (dI k)),(133,.d (.v Vr)),(134,.d (dI r)),(137,.d (dI k)),(140,.d (af p)),(120,.d (dI N)),(121,.d (dI k)),(131,.d (bP v)),(136,.d (.v (Ws.getD r undef)))]) (fun V=>?_) (fun N0_1_2_0_0_0=>?_)
   · refine ZH.two 3 13 (by kernel_rfl) rfl rfl rfl rfl (fun _=>rfl) (fun _=>rfl) ⟨rfl,trivial⟩ ?_ ?_
     · refine ah (fun B1 F1 w1 hS=>?_);refine ab.idxs tok (hS.at (i:=0) rfl (by rw[List.length_map];omega)) rfl rfl rfl rfl (Int.natCast_nonneg _) (by show r<_;rw[List.length_map];omega) ?_;refine ab.nil ⟨rfl,?_⟩;exact qL (N1_1_2_0_0_0 V) (by kernel_rfl) rfl ⟨rfl,trivial⟩
     · refine ah (fun B1 F1 w1 hS=>?_);refine ab.idxs tok (hS.at (i:=r+2) (hgr q) (by rw[List.length_map];omega)) rfl rfl rfl rfl (Int.natCast_nonneg k) (by rw[List.length_map];omega) ?_;refine ab.nil ⟨rfl,?_⟩;exact qL (N0_1_3_0_0_0 V) (by kernel_rfl) rfl ⟨rfl,trivial⟩
   refine ZH.meet 11 (qB 23 40879) (fun V=>((Vr,OA Ws)::(Vc,CA s.cols)::bC Ws (b.set r q))) (fun V=>[(3,.bx [.sl 1 (v.map af)]),(6,.bx [.sl 1 [],.sl 1 [],dI 0,.sl 3 []]),(7,.d aj),(8,.bx [.v Vr,.v Vc,dI sg,af det]),(11,.d (dI c)),(12,.d (dI r)),(14,.d (af p)),(36,.d (dI most)),(37,.d (dI c)),(16,.d (dI k)),(126,.d (.v Vr)),(127,.d (dI r)),(130,.d (dI k)),(133,.d (.v Vr)),(134,.d (dI r)),(137,.d (dI k)),(140,.d (af p)),(120,.d (dI N)),(121,.d (dI k)),(128,.d (.v (bd Vr (r*1)))),(136,.d (.v (Ws.getD r undef)))]) (fun V=>?_) (fun N1_0_2_0_0_0=>?_)
   · refine ZH.three 4 6 13 (by kernel_rfl) rfl rfl rfl rfl rfl rfl (fun _=>rfl) (fun _=>rfl) (fun _=>rfl) ⟨rfl,trivial⟩ ?_ ?_ ?_
     · refine ah (fun B1 F1 w1 hS=>?_);refine ab.aY tok (.v (Ws.getD r undef)) (hS.at (i:=0) rfl (by rw[List.length_map];omega)) rfl rfl rfl rfl rfl rfl (bB (by omega)) rfl ?_;refine ab.nil ⟨rfl,?_⟩;exact qL (N2_0_2_0_0_0 V) (by kernel_rfl) rfl ⟨rfl,trivial⟩
     · refine ak (fun B1 F1 w1=>?_);refine qU 1 rfl ?_;refine ab.nil ⟨rfl,?_⟩;exact qL (N1_1_2_0_0_0 V) (by kernel_rfl) rfl ⟨rfl,trivial⟩
     · refine ah (fun B1 F1 w1 hS=>?_);refine ab.idxs tok (hS.at (i:=r+2) (hgr q) (by rw[List.length_map];omega)) rfl rfl rfl rfl (Int.natCast_nonneg k) (by rw[List.length_map];omega) ?_;refine ab.nil ⟨rfl,?_⟩;exact qL (N1_0_3_0_0_0 V) (by kernel_rfl) rfl ⟨rfl,trivial⟩
   refine ZH.meet 11 (qB 23 38895) (fun V=>((Vr,OA Ws)::(Vc,CA s.cols)::bC Ws (b.set r q))) (fun V=>[(3,.bx [.sl 1 (v.map af)]),(6,.bx [.sl 1 [],.sl 1 [],dI 0,.sl 3 []]),(7,.d aj),(8,.bx [.v Vr,.v Vc,dI sg,af det]),(11,.d (dI c)),(12,.d (dI r)),(14,.d (af p)),(36,.d (dI most)),(37,.d (dI c)),(16,.d (dI k)),(126,.d (.v Vr)),(127,.d (dI r)),(130,.d (dI k)),(133,.d (.v Vr)),(134,.d (dI r)),(137,.d (dI k)),(140,.d (af p)),(120,.d (dI N)),(121,.d (dI k)),(128,.d (.v (bd Vr (r*1)))),(131,.d (bP v)),(135,.d (.v (bd Vr (r*1))))]) (fun V=>?_) (fun N1_1_1_0_0_0=>?_)
   · refine ZH.two 4 11 (by kernel_rfl) rfl rfl rfl rfl (fun _=>rfl) (fun _=>rfl) ⟨rfl,trivial⟩ ?_ ?_
     · refine ah (fun B1 F1 w1 hS=>?_);refine ab.aY tok (.v (Ws.getD r undef)) (hS.at (i:=0) rfl (by rw[List.length_map];omega)) rfl rfl rfl rfl rfl rfl (bB (by omega)) rfl ?_;refine ab.nil ⟨rfl,?_⟩;exact qL (N2_1_1_0_0_0 V) (by kernel_rfl) rfl ⟨rfl,trivial⟩
     · refine ah (fun B1 F1 w1 hS=>?_);refine ab.aY tok (.v (Ws.getD r undef)) (hS.at (i:=0) rfl (by rw[List.length_map];omega)) rfl rfl rfl rfl rfl rfl (bB (by omega)) rfl ?_;refine ab.nil ⟨rfl,?_⟩;exact qL (N1_1_2_0_0_0 V) (by kernel_rfl) rfl ⟨rfl,trivial⟩
   refine ZH.meet 11 (qB 23 38847) (fun V=>((Vr,OA Ws)::(Vc,CA s.cols)::bC Ws (b.set r q))) (fun V=>[(3,.bx [.sl 1 (v.map af)]),(6,.bx [.sl 1 [],.sl 1 [],dI 0,.sl 3 []]),(7,.d aj),(8,.bx [.v Vr,.v Vc,dI sg,af det]),(11,.d (dI c)),(12,.d (dI r)),(14,.d (af p)),(36,.d (dI most)),(37,.d (dI c)),(16,.d (dI k)),(126,.d (.v Vr)),(127,.d (dI r)),(130,.d (dI k)),(133,.d (.v Vr)),(134,.d (dI r)),(137,.d (dI k)),(140,.d (af p)),(120,.d (dI N)),(121,.d (dI k)),(129,.d (.v (Ws.getD r undef))),(135,.d (.v (bd Vr (r*1))))]) (fun V=>?_) (fun N2_0_1_0_0_0=>?_)
   · refine ZH.two 6 11 (by kernel_rfl) rfl rfl rfl rfl (fun _=>rfl) (fun _=>rfl) ⟨rfl,trivial⟩ ?_ ?_
     · refine ak (fun B1 F1 w1=>?_);refine qU 1 rfl ?_;refine ab.nil ⟨rfl,?_⟩;exact qL (N2_1_1_0_0_0 V) (by kernel_rfl) rfl ⟨rfl,trivial⟩
     · refine ah (fun B1 F1 w1 hS=>?_);refine ab.aY tok (.v (Ws.getD r undef)) (hS.at (i:=0) rfl (by rw[List.length_map];omega)) rfl rfl rfl rfl rfl rfl (bB (by omega)) rfl ?_;refine ab.nil ⟨rfl,?_⟩;exact qL (N2_0_2_0_0_0 V) (by kernel_rfl) rfl ⟨rfl,trivial⟩
   refine ZH.meet 11 (qB 23 37887) (fun V=>((Vr,OA Ws)::(Vc,CA s.cols)::bC Ws (b.set r q))) (fun V=>[(3,.bx [.sl 1 (v.map af)]),(6,.bx [.sl 1 [],.sl 1 [],dI 0,.sl 3 []]),(7,.d aj),(8,.bx [.v Vr,.v Vc,dI sg,af det]),(11,.d (dI c)),(12,.d (dI r)),(14,.d (af p)),(36,.d (dI most)),(37,.d (dI c)),(16,.d (dI k)),(126,.d (.v Vr)),(127,.d (dI r)),(130,.d (dI k)),(133,.d (.v Vr)),(134,.d (dI r)),(137,.d (dI k)),(140,.d (af p)),(120,.d (dI N)),(121,.d (dI k)),(129,.d (.v (Ws.getD r undef))),(131,.d (bP v))]) (fun V=>?_) (fun N2_1_0_0_0_0=>?_)
   · refine ZH.all 10 (by kernel_rfl) rfl rfl (fun _=>rfl) ⟨rfl,trivial⟩ ?_;refine ah (fun B1 F1 w1 hS=>?_);refine ab.idxs tok (hS.at (i:=0) rfl (by rw[List.length_map];omega)) rfl rfl rfl rfl (Int.natCast_nonneg _) (by show r<_;rw[List.length_map];omega) ?_;refine ab.nil ⟨rfl,?_⟩;exact qL (N2_1_1_0_0_0 V) (by kernel_rfl) rfl ⟨rfl,trivial⟩
   refine ZH.meet 12 (qB 23 40871) (fun V=>((Vr,OA Ws)::(Vc,CA s.cols)::bC Ws (b.set r q))) (fun V=>[(3,.bx [.sl 1 (v.map af)]),(6,.bx [.sl 1 [],.sl 1 [],dI 0,.sl 3 []]),(7,.d aj),(8,.bx [.v Vr,.v Vc,dI sg,af det]),(11,.d (dI c)),(12,.d (dI r)),(14,.d (af p)),(36,.d (dI most)),(37,.d (dI c)),(16,.d (dI k)),(126,.d (.v Vr)),(127,.d (dI r)),(130,.d (dI k)),(133,.d (.v Vr)),(134,.d (dI r)),(137,.d (dI k)),(140,.d (af p)),(120,.d (dI N)),(121,.d (dI k)),(136,.d (.v (Ws.getD r undef)))]) (fun V=>?_) (fun N0_0_2_0_0_0=>?_)
   · refine ZH.three 3 6 13 (by kernel_rfl) rfl rfl rfl rfl rfl rfl (fun _=>rfl) (fun _=>rfl) (fun _=>rfl) ⟨rfl,trivial⟩ ?_ ?_ ?_
     · refine ah (fun B1 F1 w1 hS=>?_);refine ab.idxs tok (hS.at (i:=0) rfl (by rw[List.length_map];omega)) rfl rfl rfl rfl (Int.natCast_nonneg _) (by show r<_;rw[List.length_map];omega) ?_;refine ab.nil ⟨rfl,?_⟩;exact qL (N1_0_2_0_0_0 V) (by kernel_rfl) rfl ⟨rfl,trivial⟩
     · refine ak (fun B1 F1 w1=>?_);refine qU 1 rfl ?_;refine ab.nil ⟨rfl,?_⟩;exact qL (N0_1_2_0_0_0 V) (by kernel_rfl) rfl ⟨rfl,trivial⟩
     · refine ah (fun B1 F1 w1 hS=>?_);refine ab.idxs tok (hS.at (i:=r+2) (hgr q) (by rw[List.length_map];omega)) rfl rfl rfl rfl (Int.natCast_nonneg k) (by rw[List.length_map];omega) ?_;refine ab.nil ⟨rfl,?_⟩;exact qL (N0_0_3_0_0_0 V) (by kernel_rfl) rfl ⟨rfl,trivial⟩
   refine ZH.meet 12 (qB 23 38887) (fun V=>((Vr,OA Ws)::(Vc,CA s.cols)::bC Ws (b.set r q))) (fun V=>[(3,.bx [.sl 1 (v.map af)]),(6,.bx [.sl 1 [],.sl 1 [],dI 0,.sl 3 []]),(7,.d aj),(8,.bx [.v Vr,.v Vc,dI sg,af det]),(11,.d (dI c)),(12,.d (dI r)),(14,.d (af p)),(36,.d (dI most)),(37,.d (dI c)),(16,.d (dI k)),(126,.d (.v Vr)),(127,.d (dI r)),(130,.d (dI k)),(133,.d (.v Vr)),(134,.d (dI r)),(137,.d (dI k)),(140,.d (af p)),(120,.d (dI N)),(121,.d (dI k)),(131,.d (bP v)),(135,.d (.v (bd Vr (r*1))))]) (fun V=>?_) (fun N0_1_1_0_0_0=>?_)
   · refine ZH.two 3 11 (by kernel_rfl) rfl rfl rfl rfl (fun _=>rfl) (fun _=>rfl) ⟨rfl,trivial⟩ ?_ ?_
     · refine ah (fun B1 F1 w1 hS=>?_);refine ab.idxs tok (hS.at (i:=0) rfl (by rw[List.length_map];omega)) rfl rfl rfl rfl (Int.natCast_nonneg _) (by show r<_;rw[List.length_map];omega) ?_;refine ab.nil ⟨rfl,?_⟩;exact qL (N1_1_1_0_0_0 V) (by kernel_rfl) rfl ⟨rfl,trivial⟩
     · refine ah (fun B1 F1 w1 hS=>?_);refine ab.aY tok (.v (Ws.getD r undef)) (hS.at (i:=0) rfl (by rw[List.length_map];omega)) rfl rfl rfl rfl rfl rfl (bB (by omega)) rfl ?_;refine ab.nil ⟨rfl,?_⟩;exact qL (N0_1_2_0_0_0 V) (by kernel_rfl) rfl ⟨rfl,trivial⟩
   refine ZH.meet 12 (qB 23 38831) (fun V=>((Vr,OA Ws)::(Vc,CA s.cols)::bC Ws (b.set r q))) (fun V=>[(3,.bx [.sl 1 (v.map af)]),(6,.bx [.sl 1 [],.sl 1 [],dI 0,.sl 3 []]),(7,.d aj),(8,.bx [.v Vr,.v Vc,dI sg,af det]),(11,.d (dI c)),(12,.d (dI r)),(14,.d (af p)),(36,.d (dI most)),(37,.d (dI c)),(16,.d (dI k)),(126,.d (.v Vr)),(127,.d (dI r)),(130,.d (dI k)),(133,.d (.v Vr)),(134,.d (dI r)),(137,.d (dI k)),(140,.d (af p)),(120,.d (dI N)),(121,.d (dI k)),(128,.d (.v (bd Vr (r*1)))),(135,.d (.v (bd Vr (r*1))))]) (fun V=>?_) (fun N1_0_1_0_0_0=>?_)
   · refine ZH.three 4 6 11 (by kernel_rfl) rfl rfl rfl rfl rfl rfl (fun _=>rfl) (fun _=>rfl) (fun _=>rfl) ⟨rfl,trivial⟩ ?_ ?_ ?_
     · refine ah (fun B1 F1 w1 hS=>?_);refine ab.aY tok (.v (Ws.getD r undef)) (hS.at (i:=0) rfl (by rw[List.length_map];omega)) rfl rfl rfl rfl rfl rfl (bB (by omega)) rfl ?_;refine ab.nil ⟨rfl,?_⟩;exact qL (N2_0_1_0_0_0 V) (by kernel_rfl) rfl ⟨rfl,trivial⟩
     · refine ak (fun B1 F1 w1=>?_);refine qU 1 rfl ?_;refine ab.nil ⟨rfl,?_⟩;exact qL (N1_1_1_0_0_0 V) (by kernel_rfl) rfl ⟨rfl,trivial⟩
     · refine ah (fun B1 F1 w1 hS=>?_);refine ab.aY tok (.v (Ws.getD r undef)) (hS.at (i:=0) rfl (by rw[List.length_map];omega)) rfl rfl rfl rfl rfl rfl (bB (by omega)) rfl ?_;refine ab.nil ⟨rfl,?_⟩;exact qL (N1_0_2_0_0_0 V) (by kernel_rfl) rfl ⟨rfl,trivial⟩
   refine ZH.meet 12 (qB 23 37871) (fun V=>((Vr,OA Ws)::(Vc,CA s.cols)::bC Ws (b.set r q))) (fun V=>[(3,.bx [.sl 1 (v.map af)]),(6,.bx [.sl 1 [],.sl 1 [],dI 0,.sl 3 []]),(7,.d aj),(8,.bx [.v Vr,.v Vc,dI sg,af det]),(11,.d (dI c)),(12,.d (dI r)),(14,.d (af p)),(36,.d (dI most)),(37,.d (dI c)),(16,.d (dI k)),(126,.d (.v Vr)),(127,.d (dI r)),(130,.d (dI k)),(133,.d (.v Vr)),(134,.d (dI r)),(137,.d (dI k)),(140,.d (af p)),(120,.d (dI N)),(121,.d (dI k)),(128,.d (.v (bd Vr (r*1)))),(131,.d (bP v))]) (fun V=>?_) (fun N1_1_0_0_0_0=>?_)
   · refine ZH.two 4 10 (by kernel_rfl) rfl rfl rfl rfl (fun _=>rfl) (fun _=>rfl) ⟨rfl,trivial⟩ ?_ ?_
     · refine ah (fun B1 F1 w1 hS=>?_);refine ab.aY tok (.v (Ws.getD r undef)) (hS.at (i:=0) rfl (by rw[List.length_map];omega)) rfl rfl rfl rfl rfl rfl (bB (by omega)) rfl ?_;refine ab.nil ⟨rfl,?_⟩;exact qL (N2_1_0_0_0_0 V) (by kernel_rfl) rfl ⟨rfl,trivial⟩
     · refine ah (fun B1 F1 w1 hS=>?_);refine ab.idxs tok (hS.at (i:=0) rfl (by rw[List.length_map];omega)) rfl rfl rfl rfl (Int.natCast_nonneg _) (by show r<_;rw[List.length_map];omega) ?_;refine ab.nil ⟨rfl,?_⟩;exact qL (N1_1_1_0_0_0 V) (by kernel_rfl) rfl ⟨rfl,trivial⟩
   refine ZH.meet 12 (qB 23 37823) (fun V=>((Vr,OA Ws)::(Vc,CA s.cols)::bC Ws (b.set r q))) (fun V=>[(3,.bx [.sl 1 (v.map af)]),(6,.bx [.sl 1 [],.sl 1 [],dI 0,.sl 3 []]),(7,.d aj),(8,.bx [.v Vr,.v Vc,dI sg,af det]),(11,.d (dI c)),(12,.d (dI r)),(14,.d (af p)),(36,.d (dI most)),(37,.d (dI c)),(16,.d (dI k)),(126,.d (.v Vr)),(127,.d (dI r)),(130,.d (dI k)),(133,.d (.v Vr)),(134,.d (dI r)),(137,.d (dI k)),(140,.d (af p)),(120,.d (dI N)),(121,.d (dI k)),(129,.d (.v (Ws.getD r undef)))]) (fun V=>?_) (fun N2_0_0_0_0_0=>?_)
   · refine ZH.two 6 10 (by kernel_rfl) rfl rfl rfl rfl (fun _=>rfl) (fun _=>rfl) ⟨rfl,trivial⟩ ?_ ?_
     · refine ak (fun B1 F1 w1=>?_);refine qU 1 rfl ?_;refine ab.nil ⟨rfl,?_⟩;exact qL (N2_1_0_0_0_0 V) (by kernel_rfl) rfl ⟨rfl,trivial⟩
     · refine ah (fun B1 F1 w1 hS=>?_);refine ab.idxs tok (hS.at (i:=0) rfl (by rw[List.length_map];omega)) rfl rfl rfl rfl (Int.natCast_nonneg _) (by show r<_;rw[List.length_map];omega) ?_;refine ab.nil ⟨rfl,?_⟩;exact qL (N2_0_1_0_0_0 V) (by kernel_rfl) rfl ⟨rfl,trivial⟩
   refine ZH.meet 13 (qB 23 38823) (fun V=>((Vr,OA Ws)::(Vc,CA s.cols)::bC Ws (b.set r q))) (fun V=>[(3,.bx [.sl 1 (v.map af)]),(6,.bx [.sl 1 [],.sl 1 [],dI 0,.sl 3 []]),(7,.d aj),(8,.bx [.v Vr,.v Vc,dI sg,af det]),(11,.d (dI c)),(12,.d (dI r)),(14,.d (af p)),(36,.d (dI most)),(37,.d (dI c)),(16,.d (dI k)),(126,.d (.v Vr)),(127,.d (dI r)),(130,.d (dI k)),(133,.d (.v Vr)),(134,.d (dI r)),(137,.d (dI k)),(140,.d (af p)),(120,.d (dI N)),(121,.d (dI k)),(135,.d (.v (bd Vr (r*1))))]) (fun V=>?_) (fun N0_0_1_0_0_0=>?_)
   · refine ZH.three 3 6 11 (by kernel_rfl) rfl rfl rfl rfl rfl rfl (fun _=>rfl) (fun _=>rfl) (fun _=>rfl) ⟨rfl,trivial⟩ ?_ ?_ ?_
     · refine ah (fun B1 F1 w1 hS=>?_);refine ab.idxs tok (hS.at (i:=0) rfl (by rw[List.length_map];omega)) rfl rfl rfl rfl (Int.natCast_nonneg _) (by show r<_;rw[List.length_map];omega) ?_;refine ab.nil ⟨rfl,?_⟩;exact qL (N1_0_1_0_0_0 V) (by kernel_rfl) rfl ⟨rfl,trivial⟩
     · refine ak (fun B1 F1 w1=>?_);refine qU 1 rfl ?_;refine ab.nil ⟨rfl,?_⟩;exact qL (N0_1_1_0_0_0 V) (by kernel_rfl) rfl ⟨rfl,trivial⟩
     · refine ah (fun B1 F1 w1 hS=>?_);refine ab.aY tok (.v (Ws.getD r undef)) (hS.at (i:=0) rfl (by rw[List.length_map];omega)) rfl rfl rfl rfl rfl rfl (bB (by omega)) rfl ?_;refine ab.nil ⟨rfl,?_⟩;exact qL (N0_0_2_0_0_0 V) (by kernel_rfl) rfl ⟨rfl,trivial⟩
   refine ZH.meet 13 (qB 23 37863) (fun V=>((Vr,OA Ws)::(Vc,CA s.cols)::bC Ws (b.set r q))) (fun V=>[(3,.bx [.sl 1 (v.map af)]),(6,.bx [.sl 1 [],.sl 1 [],dI 0,.sl 3 []]),(7,.d aj),(8,.bx [.v Vr,.v Vc,dI sg,af det]),(11,.d (dI c)),(12,.d (dI r)),(14,.d (af p)),(36,.d (dI most)),(37,.d (dI c)),(16,.d (dI k)),(126,.d (.v Vr)),(127,.d (dI r)),(130,.d (dI k)),(133,.d (.v Vr)),(134,.d (dI r)),(137,.d (dI k)),(140,.d (af p)),(120,.d (dI N)),(121,.d (dI k)),(131,.d (bP v))]) (fun V=>?_) (fun N0_1_0_0_0_0=>?_)
   · refine ZH.two 3 10 (by kernel_rfl) rfl rfl rfl rfl (fun _=>rfl) (fun _=>rfl) ⟨rfl,trivial⟩ ?_ ?_
     · refine ah (fun B1 F1 w1 hS=>?_);refine ab.idxs tok (hS.at (i:=0) rfl (by rw[List.length_map];omega)) rfl rfl rfl rfl (Int.natCast_nonneg _) (by show r<_;rw[List.length_map];omega) ?_;refine ab.nil ⟨rfl,?_⟩;exact qL (N1_1_0_0_0_0 V) (by kernel_rfl) rfl ⟨rfl,trivial⟩
     · refine ah (fun B1 F1 w1 hS=>?_);refine ab.idxs tok (hS.at (i:=0) rfl (by rw[List.length_map];omega)) rfl rfl rfl rfl (Int.natCast_nonneg _) (by show r<_;rw[List.length_map];omega) ?_;refine ab.nil ⟨rfl,?_⟩;exact qL (N0_1_1_0_0_0 V) (by kernel_rfl) rfl ⟨rfl,trivial⟩
   refine ZH.meet 13 (qB 23 37807) (fun V=>((Vr,OA Ws)::(Vc,CA s.cols)::bC Ws (b.set r q))) (fun V=>[(3,.bx [.sl 1 (v.map af)]),(6,.bx [.sl 1 [],.sl 1 [],dI 0,.sl 3 []]),(7,.d aj),(8,.bx [.v Vr,.v Vc,dI sg,af det]),(11,.d (dI c)),(12,.d (dI r)),(14,.d (af p)),(36,.d (dI most)),(37,.d (dI c)),(16,.d (dI k)),(126,.d (.v Vr)),(127,.d (dI r)),(130,.d (dI k)),(133,.d (.v Vr)),(134,.d (dI r)),(137,.d (dI k)),(140,.d (af p)),(120,.d (dI N)),(121,.d (dI k)),(128,.d (.v (bd Vr (r*1))))]) (fun V=>?_) (fun N1_0_0_0_0_0=>?_)
   · refine ZH.three 4 6 10 (by kernel_rfl) rfl rfl rfl rfl rfl rfl (fun _=>rfl) (fun _=>rfl) (fun _=>rfl) ⟨rfl,trivial⟩ ?_ ?_ ?_
     · refine ah (fun B1 F1 w1 hS=>?_);refine ab.aY tok (.v (Ws.getD r undef)) (hS.at (i:=0) rfl (by rw[List.length_map];omega)) rfl rfl rfl rfl rfl rfl (bB (by omega)) rfl ?_;refine ab.nil ⟨rfl,?_⟩;exact qL (N2_0_0_0_0_0 V) (by kernel_rfl) rfl ⟨rfl,trivial⟩
     · refine ak (fun B1 F1 w1=>?_);refine qU 1 rfl ?_;refine ab.nil ⟨rfl,?_⟩;exact qL (N1_1_0_0_0_0 V) (by kernel_rfl) rfl ⟨rfl,trivial⟩
     · refine ah (fun B1 F1 w1 hS=>?_);refine ab.idxs tok (hS.at (i:=0) rfl (by rw[List.length_map];omega)) rfl rfl rfl rfl (Int.natCast_nonneg _) (by show r<_;rw[List.length_map];omega) ?_;refine ab.nil ⟨rfl,?_⟩;exact qL (N1_0_1_0_0_0 V) (by kernel_rfl) rfl ⟨rfl,trivial⟩
   refine ZH.meet 14 (qB 23 37799) (fun V=>((Vr,OA Ws)::(Vc,CA s.cols)::bC Ws (b.set r q))) (fun V=>[(3,.bx [.sl 1 (v.map af)]),(6,.bx [.sl 1 [],.sl 1 [],dI 0,.sl 3 []]),(7,.d aj),(8,.bx [.v Vr,.v Vc,dI sg,af det]),(11,.d (dI c)),(12,.d (dI r)),(14,.d (af p)),(36,.d (dI most)),(37,.d (dI c)),(16,.d (dI k)),(126,.d (.v Vr)),(127,.d (dI r)),(130,.d (dI k)),(133,.d (.v Vr)),(134,.d (dI r)),(137,.d (dI k)),(140,.d (af p)),(120,.d (dI N)),(121,.d (dI k))]) (fun V=>?_) (fun N0_0_0_0_0_0=>?_)
   · refine ZH.three 3 6 10 (by kernel_rfl) rfl rfl rfl rfl rfl rfl (fun _=>rfl) (fun _=>rfl) (fun _=>rfl) ⟨rfl,trivial⟩ ?_ ?_ ?_
     · refine ah (fun B1 F1 w1 hS=>?_);refine ab.idxs tok (hS.at (i:=0) rfl (by rw[List.length_map];omega)) rfl rfl rfl rfl (Int.natCast_nonneg _) (by show r<_;rw[List.length_map];omega) ?_;refine ab.nil ⟨rfl,?_⟩;exact qL (N1_0_0_0_0_0 V) (by kernel_rfl) rfl ⟨rfl,trivial⟩
     · refine ak (fun B1 F1 w1=>?_);refine qU 1 rfl ?_;refine ab.nil ⟨rfl,?_⟩;exact qL (N0_1_0_0_0_0 V) (by kernel_rfl) rfl ⟨rfl,trivial⟩
     · refine ah (fun B1 F1 w1 hS=>?_);refine ab.idxs tok (hS.at (i:=0) rfl (by rw[List.length_map];omega)) rfl rfl rfl rfl (Int.natCast_nonneg _) (by show r<_;rw[List.length_map];omega) ?_;refine ab.nil ⟨rfl,?_⟩;exact qL (N0_0_1_0_0_0 V) (by kernel_rfl) rfl ⟨rfl,trivial⟩
   exact qL (N0_0_0_0_0_0 eU) (by kernel_rfl) rfl ⟨rfl,trivial⟩
 have hkN:k=N:=by have:=of_decide_eq_false h;omega
 subst hkN;rw[show fA (wA v row p) row k=wA v row p by rw[← hrN];exact vK hz,← hE];refine AZ.exit ?_;have hWe:Ws.length=e.length:=by omega
 have hre:r<e.length:=by omega
 have he2c:e.length=s.rows.length:=by omega
 refine AZ.seq ?_;refine AZ.seq ?_;refine AZ.Af (fun B1 F1 w1 hS=>?_);refine qU 2 rfl ?_;refine ab.lens tok (hS.at (i:=0) rfl (by rw[List.length_map];omega)) rfl rfl rfl rfl ?_;rw[List.length_map,hWe];refine qU 1 rfl ?_;refine ab.nil ⟨rfl,?_⟩;refine AZ.block ?_;refine AZ.aE [3,6,7,8,11,12,36,37,152,153] (fun i:Nat=>(((Vr,OA Ws)::(Vc,CA s.cols)::bC Ws (cU v e r c i)),[(3,.bx [.sl 1 (v.map af)]),(6,.bx [.sl 1 [],.sl 1 [],dI 0,.sl 3 []]),(7,.d aj),(8,.bx [.v Vr,.v Vc,dI sg,af det]),(11,.d (dI c)),(12,.d (dI r)),(36,.d (dI most)),(37,.d (dI c)),(152,.d (dI e.length)),(153,.d (dI i))])) (fun i=>i≤e.length) (fun i=>e.length-i) 0 rfl (Nat.zero_le _) (fun i hi=>?_);show AZ _ _ _ _ _ _ _ ((Vr,OA Ws)::(Vc,CA s.cols)::bC Ws (cU v e r c i)) [(3,.bx [.sl 1 (v.map af)]),(6,.bx [.sl 1 [],.sl 1 [],dI 0,.sl 3 []]),(7,.d aj),(8,.bx [.v Vr,.v Vc,dI sg,af det]),(11,.d (dI c)),(12,.d (dI r)),(36,.d (dI most)),(37,.d (dI c)),(152,.d (dI e.length)),(153,.d (dI i))];refine AZ.seq ?_;refine AZ.gp (fun B1 F1 w1=>?_);refine qU 1 rfl ?_;refine ab.nil ⟨rfl,?_⟩;refine AZ.seq ?_;refine AZ.cond rfl (fun h=>?_) (fun h=>?_)
 · have hie:i<e.length:=by have:=of_decide_eq_true h;omega
   have hm1:=jc v e r c i;have hm2:=oC (v:=v) (r:=r) (c:=c) he2 i (by omega);have hm3:=uB V (r:=r) (c:=c) he3 i;have hmi:=fg v e r c i i (.inl (Nat.le_refl _));have hmr:=fg v e r c i r (.inr rfl);have hnx:cU v e r c (i+1)=if i≠r∧pc v (bU (cU v e r c i) i c)≠0 then (cU v e r c i).set i (lz v ((cU v e r c i).getD i []) ((cU v e r c i).getD r []) (bU (cU v e r c i) i c)) else cU v e r c i:=rfl
   have gX:bU (cU v e r c i) i c=bU e i c:=uC v e r c i c;generalize cU v e r c i=m at *;refine AZ.skip ?_;refine AZ.seq ?_;refine AZ.block ?_;refine AZ.seq ?_;refine AZ.gp (fun B1 F1 w1=>?_);refine qU 2 rfl ?_;refine ab.nil ⟨rfl,?_⟩;refine AZ.seq ?_;refine AZ.any aN (wx.yD 16 (by kernel_rfl) (fun B1 F1 w1 hS=>?_));have hS0:=hS.at (i:=0) rfl (by rw[List.length_map];omega);refine qP 3 rfl ?_;by_cases hir:i=r
   · rw[if_neg (fun g=>g.1 hir)] at hnx;rw[bne_eq_false_iff_eq.2 (show (i:Int)=(r:Int) by omega)];refine qP 13 rfl ?_;refine ae.nil ⟨rfl,?_⟩;refine ai.nil ?_;refine AZ.aB rfl ?_;refine AZ.skip ?_;refine AZ.gp (fun B1 F1 w1=>?_);refine qU 1 rfl ?_;rw[aC (x:=(i:Int)+1) (by omega) (by omega)];refine qU 1 rfl ?_;refine ab.nil ⟨rfl,?_⟩;exact⟨i+1,Prod.ext (show ((Vr,OA Ws)::(Vc,CA s.cols)::bC Ws m)=((Vr,OA Ws)::(Vc,CA s.cols)::bC Ws (cU v e r c (i+1))) by rw[hnx]) rfl,hie,by omega⟩
   have hmiN:(m.getD i []).length=k:=hm2 i (by omega);have hmrN:(m.getD r []).length=k:=hm2 r (by omega);have hgi:=gC (Vs:=Ws) (a:=m) (j:=i) (by omega) (by omega);have hgr2:=gC (Vs:=Ws) (a:=m) (j:=r) (by omega) (by omega);have hS1:=hS.at (i:=i+2) hgi (by rw[List.length_map];omega);have cs:=kp V (hm3 i c) (by rw[gX];exact oks i (by omega) (by omega));have okt2:=okt i (by omega) (by omega);rw[← gX,← hmi,← hmr] at okt2;rw[bne_iff_ne.2 (show (i:Int)≠(r:Int) by omega)];refine qP 5 rfl ?_;refine ae.idxs tok hS0 rfl rfl rfl rfl rfl (Int.natCast_nonneg i) (by rw[List.length_map];omega) ?_;refine ae.aY tok (.v (Ws.getD i undef)) hS0 rfl rfl rfl rfl rfl rfl rfl (bB (by omega)) rfl ?_;refine qP 1 rfl ?_;refine ae.idxs tok hS1 rfl rfl rfl rfl rfl (Int.natCast_nonneg c) (by rw[List.length_map];omega) ?_;refine ae.aY tok (af (bU m i c)) hS1 rfl rfl rfl rfl rfl rfl rfl (hel hm2 (by omega) c hcN) rfl ?_;refine ae.call tok rfl rfl rfl rfl rfl cs ?_;refine qP 2 rfl ?_;refine ae.nil ⟨rfl,?_⟩;refine ai.nil ?_;refine AZ.cond rfl (fun h=>?_) (fun h=>?_);rotate_left
   · have hg:pc v (bU m i c)=0:=bne_eq_false_iff_eq.1 h;rw[if_neg (fun g=>g.2 hg)] at hnx;refine AZ.skip ?_;refine AZ.gp (fun B1 F1 w1=>?_);refine qU 1 rfl ?_;rw[aC (x:=(i:Int)+1) (by omega) (by omega)];refine qU 1 rfl ?_;refine ab.nil ⟨rfl,?_⟩;exact⟨i+1,Prod.ext (show ((Vr,OA Ws)::(Vc,CA s.cols)::bC Ws m)=((Vr,OA Ws)::(Vc,CA s.cols)::bC Ws (cU v e r c (i+1))) by rw[hnx]) rfl,hie,by omega⟩
   have hg:pc v (bU m i c)≠0:=bne_iff_ne.1 h;rw[if_pos ⟨hir,hg⟩] at hnx;have ct:=qO (Ws.getD i undef) (Ws.getD r undef) V (xs:=m.getD i []) (ys:=m.getD r []) (c:=bU m i c) (by omega) (by omega) (by omega) (hm3 i) (hm3 r) (hm3 i c) (okt2 (by rw[gX] at hg ⊢; exact hg));refine AZ.seq ?_;refine AZ.any aN (wx.yD 19 (by kernel_rfl) (fun B1 F1 w1 hS=>?_));have hS0:=hS.at (i:=0) rfl (by rw[List.length_map];omega);have hS1:=hS.at (i:=i+2) hgi (by rw[List.length_map];omega);refine qP 4 rfl ?_;refine ae.idxs tok hS0 rfl rfl rfl rfl rfl (Int.natCast_nonneg i) (by rw[List.length_map];omega) ?_;refine ae.aY tok (.v (Ws.getD i undef)) hS0 rfl rfl rfl rfl rfl rfl rfl (bB (by omega)) rfl ?_;refine qP 3 rfl ?_;refine ae.idxs tok hS0 rfl rfl rfl rfl rfl (Int.natCast_nonneg r) (by rw[List.length_map];omega) ?_;refine ae.aY tok (.v (Ws.getD r undef)) hS0 rfl rfl rfl rfl rfl rfl rfl (bB (by omega)) rfl ?_;refine qP 3 rfl ?_;refine ae.idxs tok hS0 rfl rfl rfl rfl rfl (Int.natCast_nonneg i) (by rw[List.length_map];omega) ?_;refine ae.aY tok (.v (Ws.getD i undef)) hS0 rfl rfl rfl rfl rfl rfl rfl (bB (by omega)) rfl ?_;refine qP 1 rfl ?_;refine ae.idxs tok hS1 rfl rfl rfl rfl rfl (Int.natCast_nonneg c) (by rw[List.length_map];omega) ?_;refine ae.aY tok (af (bU m i c)) hS1 rfl rfl rfl rfl rfl rfl rfl (hel hm2 (by omega) c hcN) rfl ?_;refine ae.nil ⟨rfl,?_⟩;refine ai.to [172,177,182,190,3,6,7,8,11,12,36,37,152,153] [(172,.d (bP v)),(177,.d (.v (Ws.getD i undef))),(182,.d (.v (Ws.getD r undef))),(190,.d (af (bU m i c))),(3,.bx [.sl 1 (v.map af)]),(6,.bx [.sl 1 [],.sl 1 [],dI 0,.sl 3 []]),(7,.d aj),(8,.bx [.v Vr,.v Vc,dI sg,af det]),(11,.d (dI c)),(12,.d (dI r)),(36,.d (dI most)),(37,.d (dI c)),(152,.d (dI e.length)),(153,.d (dI i))] rfl ?_;refine ai.kD tok [i+2,r+2] rfl rfl rfl rfl (Fy hgi hgr2) (by simp[hir]) rfl ct (fun res R1 hP=>by rw[hP.2];exact Nat.le_refl _) (fun res R1 hP=>?_);obtain ⟨rfl,rfl⟩:=hP
   refine ai.ru (R':=(Vr,OA Ws)::(Vc,CA s.cols)::bC Ws (cU v e r c (i+1))) (by
    show ((Vr,OA Ws)::(Vc,CA s.cols)::((bC Ws m).set i _).set r _)++[]=_
    rw[List.append_nil,BD (by omega) (by omega) (by omega) hir,hnx]) ?_
   refine ai.cut 1 rfl (fun B1 F1 w1=>?_);refine qU 1 rfl ?_;refine ab.nil ⟨rfl,?_⟩;refine ai.nil ?_;refine AZ.seq ?_;refine AZ.gp (fun B1 F1 w1=>?_);refine qU 1 rfl ?_;refine ab.err tok rfl rfl rfl rfl rfl ?_;refine ab.nil ⟨rfl,?_⟩;refine AZ.aB rfl ?_;refine AZ.skip ?_;refine AZ.gp (fun B1 F1 w1=>?_);refine qU 1 rfl ?_;rw[aC (x:=(i:Int)+1) (by omega) (by omega)];refine qU 1 rfl ?_;refine ab.nil ⟨rfl,?_⟩;exact⟨i+1,rfl,hie,by omega⟩
 have hie:i=e.length:=by have:=of_decide_eq_false h;omega
 subst hie;refine AZ.exit ?_;refine AZ.region ?_;refine ai.cut 4 rfl (fun B1 F1 w1=>?_);refine qU 3 rfl ?_;refine ab.fU tok rfl rfl rfl rfl rfl ?_;refine ab.nil ⟨rfl,?_⟩;refine ai.fh 198 1 rfl rfl rfl ?_;refine ai.cut 1 rfl (fun B1 F1 w1=>?_);refine ab.jC tok rfl rfl rfl rfl rfl rfl (by show ((s.cols.map (fun c:Nat=>dI c)).length+1)*8≤_;rw[List.length_map];omega) (by show (s.cols.map (fun c:Nat=>dI c)).length+1≤_;rw[List.length_map];omega) ?_;refine ab.nil ⟨rfl,?_⟩;refine ai.vO 201 1 rfl rfl rfl rfl (fun Vq=>?_)
 refine ai.ru (R':=(Vr,OA Ws)::(Vq,CA (s.cols++[c]))::bC Ws (cU v e r c e.length)) (by
  show (Vr,OA Ws)::(Vq,AV.ow 3 (s.cols.map (fun c:Nat=>dI c)++[dI c]))::bC Ws (cU v e r c e.length)=_
  rw[show s.cols.map (fun c:Nat=>dI c)++[dI (c:Int)]=(s.cols++[c]).map (fun c:Nat=>dI c) by simp]) ?_
 refine ai.cut 2 rfl (fun B1 F1 w1=>?_);refine qU 2 rfl ?_;refine ab.nil ⟨rfl,?_⟩;refine ai.nil ?_;refine AZ.gp (fun B1 F1 w1=>?_);refine qU 1 rfl ?_;rw[aC (x:=(c:Int)+1) (by omega) (by omega)];refine qU 1 rfl ?_;refine ab.nil ⟨rfl,?_⟩;exact⟨(c+1,Vr,Vq,Ws),by rw[hst];rfl,⟨hcm,by show Ws.length=a.length;omega⟩,by show most-(c+1)<most-c;omega⟩
end Lift
namespace Lift
open Go Go.Proofs
theorem mX(v:List NQ)(most:Nat)(hm:most≤1000000):Pure Tryz.prog 46 [bP v,ek [],dI most] (.tu [zu ⟨[],[],1,[1]⟩,aj]):=by
 refine qJ 205 Tryz.func46 rfl rfl rfl rfl (by kernel_rfl) (fun B F0 w0=>?_);have cone:=jZ (Qr ((1:Int):Rat)) (k:=1) (iK _ (by have:=oG;rw[show ((1:Int):Rat)=1 from rfl];omega)) (by decide) (by decide) (wy _);rw[cy,show Es ((1:Int):Rat)=[1] from rfl] at cone;refine qX 3 rfl ?_;refine qI (AW.region ?_);refine ab.call tok rfl rfl rfl rfl (fe 1 (by decide) (by decide)) ?_;refine ab.call tok rfl rfl rfl rfl cone ?_;refine qU 3 rfl ?_;refine qI ?_;refine qX 3 rfl ?_;refine ab.nil ?_;refine AW.block ?_;refine AW.aE [2,3,6,7,8,22,23,24] (fun _:Unit=>[(2,.d (dI most)),(3,.bx [.sl 1 (v.map af)]),(6,.bx [.sl 1 [],.sl 1 [],dI 0,.sl 3 []]),(7,.d aj),(8,.bx [.sl 1 [],.sl 1 [],dI 1,af [1]]),(22,.d (ek [])),(23,.d (dI 0)),(24,.d (dI 0))]) (fun _=>True) (fun _=>0) () rfl trivial (fun _ _=>?_);show AW _ _ _ _ _ _ _ [(2,.d (dI most)),(3,.bx [.sl 1 (v.map af)]),(6,.bx [.sl 1 [],.sl 1 [],dI 0,.sl 3 []]),(7,.d aj),(8,.bx [.sl 1 [],.sl 1 [],dI 1,af [1]]),(22,.d (ek [])),(23,.d (dI 0)),(24,.d (dI 0))];refine qX 1 rfl ?_;refine qI ?_;refine AW.aB rfl ?_;refine AW.exit (AW.seq ?_);refine qX 2 rfl ?_;refine ab.nil ?_;refine AW.block ?_;refine AW.aE [3,6,7,8,36,37] (fun c:Nat=>[(3,.bx [.sl 1 (v.map af)]),(6,.bx [.sl 1 [],.sl 1 [],dI 0,.sl 3 []]),(7,.d aj),(8,.bx [.sl 1 [],.sl 1 [],dI 1,af [1]]),(36,.d (dI most)),(37,.d (dI c))]) (fun c=>c≤most) (fun c=>most-c) 0 rfl (Nat.zero_le _) (fun c hc=>?_);show AW _ _ _ _ _ _ _ [(3,.bx [.sl 1 (v.map af)]),(6,.bx [.sl 1 [],.sl 1 [],dI 0,.sl 3 []]),(7,.d aj),(8,.bx [.sl 1 [],.sl 1 [],dI 1,af [1]]),(36,.d (dI most)),(37,.d (dI c))];refine qX 1 rfl ?_;refine qI ?_;refine AW.cond rfl (fun h=>?_) (fun h=>?_);rotate_left
 · refine AW.exit ?_;refine qX 3 rfl ?_;exact qN rfl
 have hcm:c<most:=by have:=of_decide_eq_true h;omega
 refine AW.skip (AW.seq (AW.block ?_));refine qX 2 rfl ?_;refine qK 4 rfl ?_;refine qK 2 rfl ?_;refine ab.nil ?_;refine AW.cut [3,6,7,8,12,13,36,37] (fun _:Unit=>[(3,.bx [.sl 1 (v.map af)]),(6,.bx [.sl 1 [],.sl 1 [],dI 0,.sl 3 []]),(7,.d aj),(8,.bx [.sl 1 [],.sl 1 [],dI 1,af [1]]),(12,.d (dI 0)),(13,.d (dI 0)),(36,.d (dI most)),(37,.d (dI c))]) (fun _=>True) ?_ (fun _ _=>?_)
 · refine AW.block ?_;refine AW.aE [3,6,7,8,11,12,13,36,37] (fun _:Unit=>[(3,.bx [.sl 1 (v.map af)]),(6,.bx [.sl 1 [],.sl 1 [],dI 0,.sl 3 []]),(7,.d aj),(8,.bx [.sl 1 [],.sl 1 [],dI 1,af [1]]),(11,.d (dI c)),(12,.d (dI 0)),(13,.d (dI 0)),(36,.d (dI most)),(37,.d (dI c))]) (fun _=>True) (fun _=>0) () rfl trivial (fun _ _=>?_);show AW _ _ _ _ _ _ _ [(3,.bx [.sl 1 (v.map af)]),(6,.bx [.sl 1 [],.sl 1 [],dI 0,.sl 3 []]),(7,.d aj),(8,.bx [.sl 1 [],.sl 1 [],dI 1,af [1]]),(11,.d (dI c)),(12,.d (dI 0)),(13,.d (dI 0)),(36,.d (dI most)),(37,.d (dI c))];refine AW.seq (AW.seq ?_);refine AW.draw aN 18 (by kernel_rfl) ?_;refine qP 18 rfl ?_;refine ae.nil ?_;refine ab.nil ?_;refine AW.aB rfl ?_;exact AW.exit ⟨(),rfl,trivial⟩
 show AW _ _ _ _ _ _ _ [(3,.bx [.sl 1 (v.map af)]),(6,.bx [.sl 1 [],.sl 1 [],dI 0,.sl 3 []]),(7,.d aj),(8,.bx [.sl 1 [],.sl 1 [],dI 1,af [1]]),(12,.d (dI 0)),(13,.d (dI 0)),(36,.d (dI most)),(37,.d (dI c))];refine AW.seq ?_;refine qX 5 rfl ?_;refine ab.nil ?_;refine AW.aH rfl ?_;refine AW.exit ?_;refine qT 1 rfl ?_;rw[aC (x:=(c:Int)+1) (by omega) (by omega)];refine qU 1 rfl ?_;refine ab.nil ?_;exact⟨c+1,rfl,hcm,by omega⟩
def eT(v:List NQ)(a:bq):gj:=aV v a (ay a)
structure rG (v:List NQ) (a:bq):Prop where
 l:a.length≤32
 r:cG (ay a) a
 c:ay a≤32
 lt:oF v.length a
theorem e7{v:List NQ}(V:lL v){a:bq}{N most:Nat}(ha:a.length≤1000000)(hN:N≤1000000)(hmost:most≤N)(hr:cG N a)(hl:oF v.length a)(ok: ∀c,c<most→jD v (aV v a c) c):
  Pure Tryz.prog 46 [bP v,ek a,dI most] (.tu [zu (aV v a most),aj]):=by
 by_cases h0:a.length=0
 · rw[List.length_eq_zero_iff.1 h0,mE];exact mX v most (by omega)
 · exact nW V (by omega) ha hN hmost hr hl ok
def rR(a:bq):List (List (List RD)):=a.map (fun r=>r.map fZ)
theorem vj(a:bq):(rR a).length=a.length:=List.length_map ..
theorem mG(a:bq)(i:Nat):(rR a).getD i []=(a.getD i []).map fZ:=by
 unfold rR;rw[List.getD_eq_getElem?_getD,List.getElem?_map,List.getD_eq_getElem?_getD];cases a[i]? with
 | none=>rfl
 | some x=>rfl
theorem ya(a:bq)(i k:Nat):((rR a).getD i []).getD k []=fZ (bU a i k):=by
 rw[mG];unfold bU;generalize a.getD i []=r;rw[List.getD_eq_getElem?_getD,List.getElem?_map,List.getD_eq_getElem?_getD];cases r[k]? with
 | none=>rfl
 | some x=>rfl
theorem tK(a:bq):MxR (rR a)=ek a:=by
 show D.sl 1 ((a.map _).map kG)=D.sl 1 (a.map fi);rw[List.map_map]
 congr 1
 refine List.map_congr_left fun r _=>?_;show D.sl 1 ((r.map fZ).map dw)=D.sl 1 (r.map af);rw[List.map_map]
 congr 1
 exact List.map_congr_left fun x _=>w6 x
theorem sO(a:bq):ay (rR a)=ay a:=by unfold ay;rw[mG,List.length_map]
theorem nA.s{m:Nat}{v:List NQ}(V:nA m v)(hk:ny v.length m):Eu m (lR v):=by
 have hl5:=V.l5;have hm2:=V.m2;have T:=V.raw.1;exact⟨fun i hi _=>by rw[mF];exact tJ (V.sz i),V.m1,by rw[fN];omega,T.ll,fun _=>by rw[fN];exact hk,hm2⟩
theorem rG.raw{m:Nat}{v:List NQ}{a:bq}(V:nA m v)(G:rG v a)(hs: ∀i k,ar m (bU a i k)):BA m (lR v) (rR a)∧kl (lR v) (rR a)=0:=by
 have hl:=G.l;have hc:=G.c
 have hrow: ∀i,((rR a).getD i []).length≤32:=fun i=>by
  rw[mG,List.length_map];by_cases h:i<a.length
  · rw[G.r i h];exact hc
  · rw[nc (by omega)];exact Nat.zero_le _
 refine⟨⟨fun i k=>by rw[ya];exact Ce V (G.lt i k) (hs i k),by rw[vj];omega,fun i=>Nat.le_trans (hrow i) (by decide)⟩,?_⟩;unfold kl;rw[if_neg (by rw[V.raw.2];simp)];unfold ug;split
 · rfl
 rw[vj,sO,if_neg (by omega)]
 have e1:fE (uL (rR a)) (a.length-0) 0=0:=l9 fun j hj=>by
  unfold uL;rw[sO,mG,List.length_map,G.r j (by omega)];exact if_neg (fun h=>h rfl)
 rw[e1,if_neg (by decide)];refine l9 fun j hj=>?_;unfold iR;refine l9 fun k hk=>?_;rw[ya];exact ck1 V (G.lt j k)
theorem qR{m:Nat}{v:List NQ}{a:bq}(V:nA m v)(hk:ny v.length m)(G:rG v a)(hs: ∀i k,ar m (bU a i k))(ok: ∀c,c<ay a→jD v (aV v a c) c):Pure Tryz.prog 13 [bP v,ek a] (.tu [dI (eT v a).cols.length,aj]):=by
 refine qJ 29 Tryz.func13 rfl rfl rfl rfl (by kernel_rfl) (fun B F0 w0=>?_);obtain ⟨r1,r2⟩:=G.raw V hs;have cc:=ew (V.s hk) r1;rw[r2,qo,tK] at cc;have hGl:=G.l;have hGc:=G.c;have cr:=e7 V.a (most:=ay a) (by omega) (by omega) (Nat.le_refl _) G.r G.lt ok;have hcl:=(gO V.a G.r G.lt (ay a)).cl;change Pure _ _ _ (.tu [zu (eT v a),aj]) at cr;generalize eT v a=s at cr ⊢;obtain ⟨rows,cols,sg,det⟩:=s;refine qX 3 rfl ?_;refine qI ?_;refine qX 2 rfl ?_;refine ab.call tok rfl rfl rfl rfl cc ?_;refine qU 1 rfl ?_;refine qK 1 rfl ?_;refine ab.err tok rfl rfl rfl rfl rfl ?_;refine ab.nil ?_;refine AW.aB rfl ?_
 · refine AW.skip (AW.seq ?_);refine AW.lK tok aN [(7,true),(1,false),(1,true)] 9 [7] (by kernel_rfl) ⟨rfl,?_⟩;refine qP 3 rfl ?_;refine ae.call tok rfl rfl rfl rfl rfl (dy a) ?_;refine ae.call tok rfl rfl rfl rfl rfl cr ?_;refine qP 2 rfl ?_;refine ae.nil ⟨rfl,?_⟩;refine qP 1 rfl ?_;refine ae.nil ⟨rfl,?_⟩;refine qP 1 rfl ?_;refine ae.nil ⟨_,mj.cons (.bx rfl) (mj.nil),?_⟩;refine qU 1 rfl ?_;refine qI ?_;refine qX 1 rfl ?_;refine ab.err tok rfl rfl rfl rfl rfl ?_;refine ab.nil ?_;refine AW.aB rfl ?_
   · refine AW.skip ?_;refine qX 2 rfl ?_;refine qU 1 rfl ?_;rw[List.length_map];refine qU 2 rfl ?_;exact qN rfl
end Lift
namespace Lift
def bp(a:bq):bq:=(List.range (ay a)).map fun k=>a.map fun r=>r.getD k []
theorem dm(a:bq):(bp a).length=ay a:=by unfold bp;rw[List.length_map,List.length_range]
theorem kN(a:bq){k:Nat}(h:k<ay a):(bp a).getD k []=a.map fun r=>r.getD k []:=by
 unfold bp;rw[List.getD_eq_getElem?_getD,List.getElem?_map,List.getElem?_range h];rfl
theorem yF(a:bq)(k i:Nat):(a.map fun r=>r.getD k []).getD i []=bU a i k:=by
 unfold bU;rw[List.getD_eq_getElem?_getD,List.getElem?_map,List.getD_eq_getElem?_getD (l:=a)];cases a[i]? with
 | none=>exact(m9 (Nat.zero_le k)).symm
 | some r=>rfl
theorem uS(a:bq){i k:Nat}(h:k<ay a):bU (bp a) k i=bU a i k:=by
 show ((bp a).getD k []).getD i []=_;rw[kN a h];exact yF a k i
theorem gK(a:bq):cG a.length (bp a):=fun k hk=>by
 rw[dm] at hk;rw[kN a hk,List.length_map]
theorem sx{p:NQ→Prop}(h0:p []){a:bq}(h: ∀i k,p (bU a i k)): ∀i k,p (bU (bp a) i k):=fun k i=>by
 by_cases hk:k<ay a
 · rw[uS a hk];exact h i k
 · unfold bU;rw[nc (by rw[dm];omega)];exact h0
theorem jV{l:Nat}{a:bq}(h:oF l a):oF l (bp a):=sx (p:=ao l) (bz l) h
theorem lO{a:bq}(h:0<ay a):ay (bp a)=a.length:=by
 unfold ay;rw[kN a h,List.length_map]
def kz(v:List NQ)(a:bq)(c:Nat):List Nat:=(List.range c).filter fun i=> !(aV v a c).cols.contains i
theorem vg(v:List NQ)(a:bq)(c:Nat):(aV v a (c+1)).cols=(aV v a c).cols++[c]∨(aV v a (c+1)).cols=(aV v a c).cols:=by
 show (eG v (aV v a c) c).cols=(aV v a c).cols++[c]∨(eG v (aV v a c) c).cols=(aV v a c).cols;unfold eG;split
 · exact .inl rfl
 · exact .inr rfl
theorem tH(v:List NQ)(a:bq): ∀c,∀x∈(aV v a c).cols,x<c
 | 0,x,h=>by cases h
 | c+1,x,h=>by
   have ih:=tH v a c;rcases vg v a c with e | e
   · rw[e] at h;rcases List.mem_append.1 h with h | h
     · exact Nat.lt_succ_of_lt (ih x h)
     · rw[List.mem_singleton.1 h];exact Nat.lt_succ_self c
   · rw[e] at h;exact Nat.lt_succ_of_lt (ih x h)
theorem q8(v:List NQ)(a:bq)(c:Nat):((aV v a (c+1)).cols=(aV v a c).cols++[c]∧kz v a (c+1)=kz v a c)∨((aV v a (c+1)).cols=(aV v a c).cols∧kz v a (c+1)=kz v a c++[c]):=by
 have hlt:=tH v a c;rcases vg v a c with e | e
 · refine .inl ⟨e,?_⟩;unfold kz;rw[List.range_succ,List.filter_append,e];rw[show List.filter (fun i=> !((aV v a c).cols++[c]).contains i) [c]=[] by simp,List.append_nil];refine List.filter_congr fun i hi=>?_;have hi:=List.mem_range.1 hi;have:i≠c:=by omega
   simp[this]
 · refine .inr ⟨e,?_⟩;unfold kz;rw[List.range_succ,List.filter_append,e]
   congr 1
   have:c ∉ (aV v a c).cols:=fun h=>absurd (hlt c h) (Nat.lt_irrefl c);simp[this]
theorem ov(v:List NQ)(a:bq): ∀c,(kz v a c).length+(aV v a c).cols.length=c
 | 0=>rfl
 | c+1=>by
   have ih:=ov v a c;rcases q8 v a c with ⟨e1,e2⟩ | ⟨e1,e2⟩
   · rw[e1,e2,List.length_append];show _+(_+1)=_;omega
   · rw[e1,e2,List.length_append];show _+1+_=_;omega
theorem AY(v:List NQ)(a:bq)(c:Nat): ∀x∈kz v a c,x<c:=fun x h=>List.mem_range.1 (List.mem_filter.1 h).1
def kc(v:List NQ)(a:bq):List Nat:=kz v (bp a) a.length
theorem vk{m0:Nat}{v:List NQ}(V:nA m0 v){a:bq}(G:rG v a){n:Nat}(hn:n≤a.length):(aV v (bp a) n).cols.length=(aV v (a.take n) (ay a)).cols.length :=
 yY V G.r G.lt (gK a) (jV G.lt) (dm a) (fun i k _ hk=>uS a hk) hn
theorem tI{v:List NQ}(V:lL v){a:bq}(G:rG v a):(eT v a).cols.length≤a.length∧(eT v a).cols.length≤ay a :=
 ⟨(gO V G.r G.lt (ay a)).cm,(gO V G.r G.lt (ay a)).cl⟩
theorem nN{m0:Nat}{v:List NQ}(V:nA m0 v){a:bq}(G:rG v a):(eT v (bp a)).cols.length=(eT v a).cols.length∧(aV v (bp a) a.length).cols.length=(eT v a).cols.length:=by
 have h:=vk V G (Nat.le_refl a.length);rw[List.take_length] at h;refine⟨?_,h⟩;by_cases h0:0<ay a
 · unfold eT at *;rw[lO h0];exact h
 · have e:bp a=[]:=List.length_eq_zero_iff.1 (by rw[dm];omega);have:=(tI V.a G).2;unfold eT at *;rw[e,mE];show 0=_;omega
theorem yX{m0:Nat}{v:List NQ}(V:nA m0 v){a:bq}(G:rG v a)(h0:0<a.length):
  ((eT v a).cols.length=(eT v (a.take (a.length-1))).cols.length∧0<(kc v a).length∧(kc v a).getD ((kc v a).length-1) 0=a.length-1) ∨
  ((eT v a).cols.length=(eT v (a.take (a.length-1))).cols.length+1∧ ∀x∈kc v a,x<a.length-1):=by
 have e1:=(nN V G).2;have e2:=vk V G (n:=a.length-1) (by omega)
 have e3:(aV v (a.take (a.length-1)) (ay a)).cols.length=(eT v (a.take (a.length-1))).cols.length:=by
  by_cases h1:a.length=1
  · rw[h1];show (aV v [] _).cols.length=(aV v [] _).cols.length;rw[mE,mE]
  · unfold eT;rw[show ay (a.take (a.length-1))=ay a by unfold ay;rw[uu (by omega)]]
 rw[e3] at e2;obtain ⟨n,hn⟩: ∃n,a.length=n+1:=⟨a.length-1,by omega⟩;rw[hn] at e1 e2 ⊢;rw[Nat.add_sub_cancel] at e2 ⊢;unfold kc;rw[hn];rcases q8 v (bp a) n with ⟨f1,f2⟩ | ⟨f1,f2⟩
 · refine .inr ⟨by rw[← e1,f1,List.length_append,e2];rfl,fun x hx=>?_⟩;rw[f2] at hx;exact AY _ _ _ x hx
 · refine .inl ⟨by rw[← e1,f1,e2],?_,?_⟩
   · rw[f2,List.length_append];show 0<_+1;omega
   · rw[f2,List.length_append];show (_++[n]).getD (_+1-1) 0=n;rw[Nat.add_sub_cancel,List.getD_eq_getElem?_getD,List.getElem?_append_right (Nat.le_refl _),Nat.sub_self];rfl
theorem Ah{m0:Nat}{v:List NQ}(V:nA m0 v){a:bq}(G:rG v a):(kc v a).length=a.length-(eT v a).cols.length:=by
 have h1:=ov v (bp a) a.length;have h2:=(nN V G).2;have h3:=(tI V.a G).1;unfold kc;omega
def ph(s:gj)(n c:Nat):Nat→List NQ
 | 0=>(List.replicate n []).set c [1]
 | r+1=>(ph s n c r).set (s.cols.getD r 0) (y7 (bU s.rows r c))
def AI(v:List NQ)(a:bq):bq:=(kz v a (ay a)).map fun c=>ph (eT v a) (ay a) c (eT v a).cols.length
theorem vR(s:gj)(n c:Nat): ∀r,(ph s n c r).length=n
 | 0=>by unfold ph;rw[List.length_set,List.length_replicate]
 | r+1=>by unfold ph;rw[List.length_set,vR s n c r]
end Lift
namespace Lift
open Go Go.Proofs
theorem mI(n:Nat)(r:D)(hn:n≤4611686018427387904)(h1: ∀i:Nat,i≤5→n=2^i→r= .tu [dI i,dB true])(h2:(∀i:Nat,i≤5→n≠2^i)→r= .tu [dI 0,dB false]):Pure Tryz.prog 76 [dI n] r:=by
 refine qJ 14 Tryz.func76 rfl rfl rfl rfl (by kernel_rfl) (fun B0 F0 w0=>?_);refine qX 2 rfl ?_;refine qI ?_;refine qX 1 rfl ?_;refine ab.nil ?_;refine AW.block ?_;refine AW.aE [0,5] (fun k:Nat=>[(0,.d (dI n)),(5,.d (dI k))]) (fun k=>k≤6∧ ∀j,j<k→n≠2^j) (fun k=>6-k) 0 rfl ⟨Nat.zero_le _,fun j hj=>by omega⟩ (fun k ⟨hk,hi⟩=>?_);refine qX 1 rfl ?_;refine qI ?_;refine AW.cond rfl (fun h=>?_) (fun h=>?_);rotate_left
 · have hkk:k=6:=by have:=of_decide_eq_false h;omega
   subst hkk;rw[h2 (fun i hi5=>hi i (by omega))];refine AW.exit ?_;refine qX 2 rfl ?_;exact qN rfl
 have hkk:k<6:=by have:=of_decide_eq_true h;omega
 refine AW.skip (AW.seq (AW.block ?_));refine qX 2 rfl ?_;refine qK 3 rfl ?_;rw[uY (by omega)];refine qU 1 rfl ?_;refine ab.nil ?_;by_cases hp:n=2^k
 · rw[h1 k (by omega) hp,beq_iff_eq.2 (show (n:Int)=((2^k:Nat):Int) by rw[hp])];refine AW.aH rfl ?_;refine qX 3 rfl ?_;exact qN rfl
 rw[beq_eq_false_iff_ne.2 (show (n:Int)≠((2^k:Nat):Int) by omega)];refine AW.aB rfl ?_;refine AW.skip ?_;refine qT 1 rfl ?_;rw[aC (x:=(k:Int)+1) (by omega) (by omega)];refine qU 1 rfl ?_;refine ab.nil ?_
 exact⟨k+1,rfl,⟨hkk,fun j hj=>by
  by_cases e:j=k
  · rw[e];exact hp
  · exact hi j (by omega)⟩,by omega⟩
theorem ef{n i:Nat}(h:n=2^i)(hi:i≤5):Pure Tryz.prog 76 [dI n] (.tu [dI i,dB true]):=by
 have hp:2^i≤2^5:=Nat.pow_le_pow_right (by decide) hi;refine mI n _ (by omega) (fun j hj e=>?_) (fun hn=>absurd h (hn i hi));have h1:=gu (Nat.le_of_eq (h.symm.trans e));have h3:=gu (Nat.le_of_eq (e.symm.trans h));rw[show j=i by omega]
theorem lD{n:Nat}(h: ∀i:Nat,i≤5→n≠2^i)(hn:n≤4611686018427387904):Pure Tryz.prog 76 [dI n] (.tu [dI 0,dB false]) :=
 mI n _ hn (fun i hi e=>absurd e (h i hi)) (fun _=>rfl)
theorem lE(m:Nat)(a:List RD){k:Nat}(hm5:m≤5)(hw:zt m a→wN k a)(hk:k≤17300000000000)(hl:a.length≤4398046511104):Pure Tryz.prog 37 [dI m,dw a] (dI (bQ m a)):=by
 refine qJ 37 Tryz.func37 rfl rfl rfl rfl (by kernel_rfl) (fun B0 F0 w0=>?_);have hno:=fun i hi=>vC (l:=a) (i:=i) hi;have hyes:=sQ (l:=a);unfold bQ;generalize iz a=E at hno hyes ⊢
 obtain ⟨x,ok,cp,hok⟩: ∃(x:Nat) (ok:Bool),Pure Tryz.prog 76 [dI a.length] (.tu [dI x,dB ok])∧((ok=false∨m<x)↔xl m a.length=false):=by
  by_cases hp: ∃i,i≤5∧a.length=2^i
  · obtain ⟨i,hi,hp⟩:=hp;refine⟨i,true,ef hp hi,?_⟩;rw[hp,ui];constructor
    · rintro (h | h)
      · cases h
      · exact decide_eq_false (by omega)
    · intro h;right;have:=of_decide_eq_false h;omega
  · refine⟨0,false,lD (fun i hi e=>hp ⟨i,hi,e⟩) (by omega),?_⟩;constructor
    · intro _;cases hv:xl m a.length
      · rfl
      · obtain ⟨i,h1,h2⟩:=AA hv;exact absurd ⟨i,by omega,h2⟩ hp
    · intro _;exact .inl rfl
 refine qX 1 rfl ?_;refine qK 2 rfl ?_;rw[List.length_map];refine ab.call tok rfl rfl rfl rfl cp ?_;refine qU 5 rfl ?_;refine ab.nil ?_;refine AW.cut [1] (fun _:Unit=>[(1,.d (dw a))]) (fun _=> ¬(a.length≠0∧xl m a.length=false)) ?_ (fun _ hs=>?_)
 · refine qX 2 rfl ?_;rw[List.length_map];refine qU 1 rfl ?_;by_cases h0:a.length=0
   · rw[bne_eq_false_iff_eq.2 (show (a.length:Int)=0 by omega)];refine qU 9 rfl ?_;refine ab.nil ?_;refine AW.aB rfl ?_;refine AW.skip ?_;exact⟨(),rfl,fun h=>h.1 h0⟩
   rw[bne_iff_ne.2 (show (a.length:Int)≠0 by omega)];cases ok with
   | false =>
     have hb:=hok.1 (.inl rfl);rw[if_pos ⟨h0,hb⟩];refine qU 9 rfl ?_;refine ab.nil ?_;refine AW.aH rfl ?_;refine qX 1 rfl ?_;exact qN rfl
   | true =>
   refine qU 7 rfl ?_;by_cases hx:(m:Int)<(x:Int)
   · rw[decide_eq_true hx,if_pos ⟨h0,hok.1 (.inr (by omega))⟩];refine qU 2 rfl ?_;refine ab.nil ?_;refine AW.aH rfl ?_;refine qX 1 rfl ?_;exact qN rfl
   · rw[decide_eq_false hx];refine qU 2 rfl ?_;refine ab.nil ?_;refine AW.aB rfl ?_;refine AW.skip ?_
     exact⟨(),rfl,fun h=>by
      rcases hok.2 h.2 with e | e
      · cases e
      · omega⟩
 rw[if_neg hs];have hw:=hw hs;show AW _ _ _ _ _ _ _ [(1,.d (dw a))];refine AW.seq ?_;refine qX 2 rfl ?_;rw[List.length_map];refine qU 1 rfl ?_;refine ab.nil ?_;refine AW.block ?_;refine AW.aE [27,28,29] (fun i:Nat=>[(27,.d (dw a)),(28,.d (dI a.length)),(29,.d (dI i))]) (fun i=>i≤a.length∧ ∀j,j<i→(a.getD j default).okB=true) (fun i=>a.length-i) 0 rfl ⟨Nat.zero_le _,fun j hj=>by omega⟩ (fun i ⟨hi,hall⟩=>?_);refine qX 1 rfl ?_;refine qI ?_;refine AW.cond rfl (fun h=>?_) (fun h=>?_);rotate_left
 · have hii:i=a.length:=by have:=of_decide_eq_false h;omega
   subst hii;rw[hyes hall,if_neg (by simp)];refine AW.exit ?_;refine qX 1 rfl ?_;exact qN rfl
 have hii:i<a.length:=by have:=of_decide_eq_true h;omega
 have hg:=getM RD.D (l:=a) (i:=i) hii;have hno:=hno i hii;have cv:=mL (a.getD i default) (hw i hii) (by omega);refine AW.skip (AW.seq (AW.block (AW.seq (AW.region ?_))));refine ab.idx tok (a.getD i default).D rfl rfl rfl rfl (Int.natCast_nonneg i) hg ?_;refine qU 3 rfl ?_;refine qK 1 rfl ?_;refine ab.call tok rfl rfl rfl rfl cv ?_;refine qU 1 rfl ?_;cases hv:(a.getD i default).okB with
 | false =>
   rw[hno hv,if_pos rfl];refine ab.nil ?_;refine AW.aH rfl ?_;refine qX 1 rfl ?_;exact qN rfl
 | true =>
 refine ab.nil ?_;refine AW.aB rfl ?_;refine AW.skip ?_;refine qT 1 rfl ?_;rw[aC (x:=(i:Int)+1) (by omega) (by omega)];refine qU 1 rfl ?_;refine ab.nil ?_
 exact⟨i+1,rfl,⟨hii,fun j hj=>by
  by_cases e:j=i
  · subst e;exact hv
  · exact hall j (by omega)⟩,by omega⟩
theorem mJ(a:NQ)(hl:a.length≤1000000):Pure Tryz.prog 151 [af a] (dB (a9 a)):=by
 refine qJ 26 Tryz.func151 rfl rfl rfl rfl (by kernel_rfl) (fun B F0 w0=>?_);have hno:=fun i hi=>pZ (a:=a) (i:=i) hi;have hyes:=nB (a:=a);generalize a9 a=E at hno hyes ⊢;refine qX 1 rfl ?_;refine qI ?_;refine qX 2 rfl ?_;rw[List.length_map];refine qU 1 rfl ?_;refine ab.nil ?_;refine AW.block ?_;refine AW.aE [5,6,7] (fun i:Nat=>[(5,.d (af a)),(6,.d (dI a.length)),(7,.d (dI i))]) (fun i=> ∀j,j<i→j<a.length→a.getD j 0=0) (fun i=>a.length-i) 0 rfl (fun j h=>by omega) (fun i hi=>?_)
 · show AW _ _ _ _ _ _ _ [(5,.d (af a)),(6,.d (dI a.length)),(7,.d (dI i))];refine qX 1 rfl ?_;refine qI ?_;refine AW.cond rfl (fun h=>?_) (fun h=>?_)
   · have hii:i<a.length:=by have:=of_decide_eq_true h;omega
     have g:=jR hii;have hn:=hno i hii;have s0:=BB (a.getD i 0);generalize hq:a.getD i 0=q at g hn s0;generalize Qr q=y at g s0;obtain ⟨yg,yn,yd⟩:=y;simp only[] at s0;refine AW.skip (AW.seq (AW.block (AW.seq (AW.region ?_))));refine ab.idx tok (RD.mk yg yn yd).D rfl rfl rfl rfl (Int.natCast_nonneg i) g ?_;refine qU 3 rfl ?_;refine qK 3 rfl ?_;cases yg with
     | true =>
       refine qU 11 rfl ?_;refine ab.nil ?_;refine AW.aH rfl ?_;rw[hn (fun e=>by have:=s0.2 e;cases this.1)];refine qX 1 rfl ?_;exact qN rfl
     | false =>
     refine qU 3 rfl ?_;rw[aS];refine qU 1 rfl ?_;by_cases h1:yn.length=0;rotate_left
     · rw[bne_iff_ne.2 (show (yn.length:Int)≠0 by omega)];refine qU 7 rfl ?_;refine ab.nil ?_;refine AW.aH rfl ?_;rw[hn (fun e=>by have:=(s0.2 e).2.1;omega)];refine qX 1 rfl ?_;exact qN rfl
     rw[bne_eq_false_iff_eq.2 (show (yn.length:Int)=0 by omega)];refine qU 5 rfl ?_;rw[aS];refine qU 1 rfl ?_;by_cases h2:yd.length=0;rotate_left
     · rw[bne_iff_ne.2 (show (yd.length:Int)≠0 by omega)];refine qU 1 rfl ?_;refine ab.nil ?_;refine AW.aH rfl ?_;rw[hn (fun e=>by have:=(s0.2 e).2.2;omega)];refine qX 1 rfl ?_;exact qN rfl
     rw[bne_eq_false_iff_eq.2 (show (yd.length:Int)=0 by omega)];refine qU 1 rfl ?_;refine ab.nil ?_;refine AW.aB rfl ?_;refine AW.skip ?_;refine qT 1 rfl ?_;rw[aC (x:=(i:Int)+1) (by omega) (by omega)];refine qU 1 rfl ?_;refine ab.nil ?_;refine⟨i+1,rfl,fun j h1 h2=>?_,by omega⟩;by_cases e:j=i
     · rw[e,hq];exact s0.1 ⟨rfl,by omega,by omega⟩
     · exact hi j (by omega) h2
   have hii: ¬i<a.length:=by have:=of_decide_eq_false h;omega
   rw[hyes (fun j h=>hi j (by omega) h)];refine AW.exit ?_;refine qX 1 rfl ?_;exact qN rfl
theorem vp(a:NQ){k:Nat}(hs:ar k a)(hk:k≤17300000000000)(hl:a.length≤1000000):Pure Tryz.prog 112 [af a] (af (aM a)):=by
 refine qJ 19 Tryz.func112 rfl rfl rfl rfl (by kernel_rfl) (fun B0 F0 w0=>?_);refine qX 1 rfl ?_;refine qK 1 rfl ?_;refine qI ?_;refine qX 2 rfl ?_;rw[List.length_map];refine qU 1 rfl ?_;refine ab.nil ?_;refine AW.block ?_;refine AW.aE [3,6,7,8] (fun i:Nat=>[(3,.ow 111 (dt (aM (a.take i)))),(6,.d (af a)),(7,.d (dI a.length)),(8,.d (dI i))]) (fun i=>i≤a.length) (fun i=>a.length-i) 0 rfl (Nat.zero_le _) (fun i hi=>?_);refine qX 1 rfl ?_;refine qI ?_;refine AW.cond rfl (fun h=>?_) (fun h=>?_);rotate_left
 · have hii:i=a.length:=by have:=of_decide_eq_false h;have:i≤a.length:=hi;omega
   subst hii;rw[List.take_length];refine AW.exit ?_;refine qX 2 rfl ?_;exact qN rfl
 have hii:i<a.length:=by have:=of_decide_eq_true h;omega
 have g:=jR hii;have cn:=w7 (Qr (a.getD i 0)) (iK _ (hs i)) hk;rw[cy] at cn;have htk:=qf a 0 hii;have hol:(aM (a.take i)).length=i:=by rw[fB,List.length_take];omega
 have hms:aM (a.take (i+1))=aM (a.take i)++[-a.getD i 0]:=by
  rw[htk];unfold aM;rw[List.map_append];rfl
 generalize aM (a.take i)=M at hol hms ⊢;generalize a.getD i 0=q at g cn hms;refine AW.skip (AW.seq (AW.block (AW.seq (AW.region ?_))));refine ab.idx tok (Qr q).D rfl rfl rfl rfl (Int.natCast_nonneg i) g ?_;refine qU 3 rfl ?_;refine ab.nil ?_;refine qT 2 rfl ?_;refine ab.call tok rfl rfl rfl rfl cn ?_;refine ab.bs tok rfl rfl rfl rfl ?_;refine ab.jC tok rfl rfl rfl rfl rfl rfl (by rw[List.length_map,hol];show (_+1)*56≤_;omega) (by rw[List.length_map,hol];show _+1≤_;omega) ?_;refine qU 1 rfl ?_;refine ab.nil ?_;refine qT 1 rfl ?_;rw[aC (x:=(i:Int)+1) (by omega) (by omega)];refine qU 1 rfl ?_;refine ab.nil ?_;exact⟨i+1,by show _=([(3,.ow 111 (dt (aM (a.take (i+1))))),(6,.d (af a)),(7,.d (dI a.length)),(8,.d (dI (i+1:Nat)))]:St);rw[hms,dt,dt,List.map_append];rfl,hii,by omega⟩
end Lift
namespace Lift
open Go Go.Proofs
theorem jr(a:NQ){l:Nat}(ha:ao l a)(hl:l≤5):Pure Tryz.prog 121 [af a] (af (aq a)):=by
 refine qJ 43 Tryz.func121 rfl rfl rfl rfl (by kernel_rfl) (fun B0 F0 w0=>?_);have hl10:=ha.len (by omega);rcases ha with h0 | ⟨i,hi,hai⟩
 · obtain rfl:a=[]:=List.length_eq_zero_iff.1 h0;have cp:=lD (n:=0) (fun i _=>by have:=Nat.two_pow_pos i;omega) (by decide);refine qX 1 rfl ?_;refine qK 2 rfl ?_;refine ab.call tok rfl rfl rfl rfl cp ?_;refine qU 5 rfl ?_;refine qI ?_;refine qX 2 rfl ?_;refine ab.nil ?_;refine AW.aH rfl ?_;refine qX 2 rfl ?_;refine ab.kF tok rfl rfl rfl rfl (by decide) ?_;refine qU 1 rfl ?_;exact qN rfl
 have cp:=ef hai (by omega);have hp:=Nat.two_pow_pos i;have hE:aq a=fu i a:=by unfold aq;rw[if_neg (by omega),hai,Nat.log2_two_pow]
 rw[hE];refine qX 1 rfl ?_;refine qK 2 rfl ?_;rw[List.length_map];refine ab.call tok rfl rfl rfl rfl cp ?_;refine qU 5 rfl ?_;refine qI ?_;refine qX 2 rfl ?_;refine ab.nil ?_;refine AW.aB rfl ?_;refine AW.skip ?_;refine qX 2 rfl ?_;rw[List.length_map,hai];refine qU 1 rfl ?_;refine qI (AW.block ?_);refine AW.aE [0,5] (fun j:Nat=>[(0,.d (af a)),(5,.d (dI (2^j:Nat)))]) (fun j=>j≤i∧fu j a=fu i a) (fun j=>j) i rfl ⟨Nat.le_refl _,rfl⟩ (fun j hj=>?_);obtain ⟨hj,hjE⟩:=hj;show AW _ _ _ _ _ _ _ [(0,.d (af a)),(5,.d (dI (2^j:Nat)))];have hpj:2^j≤2^i:=Nat.pow_le_pow_right (by decide) hj;have hpp:=Nat.two_pow_pos j;refine AW.seq ?_;refine qX 2 rfl ?_;rcases j with _ | j
 · refine qU 8 rfl ?_;refine ab.nil ?_;refine AW.aB rfl ?_;refine AW.exit (AW.seq ?_);refine qX 4 rfl ?_;refine ab.eS tok (a:=a) (a.take 1) rfl rfl rfl rfl trivial (show (0:Int)≤1 by decide) (Nat.zero_le _) (show 1≤a.length by omega) rfl ?_;refine ab.call tok rfl rfl rfl rfl (mJ (a.take 1) (by rw[List.length_take];omega)) ?_;refine qU 1 rfl ?_;refine ab.nil ?_;rw[← hjE];unfold fu;cases hz:a9 (a.take 1) with
   | true =>
     rw[if_pos rfl];refine AW.aH rfl ?_;refine qX 1 rfl ?_;exact qN rfl
   | false =>
     rw[if_neg (by simp)];refine AW.aB rfl ?_;refine AW.skip ?_;refine qX 3 rfl ?_;refine ab.eS tok (a:=a) (a.take 1) rfl rfl rfl rfl trivial (show (0:Int)≤1 by decide) (Nat.zero_le _) (show 1≤a.length by omega) rfl ?_;have hq:(a.take 1).length≤1024:=by rw[List.length_take];omega
     refine ab.kF tok rfl rfl rfl rfl (by rw[List.length_map];show _*56≤_;omega) ?_;refine qU 1 rfl ?_;exact qN rfl
 have e2:2^(j+1)=2^j*2:=Nat.pow_succ ..;have eh:=iT j;rw[decide_eq_true (show (1:Int)<((2^(j+1):Nat):Int) by have:=Nat.two_pow_pos j;omega)];refine qU 3 rfl ?_;refine ab.div tok rfl rfl rfl rfl (by decide) ?_;rw[fq _ (by omega),eh];refine qU 1 rfl ?_;refine ab.eS tok (a:=a) ((a.take (2^(j+1))).drop (2^j)) rfl rfl rfl rfl (Int.natCast_nonneg _) (Int.natCast_nonneg _) (show 2^j≤2^(j+1) by omega) (show 2^(j+1)≤a.length by omega) rfl ?_;refine ab.call tok rfl rfl rfl rfl (mJ _ (by rw[List.length_drop,List.length_take];omega)) ?_;refine qU 1 rfl ?_;refine ab.nil ?_;cases hz:a9 ((a.take (2^(j+1))).drop (2^j)) with
 | true =>
   refine AW.aH rfl ?_;refine AW.skip (AW.block ?_);refine qT 1 rfl ?_;refine ab.div tok rfl rfl rfl rfl (by decide) ?_;rw[fq _ (by omega),eh];refine qU 1 rfl ?_;refine ab.nil ?_;exact⟨j,rfl,⟨by omega,by rw[← hjE];show _=if a9 ((a.take (2^(j+1))).drop (2^j))=true then _ else _;rw[if_pos hz]⟩,by omega⟩
 | false =>
 refine AW.aB rfl ?_;refine AW.exit (AW.seq ?_);refine qX 2 rfl ?_;rw[beq_eq_false_iff_ne.2 (show ((2^(j+1):Nat):Int)≠1 by have:=Nat.two_pow_pos j;omega)];refine qU 5 rfl ?_;refine ab.nil ?_;refine AW.aB rfl ?_;refine AW.skip ?_;refine qX 3 rfl ?_;refine ab.eS tok (a:=a) (a.take (2^(j+1))) rfl rfl rfl rfl trivial (Int.natCast_nonneg _) (Nat.zero_le _) (show 2^(j+1)≤a.length by omega) rfl ?_;have hq:(a.take (2^(j+1))).length≤1024:=by rw[List.length_take];omega
 refine ab.kF tok rfl rfl rfl rfl (by rw[List.length_map];show _*56≤_;omega) ?_;refine qU 1 rfl ?_;refine ab.nil ?_;rw[← hjE];unfold fu;rw[if_neg (by rw[hz];simp)];exact AW.ret rfl
theorem lN(a:NQ):aW a a.length=a:=by
 unfold aW;rw[List.take_length,Nat.sub_self];exact List.append_nil a
theorem p7{a:NQ}{i:Nat}(h:a.length≤i):aW a (i+1)=aW a i++[0]:=by
 unfold aW;rw[List.take_of_length_le h,List.take_of_length_le (by omega),Nat.succ_sub h,List.replicate_succ',List.append_assoc]
theorem iu(a:NQ)(n:Nat)(ha:a.length≤n)(hn:n≤1000000):kK Tryz.prog 142 [af a,dI n] [] (An (aW a n)):=by
 refine kK.intro (n:=18) tok Tryz.func142 rfl rfl rfl (Nat.le_of_ble_eq_true rfl) (by kernel_rfl) (fun B F0 w0=>?_);refine AZ.seq ?_;refine AZ.gp (fun B1 F1 w1=>?_);refine qU 1 rfl ?_;refine ab.nil ⟨rfl,?_⟩;refine AZ.seq ?_;refine AZ.gp (fun B1 F1 w1=>?_);refine qU 2 rfl ?_;refine ab.xJ tok rfl rfl rfl rfl (by rw[List.length_map];show _*56≤_;omega) ?_;refine qU 1 rfl ?_;refine ab.nil ⟨rfl,?_⟩;refine AZ.seq ?_;refine AZ.block ?_;refine AZ.aE [1,5] (fun i:Nat=>(([]:List LR),([(1,.d (dI n)),(5,.ow 111 (dt (aW a i)))]:St))) (fun i=>a.length≤i∧i≤n) (fun i=>n-i) a.length (by rw[lN];rfl) ⟨Nat.le_refl _,ha⟩ (fun i hi=>?_)
 · obtain ⟨hi,hin⟩:=hi;show AZ _ _ _ _ _ _ _ [] [(1,.d (dI n)),(5,.ow 111 (dt (aW a i)))];have wl:=bb a i;refine AZ.seq ?_;refine AZ.seq ?_;refine AZ.gp (fun B1 F1 w1=>?_);refine qU 2 rfl ?_;rw[List.length_map,wl];refine qU 2 rfl ?_;refine ab.nil ⟨rfl,?_⟩;refine AZ.cond rfl (fun h=>?_) (fun h=>?_)
   · have hii:i<n:=by have:=of_decide_eq_true h;omega
     have hs:=p7 hi;refine AZ.skip ?_;refine AZ.block ?_;refine AZ.gp (fun B1 F1 w1=>?_);refine qU 2 rfl ?_;refine ab.bs tok rfl rfl rfl rfl ?_;refine ab.jC tok rfl rfl rfl rfl rfl rfl (by rw[List.length_map,wl];show (_+1)*56≤_;omega) (by rw[List.length_map,wl];show _+1≤_;omega) ?_;refine qU 1 rfl ?_;refine ab.nil ⟨rfl,?_⟩;refine⟨i+1,?_,⟨by omega,hii⟩,by omega⟩;rw[hs];show _=(([]:List LR),([(1,.d (dI n)),(5,.ow 111 ((aW a i++[0]).map (fun q=>(Qr q).D)))]:St));rw[List.map_append,List.map_cons,iD];rfl
   have hii:i=n:=by have:=of_decide_eq_false h;omega
   subst hii;refine AZ.exit ?_;refine AZ.seq ?_;refine AZ.gp (fun B1 F1 w1=>?_);refine qU 2 rfl ?_;refine ab.nil ⟨rfl,?_⟩;refine AZ.iG 4 rfl rfl rfl (fun V=>AZ.ret ⟨.v V,rfl,V,rfl,rfl⟩)
theorem jq(a:NQ)(n:Nat)(ha:a.length≤n)(hn:n≤1000000):Pure Tryz.prog 142 [af a,dI n] (af (aW a n)):=by
 refine qJ 18 Tryz.func142 rfl rfl rfl rfl (by kernel_rfl) (fun B F0 w0=>?_);refine qX 1 rfl ?_;refine qK 2 rfl ?_;refine ab.xJ tok rfl rfl rfl rfl (by rw[List.length_map];show _*56≤_;omega) ?_;refine qU 1 rfl ?_;refine qI (AW.block ?_);refine AW.aE [1,5] (fun i:Nat=>[(1,.d (dI n)),(5,.ow 111 (dt (aW a i)))]) (fun i=>a.length≤i∧i≤n) (fun i=>n-i) a.length (by rw[lN];rfl) ⟨Nat.le_refl _,ha⟩ (fun i hi=>?_)
 · obtain ⟨hi,hin⟩:=hi;show AW _ _ _ _ _ _ _ [(1,.d (dI n)),(5,.ow 111 (dt (aW a i)))];have wl:=bb a i;refine AW.seq ?_;refine qX 2 rfl ?_;rw[List.length_map,wl];refine qU 2 rfl ?_;refine ab.nil ?_;refine AW.cond rfl (fun h=>?_) (fun h=>?_)
   · have hii:i<n:=by have:=of_decide_eq_true h;omega
     have hs:=p7 hi;refine AW.skip (AW.block ?_);refine qT 2 rfl ?_;refine ab.bs tok rfl rfl rfl rfl ?_;refine ab.jC tok rfl rfl rfl rfl rfl rfl (by rw[List.length_map,wl];show (_+1)*56≤_;omega) (by rw[List.length_map,wl];show _+1≤_;omega) ?_;refine qU 1 rfl ?_;refine ab.nil ?_;refine⟨i+1,?_,⟨by omega,hii⟩,by omega⟩;rw[hs];show _=([(1,.d (dI n)),(5,.ow 111 ((aW a i++[0]).map (fun q=>(Qr q).D)))]:St);rw[List.map_append,List.map_cons,iD];rfl
   have hii:i=n:=by have:=of_decide_eq_false h;omega
   subst hii;refine AW.exit ?_;refine qX 2 rfl ?_;exact qN rfl
theorem kd(a b:NQ){k:Nat}(ha:ar k a)(hb:ar k b)(hk:k≤17300000000000)(hl:a.length≤1000000)(hl2:b.length≤1000000):Pure Tryz.prog 111 [af a,af b] (af (aK a b)):=by
 refine qJ 37 Tryz.func111 rfl rfl rfl rfl (by kernel_rfl) (fun B F0 w0=>?_);obtain ⟨n,hn⟩: ∃n,n=max a.length b.length:=⟨_,rfl⟩;have cw1:=iu a n (by omega) (by omega);have cw2:=iu b n (by omega) (by omega);have l1:=bb a n;have l2:=bb b n;have g1: ∀i,i<n→(aW a n).getD i 0=a.getD i 0:=fun i hi=>by rw[eF,if_pos hi]
 have g2: ∀i,i<n→(aW b n).getD i 0=b.getD i 0:=fun i hi=>by rw[eF,if_pos hi]
 have hpl:(aK a b).length=n:=by rw[gF,hn]
 generalize aW a n=wa at cw1 l1 g1;generalize aW b n=wb at cw2 l2 g2;refine qX 1 rfl ?_;refine qK 4 rfl ?_;rw[List.length_map,List.length_map];refine qU 2 rfl ?_;rw[DQ,← hn];refine qI ?_;refine AZ.aw ?_;refine AZ.region ?_;refine ai.cut 2 rfl (fun B1 F1 w1=>?_);refine qU 2 rfl ?_;refine ab.nil ⟨rfl,?_⟩;refine ai.kD tok [] rfl rfl rfl rfl rfl List.nodup_nil rfl cw1 (fun _ _ _=>Nat.zero_le _) (fun res R1 hP=>?_);obtain ⟨V1,rfl,rfl⟩:=hP;refine ai.cut 2 rfl (fun B1 F1 w1=>?_);refine qU 2 rfl ?_;refine ab.nil ⟨rfl,?_⟩;refine ai.kD tok [] rfl rfl rfl rfl rfl List.nodup_nil rfl cw2 (fun _ _ _=>Nat.zero_le _) (fun res R1 hP=>?_);obtain ⟨V2,rfl,rfl⟩:=hP;refine ai.cut 2 rfl (fun B1 F1 w1=>?_);refine qU 2 rfl ?_;refine ab.nil ⟨rfl,?_⟩;refine ai.to [0,1] [(0,.d (.v V1)),(1,.d (.v V2))] rfl ?_;refine ai.fh 0 0 (V:=V1) (av:= .ow 111 (dt wa)) rfl rfl rfl ?_;refine ai.to [0,1] [(0,.ow 111 (dt wa)),(1,.d (.v V2))] rfl ?_;refine ai.fh 1 1 (V:=V2) (av:= .ow 111 (dt wb)) rfl rfl rfl ?_;refine ai.to [0,1] [(0,.ow 111 (dt wa)),(1,.ow 111 (dt wb))] rfl ?_;refine ai.nil ?_;refine AW.fQ tok 1 rfl rfl ?_;refine AW.seq ?_;refine qX 2 rfl ?_;rw[List.length_map,l1];refine qU 1 rfl ?_;refine ab.nil ?_;refine AW.block ?_;refine AW.aE [0,1,19,20] (fun s:Nat×NQ=>[(0,.ow 111 (dt s.2)),(1,.d (af wb)),(19,.d (dI n)),(20,.d (dI s.1))]) (fun s=>s.2.length=n∧ ∀j,j<n→s.2.getD j 0=if j<s.1 then a.getD j 0+b.getD j 0 else a.getD j 0) (fun s=>n-s.1) (0,wa) rfl ⟨l1,fun j h=>by rw[if_neg (Nat.not_lt_zero _)];exact g1 j h⟩ (fun s hi=>?_)
 · obtain ⟨i,r⟩:=s;obtain ⟨hrl,hi⟩:=hi;simp only[] at hrl hi;show AW _ _ _ _ _ _ _ [(0,.ow 111 (dt r)),(1,.d (af wb)),(19,.d (dI n)),(20,.d (dI i))];refine qX 1 rfl ?_;refine qI ?_;refine AW.cond rfl (fun h=>?_) (fun h=>?_)
   · have hii:i<n:=by have:=of_decide_eq_true h;omega
     have e1:=jR (r:=r) (i:=i) (by omega);have e2:=jR (r:=wb) (i:=i) (by omega);rw[hi i hii,if_neg (Nat.lt_irrefl _)] at e1;rw[g2 i hii] at e2;have ca:=w9 (Qr (a.getD i 0)) (Qr (b.getD i 0)) (iK _ (ha i)) (iK _ (hb i)) hk;rw[cy,cy] at ca;refine AW.skip (AW.seq (AW.block ?_));refine qX 2 rfl ?_;refine ab.nil ?_;refine AW.draw aN 12 (by kernel_rfl) ?_;refine qP 4 rfl ?_;refine ae.eg tok rfl rfl rfl rfl rfl rfl (Int.natCast_nonneg i) (by rw[List.length_map];show i<_;omega) ?_;refine ae.bZ tok (Qr (a.getD i 0)).D rfl rfl rfl rfl rfl e1 rfl ?_;refine qP 2 rfl ?_;refine ae.idx tok (Qr (b.getD i 0)).D rfl rfl rfl rfl rfl (Int.natCast_nonneg i) e2 ?_;refine qP 1 rfl ?_;refine ae.call tok rfl rfl rfl rfl rfl ca ?_;refine ae.eg tok rfl rfl rfl rfl rfl rfl (Int.natCast_nonneg i) (by rw[List.length_map];show i<_;omega) ?_;refine ae.nil ?_;refine ab.wO tok (a.getD i 0+b.getD i 0) rfl rfl rfl (by show i<_;omega) ?_;refine ab.nil ?_;refine qT 1 rfl ?_;rw[aC (x:=(i:Int)+1) (by omega) (by omega)];refine qU 1 rfl ?_;refine ab.nil ?_;refine⟨(i+1,r.set i (a.getD i 0+b.getD i 0)),rfl,⟨by rw[List.length_set];exact hrl,fun j h1=>?_⟩,by show n-(i+1)<n-i;omega⟩;show (r.set i (a.getD i 0+b.getD i 0)).getD j 0=if j<i+1 then _ else _
     rw[xy];by_cases e:j=i
     · rw[if_pos ⟨e,by omega⟩,e,if_pos (by omega)]
     · rw[if_neg (fun h=>e h.1),hi j h1];by_cases h2:j<i
       · rw[if_pos h2,if_pos (by omega)]
       · rw[if_neg h2,if_neg (by omega)]
   have hii: ¬i<n:=by have:=of_decide_eq_false h;omega
   obtain rfl:r=aK a b:=xi (by rw[hrl,hpl]) (fun j hj=>by rw[kT,hi j (by omega),if_pos (by omega)]);refine AW.exit ?_;refine qX 2 rfl ?_;exact qN rfl
end Lift
namespace Lift
open Go Go.Proofs
theorem sN{R:NQ→NQ→NQ}{rt:List NQ}{a b:NQ}:(iq R rt a b).length≤max a.length b.length:=by
 unfold iq;split
 · exact Nat.zero_le _
 split
 · rename_i h;rw[h];exact Nat.le_refl _
 · rw[dq];omega
theorem ve{l k:Nat}{R:NQ→NQ→NQ}{rt:List NQ}{a b:NQ}(ha:ao l a)(hb:ao l b)(hrt:b9 rt)(hl:l≤rt.length)(sa:ar k a)(sb:ar k b)(sr:dN k rt)
  (hR: ∀l',l=l'+1→ ∀a' b' m,k≤m→ao l' a'→ao l' b'→ar m a'→ar m b'→ao l' (R a' b')∧ar (sT l' m) (R a' b')):ao l (iq R rt a b)∧ar (sT l k) (iq R rt a b):=by
 have hk:=sa.pos;have h2:=bt l k;unfold iq;by_cases h0:a.length=0∨b.length=0
 · rw[if_pos h0];exact⟨bz _,bA (by omega)⟩
 rw[if_neg h0];by_cases h1:max a.length b.length=1
 · rw[if_pos h1];refine⟨gB _ _,gL ?_⟩;have:=xN (a.getD 0 0) (b.getD 0 0);have:=sa 0;have:=sb 0;omega
 rw[if_neg h1]
 obtain ⟨i,hi,hn⟩: ∃i,i≤l∧max a.length b.length=2^i:=by
  rcases ha with e | ⟨i,hi,e⟩
  · exact absurd (.inl e) h0
  rcases hb with e2 | ⟨k,hk,e2⟩
  · exact absurd (.inr e2) h0
  by_cases h:a.length≤b.length
  · exact⟨k,hk,by rw[Nat.max_eq_right h,e2]⟩
  · exact⟨i,hi,by rw[Nat.max_eq_left (by omega),e]⟩
 have vU:i≠0:=fun e=>h1 (by rw[hn,e]);obtain ⟨j,rfl⟩: ∃j,i=j+1:=⟨i-1,by omega⟩;obtain ⟨l',rfl⟩: ∃l',l=l'+1:=⟨l-1,by omega⟩;have hj:j≤l':=by omega
 have hR:=fun a' b' m h1 h2 h3 h4 h5=>hR l' rfl a' b' m h1 h2 h3 h4 h5;have wa:=bb a (max a.length b.length);have wb:=bb b (max a.length b.length);have sa:=sa.wide (max a.length b.length);have sb:=sb.wide (max a.length b.length);generalize aW a (max a.length b.length)=A at *;generalize aW b (max a.length b.length)=B at *;generalize max a.length b.length=n at *;subst hn;have e0:=iT j;have hlog:(2^(j+1)).log2-1=j:=by rw[Nat.log2_two_pow];omega
 rw[e0,hlog];obtain ⟨e1,e2,e3⟩:=bf wa;obtain ⟨f1,f2,f3⟩:=bf wb;rw[e3] at e1 e2;rw[f3] at f1 f2;have hx:ao l' (A.take (2^j)):= .inr ⟨j,hj,e1⟩;have hy:ao l' (A.drop (2^j)):= .inr ⟨j,hj,e2⟩;have hu:ao l' (B.take (2^j)):= .inr ⟨j,hj,f1⟩;have hv:ao l' (B.drop (2^j)):= .inr ⟨j,hj,f2⟩;have hd:ao l' (rt.getD j []):= .inr ⟨j,hj,hrt j (by omega)⟩;have hs0:=bt l' k;have hs1:=bt l' (sT l' k);have r1:=hR _ _ k (Nat.le_refl _) hx hu (sa.take _) (sb.take _);have r2:=hR _ _ k (Nat.le_refl _) hy hv (sa.drop _) (sb.drop _);have r3:=hR _ _ k (Nat.le_refl _) hx hv (sa.take _) (sb.drop _);have r4:=hR _ _ k (Nat.le_refl _) hy hu (sa.drop _) (sb.take _);have r5:=hR _ _ (sT l' k) (by omega) r2.1 hd r2.2 ((sr _).mono (by omega));refine⟨.inr ⟨j+1,by omega,by rw[dq,Nat.pow_succ];omega⟩,(((r1.2.plus r5.2).mono ?_).join ((r3.2.plus r4.2).mono ?_) _)⟩
 · show _≤sT l' (sT l' k)+sT l' k+1;omega
 · show _≤sT l' (sT l' k)+sT l' k+1;omega
theorem jn(a:NQ){l:Nat}(ha:ao l a):(aq a).length≤a.length:=by
 unfold aq;split
 · exact Nat.zero_le _
 have: ∀i,(fu i a).length≤a.length:=fun i=>by
  induction i with
  | zero =>
    unfold fu;split
    · exact Nat.zero_le _
    · rw[List.length_take];omega
  | succ i ih =>
    unfold fu;split
    · exact ih
    · rw[List.length_take];omega
 exact this _
theorem eJ: ∀(l:Nat) {k:Nat} {rt:List NQ} {a b:NQ},ao l a→ao l b→b9 rt→l≤rt.length→ar k a→ar k b→dN k rt→ao l (et l rt a b)∧ar (sT l k) (et l rt a b)
 | 0,k,rt,a,b,ha,hb,hrt,hl,sa,sb,sr=>ve (aU ha sa).1 (aU hb sb).1 hrt hl (aU ha sa).2 (aU hb sb).2 sr (fun l' h=>by omega)
 | l+1,k,rt,a,b,ha,hb,hrt,hl,sa,sb,sr=>ve (aU ha sa).1 (aU hb sb).1 hrt hl (aU ha sa).2 (aU hb sb).2 sr (fun l' e a' b' m hm h1 h2 h3 h4=>by
    obtain rfl:l=l':=by omega
    exact eJ l h1 h2 hrt (by omega) h3 h4 (sr.mono hm))
theorem wW: ∀(l:Nat) {rt:List NQ} {a b:NQ},ao l a→ao l b→(et l rt a b).length≤max a.length b.length
 | 0,rt,a,b,ha,hb=>by
   have h1:=jn a ha;have h2:=jn b hb;have h3:=sN (R:=fun _ _=>[]) (rt:=rt) (a:=aq a) (b:=aq b);show (iq _ rt _ _).length≤_;omega
 | l+1,rt,a,b,ha,hb=>by
   have h1:=jn a ha;have h2:=jn b hb;have h3:=sN (R:=et l rt) (rt:=rt) (a:=aq a) (b:=aq b);show (iq _ rt _ _).length≤_;omega
set_option maxHeartbeats 1600000 in
theorem oJ{l k:Nat}{R:NQ→NQ→NQ}{rt:List NQ}{xs:List D}{a b:NQ}(ha:ao l a)(hb:ao l b)(hrt:b9 rt)(hl:l≤rt.length)(hl5:l≤5)(hxs: ∀j,j<rt.length→xs[j]?=some (af (rt.getD j [])))(sa:ar k a)(sb:ar k b)(sr:dN k rt)(hk:sT l k≤17300000000000)
  (hR: ∀l',l=l'+1→ ∀a' b' m,k≤m→ao l' a'→ao l' b'→ar m a'→ar m b'→sT l' m≤17300000000000→Pure Tryz.prog 122 [.ag [.sl 1 xs],af a',af b'] (af (R a' b'))∧(R a' b').length≤max a'.length b'.length∧ao l' (R a' b')∧ar (sT l' m) (R a' b')):
  Pure Tryz.prog 122 [.ag [.sl 1 xs],af a,af b] (af (iq R rt (aq a) (aq b))):=by
 refine qJ 105 Tryz.func122 rfl rfl rfl rfl (by kernel_rfl) (fun B F0 w0=>?_);have hk1:=sa.pos;have h2:=bt l k;have cs1:=jr a ha hl5;have cs2:=jr b hb hl5;obtain ⟨ha,sa⟩:=aU ha sa;obtain ⟨hb,sb⟩:=aU hb sb;generalize aq a=s at *;generalize aq b=t at *;have hla:=ha.len (by omega);have hlb:=hb.len (by omega);refine qX 2 rfl ?_;refine qK 1 rfl ?_;refine ab.call tok rfl rfl rfl rfl cs1 ?_;refine qU 1 rfl ?_;refine ab.call tok rfl rfl rfl rfl cs2 ?_;refine qU 2 rfl ?_;refine qK 4 rfl ?_;rw[List.length_map,List.length_map];refine qU 2 rfl ?_;rw[DQ];refine qI ?_;refine qX 2 rfl ?_;rw[List.length_map];refine qU 1 rfl ?_;unfold iq;by_cases h0:s.length=0
 · have h00:s.length=0∨t.length=0:= .inl h0;rw[beq_iff_eq.2 (show (s.length:Int)=0 by omega),if_pos h00];refine qU 5 rfl ?_;refine ab.nil ?_;refine AW.aH rfl ?_;refine qX 1 rfl ?_;exact qN rfl
 rw[beq_eq_false_iff_ne.2 (show (s.length:Int)≠0 by omega)];refine qU 3 rfl ?_;rw[List.length_map];refine qU 1 rfl ?_;by_cases h01:t.length=0
 · have h00:s.length=0∨t.length=0:= .inr h01;rw[beq_iff_eq.2 (show (t.length:Int)=0 by omega),if_pos h00];refine qU 1 rfl ?_;refine ab.nil ?_;refine AW.aH rfl ?_;refine qX 1 rfl ?_;exact qN rfl
 have h00: ¬(s.length=0∨t.length=0):=fun h=>h.elim h0 h01;rw[beq_eq_false_iff_ne.2 (show (t.length:Int)≠0 by omega),if_neg h00];refine qU 1 rfl ?_;refine ab.nil ?_;refine AW.aB rfl ?_;refine AW.skip (AW.seq (AW.seq (AW.region ?_)));obtain ⟨n,hn⟩: ∃n,n=max s.length t.length:=⟨_,rfl⟩;rw[← hn];refine qU 2 rfl ?_;by_cases h1:n=1
 · rw[if_pos h1,beq_iff_eq.2 (show (n:Int)=1 by omega)];have g1:=jR (r:=s) (i:=0) (by omega);have g2:=jR (r:=t) (i:=0) (by omega);have cm:=w8 (Qr (s.getD 0 0)) (Qr (t.getD 0 0)) (k:=k) (iK _ (sa 0)) (iK _ (sb 0)) (by omega);rw[cy,cy] at cm;refine ab.nil ?_;refine AW.aH rfl ?_;refine AW.seq ?_;refine AW.draw aN 8 (by kernel_rfl) ?_;refine qP 1 rfl ?_;refine ae.idx tok (Qr (s.getD 0 0)).D rfl rfl rfl rfl rfl (Int.le_refl _) g1 ?_;refine qP 2 rfl ?_;refine ae.idx tok (Qr (t.getD 0 0)).D rfl rfl rfl rfl rfl (Int.le_refl _) g2 ?_;refine qP 1 rfl ?_;refine ae.call tok rfl rfl rfl rfl rfl cm ?_;refine ae.fU tok rfl rfl rfl rfl rfl rfl ?_;refine ae.nil ?_;refine qU 1 rfl ?_;exact qN rfl
 rw[if_neg h1,beq_eq_false_iff_ne.2 (show (n:Int)≠1 by omega)];refine ab.nil ?_;refine AW.aB rfl ?_;refine AW.skip ?_
 obtain ⟨i,hi,hni⟩: ∃i,i≤l∧n=2^i:=by
  rcases ha with e | ⟨i,hi,e⟩
  · exact absurd e h0
  rcases hb with e2 | ⟨k,hk,e2⟩
  · exact absurd e2 h01
  by_cases h:s.length≤t.length
  · exact⟨k,hk,by rw[hn,Nat.max_eq_right h,e2]⟩
  · exact⟨i,hi,by rw[hn,Nat.max_eq_left (by omega),e]⟩
 have hsn:s.length≤n:=by omega
 have htn:t.length≤n:=by omega
 have hn9:n≤1024:=by omega
 clear hn;have vU:i≠0:=fun e=>h1 (by rw[hni,e]);obtain ⟨j,rfl⟩: ∃j,i=j+1:=⟨i-1,by omega⟩;obtain ⟨l',rfl⟩: ∃l',l=l'+1:=⟨l-1,by omega⟩;have hj:j≤l':=by omega
 have hR:=fun a' b' m h1 h2 h3 h4 h5=>hR l' rfl a' b' m h1 h2 h3 h4 h5;have hs0:=bt l' k;have hs1:=bt l' (sT l' k);have hk:sT l' (sT l' k)+sT l' k+1≤17300000000000:=hk;have cw1:=jq s n hsn (by omega);have cw2:=jq t n htn (by omega);have cp:=ef hni (by omega);have wa:=bb s n;have wb:=bb t n;have sa:=sa.wide n;have sb:=sb.wide n;generalize aW s n=A at *;generalize aW t n=B at *;have e0:=iT j;have hlog:n.log2-1=j:=by rw[hni,Nat.log2_two_pow];omega
 obtain ⟨e1,e2,e3⟩:=bf (wa.trans hni);obtain ⟨f1,f2,f3⟩:=bf (wb.trans hni);rw[hlog];obtain ⟨h,hh⟩: ∃h,h=n / 2:=⟨_,rfl⟩
 have hnh:n=h+h:=by
  have:2^(j+1)=2^j*2:=Nat.pow_succ ..;omega
 have hh2:h=2^j:=by rw[hh,hni,e0]
 rw[wa,← hh] at e1 e2;rw[wb,← hh] at f1 f2;rw[← hh];have hx:ao l' (A.take h):= .inr ⟨j,hj,e1⟩;have hy:ao l' (A.drop h):= .inr ⟨j,hj,e2⟩;have hu:ao l' (B.take h):= .inr ⟨j,hj,f1⟩;have hv:ao l' (B.drop h):= .inr ⟨j,hj,f2⟩;have hdl:=hrt j (by omega);have hd:ao l' (rt.getD j []):= .inr ⟨j,hj,hdl⟩;have r1:=hR _ _ k (Nat.le_refl _) hx hu (sa.take _) (sb.take _) (by omega);have r2:=hR _ _ k (Nat.le_refl _) hy hv (sa.drop _) (sb.drop _) (by omega);have r3:=hR _ _ k (Nat.le_refl _) hx hv (sa.take _) (sb.drop _) (by omega);have r4:=hR _ _ k (Nat.le_refl _) hy hu (sa.drop _) (sb.take _) (by omega);have r5:=hR _ _ (sT l' k) (by omega) r2.2.2.1 hd r2.2.2.2 ((sr _).mono (by omega)) (by omega);have n1:(R (A.take h) (B.take h)).length≤h:=Nat.le_trans r1.2.1 (Nat.max_le.2 ⟨by omega,by omega⟩);have n2:(R (A.drop h) (B.drop h)).length≤h:=Nat.le_trans r2.2.1 (Nat.max_le.2 ⟨by omega,by omega⟩);have n3:(R (A.take h) (B.drop h)).length≤h:=Nat.le_trans r3.2.1 (Nat.max_le.2 ⟨by omega,by omega⟩);have n4:(R (A.drop h) (B.take h)).length≤h:=Nat.le_trans r4.2.1 (Nat.max_le.2 ⟨by omega,by omega⟩);have n5:(R (R (A.drop h) (B.drop h)) (rt.getD j [])).length≤h:=Nat.le_trans r5.2.1 (Nat.max_le.2 ⟨n2,by omega⟩);have r1:=And.intro r1.1 r1.2.2;have r2:=And.intro r2.1 r2.2.2;have r3:=And.intro r3.1 r3.2.2;have r4:=And.intro r4.1 r4.2.2;have r5:=And.intro r5.1 r5.2.2;have p1:=kd (R (A.take h) (B.take h)) (R (R (A.drop h) (B.drop h)) (rt.getD j [])) (k:=sT l' (sT l' k)) (r1.2.2.mono (by omega)) r5.2.2 (by omega) (by omega) (by omega);have p2:=kd (R (A.take h) (B.drop h)) (R (A.drop h) (B.take h)) (k:=sT l' k) r3.2.2 r4.2.2 (by omega) (by omega) (by omega);have q1:(aK (R (A.take h) (B.take h)) (R (R (A.drop h) (B.drop h)) (rt.getD j []))).length≤h:=by rw[gF];exact Nat.max_le.2 ⟨n1,n5⟩
 have q2:(aK (R (A.take h) (B.drop h)) (R (A.drop h) (B.take h))).length≤h:=by rw[gF];exact Nat.max_le.2 ⟨n3,n4⟩
 have cw3:=iu (aK (R (A.take h) (B.take h)) (R (R (A.drop h) (B.drop h)) (rt.getD j []))) h q1 (by omega);have cw4:=iu (aK (R (A.take h) (B.drop h)) (R (A.drop h) (B.take h))) h q2 (by omega);unfold cW;refine qX 2 rfl ?_;refine ab.call tok rfl rfl rfl rfl cw1 ?_;refine qU 2 rfl ?_;refine ab.call tok rfl rfl rfl rfl cw2 ?_;refine qU 2 rfl ?_;refine qK 1 rfl ?_;refine ab.call tok rfl rfl rfl rfl cp ?_;refine qU 5 rfl ?_;refine qI ?_;refine AW.draw aN 19 (by kernel_rfl) ?_;refine qP 2 rfl ?_;refine ae.div tok rfl rfl rfl rfl rfl (by decide) ?_;rw[fq _ (by omega),← hh];refine ae.eS tok (a:=A) (A.take h) rfl rfl rfl rfl rfl trivial (Int.natCast_nonneg h) (Nat.zero_le _) (show h≤A.length by omega) rfl ?_;refine qP 2 rfl ?_;refine ae.div tok rfl rfl rfl rfl rfl (by decide) ?_;rw[fq _ (by omega),← hh];refine ae.eS tok (a:=A) (A.drop h) rfl rfl rfl rfl rfl (Int.natCast_nonneg h) trivial (show h≤A.length by omega) (Nat.le_refl _) (by show (A.take A.length).drop h=_;rw[List.take_length]) ?_;refine qP 2 rfl ?_;refine ae.div tok rfl rfl rfl rfl rfl (by decide) ?_;rw[fq _ (by omega),← hh];refine ae.eS tok (a:=B) (B.take h) rfl rfl rfl rfl rfl trivial (Int.natCast_nonneg h) (Nat.zero_le _) (show h≤B.length by omega) rfl ?_;refine qP 2 rfl ?_;refine ae.div tok rfl rfl rfl rfl rfl (by decide) ?_;rw[fq _ (by omega),← hh];refine ae.eS tok (a:=B) (B.drop h) rfl rfl rfl rfl rfl (Int.natCast_nonneg h) trivial (show h≤B.length by omega) (Nat.le_refl _) (by show (B.take B.length).drop h=_;rw[List.take_length]) ?_;refine qP 3 rfl ?_;refine ae.nil ?_;refine qU 1 rfl ?_;refine ab.nil ?_;refine AW.cO [3,7,8,10,11,12,13] ?_;show AW _ _ _ _ _ _ _ [(3,.bx [.sl 1 xs]),(7,.d (dI n)),(8,.d (dI (j+1:Nat))),(10,.d (af (A.take h))),(11,.d (af (A.drop h))),(12,.d (af (B.take h))),(13,.d (af (B.drop h)))];refine AW.seq ?_;refine AW.draw aN 17 (by kernel_rfl) ?_;refine qP 3 rfl ?_;refine ae.call tok rfl rfl rfl rfl rfl r1.1 ?_;refine qP 4 rfl ?_;refine ae.call tok rfl rfl rfl rfl rfl r2.1 ?_;refine qP 4 rfl ?_;rw[aC (x:=((j+1:Nat):Int) -1) (by omega) (by omega),show ((j+1:Nat):Int) -1=(j:Int) by omega];refine ae.idx tok (af (rt.getD j [])) rfl rfl rfl rfl rfl (Int.natCast_nonneg j) (hxs j (by omega)) ?_;refine qP 1 rfl ?_;refine ae.call tok rfl rfl rfl rfl rfl r5.1 ?_;refine ae.call tok rfl rfl rfl rfl rfl p1 ?_;refine ae.nil ?_;refine qU 1 rfl ?_;refine qI ?_;refine AW.draw aN 9 (by kernel_rfl) ?_;refine qP 3 rfl ?_;refine ae.call tok rfl rfl rfl rfl rfl r3.1 ?_;refine qP 3 rfl ?_;refine ae.call tok rfl rfl rfl rfl rfl r4.1 ?_;refine ae.call tok rfl rfl rfl rfl rfl p2 ?_;refine ae.nil ?_;refine qU 1 rfl ?_;refine ab.nil ?_;have l1:=bb (aK (R (A.take h) (B.take h)) (R (R (A.drop h) (B.drop h)) (rt.getD j []))) h;have l2:=bb (aK (R (A.take h) (B.drop h)) (R (A.drop h) (B.take h))) h;generalize aK (R (A.take h) (B.take h)) (R (R (A.drop h) (B.drop h)) (rt.getD j []))=P1 at *;generalize aK (R (A.take h) (B.drop h)) (R (A.drop h) (B.take h))=P2 at *;refine AW.cO [7,14,15] ?_;show AW _ _ _ _ _ _ _ [(7,.d (dI n)),(14,.d (af P1)),(15,.d (af P2))];generalize aW P1 h=wa at *;generalize aW P2 h=wb at *;refine AW.seq ?_;refine AZ.aw ?_;refine AZ.region ?_;refine ai.cut 3 rfl (fun B1 F1 w1=>?_);refine qU 2 rfl ?_;refine ab.div tok rfl rfl rfl rfl (by decide) ?_;rw[fq _ (by omega),← hh];refine ab.nil ⟨rfl,?_⟩;refine ai.kD tok [] rfl rfl rfl rfl rfl List.nodup_nil rfl cw3 (fun _ _ _=>Nat.zero_le _) (fun res R1 hP=>?_);obtain ⟨V1,rfl,rfl⟩:=hP;refine ai.cut 3 rfl (fun B1 F1 w1=>?_);refine qU 2 rfl ?_;refine ab.div tok rfl rfl rfl rfl (by decide) ?_;rw[fq _ (by omega),← hh];refine ab.nil ⟨rfl,?_⟩;refine ai.kD tok [] rfl rfl rfl rfl rfl List.nodup_nil rfl cw4 (fun _ _ _=>Nat.zero_le _) (fun res R1 hP=>?_);obtain ⟨V2,rfl,rfl⟩:=hP;refine ai.to [99,103] [(99,.d (.v V1)),(103,.d (.v V2))] rfl ?_;refine ai.fh 99 0 (V:=V1) (av:= .ow 111 (dt wa)) rfl rfl rfl ?_;refine ai.to [99,103] [(99,.ow 111 (dt wa)),(103,.d (.v V2))] rfl ?_;refine ai.fh 103 1 (V:=V2) (av:= .ow 111 (dt wb)) rfl rfl rfl ?_;refine ai.to [99,103] [(99,.ow 111 (dt wa)),(103,.ow 111 (dt wb))] rfl ?_;refine ai.cut 2 rfl (fun B1 F1 w1=>?_);refine ab.fQ tok 103 rfl rfl ?_;refine ab.jC tok rfl rfl rfl rfl rfl rfl (by rw[List.length_map,List.length_map,l1,l2];show (_+_)*56≤_;omega) (by rw[List.length_map,List.length_map,l1,l2];omega) ?_;refine qU 1 rfl ?_;refine ab.nil ⟨rfl,?_⟩;refine ai.nil ?_;rw[show dt wa++dt wb=dt (wa++wb) from List.map_append.symm];exact AW.ret rfl
theorem gq: ∀(l:Nat) {k:Nat} {rt:List NQ} {xs:List D} {a b:NQ},ao l a→ao l b→b9 rt→l≤rt.length→l≤5→(∀j,j<rt.length→xs[j]?=some (af (rt.getD j [])))→ar k a→ar k b→dN k rt→sT l k≤17300000000000→Pure Tryz.prog 122 [.ag [.sl 1 xs],af a,af b] (af (et l rt a b))
 | 0,k,rt,xs,a,b,ha,hb,hrt,hl,hl5,hxs,sa,sb,sr,hk=>oJ ha hb hrt hl hl5 hxs sa sb sr hk (fun l' h=>by omega)
 | l+1,k,rt,xs,a,b,ha,hb,hrt,hl,hl5,hxs,sa,sb,sr,hk=>oJ ha hb hrt hl hl5 hxs sa sb sr hk (fun l' e a' b' m hm h1 h2 h3 h4 h5=>by
    obtain rfl:l=l':=by omega
    exact⟨gq l h1 h2 hrt (by omega) (by omega) hxs h3 h4 (sr.mono hm) h5,wW l h1 h2,eJ l h1 h2 hrt (by omega) h3 h4 (sr.mono hm)⟩)
end Lift
namespace Lift
open Go Go.Proofs
theorem Ac{l k j:Nat}{rt:List NQ}{a:NQ}(hj:j≤l)(ha:a.length=2^(j+1))(hrt:b9 rt)(hl:l<rt.length)(sa:ar k a)(sr:dN k rt):ao l (iF l rt a)∧ar (sT (l+1) k) (iF l rt a):=by
 obtain ⟨e1,e2,e3⟩:=bf ha;have hx:ao l (a.take (a.length / 2)):= .inr ⟨j,hj,e1⟩;have hy:ao l (a.drop (a.length / 2)):= .inr ⟨j,hj,e2⟩;have hlog:a.length.log2-1=j:=by rw[ha,Nat.log2_two_pow];omega
 have hd:ao l (rt.getD j []):= .inr ⟨j,hj,hrt j (by omega)⟩;have h0:=bt l k;have h1:=bt l (sT l k);have r1:=eJ l hx hx hrt (by omega) (sa.take _) (sa.take _) sr;have r2:=eJ l hy hy hrt (by omega) (sa.drop _) (sa.drop _) sr;have r3:=eJ l r2.1 hd hrt (by omega) r2.2 ((sr _).mono (by omega)) (sr.mono (by omega));unfold iF;rw[hlog];refine⟨r1.1.plus r3.1.minus,(r1.2.plus r3.2.minus).mono ?_⟩;show _≤sT l (sT l k)+sT l k+1;omega
theorem vn{l k j:Nat}{rt:List NQ}{xs:List D}{a:NQ}(hj:j≤l)(ha:a.length=2^(j+1))(hrt:b9 rt)(hl:l<rt.length)(hl5:l+1≤5)(hxs: ∀j,j<rt.length→xs[j]?=some (af (rt.getD j [])))(sa:ar k a)(sr:dN k rt)(hk:sT (l+1) k≤17300000000000):
  Pure Tryz.prog 138 [.ag [.sl 1 xs],af a,dI a.length] (af (iF l rt a)):=by
 refine qJ 45 Tryz.func138 rfl rfl rfl rfl (by kernel_rfl) (fun B F0 w0=>?_);obtain ⟨e1,e2,e3⟩:=bf ha;have hx:ao l (a.take (a.length / 2)):= .inr ⟨j,hj,e1⟩;have hy:ao l (a.drop (a.length / 2)):= .inr ⟨j,hj,e2⟩;have hlog:a.length.log2-1=j:=by rw[ha,Nat.log2_two_pow];omega
 have hd:ao l (rt.getD j []):= .inr ⟨j,hj,hrt j (by omega)⟩;have h0:=bt l k;have h1:=bt l (sT l k);have hk:sT l (sT l k)+sT l k+1≤17300000000000:=hk;have hp:2^(j+1)≤2^10:=Nat.pow_le_pow_right (by decide) (by omega);have r1:=eJ l hx hx hrt (by omega) (sa.take _) (sa.take _) sr;have r2:=eJ l hy hy hrt (by omega) (sa.drop _) (sa.drop _) sr;have r3:=eJ l r2.1 hd hrt (by omega) r2.2 ((sr _).mono (by omega)) (sr.mono (by omega));have c1:=gq l hx hx hrt (by omega) (by omega) hxs (sa.take _) (sa.take _) sr (by omega);have c2:=gq l hy hy hrt (by omega) (by omega) hxs (sa.drop _) (sa.drop _) sr (by omega);have c3:=gq l r2.1 hd hrt (by omega) (by omega) hxs r2.2 ((sr j).mono (by omega)) (sr.mono (by omega)) (by omega);have n1:=r1.1.len (by omega);have n3:=r3.1.len (by omega);have c4:=vp _ r3.2 (by omega) (by omega);have c5:=kd _ _ (k:=sT l (sT l k)) (r1.2.mono (by omega)) r3.2.minus (by omega) (by omega) (by rw[fB];omega);have cw:=jq a a.length (Nat.le_refl _) (by omega);rw[lN] at cw;have cp:=ef ha (by omega);unfold iF;rw[hlog];obtain ⟨n,hn⟩: ∃n,n=a.length / 2:=⟨_,rfl⟩;rw[← hn] at e1 e2 e3 hx hy c1 c2 c3 c4 c5 ⊢;refine qX 2 rfl ?_;refine qK 2 rfl ?_;refine ab.call tok rfl rfl rfl rfl cw ?_;refine qU 1 rfl ?_;refine qK 1 rfl ?_;refine ab.call tok rfl rfl rfl rfl cp ?_;refine qU 5 rfl ?_;refine qI ?_;refine AW.draw aN 9 (by kernel_rfl) ?_;refine qP 2 rfl ?_;refine ae.div tok rfl rfl rfl rfl rfl (by decide) ?_;rw[fq _ (by omega),← hn];refine ae.eS tok (a:=a) (a.take n) rfl rfl rfl rfl rfl trivial (Int.natCast_nonneg n) (Nat.zero_le _) (show n≤a.length by omega) rfl ?_;refine qP 2 rfl ?_;refine ae.div tok rfl rfl rfl rfl rfl (by decide) ?_;rw[fq _ (by omega),← hn];refine ae.eS tok (a:=a) (a.drop n) rfl rfl rfl rfl rfl (Int.natCast_nonneg n) trivial (show n≤a.length by omega) (Nat.le_refl _) (by show (a.take a.length).drop n=_;rw[List.take_length]) ?_;refine qP 1 rfl ?_;refine ae.nil ?_;refine qU 1 rfl ?_;refine qI ?_;refine AW.draw aN 18 (by kernel_rfl) ?_;refine qP 3 rfl ?_;refine ae.call tok rfl rfl rfl rfl rfl c1 ?_;refine qP 4 rfl ?_;refine ae.call tok rfl rfl rfl rfl rfl c2 ?_;refine qP 4 rfl ?_;rw[aC (x:=((j+1:Nat):Int) -1) (by omega) (by omega),show ((j+1:Nat):Int) -1=(j:Int) by omega];refine ae.idx tok (af (rt.getD j [])) rfl rfl rfl rfl rfl (Int.natCast_nonneg j) (hxs j (by omega)) ?_;refine qP 1 rfl ?_;refine ae.call tok rfl rfl rfl rfl rfl c3 ?_;refine ae.call tok rfl rfl rfl rfl rfl c4 ?_;refine ae.call tok rfl rfl rfl rfl rfl c5 ?_;refine ae.nil ?_;refine qU 1 rfl ?_;exact qN rfl
theorem sM{R:NQ→Int}{N:NQ→NQ}{rt:List NQ}{a:NQ}(hR: ∀b,sy (R b)):sy (lA R N rt a):=by
 unfold lA;split
 · exact .inl rfl
 split
 · exact eI _
 split
 · exact hR _
 split
 · exact jm (hR _) (hR _)
 · exact jm (hR _) (hR _)
theorem qm: ∀(l:Nat) (rt:List NQ) (a:NQ),sy (nL l rt a)
 | 0,rt,a=>sM (fun _=> .inl rfl)
 | l+1,rt,a=>sM (fun b=>qm l rt b)
set_option maxHeartbeats 1600000 in
theorem ql{l k:Nat}{R:NQ→Int}{N:NQ→NQ}{rt:List NQ}{xs:List D}{a:NQ}(ha:ao l a)(hl5:l≤5)(hrt:b9 rt)(hl:l≤rt.length)(hxs: ∀j,j<rt.length→xs[j]?=some (af (rt.getD j [])))(sa:ar k a)(sr:dN k rt)(hok:ny l k)
  (hR: ∀l',l=l'+1→ ∀b m,ao l' b→ar m b→k≤m→ny l' m→Pure Tryz.prog 100 [.ag [.sl 1 xs],af b] (dI (R b))) (hT: ∀b,sy (R b))
  (hN: ∀l',l=l'+1→ ∀b j,j≤l'→b.length=2^(j+1)→ar k b→Pure Tryz.prog 138 [.ag [.sl 1 xs],af b,dI b.length] (af (N b))∧ao l' (N b)∧ar (sT l k) (N b)):
  Pure Tryz.prog 100 [.ag [.sl 1 xs],af a] (dI (lA R N rt (aq a))):=by
 refine qJ 70 Tryz.func100 rfl rfl rfl rfl (by kernel_rfl) (fun B F0 w0=>?_);have hk:=tX hok;have cs:=jr a ha hl5;obtain ⟨ha,sa⟩:=aU ha sa;generalize aq a=b at cs ha sa ⊢;have hlb:=ha.len (by omega);unfold lA;refine qX 2 rfl ?_;refine qK 1 rfl ?_;refine ab.call tok rfl rfl rfl rfl cs ?_;refine qU 1 rfl ?_;refine qI ?_;refine qX 2 rfl ?_;rw[List.length_map];refine qU 1 rfl ?_;refine ab.nil ?_;by_cases h0:b.length=0
 · rw[if_pos h0,h0];refine AW.aH rfl ?_;refine qX 1 rfl ?_;exact qN rfl
 rw[if_neg h0,beq_eq_false_iff_ne.2 (show (b.length:Int)≠0 by omega)];refine AW.aB rfl ?_;refine AW.skip ?_;refine qX 2 rfl ?_;rw[List.length_map];refine qU 1 rfl ?_;refine qI ?_;refine qX 2 rfl ?_;refine ab.nil ?_;by_cases h1:b.length=1
 · have g:=jR (r:=b) (i:=0) (by omega);have cq:=vq (Qr (b.getD 0 0)) (iK _ (sa 0)) (by omega);rw[cy,x6] at cq;rw[if_pos h1,h1];refine AW.aH rfl ?_;refine qX 1 rfl ?_;refine ab.idx tok (Qr (b.getD 0 0)).D rfl rfl rfl rfl (Int.le_refl _) g ?_;refine qU 1 rfl ?_;refine ab.call tok rfl rfl rfl rfl cq ?_;refine qU 1 rfl ?_;exact qN rfl
 rw[if_neg h1,beq_eq_false_iff_ne.2 (show (b.length:Int)≠1 by omega)];refine AW.aB rfl ?_;refine AW.skip ?_
 obtain ⟨i,hi,hla2⟩: ∃i,i≤l∧b.length=2^i:=by
  rcases ha with e | e
  · omega
  · exact e
 have vU:i≠0:=fun e=>h1 (by rw[hla2,e]);obtain ⟨j,rfl⟩: ∃j,i=j+1:=⟨i-1,by omega⟩;obtain ⟨l',rfl⟩: ∃l',l=l'+1:=⟨l-1,by omega⟩;have hj:j≤l':=by omega
 have hN:=hN l' rfl b j hj hla2 sa;have hR:=fun b m h1 h2 h3 h4=>hR l' rfl b m h1 h2 h3 h4;obtain ⟨e1,e2,e3⟩:=bf hla2;have hx:ao l' (b.take (b.length / 2)):= .inr ⟨j,hj,e1⟩;have hy:ao l' (b.drop (b.length / 2)):= .inr ⟨j,hj,e2⟩;have hlog:b.length.log2-1=j:=by rw[hla2,Nat.log2_two_pow];omega
 have hd:ao l' (rt.getD j []):= .inr ⟨j,hj,hrt j (by omega)⟩;have hk2:=bt (l'+1) k;have r1:=hR _ k hx (sa.take _) (Nat.le_refl _) (gR hok);have r2:=hR _ k hy (sa.drop _) (Nat.le_refl _) (gR hok);have r3:=hR _ k hd (sr j) (Nat.le_refl _) (gR hok);have r4:=hR _ _ hN.2.1 hN.2.2 (by omega) hok.2;have t1:=hT (b.take (b.length / 2));have t2:=jm (hT (b.drop (b.length / 2))) (hT (rt.getD j []));have t4:=jm t1 (hT (N b));have cn:=hN.1;have cp:=ef hla2 (by omega);rw[hlog];obtain ⟨n,hn⟩: ∃n,n=b.length / 2:=⟨_,rfl⟩;rw[← hn] at e1 e2 e3 hx hy r1 r2 t1 t2 t4 ⊢;generalize R (b.take n)=x at r1 t1 t4 ⊢;generalize R (b.drop n)=y at r2 t2 ⊢;generalize R (rt.getD j [])=z at r3 t2 ⊢;generalize R (N b)=u at r4 t4 ⊢;refine qX 1 rfl ?_;refine ab.call tok rfl rfl rfl rfl cp ?_;refine qU 5 rfl ?_;refine qK 4 rfl ?_;rw[aC (x:=((j+1:Nat):Int) -1) (by omega) (by omega),show ((j+1:Nat):Int) -1=(j:Int) by omega];refine ab.idx tok (af (rt.getD j [])) rfl rfl rfl rfl (Int.natCast_nonneg j) (hxs j (by omega)) ?_;refine qU 2 rfl ?_;refine qI ?_;refine AW.draw aN 17 (by kernel_rfl) ?_;refine qP 3 rfl ?_;refine ae.div tok rfl rfl rfl rfl rfl (by decide) ?_;rw[fq _ (by omega),← hn];refine ae.eS tok (a:=b) (b.take n) rfl rfl rfl rfl rfl trivial (Int.natCast_nonneg n) (Nat.zero_le _) (show n≤b.length by omega) rfl ?_;refine ae.call tok rfl rfl rfl rfl rfl r1 ?_;refine qP 3 rfl ?_;refine ae.div tok rfl rfl rfl rfl rfl (by decide) ?_;rw[fq _ (by omega),← hn];refine ae.eS tok (a:=b) (b.drop n) rfl rfl rfl rfl rfl (Int.natCast_nonneg n) trivial (show n≤b.length by omega) (Nat.le_refl _) (by show (b.take b.length).drop n=_;rw[List.take_length]) ?_;refine ae.call tok rfl rfl rfl rfl rfl r2 ?_;refine qP 2 rfl ?_;refine ae.call tok rfl rfl rfl rfl rfl r3 ?_;refine qP 1 rfl ?_;rw[aC (x:=y*z) (by unfold sy at t2;omega) (by unfold sy at t2;omega)];refine qP 1 rfl ?_;refine ae.nil ?_;refine qU 1 rfl ?_;refine ab.nil ?_;refine AW.cO [1,2,5,9,10] ?_;show AW _ _ _ _ _ _ _ [(1,.d (af b)),(2,.bx [.sl 1 xs]),(5,.d (dI b.length)),(9,.d (.v (.int .i64 x))),(10,.d (.v (.int .i64 (y*z))))];generalize y*z=yz at t2 ⊢;refine AW.seq ?_;refine qX 3 rfl ?_;by_cases hxy:x=yz
 · have hor:x=yz∨yz=0:= .inl hxy;rw[if_pos hor,beq_iff_eq.2 hxy];refine qU 4 rfl ?_;refine ab.nil ?_;refine AW.aH rfl ?_;refine qX 2 rfl ?_;exact qN rfl
 rw[beq_eq_false_iff_ne.2 hxy];refine qU 3 rfl ?_;by_cases hy0:yz=0
 · have hor:x=yz∨yz=0:= .inr hy0;rw[if_pos hor,beq_iff_eq.2 hy0];refine qU 1 rfl ?_;refine ab.nil ?_;refine AW.aH rfl ?_;refine qX 2 rfl ?_;exact qN rfl
 have hor: ¬(x=yz∨yz=0):=fun h=>h.elim hxy hy0;rw[if_neg hor,beq_eq_false_iff_ne.2 hy0];refine qU 1 rfl ?_;refine ab.nil ?_;refine AW.aB rfl ?_;refine AW.skip (AW.seq ?_);refine qX 2 rfl ?_;refine ab.nil ?_;by_cases hx0:x=0
 · rw[if_pos hx0,beq_iff_eq.2 hx0];refine AW.aH rfl ?_;refine qX 2 rfl ?_;exact qN rfl
 rw[if_neg hx0,beq_eq_false_iff_ne.2 hx0];refine AW.aB rfl ?_;refine AW.skip (AW.seq ?_);refine AW.draw aN 8 (by kernel_rfl) ?_;refine qP 5 rfl ?_;refine ae.call tok rfl rfl rfl rfl rfl cn ?_;refine ae.call tok rfl rfl rfl rfl rfl r4 ?_;refine qP 1 rfl ?_;rw[aC (x:=x*u) (by unfold sy at t4;omega) (by unfold sy at t4;omega)];refine ae.nil ?_;refine qU 1 rfl ?_;exact qN rfl
theorem oM: ∀(l:Nat) {k:Nat} {rt:List NQ} {xs:List D} {a:NQ},ao l a→l≤5→b9 rt→l≤rt.length→(∀j,j<rt.length→xs[j]?=some (af (rt.getD j [])))→ar k a→dN k rt→ny l k→Pure Tryz.prog 100 [.ag [.sl 1 xs],af a] (dI (nL l rt a))
 | 0,k,rt,xs,a,ha,hl5,hrt,hl,hxs,sa,sr,hok=>ql ha hl5 hrt hl hxs sa sr hok (fun l' h=>by omega) (fun _=> .inl rfl) (fun l' h=>by omega)
 | l+1,k,rt,xs,a,ha,hl5,hrt,hl,hxs,sa,sr,hok=>ql ha hl5 hrt hl hxs sa sr hok (fun l' e b m h1 h2 h3 h4=>by
    obtain rfl:l=l':=by omega
    exact oM l h1 (by omega) hrt (by omega) hxs h2 (sr.mono h3) h4) (qm l rt) (fun l' e b j h1 h2 h3=>by
    obtain rfl:l=l':=by omega
    exact⟨vn h1 h2 hrt (by omega) (by omega) hxs h3 sr hok.1,Ac h1 h2 hrt (by omega) h3 sr⟩)
end Lift
namespace Lift
open Go Go.Proofs
theorem DI{v:List NQ}(ro:b9 v)(ps: ∀k,k<v.length→ ¬dc k (v.take k) (v.getD k [])<0):o8 v:=fun j hj=>by
 have h:=ps j hj
 have e: ∀i,i<j→(v.take j).getD i []=v.getD i []:=fun i hi=>by
  rw[List.getD_eq_getElem?_getD,List.getElem?_take_of_lt hi,List.getD_eq_getElem?_getD]
 have ro2:b9 (v.take j):=fun i hi=>by
  rw[List.length_take] at hi;rw[e i (by omega)];exact ro i (by omega)
 have lt:ao j (v.getD j []):= .inr ⟨j,Nat.le_refl _,ro j hj⟩;rw[eW j lt ro2 (by rw[List.length_take];omega)] at h
 have key: ∀(l:Nat) (a:Cf),l≤j→aT (v.take j) l a=aT v l a∧ ∀b:Cf,mulC (v.take j) l a b=mulC v l a b:=by
  intro l
  induction l with
  | zero=>exact fun a _=>⟨rfl,fun b=>rfl⟩
  | succ l ih =>
    intro a hl;have hm: ∀x y:Cf,mulC (v.take j) l x y=mulC v l x y:=fun x y=>(ih x (by omega)).2 y;have hs: ∀x:Cf,aT (v.take j) l x=aT v l x:=fun x=>(ih x (by omega)).1;refine⟨?_,fun b=>?_⟩
    · unfold aT bF;simp only[hm,hs,e l (by omega)]
    · funext i;show (if i<2^l then mulC (v.take j) l a b i+mulC (v.take j) l (mulC (v.take j) l (br l a) (br l b)) (cf ((v.take j).getD l [])) i else mulC (v.take j) l a (br l b) (i-2^l)+mulC (v.take j) l (br l a) b (i-2^l))=_;simp only[hm,e l (by omega)];rfl
 rw[(key j _ (Nat.le_refl _)).1] at h;omega
theorem Al{rt:List (List RD)}{i:Nat}(hi:i≤rt.length)(h: ∀j,j<i→rM rt j=0):o8 ((rt.take i).map bh):=DI (jk hi h) (fun k hk=>by
 rw[ed hi] at hk;have h1:=(fx (h k hk)).2.2;rw[mr hk,← List.map_take,List.take_take,Nat.min_eq_left (by omega)]
 exact h1)
theorem zW{rt:List (List RD)}{i:Nat}(hi:i≤rt.length)(h: ∀j,j<i→rM rt j=0){a:NQ}(ha:ao i a):nL i ((rt.take i).map bh) a=dc i ((rt.take i).map bh) a:=by
 rw[j8 i ha (jk hi h) (Al hi h) (by rw[ed hi];exact Nat.le_refl _),eW i ha (jk hi h) (by rw[ed hi];exact Nat.le_refl _)]
theorem Ab{rt:List (List RD)}{k m:Nat}(hw: ∀i,i<k→wN m (rt.getD i []))(hk:k≤rt.length)(h: ∀j,j<k→iz (rt.getD j [])=true): ∀j,j<((rt.take k).map bh).length→(rt.map dw)[j]?=some (af (((rt.take k).map bh).getD j [])):=fun j hj=>by
 rw[ed hk] at hj;have hj2:j<rt.length:=by omega
 rw[mr hj,← iV (hw j hj) (h j hj)];simp[hj2]
theorem tN(rt:List (List RD)){m:Nat}(hw: ∀i,i<rt.length→(rt.getD i []).length=2^i→wN m (rt.getD i []))(h1:1≤m)(hl:rt.length≤1000000)(hll: ∀i,i<rt.length→(rt.getD i []).length≤4398046511104)(hok:rt.length≤5→ny rt.length m):Pure Tryz.prog 56 [TrD rt] (dI (cX rt)):=by
 refine qJ 34 Tryz.func56 rfl rfl rfl rfl (by kernel_rfl) (fun B F0 w0=>?_);unfold cX;obtain ⟨E,hE⟩: ∃E,fE (rM rt) (rt.length-0) 0=E:=⟨_,rfl⟩;rw[hE];refine qX 2 rfl ?_;refine qI ?_;refine qX 3 rfl ?_;rw[List.length_map];refine qU 1 rfl ?_;refine ab.nil ?_;by_cases h5:5<rt.length
 · rw[if_pos h5,decide_eq_true (show (5:Int)<(rt.length:Int) by omega)];refine AW.aH rfl ?_;refine qX 1 rfl ?_;exact qN rfl
 rw[if_neg h5,decide_eq_false (show ¬(5:Int)<(rt.length:Int) by omega)];have hok:=hok (by omega);have hm7:=tX hok;refine AW.aB rfl ?_;refine AW.skip (AW.seq ?_);refine qX 3 rfl ?_;rw[List.length_map];refine qU 1 rfl ?_;refine ab.nil ?_;refine AW.block ?_;refine AW.aE [1,11,12,13] (fun i:Nat=>[(1,.bx [.sl 1 (rt.map dw)]),(11,.d (.sl 1 (rt.map dw))),(12,.d (dI rt.length)),(13,.d (dI i))]) (fun i=>i≤rt.length∧fE (rM rt) (rt.length-i) i=E∧ ∀j,j<i→rM rt j=0) (fun i=>rt.length-i) 0 rfl ⟨Nat.zero_le _,hE,fun j hj=>by omega⟩ (fun i ⟨hi,hiE,hall⟩=>?_);refine qX 1 rfl ?_;refine qI ?_;refine AW.cond rfl (fun h=>?_) (fun h=>?_);rotate_left
 · have hii: ¬i<rt.length:=by have:=of_decide_eq_false h;omega
   rw[jz hii] at hiE;subst hiE;refine AW.exit ?_;refine qX 1 rfl ?_;exact qN rfl
 have hii:i<rt.length:=by have:=of_decide_eq_true h;omega
 have hg:(rt.map dw)[i]?=some (dw (rt.getD i [])):=by simp[hii]
 have hwi:=hw i hii;have hli:=hll i hii;have hmiss:=fun h0:rM rt i=0=>(gx hii h0).symm.trans hiE;have hhit:=fun h0:rM rt i≠0=>(jy hii h0).symm.trans hiE;have hp:2^i≤2^5:=Nat.pow_le_pow_right (by decide) (by omega);have hrt:rM rt i=if (rt.getD i []).length≠2^i then 10 else if bQ i (rt.getD i [])≠0 then bQ i (rt.getD i []) else if dc i ((rt.take i).map bh) (bh (rt.getD i []))<0 then 3 else 0:=rfl
 refine AW.skip (AW.seq (AW.block ?_));refine qX 1 rfl ?_;refine ab.idx tok (dw (rt.getD i [])) rfl rfl rfl rfl (Int.natCast_nonneg i) hg ?_;refine qU 3 rfl ?_;refine qI ?_;refine qX 2 rfl ?_;rw[List.length_map];refine qU 2 rfl ?_;rw[uY (by omega)];refine qU 1 rfl ?_;refine ab.nil ?_;by_cases e1:(rt.getD i []).length=2^i;rotate_left
 · rw[if_pos e1] at hrt;rw[bne_iff_ne.2 (show (((rt.getD i []).length:Nat):Int)≠((2^i:Nat):Int) by omega)];have:=hhit (by rw[hrt];decide);rw[hrt] at this;subst this;refine AW.aH rfl ?_;refine qX 1 rfl ?_;exact qN rfl
 rw[if_neg (fun h=>h e1)] at hrt;have hwi:=hwi e1;have cn:=lE i (rt.getD i []) (by omega) (fun _=>hwi) (by omega) hli;rw[e1,bne_eq_false_iff_eq.2 rfl];refine AW.aB rfl ?_;refine AW.skip (AW.seq ?_);refine qX 2 rfl ?_;refine ab.call tok rfl rfl rfl rfl cn ?_;refine qU 1 rfl ?_;refine qK 2 rfl ?_;refine ab.nil ?_;by_cases e2:bQ i (rt.getD i [])=0;rotate_left
 · rw[if_pos e2] at hrt;have:=hhit (by rw[hrt];exact e2);rw[hrt] at this;subst this;rw[bne_iff_ne.2 (show ((bQ i (rt.getD i []):Nat):Int)≠0 by omega)];refine AW.aH rfl ?_;refine qX 2 rfl ?_;exact qN rfl
 rw[if_neg (fun h=>h e2)] at hrt;rw[bne_eq_false_iff_eq.2 (show ((bQ i (rt.getD i []):Nat):Int)=0 by omega)];obtain ⟨n1,n2⟩:=mT e2;have hwj:=fun j (hj:j<i)=>hw j (by omega) (fx (hall j hj)).1;have cs:=oM i (k:=m) (rt:=(rt.take i).map bh) (xs:=rt.map dw) n1 (by omega) (jk hi hall) (by rw[ed hi];exact Nat.le_refl _) (Ab hwj hi (fun j hj=>(fx (hall j hj)).2.1)) (j5 hwi h1) (pB hwj h1 hi) (Ap hok hi);have tr:=kR i ((rt.take i).map bh) (bh (rt.getD i []));rw[zW hi hall n1,← iV hwi n2] at cs;generalize dc i ((rt.take i).map bh) (bh (rt.getD i []))=s at cs hrt tr;refine AW.aB rfl ?_;refine AW.skip ?_;refine qX 2 rfl ?_;refine ab.call tok rfl rfl rfl rfl cs ?_;refine qU 1 rfl ?_;refine ab.nil ?_;by_cases e3:s<0
 · rw[if_pos e3] at hrt;rw[decide_eq_true e3];have:=hhit (by rw[hrt];decide);rw[hrt] at this;subst this;refine AW.aH rfl ?_;refine qX 1 rfl ?_;exact qN rfl
 rw[if_neg e3] at hrt;rw[decide_eq_false e3];refine AW.aB rfl ?_;refine AW.skip ?_;refine qT 1 rfl ?_;rw[aC (x:=(i:Int)+1) (by omega) (by omega)];refine qU 1 rfl ?_;refine ab.nil ?_
 exact⟨i+1,rfl,⟨hii,hmiss hrt,fun j hj=>by
  by_cases e:j=i
  · rw[e];exact hrt
  · exact hall j (by omega)⟩,by omega⟩
end Lift
namespace Lift
open Go Go.Proofs
end Lift
namespace Lift
def tT(r:Nat):Nat→Nat→Nat
 | 0,s=>s
 | l+1,s=>tT r l s+tT r l (tT r l s+r)+1
theorem mz{r:Nat}: ∀{l s t:Nat},s≤t→tT r l s≤tT r l t
 | 0,_,_,h=>h
 | l+1,s,t,h=>by
   have h1:=mz (r:=r) (l:=l) h;have h2:=mz (r:=r) (l:=l) (Nat.add_le_add_right h1 r);show _+_+1≤_+_+1;omega
theorem oI(r:Nat): ∀(l s:Nat),s≤tT r l s
 | 0,s=>Nat.le_refl s
 | l+1,s=>by
   have h1:=oI r l s;show s≤tT r l s+_+1;omega
theorem Dw(r l s:Nat):2*s+1≤tT r (l+1) s:=by
 have h1:=oI r l s;have h2:=oI r l (tT r l s+r);show _≤tT r l s+tT r l (tT r l s+r)+1;omega
theorem zM(r s:Nat):tT r 1 s=2*s+r+1:=by
 show s+(s+r)+1=_;omega
theorem gv{v:List NQ}{r:Nat}(hr:dN r v): ∀(l:Nat) {a b:Cf} {k m:Nat},(∀i,LQ (a i)≤k)→(∀i,LQ (b i)≤m)→ ∀i,LQ (mulC v l a b i)≤tT r l (k+m)
 | 0,a,b,k,m,ha,hb,i=>by
   show LQ (if i=0 then a 0*b 0 else 0)≤k+m;split
   · have:=xN (a 0) (b 0);have:=ha 0;have:=hb 0;omega
   · have:=nw;have:=ha 0;have:=xM (a 0);omega
 | l+1,a,b,k,m,ha,hb,i=>by
   have h1:=gv hr l ha hb;have h2:=gv hr l (a:=br l a) (b:=br l b) (fun i=>ha _) (fun i=>hb _);have h3:=gv hr l (a:=a) (b:=br l b) ha (fun i=>hb _);have h4:=gv hr l (a:=br l a) (b:=b) (fun i=>ha _) hb;have h5:=gv hr l (a:=mulC v l (br l a) (br l b)) (b:=cf (v.getD l [])) h2 (fun i=>hr l i);have h6:=oI r l (tT r l (k+m)+r);show LQ (if i<2^l then _ else _)≤tT r l (k+m)+tT r l (tT r l (k+m)+r)+1;split
   · have:=uJ (mulC v l a b i) (mulC v l (mulC v l (br l a) (br l b)) (cf (v.getD l [])) i);have:=h1 i;have:=h5 i;omega
   · have:=uJ (mulC v l a (br l b) (i-2^l)) (mulC v l (br l a) b (i-2^l));have:=h3 (i-2^l);have:=h4 (i-2^l);omega
theorem uU{v:List NQ}{r l k m:Nat}{a b:NQ}(hrt:b9 v)(hr:dN r v)(hl:l≤v.length)(ha:ao l a)(sa:ar k a)(hb:ao l b)(sb:ar m b):ar (tT r l (k+m)) (aR l v a b):=fun i=>by
 show LQ (cf (aR l v a b) i)≤_;rw[(fM l ha hb hrt hl).2];exact gv hr l sa sb i
theorem Cm{v:List NQ}{r l j k:Nat}{a:NQ}(hrt:b9 v)(hr:dN r v)(hj:j≤l)(hl:l<v.length)(ha:a.length=2^(j+1))(sa:ar k a):ar (tT r (l+1) (k+k)) (dY l v a):=fun i=>by
 show LQ (cf (dY l v a) i)≤_;have h2:=pL hj ha hrt hl
 have lowN:cg j (bF v j (cf a)):=fun i hi=>by
  unfold bF;rw[a7 v j _ _ i hi,a7 v j _ _ i hi];exact Rat.sub_self
 obtain ⟨e1,e2,e3⟩:=bf ha;rw[h2.2];have h3:=gv hr j (a:=cf a) (b:=cf a) sa sa i;have h4:=gv hr j (a:=br j (cf a)) (b:=br j (cf a)) (fun i=>sa _) (fun i=>sa _);have h5:=gv hr j (a:=mulC v j (br j (cf a)) (br j (cf a))) (b:=cf (v.getD j [])) h4 (fun i=>hr j i) i
 have h6:LQ (bF v j (cf a) i)≤tT r (j+1) (k+k):=by
  have:=En (mulC v j (cf a) (cf a) i) (mulC v j (mulC v j (br j (cf a)) (br j (cf a))) (cf (v.getD j [])) i);show LQ (_-_)≤tT r j (k+k)+tT r j (tT r j (k+k)+r)+1;omega
 refine Nat.le_trans h6 ?_
 have up: ∀d s,tT r j s≤tT r (j+d) s:=fun d s=>by
  induction d with
  | zero=>exact Nat.le_refl _
  | succ d ih =>
    refine Nat.le_trans ih ?_;show tT r (j+d) s≤tT r (j+d) s+_+1;omega
 obtain ⟨d,rfl⟩: ∃d,l=j+d:=⟨l-j,by omega⟩;have u1:=up d (k+k);have u2:=up d (tT r j (k+k)+r);have u3:=mz (r:=r) (l:=j+d) (Nat.add_le_add_right u1 r);show tT r j (k+k)+tT r j (tT r j (k+k)+r)+1≤tT r (j+d) (k+k)+tT r (j+d) (tT r (j+d) (k+k)+r)+1;omega
def iQ(r:Nat):Nat→Nat→Nat
 | 0,k=>k+1
 | l+1,k=>tT r (l+1) (k+iQ r l (tT r (l+1) (k+k)))
theorem um{r:Nat}: ∀{l s t:Nat},s≤t→iQ r l s≤iQ r l t
 | 0,_,_,h=>Nat.succ_le_succ h
 | l+1,s,t,h=>by
   have h1:=um (r:=r) (l:=l) (mz (r:=r) (l:=l+1) (Nat.add_le_add h h));exact mz (by omega)
theorem AM(r:Nat): ∀(l k:Nat),k<iQ r l k
 | 0,k=>Nat.lt_succ_self k
 | l+1,k=>by
   have h1:=AM r l (tT r (l+1) (k+k));have h2:=oI r (l+1) (k+iQ r l (tT r (l+1) (k+k)));show k<tT r (l+1) _;omega
theorem C1{q:Rat}{k:Nat}(h0:q≠0)(h:LQ q≤k):LQ (1 / q)≤k+1:=by
 have h1:=Eo (r:=1) h0;have h2:=oG;omega
theorem sC(l:Nat)(v:List NQ)(b:NQ):aR l v [] b=[]:=by
 have key: ∀R:NQ→NQ→NQ,hC (ga R v) [] b=[]:=fun R=>by
  unfold hC ga;split
  · rw[if_pos (by simp[a9])]
  · rw[if_pos (by simp[a9])]
 cases l with
 | zero=>exact key _
 | succ l=>exact key _
theorem AK{v:List NQ}{r:Nat}(hrt:b9 v)(hr:dN r v): ∀(l:Nat) {k:Nat} {a:NQ},ao l a→l≤v.length→ar k a→ar (iQ r l k) (iX l v a):=by
 have one: ∀{s:NQ} {l k:Nat},ao l s→yN s→s.length=1→ar k s→ar (k+1) [1 / s.getD 0 0]:=fun {s l k} hs ht h1 sa i=>by
  cases i with
  | zero=>exact C1 (ht.one h1) (sa 0)
  | succ i=>exact kJ (Nat.le_add_left _ _)
 intro l
 induction l with
 | zero =>
   intro k a ha hl sa;have hs:=aU ha sa;have ht:=j4 ha;show ar (k+1) (ku _ _ _ _ (aq a));generalize aq a=s at *;unfold ku;split
   · rename_i h1;exact one hs.1 ht h1 hs.2
   · split
     · exact bA (Nat.le_add_left _ _)
     · exact bA (Nat.le_add_left _ _)
 | succ l ih =>
   intro k a ha hl sa;obtain ⟨hs,sa⟩:=aU ha sa;have ht:=j4 ha;show ar (iQ r (l+1) k) (ku (iX l v) (dc l v) (dY l v) (aR (l+1) v) (aq a));generalize aq a=s at *;have hk:=AM r (l+1) k;unfold ku;by_cases h1:s.length=1
   · rw[if_pos h1];exact(one hs ht h1 sa).mono hk
   rw[if_neg h1];by_cases h0:s.length=0
   · rw[List.length_eq_zero_iff.1 h0]
     have en:dY l v []=[]:=by
      show aK (aR l v [] []) (aM (aR l v (aR l v [] []) (v.getD ((0:Nat).log2-1) [])))=[];rw[sC,sC];rfl
     have es:dc l v []=0:=by cases l<;>rfl
     rw[en,if_pos es];have h3:=ih (bz l) (by omega) (bA (k:=1) (Nat.le_refl _));refine h3.mono ?_;have hk1:=sa.pos;have h5:iQ r l 1≤iQ r l (tT r (l+1) (k+k)):=um (by have:=oI r (l+1) (k+k);omega);have h6:=oI r (l+1) (k+iQ r l (tT r (l+1) (k+k)));show iQ r l 1≤tT r (l+1) _;omega
   obtain ⟨j,hj,hsl⟩: ∃j,j≤l∧s.length=2^(j+1):=by
    rcases hs with e | ⟨i,hi,e⟩
    · exact absurd e h0
    · rcases i with _ | j
      · exact absurd e h1
      · exact⟨j,by omega,e⟩
   obtain ⟨e1,e2,e3⟩:=bf hsl;have hx:ao l (s.take (s.length / 2)):= .inr ⟨j,hj,e1⟩;have hn:=pK hj hsl hrt (show l<v.length by omega);have sn:=Cm hrt hr hj (show l<v.length by omega) hsl sa;split
   · have h3:=ih (hx.plus hx) (by omega) ((sa.take _).plus (sa.take _));refine h3.mono ?_;have h4:=Dw r l (k+k);have h5:iQ r l (k+k+1)≤iQ r l (tT r (l+1) (k+k)):=um (by omega);have h6:=oI r (l+1) (k+iQ r l (tT r (l+1) (k+k)));show iQ r l (k+k+1)≤tT r (l+1) _;omega
   · have h3:=ih hn (by omega) sn
     have hjl:ao (l+1) (cW (s.take (s.length / 2)) (aM (s.drop (s.length / 2))) (s.length / 2)):= .inr ⟨j+1,by omega,by
      rw[dq]
      omega⟩
     exact uU hrt hr hl hjl (((sa.take _).join (sa.drop _).minus _)) ((gd l hn hrt (by omega)).mono (Nat.le_succ l)) h3
end Lift
namespace Lift
open Go Go.Proofs
end Lift
namespace Lift
open Go Go.Proofs
theorem Bb{v:List NQ}(hrt:b9 v)(hp:o8 v){l j:Nat}{s:NQ}(hj:j≤l)(hl:l<v.length)(hsl:s.length=2^(j+1))(h:aT v (l+1) (cf s)≠0)(hN:aT v j (bF v j (cf s))=0):aT v l (cf (aK (s.take (s.length / 2)) (s.take (s.length / 2))))≠0:=by
 obtain ⟨e1,e2,e3⟩:=bf hsl;have ex:ic j (cf (s.take (s.length / 2))) (cf s):=dz _ e3;have ls:cg (j+1) (cf s):=aL (by omega);have lx:cg j (cf (s.take (s.length / 2))):=aL (by omega);obtain ⟨Tj⟩:=Ep hp j (by omega);have hdj:=hp j (by omega)
 let T:=Dt Tj hdj
 rw[bw v ls (by omega)] at h
 have hT:Tj.R.sgn (OR.nr (Tj.of (cf (v.getD j []))) (T.of (cf s)))=aT v j (bF v j (cf s)):=by
  rw[← Tj.sgn]
  congr 1
  show Tj.of (cf s)*Tj.of (cf s) -Tj.of (br j (cf s))*Tj.of (br j (cf s))*Tj.of (cf (v.getD j []))=Tj.of (bF v j (cf s));rw[← Tj.mul,← Tj.mul,← Tj.mul,← Tj.sub];rfl
 have cxx:cf (aK (s.take (s.length / 2)) (s.take (s.length / 2)))=fun i=>cf (s.take (s.length / 2)) i+cf (s.take (s.length / 2)) i:=funext fun i=>dX _ _ i
 have lxx:cg j (cf (aK (s.take (s.length / 2)) (s.take (s.length / 2)))):=by
  rw[cxx];exact fun i hi=>by
   show _+_=(0:Rat);rw[lx i hi];exact Rat.add_zero 0
 have hes:T.R.sgn (T.of (cf s))≠0:=by rw[T.sgn];exact h
 have F:=OR.Bc (R:=Tj.R) (d:=Tj.of (cf (v.getD j []))) (by rw[Tj.sgn];exact hdj) hes (by
  have h5:=hT;rw[hN] at h5;exact h5)
 rw[bw v lxx hj,← Tj.sgn,cxx,Tj.add,Tj.cong _ _ ex];exact F.2
theorem sK{v:List NQ}{l:Nat}{a:NQ}(ha:ao l a)(h:aT v l (cf a)≠0):(aq a).length≠0:=fun e=>by
 have:=bH ha;rw[List.length_eq_zero_iff.1 e] at this;rw[← this] at h;exact h (eH v l)
def EK:Nat→Nat→Prop
 | 0,k=>k≤17300000000000
 | l+1,k=>ny l (sT (l+1) k)∧EK l (sT (l+1) k)∧sT (l+1) k≤17300000000000∧sT (l+1) (iQ k l (sT (l+1) k))≤17300000000000
theorem EK.le: ∀{l k:Nat},EK l k→k≤17300000000000
 | 0,k,h=>h
 | l+1,k,h=>by have:=bt (l+1) k;have:=h.2.2.1;omega
end Lift
namespace Lift
theorem DL{v:List NQ}(hrt:b9 v)(hp:o8 v): ∀(l:Nat) {k:Nat} {a:NQ},ao l a→l≤v.length→ar k a→dN k v→aT v l (cf a)≠0→EK l k→EM l v a:=by
 intro l
 induction l with
 | zero =>
   intro k a ha hl sa sr h hk;exact⟨sa.mono hk.le,sK ha h⟩
 | succ l ih =>
   intro k a ha hl sa sr h hk;obtain ⟨k1,k2,k3,k4⟩:=hk;have h2:=bt (l+1) k
   have h5:2*k+1≤sT (l+1) k:=by
    have:=bt l k;show _≤sT l (sT l k)+sT l k+1;omega
   have h0:=sK ha h;have hc:=bH ha;refine⟨sa.mono (by omega),h0,fun hne=>?_⟩;rw[← hc] at h;obtain ⟨hs,ss⟩:=aU ha sa;generalize aq a=s at *
   obtain ⟨j,hj,hsl⟩: ∃j,j≤l∧s.length=2^(j+1):=by
    rcases hs with e | ⟨i,hi,e⟩
    · exact absurd e h0
    · rcases i with _ | j
      · exact absurd e hne
      · exact⟨j,by omega,e⟩
   obtain ⟨e1,e2,e3⟩:=bf hsl;have hx:ao l (s.take (s.length / 2)):= .inr ⟨j,hj,e1⟩;have hn:=pL hj hsl hrt (show l<v.length by omega);have sn:=(pJ hj hsl hrt (show l<v.length by omega) ss sr).2;have s1:=eW l hn.1 hrt (by omega)
   have lowN:cg j (bF v j (cf s)):=fun i hi=>by
    unfold bF;rw[a7 v j _ _ i hi,a7 v j _ _ i hi];exact Rat.sub_self
   refine⟨Aq hj hsl hrt (by omega) ss sr k3,lX l hn.1 hrt (by omega) sn (sr.mono (by omega)) k1,fun hz=>?_,fun hz=>⟨?_,?_⟩⟩
   · rw[s1,hn.2,bw v lowN hj] at hz;have hd:=Bb hrt hp hj (by omega) hsl h hz;exact ih (hx.plus hx) (by omega) (((ss.take _).plus (ss.take _)).mono (by omega)) (sr.mono (by omega)) hd k2
   · rw[s1] at hz;exact ih hn.1 (by omega) sn (sr.mono (by omega)) hz k2
   · have hjl:ao (l+1) (cW (s.take (s.length / 2)) (aM (s.drop (s.length / 2))) (s.length / 2)):= .inr ⟨j+1,by omega,by
      rw[dq]
      omega⟩
     have hge:=AM k l (sT (l+1) k);exact nR (l+1) hjl ((gd l hn.1 hrt (by omega)).mono (Nat.le_succ l)) hrt hl (((ss.take _).join (ss.drop _).minus _).mono (by omega)) (AK hrt sr l hn.1 (by omega) sn) (sr.mono (by omega)) k4
end Lift
namespace Lift
structure Lo (v:List NQ):Prop where
 V:nA 2 v
 l1:v.length≤1
theorem x9{l:Nat}(h:l≤1)(k:Nat):sT l k≤6*k+1:=by
 rcases l with _ | _ | l
 · show 2*k≤_;omega
 · show 2*(2*k)+2*k+1≤_;omega
 · omega
theorem tW{l k:Nat}(h:l≤1)(hk:k≤400000000000):ny l k:=by
 rcases l with _ | _ | l
 · show k≤_;omega
 · have h1:sT 1 k≤6*k+1:=x9 (Nat.le_refl 1) k;have h2:sT 1 k≤17300000000000:=by omega
   exact⟨h2,h2⟩
 · omega
theorem EA{l:Nat}(h:l≤1)(s:Nat):tT 2 l s≤2*s+3:=by
 rcases l with _ | _ | l
 · show s≤_;omega
 · rw[zM];omega
 · omega
theorem E0{l r k:Nat}(h:l≤1):iQ r l k≤10*k+3*r+5:=by
 rcases l with _ | _ | l
 · show k+1≤_;omega
 · show tT r 1 (k+(tT r 1 (k+k)+1))≤_;rw[zM,zM];omega
 · omega
theorem DK{l k:Nat}(h:l≤1)(hk:k≤400000000000):EK l k:=by
 rcases l with _ | _ | l
 · show k≤_;omega
 · have h1:sT 1 k≤6*k+1:=x9 (Nat.le_refl 1) k;have h2:sT 1 k≤17300000000000:=by omega
   have h3:sT 1 (sT 1 k+1)≤6*(sT 1 k+1)+1:=x9 (Nat.le_refl 1) _;have h4:sT 1 (sT 1 k+1)≤17300000000000:=by omega
   exact⟨h2,h2,h2,h4⟩
 · omega
theorem Lo.add{v:List NQ}(_:Lo v){k m:Nat}{a b:NQ}(ha:ao v.length a)(sa:ar k a)(hb:ao v.length b)(sb:ar m b)(hk:k+m≤400000000000):EO a b∧ao v.length (Bu a b)∧ar (k+m+1) (Bu a b) :=
 ⟨⟨sa.mono (by omega),sb.mono (by omega),(sa.plus sb).mono (by omega)⟩,CW ha sa hb sb⟩
theorem Lo.sub{v:List NQ}(_:Lo v){k m:Nat}{a b:NQ}(ha:ao v.length a)(sa:ar k a)(hb:ao v.length b)(sb:ar m b)(hk:k+m≤400000000000):Ao a b∧ao v.length (pb a b)∧ar (k+m+1) (pb a b) :=
 ⟨⟨sa.mono (by omega),sb.mono (by omega),(sa.plus sb.minus).mono (by omega)⟩,BT ha sa hb sb⟩
section
variable {v:List NQ} (L:Lo v) {k m:Nat} {a b:NQ}
include L
theorem Lo.mul(ha:ao v.length a)(sa:ar k a)(hb:ao v.length b)(sb:ar m b)(hk:k+m≤400000000000):yj v a b∧ao v.length (mW v a b)∧ar (2*(k+m)+3) (mW v a b):=by
 have h1:=x9 L.l1 (k+m);have h2:=EA L.l1 (k+m);have hm:=sa.pos;have hm':=sb.pos;have st:=(uU (m:=m) L.V.ro L.V.sz (Nat.le_refl _) ha sa hb sb).mono h2;have lt:=dE v.length ha hb L.V.ro (Nat.le_refl _);exact⟨⟨sa.mono (by omega),sb.mono (by omega),nR v.length ha hb L.V.ro (Nat.le_refl _) (sa.mono (Nat.le_add_right k m)) (sb.mono (Nat.le_add_left m k)) (L.V.sz.mono (by omega)) (by omega),st.mono (by omega)⟩,aU lt st⟩
theorem Lo.sg(ha:ao v.length a)(sa:ar k a)(hk:k≤200000000000):vz v a:=by
 have:=sa.pos;exact lX v.length ha L.V.ro (Nat.le_refl _) (sa.mono (Nat.le_succ k)) (L.V.sz.mono (by omega)) (tW L.l1 (by omega))
theorem Lo.inv(hb:ao v.length b)(sb:ar m b):ao v.length (iX v.length v b)∧ar (10*m+11) (iX v.length v b) :=
 ⟨gd v.length hb L.V.ro (Nat.le_refl _),(AK L.V.ro L.V.sz v.length hb (Nat.le_refl _) sb).mono (E0 L.l1)⟩
theorem Lo.div(ha:ao v.length a)(sa:ar k a)(hb:ao v.length b)(sb:ar m b)(h0:pc v b≠0)(hk:k+10*m≤200000000000):As v a b∧ao v.length (r6 v a b)∧ar (2*k+20*m+25) (r6 v a b):=by
 have hm:=sb.pos;have hm':=sa.pos;obtain ⟨li,si⟩:=L.inv hb sb;obtain ⟨⟨k1,k2,k3,k4⟩,k5,k6⟩:=L.mul ha sa li si (by omega);have hs:aT v v.length (cf b)≠0:=by rw[← eW v.length hb L.V.ro (Nat.le_refl _)];exact h0
 exact⟨⟨k1,sb.mono (by omega),L.sg hb sb (by omega),h0,DL L.V.ro L.V.pos v.length hb (Nat.le_refl _) (sb.mono (Nat.le_succ m)) (L.V.sz.mono (by omega)) hs (DK L.l1 (by omega)),k3,k4⟩,k5,k6.mono (by omega)⟩
end
def gS(k:Nat):Nat:=110*k+129
def gI(k:Nat):Nat→Nat
 | 0=>k
 | c+1=>gS (gI k c)
theorem iB{k:Nat}: ∀{c d:Nat},c≤d→gI k c≤gI k d:=fun {c d} h=>by
 induction h with
 | refl=>exact Nat.le_refl _
 | step _ ih=>exact Nat.le_trans ih (by show _≤110*_+129;omega)
abbrev k8(k:Nat)(a:bq):Prop:= ∀i j,ar k (bU a i j)
theorem k8.mono{k m:Nat}{a:bq}(h:k8 k a)(hk:k≤m):k8 m a:=fun i j=>(h i j).mono hk
theorem k8.pos{k:Nat}{a:bq}(h:k8 k a):1≤k:=(h 0 0).pos
theorem k8.set{k:Nat}{a:bq}(h:k8 k a){r:List NQ}(hr: ∀j,ar k (r.getD j []))(i:Nat):k8 k (a.set i r):=fun j c=>by
 unfold bU;rw[gf];split
 · exact hr c
 · exact h j c
theorem k8.bR{v:List NQ}{s:gj}{c k:Nat}(h:k8 k s.rows):k8 k (bR v s c):=by
 unfold Lift.bR;split
 · exact h
 · exact(h.set (h _) _).set (h _) _
theorem Lo.step{v:List NQ}(L:Lo v){m N c k:Nat}{s:gj}(R:o7 v m N c s)(hs:k8 k s.rows)(hd:ar k s.det)(hk:gS k≤100000000000):
  jD v s c∧k8 (gS k) (eG v s c).rows∧ar (gS k) (eG v s c).det∧(atR v s c<s.rows.length→k8 (gS k) (eR v s c)∧ar (gS k) (aq (iX v.length v (pR v s c)))):=by
 have hg:gS k=110*k+129:=rfl;have hk1:=hs.pos;have hl:=R.len;obtain ⟨a1,a2,a3,a4⟩:=gY v s c (by have:=R.cm;omega);by_cases h:atR v s c<s.rows.length
 · obtain ⟨b1,b2,b3⟩:=wq R h;obtain ⟨e1,e2,e3⟩:=yC L.V.a R h;have sb:k8 k (bR v s c):=hs.bR
   have hp:pc v (pR v s c)≠0:=by
    have h4:=a4 h
    have:bU (bR v s c) s.cols.length c=bU s.rows (atR v s c) c:=by
     unfold bR bU;split
     · rename_i e;rw[e]
     · unfold BQ;rw[gf,if_pos ⟨rfl,by rw[List.length_set];omega⟩]
    rw[pR,this];exact h4
   have se:k8 (22*k+25) (eR v s c):=by
    unfold eR;refine(sb.mono (by omega)).set (fun j=>?_) _;by_cases hj:j<((bR v s c).getD s.cols.length []).length
    · rw[pI v _ _ hj];exact(L.div (b3 _ j) (sb _ j) (b3 _ _) (sb _ _) hp (by omega)).2.2.mono (by omega)
    · rw[m9 (by rw[pH];omega)];exact bA (by omega)
   have okt: ∀i,xe v ((eR v s c).getD i []) ((eR v s c).getD s.cols.length []) (bU (eR v s c) i c):=fun i j _=>by
    obtain ⟨q1,q2,q3⟩:=L.mul (e3 i c) (se i c) (e3 s.cols.length j) (se s.cols.length j) (by omega);exact⟨q1,(L.sub (e3 i j) (se i j) q2 q3 (by omega)).1⟩
   have sc: ∀i,k8 (gS k) (cU v (eR v s c) s.cols.length c i):=fun i=>by
    induction i with
    | zero=>exact se.mono (by omega)
    | succ i ih =>
      unfold cU;split
      · refine ih.set (fun j=>?_) i;rw[fg v _ _ _ i i (.inl (Nat.le_refl _)),fg v _ _ _ i _ (.inr rfl),uC];by_cases hj:j<((eR v s c).getD i []).length
        · rw[kP v _ _ _ hj];obtain ⟨q1,q2,q3⟩:=L.mul (e3 i c) (se i c) (e3 s.cols.length j) (se s.cols.length j) (by omega);exact(L.sub (e3 i j) (se i j) q2 q3 (by omega)).2.2.mono (by omega)
        · rw[m9 (by rw[kO];omega)];exact bA (by omega)
      · exact ih
   obtain ⟨d1,d2,d3⟩:=L.mul R.det hd (b3 s.cols.length c) (sb _ _) (by omega);refine⟨⟨fun j _ _=>L.sg (R.lt j c) (hs j c) (by omega),fun _=>d1,fun _ j hj=>(L.div (b3 _ j) (sb _ j) (b3 _ _) (sb _ _) hp (by omega)).1,fun _ i _ _=>L.sg (e3 i c) (se i c) (by omega),fun _ i _ _ _=>okt i⟩,?_,?_,fun _=>⟨se.mono (by omega),?_⟩⟩
   · unfold eG;rw[if_pos h];exact sc _
   · unfold eG;rw[if_pos h];exact d3.mono (by omega)
   · obtain ⟨i1,i2⟩:=L.inv (b3 s.cols.length c) (sb _ _);exact(aU i1 i2).2.mono (by omega)
 · refine⟨⟨fun j _ _=>L.sg (R.lt j c) (hs j c) (by omega),fun g=>absurd g h,fun g=>absurd g h,fun g=>absurd g h,fun g=>absurd g h⟩,?_,?_,fun g=>absurd g h⟩
   · unfold eG;rw[if_neg h];exact hs.mono (by omega)
   · unfold eG;rw[if_neg h];exact hd.mono (by omega)
theorem Lo.Ag{v:List NQ}(L:Lo v){a:bq}{N k:Nat}(hr:cG N a)(hl:oF v.length a)(hs:k8 k a): ∀{c:Nat},gI k c≤100000000000→k8 (gI k c) (aV v a c).rows∧ar (gI k c) (aV v a c).det
 | 0,_=>⟨hs,gL (Nat.le_trans oG hs.pos)⟩
 | c+1,h=>by
   have h0:=Nat.le_trans (iB (Nat.le_succ c)) h;obtain ⟨h1,h2⟩:=L.Ag hr hl hs h0;obtain ⟨_,h3,h4,_⟩:=L.step (gO L.V.a hr hl c) h1 h2 h;exact⟨h3,h4⟩
theorem Lo.red{v:List NQ}(L:Lo v){a:bq}{N k n:Nat}(hr:cG N a)(hl:oF v.length a)(hs:k8 k a)(hN:gI k n≤100000000000):
  (∀c,c<n→jD v (aV v a c) c)∧(∀c,c≤n→k8 (gI k n) (aV v a c).rows)∧(∀c,c≤n→ar (gI k n) (aV v a c).det) ∧
  (∀c,c<n→atR v (aV v a c) c<(aV v a c).rows.length→k8 (gI k n) (eR v (aV v a c) c))∧(∀c,c<n→atR v (aV v a c) c<(aV v a c).rows.length→ar (gI k n) (aq (iX v.length v (pR v (aV v a c) c)))):=by
 have g:=fun c (hc:c≤n)=>L.Ag hr hl hs (Nat.le_trans (iB hc) hN);have s:=fun c (hc:c<n)=>L.step (gO L.V.a hr hl c) (g c (by omega)).1 (g c (by omega)).2 (Nat.le_trans (iB (show c+1≤n from hc)) hN);exact⟨fun c hc=>(s c hc).1,fun c hc=>(g c hc).1.mono (iB hc),fun c hc=>(g c hc).2.mono (iB hc),fun c hc h=>((s c hc).2.2.2 h).1.mono (iB (show c+1≤n from hc)),fun c hc h=>((s c hc).2.2.2 h).2.mono (iB (show c+1≤n from hc))⟩
end Lift
namespace Lift
def kC(a:bq)(k:Nat):List NQ:=a.map fun r=>r.getD k []
theorem nk(a:bq)(k:Nat):(kC a k).length=a.length:=List.length_map ..
theorem wi(a:bq)(k i:Nat):(kC a k).getD i []=bU a i k:=yF a k i
section
variable {m0:Nat} {v:List NQ} (V:nA m0 v) {a:bq} (G:rG v a) {b:List NQ} (hb: ∀i,ao v.length (b.getD i []))
include V G hb
end
end Lift
namespace Lift
open Go Go.Proofs
abbrev rF(l:List Nat):D:= .sl 1 (l.map (fun c:Nat=>dI c))
theorem vX{l:List Nat}{i:Nat}(h:i<l.length):(l.map (fun c:Nat=>dI c))[i]?=some (dI (l.getD i 0)):=by simp[h]
def BH(l:List Nat)(x:Nat)(i:Nat):Bool:=decide ((x:Int)=(l.getD i 0:Nat))
def Fo(l:List Nat)(x:Nat):Int:=if gw (BH l x) (l.length-0) 0<l.length then (gw (BH l x) (l.length-0) 0:Nat) else -1
theorem Cw(l:List Nat)(x:Nat):decide (0≤Fo l x)=l.contains x:=by
 obtain ⟨h1,h2,h3,h4⟩:=ot (g:=BH l x) (m:=l.length-0) (i:=0);unfold Fo;by_cases h:gw (BH l x) (l.length-0) 0<l.length
 · rw[if_pos h,decide_eq_true (Int.natCast_nonneg _)];have:=h4 (by omega)
   have e:x=l.getD (gw (BH l x) (l.length-0) 0) 0:=by
    have:=of_decide_eq_true this;omega
   rw[e,List.getD_eq_getElem?_getD,List.getElem?_eq_getElem h];exact(List.contains_iff_mem.2 (List.getElem_mem h)).symm
 · rw[if_neg h,decide_eq_false (by decide)];refine(Bool.eq_false_iff.2 fun hc=>?_).symm;have hm:=List.contains_iff_mem.1 hc;obtain ⟨j,hj,e⟩:=List.getElem_of_mem hm;have:=h3 j (Nat.zero_le _) (by omega);unfold BH at this;rw[List.getD_eq_getElem?_getD,List.getElem?_eq_getElem hj] at this;have:=of_decide_eq_false this;exact this (by show (x:Int)=((l[j]:Nat):Int);rw[e])
theorem nH(bs:List Nat)(hl:bs.length≤1000000000000000)(x:Nat):Pure Tryz.prog 93 [rF bs,dI x] (dI (Fo bs x)):=by
 refine qJ 19 Tryz.func93 rfl rfl rfl rfl (by kernel_rfl) (fun B F0 w0=>?_);unfold Fo;generalize hE:gw (BH bs x) (bs.length-0) 0=E;refine qX 1 rfl ?_;refine qI ?_;refine qX 3 rfl ?_;rw[List.length_map];refine ab.nil ?_;refine AW.block ?_;refine AW.aE [0,1,7,8] (fun i:Nat=>[(0,.d (rF bs)),(1,.d (dI x)),(7,.d (dI bs.length)),(8,.d (dI i))]) (fun i=>i≤bs.length∧gw (BH bs x) (bs.length-i) i=E) (fun i=>bs.length-i) 0 rfl ⟨Nat.zero_le _,hE⟩ (fun i hi=>?_);obtain ⟨hi,hE⟩:=hi
 · skip
   refine qX 1 rfl ?_;refine qI ?_;refine AW.cond rfl (fun h=>?_) (fun h=>?_)
   · have hin:i<bs.length:=by have:=of_decide_eq_true h;omega
     have hhit:=vY (g:=BH bs x) hin;have hmiss:=sY (g:=BH bs x) hin;refine AW.skip (AW.seq (AW.block ?_));refine qX 2 rfl ?_;refine qK 3 rfl ?_;refine ab.idx tok (dI (bs.getD i 0)) rfl rfl rfl rfl (Int.natCast_nonneg i) (vX hin) ?_;refine qU 2 rfl ?_;refine ab.nil ?_;refine AW.cond rfl (fun h=>?_) (fun h=>?_)
     · have e:E=i:=hE.symm.trans (hhit h);rw[e,if_pos hin];refine qX 2 rfl ?_;exact qN rfl
     · skip
       refine AW.skip ?_;refine qT 1 rfl ?_;rw[aC (x:=(i:Int)+1) (by omega) (by omega)];refine qU 1 rfl ?_;refine ab.nil ?_;exact⟨i+1,rfl,⟨hin,by rw[← hmiss h];exact hE⟩,by omega⟩
   have hin: ¬i<bs.length:=by have:=of_decide_eq_false h;omega
   have e:E=i:=by rw[← hE,vZ hin]
   rw[e,if_neg hin];refine AW.exit ?_;refine qX 1 rfl ?_;exact qN rfl
theorem gk(bs:List Nat)(hl:bs.length≤1000000000000000)(x:Nat):Pure Tryz.prog 50 [rF bs,dI x] (dB (bs.contains x)):=by
 refine qJ 9 Tryz.func50 rfl rfl rfl rfl (by kernel_rfl) (fun B F0 w0=>?_);rw[← Cw];refine qX 1 rfl ?_;refine qK 2 rfl ?_;refine ab.call tok rfl rfl rfl rfl (nH bs hl x) ?_;refine qU 2 rfl ?_;exact qN rfl
theorem qg{α:Type}{d:α}{l:List α}{i:Nat}(h:i<l.length):l.take (i+1)=l.take i++[l.getD i d]:=by
 rw[List.take_succ_eq_append_getElem h,List.getD_eq_getElem?_getD,List.getElem?_eq_getElem h];rfl
theorem n0(a:bq)(k:Nat)(ha:a.length≤1000000)(hr: ∀i,i<a.length→k<(a.getD i []).length):Pure Tryz.prog 59 [ek a,dI k] (fi (kC a k)):=by
 refine qJ 23 Tryz.func59 rfl rfl rfl rfl (by kernel_rfl) (fun B F0 w0=>?_);have hc:=nk a k
 have hts: ∀i,i<a.length→(kC a k).take (i+1)=(kC a k).take i++[(a.getD i []).getD k []]:=fun i hi=>by
  rw[qg (d:=[]) (by omega),wi];rfl
 have hta:(kC a k).take a.length=kC a k:=List.take_of_length_le (by omega);generalize kC a k=zs at *;refine qX 1 rfl ?_;refine qK 1 rfl ?_;refine qI ?_;refine qX 3 rfl ?_;rw[List.length_map];refine ab.nil ?_;refine AW.block ?_;refine AW.aE [0,1,5,8,9,10] (fun i:Nat=>[(0,.d (ek a)),(1,.d (dI k)),(5,.ow 53 ((zs.take i).map af)),(8,.d (ek a)),(9,.d (dI a.length)),(10,.d (dI i))]) (fun i=>i≤a.length) (fun i=>a.length-i) 0 rfl (Nat.zero_le _) (fun i hi=>?_)
 · show AW _ _ _ _ _ _ _ [(0,.d (ek a)),(1,.d (dI k)),(5,.ow 53 ((zs.take i).map af)),(8,.d (ek a)),(9,.d (dI a.length)),(10,.d (dI i))];refine qX 1 rfl ?_;refine qI ?_;refine AW.cond rfl (fun h=>?_) (fun h=>?_)
   · have hii:i<a.length:=by have:=of_decide_eq_true h;omega
     have g1:=getM fi (l:=a) (i:=i) hii;have g2:=getM af (l:=a.getD i []) (i:=k) (hr i hii);have hts:=hts i hii;generalize a.getD i []=r at g1 g2 hts;generalize r.getD k []=x at g2 hts;refine AW.skip (AW.seq (AW.block (AW.seq (AW.region ?_))));refine ab.idx tok (fi r) rfl rfl rfl rfl (Int.natCast_nonneg i) g1 ?_;refine qU 2 rfl ?_;refine ab.nil ?_;refine qT 3 rfl ?_;refine ab.idx tok (af x) rfl rfl rfl rfl (Int.natCast_nonneg k) g2 ?_;refine qU 1 rfl ?_;refine ab.fU tok rfl rfl rfl rfl rfl ?_;refine ab.jC tok rfl rfl rfl rfl rfl rfl (by rw[List.length_map,List.length_take];show (_+1)*24≤_;omega) (by rw[List.length_map,List.length_take];show _+1≤_;omega) ?_;refine qU 1 rfl ?_;refine ab.nil ?_;refine qT 1 rfl ?_;rw[aC (x:=(i:Int)+1) (by omega) (by omega)];refine qU 1 rfl ?_;refine ab.nil ?_;exact⟨i+1,by rw[hts,List.map_append];rfl,hii,by omega⟩
   have hii:i=a.length:=by have:=of_decide_eq_false h;omega
   subst hii;rw[hta];refine AW.exit (AW.seq (AW.region ?_));refine ab.fQ tok 5 rfl rfl ?_;refine qU 2 rfl ?_;exact qN rfl
theorem sv(a:bq){k:Nat}(h:k<ay a):(bp a).getD k []=kC a k:=kN a h
theorem nV(a:bq)(ha:a.length≤1000000)(hc:ay a≤1000000)(hr:cG (ay a) a):Pure Tryz.prog 92 [ek a] (ek (bp a)):=by
 refine qJ 18 Tryz.func92 rfl rfl rfl rfl (by kernel_rfl) (fun B F0 w0=>?_);have hz:=dm a
 have hts: ∀k,k<ay a→(bp a).take (k+1)=(bp a).take k++[kC a k]:=fun k hk=>by
  rw[qg (d:=[]) (by omega),sv a hk]
 have hta:(bp a).take (ay a)=bp a:=List.take_of_length_le (by omega);have cc:=fun k (hk:k<ay a)=>n0 a k ha (fun i hi=>by rw[hr i hi];exact hk);generalize bp a=zs at *;refine qX 1 rfl ?_;refine qK 1 rfl ?_;refine qI ?_;refine qX 1 rfl ?_;refine ab.call tok rfl rfl rfl rfl (dy a) ?_;refine qU 1 rfl ?_;refine ab.nil ?_;refine AW.block ?_;refine AW.aE [0,3,6,7] (fun i:Nat=>[(0,.d (ek a)),(3,.ow 22 ((zs.take i).map fi)),(6,.d (dI (ay a))),(7,.d (dI i))]) (fun i=>i≤ay a) (fun i=>ay a-i) 0 rfl (Nat.zero_le _) (fun i hi=>?_)
 · show AW _ _ _ _ _ _ _ [(0,.d (ek a)),(3,.ow 22 ((zs.take i).map fi)),(6,.d (dI (ay a))),(7,.d (dI i))];refine qX 1 rfl ?_;refine qI ?_;refine AW.cond rfl (fun h=>?_) (fun h=>?_)
   · have hii:i<ay a:=by have:=of_decide_eq_true h;omega
     have cc:=cc i hii;have hts:=hts i hii;generalize kC a i=z at cc hts;refine AW.skip (AW.seq (AW.block ?_));refine qX 2 rfl ?_;refine ab.nil ?_;refine qT 3 rfl ?_;refine ab.call tok rfl rfl rfl rfl cc ?_;refine ab.fU tok rfl rfl rfl rfl rfl ?_;refine ab.jC tok rfl rfl rfl rfl rfl rfl (by rw[List.length_map,List.length_take];show (_+1)*24≤_;omega) (by rw[List.length_map,List.length_take];show _+1≤_;omega) ?_;refine qU 1 rfl ?_;refine ab.nil ?_;refine qT 1 rfl ?_;rw[aC (x:=(i:Int)+1) (by omega) (by omega)];refine qU 1 rfl ?_;refine ab.nil ?_;exact⟨i+1,by rw[hts,List.map_append];rfl,hii,by omega⟩
   have hii:i=ay a:=by have:=of_decide_eq_false h;omega
   subst hii;rw[hta];refine AW.exit (AW.seq (AW.region ?_));refine ab.fQ tok 3 rfl rfl ?_;refine qU 2 rfl ?_;exact qN rfl
theorem jQ{v:List NQ}{a:bq}(V:lL v)(G:rG v a)(ok: ∀c,c<a.length→jD v (aV v (bp a) c) c):Pure Tryz.prog 49 [bP v,ek a] (.tu [rF (aV v (bp a) a.length).cols,aj]):=by
 refine qJ 20 Tryz.func49 rfl rfl rfl rfl (by kernel_rfl) (fun B F0 w0=>?_);have hGl:=G.l;have hGc:=G.c;have ct:=nV a (by omega) (by omega) G.r;have cr:=e7 V (most:=a.length) (by rw[dm];omega) (by omega) (Nat.le_refl _) (gK a) (jV G.lt) ok;generalize aV v (bp a) a.length=s at *;generalize bp a=z at *;refine qX 3 rfl ?_;refine qI ?_;refine AW.lK tok aN [(8,true),(1,false),(1,true)] 10 [6] (by kernel_rfl) ⟨rfl,?_⟩;refine qP 2 rfl ?_;refine ae.call tok rfl rfl rfl rfl rfl ct ?_;refine qP 2 rfl ?_;rw[List.length_map];refine ae.call tok rfl rfl rfl rfl rfl cr ?_;refine qP 2 rfl ?_;refine ae.nil ⟨rfl,?_⟩;refine qP 1 rfl ?_;refine ae.nil ⟨rfl,?_⟩;refine qP 1 rfl ?_;refine ae.nil ⟨_,mj.cons (.bx rfl) (mj.nil),?_⟩;refine qU 1 rfl ?_;refine qK 5 rfl ?_;exact qN rfl
theorem lj{m:Nat}{v:List NQ}{a:bq}(V:nA m v)(hk:ny v.length m)(G:rG v a)(hs: ∀i k,ar m (bU a i k))(ok: ∀c,c<a.length→jD v (aV v (bp a) c) c):Pure Tryz.prog 15 [bP v,ek a] (.tu [rF (kc v a),aj]):=by
 refine qJ 41 Tryz.func15 rfl rfl rfl rfl (by kernel_rfl) (fun B F0 w0=>?_);obtain ⟨r1,r2⟩:=G.raw V hs;have cc:=ew (V.s hk) r1;rw[r2,qo,tK] at cc;have hGl:=G.l;have ci:=jQ V.a G ok;have hcl:=(gO V.a (gK a) (jV G.lt) a.length).cl;unfold kc kz;generalize aV v (bp a) a.length=s at *
 have hf: ∀i,((List.range (i+1)).filter fun i=> !s.cols.contains i)=((List.range i).filter fun i=> !s.cols.contains i)++(if s.cols.contains i then [] else [i]):=fun i=>by
  rw[List.range_succ,List.filter_append]
  congr 1
  by_cases h:s.cols.contains i=true
  · rw[if_pos h,List.filter_cons_of_neg (by rw[h];simp)];rfl
  · rw[if_neg h,List.filter_cons_of_pos (by simp only[Bool.not_eq_true] at h;rw[h];rfl)];rfl
 have hfl: ∀i,((List.range i).filter fun i=> !s.cols.contains i).length≤i:=fun i=>Nat.le_trans (List.length_filter_le ..) (by rw[List.length_range];exact Nat.le_refl _);refine qX 3 rfl ?_;refine qI ?_;refine qX 2 rfl ?_;refine ab.call tok rfl rfl rfl rfl cc ?_;refine qU 1 rfl ?_;refine qK 1 rfl ?_;refine ab.err tok rfl rfl rfl rfl rfl ?_;refine ab.nil ?_;refine AW.aB rfl ?_
 · skip
   refine AW.skip ?_;refine qX 2 rfl ?_;refine ab.call tok rfl rfl rfl rfl ci ?_;refine qU 5 rfl ?_;refine qI ?_;refine qX 1 rfl ?_;refine ab.err tok rfl rfl rfl rfl rfl ?_;refine ab.nil ?_;refine AW.aB rfl ?_
   · skip
     refine AW.skip ?_;refine qX 1 rfl ?_;refine qI ?_;refine qX 2 rfl ?_;rw[List.length_map];refine qU 1 rfl ?_;refine ab.nil ?_;refine AW.block ?_;refine AW.aE [7,9,27,28] (fun i:Nat=>[(7,.d (rF s.cols)),(9,.ow 3 (((List.range i).filter fun i=> !s.cols.contains i).map (fun c:Nat=>dI c))),(27,.d (dI a.length)),(28,.d (dI i))]) (fun i=>i≤a.length) (fun i=>a.length-i) 0 rfl (Nat.zero_le _) (fun i hi=>?_)
     · show AW _ _ _ _ _ _ _ [(7,.d (rF s.cols)),(9,.ow 3 (((List.range i).filter fun i=> !s.cols.contains i).map (fun c:Nat=>dI c))),(27,.d (dI a.length)),(28,.d (dI i))];refine qX 1 rfl ?_;refine qI ?_;refine AW.cond rfl (fun h=>?_) (fun h=>?_)
       · have hii:i<a.length:=by have:=of_decide_eq_true h;omega
         have hf:=hf i;have hfl:=hfl i;have ch:=gk s.cols (by omega) i;generalize s.cols.contains i=b at hf ch;refine AW.skip (AW.seq (AW.block ?_));refine qX 2 rfl ?_;refine qK 2 rfl ?_;refine ab.call tok rfl rfl rfl rfl ch ?_;refine qU 1 rfl ?_;refine ab.nil ?_;refine AW.cond rfl (fun h=>?_) (fun h=>?_)
         · rw[show b=false by cases b;rfl;cases h] at hf;refine qT 2 rfl ?_;refine ab.fU tok rfl rfl rfl rfl rfl ?_;refine ab.jC tok rfl rfl rfl rfl rfl rfl (by rw[List.length_map];show (_+1)*8≤_;omega) (by rw[List.length_map];show _+1≤_;omega) ?_;refine qU 1 rfl ?_;refine ab.nil ?_;refine qT 1 rfl ?_;rw[aC (x:=(i:Int)+1) (by omega) (by omega)];refine qU 1 rfl ?_;refine ab.nil ?_;exact⟨i+1,by rw[hf,if_neg (by decide),List.map_append];rfl,hii,by omega⟩
         · rw[show b=true by cases b;cases h;rfl] at hf;refine AW.skip ?_;refine qT 1 rfl ?_;rw[aC (x:=(i:Int)+1) (by omega) (by omega)];refine qU 1 rfl ?_;refine ab.nil ?_;exact⟨i+1,by rw[hf,if_pos rfl,List.append_nil];rfl,hii,by omega⟩
       have hii:i=a.length:=by have:=of_decide_eq_false h;omega
       subst hii;refine AW.exit (AW.seq (AW.region ?_));refine ab.fQ tok 9 rfl rfl ?_;refine qU 3 rfl ?_;exact qN rfl
end Lift
namespace Lift
open Go Go.Proofs
section
variable {P:Program} {T:Ty} {B:Nat} {F0:Nat→Prop} {w0:bS} {n:Nat} {σ:St} {all:Array Oper} {rest:List Oper} {o:Oper} {d:Nat} {K:St→Prop}
theorem ab.DR(hT:bc P T)(z:Nat){e:Nat}{te:TI}{m:Int}(hd:o.dst=some d)(hdn:Nat.ble (d+1) n=true)(hg:au all σ o=true)(hx:Et T σ.get o.op=some (e,te,m))(hz:jj te=true)(hzd:p0 te= .sl 3 [])(hb:te.bytes=24)(hm:m=(z:Int))(h1:z≤1000000)
  (h:ab P B F0 w0 n all rest K ((d,.ow e ((List.replicate z ([]:NQ)).map af))::σ.kill d)):ab P B F0 w0 n all (o::rest) K σ:=by
 subst hm;refine ab.make hT hd hdn hg hx hz (by omega) (by rw[hb];omega) (by omega) ?_;rw[hzd,show List.replicate ((z:Int)).toNat (D.sl 3 [])=(List.replicate z ([]:NQ)).map af by rw[List.map_replicate];rfl];exact h
end
theorem tt:Pure Tryz.prog 87 [(Qr ((1:Int):Rat)).D] (af [1]):=by
 have cone:=jZ (Qr ((1:Int):Rat)) (k:=1) (iK _ (by have:=oG;rw[show ((1:Int):Rat)=1 from rfl];omega)) (by decide) (by decide) (wy _);rw[cy,show Es ((1:Int):Rat)=[1] from rfl] at cone;exact cone
def DT(s:gj)(n:Nat):bq:=((List.range n).filter fun i=> !s.cols.contains i).map fun c=>ph s n c s.cols.length
def vS(s:gj)(n i:Nat):bq:=((List.range i).filter fun i=> !s.cols.contains i).map fun c=>ph s n c s.cols.length
theorem za(s:gj)(n i:Nat):vS s n (i+1)=vS s n i++(if s.cols.contains i then [] else [ph s n i s.cols.length]):=by
 unfold vS;rw[List.range_succ,List.filter_append,List.map_append]
 congr 1
 by_cases h:s.cols.contains i=true
 · rw[if_pos h,List.filter_cons_of_neg (by rw[h];simp)];rfl
 · rw[if_neg h,List.filter_cons_of_pos (by simp only[Bool.not_eq_true] at h;rw[h];rfl)];rfl
theorem AJ(s:gj)(n i:Nat):(vS s n i).length≤i:=by
 unfold vS;rw[List.length_map];exact Nat.le_trans (List.length_filter_le ..) (by rw[List.length_range];exact Nat.le_refl _)
set_option maxHeartbeats 800000 in
theorem nZ{v:List NQ}(V:lL v){rows:bq}{cols:List Nat}{sg:Int}{det:NQ}{n:Nat}(hn:n≤1000000)(hr:cG n rows)(hl:oF v.length rows)(hs: ∀r c,jI (bU rows r c))(hc: ∀r,r<cols.length→cols.getD r 0<n)(hcl:cols.length≤rows.length)(hcn:cols.length≤1000000):
  Pure Tryz.prog 48 [bP v,zu ⟨rows,cols,sg,det⟩,dI n] (.tu [ek (DT ⟨rows,cols,sg,det⟩ n),aj]):=by
 refine qJ 65 Tryz.func48 rfl rfl rfl rfl (by kernel_rfl) (fun B F0 w0=>?_);have hks:=za ⟨rows,cols,sg,det⟩ n;have hkl:=AJ ⟨rows,cols,sg,det⟩ n;have hk0:vS ⟨rows,cols,sg,det⟩ n 0=[]:=rfl;have hv0: ∀c,ph ⟨rows,cols,sg,det⟩ n c 0=(List.replicate n []).set c [1]:=fun c=>rfl;have hvs: ∀c r,ph ⟨rows,cols,sg,det⟩ n c (r+1)=(ph ⟨rows,cols,sg,det⟩ n c r).set (cols.getD r 0) (y7 (bU rows r c)):=fun c r=>rfl;have hvl:=vR ⟨rows,cols,sg,det⟩ n;show AW _ _ _ _ _ _ (Cd _ _ (.tu [ek (vS ⟨rows,cols,sg,det⟩ n n),aj])) _;generalize vS ⟨rows,cols,sg,det⟩ n=kI at *;generalize ph ⟨rows,cols,sg,det⟩ n=kv at *;simp only[] at hks;refine qX 4 rfl ?_;refine qK 1 rfl ?_;refine qI ?_;refine qX 2 rfl ?_;refine ab.nil ?_;refine AW.block ?_;refine AW.aE [2,3,4,8,15,16] (fun c:Nat=>[(2,.d (dI n)),(3,.bx [.sl 1 (v.map af)]),(4,.bx [ek rows,rF cols,dI sg,af det]),(8,.ow 22 ((kI c).map fi)),(15,.d (dI n)),(16,.d (dI c))]) (fun c=>c≤n) (fun c=>n-c) 0 (by rw[hk0];rfl) (Nat.zero_le _) (fun c hcc=>?_)
 · show AW _ _ _ _ _ _ _ [(2,.d (dI n)),(3,.bx [.sl 1 (v.map af)]),(4,.bx [ek rows,rF cols,dI sg,af det]),(8,.ow 22 ((kI c).map fi)),(15,.d (dI n)),(16,.d (dI c))];refine qX 1 rfl ?_;refine qI ?_;refine AW.cond rfl (fun h=>?_) (fun h=>?_)
   · have hcn':c<n:=by have:=of_decide_eq_true h;omega
     have hks:=hks c;have hkl:=hkl c;have ch:=gk cols (by omega) c;generalize cols.contains c=b at hks ch;refine AW.skip (AW.seq (AW.block ?_));refine qX 2 rfl ?_;refine qI ?_;refine qX 3 rfl ?_;refine ab.call tok rfl rfl rfl rfl ch ?_;refine ab.nil ?_;refine AW.cond rfl (fun h=>?_) (fun h=>?_)
     · rw[show b=true from h] at hks;refine AW.exit ?_;refine qT 1 rfl ?_;rw[aC (x:=(c:Int)+1) (by omega) (by omega)];refine qU 1 rfl ?_;refine ab.nil ?_;exact⟨c+1,by rw[hks,if_pos rfl,List.append_nil];rfl,hcn',by omega⟩
     · rw[show b=false from h] at hks;refine AW.skip ?_;refine qX 1 rfl ?_;refine ab.DR tok n rfl rfl rfl rfl rfl rfl rfl rfl (by omega) ?_;refine qU 1 rfl ?_;refine qK 2 rfl ?_;refine ab.call tok rfl rfl rfl rfl (fe 1 (by decide) (by decide)) ?_;refine ab.call tok rfl rfl rfl rfl tt ?_;refine ab.eg tok rfl rfl rfl rfl (Int.natCast_nonneg c) (by rw[List.length_map,List.length_replicate];omega) ?_;refine ab.nG tok [1] rfl rfl rfl (by rw[List.length_replicate];exact hcn') ?_;refine qI ?_;refine qX 3 rfl ?_;rw[List.length_map];refine qU 1 rfl ?_;refine ab.nil ?_;refine AW.block ?_;refine AW.aE [2,3,4,8,9,10,15,16,31,32,33] (fun r:Nat=>[(2,.d (dI n)),(3,.bx [.sl 1 (v.map af)]),(4,.bx [ek rows,rF cols,dI sg,af det]),(8,.ow 22 ((kI c).map fi)),(9,.d (dI c)),(10,.ow 53 ((kv c r).map af)),(15,.d (dI n)),(16,.d (dI c)),(31,.d (rF cols)),(32,.d (dI cols.length)),(33,.d (dI r))]) (fun r=>r≤cols.length) (fun r=>cols.length-r) 0 (by rw[hv0];rfl) (Nat.zero_le _) (fun r hrc=>?_)
       · show AW _ _ _ _ _ _ _ [(2,.d (dI n)),(3,.bx [.sl 1 (v.map af)]),(4,.bx [ek rows,rF cols,dI sg,af det]),(8,.ow 22 ((kI c).map fi)),(9,.d (dI c)),(10,.ow 53 ((kv c r).map af)),(15,.d (dI n)),(16,.d (dI c)),(31,.d (rF cols)),(32,.d (dI cols.length)),(33,.d (dI r))];refine qX 1 rfl ?_;refine qI ?_;refine AW.cond rfl (fun h=>?_) (fun h=>?_)
         · have hrr:r<cols.length:=by have:=of_decide_eq_true h;omega
           have hvs:=hvs c r;have hvl:=hvl c r;have hcr:=hc r hrr;have g0:=vX (l:=cols) (i:=r) hrr;have g1:=getM fi (l:=rows) (i:=r) (by omega);have g2:=getM af (l:=rows.getD r []) (i:=c) (by rw[hr r (by omega)];exact hcn');have cn:=qc V (hl r c) (hs r c);unfold bU at cn hvs;generalize rows.getD r []=row at g1 g2 cn hvs;generalize row.getD c []=x at g2 cn hvs;generalize cols.getD r 0=p at g0 hcr hvs;refine AW.skip (AW.seq (AW.block ?_));refine qX 1 rfl ?_;refine ab.idx tok (dI p) rfl rfl rfl rfl (Int.natCast_nonneg r) g0 ?_;refine qU 3 rfl ?_;refine qI ?_;refine AW.draw aN 14 (by kernel_rfl) ?_;refine qP 4 rfl ?_;refine ae.idx tok (fi row) rfl rfl rfl rfl rfl (Int.natCast_nonneg r) g1 ?_;refine qP 2 rfl ?_;refine ae.idx tok (af x) rfl rfl rfl rfl rfl (Int.natCast_nonneg c) g2 ?_;refine qP 1 rfl ?_;refine ae.call tok rfl rfl rfl rfl rfl cn ?_;refine qP 4 rfl ?_;refine ae.nil ?_;refine qU 1 rfl ?_;refine qI ?_;refine qX 1 rfl ?_;refine ab.err tok rfl rfl rfl rfl rfl ?_;refine ab.nil ?_;refine AW.aB rfl ?_
           · skip
             refine AW.skip ?_;refine qT 3 rfl ?_;refine ab.eg tok rfl rfl rfl rfl (Int.natCast_nonneg p) (by rw[List.length_map,hvl];omega) ?_;refine ab.nG tok (y7 x) rfl rfl rfl (by rw[hvl];exact hcr) ?_;refine ab.nil ?_;refine qT 1 rfl ?_;rw[aC (x:=(r:Int)+1) (by omega) (by omega)];refine qU 1 rfl ?_;refine ab.nil ?_;exact⟨r+1,by rw[hvs];rfl,hrr,by omega⟩
         have hrr:r=cols.length:=by have:=of_decide_eq_false h;omega
         subst hrr;refine AW.exit (AW.region ?_);refine ab.fQ tok 10 rfl rfl ?_;refine qU 2 rfl ?_;refine ab.fU tok rfl rfl rfl rfl rfl ?_;refine ab.jC tok rfl rfl rfl rfl rfl rfl (by rw[List.length_map];show (_+1)*24≤_;omega) (by rw[List.length_map];show _+1≤_;omega) ?_;refine qU 1 rfl ?_;refine ab.nil ?_;refine qT 1 rfl ?_;rw[aC (x:=(c:Int)+1) (by omega) (by omega)];refine qU 1 rfl ?_;refine ab.nil ?_;exact⟨c+1,by rw[hks,if_neg (by decide),List.map_append];rfl,hcn',by omega⟩
   have hcc:c=n:=by have:=of_decide_eq_false h;omega
   subst hcc;refine AW.exit (AW.seq (AW.region ?_));refine ab.fQ tok 8 rfl rfl ?_;refine qU 3 rfl ?_;exact qN rfl
theorem n6{m:Nat}{v:List NQ}{a:bq}(V:nA m v)(hk:ny v.length m)(G:rG v a)(hs: ∀i k,ar m (bU a i k))(ok: ∀c,c<ay a→jD v (aV v a c) c)(hK: ∀i k,jI (bU (eT v a).rows i k)):Pure Tryz.prog 14 [bP v,ek a] (.tu [ek (AI v a),aj]):=by
 refine qJ 33 Tryz.func14 rfl rfl rfl rfl (by kernel_rfl) (fun B F0 w0=>?_);obtain ⟨r1,r2⟩:=G.raw V hs;have cc:=ew (V.s hk) r1;rw[r2,qo,tK] at cc;have hGl:=G.l;have hGc:=G.c;have cr:=e7 V.a (most:=ay a) (by omega) (by omega) (Nat.le_refl _) G.r G.lt ok;have R:=gO V.a G.r G.lt (ay a);have hlt:=tH v a (ay a);change Pure _ _ _ (.tu [zu (eT v a),aj]) at cr;change o7 v a.length (ay a) (ay a) (eT v a) at R;change ∀x∈(eT v a).cols,x<ay a at hlt;show AW _ _ _ _ _ _ (Cd _ _ (.tu [ek (DT (eT v a) (ay a)),aj])) _;generalize eT v a=s at *;obtain ⟨rows,cols,sg,det⟩:=s
 have ck:=nZ V.a (rows:=rows) (cols:=cols) (sg:=sg) (det:=det) (n:=ay a) (by omega) R.rect R.lt hK (fun r hr=>by
  rw[List.getD_eq_getElem?_getD,List.getElem?_eq_getElem hr]
  exact hlt _ (List.getElem_mem hr)) (by have:=R.cm;have:=R.len;simp only[] at *; omega) (by have:=R.cm;simp only[] at *; omega)
 have cols_ok:=dy a;generalize DT ⟨rows,cols,sg,det⟩ (ay a)=K at ck ⊢;clear R;refine qX 3 rfl ?_;refine qI ?_;refine qX 2 rfl ?_;refine ab.call tok rfl rfl rfl rfl cc ?_;refine qU 1 rfl ?_;refine qK 1 rfl ?_;refine ab.err tok rfl rfl rfl rfl rfl ?_;refine ab.nil ?_;refine AW.aB rfl ?_
 · skip
   refine AW.skip (AW.seq ?_);refine AW.lK tok aN [(7,true),(1,false),(1,true)] 9 [7] (by kernel_rfl) ⟨rfl,?_⟩;refine qP 3 rfl ?_;refine ae.call tok rfl rfl rfl rfl rfl cols_ok ?_;refine ae.call tok rfl rfl rfl rfl rfl cr ?_;refine qP 2 rfl ?_;refine ae.nil ⟨rfl,?_⟩;refine qP 1 rfl ?_;refine ae.nil ⟨rfl,?_⟩;refine qP 1 rfl ?_;refine ae.nil ⟨_,mj.cons (.bx rfl) (mj.nil),?_⟩;refine qU 1 rfl ?_;refine qI ?_;refine qX 1 rfl ?_;refine ab.err tok rfl rfl rfl rfl rfl ?_;refine ab.nil ?_;refine AW.aB rfl ?_
   · skip
     refine AW.skip (AW.seq ?_);refine AW.draw aN 7 (by kernel_rfl) ?_;refine qP 3 rfl ?_;refine ae.call tok rfl rfl rfl rfl rfl cols_ok ?_;refine ae.call tok rfl rfl rfl rfl rfl ck ?_;refine qP 2 rfl ?_;refine ae.nil ?_;refine qU 2 rfl ?_;exact qN rfl
end Lift
namespace Lift
open Go Go.Proofs
def xE(v:List NQ)(a:bq):NQ:=if (aV v a a.length).cols.length<a.length then [] else if (aV v a a.length).sg<0 then y7 (aV v a a.length).det else (aV v a a.length).det
theorem rV{v:List NQ}{a:bq}(V:lL v)(ha:a.length≤1000000)(hr:cG a.length a)(hl:oF v.length a)(ok: ∀c,c<a.length→jD v (aV v a c) c)(hd:jI (aV v a a.length).det):Pure Tryz.prog 60 [bP v,ek a] (.tu [af (xE v a),aj]):=by
 refine qJ 38 Tryz.func60 rfl rfl rfl rfl (by kernel_rfl) (fun B F0 w0=>?_);have cr:=e7 V (most:=a.length) ha ha (Nat.le_refl _) hr hl ok;have R:=gO V hr hl a.length;have cn:=qc V R.det hd;have hcm:=R.cm;unfold xE;generalize aV v a a.length=s at *;obtain ⟨rows,cols,sg,det⟩:=s;clear R
 dsimp only at hcm cn ⊢
 change Pure _ _ _ (.tu [.ag [ek rows,rF cols,dI sg,af det],aj]) at cr;refine qX 3 rfl ?_;refine qK 4 rfl ?_;rw[List.length_map];refine ab.call tok rfl rfl rfl rfl cr ?_;refine qU 6 rfl ?_;refine qI ?_;refine qX 1 rfl ?_;refine ab.err tok rfl rfl rfl rfl rfl ?_;refine qU 3 rfl ?_;refine qU 1 rfl ?_;rw[List.length_map];refine qU 2 rfl ?_;rw[List.length_map];refine qU 2 rfl ?_;refine ab.nil ?_;refine AW.cond rfl (fun h=>?_) (fun h=>?_)
 · have hc:cols.length<a.length:=by have:=of_decide_eq_true h;omega
   rw[if_pos hc];refine qX 3 rfl ?_;exact qN rfl
 · have hc: ¬cols.length<a.length:=by have:=of_decide_eq_false h;omega
   rw[if_neg hc];refine AW.skip (AW.seq ?_);refine qX 3 rfl ?_;refine ab.nil ?_;refine AW.cond rfl (fun h=>?_) (fun h=>?_)
   · have hs:sg<0:=of_decide_eq_true h;rw[if_pos hs];refine qX 3 rfl ?_;refine ab.call tok rfl rfl rfl rfl cn ?_;refine qU 4 rfl ?_;exact qN rfl
   · have hs: ¬sg<0:=of_decide_eq_false h;rw[if_neg hs];refine AW.skip ?_;refine qX 4 rfl ?_;exact qN rfl
theorem rW{v:List NQ}{a:bq}(cc:Pure Tryz.prog 20 [bP v,ek a] aj)(hsq:ay a=a.length)(cd:Pure Tryz.prog 60 [bP v,ek a] (.tu [af (xE v a),aj])):Pure Tryz.prog 27 [bP v,ek a] (.tu [af (xE v a),aj]):=by
 refine qJ 24 Tryz.func27 rfl rfl rfl rfl (by kernel_rfl) (fun B F0 w0=>?_);generalize xE v a=d at *;refine qX 3 rfl ?_;refine qI ?_;refine qX 2 rfl ?_;refine ab.call tok rfl rfl rfl rfl cc ?_;refine qU 1 rfl ?_;refine qK 1 rfl ?_;refine ab.err tok rfl rfl rfl rfl rfl ?_;refine ab.nil ?_;refine AW.aB rfl ?_
 · skip
   refine AW.skip (AW.seq ?_);refine qX 1 rfl ?_;refine ab.call tok rfl rfl rfl rfl (dy a) ?_;refine qU 2 rfl ?_;rw[List.length_map];refine qU 1 rfl ?_;rw[hsq,bne_eq_false_iff_eq.2 rfl];refine ab.nil ?_;refine AW.aB rfl ?_
   · skip
     refine AW.skip ?_;refine qX 2 rfl ?_;refine ab.call tok rfl rfl rfl rfl cd ?_;refine qU 4 rfl ?_;exact qN rfl
end Lift
namespace Lift
open Go Go.Proofs
theorem vm{rt b:List (List RD)}(hbl:b.length≤1000000)(hbn: ∀i,Pure Tryz.prog 37 [dI rt.length,dw (b.getD i [])] (dI (bQ rt.length (b.getD i [])))):
  Pure Tryz.prog 70 [TrD rt,kG b] (dI (fE (fun i=>bQ rt.length (b.getD i [])) (b.length-0) 0)):=by
 refine qJ 23 Tryz.func70 rfl rfl rfl rfl (by kernel_rfl) (fun B F0 w0=>?_);obtain ⟨E,hE⟩: ∃E,fE (fun i=>bQ rt.length (b.getD i [])) (b.length-0) 0=E:=⟨_,rfl⟩;rw[hE];refine qX 2 rfl ?_;refine qI ?_;refine qX 2 rfl ?_;rw[List.length_map];refine qU 1 rfl ?_;refine ab.nil ?_;refine AW.block ?_;refine AW.aE [2,8,9,10] (fun i:Nat=>[(2,.bx [.sl 1 (rt.map dw)]),(8,.d (kG b)),(9,.d (dI b.length)),(10,.d (dI i))]) (fun i=>i≤b.length∧fE (fun i=>bQ rt.length (b.getD i [])) (b.length-i) i=E) (fun i=>b.length-i) 0 rfl ⟨Nat.zero_le _,hE⟩ (fun i ⟨hi,hiE⟩=>?_)
 · show AW _ _ _ _ _ _ _ [(2,.bx [.sl 1 (rt.map dw)]),(8,.d (kG b)),(9,.d (dI b.length)),(10,.d (dI i))];refine qX 1 rfl ?_;refine qI ?_;refine AW.cond rfl (fun h=>?_) (fun h=>?_)
   · have hii:i<b.length:=by have:=of_decide_eq_true h;omega
     have g1:=getM dw (l:=b) (i:=i) hii;have cn:=hbn i;have hmiss:=fun h0:bQ rt.length (b.getD i [])=0=>(gx (f:=fun i=>bQ rt.length (b.getD i [])) hii h0).symm.trans hiE;have hhit:=fun h0:bQ rt.length (b.getD i [])≠0=>(jy (f:=fun i=>bQ rt.length (b.getD i [])) hii h0).symm.trans hiE;refine AW.skip (AW.seq (AW.block (AW.seq (AW.region ?_))));refine ab.idx tok (dw (b.getD i [])) rfl rfl rfl rfl (Int.natCast_nonneg i) g1 ?_;refine qU 2 rfl ?_;refine qK 3 rfl ?_;rw[List.length_map];refine qU 1 rfl ?_;refine ab.call tok rfl rfl rfl rfl cn ?_;refine qU 1 rfl ?_;refine qK 2 rfl ?_;refine ab.nil ?_;generalize bQ rt.length (b.getD i [])=e at *;refine AW.cond rfl (fun h=>?_) (fun h=>?_)
     · have he:e≠0:=by have:=bne_iff_ne.1 h;omega
       rw[← hhit he];refine qX 2 rfl ?_;exact qN rfl
     · have he:e=0:=by have:=bne_eq_false_iff_eq.1 h;omega
       refine AW.skip ?_;refine qT 1 rfl ?_;rw[aC (x:=(i:Int)+1) (by omega) (by omega)];refine qU 1 rfl ?_;refine ab.nil ?_;exact⟨i+1,rfl,⟨hii,hmiss he⟩,by omega⟩
   have hii: ¬i<b.length:=by have:=of_decide_eq_false h;omega
   rw[jz hii] at hiE;subst hiE;refine AW.exit ?_;refine qX 1 rfl ?_;exact qN rfl
theorem vd{rt:List (List RD)}(h0:cX rt=0)(r:List (List RD)):iR rt r=fE (fun i=>bQ rt.length (r.getD i [])) (r.length-0) 0:=by
 unfold iR;rw[show (fun k=>px rt [r.getD k []])=fun i=>bQ rt.length (r.getD i []) from funext fun k=>CP h0 _]
theorem tL{rt:List (List RD)}{a:List (List (List RD))}(h0:cX rt=0)(hal:a.length≤1000000)(har: ∀i,(a.getD i []).length≤1000000)(hbn: ∀i k,Pure Tryz.prog 37 [dI rt.length,dw ((a.getD i []).getD k [])] (dI (bQ rt.length ((a.getD i []).getD k [])))):
  Pure Tryz.prog 57 [TrD rt,MxR a] (dI (ug rt a)):=by
 refine qJ 52 Tryz.func57 rfl rfl rfl rfl (by kernel_rfl) (fun B F0 w0=>?_);unfold ug;obtain ⟨E,hE⟩: ∃E,fE (uL a) (a.length-0) 0=E:=⟨_,rfl⟩;obtain ⟨G,hG⟩: ∃G,fE (fun i=>iR rt (a.getD i [])) (a.length-0) 0=G:=⟨_,rfl⟩;rw[hE,hG];have hc0:ay a=(a.getD 0 []).length:=rfl;have hcl:=har 0;refine qX 2 rfl ?_;refine ab.nil ?_;refine AW.cut [1,2] (fun _:Unit=>[(1,.d (MxR a)),(2,.bx [.sl 1 (rt.map dw)])]) (fun _=>(if a.length=0 then 0 else if 32<a.length∨32<ay a then 4 else if E≠0 then E else G)=if E≠0 then E else G) ?_ (fun _ hr=>?_)
 · refine qX 2 rfl ?_;rw[List.length_map];refine qU 1 rfl ?_;by_cases h1:32<a.length
   · rw[decide_eq_true (show (32:Int)<(a.length:Int) by omega),if_neg (show ¬a.length=0 by omega),if_pos (.inl h1)];refine qU 12 rfl ?_;refine ab.nil ?_;refine AW.aH rfl ?_;refine qX 1 rfl ?_;exact qN rfl
   rw[decide_eq_false (show ¬(32:Int)<(a.length:Int) by omega)];refine qU 3 rfl ?_;rw[List.length_map];refine qU 1 rfl ?_;by_cases h0:a.length=0
   · rw[decide_eq_false (show ¬(0:Int)<(a.length:Int) by omega)];refine qU 8 rfl ?_;refine ab.nil ?_;refine AW.aB rfl ?_;refine AW.skip ?_;refine⟨(),rfl,?_⟩;have e1:E=0:=by rw[← hE,h0];rfl
     have e2:G=0:=by rw[← hG,h0];rfl
     rw[if_pos h0,e1,e2,if_neg (by decide)]
   rw[decide_eq_true (show (0:Int)<(a.length:Int) by omega)];have g0:=getM kG (l:=a) (i:=0) (by omega);refine qU 2 rfl ?_;refine ab.idx tok (kG (a.getD 0 [])) rfl rfl rfl rfl (Int.le_refl _) g0 ?_;refine qU 2 rfl ?_;rw[List.length_map];refine qU 1 rfl ?_;by_cases h2:32<ay a
   · rw[decide_eq_true (show (32:Int)<((a.getD 0 []).length:Int) by omega),if_neg h0,if_pos (.inr h2)];refine qU 2 rfl ?_;refine ab.nil ?_;refine AW.aH rfl ?_;refine qX 1 rfl ?_;exact qN rfl
   rw[decide_eq_false (show ¬(32:Int)<((a.getD 0 []).length:Int) by omega)];refine qU 2 rfl ?_;refine ab.nil ?_;refine AW.aB rfl ?_;refine AW.skip ?_;exact⟨(),rfl,by rw[if_neg h0,if_neg (fun g=>g.elim h1 h2)]⟩
 rw[hr]
 · show AW _ _ _ _ _ _ _ [(1,.d (MxR a)),(2,.bx [.sl 1 (rt.map dw)])];refine AW.seq ?_;refine qX 2 rfl ?_;rw[List.length_map];refine qU 1 rfl ?_;refine ab.nil ?_;refine AW.block ?_;refine AW.aE [1,2,25,26,27] (fun i:Nat=>[(1,.d (MxR a)),(2,.bx [.sl 1 (rt.map dw)]),(25,.d (MxR a)),(26,.d (dI a.length)),(27,.d (dI i))]) (fun i=>i≤a.length∧fE (uL a) (a.length-i) i=E) (fun i=>a.length-i) 0 rfl ⟨Nat.zero_le _,hE⟩ (fun i ⟨hi,hiE⟩=>?_)
   · show AW _ _ _ _ _ _ _ [(1,.d (MxR a)),(2,.bx [.sl 1 (rt.map dw)]),(25,.d (MxR a)),(26,.d (dI a.length)),(27,.d (dI i))];refine qX 1 rfl ?_;refine qI ?_;refine AW.cond rfl (fun h=>?_) (fun h=>?_)
     · have hii:i<a.length:=by have:=of_decide_eq_true h;omega
       have hg:=getM kG (l:=a) (i:=i) hii;have g0:=getM kG (l:=a) (i:=0) (by omega);have hri:=har i;have hmiss:=fun h0:uL a i=0=>(gx hii h0).symm.trans hiE;have hhit:=fun h0:uL a i≠0=>(jy hii h0).symm.trans hiE;refine AW.skip (AW.seq (AW.block (AW.seq (AW.region ?_))));refine ab.idx tok (kG (a.getD i [])) rfl rfl rfl rfl (Int.natCast_nonneg i) hg ?_;refine qU 2 rfl ?_;refine qK 2 rfl ?_;rw[List.length_map];refine qU 1 rfl ?_;refine ab.idx tok (kG (a.getD 0 [])) rfl rfl rfl rfl (Int.le_refl _) g0 ?_;refine qU 2 rfl ?_;rw[List.length_map];refine qU 1 rfl ?_;refine ab.nil ?_;refine AW.cond rfl (fun h=>?_) (fun h=>?_)
       · have hne:(a.getD i []).length≠ay a:=by have:=bne_iff_ne.1 h;omega
         have e:uL a i=10:=if_pos hne;have:=hhit (by rw[e];decide);rw[e] at this;subst this;rw[if_pos (by decide)];refine qX 1 rfl ?_;exact qN rfl
       · have heq:(a.getD i []).length=ay a:=by have:=bne_eq_false_iff_eq.1 h;omega
         have e:uL a i=0:=if_neg (fun h=>h heq);refine AW.skip ?_;refine qT 1 rfl ?_;rw[aC (x:=(i:Int)+1) (by omega) (by omega)];refine qU 1 rfl ?_;refine ab.nil ?_;exact⟨i+1,rfl,⟨hii,hmiss e⟩,by omega⟩
     have hii: ¬i<a.length:=by have:=of_decide_eq_false h;omega
     rw[jz hii] at hiE;subst hiE;rw[if_neg (by decide)];refine AW.exit (AW.seq ?_);refine qX 2 rfl ?_;rw[List.length_map];refine qU 1 rfl ?_;refine ab.nil ?_;refine AW.block ?_;refine AW.aE [2,39,40,41] (fun i:Nat=>[(2,.bx [.sl 1 (rt.map dw)]),(39,.d (MxR a)),(40,.d (dI a.length)),(41,.d (dI i))]) (fun i=>i≤a.length∧fE (fun i=>iR rt (a.getD i [])) (a.length-i) i=G) (fun i=>a.length-i) 0 rfl ⟨Nat.zero_le _,hG⟩ (fun i ⟨hi,hiG⟩=>?_)
     · show AW _ _ _ _ _ _ _ [(2,.bx [.sl 1 (rt.map dw)]),(39,.d (MxR a)),(40,.d (dI a.length)),(41,.d (dI i))];refine qX 1 rfl ?_;refine qI ?_;refine AW.cond rfl (fun h=>?_) (fun h=>?_)
       · have hii:i<a.length:=by have:=of_decide_eq_true h;omega
         have hg:=getM kG (l:=a) (i:=i) hii;have cl:=vm (har i) (hbn i);rw[← vd h0] at cl;have hmiss:=fun h0:iR rt (a.getD i [])=0=>(gx (f:=fun i=>iR rt (a.getD i [])) hii h0).symm.trans hiG;have hhit:=fun h0:iR rt (a.getD i [])≠0=>(jy (f:=fun i=>iR rt (a.getD i [])) hii h0).symm.trans hiG;refine AW.skip (AW.seq (AW.block (AW.seq (AW.region ?_))));refine ab.idx tok (kG (a.getD i [])) rfl rfl rfl rfl (Int.natCast_nonneg i) hg ?_;refine qU 2 rfl ?_;refine qK 2 rfl ?_;refine ab.call tok rfl rfl rfl rfl cl ?_;refine qU 1 rfl ?_;refine qK 2 rfl ?_;refine ab.nil ?_;generalize iR rt (a.getD i [])=e at *;refine AW.cond rfl (fun h=>?_) (fun h=>?_)
         · have he:e≠0:=by have:=bne_iff_ne.1 h;omega
           rw[← hhit he];refine qX 2 rfl ?_;exact qN rfl
         · have he:e=0:=by have:=bne_eq_false_iff_eq.1 h;omega
           refine AW.skip ?_;refine qT 1 rfl ?_;rw[aC (x:=(i:Int)+1) (by omega) (by omega)];refine qU 1 rfl ?_;refine ab.nil ?_;exact⟨i+1,rfl,⟨hii,hmiss he⟩,by omega⟩
       have hii: ¬i<a.length:=by have:=of_decide_eq_false h;omega
       rw[jz hii] at hiG;subst hiG;refine AW.exit ?_;refine qX 1 rfl ?_;exact qN rfl
theorem tM{m:Nat}{rt:List (List RD)}{a:List (List (List RD))}(T:Eu m rt)(A:BA m rt a):Pure Tryz.prog 21 [TrD rt,MxR a] (dI (kl rt a)):=by
 refine qJ 14 Tryz.func21 rfl rfl rfl rfl (by kernel_rfl) (fun B F0 w0=>?_);have hm:=T.m2;have cc:=tN rt T.w T.m1 T.l T.ll T.ok;have cw:=fun h0:cX rt=0=>tL h0 A.l A.r (fun i k=>lE rt.length ((a.getD i []).getD k []) (np h0).1 (A.n i k).w (by omega) (A.n i k).l);unfold kl;refine qX 2 rfl ?_;refine qI ?_;refine qX 1 rfl ?_;refine ab.call tok rfl rfl rfl rfl cc ?_;refine qU 1 rfl ?_;refine qK 2 rfl ?_;refine ab.nil ?_;generalize cX rt=e at *;refine AW.cond rfl (fun h=>?_) (fun h=>?_)
 · have he:e≠0:=by have:=bne_iff_ne.1 h;omega
   rw[if_pos he];refine qX 2 rfl ?_;exact qN rfl
 · have he:e=0:=by have:=bne_eq_false_iff_eq.1 h;omega
   rw[if_neg (fun g=>g he)];refine AW.skip ?_;refine qX 2 rfl ?_;refine ab.call tok rfl rfl rfl rfl (cw he) ?_;refine qU 1 rfl ?_;exact qN rfl
end Lift
namespace Lift
open Go Go.Proofs
theorem zh{a b:List Nat}(h:a.length=b.length)(hk: ∀k,k<a.length→a.getD k 0=b.getD k 0):a=b:=by
 refine List.ext_getElem h fun i h1 h2=>?_;have:=hk i h1
 rwa [List.getD_eq_getElem?_getD,List.getElem?_eq_getElem h1,List.getD_eq_getElem?_getD,List.getElem?_eq_getElem h2] at this
theorem sf(a b:List Nat)(ha:a.length≤1000000):Pure Tryz.prog 23 [rF a,rF b] (dB (decide (a=b))):=by
 refine qJ 26 Tryz.func23 rfl rfl rfl rfl (by kernel_rfl) (fun B F0 w0=>?_);refine qX 1 rfl ?_;refine qI ?_;refine qX 5 rfl ?_;rw[List.length_map,List.length_map];refine ab.nil ?_;refine AW.cond rfl (fun h=>?_) (fun h=>?_)
 · have hne:a≠b:=by rintro rfl;simp at h
   rw[decide_eq_false hne];refine qX 1 rfl ?_;exact qN rfl
 · have hlen:a.length=b.length:=by
    have:(a.length:Int)=b.length:=by simpa using h
    omega
   refine AW.skip (AW.seq ?_);refine qX 1 rfl ?_;refine ab.nil ?_;refine AW.block ?_;refine AW.aE [0,1,5] (fun i:Nat=>[(0,.d (rF a)),(1,.d (rF b)),(5,.d (dI i))]) (fun i=>i≤a.length∧ ∀k,k<i→a.getD k 0=b.getD k 0) (fun i=>a.length-i) 0 rfl ⟨Nat.zero_le _,fun k hk=>by omega⟩ (fun i ⟨hi,hI⟩=>?_)
   · show AW _ _ _ _ _ _ _ [(0,.d (rF a)),(1,.d (rF b)),(5,.d (dI i))];refine AW.seq ?_;refine qX 3 rfl ?_;rw[List.length_map];refine qU 1 rfl ?_;refine ab.nil ?_;refine AW.cond rfl (fun h=>?_) (fun h=>?_)
     · have hin:i<a.length:=by have:=of_decide_eq_true h;omega
       refine AW.skip (AW.seq (AW.block (AW.seq ?_)));refine AW.draw aN 9 (by kernel_rfl) ?_;refine qP 2 rfl ?_;refine ae.idx tok (dI (a.getD i 0)) rfl rfl rfl rfl rfl (Int.natCast_nonneg i) (vX hin) ?_;refine qP 3 rfl ?_;refine ae.idx tok (dI (b.getD i 0)) rfl rfl rfl rfl rfl (Int.natCast_nonneg i) (vX (by omega)) ?_;refine qP 2 rfl ?_;refine ae.nil ?_;refine ab.nil ?_;refine AW.cond rfl (fun h=>?_) (fun h=>?_)
       · have hne:a≠b:=by rintro rfl;simp at h
         rw[decide_eq_false hne];refine qX 1 rfl ?_;exact qN rfl
       · have he:a.getD i 0=b.getD i 0:=by have:((a.getD i 0:Nat):Int)=(b.getD i 0:Nat):=bne_eq_false_iff_eq.1 h;omega
         refine AW.skip ?_;refine qT 2 rfl ?_;rw[aC (x:=(i:Int)+1) (by omega) (by omega)];refine qU 1 rfl ?_;refine ab.nil ?_;refine⟨i+1,rfl,⟨hin,fun k hk=>?_⟩,by omega⟩;rcases Nat.lt_or_ge k i with e | e
         · exact hI k e
         · rw[show k=i by omega];exact he
     have hin: ¬i<a.length:=by have:=of_decide_eq_false h;omega
     have hab:a=b:=zh hlen (fun k hk=>hI k (by omega));rw[decide_eq_true hab];refine AW.exit ?_;refine qX 1 rfl ?_;exact qN rfl
theorem wK{v:List NQ}{a b:NQ}(V:lL v)(ha:ao v.length a)(hb:ao v.length b)(sa:jI a)(sb:jI b)(ok:vz v (aK a (aM b))):Pure Tryz.prog 45 [bP v,af a,af b] (.tu [dI (pc v (aK a (aM b))),aj]):=by
 refine qJ 23 Tryz.func45 rfl rfl rfl rfl (by kernel_rfl) (fun B0 F0 w0=>?_);have hl5:=V.l5;have hro:=V.ro;have cc:=nq V ha sa hb sb;have c0:=dC b sb (by omega) (Nat.le_trans (hb.len (by omega)) (by decide));have c1:=dn a (aM b) sa sb.minus (by omega) (Nat.le_trans (ha.len (by omega)) (by decide)) (Nat.le_trans (hb.minus.len (by omega)) (by decide));have c2:=cQ v.length (ha.plus hb.minus) hl5 hro (Nat.le_refl _) (by omega) ok;refine qX 3 rfl ?_;refine qI ?_;refine qX 3 rfl ?_;refine ab.fU tok rfl rfl rfl rfl rfl ?_;refine ab.call tok rfl rfl rfl rfl cc ?_;refine qU 1 rfl ?_;refine qK 1 rfl ?_;refine ab.err tok rfl rfl rfl rfl rfl ?_;refine ab.nil ?_;refine AW.aB rfl ?_
 · skip
   refine AW.skip (AW.seq ?_);refine AW.draw aN 6 (by kernel_rfl) ?_;refine qP 3 rfl ?_;refine ae.call tok rfl rfl rfl rfl rfl c0 ?_;refine ae.call tok rfl rfl rfl rfl rfl c1 ?_;refine ae.call tok rfl rfl rfl rfl rfl c2 ?_;refine ae.nil ?_;refine qU 2 rfl ?_;exact qN rfl
theorem oT(l:List Int)(hl:l.length≤1000)(hb: ∀i, -1000≤l.getD i 0∧l.getD i 0≤1000):Pure Tryz.prog 44 [.sl 1 (l.map (fun n=>dI n))] (af (l.map (fun n:Int=>(n:Rat)))):=by
 refine qJ 19 Tryz.func44 rfl rfl rfl rfl (by kernel_rfl) (fun B0 F0 w0=>?_);have hg: ∀i,i<l.length→(l.map (fun n:Int=>dI n))[i]?=some (dI (l.getD i 0)):=fun i hi=>by simp[hi]
 have hts: ∀i,i<l.length→(l.map (fun n:Int=>(n:Rat))).take (i+1)=(l.map (fun n:Int=>(n:Rat))).take i++[((l.getD i 0:Int):Rat)]:=fun i hi=>by
  rw[qg (d:=0) (by rw[List.length_map];exact hi)]
  congr 2
  rw[List.getD_eq_getElem?_getD,List.getElem?_map,List.getD_eq_getElem?_getD,List.getElem?_eq_getElem hi];rfl
 have hta:(l.map (fun n:Int=>(n:Rat))).take l.length=l.map (fun n:Int=>(n:Rat)):=List.take_of_length_le (by rw[List.length_map];exact Nat.le_refl _);generalize l.map (fun n:Int=>(n:Rat))=zs at *;refine qX 1 rfl ?_;refine qK 1 rfl ?_;refine qI ?_;refine qX 2 rfl ?_;rw[List.length_map];refine qU 1 rfl ?_;refine ab.nil ?_;refine AW.block ?_;refine AW.aE [3,6,7,8] (fun i:Nat=>[(3,.ow 111 (dt (zs.take i))),(6,.d (.sl 1 (l.map (fun n=>dI n)))),(7,.d (dI l.length)),(8,.d (dI i))]) (fun i=>i≤l.length) (fun i=>l.length-i) 0 rfl (Nat.zero_le _) (fun i hi=>?_)
 · show AW _ _ _ _ _ _ _ [(3,.ow 111 (dt (zs.take i))),(6,.d (.sl 1 (l.map (fun n=>dI n)))),(7,.d (dI l.length)),(8,.d (dI i))];refine qX 1 rfl ?_;refine qI ?_;refine AW.cond rfl (fun h=>?_) (fun h=>?_)
   · have hii:i<l.length:=by have:=of_decide_eq_true h;omega
     have g1:=hg i hii;have hts:=hts i hii;have hb:=hb i;have c:=yZ (l.getD i 0) (by omega) (by omega);generalize l.getD i 0=x at *;refine AW.skip (AW.seq (AW.block (AW.seq (AW.region ?_))));refine ab.idx tok (dI x) rfl rfl rfl rfl (Int.natCast_nonneg i) g1 ?_;refine qU 2 rfl ?_;refine ab.nil ?_;refine qT 2 rfl ?_;refine ab.call tok rfl rfl rfl rfl c ?_;refine ab.fU tok rfl rfl rfl rfl rfl ?_;refine ab.jC tok rfl rfl rfl rfl rfl rfl (by rw[List.length_map,List.length_take];show (_+1)*56≤_;omega) (by rw[List.length_map,List.length_take];show _+1≤_;omega) ?_;refine qU 1 rfl ?_;refine ab.nil ?_;refine qT 1 rfl ?_;rw[aC (x:=(i:Int)+1) (by omega) (by omega)];refine qU 1 rfl ?_;refine ab.nil ?_;exact⟨i+1,by rw[hts,show dt (zs.take i++[(x:Rat)])=dt (zs.take i)++[(Qr (x:Rat)).D] from List.map_append ..];rfl,hii,by omega⟩
   have hii:i=l.length:=by have:=of_decide_eq_false h;omega
   subst hii;rw[hta];refine AW.exit (AW.seq (AW.region ?_));refine ab.fQ tok 3 rfl rfl ?_;refine qU 2 rfl ?_;exact qN rfl
def iN(r:RD):Bool:=match r.n,r.d with
 | [],[]=>true
 | [x],[]=>decide (x≤1000)
 | [],[y]=>decide (y≤12)
 | [x],[y]=>decide (x≤1000)&&decide (y≤12)
 | _,_=>false
theorem zJ{r:RD}(h:iN r=true):r.n.length≤1∧r.d.length≤1:=by
 obtain ⟨g,n,d⟩:=r;unfold iN at h;rcases n with _ | ⟨x,_ | ⟨x2,n⟩⟩<;>rcases d with _ | ⟨y,_ | ⟨y2,d⟩⟩<;>first | (simp at h;done) | (refine⟨?_,?_⟩<;>simp)
theorem rZ(r:RD){k:Nat}(hw:r.w k)(hk:k≤1000000000000000):Pure Tryz.prog 66 [r.D,.v (.int .u32 1000),.v (.int .u32 12)] (dB (iN r)):=by
 refine qJ 45 Tryz.func66 rfl rfl rfl rfl (by kernel_rfl) (fun B0 F0 w0=>?_);obtain ⟨w1,w2,w3,w4⟩:=hw;obtain ⟨g,n,d⟩:=r;unfold iN
 dsimp only at w3 w4 ⊢
 refine qX 2 rfl ?_;refine qK 3 rfl ?_;rw[List.length_map];refine qU 1 rfl ?_;by_cases h1:n.length<2;rotate_left
 · rw[decide_eq_false (show ¬(n.length:Int)<2 by omega)];refine qU 35 rfl ?_;refine ab.nil ?_;rcases n with _ | ⟨x,_ | ⟨x2,n⟩⟩
   · exact absurd (show 0<2 by decide) h1
   · exact absurd (show 1<2 by decide) h1
   · exact AW.ret rfl
 rw[decide_eq_true (show (n.length:Int)<2 by omega)];refine qU 4 rfl ?_;rw[List.length_map];refine qU 1 rfl ?_;by_cases h2:d.length<2;rotate_left
 · rw[decide_eq_false (show ¬(d.length:Int)<2 by omega)];refine qU 30 rfl ?_;refine ab.nil ?_;rcases d with _ | ⟨x,_ | ⟨x2,d⟩⟩
   · exact absurd (show 0<2 by decide) h2
   · exact absurd (show 1<2 by decide) h2
   · rcases n with _ | ⟨x,_ | ⟨x2,n⟩⟩
     · exact AW.ret rfl
     · exact AW.ret rfl
     · exact AW.ret rfl
 rw[decide_eq_true (show (d.length:Int)<2 by omega)];rcases n with _ | ⟨x,_ | ⟨x2,n⟩⟩
 · refine qU 16 rfl ?_;rcases d with _ | ⟨y,_ | ⟨y2,d⟩⟩
   · refine qU 14 rfl ?_;exact qN rfl
   · dsimp only
     refine qU 7 rfl ?_;refine ab.idx tok (wd y) rfl rfl rfl rfl (Int.le_refl _) rfl ?_;refine qU 6 rfl ?_;refine ab.nil ?_;rw[show decide (y≤12)=decide ((y:Int)≤12) from decide_eq_decide.2 (by omega)];exact AW.ret rfl
   · exact absurd h2 (by simp)
 · refine qU 9 rfl ?_;refine ab.idx tok (wd x) rfl rfl rfl rfl (Int.le_refl _) rfl ?_;refine qU 6 rfl ?_;rw[show decide ((x:Int)≤1000)=decide (x≤1000) from decide_eq_decide.2 (by omega)];rcases d with _ | ⟨y,_ | ⟨y2,d⟩⟩
   · dsimp only
     generalize decide (x≤1000)=b;cases b
     · refine qU 14 rfl ?_;exact qN rfl
     · refine qU 14 rfl ?_;exact qN rfl
   · dsimp only
     generalize decide (x≤1000)=b;cases b
     · refine qU 14 rfl ?_;exact qN rfl
     · refine qU 7 rfl ?_;refine ab.idx tok (wd y) rfl rfl rfl rfl (Int.le_refl _) rfl ?_;refine qU 6 rfl ?_;refine ab.nil ?_;rw[show decide (y≤12)=decide ((y:Int)≤12) from decide_eq_decide.2 (by omega)];exact AW.ret rfl
   · exact absurd h2 (by simp)
 · exact absurd h1 (by simp)
end Lift
namespace Lift
open Go Go.Proofs
def Fb(a:List RD):Prop:=a.length≤4398046511104∧ ∀i,(a.getD i default).w big
def Nb2(b:List (List RD)):Prop:=b.length≤140737488355328∧ ∀i,Fb (b.getD i [])
def Nb3(a:List (List (List RD))):Prop:=a.length≤140737488355328∧ ∀i,Nb2 (a.getD i [])
theorem uw{f:Nat→Nat}: ∀{m i:Nat},fE f m i=0→ ∀k,i≤k→k<i+m→f k=0
 | 0,i,_,k,h1,h2=>by omega
 | m+1,i,h,k,h1,h2=>by
   rw[fE] at h;split at h
   · rename_i h0;by_cases e:k=i
     · subst e;exact h0
     · exact uw h k (by omega) (by omega)
   · rename_i h0;exact absurd h h0
theorem xK{α:Type}(g:α→Bool){d:α}{l:List α}{i:Nat}(h:i<l.length):(l.drop i).all g=(g (l.getD i d)&&(l.drop (i+1)).all g):=by
 rw[List.drop_eq_getElem_cons h,List.all_cons,List.getD_eq_getElem?_getD,List.getElem?_eq_getElem h];rfl
theorem uG{α:Type}(g:α→Bool){l:List α}{i:Nat}(h: ¬i<l.length):(l.drop i).all g=true:=by
 rw[List.drop_eq_nil_of_le (by omega)];rfl
theorem uF{α:Type}{g:α→Bool}{l:List α}(h:l.all g=true){d:α}{i:Nat}(hi:i<l.length):g (l.getD i d)=true:=by
 rw[List.getD_eq_getElem?_getD,List.getElem?_eq_getElem hi];exact List.all_eq_true.1 h _ (List.getElem_mem hi)
def zv(x:List RD):Bool:=decide (x.length≤4)&&x.all iN
def fv(l:List (List RD)):Bool:=l.all zv
theorem kr(l:List (List RD))(hl:Nb2 l):Pure Tryz.prog 31 [kG l] (dB (fv l)):=by
 refine qJ 27 Tryz.func31 rfl rfl rfl rfl (by kernel_rfl) (fun B0 F0 w0=>?_);obtain ⟨hl1,hl2⟩:=hl;obtain ⟨E,hE⟩: ∃E,(l.drop 0).all zv=E:=⟨_,rfl⟩;rw[show fv l=E from hE];refine qX 1 rfl ?_;refine qI ?_;refine qX 2 rfl ?_;rw[List.length_map];refine qU 1 rfl ?_;refine ab.nil ?_;refine AW.block ?_;refine AW.aE [7,8,9] (fun i:Nat=>[(7,.d (kG l)),(8,.d (dI l.length)),(9,.d (dI i))]) (fun i=>i≤l.length∧(l.drop i).all zv=E) (fun i=>l.length-i) 0 rfl ⟨Nat.zero_le _,hE⟩ (fun i ⟨hi,hiE⟩=>?_)
 · show AW _ _ _ _ _ _ _ [(7,.d (kG l)),(8,.d (dI l.length)),(9,.d (dI i))];refine qX 1 rfl ?_;refine qI ?_;refine AW.cond rfl (fun h=>?_) (fun h=>?_)
   · have hii:i<l.length:=by have:=of_decide_eq_true h;omega
     have g1:=getM dw (l:=l) (i:=i) hii;have hx:=hl2 i;have hat:=(xK zv (d:=[]) hii).symm.trans hiE;change (zv (l.getD i default)&&_)=E at hat;generalize l.getD i default=x at g1 hx hat;obtain ⟨hx1,hx2⟩:=hx;refine AW.skip (AW.seq (AW.block (AW.seq (AW.region ?_))));refine ab.idx tok (dw x) rfl rfl rfl rfl (Int.natCast_nonneg i) g1 ?_;refine qU 2 rfl ?_;refine qI ?_;refine qX 2 rfl ?_;rw[List.length_map];refine qU 1 rfl ?_;refine ab.nil ?_;refine AW.cond rfl (fun h=>?_) (fun h=>?_)
     · have h4: ¬x.length≤4:=by have:=of_decide_eq_true h;omega
       have hs:zv x=false:=by unfold zv;rw[decide_eq_false h4];rfl
       rw[hs] at hat;rw[← hat];refine qX 1 rfl ?_;exact qN rfl
     · have h4:x.length≤4:=by have:=of_decide_eq_false h;omega
       obtain ⟨X,hX⟩: ∃X,(x.drop 0).all iN=X:=⟨_,rfl⟩;have hs:zv x=X:=by unfold zv;rw[decide_eq_true h4];exact hX
       rw[hs] at hat;refine AW.skip ?_;refine qX 2 rfl ?_;rw[List.length_map];refine qU 1 rfl ?_;refine ab.nil ?_;refine AW.block ?_;refine AW.aE [7,8,9,16,17,18] (fun k:Nat=>[(7,.d (kG l)),(8,.d (dI l.length)),(9,.d (dI i)),(16,.d (dw x)),(17,.d (dI x.length)),(18,.d (dI k))]) (fun k=>k≤x.length∧(x.drop k).all iN=X) (fun k=>x.length-k) 0 rfl ⟨Nat.zero_le _,hX⟩ (fun k ⟨hk,hkX⟩=>?_)
       · show AW _ _ _ _ _ _ _ [(7,.d (kG l)),(8,.d (dI l.length)),(9,.d (dI i)),(16,.d (dw x)),(17,.d (dI x.length)),(18,.d (dI k))];refine qX 1 rfl ?_;refine qI ?_;refine AW.cond rfl (fun h=>?_) (fun h=>?_)
         · have hkk:k<x.length:=by have:=of_decide_eq_true h;omega
           have g2:=getM RD.D (l:=x) (i:=k) hkk;have ct:=rZ (x.getD k default) (hx2 k) (by unfold big;omega);have hatk:=(xK iN (d:=default) hkk).symm.trans hkX;generalize x.getD k default=r at g2 ct hatk;refine AW.skip (AW.seq (AW.block (AW.seq (AW.region ?_))));refine ab.idx tok r.D rfl rfl rfl rfl (Int.natCast_nonneg k) g2 ?_;refine qU 3 rfl ?_;refine qK 1 rfl ?_;refine ab.call tok rfl rfl rfl rfl ct ?_;refine qU 1 rfl ?_;refine ab.nil ?_;refine AW.cond rfl (fun h=>?_) (fun h=>?_)
           · have ht:iN r=false:=by cases g:iN r;rfl;rw[g] at h;cases h
             rw[ht] at hatk;rw[← hatk] at hat;rw[← hat];refine qX 1 rfl ?_;exact qN rfl
           · have ht:iN r=true:=by cases g:iN r;rw[g] at h;cases h;rfl
             rw[ht] at hatk;refine AW.skip ?_;refine qT 1 rfl ?_;rw[aC (x:=(k:Int)+1) (by omega) (by omega)];refine qU 1 rfl ?_;refine ab.nil ?_;exact⟨k+1,rfl,⟨hkk,hatk⟩,by omega⟩
         have hkk: ¬k<x.length:=by have:=of_decide_eq_false h;omega
         rw[uG iN hkk] at hkX;rw[← hkX] at hat;refine AW.exit ?_;refine qT 1 rfl ?_;rw[aC (x:=(i:Int)+1) (by omega) (by omega)];refine qU 1 rfl ?_;refine ab.nil ?_;exact⟨i+1,rfl,⟨hii,hat⟩,by omega⟩
   have hii: ¬i<l.length:=by have:=of_decide_eq_false h;omega
   rw[uG zv hii] at hiE;rw[← hiE];refine AW.exit ?_;refine qX 1 rfl ?_;exact qN rfl
def fX(n:Nat):Bool:=(decide (4<n)&&decide (n≤32))||decide (40<n)
def uK(r:List (List RD)):Bool:= !(fX r.length|| !fv r)
def j7(a:List (List (List RD))):Bool:= !fX a.length&&a.all uK
theorem qW(a:List (List (List RD)))(ha:Nb3 a):Pure Tryz.prog 11 [MxR a] (dB (j7 a)):=by
 refine qJ 43 Tryz.func11 rfl rfl rfl rfl (by kernel_rfl) (fun B0 F0 w0=>?_);obtain ⟨ha1,ha2⟩:=ha;obtain ⟨E,hE⟩: ∃E,(a.drop 0).all uK=E:=⟨_,rfl⟩;unfold j7;rw[show a.all uK=E from hE];refine qX 1 rfl ?_;refine ab.nil ?_;refine AW.cut [0] (fun _:Unit=>[(0,.d (MxR a))]) (fun _=>fX a.length=false) ?_ (fun _ hs=>?_)
 · refine qX 2 rfl ?_;rw[List.length_map];refine qU 1 rfl ?_;by_cases hp:4<a.length
   · rw[decide_eq_true (show (4:Int)<(a.length:Int) by omega)];refine qU 3 rfl ?_;rw[List.length_map];refine qU 1 rfl ?_;by_cases hq:a.length≤32
     · rw[decide_eq_true (show (a.length:Int)≤32 by omega)];have hz:fX a.length=true:=by unfold fX;rw[decide_eq_true hp,decide_eq_true hq];rfl
       refine qU 6 rfl ?_;rw[hz];refine ab.nil ?_;refine AW.aH rfl ?_;refine qX 1 rfl ?_;exact qN rfl
     · rw[decide_eq_false (show ¬(a.length:Int)≤32 by omega)];refine qU 4 rfl ?_;rw[List.length_map];refine qU 1 rfl ?_;by_cases hr:40<a.length
       · rw[decide_eq_true (show (40:Int)<(a.length:Int) by omega)];have hz:fX a.length=true:=by unfold fX;rw[decide_eq_true hp,decide_eq_false hq,decide_eq_true hr];rfl
         refine qU 1 rfl ?_;rw[hz];refine ab.nil ?_;refine AW.aH rfl ?_;refine qX 1 rfl ?_;exact qN rfl
       · rw[decide_eq_false (show ¬(40:Int)<(a.length:Int) by omega)];have hz:fX a.length=false:=by unfold fX;rw[decide_eq_true hp,decide_eq_false hq,decide_eq_false hr];rfl
         refine qU 1 rfl ?_;refine ab.nil ?_;refine AW.aB rfl ?_;refine AW.skip ?_;exact⟨(),rfl,hz⟩
   · rw[decide_eq_false (show ¬(4:Int)<(a.length:Int) by omega)];refine qU 7 rfl ?_;refine qU 1 rfl ?_;rw[List.length_map];refine qU 1 rfl ?_;by_cases hr:40<a.length
     · rw[decide_eq_true (show (40:Int)<(a.length:Int) by omega)];have hz:fX a.length=true:=by unfold fX;rw[decide_eq_false hp,decide_eq_true hr];rfl
       refine qU 1 rfl ?_;rw[hz];refine ab.nil ?_;refine AW.aH rfl ?_;refine qX 1 rfl ?_;exact qN rfl
     · rw[decide_eq_false (show ¬(40:Int)<(a.length:Int) by omega)];have hz:fX a.length=false:=by unfold fX;rw[decide_eq_false hp,decide_eq_false hr];rfl
       refine qU 1 rfl ?_;refine ab.nil ?_;refine AW.aB rfl ?_;refine AW.skip ?_;exact⟨(),rfl,hz⟩
 rw[hs,show (!false&&E)=E from rfl]
 · show AW _ _ _ _ _ _ _ [(0,.d (MxR a))];refine AW.seq ?_;refine qX 2 rfl ?_;rw[List.length_map];refine qU 1 rfl ?_;refine ab.nil ?_;refine AW.block ?_;refine AW.aE [18,19,20] (fun i:Nat=>[(18,.d (MxR a)),(19,.d (dI a.length)),(20,.d (dI i))]) (fun i=>i≤a.length∧(a.drop i).all uK=E) (fun i=>a.length-i) 0 rfl ⟨Nat.zero_le _,hE⟩ (fun i ⟨hi,hiE⟩=>?_)
   · show AW _ _ _ _ _ _ _ [(18,.d (MxR a)),(19,.d (dI a.length)),(20,.d (dI i))];refine qX 1 rfl ?_;refine qI ?_;refine AW.cond rfl (fun h=>?_) (fun h=>?_)
     · have hii:i<a.length:=by have:=of_decide_eq_true h;omega
       have g1:=getM kG (l:=a) (i:=i) hii;have cs:=kr (a.getD i []) (ha2 i);have hr1:=(ha2 i).1;have hat:=(xK uK (d:=[]) hii).symm.trans hiE;change (uK (a.getD i default)&&_)=E at hat;change Pure _ _ [kG (a.getD i default)] (dB (fv (a.getD i default))) at cs;change (a.getD i default).length≤_ at hr1;generalize a.getD i default=r at g1 hat cs hr1;refine AW.skip (AW.seq (AW.block (AW.seq (AW.region ?_))));refine ab.idx tok (kG r) rfl rfl rfl rfl (Int.natCast_nonneg i) g1 ?_;refine qU 2 rfl ?_;refine qK 2 rfl ?_;rw[List.length_map];refine qU 1 rfl ?_;by_cases hp:4<r.length
       · rw[decide_eq_true (show (4:Int)<(r.length:Int) by omega)];refine qU 3 rfl ?_;rw[List.length_map];refine qU 1 rfl ?_;by_cases hq:r.length≤32
         · rw[decide_eq_true (show (r.length:Int)≤32 by omega)];have hz:fX r.length=true:=by unfold fX;rw[decide_eq_true hp,decide_eq_true hq];rfl
           refine qU 11 rfl ?_;have hm:uK r=false:=by unfold uK;rw[hz];rfl
           rw[hm] at hat;rw[← hat];refine ab.nil ?_;refine AW.aH rfl ?_;refine qX 1 rfl ?_;exact qN rfl
         · rw[decide_eq_false (show ¬(r.length:Int)≤32 by omega)];refine qU 4 rfl ?_;rw[List.length_map];refine qU 1 rfl ?_;by_cases hr:40<r.length
           · rw[decide_eq_true (show (40:Int)<(r.length:Int) by omega)];have hz:fX r.length=true:=by unfold fX;rw[decide_eq_true hp,decide_eq_false hq,decide_eq_true hr];rfl
             refine qU 6 rfl ?_;have hm:uK r=false:=by unfold uK;rw[hz];rfl
             rw[hm] at hat;rw[← hat];refine ab.nil ?_;refine AW.aH rfl ?_;refine qX 1 rfl ?_;exact qN rfl
           · rw[decide_eq_false (show ¬(40:Int)<(r.length:Int) by omega)];have hz:fX r.length=false:=by unfold fX;rw[decide_eq_true hp,decide_eq_false hq,decide_eq_false hr];rfl
             refine qU 3 rfl ?_;refine ab.call tok rfl rfl rfl rfl cs ?_;refine qU 2 rfl ?_;refine ab.nil ?_;have hm:uK r=fv r:=by unfold uK;rw[hz];cases fv r<;>rfl
             rw[hm] at hat;generalize fv r=s at *;cases s with
             | false =>
               rw[← hat];refine AW.aH rfl ?_;refine qX 1 rfl ?_;exact qN rfl
             | true =>
               refine AW.aB rfl ?_;refine AW.skip ?_;refine qT 1 rfl ?_;rw[aC (x:=(i:Int)+1) (by omega) (by omega)];refine qU 1 rfl ?_;refine ab.nil ?_;exact⟨i+1,rfl,⟨hii,hat⟩,by omega⟩
       · rw[decide_eq_false (show ¬(4:Int)<(r.length:Int) by omega)];refine qU 7 rfl ?_;refine qU 1 rfl ?_;rw[List.length_map];refine qU 1 rfl ?_;by_cases hr:40<r.length
         · rw[decide_eq_true (show (40:Int)<(r.length:Int) by omega)];have hz:fX r.length=true:=by unfold fX;rw[decide_eq_false hp,decide_eq_true hr];rfl
           refine qU 6 rfl ?_;have hm:uK r=false:=by unfold uK;rw[hz];rfl
           rw[hm] at hat;rw[← hat];refine ab.nil ?_;refine AW.aH rfl ?_;refine qX 1 rfl ?_;exact qN rfl
         · rw[decide_eq_false (show ¬(40:Int)<(r.length:Int) by omega)];have hz:fX r.length=false:=by unfold fX;rw[decide_eq_false hp,decide_eq_false hr];rfl
           refine qU 3 rfl ?_;refine ab.call tok rfl rfl rfl rfl cs ?_;refine qU 2 rfl ?_;refine ab.nil ?_;have hm:uK r=fv r:=by unfold uK;rw[hz];cases fv r<;>rfl
           rw[hm] at hat;generalize fv r=s at *;cases s with
           | false =>
             rw[← hat];refine AW.aH rfl ?_;refine qX 1 rfl ?_;exact qN rfl
           | true =>
             refine AW.aB rfl ?_;refine AW.skip ?_;refine qT 1 rfl ?_;rw[aC (x:=(i:Int)+1) (by omega) (by omega)];refine qU 1 rfl ?_;refine ab.nil ?_;exact⟨i+1,rfl,⟨hii,hat⟩,by omega⟩
     have hii: ¬i<a.length:=by have:=of_decide_eq_false h;omega
     rw[uG uK hii] at hiE;rw[← hiE];refine AW.exit ?_;refine qX 1 rfl ?_;exact qN rfl
def rX(rt:List (List RD)):Bool:=(decide (rt.length≤1)||(decide (5<rt.length)&&decide (rt.length<9)))&&fv rt
theorem uk(rt:List (List RD))(hr:Nb2 rt):Pure Tryz.prog 10 [TrD rt] (dB (rX rt)):=by
 refine qJ 24 Tryz.func10 rfl rfl rfl rfl (by kernel_rfl) (fun B0 F0 w0=>?_);have cs:=kr rt hr;have hr1:=hr.1;unfold rX;generalize fv rt=s at cs ⊢;refine qX 2 rfl ?_;refine qK 3 rfl ?_;rw[List.length_map];refine qU 1 rfl ?_;by_cases h1:rt.length≤1
 · rw[decide_eq_true (show (rt.length:Int)≤1 by omega),decide_eq_true h1];refine qU 15 rfl ?_;refine ab.call tok rfl rfl rfl rfl cs ?_;refine qU 2 rfl ?_;exact qN rfl
 rw[decide_eq_false (show ¬(rt.length:Int)≤1 by omega),decide_eq_false h1];refine qU 4 rfl ?_;rw[List.length_map];refine qU 1 rfl ?_;by_cases h2:5<rt.length;rotate_left
 · rw[decide_eq_false (show ¬(5:Int)<(rt.length:Int) by omega),decide_eq_false h2];refine qU 13 rfl ?_;exact qN rfl
 rw[decide_eq_true (show (5:Int)<(rt.length:Int) by omega),decide_eq_true h2];refine qU 4 rfl ?_;rw[List.length_map];refine qU 1 rfl ?_;by_cases h3:rt.length<9;rotate_left
 · rw[decide_eq_false (show ¬(rt.length:Int)<9 by omega),decide_eq_false h3];refine qU 8 rfl ?_;exact qN rfl
 rw[decide_eq_true (show (rt.length:Int)<9 by omega),decide_eq_true h3];refine qU 5 rfl ?_;refine ab.call tok rfl rfl rfl rfl cs ?_;refine qU 2 rfl ?_;exact qN rfl
theorem DF{x:List RD}(h:zv x=true)(nb:Fb x):x.length≤4∧wN 2 x:=by
 unfold zv at h;rw[Bool.and_eq_true] at h;refine⟨of_decide_eq_true h.1,fun i hi=>?_⟩;obtain ⟨t1,t2⟩:=zJ (uF h.2 (d:=default) hi);obtain ⟨w1,w2,w3,w4⟩:=nb.2 i;exact⟨w1,w2,by omega,by omega⟩
theorem Av:Fb []:=⟨Nat.zero_le _,fun _=>⟨fun _ h=>(by cases h),fun _ h=>(by cases h),Nat.zero_le _,Nat.zero_le _⟩⟩
theorem zB(k:Nat):wN k []:=fun i hi=>absurd hi (Nat.not_lt_zero i)
theorem nJ{l:List (List RD)}(h:fv l=true)(nb:Nb2 l)(i:Nat):(l.getD i []).length≤4∧wN 2 (l.getD i []):=by
 by_cases hi:i<l.length
 · exact DF (uF h (d:=[]) hi) (nb.2 i)
 · rw[List.getD_eq_getElem?_getD,List.getElem?_eq_none (by omega)];exact⟨Nat.zero_le _,zB 2⟩
theorem yl{rt:List (List RD)}(h:rX rt=true)(nb:Nb2 rt):Eu 2 rt∧(rt.length≤5→rt.length≤1):=by
 unfold rX at h;rw[Bool.and_eq_true,Bool.or_eq_true,Bool.and_eq_true] at h;obtain ⟨h1,h2⟩:=h
 have hl:rt.length<9∧(rt.length≤5→rt.length≤1):=by
  rcases h1 with h1 | ⟨h1,h3⟩
  · have:=of_decide_eq_true h1;omega
  · have:=of_decide_eq_true h1;have:=of_decide_eq_true h3;omega
 refine⟨⟨fun i _ _=>(nJ h2 nb i).2,by decide,by omega,fun i _=>by have:=(nJ h2 nb i).1;omega,fun h5=>tW (hl.2 h5) (by decide),by decide⟩,hl.2⟩
theorem AD{rt:List (List RD)}(h:rX rt=true)(nb:Nb2 rt)(h0:cX rt=0):CY 2 rt∧rt.length≤1:=by
 obtain ⟨T,h1⟩:=yl h nb;have h5:=(np h0).1;exact⟨⟨⟨2,by decide,Nat.le_refl _,T.w,T.ok⟩,by decide,T.l,T.ll⟩,h1 h5⟩
theorem qi{rt:List (List RD)}{a:List (List (List RD))}(h:j7 a=true)(nb:Nb3 a):BA 2 rt a∧(a.length≤32→a.length≤4)∧(∀i,(a.getD i []).length≤32→(a.getD i []).length≤4):=by
 unfold j7 at h;rw[Bool.and_eq_true] at h
 have sz: ∀n,(!fX n)=true→n≤40∧(n≤32→n≤4):=fun n hn=>by
  unfold fX at hn;simp at hn;omega
 have hr: ∀i,(a.getD i []).length≤40∧((a.getD i []).length≤32→(a.getD i []).length≤4)∧ ∀k,((a.getD i []).getD k []).length≤4∧wN 2 ((a.getD i []).getD k []):=fun i=>by
  by_cases hi:i<a.length
  · have g:=uF h.2 (d:=[]) hi;unfold uK at g;rw[Bool.not_or,Bool.not_not,Bool.and_eq_true] at g;have s1:=sz _ g.1;exact⟨s1.1,s1.2,fun k=>nJ g.2 (nb.2 i) k⟩
  · rw[List.getD_eq_getElem?_getD,List.getElem?_eq_none (by omega)];exact⟨Nat.zero_le _,fun _=>Nat.zero_le _,fun k=>⟨Nat.zero_le _,zB 2⟩⟩
 have s0:=sz _ h.1;exact⟨⟨fun i k=>⟨fun _=>((hr i).2.2 k).2,by have:=((hr i).2.2 k).1;omega⟩,by omega,fun i=>by have:=(hr i).1;omega⟩,s0.2,fun i=>(hr i).2.1⟩
def qH(a:List (List (List RD))):bq:=a.map fun r=>r.map bh
theorem kn(a:List (List (List RD))):(qH a).length=a.length:=List.length_map ..
theorem qG(a:List (List (List RD)))(i:Nat):(qH a).getD i []=(a.getD i []).map bh:=by
 unfold qH;rw[List.getD_eq_getElem?_getD,List.getElem?_map,List.getD_eq_getElem?_getD];cases a[i]? with
 | none=>rfl
 | some r=>rfl
theorem vb(r:List (List RD))(k:Nat):(r.map bh).getD k []=bh (r.getD k []):=by
 rw[List.getD_eq_getElem?_getD,List.getElem?_map,List.getD_eq_getElem?_getD];cases r[k]? with
 | none=>rfl
 | some x=>rfl
theorem kV(a:List (List (List RD))):ay (qH a)=ay a:=by unfold ay;rw[qG,List.length_map]
structure Acc (rt:List (List RD)) (a:List (List (List RD))) (v:List NQ) (q:bq):Prop where
 L:Lo v
 G:rG v q
 s:k8 2 q
 l4:q.length≤4
 c4:ay q≤4
 t:TrD rt=bP v
 m:MxR a=ek q
 vl:v.length=rt.length
 al:q.length=a.length
 ac:ay q=ay a
theorem Cc{rt:List (List RD)}{r:List (List RD)}(h0:cX rt=0)(h:iR rt r=0){k:Nat}(hk:k<r.length):bQ rt.length (r.getD k [])=0:=by
 rw[vd h0] at h;exact uw h k (Nat.zero_le _) (by omega)
theorem CX{rt:List (List RD)}(h1:rX rt=true)(n1:Nb2 rt)(h0:cX rt=0):Lo (rt.map bh)∧TrD rt=bP (rt.map bh):=by
 obtain ⟨T,l1⟩:=AD h1 n1 h0;exact⟨⟨nA.of T h0,by rw[List.length_map];exact l1⟩,(C2 T h0).eq⟩
theorem Cb{rt:List (List RD)}{r:List (List RD)}(hn: ∀k,Bz 2 rt (r.getD k []))(h: ∀k,k<r.length→bQ rt.length (r.getD k [])=0):kG r=fi (r.map bh)∧(∀k,ao rt.length ((r.map bh).getD k []))∧(∀k,ar 2 ((r.map bh).getD k [])):=by
 have g:=fun k (hk:k<r.length)=>DN (by decide) (hn k) (h k hk);refine⟨?_,fun k=>?_,fun k=>?_⟩
 · show D.sl 1 (r.map dw)=D.sl 1 ((r.map bh).map af);rw[List.map_map]
   congr 1
   refine List.map_congr_left fun x hx=>?_;obtain ⟨k,hk,e⟩:=List.getElem_of_mem hx;have:=(g k hk).2.2;rw[List.getD_eq_getElem?_getD,List.getElem?_eq_getElem hk] at this;rw[← e];exact this
 · rw[vb];by_cases hk:k<r.length
   · exact(g k hk).1
   · rw[List.getD_eq_getElem?_getD,List.getElem?_eq_none (by omega)];exact bz _
 · rw[vb];by_cases hk:k<r.length
   · exact(g k hk).2.1
   · rw[List.getD_eq_getElem?_getD,List.getElem?_eq_none (by omega)];exact bA (by decide)
theorem Ei{rt:List (List RD)}{a:List (List (List RD))}(h1:rX rt=true)(n1:Nb2 rt)(h2:j7 a=true)(n2:Nb3 a)(h:kl rt a=0):Acc rt a (rt.map bh) (qH a):=by
 have h0:cX rt=0:=by
  unfold kl at h;split at h
  · rename_i g;exact absurd h g
  · omega
 have hm:ug rt a=0:=by
  unfold kl at h;rw[if_neg (by rw[h0];simp)] at h;exact h
 obtain ⟨L,ht⟩:=CX h1 n1 h0;obtain ⟨M,l4,r4⟩:=qi (rt:=rt) h2 n2
 have key:a.length≤4∧ay a≤4∧(∀j,j<a.length→(a.getD j []).length=ay a)∧(∀j,j<a.length→iR rt (a.getD j [])=0):=by
  unfold ug at hm;by_cases e0:a.length=0
  · refine⟨by omega,?_,fun j hj=>by omega,fun j hj=>by omega⟩;unfold ay;rw[List.getD_eq_getElem?_getD,List.getElem?_eq_none (by omega)];exact Nat.zero_le _
  · rw[if_neg e0] at hm;by_cases e1:32<a.length∨32<ay a
    · rw[if_pos e1] at hm;cases hm
    · rw[if_neg e1] at hm;have e2:fE (uL a) (a.length-0) 0=0:=Classical.byContradiction fun g=>by rw[if_pos g] at hm;exact g hm
      rw[if_neg (by rw[e2];simp)] at hm;refine⟨l4 (by omega),r4 0 (show ay a≤32 by omega),fun j hj=>?_,fun j hj=>uw hm j (Nat.zero_le _) (by omega)⟩;have:=uw e2 j (Nat.zero_le _) (by omega);unfold uL at this;exact Classical.byContradiction fun g=>by rw[if_pos g] at this;cases this
 obtain ⟨k1,k2,k3,k4⟩:=key;have rw1:=fun i (hi:i<a.length)=>Cb (M.n i) (fun k hk=>Cc h0 (k4 i hi) hk);have hvl:(rt.map bh).length=rt.length:=List.length_map ..
 have el: ∀i k,ao rt.length (bU (qH a) i k)∧ar 2 (bU (qH a) i k):=fun i k=>by
  by_cases hi:i<a.length
  · have:=rw1 i hi;unfold bU;rw[qG];exact⟨this.2.1 k,this.2.2 k⟩
  · unfold bU;rw[nc (by rw[kn];omega)];exact⟨bz _,bA (by decide)⟩
 refine⟨L,⟨by rw[kn];omega,fun j hj=>?_,by rw[kV];omega,fun i k=>by rw[hvl];exact(el i k).1⟩,fun i k=>(el i k).2,by rw[kn];exact k1,by rw[kV];exact k2,ht,?_,hvl,kn a,kV a⟩
 · rw[kn] at hj;rw[qG,List.length_map,kV];exact k3 j hj
 · show D.sl 1 (a.map kG)=D.sl 1 ((qH a).map fi);unfold qH;rw[List.map_map]
   congr 1
   refine List.map_congr_left fun r hr=>?_;obtain ⟨k,hk,e⟩:=List.getElem_of_mem hr;have:=(rw1 k hk).1;rw[List.getD_eq_getElem?_getD,List.getElem?_eq_getElem hk] at this;rw[← e];exact this
def p9(rt:List (List RD))(a:List (List (List RD))):Bool:=(rX rt&&j7 a)&&decide (kl rt a=0)
theorem qV(rt:List (List RD))(a:List (List (List RD)))(n1:Nb2 rt)(n2:Nb3 a):Pure Tryz.prog 24 [TrD rt,MxR a] (dB (p9 rt a)):=by
 refine qJ 17 Tryz.func24 rfl rfl rfl rfl (by kernel_rfl) (fun B0 F0 w0=>?_);have c1:=uk rt n1;have c2:=qW a n2;have c3:=fun h1:rX rt=true=>fun h2:j7 a=true=>tM (yl h1 n1).1 (qi (rt:=rt) h2 n2).1;unfold p9;generalize rX rt=b1 at c1 c3 ⊢;generalize j7 a=b2 at c2 c3 ⊢;generalize kl rt a=z at c3 ⊢;refine qX 2 rfl ?_;refine qK 1 rfl ?_;refine ab.call tok rfl rfl rfl rfl c1 ?_;cases b1 with
 | false =>
   refine qU 11 rfl ?_;exact qN rfl
 | true =>
 refine qU 2 rfl ?_;refine ab.call tok rfl rfl rfl rfl c2 ?_;cases b2 with
 | false =>
   refine qU 8 rfl ?_;exact qN rfl
 | true =>
 refine qU 4 rfl ?_;refine ab.call tok rfl rfl rfl rfl (c3 rfl rfl) ?_;refine qU 3 rfl ?_;rw[show ((z:Int)==0)=decide (z=0) by by_cases h:z=0<;>simp[h]];exact qN rfl
end Lift
namespace Lift
open Go Go.Proofs
theorem ES:RT Tryz.prog 53 (List RD) (fun l=>[dw l]) (fun l=>Fb l) :=
 (RT.sliceB 32 (el:=RD.D) (s:=3) Tryz.underlying53 (by kernel_rfl) (by kernel_rfl) (by decide) (Nat.le_of_ble_eq_true (by kernel_rfl)) Ex (fun v=>rfl)).map id (fun l h=>rfl) (fun l h=>⟨by have:=h.1;unfold reachBytes at this;show l.length≤_;omega,uq (fun v hv=>(h.2 v hv).mono (by decide)) ⟨fun _ h=>(by cases h),fun _ h=>(by cases h),Nat.zero_le _,Nat.zero_le _⟩⟩) (fun v=>⟨by kernel_rfl,fun d hd=>by simp at hd;subst hd;rfl⟩)
theorem Aw:RT Tryz.prog 22 (List (List RD)) (fun l=>[kG l]) (fun l=>Nb2 l) :=
 (RT.slice (el:=dw) (s:=1) (by kernel_rfl) (by kernel_rfl) (by kernel_rfl) (by decide) (Nat.le_of_ble_eq_true (by kernel_rfl)) ES (fun v=>rfl)).map id (fun l h=>rfl) (fun l h=>⟨Nat.le_trans h.1 (by decide),fun i=>uq (p:=Fb) (l:=l) h.2 Av i⟩) (fun v=>⟨by kernel_rfl,fun d hd=>by simp at hd;subst hd;rfl⟩)
theorem Cq:Nb2 []:=⟨Nat.zero_le _,fun _=>Av⟩
theorem n_mat:RT Tryz.prog 25 (List (List (List RD))) (fun l=>[MxR l]) (fun l=>Nb3 l) :=
 (RT.slice (el:=kG) (s:=1) (by kernel_rfl) (by kernel_rfl) (by kernel_rfl) (by decide) (Nat.le_of_ble_eq_true (by kernel_rfl)) Aw (fun v=>rfl)).map id (fun l h=>rfl) (fun l h=>⟨Nat.le_trans h.1 (by decide),fun i=>uq (p:=Nb2) (l:=l) h.2 Cq i⟩) (fun v=>⟨by kernel_rfl,fun d hd=>by simp at hd;subst hd;rfl⟩)
theorem n_tower:RT Tryz.prog 24 (List (List RD)) (fun l=>[kG l]) (fun l=>Nb2 l):=by
 have h:=RT.struct (P:=Tryz.prog) (t:=24) (m:=1) Tryz.underlying24 (by kernel_rfl) (zw.cons (by kernel_rfl) Aw zw.nil) (fun v=>rfl);exact h.map (fun v=>v.1) (fun v h=>rfl) (fun v h=>h.1) (fun v=>⟨by kernel_rfl,fun d hd=>by simp at hd;subst hd;rfl⟩)
end Lift
