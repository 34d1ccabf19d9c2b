/- Parts of the proof, one behind the other: the logic, the contracts of the functions that the statement reaches. -/
import Derived.Test.YtfakkdmfofiibaaGreatT3D
set_option linter.unusedVariables false
set_option linter.unusedSimpArgs false
namespace Lift
open Go Go.Proofs
abbrev tt(Vs:List Value):List D:=Vs.map D.v
theorem bE{Vs:List Value}{i:Nat}(h:i<Vs.length):(tt Vs)[i]?=some (.v (Vs.getD i undef)):=by simp[h]
abbrev OA(Vs:List Value):AV:=AV.ow 22 (tt Vs)
abbrev CA(cols:List Nat):AV:=AV.ow 3 (cols.map (fun c:Nat=>dI c))
def bG(Vs:List Value)(a:br):List LR:=List.zipWith (fun V r=>(V,fD r)) Vs a
theorem Cz{Vs:List Value}{a:br}(h:Vs.length=a.length)(V:Value)(r:List NQ):bG (Vs++[V]) (a++[r])=bG Vs a++[(V,fD r)]:=by
 unfold bG;rw[List.zipWith_append h];rfl
theorem gT{Vs:List Value}{a:br}{j:Nat}(hV:j<Vs.length)(ha:j<a.length):(bG Vs a)[j]?=some (Vs.getD j undef,fD (a.getD j [])):=by
 unfold bG;simp[List.getElem?_zipWith,hV,ha]
theorem sN{Vs:List Value}{a:br}{j:Nat}(hV:j<Vs.length)(ha:j<a.length)(V:Value)(r:List NQ):(bG Vs a).set j (V,fD r)=bG (Vs.set j V) (a.set j r):=by
 unfold bG;refine List.ext_getElem? (fun k=>?_);by_cases hk:k=j
 · subst hk;rw[List.getElem?_set_self (by simp;omega)];simp[List.getElem?_zipWith,hV,ha]
 · rw[List.getElem?_set_ne (Ne.symm hk)];simp[List.getElem?_zipWith,List.getElem?_set_ne (Ne.symm hk)]
theorem AR{Vs:List Value}{j:Nat}(hV:j<Vs.length):Vs.set j (Vs.getD j undef)=Vs:=by
 refine List.ext_getElem? (fun k=>?_);by_cases hk:k=j
 · subst hk;rw[List.getElem?_set_self hV];simp[hV]
 · rw[List.getElem?_set_ne (Ne.symm hk)]
theorem vZ{a:br}{j:Nat}(ha:j<a.length):a.set j (a.getD j [])=a:=by
 refine List.ext_getElem? (fun k=>?_);by_cases hk:k=j
 · subst hk;rw[List.getElem?_set_self ha];simp[ha]
 · rw[List.getElem?_set_ne (Ne.symm hk)]
theorem qC{Vs:List Value}{a:br}{j:Nat}(hV:j<Vs.length)(ha:j<a.length)(r:List NQ):(bG Vs a).set j (Vs.getD j undef,fD r)=bG Vs (a.set j r):=by
 rw[sN hV ha,AR hV]
def Fo(Vs:List Value)(r t:Nat):List Value:=(Vs.set t (Vs.getD r undef)).set r (Vs.getD t undef)
theorem CM(Vs:List Value)(r t:Nat):(Fo Vs r t).length=Vs.length:=by unfold Fo;rw[List.length_set,List.length_set]
theorem Cy{Vs:List Value}{a:br}{r t:Nat}(h:Vs.length=a.length)(hr:r<a.length)(ht:t<a.length):
  ((bG Vs a).set t (Vs.getD r undef,fD (a.getD r []))).set r (Vs.getD t undef,fD (a.getD t []))=bG (Fo Vs r t) (CL a r t):=by
 rw[sN (by omega) ht,sN (by simp;omega) (by simp;omega)];rfl
theorem Cx{Vs:List Value}{a:br}{i r:Nat}(h:Vs.length=a.length)(hi:i<a.length)(hr:r<a.length)(hir:i≠r)(z:List NQ):
  ((bG Vs a).set i (Vs.getD i undef,fD z)).set r (Vs.getD r undef,fD (a.getD r []))=bG Vs (a.set i z):=by
 rw[qC (by omega) hi];have e:a.getD r []=(a.set i z).getD r []:=by rw[gB,if_neg (fun g=>hir g.1.symm)]
 rw[e,qC (by omega) (by simpa using hr),vZ (by simpa using hr)]
section
variable {P:Program} {T:Ty} {B:Nat} {F0:Nat→Prop} {w0:bW} {n:Nat} {σ τ:St} {K:St→Prop} {all:Array Oper} {o:Oper} {d:Nat} {rest:List Oper} {R:List LR} {x:Code} {Q:Exit→List LR→St→Prop}
theorem ab.yT(hT:bd P T){k e i:Nat}{Vs:List Value}(V:Value)(hd:o.dst=none)(hg:aA all σ o=true)(hx:y0 T σ o.op=some (k,.ow e (tt Vs),tt Vs,i,0,.v V))(hi:i<Vs.length)
  (h:ab P B F0 w0 n all rest K ((k,.ow e (tt (Vs.set i V)))::σ)):ab P B F0 w0 n all (o::rest) K σ:=by
 refine ab.iL hT (.v (Vs.getD i undef)) hd hg hx (bE hi) rfl ?_;show ab P B F0 w0 n all rest K ((k,.ow e ((tt Vs).set i (.v V)))::σ);rw[show (tt Vs).set i (.v V)=tt (Vs.set i V) from (List.map_set ..).symm];exact h
theorem AZ.BM(hT:bd P T){e eo:Nat}{te:TI}(he:T.get e=some te)(h1:te.size=1){Vr:Value}{X:LR}{Vs:List Value}{a:br}(hl:Vs.length=a.length)
  (h:AZ P B F0 w0 n x Q [(Vr,.ow eo (a.map eM)),X] σ): ∀(m k:Nat),m+k=a.length→ ∀L:List LR,(∀j,k≤j→j<a.length→L[j]?=some (Vs.getD j undef,.ow e ((a.getD j []).map af))) →
  AZ P B F0 w0 n x Q ((Vr,.ow eo ((a.take k).map eM++(tt Vs).drop k))::X::L) σ
 | 0,k,hk,L,hL=>by
   rw[List.take_of_length_le (by omega),List.drop_eq_nil_of_le (by rw[List.length_map];omega),List.append_nil];refine AZ.Eb _ (fun i r hr=> .inl ?_) h
   match i,hr with
   | 0,hr=>exact hr
   | 1,hr=>exact hr
 | m+1,k,hk,L,hL=>by
   have hka:k<a.length:=by omega
   have hll:k<L.length:=(List.getElem?_eq_some_iff.1 (hL k (Nat.le_refl _) hka)).1;have hft:((a.take k).map eM).length=k:=by rw[List.length_map,List.length_take];omega
   refine AZ.ET hT (k+2) 0 k (cs:=(a.take k).map eM++(tt Vs).drop k) rfl (fun d hd=>?_) ?_ (hL k (Nat.le_refl _) hka) (by omega) he ?_
   · rcases List.mem_append.1 hd with g | g
     · obtain ⟨r,_,rfl⟩:=List.mem_map.1 g;rfl
     · obtain ⟨V,_,rfl⟩:=List.mem_map.1 (List.mem_of_mem_drop g);rfl
   · rw[List.getElem?_append_right (by omega),hft,Nat.sub_self,List.getElem?_drop,Nat.add_zero];exact bE (by omega)
   · have e1:((a.take k).map eM++(tt Vs).drop k).set k (.sl te.size ((a.getD k []).map af))=(a.take (k+1)).map eM++(tt Vs).drop (k+1):=by
      rw[h1,List.set_append_right _ _ (by omega),hft,Nat.sub_self,List.take_succ_eq_append_getElem hka,List.map_append]
      have:(tt Vs).drop k= .v (Vs.getD k undef)::(tt Vs).drop (k+1):=by
       rw[List.drop_eq_getElem_cons (by rw[List.length_map];omega)]
       congr 1
       have:=bE (Vs:=Vs) (i:=k) (by omega);rw[List.getElem?_eq_getElem (by rw[List.length_map];omega)] at this;simpa using this
      rw[this,List.set_cons_zero,List.append_assoc];have g:a[k]=a.getD k []:=by rw[List.getD_eq_getElem?_getD,List.getElem?_eq_getElem hka];rfl
      rw[g];rfl
     show AZ P B F0 w0 n x Q ((Vr,.ow eo (((a.take k).map eM++(tt Vs).drop k).set k (.sl te.size ((a.getD k []).map af))))::X::L.set k (Vs.getD k undef,.junk)) σ;rw[e1]
     exact AZ.BM hT he h1 hl h m (k+1) (by omega) (L.set k (Vs.getD k undef,.junk)) (fun j hj hja=>by
      rw[List.getElem?_set_ne (by omega)];exact hL j (by omega) hja)
end
abbrev DR(s:j7):D:= .ag [eO s.rows,.sl 1 (s.cols.map (fun c:Nat=>dI c)),dI s.sg,af s.det]
set_option maxHeartbeats 12800000 in
theorem oV{v:List NQ}(V:jH v){a:br}{N most:Nat}(ha0:0<a.length)(ha:a.length≤1000000)(hN:N≤1000000)(hmost:most≤N)(hr:bt N a)(hl:kn v.length a)(ok: ∀c,c<most→lE v (aH v a c) c):
  Pure Tryz.prog 46 [bF v,eO a,dI most] (.tu [DR (aH v a most),aj]):=by
 refine qJ 205 Tryz.func46 rfl rfl rfl rfl (by kernel_rfl) (fun B F0 w0=>?_);have cone:=px (Qr ((1:Int):Rat)) (k:=1) (jD _ (by have:=sM;rw[show ((1:Int):Rat)=1 from rfl];omega)) (by decide) (by decide) (zD _);rw[cT,show FL ((1:Int):Rat)=[1] from rfl] at cone;have htk:=fun {i:Nat} (hi:i<a.length)=>List.take_succ_eq_append_getElem (l:=a) hi;refine AZ.aw ?_;refine AZ.seq ?_;refine AZ.gH (fun B1 F1 w1=>?_);refine qU 3 rfl ?_;refine ab.nil ⟨rfl,?_⟩;refine AZ.seq ?_;refine AZ.gH (fun B1 F1 w1=>?_);refine ab.call tok rfl rfl rfl rfl (ix 1 (by decide) (by decide)) ?_;refine ab.call tok rfl rfl rfl rfl cone ?_;refine ab.E4 tok [.v fg,.v fg,dI 0,.sl 3 []] rfl rfl rfl rfl (by kernel_rfl) ?_;refine qU 2 rfl ?_;refine ab.nil ⟨rfl,?_⟩;refine AZ.vf 22 ?_;refine AZ.vf 3 ?_;refine AZ.seq ?_;refine AZ.seq ?_;refine AZ.gH (fun B1 F1 w1=>?_);refine qU 2 rfl ?_;rw[List.length_map];refine qU 1 rfl ?_;refine ab.nil ⟨rfl,?_⟩;refine AZ.block ?_;refine AZ.aE [2,3,6,7,8,22,23,24] (fun s:Nat×Value×List Value=>((s.2.1,OA s.2.2)::(fg,CA [])::bG s.2.2 (a.take s.1),[(2,.d (dI most)),(3,.bx [.sl 1 (v.map af)]),(6,.bx [.sl 1 [],.sl 1 [],dI 0,.sl 3 []]),(7,.d aj),(8,.bx [.v s.2.1,.v fg,dI 1,af [1]]),(22,.d (eO a)),(23,.d (dI a.length)),(24,.d (dI s.1))])) (fun s=>s.1≤a.length∧s.2.2.length=s.1) (fun s=>a.length-s.1) (0,fg,[]) rfl ⟨Nat.zero_le _,rfl⟩ (fun s hs=>?_);obtain ⟨i,Vr,Vs⟩:=s;obtain ⟨hi,hVs⟩:=hs
 dsimp only at hi hVs
 show AZ _ _ _ _ _ _ _ ((Vr,OA Vs)::(fg,CA [])::bG Vs (a.take i)) [(2,.d (dI most)),(3,.bx [.sl 1 (v.map af)]),(6,.bx [.sl 1 [],.sl 1 [],dI 0,.sl 3 []]),(7,.d aj),(8,.bx [.v Vr,.v fg,dI 1,af [1]]),(22,.d (eO a)),(23,.d (dI a.length)),(24,.d (dI i))];refine AZ.seq ?_;refine AZ.gH (fun B1 F1 w1=>?_);refine qU 1 rfl ?_;refine ab.nil ⟨rfl,?_⟩;refine AZ.seq ?_;refine AZ.cond rfl (fun h=>?_) (fun h=>?_)
 · have hii:i<a.length:=by have:=of_decide_eq_true h;omega
   have hg:=getM eM (l:=a) (i:=i) hii;have hrl:(a.getD i []).length≤1000000:=by rw[hr i hii];exact hN
   have htk:=htk hii;have hge:a[i]=a.getD i []:=by rw[List.getD_eq_getElem?_getD,List.getElem?_eq_getElem hii];rfl
   rw[hge] at htk;generalize a.getD i []=row at hg hrl htk;refine AZ.skip ?_;refine AZ.seq ?_;refine AZ.block ?_;refine AZ.seq ?_;refine AZ.gH (fun B1 F1 w1=>?_);refine ab.idx tok (eM row) rfl rfl rfl rfl (Int.natCast_nonneg i) hg ?_;refine qU 2 rfl ?_;refine ab.nil ⟨rfl,?_⟩;refine AZ.any aP (ZH.any (β:=[]) ?_);refine ZH.mv 2 rfl rfl (by kernel_rfl) (by kernel_rfl) (by kernel_rfl) rfl (fun _ _ _ h=>h) (fun _=>rfl) trivial (fun B1 F1 w1=>?_);refine qU 1 rfl ?_;refine ab.nil ⟨rfl,?_⟩;refine ZH.fd tok 0 rfl rfl (by kernel_rfl) (by kernel_rfl) (by kernel_rfl) rfl (fun _ _ _ h=>h) (fun _=>rfl) trivial (fun B1 F1 w1=>?_);refine qU 1 rfl ?_;refine ab.nil ⟨rfl,?_⟩;refine ZH.meet 3 (qB 8 31) (fun V=>(((Vr,OA Vs)::(fg,CA [])::bG Vs (a.take i))++[(V,fD row)])) (fun V=>[(2,.d (dI most)),(3,.bx [.sl 1 (v.map af)]),(6,.bx [.sl 1 [],.sl 1 [],dI 0,.sl 3 []]),(7,.d aj),(8,.bx [.v Vr,.v fg,dI 1,af [1]]),(22,.d (eO a)),(23,.d (dI a.length)),(24,.d (dI i)),(10,.d (eM row)),(30,.d (eM row)),(28,.pt 8 0),(29,.d (.v Vr)),(31,.d (.v V)),(32,.d (.sl 1 [.v V]))]) (fun V=>?_) (fun N1_2=>?_)
   · refine ZH.all 5 (by kernel_rfl) rfl rfl (fun _=>rfl) trivial ?_;refine ai.fB 29 0 rfl rfl rfl ?_;refine ai.cut 1 rfl (fun B1 F1 w1=>?_);refine ab.kt tok rfl rfl rfl rfl rfl rfl (by show ((tt Vs).length+1)*24≤_;rw[List.length_map];omega) (by show (tt Vs).length+1≤_;rw[List.length_map];omega) ?_;refine ab.nil ⟨rfl,?_⟩;refine ai.wQ 33 0 rfl rfl rfl rfl (fun Vq=>?_)
     refine ai.sh (R':=(Vq,OA (Vs++[V]))::(fg,CA [])::bG (Vs++[V]) (a.take (i+1))) (by
      show (Vq,AV.ow 22 (tt Vs++[.v V]))::(fg,CA [])::(bG Vs (a.take i)++[(V,fD row)])=_
      rw[htk,Cz (by rw[List.length_take];omega),show tt Vs++[.v V]=tt (Vs++[V]) by simp]) ?_
     refine ai.nil ?_;refine ZH.to [2,3,6,7,8,22,23,24,10,30,28,32,33] [(2,.d (dI most)),(3,.bx [.sl 1 (v.map af)]),(6,.bx [.sl 1 [],.sl 1 [],dI 0,.sl 3 []]),(7,.d aj),(8,.bx [.v Vr,.v fg,dI 1,af [1]]),(22,.d (eO a)),(23,.d (dI a.length)),(24,.d (dI i)),(10,.d (eM row)),(30,.d (eM row)),(28,.pt 8 0),(32,.d (.sl 1 [.v V])),(33,.d (.v Vq))] rfl trivial ?_;refine ZH.all 6 (by kernel_rfl) rfl rfl (fun _=>rfl) trivial ?_;refine ao (fun B1 F1 w1=>?_);refine qU 1 rfl ?_;refine ab.nil ⟨rfl,?_⟩;refine ZH.all 7 (by kernel_rfl) rfl rfl (fun _=>rfl) trivial ?_;refine ao (fun B1 F1 w1=>?_);refine qU 1 rfl ?_;refine ab.nil ⟨rfl,?_⟩;refine ZH.done (by kernel_rfl) trivial ?_;refine AZ.to [2,3,6,7,8,22,23,24] [(2,.d (dI most)),(3,.bx [.sl 1 (v.map af)]),(6,.bx [.sl 1 [],.sl 1 [],dI 0,.sl 3 []]),(7,.d aj),(8,.bx [.v Vq,.v fg,dI 1,af [1]]),(22,.d (eO a)),(23,.d (dI a.length)),(24,.d (dI i))] rfl ?_;refine AZ.gH (fun B1 F1 w1=>?_);refine qU 1 rfl ?_;rw[aD (x:=(i:Int)+1) (by omega) (by omega)];refine qU 1 rfl ?_;refine ab.nil ⟨rfl,?_⟩;exact⟨(i+1,Vq,Vs++[V]),rfl,⟨hii,by show (Vs++[V]).length=i+1;rw[List.length_append];show Vs.length+1=_;omega⟩,by show a.length-(i+1)<a.length-i;omega⟩
   refine ZH.meet 4 (qB 8 29) (fun V=>(((Vr,OA Vs)::(fg,CA [])::bG Vs (a.take i))++[(V,fD row)])) (fun V=>[(2,.d (dI most)),(3,.bx [.sl 1 (v.map af)]),(6,.bx [.sl 1 [],.sl 1 [],dI 0,.sl 3 []]),(7,.d aj),(8,.bx [.v Vr,.v fg,dI 1,af [1]]),(22,.d (eO a)),(23,.d (dI a.length)),(24,.d (dI i)),(10,.d (eM row)),(30,.d (eM row)),(28,.pt 8 0),(31,.d (.v V)),(32,.d (.sl 1 [.v V]))]) (fun V=>?_) (fun N0_2=>?_)
   · refine ZH.all 1 (by kernel_rfl) rfl rfl (fun _=>rfl) trivial ?_;refine ao (fun B1 F1 w1=>?_);refine qU 1 rfl ?_;refine ab.nil ⟨rfl,?_⟩;exact qL (N1_2 V) (by kernel_rfl) rfl trivial
   refine ZH.meet 4 (qB 8 15) (fun V=>(((Vr,OA Vs)::(fg,CA [])::bG Vs (a.take i))++[(V,fD row)])) (fun V=>[(2,.d (dI most)),(3,.bx [.sl 1 (v.map af)]),(6,.bx [.sl 1 [],.sl 1 [],dI 0,.sl 3 []]),(7,.d aj),(8,.bx [.v Vr,.v fg,dI 1,af [1]]),(22,.d (eO a)),(23,.d (dI a.length)),(24,.d (dI i)),(10,.d (eM row)),(30,.d (eM row)),(28,.pt 8 0),(29,.d (.v Vr)),(31,.d (.v V))]) (fun V=>?_) (fun N1_1=>?_)
   · refine ZH.all 4 (by kernel_rfl) rfl rfl (fun _=>rfl) trivial ?_;refine ao (fun B1 F1 w1=>?_);refine ab.fI tok rfl rfl rfl rfl rfl ?_;refine ab.nil ⟨rfl,?_⟩;exact qL (N1_2 V) (by kernel_rfl) rfl trivial
   refine ZH.meet 5 (qB 8 13) (fun V=>(((Vr,OA Vs)::(fg,CA [])::bG Vs (a.take i))++[(V,fD row)])) (fun V=>[(2,.d (dI most)),(3,.bx [.sl 1 (v.map af)]),(6,.bx [.sl 1 [],.sl 1 [],dI 0,.sl 3 []]),(7,.d aj),(8,.bx [.v Vr,.v fg,dI 1,af [1]]),(22,.d (eO a)),(23,.d (dI a.length)),(24,.d (dI i)),(10,.d (eM row)),(30,.d (eM row)),(28,.pt 8 0),(31,.d (.v V))]) (fun V=>?_) (fun N0_1=>?_)
   · refine ZH.two 1 4 (by kernel_rfl) rfl rfl rfl rfl (fun _=>rfl) (fun _=>rfl) trivial ?_ ?_
     · refine ao (fun B1 F1 w1=>?_);refine qU 1 rfl ?_;refine ab.nil ⟨rfl,?_⟩;exact qL (N1_1 V) (by kernel_rfl) rfl trivial
     · refine ao (fun B1 F1 w1=>?_);refine ab.fI tok rfl rfl rfl rfl rfl ?_;refine ab.nil ⟨rfl,?_⟩;exact qL (N0_2 V) (by kernel_rfl) rfl trivial
   refine ZH.meet 5 (qB 8 7) (fun V=>((Vr,OA Vs)::(fg,CA [])::bG Vs (a.take i))) (fun V=>[(2,.d (dI most)),(3,.bx [.sl 1 (v.map af)]),(6,.bx [.sl 1 [],.sl 1 [],dI 0,.sl 3 []]),(7,.d aj),(8,.bx [.v Vr,.v fg,dI 1,af [1]]),(22,.d (eO a)),(23,.d (dI a.length)),(24,.d (dI i)),(10,.d (eM row)),(30,.d (eM row)),(28,.pt 8 0),(29,.d (.v Vr))]) (fun V=>?_) (fun N1_0=>?_)
   · refine ZH.all 3 (by kernel_rfl) rfl rfl (fun _=>rfl) trivial ?_;refine ai.lv tok [] rfl rfl rfl rfl rfl List.nodup_nil rfl (xe row hrl) (fun _ _ _=>Nat.zero_le _) (fun res R1 hP=>?_);obtain ⟨V,rfl,rfl⟩:=hP;refine ai.nil ?_;exact qL (N1_1 V) (by kernel_rfl) rfl trivial
   refine ZH.meet 6 (qB 8 5) (fun V=>((Vr,OA Vs)::(fg,CA [])::bG Vs (a.take i))) (fun V=>[(2,.d (dI most)),(3,.bx [.sl 1 (v.map af)]),(6,.bx [.sl 1 [],.sl 1 [],dI 0,.sl 3 []]),(7,.d aj),(8,.bx [.v Vr,.v fg,dI 1,af [1]]),(22,.d (eO a)),(23,.d (dI a.length)),(24,.d (dI i)),(10,.d (eM row)),(30,.d (eM row)),(28,.pt 8 0)]) (fun V=>?_) (fun N0_0=>?_)
   · refine ZH.two 1 3 (by kernel_rfl) rfl rfl rfl rfl (fun _=>rfl) (fun _=>rfl) trivial ?_ ?_
     · refine ao (fun B1 F1 w1=>?_);refine qU 1 rfl ?_;refine ab.nil ⟨rfl,?_⟩;exact qL (N1_0 V) (by kernel_rfl) rfl trivial
     · refine ai.lv tok [] rfl rfl rfl rfl rfl List.nodup_nil rfl (xe row hrl) (fun _ _ _=>Nat.zero_le _) (fun res R1 hP=>?_);obtain ⟨V,rfl,rfl⟩:=hP;refine ai.nil ?_;exact qL (N0_1 V) (by kernel_rfl) rfl trivial
   exact qL (N0_0 fg) (by kernel_rfl) rfl trivial
 have hii:i=a.length:=by have:=of_decide_eq_false h;omega
 subst hii;rw[List.take_length];refine AZ.exit ?_;refine AZ.seq ?_;refine AZ.seq ?_;refine AZ.gH (fun B1 F1 w1=>?_);refine qU 2 rfl ?_;refine ab.nil ⟨rfl,?_⟩;refine AZ.block ?_;refine AZ.aE [3,6,7,8,36,37] (fun z:Nat×Value×Value×List Value=>((z.2.1,OA z.2.2.2)::(z.2.2.1,CA (aH v a z.1).cols)::bG z.2.2.2 (aH v a z.1).rows,[(3,.bx [.sl 1 (v.map af)]),(6,.bx [.sl 1 [],.sl 1 [],dI 0,.sl 3 []]),(7,.d aj),(8,.bx [.v z.2.1,.v z.2.2.1,dI (aH v a z.1).sg,af (aH v a z.1).det]),(36,.d (dI most)),(37,.d (dI z.1))])) (fun z=>z.1≤most∧z.2.2.2.length=a.length) (fun z=>most-z.1) (0,Vr,fg,Vs) rfl ⟨Nat.zero_le _,hVs⟩ (fun z hz=>?_);clear hVs;clear Vr Vs;obtain ⟨c,Vr,Vc,Vs⟩:=z;obtain ⟨hc,hVs⟩:=hz
 dsimp only at hc hVs
 have hR:=eQ V hr hl c;have hnext:aH v a (c+1)=df v (aH v a c) c:=rfl;have hok:=ok c;obtain ⟨s,hs⟩: ∃s,aH v a c=s:=⟨_,rfl⟩;rw[hs] at hR hnext hok;show AZ _ _ _ _ _ _ _ ((Vr,OA Vs)::(Vc,CA (aH v a c).cols)::bG Vs (aH v a c).rows) [(3,.bx [.sl 1 (v.map af)]),(6,.bx [.sl 1 [],.sl 1 [],dI 0,.sl 3 []]),(7,.d aj),(8,.bx [.v Vr,.v Vc,dI (aH v a c).sg,af (aH v a c).det]),(36,.d (dI most)),(37,.d (dI c))];rw[hs];refine AZ.seq ?_;refine AZ.gH (fun B1 F1 w1=>?_);refine qU 1 rfl ?_;refine ab.nil ⟨rfl,?_⟩;refine AZ.seq ?_;refine AZ.cond rfl (fun h=>?_) (fun h=>?_);rotate_left
 · have hcm:c=most:=by have:=of_decide_eq_false h;omega
   subst hcm;rw[hs];refine AZ.exit ?_;refine AZ.Eb ((Vr,AV.ow 22 ((s.rows.take 0).map eM++(tt Vs).drop 0))::(Vc,CA s.cols)::bG Vs s.rows) (fun _ _ h=> .inl h) ?_;refine AZ.BM (te:=_) tok (e:=53) rfl rfl (by rw[hR.len];exact hVs) ?_ s.rows.length 0 (by omega) (bG Vs s.rows) (fun j _ hj=>gT (by rw[hVs,← hR.len];exact hj) hj);refine AZ.Dx tok 8 0 0 rfl rfl rfl rfl ?_;refine AZ.Dx tok 8 1 1 rfl rfl rfl rfl ?_;refine AZ.seq ?_;refine AZ.gH (fun B1 F1 w1=>?_);refine qU 3 rfl ?_;refine ab.nil ⟨rfl,?_⟩;exact AZ.ret rfl
 have hcm:c<most:=by have:=of_decide_eq_true h;omega
 have hok:=hok hcm;have hm:=hR.len;have hcN:c<N:=by omega
 have hVm:Vs.length=s.rows.length:=by omega
 have hrm:=hR.cm;rw[← hm] at hrm;obtain ⟨hat1,hat2,hat3,hat4⟩:=fA v s c hrm;have hrow0:0<s.rows.length:=by omega
 have hm6:s.rows.length≤1000000:=by omega
 have hel: ∀{b:br} {i:Nat},bt N b→i<b.length→ ∀k,k<N→((b.getD i []).map af)[k]?=some (af (bY b i k)):=fun {b i} hb hi k hk=>getM af (by rw[hb i hi];exact hk);refine AZ.skip ?_;refine AZ.seq ?_;refine AZ.block ?_;refine AZ.seq ?_;refine AZ.gH (fun B1 F1 w1=>?_);refine qU 2 rfl ?_;refine ab.nil ⟨rfl,?_⟩;refine AZ.seq ?_;refine AZ.region ?_;refine ai.cut 2 rfl (fun B1 F1 w1=>?_);refine qU 2 rfl ?_;refine ab.nil ⟨rfl,?_⟩;refine ai.fB 41 1 rfl rfl rfl ?_;refine ai.cut 1 rfl (fun B1 F1 w1=>?_);refine qU 1 rfl ?_;rw[List.length_map];refine ab.nil ⟨rfl,?_⟩;refine ai.back 41 1 rfl rfl rfl (List.Mem.head _) rfl ?_;refine ai.cut 1 rfl (fun B1 F1 w1=>?_);refine qU 1 rfl ?_;refine ab.nil ⟨rfl,?_⟩;refine ai.nil ?_;refine AZ.to [3,6,7,8,11,12,36,37] [(3,.bx [.sl 1 (v.map af)]),(6,.bx [.sl 1 [],.sl 1 [],dI 0,.sl 3 []]),(7,.d aj),(8,.bx [.v Vr,.v Vc,dI s.sg,af s.det]),(11,.d (dI c)),(12,.d (dI s.cols.length)),(36,.d (dI most)),(37,.d (dI c))] rfl ?_;refine AZ.seq ?_;refine AZ.gH (fun B1 F1 w1=>?_);refine qU 2 rfl ?_;refine ab.nil ⟨rfl,?_⟩;refine AZ.cut [3,6,7,8,11,12,13,36,37] (fun _:Unit=>(((Vr,OA Vs)::(Vc,CA s.cols)::bG Vs s.rows),[(3,.bx [.sl 1 (v.map af)]),(6,.bx [.sl 1 [],.sl 1 [],dI 0,.sl 3 []]),(7,.d aj),(8,.bx [.v Vr,.v Vc,dI s.sg,af s.det]),(11,.d (dI c)),(12,.d (dI s.cols.length)),(13,.d (dI (atR v s c))),(36,.d (dI most)),(37,.d (dI c))])) (fun _=>True) ?_ (fun _ _=>?_)
 · refine AZ.block ?_;refine AZ.aE [3,6,7,8,11,12,13,36,37] (fun j:Nat=>(((Vr,OA Vs)::(Vc,CA s.cols)::bG Vs s.rows),[(3,.bx [.sl 1 (v.map af)]),(6,.bx [.sl 1 [],.sl 1 [],dI 0,.sl 3 []]),(7,.d aj),(8,.bx [.v Vr,.v Vc,dI s.sg,af s.det]),(11,.d (dI c)),(12,.d (dI s.cols.length)),(13,.d (dI j)),(36,.d (dI most)),(37,.d (dI c))])) (fun j=>s.cols.length≤j∧j≤s.rows.length∧gM (FM v s.rows c) (s.rows.length-j) j=atR v s c) (fun j=>s.rows.length-j) s.cols.length rfl ⟨Nat.le_refl _,hrm,rfl⟩ (fun j hj=>?_);show AZ _ _ _ _ _ _ _ ((Vr,OA Vs)::(Vc,CA s.cols)::bG Vs s.rows) [(3,.bx [.sl 1 (v.map af)]),(6,.bx [.sl 1 [],.sl 1 [],dI 0,.sl 3 []]),(7,.d aj),(8,.bx [.v Vr,.v Vc,dI s.sg,af s.det]),(11,.d (dI c)),(12,.d (dI s.cols.length)),(13,.d (dI j)),(36,.d (dI most)),(37,.d (dI c))];obtain ⟨j1,j2,j3⟩:=hj;refine AZ.seq ?_;refine AZ.seq ?_;refine AZ.any aP (xl.zo 18 (by kernel_rfl) (fun B1 F1 w1 hS=>?_));have hS0:=hS.at (i:=0) rfl (by rw[List.length_map];omega);refine qP 3 rfl ?_;refine ae.lens tok hS0 rfl rfl rfl rfl rfl ?_;rw[List.length_map];refine qP 1 rfl ?_;by_cases hjm:j<s.rows.length;rotate_left
   · rw[wY hjm] at j3;rw[decide_eq_false (show ¬(j:Int)<(Vs.length:Int) by omega)];refine qP 13 rfl ?_;refine ae.nil ⟨rfl,?_⟩;refine ai.nil ?_;refine AZ.ay rfl ?_;exact AZ.exit ⟨(),by rw[← j3];rfl,trivial⟩
   rw[decide_eq_true (show (j:Int)<(Vs.length:Int) by omega)];have hj6:(s.rows.getD j []).length=N:=hR.rect j hjm;have hS1:=hS.at (i:=j+2) (gT (Vs:=Vs) (by omega) hjm) (by rw[List.length_map];omega);have cs:=kV V (hR.lt j c) (hok.sg j j1 hjm);have hnz:FM v s.rows c j=decide (oF v (bY s.rows j c)≠0):=rfl;generalize oF v (bY s.rows j c)=g at cs hnz;refine qP 5 rfl ?_;refine ae.idxs tok hS0 rfl rfl rfl rfl rfl (Int.natCast_nonneg j) (by rw[List.length_map];omega) ?_;refine ae.aY tok (.v (Vs.getD j undef)) hS0 rfl rfl rfl rfl rfl rfl rfl (bE (by omega)) rfl ?_;refine qP 1 rfl ?_;refine ae.idxs tok hS1 rfl rfl rfl rfl rfl (Int.natCast_nonneg c) (by rw[List.length_map];omega) ?_;refine ae.aY tok (af (bY s.rows j c)) hS1 rfl rfl rfl rfl rfl rfl rfl (hel hR.rect hjm c hcN) rfl ?_;refine ae.call tok rfl rfl rfl rfl rfl cs ?_;refine qP 2 rfl ?_;refine ae.nil ⟨rfl,?_⟩;refine ai.nil ?_;refine AZ.cond rfl (fun h=>?_) (fun h=>?_)
   · have hg:g=0:=beq_iff_eq.1 h;refine AZ.skip ?_;refine AZ.block ?_;refine AZ.gH (fun B1 F1 w1=>?_);refine qU 2 rfl ?_;rw[aD (x:=(j:Int)+1) (by omega) (by omega)];refine qU 1 rfl ?_;refine ab.nil ⟨rfl,?_⟩;exact⟨j+1,rfl,⟨by omega,hjm,by rw[← ud hjm (by rw[hnz,hg];rfl)];exact j3⟩,by omega⟩
   · have hg:g≠0:=beq_eq_false_iff_ne.1 h;rw[wX hjm (by rw[hnz,decide_eq_true hg])] at j3;exact AZ.exit ⟨(),by rw[← j3];rfl,trivial⟩
 show AZ _ _ _ _ _ _ _ ((Vr,OA Vs)::(Vc,CA s.cols)::bG Vs s.rows) [(3,.bx [.sl 1 (v.map af)]),(6,.bx [.sl 1 [],.sl 1 [],dI 0,.sl 3 []]),(7,.d aj),(8,.bx [.v Vr,.v Vc,dI s.sg,af s.det]),(11,.d (dI c)),(12,.d (dI s.cols.length)),(13,.d (dI (atR v s c))),(36,.d (dI most)),(37,.d (dI c))];refine AZ.seq ?_;refine AZ.seq ?_;refine AZ.A2 (fun B1 F1 w1 hS=>?_);refine qU 3 rfl ?_;refine ab.lens tok (hS.at (i:=0) rfl (by rw[List.length_map];omega)) rfl rfl rfl rfl ?_;rw[List.length_map];refine qU 1 rfl ?_;refine ab.nil ⟨rfl,?_⟩;refine AZ.cond rfl (fun h=>?_) (fun h=>?_)
 · have hat: ¬atR v s c<s.rows.length:=by have:=of_decide_eq_true h;omega
   have hst:aH v a (c+1)=s:=by rw[hnext];unfold df;rw[if_neg hat]
   refine AZ.exit ?_;refine AZ.gH (fun B1 F1 w1=>?_);refine qU 1 rfl ?_;rw[aD (x:=(c:Int)+1) (by omega) (by omega)];refine qU 1 rfl ?_;refine ab.nil ⟨rfl,?_⟩;exact⟨(c+1,Vr,Vc,Vs),by rw[hst];rfl,⟨hcm,hVs⟩,by show most-(c+1)<most-c;omega⟩
 have hat:atR v s c<s.rows.length:=by have:=of_decide_eq_false h;omega
 have hst:aH v a (c+1)=⟨cW v (eR v s c) s.cols.length c (eR v s c).length,s.cols++[c],if atR v s c=s.cols.length then s.sg else -s.sg,fP v s.det (pR v s c)⟩:=by rw[hnext];unfold df;rw[if_pos hat]
 obtain ⟨hb1,hb2,hb3⟩:=sG (c:=c) hR hat;obtain ⟨he1,he2,he3⟩:=zn V (c:=c) hR hat;have hbr:bR v s c=if atR v s c=s.cols.length then s.rows else CL s.rows s.cols.length (atR v s c):=rfl
 have hpr:pR v s c=bY (bR v s c) s.cols.length c:=rfl;have hE:eR v s c=(bR v s c).set s.cols.length (xo v ((bR v s c).getD s.cols.length []) (pR v s c)):=rfl;have okd:=hok.det hat;have okv:=hok.div hat;have oks:=hok.sg2 hat;have okt:=hok.take hat;generalize bR v s c=b at *;generalize pR v s c=p at *;generalize eR v s c=e at *;generalize atR v s c=t at *;refine AZ.skip ?_;refine AZ.cut [3,6,7,8,11,12,36,37] (fun Ws:List Value=>(((Vr,OA Ws)::(Vc,CA s.cols)::bG Ws b),[(3,.bx [.sl 1 (v.map af)]),(6,.bx [.sl 1 [],.sl 1 [],dI 0,.sl 3 []]),(7,.d aj),(8,.bx [.v Vr,.v Vc,dI (if t=s.cols.length then s.sg else -s.sg),af s.det]),(11,.d (dI c)),(12,.d (dI s.cols.length)),(36,.d (dI most)),(37,.d (dI c))])) (fun Ws=>Ws.length=b.length) ?_ (fun Ws hWs=>?_)
 · refine AZ.seq ?_;refine AZ.gH (fun B1 F1 w1=>?_);refine qU 3 rfl ?_;refine ab.nil ⟨rfl,?_⟩;by_cases htr:t=s.cols.length
   · rw[if_pos htr] at hbr;rw[bne_eq_false_iff_eq.2 (show (t:Int)=(s.cols.length:Int) by omega)];refine AZ.ay rfl ?_;refine AZ.skip ?_;exact⟨Vs,by rw[if_pos htr,hbr];rfl,by omega⟩
   rw[if_neg htr] at hbr;rw[bne_iff_ne.2 (show (t:Int)≠(s.cols.length:Int) by omega)];refine AZ.aF rfl ?_;refine AZ.seq ?_;refine AZ.any aP (ZH.any (β:=[(8,[.v Vr,.v Vc,dI s.sg,af s.det])]) ?_);refine ZH.mv 2 rfl rfl (by kernel_rfl) (by kernel_rfl) (by kernel_rfl) rfl (fun _ _ _ h=>h) (fun _=>rfl) ⟨rfl,trivial⟩ (fun B1 F1 w1=>?_);refine qU 1 rfl ?_;refine ab.nil ⟨rfl,?_⟩;refine ZH.mv 5 rfl rfl (by kernel_rfl) (by kernel_rfl) (by kernel_rfl) rfl (fun _ _ _ h=>h) (fun _=>rfl) ⟨rfl,trivial⟩ (fun B1 F1 w1=>?_);refine qU 1 rfl ?_;refine ab.nil ⟨rfl,?_⟩;refine ZH.mv 8 rfl rfl (by kernel_rfl) (by kernel_rfl) (by kernel_rfl) rfl (fun _ _ _ h=>h) (fun _=>rfl) ⟨rfl,trivial⟩ (fun B1 F1 w1=>?_);refine qU 1 rfl ?_;refine ab.nil ⟨rfl,?_⟩;refine ZH.mv 13 rfl rfl (by kernel_rfl) (by kernel_rfl) (by kernel_rfl) rfl (fun _ _ _ h=>h) (fun _=>rfl) ⟨rfl,trivial⟩ (fun B1 F1 w1=>?_);refine qU 1 rfl ?_;refine ab.nil ⟨rfl,?_⟩;refine ZH.fd tok 0 rfl rfl (by kernel_rfl) (by kernel_rfl) (by kernel_rfl) rfl (fun _ _ _ h=>h) (fun _=>rfl) ⟨rfl,trivial⟩ (fun B1 F1 w1=>?_);refine qU 1 rfl ?_;refine ab.nil ⟨rfl,?_⟩;refine ZH.fd tok 3 rfl rfl (by kernel_rfl) (by kernel_rfl) (by kernel_rfl) rfl (fun _ _ _ h=>h) (fun _=>rfl) ⟨rfl,trivial⟩ (fun B1 F1 w1=>?_);refine qU 1 rfl ?_;refine ab.nil ⟨rfl,?_⟩;refine ZH.fd tok 6 rfl rfl (by kernel_rfl) (by kernel_rfl) (by kernel_rfl) rfl (fun _ _ _ h=>h) (fun _=>rfl) ⟨rfl,trivial⟩ (fun B1 F1 w1=>?_);refine qU 1 rfl ?_;refine ab.nil ⟨rfl,?_⟩;refine ZH.fd tok 11 rfl rfl (by kernel_rfl) (by kernel_rfl) (by kernel_rfl) rfl (fun _ _ _ h=>h) (fun _=>rfl) ⟨rfl,trivial⟩ (fun B1 F1 w1=>?_);refine qU 1 rfl ?_;refine ab.nil ⟨rfl,?_⟩;refine ZH.ld tok 1 rfl rfl (by kernel_rfl) (by kernel_rfl) (by kernel_rfl) rfl rfl (fun _ _ _ h=>h) (fun _=>rfl) ⟨rfl,trivial⟩ (fun B1 F1 w1=>?_);refine qU 1 rfl ?_;refine ab.nil ⟨rfl,?_⟩;refine ZH.ld tok 4 rfl rfl (by kernel_rfl) (by kernel_rfl) (by kernel_rfl) rfl rfl (fun _ _ _ h=>h) (fun _=>rfl) ⟨rfl,trivial⟩ (fun B1 F1 w1=>?_);refine qU 1 rfl ?_;refine ab.nil ⟨rfl,?_⟩;refine ZH.ld tok 7 rfl rfl (by kernel_rfl) (by kernel_rfl) (by kernel_rfl) rfl rfl (fun _ _ _ h=>h) (fun _=>rfl) ⟨rfl,trivial⟩ (fun B1 F1 w1=>?_);refine qU 1 rfl ?_;refine ab.nil ⟨rfl,?_⟩;refine ZH.ld tok 12 rfl rfl (by kernel_rfl) (by kernel_rfl) (by kernel_rfl) rfl rfl (fun _ _ _ h=>h) (fun _=>rfl) ⟨rfl,trivial⟩ (fun B1 F1 w1=>?_);refine qU 1 rfl ?_;refine ab.nil ⟨rfl,?_⟩;refine ZH.meet 4 (qB 20 65535) (fun V=>((Vr,OA Vs)::(Vc,CA s.cols)::bG Vs s.rows)) (fun V=>[(3,.bx [.sl 1 (v.map af)]),(6,.bx [.sl 1 [],.sl 1 [],dI 0,.sl 3 []]),(7,.d aj),(8,.bx [.v Vr,.v Vc,dI s.sg,af s.det]),(11,.d (dI c)),(12,.d (dI s.cols.length)),(13,.d (dI t)),(36,.d (dI most)),(37,.d (dI c)),(73,.d (.v Vr)),(74,.d (dI t)),(76,.d (.v Vr)),(77,.d (dI s.cols.length)),(79,.d (.v Vr)),(80,.d (dI s.cols.length)),(84,.d (.v Vr)),(85,.d (dI t)),(82,.d (.v (Vs.getD s.cols.length undef))),(87,.d (.v (Vs.getD t undef)))]) (fun V=>?_) (fun N2_2=>?_)
   · refine ZH.all 16 (by kernel_rfl) rfl rfl (fun _=>rfl) ⟨rfl,trivial⟩ ?_;refine ah (fun B1 F1 w1 hS=>?_);refine ab.idxs tok (hS.at (i:=0) rfl (by rw[List.length_map];omega)) rfl rfl rfl rfl (Int.natCast_nonneg _) (by show t<_;rw[List.length_map];omega) ?_;refine ab.nil ⟨rfl,?_⟩;refine ZH.to [3,6,7,8,11,12,13,36,37,73,74,76,77,79,80,84,85,82,87,88] [(3,.bx [.sl 1 (v.map af)]),(6,.bx [.sl 1 [],.sl 1 [],dI 0,.sl 3 []]),(7,.d aj),(8,.bx [.v Vr,.v Vc,dI s.sg,af s.det]),(11,.d (dI c)),(12,.d (dI s.cols.length)),(13,.d (dI t)),(36,.d (dI most)),(37,.d (dI c)),(73,.d (.v Vr)),(74,.d (dI t)),(76,.d (.v Vr)),(77,.d (dI s.cols.length)),(79,.d (.v Vr)),(80,.d (dI s.cols.length)),(84,.d (.v Vr)),(85,.d (dI t)),(82,.d (.v (Vs.getD s.cols.length undef))),(87,.d (.v (Vs.getD t undef))),(88,.d (.v (bf Vr (t*1))))] rfl ⟨rfl,trivial⟩ ?_;refine ZH.all 17 (by kernel_rfl) rfl rfl (fun _=>rfl) ⟨rfl,trivial⟩ ?_;refine ai.fB 73 0 rfl rfl rfl ?_;refine ai.el tok 73 88 rfl (List.Mem.head _) rfl rfl rfl (by rw[List.length_map];omega) rfl ?_;refine ai.cut 1 rfl (fun B1 F1 w1=>?_);refine ab.yT tok (Vs.getD s.cols.length undef) rfl rfl rfl (by omega) ?_;refine ab.nil ⟨rfl,?_⟩;refine ai.back 73 0 rfl rfl rfl (List.Mem.head _) rfl ?_;refine ai.nil ?_;refine ZH.to [3,6,7,8,11,12,13,36,37,73,74,76,77,79,80,84,85,82,87] [(3,.bx [.sl 1 (v.map af)]),(6,.bx [.sl 1 [],.sl 1 [],dI 0,.sl 3 []]),(7,.d aj),(8,.bx [.v Vr,.v Vc,dI s.sg,af s.det]),(11,.d (dI c)),(12,.d (dI s.cols.length)),(13,.d (dI t)),(36,.d (dI most)),(37,.d (dI c)),(73,.d (.v Vr)),(74,.d (dI t)),(76,.d (.v Vr)),(77,.d (dI s.cols.length)),(79,.d (.v Vr)),(80,.d (dI s.cols.length)),(84,.d (.v Vr)),(85,.d (dI t)),(82,.d (.v (Vs.getD s.cols.length undef))),(87,.d (.v (Vs.getD t undef)))] rfl ⟨rfl,trivial⟩ ?_;refine ZH.all 18 (by kernel_rfl) rfl rfl (fun _=>rfl) ⟨rfl,trivial⟩ ?_;refine ah (fun B1 F1 w1 hS=>?_);refine ab.idxs tok (hS.at (i:=0) rfl (by rw[List.length_map,List.length_set];omega)) rfl rfl rfl rfl (Int.natCast_nonneg _) (by show s.cols.length<_;rw[List.length_map,List.length_set];omega) ?_;refine ab.nil ⟨rfl,?_⟩;refine ZH.to [3,6,7,8,11,12,13,36,37,73,74,76,77,79,80,84,85,82,87,89] [(3,.bx [.sl 1 (v.map af)]),(6,.bx [.sl 1 [],.sl 1 [],dI 0,.sl 3 []]),(7,.d aj),(8,.bx [.v Vr,.v Vc,dI s.sg,af s.det]),(11,.d (dI c)),(12,.d (dI s.cols.length)),(13,.d (dI t)),(36,.d (dI most)),(37,.d (dI c)),(73,.d (.v Vr)),(74,.d (dI t)),(76,.d (.v Vr)),(77,.d (dI s.cols.length)),(79,.d (.v Vr)),(80,.d (dI s.cols.length)),(84,.d (.v Vr)),(85,.d (dI t)),(82,.d (.v (Vs.getD s.cols.length undef))),(87,.d (.v (Vs.getD t undef))),(89,.d (.v (bf Vr (s.cols.length*1))))] rfl ⟨rfl,trivial⟩ ?_;refine ZH.all 19 (by kernel_rfl) rfl rfl (fun _=>rfl) ⟨rfl,trivial⟩ ?_;refine ai.fB 76 0 rfl rfl rfl ?_;refine ai.el tok 76 89 rfl (List.Mem.head _) rfl rfl rfl (by rw[List.length_map,List.length_set];omega) rfl ?_;refine ai.cut 1 rfl (fun B1 F1 w1=>?_);refine ab.yT tok (Vs.getD t undef) rfl rfl rfl (by rw[List.length_set];omega) ?_;refine ab.nil ⟨rfl,?_⟩;refine ai.back 76 0 rfl rfl rfl (List.Mem.head _) rfl ?_;refine ai.nil ?_;refine ZH.done (by kernel_rfl) ⟨rfl,trivial⟩ ?_;refine AZ.to [3,6,7,8,11,12,13,36,37] [(3,.bx [.sl 1 (v.map af)]),(6,.bx [.sl 1 [],.sl 1 [],dI 0,.sl 3 []]),(7,.d aj),(8,.bx [.v Vr,.v Vc,dI s.sg,af s.det]),(11,.d (dI c)),(12,.d (dI s.cols.length)),(13,.d (dI t)),(36,.d (dI most)),(37,.d (dI c))] rfl ?_;refine AZ.AA (t+2) (s.cols.length+2) (gT (Vs:=Vs) (by omega) hat) (gT (Vs:=Vs) (by omega) (by omega)) ?_;show AZ _ _ _ _ _ _ _ ((Vr,OA (Fo Vs s.cols.length t))::(Vc,CA s.cols)::((bG Vs s.rows).set t (Vs.getD s.cols.length undef,fD (s.rows.getD s.cols.length []))).set s.cols.length (Vs.getD t undef,fD (s.rows.getD t []))) _;rw[Cy (by omega) (by omega) hat,← hbr];refine AZ.gH (fun B1 F1 w1=>?_);refine qU 3 rfl ?_;rw[aD (x:=0-s.sg) (by have:=hR.sg;omega) (by have:=hR.sg;omega),Int.zero_sub];refine qU 2 rfl ?_;refine ab.nil ⟨rfl,?_⟩;exact⟨Fo Vs s.cols.length t,by rw[if_neg htr];rfl,by show (Fo Vs s.cols.length t).length=_;rw[CM,hb1];omega⟩
   refine ZH.meet 5 (qB 20 64511) (fun V=>((Vr,OA Vs)::(Vc,CA s.cols)::bG Vs s.rows)) (fun V=>[(3,.bx [.sl 1 (v.map af)]),(6,.bx [.sl 1 [],.sl 1 [],dI 0,.sl 3 []]),(7,.d aj),(8,.bx [.v Vr,.v Vc,dI s.sg,af s.det]),(11,.d (dI c)),(12,.d (dI s.cols.length)),(13,.d (dI t)),(36,.d (dI most)),(37,.d (dI c)),(73,.d (.v Vr)),(74,.d (dI t)),(76,.d (.v Vr)),(77,.d (dI s.cols.length)),(79,.d (.v Vr)),(80,.d (dI s.cols.length)),(84,.d (.v Vr)),(85,.d (dI t)),(81,.d (.v (bf Vr (s.cols.length*1)))),(87,.d (.v (Vs.getD t undef)))]) (fun V=>?_) (fun N1_2=>?_)
   · refine ZH.all 10 (by kernel_rfl) rfl rfl (fun _=>rfl) ⟨rfl,trivial⟩ ?_;refine ah (fun B1 F1 w1 hS=>?_);refine ab.aY tok (.v (Vs.getD s.cols.length undef)) (hS.at (i:=0) rfl (by rw[List.length_map];omega)) rfl rfl rfl rfl rfl rfl (bE (by omega)) rfl ?_;refine ab.nil ⟨rfl,?_⟩;exact qL (N2_2 V) (by kernel_rfl) rfl ⟨rfl,trivial⟩
   refine ZH.meet 5 (qB 20 32767) (fun V=>((Vr,OA Vs)::(Vc,CA s.cols)::bG Vs s.rows)) (fun V=>[(3,.bx [.sl 1 (v.map af)]),(6,.bx [.sl 1 [],.sl 1 [],dI 0,.sl 3 []]),(7,.d aj),(8,.bx [.v Vr,.v Vc,dI s.sg,af s.det]),(11,.d (dI c)),(12,.d (dI s.cols.length)),(13,.d (dI t)),(36,.d (dI most)),(37,.d (dI c)),(73,.d (.v Vr)),(74,.d (dI t)),(76,.d (.v Vr)),(77,.d (dI s.cols.length)),(79,.d (.v Vr)),(80,.d (dI s.cols.length)),(84,.d (.v Vr)),(85,.d (dI t)),(82,.d (.v (Vs.getD s.cols.length undef))),(86,.d (.v (bf Vr (t*1))))]) (fun V=>?_) (fun N2_1=>?_)
   · refine ZH.all 15 (by kernel_rfl) rfl rfl (fun _=>rfl) ⟨rfl,trivial⟩ ?_;refine ah (fun B1 F1 w1 hS=>?_);refine ab.aY tok (.v (Vs.getD t undef)) (hS.at (i:=0) rfl (by rw[List.length_map];omega)) rfl rfl rfl rfl rfl rfl (bE (by omega)) rfl ?_;refine ab.nil ⟨rfl,?_⟩;exact qL (N2_2 V) (by kernel_rfl) rfl ⟨rfl,trivial⟩
   refine ZH.meet 6 (qB 20 63999) (fun V=>((Vr,OA Vs)::(Vc,CA s.cols)::bG Vs s.rows)) (fun V=>[(3,.bx [.sl 1 (v.map af)]),(6,.bx [.sl 1 [],.sl 1 [],dI 0,.sl 3 []]),(7,.d aj),(8,.bx [.v Vr,.v Vc,dI s.sg,af s.det]),(11,.d (dI c)),(12,.d (dI s.cols.length)),(13,.d (dI t)),(36,.d (dI most)),(37,.d (dI c)),(73,.d (.v Vr)),(74,.d (dI t)),(76,.d (.v Vr)),(77,.d (dI s.cols.length)),(79,.d (.v Vr)),(80,.d (dI s.cols.length)),(84,.d (.v Vr)),(85,.d (dI t)),(87,.d (.v (Vs.getD t undef)))]) (fun V=>?_) (fun N0_2=>?_)
   · refine ZH.all 9 (by kernel_rfl) rfl rfl (fun _=>rfl) ⟨rfl,trivial⟩ ?_;refine ah (fun B1 F1 w1 hS=>?_);refine ab.idxs tok (hS.at (i:=0) rfl (by rw[List.length_map];omega)) rfl rfl rfl rfl (Int.natCast_nonneg _) (by show s.cols.length<_;rw[List.length_map];omega) ?_;refine ab.nil ⟨rfl,?_⟩;exact qL (N1_2 V) (by kernel_rfl) rfl ⟨rfl,trivial⟩
   refine ZH.meet 6 (qB 20 31743) (fun V=>((Vr,OA Vs)::(Vc,CA s.cols)::bG Vs s.rows)) (fun V=>[(3,.bx [.sl 1 (v.map af)]),(6,.bx [.sl 1 [],.sl 1 [],dI 0,.sl 3 []]),(7,.d aj),(8,.bx [.v Vr,.v Vc,dI s.sg,af s.det]),(11,.d (dI c)),(12,.d (dI s.cols.length)),(13,.d (dI t)),(36,.d (dI most)),(37,.d (dI c)),(73,.d (.v Vr)),(74,.d (dI t)),(76,.d (.v Vr)),(77,.d (dI s.cols.length)),(79,.d (.v Vr)),(80,.d (dI s.cols.length)),(84,.d (.v Vr)),(85,.d (dI t)),(81,.d (.v (bf Vr (s.cols.length*1)))),(86,.d (.v (bf Vr (t*1))))]) (fun V=>?_) (fun N1_1=>?_)
   · refine ZH.two 10 15 (by kernel_rfl) rfl rfl rfl rfl (fun _=>rfl) (fun _=>rfl) ⟨rfl,trivial⟩ ?_ ?_
     · refine ah (fun B1 F1 w1 hS=>?_);refine ab.aY tok (.v (Vs.getD s.cols.length undef)) (hS.at (i:=0) rfl (by rw[List.length_map];omega)) rfl rfl rfl rfl rfl rfl (bE (by omega)) rfl ?_;refine ab.nil ⟨rfl,?_⟩;exact qL (N2_1 V) (by kernel_rfl) rfl ⟨rfl,trivial⟩
     · refine ah (fun B1 F1 w1 hS=>?_);refine ab.aY tok (.v (Vs.getD t undef)) (hS.at (i:=0) rfl (by rw[List.length_map];omega)) rfl rfl rfl rfl rfl rfl (bE (by omega)) rfl ?_;refine ab.nil ⟨rfl,?_⟩;exact qL (N1_2 V) (by kernel_rfl) rfl ⟨rfl,trivial⟩
   refine ZH.meet 6 (qB 20 16383) (fun V=>((Vr,OA Vs)::(Vc,CA s.cols)::bG Vs s.rows)) (fun V=>[(3,.bx [.sl 1 (v.map af)]),(6,.bx [.sl 1 [],.sl 1 [],dI 0,.sl 3 []]),(7,.d aj),(8,.bx [.v Vr,.v Vc,dI s.sg,af s.det]),(11,.d (dI c)),(12,.d (dI s.cols.length)),(13,.d (dI t)),(36,.d (dI most)),(37,.d (dI c)),(73,.d (.v Vr)),(74,.d (dI t)),(76,.d (.v Vr)),(77,.d (dI s.cols.length)),(79,.d (.v Vr)),(80,.d (dI s.cols.length)),(84,.d (.v Vr)),(85,.d (dI t)),(82,.d (.v (Vs.getD s.cols.length undef)))]) (fun V=>?_) (fun N2_0=>?_)
   · refine ZH.all 14 (by kernel_rfl) rfl rfl (fun _=>rfl) ⟨rfl,trivial⟩ ?_;refine ah (fun B1 F1 w1 hS=>?_);refine ab.idxs tok (hS.at (i:=0) rfl (by rw[List.length_map];omega)) rfl rfl rfl rfl (Int.natCast_nonneg _) (by show t<_;rw[List.length_map];omega) ?_;refine ab.nil ⟨rfl,?_⟩;exact qL (N2_1 V) (by kernel_rfl) rfl ⟨rfl,trivial⟩
   refine ZH.meet 7 (qB 20 31231) (fun V=>((Vr,OA Vs)::(Vc,CA s.cols)::bG Vs s.rows)) (fun V=>[(3,.bx [.sl 1 (v.map af)]),(6,.bx [.sl 1 [],.sl 1 [],dI 0,.sl 3 []]),(7,.d aj),(8,.bx [.v Vr,.v Vc,dI s.sg,af s.det]),(11,.d (dI c)),(12,.d (dI s.cols.length)),(13,.d (dI t)),(36,.d (dI most)),(37,.d (dI c)),(73,.d (.v Vr)),(74,.d (dI t)),(76,.d (.v Vr)),(77,.d (dI s.cols.length)),(79,.d (.v Vr)),(80,.d (dI s.cols.length)),(84,.d (.v Vr)),(85,.d (dI t)),(86,.d (.v (bf Vr (t*1))))]) (fun V=>?_) (fun N0_1=>?_)
   · refine ZH.two 9 15 (by kernel_rfl) rfl rfl rfl rfl (fun _=>rfl) (fun _=>rfl) ⟨rfl,trivial⟩ ?_ ?_
     · refine ah (fun B1 F1 w1 hS=>?_);refine ab.idxs tok (hS.at (i:=0) rfl (by rw[List.length_map];omega)) rfl rfl rfl rfl (Int.natCast_nonneg _) (by show s.cols.length<_;rw[List.length_map];omega) ?_;refine ab.nil ⟨rfl,?_⟩;exact qL (N1_1 V) (by kernel_rfl) rfl ⟨rfl,trivial⟩
     · refine ah (fun B1 F1 w1 hS=>?_);refine ab.aY tok (.v (Vs.getD t undef)) (hS.at (i:=0) rfl (by rw[List.length_map];omega)) rfl rfl rfl rfl rfl rfl (bE (by omega)) rfl ?_;refine ab.nil ⟨rfl,?_⟩;exact qL (N0_2 V) (by kernel_rfl) rfl ⟨rfl,trivial⟩
   refine ZH.meet 7 (qB 20 15359) (fun V=>((Vr,OA Vs)::(Vc,CA s.cols)::bG Vs s.rows)) (fun V=>[(3,.bx [.sl 1 (v.map af)]),(6,.bx [.sl 1 [],.sl 1 [],dI 0,.sl 3 []]),(7,.d aj),(8,.bx [.v Vr,.v Vc,dI s.sg,af s.det]),(11,.d (dI c)),(12,.d (dI s.cols.length)),(13,.d (dI t)),(36,.d (dI most)),(37,.d (dI c)),(73,.d (.v Vr)),(74,.d (dI t)),(76,.d (.v Vr)),(77,.d (dI s.cols.length)),(79,.d (.v Vr)),(80,.d (dI s.cols.length)),(84,.d (.v Vr)),(85,.d (dI t)),(81,.d (.v (bf Vr (s.cols.length*1))))]) (fun V=>?_) (fun N1_0=>?_)
   · refine ZH.two 10 14 (by kernel_rfl) rfl rfl rfl rfl (fun _=>rfl) (fun _=>rfl) ⟨rfl,trivial⟩ ?_ ?_
     · refine ah (fun B1 F1 w1 hS=>?_);refine ab.aY tok (.v (Vs.getD s.cols.length undef)) (hS.at (i:=0) rfl (by rw[List.length_map];omega)) rfl rfl rfl rfl rfl rfl (bE (by omega)) rfl ?_;refine ab.nil ⟨rfl,?_⟩;exact qL (N2_0 V) (by kernel_rfl) rfl ⟨rfl,trivial⟩
     · refine ah (fun B1 F1 w1 hS=>?_);refine ab.idxs tok (hS.at (i:=0) rfl (by rw[List.length_map];omega)) rfl rfl rfl rfl (Int.natCast_nonneg _) (by show t<_;rw[List.length_map];omega) ?_;refine ab.nil ⟨rfl,?_⟩;exact qL (N1_1 V) (by kernel_rfl) rfl ⟨rfl,trivial⟩
   refine ZH.meet 8 (qB 20 14847) (fun V=>((Vr,OA Vs)::(Vc,CA s.cols)::bG Vs s.rows)) (fun V=>[(3,.bx [.sl 1 (v.map af)]),(6,.bx [.sl 1 [],.sl 1 [],dI 0,.sl 3 []]),(7,.d aj),(8,.bx [.v Vr,.v Vc,dI s.sg,af s.det]),(11,.d (dI c)),(12,.d (dI s.cols.length)),(13,.d (dI t)),(36,.d (dI most)),(37,.d (dI c)),(73,.d (.v Vr)),(74,.d (dI t)),(76,.d (.v Vr)),(77,.d (dI s.cols.length)),(79,.d (.v Vr)),(80,.d (dI s.cols.length)),(84,.d (.v Vr)),(85,.d (dI t))]) (fun V=>?_) (fun N0_0=>?_)
   · refine ZH.two 9 14 (by kernel_rfl) rfl rfl rfl rfl (fun _=>rfl) (fun _=>rfl) ⟨rfl,trivial⟩ ?_ ?_
     · refine ah (fun B1 F1 w1 hS=>?_);refine ab.idxs tok (hS.at (i:=0) rfl (by rw[List.length_map];omega)) rfl rfl rfl rfl (Int.natCast_nonneg _) (by show s.cols.length<_;rw[List.length_map];omega) ?_;refine ab.nil ⟨rfl,?_⟩;exact qL (N1_0 V) (by kernel_rfl) rfl ⟨rfl,trivial⟩
     · refine ah (fun B1 F1 w1 hS=>?_);refine ab.idxs tok (hS.at (i:=0) rfl (by rw[List.length_map];omega)) rfl rfl rfl rfl (Int.natCast_nonneg _) (by show t<_;rw[List.length_map];omega) ?_;refine ab.nil ⟨rfl,?_⟩;exact qL (N0_1 V) (by kernel_rfl) rfl ⟨rfl,trivial⟩
   exact qL (N0_0 fg) (by kernel_rfl) rfl ⟨rfl,trivial⟩
 obtain ⟨sg,hsg⟩: ∃sg,(if t=s.cols.length then s.sg else -s.sg)=sg:=⟨_,rfl⟩;obtain ⟨r,hrr⟩: ∃r,s.cols.length=r:=⟨_,rfl⟩;have hrb:r<b.length:=by omega
 have hrN:(b.getD r []).length=N:=hb2 r hrb;have okc:=jN V hR.det (by rw[hpr];exact hb3 _ _) okd;rw[hsg] at hst;rw[hrr] at hst hpr hE okv oks okt;show AZ _ _ _ _ _ _ _ ((Vr,OA Ws)::(Vc,CA s.cols)::bG Ws b) [(3,.bx [.sl 1 (v.map af)]),(6,.bx [.sl 1 [],.sl 1 [],dI 0,.sl 3 []]),(7,.d aj),(8,.bx [.v Vr,.v Vc,dI (if t=s.cols.length then s.sg else -s.sg),af s.det]),(11,.d (dI c)),(12,.d (dI s.cols.length)),(36,.d (dI most)),(37,.d (dI c))];rw[hsg,hrr];refine AZ.seq ?_;refine AZ.A2 (fun B1 F1 w1 hS=>?_);refine qU 3 rfl ?_;refine ab.idxs tok (hS.at (i:=0) rfl (by rw[List.length_map];omega)) rfl rfl rfl rfl (Int.natCast_nonneg _) (by show r<_;rw[List.length_map];omega) ?_;refine ab.aY tok (.v (Ws.getD r undef)) (hS.at (i:=0) rfl (by rw[List.length_map];omega)) rfl rfl rfl rfl rfl rfl (bE (by omega)) rfl ?_;refine qU 1 rfl ?_;refine ab.idxs tok (hS.at (i:=r+2) (gT (Vs:=Ws) (by omega) hrb) (by rw[List.length_map];omega)) rfl rfl rfl rfl (Int.natCast_nonneg c) (by rw[List.length_map];omega) ?_;refine ab.aY tok (af (bY b r c)) (hS.at (i:=r+2) (gT (Vs:=Ws) (by omega) hrb) (by rw[List.length_map];omega)) rfl rfl rfl rfl rfl rfl (hel hb2 hrb c hcN) rfl ?_;rw[← hpr];refine qU 1 rfl ?_;refine ab.nil ⟨rfl,?_⟩;refine AZ.seq ?_;refine AZ.gH (fun B1 F1 w1=>?_);refine qU 1 rfl ?_;refine ab.nil ⟨rfl,?_⟩;refine AZ.seq ?_;refine AZ.seq ?_;refine AZ.gH (fun B1 F1 w1=>?_);refine qU 4 rfl ?_;refine ab.call tok rfl rfl rfl rfl okc ?_;refine qU 6 rfl ?_;refine ab.nil ⟨rfl,?_⟩;refine AZ.seq ?_;refine AZ.gH (fun B1 F1 w1=>?_);refine qU 1 rfl ?_;refine ab.err tok rfl rfl rfl rfl rfl ?_;refine ab.nil ⟨rfl,?_⟩;refine AZ.ay rfl ?_;refine AZ.skip ?_;generalize fP v s.det p=det at *;obtain ⟨row,hrow⟩: ∃row,b.getD r []=row:=⟨_,rfl⟩;have hz:=qo v row p;have hsr: ∀k,bY b r k=row.getD k []:=fun k=>by unfold bY;rw[hrow]
 have hb0:bG Ws b=bG Ws (b.set r row):=by rw[← hrow,vZ hrb]
 have hgr: ∀q:List NQ,(bG Ws (b.set r q))[r]?=some (Ws.getD r undef,fD q):=fun q=>by
  rw[gT (by omega) (by simpa using hrb),gB,if_pos ⟨rfl,hrb⟩]
 rw[hrow] at hE hrN okv;rw[hb0];refine AZ.seq ?_;refine AZ.seq ?_;refine AZ.A2 (fun B1 F1 w1 hS=>?_);refine qU 3 rfl ?_;refine ab.idxs tok (hS.at (i:=0) rfl (by rw[List.length_map];omega)) rfl rfl rfl rfl (Int.natCast_nonneg _) (by show r<_;rw[List.length_map];omega) ?_;refine ab.aY tok (.v (Ws.getD r undef)) (hS.at (i:=0) rfl (by rw[List.length_map];omega)) rfl rfl rfl rfl rfl rfl (bE (by omega)) rfl ?_;refine ab.lens tok (hS.at (i:=r+2) (hgr row) (by rw[List.length_map];omega)) rfl rfl rfl rfl ?_;rw[List.length_map,hrN];refine qU 1 rfl ?_;refine ab.nil ⟨rfl,?_⟩;refine AZ.block ?_;refine AZ.aE [3,6,7,8,11,12,14,36,37,120,121] (fun k:Nat=>(((Vr,OA Ws)::(Vc,CA s.cols)::bG Ws (b.set r (fQ (xo v row p) row k))),[(3,.bx [.sl 1 (v.map af)]),(6,.bx [.sl 1 [],.sl 1 [],dI 0,.sl 3 []]),(7,.d aj),(8,.bx [.v Vr,.v Vc,dI sg,af det]),(11,.d (dI c)),(12,.d (dI r)),(14,.d (af p)),(36,.d (dI most)),(37,.d (dI c)),(120,.d (dI N)),(121,.d (dI k))])) (fun k=>k≤N) (fun k=>N-k) 0 (by rw[tZ];rfl) (Nat.zero_le _) (fun k hk=>?_);show AZ _ _ _ _ _ _ _ ((Vr,OA Ws)::(Vc,CA s.cols)::bG Ws (b.set r (fQ (xo v row p) row k))) [(3,.bx [.sl 1 (v.map af)]),(6,.bx [.sl 1 [],.sl 1 [],dI 0,.sl 3 []]),(7,.d aj),(8,.bx [.v Vr,.v Vc,dI sg,af det]),(11,.d (dI c)),(12,.d (dI r)),(14,.d (af p)),(36,.d (dI most)),(37,.d (dI c)),(120,.d (dI N)),(121,.d (dI k))];refine AZ.seq ?_;refine AZ.gH (fun B1 F1 w1=>?_);refine qU 1 rfl ?_;refine ab.nil ⟨rfl,?_⟩;refine AZ.seq ?_;refine AZ.cond rfl (fun h=>?_) (fun h=>?_)
 · have hkN:k<N:=by have:=of_decide_eq_true h;omega
   have hpl:=rN hz (i:=k) (by omega);have hpg:=wL hz (show k<row.length by omega) [];have hps:=wK hz (show k<row.length by omega) (d:=[]) (qp v row p (show k<row.length by omega));have cd:=xB V (a:=row.getD k []) (b:=p) (by rw[← hrow];exact hb3 r k) (by rw[hpr];exact hb3 _ _) (by have:=okv k (by omega);rw[hsr] at this;exact this);generalize fQ (xo v row p) row k=q at *;generalize row.getD k []=X at *;generalize td v X p=Y at *;refine AZ.skip ?_;refine AZ.seq ?_;refine AZ.block ?_;refine AZ.seq ?_;refine AZ.gH (fun B1 F1 w1=>?_);refine qU 2 rfl ?_;refine ab.nil ⟨rfl,?_⟩;refine AZ.seq ?_;refine AZ.any aP (ZH.any (β:=[(8,[.v Vr,.v Vc,dI sg,af det])]) ?_);refine ZH.mv 2 rfl rfl (by kernel_rfl) (by kernel_rfl) (by kernel_rfl) rfl (fun _ _ _ h=>h) (fun _=>rfl) ⟨rfl,trivial⟩ (fun B1 F1 w1=>?_);refine qU 1 rfl ?_;refine ab.nil ⟨rfl,?_⟩;refine ZH.mv 5 rfl rfl (by kernel_rfl) (by kernel_rfl) (by kernel_rfl) rfl (fun _ _ _ h=>h) (fun _=>rfl) ⟨rfl,trivial⟩ (fun B1 F1 w1=>?_);refine qU 1 rfl ?_;refine ab.nil ⟨rfl,?_⟩;refine ZH.mv 9 rfl rfl (by kernel_rfl) (by kernel_rfl) (by kernel_rfl) rfl (fun _ _ _ h=>h) (fun _=>rfl) ⟨rfl,trivial⟩ (fun B1 F1 w1=>?_);refine qU 1 rfl ?_;refine ab.nil ⟨rfl,?_⟩;refine ZH.mv 12 rfl rfl (by kernel_rfl) (by kernel_rfl) (by kernel_rfl) rfl (fun _ _ _ h=>h) (fun _=>rfl) ⟨rfl,trivial⟩ (fun B1 F1 w1=>?_);refine qU 1 rfl ?_;refine ab.nil ⟨rfl,?_⟩;refine ZH.mv 15 rfl rfl (by kernel_rfl) (by kernel_rfl) (by kernel_rfl) rfl (fun _ _ _ h=>h) (fun _=>rfl) ⟨rfl,trivial⟩ (fun B1 F1 w1=>?_);refine qU 1 rfl ?_;refine ab.nil ⟨rfl,?_⟩;refine ZH.fd tok 0 rfl rfl (by kernel_rfl) (by kernel_rfl) (by kernel_rfl) rfl (fun _ _ _ h=>h) (fun _=>rfl) ⟨rfl,trivial⟩ (fun B1 F1 w1=>?_);refine qU 1 rfl ?_;refine ab.nil ⟨rfl,?_⟩;refine ZH.fd tok 7 rfl rfl (by kernel_rfl) (by kernel_rfl) (by kernel_rfl) rfl (fun _ _ _ h=>h) (fun _=>rfl) ⟨rfl,trivial⟩ (fun B1 F1 w1=>?_);refine qU 1 rfl ?_;refine ab.nil ⟨rfl,?_⟩;refine ZH.ld tok 1 rfl rfl (by kernel_rfl) (by kernel_rfl) (by kernel_rfl) rfl rfl (fun _ _ _ h=>h) (fun _=>rfl) ⟨rfl,trivial⟩ (fun B1 F1 w1=>?_);refine qU 1 rfl ?_;refine ab.nil ⟨rfl,?_⟩;refine ZH.ld tok 8 rfl rfl (by kernel_rfl) (by kernel_rfl) (by kernel_rfl) rfl rfl (fun _ _ _ h=>h) (fun _=>rfl) ⟨rfl,trivial⟩ (fun B1 F1 w1=>?_);refine qU 1 rfl ?_;refine ab.nil ⟨rfl,?_⟩;refine ZH.meet 0 (qB 23 8388607) (fun V=>((Vr,OA Ws)::(Vc,CA s.cols)::bG Ws (b.set r (fQ (xo v row p) row (k+1))))) (fun V=>[(3,.bx [.sl 1 (v.map af)]),(6,.bx [.sl 1 [],.sl 1 [],dI 0,.sl 3 []]),(7,.d aj),(8,.bx [.v Vr,.v Vc,dI sg,af det]),(11,.d (dI c)),(12,.d (dI r)),(14,.d (af p)),(36,.d (dI most)),(37,.d (dI c)),(16,.d (dI k)),(126,.d (.v Vr)),(127,.d (dI r)),(130,.d (dI k)),(133,.d (.v Vr)),(134,.d (dI r)),(137,.d (dI k)),(140,.d (af p)),(120,.d (dI N)),(121,.d (dI k)),(129,.d (.v (Ws.getD r undef))),(131,.d (bF v)),(139,.d (af X)),(124,.d (.tu [af Y,aj])),(142,.d (af Y)),(143,.d aj),(15,.d aj)]) (fun V=>?_) (fun N2_1_4_5_1_1=>?_)
   · refine ZH.done (by kernel_rfl) ⟨rfl,trivial⟩ ?_;refine AZ.to [3,6,7,8,11,12,14,36,37,15,120,121] [(3,.bx [.sl 1 (v.map af)]),(6,.bx [.sl 1 [],.sl 1 [],dI 0,.sl 3 []]),(7,.d aj),(8,.bx [.v Vr,.v Vc,dI sg,af det]),(11,.d (dI c)),(12,.d (dI r)),(14,.d (af p)),(36,.d (dI most)),(37,.d (dI c)),(15,.d aj),(120,.d (dI N)),(121,.d (dI k))] rfl ?_;refine AZ.seq ?_;refine AZ.gH (fun B1 F1 w1=>?_);refine qU 1 rfl ?_;refine ab.err tok rfl rfl rfl rfl rfl ?_;refine ab.nil ⟨rfl,?_⟩;refine AZ.ay rfl ?_;refine AZ.skip ?_;refine AZ.gH (fun B1 F1 w1=>?_);refine qU 1 rfl ?_;rw[aD (x:=(k:Int)+1) (by omega) (by omega)];refine qU 1 rfl ?_;refine ab.nil ⟨rfl,?_⟩;exact⟨k+1,rfl,hkN,by omega⟩
   refine ZH.meet 1 (qB 23 4194303) (fun V=>((Vr,OA Ws)::(Vc,CA s.cols)::bG Ws (b.set r (fQ (xo v row p) row (k+1))))) (fun V=>[(3,.bx [.sl 1 (v.map af)]),(6,.bx [.sl 1 [],.sl 1 [],dI 0,.sl 3 []]),(7,.d aj),(8,.bx [.v Vr,.v Vc,dI sg,af det]),(11,.d (dI c)),(12,.d (dI r)),(14,.d (af p)),(36,.d (dI most)),(37,.d (dI c)),(16,.d (dI k)),(126,.d (.v Vr)),(127,.d (dI r)),(130,.d (dI k)),(133,.d (.v Vr)),(134,.d (dI r)),(137,.d (dI k)),(140,.d (af p)),(120,.d (dI N)),(121,.d (dI k)),(129,.d (.v (Ws.getD r undef))),(131,.d (bF v)),(139,.d (af X)),(124,.d (.tu [af Y,aj])),(142,.d (af Y)),(143,.d aj)]) (fun V=>?_) (fun N2_1_4_5_1_0=>?_)
   · refine ZH.all 22 (by kernel_rfl) rfl rfl (fun _=>rfl) ⟨rfl,trivial⟩ ?_;refine ao (fun B1 F1 w1=>?_);refine qU 1 rfl ?_;refine ab.nil ⟨rfl,?_⟩;exact qL (N2_1_4_5_1_1 V) (by kernel_rfl) rfl ⟨rfl,trivial⟩
   refine ZH.meet 2 (qB 23 2097151) (fun V=>((Vr,OA Ws)::(Vc,CA s.cols)::bG Ws (b.set r q))) (fun V=>[(3,.bx [.sl 1 (v.map af)]),(6,.bx [.sl 1 [],.sl 1 [],dI 0,.sl 3 []]),(7,.d aj),(8,.bx [.v Vr,.v Vc,dI sg,af det]),(11,.d (dI c)),(12,.d (dI r)),(14,.d (af p)),(36,.d (dI most)),(37,.d (dI c)),(16,.d (dI k)),(126,.d (.v Vr)),(127,.d (dI r)),(130,.d (dI k)),(133,.d (.v Vr)),(134,.d (dI r)),(137,.d (dI k)),(140,.d (af p)),(120,.d (dI N)),(121,.d (dI k)),(129,.d (.v (Ws.getD r undef))),(131,.d (bF v)),(139,.d (af X)),(124,.d (.tu [af Y,aj])),(142,.d (af Y)),(144,.d (.v (bf (Ws.getD r undef) (k*1)))),(143,.d aj)]) (fun V=>?_) (fun N2_1_4_4_1_0=>?_)
   · refine ZH.all 21 (by kernel_rfl) rfl rfl (fun _=>rfl) ⟨rfl,trivial⟩ ?_;refine ai.fB 129 (r+2) (hgr q) rfl rfl ?_;refine ai.el tok 129 144 rfl (List.Mem.head _) rfl rfl rfl (by rw[List.length_map];omega) rfl ?_;refine ai.cut 1 rfl (fun B1 F1 w1=>?_);refine ab.uD tok Y rfl rfl rfl (by omega) ?_;rw[hps];refine ab.nil ⟨rfl,?_⟩;refine ai.back 129 (r+2) rfl rfl rfl (List.Mem.head _) (List.getElem?_set_self (by have:=(List.getElem?_eq_some_iff.1 (hgr q)).1;simp only[List.length_cons];omega)) ?_
     refine ai.sh (R':=((Vr,OA Ws)::(Vc,CA s.cols)::bG Ws (b.set r (fQ (xo v row p) row (k+1))))) (by
      show (Vr,OA Ws)::(Vc,CA s.cols)::((bG Ws (b.set r q)).set r _).set r _=_
      rw[List.set_set,qC (by omega) (by simpa using hrb),List.set_set]) ?_
     refine ai.nil ?_;exact qL (N2_1_4_5_1_0 V) (by kernel_rfl) rfl ⟨rfl,trivial⟩
   refine ZH.meet 2 (qB 23 3670015) (fun V=>((Vr,OA Ws)::(Vc,CA s.cols)::bG Ws (b.set r (fQ (xo v row p) row (k+1))))) (fun V=>[(3,.bx [.sl 1 (v.map af)]),(6,.bx [.sl 1 [],.sl 1 [],dI 0,.sl 3 []]),(7,.d aj),(8,.bx [.v Vr,.v Vc,dI sg,af det]),(11,.d (dI c)),(12,.d (dI r)),(14,.d (af p)),(36,.d (dI most)),(37,.d (dI c)),(16,.d (dI k)),(126,.d (.v Vr)),(127,.d (dI r)),(130,.d (dI k)),(133,.d (.v Vr)),(134,.d (dI r)),(137,.d (dI k)),(140,.d (af p)),(120,.d (dI N)),(121,.d (dI k)),(129,.d (.v (Ws.getD r undef))),(131,.d (bF v)),(139,.d (af X)),(124,.d (.tu [af Y,aj])),(142,.d (af Y))]) (fun V=>?_) (fun N2_1_4_5_0_0=>?_)
   · refine ZH.all 19 (by kernel_rfl) rfl rfl (fun _=>rfl) ⟨rfl,trivial⟩ ?_;refine ao (fun B1 F1 w1=>?_);refine qU 1 rfl ?_;refine ab.nil ⟨rfl,?_⟩;exact qL (N2_1_4_5_1_0 V) (by kernel_rfl) rfl ⟨rfl,trivial⟩
   refine ZH.meet 3 (qB 23 1048575) (fun V=>((Vr,OA Ws)::(Vc,CA s.cols)::bG Ws (b.set r q))) (fun V=>[(3,.bx [.sl 1 (v.map af)]),(6,.bx [.sl 1 [],.sl 1 [],dI 0,.sl 3 []]),(7,.d aj),(8,.bx [.v Vr,.v Vc,dI sg,af det]),(11,.d (dI c)),(12,.d (dI r)),(14,.d (af p)),(36,.d (dI most)),(37,.d (dI c)),(16,.d (dI k)),(126,.d (.v Vr)),(127,.d (dI r)),(130,.d (dI k)),(133,.d (.v Vr)),(134,.d (dI r)),(137,.d (dI k)),(140,.d (af p)),(120,.d (dI N)),(121,.d (dI k)),(129,.d (.v (Ws.getD r undef))),(131,.d (bF v)),(139,.d (af X)),(124,.d (.tu [af Y,aj])),(142,.d (af Y)),(143,.d aj)]) (fun V=>?_) (fun N2_1_4_3_1_0=>?_)
   · refine ZH.all 20 (by kernel_rfl) rfl rfl (fun _=>rfl) ⟨rfl,trivial⟩ ?_;refine ah (fun B1 F1 w1 hS=>?_);refine ab.idxs tok (hS.at (i:=r+2) (hgr q) (by rw[List.length_map];omega)) rfl rfl rfl rfl (Int.natCast_nonneg k) (by rw[List.length_map];omega) ?_;refine ab.nil ⟨rfl,?_⟩;exact qL (N2_1_4_4_1_0 V) (by kernel_rfl) rfl ⟨rfl,trivial⟩
   refine ZH.meet 3 (qB 23 1572863) (fun V=>((Vr,OA Ws)::(Vc,CA s.cols)::bG Ws (b.set r q))) (fun V=>[(3,.bx [.sl 1 (v.map af)]),(6,.bx [.sl 1 [],.sl 1 [],dI 0,.sl 3 []]),(7,.d aj),(8,.bx [.v Vr,.v Vc,dI sg,af det]),(11,.d (dI c)),(12,.d (dI r)),(14,.d (af p)),(36,.d (dI most)),(37,.d (dI c)),(16,.d (dI k)),(126,.d (.v Vr)),(127,.d (dI r)),(130,.d (dI k)),(133,.d (.v Vr)),(134,.d (dI r)),(137,.d (dI k)),(140,.d (af p)),(120,.d (dI N)),(121,.d (dI k)),(129,.d (.v (Ws.getD r undef))),(131,.d (bF v)),(139,.d (af X)),(124,.d (.tu [af Y,aj])),(142,.d (af Y)),(144,.d (.v (bf (Ws.getD r undef) (k*1))))]) (fun V=>?_) (fun N2_1_4_4_0_0=>?_)
   · refine ZH.two 19 21 (by kernel_rfl) rfl rfl rfl rfl (fun _=>rfl) (fun _=>rfl) ⟨rfl,trivial⟩ ?_ ?_
     · refine ao (fun B1 F1 w1=>?_);refine qU 1 rfl ?_;refine ab.nil ⟨rfl,?_⟩;exact qL (N2_1_4_4_1_0 V) (by kernel_rfl) rfl ⟨rfl,trivial⟩
     · refine ai.fB 129 (r+2) (hgr q) rfl rfl ?_;refine ai.el tok 129 144 rfl (List.Mem.head _) rfl rfl rfl (by rw[List.length_map];omega) rfl ?_;refine ai.cut 1 rfl (fun B1 F1 w1=>?_);refine ab.uD tok Y rfl rfl rfl (by omega) ?_;rw[hps];refine ab.nil ⟨rfl,?_⟩;refine ai.back 129 (r+2) rfl rfl rfl (List.Mem.head _) (List.getElem?_set_self (by have:=(List.getElem?_eq_some_iff.1 (hgr q)).1;simp only[List.length_cons];omega)) ?_
       refine ai.sh (R':=((Vr,OA Ws)::(Vc,CA s.cols)::bG Ws (b.set r (fQ (xo v row p) row (k+1))))) (by
        show (Vr,OA Ws)::(Vc,CA s.cols)::((bG Ws (b.set r q)).set r _).set r _=_
        rw[List.set_set,qC (by omega) (by simpa using hrb),List.set_set]) ?_
       refine ai.nil ?_;exact qL (N2_1_4_5_0_0 V) (by kernel_rfl) rfl ⟨rfl,trivial⟩
   refine ZH.meet 4 (qB 23 1048559) (fun V=>((Vr,OA Ws)::(Vc,CA s.cols)::bG Ws (b.set r q))) (fun V=>[(3,.bx [.sl 1 (v.map af)]),(6,.bx [.sl 1 [],.sl 1 [],dI 0,.sl 3 []]),(7,.d aj),(8,.bx [.v Vr,.v Vc,dI sg,af det]),(11,.d (dI c)),(12,.d (dI r)),(14,.d (af p)),(36,.d (dI most)),(37,.d (dI c)),(16,.d (dI k)),(126,.d (.v Vr)),(127,.d (dI r)),(130,.d (dI k)),(133,.d (.v Vr)),(134,.d (dI r)),(137,.d (dI k)),(140,.d (af p)),(120,.d (dI N)),(121,.d (dI k)),(128,.d (.v (bf Vr (r*1)))),(131,.d (bF v)),(139,.d (af X)),(124,.d (.tu [af Y,aj])),(142,.d (af Y)),(143,.d aj)]) (fun V=>?_) (fun N1_1_4_3_1_0=>?_)
   · refine ZH.all 4 (by kernel_rfl) rfl rfl (fun _=>rfl) ⟨rfl,trivial⟩ ?_;refine ah (fun B1 F1 w1 hS=>?_);refine ab.aY tok (.v (Ws.getD r undef)) (hS.at (i:=0) rfl (by rw[List.length_map];omega)) rfl rfl rfl rfl rfl rfl (bE (by omega)) rfl ?_;refine ab.nil ⟨rfl,?_⟩;exact qL (N2_1_4_3_1_0 V) (by kernel_rfl) rfl ⟨rfl,trivial⟩
   refine ZH.meet 4 (qB 23 786431) (fun V=>((Vr,OA Ws)::(Vc,CA s.cols)::bG Ws (b.set r q))) (fun V=>[(3,.bx [.sl 1 (v.map af)]),(6,.bx [.sl 1 [],.sl 1 [],dI 0,.sl 3 []]),(7,.d aj),(8,.bx [.v Vr,.v Vc,dI sg,af det]),(11,.d (dI c)),(12,.d (dI r)),(14,.d (af p)),(36,.d (dI most)),(37,.d (dI c)),(16,.d (dI k)),(126,.d (.v Vr)),(127,.d (dI r)),(130,.d (dI k)),(133,.d (.v Vr)),(134,.d (dI r)),(137,.d (dI k)),(140,.d (af p)),(120,.d (dI N)),(121,.d (dI k)),(129,.d (.v (Ws.getD r undef))),(131,.d (bF v)),(139,.d (af X)),(124,.d (.tu [af Y,aj])),(143,.d aj)]) (fun V=>?_) (fun N2_1_4_2_1_0=>?_)
   · refine ZH.all 18 (by kernel_rfl) rfl rfl (fun _=>rfl) ⟨rfl,trivial⟩ ?_;refine ao (fun B1 F1 w1=>?_);refine qU 1 rfl ?_;refine ab.nil ⟨rfl,?_⟩;exact qL (N2_1_4_3_1_0 V) (by kernel_rfl) rfl ⟨rfl,trivial⟩
   refine ZH.meet 4 (qB 23 524287) (fun V=>((Vr,OA Ws)::(Vc,CA s.cols)::bG Ws (b.set r q))) (fun V=>[(3,.bx [.sl 1 (v.map af)]),(6,.bx [.sl 1 [],.sl 1 [],dI 0,.sl 3 []]),(7,.d aj),(8,.bx [.v Vr,.v Vc,dI sg,af det]),(11,.d (dI c)),(12,.d (dI r)),(14,.d (af p)),(36,.d (dI most)),(37,.d (dI c)),(16,.d (dI k)),(126,.d (.v Vr)),(127,.d (dI r)),(130,.d (dI k)),(133,.d (.v Vr)),(134,.d (dI r)),(137,.d (dI k)),(140,.d (af p)),(120,.d (dI N)),(121,.d (dI k)),(129,.d (.v (Ws.getD r undef))),(131,.d (bF v)),(139,.d (af X)),(124,.d (.tu [af Y,aj])),(142,.d (af Y))]) (fun V=>?_) (fun N2_1_4_3_0_0=>?_)
   · refine ZH.two 19 20 (by kernel_rfl) rfl rfl rfl rfl (fun _=>rfl) (fun _=>rfl) ⟨rfl,trivial⟩ ?_ ?_
     · refine ao (fun B1 F1 w1=>?_);refine qU 1 rfl ?_;refine ab.nil ⟨rfl,?_⟩;exact qL (N2_1_4_3_1_0 V) (by kernel_rfl) rfl ⟨rfl,trivial⟩
     · refine ah (fun B1 F1 w1 hS=>?_);refine ab.idxs tok (hS.at (i:=r+2) (hgr q) (by rw[List.length_map];omega)) rfl rfl rfl rfl (Int.natCast_nonneg k) (by rw[List.length_map];omega) ?_;refine ab.nil ⟨rfl,?_⟩;exact qL (N2_1_4_4_0_0 V) (by kernel_rfl) rfl ⟨rfl,trivial⟩
   refine ZH.meet 5 (qB 23 1048551) (fun V=>((Vr,OA Ws)::(Vc,CA s.cols)::bG Ws (b.set r q))) (fun V=>[(3,.bx [.sl 1 (v.map af)]),(6,.bx [.sl 1 [],.sl 1 [],dI 0,.sl 3 []]),(7,.d aj),(8,.bx [.v Vr,.v Vc,dI sg,af det]),(11,.d (dI c)),(12,.d (dI r)),(14,.d (af p)),(36,.d (dI most)),(37,.d (dI c)),(16,.d (dI k)),(126,.d (.v Vr)),(127,.d (dI r)),(130,.d (dI k)),(133,.d (.v Vr)),(134,.d (dI r)),(137,.d (dI k)),(140,.d (af p)),(120,.d (dI N)),(121,.d (dI k)),(131,.d (bF v)),(139,.d (af X)),(124,.d (.tu [af Y,aj])),(142,.d (af Y)),(143,.d aj)]) (fun V=>?_) (fun N0_1_4_3_1_0=>?_)
   · refine ZH.all 3 (by kernel_rfl) rfl rfl (fun _=>rfl) ⟨rfl,trivial⟩ ?_;refine ah (fun B1 F1 w1 hS=>?_);refine ab.idxs tok (hS.at (i:=0) rfl (by rw[List.length_map];omega)) rfl rfl rfl rfl (Int.natCast_nonneg _) (by show r<_;rw[List.length_map];omega) ?_;refine ab.nil ⟨rfl,?_⟩;exact qL (N1_1_4_3_1_0 V) (by kernel_rfl) rfl ⟨rfl,trivial⟩
   refine ZH.meet 5 (qB 23 786415) (fun V=>((Vr,OA Ws)::(Vc,CA s.cols)::bG Ws (b.set r q))) (fun V=>[(3,.bx [.sl 1 (v.map af)]),(6,.bx [.sl 1 [],.sl 1 [],dI 0,.sl 3 []]),(7,.d aj),(8,.bx [.v Vr,.v Vc,dI sg,af det]),(11,.d (dI c)),(12,.d (dI r)),(14,.d (af p)),(36,.d (dI most)),(37,.d (dI c)),(16,.d (dI k)),(126,.d (.v Vr)),(127,.d (dI r)),(130,.d (dI k)),(133,.d (.v Vr)),(134,.d (dI r)),(137,.d (dI k)),(140,.d (af p)),(120,.d (dI N)),(121,.d (dI k)),(128,.d (.v (bf Vr (r*1)))),(131,.d (bF v)),(139,.d (af X)),(124,.d (.tu [af Y,aj])),(143,.d aj)]) (fun V=>?_) (fun N1_1_4_2_1_0=>?_)
   · refine ZH.two 4 18 (by kernel_rfl) rfl rfl rfl rfl (fun _=>rfl) (fun _=>rfl) ⟨rfl,trivial⟩ ?_ ?_
     · refine ah (fun B1 F1 w1 hS=>?_);refine ab.aY tok (.v (Ws.getD r undef)) (hS.at (i:=0) rfl (by rw[List.length_map];omega)) rfl rfl rfl rfl rfl rfl (bE (by omega)) rfl ?_;refine ab.nil ⟨rfl,?_⟩;exact qL (N2_1_4_2_1_0 V) (by kernel_rfl) rfl ⟨rfl,trivial⟩
     · refine ao (fun B1 F1 w1=>?_);refine qU 1 rfl ?_;refine ab.nil ⟨rfl,?_⟩;exact qL (N1_1_4_3_1_0 V) (by kernel_rfl) rfl ⟨rfl,trivial⟩
   refine ZH.meet 5 (qB 23 524271) (fun V=>((Vr,OA Ws)::(Vc,CA s.cols)::bG Ws (b.set r q))) (fun V=>[(3,.bx [.sl 1 (v.map af)]),(6,.bx [.sl 1 [],.sl 1 [],dI 0,.sl 3 []]),(7,.d aj),(8,.bx [.v Vr,.v Vc,dI sg,af det]),(11,.d (dI c)),(12,.d (dI r)),(14,.d (af p)),(36,.d (dI most)),(37,.d (dI c)),(16,.d (dI k)),(126,.d (.v Vr)),(127,.d (dI r)),(130,.d (dI k)),(133,.d (.v Vr)),(134,.d (dI r)),(137,.d (dI k)),(140,.d (af p)),(120,.d (dI N)),(121,.d (dI k)),(128,.d (.v (bf Vr (r*1)))),(131,.d (bF v)),(139,.d (af X)),(124,.d (.tu [af Y,aj])),(142,.d (af Y))]) (fun V=>?_) (fun N1_1_4_3_0_0=>?_)
   · refine ZH.two 4 19 (by kernel_rfl) rfl rfl rfl rfl (fun _=>rfl) (fun _=>rfl) ⟨rfl,trivial⟩ ?_ ?_
     · refine ah (fun B1 F1 w1 hS=>?_);refine ab.aY tok (.v (Ws.getD r undef)) (hS.at (i:=0) rfl (by rw[List.length_map];omega)) rfl rfl rfl rfl rfl rfl (bE (by omega)) rfl ?_;refine ab.nil ⟨rfl,?_⟩;exact qL (N2_1_4_3_0_0 V) (by kernel_rfl) rfl ⟨rfl,trivial⟩
     · refine ao (fun B1 F1 w1=>?_);refine qU 1 rfl ?_;refine ab.nil ⟨rfl,?_⟩;exact qL (N1_1_4_3_1_0 V) (by kernel_rfl) rfl ⟨rfl,trivial⟩
   refine ZH.meet 5 (qB 23 262143) (fun V=>((Vr,OA Ws)::(Vc,CA s.cols)::bG Ws (b.set r q))) (fun V=>[(3,.bx [.sl 1 (v.map af)]),(6,.bx [.sl 1 [],.sl 1 [],dI 0,.sl 3 []]),(7,.d aj),(8,.bx [.v Vr,.v Vc,dI sg,af det]),(11,.d (dI c)),(12,.d (dI r)),(14,.d (af p)),(36,.d (dI most)),(37,.d (dI c)),(16,.d (dI k)),(126,.d (.v Vr)),(127,.d (dI r)),(130,.d (dI k)),(133,.d (.v Vr)),(134,.d (dI r)),(137,.d (dI k)),(140,.d (af p)),(120,.d (dI N)),(121,.d (dI k)),(129,.d (.v (Ws.getD r undef))),(131,.d (bF v)),(139,.d (af X)),(124,.d (.tu [af Y,aj]))]) (fun V=>?_) (fun N2_1_4_2_0_0=>?_)
   · refine ZH.two 18 19 (by kernel_rfl) rfl rfl rfl rfl (fun _=>rfl) (fun _=>rfl) ⟨rfl,trivial⟩ ?_ ?_
     · refine ao (fun B1 F1 w1=>?_);refine qU 1 rfl ?_;refine ab.nil ⟨rfl,?_⟩;exact qL (N2_1_4_3_0_0 V) (by kernel_rfl) rfl ⟨rfl,trivial⟩
     · refine ao (fun B1 F1 w1=>?_);refine qU 1 rfl ?_;refine ab.nil ⟨rfl,?_⟩;exact qL (N2_1_4_2_1_0 V) (by kernel_rfl) rfl ⟨rfl,trivial⟩
   refine ZH.meet 6 (qB 23 786407) (fun V=>((Vr,OA Ws)::(Vc,CA s.cols)::bG Ws (b.set r q))) (fun V=>[(3,.bx [.sl 1 (v.map af)]),(6,.bx [.sl 1 [],.sl 1 [],dI 0,.sl 3 []]),(7,.d aj),(8,.bx [.v Vr,.v Vc,dI sg,af det]),(11,.d (dI c)),(12,.d (dI r)),(14,.d (af p)),(36,.d (dI most)),(37,.d (dI c)),(16,.d (dI k)),(126,.d (.v Vr)),(127,.d (dI r)),(130,.d (dI k)),(133,.d (.v Vr)),(134,.d (dI r)),(137,.d (dI k)),(140,.d (af p)),(120,.d (dI N)),(121,.d (dI k)),(131,.d (bF v)),(139,.d (af X)),(124,.d (.tu [af Y,aj])),(143,.d aj)]) (fun V=>?_) (fun N0_1_4_2_1_0=>?_)
   · refine ZH.two 3 18 (by kernel_rfl) rfl rfl rfl rfl (fun _=>rfl) (fun _=>rfl) ⟨rfl,trivial⟩ ?_ ?_
     · refine ah (fun B1 F1 w1 hS=>?_);refine ab.idxs tok (hS.at (i:=0) rfl (by rw[List.length_map];omega)) rfl rfl rfl rfl (Int.natCast_nonneg _) (by show r<_;rw[List.length_map];omega) ?_;refine ab.nil ⟨rfl,?_⟩;exact qL (N1_1_4_2_1_0 V) (by kernel_rfl) rfl ⟨rfl,trivial⟩
     · refine ao (fun B1 F1 w1=>?_);refine qU 1 rfl ?_;refine ab.nil ⟨rfl,?_⟩;exact qL (N0_1_4_3_1_0 V) (by kernel_rfl) rfl ⟨rfl,trivial⟩
   refine ZH.meet 6 (qB 23 524263) (fun V=>((Vr,OA Ws)::(Vc,CA s.cols)::bG Ws (b.set r q))) (fun V=>[(3,.bx [.sl 1 (v.map af)]),(6,.bx [.sl 1 [],.sl 1 [],dI 0,.sl 3 []]),(7,.d aj),(8,.bx [.v Vr,.v Vc,dI sg,af det]),(11,.d (dI c)),(12,.d (dI r)),(14,.d (af p)),(36,.d (dI most)),(37,.d (dI c)),(16,.d (dI k)),(126,.d (.v Vr)),(127,.d (dI r)),(130,.d (dI k)),(133,.d (.v Vr)),(134,.d (dI r)),(137,.d (dI k)),(140,.d (af p)),(120,.d (dI N)),(121,.d (dI k)),(131,.d (bF v)),(139,.d (af X)),(124,.d (.tu [af Y,aj])),(142,.d (af Y))]) (fun V=>?_) (fun N0_1_4_3_0_0=>?_)
   · refine ZH.two 3 19 (by kernel_rfl) rfl rfl rfl rfl (fun _=>rfl) (fun _=>rfl) ⟨rfl,trivial⟩ ?_ ?_
     · refine ah (fun B1 F1 w1 hS=>?_);refine ab.idxs tok (hS.at (i:=0) rfl (by rw[List.length_map];omega)) rfl rfl rfl rfl (Int.natCast_nonneg _) (by show r<_;rw[List.length_map];omega) ?_;refine ab.nil ⟨rfl,?_⟩;exact qL (N1_1_4_3_0_0 V) (by kernel_rfl) rfl ⟨rfl,trivial⟩
     · refine ao (fun B1 F1 w1=>?_);refine qU 1 rfl ?_;refine ab.nil ⟨rfl,?_⟩;exact qL (N0_1_4_3_1_0 V) (by kernel_rfl) rfl ⟨rfl,trivial⟩
   refine ZH.meet 6 (qB 23 262127) (fun V=>((Vr,OA Ws)::(Vc,CA s.cols)::bG Ws (b.set r q))) (fun V=>[(3,.bx [.sl 1 (v.map af)]),(6,.bx [.sl 1 [],.sl 1 [],dI 0,.sl 3 []]),(7,.d aj),(8,.bx [.v Vr,.v Vc,dI sg,af det]),(11,.d (dI c)),(12,.d (dI r)),(14,.d (af p)),(36,.d (dI most)),(37,.d (dI c)),(16,.d (dI k)),(126,.d (.v Vr)),(127,.d (dI r)),(130,.d (dI k)),(133,.d (.v Vr)),(134,.d (dI r)),(137,.d (dI k)),(140,.d (af p)),(120,.d (dI N)),(121,.d (dI k)),(128,.d (.v (bf Vr (r*1)))),(131,.d (bF v)),(139,.d (af X)),(124,.d (.tu [af Y,aj]))]) (fun V=>?_) (fun N1_1_4_2_0_0=>?_)
   · refine ZH.three 4 18 19 (by kernel_rfl) rfl rfl rfl rfl rfl rfl (fun _=>rfl) (fun _=>rfl) (fun _=>rfl) ⟨rfl,trivial⟩ ?_ ?_ ?_
     · refine ah (fun B1 F1 w1 hS=>?_);refine ab.aY tok (.v (Ws.getD r undef)) (hS.at (i:=0) rfl (by rw[List.length_map];omega)) rfl rfl rfl rfl rfl rfl (bE (by omega)) rfl ?_;refine ab.nil ⟨rfl,?_⟩;exact qL (N2_1_4_2_0_0 V) (by kernel_rfl) rfl ⟨rfl,trivial⟩
     · refine ao (fun B1 F1 w1=>?_);refine qU 1 rfl ?_;refine ab.nil ⟨rfl,?_⟩;exact qL (N1_1_4_3_0_0 V) (by kernel_rfl) rfl ⟨rfl,trivial⟩
     · refine ao (fun B1 F1 w1=>?_);refine qU 1 rfl ?_;refine ab.nil ⟨rfl,?_⟩;exact qL (N1_1_4_2_1_0 V) (by kernel_rfl) rfl ⟨rfl,trivial⟩
   refine ZH.meet 6 (qB 23 131071) (fun V=>((Vr,OA Ws)::(Vc,CA s.cols)::bG Ws (b.set r q))) (fun V=>[(3,.bx [.sl 1 (v.map af)]),(6,.bx [.sl 1 [],.sl 1 [],dI 0,.sl 3 []]),(7,.d aj),(8,.bx [.v Vr,.v Vc,dI sg,af det]),(11,.d (dI c)),(12,.d (dI r)),(14,.d (af p)),(36,.d (dI most)),(37,.d (dI c)),(16,.d (dI k)),(126,.d (.v Vr)),(127,.d (dI r)),(130,.d (dI k)),(133,.d (.v Vr)),(134,.d (dI r)),(137,.d (dI k)),(140,.d (af p)),(120,.d (dI N)),(121,.d (dI k)),(129,.d (.v (Ws.getD r undef))),(131,.d (bF v)),(139,.d (af X)),(141,.d (.tu [af Y,aj]))]) (fun V=>?_) (fun N2_1_4_1_0_0=>?_)
   · refine ZH.all 17 (by kernel_rfl) rfl rfl (fun _=>rfl) ⟨rfl,trivial⟩ ?_;refine ao (fun B1 F1 w1=>?_);refine qU 1 rfl ?_;refine ab.nil ⟨rfl,?_⟩;exact qL (N2_1_4_2_0_0 V) (by kernel_rfl) rfl ⟨rfl,trivial⟩
   refine ZH.meet 7 (qB 23 262119) (fun V=>((Vr,OA Ws)::(Vc,CA s.cols)::bG Ws (b.set r q))) (fun V=>[(3,.bx [.sl 1 (v.map af)]),(6,.bx [.sl 1 [],.sl 1 [],dI 0,.sl 3 []]),(7,.d aj),(8,.bx [.v Vr,.v Vc,dI sg,af det]),(11,.d (dI c)),(12,.d (dI r)),(14,.d (af p)),(36,.d (dI most)),(37,.d (dI c)),(16,.d (dI k)),(126,.d (.v Vr)),(127,.d (dI r)),(130,.d (dI k)),(133,.d (.v Vr)),(134,.d (dI r)),(137,.d (dI k)),(140,.d (af p)),(120,.d (dI N)),(121,.d (dI k)),(131,.d (bF v)),(139,.d (af X)),(124,.d (.tu [af Y,aj]))]) (fun V=>?_) (fun N0_1_4_2_0_0=>?_)
   · refine ZH.three 3 18 19 (by kernel_rfl) rfl rfl rfl rfl rfl rfl (fun _=>rfl) (fun _=>rfl) (fun _=>rfl) ⟨rfl,trivial⟩ ?_ ?_ ?_
     · refine ah (fun B1 F1 w1 hS=>?_);refine ab.idxs tok (hS.at (i:=0) rfl (by rw[List.length_map];omega)) rfl rfl rfl rfl (Int.natCast_nonneg _) (by show r<_;rw[List.length_map];omega) ?_;refine ab.nil ⟨rfl,?_⟩;exact qL (N1_1_4_2_0_0 V) (by kernel_rfl) rfl ⟨rfl,trivial⟩
     · refine ao (fun B1 F1 w1=>?_);refine qU 1 rfl ?_;refine ab.nil ⟨rfl,?_⟩;exact qL (N0_1_4_3_0_0 V) (by kernel_rfl) rfl ⟨rfl,trivial⟩
     · refine ao (fun B1 F1 w1=>?_);refine qU 1 rfl ?_;refine ab.nil ⟨rfl,?_⟩;exact qL (N0_1_4_2_1_0 V) (by kernel_rfl) rfl ⟨rfl,trivial⟩
   refine ZH.meet 7 (qB 23 131055) (fun V=>((Vr,OA Ws)::(Vc,CA s.cols)::bG Ws (b.set r q))) (fun V=>[(3,.bx [.sl 1 (v.map af)]),(6,.bx [.sl 1 [],.sl 1 [],dI 0,.sl 3 []]),(7,.d aj),(8,.bx [.v Vr,.v Vc,dI sg,af det]),(11,.d (dI c)),(12,.d (dI r)),(14,.d (af p)),(36,.d (dI most)),(37,.d (dI c)),(16,.d (dI k)),(126,.d (.v Vr)),(127,.d (dI r)),(130,.d (dI k)),(133,.d (.v Vr)),(134,.d (dI r)),(137,.d (dI k)),(140,.d (af p)),(120,.d (dI N)),(121,.d (dI k)),(128,.d (.v (bf Vr (r*1)))),(131,.d (bF v)),(139,.d (af X)),(141,.d (.tu [af Y,aj]))]) (fun V=>?_) (fun N1_1_4_1_0_0=>?_)
   · refine ZH.two 4 17 (by kernel_rfl) rfl rfl rfl rfl (fun _=>rfl) (fun _=>rfl) ⟨rfl,trivial⟩ ?_ ?_
     · refine ah (fun B1 F1 w1 hS=>?_);refine ab.aY tok (.v (Ws.getD r undef)) (hS.at (i:=0) rfl (by rw[List.length_map];omega)) rfl rfl rfl rfl rfl rfl (bE (by omega)) rfl ?_;refine ab.nil ⟨rfl,?_⟩;exact qL (N2_1_4_1_0_0 V) (by kernel_rfl) rfl ⟨rfl,trivial⟩
     · refine ao (fun B1 F1 w1=>?_);refine qU 1 rfl ?_;refine ab.nil ⟨rfl,?_⟩;exact qL (N1_1_4_2_0_0 V) (by kernel_rfl) rfl ⟨rfl,trivial⟩
   refine ZH.meet 7 (qB 23 65535) (fun V=>((Vr,OA Ws)::(Vc,CA s.cols)::bG Ws (b.set r q))) (fun V=>[(3,.bx [.sl 1 (v.map af)]),(6,.bx [.sl 1 [],.sl 1 [],dI 0,.sl 3 []]),(7,.d aj),(8,.bx [.v Vr,.v Vc,dI sg,af det]),(11,.d (dI c)),(12,.d (dI r)),(14,.d (af p)),(36,.d (dI most)),(37,.d (dI c)),(16,.d (dI k)),(126,.d (.v Vr)),(127,.d (dI r)),(130,.d (dI k)),(133,.d (.v Vr)),(134,.d (dI r)),(137,.d (dI k)),(140,.d (af p)),(120,.d (dI N)),(121,.d (dI k)),(129,.d (.v (Ws.getD r undef))),(131,.d (bF v)),(139,.d (af X))]) (fun V=>?_) (fun N2_1_4_0_0_0=>?_)
   · refine ZH.all 16 (by kernel_rfl) rfl rfl (fun _=>rfl) ⟨rfl,trivial⟩ ?_;refine ao (fun B1 F1 w1=>?_);refine ab.call tok rfl rfl rfl rfl cd ?_;refine ab.nil ⟨rfl,?_⟩;exact qL (N2_1_4_1_0_0 V) (by kernel_rfl) rfl ⟨rfl,trivial⟩
   refine ZH.meet 8 (qB 23 131047) (fun V=>((Vr,OA Ws)::(Vc,CA s.cols)::bG Ws (b.set r q))) (fun V=>[(3,.bx [.sl 1 (v.map af)]),(6,.bx [.sl 1 [],.sl 1 [],dI 0,.sl 3 []]),(7,.d aj),(8,.bx [.v Vr,.v Vc,dI sg,af det]),(11,.d (dI c)),(12,.d (dI r)),(14,.d (af p)),(36,.d (dI most)),(37,.d (dI c)),(16,.d (dI k)),(126,.d (.v Vr)),(127,.d (dI r)),(130,.d (dI k)),(133,.d (.v Vr)),(134,.d (dI r)),(137,.d (dI k)),(140,.d (af p)),(120,.d (dI N)),(121,.d (dI k)),(131,.d (bF v)),(139,.d (af X)),(141,.d (.tu [af Y,aj]))]) (fun V=>?_) (fun N0_1_4_1_0_0=>?_)
   · refine ZH.two 3 17 (by kernel_rfl) rfl rfl rfl rfl (fun _=>rfl) (fun _=>rfl) ⟨rfl,trivial⟩ ?_ ?_
     · refine ah (fun B1 F1 w1 hS=>?_);refine ab.idxs tok (hS.at (i:=0) rfl (by rw[List.length_map];omega)) rfl rfl rfl rfl (Int.natCast_nonneg _) (by show r<_;rw[List.length_map];omega) ?_;refine ab.nil ⟨rfl,?_⟩;exact qL (N1_1_4_1_0_0 V) (by kernel_rfl) rfl ⟨rfl,trivial⟩
     · refine ao (fun B1 F1 w1=>?_);refine qU 1 rfl ?_;refine ab.nil ⟨rfl,?_⟩;exact qL (N0_1_4_2_0_0 V) (by kernel_rfl) rfl ⟨rfl,trivial⟩
   refine ZH.meet 8 (qB 23 65519) (fun V=>((Vr,OA Ws)::(Vc,CA s.cols)::bG Ws (b.set r q))) (fun V=>[(3,.bx [.sl 1 (v.map af)]),(6,.bx [.sl 1 [],.sl 1 [],dI 0,.sl 3 []]),(7,.d aj),(8,.bx [.v Vr,.v Vc,dI sg,af det]),(11,.d (dI c)),(12,.d (dI r)),(14,.d (af p)),(36,.d (dI most)),(37,.d (dI c)),(16,.d (dI k)),(126,.d (.v Vr)),(127,.d (dI r)),(130,.d (dI k)),(133,.d (.v Vr)),(134,.d (dI r)),(137,.d (dI k)),(140,.d (af p)),(120,.d (dI N)),(121,.d (dI k)),(128,.d (.v (bf Vr (r*1)))),(131,.d (bF v)),(139,.d (af X))]) (fun V=>?_) (fun N1_1_4_0_0_0=>?_)
   · refine ZH.two 4 16 (by kernel_rfl) rfl rfl rfl rfl (fun _=>rfl) (fun _=>rfl) ⟨rfl,trivial⟩ ?_ ?_
     · refine ah (fun B1 F1 w1 hS=>?_);refine ab.aY tok (.v (Ws.getD r undef)) (hS.at (i:=0) rfl (by rw[List.length_map];omega)) rfl rfl rfl rfl rfl rfl (bE (by omega)) rfl ?_;refine ab.nil ⟨rfl,?_⟩;exact qL (N2_1_4_0_0_0 V) (by kernel_rfl) rfl ⟨rfl,trivial⟩
     · refine ao (fun B1 F1 w1=>?_);refine ab.call tok rfl rfl rfl rfl cd ?_;refine ab.nil ⟨rfl,?_⟩;exact qL (N1_1_4_1_0_0 V) (by kernel_rfl) rfl ⟨rfl,trivial⟩
   refine ZH.meet 8 (qB 23 65471) (fun V=>((Vr,OA Ws)::(Vc,CA s.cols)::bG Ws (b.set r q))) (fun V=>[(3,.bx [.sl 1 (v.map af)]),(6,.bx [.sl 1 [],.sl 1 [],dI 0,.sl 3 []]),(7,.d aj),(8,.bx [.v Vr,.v Vc,dI sg,af det]),(11,.d (dI c)),(12,.d (dI r)),(14,.d (af p)),(36,.d (dI most)),(37,.d (dI c)),(16,.d (dI k)),(126,.d (.v Vr)),(127,.d (dI r)),(130,.d (dI k)),(133,.d (.v Vr)),(134,.d (dI r)),(137,.d (dI k)),(140,.d (af p)),(120,.d (dI N)),(121,.d (dI k)),(129,.d (.v (Ws.getD r undef))),(139,.d (af X))]) (fun V=>?_) (fun N2_0_4_0_0_0=>?_)
   · refine ZH.all 6 (by kernel_rfl) rfl rfl (fun _=>rfl) ⟨rfl,trivial⟩ ?_;refine ao (fun B1 F1 w1=>?_);refine qU 1 rfl ?_;refine ab.nil ⟨rfl,?_⟩;exact qL (N2_1_4_0_0_0 V) (by kernel_rfl) rfl ⟨rfl,trivial⟩
   refine ZH.meet 8 (qB 23 49151) (fun V=>((Vr,OA Ws)::(Vc,CA s.cols)::bG Ws (b.set r q))) (fun V=>[(3,.bx [.sl 1 (v.map af)]),(6,.bx [.sl 1 [],.sl 1 [],dI 0,.sl 3 []]),(7,.d aj),(8,.bx [.v Vr,.v Vc,dI sg,af det]),(11,.d (dI c)),(12,.d (dI r)),(14,.d (af p)),(36,.d (dI most)),(37,.d (dI c)),(16,.d (dI k)),(126,.d (.v Vr)),(127,.d (dI r)),(130,.d (dI k)),(133,.d (.v Vr)),(134,.d (dI r)),(137,.d (dI k)),(140,.d (af p)),(120,.d (dI N)),(121,.d (dI k)),(129,.d (.v (Ws.getD r undef))),(131,.d (bF v)),(136,.d (.v (Ws.getD r undef))),(138,.d (.v (bf (Ws.getD r undef) (k*1))))]) (fun V=>?_) (fun N2_1_3_0_0_0=>?_)
   · refine ZH.all 14 (by kernel_rfl) rfl rfl (fun _=>rfl) ⟨rfl,trivial⟩ ?_;refine ah (fun B1 F1 w1 hS=>?_);refine ab.aY tok (af (q.getD k [])) (hS.at (i:=r+2) (hgr q) (by rw[List.length_map];omega)) rfl rfl rfl rfl rfl rfl (getM af (by omega)) rfl ?_;rw[hpg];refine ab.nil ⟨rfl,?_⟩;exact qL (N2_1_4_0_0_0 V) (by kernel_rfl) rfl ⟨rfl,trivial⟩
   refine ZH.meet 9 (qB 23 65511) (fun V=>((Vr,OA Ws)::(Vc,CA s.cols)::bG Ws (b.set r q))) (fun V=>[(3,.bx [.sl 1 (v.map af)]),(6,.bx [.sl 1 [],.sl 1 [],dI 0,.sl 3 []]),(7,.d aj),(8,.bx [.v Vr,.v Vc,dI sg,af det]),(11,.d (dI c)),(12,.d (dI r)),(14,.d (af p)),(36,.d (dI most)),(37,.d (dI c)),(16,.d (dI k)),(126,.d (.v Vr)),(127,.d (dI r)),(130,.d (dI k)),(133,.d (.v Vr)),(134,.d (dI r)),(137,.d (dI k)),(140,.d (af p)),(120,.d (dI N)),(121,.d (dI k)),(131,.d (bF v)),(139,.d (af X))]) (fun V=>?_) (fun N0_1_4_0_0_0=>?_)
   · refine ZH.two 3 16 (by kernel_rfl) rfl rfl rfl rfl (fun _=>rfl) (fun _=>rfl) ⟨rfl,trivial⟩ ?_ ?_
     · refine ah (fun B1 F1 w1 hS=>?_);refine ab.idxs tok (hS.at (i:=0) rfl (by rw[List.length_map];omega)) rfl rfl rfl rfl (Int.natCast_nonneg _) (by show r<_;rw[List.length_map];omega) ?_;refine ab.nil ⟨rfl,?_⟩;exact qL (N1_1_4_0_0_0 V) (by kernel_rfl) rfl ⟨rfl,trivial⟩
     · refine ao (fun B1 F1 w1=>?_);refine ab.call tok rfl rfl rfl rfl cd ?_;refine ab.nil ⟨rfl,?_⟩;exact qL (N0_1_4_1_0_0 V) (by kernel_rfl) rfl ⟨rfl,trivial⟩
   refine ZH.meet 9 (qB 23 65455) (fun V=>((Vr,OA Ws)::(Vc,CA s.cols)::bG Ws (b.set r q))) (fun V=>[(3,.bx [.sl 1 (v.map af)]),(6,.bx [.sl 1 [],.sl 1 [],dI 0,.sl 3 []]),(7,.d aj),(8,.bx [.v Vr,.v Vc,dI sg,af det]),(11,.d (dI c)),(12,.d (dI r)),(14,.d (af p)),(36,.d (dI most)),(37,.d (dI c)),(16,.d (dI k)),(126,.d (.v Vr)),(127,.d (dI r)),(130,.d (dI k)),(133,.d (.v Vr)),(134,.d (dI r)),(137,.d (dI k)),(140,.d (af p)),(120,.d (dI N)),(121,.d (dI k)),(128,.d (.v (bf Vr (r*1)))),(139,.d (af X))]) (fun V=>?_) (fun N1_0_4_0_0_0=>?_)
   · refine ZH.two 4 6 (by kernel_rfl) rfl rfl rfl rfl (fun _=>rfl) (fun _=>rfl) ⟨rfl,trivial⟩ ?_ ?_
     · refine ah (fun B1 F1 w1 hS=>?_);refine ab.aY tok (.v (Ws.getD r undef)) (hS.at (i:=0) rfl (by rw[List.length_map];omega)) rfl rfl rfl rfl rfl rfl (bE (by omega)) rfl ?_;refine ab.nil ⟨rfl,?_⟩;exact qL (N2_0_4_0_0_0 V) (by kernel_rfl) rfl ⟨rfl,trivial⟩
     · refine ao (fun B1 F1 w1=>?_);refine qU 1 rfl ?_;refine ab.nil ⟨rfl,?_⟩;exact qL (N1_1_4_0_0_0 V) (by kernel_rfl) rfl ⟨rfl,trivial⟩
   refine ZH.meet 9 (qB 23 49135) (fun V=>((Vr,OA Ws)::(Vc,CA s.cols)::bG Ws (b.set r q))) (fun V=>[(3,.bx [.sl 1 (v.map af)]),(6,.bx [.sl 1 [],.sl 1 [],dI 0,.sl 3 []]),(7,.d aj),(8,.bx [.v Vr,.v Vc,dI sg,af det]),(11,.d (dI c)),(12,.d (dI r)),(14,.d (af p)),(36,.d (dI most)),(37,.d (dI c)),(16,.d (dI k)),(126,.d (.v Vr)),(127,.d (dI r)),(130,.d (dI k)),(133,.d (.v Vr)),(134,.d (dI r)),(137,.d (dI k)),(140,.d (af p)),(120,.d (dI N)),(121,.d (dI k)),(128,.d (.v (bf Vr (r*1)))),(131,.d (bF v)),(136,.d (.v (Ws.getD r undef))),(138,.d (.v (bf (Ws.getD r undef) (k*1))))]) (fun V=>?_) (fun N1_1_3_0_0_0=>?_)
   · refine ZH.two 4 14 (by kernel_rfl) rfl rfl rfl rfl (fun _=>rfl) (fun _=>rfl) ⟨rfl,trivial⟩ ?_ ?_
     · refine ah (fun B1 F1 w1 hS=>?_);refine ab.aY tok (.v (Ws.getD r undef)) (hS.at (i:=0) rfl (by rw[List.length_map];omega)) rfl rfl rfl rfl rfl rfl (bE (by omega)) rfl ?_;refine ab.nil ⟨rfl,?_⟩;exact qL (N2_1_3_0_0_0 V) (by kernel_rfl) rfl ⟨rfl,trivial⟩
     · refine ah (fun B1 F1 w1 hS=>?_);refine ab.aY tok (af (q.getD k [])) (hS.at (i:=r+2) (hgr q) (by rw[List.length_map];omega)) rfl rfl rfl rfl rfl rfl (getM af (by omega)) rfl ?_;rw[hpg];refine ab.nil ⟨rfl,?_⟩;exact qL (N1_1_4_0_0_0 V) (by kernel_rfl) rfl ⟨rfl,trivial⟩
   refine ZH.meet 9 (qB 23 49087) (fun V=>((Vr,OA Ws)::(Vc,CA s.cols)::bG Ws (b.set r q))) (fun V=>[(3,.bx [.sl 1 (v.map af)]),(6,.bx [.sl 1 [],.sl 1 [],dI 0,.sl 3 []]),(7,.d aj),(8,.bx [.v Vr,.v Vc,dI sg,af det]),(11,.d (dI c)),(12,.d (dI r)),(14,.d (af p)),(36,.d (dI most)),(37,.d (dI c)),(16,.d (dI k)),(126,.d (.v Vr)),(127,.d (dI r)),(130,.d (dI k)),(133,.d (.v Vr)),(134,.d (dI r)),(137,.d (dI k)),(140,.d (af p)),(120,.d (dI N)),(121,.d (dI k)),(129,.d (.v (Ws.getD r undef))),(136,.d (.v (Ws.getD r undef))),(138,.d (.v (bf (Ws.getD r undef) (k*1))))]) (fun V=>?_) (fun N2_0_3_0_0_0=>?_)
   · refine ZH.two 6 14 (by kernel_rfl) rfl rfl rfl rfl (fun _=>rfl) (fun _=>rfl) ⟨rfl,trivial⟩ ?_ ?_
     · refine ao (fun B1 F1 w1=>?_);refine qU 1 rfl ?_;refine ab.nil ⟨rfl,?_⟩;exact qL (N2_1_3_0_0_0 V) (by kernel_rfl) rfl ⟨rfl,trivial⟩
     · refine ah (fun B1 F1 w1 hS=>?_);refine ab.aY tok (af (q.getD k [])) (hS.at (i:=r+2) (hgr q) (by rw[List.length_map];omega)) rfl rfl rfl rfl rfl rfl (getM af (by omega)) rfl ?_;rw[hpg];refine ab.nil ⟨rfl,?_⟩;exact qL (N2_0_4_0_0_0 V) (by kernel_rfl) rfl ⟨rfl,trivial⟩
   refine ZH.meet 9 (qB 23 40959) (fun V=>((Vr,OA Ws)::(Vc,CA s.cols)::bG Ws (b.set r q))) (fun V=>[(3,.bx [.sl 1 (v.map af)]),(6,.bx [.sl 1 [],.sl 1 [],dI 0,.sl 3 []]),(7,.d aj),(8,.bx [.v Vr,.v Vc,dI sg,af det]),(11,.d (dI c)),(12,.d (dI r)),(14,.d (af p)),(36,.d (dI most)),(37,.d (dI c)),(16,.d (dI k)),(126,.d (.v Vr)),(127,.d (dI r)),(130,.d (dI k)),(133,.d (.v Vr)),(134,.d (dI r)),(137,.d (dI k)),(140,.d (af p)),(120,.d (dI N)),(121,.d (dI k)),(129,.d (.v (Ws.getD r undef))),(131,.d (bF v)),(136,.d (.v (Ws.getD r undef)))]) (fun V=>?_) (fun N2_1_2_0_0_0=>?_)
   · refine ZH.all 13 (by kernel_rfl) rfl rfl (fun _=>rfl) ⟨rfl,trivial⟩ ?_;refine ah (fun B1 F1 w1 hS=>?_);refine ab.idxs tok (hS.at (i:=r+2) (hgr q) (by rw[List.length_map];omega)) rfl rfl rfl rfl (Int.natCast_nonneg k) (by rw[List.length_map];omega) ?_;refine ab.nil ⟨rfl,?_⟩;exact qL (N2_1_3_0_0_0 V) (by kernel_rfl) rfl ⟨rfl,trivial⟩
   refine ZH.meet 10 (qB 23 65447) (fun V=>((Vr,OA Ws)::(Vc,CA s.cols)::bG Ws (b.set r q))) (fun V=>[(3,.bx [.sl 1 (v.map af)]),(6,.bx [.sl 1 [],.sl 1 [],dI 0,.sl 3 []]),(7,.d aj),(8,.bx [.v Vr,.v Vc,dI sg,af det]),(11,.d (dI c)),(12,.d (dI r)),(14,.d (af p)),(36,.d (dI most)),(37,.d (dI c)),(16,.d (dI k)),(126,.d (.v Vr)),(127,.d (dI r)),(130,.d (dI k)),(133,.d (.v Vr)),(134,.d (dI r)),(137,.d (dI k)),(140,.d (af p)),(120,.d (dI N)),(121,.d (dI k)),(139,.d (af X))]) (fun V=>?_) (fun N0_0_4_0_0_0=>?_)
   · refine ZH.two 3 6 (by kernel_rfl) rfl rfl rfl rfl (fun _=>rfl) (fun _=>rfl) ⟨rfl,trivial⟩ ?_ ?_
     · refine ah (fun B1 F1 w1 hS=>?_);refine ab.idxs tok (hS.at (i:=0) rfl (by rw[List.length_map];omega)) rfl rfl rfl rfl (Int.natCast_nonneg _) (by show r<_;rw[List.length_map];omega) ?_;refine ab.nil ⟨rfl,?_⟩;exact qL (N1_0_4_0_0_0 V) (by kernel_rfl) rfl ⟨rfl,trivial⟩
     · refine ao (fun B1 F1 w1=>?_);refine qU 1 rfl ?_;refine ab.nil ⟨rfl,?_⟩;exact qL (N0_1_4_0_0_0 V) (by kernel_rfl) rfl ⟨rfl,trivial⟩
   refine ZH.meet 10 (qB 23 49127) (fun V=>((Vr,OA Ws)::(Vc,CA s.cols)::bG Ws (b.set r q))) (fun V=>[(3,.bx [.sl 1 (v.map af)]),(6,.bx [.sl 1 [],.sl 1 [],dI 0,.sl 3 []]),(7,.d aj),(8,.bx [.v Vr,.v Vc,dI sg,af det]),(11,.d (dI c)),(12,.d (dI r)),(14,.d (af p)),(36,.d (dI most)),(37,.d (dI c)),(16,.d (dI k)),(126,.d (.v Vr)),(127,.d (dI r)),(130,.d (dI k)),(133,.d (.v Vr)),(134,.d (dI r)),(137,.d (dI k)),(140,.d (af p)),(120,.d (dI N)),(121,.d (dI k)),(131,.d (bF v)),(136,.d (.v (Ws.getD r undef))),(138,.d (.v (bf (Ws.getD r undef) (k*1))))]) (fun V=>?_) (fun N0_1_3_0_0_0=>?_)
   · refine ZH.two 3 14 (by kernel_rfl) rfl rfl rfl rfl (fun _=>rfl) (fun _=>rfl) ⟨rfl,trivial⟩ ?_ ?_
     · refine ah (fun B1 F1 w1 hS=>?_);refine ab.idxs tok (hS.at (i:=0) rfl (by rw[List.length_map];omega)) rfl rfl rfl rfl (Int.natCast_nonneg _) (by show r<_;rw[List.length_map];omega) ?_;refine ab.nil ⟨rfl,?_⟩;exact qL (N1_1_3_0_0_0 V) (by kernel_rfl) rfl ⟨rfl,trivial⟩
     · refine ah (fun B1 F1 w1 hS=>?_);refine ab.aY tok (af (q.getD k [])) (hS.at (i:=r+2) (hgr q) (by rw[List.length_map];omega)) rfl rfl rfl rfl rfl rfl (getM af (by omega)) rfl ?_;rw[hpg];refine ab.nil ⟨rfl,?_⟩;exact qL (N0_1_4_0_0_0 V) (by kernel_rfl) rfl ⟨rfl,trivial⟩
   refine ZH.meet 10 (qB 23 49071) (fun V=>((Vr,OA Ws)::(Vc,CA s.cols)::bG Ws (b.set r q))) (fun V=>[(3,.bx [.sl 1 (v.map af)]),(6,.bx [.sl 1 [],.sl 1 [],dI 0,.sl 3 []]),(7,.d aj),(8,.bx [.v Vr,.v Vc,dI sg,af det]),(11,.d (dI c)),(12,.d (dI r)),(14,.d (af p)),(36,.d (dI most)),(37,.d (dI c)),(16,.d (dI k)),(126,.d (.v Vr)),(127,.d (dI r)),(130,.d (dI k)),(133,.d (.v Vr)),(134,.d (dI r)),(137,.d (dI k)),(140,.d (af p)),(120,.d (dI N)),(121,.d (dI k)),(128,.d (.v (bf Vr (r*1)))),(136,.d (.v (Ws.getD r undef))),(138,.d (.v (bf (Ws.getD r undef) (k*1))))]) (fun V=>?_) (fun N1_0_3_0_0_0=>?_)
   · refine ZH.three 4 6 14 (by kernel_rfl) rfl rfl rfl rfl rfl rfl (fun _=>rfl) (fun _=>rfl) (fun _=>rfl) ⟨rfl,trivial⟩ ?_ ?_ ?_
     · refine ah (fun B1 F1 w1 hS=>?_);refine ab.aY tok (.v (Ws.getD r undef)) (hS.at (i:=0) rfl (by rw[List.length_map];omega)) rfl rfl rfl rfl rfl rfl (bE (by omega)) rfl ?_;refine ab.nil ⟨rfl,?_⟩;exact qL (N2_0_3_0_0_0 V) (by kernel_rfl) rfl ⟨rfl,trivial⟩
     · refine ao (fun B1 F1 w1=>?_);refine qU 1 rfl ?_;refine ab.nil ⟨rfl,?_⟩;exact qL (N1_1_3_0_0_0 V) (by kernel_rfl) rfl ⟨rfl,trivial⟩
     · refine ah (fun B1 F1 w1 hS=>?_);refine ab.aY tok (af (q.getD k [])) (hS.at (i:=r+2) (hgr q) (by rw[List.length_map];omega)) rfl rfl rfl rfl rfl rfl (getM af (by omega)) rfl ?_;rw[hpg];refine ab.nil ⟨rfl,?_⟩;exact qL (N1_0_4_0_0_0 V) (by kernel_rfl) rfl ⟨rfl,trivial⟩
   refine ZH.meet 10 (qB 23 40943) (fun V=>((Vr,OA Ws)::(Vc,CA s.cols)::bG Ws (b.set r q))) (fun V=>[(3,.bx [.sl 1 (v.map af)]),(6,.bx [.sl 1 [],.sl 1 [],dI 0,.sl 3 []]),(7,.d aj),(8,.bx [.v Vr,.v Vc,dI sg,af det]),(11,.d (dI c)),(12,.d (dI r)),(14,.d (af p)),(36,.d (dI most)),(37,.d (dI c)),(16,.d (dI k)),(126,.d (.v Vr)),(127,.d (dI r)),(130,.d (dI k)),(133,.d (.v Vr)),(134,.d (dI r)),(137,.d (dI k)),(140,.d (af p)),(120,.d (dI N)),(121,.d (dI k)),(128,.d (.v (bf Vr (r*1)))),(131,.d (bF v)),(136,.d (.v (Ws.getD r undef)))]) (fun V=>?_) (fun N1_1_2_0_0_0=>?_)
   · refine ZH.two 4 13 (by kernel_rfl) rfl rfl rfl rfl (fun _=>rfl) (fun _=>rfl) ⟨rfl,trivial⟩ ?_ ?_
     · refine ah (fun B1 F1 w1 hS=>?_);refine ab.aY tok (.v (Ws.getD r undef)) (hS.at (i:=0) rfl (by rw[List.length_map];omega)) rfl rfl rfl rfl rfl rfl (bE (by omega)) rfl ?_;refine ab.nil ⟨rfl,?_⟩;exact qL (N2_1_2_0_0_0 V) (by kernel_rfl) rfl ⟨rfl,trivial⟩
     · refine ah (fun B1 F1 w1 hS=>?_);refine ab.idxs tok (hS.at (i:=r+2) (hgr q) (by rw[List.length_map];omega)) rfl rfl rfl rfl (Int.natCast_nonneg k) (by rw[List.length_map];omega) ?_;refine ab.nil ⟨rfl,?_⟩;exact qL (N1_1_3_0_0_0 V) (by kernel_rfl) rfl ⟨rfl,trivial⟩
   refine ZH.meet 10 (qB 23 40895) (fun V=>((Vr,OA Ws)::(Vc,CA s.cols)::bG Ws (b.set r q))) (fun V=>[(3,.bx [.sl 1 (v.map af)]),(6,.bx [.sl 1 [],.sl 1 [],dI 0,.sl 3 []]),(7,.d aj),(8,.bx [.v Vr,.v Vc,dI sg,af det]),(11,.d (dI c)),(12,.d (dI r)),(14,.d (af p)),(36,.d (dI most)),(37,.d (dI c)),(16,.d (dI k)),(126,.d (.v Vr)),(127,.d (dI r)),(130,.d (dI k)),(133,.d (.v Vr)),(134,.d (dI r)),(137,.d (dI k)),(140,.d (af p)),(120,.d (dI N)),(121,.d (dI k)),(129,.d (.v (Ws.getD r undef))),(136,.d (.v (Ws.getD r undef)))]) (fun V=>?_) (fun N2_0_2_0_0_0=>?_)
   · refine ZH.two 6 13 (by kernel_rfl) rfl rfl rfl rfl (fun _=>rfl) (fun _=>rfl) ⟨rfl,trivial⟩ ?_ ?_
     · refine ao (fun B1 F1 w1=>?_);refine qU 1 rfl ?_;refine ab.nil ⟨rfl,?_⟩;exact qL (N2_1_2_0_0_0 V) (by kernel_rfl) rfl ⟨rfl,trivial⟩
     · refine ah (fun B1 F1 w1 hS=>?_);refine ab.idxs tok (hS.at (i:=r+2) (hgr q) (by rw[List.length_map];omega)) rfl rfl rfl rfl (Int.natCast_nonneg k) (by rw[List.length_map];omega) ?_;refine ab.nil ⟨rfl,?_⟩;exact qL (N2_0_3_0_0_0 V) (by kernel_rfl) rfl ⟨rfl,trivial⟩
   refine ZH.meet 10 (qB 23 38911) (fun V=>((Vr,OA Ws)::(Vc,CA s.cols)::bG Ws (b.set r q))) (fun V=>[(3,.bx [.sl 1 (v.map af)]),(6,.bx [.sl 1 [],.sl 1 [],dI 0,.sl 3 []]),(7,.d aj),(8,.bx [.v Vr,.v Vc,dI sg,af det]),(11,.d (dI c)),(12,.d (dI r)),(14,.d (af p)),(36,.d (dI most)),(37,.d (dI c)),(16,.d (dI k)),(126,.d (.v Vr)),(127,.d (dI r)),(130,.d (dI k)),(133,.d (.v Vr)),(134,.d (dI r)),(137,.d (dI k)),(140,.d (af p)),(120,.d (dI N)),(121,.d (dI k)),(129,.d (.v (Ws.getD r undef))),(131,.d (bF v)),(135,.d (.v (bf Vr (r*1))))]) (fun V=>?_) (fun N2_1_1_0_0_0=>?_)
   · refine ZH.all 11 (by kernel_rfl) rfl rfl (fun _=>rfl) ⟨rfl,trivial⟩ ?_;refine ah (fun B1 F1 w1 hS=>?_);refine ab.aY tok (.v (Ws.getD r undef)) (hS.at (i:=0) rfl (by rw[List.length_map];omega)) rfl rfl rfl rfl rfl rfl (bE (by omega)) rfl ?_;refine ab.nil ⟨rfl,?_⟩;exact qL (N2_1_2_0_0_0 V) (by kernel_rfl) rfl ⟨rfl,trivial⟩
   refine ZH.meet 11 (qB 23 49063) (fun V=>((Vr,OA Ws)::(Vc,CA s.cols)::bG Ws (b.set r q))) (fun V=>[(3,.bx [.sl 1 (v.map af)]),(6,.bx [.sl 1 [],.sl 1 [],dI 0,.sl 3 []]),(7,.d aj),(8,.bx [.v Vr,.v Vc,dI sg,af det]),(11,.d (dI c)),(12,.d (dI r)),(14,.d (af p)),(36,.d (dI most)),(37,.d (dI c)),(16,.d (dI k)),(126,.d (.v Vr)),(127,.d (dI r)),(130,.d (dI k)),(133,.d (.v Vr)),(134,.d (dI r)),(137,.d (dI k)),(140,.d (af p)),(120,.d (dI N)),(121,.d (dI k)),(136,.d (.v (Ws.getD r undef))),(138,.d (.v (bf (Ws.getD r undef) (k*1))))]) (fun V=>?_) (fun N0_0_3_0_0_0=>?_)
   · refine ZH.three 3 6 14 (by kernel_rfl) rfl rfl rfl rfl rfl rfl (fun _=>rfl) (fun _=>rfl) (fun _=>rfl) ⟨rfl,trivial⟩ ?_ ?_ ?_
     · refine ah (fun B1 F1 w1 hS=>?_);refine ab.idxs tok (hS.at (i:=0) rfl (by rw[List.length_map];omega)) rfl rfl rfl rfl (Int.natCast_nonneg _) (by show r<_;rw[List.length_map];omega) ?_;refine ab.nil ⟨rfl,?_⟩;exact qL (N1_0_3_0_0_0 V) (by kernel_rfl) rfl ⟨rfl,trivial⟩
     · refine ao (fun B1 F1 w1=>?_);refine qU 1 rfl ?_;refine ab.nil ⟨rfl,?_⟩;exact qL (N0_1_3_0_0_0 V) (by kernel_rfl) rfl ⟨rfl,trivial⟩
     · refine ah (fun B1 F1 w1 hS=>?_);refine ab.aY tok (af (q.getD k [])) (hS.at (i:=r+2) (hgr q) (by rw[List.length_map];omega)) rfl rfl rfl rfl rfl rfl (getM af (by omega)) rfl ?_;rw[hpg];refine ab.nil ⟨rfl,?_⟩;exact qL (N0_0_4_0_0_0 V) (by kernel_rfl) rfl ⟨rfl,trivial⟩
   refine ZH.meet 11 (qB 23 40935) (fun V=>((Vr,OA Ws)::(Vc,CA s.cols)::bG Ws (b.set r q))) (fun V=>[(3,.bx [.sl 1 (v.map af)]),(6,.bx [.sl 1 [],.sl 1 [],dI 0,.sl 3 []]),(7,.d aj),(8,.bx [.v Vr,.v Vc,dI sg,af det]),(11,.d (dI c)),(12,.d (dI r)),(14,.d (af p)),(36,.d (dI most)),(37,.d (dI c)),(16,.d (dI k)),(126,.d (.v Vr)),(127,.d (dI r)),(130,.d (dI k)),(133,.d (.v Vr)),(134,.d (dI r)),(137,.d (dI k)),(140,.d (af p)),(120,.d (dI N)),(121,.d (dI k)),(131,.d (bF v)),(136,.d (.v (Ws.getD r undef)))]) (fun V=>?_) (fun N0_1_2_0_0_0=>?_)
   · refine ZH.two 3 13 (by kernel_rfl) rfl rfl rfl rfl (fun _=>rfl) (fun _=>rfl) ⟨rfl,trivial⟩ ?_ ?_
     · refine ah (fun B1 F1 w1 hS=>?_);refine ab.idxs tok (hS.at (i:=0) rfl (by rw[List.length_map];omega)) rfl rfl rfl rfl (Int.natCast_nonneg _) (by show r<_;rw[List.length_map];omega) ?_;refine ab.nil ⟨rfl,?_⟩;exact qL (N1_1_2_0_0_0 V) (by kernel_rfl) rfl ⟨rfl,trivial⟩
     · refine ah (fun B1 F1 w1 hS=>?_);refine ab.idxs tok (hS.at (i:=r+2) (hgr q) (by rw[List.length_map];omega)) rfl rfl rfl rfl (Int.natCast_nonneg k) (by rw[List.length_map];omega) ?_;refine ab.nil ⟨rfl,?_⟩;exact qL (N0_1_3_0_0_0 V) (by kernel_rfl) rfl ⟨rfl,trivial⟩
   refine ZH.meet 11 (qB 23 40879) (fun V=>((Vr,OA Ws)::(Vc,CA s.cols)::bG Ws (b.set r q))) (fun V=>[(3,.bx [.sl 1 (v.map af)]),(6,.bx [.sl 1 [],.sl 1 [],dI 0,.sl 3 []]),(7,.d aj),(8,.bx [.v Vr,.v Vc,dI sg,af det]),(11,.d (dI c)),(12,.d (dI r)),(14,.d (af p)),(36,.d (dI most)),(37,.d (dI c)),(16,.d (dI k)),(126,.d (.v Vr)),(127,.d (dI r)),(130,.d (dI k)),(133,.d (.v Vr)),(134,.d (dI r)),(137,.d (dI k)),(140,.d (af p)),(120,.d (dI N)),(121,.d (dI k)),(128,.d (.v (bf Vr (r*1)))),(136,.d (.v (Ws.getD r undef)))]) (fun V=>?_) (fun N1_0_2_0_0_0=>?_)
   · refine ZH.three 4 6 13 (by kernel_rfl) rfl rfl rfl rfl rfl rfl (fun _=>rfl) (fun _=>rfl) (fun _=>rfl) ⟨rfl,trivial⟩ ?_ ?_ ?_
     · refine ah (fun B1 F1 w1 hS=>?_);refine ab.aY tok (.v (Ws.getD r undef)) (hS.at (i:=0) rfl (by rw[List.length_map];omega)) rfl rfl rfl rfl rfl rfl (bE (by omega)) rfl ?_;refine ab.nil ⟨rfl,?_⟩;exact qL (N2_0_2_0_0_0 V) (by kernel_rfl) rfl ⟨rfl,trivial⟩
     · refine ao (fun B1 F1 w1=>?_);refine qU 1 rfl ?_;refine ab.nil ⟨rfl,?_⟩;exact qL (N1_1_2_0_0_0 V) (by kernel_rfl) rfl ⟨rfl,trivial⟩
     · refine ah (fun B1 F1 w1 hS=>?_);refine ab.idxs tok (hS.at (i:=r+2) (hgr q) (by rw[List.length_map];omega)) rfl rfl rfl rfl (Int.natCast_nonneg k) (by rw[List.length_map];omega) ?_;refine ab.nil ⟨rfl,?_⟩;exact qL (N1_0_3_0_0_0 V) (by kernel_rfl) rfl ⟨rfl,trivial⟩
   refine ZH.meet 11 (qB 23 38895) (fun V=>((Vr,OA Ws)::(Vc,CA s.cols)::bG Ws (b.set r q))) (fun V=>[(3,.bx [.sl 1 (v.map af)]),(6,.bx [.sl 1 [],.sl 1 [],dI 0,.sl 3 []]),(7,.d aj),(8,.bx [.v Vr,.v Vc,dI sg,af det]),(11,.d (dI c)),(12,.d (dI r)),(14,.d (af p)),(36,.d (dI most)),(37,.d (dI c)),(16,.d (dI k)),(126,.d (.v Vr)),(127,.d (dI r)),(130,.d (dI k)),(133,.d (.v Vr)),(134,.d (dI r)),(137,.d (dI k)),(140,.d (af p)),(120,.d (dI N)),(121,.d (dI k)),(128,.d (.v (bf Vr (r*1)))),(131,.d (bF v)),(135,.d (.v (bf Vr (r*1))))]) (fun V=>?_) (fun N1_1_1_0_0_0=>?_)
   · refine ZH.two 4 11 (by kernel_rfl) rfl rfl rfl rfl (fun _=>rfl) (fun _=>rfl) ⟨rfl,trivial⟩ ?_ ?_
     · refine ah (fun B1 F1 w1 hS=>?_);refine ab.aY tok (.v (Ws.getD r undef)) (hS.at (i:=0) rfl (by rw[List.length_map];omega)) rfl rfl rfl rfl rfl rfl (bE (by omega)) rfl ?_;refine ab.nil ⟨rfl,?_⟩;exact qL (N2_1_1_0_0_0 V) (by kernel_rfl) rfl ⟨rfl,trivial⟩
     · refine ah (fun B1 F1 w1 hS=>?_);refine ab.aY tok (.v (Ws.getD r undef)) (hS.at (i:=0) rfl (by rw[List.length_map];omega)) rfl rfl rfl rfl rfl rfl (bE (by omega)) rfl ?_;refine ab.nil ⟨rfl,?_⟩;exact qL (N1_1_2_0_0_0 V) (by kernel_rfl) rfl ⟨rfl,trivial⟩
   refine ZH.meet 11 (qB 23 38847) (fun V=>((Vr,OA Ws)::(Vc,CA s.cols)::bG Ws (b.set r q))) (fun V=>[(3,.bx [.sl 1 (v.map af)]),(6,.bx [.sl 1 [],.sl 1 [],dI 0,.sl 3 []]),(7,.d aj),(8,.bx [.v Vr,.v Vc,dI sg,af det]),(11,.d (dI c)),(12,.d (dI r)),(14,.d (af p)),(36,.d (dI most)),(37,.d (dI c)),(16,.d (dI k)),(126,.d (.v Vr)),(127,.d (dI r)),(130,.d (dI k)),(133,.d (.v Vr)),(134,.d (dI r)),(137,.d (dI k)),(140,.d (af p)),(120,.d (dI N)),(121,.d (dI k)),(129,.d (.v (Ws.getD r undef))),(135,.d (.v (bf Vr (r*1))))]) (fun V=>?_) (fun N2_0_1_0_0_0=>?_)
   · refine ZH.two 6 11 (by kernel_rfl) rfl rfl rfl rfl (fun _=>rfl) (fun _=>rfl) ⟨rfl,trivial⟩ ?_ ?_
     · refine ao (fun B1 F1 w1=>?_);refine qU 1 rfl ?_;refine ab.nil ⟨rfl,?_⟩;exact qL (N2_1_1_0_0_0 V) (by kernel_rfl) rfl ⟨rfl,trivial⟩
     · refine ah (fun B1 F1 w1 hS=>?_);refine ab.aY tok (.v (Ws.getD r undef)) (hS.at (i:=0) rfl (by rw[List.length_map];omega)) rfl rfl rfl rfl rfl rfl (bE (by omega)) rfl ?_;refine ab.nil ⟨rfl,?_⟩;exact qL (N2_0_2_0_0_0 V) (by kernel_rfl) rfl ⟨rfl,trivial⟩
   refine ZH.meet 11 (qB 23 37887) (fun V=>((Vr,OA Ws)::(Vc,CA s.cols)::bG Ws (b.set r q))) (fun V=>[(3,.bx [.sl 1 (v.map af)]),(6,.bx [.sl 1 [],.sl 1 [],dI 0,.sl 3 []]),(7,.d aj),(8,.bx [.v Vr,.v Vc,dI sg,af det]),(11,.d (dI c)),(12,.d (dI r)),(14,.d (af p)),(36,.d (dI most)),(37,.d (dI c)),(16,.d (dI k)),(126,.d (.v Vr)),(127,.d (dI r)),(130,.d (dI k)),(133,.d (.v Vr)),(134,.d (dI r)),(137,.d (dI k)),(140,.d (af p)),(120,.d (dI N)),(121,.d (dI k)),(129,.d (.v (Ws.getD r undef))),(131,.d (bF v))]) (fun V=>?_) (fun N2_1_0_0_0_0=>?_)
   · refine ZH.all 10 (by kernel_rfl) rfl rfl (fun _=>rfl) ⟨rfl,trivial⟩ ?_;refine ah (fun B1 F1 w1 hS=>?_);refine ab.idxs tok (hS.at (i:=0) rfl (by rw[List.length_map];omega)) rfl rfl rfl rfl (Int.natCast_nonneg _) (by show r<_;rw[List.length_map];omega) ?_;refine ab.nil ⟨rfl,?_⟩;exact qL (N2_1_1_0_0_0 V) (by kernel_rfl) rfl ⟨rfl,trivial⟩
   refine ZH.meet 12 (qB 23 40871) (fun V=>((Vr,OA Ws)::(Vc,CA s.cols)::bG Ws (b.set r q))) (fun V=>[(3,.bx [.sl 1 (v.map af)]),(6,.bx [.sl 1 [],.sl 1 [],dI 0,.sl 3 []]),(7,.d aj),(8,.bx [.v Vr,.v Vc,dI sg,af det]),(11,.d (dI c)),(12,.d (dI r)),(14,.d (af p)),(36,.d (dI most)),(37,.d (dI c)),(16,.d (dI k)),(126,.d (.v Vr)),(127,.d (dI r)),(130,.d (dI k)),(133,.d (.v Vr)),(134,.d (dI r)),(137,.d (dI k)),(140,.d (af p)),(120,.d (dI N)),(121,.d (dI k)),(136,.d (.v (Ws.getD r undef)))]) (fun V=>?_) (fun N0_0_2_0_0_0=>?_)
   · refine ZH.three 3 6 13 (by kernel_rfl) rfl rfl rfl rfl rfl rfl (fun _=>rfl) (fun _=>rfl) (fun _=>rfl) ⟨rfl,trivial⟩ ?_ ?_ ?_
     · refine ah (fun B1 F1 w1 hS=>?_);refine ab.idxs tok (hS.at (i:=0) rfl (by rw[List.length_map];omega)) rfl rfl rfl rfl (Int.natCast_nonneg _) (by show r<_;rw[List.length_map];omega) ?_;refine ab.nil ⟨rfl,?_⟩;exact qL (N1_0_2_0_0_0 V) (by kernel_rfl) rfl ⟨rfl,trivial⟩
     · refine ao (fun B1 F1 w1=>?_);refine qU 1 rfl ?_;refine ab.nil ⟨rfl,?_⟩;exact qL (N0_1_2_0_0_0 V) (by kernel_rfl) rfl ⟨rfl,trivial⟩
     · refine ah (fun B1 F1 w1 hS=>?_);refine ab.idxs tok (hS.at (i:=r+2) (hgr q) (by rw[List.length_map];omega)) rfl rfl rfl rfl (Int.natCast_nonneg k) (by rw[List.length_map];omega) ?_;refine ab.nil ⟨rfl,?_⟩;exact qL (N0_0_3_0_0_0 V) (by kernel_rfl) rfl ⟨rfl,trivial⟩
   refine ZH.meet 12 (qB 23 38887) (fun V=>((Vr,OA Ws)::(Vc,CA s.cols)::bG Ws (b.set r q))) (fun V=>[(3,.bx [.sl 1 (v.map af)]),(6,.bx [.sl 1 [],.sl 1 [],dI 0,.sl 3 []]),(7,.d aj),(8,.bx [.v Vr,.v Vc,dI sg,af det]),(11,.d (dI c)),(12,.d (dI r)),(14,.d (af p)),(36,.d (dI most)),(37,.d (dI c)),(16,.d (dI k)),(126,.d (.v Vr)),(127,.d (dI r)),(130,.d (dI k)),(133,.d (.v Vr)),(134,.d (dI r)),(137,.d (dI k)),(140,.d (af p)),(120,.d (dI N)),(121,.d (dI k)),(131,.d (bF v)),(135,.d (.v (bf Vr (r*1))))]) (fun V=>?_) (fun N0_1_1_0_0_0=>?_)
   · refine ZH.two 3 11 (by kernel_rfl) rfl rfl rfl rfl (fun _=>rfl) (fun _=>rfl) ⟨rfl,trivial⟩ ?_ ?_
     · refine ah (fun B1 F1 w1 hS=>?_);refine ab.idxs tok (hS.at (i:=0) rfl (by rw[List.length_map];omega)) rfl rfl rfl rfl (Int.natCast_nonneg _) (by show r<_;rw[List.length_map];omega) ?_;refine ab.nil ⟨rfl,?_⟩;exact qL (N1_1_1_0_0_0 V) (by kernel_rfl) rfl ⟨rfl,trivial⟩
     · refine ah (fun B1 F1 w1 hS=>?_);refine ab.aY tok (.v (Ws.getD r undef)) (hS.at (i:=0) rfl (by rw[List.length_map];omega)) rfl rfl rfl rfl rfl rfl (bE (by omega)) rfl ?_;refine ab.nil ⟨rfl,?_⟩;exact qL (N0_1_2_0_0_0 V) (by kernel_rfl) rfl ⟨rfl,trivial⟩
   refine ZH.meet 12 (qB 23 38831) (fun V=>((Vr,OA Ws)::(Vc,CA s.cols)::bG Ws (b.set r q))) (fun V=>[(3,.bx [.sl 1 (v.map af)]),(6,.bx [.sl 1 [],.sl 1 [],dI 0,.sl 3 []]),(7,.d aj),(8,.bx [.v Vr,.v Vc,dI sg,af det]),(11,.d (dI c)),(12,.d (dI r)),(14,.d (af p)),(36,.d (dI most)),(37,.d (dI c)),(16,.d (dI k)),(126,.d (.v Vr)),(127,.d (dI r)),(130,.d (dI k)),(133,.d (.v Vr)),(134,.d (dI r)),(137,.d (dI k)),(140,.d (af p)),(120,.d (dI N)),(121,.d (dI k)),(128,.d (.v (bf Vr (r*1)))),(135,.d (.v (bf Vr (r*1))))]) (fun V=>?_) (fun N1_0_1_0_0_0=>?_)
   · refine ZH.three 4 6 11 (by kernel_rfl) rfl rfl rfl rfl rfl rfl (fun _=>rfl) (fun _=>rfl) (fun _=>rfl) ⟨rfl,trivial⟩ ?_ ?_ ?_
     · refine ah (fun B1 F1 w1 hS=>?_);refine ab.aY tok (.v (Ws.getD r undef)) (hS.at (i:=0) rfl (by rw[List.length_map];omega)) rfl rfl rfl rfl rfl rfl (bE (by omega)) rfl ?_;refine ab.nil ⟨rfl,?_⟩;exact qL (N2_0_1_0_0_0 V) (by kernel_rfl) rfl ⟨rfl,trivial⟩
     · refine ao (fun B1 F1 w1=>?_);refine qU 1 rfl ?_;refine ab.nil ⟨rfl,?_⟩;exact qL (N1_1_1_0_0_0 V) (by kernel_rfl) rfl ⟨rfl,trivial⟩
     · refine ah (fun B1 F1 w1 hS=>?_);refine ab.aY tok (.v (Ws.getD r undef)) (hS.at (i:=0) rfl (by rw[List.length_map];omega)) rfl rfl rfl rfl rfl rfl (bE (by omega)) rfl ?_;refine ab.nil ⟨rfl,?_⟩;exact qL (N1_0_2_0_0_0 V) (by kernel_rfl) rfl ⟨rfl,trivial⟩
   refine ZH.meet 12 (qB 23 37871) (fun V=>((Vr,OA Ws)::(Vc,CA s.cols)::bG Ws (b.set r q))) (fun V=>[(3,.bx [.sl 1 (v.map af)]),(6,.bx [.sl 1 [],.sl 1 [],dI 0,.sl 3 []]),(7,.d aj),(8,.bx [.v Vr,.v Vc,dI sg,af det]),(11,.d (dI c)),(12,.d (dI r)),(14,.d (af p)),(36,.d (dI most)),(37,.d (dI c)),(16,.d (dI k)),(126,.d (.v Vr)),(127,.d (dI r)),(130,.d (dI k)),(133,.d (.v Vr)),(134,.d (dI r)),(137,.d (dI k)),(140,.d (af p)),(120,.d (dI N)),(121,.d (dI k)),(128,.d (.v (bf Vr (r*1)))),(131,.d (bF v))]) (fun V=>?_) (fun N1_1_0_0_0_0=>?_)
   · refine ZH.two 4 10 (by kernel_rfl) rfl rfl rfl rfl (fun _=>rfl) (fun _=>rfl) ⟨rfl,trivial⟩ ?_ ?_
     · refine ah (fun B1 F1 w1 hS=>?_);refine ab.aY tok (.v (Ws.getD r undef)) (hS.at (i:=0) rfl (by rw[List.length_map];omega)) rfl rfl rfl rfl rfl rfl (bE (by omega)) rfl ?_;refine ab.nil ⟨rfl,?_⟩;exact qL (N2_1_0_0_0_0 V) (by kernel_rfl) rfl ⟨rfl,trivial⟩
     · refine ah (fun B1 F1 w1 hS=>?_);refine ab.idxs tok (hS.at (i:=0) rfl (by rw[List.length_map];omega)) rfl rfl rfl rfl (Int.natCast_nonneg _) (by show r<_;rw[List.length_map];omega) ?_;refine ab.nil ⟨rfl,?_⟩;exact qL (N1_1_1_0_0_0 V) (by kernel_rfl) rfl ⟨rfl,trivial⟩
   refine ZH.meet 12 (qB 23 37823) (fun V=>((Vr,OA Ws)::(Vc,CA s.cols)::bG Ws (b.set r q))) (fun V=>[(3,.bx [.sl 1 (v.map af)]),(6,.bx [.sl 1 [],.sl 1 [],dI 0,.sl 3 []]),(7,.d aj),(8,.bx [.v Vr,.v Vc,dI sg,af det]),(11,.d (dI c)),(12,.d (dI r)),(14,.d (af p)),(36,.d (dI most)),(37,.d (dI c)),(16,.d (dI k)),(126,.d (.v Vr)),(127,.d (dI r)),(130,.d (dI k)),(133,.d (.v Vr)),(134,.d (dI r)),(137,.d (dI k)),(140,.d (af p)),(120,.d (dI N)),(121,.d (dI k)),(129,.d (.v (Ws.getD r undef)))]) (fun V=>?_) (fun N2_0_0_0_0_0=>?_)
   · refine ZH.two 6 10 (by kernel_rfl) rfl rfl rfl rfl (fun _=>rfl) (fun _=>rfl) ⟨rfl,trivial⟩ ?_ ?_
     · refine ao (fun B1 F1 w1=>?_);refine qU 1 rfl ?_;refine ab.nil ⟨rfl,?_⟩;exact qL (N2_1_0_0_0_0 V) (by kernel_rfl) rfl ⟨rfl,trivial⟩
     · refine ah (fun B1 F1 w1 hS=>?_);refine ab.idxs tok (hS.at (i:=0) rfl (by rw[List.length_map];omega)) rfl rfl rfl rfl (Int.natCast_nonneg _) (by show r<_;rw[List.length_map];omega) ?_;refine ab.nil ⟨rfl,?_⟩;exact qL (N2_0_1_0_0_0 V) (by kernel_rfl) rfl ⟨rfl,trivial⟩
   refine ZH.meet 13 (qB 23 38823) (fun V=>((Vr,OA Ws)::(Vc,CA s.cols)::bG Ws (b.set r q))) (fun V=>[(3,.bx [.sl 1 (v.map af)]),(6,.bx [.sl 1 [],.sl 1 [],dI 0,.sl 3 []]),(7,.d aj),(8,.bx [.v Vr,.v Vc,dI sg,af det]),(11,.d (dI c)),(12,.d (dI r)),(14,.d (af p)),(36,.d (dI most)),(37,.d (dI c)),(16,.d (dI k)),(126,.d (.v Vr)),(127,.d (dI r)),(130,.d (dI k)),(133,.d (.v Vr)),(134,.d (dI r)),(137,.d (dI k)),(140,.d (af p)),(120,.d (dI N)),(121,.d (dI k)),(135,.d (.v (bf Vr (r*1))))]) (fun V=>?_) (fun N0_0_1_0_0_0=>?_)
   · refine ZH.three 3 6 11 (by kernel_rfl) rfl rfl rfl rfl rfl rfl (fun _=>rfl) (fun _=>rfl) (fun _=>rfl) ⟨rfl,trivial⟩ ?_ ?_ ?_
     · refine ah (fun B1 F1 w1 hS=>?_);refine ab.idxs tok (hS.at (i:=0) rfl (by rw[List.length_map];omega)) rfl rfl rfl rfl (Int.natCast_nonneg _) (by show r<_;rw[List.length_map];omega) ?_;refine ab.nil ⟨rfl,?_⟩;exact qL (N1_0_1_0_0_0 V) (by kernel_rfl) rfl ⟨rfl,trivial⟩
     · refine ao (fun B1 F1 w1=>?_);refine qU 1 rfl ?_;refine ab.nil ⟨rfl,?_⟩;exact qL (N0_1_1_0_0_0 V) (by kernel_rfl) rfl ⟨rfl,trivial⟩
     · refine ah (fun B1 F1 w1 hS=>?_);refine ab.aY tok (.v (Ws.getD r undef)) (hS.at (i:=0) rfl (by rw[List.length_map];omega)) rfl rfl rfl rfl rfl rfl (bE (by omega)) rfl ?_;refine ab.nil ⟨rfl,?_⟩;exact qL (N0_0_2_0_0_0 V) (by kernel_rfl) rfl ⟨rfl,trivial⟩
   refine ZH.meet 13 (qB 23 37863) (fun V=>((Vr,OA Ws)::(Vc,CA s.cols)::bG Ws (b.set r q))) (fun V=>[(3,.bx [.sl 1 (v.map af)]),(6,.bx [.sl 1 [],.sl 1 [],dI 0,.sl 3 []]),(7,.d aj),(8,.bx [.v Vr,.v Vc,dI sg,af det]),(11,.d (dI c)),(12,.d (dI r)),(14,.d (af p)),(36,.d (dI most)),(37,.d (dI c)),(16,.d (dI k)),(126,.d (.v Vr)),(127,.d (dI r)),(130,.d (dI k)),(133,.d (.v Vr)),(134,.d (dI r)),(137,.d (dI k)),(140,.d (af p)),(120,.d (dI N)),(121,.d (dI k)),(131,.d (bF v))]) (fun V=>?_) (fun N0_1_0_0_0_0=>?_)
   · refine ZH.two 3 10 (by kernel_rfl) rfl rfl rfl rfl (fun _=>rfl) (fun _=>rfl) ⟨rfl,trivial⟩ ?_ ?_
     · refine ah (fun B1 F1 w1 hS=>?_);refine ab.idxs tok (hS.at (i:=0) rfl (by rw[List.length_map];omega)) rfl rfl rfl rfl (Int.natCast_nonneg _) (by show r<_;rw[List.length_map];omega) ?_;refine ab.nil ⟨rfl,?_⟩;exact qL (N1_1_0_0_0_0 V) (by kernel_rfl) rfl ⟨rfl,trivial⟩
     · refine ah (fun B1 F1 w1 hS=>?_);refine ab.idxs tok (hS.at (i:=0) rfl (by rw[List.length_map];omega)) rfl rfl rfl rfl (Int.natCast_nonneg _) (by show r<_;rw[List.length_map];omega) ?_;refine ab.nil ⟨rfl,?_⟩;exact qL (N0_1_1_0_0_0 V) (by kernel_rfl) rfl ⟨rfl,trivial⟩
   refine ZH.meet 13 (qB 23 37807) (fun V=>((Vr,OA Ws)::(Vc,CA s.cols)::bG Ws (b.set r q))) (fun V=>[(3,.bx [.sl 1 (v.map af)]),(6,.bx [.sl 1 [],.sl 1 [],dI 0,.sl 3 []]),(7,.d aj),(8,.bx [.v Vr,.v Vc,dI sg,af det]),(11,.d (dI c)),(12,.d (dI r)),(14,.d (af p)),(36,.d (dI most)),(37,.d (dI c)),(16,.d (dI k)),(126,.d (.v Vr)),(127,.d (dI r)),(130,.d (dI k)),(133,.d (.v Vr)),(134,.d (dI r)),(137,.d (dI k)),(140,.d (af p)),(120,.d (dI N)),(121,.d (dI k)),(128,.d (.v (bf Vr (r*1))))]) (fun V=>?_) (fun N1_0_0_0_0_0=>?_)
   · refine ZH.three 4 6 10 (by kernel_rfl) rfl rfl rfl rfl rfl rfl (fun _=>rfl) (fun _=>rfl) (fun _=>rfl) ⟨rfl,trivial⟩ ?_ ?_ ?_
     · refine ah (fun B1 F1 w1 hS=>?_);refine ab.aY tok (.v (Ws.getD r undef)) (hS.at (i:=0) rfl (by rw[List.length_map];omega)) rfl rfl rfl rfl rfl rfl (bE (by omega)) rfl ?_;refine ab.nil ⟨rfl,?_⟩;exact qL (N2_0_0_0_0_0 V) (by kernel_rfl) rfl ⟨rfl,trivial⟩
     · refine ao (fun B1 F1 w1=>?_);refine qU 1 rfl ?_;refine ab.nil ⟨rfl,?_⟩;exact qL (N1_1_0_0_0_0 V) (by kernel_rfl) rfl ⟨rfl,trivial⟩
     · refine ah (fun B1 F1 w1 hS=>?_);refine ab.idxs tok (hS.at (i:=0) rfl (by rw[List.length_map];omega)) rfl rfl rfl rfl (Int.natCast_nonneg _) (by show r<_;rw[List.length_map];omega) ?_;refine ab.nil ⟨rfl,?_⟩;exact qL (N1_0_1_0_0_0 V) (by kernel_rfl) rfl ⟨rfl,trivial⟩
   refine ZH.meet 14 (qB 23 37799) (fun V=>((Vr,OA Ws)::(Vc,CA s.cols)::bG Ws (b.set r q))) (fun V=>[(3,.bx [.sl 1 (v.map af)]),(6,.bx [.sl 1 [],.sl 1 [],dI 0,.sl 3 []]),(7,.d aj),(8,.bx [.v Vr,.v Vc,dI sg,af det]),(11,.d (dI c)),(12,.d (dI r)),(14,.d (af p)),(36,.d (dI most)),(37,.d (dI c)),(16,.d (dI k)),(126,.d (.v Vr)),(127,.d (dI r)),(130,.d (dI k)),(133,.d (.v Vr)),(134,.d (dI r)),(137,.d (dI k)),(140,.d (af p)),(120,.d (dI N)),(121,.d (dI k))]) (fun V=>?_) (fun N0_0_0_0_0_0=>?_)
   · refine ZH.three 3 6 10 (by kernel_rfl) rfl rfl rfl rfl rfl rfl (fun _=>rfl) (fun _=>rfl) (fun _=>rfl) ⟨rfl,trivial⟩ ?_ ?_ ?_
     · refine ah (fun B1 F1 w1 hS=>?_);refine ab.idxs tok (hS.at (i:=0) rfl (by rw[List.length_map];omega)) rfl rfl rfl rfl (Int.natCast_nonneg _) (by show r<_;rw[List.length_map];omega) ?_;refine ab.nil ⟨rfl,?_⟩;exact qL (N1_0_0_0_0_0 V) (by kernel_rfl) rfl ⟨rfl,trivial⟩
     · refine ao (fun B1 F1 w1=>?_);refine qU 1 rfl ?_;refine ab.nil ⟨rfl,?_⟩;exact qL (N0_1_0_0_0_0 V) (by kernel_rfl) rfl ⟨rfl,trivial⟩
     · refine ah (fun B1 F1 w1 hS=>?_);refine ab.idxs tok (hS.at (i:=0) rfl (by rw[List.length_map];omega)) rfl rfl rfl rfl (Int.natCast_nonneg _) (by show r<_;rw[List.length_map];omega) ?_;refine ab.nil ⟨rfl,?_⟩;exact qL (N0_0_1_0_0_0 V) (by kernel_rfl) rfl ⟨rfl,trivial⟩
   exact qL (N0_0_0_0_0_0 fg) (by kernel_rfl) rfl ⟨rfl,trivial⟩
 have hkN:k=N:=by have:=of_decide_eq_false h;omega
 subst hkN;rw[show fQ (xo v row p) row k=xo v row p by rw[← hrN];exact wM hz,← hE];refine AZ.exit ?_;have hWe:Ws.length=e.length:=by omega
 have hre:r<e.length:=by omega
 have he2c:e.length=s.rows.length:=by omega
 refine AZ.seq ?_;refine AZ.seq ?_;refine AZ.A2 (fun B1 F1 w1 hS=>?_);refine qU 2 rfl ?_;refine ab.lens tok (hS.at (i:=0) rfl (by rw[List.length_map];omega)) rfl rfl rfl rfl ?_;rw[List.length_map,hWe];refine qU 1 rfl ?_;refine ab.nil ⟨rfl,?_⟩;refine AZ.block ?_;refine AZ.aE [3,6,7,8,11,12,36,37,152,153] (fun i:Nat=>(((Vr,OA Ws)::(Vc,CA s.cols)::bG Ws (cW v e r c i)),[(3,.bx [.sl 1 (v.map af)]),(6,.bx [.sl 1 [],.sl 1 [],dI 0,.sl 3 []]),(7,.d aj),(8,.bx [.v Vr,.v Vc,dI sg,af det]),(11,.d (dI c)),(12,.d (dI r)),(36,.d (dI most)),(37,.d (dI c)),(152,.d (dI e.length)),(153,.d (dI i))])) (fun i=>i≤e.length) (fun i=>e.length-i) 0 rfl (Nat.zero_le _) (fun i hi=>?_);show AZ _ _ _ _ _ _ _ ((Vr,OA Ws)::(Vc,CA s.cols)::bG Ws (cW v e r c i)) [(3,.bx [.sl 1 (v.map af)]),(6,.bx [.sl 1 [],.sl 1 [],dI 0,.sl 3 []]),(7,.d aj),(8,.bx [.v Vr,.v Vc,dI sg,af det]),(11,.d (dI c)),(12,.d (dI r)),(36,.d (dI most)),(37,.d (dI c)),(152,.d (dI e.length)),(153,.d (dI i))];refine AZ.seq ?_;refine AZ.gH (fun B1 F1 w1=>?_);refine qU 1 rfl ?_;refine ab.nil ⟨rfl,?_⟩;refine AZ.seq ?_;refine AZ.cond rfl (fun h=>?_) (fun h=>?_)
 · have hie:i<e.length:=by have:=of_decide_eq_true h;omega
   have hm1:=jA v e r c i;have hm2:=po (v:=v) (r:=r) (c:=c) he2 i (by omega);have hm3:=vz V (r:=r) (c:=c) he3 i;have hmi:=fy v e r c i i (.inl (Nat.le_refl _));have hmr:=fy v e r c i r (.inr rfl);have hnx:cW v e r c (i+1)=if i≠r∧oF v (bY (cW v e r c i) i c)≠0 then (cW v e r c i).set i (my v ((cW v e r c i).getD i []) ((cW v e r c i).getD r []) (bY (cW v e r c i) i c)) else cW v e r c i:=rfl
   have iu:bY (cW v e r c i) i c=bY e i c:=vA v e r c i c;generalize cW v e r c i=m at *;refine AZ.skip ?_;refine AZ.seq ?_;refine AZ.block ?_;refine AZ.seq ?_;refine AZ.gH (fun B1 F1 w1=>?_);refine qU 2 rfl ?_;refine ab.nil ⟨rfl,?_⟩;refine AZ.seq ?_;refine AZ.any aP (xl.zo 16 (by kernel_rfl) (fun B1 F1 w1 hS=>?_));have hS0:=hS.at (i:=0) rfl (by rw[List.length_map];omega);refine qP 3 rfl ?_;by_cases hir:i=r
   · rw[if_neg (fun g=>g.1 hir)] at hnx;rw[bne_eq_false_iff_eq.2 (show (i:Int)=(r:Int) by omega)];refine qP 13 rfl ?_;refine ae.nil ⟨rfl,?_⟩;refine ai.nil ?_;refine AZ.ay rfl ?_;refine AZ.skip ?_;refine AZ.gH (fun B1 F1 w1=>?_);refine qU 1 rfl ?_;rw[aD (x:=(i:Int)+1) (by omega) (by omega)];refine qU 1 rfl ?_;refine ab.nil ⟨rfl,?_⟩;exact⟨i+1,Prod.ext (show ((Vr,OA Ws)::(Vc,CA s.cols)::bG Ws m)=((Vr,OA Ws)::(Vc,CA s.cols)::bG Ws (cW v e r c (i+1))) by rw[hnx]) rfl,hie,by omega⟩
   have hmiN:(m.getD i []).length=k:=hm2 i (by omega);have hmrN:(m.getD r []).length=k:=hm2 r (by omega);have hgi:=gT (Vs:=Ws) (a:=m) (j:=i) (by omega) (by omega);have hgr2:=gT (Vs:=Ws) (a:=m) (j:=r) (by omega) (by omega);have hS1:=hS.at (i:=i+2) hgi (by rw[List.length_map];omega);have cs:=kV V (hm3 i c) (by rw[iu];exact oks i (by omega) (by omega));have okt2:=okt i (by omega) (by omega);rw[← iu,← hmi,← hmr] at okt2;rw[bne_iff_ne.2 (show (i:Int)≠(r:Int) by omega)];refine qP 5 rfl ?_;refine ae.idxs tok hS0 rfl rfl rfl rfl rfl (Int.natCast_nonneg i) (by rw[List.length_map];omega) ?_;refine ae.aY tok (.v (Ws.getD i undef)) hS0 rfl rfl rfl rfl rfl rfl rfl (bE (by omega)) rfl ?_;refine qP 1 rfl ?_;refine ae.idxs tok hS1 rfl rfl rfl rfl rfl (Int.natCast_nonneg c) (by rw[List.length_map];omega) ?_;refine ae.aY tok (af (bY m i c)) hS1 rfl rfl rfl rfl rfl rfl rfl (hel hm2 (by omega) c hcN) rfl ?_;refine ae.call tok rfl rfl rfl rfl rfl cs ?_;refine qP 2 rfl ?_;refine ae.nil ⟨rfl,?_⟩;refine ai.nil ?_;refine AZ.cond rfl (fun h=>?_) (fun h=>?_);rotate_left
   · have hg:oF v (bY m i c)=0:=bne_eq_false_iff_eq.1 h;rw[if_neg (fun g=>g.2 hg)] at hnx;refine AZ.skip ?_;refine AZ.gH (fun B1 F1 w1=>?_);refine qU 1 rfl ?_;rw[aD (x:=(i:Int)+1) (by omega) (by omega)];refine qU 1 rfl ?_;refine ab.nil ⟨rfl,?_⟩;exact⟨i+1,Prod.ext (show ((Vr,OA Ws)::(Vc,CA s.cols)::bG Ws m)=((Vr,OA Ws)::(Vc,CA s.cols)::bG Ws (cW v e r c (i+1))) by rw[hnx]) rfl,hie,by omega⟩
   have hg:oF v (bY m i c)≠0:=bne_iff_ne.1 h;rw[if_pos ⟨hir,hg⟩] at hnx;have ct:=rO (Ws.getD i undef) (Ws.getD r undef) V (xs:=m.getD i []) (ys:=m.getD r []) (c:=bY m i c) (by omega) (by omega) (by omega) (hm3 i) (hm3 r) (hm3 i c) (okt2 (by rw[iu] at hg ⊢; exact hg));refine AZ.seq ?_;refine AZ.any aP (xl.zo 19 (by kernel_rfl) (fun B1 F1 w1 hS=>?_));have hS0:=hS.at (i:=0) rfl (by rw[List.length_map];omega);have hS1:=hS.at (i:=i+2) hgi (by rw[List.length_map];omega);refine qP 4 rfl ?_;refine ae.idxs tok hS0 rfl rfl rfl rfl rfl (Int.natCast_nonneg i) (by rw[List.length_map];omega) ?_;refine ae.aY tok (.v (Ws.getD i undef)) hS0 rfl rfl rfl rfl rfl rfl rfl (bE (by omega)) rfl ?_;refine qP 3 rfl ?_;refine ae.idxs tok hS0 rfl rfl rfl rfl rfl (Int.natCast_nonneg r) (by rw[List.length_map];omega) ?_;refine ae.aY tok (.v (Ws.getD r undef)) hS0 rfl rfl rfl rfl rfl rfl rfl (bE (by omega)) rfl ?_;refine qP 3 rfl ?_;refine ae.idxs tok hS0 rfl rfl rfl rfl rfl (Int.natCast_nonneg i) (by rw[List.length_map];omega) ?_;refine ae.aY tok (.v (Ws.getD i undef)) hS0 rfl rfl rfl rfl rfl rfl rfl (bE (by omega)) rfl ?_;refine qP 1 rfl ?_;refine ae.idxs tok hS1 rfl rfl rfl rfl rfl (Int.natCast_nonneg c) (by rw[List.length_map];omega) ?_;refine ae.aY tok (af (bY m i c)) hS1 rfl rfl rfl rfl rfl rfl rfl (hel hm2 (by omega) c hcN) rfl ?_;refine ae.nil ⟨rfl,?_⟩;refine ai.to [172,177,182,190,3,6,7,8,11,12,36,37,152,153] [(172,.d (bF v)),(177,.d (.v (Ws.getD i undef))),(182,.d (.v (Ws.getD r undef))),(190,.d (af (bY m i c))),(3,.bx [.sl 1 (v.map af)]),(6,.bx [.sl 1 [],.sl 1 [],dI 0,.sl 3 []]),(7,.d aj),(8,.bx [.v Vr,.v Vc,dI sg,af det]),(11,.d (dI c)),(12,.d (dI r)),(36,.d (dI most)),(37,.d (dI c)),(152,.d (dI e.length)),(153,.d (dI i))] rfl ?_;refine ai.lv tok [i+2,r+2] rfl rfl rfl rfl (GC hgi hgr2) (by simp[hir]) rfl ct (fun res R1 hP=>by rw[hP.2];exact Nat.le_refl _) (fun res R1 hP=>?_);obtain ⟨rfl,rfl⟩:=hP
   refine ai.sh (R':=(Vr,OA Ws)::(Vc,CA s.cols)::bG Ws (cW v e r c (i+1))) (by
    show ((Vr,OA Ws)::(Vc,CA s.cols)::((bG Ws m).set i _).set r _)++[]=_
    rw[List.append_nil,Cx (by omega) (by omega) (by omega) hir,hnx]) ?_
   refine ai.cut 1 rfl (fun B1 F1 w1=>?_);refine qU 1 rfl ?_;refine ab.nil ⟨rfl,?_⟩;refine ai.nil ?_;refine AZ.seq ?_;refine AZ.gH (fun B1 F1 w1=>?_);refine qU 1 rfl ?_;refine ab.err tok rfl rfl rfl rfl rfl ?_;refine ab.nil ⟨rfl,?_⟩;refine AZ.ay rfl ?_;refine AZ.skip ?_;refine AZ.gH (fun B1 F1 w1=>?_);refine qU 1 rfl ?_;rw[aD (x:=(i:Int)+1) (by omega) (by omega)];refine qU 1 rfl ?_;refine ab.nil ⟨rfl,?_⟩;exact⟨i+1,rfl,hie,by omega⟩
 have hie:i=e.length:=by have:=of_decide_eq_false h;omega
 subst hie;refine AZ.exit ?_;refine AZ.region ?_;refine ai.cut 4 rfl (fun B1 F1 w1=>?_);refine qU 3 rfl ?_;refine ab.fI tok rfl rfl rfl rfl rfl ?_;refine ab.nil ⟨rfl,?_⟩;refine ai.fB 198 1 rfl rfl rfl ?_;refine ai.cut 1 rfl (fun B1 F1 w1=>?_);refine ab.kt tok rfl rfl rfl rfl rfl rfl (by show ((s.cols.map (fun c:Nat=>dI c)).length+1)*8≤_;rw[List.length_map];omega) (by show (s.cols.map (fun c:Nat=>dI c)).length+1≤_;rw[List.length_map];omega) ?_;refine ab.nil ⟨rfl,?_⟩;refine ai.wQ 201 1 rfl rfl rfl rfl (fun Vq=>?_)
 refine ai.sh (R':=(Vr,OA Ws)::(Vq,CA (s.cols++[c]))::bG Ws (cW v e r c e.length)) (by
  show (Vr,OA Ws)::(Vq,AV.ow 3 (s.cols.map (fun c:Nat=>dI c)++[dI c]))::bG Ws (cW v e r c e.length)=_
  rw[show s.cols.map (fun c:Nat=>dI c)++[dI (c:Int)]=(s.cols++[c]).map (fun c:Nat=>dI c) by simp]) ?_
 refine ai.cut 2 rfl (fun B1 F1 w1=>?_);refine qU 2 rfl ?_;refine ab.nil ⟨rfl,?_⟩;refine ai.nil ?_;refine AZ.gH (fun B1 F1 w1=>?_);refine qU 1 rfl ?_;rw[aD (x:=(c:Int)+1) (by omega) (by omega)];refine qU 1 rfl ?_;refine ab.nil ⟨rfl,?_⟩;exact⟨(c+1,Vr,Vq,Ws),by rw[hst];rfl,⟨hcm,by show Ws.length=a.length;omega⟩,by show most-(c+1)<most-c;omega⟩
end Lift
namespace Lift
open Go Go.Proofs
theorem nR(v:List NQ)(most:Nat)(hm:most≤1000000):Pure Tryz.prog 46 [bF v,eO [],dI most] (.tu [DR ⟨[],[],1,[1]⟩,aj]):=by
 refine qJ 205 Tryz.func46 rfl rfl rfl rfl (by kernel_rfl) (fun B F0 w0=>?_);have cone:=px (Qr ((1:Int):Rat)) (k:=1) (jD _ (by have:=sM;rw[show ((1:Int):Rat)=1 from rfl];omega)) (by decide) (by decide) (zD _);rw[cT,show FL ((1:Int):Rat)=[1] from rfl] at cone;refine qX 3 rfl ?_;refine qI (AW.region ?_);refine ab.call tok rfl rfl rfl rfl (ix 1 (by decide) (by decide)) ?_;refine ab.call tok rfl rfl rfl rfl cone ?_;refine qU 3 rfl ?_;refine qI ?_;refine qX 3 rfl ?_;refine ab.nil ?_;refine AW.block ?_;refine AW.aE [2,3,6,7,8,22,23,24] (fun _:Unit=>[(2,.d (dI most)),(3,.bx [.sl 1 (v.map af)]),(6,.bx [.sl 1 [],.sl 1 [],dI 0,.sl 3 []]),(7,.d aj),(8,.bx [.sl 1 [],.sl 1 [],dI 1,af [1]]),(22,.d (eO [])),(23,.d (dI 0)),(24,.d (dI 0))]) (fun _=>True) (fun _=>0) () rfl trivial (fun _ _=>?_);show AW _ _ _ _ _ _ _ [(2,.d (dI most)),(3,.bx [.sl 1 (v.map af)]),(6,.bx [.sl 1 [],.sl 1 [],dI 0,.sl 3 []]),(7,.d aj),(8,.bx [.sl 1 [],.sl 1 [],dI 1,af [1]]),(22,.d (eO [])),(23,.d (dI 0)),(24,.d (dI 0))];refine qX 1 rfl ?_;refine qI ?_;refine AW.ay rfl ?_;refine AW.exit (AW.seq ?_);refine qX 2 rfl ?_;refine ab.nil ?_;refine AW.block ?_;refine AW.aE [3,6,7,8,36,37] (fun c:Nat=>[(3,.bx [.sl 1 (v.map af)]),(6,.bx [.sl 1 [],.sl 1 [],dI 0,.sl 3 []]),(7,.d aj),(8,.bx [.sl 1 [],.sl 1 [],dI 1,af [1]]),(36,.d (dI most)),(37,.d (dI c))]) (fun c=>c≤most) (fun c=>most-c) 0 rfl (Nat.zero_le _) (fun c hc=>?_);show AW _ _ _ _ _ _ _ [(3,.bx [.sl 1 (v.map af)]),(6,.bx [.sl 1 [],.sl 1 [],dI 0,.sl 3 []]),(7,.d aj),(8,.bx [.sl 1 [],.sl 1 [],dI 1,af [1]]),(36,.d (dI most)),(37,.d (dI c))];refine qX 1 rfl ?_;refine qI ?_;refine AW.cond rfl (fun h=>?_) (fun h=>?_);rotate_left
 · refine AW.exit ?_;refine qX 3 rfl ?_;exact qN rfl
 have hcm:c<most:=by have:=of_decide_eq_true h;omega
 refine AW.skip (AW.seq (AW.block ?_));refine qX 2 rfl ?_;refine qK 4 rfl ?_;refine qK 2 rfl ?_;refine ab.nil ?_;refine AW.cut [3,6,7,8,12,13,36,37] (fun _:Unit=>[(3,.bx [.sl 1 (v.map af)]),(6,.bx [.sl 1 [],.sl 1 [],dI 0,.sl 3 []]),(7,.d aj),(8,.bx [.sl 1 [],.sl 1 [],dI 1,af [1]]),(12,.d (dI 0)),(13,.d (dI 0)),(36,.d (dI most)),(37,.d (dI c))]) (fun _=>True) ?_ (fun _ _=>?_)
 · refine AW.block ?_;refine AW.aE [3,6,7,8,11,12,13,36,37] (fun _:Unit=>[(3,.bx [.sl 1 (v.map af)]),(6,.bx [.sl 1 [],.sl 1 [],dI 0,.sl 3 []]),(7,.d aj),(8,.bx [.sl 1 [],.sl 1 [],dI 1,af [1]]),(11,.d (dI c)),(12,.d (dI 0)),(13,.d (dI 0)),(36,.d (dI most)),(37,.d (dI c))]) (fun _=>True) (fun _=>0) () rfl trivial (fun _ _=>?_);show AW _ _ _ _ _ _ _ [(3,.bx [.sl 1 (v.map af)]),(6,.bx [.sl 1 [],.sl 1 [],dI 0,.sl 3 []]),(7,.d aj),(8,.bx [.sl 1 [],.sl 1 [],dI 1,af [1]]),(11,.d (dI c)),(12,.d (dI 0)),(13,.d (dI 0)),(36,.d (dI most)),(37,.d (dI c))];refine AW.seq (AW.seq ?_);refine AW.draw aP 18 (by kernel_rfl) ?_;refine qP 18 rfl ?_;refine ae.nil ?_;refine ab.nil ?_;refine AW.ay rfl ?_;exact AW.exit ⟨(),rfl,trivial⟩
 show AW _ _ _ _ _ _ _ [(3,.bx [.sl 1 (v.map af)]),(6,.bx [.sl 1 [],.sl 1 [],dI 0,.sl 3 []]),(7,.d aj),(8,.bx [.sl 1 [],.sl 1 [],dI 1,af [1]]),(12,.d (dI 0)),(13,.d (dI 0)),(36,.d (dI most)),(37,.d (dI c))];refine AW.seq ?_;refine qX 5 rfl ?_;refine ab.nil ?_;refine AW.aF rfl ?_;refine AW.exit ?_;refine qT 1 rfl ?_;rw[aD (x:=(c:Int)+1) (by omega) (by omega)];refine qU 1 rfl ?_;refine ab.nil ?_;exact⟨c+1,rfl,hcm,by omega⟩
def gu(v:List NQ)(a:br):j7:=aH v a (au a)
structure sK (v:List NQ) (a:br):Prop where
 l:a.length≤32
 r:bt (au a) a
 c:au a≤32
 lt:kn v.length a
theorem il{v:List NQ}(V:jH v){a:br}{N most:Nat}(ha:a.length≤1000000)(hN:N≤1000000)(hmost:most≤N)(hr:bt N a)(hl:kn v.length a)(ok: ∀c,c<most→lE v (aH v a c) c):
  Pure Tryz.prog 46 [bF v,eO a,dI most] (.tu [DR (aH v a most),aj]):=by
 by_cases h0:a.length=0
 · rw[List.length_eq_zero_iff.1 h0,uN];exact nR v most (by omega)
 · exact oV V (by omega) ha hN hmost hr hl ok
def oL(a:br):List (List (List RD)):=a.map (fun r=>r.map dK)
theorem nC(a:br):(oL a).length=a.length:=List.length_map ..
theorem jn(a:br)(i:Nat):(oL a).getD i []=(a.getD i []).map dK:=by
 unfold oL;rw[List.getD_eq_getElem?_getD,List.getElem?_map,List.getD_eq_getElem?_getD];cases a[i]? with
 | none=>rfl
 | some x=>rfl
theorem qm(a:br)(i k:Nat):((oL a).getD i []).getD k []=dK (bY a i k):=by
 rw[jn];unfold bY;generalize a.getD i []=r;rw[List.getD_eq_getElem?_getD,List.getElem?_map,List.getD_eq_getElem?_getD];cases r[k]? with
 | none=>rfl
 | some x=>rfl
theorem rh(a:br):MxR (oL a)=eO a:=by
 show D.sl 1 ((a.map _).map lD)=D.sl 1 (a.map eM);rw[List.map_map]
 congr 1
 refine List.map_congr_left fun r _=>?_;show D.sl 1 ((r.map dK).map cY)=D.sl 1 (r.map af);rw[List.map_map]
 congr 1
 exact List.map_congr_left fun x _=>oK x
theorem lS(a:br):au (oL a)=au a:=by unfold au;rw[jn,List.length_map]
theorem l8.s{m:Nat}{v:List NQ}(V:l8 m v)(hk:nM v.length m):Fq m (jQ v):=by
 have hl5:=V.l5;have hm2:=V.m2;have T:=V.raw.1;exact⟨fun i hi _=>by rw[nB];exact oJ (V.sz i),V.m1,by rw[fm];omega,T.ll,fun _=>by rw[fm];exact hk,hm2⟩
theorem sK.raw{m:Nat}{v:List NQ}{a:br}(V:l8 m v)(G:sK v a)(hs: ∀i k,aq m (bY a i k)):Cu m (jQ v) (oL a)∧kS (jQ v) (oL a)=0:=by
 have hl:=G.l;have hc:=G.c
 have hrow: ∀i,((oL a).getD i []).length≤32:=fun i=>by
  rw[jn,List.length_map];by_cases h:i<a.length
  · rw[G.r i h];exact hc
  · rw[l0 (by omega)];exact Nat.zero_le _
 refine⟨⟨fun i k=>by rw[qm];exact C6 V (G.lt i k) (hs i k),by rw[nC];omega,fun i=>Nat.le_trans (hrow i) (by decide)⟩,?_⟩;unfold kS;rw[if_neg (by rw[V.raw.2];simp)];unfold rM;split
 · rfl
 rw[nC,lS,if_neg (by omega)]
 have e1:fE (tN (oL a)) (a.length-0) 0=0:=iy fun j hj=>by
  unfold tN;rw[lS,jn,List.length_map,G.r j (by omega)];exact if_neg (fun h=>h rfl)
 rw[e1,if_neg (by decide)];refine iy fun j hj=>?_;unfold iY;refine iy fun k hk=>?_;rw[qm];exact GV V (G.lt j k)
theorem kX{m:Nat}{v:List NQ}{a:br}(V:l8 m v)(hk:nM v.length m)(G:sK v a)(hs: ∀i k,aq m (bY a i k))(ok: ∀c,c<au a→lE v (aH v a c) c):Pure Tryz.prog 13 [bF v,eO a] (.tu [dI (gu v a).cols.length,aj]):=by
 refine qJ 29 Tryz.func13 rfl rfl rfl rfl (by kernel_rfl) (fun B F0 w0=>?_);obtain ⟨r1,r2⟩:=G.raw V hs;have cc:=eK (V.s hk) r1;rw[r2,kK,rh] at cc;have hGl:=G.l;have hGc:=G.c;have cr:=il V.a (most:=au a) (by omega) (by omega) (Nat.le_refl _) G.r G.lt ok;have hcl:=(eQ V.a G.r G.lt (au a)).cl;change Pure _ _ _ (.tu [DR (gu v a),aj]) at cr;generalize gu v a=s at cr ⊢;obtain ⟨rows,cols,sg,det⟩:=s;refine qX 3 rfl ?_;refine qI ?_;refine qX 2 rfl ?_;refine ab.call tok rfl rfl rfl rfl cc ?_;refine qU 1 rfl ?_;refine qK 1 rfl ?_;refine ab.err tok rfl rfl rfl rfl rfl ?_;refine ab.nil ?_;refine AW.ay rfl ?_
 · refine AW.skip (AW.seq ?_);refine AW.n8 tok aP [(7,true),(1,false),(1,true)] 9 [7] (by kernel_rfl) ⟨rfl,?_⟩;refine qP 3 rfl ?_;refine ae.call tok rfl rfl rfl rfl rfl (cL a) ?_;refine ae.call tok rfl rfl rfl rfl rfl cr ?_;refine qP 2 rfl ?_;refine ae.nil ⟨rfl,?_⟩;refine qP 1 rfl ?_;refine ae.nil ⟨rfl,?_⟩;refine qP 1 rfl ?_;refine ae.nil ⟨_,oq.cons (.bx rfl) (oq.nil),?_⟩;refine qU 1 rfl ?_;refine qI ?_;refine qX 1 rfl ?_;refine ab.err tok rfl rfl rfl rfl rfl ?_;refine ab.nil ?_;refine AW.ay rfl ?_
   · refine AW.skip ?_;refine qX 2 rfl ?_;refine qU 1 rfl ?_;rw[List.length_map];refine qU 2 rfl ?_;exact qN rfl
end Lift
namespace Lift
def cD(a:br):br:=(List.range (au a)).map fun k=>a.map fun r=>r.getD k []
theorem gU(a:br):(cD a).length=au a:=by unfold cD;rw[List.length_map,List.length_range]
theorem lL(a:br){k:Nat}(h:k<au a):(cD a).getD k []=a.map fun r=>r.getD k []:=by
 unfold cD;rw[List.getD_eq_getElem?_getD,List.getElem?_map,List.getElem?_range h];rfl
theorem zq(a:br)(k i:Nat):(a.map fun r=>r.getD k []).getD i []=bY a i k:=by
 unfold bY;rw[List.getD_eq_getElem?_getD,List.getElem?_map,List.getD_eq_getElem?_getD (l:=a)];cases a[i]? with
 | none=>exact(lZ (Nat.zero_le k)).symm
 | some r=>rfl
theorem vS(a:br){i k:Nat}(h:k<au a):bY (cD a) k i=bY a i k:=by
 show ((cD a).getD k []).getD i []=_;rw[lL a h];exact zq a k i
theorem jL(a:br):bt a.length (cD a):=fun k hk=>by
 rw[gU] at hk;rw[lL a hk,List.length_map]
theorem tC{p:NQ→Prop}(h0:p []){a:br}(h: ∀i k,p (bY a i k)): ∀i k,p (bY (cD a) i k):=fun k i=>by
 by_cases hk:k<au a
 · rw[vS a hk];exact h i k
 · unfold bY;rw[l0 (by rw[gU];omega)];exact h0
theorem ns{l:Nat}{a:br}(h:kn l a):kn l (cD a):=tC (p:=ak l) (bn l) h
theorem xy{a:br}(h:0<au a):au (cD a)=a.length:=by
 unfold au;rw[lL a h,List.length_map]
def n0(v:List NQ)(a:br)(c:Nat):List Nat:=(List.range c).filter fun i=> !(aH v a c).cols.contains i
theorem wh(v:List NQ)(a:br)(c:Nat):(aH v a (c+1)).cols=(aH v a c).cols++[c]∨(aH v a (c+1)).cols=(aH v a c).cols:=by
 show (df v (aH v a c) c).cols=(aH v a c).cols++[c]∨(df v (aH v a c) c).cols=(aH v a c).cols;unfold df;split
 · exact .inl rfl
 · exact .inr rfl
theorem uO(v:List NQ)(a:br): ∀c,∀x∈(aH v a c).cols,x<c
 | 0,x,h=>by cases h
 | c+1,x,h=>by
   have ih:=uO v a c;rcases wh v a c with e | e
   · rw[e] at h;rcases List.mem_append.1 h with h | h
     · exact Nat.lt_succ_of_lt (ih x h)
     · rw[List.mem_singleton.1 h];exact Nat.lt_succ_self c
   · rw[e] at h;exact Nat.lt_succ_of_lt (ih x h)
theorem yv(v:List NQ)(a:br)(c:Nat):((aH v a (c+1)).cols=(aH v a c).cols++[c]∧n0 v a (c+1)=n0 v a c)∨((aH v a (c+1)).cols=(aH v a c).cols∧n0 v a (c+1)=n0 v a c++[c]):=by
 have hlt:=uO v a c;rcases wh v a c with e | e
 · refine .inl ⟨e,?_⟩;unfold n0;rw[List.range_succ,List.filter_append,e];rw[show List.filter (fun i=> !((aH v a c).cols++[c]).contains i) [c]=[] by simp,List.append_nil];refine List.filter_congr fun i hi=>?_;have hi:=List.mem_range.1 hi;have:i≠c:=by omega
   simp[this]
 · refine .inr ⟨e,?_⟩;unfold n0;rw[List.range_succ,List.filter_append,e]
   congr 1
   have:c ∉ (aH v a c).cols:=fun h=>absurd (hlt c h) (Nat.lt_irrefl c);simp[this]
theorem uf(v:List NQ)(a:br): ∀c,(n0 v a c).length+(aH v a c).cols.length=c
 | 0=>rfl
 | c+1=>by
   have ih:=uf v a c;rcases yv v a c with ⟨e1,e2⟩ | ⟨e1,e2⟩
   · rw[e1,e2,List.length_append];show _+(_+1)=_;omega
   · rw[e1,e2,List.length_append];show _+1+_=_;omega
def wi(v:List NQ)(a:br):List Nat:=n0 v (cD a) a.length
theorem Ba{m0:Nat}{v:List NQ}(V:l8 m0 v){a:br}(G:sK v a){n:Nat}(hn:n≤a.length):(aH v (cD a) n).cols.length=(aH v (a.take n) (au a)).cols.length :=
 zQ V G.r G.lt (jL a) (ns G.lt) (gU a) (fun i k _ hk=>vS a hk) hn
theorem uP{v:List NQ}(V:jH v){a:br}(G:sK v a):(gu v a).cols.length≤a.length∧(gu v a).cols.length≤au a :=
 ⟨(eQ V G.r G.lt (au a)).cm,(eQ V G.r G.lt (au a)).cl⟩
theorem zP{m0:Nat}{v:List NQ}(V:l8 m0 v){a:br}(G:sK v a):(gu v (cD a)).cols.length=(gu v a).cols.length∧(aH v (cD a) a.length).cols.length=(gu v a).cols.length:=by
 have h:=Ba V G (Nat.le_refl a.length);rw[List.take_length] at h;refine⟨?_,h⟩;by_cases h0:0<au a
 · unfold gu at *;rw[xy h0];exact h
 · have e:cD a=[]:=List.length_eq_zero_iff.1 (by rw[gU];omega);have:=(uP V.a G).2;unfold gu at *;rw[e,uN];show 0=_;omega
theorem A6{m0:Nat}{v:List NQ}(V:l8 m0 v){a:br}(G:sK v a):(wi v a).length=a.length-(gu v a).cols.length:=by
 have h1:=uf v (cD a) a.length;have h2:=(zP V G).2;have h3:=(uP V.a G).1;unfold wi;omega
end Lift
namespace Lift
open Go Go.Proofs
theorem nD(n:Nat)(r:D)(hn:n≤4611686018427387904)(h1: ∀i:Nat,i≤5→n=2^i→r= .tu [dI i,dB true])(h2:(∀i:Nat,i≤5→n≠2^i)→r= .tu [dI 0,dB false]):Pure Tryz.prog 76 [dI n] r:=by
 refine qJ 14 Tryz.func76 rfl rfl rfl rfl (by kernel_rfl) (fun B0 F0 w0=>?_);refine qX 2 rfl ?_;refine qI ?_;refine qX 1 rfl ?_;refine ab.nil ?_;refine AW.block ?_;refine AW.aE [0,5] (fun k:Nat=>[(0,.d (dI n)),(5,.d (dI k))]) (fun k=>k≤6∧ ∀j,j<k→n≠2^j) (fun k=>6-k) 0 rfl ⟨Nat.zero_le _,fun j hj=>by omega⟩ (fun k ⟨hk,hi⟩=>?_);refine qX 1 rfl ?_;refine qI ?_;refine AW.cond rfl (fun h=>?_) (fun h=>?_);rotate_left
 · have hkk:k=6:=by have:=of_decide_eq_false h;omega
   subst hkk;rw[h2 (fun i hi5=>hi i (by omega))];refine AW.exit ?_;refine qX 2 rfl ?_;exact qN rfl
 have hkk:k<6:=by have:=of_decide_eq_true h;omega
 refine AW.skip (AW.seq (AW.block ?_));refine qX 2 rfl ?_;refine qK 3 rfl ?_;rw[vX (by omega)];refine qU 1 rfl ?_;refine ab.nil ?_;by_cases hp:n=2^k
 · rw[h1 k (by omega) hp,beq_iff_eq.2 (show (n:Int)=((2^k:Nat):Int) by rw[hp])];refine AW.aF rfl ?_;refine qX 3 rfl ?_;exact qN rfl
 rw[beq_eq_false_iff_ne.2 (show (n:Int)≠((2^k:Nat):Int) by omega)];refine AW.ay rfl ?_;refine AW.skip ?_;refine qT 1 rfl ?_;rw[aD (x:=(k:Int)+1) (by omega) (by omega)];refine qU 1 rfl ?_;refine ab.nil ?_
 exact⟨k+1,rfl,⟨hkk,fun j hj=>by
  by_cases e:j=k
  · rw[e];exact hp
  · exact hi j (by omega)⟩,by omega⟩
theorem eH{n i:Nat}(h:n=2^i)(hi:i≤5):Pure Tryz.prog 76 [dI n] (.tu [dI i,dB true]):=by
 have hp:2^i≤2^5:=Nat.pow_le_pow_right (by decide) hi;refine nD n _ (by omega) (fun j hj e=>?_) (fun hn=>absurd h (hn i hi));have h1:=gK (Nat.le_of_eq (h.symm.trans e));have h3:=gK (Nat.le_of_eq (e.symm.trans h));rw[show j=i by omega]
theorem mB{n:Nat}(h: ∀i:Nat,i≤5→n≠2^i)(hn:n≤4611686018427387904):Pure Tryz.prog 76 [dI n] (.tu [dI 0,dB false]) :=
 nD n _ hn (fun i hi e=>absurd e (h i hi)) (fun _=>rfl)
theorem ja(m:Nat)(a:List RD){k:Nat}(hm5:m≤5)(hw:yJ m a→wN k a)(hk:k≤17300000000000)(hl:a.length≤4398046511104):Pure Tryz.prog 37 [dI m,cY a] (dI (bB m a)):=by
 refine qJ 37 Tryz.func37 rfl rfl rfl rfl (by kernel_rfl) (fun B0 F0 w0=>?_);have hno:=fun i hi=>wF (l:=a) (i:=i) hi;have hyes:=tW (l:=a);unfold bB;generalize iT a=E at hno hyes ⊢
 obtain ⟨x,ok,cp,hok⟩: ∃(x:Nat) (ok:Bool),Pure Tryz.prog 76 [dI a.length] (.tu [dI x,dB ok])∧((ok=false∨m<x)↔yh m a.length=false):=by
  by_cases hp: ∃i,i≤5∧a.length=2^i
  · obtain ⟨i,hi,hp⟩:=hp;refine⟨i,true,eH hp hi,?_⟩;rw[hp,vi];constructor
    · rintro (h | h)
      · cases h
      · exact decide_eq_false (by omega)
    · intro h;right;have:=of_decide_eq_false h;omega
  · refine⟨0,false,mB (fun i hi e=>hp ⟨i,hi,e⟩) (by omega),?_⟩;constructor
    · intro _;cases hv:yh m a.length
      · rfl
      · obtain ⟨i,h1,h2⟩:=Bv hv;exact absurd ⟨i,by omega,h2⟩ hp
    · intro _;exact .inl rfl
 refine qX 1 rfl ?_;refine qK 2 rfl ?_;rw[List.length_map];refine ab.call tok rfl rfl rfl rfl cp ?_;refine qU 5 rfl ?_;refine ab.nil ?_;refine AW.cut [1] (fun _:Unit=>[(1,.d (cY a))]) (fun _=> ¬(a.length≠0∧yh m a.length=false)) ?_ (fun _ hs=>?_)
 · refine qX 2 rfl ?_;rw[List.length_map];refine qU 1 rfl ?_;by_cases h0:a.length=0
   · rw[bne_eq_false_iff_eq.2 (show (a.length:Int)=0 by omega)];refine qU 9 rfl ?_;refine ab.nil ?_;refine AW.ay rfl ?_;refine AW.skip ?_;exact⟨(),rfl,fun h=>h.1 h0⟩
   rw[bne_iff_ne.2 (show (a.length:Int)≠0 by omega)];cases ok with
   | false =>
     have hb:=hok.1 (.inl rfl);rw[if_pos ⟨h0,hb⟩];refine qU 9 rfl ?_;refine ab.nil ?_;refine AW.aF rfl ?_;refine qX 1 rfl ?_;exact qN rfl
   | true =>
   refine qU 7 rfl ?_;by_cases hx:(m:Int)<(x:Int)
   · rw[decide_eq_true hx,if_pos ⟨h0,hok.1 (.inr (by omega))⟩];refine qU 2 rfl ?_;refine ab.nil ?_;refine AW.aF rfl ?_;refine qX 1 rfl ?_;exact qN rfl
   · rw[decide_eq_false hx];refine qU 2 rfl ?_;refine ab.nil ?_;refine AW.ay rfl ?_;refine AW.skip ?_
     exact⟨(),rfl,fun h=>by
      rcases hok.2 h.2 with e | e
      · cases e
      · omega⟩
 rw[if_neg hs];have hw:=hw hs;show AW _ _ _ _ _ _ _ [(1,.d (cY a))];refine AW.seq ?_;refine qX 2 rfl ?_;rw[List.length_map];refine qU 1 rfl ?_;refine ab.nil ?_;refine AW.block ?_;refine AW.aE [27,28,29] (fun i:Nat=>[(27,.d (cY a)),(28,.d (dI a.length)),(29,.d (dI i))]) (fun i=>i≤a.length∧ ∀j,j<i→(a.getD j default).okB=true) (fun i=>a.length-i) 0 rfl ⟨Nat.zero_le _,fun j hj=>by omega⟩ (fun i ⟨hi,hall⟩=>?_);refine qX 1 rfl ?_;refine qI ?_;refine AW.cond rfl (fun h=>?_) (fun h=>?_);rotate_left
 · have hii:i=a.length:=by have:=of_decide_eq_false h;omega
   subst hii;rw[hyes hall,if_neg (by simp)];refine AW.exit ?_;refine qX 1 rfl ?_;exact qN rfl
 have hii:i<a.length:=by have:=of_decide_eq_true h;omega
 have hg:=getM RD.D (l:=a) (i:=i) hii;have hno:=hno i hii;have cv:=nH (a.getD i default) (hw i hii) (by omega);refine AW.skip (AW.seq (AW.block (AW.seq (AW.region ?_))));refine ab.idx tok (a.getD i default).D rfl rfl rfl rfl (Int.natCast_nonneg i) hg ?_;refine qU 3 rfl ?_;refine qK 1 rfl ?_;refine ab.call tok rfl rfl rfl rfl cv ?_;refine qU 1 rfl ?_;cases hv:(a.getD i default).okB with
 | false =>
   rw[hno hv,if_pos rfl];refine ab.nil ?_;refine AW.aF rfl ?_;refine qX 1 rfl ?_;exact qN rfl
 | true =>
 refine ab.nil ?_;refine AW.ay rfl ?_;refine AW.skip ?_;refine qT 1 rfl ?_;rw[aD (x:=(i:Int)+1) (by omega) (by omega)];refine qU 1 rfl ?_;refine ab.nil ?_
 exact⟨i+1,rfl,⟨hii,fun j hj=>by
  by_cases e:j=i
  · subst e;exact hv
  · exact hall j (by omega)⟩,by omega⟩
theorem nE(a:NQ)(hl:a.length≤1000000):Pure Tryz.prog 151 [af a] (dB (a9 a)):=by
 refine qJ 26 Tryz.func151 rfl rfl rfl rfl (by kernel_rfl) (fun B F0 w0=>?_);have hno:=fun i hi=>qF (a:=a) (i:=i) hi;have hyes:=ot (a:=a);generalize a9 a=E at hno hyes ⊢;refine qX 1 rfl ?_;refine qI ?_;refine qX 2 rfl ?_;rw[List.length_map];refine qU 1 rfl ?_;refine ab.nil ?_;refine AW.block ?_;refine AW.aE [5,6,7] (fun i:Nat=>[(5,.d (af a)),(6,.d (dI a.length)),(7,.d (dI i))]) (fun i=> ∀j,j<i→j<a.length→a.getD j 0=0) (fun i=>a.length-i) 0 rfl (fun j h=>by omega) (fun i hi=>?_)
 · show AW _ _ _ _ _ _ _ [(5,.d (af a)),(6,.d (dI a.length)),(7,.d (dI i))];refine qX 1 rfl ?_;refine qI ?_;refine AW.cond rfl (fun h=>?_) (fun h=>?_)
   · have hii:i<a.length:=by have:=of_decide_eq_true h;omega
     have g:=kq hii;have hn:=hno i hii;have s0:=Cv (a.getD i 0);generalize hq:a.getD i 0=q at g hn s0;generalize Qr q=y at g s0;obtain ⟨yg,yn,yd⟩:=y;simp only[] at s0;refine AW.skip (AW.seq (AW.block (AW.seq (AW.region ?_))));refine ab.idx tok (RD.mk yg yn yd).D rfl rfl rfl rfl (Int.natCast_nonneg i) g ?_;refine qU 3 rfl ?_;refine qK 3 rfl ?_;cases yg with
     | true =>
       refine qU 11 rfl ?_;refine ab.nil ?_;refine AW.aF rfl ?_;rw[hn (fun e=>by have:=s0.2 e;cases this.1)];refine qX 1 rfl ?_;exact qN rfl
     | false =>
     refine qU 3 rfl ?_;rw[aU];refine qU 1 rfl ?_;by_cases h1:yn.length=0;rotate_left
     · rw[bne_iff_ne.2 (show (yn.length:Int)≠0 by omega)];refine qU 7 rfl ?_;refine ab.nil ?_;refine AW.aF rfl ?_;rw[hn (fun e=>by have:=(s0.2 e).2.1;omega)];refine qX 1 rfl ?_;exact qN rfl
     rw[bne_eq_false_iff_eq.2 (show (yn.length:Int)=0 by omega)];refine qU 5 rfl ?_;rw[aU];refine qU 1 rfl ?_;by_cases h2:yd.length=0;rotate_left
     · rw[bne_iff_ne.2 (show (yd.length:Int)≠0 by omega)];refine qU 1 rfl ?_;refine ab.nil ?_;refine AW.aF rfl ?_;rw[hn (fun e=>by have:=(s0.2 e).2.2;omega)];refine qX 1 rfl ?_;exact qN rfl
     rw[bne_eq_false_iff_eq.2 (show (yd.length:Int)=0 by omega)];refine qU 1 rfl ?_;refine ab.nil ?_;refine AW.ay rfl ?_;refine AW.skip ?_;refine qT 1 rfl ?_;rw[aD (x:=(i:Int)+1) (by omega) (by omega)];refine qU 1 rfl ?_;refine ab.nil ?_;refine⟨i+1,rfl,fun j h1 h2=>?_,by omega⟩;by_cases e:j=i
     · rw[e,hq];exact s0.1 ⟨rfl,by omega,by omega⟩
     · exact hi j (by omega) h2
   have hii: ¬i<a.length:=by have:=of_decide_eq_false h;omega
   rw[hyes (fun j h=>hi j (by omega) h)];refine AW.exit ?_;refine qX 1 rfl ?_;exact qN rfl
theorem pD(a:NQ){k:Nat}(hs:aq k a)(hk:k≤17300000000000)(hl:a.length≤1000000):Pure Tryz.prog 112 [af a] (af (aM a)):=by
 refine qJ 19 Tryz.func112 rfl rfl rfl rfl (by kernel_rfl) (fun B0 F0 w0=>?_);refine qX 1 rfl ?_;refine qK 1 rfl ?_;refine qI ?_;refine qX 2 rfl ?_;rw[List.length_map];refine qU 1 rfl ?_;refine ab.nil ?_;refine AW.block ?_;refine AW.aE [3,6,7,8] (fun i:Nat=>[(3,.ow 111 (dH (aM (a.take i)))),(6,.d (af a)),(7,.d (dI a.length)),(8,.d (dI i))]) (fun i=>i≤a.length) (fun i=>a.length-i) 0 rfl (Nat.zero_le _) (fun i hi=>?_);refine qX 1 rfl ?_;refine qI ?_;refine AW.cond rfl (fun h=>?_) (fun h=>?_);rotate_left
 · have hii:i=a.length:=by have:=of_decide_eq_false h;have:i≤a.length:=hi;omega
   subst hii;rw[List.take_length];refine AW.exit ?_;refine qX 2 rfl ?_;exact qN rfl
 have hii:i<a.length:=by have:=of_decide_eq_true h;omega
 have g:=kq hii;have cn:=xS (Qr (a.getD i 0)) (jD _ (hs i)) hk;rw[cT] at cn;have htk:=qS a 0 hii;have hol:(aM (a.take i)).length=i:=by rw[eT,List.length_take];omega
 have hms:aM (a.take (i+1))=aM (a.take i)++[-a.getD i 0]:=by
  rw[htk];unfold aM;rw[List.map_append];rfl
 generalize aM (a.take i)=M at hol hms ⊢;generalize a.getD i 0=q at g cn hms;refine AW.skip (AW.seq (AW.block (AW.seq (AW.region ?_))));refine ab.idx tok (Qr q).D rfl rfl rfl rfl (Int.natCast_nonneg i) g ?_;refine qU 3 rfl ?_;refine ab.nil ?_;refine qT 2 rfl ?_;refine ab.call tok rfl rfl rfl rfl cn ?_;refine ab.bs tok rfl rfl rfl rfl ?_;refine ab.kt tok rfl rfl rfl rfl rfl rfl (by rw[List.length_map,hol];show (_+1)*56≤_;omega) (by rw[List.length_map,hol];show _+1≤_;omega) ?_;refine qU 1 rfl ?_;refine ab.nil ?_;refine qT 1 rfl ?_;rw[aD (x:=(i:Int)+1) (by omega) (by omega)];refine qU 1 rfl ?_;refine ab.nil ?_;exact⟨i+1,by show _=([(3,.ow 111 (dH (aM (a.take (i+1))))),(6,.d (af a)),(7,.d (dI a.length)),(8,.d (dI (i+1:Nat)))]:St);rw[hms,dH,dH,List.map_append];rfl,hii,by omega⟩
end Lift
namespace Lift
open Go Go.Proofs
theorem jS(a:NQ){l:Nat}(ha:ak l a)(hl:l≤5):Pure Tryz.prog 121 [af a] (af (ar a)):=by
 refine qJ 43 Tryz.func121 rfl rfl rfl rfl (by kernel_rfl) (fun B0 F0 w0=>?_);have hl10:=ha.len (by omega);rcases ha with h0 | ⟨i,hi,hai⟩
 · obtain rfl:a=[]:=List.length_eq_zero_iff.1 h0;have cp:=mB (n:=0) (fun i _=>by have:=Nat.two_pow_pos i;omega) (by decide);refine qX 1 rfl ?_;refine qK 2 rfl ?_;refine ab.call tok rfl rfl rfl rfl cp ?_;refine qU 5 rfl ?_;refine qI ?_;refine qX 2 rfl ?_;refine ab.nil ?_;refine AW.aF rfl ?_;refine qX 2 rfl ?_;refine ab.lC tok rfl rfl rfl rfl (by decide) ?_;refine qU 1 rfl ?_;exact qN rfl
 have cp:=eH hai (by omega);have hp:=Nat.two_pow_pos i;have hE:ar a=fL i a:=by unfold ar;rw[if_neg (by omega),hai,Nat.log2_two_pow]
 rw[hE];refine qX 1 rfl ?_;refine qK 2 rfl ?_;rw[List.length_map];refine ab.call tok rfl rfl rfl rfl cp ?_;refine qU 5 rfl ?_;refine qI ?_;refine qX 2 rfl ?_;refine ab.nil ?_;refine AW.ay rfl ?_;refine AW.skip ?_;refine qX 2 rfl ?_;rw[List.length_map,hai];refine qU 1 rfl ?_;refine qI (AW.block ?_);refine AW.aE [0,5] (fun j:Nat=>[(0,.d (af a)),(5,.d (dI (2^j:Nat)))]) (fun j=>j≤i∧fL j a=fL i a) (fun j=>j) i rfl ⟨Nat.le_refl _,rfl⟩ (fun j hj=>?_);obtain ⟨hj,hjE⟩:=hj;show AW _ _ _ _ _ _ _ [(0,.d (af a)),(5,.d (dI (2^j:Nat)))];have hpj:2^j≤2^i:=Nat.pow_le_pow_right (by decide) hj;have hpp:=Nat.two_pow_pos j;refine AW.seq ?_;refine qX 2 rfl ?_;rcases j with _ | j
 · refine qU 8 rfl ?_;refine ab.nil ?_;refine AW.ay rfl ?_;refine AW.exit (AW.seq ?_);refine qX 4 rfl ?_;refine ab.ff tok (a:=a) (a.take 1) rfl rfl rfl rfl trivial (show (0:Int)≤1 by decide) (Nat.zero_le _) (show 1≤a.length by omega) rfl ?_;refine ab.call tok rfl rfl rfl rfl (nE (a.take 1) (by rw[List.length_take];omega)) ?_;refine qU 1 rfl ?_;refine ab.nil ?_;rw[← hjE];unfold fL;cases hz:a9 (a.take 1) with
   | true =>
     rw[if_pos rfl];refine AW.aF rfl ?_;refine qX 1 rfl ?_;exact qN rfl
   | false =>
     rw[if_neg (by simp)];refine AW.ay rfl ?_;refine AW.skip ?_;refine qX 3 rfl ?_;refine ab.ff tok (a:=a) (a.take 1) rfl rfl rfl rfl trivial (show (0:Int)≤1 by decide) (Nat.zero_le _) (show 1≤a.length by omega) rfl ?_;have hq:(a.take 1).length≤1024:=by rw[List.length_take];omega
     refine ab.lC tok rfl rfl rfl rfl (by rw[List.length_map];show _*56≤_;omega) ?_;refine qU 1 rfl ?_;exact qN rfl
 have e2:2^(j+1)=2^j*2:=Nat.pow_succ ..;have eh:=jq j;rw[decide_eq_true (show (1:Int)<((2^(j+1):Nat):Int) by have:=Nat.two_pow_pos j;omega)];refine qU 3 rfl ?_;refine ab.div tok rfl rfl rfl rfl (by decide) ?_;rw[fH _ (by omega),eh];refine qU 1 rfl ?_;refine ab.ff tok (a:=a) ((a.take (2^(j+1))).drop (2^j)) rfl rfl rfl rfl (Int.natCast_nonneg _) (Int.natCast_nonneg _) (show 2^j≤2^(j+1) by omega) (show 2^(j+1)≤a.length by omega) rfl ?_;refine ab.call tok rfl rfl rfl rfl (nE _ (by rw[List.length_drop,List.length_take];omega)) ?_;refine qU 1 rfl ?_;refine ab.nil ?_;cases hz:a9 ((a.take (2^(j+1))).drop (2^j)) with
 | true =>
   refine AW.aF rfl ?_;refine AW.skip (AW.block ?_);refine qT 1 rfl ?_;refine ab.div tok rfl rfl rfl rfl (by decide) ?_;rw[fH _ (by omega),eh];refine qU 1 rfl ?_;refine ab.nil ?_;exact⟨j,rfl,⟨by omega,by rw[← hjE];show _=if a9 ((a.take (2^(j+1))).drop (2^j))=true then _ else _;rw[if_pos hz]⟩,by omega⟩
 | false =>
 refine AW.ay rfl ?_;refine AW.exit (AW.seq ?_);refine qX 2 rfl ?_;rw[beq_eq_false_iff_ne.2 (show ((2^(j+1):Nat):Int)≠1 by have:=Nat.two_pow_pos j;omega)];refine qU 5 rfl ?_;refine ab.nil ?_;refine AW.ay rfl ?_;refine AW.skip ?_;refine qX 3 rfl ?_;refine ab.ff tok (a:=a) (a.take (2^(j+1))) rfl rfl rfl rfl trivial (Int.natCast_nonneg _) (Nat.zero_le _) (show 2^(j+1)≤a.length by omega) rfl ?_;have hq:(a.take (2^(j+1))).length≤1024:=by rw[List.length_take];omega
 refine ab.lC tok rfl rfl rfl rfl (by rw[List.length_map];show _*56≤_;omega) ?_;refine qU 1 rfl ?_;refine ab.nil ?_;rw[← hjE];unfold fL;rw[if_neg (by rw[hz];simp)];exact AW.ret rfl
theorem mH(a:NQ):aW a a.length=a:=by
 unfold aW;rw[List.take_length,Nat.sub_self];exact List.append_nil a
theorem qH{a:NQ}{i:Nat}(h:a.length≤i):aW a (i+1)=aW a i++[0]:=by
 unfold aW;rw[List.take_of_length_le h,List.take_of_length_le (by omega),Nat.succ_sub h,List.replicate_succ',List.append_assoc]
theorem iO(a:NQ)(n:Nat)(ha:a.length≤n)(hn:n≤1000000):lH Tryz.prog 142 [af a,dI n] [] (Bf (aW a n)):=by
 refine lH.intro (n:=18) tok Tryz.func142 rfl rfl rfl (Nat.le_of_ble_eq_true rfl) (by kernel_rfl) (fun B F0 w0=>?_);refine AZ.seq ?_;refine AZ.gH (fun B1 F1 w1=>?_);refine qU 1 rfl ?_;refine ab.nil ⟨rfl,?_⟩;refine AZ.seq ?_;refine AZ.gH (fun B1 F1 w1=>?_);refine qU 2 rfl ?_;refine ab.yH tok rfl rfl rfl rfl (by rw[List.length_map];show _*56≤_;omega) ?_;refine qU 1 rfl ?_;refine ab.nil ⟨rfl,?_⟩;refine AZ.seq ?_;refine AZ.block ?_;refine AZ.aE [1,5] (fun i:Nat=>(([]:List LR),([(1,.d (dI n)),(5,.ow 111 (dH (aW a i)))]:St))) (fun i=>a.length≤i∧i≤n) (fun i=>n-i) a.length (by rw[mH];rfl) ⟨Nat.le_refl _,ha⟩ (fun i hi=>?_)
 · obtain ⟨hi,hin⟩:=hi;show AZ _ _ _ _ _ _ _ [] [(1,.d (dI n)),(5,.ow 111 (dH (aW a i)))];have wl:=bb a i;refine AZ.seq ?_;refine AZ.seq ?_;refine AZ.gH (fun B1 F1 w1=>?_);refine qU 2 rfl ?_;rw[List.length_map,wl];refine qU 2 rfl ?_;refine ab.nil ⟨rfl,?_⟩;refine AZ.cond rfl (fun h=>?_) (fun h=>?_)
   · have hii:i<n:=by have:=of_decide_eq_true h;omega
     have hs:=qH hi;refine AZ.skip ?_;refine AZ.block ?_;refine AZ.gH (fun B1 F1 w1=>?_);refine qU 2 rfl ?_;refine ab.bs tok rfl rfl rfl rfl ?_;refine ab.kt tok rfl rfl rfl rfl rfl rfl (by rw[List.length_map,wl];show (_+1)*56≤_;omega) (by rw[List.length_map,wl];show _+1≤_;omega) ?_;refine qU 1 rfl ?_;refine ab.nil ⟨rfl,?_⟩;refine⟨i+1,?_,⟨by omega,hii⟩,by omega⟩;rw[hs];show _=(([]:List LR),([(1,.d (dI n)),(5,.ow 111 ((aW a i++[0]).map (fun q=>(Qr q).D)))]:St));rw[List.map_append,List.map_cons,iW];rfl
   have hii:i=n:=by have:=of_decide_eq_false h;omega
   subst hii;refine AZ.exit ?_;refine AZ.seq ?_;refine AZ.gH (fun B1 F1 w1=>?_);refine qU 2 rfl ?_;refine ab.nil ⟨rfl,?_⟩;refine AZ.jb 4 rfl rfl rfl (fun V=>AZ.ret ⟨.v V,rfl,V,rfl,rfl⟩)
theorem jR(a:NQ)(n:Nat)(ha:a.length≤n)(hn:n≤1000000):Pure Tryz.prog 142 [af a,dI n] (af (aW a n)):=by
 refine qJ 18 Tryz.func142 rfl rfl rfl rfl (by kernel_rfl) (fun B F0 w0=>?_);refine qX 1 rfl ?_;refine qK 2 rfl ?_;refine ab.yH tok rfl rfl rfl rfl (by rw[List.length_map];show _*56≤_;omega) ?_;refine qU 1 rfl ?_;refine qI (AW.block ?_);refine AW.aE [1,5] (fun i:Nat=>[(1,.d (dI n)),(5,.ow 111 (dH (aW a i)))]) (fun i=>a.length≤i∧i≤n) (fun i=>n-i) a.length (by rw[mH];rfl) ⟨Nat.le_refl _,ha⟩ (fun i hi=>?_)
 · obtain ⟨hi,hin⟩:=hi;show AW _ _ _ _ _ _ _ [(1,.d (dI n)),(5,.ow 111 (dH (aW a i)))];have wl:=bb a i;refine AW.seq ?_;refine qX 2 rfl ?_;rw[List.length_map,wl];refine qU 2 rfl ?_;refine ab.nil ?_;refine AW.cond rfl (fun h=>?_) (fun h=>?_)
   · have hii:i<n:=by have:=of_decide_eq_true h;omega
     have hs:=qH hi;refine AW.skip (AW.block ?_);refine qT 2 rfl ?_;refine ab.bs tok rfl rfl rfl rfl ?_;refine ab.kt tok rfl rfl rfl rfl rfl rfl (by rw[List.length_map,wl];show (_+1)*56≤_;omega) (by rw[List.length_map,wl];show _+1≤_;omega) ?_;refine qU 1 rfl ?_;refine ab.nil ?_;refine⟨i+1,?_,⟨by omega,hii⟩,by omega⟩;rw[hs];show _=([(1,.d (dI n)),(5,.ow 111 ((aW a i++[0]).map (fun q=>(Qr q).D)))]:St);rw[List.map_append,List.map_cons,iW];rfl
   have hii:i=n:=by have:=of_decide_eq_false h;omega
   subst hii;refine AW.exit ?_;refine qX 2 rfl ?_;exact qN rfl
theorem iP(a b:NQ){k:Nat}(ha:aq k a)(hb:aq k b)(hk:k≤17300000000000)(hl:a.length≤1000000)(hl2:b.length≤1000000):Pure Tryz.prog 111 [af a,af b] (af (aK a b)):=by
 refine qJ 37 Tryz.func111 rfl rfl rfl rfl (by kernel_rfl) (fun B F0 w0=>?_);obtain ⟨n,hn⟩: ∃n,n=max a.length b.length:=⟨_,rfl⟩;have cw1:=iO a n (by omega) (by omega);have cw2:=iO b n (by omega) (by omega);have l1:=bb a n;have l2:=bb b n;have g1: ∀i,i<n→(aW a n).getD i 0=a.getD i 0:=fun i hi=>by rw[eW,if_pos hi]
 have g2: ∀i,i<n→(aW b n).getD i 0=b.getD i 0:=fun i hi=>by rw[eW,if_pos hi]
 have hpl:(aK a b).length=n:=by rw[gX,hn]
 generalize aW a n=wa at cw1 l1 g1;generalize aW b n=wb at cw2 l2 g2;refine qX 1 rfl ?_;refine qK 4 rfl ?_;rw[List.length_map,List.length_map];refine qU 2 rfl ?_;rw[EL,← hn];refine qI ?_;refine AZ.aw ?_;refine AZ.region ?_;refine ai.cut 2 rfl (fun B1 F1 w1=>?_);refine qU 2 rfl ?_;refine ab.nil ⟨rfl,?_⟩;refine ai.lv tok [] rfl rfl rfl rfl rfl List.nodup_nil rfl cw1 (fun _ _ _=>Nat.zero_le _) (fun res R1 hP=>?_);obtain ⟨V1,rfl,rfl⟩:=hP;refine ai.cut 2 rfl (fun B1 F1 w1=>?_);refine qU 2 rfl ?_;refine ab.nil ⟨rfl,?_⟩;refine ai.lv tok [] rfl rfl rfl rfl rfl List.nodup_nil rfl cw2 (fun _ _ _=>Nat.zero_le _) (fun res R1 hP=>?_);obtain ⟨V2,rfl,rfl⟩:=hP;refine ai.cut 2 rfl (fun B1 F1 w1=>?_);refine qU 2 rfl ?_;refine ab.nil ⟨rfl,?_⟩;refine ai.to [0,1] [(0,.d (.v V1)),(1,.d (.v V2))] rfl ?_;refine ai.fB 0 0 (V:=V1) (av:= .ow 111 (dH wa)) rfl rfl rfl ?_;refine ai.to [0,1] [(0,.ow 111 (dH wa)),(1,.d (.v V2))] rfl ?_;refine ai.fB 1 1 (V:=V2) (av:= .ow 111 (dH wb)) rfl rfl rfl ?_;refine ai.to [0,1] [(0,.ow 111 (dH wa)),(1,.ow 111 (dH wb))] rfl ?_;refine ai.nil ?_;refine AW.gk tok 1 rfl rfl ?_;refine AW.seq ?_;refine qX 2 rfl ?_;rw[List.length_map,l1];refine qU 1 rfl ?_;refine ab.nil ?_;refine AW.block ?_;refine AW.aE [0,1,19,20] (fun s:Nat×NQ=>[(0,.ow 111 (dH s.2)),(1,.d (af wb)),(19,.d (dI n)),(20,.d (dI s.1))]) (fun s=>s.2.length=n∧ ∀j,j<n→s.2.getD j 0=if j<s.1 then a.getD j 0+b.getD j 0 else a.getD j 0) (fun s=>n-s.1) (0,wa) rfl ⟨l1,fun j h=>by rw[if_neg (Nat.not_lt_zero _)];exact g1 j h⟩ (fun s hi=>?_)
 · obtain ⟨i,r⟩:=s;obtain ⟨hrl,hi⟩:=hi;simp only[] at hrl hi;show AW _ _ _ _ _ _ _ [(0,.ow 111 (dH r)),(1,.d (af wb)),(19,.d (dI n)),(20,.d (dI i))];refine qX 1 rfl ?_;refine qI ?_;refine AW.cond rfl (fun h=>?_) (fun h=>?_)
   · have hii:i<n:=by have:=of_decide_eq_true h;omega
     have e1:=kq (r:=r) (i:=i) (by omega);have e2:=kq (r:=wb) (i:=i) (by omega);rw[hi i hii,if_neg (Nat.lt_irrefl _)] at e1;rw[g2 i hii] at e2;have ca:=xU (Qr (a.getD i 0)) (Qr (b.getD i 0)) (jD _ (ha i)) (jD _ (hb i)) hk;rw[cT,cT] at ca;refine AW.skip (AW.seq (AW.block ?_));refine qX 2 rfl ?_;refine ab.nil ?_;refine AW.draw aP 12 (by kernel_rfl) ?_;refine qP 4 rfl ?_;refine ae.fh tok rfl rfl rfl rfl rfl rfl (Int.natCast_nonneg i) (by rw[List.length_map];show i<_;omega) ?_;refine ae.b6 tok (Qr (a.getD i 0)).D rfl rfl rfl rfl rfl e1 rfl ?_;refine qP 2 rfl ?_;refine ae.idx tok (Qr (b.getD i 0)).D rfl rfl rfl rfl rfl (Int.natCast_nonneg i) e2 ?_;refine qP 1 rfl ?_;refine ae.call tok rfl rfl rfl rfl rfl ca ?_;refine ae.fh tok rfl rfl rfl rfl rfl rfl (Int.natCast_nonneg i) (by rw[List.length_map];show i<_;omega) ?_;refine ae.nil ?_;refine ab.xG tok (a.getD i 0+b.getD i 0) rfl rfl rfl (by show i<_;omega) ?_;refine ab.nil ?_;refine qT 1 rfl ?_;rw[aD (x:=(i:Int)+1) (by omega) (by omega)];refine qU 1 rfl ?_;refine ab.nil ?_;refine⟨(i+1,r.set i (a.getD i 0+b.getD i 0)),rfl,⟨by rw[List.length_set];exact hrl,fun j h1=>?_⟩,by show n-(i+1)<n-i;omega⟩;show (r.set i (a.getD i 0+b.getD i 0)).getD j 0=if j<i+1 then _ else _
     rw[yu];by_cases e:j=i
     · rw[if_pos ⟨e,by omega⟩,e,if_pos (by omega)]
     · rw[if_neg (fun h=>e h.1),hi j h1];by_cases h2:j<i
       · rw[if_pos h2,if_pos (by omega)]
       · rw[if_neg h2,if_neg (by omega)]
   have hii: ¬i<n:=by have:=of_decide_eq_false h;omega
   obtain rfl:r=aK a b:=yb (by rw[hrl,hpl]) (fun j hj=>by rw[lT,hi j (by omega),if_pos (by omega)]);refine AW.exit ?_;refine qX 2 rfl ?_;exact qN rfl
end Lift
namespace Lift
open Go Go.Proofs
theorem tQ{R:NQ→NQ→NQ}{rt:List NQ}{a b:NQ}:(iM R rt a b).length≤max a.length b.length:=by
 unfold iM;split
 · exact Nat.zero_le _
 split
 · rename_i h;rw[h];exact Nat.le_refl _
 · rw[dF];omega
theorem we{l k:Nat}{R:NQ→NQ→NQ}{rt:List NQ}{a b:NQ}(ha:ak l a)(hb:ak l b)(hrt:cu rt)(hl:l≤rt.length)(sa:aq k a)(sb:aq k b)(sr:ed k rt)
  (hR: ∀l',l=l'+1→ ∀a' b' m,k≤m→ak l' a'→ak l' b'→aq m a'→aq m b'→ak l' (R a' b')∧aq (sT l' m) (R a' b')):ak l (iM R rt a b)∧aq (sT l k) (iM R rt a b):=by
 have hk:=sa.pos;have h2:=bz l k;unfold iM;by_cases h0:a.length=0∨b.length=0
 · rw[if_pos h0];exact⟨bn _,bc (by omega)⟩
 rw[if_neg h0];by_cases h1:max a.length b.length=1
 · rw[if_pos h1];refine⟨gR _ _,hZ ?_⟩;have:=yM (a.getD 0 0) (b.getD 0 0);have:=sa 0;have:=sb 0;omega
 rw[if_neg h1]
 obtain ⟨i,hi,hn⟩: ∃i,i≤l∧max a.length b.length=2^i:=by
  rcases ha with e | ⟨i,hi,e⟩
  · exact absurd (.inl e) h0
  rcases hb with e2 | ⟨k,hk,e2⟩
  · exact absurd (.inr e2) h0
  by_cases h:a.length≤b.length
  · exact⟨k,hk,by rw[Nat.max_eq_right h,e2]⟩
  · exact⟨i,hi,by rw[Nat.max_eq_left (by omega),e]⟩
 have wU:i≠0:=fun e=>h1 (by rw[hn,e]);obtain ⟨j,rfl⟩: ∃j,i=j+1:=⟨i-1,by omega⟩;obtain ⟨l',rfl⟩: ∃l',l=l'+1:=⟨l-1,by omega⟩;have hj:j≤l':=by omega
 have hR:=fun a' b' m h1 h2 h3 h4 h5=>hR l' rfl a' b' m h1 h2 h3 h4 h5;have wa:=bb a (max a.length b.length);have wb:=bb b (max a.length b.length);have sa:=sa.wide (max a.length b.length);have sb:=sb.wide (max a.length b.length);generalize aW a (max a.length b.length)=A at *;generalize aW b (max a.length b.length)=B at *;generalize max a.length b.length=n at *;subst hn;have e0:=jq j;have hlog:(2^(j+1)).log2-1=j:=by rw[Nat.log2_two_pow];omega
 rw[e0,hlog];obtain ⟨e1,e2,e3⟩:=bg wa;obtain ⟨f1,f2,f3⟩:=bg wb;rw[e3] at e1 e2;rw[f3] at f1 f2;have hx:ak l' (A.take (2^j)):= .inr ⟨j,hj,e1⟩;have hy:ak l' (A.drop (2^j)):= .inr ⟨j,hj,e2⟩;have hu:ak l' (B.take (2^j)):= .inr ⟨j,hj,f1⟩;have hv:ak l' (B.drop (2^j)):= .inr ⟨j,hj,f2⟩;have hd:ak l' (rt.getD j []):= .inr ⟨j,hj,hrt j (by omega)⟩;have hs0:=bz l' k;have hs1:=bz l' (sT l' k);have r1:=hR _ _ k (Nat.le_refl _) hx hu (sa.take _) (sb.take _);have r2:=hR _ _ k (Nat.le_refl _) hy hv (sa.drop _) (sb.drop _);have r3:=hR _ _ k (Nat.le_refl _) hx hv (sa.take _) (sb.drop _);have r4:=hR _ _ k (Nat.le_refl _) hy hu (sa.drop _) (sb.take _);have r5:=hR _ _ (sT l' k) (by omega) r2.1 hd r2.2 ((sr _).mono (by omega));refine⟨.inr ⟨j+1,by omega,by rw[dF,Nat.pow_succ];omega⟩,(((r1.2.plus r5.2).mono ?_).join ((r3.2.plus r4.2).mono ?_) _)⟩
 · show _≤sT l' (sT l' k)+sT l' k+1;omega
 · show _≤sT l' (sT l' k)+sT l' k+1;omega
theorem jO(a:NQ){l:Nat}(ha:ak l a):(ar a).length≤a.length:=by
 unfold ar;split
 · exact Nat.zero_le _
 have: ∀i,(fL i a).length≤a.length:=fun i=>by
  induction i with
  | zero =>
    unfold fL;split
    · exact Nat.zero_le _
    · rw[List.length_take];omega
  | succ i ih =>
    unfold fL;split
    · exact ih
    · rw[List.length_take];omega
 exact this _
theorem eZ: ∀(l:Nat) {k:Nat} {rt:List NQ} {a b:NQ},ak l a→ak l b→cu rt→l≤rt.length→aq k a→aq k b→ed k rt→ak l (eJ l rt a b)∧aq (sT l k) (eJ l rt a b)
 | 0,k,rt,a,b,ha,hb,hrt,hl,sa,sb,sr=>we (aT ha sa).1 (aT hb sb).1 hrt hl (aT ha sa).2 (aT hb sb).2 sr (fun l' h=>by omega)
 | l+1,k,rt,a,b,ha,hb,hrt,hl,sa,sb,sr=>we (aT ha sa).1 (aT hb sb).1 hrt hl (aT ha sa).2 (aT hb sb).2 sr (fun l' e a' b' m hm h1 h2 h3 h4=>by
    obtain rfl:l=l':=by omega
    exact eZ l h1 h2 hrt (by omega) h3 h4 (sr.mono hm))
theorem xO: ∀(l:Nat) {rt:List NQ} {a b:NQ},ak l a→ak l b→(eJ l rt a b).length≤max a.length b.length
 | 0,rt,a,b,ha,hb=>by
   have h1:=jO a ha;have h2:=jO b hb;have h3:=tQ (R:=fun _ _=>[]) (rt:=rt) (a:=ar a) (b:=ar b);show (iM _ rt _ _).length≤_;omega
 | l+1,rt,a,b,ha,hb=>by
   have h1:=jO a ha;have h2:=jO b hb;have h3:=tQ (R:=eJ l rt) (rt:=rt) (a:=ar a) (b:=ar b);show (iM _ rt _ _).length≤_;omega
set_option maxHeartbeats 1600000 in
theorem pz{l k:Nat}{R:NQ→NQ→NQ}{rt:List NQ}{xs:List D}{a b:NQ}(ha:ak l a)(hb:ak l b)(hrt:cu rt)(hl:l≤rt.length)(hl5:l≤5)(hxs: ∀j,j<rt.length→xs[j]?=some (af (rt.getD j [])))(sa:aq k a)(sb:aq k b)(sr:ed k rt)(hk:sT l k≤17300000000000)
  (hR: ∀l',l=l'+1→ ∀a' b' m,k≤m→ak l' a'→ak l' b'→aq m a'→aq m b'→sT l' m≤17300000000000→Pure Tryz.prog 122 [.ag [.sl 1 xs],af a',af b'] (af (R a' b'))∧(R a' b').length≤max a'.length b'.length∧ak l' (R a' b')∧aq (sT l' m) (R a' b')):
  Pure Tryz.prog 122 [.ag [.sl 1 xs],af a,af b] (af (iM R rt (ar a) (ar b))):=by
 refine qJ 105 Tryz.func122 rfl rfl rfl rfl (by kernel_rfl) (fun B F0 w0=>?_);have hk1:=sa.pos;have h2:=bz l k;have cs1:=jS a ha hl5;have cs2:=jS b hb hl5;obtain ⟨ha,sa⟩:=aT ha sa;obtain ⟨hb,sb⟩:=aT hb sb;generalize ar a=s at *;generalize ar b=t at *;have hla:=ha.len (by omega);have hlb:=hb.len (by omega);refine qX 2 rfl ?_;refine qK 1 rfl ?_;refine ab.call tok rfl rfl rfl rfl cs1 ?_;refine qU 1 rfl ?_;refine ab.call tok rfl rfl rfl rfl cs2 ?_;refine qU 2 rfl ?_;refine qK 4 rfl ?_;rw[List.length_map,List.length_map];refine qU 2 rfl ?_;rw[EL];refine qI ?_;refine qX 2 rfl ?_;rw[List.length_map];refine qU 1 rfl ?_;unfold iM;by_cases h0:s.length=0
 · have h00:s.length=0∨t.length=0:= .inl h0;rw[beq_iff_eq.2 (show (s.length:Int)=0 by omega),if_pos h00];refine qU 5 rfl ?_;refine ab.nil ?_;refine AW.aF rfl ?_;refine qX 1 rfl ?_;exact qN rfl
 rw[beq_eq_false_iff_ne.2 (show (s.length:Int)≠0 by omega)];refine qU 3 rfl ?_;rw[List.length_map];refine qU 1 rfl ?_;by_cases h01:t.length=0
 · have h00:s.length=0∨t.length=0:= .inr h01;rw[beq_iff_eq.2 (show (t.length:Int)=0 by omega),if_pos h00];refine qU 1 rfl ?_;refine ab.nil ?_;refine AW.aF rfl ?_;refine qX 1 rfl ?_;exact qN rfl
 have h00: ¬(s.length=0∨t.length=0):=fun h=>h.elim h0 h01;rw[beq_eq_false_iff_ne.2 (show (t.length:Int)≠0 by omega),if_neg h00];refine qU 1 rfl ?_;refine ab.nil ?_;refine AW.ay rfl ?_;refine AW.skip (AW.seq (AW.seq (AW.region ?_)));obtain ⟨n,hn⟩: ∃n,n=max s.length t.length:=⟨_,rfl⟩;rw[← hn];refine qU 2 rfl ?_;by_cases h1:n=1
 · rw[if_pos h1,beq_iff_eq.2 (show (n:Int)=1 by omega)];have g1:=kq (r:=s) (i:=0) (by omega);have g2:=kq (r:=t) (i:=0) (by omega);have cm:=xT (Qr (s.getD 0 0)) (Qr (t.getD 0 0)) (k:=k) (jD _ (sa 0)) (jD _ (sb 0)) (by omega);rw[cT,cT] at cm;refine ab.nil ?_;refine AW.aF rfl ?_;refine AW.seq ?_;refine AW.draw aP 8 (by kernel_rfl) ?_;refine qP 1 rfl ?_;refine ae.idx tok (Qr (s.getD 0 0)).D rfl rfl rfl rfl rfl (Int.le_refl _) g1 ?_;refine qP 2 rfl ?_;refine ae.idx tok (Qr (t.getD 0 0)).D rfl rfl rfl rfl rfl (Int.le_refl _) g2 ?_;refine qP 1 rfl ?_;refine ae.call tok rfl rfl rfl rfl rfl cm ?_;refine ae.fI tok rfl rfl rfl rfl rfl rfl ?_;refine ae.nil ?_;refine qU 1 rfl ?_;exact qN rfl
 rw[if_neg h1,beq_eq_false_iff_ne.2 (show (n:Int)≠1 by omega)];refine ab.nil ?_;refine AW.ay rfl ?_;refine AW.skip ?_
 obtain ⟨i,hi,hni⟩: ∃i,i≤l∧n=2^i:=by
  rcases ha with e | ⟨i,hi,e⟩
  · exact absurd e h0
  rcases hb with e2 | ⟨k,hk,e2⟩
  · exact absurd e2 h01
  by_cases h:s.length≤t.length
  · exact⟨k,hk,by rw[hn,Nat.max_eq_right h,e2]⟩
  · exact⟨i,hi,by rw[hn,Nat.max_eq_left (by omega),e]⟩
 have hsn:s.length≤n:=by omega
 have htn:t.length≤n:=by omega
 have hn9:n≤1024:=by omega
 clear hn;have wU:i≠0:=fun e=>h1 (by rw[hni,e]);obtain ⟨j,rfl⟩: ∃j,i=j+1:=⟨i-1,by omega⟩;obtain ⟨l',rfl⟩: ∃l',l=l'+1:=⟨l-1,by omega⟩;have hj:j≤l':=by omega
 have hR:=fun a' b' m h1 h2 h3 h4 h5=>hR l' rfl a' b' m h1 h2 h3 h4 h5;have hs0:=bz l' k;have hs1:=bz l' (sT l' k);have hk:sT l' (sT l' k)+sT l' k+1≤17300000000000:=hk;have cw1:=jR s n hsn (by omega);have cw2:=jR t n htn (by omega);have cp:=eH hni (by omega);have wa:=bb s n;have wb:=bb t n;have sa:=sa.wide n;have sb:=sb.wide n;generalize aW s n=A at *;generalize aW t n=B at *;have e0:=jq j;have hlog:n.log2-1=j:=by rw[hni,Nat.log2_two_pow];omega
 obtain ⟨e1,e2,e3⟩:=bg (wa.trans hni);obtain ⟨f1,f2,f3⟩:=bg (wb.trans hni);rw[hlog];obtain ⟨h,hh⟩: ∃h,h=n / 2:=⟨_,rfl⟩
 have hnh:n=h+h:=by
  have:2^(j+1)=2^j*2:=Nat.pow_succ ..;omega
 have hh2:h=2^j:=by rw[hh,hni,e0]
 rw[wa,← hh] at e1 e2;rw[wb,← hh] at f1 f2;rw[← hh];have hx:ak l' (A.take h):= .inr ⟨j,hj,e1⟩;have hy:ak l' (A.drop h):= .inr ⟨j,hj,e2⟩;have hu:ak l' (B.take h):= .inr ⟨j,hj,f1⟩;have hv:ak l' (B.drop h):= .inr ⟨j,hj,f2⟩;have hdl:=hrt j (by omega);have hd:ak l' (rt.getD j []):= .inr ⟨j,hj,hdl⟩;have r1:=hR _ _ k (Nat.le_refl _) hx hu (sa.take _) (sb.take _) (by omega);have r2:=hR _ _ k (Nat.le_refl _) hy hv (sa.drop _) (sb.drop _) (by omega);have r3:=hR _ _ k (Nat.le_refl _) hx hv (sa.take _) (sb.drop _) (by omega);have r4:=hR _ _ k (Nat.le_refl _) hy hu (sa.drop _) (sb.take _) (by omega);have r5:=hR _ _ (sT l' k) (by omega) r2.2.2.1 hd r2.2.2.2 ((sr _).mono (by omega)) (by omega);have n1:(R (A.take h) (B.take h)).length≤h:=Nat.le_trans r1.2.1 (Nat.max_le.2 ⟨by omega,by omega⟩);have n2:(R (A.drop h) (B.drop h)).length≤h:=Nat.le_trans r2.2.1 (Nat.max_le.2 ⟨by omega,by omega⟩);have n3:(R (A.take h) (B.drop h)).length≤h:=Nat.le_trans r3.2.1 (Nat.max_le.2 ⟨by omega,by omega⟩);have n4:(R (A.drop h) (B.take h)).length≤h:=Nat.le_trans r4.2.1 (Nat.max_le.2 ⟨by omega,by omega⟩);have n5:(R (R (A.drop h) (B.drop h)) (rt.getD j [])).length≤h:=Nat.le_trans r5.2.1 (Nat.max_le.2 ⟨n2,by omega⟩);have r1:=And.intro r1.1 r1.2.2;have r2:=And.intro r2.1 r2.2.2;have r3:=And.intro r3.1 r3.2.2;have r4:=And.intro r4.1 r4.2.2;have r5:=And.intro r5.1 r5.2.2;have p1:=iP (R (A.take h) (B.take h)) (R (R (A.drop h) (B.drop h)) (rt.getD j [])) (k:=sT l' (sT l' k)) (r1.2.2.mono (by omega)) r5.2.2 (by omega) (by omega) (by omega);have p2:=iP (R (A.take h) (B.drop h)) (R (A.drop h) (B.take h)) (k:=sT l' k) r3.2.2 r4.2.2 (by omega) (by omega) (by omega);have q1:(aK (R (A.take h) (B.take h)) (R (R (A.drop h) (B.drop h)) (rt.getD j []))).length≤h:=by rw[gX];exact Nat.max_le.2 ⟨n1,n5⟩
 have q2:(aK (R (A.take h) (B.drop h)) (R (A.drop h) (B.take h))).length≤h:=by rw[gX];exact Nat.max_le.2 ⟨n3,n4⟩
 have cw3:=iO (aK (R (A.take h) (B.take h)) (R (R (A.drop h) (B.drop h)) (rt.getD j []))) h q1 (by omega);have cw4:=iO (aK (R (A.take h) (B.drop h)) (R (A.drop h) (B.take h))) h q2 (by omega);unfold dh;refine qX 2 rfl ?_;refine ab.call tok rfl rfl rfl rfl cw1 ?_;refine qU 2 rfl ?_;refine ab.call tok rfl rfl rfl rfl cw2 ?_;refine qU 2 rfl ?_;refine qK 1 rfl ?_;refine ab.call tok rfl rfl rfl rfl cp ?_;refine qU 5 rfl ?_;refine qI ?_;refine AW.draw aP 19 (by kernel_rfl) ?_;refine qP 2 rfl ?_;refine ae.div tok rfl rfl rfl rfl rfl (by decide) ?_;rw[fH _ (by omega),← hh];refine ae.ff tok (a:=A) (A.take h) rfl rfl rfl rfl rfl trivial (Int.natCast_nonneg h) (Nat.zero_le _) (show h≤A.length by omega) rfl ?_;refine qP 2 rfl ?_;refine ae.div tok rfl rfl rfl rfl rfl (by decide) ?_;rw[fH _ (by omega),← hh];refine ae.ff tok (a:=A) (A.drop h) rfl rfl rfl rfl rfl (Int.natCast_nonneg h) trivial (show h≤A.length by omega) (Nat.le_refl _) (by show (A.take A.length).drop h=_;rw[List.take_length]) ?_;refine qP 2 rfl ?_;refine ae.div tok rfl rfl rfl rfl rfl (by decide) ?_;rw[fH _ (by omega),← hh];refine ae.ff tok (a:=B) (B.take h) rfl rfl rfl rfl rfl trivial (Int.natCast_nonneg h) (Nat.zero_le _) (show h≤B.length by omega) rfl ?_;refine qP 2 rfl ?_;refine ae.div tok rfl rfl rfl rfl rfl (by decide) ?_;rw[fH _ (by omega),← hh];refine ae.ff tok (a:=B) (B.drop h) rfl rfl rfl rfl rfl (Int.natCast_nonneg h) trivial (show h≤B.length by omega) (Nat.le_refl _) (by show (B.take B.length).drop h=_;rw[List.take_length]) ?_;refine qP 3 rfl ?_;refine ae.nil ?_;refine qU 1 rfl ?_;refine ab.nil ?_;refine AW.cV [3,7,8,10,11,12,13] ?_;show AW _ _ _ _ _ _ _ [(3,.bx [.sl 1 xs]),(7,.d (dI n)),(8,.d (dI (j+1:Nat))),(10,.d (af (A.take h))),(11,.d (af (A.drop h))),(12,.d (af (B.take h))),(13,.d (af (B.drop h)))];refine AW.seq ?_;refine AW.draw aP 17 (by kernel_rfl) ?_;refine qP 3 rfl ?_;refine ae.call tok rfl rfl rfl rfl rfl r1.1 ?_;refine qP 4 rfl ?_;refine ae.call tok rfl rfl rfl rfl rfl r2.1 ?_;refine qP 4 rfl ?_;rw[aD (x:=((j+1:Nat):Int) -1) (by omega) (by omega),show ((j+1:Nat):Int) -1=(j:Int) by omega];refine ae.idx tok (af (rt.getD j [])) rfl rfl rfl rfl rfl (Int.natCast_nonneg j) (hxs j (by omega)) ?_;refine qP 1 rfl ?_;refine ae.call tok rfl rfl rfl rfl rfl r5.1 ?_;refine ae.call tok rfl rfl rfl rfl rfl p1 ?_;refine ae.nil ?_;refine qU 1 rfl ?_;refine qI ?_;refine AW.draw aP 9 (by kernel_rfl) ?_;refine qP 3 rfl ?_;refine ae.call tok rfl rfl rfl rfl rfl r3.1 ?_;refine qP 3 rfl ?_;refine ae.call tok rfl rfl rfl rfl rfl r4.1 ?_;refine ae.call tok rfl rfl rfl rfl rfl p2 ?_;refine ae.nil ?_;refine qU 1 rfl ?_;refine ab.nil ?_;have l1:=bb (aK (R (A.take h) (B.take h)) (R (R (A.drop h) (B.drop h)) (rt.getD j []))) h;have l2:=bb (aK (R (A.take h) (B.drop h)) (R (A.drop h) (B.take h))) h;generalize aK (R (A.take h) (B.take h)) (R (R (A.drop h) (B.drop h)) (rt.getD j []))=P1 at *;generalize aK (R (A.take h) (B.drop h)) (R (A.drop h) (B.take h))=P2 at *;refine AW.cV [7,14,15] ?_;show AW _ _ _ _ _ _ _ [(7,.d (dI n)),(14,.d (af P1)),(15,.d (af P2))];generalize aW P1 h=wa at *;generalize aW P2 h=wb at *;refine AW.seq ?_;refine AZ.aw ?_;refine AZ.region ?_;refine ai.cut 3 rfl (fun B1 F1 w1=>?_);refine qU 2 rfl ?_;refine ab.div tok rfl rfl rfl rfl (by decide) ?_;rw[fH _ (by omega),← hh];refine ab.nil ⟨rfl,?_⟩;refine ai.lv tok [] rfl rfl rfl rfl rfl List.nodup_nil rfl cw3 (fun _ _ _=>Nat.zero_le _) (fun res R1 hP=>?_);obtain ⟨V1,rfl,rfl⟩:=hP;refine ai.cut 3 rfl (fun B1 F1 w1=>?_);refine qU 2 rfl ?_;refine ab.div tok rfl rfl rfl rfl (by decide) ?_;rw[fH _ (by omega),← hh];refine ab.nil ⟨rfl,?_⟩;refine ai.lv tok [] rfl rfl rfl rfl rfl List.nodup_nil rfl cw4 (fun _ _ _=>Nat.zero_le _) (fun res R1 hP=>?_);obtain ⟨V2,rfl,rfl⟩:=hP;refine ai.to [99,103] [(99,.d (.v V1)),(103,.d (.v V2))] rfl ?_;refine ai.fB 99 0 (V:=V1) (av:= .ow 111 (dH wa)) rfl rfl rfl ?_;refine ai.to [99,103] [(99,.ow 111 (dH wa)),(103,.d (.v V2))] rfl ?_;refine ai.fB 103 1 (V:=V2) (av:= .ow 111 (dH wb)) rfl rfl rfl ?_;refine ai.to [99,103] [(99,.ow 111 (dH wa)),(103,.ow 111 (dH wb))] rfl ?_;refine ai.cut 2 rfl (fun B1 F1 w1=>?_);refine ab.gk tok 103 rfl rfl ?_;refine ab.kt tok rfl rfl rfl rfl rfl rfl (by rw[List.length_map,List.length_map,l1,l2];show (_+_)*56≤_;omega) (by rw[List.length_map,List.length_map,l1,l2];omega) ?_;refine qU 1 rfl ?_;refine ab.nil ⟨rfl,?_⟩;refine ai.nil ?_;rw[show dH wa++dH wb=dH (wa++wb) from List.map_append.symm];exact AW.ret rfl
theorem gJ: ∀(l:Nat) {k:Nat} {rt:List NQ} {xs:List D} {a b:NQ},ak l a→ak l b→cu rt→l≤rt.length→l≤5→(∀j,j<rt.length→xs[j]?=some (af (rt.getD j [])))→aq k a→aq k b→ed k rt→sT l k≤17300000000000→Pure Tryz.prog 122 [.ag [.sl 1 xs],af a,af b] (af (eJ l rt a b))
 | 0,k,rt,xs,a,b,ha,hb,hrt,hl,hl5,hxs,sa,sb,sr,hk=>pz ha hb hrt hl hl5 hxs sa sb sr hk (fun l' h=>by omega)
 | l+1,k,rt,xs,a,b,ha,hb,hrt,hl,hl5,hxs,sa,sb,sr,hk=>pz ha hb hrt hl hl5 hxs sa sb sr hk (fun l' e a' b' m hm h1 h2 h3 h4 h5=>by
    obtain rfl:l=l':=by omega
    exact⟨gJ l h1 h2 hrt (by omega) (by omega) hxs h3 h4 (sr.mono hm) h5,xO l h1 h2,eZ l h1 h2 hrt (by omega) h3 h4 (sr.mono hm)⟩)
end Lift
namespace Lift
open Go Go.Proofs
theorem AX{l k j:Nat}{rt:List NQ}{a:NQ}(hj:j≤l)(ha:a.length=2^(j+1))(hrt:cu rt)(hl:l<rt.length)(sa:aq k a)(sr:ed k rt):ak l (iZ l rt a)∧aq (sT (l+1) k) (iZ l rt a):=by
 obtain ⟨e1,e2,e3⟩:=bg ha;have hx:ak l (a.take (a.length / 2)):= .inr ⟨j,hj,e1⟩;have hy:ak l (a.drop (a.length / 2)):= .inr ⟨j,hj,e2⟩;have hlog:a.length.log2-1=j:=by rw[ha,Nat.log2_two_pow];omega
 have hd:ak l (rt.getD j []):= .inr ⟨j,hj,hrt j (by omega)⟩;have h0:=bz l k;have h1:=bz l (sT l k);have r1:=eZ l hx hx hrt (by omega) (sa.take _) (sa.take _) sr;have r2:=eZ l hy hy hrt (by omega) (sa.drop _) (sa.drop _) sr;have r3:=eZ l r2.1 hd hrt (by omega) r2.2 ((sr _).mono (by omega)) (sr.mono (by omega));unfold iZ;rw[hlog];refine⟨r1.1.plus r3.1.minus,(r1.2.plus r3.2.minus).mono ?_⟩;show _≤sT l (sT l k)+sT l k+1;omega
theorem wm{l k j:Nat}{rt:List NQ}{xs:List D}{a:NQ}(hj:j≤l)(ha:a.length=2^(j+1))(hrt:cu rt)(hl:l<rt.length)(hl5:l+1≤5)(hxs: ∀j,j<rt.length→xs[j]?=some (af (rt.getD j [])))(sa:aq k a)(sr:ed k rt)(hk:sT (l+1) k≤17300000000000):
  Pure Tryz.prog 138 [.ag [.sl 1 xs],af a,dI a.length] (af (iZ l rt a)):=by
 refine qJ 45 Tryz.func138 rfl rfl rfl rfl (by kernel_rfl) (fun B F0 w0=>?_);obtain ⟨e1,e2,e3⟩:=bg ha;have hx:ak l (a.take (a.length / 2)):= .inr ⟨j,hj,e1⟩;have hy:ak l (a.drop (a.length / 2)):= .inr ⟨j,hj,e2⟩;have hlog:a.length.log2-1=j:=by rw[ha,Nat.log2_two_pow];omega
 have hd:ak l (rt.getD j []):= .inr ⟨j,hj,hrt j (by omega)⟩;have h0:=bz l k;have h1:=bz l (sT l k);have hk:sT l (sT l k)+sT l k+1≤17300000000000:=hk;have hp:2^(j+1)≤2^10:=Nat.pow_le_pow_right (by decide) (by omega);have r1:=eZ l hx hx hrt (by omega) (sa.take _) (sa.take _) sr;have r2:=eZ l hy hy hrt (by omega) (sa.drop _) (sa.drop _) sr;have r3:=eZ l r2.1 hd hrt (by omega) r2.2 ((sr _).mono (by omega)) (sr.mono (by omega));have c1:=gJ l hx hx hrt (by omega) (by omega) hxs (sa.take _) (sa.take _) sr (by omega);have c2:=gJ l hy hy hrt (by omega) (by omega) hxs (sa.drop _) (sa.drop _) sr (by omega);have c3:=gJ l r2.1 hd hrt (by omega) (by omega) hxs r2.2 ((sr j).mono (by omega)) (sr.mono (by omega)) (by omega);have n1:=r1.1.len (by omega);have n3:=r3.1.len (by omega);have c4:=pD _ r3.2 (by omega) (by omega);have c5:=iP _ _ (k:=sT l (sT l k)) (r1.2.mono (by omega)) r3.2.minus (by omega) (by omega) (by rw[eT];omega);have cw:=jR a a.length (Nat.le_refl _) (by omega);rw[mH] at cw;have cp:=eH ha (by omega);unfold iZ;rw[hlog];obtain ⟨n,hn⟩: ∃n,n=a.length / 2:=⟨_,rfl⟩;rw[← hn] at e1 e2 e3 hx hy c1 c2 c3 c4 c5 ⊢;refine qX 2 rfl ?_;refine qK 2 rfl ?_;refine ab.call tok rfl rfl rfl rfl cw ?_;refine qU 1 rfl ?_;refine qK 1 rfl ?_;refine ab.call tok rfl rfl rfl rfl cp ?_;refine qU 5 rfl ?_;refine qI ?_;refine AW.draw aP 9 (by kernel_rfl) ?_;refine qP 2 rfl ?_;refine ae.div tok rfl rfl rfl rfl rfl (by decide) ?_;rw[fH _ (by omega),← hn];refine ae.ff tok (a:=a) (a.take n) rfl rfl rfl rfl rfl trivial (Int.natCast_nonneg n) (Nat.zero_le _) (show n≤a.length by omega) rfl ?_;refine qP 2 rfl ?_;refine ae.div tok rfl rfl rfl rfl rfl (by decide) ?_;rw[fH _ (by omega),← hn];refine ae.ff tok (a:=a) (a.drop n) rfl rfl rfl rfl rfl (Int.natCast_nonneg n) trivial (show n≤a.length by omega) (Nat.le_refl _) (by show (a.take a.length).drop n=_;rw[List.take_length]) ?_;refine qP 1 rfl ?_;refine ae.nil ?_;refine qU 1 rfl ?_;refine qI ?_;refine AW.draw aP 18 (by kernel_rfl) ?_;refine qP 3 rfl ?_;refine ae.call tok rfl rfl rfl rfl rfl c1 ?_;refine qP 4 rfl ?_;refine ae.call tok rfl rfl rfl rfl rfl c2 ?_;refine qP 4 rfl ?_;rw[aD (x:=((j+1:Nat):Int) -1) (by omega) (by omega),show ((j+1:Nat):Int) -1=(j:Int) by omega];refine ae.idx tok (af (rt.getD j [])) rfl rfl rfl rfl rfl (Int.natCast_nonneg j) (hxs j (by omega)) ?_;refine qP 1 rfl ?_;refine ae.call tok rfl rfl rfl rfl rfl c3 ?_;refine ae.call tok rfl rfl rfl rfl rfl c4 ?_;refine ae.call tok rfl rfl rfl rfl rfl c5 ?_;refine ae.nil ?_;refine qU 1 rfl ?_;exact qN rfl
theorem tP{R:NQ→Int}{N:NQ→NQ}{rt:List NQ}{a:NQ}(hR: ∀b,tD (R b)):tD (mz R N rt a):=by
 unfold mz;split
 · exact .inl rfl
 split
 · exact eY _
 split
 · exact hR _
 split
 · exact jM (hR _) (hR _)
 · exact jM (hR _) (hR _)
theorem rb: ∀(l:Nat) (rt:List NQ) (a:NQ),tD (oG l rt a)
 | 0,rt,a=>tP (fun _=> .inl rfl)
 | l+1,rt,a=>tP (fun b=>rb l rt b)
set_option maxHeartbeats 1600000 in
theorem q9{l k:Nat}{R:NQ→Int}{N:NQ→NQ}{rt:List NQ}{xs:List D}{a:NQ}(ha:ak l a)(hl5:l≤5)(hrt:cu rt)(hl:l≤rt.length)(hxs: ∀j,j<rt.length→xs[j]?=some (af (rt.getD j [])))(sa:aq k a)(sr:ed k rt)(hok:nM l k)
  (hR: ∀l',l=l'+1→ ∀b m,ak l' b→aq m b→k≤m→nM l' m→Pure Tryz.prog 100 [.ag [.sl 1 xs],af b] (dI (R b))) (hT: ∀b,tD (R b))
  (hN: ∀l',l=l'+1→ ∀b j,j≤l'→b.length=2^(j+1)→aq k b→Pure Tryz.prog 138 [.ag [.sl 1 xs],af b,dI b.length] (af (N b))∧ak l' (N b)∧aq (sT l k) (N b)):
  Pure Tryz.prog 100 [.ag [.sl 1 xs],af a] (dI (mz R N rt (ar a))):=by
 refine qJ 70 Tryz.func100 rfl rfl rfl rfl (by kernel_rfl) (fun B F0 w0=>?_);have hk:=rD hok;have cs:=jS a ha hl5;obtain ⟨ha,sa⟩:=aT ha sa;generalize ar a=b at cs ha sa ⊢;have hlb:=ha.len (by omega);unfold mz;refine qX 2 rfl ?_;refine qK 1 rfl ?_;refine ab.call tok rfl rfl rfl rfl cs ?_;refine qU 1 rfl ?_;refine qI ?_;refine qX 2 rfl ?_;rw[List.length_map];refine qU 1 rfl ?_;refine ab.nil ?_;by_cases h0:b.length=0
 · rw[if_pos h0,h0];refine AW.aF rfl ?_;refine qX 1 rfl ?_;exact qN rfl
 rw[if_neg h0,beq_eq_false_iff_ne.2 (show (b.length:Int)≠0 by omega)];refine AW.ay rfl ?_;refine AW.skip ?_;refine qX 2 rfl ?_;rw[List.length_map];refine qU 1 rfl ?_;refine qI ?_;refine qX 2 rfl ?_;refine ab.nil ?_;by_cases h1:b.length=1
 · have g:=kq (r:=b) (i:=0) (by omega);have cq:=wq (Qr (b.getD 0 0)) (jD _ (sa 0)) (by omega);rw[cT,yY] at cq;rw[if_pos h1,h1];refine AW.aF rfl ?_;refine qX 1 rfl ?_;refine ab.idx tok (Qr (b.getD 0 0)).D rfl rfl rfl rfl (Int.le_refl _) g ?_;refine qU 1 rfl ?_;refine ab.call tok rfl rfl rfl rfl cq ?_;refine qU 1 rfl ?_;exact qN rfl
 rw[if_neg h1,beq_eq_false_iff_ne.2 (show (b.length:Int)≠1 by omega)];refine AW.ay rfl ?_;refine AW.skip ?_
 obtain ⟨i,hi,hla2⟩: ∃i,i≤l∧b.length=2^i:=by
  rcases ha with e | e
  · omega
  · exact e
 have wU:i≠0:=fun e=>h1 (by rw[hla2,e]);obtain ⟨j,rfl⟩: ∃j,i=j+1:=⟨i-1,by omega⟩;obtain ⟨l',rfl⟩: ∃l',l=l'+1:=⟨l-1,by omega⟩;have hj:j≤l':=by omega
 have hN:=hN l' rfl b j hj hla2 sa;have hR:=fun b m h1 h2 h3 h4=>hR l' rfl b m h1 h2 h3 h4;obtain ⟨e1,e2,e3⟩:=bg hla2;have hx:ak l' (b.take (b.length / 2)):= .inr ⟨j,hj,e1⟩;have hy:ak l' (b.drop (b.length / 2)):= .inr ⟨j,hj,e2⟩;have hlog:b.length.log2-1=j:=by rw[hla2,Nat.log2_two_pow];omega
 have hd:ak l' (rt.getD j []):= .inr ⟨j,hj,hrt j (by omega)⟩;have hk2:=bz (l'+1) k;have r1:=hR _ k hx (sa.take _) (Nat.le_refl _) (ij hok);have r2:=hR _ k hy (sa.drop _) (Nat.le_refl _) (ij hok);have r3:=hR _ k hd (sr j) (Nat.le_refl _) (ij hok);have r4:=hR _ _ hN.2.1 hN.2.2 (by omega) hok.2;have t1:=hT (b.take (b.length / 2));have t2:=jM (hT (b.drop (b.length / 2))) (hT (rt.getD j []));have t4:=jM t1 (hT (N b));have cn:=hN.1;have cp:=eH hla2 (by omega);rw[hlog];obtain ⟨n,hn⟩: ∃n,n=b.length / 2:=⟨_,rfl⟩;rw[← hn] at e1 e2 e3 hx hy r1 r2 t1 t2 t4 ⊢;generalize R (b.take n)=x at r1 t1 t4 ⊢;generalize R (b.drop n)=y at r2 t2 ⊢;generalize R (rt.getD j [])=z at r3 t2 ⊢;generalize R (N b)=u at r4 t4 ⊢;refine qX 1 rfl ?_;refine ab.call tok rfl rfl rfl rfl cp ?_;refine qU 5 rfl ?_;refine qK 4 rfl ?_;rw[aD (x:=((j+1:Nat):Int) -1) (by omega) (by omega),show ((j+1:Nat):Int) -1=(j:Int) by omega];refine ab.idx tok (af (rt.getD j [])) rfl rfl rfl rfl (Int.natCast_nonneg j) (hxs j (by omega)) ?_;refine qU 2 rfl ?_;refine qI ?_;refine AW.draw aP 17 (by kernel_rfl) ?_;refine qP 3 rfl ?_;refine ae.div tok rfl rfl rfl rfl rfl (by decide) ?_;rw[fH _ (by omega),← hn];refine ae.ff tok (a:=b) (b.take n) rfl rfl rfl rfl rfl trivial (Int.natCast_nonneg n) (Nat.zero_le _) (show n≤b.length by omega) rfl ?_;refine ae.call tok rfl rfl rfl rfl rfl r1 ?_;refine qP 3 rfl ?_;refine ae.div tok rfl rfl rfl rfl rfl (by decide) ?_;rw[fH _ (by omega),← hn];refine ae.ff tok (a:=b) (b.drop n) rfl rfl rfl rfl rfl (Int.natCast_nonneg n) trivial (show n≤b.length by omega) (Nat.le_refl _) (by show (b.take b.length).drop n=_;rw[List.take_length]) ?_;refine ae.call tok rfl rfl rfl rfl rfl r2 ?_;refine qP 2 rfl ?_;refine ae.call tok rfl rfl rfl rfl rfl r3 ?_;refine qP 1 rfl ?_;rw[aD (x:=y*z) (by unfold tD at t2;omega) (by unfold tD at t2;omega)];refine qP 1 rfl ?_;refine ae.nil ?_;refine qU 1 rfl ?_;refine ab.nil ?_;refine AW.cV [1,2,5,9,10] ?_;show AW _ _ _ _ _ _ _ [(1,.d (af b)),(2,.bx [.sl 1 xs]),(5,.d (dI b.length)),(9,.d (.v (.int .i64 x))),(10,.d (.v (.int .i64 (y*z))))];generalize y*z=yz at t2 ⊢;refine AW.seq ?_;refine qX 3 rfl ?_;by_cases hxy:x=yz
 · have hor:x=yz∨yz=0:= .inl hxy;rw[if_pos hor,beq_iff_eq.2 hxy];refine qU 4 rfl ?_;refine ab.nil ?_;refine AW.aF rfl ?_;refine qX 2 rfl ?_;exact qN rfl
 rw[beq_eq_false_iff_ne.2 hxy];refine qU 3 rfl ?_;by_cases hy0:yz=0
 · have hor:x=yz∨yz=0:= .inr hy0;rw[if_pos hor,beq_iff_eq.2 hy0];refine qU 1 rfl ?_;refine ab.nil ?_;refine AW.aF rfl ?_;refine qX 2 rfl ?_;exact qN rfl
 have hor: ¬(x=yz∨yz=0):=fun h=>h.elim hxy hy0;rw[if_neg hor,beq_eq_false_iff_ne.2 hy0];refine qU 1 rfl ?_;refine ab.nil ?_;refine AW.ay rfl ?_;refine AW.skip (AW.seq ?_);refine qX 2 rfl ?_;refine ab.nil ?_;by_cases hx0:x=0
 · rw[if_pos hx0,beq_iff_eq.2 hx0];refine AW.aF rfl ?_;refine qX 2 rfl ?_;exact qN rfl
 rw[if_neg hx0,beq_eq_false_iff_ne.2 hx0];refine AW.ay rfl ?_;refine AW.skip (AW.seq ?_);refine AW.draw aP 8 (by kernel_rfl) ?_;refine qP 5 rfl ?_;refine ae.call tok rfl rfl rfl rfl rfl cn ?_;refine ae.call tok rfl rfl rfl rfl rfl r4 ?_;refine qP 1 rfl ?_;rw[aD (x:=x*u) (by unfold tD at t4;omega) (by unfold tD at t4;omega)];refine ae.nil ?_;refine qU 1 rfl ?_;exact qN rfl
theorem kM: ∀(l:Nat) {k:Nat} {rt:List NQ} {xs:List D} {a:NQ},ak l a→l≤5→cu rt→l≤rt.length→(∀j,j<rt.length→xs[j]?=some (af (rt.getD j [])))→aq k a→ed k rt→nM l k→Pure Tryz.prog 100 [.ag [.sl 1 xs],af a] (dI (oG l rt a))
 | 0,k,rt,xs,a,ha,hl5,hrt,hl,hxs,sa,sr,hok=>q9 ha hl5 hrt hl hxs sa sr hok (fun l' h=>by omega) (fun _=> .inl rfl) (fun l' h=>by omega)
 | l+1,k,rt,xs,a,ha,hl5,hrt,hl,hxs,sa,sr,hok=>q9 ha hl5 hrt hl hxs sa sr hok (fun l' e b m h1 h2 h3 h4=>by
    obtain rfl:l=l':=by omega
    exact kM l h1 (by omega) hrt (by omega) hxs h2 (sr.mono h3) h4) (rb l rt) (fun l' e b j h1 h2 h3=>by
    obtain rfl:l=l':=by omega
    exact⟨wm h1 h2 hrt (by omega) (by omega) hxs h3 sr hok.1,AX h1 h2 hrt (by omega) h3 sr⟩)
end Lift
namespace Lift
open Go Go.Proofs
theorem EC{v:List NQ}(ro:cu v)(ps: ∀k,k<v.length→ ¬dy k (v.take k) (v.getD k [])<0):pU v:=fun j hj=>by
 have h:=ps j hj
 have e: ∀i,i<j→(v.take j).getD i []=v.getD i []:=fun i hi=>by
  rw[List.getD_eq_getElem?_getD,List.getElem?_take_of_lt hi,List.getD_eq_getElem?_getD]
 have ro2:cu (v.take j):=fun i hi=>by
  rw[List.length_take] at hi;rw[e i (by omega)];exact ro i (by omega)
 have lt:ak j (v.getD j []):= .inr ⟨j,Nat.le_refl _,ro j hj⟩;rw[fj j lt ro2 (by rw[List.length_take];omega)] at h
 have key: ∀(l:Nat) (a:Cf),l≤j→aV (v.take j) l a=aV v l a∧ ∀b:Cf,mulC (v.take j) l a b=mulC v l a b:=by
  intro l
  induction l with
  | zero=>exact fun a _=>⟨rfl,fun b=>rfl⟩
  | succ l ih =>
    intro a hl;have hm: ∀x y:Cf,mulC (v.take j) l x y=mulC v l x y:=fun x y=>(ih x (by omega)).2 y;have hs: ∀x:Cf,aV (v.take j) l x=aV v l x:=fun x=>(ih x (by omega)).1;refine⟨?_,fun b=>?_⟩
    · unfold aV bK;simp only[hm,hs,e l (by omega)]
    · funext i;show (if i<2^l then mulC (v.take j) l a b i+mulC (v.take j) l (mulC (v.take j) l (bu l a) (bu l b)) (cf ((v.take j).getD l [])) i else mulC (v.take j) l a (bu l b) (i-2^l)+mulC (v.take j) l (bu l a) b (i-2^l))=_;simp only[hm,e l (by omega)];rfl
 rw[(key j _ (Nat.le_refl _)).1] at h;omega
theorem Bd{rt:List (List RD)}{i:Nat}(hi:i≤rt.length)(h: ∀j,j<i→sR rt j=0):pU ((rt.take i).map bj):=EC (jJ hi h) (fun k hk=>by
 rw[eG hi] at hk;have h1:=(fN (h k hk)).2.2;rw[nk hk,← List.map_take,List.take_take,Nat.min_eq_left (by omega)]
 exact h1)
theorem AJ{rt:List (List RD)}{i:Nat}(hi:i≤rt.length)(h: ∀j,j<i→sR rt j=0){a:NQ}(ha:ak i a):oG i ((rt.take i).map bj) a=dy i ((rt.take i).map bj) a:=by
 rw[jl i ha (jJ hi h) (Bd hi h) (by rw[eG hi];exact Nat.le_refl _),fj i ha (jJ hi h) (by rw[eG hi];exact Nat.le_refl _)]
theorem AU{rt:List (List RD)}{k m:Nat}(hw: ∀i,i<k→wN m (rt.getD i []))(hk:k≤rt.length)(h: ∀j,j<k→iT (rt.getD j [])=true): ∀j,j<((rt.take k).map bj).length→(rt.map cY)[j]?=some (af (((rt.take k).map bj).getD j [])):=fun j hj=>by
 rw[eG hk] at hj;have hj2:j<rt.length:=by omega
 rw[nk hj,← js (hw j hj) (h j hj)];simp[hj2]
theorem nF(rt:List (List RD)){m:Nat}(hw: ∀i,i<rt.length→(rt.getD i []).length=2^i→wN m (rt.getD i []))(h1:1≤m)(hl:rt.length≤1000000)(hll: ∀i,i<rt.length→(rt.getD i []).length≤4398046511104)(hok:rt.length≤5→nM rt.length m):Pure Tryz.prog 56 [TrD rt] (dI (cO rt)):=by
 refine qJ 34 Tryz.func56 rfl rfl rfl rfl (by kernel_rfl) (fun B F0 w0=>?_);unfold cO;obtain ⟨E,hE⟩: ∃E,fE (sR rt) (rt.length-0) 0=E:=⟨_,rfl⟩;rw[hE];refine qX 2 rfl ?_;refine qI ?_;refine qX 3 rfl ?_;rw[List.length_map];refine qU 1 rfl ?_;refine ab.nil ?_;by_cases h5:5<rt.length
 · rw[if_pos h5,decide_eq_true (show (5:Int)<(rt.length:Int) by omega)];refine AW.aF rfl ?_;refine qX 1 rfl ?_;exact qN rfl
 rw[if_neg h5,decide_eq_false (show ¬(5:Int)<(rt.length:Int) by omega)];have hok:=hok (by omega);have hm7:=rD hok;refine AW.ay rfl ?_;refine AW.skip (AW.seq ?_);refine qX 3 rfl ?_;rw[List.length_map];refine qU 1 rfl ?_;refine ab.nil ?_;refine AW.block ?_;refine AW.aE [1,11,12,13] (fun i:Nat=>[(1,.bx [.sl 1 (rt.map cY)]),(11,.d (.sl 1 (rt.map cY))),(12,.d (dI rt.length)),(13,.d (dI i))]) (fun i=>i≤rt.length∧fE (sR rt) (rt.length-i) i=E∧ ∀j,j<i→sR rt j=0) (fun i=>rt.length-i) 0 rfl ⟨Nat.zero_le _,hE,fun j hj=>by omega⟩ (fun i ⟨hi,hiE,hall⟩=>?_);refine qX 1 rfl ?_;refine qI ?_;refine AW.cond rfl (fun h=>?_) (fun h=>?_);rotate_left
 · have hii: ¬i<rt.length:=by have:=of_decide_eq_false h;omega
   rw[je hii] at hiE;subst hiE;refine AW.exit ?_;refine qX 1 rfl ?_;exact qN rfl
 have hii:i<rt.length:=by have:=of_decide_eq_true h;omega
 have hg:(rt.map cY)[i]?=some (cY (rt.getD i [])):=by simp[hii]
 have hwi:=hw i hii;have hli:=hll i hii;have hmiss:=fun h0:sR rt i=0=>(ga hii h0).symm.trans hiE;have hhit:=fun h0:sR rt i≠0=>(jd hii h0).symm.trans hiE;have hp:2^i≤2^5:=Nat.pow_le_pow_right (by decide) (by omega);have hrt:sR rt i=if (rt.getD i []).length≠2^i then 10 else if bB i (rt.getD i [])≠0 then bB i (rt.getD i []) else if dy i ((rt.take i).map bj) (bj (rt.getD i []))<0 then 3 else 0:=rfl
 refine AW.skip (AW.seq (AW.block ?_));refine qX 1 rfl ?_;refine ab.idx tok (cY (rt.getD i [])) rfl rfl rfl rfl (Int.natCast_nonneg i) hg ?_;refine qU 3 rfl ?_;refine qI ?_;refine qX 2 rfl ?_;rw[List.length_map];refine qU 2 rfl ?_;rw[vX (by omega)];refine qU 1 rfl ?_;refine ab.nil ?_;by_cases e1:(rt.getD i []).length=2^i;rotate_left
 · rw[if_pos e1] at hrt;rw[bne_iff_ne.2 (show (((rt.getD i []).length:Nat):Int)≠((2^i:Nat):Int) by omega)];have:=hhit (by rw[hrt];decide);rw[hrt] at this;subst this;refine AW.aF rfl ?_;refine qX 1 rfl ?_;exact qN rfl
 rw[if_neg (fun h=>h e1)] at hrt;have hwi:=hwi e1;have cn:=ja i (rt.getD i []) (by omega) (fun _=>hwi) (by omega) hli;rw[e1,bne_eq_false_iff_eq.2 rfl];refine AW.ay rfl ?_;refine AW.skip (AW.seq ?_);refine qX 2 rfl ?_;refine ab.call tok rfl rfl rfl rfl cn ?_;refine qU 1 rfl ?_;refine qK 2 rfl ?_;refine ab.nil ?_;by_cases e2:bB i (rt.getD i [])=0;rotate_left
 · rw[if_pos e2] at hrt;have:=hhit (by rw[hrt];exact e2);rw[hrt] at this;subst this;rw[bne_iff_ne.2 (show ((bB i (rt.getD i []):Nat):Int)≠0 by omega)];refine AW.aF rfl ?_;refine qX 2 rfl ?_;exact qN rfl
 rw[if_neg (fun h=>h e2)] at hrt;rw[bne_eq_false_iff_eq.2 (show ((bB i (rt.getD i []):Nat):Int)=0 by omega)];obtain ⟨n1,n2⟩:=nP e2;have hwj:=fun j (hj:j<i)=>hw j (by omega) (fN (hall j hj)).1;have cs:=kM i (k:=m) (rt:=(rt.take i).map bj) (xs:=rt.map cY) n1 (by omega) (jJ hi hall) (by rw[eG hi];exact Nat.le_refl _) (AU hwj hi (fun j hj=>(fN (hall j hj)).2.1)) (kG hwi h1) (qh hwj h1 hi) (Bh hok hi);have tr:=lQ i ((rt.take i).map bj) (bj (rt.getD i []));rw[AJ hi hall n1,← js hwi n2] at cs;generalize dy i ((rt.take i).map bj) (bj (rt.getD i []))=s at cs hrt tr;refine AW.ay rfl ?_;refine AW.skip ?_;refine qX 2 rfl ?_;refine ab.call tok rfl rfl rfl rfl cs ?_;refine qU 1 rfl ?_;refine ab.nil ?_;by_cases e3:s<0
 · rw[if_pos e3] at hrt;rw[decide_eq_true e3];have:=hhit (by rw[hrt];decide);rw[hrt] at this;subst this;refine AW.aF rfl ?_;refine qX 1 rfl ?_;exact qN rfl
 rw[if_neg e3] at hrt;rw[decide_eq_false e3];refine AW.ay rfl ?_;refine AW.skip ?_;refine qT 1 rfl ?_;rw[aD (x:=(i:Int)+1) (by omega) (by omega)];refine qU 1 rfl ?_;refine ab.nil ?_
 exact⟨i+1,rfl,⟨hii,hmiss hrt,fun j hj=>by
  by_cases e:j=i
  · rw[e];exact hrt
  · exact hall j (by omega)⟩,by omega⟩
theorem sX(rt l:List (List RD)){m mn:Nat}(hw: ∀i,i<rt.length→(rt.getD i []).length=2^i→wN m (rt.getD i []))(h1:1≤m)(hl:rt.length≤1000000)(hll: ∀i,i<rt.length→(rt.getD i []).length≤4398046511104)(hok:rt.length≤5→nM rt.length m)
  (hlw: ∀i,i<l.length→yJ rt.length (l.getD i [])→wN mn (l.getD i [])) (hl2:l.length≤1000000) (hl3: ∀i,i<l.length→(l.getD i []).length≤4398046511104) (hm:mn≤17300000000000):Pure Tryz.prog 110 [TrD rt,.sl 1 (l.map cY)] (dI (oc rt l)):=by
 refine qJ 29 Tryz.func110 rfl rfl rfl rfl (by kernel_rfl) (fun B F0 w0=>?_);have cC:=nF rt hw h1 hl hll hok;unfold oc;obtain ⟨E,hE⟩: ∃E,fE (fun i=>bB rt.length (l.getD i [])) (l.length-0) 0=E:=⟨_,rfl⟩;rw[hE];refine qX 2 rfl ?_;refine qI ?_;refine qX 1 rfl ?_;refine ab.call tok rfl rfl rfl rfl cC ?_;refine qU 1 rfl ?_;refine qK 2 rfl ?_;refine ab.nil ?_;by_cases e2:cO rt=0;rotate_left
 · rw[if_pos e2,bne_iff_ne.2 (show ((cO rt:Nat):Int)≠0 by omega)];refine AW.aF rfl ?_;refine qX 2 rfl ?_;exact qN rfl
 have h5:=(lr e2).1;rw[if_neg (fun h=>h e2),bne_eq_false_iff_eq.2 (show ((cO rt:Nat):Int)=0 by omega)];refine AW.ay rfl ?_;refine AW.skip (AW.seq ?_);refine qX 2 rfl ?_;rw[List.length_map];refine qU 1 rfl ?_;refine ab.nil ?_;refine AW.block ?_;refine AW.aE [2,14,15,16] (fun i:Nat=>[(2,.bx [.sl 1 (rt.map cY)]),(14,.d (.sl 1 (l.map cY))),(15,.d (dI l.length)),(16,.d (dI i))]) (fun i=>i≤l.length∧fE (fun i=>bB rt.length (l.getD i [])) (l.length-i) i=E) (fun i=>l.length-i) 0 rfl ⟨Nat.zero_le _,hE⟩ (fun i ⟨hi,hiE⟩=>?_);refine qX 1 rfl ?_;refine qI ?_;refine AW.cond rfl (fun h=>?_) (fun h=>?_);rotate_left
 · have hii: ¬i<l.length:=by have:=of_decide_eq_false h;omega
   rw[je hii] at hiE;subst hiE;refine AW.exit ?_;refine qX 1 rfl ?_;exact qN rfl
 have hii:i<l.length:=by have:=of_decide_eq_true h;omega
 have hg:(l.map cY)[i]?=some (cY (l.getD i [])):=by simp[hii]
 have hmiss:=fun h0:bB rt.length (l.getD i [])=0=>(ga (f:=fun i=>bB rt.length (l.getD i [])) hii h0).symm.trans hiE;have hhit:=fun h0:bB rt.length (l.getD i [])≠0=>(jd (f:=fun i=>bB rt.length (l.getD i [])) hii h0).symm.trans hiE;have cn:=ja rt.length (l.getD i []) h5 (hlw i hii) hm (hl3 i hii);refine AW.skip (AW.seq (AW.block (AW.seq (AW.region ?_))));refine ab.idx tok (cY (l.getD i [])) rfl rfl rfl rfl (Int.natCast_nonneg i) hg ?_;refine qU 2 rfl ?_;refine qK 3 rfl ?_;rw[List.length_map];refine qU 1 rfl ?_;refine ab.call tok rfl rfl rfl rfl cn ?_;refine qU 1 rfl ?_;refine ab.nil ?_;generalize bB rt.length (l.getD i [])=v at hmiss hhit;refine qX 2 rfl ?_;refine ab.nil ?_;by_cases hv:v=0;rotate_left
 · have:=hhit hv;subst this;rw[bne_iff_ne.2 (show ((v:Nat):Int)≠0 by omega)];refine AW.aF rfl ?_;refine qX 2 rfl ?_;exact qN rfl
 rw[bne_eq_false_iff_eq.2 (show ((v:Nat):Int)=0 by omega)];refine AW.ay rfl ?_;refine AW.skip ?_;refine qT 1 rfl ?_;rw[aD (x:=(i:Int)+1) (by omega) (by omega)];refine qU 1 rfl ?_;refine ab.nil ?_;exact⟨i+1,rfl,⟨hii,hmiss hv⟩,by omega⟩
end Lift
namespace Lift
open Go Go.Proofs
end Lift
namespace Lift
def tT(r:Nat):Nat→Nat→Nat
 | 0,s=>s
 | l+1,s=>tT r l s+tT r l (tT r l s+r)+1
theorem nu{r:Nat}: ∀{l s t:Nat},s≤t→tT r l s≤tT r l t
 | 0,_,_,h=>h
 | l+1,s,t,h=>by
   have h1:=nu (r:=r) (l:=l) h;have h2:=nu (r:=r) (l:=l) (Nat.add_le_add_right h1 r);show _+_+1≤_+_+1;omega
theorem py(r:Nat): ∀(l s:Nat),s≤tT r l s
 | 0,s=>Nat.le_refl s
 | l+1,s=>by
   have h1:=py r l s;show s≤tT r l s+_+1;omega
theorem Er(r l s:Nat):2*s+1≤tT r (l+1) s:=by
 have h1:=py r l s;have h2:=py r l (tT r l s+r);show _≤tT r l s+tT r l (tT r l s+r)+1;omega
theorem Az(r s:Nat):tT r 1 s=2*s+r+1:=by
 show s+(s+r)+1=_;omega
theorem gL{v:List NQ}{r:Nat}(hr:ed r v): ∀(l:Nat) {a b:Cf} {k m:Nat},(∀i,LQ (a i)≤k)→(∀i,LQ (b i)≤m)→ ∀i,LQ (mulC v l a b i)≤tT r l (k+m)
 | 0,a,b,k,m,ha,hb,i=>by
   show LQ (if i=0 then a 0*b 0 else 0)≤k+m;split
   · have:=yM (a 0) (b 0);have:=ha 0;have:=hb 0;omega
   · have:=oo;have:=ha 0;have:=yL (a 0);omega
 | l+1,a,b,k,m,ha,hb,i=>by
   have h1:=gL hr l ha hb;have h2:=gL hr l (a:=bu l a) (b:=bu l b) (fun i=>ha _) (fun i=>hb _);have h3:=gL hr l (a:=a) (b:=bu l b) ha (fun i=>hb _);have h4:=gL hr l (a:=bu l a) (b:=b) (fun i=>ha _) hb;have h5:=gL hr l (a:=mulC v l (bu l a) (bu l b)) (b:=cf (v.getD l [])) h2 (fun i=>hr l i);have h6:=py r l (tT r l (k+m)+r);show LQ (if i<2^l then _ else _)≤tT r l (k+m)+tT r l (tT r l (k+m)+r)+1;split
   · have:=vJ (mulC v l a b i) (mulC v l (mulC v l (bu l a) (bu l b)) (cf (v.getD l [])) i);have:=h1 i;have:=h5 i;omega
   · have:=vJ (mulC v l a (bu l b) (i-2^l)) (mulC v l (bu l a) b (i-2^l));have:=h3 (i-2^l);have:=h4 (i-2^l);omega
theorem vT{v:List NQ}{r l k m:Nat}{a b:NQ}(hrt:cu v)(hr:ed r v)(hl:l≤v.length)(ha:ak l a)(sa:aq k a)(hb:ak l b)(sb:aq m b):aq (tT r l (k+m)) (aS l v a b):=fun i=>by
 show LQ (cf (aS l v a b) i)≤_;rw[(gb l ha hb hrt hl).2];exact gL hr l sa sb i
theorem Dc{v:List NQ}{r l j k:Nat}{a:NQ}(hrt:cu v)(hr:ed r v)(hj:j≤l)(hl:l<v.length)(ha:a.length=2^(j+1))(sa:aq k a):aq (tT r (l+1) (k+k)) (eA l v a):=fun i=>by
 show LQ (cf (eA l v a) i)≤_;have h2:=qt hj ha hrt hl
 have lowN:cy j (bK v j (cf a)):=fun i hi=>by
  unfold bK;rw[a7 v j _ _ i hi,a7 v j _ _ i hi];exact Rat.sub_self
 obtain ⟨e1,e2,e3⟩:=bg ha;rw[h2.2];have h3:=gL hr j (a:=cf a) (b:=cf a) sa sa i;have h4:=gL hr j (a:=bu j (cf a)) (b:=bu j (cf a)) (fun i=>sa _) (fun i=>sa _);have h5:=gL hr j (a:=mulC v j (bu j (cf a)) (bu j (cf a))) (b:=cf (v.getD j [])) h4 (fun i=>hr j i) i
 have h6:LQ (bK v j (cf a) i)≤tT r (j+1) (k+k):=by
  have:=Fk (mulC v j (cf a) (cf a) i) (mulC v j (mulC v j (bu j (cf a)) (bu j (cf a))) (cf (v.getD j [])) i);show LQ (_-_)≤tT r j (k+k)+tT r j (tT r j (k+k)+r)+1;omega
 refine Nat.le_trans h6 ?_
 have up: ∀d s,tT r j s≤tT r (j+d) s:=fun d s=>by
  induction d with
  | zero=>exact Nat.le_refl _
  | succ d ih =>
    refine Nat.le_trans ih ?_;show tT r (j+d) s≤tT r (j+d) s+_+1;omega
 obtain ⟨d,rfl⟩: ∃d,l=j+d:=⟨l-j,by omega⟩;have u1:=up d (k+k);have u2:=up d (tT r j (k+k)+r);have u3:=nu (r:=r) (l:=j+d) (Nat.add_le_add_right u1 r);show tT r j (k+k)+tT r j (tT r j (k+k)+r)+1≤tT r (j+d) (k+k)+tT r (j+d) (tT r (j+d) (k+k)+r)+1;omega
def iQ(r:Nat):Nat→Nat→Nat
 | 0,k=>k+1
 | l+1,k=>tT r (l+1) (k+iQ r l (tT r (l+1) (k+k)))
theorem vm{r:Nat}: ∀{l s t:Nat},s≤t→iQ r l s≤iQ r l t
 | 0,_,_,h=>Nat.succ_le_succ h
 | l+1,s,t,h=>by
   have h1:=vm (r:=r) (l:=l) (nu (r:=r) (l:=l+1) (Nat.add_le_add h h));exact nu (by omega)
theorem BD(r:Nat): ∀(l k:Nat),k<iQ r l k
 | 0,k=>Nat.lt_succ_self k
 | l+1,k=>by
   have h1:=BD r l (tT r (l+1) (k+k));have h2:=py r (l+1) (k+iQ r l (tT r (l+1) (k+k)));show k<tT r (l+1) _;omega
theorem DV{q:Rat}{k:Nat}(h0:q≠0)(h:LQ q≤k):LQ (1 / q)≤k+1:=by
 have h1:=Fl (r:=1) h0;have h2:=sM;omega
theorem tE(l:Nat)(v:List NQ)(b:NQ):aS l v [] b=[]:=by
 have key: ∀R:NQ→NQ→NQ,iC (gw R v) [] b=[]:=fun R=>by
  unfold iC gw;split
  · rw[if_pos (by simp[a9])]
  · rw[if_pos (by simp[a9])]
 cases l with
 | zero=>exact key _
 | succ l=>exact key _
theorem BB{v:List NQ}{r:Nat}(hrt:cu v)(hr:ed r v): ∀(l:Nat) {k:Nat} {a:NQ},ak l a→l≤v.length→aq k a→aq (iQ r l k) (jv l v a):=by
 have one: ∀{s:NQ} {l k:Nat},ak l s→zB s→s.length=1→aq k s→aq (k+1) [1 / s.getD 0 0]:=fun {s l k} hs ht h1 sa i=>by
  cases i with
  | zero=>exact DV (ht.one h1) (sa 0)
  | succ i=>exact lG (Nat.le_add_left _ _)
 intro l
 induction l with
 | zero =>
   intro k a ha hl sa;have hs:=aT ha sa;have ht:=kF ha;show aq (k+1) (k9 _ _ _ _ (ar a));generalize ar a=s at *;unfold k9;split
   · rename_i h1;exact one hs.1 ht h1 hs.2
   · split
     · exact bc (Nat.le_add_left _ _)
     · exact bc (Nat.le_add_left _ _)
 | succ l ih =>
   intro k a ha hl sa;obtain ⟨hs,sa⟩:=aT ha sa;have ht:=kF ha;show aq (iQ r (l+1) k) (k9 (jv l v) (dy l v) (eA l v) (aS (l+1) v) (ar a));generalize ar a=s at *;have hk:=BD r (l+1) k;unfold k9;by_cases h1:s.length=1
   · rw[if_pos h1];exact(one hs ht h1 sa).mono hk
   rw[if_neg h1];by_cases h0:s.length=0
   · rw[List.length_eq_zero_iff.1 h0]
     have en:eA l v []=[]:=by
      show aK (aS l v [] []) (aM (aS l v (aS l v [] []) (v.getD ((0:Nat).log2-1) [])))=[];rw[tE,tE];rfl
     have es:dy l v []=0:=by cases l<;>rfl
     rw[en,if_pos es];have h3:=ih (bn l) (by omega) (bc (k:=1) (Nat.le_refl _));refine h3.mono ?_;have hk1:=sa.pos;have h5:iQ r l 1≤iQ r l (tT r (l+1) (k+k)):=vm (by have:=py r (l+1) (k+k);omega);have h6:=py r (l+1) (k+iQ r l (tT r (l+1) (k+k)));show iQ r l 1≤tT r (l+1) _;omega
   obtain ⟨j,hj,hsl⟩: ∃j,j≤l∧s.length=2^(j+1):=by
    rcases hs with e | ⟨i,hi,e⟩
    · exact absurd e h0
    · rcases i with _ | j
      · exact absurd e h1
      · exact⟨j,by omega,e⟩
   obtain ⟨e1,e2,e3⟩:=bg hsl;have hx:ak l (s.take (s.length / 2)):= .inr ⟨j,hj,e1⟩;have hn:=qs hj hsl hrt (show l<v.length by omega);have sn:=Dc hrt hr hj (show l<v.length by omega) hsl sa;split
   · have h3:=ih (hx.plus hx) (by omega) ((sa.take _).plus (sa.take _));refine h3.mono ?_;have h4:=Er r l (k+k);have h5:iQ r l (k+k+1)≤iQ r l (tT r (l+1) (k+k)):=vm (by omega);have h6:=py r (l+1) (k+iQ r l (tT r (l+1) (k+k)));show iQ r l (k+k+1)≤tT r (l+1) _;omega
   · have h3:=ih hn (by omega) sn
     have hjl:ak (l+1) (dh (s.take (s.length / 2)) (aM (s.drop (s.length / 2))) (s.length / 2)):= .inr ⟨j+1,by omega,by
      rw[dF]
      omega⟩
     exact vT hrt hr hl hjl (((sa.take _).join (sa.drop _).minus _)) ((gA l hn hrt (by omega)).mono (Nat.le_succ l)) h3
end Lift
namespace Lift
open Go Go.Proofs
end Lift
namespace Lift
open Go Go.Proofs
theorem B5{v:List NQ}(hrt:cu v)(hp:pU v){l j:Nat}{s:NQ}(hj:j≤l)(hl:l<v.length)(hsl:s.length=2^(j+1))(h:aV v (l+1) (cf s)≠0)(hN:aV v j (bK v j (cf s))=0):aV v l (cf (aK (s.take (s.length / 2)) (s.take (s.length / 2))))≠0:=by
 obtain ⟨e1,e2,e3⟩:=bg hsl;have ex:iH j (cf (s.take (s.length / 2))) (cf s):=dM _ e3;have ls:cy (j+1) (cf s):=aN (by omega);have lx:cy j (cf (s.take (s.length / 2))):=aN (by omega);obtain ⟨Tj⟩:=Fm hp j (by omega);have hdj:=hp j (by omega)
 let T:=Ep Tj hdj
 rw[bC v ls (by omega)] at h
 have hT:Tj.R.sgn (OR.nr (Tj.of (cf (v.getD j []))) (T.of (cf s)))=aV v j (bK v j (cf s)):=by
  rw[← Tj.sgn]
  congr 1
  show Tj.of (cf s)*Tj.of (cf s) -Tj.of (bu j (cf s))*Tj.of (bu j (cf s))*Tj.of (cf (v.getD j []))=Tj.of (bK v j (cf s));rw[← Tj.mul,← Tj.mul,← Tj.mul,← Tj.sub];rfl
 have cxx:cf (aK (s.take (s.length / 2)) (s.take (s.length / 2)))=fun i=>cf (s.take (s.length / 2)) i+cf (s.take (s.length / 2)) i:=funext fun i=>ez _ _ i
 have lxx:cy j (cf (aK (s.take (s.length / 2)) (s.take (s.length / 2)))):=by
  rw[cxx];exact fun i hi=>by
   show _+_=(0:Rat);rw[lx i hi];exact Rat.add_zero 0
 have hes:T.R.sgn (T.of (cf s))≠0:=by rw[T.sgn];exact h
 have F:=OR.B6 (R:=Tj.R) (d:=Tj.of (cf (v.getD j []))) (by rw[Tj.sgn];exact hdj) hes (by
  have h5:=hT;rw[hN] at h5;exact h5)
 rw[bC v lxx hj,← Tj.sgn,cxx,Tj.add,Tj.cong _ _ ex];exact F.2
theorem tM{v:List NQ}{l:Nat}{a:NQ}(ha:ak l a)(h:aV v l (cf a)≠0):(ar a).length≠0:=fun e=>by
 have:=bM ha;rw[List.length_eq_zero_iff.1 e] at this;rw[← this] at h;exact h (eX v l)
def FH:Nat→Nat→Prop
 | 0,k=>k≤17300000000000
 | l+1,k=>nM l (sT (l+1) k)∧FH l (sT (l+1) k)∧sT (l+1) k≤17300000000000∧sT (l+1) (iQ k l (sT (l+1) k))≤17300000000000
theorem FH.le: ∀{l k:Nat},FH l k→k≤17300000000000
 | 0,k,h=>h
 | l+1,k,h=>by have:=bz (l+1) k;have:=h.2.2.1;omega
end Lift
namespace Lift
theorem EG{v:List NQ}(hrt:cu v)(hp:pU v): ∀(l:Nat) {k:Nat} {a:NQ},ak l a→l≤v.length→aq k a→ed k v→aV v l (cf a)≠0→FH l k→FJ l v a:=by
 intro l
 induction l with
 | zero =>
   intro k a ha hl sa sr h hk;exact⟨sa.mono hk.le,tM ha h⟩
 | succ l ih =>
   intro k a ha hl sa sr h hk;obtain ⟨k1,k2,k3,k4⟩:=hk;have h2:=bz (l+1) k
   have h5:2*k+1≤sT (l+1) k:=by
    have:=bz l k;show _≤sT l (sT l k)+sT l k+1;omega
   have h0:=tM ha h;have hc:=bM ha;refine⟨sa.mono (by omega),h0,fun hne=>?_⟩;rw[← hc] at h;obtain ⟨hs,ss⟩:=aT ha sa;generalize ar a=s at *
   obtain ⟨j,hj,hsl⟩: ∃j,j≤l∧s.length=2^(j+1):=by
    rcases hs with e | ⟨i,hi,e⟩
    · exact absurd e h0
    · rcases i with _ | j
      · exact absurd e hne
      · exact⟨j,by omega,e⟩
   obtain ⟨e1,e2,e3⟩:=bg hsl;have hx:ak l (s.take (s.length / 2)):= .inr ⟨j,hj,e1⟩;have hn:=qt hj hsl hrt (show l<v.length by omega);have sn:=(qq hj hsl hrt (show l<v.length by omega) ss sr).2;have s1:=fj l hn.1 hrt (by omega)
   have lowN:cy j (bK v j (cf s)):=fun i hi=>by
    unfold bK;rw[a7 v j _ _ i hi,a7 v j _ _ i hi];exact Rat.sub_self
   refine⟨Bj hj hsl hrt (by omega) ss sr k3,mT l hn.1 hrt (by omega) sn (sr.mono (by omega)) k1,fun hz=>?_,fun hz=>⟨?_,?_⟩⟩
   · rw[s1,hn.2,bC v lowN hj] at hz;have hd:=B5 hrt hp hj (by omega) hsl h hz;exact ih (hx.plus hx) (by omega) (((ss.take _).plus (ss.take _)).mono (by omega)) (sr.mono (by omega)) hd k2
   · rw[s1] at hz;exact ih hn.1 (by omega) sn (sr.mono (by omega)) hz k2
   · have hjl:ak (l+1) (dh (s.take (s.length / 2)) (aM (s.drop (s.length / 2))) (s.length / 2)):= .inr ⟨j+1,by omega,by
      rw[dF]
      omega⟩
     have hge:=BD k l (sT (l+1) k);exact oP (l+1) hjl ((gA l hn.1 hrt (by omega)).mono (Nat.le_succ l)) hrt hl (((ss.take _).join (ss.drop _).minus _).mono (by omega)) (BB hrt sr l hn.1 (by omega) sn) (sr.mono (by omega)) k4
end Lift
namespace Lift
structure Lo (v:List NQ):Prop where
 V:l8 2 v
 l1:v.length≤1
theorem y4{l:Nat}(h:l≤1)(k:Nat):sT l k≤6*k+1:=by
 rcases l with _ | _ | l
 · show 2*k≤_;omega
 · show 2*(2*k)+2*k+1≤_;omega
 · omega
theorem mS{l k:Nat}(h:l≤1)(hk:k≤400000000000):nM l k:=by
 rcases l with _ | _ | l
 · show k≤_;omega
 · have h1:sT 1 k≤6*k+1:=y4 (Nat.le_refl 1) k;have h2:sT 1 k≤17300000000000:=by omega
   exact⟨h2,h2⟩
 · omega
theorem Fw{l:Nat}(h:l≤1)(s:Nat):tT 2 l s≤2*s+3:=by
 rcases l with _ | _ | l
 · show s≤_;omega
 · rw[Az];omega
 · omega
theorem F2{l r k:Nat}(h:l≤1):iQ r l k≤10*k+3*r+5:=by
 rcases l with _ | _ | l
 · show k+1≤_;omega
 · show tT r 1 (k+(tT r 1 (k+k)+1))≤_;rw[Az,Az];omega
 · omega
theorem EF{l k:Nat}(h:l≤1)(hk:k≤400000000000):FH l k:=by
 rcases l with _ | _ | l
 · show k≤_;omega
 · have h1:sT 1 k≤6*k+1:=y4 (Nat.le_refl 1) k;have h2:sT 1 k≤17300000000000:=by omega
   have h3:sT 1 (sT 1 k+1)≤6*(sT 1 k+1)+1:=y4 (Nat.le_refl 1) _;have h4:sT 1 (sT 1 k+1)≤17300000000000:=by omega
   exact⟨h2,h2,h2,h4⟩
 · omega
theorem Lo.add{v:List NQ}(_:Lo v){k m:Nat}{a b:NQ}(ha:ak v.length a)(sa:aq k a)(hb:ak v.length b)(sb:aq m b)(hk:k+m≤400000000000):wD a b∧ak v.length (vH a b)∧aq (k+m+1) (vH a b) :=
 ⟨⟨sa.mono (by omega),sb.mono (by omega),(sa.plus sb).mono (by omega)⟩,DP ha sa hb sb⟩
theorem Lo.sub{v:List NQ}(_:Lo v){k m:Nat}{a b:NQ}(ha:ak v.length a)(sa:aq k a)(hb:ak v.length b)(sb:aq m b)(hk:k+m≤400000000000):Bg a b∧ak v.length (pY a b)∧aq (k+m+1) (pY a b) :=
 ⟨⟨sa.mono (by omega),sb.mono (by omega),(sa.plus sb.minus).mono (by omega)⟩,CO ha sa hb sb⟩
section
variable {v:List NQ} (L:Lo v) {k m:Nat} {a b:NQ}
include L
theorem Lo.mul(ha:ak v.length a)(sa:aq k a)(hb:ak v.length b)(sb:aq m b)(hk:k+m≤400000000000):rE v a b∧ak v.length (fP v a b)∧aq (2*(k+m)+3) (fP v a b):=by
 have h1:=y4 L.l1 (k+m);have h2:=Fw L.l1 (k+m);have hm:=sa.pos;have hm':=sb.pos;have st:=(vT (m:=m) L.V.ro L.V.sz (Nat.le_refl _) ha sa hb sb).mono h2;have lt:=dQ v.length ha hb L.V.ro (Nat.le_refl _);exact⟨⟨sa.mono (by omega),sb.mono (by omega),oP v.length ha hb L.V.ro (Nat.le_refl _) (sa.mono (Nat.le_add_right k m)) (sb.mono (Nat.le_add_left m k)) (L.V.sz.mono (by omega)) (by omega),st.mono (by omega)⟩,aT lt st⟩
theorem Lo.sg(ha:ak v.length a)(sa:aq k a)(hk:k≤200000000000):s4 v a:=by
 have:=sa.pos;exact mT v.length ha L.V.ro (Nat.le_refl _) (sa.mono (Nat.le_succ k)) (L.V.sz.mono (by omega)) (mS L.l1 (by omega))
theorem Lo.inv(hb:ak v.length b)(sb:aq m b):ak v.length (jv v.length v b)∧aq (10*m+11) (jv v.length v b) :=
 ⟨gA v.length hb L.V.ro (Nat.le_refl _),(BB L.V.ro L.V.sz v.length hb (Nat.le_refl _) sb).mono (F2 L.l1)⟩
theorem Lo.div(ha:ak v.length a)(sa:aq k a)(hb:ak v.length b)(sb:aq m b)(h0:oF v b≠0)(hk:k+10*m≤200000000000):Bm v a b∧ak v.length (td v a b)∧aq (2*k+20*m+25) (td v a b):=by
 have hm:=sb.pos;have hm':=sa.pos;obtain ⟨li,si⟩:=L.inv hb sb;obtain ⟨⟨k1,k2,k3,k4⟩,k5,k6⟩:=L.mul ha sa li si (by omega);have hs:aV v v.length (cf b)≠0:=by rw[← fj v.length hb L.V.ro (Nat.le_refl _)];exact h0
 exact⟨⟨k1,sb.mono (by omega),L.sg hb sb (by omega),h0,EG L.V.ro L.V.pos v.length hb (Nat.le_refl _) (sb.mono (Nat.le_succ m)) (L.V.sz.mono (by omega)) hs (EF L.l1 (by omega)),k3,k4⟩,k5,k6.mono (by omega)⟩
end
def gS(k:Nat):Nat:=110*k+129
def gI(k:Nat):Nat→Nat
 | 0=>k
 | c+1=>gS (gI k c)
theorem eL{k:Nat}: ∀{c d:Nat},c≤d→gI k c≤gI k d:=fun {c d} h=>by
 induction h with
 | refl=>exact Nat.le_refl _
 | step _ ih=>exact Nat.le_trans ih (by show _≤110*_+129;omega)
abbrev kx(k:Nat)(a:br):Prop:= ∀i j,aq k (bY a i j)
theorem kx.mono{k m:Nat}{a:br}(h:kx k a)(hk:k≤m):kx m a:=fun i j=>(h i j).mono hk
theorem kx.pos{k:Nat}{a:br}(h:kx k a):1≤k:=(h 0 0).pos
theorem kx.set{k:Nat}{a:br}(h:kx k a){r:List NQ}(hr: ∀j,aq k (r.getD j []))(i:Nat):kx k (a.set i r):=fun j c=>by
 unfold bY;rw[gB];split
 · exact hr c
 · exact h j c
theorem kx.bR{v:List NQ}{s:j7}{c k:Nat}(h:kx k s.rows):kx k (bR v s c):=by
 unfold Lift.bR;split
 · exact h
 · exact(h.set (h _) _).set (h _) _
theorem Lo.step{v:List NQ}(L:Lo v){m N c k:Nat}{s:j7}(R:sJ v m N c s)(hs:kx k s.rows)(hd:aq k s.det)(hk:gS k≤100000000000):
  lE v s c∧kx (gS k) (df v s c).rows∧aq (gS k) (df v s c).det∧(atR v s c<s.rows.length→kx (gS k) (eR v s c)∧aq (gS k) (ar (jv v.length v (pR v s c)))):=by
 have hg:gS k=110*k+129:=rfl;have hk1:=hs.pos;have hl:=R.len;obtain ⟨a1,a2,a3,a4⟩:=fA v s c (by have:=R.cm;omega);by_cases h:atR v s c<s.rows.length
 · obtain ⟨b1,b2,b3⟩:=sG R h;obtain ⟨e1,e2,e3⟩:=zn L.V.a R h;have sb:kx k (bR v s c):=hs.bR
   have hp:oF v (pR v s c)≠0:=by
    have h4:=a4 h
    have:bY (bR v s c) s.cols.length c=bY s.rows (atR v s c) c:=by
     unfold bR bY;split
     · rename_i e;rw[e]
     · unfold CL;rw[gB,if_pos ⟨rfl,by rw[List.length_set];omega⟩]
    rw[pR,this];exact h4
   have se:kx (22*k+25) (eR v s c):=by
    unfold eR;refine(sb.mono (by omega)).set (fun j=>?_) _;by_cases hj:j<((bR v s c).getD s.cols.length []).length
    · rw[qp v _ _ hj];exact(L.div (b3 _ j) (sb _ j) (b3 _ _) (sb _ _) hp (by omega)).2.2.mono (by omega)
    · rw[lZ (by rw[qo];omega)];exact bc (by omega)
   have okt: ∀i,xZ v ((eR v s c).getD i []) ((eR v s c).getD s.cols.length []) (bY (eR v s c) i c):=fun i j _=>by
    obtain ⟨q1,q2,q3⟩:=L.mul (e3 i c) (se i c) (e3 s.cols.length j) (se s.cols.length j) (by omega);exact⟨q1,(L.sub (e3 i j) (se i j) q2 q3 (by omega)).1⟩
   have sc: ∀i,kx (gS k) (cW v (eR v s c) s.cols.length c i):=fun i=>by
    induction i with
    | zero=>exact se.mono (by omega)
    | succ i ih =>
      unfold cW;split
      · refine ih.set (fun j=>?_) i;rw[fy v _ _ _ i i (.inl (Nat.le_refl _)),fy v _ _ _ i _ (.inr rfl),vA];by_cases hj:j<((eR v s c).getD i []).length
        · rw[lN v _ _ _ hj];obtain ⟨q1,q2,q3⟩:=L.mul (e3 i c) (se i c) (e3 s.cols.length j) (se s.cols.length j) (by omega);exact(L.sub (e3 i j) (se i j) q2 q3 (by omega)).2.2.mono (by omega)
        · rw[lZ (by rw[lM];omega)];exact bc (by omega)
      · exact ih
   obtain ⟨d1,d2,d3⟩:=L.mul R.det hd (b3 s.cols.length c) (sb _ _) (by omega);refine⟨⟨fun j _ _=>L.sg (R.lt j c) (hs j c) (by omega),fun _=>d1,fun _ j hj=>(L.div (b3 _ j) (sb _ j) (b3 _ _) (sb _ _) hp (by omega)).1,fun _ i _ _=>L.sg (e3 i c) (se i c) (by omega),fun _ i _ _ _=>okt i⟩,?_,?_,fun _=>⟨se.mono (by omega),?_⟩⟩
   · unfold df;rw[if_pos h];exact sc _
   · unfold df;rw[if_pos h];exact d3.mono (by omega)
   · obtain ⟨i1,i2⟩:=L.inv (b3 s.cols.length c) (sb _ _);exact(aT i1 i2).2.mono (by omega)
 · refine⟨⟨fun j _ _=>L.sg (R.lt j c) (hs j c) (by omega),fun g=>absurd g h,fun g=>absurd g h,fun g=>absurd g h,fun g=>absurd g h⟩,?_,?_,fun g=>absurd g h⟩
   · unfold df;rw[if_neg h];exact hs.mono (by omega)
   · unfold df;rw[if_neg h];exact hd.mono (by omega)
theorem Lo.A4{v:List NQ}(L:Lo v){a:br}{N k:Nat}(hr:bt N a)(hl:kn v.length a)(hs:kx k a): ∀{c:Nat},gI k c≤100000000000→kx (gI k c) (aH v a c).rows∧aq (gI k c) (aH v a c).det
 | 0,_=>⟨hs,hZ (Nat.le_trans sM hs.pos)⟩
 | c+1,h=>by
   have h0:=Nat.le_trans (eL (Nat.le_succ c)) h;obtain ⟨h1,h2⟩:=L.A4 hr hl hs h0;obtain ⟨_,h3,h4,_⟩:=L.step (eQ L.V.a hr hl c) h1 h2 h;exact⟨h3,h4⟩
theorem Lo.red{v:List NQ}(L:Lo v){a:br}{N k n:Nat}(hr:bt N a)(hl:kn v.length a)(hs:kx k a)(hN:gI k n≤100000000000):
  (∀c,c<n→lE v (aH v a c) c)∧(∀c,c≤n→kx (gI k n) (aH v a c).rows)∧(∀c,c≤n→aq (gI k n) (aH v a c).det) ∧
  (∀c,c<n→atR v (aH v a c) c<(aH v a c).rows.length→kx (gI k n) (eR v (aH v a c) c))∧(∀c,c<n→atR v (aH v a c) c<(aH v a c).rows.length→aq (gI k n) (ar (jv v.length v (pR v (aH v a c) c)))):=by
 have g:=fun c (hc:c≤n)=>L.A4 hr hl hs (Nat.le_trans (eL hc) hN);have s:=fun c (hc:c<n)=>L.step (eQ L.V.a hr hl c) (g c (by omega)).1 (g c (by omega)).2 (Nat.le_trans (eL (show c+1≤n from hc)) hN);exact⟨fun c hc=>(s c hc).1,fun c hc=>(g c hc).1.mono (eL hc),fun c hc=>(g c hc).2.mono (eL hc),fun c hc h=>((s c hc).2.2.2 h).1.mono (eL (show c+1≤n from hc)),fun c hc h=>((s c hc).2.2.2 h).2.mono (eL (show c+1≤n from hc))⟩
end Lift
namespace Lift
def iF(v:List NQ)(xs ys:List NQ):Nat→NQ
 | 0=>[]
 | i+1=>vH (iF v xs ys i) (fP v (xs.getD i []) (ys.getD i []))
theorem n9{v:List NQ}(V:jH v){xs ys:List NQ}(hx: ∀i,ak v.length (xs.getD i []))(hy: ∀i,ak v.length (ys.getD i [])): ∀n,ak v.length (iF v xs ys n)
 | 0=>bn _
 | n+1=>bV ((n9 V hx hy n).plus (jW V (hx n) (hy n)))
theorem xa{v:List NQ}(V:jH v)(F:FV v){xs ys:List NQ}(hx: ∀i,ak v.length (xs.getD i []))(hy: ∀i,ak v.length (ys.getD i [])): ∀n,F.val (iF v xs ys n)=sm n (fun k=>F.val (xs.getD k [])*F.val (ys.getD k []))
 | 0=>F.nil
 | n+1=>by
   show F.val (vH _ _)=sm n _+_;rw[F.add (n9 V hx hy n) (jW V (hx n) (hy n)),xa V F hx hy n,F.mul (hx n) (hy n)]
def Bl(v:List NQ)(xs ys:List NQ)(n:Nat):Prop:= ∀i,i<n→rE v (xs.getD i []) (ys.getD i [])∧wD (iF v xs ys i) (fP v (xs.getD i []) (ys.getD i []))
theorem Lo.dot{v:List NQ}(L:Lo v){xs ys:List NQ}{k m:Nat}(hx: ∀i,ak v.length (xs.getD i []))(hy: ∀i,ak v.length (ys.getD i []))(sx: ∀i,aq k (xs.getD i []))(sy: ∀i,aq m (ys.getD i [])){n:Nat}(hn:n≤32)(hk:k+m≤1000000000):
  Bl v xs ys n∧aq (n*(2*(k+m)+4)+1) (iF v xs ys n):=by
 obtain ⟨X,hX⟩: ∃X,X=2*(k+m)+4:=⟨_,rfl⟩;rw[← hX]
 have ind: ∀i,i≤n→aq (i*X+1) (iF v xs ys i)∧(i<n→rE v (xs.getD i []) (ys.getD i [])∧wD (iF v xs ys i) (fP v (xs.getD i []) (ys.getD i []))):=by
  have st: ∀i,i<n→aq (i*X+1) (iF v xs ys i)→(rE v (xs.getD i []) (ys.getD i [])∧wD (iF v xs ys i) (fP v (xs.getD i []) (ys.getD i [])))∧aq ((i+1)*X+1) (iF v xs ys (i+1)):=fun i hi h=>by
   obtain ⟨a1,a2,a3⟩:=L.mul (hx i) (sx i) (hy i) (sy i) (by omega);have hb:i*X≤32*X:=Nat.mul_le_mul_right _ (by omega);have e:(i+1)*X=i*X+X:=Nat.succ_mul i X;obtain ⟨b1,b2,b3⟩:=L.add (n9 L.V.a hx hy i) h a2 a3 (by omega);exact⟨⟨a1,b1⟩,b3.mono (by omega)⟩
  intro i hi
  induction i with
  | zero =>
    have s0:aq (0*X+1) (iF v xs ys 0):=bc (Nat.le_add_left _ _);exact⟨s0,fun h=>(st 0 h s0).1⟩
  | succ i ih =>
    have s1:=(st i (by omega) (ih (by omega)).1).2;exact⟨s1,fun h=>(st (i+1) h s1).1⟩
 exact⟨fun i hi=>(ind i (by omega)).2 hi,(ind n (Nat.le_refl n)).1⟩
def j5(a:br)(k:Nat):List NQ:=a.map fun r=>r.getD k []
theorem xd(a:br)(k:Nat):(j5 a k).length=a.length:=List.length_map ..
theorem iA(a:br)(k i:Nat):(j5 a k).getD i []=bY a i k:=zq a k i
def bw(v:List NQ)(a b:br):br:=a.map fun r=>(List.range (au b)).map fun k=>iF v r (j5 b k) r.length
theorem jo(v:List NQ)(a b:br):(bw v a b).length=a.length:=List.length_map ..
theorem tU(v:List NQ)(a b:br){i:Nat}(h:i<a.length):(bw v a b).getD i []=(List.range (au b)).map fun k=>iF v (a.getD i []) (j5 b k) (a.getD i []).length:=by
 unfold bw;rw[List.getD_eq_getElem?_getD,List.getElem?_map,List.getD_eq_getElem?_getD,List.getElem?_eq_getElem h];rfl
theorem rz(v:List NQ)(a b:br){i k:Nat}(h:i<a.length)(hk:k<au b):bY (bw v a b) i k=iF v (a.getD i []) (j5 b k) (a.getD i []).length:=by
 unfold bY;rw[tU v a b h,List.getD_eq_getElem?_getD,List.getElem?_map,List.getElem?_range hk];rfl
theorem mP(v:List NQ)(a b:br):bt (au b) (bw v a b):=fun i hi=>by
 rw[jo] at hi;rw[tU v a b hi,List.length_map,List.length_range]
theorem tV{p:NQ→Prop}(h0:p []){v:List NQ}{a b:br}(h: ∀i k,i<a.length→k<au b→p (iF v (a.getD i []) (j5 b k) (a.getD i []).length)): ∀i k,p (bY (bw v a b) i k):=fun i k=>by
 by_cases hi:i<a.length
 · by_cases hk:k<au b
   · rw[rz v a b hi hk];exact h i k hi hk
   · unfold bY;rw[lZ (by rw[mP v a b i (by rw[jo];exact hi)];omega)];exact h0
 · unfold bY;rw[l0 (by rw[jo];omega)];exact h0
theorem Bc{v:List NQ}(V:jH v){a b:br}(ha:kn v.length a)(hb:kn v.length b):kn v.length (bw v a b) :=
 tV (p:=ak v.length) (bn _) fun i k _ _=>n9 V (ha i) (fun j=>by rw[iA];exact hb j k) _
theorem tS{v:List NQ}(V:jH v)(F:FV v){a b:br}{N:Nat}(hr:bt N a)(ha:kn v.length a)(hb:kn v.length b){i k:Nat}(hi:i<a.length)(hk:k<au b):vM F (bw v a b) i k=sm N (fun j=>vM F a i j*vM F b j k):=by
 unfold vM;rw[rz v a b hi hk,xa V F (ha i) (fun j=>by rw[iA];exact hb j k),hr i hi];exact bD fun j _=>by rw[iA];rfl
section
variable {m0:Nat} {v:List NQ} (V:l8 m0 v) {a:br} (G:sK v a) {b:List NQ} (hb: ∀i,ak v.length (b.getD i []))
include V G hb
end
end Lift
namespace Lift
open Go Go.Proofs
abbrev xm(l:List Nat):D:= .sl 1 (l.map (fun c:Nat=>dI c))
theorem BK{l:List Nat}{i:Nat}(h:i<l.length):(l.map (fun c:Nat=>dI c))[i]?=some (dI (l.getD i 0)):=by simp[h]
def CB(l:List Nat)(x:Nat)(i:Nat):Bool:=decide ((x:Int)=(l.getD i 0:Nat))
def Gr(l:List Nat)(x:Nat):Int:=if gM (CB l x) (l.length-0) 0<l.length then (gM (CB l x) (l.length-0) 0:Nat) else -1
theorem Dn(l:List Nat)(x:Nat):decide (0≤Gr l x)=l.contains x:=by
 obtain ⟨h1,h2,h3,h4⟩:=pa (g:=CB l x) (m:=l.length-0) (i:=0);unfold Gr;by_cases h:gM (CB l x) (l.length-0) 0<l.length
 · rw[if_pos h,decide_eq_true (Int.natCast_nonneg _)];have:=h4 (by omega)
   have e:x=l.getD (gM (CB l x) (l.length-0) 0) 0:=by
    have:=of_decide_eq_true this;omega
   rw[e,List.getD_eq_getElem?_getD,List.getElem?_eq_getElem h];exact(List.contains_iff_mem.2 (List.getElem_mem h)).symm
 · rw[if_neg h,decide_eq_false (by decide)];refine(Bool.eq_false_iff.2 fun hc=>?_).symm;have hm:=List.contains_iff_mem.1 hc;obtain ⟨j,hj,e⟩:=List.getElem_of_mem hm;have:=h3 j (Nat.zero_le _) (by omega);unfold CB at this;rw[List.getD_eq_getElem?_getD,List.getElem?_eq_getElem hj] at this;have:=of_decide_eq_false this;exact this (by show (x:Int)=((l[j]:Nat):Int);rw[e])
theorem oB(bs:List Nat)(hl:bs.length≤1000000000000000)(x:Nat):Pure Tryz.prog 93 [xm bs,dI x] (dI (Gr bs x)):=by
 refine qJ 19 Tryz.func93 rfl rfl rfl rfl (by kernel_rfl) (fun B F0 w0=>?_);unfold Gr;generalize hE:gM (CB bs x) (bs.length-0) 0=E;refine qX 1 rfl ?_;refine qI ?_;refine qX 3 rfl ?_;rw[List.length_map];refine ab.nil ?_;refine AW.block ?_;refine AW.aE [0,1,7,8] (fun i:Nat=>[(0,.d (xm bs)),(1,.d (dI x)),(7,.d (dI bs.length)),(8,.d (dI i))]) (fun i=>i≤bs.length∧gM (CB bs x) (bs.length-i) i=E) (fun i=>bs.length-i) 0 rfl ⟨Nat.zero_le _,hE⟩ (fun i hi=>?_);obtain ⟨hi,hE⟩:=hi
 · skip
   refine qX 1 rfl ?_;refine qI ?_;refine AW.cond rfl (fun h=>?_) (fun h=>?_)
   · have hin:i<bs.length:=by have:=of_decide_eq_true h;omega
     have hhit:=wX (g:=CB bs x) hin;have hmiss:=ud (g:=CB bs x) hin;refine AW.skip (AW.seq (AW.block ?_));refine qX 2 rfl ?_;refine qK 3 rfl ?_;refine ab.idx tok (dI (bs.getD i 0)) rfl rfl rfl rfl (Int.natCast_nonneg i) (BK hin) ?_;refine qU 2 rfl ?_;refine ab.nil ?_;refine AW.cond rfl (fun h=>?_) (fun h=>?_)
     · have e:E=i:=hE.symm.trans (hhit h);rw[e,if_pos hin];refine qX 2 rfl ?_;exact qN rfl
     · skip
       refine AW.skip ?_;refine qT 1 rfl ?_;rw[aD (x:=(i:Int)+1) (by omega) (by omega)];refine qU 1 rfl ?_;refine ab.nil ?_;exact⟨i+1,rfl,⟨hin,by rw[← hmiss h];exact hE⟩,by omega⟩
   have hin: ¬i<bs.length:=by have:=of_decide_eq_false h;omega
   have e:E=i:=by rw[← hE,wY hin]
   rw[e,if_neg hin];refine AW.exit ?_;refine qX 1 rfl ?_;exact qN rfl
theorem me(bs:List Nat)(hl:bs.length≤1000000000000000)(x:Nat):Pure Tryz.prog 50 [xm bs,dI x] (dB (bs.contains x)):=by
 refine qJ 9 Tryz.func50 rfl rfl rfl rfl (by kernel_rfl) (fun B F0 w0=>?_);rw[← Dn];refine qX 1 rfl ?_;refine qK 2 rfl ?_;refine ab.call tok rfl rfl rfl rfl (oB bs hl x) ?_;refine qU 2 rfl ?_;exact qN rfl
theorem qV{α:Type}{d:α}{l:List α}{i:Nat}(h:i<l.length):l.take (i+1)=l.take i++[l.getD i d]:=by
 rw[List.take_succ_eq_append_getElem h,List.getD_eq_getElem?_getD,List.getElem?_eq_getElem h];rfl
theorem jt(a:br)(k:Nat)(ha:a.length≤1000000)(hr: ∀i,i<a.length→k<(a.getD i []).length):Pure Tryz.prog 59 [eO a,dI k] (eM (j5 a k)):=by
 refine qJ 23 Tryz.func59 rfl rfl rfl rfl (by kernel_rfl) (fun B F0 w0=>?_);have hc:=xd a k
 have hts: ∀i,i<a.length→(j5 a k).take (i+1)=(j5 a k).take i++[(a.getD i []).getD k []]:=fun i hi=>by
  rw[qV (d:=[]) (by omega),iA];rfl
 have hta:(j5 a k).take a.length=j5 a k:=List.take_of_length_le (by omega);generalize j5 a k=zs at *;refine qX 1 rfl ?_;refine qK 1 rfl ?_;refine qI ?_;refine qX 3 rfl ?_;rw[List.length_map];refine ab.nil ?_;refine AW.block ?_;refine AW.aE [0,1,5,8,9,10] (fun i:Nat=>[(0,.d (eO a)),(1,.d (dI k)),(5,.ow 53 ((zs.take i).map af)),(8,.d (eO a)),(9,.d (dI a.length)),(10,.d (dI i))]) (fun i=>i≤a.length) (fun i=>a.length-i) 0 rfl (Nat.zero_le _) (fun i hi=>?_)
 · show AW _ _ _ _ _ _ _ [(0,.d (eO a)),(1,.d (dI k)),(5,.ow 53 ((zs.take i).map af)),(8,.d (eO a)),(9,.d (dI a.length)),(10,.d (dI i))];refine qX 1 rfl ?_;refine qI ?_;refine AW.cond rfl (fun h=>?_) (fun h=>?_)
   · have hii:i<a.length:=by have:=of_decide_eq_true h;omega
     have g1:=getM eM (l:=a) (i:=i) hii;have g2:=getM af (l:=a.getD i []) (i:=k) (hr i hii);have hts:=hts i hii;generalize a.getD i []=r at g1 g2 hts;generalize r.getD k []=x at g2 hts;refine AW.skip (AW.seq (AW.block (AW.seq (AW.region ?_))));refine ab.idx tok (eM r) rfl rfl rfl rfl (Int.natCast_nonneg i) g1 ?_;refine qU 2 rfl ?_;refine ab.nil ?_;refine qT 3 rfl ?_;refine ab.idx tok (af x) rfl rfl rfl rfl (Int.natCast_nonneg k) g2 ?_;refine qU 1 rfl ?_;refine ab.fI tok rfl rfl rfl rfl rfl ?_;refine ab.kt tok rfl rfl rfl rfl rfl rfl (by rw[List.length_map,List.length_take];show (_+1)*24≤_;omega) (by rw[List.length_map,List.length_take];show _+1≤_;omega) ?_;refine qU 1 rfl ?_;refine ab.nil ?_;refine qT 1 rfl ?_;rw[aD (x:=(i:Int)+1) (by omega) (by omega)];refine qU 1 rfl ?_;refine ab.nil ?_;exact⟨i+1,by rw[hts,List.map_append];rfl,hii,by omega⟩
   have hii:i=a.length:=by have:=of_decide_eq_false h;omega
   subst hii;rw[hta];refine AW.exit (AW.seq (AW.region ?_));refine ab.gk tok 5 rfl rfl ?_;refine qU 2 rfl ?_;exact qN rfl
theorem zG(a:br){k:Nat}(h:k<au a):(cD a).getD k []=j5 a k:=lL a h
theorem oU(a:br)(ha:a.length≤1000000)(hc:au a≤1000000)(hr:bt (au a) a):Pure Tryz.prog 92 [eO a] (eO (cD a)):=by
 refine qJ 18 Tryz.func92 rfl rfl rfl rfl (by kernel_rfl) (fun B F0 w0=>?_);have hz:=gU a
 have hts: ∀k,k<au a→(cD a).take (k+1)=(cD a).take k++[j5 a k]:=fun k hk=>by
  rw[qV (d:=[]) (by omega),zG a hk]
 have hta:(cD a).take (au a)=cD a:=List.take_of_length_le (by omega);have cc:=fun k (hk:k<au a)=>jt a k ha (fun i hi=>by rw[hr i hi];exact hk);generalize cD a=zs at *;refine qX 1 rfl ?_;refine qK 1 rfl ?_;refine qI ?_;refine qX 1 rfl ?_;refine ab.call tok rfl rfl rfl rfl (cL a) ?_;refine qU 1 rfl ?_;refine ab.nil ?_;refine AW.block ?_;refine AW.aE [0,3,6,7] (fun i:Nat=>[(0,.d (eO a)),(3,.ow 22 ((zs.take i).map eM)),(6,.d (dI (au a))),(7,.d (dI i))]) (fun i=>i≤au a) (fun i=>au a-i) 0 rfl (Nat.zero_le _) (fun i hi=>?_)
 · show AW _ _ _ _ _ _ _ [(0,.d (eO a)),(3,.ow 22 ((zs.take i).map eM)),(6,.d (dI (au a))),(7,.d (dI i))];refine qX 1 rfl ?_;refine qI ?_;refine AW.cond rfl (fun h=>?_) (fun h=>?_)
   · have hii:i<au a:=by have:=of_decide_eq_true h;omega
     have cc:=cc i hii;have hts:=hts i hii;generalize j5 a i=z at cc hts;refine AW.skip (AW.seq (AW.block ?_));refine qX 2 rfl ?_;refine ab.nil ?_;refine qT 3 rfl ?_;refine ab.call tok rfl rfl rfl rfl cc ?_;refine ab.fI tok rfl rfl rfl rfl rfl ?_;refine ab.kt tok rfl rfl rfl rfl rfl rfl (by rw[List.length_map,List.length_take];show (_+1)*24≤_;omega) (by rw[List.length_map,List.length_take];show _+1≤_;omega) ?_;refine qU 1 rfl ?_;refine ab.nil ?_;refine qT 1 rfl ?_;rw[aD (x:=(i:Int)+1) (by omega) (by omega)];refine qU 1 rfl ?_;refine ab.nil ?_;exact⟨i+1,by rw[hts,List.map_append];rfl,hii,by omega⟩
   have hii:i=au a:=by have:=of_decide_eq_false h;omega
   subst hii;rw[hta];refine AW.exit (AW.seq (AW.region ?_));refine ab.gk tok 3 rfl rfl ?_;refine qU 2 rfl ?_;exact qN rfl
theorem kp{v:List NQ}{a:br}(V:jH v)(G:sK v a)(ok: ∀c,c<a.length→lE v (aH v (cD a) c) c):Pure Tryz.prog 49 [bF v,eO a] (.tu [xm (aH v (cD a) a.length).cols,aj]):=by
 refine qJ 20 Tryz.func49 rfl rfl rfl rfl (by kernel_rfl) (fun B F0 w0=>?_);have hGl:=G.l;have hGc:=G.c;have ct:=oU a (by omega) (by omega) G.r;have cr:=il V (most:=a.length) (by rw[gU];omega) (by omega) (Nat.le_refl _) (jL a) (ns G.lt) ok;generalize aH v (cD a) a.length=s at *;generalize cD a=z at *;refine qX 3 rfl ?_;refine qI ?_;refine AW.n8 tok aP [(8,true),(1,false),(1,true)] 10 [6] (by kernel_rfl) ⟨rfl,?_⟩;refine qP 2 rfl ?_;refine ae.call tok rfl rfl rfl rfl rfl ct ?_;refine qP 2 rfl ?_;rw[List.length_map];refine ae.call tok rfl rfl rfl rfl rfl cr ?_;refine qP 2 rfl ?_;refine ae.nil ⟨rfl,?_⟩;refine qP 1 rfl ?_;refine ae.nil ⟨rfl,?_⟩;refine qP 1 rfl ?_;refine ae.nil ⟨_,oq.cons (.bx rfl) (oq.nil),?_⟩;refine qU 1 rfl ?_;refine qK 5 rfl ?_;exact qN rfl
theorem mg{m:Nat}{v:List NQ}{a:br}(V:l8 m v)(hk:nM v.length m)(G:sK v a)(hs: ∀i k,aq m (bY a i k))(ok: ∀c,c<a.length→lE v (aH v (cD a) c) c):Pure Tryz.prog 15 [bF v,eO a] (.tu [xm (wi v a),aj]):=by
 refine qJ 41 Tryz.func15 rfl rfl rfl rfl (by kernel_rfl) (fun B F0 w0=>?_);obtain ⟨r1,r2⟩:=G.raw V hs;have cc:=eK (V.s hk) r1;rw[r2,kK,rh] at cc;have hGl:=G.l;have ci:=kp V.a G ok;have hcl:=(eQ V.a (jL a) (ns G.lt) a.length).cl;unfold wi n0;generalize aH v (cD a) a.length=s at *
 have hf: ∀i,((List.range (i+1)).filter fun i=> !s.cols.contains i)=((List.range i).filter fun i=> !s.cols.contains i)++(if s.cols.contains i then [] else [i]):=fun i=>by
  rw[List.range_succ,List.filter_append]
  congr 1
  by_cases h:s.cols.contains i=true
  · rw[if_pos h,List.filter_cons_of_neg (by rw[h];simp)];rfl
  · rw[if_neg h,List.filter_cons_of_pos (by simp only[Bool.not_eq_true] at h;rw[h];rfl)];rfl
 have hfl: ∀i,((List.range i).filter fun i=> !s.cols.contains i).length≤i:=fun i=>Nat.le_trans (List.length_filter_le ..) (by rw[List.length_range];exact Nat.le_refl _);refine qX 3 rfl ?_;refine qI ?_;refine qX 2 rfl ?_;refine ab.call tok rfl rfl rfl rfl cc ?_;refine qU 1 rfl ?_;refine qK 1 rfl ?_;refine ab.err tok rfl rfl rfl rfl rfl ?_;refine ab.nil ?_;refine AW.ay rfl ?_
 · skip
   refine AW.skip ?_;refine qX 2 rfl ?_;refine ab.call tok rfl rfl rfl rfl ci ?_;refine qU 5 rfl ?_;refine qI ?_;refine qX 1 rfl ?_;refine ab.err tok rfl rfl rfl rfl rfl ?_;refine ab.nil ?_;refine AW.ay rfl ?_
   · skip
     refine AW.skip ?_;refine qX 1 rfl ?_;refine qI ?_;refine qX 2 rfl ?_;rw[List.length_map];refine qU 1 rfl ?_;refine ab.nil ?_;refine AW.block ?_;refine AW.aE [7,9,27,28] (fun i:Nat=>[(7,.d (xm s.cols)),(9,.ow 3 (((List.range i).filter fun i=> !s.cols.contains i).map (fun c:Nat=>dI c))),(27,.d (dI a.length)),(28,.d (dI i))]) (fun i=>i≤a.length) (fun i=>a.length-i) 0 rfl (Nat.zero_le _) (fun i hi=>?_)
     · show AW _ _ _ _ _ _ _ [(7,.d (xm s.cols)),(9,.ow 3 (((List.range i).filter fun i=> !s.cols.contains i).map (fun c:Nat=>dI c))),(27,.d (dI a.length)),(28,.d (dI i))];refine qX 1 rfl ?_;refine qI ?_;refine AW.cond rfl (fun h=>?_) (fun h=>?_)
       · have hii:i<a.length:=by have:=of_decide_eq_true h;omega
         have hf:=hf i;have hfl:=hfl i;have ch:=me s.cols (by omega) i;generalize s.cols.contains i=b at hf ch;refine AW.skip (AW.seq (AW.block ?_));refine qX 2 rfl ?_;refine qK 2 rfl ?_;refine ab.call tok rfl rfl rfl rfl ch ?_;refine qU 1 rfl ?_;refine ab.nil ?_;refine AW.cond rfl (fun h=>?_) (fun h=>?_)
         · rw[show b=false by cases b;rfl;cases h] at hf;refine qT 2 rfl ?_;refine ab.fI tok rfl rfl rfl rfl rfl ?_;refine ab.kt tok rfl rfl rfl rfl rfl rfl (by rw[List.length_map];show (_+1)*8≤_;omega) (by rw[List.length_map];show _+1≤_;omega) ?_;refine qU 1 rfl ?_;refine ab.nil ?_;refine qT 1 rfl ?_;rw[aD (x:=(i:Int)+1) (by omega) (by omega)];refine qU 1 rfl ?_;refine ab.nil ?_;exact⟨i+1,by rw[hf,if_neg (by decide),List.map_append];rfl,hii,by omega⟩
         · rw[show b=true by cases b;cases h;rfl] at hf;refine AW.skip ?_;refine qT 1 rfl ?_;rw[aD (x:=(i:Int)+1) (by omega) (by omega)];refine qU 1 rfl ?_;refine ab.nil ?_;exact⟨i+1,by rw[hf,if_pos rfl,List.append_nil];rfl,hii,by omega⟩
       have hii:i=a.length:=by have:=of_decide_eq_false h;omega
       subst hii;refine AW.exit (AW.seq (AW.region ?_));refine ab.gk tok 9 rfl rfl ?_;refine qU 3 rfl ?_;exact qN rfl
end Lift
namespace Lift
open Go Go.Proofs
section
variable {P:Program} {T:Ty} {B:Nat} {F0:Nat→Prop} {w0:bW} {n:Nat} {σ:St} {all:Array Oper} {rest:List Oper} {o:Oper} {d:Nat} {K:St→Prop}
end
end Lift
namespace Lift
open Go Go.Proofs
def gN(v:List NQ)(a:br):NQ:=if (aH v a a.length).cols.length<a.length then [] else if (aH v a a.length).sg<0 then Bp (aH v a a.length).det else (aH v a a.length).det
theorem s7{v:List NQ}{a:br}(V:jH v)(ha:a.length≤1000000)(hr:bt a.length a)(hl:kn v.length a)(ok: ∀c,c<a.length→lE v (aH v a c) c)(hd:kv (aH v a a.length).det):Pure Tryz.prog 60 [bF v,eO a] (.tu [af (gN v a),aj]):=by
 refine qJ 38 Tryz.func60 rfl rfl rfl rfl (by kernel_rfl) (fun B F0 w0=>?_);have cr:=il V (most:=a.length) ha ha (Nat.le_refl _) hr hl ok;have R:=eQ V hr hl a.length;have cn:=xA V R.det hd;have hcm:=R.cm;unfold gN;generalize aH v a a.length=s at *;obtain ⟨rows,cols,sg,det⟩:=s;clear R
 dsimp only at hcm cn ⊢
 change Pure _ _ _ (.tu [.ag [eO rows,xm cols,dI sg,af det],aj]) at cr;refine qX 3 rfl ?_;refine qK 4 rfl ?_;rw[List.length_map];refine ab.call tok rfl rfl rfl rfl cr ?_;refine qU 6 rfl ?_;refine qI ?_;refine qX 1 rfl ?_;refine ab.err tok rfl rfl rfl rfl rfl ?_;refine qU 3 rfl ?_;refine qU 1 rfl ?_;rw[List.length_map];refine qU 2 rfl ?_;rw[List.length_map];refine qU 2 rfl ?_;refine ab.nil ?_;refine AW.cond rfl (fun h=>?_) (fun h=>?_)
 · have hc:cols.length<a.length:=by have:=of_decide_eq_true h;omega
   rw[if_pos hc];refine qX 3 rfl ?_;exact qN rfl
 · have hc: ¬cols.length<a.length:=by have:=of_decide_eq_false h;omega
   rw[if_neg hc];refine AW.skip (AW.seq ?_);refine qX 3 rfl ?_;refine ab.nil ?_;refine AW.cond rfl (fun h=>?_) (fun h=>?_)
   · have hs:sg<0:=of_decide_eq_true h;rw[if_pos hs];refine qX 3 rfl ?_;refine ab.call tok rfl rfl rfl rfl cn ?_;refine qU 4 rfl ?_;exact qN rfl
   · have hs: ¬sg<0:=of_decide_eq_false h;rw[if_neg hs];refine AW.skip ?_;refine qX 4 rfl ?_;exact qN rfl
theorem f'{v:List NQ}{a:br}(cc:Pure Tryz.prog 20 [bF v,eO a] aj)(hsq:au a=a.length)(cd:Pure Tryz.prog 60 [bF v,eO a] (.tu [af (gN v a),aj])):Pure Tryz.prog 27 [bF v,eO a] (.tu [af (gN v a),aj]):=by
 refine qJ 24 Tryz.func27 rfl rfl rfl rfl (by kernel_rfl) (fun B F0 w0=>?_);generalize gN v a=d at *;refine qX 3 rfl ?_;refine qI ?_;refine qX 2 rfl ?_;refine ab.call tok rfl rfl rfl rfl cc ?_;refine qU 1 rfl ?_;refine qK 1 rfl ?_;refine ab.err tok rfl rfl rfl rfl rfl ?_;refine ab.nil ?_;refine AW.ay rfl ?_
 · skip
   refine AW.skip (AW.seq ?_);refine qX 1 rfl ?_;refine ab.call tok rfl rfl rfl rfl (cL a) ?_;refine qU 2 rfl ?_;rw[List.length_map];refine qU 1 rfl ?_;rw[hsq,bne_eq_false_iff_eq.2 rfl];refine ab.nil ?_;refine AW.ay rfl ?_
   · skip
     refine AW.skip ?_;refine qX 2 rfl ?_;refine ab.call tok rfl rfl rfl rfl cd ?_;refine qU 4 rfl ?_;exact qN rfl
theorem s6{v:List NQ}{xs ys:List NQ}(V:jH v)(hx: ∀i,ak v.length (xs.getD i []))(hy: ∀i,ak v.length (ys.getD i []))(hl:xs.length≤ys.length)(hl1:xs.length≤1000000)(ok:Bl v xs ys xs.length):Pure Tryz.prog 58 [bF v,eM xs,eM ys] (.tu [af (iF v xs ys xs.length),aj]):=by
 refine qJ 45 Tryz.func58 rfl rfl rfl rfl (by kernel_rfl) (fun B F0 w0=>?_);have h0:iF v xs ys 0=[]:=rfl;have hs: ∀i,iF v xs ys (i+1)=vH (iF v xs ys i) (fP v (xs.getD i []) (ys.getD i [])):=fun i=>rfl;have cm:=fun i (hi:i<xs.length)=>jN V (hx i) (hy i) (ok i hi).1;have ca:=fun i (hi:i<xs.length)=>xD V (n9 V hx hy i) (jW V (hx i) (hy i)) (ok i hi).2;clear ok;generalize iF v xs ys=f at *;refine qX 3 rfl ?_;refine qK 1 rfl ?_;refine qI (AW.seq (AW.region ?_));refine ab.gk tok 8 rfl rfl ?_;refine qU 2 rfl ?_;rw[List.length_map];refine qU 1 rfl ?_;refine ab.nil ?_;refine AW.block ?_;refine AW.aE [1,2,3,8,13,14] (fun i:Nat=>[(1,.d (eM xs)),(2,.d (eM ys)),(3,.bx [.sl 1 (v.map af)]),(8,.d (af (f i))),(13,.d (dI xs.length)),(14,.d (dI i))]) (fun i=>i≤xs.length) (fun i=>xs.length-i) 0 (by rw[h0];rfl) (Nat.zero_le _) (fun i hi=>?_)
 · show AW _ _ _ _ _ _ _ [(1,.d (eM xs)),(2,.d (eM ys)),(3,.bx [.sl 1 (v.map af)]),(8,.d (af (f i))),(13,.d (dI xs.length)),(14,.d (dI i))];refine qX 1 rfl ?_;refine qI ?_;refine AW.cond rfl (fun h=>?_) (fun h=>?_)
   · have hii:i<xs.length:=by have:=of_decide_eq_true h;omega
     have gx:=getM af (l:=xs) (i:=i) hii;have gy:=getM af (l:=ys) (i:=i) (by omega);have cm:=cm i hii;have ca:=ca i hii;have hs:=hs i;generalize xs.getD i []=x at gx cm ca hs;generalize ys.getD i []=y at gy cm ca hs;generalize fP v x y=p at *;refine AW.skip (AW.seq (AW.block ?_));refine qX 2 rfl ?_;refine qI ?_;refine AW.draw aP 14 (by kernel_rfl) ?_;refine qP 3 rfl ?_;refine ae.idx tok (af x) rfl rfl rfl rfl rfl (Int.natCast_nonneg i) gx ?_;refine qP 3 rfl ?_;refine ae.idx tok (af y) rfl rfl rfl rfl rfl (Int.natCast_nonneg i) gy ?_;refine qP 1 rfl ?_;refine ae.call tok rfl rfl rfl rfl rfl cm ?_;refine qP 4 rfl ?_;refine ae.nil ?_;refine qU 1 rfl ?_;refine qI ?_;refine qX 1 rfl ?_;refine ab.err tok rfl rfl rfl rfl rfl ?_;refine ab.nil ?_;refine AW.ay rfl ?_
     · skip
       refine AW.skip ?_;refine qX 3 rfl ?_;refine ab.call tok rfl rfl rfl rfl ca ?_;refine qU 5 rfl ?_;refine qK 1 rfl ?_;refine ab.err tok rfl rfl rfl rfl rfl ?_;refine ab.nil ?_;refine AW.ay rfl ?_
       · skip
         refine AW.skip ?_;refine qT 1 rfl ?_;rw[aD (x:=(i:Int)+1) (by omega) (by omega)];refine qU 1 rfl ?_;refine ab.nil ?_;exact⟨i+1,by rw[hs];rfl,hii,by omega⟩
   have hii:i=xs.length:=by have:=of_decide_eq_false h;omega
   subst hii;refine AW.exit ?_;refine qX 3 rfl ?_;exact qN rfl
theorem s8{v:List NQ}{a b:br}(V:jH v)(cc:Pure Tryz.prog 20 [bF v,eO a] aj)(cb:Pure Tryz.prog 55 [bF v,eO b] aj)(ha:a.length≤1000000)(hra:bt (au a) a)(hla:kn v.length a)(hc:au a≤1000000)(hb:b.length=au a)(hrb:bt (au b) b)(hcb:au b≤1000000)(hlb:kn v.length b)
  (ok: ∀i k,i<a.length→k<au b→Bl v (a.getD i []) (j5 b k) (au a)):Pure Tryz.prog 26 [bF v,eO a,eO b] (.tu [eO (bw v a b),aj]):=by
 refine qJ 69 Tryz.func26 rfl rfl rfl rfl (by kernel_rfl) (fun B F0 w0=>?_);have hz:=jo v a b;have hzr:=mP v a b;have cd:=fun i k (hi:i<a.length) (hk:k<au b)=>s6 V (hla i) (fun j=>by rw[iA];exact hlb j k) (by rw[hra i hi,xd];omega) (by rw[hra i hi];exact hc) (by rw[hra i hi];exact ok i k hi hk);have cl:=fun k (hk:k<au b)=>jt b k (by omega) (fun j hj=>by rw[hrb j hj];exact hk);have hts: ∀i,i<a.length→(bw v a b).take (i+1)=(bw v a b).take i++[(bw v a b).getD i []]:=fun i hi=>qV (by omega)
 have htr: ∀i k,i<a.length→k<au b→((bw v a b).getD i []).take (k+1)=((bw v a b).getD i []).take k++[iF v (a.getD i []) (j5 b k) (a.getD i []).length]:=fun i k hi hk=>by
  rw[qV (d:=[]) (by rw[hzr i (by omega)];exact hk),← rz v a b hi hk];rfl
 have hta:(bw v a b).take a.length=bw v a b:=List.take_of_length_le (by omega);have hra': ∀i,i<a.length→((bw v a b).getD i []).take (au b)=(bw v a b).getD i []:=fun i hi=>List.take_of_length_le (by rw[hzr i (by omega)];exact Nat.le_refl _);have hrl: ∀i,i<a.length→((bw v a b).getD i []).length=au b:=fun i hi=>hzr i (by omega);clear hzr ok;generalize bw v a b=zs at *;refine qX 3 rfl ?_;refine qI ?_;refine qX 2 rfl ?_;refine ab.call tok rfl rfl rfl rfl cc ?_;refine qU 1 rfl ?_;refine qK 1 rfl ?_;refine ab.err tok rfl rfl rfl rfl rfl ?_;refine ab.nil ?_;refine AW.ay rfl ?_
 · skip
   refine AW.skip (AW.seq ?_);refine qX 2 rfl ?_;refine ab.call tok rfl rfl rfl rfl cb ?_;refine qU 1 rfl ?_;refine qK 1 rfl ?_;refine ab.err tok rfl rfl rfl rfl rfl ?_;refine ab.nil ?_;refine AW.ay rfl ?_
   · skip
     refine AW.skip (AW.seq ?_);refine qX 1 rfl ?_;refine ab.call tok rfl rfl rfl rfl (cL a) ?_;refine qU 2 rfl ?_;rw[List.length_map];refine qU 1 rfl ?_;rw[hb,bne_eq_false_iff_eq.2 rfl];refine ab.nil ?_;refine AW.ay rfl ?_
     · skip
       refine AW.skip ?_;refine qX 1 rfl ?_;refine qI ?_;refine qX 2 rfl ?_;rw[List.length_map];refine qU 1 rfl ?_;refine ab.nil ?_;refine AW.block ?_;refine AW.aE [2,3,10,35,36,37] (fun i:Nat=>[(2,.d (eO b)),(3,.bx [.sl 1 (v.map af)]),(10,.ow 22 ((zs.take i).map eM)),(35,.d (eO a)),(36,.d (dI a.length)),(37,.d (dI i))]) (fun i=>i≤a.length) (fun i=>a.length-i) 0 rfl (Nat.zero_le _) (fun i hi=>?_)
       · show AW _ _ _ _ _ _ _ [(2,.d (eO b)),(3,.bx [.sl 1 (v.map af)]),(10,.ow 22 ((zs.take i).map eM)),(35,.d (eO a)),(36,.d (dI a.length)),(37,.d (dI i))];refine qX 1 rfl ?_;refine qI ?_;refine AW.cond rfl (fun h=>?_) (fun h=>?_)
         · have hii:i<a.length:=by have:=of_decide_eq_true h;omega
           have g1:=getM eM (l:=a) (i:=i) hii;have cd:=fun k=>cd i k hii;have hts:=hts i hii;have htr:=fun k=>htr i k hii;have hra':=hra' i hii;have hrl:=hrl i hii;generalize a.getD i []=r at g1 cd htr;generalize zs.getD i []=z at *;refine AW.skip (AW.seq (AW.block (AW.seq (AW.region ?_))));refine ab.idx tok (eM r) rfl rfl rfl rfl (Int.natCast_nonneg i) g1 ?_;refine qU 2 rfl ?_;refine qK 1 rfl ?_;refine qI ?_;refine qX 1 rfl ?_;refine ab.call tok rfl rfl rfl rfl (cL b) ?_;refine qU 1 rfl ?_;refine ab.nil ?_;refine AW.block ?_;refine AW.aE [2,3,10,12,13,35,36,37,42,43] (fun k:Nat=>[(2,.d (eO b)),(3,.bx [.sl 1 (v.map af)]),(10,.ow 22 ((zs.take i).map eM)),(12,.d (eM r)),(13,.ow 53 ((z.take k).map af)),(35,.d (eO a)),(36,.d (dI a.length)),(37,.d (dI i)),(42,.d (dI (au b))),(43,.d (dI k))]) (fun k=>k≤au b) (fun k=>au b-k) 0 rfl (Nat.zero_le _) (fun k hk=>?_)
           · show AW _ _ _ _ _ _ _ [(2,.d (eO b)),(3,.bx [.sl 1 (v.map af)]),(10,.ow 22 ((zs.take i).map eM)),(12,.d (eM r)),(13,.ow 53 ((z.take k).map af)),(35,.d (eO a)),(36,.d (dI a.length)),(37,.d (dI i)),(42,.d (dI (au b))),(43,.d (dI k))];refine qX 1 rfl ?_;refine qI ?_;refine AW.cond rfl (fun h=>?_) (fun h=>?_)
             · have hkk:k<au b:=by have:=of_decide_eq_true h;omega
               have cd:=cd k hkk;have cl:=cl k hkk;have htr:=htr k hkk;generalize iF v r (j5 b k) r.length=x at cd htr;generalize j5 b k=cb' at cd cl;refine AW.skip (AW.seq (AW.block ?_));refine qX 2 rfl ?_;refine qI ?_;refine AW.draw aP 10 (by kernel_rfl) ?_;refine qP 4 rfl ?_;refine ae.call tok rfl rfl rfl rfl rfl cl ?_;refine ae.call tok rfl rfl rfl rfl rfl cd ?_;refine qP 4 rfl ?_;refine ae.nil ?_;refine qU 1 rfl ?_;refine qI ?_;refine qX 1 rfl ?_;refine ab.err tok rfl rfl rfl rfl rfl ?_;refine ab.nil ?_;refine AW.ay rfl ?_
               · skip
                 refine AW.skip ?_;refine qT 2 rfl ?_;refine ab.fI tok rfl rfl rfl rfl rfl ?_;refine ab.kt tok rfl rfl rfl rfl rfl rfl (by rw[List.length_map,List.length_take];show (_+1)*24≤_;omega) (by rw[List.length_map,List.length_take];show _+1≤_;omega) ?_;refine qU 1 rfl ?_;refine ab.nil ?_;refine qT 1 rfl ?_;rw[aD (x:=(k:Int)+1) (by omega) (by omega)];refine qU 1 rfl ?_;refine ab.nil ?_;exact⟨k+1,by rw[htr,List.map_append];rfl,hkk,by omega⟩
             have hkk:k=au b:=by have:=of_decide_eq_false h;omega
             subst hkk;rw[hra'];refine AW.exit (AW.region ?_);refine ab.gk tok 13 rfl rfl ?_;refine qU 2 rfl ?_;refine ab.fI tok rfl rfl rfl rfl rfl ?_;refine ab.kt tok rfl rfl rfl rfl rfl rfl (by rw[List.length_map,List.length_take];show (_+1)*24≤_;omega) (by rw[List.length_map,List.length_take];show _+1≤_;omega) ?_;refine qU 1 rfl ?_;refine ab.nil ?_;refine qT 1 rfl ?_;rw[aD (x:=(i:Int)+1) (by omega) (by omega)];refine qU 1 rfl ?_;refine ab.nil ?_;exact⟨i+1,by rw[hts,List.map_append];rfl,hii,by omega⟩
         have hii:i=a.length:=by have:=of_decide_eq_false h;omega
         subst hii;rw[hta];refine AW.exit (AW.seq (AW.region ?_));refine ab.gk tok 10 rfl rfl ?_;refine qU 3 rfl ?_;exact qN rfl
end Lift
namespace Lift
open Go Go.Proofs
theorem wk{rt b:List (List RD)}(hbl:b.length≤1000000)(hbn: ∀i,Pure Tryz.prog 37 [dI rt.length,cY (b.getD i [])] (dI (bB rt.length (b.getD i [])))):
  Pure Tryz.prog 70 [TrD rt,lD b] (dI (fE (fun i=>bB rt.length (b.getD i [])) (b.length-0) 0)):=by
 refine qJ 23 Tryz.func70 rfl rfl rfl rfl (by kernel_rfl) (fun B F0 w0=>?_);obtain ⟨E,hE⟩: ∃E,fE (fun i=>bB rt.length (b.getD i [])) (b.length-0) 0=E:=⟨_,rfl⟩;rw[hE];refine qX 2 rfl ?_;refine qI ?_;refine qX 2 rfl ?_;rw[List.length_map];refine qU 1 rfl ?_;refine ab.nil ?_;refine AW.block ?_;refine AW.aE [2,8,9,10] (fun i:Nat=>[(2,.bx [.sl 1 (rt.map cY)]),(8,.d (lD b)),(9,.d (dI b.length)),(10,.d (dI i))]) (fun i=>i≤b.length∧fE (fun i=>bB rt.length (b.getD i [])) (b.length-i) i=E) (fun i=>b.length-i) 0 rfl ⟨Nat.zero_le _,hE⟩ (fun i ⟨hi,hiE⟩=>?_)
 · show AW _ _ _ _ _ _ _ [(2,.bx [.sl 1 (rt.map cY)]),(8,.d (lD b)),(9,.d (dI b.length)),(10,.d (dI i))];refine qX 1 rfl ?_;refine qI ?_;refine AW.cond rfl (fun h=>?_) (fun h=>?_)
   · have hii:i<b.length:=by have:=of_decide_eq_true h;omega
     have g1:=getM cY (l:=b) (i:=i) hii;have cn:=hbn i;have hmiss:=fun h0:bB rt.length (b.getD i [])=0=>(ga (f:=fun i=>bB rt.length (b.getD i [])) hii h0).symm.trans hiE;have hhit:=fun h0:bB rt.length (b.getD i [])≠0=>(jd (f:=fun i=>bB rt.length (b.getD i [])) hii h0).symm.trans hiE;refine AW.skip (AW.seq (AW.block (AW.seq (AW.region ?_))));refine ab.idx tok (cY (b.getD i [])) rfl rfl rfl rfl (Int.natCast_nonneg i) g1 ?_;refine qU 2 rfl ?_;refine qK 3 rfl ?_;rw[List.length_map];refine qU 1 rfl ?_;refine ab.call tok rfl rfl rfl rfl cn ?_;refine qU 1 rfl ?_;refine qK 2 rfl ?_;refine ab.nil ?_;generalize bB rt.length (b.getD i [])=e at *;refine AW.cond rfl (fun h=>?_) (fun h=>?_)
     · have he:e≠0:=by have:=bne_iff_ne.1 h;omega
       rw[← hhit he];refine qX 2 rfl ?_;exact qN rfl
     · have he:e=0:=by have:=bne_eq_false_iff_eq.1 h;omega
       refine AW.skip ?_;refine qT 1 rfl ?_;rw[aD (x:=(i:Int)+1) (by omega) (by omega)];refine qU 1 rfl ?_;refine ab.nil ?_;exact⟨i+1,rfl,⟨hii,hmiss he⟩,by omega⟩
   have hii: ¬i<b.length:=by have:=of_decide_eq_false h;omega
   rw[je hii] at hiE;subst hiE;refine AW.exit ?_;refine qX 1 rfl ?_;exact qN rfl
theorem wc{rt:List (List RD)}(h0:cO rt=0)(r:List (List RD)):iY rt r=fE (fun i=>bB rt.length (r.getD i [])) (r.length-0) 0:=by
 unfold iY;rw[show (fun k=>oc rt [r.getD k []])=fun i=>bB rt.length (r.getD i []) from funext fun k=>DI h0 _]
theorem uQ{rt:List (List RD)}{a:List (List (List RD))}(h0:cO rt=0)(hal:a.length≤1000000)(har: ∀i,(a.getD i []).length≤1000000)(hbn: ∀i k,Pure Tryz.prog 37 [dI rt.length,cY ((a.getD i []).getD k [])] (dI (bB rt.length ((a.getD i []).getD k [])))):
  Pure Tryz.prog 57 [TrD rt,MxR a] (dI (rM rt a)):=by
 refine qJ 52 Tryz.func57 rfl rfl rfl rfl (by kernel_rfl) (fun B F0 w0=>?_);unfold rM;obtain ⟨E,hE⟩: ∃E,fE (tN a) (a.length-0) 0=E:=⟨_,rfl⟩;obtain ⟨G,hG⟩: ∃G,fE (fun i=>iY rt (a.getD i [])) (a.length-0) 0=G:=⟨_,rfl⟩;rw[hE,hG];have hc0:au a=(a.getD 0 []).length:=rfl;have hcl:=har 0;refine qX 2 rfl ?_;refine ab.nil ?_;refine AW.cut [1,2] (fun _:Unit=>[(1,.d (MxR a)),(2,.bx [.sl 1 (rt.map cY)])]) (fun _=>(if a.length=0 then 0 else if 32<a.length∨32<au a then 4 else if E≠0 then E else G)=if E≠0 then E else G) ?_ (fun _ hr=>?_)
 · refine qX 2 rfl ?_;rw[List.length_map];refine qU 1 rfl ?_;by_cases h1:32<a.length
   · rw[decide_eq_true (show (32:Int)<(a.length:Int) by omega),if_neg (show ¬a.length=0 by omega),if_pos (.inl h1)];refine qU 12 rfl ?_;refine ab.nil ?_;refine AW.aF rfl ?_;refine qX 1 rfl ?_;exact qN rfl
   rw[decide_eq_false (show ¬(32:Int)<(a.length:Int) by omega)];refine qU 3 rfl ?_;rw[List.length_map];refine qU 1 rfl ?_;by_cases h0:a.length=0
   · rw[decide_eq_false (show ¬(0:Int)<(a.length:Int) by omega)];refine qU 8 rfl ?_;refine ab.nil ?_;refine AW.ay rfl ?_;refine AW.skip ?_;refine⟨(),rfl,?_⟩;have e1:E=0:=by rw[← hE,h0];rfl
     have e2:G=0:=by rw[← hG,h0];rfl
     rw[if_pos h0,e1,e2,if_neg (by decide)]
   rw[decide_eq_true (show (0:Int)<(a.length:Int) by omega)];have g0:=getM lD (l:=a) (i:=0) (by omega);refine qU 2 rfl ?_;refine ab.idx tok (lD (a.getD 0 [])) rfl rfl rfl rfl (Int.le_refl _) g0 ?_;refine qU 2 rfl ?_;rw[List.length_map];refine qU 1 rfl ?_;by_cases h2:32<au a
   · rw[decide_eq_true (show (32:Int)<((a.getD 0 []).length:Int) by omega),if_neg h0,if_pos (.inr h2)];refine qU 2 rfl ?_;refine ab.nil ?_;refine AW.aF rfl ?_;refine qX 1 rfl ?_;exact qN rfl
   rw[decide_eq_false (show ¬(32:Int)<((a.getD 0 []).length:Int) by omega)];refine qU 2 rfl ?_;refine ab.nil ?_;refine AW.ay rfl ?_;refine AW.skip ?_;exact⟨(),rfl,by rw[if_neg h0,if_neg (fun g=>g.elim h1 h2)]⟩
 rw[hr]
 · show AW _ _ _ _ _ _ _ [(1,.d (MxR a)),(2,.bx [.sl 1 (rt.map cY)])];refine AW.seq ?_;refine qX 2 rfl ?_;rw[List.length_map];refine qU 1 rfl ?_;refine ab.nil ?_;refine AW.block ?_;refine AW.aE [1,2,25,26,27] (fun i:Nat=>[(1,.d (MxR a)),(2,.bx [.sl 1 (rt.map cY)]),(25,.d (MxR a)),(26,.d (dI a.length)),(27,.d (dI i))]) (fun i=>i≤a.length∧fE (tN a) (a.length-i) i=E) (fun i=>a.length-i) 0 rfl ⟨Nat.zero_le _,hE⟩ (fun i ⟨hi,hiE⟩=>?_)
   · show AW _ _ _ _ _ _ _ [(1,.d (MxR a)),(2,.bx [.sl 1 (rt.map cY)]),(25,.d (MxR a)),(26,.d (dI a.length)),(27,.d (dI i))];refine qX 1 rfl ?_;refine qI ?_;refine AW.cond rfl (fun h=>?_) (fun h=>?_)
     · have hii:i<a.length:=by have:=of_decide_eq_true h;omega
       have hg:=getM lD (l:=a) (i:=i) hii;have g0:=getM lD (l:=a) (i:=0) (by omega);have hri:=har i;have hmiss:=fun h0:tN a i=0=>(ga hii h0).symm.trans hiE;have hhit:=fun h0:tN a i≠0=>(jd hii h0).symm.trans hiE;refine AW.skip (AW.seq (AW.block (AW.seq (AW.region ?_))));refine ab.idx tok (lD (a.getD i [])) rfl rfl rfl rfl (Int.natCast_nonneg i) hg ?_;refine qU 2 rfl ?_;refine qK 2 rfl ?_;rw[List.length_map];refine qU 1 rfl ?_;refine ab.idx tok (lD (a.getD 0 [])) rfl rfl rfl rfl (Int.le_refl _) g0 ?_;refine qU 2 rfl ?_;rw[List.length_map];refine qU 1 rfl ?_;refine ab.nil ?_;refine AW.cond rfl (fun h=>?_) (fun h=>?_)
       · have hne:(a.getD i []).length≠au a:=by have:=bne_iff_ne.1 h;omega
         have e:tN a i=10:=if_pos hne;have:=hhit (by rw[e];decide);rw[e] at this;subst this;rw[if_pos (by decide)];refine qX 1 rfl ?_;exact qN rfl
       · have heq:(a.getD i []).length=au a:=by have:=bne_eq_false_iff_eq.1 h;omega
         have e:tN a i=0:=if_neg (fun h=>h heq);refine AW.skip ?_;refine qT 1 rfl ?_;rw[aD (x:=(i:Int)+1) (by omega) (by omega)];refine qU 1 rfl ?_;refine ab.nil ?_;exact⟨i+1,rfl,⟨hii,hmiss e⟩,by omega⟩
     have hii: ¬i<a.length:=by have:=of_decide_eq_false h;omega
     rw[je hii] at hiE;subst hiE;rw[if_neg (by decide)];refine AW.exit (AW.seq ?_);refine qX 2 rfl ?_;rw[List.length_map];refine qU 1 rfl ?_;refine ab.nil ?_;refine AW.block ?_;refine AW.aE [2,39,40,41] (fun i:Nat=>[(2,.bx [.sl 1 (rt.map cY)]),(39,.d (MxR a)),(40,.d (dI a.length)),(41,.d (dI i))]) (fun i=>i≤a.length∧fE (fun i=>iY rt (a.getD i [])) (a.length-i) i=G) (fun i=>a.length-i) 0 rfl ⟨Nat.zero_le _,hG⟩ (fun i ⟨hi,hiG⟩=>?_)
     · show AW _ _ _ _ _ _ _ [(2,.bx [.sl 1 (rt.map cY)]),(39,.d (MxR a)),(40,.d (dI a.length)),(41,.d (dI i))];refine qX 1 rfl ?_;refine qI ?_;refine AW.cond rfl (fun h=>?_) (fun h=>?_)
       · have hii:i<a.length:=by have:=of_decide_eq_true h;omega
         have hg:=getM lD (l:=a) (i:=i) hii;have cl:=wk (har i) (hbn i);rw[← wc h0] at cl;have hmiss:=fun h0:iY rt (a.getD i [])=0=>(ga (f:=fun i=>iY rt (a.getD i [])) hii h0).symm.trans hiG;have hhit:=fun h0:iY rt (a.getD i [])≠0=>(jd (f:=fun i=>iY rt (a.getD i [])) hii h0).symm.trans hiG;refine AW.skip (AW.seq (AW.block (AW.seq (AW.region ?_))));refine ab.idx tok (lD (a.getD i [])) rfl rfl rfl rfl (Int.natCast_nonneg i) hg ?_;refine qU 2 rfl ?_;refine qK 2 rfl ?_;refine ab.call tok rfl rfl rfl rfl cl ?_;refine qU 1 rfl ?_;refine qK 2 rfl ?_;refine ab.nil ?_;generalize iY rt (a.getD i [])=e at *;refine AW.cond rfl (fun h=>?_) (fun h=>?_)
         · have he:e≠0:=by have:=bne_iff_ne.1 h;omega
           rw[← hhit he];refine qX 2 rfl ?_;exact qN rfl
         · have he:e=0:=by have:=bne_eq_false_iff_eq.1 h;omega
           refine AW.skip ?_;refine qT 1 rfl ?_;rw[aD (x:=(i:Int)+1) (by omega) (by omega)];refine qU 1 rfl ?_;refine ab.nil ?_;exact⟨i+1,rfl,⟨hii,hmiss he⟩,by omega⟩
       have hii: ¬i<a.length:=by have:=of_decide_eq_false h;omega
       rw[je hii] at hiG;subst hiG;refine AW.exit ?_;refine qX 1 rfl ?_;exact qN rfl
theorem uS{m:Nat}{rt:List (List RD)}{a:List (List (List RD))}(T:Fq m rt)(A:Cu m rt a):Pure Tryz.prog 21 [TrD rt,MxR a] (dI (kS rt a)):=by
 refine qJ 14 Tryz.func21 rfl rfl rfl rfl (by kernel_rfl) (fun B F0 w0=>?_);have hm:=T.m2;have cc:=nF rt T.w T.m1 T.l T.ll T.ok;have cw:=fun h0:cO rt=0=>uQ h0 A.l A.r (fun i k=>ja rt.length ((a.getD i []).getD k []) (lr h0).1 (A.n i k).w (by omega) (A.n i k).l);unfold kS;refine qX 2 rfl ?_;refine qI ?_;refine qX 1 rfl ?_;refine ab.call tok rfl rfl rfl rfl cc ?_;refine qU 1 rfl ?_;refine qK 2 rfl ?_;refine ab.nil ?_;generalize cO rt=e at *;refine AW.cond rfl (fun h=>?_) (fun h=>?_)
 · have he:e≠0:=by have:=bne_iff_ne.1 h;omega
   rw[if_pos he];refine qX 2 rfl ?_;exact qN rfl
 · have he:e=0:=by have:=bne_eq_false_iff_eq.1 h;omega
   rw[if_neg (fun g=>g he)];refine AW.skip ?_;refine qX 2 rfl ?_;refine ab.call tok rfl rfl rfl rfl (cw he) ?_;refine qU 1 rfl ?_;exact qN rfl
end Lift
namespace Lift
open Go Go.Proofs
theorem Aa{a b:List Nat}(h:a.length=b.length)(hk: ∀k,k<a.length→a.getD k 0=b.getD k 0):a=b:=by
 refine List.ext_getElem h fun i h1 h2=>?_;have:=hk i h1
 rwa [List.getD_eq_getElem?_getD,List.getElem?_eq_getElem h1,List.getD_eq_getElem?_getD,List.getElem?_eq_getElem h2] at this
theorem tq(a b:List Nat)(ha:a.length≤1000000):Pure Tryz.prog 23 [xm a,xm b] (dB (decide (a=b))):=by
 refine qJ 26 Tryz.func23 rfl rfl rfl rfl (by kernel_rfl) (fun B F0 w0=>?_);refine qX 1 rfl ?_;refine qI ?_;refine qX 5 rfl ?_;rw[List.length_map,List.length_map];refine ab.nil ?_;refine AW.cond rfl (fun h=>?_) (fun h=>?_)
 · have hne:a≠b:=by rintro rfl;simp at h
   rw[decide_eq_false hne];refine qX 1 rfl ?_;exact qN rfl
 · have hlen:a.length=b.length:=by
    have:(a.length:Int)=b.length:=by simpa using h
    omega
   refine AW.skip (AW.seq ?_);refine qX 1 rfl ?_;refine ab.nil ?_;refine AW.block ?_;refine AW.aE [0,1,5] (fun i:Nat=>[(0,.d (xm a)),(1,.d (xm b)),(5,.d (dI i))]) (fun i=>i≤a.length∧ ∀k,k<i→a.getD k 0=b.getD k 0) (fun i=>a.length-i) 0 rfl ⟨Nat.zero_le _,fun k hk=>by omega⟩ (fun i ⟨hi,hI⟩=>?_)
   · show AW _ _ _ _ _ _ _ [(0,.d (xm a)),(1,.d (xm b)),(5,.d (dI i))];refine AW.seq ?_;refine qX 3 rfl ?_;rw[List.length_map];refine qU 1 rfl ?_;refine ab.nil ?_;refine AW.cond rfl (fun h=>?_) (fun h=>?_)
     · have hin:i<a.length:=by have:=of_decide_eq_true h;omega
       refine AW.skip (AW.seq (AW.block (AW.seq ?_)));refine AW.draw aP 9 (by kernel_rfl) ?_;refine qP 2 rfl ?_;refine ae.idx tok (dI (a.getD i 0)) rfl rfl rfl rfl rfl (Int.natCast_nonneg i) (BK hin) ?_;refine qP 3 rfl ?_;refine ae.idx tok (dI (b.getD i 0)) rfl rfl rfl rfl rfl (Int.natCast_nonneg i) (BK (by omega)) ?_;refine qP 2 rfl ?_;refine ae.nil ?_;refine ab.nil ?_;refine AW.cond rfl (fun h=>?_) (fun h=>?_)
       · have hne:a≠b:=by rintro rfl;simp at h
         rw[decide_eq_false hne];refine qX 1 rfl ?_;exact qN rfl
       · have he:a.getD i 0=b.getD i 0:=by have:((a.getD i 0:Nat):Int)=(b.getD i 0:Nat):=bne_eq_false_iff_eq.1 h;omega
         refine AW.skip ?_;refine qT 2 rfl ?_;rw[aD (x:=(i:Int)+1) (by omega) (by omega)];refine qU 1 rfl ?_;refine ab.nil ?_;refine⟨i+1,rfl,⟨hin,fun k hk=>?_⟩,by omega⟩;rcases Nat.lt_or_ge k i with e | e
         · exact hI k e
         · rw[show k=i by omega];exact he
     have hin: ¬i<a.length:=by have:=of_decide_eq_false h;omega
     have hab:a=b:=Aa hlen (fun k hk=>hI k (by omega));rw[decide_eq_true hab];refine AW.exit ?_;refine qX 1 rfl ?_;exact qN rfl
theorem xC{v:List NQ}{a b:NQ}(V:jH v)(ha:ak v.length a)(hb:ak v.length b)(sa:kv a)(sb:kv b)(ok:s4 v (aK a (aM b))):Pure Tryz.prog 45 [bF v,af a,af b] (.tu [dI (oF v (aK a (aM b))),aj]):=by
 refine qJ 23 Tryz.func45 rfl rfl rfl rfl (by kernel_rfl) (fun B0 F0 w0=>?_);have hl5:=V.l5;have hro:=V.ro;have cc:=lu V ha sa hb sb;have c0:=dO b sb (by omega) (Nat.le_trans (hb.len (by omega)) (by decide));have c1:=cQ a (aM b) sa sb.minus (by omega) (Nat.le_trans (ha.len (by omega)) (by decide)) (Nat.le_trans (hb.minus.len (by omega)) (by decide));have c2:=cZ v.length (ha.plus hb.minus) hl5 hro (Nat.le_refl _) (by omega) ok;refine qX 3 rfl ?_;refine qI ?_;refine qX 3 rfl ?_;refine ab.fI tok rfl rfl rfl rfl rfl ?_;refine ab.call tok rfl rfl rfl rfl cc ?_;refine qU 1 rfl ?_;refine qK 1 rfl ?_;refine ab.err tok rfl rfl rfl rfl rfl ?_;refine ab.nil ?_;refine AW.ay rfl ?_
 · skip
   refine AW.skip (AW.seq ?_);refine AW.draw aP 6 (by kernel_rfl) ?_;refine qP 3 rfl ?_;refine ae.call tok rfl rfl rfl rfl rfl c0 ?_;refine ae.call tok rfl rfl rfl rfl rfl c1 ?_;refine ae.call tok rfl rfl rfl rfl rfl c2 ?_;refine ae.nil ?_;refine qU 2 rfl ?_;exact qN rfl
theorem rP{v:List NQ}{a:NQ}(V:jH v)(ha:ak v.length a)(ok:s4 v a):Pure Tryz.prog 67 [bF v,af a] aj:=by
 refine qJ 14 Tryz.func67 rfl rfl rfl rfl (by kernel_rfl) (fun B0 F0 w0=>?_);have c:=kA V ha ok;refine qX 2 rfl ?_;refine qK 2 rfl ?_;refine ab.call tok rfl rfl rfl rfl c ?_;refine qU 5 rfl ?_;refine qK 2 rfl ?_;exact qN rfl
theorem pJ(l:List Int)(hl:l.length≤1000)(hb: ∀i, -1000≤l.getD i 0∧l.getD i 0≤1000):Pure Tryz.prog 44 [.sl 1 (l.map (fun n=>dI n))] (af (l.map (fun n:Int=>(n:Rat)))):=by
 refine qJ 19 Tryz.func44 rfl rfl rfl rfl (by kernel_rfl) (fun B0 F0 w0=>?_);have hg: ∀i,i<l.length→(l.map (fun n:Int=>dI n))[i]?=some (dI (l.getD i 0)):=fun i hi=>by simp[hi]
 have hts: ∀i,i<l.length→(l.map (fun n:Int=>(n:Rat))).take (i+1)=(l.map (fun n:Int=>(n:Rat))).take i++[((l.getD i 0:Int):Rat)]:=fun i hi=>by
  rw[qV (d:=0) (by rw[List.length_map];exact hi)]
  congr 2
  rw[List.getD_eq_getElem?_getD,List.getElem?_map,List.getD_eq_getElem?_getD,List.getElem?_eq_getElem hi];rfl
 have hta:(l.map (fun n:Int=>(n:Rat))).take l.length=l.map (fun n:Int=>(n:Rat)):=List.take_of_length_le (by rw[List.length_map];exact Nat.le_refl _);generalize l.map (fun n:Int=>(n:Rat))=zs at *;refine qX 1 rfl ?_;refine qK 1 rfl ?_;refine qI ?_;refine qX 2 rfl ?_;rw[List.length_map];refine qU 1 rfl ?_;refine ab.nil ?_;refine AW.block ?_;refine AW.aE [3,6,7,8] (fun i:Nat=>[(3,.ow 111 (dH (zs.take i))),(6,.d (.sl 1 (l.map (fun n=>dI n)))),(7,.d (dI l.length)),(8,.d (dI i))]) (fun i=>i≤l.length) (fun i=>l.length-i) 0 rfl (Nat.zero_le _) (fun i hi=>?_)
 · show AW _ _ _ _ _ _ _ [(3,.ow 111 (dH (zs.take i))),(6,.d (.sl 1 (l.map (fun n=>dI n)))),(7,.d (dI l.length)),(8,.d (dI i))];refine qX 1 rfl ?_;refine qI ?_;refine AW.cond rfl (fun h=>?_) (fun h=>?_)
   · have hii:i<l.length:=by have:=of_decide_eq_true h;omega
     have g1:=hg i hii;have hts:=hts i hii;have hb:=hb i;have c:=zT (l.getD i 0) (by omega) (by omega);generalize l.getD i 0=x at *;refine AW.skip (AW.seq (AW.block (AW.seq (AW.region ?_))));refine ab.idx tok (dI x) rfl rfl rfl rfl (Int.natCast_nonneg i) g1 ?_;refine qU 2 rfl ?_;refine ab.nil ?_;refine qT 2 rfl ?_;refine ab.call tok rfl rfl rfl rfl c ?_;refine ab.fI tok rfl rfl rfl rfl rfl ?_;refine ab.kt tok rfl rfl rfl rfl rfl rfl (by rw[List.length_map,List.length_take];show (_+1)*56≤_;omega) (by rw[List.length_map,List.length_take];show _+1≤_;omega) ?_;refine qU 1 rfl ?_;refine ab.nil ?_;refine qT 1 rfl ?_;rw[aD (x:=(i:Int)+1) (by omega) (by omega)];refine qU 1 rfl ?_;refine ab.nil ?_;exact⟨i+1,by rw[hts,show dH (zs.take i++[(x:Rat)])=dH (zs.take i)++[(Qr (x:Rat)).D] from List.map_append ..];rfl,hii,by omega⟩
   have hii:i=l.length:=by have:=of_decide_eq_false h;omega
   subst hii;rw[hta];refine AW.exit (AW.seq (AW.region ?_));refine ab.gk tok 3 rfl rfl ?_;refine qU 2 rfl ?_;exact qN rfl
def jj(r:RD):Bool:=match r.n,r.d with
 | [],[]=>true
 | [x],[]=>decide (x≤1000)
 | [],[y]=>decide (y≤12)
 | [x],[y]=>decide (x≤1000)&&decide (y≤12)
 | _,_=>false
theorem Aw{r:RD}(h:jj r=true):r.n.length≤1∧r.d.length≤1:=by
 obtain ⟨g,n,d⟩:=r;unfold jj at h;rcases n with _ | ⟨x,_ | ⟨x2,n⟩⟩<;>rcases d with _ | ⟨y,_ | ⟨y2,d⟩⟩<;>first | (simp at h;done) | (refine⟨?_,?_⟩<;>simp)
theorem tc(r:RD){k:Nat}(hw:r.w k)(hk:k≤1000000000000000):Pure Tryz.prog 66 [r.D,.v (.int .u32 1000),.v (.int .u32 12)] (dB (jj r)):=by
 refine qJ 45 Tryz.func66 rfl rfl rfl rfl (by kernel_rfl) (fun B0 F0 w0=>?_);obtain ⟨w1,w2,w3,w4⟩:=hw;obtain ⟨g,n,d⟩:=r;unfold jj
 dsimp only at w3 w4 ⊢
 refine qX 2 rfl ?_;refine qK 3 rfl ?_;rw[List.length_map];refine qU 1 rfl ?_;by_cases h1:n.length<2;rotate_left
 · rw[decide_eq_false (show ¬(n.length:Int)<2 by omega)];refine qU 35 rfl ?_;refine ab.nil ?_;rcases n with _ | ⟨x,_ | ⟨x2,n⟩⟩
   · exact absurd (show 0<2 by decide) h1
   · exact absurd (show 1<2 by decide) h1
   · exact AW.ret rfl
 rw[decide_eq_true (show (n.length:Int)<2 by omega)];refine qU 4 rfl ?_;rw[List.length_map];refine qU 1 rfl ?_;by_cases h2:d.length<2;rotate_left
 · rw[decide_eq_false (show ¬(d.length:Int)<2 by omega)];refine qU 30 rfl ?_;refine ab.nil ?_;rcases d with _ | ⟨x,_ | ⟨x2,d⟩⟩
   · exact absurd (show 0<2 by decide) h2
   · exact absurd (show 1<2 by decide) h2
   · rcases n with _ | ⟨x,_ | ⟨x2,n⟩⟩
     · exact AW.ret rfl
     · exact AW.ret rfl
     · exact AW.ret rfl
 rw[decide_eq_true (show (d.length:Int)<2 by omega)];rcases n with _ | ⟨x,_ | ⟨x2,n⟩⟩
 · refine qU 16 rfl ?_;rcases d with _ | ⟨y,_ | ⟨y2,d⟩⟩
   · refine qU 14 rfl ?_;exact qN rfl
   · dsimp only
     refine qU 7 rfl ?_;refine ab.idx tok (wd y) rfl rfl rfl rfl (Int.le_refl _) rfl ?_;refine qU 6 rfl ?_;refine ab.nil ?_;rw[show decide (y≤12)=decide ((y:Int)≤12) from decide_eq_decide.2 (by omega)];exact AW.ret rfl
   · exact absurd h2 (by simp)
 · refine qU 9 rfl ?_;refine ab.idx tok (wd x) rfl rfl rfl rfl (Int.le_refl _) rfl ?_;refine qU 6 rfl ?_;rw[show decide ((x:Int)≤1000)=decide (x≤1000) from decide_eq_decide.2 (by omega)];rcases d with _ | ⟨y,_ | ⟨y2,d⟩⟩
   · dsimp only
     generalize decide (x≤1000)=b;cases b
     · refine qU 14 rfl ?_;exact qN rfl
     · refine qU 14 rfl ?_;exact qN rfl
   · dsimp only
     generalize decide (x≤1000)=b;cases b
     · refine qU 14 rfl ?_;exact qN rfl
     · refine qU 7 rfl ?_;refine ab.idx tok (wd y) rfl rfl rfl rfl (Int.le_refl _) rfl ?_;refine qU 6 rfl ?_;refine ab.nil ?_;rw[show decide (y≤12)=decide ((y:Int)≤12) from decide_eq_decide.2 (by omega)];exact AW.ret rfl
   · exact absurd h2 (by simp)
 · exact absurd h1 (by simp)
end Lift
namespace Lift
open Go Go.Proofs
def Gd(a:List RD):Prop:=a.length≤4398046511104∧ ∀i,(a.getD i default).w big
def Nb2(b:List (List RD)):Prop:=b.length≤140737488355328∧ ∀i,Gd (b.getD i [])
def Nb3(a:List (List (List RD))):Prop:=a.length≤140737488355328∧ ∀i,Nb2 (a.getD i [])
theorem vt{f:Nat→Nat}: ∀{m i:Nat},fE f m i=0→ ∀k,i≤k→k<i+m→f k=0
 | 0,i,_,k,h1,h2=>by omega
 | m+1,i,h,k,h1,h2=>by
   rw[fE] at h;split at h
   · rename_i h0;by_cases e:k=i
     · subst e;exact h0
     · exact vt h k (by omega) (by omega)
   · rename_i h0;exact absurd h h0
theorem yI{α:Type}(g:α→Bool){d:α}{l:List α}{i:Nat}(h:i<l.length):(l.drop i).all g=(g (l.getD i d)&&(l.drop (i+1)).all g):=by
 rw[List.drop_eq_getElem_cons h,List.all_cons,List.getD_eq_getElem?_getD,List.getElem?_eq_getElem h];rfl
theorem vF{α:Type}(g:α→Bool){l:List α}{i:Nat}(h: ¬i<l.length):(l.drop i).all g=true:=by
 rw[List.drop_eq_nil_of_le (by omega)];rfl
theorem vD{α:Type}{g:α→Bool}{l:List α}(h:l.all g=true){d:α}{i:Nat}(hi:i<l.length):g (l.getD i d)=true:=by
 rw[List.getD_eq_getElem?_getD,List.getElem?_eq_getElem hi];exact List.all_eq_true.1 h _ (List.getElem_mem hi)
def Ak(x:List RD):Bool:=decide (x.length≤4)&&x.all jj
def fM(l:List (List RD)):Bool:=l.all Ak
theorem k7(l:List (List RD))(hl:Nb2 l):Pure Tryz.prog 31 [lD l] (dB (fM l)):=by
 refine qJ 27 Tryz.func31 rfl rfl rfl rfl (by kernel_rfl) (fun B0 F0 w0=>?_);obtain ⟨hl1,hl2⟩:=hl;obtain ⟨E,hE⟩: ∃E,(l.drop 0).all Ak=E:=⟨_,rfl⟩;rw[show fM l=E from hE];refine qX 1 rfl ?_;refine qI ?_;refine qX 2 rfl ?_;rw[List.length_map];refine qU 1 rfl ?_;refine ab.nil ?_;refine AW.block ?_;refine AW.aE [7,8,9] (fun i:Nat=>[(7,.d (lD l)),(8,.d (dI l.length)),(9,.d (dI i))]) (fun i=>i≤l.length∧(l.drop i).all Ak=E) (fun i=>l.length-i) 0 rfl ⟨Nat.zero_le _,hE⟩ (fun i ⟨hi,hiE⟩=>?_)
 · show AW _ _ _ _ _ _ _ [(7,.d (lD l)),(8,.d (dI l.length)),(9,.d (dI i))];refine qX 1 rfl ?_;refine qI ?_;refine AW.cond rfl (fun h=>?_) (fun h=>?_)
   · have hii:i<l.length:=by have:=of_decide_eq_true h;omega
     have g1:=getM cY (l:=l) (i:=i) hii;have hx:=hl2 i;have hat:=(yI Ak (d:=[]) hii).symm.trans hiE;change (Ak (l.getD i default)&&_)=E at hat;generalize l.getD i default=x at g1 hx hat;obtain ⟨hx1,hx2⟩:=hx;refine AW.skip (AW.seq (AW.block (AW.seq (AW.region ?_))));refine ab.idx tok (cY x) rfl rfl rfl rfl (Int.natCast_nonneg i) g1 ?_;refine qU 2 rfl ?_;refine qI ?_;refine qX 2 rfl ?_;rw[List.length_map];refine qU 1 rfl ?_;refine ab.nil ?_;refine AW.cond rfl (fun h=>?_) (fun h=>?_)
     · have h4: ¬x.length≤4:=by have:=of_decide_eq_true h;omega
       have hs:Ak x=false:=by unfold Ak;rw[decide_eq_false h4];rfl
       rw[hs] at hat;rw[← hat];refine qX 1 rfl ?_;exact qN rfl
     · have h4:x.length≤4:=by have:=of_decide_eq_false h;omega
       obtain ⟨X,hX⟩: ∃X,(x.drop 0).all jj=X:=⟨_,rfl⟩;have hs:Ak x=X:=by unfold Ak;rw[decide_eq_true h4];exact hX
       rw[hs] at hat;refine AW.skip ?_;refine qX 2 rfl ?_;rw[List.length_map];refine qU 1 rfl ?_;refine ab.nil ?_;refine AW.block ?_;refine AW.aE [7,8,9,16,17,18] (fun k:Nat=>[(7,.d (lD l)),(8,.d (dI l.length)),(9,.d (dI i)),(16,.d (cY x)),(17,.d (dI x.length)),(18,.d (dI k))]) (fun k=>k≤x.length∧(x.drop k).all jj=X) (fun k=>x.length-k) 0 rfl ⟨Nat.zero_le _,hX⟩ (fun k ⟨hk,hkX⟩=>?_)
       · show AW _ _ _ _ _ _ _ [(7,.d (lD l)),(8,.d (dI l.length)),(9,.d (dI i)),(16,.d (cY x)),(17,.d (dI x.length)),(18,.d (dI k))];refine qX 1 rfl ?_;refine qI ?_;refine AW.cond rfl (fun h=>?_) (fun h=>?_)
         · have hkk:k<x.length:=by have:=of_decide_eq_true h;omega
           have g2:=getM RD.D (l:=x) (i:=k) hkk;have ct:=tc (x.getD k default) (hx2 k) (by unfold big;omega);have hatk:=(yI jj (d:=default) hkk).symm.trans hkX;generalize x.getD k default=r at g2 ct hatk;refine AW.skip (AW.seq (AW.block (AW.seq (AW.region ?_))));refine ab.idx tok r.D rfl rfl rfl rfl (Int.natCast_nonneg k) g2 ?_;refine qU 3 rfl ?_;refine qK 1 rfl ?_;refine ab.call tok rfl rfl rfl rfl ct ?_;refine qU 1 rfl ?_;refine ab.nil ?_;refine AW.cond rfl (fun h=>?_) (fun h=>?_)
           · have ht:jj r=false:=by cases g:jj r;rfl;rw[g] at h;cases h
             rw[ht] at hatk;rw[← hatk] at hat;rw[← hat];refine qX 1 rfl ?_;exact qN rfl
           · have ht:jj r=true:=by cases g:jj r;rw[g] at h;cases h;rfl
             rw[ht] at hatk;refine AW.skip ?_;refine qT 1 rfl ?_;rw[aD (x:=(k:Int)+1) (by omega) (by omega)];refine qU 1 rfl ?_;refine ab.nil ?_;exact⟨k+1,rfl,⟨hkk,hatk⟩,by omega⟩
         have hkk: ¬k<x.length:=by have:=of_decide_eq_false h;omega
         rw[vF jj hkk] at hkX;rw[← hkX] at hat;refine AW.exit ?_;refine qT 1 rfl ?_;rw[aD (x:=(i:Int)+1) (by omega) (by omega)];refine qU 1 rfl ?_;refine ab.nil ?_;exact⟨i+1,rfl,⟨hii,hat⟩,by omega⟩
   have hii: ¬i<l.length:=by have:=of_decide_eq_false h;omega
   rw[vF Ak hii] at hiE;rw[← hiE];refine AW.exit ?_;refine qX 1 rfl ?_;exact qN rfl
def gn(n:Nat):Bool:=(decide (4<n)&&decide (n≤32))||decide (40<n)
def vK(r:List (List RD)):Bool:= !(gn r.length|| !fM r)
def kI(a:List (List (List RD))):Bool:= !gn a.length&&a.all vK
theorem rR(a:List (List (List RD)))(ha:Nb3 a):Pure Tryz.prog 11 [MxR a] (dB (kI a)):=by
 refine qJ 43 Tryz.func11 rfl rfl rfl rfl (by kernel_rfl) (fun B0 F0 w0=>?_);obtain ⟨ha1,ha2⟩:=ha;obtain ⟨E,hE⟩: ∃E,(a.drop 0).all vK=E:=⟨_,rfl⟩;unfold kI;rw[show a.all vK=E from hE];refine qX 1 rfl ?_;refine ab.nil ?_;refine AW.cut [0] (fun _:Unit=>[(0,.d (MxR a))]) (fun _=>gn a.length=false) ?_ (fun _ hs=>?_)
 · refine qX 2 rfl ?_;rw[List.length_map];refine qU 1 rfl ?_;by_cases hp:4<a.length
   · rw[decide_eq_true (show (4:Int)<(a.length:Int) by omega)];refine qU 3 rfl ?_;rw[List.length_map];refine qU 1 rfl ?_;by_cases hq:a.length≤32
     · rw[decide_eq_true (show (a.length:Int)≤32 by omega)];have hz:gn a.length=true:=by unfold gn;rw[decide_eq_true hp,decide_eq_true hq];rfl
       refine qU 6 rfl ?_;rw[hz];refine ab.nil ?_;refine AW.aF rfl ?_;refine qX 1 rfl ?_;exact qN rfl
     · rw[decide_eq_false (show ¬(a.length:Int)≤32 by omega)];refine qU 4 rfl ?_;rw[List.length_map];refine qU 1 rfl ?_;by_cases hr:40<a.length
       · rw[decide_eq_true (show (40:Int)<(a.length:Int) by omega)];have hz:gn a.length=true:=by unfold gn;rw[decide_eq_true hp,decide_eq_false hq,decide_eq_true hr];rfl
         refine qU 1 rfl ?_;rw[hz];refine ab.nil ?_;refine AW.aF rfl ?_;refine qX 1 rfl ?_;exact qN rfl
       · rw[decide_eq_false (show ¬(40:Int)<(a.length:Int) by omega)];have hz:gn a.length=false:=by unfold gn;rw[decide_eq_true hp,decide_eq_false hq,decide_eq_false hr];rfl
         refine qU 1 rfl ?_;refine ab.nil ?_;refine AW.ay rfl ?_;refine AW.skip ?_;exact⟨(),rfl,hz⟩
   · rw[decide_eq_false (show ¬(4:Int)<(a.length:Int) by omega)];refine qU 7 rfl ?_;refine qU 1 rfl ?_;rw[List.length_map];refine qU 1 rfl ?_;by_cases hr:40<a.length
     · rw[decide_eq_true (show (40:Int)<(a.length:Int) by omega)];have hz:gn a.length=true:=by unfold gn;rw[decide_eq_false hp,decide_eq_true hr];rfl
       refine qU 1 rfl ?_;rw[hz];refine ab.nil ?_;refine AW.aF rfl ?_;refine qX 1 rfl ?_;exact qN rfl
     · rw[decide_eq_false (show ¬(40:Int)<(a.length:Int) by omega)];have hz:gn a.length=false:=by unfold gn;rw[decide_eq_false hp,decide_eq_false hr];rfl
       refine qU 1 rfl ?_;refine ab.nil ?_;refine AW.ay rfl ?_;refine AW.skip ?_;exact⟨(),rfl,hz⟩
 rw[hs,show (!false&&E)=E from rfl]
 · show AW _ _ _ _ _ _ _ [(0,.d (MxR a))];refine AW.seq ?_;refine qX 2 rfl ?_;rw[List.length_map];refine qU 1 rfl ?_;refine ab.nil ?_;refine AW.block ?_;refine AW.aE [18,19,20] (fun i:Nat=>[(18,.d (MxR a)),(19,.d (dI a.length)),(20,.d (dI i))]) (fun i=>i≤a.length∧(a.drop i).all vK=E) (fun i=>a.length-i) 0 rfl ⟨Nat.zero_le _,hE⟩ (fun i ⟨hi,hiE⟩=>?_)
   · show AW _ _ _ _ _ _ _ [(18,.d (MxR a)),(19,.d (dI a.length)),(20,.d (dI i))];refine qX 1 rfl ?_;refine qI ?_;refine AW.cond rfl (fun h=>?_) (fun h=>?_)
     · have hii:i<a.length:=by have:=of_decide_eq_true h;omega
       have g1:=getM lD (l:=a) (i:=i) hii;have cs:=k7 (a.getD i []) (ha2 i);have hr1:=(ha2 i).1;have hat:=(yI vK (d:=[]) hii).symm.trans hiE;change (vK (a.getD i default)&&_)=E at hat;change Pure _ _ [lD (a.getD i default)] (dB (fM (a.getD i default))) at cs;change (a.getD i default).length≤_ at hr1;generalize a.getD i default=r at g1 hat cs hr1;refine AW.skip (AW.seq (AW.block (AW.seq (AW.region ?_))));refine ab.idx tok (lD r) rfl rfl rfl rfl (Int.natCast_nonneg i) g1 ?_;refine qU 2 rfl ?_;refine qK 2 rfl ?_;rw[List.length_map];refine qU 1 rfl ?_;by_cases hp:4<r.length
       · rw[decide_eq_true (show (4:Int)<(r.length:Int) by omega)];refine qU 3 rfl ?_;rw[List.length_map];refine qU 1 rfl ?_;by_cases hq:r.length≤32
         · rw[decide_eq_true (show (r.length:Int)≤32 by omega)];have hz:gn r.length=true:=by unfold gn;rw[decide_eq_true hp,decide_eq_true hq];rfl
           refine qU 11 rfl ?_;have hm:vK r=false:=by unfold vK;rw[hz];rfl
           rw[hm] at hat;rw[← hat];refine ab.nil ?_;refine AW.aF rfl ?_;refine qX 1 rfl ?_;exact qN rfl
         · rw[decide_eq_false (show ¬(r.length:Int)≤32 by omega)];refine qU 4 rfl ?_;rw[List.length_map];refine qU 1 rfl ?_;by_cases hr:40<r.length
           · rw[decide_eq_true (show (40:Int)<(r.length:Int) by omega)];have hz:gn r.length=true:=by unfold gn;rw[decide_eq_true hp,decide_eq_false hq,decide_eq_true hr];rfl
             refine qU 6 rfl ?_;have hm:vK r=false:=by unfold vK;rw[hz];rfl
             rw[hm] at hat;rw[← hat];refine ab.nil ?_;refine AW.aF rfl ?_;refine qX 1 rfl ?_;exact qN rfl
           · rw[decide_eq_false (show ¬(40:Int)<(r.length:Int) by omega)];have hz:gn r.length=false:=by unfold gn;rw[decide_eq_true hp,decide_eq_false hq,decide_eq_false hr];rfl
             refine qU 3 rfl ?_;refine ab.call tok rfl rfl rfl rfl cs ?_;refine qU 2 rfl ?_;refine ab.nil ?_;have hm:vK r=fM r:=by unfold vK;rw[hz];cases fM r<;>rfl
             rw[hm] at hat;generalize fM r=s at *;cases s with
             | false =>
               rw[← hat];refine AW.aF rfl ?_;refine qX 1 rfl ?_;exact qN rfl
             | true =>
               refine AW.ay rfl ?_;refine AW.skip ?_;refine qT 1 rfl ?_;rw[aD (x:=(i:Int)+1) (by omega) (by omega)];refine qU 1 rfl ?_;refine ab.nil ?_;exact⟨i+1,rfl,⟨hii,hat⟩,by omega⟩
       · rw[decide_eq_false (show ¬(4:Int)<(r.length:Int) by omega)];refine qU 7 rfl ?_;refine qU 1 rfl ?_;rw[List.length_map];refine qU 1 rfl ?_;by_cases hr:40<r.length
         · rw[decide_eq_true (show (40:Int)<(r.length:Int) by omega)];have hz:gn r.length=true:=by unfold gn;rw[decide_eq_false hp,decide_eq_true hr];rfl
           refine qU 6 rfl ?_;have hm:vK r=false:=by unfold vK;rw[hz];rfl
           rw[hm] at hat;rw[← hat];refine ab.nil ?_;refine AW.aF rfl ?_;refine qX 1 rfl ?_;exact qN rfl
         · rw[decide_eq_false (show ¬(40:Int)<(r.length:Int) by omega)];have hz:gn r.length=false:=by unfold gn;rw[decide_eq_false hp,decide_eq_false hr];rfl
           refine qU 3 rfl ?_;refine ab.call tok rfl rfl rfl rfl cs ?_;refine qU 2 rfl ?_;refine ab.nil ?_;have hm:vK r=fM r:=by unfold vK;rw[hz];cases fM r<;>rfl
           rw[hm] at hat;generalize fM r=s at *;cases s with
           | false =>
             rw[← hat];refine AW.aF rfl ?_;refine qX 1 rfl ?_;exact qN rfl
           | true =>
             refine AW.ay rfl ?_;refine AW.skip ?_;refine qT 1 rfl ?_;rw[aD (x:=(i:Int)+1) (by omega) (by omega)];refine qU 1 rfl ?_;refine ab.nil ?_;exact⟨i+1,rfl,⟨hii,hat⟩,by omega⟩
     have hii: ¬i<a.length:=by have:=of_decide_eq_false h;omega
     rw[vF vK hii] at hiE;rw[← hiE];refine AW.exit ?_;refine qX 1 rfl ?_;exact qN rfl
def s9(rt:List (List RD)):Bool:=(decide (rt.length≤1)||(decide (5<rt.length)&&decide (rt.length<9)))&&fM rt
theorem vk(rt:List (List RD))(hr:Nb2 rt):Pure Tryz.prog 10 [TrD rt] (dB (s9 rt)):=by
 refine qJ 24 Tryz.func10 rfl rfl rfl rfl (by kernel_rfl) (fun B0 F0 w0=>?_);have cs:=k7 rt hr;have hr1:=hr.1;unfold s9;generalize fM rt=s at cs ⊢;refine qX 2 rfl ?_;refine qK 3 rfl ?_;rw[List.length_map];refine qU 1 rfl ?_;by_cases h1:rt.length≤1
 · rw[decide_eq_true (show (rt.length:Int)≤1 by omega),decide_eq_true h1];refine qU 15 rfl ?_;refine ab.call tok rfl rfl rfl rfl cs ?_;refine qU 2 rfl ?_;exact qN rfl
 rw[decide_eq_false (show ¬(rt.length:Int)≤1 by omega),decide_eq_false h1];refine qU 4 rfl ?_;rw[List.length_map];refine qU 1 rfl ?_;by_cases h2:5<rt.length;rotate_left
 · rw[decide_eq_false (show ¬(5:Int)<(rt.length:Int) by omega),decide_eq_false h2];refine qU 13 rfl ?_;exact qN rfl
 rw[decide_eq_true (show (5:Int)<(rt.length:Int) by omega),decide_eq_true h2];refine qU 4 rfl ?_;rw[List.length_map];refine qU 1 rfl ?_;by_cases h3:rt.length<9;rotate_left
 · rw[decide_eq_false (show ¬(rt.length:Int)<9 by omega),decide_eq_false h3];refine qU 8 rfl ?_;exact qN rfl
 rw[decide_eq_true (show (rt.length:Int)<9 by omega),decide_eq_true h3];refine qU 5 rfl ?_;refine ab.call tok rfl rfl rfl rfl cs ?_;refine qU 2 rfl ?_;exact qN rfl
theorem Ez{x:List RD}(h:Ak x=true)(nb:Gd x):x.length≤4∧wN 2 x:=by
 unfold Ak at h;rw[Bool.and_eq_true] at h;refine⟨of_decide_eq_true h.1,fun i hi=>?_⟩;obtain ⟨t1,t2⟩:=Aw (vD h.2 (d:=default) hi);obtain ⟨w1,w2,w3,w4⟩:=nb.2 i;exact⟨w1,w2,by omega,by omega⟩
theorem Bq:Gd []:=⟨Nat.zero_le _,fun _=>⟨fun _ h=>(by cases h),fun _ h=>(by cases h),Nat.zero_le _,Nat.zero_le _⟩⟩
theorem Ap(k:Nat):wN k []:=fun i hi=>absurd hi (Nat.not_lt_zero i)
theorem oD{l:List (List RD)}(h:fM l=true)(nb:Nb2 l)(i:Nat):(l.getD i []).length≤4∧wN 2 (l.getD i []):=by
 by_cases hi:i<l.length
 · exact Ez (vD h (d:=[]) hi) (nb.2 i)
 · rw[List.getD_eq_getElem?_getD,List.getElem?_eq_none (by omega)];exact⟨Nat.zero_le _,Ap 2⟩
theorem za{rt:List (List RD)}(h:s9 rt=true)(nb:Nb2 rt):Fq 2 rt∧(rt.length≤5→rt.length≤1):=by
 unfold s9 at h;rw[Bool.and_eq_true,Bool.or_eq_true,Bool.and_eq_true] at h;obtain ⟨h1,h2⟩:=h
 have hl:rt.length<9∧(rt.length≤5→rt.length≤1):=by
  rcases h1 with h1 | ⟨h1,h3⟩
  · have:=of_decide_eq_true h1;omega
  · have:=of_decide_eq_true h1;have:=of_decide_eq_true h3;omega
 refine⟨⟨fun i _ _=>(oD h2 nb i).2,by decide,by omega,fun i _=>by have:=(oD h2 nb i).1;omega,fun h5=>mS (hl.2 h5) (by decide),by decide⟩,hl.2⟩
theorem Bx{rt:List (List RD)}(h:s9 rt=true)(nb:Nb2 rt)(h0:cO rt=0):DS 2 rt∧rt.length≤1:=by
 obtain ⟨T,h1⟩:=za h nb;have h5:=(lr h0).1;exact⟨⟨⟨2,by decide,Nat.le_refl _,T.w,T.ok⟩,by decide,T.l,T.ll⟩,h1 h5⟩
theorem qZ{rt:List (List RD)}{a:List (List (List RD))}(h:kI a=true)(nb:Nb3 a):Cu 2 rt a∧(a.length≤32→a.length≤4)∧(∀i,(a.getD i []).length≤32→(a.getD i []).length≤4):=by
 unfold kI at h;rw[Bool.and_eq_true] at h
 have sz: ∀n,(!gn n)=true→n≤40∧(n≤32→n≤4):=fun n hn=>by
  unfold gn at hn;simp at hn;omega
 have hr: ∀i,(a.getD i []).length≤40∧((a.getD i []).length≤32→(a.getD i []).length≤4)∧ ∀k,((a.getD i []).getD k []).length≤4∧wN 2 ((a.getD i []).getD k []):=fun i=>by
  by_cases hi:i<a.length
  · have g:=vD h.2 (d:=[]) hi;unfold vK at g;rw[Bool.not_or,Bool.not_not,Bool.and_eq_true] at g;have s1:=sz _ g.1;exact⟨s1.1,s1.2,fun k=>oD g.2 (nb.2 i) k⟩
  · rw[List.getD_eq_getElem?_getD,List.getElem?_eq_none (by omega)];exact⟨Nat.zero_le _,fun _=>Nat.zero_le _,fun k=>⟨Nat.zero_le _,Ap 2⟩⟩
 have s0:=sz _ h.1;exact⟨⟨fun i k=>⟨fun _=>((hr i).2.2 k).2,by have:=((hr i).2.2 k).1;omega⟩,by omega,fun i=>by have:=(hr i).1;omega⟩,s0.2,fun i=>(hr i).2.1⟩
def p6(a:List (List (List RD))):br:=a.map fun r=>r.map bj
theorem kT(a:List (List (List RD))):(p6 a).length=a.length:=List.length_map ..
theorem rL(a:List (List (List RD)))(i:Nat):(p6 a).getD i []=(a.getD i []).map bj:=by
 unfold p6;rw[List.getD_eq_getElem?_getD,List.getElem?_map,List.getD_eq_getElem?_getD];cases a[i]? with
 | none=>rfl
 | some r=>rfl
theorem v9(r:List (List RD))(k:Nat):(r.map bj).getD k []=bj (r.getD k []):=by
 rw[List.getD_eq_getElem?_getD,List.getElem?_map,List.getD_eq_getElem?_getD];cases r[k]? with
 | none=>rfl
 | some x=>rfl
theorem lV(a:List (List (List RD))):au (p6 a)=au a:=by unfold au;rw[rL,List.length_map]
structure Acc (rt:List (List RD)) (a:List (List (List RD))) (v:List NQ) (q:br):Prop where
 L:Lo v
 G:sK v q
 s:kx 2 q
 l4:q.length≤4
 c4:au q≤4
 t:TrD rt=bF v
 m:MxR a=eO q
 vl:v.length=rt.length
 al:q.length=a.length
 ac:au q=au a
theorem C5{rt:List (List RD)}{r:List (List RD)}(h0:cO rt=0)(h:iY rt r=0){k:Nat}(hk:k<r.length):bB rt.length (r.getD k [])=0:=by
 rw[wc h0] at h;exact vt h k (Nat.zero_le _) (by omega)
theorem DQ{rt:List (List RD)}(h1:s9 rt=true)(n1:Nb2 rt)(h0:cO rt=0):Lo (rt.map bj)∧TrD rt=bF (rt.map bj):=by
 obtain ⟨T,l1⟩:=Bx h1 n1 h0;exact⟨⟨l8.of T h0,by rw[List.length_map];exact l1⟩,(DW T h0).eq⟩
theorem C4{rt:List (List RD)}{r:List (List RD)}(hn: ∀k,Ct 2 rt (r.getD k []))(h: ∀k,k<r.length→bB rt.length (r.getD k [])=0):lD r=eM (r.map bj)∧(∀k,ak rt.length ((r.map bj).getD k []))∧(∀k,aq 2 ((r.map bj).getD k [])):=by
 have g:=fun k (hk:k<r.length)=>EI (by decide) (hn k) (h k hk);refine⟨?_,fun k=>?_,fun k=>?_⟩
 · show D.sl 1 (r.map cY)=D.sl 1 ((r.map bj).map af);rw[List.map_map]
   congr 1
   refine List.map_congr_left fun x hx=>?_;obtain ⟨k,hk,e⟩:=List.getElem_of_mem hx;have:=(g k hk).2.2;rw[List.getD_eq_getElem?_getD,List.getElem?_eq_getElem hk] at this;rw[← e];exact this
 · rw[v9];by_cases hk:k<r.length
   · exact(g k hk).1
   · rw[List.getD_eq_getElem?_getD,List.getElem?_eq_none (by omega)];exact bn _
 · rw[v9];by_cases hk:k<r.length
   · exact(g k hk).2.1
   · rw[List.getD_eq_getElem?_getD,List.getElem?_eq_none (by omega)];exact bc (by decide)
theorem Fe{rt:List (List RD)}{a:List (List (List RD))}(h1:s9 rt=true)(n1:Nb2 rt)(h2:kI a=true)(n2:Nb3 a)(h:kS rt a=0):Acc rt a (rt.map bj) (p6 a):=by
 have h0:cO rt=0:=by
  unfold kS at h;split at h
  · rename_i g;exact absurd h g
  · omega
 have hm:rM rt a=0:=by
  unfold kS at h;rw[if_neg (by rw[h0];simp)] at h;exact h
 obtain ⟨L,ht⟩:=DQ h1 n1 h0;obtain ⟨M,l4,r4⟩:=qZ (rt:=rt) h2 n2
 have key:a.length≤4∧au a≤4∧(∀j,j<a.length→(a.getD j []).length=au a)∧(∀j,j<a.length→iY rt (a.getD j [])=0):=by
  unfold rM at hm;by_cases e0:a.length=0
  · refine⟨by omega,?_,fun j hj=>by omega,fun j hj=>by omega⟩;unfold au;rw[List.getD_eq_getElem?_getD,List.getElem?_eq_none (by omega)];exact Nat.zero_le _
  · rw[if_neg e0] at hm;by_cases e1:32<a.length∨32<au a
    · rw[if_pos e1] at hm;cases hm
    · rw[if_neg e1] at hm;have e2:fE (tN a) (a.length-0) 0=0:=Classical.byContradiction fun g=>by rw[if_pos g] at hm;exact g hm
      rw[if_neg (by rw[e2];simp)] at hm;refine⟨l4 (by omega),r4 0 (show au a≤32 by omega),fun j hj=>?_,fun j hj=>vt hm j (Nat.zero_le _) (by omega)⟩;have:=vt e2 j (Nat.zero_le _) (by omega);unfold tN at this;exact Classical.byContradiction fun g=>by rw[if_pos g] at this;cases this
 obtain ⟨k1,k2,k3,k4⟩:=key;have rw1:=fun i (hi:i<a.length)=>C4 (M.n i) (fun k hk=>C5 h0 (k4 i hi) hk);have hvl:(rt.map bj).length=rt.length:=List.length_map ..
 have el: ∀i k,ak rt.length (bY (p6 a) i k)∧aq 2 (bY (p6 a) i k):=fun i k=>by
  by_cases hi:i<a.length
  · have:=rw1 i hi;unfold bY;rw[rL];exact⟨this.2.1 k,this.2.2 k⟩
  · unfold bY;rw[l0 (by rw[kT];omega)];exact⟨bn _,bc (by decide)⟩
 refine⟨L,⟨by rw[kT];omega,fun j hj=>?_,by rw[lV];omega,fun i k=>by rw[hvl];exact(el i k).1⟩,fun i k=>(el i k).2,by rw[kT];exact k1,by rw[lV];exact k2,ht,?_,hvl,kT a,lV a⟩
 · rw[kT] at hj;rw[rL,List.length_map,lV];exact k3 j hj
 · show D.sl 1 (a.map lD)=D.sl 1 ((p6 a).map eM);unfold p6;rw[List.map_map]
   congr 1
   refine List.map_congr_left fun r hr=>?_;obtain ⟨k,hk,e⟩:=List.getElem_of_mem hr;have:=(rw1 k hk).1;rw[List.getD_eq_getElem?_getD,List.getElem?_eq_getElem hk] at this;rw[← e];exact this
def ov(rt:List (List RD))(a:List (List (List RD))):Bool:=(s9 rt&&kI a)&&decide (kS rt a=0)
theorem kZ(rt:List (List RD))(a:List (List (List RD)))(n1:Nb2 rt)(n2:Nb3 a):Pure Tryz.prog 24 [TrD rt,MxR a] (dB (ov rt a)):=by
 refine qJ 17 Tryz.func24 rfl rfl rfl rfl (by kernel_rfl) (fun B0 F0 w0=>?_);have c1:=vk rt n1;have c2:=rR a n2;have c3:=fun h1:s9 rt=true=>fun h2:kI a=true=>uS (za h1 n1).1 (qZ (rt:=rt) h2 n2).1;unfold ov;generalize s9 rt=b1 at c1 c3 ⊢;generalize kI a=b2 at c2 c3 ⊢;generalize kS rt a=z at c3 ⊢;refine qX 2 rfl ?_;refine qK 1 rfl ?_;refine ab.call tok rfl rfl rfl rfl c1 ?_;cases b1 with
 | false =>
   refine qU 11 rfl ?_;exact qN rfl
 | true =>
 refine qU 2 rfl ?_;refine ab.call tok rfl rfl rfl rfl c2 ?_;cases b2 with
 | false =>
   refine qU 8 rfl ?_;exact qN rfl
 | true =>
 refine qU 4 rfl ?_;refine ab.call tok rfl rfl rfl rfl (c3 rfl rfl) ?_;refine qU 3 rfl ?_;rw[show ((z:Int)==0)=decide (z=0) by by_cases h:z=0<;>simp[h]];exact qN rfl
end Lift
namespace Lift
open Go Go.Proofs
theorem FO:RT Tryz.prog 53 (List RD) (fun l=>[cY l]) (fun l=>Gd l) :=
 (RT.sliceB 32 (el:=RD.D) (s:=3) Tryz.underlying53 (by kernel_rfl) (by kernel_rfl) (by decide) (Nat.le_of_ble_eq_true (by kernel_rfl)) Fu (fun v=>rfl)).map id (fun l h=>rfl) (fun l h=>⟨by have:=h.1;unfold reachBytes at this;show l.length≤_;omega,vp (fun v hv=>(h.2 v hv).mono (by decide)) ⟨fun _ h=>(by cases h),fun _ h=>(by cases h),Nat.zero_le _,Nat.zero_le _⟩⟩) (fun v=>⟨by kernel_rfl,fun d hd=>by simp at hd;subst hd;rfl⟩)
theorem Br:RT Tryz.prog 22 (List (List RD)) (fun l=>[lD l]) (fun l=>Nb2 l) :=
 (RT.slice (el:=cY) (s:=1) (by kernel_rfl) (by kernel_rfl) (by kernel_rfl) (by decide) (Nat.le_of_ble_eq_true (by kernel_rfl)) FO (fun v=>rfl)).map id (fun l h=>rfl) (fun l h=>⟨Nat.le_trans h.1 (by decide),fun i=>vp (p:=Gd) (l:=l) h.2 Bq i⟩) (fun v=>⟨by kernel_rfl,fun d hd=>by simp at hd;subst hd;rfl⟩)
theorem Dh:Nb2 []:=⟨Nat.zero_le _,fun _=>Bq⟩
theorem n_mat:RT Tryz.prog 25 (List (List (List RD))) (fun l=>[MxR l]) (fun l=>Nb3 l) :=
 (RT.slice (el:=lD) (s:=1) (by kernel_rfl) (by kernel_rfl) (by kernel_rfl) (by decide) (Nat.le_of_ble_eq_true (by kernel_rfl)) Br (fun v=>rfl)).map id (fun l h=>rfl) (fun l h=>⟨Nat.le_trans h.1 (by decide),fun i=>vp (p:=Nb2) (l:=l) h.2 Dh i⟩) (fun v=>⟨by kernel_rfl,fun d hd=>by simp at hd;subst hd;rfl⟩)
theorem n_tower:RT Tryz.prog 24 (List (List RD)) (fun l=>[lD l]) (fun l=>Nb2 l):=by
 have h:=RT.struct (P:=Tryz.prog) (t:=24) (m:=1) Tryz.underlying24 (by kernel_rfl) (Al.cons (by kernel_rfl) Br Al.nil) (fun v=>rfl);exact h.map (fun v=>v.1) (fun v h=>rfl) (fun v h=>h.1) (fun v=>⟨by kernel_rfl,fun d hd=>by simp at hd;subst hd;rfl⟩)
end Lift
namespace Lift
open Go Go.Proofs
theorem zS{m k:Nat}{v:List NQ}{a b:NQ}(V:l8 m v)(ha:ak v.length a)(sa:aq k a)(hb:ak v.length b)(sb:aq k b)(hk:k≤17300000000000):Pure Tryz.prog 110 [bF v,.sl 1 [af a,af b]] (dI 0):=by
 have T:=V.raw.1;obtain ⟨m0,t1,t2,tw,tk⟩:=T.t
 have h0: ∀i,i<[dK a,dK b].length→i=0∨i=1:=fun i hi=>by
  have:i<2:=hi;omega
 have hl:=ha.len (by have:=V.l5;omega);have hl2:=hb.len (by have:=V.l5;omega)
 have h:=sX (jQ v) [dK a,dK b] tw t1 T.l T.ll tk (fun i hi _=>by rcases h0 i hi with rfl | rfl;exact oJ sa;exact oJ sb) (show 2≤1000000 by decide) (fun i hi=>by
  rcases h0 i hi with rfl | rfl
  · show (dK a).length≤_;rw[gd];omega
  · show (dK b).length≤_;rw[gd];omega) hk
 rw[ck2 V ha hb,kK] at h;have e:[dK a,dK b].map cY=[af a,af b]:=by show [cY (dK a),cY (dK b)]=_;rw[oK,oK]
 rw[e] at h;exact h
theorem Bb{m k:Nat}{v:List NQ}{a b:NQ}(V:l8 m v)(ha:ak v.length a)(sa:aq k a)(hb:ak v.length b)(sb:aq k b)(hm:m≤2*k+1)(hk:nM v.length (2*k+1)):Pure Tryz.prog 65 [bF v,af a,af b] (.tu [dI (aV v v.length (cf (aK a (aM b)))),dI 0]):=by
 refine qJ 23 Tryz.func65 rfl rfl rfl rfl (by kernel_rfl) (fun B F0 w0=>?_);have hk2:=rD hk;have ce:=zS V ha sa hb sb (by omega);have h5:=V.l5;have la:=ha.len (by omega);have lb:=hb.len (by omega);have cl:=pD b sb (by omega) (by omega);have cp:=iP a (aM b) sa sb.minus (by omega) (by omega) (by rw[eT];omega);have hp:=ha.plus hb.minus;have cg:=kM v.length (xs:=v.map af) hp h5 V.ro (Nat.le_refl _) (fun j hj=>zk hj) ((sa.plus sb.minus).mono (by omega)) (V.sz.mono hm) hk;rw[jl v.length hp V.ro V.pos (Nat.le_refl _)] at cg;refine qX 3 rfl ?_;refine qI ?_;refine qX 3 rfl ?_;refine ab.fI tok rfl rfl rfl rfl rfl ?_;refine ab.call tok rfl rfl rfl rfl ce ?_;refine qU 1 rfl ?_;refine qK 2 rfl ?_;refine ab.nil ?_;refine AW.ay rfl ?_
 · refine AW.skip (AW.seq ?_);refine AW.draw aP 6 (by kernel_rfl) ?_;refine qP 3 rfl ?_;refine ae.call tok rfl rfl rfl rfl rfl cl ?_;refine ae.call tok rfl rfl rfl rfl rfl cp ?_;refine ae.call tok rfl rfl rfl rfl rfl cg ?_;refine ae.nil ?_;refine qU 2 rfl ?_;exact qN rfl
end Lift
