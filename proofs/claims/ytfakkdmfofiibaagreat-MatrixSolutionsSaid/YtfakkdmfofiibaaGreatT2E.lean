/- Parts of the proof, one behind the other: the logic, the contracts of the functions that the statement reaches. -/
import Derived.Test.YtfakkdmfofiibaaGreatT2D
set_option linter.unusedVariables false
set_option linter.unusedSimpArgs false
namespace Lift
open Go Go.Proofs
abbrev s7(Vs:List Value):List D:=Vs.map D.v
theorem bF{Vs:List Value}{i:Nat}(h:i<Vs.length):(s7 Vs)[i]?=some (.v (Vs.getD i undef)):=by simp[h]
abbrev OA(Vs:List Value):AV:=AV.ow 22 (s7 Vs)
abbrev CA(cols:List Nat):AV:=AV.ow 3 (cols.map (fun c:Nat=>dI c))
def bG(Vs:List Value)(a:bw):List LR:=List.zipWith (fun V r=>(V,fg r)) Vs a
theorem Ce{Vs:List Value}{a:bw}(h:Vs.length=a.length)(V:Value)(r:List NQ):bG (Vs++[V]) (a++[r])=bG Vs a++[(V,fg r)]:=by
 unfold bG;rw[List.zipWith_append h];rfl
theorem gU{Vs:List Value}{a:bw}{j:Nat}(hV:j<Vs.length)(ha:j<a.length):(bG Vs a)[j]?=some (Vs.getD j undef,fg (a.getD j [])):=by
 unfold bG;simp[List.getElem?_zipWith,hV,ha]
theorem sv{Vs:List Value}{a:bw}{j:Nat}(hV:j<Vs.length)(ha:j<a.length)(V:Value)(r:List NQ):(bG Vs a).set j (V,fg r)=bG (Vs.set j V) (a.set j r):=by
 unfold bG;refine List.ext_getElem? (fun k=>?_);by_cases hk:k=j
 · subst hk;rw[List.getElem?_set_self (by simp;omega)];simp[List.getElem?_zipWith,hV,ha]
 · rw[List.getElem?_set_ne (Ne.symm hk)];simp[List.getElem?_zipWith,List.getElem?_set_ne (Ne.symm hk)]
theorem AG{Vs:List Value}{j:Nat}(hV:j<Vs.length):Vs.set j (Vs.getD j undef)=Vs:=by
 refine List.ext_getElem? (fun k=>?_);by_cases hk:k=j
 · subst hk;rw[List.getElem?_set_self hV];simp[hV]
 · rw[List.getElem?_set_ne (Ne.symm hk)]
theorem vK{a:bw}{j:Nat}(ha:j<a.length):a.set j (a.getD j [])=a:=by
 refine List.ext_getElem? (fun k=>?_);by_cases hk:k=j
 · subst hk;rw[List.getElem?_set_self ha];simp[ha]
 · rw[List.getElem?_set_ne (Ne.symm hk)]
theorem qp{Vs:List Value}{a:bw}{j:Nat}(hV:j<Vs.length)(ha:j<a.length)(r:List NQ):(bG Vs a).set j (Vs.getD j undef,fg r)=bG Vs (a.set j r):=by
 rw[sv hV ha,AG hV]
def EY(Vs:List Value)(r t:Nat):List Value:=(Vs.set t (Vs.getD r undef)).set r (Vs.getD t undef)
theorem Cr(Vs:List Value)(r t:Nat):(EY Vs r t).length=Vs.length:=by unfold EY;rw[List.length_set,List.length_set]
theorem Cd{Vs:List Value}{a:bw}{r t:Nat}(h:Vs.length=a.length)(hr:r<a.length)(ht:t<a.length):
  ((bG Vs a).set t (Vs.getD r undef,fg (a.getD r []))).set r (Vs.getD t undef,fg (a.getD t []))=bG (EY Vs r t) (Cq a r t):=by
 rw[sv (by omega) ht,sv (by simp;omega) (by simp;omega)];rfl
theorem Cc{Vs:List Value}{a:bw}{i r:Nat}(h:Vs.length=a.length)(hi:i<a.length)(hr:r<a.length)(hir:i≠r)(z:List NQ):
  ((bG Vs a).set i (Vs.getD i undef,fg z)).set r (Vs.getD r undef,fg (a.getD r []))=bG Vs (a.set i z):=by
 rw[qp (by omega) hi];have e:a.getD r []=(a.set i z).getD r []:=by rw[gC,if_neg (fun g=>hir g.1.symm)]
 rw[e,qp (by omega) (by simpa using hr),vK (by simpa using hr)]
section
variable {P:Program} {T:Ty} {B:Nat} {F0:Nat→Prop} {w0:bY} {n:Nat} {σ τ:St} {K:St→Prop} {all:Array Oper} {o:Oper} {d:Nat} {rest:List Oper} {R:List LR} {x:Code} {Q:Exit→List LR→St→Prop}
theorem ab.yD(hT:bf P T){k e i:Nat}{Vs:List Value}(V:Value)(hd:o.dst=none)(hg:aA all σ o=true)(hx:yL T σ o.op=some (k,.ow e (s7 Vs),s7 Vs,i,0,.v V))(hi:i<Vs.length)
  (h:ab P B F0 w0 n all rest K ((k,.ow e (s7 (Vs.set i V)))::σ)):ab P B F0 w0 n all (o::rest) K σ:=by
 refine ab.iN hT (.v (Vs.getD i undef)) hd hg hx (bF hi) rfl ?_;show ab P B F0 w0 n all rest K ((k,.ow e ((s7 Vs).set i (.v V)))::σ);rw[show (s7 Vs).set i (.v V)=s7 (Vs.set i V) from (List.map_set ..).symm];exact h
theorem AZ.Bx(hT:bf P T){e eo:Nat}{te:TI}(he:T.get e=some te)(h1:te.size=1){Vr:Value}{X:LR}{Vs:List Value}{a:bw}(hl:Vs.length=a.length)
  (h:AZ P B F0 w0 n x Q [(Vr,.ow eo (a.map bu)),X] σ): ∀(m k:Nat),m+k=a.length→ ∀L:List LR,(∀j,k≤j→j<a.length→L[j]?=some (Vs.getD j undef,.ow e ((a.getD j []).map af))) →
  AZ P B F0 w0 n x Q ((Vr,.ow eo ((a.take k).map bu++(s7 Vs).drop k))::X::L) σ
 | 0,k,hk,L,hL=>by
   rw[List.take_of_length_le (by omega),List.drop_eq_nil_of_le (by rw[List.length_map];omega),List.append_nil];refine AZ.DM _ (fun i r hr=> .inl ?_) h
   match i,hr with
   | 0,hr=>exact hr
   | 1,hr=>exact hr
 | m+1,k,hk,L,hL=>by
   have hka:k<a.length:=by omega
   have hll:k<L.length:=(List.getElem?_eq_some_iff.1 (hL k (Nat.le_refl _) hka)).1;have hft:((a.take k).map bu).length=k:=by rw[List.length_map,List.length_take];omega
   refine AZ.Eu hT (k+2) 0 k (cs:=(a.take k).map bu++(s7 Vs).drop k) rfl (fun d hd=>?_) ?_ (hL k (Nat.le_refl _) hka) (by omega) he ?_
   · rcases List.mem_append.1 hd with g | g
     · obtain ⟨r,_,rfl⟩:=List.mem_map.1 g;rfl
     · obtain ⟨V,_,rfl⟩:=List.mem_map.1 (List.mem_of_mem_drop g);rfl
   · rw[List.getElem?_append_right (by omega),hft,Nat.sub_self,List.getElem?_drop,Nat.add_zero];exact bF (by omega)
   · have e1:((a.take k).map bu++(s7 Vs).drop k).set k (.sl te.size ((a.getD k []).map af))=(a.take (k+1)).map bu++(s7 Vs).drop (k+1):=by
      rw[h1,List.set_append_right _ _ (by omega),hft,Nat.sub_self,List.take_succ_eq_append_getElem hka,List.map_append]
      have:(s7 Vs).drop k= .v (Vs.getD k undef)::(s7 Vs).drop (k+1):=by
       rw[List.drop_eq_getElem_cons (by rw[List.length_map];omega)]
       congr 1
       have:=bF (Vs:=Vs) (i:=k) (by omega);rw[List.getElem?_eq_getElem (by rw[List.length_map];omega)] at this;simpa using this
      rw[this,List.set_cons_zero,List.append_assoc];have g:a[k]=a.getD k []:=by rw[List.getD_eq_getElem?_getD,List.getElem?_eq_getElem hka];rfl
      rw[g];rfl
     show AZ P B F0 w0 n x Q ((Vr,.ow eo (((a.take k).map bu++(s7 Vs).drop k).set k (.sl te.size ((a.getD k []).map af))))::X::L.set k (Vs.getD k undef,.junk)) σ;rw[e1]
     exact AZ.Bx hT he h1 hl h m (k+1) (by omega) (L.set k (Vs.getD k undef,.junk)) (fun j hj hja=>by
      rw[List.getElem?_set_ne (by omega)];exact hL j (by omega) hja)
end
abbrev B8(s:jG):D:= .ag [cZ s.rows,.sl 1 (s.cols.map (fun c:Nat=>dI c)),dI s.sg,af s.det]
set_option maxHeartbeats 12800000 in
theorem oK{v:List NQ}(V:kl v){a:bw}{N most:Nat}(ha0:0<a.length)(ha:a.length≤1000000)(hN:N≤1000000)(hmost:most≤N)(hr:cL N a)(hl:pI v.length a)(ok: ∀c,c<most→j6 v (bk v a c) c):
  Pure Tryz.prog 46 [bC v,cZ a,dI most] (.tu [B8 (bk v a most),ao]):=by
 refine qJ 205 Tryz.func46 rfl rfl rfl rfl (by kernel_rfl) (fun B F0 w0=>?_);have cone:=pe (Qr ((1:Int):Rat)) (k:=1) (jH _ (by have:=su;rw[show ((1:Int):Rat)=1 from rfl];omega)) (by decide) (by decide) (zn _);rw[cX,show Fj ((1:Int):Rat)=[1] from rfl] at cone;have htk:=fun {i:Nat} (hi:i<a.length)=>List.take_succ_eq_append_getElem (l:=a) hi;refine AZ.aw ?_;refine AZ.seq ?_;refine AZ.gK (fun B1 F1 w1=>?_);refine qU 3 rfl ?_;refine ab.nil ⟨rfl,?_⟩;refine AZ.seq ?_;refine AZ.gK (fun B1 F1 w1=>?_);refine ab.call tok rfl rfl rfl rfl (iA 1 (by decide) (by decide)) ?_;refine ab.call tok rfl rfl rfl rfl cone ?_;refine ab.EG tok [.v eO,.v eO,dI 0,.sl 3 []] rfl rfl rfl rfl (by kernel_rfl) ?_;refine qU 2 rfl ?_;refine ab.nil ⟨rfl,?_⟩;refine AZ.uS 22 ?_;refine AZ.uS 3 ?_;refine AZ.seq ?_;refine AZ.seq ?_;refine AZ.gK (fun B1 F1 w1=>?_);refine qU 2 rfl ?_;rw[List.length_map];refine qU 1 rfl ?_;refine ab.nil ⟨rfl,?_⟩;refine AZ.block ?_;refine AZ.aE [2,3,6,7,8,22,23,24] (fun s:Nat×Value×List Value=>((s.2.1,OA s.2.2)::(eO,CA [])::bG s.2.2 (a.take s.1),[(2,.d (dI most)),(3,.bx [.sl 1 (v.map af)]),(6,.bx [.sl 1 [],.sl 1 [],dI 0,.sl 3 []]),(7,.d ao),(8,.bx [.v s.2.1,.v eO,dI 1,af [1]]),(22,.d (cZ a)),(23,.d (dI a.length)),(24,.d (dI s.1))])) (fun s=>s.1≤a.length∧s.2.2.length=s.1) (fun s=>a.length-s.1) (0,eO,[]) rfl ⟨Nat.zero_le _,rfl⟩ (fun s hs=>?_);obtain ⟨i,Vr,Vs⟩:=s;obtain ⟨hi,hVs⟩:=hs
 dsimp only at hi hVs
 show AZ _ _ _ _ _ _ _ ((Vr,OA Vs)::(eO,CA [])::bG Vs (a.take i)) [(2,.d (dI most)),(3,.bx [.sl 1 (v.map af)]),(6,.bx [.sl 1 [],.sl 1 [],dI 0,.sl 3 []]),(7,.d ao),(8,.bx [.v Vr,.v eO,dI 1,af [1]]),(22,.d (cZ a)),(23,.d (dI a.length)),(24,.d (dI i))];refine AZ.seq ?_;refine AZ.gK (fun B1 F1 w1=>?_);refine qU 1 rfl ?_;refine ab.nil ⟨rfl,?_⟩;refine AZ.seq ?_;refine AZ.cond rfl (fun h=>?_) (fun h=>?_)
 · have hii:i<a.length:=by have:=of_decide_eq_true h;omega
   have hg:=getM bu (l:=a) (i:=i) hii;have hrl:(a.getD i []).length≤1000000:=by rw[hr i hii];exact hN
   have htk:=htk hii;have hge:a[i]=a.getD i []:=by rw[List.getD_eq_getElem?_getD,List.getElem?_eq_getElem hii];rfl
   rw[hge] at htk;generalize a.getD i []=row at hg hrl htk;refine AZ.skip ?_;refine AZ.seq ?_;refine AZ.block ?_;refine AZ.seq ?_;refine AZ.gK (fun B1 F1 w1=>?_);refine ab.idx tok (bu row) rfl rfl rfl rfl (Int.natCast_nonneg i) hg ?_;refine qU 2 rfl ?_;refine ab.nil ⟨rfl,?_⟩;refine AZ.any aM (ZH.any (β:=[]) ?_);refine ZH.mv 2 rfl rfl (by kernel_rfl) (by kernel_rfl) (by kernel_rfl) rfl (fun _ _ _ h=>h) (fun _=>rfl) trivial (fun B1 F1 w1=>?_);refine qU 1 rfl ?_;refine ab.nil ⟨rfl,?_⟩;refine ZH.fd tok 0 rfl rfl (by kernel_rfl) (by kernel_rfl) (by kernel_rfl) rfl (fun _ _ _ h=>h) (fun _=>rfl) trivial (fun B1 F1 w1=>?_);refine qU 1 rfl ?_;refine ab.nil ⟨rfl,?_⟩;refine ZH.meet 3 (qB 8 31) (fun V=>(((Vr,OA Vs)::(eO,CA [])::bG Vs (a.take i))++[(V,fg row)])) (fun V=>[(2,.d (dI most)),(3,.bx [.sl 1 (v.map af)]),(6,.bx [.sl 1 [],.sl 1 [],dI 0,.sl 3 []]),(7,.d ao),(8,.bx [.v Vr,.v eO,dI 1,af [1]]),(22,.d (cZ a)),(23,.d (dI a.length)),(24,.d (dI i)),(10,.d (bu row)),(30,.d (bu row)),(28,.pt 8 0),(29,.d (.v Vr)),(31,.d (.v V)),(32,.d (.sl 1 [.v V]))]) (fun V=>?_) (fun N1_2=>?_)
   · refine ZH.all 5 (by kernel_rfl) rfl rfl (fun _=>rfl) trivial ?_;refine aj.fa 29 0 rfl rfl rfl ?_;refine aj.cut 1 rfl (fun B1 F1 w1=>?_);refine ab.gP tok rfl rfl rfl rfl rfl rfl (by show ((s7 Vs).length+1)*24≤_;rw[List.length_map];omega) (by show (s7 Vs).length+1≤_;rw[List.length_map];omega) ?_;refine ab.nil ⟨rfl,?_⟩;refine aj.wA 33 0 rfl rfl rfl rfl (fun Vq=>?_)
     refine aj.rX (R':=(Vq,OA (Vs++[V]))::(eO,CA [])::bG (Vs++[V]) (a.take (i+1))) (by
      show (Vq,AV.ow 22 (s7 Vs++[.v V]))::(eO,CA [])::(bG Vs (a.take i)++[(V,fg row)])=_
      rw[htk,Ce (by rw[List.length_take];omega),show s7 Vs++[.v V]=s7 (Vs++[V]) by simp]) ?_
     refine aj.nil ?_;refine ZH.to [2,3,6,7,8,22,23,24,10,30,28,32,33] [(2,.d (dI most)),(3,.bx [.sl 1 (v.map af)]),(6,.bx [.sl 1 [],.sl 1 [],dI 0,.sl 3 []]),(7,.d ao),(8,.bx [.v Vr,.v eO,dI 1,af [1]]),(22,.d (cZ a)),(23,.d (dI a.length)),(24,.d (dI i)),(10,.d (bu row)),(30,.d (bu row)),(28,.pt 8 0),(32,.d (.sl 1 [.v V])),(33,.d (.v Vq))] rfl trivial ?_;refine ZH.all 6 (by kernel_rfl) rfl rfl (fun _=>rfl) trivial ?_;refine ak (fun B1 F1 w1=>?_);refine qU 1 rfl ?_;refine ab.nil ⟨rfl,?_⟩;refine ZH.all 7 (by kernel_rfl) rfl rfl (fun _=>rfl) trivial ?_;refine ak (fun B1 F1 w1=>?_);refine qU 1 rfl ?_;refine ab.nil ⟨rfl,?_⟩;refine ZH.done (by kernel_rfl) trivial ?_;refine AZ.to [2,3,6,7,8,22,23,24] [(2,.d (dI most)),(3,.bx [.sl 1 (v.map af)]),(6,.bx [.sl 1 [],.sl 1 [],dI 0,.sl 3 []]),(7,.d ao),(8,.bx [.v Vq,.v eO,dI 1,af [1]]),(22,.d (cZ a)),(23,.d (dI a.length)),(24,.d (dI i))] rfl ?_;refine AZ.gK (fun B1 F1 w1=>?_);refine qU 1 rfl ?_;rw[aC (x:=(i:Int)+1) (by omega) (by omega)];refine qU 1 rfl ?_;refine ab.nil ⟨rfl,?_⟩;exact⟨(i+1,Vq,Vs++[V]),rfl,⟨hii,by show (Vs++[V]).length=i+1;rw[List.length_append];show Vs.length+1=_;omega⟩,by show a.length-(i+1)<a.length-i;omega⟩
   refine ZH.meet 4 (qB 8 29) (fun V=>(((Vr,OA Vs)::(eO,CA [])::bG Vs (a.take i))++[(V,fg row)])) (fun V=>[(2,.d (dI most)),(3,.bx [.sl 1 (v.map af)]),(6,.bx [.sl 1 [],.sl 1 [],dI 0,.sl 3 []]),(7,.d ao),(8,.bx [.v Vr,.v eO,dI 1,af [1]]),(22,.d (cZ a)),(23,.d (dI a.length)),(24,.d (dI i)),(10,.d (bu row)),(30,.d (bu row)),(28,.pt 8 0),(31,.d (.v V)),(32,.d (.sl 1 [.v V]))]) (fun V=>?_) (fun N0_2=>?_)
   · refine ZH.all 1 (by kernel_rfl) rfl rfl (fun _=>rfl) trivial ?_;refine ak (fun B1 F1 w1=>?_);refine qU 1 rfl ?_;refine ab.nil ⟨rfl,?_⟩;exact qL (N1_2 V) (by kernel_rfl) rfl trivial
   refine ZH.meet 4 (qB 8 15) (fun V=>(((Vr,OA Vs)::(eO,CA [])::bG Vs (a.take i))++[(V,fg row)])) (fun V=>[(2,.d (dI most)),(3,.bx [.sl 1 (v.map af)]),(6,.bx [.sl 1 [],.sl 1 [],dI 0,.sl 3 []]),(7,.d ao),(8,.bx [.v Vr,.v eO,dI 1,af [1]]),(22,.d (cZ a)),(23,.d (dI a.length)),(24,.d (dI i)),(10,.d (bu row)),(30,.d (bu row)),(28,.pt 8 0),(29,.d (.v Vr)),(31,.d (.v V))]) (fun V=>?_) (fun N1_1=>?_)
   · refine ZH.all 4 (by kernel_rfl) rfl rfl (fun _=>rfl) trivial ?_;refine ak (fun B1 F1 w1=>?_);refine ab.e7 tok rfl rfl rfl rfl rfl ?_;refine ab.nil ⟨rfl,?_⟩;exact qL (N1_2 V) (by kernel_rfl) rfl trivial
   refine ZH.meet 5 (qB 8 13) (fun V=>(((Vr,OA Vs)::(eO,CA [])::bG Vs (a.take i))++[(V,fg row)])) (fun V=>[(2,.d (dI most)),(3,.bx [.sl 1 (v.map af)]),(6,.bx [.sl 1 [],.sl 1 [],dI 0,.sl 3 []]),(7,.d ao),(8,.bx [.v Vr,.v eO,dI 1,af [1]]),(22,.d (cZ a)),(23,.d (dI a.length)),(24,.d (dI i)),(10,.d (bu row)),(30,.d (bu row)),(28,.pt 8 0),(31,.d (.v V))]) (fun V=>?_) (fun N0_1=>?_)
   · refine ZH.two 1 4 (by kernel_rfl) rfl rfl rfl rfl (fun _=>rfl) (fun _=>rfl) trivial ?_ ?_
     · refine ak (fun B1 F1 w1=>?_);refine qU 1 rfl ?_;refine ab.nil ⟨rfl,?_⟩;exact qL (N1_1 V) (by kernel_rfl) rfl trivial
     · refine ak (fun B1 F1 w1=>?_);refine ab.e7 tok rfl rfl rfl rfl rfl ?_;refine ab.nil ⟨rfl,?_⟩;exact qL (N0_2 V) (by kernel_rfl) rfl trivial
   refine ZH.meet 5 (qB 8 7) (fun V=>((Vr,OA Vs)::(eO,CA [])::bG Vs (a.take i))) (fun V=>[(2,.d (dI most)),(3,.bx [.sl 1 (v.map af)]),(6,.bx [.sl 1 [],.sl 1 [],dI 0,.sl 3 []]),(7,.d ao),(8,.bx [.v Vr,.v eO,dI 1,af [1]]),(22,.d (cZ a)),(23,.d (dI a.length)),(24,.d (dI i)),(10,.d (bu row)),(30,.d (bu row)),(28,.pt 8 0),(29,.d (.v Vr))]) (fun V=>?_) (fun N1_0=>?_)
   · refine ZH.all 3 (by kernel_rfl) rfl rfl (fun _=>rfl) trivial ?_;refine aj.iD tok [] rfl rfl rfl rfl rfl List.nodup_nil rfl (jC row hrl) (fun _ _ _=>Nat.zero_le _) (fun res R1 hP=>?_);obtain ⟨V,rfl,rfl⟩:=hP;refine aj.nil ?_;exact qL (N1_1 V) (by kernel_rfl) rfl trivial
   refine ZH.meet 6 (qB 8 5) (fun V=>((Vr,OA Vs)::(eO,CA [])::bG Vs (a.take i))) (fun V=>[(2,.d (dI most)),(3,.bx [.sl 1 (v.map af)]),(6,.bx [.sl 1 [],.sl 1 [],dI 0,.sl 3 []]),(7,.d ao),(8,.bx [.v Vr,.v eO,dI 1,af [1]]),(22,.d (cZ a)),(23,.d (dI a.length)),(24,.d (dI i)),(10,.d (bu row)),(30,.d (bu row)),(28,.pt 8 0)]) (fun V=>?_) (fun N0_0=>?_)
   · refine ZH.two 1 3 (by kernel_rfl) rfl rfl rfl rfl (fun _=>rfl) (fun _=>rfl) trivial ?_ ?_
     · refine ak (fun B1 F1 w1=>?_);refine qU 1 rfl ?_;refine ab.nil ⟨rfl,?_⟩;exact qL (N1_0 V) (by kernel_rfl) rfl trivial
     · refine aj.iD tok [] rfl rfl rfl rfl rfl List.nodup_nil rfl (jC row hrl) (fun _ _ _=>Nat.zero_le _) (fun res R1 hP=>?_);obtain ⟨V,rfl,rfl⟩:=hP;refine aj.nil ?_;exact qL (N0_1 V) (by kernel_rfl) rfl trivial
   exact qL (N0_0 eO) (by kernel_rfl) rfl trivial
 have hii:i=a.length:=by have:=of_decide_eq_false h;omega
 subst hii;rw[List.take_length];refine AZ.exit ?_;refine AZ.seq ?_;refine AZ.seq ?_;refine AZ.gK (fun B1 F1 w1=>?_);refine qU 2 rfl ?_;refine ab.nil ⟨rfl,?_⟩;refine AZ.block ?_;refine AZ.aE [3,6,7,8,36,37] (fun z:Nat×Value×Value×List Value=>((z.2.1,OA z.2.2.2)::(z.2.2.1,CA (bk v a z.1).cols)::bG z.2.2.2 (bk v a z.1).rows,[(3,.bx [.sl 1 (v.map af)]),(6,.bx [.sl 1 [],.sl 1 [],dI 0,.sl 3 []]),(7,.d ao),(8,.bx [.v z.2.1,.v z.2.2.1,dI (bk v a z.1).sg,af (bk v a z.1).det]),(36,.d (dI most)),(37,.d (dI z.1))])) (fun z=>z.1≤most∧z.2.2.2.length=a.length) (fun z=>most-z.1) (0,Vr,eO,Vs) rfl ⟨Nat.zero_le _,hVs⟩ (fun z hz=>?_);clear hVs;clear Vr Vs;obtain ⟨c,Vr,Vc,Vs⟩:=z;obtain ⟨hc,hVs⟩:=hz
 dsimp only at hc hVs
 have hR:=fN V hr hl c;have hnext:bk v a (c+1)=dM v (bk v a c) c:=rfl;have hok:=ok c;obtain ⟨s,hs⟩: ∃s,bk v a c=s:=⟨_,rfl⟩;rw[hs] at hR hnext hok;show AZ _ _ _ _ _ _ _ ((Vr,OA Vs)::(Vc,CA (bk v a c).cols)::bG Vs (bk v a c).rows) [(3,.bx [.sl 1 (v.map af)]),(6,.bx [.sl 1 [],.sl 1 [],dI 0,.sl 3 []]),(7,.d ao),(8,.bx [.v Vr,.v Vc,dI (bk v a c).sg,af (bk v a c).det]),(36,.d (dI most)),(37,.d (dI c))];rw[hs];refine AZ.seq ?_;refine AZ.gK (fun B1 F1 w1=>?_);refine qU 1 rfl ?_;refine ab.nil ⟨rfl,?_⟩;refine AZ.seq ?_;refine AZ.cond rfl (fun h=>?_) (fun h=>?_);rotate_left
 · have hcm:c=most:=by have:=of_decide_eq_false h;omega
   subst hcm;rw[hs];refine AZ.exit ?_;refine AZ.DM ((Vr,AV.ow 22 ((s.rows.take 0).map bu++(s7 Vs).drop 0))::(Vc,CA s.cols)::bG Vs s.rows) (fun _ _ h=> .inl h) ?_;refine AZ.Bx (te:=_) tok (e:=53) rfl rfl (by rw[hR.len];exact hVs) ?_ s.rows.length 0 (by omega) (bG Vs s.rows) (fun j _ hj=>gU (by rw[hVs,← hR.len];exact hj) hj);refine AZ.Da tok 8 0 0 rfl rfl rfl rfl ?_;refine AZ.Da tok 8 1 1 rfl rfl rfl rfl ?_;refine AZ.seq ?_;refine AZ.gK (fun B1 F1 w1=>?_);refine qU 3 rfl ?_;refine ab.nil ⟨rfl,?_⟩;exact AZ.ret rfl
 have hcm:c<most:=by have:=of_decide_eq_true h;omega
 have hok:=hok hcm;have hm:=hR.len;have hcN:c<N:=by omega
 have hVm:Vs.length=s.rows.length:=by omega
 have hrm:=hR.cm;rw[← hm] at hrm;obtain ⟨hat1,hat2,hat3,hat4⟩:=iE v s c hrm;have hrow0:0<s.rows.length:=by omega
 have hm6:s.rows.length≤1000000:=by omega
 have hel: ∀{b:bw} {i:Nat},cL N b→i<b.length→ ∀k,k<N→((b.getD i []).map af)[k]?=some (af (bX b i k)):=fun {b i} hb hi k hk=>getM af (by rw[hb i hi];exact hk);refine AZ.skip ?_;refine AZ.seq ?_;refine AZ.block ?_;refine AZ.seq ?_;refine AZ.gK (fun B1 F1 w1=>?_);refine qU 2 rfl ?_;refine ab.nil ⟨rfl,?_⟩;refine AZ.seq ?_;refine AZ.region ?_;refine aj.cut 2 rfl (fun B1 F1 w1=>?_);refine qU 2 rfl ?_;refine ab.nil ⟨rfl,?_⟩;refine aj.fa 41 1 rfl rfl rfl ?_;refine aj.cut 1 rfl (fun B1 F1 w1=>?_);refine qU 1 rfl ?_;rw[List.length_map];refine ab.nil ⟨rfl,?_⟩;refine aj.back 41 1 rfl rfl rfl (List.Mem.head _) rfl ?_;refine aj.cut 1 rfl (fun B1 F1 w1=>?_);refine qU 1 rfl ?_;refine ab.nil ⟨rfl,?_⟩;refine aj.nil ?_;refine AZ.to [3,6,7,8,11,12,36,37] [(3,.bx [.sl 1 (v.map af)]),(6,.bx [.sl 1 [],.sl 1 [],dI 0,.sl 3 []]),(7,.d ao),(8,.bx [.v Vr,.v Vc,dI s.sg,af s.det]),(11,.d (dI c)),(12,.d (dI s.cols.length)),(36,.d (dI most)),(37,.d (dI c))] rfl ?_;refine AZ.seq ?_;refine AZ.gK (fun B1 F1 w1=>?_);refine qU 2 rfl ?_;refine ab.nil ⟨rfl,?_⟩;refine AZ.cut [3,6,7,8,11,12,13,36,37] (fun _:Unit=>(((Vr,OA Vs)::(Vc,CA s.cols)::bG Vs s.rows),[(3,.bx [.sl 1 (v.map af)]),(6,.bx [.sl 1 [],.sl 1 [],dI 0,.sl 3 []]),(7,.d ao),(8,.bx [.v Vr,.v Vc,dI s.sg,af s.det]),(11,.d (dI c)),(12,.d (dI s.cols.length)),(13,.d (dI (atR v s c))),(36,.d (dI most)),(37,.d (dI c))])) (fun _=>True) ?_ (fun _ _=>?_)
 · refine AZ.block ?_;refine AZ.aE [3,6,7,8,11,12,13,36,37] (fun j:Nat=>(((Vr,OA Vs)::(Vc,CA s.cols)::bG Vs s.rows),[(3,.bx [.sl 1 (v.map af)]),(6,.bx [.sl 1 [],.sl 1 [],dI 0,.sl 3 []]),(7,.d ao),(8,.bx [.v Vr,.v Vc,dI s.sg,af s.det]),(11,.d (dI c)),(12,.d (dI s.cols.length)),(13,.d (dI j)),(36,.d (dI most)),(37,.d (dI c))])) (fun j=>s.cols.length≤j∧j≤s.rows.length∧gh (Cg v s.rows c) (s.rows.length-j) j=atR v s c) (fun j=>s.rows.length-j) s.cols.length rfl ⟨Nat.le_refl _,hrm,rfl⟩ (fun j hj=>?_);show AZ _ _ _ _ _ _ _ ((Vr,OA Vs)::(Vc,CA s.cols)::bG Vs s.rows) [(3,.bx [.sl 1 (v.map af)]),(6,.bx [.sl 1 [],.sl 1 [],dI 0,.sl 3 []]),(7,.d ao),(8,.bx [.v Vr,.v Vc,dI s.sg,af s.det]),(11,.d (dI c)),(12,.d (dI s.cols.length)),(13,.d (dI j)),(36,.d (dI most)),(37,.d (dI c))];obtain ⟨j1,j2,j3⟩:=hj;refine AZ.seq ?_;refine AZ.seq ?_;refine AZ.any aM (w6.zb 18 (by kernel_rfl) (fun B1 F1 w1 hS=>?_));have hS0:=hS.at (i:=0) rfl (by rw[List.length_map];omega);refine qP 3 rfl ?_;refine ae.lens tok hS0 rfl rfl rfl rfl rfl ?_;rw[List.length_map];refine qP 1 rfl ?_;by_cases hjm:j<s.rows.length;rotate_left
   · rw[rM hjm] at j3;rw[decide_eq_false (show ¬(j:Int)<(Vs.length:Int) by omega)];refine qP 13 rfl ?_;refine ae.nil ⟨rfl,?_⟩;refine aj.nil ?_;refine AZ.au rfl ?_;exact AZ.exit ⟨(),by rw[← j3];rfl,trivial⟩
   rw[decide_eq_true (show (j:Int)<(Vs.length:Int) by omega)];have hj6:(s.rows.getD j []).length=N:=hR.rect j hjm;have hS1:=hS.at (i:=j+2) (gU (Vs:=Vs) (by omega) hjm) (by rw[List.length_map];omega);have cs:=im V (hR.lt j c) (hok.sg j j1 hjm);have hnz:Cg v s.rows c j=decide (oh v (bX s.rows j c)≠0):=rfl;generalize oh v (bX s.rows j c)=g at cs hnz;refine qP 5 rfl ?_;refine ae.idxs tok hS0 rfl rfl rfl rfl rfl (Int.natCast_nonneg j) (by rw[List.length_map];omega) ?_;refine ae.aX tok (.v (Vs.getD j undef)) hS0 rfl rfl rfl rfl rfl rfl rfl (bF (by omega)) rfl ?_;refine qP 1 rfl ?_;refine ae.idxs tok hS1 rfl rfl rfl rfl rfl (Int.natCast_nonneg c) (by rw[List.length_map];omega) ?_;refine ae.aX tok (af (bX s.rows j c)) hS1 rfl rfl rfl rfl rfl rfl rfl (hel hR.rect hjm c hcN) rfl ?_;refine ae.call tok rfl rfl rfl rfl rfl cs ?_;refine qP 2 rfl ?_;refine ae.nil ⟨rfl,?_⟩;refine aj.nil ?_;refine AZ.cond rfl (fun h=>?_) (fun h=>?_)
   · have hg:g=0:=beq_iff_eq.1 h;refine AZ.skip ?_;refine AZ.block ?_;refine AZ.gK (fun B1 F1 w1=>?_);refine qU 2 rfl ?_;rw[aC (x:=(j:Int)+1) (by omega) (by omega)];refine qU 1 rfl ?_;refine ab.nil ⟨rfl,?_⟩;exact⟨j+1,rfl,⟨by omega,hjm,by rw[← oU hjm (by rw[hnz,hg];rfl)];exact j3⟩,by omega⟩
   · have hg:g≠0:=beq_eq_false_iff_ne.1 h;rw[rL hjm (by rw[hnz,decide_eq_true hg])] at j3;exact AZ.exit ⟨(),by rw[← j3];rfl,trivial⟩
 show AZ _ _ _ _ _ _ _ ((Vr,OA Vs)::(Vc,CA s.cols)::bG Vs s.rows) [(3,.bx [.sl 1 (v.map af)]),(6,.bx [.sl 1 [],.sl 1 [],dI 0,.sl 3 []]),(7,.d ao),(8,.bx [.v Vr,.v Vc,dI s.sg,af s.det]),(11,.d (dI c)),(12,.d (dI s.cols.length)),(13,.d (dI (atR v s c))),(36,.d (dI most)),(37,.d (dI c))];refine AZ.seq ?_;refine AZ.seq ?_;refine AZ.AN (fun B1 F1 w1 hS=>?_);refine qU 3 rfl ?_;refine ab.lens tok (hS.at (i:=0) rfl (by rw[List.length_map];omega)) rfl rfl rfl rfl ?_;rw[List.length_map];refine qU 1 rfl ?_;refine ab.nil ⟨rfl,?_⟩;refine AZ.cond rfl (fun h=>?_) (fun h=>?_)
 · have hat: ¬atR v s c<s.rows.length:=by have:=of_decide_eq_true h;omega
   have hst:bk v a (c+1)=s:=by rw[hnext];unfold dM;rw[if_neg hat]
   refine AZ.exit ?_;refine AZ.gK (fun B1 F1 w1=>?_);refine qU 1 rfl ?_;rw[aC (x:=(c:Int)+1) (by omega) (by omega)];refine qU 1 rfl ?_;refine ab.nil ⟨rfl,?_⟩;exact⟨(c+1,Vr,Vc,Vs),by rw[hst];rfl,⟨hcm,hVs⟩,by show most-(c+1)<most-c;omega⟩
 have hat:atR v s c<s.rows.length:=by have:=of_decide_eq_false h;omega
 have hst:bk v a (c+1)=⟨db v (eR v s c) s.cols.length c (eR v s c).length,s.cols++[c],if atR v s c=s.cols.length then s.sg else -s.sg,js v s.det (pR v s c)⟩:=by rw[hnext];unfold dM;rw[if_pos hat]
 obtain ⟨hb1,hb2,hb3⟩:=wX (c:=c) hR hat;obtain ⟨he1,he2,he3⟩:=za V (c:=c) hR hat;have hbr:bR v s c=if atR v s c=s.cols.length then s.rows else Cq s.rows s.cols.length (atR v s c):=rfl
 have hpr:pR v s c=bX (bR v s c) s.cols.length c:=rfl;have hE:eR v s c=(bR v s c).set s.cols.length (w8 v ((bR v s c).getD s.cols.length []) (pR v s c)):=rfl;have okd:=hok.det hat;have okv:=hok.div hat;have oks:=hok.sg2 hat;have okt:=hok.take hat;generalize bR v s c=b at *;generalize pR v s c=p at *;generalize eR v s c=e at *;generalize atR v s c=t at *;refine AZ.skip ?_;refine AZ.cut [3,6,7,8,11,12,36,37] (fun Ws:List Value=>(((Vr,OA Ws)::(Vc,CA s.cols)::bG Ws b),[(3,.bx [.sl 1 (v.map af)]),(6,.bx [.sl 1 [],.sl 1 [],dI 0,.sl 3 []]),(7,.d ao),(8,.bx [.v Vr,.v Vc,dI (if t=s.cols.length then s.sg else -s.sg),af s.det]),(11,.d (dI c)),(12,.d (dI s.cols.length)),(36,.d (dI most)),(37,.d (dI c))])) (fun Ws=>Ws.length=b.length) ?_ (fun Ws hWs=>?_)
 · refine AZ.seq ?_;refine AZ.gK (fun B1 F1 w1=>?_);refine qU 3 rfl ?_;refine ab.nil ⟨rfl,?_⟩;by_cases htr:t=s.cols.length
   · rw[if_pos htr] at hbr;rw[bne_eq_false_iff_eq.2 (show (t:Int)=(s.cols.length:Int) by omega)];refine AZ.au rfl ?_;refine AZ.skip ?_;exact⟨Vs,by rw[if_pos htr,hbr];rfl,by omega⟩
   rw[if_neg htr] at hbr;rw[bne_iff_ne.2 (show (t:Int)≠(s.cols.length:Int) by omega)];refine AZ.aF rfl ?_;refine AZ.seq ?_;refine AZ.any aM (ZH.any (β:=[(8,[.v Vr,.v Vc,dI s.sg,af s.det])]) ?_);refine ZH.mv 2 rfl rfl (by kernel_rfl) (by kernel_rfl) (by kernel_rfl) rfl (fun _ _ _ h=>h) (fun _=>rfl) ⟨rfl,trivial⟩ (fun B1 F1 w1=>?_);refine qU 1 rfl ?_;refine ab.nil ⟨rfl,?_⟩;refine ZH.mv 5 rfl rfl (by kernel_rfl) (by kernel_rfl) (by kernel_rfl) rfl (fun _ _ _ h=>h) (fun _=>rfl) ⟨rfl,trivial⟩ (fun B1 F1 w1=>?_);refine qU 1 rfl ?_;refine ab.nil ⟨rfl,?_⟩;refine ZH.mv 8 rfl rfl (by kernel_rfl) (by kernel_rfl) (by kernel_rfl) rfl (fun _ _ _ h=>h) (fun _=>rfl) ⟨rfl,trivial⟩ (fun B1 F1 w1=>?_);refine qU 1 rfl ?_;refine ab.nil ⟨rfl,?_⟩;refine ZH.mv 13 rfl rfl (by kernel_rfl) (by kernel_rfl) (by kernel_rfl) rfl (fun _ _ _ h=>h) (fun _=>rfl) ⟨rfl,trivial⟩ (fun B1 F1 w1=>?_);refine qU 1 rfl ?_;refine ab.nil ⟨rfl,?_⟩;refine ZH.fd tok 0 rfl rfl (by kernel_rfl) (by kernel_rfl) (by kernel_rfl) rfl (fun _ _ _ h=>h) (fun _=>rfl) ⟨rfl,trivial⟩ (fun B1 F1 w1=>?_);refine qU 1 rfl ?_;refine ab.nil ⟨rfl,?_⟩;refine ZH.fd tok 3 rfl rfl (by kernel_rfl) (by kernel_rfl) (by kernel_rfl) rfl (fun _ _ _ h=>h) (fun _=>rfl) ⟨rfl,trivial⟩ (fun B1 F1 w1=>?_);refine qU 1 rfl ?_;refine ab.nil ⟨rfl,?_⟩;refine ZH.fd tok 6 rfl rfl (by kernel_rfl) (by kernel_rfl) (by kernel_rfl) rfl (fun _ _ _ h=>h) (fun _=>rfl) ⟨rfl,trivial⟩ (fun B1 F1 w1=>?_);refine qU 1 rfl ?_;refine ab.nil ⟨rfl,?_⟩;refine ZH.fd tok 11 rfl rfl (by kernel_rfl) (by kernel_rfl) (by kernel_rfl) rfl (fun _ _ _ h=>h) (fun _=>rfl) ⟨rfl,trivial⟩ (fun B1 F1 w1=>?_);refine qU 1 rfl ?_;refine ab.nil ⟨rfl,?_⟩;refine ZH.ld tok 1 rfl rfl (by kernel_rfl) (by kernel_rfl) (by kernel_rfl) rfl rfl (fun _ _ _ h=>h) (fun _=>rfl) ⟨rfl,trivial⟩ (fun B1 F1 w1=>?_);refine qU 1 rfl ?_;refine ab.nil ⟨rfl,?_⟩;refine ZH.ld tok 4 rfl rfl (by kernel_rfl) (by kernel_rfl) (by kernel_rfl) rfl rfl (fun _ _ _ h=>h) (fun _=>rfl) ⟨rfl,trivial⟩ (fun B1 F1 w1=>?_);refine qU 1 rfl ?_;refine ab.nil ⟨rfl,?_⟩;refine ZH.ld tok 7 rfl rfl (by kernel_rfl) (by kernel_rfl) (by kernel_rfl) rfl rfl (fun _ _ _ h=>h) (fun _=>rfl) ⟨rfl,trivial⟩ (fun B1 F1 w1=>?_);refine qU 1 rfl ?_;refine ab.nil ⟨rfl,?_⟩;refine ZH.ld tok 12 rfl rfl (by kernel_rfl) (by kernel_rfl) (by kernel_rfl) rfl rfl (fun _ _ _ h=>h) (fun _=>rfl) ⟨rfl,trivial⟩ (fun B1 F1 w1=>?_);refine qU 1 rfl ?_;refine ab.nil ⟨rfl,?_⟩;refine ZH.meet 4 (qB 20 65535) (fun V=>((Vr,OA Vs)::(Vc,CA s.cols)::bG Vs s.rows)) (fun V=>[(3,.bx [.sl 1 (v.map af)]),(6,.bx [.sl 1 [],.sl 1 [],dI 0,.sl 3 []]),(7,.d ao),(8,.bx [.v Vr,.v Vc,dI s.sg,af s.det]),(11,.d (dI c)),(12,.d (dI s.cols.length)),(13,.d (dI t)),(36,.d (dI most)),(37,.d (dI c)),(73,.d (.v Vr)),(74,.d (dI t)),(76,.d (.v Vr)),(77,.d (dI s.cols.length)),(79,.d (.v Vr)),(80,.d (dI s.cols.length)),(84,.d (.v Vr)),(85,.d (dI t)),(82,.d (.v (Vs.getD s.cols.length undef))),(87,.d (.v (Vs.getD t undef)))]) (fun V=>?_) (fun N2_2=>?_)
   · refine ZH.all 16 (by kernel_rfl) rfl rfl (fun _=>rfl) ⟨rfl,trivial⟩ ?_;refine ai (fun B1 F1 w1 hS=>?_);refine ab.idxs tok (hS.at (i:=0) rfl (by rw[List.length_map];omega)) rfl rfl rfl rfl (Int.natCast_nonneg _) (by show t<_;rw[List.length_map];omega) ?_;refine ab.nil ⟨rfl,?_⟩;refine ZH.to [3,6,7,8,11,12,13,36,37,73,74,76,77,79,80,84,85,82,87,88] [(3,.bx [.sl 1 (v.map af)]),(6,.bx [.sl 1 [],.sl 1 [],dI 0,.sl 3 []]),(7,.d ao),(8,.bx [.v Vr,.v Vc,dI s.sg,af s.det]),(11,.d (dI c)),(12,.d (dI s.cols.length)),(13,.d (dI t)),(36,.d (dI most)),(37,.d (dI c)),(73,.d (.v Vr)),(74,.d (dI t)),(76,.d (.v Vr)),(77,.d (dI s.cols.length)),(79,.d (.v Vr)),(80,.d (dI s.cols.length)),(84,.d (.v Vr)),(85,.d (dI t)),(82,.d (.v (Vs.getD s.cols.length undef))),(87,.d (.v (Vs.getD t undef))),(88,.d (.v (bg Vr (t*1))))] rfl ⟨rfl,trivial⟩ ?_;refine ZH.all 17 (by kernel_rfl) rfl rfl (fun _=>rfl) ⟨rfl,trivial⟩ ?_;refine aj.fa 73 0 rfl rfl rfl ?_;refine aj.el tok 73 88 rfl (List.Mem.head _) rfl rfl rfl (by rw[List.length_map];omega) rfl ?_;refine aj.cut 1 rfl (fun B1 F1 w1=>?_);refine ab.yD tok (Vs.getD s.cols.length undef) rfl rfl rfl (by omega) ?_;refine ab.nil ⟨rfl,?_⟩;refine aj.back 73 0 rfl rfl rfl (List.Mem.head _) rfl ?_;refine aj.nil ?_;refine ZH.to [3,6,7,8,11,12,13,36,37,73,74,76,77,79,80,84,85,82,87] [(3,.bx [.sl 1 (v.map af)]),(6,.bx [.sl 1 [],.sl 1 [],dI 0,.sl 3 []]),(7,.d ao),(8,.bx [.v Vr,.v Vc,dI s.sg,af s.det]),(11,.d (dI c)),(12,.d (dI s.cols.length)),(13,.d (dI t)),(36,.d (dI most)),(37,.d (dI c)),(73,.d (.v Vr)),(74,.d (dI t)),(76,.d (.v Vr)),(77,.d (dI s.cols.length)),(79,.d (.v Vr)),(80,.d (dI s.cols.length)),(84,.d (.v Vr)),(85,.d (dI t)),(82,.d (.v (Vs.getD s.cols.length undef))),(87,.d (.v (Vs.getD t undef)))] rfl ⟨rfl,trivial⟩ ?_;refine ZH.all 18 (by kernel_rfl) rfl rfl (fun _=>rfl) ⟨rfl,trivial⟩ ?_;refine ai (fun B1 F1 w1 hS=>?_);refine ab.idxs tok (hS.at (i:=0) rfl (by rw[List.length_map,List.length_set];omega)) rfl rfl rfl rfl (Int.natCast_nonneg _) (by show s.cols.length<_;rw[List.length_map,List.length_set];omega) ?_;refine ab.nil ⟨rfl,?_⟩;refine ZH.to [3,6,7,8,11,12,13,36,37,73,74,76,77,79,80,84,85,82,87,89] [(3,.bx [.sl 1 (v.map af)]),(6,.bx [.sl 1 [],.sl 1 [],dI 0,.sl 3 []]),(7,.d ao),(8,.bx [.v Vr,.v Vc,dI s.sg,af s.det]),(11,.d (dI c)),(12,.d (dI s.cols.length)),(13,.d (dI t)),(36,.d (dI most)),(37,.d (dI c)),(73,.d (.v Vr)),(74,.d (dI t)),(76,.d (.v Vr)),(77,.d (dI s.cols.length)),(79,.d (.v Vr)),(80,.d (dI s.cols.length)),(84,.d (.v Vr)),(85,.d (dI t)),(82,.d (.v (Vs.getD s.cols.length undef))),(87,.d (.v (Vs.getD t undef))),(89,.d (.v (bg Vr (s.cols.length*1))))] rfl ⟨rfl,trivial⟩ ?_;refine ZH.all 19 (by kernel_rfl) rfl rfl (fun _=>rfl) ⟨rfl,trivial⟩ ?_;refine aj.fa 76 0 rfl rfl rfl ?_;refine aj.el tok 76 89 rfl (List.Mem.head _) rfl rfl rfl (by rw[List.length_map,List.length_set];omega) rfl ?_;refine aj.cut 1 rfl (fun B1 F1 w1=>?_);refine ab.yD tok (Vs.getD t undef) rfl rfl rfl (by rw[List.length_set];omega) ?_;refine ab.nil ⟨rfl,?_⟩;refine aj.back 76 0 rfl rfl rfl (List.Mem.head _) rfl ?_;refine aj.nil ?_;refine ZH.done (by kernel_rfl) ⟨rfl,trivial⟩ ?_;refine AZ.to [3,6,7,8,11,12,13,36,37] [(3,.bx [.sl 1 (v.map af)]),(6,.bx [.sl 1 [],.sl 1 [],dI 0,.sl 3 []]),(7,.d ao),(8,.bx [.v Vr,.v Vc,dI s.sg,af s.det]),(11,.d (dI c)),(12,.d (dI s.cols.length)),(13,.d (dI t)),(36,.d (dI most)),(37,.d (dI c))] rfl ?_;refine AZ.An (t+2) (s.cols.length+2) (gU (Vs:=Vs) (by omega) hat) (gU (Vs:=Vs) (by omega) (by omega)) ?_;show AZ _ _ _ _ _ _ _ ((Vr,OA (EY Vs s.cols.length t))::(Vc,CA s.cols)::((bG Vs s.rows).set t (Vs.getD s.cols.length undef,fg (s.rows.getD s.cols.length []))).set s.cols.length (Vs.getD t undef,fg (s.rows.getD t []))) _;rw[Cd (by omega) (by omega) hat,← hbr];refine AZ.gK (fun B1 F1 w1=>?_);refine qU 3 rfl ?_;rw[aC (x:=0-s.sg) (by have:=hR.sg;omega) (by have:=hR.sg;omega),Int.zero_sub];refine qU 2 rfl ?_;refine ab.nil ⟨rfl,?_⟩;exact⟨EY Vs s.cols.length t,by rw[if_neg htr];rfl,by show (EY Vs s.cols.length t).length=_;rw[Cr,hb1];omega⟩
   refine ZH.meet 5 (qB 20 64511) (fun V=>((Vr,OA Vs)::(Vc,CA s.cols)::bG Vs s.rows)) (fun V=>[(3,.bx [.sl 1 (v.map af)]),(6,.bx [.sl 1 [],.sl 1 [],dI 0,.sl 3 []]),(7,.d ao),(8,.bx [.v Vr,.v Vc,dI s.sg,af s.det]),(11,.d (dI c)),(12,.d (dI s.cols.length)),(13,.d (dI t)),(36,.d (dI most)),(37,.d (dI c)),(73,.d (.v Vr)),(74,.d (dI t)),(76,.d (.v Vr)),(77,.d (dI s.cols.length)),(79,.d (.v Vr)),(80,.d (dI s.cols.length)),(84,.d (.v Vr)),(85,.d (dI t)),(81,.d (.v (bg Vr (s.cols.length*1)))),(87,.d (.v (Vs.getD t undef)))]) (fun V=>?_) (fun N1_2=>?_)
   · refine ZH.all 10 (by kernel_rfl) rfl rfl (fun _=>rfl) ⟨rfl,trivial⟩ ?_;refine ai (fun B1 F1 w1 hS=>?_);refine ab.aX tok (.v (Vs.getD s.cols.length undef)) (hS.at (i:=0) rfl (by rw[List.length_map];omega)) rfl rfl rfl rfl rfl rfl (bF (by omega)) rfl ?_;refine ab.nil ⟨rfl,?_⟩;exact qL (N2_2 V) (by kernel_rfl) rfl ⟨rfl,trivial⟩
   refine ZH.meet 5 (qB 20 32767) (fun V=>((Vr,OA Vs)::(Vc,CA s.cols)::bG Vs s.rows)) (fun V=>[(3,.bx [.sl 1 (v.map af)]),(6,.bx [.sl 1 [],.sl 1 [],dI 0,.sl 3 []]),(7,.d ao),(8,.bx [.v Vr,.v Vc,dI s.sg,af s.det]),(11,.d (dI c)),(12,.d (dI s.cols.length)),(13,.d (dI t)),(36,.d (dI most)),(37,.d (dI c)),(73,.d (.v Vr)),(74,.d (dI t)),(76,.d (.v Vr)),(77,.d (dI s.cols.length)),(79,.d (.v Vr)),(80,.d (dI s.cols.length)),(84,.d (.v Vr)),(85,.d (dI t)),(82,.d (.v (Vs.getD s.cols.length undef))),(86,.d (.v (bg Vr (t*1))))]) (fun V=>?_) (fun N2_1=>?_)
   · refine ZH.all 15 (by kernel_rfl) rfl rfl (fun _=>rfl) ⟨rfl,trivial⟩ ?_;refine ai (fun B1 F1 w1 hS=>?_);refine ab.aX tok (.v (Vs.getD t undef)) (hS.at (i:=0) rfl (by rw[List.length_map];omega)) rfl rfl rfl rfl rfl rfl (bF (by omega)) rfl ?_;refine ab.nil ⟨rfl,?_⟩;exact qL (N2_2 V) (by kernel_rfl) rfl ⟨rfl,trivial⟩
   refine ZH.meet 6 (qB 20 63999) (fun V=>((Vr,OA Vs)::(Vc,CA s.cols)::bG Vs s.rows)) (fun V=>[(3,.bx [.sl 1 (v.map af)]),(6,.bx [.sl 1 [],.sl 1 [],dI 0,.sl 3 []]),(7,.d ao),(8,.bx [.v Vr,.v Vc,dI s.sg,af s.det]),(11,.d (dI c)),(12,.d (dI s.cols.length)),(13,.d (dI t)),(36,.d (dI most)),(37,.d (dI c)),(73,.d (.v Vr)),(74,.d (dI t)),(76,.d (.v Vr)),(77,.d (dI s.cols.length)),(79,.d (.v Vr)),(80,.d (dI s.cols.length)),(84,.d (.v Vr)),(85,.d (dI t)),(87,.d (.v (Vs.getD t undef)))]) (fun V=>?_) (fun N0_2=>?_)
   · refine ZH.all 9 (by kernel_rfl) rfl rfl (fun _=>rfl) ⟨rfl,trivial⟩ ?_;refine ai (fun B1 F1 w1 hS=>?_);refine ab.idxs tok (hS.at (i:=0) rfl (by rw[List.length_map];omega)) rfl rfl rfl rfl (Int.natCast_nonneg _) (by show s.cols.length<_;rw[List.length_map];omega) ?_;refine ab.nil ⟨rfl,?_⟩;exact qL (N1_2 V) (by kernel_rfl) rfl ⟨rfl,trivial⟩
   refine ZH.meet 6 (qB 20 31743) (fun V=>((Vr,OA Vs)::(Vc,CA s.cols)::bG Vs s.rows)) (fun V=>[(3,.bx [.sl 1 (v.map af)]),(6,.bx [.sl 1 [],.sl 1 [],dI 0,.sl 3 []]),(7,.d ao),(8,.bx [.v Vr,.v Vc,dI s.sg,af s.det]),(11,.d (dI c)),(12,.d (dI s.cols.length)),(13,.d (dI t)),(36,.d (dI most)),(37,.d (dI c)),(73,.d (.v Vr)),(74,.d (dI t)),(76,.d (.v Vr)),(77,.d (dI s.cols.length)),(79,.d (.v Vr)),(80,.d (dI s.cols.length)),(84,.d (.v Vr)),(85,.d (dI t)),(81,.d (.v (bg Vr (s.cols.length*1)))),(86,.d (.v (bg Vr (t*1))))]) (fun V=>?_) (fun N1_1=>?_)
   · refine ZH.two 10 15 (by kernel_rfl) rfl rfl rfl rfl (fun _=>rfl) (fun _=>rfl) ⟨rfl,trivial⟩ ?_ ?_
     · refine ai (fun B1 F1 w1 hS=>?_);refine ab.aX tok (.v (Vs.getD s.cols.length undef)) (hS.at (i:=0) rfl (by rw[List.length_map];omega)) rfl rfl rfl rfl rfl rfl (bF (by omega)) rfl ?_;refine ab.nil ⟨rfl,?_⟩;exact qL (N2_1 V) (by kernel_rfl) rfl ⟨rfl,trivial⟩
     · refine ai (fun B1 F1 w1 hS=>?_);refine ab.aX tok (.v (Vs.getD t undef)) (hS.at (i:=0) rfl (by rw[List.length_map];omega)) rfl rfl rfl rfl rfl rfl (bF (by omega)) rfl ?_;refine ab.nil ⟨rfl,?_⟩;exact qL (N1_2 V) (by kernel_rfl) rfl ⟨rfl,trivial⟩
   refine ZH.meet 6 (qB 20 16383) (fun V=>((Vr,OA Vs)::(Vc,CA s.cols)::bG Vs s.rows)) (fun V=>[(3,.bx [.sl 1 (v.map af)]),(6,.bx [.sl 1 [],.sl 1 [],dI 0,.sl 3 []]),(7,.d ao),(8,.bx [.v Vr,.v Vc,dI s.sg,af s.det]),(11,.d (dI c)),(12,.d (dI s.cols.length)),(13,.d (dI t)),(36,.d (dI most)),(37,.d (dI c)),(73,.d (.v Vr)),(74,.d (dI t)),(76,.d (.v Vr)),(77,.d (dI s.cols.length)),(79,.d (.v Vr)),(80,.d (dI s.cols.length)),(84,.d (.v Vr)),(85,.d (dI t)),(82,.d (.v (Vs.getD s.cols.length undef)))]) (fun V=>?_) (fun N2_0=>?_)
   · refine ZH.all 14 (by kernel_rfl) rfl rfl (fun _=>rfl) ⟨rfl,trivial⟩ ?_;refine ai (fun B1 F1 w1 hS=>?_);refine ab.idxs tok (hS.at (i:=0) rfl (by rw[List.length_map];omega)) rfl rfl rfl rfl (Int.natCast_nonneg _) (by show t<_;rw[List.length_map];omega) ?_;refine ab.nil ⟨rfl,?_⟩;exact qL (N2_1 V) (by kernel_rfl) rfl ⟨rfl,trivial⟩
   refine ZH.meet 7 (qB 20 31231) (fun V=>((Vr,OA Vs)::(Vc,CA s.cols)::bG Vs s.rows)) (fun V=>[(3,.bx [.sl 1 (v.map af)]),(6,.bx [.sl 1 [],.sl 1 [],dI 0,.sl 3 []]),(7,.d ao),(8,.bx [.v Vr,.v Vc,dI s.sg,af s.det]),(11,.d (dI c)),(12,.d (dI s.cols.length)),(13,.d (dI t)),(36,.d (dI most)),(37,.d (dI c)),(73,.d (.v Vr)),(74,.d (dI t)),(76,.d (.v Vr)),(77,.d (dI s.cols.length)),(79,.d (.v Vr)),(80,.d (dI s.cols.length)),(84,.d (.v Vr)),(85,.d (dI t)),(86,.d (.v (bg Vr (t*1))))]) (fun V=>?_) (fun N0_1=>?_)
   · refine ZH.two 9 15 (by kernel_rfl) rfl rfl rfl rfl (fun _=>rfl) (fun _=>rfl) ⟨rfl,trivial⟩ ?_ ?_
     · refine ai (fun B1 F1 w1 hS=>?_);refine ab.idxs tok (hS.at (i:=0) rfl (by rw[List.length_map];omega)) rfl rfl rfl rfl (Int.natCast_nonneg _) (by show s.cols.length<_;rw[List.length_map];omega) ?_;refine ab.nil ⟨rfl,?_⟩;exact qL (N1_1 V) (by kernel_rfl) rfl ⟨rfl,trivial⟩
     · refine ai (fun B1 F1 w1 hS=>?_);refine ab.aX tok (.v (Vs.getD t undef)) (hS.at (i:=0) rfl (by rw[List.length_map];omega)) rfl rfl rfl rfl rfl rfl (bF (by omega)) rfl ?_;refine ab.nil ⟨rfl,?_⟩;exact qL (N0_2 V) (by kernel_rfl) rfl ⟨rfl,trivial⟩
   refine ZH.meet 7 (qB 20 15359) (fun V=>((Vr,OA Vs)::(Vc,CA s.cols)::bG Vs s.rows)) (fun V=>[(3,.bx [.sl 1 (v.map af)]),(6,.bx [.sl 1 [],.sl 1 [],dI 0,.sl 3 []]),(7,.d ao),(8,.bx [.v Vr,.v Vc,dI s.sg,af s.det]),(11,.d (dI c)),(12,.d (dI s.cols.length)),(13,.d (dI t)),(36,.d (dI most)),(37,.d (dI c)),(73,.d (.v Vr)),(74,.d (dI t)),(76,.d (.v Vr)),(77,.d (dI s.cols.length)),(79,.d (.v Vr)),(80,.d (dI s.cols.length)),(84,.d (.v Vr)),(85,.d (dI t)),(81,.d (.v (bg Vr (s.cols.length*1))))]) (fun V=>?_) (fun N1_0=>?_)
   · refine ZH.two 10 14 (by kernel_rfl) rfl rfl rfl rfl (fun _=>rfl) (fun _=>rfl) ⟨rfl,trivial⟩ ?_ ?_
     · refine ai (fun B1 F1 w1 hS=>?_);refine ab.aX tok (.v (Vs.getD s.cols.length undef)) (hS.at (i:=0) rfl (by rw[List.length_map];omega)) rfl rfl rfl rfl rfl rfl (bF (by omega)) rfl ?_;refine ab.nil ⟨rfl,?_⟩;exact qL (N2_0 V) (by kernel_rfl) rfl ⟨rfl,trivial⟩
     · refine ai (fun B1 F1 w1 hS=>?_);refine ab.idxs tok (hS.at (i:=0) rfl (by rw[List.length_map];omega)) rfl rfl rfl rfl (Int.natCast_nonneg _) (by show t<_;rw[List.length_map];omega) ?_;refine ab.nil ⟨rfl,?_⟩;exact qL (N1_1 V) (by kernel_rfl) rfl ⟨rfl,trivial⟩
   refine ZH.meet 8 (qB 20 14847) (fun V=>((Vr,OA Vs)::(Vc,CA s.cols)::bG Vs s.rows)) (fun V=>[(3,.bx [.sl 1 (v.map af)]),(6,.bx [.sl 1 [],.sl 1 [],dI 0,.sl 3 []]),(7,.d ao),(8,.bx [.v Vr,.v Vc,dI s.sg,af s.det]),(11,.d (dI c)),(12,.d (dI s.cols.length)),(13,.d (dI t)),(36,.d (dI most)),(37,.d (dI c)),(73,.d (.v Vr)),(74,.d (dI t)),(76,.d (.v Vr)),(77,.d (dI s.cols.length)),(79,.d (.v Vr)),(80,.d (dI s.cols.length)),(84,.d (.v Vr)),(85,.d (dI t))]) (fun V=>?_) (fun N0_0=>?_)
   · refine ZH.two 9 14 (by kernel_rfl) rfl rfl rfl rfl (fun _=>rfl) (fun _=>rfl) ⟨rfl,trivial⟩ ?_ ?_
     · refine ai (fun B1 F1 w1 hS=>?_);refine ab.idxs tok (hS.at (i:=0) rfl (by rw[List.length_map];omega)) rfl rfl rfl rfl (Int.natCast_nonneg _) (by show s.cols.length<_;rw[List.length_map];omega) ?_;refine ab.nil ⟨rfl,?_⟩;exact qL (N1_0 V) (by kernel_rfl) rfl ⟨rfl,trivial⟩
     · refine ai (fun B1 F1 w1 hS=>?_);refine ab.idxs tok (hS.at (i:=0) rfl (by rw[List.length_map];omega)) rfl rfl rfl rfl (Int.natCast_nonneg _) (by show t<_;rw[List.length_map];omega) ?_;refine ab.nil ⟨rfl,?_⟩;exact qL (N0_1 V) (by kernel_rfl) rfl ⟨rfl,trivial⟩
   exact qL (N0_0 eO) (by kernel_rfl) rfl ⟨rfl,trivial⟩
 obtain ⟨sg,hsg⟩: ∃sg,(if t=s.cols.length then s.sg else -s.sg)=sg:=⟨_,rfl⟩;obtain ⟨r,hrr⟩: ∃r,s.cols.length=r:=⟨_,rfl⟩;have hrb:r<b.length:=by omega
 have hrN:(b.getD r []).length=N:=hb2 r hrb;have okc:=mu V hR.det (by rw[hpr];exact hb3 _ _) okd;rw[hsg] at hst;rw[hrr] at hst hpr hE okv oks okt;show AZ _ _ _ _ _ _ _ ((Vr,OA Ws)::(Vc,CA s.cols)::bG Ws b) [(3,.bx [.sl 1 (v.map af)]),(6,.bx [.sl 1 [],.sl 1 [],dI 0,.sl 3 []]),(7,.d ao),(8,.bx [.v Vr,.v Vc,dI (if t=s.cols.length then s.sg else -s.sg),af s.det]),(11,.d (dI c)),(12,.d (dI s.cols.length)),(36,.d (dI most)),(37,.d (dI c))];rw[hsg,hrr];refine AZ.seq ?_;refine AZ.AN (fun B1 F1 w1 hS=>?_);refine qU 3 rfl ?_;refine ab.idxs tok (hS.at (i:=0) rfl (by rw[List.length_map];omega)) rfl rfl rfl rfl (Int.natCast_nonneg _) (by show r<_;rw[List.length_map];omega) ?_;refine ab.aX tok (.v (Ws.getD r undef)) (hS.at (i:=0) rfl (by rw[List.length_map];omega)) rfl rfl rfl rfl rfl rfl (bF (by omega)) rfl ?_;refine qU 1 rfl ?_;refine ab.idxs tok (hS.at (i:=r+2) (gU (Vs:=Ws) (by omega) hrb) (by rw[List.length_map];omega)) rfl rfl rfl rfl (Int.natCast_nonneg c) (by rw[List.length_map];omega) ?_;refine ab.aX tok (af (bX b r c)) (hS.at (i:=r+2) (gU (Vs:=Ws) (by omega) hrb) (by rw[List.length_map];omega)) rfl rfl rfl rfl rfl rfl (hel hb2 hrb c hcN) rfl ?_;rw[← hpr];refine qU 1 rfl ?_;refine ab.nil ⟨rfl,?_⟩;refine AZ.seq ?_;refine AZ.gK (fun B1 F1 w1=>?_);refine qU 1 rfl ?_;refine ab.nil ⟨rfl,?_⟩;refine AZ.seq ?_;refine AZ.seq ?_;refine AZ.gK (fun B1 F1 w1=>?_);refine qU 4 rfl ?_;refine ab.call tok rfl rfl rfl rfl okc ?_;refine qU 6 rfl ?_;refine ab.nil ⟨rfl,?_⟩;refine AZ.seq ?_;refine AZ.gK (fun B1 F1 w1=>?_);refine qU 1 rfl ?_;refine ab.err tok rfl rfl rfl rfl rfl ?_;refine ab.nil ⟨rfl,?_⟩;refine AZ.au rfl ?_;refine AZ.skip ?_;generalize js v s.det p=det at *;obtain ⟨row,hrow⟩: ∃row,b.getD r []=row:=⟨_,rfl⟩;have hz:=qd v row p;have hsr: ∀k,bX b r k=row.getD k []:=fun k=>by unfold bX;rw[hrow]
 have hb0:bG Ws b=bG Ws (b.set r row):=by rw[← hrow,vK hrb]
 have hgr: ∀q:List NQ,(bG Ws (b.set r q))[r]?=some (Ws.getD r undef,fg q):=fun q=>by
  rw[gU (by omega) (by simpa using hrb),gC,if_pos ⟨rfl,hrb⟩]
 rw[hrow] at hE hrN okv;rw[hb0];refine AZ.seq ?_;refine AZ.seq ?_;refine AZ.AN (fun B1 F1 w1 hS=>?_);refine qU 3 rfl ?_;refine ab.idxs tok (hS.at (i:=0) rfl (by rw[List.length_map];omega)) rfl rfl rfl rfl (Int.natCast_nonneg _) (by show r<_;rw[List.length_map];omega) ?_;refine ab.aX tok (.v (Ws.getD r undef)) (hS.at (i:=0) rfl (by rw[List.length_map];omega)) rfl rfl rfl rfl rfl rfl (bF (by omega)) rfl ?_;refine ab.lens tok (hS.at (i:=r+2) (hgr row) (by rw[List.length_map];omega)) rfl rfl rfl rfl ?_;rw[List.length_map,hrN];refine qU 1 rfl ?_;refine ab.nil ⟨rfl,?_⟩;refine AZ.block ?_;refine AZ.aE [3,6,7,8,11,12,14,36,37,120,121] (fun k:Nat=>(((Vr,OA Ws)::(Vc,CA s.cols)::bG Ws (b.set r (fP (w8 v row p) row k))),[(3,.bx [.sl 1 (v.map af)]),(6,.bx [.sl 1 [],.sl 1 [],dI 0,.sl 3 []]),(7,.d ao),(8,.bx [.v Vr,.v Vc,dI sg,af det]),(11,.d (dI c)),(12,.d (dI r)),(14,.d (af p)),(36,.d (dI most)),(37,.d (dI c)),(120,.d (dI N)),(121,.d (dI k))])) (fun k=>k≤N) (fun k=>N-k) 0 (by rw[tO];rfl) (Nat.zero_le _) (fun k hk=>?_);show AZ _ _ _ _ _ _ _ ((Vr,OA Ws)::(Vc,CA s.cols)::bG Ws (b.set r (fP (w8 v row p) row k))) [(3,.bx [.sl 1 (v.map af)]),(6,.bx [.sl 1 [],.sl 1 [],dI 0,.sl 3 []]),(7,.d ao),(8,.bx [.v Vr,.v Vc,dI sg,af det]),(11,.d (dI c)),(12,.d (dI r)),(14,.d (af p)),(36,.d (dI most)),(37,.d (dI c)),(120,.d (dI N)),(121,.d (dI k))];refine AZ.seq ?_;refine AZ.gK (fun B1 F1 w1=>?_);refine qU 1 rfl ?_;refine ab.nil ⟨rfl,?_⟩;refine AZ.seq ?_;refine AZ.cond rfl (fun h=>?_) (fun h=>?_)
 · have hkN:k<N:=by have:=of_decide_eq_true h;omega
   have hpl:=rB hz (i:=k) (by omega);have hpg:=wu hz (show k<row.length by omega) [];have hps:=wq hz (show k<row.length by omega) (d:=[]) (qe v row p (show k<row.length by omega));have cd:=xk V (a:=row.getD k []) (b:=p) (by rw[← hrow];exact hb3 r k) (by rw[hpr];exact hb3 _ _) (by have:=okv k (by omega);rw[hsr] at this;exact this);generalize fP (w8 v row p) row k=q at *;generalize row.getD k []=X at *;generalize sX v X p=Y at *;refine AZ.skip ?_;refine AZ.seq ?_;refine AZ.block ?_;refine AZ.seq ?_;refine AZ.gK (fun B1 F1 w1=>?_);refine qU 2 rfl ?_;refine ab.nil ⟨rfl,?_⟩;refine AZ.seq ?_;refine AZ.any aM (ZH.any (β:=[(8,[.v Vr,.v Vc,dI sg,af det])]) ?_);refine ZH.mv 2 rfl rfl (by kernel_rfl) (by kernel_rfl) (by kernel_rfl) rfl (fun _ _ _ h=>h) (fun _=>rfl) ⟨rfl,trivial⟩ (fun B1 F1 w1=>?_);refine qU 1 rfl ?_;refine ab.nil ⟨rfl,?_⟩;refine ZH.mv 5 rfl rfl (by kernel_rfl) (by kernel_rfl) (by kernel_rfl) rfl (fun _ _ _ h=>h) (fun _=>rfl) ⟨rfl,trivial⟩ (fun B1 F1 w1=>?_);refine qU 1 rfl ?_;refine ab.nil ⟨rfl,?_⟩;refine ZH.mv 9 rfl rfl (by kernel_rfl) (by kernel_rfl) (by kernel_rfl) rfl (fun _ _ _ h=>h) (fun _=>rfl) ⟨rfl,trivial⟩ (fun B1 F1 w1=>?_);refine qU 1 rfl ?_;refine ab.nil ⟨rfl,?_⟩;refine ZH.mv 12 rfl rfl (by kernel_rfl) (by kernel_rfl) (by kernel_rfl) rfl (fun _ _ _ h=>h) (fun _=>rfl) ⟨rfl,trivial⟩ (fun B1 F1 w1=>?_);refine qU 1 rfl ?_;refine ab.nil ⟨rfl,?_⟩;refine ZH.mv 15 rfl rfl (by kernel_rfl) (by kernel_rfl) (by kernel_rfl) rfl (fun _ _ _ h=>h) (fun _=>rfl) ⟨rfl,trivial⟩ (fun B1 F1 w1=>?_);refine qU 1 rfl ?_;refine ab.nil ⟨rfl,?_⟩;refine ZH.fd tok 0 rfl rfl (by kernel_rfl) (by kernel_rfl) (by kernel_rfl) rfl (fun _ _ _ h=>h) (fun _=>rfl) ⟨rfl,trivial⟩ (fun B1 F1 w1=>?_);refine qU 1 rfl ?_;refine ab.nil ⟨rfl,?_⟩;refine ZH.fd tok 7 rfl rfl (by kernel_rfl) (by kernel_rfl) (by kernel_rfl) rfl (fun _ _ _ h=>h) (fun _=>rfl) ⟨rfl,trivial⟩ (fun B1 F1 w1=>?_);refine qU 1 rfl ?_;refine ab.nil ⟨rfl,?_⟩;refine ZH.ld tok 1 rfl rfl (by kernel_rfl) (by kernel_rfl) (by kernel_rfl) rfl rfl (fun _ _ _ h=>h) (fun _=>rfl) ⟨rfl,trivial⟩ (fun B1 F1 w1=>?_);refine qU 1 rfl ?_;refine ab.nil ⟨rfl,?_⟩;refine ZH.ld tok 8 rfl rfl (by kernel_rfl) (by kernel_rfl) (by kernel_rfl) rfl rfl (fun _ _ _ h=>h) (fun _=>rfl) ⟨rfl,trivial⟩ (fun B1 F1 w1=>?_);refine qU 1 rfl ?_;refine ab.nil ⟨rfl,?_⟩;refine ZH.meet 0 (qB 23 8388607) (fun V=>((Vr,OA Ws)::(Vc,CA s.cols)::bG Ws (b.set r (fP (w8 v row p) row (k+1))))) (fun V=>[(3,.bx [.sl 1 (v.map af)]),(6,.bx [.sl 1 [],.sl 1 [],dI 0,.sl 3 []]),(7,.d ao),(8,.bx [.v Vr,.v Vc,dI sg,af det]),(11,.d (dI c)),(12,.d (dI r)),(14,.d (af p)),(36,.d (dI most)),(37,.d (dI c)),(16,.d (dI k)),(126,.d (.v Vr)),(127,.d (dI r)),(130,.d (dI k)),(133,.d (.v Vr)),(134,.d (dI r)),(137,.d (dI k)),(140,.d (af p)),(120,.d (dI N)),(121,.d (dI k)),(129,.d (.v (Ws.getD r undef))),(131,.d (bC v)),(139,.d (af X)),(124,.d (.tu [af Y,ao])),(142,.d (af Y)),(143,.d ao),(15,.d ao)]) (fun V=>?_) (fun N2_1_4_5_1_1=>?_)
   · refine ZH.done (by kernel_rfl) ⟨rfl,trivial⟩ ?_;refine AZ.to [3,6,7,8,11,12,14,36,37,15,120,121] [(3,.bx [.sl 1 (v.map af)]),(6,.bx [.sl 1 [],.sl 1 [],dI 0,.sl 3 []]),(7,.d ao),(8,.bx [.v Vr,.v Vc,dI sg,af det]),(11,.d (dI c)),(12,.d (dI r)),(14,.d (af p)),(36,.d (dI most)),(37,.d (dI c)),(15,.d ao),(120,.d (dI N)),(121,.d (dI k))] rfl ?_;refine AZ.seq ?_;refine AZ.gK (fun B1 F1 w1=>?_);refine qU 1 rfl ?_;refine ab.err tok rfl rfl rfl rfl rfl ?_;refine ab.nil ⟨rfl,?_⟩;refine AZ.au rfl ?_;refine AZ.skip ?_;refine AZ.gK (fun B1 F1 w1=>?_);refine qU 1 rfl ?_;rw[aC (x:=(k:Int)+1) (by omega) (by omega)];refine qU 1 rfl ?_;refine ab.nil ⟨rfl,?_⟩;exact⟨k+1,rfl,hkN,by omega⟩
   refine ZH.meet 1 (qB 23 4194303) (fun V=>((Vr,OA Ws)::(Vc,CA s.cols)::bG Ws (b.set r (fP (w8 v row p) row (k+1))))) (fun V=>[(3,.bx [.sl 1 (v.map af)]),(6,.bx [.sl 1 [],.sl 1 [],dI 0,.sl 3 []]),(7,.d ao),(8,.bx [.v Vr,.v Vc,dI sg,af det]),(11,.d (dI c)),(12,.d (dI r)),(14,.d (af p)),(36,.d (dI most)),(37,.d (dI c)),(16,.d (dI k)),(126,.d (.v Vr)),(127,.d (dI r)),(130,.d (dI k)),(133,.d (.v Vr)),(134,.d (dI r)),(137,.d (dI k)),(140,.d (af p)),(120,.d (dI N)),(121,.d (dI k)),(129,.d (.v (Ws.getD r undef))),(131,.d (bC v)),(139,.d (af X)),(124,.d (.tu [af Y,ao])),(142,.d (af Y)),(143,.d ao)]) (fun V=>?_) (fun N2_1_4_5_1_0=>?_)
   · refine ZH.all 22 (by kernel_rfl) rfl rfl (fun _=>rfl) ⟨rfl,trivial⟩ ?_;refine ak (fun B1 F1 w1=>?_);refine qU 1 rfl ?_;refine ab.nil ⟨rfl,?_⟩;exact qL (N2_1_4_5_1_1 V) (by kernel_rfl) rfl ⟨rfl,trivial⟩
   refine ZH.meet 2 (qB 23 2097151) (fun V=>((Vr,OA Ws)::(Vc,CA s.cols)::bG Ws (b.set r q))) (fun V=>[(3,.bx [.sl 1 (v.map af)]),(6,.bx [.sl 1 [],.sl 1 [],dI 0,.sl 3 []]),(7,.d ao),(8,.bx [.v Vr,.v Vc,dI sg,af det]),(11,.d (dI c)),(12,.d (dI r)),(14,.d (af p)),(36,.d (dI most)),(37,.d (dI c)),(16,.d (dI k)),(126,.d (.v Vr)),(127,.d (dI r)),(130,.d (dI k)),(133,.d (.v Vr)),(134,.d (dI r)),(137,.d (dI k)),(140,.d (af p)),(120,.d (dI N)),(121,.d (dI k)),(129,.d (.v (Ws.getD r undef))),(131,.d (bC v)),(139,.d (af X)),(124,.d (.tu [af Y,ao])),(142,.d (af Y)),(144,.d (.v (bg (Ws.getD r undef) (k*1)))),(143,.d ao)]) (fun V=>?_) (fun N2_1_4_4_1_0=>?_)
   · refine ZH.all 21 (by kernel_rfl) rfl rfl (fun _=>rfl) ⟨rfl,trivial⟩ ?_;refine aj.fa 129 (r+2) (hgr q) rfl rfl ?_;refine aj.el tok 129 144 rfl (List.Mem.head _) rfl rfl rfl (by rw[List.length_map];omega) rfl ?_;refine aj.cut 1 rfl (fun B1 F1 w1=>?_);refine ab.uq tok Y rfl rfl rfl (by omega) ?_;rw[hps];refine ab.nil ⟨rfl,?_⟩;refine aj.back 129 (r+2) rfl rfl rfl (List.Mem.head _) (List.getElem?_set_self (by have:=(List.getElem?_eq_some_iff.1 (hgr q)).1;simp only[List.length_cons];omega)) ?_
     refine aj.rX (R':=((Vr,OA Ws)::(Vc,CA s.cols)::bG Ws (b.set r (fP (w8 v row p) row (k+1))))) (by
      show (Vr,OA Ws)::(Vc,CA s.cols)::((bG Ws (b.set r q)).set r _).set r _=_
      rw[List.set_set,qp (by omega) (by simpa using hrb),List.set_set]) ?_
     refine aj.nil ?_;exact qL (N2_1_4_5_1_0 V) (by kernel_rfl) rfl ⟨rfl,trivial⟩
   refine ZH.meet 2 (qB 23 3670015) (fun V=>((Vr,OA Ws)::(Vc,CA s.cols)::bG Ws (b.set r (fP (w8 v row p) row (k+1))))) (fun V=>[(3,.bx [.sl 1 (v.map af)]),(6,.bx [.sl 1 [],.sl 1 [],dI 0,.sl 3 []]),(7,.d ao),(8,.bx [.v Vr,.v Vc,dI sg,af det]),(11,.d (dI c)),(12,.d (dI r)),(14,.d (af p)),(36,.d (dI most)),(37,.d (dI c)),(16,.d (dI k)),(126,.d (.v Vr)),(127,.d (dI r)),(130,.d (dI k)),(133,.d (.v Vr)),(134,.d (dI r)),(137,.d (dI k)),(140,.d (af p)),(120,.d (dI N)),(121,.d (dI k)),(129,.d (.v (Ws.getD r undef))),(131,.d (bC v)),(139,.d (af X)),(124,.d (.tu [af Y,ao])),(142,.d (af Y))]) (fun V=>?_) (fun N2_1_4_5_0_0=>?_)
   · refine ZH.all 19 (by kernel_rfl) rfl rfl (fun _=>rfl) ⟨rfl,trivial⟩ ?_;refine ak (fun B1 F1 w1=>?_);refine qU 1 rfl ?_;refine ab.nil ⟨rfl,?_⟩;exact qL (N2_1_4_5_1_0 V) (by kernel_rfl) rfl ⟨rfl,trivial⟩
   refine ZH.meet 3 (qB 23 1048575) (fun V=>((Vr,OA Ws)::(Vc,CA s.cols)::bG Ws (b.set r q))) (fun V=>[(3,.bx [.sl 1 (v.map af)]),(6,.bx [.sl 1 [],.sl 1 [],dI 0,.sl 3 []]),(7,.d ao),(8,.bx [.v Vr,.v Vc,dI sg,af det]),(11,.d (dI c)),(12,.d (dI r)),(14,.d (af p)),(36,.d (dI most)),(37,.d (dI c)),(16,.d (dI k)),(126,.d (.v Vr)),(127,.d (dI r)),(130,.d (dI k)),(133,.d (.v Vr)),(134,.d (dI r)),(137,.d (dI k)),(140,.d (af p)),(120,.d (dI N)),(121,.d (dI k)),(129,.d (.v (Ws.getD r undef))),(131,.d (bC v)),(139,.d (af X)),(124,.d (.tu [af Y,ao])),(142,.d (af Y)),(143,.d ao)]) (fun V=>?_) (fun N2_1_4_3_1_0=>?_)
   · refine ZH.all 20 (by kernel_rfl) rfl rfl (fun _=>rfl) ⟨rfl,trivial⟩ ?_;refine ai (fun B1 F1 w1 hS=>?_);refine ab.idxs tok (hS.at (i:=r+2) (hgr q) (by rw[List.length_map];omega)) rfl rfl rfl rfl (Int.natCast_nonneg k) (by rw[List.length_map];omega) ?_;refine ab.nil ⟨rfl,?_⟩;exact qL (N2_1_4_4_1_0 V) (by kernel_rfl) rfl ⟨rfl,trivial⟩
   refine ZH.meet 3 (qB 23 1572863) (fun V=>((Vr,OA Ws)::(Vc,CA s.cols)::bG Ws (b.set r q))) (fun V=>[(3,.bx [.sl 1 (v.map af)]),(6,.bx [.sl 1 [],.sl 1 [],dI 0,.sl 3 []]),(7,.d ao),(8,.bx [.v Vr,.v Vc,dI sg,af det]),(11,.d (dI c)),(12,.d (dI r)),(14,.d (af p)),(36,.d (dI most)),(37,.d (dI c)),(16,.d (dI k)),(126,.d (.v Vr)),(127,.d (dI r)),(130,.d (dI k)),(133,.d (.v Vr)),(134,.d (dI r)),(137,.d (dI k)),(140,.d (af p)),(120,.d (dI N)),(121,.d (dI k)),(129,.d (.v (Ws.getD r undef))),(131,.d (bC v)),(139,.d (af X)),(124,.d (.tu [af Y,ao])),(142,.d (af Y)),(144,.d (.v (bg (Ws.getD r undef) (k*1))))]) (fun V=>?_) (fun N2_1_4_4_0_0=>?_)
   · refine ZH.two 19 21 (by kernel_rfl) rfl rfl rfl rfl (fun _=>rfl) (fun _=>rfl) ⟨rfl,trivial⟩ ?_ ?_
     · refine ak (fun B1 F1 w1=>?_);refine qU 1 rfl ?_;refine ab.nil ⟨rfl,?_⟩;exact qL (N2_1_4_4_1_0 V) (by kernel_rfl) rfl ⟨rfl,trivial⟩
     · refine aj.fa 129 (r+2) (hgr q) rfl rfl ?_;refine aj.el tok 129 144 rfl (List.Mem.head _) rfl rfl rfl (by rw[List.length_map];omega) rfl ?_;refine aj.cut 1 rfl (fun B1 F1 w1=>?_);refine ab.uq tok Y rfl rfl rfl (by omega) ?_;rw[hps];refine ab.nil ⟨rfl,?_⟩;refine aj.back 129 (r+2) rfl rfl rfl (List.Mem.head _) (List.getElem?_set_self (by have:=(List.getElem?_eq_some_iff.1 (hgr q)).1;simp only[List.length_cons];omega)) ?_
       refine aj.rX (R':=((Vr,OA Ws)::(Vc,CA s.cols)::bG Ws (b.set r (fP (w8 v row p) row (k+1))))) (by
        show (Vr,OA Ws)::(Vc,CA s.cols)::((bG Ws (b.set r q)).set r _).set r _=_
        rw[List.set_set,qp (by omega) (by simpa using hrb),List.set_set]) ?_
       refine aj.nil ?_;exact qL (N2_1_4_5_0_0 V) (by kernel_rfl) rfl ⟨rfl,trivial⟩
   refine ZH.meet 4 (qB 23 1048559) (fun V=>((Vr,OA Ws)::(Vc,CA s.cols)::bG Ws (b.set r q))) (fun V=>[(3,.bx [.sl 1 (v.map af)]),(6,.bx [.sl 1 [],.sl 1 [],dI 0,.sl 3 []]),(7,.d ao),(8,.bx [.v Vr,.v Vc,dI sg,af det]),(11,.d (dI c)),(12,.d (dI r)),(14,.d (af p)),(36,.d (dI most)),(37,.d (dI c)),(16,.d (dI k)),(126,.d (.v Vr)),(127,.d (dI r)),(130,.d (dI k)),(133,.d (.v Vr)),(134,.d (dI r)),(137,.d (dI k)),(140,.d (af p)),(120,.d (dI N)),(121,.d (dI k)),(128,.d (.v (bg Vr (r*1)))),(131,.d (bC v)),(139,.d (af X)),(124,.d (.tu [af Y,ao])),(142,.d (af Y)),(143,.d ao)]) (fun V=>?_) (fun N1_1_4_3_1_0=>?_)
   · refine ZH.all 4 (by kernel_rfl) rfl rfl (fun _=>rfl) ⟨rfl,trivial⟩ ?_;refine ai (fun B1 F1 w1 hS=>?_);refine ab.aX tok (.v (Ws.getD r undef)) (hS.at (i:=0) rfl (by rw[List.length_map];omega)) rfl rfl rfl rfl rfl rfl (bF (by omega)) rfl ?_;refine ab.nil ⟨rfl,?_⟩;exact qL (N2_1_4_3_1_0 V) (by kernel_rfl) rfl ⟨rfl,trivial⟩
   refine ZH.meet 4 (qB 23 786431) (fun V=>((Vr,OA Ws)::(Vc,CA s.cols)::bG Ws (b.set r q))) (fun V=>[(3,.bx [.sl 1 (v.map af)]),(6,.bx [.sl 1 [],.sl 1 [],dI 0,.sl 3 []]),(7,.d ao),(8,.bx [.v Vr,.v Vc,dI sg,af det]),(11,.d (dI c)),(12,.d (dI r)),(14,.d (af p)),(36,.d (dI most)),(37,.d (dI c)),(16,.d (dI k)),(126,.d (.v Vr)),(127,.d (dI r)),(130,.d (dI k)),(133,.d (.v Vr)),(134,.d (dI r)),(137,.d (dI k)),(140,.d (af p)),(120,.d (dI N)),(121,.d (dI k)),(129,.d (.v (Ws.getD r undef))),(131,.d (bC v)),(139,.d (af X)),(124,.d (.tu [af Y,ao])),(143,.d ao)]) (fun V=>?_) (fun N2_1_4_2_1_0=>?_)
   · refine ZH.all 18 (by kernel_rfl) rfl rfl (fun _=>rfl) ⟨rfl,trivial⟩ ?_;refine ak (fun B1 F1 w1=>?_);refine qU 1 rfl ?_;refine ab.nil ⟨rfl,?_⟩;exact qL (N2_1_4_3_1_0 V) (by kernel_rfl) rfl ⟨rfl,trivial⟩
   refine ZH.meet 4 (qB 23 524287) (fun V=>((Vr,OA Ws)::(Vc,CA s.cols)::bG Ws (b.set r q))) (fun V=>[(3,.bx [.sl 1 (v.map af)]),(6,.bx [.sl 1 [],.sl 1 [],dI 0,.sl 3 []]),(7,.d ao),(8,.bx [.v Vr,.v Vc,dI sg,af det]),(11,.d (dI c)),(12,.d (dI r)),(14,.d (af p)),(36,.d (dI most)),(37,.d (dI c)),(16,.d (dI k)),(126,.d (.v Vr)),(127,.d (dI r)),(130,.d (dI k)),(133,.d (.v Vr)),(134,.d (dI r)),(137,.d (dI k)),(140,.d (af p)),(120,.d (dI N)),(121,.d (dI k)),(129,.d (.v (Ws.getD r undef))),(131,.d (bC v)),(139,.d (af X)),(124,.d (.tu [af Y,ao])),(142,.d (af Y))]) (fun V=>?_) (fun N2_1_4_3_0_0=>?_)
   · refine ZH.two 19 20 (by kernel_rfl) rfl rfl rfl rfl (fun _=>rfl) (fun _=>rfl) ⟨rfl,trivial⟩ ?_ ?_
     · refine ak (fun B1 F1 w1=>?_);refine qU 1 rfl ?_;refine ab.nil ⟨rfl,?_⟩;exact qL (N2_1_4_3_1_0 V) (by kernel_rfl) rfl ⟨rfl,trivial⟩
     · refine ai (fun B1 F1 w1 hS=>?_);refine ab.idxs tok (hS.at (i:=r+2) (hgr q) (by rw[List.length_map];omega)) rfl rfl rfl rfl (Int.natCast_nonneg k) (by rw[List.length_map];omega) ?_;refine ab.nil ⟨rfl,?_⟩;exact qL (N2_1_4_4_0_0 V) (by kernel_rfl) rfl ⟨rfl,trivial⟩
   refine ZH.meet 5 (qB 23 1048551) (fun V=>((Vr,OA Ws)::(Vc,CA s.cols)::bG Ws (b.set r q))) (fun V=>[(3,.bx [.sl 1 (v.map af)]),(6,.bx [.sl 1 [],.sl 1 [],dI 0,.sl 3 []]),(7,.d ao),(8,.bx [.v Vr,.v Vc,dI sg,af det]),(11,.d (dI c)),(12,.d (dI r)),(14,.d (af p)),(36,.d (dI most)),(37,.d (dI c)),(16,.d (dI k)),(126,.d (.v Vr)),(127,.d (dI r)),(130,.d (dI k)),(133,.d (.v Vr)),(134,.d (dI r)),(137,.d (dI k)),(140,.d (af p)),(120,.d (dI N)),(121,.d (dI k)),(131,.d (bC v)),(139,.d (af X)),(124,.d (.tu [af Y,ao])),(142,.d (af Y)),(143,.d ao)]) (fun V=>?_) (fun N0_1_4_3_1_0=>?_)
   · refine ZH.all 3 (by kernel_rfl) rfl rfl (fun _=>rfl) ⟨rfl,trivial⟩ ?_;refine ai (fun B1 F1 w1 hS=>?_);refine ab.idxs tok (hS.at (i:=0) rfl (by rw[List.length_map];omega)) rfl rfl rfl rfl (Int.natCast_nonneg _) (by show r<_;rw[List.length_map];omega) ?_;refine ab.nil ⟨rfl,?_⟩;exact qL (N1_1_4_3_1_0 V) (by kernel_rfl) rfl ⟨rfl,trivial⟩
   refine ZH.meet 5 (qB 23 786415) (fun V=>((Vr,OA Ws)::(Vc,CA s.cols)::bG Ws (b.set r q))) (fun V=>[(3,.bx [.sl 1 (v.map af)]),(6,.bx [.sl 1 [],.sl 1 [],dI 0,.sl 3 []]),(7,.d ao),(8,.bx [.v Vr,.v Vc,dI sg,af det]),(11,.d (dI c)),(12,.d (dI r)),(14,.d (af p)),(36,.d (dI most)),(37,.d (dI c)),(16,.d (dI k)),(126,.d (.v Vr)),(127,.d (dI r)),(130,.d (dI k)),(133,.d (.v Vr)),(134,.d (dI r)),(137,.d (dI k)),(140,.d (af p)),(120,.d (dI N)),(121,.d (dI k)),(128,.d (.v (bg Vr (r*1)))),(131,.d (bC v)),(139,.d (af X)),(124,.d (.tu [af Y,ao])),(143,.d ao)]) (fun V=>?_) (fun N1_1_4_2_1_0=>?_)
   · refine ZH.two 4 18 (by kernel_rfl) rfl rfl rfl rfl (fun _=>rfl) (fun _=>rfl) ⟨rfl,trivial⟩ ?_ ?_
     · refine ai (fun B1 F1 w1 hS=>?_);refine ab.aX tok (.v (Ws.getD r undef)) (hS.at (i:=0) rfl (by rw[List.length_map];omega)) rfl rfl rfl rfl rfl rfl (bF (by omega)) rfl ?_;refine ab.nil ⟨rfl,?_⟩;exact qL (N2_1_4_2_1_0 V) (by kernel_rfl) rfl ⟨rfl,trivial⟩
     · refine ak (fun B1 F1 w1=>?_);refine qU 1 rfl ?_;refine ab.nil ⟨rfl,?_⟩;exact qL (N1_1_4_3_1_0 V) (by kernel_rfl) rfl ⟨rfl,trivial⟩
   refine ZH.meet 5 (qB 23 524271) (fun V=>((Vr,OA Ws)::(Vc,CA s.cols)::bG Ws (b.set r q))) (fun V=>[(3,.bx [.sl 1 (v.map af)]),(6,.bx [.sl 1 [],.sl 1 [],dI 0,.sl 3 []]),(7,.d ao),(8,.bx [.v Vr,.v Vc,dI sg,af det]),(11,.d (dI c)),(12,.d (dI r)),(14,.d (af p)),(36,.d (dI most)),(37,.d (dI c)),(16,.d (dI k)),(126,.d (.v Vr)),(127,.d (dI r)),(130,.d (dI k)),(133,.d (.v Vr)),(134,.d (dI r)),(137,.d (dI k)),(140,.d (af p)),(120,.d (dI N)),(121,.d (dI k)),(128,.d (.v (bg Vr (r*1)))),(131,.d (bC v)),(139,.d (af X)),(124,.d (.tu [af Y,ao])),(142,.d (af Y))]) (fun V=>?_) (fun N1_1_4_3_0_0=>?_)
   · refine ZH.two 4 19 (by kernel_rfl) rfl rfl rfl rfl (fun _=>rfl) (fun _=>rfl) ⟨rfl,trivial⟩ ?_ ?_
     · refine ai (fun B1 F1 w1 hS=>?_);refine ab.aX tok (.v (Ws.getD r undef)) (hS.at (i:=0) rfl (by rw[List.length_map];omega)) rfl rfl rfl rfl rfl rfl (bF (by omega)) rfl ?_;refine ab.nil ⟨rfl,?_⟩;exact qL (N2_1_4_3_0_0 V) (by kernel_rfl) rfl ⟨rfl,trivial⟩
     · refine ak (fun B1 F1 w1=>?_);refine qU 1 rfl ?_;refine ab.nil ⟨rfl,?_⟩;exact qL (N1_1_4_3_1_0 V) (by kernel_rfl) rfl ⟨rfl,trivial⟩
   refine ZH.meet 5 (qB 23 262143) (fun V=>((Vr,OA Ws)::(Vc,CA s.cols)::bG Ws (b.set r q))) (fun V=>[(3,.bx [.sl 1 (v.map af)]),(6,.bx [.sl 1 [],.sl 1 [],dI 0,.sl 3 []]),(7,.d ao),(8,.bx [.v Vr,.v Vc,dI sg,af det]),(11,.d (dI c)),(12,.d (dI r)),(14,.d (af p)),(36,.d (dI most)),(37,.d (dI c)),(16,.d (dI k)),(126,.d (.v Vr)),(127,.d (dI r)),(130,.d (dI k)),(133,.d (.v Vr)),(134,.d (dI r)),(137,.d (dI k)),(140,.d (af p)),(120,.d (dI N)),(121,.d (dI k)),(129,.d (.v (Ws.getD r undef))),(131,.d (bC v)),(139,.d (af X)),(124,.d (.tu [af Y,ao]))]) (fun V=>?_) (fun N2_1_4_2_0_0=>?_)
   · refine ZH.two 18 19 (by kernel_rfl) rfl rfl rfl rfl (fun _=>rfl) (fun _=>rfl) ⟨rfl,trivial⟩ ?_ ?_
     · refine ak (fun B1 F1 w1=>?_);refine qU 1 rfl ?_;refine ab.nil ⟨rfl,?_⟩;exact qL (N2_1_4_3_0_0 V) (by kernel_rfl) rfl ⟨rfl,trivial⟩
     · refine ak (fun B1 F1 w1=>?_);refine qU 1 rfl ?_;refine ab.nil ⟨rfl,?_⟩;exact qL (N2_1_4_2_1_0 V) (by kernel_rfl) rfl ⟨rfl,trivial⟩
   refine ZH.meet 6 (qB 23 786407) (fun V=>((Vr,OA Ws)::(Vc,CA s.cols)::bG Ws (b.set r q))) (fun V=>[(3,.bx [.sl 1 (v.map af)]),(6,.bx [.sl 1 [],.sl 1 [],dI 0,.sl 3 []]),(7,.d ao),(8,.bx [.v Vr,.v Vc,dI sg,af det]),(11,.d (dI c)),(12,.d (dI r)),(14,.d (af p)),(36,.d (dI most)),(37,.d (dI c)),(16,.d (dI k)),(126,.d (.v Vr)),(127,.d (dI r)),(130,.d (dI k)),(133,.d (.v Vr)),(134,.d (dI r)),(137,.d (dI k)),(140,.d (af p)),(120,.d (dI N)),(121,.d (dI k)),(131,.d (bC v)),(139,.d (af X)),(124,.d (.tu [af Y,ao])),(143,.d ao)]) (fun V=>?_) (fun N0_1_4_2_1_0=>?_)
   · refine ZH.two 3 18 (by kernel_rfl) rfl rfl rfl rfl (fun _=>rfl) (fun _=>rfl) ⟨rfl,trivial⟩ ?_ ?_
     · refine ai (fun B1 F1 w1 hS=>?_);refine ab.idxs tok (hS.at (i:=0) rfl (by rw[List.length_map];omega)) rfl rfl rfl rfl (Int.natCast_nonneg _) (by show r<_;rw[List.length_map];omega) ?_;refine ab.nil ⟨rfl,?_⟩;exact qL (N1_1_4_2_1_0 V) (by kernel_rfl) rfl ⟨rfl,trivial⟩
     · refine ak (fun B1 F1 w1=>?_);refine qU 1 rfl ?_;refine ab.nil ⟨rfl,?_⟩;exact qL (N0_1_4_3_1_0 V) (by kernel_rfl) rfl ⟨rfl,trivial⟩
   refine ZH.meet 6 (qB 23 524263) (fun V=>((Vr,OA Ws)::(Vc,CA s.cols)::bG Ws (b.set r q))) (fun V=>[(3,.bx [.sl 1 (v.map af)]),(6,.bx [.sl 1 [],.sl 1 [],dI 0,.sl 3 []]),(7,.d ao),(8,.bx [.v Vr,.v Vc,dI sg,af det]),(11,.d (dI c)),(12,.d (dI r)),(14,.d (af p)),(36,.d (dI most)),(37,.d (dI c)),(16,.d (dI k)),(126,.d (.v Vr)),(127,.d (dI r)),(130,.d (dI k)),(133,.d (.v Vr)),(134,.d (dI r)),(137,.d (dI k)),(140,.d (af p)),(120,.d (dI N)),(121,.d (dI k)),(131,.d (bC v)),(139,.d (af X)),(124,.d (.tu [af Y,ao])),(142,.d (af Y))]) (fun V=>?_) (fun N0_1_4_3_0_0=>?_)
   · refine ZH.two 3 19 (by kernel_rfl) rfl rfl rfl rfl (fun _=>rfl) (fun _=>rfl) ⟨rfl,trivial⟩ ?_ ?_
     · refine ai (fun B1 F1 w1 hS=>?_);refine ab.idxs tok (hS.at (i:=0) rfl (by rw[List.length_map];omega)) rfl rfl rfl rfl (Int.natCast_nonneg _) (by show r<_;rw[List.length_map];omega) ?_;refine ab.nil ⟨rfl,?_⟩;exact qL (N1_1_4_3_0_0 V) (by kernel_rfl) rfl ⟨rfl,trivial⟩
     · refine ak (fun B1 F1 w1=>?_);refine qU 1 rfl ?_;refine ab.nil ⟨rfl,?_⟩;exact qL (N0_1_4_3_1_0 V) (by kernel_rfl) rfl ⟨rfl,trivial⟩
   refine ZH.meet 6 (qB 23 262127) (fun V=>((Vr,OA Ws)::(Vc,CA s.cols)::bG Ws (b.set r q))) (fun V=>[(3,.bx [.sl 1 (v.map af)]),(6,.bx [.sl 1 [],.sl 1 [],dI 0,.sl 3 []]),(7,.d ao),(8,.bx [.v Vr,.v Vc,dI sg,af det]),(11,.d (dI c)),(12,.d (dI r)),(14,.d (af p)),(36,.d (dI most)),(37,.d (dI c)),(16,.d (dI k)),(126,.d (.v Vr)),(127,.d (dI r)),(130,.d (dI k)),(133,.d (.v Vr)),(134,.d (dI r)),(137,.d (dI k)),(140,.d (af p)),(120,.d (dI N)),(121,.d (dI k)),(128,.d (.v (bg Vr (r*1)))),(131,.d (bC v)),(139,.d (af X)),(124,.d (.tu [af Y,ao]))]) (fun V=>?_) (fun N1_1_4_2_0_0=>?_)
   · refine ZH.three 4 18 19 (by kernel_rfl) rfl rfl rfl rfl rfl rfl (fun _=>rfl) (fun _=>rfl) (fun _=>rfl) ⟨rfl,trivial⟩ ?_ ?_ ?_
     · refine ai (fun B1 F1 w1 hS=>?_);refine ab.aX tok (.v (Ws.getD r undef)) (hS.at (i:=0) rfl (by rw[List.length_map];omega)) rfl rfl rfl rfl rfl rfl (bF (by omega)) rfl ?_;refine ab.nil ⟨rfl,?_⟩;exact qL (N2_1_4_2_0_0 V) (by kernel_rfl) rfl ⟨rfl,trivial⟩
     · refine ak (fun B1 F1 w1=>?_);refine qU 1 rfl ?_;refine ab.nil ⟨rfl,?_⟩;exact qL (N1_1_4_3_0_0 V) (by kernel_rfl) rfl ⟨rfl,trivial⟩
     · refine ak (fun B1 F1 w1=>?_);refine qU 1 rfl ?_;refine ab.nil ⟨rfl,?_⟩;exact qL (N1_1_4_2_1_0 V) (by kernel_rfl) rfl ⟨rfl,trivial⟩
   refine ZH.meet 6 (qB 23 131071) (fun V=>((Vr,OA Ws)::(Vc,CA s.cols)::bG Ws (b.set r q))) (fun V=>[(3,.bx [.sl 1 (v.map af)]),(6,.bx [.sl 1 [],.sl 1 [],dI 0,.sl 3 []]),(7,.d ao),(8,.bx [.v Vr,.v Vc,dI sg,af det]),(11,.d (dI c)),(12,.d (dI r)),(14,.d (af p)),(36,.d (dI most)),(37,.d (dI c)),(16,.d (dI k)),(126,.d (.v Vr)),(127,.d (dI r)),(130,.d (dI k)),(133,.d (.v Vr)),(134,.d (dI r)),(137,.d (dI k)),(140,.d (af p)),(120,.d (dI N)),(121,.d (dI k)),(129,.d (.v (Ws.getD r undef))),(131,.d (bC v)),(139,.d (af X)),(141,.d (.tu [af Y,ao]))]) (fun V=>?_) (fun N2_1_4_1_0_0=>?_)
   · refine ZH.all 17 (by kernel_rfl) rfl rfl (fun _=>rfl) ⟨rfl,trivial⟩ ?_;refine ak (fun B1 F1 w1=>?_);refine qU 1 rfl ?_;refine ab.nil ⟨rfl,?_⟩;exact qL (N2_1_4_2_0_0 V) (by kernel_rfl) rfl ⟨rfl,trivial⟩
   refine ZH.meet 7 (qB 23 262119) (fun V=>((Vr,OA Ws)::(Vc,CA s.cols)::bG Ws (b.set r q))) (fun V=>[(3,.bx [.sl 1 (v.map af)]),(6,.bx [.sl 1 [],.sl 1 [],dI 0,.sl 3 []]),(7,.d ao),(8,.bx [.v Vr,.v Vc,dI sg,af det]),(11,.d (dI c)),(12,.d (dI r)),(14,.d (af p)),(36,.d (dI most)),(37,.d (dI c)),(16,.d (dI k)),(126,.d (.v Vr)),(127,.d (dI r)),(130,.d (dI k)),(133,.d (.v Vr)),(134,.d (dI r)),(137,.d (dI k)),(140,.d (af p)),(120,.d (dI N)),(121,.d (dI k)),(131,.d (bC v)),(139,.d (af X)),(124,.d (.tu [af Y,ao]))]) (fun V=>?_) (fun N0_1_4_2_0_0=>?_)
   · refine ZH.three 3 18 19 (by kernel_rfl) rfl rfl rfl rfl rfl rfl (fun _=>rfl) (fun _=>rfl) (fun _=>rfl) ⟨rfl,trivial⟩ ?_ ?_ ?_
     · refine ai (fun B1 F1 w1 hS=>?_);refine ab.idxs tok (hS.at (i:=0) rfl (by rw[List.length_map];omega)) rfl rfl rfl rfl (Int.natCast_nonneg _) (by show r<_;rw[List.length_map];omega) ?_;refine ab.nil ⟨rfl,?_⟩;exact qL (N1_1_4_2_0_0 V) (by kernel_rfl) rfl ⟨rfl,trivial⟩
     · refine ak (fun B1 F1 w1=>?_);refine qU 1 rfl ?_;refine ab.nil ⟨rfl,?_⟩;exact qL (N0_1_4_3_0_0 V) (by kernel_rfl) rfl ⟨rfl,trivial⟩
     · refine ak (fun B1 F1 w1=>?_);refine qU 1 rfl ?_;refine ab.nil ⟨rfl,?_⟩;exact qL (N0_1_4_2_1_0 V) (by kernel_rfl) rfl ⟨rfl,trivial⟩
   refine ZH.meet 7 (qB 23 131055) (fun V=>((Vr,OA Ws)::(Vc,CA s.cols)::bG Ws (b.set r q))) (fun V=>[(3,.bx [.sl 1 (v.map af)]),(6,.bx [.sl 1 [],.sl 1 [],dI 0,.sl 3 []]),(7,.d ao),(8,.bx [.v Vr,.v Vc,dI sg,af det]),(11,.d (dI c)),(12,.d (dI r)),(14,.d (af p)),(36,.d (dI most)),(37,.d (dI c)),(16,.d (dI k)),(126,.d (.v Vr)),(127,.d (dI r)),(130,.d (dI k)),(133,.d (.v Vr)),(134,.d (dI r)),(137,.d (dI k)),(140,.d (af p)),(120,.d (dI N)),(121,.d (dI k)),(128,.d (.v (bg Vr (r*1)))),(131,.d (bC v)),(139,.d (af X)),(141,.d (.tu [af Y,ao]))]) (fun V=>?_) (fun N1_1_4_1_0_0=>?_)
   · refine ZH.two 4 17 (by kernel_rfl) rfl rfl rfl rfl (fun _=>rfl) (fun _=>rfl) ⟨rfl,trivial⟩ ?_ ?_
     · refine ai (fun B1 F1 w1 hS=>?_);refine ab.aX tok (.v (Ws.getD r undef)) (hS.at (i:=0) rfl (by rw[List.length_map];omega)) rfl rfl rfl rfl rfl rfl (bF (by omega)) rfl ?_;refine ab.nil ⟨rfl,?_⟩;exact qL (N2_1_4_1_0_0 V) (by kernel_rfl) rfl ⟨rfl,trivial⟩
     · refine ak (fun B1 F1 w1=>?_);refine qU 1 rfl ?_;refine ab.nil ⟨rfl,?_⟩;exact qL (N1_1_4_2_0_0 V) (by kernel_rfl) rfl ⟨rfl,trivial⟩
   refine ZH.meet 7 (qB 23 65535) (fun V=>((Vr,OA Ws)::(Vc,CA s.cols)::bG Ws (b.set r q))) (fun V=>[(3,.bx [.sl 1 (v.map af)]),(6,.bx [.sl 1 [],.sl 1 [],dI 0,.sl 3 []]),(7,.d ao),(8,.bx [.v Vr,.v Vc,dI sg,af det]),(11,.d (dI c)),(12,.d (dI r)),(14,.d (af p)),(36,.d (dI most)),(37,.d (dI c)),(16,.d (dI k)),(126,.d (.v Vr)),(127,.d (dI r)),(130,.d (dI k)),(133,.d (.v Vr)),(134,.d (dI r)),(137,.d (dI k)),(140,.d (af p)),(120,.d (dI N)),(121,.d (dI k)),(129,.d (.v (Ws.getD r undef))),(131,.d (bC v)),(139,.d (af X))]) (fun V=>?_) (fun N2_1_4_0_0_0=>?_)
   · refine ZH.all 16 (by kernel_rfl) rfl rfl (fun _=>rfl) ⟨rfl,trivial⟩ ?_;refine ak (fun B1 F1 w1=>?_);refine ab.call tok rfl rfl rfl rfl cd ?_;refine ab.nil ⟨rfl,?_⟩;exact qL (N2_1_4_1_0_0 V) (by kernel_rfl) rfl ⟨rfl,trivial⟩
   refine ZH.meet 8 (qB 23 131047) (fun V=>((Vr,OA Ws)::(Vc,CA s.cols)::bG Ws (b.set r q))) (fun V=>[(3,.bx [.sl 1 (v.map af)]),(6,.bx [.sl 1 [],.sl 1 [],dI 0,.sl 3 []]),(7,.d ao),(8,.bx [.v Vr,.v Vc,dI sg,af det]),(11,.d (dI c)),(12,.d (dI r)),(14,.d (af p)),(36,.d (dI most)),(37,.d (dI c)),(16,.d (dI k)),(126,.d (.v Vr)),(127,.d (dI r)),(130,.d (dI k)),(133,.d (.v Vr)),(134,.d (dI r)),(137,.d (dI k)),(140,.d (af p)),(120,.d (dI N)),(121,.d (dI k)),(131,.d (bC v)),(139,.d (af X)),(141,.d (.tu [af Y,ao]))]) (fun V=>?_) (fun N0_1_4_1_0_0=>?_)
   · refine ZH.two 3 17 (by kernel_rfl) rfl rfl rfl rfl (fun _=>rfl) (fun _=>rfl) ⟨rfl,trivial⟩ ?_ ?_
     · refine ai (fun B1 F1 w1 hS=>?_);refine ab.idxs tok (hS.at (i:=0) rfl (by rw[List.length_map];omega)) rfl rfl rfl rfl (Int.natCast_nonneg _) (by show r<_;rw[List.length_map];omega) ?_;refine ab.nil ⟨rfl,?_⟩;exact qL (N1_1_4_1_0_0 V) (by kernel_rfl) rfl ⟨rfl,trivial⟩
     · refine ak (fun B1 F1 w1=>?_);refine qU 1 rfl ?_;refine ab.nil ⟨rfl,?_⟩;exact qL (N0_1_4_2_0_0 V) (by kernel_rfl) rfl ⟨rfl,trivial⟩
   refine ZH.meet 8 (qB 23 65519) (fun V=>((Vr,OA Ws)::(Vc,CA s.cols)::bG Ws (b.set r q))) (fun V=>[(3,.bx [.sl 1 (v.map af)]),(6,.bx [.sl 1 [],.sl 1 [],dI 0,.sl 3 []]),(7,.d ao),(8,.bx [.v Vr,.v Vc,dI sg,af det]),(11,.d (dI c)),(12,.d (dI r)),(14,.d (af p)),(36,.d (dI most)),(37,.d (dI c)),(16,.d (dI k)),(126,.d (.v Vr)),(127,.d (dI r)),(130,.d (dI k)),(133,.d (.v Vr)),(134,.d (dI r)),(137,.d (dI k)),(140,.d (af p)),(120,.d (dI N)),(121,.d (dI k)),(128,.d (.v (bg Vr (r*1)))),(131,.d (bC v)),(139,.d (af X))]) (fun V=>?_) (fun N1_1_4_0_0_0=>?_)
   · refine ZH.two 4 16 (by kernel_rfl) rfl rfl rfl rfl (fun _=>rfl) (fun _=>rfl) ⟨rfl,trivial⟩ ?_ ?_
     · refine ai (fun B1 F1 w1 hS=>?_);refine ab.aX tok (.v (Ws.getD r undef)) (hS.at (i:=0) rfl (by rw[List.length_map];omega)) rfl rfl rfl rfl rfl rfl (bF (by omega)) rfl ?_;refine ab.nil ⟨rfl,?_⟩;exact qL (N2_1_4_0_0_0 V) (by kernel_rfl) rfl ⟨rfl,trivial⟩
     · refine ak (fun B1 F1 w1=>?_);refine ab.call tok rfl rfl rfl rfl cd ?_;refine ab.nil ⟨rfl,?_⟩;exact qL (N1_1_4_1_0_0 V) (by kernel_rfl) rfl ⟨rfl,trivial⟩
   refine ZH.meet 8 (qB 23 65471) (fun V=>((Vr,OA Ws)::(Vc,CA s.cols)::bG Ws (b.set r q))) (fun V=>[(3,.bx [.sl 1 (v.map af)]),(6,.bx [.sl 1 [],.sl 1 [],dI 0,.sl 3 []]),(7,.d ao),(8,.bx [.v Vr,.v Vc,dI sg,af det]),(11,.d (dI c)),(12,.d (dI r)),(14,.d (af p)),(36,.d (dI most)),(37,.d (dI c)),(16,.d (dI k)),(126,.d (.v Vr)),(127,.d (dI r)),(130,.d (dI k)),(133,.d (.v Vr)),(134,.d (dI r)),(137,.d (dI k)),(140,.d (af p)),(120,.d (dI N)),(121,.d (dI k)),(129,.d (.v (Ws.getD r undef))),(139,.d (af X))]) (fun V=>?_) (fun N2_0_4_0_0_0=>?_)
   · refine ZH.all 6 (by kernel_rfl) rfl rfl (fun _=>rfl) ⟨rfl,trivial⟩ ?_;refine ak (fun B1 F1 w1=>?_);refine qU 1 rfl ?_;refine ab.nil ⟨rfl,?_⟩;exact qL (N2_1_4_0_0_0 V) (by kernel_rfl) rfl ⟨rfl,trivial⟩
   refine ZH.meet 8 (qB 23 49151) (fun V=>((Vr,OA Ws)::(Vc,CA s.cols)::bG Ws (b.set r q))) (fun V=>[(3,.bx [.sl 1 (v.map af)]),(6,.bx [.sl 1 [],.sl 1 [],dI 0,.sl 3 []]),(7,.d ao),(8,.bx [.v Vr,.v Vc,dI sg,af det]),(11,.d (dI c)),(12,.d (dI r)),(14,.d (af p)),(36,.d (dI most)),(37,.d (dI c)),(16,.d (dI k)),(126,.d (.v Vr)),(127,.d (dI r)),(130,.d (dI k)),(133,.d (.v Vr)),(134,.d (dI r)),(137,.d (dI k)),(140,.d (af p)),(120,.d (dI N)),(121,.d (dI k)),(129,.d (.v (Ws.getD r undef))),(131,.d (bC v)),(136,.d (.v (Ws.getD r undef))),(138,.d (.v (bg (Ws.getD r undef) (k*1))))]) (fun V=>?_) (fun N2_1_3_0_0_0=>?_)
   · refine ZH.all 14 (by kernel_rfl) rfl rfl (fun _=>rfl) ⟨rfl,trivial⟩ ?_;refine ai (fun B1 F1 w1 hS=>?_);refine ab.aX tok (af (q.getD k [])) (hS.at (i:=r+2) (hgr q) (by rw[List.length_map];omega)) rfl rfl rfl rfl rfl rfl (getM af (by omega)) rfl ?_;rw[hpg];refine ab.nil ⟨rfl,?_⟩;exact qL (N2_1_4_0_0_0 V) (by kernel_rfl) rfl ⟨rfl,trivial⟩
   refine ZH.meet 9 (qB 23 65511) (fun V=>((Vr,OA Ws)::(Vc,CA s.cols)::bG Ws (b.set r q))) (fun V=>[(3,.bx [.sl 1 (v.map af)]),(6,.bx [.sl 1 [],.sl 1 [],dI 0,.sl 3 []]),(7,.d ao),(8,.bx [.v Vr,.v Vc,dI sg,af det]),(11,.d (dI c)),(12,.d (dI r)),(14,.d (af p)),(36,.d (dI most)),(37,.d (dI c)),(16,.d (dI k)),(126,.d (.v Vr)),(127,.d (dI r)),(130,.d (dI k)),(133,.d (.v Vr)),(134,.d (dI r)),(137,.d (dI k)),(140,.d (af p)),(120,.d (dI N)),(121,.d (dI k)),(131,.d (bC v)),(139,.d (af X))]) (fun V=>?_) (fun N0_1_4_0_0_0=>?_)
   · refine ZH.two 3 16 (by kernel_rfl) rfl rfl rfl rfl (fun _=>rfl) (fun _=>rfl) ⟨rfl,trivial⟩ ?_ ?_
     · refine ai (fun B1 F1 w1 hS=>?_);refine ab.idxs tok (hS.at (i:=0) rfl (by rw[List.length_map];omega)) rfl rfl rfl rfl (Int.natCast_nonneg _) (by show r<_;rw[List.length_map];omega) ?_;refine ab.nil ⟨rfl,?_⟩;exact qL (N1_1_4_0_0_0 V) (by kernel_rfl) rfl ⟨rfl,trivial⟩
     · refine ak (fun B1 F1 w1=>?_);refine ab.call tok rfl rfl rfl rfl cd ?_;refine ab.nil ⟨rfl,?_⟩;exact qL (N0_1_4_1_0_0 V) (by kernel_rfl) rfl ⟨rfl,trivial⟩
   refine ZH.meet 9 (qB 23 65455) (fun V=>((Vr,OA Ws)::(Vc,CA s.cols)::bG Ws (b.set r q))) (fun V=>[(3,.bx [.sl 1 (v.map af)]),(6,.bx [.sl 1 [],.sl 1 [],dI 0,.sl 3 []]),(7,.d ao),(8,.bx [.v Vr,.v Vc,dI sg,af det]),(11,.d (dI c)),(12,.d (dI r)),(14,.d (af p)),(36,.d (dI most)),(37,.d (dI c)),(16,.d (dI k)),(126,.d (.v Vr)),(127,.d (dI r)),(130,.d (dI k)),(133,.d (.v Vr)),(134,.d (dI r)),(137,.d (dI k)),(140,.d (af p)),(120,.d (dI N)),(121,.d (dI k)),(128,.d (.v (bg Vr (r*1)))),(139,.d (af X))]) (fun V=>?_) (fun N1_0_4_0_0_0=>?_)
   · refine ZH.two 4 6 (by kernel_rfl) rfl rfl rfl rfl (fun _=>rfl) (fun _=>rfl) ⟨rfl,trivial⟩ ?_ ?_
     · refine ai (fun B1 F1 w1 hS=>?_);refine ab.aX tok (.v (Ws.getD r undef)) (hS.at (i:=0) rfl (by rw[List.length_map];omega)) rfl rfl rfl rfl rfl rfl (bF (by omega)) rfl ?_;refine ab.nil ⟨rfl,?_⟩;exact qL (N2_0_4_0_0_0 V) (by kernel_rfl) rfl ⟨rfl,trivial⟩
     · refine ak (fun B1 F1 w1=>?_);refine qU 1 rfl ?_;refine ab.nil ⟨rfl,?_⟩;exact qL (N1_1_4_0_0_0 V) (by kernel_rfl) rfl ⟨rfl,trivial⟩
   refine ZH.meet 9 (qB 23 49135) (fun V=>((Vr,OA Ws)::(Vc,CA s.cols)::bG Ws (b.set r q))) (fun V=>[(3,.bx [.sl 1 (v.map af)]),(6,.bx [.sl 1 [],.sl 1 [],dI 0,.sl 3 []]),(7,.d ao),(8,.bx [.v Vr,.v Vc,dI sg,af det]),(11,.d (dI c)),(12,.d (dI r)),(14,.d (af p)),(36,.d (dI most)),(37,.d (dI c)),(16,.d (dI k)),(126,.d (.v Vr)),(127,.d (dI r)),(130,.d (dI k)),(133,.d (.v Vr)),(134,.d (dI r)),(137,.d (dI k)),(140,.d (af p)),(120,.d (dI N)),(121,.d (dI k)),(128,.d (.v (bg Vr (r*1)))),(131,.d (bC v)),(136,.d (.v (Ws.getD r undef))),(138,.d (.v (bg (Ws.getD r undef) (k*1))))]) (fun V=>?_) (fun N1_1_3_0_0_0=>?_)
   · refine ZH.two 4 14 (by kernel_rfl) rfl rfl rfl rfl (fun _=>rfl) (fun _=>rfl) ⟨rfl,trivial⟩ ?_ ?_
     · refine ai (fun B1 F1 w1 hS=>?_);refine ab.aX tok (.v (Ws.getD r undef)) (hS.at (i:=0) rfl (by rw[List.length_map];omega)) rfl rfl rfl rfl rfl rfl (bF (by omega)) rfl ?_;refine ab.nil ⟨rfl,?_⟩;exact qL (N2_1_3_0_0_0 V) (by kernel_rfl) rfl ⟨rfl,trivial⟩
     · refine ai (fun B1 F1 w1 hS=>?_);refine ab.aX tok (af (q.getD k [])) (hS.at (i:=r+2) (hgr q) (by rw[List.length_map];omega)) rfl rfl rfl rfl rfl rfl (getM af (by omega)) rfl ?_;rw[hpg];refine ab.nil ⟨rfl,?_⟩;exact qL (N1_1_4_0_0_0 V) (by kernel_rfl) rfl ⟨rfl,trivial⟩
   refine ZH.meet 9 (qB 23 49087) (fun V=>((Vr,OA Ws)::(Vc,CA s.cols)::bG Ws (b.set r q))) (fun V=>[(3,.bx [.sl 1 (v.map af)]),(6,.bx [.sl 1 [],.sl 1 [],dI 0,.sl 3 []]),(7,.d ao),(8,.bx [.v Vr,.v Vc,dI sg,af det]),(11,.d (dI c)),(12,.d (dI r)),(14,.d (af p)),(36,.d (dI most)),(37,.d (dI c)),(16,.d (dI k)),(126,.d (.v Vr)),(127,.d (dI r)),(130,.d (dI k)),(133,.d (.v Vr)),(134,.d (dI r)),(137,.d (dI k)),(140,.d (af p)),(120,.d (dI N)),(121,.d (dI k)),(129,.d (.v (Ws.getD r undef))),(136,.d (.v (Ws.getD r undef))),(138,.d (.v (bg (Ws.getD r undef) (k*1))))]) (fun V=>?_) (fun N2_0_3_0_0_0=>?_)
   · refine ZH.two 6 14 (by kernel_rfl) rfl rfl rfl rfl (fun _=>rfl) (fun _=>rfl) ⟨rfl,trivial⟩ ?_ ?_
     · refine ak (fun B1 F1 w1=>?_);refine qU 1 rfl ?_;refine ab.nil ⟨rfl,?_⟩;exact qL (N2_1_3_0_0_0 V) (by kernel_rfl) rfl ⟨rfl,trivial⟩
     · refine ai (fun B1 F1 w1 hS=>?_);refine ab.aX tok (af (q.getD k [])) (hS.at (i:=r+2) (hgr q) (by rw[List.length_map];omega)) rfl rfl rfl rfl rfl rfl (getM af (by omega)) rfl ?_;rw[hpg];refine ab.nil ⟨rfl,?_⟩;exact qL (N2_0_4_0_0_0 V) (by kernel_rfl) rfl ⟨rfl,trivial⟩
   refine ZH.meet 9 (qB 23 40959) (fun V=>((Vr,OA Ws)::(Vc,CA s.cols)::bG Ws (b.set r q))) (fun V=>[(3,.bx [.sl 1 (v.map af)]),(6,.bx [.sl 1 [],.sl 1 [],dI 0,.sl 3 []]),(7,.d ao),(8,.bx [.v Vr,.v Vc,dI sg,af det]),(11,.d (dI c)),(12,.d (dI r)),(14,.d (af p)),(36,.d (dI most)),(37,.d (dI c)),(16,.d (dI k)),(126,.d (.v Vr)),(127,.d (dI r)),(130,.d (dI k)),(133,.d (.v Vr)),(134,.d (dI r)),(137,.d (dI k)),(140,.d (af p)),(120,.d (dI N)),(121,.d (dI k)),(129,.d (.v (Ws.getD r undef))),(131,.d (bC v)),(136,.d (.v (Ws.getD r undef)))]) (fun V=>?_) (fun N2_1_2_0_0_0=>?_)
   · refine ZH.all 13 (by kernel_rfl) rfl rfl (fun _=>rfl) ⟨rfl,trivial⟩ ?_;refine ai (fun B1 F1 w1 hS=>?_);refine ab.idxs tok (hS.at (i:=r+2) (hgr q) (by rw[List.length_map];omega)) rfl rfl rfl rfl (Int.natCast_nonneg k) (by rw[List.length_map];omega) ?_;refine ab.nil ⟨rfl,?_⟩;exact qL (N2_1_3_0_0_0 V) (by kernel_rfl) rfl ⟨rfl,trivial⟩
   refine ZH.meet 10 (qB 23 65447) (fun V=>((Vr,OA Ws)::(Vc,CA s.cols)::bG Ws (b.set r q))) (fun V=>[(3,.bx [.sl 1 (v.map af)]),(6,.bx [.sl 1 [],.sl 1 [],dI 0,.sl 3 []]),(7,.d ao),(8,.bx [.v Vr,.v Vc,dI sg,af det]),(11,.d (dI c)),(12,.d (dI r)),(14,.d (af p)),(36,.d (dI most)),(37,.d (dI c)),(16,.d (dI k)),(126,.d (.v Vr)),(127,.d (dI r)),(130,.d (dI k)),(133,.d (.v Vr)),(134,.d (dI r)),(137,.d (dI k)),(140,.d (af p)),(120,.d (dI N)),(121,.d (dI k)),(139,.d (af X))]) (fun V=>?_) (fun N0_0_4_0_0_0=>?_)
   · refine ZH.two 3 6 (by kernel_rfl) rfl rfl rfl rfl (fun _=>rfl) (fun _=>rfl) ⟨rfl,trivial⟩ ?_ ?_
     · refine ai (fun B1 F1 w1 hS=>?_);refine ab.idxs tok (hS.at (i:=0) rfl (by rw[List.length_map];omega)) rfl rfl rfl rfl (Int.natCast_nonneg _) (by show r<_;rw[List.length_map];omega) ?_;refine ab.nil ⟨rfl,?_⟩;exact qL (N1_0_4_0_0_0 V) (by kernel_rfl) rfl ⟨rfl,trivial⟩
     · refine ak (fun B1 F1 w1=>?_);refine qU 1 rfl ?_;refine ab.nil ⟨rfl,?_⟩;exact qL (N0_1_4_0_0_0 V) (by kernel_rfl) rfl ⟨rfl,trivial⟩
   refine ZH.meet 10 (qB 23 49127) (fun V=>((Vr,OA Ws)::(Vc,CA s.cols)::bG Ws (b.set r q))) (fun V=>[(3,.bx [.sl 1 (v.map af)]),(6,.bx [.sl 1 [],.sl 1 [],dI 0,.sl 3 []]),(7,.d ao),(8,.bx [.v Vr,.v Vc,dI sg,af det]),(11,.d (dI c)),(12,.d (dI r)),(14,.d (af p)),(36,.d (dI most)),(37,.d (dI c)),(16,.d (dI k)),(126,.d (.v Vr)),(127,.d (dI r)),(130,.d (dI k)),(133,.d (.v Vr)),(134,.d (dI r)),(137,.d (dI k)),(140,.d (af p)),(120,.d (dI N)),(121,.d (dI k)),(131,.d (bC v)),(136,.d (.v (Ws.getD r undef))),(138,.d (.v (bg (Ws.getD r undef) (k*1))))]) (fun V=>?_) (fun N0_1_3_0_0_0=>?_)
   · refine ZH.two 3 14 (by kernel_rfl) rfl rfl rfl rfl (fun _=>rfl) (fun _=>rfl) ⟨rfl,trivial⟩ ?_ ?_
     · refine ai (fun B1 F1 w1 hS=>?_);refine ab.idxs tok (hS.at (i:=0) rfl (by rw[List.length_map];omega)) rfl rfl rfl rfl (Int.natCast_nonneg _) (by show r<_;rw[List.length_map];omega) ?_;refine ab.nil ⟨rfl,?_⟩;exact qL (N1_1_3_0_0_0 V) (by kernel_rfl) rfl ⟨rfl,trivial⟩
     · refine ai (fun B1 F1 w1 hS=>?_);refine ab.aX tok (af (q.getD k [])) (hS.at (i:=r+2) (hgr q) (by rw[List.length_map];omega)) rfl rfl rfl rfl rfl rfl (getM af (by omega)) rfl ?_;rw[hpg];refine ab.nil ⟨rfl,?_⟩;exact qL (N0_1_4_0_0_0 V) (by kernel_rfl) rfl ⟨rfl,trivial⟩
   refine ZH.meet 10 (qB 23 49071) (fun V=>((Vr,OA Ws)::(Vc,CA s.cols)::bG Ws (b.set r q))) (fun V=>[(3,.bx [.sl 1 (v.map af)]),(6,.bx [.sl 1 [],.sl 1 [],dI 0,.sl 3 []]),(7,.d ao),(8,.bx [.v Vr,.v Vc,dI sg,af det]),(11,.d (dI c)),(12,.d (dI r)),(14,.d (af p)),(36,.d (dI most)),(37,.d (dI c)),(16,.d (dI k)),(126,.d (.v Vr)),(127,.d (dI r)),(130,.d (dI k)),(133,.d (.v Vr)),(134,.d (dI r)),(137,.d (dI k)),(140,.d (af p)),(120,.d (dI N)),(121,.d (dI k)),(128,.d (.v (bg Vr (r*1)))),(136,.d (.v (Ws.getD r undef))),(138,.d (.v (bg (Ws.getD r undef) (k*1))))]) (fun V=>?_) (fun N1_0_3_0_0_0=>?_)
   · refine ZH.three 4 6 14 (by kernel_rfl) rfl rfl rfl rfl rfl rfl (fun _=>rfl) (fun _=>rfl) (fun _=>rfl) ⟨rfl,trivial⟩ ?_ ?_ ?_
     · refine ai (fun B1 F1 w1 hS=>?_);refine ab.aX tok (.v (Ws.getD r undef)) (hS.at (i:=0) rfl (by rw[List.length_map];omega)) rfl rfl rfl rfl rfl rfl (bF (by omega)) rfl ?_;refine ab.nil ⟨rfl,?_⟩;exact qL (N2_0_3_0_0_0 V) (by kernel_rfl) rfl ⟨rfl,trivial⟩
     · refine ak (fun B1 F1 w1=>?_);refine qU 1 rfl ?_;refine ab.nil ⟨rfl,?_⟩;exact qL (N1_1_3_0_0_0 V) (by kernel_rfl) rfl ⟨rfl,trivial⟩
     · refine ai (fun B1 F1 w1 hS=>?_);refine ab.aX tok (af (q.getD k [])) (hS.at (i:=r+2) (hgr q) (by rw[List.length_map];omega)) rfl rfl rfl rfl rfl rfl (getM af (by omega)) rfl ?_;rw[hpg];refine ab.nil ⟨rfl,?_⟩;exact qL (N1_0_4_0_0_0 V) (by kernel_rfl) rfl ⟨rfl,trivial⟩
   refine ZH.meet 10 (qB 23 40943) (fun V=>((Vr,OA Ws)::(Vc,CA s.cols)::bG Ws (b.set r q))) (fun V=>[(3,.bx [.sl 1 (v.map af)]),(6,.bx [.sl 1 [],.sl 1 [],dI 0,.sl 3 []]),(7,.d ao),(8,.bx [.v Vr,.v Vc,dI sg,af det]),(11,.d (dI c)),(12,.d (dI r)),(14,.d (af p)),(36,.d (dI most)),(37,.d (dI c)),(16,.d (dI k)),(126,.d (.v Vr)),(127,.d (dI r)),(130,.d (dI k)),(133,.d (.v Vr)),(134,.d (dI r)),(137,.d (dI k)),(140,.d (af p)),(120,.d (dI N)),(121,.d (dI k)),(128,.d (.v (bg Vr (r*1)))),(131,.d (bC v)),(136,.d (.v (Ws.getD r undef)))]) (fun V=>?_) (fun N1_1_2_0_0_0=>?_)
   · refine ZH.two 4 13 (by kernel_rfl) rfl rfl rfl rfl (fun _=>rfl) (fun _=>rfl) ⟨rfl,trivial⟩ ?_ ?_
     · refine ai (fun B1 F1 w1 hS=>?_);refine ab.aX tok (.v (Ws.getD r undef)) (hS.at (i:=0) rfl (by rw[List.length_map];omega)) rfl rfl rfl rfl rfl rfl (bF (by omega)) rfl ?_;refine ab.nil ⟨rfl,?_⟩;exact qL (N2_1_2_0_0_0 V) (by kernel_rfl) rfl ⟨rfl,trivial⟩
     · refine ai (fun B1 F1 w1 hS=>?_);refine ab.idxs tok (hS.at (i:=r+2) (hgr q) (by rw[List.length_map];omega)) rfl rfl rfl rfl (Int.natCast_nonneg k) (by rw[List.length_map];omega) ?_;refine ab.nil ⟨rfl,?_⟩;exact qL (N1_1_3_0_0_0 V) (by kernel_rfl) rfl ⟨rfl,trivial⟩
   refine ZH.meet 10 (qB 23 40895) (fun V=>((Vr,OA Ws)::(Vc,CA s.cols)::bG Ws (b.set r q))) (fun V=>[(3,.bx [.sl 1 (v.map af)]),(6,.bx [.sl 1 [],.sl 1 [],dI 0,.sl 3 []]),(7,.d ao),(8,.bx [.v Vr,.v Vc,dI sg,af det]),(11,.d (dI c)),(12,.d (dI r)),(14,.d (af p)),(36,.d (dI most)),(37,.d (dI c)),(16,.d (dI k)),(126,.d (.v Vr)),(127,.d (dI r)),(130,.d (dI k)),(133,.d (.v Vr)),(134,.d (dI r)),(137,.d (dI k)),(140,.d (af p)),(120,.d (dI N)),(121,.d (dI k)),(129,.d (.v (Ws.getD r undef))),(136,.d (.v (Ws.getD r undef)))]) (fun V=>?_) (fun N2_0_2_0_0_0=>?_)
   · refine ZH.two 6 13 (by kernel_rfl) rfl rfl rfl rfl (fun _=>rfl) (fun _=>rfl) ⟨rfl,trivial⟩ ?_ ?_
     · refine ak (fun B1 F1 w1=>?_);refine qU 1 rfl ?_;refine ab.nil ⟨rfl,?_⟩;exact qL (N2_1_2_0_0_0 V) (by kernel_rfl) rfl ⟨rfl,trivial⟩
     · refine ai (fun B1 F1 w1 hS=>?_);refine ab.idxs tok (hS.at (i:=r+2) (hgr q) (by rw[List.length_map];omega)) rfl rfl rfl rfl (Int.natCast_nonneg k) (by rw[List.length_map];omega) ?_;refine ab.nil ⟨rfl,?_⟩;exact qL (N2_0_3_0_0_0 V) (by kernel_rfl) rfl ⟨rfl,trivial⟩
   refine ZH.meet 10 (qB 23 38911) (fun V=>((Vr,OA Ws)::(Vc,CA s.cols)::bG Ws (b.set r q))) (fun V=>[(3,.bx [.sl 1 (v.map af)]),(6,.bx [.sl 1 [],.sl 1 [],dI 0,.sl 3 []]),(7,.d ao),(8,.bx [.v Vr,.v Vc,dI sg,af det]),(11,.d (dI c)),(12,.d (dI r)),(14,.d (af p)),(36,.d (dI most)),(37,.d (dI c)),(16,.d (dI k)),(126,.d (.v Vr)),(127,.d (dI r)),(130,.d (dI k)),(133,.d (.v Vr)),(134,.d (dI r)),(137,.d (dI k)),(140,.d (af p)),(120,.d (dI N)),(121,.d (dI k)),(129,.d (.v (Ws.getD r undef))),(131,.d (bC v)),(135,.d (.v (bg Vr (r*1))))]) (fun V=>?_) (fun N2_1_1_0_0_0=>?_)
   · refine ZH.all 11 (by kernel_rfl) rfl rfl (fun _=>rfl) ⟨rfl,trivial⟩ ?_;refine ai (fun B1 F1 w1 hS=>?_);refine ab.aX tok (.v (Ws.getD r undef)) (hS.at (i:=0) rfl (by rw[List.length_map];omega)) rfl rfl rfl rfl rfl rfl (bF (by omega)) rfl ?_;refine ab.nil ⟨rfl,?_⟩;exact qL (N2_1_2_0_0_0 V) (by kernel_rfl) rfl ⟨rfl,trivial⟩
   refine ZH.meet 11 (qB 23 49063) (fun V=>((Vr,OA Ws)::(Vc,CA s.cols)::bG Ws (b.set r q))) (fun V=>[(3,.bx [.sl 1 (v.map af)]),(6,.bx [.sl 1 [],.sl 1 [],dI 0,.sl 3 []]),(7,.d ao),(8,.bx [.v Vr,.v Vc,dI sg,af det]),(11,.d (dI c)),(12,.d (dI r)),(14,.d (af p)),(36,.d (dI most)),(37,.d (dI c)),(16,.d (dI k)),(126,.d (.v Vr)),(127,.d (dI r)),(130,.d (dI k)),(133,.d (.v Vr)),(134,.d (dI r)),(137,.d (dI k)),(140,.d (af p)),(120,.d (dI N)),(121,.d (dI k)),(136,.d (.v (Ws.getD r undef))),(138,.d (.v (bg (Ws.getD r undef) (k*1))))]) (fun V=>?_) (fun N0_0_3_0_0_0=>?_)
   · refine ZH.three 3 6 14 (by kernel_rfl) rfl rfl rfl rfl rfl rfl (fun _=>rfl) (fun _=>rfl) (fun _=>rfl) ⟨rfl,trivial⟩ ?_ ?_ ?_
     · refine ai (fun B1 F1 w1 hS=>?_);refine ab.idxs tok (hS.at (i:=0) rfl (by rw[List.length_map];omega)) rfl rfl rfl rfl (Int.natCast_nonneg _) (by show r<_;rw[List.length_map];omega) ?_;refine ab.nil ⟨rfl,?_⟩;exact qL (N1_0_3_0_0_0 V) (by kernel_rfl) rfl ⟨rfl,trivial⟩
     · refine ak (fun B1 F1 w1=>?_);refine qU 1 rfl ?_;refine ab.nil ⟨rfl,?_⟩;exact qL (N0_1_3_0_0_0 V) (by kernel_rfl) rfl ⟨rfl,trivial⟩
     · refine ai (fun B1 F1 w1 hS=>?_);refine ab.aX tok (af (q.getD k [])) (hS.at (i:=r+2) (hgr q) (by rw[List.length_map];omega)) rfl rfl rfl rfl rfl rfl (getM af (by omega)) rfl ?_;rw[hpg];refine ab.nil ⟨rfl,?_⟩;exact qL (N0_0_4_0_0_0 V) (by kernel_rfl) rfl ⟨rfl,trivial⟩
   refine ZH.meet 11 (qB 23 40935) (fun V=>((Vr,OA Ws)::(Vc,CA s.cols)::bG Ws (b.set r q))) (fun V=>[(3,.bx [.sl 1 (v.map af)]),(6,.bx [.sl 1 [],.sl 1 [],dI 0,.sl 3 []]),(7,.d ao),(8,.bx [.v Vr,.v Vc,dI sg,af det]),(11,.d (dI c)),(12,.d (dI r)),(14,.d (af p)),(36,.d (dI most)),(37,.d (dI c)),(16,.d (dI k)),(126,.d (.v Vr)),(127,.d (dI r)),(130,.d (dI k)),(133,.d (.v Vr)),(134,.d (dI r)),(137,.d (dI k)),(140,.d (af p)),(120,.d (dI N)),(121,.d (dI k)),(131,.d (bC v)),(136,.d (.v (Ws.getD r undef)))]) (fun V=>?_) (fun N0_1_2_0_0_0=>?_)
   · refine ZH.two 3 13 (by kernel_rfl) rfl rfl rfl rfl (fun _=>rfl) (fun _=>rfl) ⟨rfl,trivial⟩ ?_ ?_
     · refine ai (fun B1 F1 w1 hS=>?_);refine ab.idxs tok (hS.at (i:=0) rfl (by rw[List.length_map];omega)) rfl rfl rfl rfl (Int.natCast_nonneg _) (by show r<_;rw[List.length_map];omega) ?_;refine ab.nil ⟨rfl,?_⟩;exact qL (N1_1_2_0_0_0 V) (by kernel_rfl) rfl ⟨rfl,trivial⟩
     · refine ai (fun B1 F1 w1 hS=>?_);refine ab.idxs tok (hS.at (i:=r+2) (hgr q) (by rw[List.length_map];omega)) rfl rfl rfl rfl (Int.natCast_nonneg k) (by rw[List.length_map];omega) ?_;refine ab.nil ⟨rfl,?_⟩;exact qL (N0_1_3_0_0_0 V) (by kernel_rfl) rfl ⟨rfl,trivial⟩
   refine ZH.meet 11 (qB 23 40879) (fun V=>((Vr,OA Ws)::(Vc,CA s.cols)::bG Ws (b.set r q))) (fun V=>[(3,.bx [.sl 1 (v.map af)]),(6,.bx [.sl 1 [],.sl 1 [],dI 0,.sl 3 []]),(7,.d ao),(8,.bx [.v Vr,.v Vc,dI sg,af det]),(11,.d (dI c)),(12,.d (dI r)),(14,.d (af p)),(36,.d (dI most)),(37,.d (dI c)),(16,.d (dI k)),(126,.d (.v Vr)),(127,.d (dI r)),(130,.d (dI k)),(133,.d (.v Vr)),(134,.d (dI r)),(137,.d (dI k)),(140,.d (af p)),(120,.d (dI N)),(121,.d (dI k)),(128,.d (.v (bg Vr (r*1)))),(136,.d (.v (Ws.getD r undef)))]) (fun V=>?_) (fun N1_0_2_0_0_0=>?_)
   · refine ZH.three 4 6 13 (by kernel_rfl) rfl rfl rfl rfl rfl rfl (fun _=>rfl) (fun _=>rfl) (fun _=>rfl) ⟨rfl,trivial⟩ ?_ ?_ ?_
     · refine ai (fun B1 F1 w1 hS=>?_);refine ab.aX tok (.v (Ws.getD r undef)) (hS.at (i:=0) rfl (by rw[List.length_map];omega)) rfl rfl rfl rfl rfl rfl (bF (by omega)) rfl ?_;refine ab.nil ⟨rfl,?_⟩;exact qL (N2_0_2_0_0_0 V) (by kernel_rfl) rfl ⟨rfl,trivial⟩
     · refine ak (fun B1 F1 w1=>?_);refine qU 1 rfl ?_;refine ab.nil ⟨rfl,?_⟩;exact qL (N1_1_2_0_0_0 V) (by kernel_rfl) rfl ⟨rfl,trivial⟩
     · refine ai (fun B1 F1 w1 hS=>?_);refine ab.idxs tok (hS.at (i:=r+2) (hgr q) (by rw[List.length_map];omega)) rfl rfl rfl rfl (Int.natCast_nonneg k) (by rw[List.length_map];omega) ?_;refine ab.nil ⟨rfl,?_⟩;exact qL (N1_0_3_0_0_0 V) (by kernel_rfl) rfl ⟨rfl,trivial⟩
   refine ZH.meet 11 (qB 23 38895) (fun V=>((Vr,OA Ws)::(Vc,CA s.cols)::bG Ws (b.set r q))) (fun V=>[(3,.bx [.sl 1 (v.map af)]),(6,.bx [.sl 1 [],.sl 1 [],dI 0,.sl 3 []]),(7,.d ao),(8,.bx [.v Vr,.v Vc,dI sg,af det]),(11,.d (dI c)),(12,.d (dI r)),(14,.d (af p)),(36,.d (dI most)),(37,.d (dI c)),(16,.d (dI k)),(126,.d (.v Vr)),(127,.d (dI r)),(130,.d (dI k)),(133,.d (.v Vr)),(134,.d (dI r)),(137,.d (dI k)),(140,.d (af p)),(120,.d (dI N)),(121,.d (dI k)),(128,.d (.v (bg Vr (r*1)))),(131,.d (bC v)),(135,.d (.v (bg Vr (r*1))))]) (fun V=>?_) (fun N1_1_1_0_0_0=>?_)
   · refine ZH.two 4 11 (by kernel_rfl) rfl rfl rfl rfl (fun _=>rfl) (fun _=>rfl) ⟨rfl,trivial⟩ ?_ ?_
     · refine ai (fun B1 F1 w1 hS=>?_);refine ab.aX tok (.v (Ws.getD r undef)) (hS.at (i:=0) rfl (by rw[List.length_map];omega)) rfl rfl rfl rfl rfl rfl (bF (by omega)) rfl ?_;refine ab.nil ⟨rfl,?_⟩;exact qL (N2_1_1_0_0_0 V) (by kernel_rfl) rfl ⟨rfl,trivial⟩
     · refine ai (fun B1 F1 w1 hS=>?_);refine ab.aX tok (.v (Ws.getD r undef)) (hS.at (i:=0) rfl (by rw[List.length_map];omega)) rfl rfl rfl rfl rfl rfl (bF (by omega)) rfl ?_;refine ab.nil ⟨rfl,?_⟩;exact qL (N1_1_2_0_0_0 V) (by kernel_rfl) rfl ⟨rfl,trivial⟩
   refine ZH.meet 11 (qB 23 38847) (fun V=>((Vr,OA Ws)::(Vc,CA s.cols)::bG Ws (b.set r q))) (fun V=>[(3,.bx [.sl 1 (v.map af)]),(6,.bx [.sl 1 [],.sl 1 [],dI 0,.sl 3 []]),(7,.d ao),(8,.bx [.v Vr,.v Vc,dI sg,af det]),(11,.d (dI c)),(12,.d (dI r)),(14,.d (af p)),(36,.d (dI most)),(37,.d (dI c)),(16,.d (dI k)),(126,.d (.v Vr)),(127,.d (dI r)),(130,.d (dI k)),(133,.d (.v Vr)),(134,.d (dI r)),(137,.d (dI k)),(140,.d (af p)),(120,.d (dI N)),(121,.d (dI k)),(129,.d (.v (Ws.getD r undef))),(135,.d (.v (bg Vr (r*1))))]) (fun V=>?_) (fun N2_0_1_0_0_0=>?_)
   · refine ZH.two 6 11 (by kernel_rfl) rfl rfl rfl rfl (fun _=>rfl) (fun _=>rfl) ⟨rfl,trivial⟩ ?_ ?_
     · refine ak (fun B1 F1 w1=>?_);refine qU 1 rfl ?_;refine ab.nil ⟨rfl,?_⟩;exact qL (N2_1_1_0_0_0 V) (by kernel_rfl) rfl ⟨rfl,trivial⟩
     · refine ai (fun B1 F1 w1 hS=>?_);refine ab.aX tok (.v (Ws.getD r undef)) (hS.at (i:=0) rfl (by rw[List.length_map];omega)) rfl rfl rfl rfl rfl rfl (bF (by omega)) rfl ?_;refine ab.nil ⟨rfl,?_⟩;exact qL (N2_0_2_0_0_0 V) (by kernel_rfl) rfl ⟨rfl,trivial⟩
   refine ZH.meet 11 (qB 23 37887) (fun V=>((Vr,OA Ws)::(Vc,CA s.cols)::bG Ws (b.set r q))) (fun V=>[(3,.bx [.sl 1 (v.map af)]),(6,.bx [.sl 1 [],.sl 1 [],dI 0,.sl 3 []]),(7,.d ao),(8,.bx [.v Vr,.v Vc,dI sg,af det]),(11,.d (dI c)),(12,.d (dI r)),(14,.d (af p)),(36,.d (dI most)),(37,.d (dI c)),(16,.d (dI k)),(126,.d (.v Vr)),(127,.d (dI r)),(130,.d (dI k)),(133,.d (.v Vr)),(134,.d (dI r)),(137,.d (dI k)),(140,.d (af p)),(120,.d (dI N)),(121,.d (dI k)),(129,.d (.v (Ws.getD r undef))),(131,.d (bC v))]) (fun V=>?_) (fun N2_1_0_0_0_0=>?_)
   · refine ZH.all 10 (by kernel_rfl) rfl rfl (fun _=>rfl) ⟨rfl,trivial⟩ ?_;refine ai (fun B1 F1 w1 hS=>?_);refine ab.idxs tok (hS.at (i:=0) rfl (by rw[List.length_map];omega)) rfl rfl rfl rfl (Int.natCast_nonneg _) (by show r<_;rw[List.length_map];omega) ?_;refine ab.nil ⟨rfl,?_⟩;exact qL (N2_1_1_0_0_0 V) (by kernel_rfl) rfl ⟨rfl,trivial⟩
   refine ZH.meet 12 (qB 23 40871) (fun V=>((Vr,OA Ws)::(Vc,CA s.cols)::bG Ws (b.set r q))) (fun V=>[(3,.bx [.sl 1 (v.map af)]),(6,.bx [.sl 1 [],.sl 1 [],dI 0,.sl 3 []]),(7,.d ao),(8,.bx [.v Vr,.v Vc,dI sg,af det]),(11,.d (dI c)),(12,.d (dI r)),(14,.d (af p)),(36,.d (dI most)),(37,.d (dI c)),(16,.d (dI k)),(126,.d (.v Vr)),(127,.d (dI r)),(130,.d (dI k)),(133,.d (.v Vr)),(134,.d (dI r)),(137,.d (dI k)),(140,.d (af p)),(120,.d (dI N)),(121,.d (dI k)),(136,.d (.v (Ws.getD r undef)))]) (fun V=>?_) (fun N0_0_2_0_0_0=>?_)
   · refine ZH.three 3 6 13 (by kernel_rfl) rfl rfl rfl rfl rfl rfl (fun _=>rfl) (fun _=>rfl) (fun _=>rfl) ⟨rfl,trivial⟩ ?_ ?_ ?_
     · refine ai (fun B1 F1 w1 hS=>?_);refine ab.idxs tok (hS.at (i:=0) rfl (by rw[List.length_map];omega)) rfl rfl rfl rfl (Int.natCast_nonneg _) (by show r<_;rw[List.length_map];omega) ?_;refine ab.nil ⟨rfl,?_⟩;exact qL (N1_0_2_0_0_0 V) (by kernel_rfl) rfl ⟨rfl,trivial⟩
     · refine ak (fun B1 F1 w1=>?_);refine qU 1 rfl ?_;refine ab.nil ⟨rfl,?_⟩;exact qL (N0_1_2_0_0_0 V) (by kernel_rfl) rfl ⟨rfl,trivial⟩
     · refine ai (fun B1 F1 w1 hS=>?_);refine ab.idxs tok (hS.at (i:=r+2) (hgr q) (by rw[List.length_map];omega)) rfl rfl rfl rfl (Int.natCast_nonneg k) (by rw[List.length_map];omega) ?_;refine ab.nil ⟨rfl,?_⟩;exact qL (N0_0_3_0_0_0 V) (by kernel_rfl) rfl ⟨rfl,trivial⟩
   refine ZH.meet 12 (qB 23 38887) (fun V=>((Vr,OA Ws)::(Vc,CA s.cols)::bG Ws (b.set r q))) (fun V=>[(3,.bx [.sl 1 (v.map af)]),(6,.bx [.sl 1 [],.sl 1 [],dI 0,.sl 3 []]),(7,.d ao),(8,.bx [.v Vr,.v Vc,dI sg,af det]),(11,.d (dI c)),(12,.d (dI r)),(14,.d (af p)),(36,.d (dI most)),(37,.d (dI c)),(16,.d (dI k)),(126,.d (.v Vr)),(127,.d (dI r)),(130,.d (dI k)),(133,.d (.v Vr)),(134,.d (dI r)),(137,.d (dI k)),(140,.d (af p)),(120,.d (dI N)),(121,.d (dI k)),(131,.d (bC v)),(135,.d (.v (bg Vr (r*1))))]) (fun V=>?_) (fun N0_1_1_0_0_0=>?_)
   · refine ZH.two 3 11 (by kernel_rfl) rfl rfl rfl rfl (fun _=>rfl) (fun _=>rfl) ⟨rfl,trivial⟩ ?_ ?_
     · refine ai (fun B1 F1 w1 hS=>?_);refine ab.idxs tok (hS.at (i:=0) rfl (by rw[List.length_map];omega)) rfl rfl rfl rfl (Int.natCast_nonneg _) (by show r<_;rw[List.length_map];omega) ?_;refine ab.nil ⟨rfl,?_⟩;exact qL (N1_1_1_0_0_0 V) (by kernel_rfl) rfl ⟨rfl,trivial⟩
     · refine ai (fun B1 F1 w1 hS=>?_);refine ab.aX tok (.v (Ws.getD r undef)) (hS.at (i:=0) rfl (by rw[List.length_map];omega)) rfl rfl rfl rfl rfl rfl (bF (by omega)) rfl ?_;refine ab.nil ⟨rfl,?_⟩;exact qL (N0_1_2_0_0_0 V) (by kernel_rfl) rfl ⟨rfl,trivial⟩
   refine ZH.meet 12 (qB 23 38831) (fun V=>((Vr,OA Ws)::(Vc,CA s.cols)::bG Ws (b.set r q))) (fun V=>[(3,.bx [.sl 1 (v.map af)]),(6,.bx [.sl 1 [],.sl 1 [],dI 0,.sl 3 []]),(7,.d ao),(8,.bx [.v Vr,.v Vc,dI sg,af det]),(11,.d (dI c)),(12,.d (dI r)),(14,.d (af p)),(36,.d (dI most)),(37,.d (dI c)),(16,.d (dI k)),(126,.d (.v Vr)),(127,.d (dI r)),(130,.d (dI k)),(133,.d (.v Vr)),(134,.d (dI r)),(137,.d (dI k)),(140,.d (af p)),(120,.d (dI N)),(121,.d (dI k)),(128,.d (.v (bg Vr (r*1)))),(135,.d (.v (bg Vr (r*1))))]) (fun V=>?_) (fun N1_0_1_0_0_0=>?_)
   · refine ZH.three 4 6 11 (by kernel_rfl) rfl rfl rfl rfl rfl rfl (fun _=>rfl) (fun _=>rfl) (fun _=>rfl) ⟨rfl,trivial⟩ ?_ ?_ ?_
     · refine ai (fun B1 F1 w1 hS=>?_);refine ab.aX tok (.v (Ws.getD r undef)) (hS.at (i:=0) rfl (by rw[List.length_map];omega)) rfl rfl rfl rfl rfl rfl (bF (by omega)) rfl ?_;refine ab.nil ⟨rfl,?_⟩;exact qL (N2_0_1_0_0_0 V) (by kernel_rfl) rfl ⟨rfl,trivial⟩
     · refine ak (fun B1 F1 w1=>?_);refine qU 1 rfl ?_;refine ab.nil ⟨rfl,?_⟩;exact qL (N1_1_1_0_0_0 V) (by kernel_rfl) rfl ⟨rfl,trivial⟩
     · refine ai (fun B1 F1 w1 hS=>?_);refine ab.aX tok (.v (Ws.getD r undef)) (hS.at (i:=0) rfl (by rw[List.length_map];omega)) rfl rfl rfl rfl rfl rfl (bF (by omega)) rfl ?_;refine ab.nil ⟨rfl,?_⟩;exact qL (N1_0_2_0_0_0 V) (by kernel_rfl) rfl ⟨rfl,trivial⟩
   refine ZH.meet 12 (qB 23 37871) (fun V=>((Vr,OA Ws)::(Vc,CA s.cols)::bG Ws (b.set r q))) (fun V=>[(3,.bx [.sl 1 (v.map af)]),(6,.bx [.sl 1 [],.sl 1 [],dI 0,.sl 3 []]),(7,.d ao),(8,.bx [.v Vr,.v Vc,dI sg,af det]),(11,.d (dI c)),(12,.d (dI r)),(14,.d (af p)),(36,.d (dI most)),(37,.d (dI c)),(16,.d (dI k)),(126,.d (.v Vr)),(127,.d (dI r)),(130,.d (dI k)),(133,.d (.v Vr)),(134,.d (dI r)),(137,.d (dI k)),(140,.d (af p)),(120,.d (dI N)),(121,.d (dI k)),(128,.d (.v (bg Vr (r*1)))),(131,.d (bC v))]) (fun V=>?_) (fun N1_1_0_0_0_0=>?_)
   · refine ZH.two 4 10 (by kernel_rfl) rfl rfl rfl rfl (fun _=>rfl) (fun _=>rfl) ⟨rfl,trivial⟩ ?_ ?_
     · refine ai (fun B1 F1 w1 hS=>?_);refine ab.aX tok (.v (Ws.getD r undef)) (hS.at (i:=0) rfl (by rw[List.length_map];omega)) rfl rfl rfl rfl rfl rfl (bF (by omega)) rfl ?_;refine ab.nil ⟨rfl,?_⟩;exact qL (N2_1_0_0_0_0 V) (by kernel_rfl) rfl ⟨rfl,trivial⟩
     · refine ai (fun B1 F1 w1 hS=>?_);refine ab.idxs tok (hS.at (i:=0) rfl (by rw[List.length_map];omega)) rfl rfl rfl rfl (Int.natCast_nonneg _) (by show r<_;rw[List.length_map];omega) ?_;refine ab.nil ⟨rfl,?_⟩;exact qL (N1_1_1_0_0_0 V) (by kernel_rfl) rfl ⟨rfl,trivial⟩
   refine ZH.meet 12 (qB 23 37823) (fun V=>((Vr,OA Ws)::(Vc,CA s.cols)::bG Ws (b.set r q))) (fun V=>[(3,.bx [.sl 1 (v.map af)]),(6,.bx [.sl 1 [],.sl 1 [],dI 0,.sl 3 []]),(7,.d ao),(8,.bx [.v Vr,.v Vc,dI sg,af det]),(11,.d (dI c)),(12,.d (dI r)),(14,.d (af p)),(36,.d (dI most)),(37,.d (dI c)),(16,.d (dI k)),(126,.d (.v Vr)),(127,.d (dI r)),(130,.d (dI k)),(133,.d (.v Vr)),(134,.d (dI r)),(137,.d (dI k)),(140,.d (af p)),(120,.d (dI N)),(121,.d (dI k)),(129,.d (.v (Ws.getD r undef)))]) (fun V=>?_) (fun N2_0_0_0_0_0=>?_)
   · refine ZH.two 6 10 (by kernel_rfl) rfl rfl rfl rfl (fun _=>rfl) (fun _=>rfl) ⟨rfl,trivial⟩ ?_ ?_
     · refine ak (fun B1 F1 w1=>?_);refine qU 1 rfl ?_;refine ab.nil ⟨rfl,?_⟩;exact qL (N2_1_0_0_0_0 V) (by kernel_rfl) rfl ⟨rfl,trivial⟩
     · refine ai (fun B1 F1 w1 hS=>?_);refine ab.idxs tok (hS.at (i:=0) rfl (by rw[List.length_map];omega)) rfl rfl rfl rfl (Int.natCast_nonneg _) (by show r<_;rw[List.length_map];omega) ?_;refine ab.nil ⟨rfl,?_⟩;exact qL (N2_0_1_0_0_0 V) (by kernel_rfl) rfl ⟨rfl,trivial⟩
   refine ZH.meet 13 (qB 23 38823) (fun V=>((Vr,OA Ws)::(Vc,CA s.cols)::bG Ws (b.set r q))) (fun V=>[(3,.bx [.sl 1 (v.map af)]),(6,.bx [.sl 1 [],.sl 1 [],dI 0,.sl 3 []]),(7,.d ao),(8,.bx [.v Vr,.v Vc,dI sg,af det]),(11,.d (dI c)),(12,.d (dI r)),(14,.d (af p)),(36,.d (dI most)),(37,.d (dI c)),(16,.d (dI k)),(126,.d (.v Vr)),(127,.d (dI r)),(130,.d (dI k)),(133,.d (.v Vr)),(134,.d (dI r)),(137,.d (dI k)),(140,.d (af p)),(120,.d (dI N)),(121,.d (dI k)),(135,.d (.v (bg Vr (r*1))))]) (fun V=>?_) (fun N0_0_1_0_0_0=>?_)
   · refine ZH.three 3 6 11 (by kernel_rfl) rfl rfl rfl rfl rfl rfl (fun _=>rfl) (fun _=>rfl) (fun _=>rfl) ⟨rfl,trivial⟩ ?_ ?_ ?_
     · refine ai (fun B1 F1 w1 hS=>?_);refine ab.idxs tok (hS.at (i:=0) rfl (by rw[List.length_map];omega)) rfl rfl rfl rfl (Int.natCast_nonneg _) (by show r<_;rw[List.length_map];omega) ?_;refine ab.nil ⟨rfl,?_⟩;exact qL (N1_0_1_0_0_0 V) (by kernel_rfl) rfl ⟨rfl,trivial⟩
     · refine ak (fun B1 F1 w1=>?_);refine qU 1 rfl ?_;refine ab.nil ⟨rfl,?_⟩;exact qL (N0_1_1_0_0_0 V) (by kernel_rfl) rfl ⟨rfl,trivial⟩
     · refine ai (fun B1 F1 w1 hS=>?_);refine ab.aX tok (.v (Ws.getD r undef)) (hS.at (i:=0) rfl (by rw[List.length_map];omega)) rfl rfl rfl rfl rfl rfl (bF (by omega)) rfl ?_;refine ab.nil ⟨rfl,?_⟩;exact qL (N0_0_2_0_0_0 V) (by kernel_rfl) rfl ⟨rfl,trivial⟩
   refine ZH.meet 13 (qB 23 37863) (fun V=>((Vr,OA Ws)::(Vc,CA s.cols)::bG Ws (b.set r q))) (fun V=>[(3,.bx [.sl 1 (v.map af)]),(6,.bx [.sl 1 [],.sl 1 [],dI 0,.sl 3 []]),(7,.d ao),(8,.bx [.v Vr,.v Vc,dI sg,af det]),(11,.d (dI c)),(12,.d (dI r)),(14,.d (af p)),(36,.d (dI most)),(37,.d (dI c)),(16,.d (dI k)),(126,.d (.v Vr)),(127,.d (dI r)),(130,.d (dI k)),(133,.d (.v Vr)),(134,.d (dI r)),(137,.d (dI k)),(140,.d (af p)),(120,.d (dI N)),(121,.d (dI k)),(131,.d (bC v))]) (fun V=>?_) (fun N0_1_0_0_0_0=>?_)
   · refine ZH.two 3 10 (by kernel_rfl) rfl rfl rfl rfl (fun _=>rfl) (fun _=>rfl) ⟨rfl,trivial⟩ ?_ ?_
     · refine ai (fun B1 F1 w1 hS=>?_);refine ab.idxs tok (hS.at (i:=0) rfl (by rw[List.length_map];omega)) rfl rfl rfl rfl (Int.natCast_nonneg _) (by show r<_;rw[List.length_map];omega) ?_;refine ab.nil ⟨rfl,?_⟩;exact qL (N1_1_0_0_0_0 V) (by kernel_rfl) rfl ⟨rfl,trivial⟩
     · refine ai (fun B1 F1 w1 hS=>?_);refine ab.idxs tok (hS.at (i:=0) rfl (by rw[List.length_map];omega)) rfl rfl rfl rfl (Int.natCast_nonneg _) (by show r<_;rw[List.length_map];omega) ?_;refine ab.nil ⟨rfl,?_⟩;exact qL (N0_1_1_0_0_0 V) (by kernel_rfl) rfl ⟨rfl,trivial⟩
   refine ZH.meet 13 (qB 23 37807) (fun V=>((Vr,OA Ws)::(Vc,CA s.cols)::bG Ws (b.set r q))) (fun V=>[(3,.bx [.sl 1 (v.map af)]),(6,.bx [.sl 1 [],.sl 1 [],dI 0,.sl 3 []]),(7,.d ao),(8,.bx [.v Vr,.v Vc,dI sg,af det]),(11,.d (dI c)),(12,.d (dI r)),(14,.d (af p)),(36,.d (dI most)),(37,.d (dI c)),(16,.d (dI k)),(126,.d (.v Vr)),(127,.d (dI r)),(130,.d (dI k)),(133,.d (.v Vr)),(134,.d (dI r)),(137,.d (dI k)),(140,.d (af p)),(120,.d (dI N)),(121,.d (dI k)),(128,.d (.v (bg Vr (r*1))))]) (fun V=>?_) (fun N1_0_0_0_0_0=>?_)
   · refine ZH.three 4 6 10 (by kernel_rfl) rfl rfl rfl rfl rfl rfl (fun _=>rfl) (fun _=>rfl) (fun _=>rfl) ⟨rfl,trivial⟩ ?_ ?_ ?_
     · refine ai (fun B1 F1 w1 hS=>?_);refine ab.aX tok (.v (Ws.getD r undef)) (hS.at (i:=0) rfl (by rw[List.length_map];omega)) rfl rfl rfl rfl rfl rfl (bF (by omega)) rfl ?_;refine ab.nil ⟨rfl,?_⟩;exact qL (N2_0_0_0_0_0 V) (by kernel_rfl) rfl ⟨rfl,trivial⟩
     · refine ak (fun B1 F1 w1=>?_);refine qU 1 rfl ?_;refine ab.nil ⟨rfl,?_⟩;exact qL (N1_1_0_0_0_0 V) (by kernel_rfl) rfl ⟨rfl,trivial⟩
     · refine ai (fun B1 F1 w1 hS=>?_);refine ab.idxs tok (hS.at (i:=0) rfl (by rw[List.length_map];omega)) rfl rfl rfl rfl (Int.natCast_nonneg _) (by show r<_;rw[List.length_map];omega) ?_;refine ab.nil ⟨rfl,?_⟩;exact qL (N1_0_1_0_0_0 V) (by kernel_rfl) rfl ⟨rfl,trivial⟩
   refine ZH.meet 14 (qB 23 37799) (fun V=>((Vr,OA Ws)::(Vc,CA s.cols)::bG Ws (b.set r q))) (fun V=>[(3,.bx [.sl 1 (v.map af)]),(6,.bx [.sl 1 [],.sl 1 [],dI 0,.sl 3 []]),(7,.d ao),(8,.bx [.v Vr,.v Vc,dI sg,af det]),(11,.d (dI c)),(12,.d (dI r)),(14,.d (af p)),(36,.d (dI most)),(37,.d (dI c)),(16,.d (dI k)),(126,.d (.v Vr)),(127,.d (dI r)),(130,.d (dI k)),(133,.d (.v Vr)),(134,.d (dI r)),(137,.d (dI k)),(140,.d (af p)),(120,.d (dI N)),(121,.d (dI k))]) (fun V=>?_) (fun N0_0_0_0_0_0=>?_)
   · refine ZH.three 3 6 10 (by kernel_rfl) rfl rfl rfl rfl rfl rfl (fun _=>rfl) (fun _=>rfl) (fun _=>rfl) ⟨rfl,trivial⟩ ?_ ?_ ?_
     · refine ai (fun B1 F1 w1 hS=>?_);refine ab.idxs tok (hS.at (i:=0) rfl (by rw[List.length_map];omega)) rfl rfl rfl rfl (Int.natCast_nonneg _) (by show r<_;rw[List.length_map];omega) ?_;refine ab.nil ⟨rfl,?_⟩;exact qL (N1_0_0_0_0_0 V) (by kernel_rfl) rfl ⟨rfl,trivial⟩
     · refine ak (fun B1 F1 w1=>?_);refine qU 1 rfl ?_;refine ab.nil ⟨rfl,?_⟩;exact qL (N0_1_0_0_0_0 V) (by kernel_rfl) rfl ⟨rfl,trivial⟩
     · refine ai (fun B1 F1 w1 hS=>?_);refine ab.idxs tok (hS.at (i:=0) rfl (by rw[List.length_map];omega)) rfl rfl rfl rfl (Int.natCast_nonneg _) (by show r<_;rw[List.length_map];omega) ?_;refine ab.nil ⟨rfl,?_⟩;exact qL (N0_0_1_0_0_0 V) (by kernel_rfl) rfl ⟨rfl,trivial⟩
   exact qL (N0_0_0_0_0_0 eO) (by kernel_rfl) rfl ⟨rfl,trivial⟩
 have hkN:k=N:=by have:=of_decide_eq_false h;omega
 subst hkN;rw[show fP (w8 v row p) row k=w8 v row p by rw[← hrN];exact wv hz,← hE];refine AZ.exit ?_;have hWe:Ws.length=e.length:=by omega
 have hre:r<e.length:=by omega
 have he2c:e.length=s.rows.length:=by omega
 refine AZ.seq ?_;refine AZ.seq ?_;refine AZ.AN (fun B1 F1 w1 hS=>?_);refine qU 2 rfl ?_;refine ab.lens tok (hS.at (i:=0) rfl (by rw[List.length_map];omega)) rfl rfl rfl rfl ?_;rw[List.length_map,hWe];refine qU 1 rfl ?_;refine ab.nil ⟨rfl,?_⟩;refine AZ.block ?_;refine AZ.aE [3,6,7,8,11,12,36,37,152,153] (fun i:Nat=>(((Vr,OA Ws)::(Vc,CA s.cols)::bG Ws (db v e r c i)),[(3,.bx [.sl 1 (v.map af)]),(6,.bx [.sl 1 [],.sl 1 [],dI 0,.sl 3 []]),(7,.d ao),(8,.bx [.v Vr,.v Vc,dI sg,af det]),(11,.d (dI c)),(12,.d (dI r)),(36,.d (dI most)),(37,.d (dI c)),(152,.d (dI e.length)),(153,.d (dI i))])) (fun i=>i≤e.length) (fun i=>e.length-i) 0 rfl (Nat.zero_le _) (fun i hi=>?_);show AZ _ _ _ _ _ _ _ ((Vr,OA Ws)::(Vc,CA s.cols)::bG Ws (db v e r c i)) [(3,.bx [.sl 1 (v.map af)]),(6,.bx [.sl 1 [],.sl 1 [],dI 0,.sl 3 []]),(7,.d ao),(8,.bx [.v Vr,.v Vc,dI sg,af det]),(11,.d (dI c)),(12,.d (dI r)),(36,.d (dI most)),(37,.d (dI c)),(152,.d (dI e.length)),(153,.d (dI i))];refine AZ.seq ?_;refine AZ.gK (fun B1 F1 w1=>?_);refine qU 1 rfl ?_;refine ab.nil ⟨rfl,?_⟩;refine AZ.seq ?_;refine AZ.cond rfl (fun h=>?_) (fun h=>?_)
 · have hie:i<e.length:=by have:=of_decide_eq_true h;omega
   have hm1:=jB v e r c i;have hm2:=o8 (v:=v) (r:=r) (c:=c) he2 i (by omega);have hm3:=vg V (r:=r) (c:=c) he3 i;have hmi:=fB v e r c i i (.inl (Nat.le_refl _));have hmr:=fB v e r c i r (.inr rfl);have hnx:db v e r c (i+1)=if i≠r∧oh v (bX (db v e r c i) i c)≠0 then (db v e r c i).set i (l8 v ((db v e r c i).getD i []) ((db v e r c i).getD r []) (bX (db v e r c i) i c)) else db v e r c i:=rfl
   have iz:bX (db v e r c i) i c=bX e i c:=vi v e r c i c;generalize db v e r c i=m at *;refine AZ.skip ?_;refine AZ.seq ?_;refine AZ.block ?_;refine AZ.seq ?_;refine AZ.gK (fun B1 F1 w1=>?_);refine qU 2 rfl ?_;refine ab.nil ⟨rfl,?_⟩;refine AZ.seq ?_;refine AZ.any aM (w6.zb 16 (by kernel_rfl) (fun B1 F1 w1 hS=>?_));have hS0:=hS.at (i:=0) rfl (by rw[List.length_map];omega);refine qP 3 rfl ?_;by_cases hir:i=r
   · rw[if_neg (fun g=>g.1 hir)] at hnx;rw[bne_eq_false_iff_eq.2 (show (i:Int)=(r:Int) by omega)];refine qP 13 rfl ?_;refine ae.nil ⟨rfl,?_⟩;refine aj.nil ?_;refine AZ.au rfl ?_;refine AZ.skip ?_;refine AZ.gK (fun B1 F1 w1=>?_);refine qU 1 rfl ?_;rw[aC (x:=(i:Int)+1) (by omega) (by omega)];refine qU 1 rfl ?_;refine ab.nil ⟨rfl,?_⟩;exact⟨i+1,Prod.ext (show ((Vr,OA Ws)::(Vc,CA s.cols)::bG Ws m)=((Vr,OA Ws)::(Vc,CA s.cols)::bG Ws (db v e r c (i+1))) by rw[hnx]) rfl,hie,by omega⟩
   have hmiN:(m.getD i []).length=k:=hm2 i (by omega);have hmrN:(m.getD r []).length=k:=hm2 r (by omega);have hgi:=gU (Vs:=Ws) (a:=m) (j:=i) (by omega) (by omega);have hgr2:=gU (Vs:=Ws) (a:=m) (j:=r) (by omega) (by omega);have hS1:=hS.at (i:=i+2) hgi (by rw[List.length_map];omega);have cs:=im V (hm3 i c) (by rw[iz];exact oks i (by omega) (by omega));have okt2:=okt i (by omega) (by omega);rw[← iz,← hmi,← hmr] at okt2;rw[bne_iff_ne.2 (show (i:Int)≠(r:Int) by omega)];refine qP 5 rfl ?_;refine ae.idxs tok hS0 rfl rfl rfl rfl rfl (Int.natCast_nonneg i) (by rw[List.length_map];omega) ?_;refine ae.aX tok (.v (Ws.getD i undef)) hS0 rfl rfl rfl rfl rfl rfl rfl (bF (by omega)) rfl ?_;refine qP 1 rfl ?_;refine ae.idxs tok hS1 rfl rfl rfl rfl rfl (Int.natCast_nonneg c) (by rw[List.length_map];omega) ?_;refine ae.aX tok (af (bX m i c)) hS1 rfl rfl rfl rfl rfl rfl rfl (hel hm2 (by omega) c hcN) rfl ?_;refine ae.call tok rfl rfl rfl rfl rfl cs ?_;refine qP 2 rfl ?_;refine ae.nil ⟨rfl,?_⟩;refine aj.nil ?_;refine AZ.cond rfl (fun h=>?_) (fun h=>?_);rotate_left
   · have hg:oh v (bX m i c)=0:=bne_eq_false_iff_eq.1 h;rw[if_neg (fun g=>g.2 hg)] at hnx;refine AZ.skip ?_;refine AZ.gK (fun B1 F1 w1=>?_);refine qU 1 rfl ?_;rw[aC (x:=(i:Int)+1) (by omega) (by omega)];refine qU 1 rfl ?_;refine ab.nil ⟨rfl,?_⟩;exact⟨i+1,Prod.ext (show ((Vr,OA Ws)::(Vc,CA s.cols)::bG Ws m)=((Vr,OA Ws)::(Vc,CA s.cols)::bG Ws (db v e r c (i+1))) by rw[hnx]) rfl,hie,by omega⟩
   have hg:oh v (bX m i c)≠0:=bne_iff_ne.1 h;rw[if_pos ⟨hir,hg⟩] at hnx;have ct:=rC (Ws.getD i undef) (Ws.getD r undef) V (xs:=m.getD i []) (ys:=m.getD r []) (c:=bX m i c) (by omega) (by omega) (by omega) (hm3 i) (hm3 r) (hm3 i c) (okt2 (by rw[iz] at hg ⊢; exact hg));refine AZ.seq ?_;refine AZ.any aM (w6.zb 19 (by kernel_rfl) (fun B1 F1 w1 hS=>?_));have hS0:=hS.at (i:=0) rfl (by rw[List.length_map];omega);have hS1:=hS.at (i:=i+2) hgi (by rw[List.length_map];omega);refine qP 4 rfl ?_;refine ae.idxs tok hS0 rfl rfl rfl rfl rfl (Int.natCast_nonneg i) (by rw[List.length_map];omega) ?_;refine ae.aX tok (.v (Ws.getD i undef)) hS0 rfl rfl rfl rfl rfl rfl rfl (bF (by omega)) rfl ?_;refine qP 3 rfl ?_;refine ae.idxs tok hS0 rfl rfl rfl rfl rfl (Int.natCast_nonneg r) (by rw[List.length_map];omega) ?_;refine ae.aX tok (.v (Ws.getD r undef)) hS0 rfl rfl rfl rfl rfl rfl rfl (bF (by omega)) rfl ?_;refine qP 3 rfl ?_;refine ae.idxs tok hS0 rfl rfl rfl rfl rfl (Int.natCast_nonneg i) (by rw[List.length_map];omega) ?_;refine ae.aX tok (.v (Ws.getD i undef)) hS0 rfl rfl rfl rfl rfl rfl rfl (bF (by omega)) rfl ?_;refine qP 1 rfl ?_;refine ae.idxs tok hS1 rfl rfl rfl rfl rfl (Int.natCast_nonneg c) (by rw[List.length_map];omega) ?_;refine ae.aX tok (af (bX m i c)) hS1 rfl rfl rfl rfl rfl rfl rfl (hel hm2 (by omega) c hcN) rfl ?_;refine ae.nil ⟨rfl,?_⟩;refine aj.to [172,177,182,190,3,6,7,8,11,12,36,37,152,153] [(172,.d (bC v)),(177,.d (.v (Ws.getD i undef))),(182,.d (.v (Ws.getD r undef))),(190,.d (af (bX m i c))),(3,.bx [.sl 1 (v.map af)]),(6,.bx [.sl 1 [],.sl 1 [],dI 0,.sl 3 []]),(7,.d ao),(8,.bx [.v Vr,.v Vc,dI sg,af det]),(11,.d (dI c)),(12,.d (dI r)),(36,.d (dI most)),(37,.d (dI c)),(152,.d (dI e.length)),(153,.d (dI i))] rfl ?_;refine aj.iD tok [i+2,r+2] rfl rfl rfl rfl (F5 hgi hgr2) (by simp[hir]) rfl ct (fun res R1 hP=>by rw[hP.2];exact Nat.le_refl _) (fun res R1 hP=>?_);obtain ⟨rfl,rfl⟩:=hP
   refine aj.rX (R':=(Vr,OA Ws)::(Vc,CA s.cols)::bG Ws (db v e r c (i+1))) (by
    show ((Vr,OA Ws)::(Vc,CA s.cols)::((bG Ws m).set i _).set r _)++[]=_
    rw[List.append_nil,Cc (by omega) (by omega) (by omega) hir,hnx]) ?_
   refine aj.cut 1 rfl (fun B1 F1 w1=>?_);refine qU 1 rfl ?_;refine ab.nil ⟨rfl,?_⟩;refine aj.nil ?_;refine AZ.seq ?_;refine AZ.gK (fun B1 F1 w1=>?_);refine qU 1 rfl ?_;refine ab.err tok rfl rfl rfl rfl rfl ?_;refine ab.nil ⟨rfl,?_⟩;refine AZ.au rfl ?_;refine AZ.skip ?_;refine AZ.gK (fun B1 F1 w1=>?_);refine qU 1 rfl ?_;rw[aC (x:=(i:Int)+1) (by omega) (by omega)];refine qU 1 rfl ?_;refine ab.nil ⟨rfl,?_⟩;exact⟨i+1,rfl,hie,by omega⟩
 have hie:i=e.length:=by have:=of_decide_eq_false h;omega
 subst hie;refine AZ.exit ?_;refine AZ.region ?_;refine aj.cut 4 rfl (fun B1 F1 w1=>?_);refine qU 3 rfl ?_;refine ab.e7 tok rfl rfl rfl rfl rfl ?_;refine ab.nil ⟨rfl,?_⟩;refine aj.fa 198 1 rfl rfl rfl ?_;refine aj.cut 1 rfl (fun B1 F1 w1=>?_);refine ab.gP tok rfl rfl rfl rfl rfl rfl (by show ((s.cols.map (fun c:Nat=>dI c)).length+1)*8≤_;rw[List.length_map];omega) (by show (s.cols.map (fun c:Nat=>dI c)).length+1≤_;rw[List.length_map];omega) ?_;refine ab.nil ⟨rfl,?_⟩;refine aj.wA 201 1 rfl rfl rfl rfl (fun Vq=>?_)
 refine aj.rX (R':=(Vr,OA Ws)::(Vq,CA (s.cols++[c]))::bG Ws (db v e r c e.length)) (by
  show (Vr,OA Ws)::(Vq,AV.ow 3 (s.cols.map (fun c:Nat=>dI c)++[dI c]))::bG Ws (db v e r c e.length)=_
  rw[show s.cols.map (fun c:Nat=>dI c)++[dI (c:Int)]=(s.cols++[c]).map (fun c:Nat=>dI c) by simp]) ?_
 refine aj.cut 2 rfl (fun B1 F1 w1=>?_);refine qU 2 rfl ?_;refine ab.nil ⟨rfl,?_⟩;refine aj.nil ?_;refine AZ.gK (fun B1 F1 w1=>?_);refine qU 1 rfl ?_;rw[aC (x:=(c:Int)+1) (by omega) (by omega)];refine qU 1 rfl ?_;refine ab.nil ⟨rfl,?_⟩;exact⟨(c+1,Vr,Vq,Ws),by rw[hst];rfl,⟨hcm,by show Ws.length=a.length;omega⟩,by show most-(c+1)<most-c;omega⟩
end Lift
namespace Lift
open Go Go.Proofs
theorem nF(v:List NQ)(most:Nat)(hm:most≤1000000):Pure Tryz.prog 46 [bC v,cZ [],dI most] (.tu [B8 ⟨[],[],1,[1]⟩,ao]):=by
 refine qJ 205 Tryz.func46 rfl rfl rfl rfl (by kernel_rfl) (fun B F0 w0=>?_);have cone:=pe (Qr ((1:Int):Rat)) (k:=1) (jH _ (by have:=su;rw[show ((1:Int):Rat)=1 from rfl];omega)) (by decide) (by decide) (zn _);rw[cX,show Fj ((1:Int):Rat)=[1] from rfl] at cone;refine qX 3 rfl ?_;refine qI (AW.region ?_);refine ab.call tok rfl rfl rfl rfl (iA 1 (by decide) (by decide)) ?_;refine ab.call tok rfl rfl rfl rfl cone ?_;refine qU 3 rfl ?_;refine qI ?_;refine qX 3 rfl ?_;refine ab.nil ?_;refine AW.block ?_;refine AW.aE [2,3,6,7,8,22,23,24] (fun _:Unit=>[(2,.d (dI most)),(3,.bx [.sl 1 (v.map af)]),(6,.bx [.sl 1 [],.sl 1 [],dI 0,.sl 3 []]),(7,.d ao),(8,.bx [.sl 1 [],.sl 1 [],dI 1,af [1]]),(22,.d (cZ [])),(23,.d (dI 0)),(24,.d (dI 0))]) (fun _=>True) (fun _=>0) () rfl trivial (fun _ _=>?_);show AW _ _ _ _ _ _ _ [(2,.d (dI most)),(3,.bx [.sl 1 (v.map af)]),(6,.bx [.sl 1 [],.sl 1 [],dI 0,.sl 3 []]),(7,.d ao),(8,.bx [.sl 1 [],.sl 1 [],dI 1,af [1]]),(22,.d (cZ [])),(23,.d (dI 0)),(24,.d (dI 0))];refine qX 1 rfl ?_;refine qI ?_;refine AW.au rfl ?_;refine AW.exit (AW.seq ?_);refine qX 2 rfl ?_;refine ab.nil ?_;refine AW.block ?_;refine AW.aE [3,6,7,8,36,37] (fun c:Nat=>[(3,.bx [.sl 1 (v.map af)]),(6,.bx [.sl 1 [],.sl 1 [],dI 0,.sl 3 []]),(7,.d ao),(8,.bx [.sl 1 [],.sl 1 [],dI 1,af [1]]),(36,.d (dI most)),(37,.d (dI c))]) (fun c=>c≤most) (fun c=>most-c) 0 rfl (Nat.zero_le _) (fun c hc=>?_);show AW _ _ _ _ _ _ _ [(3,.bx [.sl 1 (v.map af)]),(6,.bx [.sl 1 [],.sl 1 [],dI 0,.sl 3 []]),(7,.d ao),(8,.bx [.sl 1 [],.sl 1 [],dI 1,af [1]]),(36,.d (dI most)),(37,.d (dI c))];refine qX 1 rfl ?_;refine qI ?_;refine AW.cond rfl (fun h=>?_) (fun h=>?_);rotate_left
 · refine AW.exit ?_;refine qX 3 rfl ?_;exact qN rfl
 have hcm:c<most:=by have:=of_decide_eq_true h;omega
 refine AW.skip (AW.seq (AW.block ?_));refine qX 2 rfl ?_;refine qK 4 rfl ?_;refine qK 2 rfl ?_;refine ab.nil ?_;refine AW.cut [3,6,7,8,12,13,36,37] (fun _:Unit=>[(3,.bx [.sl 1 (v.map af)]),(6,.bx [.sl 1 [],.sl 1 [],dI 0,.sl 3 []]),(7,.d ao),(8,.bx [.sl 1 [],.sl 1 [],dI 1,af [1]]),(12,.d (dI 0)),(13,.d (dI 0)),(36,.d (dI most)),(37,.d (dI c))]) (fun _=>True) ?_ (fun _ _=>?_)
 · refine AW.block ?_;refine AW.aE [3,6,7,8,11,12,13,36,37] (fun _:Unit=>[(3,.bx [.sl 1 (v.map af)]),(6,.bx [.sl 1 [],.sl 1 [],dI 0,.sl 3 []]),(7,.d ao),(8,.bx [.sl 1 [],.sl 1 [],dI 1,af [1]]),(11,.d (dI c)),(12,.d (dI 0)),(13,.d (dI 0)),(36,.d (dI most)),(37,.d (dI c))]) (fun _=>True) (fun _=>0) () rfl trivial (fun _ _=>?_);show AW _ _ _ _ _ _ _ [(3,.bx [.sl 1 (v.map af)]),(6,.bx [.sl 1 [],.sl 1 [],dI 0,.sl 3 []]),(7,.d ao),(8,.bx [.sl 1 [],.sl 1 [],dI 1,af [1]]),(11,.d (dI c)),(12,.d (dI 0)),(13,.d (dI 0)),(36,.d (dI most)),(37,.d (dI c))];refine AW.seq (AW.seq ?_);refine AW.draw aM 18 (by kernel_rfl) ?_;refine qP 18 rfl ?_;refine ae.nil ?_;refine ab.nil ?_;refine AW.au rfl ?_;exact AW.exit ⟨(),rfl,trivial⟩
 show AW _ _ _ _ _ _ _ [(3,.bx [.sl 1 (v.map af)]),(6,.bx [.sl 1 [],.sl 1 [],dI 0,.sl 3 []]),(7,.d ao),(8,.bx [.sl 1 [],.sl 1 [],dI 1,af [1]]),(12,.d (dI 0)),(13,.d (dI 0)),(36,.d (dI most)),(37,.d (dI c))];refine AW.seq ?_;refine qX 5 rfl ?_;refine ab.nil ?_;refine AW.aF rfl ?_;refine AW.exit ?_;refine qT 1 rfl ?_;rw[aC (x:=(c:Int)+1) (by omega) (by omega)];refine qU 1 rfl ?_;refine ab.nil ?_;exact⟨c+1,rfl,hcm,by omega⟩
def ot(v:List NQ)(a:bw):jG:=bk v a (ah a)
structure uf (v:List NQ) (a:bw):Prop where
 l:a.length≤32
 r:cL (ah a) a
 c:ah a≤32
 lt:pI v.length a
theorem fr{v:List NQ}(V:kl v){a:bw}{N most:Nat}(ha:a.length≤1000000)(hN:N≤1000000)(hmost:most≤N)(hr:cL N a)(hl:pI v.length a)(ok: ∀c,c<most→j6 v (bk v a c) c):
  Pure Tryz.prog 46 [bC v,cZ a,dI most] (.tu [B8 (bk v a most),ao]):=by
 by_cases h0:a.length=0
 · rw[List.length_eq_zero_iff.1 h0,yO];exact nF v most (by omega)
 · exact oK V (by omega) ha hN hmost hr hl ok
def oy(a:bw):List (List (List RD)):=a.map (fun r=>r.map dJ)
theorem nh(a:bw):(oy a).length=a.length:=List.length_map ..
theorem jn(a:bw)(i:Nat):(oy a).getD i []=(a.getD i []).map dJ:=by
 unfold oy;rw[List.getD_eq_getElem?_getD,List.getElem?_map,List.getD_eq_getElem?_getD];cases a[i]? with
 | none=>rfl
 | some x=>rfl
theorem qb(a:bw)(i k:Nat):((oy a).getD i []).getD k []=dJ (bX a i k):=by
 rw[jn];unfold bX;generalize a.getD i []=r;rw[List.getD_eq_getElem?_getD,List.getElem?_map,List.getD_eq_getElem?_getD];cases r[k]? with
 | none=>rfl
 | some x=>rfl
theorem uB(a:bw):MxR (oy a)=cZ a:=by
 show D.sl 1 ((a.map _).map RwR)=D.sl 1 (a.map bu);rw[List.map_map]
 congr 1
 refine List.map_congr_left fun r _=>?_;show D.sl 1 ((r.map dJ).map cF)=D.sl 1 (r.map af);rw[List.map_map]
 congr 1
 exact List.map_congr_left fun x _=>ox x
theorem lF(a:bw):ah (oy a)=ah a:=by unfold ah;rw[jn,List.length_map]
theorem nV.s{m:Nat}{v:List NQ}(V:nV m v)(hk:ny v.length m):ER m (jR v):=by
 have hl5:=V.l5;have hm2:=V.m2;have T:=V.raw.1;exact⟨fun i hi _=>by rw[nc];exact ov (V.sz i),V.m1,by rw[fm];omega,T.ll,fun _=>by rw[fm];exact hk,hm2⟩
theorem uf.raw{m:Nat}{v:List NQ}{a:bw}(V:nV m v)(G:uf v a)(hs: ∀i k,ar m (bX a i k)):B9 m (jR v) (oy a)∧kf (jR v) (oy a)=0:=by
 have hl:=G.l;have hc:=G.c
 have hrow: ∀i,((oy a).getD i []).length≤32:=fun i=>by
  rw[jn,List.length_map];by_cases h:i<a.length
  · rw[G.r i h];exact hc
  · rw[lO (by omega)];exact Nat.zero_le _
 refine⟨⟨fun i k=>by rw[qb];exact CM V (G.lt i k) (hs i k),by rw[nh];omega,fun i=>Nat.le_trans (hrow i) (by decide)⟩,?_⟩;unfold kf;rw[if_neg (by rw[V.raw.2];simp)];unfold rA;split
 · rfl
 rw[nh,lF,if_neg (by omega)]
 have e1:fE (tG (oy a)) (a.length-0) 0=0:=gE fun j hj=>by
  unfold tG;rw[lF,jn,List.length_map,G.r j (by omega)];exact if_neg (fun h=>h rfl)
 rw[e1,if_neg (by decide)];refine gE fun j hj=>?_;unfold ja;refine gE fun k hk=>?_;rw[qb];exact Gm V (G.lt j k)
theorem rE{m:Nat}{v:List NQ}{a:bw}(V:nV m v)(hk:ny v.length m)(G:uf v a)(hs: ∀i k,ar m (bX a i k))(ok: ∀c,c<ah a→j6 v (bk v a c) c):Pure Tryz.prog 13 [bC v,cZ a] (.tu [dI (ot v a).cols.length,ao]):=by
 refine qJ 29 Tryz.func13 rfl rfl rfl rfl (by kernel_rfl) (fun B F0 w0=>?_);obtain ⟨r1,r2⟩:=G.raw V hs;have cc:=gz (V.s hk) r1;rw[r2,mA,uB] at cc;have hGl:=G.l;have hGc:=G.c;have cr:=fr V.a (most:=ah a) (by omega) (by omega) (Nat.le_refl _) G.r G.lt ok;have hcl:=(fN V.a G.r G.lt (ah a)).cl;change Pure _ _ _ (.tu [B8 (ot v a),ao]) at cr;generalize ot v a=s at cr ⊢;obtain ⟨rows,cols,sg,det⟩:=s;refine qX 3 rfl ?_;refine qI ?_;refine qX 2 rfl ?_;refine ab.call tok rfl rfl rfl rfl cc ?_;refine qU 1 rfl ?_;refine qK 1 rfl ?_;refine ab.err tok rfl rfl rfl rfl rfl ?_;refine ab.nil ?_;refine AW.au rfl ?_
 · refine AW.skip (AW.seq ?_);refine AW.nQ tok aM [(7,true),(1,false),(1,true)] 9 [7] (by kernel_rfl) ⟨rfl,?_⟩;refine qP 3 rfl ?_;refine ae.call tok rfl rfl rfl rfl rfl (bQ a) ?_;refine ae.call tok rfl rfl rfl rfl rfl cr ?_;refine qP 2 rfl ?_;refine ae.nil ⟨rfl,?_⟩;refine qP 1 rfl ?_;refine ae.nil ⟨rfl,?_⟩;refine qP 1 rfl ?_;refine ae.nil ⟨_,nY.cons (.bx rfl) (nY.nil),?_⟩;refine qU 1 rfl ?_;refine qI ?_;refine qX 1 rfl ?_;refine ab.err tok rfl rfl rfl rfl rfl ?_;refine ab.nil ?_;refine AW.au rfl ?_
   · refine AW.skip ?_;refine qX 2 rfl ?_;refine qU 1 rfl ?_;rw[List.length_map];refine qU 2 rfl ?_;exact qN rfl
end Lift
namespace Lift
def dL(a:bw):bw:=(List.range (ah a)).map fun k=>a.map fun r=>r.getD k []
theorem lv(a:bw):(dL a).length=ah a:=by unfold dL;rw[List.length_map,List.length_range]
theorem n8(a:bw){k:Nat}(h:k<ah a):(dL a).getD k []=a.map fun r=>r.getD k []:=by
 unfold dL;rw[List.getD_eq_getElem?_getD,List.getElem?_map,List.getElem?_range h];rfl
theorem zd(a:bw)(k i:Nat):(a.map fun r=>r.getD k []).getD i []=bX a i k:=by
 unfold bX;rw[List.getD_eq_getElem?_getD,List.getElem?_map,List.getD_eq_getElem?_getD (l:=a)];cases a[i]? with
 | none=>exact(lN (Nat.zero_le k)).symm
 | some r=>rfl
theorem Ag(a:bw){i k:Nat}(h:k<ah a):bX (dL a) k i=bX a i k:=by
 show ((dL a).getD k []).getD i []=_;rw[n8 a h];exact zd a k i
theorem mr(a:bw):cL a.length (dL a):=fun k hk=>by
 rw[lv] at hk;rw[n8 a hk,List.length_map]
theorem tn{p:NQ→Prop}(h0:p []){a:bw}(h: ∀i k,p (bX a i k)): ∀i k,p (bX (dL a) i k):=fun k i=>by
 by_cases hk:k<ah a
 · rw[Ag a hk];exact h i k
 · unfold bX;rw[lO (by rw[lv];omega)];exact h0
theorem qA{l:Nat}{a:bw}(h:pI l a):pI l (dL a):=tn (p:=aq l) (bd l) h
def DK(v:List NQ)(a:bw)(c:Nat):List Nat:=(List.range c).filter fun i=> !(bk v a c).cols.contains i
theorem AP(v:List NQ)(a:bw)(c:Nat):(bk v a (c+1)).cols=(bk v a c).cols++[c]∨(bk v a (c+1)).cols=(bk v a c).cols:=by
 show (dM v (bk v a c) c).cols=(bk v a c).cols++[c]∨(dM v (bk v a c) c).cols=(bk v a c).cols;unfold dM;split
 · exact .inl rfl
 · exact .inr rfl
theorem yP(v:List NQ)(a:bw): ∀c,∀x∈(bk v a c).cols,x<c
 | 0,x,h=>by cases h
 | c+1,x,h=>by
   have ih:=yP v a c;rcases AP v a c with e | e
   · rw[e] at h;rcases List.mem_append.1 h with h | h
     · exact Nat.lt_succ_of_lt (ih x h)
     · rw[List.mem_singleton.1 h];exact Nat.lt_succ_self c
   · rw[e] at h;exact Nat.lt_succ_of_lt (ih x h)
def CL(v:List NQ)(a:bw):List Nat:=DK v (dL a) a.length
theorem CK{v:List NQ}(V:kl v){a:bw}(G:uf v a):(ot v a).cols.length≤a.length∧(ot v a).cols.length≤ah a :=
 ⟨(fN V G.r G.lt (ah a)).cm,(fN V G.r G.lt (ah a)).cl⟩
end Lift
namespace Lift
open Go Go.Proofs
theorem ni(n:Nat)(r:D)(hn:n≤4611686018427387904)(h1: ∀i:Nat,i≤5→n=2^i→r= .tu [dI i,dB true])(h2:(∀i:Nat,i≤5→n≠2^i)→r= .tu [dI 0,dB false]):Pure Tryz.prog 76 [dI n] r:=by
 refine qJ 14 Tryz.func76 rfl rfl rfl rfl (by kernel_rfl) (fun B0 F0 w0=>?_);refine qX 2 rfl ?_;refine qI ?_;refine qX 1 rfl ?_;refine ab.nil ?_;refine AW.block ?_;refine AW.aE [0,5] (fun k:Nat=>[(0,.d (dI n)),(5,.d (dI k))]) (fun k=>k≤6∧ ∀j,j<k→n≠2^j) (fun k=>6-k) 0 rfl ⟨Nat.zero_le _,fun j hj=>by omega⟩ (fun k ⟨hk,hi⟩=>?_);refine qX 1 rfl ?_;refine qI ?_;refine AW.cond rfl (fun h=>?_) (fun h=>?_);rotate_left
 · have hkk:k=6:=by have:=of_decide_eq_false h;omega
   subst hkk;rw[h2 (fun i hi5=>hi i (by omega))];refine AW.exit ?_;refine qX 2 rfl ?_;exact qN rfl
 have hkk:k<6:=by have:=of_decide_eq_true h;omega
 refine AW.skip (AW.seq (AW.block ?_));refine qX 2 rfl ?_;refine qK 3 rfl ?_;rw[vI (by omega)];refine qU 1 rfl ?_;refine ab.nil ?_;by_cases hp:n=2^k
 · rw[h1 k (by omega) hp,beq_iff_eq.2 (show (n:Int)=((2^k:Nat):Int) by rw[hp])];refine AW.aF rfl ?_;refine qX 3 rfl ?_;exact qN rfl
 rw[beq_eq_false_iff_ne.2 (show (n:Int)≠((2^k:Nat):Int) by omega)];refine AW.au rfl ?_;refine AW.skip ?_;refine qT 1 rfl ?_;rw[aC (x:=(k:Int)+1) (by omega) (by omega)];refine qU 1 rfl ?_;refine ab.nil ?_
 exact⟨k+1,rfl,⟨hkk,fun j hj=>by
  by_cases e:j=k
  · rw[e];exact hp
  · exact hi j (by omega)⟩,by omega⟩
theorem eI{n i:Nat}(h:n=2^i)(hi:i≤5):Pure Tryz.prog 76 [dI n] (.tu [dI i,dB true]):=by
 have hp:2^i≤2^5:=Nat.pow_le_pow_right (by decide) hi;refine ni n _ (by omega) (fun j hj e=>?_) (fun hn=>absurd h (hn i hi));have h1:=gM (Nat.le_of_eq (h.symm.trans e));have h3:=gM (Nat.le_of_eq (e.symm.trans h));rw[show j=i by omega]
theorem mb{n:Nat}(h: ∀i:Nat,i≤5→n≠2^i)(hn:n≤4611686018427387904):Pure Tryz.prog 76 [dI n] (.tu [dI 0,dB false]) :=
 ni n _ hn (fun i hi e=>absurd e (h i hi)) (fun _=>rfl)
theorem fY(m:Nat)(a:List RD){k:Nat}(hm5:m≤5)(hw:yp m a→wN k a)(hk:k≤17300000000000)(hl:a.length≤4398046511104):Pure Tryz.prog 37 [dI m,cF a] (dI (a6 m a)):=by
 refine qJ 37 Tryz.func37 rfl rfl rfl rfl (by kernel_rfl) (fun B0 F0 w0=>?_);have hno:=fun i hi=>wh (l:=a) (i:=i) hi;have hyes:=tL (l:=a);unfold a6;generalize iV a=E at hno hyes ⊢
 obtain ⟨x,ok,cp,hok⟩: ∃(x:Nat) (ok:Bool),Pure Tryz.prog 76 [dI a.length] (.tu [dI x,dB ok])∧((ok=false∨m<x)↔xT m a.length=false):=by
  by_cases hp: ∃i,i≤5∧a.length=2^i
  · obtain ⟨i,hi,hp⟩:=hp;refine⟨i,true,eI hp hi,?_⟩;rw[hp,uU];constructor
    · rintro (h | h)
      · cases h
      · exact decide_eq_false (by omega)
    · intro h;right;have:=of_decide_eq_false h;omega
  · refine⟨0,false,mb (fun i hi e=>hp ⟨i,hi,e⟩) (by omega),?_⟩;constructor
    · intro _;cases hv:xT m a.length
      · rfl
      · obtain ⟨i,h1,h2⟩:=Bg hv;exact absurd ⟨i,by omega,h2⟩ hp
    · intro _;exact .inl rfl
 refine qX 1 rfl ?_;refine qK 2 rfl ?_;rw[List.length_map];refine ab.call tok rfl rfl rfl rfl cp ?_;refine qU 5 rfl ?_;refine ab.nil ?_;refine AW.cut [1] (fun _:Unit=>[(1,.d (cF a))]) (fun _=> ¬(a.length≠0∧xT m a.length=false)) ?_ (fun _ hs=>?_)
 · refine qX 2 rfl ?_;rw[List.length_map];refine qU 1 rfl ?_;by_cases h0:a.length=0
   · rw[bne_eq_false_iff_eq.2 (show (a.length:Int)=0 by omega)];refine qU 9 rfl ?_;refine ab.nil ?_;refine AW.au rfl ?_;refine AW.skip ?_;exact⟨(),rfl,fun h=>h.1 h0⟩
   rw[bne_iff_ne.2 (show (a.length:Int)≠0 by omega)];cases ok with
   | false =>
     have hb:=hok.1 (.inl rfl);rw[if_pos ⟨h0,hb⟩];refine qU 9 rfl ?_;refine ab.nil ?_;refine AW.aF rfl ?_;refine qX 1 rfl ?_;exact qN rfl
   | true =>
   refine qU 7 rfl ?_;by_cases hx:(m:Int)<(x:Int)
   · rw[decide_eq_true hx,if_pos ⟨h0,hok.1 (.inr (by omega))⟩];refine qU 2 rfl ?_;refine ab.nil ?_;refine AW.aF rfl ?_;refine qX 1 rfl ?_;exact qN rfl
   · rw[decide_eq_false hx];refine qU 2 rfl ?_;refine ab.nil ?_;refine AW.au rfl ?_;refine AW.skip ?_
     exact⟨(),rfl,fun h=>by
      rcases hok.2 h.2 with e | e
      · cases e
      · omega⟩
 rw[if_neg hs];have hw:=hw hs;show AW _ _ _ _ _ _ _ [(1,.d (cF a))];refine AW.seq ?_;refine qX 2 rfl ?_;rw[List.length_map];refine qU 1 rfl ?_;refine ab.nil ?_;refine AW.block ?_;refine AW.aE [27,28,29] (fun i:Nat=>[(27,.d (cF a)),(28,.d (dI a.length)),(29,.d (dI i))]) (fun i=>i≤a.length∧ ∀j,j<i→(a.getD j default).okB=true) (fun i=>a.length-i) 0 rfl ⟨Nat.zero_le _,fun j hj=>by omega⟩ (fun i ⟨hi,hall⟩=>?_);refine qX 1 rfl ?_;refine qI ?_;refine AW.cond rfl (fun h=>?_) (fun h=>?_);rotate_left
 · have hii:i=a.length:=by have:=of_decide_eq_false h;omega
   subst hii;rw[hyes hall,if_neg (by simp)];refine AW.exit ?_;refine qX 1 rfl ?_;exact qN rfl
 have hii:i<a.length:=by have:=of_decide_eq_true h;omega
 have hg:=getM RD.D (l:=a) (i:=i) hii;have hno:=hno i hii;have cv:=nq (a.getD i default) (hw i hii) (by omega);refine AW.skip (AW.seq (AW.block (AW.seq (AW.region ?_))));refine ab.idx tok (a.getD i default).D rfl rfl rfl rfl (Int.natCast_nonneg i) hg ?_;refine qU 3 rfl ?_;refine qK 1 rfl ?_;refine ab.call tok rfl rfl rfl rfl cv ?_;refine qU 1 rfl ?_;cases hv:(a.getD i default).okB with
 | false =>
   rw[hno hv,if_pos rfl];refine ab.nil ?_;refine AW.aF rfl ?_;refine qX 1 rfl ?_;exact qN rfl
 | true =>
 refine ab.nil ?_;refine AW.au rfl ?_;refine AW.skip ?_;refine qT 1 rfl ?_;rw[aC (x:=(i:Int)+1) (by omega) (by omega)];refine qU 1 rfl ?_;refine ab.nil ?_
 exact⟨i+1,rfl,⟨hii,fun j hj=>by
  by_cases e:j=i
  · subst e;exact hv
  · exact hall j (by omega)⟩,by omega⟩
theorem nj(a:NQ)(hl:a.length≤1000000):Pure Tryz.prog 151 [af a] (dB (a9 a)):=by
 refine qJ 26 Tryz.func151 rfl rfl rfl rfl (by kernel_rfl) (fun B F0 w0=>?_);have hno:=fun i hi=>qt (a:=a) (i:=i) hi;have hyes:=nZ (a:=a);generalize a9 a=E at hno hyes ⊢;refine qX 1 rfl ?_;refine qI ?_;refine qX 2 rfl ?_;rw[List.length_map];refine qU 1 rfl ?_;refine ab.nil ?_;refine AW.block ?_;refine AW.aE [5,6,7] (fun i:Nat=>[(5,.d (af a)),(6,.d (dI a.length)),(7,.d (dI i))]) (fun i=> ∀j,j<i→j<a.length→a.getD j 0=0) (fun i=>a.length-i) 0 rfl (fun j h=>by omega) (fun i hi=>?_)
 · show AW _ _ _ _ _ _ _ [(5,.d (af a)),(6,.d (dI a.length)),(7,.d (dI i))];refine qX 1 rfl ?_;refine qI ?_;refine AW.cond rfl (fun h=>?_) (fun h=>?_)
   · have hii:i<a.length:=by have:=of_decide_eq_true h;omega
     have g:=kq hii;have hn:=hno i hii;have s0:=Ca (a.getD i 0);generalize hq:a.getD i 0=q at g hn s0;generalize Qr q=y at g s0;obtain ⟨yg,yn,yd⟩:=y;simp only[] at s0;refine AW.skip (AW.seq (AW.block (AW.seq (AW.region ?_))));refine ab.idx tok (RD.mk yg yn yd).D rfl rfl rfl rfl (Int.natCast_nonneg i) g ?_;refine qU 3 rfl ?_;refine qK 3 rfl ?_;cases yg with
     | true =>
       refine qU 11 rfl ?_;refine ab.nil ?_;refine AW.aF rfl ?_;rw[hn (fun e=>by have:=s0.2 e;cases this.1)];refine qX 1 rfl ?_;exact qN rfl
     | false =>
     refine qU 3 rfl ?_;rw[aS];refine qU 1 rfl ?_;by_cases h1:yn.length=0;rotate_left
     · rw[bne_iff_ne.2 (show (yn.length:Int)≠0 by omega)];refine qU 7 rfl ?_;refine ab.nil ?_;refine AW.aF rfl ?_;rw[hn (fun e=>by have:=(s0.2 e).2.1;omega)];refine qX 1 rfl ?_;exact qN rfl
     rw[bne_eq_false_iff_eq.2 (show (yn.length:Int)=0 by omega)];refine qU 5 rfl ?_;rw[aS];refine qU 1 rfl ?_;by_cases h2:yd.length=0;rotate_left
     · rw[bne_iff_ne.2 (show (yd.length:Int)≠0 by omega)];refine qU 1 rfl ?_;refine ab.nil ?_;refine AW.aF rfl ?_;rw[hn (fun e=>by have:=(s0.2 e).2.2;omega)];refine qX 1 rfl ?_;exact qN rfl
     rw[bne_eq_false_iff_eq.2 (show (yd.length:Int)=0 by omega)];refine qU 1 rfl ?_;refine ab.nil ?_;refine AW.au rfl ?_;refine AW.skip ?_;refine qT 1 rfl ?_;rw[aC (x:=(i:Int)+1) (by omega) (by omega)];refine qU 1 rfl ?_;refine ab.nil ?_;refine⟨i+1,rfl,fun j h1 h2=>?_,by omega⟩;by_cases e:j=i
     · rw[e,hq];exact s0.1 ⟨rfl,by omega,by omega⟩
     · exact hi j (by omega) h2
   have hii: ¬i<a.length:=by have:=of_decide_eq_false h;omega
   rw[hyes (fun j h=>hi j (by omega) h)];refine AW.exit ?_;refine qX 1 rfl ?_;exact qN rfl
theorem pk(a:NQ){k:Nat}(hs:ar k a)(hk:k≤17300000000000)(hl:a.length≤1000000):Pure Tryz.prog 112 [af a] (af (aL a)):=by
 refine qJ 19 Tryz.func112 rfl rfl rfl rfl (by kernel_rfl) (fun B0 F0 w0=>?_);refine qX 1 rfl ?_;refine qK 1 rfl ?_;refine qI ?_;refine qX 2 rfl ?_;rw[List.length_map];refine qU 1 rfl ?_;refine ab.nil ?_;refine AW.block ?_;refine AW.aE [3,6,7,8] (fun i:Nat=>[(3,.ow 111 (dG (aL (a.take i)))),(6,.d (af a)),(7,.d (dI a.length)),(8,.d (dI i))]) (fun i=>i≤a.length) (fun i=>a.length-i) 0 rfl (Nat.zero_le _) (fun i hi=>?_);refine qX 1 rfl ?_;refine qI ?_;refine AW.cond rfl (fun h=>?_) (fun h=>?_);rotate_left
 · have hii:i=a.length:=by have:=of_decide_eq_false h;have:i≤a.length:=hi;omega
   subst hii;rw[List.take_length];refine AW.exit ?_;refine qX 2 rfl ?_;exact qN rfl
 have hii:i<a.length:=by have:=of_decide_eq_true h;omega
 have g:=kq hii;have cn:=xE (Qr (a.getD i 0)) (jH _ (hs i)) hk;rw[cX] at cn;have htk:=qD a 0 hii;have hol:(aL (a.take i)).length=i:=by rw[eP,List.length_take];omega
 have hms:aL (a.take (i+1))=aL (a.take i)++[-a.getD i 0]:=by
  rw[htk];unfold aL;rw[List.map_append];rfl
 generalize aL (a.take i)=M at hol hms ⊢;generalize a.getD i 0=q at g cn hms;refine AW.skip (AW.seq (AW.block (AW.seq (AW.region ?_))));refine ab.idx tok (Qr q).D rfl rfl rfl rfl (Int.natCast_nonneg i) g ?_;refine qU 3 rfl ?_;refine ab.nil ?_;refine qT 2 rfl ?_;refine ab.call tok rfl rfl rfl rfl cn ?_;refine ab.bs tok rfl rfl rfl rfl ?_;refine ab.gP tok rfl rfl rfl rfl rfl rfl (by rw[List.length_map,hol];show (_+1)*56≤_;omega) (by rw[List.length_map,hol];show _+1≤_;omega) ?_;refine qU 1 rfl ?_;refine ab.nil ?_;refine qT 1 rfl ?_;rw[aC (x:=(i:Int)+1) (by omega) (by omega)];refine qU 1 rfl ?_;refine ab.nil ?_;exact⟨i+1,by show _=([(3,.ow 111 (dG (aL (a.take (i+1))))),(6,.d (af a)),(7,.d (dI a.length)),(8,.d (dI (i+1:Nat)))]:St);rw[hms,dG,dG,List.map_append];rfl,hii,by omega⟩
end Lift
namespace Lift
open Go Go.Proofs
theorem jT(a:NQ){l:Nat}(ha:aq l a)(hl:l≤5):Pure Tryz.prog 121 [af a] (af (ay a)):=by
 refine qJ 43 Tryz.func121 rfl rfl rfl rfl (by kernel_rfl) (fun B0 F0 w0=>?_);have hl10:=ha.len (by omega);rcases ha with h0 | ⟨i,hi,hai⟩
 · obtain rfl:a=[]:=List.length_eq_zero_iff.1 h0;have cp:=mb (n:=0) (fun i _=>by have:=Nat.two_pow_pos i;omega) (by decide);refine qX 1 rfl ?_;refine qK 2 rfl ?_;refine ab.call tok rfl rfl rfl rfl cp ?_;refine qU 5 rfl ?_;refine qI ?_;refine qX 2 rfl ?_;refine ab.nil ?_;refine AW.aF rfl ?_;refine qX 2 rfl ?_;refine ab.lf tok rfl rfl rfl rfl (by decide) ?_;refine qU 1 rfl ?_;exact qN rfl
 have cp:=eI hai (by omega);have hp:=Nat.two_pow_pos i;have hE:ay a=fL i a:=by unfold ay;rw[if_neg (by omega),hai,Nat.log2_two_pow]
 rw[hE];refine qX 1 rfl ?_;refine qK 2 rfl ?_;rw[List.length_map];refine ab.call tok rfl rfl rfl rfl cp ?_;refine qU 5 rfl ?_;refine qI ?_;refine qX 2 rfl ?_;refine ab.nil ?_;refine AW.au rfl ?_;refine AW.skip ?_;refine qX 2 rfl ?_;rw[List.length_map,hai];refine qU 1 rfl ?_;refine qI (AW.block ?_);refine AW.aE [0,5] (fun j:Nat=>[(0,.d (af a)),(5,.d (dI (2^j:Nat)))]) (fun j=>j≤i∧fL j a=fL i a) (fun j=>j) i rfl ⟨Nat.le_refl _,rfl⟩ (fun j hj=>?_);obtain ⟨hj,hjE⟩:=hj;show AW _ _ _ _ _ _ _ [(0,.d (af a)),(5,.d (dI (2^j:Nat)))];have hpj:2^j≤2^i:=Nat.pow_le_pow_right (by decide) hj;have hpp:=Nat.two_pow_pos j;refine AW.seq ?_;refine qX 2 rfl ?_;rcases j with _ | j
 · refine qU 8 rfl ?_;refine ab.nil ?_;refine AW.au rfl ?_;refine AW.exit (AW.seq ?_);refine qX 4 rfl ?_;refine ab.fe tok (a:=a) (a.take 1) rfl rfl rfl rfl trivial (show (0:Int)≤1 by decide) (Nat.zero_le _) (show 1≤a.length by omega) rfl ?_;refine ab.call tok rfl rfl rfl rfl (nj (a.take 1) (by rw[List.length_take];omega)) ?_;refine qU 1 rfl ?_;refine ab.nil ?_;rw[← hjE];unfold fL;cases hz:a9 (a.take 1) with
   | true =>
     rw[if_pos rfl];refine AW.aF rfl ?_;refine qX 1 rfl ?_;exact qN rfl
   | false =>
     rw[if_neg (by simp)];refine AW.au rfl ?_;refine AW.skip ?_;refine qX 3 rfl ?_;refine ab.fe tok (a:=a) (a.take 1) rfl rfl rfl rfl trivial (show (0:Int)≤1 by decide) (Nat.zero_le _) (show 1≤a.length by omega) rfl ?_;have hq:(a.take 1).length≤1024:=by rw[List.length_take];omega
     refine ab.lf tok rfl rfl rfl rfl (by rw[List.length_map];show _*56≤_;omega) ?_;refine qU 1 rfl ?_;exact qN rfl
 have e2:2^(j+1)=2^j*2:=Nat.pow_succ ..;have eh:=jo j;rw[decide_eq_true (show (1:Int)<((2^(j+1):Nat):Int) by have:=Nat.two_pow_pos j;omega)];refine qU 3 rfl ?_;refine ab.div tok rfl rfl rfl rfl (by decide) ?_;rw[fI _ (by omega),eh];refine qU 1 rfl ?_;refine ab.fe tok (a:=a) ((a.take (2^(j+1))).drop (2^j)) rfl rfl rfl rfl (Int.natCast_nonneg _) (Int.natCast_nonneg _) (show 2^j≤2^(j+1) by omega) (show 2^(j+1)≤a.length by omega) rfl ?_;refine ab.call tok rfl rfl rfl rfl (nj _ (by rw[List.length_drop,List.length_take];omega)) ?_;refine qU 1 rfl ?_;refine ab.nil ?_;cases hz:a9 ((a.take (2^(j+1))).drop (2^j)) with
 | true =>
   refine AW.aF rfl ?_;refine AW.skip (AW.block ?_);refine qT 1 rfl ?_;refine ab.div tok rfl rfl rfl rfl (by decide) ?_;rw[fI _ (by omega),eh];refine qU 1 rfl ?_;refine ab.nil ?_;exact⟨j,rfl,⟨by omega,by rw[← hjE];show _=if a9 ((a.take (2^(j+1))).drop (2^j))=true then _ else _;rw[if_pos hz]⟩,by omega⟩
 | false =>
 refine AW.au rfl ?_;refine AW.exit (AW.seq ?_);refine qX 2 rfl ?_;rw[beq_eq_false_iff_ne.2 (show ((2^(j+1):Nat):Int)≠1 by have:=Nat.two_pow_pos j;omega)];refine qU 5 rfl ?_;refine ab.nil ?_;refine AW.au rfl ?_;refine AW.skip ?_;refine qX 3 rfl ?_;refine ab.fe tok (a:=a) (a.take (2^(j+1))) rfl rfl rfl rfl trivial (Int.natCast_nonneg _) (Nat.zero_le _) (show 2^(j+1)≤a.length by omega) rfl ?_;have hq:(a.take (2^(j+1))).length≤1024:=by rw[List.length_take];omega
 refine ab.lf tok rfl rfl rfl rfl (by rw[List.length_map];show _*56≤_;omega) ?_;refine qU 1 rfl ?_;refine ab.nil ?_;rw[← hjE];unfold fL;rw[if_neg (by rw[hz];simp)];exact AW.ret rfl
theorem mq(a:NQ):aW a a.length=a:=by
 unfold aW;rw[List.take_length,Nat.sub_self];exact List.append_nil a
theorem qw{a:NQ}{i:Nat}(h:a.length≤i):aW a (i+1)=aW a i++[0]:=by
 unfold aW;rw[List.take_of_length_le h,List.take_of_length_le (by omega),Nat.succ_sub h,List.replicate_succ',List.append_assoc]
theorem iR(a:NQ)(n:Nat)(ha:a.length≤n)(hn:n≤1000000):lp Tryz.prog 142 [af a,dI n] [] (A0 (aW a n)):=by
 refine lp.intro (n:=18) tok Tryz.func142 rfl rfl rfl (Nat.le_of_ble_eq_true rfl) (by kernel_rfl) (fun B F0 w0=>?_);refine AZ.seq ?_;refine AZ.gK (fun B1 F1 w1=>?_);refine qU 1 rfl ?_;refine ab.nil ⟨rfl,?_⟩;refine AZ.seq ?_;refine AZ.gK (fun B1 F1 w1=>?_);refine qU 2 rfl ?_;refine ab.wY tok rfl rfl rfl rfl (by rw[List.length_map];show _*56≤_;omega) ?_;refine qU 1 rfl ?_;refine ab.nil ⟨rfl,?_⟩;refine AZ.seq ?_;refine AZ.block ?_;refine AZ.aE [1,5] (fun i:Nat=>(([]:List LR),([(1,.d (dI n)),(5,.ow 111 (dG (aW a i)))]:St))) (fun i=>a.length≤i∧i≤n) (fun i=>n-i) a.length (by rw[mq];rfl) ⟨Nat.le_refl _,ha⟩ (fun i hi=>?_)
 · obtain ⟨hi,hin⟩:=hi;show AZ _ _ _ _ _ _ _ [] [(1,.d (dI n)),(5,.ow 111 (dG (aW a i)))];have wl:=bc a i;refine AZ.seq ?_;refine AZ.seq ?_;refine AZ.gK (fun B1 F1 w1=>?_);refine qU 2 rfl ?_;rw[List.length_map,wl];refine qU 2 rfl ?_;refine ab.nil ⟨rfl,?_⟩;refine AZ.cond rfl (fun h=>?_) (fun h=>?_)
   · have hii:i<n:=by have:=of_decide_eq_true h;omega
     have hs:=qw hi;refine AZ.skip ?_;refine AZ.block ?_;refine AZ.gK (fun B1 F1 w1=>?_);refine qU 2 rfl ?_;refine ab.bs tok rfl rfl rfl rfl ?_;refine ab.gP tok rfl rfl rfl rfl rfl rfl (by rw[List.length_map,wl];show (_+1)*56≤_;omega) (by rw[List.length_map,wl];show _+1≤_;omega) ?_;refine qU 1 rfl ?_;refine ab.nil ⟨rfl,?_⟩;refine⟨i+1,?_,⟨by omega,hii⟩,by omega⟩;rw[hs];show _=(([]:List LR),([(1,.d (dI n)),(5,.ow 111 ((aW a i++[0]).map (fun q=>(Qr q).D)))]:St));rw[List.map_append,List.map_cons,iY];rfl
   have hii:i=n:=by have:=of_decide_eq_false h;omega
   subst hii;refine AZ.exit ?_;refine AZ.seq ?_;refine AZ.gK (fun B1 F1 w1=>?_);refine qU 2 rfl ?_;refine ab.nil ⟨rfl,?_⟩;refine AZ.jc 4 rfl rfl rfl (fun V=>AZ.ret ⟨.v V,rfl,V,rfl,rfl⟩)
theorem jS(a:NQ)(n:Nat)(ha:a.length≤n)(hn:n≤1000000):Pure Tryz.prog 142 [af a,dI n] (af (aW a n)):=by
 refine qJ 18 Tryz.func142 rfl rfl rfl rfl (by kernel_rfl) (fun B F0 w0=>?_);refine qX 1 rfl ?_;refine qK 2 rfl ?_;refine ab.wY tok rfl rfl rfl rfl (by rw[List.length_map];show _*56≤_;omega) ?_;refine qU 1 rfl ?_;refine qI (AW.block ?_);refine AW.aE [1,5] (fun i:Nat=>[(1,.d (dI n)),(5,.ow 111 (dG (aW a i)))]) (fun i=>a.length≤i∧i≤n) (fun i=>n-i) a.length (by rw[mq];rfl) ⟨Nat.le_refl _,ha⟩ (fun i hi=>?_)
 · obtain ⟨hi,hin⟩:=hi;show AW _ _ _ _ _ _ _ [(1,.d (dI n)),(5,.ow 111 (dG (aW a i)))];have wl:=bc a i;refine AW.seq ?_;refine qX 2 rfl ?_;rw[List.length_map,wl];refine qU 2 rfl ?_;refine ab.nil ?_;refine AW.cond rfl (fun h=>?_) (fun h=>?_)
   · have hii:i<n:=by have:=of_decide_eq_true h;omega
     have hs:=qw hi;refine AW.skip (AW.block ?_);refine qT 2 rfl ?_;refine ab.bs tok rfl rfl rfl rfl ?_;refine ab.gP tok rfl rfl rfl rfl rfl rfl (by rw[List.length_map,wl];show (_+1)*56≤_;omega) (by rw[List.length_map,wl];show _+1≤_;omega) ?_;refine qU 1 rfl ?_;refine ab.nil ?_;refine⟨i+1,?_,⟨by omega,hii⟩,by omega⟩;rw[hs];show _=([(1,.d (dI n)),(5,.ow 111 ((aW a i++[0]).map (fun q=>(Qr q).D)))]:St);rw[List.map_append,List.map_cons,iY];rfl
   have hii:i=n:=by have:=of_decide_eq_false h;omega
   subst hii;refine AW.exit ?_;refine qX 2 rfl ?_;exact qN rfl
theorem iS(a b:NQ){k:Nat}(ha:ar k a)(hb:ar k b)(hk:k≤17300000000000)(hl:a.length≤1000000)(hl2:b.length≤1000000):Pure Tryz.prog 111 [af a,af b] (af (aJ a b)):=by
 refine qJ 37 Tryz.func111 rfl rfl rfl rfl (by kernel_rfl) (fun B F0 w0=>?_);obtain ⟨n,hn⟩: ∃n,n=max a.length b.length:=⟨_,rfl⟩;have cw1:=iR a n (by omega) (by omega);have cw2:=iR b n (by omega) (by omega);have l1:=bc a n;have l2:=bc b n;have g1: ∀i,i<n→(aW a n).getD i 0=a.getD i 0:=fun i hi=>by rw[eT,if_pos hi]
 have g2: ∀i,i<n→(aW b n).getD i 0=b.getD i 0:=fun i hi=>by rw[eT,if_pos hi]
 have hpl:(aJ a b).length=n:=by rw[gX,hn]
 generalize aW a n=wa at cw1 l1 g1;generalize aW b n=wb at cw2 l2 g2;refine qX 1 rfl ?_;refine qK 4 rfl ?_;rw[List.length_map,List.length_map];refine qU 2 rfl ?_;rw[Em,← hn];refine qI ?_;refine AZ.aw ?_;refine AZ.region ?_;refine aj.cut 2 rfl (fun B1 F1 w1=>?_);refine qU 2 rfl ?_;refine ab.nil ⟨rfl,?_⟩;refine aj.iD tok [] rfl rfl rfl rfl rfl List.nodup_nil rfl cw1 (fun _ _ _=>Nat.zero_le _) (fun res R1 hP=>?_);obtain ⟨V1,rfl,rfl⟩:=hP;refine aj.cut 2 rfl (fun B1 F1 w1=>?_);refine qU 2 rfl ?_;refine ab.nil ⟨rfl,?_⟩;refine aj.iD tok [] rfl rfl rfl rfl rfl List.nodup_nil rfl cw2 (fun _ _ _=>Nat.zero_le _) (fun res R1 hP=>?_);obtain ⟨V2,rfl,rfl⟩:=hP;refine aj.cut 2 rfl (fun B1 F1 w1=>?_);refine qU 2 rfl ?_;refine ab.nil ⟨rfl,?_⟩;refine aj.to [0,1] [(0,.d (.v V1)),(1,.d (.v V2))] rfl ?_;refine aj.fa 0 0 (V:=V1) (av:= .ow 111 (dG wa)) rfl rfl rfl ?_;refine aj.to [0,1] [(0,.ow 111 (dG wa)),(1,.d (.v V2))] rfl ?_;refine aj.fa 1 1 (V:=V2) (av:= .ow 111 (dG wb)) rfl rfl rfl ?_;refine aj.to [0,1] [(0,.ow 111 (dG wa)),(1,.ow 111 (dG wb))] rfl ?_;refine aj.nil ?_;refine AW.fh tok 1 rfl rfl ?_;refine AW.seq ?_;refine qX 2 rfl ?_;rw[List.length_map,l1];refine qU 1 rfl ?_;refine ab.nil ?_;refine AW.block ?_;refine AW.aE [0,1,19,20] (fun s:Nat×NQ=>[(0,.ow 111 (dG s.2)),(1,.d (af wb)),(19,.d (dI n)),(20,.d (dI s.1))]) (fun s=>s.2.length=n∧ ∀j,j<n→s.2.getD j 0=if j<s.1 then a.getD j 0+b.getD j 0 else a.getD j 0) (fun s=>n-s.1) (0,wa) rfl ⟨l1,fun j h=>by rw[if_neg (Nat.not_lt_zero _)];exact g1 j h⟩ (fun s hi=>?_)
 · obtain ⟨i,r⟩:=s;obtain ⟨hrl,hi⟩:=hi;simp only[] at hrl hi;show AW _ _ _ _ _ _ _ [(0,.ow 111 (dG r)),(1,.d (af wb)),(19,.d (dI n)),(20,.d (dI i))];refine qX 1 rfl ?_;refine qI ?_;refine AW.cond rfl (fun h=>?_) (fun h=>?_)
   · have hii:i<n:=by have:=of_decide_eq_true h;omega
     have e1:=kq (r:=r) (i:=i) (by omega);have e2:=kq (r:=wb) (i:=i) (by omega);rw[hi i hii,if_neg (Nat.lt_irrefl _)] at e1;rw[g2 i hii] at e2;have ca:=xG (Qr (a.getD i 0)) (Qr (b.getD i 0)) (jH _ (ha i)) (jH _ (hb i)) hk;rw[cX,cX] at ca;refine AW.skip (AW.seq (AW.block ?_));refine qX 2 rfl ?_;refine ab.nil ?_;refine AW.draw aM 12 (by kernel_rfl) ?_;refine qP 4 rfl ?_;refine ae.ff tok rfl rfl rfl rfl rfl rfl (Int.natCast_nonneg i) (by rw[List.length_map];show i<_;omega) ?_;refine ae.b7 tok (Qr (a.getD i 0)).D rfl rfl rfl rfl rfl e1 rfl ?_;refine qP 2 rfl ?_;refine ae.idx tok (Qr (b.getD i 0)).D rfl rfl rfl rfl rfl (Int.natCast_nonneg i) e2 ?_;refine qP 1 rfl ?_;refine ae.call tok rfl rfl rfl rfl rfl ca ?_;refine ae.ff tok rfl rfl rfl rfl rfl rfl (Int.natCast_nonneg i) (by rw[List.length_map];show i<_;omega) ?_;refine ae.nil ?_;refine ab.xp tok (a.getD i 0+b.getD i 0) rfl rfl rfl (by show i<_;omega) ?_;refine ab.nil ?_;refine qT 1 rfl ?_;rw[aC (x:=(i:Int)+1) (by omega) (by omega)];refine qU 1 rfl ?_;refine ab.nil ?_;refine⟨(i+1,r.set i (a.getD i 0+b.getD i 0)),rfl,⟨by rw[List.length_set];exact hrl,fun j h1=>?_⟩,by show n-(i+1)<n-i;omega⟩;show (r.set i (a.getD i 0+b.getD i 0)).getD j 0=if j<i+1 then _ else _
     rw[x7];by_cases e:j=i
     · rw[if_pos ⟨e,by omega⟩,e,if_pos (by omega)]
     · rw[if_neg (fun h=>e h.1),hi j h1];by_cases h2:j<i
       · rw[if_pos h2,if_pos (by omega)]
       · rw[if_neg h2,if_neg (by omega)]
   have hii: ¬i<n:=by have:=of_decide_eq_false h;omega
   obtain rfl:r=aJ a b:=xQ (by rw[hrl,hpl]) (fun j hj=>by rw[lG,hi j (by omega),if_pos (by omega)]);refine AW.exit ?_;refine qX 2 rfl ?_;exact qN rfl
end Lift
namespace Lift
open Go Go.Proofs
theorem tJ{R:NQ→NQ→NQ}{rt:List NQ}{a b:NQ}:(iO R rt a b).length≤max a.length b.length:=by
 unfold iO;split
 · exact Nat.zero_le _
 split
 · rename_i h;rw[h];exact Nat.le_refl _
 · rw[dF];omega
theorem vQ{l k:Nat}{R:NQ→NQ→NQ}{rt:List NQ}{a b:NQ}(ha:aq l a)(hb:aq l b)(hrt:cD rt)(hl:l≤rt.length)(sa:ar k a)(sb:ar k b)(sr:ed k rt)
  (hR: ∀l',l=l'+1→ ∀a' b' m,k≤m→aq l' a'→aq l' b'→ar m a'→ar m b'→aq l' (R a' b')∧ar (sT l' m) (R a' b')):aq l (iO R rt a b)∧ar (sT l k) (iO R rt a b):=by
 have hk:=sa.pos;have h2:=bA l k;unfold iO;by_cases h0:a.length=0∨b.length=0
 · rw[if_pos h0];exact⟨bd _,bb (by omega)⟩
 rw[if_neg h0];by_cases h1:max a.length b.length=1
 · rw[if_pos h1];refine⟨gT _ _,hZ ?_⟩;have:=yu (a.getD 0 0) (b.getD 0 0);have:=sa 0;have:=sb 0;omega
 rw[if_neg h1]
 obtain ⟨i,hi,hn⟩: ∃i,i≤l∧max a.length b.length=2^i:=by
  rcases ha with e | ⟨i,hi,e⟩
  · exact absurd (.inl e) h0
  rcases hb with e2 | ⟨k,hk,e2⟩
  · exact absurd (.inr e2) h0
  by_cases h:a.length≤b.length
  · exact⟨k,hk,by rw[Nat.max_eq_right h,e2]⟩
  · exact⟨i,hi,by rw[Nat.max_eq_left (by omega),e]⟩
 have wE:i≠0:=fun e=>h1 (by rw[hn,e]);obtain ⟨j,rfl⟩: ∃j,i=j+1:=⟨i-1,by omega⟩;obtain ⟨l',rfl⟩: ∃l',l=l'+1:=⟨l-1,by omega⟩;have hj:j≤l':=by omega
 have hR:=fun a' b' m h1 h2 h3 h4 h5=>hR l' rfl a' b' m h1 h2 h3 h4 h5;have wa:=bc a (max a.length b.length);have wb:=bc b (max a.length b.length);have sa:=sa.wide (max a.length b.length);have sb:=sb.wide (max a.length b.length);generalize aW a (max a.length b.length)=A at *;generalize aW b (max a.length b.length)=B at *;generalize max a.length b.length=n at *;subst hn;have e0:=jo j;have hlog:(2^(j+1)).log2-1=j:=by rw[Nat.log2_two_pow];omega
 rw[e0,hlog];obtain ⟨e1,e2,e3⟩:=bh wa;obtain ⟨f1,f2,f3⟩:=bh wb;rw[e3] at e1 e2;rw[f3] at f1 f2;have hx:aq l' (A.take (2^j)):= .inr ⟨j,hj,e1⟩;have hy:aq l' (A.drop (2^j)):= .inr ⟨j,hj,e2⟩;have hu:aq l' (B.take (2^j)):= .inr ⟨j,hj,f1⟩;have hv:aq l' (B.drop (2^j)):= .inr ⟨j,hj,f2⟩;have hd:aq l' (rt.getD j []):= .inr ⟨j,hj,hrt j (by omega)⟩;have hs0:=bA l' k;have hs1:=bA l' (sT l' k);have r1:=hR _ _ k (Nat.le_refl _) hx hu (sa.take _) (sb.take _);have r2:=hR _ _ k (Nat.le_refl _) hy hv (sa.drop _) (sb.drop _);have r3:=hR _ _ k (Nat.le_refl _) hx hv (sa.take _) (sb.drop _);have r4:=hR _ _ k (Nat.le_refl _) hy hu (sa.drop _) (sb.take _);have r5:=hR _ _ (sT l' k) (by omega) r2.1 hd r2.2 ((sr _).mono (by omega));refine⟨.inr ⟨j+1,by omega,by rw[dF,Nat.pow_succ];omega⟩,(((r1.2.plus r5.2).mono ?_).join ((r3.2.plus r4.2).mono ?_) _)⟩
 · show _≤sT l' (sT l' k)+sT l' k+1;omega
 · show _≤sT l' (sT l' k)+sT l' k+1;omega
theorem jP(a:NQ){l:Nat}(ha:aq l a):(ay a).length≤a.length:=by
 unfold ay;split
 · exact Nat.zero_le _
 have: ∀i,(fL i a).length≤a.length:=fun i=>by
  induction i with
  | zero =>
    unfold fL;split
    · exact Nat.zero_le _
    · rw[List.length_take];omega
  | succ i ih =>
    unfold fL;split
    · exact ih
    · rw[List.length_take];omega
 exact this _
theorem eW: ∀(l:Nat) {k:Nat} {rt:List NQ} {a b:NQ},aq l a→aq l b→cD rt→l≤rt.length→ar k a→ar k b→ed k rt→aq l (eK l rt a b)∧ar (sT l k) (eK l rt a b)
 | 0,k,rt,a,b,ha,hb,hrt,hl,sa,sb,sr=>vQ (aU ha sa).1 (aU hb sb).1 hrt hl (aU ha sa).2 (aU hb sb).2 sr (fun l' h=>by omega)
 | l+1,k,rt,a,b,ha,hb,hrt,hl,sa,sb,sr=>vQ (aU ha sa).1 (aU hb sb).1 hrt hl (aU ha sa).2 (aU hb sb).2 sr (fun l' e a' b' m hm h1 h2 h3 h4=>by
    obtain rfl:l=l':=by omega
    exact eW l h1 h2 hrt (by omega) h3 h4 (sr.mono hm))
theorem xA: ∀(l:Nat) {rt:List NQ} {a b:NQ},aq l a→aq l b→(eK l rt a b).length≤max a.length b.length
 | 0,rt,a,b,ha,hb=>by
   have h1:=jP a ha;have h2:=jP b hb;have h3:=tJ (R:=fun _ _=>[]) (rt:=rt) (a:=ay a) (b:=ay b);show (iO _ rt _ _).length≤_;omega
 | l+1,rt,a,b,ha,hb=>by
   have h1:=jP a ha;have h2:=jP b hb;have h3:=tJ (R:=eK l rt) (rt:=rt) (a:=ay a) (b:=ay b);show (iO _ rt _ _).length≤_;omega
set_option maxHeartbeats 1600000 in
theorem pg{l k:Nat}{R:NQ→NQ→NQ}{rt:List NQ}{xs:List D}{a b:NQ}(ha:aq l a)(hb:aq l b)(hrt:cD rt)(hl:l≤rt.length)(hl5:l≤5)(hxs: ∀j,j<rt.length→xs[j]?=some (af (rt.getD j [])))(sa:ar k a)(sb:ar k b)(sr:ed k rt)(hk:sT l k≤17300000000000)
  (hR: ∀l',l=l'+1→ ∀a' b' m,k≤m→aq l' a'→aq l' b'→ar m a'→ar m b'→sT l' m≤17300000000000→Pure Tryz.prog 122 [.ag [.sl 1 xs],af a',af b'] (af (R a' b'))∧(R a' b').length≤max a'.length b'.length∧aq l' (R a' b')∧ar (sT l' m) (R a' b')):
  Pure Tryz.prog 122 [.ag [.sl 1 xs],af a,af b] (af (iO R rt (ay a) (ay b))):=by
 refine qJ 105 Tryz.func122 rfl rfl rfl rfl (by kernel_rfl) (fun B F0 w0=>?_);have hk1:=sa.pos;have h2:=bA l k;have cs1:=jT a ha hl5;have cs2:=jT b hb hl5;obtain ⟨ha,sa⟩:=aU ha sa;obtain ⟨hb,sb⟩:=aU hb sb;generalize ay a=s at *;generalize ay b=t at *;have hla:=ha.len (by omega);have hlb:=hb.len (by omega);refine qX 2 rfl ?_;refine qK 1 rfl ?_;refine ab.call tok rfl rfl rfl rfl cs1 ?_;refine qU 1 rfl ?_;refine ab.call tok rfl rfl rfl rfl cs2 ?_;refine qU 2 rfl ?_;refine qK 4 rfl ?_;rw[List.length_map,List.length_map];refine qU 2 rfl ?_;rw[Em];refine qI ?_;refine qX 2 rfl ?_;rw[List.length_map];refine qU 1 rfl ?_;unfold iO;by_cases h0:s.length=0
 · have h00:s.length=0∨t.length=0:= .inl h0;rw[beq_iff_eq.2 (show (s.length:Int)=0 by omega),if_pos h00];refine qU 5 rfl ?_;refine ab.nil ?_;refine AW.aF rfl ?_;refine qX 1 rfl ?_;exact qN rfl
 rw[beq_eq_false_iff_ne.2 (show (s.length:Int)≠0 by omega)];refine qU 3 rfl ?_;rw[List.length_map];refine qU 1 rfl ?_;by_cases h01:t.length=0
 · have h00:s.length=0∨t.length=0:= .inr h01;rw[beq_iff_eq.2 (show (t.length:Int)=0 by omega),if_pos h00];refine qU 1 rfl ?_;refine ab.nil ?_;refine AW.aF rfl ?_;refine qX 1 rfl ?_;exact qN rfl
 have h00: ¬(s.length=0∨t.length=0):=fun h=>h.elim h0 h01;rw[beq_eq_false_iff_ne.2 (show (t.length:Int)≠0 by omega),if_neg h00];refine qU 1 rfl ?_;refine ab.nil ?_;refine AW.au rfl ?_;refine AW.skip (AW.seq (AW.seq (AW.region ?_)));obtain ⟨n,hn⟩: ∃n,n=max s.length t.length:=⟨_,rfl⟩;rw[← hn];refine qU 2 rfl ?_;by_cases h1:n=1
 · rw[if_pos h1,beq_iff_eq.2 (show (n:Int)=1 by omega)];have g1:=kq (r:=s) (i:=0) (by omega);have g2:=kq (r:=t) (i:=0) (by omega);have cm:=xF (Qr (s.getD 0 0)) (Qr (t.getD 0 0)) (k:=k) (jH _ (sa 0)) (jH _ (sb 0)) (by omega);rw[cX,cX] at cm;refine ab.nil ?_;refine AW.aF rfl ?_;refine AW.seq ?_;refine AW.draw aM 8 (by kernel_rfl) ?_;refine qP 1 rfl ?_;refine ae.idx tok (Qr (s.getD 0 0)).D rfl rfl rfl rfl rfl (Int.le_refl _) g1 ?_;refine qP 2 rfl ?_;refine ae.idx tok (Qr (t.getD 0 0)).D rfl rfl rfl rfl rfl (Int.le_refl _) g2 ?_;refine qP 1 rfl ?_;refine ae.call tok rfl rfl rfl rfl rfl cm ?_;refine ae.e7 tok rfl rfl rfl rfl rfl rfl ?_;refine ae.nil ?_;refine qU 1 rfl ?_;exact qN rfl
 rw[if_neg h1,beq_eq_false_iff_ne.2 (show (n:Int)≠1 by omega)];refine ab.nil ?_;refine AW.au rfl ?_;refine AW.skip ?_
 obtain ⟨i,hi,hni⟩: ∃i,i≤l∧n=2^i:=by
  rcases ha with e | ⟨i,hi,e⟩
  · exact absurd e h0
  rcases hb with e2 | ⟨k,hk,e2⟩
  · exact absurd e2 h01
  by_cases h:s.length≤t.length
  · exact⟨k,hk,by rw[hn,Nat.max_eq_right h,e2]⟩
  · exact⟨i,hi,by rw[hn,Nat.max_eq_left (by omega),e]⟩
 have hsn:s.length≤n:=by omega
 have htn:t.length≤n:=by omega
 have hn9:n≤1024:=by omega
 clear hn;have wE:i≠0:=fun e=>h1 (by rw[hni,e]);obtain ⟨j,rfl⟩: ∃j,i=j+1:=⟨i-1,by omega⟩;obtain ⟨l',rfl⟩: ∃l',l=l'+1:=⟨l-1,by omega⟩;have hj:j≤l':=by omega
 have hR:=fun a' b' m h1 h2 h3 h4 h5=>hR l' rfl a' b' m h1 h2 h3 h4 h5;have hs0:=bA l' k;have hs1:=bA l' (sT l' k);have hk:sT l' (sT l' k)+sT l' k+1≤17300000000000:=hk;have cw1:=jS s n hsn (by omega);have cw2:=jS t n htn (by omega);have cp:=eI hni (by omega);have wa:=bc s n;have wb:=bc t n;have sa:=sa.wide n;have sb:=sb.wide n;generalize aW s n=A at *;generalize aW t n=B at *;have e0:=jo j;have hlog:n.log2-1=j:=by rw[hni,Nat.log2_two_pow];omega
 obtain ⟨e1,e2,e3⟩:=bh (wa.trans hni);obtain ⟨f1,f2,f3⟩:=bh (wb.trans hni);rw[hlog];obtain ⟨h,hh⟩: ∃h,h=n / 2:=⟨_,rfl⟩
 have hnh:n=h+h:=by
  have:2^(j+1)=2^j*2:=Nat.pow_succ ..;omega
 have hh2:h=2^j:=by rw[hh,hni,e0]
 rw[wa,← hh] at e1 e2;rw[wb,← hh] at f1 f2;rw[← hh];have hx:aq l' (A.take h):= .inr ⟨j,hj,e1⟩;have hy:aq l' (A.drop h):= .inr ⟨j,hj,e2⟩;have hu:aq l' (B.take h):= .inr ⟨j,hj,f1⟩;have hv:aq l' (B.drop h):= .inr ⟨j,hj,f2⟩;have hdl:=hrt j (by omega);have hd:aq l' (rt.getD j []):= .inr ⟨j,hj,hdl⟩;have r1:=hR _ _ k (Nat.le_refl _) hx hu (sa.take _) (sb.take _) (by omega);have r2:=hR _ _ k (Nat.le_refl _) hy hv (sa.drop _) (sb.drop _) (by omega);have r3:=hR _ _ k (Nat.le_refl _) hx hv (sa.take _) (sb.drop _) (by omega);have r4:=hR _ _ k (Nat.le_refl _) hy hu (sa.drop _) (sb.take _) (by omega);have r5:=hR _ _ (sT l' k) (by omega) r2.2.2.1 hd r2.2.2.2 ((sr _).mono (by omega)) (by omega);have n1:(R (A.take h) (B.take h)).length≤h:=Nat.le_trans r1.2.1 (Nat.max_le.2 ⟨by omega,by omega⟩);have n2:(R (A.drop h) (B.drop h)).length≤h:=Nat.le_trans r2.2.1 (Nat.max_le.2 ⟨by omega,by omega⟩);have n3:(R (A.take h) (B.drop h)).length≤h:=Nat.le_trans r3.2.1 (Nat.max_le.2 ⟨by omega,by omega⟩);have n4:(R (A.drop h) (B.take h)).length≤h:=Nat.le_trans r4.2.1 (Nat.max_le.2 ⟨by omega,by omega⟩);have n5:(R (R (A.drop h) (B.drop h)) (rt.getD j [])).length≤h:=Nat.le_trans r5.2.1 (Nat.max_le.2 ⟨n2,by omega⟩);have r1:=And.intro r1.1 r1.2.2;have r2:=And.intro r2.1 r2.2.2;have r3:=And.intro r3.1 r3.2.2;have r4:=And.intro r4.1 r4.2.2;have r5:=And.intro r5.1 r5.2.2;have p1:=iS (R (A.take h) (B.take h)) (R (R (A.drop h) (B.drop h)) (rt.getD j [])) (k:=sT l' (sT l' k)) (r1.2.2.mono (by omega)) r5.2.2 (by omega) (by omega) (by omega);have p2:=iS (R (A.take h) (B.drop h)) (R (A.drop h) (B.take h)) (k:=sT l' k) r3.2.2 r4.2.2 (by omega) (by omega) (by omega);have q1:(aJ (R (A.take h) (B.take h)) (R (R (A.drop h) (B.drop h)) (rt.getD j []))).length≤h:=by rw[gX];exact Nat.max_le.2 ⟨n1,n5⟩
 have q2:(aJ (R (A.take h) (B.drop h)) (R (A.drop h) (B.take h))).length≤h:=by rw[gX];exact Nat.max_le.2 ⟨n3,n4⟩
 have cw3:=iR (aJ (R (A.take h) (B.take h)) (R (R (A.drop h) (B.drop h)) (rt.getD j []))) h q1 (by omega);have cw4:=iR (aJ (R (A.take h) (B.drop h)) (R (A.drop h) (B.take h))) h q2 (by omega);unfold de;refine qX 2 rfl ?_;refine ab.call tok rfl rfl rfl rfl cw1 ?_;refine qU 2 rfl ?_;refine ab.call tok rfl rfl rfl rfl cw2 ?_;refine qU 2 rfl ?_;refine qK 1 rfl ?_;refine ab.call tok rfl rfl rfl rfl cp ?_;refine qU 5 rfl ?_;refine qI ?_;refine AW.draw aM 19 (by kernel_rfl) ?_;refine qP 2 rfl ?_;refine ae.div tok rfl rfl rfl rfl rfl (by decide) ?_;rw[fI _ (by omega),← hh];refine ae.fe tok (a:=A) (A.take h) rfl rfl rfl rfl rfl trivial (Int.natCast_nonneg h) (Nat.zero_le _) (show h≤A.length by omega) rfl ?_;refine qP 2 rfl ?_;refine ae.div tok rfl rfl rfl rfl rfl (by decide) ?_;rw[fI _ (by omega),← hh];refine ae.fe tok (a:=A) (A.drop h) rfl rfl rfl rfl rfl (Int.natCast_nonneg h) trivial (show h≤A.length by omega) (Nat.le_refl _) (by show (A.take A.length).drop h=_;rw[List.take_length]) ?_;refine qP 2 rfl ?_;refine ae.div tok rfl rfl rfl rfl rfl (by decide) ?_;rw[fI _ (by omega),← hh];refine ae.fe tok (a:=B) (B.take h) rfl rfl rfl rfl rfl trivial (Int.natCast_nonneg h) (Nat.zero_le _) (show h≤B.length by omega) rfl ?_;refine qP 2 rfl ?_;refine ae.div tok rfl rfl rfl rfl rfl (by decide) ?_;rw[fI _ (by omega),← hh];refine ae.fe tok (a:=B) (B.drop h) rfl rfl rfl rfl rfl (Int.natCast_nonneg h) trivial (show h≤B.length by omega) (Nat.le_refl _) (by show (B.take B.length).drop h=_;rw[List.take_length]) ?_;refine qP 3 rfl ?_;refine ae.nil ?_;refine qU 1 rfl ?_;refine ab.nil ?_;refine AW.cW [3,7,8,10,11,12,13] ?_;show AW _ _ _ _ _ _ _ [(3,.bx [.sl 1 xs]),(7,.d (dI n)),(8,.d (dI (j+1:Nat))),(10,.d (af (A.take h))),(11,.d (af (A.drop h))),(12,.d (af (B.take h))),(13,.d (af (B.drop h)))];refine AW.seq ?_;refine AW.draw aM 17 (by kernel_rfl) ?_;refine qP 3 rfl ?_;refine ae.call tok rfl rfl rfl rfl rfl r1.1 ?_;refine qP 4 rfl ?_;refine ae.call tok rfl rfl rfl rfl rfl r2.1 ?_;refine qP 4 rfl ?_;rw[aC (x:=((j+1:Nat):Int) -1) (by omega) (by omega),show ((j+1:Nat):Int) -1=(j:Int) by omega];refine ae.idx tok (af (rt.getD j [])) rfl rfl rfl rfl rfl (Int.natCast_nonneg j) (hxs j (by omega)) ?_;refine qP 1 rfl ?_;refine ae.call tok rfl rfl rfl rfl rfl r5.1 ?_;refine ae.call tok rfl rfl rfl rfl rfl p1 ?_;refine ae.nil ?_;refine qU 1 rfl ?_;refine qI ?_;refine AW.draw aM 9 (by kernel_rfl) ?_;refine qP 3 rfl ?_;refine ae.call tok rfl rfl rfl rfl rfl r3.1 ?_;refine qP 3 rfl ?_;refine ae.call tok rfl rfl rfl rfl rfl r4.1 ?_;refine ae.call tok rfl rfl rfl rfl rfl p2 ?_;refine ae.nil ?_;refine qU 1 rfl ?_;refine ab.nil ?_;have l1:=bc (aJ (R (A.take h) (B.take h)) (R (R (A.drop h) (B.drop h)) (rt.getD j []))) h;have l2:=bc (aJ (R (A.take h) (B.drop h)) (R (A.drop h) (B.take h))) h;generalize aJ (R (A.take h) (B.take h)) (R (R (A.drop h) (B.drop h)) (rt.getD j []))=P1 at *;generalize aJ (R (A.take h) (B.drop h)) (R (A.drop h) (B.take h))=P2 at *;refine AW.cW [7,14,15] ?_;show AW _ _ _ _ _ _ _ [(7,.d (dI n)),(14,.d (af P1)),(15,.d (af P2))];generalize aW P1 h=wa at *;generalize aW P2 h=wb at *;refine AW.seq ?_;refine AZ.aw ?_;refine AZ.region ?_;refine aj.cut 3 rfl (fun B1 F1 w1=>?_);refine qU 2 rfl ?_;refine ab.div tok rfl rfl rfl rfl (by decide) ?_;rw[fI _ (by omega),← hh];refine ab.nil ⟨rfl,?_⟩;refine aj.iD tok [] rfl rfl rfl rfl rfl List.nodup_nil rfl cw3 (fun _ _ _=>Nat.zero_le _) (fun res R1 hP=>?_);obtain ⟨V1,rfl,rfl⟩:=hP;refine aj.cut 3 rfl (fun B1 F1 w1=>?_);refine qU 2 rfl ?_;refine ab.div tok rfl rfl rfl rfl (by decide) ?_;rw[fI _ (by omega),← hh];refine ab.nil ⟨rfl,?_⟩;refine aj.iD tok [] rfl rfl rfl rfl rfl List.nodup_nil rfl cw4 (fun _ _ _=>Nat.zero_le _) (fun res R1 hP=>?_);obtain ⟨V2,rfl,rfl⟩:=hP;refine aj.to [99,103] [(99,.d (.v V1)),(103,.d (.v V2))] rfl ?_;refine aj.fa 99 0 (V:=V1) (av:= .ow 111 (dG wa)) rfl rfl rfl ?_;refine aj.to [99,103] [(99,.ow 111 (dG wa)),(103,.d (.v V2))] rfl ?_;refine aj.fa 103 1 (V:=V2) (av:= .ow 111 (dG wb)) rfl rfl rfl ?_;refine aj.to [99,103] [(99,.ow 111 (dG wa)),(103,.ow 111 (dG wb))] rfl ?_;refine aj.cut 2 rfl (fun B1 F1 w1=>?_);refine ab.fh tok 103 rfl rfl ?_;refine ab.gP tok rfl rfl rfl rfl rfl rfl (by rw[List.length_map,List.length_map,l1,l2];show (_+_)*56≤_;omega) (by rw[List.length_map,List.length_map,l1,l2];omega) ?_;refine qU 1 rfl ?_;refine ab.nil ⟨rfl,?_⟩;refine aj.nil ?_;rw[show dG wa++dG wb=dG (wa++wb) from List.map_append.symm];exact AW.ret rfl
theorem gL: ∀(l:Nat) {k:Nat} {rt:List NQ} {xs:List D} {a b:NQ},aq l a→aq l b→cD rt→l≤rt.length→l≤5→(∀j,j<rt.length→xs[j]?=some (af (rt.getD j [])))→ar k a→ar k b→ed k rt→sT l k≤17300000000000→Pure Tryz.prog 122 [.ag [.sl 1 xs],af a,af b] (af (eK l rt a b))
 | 0,k,rt,xs,a,b,ha,hb,hrt,hl,hl5,hxs,sa,sb,sr,hk=>pg ha hb hrt hl hl5 hxs sa sb sr hk (fun l' h=>by omega)
 | l+1,k,rt,xs,a,b,ha,hb,hrt,hl,hl5,hxs,sa,sb,sr,hk=>pg ha hb hrt hl hl5 hxs sa sb sr hk (fun l' e a' b' m hm h1 h2 h3 h4 h5=>by
    obtain rfl:l=l':=by omega
    exact⟨gL l h1 h2 hrt (by omega) (by omega) hxs h3 h4 (sr.mono hm) h5,xA l h1 h2,eW l h1 h2 hrt (by omega) h3 h4 (sr.mono hm)⟩)
end Lift
namespace Lift
open Go Go.Proofs
theorem AK{l k j:Nat}{rt:List NQ}{a:NQ}(hj:j≤l)(ha:a.length=2^(j+1))(hrt:cD rt)(hl:l<rt.length)(sa:ar k a)(sr:ed k rt):aq l (jb l rt a)∧ar (sT (l+1) k) (jb l rt a):=by
 obtain ⟨e1,e2,e3⟩:=bh ha;have hx:aq l (a.take (a.length / 2)):= .inr ⟨j,hj,e1⟩;have hy:aq l (a.drop (a.length / 2)):= .inr ⟨j,hj,e2⟩;have hlog:a.length.log2-1=j:=by rw[ha,Nat.log2_two_pow];omega
 have hd:aq l (rt.getD j []):= .inr ⟨j,hj,hrt j (by omega)⟩;have h0:=bA l k;have h1:=bA l (sT l k);have r1:=eW l hx hx hrt (by omega) (sa.take _) (sa.take _) sr;have r2:=eW l hy hy hrt (by omega) (sa.drop _) (sa.drop _) sr;have r3:=eW l r2.1 hd hrt (by omega) r2.2 ((sr _).mono (by omega)) (sr.mono (by omega));unfold jb;rw[hlog];refine⟨r1.1.plus r3.1.minus,(r1.2.plus r3.2.minus).mono ?_⟩;show _≤sT l (sT l k)+sT l k+1;omega
theorem vU{l k j:Nat}{rt:List NQ}{xs:List D}{a:NQ}(hj:j≤l)(ha:a.length=2^(j+1))(hrt:cD rt)(hl:l<rt.length)(hl5:l+1≤5)(hxs: ∀j,j<rt.length→xs[j]?=some (af (rt.getD j [])))(sa:ar k a)(sr:ed k rt)(hk:sT (l+1) k≤17300000000000):
  Pure Tryz.prog 138 [.ag [.sl 1 xs],af a,dI a.length] (af (jb l rt a)):=by
 refine qJ 45 Tryz.func138 rfl rfl rfl rfl (by kernel_rfl) (fun B F0 w0=>?_);obtain ⟨e1,e2,e3⟩:=bh ha;have hx:aq l (a.take (a.length / 2)):= .inr ⟨j,hj,e1⟩;have hy:aq l (a.drop (a.length / 2)):= .inr ⟨j,hj,e2⟩;have hlog:a.length.log2-1=j:=by rw[ha,Nat.log2_two_pow];omega
 have hd:aq l (rt.getD j []):= .inr ⟨j,hj,hrt j (by omega)⟩;have h0:=bA l k;have h1:=bA l (sT l k);have hk:sT l (sT l k)+sT l k+1≤17300000000000:=hk;have hp:2^(j+1)≤2^10:=Nat.pow_le_pow_right (by decide) (by omega);have r1:=eW l hx hx hrt (by omega) (sa.take _) (sa.take _) sr;have r2:=eW l hy hy hrt (by omega) (sa.drop _) (sa.drop _) sr;have r3:=eW l r2.1 hd hrt (by omega) r2.2 ((sr _).mono (by omega)) (sr.mono (by omega));have c1:=gL l hx hx hrt (by omega) (by omega) hxs (sa.take _) (sa.take _) sr (by omega);have c2:=gL l hy hy hrt (by omega) (by omega) hxs (sa.drop _) (sa.drop _) sr (by omega);have c3:=gL l r2.1 hd hrt (by omega) (by omega) hxs r2.2 ((sr j).mono (by omega)) (sr.mono (by omega)) (by omega);have n1:=r1.1.len (by omega);have n3:=r3.1.len (by omega);have c4:=pk _ r3.2 (by omega) (by omega);have c5:=iS _ _ (k:=sT l (sT l k)) (r1.2.mono (by omega)) r3.2.minus (by omega) (by omega) (by rw[eP];omega);have cw:=jS a a.length (Nat.le_refl _) (by omega);rw[mq] at cw;have cp:=eI ha (by omega);unfold jb;rw[hlog];obtain ⟨n,hn⟩: ∃n,n=a.length / 2:=⟨_,rfl⟩;rw[← hn] at e1 e2 e3 hx hy c1 c2 c3 c4 c5 ⊢;refine qX 2 rfl ?_;refine qK 2 rfl ?_;refine ab.call tok rfl rfl rfl rfl cw ?_;refine qU 1 rfl ?_;refine qK 1 rfl ?_;refine ab.call tok rfl rfl rfl rfl cp ?_;refine qU 5 rfl ?_;refine qI ?_;refine AW.draw aM 9 (by kernel_rfl) ?_;refine qP 2 rfl ?_;refine ae.div tok rfl rfl rfl rfl rfl (by decide) ?_;rw[fI _ (by omega),← hn];refine ae.fe tok (a:=a) (a.take n) rfl rfl rfl rfl rfl trivial (Int.natCast_nonneg n) (Nat.zero_le _) (show n≤a.length by omega) rfl ?_;refine qP 2 rfl ?_;refine ae.div tok rfl rfl rfl rfl rfl (by decide) ?_;rw[fI _ (by omega),← hn];refine ae.fe tok (a:=a) (a.drop n) rfl rfl rfl rfl rfl (Int.natCast_nonneg n) trivial (show n≤a.length by omega) (Nat.le_refl _) (by show (a.take a.length).drop n=_;rw[List.take_length]) ?_;refine qP 1 rfl ?_;refine ae.nil ?_;refine qU 1 rfl ?_;refine qI ?_;refine AW.draw aM 18 (by kernel_rfl) ?_;refine qP 3 rfl ?_;refine ae.call tok rfl rfl rfl rfl rfl c1 ?_;refine qP 4 rfl ?_;refine ae.call tok rfl rfl rfl rfl rfl c2 ?_;refine qP 4 rfl ?_;rw[aC (x:=((j+1:Nat):Int) -1) (by omega) (by omega),show ((j+1:Nat):Int) -1=(j:Int) by omega];refine ae.idx tok (af (rt.getD j [])) rfl rfl rfl rfl rfl (Int.natCast_nonneg j) (hxs j (by omega)) ?_;refine qP 1 rfl ?_;refine ae.call tok rfl rfl rfl rfl rfl c3 ?_;refine ae.call tok rfl rfl rfl rfl rfl c4 ?_;refine ae.call tok rfl rfl rfl rfl rfl c5 ?_;refine ae.nil ?_;refine qU 1 rfl ?_;exact qN rfl
theorem tI{R:NQ→Int}{N:NQ→NQ}{rt:List NQ}{a:NQ}(hR: ∀b,tq (R b)):tq (l9 R N rt a):=by
 unfold l9;split
 · exact .inl rfl
 split
 · exact eV _
 split
 · exact hR _
 split
 · exact jO (hR _) (hR _)
 · exact jO (hR _) (hR _)
theorem qS: ∀(l:Nat) (rt:List NQ) (a:NQ),tq (oo l rt a)
 | 0,rt,a=>tI (fun _=> .inl rfl)
 | l+1,rt,a=>tI (fun b=>qS l rt b)
set_option maxHeartbeats 1600000 in
theorem qR{l k:Nat}{R:NQ→Int}{N:NQ→NQ}{rt:List NQ}{xs:List D}{a:NQ}(ha:aq l a)(hl5:l≤5)(hrt:cD rt)(hl:l≤rt.length)(hxs: ∀j,j<rt.length→xs[j]?=some (af (rt.getD j [])))(sa:ar k a)(sr:ed k rt)(hok:ny l k)
  (hR: ∀l',l=l'+1→ ∀b m,aq l' b→ar m b→k≤m→ny l' m→Pure Tryz.prog 100 [.ag [.sl 1 xs],af b] (dI (R b))) (hT: ∀b,tq (R b))
  (hN: ∀l',l=l'+1→ ∀b j,j≤l'→b.length=2^(j+1)→ar k b→Pure Tryz.prog 138 [.ag [.sl 1 xs],af b,dI b.length] (af (N b))∧aq l' (N b)∧ar (sT l k) (N b)):
  Pure Tryz.prog 100 [.ag [.sl 1 xs],af a] (dI (l9 R N rt (ay a))):=by
 refine qJ 70 Tryz.func100 rfl rfl rfl rfl (by kernel_rfl) (fun B F0 w0=>?_);have hk:=rl hok;have cs:=jT a ha hl5;obtain ⟨ha,sa⟩:=aU ha sa;generalize ay a=b at cs ha sa ⊢;have hlb:=ha.len (by omega);unfold l9;refine qX 2 rfl ?_;refine qK 1 rfl ?_;refine ab.call tok rfl rfl rfl rfl cs ?_;refine qU 1 rfl ?_;refine qI ?_;refine qX 2 rfl ?_;rw[List.length_map];refine qU 1 rfl ?_;refine ab.nil ?_;by_cases h0:b.length=0
 · rw[if_pos h0,h0];refine AW.aF rfl ?_;refine qX 1 rfl ?_;exact qN rfl
 rw[if_neg h0,beq_eq_false_iff_ne.2 (show (b.length:Int)≠0 by omega)];refine AW.au rfl ?_;refine AW.skip ?_;refine qX 2 rfl ?_;rw[List.length_map];refine qU 1 rfl ?_;refine qI ?_;refine qX 2 rfl ?_;refine ab.nil ?_;by_cases h1:b.length=1
 · have g:=kq (r:=b) (i:=0) (by omega);have cq:=vV (Qr (b.getD 0 0)) (jH _ (sa 0)) (by omega);rw[cX,yJ] at cq;rw[if_pos h1,h1];refine AW.aF rfl ?_;refine qX 1 rfl ?_;refine ab.idx tok (Qr (b.getD 0 0)).D rfl rfl rfl rfl (Int.le_refl _) g ?_;refine qU 1 rfl ?_;refine ab.call tok rfl rfl rfl rfl cq ?_;refine qU 1 rfl ?_;exact qN rfl
 rw[if_neg h1,beq_eq_false_iff_ne.2 (show (b.length:Int)≠1 by omega)];refine AW.au rfl ?_;refine AW.skip ?_
 obtain ⟨i,hi,hla2⟩: ∃i,i≤l∧b.length=2^i:=by
  rcases ha with e | e
  · omega
  · exact e
 have wE:i≠0:=fun e=>h1 (by rw[hla2,e]);obtain ⟨j,rfl⟩: ∃j,i=j+1:=⟨i-1,by omega⟩;obtain ⟨l',rfl⟩: ∃l',l=l'+1:=⟨l-1,by omega⟩;have hj:j≤l':=by omega
 have hN:=hN l' rfl b j hj hla2 sa;have hR:=fun b m h1 h2 h3 h4=>hR l' rfl b m h1 h2 h3 h4;obtain ⟨e1,e2,e3⟩:=bh hla2;have hx:aq l' (b.take (b.length / 2)):= .inr ⟨j,hj,e1⟩;have hy:aq l' (b.drop (b.length / 2)):= .inr ⟨j,hj,e2⟩;have hlog:b.length.log2-1=j:=by rw[hla2,Nat.log2_two_pow];omega
 have hd:aq l' (rt.getD j []):= .inr ⟨j,hj,hrt j (by omega)⟩;have hk2:=bA (l'+1) k;have r1:=hR _ k hx (sa.take _) (Nat.le_refl _) (il hok);have r2:=hR _ k hy (sa.drop _) (Nat.le_refl _) (il hok);have r3:=hR _ k hd (sr j) (Nat.le_refl _) (il hok);have r4:=hR _ _ hN.2.1 hN.2.2 (by omega) hok.2;have t1:=hT (b.take (b.length / 2));have t2:=jO (hT (b.drop (b.length / 2))) (hT (rt.getD j []));have t4:=jO t1 (hT (N b));have cn:=hN.1;have cp:=eI hla2 (by omega);rw[hlog];obtain ⟨n,hn⟩: ∃n,n=b.length / 2:=⟨_,rfl⟩;rw[← hn] at e1 e2 e3 hx hy r1 r2 t1 t2 t4 ⊢;generalize R (b.take n)=x at r1 t1 t4 ⊢;generalize R (b.drop n)=y at r2 t2 ⊢;generalize R (rt.getD j [])=z at r3 t2 ⊢;generalize R (N b)=u at r4 t4 ⊢;refine qX 1 rfl ?_;refine ab.call tok rfl rfl rfl rfl cp ?_;refine qU 5 rfl ?_;refine qK 4 rfl ?_;rw[aC (x:=((j+1:Nat):Int) -1) (by omega) (by omega),show ((j+1:Nat):Int) -1=(j:Int) by omega];refine ab.idx tok (af (rt.getD j [])) rfl rfl rfl rfl (Int.natCast_nonneg j) (hxs j (by omega)) ?_;refine qU 2 rfl ?_;refine qI ?_;refine AW.draw aM 17 (by kernel_rfl) ?_;refine qP 3 rfl ?_;refine ae.div tok rfl rfl rfl rfl rfl (by decide) ?_;rw[fI _ (by omega),← hn];refine ae.fe tok (a:=b) (b.take n) rfl rfl rfl rfl rfl trivial (Int.natCast_nonneg n) (Nat.zero_le _) (show n≤b.length by omega) rfl ?_;refine ae.call tok rfl rfl rfl rfl rfl r1 ?_;refine qP 3 rfl ?_;refine ae.div tok rfl rfl rfl rfl rfl (by decide) ?_;rw[fI _ (by omega),← hn];refine ae.fe tok (a:=b) (b.drop n) rfl rfl rfl rfl rfl (Int.natCast_nonneg n) trivial (show n≤b.length by omega) (Nat.le_refl _) (by show (b.take b.length).drop n=_;rw[List.take_length]) ?_;refine ae.call tok rfl rfl rfl rfl rfl r2 ?_;refine qP 2 rfl ?_;refine ae.call tok rfl rfl rfl rfl rfl r3 ?_;refine qP 1 rfl ?_;rw[aC (x:=y*z) (by unfold tq at t2;omega) (by unfold tq at t2;omega)];refine qP 1 rfl ?_;refine ae.nil ?_;refine qU 1 rfl ?_;refine ab.nil ?_;refine AW.cW [1,2,5,9,10] ?_;show AW _ _ _ _ _ _ _ [(1,.d (af b)),(2,.bx [.sl 1 xs]),(5,.d (dI b.length)),(9,.d (.v (.int .i64 x))),(10,.d (.v (.int .i64 (y*z))))];generalize y*z=yz at t2 ⊢;refine AW.seq ?_;refine qX 3 rfl ?_;by_cases hxy:x=yz
 · have hor:x=yz∨yz=0:= .inl hxy;rw[if_pos hor,beq_iff_eq.2 hxy];refine qU 4 rfl ?_;refine ab.nil ?_;refine AW.aF rfl ?_;refine qX 2 rfl ?_;exact qN rfl
 rw[beq_eq_false_iff_ne.2 hxy];refine qU 3 rfl ?_;by_cases hy0:yz=0
 · have hor:x=yz∨yz=0:= .inr hy0;rw[if_pos hor,beq_iff_eq.2 hy0];refine qU 1 rfl ?_;refine ab.nil ?_;refine AW.aF rfl ?_;refine qX 2 rfl ?_;exact qN rfl
 have hor: ¬(x=yz∨yz=0):=fun h=>h.elim hxy hy0;rw[if_neg hor,beq_eq_false_iff_ne.2 hy0];refine qU 1 rfl ?_;refine ab.nil ?_;refine AW.au rfl ?_;refine AW.skip (AW.seq ?_);refine qX 2 rfl ?_;refine ab.nil ?_;by_cases hx0:x=0
 · rw[if_pos hx0,beq_iff_eq.2 hx0];refine AW.aF rfl ?_;refine qX 2 rfl ?_;exact qN rfl
 rw[if_neg hx0,beq_eq_false_iff_ne.2 hx0];refine AW.au rfl ?_;refine AW.skip (AW.seq ?_);refine AW.draw aM 8 (by kernel_rfl) ?_;refine qP 5 rfl ?_;refine ae.call tok rfl rfl rfl rfl rfl cn ?_;refine ae.call tok rfl rfl rfl rfl rfl r4 ?_;refine qP 1 rfl ?_;rw[aC (x:=x*u) (by unfold tq at t4;omega) (by unfold tq at t4;omega)];refine ae.nil ?_;refine qU 1 rfl ?_;exact qN rfl
theorem kK: ∀(l:Nat) {k:Nat} {rt:List NQ} {xs:List D} {a:NQ},aq l a→l≤5→cD rt→l≤rt.length→(∀j,j<rt.length→xs[j]?=some (af (rt.getD j [])))→ar k a→ed k rt→ny l k→Pure Tryz.prog 100 [.ag [.sl 1 xs],af a] (dI (oo l rt a))
 | 0,k,rt,xs,a,ha,hl5,hrt,hl,hxs,sa,sr,hok=>qR ha hl5 hrt hl hxs sa sr hok (fun l' h=>by omega) (fun _=> .inl rfl) (fun l' h=>by omega)
 | l+1,k,rt,xs,a,ha,hl5,hrt,hl,hxs,sa,sr,hok=>qR ha hl5 hrt hl hxs sa sr hok (fun l' e b m h1 h2 h3 h4=>by
    obtain rfl:l=l':=by omega
    exact kK l h1 (by omega) hrt (by omega) hxs h2 (sr.mono h3) h4) (qS l rt) (fun l' e b j h1 h2 h3=>by
    obtain rfl:l=l':=by omega
    exact⟨vU h1 h2 hrt (by omega) (by omega) hxs h3 sr hok.1,AK h1 h2 hrt (by omega) h3 sr⟩)
end Lift
namespace Lift
open Go Go.Proofs
theorem Ee{v:List NQ}(ro:cD v)(ps: ∀k,k<v.length→ ¬dw k (v.take k) (v.getD k [])<0):pH v:=fun j hj=>by
 have h:=ps j hj
 have e: ∀i,i<j→(v.take j).getD i []=v.getD i []:=fun i hi=>by
  rw[List.getD_eq_getElem?_getD,List.getElem?_take_of_lt hi,List.getD_eq_getElem?_getD]
 have ro2:cD (v.take j):=fun i hi=>by
  rw[List.length_take] at hi;rw[e i (by omega)];exact ro i (by omega)
 have lt:aq j (v.getD j []):= .inr ⟨j,Nat.le_refl _,ro j hj⟩;rw[fj j lt ro2 (by rw[List.length_take];omega)] at h
 have key: ∀(l:Nat) (a:Cf),l≤j→aT (v.take j) l a=aT v l a∧ ∀b:Cf,mulC (v.take j) l a b=mulC v l a b:=by
  intro l
  induction l with
  | zero=>exact fun a _=>⟨rfl,fun b=>rfl⟩
  | succ l ih =>
    intro a hl;have hm: ∀x y:Cf,mulC (v.take j) l x y=mulC v l x y:=fun x y=>(ih x (by omega)).2 y;have hs: ∀x:Cf,aT (v.take j) l x=aT v l x:=fun x=>(ih x (by omega)).1;refine⟨?_,fun b=>?_⟩
    · unfold aT bL;simp only[hm,hs,e l (by omega)]
    · funext i;show (if i<2^l then mulC (v.take j) l a b i+mulC (v.take j) l (mulC (v.take j) l (bz l a) (bz l b)) (cf ((v.take j).getD l [])) i else mulC (v.take j) l a (bz l b) (i-2^l)+mulC (v.take j) l (bz l a) b (i-2^l))=_;simp only[hm,e l (by omega)];rfl
 rw[(key j _ (Nat.le_refl _)).1] at h;omega
theorem AX{rt:List (List RD)}{i:Nat}(hi:i≤rt.length)(h: ∀j,j<i→sF rt j=0):pH ((rt.take i).map bm):=Ee (jM hi h) (fun k hk=>by
 rw[eH hi] at hk;have h1:=(fM (h k hk)).2.2;rw[mY hk,← List.map_take,List.take_take,Nat.min_eq_left (by omega)]
 exact h1)
theorem Ax{rt:List (List RD)}{i:Nat}(hi:i≤rt.length)(h: ∀j,j<i→sF rt j=0){a:NQ}(ha:aq i a):oo i ((rt.take i).map bm) a=dw i ((rt.take i).map bm) a:=by
 rw[jl i ha (jM hi h) (AX hi h) (by rw[eH hi];exact Nat.le_refl _),fj i ha (jM hi h) (by rw[eH hi];exact Nat.le_refl _)]
theorem AJ{rt:List (List RD)}{k m:Nat}(hw: ∀i,i<k→wN m (rt.getD i []))(hk:k≤rt.length)(h: ∀j,j<k→iV (rt.getD j [])=true): ∀j,j<((rt.take k).map bm).length→(rt.map cF)[j]?=some (af (((rt.take k).map bm).getD j [])):=fun j hj=>by
 rw[eH hk] at hj;have hj2:j<rt.length:=by omega
 rw[mY hj,← jr (hw j hj) (h j hj)];simp[hj2]
theorem nk(rt:List (List RD)){m:Nat}(hw: ∀i,i<rt.length→(rt.getD i []).length=2^i→wN m (rt.getD i []))(h1:1≤m)(hl:rt.length≤1000000)(hll: ∀i,i<rt.length→(rt.getD i []).length≤4398046511104)(hok:rt.length≤5→ny rt.length m):Pure Tryz.prog 56 [TrD rt] (dI (ck rt)):=by
 refine qJ 34 Tryz.func56 rfl rfl rfl rfl (by kernel_rfl) (fun B F0 w0=>?_);unfold ck;obtain ⟨E,hE⟩: ∃E,fE (sF rt) (rt.length-0) 0=E:=⟨_,rfl⟩;rw[hE];refine qX 2 rfl ?_;refine qI ?_;refine qX 3 rfl ?_;rw[List.length_map];refine qU 1 rfl ?_;refine ab.nil ?_;by_cases h5:5<rt.length
 · rw[if_pos h5,decide_eq_true (show (5:Int)<(rt.length:Int) by omega)];refine AW.aF rfl ?_;refine qX 1 rfl ?_;exact qN rfl
 rw[if_neg h5,decide_eq_false (show ¬(5:Int)<(rt.length:Int) by omega)];have hok:=hok (by omega);have hm7:=rl hok;refine AW.au rfl ?_;refine AW.skip (AW.seq ?_);refine qX 3 rfl ?_;rw[List.length_map];refine qU 1 rfl ?_;refine ab.nil ?_;refine AW.block ?_;refine AW.aE [1,11,12,13] (fun i:Nat=>[(1,.bx [.sl 1 (rt.map cF)]),(11,.d (.sl 1 (rt.map cF))),(12,.d (dI rt.length)),(13,.d (dI i))]) (fun i=>i≤rt.length∧fE (sF rt) (rt.length-i) i=E∧ ∀j,j<i→sF rt j=0) (fun i=>rt.length-i) 0 rfl ⟨Nat.zero_le _,hE,fun j hj=>by omega⟩ (fun i ⟨hi,hiE,hall⟩=>?_);refine qX 1 rfl ?_;refine qI ?_;refine AW.cond rfl (fun h=>?_) (fun h=>?_);rotate_left
 · have hii: ¬i<rt.length:=by have:=of_decide_eq_false h;omega
   rw[iC hii] at hiE;subst hiE;refine AW.exit ?_;refine qX 1 rfl ?_;exact qN rfl
 have hii:i<rt.length:=by have:=of_decide_eq_true h;omega
 have hg:(rt.map cF)[i]?=some (cF (rt.getD i [])):=by simp[hii]
 have hwi:=hw i hii;have hli:=hll i hii;have hmiss:=fun h0:sF rt i=0=>(fA hii h0).symm.trans hiE;have hhit:=fun h0:sF rt i≠0=>(iB hii h0).symm.trans hiE;have hp:2^i≤2^5:=Nat.pow_le_pow_right (by decide) (by omega);have hrt:sF rt i=if (rt.getD i []).length≠2^i then 10 else if a6 i (rt.getD i [])≠0 then a6 i (rt.getD i []) else if dw i ((rt.take i).map bm) (bm (rt.getD i []))<0 then 3 else 0:=rfl
 refine AW.skip (AW.seq (AW.block ?_));refine qX 1 rfl ?_;refine ab.idx tok (cF (rt.getD i [])) rfl rfl rfl rfl (Int.natCast_nonneg i) hg ?_;refine qU 3 rfl ?_;refine qI ?_;refine qX 2 rfl ?_;rw[List.length_map];refine qU 2 rfl ?_;rw[vI (by omega)];refine qU 1 rfl ?_;refine ab.nil ?_;by_cases e1:(rt.getD i []).length=2^i;rotate_left
 · rw[if_pos e1] at hrt;rw[bne_iff_ne.2 (show (((rt.getD i []).length:Nat):Int)≠((2^i:Nat):Int) by omega)];have:=hhit (by rw[hrt];decide);rw[hrt] at this;subst this;refine AW.aF rfl ?_;refine qX 1 rfl ?_;exact qN rfl
 rw[if_neg (fun h=>h e1)] at hrt;have hwi:=hwi e1;have cn:=fY i (rt.getD i []) (by omega) (fun _=>hwi) (by omega) hli;rw[e1,bne_eq_false_iff_eq.2 rfl];refine AW.au rfl ?_;refine AW.skip (AW.seq ?_);refine qX 2 rfl ?_;refine ab.call tok rfl rfl rfl rfl cn ?_;refine qU 1 rfl ?_;refine qK 2 rfl ?_;refine ab.nil ?_;by_cases e2:a6 i (rt.getD i [])=0;rotate_left
 · rw[if_pos e2] at hrt;have:=hhit (by rw[hrt];exact e2);rw[hrt] at this;subst this;rw[bne_iff_ne.2 (show ((a6 i (rt.getD i []):Nat):Int)≠0 by omega)];refine AW.aF rfl ?_;refine qX 2 rfl ?_;exact qN rfl
 rw[if_neg (fun h=>h e2)] at hrt;rw[bne_eq_false_iff_eq.2 (show ((a6 i (rt.getD i []):Nat):Int)=0 by omega)];obtain ⟨n1,n2⟩:=nC e2;have hwj:=fun j (hj:j<i)=>hw j (by omega) (fM (hall j hj)).1;have cs:=kK i (k:=m) (rt:=(rt.take i).map bm) (xs:=rt.map cF) n1 (by omega) (jM hi hall) (by rw[eH hi];exact Nat.le_refl _) (AJ hwj hi (fun j hj=>(fM (hall j hj)).2.1)) (kE hwi h1) (p7 hwj h1 hi) (A4 hok hi);have tr:=lC i ((rt.take i).map bm) (bm (rt.getD i []));rw[Ax hi hall n1,← jr hwi n2] at cs;generalize dw i ((rt.take i).map bm) (bm (rt.getD i []))=s at cs hrt tr;refine AW.au rfl ?_;refine AW.skip ?_;refine qX 2 rfl ?_;refine ab.call tok rfl rfl rfl rfl cs ?_;refine qU 1 rfl ?_;refine ab.nil ?_;by_cases e3:s<0
 · rw[if_pos e3] at hrt;rw[decide_eq_true e3];have:=hhit (by rw[hrt];decide);rw[hrt] at this;subst this;refine AW.aF rfl ?_;refine qX 1 rfl ?_;exact qN rfl
 rw[if_neg e3] at hrt;rw[decide_eq_false e3];refine AW.au rfl ?_;refine AW.skip ?_;refine qT 1 rfl ?_;rw[aC (x:=(i:Int)+1) (by omega) (by omega)];refine qU 1 rfl ?_;refine ab.nil ?_
 exact⟨i+1,rfl,⟨hii,hmiss hrt,fun j hj=>by
  by_cases e:j=i
  · rw[e];exact hrt
  · exact hall j (by omega)⟩,by omega⟩
theorem sL(rt l:List (List RD)){m mn:Nat}(hw: ∀i,i<rt.length→(rt.getD i []).length=2^i→wN m (rt.getD i []))(h1:1≤m)(hl:rt.length≤1000000)(hll: ∀i,i<rt.length→(rt.getD i []).length≤4398046511104)(hok:rt.length≤5→ny rt.length m)
  (hlw: ∀i,i<l.length→yp rt.length (l.getD i [])→wN mn (l.getD i [])) (hl2:l.length≤1000000) (hl3: ∀i,i<l.length→(l.getD i []).length≤4398046511104) (hm:mn≤17300000000000):Pure Tryz.prog 110 [TrD rt,.sl 1 (l.map cF)] (dI (nS rt l)):=by
 refine qJ 29 Tryz.func110 rfl rfl rfl rfl (by kernel_rfl) (fun B F0 w0=>?_);have cC:=nk rt hw h1 hl hll hok;unfold nS;obtain ⟨E,hE⟩: ∃E,fE (fun i=>a6 rt.length (l.getD i [])) (l.length-0) 0=E:=⟨_,rfl⟩;rw[hE];refine qX 2 rfl ?_;refine qI ?_;refine qX 1 rfl ?_;refine ab.call tok rfl rfl rfl rfl cC ?_;refine qU 1 rfl ?_;refine qK 2 rfl ?_;refine ab.nil ?_;by_cases e2:ck rt=0;rotate_left
 · rw[if_pos e2,bne_iff_ne.2 (show ((ck rt:Nat):Int)≠0 by omega)];refine AW.aF rfl ?_;refine qX 2 rfl ?_;exact qN rfl
 have h5:=(jD e2).1;rw[if_neg (fun h=>h e2),bne_eq_false_iff_eq.2 (show ((ck rt:Nat):Int)=0 by omega)];refine AW.au rfl ?_;refine AW.skip (AW.seq ?_);refine qX 2 rfl ?_;rw[List.length_map];refine qU 1 rfl ?_;refine ab.nil ?_;refine AW.block ?_;refine AW.aE [2,14,15,16] (fun i:Nat=>[(2,.bx [.sl 1 (rt.map cF)]),(14,.d (.sl 1 (l.map cF))),(15,.d (dI l.length)),(16,.d (dI i))]) (fun i=>i≤l.length∧fE (fun i=>a6 rt.length (l.getD i [])) (l.length-i) i=E) (fun i=>l.length-i) 0 rfl ⟨Nat.zero_le _,hE⟩ (fun i ⟨hi,hiE⟩=>?_);refine qX 1 rfl ?_;refine qI ?_;refine AW.cond rfl (fun h=>?_) (fun h=>?_);rotate_left
 · have hii: ¬i<l.length:=by have:=of_decide_eq_false h;omega
   rw[iC hii] at hiE;subst hiE;refine AW.exit ?_;refine qX 1 rfl ?_;exact qN rfl
 have hii:i<l.length:=by have:=of_decide_eq_true h;omega
 have hg:(l.map cF)[i]?=some (cF (l.getD i [])):=by simp[hii]
 have hmiss:=fun h0:a6 rt.length (l.getD i [])=0=>(fA (f:=fun i=>a6 rt.length (l.getD i [])) hii h0).symm.trans hiE;have hhit:=fun h0:a6 rt.length (l.getD i [])≠0=>(iB (f:=fun i=>a6 rt.length (l.getD i [])) hii h0).symm.trans hiE;have cn:=fY rt.length (l.getD i []) h5 (hlw i hii) hm (hl3 i hii);refine AW.skip (AW.seq (AW.block (AW.seq (AW.region ?_))));refine ab.idx tok (cF (l.getD i [])) rfl rfl rfl rfl (Int.natCast_nonneg i) hg ?_;refine qU 2 rfl ?_;refine qK 3 rfl ?_;rw[List.length_map];refine qU 1 rfl ?_;refine ab.call tok rfl rfl rfl rfl cn ?_;refine qU 1 rfl ?_;refine ab.nil ?_;generalize a6 rt.length (l.getD i [])=v at hmiss hhit;refine qX 2 rfl ?_;refine ab.nil ?_;by_cases hv:v=0;rotate_left
 · have:=hhit hv;subst this;rw[bne_iff_ne.2 (show ((v:Nat):Int)≠0 by omega)];refine AW.aF rfl ?_;refine qX 2 rfl ?_;exact qN rfl
 rw[bne_eq_false_iff_eq.2 (show ((v:Nat):Int)=0 by omega)];refine AW.au rfl ?_;refine AW.skip ?_;refine qT 1 rfl ?_;rw[aC (x:=(i:Int)+1) (by omega) (by omega)];refine qU 1 rfl ?_;refine ab.nil ?_;exact⟨i+1,rfl,⟨hii,hmiss hv⟩,by omega⟩
end Lift
namespace Lift
open Go Go.Proofs
end Lift
namespace Lift
def tT(r:Nat):Nat→Nat→Nat
 | 0,s=>s
 | l+1,s=>tT r l s+tT r l (tT r l s+r)+1
theorem m5{r:Nat}: ∀{l s t:Nat},s≤t→tT r l s≤tT r l t
 | 0,_,_,h=>h
 | l+1,s,t,h=>by
   have h1:=m5 (r:=r) (l:=l) h;have h2:=m5 (r:=r) (l:=l) (Nat.add_le_add_right h1 r);show _+_+1≤_+_+1;omega
theorem pf(r:Nat): ∀(l s:Nat),s≤tT r l s
 | 0,s=>Nat.le_refl s
 | l+1,s=>by
   have h1:=pf r l s;show s≤tT r l s+_+1;omega
theorem D1(r l s:Nat):2*s+1≤tT r (l+1) s:=by
 have h1:=pf r l s;have h2:=pf r l (tT r l s+r);show _≤tT r l s+tT r l (tT r l s+r)+1;omega
theorem Am(r s:Nat):tT r 1 s=2*s+r+1:=by
 show s+(s+r)+1=_;omega
theorem gN{v:List NQ}{r:Nat}(hr:ed r v): ∀(l:Nat) {a b:Cf} {k m:Nat},(∀i,LQ (a i)≤k)→(∀i,LQ (b i)≤m)→ ∀i,LQ (mulC v l a b i)≤tT r l (k+m)
 | 0,a,b,k,m,ha,hb,i=>by
   show LQ (if i=0 then a 0*b 0 else 0)≤k+m;split
   · have:=yu (a 0) (b 0);have:=ha 0;have:=hb 0;omega
   · have:=nX;have:=ha 0;have:=yt (a 0);omega
 | l+1,a,b,k,m,ha,hb,i=>by
   have h1:=gN hr l ha hb;have h2:=gN hr l (a:=bz l a) (b:=bz l b) (fun i=>ha _) (fun i=>hb _);have h3:=gN hr l (a:=a) (b:=bz l b) ha (fun i=>hb _);have h4:=gN hr l (a:=bz l a) (b:=b) (fun i=>ha _) hb;have h5:=gN hr l (a:=mulC v l (bz l a) (bz l b)) (b:=cf (v.getD l [])) h2 (fun i=>hr l i);have h6:=pf r l (tT r l (k+m)+r);show LQ (if i<2^l then _ else _)≤tT r l (k+m)+tT r l (tT r l (k+m)+r)+1;split
   · have:=vu (mulC v l a b i) (mulC v l (mulC v l (bz l a) (bz l b)) (cf (v.getD l [])) i);have:=h1 i;have:=h5 i;omega
   · have:=vu (mulC v l a (bz l b) (i-2^l)) (mulC v l (bz l a) b (i-2^l));have:=h3 (i-2^l);have:=h4 (i-2^l);omega
theorem vC{v:List NQ}{r l k m:Nat}{a b:NQ}(hrt:cD v)(hr:ed r v)(hl:l≤v.length)(ha:aq l a)(sa:ar k a)(hb:aq l b)(sb:ar m b):ar (tT r l (k+m)) (aR l v a b):=fun i=>by
 show LQ (cf (aR l v a b) i)≤_;rw[(ga l ha hb hrt hl).2];exact gN hr l sa sb i
theorem CT{v:List NQ}{r l j k:Nat}{a:NQ}(hrt:cD v)(hr:ed r v)(hj:j≤l)(hl:l<v.length)(ha:a.length=2^(j+1))(sa:ar k a):ar (tT r (l+1) (k+k)) (eA l v a):=fun i=>by
 show LQ (cf (eA l v a) i)≤_;have h2:=qh hj ha hrt hl
 have lowN:cG j (bL v j (cf a)):=fun i hi=>by
  unfold bL;rw[a7 v j _ _ i hi,a7 v j _ _ i hi];exact Rat.sub_self
 obtain ⟨e1,e2,e3⟩:=bh ha;rw[h2.2];have h3:=gN hr j (a:=cf a) (b:=cf a) sa sa i;have h4:=gN hr j (a:=bz j (cf a)) (b:=bz j (cf a)) (fun i=>sa _) (fun i=>sa _);have h5:=gN hr j (a:=mulC v j (bz j (cf a)) (bz j (cf a))) (b:=cf (v.getD j [])) h4 (fun i=>hr j i) i
 have h6:LQ (bL v j (cf a) i)≤tT r (j+1) (k+k):=by
  have:=EV (mulC v j (cf a) (cf a) i) (mulC v j (mulC v j (bz j (cf a)) (bz j (cf a))) (cf (v.getD j [])) i);show LQ (_-_)≤tT r j (k+k)+tT r j (tT r j (k+k)+r)+1;omega
 refine Nat.le_trans h6 ?_
 have up: ∀d s,tT r j s≤tT r (j+d) s:=fun d s=>by
  induction d with
  | zero=>exact Nat.le_refl _
  | succ d ih =>
    refine Nat.le_trans ih ?_;show tT r (j+d) s≤tT r (j+d) s+_+1;omega
 obtain ⟨d,rfl⟩: ∃d,l=j+d:=⟨l-j,by omega⟩;have u1:=up d (k+k);have u2:=up d (tT r j (k+k)+r);have u3:=m5 (r:=r) (l:=j+d) (Nat.add_le_add_right u1 r);show tT r j (k+k)+tT r j (tT r j (k+k)+r)+1≤tT r (j+d) (k+k)+tT r (j+d) (tT r (j+d) (k+k)+r)+1;omega
def iQ(r:Nat):Nat→Nat→Nat
 | 0,k=>k+1
 | l+1,k=>tT r (l+1) (k+iQ r l (tT r (l+1) (k+k)))
theorem uY{r:Nat}: ∀{l s t:Nat},s≤t→iQ r l s≤iQ r l t
 | 0,_,_,h=>Nat.succ_le_succ h
 | l+1,s,t,h=>by
   have h1:=uY (r:=r) (l:=l) (m5 (r:=r) (l:=l+1) (Nat.add_le_add h h));exact m5 (by omega)
theorem Bn(r:Nat): ∀(l k:Nat),k<iQ r l k
 | 0,k=>Nat.lt_succ_self k
 | l+1,k=>by
   have h1:=Bn r l (tT r (l+1) (k+k));have h2:=pf r (l+1) (k+iQ r l (tT r (l+1) (k+k)));show k<tT r (l+1) _;omega
theorem Dv{q:Rat}{k:Nat}(h0:q≠0)(h:LQ q≤k):LQ (1 / q)≤k+1:=by
 have h1:=EW (r:=1) h0;have h2:=su;omega
theorem tt(l:Nat)(v:List NQ)(b:NQ):aR l v [] b=[]:=by
 have key: ∀R:NQ→NQ→NQ,iG (gw R v) [] b=[]:=fun R=>by
  unfold iG gw;split
  · rw[if_pos (by simp[a9])]
  · rw[if_pos (by simp[a9])]
 cases l with
 | zero=>exact key _
 | succ l=>exact key _
theorem Bl{v:List NQ}{r:Nat}(hrt:cD v)(hr:ed r v): ∀(l:Nat) {k:Nat} {a:NQ},aq l a→l≤v.length→ar k a→ar (iQ r l k) (jw l v a):=by
 have one: ∀{s:NQ} {l k:Nat},aq l s→zm s→s.length=1→ar k s→ar (k+1) [1 / s.getD 0 0]:=fun {s l k} hs ht h1 sa i=>by
  cases i with
  | zero=>exact Dv (ht.one h1) (sa 0)
  | succ i=>exact lj (Nat.le_add_left _ _)
 intro l
 induction l with
 | zero =>
   intro k a ha hl sa;have hs:=aU ha sa;have ht:=kD ha;show ar (k+1) (kV _ _ _ _ (ay a));generalize ay a=s at *;unfold kV;split
   · rename_i h1;exact one hs.1 ht h1 hs.2
   · split
     · exact bb (Nat.le_add_left _ _)
     · exact bb (Nat.le_add_left _ _)
 | succ l ih =>
   intro k a ha hl sa;obtain ⟨hs,sa⟩:=aU ha sa;have ht:=kD ha;show ar (iQ r (l+1) k) (kV (jw l v) (dw l v) (eA l v) (aR (l+1) v) (ay a));generalize ay a=s at *;have hk:=Bn r (l+1) k;unfold kV;by_cases h1:s.length=1
   · rw[if_pos h1];exact(one hs ht h1 sa).mono hk
   rw[if_neg h1];by_cases h0:s.length=0
   · rw[List.length_eq_zero_iff.1 h0]
     have en:eA l v []=[]:=by
      show aJ (aR l v [] []) (aL (aR l v (aR l v [] []) (v.getD ((0:Nat).log2-1) [])))=[];rw[tt,tt];rfl
     have es:dw l v []=0:=by cases l<;>rfl
     rw[en,if_pos es];have h3:=ih (bd l) (by omega) (bb (k:=1) (Nat.le_refl _));refine h3.mono ?_;have hk1:=sa.pos;have h5:iQ r l 1≤iQ r l (tT r (l+1) (k+k)):=uY (by have:=pf r (l+1) (k+k);omega);have h6:=pf r (l+1) (k+iQ r l (tT r (l+1) (k+k)));show iQ r l 1≤tT r (l+1) _;omega
   obtain ⟨j,hj,hsl⟩: ∃j,j≤l∧s.length=2^(j+1):=by
    rcases hs with e | ⟨i,hi,e⟩
    · exact absurd e h0
    · rcases i with _ | j
      · exact absurd e h1
      · exact⟨j,by omega,e⟩
   obtain ⟨e1,e2,e3⟩:=bh hsl;have hx:aq l (s.take (s.length / 2)):= .inr ⟨j,hj,e1⟩;have hn:=qg hj hsl hrt (show l<v.length by omega);have sn:=CT hrt hr hj (show l<v.length by omega) hsl sa;split
   · have h3:=ih (hx.plus hx) (by omega) ((sa.take _).plus (sa.take _));refine h3.mono ?_;have h4:=D1 r l (k+k);have h5:iQ r l (k+k+1)≤iQ r l (tT r (l+1) (k+k)):=uY (by omega);have h6:=pf r (l+1) (k+iQ r l (tT r (l+1) (k+k)));show iQ r l (k+k+1)≤tT r (l+1) _;omega
   · have h3:=ih hn (by omega) sn
     have hjl:aq (l+1) (de (s.take (s.length / 2)) (aL (s.drop (s.length / 2))) (s.length / 2)):= .inr ⟨j+1,by omega,by
      rw[dF]
      omega⟩
     exact vC hrt hr hl hjl (((sa.take _).join (sa.drop _).minus _)) ((gB l hn hrt (by omega)).mono (Nat.le_succ l)) h3
end Lift
namespace Lift
open Go Go.Proofs
end Lift
namespace Lift
open Go Go.Proofs
theorem BH{v:List NQ}(hrt:cD v)(hp:pH v){l j:Nat}{s:NQ}(hj:j≤l)(hl:l<v.length)(hsl:s.length=2^(j+1))(h:aT v (l+1) (cf s)≠0)(hN:aT v j (bL v j (cf s))=0):aT v l (cf (aJ (s.take (s.length / 2)) (s.take (s.length / 2))))≠0:=by
 obtain ⟨e1,e2,e3⟩:=bh hsl;have ex:iJ j (cf (s.take (s.length / 2))) (cf s):=dN _ e3;have ls:cG (j+1) (cf s):=aN (by omega);have lx:cG j (cf (s.take (s.length / 2))):=aN (by omega);obtain ⟨Tj⟩:=EX hp j (by omega);have hdj:=hp j (by omega)
 let T:=D0 Tj hdj
 rw[bD v ls (by omega)] at h
 have hT:Tj.R.sgn (OR.nr (Tj.of (cf (v.getD j []))) (T.of (cf s)))=aT v j (bL v j (cf s)):=by
  rw[← Tj.sgn]
  congr 1
  show Tj.of (cf s)*Tj.of (cf s) -Tj.of (bz j (cf s))*Tj.of (bz j (cf s))*Tj.of (cf (v.getD j []))=Tj.of (bL v j (cf s));rw[← Tj.mul,← Tj.mul,← Tj.mul,← Tj.sub];rfl
 have cxx:cf (aJ (s.take (s.length / 2)) (s.take (s.length / 2)))=fun i=>cf (s.take (s.length / 2)) i+cf (s.take (s.length / 2)) i:=funext fun i=>ez _ _ i
 have lxx:cG j (cf (aJ (s.take (s.length / 2)) (s.take (s.length / 2)))):=by
  rw[cxx];exact fun i hi=>by
   show _+_=(0:Rat);rw[lx i hi];exact Rat.add_zero 0
 have hes:T.R.sgn (T.of (cf s))≠0:=by rw[T.sgn];exact h
 have F:=OR.BI (R:=Tj.R) (d:=Tj.of (cf (v.getD j []))) (by rw[Tj.sgn];exact hdj) hes (by
  have h5:=hT;rw[hN] at h5;exact h5)
 rw[bD v lxx hj,← Tj.sgn,cxx,Tj.add,Tj.cong _ _ ex];exact F.2
theorem tF{v:List NQ}{l:Nat}{a:NQ}(ha:aq l a)(h:aT v l (cf a)≠0):(ay a).length≠0:=fun e=>by
 have:=bN ha;rw[List.length_eq_zero_iff.1 e] at this;rw[← this] at h;exact h (eU v l)
def Ff:Nat→Nat→Prop
 | 0,k=>k≤17300000000000
 | l+1,k=>ny l (sT (l+1) k)∧Ff l (sT (l+1) k)∧sT (l+1) k≤17300000000000∧sT (l+1) (iQ k l (sT (l+1) k))≤17300000000000
theorem Ff.le: ∀{l k:Nat},Ff l k→k≤17300000000000
 | 0,k,h=>h
 | l+1,k,h=>by have:=bA (l+1) k;have:=h.2.2.1;omega
end Lift
namespace Lift
theorem Eh{v:List NQ}(hrt:cD v)(hp:pH v): ∀(l:Nat) {k:Nat} {a:NQ},aq l a→l≤v.length→ar k a→ed k v→aT v l (cf a)≠0→Ff l k→Fh l v a:=by
 intro l
 induction l with
 | zero =>
   intro k a ha hl sa sr h hk;exact⟨sa.mono hk.le,tF ha h⟩
 | succ l ih =>
   intro k a ha hl sa sr h hk;obtain ⟨k1,k2,k3,k4⟩:=hk;have h2:=bA (l+1) k
   have h5:2*k+1≤sT (l+1) k:=by
    have:=bA l k;show _≤sT l (sT l k)+sT l k+1;omega
   have h0:=tF ha h;have hc:=bN ha;refine⟨sa.mono (by omega),h0,fun hne=>?_⟩;rw[← hc] at h;obtain ⟨hs,ss⟩:=aU ha sa;generalize ay a=s at *
   obtain ⟨j,hj,hsl⟩: ∃j,j≤l∧s.length=2^(j+1):=by
    rcases hs with e | ⟨i,hi,e⟩
    · exact absurd e h0
    · rcases i with _ | j
      · exact absurd e hne
      · exact⟨j,by omega,e⟩
   obtain ⟨e1,e2,e3⟩:=bh hsl;have hx:aq l (s.take (s.length / 2)):= .inr ⟨j,hj,e1⟩;have hn:=qh hj hsl hrt (show l<v.length by omega);have sn:=(qf hj hsl hrt (show l<v.length by omega) ss sr).2;have s1:=fj l hn.1 hrt (by omega)
   have lowN:cG j (bL v j (cf s)):=fun i hi=>by
    unfold bL;rw[a7 v j _ _ i hi,a7 v j _ _ i hi];exact Rat.sub_self
   refine⟨A6 hj hsl hrt (by omega) ss sr k3,mG l hn.1 hrt (by omega) sn (sr.mono (by omega)) k1,fun hz=>?_,fun hz=>⟨?_,?_⟩⟩
   · rw[s1,hn.2,bD v lowN hj] at hz;have hd:=BH hrt hp hj (by omega) hsl h hz;exact ih (hx.plus hx) (by omega) (((ss.take _).plus (ss.take _)).mono (by omega)) (sr.mono (by omega)) hd k2
   · rw[s1] at hz;exact ih hn.1 (by omega) sn (sr.mono (by omega)) hz k2
   · have hjl:aq (l+1) (de (s.take (s.length / 2)) (aL (s.drop (s.length / 2))) (s.length / 2)):= .inr ⟨j+1,by omega,by
      rw[dF]
      omega⟩
     have hge:=Bn k l (sT (l+1) k);exact oE (l+1) hjl ((gB l hn.1 hrt (by omega)).mono (Nat.le_succ l)) hrt hl (((ss.take _).join (ss.drop _).minus _).mono (by omega)) (Bl hrt sr l hn.1 (by omega) sn) (sr.mono (by omega)) k4
end Lift
namespace Lift
structure Lo (v:List NQ):Prop where
 V:nV 2 v
 l1:v.length≤1
theorem yM{l:Nat}(h:l≤1)(k:Nat):sT l k≤6*k+1:=by
 rcases l with _ | _ | l
 · show 2*k≤_;omega
 · show 2*(2*k)+2*k+1≤_;omega
 · omega
theorem rk{l k:Nat}(h:l≤1)(hk:k≤400000000000):ny l k:=by
 rcases l with _ | _ | l
 · show k≤_;omega
 · have h1:sT 1 k≤6*k+1:=yM (Nat.le_refl 1) k;have h2:sT 1 k≤17300000000000:=by omega
   exact⟨h2,h2⟩
 · omega
theorem E3{l:Nat}(h:l≤1)(s:Nat):tT 2 l s≤2*s+3:=by
 rcases l with _ | _ | l
 · show s≤_;omega
 · rw[Am];omega
 · omega
theorem Fv{l r k:Nat}(h:l≤1):iQ r l k≤10*k+3*r+5:=by
 rcases l with _ | _ | l
 · show k+1≤_;omega
 · show tT r 1 (k+(tT r 1 (k+k)+1))≤_;rw[Am,Am];omega
 · omega
theorem Eg{l k:Nat}(h:l≤1)(hk:k≤400000000000):Ff l k:=by
 rcases l with _ | _ | l
 · show k≤_;omega
 · have h1:sT 1 k≤6*k+1:=yM (Nat.le_refl 1) k;have h2:sT 1 k≤17300000000000:=by omega
   have h3:sT 1 (sT 1 k+1)≤6*(sT 1 k+1)+1:=yM (Nat.le_refl 1) _;have h4:sT 1 (sT 1 k+1)≤17300000000000:=by omega
   exact⟨h2,h2,h2,h4⟩
 · omega
theorem Lo.add{v:List NQ}(_:Lo v){k m:Nat}{a b:NQ}(ha:aq v.length a)(sa:ar k a)(hb:aq v.length b)(sb:ar m b)(hk:k+m≤400000000000):we a b∧aq v.length (vq a b)∧ar (k+m+1) (vq a b) :=
 ⟨⟨sa.mono (by omega),sb.mono (by omega),(sa.plus sb).mono (by omega)⟩,Dq ha sa hb sb⟩
theorem Lo.sub{v:List NQ}(_:Lo v){k m:Nat}{a b:NQ}(ha:aq v.length a)(sa:ar k a)(hb:aq v.length b)(sb:ar m b)(hk:k+m≤400000000000):A2 a b∧aq v.length (pL a b)∧ar (k+m+1) (pL a b) :=
 ⟨⟨sa.mono (by omega),sb.mono (by omega),(sa.plus sb.minus).mono (by omega)⟩,Ct ha sa hb sb⟩
section
variable {v:List NQ} (L:Lo v) {k m:Nat} {a b:NQ}
include L
theorem Lo.mul(ha:aq v.length a)(sa:ar k a)(hb:aq v.length b)(sb:ar m b)(hk:k+m≤400000000000):rn v a b∧aq v.length (js v a b)∧ar (2*(k+m)+3) (js v a b):=by
 have h1:=yM L.l1 (k+m);have h2:=E3 L.l1 (k+m);have hm:=sa.pos;have hm':=sb.pos;have st:=(vC (m:=m) L.V.ro L.V.sz (Nat.le_refl _) ha sa hb sb).mono h2;have lt:=dR v.length ha hb L.V.ro (Nat.le_refl _);exact⟨⟨sa.mono (by omega),sb.mono (by omega),oE v.length ha hb L.V.ro (Nat.le_refl _) (sa.mono (Nat.le_add_right k m)) (sb.mono (Nat.le_add_left m k)) (L.V.sz.mono (by omega)) (by omega),st.mono (by omega)⟩,aU lt st⟩
theorem Lo.sg(ha:aq v.length a)(sa:ar k a)(hk:k≤200000000000):pQ v a:=by
 have:=sa.pos;exact mG v.length ha L.V.ro (Nat.le_refl _) (sa.mono (Nat.le_succ k)) (L.V.sz.mono (by omega)) (rk L.l1 (by omega))
theorem Lo.inv(hb:aq v.length b)(sb:ar m b):aq v.length (jw v.length v b)∧ar (10*m+11) (jw v.length v b) :=
 ⟨gB v.length hb L.V.ro (Nat.le_refl _),(Bl L.V.ro L.V.sz v.length hb (Nat.le_refl _) sb).mono (Fv L.l1)⟩
theorem Lo.div(ha:aq v.length a)(sa:ar k a)(hb:aq v.length b)(sb:ar m b)(h0:oh v b≠0)(hk:k+10*m≤200000000000):A8 v a b∧aq v.length (sX v a b)∧ar (2*k+20*m+25) (sX v a b):=by
 have hm:=sb.pos;have hm':=sa.pos;obtain ⟨li,si⟩:=L.inv hb sb;obtain ⟨⟨k1,k2,k3,k4⟩,k5,k6⟩:=L.mul ha sa li si (by omega);have hs:aT v v.length (cf b)≠0:=by rw[← fj v.length hb L.V.ro (Nat.le_refl _)];exact h0
 exact⟨⟨k1,sb.mono (by omega),L.sg hb sb (by omega),h0,Eh L.V.ro L.V.pos v.length hb (Nat.le_refl _) (sb.mono (Nat.le_succ m)) (L.V.sz.mono (by omega)) hs (Eg L.l1 (by omega)),k3,k4⟩,k5,k6.mono (by omega)⟩
end
def gS(k:Nat):Nat:=110*k+129
def gI(k:Nat):Nat→Nat
 | 0=>k
 | c+1=>gS (gI k c)
theorem f'{k:Nat}: ∀{c d:Nat},c≤d→gI k c≤gI k d:=fun {c d} h=>by
 induction h with
 | refl=>exact Nat.le_refl _
 | step _ ih=>exact Nat.le_trans ih (by show _≤110*_+129;omega)
abbrev mj(k:Nat)(a:bw):Prop:= ∀i j,ar k (bX a i j)
theorem mj.mono{k m:Nat}{a:bw}(h:mj k a)(hk:k≤m):mj m a:=fun i j=>(h i j).mono hk
theorem mj.pos{k:Nat}{a:bw}(h:mj k a):1≤k:=(h 0 0).pos
theorem mj.set{k:Nat}{a:bw}(h:mj k a){r:List NQ}(hr: ∀j,ar k (r.getD j []))(i:Nat):mj k (a.set i r):=fun j c=>by
 unfold bX;rw[gC];split
 · exact hr c
 · exact h j c
theorem mj.bR{v:List NQ}{s:jG}{c k:Nat}(h:mj k s.rows):mj k (bR v s c):=by
 unfold Lift.bR;split
 · exact h
 · exact(h.set (h _) _).set (h _) _
theorem Lo.step{v:List NQ}(L:Lo v){m N c k:Nat}{s:jG}(R:sj v m N c s)(hs:mj k s.rows)(hd:ar k s.det)(hk:gS k≤100000000000):
  j6 v s c∧mj (gS k) (dM v s c).rows∧ar (gS k) (dM v s c).det∧(atR v s c<s.rows.length→mj (gS k) (eR v s c)∧ar (gS k) (ay (jw v.length v (pR v s c)))):=by
 have hg:gS k=110*k+129:=rfl;have hk1:=hs.pos;have hl:=R.len;obtain ⟨a1,a2,a3,a4⟩:=iE v s c (by have:=R.cm;omega);by_cases h:atR v s c<s.rows.length
 · obtain ⟨b1,b2,b3⟩:=wX R h;obtain ⟨e1,e2,e3⟩:=za L.V.a R h;have sb:mj k (bR v s c):=hs.bR
   have hp:oh v (pR v s c)≠0:=by
    have h4:=a4 h
    have:bX (bR v s c) s.cols.length c=bX s.rows (atR v s c) c:=by
     unfold bR bX;split
     · rename_i e;rw[e]
     · unfold Cq;rw[gC,if_pos ⟨rfl,by rw[List.length_set];omega⟩]
    rw[pR,this];exact h4
   have se:mj (22*k+25) (eR v s c):=by
    unfold eR;refine(sb.mono (by omega)).set (fun j=>?_) _;by_cases hj:j<((bR v s c).getD s.cols.length []).length
    · rw[qe v _ _ hj];exact(L.div (b3 _ j) (sb _ j) (b3 _ _) (sb _ _) hp (by omega)).2.2.mono (by omega)
    · rw[lN (by rw[qd];omega)];exact bb (by omega)
   have okt: ∀i,xM v ((eR v s c).getD i []) ((eR v s c).getD s.cols.length []) (bX (eR v s c) i c):=fun i j _=>by
    obtain ⟨q1,q2,q3⟩:=L.mul (e3 i c) (se i c) (e3 s.cols.length j) (se s.cols.length j) (by omega);exact⟨q1,(L.sub (e3 i j) (se i j) q2 q3 (by omega)).1⟩
   have sc: ∀i,mj (gS k) (db v (eR v s c) s.cols.length c i):=fun i=>by
    induction i with
    | zero=>exact se.mono (by omega)
    | succ i ih =>
      unfold db;split
      · refine ih.set (fun j=>?_) i;rw[fB v _ _ _ i i (.inl (Nat.le_refl _)),fB v _ _ _ i _ (.inr rfl),vi];by_cases hj:j<((eR v s c).getD i []).length
        · rw[lz v _ _ _ hj];obtain ⟨q1,q2,q3⟩:=L.mul (e3 i c) (se i c) (e3 s.cols.length j) (se s.cols.length j) (by omega);exact(L.sub (e3 i j) (se i j) q2 q3 (by omega)).2.2.mono (by omega)
        · rw[lN (by rw[ly];omega)];exact bb (by omega)
      · exact ih
   obtain ⟨d1,d2,d3⟩:=L.mul R.det hd (b3 s.cols.length c) (sb _ _) (by omega);refine⟨⟨fun j _ _=>L.sg (R.lt j c) (hs j c) (by omega),fun _=>d1,fun _ j hj=>(L.div (b3 _ j) (sb _ j) (b3 _ _) (sb _ _) hp (by omega)).1,fun _ i _ _=>L.sg (e3 i c) (se i c) (by omega),fun _ i _ _ _=>okt i⟩,?_,?_,fun _=>⟨se.mono (by omega),?_⟩⟩
   · unfold dM;rw[if_pos h];exact sc _
   · unfold dM;rw[if_pos h];exact d3.mono (by omega)
   · obtain ⟨i1,i2⟩:=L.inv (b3 s.cols.length c) (sb _ _);exact(aU i1 i2).2.mono (by omega)
 · refine⟨⟨fun j _ _=>L.sg (R.lt j c) (hs j c) (by omega),fun g=>absurd g h,fun g=>absurd g h,fun g=>absurd g h,fun g=>absurd g h⟩,?_,?_,fun g=>absurd g h⟩
   · unfold dM;rw[if_neg h];exact hs.mono (by omega)
   · unfold dM;rw[if_neg h];exact hd.mono (by omega)
theorem Lo.AO{v:List NQ}(L:Lo v){a:bw}{N k:Nat}(hr:cL N a)(hl:pI v.length a)(hs:mj k a): ∀{c:Nat},gI k c≤100000000000→mj (gI k c) (bk v a c).rows∧ar (gI k c) (bk v a c).det
 | 0,_=>⟨hs,hZ (Nat.le_trans su hs.pos)⟩
 | c+1,h=>by
   have h0:=Nat.le_trans (f' (Nat.le_succ c)) h;obtain ⟨h1,h2⟩:=L.AO hr hl hs h0;obtain ⟨_,h3,h4,_⟩:=L.step (fN L.V.a hr hl c) h1 h2 h;exact⟨h3,h4⟩
theorem Lo.red{v:List NQ}(L:Lo v){a:bw}{N k n:Nat}(hr:cL N a)(hl:pI v.length a)(hs:mj k a)(hN:gI k n≤100000000000):
  (∀c,c<n→j6 v (bk v a c) c)∧(∀c,c≤n→mj (gI k n) (bk v a c).rows)∧(∀c,c≤n→ar (gI k n) (bk v a c).det) ∧
  (∀c,c<n→atR v (bk v a c) c<(bk v a c).rows.length→mj (gI k n) (eR v (bk v a c) c))∧(∀c,c<n→atR v (bk v a c) c<(bk v a c).rows.length→ar (gI k n) (ay (jw v.length v (pR v (bk v a c) c)))):=by
 have g:=fun c (hc:c≤n)=>L.AO hr hl hs (Nat.le_trans (f' hc) hN);have s:=fun c (hc:c<n)=>L.step (fN L.V.a hr hl c) (g c (by omega)).1 (g c (by omega)).2 (Nat.le_trans (f' (show c+1≤n from hc)) hN);exact⟨fun c hc=>(s c hc).1,fun c hc=>(g c hc).1.mono (f' hc),fun c hc=>(g c hc).2.mono (f' hc),fun c hc h=>((s c hc).2.2.2 h).1.mono (f' (show c+1≤n from hc)),fun c hc h=>((s c hc).2.2.2 h).2.mono (f' (show c+1≤n from hc))⟩
end Lift
namespace Lift
def fD(v:List NQ)(xs ys:List NQ):Nat→NQ
 | 0=>[]
 | i+1=>vq (fD v xs ys i) (js v (xs.getD i []) (ys.getD i []))
theorem nR{v:List NQ}(V:kl v){xs ys:List NQ}(hx: ∀i,aq v.length (xs.getD i []))(hy: ∀i,aq v.length (ys.getD i [])): ∀n,aq v.length (fD v xs ys n)
 | 0=>bd _
 | n+1=>bW ((nR V hx hy n).plus (jW V (hx n) (hy n)))
theorem wO{v:List NQ}(V:kl v)(F:FV v){xs ys:List NQ}(hx: ∀i,aq v.length (xs.getD i []))(hy: ∀i,aq v.length (ys.getD i [])): ∀n,F.val (fD v xs ys n)=sm n (fun k=>F.val (xs.getD k [])*F.val (ys.getD k []))
 | 0=>F.nil
 | n+1=>by
   show F.val (vq _ _)=sm n _+_;rw[F.add (nR V hx hy n) (jW V (hx n) (hy n)),wO V F hx hy n,F.mul (hx n) (hy n)]
def yT(v:List NQ)(xs ys:List NQ)(n:Nat):Prop:= ∀i,i<n→rn v (xs.getD i []) (ys.getD i [])∧we (fD v xs ys i) (js v (xs.getD i []) (ys.getD i []))
theorem Lo.dot{v:List NQ}(L:Lo v){xs ys:List NQ}{k m:Nat}(hx: ∀i,aq v.length (xs.getD i []))(hy: ∀i,aq v.length (ys.getD i []))(sx: ∀i,ar k (xs.getD i []))(sy: ∀i,ar m (ys.getD i [])){n:Nat}(hn:n≤32)(hk:k+m≤1000000000):
  yT v xs ys n∧ar (n*(2*(k+m)+4)+1) (fD v xs ys n):=by
 obtain ⟨X,hX⟩: ∃X,X=2*(k+m)+4:=⟨_,rfl⟩;rw[← hX]
 have ind: ∀i,i≤n→ar (i*X+1) (fD v xs ys i)∧(i<n→rn v (xs.getD i []) (ys.getD i [])∧we (fD v xs ys i) (js v (xs.getD i []) (ys.getD i []))):=by
  have st: ∀i,i<n→ar (i*X+1) (fD v xs ys i)→(rn v (xs.getD i []) (ys.getD i [])∧we (fD v xs ys i) (js v (xs.getD i []) (ys.getD i [])))∧ar ((i+1)*X+1) (fD v xs ys (i+1)):=fun i hi h=>by
   obtain ⟨a1,a2,a3⟩:=L.mul (hx i) (sx i) (hy i) (sy i) (by omega);have hb:i*X≤32*X:=Nat.mul_le_mul_right _ (by omega);have e:(i+1)*X=i*X+X:=Nat.succ_mul i X;obtain ⟨b1,b2,b3⟩:=L.add (nR L.V.a hx hy i) h a2 a3 (by omega);exact⟨⟨a1,b1⟩,b3.mono (by omega)⟩
  intro i hi
  induction i with
  | zero =>
    have s0:ar (0*X+1) (fD v xs ys 0):=bb (Nat.le_add_left _ _);exact⟨s0,fun h=>(st 0 h s0).1⟩
  | succ i ih =>
    have s1:=(st i (by omega) (ih (by omega)).1).2;exact⟨s1,fun h=>(st (i+1) h s1).1⟩
 exact⟨fun i hi=>(ind i (by omega)).2 hi,(ind n (Nat.le_refl n)).1⟩
def jg(a:bw)(k:Nat):List NQ:=a.map fun r=>r.getD k []
theorem wS(a:bw)(k:Nat):(jg a k).length=a.length:=List.length_map ..
theorem wT(a:bw)(k i:Nat):(jg a k).getD i []=bX a i k:=zd a k i
def fo(v:List NQ)(a b:bw):bw:=a.map fun r=>(List.range (ah b)).map fun k=>fD v r (jg b k) r.length
theorem oB(v:List NQ)(a b:bw):(fo v a b).length=a.length:=List.length_map ..
theorem oA(v:List NQ)(a b:bw){i:Nat}(h:i<a.length):(fo v a b).getD i []=(List.range (ah b)).map fun k=>fD v (a.getD i []) (jg b k) (a.getD i []).length:=by
 unfold fo;rw[List.getD_eq_getElem?_getD,List.getElem?_map,List.getD_eq_getElem?_getD,List.getElem?_eq_getElem h];rfl
theorem AU(v:List NQ)(a b:bw){i k:Nat}(h:i<a.length)(hk:k<ah b):bX (fo v a b) i k=fD v (a.getD i []) (jg b k) (a.getD i []).length:=by
 unfold bX;rw[oA v a b h,List.getD_eq_getElem?_getD,List.getElem?_map,List.getElem?_range hk];rfl
theorem xK(v:List NQ)(a b:bw):cL (ah b) (fo v a b):=fun i hi=>by
 rw[oB] at hi;rw[oA v a b hi,List.length_map,List.length_range]
def cH(a:bw)(b:List NQ)(n:Nat):bw:=(List.range n).map fun i=>a.getD i []++[b.getD i []]
theorem dD(a:bw)(b:List NQ)(n:Nat):(cH a b n).length=n:=by unfold cH;rw[List.length_map,List.length_range]
theorem tf(a:bw)(b:List NQ){n i:Nat}(h:i<n):(cH a b n).getD i []=a.getD i []++[b.getD i []]:=by
 unfold cH;rw[List.getD_eq_getElem?_getD,List.getElem?_map,List.getElem?_range h];rfl
theorem qv(a:bw)(b:List NQ)(n:Nat):cH a b (n+1)=cH a b n++[a.getD n []++[b.getD n []]]:=by
 unfold cH;rw[List.range_succ,List.map_append];rfl
theorem dh{a:bw}{N:Nat}(h:cL N a)(b:List NQ):cL (N+1) (cH a b a.length):=fun i hi=>by
 rw[dD] at hi;rw[tf a b hi,List.length_append,h i hi];rfl
theorem mX{a:bw}{N:Nat}(h:cL N a)(b:List NQ){i k:Nat}(hi:i<a.length):bX (cH a b a.length) i k=if k<N then bX a i k else if k=N then b.getD i [] else []:=by
 have hl:=h i hi;unfold bX;rw[tf a b hi,List.getD_eq_getElem?_getD,List.getElem?_append];by_cases h1:k<N
 · rw[if_pos (by omega),if_pos h1,List.getD_eq_getElem?_getD (l:=a.getD i [])]
 · rw[if_neg (by omega),if_neg h1,hl];by_cases h2:k=N
   · rw[if_pos h2,h2,Nat.sub_self];rfl
   · rw[if_neg h2];obtain ⟨j,hj⟩: ∃j,k-N=j+1:=⟨k-N-1,by omega⟩;rw[hj];rfl
theorem th{p:NQ→Prop}(h0:p []){a:bw}{N:Nat}(h:cL N a){b:List NQ}(ha: ∀i k,p (bX a i k))(hb: ∀i,p (b.getD i [])): ∀i k,p (bX (cH a b a.length) i k):=fun i k=>by
 by_cases hi:i<a.length
 · rw[mX h b hi];split
   · exact ha i k
   · split
     · exact hb i
     · exact h0
 · unfold bX;rw[lO (by rw[dD];omega)];exact h0
def eF(v:List NQ)(a:bw)(b:List NQ):jG:=bk v (cH a b a.length) (ah a)
def kG(v:List NQ)(a:bw)(b:List NQ):List NQ:=(List.range (ah a)).map fun i=>bX (eF v a b).rows i (ah a)
theorem qF(v:List NQ)(a:bw)(b:List NQ):(kG v a b).length=ah a:=by unfold kG;rw[List.length_map,List.length_range]
theorem qG(v:List NQ)(a:bw)(b:List NQ){i:Nat}(h:i<ah a):(kG v a b).getD i []=bX (eF v a b).rows i (ah a):=by
 unfold kG;rw[List.getD_eq_getElem?_getD,List.getElem?_map,List.getElem?_range h];rfl
theorem Au{p:NQ→Prop}(h0:p []){v:List NQ}{a:bw}{b:List NQ}(h: ∀i,p (bX (eF v a b).rows i (ah a))): ∀i,p ((kG v a b).getD i []):=fun i=>by
 by_cases hi:i<ah a
 · rw[qG v a b hi];exact h i
 · rw[lN (by rw[qF];omega)];exact h0
theorem ui{m0:Nat}{v:List NQ}(_:nV m0 v){a:bw}(G:uf v a){b:List NQ}(hb: ∀i,aq v.length (b.getD i [])):pI v.length (cH a b a.length):=th (p:=aq v.length) (bd _) G.r G.lt hb
theorem td{m0:Nat}{v:List NQ}(_:nV m0 v){a:bw}(G:uf v a){b:List NQ}(_: ∀i,aq v.length (b.getD i []))(h0:0<a.length):ah (cH a b a.length)=ah a+1:=dh G.r b 0 (by rw[dD];exact h0)
section
variable {m0:Nat} {v:List NQ} (V:nV m0 v) {a:bw} (G:uf v a) {b:List NQ} (hb: ∀i,aq v.length (b.getD i []))
include V G hb
theorem vG:(eF v a b).cols.length=(ot v a).cols.length:=by
 obtain ⟨F⟩:=DJ V;have I1:=uA V.a F (dh G.r b) (ui V G hb) (ah a) (Nat.le_succ _);have I2:=uA V.a F G.r G.lt (ah a) (Nat.le_refl _);rw[dD] at I1
 have key: ∀s,z7 a.length (ah a) s (vM F (cH a b a.length))↔z7 a.length (ah a) s (vM F a):=fun s=>by
  have e: ∀i k,i<a.length→k<ah a→vM F (cH a b a.length) i k=vM F a i k:=fun i k hi hk=>by
   unfold vM;rw[mX G.r b hi,if_pos hk]
  exact⟨fun h=>h.congr e,fun h=>h.congr fun i k hi hk=>(e i k hi hk).symm⟩
 have h1:=fun s=>(I1.fac (s:=s)).symm.trans ((key s).trans I2.fac);exact Nat.le_antisymm ((h1 _).2 (Nat.le_refl _)) ((h1 _).1 (Nat.le_refl _))
theorem zo(h0:0<a.length):(ot v (cH a b a.length)).cols.length=if atR v (eF v a b) (ah a)<(eF v a b).rows.length then (ot v a).cols.length+1 else (ot v a).cols.length:=by
 rw[← vG V G hb];unfold ot;rw[td V G hb h0];show (dM v (eF v a b) (ah a)).cols.length=_;unfold dM;split
 · show (_++[_]).length=_;rw[List.length_append];rfl
 · rfl
theorem zx(F:FV v)(h1: ¬atR v (eF v a b) (ah a)<(eF v a b).rows.length)(h2:(eF v a b).cols.length=ah a){i:Nat}(hi:i<a.length):
  F.val (b.getD i [])=sm (ah a) (fun k=>F.val (bX a i k)*F.val ((kG v a b).getD k [])):=by
 have I:=uA V.a F (dh G.r b) (ui V G hb) (ah a+1) (Nat.le_refl _)
 have es:bk v (cH a b a.length) (ah a+1)=eF v a b:=by
  show dM v (eF v a b) (ah a)=_;unfold dM;exact if_neg h1
 rw[es,dD] at I;have h:=I.by (Nat.lt_succ_self (ah a)) hi
 have hc: ∀p,p<ah a→(eF v a b).cols.getD p 0=p:=by
  have lt:=yP v (cH a b a.length) (ah a)
  have l2: ∀p,p<ah a→(eF v a b).cols.getD p 0<ah a:=fun p hp=>by
   have hp':p<(eF v a b).cols.length:=by omega
   rw[List.getD_eq_getElem?_getD,List.getElem?_eq_getElem hp'];exact lt _ (List.getElem_mem hp')
  have up: ∀p,p<ah a→p≤(eF v a b).cols.getD p 0:=fun p=>by
   induction p with
   | zero=>exact fun _=>Nat.zero_le _
   | succ p ih =>
     intro hp;have:=I.asc p (p+1) (Nat.lt_succ_self p) (by omega);have:=ih (by omega);omega
  have dn: ∀d p,p+d+1=ah a→(eF v a b).cols.getD p 0+d<ah a:=fun d=>by
   induction d with
   | zero=>exact fun p hp=>l2 p (by omega)
   | succ d ih =>
     intro p hp;have:=I.asc p (p+1) (Nat.lt_succ_self p) (by omega);have:=ih (p+1) (by omega);omega
  intro p hp;have:=up p hp;have:=dn (ah a-1-p) p (by omega);omega
 rw[h2] at h;unfold vM at h;rw[mX G.r b hi,if_neg (Nat.lt_irrefl _),if_pos rfl] at h;rw[h];refine dv fun k hk=>?_;rw[hc k hk,mX G.r b hi,if_pos hk,qG v a b hk]
end
end Lift
namespace Lift
open Go Go.Proofs
abbrev vr(l:List Nat):D:= .sl 1 (l.map (fun c:Nat=>dI c))
theorem Bu{l:List Nat}{i:Nat}(h:i<l.length):(l.map (fun c:Nat=>dI c))[i]?=some (dI (l.getD i 0)):=by simp[h]
def Ch(l:List Nat)(x:Nat)(i:Nat):Bool:=decide ((x:Int)=(l.getD i 0:Nat))
def FT(l:List Nat)(x:Nat):Int:=if gh (Ch l x) (l.length-0) 0<l.length then (gh (Ch l x) (l.length-0) 0:Nat) else -1
theorem C3(l:List Nat)(x:Nat):decide (0≤FT l x)=l.contains x:=by
 obtain ⟨h1,h2,h3,h4⟩:=oV (g:=Ch l x) (m:=l.length-0) (i:=0);unfold FT;by_cases h:gh (Ch l x) (l.length-0) 0<l.length
 · rw[if_pos h,decide_eq_true (Int.natCast_nonneg _)];have:=h4 (by omega)
   have e:x=l.getD (gh (Ch l x) (l.length-0) 0) 0:=by
    have:=of_decide_eq_true this;omega
   rw[e,List.getD_eq_getElem?_getD,List.getElem?_eq_getElem h];exact(List.contains_iff_mem.2 (List.getElem_mem h)).symm
 · rw[if_neg h,decide_eq_false (by decide)];refine(Bool.eq_false_iff.2 fun hc=>?_).symm;have hm:=List.contains_iff_mem.1 hc;obtain ⟨j,hj,e⟩:=List.getElem_of_mem hm;have:=h3 j (Nat.zero_le _) (by omega);unfold Ch at this;rw[List.getD_eq_getElem?_getD,List.getElem?_eq_getElem hj] at this;have:=of_decide_eq_false this;exact this (by show (x:Int)=((l[j]:Nat):Int);rw[e])
theorem oc(bs:List Nat)(hl:bs.length≤1000000000000000)(x:Nat):Pure Tryz.prog 93 [vr bs,dI x] (dI (FT bs x)):=by
 refine qJ 19 Tryz.func93 rfl rfl rfl rfl (by kernel_rfl) (fun B F0 w0=>?_);unfold FT;generalize hE:gh (Ch bs x) (bs.length-0) 0=E;refine qX 1 rfl ?_;refine qI ?_;refine qX 3 rfl ?_;rw[List.length_map];refine ab.nil ?_;refine AW.block ?_;refine AW.aE [0,1,7,8] (fun i:Nat=>[(0,.d (vr bs)),(1,.d (dI x)),(7,.d (dI bs.length)),(8,.d (dI i))]) (fun i=>i≤bs.length∧gh (Ch bs x) (bs.length-i) i=E) (fun i=>bs.length-i) 0 rfl ⟨Nat.zero_le _,hE⟩ (fun i hi=>?_);obtain ⟨hi,hE⟩:=hi
 · skip
   refine qX 1 rfl ?_;refine qI ?_;refine AW.cond rfl (fun h=>?_) (fun h=>?_)
   · have hin:i<bs.length:=by have:=of_decide_eq_true h;omega
     have hhit:=rL (g:=Ch bs x) hin;have hmiss:=oU (g:=Ch bs x) hin;refine AW.skip (AW.seq (AW.block ?_));refine qX 2 rfl ?_;refine qK 3 rfl ?_;refine ab.idx tok (dI (bs.getD i 0)) rfl rfl rfl rfl (Int.natCast_nonneg i) (Bu hin) ?_;refine qU 2 rfl ?_;refine ab.nil ?_;refine AW.cond rfl (fun h=>?_) (fun h=>?_)
     · have e:E=i:=hE.symm.trans (hhit h);rw[e,if_pos hin];refine qX 2 rfl ?_;exact qN rfl
     · skip
       refine AW.skip ?_;refine qT 1 rfl ?_;rw[aC (x:=(i:Int)+1) (by omega) (by omega)];refine qU 1 rfl ?_;refine ab.nil ?_;exact⟨i+1,rfl,⟨hin,by rw[← hmiss h];exact hE⟩,by omega⟩
   have hin: ¬i<bs.length:=by have:=of_decide_eq_false h;omega
   have e:E=i:=by rw[← hE,rM hin]
   rw[e,if_neg hin];refine AW.exit ?_;refine qX 1 rfl ?_;exact qN rfl
theorem lT(bs:List Nat)(hl:bs.length≤1000000000000000)(x:Nat):Pure Tryz.prog 50 [vr bs,dI x] (dB (bs.contains x)):=by
 refine qJ 9 Tryz.func50 rfl rfl rfl rfl (by kernel_rfl) (fun B F0 w0=>?_);rw[← C3];refine qX 1 rfl ?_;refine qK 2 rfl ?_;refine ab.call tok rfl rfl rfl rfl (oc bs hl x) ?_;refine qU 2 rfl ?_;exact qN rfl
theorem mw{α:Type}{d:α}{l:List α}{i:Nat}(h:i<l.length):l.take (i+1)=l.take i++[l.getD i d]:=by
 rw[List.take_succ_eq_append_getElem h,List.getD_eq_getElem?_getD,List.getElem?_eq_getElem h];rfl
theorem ju(a:bw)(k:Nat)(ha:a.length≤1000000)(hr: ∀i,i<a.length→k<(a.getD i []).length):Pure Tryz.prog 59 [cZ a,dI k] (bu (jg a k)):=by
 refine qJ 23 Tryz.func59 rfl rfl rfl rfl (by kernel_rfl) (fun B F0 w0=>?_);have hc:=wS a k
 have hts: ∀i,i<a.length→(jg a k).take (i+1)=(jg a k).take i++[(a.getD i []).getD k []]:=fun i hi=>by
  rw[mw (d:=[]) (by omega),wT];rfl
 have hta:(jg a k).take a.length=jg a k:=List.take_of_length_le (by omega);generalize jg a k=zs at *;refine qX 1 rfl ?_;refine qK 1 rfl ?_;refine qI ?_;refine qX 3 rfl ?_;rw[List.length_map];refine ab.nil ?_;refine AW.block ?_;refine AW.aE [0,1,5,8,9,10] (fun i:Nat=>[(0,.d (cZ a)),(1,.d (dI k)),(5,.ow 53 ((zs.take i).map af)),(8,.d (cZ a)),(9,.d (dI a.length)),(10,.d (dI i))]) (fun i=>i≤a.length) (fun i=>a.length-i) 0 rfl (Nat.zero_le _) (fun i hi=>?_)
 · show AW _ _ _ _ _ _ _ [(0,.d (cZ a)),(1,.d (dI k)),(5,.ow 53 ((zs.take i).map af)),(8,.d (cZ a)),(9,.d (dI a.length)),(10,.d (dI i))];refine qX 1 rfl ?_;refine qI ?_;refine AW.cond rfl (fun h=>?_) (fun h=>?_)
   · have hii:i<a.length:=by have:=of_decide_eq_true h;omega
     have g1:=getM bu (l:=a) (i:=i) hii;have g2:=getM af (l:=a.getD i []) (i:=k) (hr i hii);have hts:=hts i hii;generalize a.getD i []=r at g1 g2 hts;generalize r.getD k []=x at g2 hts;refine AW.skip (AW.seq (AW.block (AW.seq (AW.region ?_))));refine ab.idx tok (bu r) rfl rfl rfl rfl (Int.natCast_nonneg i) g1 ?_;refine qU 2 rfl ?_;refine ab.nil ?_;refine qT 3 rfl ?_;refine ab.idx tok (af x) rfl rfl rfl rfl (Int.natCast_nonneg k) g2 ?_;refine qU 1 rfl ?_;refine ab.e7 tok rfl rfl rfl rfl rfl ?_;refine ab.gP tok rfl rfl rfl rfl rfl rfl (by rw[List.length_map,List.length_take];show (_+1)*24≤_;omega) (by rw[List.length_map,List.length_take];show _+1≤_;omega) ?_;refine qU 1 rfl ?_;refine ab.nil ?_;refine qT 1 rfl ?_;rw[aC (x:=(i:Int)+1) (by omega) (by omega)];refine qU 1 rfl ?_;refine ab.nil ?_;exact⟨i+1,by rw[hts,List.map_append];rfl,hii,by omega⟩
   have hii:i=a.length:=by have:=of_decide_eq_false h;omega
   subst hii;rw[hta];refine AW.exit (AW.seq (AW.region ?_));refine ab.fh tok 5 rfl rfl ?_;refine qU 2 rfl ?_;exact qN rfl
theorem zt(a:bw){k:Nat}(h:k<ah a):(dL a).getD k []=jg a k:=n8 a h
theorem oJ(a:bw)(ha:a.length≤1000000)(hc:ah a≤1000000)(hr:cL (ah a) a):Pure Tryz.prog 92 [cZ a] (cZ (dL a)):=by
 refine qJ 18 Tryz.func92 rfl rfl rfl rfl (by kernel_rfl) (fun B F0 w0=>?_);have hz:=lv a
 have hts: ∀k,k<ah a→(dL a).take (k+1)=(dL a).take k++[jg a k]:=fun k hk=>by
  rw[mw (d:=[]) (by omega),zt a hk]
 have hta:(dL a).take (ah a)=dL a:=List.take_of_length_le (by omega);have cc:=fun k (hk:k<ah a)=>ju a k ha (fun i hi=>by rw[hr i hi];exact hk);generalize dL a=zs at *;refine qX 1 rfl ?_;refine qK 1 rfl ?_;refine qI ?_;refine qX 1 rfl ?_;refine ab.call tok rfl rfl rfl rfl (bQ a) ?_;refine qU 1 rfl ?_;refine ab.nil ?_;refine AW.block ?_;refine AW.aE [0,3,6,7] (fun i:Nat=>[(0,.d (cZ a)),(3,.ow 22 ((zs.take i).map bu)),(6,.d (dI (ah a))),(7,.d (dI i))]) (fun i=>i≤ah a) (fun i=>ah a-i) 0 rfl (Nat.zero_le _) (fun i hi=>?_)
 · show AW _ _ _ _ _ _ _ [(0,.d (cZ a)),(3,.ow 22 ((zs.take i).map bu)),(6,.d (dI (ah a))),(7,.d (dI i))];refine qX 1 rfl ?_;refine qI ?_;refine AW.cond rfl (fun h=>?_) (fun h=>?_)
   · have hii:i<ah a:=by have:=of_decide_eq_true h;omega
     have cc:=cc i hii;have hts:=hts i hii;generalize jg a i=z at cc hts;refine AW.skip (AW.seq (AW.block ?_));refine qX 2 rfl ?_;refine ab.nil ?_;refine qT 3 rfl ?_;refine ab.call tok rfl rfl rfl rfl cc ?_;refine ab.e7 tok rfl rfl rfl rfl rfl ?_;refine ab.gP tok rfl rfl rfl rfl rfl rfl (by rw[List.length_map,List.length_take];show (_+1)*24≤_;omega) (by rw[List.length_map,List.length_take];show _+1≤_;omega) ?_;refine qU 1 rfl ?_;refine ab.nil ?_;refine qT 1 rfl ?_;rw[aC (x:=(i:Int)+1) (by omega) (by omega)];refine qU 1 rfl ?_;refine ab.nil ?_;exact⟨i+1,by rw[hts,List.map_append];rfl,hii,by omega⟩
   have hii:i=ah a:=by have:=of_decide_eq_false h;omega
   subst hii;rw[hta];refine AW.exit (AW.seq (AW.region ?_));refine ab.fh tok 3 rfl rfl ?_;refine qU 2 rfl ?_;exact qN rfl
theorem kp{v:List NQ}{a:bw}(V:kl v)(G:uf v a)(ok: ∀c,c<a.length→j6 v (bk v (dL a) c) c):Pure Tryz.prog 49 [bC v,cZ a] (.tu [vr (bk v (dL a) a.length).cols,ao]):=by
 refine qJ 20 Tryz.func49 rfl rfl rfl rfl (by kernel_rfl) (fun B F0 w0=>?_);have hGl:=G.l;have hGc:=G.c;have ct:=oJ a (by omega) (by omega) G.r;have cr:=fr V (most:=a.length) (by rw[lv];omega) (by omega) (Nat.le_refl _) (mr a) (qA G.lt) ok;generalize bk v (dL a) a.length=s at *;generalize dL a=z at *;refine qX 3 rfl ?_;refine qI ?_;refine AW.nQ tok aM [(8,true),(1,false),(1,true)] 10 [6] (by kernel_rfl) ⟨rfl,?_⟩;refine qP 2 rfl ?_;refine ae.call tok rfl rfl rfl rfl rfl ct ?_;refine qP 2 rfl ?_;rw[List.length_map];refine ae.call tok rfl rfl rfl rfl rfl cr ?_;refine qP 2 rfl ?_;refine ae.nil ⟨rfl,?_⟩;refine qP 1 rfl ?_;refine ae.nil ⟨rfl,?_⟩;refine qP 1 rfl ?_;refine ae.nil ⟨_,nY.cons (.bx rfl) (nY.nil),?_⟩;refine qU 1 rfl ?_;refine qK 5 rfl ?_;exact qN rfl
theorem lV{m:Nat}{v:List NQ}{a:bw}(V:nV m v)(hk:ny v.length m)(G:uf v a)(hs: ∀i k,ar m (bX a i k))(ok: ∀c,c<a.length→j6 v (bk v (dL a) c) c):Pure Tryz.prog 15 [bC v,cZ a] (.tu [vr (CL v a),ao]):=by
 refine qJ 41 Tryz.func15 rfl rfl rfl rfl (by kernel_rfl) (fun B F0 w0=>?_);obtain ⟨r1,r2⟩:=G.raw V hs;have cc:=gz (V.s hk) r1;rw[r2,mA,uB] at cc;have hGl:=G.l;have ci:=kp V.a G ok;have hcl:=(fN V.a (mr a) (qA G.lt) a.length).cl;unfold CL DK;generalize bk v (dL a) a.length=s at *
 have hf: ∀i,((List.range (i+1)).filter fun i=> !s.cols.contains i)=((List.range i).filter fun i=> !s.cols.contains i)++(if s.cols.contains i then [] else [i]):=fun i=>by
  rw[List.range_succ,List.filter_append]
  congr 1
  by_cases h:s.cols.contains i=true
  · rw[if_pos h,List.filter_cons_of_neg (by rw[h];simp)];rfl
  · rw[if_neg h,List.filter_cons_of_pos (by simp only[Bool.not_eq_true] at h;rw[h];rfl)];rfl
 have hfl: ∀i,((List.range i).filter fun i=> !s.cols.contains i).length≤i:=fun i=>Nat.le_trans (List.length_filter_le ..) (by rw[List.length_range];exact Nat.le_refl _);refine qX 3 rfl ?_;refine qI ?_;refine qX 2 rfl ?_;refine ab.call tok rfl rfl rfl rfl cc ?_;refine qU 1 rfl ?_;refine qK 1 rfl ?_;refine ab.err tok rfl rfl rfl rfl rfl ?_;refine ab.nil ?_;refine AW.au rfl ?_
 · skip
   refine AW.skip ?_;refine qX 2 rfl ?_;refine ab.call tok rfl rfl rfl rfl ci ?_;refine qU 5 rfl ?_;refine qI ?_;refine qX 1 rfl ?_;refine ab.err tok rfl rfl rfl rfl rfl ?_;refine ab.nil ?_;refine AW.au rfl ?_
   · skip
     refine AW.skip ?_;refine qX 1 rfl ?_;refine qI ?_;refine qX 2 rfl ?_;rw[List.length_map];refine qU 1 rfl ?_;refine ab.nil ?_;refine AW.block ?_;refine AW.aE [7,9,27,28] (fun i:Nat=>[(7,.d (vr s.cols)),(9,.ow 3 (((List.range i).filter fun i=> !s.cols.contains i).map (fun c:Nat=>dI c))),(27,.d (dI a.length)),(28,.d (dI i))]) (fun i=>i≤a.length) (fun i=>a.length-i) 0 rfl (Nat.zero_le _) (fun i hi=>?_)
     · show AW _ _ _ _ _ _ _ [(7,.d (vr s.cols)),(9,.ow 3 (((List.range i).filter fun i=> !s.cols.contains i).map (fun c:Nat=>dI c))),(27,.d (dI a.length)),(28,.d (dI i))];refine qX 1 rfl ?_;refine qI ?_;refine AW.cond rfl (fun h=>?_) (fun h=>?_)
       · have hii:i<a.length:=by have:=of_decide_eq_true h;omega
         have hf:=hf i;have hfl:=hfl i;have ch:=lT s.cols (by omega) i;generalize s.cols.contains i=b at hf ch;refine AW.skip (AW.seq (AW.block ?_));refine qX 2 rfl ?_;refine qK 2 rfl ?_;refine ab.call tok rfl rfl rfl rfl ch ?_;refine qU 1 rfl ?_;refine ab.nil ?_;refine AW.cond rfl (fun h=>?_) (fun h=>?_)
         · rw[show b=false by cases b;rfl;cases h] at hf;refine qT 2 rfl ?_;refine ab.e7 tok rfl rfl rfl rfl rfl ?_;refine ab.gP tok rfl rfl rfl rfl rfl rfl (by rw[List.length_map];show (_+1)*8≤_;omega) (by rw[List.length_map];show _+1≤_;omega) ?_;refine qU 1 rfl ?_;refine ab.nil ?_;refine qT 1 rfl ?_;rw[aC (x:=(i:Int)+1) (by omega) (by omega)];refine qU 1 rfl ?_;refine ab.nil ?_;exact⟨i+1,by rw[hf,if_neg (by decide),List.map_append];rfl,hii,by omega⟩
         · rw[show b=true by cases b;cases h;rfl] at hf;refine AW.skip ?_;refine qT 1 rfl ?_;rw[aC (x:=(i:Int)+1) (by omega) (by omega)];refine qU 1 rfl ?_;refine ab.nil ?_;exact⟨i+1,by rw[hf,if_pos rfl,List.append_nil];rfl,hii,by omega⟩
       have hii:i=a.length:=by have:=of_decide_eq_false h;omega
       subst hii;refine AW.exit (AW.seq (AW.region ?_));refine ab.fh tok 9 rfl rfl ?_;refine qU 3 rfl ?_;exact qN rfl
end Lift
namespace Lift
open Go Go.Proofs
section
variable {P:Program} {T:Ty} {B:Nat} {F0:Nat→Prop} {w0:bY} {n:Nat} {σ:St} {all:Array Oper} {rest:List Oper} {o:Oper} {d:Nat} {K:St→Prop}
end
end Lift
namespace Lift
open Go Go.Proofs
def yh(v:List NQ)(a:bw):NQ:=if (bk v a a.length).cols.length<a.length then [] else if (bk v a a.length).sg<0 then El (bk v a a.length).det else (bk v a a.length).det
theorem sQ{v:List NQ}{a:bw}(V:kl v)(ha:a.length≤1000000)(hr:cL a.length a)(hl:pI v.length a)(ok: ∀c,c<a.length→j6 v (bk v a c) c)(hd:kv (bk v a a.length).det):Pure Tryz.prog 60 [bC v,cZ a] (.tu [af (yh v a),ao]):=by
 refine qJ 38 Tryz.func60 rfl rfl rfl rfl (by kernel_rfl) (fun B F0 w0=>?_);have cr:=fr V (most:=a.length) ha ha (Nat.le_refl _) hr hl ok;have R:=fN V hr hl a.length;have cn:=xi V R.det hd;have hcm:=R.cm;unfold yh;generalize bk v a a.length=s at *;obtain ⟨rows,cols,sg,det⟩:=s;clear R
 dsimp only at hcm cn ⊢
 change Pure _ _ _ (.tu [.ag [cZ rows,vr cols,dI sg,af det],ao]) at cr;refine qX 3 rfl ?_;refine qK 4 rfl ?_;rw[List.length_map];refine ab.call tok rfl rfl rfl rfl cr ?_;refine qU 6 rfl ?_;refine qI ?_;refine qX 1 rfl ?_;refine ab.err tok rfl rfl rfl rfl rfl ?_;refine qU 3 rfl ?_;refine qU 1 rfl ?_;rw[List.length_map];refine qU 2 rfl ?_;rw[List.length_map];refine qU 2 rfl ?_;refine ab.nil ?_;refine AW.cond rfl (fun h=>?_) (fun h=>?_)
 · have hc:cols.length<a.length:=by have:=of_decide_eq_true h;omega
   rw[if_pos hc];refine qX 3 rfl ?_;exact qN rfl
 · have hc: ¬cols.length<a.length:=by have:=of_decide_eq_false h;omega
   rw[if_neg hc];refine AW.skip (AW.seq ?_);refine qX 3 rfl ?_;refine ab.nil ?_;refine AW.cond rfl (fun h=>?_) (fun h=>?_)
   · have hs:sg<0:=of_decide_eq_true h;rw[if_pos hs];refine qX 3 rfl ?_;refine ab.call tok rfl rfl rfl rfl cn ?_;refine qU 4 rfl ?_;exact qN rfl
   · have hs: ¬sg<0:=of_decide_eq_false h;rw[if_neg hs];refine AW.skip ?_;refine qX 4 rfl ?_;exact qN rfl
theorem sS{v:List NQ}{a:bw}(cc:Pure Tryz.prog 20 [bC v,cZ a] ao)(hsq:ah a=a.length)(cd:Pure Tryz.prog 60 [bC v,cZ a] (.tu [af (yh v a),ao])):Pure Tryz.prog 27 [bC v,cZ a] (.tu [af (yh v a),ao]):=by
 refine qJ 24 Tryz.func27 rfl rfl rfl rfl (by kernel_rfl) (fun B F0 w0=>?_);generalize yh v a=d at *;refine qX 3 rfl ?_;refine qI ?_;refine qX 2 rfl ?_;refine ab.call tok rfl rfl rfl rfl cc ?_;refine qU 1 rfl ?_;refine qK 1 rfl ?_;refine ab.err tok rfl rfl rfl rfl rfl ?_;refine ab.nil ?_;refine AW.au rfl ?_
 · skip
   refine AW.skip (AW.seq ?_);refine qX 1 rfl ?_;refine ab.call tok rfl rfl rfl rfl (bQ a) ?_;refine qU 2 rfl ?_;rw[List.length_map];refine qU 1 rfl ?_;rw[hsq,bne_eq_false_iff_eq.2 rfl];refine ab.nil ?_;refine AW.au rfl ?_
   · skip
     refine AW.skip ?_;refine qX 2 rfl ?_;refine ab.call tok rfl rfl rfl rfl cd ?_;refine qU 4 rfl ?_;exact qN rfl
theorem sP{v:List NQ}{xs ys:List NQ}(V:kl v)(hx: ∀i,aq v.length (xs.getD i []))(hy: ∀i,aq v.length (ys.getD i []))(hl:xs.length≤ys.length)(hl1:xs.length≤1000000)(ok:yT v xs ys xs.length):Pure Tryz.prog 58 [bC v,bu xs,bu ys] (.tu [af (fD v xs ys xs.length),ao]):=by
 refine qJ 45 Tryz.func58 rfl rfl rfl rfl (by kernel_rfl) (fun B F0 w0=>?_);have h0:fD v xs ys 0=[]:=rfl;have hs: ∀i,fD v xs ys (i+1)=vq (fD v xs ys i) (js v (xs.getD i []) (ys.getD i [])):=fun i=>rfl;have cm:=fun i (hi:i<xs.length)=>mu V (hx i) (hy i) (ok i hi).1;have ca:=fun i (hi:i<xs.length)=>xm V (nR V hx hy i) (jW V (hx i) (hy i)) (ok i hi).2;clear ok;generalize fD v xs ys=f at *;refine qX 3 rfl ?_;refine qK 1 rfl ?_;refine qI (AW.seq (AW.region ?_));refine ab.fh tok 8 rfl rfl ?_;refine qU 2 rfl ?_;rw[List.length_map];refine qU 1 rfl ?_;refine ab.nil ?_;refine AW.block ?_;refine AW.aE [1,2,3,8,13,14] (fun i:Nat=>[(1,.d (bu xs)),(2,.d (bu ys)),(3,.bx [.sl 1 (v.map af)]),(8,.d (af (f i))),(13,.d (dI xs.length)),(14,.d (dI i))]) (fun i=>i≤xs.length) (fun i=>xs.length-i) 0 (by rw[h0];rfl) (Nat.zero_le _) (fun i hi=>?_)
 · show AW _ _ _ _ _ _ _ [(1,.d (bu xs)),(2,.d (bu ys)),(3,.bx [.sl 1 (v.map af)]),(8,.d (af (f i))),(13,.d (dI xs.length)),(14,.d (dI i))];refine qX 1 rfl ?_;refine qI ?_;refine AW.cond rfl (fun h=>?_) (fun h=>?_)
   · have hii:i<xs.length:=by have:=of_decide_eq_true h;omega
     have gx:=getM af (l:=xs) (i:=i) hii;have gy:=getM af (l:=ys) (i:=i) (by omega);have cm:=cm i hii;have ca:=ca i hii;have hs:=hs i;generalize xs.getD i []=x at gx cm ca hs;generalize ys.getD i []=y at gy cm ca hs;generalize js v x y=p at *;refine AW.skip (AW.seq (AW.block ?_));refine qX 2 rfl ?_;refine qI ?_;refine AW.draw aM 14 (by kernel_rfl) ?_;refine qP 3 rfl ?_;refine ae.idx tok (af x) rfl rfl rfl rfl rfl (Int.natCast_nonneg i) gx ?_;refine qP 3 rfl ?_;refine ae.idx tok (af y) rfl rfl rfl rfl rfl (Int.natCast_nonneg i) gy ?_;refine qP 1 rfl ?_;refine ae.call tok rfl rfl rfl rfl rfl cm ?_;refine qP 4 rfl ?_;refine ae.nil ?_;refine qU 1 rfl ?_;refine qI ?_;refine qX 1 rfl ?_;refine ab.err tok rfl rfl rfl rfl rfl ?_;refine ab.nil ?_;refine AW.au rfl ?_
     · skip
       refine AW.skip ?_;refine qX 3 rfl ?_;refine ab.call tok rfl rfl rfl rfl ca ?_;refine qU 5 rfl ?_;refine qK 1 rfl ?_;refine ab.err tok rfl rfl rfl rfl rfl ?_;refine ab.nil ?_;refine AW.au rfl ?_
       · skip
         refine AW.skip ?_;refine qT 1 rfl ?_;rw[aC (x:=(i:Int)+1) (by omega) (by omega)];refine qU 1 rfl ?_;refine ab.nil ?_;exact⟨i+1,by rw[hs];rfl,hii,by omega⟩
   have hii:i=xs.length:=by have:=of_decide_eq_false h;omega
   subst hii;refine AW.exit ?_;refine qX 3 rfl ?_;exact qN rfl
theorem sR{v:List NQ}{a b:bw}(V:kl v)(cc:Pure Tryz.prog 20 [bC v,cZ a] ao)(cb:Pure Tryz.prog 55 [bC v,cZ b] ao)(ha:a.length≤1000000)(hra:cL (ah a) a)(hla:pI v.length a)(hc:ah a≤1000000)(hb:b.length=ah a)(hrb:cL (ah b) b)(hcb:ah b≤1000000)(hlb:pI v.length b)
  (ok: ∀i k,i<a.length→k<ah b→yT v (a.getD i []) (jg b k) (ah a)):Pure Tryz.prog 26 [bC v,cZ a,cZ b] (.tu [cZ (fo v a b),ao]):=by
 refine qJ 69 Tryz.func26 rfl rfl rfl rfl (by kernel_rfl) (fun B F0 w0=>?_);have hz:=oB v a b;have hzr:=xK v a b;have cd:=fun i k (hi:i<a.length) (hk:k<ah b)=>sP V (hla i) (fun j=>by rw[wT];exact hlb j k) (by rw[hra i hi,wS];omega) (by rw[hra i hi];exact hc) (by rw[hra i hi];exact ok i k hi hk);have cl:=fun k (hk:k<ah b)=>ju b k (by omega) (fun j hj=>by rw[hrb j hj];exact hk);have hts: ∀i,i<a.length→(fo v a b).take (i+1)=(fo v a b).take i++[(fo v a b).getD i []]:=fun i hi=>mw (by omega)
 have htr: ∀i k,i<a.length→k<ah b→((fo v a b).getD i []).take (k+1)=((fo v a b).getD i []).take k++[fD v (a.getD i []) (jg b k) (a.getD i []).length]:=fun i k hi hk=>by
  rw[mw (d:=[]) (by rw[hzr i (by omega)];exact hk),← AU v a b hi hk];rfl
 have hta:(fo v a b).take a.length=fo v a b:=List.take_of_length_le (by omega);have hra': ∀i,i<a.length→((fo v a b).getD i []).take (ah b)=(fo v a b).getD i []:=fun i hi=>List.take_of_length_le (by rw[hzr i (by omega)];exact Nat.le_refl _);have hrl: ∀i,i<a.length→((fo v a b).getD i []).length=ah b:=fun i hi=>hzr i (by omega);clear hzr ok;generalize fo v a b=zs at *;refine qX 3 rfl ?_;refine qI ?_;refine qX 2 rfl ?_;refine ab.call tok rfl rfl rfl rfl cc ?_;refine qU 1 rfl ?_;refine qK 1 rfl ?_;refine ab.err tok rfl rfl rfl rfl rfl ?_;refine ab.nil ?_;refine AW.au rfl ?_
 · skip
   refine AW.skip (AW.seq ?_);refine qX 2 rfl ?_;refine ab.call tok rfl rfl rfl rfl cb ?_;refine qU 1 rfl ?_;refine qK 1 rfl ?_;refine ab.err tok rfl rfl rfl rfl rfl ?_;refine ab.nil ?_;refine AW.au rfl ?_
   · skip
     refine AW.skip (AW.seq ?_);refine qX 1 rfl ?_;refine ab.call tok rfl rfl rfl rfl (bQ a) ?_;refine qU 2 rfl ?_;rw[List.length_map];refine qU 1 rfl ?_;rw[hb,bne_eq_false_iff_eq.2 rfl];refine ab.nil ?_;refine AW.au rfl ?_
     · skip
       refine AW.skip ?_;refine qX 1 rfl ?_;refine qI ?_;refine qX 2 rfl ?_;rw[List.length_map];refine qU 1 rfl ?_;refine ab.nil ?_;refine AW.block ?_;refine AW.aE [2,3,10,35,36,37] (fun i:Nat=>[(2,.d (cZ b)),(3,.bx [.sl 1 (v.map af)]),(10,.ow 22 ((zs.take i).map bu)),(35,.d (cZ a)),(36,.d (dI a.length)),(37,.d (dI i))]) (fun i=>i≤a.length) (fun i=>a.length-i) 0 rfl (Nat.zero_le _) (fun i hi=>?_)
       · show AW _ _ _ _ _ _ _ [(2,.d (cZ b)),(3,.bx [.sl 1 (v.map af)]),(10,.ow 22 ((zs.take i).map bu)),(35,.d (cZ a)),(36,.d (dI a.length)),(37,.d (dI i))];refine qX 1 rfl ?_;refine qI ?_;refine AW.cond rfl (fun h=>?_) (fun h=>?_)
         · have hii:i<a.length:=by have:=of_decide_eq_true h;omega
           have g1:=getM bu (l:=a) (i:=i) hii;have cd:=fun k=>cd i k hii;have hts:=hts i hii;have htr:=fun k=>htr i k hii;have hra':=hra' i hii;have hrl:=hrl i hii;generalize a.getD i []=r at g1 cd htr;generalize zs.getD i []=z at *;refine AW.skip (AW.seq (AW.block (AW.seq (AW.region ?_))));refine ab.idx tok (bu r) rfl rfl rfl rfl (Int.natCast_nonneg i) g1 ?_;refine qU 2 rfl ?_;refine qK 1 rfl ?_;refine qI ?_;refine qX 1 rfl ?_;refine ab.call tok rfl rfl rfl rfl (bQ b) ?_;refine qU 1 rfl ?_;refine ab.nil ?_;refine AW.block ?_;refine AW.aE [2,3,10,12,13,35,36,37,42,43] (fun k:Nat=>[(2,.d (cZ b)),(3,.bx [.sl 1 (v.map af)]),(10,.ow 22 ((zs.take i).map bu)),(12,.d (bu r)),(13,.ow 53 ((z.take k).map af)),(35,.d (cZ a)),(36,.d (dI a.length)),(37,.d (dI i)),(42,.d (dI (ah b))),(43,.d (dI k))]) (fun k=>k≤ah b) (fun k=>ah b-k) 0 rfl (Nat.zero_le _) (fun k hk=>?_)
           · show AW _ _ _ _ _ _ _ [(2,.d (cZ b)),(3,.bx [.sl 1 (v.map af)]),(10,.ow 22 ((zs.take i).map bu)),(12,.d (bu r)),(13,.ow 53 ((z.take k).map af)),(35,.d (cZ a)),(36,.d (dI a.length)),(37,.d (dI i)),(42,.d (dI (ah b))),(43,.d (dI k))];refine qX 1 rfl ?_;refine qI ?_;refine AW.cond rfl (fun h=>?_) (fun h=>?_)
             · have hkk:k<ah b:=by have:=of_decide_eq_true h;omega
               have cd:=cd k hkk;have cl:=cl k hkk;have htr:=htr k hkk;generalize fD v r (jg b k) r.length=x at cd htr;generalize jg b k=cb' at cd cl;refine AW.skip (AW.seq (AW.block ?_));refine qX 2 rfl ?_;refine qI ?_;refine AW.draw aM 10 (by kernel_rfl) ?_;refine qP 4 rfl ?_;refine ae.call tok rfl rfl rfl rfl rfl cl ?_;refine ae.call tok rfl rfl rfl rfl rfl cd ?_;refine qP 4 rfl ?_;refine ae.nil ?_;refine qU 1 rfl ?_;refine qI ?_;refine qX 1 rfl ?_;refine ab.err tok rfl rfl rfl rfl rfl ?_;refine ab.nil ?_;refine AW.au rfl ?_
               · skip
                 refine AW.skip ?_;refine qT 2 rfl ?_;refine ab.e7 tok rfl rfl rfl rfl rfl ?_;refine ab.gP tok rfl rfl rfl rfl rfl rfl (by rw[List.length_map,List.length_take];show (_+1)*24≤_;omega) (by rw[List.length_map,List.length_take];show _+1≤_;omega) ?_;refine qU 1 rfl ?_;refine ab.nil ?_;refine qT 1 rfl ?_;rw[aC (x:=(k:Int)+1) (by omega) (by omega)];refine qU 1 rfl ?_;refine ab.nil ?_;exact⟨k+1,by rw[htr,List.map_append];rfl,hkk,by omega⟩
             have hkk:k=ah b:=by have:=of_decide_eq_false h;omega
             subst hkk;rw[hra'];refine AW.exit (AW.region ?_);refine ab.fh tok 13 rfl rfl ?_;refine qU 2 rfl ?_;refine ab.e7 tok rfl rfl rfl rfl rfl ?_;refine ab.gP tok rfl rfl rfl rfl rfl rfl (by rw[List.length_map,List.length_take];show (_+1)*24≤_;omega) (by rw[List.length_map,List.length_take];show _+1≤_;omega) ?_;refine qU 1 rfl ?_;refine ab.nil ?_;refine qT 1 rfl ?_;rw[aC (x:=(i:Int)+1) (by omega) (by omega)];refine qU 1 rfl ?_;refine ab.nil ?_;exact⟨i+1,by rw[hts,List.map_append];rfl,hii,by omega⟩
         have hii:i=a.length:=by have:=of_decide_eq_false h;omega
         subst hii;rw[hta];refine AW.exit (AW.seq (AW.region ?_));refine ab.fh tok 10 rfl rfl ?_;refine qU 3 rfl ?_;exact qN rfl
def D8(v:List NQ)(a:bw)(e bl:Nat)(b:List NQ):D :=
 if e≠0 then .tu [.sl 1 [],x8 e] else if bl≠a.length then .tu [.sl 1 [],er 10] else
 if atR v (eF v a b) (ah a)<(eF v a b).rows.length then .tu [.sl 1 [],er 16] else if (eF v a b).cols.length<ah a then .tu [.sl 1 [],er 15] else .tu [bu (kG v a b),ao]
def bE(l:Nat)(b:List (List RD)):Nat:=fE (fun i=>a6 l (b.getD i [])) (b.length-0) 0
set_option maxHeartbeats 3200000 in
theorem pT{v:List NQ}{a:bw}{b:List (List RD)}{bq:List NQ}(V:kl v)(cc:Pure Tryz.prog 20 [bC v,cZ a] ao)(G:uf v a)(hbl:b.length≤1000000)(hbn: ∀i,Pure Tryz.prog 67 [bC v,cF (b.getD i [])] (x8 (a6 v.length (b.getD i []))))
  (hbq:bE v.length b=0→RwR b=bu bq) (hlq:bq.length=b.length) (lw:b.length=a.length→pI v.length (cH a bq a.length)) (ok:b.length=a.length→ ∀c,c<ah a→j6 v (bk v (cH a bq a.length) c) c) (oks:b.length=a.length→ ∀i,pQ v (bX (eF v a bq).rows i (ah a))):
  Pure Tryz.prog 32 [bC v,cZ a,RwR b] (D8 v a (bE v.length b) b.length bq):=by
 refine qJ 122 Tryz.func32 rfl rfl rfl rfl (by kernel_rfl) (fun B F0 w0=>?_);have hGl:=G.l;have hGc:=G.c;obtain ⟨E,hE⟩: ∃E,bE v.length b=E:=⟨_,rfl⟩;rw[hE] at hbq ⊢;unfold bE at hE;unfold D8;refine qX 3 rfl ?_;refine qI ?_;refine qX 2 rfl ?_;refine ab.call tok rfl rfl rfl rfl cc ?_;refine qU 1 rfl ?_;refine qK 1 rfl ?_;refine ab.err tok rfl rfl rfl rfl rfl ?_;refine ab.nil ?_;refine AW.au rfl ?_
 · skip
   refine AW.skip (AW.seq ?_);refine qX 2 rfl ?_;rw[List.length_map];refine qU 1 rfl ?_;refine ab.nil ?_;refine AW.block ?_;refine AW.aE [1,2,3,27,28,29] (fun i:Nat=>[(1,.d (cZ a)),(2,.d (RwR b)),(3,.bx [.sl 1 (v.map af)]),(27,.d (RwR b)),(28,.d (dI b.length)),(29,.d (dI i))]) (fun i=>i≤b.length∧fE (fun i=>a6 v.length (b.getD i [])) (b.length-i) i=E) (fun i=>b.length-i) 0 rfl ⟨Nat.zero_le _,hE⟩ (fun i ⟨hi,hiE⟩=>?_)
   · show AW _ _ _ _ _ _ _ [(1,.d (cZ a)),(2,.d (RwR b)),(3,.bx [.sl 1 (v.map af)]),(27,.d (RwR b)),(28,.d (dI b.length)),(29,.d (dI i))];refine qX 1 rfl ?_;refine qI ?_;refine AW.cond rfl (fun h=>?_) (fun h=>?_)
     · have hii:i<b.length:=by have:=of_decide_eq_true h;omega
       have g1:=getM cF (l:=b) (i:=i) hii;have cn:=hbn i;have hmiss:=fun h0:a6 v.length (b.getD i [])=0=>(fA (f:=fun i=>a6 v.length (b.getD i [])) hii h0).symm.trans hiE;have hhit:=fun h0:a6 v.length (b.getD i [])≠0=>(iB (f:=fun i=>a6 v.length (b.getD i [])) hii h0).symm.trans hiE;refine AW.skip (AW.seq (AW.block (AW.seq (AW.region ?_))));refine ab.idx tok (cF (b.getD i [])) rfl rfl rfl rfl (Int.natCast_nonneg i) g1 ?_;refine qU 2 rfl ?_;refine qK 2 rfl ?_;refine ab.call tok rfl rfl rfl rfl cn ?_;refine qU 1 rfl ?_;refine ab.nil ?_;generalize a6 v.length (b.getD i [])=e at cn hmiss hhit;rcases e with _ | z
       rotate_left
       · have:=hhit (Nat.succ_ne_zero z);subst this;rw[if_pos (Nat.succ_ne_zero z)];refine qX 1 rfl ?_;refine ab.err tok rfl rfl rfl rfl rfl ?_;refine ab.nil ?_;refine AW.aF rfl ?_;refine qX 3 rfl ?_;exact qN rfl
       refine qX 1 rfl ?_;refine ab.err tok rfl rfl rfl rfl rfl ?_;refine ab.nil ?_;refine AW.au rfl ?_
       · skip
         refine AW.skip ?_;refine qT 1 rfl ?_;rw[aC (x:=(i:Int)+1) (by omega) (by omega)];refine qU 1 rfl ?_;refine ab.nil ?_;exact⟨i+1,rfl,⟨hii,hmiss rfl⟩,by omega⟩
     have hii: ¬i<b.length:=by have:=of_decide_eq_false h;omega
     rw[iC hii] at hiE;subst hiE;rw[if_neg (by decide)];rw[hbq rfl];refine AW.exit (AW.seq ?_);refine qX 2 rfl ?_;rw[List.length_map];refine qU 2 rfl ?_;rw[List.length_map,hlq];refine qU 1 rfl ?_;refine ab.nil ?_;refine AW.cond rfl (fun h=>?_) (fun h=>?_)
     · rw[if_pos (by have:=bne_iff_ne.1 h;omega)];refine qX 3 rfl ?_;exact qN rfl
     · have hba:b.length=a.length:=by have:=bne_eq_false_iff_eq.1 h;omega
       rw[if_neg (fun g=>g hba)];have lw:=lw hba;have oks:=oks hba;have cr:=fr V (a:=cH a bq a.length) (N:=ah a+1) (most:=ah a) (by rw[dD];omega) (by omega) (by omega) (dh G.r bq) lw (ok hba);have R:=fN V (dh G.r bq) lw (ah a);have hws:=qv a bq;have hwl:=dD a bq;have hw0:cH a bq 0=[]:=rfl;have hR1:=R.rect;have hR2:=R.lt;have hR3:=R.len;have hR4:=R.cm;have hR5:=R.cl;clear R ok hbn lw;change Pure _ _ _ (.tu [B8 (eF v a bq),ao]) at cr;change cL (ah a+1) (eF v a bq).rows at hR1;change pI v.length (eF v a bq).rows at hR2;change (eF v a bq).rows.length=_ at hR3;change (eF v a bq).cols.length≤_ at hR4;change (eF v a bq).cols.length≤_ at hR5;rw[dD] at hR3 hR4;refine AW.skip ?_;refine qX 1 rfl ?_;refine ab.call tok rfl rfl rfl rfl (bQ a) ?_;refine qU 1 rfl ?_;refine qK 1 rfl ?_;refine qI ?_;refine qX 2 rfl ?_;rw[List.length_map];refine qU 1 rfl ?_;refine ab.nil ?_;refine AW.block ?_;refine AW.aE [2,3,12,13,48,49,50] (fun i:Nat=>[(2,.d (bu bq)),(3,.bx [.sl 1 (v.map af)]),(12,.d (dI (ah a))),(13,.ow 22 ((cH a bq i).map bu)),(48,.d (cZ a)),(49,.d (dI a.length)),(50,.d (dI i))]) (fun i=>i≤a.length) (fun i=>a.length-i) 0 rfl (Nat.zero_le _) (fun i hi=>?_)
       · show AW _ _ _ _ _ _ _ [(2,.d (bu bq)),(3,.bx [.sl 1 (v.map af)]),(12,.d (dI (ah a))),(13,.ow 22 ((cH a bq i).map bu)),(48,.d (cZ a)),(49,.d (dI a.length)),(50,.d (dI i))];refine qX 1 rfl ?_;refine qI ?_;refine AW.cond rfl (fun h=>?_) (fun h=>?_)
         · have hii:i<a.length:=by have:=of_decide_eq_true h;omega
           have g1:=getM bu (l:=a) (i:=i) hii;have g2:=getM af (l:=bq) (i:=i) (by omega);have hrl:(a.getD i []).length≤1000000:=by rw[G.r i hii];omega
           have hws:=hws i;have hwl:=hwl i;generalize a.getD i []=row at g1 hrl hws;generalize bq.getD i []=x at g2 hws;generalize cH a bq i=W at hws hwl ⊢;refine AW.skip (AW.seq (AW.block ?_));refine qX 1 rfl ?_;refine ab.idx tok (bu row) rfl rfl rfl rfl (Int.natCast_nonneg i) g1 ?_;refine qU 3 rfl ?_;refine ab.nil ?_;refine AZ.aw ?_;refine AZ.any aM (ZH.any (β:=[]) ?_);refine ZH.mv 0 rfl rfl (by kernel_rfl) (by kernel_rfl) (by kernel_rfl) rfl (fun _ _ _ h=>h) (fun _=>rfl) trivial (fun B1 F1 w1=>?_);refine qU 1 rfl ?_;refine ab.nil ⟨rfl,?_⟩;refine ZH.mv 1 rfl rfl (by kernel_rfl) (by kernel_rfl) (by kernel_rfl) rfl (fun _ _ _ h=>h) (fun _=>rfl) trivial (fun B1 F1 w1=>?_);refine qU 1 rfl ?_;refine ab.nil ⟨rfl,?_⟩;refine ZH.mv 3 rfl rfl (by kernel_rfl) (by kernel_rfl) (by kernel_rfl) rfl (fun _ _ _ h=>h) (fun _=>rfl) trivial (fun B1 F1 w1=>?_);refine qU 1 rfl ?_;refine ab.nil ⟨rfl,?_⟩;refine ZH.mv 4 rfl rfl (by kernel_rfl) (by kernel_rfl) (by kernel_rfl) rfl (fun _ _ _ h=>h) (fun _=>rfl) trivial (fun B1 F1 w1=>?_);refine qU 1 rfl ?_;refine ab.nil ⟨rfl,?_⟩;refine ZH.meet 4 (qB 12 255) (fun V=>[(V,fg row)]) (fun V=>[(2,.d (bu bq)),(3,.bx [.sl 1 (v.map af)]),(12,.d (dI (ah a))),(13,.ow 22 (W.map bu)),(48,.d (cZ a)),(49,.d (dI a.length)),(50,.d (dI i)),(55,.al 13),(56,.d (bu row)),(57,.d (.v V)),(62,.d (.sl 1 [af x]))]) (fun V=>?_) (fun N1_3=>?_)
           · refine ZH.all 8 (by kernel_rfl) rfl rfl (fun _=>rfl) trivial ?_;refine aj.fa 57 0 rfl rfl rfl ?_;refine aj.to [2,3,12,13,48,49,50,55,57,62] [(2,.d (bu bq)),(3,.bx [.sl 1 (v.map af)]),(12,.d (dI (ah a))),(13,.ow 22 (W.map bu)),(48,.d (cZ a)),(49,.d (dI a.length)),(50,.d (dI i)),(55,.al 13),(57,.ow 53 (row.map af)),(62,.d (.sl 1 [af x]))] rfl ?_;refine aj.cut 1 rfl (fun B1 F1 w1=>?_);refine ab.gP tok rfl rfl rfl rfl rfl rfl (by rw[List.length_map];show (_+1)*24≤_;omega) (by rw[List.length_map];show _+1≤_;omega) ?_;rw[show row.map af++[af x]=(row++[x]).map af by rw[List.map_append];rfl];refine ab.fh tok 63 rfl rfl ?_;refine ab.nil ⟨rfl,?_⟩;refine aj.nil ?_;refine ZH.to [2,3,12,13,48,49,50,55,63] [(2,.d (bu bq)),(3,.bx [.sl 1 (v.map af)]),(12,.d (dI (ah a))),(13,.ow 22 (W.map bu)),(48,.d (cZ a)),(49,.d (dI a.length)),(50,.d (dI i)),(55,.al 13),(63,.d (bu (row++[x])))] rfl trivial ?_;refine ZH.all 9 (by kernel_rfl) rfl rfl (fun _=>rfl) trivial ?_;refine ak (fun B1 F1 w1=>?_);refine ab.e7 tok rfl rfl rfl rfl rfl ?_;refine ab.nil ⟨rfl,?_⟩;refine ZH.to [2,3,12,13,48,49,50,55,64] [(2,.d (bu bq)),(3,.bx [.sl 1 (v.map af)]),(12,.d (dI (ah a))),(13,.ow 22 (W.map bu)),(48,.d (cZ a)),(49,.d (dI a.length)),(50,.d (dI i)),(55,.al 13),(64,.d (.sl 1 [bu (row++[x])]))] rfl trivial ?_;refine ZH.all 10 (by kernel_rfl) rfl rfl (fun _=>rfl) trivial ?_;refine ak (fun B1 F1 w1=>?_);refine ab.gP tok rfl rfl rfl rfl rfl rfl (by rw[List.length_map];show (_+1)*24≤_;omega) (by rw[List.length_map];show _+1≤_;omega) ?_;refine ab.nil ⟨rfl,?_⟩;refine ZH.all 11 (by kernel_rfl) rfl rfl (fun _=>rfl) trivial ?_;refine ak (fun B1 F1 w1=>?_);refine qU 1 rfl ?_;refine ab.nil ⟨rfl,?_⟩;refine ZH.done (by kernel_rfl) trivial ?_;show AW _ _ _ _ _ _ _ _;refine AW.cW [2,3,12,48,49,50,13] ?_;show AW _ _ _ _ _ _ _ [(2,.d (bu bq)),(3,.bx [.sl 1 (v.map af)]),(12,.d (dI (ah a))),(48,.d (cZ a)),(49,.d (dI a.length)),(50,.d (dI i)),(13,.ow 22 (W.map bu++[bu (row++[x])]))];refine qT 1 rfl ?_;rw[aC (x:=(i:Int)+1) (by omega) (by omega)];refine qU 1 rfl ?_;refine ab.nil ?_;exact⟨i+1,by rw[hws,List.map_append];rfl,hii,by omega⟩
           refine ZH.meet 5 (qB 12 251) (fun V=>[]) (fun V=>[(2,.d (bu bq)),(3,.bx [.sl 1 (v.map af)]),(12,.d (dI (ah a))),(13,.ow 22 (W.map bu)),(48,.d (cZ a)),(49,.d (dI a.length)),(50,.d (dI i)),(55,.al 13),(56,.d (bu row)),(62,.d (.sl 1 [af x]))]) (fun V=>?_) (fun N0_3=>?_)
           · refine ZH.all 2 (by kernel_rfl) rfl rfl (fun _=>rfl) trivial ?_;refine aj.iD tok [] rfl rfl rfl rfl rfl List.nodup_nil rfl (jC row hrl) (fun _ _ _=>Nat.zero_le _) (fun res R1 hP=>?_);obtain ⟨V,rfl,rfl⟩:=hP;refine aj.nil ?_;exact qL (N1_3 V) (by kernel_rfl) rfl trivial
           refine ZH.meet 5 (qB 12 127) (fun V=>[(V,fg row)]) (fun V=>[(2,.d (bu bq)),(3,.bx [.sl 1 (v.map af)]),(12,.d (dI (ah a))),(13,.ow 22 (W.map bu)),(48,.d (cZ a)),(49,.d (dI a.length)),(50,.d (dI i)),(55,.al 13),(56,.d (bu row)),(57,.d (.v V)),(61,.d (af x))]) (fun V=>?_) (fun N1_2=>?_)
           · refine ZH.all 7 (by kernel_rfl) rfl rfl (fun _=>rfl) trivial ?_;refine ak (fun B1 F1 w1=>?_);refine ab.e7 tok rfl rfl rfl rfl rfl ?_;refine ab.nil ⟨rfl,?_⟩;exact qL (N1_3 V) (by kernel_rfl) rfl trivial
           refine ZH.meet 6 (qB 12 123) (fun V=>[]) (fun V=>[(2,.d (bu bq)),(3,.bx [.sl 1 (v.map af)]),(12,.d (dI (ah a))),(13,.ow 22 (W.map bu)),(48,.d (cZ a)),(49,.d (dI a.length)),(50,.d (dI i)),(55,.al 13),(56,.d (bu row)),(61,.d (af x))]) (fun V=>?_) (fun N0_2=>?_)
           · refine ZH.two 2 7 (by kernel_rfl) rfl rfl rfl rfl (fun _=>rfl) (fun _=>rfl) trivial ?_ ?_
             · refine aj.iD tok [] rfl rfl rfl rfl rfl List.nodup_nil rfl (jC row hrl) (fun _ _ _=>Nat.zero_le _) (fun res R1 hP=>?_);obtain ⟨V,rfl,rfl⟩:=hP;refine aj.nil ?_;exact qL (N1_2 V) (by kernel_rfl) rfl trivial
             · refine ak (fun B1 F1 w1=>?_);refine ab.e7 tok rfl rfl rfl rfl rfl ?_;refine ab.nil ⟨rfl,?_⟩;exact qL (N0_3 V) (by kernel_rfl) rfl trivial
           refine ZH.meet 6 (qB 12 63) (fun V=>[(V,fg row)]) (fun V=>[(2,.d (bu bq)),(3,.bx [.sl 1 (v.map af)]),(12,.d (dI (ah a))),(13,.ow 22 (W.map bu)),(48,.d (cZ a)),(49,.d (dI a.length)),(50,.d (dI i)),(55,.al 13),(56,.d (bu row)),(57,.d (.v V)),(60,.rf [af x])]) (fun V=>?_) (fun N1_1=>?_)
           · refine ZH.all 6 (by kernel_rfl) rfl rfl (fun _=>rfl) trivial ?_;refine ak (fun B1 F1 w1=>?_);refine qU 1 rfl ?_;refine ab.nil ⟨rfl,?_⟩;exact qL (N1_2 V) (by kernel_rfl) rfl trivial
           refine ZH.meet 7 (qB 12 59) (fun V=>[]) (fun V=>[(2,.d (bu bq)),(3,.bx [.sl 1 (v.map af)]),(12,.d (dI (ah a))),(13,.ow 22 (W.map bu)),(48,.d (cZ a)),(49,.d (dI a.length)),(50,.d (dI i)),(55,.al 13),(56,.d (bu row)),(60,.rf [af x])]) (fun V=>?_) (fun N0_1=>?_)
           · refine ZH.two 2 6 (by kernel_rfl) rfl rfl rfl rfl (fun _=>rfl) (fun _=>rfl) trivial ?_ ?_
             · refine aj.iD tok [] rfl rfl rfl rfl rfl List.nodup_nil rfl (jC row hrl) (fun _ _ _=>Nat.zero_le _) (fun res R1 hP=>?_);obtain ⟨V,rfl,rfl⟩:=hP;refine aj.nil ?_;exact qL (N1_1 V) (by kernel_rfl) rfl trivial
             · refine ak (fun B1 F1 w1=>?_);refine qU 1 rfl ?_;refine ab.nil ⟨rfl,?_⟩;exact qL (N0_2 V) (by kernel_rfl) rfl trivial
           refine ZH.meet 7 (qB 12 31) (fun V=>[(V,fg row)]) (fun V=>[(2,.d (bu bq)),(3,.bx [.sl 1 (v.map af)]),(12,.d (dI (ah a))),(13,.ow 22 (W.map bu)),(48,.d (cZ a)),(49,.d (dI a.length)),(50,.d (dI i)),(55,.al 13),(56,.d (bu row)),(57,.d (.v V)),(58,.d (bu bq)),(59,.d (dI i))]) (fun V=>?_) (fun N1_0=>?_)
           · refine ZH.all 5 (by kernel_rfl) rfl rfl (fun _=>rfl) trivial ?_;refine ak (fun B1 F1 w1=>?_);refine ab.idx tok (af x) rfl rfl rfl rfl (Int.natCast_nonneg i) g2 ?_;refine ab.nil ⟨rfl,?_⟩;exact qL (N1_1 V) (by kernel_rfl) rfl trivial
           refine ZH.meet 8 (qB 12 27) (fun V=>[]) (fun V=>[(2,.d (bu bq)),(3,.bx [.sl 1 (v.map af)]),(12,.d (dI (ah a))),(13,.ow 22 (W.map bu)),(48,.d (cZ a)),(49,.d (dI a.length)),(50,.d (dI i)),(55,.al 13),(56,.d (bu row)),(58,.d (bu bq)),(59,.d (dI i))]) (fun V=>?_) (fun N0_0=>?_)
           · refine ZH.two 2 5 (by kernel_rfl) rfl rfl rfl rfl (fun _=>rfl) (fun _=>rfl) trivial ?_ ?_
             · refine aj.iD tok [] rfl rfl rfl rfl rfl List.nodup_nil rfl (jC row hrl) (fun _ _ _=>Nat.zero_le _) (fun res R1 hP=>?_);obtain ⟨V,rfl,rfl⟩:=hP;refine aj.nil ?_;exact qL (N1_0 V) (by kernel_rfl) rfl trivial
             · refine ak (fun B1 F1 w1=>?_);refine ab.idx tok (af x) rfl rfl rfl rfl (Int.natCast_nonneg i) g2 ?_;refine ab.nil ⟨rfl,?_⟩;exact qL (N0_1 V) (by kernel_rfl) rfl trivial
           exact qL (N0_0 eO) (by kernel_rfl) rfl trivial
         have hii:i=a.length:=by have:=of_decide_eq_false h;omega
         subst hii;refine AW.exit (AW.seq (AW.region ?_));refine ab.fh tok 13 rfl rfl ?_;refine qU 3 rfl ?_;refine ab.call tok rfl rfl rfl rfl cr ?_;refine qU 6 rfl ?_;clear hws hwl hw0 hbq;have hX:=qF v a bq
         have hXt: ∀k,k<ah a→(kG v a bq).take (k+1)=(kG v a bq).take k++[bX (eF v a bq).rows k (ah a)]:=fun k hk=>by
          rw[mw (d:=[]) (by omega),qG v a bq hk]
         have hXa:(kG v a bq).take (ah a)=kG v a bq:=List.take_of_length_le (by omega);unfold atR;generalize kG v a bq=X at *;generalize eF v a bq=s at *;obtain ⟨rows,cols,sg,det⟩:=s
         dsimp only at *
         obtain ⟨A,hA⟩: ∃A,gh (Cg v rows (ah a)) (rows.length-cols.length) cols.length=A:=⟨_,rfl⟩;rw[hA];refine qI ?_;refine qX 1 rfl ?_;refine ab.err tok rfl rfl rfl rfl rfl ?_;refine ab.nil ?_;refine AW.au rfl ?_
         · skip
           refine AW.skip (AW.seq ?_);refine qX 3 rfl ?_;rw[List.length_map];refine qU 1 rfl ?_;refine ab.nil ?_;refine AW.block ?_;refine AW.aE [3,12,16,18] (fun i:Nat=>[(3,.bx [.sl 1 (v.map af)]),(12,.d (dI (ah a))),(16,.bx [cZ rows,vr cols,dI sg,af det]),(18,.d (dI i))]) (fun i=>i≤rows.length∧gh (Cg v rows (ah a)) (rows.length-i) i=A) (fun i=>rows.length-i) cols.length rfl ⟨by omega,hA⟩ (fun i ⟨hi,hiA⟩=>?_)
           · show AW _ _ _ _ _ _ _ [(3,.bx [.sl 1 (v.map af)]),(12,.d (dI (ah a))),(16,.bx [cZ rows,vr cols,dI sg,af det]),(18,.d (dI i))];refine AW.seq ?_;refine qX 4 rfl ?_;rw[List.length_map];refine qU 1 rfl ?_;refine ab.nil ?_;refine AW.cond rfl (fun h=>?_) (fun h=>?_)
             · have hii:i<rows.length:=by have:=of_decide_eq_true h;omega
               have g1:=getM bu (l:=rows) (i:=i) hii;have g2:=getM af (l:=rows.getD i []) (i:=ah a) (by rw[hR1 i hii];omega);have cs:=im V (hR2 i (ah a)) (oks i);have hhit:=rL (g:=Cg v rows (ah a)) hii;have hmiss:=oU (g:=Cg v rows (ah a)) hii;have hnz:Cg v rows (ah a) i=decide (oh v (bX rows i (ah a))≠0):=rfl;rw[hnz] at hhit hmiss;unfold bX at cs hhit hmiss;generalize rows.getD i []=row at g1 g2 cs hhit hmiss;generalize row.getD (ah a) []=x at g2 cs hhit hmiss;generalize oh v x=z at cs hhit hmiss;refine AW.skip (AW.seq (AW.block (AW.seq ?_)));refine AW.draw aM 11 (by kernel_rfl) ?_;refine qP 4 rfl ?_;refine ae.idx tok (bu row) rfl rfl rfl rfl rfl (Int.natCast_nonneg i) g1 ?_;refine qP 2 rfl ?_;refine ae.idx tok (af x) rfl rfl rfl rfl rfl (Int.natCast_nonneg _) g2 ?_;refine qP 1 rfl ?_;refine ae.call tok rfl rfl rfl rfl rfl cs ?_;refine qP 1 rfl ?_;refine ae.nil ?_;refine ab.nil ?_;refine AW.cond rfl (fun h=>?_) (fun h=>?_)
               · have hz:z≠0:=by have:=bne_iff_ne.1 h;exact this
                 have hAi:A=i:=by rw[← hiA];exact hhit (decide_eq_true hz)
                 rw[if_pos (by omega)];refine qX 3 rfl ?_;exact qN rfl
               · have hz:z=0:=by have:=bne_eq_false_iff_eq.1 h;exact this
                 refine AW.skip ?_;refine qT 2 rfl ?_;rw[aC (x:=(i:Int)+1) (by omega) (by omega)];refine qU 1 rfl ?_;refine ab.nil ?_;exact⟨i+1,rfl,⟨hii,by rw[← hmiss (decide_eq_false (fun g=>g hz))];exact hiA⟩,by omega⟩
             have hii: ¬i<rows.length:=by have:=of_decide_eq_false h;omega
             have hAi:A=i:=by rw[← hiA,rM hii]
             rw[if_neg (by omega)];refine AW.exit (AW.seq ?_);refine qX 3 rfl ?_;rw[List.length_map];refine qU 2 rfl ?_;refine ab.nil ?_;refine AW.cond rfl (fun h=>?_) (fun h=>?_)
             · rw[if_pos (by have:=of_decide_eq_true h;omega)];refine qX 3 rfl ?_;exact qN rfl
             · have hcn: ¬cols.length<ah a:=by have:=of_decide_eq_false h;omega
               rw[if_neg hcn];refine AW.skip ?_;refine qX 1 rfl ?_;refine qI ?_;refine qX 2 rfl ?_;refine ab.nil ?_;refine AW.block ?_;refine AW.aE [12,16,19,105,106] (fun k:Nat=>[(12,.d (dI (ah a))),(16,.bx [cZ rows,vr cols,dI sg,af det]),(19,.ow 53 ((X.take k).map af)),(105,.d (dI (ah a))),(106,.d (dI k))]) (fun k=>k≤ah a) (fun k=>ah a-k) 0 rfl (Nat.zero_le _) (fun k hk=>?_)
               · show AW _ _ _ _ _ _ _ [(12,.d (dI (ah a))),(16,.bx [cZ rows,vr cols,dI sg,af det]),(19,.ow 53 ((X.take k).map af)),(105,.d (dI (ah a))),(106,.d (dI k))];refine qX 1 rfl ?_;refine qI ?_;refine AW.cond rfl (fun h=>?_) (fun h=>?_)
                 · have hkk:k<ah a:=by have:=of_decide_eq_true h;omega
                   have g1:=getM bu (l:=rows) (i:=k) (by omega);have g2:=getM af (l:=rows.getD k []) (i:=ah a) (by rw[hR1 k (by omega)];omega);have hXt:=hXt k hkk;unfold bX at hXt;generalize rows.getD k []=row at g1 g2 hXt;generalize row.getD (ah a) []=x at g2 hXt;refine AW.skip (AW.seq (AW.block ?_));refine qX 2 rfl ?_;refine ab.nil ?_;refine qT 4 rfl ?_;refine ab.idx tok (bu row) rfl rfl rfl rfl (Int.natCast_nonneg k) g1 ?_;refine qU 2 rfl ?_;refine ab.idx tok (af x) rfl rfl rfl rfl (Int.natCast_nonneg _) g2 ?_;refine qU 1 rfl ?_;refine ab.e7 tok rfl rfl rfl rfl rfl ?_;refine ab.gP tok rfl rfl rfl rfl rfl rfl (by rw[List.length_map,List.length_take];show (_+1)*24≤_;omega) (by rw[List.length_map,List.length_take];show _+1≤_;omega) ?_;refine qU 1 rfl ?_;refine ab.nil ?_;refine qT 1 rfl ?_;rw[aC (x:=(k:Int)+1) (by omega) (by omega)];refine qU 1 rfl ?_;refine ab.nil ?_;exact⟨k+1,by rw[hXt,List.map_append];rfl,hkk,by omega⟩
                 have hkk:k=ah a:=by have:=of_decide_eq_false h;omega
                 subst hkk;rw[hXa];refine AW.exit (AW.seq (AW.region ?_));refine ab.fh tok 19 rfl rfl ?_;refine qU 3 rfl ?_;exact qN rfl
end Lift
namespace Lift
open Go Go.Proofs
theorem vT{rt b:List (List RD)}(hbl:b.length≤1000000)(hbn: ∀i,Pure Tryz.prog 37 [dI rt.length,cF (b.getD i [])] (dI (a6 rt.length (b.getD i [])))):
  Pure Tryz.prog 70 [TrD rt,RwR b] (dI (fE (fun i=>a6 rt.length (b.getD i [])) (b.length-0) 0)):=by
 refine qJ 23 Tryz.func70 rfl rfl rfl rfl (by kernel_rfl) (fun B F0 w0=>?_);obtain ⟨E,hE⟩: ∃E,fE (fun i=>a6 rt.length (b.getD i [])) (b.length-0) 0=E:=⟨_,rfl⟩;rw[hE];refine qX 2 rfl ?_;refine qI ?_;refine qX 2 rfl ?_;rw[List.length_map];refine qU 1 rfl ?_;refine ab.nil ?_;refine AW.block ?_;refine AW.aE [2,8,9,10] (fun i:Nat=>[(2,.bx [.sl 1 (rt.map cF)]),(8,.d (RwR b)),(9,.d (dI b.length)),(10,.d (dI i))]) (fun i=>i≤b.length∧fE (fun i=>a6 rt.length (b.getD i [])) (b.length-i) i=E) (fun i=>b.length-i) 0 rfl ⟨Nat.zero_le _,hE⟩ (fun i ⟨hi,hiE⟩=>?_)
 · show AW _ _ _ _ _ _ _ [(2,.bx [.sl 1 (rt.map cF)]),(8,.d (RwR b)),(9,.d (dI b.length)),(10,.d (dI i))];refine qX 1 rfl ?_;refine qI ?_;refine AW.cond rfl (fun h=>?_) (fun h=>?_)
   · have hii:i<b.length:=by have:=of_decide_eq_true h;omega
     have g1:=getM cF (l:=b) (i:=i) hii;have cn:=hbn i;have hmiss:=fun h0:a6 rt.length (b.getD i [])=0=>(fA (f:=fun i=>a6 rt.length (b.getD i [])) hii h0).symm.trans hiE;have hhit:=fun h0:a6 rt.length (b.getD i [])≠0=>(iB (f:=fun i=>a6 rt.length (b.getD i [])) hii h0).symm.trans hiE;refine AW.skip (AW.seq (AW.block (AW.seq (AW.region ?_))));refine ab.idx tok (cF (b.getD i [])) rfl rfl rfl rfl (Int.natCast_nonneg i) g1 ?_;refine qU 2 rfl ?_;refine qK 3 rfl ?_;rw[List.length_map];refine qU 1 rfl ?_;refine ab.call tok rfl rfl rfl rfl cn ?_;refine qU 1 rfl ?_;refine qK 2 rfl ?_;refine ab.nil ?_;generalize a6 rt.length (b.getD i [])=e at *;refine AW.cond rfl (fun h=>?_) (fun h=>?_)
     · have he:e≠0:=by have:=bne_iff_ne.1 h;omega
       rw[← hhit he];refine qX 2 rfl ?_;exact qN rfl
     · have he:e=0:=by have:=bne_eq_false_iff_eq.1 h;omega
       refine AW.skip ?_;refine qT 1 rfl ?_;rw[aC (x:=(i:Int)+1) (by omega) (by omega)];refine qU 1 rfl ?_;refine ab.nil ?_;exact⟨i+1,rfl,⟨hii,hmiss he⟩,by omega⟩
   have hii: ¬i<b.length:=by have:=of_decide_eq_false h;omega
   rw[iC hii] at hiE;subst hiE;refine AW.exit ?_;refine qX 1 rfl ?_;exact qN rfl
theorem vP{rt:List (List RD)}(h0:ck rt=0)(r:List (List RD)):ja rt r=fE (fun i=>a6 rt.length (r.getD i [])) (r.length-0) 0:=by
 unfold ja;rw[show (fun k=>nS rt [r.getD k []])=fun i=>a6 rt.length (r.getD i []) from funext fun k=>zh h0 _]
theorem uC{rt:List (List RD)}{a:List (List (List RD))}(h0:ck rt=0)(hal:a.length≤1000000)(har: ∀i,(a.getD i []).length≤1000000)(hbn: ∀i k,Pure Tryz.prog 37 [dI rt.length,cF ((a.getD i []).getD k [])] (dI (a6 rt.length ((a.getD i []).getD k [])))):
  Pure Tryz.prog 57 [TrD rt,MxR a] (dI (rA rt a)):=by
 refine qJ 52 Tryz.func57 rfl rfl rfl rfl (by kernel_rfl) (fun B F0 w0=>?_);unfold rA;obtain ⟨E,hE⟩: ∃E,fE (tG a) (a.length-0) 0=E:=⟨_,rfl⟩;obtain ⟨G,hG⟩: ∃G,fE (fun i=>ja rt (a.getD i [])) (a.length-0) 0=G:=⟨_,rfl⟩;rw[hE,hG];have hc0:ah a=(a.getD 0 []).length:=rfl;have hcl:=har 0;refine qX 2 rfl ?_;refine ab.nil ?_;refine AW.cut [1,2] (fun _:Unit=>[(1,.d (MxR a)),(2,.bx [.sl 1 (rt.map cF)])]) (fun _=>(if a.length=0 then 0 else if 32<a.length∨32<ah a then 4 else if E≠0 then E else G)=if E≠0 then E else G) ?_ (fun _ hr=>?_)
 · refine qX 2 rfl ?_;rw[List.length_map];refine qU 1 rfl ?_;by_cases h1:32<a.length
   · rw[decide_eq_true (show (32:Int)<(a.length:Int) by omega),if_neg (show ¬a.length=0 by omega),if_pos (.inl h1)];refine qU 12 rfl ?_;refine ab.nil ?_;refine AW.aF rfl ?_;refine qX 1 rfl ?_;exact qN rfl
   rw[decide_eq_false (show ¬(32:Int)<(a.length:Int) by omega)];refine qU 3 rfl ?_;rw[List.length_map];refine qU 1 rfl ?_;by_cases h0:a.length=0
   · rw[decide_eq_false (show ¬(0:Int)<(a.length:Int) by omega)];refine qU 8 rfl ?_;refine ab.nil ?_;refine AW.au rfl ?_;refine AW.skip ?_;refine⟨(),rfl,?_⟩;have e1:E=0:=by rw[← hE,h0];rfl
     have e2:G=0:=by rw[← hG,h0];rfl
     rw[if_pos h0,e1,e2,if_neg (by decide)]
   rw[decide_eq_true (show (0:Int)<(a.length:Int) by omega)];have g0:=getM RwR (l:=a) (i:=0) (by omega);refine qU 2 rfl ?_;refine ab.idx tok (RwR (a.getD 0 [])) rfl rfl rfl rfl (Int.le_refl _) g0 ?_;refine qU 2 rfl ?_;rw[List.length_map];refine qU 1 rfl ?_;by_cases h2:32<ah a
   · rw[decide_eq_true (show (32:Int)<((a.getD 0 []).length:Int) by omega),if_neg h0,if_pos (.inr h2)];refine qU 2 rfl ?_;refine ab.nil ?_;refine AW.aF rfl ?_;refine qX 1 rfl ?_;exact qN rfl
   rw[decide_eq_false (show ¬(32:Int)<((a.getD 0 []).length:Int) by omega)];refine qU 2 rfl ?_;refine ab.nil ?_;refine AW.au rfl ?_;refine AW.skip ?_;exact⟨(),rfl,by rw[if_neg h0,if_neg (fun g=>g.elim h1 h2)]⟩
 rw[hr]
 · show AW _ _ _ _ _ _ _ [(1,.d (MxR a)),(2,.bx [.sl 1 (rt.map cF)])];refine AW.seq ?_;refine qX 2 rfl ?_;rw[List.length_map];refine qU 1 rfl ?_;refine ab.nil ?_;refine AW.block ?_;refine AW.aE [1,2,25,26,27] (fun i:Nat=>[(1,.d (MxR a)),(2,.bx [.sl 1 (rt.map cF)]),(25,.d (MxR a)),(26,.d (dI a.length)),(27,.d (dI i))]) (fun i=>i≤a.length∧fE (tG a) (a.length-i) i=E) (fun i=>a.length-i) 0 rfl ⟨Nat.zero_le _,hE⟩ (fun i ⟨hi,hiE⟩=>?_)
   · show AW _ _ _ _ _ _ _ [(1,.d (MxR a)),(2,.bx [.sl 1 (rt.map cF)]),(25,.d (MxR a)),(26,.d (dI a.length)),(27,.d (dI i))];refine qX 1 rfl ?_;refine qI ?_;refine AW.cond rfl (fun h=>?_) (fun h=>?_)
     · have hii:i<a.length:=by have:=of_decide_eq_true h;omega
       have hg:=getM RwR (l:=a) (i:=i) hii;have g0:=getM RwR (l:=a) (i:=0) (by omega);have hri:=har i;have hmiss:=fun h0:tG a i=0=>(fA hii h0).symm.trans hiE;have hhit:=fun h0:tG a i≠0=>(iB hii h0).symm.trans hiE;refine AW.skip (AW.seq (AW.block (AW.seq (AW.region ?_))));refine ab.idx tok (RwR (a.getD i [])) rfl rfl rfl rfl (Int.natCast_nonneg i) hg ?_;refine qU 2 rfl ?_;refine qK 2 rfl ?_;rw[List.length_map];refine qU 1 rfl ?_;refine ab.idx tok (RwR (a.getD 0 [])) rfl rfl rfl rfl (Int.le_refl _) g0 ?_;refine qU 2 rfl ?_;rw[List.length_map];refine qU 1 rfl ?_;refine ab.nil ?_;refine AW.cond rfl (fun h=>?_) (fun h=>?_)
       · have hne:(a.getD i []).length≠ah a:=by have:=bne_iff_ne.1 h;omega
         have e:tG a i=10:=if_pos hne;have:=hhit (by rw[e];decide);rw[e] at this;subst this;rw[if_pos (by decide)];refine qX 1 rfl ?_;exact qN rfl
       · have heq:(a.getD i []).length=ah a:=by have:=bne_eq_false_iff_eq.1 h;omega
         have e:tG a i=0:=if_neg (fun h=>h heq);refine AW.skip ?_;refine qT 1 rfl ?_;rw[aC (x:=(i:Int)+1) (by omega) (by omega)];refine qU 1 rfl ?_;refine ab.nil ?_;exact⟨i+1,rfl,⟨hii,hmiss e⟩,by omega⟩
     have hii: ¬i<a.length:=by have:=of_decide_eq_false h;omega
     rw[iC hii] at hiE;subst hiE;rw[if_neg (by decide)];refine AW.exit (AW.seq ?_);refine qX 2 rfl ?_;rw[List.length_map];refine qU 1 rfl ?_;refine ab.nil ?_;refine AW.block ?_;refine AW.aE [2,39,40,41] (fun i:Nat=>[(2,.bx [.sl 1 (rt.map cF)]),(39,.d (MxR a)),(40,.d (dI a.length)),(41,.d (dI i))]) (fun i=>i≤a.length∧fE (fun i=>ja rt (a.getD i [])) (a.length-i) i=G) (fun i=>a.length-i) 0 rfl ⟨Nat.zero_le _,hG⟩ (fun i ⟨hi,hiG⟩=>?_)
     · show AW _ _ _ _ _ _ _ [(2,.bx [.sl 1 (rt.map cF)]),(39,.d (MxR a)),(40,.d (dI a.length)),(41,.d (dI i))];refine qX 1 rfl ?_;refine qI ?_;refine AW.cond rfl (fun h=>?_) (fun h=>?_)
       · have hii:i<a.length:=by have:=of_decide_eq_true h;omega
         have hg:=getM RwR (l:=a) (i:=i) hii;have cl:=vT (har i) (hbn i);rw[← vP h0] at cl;have hmiss:=fun h0:ja rt (a.getD i [])=0=>(fA (f:=fun i=>ja rt (a.getD i [])) hii h0).symm.trans hiG;have hhit:=fun h0:ja rt (a.getD i [])≠0=>(iB (f:=fun i=>ja rt (a.getD i [])) hii h0).symm.trans hiG;refine AW.skip (AW.seq (AW.block (AW.seq (AW.region ?_))));refine ab.idx tok (RwR (a.getD i [])) rfl rfl rfl rfl (Int.natCast_nonneg i) hg ?_;refine qU 2 rfl ?_;refine qK 2 rfl ?_;refine ab.call tok rfl rfl rfl rfl cl ?_;refine qU 1 rfl ?_;refine qK 2 rfl ?_;refine ab.nil ?_;generalize ja rt (a.getD i [])=e at *;refine AW.cond rfl (fun h=>?_) (fun h=>?_)
         · have he:e≠0:=by have:=bne_iff_ne.1 h;omega
           rw[← hhit he];refine qX 2 rfl ?_;exact qN rfl
         · have he:e=0:=by have:=bne_eq_false_iff_eq.1 h;omega
           refine AW.skip ?_;refine qT 1 rfl ?_;rw[aC (x:=(i:Int)+1) (by omega) (by omega)];refine qU 1 rfl ?_;refine ab.nil ?_;exact⟨i+1,rfl,⟨hii,hmiss he⟩,by omega⟩
       have hii: ¬i<a.length:=by have:=of_decide_eq_false h;omega
       rw[iC hii] at hiG;subst hiG;refine AW.exit ?_;refine qX 1 rfl ?_;exact qN rfl
theorem uE{m:Nat}{rt:List (List RD)}{a:List (List (List RD))}(T:ER m rt)(A:B9 m rt a):Pure Tryz.prog 21 [TrD rt,MxR a] (dI (kf rt a)):=by
 refine qJ 14 Tryz.func21 rfl rfl rfl rfl (by kernel_rfl) (fun B F0 w0=>?_);have hm:=T.m2;have cc:=nk rt T.w T.m1 T.l T.ll T.ok;have cw:=fun h0:ck rt=0=>uC h0 A.l A.r (fun i k=>fY rt.length ((a.getD i []).getD k []) (jD h0).1 (A.n i k).w (by omega) (A.n i k).l);unfold kf;refine qX 2 rfl ?_;refine qI ?_;refine qX 1 rfl ?_;refine ab.call tok rfl rfl rfl rfl cc ?_;refine qU 1 rfl ?_;refine qK 2 rfl ?_;refine ab.nil ?_;generalize ck rt=e at *;refine AW.cond rfl (fun h=>?_) (fun h=>?_)
 · have he:e≠0:=by have:=bne_iff_ne.1 h;omega
   rw[if_pos he];refine qX 2 rfl ?_;exact qN rfl
 · have he:e=0:=by have:=bne_eq_false_iff_eq.1 h;omega
   rw[if_neg (fun g=>g he)];refine AW.skip ?_;refine qX 2 rfl ?_;refine ab.call tok rfl rfl rfl rfl (cw he) ?_;refine qU 1 rfl ?_;exact qN rfl
end Lift
namespace Lift
open Go Go.Proofs
theorem zS{a b:List Nat}(h:a.length=b.length)(hk: ∀k,k<a.length→a.getD k 0=b.getD k 0):a=b:=by
 refine List.ext_getElem h fun i h1 h2=>?_;have:=hk i h1
 rwa [List.getD_eq_getElem?_getD,List.getElem?_eq_getElem h1,List.getD_eq_getElem?_getD,List.getElem?_eq_getElem h2] at this
theorem s6(a b:List Nat)(ha:a.length≤1000000):Pure Tryz.prog 23 [vr a,vr b] (dB (decide (a=b))):=by
 refine qJ 26 Tryz.func23 rfl rfl rfl rfl (by kernel_rfl) (fun B F0 w0=>?_);refine qX 1 rfl ?_;refine qI ?_;refine qX 5 rfl ?_;rw[List.length_map,List.length_map];refine ab.nil ?_;refine AW.cond rfl (fun h=>?_) (fun h=>?_)
 · have hne:a≠b:=by rintro rfl;simp at h
   rw[decide_eq_false hne];refine qX 1 rfl ?_;exact qN rfl
 · have hlen:a.length=b.length:=by
    have:(a.length:Int)=b.length:=by simpa using h
    omega
   refine AW.skip (AW.seq ?_);refine qX 1 rfl ?_;refine ab.nil ?_;refine AW.block ?_;refine AW.aE [0,1,5] (fun i:Nat=>[(0,.d (vr a)),(1,.d (vr b)),(5,.d (dI i))]) (fun i=>i≤a.length∧ ∀k,k<i→a.getD k 0=b.getD k 0) (fun i=>a.length-i) 0 rfl ⟨Nat.zero_le _,fun k hk=>by omega⟩ (fun i ⟨hi,hI⟩=>?_)
   · show AW _ _ _ _ _ _ _ [(0,.d (vr a)),(1,.d (vr b)),(5,.d (dI i))];refine AW.seq ?_;refine qX 3 rfl ?_;rw[List.length_map];refine qU 1 rfl ?_;refine ab.nil ?_;refine AW.cond rfl (fun h=>?_) (fun h=>?_)
     · have hin:i<a.length:=by have:=of_decide_eq_true h;omega
       refine AW.skip (AW.seq (AW.block (AW.seq ?_)));refine AW.draw aM 9 (by kernel_rfl) ?_;refine qP 2 rfl ?_;refine ae.idx tok (dI (a.getD i 0)) rfl rfl rfl rfl rfl (Int.natCast_nonneg i) (Bu hin) ?_;refine qP 3 rfl ?_;refine ae.idx tok (dI (b.getD i 0)) rfl rfl rfl rfl rfl (Int.natCast_nonneg i) (Bu (by omega)) ?_;refine qP 2 rfl ?_;refine ae.nil ?_;refine ab.nil ?_;refine AW.cond rfl (fun h=>?_) (fun h=>?_)
       · have hne:a≠b:=by rintro rfl;simp at h
         rw[decide_eq_false hne];refine qX 1 rfl ?_;exact qN rfl
       · have he:a.getD i 0=b.getD i 0:=by have:((a.getD i 0:Nat):Int)=(b.getD i 0:Nat):=bne_eq_false_iff_eq.1 h;omega
         refine AW.skip ?_;refine qT 2 rfl ?_;rw[aC (x:=(i:Int)+1) (by omega) (by omega)];refine qU 1 rfl ?_;refine ab.nil ?_;refine⟨i+1,rfl,⟨hin,fun k hk=>?_⟩,by omega⟩;rcases Nat.lt_or_ge k i with e | e
         · exact hI k e
         · rw[show k=i by omega];exact he
     have hin: ¬i<a.length:=by have:=of_decide_eq_false h;omega
     have hab:a=b:=zS hlen (fun k hk=>hI k (by omega));rw[decide_eq_true hab];refine AW.exit ?_;refine qX 1 rfl ?_;exact qN rfl
theorem xl{v:List NQ}{a b:NQ}(V:kl v)(ha:aq v.length a)(hb:aq v.length b)(sa:kv a)(sb:kv b)(ok:pQ v (aJ a (aL b))):Pure Tryz.prog 45 [bC v,af a,af b] (.tu [dI (oh v (aJ a (aL b))),ao]):=by
 refine qJ 23 Tryz.func45 rfl rfl rfl rfl (by kernel_rfl) (fun B0 F0 w0=>?_);have hl5:=V.l5;have hro:=V.ro;have cc:=k8 V ha sa hb sb;have c0:=dP b sb (by omega) (Nat.le_trans (hb.len (by omega)) (by decide));have c1:=cT a (aL b) sa sb.minus (by omega) (Nat.le_trans (ha.len (by omega)) (by decide)) (Nat.le_trans (hb.minus.len (by omega)) (by decide));have c2:=c7 v.length (ha.plus hb.minus) hl5 hro (Nat.le_refl _) (by omega) ok;refine qX 3 rfl ?_;refine qI ?_;refine qX 3 rfl ?_;refine ab.e7 tok rfl rfl rfl rfl rfl ?_;refine ab.call tok rfl rfl rfl rfl cc ?_;refine qU 1 rfl ?_;refine qK 1 rfl ?_;refine ab.err tok rfl rfl rfl rfl rfl ?_;refine ab.nil ?_;refine AW.au rfl ?_
 · skip
   refine AW.skip (AW.seq ?_);refine AW.draw aM 6 (by kernel_rfl) ?_;refine qP 3 rfl ?_;refine ae.call tok rfl rfl rfl rfl rfl c0 ?_;refine ae.call tok rfl rfl rfl rfl rfl c1 ?_;refine ae.call tok rfl rfl rfl rfl rfl c2 ?_;refine ae.nil ?_;refine qU 2 rfl ?_;exact qN rfl
theorem rD{v:List NQ}{a:NQ}(V:kl v)(ha:aq v.length a)(ok:pQ v a):Pure Tryz.prog 67 [bC v,af a] ao:=by
 refine qJ 14 Tryz.func67 rfl rfl rfl rfl (by kernel_rfl) (fun B0 F0 w0=>?_);have c:=pd V ha ok;refine qX 2 rfl ?_;refine qK 2 rfl ?_;refine ab.call tok rfl rfl rfl rfl c ?_;refine qU 5 rfl ?_;refine qK 2 rfl ?_;exact qN rfl
theorem px(l:List Int)(hl:l.length≤1000)(hb: ∀i, -1000≤l.getD i 0∧l.getD i 0≤1000):Pure Tryz.prog 44 [.sl 1 (l.map (fun n=>dI n))] (af (l.map (fun n:Int=>(n:Rat)))):=by
 refine qJ 19 Tryz.func44 rfl rfl rfl rfl (by kernel_rfl) (fun B0 F0 w0=>?_);have hg: ∀i,i<l.length→(l.map (fun n:Int=>dI n))[i]?=some (dI (l.getD i 0)):=fun i hi=>by simp[hi]
 have hts: ∀i,i<l.length→(l.map (fun n:Int=>(n:Rat))).take (i+1)=(l.map (fun n:Int=>(n:Rat))).take i++[((l.getD i 0:Int):Rat)]:=fun i hi=>by
  rw[mw (d:=0) (by rw[List.length_map];exact hi)]
  congr 2
  rw[List.getD_eq_getElem?_getD,List.getElem?_map,List.getD_eq_getElem?_getD,List.getElem?_eq_getElem hi];rfl
 have hta:(l.map (fun n:Int=>(n:Rat))).take l.length=l.map (fun n:Int=>(n:Rat)):=List.take_of_length_le (by rw[List.length_map];exact Nat.le_refl _);generalize l.map (fun n:Int=>(n:Rat))=zs at *;refine qX 1 rfl ?_;refine qK 1 rfl ?_;refine qI ?_;refine qX 2 rfl ?_;rw[List.length_map];refine qU 1 rfl ?_;refine ab.nil ?_;refine AW.block ?_;refine AW.aE [3,6,7,8] (fun i:Nat=>[(3,.ow 111 (dG (zs.take i))),(6,.d (.sl 1 (l.map (fun n=>dI n)))),(7,.d (dI l.length)),(8,.d (dI i))]) (fun i=>i≤l.length) (fun i=>l.length-i) 0 rfl (Nat.zero_le _) (fun i hi=>?_)
 · show AW _ _ _ _ _ _ _ [(3,.ow 111 (dG (zs.take i))),(6,.d (.sl 1 (l.map (fun n=>dI n)))),(7,.d (dI l.length)),(8,.d (dI i))];refine qX 1 rfl ?_;refine qI ?_;refine AW.cond rfl (fun h=>?_) (fun h=>?_)
   · have hii:i<l.length:=by have:=of_decide_eq_true h;omega
     have g1:=hg i hii;have hts:=hts i hii;have hb:=hb i;have c:=zF (l.getD i 0) (by omega) (by omega);generalize l.getD i 0=x at *;refine AW.skip (AW.seq (AW.block (AW.seq (AW.region ?_))));refine ab.idx tok (dI x) rfl rfl rfl rfl (Int.natCast_nonneg i) g1 ?_;refine qU 2 rfl ?_;refine ab.nil ?_;refine qT 2 rfl ?_;refine ab.call tok rfl rfl rfl rfl c ?_;refine ab.e7 tok rfl rfl rfl rfl rfl ?_;refine ab.gP tok rfl rfl rfl rfl rfl rfl (by rw[List.length_map,List.length_take];show (_+1)*56≤_;omega) (by rw[List.length_map,List.length_take];show _+1≤_;omega) ?_;refine qU 1 rfl ?_;refine ab.nil ?_;refine qT 1 rfl ?_;rw[aC (x:=(i:Int)+1) (by omega) (by omega)];refine qU 1 rfl ?_;refine ab.nil ?_;exact⟨i+1,by rw[hts,show dG (zs.take i++[(x:Rat)])=dG (zs.take i)++[(Qr (x:Rat)).D] from List.map_append ..];rfl,hii,by omega⟩
   have hii:i=l.length:=by have:=of_decide_eq_false h;omega
   subst hii;rw[hta];refine AW.exit (AW.seq (AW.region ?_));refine ab.fh tok 3 rfl rfl ?_;refine qU 2 rfl ?_;exact qN rfl
def jj(r:RD):Bool:=match r.n,r.d with
 | [],[]=>true
 | [x],[]=>decide (x≤1000)
 | [],[y]=>decide (y≤12)
 | [x],[y]=>decide (x≤1000)&&decide (y≤12)
 | _,_=>false
theorem Aj{r:RD}(h:jj r=true):r.n.length≤1∧r.d.length≤1:=by
 obtain ⟨g,n,d⟩:=r;unfold jj at h;rcases n with _ | ⟨x,_ | ⟨x2,n⟩⟩<;>rcases d with _ | ⟨y,_ | ⟨y2,d⟩⟩<;>first | (simp at h;done) | (refine⟨?_,?_⟩<;>simp)
theorem sW(r:RD){k:Nat}(hw:r.w k)(hk:k≤1000000000000000):Pure Tryz.prog 66 [r.D,.v (.int .u32 1000),.v (.int .u32 12)] (dB (jj r)):=by
 refine qJ 45 Tryz.func66 rfl rfl rfl rfl (by kernel_rfl) (fun B0 F0 w0=>?_);obtain ⟨w1,w2,w3,w4⟩:=hw;obtain ⟨g,n,d⟩:=r;unfold jj
 dsimp only at w3 w4 ⊢
 refine qX 2 rfl ?_;refine qK 3 rfl ?_;rw[List.length_map];refine qU 1 rfl ?_;by_cases h1:n.length<2;rotate_left
 · rw[decide_eq_false (show ¬(n.length:Int)<2 by omega)];refine qU 35 rfl ?_;refine ab.nil ?_;rcases n with _ | ⟨x,_ | ⟨x2,n⟩⟩
   · exact absurd (show 0<2 by decide) h1
   · exact absurd (show 1<2 by decide) h1
   · exact AW.ret rfl
 rw[decide_eq_true (show (n.length:Int)<2 by omega)];refine qU 4 rfl ?_;rw[List.length_map];refine qU 1 rfl ?_;by_cases h2:d.length<2;rotate_left
 · rw[decide_eq_false (show ¬(d.length:Int)<2 by omega)];refine qU 30 rfl ?_;refine ab.nil ?_;rcases d with _ | ⟨x,_ | ⟨x2,d⟩⟩
   · exact absurd (show 0<2 by decide) h2
   · exact absurd (show 1<2 by decide) h2
   · rcases n with _ | ⟨x,_ | ⟨x2,n⟩⟩
     · exact AW.ret rfl
     · exact AW.ret rfl
     · exact AW.ret rfl
 rw[decide_eq_true (show (d.length:Int)<2 by omega)];rcases n with _ | ⟨x,_ | ⟨x2,n⟩⟩
 · refine qU 16 rfl ?_;rcases d with _ | ⟨y,_ | ⟨y2,d⟩⟩
   · refine qU 14 rfl ?_;exact qN rfl
   · dsimp only
     refine qU 7 rfl ?_;refine ab.idx tok (wd y) rfl rfl rfl rfl (Int.le_refl _) rfl ?_;refine qU 6 rfl ?_;refine ab.nil ?_;rw[show decide (y≤12)=decide ((y:Int)≤12) from decide_eq_decide.2 (by omega)];exact AW.ret rfl
   · exact absurd h2 (by simp)
 · refine qU 9 rfl ?_;refine ab.idx tok (wd x) rfl rfl rfl rfl (Int.le_refl _) rfl ?_;refine qU 6 rfl ?_;rw[show decide ((x:Int)≤1000)=decide (x≤1000) from decide_eq_decide.2 (by omega)];rcases d with _ | ⟨y,_ | ⟨y2,d⟩⟩
   · dsimp only
     generalize decide (x≤1000)=b;cases b
     · refine qU 14 rfl ?_;exact qN rfl
     · refine qU 14 rfl ?_;exact qN rfl
   · dsimp only
     generalize decide (x≤1000)=b;cases b
     · refine qU 14 rfl ?_;exact qN rfl
     · refine qU 7 rfl ?_;refine ab.idx tok (wd y) rfl rfl rfl rfl (Int.le_refl _) rfl ?_;refine qU 6 rfl ?_;refine ab.nil ?_;rw[show decide (y≤12)=decide ((y:Int)≤12) from decide_eq_decide.2 (by omega)];exact AW.ret rfl
   · exact absurd h2 (by simp)
 · exact absurd h1 (by simp)
end Lift
