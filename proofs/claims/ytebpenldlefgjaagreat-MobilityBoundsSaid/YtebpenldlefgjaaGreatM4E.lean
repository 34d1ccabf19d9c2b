/- Parts of the proof, one behind the other: the logic, the contracts of the functions that the statement reaches. -/
import Derived.Test.YtebpenldlefgjaaGreatM4D
set_option linter.unusedVariables false
set_option linter.unusedSimpArgs false
namespace Lift
open Go Go.Proofs
abbrev xl(Vs:List Value):List D:=Vs.map D.v
theorem iE{Vs:List Value}{i:Nat}(h:i<Vs.length):(xl Vs)[i]?=some (.v (Vs.getD i undef)):=by simp[h]
abbrev OA(Vs:List Value):AV:=AV.ow 27 (xl Vs)
abbrev CA(cols:List Nat):AV:=AV.ow 3 (cols.map (fun c:Nat=>dI c))
def hC(Vs:List Value)(a:cV):List LR:=List.zipWith (fun V r=>(V,iC r)) Vs a
theorem Io{Vs:List Value}{a:cV}(h:Vs.length=a.length)(V:Value)(r:List NQ):hC (Vs++[V]) (a++[r])=hC Vs a++[(V,iC r)]:=by
 unfold hC;rw[List.zipWith_append h];rfl
theorem jX{Vs:List Value}{a:cV}{j:Nat}(hV:j<Vs.length)(ha:j<a.length):(hC Vs a)[j]?=some (Vs.getD j undef,iC (a.getD j [])):=by
 unfold hC;simp[List.getElem?_zipWith,hV,ha]
theorem wE{Vs:List Value}{a:cV}{j:Nat}(hV:j<Vs.length)(ha:j<a.length)(V:Value)(r:List NQ):(hC Vs a).set j (V,iC r)=hC (Vs.set j V) (a.set j r):=by
 unfold hC;refine List.ext_getElem? (fun k=>?_);by_cases hk:k=j
 · subst hk;rw[List.getElem?_set_self (by simp;omega)];simp[List.getElem?_zipWith,hV,ha]
 · rw[List.getElem?_set_ne (Ne.symm hk)];simp[List.getElem?_zipWith,List.getElem?_set_ne (Ne.symm hk)]
theorem Gv{Vs:List Value}{j:Nat}(hV:j<Vs.length):Vs.set j (Vs.getD j undef)=Vs:=by
 refine List.ext_getElem? (fun k=>?_);by_cases hk:k=j
 · subst hk;rw[List.getElem?_set_self hV];simp[hV]
 · rw[List.getElem?_set_ne (Ne.symm hk)]
theorem AH{a:cV}{j:Nat}(ha:j<a.length):a.set j (a.getD j [])=a:=by
 refine List.ext_getElem? (fun k=>?_);by_cases hk:k=j
 · subst hk;rw[List.getElem?_set_self ha];simp[ha]
 · rw[List.getElem?_set_ne (Ne.symm hk)]
theorem Ah{Vs:List Value}{a:cV}{j:Nat}(hV:j<Vs.length)(ha:j<a.length)(r:List NQ):(hC Vs a).set j (Vs.getD j undef,iC r)=hC Vs (a.set j r):=by
 rw[wE hV ha,Gv hV]
def LN(Vs:List Value)(r t:Nat):List Value:=(Vs.set t (Vs.getD r undef)).set r (Vs.getD t undef)
theorem IH(Vs:List Value)(r t:Nat):(LN Vs r t).length=Vs.length:=by unfold LN;rw[List.length_set,List.length_set]
theorem Im{Vs:List Value}{a:cV}{r t:Nat}(h:Vs.length=a.length)(hr:r<a.length)(ht:t<a.length):
  ((hC Vs a).set t (Vs.getD r undef,iC (a.getD r []))).set r (Vs.getD t undef,iC (a.getD t []))=hC (LN Vs r t) (Gc a r t):=by
 rw[wE (by omega) ht,wE (by simp;omega) (by simp;omega)];rfl
theorem Il{Vs:List Value}{a:cV}{i r:Nat}(h:Vs.length=a.length)(hi:i<a.length)(hr:r<a.length)(hir:i≠r)(z:List NQ):
  ((hC Vs a).set i (Vs.getD i undef,iC z)).set r (Vs.getD r undef,iC (a.getD r []))=hC Vs (a.set i z):=by
 rw[Ah (by omega) hi];have e:a.getD r []=(a.set i z).getD r []:=by rw[eH,if_neg (fun g=>hir g.1.symm)]
 rw[e,Ah (by omega) (by simpa using hr),AH (by simpa using hr)]
section
variable {P:Program} {T:Ty} {B:Nat} {F0:Nat→Prop} {w0:cW} {n:Nat} {σ τ:St} {K:St→Prop} {all:Array Oper} {o:Oper} {d:Nat} {rest:List Oper} {R:List LR} {x:Code} {Q:Exit→List LR→St→Prop}
theorem ae.DI(hT:bB P T){k e i:Nat}{Vs:List Value}(V:Value)(hd:o.dst=none)(hg:aE all σ o=true)(hx:DS T σ o.op=some (k,.ow e (xl Vs),xl Vs,i,0,.v V))(hi:i<Vs.length)
  (h:ae P B F0 w0 n all rest K ((k,.ow e (xl (Vs.set i V)))::σ)):ae P B F0 w0 n all (o::rest) K σ:=by
 refine ae.kJ hT (.v (Vs.getD i undef)) hd hg hx (iE hi) rfl ?_;show ae P B F0 w0 n all rest K ((k,.ow e ((xl Vs).set i (.v V)))::σ);rw[show (xl Vs).set i (.v V)=xl (Vs.set i V) from (List.map_set ..).symm];exact h
theorem AZ.Hr(hT:bB P T){e eo:Nat}{te:TI}(he:T.get e=some te)(h1:te.size=1){Vr:Value}{X:LR}{Vs:List Value}{a:cV}(hl:Vs.length=a.length)
  (h:AZ P B F0 w0 n x Q [(Vr,.ow eo (a.map oH)),X] σ): ∀(m k:Nat),m+k=a.length→ ∀L:List LR,(∀j,k≤j→j<a.length→L[j]?=some (Vs.getD j undef,.ow e ((a.getD j []).map aq))) →
  AZ P B F0 w0 n x Q ((Vr,.ow eo ((a.take k).map oH++(xl Vs).drop k))::X::L) σ
 | 0,k,hk,L,hL=>by
   rw[List.take_of_length_le (by omega),List.drop_eq_nil_of_le (by rw[ah];omega),List.append_nil];refine AZ.Kj _ (fun i r hr=> .inl ?_) h
   match i,hr with
   | 0,hr=>exact hr
   | 1,hr=>exact hr
 | m+1,k,hk,L,hL=>by
   have hka:k<a.length:=by omega
   have hll:k<L.length:=(List.getElem?_eq_some_iff.1 (hL k (ai _) hka)).1;have hft:((a.take k).map oH).length=k:=by rw[ah,bb];omega
   refine AZ.Li hT (k+2) 0 k (cs:=(a.take k).map oH++(xl Vs).drop k) rfl (fun d hd=>?_) ?_ (hL k (ai _) hka) (by omega) he ?_
   · rcases List.mem_append.1 hd with g | g
     · obtain ⟨r,_,rfl⟩:=List.mem_map.1 g;rfl
     · obtain ⟨V,_,rfl⟩:=List.mem_map.1 (List.mem_of_mem_drop g);rfl
   · rw[List.getElem?_append_right (by omega),hft,Nat.sub_self,List.getElem?_drop,Nat.add_zero];exact iE (by omega)
   · have e1:((a.take k).map oH++(xl Vs).drop k).set k (.sl te.size ((a.getD k []).map aq))=(a.take (k+1)).map oH++(xl Vs).drop (k+1):=by
      rw[h1,List.set_append_right _ _ (by omega),hft,Nat.sub_self,List.take_succ_eq_append_getElem hka,List.map_append]
      have:(xl Vs).drop k= .v (Vs.getD k undef)::(xl Vs).drop (k+1):=by
       rw[List.drop_eq_getElem_cons (by rw[ah];omega)]
       congr 1
       have:=iE (Vs:=Vs) (i:=k) (by omega);rw[bQ (by rw[ah];omega)] at this;simpa using this
      rw[this,List.set_cons_zero,List.append_assoc];have g:a[k]=a.getD k []:=by rw[aN,bQ hka];rfl
      rw[g];rfl
     show AZ P B F0 w0 n x Q ((Vr,.ow eo (((a.take k).map oH++(xl Vs).drop k).set k (.sl te.size ((a.getD k []).map aq))))::X::L.set k (Vs.getD k undef,.junk)) σ;rw[e1]
     exact AZ.Hr hT he h1 hl h m (k+1) (by omega) (L.set k (Vs.getD k undef,.junk)) (fun j hj hja=>by
      rw[List.getElem?_set_ne (by omega)];exact hL j (by omega) hja)
end
abbrev JS(s:jK):D:= .ag [mS s.rows,.sl 1 (s.cols.map (fun c:Nat=>dI c)),dI s.sg,aq s.gX]
set_option maxHeartbeats 12800000 in
theorem r7{v:List NQ}(V:pa v){a:cV}{N most:Nat}(ha0:0<a.length)(ha:a.length≤1000000)(hN:N≤1000000)(hmost:most≤N)(hr:dk N a)(hl:rB v.length a)(ok: ∀c,c<most→kx v (aC v a c) c):
  Pure Tryz.prog 89 [gY v,mS a,dI most] (.tu [JS (aC v a most),aR]):=by
 refine qJ 205 Tryz.func89 rfl rfl rfl rfl (by kernel_rfl) (fun B F0 w0=>?_);have cone:=jd (Qr ((1:Int):Rat)) (k:=1) (iy _ (by have:=gy;rw[show ((1:Int):Rat)=1 from rfl];omega)) (by decide) (by decide) (BY _);rw[dc,show rU ((1:Int):Rat)=[1] from rfl] at cone;have htk:=fun {i:Nat} (hi:i<a.length)=>List.take_succ_eq_append_getElem (l:=a) hi;refine AZ.aw ?_;refine AZ.seq (AZ.jx (fun B1 F1 w1=>?_));refine qU 3 rfl (ae.nil ⟨rfl,?_⟩);refine AZ.seq (AZ.jx (fun B1 F1 w1=>?_));refine ae.call tok rfl rfl rfl rfl (iq 1 (by decide) (by decide)) ?_;refine ae.call tok rfl rfl rfl rfl cone (ae.Lv tok [.v ig,.v ig,dI 0,.sl 3 []] rfl rfl rfl rfl (by kernel_rfl) ?_);refine qU 2 rfl (ae.nil ⟨rfl,?_⟩);refine AZ.zl 27 ?_;refine AZ.zl 3 ?_;refine AZ.seq (AZ.seq ?_);refine AZ.jx (fun B1 F1 w1=>?_);refine qU 2 rfl ?_;rw[ah];refine qU 1 rfl (ae.nil ⟨rfl,?_⟩);refine AZ.block (AZ.aJ [2,3,6,7,8,22,23,24] (fun s:Nat×Value×List Value=>((s.2.1,OA s.2.2)::(ig,CA [])::hC s.2.2 (a.take s.1),[(2,.d (dI most)),(3,.bx [.sl 1 (v.map aq)]),(6,.bx [.sl 1 [],.sl 1 [],dI 0,.sl 3 []]),(7,.d aR),(8,.bx [.v s.2.1,.v ig,dI 1,aq [1]]),(22,.d (mS a)),(23,.d (dI a.length)),(24,.d (dI s.1))])) (fun s=>s.1≤a.length∧s.2.2.length=s.1) (fun s=>a.length-s.1) (0,ig,[]) rfl ⟨Nat.zero_le _,rfl⟩ (fun s hs=>?_));obtain ⟨i,Vr,Vs⟩:=s;obtain ⟨hi,hVs⟩:=hs
 dsimp only at hi hVs
 show AZ _ _ _ _ _ _ _ ((Vr,OA Vs)::(ig,CA [])::hC Vs (a.take i)) [(2,.d (dI most)),(3,.bx [.sl 1 (v.map aq)]),(6,.bx [.sl 1 [],.sl 1 [],dI 0,.sl 3 []]),(7,.d aR),(8,.bx [.v Vr,.v ig,dI 1,aq [1]]),(22,.d (mS a)),(23,.d (dI a.length)),(24,.d (dI i))];refine AZ.seq (AZ.jx (fun B1 F1 w1=>?_));refine qU 1 rfl (ae.nil ⟨rfl,?_⟩);refine AZ.seq ?_;refine AZ.cond rfl (fun h=>?_) (fun h=>?_)
 · have hii:i<a.length:=by have:=ak h;omega
   have hg:=getM oH (l:=a) (i:=i) hii;have hrl:(a.getD i []).length≤1000000:=by rw[hr i hii];exact hN
   have htk:=htk hii;have hge:a[i]=a.getD i []:=by rw[aN,bQ hii];rfl
   rw[hge] at htk;generalize a.getD i []=row at hg hrl htk;refine AZ.skip (AZ.seq (AZ.block (AZ.seq ?_)));refine AZ.jx (fun B1 F1 w1=>?_);refine ae.idx tok (oH row) rfl rfl rfl rfl (aj i) hg ?_;refine qU 2 rfl (ae.nil ⟨rfl,?_⟩);refine AZ.any aU (ZH.any (β:=[]) ?_);refine ZH.mv 2 rfl rfl (by kernel_rfl) (by kernel_rfl) (by kernel_rfl) rfl (fun _ _ _ h=>h) (fun _=>rfl) trivial (fun B1 F1 w1=>?_);refine qU 1 rfl (ae.nil ⟨rfl,?_⟩);refine ZH.fd tok 0 rfl rfl (by kernel_rfl) (by kernel_rfl) (by kernel_rfl) rfl (fun _ _ _ h=>h) (fun _=>rfl) trivial (fun B1 F1 w1=>?_);refine qU 1 rfl (ae.nil ⟨rfl,?_⟩);refine ZH.meet 3 (qB 8 31) (fun V=>(((Vr,OA Vs)::(ig,CA [])::hC Vs (a.take i))++[(V,iC row)])) (fun V=>[(2,.d (dI most)),(3,.bx [.sl 1 (v.map aq)]),(6,.bx [.sl 1 [],.sl 1 [],dI 0,.sl 3 []]),(7,.d aR),(8,.bx [.v Vr,.v ig,dI 1,aq [1]]),(22,.d (mS a)),(23,.d (dI a.length)),(24,.d (dI i)),(10,.d (oH row)),(30,.d (oH row)),(28,.pt 8 0),(29,.d (.v Vr)),(31,.d (.v V)),(32,.d (.sl 1 [.v V]))]) (fun V=>?_) (fun N1_2=>?_)
   · refine ZH.all 5 (by kernel_rfl) rfl rfl (fun _=>rfl) trivial ?_;refine ao.fq 29 0 rfl rfl rfl ?_;refine ao.cut 1 rfl (fun B1 F1 w1=>?_);refine ae.lP tok rfl rfl rfl rfl rfl rfl (by show ((xl Vs).length+1)*24≤_;rw[ah];omega) (by show (xl Vs).length+1≤_;rw[ah];omega) ?_;refine ae.nil ⟨rfl,?_⟩;refine ao.Bw 33 0 rfl rfl rfl rfl (fun Vq=>?_)
     refine ao.yj (R':=(Vq,OA (Vs++[V]))::(ig,CA [])::hC (Vs++[V]) (a.take (i+1))) (by
      show (Vq,AV.ow 27 (xl Vs++[.v V]))::(ig,CA [])::(hC Vs (a.take i)++[(V,iC row)])=_
      rw[htk,Io (by rw[bb];omega),show xl Vs++[.v V]=xl (Vs++[V]) by simp]) ?_
     refine ao.nil (ZH.to [2,3,6,7,8,22,23,24,10,30,28,32,33] [(2,.d (dI most)),(3,.bx [.sl 1 (v.map aq)]),(6,.bx [.sl 1 [],.sl 1 [],dI 0,.sl 3 []]),(7,.d aR),(8,.bx [.v Vr,.v ig,dI 1,aq [1]]),(22,.d (mS a)),(23,.d (dI a.length)),(24,.d (dI i)),(10,.d (oH row)),(30,.d (oH row)),(28,.pt 8 0),(32,.d (.sl 1 [.v V])),(33,.d (.v Vq))] rfl trivial ?_);refine ZH.all 6 (by kernel_rfl) rfl rfl (fun _=>rfl) trivial ?_;refine bJ (fun B1 F1 w1=>?_);refine qU 1 rfl (ae.nil ⟨rfl,?_⟩);refine ZH.all 7 (by kernel_rfl) rfl rfl (fun _=>rfl) trivial ?_;refine bJ (fun B1 F1 w1=>?_);refine qU 1 rfl (ae.nil ⟨rfl,?_⟩);refine ZH.done (by kernel_rfl) trivial ?_;refine AZ.to [2,3,6,7,8,22,23,24] [(2,.d (dI most)),(3,.bx [.sl 1 (v.map aq)]),(6,.bx [.sl 1 [],.sl 1 [],dI 0,.sl 3 []]),(7,.d aR),(8,.bx [.v Vq,.v ig,dI 1,aq [1]]),(22,.d (mS a)),(23,.d (dI a.length)),(24,.d (dI i))] rfl ?_;refine AZ.jx (fun B1 F1 w1=>?_);refine qU 1 rfl ?_;rw[aF (x:=(i:Int)+1) (by omega) (by omega)];refine qU 1 rfl (ae.nil ⟨rfl,?_⟩);exact⟨(i+1,Vq,Vs++[V]),rfl,⟨hii,by show (Vs++[V]).length=i+1;rw[List.length_append];show Vs.length+1=_;omega⟩,by show a.length-(i+1)<a.length-i;omega⟩
   refine ZH.meet 4 (qB 8 29) (fun V=>(((Vr,OA Vs)::(ig,CA [])::hC Vs (a.take i))++[(V,iC row)])) (fun V=>[(2,.d (dI most)),(3,.bx [.sl 1 (v.map aq)]),(6,.bx [.sl 1 [],.sl 1 [],dI 0,.sl 3 []]),(7,.d aR),(8,.bx [.v Vr,.v ig,dI 1,aq [1]]),(22,.d (mS a)),(23,.d (dI a.length)),(24,.d (dI i)),(10,.d (oH row)),(30,.d (oH row)),(28,.pt 8 0),(31,.d (.v V)),(32,.d (.sl 1 [.v V]))]) (fun V=>?_) (fun N0_2=>?_)
   · refine ZH.all 1 (by kernel_rfl) rfl rfl (fun _=>rfl) trivial ?_;refine bJ (fun B1 F1 w1=>?_);refine qU 1 rfl (ae.nil ⟨rfl,?_⟩);exact qL (N1_2 V) (by kernel_rfl) rfl trivial
   refine ZH.meet 4 (qB 8 15) (fun V=>(((Vr,OA Vs)::(ig,CA [])::hC Vs (a.take i))++[(V,iC row)])) (fun V=>[(2,.d (dI most)),(3,.bx [.sl 1 (v.map aq)]),(6,.bx [.sl 1 [],.sl 1 [],dI 0,.sl 3 []]),(7,.d aR),(8,.bx [.v Vr,.v ig,dI 1,aq [1]]),(22,.d (mS a)),(23,.d (dI a.length)),(24,.d (dI i)),(10,.d (oH row)),(30,.d (oH row)),(28,.pt 8 0),(29,.d (.v Vr)),(31,.d (.v V))]) (fun V=>?_) (fun N1_1=>?_)
   · refine ZH.all 4 (by kernel_rfl) rfl rfl (fun _=>rfl) trivial ?_;refine bJ (fun B1 F1 w1=>?_);refine ae.nR tok rfl rfl rfl rfl rfl ?_;refine ae.nil ⟨rfl,?_⟩;exact qL (N1_2 V) (by kernel_rfl) rfl trivial
   refine ZH.meet 5 (qB 8 13) (fun V=>(((Vr,OA Vs)::(ig,CA [])::hC Vs (a.take i))++[(V,iC row)])) (fun V=>[(2,.d (dI most)),(3,.bx [.sl 1 (v.map aq)]),(6,.bx [.sl 1 [],.sl 1 [],dI 0,.sl 3 []]),(7,.d aR),(8,.bx [.v Vr,.v ig,dI 1,aq [1]]),(22,.d (mS a)),(23,.d (dI a.length)),(24,.d (dI i)),(10,.d (oH row)),(30,.d (oH row)),(28,.pt 8 0),(31,.d (.v V))]) (fun V=>?_) (fun N0_1=>?_)
   · refine ZH.two 1 4 (by kernel_rfl) rfl rfl rfl rfl (fun _=>rfl) (fun _=>rfl) trivial ?_ ?_
     · refine bJ (fun B1 F1 w1=>?_);refine qU 1 rfl (ae.nil ⟨rfl,?_⟩);exact qL (N1_1 V) (by kernel_rfl) rfl trivial
     · refine bJ (fun B1 F1 w1=>?_);refine ae.nR tok rfl rfl rfl rfl rfl ?_;refine ae.nil ⟨rfl,?_⟩;exact qL (N0_2 V) (by kernel_rfl) rfl trivial
   refine ZH.meet 5 (qB 8 7) (fun V=>((Vr,OA Vs)::(ig,CA [])::hC Vs (a.take i))) (fun V=>[(2,.d (dI most)),(3,.bx [.sl 1 (v.map aq)]),(6,.bx [.sl 1 [],.sl 1 [],dI 0,.sl 3 []]),(7,.d aR),(8,.bx [.v Vr,.v ig,dI 1,aq [1]]),(22,.d (mS a)),(23,.d (dI a.length)),(24,.d (dI i)),(10,.d (oH row)),(30,.d (oH row)),(28,.pt 8 0),(29,.d (.v Vr))]) (fun V=>?_) (fun N1_0=>?_)
   · refine ZH.all 3 (by kernel_rfl) rfl rfl (fun _=>rfl) trivial ?_;refine ao.jw tok [] rfl rfl rfl rfl rfl List.nodup_nil rfl (BR row hrl) (fun _ _ _=>Nat.zero_le _) (fun res R1 hP=>?_);obtain ⟨V,rfl,rfl⟩:=hP;exact ao.nil (qL (N1_1 V) (by kernel_rfl) rfl trivial)
   refine ZH.meet 6 (qB 8 5) (fun V=>((Vr,OA Vs)::(ig,CA [])::hC Vs (a.take i))) (fun V=>[(2,.d (dI most)),(3,.bx [.sl 1 (v.map aq)]),(6,.bx [.sl 1 [],.sl 1 [],dI 0,.sl 3 []]),(7,.d aR),(8,.bx [.v Vr,.v ig,dI 1,aq [1]]),(22,.d (mS a)),(23,.d (dI a.length)),(24,.d (dI i)),(10,.d (oH row)),(30,.d (oH row)),(28,.pt 8 0)]) (fun V=>?_) (fun N0_0=>?_)
   · refine ZH.two 1 3 (by kernel_rfl) rfl rfl rfl rfl (fun _=>rfl) (fun _=>rfl) trivial ?_ ?_
     · refine bJ (fun B1 F1 w1=>?_);refine qU 1 rfl (ae.nil ⟨rfl,?_⟩);exact qL (N1_0 V) (by kernel_rfl) rfl trivial
     · refine ao.jw tok [] rfl rfl rfl rfl rfl List.nodup_nil rfl (BR row hrl) (fun _ _ _=>Nat.zero_le _) (fun res R1 hP=>?_);obtain ⟨V,rfl,rfl⟩:=hP;exact ao.nil (qL (N0_1 V) (by kernel_rfl) rfl trivial)
   exact qL (N0_0 ig) (by kernel_rfl) rfl trivial
 have hii:i=a.length:=by have:=ar h;omega
 subst hii;rw[List.take_length];refine AZ.exit ?_;refine AZ.seq (AZ.seq ?_);refine AZ.jx (fun B1 F1 w1=>?_);refine qU 2 rfl (ae.nil ⟨rfl,?_⟩);refine AZ.block (AZ.aJ [3,6,7,8,36,37] (fun z:Nat×Value×Value×List Value=>((z.2.1,OA z.2.2.2)::(z.2.2.1,CA (aC v a z.1).cols)::hC z.2.2.2 (aC v a z.1).rows,[(3,.bx [.sl 1 (v.map aq)]),(6,.bx [.sl 1 [],.sl 1 [],dI 0,.sl 3 []]),(7,.d aR),(8,.bx [.v z.2.1,.v z.2.2.1,dI (aC v a z.1).sg,aq (aC v a z.1).gX]),(36,.d (dI most)),(37,.d (dI z.1))])) (fun z=>z.1≤most∧z.2.2.2.length=a.length) (fun z=>most-z.1) (0,Vr,ig,Vs) rfl ⟨Nat.zero_le _,hVs⟩ (fun z hz=>?_));clear hVs;clear Vr Vs;obtain ⟨c,Vr,Vc,Vs⟩:=z;obtain ⟨hc,hVs⟩:=hz
 dsimp only at hc hVs
 have hR:=kj V hr hl c;have hnext:aC v a (c+1)=cL v (aC v a c) c:=rfl;have hok:=ok c;obtain ⟨s,hs⟩: ∃s,aC v a c=s:=⟨_,rfl⟩;rw[hs] at hR hnext hok;show AZ _ _ _ _ _ _ _ ((Vr,OA Vs)::(Vc,CA (aC v a c).cols)::hC Vs (aC v a c).rows) [(3,.bx [.sl 1 (v.map aq)]),(6,.bx [.sl 1 [],.sl 1 [],dI 0,.sl 3 []]),(7,.d aR),(8,.bx [.v Vr,.v Vc,dI (aC v a c).sg,aq (aC v a c).gX]),(36,.d (dI most)),(37,.d (dI c))];rw[hs];refine AZ.seq (AZ.jx (fun B1 F1 w1=>?_));refine qU 1 rfl (ae.nil ⟨rfl,?_⟩);refine AZ.seq (AZ.cond rfl (fun h=>?_) (fun h=>?_));rotate_left
 · have hcm:c=most:=by have:=ar h;omega
   subst hcm;rw[hs];refine AZ.exit ?_;refine AZ.Kj ((Vr,AV.ow 27 ((s.rows.take 0).map oH++(xl Vs).drop 0))::(Vc,CA s.cols)::hC Vs s.rows) (fun _ _ h=> .inl h) ?_;refine AZ.Hr (te:=_) tok (e:=52) rfl rfl (by rw[hR.len];exact hVs) ?_ s.rows.length 0 (by omega) (hC Vs s.rows) (fun j _ hj=>jX (by rw[hVs,← hR.len];exact hj) hj);refine AZ.Jz tok 8 0 0 rfl rfl rfl rfl ?_;refine AZ.Jz tok 8 1 1 rfl rfl rfl rfl ?_;refine AZ.seq (AZ.jx (fun B1 F1 w1=>?_));refine qU 3 rfl (ae.nil ⟨rfl,?_⟩);exact AZ.ret rfl
 have hcm:c<most:=by have:=ak h;omega
 have hok:=hok hcm;have hm:=hR.len;have hcN:c<N:=by omega
 have hVm:Vs.length=s.rows.length:=by omega
 have hrm:=hR.cm;rw[← hm] at hrm;obtain ⟨hat1,hat2,hat3,hat4⟩:=fj v s c hrm;have hrow0:0<s.rows.length:=by omega
 have hm6:s.rows.length≤1000000:=by omega
 have hel: ∀{b:cV} {i:Nat},dk N b→i<b.length→ ∀k,k<N→((b.getD i []).map aq)[k]?=some (aq (bk b i k)):=fun {b i} hb hi k hk=>getM aq (by rw[hb i hi];exact hk);refine AZ.skip (AZ.seq (AZ.block (AZ.seq ?_)));refine AZ.jx (fun B1 F1 w1=>?_);refine qU 2 rfl (ae.nil ⟨rfl,?_⟩);refine AZ.seq (AZ.region ?_);refine ao.cut 2 rfl (fun B1 F1 w1=>?_);refine qU 2 rfl (ae.nil ⟨rfl,?_⟩);refine ao.fq 41 1 rfl rfl rfl ?_;refine ao.cut 1 rfl (fun B1 F1 w1=>?_);refine qU 1 rfl ?_;rw[ah];refine ae.nil ⟨rfl,?_⟩;refine ao.back 41 1 rfl rfl rfl (List.Mem.head _) rfl ?_;refine ao.cut 1 rfl (fun B1 F1 w1=>?_);refine qU 1 rfl (ae.nil ⟨rfl,?_⟩);refine ao.nil (AZ.to [3,6,7,8,11,12,36,37] [(3,.bx [.sl 1 (v.map aq)]),(6,.bx [.sl 1 [],.sl 1 [],dI 0,.sl 3 []]),(7,.d aR),(8,.bx [.v Vr,.v Vc,dI s.sg,aq s.gX]),(11,.d (dI c)),(12,.d (dI s.cols.length)),(36,.d (dI most)),(37,.d (dI c))] rfl ?_);refine AZ.seq (AZ.jx (fun B1 F1 w1=>?_));refine qU 2 rfl (ae.nil ⟨rfl,?_⟩);refine AZ.cut [3,6,7,8,11,12,13,36,37] (fun _:Unit=>(((Vr,OA Vs)::(Vc,CA s.cols)::hC Vs s.rows),[(3,.bx [.sl 1 (v.map aq)]),(6,.bx [.sl 1 [],.sl 1 [],dI 0,.sl 3 []]),(7,.d aR),(8,.bx [.v Vr,.v Vc,dI s.sg,aq s.gX]),(11,.d (dI c)),(12,.d (dI s.cols.length)),(13,.d (dI (atR v s c))),(36,.d (dI most)),(37,.d (dI c))])) (fun _=>True) ?_ (fun _ _=>?_)
 · refine AZ.block (AZ.aJ [3,6,7,8,11,12,13,36,37] (fun j:Nat=>(((Vr,OA Vs)::(Vc,CA s.cols)::hC Vs s.rows),[(3,.bx [.sl 1 (v.map aq)]),(6,.bx [.sl 1 [],.sl 1 [],dI 0,.sl 3 []]),(7,.d aR),(8,.bx [.v Vr,.v Vc,dI s.sg,aq s.gX]),(11,.d (dI c)),(12,.d (dI s.cols.length)),(13,.d (dI j)),(36,.d (dI most)),(37,.d (dI c))])) (fun j=>s.cols.length≤j∧j≤s.rows.length∧jT (Mf v s.rows c) (s.rows.length-j) j=atR v s c) (fun j=>s.rows.length-j) s.cols.length rfl ⟨ai _,hrm,rfl⟩ (fun j hj=>?_));show AZ _ _ _ _ _ _ _ ((Vr,OA Vs)::(Vc,CA s.cols)::hC Vs s.rows) [(3,.bx [.sl 1 (v.map aq)]),(6,.bx [.sl 1 [],.sl 1 [],dI 0,.sl 3 []]),(7,.d aR),(8,.bx [.v Vr,.v Vc,dI s.sg,aq s.gX]),(11,.d (dI c)),(12,.d (dI s.cols.length)),(13,.d (dI j)),(36,.d (dI most)),(37,.d (dI c))];obtain ⟨j1,j2,j3⟩:=hj;refine AZ.seq (AZ.seq ?_);refine AZ.any aU (lQ.BO 18 (by kernel_rfl) (fun B1 F1 w1 hS=>?_));have hS0:=hS.at (i:=0) rfl (by rw[ah];omega);refine qP 3 rfl (af.lens tok hS0 rfl rfl rfl rfl rfl ?_);rw[ah];refine qP 1 rfl ?_;by_cases hjm:j<s.rows.length;rotate_left
   · rw[BG hjm] at j3;rw[a9 (show ¬(j:Int)<(Vs.length:Int) by omega)];refine qP 13 rfl (af.nil ⟨rfl,?_⟩);refine ao.nil (AZ.aD rfl ?_);exact AZ.exit ⟨(),by rw[← j3];rfl,trivial⟩
   rw[aO (show (j:Int)<(Vs.length:Int) by omega)];have hj6:(s.rows.getD j []).length=N:=hR.rect j hjm;have hS1:=hS.at (i:=j+2) (jX (Vs:=Vs) (by omega) hjm) (by rw[ah];omega);have cs:=nC V (hR.lt j c) (hok.sg j j1 hjm);have hnz:Mf v s.rows c j=decide (rD v (bk s.rows j c)≠0):=rfl;generalize rD v (bk s.rows j c)=g at cs hnz;refine qP 5 rfl ?_;refine af.idxs tok hS0 rfl rfl rfl rfl rfl (aj j) (by rw[ah];omega) ?_;refine af.eF tok (.v (Vs.getD j undef)) hS0 rfl rfl rfl rfl rfl rfl rfl (iE (by omega)) rfl ?_;refine qP 1 rfl ?_;refine af.idxs tok hS1 rfl rfl rfl rfl rfl (aj c) (by rw[ah];omega) ?_;refine af.eF tok (aq (bk s.rows j c)) hS1 rfl rfl rfl rfl rfl rfl rfl (hel hR.rect hjm c hcN) rfl ?_;refine af.call tok rfl rfl rfl rfl rfl cs (qP 2 rfl (af.nil ⟨rfl,?_⟩));refine ao.nil ?_;refine AZ.cond rfl (fun h=>?_) (fun h=>?_)
   · have hg:g=0:=beq_iff_eq.1 h;refine AZ.skip (AZ.block ?_);refine AZ.jx (fun B1 F1 w1=>?_);refine qU 2 rfl ?_;rw[aF (x:=(j:Int)+1) (by omega) (by omega)];refine qU 1 rfl (ae.nil ⟨rfl,?_⟩);exact⟨j+1,rfl,⟨by omega,hjm,by rw[← xZ hjm (by rw[hnz,hg];rfl)];exact j3⟩,by omega⟩
   · have hg:g≠0:=beq_eq_false_iff_ne.1 h;rw[BF hjm (by rw[hnz,aO hg])] at j3;exact AZ.exit ⟨(),by rw[← j3];rfl,trivial⟩
 show AZ _ _ _ _ _ _ _ ((Vr,OA Vs)::(Vc,CA s.cols)::hC Vs s.rows) [(3,.bx [.sl 1 (v.map aq)]),(6,.bx [.sl 1 [],.sl 1 [],dI 0,.sl 3 []]),(7,.d aR),(8,.bx [.v Vr,.v Vc,dI s.sg,aq s.gX]),(11,.d (dI c)),(12,.d (dI s.cols.length)),(13,.d (dI (atR v s c))),(36,.d (dI most)),(37,.d (dI c))];refine AZ.seq (AZ.seq ?_);refine AZ.GH (fun B1 F1 w1 hS=>?_);refine qU 3 rfl ?_;refine ae.lens tok (hS.at (i:=0) rfl (by rw[ah];omega)) rfl rfl rfl rfl ?_;rw[ah];refine qU 1 rfl (ae.nil ⟨rfl,?_⟩);refine AZ.cond rfl (fun h=>?_) (fun h=>?_)
 · have hat: ¬atR v s c<s.rows.length:=by have:=ak h;omega
   have hst:aC v a (c+1)=s:=by rw[hnext];unfold cL;rw[if_neg hat]
   refine AZ.exit ?_;refine AZ.jx (fun B1 F1 w1=>?_);refine qU 1 rfl ?_;rw[aF (x:=(c:Int)+1) (by omega) (by omega)];refine qU 1 rfl (ae.nil ⟨rfl,?_⟩);exact⟨(c+1,Vr,Vc,Vs),by rw[hst];rfl,⟨hcm,hVs⟩,by show most-(c+1)<most-c;omega⟩
 have hat:atR v s c<s.rows.length:=by have:=ar h;omega
 have hst:aC v a (c+1)=⟨dA v (eR v s c) s.cols.length c (eR v s c).length,s.cols++[c],if atR v s c=s.cols.length then s.sg else -s.sg,fQ v s.gX (pR v s c)⟩:=by rw[hnext];unfold cL;rw[if_pos hat]
 obtain ⟨hb1,hb2,hb3⟩:=rA (c:=c) hR hat;obtain ⟨he1,he2,he3⟩:=yb V (c:=c) hR hat;have hbr:bR v s c=if atR v s c=s.cols.length then s.rows else Gc s.rows s.cols.length (atR v s c):=rfl
 have hpr:pR v s c=bk (bR v s c) s.cols.length c:=rfl;have hE:eR v s c=(bR v s c).set s.cols.length (FJ v ((bR v s c).getD s.cols.length []) (pR v s c)):=rfl;have okd:=hok.gX hat;have okv:=hok.div hat;have oks:=hok.sg2 hat;have okt:=hok.take hat;generalize bR v s c=b at *;generalize pR v s c=p at *;generalize eR v s c=e at *;generalize atR v s c=t at *;refine AZ.skip ?_;refine AZ.cut [3,6,7,8,11,12,36,37] (fun Ws:List Value=>(((Vr,OA Ws)::(Vc,CA s.cols)::hC Ws b),[(3,.bx [.sl 1 (v.map aq)]),(6,.bx [.sl 1 [],.sl 1 [],dI 0,.sl 3 []]),(7,.d aR),(8,.bx [.v Vr,.v Vc,dI (if t=s.cols.length then s.sg else -s.sg),aq s.gX]),(11,.d (dI c)),(12,.d (dI s.cols.length)),(36,.d (dI most)),(37,.d (dI c))])) (fun Ws=>Ws.length=b.length) ?_ (fun Ws hWs=>?_)
 · refine AZ.seq (AZ.jx (fun B1 F1 w1=>?_));refine qU 3 rfl (ae.nil ⟨rfl,?_⟩);by_cases htr:t=s.cols.length
   · rw[if_pos htr] at hbr;rw[bne_eq_false_iff_eq.2 (show (t:Int)=(s.cols.length:Int) by omega)];refine AZ.aD rfl ?_;refine AZ.skip ?_;exact⟨Vs,by rw[if_pos htr,hbr];rfl,by omega⟩
   rw[if_neg htr] at hbr;rw[bne_iff_ne.2 (show (t:Int)≠(s.cols.length:Int) by omega)];refine AZ.aG rfl ?_;refine AZ.seq (AZ.any aU (ZH.any (β:=[(8,[.v Vr,.v Vc,dI s.sg,aq s.gX])]) ?_));refine ZH.mv 2 rfl rfl (by kernel_rfl) (by kernel_rfl) (by kernel_rfl) rfl (fun _ _ _ h=>h) (fun _=>rfl) ⟨rfl,trivial⟩ (fun B1 F1 w1=>?_);refine qU 1 rfl (ae.nil ⟨rfl,?_⟩);refine ZH.mv 5 rfl rfl (by kernel_rfl) (by kernel_rfl) (by kernel_rfl) rfl (fun _ _ _ h=>h) (fun _=>rfl) ⟨rfl,trivial⟩ (fun B1 F1 w1=>?_);refine qU 1 rfl (ae.nil ⟨rfl,?_⟩);refine ZH.mv 8 rfl rfl (by kernel_rfl) (by kernel_rfl) (by kernel_rfl) rfl (fun _ _ _ h=>h) (fun _=>rfl) ⟨rfl,trivial⟩ (fun B1 F1 w1=>?_);refine qU 1 rfl (ae.nil ⟨rfl,?_⟩);refine ZH.mv 13 rfl rfl (by kernel_rfl) (by kernel_rfl) (by kernel_rfl) rfl (fun _ _ _ h=>h) (fun _=>rfl) ⟨rfl,trivial⟩ (fun B1 F1 w1=>?_);refine qU 1 rfl (ae.nil ⟨rfl,?_⟩);refine ZH.fd tok 0 rfl rfl (by kernel_rfl) (by kernel_rfl) (by kernel_rfl) rfl (fun _ _ _ h=>h) (fun _=>rfl) ⟨rfl,trivial⟩ (fun B1 F1 w1=>?_);refine qU 1 rfl (ae.nil ⟨rfl,?_⟩);refine ZH.fd tok 3 rfl rfl (by kernel_rfl) (by kernel_rfl) (by kernel_rfl) rfl (fun _ _ _ h=>h) (fun _=>rfl) ⟨rfl,trivial⟩ (fun B1 F1 w1=>?_);refine qU 1 rfl (ae.nil ⟨rfl,?_⟩);refine ZH.fd tok 6 rfl rfl (by kernel_rfl) (by kernel_rfl) (by kernel_rfl) rfl (fun _ _ _ h=>h) (fun _=>rfl) ⟨rfl,trivial⟩ (fun B1 F1 w1=>?_);refine qU 1 rfl (ae.nil ⟨rfl,?_⟩);refine ZH.fd tok 11 rfl rfl (by kernel_rfl) (by kernel_rfl) (by kernel_rfl) rfl (fun _ _ _ h=>h) (fun _=>rfl) ⟨rfl,trivial⟩ (fun B1 F1 w1=>?_);refine qU 1 rfl (ae.nil ⟨rfl,?_⟩);refine ZH.ld tok 1 rfl rfl (by kernel_rfl) (by kernel_rfl) (by kernel_rfl) rfl rfl (fun _ _ _ h=>h) (fun _=>rfl) ⟨rfl,trivial⟩ (fun B1 F1 w1=>?_);refine qU 1 rfl (ae.nil ⟨rfl,?_⟩);refine ZH.ld tok 4 rfl rfl (by kernel_rfl) (by kernel_rfl) (by kernel_rfl) rfl rfl (fun _ _ _ h=>h) (fun _=>rfl) ⟨rfl,trivial⟩ (fun B1 F1 w1=>?_);refine qU 1 rfl (ae.nil ⟨rfl,?_⟩);refine ZH.ld tok 7 rfl rfl (by kernel_rfl) (by kernel_rfl) (by kernel_rfl) rfl rfl (fun _ _ _ h=>h) (fun _=>rfl) ⟨rfl,trivial⟩ (fun B1 F1 w1=>?_);refine qU 1 rfl (ae.nil ⟨rfl,?_⟩);refine ZH.ld tok 12 rfl rfl (by kernel_rfl) (by kernel_rfl) (by kernel_rfl) rfl rfl (fun _ _ _ h=>h) (fun _=>rfl) ⟨rfl,trivial⟩ (fun B1 F1 w1=>?_);refine qU 1 rfl (ae.nil ⟨rfl,?_⟩);refine ZH.meet 4 (qB 20 65535) (fun V=>((Vr,OA Vs)::(Vc,CA s.cols)::hC Vs s.rows)) (fun V=>[(3,.bx [.sl 1 (v.map aq)]),(6,.bx [.sl 1 [],.sl 1 [],dI 0,.sl 3 []]),(7,.d aR),(8,.bx [.v Vr,.v Vc,dI s.sg,aq s.gX]),(11,.d (dI c)),(12,.d (dI s.cols.length)),(13,.d (dI t)),(36,.d (dI most)),(37,.d (dI c)),(73,.d (.v Vr)),(74,.d (dI t)),(76,.d (.v Vr)),(77,.d (dI s.cols.length)),(79,.d (.v Vr)),(80,.d (dI s.cols.length)),(84,.d (.v Vr)),(85,.d (dI t)),(82,.d (.v (Vs.getD s.cols.length undef))),(87,.d (.v (Vs.getD t undef)))]) (fun V=>?_) (fun N2_2=>?_)
   · refine ZH.all 16 (by kernel_rfl) rfl rfl (fun _=>rfl) ⟨rfl,trivial⟩ ?_;refine bD (fun B1 F1 w1 hS=>?_);refine ae.idxs tok (hS.at (i:=0) rfl (by rw[ah];omega)) rfl rfl rfl rfl (aj _) (by show t<_;rw[ah];omega) ?_;refine ae.nil ⟨rfl,?_⟩;refine ZH.to [3,6,7,8,11,12,13,36,37,73,74,76,77,79,80,84,85,82,87,88] [(3,.bx [.sl 1 (v.map aq)]),(6,.bx [.sl 1 [],.sl 1 [],dI 0,.sl 3 []]),(7,.d aR),(8,.bx [.v Vr,.v Vc,dI s.sg,aq s.gX]),(11,.d (dI c)),(12,.d (dI s.cols.length)),(13,.d (dI t)),(36,.d (dI most)),(37,.d (dI c)),(73,.d (.v Vr)),(74,.d (dI t)),(76,.d (.v Vr)),(77,.d (dI s.cols.length)),(79,.d (.v Vr)),(80,.d (dI s.cols.length)),(84,.d (.v Vr)),(85,.d (dI t)),(82,.d (.v (Vs.getD s.cols.length undef))),(87,.d (.v (Vs.getD t undef))),(88,.d (.v (fc Vr (t*1))))] rfl ⟨rfl,trivial⟩ ?_;refine ZH.all 17 (by kernel_rfl) rfl rfl (fun _=>rfl) ⟨rfl,trivial⟩ ?_;refine ao.fq 73 0 rfl rfl rfl ?_;refine ao.el tok 73 88 rfl (List.Mem.head _) rfl rfl rfl (by rw[ah];omega) rfl ?_;refine ao.cut 1 rfl (fun B1 F1 w1=>?_);refine ae.DI tok (Vs.getD s.cols.length undef) rfl rfl rfl (by omega) ?_;refine ae.nil ⟨rfl,?_⟩;refine ao.back 73 0 rfl rfl rfl (List.Mem.head _) rfl ?_;refine ao.nil (ZH.to [3,6,7,8,11,12,13,36,37,73,74,76,77,79,80,84,85,82,87] [(3,.bx [.sl 1 (v.map aq)]),(6,.bx [.sl 1 [],.sl 1 [],dI 0,.sl 3 []]),(7,.d aR),(8,.bx [.v Vr,.v Vc,dI s.sg,aq s.gX]),(11,.d (dI c)),(12,.d (dI s.cols.length)),(13,.d (dI t)),(36,.d (dI most)),(37,.d (dI c)),(73,.d (.v Vr)),(74,.d (dI t)),(76,.d (.v Vr)),(77,.d (dI s.cols.length)),(79,.d (.v Vr)),(80,.d (dI s.cols.length)),(84,.d (.v Vr)),(85,.d (dI t)),(82,.d (.v (Vs.getD s.cols.length undef))),(87,.d (.v (Vs.getD t undef)))] rfl ⟨rfl,trivial⟩ ?_);refine ZH.all 18 (by kernel_rfl) rfl rfl (fun _=>rfl) ⟨rfl,trivial⟩ ?_;refine bD (fun B1 F1 w1 hS=>?_);refine ae.idxs tok (hS.at (i:=0) rfl (by rw[ah,List.length_set];omega)) rfl rfl rfl rfl (aj _) (by show s.cols.length<_;rw[ah,List.length_set];omega) ?_;refine ae.nil ⟨rfl,?_⟩;refine ZH.to [3,6,7,8,11,12,13,36,37,73,74,76,77,79,80,84,85,82,87,89] [(3,.bx [.sl 1 (v.map aq)]),(6,.bx [.sl 1 [],.sl 1 [],dI 0,.sl 3 []]),(7,.d aR),(8,.bx [.v Vr,.v Vc,dI s.sg,aq s.gX]),(11,.d (dI c)),(12,.d (dI s.cols.length)),(13,.d (dI t)),(36,.d (dI most)),(37,.d (dI c)),(73,.d (.v Vr)),(74,.d (dI t)),(76,.d (.v Vr)),(77,.d (dI s.cols.length)),(79,.d (.v Vr)),(80,.d (dI s.cols.length)),(84,.d (.v Vr)),(85,.d (dI t)),(82,.d (.v (Vs.getD s.cols.length undef))),(87,.d (.v (Vs.getD t undef))),(89,.d (.v (fc Vr (s.cols.length*1))))] rfl ⟨rfl,trivial⟩ ?_;refine ZH.all 19 (by kernel_rfl) rfl rfl (fun _=>rfl) ⟨rfl,trivial⟩ ?_;refine ao.fq 76 0 rfl rfl rfl ?_;refine ao.el tok 76 89 rfl (List.Mem.head _) rfl rfl rfl (by rw[ah,List.length_set];omega) rfl ?_;refine ao.cut 1 rfl (fun B1 F1 w1=>?_);refine ae.DI tok (Vs.getD t undef) rfl rfl rfl (by rw[List.length_set];omega) ?_;refine ae.nil ⟨rfl,?_⟩;refine ao.back 76 0 rfl rfl rfl (List.Mem.head _) rfl ?_;refine ao.nil (ZH.done (by kernel_rfl) ⟨rfl,trivial⟩ ?_);refine AZ.to [3,6,7,8,11,12,13,36,37] [(3,.bx [.sl 1 (v.map aq)]),(6,.bx [.sl 1 [],.sl 1 [],dI 0,.sl 3 []]),(7,.d aR),(8,.bx [.v Vr,.v Vc,dI s.sg,aq s.gX]),(11,.d (dI c)),(12,.d (dI s.cols.length)),(13,.d (dI t)),(36,.d (dI most)),(37,.d (dI c))] rfl ?_;refine AZ.Ga (t+2) (s.cols.length+2) (jX (Vs:=Vs) (by omega) hat) (jX (Vs:=Vs) (by omega) (by omega)) ?_;show AZ _ _ _ _ _ _ _ ((Vr,OA (LN Vs s.cols.length t))::(Vc,CA s.cols)::((hC Vs s.rows).set t (Vs.getD s.cols.length undef,iC (s.rows.getD s.cols.length []))).set s.cols.length (Vs.getD t undef,iC (s.rows.getD t []))) _;rw[Im (by omega) (by omega) hat,← hbr];refine AZ.jx (fun B1 F1 w1=>?_);refine qU 3 rfl ?_;rw[aF (x:=0-s.sg) (by have:=hR.sg;omega) (by have:=hR.sg;omega),Int.zero_sub];refine qU 2 rfl (ae.nil ⟨rfl,?_⟩);exact⟨LN Vs s.cols.length t,by rw[if_neg htr];rfl,by show (LN Vs s.cols.length t).length=_;rw[IH,hb1];omega⟩
   refine ZH.meet 5 (qB 20 64511) (fun V=>((Vr,OA Vs)::(Vc,CA s.cols)::hC Vs s.rows)) (fun V=>[(3,.bx [.sl 1 (v.map aq)]),(6,.bx [.sl 1 [],.sl 1 [],dI 0,.sl 3 []]),(7,.d aR),(8,.bx [.v Vr,.v Vc,dI s.sg,aq s.gX]),(11,.d (dI c)),(12,.d (dI s.cols.length)),(13,.d (dI t)),(36,.d (dI most)),(37,.d (dI c)),(73,.d (.v Vr)),(74,.d (dI t)),(76,.d (.v Vr)),(77,.d (dI s.cols.length)),(79,.d (.v Vr)),(80,.d (dI s.cols.length)),(84,.d (.v Vr)),(85,.d (dI t)),(81,.d (.v (fc Vr (s.cols.length*1)))),(87,.d (.v (Vs.getD t undef)))]) (fun V=>?_) (fun N1_2=>?_)
   · refine ZH.all 10 (by kernel_rfl) rfl rfl (fun _=>rfl) ⟨rfl,trivial⟩ ?_;refine bD (fun B1 F1 w1 hS=>?_);refine ae.eF tok (.v (Vs.getD s.cols.length undef)) (hS.at (i:=0) rfl (by rw[ah];omega)) rfl rfl rfl rfl rfl rfl (iE (by omega)) rfl ?_;refine ae.nil ⟨rfl,?_⟩;exact qL (N2_2 V) (by kernel_rfl) rfl ⟨rfl,trivial⟩
   refine ZH.meet 5 (qB 20 32767) (fun V=>((Vr,OA Vs)::(Vc,CA s.cols)::hC Vs s.rows)) (fun V=>[(3,.bx [.sl 1 (v.map aq)]),(6,.bx [.sl 1 [],.sl 1 [],dI 0,.sl 3 []]),(7,.d aR),(8,.bx [.v Vr,.v Vc,dI s.sg,aq s.gX]),(11,.d (dI c)),(12,.d (dI s.cols.length)),(13,.d (dI t)),(36,.d (dI most)),(37,.d (dI c)),(73,.d (.v Vr)),(74,.d (dI t)),(76,.d (.v Vr)),(77,.d (dI s.cols.length)),(79,.d (.v Vr)),(80,.d (dI s.cols.length)),(84,.d (.v Vr)),(85,.d (dI t)),(82,.d (.v (Vs.getD s.cols.length undef))),(86,.d (.v (fc Vr (t*1))))]) (fun V=>?_) (fun N2_1=>?_)
   · refine ZH.all 15 (by kernel_rfl) rfl rfl (fun _=>rfl) ⟨rfl,trivial⟩ ?_;refine bD (fun B1 F1 w1 hS=>?_);refine ae.eF tok (.v (Vs.getD t undef)) (hS.at (i:=0) rfl (by rw[ah];omega)) rfl rfl rfl rfl rfl rfl (iE (by omega)) rfl ?_;refine ae.nil ⟨rfl,?_⟩;exact qL (N2_2 V) (by kernel_rfl) rfl ⟨rfl,trivial⟩
   refine ZH.meet 6 (qB 20 63999) (fun V=>((Vr,OA Vs)::(Vc,CA s.cols)::hC Vs s.rows)) (fun V=>[(3,.bx [.sl 1 (v.map aq)]),(6,.bx [.sl 1 [],.sl 1 [],dI 0,.sl 3 []]),(7,.d aR),(8,.bx [.v Vr,.v Vc,dI s.sg,aq s.gX]),(11,.d (dI c)),(12,.d (dI s.cols.length)),(13,.d (dI t)),(36,.d (dI most)),(37,.d (dI c)),(73,.d (.v Vr)),(74,.d (dI t)),(76,.d (.v Vr)),(77,.d (dI s.cols.length)),(79,.d (.v Vr)),(80,.d (dI s.cols.length)),(84,.d (.v Vr)),(85,.d (dI t)),(87,.d (.v (Vs.getD t undef)))]) (fun V=>?_) (fun N0_2=>?_)
   · refine ZH.all 9 (by kernel_rfl) rfl rfl (fun _=>rfl) ⟨rfl,trivial⟩ ?_;refine bD (fun B1 F1 w1 hS=>?_);refine ae.idxs tok (hS.at (i:=0) rfl (by rw[ah];omega)) rfl rfl rfl rfl (aj _) (by show s.cols.length<_;rw[ah];omega) ?_;refine ae.nil ⟨rfl,?_⟩;exact qL (N1_2 V) (by kernel_rfl) rfl ⟨rfl,trivial⟩
   refine ZH.meet 6 (qB 20 31743) (fun V=>((Vr,OA Vs)::(Vc,CA s.cols)::hC Vs s.rows)) (fun V=>[(3,.bx [.sl 1 (v.map aq)]),(6,.bx [.sl 1 [],.sl 1 [],dI 0,.sl 3 []]),(7,.d aR),(8,.bx [.v Vr,.v Vc,dI s.sg,aq s.gX]),(11,.d (dI c)),(12,.d (dI s.cols.length)),(13,.d (dI t)),(36,.d (dI most)),(37,.d (dI c)),(73,.d (.v Vr)),(74,.d (dI t)),(76,.d (.v Vr)),(77,.d (dI s.cols.length)),(79,.d (.v Vr)),(80,.d (dI s.cols.length)),(84,.d (.v Vr)),(85,.d (dI t)),(81,.d (.v (fc Vr (s.cols.length*1)))),(86,.d (.v (fc Vr (t*1))))]) (fun V=>?_) (fun N1_1=>?_)
   · refine ZH.two 10 15 (by kernel_rfl) rfl rfl rfl rfl (fun _=>rfl) (fun _=>rfl) ⟨rfl,trivial⟩ ?_ ?_
     · refine bD (fun B1 F1 w1 hS=>?_);refine ae.eF tok (.v (Vs.getD s.cols.length undef)) (hS.at (i:=0) rfl (by rw[ah];omega)) rfl rfl rfl rfl rfl rfl (iE (by omega)) rfl ?_;refine ae.nil ⟨rfl,?_⟩;exact qL (N2_1 V) (by kernel_rfl) rfl ⟨rfl,trivial⟩
     · refine bD (fun B1 F1 w1 hS=>?_);refine ae.eF tok (.v (Vs.getD t undef)) (hS.at (i:=0) rfl (by rw[ah];omega)) rfl rfl rfl rfl rfl rfl (iE (by omega)) rfl ?_;refine ae.nil ⟨rfl,?_⟩;exact qL (N1_2 V) (by kernel_rfl) rfl ⟨rfl,trivial⟩
   refine ZH.meet 6 (qB 20 16383) (fun V=>((Vr,OA Vs)::(Vc,CA s.cols)::hC Vs s.rows)) (fun V=>[(3,.bx [.sl 1 (v.map aq)]),(6,.bx [.sl 1 [],.sl 1 [],dI 0,.sl 3 []]),(7,.d aR),(8,.bx [.v Vr,.v Vc,dI s.sg,aq s.gX]),(11,.d (dI c)),(12,.d (dI s.cols.length)),(13,.d (dI t)),(36,.d (dI most)),(37,.d (dI c)),(73,.d (.v Vr)),(74,.d (dI t)),(76,.d (.v Vr)),(77,.d (dI s.cols.length)),(79,.d (.v Vr)),(80,.d (dI s.cols.length)),(84,.d (.v Vr)),(85,.d (dI t)),(82,.d (.v (Vs.getD s.cols.length undef)))]) (fun V=>?_) (fun N2_0=>?_)
   · refine ZH.all 14 (by kernel_rfl) rfl rfl (fun _=>rfl) ⟨rfl,trivial⟩ ?_;refine bD (fun B1 F1 w1 hS=>?_);refine ae.idxs tok (hS.at (i:=0) rfl (by rw[ah];omega)) rfl rfl rfl rfl (aj _) (by show t<_;rw[ah];omega) ?_;refine ae.nil ⟨rfl,?_⟩;exact qL (N2_1 V) (by kernel_rfl) rfl ⟨rfl,trivial⟩
   refine ZH.meet 7 (qB 20 31231) (fun V=>((Vr,OA Vs)::(Vc,CA s.cols)::hC Vs s.rows)) (fun V=>[(3,.bx [.sl 1 (v.map aq)]),(6,.bx [.sl 1 [],.sl 1 [],dI 0,.sl 3 []]),(7,.d aR),(8,.bx [.v Vr,.v Vc,dI s.sg,aq s.gX]),(11,.d (dI c)),(12,.d (dI s.cols.length)),(13,.d (dI t)),(36,.d (dI most)),(37,.d (dI c)),(73,.d (.v Vr)),(74,.d (dI t)),(76,.d (.v Vr)),(77,.d (dI s.cols.length)),(79,.d (.v Vr)),(80,.d (dI s.cols.length)),(84,.d (.v Vr)),(85,.d (dI t)),(86,.d (.v (fc Vr (t*1))))]) (fun V=>?_) (fun N0_1=>?_)
   · refine ZH.two 9 15 (by kernel_rfl) rfl rfl rfl rfl (fun _=>rfl) (fun _=>rfl) ⟨rfl,trivial⟩ ?_ ?_
     · refine bD (fun B1 F1 w1 hS=>?_);refine ae.idxs tok (hS.at (i:=0) rfl (by rw[ah];omega)) rfl rfl rfl rfl (aj _) (by show s.cols.length<_;rw[ah];omega) ?_;refine ae.nil ⟨rfl,?_⟩;exact qL (N1_1 V) (by kernel_rfl) rfl ⟨rfl,trivial⟩
     · refine bD (fun B1 F1 w1 hS=>?_);refine ae.eF tok (.v (Vs.getD t undef)) (hS.at (i:=0) rfl (by rw[ah];omega)) rfl rfl rfl rfl rfl rfl (iE (by omega)) rfl ?_;refine ae.nil ⟨rfl,?_⟩;exact qL (N0_2 V) (by kernel_rfl) rfl ⟨rfl,trivial⟩
   refine ZH.meet 7 (qB 20 15359) (fun V=>((Vr,OA Vs)::(Vc,CA s.cols)::hC Vs s.rows)) (fun V=>[(3,.bx [.sl 1 (v.map aq)]),(6,.bx [.sl 1 [],.sl 1 [],dI 0,.sl 3 []]),(7,.d aR),(8,.bx [.v Vr,.v Vc,dI s.sg,aq s.gX]),(11,.d (dI c)),(12,.d (dI s.cols.length)),(13,.d (dI t)),(36,.d (dI most)),(37,.d (dI c)),(73,.d (.v Vr)),(74,.d (dI t)),(76,.d (.v Vr)),(77,.d (dI s.cols.length)),(79,.d (.v Vr)),(80,.d (dI s.cols.length)),(84,.d (.v Vr)),(85,.d (dI t)),(81,.d (.v (fc Vr (s.cols.length*1))))]) (fun V=>?_) (fun N1_0=>?_)
   · refine ZH.two 10 14 (by kernel_rfl) rfl rfl rfl rfl (fun _=>rfl) (fun _=>rfl) ⟨rfl,trivial⟩ ?_ ?_
     · refine bD (fun B1 F1 w1 hS=>?_);refine ae.eF tok (.v (Vs.getD s.cols.length undef)) (hS.at (i:=0) rfl (by rw[ah];omega)) rfl rfl rfl rfl rfl rfl (iE (by omega)) rfl ?_;refine ae.nil ⟨rfl,?_⟩;exact qL (N2_0 V) (by kernel_rfl) rfl ⟨rfl,trivial⟩
     · refine bD (fun B1 F1 w1 hS=>?_);refine ae.idxs tok (hS.at (i:=0) rfl (by rw[ah];omega)) rfl rfl rfl rfl (aj _) (by show t<_;rw[ah];omega) ?_;refine ae.nil ⟨rfl,?_⟩;exact qL (N1_1 V) (by kernel_rfl) rfl ⟨rfl,trivial⟩
   refine ZH.meet 8 (qB 20 14847) (fun V=>((Vr,OA Vs)::(Vc,CA s.cols)::hC Vs s.rows)) (fun V=>[(3,.bx [.sl 1 (v.map aq)]),(6,.bx [.sl 1 [],.sl 1 [],dI 0,.sl 3 []]),(7,.d aR),(8,.bx [.v Vr,.v Vc,dI s.sg,aq s.gX]),(11,.d (dI c)),(12,.d (dI s.cols.length)),(13,.d (dI t)),(36,.d (dI most)),(37,.d (dI c)),(73,.d (.v Vr)),(74,.d (dI t)),(76,.d (.v Vr)),(77,.d (dI s.cols.length)),(79,.d (.v Vr)),(80,.d (dI s.cols.length)),(84,.d (.v Vr)),(85,.d (dI t))]) (fun V=>?_) (fun N0_0=>?_)
   · refine ZH.two 9 14 (by kernel_rfl) rfl rfl rfl rfl (fun _=>rfl) (fun _=>rfl) ⟨rfl,trivial⟩ ?_ ?_
     · refine bD (fun B1 F1 w1 hS=>?_);refine ae.idxs tok (hS.at (i:=0) rfl (by rw[ah];omega)) rfl rfl rfl rfl (aj _) (by show s.cols.length<_;rw[ah];omega) ?_;refine ae.nil ⟨rfl,?_⟩;exact qL (N1_0 V) (by kernel_rfl) rfl ⟨rfl,trivial⟩
     · refine bD (fun B1 F1 w1 hS=>?_);refine ae.idxs tok (hS.at (i:=0) rfl (by rw[ah];omega)) rfl rfl rfl rfl (aj _) (by show t<_;rw[ah];omega) ?_;refine ae.nil ⟨rfl,?_⟩;exact qL (N0_1 V) (by kernel_rfl) rfl ⟨rfl,trivial⟩
   exact qL (N0_0 ig) (by kernel_rfl) rfl ⟨rfl,trivial⟩
 obtain ⟨sg,hsg⟩: ∃sg,(if t=s.cols.length then s.sg else -s.sg)=sg:=⟨_,rfl⟩;obtain ⟨r,hrr⟩: ∃r,s.cols.length=r:=⟨_,rfl⟩;have hrb:r<b.length:=by omega
 have hrN:(b.getD r []).length=N:=hb2 r hrb;have okc:=uO V hR.gX (by rw[hpr];exact hb3 _ _) okd;rw[hsg] at hst;rw[hrr] at hst hpr hE okv oks okt;show AZ _ _ _ _ _ _ _ ((Vr,OA Ws)::(Vc,CA s.cols)::hC Ws b) [(3,.bx [.sl 1 (v.map aq)]),(6,.bx [.sl 1 [],.sl 1 [],dI 0,.sl 3 []]),(7,.d aR),(8,.bx [.v Vr,.v Vc,dI (if t=s.cols.length then s.sg else -s.sg),aq s.gX]),(11,.d (dI c)),(12,.d (dI s.cols.length)),(36,.d (dI most)),(37,.d (dI c))];rw[hsg,hrr];refine AZ.seq (AZ.GH (fun B1 F1 w1 hS=>?_));refine qU 3 rfl ?_;refine ae.idxs tok (hS.at (i:=0) rfl (by rw[ah];omega)) rfl rfl rfl rfl (aj _) (by show r<_;rw[ah];omega) ?_;refine ae.eF tok (.v (Ws.getD r undef)) (hS.at (i:=0) rfl (by rw[ah];omega)) rfl rfl rfl rfl rfl rfl (iE (by omega)) rfl ?_;refine qU 1 rfl ?_;refine ae.idxs tok (hS.at (i:=r+2) (jX (Vs:=Ws) (by omega) hrb) (by rw[ah];omega)) rfl rfl rfl rfl (aj c) (by rw[ah];omega) ?_;refine ae.eF tok (aq (bk b r c)) (hS.at (i:=r+2) (jX (Vs:=Ws) (by omega) hrb) (by rw[ah];omega)) rfl rfl rfl rfl rfl rfl (hel hb2 hrb c hcN) rfl ?_;rw[← hpr];refine qU 1 rfl (ae.nil ⟨rfl,?_⟩);refine AZ.seq (AZ.jx (fun B1 F1 w1=>?_));refine qU 1 rfl (ae.nil ⟨rfl,?_⟩);refine AZ.seq (AZ.seq ?_);refine AZ.jx (fun B1 F1 w1=>?_);refine qU 4 rfl (ae.call tok rfl rfl rfl rfl okc (qU 6 rfl (ae.nil ⟨rfl,?_⟩)));refine AZ.seq (AZ.jx (fun B1 F1 w1=>?_));refine qU 1 rfl (ae.err tok rfl rfl rfl rfl rfl (ae.nil ⟨rfl,?_⟩));refine AZ.aD rfl ?_;refine AZ.skip ?_;generalize fQ v s.gX p=gX at *;obtain ⟨row,hrow⟩: ∃row,b.getD r []=row:=⟨_,rfl⟩;have hz:=zh v row p;have hsr: ∀k,bk b r k=row.getD k []:=fun k=>by unfold bk;rw[hrow]
 have hb0:hC Ws b=hC Ws (b.set r row):=by rw[← hrow,AH hrb]
 have hgr: ∀q:List NQ,(hC Ws (b.set r q))[r]?=some (Ws.getD r undef,iC q):=fun q=>by
  rw[jX (by omega) (by simpa using hrb),eH,if_pos ⟨rfl,hrb⟩]
 rw[hrow] at hE hrN okv;rw[hb0];refine AZ.seq (AZ.seq ?_);refine AZ.GH (fun B1 F1 w1 hS=>?_);refine qU 3 rfl ?_;refine ae.idxs tok (hS.at (i:=0) rfl (by rw[ah];omega)) rfl rfl rfl rfl (aj _) (by show r<_;rw[ah];omega) ?_;refine ae.eF tok (.v (Ws.getD r undef)) (hS.at (i:=0) rfl (by rw[ah];omega)) rfl rfl rfl rfl rfl rfl (iE (by omega)) rfl ?_;refine ae.lens tok (hS.at (i:=r+2) (hgr row) (by rw[ah];omega)) rfl rfl rfl rfl ?_;rw[ah,hrN];refine qU 1 rfl (ae.nil ⟨rfl,?_⟩);refine AZ.block ?_;refine AZ.aJ [3,6,7,8,11,12,14,36,37,120,121] (fun k:Nat=>(((Vr,OA Ws)::(Vc,CA s.cols)::hC Ws (b.set r (kt (FJ v row p) row k))),[(3,.bx [.sl 1 (v.map aq)]),(6,.bx [.sl 1 [],.sl 1 [],dI 0,.sl 3 []]),(7,.d aR),(8,.bx [.v Vr,.v Vc,dI sg,aq gX]),(11,.d (dI c)),(12,.d (dI r)),(14,.d (aq p)),(36,.d (dI most)),(37,.d (dI c)),(120,.d (dI N)),(121,.d (dI k))])) (fun k=>k≤N) (fun k=>N-k) 0 (by rw[xU];rfl) (Nat.zero_le _) (fun k hk=>?_);show AZ _ _ _ _ _ _ _ ((Vr,OA Ws)::(Vc,CA s.cols)::hC Ws (b.set r (kt (FJ v row p) row k))) [(3,.bx [.sl 1 (v.map aq)]),(6,.bx [.sl 1 [],.sl 1 [],dI 0,.sl 3 []]),(7,.d aR),(8,.bx [.v Vr,.v Vc,dI sg,aq gX]),(11,.d (dI c)),(12,.d (dI r)),(14,.d (aq p)),(36,.d (dI most)),(37,.d (dI c)),(120,.d (dI N)),(121,.d (dI k))];refine AZ.seq (AZ.jx (fun B1 F1 w1=>?_));refine qU 1 rfl (ae.nil ⟨rfl,?_⟩);refine AZ.seq ?_;refine AZ.cond rfl (fun h=>?_) (fun h=>?_)
 · have hkN:k<N:=by have:=ak h;omega
   have hpl:=vD hz (i:=k) (by omega);have hpg:=Br hz (show k<row.length by omega) [];have hps:=Bq hz (show k<row.length by omega) (d:=[]) (uj v row p (show k<row.length by omega));have cd:=Ck V (a:=row.getD k []) (b:=p) (by rw[← hrow];exact hb3 r k) (by rw[hpr];exact hb3 _ _) (by have:=okv k (by omega);rw[hsr] at this;exact this);generalize kt (FJ v row p) row k=q at *;generalize row.getD k []=X at *;generalize xc v X p=Y at *;refine AZ.skip (AZ.seq (AZ.block (AZ.seq ?_)));refine AZ.jx (fun B1 F1 w1=>?_);refine qU 2 rfl (ae.nil ⟨rfl,?_⟩);refine AZ.seq (AZ.any aU (lQ.MH [(19,20)] (by kernel_rfl) (fun _ _ _ h=>h) (fun _ _ h=>h) (lQ.BO 20 (by kernel_rfl) (fun B1 F1 w1 hS=>?_))));have hS0:=hS.at (i:=0) rfl (by rw[ah];omega);have hS1:=hS.at (i:=r+2) (hgr q) (by rw[ah];omega);refine qP 3 rfl ?_;refine af.idxs tok hS0 rfl rfl rfl rfl rfl (aj r) (by rw[ah];omega) ?_;refine af.eF tok (.v (Ws.getD r undef)) hS0 rfl rfl rfl rfl rfl rfl rfl (iE (by omega)) rfl ?_;refine qP 5 rfl ?_;refine af.idxs tok hS0 rfl rfl rfl rfl rfl (aj r) (by rw[ah];omega) ?_;refine af.eF tok (.v (Ws.getD r undef)) hS0 rfl rfl rfl rfl rfl rfl rfl (iE (by omega)) rfl ?_;refine qP 1 rfl ?_;refine af.idxs tok hS1 rfl rfl rfl rfl rfl (aj k) (by rw[ah];omega) ?_;refine af.eF tok (aq (q.getD k [])) hS1 rfl rfl rfl rfl rfl rfl rfl (getM aq (by omega)) rfl ?_;rw[hpg];refine qP 1 rfl (af.call tok rfl rfl rfl rfl rfl cd (qP 3 rfl (af.nil ⟨rfl,?_⟩)));refine ao.to [129,130,142,143,3,6,7,8,11,12,14,36,37,120,121] [(129,.d (.v (Ws.getD r undef))),(130,.d (dI k)),(142,.d (aq Y)),(143,.d aR),(3,.bx [.sl 1 (v.map aq)]),(6,.bx [.sl 1 [],.sl 1 [],dI 0,.sl 3 []]),(7,.d aR),(8,.bx [.v Vr,.v Vc,dI sg,aq gX]),(11,.d (dI c)),(12,.d (dI r)),(14,.d (aq p)),(36,.d (dI most)),(37,.d (dI c)),(120,.d (dI N)),(121,.d (dI k))] rfl ?_;refine ao.MJ 1 rfl (fun B1 F1 w1 hS=>?_);refine ae.idxs tok (hS.at (i:=r+2) (hgr q) (by rw[ah];omega)) rfl rfl rfl rfl (aj k) (by rw[ah];omega) ?_;refine ae.nil ⟨rfl,?_⟩;refine ao.fq 129 (r+2) (hgr q) rfl rfl ?_;refine ao.el (k:=k) tok 129 144 rfl (List.Mem.head _) rfl rfl rfl (by rw[ah];omega) rfl ?_;refine ao.cut 1 rfl (fun B1 F1 w1=>?_);refine ae.Co tok Y rfl rfl rfl (by omega) ?_;rw[hps];refine ae.nil ⟨rfl,?_⟩;refine ao.back 129 (r+2) rfl rfl rfl (List.Mem.head _) (List.getElem?_set_self (by have:=(List.getElem?_eq_some_iff.1 (hgr q)).1;simp only[List.length_cons];omega)) ?_
   refine ao.yj (R':=((Vr,OA Ws)::(Vc,CA s.cols)::hC Ws (b.set r (kt (FJ v row p) row (k+1))))) (by
    show (Vr,OA Ws)::(Vc,CA s.cols)::((hC Ws (b.set r q)).set r _).set r _=_
    rw[List.set_set,Ah (by omega) (by simpa using hrb),List.set_set]) ?_
   refine ao.cut 1 rfl (fun B1 F1 w1=>?_);refine qU 1 rfl (ae.nil ⟨rfl,?_⟩);refine ao.nil (AZ.to [3,6,7,8,11,12,14,36,37,15,120,121] [(3,.bx [.sl 1 (v.map aq)]),(6,.bx [.sl 1 [],.sl 1 [],dI 0,.sl 3 []]),(7,.d aR),(8,.bx [.v Vr,.v Vc,dI sg,aq gX]),(11,.d (dI c)),(12,.d (dI r)),(14,.d (aq p)),(36,.d (dI most)),(37,.d (dI c)),(15,.d aR),(120,.d (dI N)),(121,.d (dI k))] rfl ?_);refine AZ.seq (AZ.jx (fun B1 F1 w1=>?_));refine qU 1 rfl (ae.err tok rfl rfl rfl rfl rfl (ae.nil ⟨rfl,?_⟩));refine AZ.aD rfl ?_;refine AZ.skip (AZ.jx (fun B1 F1 w1=>?_));refine qU 1 rfl ?_;rw[aF (x:=(k:Int)+1) (by omega) (by omega)];refine qU 1 rfl (ae.nil ⟨rfl,?_⟩);exact⟨k+1,rfl,hkN,by omega⟩
 have hkN:k=N:=by have:=ar h;omega
 subst hkN;rw[show kt (FJ v row p) row k=FJ v row p by rw[← hrN];exact Bs hz,← hE];refine AZ.exit ?_;have hWe:Ws.length=e.length:=by omega
 have hre:r<e.length:=by omega
 have he2c:e.length=s.rows.length:=by omega
 refine AZ.seq (AZ.seq ?_);refine AZ.GH (fun B1 F1 w1 hS=>?_);refine qU 2 rfl ?_;refine ae.lens tok (hS.at (i:=0) rfl (by rw[ah];omega)) rfl rfl rfl rfl ?_;rw[ah,hWe];refine qU 1 rfl (ae.nil ⟨rfl,?_⟩);refine AZ.block (AZ.aJ [3,6,7,8,11,12,36,37,152,153] (fun i:Nat=>(((Vr,OA Ws)::(Vc,CA s.cols)::hC Ws (dA v e r c i)),[(3,.bx [.sl 1 (v.map aq)]),(6,.bx [.sl 1 [],.sl 1 [],dI 0,.sl 3 []]),(7,.d aR),(8,.bx [.v Vr,.v Vc,dI sg,aq gX]),(11,.d (dI c)),(12,.d (dI r)),(36,.d (dI most)),(37,.d (dI c)),(152,.d (dI e.length)),(153,.d (dI i))])) (fun i=>i≤e.length) (fun i=>e.length-i) 0 rfl (Nat.zero_le _) (fun i hi=>?_));show AZ _ _ _ _ _ _ _ ((Vr,OA Ws)::(Vc,CA s.cols)::hC Ws (dA v e r c i)) [(3,.bx [.sl 1 (v.map aq)]),(6,.bx [.sl 1 [],.sl 1 [],dI 0,.sl 3 []]),(7,.d aR),(8,.bx [.v Vr,.v Vc,dI sg,aq gX]),(11,.d (dI c)),(12,.d (dI r)),(36,.d (dI most)),(37,.d (dI c)),(152,.d (dI e.length)),(153,.d (dI i))];refine AZ.seq (AZ.jx (fun B1 F1 w1=>?_));refine qU 1 rfl (ae.nil ⟨rfl,?_⟩);refine AZ.seq ?_;refine AZ.cond rfl (fun h=>?_) (fun h=>?_)
 · have hie:i<e.length:=by have:=ak h;omega
   have hm1:=jv v e r c i;have hm2:=sI (v:=v) (r:=r) (c:=c) he2 i (by omega);have hm3:=zZ V (r:=r) (c:=c) he3 i;have hmi:=ir v e r c i i (.inl (ai _));have hmr:=ir v e r c i r (.inr rfl);have hnx:dA v e r c (i+1)=if i≠r∧rD v (bk (dA v e r c i) i c)≠0 then (dA v e r c i).set i (m6 v ((dA v e r c i).getD i []) ((dA v e r c i).getD r []) (bk (dA v e r c i) i c)) else dA v e r c i:=rfl
   have jS:bk (dA v e r c i) i c=bk e i c:=z0 v e r c i c;generalize dA v e r c i=m at *;refine AZ.skip (AZ.seq (AZ.block (AZ.seq ?_)));refine AZ.jx (fun B1 F1 w1=>?_);refine qU 2 rfl (ae.nil ⟨rfl,?_⟩);refine AZ.seq (AZ.any aU (lQ.BO 16 (by kernel_rfl) (fun B1 F1 w1 hS=>?_)));have hS0:=hS.at (i:=0) rfl (by rw[ah];omega);refine qP 3 rfl ?_;by_cases hir:i=r
   · rw[if_neg (fun g=>g.1 hir)] at hnx;rw[bne_eq_false_iff_eq.2 (show (i:Int)=(r:Int) by omega)];refine qP 13 rfl (af.nil ⟨rfl,?_⟩);refine ao.nil (AZ.aD rfl ?_);refine AZ.skip (AZ.jx (fun B1 F1 w1=>?_));refine qU 1 rfl ?_;rw[aF (x:=(i:Int)+1) (by omega) (by omega)];refine qU 1 rfl (ae.nil ⟨rfl,?_⟩);exact⟨i+1,Prod.ext (show ((Vr,OA Ws)::(Vc,CA s.cols)::hC Ws m)=((Vr,OA Ws)::(Vc,CA s.cols)::hC Ws (dA v e r c (i+1))) by rw[hnx]) rfl,hie,by omega⟩
   have hmiN:(m.getD i []).length=k:=hm2 i (by omega);have hmrN:(m.getD r []).length=k:=hm2 r (by omega);have hgi:=jX (Vs:=Ws) (a:=m) (j:=i) (by omega) (by omega);have hgr2:=jX (Vs:=Ws) (a:=m) (j:=r) (by omega) (by omega);have hS1:=hS.at (i:=i+2) hgi (by rw[ah];omega);have cs:=nC V (hm3 i c) (by rw[jS];exact oks i (by omega) (by omega));have okt2:=okt i (by omega) (by omega);rw[← jS,← hmi,← hmr] at okt2;rw[bne_iff_ne.2 (show (i:Int)≠(r:Int) by omega)];refine qP 5 rfl ?_;refine af.idxs tok hS0 rfl rfl rfl rfl rfl (aj i) (by rw[ah];omega) ?_;refine af.eF tok (.v (Ws.getD i undef)) hS0 rfl rfl rfl rfl rfl rfl rfl (iE (by omega)) rfl ?_;refine qP 1 rfl ?_;refine af.idxs tok hS1 rfl rfl rfl rfl rfl (aj c) (by rw[ah];omega) ?_;refine af.eF tok (aq (bk m i c)) hS1 rfl rfl rfl rfl rfl rfl rfl (hel hm2 (by omega) c hcN) rfl ?_;refine af.call tok rfl rfl rfl rfl rfl cs (qP 2 rfl (af.nil ⟨rfl,?_⟩));refine ao.nil ?_;refine AZ.cond rfl (fun h=>?_) (fun h=>?_);rotate_left
   · have hg:rD v (bk m i c)=0:=bne_eq_false_iff_eq.1 h;rw[if_neg (fun g=>g.2 hg)] at hnx;refine AZ.skip (AZ.jx (fun B1 F1 w1=>?_));refine qU 1 rfl ?_;rw[aF (x:=(i:Int)+1) (by omega) (by omega)];refine qU 1 rfl (ae.nil ⟨rfl,?_⟩);exact⟨i+1,Prod.ext (show ((Vr,OA Ws)::(Vc,CA s.cols)::hC Ws m)=((Vr,OA Ws)::(Vc,CA s.cols)::hC Ws (dA v e r c (i+1))) by rw[hnx]) rfl,hie,by omega⟩
   have hg:rD v (bk m i c)≠0:=bne_iff_ne.1 h;rw[if_pos ⟨hir,hg⟩] at hnx;have ct:=vF (Ws.getD i undef) (Ws.getD r undef) V (xs:=m.getD i []) (ys:=m.getD r []) (c:=bk m i c) (by omega) (by omega) (by omega) (hm3 i) (hm3 r) (hm3 i c) (okt2 (by rw[jS] at hg ⊢; exact hg));refine AZ.seq (AZ.any aU (lQ.BO 19 (by kernel_rfl) (fun B1 F1 w1 hS=>?_)));have hS0:=hS.at (i:=0) rfl (by rw[ah];omega);have hS1:=hS.at (i:=i+2) hgi (by rw[ah];omega);refine qP 4 rfl ?_;refine af.idxs tok hS0 rfl rfl rfl rfl rfl (aj i) (by rw[ah];omega) ?_;refine af.eF tok (.v (Ws.getD i undef)) hS0 rfl rfl rfl rfl rfl rfl rfl (iE (by omega)) rfl ?_;refine qP 3 rfl ?_;refine af.idxs tok hS0 rfl rfl rfl rfl rfl (aj r) (by rw[ah];omega) ?_;refine af.eF tok (.v (Ws.getD r undef)) hS0 rfl rfl rfl rfl rfl rfl rfl (iE (by omega)) rfl ?_;refine qP 3 rfl ?_;refine af.idxs tok hS0 rfl rfl rfl rfl rfl (aj i) (by rw[ah];omega) ?_;refine af.eF tok (.v (Ws.getD i undef)) hS0 rfl rfl rfl rfl rfl rfl rfl (iE (by omega)) rfl ?_;refine qP 1 rfl ?_;refine af.idxs tok hS1 rfl rfl rfl rfl rfl (aj c) (by rw[ah];omega) ?_;refine af.eF tok (aq (bk m i c)) hS1 rfl rfl rfl rfl rfl rfl rfl (hel hm2 (by omega) c hcN) rfl ?_;refine af.nil ⟨rfl,?_⟩;refine ao.to [172,177,182,190,3,6,7,8,11,12,36,37,152,153] [(172,.d (gY v)),(177,.d (.v (Ws.getD i undef))),(182,.d (.v (Ws.getD r undef))),(190,.d (aq (bk m i c))),(3,.bx [.sl 1 (v.map aq)]),(6,.bx [.sl 1 [],.sl 1 [],dI 0,.sl 3 []]),(7,.d aR),(8,.bx [.v Vr,.v Vc,dI sg,aq gX]),(11,.d (dI c)),(12,.d (dI r)),(36,.d (dI most)),(37,.d (dI c)),(152,.d (dI e.length)),(153,.d (dI i))] rfl ?_;refine ao.jw tok [i+2,r+2] rfl rfl rfl rfl (Ng hgi hgr2) (by simp[hir]) rfl ct (fun res R1 hP=>by rw[hP.2];exact ai _) (fun res R1 hP=>?_);obtain ⟨rfl,rfl⟩:=hP
   refine ao.yj (R':=(Vr,OA Ws)::(Vc,CA s.cols)::hC Ws (dA v e r c (i+1))) (by
    show ((Vr,OA Ws)::(Vc,CA s.cols)::((hC Ws m).set i _).set r _)++[]=_
    rw[List.append_nil,Il (by omega) (by omega) (by omega) hir,hnx]) ?_
   refine ao.cut 1 rfl (fun B1 F1 w1=>?_);refine qU 1 rfl (ae.nil ⟨rfl,?_⟩);refine ao.nil ?_;refine AZ.seq (AZ.jx (fun B1 F1 w1=>?_));refine qU 1 rfl (ae.err tok rfl rfl rfl rfl rfl (ae.nil ⟨rfl,?_⟩));refine AZ.aD rfl ?_;refine AZ.skip (AZ.jx (fun B1 F1 w1=>?_));refine qU 1 rfl ?_;rw[aF (x:=(i:Int)+1) (by omega) (by omega)];refine qU 1 rfl (ae.nil ⟨rfl,?_⟩);exact⟨i+1,rfl,hie,by omega⟩
 have hie:i=e.length:=by have:=ar h;omega
 subst hie;refine AZ.exit ?_;refine AZ.region ?_;refine ao.cut 4 rfl (fun B1 F1 w1=>?_);refine qU 3 rfl (ae.nR tok rfl rfl rfl rfl rfl ?_);refine ae.nil ⟨rfl,?_⟩;refine ao.fq 198 1 rfl rfl rfl ?_;refine ao.cut 1 rfl (fun B1 F1 w1=>?_);refine ae.lP tok rfl rfl rfl rfl rfl rfl (by show ((s.cols.map (fun c:Nat=>dI c)).length+1)*8≤_;rw[ah];omega) (by show (s.cols.map (fun c:Nat=>dI c)).length+1≤_;rw[ah];omega) ?_;refine ae.nil ⟨rfl,?_⟩;refine ao.Bw 201 1 rfl rfl rfl rfl (fun Vq=>?_)
 refine ao.yj (R':=(Vr,OA Ws)::(Vq,CA (s.cols++[c]))::hC Ws (dA v e r c e.length)) (by
  show (Vr,OA Ws)::(Vq,AV.ow 3 (s.cols.map (fun c:Nat=>dI c)++[dI c]))::hC Ws (dA v e r c e.length)=_
  rw[show s.cols.map (fun c:Nat=>dI c)++[dI (c:Int)]=(s.cols++[c]).map (fun c:Nat=>dI c) by simp]) ?_
 refine ao.cut 2 rfl (fun B1 F1 w1=>?_);refine qU 2 rfl (ae.nil ⟨rfl,?_⟩);refine ao.nil ?_;refine AZ.jx (fun B1 F1 w1=>?_);refine qU 1 rfl ?_;rw[aF (x:=(c:Int)+1) (by omega) (by omega)];refine qU 1 rfl (ae.nil ⟨rfl,?_⟩);exact⟨(c+1,Vr,Vq,Ws),by rw[hst];rfl,⟨hcm,by show Ws.length=a.length;omega⟩,by show most-(c+1)<most-c;omega⟩
end Lift
namespace Lift
open Go Go.Proofs
theorem qS(v:List NQ)(most:Nat)(hm:most≤1000000):Pure Tryz.prog 89 [gY v,mS [],dI most] (.tu [JS ⟨[],[],1,[1]⟩,aR]):=by
 refine qJ 205 Tryz.func89 rfl rfl rfl rfl (by kernel_rfl) (fun B F0 w0=>?_);have cone:=jd (Qr ((1:Int):Rat)) (k:=1) (iy _ (by have:=gy;rw[show ((1:Int):Rat)=1 from rfl];omega)) (by decide) (by decide) (BY _);rw[dc,show rU ((1:Int):Rat)=[1] from rfl] at cone;refine qX 3 rfl (qI (AW.region (ae.call tok rfl rfl rfl rfl (iq 1 (by decide) (by decide)) ?_)));refine ae.call tok rfl rfl rfl rfl cone (qU 3 rfl (qI (qX 3 rfl (ae.nil ?_))));refine AW.block (AW.aJ [2,3,6,7,8,22,23,24] (fun _:Unit=>[(2,.d (dI most)),(3,.bx [.sl 1 (v.map aq)]),(6,.bx [.sl 1 [],.sl 1 [],dI 0,.sl 3 []]),(7,.d aR),(8,.bx [.sl 1 [],.sl 1 [],dI 1,aq [1]]),(22,.d (mS [])),(23,.d (dI 0)),(24,.d (dI 0))]) (fun _=>True) (fun _=>0) () rfl trivial (fun _ _=>?_));show AW _ _ _ _ _ _ _ [(2,.d (dI most)),(3,.bx [.sl 1 (v.map aq)]),(6,.bx [.sl 1 [],.sl 1 [],dI 0,.sl 3 []]),(7,.d aR),(8,.bx [.sl 1 [],.sl 1 [],dI 1,aq [1]]),(22,.d (mS [])),(23,.d (dI 0)),(24,.d (dI 0))];refine qX 1 rfl (qI (AW.aD rfl (AW.exit (AW.seq (qX 2 rfl (ae.nil ?_))))));refine AW.block (AW.aJ [3,6,7,8,36,37] (fun c:Nat=>[(3,.bx [.sl 1 (v.map aq)]),(6,.bx [.sl 1 [],.sl 1 [],dI 0,.sl 3 []]),(7,.d aR),(8,.bx [.sl 1 [],.sl 1 [],dI 1,aq [1]]),(36,.d (dI most)),(37,.d (dI c))]) (fun c=>c≤most) (fun c=>most-c) 0 rfl (Nat.zero_le _) (fun c hc=>?_));show AW _ _ _ _ _ _ _ [(3,.bx [.sl 1 (v.map aq)]),(6,.bx [.sl 1 [],.sl 1 [],dI 0,.sl 3 []]),(7,.d aR),(8,.bx [.sl 1 [],.sl 1 [],dI 1,aq [1]]),(36,.d (dI most)),(37,.d (dI c))];refine qX 1 rfl ?_;refine qI (AW.cond rfl (fun h=>?_) (fun h=>?_));rotate_left
 · exact AW.exit (qX 3 rfl (qN rfl))
 have hcm:c<most:=by have:=ak h;omega
 refine AW.skip (AW.seq (AW.block (qX 2 rfl (qK 4 rfl (qK 2 rfl (ae.nil ?_))))));refine AW.cut [3,6,7,8,12,13,36,37] (fun _:Unit=>[(3,.bx [.sl 1 (v.map aq)]),(6,.bx [.sl 1 [],.sl 1 [],dI 0,.sl 3 []]),(7,.d aR),(8,.bx [.sl 1 [],.sl 1 [],dI 1,aq [1]]),(12,.d (dI 0)),(13,.d (dI 0)),(36,.d (dI most)),(37,.d (dI c))]) (fun _=>True) ?_ (fun _ _=>?_)
 · refine AW.block (AW.aJ [3,6,7,8,11,12,13,36,37] (fun _:Unit=>[(3,.bx [.sl 1 (v.map aq)]),(6,.bx [.sl 1 [],.sl 1 [],dI 0,.sl 3 []]),(7,.d aR),(8,.bx [.sl 1 [],.sl 1 [],dI 1,aq [1]]),(11,.d (dI c)),(12,.d (dI 0)),(13,.d (dI 0)),(36,.d (dI most)),(37,.d (dI c))]) (fun _=>True) (fun _=>0) () rfl trivial (fun _ _=>?_));show AW _ _ _ _ _ _ _ [(3,.bx [.sl 1 (v.map aq)]),(6,.bx [.sl 1 [],.sl 1 [],dI 0,.sl 3 []]),(7,.d aR),(8,.bx [.sl 1 [],.sl 1 [],dI 1,aq [1]]),(11,.d (dI c)),(12,.d (dI 0)),(13,.d (dI 0)),(36,.d (dI most)),(37,.d (dI c))];refine AW.seq (AW.seq (AW.draw aU 18 (by kernel_rfl) ?_));exact qP 18 rfl (af.nil (ae.nil (AW.aD rfl (AW.exit ⟨(),rfl,trivial⟩))))
 show AW _ _ _ _ _ _ _ [(3,.bx [.sl 1 (v.map aq)]),(6,.bx [.sl 1 [],.sl 1 [],dI 0,.sl 3 []]),(7,.d aR),(8,.bx [.sl 1 [],.sl 1 [],dI 1,aq [1]]),(12,.d (dI 0)),(13,.d (dI 0)),(36,.d (dI most)),(37,.d (dI c))];refine AW.seq (qX 5 rfl (ae.nil (AW.aG rfl (AW.exit (qT 1 rfl ?_)))));rw[aF (x:=(c:Int)+1) (by omega) (by omega)];refine qU 1 rfl (ae.nil ?_);exact⟨c+1,rfl,hcm,by omega⟩
def qn(v:List NQ)(a:cV):jK:=aC v a (bK a)
structure Ik (v:List NQ) (a:cV):Prop where
 l:a.length≤32
 r:dk (bK a) a
 c:bK a≤32
 lt:rB v.length a
theorem nD{v:List NQ}(V:pa v){a:cV}{N most:Nat}(ha:a.length≤1000000)(hN:N≤1000000)(hmost:most≤N)(hr:dk N a)(hl:rB v.length a)(ok: ∀c,c<most→kx v (aC v a c) c):
  Pure Tryz.prog 89 [gY v,mS a,dI most] (.tu [JS (aC v a most),aR]):=by
 by_cases h0:a.length=0
 · rw[List.length_eq_zero_iff.1 h0,yQ];exact qS v most (by omega)
 · exact r7 V (by omega) ha hN hmost hr hl ok
def wX(a:cV):List (List (List RD)):=a.map (fun r=>r.map iI)
theorem AS(a:cV):(wX a).length=a.length:=ah ..
theorem qp(a:cV)(i:Nat):(wX a).getD i []=(a.getD i []).map iI:=by
 unfold wX;rw[aN,List.getElem?_map,aN];cases a[i]? with
 | none=>rfl
 | some x=>rfl
theorem DX(a:cV)(i k:Nat):((wX a).getD i []).getD k []=iI (bk a i k):=by
 rw[qp];unfold bk;generalize a.getD i []=r;rw[aN,List.getElem?_map,aN];cases r[k]? with
 | none=>rfl
 | some x=>rfl
theorem GI(a:cV):B7 (wX a)=mS a:=by
 show D.sl 1 ((a.map _).map Ig)=D.sl 1 (a.map oH);rw[List.map_map]
 congr 1
 refine List.map_congr_left fun r _=>?_;show D.sl 1 ((r.map iI).map bE)=D.sl 1 (r.map aq);rw[List.map_map]
 congr 1
 exact List.map_congr_left fun x _=>l4 x
theorem xN(a:cV):bK (wX a)=bK a:=by unfold bK;rw[qp,ah]
theorem iX.s{m:Nat}{v:List NQ}(V:iX m v)(hk:pG v.length m):Nb m (oL v):=by
 have hl5:=V.l5;have hm2:=V.m2;have T:=V.raw.1;exact⟨fun i hi _=>by rw[qo];exact yS (V.sz i),V.m1,by rw[fy];omega,T.ll,fun _=>by rw[fy];exact hk,hm2⟩
theorem Ik.raw{m:Nat}{v:List NQ}{a:cV}(V:iX m v)(G:Ik v a)(hs: ∀i k,aB m (bk a i k)):LI m (oL v) (wX a)∧D' (oL v) (wX a)=0:=by
 have hl:=G.l;have hc:=G.c
 have hrow: ∀i,((wX a).getD i []).length≤32:=fun i=>by
  rw[qp,ah];by_cases h:i<a.length
  · rw[G.r i h];exact hc
  · rw[mq (by omega)];exact Nat.zero_le _
 refine⟨⟨fun i k=>by rw[DX];exact l6 V (G.lt i k) (hs i k),by rw[AS];omega,fun i=>Nat.le_trans (hrow i) (by decide)⟩,?_⟩;unfold D';rw[if_neg (by rw[V.raw.2];simp)];unfold G3;split
 · rfl
 rw[AS,xN,if_neg (by omega)]
 have e1:fE (Ip (wX a)) (a.length-0) 0=0:=nO fun j hj=>by
  unfold Ip;rw[xN,qp,ah,G.r j (by omega)];exact if_neg (fun h=>h rfl)
 rw[e1,if_neg (by decide)];refine nO fun j hj=>?_;unfold yN;refine nO fun k hk=>?_;rw[DX];exact ck1 V (G.lt j k)
theorem nE{m:Nat}{v:List NQ}{a:cV}(V:iX m v)(hk:pG v.length m)(G:Ik v a)(hs: ∀i k,aB m (bk a i k))(ok: ∀c,c<bK a→kx v (aC v a c) c):Pure Tryz.prog 46 [gY v,mS a] (.tu [dI (qn v a).cols.length,aR]):=by
 refine qJ 29 Tryz.func46 rfl rfl rfl rfl (by kernel_rfl) (fun B F0 w0=>?_);obtain ⟨r1,r2⟩:=G.raw V hs;have cc:=mI (V.s hk) r1;rw[r2,rP,GI] at cc;have hGl:=G.l;have hGc:=G.c;have cr:=nD V.a (most:=bK a) (by omega) (by omega) (ai _) G.r G.lt ok;have hcl:=(kj V.a G.r G.lt (bK a)).cl;change Pure _ _ _ (.tu [JS (qn v a),aR]) at cr;generalize qn v a=s at cr ⊢;obtain ⟨rows,cols,sg,gX⟩:=s;refine qX 3 rfl (qI (qX 2 rfl (ae.call tok rfl rfl rfl rfl cc (qU 1 rfl (qK 1 rfl (ae.err tok rfl rfl rfl rfl rfl (ae.nil (AW.aD rfl ?_))))))))
 · refine AW.skip (AW.seq (AW.nQ tok aU [(7,true),(1,false),(1,true)] 9 [7] (by kernel_rfl) ⟨rfl,?_⟩));refine qP 3 rfl (af.call tok rfl rfl rfl rfl rfl (kR a) ?_);refine af.call tok rfl rfl rfl rfl rfl cr (qP 2 rfl (af.nil ⟨rfl,?_⟩));refine qP 1 rfl (af.nil ⟨rfl,?_⟩);refine qP 1 rfl (af.nil ⟨_,oG.cons (.bx rfl) (oG.nil),?_⟩);refine qU 1 rfl (qI (qX 1 rfl (ae.err tok rfl rfl rfl rfl rfl (ae.nil (AW.aD rfl ?_)))))
   · refine AW.skip (qX 2 rfl (qU 1 rfl ?_));rw[ah];exact qU 2 rfl (qN rfl)
end Lift
namespace Lift
open Go Go.Proofs
def gN(l:Lkg)(a:Asm):cV:=ki (a.rt.map au) l a l.joints.length
def DY(l:Lkg)(a:Asm)(r:Nat):D:=if fD l a≠0 then .tu [dI 0,uv (fD l a)] else .tu [dI r,aR]
theorem s8(l:Lkg)(a:Asm){r:Nat}(hl:l.ok 16)(ha:a.ok 16)(h2:a.rt.length≤2)(hnb:l.bodies.length≤1000000000000)(hR:fD l a=0→Pure Tryz.prog 46 [gY (a.rt.map au),mS (gN l a)] (.tu [dI r,aR])):Pure Tryz.prog 23 [l.D,a.D] (DY l a r):=by
 refine qJ 25 Tryz.func23 rfl rfl rfl rfl (by kernel_rfl) (fun B0 F0 w0=>?_);have c:=s7 l a hl ha h2 hnb;unfold DV at c;unfold DY;have hT:fD l a=0→wv a.rt=gY (a.rt.map au):=fun h=>(qb ha.t (yZ h).tw).eq;unfold gN at hR;refine qX 4 rfl (qK 2 rfl ?_);rcases e2:fD l a with _ | z
 rotate_left
 · rw[if_pos (by rw[e2];exact Nat.succ_ne_zero z),e2] at c;rw[if_pos (Nat.succ_ne_zero z)];exact ae.call tok rfl rfl rfl rfl c (qU 7 rfl (qI (qX 1 rfl (ae.err tok rfl rfl rfl rfl rfl (ae.nil (AW.aG rfl (qX 3 rfl (qN rfl))))))))
 rw[if_neg (by rw[e2];simp)] at c;rw[if_neg (by simp)];have hR:=hR e2;rw[← hT e2] at hR;refine ae.call tok rfl rfl rfl rfl c (qU 7 rfl (qI (qX 1 rfl (ae.err tok rfl rfl rfl rfl rfl (ae.nil (AW.aD rfl ?_))))))
 · refine AW.skip (AW.seq (AW.region ?_));obtain ⟨rt,bs,md⟩:=a;exact qU 3 rfl (ae.call tok rfl rfl rfl rfl hR (qU 4 rfl (qN rfl)))
def En(l:Lkg)(a:Asm)(r:Nat):D:=if fD l a≠0 then .tu [dI 0,uv (fD l a)] else .tu [dI (3*((l.bodies.length:Int) -1) -r),aR]
theorem nA(l:Lkg)(a:Asm){r:Nat}(hr:r≤1000000)(hl:l.ok 16)(ha:a.ok 16)(h2:a.rt.length≤2)(hnb:l.bodies.length≤1000000000000)(hR:fD l a=0→Pure Tryz.prog 46 [gY (a.rt.map au),mS (gN l a)] (.tu [dI r,aR])):Pure Tryz.prog 11 [l.D,a.D] (En l a r):=by
 refine qJ 24 Tryz.func11 rfl rfl rfl rfl (by kernel_rfl) (fun B0 F0 w0=>?_);have c:=s8 l a hl ha h2 hnb hR;unfold DY at c;unfold En;refine qX 4 rfl (qK 2 rfl ?_);rcases e2:fD l a with _ | z
 rotate_left
 · rw[if_pos (by rw[e2];exact Nat.succ_ne_zero z),e2] at c;rw[if_pos (Nat.succ_ne_zero z)];exact ae.call tok rfl rfl rfl rfl c (qU 5 rfl (qI (qX 1 rfl (ae.err tok rfl rfl rfl rfl rfl (ae.nil (AW.aG rfl (qX 3 rfl (qN rfl))))))))
 rw[if_neg (by rw[e2];simp)] at c;rw[if_neg (by simp)];clear hR e2;obtain ⟨ln,lb,js,lds⟩:=l;simp only[] at *;refine ae.call tok rfl rfl rfl rfl c (qU 5 rfl (qI (qX 1 rfl (ae.err tok rfl rfl rfl rfl rfl (ae.nil (AW.aD rfl ?_))))))
 · refine AW.skip (qX 3 rfl ?_);rw[ah];refine qU 1 rfl ?_;rw[aF (x:=(lb.length:Int) -1) (by omega) (by omega)];refine qU 1 rfl ?_;rw[aF (x:=3*((lb.length:Int) -1)) (by omega) (by omega)];refine qU 2 rfl ?_;rw[aF (x:=3*((lb.length:Int) -1) -(r:Int)) (by omega) (by omega)];exact qU 2 rfl (qN rfl)
end Lift
namespace Lift
open Go Go.Proofs
def FG:List RD→Nat→Nat
 | [],n=>n
 | x::r,n=>if n<100 then FG r (n+(x.n.length+x.d.length)) else n
def dZ(a:List RD):Nat:=FG a 0
def tV(a:List RD):Prop:=a.length≤4398046511104∧ ∀i,(a.getD i default).w big
theorem F9{r:List RD}{n:Nat}(h: ¬n<100):FG r n=n:=by
 cases r with
 | nil=>rfl
 | cons x r=>exact if_neg h
theorem BN{a:List RD}{i:Nat}(h:i<a.length):a.drop i=a.getD i default::a.drop (i+1):=by
 rw[List.drop_eq_getElem_cons h]
 congr 1
 rw[aN,bQ h];rfl
theorem gf(a:List RD)(ha:tV a):Pure Tryz.prog 30 [bE a] (dI (dZ a)):=by
 refine qJ 31 Tryz.func30 rfl rfl rfl rfl (by kernel_rfl) (fun B F0 w0=>?_);obtain ⟨hl,hw⟩:=ha;unfold big at hw;obtain ⟨E,hE⟩: ∃E,dZ a=E:=⟨_,rfl⟩;rw[hE];refine qX 1 rfl (qK 1 rfl (qI (qX 1 rfl (ae.nil (AW.block ?_)))));refine AW.aJ [0,3,4] (fun s:Nat×Nat=>[(0,.d (bE a)),(3,.d (dI s.2)),(4,.d (dI s.1))]) (fun s=>s.1≤a.length∧s.2≤100+2000000000000000∧FG (a.drop s.1) s.2=E) (fun s=>a.length-s.1) (0,0) rfl ⟨Nat.zero_le _,Nat.zero_le _,hE⟩ (fun s hs=>?_)
 · obtain ⟨i,n⟩:=s;obtain ⟨hi,hn,hsz⟩:=hs;simp only[] at hi hn hsz;show AW _ _ _ _ _ _ _ [(0,.d (bE a)),(3,.d (dI n)),(4,.d (dI i))];refine AW.seq (qX 2 rfl (qU 1 rfl ?_));rw[ah];refine qU 2 rfl ?_;by_cases hia:i<a.length;rotate_left
   · rw[a9 (show ¬(i:Int)<(a.length:Int) by omega)];refine qU 3 rfl (ae.nil ?_);have hii:i=a.length:=by omega
     subst hii;rw[List.drop_length] at hsz;subst hsz;exact AW.aD rfl (AW.exit (qX 2 rfl (qN rfl)))
   rw[aO (show (i:Int)<(a.length:Int) by omega)];refine qU 3 rfl (ae.nil (AW.cond rfl (fun h=>?_) (fun h=>?_)))
   · have hn1:n<100:=by have:=ak h;omega
     have hg:=getM RD.D (l:=a) (i:=i) hia;have w1:=(hw i).2.2.1;have w2:=(hw i).2.2.2;rw[BN hia] at hsz;have hsz:FG (a.drop (i+1)) (n+((a.getD i default).n.length+(a.getD i default).d.length))=E:=by rw[← hsz];exact(if_pos hn1).symm
     generalize a.getD i default=x at hg w1 w2 hsz;obtain ⟨xg,xn,xd⟩:=x;simp only[] at w1 w2 hsz;refine AW.skip (AW.seq (AW.block (AW.draw aU 15 (by kernel_rfl) ?_)));refine qP 3 rfl (af.idx tok (RD.D ⟨xg,xn,xd⟩) rfl rfl rfl rfl rfl (aj i) hg ?_);refine qP 3 rfl ?_;rw[a8];refine qP 2 rfl (af.idx tok (RD.D ⟨xg,xn,xd⟩) rfl rfl rfl rfl rfl (aj i) hg ?_);refine qP 3 rfl ?_;rw[a8];refine qP 1 rfl ?_;rw[aF (x:=(xn.length:Int)+(xd.length:Int)) (by omega) (by omega)];refine qP 1 rfl ?_;rw[aF (x:=(n:Int)+((xn.length:Int)+(xd.length:Int))) (by omega) (by omega)];refine af.nil (qU 1 rfl (ae.nil (qT 2 rfl ?_)));rw[aF (x:=(i:Int)+1) (by omega) (by omega)];refine qU 1 rfl (ae.nil ?_);exact⟨(i+1,n+(xn.length+xd.length)),rfl,⟨hia,by show n+(xn.length+xd.length)≤_;omega,hsz⟩,by show a.length-(i+1)<a.length-i;omega⟩
   have hn1: ¬n<100:=by have:=ar h;omega
   rw[F9 hn1] at hsz;subst hsz;exact AW.exit (qX 2 rfl (qN rfl))
end Lift
namespace Lift
open Go Go.Proofs
def zF(p:Mark):Nat:=p.x.n.length+p.x.d.length+p.y.n.length+p.y.d.length
def rX(f:Nat→Nat)(n:Nat):Nat→Nat
 | 0=>n
 | k+1=>max (rX f n k) (f k)
def ru(bs:List Body):Nat→Nat
 | 0=>0
 | i+1=>rX (fun k=>zF ((bs.getD i default).pts.getD k default)) (ru bs i) (bs.getD i default).pts.length
def plW(p:gx)(n:Nat):Nat:=max (max (max (max n (dZ p.c)) (dZ p.s)) (dZ p.x)) (dZ p.y)
def nq(bs:List gx)(n:Nat):Nat→Nat
 | 0=>n
 | i+1=>plW (bs.getD i default) (nq bs n i)
def Iq(l:Lkg)(a:Asm):Nat:=nq a.bodies (rX (fun i=>dZ (a.rt.getD i [])) (ru l.bodies l.bodies.length) a.rt.length) a.bodies.length
def MM(l:Lkg)(a:Asm):Bool:=decide (6<l.bodies.length∧l.bodies.length≤8∨8<l.joints.length∧l.joints.length≤16∨40<l.bodies.length∨40<l.joints.length∨40<l.drivers.length∨40<a.bodies.length∨2<a.rt.length)
def KU(bs:List Body)(i:Nat):Bool:=decide (40<(bs.getD i default).pts.length)
def k5(l:Lkg)(a:Asm):Bool:=MM l a||fo (KU l.bodies) (l.bodies.length-0) 0||decide (((16:Int) -4*(a.rt.length:Int))<(Iq l a:Int))
structure AsB (a:Asm):Prop where
 rl:a.rt.length≤big
 r: ∀i,tV (a.rt.getD i [])
 bl:a.bodies.length≤big
 c: ∀i,tV (a.bodies.getD i default).c
 s: ∀i,tV (a.bodies.getD i default).s
 x: ∀i,tV (a.bodies.getD i default).x
 y: ∀i,tV (a.bodies.getD i default).y
theorem KF{a:List RD}(ha:tV a): ∀(i n:Nat),n≤4000000000000000→FG (a.drop i) n≤4000000000000000:=by
 intro i;obtain ⟨hl,hw⟩:=ha;unfold big at hw
 suffices h: ∀(k i n:Nat),a.length-i≤k→n≤4000000000000000→FG (a.drop i) n≤4000000000000000 from fun n hn=>h (a.length-i) i n (ai _) hn
 intro k
 induction k with
 | zero =>
   intro i n hi hn;rw[List.drop_eq_nil_of_le (by omega)];exact hn
 | succ k ih =>
   intro i n hi hn;by_cases hia:i<a.length
   · rw[BN hia];show (if n<100 then _ else n)≤_;split
     · have w1:=(hw i).2.2.1;have w2:=(hw i).2.2.2;exact ih (i+1) _ (by omega) (by omega)
     · exact hn
   · rw[List.drop_eq_nil_of_le (by omega)];exact hn
theorem qk{a:List RD}(ha:tV a):dZ a≤4000000000000000:=KF ha 0 0 (by decide)
theorem zq{f:Nat→Nat}{n M:Nat}(hn:n≤M)(hf: ∀k,f k≤M): ∀k,rX f n k≤M
 | 0=>hn
 | k+1=>by
   have:=zq hn hf k;have:=hf k;show max (rX f n k) (f k)≤M;omega
theorem xV(a b:Nat):(if (b:Int)>(a:Int) then (b:Int) else (a:Int))=((max a b:Nat):Int):=Jj a b
set_option maxHeartbeats 3200000 in
theorem vJ(l:Lkg)(a:Asm){K:Nat}(hl:l.ok K)(hK:K≤big)(ha:AsB a):Pure Tryz.prog 12 [l.D,a.D] (dB (k5 l a)):=by
 refine qJ 172 Tryz.func12 rfl rfl rfl rfl (by kernel_rfl) (fun B F0 w0=>?_);have hnb:=hl.nb;have hnj:=hl.nj;have hnd:=hl.nd;have hlb:=hl.b;obtain ⟨hrl,har,hbl,hc,hs,hx,hy⟩:=ha;have zr:=fun i=>gf _ (har i);have zc:=fun i=>gf _ (hc i);have zs:=fun i=>gf _ (hs i);have zx:=fun i=>gf _ (hx i);have zy:=fun i=>gf _ (hy i);have yr:=fun i=>qk (har i);have yc:=fun i=>qk (hc i);have ys:=fun i=>qk (hs i);have yx:=fun i=>qk (hx i);have yy:=fun i=>qk (hy i);clear har hc hs hx hy hl;unfold k5 Iq MM;obtain ⟨ln,lb,js,lds⟩:=l;obtain ⟨rt,bs,md⟩:=a;simp only[] at *;unfold big at hnb hnj hnd hrl hbl hK;show AW _ _ _ _ _ _ _ (eG 0 [D.ag [dS ln,aK lb,aH js,aI lds],D.ag [.sl 1 (rt.map bE),.sl 4 (bs.map gx.D),.sl 1 (md.map (fun n=>dI n))]]);obtain ⟨E,hE⟩: ∃E,(decide (6<lb.length∧lb.length≤8∨8<js.length∧js.length≤16∨40<lb.length∨40<js.length∨40<lds.length∨40<bs.length∨2<rt.length)||fo (KU lb) (lb.length-0) 0||decide (((16:Int) -4*(rt.length:Int))<((nq bs (rX (fun i=>dZ (rt.getD i [])) (ru lb lb.length) rt.length) bs.length:Nat):Int)))=E:=⟨_,rfl⟩;rw[hE]
 have wB: ∀i,ru lb i≤4000000000000000:=fun i=>by
  induction i with
  | zero=>exact Nat.zero_le _
  | succ i ih =>
    refine zq ih (fun k=>?_) _;obtain ⟨_,h1,h2⟩:=(hlb i).2.2 k;have a1:=h1.2.2.1;have a2:=h1.2.2.2;have a3:=h2.2.2.1;have a4:=h2.2.2.2;unfold zF;omega
 have wM: ∀i k,rX (fun k=>zF ((lb.getD i default).pts.getD k default)) (ru lb i) k≤4000000000000000:=fun i k=>zq (wB i) (fun k=>by
   obtain ⟨_,h1,h2⟩:=(hlb i).2.2 k;have a1:=h1.2.2.1;have a2:=h1.2.2.2;have a3:=h2.2.2.1;have a4:=h2.2.2.2;unfold zF
   omega) k
 refine qX 3 rfl (ae.nil ?_);refine AW.cut [2,3] (fun _:Unit=>[(2,.bx [dS ln,aK lb,aH js,aI lds]),(3,.bx [.sl 1 (rt.map bE),.sl 4 (bs.map gx.D),.sl 1 (md.map (fun n=>dI n))])]) (fun _=> ¬(6<lb.length∧lb.length≤8∨8<js.length∧js.length≤16∨40<lb.length∨40<js.length∨40<lds.length∨40<bs.length∨2<rt.length)) ?_ (fun _ hc=>?_)
 · refine qX 3 rfl ?_;rw[ah];refine qU 1 rfl ?_;by_cases c1:6<lb.length
   · rw[aO (show (6:Int)<(lb.length:Int) by omega)];refine qU 4 rfl ?_;rw[ah];refine qU 1 rfl ?_;by_cases c2:lb.length≤8
     · rw[aO (show (lb.length:Int)≤(8:Int) by omega)];refine qU 44 rfl (ae.nil ?_);have hEt:E=true:=by rw[← hE,aO (by omega)];rfl
       subst hEt;exact AW.aG rfl (qX 1 rfl (qN rfl))
     rw[a9 (show ¬(lb.length:Int)≤(8:Int) by omega)];refine qU 2 rfl (qU 3 rfl ?_);rw[ah];refine qU 1 rfl ?_;by_cases c3:8<js.length
     · rw[aO (show (8:Int)<(js.length:Int) by omega)];refine qU 4 rfl ?_;rw[ah];refine qU 1 rfl ?_;by_cases c4:js.length≤16
       · rw[aO (show (js.length:Int)≤(16:Int) by omega)];refine qU 33 rfl (ae.nil ?_);have hEt:E=true:=by rw[← hE,aO (by omega)];rfl
         subst hEt;exact AW.aG rfl (qX 1 rfl (qN rfl))
       rw[a9 (show ¬(js.length:Int)≤(16:Int) by omega)];refine qU 3 rfl (qU 3 rfl ?_);rw[ah];refine qU 1 rfl ?_;by_cases c5:40<lb.length
       · rw[aO (show (40:Int)<(lb.length:Int) by omega)];refine qU 26 rfl (ae.nil ?_);have hEt:E=true:=by rw[← hE,aO (by omega)];rfl
         subst hEt;exact AW.aG rfl (qX 1 rfl (qN rfl))
       rw[a9 (show ¬(40:Int)<(lb.length:Int) by omega)];refine qU 2 rfl (qU 3 rfl ?_);rw[ah];refine qU 1 rfl ?_;by_cases c6:40<js.length
       · rw[aO (show (40:Int)<(js.length:Int) by omega)];refine qU 20 rfl (ae.nil ?_);have hEt:E=true:=by rw[← hE,aO (by omega)];rfl
         subst hEt;exact AW.aG rfl (qX 1 rfl (qN rfl))
       rw[a9 (show ¬(40:Int)<(js.length:Int) by omega)];refine qU 2 rfl (qU 3 rfl ?_);rw[ah];refine qU 1 rfl ?_;by_cases c7:40<lds.length
       · rw[aO (show (40:Int)<(lds.length:Int) by omega)];refine qU 14 rfl (ae.nil ?_);have hEt:E=true:=by rw[← hE,aO (by omega)];rfl
         subst hEt;exact AW.aG rfl (qX 1 rfl (qN rfl))
       rw[a9 (show ¬(40:Int)<(lds.length:Int) by omega)];refine qU 2 rfl (qU 3 rfl ?_);rw[ah];refine qU 1 rfl ?_;by_cases c8:40<bs.length
       · rw[aO (show (40:Int)<(bs.length:Int) by omega)];refine qU 8 rfl (ae.nil ?_);have hEt:E=true:=by rw[← hE,aO (by omega)];rfl
         subst hEt;exact AW.aG rfl (qX 1 rfl (qN rfl))
       rw[a9 (show ¬(40:Int)<(bs.length:Int) by omega)];refine qU 2 rfl (qU 4 rfl ?_);rw[ah];refine qU 1 rfl ?_;by_cases c9:2<rt.length
       · rw[aO (show (2:Int)<(rt.length:Int) by omega)];refine qU 1 rfl (ae.nil ?_);have hEt:E=true:=by rw[← hE,aO (by omega)];rfl
         subst hEt;exact AW.aG rfl (qX 1 rfl (qN rfl))
       rw[a9 (show ¬(2:Int)<(rt.length:Int) by omega)];refine qU 1 rfl (ae.nil (AW.aD rfl (AW.skip ?_)));exact⟨(),rfl,by omega⟩
     rw[a9 (show ¬(8:Int)<(js.length:Int) by omega)];refine qU 8 rfl (qU 3 rfl ?_);rw[ah];refine qU 1 rfl ?_;by_cases c5:40<lb.length
     · rw[aO (show (40:Int)<(lb.length:Int) by omega)];refine qU 26 rfl (ae.nil ?_);have hEt:E=true:=by rw[← hE,aO (by omega)];rfl
       subst hEt;exact AW.aG rfl (qX 1 rfl (qN rfl))
     rw[a9 (show ¬(40:Int)<(lb.length:Int) by omega)];refine qU 2 rfl (qU 3 rfl ?_);rw[ah];refine qU 1 rfl ?_;by_cases c6:40<js.length
     · rw[aO (show (40:Int)<(js.length:Int) by omega)];refine qU 20 rfl (ae.nil ?_);have hEt:E=true:=by rw[← hE,aO (by omega)];rfl
       subst hEt;exact AW.aG rfl (qX 1 rfl (qN rfl))
     rw[a9 (show ¬(40:Int)<(js.length:Int) by omega)];refine qU 2 rfl (qU 3 rfl ?_);rw[ah];refine qU 1 rfl ?_;by_cases c7:40<lds.length
     · rw[aO (show (40:Int)<(lds.length:Int) by omega)];refine qU 14 rfl (ae.nil ?_);have hEt:E=true:=by rw[← hE,aO (by omega)];rfl
       subst hEt;exact AW.aG rfl (qX 1 rfl (qN rfl))
     rw[a9 (show ¬(40:Int)<(lds.length:Int) by omega)];refine qU 2 rfl (qU 3 rfl ?_);rw[ah];refine qU 1 rfl ?_;by_cases c8:40<bs.length
     · rw[aO (show (40:Int)<(bs.length:Int) by omega)];refine qU 8 rfl (ae.nil ?_);have hEt:E=true:=by rw[← hE,aO (by omega)];rfl
       subst hEt;exact AW.aG rfl (qX 1 rfl (qN rfl))
     rw[a9 (show ¬(40:Int)<(bs.length:Int) by omega)];refine qU 2 rfl (qU 4 rfl ?_);rw[ah];refine qU 1 rfl ?_;by_cases c9:2<rt.length
     · rw[aO (show (2:Int)<(rt.length:Int) by omega)];refine qU 1 rfl (ae.nil ?_);have hEt:E=true:=by rw[← hE,aO (by omega)];rfl
       subst hEt;exact AW.aG rfl (qX 1 rfl (qN rfl))
     rw[a9 (show ¬(2:Int)<(rt.length:Int) by omega)];refine qU 1 rfl (ae.nil (AW.aD rfl (AW.skip ?_)));exact⟨(),rfl,by omega⟩
   rw[a9 (show ¬(6:Int)<(lb.length:Int) by omega)];refine qU 7 rfl (qU 3 rfl ?_);rw[ah];refine qU 1 rfl ?_;by_cases c3:8<js.length
   · rw[aO (show (8:Int)<(js.length:Int) by omega)];refine qU 4 rfl ?_;rw[ah];refine qU 1 rfl ?_;by_cases c4:js.length≤16
     · rw[aO (show (js.length:Int)≤(16:Int) by omega)];refine qU 33 rfl (ae.nil ?_);have hEt:E=true:=by rw[← hE,aO (by omega)];rfl
       subst hEt;exact AW.aG rfl (qX 1 rfl (qN rfl))
     rw[a9 (show ¬(js.length:Int)≤(16:Int) by omega)];refine qU 3 rfl (qU 3 rfl ?_);rw[ah];refine qU 1 rfl ?_;by_cases c5:40<lb.length
     · rw[aO (show (40:Int)<(lb.length:Int) by omega)];refine qU 26 rfl (ae.nil ?_);have hEt:E=true:=by rw[← hE,aO (by omega)];rfl
       subst hEt;exact AW.aG rfl (qX 1 rfl (qN rfl))
     rw[a9 (show ¬(40:Int)<(lb.length:Int) by omega)];refine qU 2 rfl (qU 3 rfl ?_);rw[ah];refine qU 1 rfl ?_;by_cases c6:40<js.length
     · rw[aO (show (40:Int)<(js.length:Int) by omega)];refine qU 20 rfl (ae.nil ?_);have hEt:E=true:=by rw[← hE,aO (by omega)];rfl
       subst hEt;exact AW.aG rfl (qX 1 rfl (qN rfl))
     rw[a9 (show ¬(40:Int)<(js.length:Int) by omega)];refine qU 2 rfl (qU 3 rfl ?_);rw[ah];refine qU 1 rfl ?_;by_cases c7:40<lds.length
     · rw[aO (show (40:Int)<(lds.length:Int) by omega)];refine qU 14 rfl (ae.nil ?_);have hEt:E=true:=by rw[← hE,aO (by omega)];rfl
       subst hEt;exact AW.aG rfl (qX 1 rfl (qN rfl))
     rw[a9 (show ¬(40:Int)<(lds.length:Int) by omega)];refine qU 2 rfl (qU 3 rfl ?_);rw[ah];refine qU 1 rfl ?_;by_cases c8:40<bs.length
     · rw[aO (show (40:Int)<(bs.length:Int) by omega)];refine qU 8 rfl (ae.nil ?_);have hEt:E=true:=by rw[← hE,aO (by omega)];rfl
       subst hEt;exact AW.aG rfl (qX 1 rfl (qN rfl))
     rw[a9 (show ¬(40:Int)<(bs.length:Int) by omega)];refine qU 2 rfl (qU 4 rfl ?_);rw[ah];refine qU 1 rfl ?_;by_cases c9:2<rt.length
     · rw[aO (show (2:Int)<(rt.length:Int) by omega)];refine qU 1 rfl (ae.nil ?_);have hEt:E=true:=by rw[← hE,aO (by omega)];rfl
       subst hEt;exact AW.aG rfl (qX 1 rfl (qN rfl))
     rw[a9 (show ¬(2:Int)<(rt.length:Int) by omega)];refine qU 1 rfl (ae.nil (AW.aD rfl (AW.skip ?_)));exact⟨(),rfl,by omega⟩
   rw[a9 (show ¬(8:Int)<(js.length:Int) by omega)];refine qU 8 rfl (qU 3 rfl ?_);rw[ah];refine qU 1 rfl ?_;by_cases c5:40<lb.length
   · rw[aO (show (40:Int)<(lb.length:Int) by omega)];refine qU 26 rfl (ae.nil ?_);have hEt:E=true:=by rw[← hE,aO (by omega)];rfl
     subst hEt;exact AW.aG rfl (qX 1 rfl (qN rfl))
   rw[a9 (show ¬(40:Int)<(lb.length:Int) by omega)];refine qU 2 rfl (qU 3 rfl ?_);rw[ah];refine qU 1 rfl ?_;by_cases c6:40<js.length
   · rw[aO (show (40:Int)<(js.length:Int) by omega)];refine qU 20 rfl (ae.nil ?_);have hEt:E=true:=by rw[← hE,aO (by omega)];rfl
     subst hEt;exact AW.aG rfl (qX 1 rfl (qN rfl))
   rw[a9 (show ¬(40:Int)<(js.length:Int) by omega)];refine qU 2 rfl (qU 3 rfl ?_);rw[ah];refine qU 1 rfl ?_;by_cases c7:40<lds.length
   · rw[aO (show (40:Int)<(lds.length:Int) by omega)];refine qU 14 rfl (ae.nil ?_);have hEt:E=true:=by rw[← hE,aO (by omega)];rfl
     subst hEt;exact AW.aG rfl (qX 1 rfl (qN rfl))
   rw[a9 (show ¬(40:Int)<(lds.length:Int) by omega)];refine qU 2 rfl (qU 3 rfl ?_);rw[ah];refine qU 1 rfl ?_;by_cases c8:40<bs.length
   · rw[aO (show (40:Int)<(bs.length:Int) by omega)];refine qU 8 rfl (ae.nil ?_);have hEt:E=true:=by rw[← hE,aO (by omega)];rfl
     subst hEt;exact AW.aG rfl (qX 1 rfl (qN rfl))
   rw[a9 (show ¬(40:Int)<(bs.length:Int) by omega)];refine qU 2 rfl (qU 4 rfl ?_);rw[ah];refine qU 1 rfl ?_;by_cases c9:2<rt.length
   · rw[aO (show (2:Int)<(rt.length:Int) by omega)];refine qU 1 rfl (ae.nil ?_);have hEt:E=true:=by rw[← hE,aO (by omega)];rfl
     subst hEt;exact AW.aG rfl (qX 1 rfl (qN rfl))
   rw[a9 (show ¬(2:Int)<(rt.length:Int) by omega)];refine qU 1 rfl (ae.nil (AW.aD rfl (AW.skip ?_)));exact⟨(),rfl,by omega⟩
 · rw[a9 hc,Bool.false_or] at hE;obtain ⟨G,hG⟩: ∃G,fo (KU lb) (lb.length-0) 0=G:=⟨_,rfl⟩;rw[hG] at hE;show AW _ _ _ _ _ _ _ [(2,.bx [dS ln,aK lb,aH js,aI lds]),(3,.bx [.sl 1 (rt.map bE),.sl 4 (bs.map gx.D),.sl 1 (md.map (fun n=>dI n))])];refine qX 1 rfl (qI (qX 1 rfl (ae.nil (AW.block ?_))));refine AW.aJ [2,3,5,6] (fun i:Nat=>[(2,.bx [dS ln,aK lb,aH js,aI lds]),(3,.bx [.sl 1 (rt.map bE),.sl 4 (bs.map gx.D),.sl 1 (md.map (fun n=>dI n))]),(5,.d (dI (ru lb i))),(6,.d (dI i))]) (fun i=>i≤lb.length∧fo (KU lb) (lb.length-i) i=G) (fun i=>lb.length-i) 0 rfl ⟨Nat.zero_le _,hG⟩ (fun i ⟨hi,hiG⟩=>?_)
   · show AW _ _ _ _ _ _ _ [(2,.bx [dS ln,aK lb,aH js,aI lds]),(3,.bx [.sl 1 (rt.map bE),.sl 4 (bs.map gx.D),.sl 1 (md.map (fun n=>dI n))]),(5,.d (dI (ru lb i))),(6,.d (dI i))];refine AW.seq (qX 4 rfl ?_);rw[ah];refine qU 1 rfl (ae.nil (AW.cond rfl (fun h=>?_) (fun h=>?_)))
     · have hin:i<lb.length:=by have:=ak h;omega
       have gB:=getM Body.D hin;have hpl:=(hlb i).2.1;have hmk:=fun k=>(hlb i).2.2 k;have wMi:=wM i;have hhit:=fun h0:KU lb i=true=>(fJ hin h0).symm.trans hiG;have hmiss:=fun h0:KU lb i=false=>(eJ hin h0).symm.trans hiG;have hpb:KU lb i=decide (40<(lb.getD i default).pts.length):=rfl;have hnx:ru lb (i+1)=rX (fun k=>zF ((lb.getD i default).pts.getD k default)) (ru lb i) (lb.getD i default).pts.length:=rfl;generalize lb.getD i default=Bd at *;unfold big at hpl;refine AW.skip (AW.seq (AW.block (AW.seq (qX 3 rfl (ae.idx tok Bd.D rfl rfl rfl rfl (aj i) gB ?_)))));refine qU 3 rfl ?_;rw[ah];refine qU 1 rfl (ae.nil (AW.cond rfl (fun h=>?_) (fun h=>?_)))
       · have h40:40<Bd.pts.length:=by have:=ak h;omega
         rw[aO h40] at hpb;have:=hhit hpb;subst this;have hEt:E=true:=by rw[← hE];rfl
         subst hEt;exact qX 1 rfl (qN rfl)
       · have h40: ¬40<Bd.pts.length:=by have:=ar h;omega
         rw[a9 h40] at hpb;refine AW.skip (qX 1 rfl (ae.nil (AW.block ?_)));refine AW.aJ [2,3,5,6,7] (fun k:Nat=>[(2,.bx [dS ln,aK lb,aH js,aI lds]),(3,.bx [.sl 1 (rt.map bE),.sl 4 (bs.map gx.D),.sl 1 (md.map (fun n=>dI n))]),(5,.d (dI (rX (fun k=>zF (Bd.pts.getD k default)) (ru lb i) k))),(6,.d (dI i)),(7,.d (dI k))]) (fun k=>k≤Bd.pts.length) (fun k=>Bd.pts.length-k) 0 rfl (Nat.zero_le _) (fun k hk=>?_)
         · show AW _ _ _ _ _ _ _ [(2,.bx [dS ln,aK lb,aH js,aI lds]),(3,.bx [.sl 1 (rt.map bE),.sl 4 (bs.map gx.D),.sl 1 (md.map (fun n=>dI n))]),(5,.d (dI (rX (fun k=>zF (Bd.pts.getD k default)) (ru lb i) k))),(6,.d (dI i)),(7,.d (dI k))];refine AW.seq (qX 4 rfl (ae.idx tok Bd.D rfl rfl rfl rfl (aj i) gB ?_));refine qU 3 rfl ?_;rw[ah];refine qU 1 rfl (ae.nil (AW.cond rfl (fun h=>?_) (fun h=>?_)))
           · have hkn:k<Bd.pts.length:=by have:=ak h;omega
             have gM:=getM Mark.D hkn;have hmk:=hmk k;have wMi:=wMi k;have hms:rX (fun k=>zF (Bd.pts.getD k default)) (ru lb i) (k+1)=max (rX (fun k=>zF (Bd.pts.getD k default)) (ru lb i) k) (zF (Bd.pts.getD k default)):=rfl;generalize rX (fun k=>zF (Bd.pts.getD k default)) (ru lb i) k=n at *;generalize Bd.pts.getD k default=p at gM hms hmk;obtain ⟨pn,⟨xg,xn,xd⟩,⟨yg,yn,yd⟩⟩:=p;obtain ⟨_,h1,h2⟩:=hmk;have a1:xn.length≤K:=h1.2.2.1;have a2:xd.length≤K:=h1.2.2.2;have a3:yn.length≤K:=h2.2.2.1;have a4:yd.length≤K:=h2.2.2.2;have hmw:zF ⟨pn,⟨xg,xn,xd⟩,⟨yg,yn,yd⟩⟩=xn.length+xd.length+yn.length+yd.length:=rfl;rw[hmw] at hms;refine AW.skip (AW.seq (AW.block (qX 3 rfl (ae.idx tok Bd.D rfl rfl rfl rfl (aj i) gB ?_))));refine qU 3 rfl (ae.idx tok (Mark.D ⟨pn,⟨xg,xn,xd⟩,⟨yg,yn,yd⟩⟩) rfl rfl rfl rfl (aj k) gM ?_);refine qU 3 rfl (ae.nil (qT 5 rfl ?_));rw[a8];refine qU 4 rfl ?_;rw[a8];refine qU 1 rfl ?_;rw[aF (x:=(xn.length:Int)+(xd.length:Int)) (by omega) (by omega)];refine qU 4 rfl ?_;rw[a8];refine qU 1 rfl ?_;rw[aF (x:=(xn.length:Int)+(xd.length:Int)+(yn.length:Int)) (by omega) (by omega)];refine qU 4 rfl ?_;rw[a8];refine qU 1 rfl ?_;rw[aF (x:=(xn.length:Int)+(xd.length:Int)+(yn.length:Int)+(yd.length:Int)) (by omega) (by omega),show (xn.length:Int)+(xd.length:Int)+(yn.length:Int)+(yd.length:Int)=((xn.length+xd.length+yn.length+yd.length:Nat):Int) by omega];refine qU 1 rfl ?_;rw[xV,← hms];refine qU 1 rfl (ae.nil (qT 2 rfl ?_));rw[aF (x:=(k:Int)+1) (by omega) (by omega)];refine qU 1 rfl (ae.nil ?_);exact⟨k+1,rfl,hkn,by omega⟩
           have hkn:k=Bd.pts.length:=by have:=ar h;omega
           subst hkn;rw[← hnx];refine AW.exit (qT 2 rfl ?_);rw[aF (x:=(i:Int)+1) (by omega) (by omega)];refine qU 1 rfl (ae.nil ?_);exact⟨i+1,rfl,⟨hin,hmiss hpb⟩,by omega⟩
     have hin:i=lb.length:=by have:=ar h;omega
     subst hin;rw[fK (Nat.lt_irrefl _)] at hiG;subst hiG;rw[Bool.false_or] at hE;have wB:=wB lb.length;generalize ru lb lb.length=N1 at *;have wR:=fun k=>zq (f:=fun i=>dZ (rt.getD i [])) wB (fun i=>yr i) k;refine AW.exit (AW.seq (qX 1 rfl (ae.nil (AW.block ?_))));refine AW.aJ [2,3,5,9] (fun i:Nat=>[(2,.bx [dS ln,aK lb,aH js,aI lds]),(3,.bx [.sl 1 (rt.map bE),.sl 4 (bs.map gx.D),.sl 1 (md.map (fun n=>dI n))]),(5,.d (dI (rX (fun i=>dZ (rt.getD i [])) N1 i))),(9,.d (dI i))]) (fun i=>i≤rt.length) (fun i=>rt.length-i) 0 rfl (Nat.zero_le _) (fun i hi=>?_)
     · show AW _ _ _ _ _ _ _ [(2,.bx [dS ln,aK lb,aH js,aI lds]),(3,.bx [.sl 1 (rt.map bE),.sl 4 (bs.map gx.D),.sl 1 (md.map (fun n=>dI n))]),(5,.d (dI (rX (fun i=>dZ (rt.getD i [])) N1 i))),(9,.d (dI i))];refine AW.seq (qX 5 rfl ?_);rw[ah];refine qU 1 rfl (ae.nil (AW.cond rfl (fun h=>?_) (fun h=>?_)))
       · have hin:i<rt.length:=by have:=ak h;omega
         have gR:=getM bE hin;have zri:=zr i;have hms:rX (fun i=>dZ (rt.getD i [])) N1 (i+1)=max (rX (fun i=>dZ (rt.getD i [])) N1 i) (dZ (rt.getD i [])):=rfl;refine AW.skip (AW.seq (AW.block (qT 5 rfl (ae.idx tok (bE (rt.getD i [])) rfl rfl rfl rfl (aj i) gR ?_))));refine qU 1 rfl (ae.call tok rfl rfl rfl rfl zri (qU 1 rfl ?_));rw[xV,← hms];refine qU 1 rfl (ae.nil (qT 2 rfl ?_));rw[aF (x:=(i:Int)+1) (by omega) (by omega)];refine qU 1 rfl (ae.nil ?_);exact⟨i+1,rfl,hin,by omega⟩
       have hin:i=rt.length:=by have:=ar h;omega
       subst hin;have wR:=wR rt.length;generalize rX (fun i=>dZ (rt.getD i [])) N1 rt.length=N2 at *
       have wP: ∀i,nq bs N2 i≤4000000000000000:=fun i=>by
        induction i with
        | zero=>exact wR
        | succ i ih =>
          have h1:=yc i;have h2:=ys i;have h3:=yx i;have h4:=yy i;show max (max (max (max (nq bs N2 i) _) _) _) _≤_;omega
       refine AW.exit (AW.seq (qX 1 rfl (ae.nil (AW.block ?_))));refine AW.aJ [2,3,5,10] (fun i:Nat=>[(2,.bx [dS ln,aK lb,aH js,aI lds]),(3,.bx [.sl 1 (rt.map bE),.sl 4 (bs.map gx.D),.sl 1 (md.map (fun n=>dI n))]),(5,.d (dI (nq bs N2 i))),(10,.d (dI i))]) (fun i=>i≤bs.length) (fun i=>bs.length-i) 0 rfl (Nat.zero_le _) (fun i hi=>?_)
       · show AW _ _ _ _ _ _ _ [(2,.bx [dS ln,aK lb,aH js,aI lds]),(3,.bx [.sl 1 (rt.map bE),.sl 4 (bs.map gx.D),.sl 1 (md.map (fun n=>dI n))]),(5,.d (dI (nq bs N2 i))),(10,.d (dI i))];refine AW.seq (qX 4 rfl ?_);rw[ah];refine qU 1 rfl (ae.nil (AW.cond rfl (fun h=>?_) (fun h=>?_)))
         · have hin:i<bs.length:=by have:=ak h;omega
           have gP:=getM gx.D hin;have zc:=zc i;have zs:=zs i;have zx:=zx i;have zy:=zy i;have hms:nq bs N2 (i+1)=max (max (max (max (nq bs N2 i) (dZ (bs.getD i default).c)) (dZ (bs.getD i default).s)) (dZ (bs.getD i default).x)) (dZ (bs.getD i default).y):=rfl;generalize bs.getD i default=p at *;obtain ⟨pc,ps,px,py⟩:=p;simp only[] at zc zs zx zy hms;refine AW.skip (AW.seq (AW.block (qX 3 rfl (ae.idx tok (gx.D ⟨pc,ps,px,py⟩) rfl rfl rfl rfl (aj i) gP ?_))));refine qU 3 rfl (ae.nil (AW.draw aU 14 (by kernel_rfl) ?_));refine qP 3 rfl (af.call tok rfl rfl rfl rfl rfl zc (qP 2 rfl (af.call tok rfl rfl rfl rfl rfl zs (qP 2 rfl (af.call tok rfl rfl rfl rfl rfl zx (qP 2 rfl (af.call tok rfl rfl rfl rfl rfl zy (qP 1 rfl ?_))))))));rw[xV,xV,xV,xV,← hms];refine af.nil (qU 1 rfl (ae.nil (qT 2 rfl ?_)));rw[aF (x:=(i:Int)+1) (by omega) (by omega)];refine qU 1 rfl (ae.nil ?_);exact⟨i+1,rfl,hin,by omega⟩
         have hin:i=bs.length:=by have:=ar h;omega
         subst hin;refine AW.exit (qX 5 rfl ?_);rw[ah];refine qU 1 rfl ?_;rw[aF (x:=4*(rt.length:Int)) (by omega) (by omega)];refine qU 1 rfl ?_;rw[aF (x:=16-4*(rt.length:Int)) (by omega) (by omega)];refine qU 1 rfl ?_;rw[hE];exact qU 1 rfl (qN rfl)
end Lift
namespace Lift
open Go Go.Proofs
theorem Ar:RT Tryz.prog 52 (List RD) (fun l=>[bE l]) (fun l=>tV l) :=
 (RT.sliceB 32 (el:=RD.D) (s:=3) Tryz.underlying52 (by kernel_rfl) (by kernel_rfl) (by decide) (Nat.le_of_ble_eq_true (by kernel_rfl)) FQ (fun v=>rfl)).map id (fun l h=>rfl) (fun l h=>⟨by have:=h.1;unfold reachBytes at this;show l.length≤_;omega,kU (fun v hv=>(h.2 v hv).mono (by decide)) ⟨fun _ h=>(by cases h),fun _ h=>(by cases h),Nat.zero_le _,Nat.zero_le _⟩⟩) (fun v=>⟨by kernel_rfl,fun d hd=>by simp at hd;subst hd;rfl⟩)
theorem Ky:RT Tryz.prog 27 (List (List RD)) (fun l=>[.sl 1 (l.map bE)]) (fun l=>l.length≤reachBytes∧ ∀v∈l,tV v) :=
 RT.slice (el:=bE) (s:=1) (by kernel_rfl) (by kernel_rfl) (by kernel_rfl) (by decide) (Nat.le_of_ble_eq_true (by kernel_rfl)) Ar (fun v=>rfl)
theorem IB:RT Tryz.prog 29 (List (List RD)) (fun l=>[.sl 1 (l.map bE)]) (fun l=>l.length≤reachBytes∧ ∀v∈l,tV v):=by
 have h:=RT.struct (P:=Tryz.prog) (t:=29) (m:=1) Tryz.underlying29 (by kernel_rfl) (kV.cons (by kernel_rfl) Ky kV.nil) (fun v=>rfl);exact h.map (fun v=>v.1) (fun v h=>rfl) (fun v h=>h.1) (fun v=>⟨by kernel_rfl,fun d hd=>by simp at hd;subst hd;rfl⟩)
def gx.nb(p:gx):Prop:=tV p.c∧tV p.s∧tV p.x∧tV p.y
theorem FR:RT Tryz.prog 73 gx (fun p=>p.D.flat) (fun p=>p.nb):=by
 have h:=RT.struct (P:=Tryz.prog) (t:=73) (m:=4) Tryz.underlying73 (by kernel_rfl) (kV.cons (by kernel_rfl) Ar (kV.cons (by kernel_rfl) Ar (kV.cons (by kernel_rfl) Ar (kV.cons (by kernel_rfl) Ar kV.nil)))) (fun v=>rfl)
 exact h.map (fun v=>⟨v.1,v.2.1,v.2.2.1,v.2.2.2.1⟩) (fun v h=>rfl) (fun v h=>⟨h.1,h.2.1,h.2.2.1,h.2.2.2.1⟩) (fun v=>⟨by kernel_rfl,fun d hd=>by
  simp only[D.flat,List.mem_cons,List.mem_nil_iff,or_false] at hd
  rcases hd with rfl | rfl | rfl | rfl<;>rfl⟩)
theorem EO:RT Tryz.prog 30 (List gx) (fun l=>[.sl 4 (l.map gx.D)]) (fun l=>l.length≤reachBytes∧ ∀v∈l,v.nb) :=
 RT.slice (el:=gx.D) (s:=4) (by kernel_rfl) (by kernel_rfl) (by kernel_rfl) (by decide) (Nat.le_of_ble_eq_true (by kernel_rfl)) FR (fun v=>rfl)
theorem IE:RT Tryz.prog 31 (List Int) (fun l=>[.sl 1 (l.map (fun n=>dI n))]) (fun _=>True) :=
 (RT.slice (el:=fun n:Int=>dI n) (s:=1) (by kernel_rfl) (by kernel_rfl) (by kernel_rfl) (by decide) (Nat.le_of_ble_eq_true (by kernel_rfl)) sP (fun v=>rfl)).map id (fun l h=>rfl) (fun l h=>trivial) (fun v=>⟨by kernel_rfl,fun d hd=>by simp at hd;subst hd;rfl⟩)
theorem tV.nil:tV []:=⟨Nat.zero_le _,fun i=>⟨fun _ h=>(by cases h),fun _ h=>(by cases h),Nat.zero_le _,Nat.zero_le _⟩⟩
theorem u_assembly:RT Tryz.prog 33 Asm (fun a=>a.D.flat) (fun a=>AsB a):=by
 have h:=RT.struct (P:=Tryz.prog) (t:=33) (m:=3) Tryz.underlying33 (by kernel_rfl) (kV.cons (by kernel_rfl) IB (kV.cons (by kernel_rfl) EO (kV.cons (by kernel_rfl) IE kV.nil))) (fun v=>rfl)
 refine h.map (fun v=>⟨v.1,v.2.1,v.2.2.1⟩) (fun v h=>rfl) (fun v h=>?_) (fun v=>⟨by kernel_rfl,fun d hd=>by
  simp only[D.flat,List.mem_cons,List.mem_nil_iff,or_false] at hd
  rcases hd with rfl | rfl | rfl<;>rfl⟩)
 have hp:=fun i=>kU h.2.1.2 ⟨tV.nil,tV.nil,tV.nil,tV.nil⟩ i;refine⟨Nat.le_trans h.1.1 (by decide),fun i=>?_,Nat.le_trans h.2.1.1 (by decide),fun i=>(hp i).1,fun i=>(hp i).2.1,fun i=>(hp i).2.2.1,fun i=>(hp i).2.2.2⟩;exact kU (p:=tV) (l:=v.1) h.1.2 tV.nil i
end Lift
namespace Lift
structure Rg where
 T:Type
 add:T→T→T
 mul:T→T→T
 neg:T→T
 z:T
 o:T
 ac: ∀x y,add x y=add y x
 aa: ∀x y w,add (add x y) w=add x (add y w)
 az: ∀x,add x z=x
 an: ∀x,add x (neg x)=z
 mc: ∀x y,mul x y=mul y x
 ma: ∀x y w,mul (mul x y) w=mul x (mul y w)
 mo: ∀x,mul x o=x
 md: ∀x y w,mul x (add y w)=add (mul x y) (mul x w)
instance (R:Rg):Add R.T:=⟨R.add⟩
instance (R:Rg):Mul R.T:=⟨R.mul⟩
instance (R:Rg):Neg R.T:=⟨R.neg⟩
instance (R:Rg):Sub R.T:=⟨fun x y=>R.add x (R.neg y)⟩
instance (R:Rg):OfNat R.T 0:=⟨R.z⟩
instance (R:Rg):OfNat R.T 1:=⟨R.o⟩
section
variable {R:Rg}
theorem Rg.sub_def(x y:R.T):x-y=x+ -y:=rfl
theorem Rg.add_comm(x y:R.T):x+y=y+x:=R.ac x y
theorem Rg.add_assoc(x y w:R.T):x+y+w=x+(y+w):=R.aa x y w
theorem Rg.add_zero(x:R.T):x+0=x:=R.az x
theorem Rg.zero_add(x:R.T):0+x=x:=by rw[Rg.add_comm,Rg.add_zero]
theorem Rg.add_neg(x:R.T):x+ -x=0:=R.an x
theorem Rg.mul_comm(x y:R.T):x*y=y*x:=R.mc x y
theorem Rg.mul_assoc(x y w:R.T):x*y*w=x*(y*w):=R.ma x y w
theorem Rg.mul_one(x:R.T):x*1=x:=R.mo x
theorem Rg.one_mul(x:R.T):1*x=x:=by rw[Rg.mul_comm,Rg.mul_one]
theorem Rg.mul_add(x y w:R.T):x*(y+w)=x*y+x*w:=R.md x y w
theorem Rg.add_mul(x y w:R.T):(y+w)*x=y*x+w*x:=by rw[Rg.mul_comm,Rg.mul_add,Rg.mul_comm x y,Rg.mul_comm x w]
theorem Rg.BW{x y w:R.T}(h:x+y=x+w):y=w:=by
 have: -x+(x+y)= -x+(x+w):=by rw[h]
 rw[← Rg.add_assoc,← Rg.add_assoc,Rg.add_comm (-x),Rg.add_neg,Rg.zero_add,Rg.zero_add] at this;exact this
theorem Rg.neg_eq{x y:R.T}(h:x+y=0): -x=y:=Rg.BW (x:=x) (by rw[Rg.add_neg,h])
theorem Rg.neg_neg(x:R.T): - -x=x:=Rg.neg_eq (by rw[Rg.add_comm,Rg.add_neg])
theorem Rg.neg_zero: -(0:R.T)=0:=Rg.neg_eq (Rg.add_zero 0)
theorem Rg.mul_zero(x:R.T):x*0=0:=Rg.BW (x:=x*0) (by rw[← Rg.mul_add,Rg.add_zero,Rg.add_zero])
theorem Rg.zero_mul(x:R.T):0*x=0:=by rw[Rg.mul_comm,Rg.mul_zero]
theorem Rg.mul_neg(x y:R.T):x* -y= -(x*y):=(Rg.neg_eq (by rw[← Rg.mul_add,Rg.add_neg,Rg.mul_zero])).symm
theorem Rg.neg_mul(x y:R.T): -x*y= -(x*y):=by rw[Rg.mul_comm,Rg.mul_neg,Rg.mul_comm]
theorem Rg.neg_add(x y:R.T): -(x+y)= -x+ -y:=Rg.neg_eq (by
 rw[Rg.add_assoc,← Rg.add_assoc y,Rg.add_comm y,Rg.add_assoc,Rg.add_neg,Rg.add_zero,Rg.add_neg])
theorem Rg.sub_self(x:R.T):x-x=0:=Rg.add_neg x
theorem Rg.x9{x y:R.T}(h:x-y=0):x=y:=by
 have:x+ -y+y=0+y:=by rw[← Rg.sub_def,h]
 rwa [Rg.add_assoc,Rg.add_comm (-y),Rg.add_neg,Rg.add_zero,Rg.zero_add] at this
end
inductive Px where
 | v (i:Nat)
 | z
 | o
 | add (p q:Px)
 | mul (p q:Px)
 | neg (p:Px)
 | sub (p q:Px)
instance:Add Px:=⟨.add⟩
instance:Mul Px:=⟨.mul⟩
instance:Neg Px:=⟨.neg⟩
instance:Sub Px:=⟨.sub⟩
instance:OfNat Px 0:=⟨.z⟩
instance:OfNat Px 1:=⟨.o⟩
def Px.ev{R:Rg}(ρ:List R.T):Px→R.T
 | .v i=>ρ.getD i 0
 | .z=>0
 | .o=>1
 | .add p q=>p.ev ρ+q.ev ρ
 | .mul p q=>p.ev ρ*q.ev ρ
 | .neg p=> -p.ev ρ
 | .sub p q=>p.ev ρ-q.ev ρ
def Fo(i:Nat):List Nat→List Nat
 | []=>[i]
 | j::r=>if i≤j then i::j::r else j::Fo i r
def Ml:List Nat→List Nat→List Nat
 | [],l=>l
 | i::r,l=>Fo i (Ml r l)
abbrev Pl:=List (Bool×List Nat)
def Pl.flip(p:Pl):Pl:=p.map fun m=>(!m.1,m.2)
def Pl.M9(m:Bool×List Nat)(p:Pl):Pl:=p.map fun n=>(m.1==n.1,Ml m.2 n.2)
def Pl.mul:Pl→Pl→Pl
 | [],_=>[]
 | m::r,q=>Pl.M9 m q++Pl.mul r q
def Px.nf:Px→Pl
 | .v i=>[(true,[i])]
 | .z=>[]
 | .o=>[(true,[])]
 | .add p q=>p.nf++q.nf
 | .mul p q=>Pl.mul p.nf q.nf
 | .neg p=>Pl.flip p.nf
 | .sub p q=>p.nf++Pl.flip q.nf
def Pl.rem(m:Bool×List Nat):Pl→Option Pl
 | []=>none
 | n::r=>if (m.1 != n.1)&&(m.2==n.2) then some r else match Pl.rem m r with
   | some r'=>some (n::r')
   | none=>none
def Pl.Jd:Nat→Pl→Bool
 | _,[]=>true
 | 0,_::_=>false
 | f+1,m::r=>match Pl.rem m r with
   | some r'=>Pl.Jd f r'
   | none=>false
def Px.z8(p q:Px):Bool:=let l:=(Px.sub p q).nf;Pl.Jd l.length l
section
variable {R:Rg}
def mN(ρ:List R.T):List Nat→R.T
 | []=>1
 | i::r=>ρ.getD i 0*mN ρ r
def wH(b:Bool)(x:R.T):R.T:=if b then x else -x
def oM(ρ:List R.T):Pl→R.T
 | []=>0
 | m::r=>wH m.1 (mN ρ m.2)+oM ρ r
theorem G7(ρ:List R.T)(i:Nat): ∀l,mN ρ (Fo i l)=ρ.getD i 0*mN ρ l
 | []=>rfl
 | j::r=>by
   unfold Fo;split
   · rfl
   · show ρ.getD j 0*mN ρ (Fo i r)=ρ.getD i 0*(ρ.getD j 0*mN ρ r);rw[G7 ρ i r,← Rg.mul_assoc,Rg.mul_comm (ρ.getD j 0),Rg.mul_assoc]
theorem J7(ρ:List R.T): ∀l m,mN ρ (Ml l m)=mN ρ l*mN ρ m
 | [],m=>(Rg.one_mul _).symm
 | i::r,m=>by
   show mN ρ (Fo i (Ml r m))=ρ.getD i 0*mN ρ r*mN ρ m;rw[G7,J7 ρ r m,Rg.mul_assoc]
theorem uf(ρ:List R.T): ∀p q,oM ρ (p++q)=oM ρ p+oM ρ q
 | [],q=>(Rg.zero_add _).symm
 | m::r,q=>by
   show wH m.1 (mN ρ m.2)+oM ρ (r++q)=wH m.1 (mN ρ m.2)+oM ρ r+oM ρ q;rw[uf ρ r q,Rg.add_assoc]
theorem DO(b:Bool)(x:R.T):wH (!b) x= -wH b x:=by
 cases b
 · exact(Rg.neg_neg x).symm
 · rfl
theorem IV(a b:Bool)(x y:R.T):wH (a==b) (x*y)=wH a x*wH b y:=by
 cases a<;>cases b
 · show x*y= -x* -y;rw[Rg.neg_mul,Rg.mul_neg,Rg.neg_neg]
 · show -(x*y)= -x*y;rw[Rg.neg_mul]
 · show -(x*y)=x* -y;rw[Rg.mul_neg]
 · rfl
theorem vn(ρ:List R.T): ∀p:Pl,oM ρ (Pl.flip p)= -oM ρ p
 | []=>Rg.neg_zero.symm
 | m::r=>by
   show wH (!m.1) (mN ρ m.2)+oM ρ (Pl.flip r)= -(wH m.1 (mN ρ m.2)+oM ρ r);rw[vn ρ r,DO,Rg.neg_add]
theorem D4(ρ:List R.T)(m:Bool×List Nat): ∀p:Pl,oM ρ (Pl.M9 m p)=wH m.1 (mN ρ m.2)*oM ρ p
 | []=>(Rg.mul_zero _).symm
 | n::r=>by
   show wH (m.1==n.1) (mN ρ (Ml m.2 n.2))+oM ρ (Pl.M9 m r)=wH m.1 (mN ρ m.2)*(wH n.1 (mN ρ n.2)+oM ρ r);rw[D4 ρ m r,J7,IV,Rg.mul_add]
theorem D3(ρ:List R.T): ∀p q:Pl,oM ρ (Pl.mul p q)=oM ρ p*oM ρ q
 | [],q=>(Rg.zero_mul _).symm
 | m::r,q=>by
   show oM ρ (Pl.M9 m q++Pl.mul r q)=(wH m.1 (mN ρ m.2)+oM ρ r)*oM ρ q;rw[uf,D4,D3 ρ r q,Rg.add_mul]
theorem Px.th(ρ:List R.T): ∀p:Px,oM ρ p.nf=p.ev ρ
 | .v i=>by
   show ρ.getD i 0*1+0=_;rw[Rg.mul_one,Rg.add_zero];rfl
 | .z=>rfl
 | .o=>Rg.add_zero _
 | .add p q=>by
   show oM ρ (p.nf++q.nf)=p.ev ρ+q.ev ρ;rw[uf,Px.th ρ p,Px.th ρ q]
 | .mul p q=>by
   show oM ρ (Pl.mul p.nf q.nf)=p.ev ρ*q.ev ρ;rw[D3,Px.th ρ p,Px.th ρ q]
 | .neg p=>by
   show oM ρ (Pl.flip p.nf)= -p.ev ρ;rw[vn,Px.th ρ p]
 | .sub p q=>by
   show oM ρ (p.nf++Pl.flip q.nf)=p.ev ρ-q.ev ρ;rw[uf,vn,Px.th ρ p,Px.th ρ q];rfl
theorem D1(ρ:List R.T)(m:Bool×List Nat): ∀{p p':Pl},Pl.rem m p=some p'→wH m.1 (mN ρ m.2)+oM ρ p=oM ρ p'
 | [],p',h=>by cases h
 | n::r,p',h=>by
   unfold Pl.rem at h;split at h
   · rename_i hc;cases h;rw[Bool.and_eq_true] at hc
     have e1:n.1= !m.1:=by
      have h1:=hc.1
      revert h1
      cases m.1<;>cases n.1<;>simp
     have e2:m.2=n.2:=beq_iff_eq.1 hc.2;show wH m.1 (mN ρ m.2)+(wH n.1 (mN ρ n.2)+oM ρ r)=oM ρ r;rw[e1,← e2,DO,← Rg.add_assoc,Rg.add_neg,Rg.zero_add]
   · split at h
     · rename_i r' hr;cases h;have ih:=D1 ρ m hr;show wH m.1 (mN ρ m.2)+(wH n.1 (mN ρ n.2)+oM ρ r)=wH n.1 (mN ρ n.2)+oM ρ r';rw[← ih,← Rg.add_assoc,Rg.add_comm (wH m.1 _),Rg.add_assoc]
     · cases h
theorem A7(ρ:List R.T): ∀(f:Nat) {p:Pl},Pl.Jd f p=true→oM ρ p=0
 | _,[],_=>rfl
 | 0,_::_,h=>by cases h
 | f+1,m::r,h=>by
   have h:(match Pl.rem m r with
    | some r'=>Pl.Jd f r'
    | none=>false)=true:=h
   split at h
   · rename_i r' hr;exact(D1 ρ m hr).trans (A7 ρ f h)
   · cases h
theorem Rg.bG(ρ:List R.T)(p q:Px)(h:Px.z8 p q=true):p.ev ρ=q.ev ρ:=by
 have h1:=A7 ρ _ h;rw[Px.th] at h1;exact Rg.x9 h1
end
abbrev X0:Px:= .v 0
abbrev X1:Px:= .v 1
abbrev X2:Px:= .v 2
abbrev X3:Px:= .v 3
abbrev X4:Px:= .v 4
abbrev X5:Px:= .v 5
abbrev X6:Px:= .v 6
abbrev X7:Px:= .v 7
example (R:Rg) (a b c:R.T):(a+b)*(a-b)+c*b=a*a+b*(c-b):=Rg.bG [a,b,c] ((X0+X1)*(X0-X1)+X2*X1) (X0*X0+X1*(X2-X1)) rfl
end Lift
namespace Lift
structure OR extends Rg where
 sgn:T→Int
 s3: ∀x,sgn x=1∨sgn x=0∨sgn x= -1
 sn: ∀x,sgn (neg x)= -sgn x
 sm: ∀x y,sgn (mul x y)=sgn x*sgn y
 sp: ∀x y,sgn x=1→sgn y=1→sgn (add x y)=1
 s0: ∀x y,sgn x=0→sgn (add x y)=sgn y
 s1:sgn o=1
section
variable {R:OR}
theorem OR.ng(x:R.T):R.sgn (-x)= -R.sgn x:=R.sn x
theorem OR.ml(x y:R.T):R.sgn (x*y)=R.sgn x*R.sgn y:=R.sm x y
theorem OR.null(x y:R.T)(h:R.sgn x=0):R.sgn (x+y)=R.sgn y:=R.s0 x y h
theorem OR.xS(x y:R.T)(h:R.sgn y=0):R.sgn (x+y)=R.sgn x:=by rw[Rg.add_comm];exact R.s0 y x h
theorem OR.zero:R.sgn (0:R.T)=0:=by
 have h:=OR.ng (R:=R) 0;rw[Rg.neg_zero] at h;omega
theorem OR.one:R.sgn (1:R.T)=1:=R.s1
theorem OR.pp{x y:R.T}(h1:R.sgn x=1)(h2:0≤R.sgn y):R.sgn (x+y)=1:=by
 rcases R.s3 y with h | h | h
 · exact R.sp x y h1 h
 · rw[OR.xS x y h];exact h1
 · omega
theorem OR.nn{x y:R.T}(h1:R.sgn x= -1)(h2:R.sgn y≤0):R.sgn (x+y)= -1:=by
 have h:=OR.pp (x:= -x) (y:= -y) (by rw[OR.ng];omega) (by rw[OR.ng];omega);rw[← Rg.neg_add,OR.ng] at h;omega
theorem OR.kB{x:R.T}(y:R.T)(h:R.sgn x=0):R.sgn (x*y)=0:=by rw[OR.ml,h,Int.zero_mul]
theorem OR.Bo{x:R.T}(y:R.T)(h:R.sgn x=0):R.sgn (y*x)=0:=by rw[OR.ml,h,Int.mul_zero]
theorem OR.sq(x:R.T):0≤R.sgn (x*x):=by
 rw[OR.ml];rcases R.s3 x with h | h | h<;>rw[h]<;>decide
theorem OR.Nc{x:R.T}(h:R.sgn (x*x)=0):R.sgn x=0:=by
 rw[OR.ml] at h;rcases R.s3 x with e | e | e<;>rw[e] at h ⊢ <;>revert h<;>decide
theorem OR.MZ{x:R.T}(h:R.sgn x≠0):R.sgn (x*x)=1:=by
 rw[OR.ml];rcases R.s3 x with e | e | e
 · rw[e];rfl
 · exact absurd e h
 · rw[e];rfl
theorem OR.more{x y:R.T}(h:R.sgn (x*x-y*y)=1):R.sgn (x+y)=R.sgn x:=by
 have hx:R.sgn x≠0:=fun e=>by
  have h1:=OR.null (x*x) (-(y*y)) (OR.kB x e);have h2:=OR.sq y;rw[OR.ng] at h1;have h1:R.sgn (x*x-y*y)= -R.sgn (y*y):=h1;omega
 have key: ∀{x y:R.T},R.sgn (x*x-y*y)=1→R.sgn x=1→R.sgn (x+y)=1:=fun {x y} h hx=>by
  rcases R.s3 y with e | e | e
  · exact OR.pp hx (by omega)
  · exact OR.pp hx (by omega)
  · have h1:R.sgn (x-y)=1:=OR.pp (y:= -y) hx (by rw[OR.ng];omega);have e:x*x-y*y=(x-y)*(x+y):=Rg.bG [x,y] (X0*X0-X1*X1) ((X0-X1)*(X0+X1)) rfl;rw[e,OR.ml,h1] at h;omega
 rcases R.s3 x with e | e | e
 · rw[e];exact key h e
 · exact absurd e hx
 · have h1:=key (x:= -x) (y:= -y) (by
    rw[← h];congr 1
    exact Rg.bG [x,y] (-X0* -X0- -X1* -X1) (X0*X0-X1*X1) rfl) (by rw[OR.ng];omega)
   rw[← Rg.neg_add,OR.ng] at h1;omega
end
def Rg.ext(R:Rg)(d:R.T):Rg where
 T:=R.T×R.T
 add x y:=(x.1+y.1,x.2+y.2)
 mul x y:=(x.1*y.1+x.2*y.2*d,x.1*y.2+x.2*y.1)
 neg x:=(-x.1, -x.2)
 z:=(0,0)
 o:=(1,0)
 ac x y:=Prod.ext (Rg.add_comm _ _) (Rg.add_comm _ _)
 aa x y w:=Prod.ext (Rg.add_assoc _ _ _) (Rg.add_assoc _ _ _)
 az x:=Prod.ext (Rg.add_zero _) (Rg.add_zero _)
 an x:=Prod.ext (Rg.add_neg _) (Rg.add_neg _)
 mc x y:=Prod.ext (Rg.bG [x.1,x.2,y.1,y.2,d] (X0*X2+X1*X3*X4) (X2*X0+X3*X1*X4) rfl) (Rg.bG [x.1,x.2,y.1,y.2] (X0*X3+X1*X2) (X2*X1+X3*X0) rfl)
 ma x y w:=Prod.ext
  (Rg.bG [x.1,x.2,y.1,y.2,w.1,w.2,d] ((X0*X2+X1*X3*X6)*X4+(X0*X3+X1*X2)*X5*X6) (X0*(X2*X4+X3*X5*X6)+X1*(X2*X5+X3*X4)*X6) rfl)
  (Rg.bG [x.1,x.2,y.1,y.2,w.1,w.2,d] ((X0*X2+X1*X3*X6)*X5+(X0*X3+X1*X2)*X4) (X0*(X2*X5+X3*X4)+X1*(X2*X4+X3*X5*X6)) rfl)
 mo x:=Prod.ext (Rg.bG [x.1,x.2,d] (X0*1+X1*0*X2) X0 rfl) (Rg.bG [x.1,x.2] (X0*0+X1*1) X1 rfl)
 md x y w:=Prod.ext
  (Rg.bG [x.1,x.2,y.1,y.2,w.1,w.2,d] (X0*(X2+X4)+X1*(X3+X5)*X6) (X0*X2+X1*X3*X6+(X0*X4+X1*X5*X6)) rfl)
  (Rg.bG [x.1,x.2,y.1,y.2,w.1,w.2] (X0*(X3+X5)+X1*(X2+X4)) (X0*X3+X1*X2+(X0*X5+X1*X4)) rfl)
end Lift
namespace Lift
def OR.es(R:OR)(d:R.T)(x:R.T×R.T):Int :=
 if R.sgn d=0 then R.sgn x.1 else if R.sgn x.1=R.sgn x.2∨R.sgn x.2=0 then R.sgn x.1 else
  if R.sgn x.1=0 then R.sgn x.2 else R.sgn x.1*R.sgn (x.1*x.1-x.2*x.2*d)
section
variable {R:OR} {d:R.T}
def OR.nr(d:R.T)(x:R.T×R.T):R.T:=x.1*x.1-x.2*x.2*d
theorem OR.H8(hd:R.sgn d=1)(b:R.T):R.sgn (b*b*d)=R.sgn (b*b):=by rw[OR.ml (b*b) d,hd,Int.mul_one]
theorem OR.EV(x y:R.T)(h:R.sgn x=0):R.sgn (x-y)= -R.sgn y:=(OR.null x (-y) h).trans (OR.ng y)
theorem OR.xw(x y:R.T)(h:R.sgn y=0):R.sgn (x-y)=R.sgn x:=OR.xS x (-y) (by rw[OR.ng,h];rfl)
theorem OR.jI(hd:R.sgn d=1){x:R.T×R.T}(h:R.sgn (OR.nr d x)=1):R.es d x=R.sgn x.1:=by
 obtain ⟨a,b⟩:=x;unfold OR.es OR.nr at *;simp only[] at *;rw[if_neg (by omega)];by_cases c1:R.sgn a=R.sgn b∨R.sgn b=0
 · rw[if_pos c1]
 rw[if_neg c1];by_cases c2:R.sgn a=0
 · have h1:=OR.EV (a*a) (b*b*d) (OR.kB a c2);rw[OR.H8 hd] at h1;have:=OR.sq b;omega
 · rw[if_neg c2,h,Int.mul_one]
theorem OR.k8(hd:R.sgn d=1){x:R.T×R.T}(h:R.sgn (OR.nr d x)= -1):R.es d x=R.sgn x.2:=by
 obtain ⟨a,b⟩:=x;unfold OR.es OR.nr at *;simp only[] at *;rw[if_neg (by omega)];by_cases c0:R.sgn b=0
 · have h1:=OR.xw (a*a) (b*b*d) (by rw[OR.H8 hd];exact OR.kB b c0);have:=OR.sq a;omega
 by_cases c1:R.sgn a=R.sgn b
 · rw[if_pos (.inl c1),c1]
 rw[if_neg (by simp[c0,c1])];by_cases c2:R.sgn a=0
 · rw[if_pos c2]
 rw[if_neg c2,h];rcases R.s3 a with e | e | e<;>rcases R.s3 b with g | g | g<;>omega
theorem OR.mu(hd:R.sgn d=1){x:R.T×R.T}(h1:R.sgn x.1=0)(h2:R.sgn x.2=0):R.es d x=0:=by
 unfold OR.es;rw[if_neg (by omega),if_pos (.inr h2),h1]
theorem OR.vx(x y:R.T×R.T):OR.nr d (x.1*y.1+x.2*y.2*d,x.1*y.2+x.2*y.1)=OR.nr d x*OR.nr d y :=
 Rg.bG [x.1,x.2,y.1,y.2,d] ((X0*X2+X1*X3*X4)*(X0*X2+X1*X3*X4) -(X0*X3+X1*X2)*(X0*X3+X1*X2)*X4) ((X0*X0-X1*X1*X4)*(X2*X2-X3*X3*X4)) rfl
theorem OR.K6(x:R.T×R.T):OR.nr d (-x.1, -x.2)=OR.nr d x :=
 Rg.bG [x.1,x.2,d] (-X0* -X0- -X1* -X1*X2) (X0*X0-X1*X1*X2) rfl
theorem OR.Ln{p q:R.T}(hd:R.sgn d=1)(hp:R.sgn p=1)(hq:R.sgn q=1)(h:R.sgn (p*p-q*q*d)=0)(x:R.T×R.T):R.es d x=R.sgn (x.1*q+x.2*p):=by
 obtain ⟨a,b⟩:=x;unfold OR.es;simp only[];rw[if_neg (by omega)];have ea:R.sgn (a*q)=R.sgn a:=by rw[OR.ml,hq,Int.mul_one]
 have eb:R.sgn (b*p)=R.sgn b:=by rw[OR.ml,hp,Int.mul_one]
 by_cases c0:R.sgn b=0
 · rw[if_pos (.inr c0),OR.xS _ _ (by rw[eb,c0]),ea]
 by_cases c1:R.sgn a=R.sgn b
 · rw[if_pos (.inl c1)];rcases R.s3 a with e | e | e
   · rw[OR.pp (by rw[ea,e]) (by rw[eb];omega),e]
   · omega
   · rw[OR.nn (by rw[ea,e]) (by rw[eb];omega),e]
 rw[if_neg (by simp[c0,c1])];by_cases c2:R.sgn a=0
 · rw[if_pos c2,OR.null _ _ (by rw[ea,c2]),eb]
 rw[if_neg c2]
 have e1:q*q*(a*a-b*b*d)=(a*q-b*p)*(a*q+b*p)+b*b*(p*p-q*q*d) :=
  Rg.bG [a,b,p,q,d] (X3*X3*(X0*X0-X1*X1*X4)) ((X0*X3-X1*X2)*(X0*X3+X1*X2)+X1*X1*(X2*X2-X3*X3*X4)) rfl
 have e2:R.sgn (a*a-b*b*d)=R.sgn (a*q-b*p)*R.sgn (a*q+b*p):=by
  have h1:R.sgn (q*q*(a*a-b*b*d))=R.sgn (a*a-b*b*d):=by rw[OR.ml,OR.ml,hq];omega
  rw[← h1,e1,OR.xS _ _ (OR.Bo _ h),OR.ml]
 have e3:R.sgn (a*q-b*p)=R.sgn a:=by
  show R.sgn (a*q+ -(b*p))=_;rcases R.s3 a with e | e | e
  · rw[e];exact OR.pp (by rw[ea,e]) (by rw[OR.ng,eb];rcases R.s3 b with g | g | g<;>omega)
  · exact absurd e c2
  · rw[e];exact OR.nn (by rw[ea,e]) (by rw[OR.ng,eb];rcases R.s3 b with g | g | g<;>omega)
 rw[e2,e3,← Int.mul_assoc];rcases R.s3 a with e | e | e
 · rw[e];omega
 · exact absurd e c2
 · rw[e];omega
theorem OR.Nr(hd:R.sgn d=1)(hns: ∀p q:R.T,R.sgn p=1→R.sgn q=1→R.sgn (p*p-q*q*d)≠0){x:R.T×R.T}(h:R.sgn (OR.nr d x)=0):R.sgn x.1=0∧R.sgn x.2=0:=by
 obtain ⟨a,b⟩:=x;unfold OR.nr at h;simp only[] at *
 have hb:R.sgn b=0:=by
  by_cases hb:R.sgn b=0
  · exact hb
  exfalso
  have ha:R.sgn a≠0:=fun ha=>by
   have h1:=OR.EV (a*a) (b*b*d) (OR.kB a ha);rw[OR.H8 hd,OR.MZ hb] at h1;omega
  obtain ⟨p,hp,ep⟩: ∃p:R.T,R.sgn p=1∧p*p=a*a:=by
   rcases R.s3 a with e | e | e
   · exact⟨a,e,rfl⟩
   · exact absurd e ha
   · exact⟨-a,by rw[OR.ng];omega,Rg.bG [a] (-X0* -X0) (X0*X0) rfl⟩
  obtain ⟨q,hq,eq⟩: ∃q:R.T,R.sgn q=1∧q*q=b*b:=by
   rcases R.s3 b with e | e | e
   · exact⟨b,e,rfl⟩
   · exact absurd e hb
   · exact⟨-b,by rw[OR.ng];omega,Rg.bG [b] (-X0* -X0) (X0*X0) rfl⟩
  exact hns p q hp hq (by rw[ep,eq];exact h)
 refine⟨?_,hb⟩;rw[OR.xw _ _ (by rw[OR.H8 hd];exact OR.kB b hb)] at h;exact OR.Nc h
end
end Lift
namespace Lift
section
variable {R:OR} {d:R.T}
def pM(d:R.T)(x y:R.T×R.T):R.T×R.T:=(x.1*y.1+x.2*y.2*d,x.1*y.2+x.2*y.1)
def pA(x y:R.T×R.T):R.T×R.T:=(x.1+y.1,x.2+y.2)
def pN(x:R.T×R.T):R.T×R.T:=(-x.1, -x.2)
structure Ic (R:OR) (d:R.T):Prop where
 s3: ∀x,R.es d x=1∨R.es d x=0∨R.es d x= -1
 sn: ∀x,R.es d (pN x)= -R.es d x
 sm: ∀x y,R.es d (pM d x y)=R.es d x*R.es d y
 sp: ∀x y,R.es d x=1→R.es d y=1→R.es d (pA x y)=1
 s0: ∀x y,R.es d x=0→R.es d (pA x y)=R.es d y
 s1:R.es d (1,0)=1
theorem Hz(f:R.T×R.T→R.T)(q:R.T)(hq:R.sgn q=1)(h: ∀x,R.es d x=R.sgn (f x))(hn: ∀x,f (pN x)= -f x)(ha: ∀x y,f (pA x y)=f x+f y)(hm: ∀x y,R.sgn (q*f (pM d x y))=R.sgn (f x*f y))(h1:f (1,0)=q):Ic R d where
 s3 x:=by rw[h];exact R.s3 _
 sn x:=by rw[h,h,hn,OR.ng]
 sm x y:=by
  rw[h,h,h,← OR.ml,← hm,OR.ml,hq,Int.one_mul]
 sp x y hx hy:=by
  rw[h] at *;rw[ha];exact R.sp _ _ hx hy
 s0 x y hx:=by
  rw[h] at *;rw[h,ha];exact R.s0 _ _ hx
 s1:=by rw[h,h1];exact hq
theorem Lk(hd:R.sgn d=0):Ic R d:=by
 refine Hz (fun x=>x.1) 1 OR.one (fun x=>?_) (fun x=>rfl) (fun x y=>rfl) (fun x y=>?_) rfl
 · unfold OR.es;rw[if_pos hd]
 · show R.sgn (1*(x.1*y.1+x.2*y.2*d))=_;rw[Rg.one_mul];exact OR.xS _ _ (OR.Bo _ hd)
theorem Ll{p q:R.T}(hd:R.sgn d=1)(hp:R.sgn p=1)(hq:R.sgn q=1)(h:R.sgn (p*p-q*q*d)=0):Ic R d:=by
 refine Hz (fun x=>x.1*q+x.2*p) q hq (fun x=>OR.Ln hd hp hq h x) (fun x=>?_) (fun x y=>?_) (fun x y=>?_) ?_
 · exact Rg.bG [x.1,x.2,p,q] (-X0*X3+ -X1*X2) (-(X0*X3+X1*X2)) rfl
 · exact Rg.bG [x.1,x.2,y.1,y.2,p,q] ((X0+X2)*X5+(X1+X3)*X4) (X0*X5+X1*X4+(X2*X5+X3*X4)) rfl
 · have e:(x.1*q+x.2*p)*(y.1*q+y.2*p)=q*((x.1*y.1+x.2*y.2*d)*q+(x.1*y.2+x.2*y.1)*p)+x.2*y.2*(p*p-q*q*d) :=
    Rg.bG [x.1,x.2,y.1,y.2,p,q,d] ((X0*X5+X1*X4)*(X2*X5+X3*X4)) (X5*((X0*X2+X1*X3*X6)*X5+(X0*X3+X1*X2)*X4)+X1*X3*(X4*X4-X5*X5*X6)) rfl
   show R.sgn (q*((x.1*y.1+x.2*y.2*d)*q+(x.1*y.2+x.2*y.1)*p))=R.sgn ((x.1*q+x.2*p)*(y.1*q+y.2*p));rw[e,OR.xS _ _ (OR.Bo _ h)]
 · exact Rg.bG [p,q] (1*X1+0*X0) X1 rfl
theorem ME(hd:R.sgn d=1)(x:R.T×R.T)(hx:R.sgn (OR.nr d x)=1∨R.sgn (OR.nr d x)= -1∨(R.sgn x.1=0∧R.sgn x.2=0)):R.es d (pN x)= -R.es d x:=by
 have e:OR.nr d (pN x)=OR.nr d x:=OR.K6 x;rcases hx with h | h | ⟨h1,h2⟩
 · rw[OR.jI hd h,OR.jI hd (by rw[e];exact h)];exact OR.ng _
 · rw[OR.k8 hd h,OR.k8 hd (by rw[e];exact h)];exact OR.ng _
 · rw[OR.mu hd h1 h2,OR.mu hd (by show R.sgn (-x.1)=0;rw[OR.ng];omega) (by show R.sgn (-x.2)=0;rw[OR.ng];omega)];rfl
theorem y5(x y:R.T×R.T):pM d x y=pM d y x:=(R.toRg.ext d).mc x y
theorem MG(hd:R.sgn d=1){x y:R.T×R.T}(hx:R.sgn (OR.nr d x)=1)(hy:R.sgn (OR.nr d y)=1):R.es d (pM d x y)=R.es d x*R.es d y:=by
 have hn:R.sgn (OR.nr d (pM d x y))=1:=by rw[show OR.nr d (pM d x y)=_ from OR.vx x y,OR.ml,hx,hy];rfl
 rw[OR.jI hd hx,OR.jI hd hy,OR.jI hd hn,← OR.ml];show R.sgn (x.1*y.1+x.2*y.2*d)=_;refine OR.more ?_
 have e:x.1*y.1*(x.1*y.1) -x.2*y.2*d*(x.2*y.2*d)=x.1*x.1*(y.1*y.1-y.2*y.2*d)+y.2*y.2*d*(x.1*x.1-x.2*x.2*d) :=
  Rg.bG [x.1,x.2,y.1,y.2,d] (X0*X2*(X0*X2) -X1*X3*X4*(X1*X3*X4)) (X0*X0*(X2*X2-X3*X3*X4)+X3*X3*X4*(X0*X0-X1*X1*X4)) rfl
 rw[e]
 have h1:R.sgn x.1≠0:=fun h0=>by
  have:=OR.EV (x.1*x.1) (x.2*x.2*d) (OR.kB _ h0);rw[OR.H8 hd] at this;have h2:=OR.sq x.2;unfold OR.nr at hx;omega
 refine OR.pp (by rw[OR.ml,OR.MZ h1];unfold OR.nr at hy;rw[hy];rfl) ?_;rw[OR.ml,OR.H8 hd];unfold OR.nr at hx;rw[hx,Int.mul_one];exact OR.sq _
theorem Ki(hd:R.sgn d=1){x y:R.T×R.T}(hx:R.sgn (OR.nr d x)=1)(hy:R.sgn (OR.nr d y)= -1):R.es d (pM d x y)=R.es d x*R.es d y:=by
 have hn:R.sgn (OR.nr d (pM d x y))= -1:=by rw[show OR.nr d (pM d x y)=_ from OR.vx x y,OR.ml,hx,hy];rfl
 rw[OR.jI hd hx,OR.k8 hd hy,OR.k8 hd hn,← OR.ml];show R.sgn (x.1*y.2+x.2*y.1)=_;refine OR.more ?_;unfold OR.nr at hx hy
 have e:(x.1*y.2*(x.1*y.2) -x.2*y.1*(x.2*y.1))*d=x.1*x.1* -(y.1*y.1-y.2*y.2*d)+y.1*y.1*(x.1*x.1-x.2*x.2*d) :=
  Rg.bG [x.1,x.2,y.1,y.2,d] ((X0*X3*(X0*X3) -X1*X2*(X1*X2))*X4) (X0*X0* -(X2*X2-X3*X3*X4)+X2*X2*(X0*X0-X1*X1*X4)) rfl
 have h1:R.sgn x.1≠0:=fun h0=>by
  have:=OR.EV (x.1*x.1) (x.2*x.2*d) (OR.kB _ h0);rw[OR.H8 hd] at this;have h2:=OR.sq x.2;omega
 have h2:R.sgn ((x.1*y.2*(x.1*y.2) -x.2*y.1*(x.2*y.1))*d)=1:=by
  rw[e];refine OR.pp (by rw[OR.ml,OR.MZ h1,OR.ng,hy];rfl) ?_;rw[OR.ml,hx,Int.mul_one];exact OR.sq _
 rw[OR.ml,hd,Int.mul_one] at h2;exact h2
theorem MF(hd:R.sgn d=1){x y:R.T×R.T}(hx:R.sgn (OR.nr d x)= -1)(hy:R.sgn (OR.nr d y)= -1):R.es d (pM d x y)=R.es d x*R.es d y:=by
 have hn:R.sgn (OR.nr d (pM d x y))=1:=by rw[show OR.nr d (pM d x y)=_ from OR.vx x y,OR.ml,hx,hy];rfl
 rw[OR.k8 hd hx,OR.k8 hd hy,OR.jI hd hn,← OR.ml];show R.sgn (x.1*y.1+x.2*y.2*d)=_;have e0:R.sgn (x.2*y.2*d)=R.sgn (x.2*y.2):=by rw[OR.ml _ d,hd,Int.mul_one]
 rw[Rg.add_comm,← e0];refine OR.more ?_;unfold OR.nr at hx hy
 have e:x.2*y.2*d*(x.2*y.2*d) -x.1*y.1*(x.1*y.1)=x.2*x.2*d* -(y.1*y.1-y.2*y.2*d)+y.1*y.1* -(x.1*x.1-x.2*x.2*d) :=
  Rg.bG [x.1,x.2,y.1,y.2,d] (X1*X3*X4*(X1*X3*X4) -X0*X2*(X0*X2)) (X1*X1*X4* -(X2*X2-X3*X3*X4)+X2*X2* -(X0*X0-X1*X1*X4)) rfl
 have h1:R.sgn x.2≠0:=fun h0=>by
  have:=OR.xw (x.1*x.1) (x.2*x.2*d) (by rw[OR.H8 hd];exact OR.kB _ h0);have h2:=OR.sq x.1;omega
 rw[e];refine OR.pp (by rw[OR.ml,OR.H8 hd,OR.MZ h1,OR.ng,hy];rfl) ?_;rw[OR.ml,OR.ng,hx];have:=OR.sq y.1;omega
theorem HA(hd:R.sgn d=1)(hns: ∀p q:R.T,R.sgn p=1→R.sgn q=1→R.sgn (p*p-q*q*d)≠0){c:R.T}{x:R.T×R.T}(hc:R.sgn c=1)(hx:R.es d x=1):R.es d (c+x.1,x.2)=1:=by
 have e:OR.nr d (c+x.1,x.2)=c*(c+(x.1+x.1))+OR.nr d x :=
  Rg.bG [x.1,x.2,c,d] ((X2+X0)*(X2+X0) -X1*X1*X3) (X2*(X2+(X0+X0))+(X0*X0-X1*X1*X3)) rfl
 rcases R.s3 (OR.nr d x) with h | h | h
 · rw[OR.jI hd h] at hx;have h1:R.sgn (c+x.1)=1:=R.sp _ _ hc hx
   have h2:R.sgn (OR.nr d (c+x.1,x.2))=1:=by
    rw[e];refine OR.pp ?_ (by rw[h];decide);rw[OR.ml,hc,OR.pp hc (by rw[OR.pp hx (by rw[hx];decide)];decide)];rfl
   rw[OR.jI hd h2];exact h1
 · have:=OR.Nr hd hns h;rw[OR.mu hd this.1 this.2] at hx;omega
 · rw[OR.k8 hd h] at hx;rcases R.s3 (OR.nr d (c+x.1,x.2)) with g | g | g
   · rw[OR.jI hd g];show R.sgn (c+x.1)=1
     have h1:R.sgn (c*(c+(x.1+x.1)))=1:=by
      have e2:c*(c+(x.1+x.1))=OR.nr d (c+x.1,x.2)+ -OR.nr d x:=by
       rw[e];exact Rg.bG [c*(c+(x.1+x.1)),OR.nr d x] X0 (X0+X1+ -X1) rfl
      rw[e2];exact OR.pp g (by rw[OR.ng,h];decide)
     rw[OR.ml,hc,Int.one_mul] at h1
     have h2:R.sgn (c+x.1+(c+x.1))=1:=by
      rw[show c+x.1+(c+x.1)=c+(c+(x.1+x.1)) from Rg.bG [c,x.1] (X0+X1+(X0+X1)) (X0+(X0+(X1+X1))) rfl];exact OR.pp hc (by rw[h1];decide)
     rcases R.s3 (c+x.1) with k | k | k
     · exact k
     · rw[OR.null _ _ k,k] at h2;omega
     · rw[OR.nn k (by rw[k];decide)] at h2;omega
   · have:=(OR.Nr hd hns g).2;have:R.sgn x.2=0:=this;omega
   · rw[OR.k8 hd g];exact hx
theorem Lm(hd:R.sgn d=1)(hns: ∀p q:R.T,R.sgn p=1→R.sgn q=1→R.sgn (p*p-q*q*d)≠0):Ic R d:=by
 have hN: ∀x:R.T×R.T,R.sgn (OR.nr d x)=1∨R.sgn (OR.nr d x)= -1∨(R.sgn x.1=0∧R.sgn x.2=0):=fun x=>by
  rcases R.s3 (OR.nr d x) with h | h | h
  · exact .inl h
  · exact .inr (.inr (OR.Nr hd hns h))
  · exact .inr (.inl h)
 have s3: ∀x,R.es d x=1∨R.es d x=0∨R.es d x= -1:=fun x=>by
  rcases hN x with h | h | ⟨h1,h2⟩
  · rw[OR.jI hd h];exact R.s3 _
  · rw[OR.k8 hd h];exact R.s3 _
  · rw[OR.mu hd h1 h2];exact .inr (.inl rfl)
 have sn: ∀x,R.es d (pN x)= -R.es d x:=fun x=>ME hd x (hN x)
 have nil: ∀{x y:R.T×R.T},R.sgn x.1=0→R.sgn x.2=0→R.es d (pM d x y)=0:=fun {x y} h1 h2 =>
  OR.mu hd (by
    show R.sgn (x.1*y.1+x.2*y.2*d)=0;rw[OR.null _ _ (OR.kB _ h1)];exact OR.kB _ (OR.kB _ h2)) (by
    show R.sgn (x.1*y.2+x.2*y.1)=0
    rw[OR.null _ _ (OR.kB _ h1)];exact OR.kB _ h2)
 have sm: ∀x y,R.es d (pM d x y)=R.es d x*R.es d y:=fun x y=>by
  rcases hN x with h | h | ⟨h1,h2⟩
  · rcases hN y with g | g | ⟨g1,g2⟩
    · exact MG hd h g
    · exact Ki hd h g
    · rw[y5,nil g1 g2,OR.mu hd g1 g2,Int.mul_zero]
  · rcases hN y with g | g | ⟨g1,g2⟩
    · rw[y5,Ki hd g h,Int.mul_comm]
    · exact MF hd h g
    · rw[y5,nil g1 g2,OR.mu hd g1 g2,Int.mul_zero]
  · rw[nil h1 h2,OR.mu hd h1 h2,Int.zero_mul]
 have nz: ∀x,R.es d x=0→R.sgn x.1=0∧R.sgn x.2=0:=fun x hx=>by
  rcases hN x with h | h | h
  · rw[OR.jI hd h] at hx;exfalso;have:=OR.EV (x.1*x.1) (x.2*x.2*d) (OR.kB _ hx);rw[OR.H8 hd] at this;have h2:=OR.sq x.2;unfold OR.nr at h;omega
  · rw[OR.k8 hd h] at hx;exfalso;have:=OR.xw (x.1*x.1) (x.2*x.2*d) (by rw[OR.H8 hd];exact OR.kB _ hx);have h2:=OR.sq x.1;unfold OR.nr at h;omega
  · exact h
 have s0: ∀x y,R.es d x=0→R.es d (pA x y)=R.es d y:=fun x y hx=>by
  obtain ⟨h1,h2⟩:=nz x hx;have e1:R.sgn (pA x y).1=R.sgn y.1:=OR.null _ _ h1;have e2:R.sgn (pA x y).2=R.sgn y.2:=OR.null _ _ h2
  have e3:R.sgn (OR.nr d (pA x y))=R.sgn (OR.nr d y):=by
   have e:OR.nr d (pA x y)=x.1*(x.1+(y.1+y.1))+(x.2* -((x.2+(y.2+y.2))*d)+OR.nr d y) :=
    Rg.bG [x.1,x.2,y.1,y.2,d] ((X0+X2)*(X0+X2) -(X1+X3)*(X1+X3)*X4) (X0*(X0+(X2+X2))+(X1* -((X1+(X3+X3))*X4)+(X2*X2-X3*X3*X4))) rfl
   rw[e,OR.null _ _ (OR.kB _ h1),OR.null _ _ (OR.kB _ h2)]
  unfold OR.es;unfold OR.nr at e3;rw[e1,e2,e3]
 refine⟨s3,sn,sm,fun x y hx hy=>?_,s0,?_⟩
 · have hc:R.es d (OR.nr d x,0)=R.es d (x.1, -x.2)*R.es d x:=by
    rw[← sm]
    congr 1
    exact Prod.ext (Rg.bG [x.1,x.2,d] (X0*X0-X1*X1*X2) (X0*X0+ -X1*X1*X2) rfl) (Rg.bG [x.1,x.2] 0 (X0*X1+ -X1*X0) rfl)
   have hs:R.es d (OR.nr d x,0)=R.sgn (OR.nr d x):=by
    unfold OR.es;rw[if_neg (by omega),if_pos (.inr OR.zero)]
   have hw:=sm (x.1, -x.2) y;have ht:=sm (x.1, -x.2) (pA x y)
   have e:pM d (x.1, -x.2) (pA x y)=(OR.nr d x+(pM d (x.1, -x.2) y).1,(pM d (x.1, -x.2) y).2):=Prod.ext
    (Rg.bG [x.1,x.2,y.1,y.2,d] (X0*(X0+X2)+ -X1*(X1+X3)*X4) (X0*X0-X1*X1*X4+(X0*X2+ -X1*X3*X4)) rfl)
    (Rg.bG [x.1,x.2,y.1,y.2,d] (X0*(X1+X3)+ -X1*(X0+X2)) (X0*X3+ -X1*X2) rfl)
   rw[hx,Int.mul_one] at hc;rw[hy,Int.mul_one] at hw;rw[hs] at hc;rcases hN x with h | h | ⟨h1,h2⟩
   · rw[h] at hc;rw[← hc] at hw ht;have h3:=HA hd hns h hw;rw[e,h3] at ht;omega
   · rw[h] at hc;rw[← hc] at hw ht;have hw2:=sn (pM d (x.1, -x.2) y);rw[hw] at hw2;have h3:=HA hd hns (c:= -OR.nr d x) (by rw[OR.ng,h];rfl) hw2;have h4:=sn (pM d (x.1, -x.2) (pA x y));rw[e] at h4;rw[show pN (OR.nr d x+(pM d (x.1, -x.2) y).1,(pM d (x.1, -x.2) y).2)=(-OR.nr d x+(pN (pM d (x.1, -x.2) y)).1,(pN (pM d (x.1, -x.2) y)).2) from Prod.ext (Rg.neg_add _ _) rfl,h3] at h4;rw[e] at ht;omega
   · rw[OR.mu hd h1 h2] at hx;omega
 · unfold OR.es;rw[if_neg (by omega),if_pos (.inr OR.zero)];exact OR.one
theorem vQ(hd:0≤R.sgn d):Ic R d:=by
 rcases R.s3 d with h | h | h
 · by_cases hns: ∃p q:R.T,R.sgn p=1∧R.sgn q=1∧R.sgn (p*p-q*q*d)=0
   · obtain ⟨p,q,hp,hq,e⟩:=hns;exact Ll h hp hq e
   · exact Lm h (fun p q hp hq e=>hns ⟨p,q,hp,hq,e⟩)
 · exact Lk h
 · omega
end
def OR.ext(R:OR)(d:R.T)(hd:0≤R.sgn d):OR where
 toRg:=R.toRg.ext d
 sgn:=R.es d
 s3:=(vQ hd).s3
 sn:=(vQ hd).sn
 sm:=(vQ hd).sm
 sp:=(vQ hd).sp
 s0:=(vQ hd).s0
 s1:=(vQ hd).s1
end Lift
namespace Lift
structure Fd extends Rg where
 inv:T→T
 mi: ∀x,x≠z→mul x (inv x)=o
 ne:o≠z
def OR.Inv(R:OR):Prop:= ∀x:R.T,R.sgn x≠0→ ∃y:R.T,R.sgn (x*y-1)=0
section
variable {R:OR} {d:R.T}
theorem OR.EX(x:R.T):R.sgn (x-x)=0:=by rw[Rg.sub_self];exact OR.zero
theorem OR.EW{x y:R.T}(h:R.sgn (x-y)=0):R.sgn (y-x)=0:=by
 have e:y-x= -(x-y):=Rg.bG [x,y] (X1-X0) (-(X0-X1)) rfl;rw[e,OR.ng,h];rfl
theorem OR.Cm{x y w:R.T}(h1:R.sgn (x-y)=0)(h2:R.sgn (y-w)=0):R.sgn (x-w)=0:=by
 have e:x-w=(x-y)+(y-w):=Rg.bG [x,y,w] (X0-X2) (X0-X1+(X1-X2)) rfl;rw[e,OR.null _ _ h1];exact h2
theorem OR.NI{x y x' y':R.T}(h1:R.sgn (x-x')=0)(h2:R.sgn (y-y')=0):R.sgn (x+y-(x'+y'))=0:=by
 have e:x+y-(x'+y')=(x-x')+(y-y'):=Rg.bG [x,y,x',y'] (X0+X1-(X2+X3)) (X0-X2+(X1-X3)) rfl;rw[e,OR.null _ _ h1];exact h2
theorem OR.Mi{x y x' y':R.T}(h1:R.sgn (x-x')=0)(h2:R.sgn (y-y')=0):R.sgn (x*y-x'*y')=0:=by
 have e:x*y-x'*y'=(x-x')*y+x'*(y-y'):=Rg.bG [x,y,x',y'] (X0*X1-X2*X3) ((X0-X2)*X1+X2*(X1-X3)) rfl;rw[e,OR.null _ _ (OR.kB _ h1)];exact OR.Bo _ h2
theorem OR.Ns{x x':R.T}(h1:R.sgn (x-x')=0):R.sgn (-x- -x')=0:=by
 have e: -x- -x'= -(x-x'):=Rg.bG [x,x'] (-X0- -X1) (-(X0-X1)) rfl;rw[e,OR.ng,h1];rfl
theorem OR.sub_zero(x:R.T):x-0=x:=Rg.bG [x] (X0-0) X0 rfl
theorem OR.Et(hd:0≤R.sgn d){a b:R.T}(hx:R.es d (a,b)≠0)(hn:R.sgn (OR.nr d (a,b))=0):R.es d (-a,b)=0∧R.sgn (a+a)≠0:=by
 have hnn:R.sgn (-a* -a-b*b*d)=0:=by
  rw[show -a* -a-b*b*d=OR.nr d (a,b) from Rg.bG [a,b,d] (-X0* -X0-X1*X1*X2) (X0*X0-X1*X1*X2) rfl];exact hn
 have dbl:R.sgn a≠0→R.sgn (a+a)≠0:=fun h e=>by
  rcases R.s3 a with g | g | g
  · rw[OR.pp g (by omega)] at e;omega
  · exact h g
  · rw[OR.nn g (by omega)] at e;omega
 unfold OR.es at hx ⊢;simp only[] at hx ⊢;by_cases c0:R.sgn d=0
 · exfalso;rw[if_pos c0] at hx;unfold OR.nr at hn;simp only[] at hn;rw[OR.xw _ _ (OR.Bo _ c0)] at hn;exact hx (OR.Nc hn)
 rw[if_neg c0] at hx ⊢;by_cases c1:R.sgn a=R.sgn b∨R.sgn b=0
 · rw[if_pos c1] at hx
   have c2:R.sgn a=R.sgn b:=by
    rcases c1 with c1 | c1
    · exact c1
    · exfalso;unfold OR.nr at hn;simp only[] at hn;rw[OR.xw _ _ (OR.kB _ (OR.kB _ c1))] at hn;exact hx (OR.Nc hn)
   refine⟨?_,dbl hx⟩;rw[OR.ng,if_neg (by rcases R.s3 a with g | g | g<;>omega),if_neg (by omega),hnn,Int.mul_zero]
 · exfalso;rw[if_neg c1] at hx;by_cases c2:R.sgn a=0
   · rw[if_pos c2] at hx;unfold OR.nr at hn;simp only[] at hn;rw[OR.EV _ _ (OR.kB _ c2),OR.ml,OR.ml] at hn;have:=R.s3 d;rcases R.s3 b with g | g | g
     · rw[g] at hn;omega
     · exact hx g
     · rw[g] at hn;omega
   · rw[if_neg c2,show R.sgn (a*a-b*b*d)=0 from hn,Int.mul_zero] at hx;exact hx rfl
theorem OR.JF(hR:R.Inv)(hd:0≤R.sgn d):(R.ext d hd).Inv:=fun x hx=>by
 obtain ⟨a,b⟩:=x;have hx:R.es d (a,b)≠0:=hx;have S:=vQ hd
 have lift: ∀w:R.T,R.sgn w=0→R.es d (w,0)=0:=fun w hw=>by
  unfold OR.es;split
  · exact hw
  · rw[if_pos (.inr OR.zero)];exact hw
 by_cases hn:R.sgn (OR.nr d (a,b))=0
 ·
  have h2:=OR.Et hd hx hn;obtain ⟨r,hr⟩:=hR (a+a) h2.2;refine⟨(r,0),?_⟩;show R.es d (pA (pM d (a,b) (r,0)) (pN (1,0)))=0
  have e:pA (pM d (a,b) (r,0)) (pN (1,0))=pA (pM d (-a,b) (r,0)) ((a+a)*r-1,0):=Prod.ext
   (Rg.bG [a,b,r,d] (X0*X2+X1*0*X3+ -1) (-X0*X2+X1*0*X3+((X0+X0)*X2-1)) rfl)
   (Rg.bG [a,b,r] (X0*0+X1*X2+ -0) (-X0*0+X1*X2+0) rfl)
  rw[e,S.s0 _ _ (by rw[S.sm,h2.1,Int.zero_mul])];exact lift _ hr
 · obtain ⟨r,hr⟩:=hR _ hn;refine⟨(a*r, -b*r),?_⟩;show R.es d (pA (pM d (a,b) (a*r, -b*r)) (pN (1,0)))=0
   have e:pA (pM d (a,b) (a*r, -b*r)) (pN (1,0))=(OR.nr d (a,b)*r-1,0):=Prod.ext
    (Rg.bG [a,b,r,d] (X0*(X0*X2)+X1*(-X1*X2)*X3+ -1) ((X0*X0-X1*X1*X3)*X2-1) rfl)
    (Rg.bG [a,b,r] (X0*(-X1*X2)+X1*(X0*X2)+ -0) 0 rfl)
   rw[e];exact lift _ hr
end
def OR.eqv(R:OR):Setoid R.T:=⟨fun x y=>R.sgn (x-y)=0,⟨fun x=>OR.EX x,OR.EW,OR.Cm⟩⟩
theorem OR.pick{R:OR}(hR:R.Inv)(x:R.T): ∃y:R.T,R.sgn x≠0→R.sgn (x*y-1)=0:=by
 by_cases h:R.sgn x=0
 · exact⟨x,fun g=>absurd h g⟩
 · obtain ⟨y,hy⟩:=hR x h;exact⟨y,fun _=>hy⟩
noncomputable def OR.fd (R:OR) (hR:R.Inv):Fd where
 T:=Quotient R.eqv
 add x y:=Quotient.liftOn₂ x y (fun a b=>Quotient.mk R.eqv (a+b)) (fun _ _ _ _ h1 h2=>Quotient.sound (OR.NI h1 h2))
 mul x y:=Quotient.liftOn₂ x y (fun a b=>Quotient.mk R.eqv (a*b)) (fun _ _ _ _ h1 h2=>Quotient.sound (OR.Mi h1 h2))
 neg x:=Quotient.liftOn x (fun a=>Quotient.mk R.eqv (-a)) (fun _ _ h1=>Quotient.sound (OR.Ns h1))
 z:=Quotient.mk R.eqv 0
 o:=Quotient.mk R.eqv 1
 ac x y:=Quotient.inductionOn₂ x y fun a b=>congrArg (Quotient.mk R.eqv) (Rg.add_comm a b)
 aa x y w:=Quotient.inductionOn₃ x y w fun a b c=>congrArg (Quotient.mk R.eqv) (Rg.add_assoc a b c)
 az x:=Quotient.inductionOn x fun a=>congrArg (Quotient.mk R.eqv) (Rg.add_zero a)
 an x:=Quotient.inductionOn x fun a=>congrArg (Quotient.mk R.eqv) (Rg.add_neg a)
 mc x y:=Quotient.inductionOn₂ x y fun a b=>congrArg (Quotient.mk R.eqv) (Rg.mul_comm a b)
 ma x y w:=Quotient.inductionOn₃ x y w fun a b c=>congrArg (Quotient.mk R.eqv) (Rg.mul_assoc a b c)
 mo x:=Quotient.inductionOn x fun a=>congrArg (Quotient.mk R.eqv) (Rg.mul_one a)
 md x y w:=Quotient.inductionOn₃ x y w fun a b c=>congrArg (Quotient.mk R.eqv) (Rg.mul_add a b c)
 inv x:=Quotient.mk R.eqv (Classical.choose (OR.pick hR (Classical.choose (Quotient.exists_rep x))))
 mi x hx:=by
  obtain ⟨a,ha⟩: ∃a,a=Classical.choose (Quotient.exists_rep x):=⟨_,rfl⟩;have h1:Quotient.mk R.eqv a=x:=by rw[ha];exact Classical.choose_spec (Quotient.exists_rep x)
  rw[← ha];have h2:=Classical.choose_spec (OR.pick hR a)
  have h3:R.sgn a≠0:=fun h0=>hx (by
   rw[← h1]
   exact Quotient.sound (show R.sgn (a-0)=0 by rw[OR.sub_zero];exact h0))
  have h4:=h2 h3;generalize Classical.choose (OR.pick hR a)=b at h4;rw[← h1];exact Quotient.sound (show R.sgn (a*b-1)=0 from h4)
 ne h:=by
  have h1:R.sgn ((1:R.T) -0)=0:=Quotient.exact h;rw[OR.sub_zero,OR.one] at h1;exact absurd h1 (by decide)
def OR.cl{R:OR}(hR:R.Inv)(x:R.T):(R.fd hR).T:=Quotient.mk R.eqv x
section
variable {R:OR} {hR:R.Inv}
theorem OR.HV{x y:R.T}:OR.cl hR x=OR.cl hR y↔R.sgn (x-y)=0:=⟨fun h=>Quotient.exact h,fun h=>Quotient.sound h⟩
theorem OR.HU(x y:R.T):OR.cl hR (x*y)=OR.cl hR x*OR.cl hR y:=rfl
theorem OR.JM:OR.cl hR (0:R.T)=0:=rfl
theorem OR.Ls:OR.cl hR (1:R.T)=1:=rfl
theorem OR.NF{x:R.T}:OR.cl hR x=0↔R.sgn x=0:=by
 rw[← OR.JM,OR.HV,OR.sub_zero]
end
section
variable {K:Fd}
theorem Fd.qR{x:K.T}(h:x≠0):x*K.inv x=1:=K.mi x h
theorem Fd.CI:(1:K.T)≠0:=K.ne
theorem Fd.inv_eq{x y:K.T}(h:x*y=1):y=K.inv x:=by
 have hx:x≠0:=fun e=>Fd.CI (by rw[← h,e,Rg.zero_mul]);have h1:=Fd.qR hx;have:K.inv x*(x*y)=K.inv x*1:=by rw[h]
 rw[← Rg.mul_assoc,Rg.mul_comm (K.inv x),h1,Rg.one_mul,Rg.mul_one] at this;exact this
theorem Fd.Mj{x y:K.T}(h:x*y=0):x=0∨y=0:=by
 by_cases hx:x=0
 · exact .inl hx
 · refine .inr ?_;have:K.inv x*(x*y)=K.inv x*0:=by rw[h]
   rw[← Rg.mul_assoc,Rg.mul_comm (K.inv x),Fd.qR hx,Rg.one_mul,Rg.mul_zero] at this;exact this
theorem Fd.Lb{x:K.T}(h:x≠0):K.inv x≠0:=fun e=>Fd.CI (by rw[← Fd.qR h,e,Rg.mul_zero])
end
end Lift
namespace Lift
theorem uW(x:Rat)(h:0<x):je x=1:=by
 have:=ql.2 h;rcases gI x with e | e | e<;>omega
theorem KP(x:Rat)(h:x<0):je x= -1:=by
 have:=yJ.2 h;rcases gI x with e | e | e<;>omega
theorem rK(x y:Rat):je (x*y)=je x*je y:=by
 have key: ∀{x y:Rat},0<x→je (x*y)=je y:=fun {x y} hx=>by
  rcases gI y with e | e | e
  · rw[cX.1 e,Rat.mul_zero]
  · have h:=Rat.mul_pos hx (ql.1 (show 0<je y by omega));rw[e,uW _ h]
  · have h:=Rat.mul_pos hx (show 0< -y from by have:=yJ.1 (show je y<0 by omega);grind);rw[e,KP]
    grind
 rcases gI x with e | e | e
 · rw[cX.1 e,Rat.zero_mul,cX.2 rfl,Int.zero_mul]
 · rw[e,Int.one_mul];exact key (ql.1 (by omega))
 · have hx:0< -x:=by have:=yJ.1 (show je x<0 by omega);grind
   have h:=key (y:=y) hx;have h2:=pk (x*y);rw[show -(x*y)= -x*y by grind,h] at h2;rw[e];omega
def pD:Cf:=fun i=>if i=0 then 1 else 0
def IZ:OR where
 T:=Rat
 add:=(· + ·)
 mul:=(· * ·)
 neg:=(- ·)
 z:=0
 o:=1
 ac:=Rat.add_comm
 aa:=Rat.add_assoc
 az:=Rat.add_zero
 an:=Rat.add_neg_cancel
 mc:=Rat.mul_comm
 ma:=Rat.mul_assoc
 mo:=Rat.mul_one
 md:=Rat.mul_add
 sgn:=je
 s3 x:=by rcases gI x with h | h | h<;>omega
 sn:=pk
 sm:=rK
 sp x y hx hy:=by
  have h1:=ql.1 (show 0<je x by omega);have h2:=ql.1 (show 0<je y by omega);exact uW _ (by grind)
 s0 x y hx:=by
  rw[cX.1 hx];show je (0+y)=je y;rw[Rat.zero_add]
 s1:=uW 1 (by decide)
theorem GJ(x:Rat)(h:x≠0):je (x*x⁻¹ + -1)=0:=by
 rw[Rat.mul_inv_cancel _ h];exact cX.2 (Rat.add_neg_cancel 1)
theorem GK:IZ.Inv:=fun x hx=>⟨_,GJ x (fun e=>hx (cX.2 e))⟩
structure LW (v:List NQ) (l:Nat) where
 R:OR
 of:Cf→R.T
 inv:R.Inv
 add: ∀a b:Cf,of (fun i=>a i+b i)=of a+of b
 neg: ∀a:Cf,of (fun i=> -a i)= -of a
 mul: ∀a b:Cf,of (mulC v l a b)=of a*of b
 one:of pD=1
 zero:of zC=0
 sgn: ∀a:Cf,R.sgn (of a)=aY v l a
 inj: ∀a b:Cf,of a=of b→jL l a b
 cong: ∀a b:Cf,jL l a b→of a=of b
theorem LW.sub{v:List NQ}{l:Nat}(T:LW v l)(a b:Cf):T.of (fun i=>a i-b i)=T.of a-T.of b:=by
 rw[Rg.sub_def,← T.neg,← T.add]
 congr 1
 funext i;exact Rat.sub_eq_add_neg ..
def As(v:List NQ):LW v 0 where
 R:=IZ
 of a:=a 0
 inv:=GK
 add _ _:=rfl
 neg _:=rfl
 mul a b:=by
  show (if (0:Nat)=0 then a 0*b 0 else 0)=_;rw[if_pos rfl];rfl
 one:=rfl
 zero:=rfl
 sgn _:=rfl
 inj a b h i hi:=by
  obtain rfl:i=0:=by have:i<1:=hi;omega
  exact h
 cong a b h:=h 0 (by decide)
theorem Hj(l:Nat):bw l zC=zC:=rfl
theorem Jt(l:Nat):bw l pD=zC:=funext fun i=>by
 have hp:0<2^l:=Nat.pow_pos (by decide);show (if 2^l+i=0 then (1:Rat) else 0)=0;rw[if_neg (by omega)]
def tF{v:List NQ}{l:Nat}(T:LW v l)(hd:0≤aY v l (cf (v.getD l []))):LW v (l+1) where
 R:=T.R.ext (T.of (cf (v.getD l []))) (by rw[T.sgn];exact hd)
 of a:=(T.of a,T.of (bw l a))
 inv:=OR.JF T.inv _
 add a b:=Prod.ext (T.add a b) (T.add (bw l a) (bw l b))
 neg a:=Prod.ext (T.neg a) (T.neg (bw l a))
 mul a b:=by
  refine Prod.ext ?_ ?_
  · show T.of (mulC v (l+1) a b)=T.of a*T.of b+T.of (bw l a)*T.of (bw l b)*T.of (cf (v.getD l []));rw[← T.mul,← T.mul,← T.mul,← T.add];refine T.cong _ _ fun i hi=>?_;show (if i<2^l then _ else _)=_;rw[if_pos hi]
  · show T.of (bw l (mulC v (l+1) a b))=T.of a*T.of (bw l b)+T.of (bw l a)*T.of b;rw[← T.mul,← T.mul,← T.add];refine T.cong _ _ fun i hi=>?_;show (if 2^l+i<2^l then _ else _)=_;rw[if_neg (by omega),Nat.add_sub_cancel_left]
 one:=Prod.ext T.one (by show T.of (bw l pD)=0;rw[Jt,T.zero])
 zero:=Prod.ext T.zero (by show T.of (bw l zC)=0;rw[Hj,T.zero])
 sgn a:=by
  show OR.es T.R (T.of (cf (v.getD l []))) (T.of a,T.of (bw l a))=aY v (l+1) a;unfold OR.es aY;simp only[];rw[T.sgn,T.sgn,T.sgn,← T.mul,← T.mul,← T.mul,← T.sub,T.sgn];rfl
 inj a b h i hi:=by
  have h1:=T.inj _ _ (congrArg Prod.fst h);have h2:=T.inj _ _ (congrArg Prod.snd h);by_cases c:i<2^l
  · exact h1 i c
  · rw[Nat.pow_succ] at hi;have:=h2 (i-2^l) (by omega);have:a (2^l+(i-2^l))=b (2^l+(i-2^l)):=this
    rwa [show 2^l+(i-2^l)=i by omega] at this
 cong a b h:=Prod.ext (T.cong _ _ h.down) (T.cong _ _ h.hi)
theorem KD{v:List NQ}(hp:pd v): ∀l,l≤v.length→Nonempty (LW v l)
 | 0,_=>⟨As v⟩
 | l+1,hl=>by
   obtain ⟨T⟩:=KD hp l (by omega);exact⟨tF T (hp l (by omega))⟩
theorem A8(l:Nat):bL l pD:=fun i hi=>by
 have hp:0<2^l:=Nat.pow_pos (by decide);exact if_neg (by omega)
def oJ(a b:Cf):Cf:=fun i=>a i-b i
theorem bL.sub{l:Nat}{a b:Cf}(ha:bL l a)(hb:bL l b):bL l (oJ a b):=fun i hi=>by
 show a i-b i=0;rw[ha i hi,hb i hi];exact Rat.sub_self
theorem La{v:List NQ}(hrt:cK v)(hp:pd v): ∀(l:Nat) {a:NQ},ay l a→l≤v.length→aY v l (cf a)≠0→aY v l (oJ (mulC v l (cf a) (cf (bX l v a))) pD)=0:=by
 have one: ∀(l:Nat) (s:NQ),l≤v.length→s.length=1→s.getD 0 0≠0→aY v l (oJ (mulC v l (cf s) (cf [1 / s.getD 0 0])) pD)=0:=fun l s hl h1 h0=>by
  have e:mulC v l (cf s) (cf [1 / s.getD 0 0])=pD:=by
   rw[cZ v (aT (a:=s) (l:=0) (by rw[h1];exact ai _)) (aT (a:=[1 / s.getD 0 0]) (l:=0) (by exact ai _)) (Nat.zero_le l)];funext i;show (if i=0 then s.getD 0 0*(1 / s.getD 0 0) else 0)=if i=0 then 1 else 0
   split
   · rw[Rat.div_def,Rat.one_mul,Rat.mul_inv_cancel _ h0]
   · rfl
  rw[e,show oJ pD pD=zC from funext fun i=>Rat.sub_self];exact dG v l
 intro l
 induction l with
 | zero =>
   intro a ha hl h;have hs:=bV ha;have hc:=bc ha;have ho:=oe ha;show aY v 0 (oJ (mulC v 0 (cf a) (cf (kC _ _ _ _ (aA a)))) pD)=0;rw[← hc] at h ⊢;generalize aA a=s at *;rcases hs with e | ⟨i,hi,e⟩
   · rw[List.length_eq_zero_iff.1 e] at h;exact absurd (dG v 0) h
   · obtain rfl:i=0:=by omega
     unfold kC;rw[if_pos e];exact one 0 s (Nat.zero_le _) e (ho e)
 | succ l ih =>
   intro a ha hl h;have hs:=bV ha;have hc:=bc ha;have ho:=oe ha;show aY v (l+1) (oJ (mulC v (l+1) (cf a) (cf (kC (bX l v) (eg l v) (fe l v) (aV (l+1) v) (aA a)))) pD)=0;rw[← hc] at h ⊢;generalize aA a=s at *;by_cases h0:s.length=0
   · rw[List.length_eq_zero_iff.1 h0] at h;exact absurd (dG v (l+1)) h
   unfold kC;by_cases h1:s.length=1
   · rw[if_pos h1];exact one (l+1) s hl h1 (ho h1)
   rw[if_neg h1]
   obtain ⟨j,hj,hsl⟩: ∃j,j≤l∧s.length=2^(j+1):=by
    rcases hs with e | ⟨i,hi,e⟩
    · exact absurd e h0
    · rcases i with _ | j
      · exact absurd e h1
      · exact⟨j,by omega,e⟩
   obtain ⟨e1,e2,e3⟩:=bA hsl;have hx:ay l (s.take (s.length / 2)):= .inr ⟨j,hj,e1⟩;have hy:ay l (s.drop (s.length / 2)):= .inr ⟨j,hj,e2⟩;have hn:=qO hj hsl hrt (by omega);have ex:jL j (cf (s.take (s.length / 2))) (cf s):=eV _ e3;have ey:cf (s.drop (s.length / 2))=bw j (cf s):=iW _ e3
   have lowN:bL j (bo v j (cf s)):=fun i hi=>by
    unfold bo;rw[bg v j _ _ i hi,bg v j _ _ i hi];exact Rat.sub_self
   have ls:bL (j+1) (cf s):=aT (by omega);have lx:bL j (cf (s.take (s.length / 2))):=aT (by omega);obtain ⟨Tj⟩:=KD hp j (by omega);have hdj:=hp j (by omega)
   let T:=tF Tj hdj
   obtain ⟨Tl⟩:=KD hp l (by omega);obtain ⟨TL⟩:=KD hp (l+1) hl;rw[dL l hn.1 hrt (by omega),hn.2,bI v lowN hj];rw[bI v ls (by omega)] at h
   have hT:Tj.R.sgn (OR.nr (Tj.of (cf (v.getD j []))) (T.of (cf s)))=aY v j (bo v j (cf s)):=by
    rw[← Tj.sgn]
    congr 1
    show Tj.of (cf s)*Tj.of (cf s) -Tj.of (bw j (cf s))*Tj.of (bw j (cf s))*Tj.of (cf (v.getD j []))=Tj.of (bo v j (cf s));rw[← Tj.mul,← Tj.mul,← Tj.mul,← Tj.sub];rfl
   by_cases hN:aY v j (bo v j (cf s))=0
   · rw[if_pos hN];have hxx:ay l (aX (s.take (s.length / 2)) (s.take (s.length / 2))):=hx.plus hx;have cxx:cf (aX (s.take (s.length / 2)) (s.take (s.length / 2)))=fun i=>cf (s.take (s.length / 2)) i+cf (s.take (s.length / 2)) i:=funext fun i=>dW _ _ i
     have lxx:bL j (cf (aX (s.take (s.length / 2)) (s.take (s.length / 2)))):=by
      rw[cxx];exact fun i hi=>by
       show _+_=(0:Rat);rw[lx i hi];exact Rat.add_zero 0
     have F:T.R.sgn (-Tj.of (cf s),Tj.of (bw j (cf s)))=0∧Tj.R.sgn (Tj.of (cf s)+Tj.of (cf s))≠0:=by
      have hes:T.R.sgn (T.of (cf s))≠0:=by rw[T.sgn];exact h
      exact OR.Et (R:=Tj.R) (d:=Tj.of (cf (v.getD j []))) (by rw[Tj.sgn];exact hdj) hes (by
       have h5:=hT;rw[hN] at h5;exact h5)
     have hr:=ih hxx (by omega) (by
      rw[bI v lxx hj,← Tj.sgn,cxx,Tj.add,Tj.cong _ _ ex]
      exact F.2)
     obtain ⟨r,hrr⟩: ∃r,bX l v (aX (s.take (s.length / 2)) (s.take (s.length / 2)))=r:=⟨_,rfl⟩;have hrl:ay l r:=by rw[← hrr];exact gu l hxx hrt (by omega)
     rw[hrr] at hr ⊢
     have g1:aY v (l+1) (oJ (cf s) (cf (aX (s.take (s.length / 2)) (s.take (s.length / 2)))))=0:=by
      rw[bI v (ls.sub (lxx.mono (by omega))) (by omega),← T.sgn]
      have:T.of (oJ (cf s) (cf (aX (s.take (s.length / 2)) (s.take (s.length / 2)))))=(-Tj.of (cf s),Tj.of (bw j (cf s))):=by
       refine Prod.ext ?_ ?_
       · show Tj.of (oJ (cf s) (cf (aX (s.take (s.length / 2)) (s.take (s.length / 2)))))= -Tj.of (cf s);rw[show Tj.of (oJ (cf s) (cf (aX (s.take (s.length / 2)) (s.take (s.length / 2)))))=Tj.of (cf s) -Tj.of (cf (aX (s.take (s.length / 2)) (s.take (s.length / 2)))) from Tj.sub _ _,cxx,Tj.add,Tj.cong _ _ ex];exact Rg.bG [Tj.of (cf s)] (X0-(X0+X0)) (-X0) rfl
       · show Tj.of (bw j (oJ (cf s) (cf (aX (s.take (s.length / 2)) (s.take (s.length / 2))))))=Tj.of (bw j (cf s));refine Tj.cong _ _ fun i hi=>?_;show cf s (2^j+i) -cf (aX (s.take (s.length / 2)) (s.take (s.length / 2))) (2^j+i)=cf s (2^j+i);rw[lxx _ (by omega)];exact Rat.sub_eq_add_neg .. |>.trans (by rw[Rat.neg_zero,Rat.add_zero])
      rw[this];exact F.1
     have g2:aY v (l+1) (oJ (mulC v (l+1) (cf (aX (s.take (s.length / 2)) (s.take (s.length / 2)))) (cf r)) pD)=0:=by
      rw[cZ v (aT hxx.le) (aT hrl.le) (Nat.le_succ l),bI v ((bg v l _ _).sub (A8 l)) (Nat.le_succ l)];exact hr
     rw[← TL.sgn] at g1 g2 ⊢;rw[show TL.of (oJ _ _)=_ from TL.sub _ _,TL.mul,TL.one] at g2 ⊢;rw[show TL.of (oJ _ _)=_ from TL.sub _ _] at g1
     have e:TL.of (cf s)*TL.of (cf r) -1=(TL.of (cf s) -TL.of (cf (aX (s.take (s.length / 2)) (s.take (s.length / 2)))))*TL.of (cf r)+(TL.of (cf (aX (s.take (s.length / 2)) (s.take (s.length / 2))))*TL.of (cf r) -1) :=
      Rg.bG [TL.of (cf s),TL.of (cf r),TL.of (cf (aX (s.take (s.length / 2)) (s.take (s.length / 2))))] (X0*X1-1) ((X0-X2)*X1+(X2*X1-1)) rfl
     rw[e,OR.null _ _ (OR.kB _ g1)];exact g2
   · rw[if_neg hN];have hr:=ih hn.1 (by omega) (by rw[hn.2,bI v lowN hj];exact hN);obtain ⟨r,hrr⟩: ∃r,bX l v (fe l v s)=r:=⟨_,rfl⟩;have hrl:ay l r:=by rw[← hrr];exact gu l hn.1 hrt (by omega)
     rw[hrr] at hr ⊢;rw[hn.2] at hr
     have hjl:ay (l+1) (dP (s.take (s.length / 2)) (aZ (s.drop (s.length / 2))) (s.length / 2)):= .inr ⟨j+1,by omega,by
      rw[dH]
      omega⟩
     have cJ: ∀i,cf (dP (s.take (s.length / 2)) (aZ (s.drop (s.length / 2))) (s.length / 2)) i=if i<2^j then cf (s.take (s.length / 2)) i else cf (aZ (s.drop (s.length / 2))) (i-2^j):=fun i=>ED _ e3 (by rw[gq];omega) i
     have lJ:bL (j+1) (cf (dP (s.take (s.length / 2)) (aZ (s.drop (s.length / 2))) (s.length / 2))):=aT (by rw[dH];omega);have ht:=fx (l+1) hjl (hrl.mono (Nat.le_succ l)) hrt hl;rw[ht.2];generalize dP (s.take (s.length / 2)) (aZ (s.drop (s.length / 2))) (s.length / 2)=J at cJ lJ hjl ht
     have eN:mulC v (l+1) (cf s) (cf J)=bo v j (cf s):=by
      rw[cZ v ls lJ (by omega)];refine jL.full (T.inj _ _ ?_) (bg v (j+1) _ _) (lowN.mono (Nat.le_succ j));rw[T.mul];have o1:Tj.of (cf J)=Tj.of (cf s):=Tj.cong _ _ fun i hi=>by rw[cJ i,if_pos hi];exact ex i hi
      have o2:Tj.of (bw j (cf J))= -Tj.of (bw j (cf s)):=by
       rw[← Tj.neg];refine Tj.cong _ _ fun i hi=>?_;show cf J (2^j+i)= -cf s (2^j+i);rw[cJ,if_neg (by omega),iu,Nat.add_sub_cancel_left,ey];rfl
      have o3:Tj.of (bw j (bo v j (cf s)))=0:=by rw[lowN.vN,Tj.zero]
      have o4:Tj.of (bo v j (cf s))=Tj.of (cf s)*Tj.of (cf s) -Tj.of (bw j (cf s))*Tj.of (bw j (cf s))*Tj.of (cf (v.getD j [])):=by
       rw[← Tj.mul,← Tj.mul,← Tj.mul,← Tj.sub];rfl
      refine Prod.ext ?_ ?_
      · show Tj.of (cf s)*Tj.of (cf J)+Tj.of (bw j (cf s))*Tj.of (bw j (cf J))*Tj.of (cf (v.getD j []))=Tj.of (bo v j (cf s));rw[o1,o2,o4];exact Rg.bG [Tj.of (cf s),Tj.of (bw j (cf s)),Tj.of (cf (v.getD j []))] (X0*X0+X1* -X1*X2) (X0*X0-X1*X1*X2) rfl
      · show Tj.of (cf s)*Tj.of (bw j (cf J))+Tj.of (bw j (cf s))*Tj.of (cf J)=Tj.of (bw j (bo v j (cf s)));rw[o1,o2,o3];exact Rg.bG [Tj.of (cf s),Tj.of (bw j (cf s))] (X0* -X1+X1*X0) 0 rfl
     have g2:aY v (l+1) (oJ (mulC v (l+1) (bo v j (cf s)) (cf r)) pD)=0:=by
      rw[cZ v (lowN.mono hj) (aT hrl.le) (Nat.le_succ l),bI v ((bg v l _ _).sub (A8 l)) (Nat.le_succ l)];exact hr
     rw[← eN] at g2;rw[← TL.sgn] at g2 ⊢;rw[show TL.of (oJ _ _)=_ from TL.sub _ _,TL.mul,TL.mul,TL.one] at g2 ⊢;rw[← Rg.mul_assoc];exact g2
structure FV (v:List NQ) where
 K:Fd
 val:NQ→K.T
 add: ∀{a b:NQ},ay v.length a→ay v.length b→val (wu a b)=val a+val b
 sub: ∀{a b:NQ},ay v.length a→ay v.length b→val (gm a b)=val a-val b
 neg: ∀{a:NQ},ay v.length a→val (kr a)= -val a
 mul: ∀{a b:NQ},ay v.length a→ay v.length b→val (fQ v a b)=val a*val b
 div: ∀{a b:NQ},ay v.length a→ay v.length b→rD v b≠0→val (xc v a b)=val a*K.inv (val b)
 nil:val []=0
 one:val [1]=1
 sg: ∀{a:NQ},ay v.length a→(rD v a=0↔val a=0)
 eq: ∀{a b:NQ},aY v v.length (cf (aX a (aZ b)))=0↔val a=val b
 inv: ∀{b:NQ},ay v.length b→rD v b≠0→val (bX v.length v b)=K.inv (val b)
theorem JN:cf []=zC:=rfl
theorem EC:cf [1]=pD:=funext fun i=>by
 cases i with
 | zero=>rfl
 | succ i=>rfl
theorem Mv{m:Nat}{v:List NQ}(V:iX m v):Nonempty (FV v):=by
 obtain ⟨T⟩:=KD V.pos v.length (ai _);have hs: ∀{a:NQ},ay v.length a→rD v a=aY v v.length (cf a):=fun h=>dL v.length h V.ro (ai _)
 have iv: ∀{b:NQ},ay v.length b→rD v b≠0→OR.cl T.inv (T.of (cf (bX v.length v b)))=(T.R.fd T.inv).inv (OR.cl T.inv (T.of (cf b))):=fun {b} hb h0=>by
  rw[hs hb] at h0;have h:=La V.ro V.pos v.length hb (ai _) h0;refine Fd.inv_eq ?_;rw[← OR.HU,← T.mul,← OR.Ls,OR.HV,← T.one,← T.sub,T.sgn];exact h
 refine⟨⟨T.R.fd T.inv,fun a=>OR.cl T.inv (T.of (cf a)),fun {a b} ha hb=>?_,fun {a b} ha hb=>?_,fun {a} ha=>?_,fun {a b} ha hb=>?_,fun {a b} ha hb h0=>?_,?_,?_,fun {a} ha=>?_,fun {a b}=>?_,iv⟩⟩
 · show OR.cl T.inv (T.of (cf (aA (aX a b))))=_;rw[bc (ha.plus hb),show cf (aX a b)=fun i=>cf a i+cf b i from funext fun i=>dW a b i,T.add];rfl
 · show OR.cl T.inv (T.of (cf (aA (aX a (aZ b)))))=_;rw[bc (ha.plus hb.minus),show cf (aX a (aZ b))=fun i=>cf a i-cf b i from funext fun i=>by rw[dW,iu];exact(Rat.sub_eq_add_neg ..).symm,T.sub];rfl
 · show OR.cl T.inv (T.of (cf (aA (aZ a))))=_;rw[bc ha.minus,show cf (aZ a)=fun i=> -cf a i from funext fun i=>iu a i,T.neg];rfl
 · have ht:=fx v.length ha hb V.ro (ai _);show OR.cl T.inv (T.of (cf (aA (aV v.length v a b))))=_;rw[bc ht.1,ht.2,T.mul];rfl
 · have ht:=fx v.length ha (gu v.length hb V.ro (ai _)) V.ro (ai _);show OR.cl T.inv (T.of (cf (aA (aV v.length v a (bX v.length v b)))))=_;rw[bc ht.1,ht.2,T.mul,OR.HU,iv hb h0]
 · show OR.cl T.inv (T.of (cf []))=0;rw[JN,T.zero];rfl
 · show OR.cl T.inv (T.of (cf [1]))=1;rw[EC,T.one];rfl
 · rw[OR.NF,T.sgn,hs ha]
 · rw[OR.HV,← T.sub,T.sgn,show cf (aX a (aZ b))=fun i=>cf a i-cf b i from funext fun i=>by rw[dW,iu];exact(Rat.sub_eq_add_neg ..).symm]
end Lift
namespace Lift
def Zq(X:Nat)(q:Rat):Prop:= ∃n:Int,q=(n:Rat)∧n.natAbs<4294967296^X
theorem LD(X:Nat):0<4294967296^X:=Nat.pow_pos (by decide)
theorem Zq.mono{X Y:Nat}{q:Rat}(h:Zq X q)(hx:X≤Y):Zq Y q:=by
 obtain ⟨n,e,hn⟩:=h;exact⟨n,e,Nat.lt_of_lt_of_le hn (Nat.pow_le_pow_right (by decide) hx)⟩
theorem Zq.zero(X:Nat):Zq X 0:=⟨0,rfl,LD X⟩
theorem Zq.one:Zq 1 1:=⟨1,rfl,by decide⟩
theorem Zq.neg{X:Nat}{q:Rat}(h:Zq X q):Zq X (-q):=by
 obtain ⟨n,e,hn⟩:=h;exact⟨-n,by rw[e,Rat.intCast_neg],by rw[Int.natAbs_neg];exact hn⟩
theorem Zq.add{X:Nat}{p q:Rat}(hp:Zq X p)(hq:Zq X q):Zq (X+1) (p+q):=by
 obtain ⟨m,e,hm⟩:=hp;obtain ⟨n,f,hn⟩:=hq;refine⟨m+n,by rw[e,f,Rat.intCast_add],?_⟩;have:=Int.natAbs_add_le m n;rw[Nat.pow_succ];have:=LD X;omega
theorem Zq.mul{X Y:Nat}{p q:Rat}(hp:Zq X p)(hq:Zq Y q):Zq (X+Y) (p*q):=by
 obtain ⟨m,e,hm⟩:=hp;obtain ⟨n,f,hn⟩:=hq;refine⟨m*n,by rw[e,f,Rat.intCast_mul],?_⟩;rw[Int.natAbs_mul,Nat.pow_add];exact Nat.lt_of_le_of_lt (Nat.mul_le_mul (Nat.le_of_lt hm) (ai _)) (Nat.mul_lt_mul_of_pos_left hn (LD X))
theorem Zq.lq{X:Nat}{q d:Rat}(h:Zq X (q*d))(hd:Zq X d)(h0:d≠0):LQ q≤X:=by
 obtain ⟨m,e,hm⟩:=h;obtain ⟨n,f,hn⟩:=hd;have hn0:n≠0:=fun g=>h0 (by rw[f,g];rfl)
 have hq:q=Rat.divInt m n:=by
  rw[Rat.divInt_eq_div,← e,← f,Rat.mul_div_cancel h0]
 rw[hq];have h1:=lT m n hn0;have h2:=Dt hm;have h3:=Dt hn;omega
structure IR (R:Rg) where
 Z:Nat→R.T→Prop
 c:Nat
 mono: ∀{X Y:Nat} {a:R.T},Z X a→X≤Y→Z Y a
 zero: ∀X,Z X 0
 one:Z 1 1
 neg: ∀{X:Nat} {a:R.T},Z X a→Z X (-a)
 add: ∀{X:Nat} {a b:R.T},Z X a→Z X b→Z (X+1) (a+b)
 mul: ∀{X Y:Nat} {a b:R.T},Z X a→Z Y b→Z (X+Y+c) (a*b)
def bZ:IR IZ.toRg where
 Z:=Zq
 c:=0
 mono:=Zq.mono
 zero:=Zq.zero
 one:=Zq.one
 neg:=Zq.neg
 add:=Zq.add
 mul:=Zq.mul
section
variable {R:Rg} (I:IR R) {d ε e:R.T} (h1:ε*e=1) {b:Nat} (hB:I.Z b (ε*ε*d))
def IR.ext:IR (R.ext d) where
 Z X p:=I.Z X p.1∧I.Z X (p.2*e)
 c:=I.c+I.c+b+1
 mono h hx:=⟨I.mono h.1 hx,I.mono h.2 hx⟩
 zero X:=⟨I.zero X,by show I.Z X (0*e);rw[Rg.zero_mul];exact I.zero X⟩
 one:=⟨I.one,by show I.Z 1 (0*e);rw[Rg.zero_mul];exact I.zero 1⟩
 neg {X a} h:=⟨I.neg h.1,by show I.Z X (-a.2*e);rw[Rg.neg_mul];exact I.neg h.2⟩
 add {X a b} ha hb:=⟨I.add ha.1 hb.1,by show I.Z (X+1) ((a.2+b.2)*e);rw[Rg.add_mul];exact I.add ha.2 hb.2⟩
 mul {X Y x y} hx hy:=by
  refine⟨?_,?_⟩
  · show I.Z _ (x.1*y.1+x.2*y.2*d)
    have h2:x.2*y.2*d=x.2*e*(y.2*e)*(ε*ε*d):=by
     rw[show x.2*e*(y.2*e)*(ε*ε*d)=x.2*y.2*d*(ε*e)*(ε*e) from Rg.bG [x.2,y.2,d,ε,e] (X0*X4*(X1*X4)*(X3*X3*X2)) (X0*X1*X2*(X3*X4)*(X3*X4)) rfl,h1,Rg.mul_one,Rg.mul_one]
    rw[h2];have h3:=I.mul hx.1 hy.1;have h4:=I.mul (I.mul hx.2 hy.2) hB;exact I.mono (I.add (I.mono h3 (show X+Y+I.c≤X+Y+I.c+b+I.c by omega)) h4) (by omega)
  · show I.Z _ ((x.1*y.2+x.2*y.1)*e);rw[show (x.1*y.2+x.2*y.1)*e=x.1*(y.2*e)+x.2*e*y.1 from Rg.bG [x.1,x.2,y.1,y.2,e] ((X0*X3+X1*X2)*X4) (X0*(X3*X4)+X1*X4*X2) rfl];exact I.mono (I.add (I.mul hx.1 hy.2) (I.mul hx.2 hy.1)) (by omega)
end
section
variable {A:Rg} {d:A.T}
def em(z:A.T):(A.ext d).T:=(z,0)
def br(p:(A.ext d).T):(A.ext d).T:=(p.1, -p.2)
def nr(p:(A.ext d).T):A.T:=p.1*p.1-p.2*p.2*d
theorem a5(x y:A.T):em (d:=d) (x*y)=em x*em y:=Prod.ext (by
 show x*y=x*y+0*0*d;rw[Rg.zero_mul,Rg.zero_mul,Rg.add_zero]) (by
 show (0:A.T)=x*0+0*y
 rw[Rg.mul_zero,Rg.zero_mul,Rg.add_zero])
theorem lf:em (d:=d) (1:A.T)=1:=rfl
theorem ya(p:(A.ext d).T):em (nr p)=p*br p:=Prod.ext (by
 show p.1*p.1-p.2*p.2*d=p.1*p.1+p.2* -p.2*d;exact Rg.bG [p.1,p.2,d] (X0*X0-X1*X1*X2) (X0*X0+X1* -X1*X2) rfl) (by
 show (0:A.T)=p.1* -p.2+p.2*p.1
 exact Rg.bG [p.1,p.2] 0 (X0* -X1+X1*X0) rfl)
theorem s4(p:(A.ext d).T)(z:A.T):nr (p*em z)=nr p*(z*z):=by
 show (p.1*z+p.2*0*d)*(p.1*z+p.2*0*d) -(p.1*0+p.2*z)*(p.1*0+p.2*z)*d=(p.1*p.1-p.2*p.2*d)*(z*z);exact Rg.bG [p.1,p.2,d,z] ((X0*X3+X1*0*X2)*(X0*X3+X1*0*X2) -(X0*0+X1*X3)*(X0*0+X1*X3)*X2) ((X0*X0-X1*X1*X2)*(X3*X3)) rfl
theorem EE(p:(A.ext d).T)(z:A.T):br (p*em z)=br p*em z:=Prod.ext (by
 show p.1*z+p.2*0*d=p.1*z+ -p.2*0*d;exact Rg.bG [p.1,p.2,d,z] (X0*X3+X1*0*X2) (X0*X3+ -X1*0*X2) rfl) (by
 show -(p.1*0+p.2*z)=p.1*0+ -p.2*z
 exact Rg.bG [p.1,p.2,z] (-(X0*0+X1*X2)) (X0*0+ -X1*X2) rfl)
theorem fH(p:(A.ext d).T)(z:A.T):(p*em z).1=p.1*z:=by
 show p.1*z+p.2*0*d=p.1*z;exact Rg.bG [p.1,p.2,d,z] (X0*X3+X1*0*X2) (X0*X3) rfl
theorem k9(p:(A.ext d).T)(z:A.T):(p*em z).2=p.2*z:=by
 show p.1*0+p.2*z=p.2*z;exact Rg.bG [p.1,p.2,z] (X0*0+X1*X2) (X1*X2) rfl
structure IP (d:A.T) where
 a:IR A
 p:IR (A.ext d)
 of: ∀{X:Nat} {z:A.T},a.Z X z→p.Z X (em z)
 fst: ∀{X:Nat} {z:(A.ext d).T},p.Z X z→a.Z X z.1
 br: ∀{X:Nat} {z:(A.ext d).T},p.Z X z→p.Z X (br z)
 cc:a.c≤p.c
def IR.U{R:Rg}(I:IR R)(X:Nat)(z:R.T):Prop:=I.Z X z∧ ∃u,z*u=1
theorem IR.U.mul{R:Rg}{I:IR R}{X Y:Nat}{x y:R.T}(hx:I.U X x)(hy:I.U Y y):I.U (X+Y+I.c) (x*y):=by
 obtain ⟨h1,u,hu⟩:=hx;obtain ⟨h2,w,hw⟩:=hy;exact⟨I.mul h1 h2,u*w,by rw[show x*y*(u*w)=x*u*(y*w) from Rg.bG [x,y,u,w] (X0*X1*(X2*X3)) (X0*X2*(X1*X3)) rfl,hu,hw,Rg.mul_one]⟩
theorem IR.U.mono{R:Rg}{I:IR R}{X Y:Nat}{x:R.T}(hx:I.U X x)(h:X≤Y):I.U Y x:=⟨I.mono hx.1 h,hx.2⟩
variable (I:IP d)
def gZ(X N:Nat)(e:Nat→A.T)(m:Nat→(A.ext d).T):Prop:= ∃D,I.a.U X D∧ ∀j,j<N→I.p.Z X (m j*em (D*e j))
def iz(X:Nat)(z:(A.ext d).T):Prop:= ∃D,I.a.U X D∧I.p.Z X (z*em D)
def nU(X N k:Nat)(e:Nat→A.T)(m:Nat→(A.ext d).T):Prop:= ∃D,I.a.U X D∧ ∀j,j<N→ ∃w,I.p.Z X w∧m j*em (D*e j)=em (e k)*w
def B4(P J:(A.ext d).T):Prop:=(∃w,nr P*w=1∧J=br P*em w)∨ ∃w,(P.1+P.1)*w=1∧J=em w
variable {I}
theorem gZ.mono{X Y N:Nat}{e:Nat→A.T}{m:Nat→(A.ext d).T}(h:gZ I X N e m)(hx:X≤Y):gZ I Y N e m:=by
 obtain ⟨D,h1,h2⟩:=h;exact⟨D,h1.mono hx,fun j hj=>I.p.mono (h2 j hj) hx⟩
theorem iz.mono{X Y:Nat}{z:(A.ext d).T}(h:iz I X z)(hx:X≤Y):iz I Y z:=by
 obtain ⟨D,h1,h2⟩:=h;exact⟨D,h1.mono hx,I.p.mono h2 hx⟩
theorem nU.mono{X Y N k:Nat}{e:Nat→A.T}{m:Nat→(A.ext d).T}(h:nU I X N k e m)(hx:X≤Y):nU I Y N k e m:=by
 obtain ⟨D,h1,h2⟩:=h
 exact⟨D,h1.mono hx,fun j hj=>by
  obtain ⟨w,h3,h4⟩:=h2 j hj
  exact⟨w,I.p.mono h3 hx,h4⟩⟩
theorem iz.mul{X Y:Nat}{x y:(A.ext d).T}(hx:iz I X x)(hy:iz I Y y):iz I (X+Y+I.p.c) (x*y):=by
 obtain ⟨D,h1,h2⟩:=hx;obtain ⟨E,h3,h4⟩:=hy;have:=I.cc;refine⟨D*E,(h1.mul h3).mono (by omega),?_⟩;rw[a5,show x*y*(em D*em E)=x*em D*(y*em E) from Rg.bG [x,y,em D,em E] (X0*X1*(X2*X3)) (X0*X2*(X1*X3)) rfl];exact I.p.mul h2 h4
theorem gZ.NA{X Xe N:Nat}{e:Nat→A.T}{m:Nat→(A.ext d).T}(h:gZ I X N e m){j:Nat}(hj:j<N)(he:I.a.U Xe (e j)):iz I (X+Xe+I.a.c) (m j):=by
 obtain ⟨D,h1,h2⟩:=h;exact⟨D*e j,h1.mul he,I.p.mono (h2 j hj) (by omega)⟩
theorem gZ.norm{X N k:Nat}{e:Nat→A.T}{m:Nat→(A.ext d).T}(h:gZ I X N e m)(hk:k<N)(he: ∃u,e k*u=1){J:(A.ext d).T}(hJ:B4 (m k) J):nU I (X+X+I.p.c+1) N k e (fun j=>m j*J):=by
 obtain ⟨D,⟨h1,u,hu⟩,h2⟩:=h;obtain ⟨f,hf⟩:=he;have hp:=h2 k hk;have hc:=I.cc;rcases hJ with ⟨w,hw,rfl⟩ | ⟨w,hw,rfl⟩
 · have hn:I.a.Z (X+X+I.p.c) (nr (m k*em (D*e k))):=by
    have:=I.fst (I.p.mul hp (I.br hp))
    rwa [← ya] at this
   refine⟨nr (m k*em (D*e k)),⟨I.a.mono hn (by omega),w*(u*f*(u*f)),?_⟩,fun j hj=>⟨m j*em (D*e j)*br (m k*em (D*e k)),I.p.mono (I.p.mul (h2 j hj) (I.br hp)) (by omega),?_⟩⟩
   · rw[s4,show nr (m k)*(D*e k*(D*e k))*(w*(u*f*(u*f)))=nr (m k)*w*(D*u*(D*u))*(e k*f*(e k*f)) from Rg.bG [nr (m k),D,e k,w,u,f] (X0*(X1*X2*(X1*X2))*(X3*(X4*X5*(X4*X5)))) (X0*X3*(X1*X4*(X1*X4))*(X2*X5*(X2*X5))) rfl,hw,hu,hf,Rg.mul_one,Rg.mul_one,Rg.mul_one]
   · rw[s4,EE,a5 (nr (m k)*_),a5 (nr (m k)),a5 (D*e k),a5 D,a5 D];have hw':em (d:=d) (nr (m k))*em w=1:=by rw[← a5,hw,lf]
     rw[show m j*(br (m k)*em w)*(em (nr (m k))*(em D*em (e k)*(em D*em (e k)))*em (e j))=m j*br (m k)*(em (nr (m k))*em w)*(em D*em (e k)*(em D*em (e k)))*em (e j) from Rg.bG [m j,br (m k),em w,em (nr (m k)),em D,em (e k),em (e j)] (X0*(X1*X2)*(X3*(X4*X5*(X4*X5))*X6)) (X0*X1*(X3*X2)*(X4*X5*(X4*X5))*X6) rfl,hw',Rg.mul_one];exact Rg.bG [m j,br (m k),em D,em (e k),em (e j)] (X0*X1*(X2*X3*(X2*X3))*X4) (X3*(X0*(X2*X4)*(X1*(X2*X3)))) rfl
 · have e1:(m k*em (D*e k)).1+(m k*em (D*e k)).1=((m k).1+(m k).1)*(D*e k):=by
    rw[fH,Rg.add_mul]
   refine⟨(m k*em (D*e k)).1+(m k*em (D*e k)).1,⟨I.a.mono (I.a.add (I.fst hp) (I.fst hp)) (by omega),w*(u*f),?_⟩,fun j hj=>⟨m j*em (D*e j),I.p.mono (h2 j hj) (by omega),?_⟩⟩
   · rw[e1,show ((m k).1+(m k).1)*(D*e k)*(w*(u*f))=((m k).1+(m k).1)*w*(D*u)*(e k*f) from Rg.bG [(m k).1+(m k).1,D,e k,w,u,f] (X0*(X1*X2)*(X3*(X4*X5))) (X0*X3*(X1*X4)*(X2*X5)) rfl,hw,hu,hf,Rg.mul_one,Rg.mul_one]
   · rw[e1,a5 (((m k).1+(m k).1)*_),a5 ((m k).1+(m k).1),a5 D,a5 D];have hw':em (d:=d) ((m k).1+(m k).1)*em w=1:=by rw[← a5,hw,lf]
     rw[show m j*em w*(em ((m k).1+(m k).1)*(em D*em (e k))*em (e j))=m j*(em ((m k).1+(m k).1)*em w)*(em D*em (e k))*em (e j) from Rg.bG [m j,em w,em ((m k).1+(m k).1),em D,em (e k),em (e j)] (X0*X1*(X2*(X3*X4)*X5)) (X0*(X2*X1)*(X3*X4)*X5) rfl,hw',Rg.mul_one];exact Rg.bG [m j,em D,em (e k),em (e j)] (X0*(X1*X2)*X3) (X2*(X0*(X1*X3))) rfl
theorem gZ.inv{X Xe N k:Nat}{e:Nat→A.T}{m:Nat→(A.ext d).T}(h:gZ I X N e m)(hk:k<N)(he:I.a.U Xe (e k)){J:(A.ext d).T}(hJ:B4 (m k) J):iz I (X+X+Xe+I.p.c+I.p.c+1) J:=by
 obtain ⟨D,⟨h1,u,hu⟩,h2⟩:=h;obtain ⟨g1,f,hf⟩:=he;have hp:=h2 k hk;have hc:=I.cc;rcases hJ with ⟨w,hw,rfl⟩ | ⟨w,hw,rfl⟩
 · have hn:I.a.Z (X+X+I.p.c) (nr (m k*em (D*e k))):=by
    have:=I.fst (I.p.mul hp (I.br hp))
    rwa [← ya] at this
   refine⟨nr (m k*em (D*e k)),⟨I.a.mono hn (by omega),w*(u*f*(u*f)),?_⟩,?_⟩
   · rw[s4,show nr (m k)*(D*e k*(D*e k))*(w*(u*f*(u*f)))=nr (m k)*w*(D*u*(D*u))*(e k*f*(e k*f)) from Rg.bG [nr (m k),D,e k,w,u,f] (X0*(X1*X2*(X1*X2))*(X3*(X4*X5*(X4*X5)))) (X0*X3*(X1*X4*(X1*X4))*(X2*X5*(X2*X5))) rfl,hw,hu,hf,Rg.mul_one,Rg.mul_one,Rg.mul_one]
   · have hw':em (d:=d) (nr (m k))*em w=1:=by rw[← a5,hw,lf]
     have e2:br (m k)*em w*em (nr (m k*em (D*e k)))=br (m k*em (D*e k))*em (D*e k):=by
      rw[s4,EE,a5 (nr (m k)),a5 (D*e k),show br (m k)*em w*(em (nr (m k))*(em (D*e k)*em (D*e k)))=em (nr (m k))*em w*(br (m k)*em (D*e k)*em (D*e k)) from Rg.bG [br (m k),em w,em (nr (m k)),em (D*e k)] (X0*X1*(X2*(X3*X3))) (X2*X1*(X0*X3*X3)) rfl,hw',Rg.one_mul]
     rw[e2];exact I.p.mono (I.p.mul (I.br hp) (I.of (I.a.mul h1 g1))) (by omega)
 · have e1:(m k*em (D*e k)).1+(m k*em (D*e k)).1=((m k).1+(m k).1)*(D*e k):=by
    rw[fH,Rg.add_mul]
   refine⟨(m k*em (D*e k)).1+(m k*em (D*e k)).1,⟨I.a.mono (I.a.add (I.fst hp) (I.fst hp)) (by omega),w*(u*f),?_⟩,?_⟩
   · rw[e1,show ((m k).1+(m k).1)*(D*e k)*(w*(u*f))=((m k).1+(m k).1)*w*(D*u)*(e k*f) from Rg.bG [(m k).1+(m k).1,D,e k,w,u,f] (X0*(X1*X2)*(X3*(X4*X5))) (X0*X3*(X1*X4)*(X2*X5)) rfl,hw,hu,hf,Rg.mul_one,Rg.mul_one]
   · rw[e1,← a5,show w*(((m k).1+(m k).1)*(D*e k))=((m k).1+(m k).1)*w*(D*e k) from Rg.bG [(m k).1+(m k).1,D,e k,w] (X3*(X0*(X1*X2))) (X0*X3*(X1*X2)) rfl,hw,Rg.one_mul];exact I.p.mono (I.of (I.a.mul h1 g1)) (by omega)
theorem nU.row{X Xe N k:Nat}{e:Nat→A.T}{m:Nat→(A.ext d).T}(h:nU I X N k e m)(he:I.a.U Xe (e k)):gZ I (X+Xe+I.p.c) N e m:=by
 obtain ⟨D,h1,h2⟩:=h;refine⟨D,h1.mono (by omega),fun j hj=>?_⟩;obtain ⟨w,h3,h4⟩:=h2 j hj;rw[h4];exact I.p.mono (I.p.mul (I.of he.1) h3) (by omega)
theorem gZ.take{X Y N k:Nat}{e:Nat→A.T}{m n:Nat→(A.ext d).T}(h:gZ I X N e m)(hk:k<N)(hn:nU I Y N k e n):gZ I (X+Y+I.p.c+1) N e (fun j=>m j-m k*n j):=by
 obtain ⟨D,h1,h2⟩:=h;obtain ⟨E,h3,h4⟩:=hn;have hc:=I.cc;refine⟨D*E,(h1.mul h3).mono (by omega),fun j hj=>?_⟩;obtain ⟨w,h5,h6⟩:=h4 j hj;have h7:=h2 k hk;rw[a5] at h6 h7;have h8:=h2 j hj;rw[a5] at h8;rw[a5 (D*E),a5 D,show (m j-m k*n j)*(em D*em E*em (e j))=m j*(em D*em (e j))*em E+ -(m k*em D*(n j*(em E*em (e j)))) from Rg.bG [m j,m k,n j,em D,em E,em (e j)] ((X0-X1*X2)*(X3*X4*X5)) (X0*(X3*X5)*X4+ -(X1*X3*(X2*(X4*X5)))) rfl,h6,show m k*em D*(em (e k)*w)=m k*(em D*em (e k))*w from Rg.bG [m k,em D,em (e k),w] (X0*X1*(X2*X3)) (X0*(X1*X2)*X3) rfl];exact I.p.add (I.p.mul h8 (I.of h3.1)) (I.p.neg (I.p.mul h7 h5))
end
end Lift
namespace Lift
section
variable {A:Rg} {d d':A.T} {I:IP d} {I':IP d'}
def JU(a:IR A)(c X:Nat)(ek:A.T)(P:(A.ext d').T):Prop:= ∃D,a.U X D∧a.Z (X+X+c) (nr (P*em (D*ek)))∧a.Z X (P*em (D*ek)).1
theorem gZ.I6{X N k:Nat}{e:Nat→A.T}{m:Nat→(A.ext d').T}(h:gZ I' X N e m)(hk:k<N):JU I'.a I'.p.c X (e k) (m k):=by
 obtain ⟨D,h1,h2⟩:=h;have hp:=h2 k hk;have:=I'.fst (I'.p.mul hp (I'.br hp));rw[← ya] at this;exact⟨D,h1,this,I'.fst hp⟩
def B5(P':(A.ext d').T)(P J:(A.ext d).T):Prop:=B4 P J∨(∃w,nr P'*w=1∧J=br P*em w)∨(∃w,(P'.1+P'.1)*w=1∧J=em w)∨ ∃w,P'.1*w=1∧J=em w
theorem gZ.Mg{X X' c' kk N k:Nat}{e:Nat→A.T}{m:Nat→(A.ext d).T}{P':(A.ext d').T}(h:gZ I X N e m)(hk:k<N)(he: ∃u,e k*u=1)(h':JU I.a c' X' (e k) P'){J:(A.ext d).T}(hJ:B5 P' (m k) J)(hk1:c'+I.a.c+I.a.c≤kk)(hk2:I.p.c+I.p.c+I.a.c≤kk):nU I (X+X+X'+X'+kk+1) N k e (fun j=>m j*J):=by
 rcases hJ with hJ | hJ
 · exact(h.norm hk he hJ).mono (by omega)
 obtain ⟨D,⟨h1,u,hu⟩,h2⟩:=h;obtain ⟨E,⟨h3,v,hv⟩,h4,h5⟩:=h';obtain ⟨f,hf⟩:=he;have hp:=h2 k hk;have hc:=I.cc
 have lin: ∀(q w:A.T),q*w=1→I.a.Z (X'+1) (q*(E*e k))→J=em w→nU I (X+X+X'+X'+kk+1) N k e (fun j=>m j*J):=fun q w hw hz hJ=>by
  subst hJ;refine⟨D*(q*(E*e k)),⟨I.a.mono (I.a.mul h1 hz) (by omega),u*(w*(v*f)),?_⟩,fun j hj=>⟨m j*em (D*e j)*em E,I.p.mono (I.p.mul (h2 j hj) (I.of h3)) (by omega),?_⟩⟩
  · rw[show D*(q*(E*e k))*(u*(w*(v*f)))=q*w*(D*u)*(E*v)*(e k*f) from Rg.bG [D,q,E,e k,u,w,v,f] (X0*(X1*(X2*X3))*(X4*(X5*(X6*X7)))) (X1*X5*(X0*X4)*(X2*X6)*(X3*X7)) rfl,hw,hu,hv,hf,Rg.mul_one,Rg.mul_one,Rg.mul_one]
  · have hw':em (d:=d) q*em w=1:=by rw[← a5,hw,lf]
    rw[a5 (D*_),a5 D,a5 q,a5 E,a5 D,show m j*em w*(em D*(em q*(em E*em (e k)))*em (e j))=em q*em w*(m j*em D*em E*em (e k)*em (e j)) from Rg.bG [m j,em w,em D,em q,em E,em (e k),em (e j)] (X0*X1*(X2*(X3*(X4*X5))*X6)) (X3*X1*(X0*X2*X4*X5*X6)) rfl,hw',Rg.one_mul];exact Rg.bG [m j,em D,em E,em (e k),em (e j)] (X0*X1*X2*X3*X4) (X3*(X0*(X1*X4)*X2)) rfl
 rcases hJ with ⟨w,hw,rfl⟩ | ⟨w,hw,hJ⟩ | ⟨w,hw,hJ⟩
 · refine⟨D*D*nr (P'*em (E*e k)),⟨I.a.mono (I.a.mul (I.a.mul h1 h1) h4) (by omega),u*u*(w*(v*f*(v*f))),?_⟩,fun j hj=>⟨m j*em (D*e j)*br (m k*em (D*e k))*em (E*E),I.p.mono (I.p.mul (I.p.mul (h2 j hj) (I.br hp)) (I.of (I.a.mul h3 h3))) (by omega),?_⟩⟩
   · rw[s4,show D*D*(nr P'*(E*e k*(E*e k)))*(u*u*(w*(v*f*(v*f))))=nr P'*w*(D*u*(D*u))*(E*v*(E*v))*(e k*f*(e k*f)) from Rg.bG [D,nr P',E,e k,u,w,v,f] (X0*X0*(X1*(X2*X3*(X2*X3)))*(X4*X4*(X5*(X6*X7*(X6*X7))))) (X1*X5*(X0*X4*(X0*X4))*(X2*X6*(X2*X6))*(X3*X7*(X3*X7))) rfl,hw,hu,hv,hf];simp only[Rg.mul_one]
   · have hw':em (d:=d) (nr P')*em w=1:=by rw[← a5,hw,lf]
     rw[s4,EE,a5 (D*D*_),a5 (D*D),a5 D D,a5 (nr P'),a5 (E*e k),a5 E (e k),a5 D,a5 D,a5 E E,show m j*(br (m k)*em w)*(em D*em D*(em (nr P')*(em E*em (e k)*(em E*em (e k))))*em (e j))=em (nr P')*em w*(m j*br (m k)*em D*em D*em E*em E*em (e k)*em (e k)*em (e j)) from Rg.bG [m j,br (m k),em w,em D,em (nr P'),em E,em (e k),em (e j)] (X0*(X1*X2)*(X3*X3*(X4*(X5*X6*(X5*X6)))*X7)) (X4*X2*(X0*X1*X3*X3*X5*X5*X6*X6*X7)) rfl,hw',Rg.one_mul];exact Rg.bG [m j,br (m k),em D,em E,em (e k),em (e j)] (X0*X1*X2*X2*X3*X3*X4*X4*X5) (X4*(X0*(X2*X5)*(X1*(X2*X4))*(X3*X3))) rfl
 · refine lin (P'.1+P'.1) w hw ?_ hJ;rw[show (P'.1+P'.1)*(E*e k)=(P'*em (E*e k)).1+(P'*em (E*e k)).1 by rw[fH,Rg.add_mul]];exact I.a.add h5 h5
 · refine lin P'.1 w hw ?_ hJ;rw[← fH];exact I.a.mono h5 (by omega)
theorem gZ.Nu{X X' Xe c' kk N k:Nat}{e:Nat→A.T}{m:Nat→(A.ext d).T}{P':(A.ext d').T}(h:gZ I X N e m)(hk:k<N)(he:I.a.U Xe (e k))(h':JU I.a c' X' (e k) P'){J:(A.ext d).T}(hJ:B5 P' (m k) J)(hk1:c'+I.a.c+I.a.c≤kk)(hk2:I.p.c+I.p.c+I.a.c≤kk):iz I (X+X+X'+X'+Xe+kk+I.p.c+1) J:=by
 rcases hJ with hJ | hJ
 · exact(h.inv hk he hJ).mono (by omega)
 obtain ⟨D,⟨h1,u,hu⟩,h2⟩:=h;obtain ⟨E,⟨h3,v,hv⟩,h4,h5⟩:=h';obtain ⟨g1,f,hf⟩:=he;have hp:=h2 k hk;have hc:=I.cc
 have lin: ∀(q w:A.T),q*w=1→I.a.Z (X'+1) (q*(E*e k))→J=em w→iz I (X+X+X'+X'+Xe+kk+I.p.c+1) J:=fun q w hw hz hJ=>by
  subst hJ;refine⟨q*(E*e k),⟨I.a.mono hz (by omega),w*(v*f),?_⟩,?_⟩
  · rw[show q*(E*e k)*(w*(v*f))=q*w*(E*v)*(e k*f) from Rg.bG [q,E,e k,w,v,f] (X0*(X1*X2)*(X3*(X4*X5))) (X0*X3*(X1*X4)*(X2*X5)) rfl,hw,hv,hf,Rg.mul_one,Rg.mul_one]
  · rw[← a5,show w*(q*(E*e k))=q*w*(E*e k) from Rg.bG [q,E,e k,w] (X3*(X0*(X1*X2))) (X0*X3*(X1*X2)) rfl,hw,Rg.one_mul];exact I.p.mono (I.of (I.a.mul h3 g1)) (by omega)
 rcases hJ with ⟨w,hw,rfl⟩ | ⟨w,hw,hJ⟩ | ⟨w,hw,hJ⟩
 · refine⟨D*nr (P'*em (E*e k)),⟨I.a.mono (I.a.mul h1 h4) (by omega),u*(w*(v*f*(v*f))),?_⟩,?_⟩
   · rw[s4,show D*(nr P'*(E*e k*(E*e k)))*(u*(w*(v*f*(v*f))))=nr P'*w*(D*u)*(E*v*(E*v))*(e k*f*(e k*f)) from Rg.bG [D,nr P',E,e k,u,w,v,f] (X0*(X1*(X2*X3*(X2*X3)))*(X4*(X5*(X6*X7*(X6*X7))))) (X1*X5*(X0*X4)*(X2*X6*(X2*X6))*(X3*X7*(X3*X7))) rfl,hw,hu,hv,hf];simp only[Rg.mul_one]
   · have hw':em (d:=d) (nr P')*em w=1:=by rw[← a5,hw,lf]
     have e2:br (m k)*em w*em (D*nr (P'*em (E*e k)))=br (m k*em (D*e k))*em (E*E*e k):=by
      rw[s4,EE,a5 D,a5 D,a5 (nr P'),a5 (E*e k),a5 E (e k),a5 (E*E),a5 E E,show br (m k)*em w*(em D*(em (nr P')*(em E*em (e k)*(em E*em (e k)))))=em (nr P')*em w*(br (m k)*em D*em E*em E*em (e k)*em (e k)) from Rg.bG [br (m k),em w,em D,em (nr P'),em E,em (e k)] (X0*X1*(X2*(X3*(X4*X5*(X4*X5))))) (X3*X1*(X0*X2*X4*X4*X5*X5)) rfl,hw',Rg.one_mul];exact Rg.bG [br (m k),em D,em E,em (e k)] (X0*X1*X2*X2*X3*X3) (X0*(X1*X3)*(X2*X2*X3)) rfl
     rw[e2];exact I.p.mono (I.p.mul (I.br hp) (I.of (I.a.mul (I.a.mul h3 h3) g1))) (by omega)
 · refine lin (P'.1+P'.1) w hw ?_ hJ;rw[show (P'.1+P'.1)*(E*e k)=(P'*em (E*e k)).1+(P'*em (E*e k)).1 by rw[fH,Rg.add_mul]];exact I.a.add h5 h5
 · refine lin P'.1 w hw ?_ hJ;rw[← fH];exact I.a.mono h5 (by omega)
end
end Lift
namespace Lift
structure FH (v:List NQ) {A:Rg} (d:A.T) where
 φ:NQ→(A.ext d).T
 sub: ∀{a b:NQ},ay v.length a→ay v.length b→φ (gm a b)=φ a-φ b
 mul: ∀{a b:NQ},ay v.length a→ay v.length b→φ (fQ v a b)=φ a*φ b
 div: ∀{a b:NQ},ay v.length a→ay v.length b→φ (xc v a b)=φ a*φ (bX v.length v b)
 one:φ [1]=1
section
variable {v:List NQ} {A:Rg} {d:A.T} (I:IP d) (F:FH v d)
structure mR (X N:Nat) (e:Nat→A.T) (s:jK):Prop where
 r: ∀i,i<s.rows.length→gZ I X N e (fun j=>F.φ (bk s.rows i j))
 d:iz I X (F.φ s.gX)
variable {I F}
theorem mR.bR{X m N c k:Nat}{e:Nat→A.T}{s:jK}(R:pb v m N k s)(hs:mR I F X N e s)(h:atR v s c<s.rows.length): ∀i,i<s.rows.length→gZ I X N e (fun j=>F.φ (bk (bR v s c) i j)):=fun i hi=>by
 have hl:=R.len;have h1:=(fj v s c (by have:=R.cm;omega)).1
 have key: ∃i',i'<s.rows.length∧(Lift.bR v s c).getD i []=s.rows.getD i' []:=by
  unfold Lift.bR;split
  · exact⟨i,hi,rfl⟩
  · unfold Gc;rw[eH];split
    · exact⟨_,h,rfl⟩
    · rw[eH];split
      · exact⟨s.cols.length,by omega,rfl⟩
      · exact⟨i,hi,rfl⟩
 obtain ⟨i',hi',e'⟩:=key;have:=hs.r i' hi';unfold bk at this ⊢;rw[e'];exact this
theorem mR.step{X Y Xe X' m N c:Nat}{e:Nat→A.T}{s:jK}(V:pa v)(R:pb v m N c s)(hs:mR I F X N e s)(hc:c<N)(he:I.a.U Xe (e c))(h:atR v s c<s.rows.length)
  (hN:nU I Y N c e (fun j=>F.φ (bk (Lift.bR v s c) s.cols.length j)*F.φ (bX v.length v (pR v s c)))) (h1:X+Y+I.p.c+1≤X') (h2:Y+Xe+I.p.c≤X') (h3:X+X+Xe+I.a.c+I.p.c≤X'):
  mR I F X' N e (cL v s c)∧ ∀i,i<s.rows.length→gZ I X' N e (fun j=>F.φ (bk (eR v s c) i j)):=by
 have hl:=R.len;have hm:=R.cm;have ha:=(fj v s c (by omega)).1;obtain ⟨b1,b2,b3⟩:=rA R h;obtain ⟨e1,e2,e3⟩:=yb V R h;have hb:=hs.bR R h;have hr:s.cols.length<s.rows.length:=by omega
 have hnr: ∀j,j<N→F.φ (bk (eR v s c) s.cols.length j)=F.φ (bk (Lift.bR v s c) s.cols.length j)*F.φ (bX v.length v (pR v s c)):=fun j hj=>by
  unfold eR bk;rw[eH,if_pos ⟨rfl,by omega⟩,uj v _ _ (by rw[b2 _ (by omega)];exact hj)];exact F.div (b3 s.cols.length j) (b3 s.cols.length c)
 have hNe:nU I Y N c e (fun j=>F.φ (bk (eR v s c) s.cols.length j)):=by
  obtain ⟨D,d1,d2⟩:=hN;exact⟨D,d1,fun j hj=>by dsimp only;rw[hnr j hj];exact d2 j hj⟩
 have heR: ∀i,i<s.rows.length→i≠s.cols.length→gZ I X N e (fun j=>F.φ (bk (eR v s c) i j)):=fun i hi hne=>by
  have:=hb i hi
  have g:(eR v s c).getD i []=(Lift.bR v s c).getD i []:=by
   unfold eR;rw[eH,if_neg (fun g=>hne g.1)]
  unfold bk at this ⊢;rw[g];exact this
 have heA: ∀i,i<s.rows.length→gZ I X' N e (fun j=>F.φ (bk (eR v s c) i j)):=fun i hi=>by
  by_cases hne:i=s.cols.length
  · rw[hne];exact(hNe.row he).mono h2
  · exact(heR i hi hne).mono (by omega)
 refine⟨⟨fun i hi=>?_,?_⟩,heA⟩
 · have hlr:(cL v s c).rows.length=s.rows.length:=by
    unfold cL;rw[if_pos h];show (dA _ _ _ _ _).length=_;rw[jv,e1,hl]
   rw[hlr] at hi
   have hrows:(cL v s c).rows=dA v (eR v s c) s.cols.length c (eR v s c).length:=by
    unfold cL;rw[if_pos h]
   rw[hrows]
   have key: ∀n,n≤(eR v s c).length→ ∀i,i<s.rows.length→gZ I X' N e (fun j=>F.φ (bk (dA v (eR v s c) s.cols.length c n) i j)):=fun n=>by
    induction n with
    | zero=>intro _;exact heA
    | succ n ih =>
      intro hn i hi;have ih:=ih (by omega);unfold dA;split
      · rename_i hcnd;by_cases hin:i=n
        · subst hin
          have g0: ∀j,j<N→F.φ (bk ((dA v (eR v s c) s.cols.length c i).set i (m6 v ((dA v (eR v s c) s.cols.length c i).getD i []) ((dA v (eR v s c) s.cols.length c i).getD s.cols.length []) (bk (dA v (eR v s c) s.cols.length c i) i c))) i j)=F.φ (bk (eR v s c) i j) -F.φ (bk (eR v s c) i c)*F.φ (bk (eR v s c) s.cols.length j):=fun j hj=>by
           rw[ir v _ _ _ i i (.inl (ai _)),ir v _ _ _ i _ (.inr rfl),z0];show F.φ ((((dA v (eR v s c) s.cols.length c i).set i _).getD i []).getD j [])=_;rw[eH,if_pos ⟨rfl,by rw[jv];omega⟩,oc v _ _ _ (by rw[e2 i (by omega)];exact hj)];show F.φ (gm (bk (eR v s c) i j) (fQ v (bk (eR v s c) i c) (bk (eR v s c) s.cols.length j)))=_;rw[F.sub (e3 i j) (ij V (e3 i c) (e3 _ j)),F.mul (e3 i c) (e3 _ j)]
          have ht:=(heR i hi hcnd.1).take hc hNe;obtain ⟨D,d1,d2⟩:=ht.mono h1;exact⟨D,d1,fun j hj=>by dsimp only;rw[g0 j hj];exact d2 j hj⟩
        · have:=ih i hi;unfold bk at this ⊢;rw[eH,if_neg (fun g=>hin g.1)];exact this
      · exact ih i hi
   exact key _ (ai _) i hi
 · have hdet:(cL v s c).gX=fQ v s.gX (pR v s c):=by
    unfold cL;rw[if_pos h]
   rw[hdet];show iz I X' (F.φ (fQ v s.gX (bk (Lift.bR v s c) s.cols.length c)));rw[F.mul R.gX (b3 _ c)];exact(hs.d.mul ((hb s.cols.length hr).NA hc he)).mono (by omega)
def fP(K X:Nat):Nat→Nat
 | 0=>X
 | p+1=>3*fP K X p+K
theorem Kg(K X:Nat): ∀{p q:Nat},p≤q→fP K X p≤fP K X q:=fun {p q} h=>by
 induction h with
 | refl=>exact ai _
 | step _ ih=>exact Nat.le_trans ih (by show _≤3*_+K;omega)
def gP(K X:Nat):Nat→Nat
 | 0=>X
 | p+1=>3*gP K X p+2*fP K X p+K
theorem Ke(K X:Nat): ∀{p q:Nat},p≤q→gP K X p≤gP K X q:=fun {p q} h=>by
 induction h with
 | refl=>exact ai _
 | step _ ih=>exact Nat.le_trans ih (by show _≤3*_+2*_+K;omega)
def FH.Inv(F:FH v d):Prop:= ∀b,ay v.length b→rD v b≠0→B4 (F.φ b) (F.φ (bX v.length v b))
theorem GP{m N c k:Nat}{s:jK}(R:pb v m N k s)(h:atR v s c<s.rows.length):rD v (pR v s c)≠0:=by
 have hl:=R.len;have hm:=R.cm;obtain ⟨h1,h2,h3,h4⟩:=fj v s c (by omega);have h5:=h4 h
 have:bk (Lift.bR v s c) s.cols.length c=bk s.rows (atR v s c) c:=by
  unfold Lift.bR bk;split
  · rename_i e;rw[e]
  · unfold Gc;rw[eH,if_pos ⟨rfl,by rw[List.length_set];omega⟩]
 rw[pR,this];exact h5
theorem xC{c:Nat}{s:jK}(h: ¬atR v s c<s.rows.length):cL v s c=s:=by
 unfold cL;rw[if_neg h]
theorem xD{c:Nat}{s:jK}(h:atR v s c<s.rows.length):(cL v s c).cols.length=s.cols.length+1:=by
 unfold cL;rw[if_pos h];exact List.length_append
theorem mR.red{X Xe N:Nat}{e:Nat→A.T}{a:cV}(V:pa v)(hI:F.Inv)(hr:dk N a)(hl:rB v.length a)(he: ∀j,j<N→I.a.U Xe (e j))(hx:Xe≤X)(h0:mR I F X N e ⟨a,[],1,[1]⟩){K:Nat}(hK:I.p.c+I.p.c+2≤K): ∀c,c≤N→mR I F (fP K X (aC v a c).cols.length) N e (aC v a c) ∧
  (c<N→atR v (aC v a c) c<(aC v a c).rows.length→mR I F (fP K X ((aC v a c).cols.length+1)) N e (cL v (aC v a c) c)∧(∀i,i<(aC v a c).rows.length→gZ I (fP K X ((aC v a c).cols.length+1)) N e (fun j=>F.φ (bk (eR v (aC v a c) c) i j)))∧iz I (fP K X ((aC v a c).cols.length+1)) (F.φ (bX v.length v (pR v (aC v a c) c)))):=by
 have hcc:=I.cc
 have st: ∀c,mR I F (fP K X (aC v a c).cols.length) N e (aC v a c)→c<N→atR v (aC v a c) c<(aC v a c).rows.length→mR I F (fP K X ((aC v a c).cols.length+1)) N e (cL v (aC v a c) c)∧(∀i,i<(aC v a c).rows.length→gZ I (fP K X ((aC v a c).cols.length+1)) N e (fun j=>F.φ (bk (eR v (aC v a c) c) i j)))∧iz I (fP K X ((aC v a c).cols.length+1)) (F.φ (bX v.length v (pR v (aC v a c) c))):=fun c hs hc h=>by
  have R:=kj V hr hl c;have hlen:=R.len;have hm:=R.cm;have ha:=(fj v (aC v a c) c (by omega)).1;obtain ⟨b1,b2,b3⟩:=rA R h;have hb:=hs.bR R h (aC v a c).cols.length (by omega);have hJ:=hI _ (b3 _ c) (GP R h);have hX:X≤fP K X (aC v a c).cols.length:=Kg K X (Nat.zero_le _);have hn:=hb.norm hc (he c hc).2 hJ;have hi:=hb.inv hc (he c hc) hJ;have ef:fP K X ((aC v a c).cols.length+1)=3*fP K X (aC v a c).cols.length+K:=rfl;generalize fP K X ((aC v a c).cols.length+1)=Z at *;generalize fP K X (aC v a c).cols.length=Y at *;obtain ⟨s1,s2⟩:=mR.step V R hs hc (he c hc) h hn (X':=Z) (by omega) (by omega) (by omega);exact⟨s1,s2,hi.mono (by omega)⟩
 have main: ∀c,c≤N→mR I F (fP K X (aC v a c).cols.length) N e (aC v a c):=fun c=>by
  induction c with
  | zero=>intro _;exact h0
  | succ c ih =>
    intro hc;have ih:=ih (by omega);show mR I F (fP K X (cL v (aC v a c) c).cols.length) N e (cL v (aC v a c) c);by_cases h:atR v (aC v a c) c<(aC v a c).rows.length
    · rw[xD h];exact(st c ih (by omega) h).1
    · rw[xC h];exact ih
 exact fun c hc=>⟨main c hc,fun h1 h2=>st c (main c hc) h1 h2⟩
end
section
variable {v:List NQ} {A:Rg} {d d':A.T} {I:IP d} {I':IP d'} {F:FH v d} {F':FH v d'}
def FH.B5(F':FH v d')(F:FH v d):Prop:= ∀b,ay v.length b→rD v b≠0→Lift.B5 (F'.φ b) (F.φ b) (F.φ (bX v.length v b))
theorem mR.Nj{X Xe N:Nat}{e:Nat→A.T}{a:cV}(V:pa v)(ha':I'.a=I.a)(hI':F'.Inv)(hI:FH.B5 F' F)(hr:dk N a)(hl:rB v.length a)(he: ∀j,j<N→I.a.U Xe (e j))(hx:Xe≤X)(h0':mR I' F' X N e ⟨a,[],1,[1]⟩)(h0:mR I F X N e ⟨a,[],1,[1]⟩){K kk:Nat}(hK':I'.p.c+I'.p.c+2≤K)(hk1:I'.p.c+I.a.c+I.a.c≤kk)(hk2:I.p.c+I.p.c+I.a.c≤kk)(hK:kk+I.p.c+2≤K): ∀c,c≤N→mR I F (gP K X (aC v a c).cols.length) N e (aC v a c) ∧
  (c<N→atR v (aC v a c) c<(aC v a c).rows.length→mR I F (gP K X ((aC v a c).cols.length+1)) N e (cL v (aC v a c) c)∧(∀i,i<(aC v a c).rows.length→gZ I (gP K X ((aC v a c).cols.length+1)) N e (fun j=>F.φ (bk (eR v (aC v a c) c) i j)))∧iz I (gP K X ((aC v a c).cols.length+1)) (F.φ (bX v.length v (pR v (aC v a c) c)))):=by
 have hcc:=I.cc;have plus:=mR.red (K:=K) V hI' hr hl (fun j hj=>by rw[ha'];exact he j hj) hx h0' hK'
 have st: ∀c,mR I F (gP K X (aC v a c).cols.length) N e (aC v a c)→c<N→atR v (aC v a c) c<(aC v a c).rows.length→mR I F (gP K X ((aC v a c).cols.length+1)) N e (cL v (aC v a c) c)∧(∀i,i<(aC v a c).rows.length→gZ I (gP K X ((aC v a c).cols.length+1)) N e (fun j=>F.φ (bk (eR v (aC v a c) c) i j)))∧iz I (gP K X ((aC v a c).cols.length+1)) (F.φ (bX v.length v (pR v (aC v a c) c))):=fun c hs hc h=>by
  have R:=kj V hr hl c;have hlen:=R.len;have hm:=R.cm;have ha:=(fj v (aC v a c) c (by omega)).1;obtain ⟨b1,b2,b3⟩:=rA R h;have hb:=hs.bR R h (aC v a c).cols.length (by omega);have hb':=(plus c (by omega)).1.bR R h (aC v a c).cols.length (by omega);have hJ:=hI _ (b3 _ c) (GP R h);have hX:X≤gP K X (aC v a c).cols.length:=Ke K X (Nat.zero_le _)
  have hp:JU I.a I'.p.c (fP K X (aC v a c).cols.length) (e c) (F'.φ (bk (Lift.bR v (aC v a c) c) (aC v a c).cols.length c)):=by
   rw[← ha'];exact hb'.I6 hc
  have hn:=hb.Mg hc (he c hc).2 hp hJ hk1 hk2;have hi:=hb.Nu hc (he c hc) hp hJ hk1 hk2;have ef:gP K X ((aC v a c).cols.length+1)=3*gP K X (aC v a c).cols.length+2*fP K X (aC v a c).cols.length+K:=rfl;generalize gP K X ((aC v a c).cols.length+1)=Z at *;generalize gP K X (aC v a c).cols.length=Y at *;generalize fP K X (aC v a c).cols.length=Y' at *;obtain ⟨s1,s2⟩:=mR.step V R hs hc (he c hc) h hn (X':=Z) (by omega) (by omega) (by omega);exact⟨s1,s2,hi.mono (by omega)⟩
 have main: ∀c,c≤N→mR I F (gP K X (aC v a c).cols.length) N e (aC v a c):=fun c=>by
  induction c with
  | zero=>intro _;exact h0
  | succ c ih =>
    intro hc;have ih:=ih (by omega);show mR I F (gP K X (cL v (aC v a c) c).cols.length) N e (cL v (aC v a c) c);by_cases h:atR v (aC v a c) c<(aC v a c).rows.length
    · rw[xD h];exact(st c ih (by omega) h).1
    · rw[xC h];exact ih
 exact fun c hc=>⟨main c hc,fun h1 h2=>st c (main c hc) h1 h2⟩
end
end Lift
namespace Lift
def HO(j:Nat)(z:Cf):Cf:=fun i=>if i<2^j then z i else -z i
def qq(q:Rat):Cf:=fun i=>if i=0 then q else 0
theorem Dk(q:Rat):cf [q]=qq q:=funext fun i=>by
 cases i with
 | zero=>rfl
 | succ i=>rfl
theorem xF{l j:Nat}{a:NQ}(ha:ay l a)(h:bL j (cf a)):(aA a).length=0∨ ∃i,i≤j∧(aA a).length=2^i:=by
 have hs:=bV ha;have t:=gH ha;rcases hs with e | ⟨i,hi,e⟩
 · exact .inl e
 · refine .inr ⟨i,?_,e⟩;rcases i with _ | i
   · exact Nat.zero_le _
   · refine Classical.byContradiction fun g=>t.two i e fun k hk=>?_;rw[bc ha];exact h k (Nat.le_trans (Nat.pow_le_pow_right (by decide) (by omega)) hk)
theorem Ha{a:NQ}(h:bL 0 (cf a))(h0:cf a 0=0):cf a=zC:=funext fun i=>by
 by_cases e:i=0
 · rw[e];exact h0
 · exact h i (by show 1≤i;omega)
theorem zK(v:List NQ)(l:Nat){a:NQ}(ha:ay l a)(h:bL 0 (cf a))(h0:cf a 0≠0):cf (bX l v a)=qq (1 / cf a 0):=by
 have hs:(aA a).length=1:=by
  rcases xF ha h with e | ⟨i,hi,e⟩
  · refine absurd ?_ h0;rw[← bc ha,List.length_eq_zero_iff.1 e];rfl
  · obtain rfl:i=0:=by omega
    exact e
 have key: ∀R S N T,cf (kC R S N T (aA a))=qq (1 / cf a 0):=fun R S N T=>by
  unfold kC;rw[if_pos hs,Dk]
  congr 2
  rw[← bc ha];rfl
 cases l with
 | zero=>exact key _ _ _ _
 | succ l=>exact key _ _ _ _
theorem BB{v:List NQ}(hrt:cK v)(hp:pd v)(l:Nat){a:NQ}(ha:ay (l+1) a)(hl:l+1≤v.length)(h:aY v (l+1) (cf a)≠0):
  (bL 0 (cf a)∧cf a 0≠0)∨ ∃j b,j≤l∧(aA a).length=2^(j+1)∧bL (j+1) (cf a)∧ay l b∧aY v l (cf b)≠0∧bL j (cf b) ∧
   ((aY v j (bo v j (cf a))=0∧jL j (cf b) (fun i=>cf a i+cf a i)∧cf (bX (l+1) v a)=cf (bX l v b)) ∨
    (aY v j (bo v j (cf a))≠0∧cf b=bo v j (cf a)∧ ∃J,jL (j+1) J (HO j (cf a))∧bL (j+1) J∧cf (bX (l+1) v a)=mulC v (l+1) J (cf (bX l v b)))):=by
 have hs:=bV ha;have hc:=bc ha;have ho:=oe ha
 show (bL 0 (cf a)∧cf a 0≠0)∨ ∃j b,j≤l∧(aA a).length=2^(j+1)∧bL (j+1) (cf a)∧ay l b∧aY v l (cf b)≠0∧bL j (cf b) ∧
   ((aY v j (bo v j (cf a))=0∧jL j (cf b) (fun i=>cf a i+cf a i)∧cf (kC (bX l v) (eg l v) (fe l v) (aV (l+1) v) (aA a))=cf (bX l v b)) ∨
    (aY v j (bo v j (cf a))≠0∧cf b=bo v j (cf a)∧ ∃J,jL (j+1) J (HO j (cf a))∧bL (j+1) J∧cf (kC (bX l v) (eg l v) (fe l v) (aV (l+1) v) (aA a))=mulC v (l+1) J (cf (bX l v b))))
 rw[← hc] at h ⊢;generalize aA a=s at *;by_cases h0:s.length=0
 · rw[List.length_eq_zero_iff.1 h0] at h;exact absurd (dG v (l+1)) h
 by_cases h1:s.length=1
 · exact .inl ⟨aT (by rw[h1];exact ai _),ho h1⟩
 obtain ⟨j,hj,hsl⟩: ∃j,j≤l∧s.length=2^(j+1):=by
  rcases hs with e | ⟨i,hi,e⟩
  · exact absurd e h0
  · rcases i with _ | j
    · exact absurd e h1
    · exact⟨j,by omega,e⟩
 obtain ⟨e1,e2,e3⟩:=bA hsl;have hx:ay l (s.take (s.length / 2)):= .inr ⟨j,hj,e1⟩;have hn:=qO hj hsl hrt (by omega);have ex:jL j (cf (s.take (s.length / 2))) (cf s):=eV _ e3;have ey:cf (s.drop (s.length / 2))=bw j (cf s):=iW _ e3
 have lowN:bL j (bo v j (cf s)):=fun i hi=>by
  unfold bo;rw[bg v j _ _ i hi,bg v j _ _ i hi];exact Rat.sub_self
 have ls:bL (j+1) (cf s):=aT (by omega);have lx:bL j (cf (s.take (s.length / 2))):=aT (by omega);obtain ⟨Tj⟩:=KD hp j (by omega);have hdj:=hp j (by omega)
 let T:=tF Tj hdj
 rw[bI v ls (by omega)] at h
 have hT:Tj.R.sgn (OR.nr (Tj.of (cf (v.getD j []))) (T.of (cf s)))=aY v j (bo v j (cf s)):=by
  rw[← Tj.sgn]
  congr 1
  show Tj.of (cf s)*Tj.of (cf s) -Tj.of (bw j (cf s))*Tj.of (bw j (cf s))*Tj.of (cf (v.getD j []))=Tj.of (bo v j (cf s));rw[← Tj.mul,← Tj.mul,← Tj.mul,← Tj.sub];rfl
 unfold kC;rw[if_neg h1,dL l hn.1 hrt (by omega),hn.2,bI v lowN hj];by_cases hN:aY v j (bo v j (cf s))=0
 · rw[if_pos hN];have hxx:ay l (aX (s.take (s.length / 2)) (s.take (s.length / 2))):=hx.plus hx;have cxx:cf (aX (s.take (s.length / 2)) (s.take (s.length / 2)))=fun i=>cf (s.take (s.length / 2)) i+cf (s.take (s.length / 2)) i:=funext fun i=>dW _ _ i
   have lxx:bL j (cf (aX (s.take (s.length / 2)) (s.take (s.length / 2)))):=by
    rw[cxx];exact fun i hi=>by
     show _+_=(0:Rat);rw[lx i hi];exact Rat.add_zero 0
   have F:Tj.R.sgn (Tj.of (cf s)+Tj.of (cf s))≠0:=by
    have hes:T.R.sgn (T.of (cf s))≠0:=by rw[T.sgn];exact h
    exact(OR.Et (R:=Tj.R) (d:=Tj.of (cf (v.getD j []))) (by rw[Tj.sgn];exact hdj) hes (by
     have h5:=hT;rw[hN] at h5;exact h5)).2
   refine .inr ⟨j,_,hj,hsl,ls,hxx,?_,lxx,.inl ⟨hN,fun i hi=>?_,rfl⟩⟩
   · rw[bI v lxx hj,← Tj.sgn,cxx,Tj.add,Tj.cong _ _ ex];exact F
   · rw[cxx];show _+_=_;rw[ex i hi]
 · rw[if_neg hN]
   have hjl:ay (l+1) (dP (s.take (s.length / 2)) (aZ (s.drop (s.length / 2))) (s.length / 2)):= .inr ⟨j+1,by omega,by
    rw[dH]
    omega⟩
   have hrl:ay l (bX l v (fe l v s)):=gu l hn.1 hrt (by omega);have cJ: ∀i,cf (dP (s.take (s.length / 2)) (aZ (s.drop (s.length / 2))) (s.length / 2)) i=if i<2^j then cf (s.take (s.length / 2)) i else cf (aZ (s.drop (s.length / 2))) (i-2^j):=fun i=>ED _ e3 (by rw[gq];omega) i
   have lJ:bL (j+1) (cf (dP (s.take (s.length / 2)) (aZ (s.drop (s.length / 2))) (s.length / 2))):=aT (by rw[dH];omega);have ht:=fx (l+1) hjl (hrl.mono (Nat.le_succ l)) hrt hl;refine .inr ⟨j,_,hj,hsl,ls,hn.1,?_,by rw[hn.2];exact lowN,.inr ⟨hN,hn.2,_,fun i _=>?_,lJ,ht.2⟩⟩
   · rw[hn.2,bI v lowN hj];exact hN
   · rw[cJ];unfold HO;split
     · rename_i g;exact ex i g
     · rename_i g;rw[iu,ey];show -(cf s (2^j+(i-2^j)))=_;rw[show 2^j+(i-2^j)=i by omega]
abbrev QR:Rg:=IZ.toRg
abbrev B1(d0:QR.T):Rg:=QR.ext d0
def A6(d0:QR.T)(z:Cf):(B1 d0).T:=(z 0,z 1)
def dq(v:List NQ):QR.T:=(v.getD 0 []).getD 0 0
def Q1{d0:QR.T}(q k:(B1 d0).T):Prop:=(∃w,nr q*w=1∧k=br q*em w)∨(nr q=0∧ ∃w,(q.1+q.1)*w=1∧k=em w)
theorem inv_one{v:List NQ}(hrt:cK v)(hp:pd v)(l:Nat){a:NQ}(ha:ay (l+1) a)(hl:l+1≤v.length)(hlo:bL 1 (cf a))(h:aY v (l+1) (cf a)≠0):Q1 (A6 (dq v) (cf a)) (A6 (dq v) (cf (bX (l+1) v a)))∧bL 1 (cf (bX (l+1) v a)):=by
 have lowr: ∀q,bL 1 (qq q):=fun q i hi=>by
  have hi:2≤i:=hi;exact if_neg (by omega)
 rcases BB hrt hp l ha hl h with ⟨g1,g2⟩ | ⟨j,b,hj,hsl,ls,hb,hbs,hbl,hcs⟩
 · rw[zK v (l+1) ha g1 g2];refine⟨.inl ⟨(1 / cf a 0*(1 / cf a 0):Rat),?_,?_⟩,lowr _⟩
   · show (cf a 0*cf a 0+ -(cf a 1*cf a 1*(v.getD 0 []).getD 0 0))*(1 / cf a 0*(1 / cf a 0))=1;rw[g1 1 (by decide)];generalize cf a 0=x at g2;generalize (v.getD 0 []).getD 0 0=y;rw[Rat.div_def];have:=Rat.mul_inv_cancel x g2
     grind
   · refine Prod.ext ?_ ?_
     · show (1 / cf a 0:Rat)=cf a 0*(1 / cf a 0*(1 / cf a 0))+ -(cf a 1)*0*(v.getD 0 []).getD 0 0;rw[g1 1 (by decide)];generalize cf a 0=x at g2;generalize (v.getD 0 []).getD 0 0=y;rw[Rat.div_def];have:=Rat.mul_inv_cancel x g2
       grind
     · show (0:Rat)=cf a 0*0+ -(cf a 1)*(1 / cf a 0*(1 / cf a 0));rw[g1 1 (by decide)]
       grind
 · obtain rfl:j=0:=by
    rcases xF ha hlo with e | ⟨i,hi,e⟩
    · rw[e] at hsl;exact absurd hsl (Nat.ne_of_lt (Nat.pow_pos (by decide)))
    · rw[e] at hsl;refine Classical.byContradiction fun g=>?_;have h1:2^2≤2^(j+1):=Nat.pow_le_pow_right (by decide) (by omega);have h2:2^i≤2^1:=Nat.pow_le_pow_right (by decide) hi;omega
   have hb0:cf b 0≠0:=fun g=>hbs (by rw[Ha hbl g];exact dG v l);have hi:=zK v l hb hbl hb0
   have hnr:bo v 0 (cf a) 0=cf a 0*cf a 0-cf a 1*cf a 1*(v.getD 0 []).getD 0 0:=by
    show (if (0:Nat)=0 then cf a 0*cf a 0 else 0) -(if (0:Nat)=0 then (if (0:Nat)=0 then bw 0 (cf a) 0*bw 0 (cf a) 0 else 0)*cf (v.getD 0 []) 0 else 0)=_;rw[if_pos rfl,if_pos rfl,if_pos rfl];rfl
   have hnq:nr (A6 (dq v) (cf a))=(bo v 0 (cf a) 0:Rat):=by
    rw[hnr];exact(Rat.sub_eq_add_neg ..).symm
   rcases hcs with ⟨c1,c2,c3⟩ | ⟨c1,c2,J,c3,c4,c5⟩
   · rw[c3,hi];have e0:=c2 0 (by decide);refine⟨.inr ⟨by rw[hnq];exact cX.1 c1,(1 / cf b 0:Rat),?_,?_⟩,lowr _⟩
     · show (cf a 0+cf a 0)*_=(1:Rat);rw[← show cf b 0=cf a 0+cf a 0 from e0];rw[Rat.div_def,Rat.one_mul,Rat.mul_inv_cancel _ hb0]
     · rfl
   · have hm:cf (bX (l+1) v a)=mulC v 1 J (qq (1 / cf b 0)):=by
      rw[c5,hi,cZ v c4 (lowr _) (by omega)]
     refine⟨.inl ⟨(1 / cf b 0:Rat),?_,?_⟩,by rw[hm];exact bg v 1 _ _⟩
     · rw[hnq,← c2];show (cf b 0*(1 / cf b 0):Rat)=1;rw[Rat.div_def,Rat.one_mul,Rat.mul_inv_cancel _ hb0]
     · rw[hm];have j0:J 0=cf a 0:=c3 0 (by decide);have j1:J 1= -cf a 1:=c3 1 (by decide);refine Prod.ext ?_ ?_
       · show (J 0*(1 / cf b 0)+(J 1*0)*(cf (v.getD 0 [])) 0:Rat)=cf a 0*(1 / cf b 0)+ -(cf a 1)*0*(v.getD 0 []).getD 0 0;rw[j0,j1];rfl
       · show (J 0*0+J 1*(1 / cf b 0):Rat)=cf a 0*0+ -(cf a 1)*(1 / cf b 0);rw[j0,j1]
end Lift
namespace Lift
abbrev B2(d0:QR.T)(β:(B1 d0).T):Rg:=(B1 d0).ext β
def mF(d0:QR.T)(β:(B1 d0).T)(z:Cf):(B2 d0 β).T:=(A6 d0 z,A6 d0 (bw 1 z))
def dF(v:List NQ):(B1 (dq v)).T:=A6 (dq v) (cf (v.getD 1 []))
def fs{d0:QR.T}(s:QR.T)(q:(B1 d0).T):QR.T:=q.1+s*q.2
def DQ(v:List NQ)(q:(B1 (dq v)).T):Int:=aY v 1 (fun i=>if i=0 then q.1 else if i=1 then q.2 else 0)
theorem yK(v:List NQ)(z:Cf):DQ v (A6 (dq v) z)=aY v 1 z:=kg v 1 fun i hi=>by
 have hi:i<2:=hi;rcases i with _ | _ | i
 · rfl
 · rfl
 · omega
section
variable {m:Nat} {v:List NQ} (V:iX m v)
include V
theorem D0(h2:2≤v.length)(x y:Cf):mF (dq v) (dF v) (mulC v 2 x y)=mF (dq v) (dF v) x*mF (dq v) (dF v) y :=
 (tF (tF (As v) (V.pos 0 (by omega))) (V.pos 1 (by omega))).mul x y
theorem I4(h1:1≤v.length)(x y:Cf):A6 (dq v) (mulC v 1 x y)=A6 (dq v) x*A6 (dq v) y :=
 (tF (As v) (V.pos 0 (by omega))).mul x y
theorem A5(h2:2≤v.length)(z:Cf):A6 (dq v) (bo v 1 z)=nr (mF (dq v) (dF v) z):=by
 have T:=tF (As v) (V.pos 0 (by omega));have h:=(tF (As v) (V.pos 0 (by omega))).sub (mulC v 1 z z) (mulC v 1 (mulC v 1 (bw 1 z) (bw 1 z)) (cf (v.getD 1 [])));rw[(tF (As v) (V.pos 0 (by omega))).mul,(tF (As v) (V.pos 0 (by omega))).mul,(tF (As v) (V.pos 0 (by omega))).mul] at h;exact h
theorem zJ(h2:2≤v.length){a:NQ}(ha:ay 2 a)(h:aY v 2 (cf a)≠0):
  ((mF (dq v) (dF v) (cf a)).2=0∧(mF (dq v) (dF v) (cf (bX 2 v a))).2=0∧DQ v (mF (dq v) (dF v) (cf a)).1≠0∧Q1 (mF (dq v) (dF v) (cf a)).1 (mF (dq v) (dF v) (cf (bX 2 v a))).1) ∨
  (DQ v (nr (mF (dq v) (dF v) (cf a)))≠0∧ ∃k,Q1 (nr (mF (dq v) (dF v) (cf a))) k∧mF (dq v) (dF v) (cf (bX 2 v a))=br (mF (dq v) (dF v) (cf a))*em k) ∨
  (DQ v (nr (mF (dq v) (dF v) (cf a)))=0∧DQ v ((mF (dq v) (dF v) (cf a)).1+(mF (dq v) (dF v) (cf a)).1)≠0∧ ∃k,Q1 ((mF (dq v) (dF v) (cf a)).1+(mF (dq v) (dF v) (cf a)).1) k∧mF (dq v) (dF v) (cf (bX 2 v a))=em k):=by
 have vN: ∀{z:Cf},bL 1 z→A6 (dq v) (bw 1 z)=0:=fun {z} hz=>Prod.ext (hz 2 (by decide)) (hz 3 (by decide));by_cases hlo:bL 1 (cf a)
 · obtain ⟨g1,g2⟩:=inv_one V.ro V.pos 1 ha h2 hlo h;refine .inl ⟨vN hlo,vN g2,?_,g1⟩;show DQ v (A6 (dq v) (cf a))≠0;rw[yK,← bI v hlo (show 1≤2 by omega)];exact h
 · rcases BB V.ro V.pos 1 ha h2 h with ⟨g1,g2⟩ | ⟨j,b,hj,hsl,ls,hb,hbs,hbl,hcs⟩
   · exact absurd (fun i hi=>g1 i (Nat.le_trans (by decide) hi)) hlo
   obtain rfl:j=1:=by
    rcases j with _ | j
    · exact absurd ls hlo
    · omega
   obtain ⟨q1,q2⟩:=inv_one V.ro V.pos 0 (a:=b) hb (by omega) (aT hb.le) hbs;rcases hcs with ⟨c1,c2,c3⟩ | ⟨c1,c2,J,c3,c4,c5⟩
   · refine .inr (.inr ⟨?_,?_⟩)
     · rw[← A5 V h2,yK];exact c1
     · have e:A6 (dq v) (cf b)=(mF (dq v) (dF v) (cf a)).1+(mF (dq v) (dF v) (cf a)).1:=Prod.ext (c2 0 (by decide)) (c2 1 (by decide));rw[← e,yK];refine⟨hbs,_,q1,?_⟩;rw[c3];exact Prod.ext rfl (vN q2)
   · refine .inr (.inl ?_);rw[← A5 V h2,yK,← c2];refine⟨hbs,_,q1,?_⟩;rw[c5,D0 V h2]
     congr 1
     · refine Prod.ext (Prod.ext (c3 0 (by decide)) (c3 1 (by decide))) (Prod.ext (c3 2 (by decide)) (c3 3 (by decide)))
     · exact Prod.ext rfl (vN q2)
end
section
variable {v:List NQ}
theorem Cs(hns: ¬ ∃s:QR.T,s≠0∧s*s=dq v){q:(B1 (dq v)).T}(h:DQ v q≠0):nr q≠0:=fun e=>by
 obtain ⟨x,y⟩:=q;change Rat at x y;obtain ⟨D,hD⟩: ∃D:Rat,D=(v.getD 0 []).getD 0 0:=⟨_,rfl⟩;have e:x*x+ -(y*y*D)=0:=by rw[hD];exact e
 have hz: ∀{x:Rat},x*x=0→x=0:=fun {x} g=>by
  rcases Rat.mul_eq_zero.1 g with g | g<;>exact g
 by_cases hy:(y:Rat)=0
 · have hx:(x:Rat)=0:=hz (by rw[hy] at e;grind);refine h ?_;unfold DQ
   rw[show (fun i=>if i=0 then x else if i=1 then y else 0)=zC from funext fun i=>by
    split
    · exact hx
    · split
      · exact hy
      · rfl]
   exact dG v 1
 · have hq:(x*y⁻¹)*(x*y⁻¹)=D:=by
    have:=Rat.mul_inv_cancel y hy
    grind
   by_cases hx:(x:Rat)=0
   · refine h ?_;unfold DQ aY;have h0:(v.getD 0 []).getD 0 0=0:=by rw[← hD,← hq,hx];grind
     have h0':aY v 0 (cf (v.getD 0 []))=0:=cX.2 h0;rw[if_pos h0'];exact cX.2 hx
   · refine hns ⟨(x*y⁻¹ :Rat),fun g=>?_,hq.trans hD⟩;rcases Rat.mul_eq_zero.1 g with g | g
     · exact hx g
     · have:=Rat.mul_inv_cancel y hy;rw[g] at this
       grind
theorem xH{s:QR.T}(hs:(0:Rat)<s)(hd:s*s=dq v)(q:(B1 (dq v)).T):DQ v q=0↔fs s q=0:=by
 obtain ⟨x,y⟩:=q;change Rat at x y s;show DQ v (x,y)=0↔x+s*y=0;have hd:s*s=(v.getD 0 []).getD 0 0:=hd;have hd0:0<(v.getD 0 []).getD 0 0:=by rw[← hd];exact Rat.mul_pos hs hs
 have h0': ¬aY v 0 (cf (v.getD 0 []))=0:=by
  show ¬je ((v.getD 0 []).getD 0 0)=0;rw[uW _ hd0];decide
 have hsy:je (s*y)=je y:=by rw[rK,uW _ hs,Int.one_mul]
 have hn:(bo v 0 (fun i=>if i=0 then x else if i=1 then y else 0)) 0=(x+s*y)*(x-s*y):=by
  show (if (0:Nat)=0 then x*x else 0) -(if (0:Nat)=0 then (if (0:Nat)=0 then y*y else 0)*(v.getD 0 []).getD 0 0 else 0)=_;rw[if_pos rfl,if_pos rfl,if_pos rfl,← hd]
  grind
 unfold DQ aY;rw[if_neg h0'];have e1:aY v 0 (fun i=>if i=0 then x else if i=1 then y else 0)=je x:=rfl;have e2:aY v 0 (bw 0 (fun i=>if i=0 then x else if i=1 then y else 0))=je y:=rfl
 have e3:aY v 0 (bo v 0 (fun i=>if i=0 then x else if i=1 then y else 0))=je ((x+s*y)*(x-s*y)):=by
  show je _=_;rw[hn]
 rw[e1,e2,e3,rK]
 have key:x+s*y=0→je x= -je y:=fun g=>by
  rw[← hsy,← pk]
  congr 1
  grind
 have key2:x-s*y=0→je x=je y:=fun g=>by
  rw[← hsy]
  congr 1
  grind
 constructor
 · intro g;split at g
   · rename_i c;have hx:=cX.1 g
     have hy:y=0:=by
      rcases c with c | c
      · exact cX.1 (by omega)
      · exact cX.1 c
     rw[hx,hy];grind
   · rename_i c;split at g
     · exact absurd (.inr g) c
     · rename_i c2;rcases Int.mul_eq_zero.1 g with g | g
       · exact absurd g c2
       · rcases Int.mul_eq_zero.1 g with g | g
         · exact cX.1 g
         · exact absurd (.inl (key2 (cX.1 g))) c
 · intro g;have k:=key g;split
   · rename_i c;omega
   · rename_i c;split
     · omega
     · rw[cX.2 g];simp
end
end Lift
namespace Lift
theorem Q1.inv{d0:QR.T}{q k:(B1 d0).T}(h:Q1 q k):B4 q k:=by
 rcases h with h | ⟨_,h⟩
 · exact .inl h
 · exact .inr h
theorem Q1.exact{d0:QR.T}{q k:(B1 d0).T}(h:Q1 q k)(hn:nr q≠0):q*k=1:=by
 rcases h with ⟨w,hw,rfl⟩ | ⟨e,_⟩
 · refine(Rg.mul_assoc _ _ _).symm.trans ?_;refine(congrArg (· *em w) (ya q).symm).trans ?_;exact(a5 (nr q) w).symm.trans (congrArg em hw)
 · exact absurd e hn
section
variable {m:Nat} {v:List NQ} (V:iX m v)
theorem EB{a b:NQ}(ha:ay v.length a)(hb:ay v.length b):cf (gm a b)=fun i=>cf a i-cf b i:=by
 show cf (aA (aX a (aZ b)))=_;rw[bc (ha.plus hb.minus)];exact funext fun i=>by rw[dW,iu];exact(Rat.sub_eq_add_neg ..).symm
include V
theorem z9{a b:NQ}(ha:ay v.length a)(hb:ay v.length b):cf (fQ v a b)=mulC v v.length (cf a) (cf b):=by
 have ht:=fx v.length ha hb V.ro (ai _);show cf (aA (aV v.length v a b))=_;rw[bc ht.1,ht.2]
theorem JO{a b:NQ}(ha:ay v.length a)(hb:ay v.length b):cf (xc v a b)=mulC v v.length (cf a) (cf (bX v.length v b)):=by
 have ht:=fx v.length ha (gu v.length hb V.ro (ai _)) V.ro (ai _);show cf (aA (aV v.length v a (bX v.length v b)))=_;rw[bc ht.1,ht.2]
def FH.of{A:Rg}{d:A.T}(ψ:Cf→(A.ext d).T)(hs: ∀x y:Cf,ψ (fun i=>x i-y i)=ψ x-ψ y)(hm: ∀x y:Cf,ψ (mulC v v.length x y)=ψ x*ψ y)(h1:ψ pD=1):FH v d where
 φ a:=ψ (cf a)
 sub ha hb:=by rw[EB ha hb,hs]
 mul ha hb:=by rw[z9 V ha hb,hm]
 div ha hb:=by rw[JO V ha hb,hm]
 one:=by rw[EC,h1]
def pr0(z:Cf):(QR.ext (0:QR.T)).T:=(z 0,(0:Rat))
def Ny(h:v.length=0):FH v (A:=QR) 0:=FH.of V pr0 (fun x y=>Prod.ext (Rat.sub_eq_add_neg ..) (by show (0:Rat)=0+ -0;grind)) (fun x y=>by
 rw[h];refine Prod.ext ?_ ?_
 · show (if (0:Nat)=0 then x 0*y 0 else 0)=x 0*y 0+0*0*(0:Rat);rw[if_pos rfl];grind
 · show (0:Rat)=x 0*0+0*y 0
   grind) rfl
theorem JC(h:v.length=0):(Ny V h).Inv:=fun b hb h0=>by
 have hl:bL 0 (cf b):=aT (by rw[← h];exact hb.le)
 have hb0:cf b 0≠0:=fun g=>h0 (by
  show eg v.length v b=0;rw[dL v.length hb V.ro (ai _),Ha hl g]
  exact dG v _)
 have hi:=zK v v.length hb hl hb0;have hx:=Rat.mul_inv_cancel (cf b 0) hb0;refine .inl ⟨(1 / cf b 0*(1 / cf b 0):Rat),?_,?_⟩
 · show (cf b 0*cf b 0+ -(0*0*0))*(1 / cf b 0*(1 / cf b 0))=(1:Rat);rw[Rat.div_def];grind
 · show pr0 (cf (bX v.length v b))=_;rw[hi];refine Prod.ext ?_ ?_
   · show 1 / cf b 0=cf b 0*(1 / cf b 0*(1 / cf b 0))+ -0*0*(0:Rat);rw[Rat.div_def];grind
   · show (0:Rat)=cf b 0*0+ -0*(1 / cf b 0*(1 / cf b 0))
     grind
def Nx(h:v.length=1):FH v (A:=QR) (dq v):=FH.of V (A6 (dq v)) (fun x y=>Prod.ext (Rat.sub_eq_add_neg ..) (Rat.sub_eq_add_neg ..)) (fun x y=>by rw[h];exact I4 V (by omega) x y) rfl
theorem JB(h:v.length=1):(Nx V h).Inv:=fun b hb h0=>by
 have hs:aY v v.length (cf b)≠0:=by rw[← dL v.length hb V.ro (ai _)];exact h0
 rw[h] at hb hs;have g:=(inv_one V.ro V.pos 0 hb (by omega) (aT hb.le) hs).1;show B4 (A6 (dq v) (cf b)) (A6 (dq v) (cf (bX v.length v b)));rw[h];exact Q1.inv g
def x7(h:v.length=2):FH v (A:=B1 (dq v)) (dF v):=FH.of V (mF (dq v) (dF v)) (fun x y=>Prod.ext (Prod.ext (Rat.sub_eq_add_neg ..) (Rat.sub_eq_add_neg ..)) (Prod.ext (Rat.sub_eq_add_neg ..) (Rat.sub_eq_add_neg ..))) (fun x y=>by rw[h];exact D0 V (by omega) x y) rfl
theorem JA(h:v.length=2)(hns: ¬ ∃s:QR.T,s≠0∧s*s=dq v):(x7 V h).Inv:=fun b hb h0=>by
 have hs:aY v v.length (cf b)≠0:=by rw[← dL v.length hb V.ro (ai _)];exact h0
 rw[h] at hb hs;show B4 (mF (dq v) (dF v) (cf b)) (mF (dq v) (dF v) (cf (bX v.length v b)));rw[h];rcases zJ V (by omega) hb hs with ⟨e1,e2,e3,e4⟩ | ⟨e3,k,e4,e5⟩ | ⟨_,e3,k,e4,e5⟩
 · have hk:=Q1.exact e4 (Cs hns e3);generalize mF (dq v) (dF v) (cf b)=P at *;generalize mF (dq v) (dF v) (cf (bX 2 v b))=J at *;obtain ⟨p,p'⟩:=P;obtain ⟨k,k'⟩:=J;change p'=0 at e1;change k'=0 at e2;change p*k=1 at hk;subst e1 e2;refine .inl ⟨k*k,?_,?_⟩
   · show (p*p-0*0*_)*(k*k)=1;rw[show (p*p-0*0*dF v)*(k*k)=p*k*(p*k) from Rg.bG [p,k,dF v] ((X0*X0-0*0*X2)*(X1*X1)) (X0*X1*(X0*X1)) rfl,hk,Rg.mul_one]
   · refine Prod.ext ?_ ?_
     · show k=p*(k*k)+ -0*0*_;rw[show p*(k*k)+ -0*0*dF v=p*k*k from Rg.bG [p,k,dF v] (X0*(X1*X1)+ -0*0*X2) (X0*X1*X1) rfl,hk,Rg.one_mul]
     · show (0:(B1 (dq v)).T)=p*0+ -0*(k*k);exact Rg.bG [p,k] 0 (X0*0+ -0*(X1*X1)) rfl
 · exact .inl ⟨k,Q1.exact e4 (Cs hns e3),e5⟩
 · exact .inr ⟨k,Q1.exact e4 (Cs hns e3),e5⟩
end
theorem k7{d0 σ:QR.T}(hd:σ*σ=d0)(x y:(B1 d0).T):fs σ (x*y)=fs σ x*fs σ y:=by
 subst hd;show x.1*y.1+x.2*y.2*(σ*σ)+σ*(x.1*y.2+x.2*y.1)=(x.1+σ*x.2)*(y.1+σ*y.2);exact Rg.bG [x.1,x.2,y.1,y.2,σ] (X0*X2+X1*X3*(X4*X4)+X4*(X0*X3+X1*X2)) ((X0+X4*X1)*(X2+X4*X3)) rfl
theorem nM{d0 σ:QR.T}(x y:(B1 d0).T):fs σ (x+y)=fs σ x+fs σ y:=by
 show x.1+y.1+σ*(x.2+y.2)=(x.1+σ*x.2)+(y.1+σ*y.2);exact Rg.bG [x.1,x.2,y.1,y.2,σ] (X0+X2+X4*(X1+X3)) ((X0+X4*X1)+(X2+X4*X3)) rfl
theorem zP{d0 σ:QR.T}(x:(B1 d0).T):fs σ (-x)= -fs σ x:=by
 show -x.1+σ* -x.2= -(x.1+σ*x.2);exact Rg.bG [x.1,x.2,σ] (-X0+X2* -X1) (-(X0+X2*X1)) rfl
theorem Lg{d0 σ:QR.T}:fs σ (1:(B1 d0).T)=1:=by
 show 1+σ*0=(1:QR.T);rw[Rg.mul_zero,Rg.add_zero]
theorem oC{d0 σ:QR.T}:fs σ (0:(B1 d0).T)=0:=by
 show 0+σ*0=(0:QR.T);rw[Rg.mul_zero,Rg.add_zero]
theorem Em{d0 s:QR.T}(w:QR.T):fs s (em (d:=d0) w)=w:=by
 show w+s*0=w;rw[Rg.mul_zero,Rg.add_zero]
abbrev BS(v:List NQ)(σ:QR.T):Rg:=QR.ext (fs σ (dF v))
def hS(v:List NQ)(σ:QR.T)(p:(B2 (dq v) (dF v)).T):(BS v σ).T:=(fs σ p.1,fs σ p.2)
section
variable {v:List NQ} {σ:QR.T} (hd:σ*σ=dq v)
include hd
theorem zM(x y:(B2 (dq v) (dF v)).T):hS v σ (x*y)=hS v σ x*hS v σ y:=by
 refine Prod.ext ?_ ?_
 · show fs σ (x.1*y.1+x.2*y.2*dF v)=fs σ x.1*fs σ y.1+fs σ x.2*fs σ y.2*fs σ (dF v);rw[nM,k7 hd,k7 hd,k7 hd]
 · show fs σ (x.1*y.2+x.2*y.1)=fs σ x.1*fs σ y.2+fs σ x.2*fs σ y.1;rw[nM,k7 hd,k7 hd]
theorem Hk(x:(B2 (dq v) (dF v)).T):nr (hS v σ x)=fs σ (nr x):=by
 show fs σ x.1*fs σ x.1+ -(fs σ x.2*fs σ x.2*fs σ (dF v))=fs σ (x.1*x.1+ -(x.2*x.2*dF v));rw[nM,zP,k7 hd,k7 hd,k7 hd]
omit hd in
theorem Ka(x:(B2 (dq v) (dF v)).T):hS v σ (br x)=br (hS v σ x):=Prod.ext rfl (zP x.2)
omit hd in
theorem Ej(k:(B1 (dq v)).T):hS v σ (em k)=em (fs σ k):=Prod.ext rfl oC
def Kf{m:Nat}(V:iX m v)(h:v.length=2):FH v (A:=QR) (fs σ (dF v)) where
 φ a:=hS v σ ((x7 V h).φ a)
 sub {a b} ha hb:=by
  rw[(x7 V h).sub ha hb];refine Prod.ext ?_ ?_
  · show fs σ (((x7 V h).φ a).1+ -((x7 V h).φ b).1)=fs σ ((x7 V h).φ a).1+ -fs σ ((x7 V h).φ b).1;rw[nM,zP]
  · show fs σ (((x7 V h).φ a).2+ -((x7 V h).φ b).2)=fs σ ((x7 V h).φ a).2+ -fs σ ((x7 V h).φ b).2;rw[nM,zP]
 mul ha hb:=by rw[(x7 V h).mul ha hb,zM hd]
 div ha hb:=by rw[(x7 V h).div ha hb,zM hd]
 one:=by
  rw[(x7 V h).one];exact Prod.ext Lg oC
end
end Lift
namespace Lift
theorem Mw{d0 s:QR.T}(hd:s*s=d0)(q:(B1 d0).T):nr q=fs s q*fs (-s) q:=by
 subst hd;show q.1*q.1-q.2*q.2*(s*s)=(q.1+s*q.2)*(q.1+ -s*q.2);exact Rg.bG [q.1,q.2,s] (X0*X0-X1*X1*(X2*X2)) ((X0+X2*X1)*(X0+ -X2*X1)) rfl
theorem Mx{d0 s:QR.T}(q:(B1 d0).T):fs s (br q)=fs (-s) q:=by
 show q.1+s* -q.2=q.1+ -s*q.2;exact Rg.bG [q.1,q.2,s] (X0+X2* -X1) (X0+ -X2*X1) rfl
theorem Lh{d0 s:QR.T}(q:(B1 d0).T):fs (-s) (br q)=fs s q:=by
 show q.1+ -s* -q.2=q.1+s*q.2;exact Rg.bG [q.1,q.2,s] (X0+ -X2* -X1) (X0+X2*X1) rfl
theorem Lf{d0 s:QR.T}(q:(B1 d0).T):q.1+q.1=fs s q+fs (-s) q:=by
 show q.1+q.1=(q.1+s*q.2)+(q.1+ -s*q.2);exact Rg.bG [q.1,q.2,s] (X0+X0) ((X0+X2*X1)+(X0+ -X2*X1)) rfl
theorem vA{d0 s:QR.T}(hd:s*s=d0): -s* -s=d0:=by
 rw[← hd];exact Rg.bG [s] (-X0* -X0) (X0*X0) rfl
theorem EK{x y:QR.T}(h:x*y=0):x=0∨y=0:=Rat.mul_eq_zero.1 h
theorem Q1.fs{d0 s:QR.T}(hd:s*s=d0){q k:(B1 d0).T}(h:Q1 q k)(hn:fs s q≠0):Lift.fs s q*Lift.fs s k=1∧(Lift.fs (-s) q*Lift.fs (-s) k=1∨Lift.fs s q*Lift.fs (-s) k=1):=by
 have e0:=Mw hd q;rcases h with ⟨w,hw,rfl⟩ | ⟨e,w,hw,rfl⟩
 · rw[e0] at hw;have f1:Lift.fs s (br q*em w)=Lift.fs (-s) q*w:=by rw[k7 hd,Mx,Em]
   have f2:Lift.fs (-s) (br q*em w)=Lift.fs s q*w:=by rw[k7 (vA hd),Lh,Em]
   rw[f1,f2];refine⟨by rw[← hw,Rg.mul_assoc],.inl ?_⟩;rw[← hw];exact Rg.bG [Lift.fs s q,Lift.fs (-s) q,w] (X1*(X0*X2)) (X0*X1*X2) rfl
 · rw[e0] at e
   have e':Lift.fs (-s) q=0:=by
    rcases EK e with g | g
    · exact absurd g hn
    · exact g
   rw[Lf (s:=s),e',Rg.add_zero] at hw;rw[Em,Em];exact⟨hw,.inr hw⟩
section
variable {m:Nat} {v:List NQ} (V:iX m v) (h2:v.length=2) {s:QR.T} (hs:(0:Rat)<s) (hd:s*s=dq v)
include V h2 hs hd
theorem E0{b:NQ}(hb:ay v.length b)(h0:rD v b≠0)(σ:QR.T)(hσ:σ*σ=dq v)(hk: ∀q k:(B1 (dq v)).T,Q1 q k→fs s q≠0→fs σ q*fs σ k=1∨fs s q*fs σ k=1):
  B5 (hS v s ((x7 V h2).φ b)) (hS v σ ((x7 V h2).φ b)) (hS v σ ((x7 V h2).φ (bX v.length v b))):=by
 have hsg:aY v v.length (cf b)≠0:=by rw[← dL v.length hb V.ro (ai _)];exact h0
 rw[h2] at hb hsg;show B5 (hS v s (mF (dq v) (dF v) (cf b))) (hS v σ (mF (dq v) (dF v) (cf b))) (hS v σ (mF (dq v) (dF v) (cf (bX v.length v b))));rw[h2];have ne: ∀{q:(B1 (dq v)).T},DQ v q≠0→fs s q≠0:=fun {q} g e=>g ((xH hs hd q).2 e);rcases zJ V (by omega) hb hsg with ⟨e1,e2,e3,e4⟩ | ⟨e3,k,e4,e5⟩ | ⟨_,e3,k,e4,e5⟩
 · generalize mF (dq v) (dF v) (cf b)=P at *;generalize mF (dq v) (dF v) (cf (bX 2 v b))=J at *;obtain ⟨p,p'⟩:=P;obtain ⟨k,k'⟩:=J;change p'=0 at e1;change k'=0 at e2;subst e1 e2;have hJ:hS v σ ((k,0):(B2 (dq v) (dF v)).T)=em (fs σ k):=Prod.ext rfl oC;rcases hk p k e4 (ne e3) with g | g
   · have hP:hS v σ ((p,0):(B2 (dq v) (dF v)).T)=em (fs σ p):=Prod.ext rfl oC;refine .inl (.inl ⟨fs σ k*fs σ k,?_,?_⟩)
     · rw[hP];show (fs σ p*fs σ p-0*0*fs σ (dF v))*(fs σ k*fs σ k)=1;rw[show (fs σ p*fs σ p-0*0*fs σ (dF v))*(fs σ k*fs σ k)=fs σ p*fs σ k*(fs σ p*fs σ k) from Rg.bG [fs σ p,fs σ k,fs σ (dF v)] ((X0*X0-0*0*X2)*(X1*X1)) (X0*X1*(X0*X1)) rfl,g,Rg.mul_one]
     · rw[hP,hJ];refine Prod.ext ?_ ?_
       · show fs σ k=fs σ p*(fs σ k*fs σ k)+ -0*0*fs σ (dF v);rw[show fs σ p*(fs σ k*fs σ k)+ -0*0*fs σ (dF v)=fs σ p*fs σ k*fs σ k from Rg.bG [fs σ p,fs σ k,fs σ (dF v)] (X0*(X1*X1)+ -0*0*X2) (X0*X1*X1) rfl,g,Rg.one_mul]
       · show 0=fs σ p*0+ -0*(fs σ k*fs σ k);exact Rg.bG [fs σ p,fs σ k] 0 (X0*0+ -0*(X1*X1)) rfl
   · exact .inr (.inr (.inr ⟨fs σ k,g,hJ⟩))
 · have hJ:hS v σ (mF (dq v) (dF v) (cf (bX 2 v b)))=br (hS v σ (mF (dq v) (dF v) (cf b)))*em (fs σ k):=by
    rw[e5,zM hσ,Ka,Ej]
   rcases hk _ k e4 (ne e3) with g | g
   · exact .inl (.inl ⟨_,by rw[Hk hσ];exact g,hJ⟩)
   · exact .inr (.inl ⟨_,by rw[Hk hd];exact g,hJ⟩)
 · have hJ:hS v σ (mF (dq v) (dF v) (cf (bX 2 v b)))=em (fs σ k):=by
    rw[e5,Ej]
   rcases hk _ k e4 (ne e3) with g | g
   · refine .inl (.inr ⟨_,?_,hJ⟩);rw[nM] at g;exact g
   · refine .inr (.inr (.inl ⟨_,?_,hJ⟩));rw[nM] at g;exact g
theorem Hv:FH.B5 (Kf hd V h2) (Kf (vA hd) V h2):=fun b hb h0 =>
 E0 V h2 hs hd hb h0 (-s) (vA hd) (fun q k hq hn=>(Q1.fs hd hq hn).2)
theorem Eo:(Kf hd V h2).Inv:=fun b hb h0=>by
 have hsg:aY v v.length (cf b)≠0:=by rw[← dL v.length hb V.ro (ai _)];exact h0
 rw[h2] at hb hsg;show B4 (hS v s (mF (dq v) (dF v) (cf b))) (hS v s (mF (dq v) (dF v) (cf (bX v.length v b))));rw[h2];have ne: ∀{q:(B1 (dq v)).T},DQ v q≠0→fs s q≠0:=fun {q} g e=>g ((xH hs hd q).2 e);rcases zJ V (by omega) hb hsg with ⟨e1,e2,e3,e4⟩ | ⟨e3,k,e4,e5⟩ | ⟨_,e3,k,e4,e5⟩
 · have g:=(Q1.fs hd e4 (ne e3)).1;generalize mF (dq v) (dF v) (cf b)=P at *;generalize mF (dq v) (dF v) (cf (bX 2 v b))=J at *;obtain ⟨p,p'⟩:=P;obtain ⟨k,k'⟩:=J;change p'=0 at e1;change k'=0 at e2;change fs s p*fs s k=1 at g;subst e1 e2;have hJ:hS v s ((k,0):(B2 (dq v) (dF v)).T)=em (fs s k):=Prod.ext rfl oC;have hP:hS v s ((p,0):(B2 (dq v) (dF v)).T)=em (fs s p):=Prod.ext rfl oC;refine .inl ⟨fs s k*fs s k,?_,?_⟩
   · rw[hP];show (fs s p*fs s p-0*0*fs s (dF v))*(fs s k*fs s k)=1;rw[show (fs s p*fs s p-0*0*fs s (dF v))*(fs s k*fs s k)=fs s p*fs s k*(fs s p*fs s k) from Rg.bG [fs s p,fs s k,fs s (dF v)] ((X0*X0-0*0*X2)*(X1*X1)) (X0*X1*(X0*X1)) rfl,g,Rg.mul_one]
   · rw[hP,hJ];refine Prod.ext ?_ ?_
     · show fs s k=fs s p*(fs s k*fs s k)+ -0*0*fs s (dF v);rw[show fs s p*(fs s k*fs s k)+ -0*0*fs s (dF v)=fs s p*fs s k*fs s k from Rg.bG [fs s p,fs s k,fs s (dF v)] (X0*(X1*X1)+ -0*0*X2) (X0*X1*X1) rfl,g,Rg.one_mul]
     · show 0=fs s p*0+ -0*(fs s k*fs s k);exact Rg.bG [fs s p,fs s k] 0 (X0*0+ -0*(X1*X1)) rfl
 · exact .inl ⟨_,by rw[Hk hd];exact(Q1.fs hd e4 (ne e3)).1,by rw[e5,zM hd,Ka,Ej]⟩
 · refine .inr ⟨fs s k,?_,by rw[e5,Ej]⟩;have g:=(Q1.fs hd e4 (ne e3)).1;rw[nM] at g;exact g
end
end Lift
namespace Lift
def IP.FI{A:Rg}(I:IR A){d ε e:A.T}(h1:ε*e=1){b:Nat}(hB:I.Z b (ε*ε*d)):IP d where
 a:=I
 p:=I.ext h1 hB
 of {X z} h:=⟨h,by show I.Z X (0*e);rw[Rg.zero_mul];exact I.zero X⟩
 fst h:=h.1
 br {X z} h:=⟨h.1,by show I.Z X (-z.2*e);rw[Rg.neg_mul];exact I.neg h.2⟩
 cc:=by show I.c≤I.c+I.c+b+1;omega
theorem vx{A:Rg}{d:A.T}(x y:(A.ext d).T):nr (x*y)=nr x*nr y:=by
 show (x.1*y.1+x.2*y.2*d)*(x.1*y.1+x.2*y.2*d) -(x.1*y.2+x.2*y.1)*(x.1*y.2+x.2*y.1)*d=(x.1*x.1-x.2*x.2*d)*(y.1*y.1-y.2*y.2*d);exact Rg.bG [x.1,x.2,y.1,y.2,d] ((X0*X2+X1*X3*X4)*(X0*X2+X1*X3*X4) -(X0*X3+X1*X2)*(X0*X3+X1*X2)*X4) ((X0*X0-X1*X1*X4)*(X2*X2-X3*X3*X4)) rfl
theorem DD{x u:QR.T}(h:x*u=1):x≠0:=fun e=>by
 rw[e,Rg.zero_mul] at h;exact absurd (show (0:Rat)=1 from h) (by decide)
theorem Zq.M0{X:Nat}{q d:QR.T}(h:bZ.Z X (q*d))(hd:bZ.Z X d)(h0:d≠0):LQ q≤X:=Zq.lq h hd h0
section
variable {d ε e:QR.T} (h1:ε*e=1) {b:Nat} (hB:bZ.Z b (ε*ε*d)) {X bε:Nat} (hε:bZ.Z bε ε)
include hε
theorem iz.M1{z:(QR.ext d).T}(h:iz (IP.FI bZ h1 hB) X z):LQ z.1≤X∧LQ z.2≤X+bε:=by
 obtain ⟨D,⟨d1,u,hu⟩,z1,z2⟩:=h;have hD:=DD hu;rw[fH] at z1;rw[k9] at z2;refine⟨Zq.M0 z1 d1 hD,Zq.M0 (d:=D) ?_ (bZ.mono d1 (by omega)) hD⟩;have h3:=bZ.mul z2 hε;rw[show z.2*D*e*ε=z.2*D*(ε*e) from Rg.bG [z.2,D,e,ε] (X0*X1*X2*X3) (X0*X1*(X3*X2)) rfl,h1,Rg.mul_one] at h3;exact h3
variable {β ε' e':(QR.ext d).T} (h1':ε'*e'=1) {b':Nat} (hB':(bZ.ext h1 hB).Z b' (ε'*ε'*β)) {bε':Nat} (hε':(bZ.ext h1 hB).Z bε' ε')
include hε'
theorem iz.lq2{z:((QR.ext d).ext β).T}(h:iz (IP.FI (bZ.ext h1 hB) h1' hB') X z):LQ z.1.1≤X+X+(bε'+bε+(b+1)+(b+1))∧LQ z.1.2≤X+X+(bε'+bε+(b+1)+(b+1))∧LQ z.2.1≤X+X+(bε'+bε+(b+1)+(b+1))∧LQ z.2.2≤X+X+(bε'+bε+(b+1)+(b+1)):=by
 obtain ⟨D,⟨d1,u,hu⟩,z1,z2⟩:=h
 have hn:nr D*nr u=1:=by
  rw[← vx,hu];show (1*1-0*0*d:QR.T)=1;exact Rg.bG [d] (1*1-0*0*X0) 1 rfl
 have hD:=DD hn
 have hc:(bZ.ext h1 hB).c=b+1:=by
  show 0+0+b+1=b+1;omega
 have dn:bZ.Z (X+X+(b+1)) (nr D):=by
  have hb:(bZ.ext h1 hB).Z X (br D):=⟨d1.1,by show bZ.Z X (-D.2*e);rw[Rg.neg_mul];exact bZ.neg d1.2⟩;have:=((bZ.ext h1 hB).mul d1 hb).1;rw[← ya,hc] at this;exact this
 have key: ∀(w:(QR.ext d).T) (Y:Nat),(bZ.ext h1 hB).Z Y (w*D)→X≤Y→LQ w.1≤Y+X+(b+1)+bε∧LQ w.2≤Y+X+(b+1)+bε:=fun w Y hw hXY=>by
  have hb:(bZ.ext h1 hB).Z X (br D):=⟨d1.1,by show bZ.Z X (-D.2*e);rw[Rg.neg_mul];exact bZ.neg d1.2⟩;have h3:=(bZ.ext h1 hB).mul hw hb;rw[Rg.mul_assoc,← ya,hc] at h3;obtain ⟨h4,h5⟩:=h3;rw[fH] at h4;rw[k9] at h5;refine⟨Nat.le_trans (Zq.M0 h4 (bZ.mono dn (by omega)) hD) (by omega),Zq.M0 (d:=nr D) ?_ (bZ.mono dn (by omega)) hD⟩;have h6:=bZ.mul h5 hε;rw[show w.2*nr D*e*ε=w.2*nr D*(ε*e) from Rg.bG [w.2,nr D,e,ε] (X0*X1*X2*X3) (X0*X1*(X3*X2)) rfl,h1,Rg.mul_one] at h6;exact h6
 rw[fH] at z1;rw[k9] at z2;have k1:=key z.1 X z1 (ai _);have h7:=(bZ.ext h1 hB).mul z2 hε';rw[show z.2*D*e'*ε'=z.2*D*(ε'*e') from Rg.bG [z.2,D,e',ε'] (X0*X1*X2*X3) (X0*X1*(X3*X2)) rfl,h1',Rg.mul_one,hc] at h7;have k2:=key z.2 (X+bε'+(b+1)) h7 (by omega);exact⟨by omega,by omega,by omega,by omega⟩
end
theorem uw(q:Rat):((q.den:Int):Rat)≠0:=fun e=>q.den_nz (Int.ofNat_eq_zero.1 (Rat.intCast_inj.1 e))
theorem Ea(q:Rat):q*((q.den:Int):Rat)=(q.num:Rat):=by
 have h:q=(q.num:Rat) / ((q.den:Int):Rat):=by rw[← Rat.divInt_eq_div,Rat.num_divInt_den]
 have h2:=Rat.div_mul_cancel (a:=(q.num:Rat)) (uw q);rw[← h] at h2;exact h2
theorem Zq.den{X:Nat}{q:Rat}(h:LQ q≤X):Zq X ((q.den:Int):Rat)∧Zq X (q*((q.den:Int):Rat)):=by
 have h1:L q.num≤X:=by unfold LQ at h;omega
 have h2:(tw q.den).length≤X:=by unfold LQ at h;omega
 refine⟨⟨(q.den:Int),rfl,?_⟩,⟨q.num,Ea q,?_⟩⟩
 · rw[Int.natAbs_natCast];exact Nat.lt_of_lt_of_le (eP _) (Nat.pow_le_pow_right (by decide) h2)
 · exact Nat.lt_of_lt_of_le (CP _) (Nat.pow_le_pow_right (by decide) h1)
theorem JV{s:Rat}:LQ s≤LQ (s*s):=by
 have hg:Nat.gcd (s.den*s.den) (s.num*s.num).natAbs=1:=by
  rw[Int.natAbs_mul];have:=s.reduced;have h1:Nat.Coprime s.den s.num.natAbs:=Nat.Coprime.symm this;exact Nat.Coprime.mul_left (Nat.Coprime.mul_right h1 h1) (Nat.Coprime.mul_right h1 h1)
 have hd0:s.den*s.den≠0:=Nat.mul_ne_zero s.den_nz s.den_nz
 have hn:(s*s).num=s.num*s.num:=by
  rw[Rat.mul_def',Rat.num_mkRat,if_neg hd0,hg];exact Int.ediv_one _
 have hd:(s*s).den=s.den*s.den:=by
  rw[Rat.mul_def',Rat.den_mkRat,if_neg hd0,hg];exact Nat.div_one _
 have a1:L s.num≤L (s*s).num:=by
  rw[hn];refine nW ?_;rw[Int.natAbs_mul];by_cases h:s.num.natAbs=0
  · omega
  · exact Nat.le_mul_of_pos_left _ (by omega)
 have a2:(tw s.den).length≤(tw (s*s).den).length:=by
  rw[hd];refine gF (Nat.lt_of_le_of_lt ?_ (eP (s.den*s.den)));have:=s.den_nz;exact Nat.le_mul_of_pos_left _ (by omega)
 unfold LQ;omega
end Lift
namespace Lift
def ck(b:NQ)(k:Nat):QR.T:=cf b k
structure xm (X Xe N:Nat) (e:Nat→QR.T) (a:cV):Prop where
 r: ∀i,i<a.length→ ∃D:QR.T,D≠0∧bZ.Z X D∧ ∀j,j<N→ ∀k,bZ.Z X (ck (bk a i j) k*(D*e j))
 e: ∀j,j<N→bZ.Z Xe (e j)∧e j≠0
def JR(k:Nat)(a:cV):Prop:= ∀i j,aB k (bk a i j)
theorem JR.of{k N:Nat}{b:cV}(hr:dk N b)(h1:1≤k)(h: ∀i j,i<b.length→j<N→aB k (bk b i j)):JR k b:=fun i j=>by
 by_cases hi:i<b.length
 · by_cases hj:j<N
   · exact h i j hi hj
   · unfold bk;rw[re (by rw[hr i hi];omega)];exact cH h1
 · unfold bk;rw[mq (by omega)];exact cH h1
def sL(v:List NQ)(a:cV)(N:Nat)(Q:Nat→NQ→Prop):Prop:= ∀c,c≤N→(∀i j,i<(aC v a c).rows.length→j<N→Q (aC v a c).cols.length (bk (aC v a c).rows i j))∧Q (aC v a c).cols.length (aC v a c).gX ∧
 (c<N→atR v (aC v a c) c<(aC v a c).rows.length→(∀i j,i<(aC v a c).rows.length→j<N→Q ((aC v a c).cols.length+1) (bk (eR v (aC v a c) c) i j))∧Q ((aC v a c).cols.length+1) (bX v.length v (pR v (aC v a c) c)))
theorem sL.and{v:List NQ}{a:cV}{N:Nat}{Q Q':Nat→NQ→Prop}(h:sL v a N Q)(h':sL v a N Q'):sL v a N (fun p b=>Q p b∧Q' p b):=fun c hc =>
 ⟨fun i j hi hj=>⟨(h c hc).1 i j hi hj,(h' c hc).1 i j hi hj⟩,⟨(h c hc).2.1,(h' c hc).2.1⟩,fun h1 h2=>⟨fun i j hi hj=>⟨((h c hc).2.2 h1 h2).1 i j hi hj,((h' c hc).2.2 h1 h2).1 i j hi hj⟩,((h c hc).2.2 h1 h2).2,((h' c hc).2.2 h1 h2).2⟩⟩
theorem sL.of{v:List NQ}{A:Rg}{d:A.T}{I:IP d}{F:FH v d}{a:cV}{N Xe:Nat}{e:Nat→A.T}{f:Nat→Nat}(he: ∀j,j<N→I.a.U Xe (e j))
  (h: ∀c,c≤N→mR I F (f (aC v a c).cols.length) N e (aC v a c)∧(c<N→atR v (aC v a c) c<(aC v a c).rows.length→mR I F (f ((aC v a c).cols.length+1)) N e (cL v (aC v a c) c)∧(∀i,i<(aC v a c).rows.length→gZ I (f ((aC v a c).cols.length+1)) N e (fun j=>F.φ (bk (eR v (aC v a c) c) i j)))∧iz I (f ((aC v a c).cols.length+1)) (F.φ (bX v.length v (pR v (aC v a c) c))))):
  sL v a N (fun p b=>iz I (f p+Xe+I.a.c) (F.φ b)):=fun c hc =>
 ⟨fun i j hi hj=>((h c hc).1.r i hi).NA hj (he j hj),(h c hc).1.d.mono (by omega),fun h1 h2=>⟨fun i j hi hj=>(((h c hc).2 h1 h2).2.1 i hi).NA hj (he j hj),((h c hc).2 h1 h2).2.2.mono (by omega)⟩⟩
def tA(v:List NQ)(a:cV)(N:Nat)(F:Nat→Nat):Prop:= ∀c,c≤N→JR (F (aC v a c).cols.length) (aC v a c).rows∧aB (F (aC v a c).cols.length) (aC v a c).gX ∧
 (c<N→atR v (aC v a c) c<(aC v a c).rows.length→JR (F ((aC v a c).cols.length+1)) (eR v (aC v a c) c)∧aB (F ((aC v a c).cols.length+1)) (bX v.length v (pR v (aC v a c) c)))
theorem sL.sz{v:List NQ}{a:cV}{N:Nat}{Q:Nat→NQ→Prop}{F:Nat→Nat}(V:pa v)(hr:dk N a)(hl:rB v.length a)(hF: ∀p,1≤F p)(h:sL v a N Q)(hQ: ∀p b,ay v.length b→Q p b→aB (F p) b):tA v a N F:=fun c hc=>by
 have R:=kj V hr hl c;obtain ⟨h1,h2,h3⟩:=h c hc;refine⟨JR.of R.rect (hF _) fun i j hi hj=>hQ _ _ (R.lt i j) (h1 i j hi hj),hQ _ _ R.gX h2,fun g1 g2=>?_⟩;obtain ⟨h4,h5⟩:=h3 g1 g2;obtain ⟨e1,e2,e3⟩:=yb V R g2;have hlen:=R.len;refine⟨JR.of e2 (hF _) fun i j hi hj=>hQ _ _ (e3 i j) (h4 i j (by omega) hj),hQ _ _ (gu v.length ((rA R g2).2.2 _ c) V.ro (ai _)) h5⟩
end Lift
namespace Lift
theorem zR{K K' X X':Nat}(hK:K≤K')(hX:X≤X'): ∀p,fP K X p≤fP K' X' p
 | 0=>hX
 | p+1=>by
   have:=zR hK hX p;show 3*_+K≤3*_+K';omega
theorem Ep(K X:Nat): ∀p,fP K X p≤gP K X p
 | 0=>ai _
 | p+1=>by
   have:=Ep K X p;show 3*_+K≤3*_+2*_+K;omega
def Fz(X Xe p:Nat):Nat:=gP 168 (X+40) p+fP 168 (X+40) p+2*Xe+108
theorem lp{x:QR.T}(h:x≠0): ∃u,x*u=1:=by
 change Rat at x;exact⟨(x⁻¹ :Rat),Rat.mul_inv_cancel x h⟩
theorem bt{X Y:Nat}{x y:QR.T}(hx:bZ.Z X x)(hy:bZ.Z Y y):bZ.Z (X+Y) (x*y):=Zq.mul hx hy
theorem qh{l k:Nat}{a:NQ}(ha:ay l a)(h1:1≤k)(h: ∀i,i<2^l→LQ (cf a i)≤k):aB k a:=fun i=>by
 by_cases hi:i<2^l
 · exact h i hi
 · have:cf a i=0:=aT ha.le i (by omega);show LQ (cf a i)≤k;rw[this,iZ];exact h1
theorem xm.gX{A:Rg}{d:A.T}(I:IP d){X:Nat}(hX:1≤X):iz I X (1:(A.ext d).T):=⟨1,⟨I.a.mono I.a.one hX,1,Rg.mul_one 1⟩,by
 rw[lf,Rg.mul_one]
 exact I.p.mono I.p.one hX⟩
section
variable {m:Nat} {v:List NQ} (V:iX m v) {a:cV} {N X Xe:Nat} {e:Nat→QR.T} (hr:dk N a) (hl:rB v.length a) (hM:xm X Xe N e a) (hX:1≤X) (hx:Xe≤X)
include V hr hl hM hX hx
theorem E7(h0:v.length=0):tA v a N (Fz X Xe):=by
 have h1:(1:QR.T)*1=1:=Rg.mul_one 1;have hB:bZ.Z 0 ((1:QR.T)*1*0):=by rw[Rg.mul_zero];exact Zq.zero 0
 let I:IP (0:QR.T):=IP.FI bZ h1 hB
 have he: ∀j,j<N→I.a.U Xe (e j):=fun j hj=>⟨(hM.e j hj).1,lp (hM.e j hj).2⟩
 have hz:mR I (Ny V h0) X N e ⟨a,[],1,[1]⟩:=by
  refine⟨fun i hi=>?_,by rw[(Ny V h0).one];exact xm.gX I hX⟩;obtain ⟨D,d0,d1,d2⟩:=hM.r i hi;refine⟨D,⟨d1,lp d0⟩,fun j hj=>⟨?_,?_⟩⟩
  · rw[fH];exact d2 j hj 0
  · rw[k9];show bZ.Z X ((0:QR.T)*(D*e j)*1);rw[Rg.zero_mul,Rg.zero_mul];exact Zq.zero X
 have hc:I.p.c=1:=rfl;refine(sL.of he (mR.red (K:=168) V.a (JC V h0) hr hl he hx hz (by omega))).sz V.a hr hl (fun p=>by unfold Fz;omega) fun p b hb h=>qh hb (by unfold Fz;omega) fun i hi=>?_;rw[h0] at hi;obtain rfl:i=0:=by have:i<1:=hi;omega
 have g:=(iz.M1 h1 hB (bε:=1) Zq.one h).1;have h2:=zR (ai 168) (show X≤X+40 by omega) p;have h3:=Ep 168 (X+40) p;have hac:I.a.c=0:=rfl;refine Nat.le_trans (show LQ (cf b 0)≤_ from g) ?_;rw[hac];unfold Fz;omega
theorem E6(h0:v.length=1)(hρ:dm 16 v):tA v a N (Fz X Xe):=by
 obtain ⟨z1,z2⟩:=Zq.den (hρ 0 0);have zn:=uw ((v.getD 0 []).getD 0 0);obtain ⟨δ,hδ⟩: ∃δ:QR.T,δ=((((v.getD 0 []).getD 0 0).den:Int):Rat):=⟨_,rfl⟩;rw[← hδ] at z1 z2 zn;obtain ⟨e0,h1⟩:=lp zn
 have hB:bZ.Z 32 (δ*δ*dq v):=by
  rw[show δ*δ*dq v=δ*(dq v*δ) from Rg.bG [δ,dq v] (X0*X0*X1) (X0*(X1*X0)) rfl];exact bt (Y:=16) z1 z2
 let I:IP (dq v):=IP.FI bZ h1 hB
 have he: ∀j,j<N→I.a.U Xe (e j):=fun j hj=>⟨(hM.e j hj).1,lp (hM.e j hj).2⟩
 have hz:mR I (Nx V h0) (X+16) N e ⟨a,[],1,[1]⟩:=by
  refine⟨fun i hi=>?_,by rw[(Nx V h0).one];exact xm.gX I (by omega)⟩;obtain ⟨D,d0,d1,d2⟩:=hM.r i hi;refine⟨D*δ,⟨bt d1 z1,?_⟩,fun j hj=>⟨?_,?_⟩⟩
  · obtain ⟨u,hu⟩:=lp d0;exact⟨u*e0,by rw[show D*δ*(u*e0)=D*u*(δ*e0) from Rg.bG [D,δ,u,e0] (X0*X1*(X2*X3)) (X0*X2*(X1*X3)) rfl,hu,h1,Rg.mul_one]⟩
  · rw[fH];show bZ.Z _ (ck (bk a i j) 0*(D*δ*e j));rw[show ck (bk a i j) 0*(D*δ*e j)=ck (bk a i j) 0*(D*e j)*δ from Rg.bG [ck (bk a i j) 0,D,δ,e j] (X0*(X1*X2*X3)) (X0*(X1*X3)*X2) rfl];exact bt (d2 j hj 0) z1
  · rw[k9];show bZ.Z _ (ck (bk a i j) 1*(D*δ*e j)*e0);rw[show ck (bk a i j) 1*(D*δ*e j)*e0=ck (bk a i j) 1*(D*e j)*(δ*e0) from Rg.bG [ck (bk a i j) 1,D,δ,e j,e0] (X0*(X1*X2*X3)*X4) (X0*(X1*X3)*(X2*X4)) rfl,h1,Rg.mul_one];exact bZ.mono (d2 j hj 1) (by omega)
 have hc:I.p.c=33:=rfl;refine(sL.of he (mR.red (K:=168) V.a (JB V h0) hr hl he (by omega) hz (by omega))).sz V.a hr hl (fun p=>by unfold Fz;omega) fun p b hb h=>qh hb (by unfold Fz;omega) fun i hi=>?_;rw[h0] at hi;have hi:i<2:=hi;obtain ⟨g1,g2⟩:=iz.M1 h1 hB z1 h;have h2:=zR (ai 168) (show X+16≤X+40 by omega) p;have h3:=Ep 168 (X+40) p;have hac:I.a.c=0:=rfl;rw[hac] at g1 g2;rcases i with _ | _ | i
 · refine Nat.le_trans (show LQ (cf b 0)≤_ from g1) ?_;unfold Fz;omega
 · refine Nat.le_trans (show LQ (cf b 1)≤_ from g2) ?_;unfold Fz;omega
 · omega
end
end Lift
namespace Lift
theorem sH{X:Nat}{q:QR.T}(h:LQ q≤X): ∃δ e:QR.T,δ*e=1∧bZ.Z X δ∧bZ.Z X (q*δ):=by
 obtain ⟨z1,z2⟩:=Zq.den h;obtain ⟨e,he⟩:=lp (x:=((((show Rat from q).den:Int):Rat))) (uw q);exact⟨_,e,he,z1,z2⟩
theorem B9{X:Nat}{x y:QR.T}(hx:bZ.Z X x)(hy:bZ.Z X y):bZ.Z (X+1) (x+y):=Zq.add hx hy
theorem b7{X Y:Nat}{x:QR.T}(hx:bZ.Z X x)(h:X≤Y):bZ.Z Y x:=Zq.mono hx h
section
variable {m:Nat} {v:List NQ} (V:iX m v) {a:cV} {N X Xe:Nat} {e:Nat→QR.T} (hr:dk N a) (hl:rB v.length a) (hM:xm X Xe N e a) (hX:1≤X) (hx:Xe≤X)
include V hr hl hM hX hx
theorem E5(h0:v.length=2)(hρ:dm 8 v)(hns: ¬ ∃s:QR.T,s≠0∧s*s=dq v):tA v a N (Fz X Xe):=by
 obtain ⟨δ,e0,h1,z1,z2⟩:=sH (q:=dq v) (hρ 0 0);obtain ⟨q0,f0,u0,y0,y0'⟩:=sH (q:=(dF v).1) (hρ 1 0);obtain ⟨q1,f1,u1,y1,y1'⟩:=sH (q:=(dF v).2) (hρ 1 1)
 have hB:bZ.Z 16 (δ*δ*dq v):=by
  rw[show δ*δ*dq v=δ*(dq v*δ) from Rg.bG [δ,dq v] (X0*X0*X1) (X0*(X1*X0)) rfl];exact bt (Y:=8) z1 z2
 have hE:δ*q0*q1*(e0*f0*f1)=1:=by
  rw[show δ*q0*q1*(e0*f0*f1)=δ*e0*(q0*f0)*(q1*f1) from Rg.bG [δ,q0,q1,e0,f0,f1] (X0*X1*X2*(X3*X4*X5)) (X0*X3*(X1*X4)*(X2*X5)) rfl,h1,u0,u1,Rg.mul_one,Rg.mul_one]
 have h1':em (d:=dq v) (δ*q0*q1)*em (e0*f0*f1)=1:=by rw[← a5,hE,lf]
 have zE:bZ.Z 24 (δ*q0*q1):=bt (X:=16) (Y:=8) (bt (X:=8) (Y:=8) z1 y0) y1
 have hB':(bZ.ext h1 hB).Z 48 (em (d:=dq v) (δ*q0*q1)*em (δ*q0*q1)*dF v):=by
  rw[← a5,Rg.mul_comm];constructor
  · rw[fH,show (dF v).1*(δ*q0*q1*(δ*q0*q1))=(dF v).1*q0*q0*(q1*q1)*(δ*δ) from Rg.bG [(dF v).1,δ,q0,q1] (X0*(X1*X2*X3*(X1*X2*X3))) (X0*X2*X2*(X3*X3)*(X1*X1)) rfl];exact bt (X:=32) (Y:=16) (bt (X:=16) (Y:=16) (bt (X:=8) (Y:=8) y0' y0) (bt (X:=8) (Y:=8) y1 y1)) (bt (X:=8) (Y:=8) z1 z1)
  · rw[k9,show (dF v).2*(δ*q0*q1*(δ*q0*q1))*e0=(dF v).2*q1*q1*(q0*q0)*δ*(δ*e0) from Rg.bG [(dF v).2,δ,q0,q1,e0] (X0*(X1*X2*X3*(X1*X2*X3))*X4) (X0*X3*X3*(X2*X2)*X1*(X1*X4)) rfl,h1,Rg.mul_one];exact b7 (bt (X:=32) (Y:=8) (bt (X:=16) (Y:=16) (bt (X:=8) (Y:=8) y1' y1) (bt (X:=8) (Y:=8) y0 y0)) z1) (by decide)
 let I:IP (dF v):=IP.FI (bZ.ext h1 hB) h1' hB'
 have emZ: ∀{Y:Nat} {z:QR.T},bZ.Z Y z→I.a.Z Y (em z):=fun {Y z} hz=>⟨hz,by
  show bZ.Z Y ((0:QR.T)*e0)
  rw[Rg.zero_mul];exact Zq.zero Y⟩
 have emU: ∀{z:QR.T},z≠0→ ∃u,em (d:=dq v) z*u=1:=fun {z} hz=>by
  obtain ⟨u,hu⟩:=lp hz;exact⟨em u,by rw[← a5,hu,lf]⟩
 have he: ∀j,j<N→I.a.U Xe (em (e j)):=fun j hj=>⟨emZ (hM.e j hj).1,emU (hM.e j hj).2⟩
 have hz:mR I (x7 V h0) (X+40) N (fun j=>em (e j)) ⟨a,[],1,[1]⟩:=by
  refine⟨fun i hi=>?_,by rw[(x7 V h0).one];exact xm.gX I (by omega)⟩;obtain ⟨D,d0,d1,d2⟩:=hM.r i hi;refine⟨em (D*(δ*q0*q1*δ)),⟨emZ (b7 (bt d1 (bt (X:=24) (Y:=8) zE z1)) (by omega)),?_⟩,fun j hj=>?_⟩
  · obtain ⟨u,hu⟩:=lp d0;refine⟨em (u*(e0*f0*f1*e0)),?_⟩;rw[← a5,show D*(δ*q0*q1*δ)*(u*(e0*f0*f1*e0))=D*u*(δ*q0*q1*(e0*f0*f1))*(δ*e0) from Rg.bG [D,δ,q0,q1,u,e0,f0,f1] (X0*(X1*X2*X3*X1)*(X4*(X5*X6*X7*X5))) (X0*X4*(X1*X2*X3*(X5*X6*X7))*(X1*X5)) rfl,hu,hE,h1,Rg.mul_one,Rg.mul_one,lf]
  · have d2:=d2 j hj
    dsimp only
    rw[← a5];generalize hc:(x7 V h0).φ (bk a i j)=z;have c0:z.1.1=ck (bk a i j) 0:=by rw[← hc];rfl
    have c1:z.1.2=ck (bk a i j) 1:=by rw[← hc];rfl
    have c2:z.2.1=ck (bk a i j) 2:=by rw[← hc];rfl
    have c3:z.2.2=ck (bk a i j) 3:=by rw[← hc];rfl
    have g0:=d2 0;have g1:=d2 1;have g2:=d2 2;have g3:=d2 3;rw[← c0] at g0;rw[← c1] at g1;rw[← c2] at g2;rw[← c3] at g3;refine⟨⟨?_,?_⟩,?_⟩
    · rw[fH,fH,show z.1.1*(D*(δ*q0*q1*δ)*e j)=z.1.1*(D*e j)*(δ*q0*q1*δ) from Rg.bG [z.1.1,D,δ*q0*q1*δ,e j] (X0*(X1*X2*X3)) (X0*(X1*X3)*X2) rfl];exact b7 (bt g0 (bt (X:=24) (Y:=8) zE z1)) (by omega)
    · rw[fH,k9,show z.1.2*(D*(δ*q0*q1*δ)*e j)*e0=z.1.2*(D*e j)*(δ*q0*q1)*(δ*e0) from Rg.bG [z.1.2,D,δ*q0*q1,e j,δ,e0] (X0*(X1*(X2*X4)*X3)*X5) (X0*(X1*X3)*X2*(X4*X5)) rfl,h1,Rg.mul_one];exact b7 (bt g1 zE) (by omega)
    · rw[k9,Rg.mul_assoc,← a5,show D*(δ*q0*q1*δ)*e j*(e0*f0*f1)=D*e j*δ*(δ*q0*q1*(e0*f0*f1)) from Rg.bG [D,δ*q0*q1,δ,e j,e0*f0*f1] (X0*(X1*X2)*X3*X4) (X0*X3*X2*(X1*X4)) rfl,hE,Rg.mul_one];constructor
      · rw[fH,show z.2.1*(D*e j*δ)=z.2.1*(D*e j)*δ from (Rg.mul_assoc _ _ _).symm];exact b7 (bt g2 z1) (by omega)
      · rw[k9,show z.2.2*(D*e j*δ)*e0=z.2.2*(D*e j)*(δ*e0) from Rg.bG [z.2.2,D*e j,δ,e0] (X0*(X1*X2)*X3) (X0*X1*(X2*X3)) rfl,h1,Rg.mul_one];exact b7 g3 (by omega)
 have hc:I.p.c=83:=rfl;have hac:I.a.c=17:=rfl;refine(sL.of he (mR.red (K:=168) V.a (JA V h0 hns) hr hl he (by omega) hz (by omega))).sz V.a hr hl (fun p=>by unfold Fz;omega) fun p b hb h=>qh hb (by unfold Fz;omega) fun i hi=>?_;rw[h0] at hi;have hi:i<4:=hi;have zE':(bZ.ext h1 hB).Z 24 (em (δ*q0*q1)):=emZ zE;obtain ⟨g0,g1,g2,g3⟩:=iz.lq2 h1 hB z1 h1' hB' zE' h;have h3:=Ep 168 (X+40) p;rw[hac] at g0 g1 g2 g3;rcases i with _ | _ | _ | _ | i
 · refine Nat.le_trans (show LQ (cf b 0)≤_ from g0) ?_;unfold Fz;omega
 · refine Nat.le_trans (show LQ (cf b 1)≤_ from g1) ?_;unfold Fz;omega
 · refine Nat.le_trans (show LQ (cf b 2)≤_ from g2) ?_;unfold Fz;omega
 · refine Nat.le_trans (show LQ (cf b 3)≤_ from g3) ?_;unfold Fz;omega
 · omega
end
end Lift
namespace Lift
def tT(r:Nat):Nat→Nat→Nat
 | 0,s=>s
 | l+1,s=>tT r l s+tT r l (tT r l s+r)+1
theorem qf{r:Nat}: ∀{l s t:Nat},s≤t→tT r l s≤tT r l t
 | 0,_,_,h=>h
 | l+1,s,t,h=>by
   have h1:=qf (r:=r) (l:=l) h;have h2:=qf (r:=r) (l:=l) (Nat.add_le_add_right h1 r);show _+_+1≤_+_+1;omega
theorem qg(r:Nat): ∀(l s:Nat),s≤tT r l s
 | 0,s=>ai s
 | l+1,s=>by
   have h1:=qg r l s;show s≤tT r l s+_+1;omega
theorem F8(r l s:Nat):2*s+1≤tT r (l+1) s:=by
 have h1:=qg r l s;have h2:=qg r l (tT r l s+r);show _≤tT r l s+tT r l (tT r l s+r)+1;omega
theorem jR{v:List NQ}{r:Nat}(hr:dm r v): ∀(l:Nat) {a b:Cf} {k m:Nat},(∀i,LQ (a i)≤k)→(∀i,LQ (b i)≤m)→ ∀i,LQ (mulC v l a b i)≤tT r l (k+m)
 | 0,a,b,k,m,ha,hb,i=>by
   show LQ (if i=0 then a 0*b 0 else 0)≤k+m;split
   · have:=sM (a 0) (b 0);have:=ha 0;have:=hb 0;omega
   · have:=iZ;have:=ha 0;have:=Ae (a 0);omega
 | l+1,a,b,k,m,ha,hb,i=>by
   have h1:=jR hr l ha hb;have h2:=jR hr l (a:=bw l a) (b:=bw l b) (fun i=>ha _) (fun i=>hb _);have h3:=jR hr l (a:=a) (b:=bw l b) ha (fun i=>hb _);have h4:=jR hr l (a:=bw l a) (b:=b) (fun i=>ha _) hb;have h5:=jR hr l (a:=mulC v l (bw l a) (bw l b)) (b:=cf (v.getD l [])) h2 (fun i=>hr l i);have h6:=qg r l (tT r l (k+m)+r);show LQ (if i<2^l then _ else _)≤tT r l (k+m)+tT r l (tT r l (k+m)+r)+1;split
   · have:=wD (mulC v l a b i) (mulC v l (mulC v l (bw l a) (bw l b)) (cf (v.getD l [])) i);have:=h1 i;have:=h5 i;omega
   · have:=wD (mulC v l a (bw l b) (i-2^l)) (mulC v l (bw l a) b (i-2^l));have:=h3 (i-2^l);have:=h4 (i-2^l);omega
theorem Aw{v:List NQ}{r l k m:Nat}{a b:NQ}(hrt:cK v)(hr:dm r v)(hl:l≤v.length)(ha:ay l a)(sa:aB k a)(hb:ay l b)(sb:aB m b):aB (tT r l (k+m)) (aV l v a b):=fun i=>by
 show LQ (cf (aV l v a b) i)≤_;rw[(fx l ha hb hrt hl).2];exact jR hr l sa sb i
theorem D7{v:List NQ}{r l j k:Nat}{a:NQ}(hrt:cK v)(hr:dm r v)(hj:j≤l)(hl:l<v.length)(ha:a.length=2^(j+1))(sa:aB k a):aB (tT r (l+1) (k+k)) (fe l v a):=fun i=>by
 show LQ (cf (fe l v a) i)≤_;have h2:=qO hj ha hrt hl
 have lowN:bL j (bo v j (cf a)):=fun i hi=>by
  unfold bo;rw[bg v j _ _ i hi,bg v j _ _ i hi];exact Rat.sub_self
 obtain ⟨e1,e2,e3⟩:=bA ha;rw[h2.2];have h3:=jR hr j (a:=cf a) (b:=cf a) sa sa i;have h4:=jR hr j (a:=bw j (cf a)) (b:=bw j (cf a)) (fun i=>sa _) (fun i=>sa _);have h5:=jR hr j (a:=mulC v j (bw j (cf a)) (bw j (cf a))) (b:=cf (v.getD j [])) h4 (fun i=>hr j i) i
 have h6:LQ (bo v j (cf a) i)≤tT r (j+1) (k+k):=by
  have:=Du (mulC v j (cf a) (cf a) i) (mulC v j (mulC v j (bw j (cf a)) (bw j (cf a))) (cf (v.getD j [])) i);show LQ (_-_)≤tT r j (k+k)+tT r j (tT r j (k+k)+r)+1;omega
 refine Nat.le_trans h6 ?_
 have up: ∀d s,tT r j s≤tT r (j+d) s:=fun d s=>by
  induction d with
  | zero=>exact ai _
  | succ d ih =>
    refine Nat.le_trans ih ?_;show tT r (j+d) s≤tT r (j+d) s+_+1;omega
 obtain ⟨d,rfl⟩: ∃d,l=j+d:=⟨l-j,by omega⟩;have u1:=up d (k+k);have u2:=up d (tT r j (k+k)+r);have u3:=qf (r:=r) (l:=j+d) (Nat.add_le_add_right u1 r);show tT r j (k+k)+tT r j (tT r j (k+k)+r)+1≤tT r (j+d) (k+k)+tT r (j+d) (tT r (j+d) (k+k)+r)+1;omega
def iQ(r:Nat):Nat→Nat→Nat
 | 0,k=>k+1
 | l+1,k=>tT r (l+1) (k+iQ r l (tT r (l+1) (k+k)))
theorem zL{r:Nat}: ∀{l s t:Nat},s≤t→iQ r l s≤iQ r l t
 | 0,_,_,h=>Nat.succ_le_succ h
 | l+1,s,t,h=>by
   have h1:=zL (r:=r) (l:=l) (qf (r:=r) (l:=l+1) (Nat.add_le_add h h));exact qf (by omega)
theorem J'(r:Nat): ∀(l k:Nat),k<iQ r l k
 | 0,k=>Nat.lt_succ_self k
 | l+1,k=>by
   have h1:=J' r l (tT r (l+1) (k+k));have h2:=qg r (l+1) (k+iQ r l (tT r (l+1) (k+k)));show k<tT r (l+1) _;omega
theorem Ag{q:Rat}{k:Nat}(h0:q≠0)(h:LQ q≤k):LQ (1 / q)≤k+1:=by
 have h1:=LM (r:=1) h0;have h2:=gy;omega
theorem xr(l:Nat)(v:List NQ)(b:NQ):aV l v [] b=[]:=by
 have key: ∀R:NQ→NQ→NQ,kz (jF R v) [] b=[]:=fun R=>by
  unfold kz jF;split
  · rw[if_pos (by simp[bC])]
  · rw[if_pos (by simp[bC])]
 cases l with
 | zero=>exact key _
 | succ l=>exact key _
theorem K9{v:List NQ}{r:Nat}(hrt:cK v)(hr:dm r v): ∀(l:Nat) {k:Nat} {a:NQ},ay l a→l≤v.length→aB k a→aB (iQ r l k) (bX l v a):=by
 have one: ∀{s:NQ} {l k:Nat},ay l s→wz s→s.length=1→aB k s→aB (k+1) [1 / s.getD 0 0]:=fun {s l k} hs ht h1 sa i=>by
  cases i with
  | zero=>exact Ag (ht.one h1) (sa 0)
  | succ i=>exact nX (Nat.le_add_left _ _)
 intro l
 induction l with
 | zero =>
   intro k a ha hl sa;have hs:=bf ha sa;have ht:=gH ha;show aB (k+1) (kC _ _ _ _ (aA a));generalize aA a=s at *;unfold kC;split
   · rename_i h1;exact one hs.1 ht h1 hs.2
   · split
     · exact cH (Nat.le_add_left _ _)
     · exact cH (Nat.le_add_left _ _)
 | succ l ih =>
   intro k a ha hl sa;obtain ⟨hs,sa⟩:=bf ha sa;have ht:=gH ha;show aB (iQ r (l+1) k) (kC (bX l v) (eg l v) (fe l v) (aV (l+1) v) (aA a));generalize aA a=s at *;have hk:=J' r (l+1) k;unfold kC;by_cases h1:s.length=1
   · rw[if_pos h1];exact(one hs ht h1 sa).mono hk
   rw[if_neg h1];by_cases h0:s.length=0
   · rw[List.length_eq_zero_iff.1 h0]
     have en:fe l v []=[]:=by
      show aX (aV l v [] []) (aZ (aV l v (aV l v [] []) (v.getD ((0:Nat).log2-1) [])))=[];rw[xr,xr];rfl
     have es:eg l v []=0:=by cases l<;>rfl
     rw[en,if_pos es];have h3:=ih (cD l) (by omega) (cH (k:=1) (ai _));refine h3.mono ?_;have hk1:=sa.pos;have h5:iQ r l 1≤iQ r l (tT r (l+1) (k+k)):=zL (by have:=qg r (l+1) (k+k);omega);have h6:=qg r (l+1) (k+iQ r l (tT r (l+1) (k+k)));show iQ r l 1≤tT r (l+1) _;omega
   obtain ⟨j,hj,hsl⟩: ∃j,j≤l∧s.length=2^(j+1):=by
    rcases hs with e | ⟨i,hi,e⟩
    · exact absurd e h0
    · rcases i with _ | j
      · exact absurd e h1
      · exact⟨j,by omega,e⟩
   obtain ⟨e1,e2,e3⟩:=bA hsl;have hx:ay l (s.take (s.length / 2)):= .inr ⟨j,hj,e1⟩;have hn:=uk hj hsl hrt (show l<v.length by omega);have sn:=D7 hrt hr hj (show l<v.length by omega) hsl sa;split
   · have h3:=ih (hx.plus hx) (by omega) ((sa.take _).plus (sa.take _));refine h3.mono ?_;have h4:=F8 r l (k+k);have h5:iQ r l (k+k+1)≤iQ r l (tT r (l+1) (k+k)):=zL (by omega);have h6:=qg r (l+1) (k+iQ r l (tT r (l+1) (k+k)));show iQ r l (k+k+1)≤tT r (l+1) _;omega
   · have h3:=ih hn (by omega) sn
     have hjl:ay (l+1) (dP (s.take (s.length / 2)) (aZ (s.drop (s.length / 2))) (s.length / 2)):= .inr ⟨j+1,by omega,by
      rw[dH]
      omega⟩
     exact Aw hrt hr hl hjl (((sa.take _).join (sa.drop _).minus _)) ((gu l hn hrt (by omega)).mono (Nat.le_succ l)) h3
end Lift
namespace Lift
theorem Ei{p q S:Rat}{k m:Nat}(hs:0<S)(h1:LQ (p+S*q)≤k)(h2:LQ (p+ -S*q)≤m)(hS:LQ S≤8):LQ p≤k+m+12∧LQ q≤k+m+12:=by
 have two:LQ 2≤1:=by
  have h1:=Kt 2;have h2:=Dt (z:=2) (k:=1) (by decide);exact Nat.le_trans h1 (by omega)
 have hS0:S≠0:=fun e=>by rw[e] at hs;exact absurd hs (by decide)
 have h2S:2*S≠0:=fun e=>by
  rcases Rat.mul_eq_zero.1 e with g | g
  · exact absurd g (by decide)
  · exact hS0 g
 have a1:=Ag (q:=2) (k:=1) (by decide) two;have a2:LQ (1 / (2*S))≤10:=Ag (k:=9) h2S (by have:=sM 2 S;omega);have b1:=wD (p+S*q) (p+ -S*q);have b2:=Du (p+S*q) (p+ -S*q);have e1:p=(p+S*q+(p+ -S*q))*(1 / 2):=by grind
 have e2:q=(p+S*q-(p+ -S*q))*(1 / (2*S)):=by
  have:=Rat.mul_inv_cancel (2*S) h2S;rw[Rat.div_def]
  grind
 have c1:=sM (p+S*q+(p+ -S*q)) (1 / 2);have c2:=sM (p+S*q-(p+ -S*q)) (1 / (2*S));rw[← e1] at c1;rw[← e2] at c2;constructor<;>omega
theorem AB{v:List NQ}(hρ:dm 8 v){σ:QR.T}(hσ:LQ σ≤8): ∃(E G τ:QR.T) (hE:E*G=1) (hB:bZ.Z 49 (E*E*fs σ (dF v))),bZ.Z 24 E∧bZ.Z 8 τ∧bZ.Z 8 (σ*τ)∧ ∃t,τ*t=1:=by
 obtain ⟨q0,f0,u0,y0,y0'⟩:=sH (q:=(dF v).1) (hρ 1 0);obtain ⟨q1,f1,u1,y1,y1'⟩:=sH (q:=(dF v).2) (hρ 1 1);obtain ⟨τ,t,ut,yt,yt'⟩:=sH (q:=σ) hσ
 have hE:q0*q1*τ*(f0*f1*t)=1:=by
  rw[show q0*q1*τ*(f0*f1*t)=q0*f0*(q1*f1)*(τ*t) from Rg.bG [q0,q1,τ,f0,f1,t] (X0*X1*X2*(X3*X4*X5)) (X0*X3*(X1*X4)*(X2*X5)) rfl,u0,u1,ut,Rg.mul_one,Rg.mul_one]
 refine⟨q0*q1*τ,f0*f1*t,τ,hE,?_,bt (X:=16) (Y:=8) (bt (X:=8) (Y:=8) y0 y1) yt,yt,yt',t,ut⟩;show bZ.Z 49 (q0*q1*τ*(q0*q1*τ)*((dF v).1+σ*(dF v).2));rw[show q0*q1*τ*(q0*q1*τ)*((dF v).1+σ*(dF v).2)=(dF v).1*q0*q0*(q1*q1)*(τ*τ)+(dF v).2*q1*q1*(q0*q0)*(τ*(σ*τ)) from Rg.bG [q0,q1,τ,(dF v).1,σ,(dF v).2] (X0*X1*X2*(X0*X1*X2)*(X3+X4*X5)) (X3*X0*X0*(X1*X1)*(X2*X2)+X5*X1*X1*(X0*X0)*(X2*(X4*X2))) rfl];refine B9 (X:=48) ?_ ?_
 · exact bt (X:=32) (Y:=16) (bt (X:=16) (Y:=16) (bt (X:=8) (Y:=8) y0' y0) (bt (X:=8) (Y:=8) y1 y1)) (bt (X:=8) (Y:=8) yt yt)
 · exact bt (X:=32) (Y:=16) (bt (X:=16) (Y:=16) (bt (X:=8) (Y:=8) y1' y1) (bt (X:=8) (Y:=8) y0 y0)) (bt (X:=8) (Y:=8) yt yt')
section
variable {m:Nat} {v:List NQ} (V:iX m v) {a:cV} {N X Xe:Nat} {e:Nat→QR.T} (hM:xm X Xe N e a) (hX:1≤X)
include hM hX
theorem AA(h0:v.length=2){σ:QR.T}(hd:σ*σ=dq v){E G τ:QR.T}(hE:E*G=1)(hB:bZ.Z 49 (E*E*fs σ (dF v)))(zE:bZ.Z 24 E)(zt:bZ.Z 8 τ)(zs:bZ.Z 8 (σ*τ))(ht: ∃t,τ*t=1):
  mR (IP.FI bZ hE hB) (Kf hd V h0) (X+40) N e ⟨a,[],1,[1]⟩:=by
 refine⟨fun i hi=>?_,by rw[(Kf hd V h0).one];exact xm.gX _ (by omega)⟩;obtain ⟨D,d0,d1,d2⟩:=hM.r i hi;refine⟨D*(E*τ),⟨b7 (bt d1 (bt (X:=24) (Y:=8) zE zt)) (by omega),?_⟩,fun j hj=>?_⟩
 · obtain ⟨u,hu⟩:=lp d0;obtain ⟨t,ht⟩:=ht;exact⟨u*(G*t),by rw[show D*(E*τ)*(u*(G*t))=D*u*(E*G)*(τ*t) from Rg.bG [D,E,τ,u,G,t] (X0*(X1*X2)*(X3*(X4*X5))) (X0*X3*(X1*X4)*(X2*X5)) rfl,hu,hE,ht,Rg.mul_one,Rg.mul_one]⟩
 · have d2:=d2 j hj;have c0:((Kf hd V h0).φ (bk a i j)).1=ck (bk a i j) 0+σ*ck (bk a i j) 1:=rfl;have c1:((Kf hd V h0).φ (bk a i j)).2=ck (bk a i j) 2+σ*ck (bk a i j) 3:=rfl
   dsimp only
   generalize (Kf hd V h0).φ (bk a i j)=z at c0 c1;have g0:=d2 0;have g1:=d2 1;have g2:=d2 2;have g3:=d2 3;generalize ck (bk a i j) 0=x0 at *;generalize ck (bk a i j) 1=x1 at *;generalize ck (bk a i j) 2=x2 at *;generalize ck (bk a i j) 3=x3 at *;constructor
   · rw[fH,c0,show (x0+σ*x1)*(D*(E*τ)*e j)=x0*(D*e j)*(E*τ)+x1*(D*e j)*(E*(σ*τ)) from Rg.bG [x0,σ,x1,D,E,τ,e j] ((X0+X1*X2)*(X3*(X4*X5)*X6)) (X0*(X3*X6)*(X4*X5)+X2*(X3*X6)*(X4*(X1*X5))) rfl];exact b7 (B9 (bt g0 (bt (X:=24) (Y:=8) zE zt)) (bt g1 (bt (X:=24) (Y:=8) zE zs))) (by omega)
   · rw[k9,c1,show (x2+σ*x3)*(D*(E*τ)*e j)*G=(x2*(D*e j)*τ+x3*(D*e j)*(σ*τ))*(E*G) from Rg.bG [x2,σ,x3,D*e j,E,τ,G] ((X0+X1*X2)*(X3*(X4*X5))*X6) ((X0*X3*X5+X2*X3*(X1*X5))*(X4*X6)) rfl |> (show (x2+σ*x3)*(D*(E*τ)*e j)*G=(x2+σ*x3)*(D*e j*(E*τ))*G from Rg.bG [x2+σ*x3,D,E*τ,e j,G] (X0*(X1*X2*X3)*X4) (X0*(X1*X3*X2)*X4) rfl).trans,hE,Rg.mul_one];exact b7 (B9 (bt g2 zt) (bt g3 zs)) (by omega)
variable (hr:dk N a) (hl:rB v.length a) (hx:Xe≤X)
include V hr hl hx
theorem xM(h0:v.length=2)(hρ:dm 8 v){s:QR.T}(hs:(0:Rat)<s)(hd:s*s=dq v):tA v a N (Fz X Xe):=by
 have ls:LQ s≤8:=by
  have h1:=JV (s:=(s:Rat));have h2:LQ (dq v)≤8:=hρ 0 0;rw[← hd] at h2;exact Nat.le_trans h1 h2
 have ls':LQ (-s)≤8:=by
  have h1:=Af (s:Rat);have h1:LQ (-s)=LQ s:=h1;omega
 obtain ⟨E,G,τ,hE,hB,zE,zt,zs,ht⟩:=AB hρ ls;obtain ⟨E',G',τ',hE',hB',zE',zt',zs',ht'⟩:=AB hρ ls';have st:=AA V hM hX h0 hd hE hB zE zt zs ht;have st':=AA V hM hX h0 (vA hd) hE' hB' zE' zt' zs' ht';have he: ∀j,j<N→bZ.U Xe (e j):=fun j hj=>⟨(hM.e j hj).1,lp (hM.e j hj).2⟩;have r1:=sL.of (I:=IP.FI bZ hE hB) he (mR.red (K:=168) V.a (Eo V h0 hs hd) hr hl he (by omega) st (show 50+50+2≤168 by decide));have r2:=sL.of (I:=IP.FI bZ hE' hB') he (mR.Nj (K:=168) (kk:=100) (I':=IP.FI bZ hE hB) (I:=IP.FI bZ hE' hB') V.a rfl (Eo V h0 hs hd) (Hv V h0 hs hd) hr hl he (by omega) st st' (show 50+50+2≤168 by decide) (show 50+0+0≤100 by decide) (show 50+50+0≤100 by decide) (show 100+50+2≤168 by decide));refine(r1.and r2).sz V.a hr hl (fun p=>by unfold Fz;omega) fun p b hb h=>qh hb (by unfold Fz;omega) fun i hi=>?_;rw[h0] at hi;have hi:i<4:=hi;obtain ⟨h1,h2⟩:=h;obtain ⟨a1,a2⟩:=iz.M1 hE hB zE h1;obtain ⟨b1,b2⟩:=iz.M1 hE' hB' zE' h2;obtain ⟨S,hS⟩: ∃S:Rat,S=s:=⟨_,rfl⟩;have k1:=Ei (p:=cf b 0) (q:=cf b 1) (S:=s) hs a1 b1 ls;have k2:=Ei (p:=cf b 2) (q:=cf b 3) (S:=s) hs a2 b2 ls;have hac:(IP.FI bZ hE hB).a.c=0:=rfl;have hac':(IP.FI bZ hE' hB').a.c=0:=rfl;rw[hac,hac'] at k1 k2;rcases i with _ | _ | _ | _ | i
 · refine Nat.le_trans k1.1 ?_;unfold Fz;omega
 · refine Nat.le_trans k1.2 ?_;unfold Fz;omega
 · refine Nat.le_trans k2.1 ?_;unfold Fz;omega
 · refine Nat.le_trans k2.2 ?_;unfold Fz;omega
 · omega
theorem AO(l2:v.length≤2)(hρ:dm 16 v)(hρ2:v.length=2→dm 8 v):tA v a N (Fz X Xe):=by
 by_cases h0:v.length=0
 · exact E7 V hr hl hM hX hx h0
 by_cases h1:v.length=1
 · exact E6 V hr hl hM hX hx h1 hρ
 have h2:v.length=2:=by omega
 by_cases hs: ∃s:QR.T,s≠0∧s*s=dq v
 · obtain ⟨s,hs0,hd⟩:=hs;by_cases hp:(0:Rat)<s
   · exact xM V hM hX hr hl hx h2 (hρ2 h2) hp hd
   · refine xM V hM hX hr hl hx h2 (hρ2 h2) (s:= -s) ?_ (vA hd);change Rat at s;have hs0:s≠0:=hs0;show 0< -s
     grind
 · exact E5 V hr hl hM hX hx h2 (hρ2 h2) hs
end
end Lift
namespace Lift
def cq(x:Rat):QR.T:=x
def gU(X:Nat)(D:QR.T)(z:Cf):Prop:= ∀i,bZ.Z X (cq (z i)*D)
theorem Al(X:Nat):bZ.Z X (0:QR.T):=Zq.zero X
theorem LY{X:Nat}{x:QR.T}(h:bZ.Z X x):bZ.Z X (-x):=Zq.neg h
theorem Iw:bZ.Z 1 (1:QR.T):=Zq.one
theorem cR{x y:QR.T}(hx:x≠0)(hy:y≠0):x*y≠0:=fun e=>by
 rcases EK e with g | g
 · exact hx g
 · exact hy g
theorem oI:(1:QR.T)≠0:=fun e=>absurd (show (1:Rat)=0 from e) (by decide)
theorem gU.mono{X Y:Nat}{D:QR.T}{z:Cf}(h:gU X D z)(hx:X≤Y):gU Y D z:=fun i=>b7 (h i) hx
theorem gU.scale{X Y:Nat}{D t:QR.T}{z:Cf}(h:gU X D z)(ht:bZ.Z Y t):gU (X+Y) (D*t) z:=fun i=>by
 rw[← Rg.mul_assoc];exact bt (h i) ht
theorem gU.KQ{X Y:Nat}{D t:QR.T}{z:Cf}(h:gU X D z)(ht:bZ.Z Y t):gU (X+Y) (t*D) z:=by
 rw[Rg.mul_comm];exact h.scale ht
theorem gU.zero(X:Nat)(D:QR.T):gU X D zC:=fun i=>by
 show bZ.Z X ((0:QR.T)*D);rw[Rg.zero_mul];exact Al X
theorem gU.add{X:Nat}{D:QR.T}{x y:Cf}(hx:gU X D x)(hy:gU X D y):gU (X+1) D (fun i=>x i+y i):=fun i=>by
 show bZ.Z (X+1) ((cq (x i)+cq (y i))*D);rw[Rg.add_mul];exact B9 (hx i) (hy i)
theorem gU.sub{X:Nat}{D:QR.T}{x y:Cf}(hx:gU X D x)(hy:gU X D y):gU (X+1) D (fun i=>x i-y i):=fun i=>by
 show bZ.Z (X+1) (cq (x i-y i)*D);rw[show cq (x i-y i)=cq (x i)+ -cq (y i) from Rat.sub_eq_add_neg ..,Rg.add_mul,Rg.neg_mul];exact B9 (hx i) (LY (hy i))
theorem gU.neg{X:Nat}{D:QR.T}{x:Cf}(hx:gU X D x):gU X D (fun i=> -x i):=fun i=>by
 show bZ.Z X (-cq (x i)*D);rw[Rg.neg_mul];exact LY (hx i)
theorem gU.hi{X:Nat}{D:QR.T}{x:Cf}(l:Nat)(hx:gU X D x):gU X D (bw l x):=fun i=>hx _
def Rl(u:Nat):Nat→Nat
 | 0=>1
 | l+1=>Rl u l+Rl u l+u+1
def NK(u:Nat)(v:List NQ):Prop:= ∀j,j<v.length→ ∃B:QR.T,B≠0∧bZ.Z u B∧gU u B (cf (v.getD j []))
theorem gU.mul{u:Nat}{v:List NQ}(hv:NK u v): ∀l,l≤v.length→ ∃ρ:QR.T,ρ≠0∧bZ.Z (Rl u l) ρ∧ ∀(X Y:Nat) (D E:QR.T) (x y:Cf),gU X D x→gU Y E y→gU (X+Y+Rl u l) (D*E*ρ) (mulC v l x y)
 | 0,_=>⟨1,oI,Iw,fun X Y D E x y hx hy i=>by
   rw[Rg.mul_one];show bZ.Z (X+Y+1) (cq (if i=0 then x 0*y 0 else 0)*(D*E));split
   · show bZ.Z (X+Y+1) (cq (x 0)*cq (y 0)*(D*E));rw[show cq (x 0)*cq (y 0)*(D*E)=cq (x 0)*D*(cq (y 0)*E) from Rg.bG [cq (x 0),cq (y 0),D,E] (X0*X1*(X2*X3)) (X0*X2*(X1*X3)) rfl];exact b7 (bt (hx 0) (hy 0)) (by omega)
   · show bZ.Z (X+Y+1) ((0:QR.T)*(D*E))
     rw[Rg.zero_mul];exact Al _⟩
 | l+1,hl=>by
   obtain ⟨ρ,r0,rz,ih⟩:=gU.mul hv l (by omega);obtain ⟨B,b0,bz,hB⟩:=hv l (by omega);have er:Rl u (l+1)=Rl u l+Rl u l+u+1:=rfl;refine⟨ρ*(ρ*B),cR r0 (cR r0 b0),b7 (bt rz (bt rz bz)) (by omega),fun X Y D E x y hx hy i=>?_⟩;have h1:=ih X Y D E x y hx hy;have h2:=ih X Y D E _ _ (hx.hi l) (hy.hi l);have h3:=ih _ u _ B _ _ h2 hB;have h4:=ih X Y D E _ _ hx (hy.hi l);have h5:=ih X Y D E _ _ (hx.hi l) hy;have s:=bt rz bz;rw[show D*E*(ρ*(ρ*B))=D*E*ρ*(ρ*B) from (Rg.mul_assoc _ _ _).symm];show bZ.Z _ (cq (if i<2^l then mulC v l x y i+mulC v l (mulC v l (bw l x) (bw l y)) (cf (v.getD l [])) i else mulC v l x (bw l y) (i-2^l)+mulC v l (bw l x) y (i-2^l))*(D*E*ρ*(ρ*B)));split
   · have a1:=h1.scale s i;have a2:=h3 i;rw[show D*E*ρ*B*ρ=D*E*ρ*(ρ*B) from Rg.bG [D*E*ρ,B,ρ] (X0*X1*X2) (X0*(X2*X1)) rfl] at a2;show bZ.Z _ ((cq (mulC v l x y i)+cq (mulC v l (mulC v l (bw l x) (bw l y)) (cf (v.getD l [])) i))*_);rw[Rg.add_mul];exact b7 (B9 (b7 a1 (show X+Y+Rl u l+(Rl u l+u)≤X+Y+Rl u l+u+Rl u l by omega)) a2) (by omega)
   · have a1:=h4.scale s (i-2^l);have a2:=h5.scale s (i-2^l);show bZ.Z _ ((cq (mulC v l x (bw l y) (i-2^l))+cq (mulC v l (bw l x) y (i-2^l)))*_);rw[Rg.add_mul];exact b7 (B9 a1 a2) (by omega)
theorem vB(v:List NQ)(q:Rat): ∀(l:Nat) (x:Cf),mulC v l x (qq q)=fun i=>if i<2^l then x i*q else 0
 | 0,x=>funext fun i=>by
   show (if i=0 then x 0*q else 0)=if i<1 then x i*q else 0
   by_cases h:i=0
   · rw[if_pos h,if_pos (by omega),h]
   · rw[if_neg h,if_neg (by omega)]
 | l+1,x=>funext fun i=>by
   have hz:bw l (qq q)=zC:=funext fun k=>by
    have:0<2^l:=Nat.pow_pos (by decide);exact if_neg (by omega)
   have z1:mulC v l (mulC v l (bw l x) (bw l (qq q))) (cf (v.getD l []))=zC:=by
    rw[hz,bW v l (a:=bw l x) (b:=zC) (.inr fun _ _=>rfl),bW v l (a:=zC) (.inl fun _ _=>rfl)]
   have z2:mulC v l x (bw l (qq q))=zC:=by
    rw[hz,bW v l (a:=x) (b:=zC) (.inr fun _ _=>rfl)]
   show (if i<2^l then mulC v l x (qq q) i+mulC v l (mulC v l (bw l x) (bw l (qq q))) (cf (v.getD l [])) i else mulC v l x (bw l (qq q)) (i-2^l)+mulC v l (bw l x) (qq q) (i-2^l))=_;rw[z1,z2,vB v q l x,vB v q l (bw l x)];have e:2^(l+1)=2^l+2^l:=by rw[Nat.pow_succ];omega
   by_cases h:i<2^l
   · rw[if_pos h,if_pos (by omega)]
     dsimp only
     rw[if_pos h];exact Rat.add_zero _
   · rw[if_neg h];show (0:Rat)+(if i-2^l<2^l then x (2^l+(i-2^l))*q else 0)=_;rw[Rat.zero_add,show 2^l+(i-2^l)=i by omega];by_cases h2:i<2^(l+1)
     · rw[if_pos h2,if_pos (by omega)]
     · rw[if_neg h2,if_neg (by omega)]
theorem Lt(q:Rat):cf (rU q)=qq q:=by
 unfold rU;split
 · rename_i h;rw[h]
   exact funext fun i=>by
    show (0:Rat)=if i=0 then 0 else 0
    split<;>rfl
 · exact Dk q
def CZ(X:Nat)(D:QR.T)(a:NQ):Prop:=gU X D (cf a)
section
variable {m:Nat} {v:List NQ} (V:iX m v) {X Y:Nat} {D E t:QR.T} {a b:NQ} (ha:ay v.length a)
include V ha
omit V in
theorem CZ.add(hb:ay v.length b)(h:CZ X D a)(g:CZ X D b):CZ (X+1) D (wu a b):=by
 unfold CZ wu;rw[bc (ha.plus hb),show cf (aX a b)=fun i=>cf a i+cf b i from funext fun i=>dW a b i];exact gU.add h g
omit V in
theorem CZ.sub(hb:ay v.length b)(h:CZ X D a)(g:CZ X D b):CZ (X+1) D (gm a b):=by
 unfold CZ;rw[EB ha hb];exact gU.sub h g
omit V in
theorem CZ.neg(h:CZ X D a):CZ X D (kr a):=by
 unfold CZ kr;rw[bc ha.minus,show cf (aZ a)=fun i=> -cf a i from funext fun i=>iu a i];exact gU.neg h
theorem CZ.Jh{q:Rat}(hq:bZ.Z Y (cq q*t))(h:CZ X D a):CZ (X+Y) (D*t) (fQ v a (rU q)):=by
 have hb:ay v.length (rU q):=(kZ v.length (ai _)).1;unfold CZ;rw[z9 V ha hb,Lt,vB];intro i
 dsimp only
 split
 · show bZ.Z (X+Y) (cq (cf a i)*cq q*(D*t));rw[show cq (cf a i)*cq q*(D*t)=cq (cf a i)*D*(cq q*t) from Rg.bG [cq (cf a i),cq q,D,t] (X0*X1*(X2*X3)) (X0*X2*(X1*X3)) rfl];exact bt (h i) hq
 · show bZ.Z (X+Y) ((0:QR.T)*(D*t));rw[Rg.zero_mul];exact Al _
end
theorem CZ.mul{m u:Nat}{v:List NQ}(V:iX m v)(hv:NK u v): ∃ρ:QR.T,ρ≠0∧bZ.Z (Rl u v.length) ρ∧ ∀(X Y:Nat) (D E:QR.T) (a b:NQ),ay v.length a→ay v.length b→CZ X D a→CZ Y E b→CZ (X+Y+Rl u v.length) (D*E*ρ) (fQ v a b):=by
 obtain ⟨ρ,h0,hz,h⟩:=gU.mul hv v.length (ai _);refine⟨ρ,h0,hz,fun X Y D E a b ha hb ga gb=>?_⟩;unfold CZ;rw[z9 V ha hb];exact h X Y D E _ _ ga gb
theorem CZ.nil(X:Nat)(D:QR.T):CZ X D []:=gU.zero X D
theorem CZ.one{X:Nat}{D:QR.T}(h:bZ.Z X D):CZ X D [1]:=fun i=>by
 rw[Dk];show bZ.Z X (cq (if i=0 then 1 else 0)*D);split
 · show bZ.Z X ((1:QR.T)*D);rw[Rg.one_mul];exact h
 · show bZ.Z X ((0:QR.T)*D);rw[Rg.zero_mul];exact Al X
end Lift
namespace Lift
def jM:List RD→Nat
 | []=>0
 | x::r=>x.n.length+x.d.length+jM r
theorem DG: ∀{r:List RD} {n:Nat},FG r n<100→FG r n=n+jM r
 | [],n,_=>rfl
 | x::r,n,h=>by
   by_cases hn:n<100
   · have e:FG (x::r) n=FG r (n+(x.n.length+x.d.length)):=if_pos hn;rw[e] at h ⊢;rw[DG h];show _=n+(x.n.length+x.d.length+jM r);omega
   · have e:FG (x::r) n=n:=if_neg hn;rw[e] at h;exact absurd h hn
theorem yv: ∀(r:List RD) (i:Nat),(r.getD i default).n.length+(r.getD i default).d.length≤jM r
 | [],i=>ai _
 | x::r,0=>by show x.n.length+x.d.length≤x.n.length+x.d.length+jM r;omega
 | x::r,i+1=>by
   have:=yv r i;show (r.getD i default).n.length+(r.getD i default).d.length≤x.n.length+x.d.length+jM r;omega
theorem f'{r:List RD}(h:dZ r<100):dZ r=jM r:=by
 have:=DG (r:=r) (n:=0) h;unfold dZ;omega
theorem zu(f:Nat→Nat)(n:Nat): ∀k,n≤rX f n k
 | 0=>ai _
 | k+1=>Nat.le_trans (zu f n k) (Nat.le_max_left _ _)
theorem zp(f:Nat→Nat)(n:Nat): ∀{k j:Nat},j<k→f j≤rX f n k
 | k+1,j,h=>by
   show f j≤max (rX f n k) (f k);by_cases e:j=k
   · rw[e];exact Nat.le_max_right _ _
   · exact Nat.le_trans (zp f n (show j<k by omega)) (Nat.le_max_left _ _)
theorem BU(bs:List Body): ∀{i j:Nat},i≤j→ru bs i≤ru bs j
 | i,0,h=>by rw[show i=0 by omega];exact ai _
 | i,j+1,h=>by
   by_cases e:i=j+1
   · rw[e];exact ai _
   · exact Nat.le_trans (BU bs (show i≤j by omega)) (zu _ _ _)
theorem H7(bs:List Body){i k:Nat}(hi:i<bs.length)(hk:k<(bs.getD i default).pts.length):zF ((bs.getD i default).pts.getD k default)≤ru bs bs.length :=
 Nat.le_trans (zp (fun k=>zF ((bs.getD i default).pts.getD k default)) (ru bs i) hk) (BU bs (show i+1≤bs.length by omega))
theorem qE(bs:List gx)(n:Nat): ∀k,n≤nq bs n k
 | 0=>ai _
 | k+1=>by
   have:=qE bs n k;show n≤max (max (max (max (nq bs n k) _) _) _) _;omega
theorem y4(bs:List gx)(n:Nat): ∀{k j:Nat},j<k→dZ (bs.getD j default).c≤nq bs n k∧dZ (bs.getD j default).s≤nq bs n k∧dZ (bs.getD j default).x≤nq bs n k∧dZ (bs.getD j default).y≤nq bs n k
 | k+1,j,h=>by
   have e1:nq bs n (k+1)=max (max (max (max (nq bs n k) (dZ (bs.getD k default).c)) (dZ (bs.getD k default).s)) (dZ (bs.getD k default).x)) (dZ (bs.getD k default).y):=rfl;by_cases e:j=k
   · subst e;rw[e1];omega
   · obtain ⟨h1,h2,h3,h4⟩:=y4 bs n (show j<k by omega);rw[e1];omega
structure EJ (l:Lkg) (a:Asm):Prop where
 r2:a.rt.length≤2
 nb:l.bodies.length≤40
 nb6:l.bodies.length≤6∨8<l.bodies.length
 nj8:l.joints.length≤8∨16<l.joints.length
 nj:l.joints.length≤40
 ab:a.bodies.length≤40
 n:Iq l a+4*a.rt.length≤16
theorem uT{l:Lkg}{a:Asm}(h:k5 l a=false):EJ l a:=by
 unfold k5 at h;rw[Bool.or_eq_false_iff,Bool.or_eq_false_iff] at h;obtain ⟨⟨h1,_⟩,h3⟩:=h;have h1: ¬_:=ar h1;have h3:=ar h3;refine⟨by omega,by omega,by omega,by omega,by omega,by omega,by omega⟩
theorem EJ.pt{l:Lkg}{a:Asm}(S:EJ l a){i k:Nat}(hi:i<l.bodies.length)(hk:k<(l.bodies.getD i default).pts.length):zF ((l.bodies.getD i default).pts.getD k default)+4*a.rt.length≤16:=by
 have h1:=H7 l.bodies hi hk;have h2:=zu (fun i=>dZ (a.rt.getD i [])) (ru l.bodies l.bodies.length) a.rt.length;have h3:=qE a.bodies (rX (fun i=>dZ (a.rt.getD i [])) (ru l.bodies l.bodies.length) a.rt.length) a.bodies.length;have h4:=S.n;unfold Iq at h4;omega
theorem EJ.root{l:Lkg}{a:Asm}(S:EJ l a){i:Nat}(hi:i<a.rt.length):jM (a.rt.getD i [])+4*a.rt.length≤16:=by
 have h2:=zp (fun i=>dZ (a.rt.getD i [])) (ru l.bodies l.bodies.length) hi;have h3:=qE a.bodies (rX (fun i=>dZ (a.rt.getD i [])) (ru l.bodies l.bodies.length) a.rt.length) a.bodies.length;have h4:=S.n;unfold Iq at h4;have h5:dZ (a.rt.getD i [])+4*a.rt.length≤16:=by omega
 rw[f' (by omega)] at h5;exact h5
theorem EJ.pl{l:Lkg}{a:Asm}(S:EJ l a){i:Nat}(hi:i<a.bodies.length):jM (a.bodies.getD i default).c+4*a.rt.length≤16∧jM (a.bodies.getD i default).s+4*a.rt.length≤16∧jM (a.bodies.getD i default).x+4*a.rt.length≤16∧jM (a.bodies.getD i default).y+4*a.rt.length≤16:=by
 obtain ⟨h1,h2,h3,h4⟩:=y4 a.bodies (rX (fun i=>dZ (a.rt.getD i [])) (ru l.bodies l.bodies.length) a.rt.length) hi;have h5:=S.n;unfold Iq at h5;rw[← f' (r:=(a.bodies.getD i default).c) (by omega),← f' (r:=(a.bodies.getD i default).s) (by omega),← f' (r:=(a.bodies.getD i default).x) (by omega),← f' (r:=(a.bodies.getD i default).y) (by omega)];omega
theorem Ap{a:List RD}{k:Nat}(ha:tV a)(h:jM a≤k):wN k a:=fun i _=>by
 have h1:=yv a i;obtain ⟨w1,w2,_,_⟩:=ha.2 i;exact⟨w1,w2,by omega,by omega⟩
theorem EJ.lok{l:Lkg}{a:Asm}{K:Nat}(S:EJ l a)(hl:l.ok K):l.ok 16:=by
 refine⟨hl.nm,hl.nb,hl.nj,hl.nd,fun i=>⟨(hl.b i).1,(hl.b i).2.1,fun k=>?_⟩,hl.j,hl.d⟩;obtain ⟨h1,h2,h3⟩:=(hl.b i).2.2 k;refine⟨h1,?_⟩
 have hw:zF ((l.bodies.getD i default).pts.getD k default)≤16:=by
  by_cases hi:i<l.bodies.length
  · by_cases hk:k<(l.bodies.getD i default).pts.length
    · have:=S.pt hi hk;omega
    · rw[aN,List.getElem?_eq_none (by omega)];exact Nat.zero_le _
  · rw[show l.bodies.getD i default=default by rw[aN,List.getElem?_eq_none (by omega)];rfl];exact Nat.zero_le _
 unfold zF at hw;exact⟨⟨h2.1,h2.2.1,by omega,by omega⟩,⟨h3.1,h3.2.1,by omega,by omega⟩⟩
theorem EJ.aok{l:Lkg}{a:Asm}(S:EJ l a)(ha:AsB a):a.ok 16:=by
 have hr:=S.r2;refine⟨⟨⟨16,by decide,ai _,fun i hi _=>Ap (ha.r i) (by have:=S.root hi;omega),fun _=>I7 hr (by decide)⟩,by decide,by omega,fun i _=>(ha.r i).1⟩,fun i hi=>?_,by have:=S.ab;omega⟩;obtain ⟨h1,h2,h3,h4⟩:=S.pl hi;exact⟨⟨fun _=>Ap (ha.c i) (by omega),(ha.c i).1⟩,⟨fun _=>Ap (ha.s i) (by omega),(ha.s i).1⟩,⟨fun _=>Ap (ha.x i) (by omega),(ha.x i).1⟩,⟨fun _=>Ap (ha.y i) (by omega),(ha.y i).1⟩⟩
end Lift
namespace Lift
open Go Go.Proofs
theorem qs(n:Nat)(r:D)(hn:n≤4611686018427387904)(h1: ∀i:Nat,i≤5→n=2^i→r= .tu [dI i,dB true])(h2:(∀i:Nat,i≤5→n≠2^i)→r= .tu [dI 0,dB false]):Pure Tryz.prog 113 [dI n] r:=by
 refine qJ 14 Tryz.func113 rfl rfl rfl rfl (by kernel_rfl) (fun B0 F0 w0=>?_);refine qX 2 rfl (qI (qX 1 rfl (ae.nil ?_)));refine AW.block (AW.aJ [0,5] (fun k:Nat=>[(0,.d (dI n)),(5,.d (dI k))]) (fun k=>k≤6∧ ∀j,j<k→n≠2^j) (fun k=>6-k) 0 rfl ⟨Nat.zero_le _,fun j hj=>by omega⟩ (fun k ⟨hk,hi⟩=>?_));refine qX 1 rfl ?_;refine qI (AW.cond rfl (fun h=>?_) (fun h=>?_));rotate_left
 · have hkk:k=6:=by have:=ar h;omega
   subst hkk;rw[h2 (fun i hi5=>hi i (by omega))];exact AW.exit (qX 2 rfl (qN rfl))
 have hkk:k<6:=by have:=ak h;omega
 refine AW.skip (AW.seq (AW.block (qX 2 rfl (qK 3 rfl ?_))));rw[AE (by omega)];refine qU 1 rfl (ae.nil ?_);by_cases hp:n=2^k
 · rw[h1 k (by omega) hp,beq_iff_eq.2 (show (n:Int)=((2^k:Nat):Int) by rw[hp])];exact AW.aG rfl (qX 3 rfl (qN rfl))
 rw[beq_eq_false_iff_ne.2 (show (n:Int)≠((2^k:Nat):Int) by omega)];refine AW.aD rfl (AW.skip (qT 1 rfl ?_));rw[aF (x:=(k:Int)+1) (by omega) (by omega)];refine qU 1 rfl (ae.nil ?_)
 exact⟨k+1,rfl,⟨hkk,fun j hj=>by
  by_cases e:j=k
  · rw[e];exact hp
  · exact hi j (by omega)⟩,by omega⟩
theorem gd{n i:Nat}(h:n=2^i)(hi:i≤5):Pure Tryz.prog 113 [dI n] (.tu [dI i,dB true]):=by
 have hp:2^i≤2^5:=Nat.pow_le_pow_right (by decide) hi;refine qs n _ (by omega) (fun j hj e=>?_) (fun hn=>absurd h (hn i hi));have h1:=ib (Nat.le_of_eq (h.symm.trans e));have h3:=ib (Nat.le_of_eq (e.symm.trans h));rw[show j=i by omega]
theorem oW{n:Nat}(h: ∀i:Nat,i≤5→n≠2^i)(hn:n≤4611686018427387904):Pure Tryz.prog 113 [dI n] (.tu [dI 0,dB false]) :=
 qs n _ hn (fun i hi e=>absurd e (h i hi)) (fun _=>rfl)
theorem oX(m:Nat)(a:List RD){k:Nat}(hm5:m≤5)(hw:Dq m a→wN k a)(hk:k≤17300000000000)(hl:a.length≤4398046511104):Pure Tryz.prog 66 [dI m,bE a] (dI (bY m a)):=by
 refine qJ 37 Tryz.func66 rfl rfl rfl rfl (by kernel_rfl) (fun B0 F0 w0=>?_);have hno:=fun i hi=>Bi (l:=a) (i:=i) hi;have hyes:=xR (l:=a);unfold bY;generalize kQ a=E at hno hyes ⊢
 obtain ⟨x,ok,cp,hok⟩: ∃(x:Nat) (ok:Bool),Pure Tryz.prog 113 [dI a.length] (.tu [dI x,dB ok])∧((ok=false∨m<x)↔CO m a.length=false):=by
  by_cases hp: ∃i,i≤5∧a.length=2^i
  · obtain ⟨i,hi,hp⟩:=hp;refine⟨i,true,gd hp hi,?_⟩;rw[hp,zG];constructor
    · rintro (h | h)
      · cases h
      · exact a9 (by omega)
    · intro h;right;have:=ar h;omega
  · refine⟨0,false,oW (fun i hi e=>hp ⟨i,hi,e⟩) (by omega),?_⟩;constructor
    · intro _;cases hv:CO m a.length
      · rfl
      · obtain ⟨i,h1,h2⟩:=G8 hv;exact absurd ⟨i,by omega,h2⟩ hp
    · intro _;exact .inl rfl
 refine qX 1 rfl (qK 2 rfl ?_);rw[ah];refine ae.call tok rfl rfl rfl rfl cp (qU 5 rfl (ae.nil ?_));refine AW.cut [1] (fun _:Unit=>[(1,.d (bE a))]) (fun _=> ¬(a.length≠0∧CO m a.length=false)) ?_ (fun _ hs=>?_)
 · refine qX 2 rfl ?_;rw[ah];refine qU 1 rfl ?_;by_cases h0:a.length=0
   · rw[bne_eq_false_iff_eq.2 (show (a.length:Int)=0 by omega)];refine qU 9 rfl (ae.nil (AW.aD rfl (AW.skip ?_)));exact⟨(),rfl,fun h=>h.1 h0⟩
   rw[bne_iff_ne.2 (show (a.length:Int)≠0 by omega)];cases ok with
   | false =>
     have hb:=hok.1 (.inl rfl);rw[if_pos ⟨h0,hb⟩];exact qU 9 rfl (ae.nil (AW.aG rfl (qX 1 rfl (qN rfl))))
   | true =>
   refine qU 7 rfl ?_;by_cases hx:(m:Int)<(x:Int)
   · rw[aO hx,if_pos ⟨h0,hok.1 (.inr (by omega))⟩];exact qU 2 rfl (ae.nil (AW.aG rfl (qX 1 rfl (qN rfl))))
   · rw[a9 hx];refine qU 2 rfl (ae.nil (AW.aD rfl (AW.skip ?_)))
     exact⟨(),rfl,fun h=>by
      rcases hok.2 h.2 with e | e
      · cases e
      · omega⟩
 rw[if_neg hs];have hw:=hw hs;show AW _ _ _ _ _ _ _ [(1,.d (bE a))];refine AW.seq (qX 2 rfl ?_);rw[ah];refine qU 1 rfl (ae.nil ?_);refine AW.block (AW.aJ [27,28,29] (fun i:Nat=>[(27,.d (bE a)),(28,.d (dI a.length)),(29,.d (dI i))]) (fun i=>i≤a.length∧ ∀j,j<i→(a.getD j default).okB=true) (fun i=>a.length-i) 0 rfl ⟨Nat.zero_le _,fun j hj=>by omega⟩ (fun i ⟨hi,hall⟩=>?_));refine qX 1 rfl ?_;refine qI (AW.cond rfl (fun h=>?_) (fun h=>?_));rotate_left
 · have hii:i=a.length:=by have:=ar h;omega
   subst hii;rw[hyes hall,if_neg (by simp)];exact AW.exit (qX 1 rfl (qN rfl))
 have hii:i<a.length:=by have:=ak h;omega
 have hg:=getM RD.D (l:=a) (i:=i) hii;have hno:=hno i hii;have cv:=jQ (a.getD i default) (hw i hii) (by omega);refine AW.skip (AW.seq (AW.block (AW.seq (AW.region (ae.idx tok (a.getD i default).D rfl rfl rfl rfl (aj i) hg ?_)))));refine qU 3 rfl (qK 1 rfl (ae.call tok rfl rfl rfl rfl cv (qU 1 rfl ?_)));cases hv:(a.getD i default).okB with
 | false =>
   rw[hno hv,if_pos rfl];exact ae.nil (AW.aG rfl (qX 1 rfl (qN rfl)))
 | true =>
 refine ae.nil (AW.aD rfl (AW.skip (qT 1 rfl ?_)));rw[aF (x:=(i:Int)+1) (by omega) (by omega)];refine qU 1 rfl (ae.nil ?_)
 exact⟨i+1,rfl,⟨hii,fun j hj=>by
  by_cases e:j=i
  · subst e;exact hv
  · exact hall j (by omega)⟩,by omega⟩
theorem qt(a:NQ)(hl:a.length≤1000000):Pure Tryz.prog 155 [aq a] (dB (bC a)):=by
 refine qJ 26 Tryz.func155 rfl rfl rfl rfl (by kernel_rfl) (fun B F0 w0=>?_);have hno:=fun i hi=>uE (a:=a) (i:=i) hi;have hyes:=rE (a:=a);generalize bC a=E at hno hyes ⊢;refine qX 1 rfl (qI (qX 2 rfl ?_));rw[ah];refine qU 1 rfl (ae.nil (AW.block ?_));refine AW.aJ [5,6,7] (fun i:Nat=>[(5,.d (aq a)),(6,.d (dI a.length)),(7,.d (dI i))]) (fun i=> ∀j,j<i→j<a.length→a.getD j 0=0) (fun i=>a.length-i) 0 rfl (fun j h=>by omega) (fun i hi=>?_)
 · show AW _ _ _ _ _ _ _ [(5,.d (aq a)),(6,.d (dI a.length)),(7,.d (dI i))];refine qX 1 rfl (qI (AW.cond rfl (fun h=>?_) (fun h=>?_)))
   · have hii:i<a.length:=by have:=ak h;omega
     have g:=mP hii;have hn:=hno i hii;have s0:=Ij (a.getD i 0);generalize hq:a.getD i 0=q at g hn s0;generalize Qr q=y at g s0;obtain ⟨yg,yn,yd⟩:=y;simp only[] at s0;refine AW.skip (AW.seq (AW.block (AW.seq (AW.region (ae.idx tok (RD.mk yg yn yd).D rfl rfl rfl rfl (aj i) g ?_)))));refine qU 3 rfl (qK 3 rfl ?_);cases yg with
     | true =>
       refine qU 11 rfl (ae.nil (AW.aG rfl ?_));rw[hn (fun e=>by have:=s0.2 e;cases this.1)];exact qX 1 rfl (qN rfl)
     | false =>
     refine qU 3 rfl ?_;rw[a8];refine qU 1 rfl ?_;by_cases h1:yn.length=0;rotate_left
     · rw[bne_iff_ne.2 (show (yn.length:Int)≠0 by omega)];refine qU 7 rfl (ae.nil (AW.aG rfl ?_));rw[hn (fun e=>by have:=(s0.2 e).2.1;omega)];exact qX 1 rfl (qN rfl)
     rw[bne_eq_false_iff_eq.2 (show (yn.length:Int)=0 by omega)];refine qU 5 rfl ?_;rw[a8];refine qU 1 rfl ?_;by_cases h2:yd.length=0;rotate_left
     · rw[bne_iff_ne.2 (show (yd.length:Int)≠0 by omega)];refine qU 1 rfl (ae.nil (AW.aG rfl ?_));rw[hn (fun e=>by have:=(s0.2 e).2.2;omega)];exact qX 1 rfl (qN rfl)
     rw[bne_eq_false_iff_eq.2 (show (yd.length:Int)=0 by omega)];refine qU 1 rfl (ae.nil (AW.aD rfl (AW.skip (qT 1 rfl ?_))));rw[aF (x:=(i:Int)+1) (by omega) (by omega)];refine qU 1 rfl (ae.nil ?_);refine⟨i+1,rfl,fun j h1 h2=>?_,by omega⟩;by_cases e:j=i
     · rw[e,hq];exact s0.1 ⟨rfl,by omega,by omega⟩
     · exact hi j (by omega) h2
   have hii: ¬i<a.length:=by have:=ar h;omega
   rw[hyes (fun j h=>hi j (by omega) h)];exact AW.exit (qX 1 rfl (qN rfl))
theorem sW(a:NQ){k:Nat}(hs:aB k a)(hk:k≤17300000000000)(hl:a.length≤1000000):Pure Tryz.prog 71 [aq a] (aq (aZ a)):=by
 refine qJ 19 Tryz.func71 rfl rfl rfl rfl (by kernel_rfl) (fun B0 F0 w0=>?_);refine qX 1 rfl (qK 1 rfl (qI (qX 2 rfl ?_)));rw[ah];refine qU 1 rfl (ae.nil ?_);refine AW.block (AW.aJ [3,6,7,8] (fun i:Nat=>[(3,.ow 68 (fr (aZ (a.take i)))),(6,.d (aq a)),(7,.d (dI a.length)),(8,.d (dI i))]) (fun i=>i≤a.length) (fun i=>a.length-i) 0 rfl (Nat.zero_le _) (fun i hi=>?_));refine qX 1 rfl ?_;refine qI (AW.cond rfl (fun h=>?_) (fun h=>?_));rotate_left
 · have hii:i=a.length:=by have:=ar h;have:i≤a.length:=hi;omega
   subst hii;rw[List.take_length];exact AW.exit (qX 2 rfl (qN rfl))
 have hii:i<a.length:=by have:=ak h;omega
 have g:=mP hii;have cn:=vb (Qr (a.getD i 0)) (iy _ (hs i)) hk;rw[dc] at cn;have htk:=uR a 0 hii;have hol:(aZ (a.take i)).length=i:=by rw[gq,bb];omega
 have hms:aZ (a.take (i+1))=aZ (a.take i)++[-a.getD i 0]:=by
  rw[htk];unfold aZ;rw[List.map_append];rfl
 generalize aZ (a.take i)=M at hol hms ⊢;generalize a.getD i 0=q at g cn hms;refine AW.skip (AW.seq (AW.block (AW.seq (AW.region (ae.idx tok (Qr q).D rfl rfl rfl rfl (aj i) g ?_)))));refine qU 3 rfl (ae.nil (qT 2 rfl (ae.call tok rfl rfl rfl rfl cn (ae.bs tok rfl rfl rfl rfl ?_))));refine ae.lP tok rfl rfl rfl rfl rfl rfl (by rw[ah,hol];show (_+1)*56≤_;omega) (by rw[ah,hol];show _+1≤_;omega) ?_;refine qU 1 rfl (ae.nil (qT 1 rfl ?_));rw[aF (x:=(i:Int)+1) (by omega) (by omega)];refine qU 1 rfl (ae.nil ?_);exact⟨i+1,by show _=([(3,.ow 68 (fr (aZ (a.take (i+1))))),(6,.d (aq a)),(7,.d (dI a.length)),(8,.d (dI (i+1:Nat)))]:St);rw[hms,fr,fr,List.map_append];rfl,hii,by omega⟩
end Lift
namespace Lift
open Go Go.Proofs
theorem jP(a:NQ){l:Nat}(ha:ay l a)(hl:l≤5):Pure Tryz.prog 114 [aq a] (aq (aA a)):=by
 refine qJ 43 Tryz.func114 rfl rfl rfl rfl (by kernel_rfl) (fun B0 F0 w0=>?_);have hl10:=ha.len (by omega);rcases ha with h0 | ⟨i,hi,hai⟩
 · obtain rfl:a=[]:=List.length_eq_zero_iff.1 h0;have cp:=oW (n:=0) (fun i _=>by have:=Nat.two_pow_pos i;omega) (by decide);refine qX 1 rfl (qK 2 rfl (ae.call tok rfl rfl rfl rfl cp (qU 5 rfl (qI (qX 2 rfl (ae.nil (AW.aG rfl (qX 2 rfl ?_))))))));refine ae.nT tok rfl rfl rfl rfl (by decide) ?_;exact qU 1 rfl (qN rfl)
 have cp:=gd hai (by omega);have hp:=Nat.two_pow_pos i;have hE:aA a=iG i a:=by unfold aA;rw[if_neg (by omega),hai,Nat.log2_two_pow]
 rw[hE];refine qX 1 rfl (qK 2 rfl ?_);rw[ah];refine ae.call tok rfl rfl rfl rfl cp (qU 5 rfl (qI (qX 2 rfl (ae.nil (AW.aD rfl (AW.skip (qX 2 rfl ?_)))))));rw[ah,hai];refine qU 1 rfl (qI (AW.block ?_));refine AW.aJ [0,5] (fun j:Nat=>[(0,.d (aq a)),(5,.d (dI (2^j:Nat)))]) (fun j=>j≤i∧iG j a=iG i a) (fun j=>j) i rfl ⟨ai _,rfl⟩ (fun j hj=>?_);obtain ⟨hj,hjE⟩:=hj;show AW _ _ _ _ _ _ _ [(0,.d (aq a)),(5,.d (dI (2^j:Nat)))];have hpj:2^j≤2^i:=Nat.pow_le_pow_right (by decide) hj;have hpp:=Nat.two_pow_pos j;refine AW.seq (qX 2 rfl ?_);rcases j with _ | j
 · refine qU 8 rfl (ae.nil (AW.aD rfl (AW.exit (AW.seq (qX 4 rfl ?_)))));refine ae.gW tok (a:=a) (a.take 1) rfl rfl rfl rfl trivial (show (0:Int)≤1 by decide) (Nat.zero_le _) (show 1≤a.length by omega) rfl ?_;refine ae.call tok rfl rfl rfl rfl (qt (a.take 1) (by rw[bb];omega)) ?_;refine qU 1 rfl (ae.nil ?_);rw[← hjE];unfold iG;cases hz:bC (a.take 1) with
   | true =>
     rw[if_pos rfl];exact AW.aG rfl (qX 1 rfl (qN rfl))
   | false =>
     rw[if_neg (by simp)];refine AW.aD rfl (AW.skip (qX 3 rfl ?_));refine ae.gW tok (a:=a) (a.take 1) rfl rfl rfl rfl trivial (show (0:Int)≤1 by decide) (Nat.zero_le _) (show 1≤a.length by omega) rfl ?_;have hq:(a.take 1).length≤1024:=by rw[bb];omega
     refine ae.nT tok rfl rfl rfl rfl (by rw[ah];show _*56≤_;omega) ?_;exact qU 1 rfl (qN rfl)
 have e2:2^(j+1)=2^j*2:=Nat.pow_succ ..;have eh:=lE j;rw[aO (show (1:Int)<((2^(j+1):Nat):Int) by have:=Nat.two_pow_pos j;omega)];refine qU 3 rfl (ae.div tok rfl rfl rfl rfl (by decide) ?_);rw[iF _ (by omega),eh];refine qU 1 rfl ?_;refine ae.gW tok (a:=a) ((a.take (2^(j+1))).drop (2^j)) rfl rfl rfl rfl (aj _) (aj _) (show 2^j≤2^(j+1) by omega) (show 2^(j+1)≤a.length by omega) rfl ?_;refine ae.call tok rfl rfl rfl rfl (qt _ (by rw[List.length_drop,bb];omega)) ?_;refine qU 1 rfl (ae.nil ?_);cases hz:bC ((a.take (2^(j+1))).drop (2^j)) with
 | true =>
   refine AW.aG rfl (AW.skip (AW.block (qT 1 rfl (ae.div tok rfl rfl rfl rfl (by decide) ?_))));rw[iF _ (by omega),eh];refine qU 1 rfl (ae.nil ?_);exact⟨j,rfl,⟨by omega,by rw[← hjE];show _=if bC ((a.take (2^(j+1))).drop (2^j))=true then _ else _;rw[if_pos hz]⟩,by omega⟩
 | false =>
 refine AW.aD rfl (AW.exit (AW.seq (qX 2 rfl ?_)));rw[beq_eq_false_iff_ne.2 (show ((2^(j+1):Nat):Int)≠1 by have:=Nat.two_pow_pos j;omega)];refine qU 5 rfl (ae.nil (AW.aD rfl (AW.skip (qX 3 rfl ?_))));refine ae.gW tok (a:=a) (a.take (2^(j+1))) rfl rfl rfl rfl trivial (aj _) (Nat.zero_le _) (show 2^(j+1)≤a.length by omega) rfl ?_;have hq:(a.take (2^(j+1))).length≤1024:=by rw[bb];omega
 refine ae.nT tok rfl rfl rfl rfl (by rw[ah];show _*56≤_;omega) ?_;refine qU 1 rfl (ae.nil ?_);rw[← hjE];unfold iG;rw[if_neg (by rw[hz];simp)];exact AW.ret rfl
theorem pg(a:NQ):bm a a.length=a:=by
 unfold bm;rw[List.take_length,Nat.sub_self];exact List.append_nil a
theorem uI{a:NQ}{i:Nat}(h:a.length≤i):bm a (i+1)=bm a i++[0]:=by
 unfold bm;rw[List.take_of_length_le h,List.take_of_length_le (by omega),Nat.succ_sub h,List.replicate_succ',List.append_assoc]
theorem kM(a:NQ)(n:Nat)(ha:a.length≤n)(hn:n≤1000000):lU Tryz.prog 117 [aq a,dI n] [] (GR (bm a n)):=by
 refine lU.intro (n:=18) tok Tryz.func117 rfl rfl rfl (Nat.le_of_ble_eq_true rfl) (by kernel_rfl) (fun B F0 w0=>?_);refine AZ.seq (AZ.jx (fun B1 F1 w1=>?_));refine qU 1 rfl (ae.nil ⟨rfl,?_⟩);refine AZ.seq (AZ.jx (fun B1 F1 w1=>?_));refine qU 2 rfl ?_;refine ae.Dn tok rfl rfl rfl rfl (by rw[ah];show _*56≤_;omega) ?_;refine qU 1 rfl (ae.nil ⟨rfl,?_⟩);refine AZ.seq (AZ.block ?_);refine AZ.aJ [1,5] (fun i:Nat=>(([]:List LR),([(1,.d (dI n)),(5,.ow 68 (fr (bm a i)))]:St))) (fun i=>a.length≤i∧i≤n) (fun i=>n-i) a.length (by rw[pg];rfl) ⟨ai _,ha⟩ (fun i hi=>?_)
 · obtain ⟨hi,hin⟩:=hi;show AZ _ _ _ _ _ _ _ [] [(1,.d (dI n)),(5,.ow 68 (fr (bm a i)))];have wl:=bH a i;refine AZ.seq (AZ.seq ?_);refine AZ.jx (fun B1 F1 w1=>?_);refine qU 2 rfl ?_;rw[ah,wl];refine qU 2 rfl (ae.nil ⟨rfl,?_⟩);refine AZ.cond rfl (fun h=>?_) (fun h=>?_)
   · have hii:i<n:=by have:=ak h;omega
     have hs:=uI hi;refine AZ.skip (AZ.block ?_);refine AZ.jx (fun B1 F1 w1=>?_);refine qU 2 rfl (ae.bs tok rfl rfl rfl rfl ?_);refine ae.lP tok rfl rfl rfl rfl rfl rfl (by rw[ah,wl];show (_+1)*56≤_;omega) (by rw[ah,wl];show _+1≤_;omega) ?_;refine qU 1 rfl (ae.nil ⟨rfl,?_⟩);refine⟨i+1,?_,⟨by omega,hii⟩,by omega⟩;rw[hs];show _=(([]:List LR),([(1,.d (dI n)),(5,.ow 68 ((bm a i++[0]).map (fun q=>(Qr q).D)))]:St));rw[List.map_append,List.map_cons,iY];rfl
   have hii:i=n:=by have:=ar h;omega
   subst hii;refine AZ.exit ?_;refine AZ.seq (AZ.jx (fun B1 F1 w1=>?_));refine qU 2 rfl (ae.nil ⟨rfl,?_⟩);refine AZ.iL 4 rfl rfl rfl (fun V=>AZ.ret ⟨.v V,rfl,V,rfl,rfl⟩)
theorem l7(a:NQ)(n:Nat)(ha:a.length≤n)(hn:n≤1000000):Pure Tryz.prog 117 [aq a,dI n] (aq (bm a n)):=by
 refine qJ 18 Tryz.func117 rfl rfl rfl rfl (by kernel_rfl) (fun B F0 w0=>?_);refine qX 1 rfl (qK 2 rfl ?_);refine ae.Dn tok rfl rfl rfl rfl (by rw[ah];show _*56≤_;omega) ?_;refine qU 1 rfl (qI (AW.block ?_));refine AW.aJ [1,5] (fun i:Nat=>[(1,.d (dI n)),(5,.ow 68 (fr (bm a i)))]) (fun i=>a.length≤i∧i≤n) (fun i=>n-i) a.length (by rw[pg];rfl) ⟨ai _,ha⟩ (fun i hi=>?_)
 · obtain ⟨hi,hin⟩:=hi;show AW _ _ _ _ _ _ _ [(1,.d (dI n)),(5,.ow 68 (fr (bm a i)))];have wl:=bH a i;refine AW.seq (qX 2 rfl ?_);rw[ah,wl];refine qU 2 rfl (ae.nil (AW.cond rfl (fun h=>?_) (fun h=>?_)))
   · have hii:i<n:=by have:=ak h;omega
     have hs:=uI hi;refine AW.skip (AW.block (qT 2 rfl (ae.bs tok rfl rfl rfl rfl ?_)));refine ae.lP tok rfl rfl rfl rfl rfl rfl (by rw[ah,wl];show (_+1)*56≤_;omega) (by rw[ah,wl];show _+1≤_;omega) ?_;refine qU 1 rfl (ae.nil ?_);refine⟨i+1,?_,⟨by omega,hii⟩,by omega⟩;rw[hs];show _=([(1,.d (dI n)),(5,.ow 68 ((bm a i++[0]).map (fun q=>(Qr q).D)))]:St);rw[List.map_append,List.map_cons,iY];rfl
   have hii:i=n:=by have:=ar h;omega
   subst hii;exact AW.exit (qX 2 rfl (qN rfl))
theorem ni(a b:NQ){k:Nat}(ha:aB k a)(hb:aB k b)(hk:k≤17300000000000)(hl:a.length≤1000000)(hl2:b.length≤1000000):Pure Tryz.prog 70 [aq a,aq b] (aq (aX a b)):=by
 refine qJ 37 Tryz.func70 rfl rfl rfl rfl (by kernel_rfl) (fun B F0 w0=>?_);obtain ⟨n,hn⟩: ∃n,n=max a.length b.length:=⟨_,rfl⟩;have cw1:=kM a n (by omega) (by omega);have cw2:=kM b n (by omega) (by omega);have l1:=bH a n;have l2:=bH b n;have g1: ∀i,i<n→(bm a n).getD i 0=a.getD i 0:=fun i hi=>by rw[gE,if_pos hi]
 have g2: ∀i,i<n→(bm b n).getD i 0=b.getD i 0:=fun i hi=>by rw[gE,if_pos hi]
 have hpl:(aX a b).length=n:=by rw[j4,hn]
 generalize bm a n=wa at cw1 l1 g1;generalize bm b n=wb at cw2 l2 g2;refine qX 1 rfl (qK 4 rfl ?_);rw[ah,ah];refine qU 2 rfl ?_;rw[Jj,← hn];refine qI (AZ.aw ?_);refine AZ.region ?_;refine ao.cut 2 rfl (fun B1 F1 w1=>?_);refine qU 2 rfl (ae.nil ⟨rfl,?_⟩);refine ao.jw tok [] rfl rfl rfl rfl rfl List.nodup_nil rfl cw1 (fun _ _ _=>Nat.zero_le _) (fun res R1 hP=>?_);obtain ⟨V1,rfl,rfl⟩:=hP;refine ao.cut 2 rfl (fun B1 F1 w1=>?_);refine qU 2 rfl (ae.nil ⟨rfl,?_⟩);refine ao.jw tok [] rfl rfl rfl rfl rfl List.nodup_nil rfl cw2 (fun _ _ _=>Nat.zero_le _) (fun res R1 hP=>?_);obtain ⟨V2,rfl,rfl⟩:=hP;refine ao.cut 2 rfl (fun B1 F1 w1=>?_);refine qU 2 rfl (ae.nil ⟨rfl,?_⟩);refine ao.to [0,1] [(0,.d (.v V1)),(1,.d (.v V2))] rfl ?_;refine ao.fq 0 0 (V:=V1) (av:= .ow 68 (fr wa)) rfl rfl rfl ?_;refine ao.to [0,1] [(0,.ow 68 (fr wa)),(1,.d (.v V2))] rfl ?_;refine ao.fq 1 1 (V:=V2) (av:= .ow 68 (fr wb)) rfl rfl rfl ?_;refine ao.to [0,1] [(0,.ow 68 (fr wa)),(1,.ow 68 (fr wb))] rfl ?_;refine ao.nil (AW.iV tok 1 rfl rfl ?_);refine AW.seq (qX 2 rfl ?_);rw[ah,l1];refine qU 1 rfl (ae.nil (AW.block ?_));refine AW.aJ [0,1,19,20] (fun s:Nat×NQ=>[(0,.ow 68 (fr s.2)),(1,.d (aq wb)),(19,.d (dI n)),(20,.d (dI s.1))]) (fun s=>s.2.length=n∧ ∀j,j<n→s.2.getD j 0=if j<s.1 then a.getD j 0+b.getD j 0 else a.getD j 0) (fun s=>n-s.1) (0,wa) rfl ⟨l1,fun j h=>by rw[if_neg (Nat.not_lt_zero _)];exact g1 j h⟩ (fun s hi=>?_)
 · obtain ⟨i,r⟩:=s;obtain ⟨hrl,hi⟩:=hi;simp only[] at hrl hi;show AW _ _ _ _ _ _ _ [(0,.ow 68 (fr r)),(1,.d (aq wb)),(19,.d (dI n)),(20,.d (dI i))];refine qX 1 rfl (qI (AW.cond rfl (fun h=>?_) (fun h=>?_)))
   · have hii:i<n:=by have:=ak h;omega
     have e1:=mP (r:=r) (i:=i) (by omega);have e2:=mP (r:=wb) (i:=i) (by omega);rw[hi i hii,if_neg (Nat.lt_irrefl _)] at e1;rw[g2 i hii] at e2;have ca:=ve (Qr (a.getD i 0)) (Qr (b.getD i 0)) (iy _ (ha i)) (iy _ (hb i)) hk;rw[dc,dc] at ca;refine AW.skip (AW.seq (AW.block (qX 2 rfl (ae.nil (AW.draw aU 12 (by kernel_rfl) ?_)))));refine qP 4 rfl ?_;refine af.gv tok rfl rfl rfl rfl rfl rfl (aj i) (by rw[ah];show i<_;omega) ?_;refine af.da tok (Qr (a.getD i 0)).D rfl rfl rfl rfl rfl e1 rfl ?_;refine qP 2 rfl (af.idx tok (Qr (b.getD i 0)).D rfl rfl rfl rfl rfl (aj i) e2 ?_);refine qP 1 rfl (af.call tok rfl rfl rfl rfl rfl ca ?_);refine af.gv tok rfl rfl rfl rfl rfl rfl (aj i) (by rw[ah];show i<_;omega) ?_;refine af.nil ?_;refine ae.Cn tok (a.getD i 0+b.getD i 0) rfl rfl rfl (by show i<_;omega) ?_;refine ae.nil (qT 1 rfl ?_);rw[aF (x:=(i:Int)+1) (by omega) (by omega)];refine qU 1 rfl (ae.nil ?_);refine⟨(i+1,r.set i (a.getD i 0+b.getD i 0)),rfl,⟨by rw[List.length_set];exact hrl,fun j h1=>?_⟩,by show n-(i+1)<n-i;omega⟩;show (r.set i (a.getD i 0+b.getD i 0)).getD j 0=if j<i+1 then _ else _
     rw[C0];by_cases e:j=i
     · rw[if_pos ⟨e,by omega⟩,e,if_pos (by omega)]
     · rw[if_neg (fun h=>e h.1),hi j h1];by_cases h2:j<i
       · rw[if_pos h2,if_pos (by omega)]
       · rw[if_neg h2,if_neg (by omega)]
   have hii: ¬i<n:=by have:=ar h;omega
   obtain rfl:r=aX a b:=CL (by rw[hrl,hpl]) (fun j hj=>by rw[ot,hi j (by omega),if_pos (by omega)]);exact AW.exit (qX 2 rfl (qN rfl))
end Lift
namespace Lift
open Go Go.Proofs
theorem xL{R:NQ→NQ→NQ}{rt:List NQ}{a b:NQ}:(kK R rt a b).length≤max a.length b.length:=by
 unfold kK;split
 · exact Nat.zero_le _
 split
 · rename_i h;rw[h];exact ai _
 · rw[dH];omega
theorem AM{l k:Nat}{R:NQ→NQ→NQ}{rt:List NQ}{a b:NQ}(ha:ay l a)(hb:ay l b)(hrt:cK rt)(hl:l≤rt.length)(sa:aB k a)(sb:aB k b)(sr:dm k rt)
  (hR: ∀l',l=l'+1→ ∀a' b' m,k≤m→ay l' a'→ay l' b'→aB m a'→aB m b'→ay l' (R a' b')∧aB (sT l' m) (R a' b')):ay l (kK R rt a b)∧aB (sT l k) (kK R rt a b):=by
 have hk:=sa.pos;have h2:=cg l k;unfold kK;by_cases h0:a.length=0∨b.length=0
 · rw[if_pos h0];exact⟨cD _,cH (by omega)⟩
 rw[if_neg h0];by_cases h1:max a.length b.length=1
 · rw[if_pos h1];refine⟨eZ _ _,fZ ?_⟩;have:=sM (a.getD 0 0) (b.getD 0 0);have:=sa 0;have:=sb 0;omega
 rw[if_neg h1]
 obtain ⟨i,hi,hn⟩: ∃i,i≤l∧max a.length b.length=2^i:=by
  rcases ha with e | ⟨i,hi,e⟩
  · exact absurd (.inl e) h0
  rcases hb with e2 | ⟨k,hk,e2⟩
  · exact absurd (.inr e2) h0
  by_cases h:a.length≤b.length
  · exact⟨k,hk,by rw[Nat.max_eq_right h,e2]⟩
  · exact⟨i,hi,by rw[Nat.max_eq_left (by omega),e]⟩
 have vN:i≠0:=fun e=>h1 (by rw[hn,e]);obtain ⟨j,rfl⟩: ∃j,i=j+1:=⟨i-1,by omega⟩;obtain ⟨l',rfl⟩: ∃l',l=l'+1:=⟨l-1,by omega⟩;have hj:j≤l':=by omega
 have hR:=fun a' b' m h1 h2 h3 h4 h5=>hR l' rfl a' b' m h1 h2 h3 h4 h5;have wa:=bH a (max a.length b.length);have wb:=bH b (max a.length b.length);have sa:=sa.wide (max a.length b.length);have sb:=sb.wide (max a.length b.length);generalize bm a (max a.length b.length)=A at *;generalize bm b (max a.length b.length)=B at *;generalize max a.length b.length=n at *;subst hn;have e0:=lE j;have hlog:(2^(j+1)).log2-1=j:=by rw[Nat.log2_two_pow];omega
 rw[e0,hlog];obtain ⟨e1,e2,e3⟩:=bA wa;obtain ⟨f1,f2,f3⟩:=bA wb;rw[e3] at e1 e2;rw[f3] at f1 f2;have hx:ay l' (A.take (2^j)):= .inr ⟨j,hj,e1⟩;have hy:ay l' (A.drop (2^j)):= .inr ⟨j,hj,e2⟩;have hu:ay l' (B.take (2^j)):= .inr ⟨j,hj,f1⟩;have hv:ay l' (B.drop (2^j)):= .inr ⟨j,hj,f2⟩;have hd:ay l' (rt.getD j []):= .inr ⟨j,hj,hrt j (by omega)⟩;have hs0:=cg l' k;have hs1:=cg l' (sT l' k);have r1:=hR _ _ k (ai _) hx hu (sa.take _) (sb.take _);have r2:=hR _ _ k (ai _) hy hv (sa.drop _) (sb.drop _);have r3:=hR _ _ k (ai _) hx hv (sa.take _) (sb.drop _);have r4:=hR _ _ k (ai _) hy hu (sa.drop _) (sb.take _);have r5:=hR _ _ (sT l' k) (by omega) r2.1 hd r2.2 ((sr _).mono (by omega));refine⟨.inr ⟨j+1,by omega,by rw[dH,Nat.pow_succ];omega⟩,(((r1.2.plus r5.2).mono ?_).join ((r3.2.plus r4.2).mono ?_) _)⟩
 · show _≤sT l' (sT l' k)+sT l' k+1;omega
 · show _≤sT l' (sT l' k)+sT l' k+1;omega
theorem l3(a:NQ){l:Nat}(ha:ay l a):(aA a).length≤a.length:=by
 unfold aA;split
 · exact Nat.zero_le _
 have: ∀i,(iG i a).length≤a.length:=fun i=>by
  induction i with
  | zero =>
    unfold iG;split
    · exact Nat.zero_le _
    · rw[bb];omega
  | succ i ih =>
    unfold iG;split
    · exact ih
    · rw[bb];omega
 exact this _
theorem gJ: ∀(l:Nat) {k:Nat} {rt:List NQ} {a b:NQ},ay l a→ay l b→cK rt→l≤rt.length→aB k a→aB k b→dm k rt→ay l (gj l rt a b)∧aB (sT l k) (gj l rt a b)
 | 0,k,rt,a,b,ha,hb,hrt,hl,sa,sb,sr=>AM (bf ha sa).1 (bf hb sb).1 hrt hl (bf ha sa).2 (bf hb sb).2 sr (fun l' h=>by omega)
 | l+1,k,rt,a,b,ha,hb,hrt,hl,sa,sb,sr=>AM (bf ha sa).1 (bf hb sb).1 hrt hl (bf ha sa).2 (bf hb sb).2 sr (fun l' e a' b' m hm h1 h2 h3 h4=>by
    obtain rfl:l=l':=by omega
    exact gJ l h1 h2 hrt (by omega) h3 h4 (sr.mono hm))
theorem Cw: ∀(l:Nat) {rt:List NQ} {a b:NQ},ay l a→ay l b→(gj l rt a b).length≤max a.length b.length
 | 0,rt,a,b,ha,hb=>by
   have h1:=l3 a ha;have h2:=l3 b hb;have h3:=xL (R:=fun _ _=>[]) (rt:=rt) (a:=aA a) (b:=aA b);show (kK _ rt _ _).length≤_;omega
 | l+1,rt,a,b,ha,hb=>by
   have h1:=l3 a ha;have h2:=l3 b hb;have h3:=xL (R:=gj l rt) (rt:=rt) (a:=aA a) (b:=aA b);show (kK _ rt _ _).length≤_;omega
set_option maxHeartbeats 1600000 in
theorem sR{l k:Nat}{R:NQ→NQ→NQ}{rt:List NQ}{xs:List D}{a b:NQ}(ha:ay l a)(hb:ay l b)(hrt:cK rt)(hl:l≤rt.length)(hl5:l≤5)(hxs: ∀j,j<rt.length→xs[j]?=some (aq (rt.getD j [])))(sa:aB k a)(sb:aB k b)(sr:dm k rt)(hk:sT l k≤17300000000000)
  (hR: ∀l',l=l'+1→ ∀a' b' m,k≤m→ay l' a'→ay l' b'→aB m a'→aB m b'→sT l' m≤17300000000000→Pure Tryz.prog 157 [.ag [.sl 1 xs],aq a',aq b'] (aq (R a' b'))∧(R a' b').length≤max a'.length b'.length∧ay l' (R a' b')∧aB (sT l' m) (R a' b')):
  Pure Tryz.prog 157 [.ag [.sl 1 xs],aq a,aq b] (aq (kK R rt (aA a) (aA b))):=by
 refine qJ 105 Tryz.func157 rfl rfl rfl rfl (by kernel_rfl) (fun B F0 w0=>?_);have hk1:=sa.pos;have h2:=cg l k;have cs1:=jP a ha hl5;have cs2:=jP b hb hl5;obtain ⟨ha,sa⟩:=bf ha sa;obtain ⟨hb,sb⟩:=bf hb sb;generalize aA a=s at *;generalize aA b=t at *;have hla:=ha.len (by omega);have hlb:=hb.len (by omega);refine qX 2 rfl (qK 1 rfl (ae.call tok rfl rfl rfl rfl cs1 (qU 1 rfl (ae.call tok rfl rfl rfl rfl cs2 (qU 2 rfl (qK 4 rfl ?_))))));rw[ah,ah];refine qU 2 rfl ?_;rw[Jj];refine qI (qX 2 rfl ?_);rw[ah];refine qU 1 rfl ?_;unfold kK;by_cases h0:s.length=0
 · have h00:s.length=0∨t.length=0:= .inl h0;rw[beq_iff_eq.2 (show (s.length:Int)=0 by omega),if_pos h00];exact qU 5 rfl (ae.nil (AW.aG rfl (qX 1 rfl (qN rfl))))
 rw[beq_eq_false_iff_ne.2 (show (s.length:Int)≠0 by omega)];refine qU 3 rfl ?_;rw[ah];refine qU 1 rfl ?_;by_cases h01:t.length=0
 · have h00:s.length=0∨t.length=0:= .inr h01;rw[beq_iff_eq.2 (show (t.length:Int)=0 by omega),if_pos h00];exact qU 1 rfl (ae.nil (AW.aG rfl (qX 1 rfl (qN rfl))))
 have h00: ¬(s.length=0∨t.length=0):=fun h=>h.elim h0 h01;rw[beq_eq_false_iff_ne.2 (show (t.length:Int)≠0 by omega),if_neg h00];refine qU 1 rfl (ae.nil (AW.aD rfl (AW.skip (AW.seq (AW.seq (AW.region ?_))))));obtain ⟨n,hn⟩: ∃n,n=max s.length t.length:=⟨_,rfl⟩;rw[← hn];refine qU 2 rfl ?_;by_cases h1:n=1
 · rw[if_pos h1,beq_iff_eq.2 (show (n:Int)=1 by omega)];have g1:=mP (r:=s) (i:=0) (by omega);have g2:=mP (r:=t) (i:=0) (by omega);have cm:=CE (Qr (s.getD 0 0)) (Qr (t.getD 0 0)) (k:=k) (iy _ (sa 0)) (iy _ (sb 0)) (by omega);rw[dc,dc] at cm;refine ae.nil (AW.aG rfl (AW.seq (AW.draw aU 8 (by kernel_rfl) ?_)));refine qP 1 rfl (af.idx tok (Qr (s.getD 0 0)).D rfl rfl rfl rfl rfl (Int.le_refl _) g1 ?_);refine qP 2 rfl (af.idx tok (Qr (t.getD 0 0)).D rfl rfl rfl rfl rfl (Int.le_refl _) g2 ?_);refine qP 1 rfl (af.call tok rfl rfl rfl rfl rfl cm (af.nR tok rfl rfl rfl rfl rfl rfl ?_));exact af.nil (qU 1 rfl (qN rfl))
 rw[if_neg h1,beq_eq_false_iff_ne.2 (show (n:Int)≠1 by omega)];refine ae.nil (AW.aD rfl (AW.skip ?_))
 obtain ⟨i,hi,hni⟩: ∃i,i≤l∧n=2^i:=by
  rcases ha with e | ⟨i,hi,e⟩
  · exact absurd e h0
  rcases hb with e2 | ⟨k,hk,e2⟩
  · exact absurd e2 h01
  by_cases h:s.length≤t.length
  · exact⟨k,hk,by rw[hn,Nat.max_eq_right h,e2]⟩
  · exact⟨i,hi,by rw[hn,Nat.max_eq_left (by omega),e]⟩
 have hsn:s.length≤n:=by omega
 have htn:t.length≤n:=by omega
 have hn9:n≤1024:=by omega
 clear hn;have vN:i≠0:=fun e=>h1 (by rw[hni,e]);obtain ⟨j,rfl⟩: ∃j,i=j+1:=⟨i-1,by omega⟩;obtain ⟨l',rfl⟩: ∃l',l=l'+1:=⟨l-1,by omega⟩;have hj:j≤l':=by omega
 have hR:=fun a' b' m h1 h2 h3 h4 h5=>hR l' rfl a' b' m h1 h2 h3 h4 h5;have hs0:=cg l' k;have hs1:=cg l' (sT l' k);have hk:sT l' (sT l' k)+sT l' k+1≤17300000000000:=hk;have cw1:=l7 s n hsn (by omega);have cw2:=l7 t n htn (by omega);have cp:=gd hni (by omega);have wa:=bH s n;have wb:=bH t n;have sa:=sa.wide n;have sb:=sb.wide n;generalize bm s n=A at *;generalize bm t n=B at *;have e0:=lE j;have hlog:n.log2-1=j:=by rw[hni,Nat.log2_two_pow];omega
 obtain ⟨e1,e2,e3⟩:=bA (wa.trans hni);obtain ⟨f1,f2,f3⟩:=bA (wb.trans hni);rw[hlog];obtain ⟨h,hh⟩: ∃h,h=n / 2:=⟨_,rfl⟩
 have hnh:n=h+h:=by
  have:2^(j+1)=2^j*2:=Nat.pow_succ ..;omega
 have hh2:h=2^j:=by rw[hh,hni,e0]
 rw[wa,← hh] at e1 e2;rw[wb,← hh] at f1 f2;rw[← hh];have hx:ay l' (A.take h):= .inr ⟨j,hj,e1⟩;have hy:ay l' (A.drop h):= .inr ⟨j,hj,e2⟩;have hu:ay l' (B.take h):= .inr ⟨j,hj,f1⟩;have hv:ay l' (B.drop h):= .inr ⟨j,hj,f2⟩;have hdl:=hrt j (by omega);have hd:ay l' (rt.getD j []):= .inr ⟨j,hj,hdl⟩;have r1:=hR _ _ k (ai _) hx hu (sa.take _) (sb.take _) (by omega);have r2:=hR _ _ k (ai _) hy hv (sa.drop _) (sb.drop _) (by omega);have r3:=hR _ _ k (ai _) hx hv (sa.take _) (sb.drop _) (by omega);have r4:=hR _ _ k (ai _) hy hu (sa.drop _) (sb.take _) (by omega);have r5:=hR _ _ (sT l' k) (by omega) r2.2.2.1 hd r2.2.2.2 ((sr _).mono (by omega)) (by omega);have n1:(R (A.take h) (B.take h)).length≤h:=Nat.le_trans r1.2.1 (Nat.max_le.2 ⟨by omega,by omega⟩);have n2:(R (A.drop h) (B.drop h)).length≤h:=Nat.le_trans r2.2.1 (Nat.max_le.2 ⟨by omega,by omega⟩);have n3:(R (A.take h) (B.drop h)).length≤h:=Nat.le_trans r3.2.1 (Nat.max_le.2 ⟨by omega,by omega⟩);have n4:(R (A.drop h) (B.take h)).length≤h:=Nat.le_trans r4.2.1 (Nat.max_le.2 ⟨by omega,by omega⟩);have n5:(R (R (A.drop h) (B.drop h)) (rt.getD j [])).length≤h:=Nat.le_trans r5.2.1 (Nat.max_le.2 ⟨n2,by omega⟩);have r1:=And.intro r1.1 r1.2.2;have r2:=And.intro r2.1 r2.2.2;have r3:=And.intro r3.1 r3.2.2;have r4:=And.intro r4.1 r4.2.2;have r5:=And.intro r5.1 r5.2.2;have p1:=ni (R (A.take h) (B.take h)) (R (R (A.drop h) (B.drop h)) (rt.getD j [])) (k:=sT l' (sT l' k)) (r1.2.2.mono (by omega)) r5.2.2 (by omega) (by omega) (by omega);have p2:=ni (R (A.take h) (B.drop h)) (R (A.drop h) (B.take h)) (k:=sT l' k) r3.2.2 r4.2.2 (by omega) (by omega) (by omega);have q1:(aX (R (A.take h) (B.take h)) (R (R (A.drop h) (B.drop h)) (rt.getD j []))).length≤h:=by rw[j4];exact Nat.max_le.2 ⟨n1,n5⟩
 have q2:(aX (R (A.take h) (B.drop h)) (R (A.drop h) (B.take h))).length≤h:=by rw[j4];exact Nat.max_le.2 ⟨n3,n4⟩
 have cw3:=kM (aX (R (A.take h) (B.take h)) (R (R (A.drop h) (B.drop h)) (rt.getD j []))) h q1 (by omega);have cw4:=kM (aX (R (A.take h) (B.drop h)) (R (A.drop h) (B.take h))) h q2 (by omega);unfold dP;refine qX 2 rfl (ae.call tok rfl rfl rfl rfl cw1 (qU 2 rfl (ae.call tok rfl rfl rfl rfl cw2 (qU 2 rfl (qK 1 rfl (ae.call tok rfl rfl rfl rfl cp (qU 5 rfl (qI (AW.draw aU 19 (by kernel_rfl) ?_)))))))));refine qP 2 rfl (af.div tok rfl rfl rfl rfl rfl (by decide) ?_);rw[iF _ (by omega),← hh];refine af.gW tok (a:=A) (A.take h) rfl rfl rfl rfl rfl trivial (aj h) (Nat.zero_le _) (show h≤A.length by omega) rfl ?_;refine qP 2 rfl (af.div tok rfl rfl rfl rfl rfl (by decide) ?_);rw[iF _ (by omega),← hh];refine af.gW tok (a:=A) (A.drop h) rfl rfl rfl rfl rfl (aj h) trivial (show h≤A.length by omega) (ai _) (by show (A.take A.length).drop h=_;rw[List.take_length]) ?_;refine qP 2 rfl (af.div tok rfl rfl rfl rfl rfl (by decide) ?_);rw[iF _ (by omega),← hh];refine af.gW tok (a:=B) (B.take h) rfl rfl rfl rfl rfl trivial (aj h) (Nat.zero_le _) (show h≤B.length by omega) rfl ?_;refine qP 2 rfl (af.div tok rfl rfl rfl rfl rfl (by decide) ?_);rw[iF _ (by omega),← hh];refine af.gW tok (a:=B) (B.drop h) rfl rfl rfl rfl rfl (aj h) trivial (show h≤B.length by omega) (ai _) (by show (B.take B.length).drop h=_;rw[List.take_length]) ?_;refine qP 3 rfl (af.nil (qU 1 rfl (ae.nil (AW.et [3,7,8,10,11,12,13] ?_))));show AW _ _ _ _ _ _ _ [(3,.bx [.sl 1 xs]),(7,.d (dI n)),(8,.d (dI (j+1:Nat))),(10,.d (aq (A.take h))),(11,.d (aq (A.drop h))),(12,.d (aq (B.take h))),(13,.d (aq (B.drop h)))];refine AW.seq (AW.draw aU 17 (by kernel_rfl) ?_);refine qP 3 rfl (af.call tok rfl rfl rfl rfl rfl r1.1 ?_);refine qP 4 rfl (af.call tok rfl rfl rfl rfl rfl r2.1 ?_);refine qP 4 rfl ?_;rw[aF (x:=((j+1:Nat):Int) -1) (by omega) (by omega),show ((j+1:Nat):Int) -1=(j:Int) by omega];refine af.idx tok (aq (rt.getD j [])) rfl rfl rfl rfl rfl (aj j) (hxs j (by omega)) ?_;refine qP 1 rfl (af.call tok rfl rfl rfl rfl rfl r5.1 ?_);refine af.call tok rfl rfl rfl rfl rfl p1 (af.nil (qU 1 rfl (qI (AW.draw aU 9 (by kernel_rfl) ?_))));refine qP 3 rfl (af.call tok rfl rfl rfl rfl rfl r3.1 ?_);refine qP 3 rfl (af.call tok rfl rfl rfl rfl rfl r4.1 ?_);refine af.call tok rfl rfl rfl rfl rfl p2 (af.nil (qU 1 rfl (ae.nil ?_)));have l1:=bH (aX (R (A.take h) (B.take h)) (R (R (A.drop h) (B.drop h)) (rt.getD j []))) h;have l2:=bH (aX (R (A.take h) (B.drop h)) (R (A.drop h) (B.take h))) h;generalize aX (R (A.take h) (B.take h)) (R (R (A.drop h) (B.drop h)) (rt.getD j []))=P1 at *;generalize aX (R (A.take h) (B.drop h)) (R (A.drop h) (B.take h))=P2 at *;refine AW.et [7,14,15] ?_;show AW _ _ _ _ _ _ _ [(7,.d (dI n)),(14,.d (aq P1)),(15,.d (aq P2))];generalize bm P1 h=wa at *;generalize bm P2 h=wb at *;refine AW.seq (AZ.aw ?_);refine AZ.region ?_;refine ao.cut 3 rfl (fun B1 F1 w1=>?_);refine qU 2 rfl (ae.div tok rfl rfl rfl rfl (by decide) ?_);rw[iF _ (by omega),← hh];refine ae.nil ⟨rfl,?_⟩;refine ao.jw tok [] rfl rfl rfl rfl rfl List.nodup_nil rfl cw3 (fun _ _ _=>Nat.zero_le _) (fun res R1 hP=>?_);obtain ⟨V1,rfl,rfl⟩:=hP;refine ao.cut 3 rfl (fun B1 F1 w1=>?_);refine qU 2 rfl (ae.div tok rfl rfl rfl rfl (by decide) ?_);rw[iF _ (by omega),← hh];refine ae.nil ⟨rfl,?_⟩;refine ao.jw tok [] rfl rfl rfl rfl rfl List.nodup_nil rfl cw4 (fun _ _ _=>Nat.zero_le _) (fun res R1 hP=>?_);obtain ⟨V2,rfl,rfl⟩:=hP;refine ao.to [99,103] [(99,.d (.v V1)),(103,.d (.v V2))] rfl ?_;refine ao.fq 99 0 (V:=V1) (av:= .ow 68 (fr wa)) rfl rfl rfl ?_;refine ao.to [99,103] [(99,.ow 68 (fr wa)),(103,.d (.v V2))] rfl ?_;refine ao.fq 103 1 (V:=V2) (av:= .ow 68 (fr wb)) rfl rfl rfl ?_;refine ao.to [99,103] [(99,.ow 68 (fr wa)),(103,.ow 68 (fr wb))] rfl ?_;refine ao.cut 2 rfl (fun B1 F1 w1=>?_);refine ae.iV tok 103 rfl rfl ?_;refine ae.lP tok rfl rfl rfl rfl rfl rfl (by rw[ah,ah,l1,l2];show (_+_)*56≤_;omega) (by rw[ah,ah,l1,l2];omega) ?_;refine qU 1 rfl (ae.nil ⟨rfl,?_⟩);refine ao.nil ?_;rw[show fr wa++fr wb=fr (wa++wb) from List.map_append.symm];exact AW.ret rfl
theorem jO: ∀(l:Nat) {k:Nat} {rt:List NQ} {xs:List D} {a b:NQ},ay l a→ay l b→cK rt→l≤rt.length→l≤5→(∀j,j<rt.length→xs[j]?=some (aq (rt.getD j [])))→aB k a→aB k b→dm k rt→sT l k≤17300000000000→Pure Tryz.prog 157 [.ag [.sl 1 xs],aq a,aq b] (aq (gj l rt a b))
 | 0,k,rt,xs,a,b,ha,hb,hrt,hl,hl5,hxs,sa,sb,sr,hk=>sR ha hb hrt hl hl5 hxs sa sb sr hk (fun l' h=>by omega)
 | l+1,k,rt,xs,a,b,ha,hb,hrt,hl,hl5,hxs,sa,sb,sr,hk=>sR ha hb hrt hl hl5 hxs sa sb sr hk (fun l' e a' b' m hm h1 h2 h3 h4 h5=>by
    obtain rfl:l=l':=by omega
    exact⟨jO l h1 h2 hrt (by omega) (by omega) hxs h3 h4 (sr.mono hm) h5,Cw l h1 h2,gJ l h1 h2 hrt (by omega) h3 h4 (sr.mono hm)⟩)
end Lift
