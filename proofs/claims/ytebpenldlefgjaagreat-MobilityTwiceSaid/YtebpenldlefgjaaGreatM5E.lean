/- Parts of the proof, one behind the other: the logic, the contracts of the functions that the statement reaches. -/
import Derived.Test.YtebpenldlefgjaaGreatM5D
set_option linter.unusedVariables false
set_option linter.unusedSimpArgs false
namespace Lift
open Go Go.Proofs
abbrev xQ(Vs:List Value):List D:=Vs.map D.v
theorem iO{Vs:List Value}{i:Nat}(h:i<Vs.length):(xQ Vs)[i]?=some (.v (Vs.getD i undef)):=by simp[h]
abbrev OA(Vs:List Value):AV:=AV.ow 27 (xQ Vs)
abbrev CA(cols:List Nat):AV:=AV.ow 3 (cols.map (fun c:Nat=>dI c))
def ig(Vs:List Value)(a:cI):List LR:=List.zipWith (fun V r=>(V,iM r)) Vs a
theorem I6{Vs:List Value}{a:cI}(h:Vs.length=a.length)(V:Value)(r:List NQ):ig (Vs++[V]) (a++[r])=ig Vs a++[(V,iM r)]:=by
 unfold ig;rw[List.zipWith_append h];rfl
theorem j9{Vs:List Value}{a:cI}{j:Nat}(hV:j<Vs.length)(ha:j<a.length):(ig Vs a)[j]?=some (Vs.getD j undef,iM (a.getD j [])):=by
 unfold ig;simp[List.getElem?_zipWith,hV,ha]
theorem xe{Vs:List Value}{a:cI}{j:Nat}(hV:j<Vs.length)(ha:j<a.length)(V:Value)(r:List NQ):(ig Vs a).set j (V,iM r)=ig (Vs.set j V) (a.set j r):=by
 unfold ig;refine List.ext_getElem? (fun k=>?_);by_cases hk:k=j
 · subst hk;rw[List.getElem?_set_self (by simp;omega)];simp[List.getElem?_zipWith,hV,ha]
 · rw[List.getElem?_set_ne (Ne.symm hk)];simp[List.getElem?_zipWith,List.getElem?_set_ne (Ne.symm hk)]
theorem G6{Vs:List Value}{j:Nat}(hV:j<Vs.length):Vs.set j (Vs.getD j undef)=Vs:=by
 refine List.ext_getElem? (fun k=>?_);by_cases hk:k=j
 · subst hk;rw[List.getElem?_set_self hV];simp[hV]
 · rw[List.getElem?_set_ne (Ne.symm hk)]
theorem Bf{a:cI}{j:Nat}(ha:j<a.length):a.set j (a.getD j [])=a:=by
 refine List.ext_getElem? (fun k=>?_);by_cases hk:k=j
 · subst hk;rw[List.getElem?_set_self ha];simp[ha]
 · rw[List.getElem?_set_ne (Ne.symm hk)]
theorem AK{Vs:List Value}{a:cI}{j:Nat}(hV:j<Vs.length)(ha:j<a.length)(r:List NQ):(ig Vs a).set j (Vs.getD j undef,iM r)=ig Vs (a.set j r):=by
 rw[xe hV ha,G6 hV]
def Mq(Vs:List Value)(r t:Nat):List Value:=(Vs.set t (Vs.getD r undef)).set r (Vs.getD t undef)
theorem Jp(Vs:List Value)(r t:Nat):(Mq Vs r t).length=Vs.length:=by unfold Mq;rw[List.length_set,List.length_set]
theorem I5{Vs:List Value}{a:cI}{r t:Nat}(h:Vs.length=a.length)(hr:r<a.length)(ht:t<a.length):
  ((ig Vs a).set t (Vs.getD r undef,iM (a.getD r []))).set r (Vs.getD t undef,iM (a.getD t []))=ig (Mq Vs r t) (GN a r t):=by
 rw[xe (by omega) ht,xe (by simp;omega) (by simp;omega)];rfl
theorem I4{Vs:List Value}{a:cI}{i r:Nat}(h:Vs.length=a.length)(hi:i<a.length)(hr:r<a.length)(hir:i≠r)(z:List NQ):
  ((ig Vs a).set i (Vs.getD i undef,iM z)).set r (Vs.getD r undef,iM (a.getD r []))=ig Vs (a.set i z):=by
 rw[AK (by omega) hi];have e:a.getD r []=(a.set i z).getD r []:=by rw[eJ,if_neg (fun g=>hir g.1.symm)]
 rw[e,AK (by omega) (by simpa using hr),Bf (by simpa using hr)]
section
variable {P:Program} {T:Ty} {B:Nat} {F0:Nat→Prop} {w0:cX} {n:Nat} {σ τ:St} {K:St→Prop} {all:Array Oper} {o:Oper} {d:Nat} {rest:List Oper} {R:List LR} {x:Code} {Q:Exit→List LR→St→Prop}
theorem ae.Ef(hT:bD P T){k e i:Nat}{Vs:List Value}(V:Value)(hd:o.dst=none)(hg:aG all σ o=true)(hx:Ep T σ o.op=some (k,.ow e (xQ Vs),xQ Vs,i,0,.v V))(hi:i<Vs.length)
  (h:ae P B F0 w0 n all rest K ((k,.ow e (xQ (Vs.set i V)))::σ)):ae P B F0 w0 n all (o::rest) K σ:=by
 refine ae.kQ hT (.v (Vs.getD i undef)) hd hg hx (iO hi) rfl ?_;show ae P B F0 w0 n all rest K ((k,.ow e ((xQ Vs).set i (.v V)))::σ);rw[show (xQ Vs).set i (.v V)=xQ (Vs.set i V) from (List.map_set ..).symm];exact h
theorem AZ.H6(hT:bD P T){e eo:Nat}{te:TI}(he:T.get e=some te)(h1:te.size=1){Vr:Value}{X:LR}{Vs:List Value}{a:cI}(hl:Vs.length=a.length)
  (h:AZ P B F0 w0 n x Q [(Vr,.ow eo (a.map oO)),X] σ): ∀(m k:Nat),m+k=a.length→ ∀L:List LR,(∀j,k≤j→j<a.length→L[j]?=some (Vs.getD j undef,.ow e ((a.getD j []).map aq))) →
  AZ P B F0 w0 n x Q ((Vr,.ow eo ((a.take k).map oO++(xQ Vs).drop k))::X::L) σ
 | 0,k,hk,L,hL=>by
   rw[List.take_of_length_le (by omega),List.drop_eq_nil_of_le (by rw[af];omega),List.append_nil];refine AZ.KS _ (fun i r hr=> .inl ?_) h
   match i,hr with
   | 0,hr=>exact hr
   | 1,hr=>exact hr
 | m+1,k,hk,L,hL=>by
   have hka:k<a.length:=by omega
   have hll:k<L.length:=(List.getElem?_eq_some_iff.1 (hL k (ai _) hka)).1;have hft:((a.take k).map oO).length=k:=by rw[af,bb];omega
   refine AZ.LW hT (k+2) 0 k (cs:=(a.take k).map oO++(xQ Vs).drop k) rfl (fun d hd=>?_) ?_ (hL k (ai _) hka) (by omega) he ?_
   · rcases List.mem_append.1 hd with g | g
     · obtain ⟨r,_,rfl⟩:=List.mem_map.1 g;rfl
     · obtain ⟨V,_,rfl⟩:=List.mem_map.1 (List.mem_of_mem_drop g);rfl
   · rw[List.getElem?_append_right (by omega),hft,Nat.sub_self,List.getElem?_drop,Nat.add_zero];exact iO (by omega)
   · have e1:((a.take k).map oO++(xQ Vs).drop k).set k (.sl te.size ((a.getD k []).map aq))=(a.take (k+1)).map oO++(xQ Vs).drop (k+1):=by
      rw[h1,List.set_append_right _ _ (by omega),hft,Nat.sub_self,List.take_succ_eq_append_getElem hka,List.map_append]
      have:(xQ Vs).drop k= .v (Vs.getD k undef)::(xQ Vs).drop (k+1):=by
       rw[List.drop_eq_getElem_cons (by rw[af];omega)]
       congr 1
       have:=iO (Vs:=Vs) (i:=k) (by omega);rw[bP (by rw[af];omega)] at this;simpa using this
      rw[this,List.set_cons_zero,List.append_assoc];have g:a[k]=a.getD k []:=by rw[aK,bP hka];rfl
      rw[g];rfl
     show AZ P B F0 w0 n x Q ((Vr,.ow eo (((a.take k).map oO++(xQ Vs).drop k).set k (.sl te.size ((a.getD k []).map aq))))::X::L.set k (Vs.getD k undef,.junk)) σ;rw[e1]
     exact AZ.H6 hT he h1 hl h m (k+1) (by omega) (L.set k (Vs.getD k undef,.junk)) (fun j hj hja=>by
      rw[List.getElem?_set_ne (by omega)];exact hL j (by omega) hja)
end
abbrev Ks(s:jT):D:= .ag [mZ s.rows,.sl 1 (s.cols.map (fun c:Nat=>dI c)),dI s.sg,aq s.ia]
set_option maxHeartbeats 12800000 in
theorem sD{v:List NQ}(V:pj v){a:cI}{N most:Nat}(ha0:0<a.length)(ha:a.length≤1000000)(hN:N≤1000000)(hmost:most≤N)(hr:dq N a)(hl:rO v.length a)(ok: ∀c,c<most→kE v (aF v a c) c):
  Pure Tryz.prog 89 [ib v,mZ a,dI most] (.tu [Ks (aF v a most),aQ]):=by
 refine qJ 205 Tryz.func89 rfl rfl rfl rfl (by kernel_rfl) (fun B F0 w0=>?_);have cone:=jq (Qr ((1:Int):Rat)) (k:=1) (iG _ (by have:=gF;rw[show ((1:Int):Rat)=1 from rfl];omega)) (by decide) (by decide) (Cx _);rw[dk,show sj ((1:Int):Rat)=[1] from rfl] at cone;have htk:=fun {i:Nat} (hi:i<a.length)=>List.take_succ_eq_append_getElem (l:=a) hi;refine AZ.aw ?_;refine AZ.seq (AZ.iK (fun B1 F1 w1=>?_));refine qU 3 rfl (ae.nil ⟨rfl,?_⟩);refine AZ.seq (AZ.iK (fun B1 F1 w1=>?_));refine qM rfl (iC 1 (by decide) (by decide)) ?_;refine qM rfl cone (ae.L9 tok [.v iu,.v iu,dI 0,.sl 3 []] rfl rfl rfl rfl (by kernel_rfl) ?_);refine qU 2 rfl (ae.nil ⟨rfl,?_⟩);refine AZ.zY 27 ?_;refine AZ.zY 3 ?_;refine AZ.seq (AZ.seq ?_);refine AZ.iK (fun B1 F1 w1=>?_);refine qU 2 rfl ?_;rw[af];refine qU 1 rfl (ae.nil ⟨rfl,?_⟩);refine AZ.block (AZ.aL [2,3,6,7,8,22,23,24] (fun s:Nat×Value×List Value=>((s.2.1,OA s.2.2)::(iu,CA [])::ig s.2.2 (a.take s.1),[(2,.d (dI most)),(3,.bx [.sl 1 (v.map aq)]),(6,.bx [.sl 1 [],.sl 1 [],dI 0,.sl 3 []]),(7,.d aQ),(8,.bx [.v s.2.1,.v iu,dI 1,aq [1]]),(22,.d (mZ a)),(23,.d (dI a.length)),(24,.d (dI s.1))])) (fun s=>s.1≤a.length∧s.2.2.length=s.1) (fun s=>a.length-s.1) (0,iu,[]) rfl ⟨Nat.zero_le _,rfl⟩ (fun s hs=>?_));obtain ⟨i,Vr,Vs⟩:=s;obtain ⟨hi,hVs⟩:=hs
 dsimp only at hi hVs
 show AZ _ _ _ _ _ _ _ ((Vr,OA Vs)::(iu,CA [])::ig Vs (a.take i)) [(2,.d (dI most)),(3,.bx [.sl 1 (v.map aq)]),(6,.bx [.sl 1 [],.sl 1 [],dI 0,.sl 3 []]),(7,.d aQ),(8,.bx [.v Vr,.v iu,dI 1,aq [1]]),(22,.d (mZ a)),(23,.d (dI a.length)),(24,.d (dI i))];refine AZ.seq (AZ.iK (fun B1 F1 w1=>?_));refine qU 1 rfl (ae.nil ⟨rfl,?_⟩);refine AZ.seq ?_;refine AZ.cond rfl (fun h=>?_) (fun h=>?_)
 · have hii:i<a.length:=by have:=ao h;omega
   have hg:=getM oO (l:=a) (i:=i) hii;have hrl:(a.getD i []).length≤1000000:=by rw[hr i hii];exact hN
   have htk:=htk hii;have hge:a[i]=a.getD i []:=by rw[aK,bP hii];rfl
   rw[hge] at htk;generalize a.getD i []=row at hg hrl htk;refine AZ.skip (AZ.seq (AZ.block (AZ.seq ?_)));refine AZ.iK (fun B1 F1 w1=>?_);refine ae.idx tok (oO row) rfl rfl rfl rfl (aj i) hg ?_;refine qU 2 rfl (ae.nil ⟨rfl,?_⟩);refine AZ.any aS (ZH.any (β:=[]) ?_);refine ZH.mv 2 rfl rfl (by kernel_rfl) (by kernel_rfl) (by kernel_rfl) rfl (fun _ _ _ h=>h) (fun _=>rfl) trivial (fun B1 F1 w1=>?_);refine qU 1 rfl (ae.nil ⟨rfl,?_⟩);refine ZH.fd tok 0 rfl rfl (by kernel_rfl) (by kernel_rfl) (by kernel_rfl) rfl (fun _ _ _ h=>h) (fun _=>rfl) trivial (fun B1 F1 w1=>?_);refine qU 1 rfl (ae.nil ⟨rfl,?_⟩);refine ZH.meet 3 (qB 8 31) (fun V=>(((Vr,OA Vs)::(iu,CA [])::ig Vs (a.take i))++[(V,iM row)])) (fun V=>[(2,.d (dI most)),(3,.bx [.sl 1 (v.map aq)]),(6,.bx [.sl 1 [],.sl 1 [],dI 0,.sl 3 []]),(7,.d aQ),(8,.bx [.v Vr,.v iu,dI 1,aq [1]]),(22,.d (mZ a)),(23,.d (dI a.length)),(24,.d (dI i)),(10,.d (oO row)),(30,.d (oO row)),(28,.pt 8 0),(29,.d (.v Vr)),(31,.d (.v V)),(32,.d (.sl 1 [.v V]))]) (fun V=>?_) (fun N1_2=>?_)
   · refine ZH.all 5 (by kernel_rfl) rfl rfl (fun _=>rfl) trivial ?_;refine ak.fp 29 0 rfl rfl rfl ?_;refine ak.cut 1 rfl (fun B1 F1 w1=>?_);refine ae.lB tok rfl rfl rfl rfl rfl rfl (by show ((xQ Vs).length+1)*24≤_;rw[af];omega) (by show (xQ Vs).length+1≤_;rw[af];omega) ?_;refine ae.nil ⟨rfl,?_⟩;refine ak.B4 33 0 rfl rfl rfl rfl (fun Vq=>?_)
     refine ak.yT (R':=(Vq,OA (Vs++[V]))::(iu,CA [])::ig (Vs++[V]) (a.take (i+1))) (by
      show (Vq,AV.ow 27 (xQ Vs++[.v V]))::(iu,CA [])::(ig Vs (a.take i)++[(V,iM row)])=_
      rw[htk,I6 (by rw[bb];omega),show xQ Vs++[.v V]=xQ (Vs++[V]) by simp]) ?_
     refine ak.nil (ZH.to [2,3,6,7,8,22,23,24,10,30,28,32,33] [(2,.d (dI most)),(3,.bx [.sl 1 (v.map aq)]),(6,.bx [.sl 1 [],.sl 1 [],dI 0,.sl 3 []]),(7,.d aQ),(8,.bx [.v Vr,.v iu,dI 1,aq [1]]),(22,.d (mZ a)),(23,.d (dI a.length)),(24,.d (dI i)),(10,.d (oO row)),(30,.d (oO row)),(28,.pt 8 0),(32,.d (.sl 1 [.v V])),(33,.d (.v Vq))] rfl trivial ?_);refine ZH.all 6 (by kernel_rfl) rfl rfl (fun _=>rfl) trivial ?_;refine bN (fun B1 F1 w1=>?_);refine qU 1 rfl (ae.nil ⟨rfl,?_⟩);refine ZH.all 7 (by kernel_rfl) rfl rfl (fun _=>rfl) trivial ?_;refine bN (fun B1 F1 w1=>?_);refine qU 1 rfl (ae.nil ⟨rfl,?_⟩);refine ZH.done (by kernel_rfl) trivial ?_;refine AZ.to [2,3,6,7,8,22,23,24] [(2,.d (dI most)),(3,.bx [.sl 1 (v.map aq)]),(6,.bx [.sl 1 [],.sl 1 [],dI 0,.sl 3 []]),(7,.d aQ),(8,.bx [.v Vq,.v iu,dI 1,aq [1]]),(22,.d (mZ a)),(23,.d (dI a.length)),(24,.d (dI i))] rfl ?_;refine AZ.iK (fun B1 F1 w1=>?_);refine qU 1 rfl ?_;rw[aI (x:=(i:Int)+1) (by omega) (by omega)];refine qU 1 rfl (ae.nil ⟨rfl,?_⟩);exact⟨(i+1,Vq,Vs++[V]),rfl,⟨hii,by show (Vs++[V]).length=i+1;rw[List.length_append];show Vs.length+1=_;omega⟩,by show a.length-(i+1)<a.length-i;omega⟩
   refine ZH.meet 4 (qB 8 29) (fun V=>(((Vr,OA Vs)::(iu,CA [])::ig Vs (a.take i))++[(V,iM row)])) (fun V=>[(2,.d (dI most)),(3,.bx [.sl 1 (v.map aq)]),(6,.bx [.sl 1 [],.sl 1 [],dI 0,.sl 3 []]),(7,.d aQ),(8,.bx [.v Vr,.v iu,dI 1,aq [1]]),(22,.d (mZ a)),(23,.d (dI a.length)),(24,.d (dI i)),(10,.d (oO row)),(30,.d (oO row)),(28,.pt 8 0),(31,.d (.v V)),(32,.d (.sl 1 [.v V]))]) (fun V=>?_) (fun N0_2=>?_)
   · refine ZH.all 1 (by kernel_rfl) rfl rfl (fun _=>rfl) trivial ?_;refine bN (fun B1 F1 w1=>?_);refine qU 1 rfl (ae.nil ⟨rfl,?_⟩);exact qL (N1_2 V) (by kernel_rfl) rfl trivial
   refine ZH.meet 4 (qB 8 15) (fun V=>(((Vr,OA Vs)::(iu,CA [])::ig Vs (a.take i))++[(V,iM row)])) (fun V=>[(2,.d (dI most)),(3,.bx [.sl 1 (v.map aq)]),(6,.bx [.sl 1 [],.sl 1 [],dI 0,.sl 3 []]),(7,.d aQ),(8,.bx [.v Vr,.v iu,dI 1,aq [1]]),(22,.d (mZ a)),(23,.d (dI a.length)),(24,.d (dI i)),(10,.d (oO row)),(30,.d (oO row)),(28,.pt 8 0),(29,.d (.v Vr)),(31,.d (.v V))]) (fun V=>?_) (fun N1_1=>?_)
   · refine ZH.all 4 (by kernel_rfl) rfl rfl (fun _=>rfl) trivial ?_;refine bN (fun B1 F1 w1=>?_);refine ae.mX tok rfl rfl rfl rfl rfl ?_;refine ae.nil ⟨rfl,?_⟩;exact qL (N1_2 V) (by kernel_rfl) rfl trivial
   refine ZH.meet 5 (qB 8 13) (fun V=>(((Vr,OA Vs)::(iu,CA [])::ig Vs (a.take i))++[(V,iM row)])) (fun V=>[(2,.d (dI most)),(3,.bx [.sl 1 (v.map aq)]),(6,.bx [.sl 1 [],.sl 1 [],dI 0,.sl 3 []]),(7,.d aQ),(8,.bx [.v Vr,.v iu,dI 1,aq [1]]),(22,.d (mZ a)),(23,.d (dI a.length)),(24,.d (dI i)),(10,.d (oO row)),(30,.d (oO row)),(28,.pt 8 0),(31,.d (.v V))]) (fun V=>?_) (fun N0_1=>?_)
   · refine ZH.two 1 4 (by kernel_rfl) rfl rfl rfl rfl (fun _=>rfl) (fun _=>rfl) trivial ?_ ?_
     · refine bN (fun B1 F1 w1=>?_);refine qU 1 rfl (ae.nil ⟨rfl,?_⟩);exact qL (N1_1 V) (by kernel_rfl) rfl trivial
     · refine bN (fun B1 F1 w1=>?_);refine ae.mX tok rfl rfl rfl rfl rfl ?_;refine ae.nil ⟨rfl,?_⟩;exact qL (N0_2 V) (by kernel_rfl) rfl trivial
   refine ZH.meet 5 (qB 8 7) (fun V=>((Vr,OA Vs)::(iu,CA [])::ig Vs (a.take i))) (fun V=>[(2,.d (dI most)),(3,.bx [.sl 1 (v.map aq)]),(6,.bx [.sl 1 [],.sl 1 [],dI 0,.sl 3 []]),(7,.d aQ),(8,.bx [.v Vr,.v iu,dI 1,aq [1]]),(22,.d (mZ a)),(23,.d (dI a.length)),(24,.d (dI i)),(10,.d (oO row)),(30,.d (oO row)),(28,.pt 8 0),(29,.d (.v Vr))]) (fun V=>?_) (fun N1_0=>?_)
   · refine ZH.all 3 (by kernel_rfl) rfl rfl (fun _=>rfl) trivial ?_;refine ak.jF tok [] rfl rfl rfl rfl rfl List.nodup_nil rfl (Cq row hrl) (fun _ _ _=>Nat.zero_le _) (fun res R1 hP=>?_);obtain ⟨V,rfl,rfl⟩:=hP;exact ak.nil (qL (N1_1 V) (by kernel_rfl) rfl trivial)
   refine ZH.meet 6 (qB 8 5) (fun V=>((Vr,OA Vs)::(iu,CA [])::ig Vs (a.take i))) (fun V=>[(2,.d (dI most)),(3,.bx [.sl 1 (v.map aq)]),(6,.bx [.sl 1 [],.sl 1 [],dI 0,.sl 3 []]),(7,.d aQ),(8,.bx [.v Vr,.v iu,dI 1,aq [1]]),(22,.d (mZ a)),(23,.d (dI a.length)),(24,.d (dI i)),(10,.d (oO row)),(30,.d (oO row)),(28,.pt 8 0)]) (fun V=>?_) (fun N0_0=>?_)
   · refine ZH.two 1 3 (by kernel_rfl) rfl rfl rfl rfl (fun _=>rfl) (fun _=>rfl) trivial ?_ ?_
     · refine bN (fun B1 F1 w1=>?_);refine qU 1 rfl (ae.nil ⟨rfl,?_⟩);exact qL (N1_0 V) (by kernel_rfl) rfl trivial
     · refine ak.jF tok [] rfl rfl rfl rfl rfl List.nodup_nil rfl (Cq row hrl) (fun _ _ _=>Nat.zero_le _) (fun res R1 hP=>?_);obtain ⟨V,rfl,rfl⟩:=hP;exact ak.nil (qL (N0_1 V) (by kernel_rfl) rfl trivial)
   exact qL (N0_0 iu) (by kernel_rfl) rfl trivial
 have hii:i=a.length:=by have:=ar h;omega
 subst hii;rw[List.take_length];refine AZ.exit ?_;refine AZ.seq (AZ.seq ?_);refine AZ.iK (fun B1 F1 w1=>?_);refine qU 2 rfl (ae.nil ⟨rfl,?_⟩);refine AZ.block (AZ.aL [3,6,7,8,36,37] (fun z:Nat×Value×Value×List Value=>((z.2.1,OA z.2.2.2)::(z.2.2.1,CA (aF v a z.1).cols)::ig z.2.2.2 (aF v a z.1).rows,[(3,.bx [.sl 1 (v.map aq)]),(6,.bx [.sl 1 [],.sl 1 [],dI 0,.sl 3 []]),(7,.d aQ),(8,.bx [.v z.2.1,.v z.2.2.1,dI (aF v a z.1).sg,aq (aF v a z.1).ia]),(36,.d (dI most)),(37,.d (dI z.1))])) (fun z=>z.1≤most∧z.2.2.2.length=a.length) (fun z=>most-z.1) (0,Vr,iu,Vs) rfl ⟨Nat.zero_le _,hVs⟩ (fun z hz=>?_));clear hVs;clear Vr Vs;obtain ⟨c,Vr,Vc,Vs⟩:=z;obtain ⟨hc,hVs⟩:=hz
 dsimp only at hc hVs
 have hR:=kt V hr hl c;have hnext:aF v a (c+1)=cQ v (aF v a c) c:=rfl;have hok:=ok c;obtain ⟨s,hs⟩: ∃s,aF v a c=s:=⟨_,rfl⟩;rw[hs] at hR hnext hok;show AZ _ _ _ _ _ _ _ ((Vr,OA Vs)::(Vc,CA (aF v a c).cols)::ig Vs (aF v a c).rows) [(3,.bx [.sl 1 (v.map aq)]),(6,.bx [.sl 1 [],.sl 1 [],dI 0,.sl 3 []]),(7,.d aQ),(8,.bx [.v Vr,.v Vc,dI (aF v a c).sg,aq (aF v a c).ia]),(36,.d (dI most)),(37,.d (dI c))];rw[hs];refine AZ.seq (AZ.iK (fun B1 F1 w1=>?_));refine qU 1 rfl (ae.nil ⟨rfl,?_⟩);refine AZ.seq (AZ.cond rfl (fun h=>?_) (fun h=>?_));rotate_left
 · have hcm:c=most:=by have:=ar h;omega
   subst hcm;rw[hs];refine AZ.exit ?_;refine AZ.KS ((Vr,AV.ow 27 ((s.rows.take 0).map oO++(xQ Vs).drop 0))::(Vc,CA s.cols)::ig Vs s.rows) (fun _ _ h=> .inl h) ?_;refine AZ.H6 (te:=_) tok (e:=52) rfl rfl (by rw[hR.len];exact hVs) ?_ s.rows.length 0 (by omega) (ig Vs s.rows) (fun j _ hj=>j9 (by rw[hVs,← hR.len];exact hj) hj);refine AZ.DD tok 8 0 0 rfl rfl rfl rfl ?_;refine AZ.DD tok 8 1 1 rfl rfl rfl rfl ?_;refine AZ.seq (AZ.iK (fun B1 F1 w1=>?_));refine qU 3 rfl (ae.nil ⟨rfl,?_⟩);exact AZ.ret rfl
 have hcm:c<most:=by have:=ao h;omega
 have hok:=hok hcm;have hm:=hR.len;have hcN:c<N:=by omega
 have hVm:Vs.length=s.rows.length:=by omega
 have hrm:=hR.cm;rw[← hm] at hrm;obtain ⟨hat1,hat2,hat3,hat4⟩:=fo v s c hrm;have hrow0:0<s.rows.length:=by omega
 have hm6:s.rows.length≤1000000:=by omega
 have hel: ∀{b:cI} {i:Nat},dq N b→i<b.length→ ∀k,k<N→((b.getD i []).map aq)[k]?=some (aq (bm b i k)):=fun {b i} hb hi k hk=>getM aq (by rw[hb i hi];exact hk);refine AZ.skip (AZ.seq (AZ.block (AZ.seq ?_)));refine AZ.iK (fun B1 F1 w1=>?_);refine qU 2 rfl (ae.nil ⟨rfl,?_⟩);refine AZ.seq (AZ.region ?_);refine ak.cut 2 rfl (fun B1 F1 w1=>?_);refine qU 2 rfl (ae.nil ⟨rfl,?_⟩);refine ak.fp 41 1 rfl rfl rfl ?_;refine ak.cut 1 rfl (fun B1 F1 w1=>?_);refine qU 1 rfl ?_;rw[af];refine ae.nil ⟨rfl,?_⟩;refine ak.back 41 1 rfl rfl rfl (List.Mem.head _) rfl ?_;refine ak.cut 1 rfl (fun B1 F1 w1=>?_);refine qU 1 rfl (ae.nil ⟨rfl,?_⟩);refine ak.nil (AZ.to [3,6,7,8,11,12,36,37] [(3,.bx [.sl 1 (v.map aq)]),(6,.bx [.sl 1 [],.sl 1 [],dI 0,.sl 3 []]),(7,.d aQ),(8,.bx [.v Vr,.v Vc,dI s.sg,aq s.ia]),(11,.d (dI c)),(12,.d (dI s.cols.length)),(36,.d (dI most)),(37,.d (dI c))] rfl ?_);refine AZ.seq (AZ.iK (fun B1 F1 w1=>?_));refine qU 2 rfl (ae.nil ⟨rfl,?_⟩);refine AZ.cut [3,6,7,8,11,12,13,36,37] (fun _:Unit=>(((Vr,OA Vs)::(Vc,CA s.cols)::ig Vs s.rows),[(3,.bx [.sl 1 (v.map aq)]),(6,.bx [.sl 1 [],.sl 1 [],dI 0,.sl 3 []]),(7,.d aQ),(8,.bx [.v Vr,.v Vc,dI s.sg,aq s.ia]),(11,.d (dI c)),(12,.d (dI s.cols.length)),(13,.d (dI (atR v s c))),(36,.d (dI most)),(37,.d (dI c))])) (fun _=>True) ?_ (fun _ _=>?_)
 · refine AZ.block (AZ.aL [3,6,7,8,11,12,13,36,37] (fun j:Nat=>(((Vr,OA Vs)::(Vc,CA s.cols)::ig Vs s.rows),[(3,.bx [.sl 1 (v.map aq)]),(6,.bx [.sl 1 [],.sl 1 [],dI 0,.sl 3 []]),(7,.d aQ),(8,.bx [.v Vr,.v Vc,dI s.sg,aq s.ia]),(11,.d (dI c)),(12,.d (dI s.cols.length)),(13,.d (dI j)),(36,.d (dI most)),(37,.d (dI c))])) (fun j=>s.cols.length≤j∧j≤s.rows.length∧j5 (MP v s.rows c) (s.rows.length-j) j=atR v s c) (fun j=>s.rows.length-j) s.cols.length rfl ⟨ai _,hrm,rfl⟩ (fun j hj=>?_));show AZ _ _ _ _ _ _ _ ((Vr,OA Vs)::(Vc,CA s.cols)::ig Vs s.rows) [(3,.bx [.sl 1 (v.map aq)]),(6,.bx [.sl 1 [],.sl 1 [],dI 0,.sl 3 []]),(7,.d aQ),(8,.bx [.v Vr,.v Vc,dI s.sg,aq s.ia]),(11,.d (dI c)),(12,.d (dI s.cols.length)),(13,.d (dI j)),(36,.d (dI most)),(37,.d (dI c))];obtain ⟨j1,j2,j3⟩:=hj;refine AZ.seq (AZ.seq ?_);refine AZ.any aS (lX.Cn 18 (by kernel_rfl) (fun B1 F1 w1 hS=>?_));have hS0:=hS.at (i:=0) rfl (by rw[af];omega);refine qP 3 rfl (ah.lens tok hS0 rfl rfl rfl rfl rfl ?_);rw[af];refine qP 1 rfl ?_;by_cases hjm:j<s.rows.length;rotate_left
   · rw[Cd hjm] at j3;rw[a7 (show ¬(j:Int)<(Vs.length:Int) by omega)];refine qP 13 rfl (ah.nil ⟨rfl,?_⟩);refine ak.nil (AZ.aH rfl ?_);exact AZ.exit ⟨(),by rw[← j3];rfl,trivial⟩
   rw[aO (show (j:Int)<(Vs.length:Int) by omega)];have hj6:(s.rows.getD j []).length=N:=hR.rect j hjm;have hS1:=hS.at (i:=j+2) (j9 (Vs:=Vs) (by omega) hjm) (by rw[af];omega);have cs:=nK V (hR.lt j c) (hok.sg j j1 hjm);have hnz:MP v s.rows c j=decide (rQ v (bm s.rows j c)≠0):=rfl;generalize rQ v (bm s.rows j c)=g at cs hnz;refine qP 5 rfl ?_;refine ah.idxs tok hS0 rfl rfl rfl rfl rfl (aj j) (by rw[af];omega) ?_;refine ah.eH tok (.v (Vs.getD j undef)) hS0 rfl rfl rfl rfl rfl rfl rfl (iO (by omega)) rfl ?_;refine qP 1 rfl ?_;refine ah.idxs tok hS1 rfl rfl rfl rfl rfl (aj c) (by rw[af];omega) ?_;refine ah.eH tok (aq (bm s.rows j c)) hS1 rfl rfl rfl rfl rfl rfl rfl (hel hR.rect hjm c hcN) rfl ?_;refine qQ rfl cs (qP 2 rfl (ah.nil ⟨rfl,?_⟩));refine ak.nil ?_;refine AZ.cond rfl (fun h=>?_) (fun h=>?_)
   · have hg:g=0:=beq_iff_eq.1 h;refine AZ.skip (AZ.block ?_);refine AZ.iK (fun B1 F1 w1=>?_);refine qU 2 rfl ?_;rw[aI (x:=(j:Int)+1) (by omega) (by omega)];refine qU 1 rfl (ae.nil ⟨rfl,?_⟩);exact⟨j+1,rfl,⟨by omega,hjm,by rw[← yJ hjm (by rw[hnz,hg];rfl)];exact j3⟩,by omega⟩
   · have hg:g≠0:=beq_eq_false_iff_ne.1 h;rw[Cc hjm (by rw[hnz,aO hg])] at j3;exact AZ.exit ⟨(),by rw[← j3];rfl,trivial⟩
 show AZ _ _ _ _ _ _ _ ((Vr,OA Vs)::(Vc,CA s.cols)::ig Vs s.rows) [(3,.bx [.sl 1 (v.map aq)]),(6,.bx [.sl 1 [],.sl 1 [],dI 0,.sl 3 []]),(7,.d aQ),(8,.bx [.v Vr,.v Vc,dI s.sg,aq s.ia]),(11,.d (dI c)),(12,.d (dI s.cols.length)),(13,.d (dI (atR v s c))),(36,.d (dI most)),(37,.d (dI c))];refine AZ.seq (AZ.seq ?_);refine AZ.Hh (fun B1 F1 w1 hS=>?_);refine qU 3 rfl ?_;refine ae.lens tok (hS.at (i:=0) rfl (by rw[af];omega)) rfl rfl rfl rfl ?_;rw[af];refine qU 1 rfl (ae.nil ⟨rfl,?_⟩);refine AZ.cond rfl (fun h=>?_) (fun h=>?_)
 · have hat: ¬atR v s c<s.rows.length:=by have:=ao h;omega
   have hst:aF v a (c+1)=s:=by rw[hnext];unfold cQ;rw[if_neg hat]
   refine AZ.exit ?_;refine AZ.iK (fun B1 F1 w1=>?_);refine qU 1 rfl ?_;rw[aI (x:=(c:Int)+1) (by omega) (by omega)];refine qU 1 rfl (ae.nil ⟨rfl,?_⟩);exact⟨(c+1,Vr,Vc,Vs),by rw[hst];rfl,⟨hcm,hVs⟩,by show most-(c+1)<most-c;omega⟩
 have hat:atR v s c<s.rows.length:=by have:=ar h;omega
 have hst:aF v a (c+1)=⟨dD v (eR v s c) s.cols.length c (eR v s c).length,s.cols++[c],if atR v s c=s.cols.length then s.sg else -s.sg,fT v s.ia (pR v s c)⟩:=by rw[hnext];unfold cQ;rw[if_pos hat]
 obtain ⟨hb1,hb2,hb3⟩:=rM (c:=c) hR hat;obtain ⟨he1,he2,he3⟩:=yR V (c:=c) hR hat;have hbr:bR v s c=if atR v s c=s.cols.length then s.rows else GN s.rows s.cols.length (atR v s c):=rfl
 have hpr:pR v s c=bm (bR v s c) s.cols.length c:=rfl;have hE:eR v s c=(bR v s c).set s.cols.length (Gl v ((bR v s c).getD s.cols.length []) (pR v s c)):=rfl;have okd:=hok.ia hat;have okv:=hok.div hat;have oks:=hok.sg2 hat;have okt:=hok.take hat;generalize bR v s c=b at *;generalize pR v s c=p at *;generalize eR v s c=e at *;generalize atR v s c=t at *;refine AZ.skip ?_;refine AZ.cut [3,6,7,8,11,12,36,37] (fun Ws:List Value=>(((Vr,OA Ws)::(Vc,CA s.cols)::ig Ws b),[(3,.bx [.sl 1 (v.map aq)]),(6,.bx [.sl 1 [],.sl 1 [],dI 0,.sl 3 []]),(7,.d aQ),(8,.bx [.v Vr,.v Vc,dI (if t=s.cols.length then s.sg else -s.sg),aq s.ia]),(11,.d (dI c)),(12,.d (dI s.cols.length)),(36,.d (dI most)),(37,.d (dI c))])) (fun Ws=>Ws.length=b.length) ?_ (fun Ws hWs=>?_)
 · refine AZ.seq (AZ.iK (fun B1 F1 w1=>?_));refine qU 3 rfl (ae.nil ⟨rfl,?_⟩);by_cases htr:t=s.cols.length
   · rw[if_pos htr] at hbr;rw[bne_eq_false_iff_eq.2 (show (t:Int)=(s.cols.length:Int) by omega)];refine AZ.aH rfl ?_;refine AZ.skip ?_;exact⟨Vs,by rw[if_pos htr,hbr];rfl,by omega⟩
   rw[if_neg htr] at hbr;rw[bne_iff_ne.2 (show (t:Int)≠(s.cols.length:Int) by omega)];refine AZ.aJ rfl ?_;refine AZ.seq (AZ.any aS (ZH.any (β:=[(8,[.v Vr,.v Vc,dI s.sg,aq s.ia])]) ?_));refine ZH.mv 2 rfl rfl (by kernel_rfl) (by kernel_rfl) (by kernel_rfl) rfl (fun _ _ _ h=>h) (fun _=>rfl) ⟨rfl,trivial⟩ (fun B1 F1 w1=>?_);refine qU 1 rfl (ae.nil ⟨rfl,?_⟩);refine ZH.mv 5 rfl rfl (by kernel_rfl) (by kernel_rfl) (by kernel_rfl) rfl (fun _ _ _ h=>h) (fun _=>rfl) ⟨rfl,trivial⟩ (fun B1 F1 w1=>?_);refine qU 1 rfl (ae.nil ⟨rfl,?_⟩);refine ZH.mv 8 rfl rfl (by kernel_rfl) (by kernel_rfl) (by kernel_rfl) rfl (fun _ _ _ h=>h) (fun _=>rfl) ⟨rfl,trivial⟩ (fun B1 F1 w1=>?_);refine qU 1 rfl (ae.nil ⟨rfl,?_⟩);refine ZH.mv 13 rfl rfl (by kernel_rfl) (by kernel_rfl) (by kernel_rfl) rfl (fun _ _ _ h=>h) (fun _=>rfl) ⟨rfl,trivial⟩ (fun B1 F1 w1=>?_);refine qU 1 rfl (ae.nil ⟨rfl,?_⟩);refine ZH.fd tok 0 rfl rfl (by kernel_rfl) (by kernel_rfl) (by kernel_rfl) rfl (fun _ _ _ h=>h) (fun _=>rfl) ⟨rfl,trivial⟩ (fun B1 F1 w1=>?_);refine qU 1 rfl (ae.nil ⟨rfl,?_⟩);refine ZH.fd tok 3 rfl rfl (by kernel_rfl) (by kernel_rfl) (by kernel_rfl) rfl (fun _ _ _ h=>h) (fun _=>rfl) ⟨rfl,trivial⟩ (fun B1 F1 w1=>?_);refine qU 1 rfl (ae.nil ⟨rfl,?_⟩);refine ZH.fd tok 6 rfl rfl (by kernel_rfl) (by kernel_rfl) (by kernel_rfl) rfl (fun _ _ _ h=>h) (fun _=>rfl) ⟨rfl,trivial⟩ (fun B1 F1 w1=>?_);refine qU 1 rfl (ae.nil ⟨rfl,?_⟩);refine ZH.fd tok 11 rfl rfl (by kernel_rfl) (by kernel_rfl) (by kernel_rfl) rfl (fun _ _ _ h=>h) (fun _=>rfl) ⟨rfl,trivial⟩ (fun B1 F1 w1=>?_);refine qU 1 rfl (ae.nil ⟨rfl,?_⟩);refine ZH.ld tok 1 rfl rfl (by kernel_rfl) (by kernel_rfl) (by kernel_rfl) rfl rfl (fun _ _ _ h=>h) (fun _=>rfl) ⟨rfl,trivial⟩ (fun B1 F1 w1=>?_);refine qU 1 rfl (ae.nil ⟨rfl,?_⟩);refine ZH.ld tok 4 rfl rfl (by kernel_rfl) (by kernel_rfl) (by kernel_rfl) rfl rfl (fun _ _ _ h=>h) (fun _=>rfl) ⟨rfl,trivial⟩ (fun B1 F1 w1=>?_);refine qU 1 rfl (ae.nil ⟨rfl,?_⟩);refine ZH.ld tok 7 rfl rfl (by kernel_rfl) (by kernel_rfl) (by kernel_rfl) rfl rfl (fun _ _ _ h=>h) (fun _=>rfl) ⟨rfl,trivial⟩ (fun B1 F1 w1=>?_);refine qU 1 rfl (ae.nil ⟨rfl,?_⟩);refine ZH.ld tok 12 rfl rfl (by kernel_rfl) (by kernel_rfl) (by kernel_rfl) rfl rfl (fun _ _ _ h=>h) (fun _=>rfl) ⟨rfl,trivial⟩ (fun B1 F1 w1=>?_);refine qU 1 rfl (ae.nil ⟨rfl,?_⟩);refine ZH.meet 4 (qB 20 65535) (fun V=>((Vr,OA Vs)::(Vc,CA s.cols)::ig Vs s.rows)) (fun V=>[(3,.bx [.sl 1 (v.map aq)]),(6,.bx [.sl 1 [],.sl 1 [],dI 0,.sl 3 []]),(7,.d aQ),(8,.bx [.v Vr,.v Vc,dI s.sg,aq s.ia]),(11,.d (dI c)),(12,.d (dI s.cols.length)),(13,.d (dI t)),(36,.d (dI most)),(37,.d (dI c)),(73,.d (.v Vr)),(74,.d (dI t)),(76,.d (.v Vr)),(77,.d (dI s.cols.length)),(79,.d (.v Vr)),(80,.d (dI s.cols.length)),(84,.d (.v Vr)),(85,.d (dI t)),(82,.d (.v (Vs.getD s.cols.length undef))),(87,.d (.v (Vs.getD t undef)))]) (fun V=>?_) (fun N2_2=>?_)
   · refine ZH.all 16 (by kernel_rfl) rfl rfl (fun _=>rfl) ⟨rfl,trivial⟩ ?_;refine bH (fun B1 F1 w1 hS=>?_);refine ae.idxs tok (hS.at (i:=0) rfl (by rw[af];omega)) rfl rfl rfl rfl (aj _) (by show t<_;rw[af];omega) ?_;refine ae.nil ⟨rfl,?_⟩;refine ZH.to [3,6,7,8,11,12,13,36,37,73,74,76,77,79,80,84,85,82,87,88] [(3,.bx [.sl 1 (v.map aq)]),(6,.bx [.sl 1 [],.sl 1 [],dI 0,.sl 3 []]),(7,.d aQ),(8,.bx [.v Vr,.v Vc,dI s.sg,aq s.ia]),(11,.d (dI c)),(12,.d (dI s.cols.length)),(13,.d (dI t)),(36,.d (dI most)),(37,.d (dI c)),(73,.d (.v Vr)),(74,.d (dI t)),(76,.d (.v Vr)),(77,.d (dI s.cols.length)),(79,.d (.v Vr)),(80,.d (dI s.cols.length)),(84,.d (.v Vr)),(85,.d (dI t)),(82,.d (.v (Vs.getD s.cols.length undef))),(87,.d (.v (Vs.getD t undef))),(88,.d (.v (fh Vr (t*1))))] rfl ⟨rfl,trivial⟩ ?_;refine ZH.all 17 (by kernel_rfl) rfl rfl (fun _=>rfl) ⟨rfl,trivial⟩ ?_;refine ak.fp 73 0 rfl rfl rfl ?_;refine ak.el tok 73 88 rfl (List.Mem.head _) rfl rfl rfl (by rw[af];omega) rfl ?_;refine ak.cut 1 rfl (fun B1 F1 w1=>?_);refine ae.Ef tok (Vs.getD s.cols.length undef) rfl rfl rfl (by omega) ?_;refine ae.nil ⟨rfl,?_⟩;refine ak.back 73 0 rfl rfl rfl (List.Mem.head _) rfl ?_;refine ak.nil (ZH.to [3,6,7,8,11,12,13,36,37,73,74,76,77,79,80,84,85,82,87] [(3,.bx [.sl 1 (v.map aq)]),(6,.bx [.sl 1 [],.sl 1 [],dI 0,.sl 3 []]),(7,.d aQ),(8,.bx [.v Vr,.v Vc,dI s.sg,aq s.ia]),(11,.d (dI c)),(12,.d (dI s.cols.length)),(13,.d (dI t)),(36,.d (dI most)),(37,.d (dI c)),(73,.d (.v Vr)),(74,.d (dI t)),(76,.d (.v Vr)),(77,.d (dI s.cols.length)),(79,.d (.v Vr)),(80,.d (dI s.cols.length)),(84,.d (.v Vr)),(85,.d (dI t)),(82,.d (.v (Vs.getD s.cols.length undef))),(87,.d (.v (Vs.getD t undef)))] rfl ⟨rfl,trivial⟩ ?_);refine ZH.all 18 (by kernel_rfl) rfl rfl (fun _=>rfl) ⟨rfl,trivial⟩ ?_;refine bH (fun B1 F1 w1 hS=>?_);refine ae.idxs tok (hS.at (i:=0) rfl (by rw[af,List.length_set];omega)) rfl rfl rfl rfl (aj _) (by show s.cols.length<_;rw[af,List.length_set];omega) ?_;refine ae.nil ⟨rfl,?_⟩;refine ZH.to [3,6,7,8,11,12,13,36,37,73,74,76,77,79,80,84,85,82,87,89] [(3,.bx [.sl 1 (v.map aq)]),(6,.bx [.sl 1 [],.sl 1 [],dI 0,.sl 3 []]),(7,.d aQ),(8,.bx [.v Vr,.v Vc,dI s.sg,aq s.ia]),(11,.d (dI c)),(12,.d (dI s.cols.length)),(13,.d (dI t)),(36,.d (dI most)),(37,.d (dI c)),(73,.d (.v Vr)),(74,.d (dI t)),(76,.d (.v Vr)),(77,.d (dI s.cols.length)),(79,.d (.v Vr)),(80,.d (dI s.cols.length)),(84,.d (.v Vr)),(85,.d (dI t)),(82,.d (.v (Vs.getD s.cols.length undef))),(87,.d (.v (Vs.getD t undef))),(89,.d (.v (fh Vr (s.cols.length*1))))] rfl ⟨rfl,trivial⟩ ?_;refine ZH.all 19 (by kernel_rfl) rfl rfl (fun _=>rfl) ⟨rfl,trivial⟩ ?_;refine ak.fp 76 0 rfl rfl rfl ?_;refine ak.el tok 76 89 rfl (List.Mem.head _) rfl rfl rfl (by rw[af,List.length_set];omega) rfl ?_;refine ak.cut 1 rfl (fun B1 F1 w1=>?_);refine ae.Ef tok (Vs.getD t undef) rfl rfl rfl (by rw[List.length_set];omega) ?_;refine ae.nil ⟨rfl,?_⟩;refine ak.back 76 0 rfl rfl rfl (List.Mem.head _) rfl ?_;refine ak.nil (ZH.done (by kernel_rfl) ⟨rfl,trivial⟩ ?_);refine AZ.to [3,6,7,8,11,12,13,36,37] [(3,.bx [.sl 1 (v.map aq)]),(6,.bx [.sl 1 [],.sl 1 [],dI 0,.sl 3 []]),(7,.d aQ),(8,.bx [.v Vr,.v Vc,dI s.sg,aq s.ia]),(11,.d (dI c)),(12,.d (dI s.cols.length)),(13,.d (dI t)),(36,.d (dI most)),(37,.d (dI c))] rfl ?_;refine AZ.GL (t+2) (s.cols.length+2) (j9 (Vs:=Vs) (by omega) hat) (j9 (Vs:=Vs) (by omega) (by omega)) ?_;show AZ _ _ _ _ _ _ _ ((Vr,OA (Mq Vs s.cols.length t))::(Vc,CA s.cols)::((ig Vs s.rows).set t (Vs.getD s.cols.length undef,iM (s.rows.getD s.cols.length []))).set s.cols.length (Vs.getD t undef,iM (s.rows.getD t []))) _;rw[I5 (by omega) (by omega) hat,← hbr];refine AZ.iK (fun B1 F1 w1=>?_);refine qU 3 rfl ?_;rw[aI (x:=0-s.sg) (by have:=hR.sg;omega) (by have:=hR.sg;omega),Int.zero_sub];refine qU 2 rfl (ae.nil ⟨rfl,?_⟩);exact⟨Mq Vs s.cols.length t,by rw[if_neg htr];rfl,by show (Mq Vs s.cols.length t).length=_;rw[Jp,hb1];omega⟩
   refine ZH.meet 5 (qB 20 64511) (fun V=>((Vr,OA Vs)::(Vc,CA s.cols)::ig Vs s.rows)) (fun V=>[(3,.bx [.sl 1 (v.map aq)]),(6,.bx [.sl 1 [],.sl 1 [],dI 0,.sl 3 []]),(7,.d aQ),(8,.bx [.v Vr,.v Vc,dI s.sg,aq s.ia]),(11,.d (dI c)),(12,.d (dI s.cols.length)),(13,.d (dI t)),(36,.d (dI most)),(37,.d (dI c)),(73,.d (.v Vr)),(74,.d (dI t)),(76,.d (.v Vr)),(77,.d (dI s.cols.length)),(79,.d (.v Vr)),(80,.d (dI s.cols.length)),(84,.d (.v Vr)),(85,.d (dI t)),(81,.d (.v (fh Vr (s.cols.length*1)))),(87,.d (.v (Vs.getD t undef)))]) (fun V=>?_) (fun N1_2=>?_)
   · refine ZH.all 10 (by kernel_rfl) rfl rfl (fun _=>rfl) ⟨rfl,trivial⟩ ?_;refine bH (fun B1 F1 w1 hS=>?_);refine ae.eH tok (.v (Vs.getD s.cols.length undef)) (hS.at (i:=0) rfl (by rw[af];omega)) rfl rfl rfl rfl rfl rfl (iO (by omega)) rfl ?_;refine ae.nil ⟨rfl,?_⟩;exact qL (N2_2 V) (by kernel_rfl) rfl ⟨rfl,trivial⟩
   refine ZH.meet 5 (qB 20 32767) (fun V=>((Vr,OA Vs)::(Vc,CA s.cols)::ig Vs s.rows)) (fun V=>[(3,.bx [.sl 1 (v.map aq)]),(6,.bx [.sl 1 [],.sl 1 [],dI 0,.sl 3 []]),(7,.d aQ),(8,.bx [.v Vr,.v Vc,dI s.sg,aq s.ia]),(11,.d (dI c)),(12,.d (dI s.cols.length)),(13,.d (dI t)),(36,.d (dI most)),(37,.d (dI c)),(73,.d (.v Vr)),(74,.d (dI t)),(76,.d (.v Vr)),(77,.d (dI s.cols.length)),(79,.d (.v Vr)),(80,.d (dI s.cols.length)),(84,.d (.v Vr)),(85,.d (dI t)),(82,.d (.v (Vs.getD s.cols.length undef))),(86,.d (.v (fh Vr (t*1))))]) (fun V=>?_) (fun N2_1=>?_)
   · refine ZH.all 15 (by kernel_rfl) rfl rfl (fun _=>rfl) ⟨rfl,trivial⟩ ?_;refine bH (fun B1 F1 w1 hS=>?_);refine ae.eH tok (.v (Vs.getD t undef)) (hS.at (i:=0) rfl (by rw[af];omega)) rfl rfl rfl rfl rfl rfl (iO (by omega)) rfl ?_;refine ae.nil ⟨rfl,?_⟩;exact qL (N2_2 V) (by kernel_rfl) rfl ⟨rfl,trivial⟩
   refine ZH.meet 6 (qB 20 63999) (fun V=>((Vr,OA Vs)::(Vc,CA s.cols)::ig Vs s.rows)) (fun V=>[(3,.bx [.sl 1 (v.map aq)]),(6,.bx [.sl 1 [],.sl 1 [],dI 0,.sl 3 []]),(7,.d aQ),(8,.bx [.v Vr,.v Vc,dI s.sg,aq s.ia]),(11,.d (dI c)),(12,.d (dI s.cols.length)),(13,.d (dI t)),(36,.d (dI most)),(37,.d (dI c)),(73,.d (.v Vr)),(74,.d (dI t)),(76,.d (.v Vr)),(77,.d (dI s.cols.length)),(79,.d (.v Vr)),(80,.d (dI s.cols.length)),(84,.d (.v Vr)),(85,.d (dI t)),(87,.d (.v (Vs.getD t undef)))]) (fun V=>?_) (fun N0_2=>?_)
   · refine ZH.all 9 (by kernel_rfl) rfl rfl (fun _=>rfl) ⟨rfl,trivial⟩ ?_;refine bH (fun B1 F1 w1 hS=>?_);refine ae.idxs tok (hS.at (i:=0) rfl (by rw[af];omega)) rfl rfl rfl rfl (aj _) (by show s.cols.length<_;rw[af];omega) ?_;refine ae.nil ⟨rfl,?_⟩;exact qL (N1_2 V) (by kernel_rfl) rfl ⟨rfl,trivial⟩
   refine ZH.meet 6 (qB 20 31743) (fun V=>((Vr,OA Vs)::(Vc,CA s.cols)::ig Vs s.rows)) (fun V=>[(3,.bx [.sl 1 (v.map aq)]),(6,.bx [.sl 1 [],.sl 1 [],dI 0,.sl 3 []]),(7,.d aQ),(8,.bx [.v Vr,.v Vc,dI s.sg,aq s.ia]),(11,.d (dI c)),(12,.d (dI s.cols.length)),(13,.d (dI t)),(36,.d (dI most)),(37,.d (dI c)),(73,.d (.v Vr)),(74,.d (dI t)),(76,.d (.v Vr)),(77,.d (dI s.cols.length)),(79,.d (.v Vr)),(80,.d (dI s.cols.length)),(84,.d (.v Vr)),(85,.d (dI t)),(81,.d (.v (fh Vr (s.cols.length*1)))),(86,.d (.v (fh Vr (t*1))))]) (fun V=>?_) (fun N1_1=>?_)
   · refine ZH.two 10 15 (by kernel_rfl) rfl rfl rfl rfl (fun _=>rfl) (fun _=>rfl) ⟨rfl,trivial⟩ ?_ ?_
     · refine bH (fun B1 F1 w1 hS=>?_);refine ae.eH tok (.v (Vs.getD s.cols.length undef)) (hS.at (i:=0) rfl (by rw[af];omega)) rfl rfl rfl rfl rfl rfl (iO (by omega)) rfl ?_;refine ae.nil ⟨rfl,?_⟩;exact qL (N2_1 V) (by kernel_rfl) rfl ⟨rfl,trivial⟩
     · refine bH (fun B1 F1 w1 hS=>?_);refine ae.eH tok (.v (Vs.getD t undef)) (hS.at (i:=0) rfl (by rw[af];omega)) rfl rfl rfl rfl rfl rfl (iO (by omega)) rfl ?_;refine ae.nil ⟨rfl,?_⟩;exact qL (N1_2 V) (by kernel_rfl) rfl ⟨rfl,trivial⟩
   refine ZH.meet 6 (qB 20 16383) (fun V=>((Vr,OA Vs)::(Vc,CA s.cols)::ig Vs s.rows)) (fun V=>[(3,.bx [.sl 1 (v.map aq)]),(6,.bx [.sl 1 [],.sl 1 [],dI 0,.sl 3 []]),(7,.d aQ),(8,.bx [.v Vr,.v Vc,dI s.sg,aq s.ia]),(11,.d (dI c)),(12,.d (dI s.cols.length)),(13,.d (dI t)),(36,.d (dI most)),(37,.d (dI c)),(73,.d (.v Vr)),(74,.d (dI t)),(76,.d (.v Vr)),(77,.d (dI s.cols.length)),(79,.d (.v Vr)),(80,.d (dI s.cols.length)),(84,.d (.v Vr)),(85,.d (dI t)),(82,.d (.v (Vs.getD s.cols.length undef)))]) (fun V=>?_) (fun N2_0=>?_)
   · refine ZH.all 14 (by kernel_rfl) rfl rfl (fun _=>rfl) ⟨rfl,trivial⟩ ?_;refine bH (fun B1 F1 w1 hS=>?_);refine ae.idxs tok (hS.at (i:=0) rfl (by rw[af];omega)) rfl rfl rfl rfl (aj _) (by show t<_;rw[af];omega) ?_;refine ae.nil ⟨rfl,?_⟩;exact qL (N2_1 V) (by kernel_rfl) rfl ⟨rfl,trivial⟩
   refine ZH.meet 7 (qB 20 31231) (fun V=>((Vr,OA Vs)::(Vc,CA s.cols)::ig Vs s.rows)) (fun V=>[(3,.bx [.sl 1 (v.map aq)]),(6,.bx [.sl 1 [],.sl 1 [],dI 0,.sl 3 []]),(7,.d aQ),(8,.bx [.v Vr,.v Vc,dI s.sg,aq s.ia]),(11,.d (dI c)),(12,.d (dI s.cols.length)),(13,.d (dI t)),(36,.d (dI most)),(37,.d (dI c)),(73,.d (.v Vr)),(74,.d (dI t)),(76,.d (.v Vr)),(77,.d (dI s.cols.length)),(79,.d (.v Vr)),(80,.d (dI s.cols.length)),(84,.d (.v Vr)),(85,.d (dI t)),(86,.d (.v (fh Vr (t*1))))]) (fun V=>?_) (fun N0_1=>?_)
   · refine ZH.two 9 15 (by kernel_rfl) rfl rfl rfl rfl (fun _=>rfl) (fun _=>rfl) ⟨rfl,trivial⟩ ?_ ?_
     · refine bH (fun B1 F1 w1 hS=>?_);refine ae.idxs tok (hS.at (i:=0) rfl (by rw[af];omega)) rfl rfl rfl rfl (aj _) (by show s.cols.length<_;rw[af];omega) ?_;refine ae.nil ⟨rfl,?_⟩;exact qL (N1_1 V) (by kernel_rfl) rfl ⟨rfl,trivial⟩
     · refine bH (fun B1 F1 w1 hS=>?_);refine ae.eH tok (.v (Vs.getD t undef)) (hS.at (i:=0) rfl (by rw[af];omega)) rfl rfl rfl rfl rfl rfl (iO (by omega)) rfl ?_;refine ae.nil ⟨rfl,?_⟩;exact qL (N0_2 V) (by kernel_rfl) rfl ⟨rfl,trivial⟩
   refine ZH.meet 7 (qB 20 15359) (fun V=>((Vr,OA Vs)::(Vc,CA s.cols)::ig Vs s.rows)) (fun V=>[(3,.bx [.sl 1 (v.map aq)]),(6,.bx [.sl 1 [],.sl 1 [],dI 0,.sl 3 []]),(7,.d aQ),(8,.bx [.v Vr,.v Vc,dI s.sg,aq s.ia]),(11,.d (dI c)),(12,.d (dI s.cols.length)),(13,.d (dI t)),(36,.d (dI most)),(37,.d (dI c)),(73,.d (.v Vr)),(74,.d (dI t)),(76,.d (.v Vr)),(77,.d (dI s.cols.length)),(79,.d (.v Vr)),(80,.d (dI s.cols.length)),(84,.d (.v Vr)),(85,.d (dI t)),(81,.d (.v (fh Vr (s.cols.length*1))))]) (fun V=>?_) (fun N1_0=>?_)
   · refine ZH.two 10 14 (by kernel_rfl) rfl rfl rfl rfl (fun _=>rfl) (fun _=>rfl) ⟨rfl,trivial⟩ ?_ ?_
     · refine bH (fun B1 F1 w1 hS=>?_);refine ae.eH tok (.v (Vs.getD s.cols.length undef)) (hS.at (i:=0) rfl (by rw[af];omega)) rfl rfl rfl rfl rfl rfl (iO (by omega)) rfl ?_;refine ae.nil ⟨rfl,?_⟩;exact qL (N2_0 V) (by kernel_rfl) rfl ⟨rfl,trivial⟩
     · refine bH (fun B1 F1 w1 hS=>?_);refine ae.idxs tok (hS.at (i:=0) rfl (by rw[af];omega)) rfl rfl rfl rfl (aj _) (by show t<_;rw[af];omega) ?_;refine ae.nil ⟨rfl,?_⟩;exact qL (N1_1 V) (by kernel_rfl) rfl ⟨rfl,trivial⟩
   refine ZH.meet 8 (qB 20 14847) (fun V=>((Vr,OA Vs)::(Vc,CA s.cols)::ig Vs s.rows)) (fun V=>[(3,.bx [.sl 1 (v.map aq)]),(6,.bx [.sl 1 [],.sl 1 [],dI 0,.sl 3 []]),(7,.d aQ),(8,.bx [.v Vr,.v Vc,dI s.sg,aq s.ia]),(11,.d (dI c)),(12,.d (dI s.cols.length)),(13,.d (dI t)),(36,.d (dI most)),(37,.d (dI c)),(73,.d (.v Vr)),(74,.d (dI t)),(76,.d (.v Vr)),(77,.d (dI s.cols.length)),(79,.d (.v Vr)),(80,.d (dI s.cols.length)),(84,.d (.v Vr)),(85,.d (dI t))]) (fun V=>?_) (fun N0_0=>?_)
   · refine ZH.two 9 14 (by kernel_rfl) rfl rfl rfl rfl (fun _=>rfl) (fun _=>rfl) ⟨rfl,trivial⟩ ?_ ?_
     · refine bH (fun B1 F1 w1 hS=>?_);refine ae.idxs tok (hS.at (i:=0) rfl (by rw[af];omega)) rfl rfl rfl rfl (aj _) (by show s.cols.length<_;rw[af];omega) ?_;refine ae.nil ⟨rfl,?_⟩;exact qL (N1_0 V) (by kernel_rfl) rfl ⟨rfl,trivial⟩
     · refine bH (fun B1 F1 w1 hS=>?_);refine ae.idxs tok (hS.at (i:=0) rfl (by rw[af];omega)) rfl rfl rfl rfl (aj _) (by show t<_;rw[af];omega) ?_;refine ae.nil ⟨rfl,?_⟩;exact qL (N0_1 V) (by kernel_rfl) rfl ⟨rfl,trivial⟩
   exact qL (N0_0 iu) (by kernel_rfl) rfl ⟨rfl,trivial⟩
 obtain ⟨sg,hsg⟩: ∃sg,(if t=s.cols.length then s.sg else -s.sg)=sg:=⟨_,rfl⟩;obtain ⟨r,hrr⟩: ∃r,s.cols.length=r:=⟨_,rfl⟩;have hrb:r<b.length:=by omega
 have hrN:(b.getD r []).length=N:=hb2 r hrb;have okc:=ve V hR.ia (by rw[hpr];exact hb3 _ _) okd;rw[hsg] at hst;rw[hrr] at hst hpr hE okv oks okt;show AZ _ _ _ _ _ _ _ ((Vr,OA Ws)::(Vc,CA s.cols)::ig Ws b) [(3,.bx [.sl 1 (v.map aq)]),(6,.bx [.sl 1 [],.sl 1 [],dI 0,.sl 3 []]),(7,.d aQ),(8,.bx [.v Vr,.v Vc,dI (if t=s.cols.length then s.sg else -s.sg),aq s.ia]),(11,.d (dI c)),(12,.d (dI s.cols.length)),(36,.d (dI most)),(37,.d (dI c))];rw[hsg,hrr];refine AZ.seq (AZ.Hh (fun B1 F1 w1 hS=>?_));refine qU 3 rfl ?_;refine ae.idxs tok (hS.at (i:=0) rfl (by rw[af];omega)) rfl rfl rfl rfl (aj _) (by show r<_;rw[af];omega) ?_;refine ae.eH tok (.v (Ws.getD r undef)) (hS.at (i:=0) rfl (by rw[af];omega)) rfl rfl rfl rfl rfl rfl (iO (by omega)) rfl ?_;refine qU 1 rfl ?_;refine ae.idxs tok (hS.at (i:=r+2) (j9 (Vs:=Ws) (by omega) hrb) (by rw[af];omega)) rfl rfl rfl rfl (aj c) (by rw[af];omega) ?_;refine ae.eH tok (aq (bm b r c)) (hS.at (i:=r+2) (j9 (Vs:=Ws) (by omega) hrb) (by rw[af];omega)) rfl rfl rfl rfl rfl rfl (hel hb2 hrb c hcN) rfl ?_;rw[← hpr];refine qU 1 rfl (ae.nil ⟨rfl,?_⟩);refine AZ.seq (AZ.iK (fun B1 F1 w1=>?_));refine qU 1 rfl (ae.nil ⟨rfl,?_⟩);refine AZ.seq (AZ.seq ?_);refine AZ.iK (fun B1 F1 w1=>?_);refine qU 4 rfl (qM rfl okc (qU 6 rfl (ae.nil ⟨rfl,?_⟩)));refine AZ.seq (AZ.iK (fun B1 F1 w1=>?_));refine qU 1 rfl (qR rfl rfl (ae.nil ⟨rfl,?_⟩));refine AZ.aH rfl ?_;refine AZ.skip ?_;generalize fT v s.ia p=ia at *;obtain ⟨row,hrow⟩: ∃row,b.getD r []=row:=⟨_,rfl⟩;have hz:=zV v row p;have hsr: ∀k,bm b r k=row.getD k []:=fun k=>by unfold bm;rw[hrow]
 have hb0:ig Ws b=ig Ws (b.set r row):=by rw[← hrow,Bf hrb]
 have hgr: ∀q:List NQ,(ig Ws (b.set r q))[r]?=some (Ws.getD r undef,iM q):=fun q=>by
  rw[j9 (by omega) (by simpa using hrb),eJ,if_pos ⟨rfl,hrb⟩]
 rw[hrow] at hE hrN okv;rw[hb0];refine AZ.seq (AZ.seq ?_);refine AZ.Hh (fun B1 F1 w1 hS=>?_);refine qU 3 rfl ?_;refine ae.idxs tok (hS.at (i:=0) rfl (by rw[af];omega)) rfl rfl rfl rfl (aj _) (by show r<_;rw[af];omega) ?_;refine ae.eH tok (.v (Ws.getD r undef)) (hS.at (i:=0) rfl (by rw[af];omega)) rfl rfl rfl rfl rfl rfl (iO (by omega)) rfl ?_;refine ae.lens tok (hS.at (i:=r+2) (hgr row) (by rw[af];omega)) rfl rfl rfl rfl ?_;rw[af,hrN];refine qU 1 rfl (ae.nil ⟨rfl,?_⟩);refine AZ.block ?_;refine AZ.aL [3,6,7,8,11,12,14,36,37,120,121] (fun k:Nat=>(((Vr,OA Ws)::(Vc,CA s.cols)::ig Ws (b.set r (kB (Gl v row p) row k))),[(3,.bx [.sl 1 (v.map aq)]),(6,.bx [.sl 1 [],.sl 1 [],dI 0,.sl 3 []]),(7,.d aQ),(8,.bx [.v Vr,.v Vc,dI sg,aq ia]),(11,.d (dI c)),(12,.d (dI r)),(14,.d (aq p)),(36,.d (dI most)),(37,.d (dI c)),(120,.d (dI N)),(121,.d (dI k))])) (fun k=>k≤N) (fun k=>N-k) 0 (by rw[yE];rfl) (Nat.zero_le _) (fun k hk=>?_);show AZ _ _ _ _ _ _ _ ((Vr,OA Ws)::(Vc,CA s.cols)::ig Ws (b.set r (kB (Gl v row p) row k))) [(3,.bx [.sl 1 (v.map aq)]),(6,.bx [.sl 1 [],.sl 1 [],dI 0,.sl 3 []]),(7,.d aQ),(8,.bx [.v Vr,.v Vc,dI sg,aq ia]),(11,.d (dI c)),(12,.d (dI r)),(14,.d (aq p)),(36,.d (dI most)),(37,.d (dI c)),(120,.d (dI N)),(121,.d (dI k))];refine AZ.seq (AZ.iK (fun B1 F1 w1=>?_));refine qU 1 rfl (ae.nil ⟨rfl,?_⟩);refine AZ.seq ?_;refine AZ.cond rfl (fun h=>?_) (fun h=>?_)
 · have hkN:k<N:=by have:=ao h;omega
   have hpl:=v8 hz (i:=k) (by omega);have hpg:=BV hz (show k<row.length by omega) [];have hps:=BU hz (show k<row.length by omega) (d:=[]) (uF v row p (show k<row.length by omega));have cd:=CR V (a:=row.getD k []) (b:=p) (by rw[← hrow];exact hb3 r k) (by rw[hpr];exact hb3 _ _) (by have:=okv k (by omega);rw[hsr] at this;exact this);generalize kB (Gl v row p) row k=q at *;generalize row.getD k []=X at *;generalize xL v X p=Y at *;refine AZ.skip (AZ.seq (AZ.block (AZ.seq ?_)));refine AZ.iK (fun B1 F1 w1=>?_);refine qU 2 rfl (ae.nil ⟨rfl,?_⟩);refine AZ.seq (AZ.any aS (lX.Nl [(19,20)] (by kernel_rfl) (fun _ _ _ h=>h) (fun _ _ h=>h) (lX.Cn 20 (by kernel_rfl) (fun B1 F1 w1 hS=>?_))));have hS0:=hS.at (i:=0) rfl (by rw[af];omega);have hS1:=hS.at (i:=r+2) (hgr q) (by rw[af];omega);refine qP 3 rfl ?_;refine ah.idxs tok hS0 rfl rfl rfl rfl rfl (aj r) (by rw[af];omega) ?_;refine ah.eH tok (.v (Ws.getD r undef)) hS0 rfl rfl rfl rfl rfl rfl rfl (iO (by omega)) rfl ?_;refine qP 5 rfl ?_;refine ah.idxs tok hS0 rfl rfl rfl rfl rfl (aj r) (by rw[af];omega) ?_;refine ah.eH tok (.v (Ws.getD r undef)) hS0 rfl rfl rfl rfl rfl rfl rfl (iO (by omega)) rfl ?_;refine qP 1 rfl ?_;refine ah.idxs tok hS1 rfl rfl rfl rfl rfl (aj k) (by rw[af];omega) ?_;refine ah.eH tok (aq (q.getD k [])) hS1 rfl rfl rfl rfl rfl rfl rfl (getM aq (by omega)) rfl ?_;rw[hpg];refine qP 1 rfl (qQ rfl cd (qP 3 rfl (ah.nil ⟨rfl,?_⟩)));refine ak.to [129,130,142,143,3,6,7,8,11,12,14,36,37,120,121] [(129,.d (.v (Ws.getD r undef))),(130,.d (dI k)),(142,.d (aq Y)),(143,.d aQ),(3,.bx [.sl 1 (v.map aq)]),(6,.bx [.sl 1 [],.sl 1 [],dI 0,.sl 3 []]),(7,.d aQ),(8,.bx [.v Vr,.v Vc,dI sg,aq ia]),(11,.d (dI c)),(12,.d (dI r)),(14,.d (aq p)),(36,.d (dI most)),(37,.d (dI c)),(120,.d (dI N)),(121,.d (dI k))] rfl ?_;refine ak.No 1 rfl (fun B1 F1 w1 hS=>?_);refine ae.idxs tok (hS.at (i:=r+2) (hgr q) (by rw[af];omega)) rfl rfl rfl rfl (aj k) (by rw[af];omega) ?_;refine ae.nil ⟨rfl,?_⟩;refine ak.fp 129 (r+2) (hgr q) rfl rfl ?_;refine ak.el (k:=k) tok 129 144 rfl (List.Mem.head _) rfl rfl rfl (by rw[af];omega) rfl ?_;refine ak.cut 1 rfl (fun B1 F1 w1=>?_);refine ae.CV tok Y rfl rfl rfl (by omega) ?_;rw[hps];refine ae.nil ⟨rfl,?_⟩;refine ak.back 129 (r+2) rfl rfl rfl (List.Mem.head _) (List.getElem?_set_self (by have:=(List.getElem?_eq_some_iff.1 (hgr q)).1;simp only[List.length_cons];omega)) ?_
   refine ak.yT (R':=((Vr,OA Ws)::(Vc,CA s.cols)::ig Ws (b.set r (kB (Gl v row p) row (k+1))))) (by
    show (Vr,OA Ws)::(Vc,CA s.cols)::((ig Ws (b.set r q)).set r _).set r _=_
    rw[List.set_set,AK (by omega) (by simpa using hrb),List.set_set]) ?_
   refine ak.cut 1 rfl (fun B1 F1 w1=>?_);refine qU 1 rfl (ae.nil ⟨rfl,?_⟩);refine ak.nil (AZ.to [3,6,7,8,11,12,14,36,37,15,120,121] [(3,.bx [.sl 1 (v.map aq)]),(6,.bx [.sl 1 [],.sl 1 [],dI 0,.sl 3 []]),(7,.d aQ),(8,.bx [.v Vr,.v Vc,dI sg,aq ia]),(11,.d (dI c)),(12,.d (dI r)),(14,.d (aq p)),(36,.d (dI most)),(37,.d (dI c)),(15,.d aQ),(120,.d (dI N)),(121,.d (dI k))] rfl ?_);refine AZ.seq (AZ.iK (fun B1 F1 w1=>?_));refine qU 1 rfl (qR rfl rfl (ae.nil ⟨rfl,?_⟩));refine AZ.aH rfl ?_;refine AZ.skip (AZ.iK (fun B1 F1 w1=>?_));refine qU 1 rfl ?_;rw[aI (x:=(k:Int)+1) (by omega) (by omega)];refine qU 1 rfl (ae.nil ⟨rfl,?_⟩);exact⟨k+1,rfl,hkN,by omega⟩
 have hkN:k=N:=by have:=ar h;omega
 subst hkN;rw[show kB (Gl v row p) row k=Gl v row p by rw[← hrN];exact BW hz,← hE];refine AZ.exit ?_;have hWe:Ws.length=e.length:=by omega
 have hre:r<e.length:=by omega
 have he2c:e.length=s.rows.length:=by omega
 refine AZ.seq (AZ.seq ?_);refine AZ.Hh (fun B1 F1 w1 hS=>?_);refine qU 2 rfl ?_;refine ae.lens tok (hS.at (i:=0) rfl (by rw[af];omega)) rfl rfl rfl rfl ?_;rw[af,hWe];refine qU 1 rfl (ae.nil ⟨rfl,?_⟩);refine AZ.block (AZ.aL [3,6,7,8,11,12,36,37,152,153] (fun i:Nat=>(((Vr,OA Ws)::(Vc,CA s.cols)::ig Ws (dD v e r c i)),[(3,.bx [.sl 1 (v.map aq)]),(6,.bx [.sl 1 [],.sl 1 [],dI 0,.sl 3 []]),(7,.d aQ),(8,.bx [.v Vr,.v Vc,dI sg,aq ia]),(11,.d (dI c)),(12,.d (dI r)),(36,.d (dI most)),(37,.d (dI c)),(152,.d (dI e.length)),(153,.d (dI i))])) (fun i=>i≤e.length) (fun i=>e.length-i) 0 rfl (Nat.zero_le _) (fun i hi=>?_));show AZ _ _ _ _ _ _ _ ((Vr,OA Ws)::(Vc,CA s.cols)::ig Ws (dD v e r c i)) [(3,.bx [.sl 1 (v.map aq)]),(6,.bx [.sl 1 [],.sl 1 [],dI 0,.sl 3 []]),(7,.d aQ),(8,.bx [.v Vr,.v Vc,dI sg,aq ia]),(11,.d (dI c)),(12,.d (dI r)),(36,.d (dI most)),(37,.d (dI c)),(152,.d (dI e.length)),(153,.d (dI i))];refine AZ.seq (AZ.iK (fun B1 F1 w1=>?_));refine qU 1 rfl (ae.nil ⟨rfl,?_⟩);refine AZ.seq ?_;refine AZ.cond rfl (fun h=>?_) (fun h=>?_)
 · have hie:i<e.length:=by have:=ao h;omega
   have hm1:=jD v e r c i;have hm2:=sW (v:=v) (r:=r) (c:=c) he2 i (by omega);have hm3:=Aw V (r:=r) (c:=c) he3 i;have hmi:=iE v e r c i i (.inl (ai _));have hmr:=iE v e r c i r (.inr rfl);have hnx:dD v e r c (i+1)=if i≠r∧rQ v (bm (dD v e r c i) i c)≠0 then (dD v e r c i).set i (nk v ((dD v e r c i).getD i []) ((dD v e r c i).getD r []) (bm (dD v e r c i) i c)) else dD v e r c i:=rfl
   have jG:bm (dD v e r c i) i c=bm e i c:=Ax v e r c i c;generalize dD v e r c i=m at *;refine AZ.skip (AZ.seq (AZ.block (AZ.seq ?_)));refine AZ.iK (fun B1 F1 w1=>?_);refine qU 2 rfl (ae.nil ⟨rfl,?_⟩);refine AZ.seq (AZ.any aS (lX.Cn 16 (by kernel_rfl) (fun B1 F1 w1 hS=>?_)));have hS0:=hS.at (i:=0) rfl (by rw[af];omega);refine qP 3 rfl ?_;by_cases hir:i=r
   · rw[if_neg (fun g=>g.1 hir)] at hnx;rw[bne_eq_false_iff_eq.2 (show (i:Int)=(r:Int) by omega)];refine qP 13 rfl (ah.nil ⟨rfl,?_⟩);refine ak.nil (AZ.aH rfl ?_);refine AZ.skip (AZ.iK (fun B1 F1 w1=>?_));refine qU 1 rfl ?_;rw[aI (x:=(i:Int)+1) (by omega) (by omega)];refine qU 1 rfl (ae.nil ⟨rfl,?_⟩);exact⟨i+1,Prod.ext (show ((Vr,OA Ws)::(Vc,CA s.cols)::ig Ws m)=((Vr,OA Ws)::(Vc,CA s.cols)::ig Ws (dD v e r c (i+1))) by rw[hnx]) rfl,hie,by omega⟩
   have hmiN:(m.getD i []).length=k:=hm2 i (by omega);have hmrN:(m.getD r []).length=k:=hm2 r (by omega);have hgi:=j9 (Vs:=Ws) (a:=m) (j:=i) (by omega) (by omega);have hgr2:=j9 (Vs:=Ws) (a:=m) (j:=r) (by omega) (by omega);have hS1:=hS.at (i:=i+2) hgi (by rw[af];omega);have cs:=nK V (hm3 i c) (by rw[jG];exact oks i (by omega) (by omega));have okt2:=okt i (by omega) (by omega);rw[← jG,← hmi,← hmr] at okt2;rw[bne_iff_ne.2 (show (i:Int)≠(r:Int) by omega)];refine qP 5 rfl ?_;refine ah.idxs tok hS0 rfl rfl rfl rfl rfl (aj i) (by rw[af];omega) ?_;refine ah.eH tok (.v (Ws.getD i undef)) hS0 rfl rfl rfl rfl rfl rfl rfl (iO (by omega)) rfl ?_;refine qP 1 rfl ?_;refine ah.idxs tok hS1 rfl rfl rfl rfl rfl (aj c) (by rw[af];omega) ?_;refine ah.eH tok (aq (bm m i c)) hS1 rfl rfl rfl rfl rfl rfl rfl (hel hm2 (by omega) c hcN) rfl ?_;refine qQ rfl cs (qP 2 rfl (ah.nil ⟨rfl,?_⟩));refine ak.nil ?_;refine AZ.cond rfl (fun h=>?_) (fun h=>?_);rotate_left
   · have hg:rQ v (bm m i c)=0:=bne_eq_false_iff_eq.1 h;rw[if_neg (fun g=>g.2 hg)] at hnx;refine AZ.skip (AZ.iK (fun B1 F1 w1=>?_));refine qU 1 rfl ?_;rw[aI (x:=(i:Int)+1) (by omega) (by omega)];refine qU 1 rfl (ae.nil ⟨rfl,?_⟩);exact⟨i+1,Prod.ext (show ((Vr,OA Ws)::(Vc,CA s.cols)::ig Ws m)=((Vr,OA Ws)::(Vc,CA s.cols)::ig Ws (dD v e r c (i+1))) by rw[hnx]) rfl,hie,by omega⟩
   have hg:rQ v (bm m i c)≠0:=bne_iff_ne.1 h;rw[if_pos ⟨hir,hg⟩] at hnx;have ct:=v9 (Ws.getD i undef) (Ws.getD r undef) V (xs:=m.getD i []) (ys:=m.getD r []) (c:=bm m i c) (by omega) (by omega) (by omega) (hm3 i) (hm3 r) (hm3 i c) (okt2 (by rw[jG] at hg ⊢; exact hg));refine AZ.seq (AZ.any aS (lX.Cn 19 (by kernel_rfl) (fun B1 F1 w1 hS=>?_)));have hS0:=hS.at (i:=0) rfl (by rw[af];omega);have hS1:=hS.at (i:=i+2) hgi (by rw[af];omega);refine qP 4 rfl ?_;refine ah.idxs tok hS0 rfl rfl rfl rfl rfl (aj i) (by rw[af];omega) ?_;refine ah.eH tok (.v (Ws.getD i undef)) hS0 rfl rfl rfl rfl rfl rfl rfl (iO (by omega)) rfl ?_;refine qP 3 rfl ?_;refine ah.idxs tok hS0 rfl rfl rfl rfl rfl (aj r) (by rw[af];omega) ?_;refine ah.eH tok (.v (Ws.getD r undef)) hS0 rfl rfl rfl rfl rfl rfl rfl (iO (by omega)) rfl ?_;refine qP 3 rfl ?_;refine ah.idxs tok hS0 rfl rfl rfl rfl rfl (aj i) (by rw[af];omega) ?_;refine ah.eH tok (.v (Ws.getD i undef)) hS0 rfl rfl rfl rfl rfl rfl rfl (iO (by omega)) rfl ?_;refine qP 1 rfl ?_;refine ah.idxs tok hS1 rfl rfl rfl rfl rfl (aj c) (by rw[af];omega) ?_;refine ah.eH tok (aq (bm m i c)) hS1 rfl rfl rfl rfl rfl rfl rfl (hel hm2 (by omega) c hcN) rfl ?_;refine ah.nil ⟨rfl,?_⟩;refine ak.to [172,177,182,190,3,6,7,8,11,12,36,37,152,153] [(172,.d (ib v)),(177,.d (.v (Ws.getD i undef))),(182,.d (.v (Ws.getD r undef))),(190,.d (aq (bm m i c))),(3,.bx [.sl 1 (v.map aq)]),(6,.bx [.sl 1 [],.sl 1 [],dI 0,.sl 3 []]),(7,.d aQ),(8,.bx [.v Vr,.v Vc,dI sg,aq ia]),(11,.d (dI c)),(12,.d (dI r)),(36,.d (dI most)),(37,.d (dI c)),(152,.d (dI e.length)),(153,.d (dI i))] rfl ?_;refine ak.jF tok [i+2,r+2] rfl rfl rfl rfl (NU hgi hgr2) (by simp[hir]) rfl ct (fun res R1 hP=>by rw[hP.2];exact ai _) (fun res R1 hP=>?_);obtain ⟨rfl,rfl⟩:=hP
   refine ak.yT (R':=(Vr,OA Ws)::(Vc,CA s.cols)::ig Ws (dD v e r c (i+1))) (by
    show ((Vr,OA Ws)::(Vc,CA s.cols)::((ig Ws m).set i _).set r _)++[]=_
    rw[List.append_nil,I4 (by omega) (by omega) (by omega) hir,hnx]) ?_
   refine ak.cut 1 rfl (fun B1 F1 w1=>?_);refine qU 1 rfl (ae.nil ⟨rfl,?_⟩);refine ak.nil ?_;refine AZ.seq (AZ.iK (fun B1 F1 w1=>?_));refine qU 1 rfl (qR rfl rfl (ae.nil ⟨rfl,?_⟩));refine AZ.aH rfl ?_;refine AZ.skip (AZ.iK (fun B1 F1 w1=>?_));refine qU 1 rfl ?_;rw[aI (x:=(i:Int)+1) (by omega) (by omega)];refine qU 1 rfl (ae.nil ⟨rfl,?_⟩);exact⟨i+1,rfl,hie,by omega⟩
 have hie:i=e.length:=by have:=ar h;omega
 subst hie;refine AZ.exit ?_;refine AZ.region ?_;refine ak.cut 4 rfl (fun B1 F1 w1=>?_);refine qU 3 rfl (ae.mX tok rfl rfl rfl rfl rfl ?_);refine ae.nil ⟨rfl,?_⟩;refine ak.fp 198 1 rfl rfl rfl ?_;refine ak.cut 1 rfl (fun B1 F1 w1=>?_);refine ae.lB tok rfl rfl rfl rfl rfl rfl (by show ((s.cols.map (fun c:Nat=>dI c)).length+1)*8≤_;rw[af];omega) (by show (s.cols.map (fun c:Nat=>dI c)).length+1≤_;rw[af];omega) ?_;refine ae.nil ⟨rfl,?_⟩;refine ak.B4 201 1 rfl rfl rfl rfl (fun Vq=>?_)
 refine ak.yT (R':=(Vr,OA Ws)::(Vq,CA (s.cols++[c]))::ig Ws (dD v e r c e.length)) (by
  show (Vr,OA Ws)::(Vq,AV.ow 3 (s.cols.map (fun c:Nat=>dI c)++[dI c]))::ig Ws (dD v e r c e.length)=_
  rw[show s.cols.map (fun c:Nat=>dI c)++[dI (c:Int)]=(s.cols++[c]).map (fun c:Nat=>dI c) by simp]) ?_
 refine ak.cut 2 rfl (fun B1 F1 w1=>?_);refine qU 2 rfl (ae.nil ⟨rfl,?_⟩);refine ak.nil ?_;refine AZ.iK (fun B1 F1 w1=>?_);refine qU 1 rfl ?_;rw[aI (x:=(c:Int)+1) (by omega) (by omega)];refine qU 1 rfl (ae.nil ⟨rfl,?_⟩);exact⟨(c+1,Vr,Vq,Ws),by rw[hst];rfl,⟨hcm,by show Ws.length=a.length;omega⟩,by show most-(c+1)<most-c;omega⟩
end Lift
namespace Lift
open Go Go.Proofs
theorem rn(v:List NQ)(most:Nat)(hm:most≤1000000):Pure Tryz.prog 89 [ib v,mZ [],dI most] (.tu [Ks ⟨[],[],1,[1]⟩,aQ]):=by
 refine qJ 205 Tryz.func89 rfl rfl rfl rfl (by kernel_rfl) (fun B F0 w0=>?_);have cone:=jq (Qr ((1:Int):Rat)) (k:=1) (iG _ (by have:=gF;rw[show ((1:Int):Rat)=1 from rfl];omega)) (by decide) (by decide) (Cx _);rw[dk,show sj ((1:Int):Rat)=[1] from rfl] at cone;refine qX 3 rfl (qI (AW.region (qM rfl (iC 1 (by decide) (by decide)) ?_)));refine qM rfl cone (qU 3 rfl (qI (qX 3 rfl (ae.nil ?_))));refine AW.block (AW.aL [2,3,6,7,8,22,23,24] (fun _:Unit=>[(2,.d (dI most)),(3,.bx [.sl 1 (v.map aq)]),(6,.bx [.sl 1 [],.sl 1 [],dI 0,.sl 3 []]),(7,.d aQ),(8,.bx [.sl 1 [],.sl 1 [],dI 1,aq [1]]),(22,.d (mZ [])),(23,.d (dI 0)),(24,.d (dI 0))]) (fun _=>True) (fun _=>0) () rfl trivial (fun _ _=>?_));show AW _ _ _ _ _ _ _ [(2,.d (dI most)),(3,.bx [.sl 1 (v.map aq)]),(6,.bx [.sl 1 [],.sl 1 [],dI 0,.sl 3 []]),(7,.d aQ),(8,.bx [.sl 1 [],.sl 1 [],dI 1,aq [1]]),(22,.d (mZ [])),(23,.d (dI 0)),(24,.d (dI 0))];refine qX 1 rfl (qI (AW.aH rfl (AW.exit (AW.seq (qX 2 rfl (ae.nil ?_))))));refine AW.block (AW.aL [3,6,7,8,36,37] (fun c:Nat=>[(3,.bx [.sl 1 (v.map aq)]),(6,.bx [.sl 1 [],.sl 1 [],dI 0,.sl 3 []]),(7,.d aQ),(8,.bx [.sl 1 [],.sl 1 [],dI 1,aq [1]]),(36,.d (dI most)),(37,.d (dI c))]) (fun c=>c≤most) (fun c=>most-c) 0 rfl (Nat.zero_le _) (fun c hc=>?_));show AW _ _ _ _ _ _ _ [(3,.bx [.sl 1 (v.map aq)]),(6,.bx [.sl 1 [],.sl 1 [],dI 0,.sl 3 []]),(7,.d aQ),(8,.bx [.sl 1 [],.sl 1 [],dI 1,aq [1]]),(36,.d (dI most)),(37,.d (dI c))];refine qX 1 rfl ?_;refine qI (AW.cond rfl (fun h=>?_) (fun h=>?_));rotate_left
 · exact AW.exit (qX 3 rfl (qN rfl))
 have hcm:c<most:=by have:=ao h;omega
 refine AW.skip (AW.seq (AW.block (qX 2 rfl (qK 4 rfl (qK 2 rfl (ae.nil ?_))))));refine AW.cut [3,6,7,8,12,13,36,37] (fun _:Unit=>[(3,.bx [.sl 1 (v.map aq)]),(6,.bx [.sl 1 [],.sl 1 [],dI 0,.sl 3 []]),(7,.d aQ),(8,.bx [.sl 1 [],.sl 1 [],dI 1,aq [1]]),(12,.d (dI 0)),(13,.d (dI 0)),(36,.d (dI most)),(37,.d (dI c))]) (fun _=>True) ?_ (fun _ _=>?_)
 · refine AW.block (AW.aL [3,6,7,8,11,12,13,36,37] (fun _:Unit=>[(3,.bx [.sl 1 (v.map aq)]),(6,.bx [.sl 1 [],.sl 1 [],dI 0,.sl 3 []]),(7,.d aQ),(8,.bx [.sl 1 [],.sl 1 [],dI 1,aq [1]]),(11,.d (dI c)),(12,.d (dI 0)),(13,.d (dI 0)),(36,.d (dI most)),(37,.d (dI c))]) (fun _=>True) (fun _=>0) () rfl trivial (fun _ _=>?_));show AW _ _ _ _ _ _ _ [(3,.bx [.sl 1 (v.map aq)]),(6,.bx [.sl 1 [],.sl 1 [],dI 0,.sl 3 []]),(7,.d aQ),(8,.bx [.sl 1 [],.sl 1 [],dI 1,aq [1]]),(11,.d (dI c)),(12,.d (dI 0)),(13,.d (dI 0)),(36,.d (dI most)),(37,.d (dI c))];refine AW.seq (AW.seq (AW.draw aS 18 (by kernel_rfl) ?_));exact qP 18 rfl (ah.nil (ae.nil (AW.aH rfl (AW.exit ⟨(),rfl,trivial⟩))))
 show AW _ _ _ _ _ _ _ [(3,.bx [.sl 1 (v.map aq)]),(6,.bx [.sl 1 [],.sl 1 [],dI 0,.sl 3 []]),(7,.d aQ),(8,.bx [.sl 1 [],.sl 1 [],dI 1,aq [1]]),(12,.d (dI 0)),(13,.d (dI 0)),(36,.d (dI most)),(37,.d (dI c))];refine AW.seq (qX 5 rfl (ae.nil (AW.aJ rfl (AW.exit (qT 1 rfl ?_)))));rw[aI (x:=(c:Int)+1) (by omega) (by omega)];refine qU 1 rfl (ae.nil ?_);exact⟨c+1,rfl,hcm,by omega⟩
def ju(v:List NQ)(a:cI):jT:=aF v a (bd a)
structure Cy (v:List NQ) (a:cI):Prop where
 l:a.length≤32
 r:dq (bd a) a
 c:bd a≤32
 lt:rO v.length a
theorem nL{v:List NQ}(V:pj v){a:cI}{N most:Nat}(ha:a.length≤1000000)(hN:N≤1000000)(hmost:most≤N)(hr:dq N a)(hl:rO v.length a)(ok: ∀c,c<most→kE v (aF v a c) c):
  Pure Tryz.prog 89 [ib v,mZ a,dI most] (.tu [Ks (aF v a most),aQ]):=by
 by_cases h0:a.length=0
 · rw[List.length_eq_zero_iff.1 h0,qv];exact rn v most (by omega)
 · exact sD V (by omega) ha hN hmost hr hl ok
def xA(a:cI):List (List (List RD)):=a.map (fun r=>r.map iT)
theorem Br(a:cI):(xA a).length=a.length:=af ..
theorem qC(a:cI)(i:Nat):(xA a).getD i []=(a.getD i []).map iT:=by
 unfold xA;rw[aK,List.getElem?_map,aK];cases a[i]? with
 | none=>rfl
 | some x=>rfl
theorem Eu(a:cI)(i k:Nat):((xA a).getD i []).getD k []=iT (bm a i k):=by
 rw[qC];unfold bm;generalize a.getD i []=r;rw[aK,List.getElem?_map,aK];cases r[k]? with
 | none=>rfl
 | some x=>rfl
theorem Hj(a:cI):CF (xA a)=mZ a:=by
 show D.sl 1 ((a.map _).map IY)=D.sl 1 (a.map oO);rw[List.map_map]
 congr 1
 refine List.map_congr_left fun r _=>?_;show D.sl 1 ((r.map iT).map bw)=D.sl 1 (r.map aq);rw[List.map_map]
 congr 1
 exact List.map_congr_left fun x _=>mf x
theorem yu(a:cI):bd (xA a)=bd a:=by unfold bd;rw[qC,af]
theorem iJ.s{m:Nat}{v:List NQ}(V:iJ m v)(hk:pP v.length m):NP m (oU v):=by
 have hl5:=V.l5;have hm2:=V.m2;have T:=V.raw.1;exact⟨fun i hi _=>by rw[qA];exact zq (V.sz i),V.m1,by rw[fC];omega,T.ll,fun _=>by rw[fC];exact hk,hm2⟩
theorem Cy.raw{m:Nat}{v:List NQ}{a:cI}(V:iJ m v)(G:Cy v a)(hs: ∀i k,aE m (bm a i k)):Ml m (oU v) (xA a)∧EG (oU v) (xA a)=0:=by
 have hl:=G.l;have hc:=G.c
 have hrow: ∀i,((xA a).getD i []).length≤32:=fun i=>by
  rw[qC,af];by_cases h:i<a.length
  · rw[G.r i h];exact hc
  · rw[k7 (by omega)];exact Nat.zero_le _
 refine⟨⟨fun i k=>by rw[Eu];exact mg V (G.lt i k) (hs i k),by rw[Br];omega,fun i=>Nat.le_trans (hrow i) (by decide)⟩,?_⟩;unfold EG;rw[if_neg (by rw[V.raw.2];simp)];unfold HF;split
 · rfl
 rw[Br,yu,if_neg (by omega)]
 have e1:fE (I8 (xA a)) (a.length-0) 0=0:=mC fun j hj=>by
  unfold I8;rw[yu,qC,af,G.r j (by omega)];exact if_neg (fun h=>h rfl)
 rw[e1,if_neg (by decide)];refine mC fun j hj=>?_;unfold zk;refine mC fun k hk=>?_;rw[Eu];exact ck1 V (G.lt j k)
theorem nM{m:Nat}{v:List NQ}{a:cI}(V:iJ m v)(hk:pP v.length m)(G:Cy v a)(hs: ∀i k,aE m (bm a i k))(ok: ∀c,c<bd a→kE v (aF v a c) c):Pure Tryz.prog 46 [ib v,mZ a] (.tu [dI (ju v a).cols.length,aQ]):=by
 refine qJ 29 Tryz.func46 rfl rfl rfl rfl (by kernel_rfl) (fun B F0 w0=>?_);obtain ⟨r1,r2⟩:=G.raw V hs;have cc:=mP (V.s hk) r1;rw[r2,r8,Hj] at cc;have hGl:=G.l;have hGc:=G.c;have cr:=nL V.a (most:=bd a) (by omega) (by omega) (ai _) G.r G.lt ok;have hcl:=(kt V.a G.r G.lt (bd a)).cl;change Pure _ _ _ (.tu [Ks (ju v a),aQ]) at cr;generalize ju v a=s at cr ⊢;obtain ⟨rows,cols,sg,ia⟩:=s;refine qX 3 rfl (qI (qX 2 rfl (qM rfl cc (qU 1 rfl (qK 1 rfl (qR rfl rfl (ae.nil (AW.aH rfl ?_))))))))
 · refine AW.skip (AW.seq (AW.nW tok aS [(7,true),(1,false),(1,true)] 9 [7] (by kernel_rfl) ⟨rfl,?_⟩));refine qP 3 rfl (qQ rfl (kY a) ?_);refine qQ rfl cr (qP 2 rfl (ah.nil ⟨rfl,?_⟩));refine qP 1 rfl (ah.nil ⟨rfl,?_⟩);refine qP 1 rfl (ah.nil ⟨_,oM.cons (.bx rfl) (oM.nil),?_⟩);refine qU 1 rfl (qI (qX 1 rfl (qR rfl rfl (ae.nil (AW.aH rfl ?_)))))
   · refine AW.skip (qX 2 rfl (qU 1 rfl ?_));rw[af];exact qU 2 rfl (qN rfl)
end Lift
namespace Lift
open Go Go.Proofs
def fS(l:Lkg)(a:Asm):cI:=im (a.rt.map au) l a l.joints.length
def Bu(l:Lkg)(a:Asm)(r:Nat):D:=if eU l a≠0 then .tu [dI 0,uM (eU l a)] else .tu [dI r,aQ]
theorem nH(l:Lkg)(a:Asm){r:Nat}(hl:l.ok 16)(ha:a.ok 16)(h2:a.rt.length≤2)(hnb:l.bodies.length≤1000000000000)(hR:eU l a=0→Pure Tryz.prog 46 [ib (a.rt.map au),mZ (fS l a)] (.tu [dI r,aQ])):Pure Tryz.prog 23 [l.D,a.D] (Bu l a r):=by
 refine qJ 25 Tryz.func23 rfl rfl rfl rfl (by kernel_rfl) (fun B0 F0 w0=>?_);have c:=tC l a hl ha h2 hnb;unfold Es at c;unfold Bu;have hT:eU l a=0→w8 a.rt=ib (a.rt.map au):=fun h=>(qi ha.t (zI h).tw).eq;unfold fS at hR;refine qX 4 rfl (qK 2 rfl ?_);rcases e2:eU l a with _ | z
 rotate_left
 · rw[if_pos (by rw[e2];exact Nat.succ_ne_zero z),e2] at c;rw[if_pos (Nat.succ_ne_zero z)];exact qM rfl c (qU 7 rfl (qI (qX 1 rfl (qR rfl rfl (ae.nil (AW.aJ rfl (qX 3 rfl (qN rfl))))))))
 rw[if_neg (by rw[e2];simp)] at c;rw[if_neg (by simp)];have hR:=hR e2;rw[← hT e2] at hR;refine qM rfl c (qU 7 rfl (qI (qX 1 rfl (qR rfl rfl (ae.nil (AW.aH rfl ?_))))))
 · refine AW.skip (AW.seq (AW.region ?_));obtain ⟨rt,bs,md⟩:=a;exact qU 3 rfl (qM rfl hR (qU 4 rfl (qN rfl)))
def EV(l:Lkg)(a:Asm)(r:Nat):D:=if eU l a≠0 then .tu [dI 0,uM (eU l a)] else .tu [dI (3*((l.bodies.length:Int) -1) -r),aQ]
theorem nI(l:Lkg)(a:Asm){r:Nat}(hr:r≤1000000)(hl:l.ok 16)(ha:a.ok 16)(h2:a.rt.length≤2)(hnb:l.bodies.length≤1000000000000)(hR:eU l a=0→Pure Tryz.prog 46 [ib (a.rt.map au),mZ (fS l a)] (.tu [dI r,aQ])):Pure Tryz.prog 11 [l.D,a.D] (EV l a r):=by
 refine qJ 24 Tryz.func11 rfl rfl rfl rfl (by kernel_rfl) (fun B0 F0 w0=>?_);have c:=nH l a hl ha h2 hnb hR;unfold Bu at c;unfold EV;refine qX 4 rfl (qK 2 rfl ?_);rcases e2:eU l a with _ | z
 rotate_left
 · rw[if_pos (by rw[e2];exact Nat.succ_ne_zero z),e2] at c;rw[if_pos (Nat.succ_ne_zero z)];exact qM rfl c (qU 5 rfl (qI (qX 1 rfl (qR rfl rfl (ae.nil (AW.aJ rfl (qX 3 rfl (qN rfl))))))))
 rw[if_neg (by rw[e2];simp)] at c;rw[if_neg (by simp)];clear hR e2;obtain ⟨ln,lb,js,lds⟩:=l;simp only[] at *;refine qM rfl c (qU 5 rfl (qI (qX 1 rfl (qR rfl rfl (ae.nil (AW.aH rfl ?_))))))
 · refine AW.skip (qX 3 rfl ?_);rw[af];refine qU 1 rfl ?_;rw[aI (x:=(lb.length:Int) -1) (by omega) (by omega)];refine qU 1 rfl ?_;rw[aI (x:=3*((lb.length:Int) -1)) (by omega) (by omega)];refine qU 2 rfl ?_;rw[aI (x:=3*((lb.length:Int) -1) -(r:Int)) (by omega) (by omega)];exact qU 2 rfl (qN rfl)
end Lift
namespace Lift
open Go Go.Proofs
def Gi:List RD→Nat→Nat
 | [],n=>n
 | x::r,n=>if n<100 then Gi r (n+(x.n.length+x.d.length)) else n
def ed(a:List RD):Nat:=Gi a 0
def ur(a:List RD):Prop:=a.length≤4398046511104∧ ∀i,(a.getD i default).w big
theorem GK{r:List RD}{n:Nat}(h: ¬n<100):Gi r n=n:=by
 cases r with
 | nil=>rfl
 | cons x r=>exact if_neg h
theorem Cm{a:List RD}{i:Nat}(h:i<a.length):a.drop i=a.getD i default::a.drop (i+1):=by
 rw[List.drop_eq_getElem_cons h]
 congr 1
 rw[aK,bP h];rfl
theorem gl(a:List RD)(ha:ur a):Pure Tryz.prog 30 [bw a] (dI (ed a)):=by
 refine qJ 31 Tryz.func30 rfl rfl rfl rfl (by kernel_rfl) (fun B F0 w0=>?_);obtain ⟨hl,hw⟩:=ha;unfold big at hw;obtain ⟨E,hE⟩: ∃E,ed a=E:=⟨_,rfl⟩;rw[hE];refine qX 1 rfl (qK 1 rfl (qI (qX 1 rfl (ae.nil (AW.block ?_)))));refine AW.aL [0,3,4] (fun s:Nat×Nat=>[(0,.d (bw a)),(3,.d (dI s.2)),(4,.d (dI s.1))]) (fun s=>s.1≤a.length∧s.2≤100+2000000000000000∧Gi (a.drop s.1) s.2=E) (fun s=>a.length-s.1) (0,0) rfl ⟨Nat.zero_le _,Nat.zero_le _,hE⟩ (fun s hs=>?_)
 · obtain ⟨i,n⟩:=s;obtain ⟨hi,hn,hsz⟩:=hs;simp only[] at hi hn hsz;show AW _ _ _ _ _ _ _ [(0,.d (bw a)),(3,.d (dI n)),(4,.d (dI i))];refine AW.seq (qX 2 rfl (qU 1 rfl ?_));rw[af];refine qU 2 rfl ?_;by_cases hia:i<a.length;rotate_left
   · rw[a7 (show ¬(i:Int)<(a.length:Int) by omega)];refine qU 3 rfl (ae.nil ?_);have hii:i=a.length:=by omega
     subst hii;rw[List.drop_length] at hsz;subst hsz;exact AW.aH rfl (AW.exit (qX 2 rfl (qN rfl)))
   rw[aO (show (i:Int)<(a.length:Int) by omega)];refine qU 3 rfl (ae.nil (AW.cond rfl (fun h=>?_) (fun h=>?_)))
   · have hn1:n<100:=by have:=ao h;omega
     have hg:=getM RD.D (l:=a) (i:=i) hia;have w1:=(hw i).2.2.1;have w2:=(hw i).2.2.2;rw[Cm hia] at hsz;have hsz:Gi (a.drop (i+1)) (n+((a.getD i default).n.length+(a.getD i default).d.length))=E:=by rw[← hsz];exact(if_pos hn1).symm
     generalize a.getD i default=x at hg w1 w2 hsz;obtain ⟨xg,xn,xd⟩:=x;simp only[] at w1 w2 hsz;refine AW.skip (AW.seq (AW.block (AW.draw aS 15 (by kernel_rfl) ?_)));refine qP 3 rfl (ah.idx tok (RD.D ⟨xg,xn,xd⟩) rfl rfl rfl rfl rfl (aj i) hg ?_);refine qP 3 rfl ?_;rw[ba];refine qP 2 rfl (ah.idx tok (RD.D ⟨xg,xn,xd⟩) rfl rfl rfl rfl rfl (aj i) hg ?_);refine qP 3 rfl ?_;rw[ba];refine qP 1 rfl ?_;rw[aI (x:=(xn.length:Int)+(xd.length:Int)) (by omega) (by omega)];refine qP 1 rfl ?_;rw[aI (x:=(n:Int)+((xn.length:Int)+(xd.length:Int))) (by omega) (by omega)];refine ah.nil (qU 1 rfl (ae.nil (qT 2 rfl ?_)));rw[aI (x:=(i:Int)+1) (by omega) (by omega)];refine qU 1 rfl (ae.nil ?_);exact⟨(i+1,n+(xn.length+xd.length)),rfl,⟨hia,by show n+(xn.length+xd.length)≤_;omega,hsz⟩,by show a.length-(i+1)<a.length-i;omega⟩
   have hn1: ¬n<100:=by have:=ar h;omega
   rw[GK hn1] at hsz;subst hsz;exact AW.exit (qX 2 rfl (qN rfl))
end Lift
namespace Lift
open Go Go.Proofs
def Ab(p:Mark):Nat:=p.x.n.length+p.x.d.length+p.y.n.length+p.y.d.length
def sv(f:Nat→Nat)(n:Nat):Nat→Nat
 | 0=>n
 | k+1=>max (sv f n k) (f k)
def rL(bs:List Body):Nat→Nat
 | 0=>0
 | i+1=>sv (fun k=>Ab ((bs.getD i default).pts.getD k default)) (rL bs i) (bs.getD i default).pts.length
def plW(p:fu)(n:Nat):Nat:=max (max (max (max n (ed p.c)) (ed p.s)) (ed p.x)) (ed p.y)
def nC(bs:List fu)(n:Nat):Nat→Nat
 | 0=>n
 | i+1=>plW (bs.getD i default) (nC bs n i)
def Ja(l:Lkg)(a:Asm):Nat:=nC a.bodies (sv (fun i=>ed (a.rt.getD i [])) (rL l.bodies l.bodies.length) a.rt.length) a.bodies.length
def Nr(l:Lkg)(a:Asm):Bool:=decide (6<l.bodies.length∧l.bodies.length≤8∨8<l.joints.length∧l.joints.length≤16∨40<l.bodies.length∨40<l.joints.length∨40<l.drivers.length∨40<a.bodies.length∨2<a.rt.length)
def Lr(bs:List Body)(i:Nat):Bool:=decide (40<(bs.getD i default).pts.length)
def lp(l:Lkg)(a:Asm):Bool:=Nr l a||eP (Lr l.bodies) (l.bodies.length-0) 0||decide (((16:Int) -4*(a.rt.length:Int))<(Ja l a:Int))
structure AsB (a:Asm):Prop where
 rl:a.rt.length≤big
 r: ∀i,ur (a.rt.getD i [])
 bl:a.bodies.length≤big
 c: ∀i,ur (a.bodies.getD i default).c
 s: ∀i,ur (a.bodies.getD i default).s
 x: ∀i,ur (a.bodies.getD i default).x
 y: ∀i,ur (a.bodies.getD i default).y
theorem Ld{a:List RD}(ha:ur a): ∀(i n:Nat),n≤4000000000000000→Gi (a.drop i) n≤4000000000000000:=by
 intro i;obtain ⟨hl,hw⟩:=ha;unfold big at hw
 suffices h: ∀(k i n:Nat),a.length-i≤k→n≤4000000000000000→Gi (a.drop i) n≤4000000000000000 from fun n hn=>h (a.length-i) i n (ai _) hn
 intro k
 induction k with
 | zero =>
   intro i n hi hn;rw[List.drop_eq_nil_of_le (by omega)];exact hn
 | succ k ih =>
   intro i n hi hn;by_cases hia:i<a.length
   · rw[Cm hia];show (if n<100 then _ else n)≤_;split
     · have w1:=(hw i).2.2.1;have w2:=(hw i).2.2.2;exact ih (i+1) _ (by omega) (by omega)
     · exact hn
   · rw[List.drop_eq_nil_of_le (by omega)];exact hn
theorem qs{a:List RD}(ha:ur a):ed a≤4000000000000000:=Ld ha 0 0 (by decide)
theorem z7{f:Nat→Nat}{n M:Nat}(hn:n≤M)(hf: ∀k,f k≤M): ∀k,sv f n k≤M
 | 0=>hn
 | k+1=>by
   have:=z7 hn hf k;have:=hf k;show max (sv f n k) (f k)≤M;omega
theorem yF(a b:Nat):(if (b:Int)>(a:Int) then (b:Int) else (a:Int))=((max a b:Nat):Int):=JX a b
set_option maxHeartbeats 3200000 in
theorem wh(l:Lkg)(a:Asm){K:Nat}(hl:l.ok K)(hK:K≤big)(ha:AsB a):Pure Tryz.prog 12 [l.D,a.D] (dB (lp l a)):=by
 refine qJ 172 Tryz.func12 rfl rfl rfl rfl (by kernel_rfl) (fun B F0 w0=>?_);have hnb:=hl.nb;have hnj:=hl.nj;have hnd:=hl.nd;have hlb:=hl.b;obtain ⟨hrl,har,hbl,hc,hs,hx,hy⟩:=ha;have zr:=fun i=>gl _ (har i);have zc:=fun i=>gl _ (hc i);have zs:=fun i=>gl _ (hs i);have zx:=fun i=>gl _ (hx i);have zy:=fun i=>gl _ (hy i);have yr:=fun i=>qs (har i);have yc:=fun i=>qs (hc i);have ys:=fun i=>qs (hs i);have yx:=fun i=>qs (hx i);have yy:=fun i=>qs (hy i);clear har hc hs hx hy hl;unfold lp Ja Nr;obtain ⟨ln,lb,js,lds⟩:=l;obtain ⟨rt,bs,md⟩:=a;simp only[] at *;unfold big at hnb hnj hnd hrl hbl hK;show AW _ _ _ _ _ _ _ (eI 0 [D.ag [dS ln,aC lb,aB js,ay lds],D.ag [.sl 1 (rt.map bw),.sl 4 (bs.map fu.D),.sl 1 (md.map (fun n=>dI n))]]);obtain ⟨E,hE⟩: ∃E,(decide (6<lb.length∧lb.length≤8∨8<js.length∧js.length≤16∨40<lb.length∨40<js.length∨40<lds.length∨40<bs.length∨2<rt.length)||eP (Lr lb) (lb.length-0) 0||decide (((16:Int) -4*(rt.length:Int))<((nC bs (sv (fun i=>ed (rt.getD i [])) (rL lb lb.length) rt.length) bs.length:Nat):Int)))=E:=⟨_,rfl⟩;rw[hE]
 have wB: ∀i,rL lb i≤4000000000000000:=fun i=>by
  induction i with
  | zero=>exact Nat.zero_le _
  | succ i ih =>
    refine z7 ih (fun k=>?_) _;obtain ⟨_,h1,h2⟩:=(hlb i).2.2 k;have a1:=h1.2.2.1;have a2:=h1.2.2.2;have a3:=h2.2.2.1;have a4:=h2.2.2.2;unfold Ab;omega
 have wM: ∀i k,sv (fun k=>Ab ((lb.getD i default).pts.getD k default)) (rL lb i) k≤4000000000000000:=fun i k=>z7 (wB i) (fun k=>by
   obtain ⟨_,h1,h2⟩:=(hlb i).2.2 k;have a1:=h1.2.2.1;have a2:=h1.2.2.2;have a3:=h2.2.2.1;have a4:=h2.2.2.2;unfold Ab
   omega) k
 refine qX 3 rfl (ae.nil ?_);refine AW.cut [2,3] (fun _:Unit=>[(2,.bx [dS ln,aC lb,aB js,ay lds]),(3,.bx [.sl 1 (rt.map bw),.sl 4 (bs.map fu.D),.sl 1 (md.map (fun n=>dI n))])]) (fun _=> ¬(6<lb.length∧lb.length≤8∨8<js.length∧js.length≤16∨40<lb.length∨40<js.length∨40<lds.length∨40<bs.length∨2<rt.length)) ?_ (fun _ hc=>?_)
 · refine qX 3 rfl ?_;rw[af];refine qU 1 rfl ?_;by_cases c1:6<lb.length
   · rw[aO (show (6:Int)<(lb.length:Int) by omega)];refine qU 4 rfl ?_;rw[af];refine qU 1 rfl ?_;by_cases c2:lb.length≤8
     · rw[aO (show (lb.length:Int)≤(8:Int) by omega)];refine qU 44 rfl (ae.nil ?_);have hEt:E=true:=by rw[← hE,aO (by omega)];rfl
       subst hEt;exact AW.aJ rfl (qX 1 rfl (qN rfl))
     rw[a7 (show ¬(lb.length:Int)≤(8:Int) by omega)];refine qU 2 rfl (qU 3 rfl ?_);rw[af];refine qU 1 rfl ?_;by_cases c3:8<js.length
     · rw[aO (show (8:Int)<(js.length:Int) by omega)];refine qU 4 rfl ?_;rw[af];refine qU 1 rfl ?_;by_cases c4:js.length≤16
       · rw[aO (show (js.length:Int)≤(16:Int) by omega)];refine qU 33 rfl (ae.nil ?_);have hEt:E=true:=by rw[← hE,aO (by omega)];rfl
         subst hEt;exact AW.aJ rfl (qX 1 rfl (qN rfl))
       rw[a7 (show ¬(js.length:Int)≤(16:Int) by omega)];refine qU 3 rfl (qU 3 rfl ?_);rw[af];refine qU 1 rfl ?_;by_cases c5:40<lb.length
       · rw[aO (show (40:Int)<(lb.length:Int) by omega)];refine qU 26 rfl (ae.nil ?_);have hEt:E=true:=by rw[← hE,aO (by omega)];rfl
         subst hEt;exact AW.aJ rfl (qX 1 rfl (qN rfl))
       rw[a7 (show ¬(40:Int)<(lb.length:Int) by omega)];refine qU 2 rfl (qU 3 rfl ?_);rw[af];refine qU 1 rfl ?_;by_cases c6:40<js.length
       · rw[aO (show (40:Int)<(js.length:Int) by omega)];refine qU 20 rfl (ae.nil ?_);have hEt:E=true:=by rw[← hE,aO (by omega)];rfl
         subst hEt;exact AW.aJ rfl (qX 1 rfl (qN rfl))
       rw[a7 (show ¬(40:Int)<(js.length:Int) by omega)];refine qU 2 rfl (qU 3 rfl ?_);rw[af];refine qU 1 rfl ?_;by_cases c7:40<lds.length
       · rw[aO (show (40:Int)<(lds.length:Int) by omega)];refine qU 14 rfl (ae.nil ?_);have hEt:E=true:=by rw[← hE,aO (by omega)];rfl
         subst hEt;exact AW.aJ rfl (qX 1 rfl (qN rfl))
       rw[a7 (show ¬(40:Int)<(lds.length:Int) by omega)];refine qU 2 rfl (qU 3 rfl ?_);rw[af];refine qU 1 rfl ?_;by_cases c8:40<bs.length
       · rw[aO (show (40:Int)<(bs.length:Int) by omega)];refine qU 8 rfl (ae.nil ?_);have hEt:E=true:=by rw[← hE,aO (by omega)];rfl
         subst hEt;exact AW.aJ rfl (qX 1 rfl (qN rfl))
       rw[a7 (show ¬(40:Int)<(bs.length:Int) by omega)];refine qU 2 rfl (qU 4 rfl ?_);rw[af];refine qU 1 rfl ?_;by_cases c9:2<rt.length
       · rw[aO (show (2:Int)<(rt.length:Int) by omega)];refine qU 1 rfl (ae.nil ?_);have hEt:E=true:=by rw[← hE,aO (by omega)];rfl
         subst hEt;exact AW.aJ rfl (qX 1 rfl (qN rfl))
       rw[a7 (show ¬(2:Int)<(rt.length:Int) by omega)];refine qU 1 rfl (ae.nil (AW.aH rfl (AW.skip ?_)));exact⟨(),rfl,by omega⟩
     rw[a7 (show ¬(8:Int)<(js.length:Int) by omega)];refine qU 8 rfl (qU 3 rfl ?_);rw[af];refine qU 1 rfl ?_;by_cases c5:40<lb.length
     · rw[aO (show (40:Int)<(lb.length:Int) by omega)];refine qU 26 rfl (ae.nil ?_);have hEt:E=true:=by rw[← hE,aO (by omega)];rfl
       subst hEt;exact AW.aJ rfl (qX 1 rfl (qN rfl))
     rw[a7 (show ¬(40:Int)<(lb.length:Int) by omega)];refine qU 2 rfl (qU 3 rfl ?_);rw[af];refine qU 1 rfl ?_;by_cases c6:40<js.length
     · rw[aO (show (40:Int)<(js.length:Int) by omega)];refine qU 20 rfl (ae.nil ?_);have hEt:E=true:=by rw[← hE,aO (by omega)];rfl
       subst hEt;exact AW.aJ rfl (qX 1 rfl (qN rfl))
     rw[a7 (show ¬(40:Int)<(js.length:Int) by omega)];refine qU 2 rfl (qU 3 rfl ?_);rw[af];refine qU 1 rfl ?_;by_cases c7:40<lds.length
     · rw[aO (show (40:Int)<(lds.length:Int) by omega)];refine qU 14 rfl (ae.nil ?_);have hEt:E=true:=by rw[← hE,aO (by omega)];rfl
       subst hEt;exact AW.aJ rfl (qX 1 rfl (qN rfl))
     rw[a7 (show ¬(40:Int)<(lds.length:Int) by omega)];refine qU 2 rfl (qU 3 rfl ?_);rw[af];refine qU 1 rfl ?_;by_cases c8:40<bs.length
     · rw[aO (show (40:Int)<(bs.length:Int) by omega)];refine qU 8 rfl (ae.nil ?_);have hEt:E=true:=by rw[← hE,aO (by omega)];rfl
       subst hEt;exact AW.aJ rfl (qX 1 rfl (qN rfl))
     rw[a7 (show ¬(40:Int)<(bs.length:Int) by omega)];refine qU 2 rfl (qU 4 rfl ?_);rw[af];refine qU 1 rfl ?_;by_cases c9:2<rt.length
     · rw[aO (show (2:Int)<(rt.length:Int) by omega)];refine qU 1 rfl (ae.nil ?_);have hEt:E=true:=by rw[← hE,aO (by omega)];rfl
       subst hEt;exact AW.aJ rfl (qX 1 rfl (qN rfl))
     rw[a7 (show ¬(2:Int)<(rt.length:Int) by omega)];refine qU 1 rfl (ae.nil (AW.aH rfl (AW.skip ?_)));exact⟨(),rfl,by omega⟩
   rw[a7 (show ¬(6:Int)<(lb.length:Int) by omega)];refine qU 7 rfl (qU 3 rfl ?_);rw[af];refine qU 1 rfl ?_;by_cases c3:8<js.length
   · rw[aO (show (8:Int)<(js.length:Int) by omega)];refine qU 4 rfl ?_;rw[af];refine qU 1 rfl ?_;by_cases c4:js.length≤16
     · rw[aO (show (js.length:Int)≤(16:Int) by omega)];refine qU 33 rfl (ae.nil ?_);have hEt:E=true:=by rw[← hE,aO (by omega)];rfl
       subst hEt;exact AW.aJ rfl (qX 1 rfl (qN rfl))
     rw[a7 (show ¬(js.length:Int)≤(16:Int) by omega)];refine qU 3 rfl (qU 3 rfl ?_);rw[af];refine qU 1 rfl ?_;by_cases c5:40<lb.length
     · rw[aO (show (40:Int)<(lb.length:Int) by omega)];refine qU 26 rfl (ae.nil ?_);have hEt:E=true:=by rw[← hE,aO (by omega)];rfl
       subst hEt;exact AW.aJ rfl (qX 1 rfl (qN rfl))
     rw[a7 (show ¬(40:Int)<(lb.length:Int) by omega)];refine qU 2 rfl (qU 3 rfl ?_);rw[af];refine qU 1 rfl ?_;by_cases c6:40<js.length
     · rw[aO (show (40:Int)<(js.length:Int) by omega)];refine qU 20 rfl (ae.nil ?_);have hEt:E=true:=by rw[← hE,aO (by omega)];rfl
       subst hEt;exact AW.aJ rfl (qX 1 rfl (qN rfl))
     rw[a7 (show ¬(40:Int)<(js.length:Int) by omega)];refine qU 2 rfl (qU 3 rfl ?_);rw[af];refine qU 1 rfl ?_;by_cases c7:40<lds.length
     · rw[aO (show (40:Int)<(lds.length:Int) by omega)];refine qU 14 rfl (ae.nil ?_);have hEt:E=true:=by rw[← hE,aO (by omega)];rfl
       subst hEt;exact AW.aJ rfl (qX 1 rfl (qN rfl))
     rw[a7 (show ¬(40:Int)<(lds.length:Int) by omega)];refine qU 2 rfl (qU 3 rfl ?_);rw[af];refine qU 1 rfl ?_;by_cases c8:40<bs.length
     · rw[aO (show (40:Int)<(bs.length:Int) by omega)];refine qU 8 rfl (ae.nil ?_);have hEt:E=true:=by rw[← hE,aO (by omega)];rfl
       subst hEt;exact AW.aJ rfl (qX 1 rfl (qN rfl))
     rw[a7 (show ¬(40:Int)<(bs.length:Int) by omega)];refine qU 2 rfl (qU 4 rfl ?_);rw[af];refine qU 1 rfl ?_;by_cases c9:2<rt.length
     · rw[aO (show (2:Int)<(rt.length:Int) by omega)];refine qU 1 rfl (ae.nil ?_);have hEt:E=true:=by rw[← hE,aO (by omega)];rfl
       subst hEt;exact AW.aJ rfl (qX 1 rfl (qN rfl))
     rw[a7 (show ¬(2:Int)<(rt.length:Int) by omega)];refine qU 1 rfl (ae.nil (AW.aH rfl (AW.skip ?_)));exact⟨(),rfl,by omega⟩
   rw[a7 (show ¬(8:Int)<(js.length:Int) by omega)];refine qU 8 rfl (qU 3 rfl ?_);rw[af];refine qU 1 rfl ?_;by_cases c5:40<lb.length
   · rw[aO (show (40:Int)<(lb.length:Int) by omega)];refine qU 26 rfl (ae.nil ?_);have hEt:E=true:=by rw[← hE,aO (by omega)];rfl
     subst hEt;exact AW.aJ rfl (qX 1 rfl (qN rfl))
   rw[a7 (show ¬(40:Int)<(lb.length:Int) by omega)];refine qU 2 rfl (qU 3 rfl ?_);rw[af];refine qU 1 rfl ?_;by_cases c6:40<js.length
   · rw[aO (show (40:Int)<(js.length:Int) by omega)];refine qU 20 rfl (ae.nil ?_);have hEt:E=true:=by rw[← hE,aO (by omega)];rfl
     subst hEt;exact AW.aJ rfl (qX 1 rfl (qN rfl))
   rw[a7 (show ¬(40:Int)<(js.length:Int) by omega)];refine qU 2 rfl (qU 3 rfl ?_);rw[af];refine qU 1 rfl ?_;by_cases c7:40<lds.length
   · rw[aO (show (40:Int)<(lds.length:Int) by omega)];refine qU 14 rfl (ae.nil ?_);have hEt:E=true:=by rw[← hE,aO (by omega)];rfl
     subst hEt;exact AW.aJ rfl (qX 1 rfl (qN rfl))
   rw[a7 (show ¬(40:Int)<(lds.length:Int) by omega)];refine qU 2 rfl (qU 3 rfl ?_);rw[af];refine qU 1 rfl ?_;by_cases c8:40<bs.length
   · rw[aO (show (40:Int)<(bs.length:Int) by omega)];refine qU 8 rfl (ae.nil ?_);have hEt:E=true:=by rw[← hE,aO (by omega)];rfl
     subst hEt;exact AW.aJ rfl (qX 1 rfl (qN rfl))
   rw[a7 (show ¬(40:Int)<(bs.length:Int) by omega)];refine qU 2 rfl (qU 4 rfl ?_);rw[af];refine qU 1 rfl ?_;by_cases c9:2<rt.length
   · rw[aO (show (2:Int)<(rt.length:Int) by omega)];refine qU 1 rfl (ae.nil ?_);have hEt:E=true:=by rw[← hE,aO (by omega)];rfl
     subst hEt;exact AW.aJ rfl (qX 1 rfl (qN rfl))
   rw[a7 (show ¬(2:Int)<(rt.length:Int) by omega)];refine qU 1 rfl (ae.nil (AW.aH rfl (AW.skip ?_)));exact⟨(),rfl,by omega⟩
 · rw[a7 hc,Bool.false_or] at hE;obtain ⟨G,hG⟩: ∃G,eP (Lr lb) (lb.length-0) 0=G:=⟨_,rfl⟩;rw[hG] at hE;show AW _ _ _ _ _ _ _ [(2,.bx [dS ln,aC lb,aB js,ay lds]),(3,.bx [.sl 1 (rt.map bw),.sl 4 (bs.map fu.D),.sl 1 (md.map (fun n=>dI n))])];refine qX 1 rfl (qI (qX 1 rfl (ae.nil (AW.block ?_))));refine AW.aL [2,3,5,6] (fun i:Nat=>[(2,.bx [dS ln,aC lb,aB js,ay lds]),(3,.bx [.sl 1 (rt.map bw),.sl 4 (bs.map fu.D),.sl 1 (md.map (fun n=>dI n))]),(5,.d (dI (rL lb i))),(6,.d (dI i))]) (fun i=>i≤lb.length∧eP (Lr lb) (lb.length-i) i=G) (fun i=>lb.length-i) 0 rfl ⟨Nat.zero_le _,hG⟩ (fun i ⟨hi,hiG⟩=>?_)
   · show AW _ _ _ _ _ _ _ [(2,.bx [dS ln,aC lb,aB js,ay lds]),(3,.bx [.sl 1 (rt.map bw),.sl 4 (bs.map fu.D),.sl 1 (md.map (fun n=>dI n))]),(5,.d (dI (rL lb i))),(6,.d (dI i))];refine AW.seq (qX 4 rfl ?_);rw[af];refine qU 1 rfl (ae.nil (AW.cond rfl (fun h=>?_) (fun h=>?_)))
     · have hin:i<lb.length:=by have:=ao h;omega
       have gB:=getM Body.D hin;have hpl:=(hlb i).2.1;have hmk:=fun k=>(hlb i).2.2 k;have wMi:=wM i;have hhit:=fun h0:Lr lb i=true=>(fL hin h0).symm.trans hiG;have hmiss:=fun h0:Lr lb i=false=>(eO hin h0).symm.trans hiG;have hpb:Lr lb i=decide (40<(lb.getD i default).pts.length):=rfl;have hnx:rL lb (i+1)=sv (fun k=>Ab ((lb.getD i default).pts.getD k default)) (rL lb i) (lb.getD i default).pts.length:=rfl;generalize lb.getD i default=Bd at *;unfold big at hpl;refine AW.skip (AW.seq (AW.block (AW.seq (qX 3 rfl (ae.idx tok Bd.D rfl rfl rfl rfl (aj i) gB ?_)))));refine qU 3 rfl ?_;rw[af];refine qU 1 rfl (ae.nil (AW.cond rfl (fun h=>?_) (fun h=>?_)))
       · have h40:40<Bd.pts.length:=by have:=ao h;omega
         rw[aO h40] at hpb;have:=hhit hpb;subst this;have hEt:E=true:=by rw[← hE];rfl
         subst hEt;exact qX 1 rfl (qN rfl)
       · have h40: ¬40<Bd.pts.length:=by have:=ar h;omega
         rw[a7 h40] at hpb;refine AW.skip (qX 1 rfl (ae.nil (AW.block ?_)));refine AW.aL [2,3,5,6,7] (fun k:Nat=>[(2,.bx [dS ln,aC lb,aB js,ay lds]),(3,.bx [.sl 1 (rt.map bw),.sl 4 (bs.map fu.D),.sl 1 (md.map (fun n=>dI n))]),(5,.d (dI (sv (fun k=>Ab (Bd.pts.getD k default)) (rL lb i) k))),(6,.d (dI i)),(7,.d (dI k))]) (fun k=>k≤Bd.pts.length) (fun k=>Bd.pts.length-k) 0 rfl (Nat.zero_le _) (fun k hk=>?_)
         · show AW _ _ _ _ _ _ _ [(2,.bx [dS ln,aC lb,aB js,ay lds]),(3,.bx [.sl 1 (rt.map bw),.sl 4 (bs.map fu.D),.sl 1 (md.map (fun n=>dI n))]),(5,.d (dI (sv (fun k=>Ab (Bd.pts.getD k default)) (rL lb i) k))),(6,.d (dI i)),(7,.d (dI k))];refine AW.seq (qX 4 rfl (ae.idx tok Bd.D rfl rfl rfl rfl (aj i) gB ?_));refine qU 3 rfl ?_;rw[af];refine qU 1 rfl (ae.nil (AW.cond rfl (fun h=>?_) (fun h=>?_)))
           · have hkn:k<Bd.pts.length:=by have:=ao h;omega
             have gM:=getM Mark.D hkn;have hmk:=hmk k;have wMi:=wMi k;have hms:sv (fun k=>Ab (Bd.pts.getD k default)) (rL lb i) (k+1)=max (sv (fun k=>Ab (Bd.pts.getD k default)) (rL lb i) k) (Ab (Bd.pts.getD k default)):=rfl;generalize sv (fun k=>Ab (Bd.pts.getD k default)) (rL lb i) k=n at *;generalize Bd.pts.getD k default=p at gM hms hmk;obtain ⟨pn,⟨xg,xn,xd⟩,⟨yg,yn,yd⟩⟩:=p;obtain ⟨_,h1,h2⟩:=hmk;have a1:xn.length≤K:=h1.2.2.1;have a2:xd.length≤K:=h1.2.2.2;have a3:yn.length≤K:=h2.2.2.1;have a4:yd.length≤K:=h2.2.2.2;have hmw:Ab ⟨pn,⟨xg,xn,xd⟩,⟨yg,yn,yd⟩⟩=xn.length+xd.length+yn.length+yd.length:=rfl;rw[hmw] at hms;refine AW.skip (AW.seq (AW.block (qX 3 rfl (ae.idx tok Bd.D rfl rfl rfl rfl (aj i) gB ?_))));refine qU 3 rfl (ae.idx tok (Mark.D ⟨pn,⟨xg,xn,xd⟩,⟨yg,yn,yd⟩⟩) rfl rfl rfl rfl (aj k) gM ?_);refine qU 3 rfl (ae.nil (qT 5 rfl ?_));rw[ba];refine qU 4 rfl ?_;rw[ba];refine qU 1 rfl ?_;rw[aI (x:=(xn.length:Int)+(xd.length:Int)) (by omega) (by omega)];refine qU 4 rfl ?_;rw[ba];refine qU 1 rfl ?_;rw[aI (x:=(xn.length:Int)+(xd.length:Int)+(yn.length:Int)) (by omega) (by omega)];refine qU 4 rfl ?_;rw[ba];refine qU 1 rfl ?_;rw[aI (x:=(xn.length:Int)+(xd.length:Int)+(yn.length:Int)+(yd.length:Int)) (by omega) (by omega),show (xn.length:Int)+(xd.length:Int)+(yn.length:Int)+(yd.length:Int)=((xn.length+xd.length+yn.length+yd.length:Nat):Int) by omega];refine qU 1 rfl ?_;rw[yF,← hms];refine qU 1 rfl (ae.nil (qT 2 rfl ?_));rw[aI (x:=(k:Int)+1) (by omega) (by omega)];refine qU 1 rfl (ae.nil ?_);exact⟨k+1,rfl,hkn,by omega⟩
           have hkn:k=Bd.pts.length:=by have:=ar h;omega
           subst hkn;rw[← hnx];refine AW.exit (qT 2 rfl ?_);rw[aI (x:=(i:Int)+1) (by omega) (by omega)];refine qU 1 rfl (ae.nil ?_);exact⟨i+1,rfl,⟨hin,hmiss hpb⟩,by omega⟩
     have hin:i=lb.length:=by have:=ar h;omega
     subst hin;rw[fM (Nat.lt_irrefl _)] at hiG;subst hiG;rw[Bool.false_or] at hE;have wB:=wB lb.length;generalize rL lb lb.length=N1 at *;have wR:=fun k=>z7 (f:=fun i=>ed (rt.getD i [])) wB (fun i=>yr i) k;refine AW.exit (AW.seq (qX 1 rfl (ae.nil (AW.block ?_))));refine AW.aL [2,3,5,9] (fun i:Nat=>[(2,.bx [dS ln,aC lb,aB js,ay lds]),(3,.bx [.sl 1 (rt.map bw),.sl 4 (bs.map fu.D),.sl 1 (md.map (fun n=>dI n))]),(5,.d (dI (sv (fun i=>ed (rt.getD i [])) N1 i))),(9,.d (dI i))]) (fun i=>i≤rt.length) (fun i=>rt.length-i) 0 rfl (Nat.zero_le _) (fun i hi=>?_)
     · show AW _ _ _ _ _ _ _ [(2,.bx [dS ln,aC lb,aB js,ay lds]),(3,.bx [.sl 1 (rt.map bw),.sl 4 (bs.map fu.D),.sl 1 (md.map (fun n=>dI n))]),(5,.d (dI (sv (fun i=>ed (rt.getD i [])) N1 i))),(9,.d (dI i))];refine AW.seq (qX 5 rfl ?_);rw[af];refine qU 1 rfl (ae.nil (AW.cond rfl (fun h=>?_) (fun h=>?_)))
       · have hin:i<rt.length:=by have:=ao h;omega
         have gR:=getM bw hin;have zri:=zr i;have hms:sv (fun i=>ed (rt.getD i [])) N1 (i+1)=max (sv (fun i=>ed (rt.getD i [])) N1 i) (ed (rt.getD i [])):=rfl;refine AW.skip (AW.seq (AW.block (qT 5 rfl (ae.idx tok (bw (rt.getD i [])) rfl rfl rfl rfl (aj i) gR ?_))));refine qU 1 rfl (qM rfl zri (qU 1 rfl ?_));rw[yF,← hms];refine qU 1 rfl (ae.nil (qT 2 rfl ?_));rw[aI (x:=(i:Int)+1) (by omega) (by omega)];refine qU 1 rfl (ae.nil ?_);exact⟨i+1,rfl,hin,by omega⟩
       have hin:i=rt.length:=by have:=ar h;omega
       subst hin;have wR:=wR rt.length;generalize sv (fun i=>ed (rt.getD i [])) N1 rt.length=N2 at *
       have wP: ∀i,nC bs N2 i≤4000000000000000:=fun i=>by
        induction i with
        | zero=>exact wR
        | succ i ih =>
          have h1:=yc i;have h2:=ys i;have h3:=yx i;have h4:=yy i;show max (max (max (max (nC bs N2 i) _) _) _) _≤_;omega
       refine AW.exit (AW.seq (qX 1 rfl (ae.nil (AW.block ?_))));refine AW.aL [2,3,5,10] (fun i:Nat=>[(2,.bx [dS ln,aC lb,aB js,ay lds]),(3,.bx [.sl 1 (rt.map bw),.sl 4 (bs.map fu.D),.sl 1 (md.map (fun n=>dI n))]),(5,.d (dI (nC bs N2 i))),(10,.d (dI i))]) (fun i=>i≤bs.length) (fun i=>bs.length-i) 0 rfl (Nat.zero_le _) (fun i hi=>?_)
       · show AW _ _ _ _ _ _ _ [(2,.bx [dS ln,aC lb,aB js,ay lds]),(3,.bx [.sl 1 (rt.map bw),.sl 4 (bs.map fu.D),.sl 1 (md.map (fun n=>dI n))]),(5,.d (dI (nC bs N2 i))),(10,.d (dI i))];refine AW.seq (qX 4 rfl ?_);rw[af];refine qU 1 rfl (ae.nil (AW.cond rfl (fun h=>?_) (fun h=>?_)))
         · have hin:i<bs.length:=by have:=ao h;omega
           have gP:=getM fu.D hin;have zc:=zc i;have zs:=zs i;have zx:=zx i;have zy:=zy i;have hms:nC bs N2 (i+1)=max (max (max (max (nC bs N2 i) (ed (bs.getD i default).c)) (ed (bs.getD i default).s)) (ed (bs.getD i default).x)) (ed (bs.getD i default).y):=rfl;generalize bs.getD i default=p at *;obtain ⟨pc,ps,px,py⟩:=p;simp only[] at zc zs zx zy hms;refine AW.skip (AW.seq (AW.block (qX 3 rfl (ae.idx tok (fu.D ⟨pc,ps,px,py⟩) rfl rfl rfl rfl (aj i) gP ?_))));refine qU 3 rfl (ae.nil (AW.draw aS 14 (by kernel_rfl) ?_));refine qP 3 rfl (qQ rfl zc (qP 2 rfl (qQ rfl zs (qP 2 rfl (qQ rfl zx (qP 2 rfl (qQ rfl zy (qP 1 rfl ?_))))))));rw[yF,yF,yF,yF,← hms];refine ah.nil (qU 1 rfl (ae.nil (qT 2 rfl ?_)));rw[aI (x:=(i:Int)+1) (by omega) (by omega)];refine qU 1 rfl (ae.nil ?_);exact⟨i+1,rfl,hin,by omega⟩
         have hin:i=bs.length:=by have:=ar h;omega
         subst hin;refine AW.exit (qX 5 rfl ?_);rw[af];refine qU 1 rfl ?_;rw[aI (x:=4*(rt.length:Int)) (by omega) (by omega)];refine qU 1 rfl ?_;rw[aI (x:=16-4*(rt.length:Int)) (by omega) (by omega)];refine qU 1 rfl ?_;rw[hE];exact qU 1 rfl (qN rfl)
end Lift
namespace Lift
open Go Go.Proofs
theorem AS:RT Tryz.prog 52 (List RD) (fun l=>[bw l]) (fun l=>ur l) :=
 (RT.sliceB 32 (el:=RD.D) (s:=3) Tryz.underlying52 (by kernel_rfl) (by kernel_rfl) (by decide) (Nat.le_of_ble_eq_true (by kernel_rfl)) Gt (fun v=>rfl)).map id (fun l h=>rfl) (fun l h=>⟨by have:=h.1;unfold reachBytes at this;show l.length≤_;omega,k6 (fun v hv=>(h.2 v hv).mono (by decide)) ⟨fun _ h=>(by cases h),fun _ h=>(by cases h),Nat.zero_le _,Nat.zero_le _⟩⟩) (fun v=>⟨by kernel_rfl,fun d hd=>by simp at hd;subst hd;rfl⟩)
theorem K7:RT Tryz.prog 27 (List (List RD)) (fun l=>[.sl 1 (l.map bw)]) (fun l=>l.length≤reachBytes∧ ∀v∈l,ur v) :=
 RT.slice (el:=bw) (s:=1) (by kernel_rfl) (by kernel_rfl) (by kernel_rfl) (by decide) (Nat.le_of_ble_eq_true (by kernel_rfl)) AS (fun v=>rfl)
theorem Jj:RT Tryz.prog 29 (List (List RD)) (fun l=>[.sl 1 (l.map bw)]) (fun l=>l.length≤reachBytes∧ ∀v∈l,ur v):=by
 have h:=RT.struct (P:=Tryz.prog) (t:=29) (m:=1) Tryz.underlying29 (by kernel_rfl) (k8.cons (by kernel_rfl) K7 k8.nil) (fun v=>rfl);exact h.map (fun v=>v.1) (fun v h=>rfl) (fun v h=>h.1) (fun v=>⟨by kernel_rfl,fun d hd=>by simp at hd;subst hd;rfl⟩)
def fu.nb(p:fu):Prop:=ur p.c∧ur p.s∧ur p.x∧ur p.y
theorem Gu:RT Tryz.prog 73 fu (fun p=>p.D.flat) (fun p=>p.nb):=by
 have h:=RT.struct (P:=Tryz.prog) (t:=73) (m:=4) Tryz.underlying73 (by kernel_rfl) (k8.cons (by kernel_rfl) AS (k8.cons (by kernel_rfl) AS (k8.cons (by kernel_rfl) AS (k8.cons (by kernel_rfl) AS k8.nil)))) (fun v=>rfl)
 exact h.map (fun v=>⟨v.1,v.2.1,v.2.2.1,v.2.2.2.1⟩) (fun v h=>rfl) (fun v h=>⟨h.1,h.2.1,h.2.2.1,h.2.2.2.1⟩) (fun v=>⟨by kernel_rfl,fun d hd=>by
  simp only[D.flat,List.mem_cons,List.mem_nil_iff,or_false] at hd
  rcases hd with rfl | rfl | rfl | rfl<;>rfl⟩)
theorem Fq:RT Tryz.prog 30 (List fu) (fun l=>[.sl 4 (l.map fu.D)]) (fun l=>l.length≤reachBytes∧ ∀v∈l,v.nb) :=
 RT.slice (el:=fu.D) (s:=4) (by kernel_rfl) (by kernel_rfl) (by kernel_rfl) (by decide) (Nat.le_of_ble_eq_true (by kernel_rfl)) Gu (fun v=>rfl)
theorem Jm:RT Tryz.prog 31 (List Int) (fun l=>[.sl 1 (l.map (fun n=>dI n))]) (fun _=>True) :=
 (RT.slice (el:=fun n:Int=>dI n) (s:=1) (by kernel_rfl) (by kernel_rfl) (by kernel_rfl) (by decide) (Nat.le_of_ble_eq_true (by kernel_rfl)) s7 (fun v=>rfl)).map id (fun l h=>rfl) (fun l h=>trivial) (fun v=>⟨by kernel_rfl,fun d hd=>by simp at hd;subst hd;rfl⟩)
theorem ur.nil:ur []:=⟨Nat.zero_le _,fun i=>⟨fun _ h=>(by cases h),fun _ h=>(by cases h),Nat.zero_le _,Nat.zero_le _⟩⟩
theorem u_assembly:RT Tryz.prog 33 Asm (fun a=>a.D.flat) (fun a=>AsB a):=by
 have h:=RT.struct (P:=Tryz.prog) (t:=33) (m:=3) Tryz.underlying33 (by kernel_rfl) (k8.cons (by kernel_rfl) Jj (k8.cons (by kernel_rfl) Fq (k8.cons (by kernel_rfl) Jm k8.nil))) (fun v=>rfl)
 refine h.map (fun v=>⟨v.1,v.2.1,v.2.2.1⟩) (fun v h=>rfl) (fun v h=>?_) (fun v=>⟨by kernel_rfl,fun d hd=>by
  simp only[D.flat,List.mem_cons,List.mem_nil_iff,or_false] at hd
  rcases hd with rfl | rfl | rfl<;>rfl⟩)
 have hp:=fun i=>k6 h.2.1.2 ⟨ur.nil,ur.nil,ur.nil,ur.nil⟩ i;refine⟨Nat.le_trans h.1.1 (by decide),fun i=>?_,Nat.le_trans h.2.1.1 (by decide),fun i=>(hp i).1,fun i=>(hp i).2.1,fun i=>(hp i).2.2.1,fun i=>(hp i).2.2.2⟩;exact k6 (p:=ur) (l:=v.1) h.1.2 ur.nil i
end Lift
namespace Lift
structure Rg where
 T:Type
 add:T→T→T
 mul:T→T→T
 neg:T→T
 z:T
 o:T
 ac: ∀x y,add x y=add y x
 aa: ∀x y w,add (add x y) w=add x (add y w)
 az: ∀x,add x z=x
 an: ∀x,add x (neg x)=z
 mc: ∀x y,mul x y=mul y x
 ma: ∀x y w,mul (mul x y) w=mul x (mul y w)
 mo: ∀x,mul x o=x
 md: ∀x y w,mul x (add y w)=add (mul x y) (mul x w)
instance (R:Rg):Add R.T:=⟨R.add⟩
instance (R:Rg):Mul R.T:=⟨R.mul⟩
instance (R:Rg):Neg R.T:=⟨R.neg⟩
instance (R:Rg):Sub R.T:=⟨fun x y=>R.add x (R.neg y)⟩
instance (R:Rg):OfNat R.T 0:=⟨R.z⟩
instance (R:Rg):OfNat R.T 1:=⟨R.o⟩
section
variable {R:Rg}
theorem Rg.sub_def(x y:R.T):x-y=x+ -y:=rfl
theorem Rg.add_comm(x y:R.T):x+y=y+x:=R.ac x y
theorem Rg.add_assoc(x y w:R.T):x+y+w=x+(y+w):=R.aa x y w
theorem Rg.add_zero(x:R.T):x+0=x:=R.az x
theorem Rg.zero_add(x:R.T):0+x=x:=by rw[Rg.add_comm,Rg.add_zero]
theorem Rg.add_neg(x:R.T):x+ -x=0:=R.an x
theorem Rg.mul_comm(x y:R.T):x*y=y*x:=R.mc x y
theorem Rg.mul_assoc(x y w:R.T):x*y*w=x*(y*w):=R.ma x y w
theorem Rg.mul_one(x:R.T):x*1=x:=R.mo x
theorem Rg.one_mul(x:R.T):1*x=x:=by rw[Rg.mul_comm,Rg.mul_one]
theorem Rg.mul_add(x y w:R.T):x*(y+w)=x*y+x*w:=R.md x y w
theorem Rg.add_mul(x y w:R.T):(y+w)*x=y*x+w*x:=by rw[Rg.mul_comm,Rg.mul_add,Rg.mul_comm x y,Rg.mul_comm x w]
theorem Rg.Cv{x y w:R.T}(h:x+y=x+w):y=w:=by
 have: -x+(x+y)= -x+(x+w):=by rw[h]
 rw[← Rg.add_assoc,← Rg.add_assoc,Rg.add_comm (-x),Rg.add_neg,Rg.zero_add,Rg.zero_add] at this;exact this
theorem Rg.neg_eq{x y:R.T}(h:x+y=0): -x=y:=Rg.Cv (x:=x) (by rw[Rg.add_neg,h])
theorem Rg.neg_neg(x:R.T): - -x=x:=Rg.neg_eq (by rw[Rg.add_comm,Rg.add_neg])
theorem Rg.neg_zero: -(0:R.T)=0:=Rg.neg_eq (Rg.add_zero 0)
theorem Rg.mul_zero(x:R.T):x*0=0:=Rg.Cv (x:=x*0) (by rw[← Rg.mul_add,Rg.add_zero,Rg.add_zero])
theorem Rg.zero_mul(x:R.T):0*x=0:=by rw[Rg.mul_comm,Rg.mul_zero]
theorem Rg.mul_neg(x y:R.T):x* -y= -(x*y):=(Rg.neg_eq (by rw[← Rg.mul_add,Rg.add_neg,Rg.mul_zero])).symm
theorem Rg.neg_mul(x y:R.T): -x*y= -(x*y):=by rw[Rg.mul_comm,Rg.mul_neg,Rg.mul_comm]
theorem Rg.neg_add(x y:R.T): -(x+y)= -x+ -y:=Rg.neg_eq (by
 rw[Rg.add_assoc,← Rg.add_assoc y,Rg.add_comm y,Rg.add_assoc,Rg.add_neg,Rg.add_zero,Rg.add_neg])
theorem Rg.sub_self(x:R.T):x-x=0:=Rg.add_neg x
theorem Rg.yP{x y:R.T}(h:x-y=0):x=y:=by
 have:x+ -y+y=0+y:=by rw[← Rg.sub_def,h]
 rwa [Rg.add_assoc,Rg.add_comm (-y),Rg.add_neg,Rg.add_zero,Rg.zero_add] at this
end
inductive Px where
 | v (i:Nat)
 | z
 | o
 | add (p q:Px)
 | mul (p q:Px)
 | neg (p:Px)
 | sub (p q:Px)
instance:Add Px:=⟨.add⟩
instance:Mul Px:=⟨.mul⟩
instance:Neg Px:=⟨.neg⟩
instance:Sub Px:=⟨.sub⟩
instance:OfNat Px 0:=⟨.z⟩
instance:OfNat Px 1:=⟨.o⟩
def Px.ev{R:Rg}(ρ:List R.T):Px→R.T
 | .v i=>ρ.getD i 0
 | .z=>0
 | .o=>1
 | .add p q=>p.ev ρ+q.ev ρ
 | .mul p q=>p.ev ρ*q.ev ρ
 | .neg p=> -p.ev ρ
 | .sub p q=>p.ev ρ-q.ev ρ
def F3(i:Nat):List Nat→List Nat
 | []=>[i]
 | j::r=>if i≤j then i::j::r else j::F3 i r
def MV:List Nat→List Nat→List Nat
 | [],l=>l
 | i::r,l=>F3 i (MV r l)
abbrev Pl:=List (Bool×List Nat)
def Pl.flip(p:Pl):Pl:=p.map fun m=>(!m.1,m.2)
def Pl.NO(m:Bool×List Nat)(p:Pl):Pl:=p.map fun n=>(m.1==n.1,MV m.2 n.2)
def Pl.mul:Pl→Pl→Pl
 | [],_=>[]
 | m::r,q=>Pl.NO m q++Pl.mul r q
def Px.nf:Px→Pl
 | .v i=>[(true,[i])]
 | .z=>[]
 | .o=>[(true,[])]
 | .add p q=>p.nf++q.nf
 | .mul p q=>Pl.mul p.nf q.nf
 | .neg p=>Pl.flip p.nf
 | .sub p q=>p.nf++Pl.flip q.nf
def Pl.rem(m:Bool×List Nat):Pl→Option Pl
 | []=>none
 | n::r=>if (m.1 != n.1)&&(m.2==n.2) then some r else match Pl.rem m r with
   | some r'=>some (n::r')
   | none=>none
def Pl.JR:Nat→Pl→Bool
 | _,[]=>true
 | 0,_::_=>false
 | f+1,m::r=>match Pl.rem m r with
   | some r'=>Pl.JR f r'
   | none=>false
def Px.uo(p q:Px):Bool:=let l:=(Px.sub p q).nf;Pl.JR l.length l
section
variable {R:Rg}
def mN(ρ:List R.T):List Nat→R.T
 | []=>1
 | i::r=>ρ.getD i 0*mN ρ r
def xk(b:Bool)(x:R.T):R.T:=if b then x else -x
def oV(ρ:List R.T):Pl→R.T
 | []=>0
 | m::r=>xk m.1 (mN ρ m.2)+oV ρ r
theorem HJ(ρ:List R.T)(i:Nat): ∀l,mN ρ (F3 i l)=ρ.getD i 0*mN ρ l
 | []=>rfl
 | j::r=>by
   unfold F3;split
   · rfl
   · show ρ.getD j 0*mN ρ (F3 i r)=ρ.getD i 0*(ρ.getD j 0*mN ρ r);rw[HJ ρ i r,← Rg.mul_assoc,Rg.mul_comm (ρ.getD j 0),Rg.mul_assoc]
theorem KF(ρ:List R.T): ∀l m,mN ρ (MV l m)=mN ρ l*mN ρ m
 | [],m=>(Rg.one_mul _).symm
 | i::r,m=>by
   show mN ρ (F3 i (MV r m))=ρ.getD i 0*mN ρ r*mN ρ m;rw[HJ,KF ρ r m,Rg.mul_assoc]
theorem uC(ρ:List R.T): ∀p q,oV ρ (p++q)=oV ρ p+oV ρ q
 | [],q=>(Rg.zero_add _).symm
 | m::r,q=>by
   show xk m.1 (mN ρ m.2)+oV ρ (r++q)=xk m.1 (mN ρ m.2)+oV ρ r+oV ρ q;rw[uC ρ r q,Rg.add_assoc]
theorem El(b:Bool)(x:R.T):xk (!b) x= -xk b x:=by
 cases b
 · exact(Rg.neg_neg x).symm
 · rfl
theorem JA(a b:Bool)(x y:R.T):xk (a==b) (x*y)=xk a x*xk b y:=by
 cases a<;>cases b
 · show x*y= -x* -y;rw[Rg.neg_mul,Rg.mul_neg,Rg.neg_neg]
 · show -(x*y)= -x*y;rw[Rg.neg_mul]
 · show -(x*y)=x* -y;rw[Rg.mul_neg]
 · rfl
theorem vL(ρ:List R.T): ∀p:Pl,oV ρ (Pl.flip p)= -oV ρ p
 | []=>Rg.neg_zero.symm
 | m::r=>by
   show xk (!m.1) (mN ρ m.2)+oV ρ (Pl.flip r)= -(xk m.1 (mN ρ m.2)+oV ρ r);rw[vL ρ r,El,Rg.neg_add]
theorem Ez(ρ:List R.T)(m:Bool×List Nat): ∀p:Pl,oV ρ (Pl.NO m p)=xk m.1 (mN ρ m.2)*oV ρ p
 | []=>(Rg.mul_zero _).symm
 | n::r=>by
   show xk (m.1==n.1) (mN ρ (MV m.2 n.2))+oV ρ (Pl.NO m r)=xk m.1 (mN ρ m.2)*(xk n.1 (mN ρ n.2)+oV ρ r);rw[Ez ρ m r,KF,JA,Rg.mul_add]
theorem Ey(ρ:List R.T): ∀p q:Pl,oV ρ (Pl.mul p q)=oV ρ p*oV ρ q
 | [],q=>(Rg.zero_mul _).symm
 | m::r,q=>by
   show oV ρ (Pl.NO m q++Pl.mul r q)=(xk m.1 (mN ρ m.2)+oV ρ r)*oV ρ q;rw[uC,Ez,Ey ρ r q,Rg.add_mul]
theorem Px.tH(ρ:List R.T): ∀p:Px,oV ρ p.nf=p.ev ρ
 | .v i=>by
   show ρ.getD i 0*1+0=_;rw[Rg.mul_one,Rg.add_zero];rfl
 | .z=>rfl
 | .o=>Rg.add_zero _
 | .add p q=>by
   show oV ρ (p.nf++q.nf)=p.ev ρ+q.ev ρ;rw[uC,Px.tH ρ p,Px.tH ρ q]
 | .mul p q=>by
   show oV ρ (Pl.mul p.nf q.nf)=p.ev ρ*q.ev ρ;rw[Ey,Px.tH ρ p,Px.tH ρ q]
 | .neg p=>by
   show oV ρ (Pl.flip p.nf)= -p.ev ρ;rw[vL,Px.tH ρ p]
 | .sub p q=>by
   show oV ρ (p.nf++Pl.flip q.nf)=p.ev ρ-q.ev ρ;rw[uC,vL,Px.tH ρ p,Px.tH ρ q];rfl
theorem Ex(ρ:List R.T)(m:Bool×List Nat): ∀{p p':Pl},Pl.rem m p=some p'→xk m.1 (mN ρ m.2)+oV ρ p=oV ρ p'
 | [],p',h=>by cases h
 | n::r,p',h=>by
   unfold Pl.rem at h;split at h
   · rename_i hc;cases h;rw[Bool.and_eq_true] at hc
     have e1:n.1= !m.1:=by
      have h1:=hc.1
      revert h1
      cases m.1<;>cases n.1<;>simp
     have e2:m.2=n.2:=beq_iff_eq.1 hc.2;show xk m.1 (mN ρ m.2)+(xk n.1 (mN ρ n.2)+oV ρ r)=oV ρ r;rw[e1,← e2,El,← Rg.add_assoc,Rg.add_neg,Rg.zero_add]
   · split at h
     · rename_i r' hr;cases h;have ih:=Ex ρ m hr;show xk m.1 (mN ρ m.2)+(xk n.1 (mN ρ n.2)+oV ρ r)=xk n.1 (mN ρ n.2)+oV ρ r';rw[← ih,← Rg.add_assoc,Rg.add_comm (xk m.1 _),Rg.add_assoc]
     · cases h
theorem BE(ρ:List R.T): ∀(f:Nat) {p:Pl},Pl.JR f p=true→oV ρ p=0
 | _,[],_=>rfl
 | 0,_::_,h=>by cases h
 | f+1,m::r,h=>by
   have h:(match Pl.rem m r with
    | some r'=>Pl.JR f r'
    | none=>false)=true:=h
   split at h
   · rename_i r' hr;exact(Ex ρ m hr).trans (BE ρ f h)
   · cases h
theorem Rg.bJ(ρ:List R.T)(p q:Px)(h:Px.uo p q=true):p.ev ρ=q.ev ρ:=by
 have h1:=BE ρ _ h;rw[Px.tH] at h1;exact Rg.yP h1
end
abbrev X0:Px:= .v 0
abbrev X1:Px:= .v 1
abbrev X2:Px:= .v 2
abbrev X3:Px:= .v 3
abbrev X4:Px:= .v 4
abbrev X5:Px:= .v 5
abbrev X6:Px:= .v 6
abbrev X7:Px:= .v 7
example (R:Rg) (a b c:R.T):(a+b)*(a-b)+c*b=a*a+b*(c-b):=Rg.bJ [a,b,c] ((X0+X1)*(X0-X1)+X2*X1) (X0*X0+X1*(X2-X1)) rfl
end Lift
namespace Lift
structure OR extends Rg where
 sgn:T→Int
 s3: ∀x,sgn x=1∨sgn x=0∨sgn x= -1
 sn: ∀x,sgn (neg x)= -sgn x
 sm: ∀x y,sgn (mul x y)=sgn x*sgn y
 sp: ∀x y,sgn x=1→sgn y=1→sgn (add x y)=1
 s0: ∀x y,sgn x=0→sgn (add x y)=sgn y
 s1:sgn o=1
section
variable {R:OR}
theorem OR.ng(x:R.T):R.sgn (-x)= -R.sgn x:=R.sn x
theorem OR.ml(x y:R.T):R.sgn (x*y)=R.sgn x*R.sgn y:=R.sm x y
theorem OR.null(x y:R.T)(h:R.sgn x=0):R.sgn (x+y)=R.sgn y:=R.s0 x y h
theorem OR.yC(x y:R.T)(h:R.sgn y=0):R.sgn (x+y)=R.sgn x:=by rw[Rg.add_comm];exact R.s0 y x h
theorem OR.zero:R.sgn (0:R.T)=0:=by
 have h:=OR.ng (R:=R) 0;rw[Rg.neg_zero] at h;omega
theorem OR.one:R.sgn (1:R.T)=1:=R.s1
theorem OR.pp{x y:R.T}(h1:R.sgn x=1)(h2:0≤R.sgn y):R.sgn (x+y)=1:=by
 rcases R.s3 y with h | h | h
 · exact R.sp x y h1 h
 · rw[OR.yC x y h];exact h1
 · omega
theorem OR.nn{x y:R.T}(h1:R.sgn x= -1)(h2:R.sgn y≤0):R.sgn (x+y)= -1:=by
 have h:=OR.pp (x:= -x) (y:= -y) (by rw[OR.ng];omega) (by rw[OR.ng];omega);rw[← Rg.neg_add,OR.ng] at h;omega
theorem OR.kI{x:R.T}(y:R.T)(h:R.sgn x=0):R.sgn (x*y)=0:=by rw[OR.ml,h,Int.zero_mul]
theorem OR.BR{x:R.T}(y:R.T)(h:R.sgn x=0):R.sgn (y*x)=0:=by rw[OR.ml,h,Int.mul_zero]
theorem OR.sq(x:R.T):0≤R.sgn (x*x):=by
 rw[OR.ml];rcases R.s3 x with h | h | h<;>rw[h]<;>decide
theorem OR.NR{x:R.T}(h:R.sgn (x*x)=0):R.sgn x=0:=by
 rw[OR.ml] at h;rcases R.s3 x with e | e | e<;>rw[e] at h ⊢ <;>revert h<;>decide
theorem OR.ND{x:R.T}(h:R.sgn x≠0):R.sgn (x*x)=1:=by
 rw[OR.ml];rcases R.s3 x with e | e | e
 · rw[e];rfl
 · exact absurd e h
 · rw[e];rfl
theorem OR.more{x y:R.T}(h:R.sgn (x*x-y*y)=1):R.sgn (x+y)=R.sgn x:=by
 have hx:R.sgn x≠0:=fun e=>by
  have h1:=OR.null (x*x) (-(y*y)) (OR.kI x e);have h2:=OR.sq y;rw[OR.ng] at h1;have h1:R.sgn (x*x-y*y)= -R.sgn (y*y):=h1;omega
 have key: ∀{x y:R.T},R.sgn (x*x-y*y)=1→R.sgn x=1→R.sgn (x+y)=1:=fun {x y} h hx=>by
  rcases R.s3 y with e | e | e
  · exact OR.pp hx (by omega)
  · exact OR.pp hx (by omega)
  · have h1:R.sgn (x-y)=1:=OR.pp (y:= -y) hx (by rw[OR.ng];omega);have e:x*x-y*y=(x-y)*(x+y):=Rg.bJ [x,y] (X0*X0-X1*X1) ((X0-X1)*(X0+X1)) rfl;rw[e,OR.ml,h1] at h;omega
 rcases R.s3 x with e | e | e
 · rw[e];exact key h e
 · exact absurd e hx
 · have h1:=key (x:= -x) (y:= -y) (by
    rw[← h];congr 1
    exact Rg.bJ [x,y] (-X0* -X0- -X1* -X1) (X0*X0-X1*X1) rfl) (by rw[OR.ng];omega)
   rw[← Rg.neg_add,OR.ng] at h1;omega
end
def Rg.ext(R:Rg)(d:R.T):Rg where
 T:=R.T×R.T
 add x y:=(x.1+y.1,x.2+y.2)
 mul x y:=(x.1*y.1+x.2*y.2*d,x.1*y.2+x.2*y.1)
 neg x:=(-x.1, -x.2)
 z:=(0,0)
 o:=(1,0)
 ac x y:=Prod.ext (Rg.add_comm _ _) (Rg.add_comm _ _)
 aa x y w:=Prod.ext (Rg.add_assoc _ _ _) (Rg.add_assoc _ _ _)
 az x:=Prod.ext (Rg.add_zero _) (Rg.add_zero _)
 an x:=Prod.ext (Rg.add_neg _) (Rg.add_neg _)
 mc x y:=Prod.ext (Rg.bJ [x.1,x.2,y.1,y.2,d] (X0*X2+X1*X3*X4) (X2*X0+X3*X1*X4) rfl) (Rg.bJ [x.1,x.2,y.1,y.2] (X0*X3+X1*X2) (X2*X1+X3*X0) rfl)
 ma x y w:=Prod.ext
  (Rg.bJ [x.1,x.2,y.1,y.2,w.1,w.2,d] ((X0*X2+X1*X3*X6)*X4+(X0*X3+X1*X2)*X5*X6) (X0*(X2*X4+X3*X5*X6)+X1*(X2*X5+X3*X4)*X6) rfl)
  (Rg.bJ [x.1,x.2,y.1,y.2,w.1,w.2,d] ((X0*X2+X1*X3*X6)*X5+(X0*X3+X1*X2)*X4) (X0*(X2*X5+X3*X4)+X1*(X2*X4+X3*X5*X6)) rfl)
 mo x:=Prod.ext (Rg.bJ [x.1,x.2,d] (X0*1+X1*0*X2) X0 rfl) (Rg.bJ [x.1,x.2] (X0*0+X1*1) X1 rfl)
 md x y w:=Prod.ext
  (Rg.bJ [x.1,x.2,y.1,y.2,w.1,w.2,d] (X0*(X2+X4)+X1*(X3+X5)*X6) (X0*X2+X1*X3*X6+(X0*X4+X1*X5*X6)) rfl)
  (Rg.bJ [x.1,x.2,y.1,y.2,w.1,w.2] (X0*(X3+X5)+X1*(X2+X4)) (X0*X3+X1*X2+(X0*X5+X1*X4)) rfl)
end Lift
namespace Lift
def OR.es(R:OR)(d:R.T)(x:R.T×R.T):Int :=
 if R.sgn d=0 then R.sgn x.1 else if R.sgn x.1=R.sgn x.2∨R.sgn x.2=0 then R.sgn x.1 else
  if R.sgn x.1=0 then R.sgn x.2 else R.sgn x.1*R.sgn (x.1*x.1-x.2*x.2*d)
section
variable {R:OR} {d:R.T}
def OR.nr(d:R.T)(x:R.T×R.T):R.T:=x.1*x.1-x.2*x.2*d
theorem OR.IQ(hd:R.sgn d=1)(b:R.T):R.sgn (b*b*d)=R.sgn (b*b):=by rw[OR.ml (b*b) d,hd,Int.mul_one]
theorem OR.Fx(x y:R.T)(h:R.sgn x=0):R.sgn (x-y)= -R.sgn y:=(OR.null x (-y) h).trans (OR.ng y)
theorem OR.x6(x y:R.T)(h:R.sgn y=0):R.sgn (x-y)=R.sgn x:=OR.yC x (-y) (by rw[OR.ng,h];rfl)
theorem OR.jR(hd:R.sgn d=1){x:R.T×R.T}(h:R.sgn (OR.nr d x)=1):R.es d x=R.sgn x.1:=by
 obtain ⟨a,b⟩:=x;unfold OR.es OR.nr at *;simp only[] at *;rw[if_neg (by omega)];by_cases c1:R.sgn a=R.sgn b∨R.sgn b=0
 · rw[if_pos c1]
 rw[if_neg c1];by_cases c2:R.sgn a=0
 · have h1:=OR.Fx (a*a) (b*b*d) (OR.kI a c2);rw[OR.IQ hd] at h1;have:=OR.sq b;omega
 · rw[if_neg c2,h,Int.mul_one]
theorem OR.lu(hd:R.sgn d=1){x:R.T×R.T}(h:R.sgn (OR.nr d x)= -1):R.es d x=R.sgn x.2:=by
 obtain ⟨a,b⟩:=x;unfold OR.es OR.nr at *;simp only[] at *;rw[if_neg (by omega)];by_cases c0:R.sgn b=0
 · have h1:=OR.x6 (a*a) (b*b*d) (by rw[OR.IQ hd];exact OR.kI b c0);have:=OR.sq a;omega
 by_cases c1:R.sgn a=R.sgn b
 · rw[if_pos (.inl c1),c1]
 rw[if_neg (by simp[c0,c1])];by_cases c2:R.sgn a=0
 · rw[if_pos c2]
 rw[if_neg c2,h];rcases R.s3 a with e | e | e<;>rcases R.s3 b with g | g | g<;>omega
theorem OR.mD(hd:R.sgn d=1){x:R.T×R.T}(h1:R.sgn x.1=0)(h2:R.sgn x.2=0):R.es d x=0:=by
 unfold OR.es;rw[if_neg (by omega),if_pos (.inr h2),h1]
theorem OR.vV(x y:R.T×R.T):OR.nr d (x.1*y.1+x.2*y.2*d,x.1*y.2+x.2*y.1)=OR.nr d x*OR.nr d y :=
 Rg.bJ [x.1,x.2,y.1,y.2,d] ((X0*X2+X1*X3*X4)*(X0*X2+X1*X3*X4) -(X0*X3+X1*X2)*(X0*X3+X1*X2)*X4) ((X0*X0-X1*X1*X4)*(X2*X2-X3*X3*X4)) rfl
theorem OR.LD(x:R.T×R.T):OR.nr d (-x.1, -x.2)=OR.nr d x :=
 Rg.bJ [x.1,x.2,d] (-X0* -X0- -X1* -X1*X2) (X0*X0-X1*X1*X2) rfl
theorem OR.L1{p q:R.T}(hd:R.sgn d=1)(hp:R.sgn p=1)(hq:R.sgn q=1)(h:R.sgn (p*p-q*q*d)=0)(x:R.T×R.T):R.es d x=R.sgn (x.1*q+x.2*p):=by
 obtain ⟨a,b⟩:=x;unfold OR.es;simp only[];rw[if_neg (by omega)];have ea:R.sgn (a*q)=R.sgn a:=by rw[OR.ml,hq,Int.mul_one]
 have eb:R.sgn (b*p)=R.sgn b:=by rw[OR.ml,hp,Int.mul_one]
 by_cases c0:R.sgn b=0
 · rw[if_pos (.inr c0),OR.yC _ _ (by rw[eb,c0]),ea]
 by_cases c1:R.sgn a=R.sgn b
 · rw[if_pos (.inl c1)];rcases R.s3 a with e | e | e
   · rw[OR.pp (by rw[ea,e]) (by rw[eb];omega),e]
   · omega
   · rw[OR.nn (by rw[ea,e]) (by rw[eb];omega),e]
 rw[if_neg (by simp[c0,c1])];by_cases c2:R.sgn a=0
 · rw[if_pos c2,OR.null _ _ (by rw[ea,c2]),eb]
 rw[if_neg c2]
 have e1:q*q*(a*a-b*b*d)=(a*q-b*p)*(a*q+b*p)+b*b*(p*p-q*q*d) :=
  Rg.bJ [a,b,p,q,d] (X3*X3*(X0*X0-X1*X1*X4)) ((X0*X3-X1*X2)*(X0*X3+X1*X2)+X1*X1*(X2*X2-X3*X3*X4)) rfl
 have e2:R.sgn (a*a-b*b*d)=R.sgn (a*q-b*p)*R.sgn (a*q+b*p):=by
  have h1:R.sgn (q*q*(a*a-b*b*d))=R.sgn (a*a-b*b*d):=by rw[OR.ml,OR.ml,hq];omega
  rw[← h1,e1,OR.yC _ _ (OR.BR _ h),OR.ml]
 have e3:R.sgn (a*q-b*p)=R.sgn a:=by
  show R.sgn (a*q+ -(b*p))=_;rcases R.s3 a with e | e | e
  · rw[e];exact OR.pp (by rw[ea,e]) (by rw[OR.ng,eb];rcases R.s3 b with g | g | g<;>omega)
  · exact absurd e c2
  · rw[e];exact OR.nn (by rw[ea,e]) (by rw[OR.ng,eb];rcases R.s3 b with g | g | g<;>omega)
 rw[e2,e3,← Int.mul_assoc];rcases R.s3 a with e | e | e
 · rw[e];omega
 · exact absurd e c2
 · rw[e];omega
theorem OR.N5(hd:R.sgn d=1)(hns: ∀p q:R.T,R.sgn p=1→R.sgn q=1→R.sgn (p*p-q*q*d)≠0){x:R.T×R.T}(h:R.sgn (OR.nr d x)=0):R.sgn x.1=0∧R.sgn x.2=0:=by
 obtain ⟨a,b⟩:=x;unfold OR.nr at h;simp only[] at *
 have hb:R.sgn b=0:=by
  by_cases hb:R.sgn b=0
  · exact hb
  exfalso
  have ha:R.sgn a≠0:=fun ha=>by
   have h1:=OR.Fx (a*a) (b*b*d) (OR.kI a ha);rw[OR.IQ hd,OR.ND hb] at h1;omega
  obtain ⟨p,hp,ep⟩: ∃p:R.T,R.sgn p=1∧p*p=a*a:=by
   rcases R.s3 a with e | e | e
   · exact⟨a,e,rfl⟩
   · exact absurd e ha
   · exact⟨-a,by rw[OR.ng];omega,Rg.bJ [a] (-X0* -X0) (X0*X0) rfl⟩
  obtain ⟨q,hq,eq⟩: ∃q:R.T,R.sgn q=1∧q*q=b*b:=by
   rcases R.s3 b with e | e | e
   · exact⟨b,e,rfl⟩
   · exact absurd e hb
   · exact⟨-b,by rw[OR.ng];omega,Rg.bJ [b] (-X0* -X0) (X0*X0) rfl⟩
  exact hns p q hp hq (by rw[ep,eq];exact h)
 refine⟨?_,hb⟩;rw[OR.x6 _ _ (by rw[OR.IQ hd];exact OR.kI b hb)] at h;exact OR.NR h
end
end Lift
namespace Lift
section
variable {R:OR} {d:R.T}
def pM(d:R.T)(x y:R.T×R.T):R.T×R.T:=(x.1*y.1+x.2*y.2*d,x.1*y.2+x.2*y.1)
def pA(x y:R.T×R.T):R.T×R.T:=(x.1+y.1,x.2+y.2)
def pN(x:R.T×R.T):R.T×R.T:=(-x.1, -x.2)
structure IW (R:OR) (d:R.T):Prop where
 s3: ∀x,R.es d x=1∨R.es d x=0∨R.es d x= -1
 sn: ∀x,R.es d (pN x)= -R.es d x
 sm: ∀x y,R.es d (pM d x y)=R.es d x*R.es d y
 sp: ∀x y,R.es d x=1→R.es d y=1→R.es d (pA x y)=1
 s0: ∀x y,R.es d x=0→R.es d (pA x y)=R.es d y
 s1:R.es d (1,0)=1
theorem Ic(f:R.T×R.T→R.T)(q:R.T)(hq:R.sgn q=1)(h: ∀x,R.es d x=R.sgn (f x))(hn: ∀x,f (pN x)= -f x)(ha: ∀x y,f (pA x y)=f x+f y)(hm: ∀x y,R.sgn (q*f (pM d x y))=R.sgn (f x*f y))(h1:f (1,0)=q):IW R d where
 s3 x:=by rw[h];exact R.s3 _
 sn x:=by rw[h,h,hn,OR.ng]
 sm x y:=by
  rw[h,h,h,← OR.ml,← hm,OR.ml,hq,Int.one_mul]
 sp x y hx hy:=by
  rw[h] at *;rw[ha];exact R.sp _ _ hx hy
 s0 x y hx:=by
  rw[h] at *;rw[h,ha];exact R.s0 _ _ hx
 s1:=by rw[h,h1];exact hq
theorem LY(hd:R.sgn d=0):IW R d:=by
 refine Ic (fun x=>x.1) 1 OR.one (fun x=>?_) (fun x=>rfl) (fun x y=>rfl) (fun x y=>?_) rfl
 · unfold OR.es;rw[if_pos hd]
 · show R.sgn (1*(x.1*y.1+x.2*y.2*d))=_;rw[Rg.one_mul];exact OR.yC _ _ (OR.BR _ hd)
theorem LZ{p q:R.T}(hd:R.sgn d=1)(hp:R.sgn p=1)(hq:R.sgn q=1)(h:R.sgn (p*p-q*q*d)=0):IW R d:=by
 refine Ic (fun x=>x.1*q+x.2*p) q hq (fun x=>OR.L1 hd hp hq h x) (fun x=>?_) (fun x y=>?_) (fun x y=>?_) ?_
 · exact Rg.bJ [x.1,x.2,p,q] (-X0*X3+ -X1*X2) (-(X0*X3+X1*X2)) rfl
 · exact Rg.bJ [x.1,x.2,y.1,y.2,p,q] ((X0+X2)*X5+(X1+X3)*X4) (X0*X5+X1*X4+(X2*X5+X3*X4)) rfl
 · have e:(x.1*q+x.2*p)*(y.1*q+y.2*p)=q*((x.1*y.1+x.2*y.2*d)*q+(x.1*y.2+x.2*y.1)*p)+x.2*y.2*(p*p-q*q*d) :=
    Rg.bJ [x.1,x.2,y.1,y.2,p,q,d] ((X0*X5+X1*X4)*(X2*X5+X3*X4)) (X5*((X0*X2+X1*X3*X6)*X5+(X0*X3+X1*X2)*X4)+X1*X3*(X4*X4-X5*X5*X6)) rfl
   show R.sgn (q*((x.1*y.1+x.2*y.2*d)*q+(x.1*y.2+x.2*y.1)*p))=R.sgn ((x.1*q+x.2*p)*(y.1*q+y.2*p));rw[e,OR.yC _ _ (OR.BR _ h)]
 · exact Rg.bJ [p,q] (1*X1+0*X0) X1 rfl
theorem Nh(hd:R.sgn d=1)(x:R.T×R.T)(hx:R.sgn (OR.nr d x)=1∨R.sgn (OR.nr d x)= -1∨(R.sgn x.1=0∧R.sgn x.2=0)):R.es d (pN x)= -R.es d x:=by
 have e:OR.nr d (pN x)=OR.nr d x:=OR.LD x;rcases hx with h | h | ⟨h1,h2⟩
 · rw[OR.jR hd h,OR.jR hd (by rw[e];exact h)];exact OR.ng _
 · rw[OR.lu hd h,OR.lu hd (by rw[e];exact h)];exact OR.ng _
 · rw[OR.mD hd h1 h2,OR.mD hd (by show R.sgn (-x.1)=0;rw[OR.ng];omega) (by show R.sgn (-x.2)=0;rw[OR.ng];omega)];rfl
theorem zK(x y:R.T×R.T):pM d x y=pM d y x:=(R.toRg.ext d).mc x y
theorem Nj(hd:R.sgn d=1){x y:R.T×R.T}(hx:R.sgn (OR.nr d x)=1)(hy:R.sgn (OR.nr d y)=1):R.es d (pM d x y)=R.es d x*R.es d y:=by
 have hn:R.sgn (OR.nr d (pM d x y))=1:=by rw[show OR.nr d (pM d x y)=_ from OR.vV x y,OR.ml,hx,hy];rfl
 rw[OR.jR hd hx,OR.jR hd hy,OR.jR hd hn,← OR.ml];show R.sgn (x.1*y.1+x.2*y.2*d)=_;refine OR.more ?_
 have e:x.1*y.1*(x.1*y.1) -x.2*y.2*d*(x.2*y.2*d)=x.1*x.1*(y.1*y.1-y.2*y.2*d)+y.2*y.2*d*(x.1*x.1-x.2*x.2*d) :=
  Rg.bJ [x.1,x.2,y.1,y.2,d] (X0*X2*(X0*X2) -X1*X3*X4*(X1*X3*X4)) (X0*X0*(X2*X2-X3*X3*X4)+X3*X3*X4*(X0*X0-X1*X1*X4)) rfl
 rw[e]
 have h1:R.sgn x.1≠0:=fun h0=>by
  have:=OR.Fx (x.1*x.1) (x.2*x.2*d) (OR.kI _ h0);rw[OR.IQ hd] at this;have h2:=OR.sq x.2;unfold OR.nr at hx;omega
 refine OR.pp (by rw[OR.ml,OR.ND h1];unfold OR.nr at hy;rw[hy];rfl) ?_;rw[OR.ml,OR.IQ hd];unfold OR.nr at hx;rw[hx,Int.mul_one];exact OR.sq _
theorem KR(hd:R.sgn d=1){x y:R.T×R.T}(hx:R.sgn (OR.nr d x)=1)(hy:R.sgn (OR.nr d y)= -1):R.es d (pM d x y)=R.es d x*R.es d y:=by
 have hn:R.sgn (OR.nr d (pM d x y))= -1:=by rw[show OR.nr d (pM d x y)=_ from OR.vV x y,OR.ml,hx,hy];rfl
 rw[OR.jR hd hx,OR.lu hd hy,OR.lu hd hn,← OR.ml];show R.sgn (x.1*y.2+x.2*y.1)=_;refine OR.more ?_;unfold OR.nr at hx hy
 have e:(x.1*y.2*(x.1*y.2) -x.2*y.1*(x.2*y.1))*d=x.1*x.1* -(y.1*y.1-y.2*y.2*d)+y.1*y.1*(x.1*x.1-x.2*x.2*d) :=
  Rg.bJ [x.1,x.2,y.1,y.2,d] ((X0*X3*(X0*X3) -X1*X2*(X1*X2))*X4) (X0*X0* -(X2*X2-X3*X3*X4)+X2*X2*(X0*X0-X1*X1*X4)) rfl
 have h1:R.sgn x.1≠0:=fun h0=>by
  have:=OR.Fx (x.1*x.1) (x.2*x.2*d) (OR.kI _ h0);rw[OR.IQ hd] at this;have h2:=OR.sq x.2;omega
 have h2:R.sgn ((x.1*y.2*(x.1*y.2) -x.2*y.1*(x.2*y.1))*d)=1:=by
  rw[e];refine OR.pp (by rw[OR.ml,OR.ND h1,OR.ng,hy];rfl) ?_;rw[OR.ml,hx,Int.mul_one];exact OR.sq _
 rw[OR.ml,hd,Int.mul_one] at h2;exact h2
theorem Ni(hd:R.sgn d=1){x y:R.T×R.T}(hx:R.sgn (OR.nr d x)= -1)(hy:R.sgn (OR.nr d y)= -1):R.es d (pM d x y)=R.es d x*R.es d y:=by
 have hn:R.sgn (OR.nr d (pM d x y))=1:=by rw[show OR.nr d (pM d x y)=_ from OR.vV x y,OR.ml,hx,hy];rfl
 rw[OR.lu hd hx,OR.lu hd hy,OR.jR hd hn,← OR.ml];show R.sgn (x.1*y.1+x.2*y.2*d)=_;have e0:R.sgn (x.2*y.2*d)=R.sgn (x.2*y.2):=by rw[OR.ml _ d,hd,Int.mul_one]
 rw[Rg.add_comm,← e0];refine OR.more ?_;unfold OR.nr at hx hy
 have e:x.2*y.2*d*(x.2*y.2*d) -x.1*y.1*(x.1*y.1)=x.2*x.2*d* -(y.1*y.1-y.2*y.2*d)+y.1*y.1* -(x.1*x.1-x.2*x.2*d) :=
  Rg.bJ [x.1,x.2,y.1,y.2,d] (X1*X3*X4*(X1*X3*X4) -X0*X2*(X0*X2)) (X1*X1*X4* -(X2*X2-X3*X3*X4)+X2*X2* -(X0*X0-X1*X1*X4)) rfl
 have h1:R.sgn x.2≠0:=fun h0=>by
  have:=OR.x6 (x.1*x.1) (x.2*x.2*d) (by rw[OR.IQ hd];exact OR.kI _ h0);have h2:=OR.sq x.1;omega
 rw[e];refine OR.pp (by rw[OR.ml,OR.IQ hd,OR.ND h1,OR.ng,hy];rfl) ?_;rw[OR.ml,OR.ng,hx];have:=OR.sq y.1;omega
theorem Ie(hd:R.sgn d=1)(hns: ∀p q:R.T,R.sgn p=1→R.sgn q=1→R.sgn (p*p-q*q*d)≠0){c:R.T}{x:R.T×R.T}(hc:R.sgn c=1)(hx:R.es d x=1):R.es d (c+x.1,x.2)=1:=by
 have e:OR.nr d (c+x.1,x.2)=c*(c+(x.1+x.1))+OR.nr d x :=
  Rg.bJ [x.1,x.2,c,d] ((X2+X0)*(X2+X0) -X1*X1*X3) (X2*(X2+(X0+X0))+(X0*X0-X1*X1*X3)) rfl
 rcases R.s3 (OR.nr d x) with h | h | h
 · rw[OR.jR hd h] at hx;have h1:R.sgn (c+x.1)=1:=R.sp _ _ hc hx
   have h2:R.sgn (OR.nr d (c+x.1,x.2))=1:=by
    rw[e];refine OR.pp ?_ (by rw[h];decide);rw[OR.ml,hc,OR.pp hc (by rw[OR.pp hx (by rw[hx];decide)];decide)];rfl
   rw[OR.jR hd h2];exact h1
 · have:=OR.N5 hd hns h;rw[OR.mD hd this.1 this.2] at hx;omega
 · rw[OR.lu hd h] at hx;rcases R.s3 (OR.nr d (c+x.1,x.2)) with g | g | g
   · rw[OR.jR hd g];show R.sgn (c+x.1)=1
     have h1:R.sgn (c*(c+(x.1+x.1)))=1:=by
      have e2:c*(c+(x.1+x.1))=OR.nr d (c+x.1,x.2)+ -OR.nr d x:=by
       rw[e];exact Rg.bJ [c*(c+(x.1+x.1)),OR.nr d x] X0 (X0+X1+ -X1) rfl
      rw[e2];exact OR.pp g (by rw[OR.ng,h];decide)
     rw[OR.ml,hc,Int.one_mul] at h1
     have h2:R.sgn (c+x.1+(c+x.1))=1:=by
      rw[show c+x.1+(c+x.1)=c+(c+(x.1+x.1)) from Rg.bJ [c,x.1] (X0+X1+(X0+X1)) (X0+(X0+(X1+X1))) rfl];exact OR.pp hc (by rw[h1];decide)
     rcases R.s3 (c+x.1) with k | k | k
     · exact k
     · rw[OR.null _ _ k,k] at h2;omega
     · rw[OR.nn k (by rw[k];decide)] at h2;omega
   · have:=(OR.N5 hd hns g).2;have:R.sgn x.2=0:=this;omega
   · rw[OR.lu hd g];exact hx
theorem L0(hd:R.sgn d=1)(hns: ∀p q:R.T,R.sgn p=1→R.sgn q=1→R.sgn (p*p-q*q*d)≠0):IW R d:=by
 have hN: ∀x:R.T×R.T,R.sgn (OR.nr d x)=1∨R.sgn (OR.nr d x)= -1∨(R.sgn x.1=0∧R.sgn x.2=0):=fun x=>by
  rcases R.s3 (OR.nr d x) with h | h | h
  · exact .inl h
  · exact .inr (.inr (OR.N5 hd hns h))
  · exact .inr (.inl h)
 have s3: ∀x,R.es d x=1∨R.es d x=0∨R.es d x= -1:=fun x=>by
  rcases hN x with h | h | ⟨h1,h2⟩
  · rw[OR.jR hd h];exact R.s3 _
  · rw[OR.lu hd h];exact R.s3 _
  · rw[OR.mD hd h1 h2];exact .inr (.inl rfl)
 have sn: ∀x,R.es d (pN x)= -R.es d x:=fun x=>Nh hd x (hN x)
 have nil: ∀{x y:R.T×R.T},R.sgn x.1=0→R.sgn x.2=0→R.es d (pM d x y)=0:=fun {x y} h1 h2 =>
  OR.mD hd (by
    show R.sgn (x.1*y.1+x.2*y.2*d)=0;rw[OR.null _ _ (OR.kI _ h1)];exact OR.kI _ (OR.kI _ h2)) (by
    show R.sgn (x.1*y.2+x.2*y.1)=0
    rw[OR.null _ _ (OR.kI _ h1)];exact OR.kI _ h2)
 have sm: ∀x y,R.es d (pM d x y)=R.es d x*R.es d y:=fun x y=>by
  rcases hN x with h | h | ⟨h1,h2⟩
  · rcases hN y with g | g | ⟨g1,g2⟩
    · exact Nj hd h g
    · exact KR hd h g
    · rw[zK,nil g1 g2,OR.mD hd g1 g2,Int.mul_zero]
  · rcases hN y with g | g | ⟨g1,g2⟩
    · rw[zK,KR hd g h,Int.mul_comm]
    · exact Ni hd h g
    · rw[zK,nil g1 g2,OR.mD hd g1 g2,Int.mul_zero]
  · rw[nil h1 h2,OR.mD hd h1 h2,Int.zero_mul]
 have nz: ∀x,R.es d x=0→R.sgn x.1=0∧R.sgn x.2=0:=fun x hx=>by
  rcases hN x with h | h | h
  · rw[OR.jR hd h] at hx;exfalso;have:=OR.Fx (x.1*x.1) (x.2*x.2*d) (OR.kI _ hx);rw[OR.IQ hd] at this;have h2:=OR.sq x.2;unfold OR.nr at h;omega
  · rw[OR.lu hd h] at hx;exfalso;have:=OR.x6 (x.1*x.1) (x.2*x.2*d) (by rw[OR.IQ hd];exact OR.kI _ hx);have h2:=OR.sq x.1;unfold OR.nr at h;omega
  · exact h
 have s0: ∀x y,R.es d x=0→R.es d (pA x y)=R.es d y:=fun x y hx=>by
  obtain ⟨h1,h2⟩:=nz x hx;have e1:R.sgn (pA x y).1=R.sgn y.1:=OR.null _ _ h1;have e2:R.sgn (pA x y).2=R.sgn y.2:=OR.null _ _ h2
  have e3:R.sgn (OR.nr d (pA x y))=R.sgn (OR.nr d y):=by
   have e:OR.nr d (pA x y)=x.1*(x.1+(y.1+y.1))+(x.2* -((x.2+(y.2+y.2))*d)+OR.nr d y) :=
    Rg.bJ [x.1,x.2,y.1,y.2,d] ((X0+X2)*(X0+X2) -(X1+X3)*(X1+X3)*X4) (X0*(X0+(X2+X2))+(X1* -((X1+(X3+X3))*X4)+(X2*X2-X3*X3*X4))) rfl
   rw[e,OR.null _ _ (OR.kI _ h1),OR.null _ _ (OR.kI _ h2)]
  unfold OR.es;unfold OR.nr at e3;rw[e1,e2,e3]
 refine⟨s3,sn,sm,fun x y hx hy=>?_,s0,?_⟩
 · have hc:R.es d (OR.nr d x,0)=R.es d (x.1, -x.2)*R.es d x:=by
    rw[← sm]
    congr 1
    exact Prod.ext (Rg.bJ [x.1,x.2,d] (X0*X0-X1*X1*X2) (X0*X0+ -X1*X1*X2) rfl) (Rg.bJ [x.1,x.2] 0 (X0*X1+ -X1*X0) rfl)
   have hs:R.es d (OR.nr d x,0)=R.sgn (OR.nr d x):=by
    unfold OR.es;rw[if_neg (by omega),if_pos (.inr OR.zero)]
   have hw:=sm (x.1, -x.2) y;have ht:=sm (x.1, -x.2) (pA x y)
   have e:pM d (x.1, -x.2) (pA x y)=(OR.nr d x+(pM d (x.1, -x.2) y).1,(pM d (x.1, -x.2) y).2):=Prod.ext
    (Rg.bJ [x.1,x.2,y.1,y.2,d] (X0*(X0+X2)+ -X1*(X1+X3)*X4) (X0*X0-X1*X1*X4+(X0*X2+ -X1*X3*X4)) rfl)
    (Rg.bJ [x.1,x.2,y.1,y.2,d] (X0*(X1+X3)+ -X1*(X0+X2)) (X0*X3+ -X1*X2) rfl)
   rw[hx,Int.mul_one] at hc;rw[hy,Int.mul_one] at hw;rw[hs] at hc;rcases hN x with h | h | ⟨h1,h2⟩
   · rw[h] at hc;rw[← hc] at hw ht;have h3:=Ie hd hns h hw;rw[e,h3] at ht;omega
   · rw[h] at hc;rw[← hc] at hw ht;have hw2:=sn (pM d (x.1, -x.2) y);rw[hw] at hw2;have h3:=Ie hd hns (c:= -OR.nr d x) (by rw[OR.ng,h];rfl) hw2;have h4:=sn (pM d (x.1, -x.2) (pA x y));rw[e] at h4;rw[show pN (OR.nr d x+(pM d (x.1, -x.2) y).1,(pM d (x.1, -x.2) y).2)=(-OR.nr d x+(pN (pM d (x.1, -x.2) y)).1,(pN (pM d (x.1, -x.2) y)).2) from Prod.ext (Rg.neg_add _ _) rfl,h3] at h4;rw[e] at ht;omega
   · rw[OR.mD hd h1 h2] at hx;omega
 · unfold OR.es;rw[if_neg (by omega),if_pos (.inr OR.zero)];exact OR.one
theorem wz(hd:0≤R.sgn d):IW R d:=by
 rcases R.s3 d with h | h | h
 · by_cases hns: ∃p q:R.T,R.sgn p=1∧R.sgn q=1∧R.sgn (p*p-q*q*d)=0
   · obtain ⟨p,q,hp,hq,e⟩:=hns;exact LZ h hp hq e
   · exact L0 h (fun p q hp hq e=>hns ⟨p,q,hp,hq,e⟩)
 · exact LY h
 · omega
end
def OR.ext(R:OR)(d:R.T)(hd:0≤R.sgn d):OR where
 toRg:=R.toRg.ext d
 sgn:=R.es d
 s3:=(wz hd).s3
 sn:=(wz hd).sn
 sm:=(wz hd).sm
 sp:=(wz hd).sp
 s0:=(wz hd).s0
 s1:=(wz hd).s1
end Lift
namespace Lift
structure Fd extends Rg where
 inv:T→T
 mi: ∀x,x≠z→mul x (inv x)=o
 ne:o≠z
def OR.Inv(R:OR):Prop:= ∀x:R.T,R.sgn x≠0→ ∃y:R.T,R.sgn (x*y-1)=0
section
variable {R:OR} {d:R.T}
theorem OR.FA(x:R.T):R.sgn (x-x)=0:=by rw[Rg.sub_self];exact OR.zero
theorem OR.Fy{x y:R.T}(h:R.sgn (x-y)=0):R.sgn (y-x)=0:=by
 have e:y-x= -(x-y):=Rg.bJ [x,y] (X1-X0) (-(X0-X1)) rfl;rw[e,OR.ng,h];rfl
theorem OR.CT{x y w:R.T}(h1:R.sgn (x-y)=0)(h2:R.sgn (y-w)=0):R.sgn (x-w)=0:=by
 have e:x-w=(x-y)+(y-w):=Rg.bJ [x,y,w] (X0-X2) (X0-X1+(X1-X2)) rfl;rw[e,OR.null _ _ h1];exact h2
theorem OR.On{x y x' y':R.T}(h1:R.sgn (x-x')=0)(h2:R.sgn (y-y')=0):R.sgn (x+y-(x'+y'))=0:=by
 have e:x+y-(x'+y')=(x-x')+(y-y'):=Rg.bJ [x,y,x',y'] (X0+X1-(X2+X3)) (X0-X2+(X1-X3)) rfl;rw[e,OR.null _ _ h1];exact h2
theorem OR.MT{x y x' y':R.T}(h1:R.sgn (x-x')=0)(h2:R.sgn (y-y')=0):R.sgn (x*y-x'*y')=0:=by
 have e:x*y-x'*y'=(x-x')*y+x'*(y-y'):=Rg.bJ [x,y,x',y'] (X0*X1-X2*X3) ((X0-X2)*X1+X2*(X1-X3)) rfl;rw[e,OR.null _ _ (OR.kI _ h1)];exact OR.BR _ h2
theorem OR.N6{x x':R.T}(h1:R.sgn (x-x')=0):R.sgn (-x- -x')=0:=by
 have e: -x- -x'= -(x-x'):=Rg.bJ [x,x'] (-X0- -X1) (-(X0-X1)) rfl;rw[e,OR.ng,h1];rfl
theorem OR.sub_zero(x:R.T):x-0=x:=Rg.bJ [x] (X0-0) X0 rfl
theorem OR.E0(hd:0≤R.sgn d){a b:R.T}(hx:R.es d (a,b)≠0)(hn:R.sgn (OR.nr d (a,b))=0):R.es d (-a,b)=0∧R.sgn (a+a)≠0:=by
 have hnn:R.sgn (-a* -a-b*b*d)=0:=by
  rw[show -a* -a-b*b*d=OR.nr d (a,b) from Rg.bJ [a,b,d] (-X0* -X0-X1*X1*X2) (X0*X0-X1*X1*X2) rfl];exact hn
 have dbl:R.sgn a≠0→R.sgn (a+a)≠0:=fun h e=>by
  rcases R.s3 a with g | g | g
  · rw[OR.pp g (by omega)] at e;omega
  · exact h g
  · rw[OR.nn g (by omega)] at e;omega
 unfold OR.es at hx ⊢;simp only[] at hx ⊢;by_cases c0:R.sgn d=0
 · exfalso;rw[if_pos c0] at hx;unfold OR.nr at hn;simp only[] at hn;rw[OR.x6 _ _ (OR.BR _ c0)] at hn;exact hx (OR.NR hn)
 rw[if_neg c0] at hx ⊢;by_cases c1:R.sgn a=R.sgn b∨R.sgn b=0
 · rw[if_pos c1] at hx
   have c2:R.sgn a=R.sgn b:=by
    rcases c1 with c1 | c1
    · exact c1
    · exfalso;unfold OR.nr at hn;simp only[] at hn;rw[OR.x6 _ _ (OR.kI _ (OR.kI _ c1))] at hn;exact hx (OR.NR hn)
   refine⟨?_,dbl hx⟩;rw[OR.ng,if_neg (by rcases R.s3 a with g | g | g<;>omega),if_neg (by omega),hnn,Int.mul_zero]
 · exfalso;rw[if_neg c1] at hx;by_cases c2:R.sgn a=0
   · rw[if_pos c2] at hx;unfold OR.nr at hn;simp only[] at hn;rw[OR.Fx _ _ (OR.kI _ c2),OR.ml,OR.ml] at hn;have:=R.s3 d;rcases R.s3 b with g | g | g
     · rw[g] at hn;omega
     · exact hx g
     · rw[g] at hn;omega
   · rw[if_neg c2,show R.sgn (a*a-b*b*d)=0 from hn,Int.mul_zero] at hx;exact hx rfl
theorem OR.Kg(hR:R.Inv)(hd:0≤R.sgn d):(R.ext d hd).Inv:=fun x hx=>by
 obtain ⟨a,b⟩:=x;have hx:R.es d (a,b)≠0:=hx;have S:=wz hd
 have lift: ∀w:R.T,R.sgn w=0→R.es d (w,0)=0:=fun w hw=>by
  unfold OR.es;split
  · exact hw
  · rw[if_pos (.inr OR.zero)];exact hw
 by_cases hn:R.sgn (OR.nr d (a,b))=0
 ·
  have h2:=OR.E0 hd hx hn;obtain ⟨r,hr⟩:=hR (a+a) h2.2;refine⟨(r,0),?_⟩;show R.es d (pA (pM d (a,b) (r,0)) (pN (1,0)))=0
  have e:pA (pM d (a,b) (r,0)) (pN (1,0))=pA (pM d (-a,b) (r,0)) ((a+a)*r-1,0):=Prod.ext
   (Rg.bJ [a,b,r,d] (X0*X2+X1*0*X3+ -1) (-X0*X2+X1*0*X3+((X0+X0)*X2-1)) rfl)
   (Rg.bJ [a,b,r] (X0*0+X1*X2+ -0) (-X0*0+X1*X2+0) rfl)
  rw[e,S.s0 _ _ (by rw[S.sm,h2.1,Int.zero_mul])];exact lift _ hr
 · obtain ⟨r,hr⟩:=hR _ hn;refine⟨(a*r, -b*r),?_⟩;show R.es d (pA (pM d (a,b) (a*r, -b*r)) (pN (1,0)))=0
   have e:pA (pM d (a,b) (a*r, -b*r)) (pN (1,0))=(OR.nr d (a,b)*r-1,0):=Prod.ext
    (Rg.bJ [a,b,r,d] (X0*(X0*X2)+X1*(-X1*X2)*X3+ -1) ((X0*X0-X1*X1*X3)*X2-1) rfl)
    (Rg.bJ [a,b,r] (X0*(-X1*X2)+X1*(X0*X2)+ -0) 0 rfl)
   rw[e];exact lift _ hr
end
def OR.eqv(R:OR):Setoid R.T:=⟨fun x y=>R.sgn (x-y)=0,⟨fun x=>OR.FA x,OR.Fy,OR.CT⟩⟩
theorem OR.pick{R:OR}(hR:R.Inv)(x:R.T): ∃y:R.T,R.sgn x≠0→R.sgn (x*y-1)=0:=by
 by_cases h:R.sgn x=0
 · exact⟨x,fun g=>absurd h g⟩
 · obtain ⟨y,hy⟩:=hR x h;exact⟨y,fun _=>hy⟩
noncomputable def OR.fd (R:OR) (hR:R.Inv):Fd where
 T:=Quotient R.eqv
 add x y:=Quotient.liftOn₂ x y (fun a b=>Quotient.mk R.eqv (a+b)) (fun _ _ _ _ h1 h2=>Quotient.sound (OR.On h1 h2))
 mul x y:=Quotient.liftOn₂ x y (fun a b=>Quotient.mk R.eqv (a*b)) (fun _ _ _ _ h1 h2=>Quotient.sound (OR.MT h1 h2))
 neg x:=Quotient.liftOn x (fun a=>Quotient.mk R.eqv (-a)) (fun _ _ h1=>Quotient.sound (OR.N6 h1))
 z:=Quotient.mk R.eqv 0
 o:=Quotient.mk R.eqv 1
 ac x y:=Quotient.inductionOn₂ x y fun a b=>congrArg (Quotient.mk R.eqv) (Rg.add_comm a b)
 aa x y w:=Quotient.inductionOn₃ x y w fun a b c=>congrArg (Quotient.mk R.eqv) (Rg.add_assoc a b c)
 az x:=Quotient.inductionOn x fun a=>congrArg (Quotient.mk R.eqv) (Rg.add_zero a)
 an x:=Quotient.inductionOn x fun a=>congrArg (Quotient.mk R.eqv) (Rg.add_neg a)
 mc x y:=Quotient.inductionOn₂ x y fun a b=>congrArg (Quotient.mk R.eqv) (Rg.mul_comm a b)
 ma x y w:=Quotient.inductionOn₃ x y w fun a b c=>congrArg (Quotient.mk R.eqv) (Rg.mul_assoc a b c)
 mo x:=Quotient.inductionOn x fun a=>congrArg (Quotient.mk R.eqv) (Rg.mul_one a)
 md x y w:=Quotient.inductionOn₃ x y w fun a b c=>congrArg (Quotient.mk R.eqv) (Rg.mul_add a b c)
 inv x:=Quotient.mk R.eqv (Classical.choose (OR.pick hR (Classical.choose (Quotient.exists_rep x))))
 mi x hx:=by
  obtain ⟨a,ha⟩: ∃a,a=Classical.choose (Quotient.exists_rep x):=⟨_,rfl⟩;have h1:Quotient.mk R.eqv a=x:=by rw[ha];exact Classical.choose_spec (Quotient.exists_rep x)
  rw[← ha];have h2:=Classical.choose_spec (OR.pick hR a)
  have h3:R.sgn a≠0:=fun h0=>hx (by
   rw[← h1]
   exact Quotient.sound (show R.sgn (a-0)=0 by rw[OR.sub_zero];exact h0))
  have h4:=h2 h3;generalize Classical.choose (OR.pick hR a)=b at h4;rw[← h1];exact Quotient.sound (show R.sgn (a*b-1)=0 from h4)
 ne h:=by
  have h1:R.sgn ((1:R.T) -0)=0:=Quotient.exact h;rw[OR.sub_zero,OR.one] at h1;exact absurd h1 (by decide)
def OR.cl{R:OR}(hR:R.Inv)(x:R.T):(R.fd hR).T:=Quotient.mk R.eqv x
section
variable {R:OR} {hR:R.Inv}
theorem OR.IB{x y:R.T}:OR.cl hR x=OR.cl hR y↔R.sgn (x-y)=0:=⟨fun h=>Quotient.exact h,fun h=>Quotient.sound h⟩
theorem OR.Iz(x y:R.T):OR.cl hR (x*y)=OR.cl hR x*OR.cl hR y:=rfl
theorem OR.Km:OR.cl hR (0:R.T)=0:=rfl
theorem OR.L5:OR.cl hR (1:R.T)=1:=rfl
theorem OR.Oi{x:R.T}:OR.cl hR x=0↔R.sgn x=0:=by
 rw[← OR.Km,OR.IB,OR.sub_zero]
end
section
variable {K:Fd}
theorem Fd.rh{x:K.T}(h:x≠0):x*K.inv x=1:=K.mi x h
theorem Fd.De:(1:K.T)≠0:=K.ne
theorem Fd.inv_eq{x y:K.T}(h:x*y=1):y=K.inv x:=by
 have hx:x≠0:=fun e=>Fd.De (by rw[← h,e,Rg.zero_mul]);have h1:=Fd.rh hx;have:K.inv x*(x*y)=K.inv x*1:=by rw[h]
 rw[← Rg.mul_assoc,Rg.mul_comm (K.inv x),h1,Rg.one_mul,Rg.mul_one] at this;exact this
theorem Fd.MU{x y:K.T}(h:x*y=0):x=0∨y=0:=by
 by_cases hx:x=0
 · exact .inl hx
 · refine .inr ?_;have:K.inv x*(x*y)=K.inv x*0:=by rw[h]
   rw[← Rg.mul_assoc,Rg.mul_comm (K.inv x),Fd.rh hx,Rg.one_mul,Rg.mul_zero] at this;exact this
theorem Fd.LK{x:K.T}(h:x≠0):K.inv x≠0:=fun e=>Fd.De (by rw[← Fd.rh h,e,Rg.mul_zero])
end
end Lift
namespace Lift
theorem vp(x:Rat)(h:0<x):jr x=1:=by
 have:=qt.2 h;rcases gQ x with e | e | e<;>omega
theorem Ln(x:Rat)(h:x<0):jr x= -1:=by
 have:=zg.2 h;rcases gQ x with e | e | e<;>omega
theorem rX(x y:Rat):jr (x*y)=jr x*jr y:=by
 have key: ∀{x y:Rat},0<x→jr (x*y)=jr y:=fun {x y} hx=>by
  rcases gQ y with e | e | e
  · rw[db.1 e,Rat.mul_zero]
  · have h:=Rat.mul_pos hx (qt.1 (show 0<jr y by omega));rw[e,vp _ h]
  · have h:=Rat.mul_pos hx (show 0< -y from by have:=zg.1 (show jr y<0 by omega);grind);rw[e,Ln]
    grind
 rcases gQ x with e | e | e
 · rw[db.1 e,Rat.zero_mul,db.2 rfl,Int.zero_mul]
 · rw[e,Int.one_mul];exact key (qt.1 (by omega))
 · have hx:0< -x:=by have:=zg.1 (show jr x<0 by omega);grind
   have h:=key (y:=y) hx;have h2:=pD (x*y);rw[show -(x*y)= -x*y by grind,h] at h2;rw[e];omega
def pL:Cf:=fun i=>if i=0 then 1 else 0
def JE:OR where
 T:=Rat
 add:=(· + ·)
 mul:=(· * ·)
 neg:=(- ·)
 z:=0
 o:=1
 ac:=Rat.add_comm
 aa:=Rat.add_assoc
 az:=Rat.add_zero
 an:=Rat.add_neg_cancel
 mc:=Rat.mul_comm
 ma:=Rat.mul_assoc
 mo:=Rat.mul_one
 md:=Rat.mul_add
 sgn:=jr
 s3 x:=by rcases gQ x with h | h | h<;>omega
 sn:=pD
 sm:=rX
 sp x y hx hy:=by
  have h1:=qt.1 (show 0<jr x by omega);have h2:=qt.1 (show 0<jr y by omega);exact vp _ (by grind)
 s0 x y hx:=by
  rw[db.1 hx];show jr (0+y)=jr y;rw[Rat.zero_add]
 s1:=vp 1 (by decide)
theorem Hk(x:Rat)(h:x≠0):jr (x*x⁻¹ + -1)=0:=by
 rw[Rat.mul_inv_cancel _ h];exact db.2 (Rat.add_neg_cancel 1)
theorem Hl:JE.Inv:=fun x hx=>⟨_,Hk x (fun e=>hx (db.2 e))⟩
structure Mw (v:List NQ) (l:Nat) where
 R:OR
 of:Cf→R.T
 inv:R.Inv
 add: ∀a b:Cf,of (fun i=>a i+b i)=of a+of b
 neg: ∀a:Cf,of (fun i=> -a i)= -of a
 mul: ∀a b:Cf,of (mulC v l a b)=of a*of b
 one:of pL=1
 zero:of zC=0
 sgn: ∀a:Cf,R.sgn (of a)=aY v l a
 inj: ∀a b:Cf,of a=of b→jU l a b
 cong: ∀a b:Cf,jU l a b→of a=of b
theorem Mw.sub{v:List NQ}{l:Nat}(T:Mw v l)(a b:Cf):T.of (fun i=>a i-b i)=T.of a-T.of b:=by
 rw[Rg.sub_def,← T.neg,← T.add]
 congr 1
 funext i;exact Rat.sub_eq_add_neg ..
def AT(v:List NQ):Mw v 0 where
 R:=JE
 of a:=a 0
 inv:=Hl
 add _ _:=rfl
 neg _:=rfl
 mul a b:=by
  show (if (0:Nat)=0 then a 0*b 0 else 0)=_;rw[if_pos rfl];rfl
 one:=rfl
 zero:=rfl
 sgn _:=rfl
 inj a b h i hi:=by
  obtain rfl:i=0:=by have:i<1:=hi;omega
  exact h
 cong a b h:=h 0 (by decide)
theorem HW(l:Nat):bE l zC=zC:=rfl
theorem J7(l:Nat):bE l pL=zC:=funext fun i=>by
 have hp:0<2^l:=Nat.pow_pos (by decide);show (if 2^l+i=0 then (1:Rat) else 0)=0;rw[if_neg (by omega)]
def tS{v:List NQ}{l:Nat}(T:Mw v l)(hd:0≤aY v l (cf (v.getD l []))):Mw v (l+1) where
 R:=T.R.ext (T.of (cf (v.getD l []))) (by rw[T.sgn];exact hd)
 of a:=(T.of a,T.of (bE l a))
 inv:=OR.Kg T.inv _
 add a b:=Prod.ext (T.add a b) (T.add (bE l a) (bE l b))
 neg a:=Prod.ext (T.neg a) (T.neg (bE l a))
 mul a b:=by
  refine Prod.ext ?_ ?_
  · show T.of (mulC v (l+1) a b)=T.of a*T.of b+T.of (bE l a)*T.of (bE l b)*T.of (cf (v.getD l []));rw[← T.mul,← T.mul,← T.mul,← T.add];refine T.cong _ _ fun i hi=>?_;show (if i<2^l then _ else _)=_;rw[if_pos hi]
  · show T.of (bE l (mulC v (l+1) a b))=T.of a*T.of (bE l b)+T.of (bE l a)*T.of b;rw[← T.mul,← T.mul,← T.add];refine T.cong _ _ fun i hi=>?_;show (if 2^l+i<2^l then _ else _)=_;rw[if_neg (by omega),Nat.add_sub_cancel_left]
 one:=Prod.ext T.one (by show T.of (bE l pL)=0;rw[J7,T.zero])
 zero:=Prod.ext T.zero (by show T.of (bE l zC)=0;rw[HW,T.zero])
 sgn a:=by
  show OR.es T.R (T.of (cf (v.getD l []))) (T.of a,T.of (bE l a))=aY v (l+1) a;unfold OR.es aY;simp only[];rw[T.sgn,T.sgn,T.sgn,← T.mul,← T.mul,← T.mul,← T.sub,T.sgn];rfl
 inj a b h i hi:=by
  have h1:=T.inj _ _ (congrArg Prod.fst h);have h2:=T.inj _ _ (congrArg Prod.snd h);by_cases c:i<2^l
  · exact h1 i c
  · rw[Nat.pow_succ] at hi;have:=h2 (i-2^l) (by omega);have:a (2^l+(i-2^l))=b (2^l+(i-2^l)):=this
    rwa [show 2^l+(i-2^l)=i by omega] at this
 cong a b h:=Prod.ext (T.cong _ _ h.down) (T.cong _ _ h.hi)
theorem Lb{v:List NQ}(hp:po v): ∀l,l≤v.length→Nonempty (Mw v l)
 | 0,_=>⟨AT v⟩
 | l+1,hl=>by
   obtain ⟨T⟩:=Lb hp l (by omega);exact⟨tS T (hp l (by omega))⟩
theorem BF(l:Nat):bO l pL:=fun i hi=>by
 have hp:0<2^l:=Nat.pow_pos (by decide);exact if_neg (by omega)
def oQ(a b:Cf):Cf:=fun i=>a i-b i
theorem bO.sub{l:Nat}{a b:Cf}(ha:bO l a)(hb:bO l b):bO l (oQ a b):=fun i hi=>by
 show a i-b i=0;rw[ha i hi,hb i hi];exact Rat.sub_self
theorem LJ{v:List NQ}(hrt:cP v)(hp:po v): ∀(l:Nat) {a:NQ},aA l a→l≤v.length→aY v l (cf a)≠0→aY v l (oQ (mulC v l (cf a) (cf (bZ l v a))) pL)=0:=by
 have one: ∀(l:Nat) (s:NQ),l≤v.length→s.length=1→s.getD 0 0≠0→aY v l (oQ (mulC v l (cf s) (cf [1 / s.getD 0 0])) pL)=0:=fun l s hl h1 h0=>by
  have e:mulC v l (cf s) (cf [1 / s.getD 0 0])=pL:=by
   rw[de v (aU (a:=s) (l:=0) (by rw[h1];exact ai _)) (aU (a:=[1 / s.getD 0 0]) (l:=0) (by exact ai _)) (Nat.zero_le l)];funext i;show (if i=0 then s.getD 0 0*(1 / s.getD 0 0) else 0)=if i=0 then 1 else 0
   split
   · rw[Rat.div_def,Rat.one_mul,Rat.mul_inv_cancel _ h0]
   · rfl
  rw[e,show oQ pL pL=zC from funext fun i=>Rat.sub_self];exact dK v l
 intro l
 induction l with
 | zero =>
   intro a ha hl h;have hs:=bX ha;have hc:=bf ha;have ho:=ot ha;show aY v 0 (oQ (mulC v 0 (cf a) (cf (kJ _ _ _ _ (aD a)))) pL)=0;rw[← hc] at h ⊢;generalize aD a=s at *;rcases hs with e | ⟨i,hi,e⟩
   · rw[List.length_eq_zero_iff.1 e] at h;exact absurd (dK v 0) h
   · obtain rfl:i=0:=by omega
     unfold kJ;rw[if_pos e];exact one 0 s (Nat.zero_le _) e (ho e)
 | succ l ih =>
   intro a ha hl h;have hs:=bX ha;have hc:=bf ha;have ho:=ot ha;show aY v (l+1) (oQ (mulC v (l+1) (cf a) (cf (kJ (bZ l v) (et l v) (fi l v) (aV (l+1) v) (aD a)))) pL)=0;rw[← hc] at h ⊢;generalize aD a=s at *;by_cases h0:s.length=0
   · rw[List.length_eq_zero_iff.1 h0] at h;exact absurd (dK v (l+1)) h
   unfold kJ;by_cases h1:s.length=1
   · rw[if_pos h1];exact one (l+1) s hl h1 (ho h1)
   rw[if_neg h1]
   obtain ⟨j,hj,hsl⟩: ∃j,j≤l∧s.length=2^(j+1):=by
    rcases hs with e | ⟨i,hi,e⟩
    · exact absurd e h0
    · rcases i with _ | j
      · exact absurd e h1
      · exact⟨j,by omega,e⟩
   obtain ⟨e1,e2,e3⟩:=bF hsl;have hx:aA l (s.take (s.length / 2)):= .inr ⟨j,hj,e1⟩;have hy:aA l (s.drop (s.length / 2)):= .inr ⟨j,hj,e2⟩;have hn:=rb hj hsl hrt (by omega);have ex:jU j (cf (s.take (s.length / 2))) (cf s):=e8 _ e3;have ey:cf (s.drop (s.length / 2))=bE j (cf s):=ji _ e3
   have lowN:bO j (bp v j (cf s)):=fun i hi=>by
    unfold bp;rw[bj v j _ _ i hi,bj v j _ _ i hi];exact Rat.sub_self
   have ls:bO (j+1) (cf s):=aU (by omega);have lx:bO j (cf (s.take (s.length / 2))):=aU (by omega);obtain ⟨Tj⟩:=Lb hp j (by omega);have hdj:=hp j (by omega)
   let T:=tS Tj hdj
   obtain ⟨Tl⟩:=Lb hp l (by omega);obtain ⟨TL⟩:=Lb hp (l+1) hl;rw[dP l hn.1 hrt (by omega),hn.2,bL v lowN hj];rw[bL v ls (by omega)] at h
   have hT:Tj.R.sgn (OR.nr (Tj.of (cf (v.getD j []))) (T.of (cf s)))=aY v j (bp v j (cf s)):=by
    rw[← Tj.sgn]
    congr 1
    show Tj.of (cf s)*Tj.of (cf s) -Tj.of (bE j (cf s))*Tj.of (bE j (cf s))*Tj.of (cf (v.getD j []))=Tj.of (bp v j (cf s));rw[← Tj.mul,← Tj.mul,← Tj.mul,← Tj.sub];rfl
   by_cases hN:aY v j (bp v j (cf s))=0
   · rw[if_pos hN];have hxx:aA l (aX (s.take (s.length / 2)) (s.take (s.length / 2))):=hx.plus hx;have cxx:cf (aX (s.take (s.length / 2)) (s.take (s.length / 2)))=fun i=>cf (s.take (s.length / 2)) i+cf (s.take (s.length / 2)) i:=funext fun i=>dY _ _ i
     have lxx:bO j (cf (aX (s.take (s.length / 2)) (s.take (s.length / 2)))):=by
      rw[cxx];exact fun i hi=>by
       show _+_=(0:Rat);rw[lx i hi];exact Rat.add_zero 0
     have F:T.R.sgn (-Tj.of (cf s),Tj.of (bE j (cf s)))=0∧Tj.R.sgn (Tj.of (cf s)+Tj.of (cf s))≠0:=by
      have hes:T.R.sgn (T.of (cf s))≠0:=by rw[T.sgn];exact h
      exact OR.E0 (R:=Tj.R) (d:=Tj.of (cf (v.getD j []))) (by rw[Tj.sgn];exact hdj) hes (by
       have h5:=hT;rw[hN] at h5;exact h5)
     have hr:=ih hxx (by omega) (by
      rw[bL v lxx hj,← Tj.sgn,cxx,Tj.add,Tj.cong _ _ ex]
      exact F.2)
     obtain ⟨r,hrr⟩: ∃r,bZ l v (aX (s.take (s.length / 2)) (s.take (s.length / 2)))=r:=⟨_,rfl⟩;have hrl:aA l r:=by rw[← hrr];exact gC l hxx hrt (by omega)
     rw[hrr] at hr ⊢
     have g1:aY v (l+1) (oQ (cf s) (cf (aX (s.take (s.length / 2)) (s.take (s.length / 2)))))=0:=by
      rw[bL v (ls.sub (lxx.mono (by omega))) (by omega),← T.sgn]
      have:T.of (oQ (cf s) (cf (aX (s.take (s.length / 2)) (s.take (s.length / 2)))))=(-Tj.of (cf s),Tj.of (bE j (cf s))):=by
       refine Prod.ext ?_ ?_
       · show Tj.of (oQ (cf s) (cf (aX (s.take (s.length / 2)) (s.take (s.length / 2)))))= -Tj.of (cf s);rw[show Tj.of (oQ (cf s) (cf (aX (s.take (s.length / 2)) (s.take (s.length / 2)))))=Tj.of (cf s) -Tj.of (cf (aX (s.take (s.length / 2)) (s.take (s.length / 2)))) from Tj.sub _ _,cxx,Tj.add,Tj.cong _ _ ex];exact Rg.bJ [Tj.of (cf s)] (X0-(X0+X0)) (-X0) rfl
       · show Tj.of (bE j (oQ (cf s) (cf (aX (s.take (s.length / 2)) (s.take (s.length / 2))))))=Tj.of (bE j (cf s));refine Tj.cong _ _ fun i hi=>?_;show cf s (2^j+i) -cf (aX (s.take (s.length / 2)) (s.take (s.length / 2))) (2^j+i)=cf s (2^j+i);rw[lxx _ (by omega)];exact Rat.sub_eq_add_neg .. |>.trans (by rw[Rat.neg_zero,Rat.add_zero])
      rw[this];exact F.1
     have g2:aY v (l+1) (oQ (mulC v (l+1) (cf (aX (s.take (s.length / 2)) (s.take (s.length / 2)))) (cf r)) pL)=0:=by
      rw[de v (aU hxx.le) (aU hrl.le) (Nat.le_succ l),bL v ((bj v l _ _).sub (BF l)) (Nat.le_succ l)];exact hr
     rw[← TL.sgn] at g1 g2 ⊢;rw[show TL.of (oQ _ _)=_ from TL.sub _ _,TL.mul,TL.one] at g2 ⊢;rw[show TL.of (oQ _ _)=_ from TL.sub _ _] at g1
     have e:TL.of (cf s)*TL.of (cf r) -1=(TL.of (cf s) -TL.of (cf (aX (s.take (s.length / 2)) (s.take (s.length / 2)))))*TL.of (cf r)+(TL.of (cf (aX (s.take (s.length / 2)) (s.take (s.length / 2))))*TL.of (cf r) -1) :=
      Rg.bJ [TL.of (cf s),TL.of (cf r),TL.of (cf (aX (s.take (s.length / 2)) (s.take (s.length / 2))))] (X0*X1-1) ((X0-X2)*X1+(X2*X1-1)) rfl
     rw[e,OR.null _ _ (OR.kI _ g1)];exact g2
   · rw[if_neg hN];have hr:=ih hn.1 (by omega) (by rw[hn.2,bL v lowN hj];exact hN);obtain ⟨r,hrr⟩: ∃r,bZ l v (fi l v s)=r:=⟨_,rfl⟩;have hrl:aA l r:=by rw[← hrr];exact gC l hn.1 hrt (by omega)
     rw[hrr] at hr ⊢;rw[hn.2] at hr
     have hjl:aA (l+1) (dR (s.take (s.length / 2)) (aZ (s.drop (s.length / 2))) (s.length / 2)):= .inr ⟨j+1,by omega,by
      rw[dL]
      omega⟩
     have cJ: ∀i,cf (dR (s.take (s.length / 2)) (aZ (s.drop (s.length / 2))) (s.length / 2)) i=if i<2^j then cf (s.take (s.length / 2)) i else cf (aZ (s.drop (s.length / 2))) (i-2^j):=fun i=>Fb _ e3 (by rw[gy];omega) i
     have lJ:bO (j+1) (cf (dR (s.take (s.length / 2)) (aZ (s.drop (s.length / 2))) (s.length / 2))):=aU (by rw[dL];omega);have ht:=fB (l+1) hjl (hrl.mono (Nat.le_succ l)) hrt hl;rw[ht.2];generalize dR (s.take (s.length / 2)) (aZ (s.drop (s.length / 2))) (s.length / 2)=J at cJ lJ hjl ht
     have eN:mulC v (l+1) (cf s) (cf J)=bp v j (cf s):=by
      rw[de v ls lJ (by omega)];refine jU.full (T.inj _ _ ?_) (bj v (j+1) _ _) (lowN.mono (Nat.le_succ j));rw[T.mul];have o1:Tj.of (cf J)=Tj.of (cf s):=Tj.cong _ _ fun i hi=>by rw[cJ i,if_pos hi];exact ex i hi
      have o2:Tj.of (bE j (cf J))= -Tj.of (bE j (cf s)):=by
       rw[← Tj.neg];refine Tj.cong _ _ fun i hi=>?_;show cf J (2^j+i)= -cf s (2^j+i);rw[cJ,if_neg (by omega),iF,Nat.add_sub_cancel_left,ey];rfl
      have o3:Tj.of (bE j (bp v j (cf s)))=0:=by rw[lowN.wm,Tj.zero]
      have o4:Tj.of (bp v j (cf s))=Tj.of (cf s)*Tj.of (cf s) -Tj.of (bE j (cf s))*Tj.of (bE j (cf s))*Tj.of (cf (v.getD j [])):=by
       rw[← Tj.mul,← Tj.mul,← Tj.mul,← Tj.sub];rfl
      refine Prod.ext ?_ ?_
      · show Tj.of (cf s)*Tj.of (cf J)+Tj.of (bE j (cf s))*Tj.of (bE j (cf J))*Tj.of (cf (v.getD j []))=Tj.of (bp v j (cf s));rw[o1,o2,o4];exact Rg.bJ [Tj.of (cf s),Tj.of (bE j (cf s)),Tj.of (cf (v.getD j []))] (X0*X0+X1* -X1*X2) (X0*X0-X1*X1*X2) rfl
      · show Tj.of (cf s)*Tj.of (bE j (cf J))+Tj.of (bE j (cf s))*Tj.of (cf J)=Tj.of (bE j (bp v j (cf s)));rw[o1,o2,o3];exact Rg.bJ [Tj.of (cf s),Tj.of (bE j (cf s))] (X0* -X1+X1*X0) 0 rfl
     have g2:aY v (l+1) (oQ (mulC v (l+1) (bp v j (cf s)) (cf r)) pL)=0:=by
      rw[de v (lowN.mono hj) (aU hrl.le) (Nat.le_succ l),bL v ((bj v l _ _).sub (BF l)) (Nat.le_succ l)];exact hr
     rw[← eN] at g2;rw[← TL.sgn] at g2 ⊢;rw[show TL.of (oQ _ _)=_ from TL.sub _ _,TL.mul,TL.mul,TL.one] at g2 ⊢;rw[← Rg.mul_assoc];exact g2
structure FV (v:List NQ) where
 K:Fd
 val:NQ→K.T
 add: ∀{a b:NQ},aA v.length a→aA v.length b→val (w7 a b)=val a+val b
 sub: ∀{a b:NQ},aA v.length a→aA v.length b→val (gv a b)=val a-val b
 neg: ∀{a:NQ},aA v.length a→val (kA a)= -val a
 mul: ∀{a b:NQ},aA v.length a→aA v.length b→val (fT v a b)=val a*val b
 div: ∀{a b:NQ},aA v.length a→aA v.length b→rQ v b≠0→val (xL v a b)=val a*K.inv (val b)
 nil:val []=0
 one:val [1]=1
 sg: ∀{a:NQ},aA v.length a→(rQ v a=0↔val a=0)
 eq: ∀{a b:NQ},aY v v.length (cf (aX a (aZ b)))=0↔val a=val b
 inv: ∀{b:NQ},aA v.length b→rQ v b≠0→val (bZ v.length v b)=K.inv (val b)
theorem Kn:cf []=zC:=rfl
theorem Fa:cf [1]=pL:=funext fun i=>by
 cases i with
 | zero=>rfl
 | succ i=>rfl
theorem KN{m:Nat}{v:List NQ}(V:iJ m v):Nonempty (FV v):=by
 obtain ⟨T⟩:=Lb V.pos v.length (ai _);have hs: ∀{a:NQ},aA v.length a→rQ v a=aY v v.length (cf a):=fun h=>dP v.length h V.ro (ai _)
 have iv: ∀{b:NQ},aA v.length b→rQ v b≠0→OR.cl T.inv (T.of (cf (bZ v.length v b)))=(T.R.fd T.inv).inv (OR.cl T.inv (T.of (cf b))):=fun {b} hb h0=>by
  rw[hs hb] at h0;have h:=LJ V.ro V.pos v.length hb (ai _) h0;refine Fd.inv_eq ?_;rw[← OR.Iz,← T.mul,← OR.L5,OR.IB,← T.one,← T.sub,T.sgn];exact h
 refine⟨⟨T.R.fd T.inv,fun a=>OR.cl T.inv (T.of (cf a)),fun {a b} ha hb=>?_,fun {a b} ha hb=>?_,fun {a} ha=>?_,fun {a b} ha hb=>?_,fun {a b} ha hb h0=>?_,?_,?_,fun {a} ha=>?_,fun {a b}=>?_,iv⟩⟩
 · show OR.cl T.inv (T.of (cf (aD (aX a b))))=_;rw[bf (ha.plus hb),show cf (aX a b)=fun i=>cf a i+cf b i from funext fun i=>dY a b i,T.add];rfl
 · show OR.cl T.inv (T.of (cf (aD (aX a (aZ b)))))=_;rw[bf (ha.plus hb.minus),show cf (aX a (aZ b))=fun i=>cf a i-cf b i from funext fun i=>by rw[dY,iF];exact(Rat.sub_eq_add_neg ..).symm,T.sub];rfl
 · show OR.cl T.inv (T.of (cf (aD (aZ a))))=_;rw[bf ha.minus,show cf (aZ a)=fun i=> -cf a i from funext fun i=>iF a i,T.neg];rfl
 · have ht:=fB v.length ha hb V.ro (ai _);show OR.cl T.inv (T.of (cf (aD (aV v.length v a b))))=_;rw[bf ht.1,ht.2,T.mul];rfl
 · have ht:=fB v.length ha (gC v.length hb V.ro (ai _)) V.ro (ai _);show OR.cl T.inv (T.of (cf (aD (aV v.length v a (bZ v.length v b)))))=_;rw[bf ht.1,ht.2,T.mul,OR.Iz,iv hb h0]
 · show OR.cl T.inv (T.of (cf []))=0;rw[Kn,T.zero];rfl
 · show OR.cl T.inv (T.of (cf [1]))=1;rw[Fa,T.one];rfl
 · rw[OR.Oi,T.sgn,hs ha]
 · rw[OR.IB,← T.sub,T.sgn,show cf (aX a (aZ b))=fun i=>cf a i-cf b i from funext fun i=>by rw[dY,iF];exact(Rat.sub_eq_add_neg ..).symm]
end Lift
namespace Lift
def Zq(X:Nat)(q:Rat):Prop:= ∃n:Int,q=(n:Rat)∧n.natAbs<4294967296^X
theorem Mh(X:Nat):0<4294967296^X:=Nat.pow_pos (by decide)
theorem Zq.mono{X Y:Nat}{q:Rat}(h:Zq X q)(hx:X≤Y):Zq Y q:=by
 obtain ⟨n,e,hn⟩:=h;exact⟨n,e,Nat.lt_of_lt_of_le hn (Nat.pow_le_pow_right (by decide) hx)⟩
theorem Zq.zero(X:Nat):Zq X 0:=⟨0,rfl,Mh X⟩
theorem Zq.one:Zq 1 1:=⟨1,rfl,by decide⟩
theorem Zq.neg{X:Nat}{q:Rat}(h:Zq X q):Zq X (-q):=by
 obtain ⟨n,e,hn⟩:=h;exact⟨-n,by rw[e,Rat.intCast_neg],by rw[Int.natAbs_neg];exact hn⟩
theorem Zq.add{X:Nat}{p q:Rat}(hp:Zq X p)(hq:Zq X q):Zq (X+1) (p+q):=by
 obtain ⟨m,e,hm⟩:=hp;obtain ⟨n,f,hn⟩:=hq;refine⟨m+n,by rw[e,f,Rat.intCast_add],?_⟩;have:=Int.natAbs_add_le m n;rw[Nat.pow_succ];have:=Mh X;omega
theorem Zq.mul{X Y:Nat}{p q:Rat}(hp:Zq X p)(hq:Zq Y q):Zq (X+Y) (p*q):=by
 obtain ⟨m,e,hm⟩:=hp;obtain ⟨n,f,hn⟩:=hq;refine⟨m*n,by rw[e,f,Rat.intCast_mul],?_⟩;rw[Int.natAbs_mul,Nat.pow_add];exact Nat.lt_of_le_of_lt (Nat.mul_le_mul (Nat.le_of_lt hm) (ai _)) (Nat.mul_lt_mul_of_pos_left hn (Mh X))
theorem Zq.lq{X:Nat}{q d:Rat}(h:Zq X (q*d))(hd:Zq X d)(h0:d≠0):LQ q≤X:=by
 obtain ⟨m,e,hm⟩:=h;obtain ⟨n,f,hn⟩:=hd;have hn0:n≠0:=fun g=>h0 (by rw[f,g];rfl)
 have hq:q=Rat.divInt m n:=by
  rw[Rat.divInt_eq_div,← e,← f,Rat.mul_div_cancel h0]
 rw[hq];have h1:=l0 m n hn0;have h2:=D5 hm;have h3:=D5 hn;omega
structure IR (R:Rg) where
 Z:Nat→R.T→Prop
 c:Nat
 mono: ∀{X Y:Nat} {a:R.T},Z X a→X≤Y→Z Y a
 zero: ∀X,Z X 0
 one:Z 1 1
 neg: ∀{X:Nat} {a:R.T},Z X a→Z X (-a)
 add: ∀{X:Nat} {a b:R.T},Z X a→Z X b→Z (X+1) (a+b)
 mul: ∀{X Y:Nat} {a b:R.T},Z X a→Z Y b→Z (X+Y+c) (a*b)
def b6:IR JE.toRg where
 Z:=Zq
 c:=0
 mono:=Zq.mono
 zero:=Zq.zero
 one:=Zq.one
 neg:=Zq.neg
 add:=Zq.add
 mul:=Zq.mul
section
variable {R:Rg} (I:IR R) {d ε e:R.T} (h1:ε*e=1) {b:Nat} (hB:I.Z b (ε*ε*d))
def IR.ext:IR (R.ext d) where
 Z X p:=I.Z X p.1∧I.Z X (p.2*e)
 c:=I.c+I.c+b+1
 mono h hx:=⟨I.mono h.1 hx,I.mono h.2 hx⟩
 zero X:=⟨I.zero X,by show I.Z X (0*e);rw[Rg.zero_mul];exact I.zero X⟩
 one:=⟨I.one,by show I.Z 1 (0*e);rw[Rg.zero_mul];exact I.zero 1⟩
 neg {X a} h:=⟨I.neg h.1,by show I.Z X (-a.2*e);rw[Rg.neg_mul];exact I.neg h.2⟩
 add {X a b} ha hb:=⟨I.add ha.1 hb.1,by show I.Z (X+1) ((a.2+b.2)*e);rw[Rg.add_mul];exact I.add ha.2 hb.2⟩
 mul {X Y x y} hx hy:=by
  refine⟨?_,?_⟩
  · show I.Z _ (x.1*y.1+x.2*y.2*d)
    have h2:x.2*y.2*d=x.2*e*(y.2*e)*(ε*ε*d):=by
     rw[show x.2*e*(y.2*e)*(ε*ε*d)=x.2*y.2*d*(ε*e)*(ε*e) from Rg.bJ [x.2,y.2,d,ε,e] (X0*X4*(X1*X4)*(X3*X3*X2)) (X0*X1*X2*(X3*X4)*(X3*X4)) rfl,h1,Rg.mul_one,Rg.mul_one]
    rw[h2];have h3:=I.mul hx.1 hy.1;have h4:=I.mul (I.mul hx.2 hy.2) hB;exact I.mono (I.add (I.mono h3 (show X+Y+I.c≤X+Y+I.c+b+I.c by omega)) h4) (by omega)
  · show I.Z _ ((x.1*y.2+x.2*y.1)*e);rw[show (x.1*y.2+x.2*y.1)*e=x.1*(y.2*e)+x.2*e*y.1 from Rg.bJ [x.1,x.2,y.1,y.2,e] ((X0*X3+X1*X2)*X4) (X0*(X3*X4)+X1*X4*X2) rfl];exact I.mono (I.add (I.mul hx.1 hy.2) (I.mul hx.2 hy.1)) (by omega)
end
section
variable {A:Rg} {d:A.T}
def em(z:A.T):(A.ext d).T:=(z,0)
def br(p:(A.ext d).T):(A.ext d).T:=(p.1, -p.2)
def nr(p:(A.ext d).T):A.T:=p.1*p.1-p.2*p.2*d
theorem a5(x y:A.T):em (d:=d) (x*y)=em x*em y:=Prod.ext (by
 show x*y=x*y+0*0*d;rw[Rg.zero_mul,Rg.zero_mul,Rg.add_zero]) (by
 show (0:A.T)=x*0+0*y
 rw[Rg.mul_zero,Rg.zero_mul,Rg.add_zero])
theorem lz:em (d:=d) (1:A.T)=1:=rfl
theorem yQ(p:(A.ext d).T):em (nr p)=p*br p:=Prod.ext (by
 show p.1*p.1-p.2*p.2*d=p.1*p.1+p.2* -p.2*d;exact Rg.bJ [p.1,p.2,d] (X0*X0-X1*X1*X2) (X0*X0+X1* -X1*X2) rfl) (by
 show (0:A.T)=p.1* -p.2+p.2*p.1
 exact Rg.bJ [p.1,p.2] 0 (X0* -X1+X1*X0) rfl)
theorem tv(p:(A.ext d).T)(z:A.T):nr (p*em z)=nr p*(z*z):=by
 show (p.1*z+p.2*0*d)*(p.1*z+p.2*0*d) -(p.1*0+p.2*z)*(p.1*0+p.2*z)*d=(p.1*p.1-p.2*p.2*d)*(z*z);exact Rg.bJ [p.1,p.2,d,z] ((X0*X3+X1*0*X2)*(X0*X3+X1*0*X2) -(X0*0+X1*X3)*(X0*0+X1*X3)*X2) ((X0*X0-X1*X1*X2)*(X3*X3)) rfl
theorem Fe(p:(A.ext d).T)(z:A.T):br (p*em z)=br p*em z:=Prod.ext (by
 show p.1*z+p.2*0*d=p.1*z+ -p.2*0*d;exact Rg.bJ [p.1,p.2,d,z] (X0*X3+X1*0*X2) (X0*X3+ -X1*0*X2) rfl) (by
 show -(p.1*0+p.2*z)=p.1*0+ -p.2*z
 exact Rg.bJ [p.1,p.2,z] (-(X0*0+X1*X2)) (X0*0+ -X1*X2) rfl)
theorem fJ(p:(A.ext d).T)(z:A.T):(p*em z).1=p.1*z:=by
 show p.1*z+p.2*0*d=p.1*z;exact Rg.bJ [p.1,p.2,d,z] (X0*X3+X1*0*X2) (X0*X3) rfl
theorem lv(p:(A.ext d).T)(z:A.T):(p*em z).2=p.2*z:=by
 show p.1*0+p.2*z=p.2*z;exact Rg.bJ [p.1,p.2,z] (X0*0+X1*X2) (X1*X2) rfl
structure IP (d:A.T) where
 a:IR A
 p:IR (A.ext d)
 of: ∀{X:Nat} {z:A.T},a.Z X z→p.Z X (em z)
 fst: ∀{X:Nat} {z:(A.ext d).T},p.Z X z→a.Z X z.1
 br: ∀{X:Nat} {z:(A.ext d).T},p.Z X z→p.Z X (br z)
 cc:a.c≤p.c
def IR.U{R:Rg}(I:IR R)(X:Nat)(z:R.T):Prop:=I.Z X z∧ ∃u,z*u=1
theorem IR.U.mul{R:Rg}{I:IR R}{X Y:Nat}{x y:R.T}(hx:I.U X x)(hy:I.U Y y):I.U (X+Y+I.c) (x*y):=by
 obtain ⟨h1,u,hu⟩:=hx;obtain ⟨h2,w,hw⟩:=hy;exact⟨I.mul h1 h2,u*w,by rw[show x*y*(u*w)=x*u*(y*w) from Rg.bJ [x,y,u,w] (X0*X1*(X2*X3)) (X0*X2*(X1*X3)) rfl,hu,hw,Rg.mul_one]⟩
theorem IR.U.mono{R:Rg}{I:IR R}{X Y:Nat}{x:R.T}(hx:I.U X x)(h:X≤Y):I.U Y x:=⟨I.mono hx.1 h,hx.2⟩
variable (I:IP d)
def ic(X N:Nat)(e:Nat→A.T)(m:Nat→(A.ext d).T):Prop:= ∃D,I.a.U X D∧ ∀j,j<N→I.p.Z X (m j*em (D*e j))
def iH(X:Nat)(z:(A.ext d).T):Prop:= ∃D,I.a.U X D∧I.p.Z X (z*em D)
def nZ(X N k:Nat)(e:Nat→A.T)(m:Nat→(A.ext d).T):Prop:= ∃D,I.a.U X D∧ ∀j,j<N→ ∃w,I.p.Z X w∧m j*em (D*e j)=em (e k)*w
def CB(P J:(A.ext d).T):Prop:=(∃w,nr P*w=1∧J=br P*em w)∨ ∃w,(P.1+P.1)*w=1∧J=em w
variable {I}
theorem ic.mono{X Y N:Nat}{e:Nat→A.T}{m:Nat→(A.ext d).T}(h:ic I X N e m)(hx:X≤Y):ic I Y N e m:=by
 obtain ⟨D,h1,h2⟩:=h;exact⟨D,h1.mono hx,fun j hj=>I.p.mono (h2 j hj) hx⟩
theorem iH.mono{X Y:Nat}{z:(A.ext d).T}(h:iH I X z)(hx:X≤Y):iH I Y z:=by
 obtain ⟨D,h1,h2⟩:=h;exact⟨D,h1.mono hx,I.p.mono h2 hx⟩
theorem nZ.mono{X Y N k:Nat}{e:Nat→A.T}{m:Nat→(A.ext d).T}(h:nZ I X N k e m)(hx:X≤Y):nZ I Y N k e m:=by
 obtain ⟨D,h1,h2⟩:=h
 exact⟨D,h1.mono hx,fun j hj=>by
  obtain ⟨w,h3,h4⟩:=h2 j hj
  exact⟨w,I.p.mono h3 hx,h4⟩⟩
theorem iH.mul{X Y:Nat}{x y:(A.ext d).T}(hx:iH I X x)(hy:iH I Y y):iH I (X+Y+I.p.c) (x*y):=by
 obtain ⟨D,h1,h2⟩:=hx;obtain ⟨E,h3,h4⟩:=hy;have:=I.cc;refine⟨D*E,(h1.mul h3).mono (by omega),?_⟩;rw[a5,show x*y*(em D*em E)=x*em D*(y*em E) from Rg.bJ [x,y,em D,em E] (X0*X1*(X2*X3)) (X0*X2*(X1*X3)) rfl];exact I.p.mul h2 h4
theorem ic.Oe{X Xe N:Nat}{e:Nat→A.T}{m:Nat→(A.ext d).T}(h:ic I X N e m){j:Nat}(hj:j<N)(he:I.a.U Xe (e j)):iH I (X+Xe+I.a.c) (m j):=by
 obtain ⟨D,h1,h2⟩:=h;exact⟨D*e j,h1.mul he,I.p.mono (h2 j hj) (by omega)⟩
theorem ic.norm{X N k:Nat}{e:Nat→A.T}{m:Nat→(A.ext d).T}(h:ic I X N e m)(hk:k<N)(he: ∃u,e k*u=1){J:(A.ext d).T}(hJ:CB (m k) J):nZ I (X+X+I.p.c+1) N k e (fun j=>m j*J):=by
 obtain ⟨D,⟨h1,u,hu⟩,h2⟩:=h;obtain ⟨f,hf⟩:=he;have hp:=h2 k hk;have hc:=I.cc;rcases hJ with ⟨w,hw,rfl⟩ | ⟨w,hw,rfl⟩
 · have hn:I.a.Z (X+X+I.p.c) (nr (m k*em (D*e k))):=by
    have:=I.fst (I.p.mul hp (I.br hp))
    rwa [← yQ] at this
   refine⟨nr (m k*em (D*e k)),⟨I.a.mono hn (by omega),w*(u*f*(u*f)),?_⟩,fun j hj=>⟨m j*em (D*e j)*br (m k*em (D*e k)),I.p.mono (I.p.mul (h2 j hj) (I.br hp)) (by omega),?_⟩⟩
   · rw[tv,show nr (m k)*(D*e k*(D*e k))*(w*(u*f*(u*f)))=nr (m k)*w*(D*u*(D*u))*(e k*f*(e k*f)) from Rg.bJ [nr (m k),D,e k,w,u,f] (X0*(X1*X2*(X1*X2))*(X3*(X4*X5*(X4*X5)))) (X0*X3*(X1*X4*(X1*X4))*(X2*X5*(X2*X5))) rfl,hw,hu,hf,Rg.mul_one,Rg.mul_one,Rg.mul_one]
   · rw[tv,Fe,a5 (nr (m k)*_),a5 (nr (m k)),a5 (D*e k),a5 D,a5 D];have hw':em (d:=d) (nr (m k))*em w=1:=by rw[← a5,hw,lz]
     rw[show m j*(br (m k)*em w)*(em (nr (m k))*(em D*em (e k)*(em D*em (e k)))*em (e j))=m j*br (m k)*(em (nr (m k))*em w)*(em D*em (e k)*(em D*em (e k)))*em (e j) from Rg.bJ [m j,br (m k),em w,em (nr (m k)),em D,em (e k),em (e j)] (X0*(X1*X2)*(X3*(X4*X5*(X4*X5))*X6)) (X0*X1*(X3*X2)*(X4*X5*(X4*X5))*X6) rfl,hw',Rg.mul_one];exact Rg.bJ [m j,br (m k),em D,em (e k),em (e j)] (X0*X1*(X2*X3*(X2*X3))*X4) (X3*(X0*(X2*X4)*(X1*(X2*X3)))) rfl
 · have e1:(m k*em (D*e k)).1+(m k*em (D*e k)).1=((m k).1+(m k).1)*(D*e k):=by
    rw[fJ,Rg.add_mul]
   refine⟨(m k*em (D*e k)).1+(m k*em (D*e k)).1,⟨I.a.mono (I.a.add (I.fst hp) (I.fst hp)) (by omega),w*(u*f),?_⟩,fun j hj=>⟨m j*em (D*e j),I.p.mono (h2 j hj) (by omega),?_⟩⟩
   · rw[e1,show ((m k).1+(m k).1)*(D*e k)*(w*(u*f))=((m k).1+(m k).1)*w*(D*u)*(e k*f) from Rg.bJ [(m k).1+(m k).1,D,e k,w,u,f] (X0*(X1*X2)*(X3*(X4*X5))) (X0*X3*(X1*X4)*(X2*X5)) rfl,hw,hu,hf,Rg.mul_one,Rg.mul_one]
   · rw[e1,a5 (((m k).1+(m k).1)*_),a5 ((m k).1+(m k).1),a5 D,a5 D];have hw':em (d:=d) ((m k).1+(m k).1)*em w=1:=by rw[← a5,hw,lz]
     rw[show m j*em w*(em ((m k).1+(m k).1)*(em D*em (e k))*em (e j))=m j*(em ((m k).1+(m k).1)*em w)*(em D*em (e k))*em (e j) from Rg.bJ [m j,em w,em ((m k).1+(m k).1),em D,em (e k),em (e j)] (X0*X1*(X2*(X3*X4)*X5)) (X0*(X2*X1)*(X3*X4)*X5) rfl,hw',Rg.mul_one];exact Rg.bJ [m j,em D,em (e k),em (e j)] (X0*(X1*X2)*X3) (X2*(X0*(X1*X3))) rfl
theorem ic.inv{X Xe N k:Nat}{e:Nat→A.T}{m:Nat→(A.ext d).T}(h:ic I X N e m)(hk:k<N)(he:I.a.U Xe (e k)){J:(A.ext d).T}(hJ:CB (m k) J):iH I (X+X+Xe+I.p.c+I.p.c+1) J:=by
 obtain ⟨D,⟨h1,u,hu⟩,h2⟩:=h;obtain ⟨g1,f,hf⟩:=he;have hp:=h2 k hk;have hc:=I.cc;rcases hJ with ⟨w,hw,rfl⟩ | ⟨w,hw,rfl⟩
 · have hn:I.a.Z (X+X+I.p.c) (nr (m k*em (D*e k))):=by
    have:=I.fst (I.p.mul hp (I.br hp))
    rwa [← yQ] at this
   refine⟨nr (m k*em (D*e k)),⟨I.a.mono hn (by omega),w*(u*f*(u*f)),?_⟩,?_⟩
   · rw[tv,show nr (m k)*(D*e k*(D*e k))*(w*(u*f*(u*f)))=nr (m k)*w*(D*u*(D*u))*(e k*f*(e k*f)) from Rg.bJ [nr (m k),D,e k,w,u,f] (X0*(X1*X2*(X1*X2))*(X3*(X4*X5*(X4*X5)))) (X0*X3*(X1*X4*(X1*X4))*(X2*X5*(X2*X5))) rfl,hw,hu,hf,Rg.mul_one,Rg.mul_one,Rg.mul_one]
   · have hw':em (d:=d) (nr (m k))*em w=1:=by rw[← a5,hw,lz]
     have e2:br (m k)*em w*em (nr (m k*em (D*e k)))=br (m k*em (D*e k))*em (D*e k):=by
      rw[tv,Fe,a5 (nr (m k)),a5 (D*e k),show br (m k)*em w*(em (nr (m k))*(em (D*e k)*em (D*e k)))=em (nr (m k))*em w*(br (m k)*em (D*e k)*em (D*e k)) from Rg.bJ [br (m k),em w,em (nr (m k)),em (D*e k)] (X0*X1*(X2*(X3*X3))) (X2*X1*(X0*X3*X3)) rfl,hw',Rg.one_mul]
     rw[e2];exact I.p.mono (I.p.mul (I.br hp) (I.of (I.a.mul h1 g1))) (by omega)
 · have e1:(m k*em (D*e k)).1+(m k*em (D*e k)).1=((m k).1+(m k).1)*(D*e k):=by
    rw[fJ,Rg.add_mul]
   refine⟨(m k*em (D*e k)).1+(m k*em (D*e k)).1,⟨I.a.mono (I.a.add (I.fst hp) (I.fst hp)) (by omega),w*(u*f),?_⟩,?_⟩
   · rw[e1,show ((m k).1+(m k).1)*(D*e k)*(w*(u*f))=((m k).1+(m k).1)*w*(D*u)*(e k*f) from Rg.bJ [(m k).1+(m k).1,D,e k,w,u,f] (X0*(X1*X2)*(X3*(X4*X5))) (X0*X3*(X1*X4)*(X2*X5)) rfl,hw,hu,hf,Rg.mul_one,Rg.mul_one]
   · rw[e1,← a5,show w*(((m k).1+(m k).1)*(D*e k))=((m k).1+(m k).1)*w*(D*e k) from Rg.bJ [(m k).1+(m k).1,D,e k,w] (X3*(X0*(X1*X2))) (X0*X3*(X1*X2)) rfl,hw,Rg.one_mul];exact I.p.mono (I.of (I.a.mul h1 g1)) (by omega)
theorem nZ.row{X Xe N k:Nat}{e:Nat→A.T}{m:Nat→(A.ext d).T}(h:nZ I X N k e m)(he:I.a.U Xe (e k)):ic I (X+Xe+I.p.c) N e m:=by
 obtain ⟨D,h1,h2⟩:=h;refine⟨D,h1.mono (by omega),fun j hj=>?_⟩;obtain ⟨w,h3,h4⟩:=h2 j hj;rw[h4];exact I.p.mono (I.p.mul (I.of he.1) h3) (by omega)
theorem ic.take{X Y N k:Nat}{e:Nat→A.T}{m n:Nat→(A.ext d).T}(h:ic I X N e m)(hk:k<N)(hn:nZ I Y N k e n):ic I (X+Y+I.p.c+1) N e (fun j=>m j-m k*n j):=by
 obtain ⟨D,h1,h2⟩:=h;obtain ⟨E,h3,h4⟩:=hn;have hc:=I.cc;refine⟨D*E,(h1.mul h3).mono (by omega),fun j hj=>?_⟩;obtain ⟨w,h5,h6⟩:=h4 j hj;have h7:=h2 k hk;rw[a5] at h6 h7;have h8:=h2 j hj;rw[a5] at h8;rw[a5 (D*E),a5 D,show (m j-m k*n j)*(em D*em E*em (e j))=m j*(em D*em (e j))*em E+ -(m k*em D*(n j*(em E*em (e j)))) from Rg.bJ [m j,m k,n j,em D,em E,em (e j)] ((X0-X1*X2)*(X3*X4*X5)) (X0*(X3*X5)*X4+ -(X1*X3*(X2*(X4*X5)))) rfl,h6,show m k*em D*(em (e k)*w)=m k*(em D*em (e k))*w from Rg.bJ [m k,em D,em (e k),w] (X0*X1*(X2*X3)) (X0*(X1*X2)*X3) rfl];exact I.p.add (I.p.mul h8 (I.of h3.1)) (I.p.neg (I.p.mul h7 h5))
end
end Lift
namespace Lift
section
variable {A:Rg} {d d':A.T} {I:IP d} {I':IP d'}
def Ku(a:IR A)(c X:Nat)(ek:A.T)(P:(A.ext d').T):Prop:= ∃D,a.U X D∧a.Z (X+X+c) (nr (P*em (D*ek)))∧a.Z X (P*em (D*ek)).1
theorem ic.JK{X N k:Nat}{e:Nat→A.T}{m:Nat→(A.ext d').T}(h:ic I' X N e m)(hk:k<N):Ku I'.a I'.p.c X (e k) (m k):=by
 obtain ⟨D,h1,h2⟩:=h;have hp:=h2 k hk;have:=I'.fst (I'.p.mul hp (I'.br hp));rw[← yQ] at this;exact⟨D,h1,this,I'.fst hp⟩
def CC(P':(A.ext d').T)(P J:(A.ext d).T):Prop:=CB P J∨(∃w,nr P'*w=1∧J=br P*em w)∨(∃w,(P'.1+P'.1)*w=1∧J=em w)∨ ∃w,P'.1*w=1∧J=em w
theorem ic.MQ{X X' c' kk N k:Nat}{e:Nat→A.T}{m:Nat→(A.ext d).T}{P':(A.ext d').T}(h:ic I X N e m)(hk:k<N)(he: ∃u,e k*u=1)(h':Ku I.a c' X' (e k) P'){J:(A.ext d).T}(hJ:CC P' (m k) J)(hk1:c'+I.a.c+I.a.c≤kk)(hk2:I.p.c+I.p.c+I.a.c≤kk):nZ I (X+X+X'+X'+kk+1) N k e (fun j=>m j*J):=by
 rcases hJ with hJ | hJ
 · exact(h.norm hk he hJ).mono (by omega)
 obtain ⟨D,⟨h1,u,hu⟩,h2⟩:=h;obtain ⟨E,⟨h3,v,hv⟩,h4,h5⟩:=h';obtain ⟨f,hf⟩:=he;have hp:=h2 k hk;have hc:=I.cc
 have lin: ∀(q w:A.T),q*w=1→I.a.Z (X'+1) (q*(E*e k))→J=em w→nZ I (X+X+X'+X'+kk+1) N k e (fun j=>m j*J):=fun q w hw hz hJ=>by
  subst hJ;refine⟨D*(q*(E*e k)),⟨I.a.mono (I.a.mul h1 hz) (by omega),u*(w*(v*f)),?_⟩,fun j hj=>⟨m j*em (D*e j)*em E,I.p.mono (I.p.mul (h2 j hj) (I.of h3)) (by omega),?_⟩⟩
  · rw[show D*(q*(E*e k))*(u*(w*(v*f)))=q*w*(D*u)*(E*v)*(e k*f) from Rg.bJ [D,q,E,e k,u,w,v,f] (X0*(X1*(X2*X3))*(X4*(X5*(X6*X7)))) (X1*X5*(X0*X4)*(X2*X6)*(X3*X7)) rfl,hw,hu,hv,hf,Rg.mul_one,Rg.mul_one,Rg.mul_one]
  · have hw':em (d:=d) q*em w=1:=by rw[← a5,hw,lz]
    rw[a5 (D*_),a5 D,a5 q,a5 E,a5 D,show m j*em w*(em D*(em q*(em E*em (e k)))*em (e j))=em q*em w*(m j*em D*em E*em (e k)*em (e j)) from Rg.bJ [m j,em w,em D,em q,em E,em (e k),em (e j)] (X0*X1*(X2*(X3*(X4*X5))*X6)) (X3*X1*(X0*X2*X4*X5*X6)) rfl,hw',Rg.one_mul];exact Rg.bJ [m j,em D,em E,em (e k),em (e j)] (X0*X1*X2*X3*X4) (X3*(X0*(X1*X4)*X2)) rfl
 rcases hJ with ⟨w,hw,rfl⟩ | ⟨w,hw,hJ⟩ | ⟨w,hw,hJ⟩
 · refine⟨D*D*nr (P'*em (E*e k)),⟨I.a.mono (I.a.mul (I.a.mul h1 h1) h4) (by omega),u*u*(w*(v*f*(v*f))),?_⟩,fun j hj=>⟨m j*em (D*e j)*br (m k*em (D*e k))*em (E*E),I.p.mono (I.p.mul (I.p.mul (h2 j hj) (I.br hp)) (I.of (I.a.mul h3 h3))) (by omega),?_⟩⟩
   · rw[tv,show D*D*(nr P'*(E*e k*(E*e k)))*(u*u*(w*(v*f*(v*f))))=nr P'*w*(D*u*(D*u))*(E*v*(E*v))*(e k*f*(e k*f)) from Rg.bJ [D,nr P',E,e k,u,w,v,f] (X0*X0*(X1*(X2*X3*(X2*X3)))*(X4*X4*(X5*(X6*X7*(X6*X7))))) (X1*X5*(X0*X4*(X0*X4))*(X2*X6*(X2*X6))*(X3*X7*(X3*X7))) rfl,hw,hu,hv,hf];simp only[Rg.mul_one]
   · have hw':em (d:=d) (nr P')*em w=1:=by rw[← a5,hw,lz]
     rw[tv,Fe,a5 (D*D*_),a5 (D*D),a5 D D,a5 (nr P'),a5 (E*e k),a5 E (e k),a5 D,a5 D,a5 E E,show m j*(br (m k)*em w)*(em D*em D*(em (nr P')*(em E*em (e k)*(em E*em (e k))))*em (e j))=em (nr P')*em w*(m j*br (m k)*em D*em D*em E*em E*em (e k)*em (e k)*em (e j)) from Rg.bJ [m j,br (m k),em w,em D,em (nr P'),em E,em (e k),em (e j)] (X0*(X1*X2)*(X3*X3*(X4*(X5*X6*(X5*X6)))*X7)) (X4*X2*(X0*X1*X3*X3*X5*X5*X6*X6*X7)) rfl,hw',Rg.one_mul];exact Rg.bJ [m j,br (m k),em D,em E,em (e k),em (e j)] (X0*X1*X2*X2*X3*X3*X4*X4*X5) (X4*(X0*(X2*X5)*(X1*(X2*X4))*(X3*X3))) rfl
 · refine lin (P'.1+P'.1) w hw ?_ hJ;rw[show (P'.1+P'.1)*(E*e k)=(P'*em (E*e k)).1+(P'*em (E*e k)).1 by rw[fJ,Rg.add_mul]];exact I.a.add h5 h5
 · refine lin P'.1 w hw ?_ hJ;rw[← fJ];exact I.a.mono h5 (by omega)
theorem ic.N8{X X' Xe c' kk N k:Nat}{e:Nat→A.T}{m:Nat→(A.ext d).T}{P':(A.ext d').T}(h:ic I X N e m)(hk:k<N)(he:I.a.U Xe (e k))(h':Ku I.a c' X' (e k) P'){J:(A.ext d).T}(hJ:CC P' (m k) J)(hk1:c'+I.a.c+I.a.c≤kk)(hk2:I.p.c+I.p.c+I.a.c≤kk):iH I (X+X+X'+X'+Xe+kk+I.p.c+1) J:=by
 rcases hJ with hJ | hJ
 · exact(h.inv hk he hJ).mono (by omega)
 obtain ⟨D,⟨h1,u,hu⟩,h2⟩:=h;obtain ⟨E,⟨h3,v,hv⟩,h4,h5⟩:=h';obtain ⟨g1,f,hf⟩:=he;have hp:=h2 k hk;have hc:=I.cc
 have lin: ∀(q w:A.T),q*w=1→I.a.Z (X'+1) (q*(E*e k))→J=em w→iH I (X+X+X'+X'+Xe+kk+I.p.c+1) J:=fun q w hw hz hJ=>by
  subst hJ;refine⟨q*(E*e k),⟨I.a.mono hz (by omega),w*(v*f),?_⟩,?_⟩
  · rw[show q*(E*e k)*(w*(v*f))=q*w*(E*v)*(e k*f) from Rg.bJ [q,E,e k,w,v,f] (X0*(X1*X2)*(X3*(X4*X5))) (X0*X3*(X1*X4)*(X2*X5)) rfl,hw,hv,hf,Rg.mul_one,Rg.mul_one]
  · rw[← a5,show w*(q*(E*e k))=q*w*(E*e k) from Rg.bJ [q,E,e k,w] (X3*(X0*(X1*X2))) (X0*X3*(X1*X2)) rfl,hw,Rg.one_mul];exact I.p.mono (I.of (I.a.mul h3 g1)) (by omega)
 rcases hJ with ⟨w,hw,rfl⟩ | ⟨w,hw,hJ⟩ | ⟨w,hw,hJ⟩
 · refine⟨D*nr (P'*em (E*e k)),⟨I.a.mono (I.a.mul h1 h4) (by omega),u*(w*(v*f*(v*f))),?_⟩,?_⟩
   · rw[tv,show D*(nr P'*(E*e k*(E*e k)))*(u*(w*(v*f*(v*f))))=nr P'*w*(D*u)*(E*v*(E*v))*(e k*f*(e k*f)) from Rg.bJ [D,nr P',E,e k,u,w,v,f] (X0*(X1*(X2*X3*(X2*X3)))*(X4*(X5*(X6*X7*(X6*X7))))) (X1*X5*(X0*X4)*(X2*X6*(X2*X6))*(X3*X7*(X3*X7))) rfl,hw,hu,hv,hf];simp only[Rg.mul_one]
   · have hw':em (d:=d) (nr P')*em w=1:=by rw[← a5,hw,lz]
     have e2:br (m k)*em w*em (D*nr (P'*em (E*e k)))=br (m k*em (D*e k))*em (E*E*e k):=by
      rw[tv,Fe,a5 D,a5 D,a5 (nr P'),a5 (E*e k),a5 E (e k),a5 (E*E),a5 E E,show br (m k)*em w*(em D*(em (nr P')*(em E*em (e k)*(em E*em (e k)))))=em (nr P')*em w*(br (m k)*em D*em E*em E*em (e k)*em (e k)) from Rg.bJ [br (m k),em w,em D,em (nr P'),em E,em (e k)] (X0*X1*(X2*(X3*(X4*X5*(X4*X5))))) (X3*X1*(X0*X2*X4*X4*X5*X5)) rfl,hw',Rg.one_mul];exact Rg.bJ [br (m k),em D,em E,em (e k)] (X0*X1*X2*X2*X3*X3) (X0*(X1*X3)*(X2*X2*X3)) rfl
     rw[e2];exact I.p.mono (I.p.mul (I.br hp) (I.of (I.a.mul (I.a.mul h3 h3) g1))) (by omega)
 · refine lin (P'.1+P'.1) w hw ?_ hJ;rw[show (P'.1+P'.1)*(E*e k)=(P'*em (E*e k)).1+(P'*em (E*e k)).1 by rw[fJ,Rg.add_mul]];exact I.a.add h5 h5
 · refine lin P'.1 w hw ?_ hJ;rw[← fJ];exact I.a.mono h5 (by omega)
end
end Lift
namespace Lift
structure FH (v:List NQ) {A:Rg} (d:A.T) where
 φ:NQ→(A.ext d).T
 sub: ∀{a b:NQ},aA v.length a→aA v.length b→φ (gv a b)=φ a-φ b
 mul: ∀{a b:NQ},aA v.length a→aA v.length b→φ (fT v a b)=φ a*φ b
 div: ∀{a b:NQ},aA v.length a→aA v.length b→φ (xL v a b)=φ a*φ (bZ v.length v b)
 one:φ [1]=1
section
variable {v:List NQ} {A:Rg} {d:A.T} (I:IP d) (F:FH v d)
structure mY (X N:Nat) (e:Nat→A.T) (s:jT):Prop where
 r: ∀i,i<s.rows.length→ic I X N e (fun j=>F.φ (bm s.rows i j))
 d:iH I X (F.φ s.ia)
variable {I F}
theorem mY.bR{X m N c k:Nat}{e:Nat→A.T}{s:jT}(R:pk v m N k s)(hs:mY I F X N e s)(h:atR v s c<s.rows.length): ∀i,i<s.rows.length→ic I X N e (fun j=>F.φ (bm (bR v s c) i j)):=fun i hi=>by
 have hl:=R.len;have h1:=(fo v s c (by have:=R.cm;omega)).1
 have key: ∃i',i'<s.rows.length∧(Lift.bR v s c).getD i []=s.rows.getD i' []:=by
  unfold Lift.bR;split
  · exact⟨i,hi,rfl⟩
  · unfold GN;rw[eJ];split
    · exact⟨_,h,rfl⟩
    · rw[eJ];split
      · exact⟨s.cols.length,by omega,rfl⟩
      · exact⟨i,hi,rfl⟩
 obtain ⟨i',hi',e'⟩:=key;have:=hs.r i' hi';unfold bm at this ⊢;rw[e'];exact this
theorem mY.step{X Y Xe X' m N c:Nat}{e:Nat→A.T}{s:jT}(V:pj v)(R:pk v m N c s)(hs:mY I F X N e s)(hc:c<N)(he:I.a.U Xe (e c))(h:atR v s c<s.rows.length)
  (hN:nZ I Y N c e (fun j=>F.φ (bm (Lift.bR v s c) s.cols.length j)*F.φ (bZ v.length v (pR v s c)))) (h1:X+Y+I.p.c+1≤X') (h2:Y+Xe+I.p.c≤X') (h3:X+X+Xe+I.a.c+I.p.c≤X'):
  mY I F X' N e (cQ v s c)∧ ∀i,i<s.rows.length→ic I X' N e (fun j=>F.φ (bm (eR v s c) i j)):=by
 have hl:=R.len;have hm:=R.cm;have ha:=(fo v s c (by omega)).1;obtain ⟨b1,b2,b3⟩:=rM R h;obtain ⟨e1,e2,e3⟩:=yR V R h;have hb:=hs.bR R h;have hr:s.cols.length<s.rows.length:=by omega
 have hnr: ∀j,j<N→F.φ (bm (eR v s c) s.cols.length j)=F.φ (bm (Lift.bR v s c) s.cols.length j)*F.φ (bZ v.length v (pR v s c)):=fun j hj=>by
  unfold eR bm;rw[eJ,if_pos ⟨rfl,by omega⟩,uF v _ _ (by rw[b2 _ (by omega)];exact hj)];exact F.div (b3 s.cols.length j) (b3 s.cols.length c)
 have hNe:nZ I Y N c e (fun j=>F.φ (bm (eR v s c) s.cols.length j)):=by
  obtain ⟨D,d1,d2⟩:=hN;exact⟨D,d1,fun j hj=>by dsimp only;rw[hnr j hj];exact d2 j hj⟩
 have heR: ∀i,i<s.rows.length→i≠s.cols.length→ic I X N e (fun j=>F.φ (bm (eR v s c) i j)):=fun i hi hne=>by
  have:=hb i hi
  have g:(eR v s c).getD i []=(Lift.bR v s c).getD i []:=by
   unfold eR;rw[eJ,if_neg (fun g=>hne g.1)]
  unfold bm at this ⊢;rw[g];exact this
 have heA: ∀i,i<s.rows.length→ic I X' N e (fun j=>F.φ (bm (eR v s c) i j)):=fun i hi=>by
  by_cases hne:i=s.cols.length
  · rw[hne];exact(hNe.row he).mono h2
  · exact(heR i hi hne).mono (by omega)
 refine⟨⟨fun i hi=>?_,?_⟩,heA⟩
 · have hlr:(cQ v s c).rows.length=s.rows.length:=by
    unfold cQ;rw[if_pos h];show (dD _ _ _ _ _).length=_;rw[jD,e1,hl]
   rw[hlr] at hi
   have hrows:(cQ v s c).rows=dD v (eR v s c) s.cols.length c (eR v s c).length:=by
    unfold cQ;rw[if_pos h]
   rw[hrows]
   have key: ∀n,n≤(eR v s c).length→ ∀i,i<s.rows.length→ic I X' N e (fun j=>F.φ (bm (dD v (eR v s c) s.cols.length c n) i j)):=fun n=>by
    induction n with
    | zero=>intro _;exact heA
    | succ n ih =>
      intro hn i hi;have ih:=ih (by omega);unfold dD;split
      · rename_i hcnd;by_cases hin:i=n
        · subst hin
          have g0: ∀j,j<N→F.φ (bm ((dD v (eR v s c) s.cols.length c i).set i (nk v ((dD v (eR v s c) s.cols.length c i).getD i []) ((dD v (eR v s c) s.cols.length c i).getD s.cols.length []) (bm (dD v (eR v s c) s.cols.length c i) i c))) i j)=F.φ (bm (eR v s c) i j) -F.φ (bm (eR v s c) i c)*F.φ (bm (eR v s c) s.cols.length j):=fun j hj=>by
           rw[iE v _ _ _ i i (.inl (ai _)),iE v _ _ _ i _ (.inr rfl),Ax];show F.φ ((((dD v (eR v s c) s.cols.length c i).set i _).getD i []).getD j [])=_;rw[eJ,if_pos ⟨rfl,by rw[jD];omega⟩,oo v _ _ _ (by rw[e2 i (by omega)];exact hj)];show F.φ (gv (bm (eR v s c) i j) (fT v (bm (eR v s c) i c) (bm (eR v s c) s.cols.length j)))=_;rw[F.sub (e3 i j) (iy V (e3 i c) (e3 _ j)),F.mul (e3 i c) (e3 _ j)]
          have ht:=(heR i hi hcnd.1).take hc hNe;obtain ⟨D,d1,d2⟩:=ht.mono h1;exact⟨D,d1,fun j hj=>by dsimp only;rw[g0 j hj];exact d2 j hj⟩
        · have:=ih i hi;unfold bm at this ⊢;rw[eJ,if_neg (fun g=>hin g.1)];exact this
      · exact ih i hi
   exact key _ (ai _) i hi
 · have hdet:(cQ v s c).ia=fT v s.ia (pR v s c):=by
    unfold cQ;rw[if_pos h]
   rw[hdet];show iH I X' (F.φ (fT v s.ia (bm (Lift.bR v s c) s.cols.length c)));rw[F.mul R.ia (b3 _ c)];exact(hs.d.mul ((hb s.cols.length hr).Oe hc he)).mono (by omega)
def fP(K X:Nat):Nat→Nat
 | 0=>X
 | p+1=>3*fP K X p+K
theorem KP(K X:Nat): ∀{p q:Nat},p≤q→fP K X p≤fP K X q:=fun {p q} h=>by
 induction h with
 | refl=>exact ai _
 | step _ ih=>exact Nat.le_trans ih (by show _≤3*_+K;omega)
def gP(K X:Nat):Nat→Nat
 | 0=>X
 | p+1=>3*gP K X p+2*fP K X p+K
theorem KM(K X:Nat): ∀{p q:Nat},p≤q→gP K X p≤gP K X q:=fun {p q} h=>by
 induction h with
 | refl=>exact ai _
 | step _ ih=>exact Nat.le_trans ih (by show _≤3*_+2*_+K;omega)
def FH.Inv(F:FH v d):Prop:= ∀b,aA v.length b→rQ v b≠0→CB (F.φ b) (F.φ (bZ v.length v b))
theorem Hr{m N c k:Nat}{s:jT}(R:pk v m N k s)(h:atR v s c<s.rows.length):rQ v (pR v s c)≠0:=by
 have hl:=R.len;have hm:=R.cm;obtain ⟨h1,h2,h3,h4⟩:=fo v s c (by omega);have h5:=h4 h
 have:bm (Lift.bR v s c) s.cols.length c=bm s.rows (atR v s c) c:=by
  unfold Lift.bR bm;split
  · rename_i e;rw[e]
  · unfold GN;rw[eJ,if_pos ⟨rfl,by rw[List.length_set];omega⟩]
 rw[pR,this];exact h5
theorem ya{c:Nat}{s:jT}(h: ¬atR v s c<s.rows.length):cQ v s c=s:=by
 unfold cQ;rw[if_neg h]
theorem yb{c:Nat}{s:jT}(h:atR v s c<s.rows.length):(cQ v s c).cols.length=s.cols.length+1:=by
 unfold cQ;rw[if_pos h];exact List.length_append
theorem mY.red{X Xe N:Nat}{e:Nat→A.T}{a:cI}(V:pj v)(hI:F.Inv)(hr:dq N a)(hl:rO v.length a)(he: ∀j,j<N→I.a.U Xe (e j))(hx:Xe≤X)(h0:mY I F X N e ⟨a,[],1,[1]⟩){K:Nat}(hK:I.p.c+I.p.c+2≤K): ∀c,c≤N→mY I F (fP K X (aF v a c).cols.length) N e (aF v a c) ∧
  (c<N→atR v (aF v a c) c<(aF v a c).rows.length→mY I F (fP K X ((aF v a c).cols.length+1)) N e (cQ v (aF v a c) c)∧(∀i,i<(aF v a c).rows.length→ic I (fP K X ((aF v a c).cols.length+1)) N e (fun j=>F.φ (bm (eR v (aF v a c) c) i j)))∧iH I (fP K X ((aF v a c).cols.length+1)) (F.φ (bZ v.length v (pR v (aF v a c) c)))):=by
 have hcc:=I.cc
 have st: ∀c,mY I F (fP K X (aF v a c).cols.length) N e (aF v a c)→c<N→atR v (aF v a c) c<(aF v a c).rows.length→mY I F (fP K X ((aF v a c).cols.length+1)) N e (cQ v (aF v a c) c)∧(∀i,i<(aF v a c).rows.length→ic I (fP K X ((aF v a c).cols.length+1)) N e (fun j=>F.φ (bm (eR v (aF v a c) c) i j)))∧iH I (fP K X ((aF v a c).cols.length+1)) (F.φ (bZ v.length v (pR v (aF v a c) c))):=fun c hs hc h=>by
  have R:=kt V hr hl c;have hlen:=R.len;have hm:=R.cm;have ha:=(fo v (aF v a c) c (by omega)).1;obtain ⟨b1,b2,b3⟩:=rM R h;have hb:=hs.bR R h (aF v a c).cols.length (by omega);have hJ:=hI _ (b3 _ c) (Hr R h);have hX:X≤fP K X (aF v a c).cols.length:=KP K X (Nat.zero_le _);have hn:=hb.norm hc (he c hc).2 hJ;have hi:=hb.inv hc (he c hc) hJ;have ef:fP K X ((aF v a c).cols.length+1)=3*fP K X (aF v a c).cols.length+K:=rfl;generalize fP K X ((aF v a c).cols.length+1)=Z at *;generalize fP K X (aF v a c).cols.length=Y at *;obtain ⟨s1,s2⟩:=mY.step V R hs hc (he c hc) h hn (X':=Z) (by omega) (by omega) (by omega);exact⟨s1,s2,hi.mono (by omega)⟩
 have main: ∀c,c≤N→mY I F (fP K X (aF v a c).cols.length) N e (aF v a c):=fun c=>by
  induction c with
  | zero=>intro _;exact h0
  | succ c ih =>
    intro hc;have ih:=ih (by omega);show mY I F (fP K X (cQ v (aF v a c) c).cols.length) N e (cQ v (aF v a c) c);by_cases h:atR v (aF v a c) c<(aF v a c).rows.length
    · rw[yb h];exact(st c ih (by omega) h).1
    · rw[ya h];exact ih
 exact fun c hc=>⟨main c hc,fun h1 h2=>st c (main c hc) h1 h2⟩
end
section
variable {v:List NQ} {A:Rg} {d d':A.T} {I:IP d} {I':IP d'} {F:FH v d} {F':FH v d'}
def FH.CC(F':FH v d')(F:FH v d):Prop:= ∀b,aA v.length b→rQ v b≠0→Lift.CC (F'.φ b) (F.φ b) (F.φ (bZ v.length v b))
theorem mY.NX{X Xe N:Nat}{e:Nat→A.T}{a:cI}(V:pj v)(ha':I'.a=I.a)(hI':F'.Inv)(hI:FH.CC F' F)(hr:dq N a)(hl:rO v.length a)(he: ∀j,j<N→I.a.U Xe (e j))(hx:Xe≤X)(h0':mY I' F' X N e ⟨a,[],1,[1]⟩)(h0:mY I F X N e ⟨a,[],1,[1]⟩){K kk:Nat}(hK':I'.p.c+I'.p.c+2≤K)(hk1:I'.p.c+I.a.c+I.a.c≤kk)(hk2:I.p.c+I.p.c+I.a.c≤kk)(hK:kk+I.p.c+2≤K): ∀c,c≤N→mY I F (gP K X (aF v a c).cols.length) N e (aF v a c) ∧
  (c<N→atR v (aF v a c) c<(aF v a c).rows.length→mY I F (gP K X ((aF v a c).cols.length+1)) N e (cQ v (aF v a c) c)∧(∀i,i<(aF v a c).rows.length→ic I (gP K X ((aF v a c).cols.length+1)) N e (fun j=>F.φ (bm (eR v (aF v a c) c) i j)))∧iH I (gP K X ((aF v a c).cols.length+1)) (F.φ (bZ v.length v (pR v (aF v a c) c)))):=by
 have hcc:=I.cc;have plus:=mY.red (K:=K) V hI' hr hl (fun j hj=>by rw[ha'];exact he j hj) hx h0' hK'
 have st: ∀c,mY I F (gP K X (aF v a c).cols.length) N e (aF v a c)→c<N→atR v (aF v a c) c<(aF v a c).rows.length→mY I F (gP K X ((aF v a c).cols.length+1)) N e (cQ v (aF v a c) c)∧(∀i,i<(aF v a c).rows.length→ic I (gP K X ((aF v a c).cols.length+1)) N e (fun j=>F.φ (bm (eR v (aF v a c) c) i j)))∧iH I (gP K X ((aF v a c).cols.length+1)) (F.φ (bZ v.length v (pR v (aF v a c) c))):=fun c hs hc h=>by
  have R:=kt V hr hl c;have hlen:=R.len;have hm:=R.cm;have ha:=(fo v (aF v a c) c (by omega)).1;obtain ⟨b1,b2,b3⟩:=rM R h;have hb:=hs.bR R h (aF v a c).cols.length (by omega);have hb':=(plus c (by omega)).1.bR R h (aF v a c).cols.length (by omega);have hJ:=hI _ (b3 _ c) (Hr R h);have hX:X≤gP K X (aF v a c).cols.length:=KM K X (Nat.zero_le _)
  have hp:Ku I.a I'.p.c (fP K X (aF v a c).cols.length) (e c) (F'.φ (bm (Lift.bR v (aF v a c) c) (aF v a c).cols.length c)):=by
   rw[← ha'];exact hb'.JK hc
  have hn:=hb.MQ hc (he c hc).2 hp hJ hk1 hk2;have hi:=hb.N8 hc (he c hc) hp hJ hk1 hk2;have ef:gP K X ((aF v a c).cols.length+1)=3*gP K X (aF v a c).cols.length+2*fP K X (aF v a c).cols.length+K:=rfl;generalize gP K X ((aF v a c).cols.length+1)=Z at *;generalize gP K X (aF v a c).cols.length=Y at *;generalize fP K X (aF v a c).cols.length=Y' at *;obtain ⟨s1,s2⟩:=mY.step V R hs hc (he c hc) h hn (X':=Z) (by omega) (by omega) (by omega);exact⟨s1,s2,hi.mono (by omega)⟩
 have main: ∀c,c≤N→mY I F (gP K X (aF v a c).cols.length) N e (aF v a c):=fun c=>by
  induction c with
  | zero=>intro _;exact h0
  | succ c ih =>
    intro hc;have ih:=ih (by omega);show mY I F (gP K X (cQ v (aF v a c) c).cols.length) N e (cQ v (aF v a c) c);by_cases h:atR v (aF v a c) c<(aF v a c).rows.length
    · rw[yb h];exact(st c ih (by omega) h).1
    · rw[ya h];exact ih
 exact fun c hc=>⟨main c hc,fun h1 h2=>st c (main c hc) h1 h2⟩
end
end Lift
namespace Lift
def It(j:Nat)(z:Cf):Cf:=fun i=>if i<2^j then z i else -z i
def qD(q:Rat):Cf:=fun i=>if i=0 then q else 0
theorem DY(q:Rat):cf [q]=qD q:=funext fun i=>by
 cases i with
 | zero=>rfl
 | succ i=>rfl
theorem yh{l j:Nat}{a:NQ}(ha:aA l a)(h:bO j (cf a)):(aD a).length=0∨ ∃i,i≤j∧(aD a).length=2^i:=by
 have hs:=bX ha;have t:=gO ha;rcases hs with e | ⟨i,hi,e⟩
 · exact .inl e
 · refine .inr ⟨i,?_,e⟩;rcases i with _ | i
   · exact Nat.zero_le _
   · refine Classical.byContradiction fun g=>t.two i e fun k hk=>?_;rw[bf ha];exact h k (Nat.le_trans (Nat.pow_le_pow_right (by decide) (by omega)) hk)
theorem HM{a:NQ}(h:bO 0 (cf a))(h0:cf a 0=0):cf a=zC:=funext fun i=>by
 by_cases e:i=0
 · rw[e];exact h0
 · exact h i (by show 1≤i;omega)
theorem Ah(v:List NQ)(l:Nat){a:NQ}(ha:aA l a)(h:bO 0 (cf a))(h0:cf a 0≠0):cf (bZ l v a)=qD (1 / cf a 0):=by
 have hs:(aD a).length=1:=by
  rcases yh ha h with e | ⟨i,hi,e⟩
  · refine absurd ?_ h0;rw[← bf ha,List.length_eq_zero_iff.1 e];rfl
  · obtain rfl:i=0:=by omega
    exact e
 have key: ∀R S N T,cf (kJ R S N T (aD a))=qD (1 / cf a 0):=fun R S N T=>by
  unfold kJ;rw[if_pos hs,DY]
  congr 2
  rw[← bf ha];rfl
 cases l with
 | zero=>exact key _ _ _ _
 | succ l=>exact key _ _ _ _
theorem B8{v:List NQ}(hrt:cP v)(hp:po v)(l:Nat){a:NQ}(ha:aA (l+1) a)(hl:l+1≤v.length)(h:aY v (l+1) (cf a)≠0):
  (bO 0 (cf a)∧cf a 0≠0)∨ ∃j b,j≤l∧(aD a).length=2^(j+1)∧bO (j+1) (cf a)∧aA l b∧aY v l (cf b)≠0∧bO j (cf b) ∧
   ((aY v j (bp v j (cf a))=0∧jU j (cf b) (fun i=>cf a i+cf a i)∧cf (bZ (l+1) v a)=cf (bZ l v b)) ∨
    (aY v j (bp v j (cf a))≠0∧cf b=bp v j (cf a)∧ ∃J,jU (j+1) J (It j (cf a))∧bO (j+1) J∧cf (bZ (l+1) v a)=mulC v (l+1) J (cf (bZ l v b)))):=by
 have hs:=bX ha;have hc:=bf ha;have ho:=ot ha
 show (bO 0 (cf a)∧cf a 0≠0)∨ ∃j b,j≤l∧(aD a).length=2^(j+1)∧bO (j+1) (cf a)∧aA l b∧aY v l (cf b)≠0∧bO j (cf b) ∧
   ((aY v j (bp v j (cf a))=0∧jU j (cf b) (fun i=>cf a i+cf a i)∧cf (kJ (bZ l v) (et l v) (fi l v) (aV (l+1) v) (aD a))=cf (bZ l v b)) ∨
    (aY v j (bp v j (cf a))≠0∧cf b=bp v j (cf a)∧ ∃J,jU (j+1) J (It j (cf a))∧bO (j+1) J∧cf (kJ (bZ l v) (et l v) (fi l v) (aV (l+1) v) (aD a))=mulC v (l+1) J (cf (bZ l v b))))
 rw[← hc] at h ⊢;generalize aD a=s at *;by_cases h0:s.length=0
 · rw[List.length_eq_zero_iff.1 h0] at h;exact absurd (dK v (l+1)) h
 by_cases h1:s.length=1
 · exact .inl ⟨aU (by rw[h1];exact ai _),ho h1⟩
 obtain ⟨j,hj,hsl⟩: ∃j,j≤l∧s.length=2^(j+1):=by
  rcases hs with e | ⟨i,hi,e⟩
  · exact absurd e h0
  · rcases i with _ | j
    · exact absurd e h1
    · exact⟨j,by omega,e⟩
 obtain ⟨e1,e2,e3⟩:=bF hsl;have hx:aA l (s.take (s.length / 2)):= .inr ⟨j,hj,e1⟩;have hn:=rb hj hsl hrt (by omega);have ex:jU j (cf (s.take (s.length / 2))) (cf s):=e8 _ e3;have ey:cf (s.drop (s.length / 2))=bE j (cf s):=ji _ e3
 have lowN:bO j (bp v j (cf s)):=fun i hi=>by
  unfold bp;rw[bj v j _ _ i hi,bj v j _ _ i hi];exact Rat.sub_self
 have ls:bO (j+1) (cf s):=aU (by omega);have lx:bO j (cf (s.take (s.length / 2))):=aU (by omega);obtain ⟨Tj⟩:=Lb hp j (by omega);have hdj:=hp j (by omega)
 let T:=tS Tj hdj
 rw[bL v ls (by omega)] at h
 have hT:Tj.R.sgn (OR.nr (Tj.of (cf (v.getD j []))) (T.of (cf s)))=aY v j (bp v j (cf s)):=by
  rw[← Tj.sgn]
  congr 1
  show Tj.of (cf s)*Tj.of (cf s) -Tj.of (bE j (cf s))*Tj.of (bE j (cf s))*Tj.of (cf (v.getD j []))=Tj.of (bp v j (cf s));rw[← Tj.mul,← Tj.mul,← Tj.mul,← Tj.sub];rfl
 unfold kJ;rw[if_neg h1,dP l hn.1 hrt (by omega),hn.2,bL v lowN hj];by_cases hN:aY v j (bp v j (cf s))=0
 · rw[if_pos hN];have hxx:aA l (aX (s.take (s.length / 2)) (s.take (s.length / 2))):=hx.plus hx;have cxx:cf (aX (s.take (s.length / 2)) (s.take (s.length / 2)))=fun i=>cf (s.take (s.length / 2)) i+cf (s.take (s.length / 2)) i:=funext fun i=>dY _ _ i
   have lxx:bO j (cf (aX (s.take (s.length / 2)) (s.take (s.length / 2)))):=by
    rw[cxx];exact fun i hi=>by
     show _+_=(0:Rat);rw[lx i hi];exact Rat.add_zero 0
   have F:Tj.R.sgn (Tj.of (cf s)+Tj.of (cf s))≠0:=by
    have hes:T.R.sgn (T.of (cf s))≠0:=by rw[T.sgn];exact h
    exact(OR.E0 (R:=Tj.R) (d:=Tj.of (cf (v.getD j []))) (by rw[Tj.sgn];exact hdj) hes (by
     have h5:=hT;rw[hN] at h5;exact h5)).2
   refine .inr ⟨j,_,hj,hsl,ls,hxx,?_,lxx,.inl ⟨hN,fun i hi=>?_,rfl⟩⟩
   · rw[bL v lxx hj,← Tj.sgn,cxx,Tj.add,Tj.cong _ _ ex];exact F
   · rw[cxx];show _+_=_;rw[ex i hi]
 · rw[if_neg hN]
   have hjl:aA (l+1) (dR (s.take (s.length / 2)) (aZ (s.drop (s.length / 2))) (s.length / 2)):= .inr ⟨j+1,by omega,by
    rw[dL]
    omega⟩
   have hrl:aA l (bZ l v (fi l v s)):=gC l hn.1 hrt (by omega);have cJ: ∀i,cf (dR (s.take (s.length / 2)) (aZ (s.drop (s.length / 2))) (s.length / 2)) i=if i<2^j then cf (s.take (s.length / 2)) i else cf (aZ (s.drop (s.length / 2))) (i-2^j):=fun i=>Fb _ e3 (by rw[gy];omega) i
   have lJ:bO (j+1) (cf (dR (s.take (s.length / 2)) (aZ (s.drop (s.length / 2))) (s.length / 2))):=aU (by rw[dL];omega);have ht:=fB (l+1) hjl (hrl.mono (Nat.le_succ l)) hrt hl;refine .inr ⟨j,_,hj,hsl,ls,hn.1,?_,by rw[hn.2];exact lowN,.inr ⟨hN,hn.2,_,fun i _=>?_,lJ,ht.2⟩⟩
   · rw[hn.2,bL v lowN hj];exact hN
   · rw[cJ];unfold It;split
     · rename_i g;exact ex i g
     · rename_i g;rw[iF,ey];show -(cf s (2^j+(i-2^j)))=_;rw[show 2^j+(i-2^j)=i by omega]
abbrev QR:Rg:=JE.toRg
abbrev B1(d0:QR.T):Rg:=QR.ext d0
def BD(d0:QR.T)(z:Cf):(B1 d0).T:=(z 0,z 1)
def dv(v:List NQ):QR.T:=(v.getD 0 []).getD 0 0
def Q1{d0:QR.T}(q k:(B1 d0).T):Prop:=(∃w,nr q*w=1∧k=br q*em w)∨(nr q=0∧ ∃w,(q.1+q.1)*w=1∧k=em w)
theorem inv_one{v:List NQ}(hrt:cP v)(hp:po v)(l:Nat){a:NQ}(ha:aA (l+1) a)(hl:l+1≤v.length)(hlo:bO 1 (cf a))(h:aY v (l+1) (cf a)≠0):Q1 (BD (dv v) (cf a)) (BD (dv v) (cf (bZ (l+1) v a)))∧bO 1 (cf (bZ (l+1) v a)):=by
 have lowr: ∀q,bO 1 (qD q):=fun q i hi=>by
  have hi:2≤i:=hi;exact if_neg (by omega)
 rcases B8 hrt hp l ha hl h with ⟨g1,g2⟩ | ⟨j,b,hj,hsl,ls,hb,hbs,hbl,hcs⟩
 · rw[Ah v (l+1) ha g1 g2];refine⟨.inl ⟨(1 / cf a 0*(1 / cf a 0):Rat),?_,?_⟩,lowr _⟩
   · show (cf a 0*cf a 0+ -(cf a 1*cf a 1*(v.getD 0 []).getD 0 0))*(1 / cf a 0*(1 / cf a 0))=1;rw[g1 1 (by decide)];generalize cf a 0=x at g2;generalize (v.getD 0 []).getD 0 0=y;rw[Rat.div_def];have:=Rat.mul_inv_cancel x g2
     grind
   · refine Prod.ext ?_ ?_
     · show (1 / cf a 0:Rat)=cf a 0*(1 / cf a 0*(1 / cf a 0))+ -(cf a 1)*0*(v.getD 0 []).getD 0 0;rw[g1 1 (by decide)];generalize cf a 0=x at g2;generalize (v.getD 0 []).getD 0 0=y;rw[Rat.div_def];have:=Rat.mul_inv_cancel x g2
       grind
     · show (0:Rat)=cf a 0*0+ -(cf a 1)*(1 / cf a 0*(1 / cf a 0));rw[g1 1 (by decide)]
       grind
 · obtain rfl:j=0:=by
    rcases yh ha hlo with e | ⟨i,hi,e⟩
    · rw[e] at hsl;exact absurd hsl (Nat.ne_of_lt (Nat.pow_pos (by decide)))
    · rw[e] at hsl;refine Classical.byContradiction fun g=>?_;have h1:2^2≤2^(j+1):=Nat.pow_le_pow_right (by decide) (by omega);have h2:2^i≤2^1:=Nat.pow_le_pow_right (by decide) hi;omega
   have hb0:cf b 0≠0:=fun g=>hbs (by rw[HM hbl g];exact dK v l);have hi:=Ah v l hb hbl hb0
   have hnr:bp v 0 (cf a) 0=cf a 0*cf a 0-cf a 1*cf a 1*(v.getD 0 []).getD 0 0:=by
    show (if (0:Nat)=0 then cf a 0*cf a 0 else 0) -(if (0:Nat)=0 then (if (0:Nat)=0 then bE 0 (cf a) 0*bE 0 (cf a) 0 else 0)*cf (v.getD 0 []) 0 else 0)=_;rw[if_pos rfl,if_pos rfl,if_pos rfl];rfl
   have hnq:nr (BD (dv v) (cf a))=(bp v 0 (cf a) 0:Rat):=by
    rw[hnr];exact(Rat.sub_eq_add_neg ..).symm
   rcases hcs with ⟨c1,c2,c3⟩ | ⟨c1,c2,J,c3,c4,c5⟩
   · rw[c3,hi];have e0:=c2 0 (by decide);refine⟨.inr ⟨by rw[hnq];exact db.1 c1,(1 / cf b 0:Rat),?_,?_⟩,lowr _⟩
     · show (cf a 0+cf a 0)*_=(1:Rat);rw[← show cf b 0=cf a 0+cf a 0 from e0];rw[Rat.div_def,Rat.one_mul,Rat.mul_inv_cancel _ hb0]
     · rfl
   · have hm:cf (bZ (l+1) v a)=mulC v 1 J (qD (1 / cf b 0)):=by
      rw[c5,hi,de v c4 (lowr _) (by omega)]
     refine⟨.inl ⟨(1 / cf b 0:Rat),?_,?_⟩,by rw[hm];exact bj v 1 _ _⟩
     · rw[hnq,← c2];show (cf b 0*(1 / cf b 0):Rat)=1;rw[Rat.div_def,Rat.one_mul,Rat.mul_inv_cancel _ hb0]
     · rw[hm];have j0:J 0=cf a 0:=c3 0 (by decide);have j1:J 1= -cf a 1:=c3 1 (by decide);refine Prod.ext ?_ ?_
       · show (J 0*(1 / cf b 0)+(J 1*0)*(cf (v.getD 0 [])) 0:Rat)=cf a 0*(1 / cf b 0)+ -(cf a 1)*0*(v.getD 0 []).getD 0 0;rw[j0,j1];rfl
       · show (J 0*0+J 1*(1 / cf b 0):Rat)=cf a 0*0+ -(cf a 1)*(1 / cf b 0);rw[j0,j1]
end Lift
namespace Lift
abbrev B2(d0:QR.T)(β:(B1 d0).T):Rg:=(B1 d0).ext β
def mM(d0:QR.T)(β:(B1 d0).T)(z:Cf):(B2 d0 β).T:=(BD d0 z,BD d0 (bE 1 z))
def dH(v:List NQ):(B1 (dv v)).T:=BD (dv v) (cf (v.getD 1 []))
def fs{d0:QR.T}(s:QR.T)(q:(B1 d0).T):QR.T:=q.1+s*q.2
def En(v:List NQ)(q:(B1 (dv v)).T):Int:=aY v 1 (fun i=>if i=0 then q.1 else if i=1 then q.2 else 0)
theorem zh(v:List NQ)(z:Cf):En v (BD (dv v) z)=aY v 1 z:=kr v 1 fun i hi=>by
 have hi:i<2:=hi;rcases i with _ | _ | i
 · rfl
 · rfl
 · omega
section
variable {m:Nat} {v:List NQ} (V:iJ m v)
include V
theorem Ew(h2:2≤v.length)(x y:Cf):mM (dv v) (dH v) (mulC v 2 x y)=mM (dv v) (dH v) x*mM (dv v) (dH v) y :=
 (tS (tS (AT v) (V.pos 0 (by omega))) (V.pos 1 (by omega))).mul x y
theorem JH(h1:1≤v.length)(x y:Cf):BD (dv v) (mulC v 1 x y)=BD (dv v) x*BD (dv v) y :=
 (tS (AT v) (V.pos 0 (by omega))).mul x y
theorem BC(h2:2≤v.length)(z:Cf):BD (dv v) (bp v 1 z)=nr (mM (dv v) (dH v) z):=by
 have T:=tS (AT v) (V.pos 0 (by omega));have h:=(tS (AT v) (V.pos 0 (by omega))).sub (mulC v 1 z z) (mulC v 1 (mulC v 1 (bE 1 z) (bE 1 z)) (cf (v.getD 1 [])));rw[(tS (AT v) (V.pos 0 (by omega))).mul,(tS (AT v) (V.pos 0 (by omega))).mul,(tS (AT v) (V.pos 0 (by omega))).mul] at h;exact h
theorem Ag(h2:2≤v.length){a:NQ}(ha:aA 2 a)(h:aY v 2 (cf a)≠0):
  ((mM (dv v) (dH v) (cf a)).2=0∧(mM (dv v) (dH v) (cf (bZ 2 v a))).2=0∧En v (mM (dv v) (dH v) (cf a)).1≠0∧Q1 (mM (dv v) (dH v) (cf a)).1 (mM (dv v) (dH v) (cf (bZ 2 v a))).1) ∨
  (En v (nr (mM (dv v) (dH v) (cf a)))≠0∧ ∃k,Q1 (nr (mM (dv v) (dH v) (cf a))) k∧mM (dv v) (dH v) (cf (bZ 2 v a))=br (mM (dv v) (dH v) (cf a))*em k) ∨
  (En v (nr (mM (dv v) (dH v) (cf a)))=0∧En v ((mM (dv v) (dH v) (cf a)).1+(mM (dv v) (dH v) (cf a)).1)≠0∧ ∃k,Q1 ((mM (dv v) (dH v) (cf a)).1+(mM (dv v) (dH v) (cf a)).1) k∧mM (dv v) (dH v) (cf (bZ 2 v a))=em k):=by
 have wm: ∀{z:Cf},bO 1 z→BD (dv v) (bE 1 z)=0:=fun {z} hz=>Prod.ext (hz 2 (by decide)) (hz 3 (by decide));by_cases hlo:bO 1 (cf a)
 · obtain ⟨g1,g2⟩:=inv_one V.ro V.pos 1 ha h2 hlo h;refine .inl ⟨wm hlo,wm g2,?_,g1⟩;show En v (BD (dv v) (cf a))≠0;rw[zh,← bL v hlo (show 1≤2 by omega)];exact h
 · rcases B8 V.ro V.pos 1 ha h2 h with ⟨g1,g2⟩ | ⟨j,b,hj,hsl,ls,hb,hbs,hbl,hcs⟩
   · exact absurd (fun i hi=>g1 i (Nat.le_trans (by decide) hi)) hlo
   obtain rfl:j=1:=by
    rcases j with _ | j
    · exact absurd ls hlo
    · omega
   obtain ⟨q1,q2⟩:=inv_one V.ro V.pos 0 (a:=b) hb (by omega) (aU hb.le) hbs;rcases hcs with ⟨c1,c2,c3⟩ | ⟨c1,c2,J,c3,c4,c5⟩
   · refine .inr (.inr ⟨?_,?_⟩)
     · rw[← BC V h2,zh];exact c1
     · have e:BD (dv v) (cf b)=(mM (dv v) (dH v) (cf a)).1+(mM (dv v) (dH v) (cf a)).1:=Prod.ext (c2 0 (by decide)) (c2 1 (by decide));rw[← e,zh];refine⟨hbs,_,q1,?_⟩;rw[c3];exact Prod.ext rfl (wm q2)
   · refine .inr (.inl ?_);rw[← BC V h2,zh,← c2];refine⟨hbs,_,q1,?_⟩;rw[c5,Ew V h2]
     congr 1
     · refine Prod.ext (Prod.ext (c3 0 (by decide)) (c3 1 (by decide))) (Prod.ext (c3 2 (by decide)) (c3 3 (by decide)))
     · exact Prod.ext rfl (wm q2)
end
section
variable {v:List NQ}
theorem C0(hns: ¬ ∃s:QR.T,s≠0∧s*s=dv v){q:(B1 (dv v)).T}(h:En v q≠0):nr q≠0:=fun e=>by
 obtain ⟨x,y⟩:=q;change Rat at x y;obtain ⟨D,hD⟩: ∃D:Rat,D=(v.getD 0 []).getD 0 0:=⟨_,rfl⟩;have e:x*x+ -(y*y*D)=0:=by rw[hD];exact e
 have hz: ∀{x:Rat},x*x=0→x=0:=fun {x} g=>by
  rcases Rat.mul_eq_zero.1 g with g | g<;>exact g
 by_cases hy:(y:Rat)=0
 · have hx:(x:Rat)=0:=hz (by rw[hy] at e;grind);refine h ?_;unfold En
   rw[show (fun i=>if i=0 then x else if i=1 then y else 0)=zC from funext fun i=>by
    split
    · exact hx
    · split
      · exact hy
      · rfl]
   exact dK v 1
 · have hq:(x*y⁻¹)*(x*y⁻¹)=D:=by
    have:=Rat.mul_inv_cancel y hy
    grind
   by_cases hx:(x:Rat)=0
   · refine h ?_;unfold En aY;have h0:(v.getD 0 []).getD 0 0=0:=by rw[← hD,← hq,hx];grind
     have h0':aY v 0 (cf (v.getD 0 []))=0:=db.2 h0;rw[if_pos h0'];exact db.2 hx
   · refine hns ⟨(x*y⁻¹ :Rat),fun g=>?_,hq.trans hD⟩;rcases Rat.mul_eq_zero.1 g with g | g
     · exact hx g
     · have:=Rat.mul_inv_cancel y hy;rw[g] at this
       grind
theorem yk{s:QR.T}(hs:(0:Rat)<s)(hd:s*s=dv v)(q:(B1 (dv v)).T):En v q=0↔fs s q=0:=by
 obtain ⟨x,y⟩:=q;change Rat at x y s;show En v (x,y)=0↔x+s*y=0;have hd:s*s=(v.getD 0 []).getD 0 0:=hd;have hd0:0<(v.getD 0 []).getD 0 0:=by rw[← hd];exact Rat.mul_pos hs hs
 have h0': ¬aY v 0 (cf (v.getD 0 []))=0:=by
  show ¬jr ((v.getD 0 []).getD 0 0)=0;rw[vp _ hd0];decide
 have hsy:jr (s*y)=jr y:=by rw[rX,vp _ hs,Int.one_mul]
 have hn:(bp v 0 (fun i=>if i=0 then x else if i=1 then y else 0)) 0=(x+s*y)*(x-s*y):=by
  show (if (0:Nat)=0 then x*x else 0) -(if (0:Nat)=0 then (if (0:Nat)=0 then y*y else 0)*(v.getD 0 []).getD 0 0 else 0)=_;rw[if_pos rfl,if_pos rfl,if_pos rfl,← hd]
  grind
 unfold En aY;rw[if_neg h0'];have e1:aY v 0 (fun i=>if i=0 then x else if i=1 then y else 0)=jr x:=rfl;have e2:aY v 0 (bE 0 (fun i=>if i=0 then x else if i=1 then y else 0))=jr y:=rfl
 have e3:aY v 0 (bp v 0 (fun i=>if i=0 then x else if i=1 then y else 0))=jr ((x+s*y)*(x-s*y)):=by
  show jr _=_;rw[hn]
 rw[e1,e2,e3,rX]
 have key:x+s*y=0→jr x= -jr y:=fun g=>by
  rw[← hsy,← pD]
  congr 1
  grind
 have key2:x-s*y=0→jr x=jr y:=fun g=>by
  rw[← hsy]
  congr 1
  grind
 constructor
 · intro g;split at g
   · rename_i c;have hx:=db.1 g
     have hy:y=0:=by
      rcases c with c | c
      · exact db.1 (by omega)
      · exact db.1 c
     rw[hx,hy];grind
   · rename_i c;split at g
     · exact absurd (.inr g) c
     · rename_i c2;rcases Int.mul_eq_zero.1 g with g | g
       · exact absurd g c2
       · rcases Int.mul_eq_zero.1 g with g | g
         · exact db.1 g
         · exact absurd (.inl (key2 (db.1 g))) c
 · intro g;have k:=key g;split
   · rename_i c;omega
   · rename_i c;split
     · omega
     · rw[db.2 g];simp
end
end Lift
namespace Lift
theorem Q1.inv{d0:QR.T}{q k:(B1 d0).T}(h:Q1 q k):CB q k:=by
 rcases h with h | ⟨_,h⟩
 · exact .inl h
 · exact .inr h
theorem Q1.exact{d0:QR.T}{q k:(B1 d0).T}(h:Q1 q k)(hn:nr q≠0):q*k=1:=by
 rcases h with ⟨w,hw,rfl⟩ | ⟨e,_⟩
 · refine(Rg.mul_assoc _ _ _).symm.trans ?_;refine(congrArg (· *em w) (yQ q).symm).trans ?_;exact(a5 (nr q) w).symm.trans (congrArg em hw)
 · exact absurd e hn
section
variable {m:Nat} {v:List NQ} (V:iJ m v)
theorem E9{a b:NQ}(ha:aA v.length a)(hb:aA v.length b):cf (gv a b)=fun i=>cf a i-cf b i:=by
 show cf (aD (aX a (aZ b)))=_;rw[bf (ha.plus hb.minus)];exact funext fun i=>by rw[dY,iF];exact(Rat.sub_eq_add_neg ..).symm
include V
theorem AB{a b:NQ}(ha:aA v.length a)(hb:aA v.length b):cf (fT v a b)=mulC v v.length (cf a) (cf b):=by
 have ht:=fB v.length ha hb V.ro (ai _);show cf (aD (aV v.length v a b))=_;rw[bf ht.1,ht.2]
theorem Ko{a b:NQ}(ha:aA v.length a)(hb:aA v.length b):cf (xL v a b)=mulC v v.length (cf a) (cf (bZ v.length v b)):=by
 have ht:=fB v.length ha (gC v.length hb V.ro (ai _)) V.ro (ai _);show cf (aD (aV v.length v a (bZ v.length v b)))=_;rw[bf ht.1,ht.2]
def FH.of{A:Rg}{d:A.T}(ψ:Cf→(A.ext d).T)(hs: ∀x y:Cf,ψ (fun i=>x i-y i)=ψ x-ψ y)(hm: ∀x y:Cf,ψ (mulC v v.length x y)=ψ x*ψ y)(h1:ψ pL=1):FH v d where
 φ a:=ψ (cf a)
 sub ha hb:=by rw[E9 ha hb,hs]
 mul ha hb:=by rw[AB V ha hb,hm]
 div ha hb:=by rw[Ko V ha hb,hm]
 one:=by rw[Fa,h1]
def pr0(z:Cf):(QR.ext (0:QR.T)).T:=(z 0,(0:Rat))
def Ob(h:v.length=0):FH v (A:=QR) 0:=FH.of V pr0 (fun x y=>Prod.ext (Rat.sub_eq_add_neg ..) (by show (0:Rat)=0+ -0;grind)) (fun x y=>by
 rw[h];refine Prod.ext ?_ ?_
 · show (if (0:Nat)=0 then x 0*y 0 else 0)=x 0*y 0+0*0*(0:Rat);rw[if_pos rfl];grind
 · show (0:Rat)=x 0*0+0*y 0
   grind) rfl
theorem Kd(h:v.length=0):(Ob V h).Inv:=fun b hb h0=>by
 have hl:bO 0 (cf b):=aU (by rw[← h];exact hb.le)
 have hb0:cf b 0≠0:=fun g=>h0 (by
  show et v.length v b=0;rw[dP v.length hb V.ro (ai _),HM hl g]
  exact dK v _)
 have hi:=Ah v v.length hb hl hb0;have hx:=Rat.mul_inv_cancel (cf b 0) hb0;refine .inl ⟨(1 / cf b 0*(1 / cf b 0):Rat),?_,?_⟩
 · show (cf b 0*cf b 0+ -(0*0*0))*(1 / cf b 0*(1 / cf b 0))=(1:Rat);rw[Rat.div_def];grind
 · show pr0 (cf (bZ v.length v b))=_;rw[hi];refine Prod.ext ?_ ?_
   · show 1 / cf b 0=cf b 0*(1 / cf b 0*(1 / cf b 0))+ -0*0*(0:Rat);rw[Rat.div_def];grind
   · show (0:Rat)=cf b 0*0+ -0*(1 / cf b 0*(1 / cf b 0))
     grind
def Oa(h:v.length=1):FH v (A:=QR) (dv v):=FH.of V (BD (dv v)) (fun x y=>Prod.ext (Rat.sub_eq_add_neg ..) (Rat.sub_eq_add_neg ..)) (fun x y=>by rw[h];exact JH V (by omega) x y) rfl
theorem Kc(h:v.length=1):(Oa V h).Inv:=fun b hb h0=>by
 have hs:aY v v.length (cf b)≠0:=by rw[← dP v.length hb V.ro (ai _)];exact h0
 rw[h] at hb hs;have g:=(inv_one V.ro V.pos 0 hb (by omega) (aU hb.le) hs).1;show CB (BD (dv v) (cf b)) (BD (dv v) (cf (bZ v.length v b)));rw[h];exact Q1.inv g
def yN(h:v.length=2):FH v (A:=B1 (dv v)) (dH v):=FH.of V (mM (dv v) (dH v)) (fun x y=>Prod.ext (Prod.ext (Rat.sub_eq_add_neg ..) (Rat.sub_eq_add_neg ..)) (Prod.ext (Rat.sub_eq_add_neg ..) (Rat.sub_eq_add_neg ..))) (fun x y=>by rw[h];exact Ew V (by omega) x y) rfl
theorem Kb(h:v.length=2)(hns: ¬ ∃s:QR.T,s≠0∧s*s=dv v):(yN V h).Inv:=fun b hb h0=>by
 have hs:aY v v.length (cf b)≠0:=by rw[← dP v.length hb V.ro (ai _)];exact h0
 rw[h] at hb hs;show CB (mM (dv v) (dH v) (cf b)) (mM (dv v) (dH v) (cf (bZ v.length v b)));rw[h];rcases Ag V (by omega) hb hs with ⟨e1,e2,e3,e4⟩ | ⟨e3,k,e4,e5⟩ | ⟨_,e3,k,e4,e5⟩
 · have hk:=Q1.exact e4 (C0 hns e3);generalize mM (dv v) (dH v) (cf b)=P at *;generalize mM (dv v) (dH v) (cf (bZ 2 v b))=J at *;obtain ⟨p,p'⟩:=P;obtain ⟨k,k'⟩:=J;change p'=0 at e1;change k'=0 at e2;change p*k=1 at hk;subst e1 e2;refine .inl ⟨k*k,?_,?_⟩
   · show (p*p-0*0*_)*(k*k)=1;rw[show (p*p-0*0*dH v)*(k*k)=p*k*(p*k) from Rg.bJ [p,k,dH v] ((X0*X0-0*0*X2)*(X1*X1)) (X0*X1*(X0*X1)) rfl,hk,Rg.mul_one]
   · refine Prod.ext ?_ ?_
     · show k=p*(k*k)+ -0*0*_;rw[show p*(k*k)+ -0*0*dH v=p*k*k from Rg.bJ [p,k,dH v] (X0*(X1*X1)+ -0*0*X2) (X0*X1*X1) rfl,hk,Rg.one_mul]
     · show (0:(B1 (dv v)).T)=p*0+ -0*(k*k);exact Rg.bJ [p,k] 0 (X0*0+ -0*(X1*X1)) rfl
 · exact .inl ⟨k,Q1.exact e4 (C0 hns e3),e5⟩
 · exact .inr ⟨k,Q1.exact e4 (C0 hns e3),e5⟩
end
theorem lr{d0 σ:QR.T}(hd:σ*σ=d0)(x y:(B1 d0).T):fs σ (x*y)=fs σ x*fs σ y:=by
 subst hd;show x.1*y.1+x.2*y.2*(σ*σ)+σ*(x.1*y.2+x.2*y.1)=(x.1+σ*x.2)*(y.1+σ*y.2);exact Rg.bJ [x.1,x.2,y.1,y.2,σ] (X0*X2+X1*X3*(X4*X4)+X4*(X0*X3+X1*X2)) ((X0+X4*X1)*(X2+X4*X3)) rfl
theorem nT{d0 σ:QR.T}(x y:(B1 d0).T):fs σ (x+y)=fs σ x+fs σ y:=by
 show x.1+y.1+σ*(x.2+y.2)=(x.1+σ*x.2)+(y.1+σ*y.2);exact Rg.bJ [x.1,x.2,y.1,y.2,σ] (X0+X2+X4*(X1+X3)) ((X0+X4*X1)+(X2+X4*X3)) rfl
theorem Am{d0 σ:QR.T}(x:(B1 d0).T):fs σ (-x)= -fs σ x:=by
 show -x.1+σ* -x.2= -(x.1+σ*x.2);exact Rg.bJ [x.1,x.2,σ] (-X0+X2* -X1) (-(X0+X2*X1)) rfl
theorem LU{d0 σ:QR.T}:fs σ (1:(B1 d0).T)=1:=by
 show 1+σ*0=(1:QR.T);rw[Rg.mul_zero,Rg.add_zero]
theorem oI{d0 σ:QR.T}:fs σ (0:(B1 d0).T)=0:=by
 show 0+σ*0=(0:QR.T);rw[Rg.mul_zero,Rg.add_zero]
theorem EU{d0 s:QR.T}(w:QR.T):fs s (em (d:=d0) w)=w:=by
 show w+s*0=w;rw[Rg.mul_zero,Rg.add_zero]
abbrev BS(v:List NQ)(σ:QR.T):Rg:=QR.ext (fs σ (dH v))
def hS(v:List NQ)(σ:QR.T)(p:(B2 (dv v) (dH v)).T):(BS v σ).T:=(fs σ p.1,fs σ p.2)
section
variable {v:List NQ} {σ:QR.T} (hd:σ*σ=dv v)
include hd
theorem Aj(x y:(B2 (dv v) (dH v)).T):hS v σ (x*y)=hS v σ x*hS v σ y:=by
 refine Prod.ext ?_ ?_
 · show fs σ (x.1*y.1+x.2*y.2*dH v)=fs σ x.1*fs σ y.1+fs σ x.2*fs σ y.2*fs σ (dH v);rw[nT,lr hd,lr hd,lr hd]
 · show fs σ (x.1*y.2+x.2*y.1)=fs σ x.1*fs σ y.2+fs σ x.2*fs σ y.1;rw[nT,lr hd,lr hd]
theorem HX(x:(B2 (dv v) (dH v)).T):nr (hS v σ x)=fs σ (nr x):=by
 show fs σ x.1*fs σ x.1+ -(fs σ x.2*fs σ x.2*fs σ (dH v))=fs σ (x.1*x.1+ -(x.2*x.2*dH v));rw[nT,Am,lr hd,lr hd,lr hd]
omit hd in
theorem KJ(x:(B2 (dv v) (dH v)).T):hS v σ (br x)=br (hS v σ x):=Prod.ext rfl (Am x.2)
omit hd in
theorem ER(k:(B1 (dv v)).T):hS v σ (em k)=em (fs σ k):=Prod.ext rfl oI
def KO{m:Nat}(V:iJ m v)(h:v.length=2):FH v (A:=QR) (fs σ (dH v)) where
 φ a:=hS v σ ((yN V h).φ a)
 sub {a b} ha hb:=by
  rw[(yN V h).sub ha hb];refine Prod.ext ?_ ?_
  · show fs σ (((yN V h).φ a).1+ -((yN V h).φ b).1)=fs σ ((yN V h).φ a).1+ -fs σ ((yN V h).φ b).1;rw[nT,Am]
  · show fs σ (((yN V h).φ a).2+ -((yN V h).φ b).2)=fs σ ((yN V h).φ a).2+ -fs σ ((yN V h).φ b).2;rw[nT,Am]
 mul ha hb:=by rw[(yN V h).mul ha hb,Aj hd]
 div ha hb:=by rw[(yN V h).div ha hb,Aj hd]
 one:=by
  rw[(yN V h).one];exact Prod.ext LU oI
end
end Lift
namespace Lift
theorem M8{d0 s:QR.T}(hd:s*s=d0)(q:(B1 d0).T):nr q=fs s q*fs (-s) q:=by
 subst hd;show q.1*q.1-q.2*q.2*(s*s)=(q.1+s*q.2)*(q.1+ -s*q.2);exact Rg.bJ [q.1,q.2,s] (X0*X0-X1*X1*(X2*X2)) ((X0+X2*X1)*(X0+ -X2*X1)) rfl
theorem M9{d0 s:QR.T}(q:(B1 d0).T):fs s (br q)=fs (-s) q:=by
 show q.1+s* -q.2=q.1+ -s*q.2;exact Rg.bJ [q.1,q.2,s] (X0+X2* -X1) (X0+ -X2*X1) rfl
theorem LV{d0 s:QR.T}(q:(B1 d0).T):fs (-s) (br q)=fs s q:=by
 show q.1+ -s* -q.2=q.1+s*q.2;exact Rg.bJ [q.1,q.2,s] (X0+ -X2* -X1) (X0+X2*X1) rfl
theorem LS{d0 s:QR.T}(q:(B1 d0).T):q.1+q.1=fs s q+fs (-s) q:=by
 show q.1+q.1=(q.1+s*q.2)+(q.1+ -s*q.2);exact Rg.bJ [q.1,q.2,s] (X0+X0) ((X0+X2*X1)+(X0+ -X2*X1)) rfl
theorem vZ{d0 s:QR.T}(hd:s*s=d0): -s* -s=d0:=by
 rw[← hd];exact Rg.bJ [s] (-X0* -X0) (X0*X0) rfl
theorem Fl{x y:QR.T}(h:x*y=0):x=0∨y=0:=Rat.mul_eq_zero.1 h
theorem Q1.fs{d0 s:QR.T}(hd:s*s=d0){q k:(B1 d0).T}(h:Q1 q k)(hn:fs s q≠0):Lift.fs s q*Lift.fs s k=1∧(Lift.fs (-s) q*Lift.fs (-s) k=1∨Lift.fs s q*Lift.fs (-s) k=1):=by
 have e0:=M8 hd q;rcases h with ⟨w,hw,rfl⟩ | ⟨e,w,hw,rfl⟩
 · rw[e0] at hw;have f1:Lift.fs s (br q*em w)=Lift.fs (-s) q*w:=by rw[lr hd,M9,EU]
   have f2:Lift.fs (-s) (br q*em w)=Lift.fs s q*w:=by rw[lr (vZ hd),LV,EU]
   rw[f1,f2];refine⟨by rw[← hw,Rg.mul_assoc],.inl ?_⟩;rw[← hw];exact Rg.bJ [Lift.fs s q,Lift.fs (-s) q,w] (X1*(X0*X2)) (X0*X1*X2) rfl
 · rw[e0] at e
   have e':Lift.fs (-s) q=0:=by
    rcases Fl e with g | g
    · exact absurd g hn
    · exact g
   rw[LS (s:=s),e',Rg.add_zero] at hw;rw[EU,EU];exact⟨hw,.inr hw⟩
section
variable {m:Nat} {v:List NQ} (V:iJ m v) (h2:v.length=2) {s:QR.T} (hs:(0:Rat)<s) (hd:s*s=dv v)
include V h2 hs hd
theorem FD{b:NQ}(hb:aA v.length b)(h0:rQ v b≠0)(σ:QR.T)(hσ:σ*σ=dv v)(hk: ∀q k:(B1 (dv v)).T,Q1 q k→fs s q≠0→fs σ q*fs σ k=1∨fs s q*fs σ k=1):
  CC (hS v s ((yN V h2).φ b)) (hS v σ ((yN V h2).φ b)) (hS v σ ((yN V h2).φ (bZ v.length v b))):=by
 have hsg:aY v v.length (cf b)≠0:=by rw[← dP v.length hb V.ro (ai _)];exact h0
 rw[h2] at hb hsg;show CC (hS v s (mM (dv v) (dH v) (cf b))) (hS v σ (mM (dv v) (dH v) (cf b))) (hS v σ (mM (dv v) (dH v) (cf (bZ v.length v b))));rw[h2];have ne: ∀{q:(B1 (dv v)).T},En v q≠0→fs s q≠0:=fun {q} g e=>g ((yk hs hd q).2 e);rcases Ag V (by omega) hb hsg with ⟨e1,e2,e3,e4⟩ | ⟨e3,k,e4,e5⟩ | ⟨_,e3,k,e4,e5⟩
 · generalize mM (dv v) (dH v) (cf b)=P at *;generalize mM (dv v) (dH v) (cf (bZ 2 v b))=J at *;obtain ⟨p,p'⟩:=P;obtain ⟨k,k'⟩:=J;change p'=0 at e1;change k'=0 at e2;subst e1 e2;have hJ:hS v σ ((k,0):(B2 (dv v) (dH v)).T)=em (fs σ k):=Prod.ext rfl oI;rcases hk p k e4 (ne e3) with g | g
   · have hP:hS v σ ((p,0):(B2 (dv v) (dH v)).T)=em (fs σ p):=Prod.ext rfl oI;refine .inl (.inl ⟨fs σ k*fs σ k,?_,?_⟩)
     · rw[hP];show (fs σ p*fs σ p-0*0*fs σ (dH v))*(fs σ k*fs σ k)=1;rw[show (fs σ p*fs σ p-0*0*fs σ (dH v))*(fs σ k*fs σ k)=fs σ p*fs σ k*(fs σ p*fs σ k) from Rg.bJ [fs σ p,fs σ k,fs σ (dH v)] ((X0*X0-0*0*X2)*(X1*X1)) (X0*X1*(X0*X1)) rfl,g,Rg.mul_one]
     · rw[hP,hJ];refine Prod.ext ?_ ?_
       · show fs σ k=fs σ p*(fs σ k*fs σ k)+ -0*0*fs σ (dH v);rw[show fs σ p*(fs σ k*fs σ k)+ -0*0*fs σ (dH v)=fs σ p*fs σ k*fs σ k from Rg.bJ [fs σ p,fs σ k,fs σ (dH v)] (X0*(X1*X1)+ -0*0*X2) (X0*X1*X1) rfl,g,Rg.one_mul]
       · show 0=fs σ p*0+ -0*(fs σ k*fs σ k);exact Rg.bJ [fs σ p,fs σ k] 0 (X0*0+ -0*(X1*X1)) rfl
   · exact .inr (.inr (.inr ⟨fs σ k,g,hJ⟩))
 · have hJ:hS v σ (mM (dv v) (dH v) (cf (bZ 2 v b)))=br (hS v σ (mM (dv v) (dH v) (cf b)))*em (fs σ k):=by
    rw[e5,Aj hσ,KJ,ER]
   rcases hk _ k e4 (ne e3) with g | g
   · exact .inl (.inl ⟨_,by rw[HX hσ];exact g,hJ⟩)
   · exact .inr (.inl ⟨_,by rw[HX hd];exact g,hJ⟩)
 · have hJ:hS v σ (mM (dv v) (dH v) (cf (bZ 2 v b)))=em (fs σ k):=by
    rw[e5,ER]
   rcases hk _ k e4 (ne e3) with g | g
   · refine .inl (.inr ⟨_,?_,hJ⟩);rw[nT] at g;exact g
   · refine .inr (.inr (.inl ⟨_,?_,hJ⟩));rw[nT] at g;exact g
theorem H9:FH.CC (KO hd V h2) (KO (vZ hd) V h2):=fun b hb h0 =>
 FD V h2 hs hd hb h0 (-s) (vZ hd) (fun q k hq hn=>(Q1.fs hd hq hn).2)
theorem EW:(KO hd V h2).Inv:=fun b hb h0=>by
 have hsg:aY v v.length (cf b)≠0:=by rw[← dP v.length hb V.ro (ai _)];exact h0
 rw[h2] at hb hsg;show CB (hS v s (mM (dv v) (dH v) (cf b))) (hS v s (mM (dv v) (dH v) (cf (bZ v.length v b))));rw[h2];have ne: ∀{q:(B1 (dv v)).T},En v q≠0→fs s q≠0:=fun {q} g e=>g ((yk hs hd q).2 e);rcases Ag V (by omega) hb hsg with ⟨e1,e2,e3,e4⟩ | ⟨e3,k,e4,e5⟩ | ⟨_,e3,k,e4,e5⟩
 · have g:=(Q1.fs hd e4 (ne e3)).1;generalize mM (dv v) (dH v) (cf b)=P at *;generalize mM (dv v) (dH v) (cf (bZ 2 v b))=J at *;obtain ⟨p,p'⟩:=P;obtain ⟨k,k'⟩:=J;change p'=0 at e1;change k'=0 at e2;change fs s p*fs s k=1 at g;subst e1 e2;have hJ:hS v s ((k,0):(B2 (dv v) (dH v)).T)=em (fs s k):=Prod.ext rfl oI;have hP:hS v s ((p,0):(B2 (dv v) (dH v)).T)=em (fs s p):=Prod.ext rfl oI;refine .inl ⟨fs s k*fs s k,?_,?_⟩
   · rw[hP];show (fs s p*fs s p-0*0*fs s (dH v))*(fs s k*fs s k)=1;rw[show (fs s p*fs s p-0*0*fs s (dH v))*(fs s k*fs s k)=fs s p*fs s k*(fs s p*fs s k) from Rg.bJ [fs s p,fs s k,fs s (dH v)] ((X0*X0-0*0*X2)*(X1*X1)) (X0*X1*(X0*X1)) rfl,g,Rg.mul_one]
   · rw[hP,hJ];refine Prod.ext ?_ ?_
     · show fs s k=fs s p*(fs s k*fs s k)+ -0*0*fs s (dH v);rw[show fs s p*(fs s k*fs s k)+ -0*0*fs s (dH v)=fs s p*fs s k*fs s k from Rg.bJ [fs s p,fs s k,fs s (dH v)] (X0*(X1*X1)+ -0*0*X2) (X0*X1*X1) rfl,g,Rg.one_mul]
     · show 0=fs s p*0+ -0*(fs s k*fs s k);exact Rg.bJ [fs s p,fs s k] 0 (X0*0+ -0*(X1*X1)) rfl
 · exact .inl ⟨_,by rw[HX hd];exact(Q1.fs hd e4 (ne e3)).1,by rw[e5,Aj hd,KJ,ER]⟩
 · refine .inr ⟨fs s k,?_,by rw[e5,ER]⟩;have g:=(Q1.fs hd e4 (ne e3)).1;rw[nT] at g;exact g
end
end Lift
namespace Lift
def IP.Gk{A:Rg}(I:IR A){d ε e:A.T}(h1:ε*e=1){b:Nat}(hB:I.Z b (ε*ε*d)):IP d where
 a:=I
 p:=I.ext h1 hB
 of {X z} h:=⟨h,by show I.Z X (0*e);rw[Rg.zero_mul];exact I.zero X⟩
 fst h:=h.1
 br {X z} h:=⟨h.1,by show I.Z X (-z.2*e);rw[Rg.neg_mul];exact I.neg h.2⟩
 cc:=by show I.c≤I.c+I.c+b+1;omega
theorem vV{A:Rg}{d:A.T}(x y:(A.ext d).T):nr (x*y)=nr x*nr y:=by
 show (x.1*y.1+x.2*y.2*d)*(x.1*y.1+x.2*y.2*d) -(x.1*y.2+x.2*y.1)*(x.1*y.2+x.2*y.1)*d=(x.1*x.1-x.2*x.2*d)*(y.1*y.1-y.2*y.2*d);exact Rg.bJ [x.1,x.2,y.1,y.2,d] ((X0*X2+X1*X3*X4)*(X0*X2+X1*X3*X4) -(X0*X3+X1*X2)*(X0*X3+X1*X2)*X4) ((X0*X0-X1*X1*X4)*(X2*X2-X3*X3*X4)) rfl
theorem Ea{x u:QR.T}(h:x*u=1):x≠0:=fun e=>by
 rw[e,Rg.zero_mul] at h;exact absurd (show (0:Rat)=1 from h) (by decide)
theorem Zq.NF{X:Nat}{q d:QR.T}(h:b6.Z X (q*d))(hd:b6.Z X d)(h0:d≠0):LQ q≤X:=Zq.lq h hd h0
section
variable {d ε e:QR.T} (h1:ε*e=1) {b:Nat} (hB:b6.Z b (ε*ε*d)) {X bε:Nat} (hε:b6.Z bε ε)
include hε
theorem iH.NG{z:(QR.ext d).T}(h:iH (IP.Gk b6 h1 hB) X z):LQ z.1≤X∧LQ z.2≤X+bε:=by
 obtain ⟨D,⟨d1,u,hu⟩,z1,z2⟩:=h;have hD:=Ea hu;rw[fJ] at z1;rw[lv] at z2;refine⟨Zq.NF z1 d1 hD,Zq.NF (d:=D) ?_ (b6.mono d1 (by omega)) hD⟩;have h3:=b6.mul z2 hε;rw[show z.2*D*e*ε=z.2*D*(ε*e) from Rg.bJ [z.2,D,e,ε] (X0*X1*X2*X3) (X0*X1*(X3*X2)) rfl,h1,Rg.mul_one] at h3;exact h3
variable {β ε' e':(QR.ext d).T} (h1':ε'*e'=1) {b':Nat} (hB':(b6.ext h1 hB).Z b' (ε'*ε'*β)) {bε':Nat} (hε':(b6.ext h1 hB).Z bε' ε')
include hε'
theorem iH.lq2{z:((QR.ext d).ext β).T}(h:iH (IP.Gk (b6.ext h1 hB) h1' hB') X z):LQ z.1.1≤X+X+(bε'+bε+(b+1)+(b+1))∧LQ z.1.2≤X+X+(bε'+bε+(b+1)+(b+1))∧LQ z.2.1≤X+X+(bε'+bε+(b+1)+(b+1))∧LQ z.2.2≤X+X+(bε'+bε+(b+1)+(b+1)):=by
 obtain ⟨D,⟨d1,u,hu⟩,z1,z2⟩:=h
 have hn:nr D*nr u=1:=by
  rw[← vV,hu];show (1*1-0*0*d:QR.T)=1;exact Rg.bJ [d] (1*1-0*0*X0) 1 rfl
 have hD:=Ea hn
 have hc:(b6.ext h1 hB).c=b+1:=by
  show 0+0+b+1=b+1;omega
 have dn:b6.Z (X+X+(b+1)) (nr D):=by
  have hb:(b6.ext h1 hB).Z X (br D):=⟨d1.1,by show b6.Z X (-D.2*e);rw[Rg.neg_mul];exact b6.neg d1.2⟩;have:=((b6.ext h1 hB).mul d1 hb).1;rw[← yQ,hc] at this;exact this
 have key: ∀(w:(QR.ext d).T) (Y:Nat),(b6.ext h1 hB).Z Y (w*D)→X≤Y→LQ w.1≤Y+X+(b+1)+bε∧LQ w.2≤Y+X+(b+1)+bε:=fun w Y hw hXY=>by
  have hb:(b6.ext h1 hB).Z X (br D):=⟨d1.1,by show b6.Z X (-D.2*e);rw[Rg.neg_mul];exact b6.neg d1.2⟩;have h3:=(b6.ext h1 hB).mul hw hb;rw[Rg.mul_assoc,← yQ,hc] at h3;obtain ⟨h4,h5⟩:=h3;rw[fJ] at h4;rw[lv] at h5;refine⟨Nat.le_trans (Zq.NF h4 (b6.mono dn (by omega)) hD) (by omega),Zq.NF (d:=nr D) ?_ (b6.mono dn (by omega)) hD⟩;have h6:=b6.mul h5 hε;rw[show w.2*nr D*e*ε=w.2*nr D*(ε*e) from Rg.bJ [w.2,nr D,e,ε] (X0*X1*X2*X3) (X0*X1*(X3*X2)) rfl,h1,Rg.mul_one] at h6;exact h6
 rw[fJ] at z1;rw[lv] at z2;have k1:=key z.1 X z1 (ai _);have h7:=(b6.ext h1 hB).mul z2 hε';rw[show z.2*D*e'*ε'=z.2*D*(ε'*e') from Rg.bJ [z.2,D,e',ε'] (X0*X1*X2*X3) (X0*X1*(X3*X2)) rfl,h1',Rg.mul_one,hc] at h7;have k2:=key z.2 (X+bε'+(b+1)) h7 (by omega);exact⟨by omega,by omega,by omega,by omega⟩
end
theorem uN(q:Rat):((q.den:Int):Rat)≠0:=fun e=>q.den_nz (Int.ofNat_eq_zero.1 (Rat.intCast_inj.1 e))
theorem EH(q:Rat):q*((q.den:Int):Rat)=(q.num:Rat):=by
 have h:q=(q.num:Rat) / ((q.den:Int):Rat):=by rw[← Rat.divInt_eq_div,Rat.num_divInt_den]
 have h2:=Rat.div_mul_cancel (a:=(q.num:Rat)) (uN q);rw[← h] at h2;exact h2
theorem Zq.den{X:Nat}{q:Rat}(h:LQ q≤X):Zq X ((q.den:Int):Rat)∧Zq X (q*((q.den:Int):Rat)):=by
 have h1:L q.num≤X:=by unfold LQ at h;omega
 have h2:(tw q.den).length≤X:=by unfold LQ at h;omega
 refine⟨⟨(q.den:Int),rfl,?_⟩,⟨q.num,EH q,?_⟩⟩
 · rw[Int.natAbs_natCast];exact Nat.lt_of_lt_of_le (eV _) (Nat.pow_le_pow_right (by decide) h2)
 · exact Nat.lt_of_lt_of_le (Dl _) (Nat.pow_le_pow_right (by decide) h1)
theorem Kv{s:Rat}:LQ s≤LQ (s*s):=by
 have hg:Nat.gcd (s.den*s.den) (s.num*s.num).natAbs=1:=by
  rw[Int.natAbs_mul];have:=s.reduced;have h1:Nat.Coprime s.den s.num.natAbs:=Nat.Coprime.symm this;exact Nat.Coprime.mul_left (Nat.Coprime.mul_right h1 h1) (Nat.Coprime.mul_right h1 h1)
 have hd0:s.den*s.den≠0:=Nat.mul_ne_zero s.den_nz s.den_nz
 have hn:(s*s).num=s.num*s.num:=by
  rw[Rat.mul_def',Rat.num_mkRat,if_neg hd0,hg];exact Int.ediv_one _
 have hd:(s*s).den=s.den*s.den:=by
  rw[Rat.mul_def',Rat.den_mkRat,if_neg hd0,hg];exact Nat.div_one _
 have a1:L s.num≤L (s*s).num:=by
  rw[hn];refine n9 ?_;rw[Int.natAbs_mul];by_cases h:s.num.natAbs=0
  · omega
  · exact Nat.le_mul_of_pos_left _ (by omega)
 have a2:(tw s.den).length≤(tw (s*s).den).length:=by
  rw[hd];refine gL (Nat.lt_of_le_of_lt ?_ (eV (s.den*s.den)));have:=s.den_nz;exact Nat.le_mul_of_pos_left _ (by omega)
 unfold LQ;omega
end Lift
namespace Lift
def ck(b:NQ)(k:Nat):QR.T:=cf b k
structure xR (X Xe N:Nat) (e:Nat→QR.T) (a:cI):Prop where
 r: ∀i,i<a.length→ ∃D:QR.T,D≠0∧b6.Z X D∧ ∀j,j<N→ ∀k,b6.Z X (ck (bm a i j) k*(D*e j))
 e: ∀j,j<N→b6.Z Xe (e j)∧e j≠0
def Kr(k:Nat)(a:cI):Prop:= ∀i j,aE k (bm a i j)
theorem Kr.of{k N:Nat}{b:cI}(hr:dq N b)(h1:1≤k)(h: ∀i j,i<b.length→j<N→aE k (bm b i j)):Kr k b:=fun i j=>by
 by_cases hi:i<b.length
 · by_cases hj:j<N
   · exact h i j hi hj
   · unfold bm;rw[rF (by rw[hr i hi];omega)];exact cL h1
 · unfold bm;rw[k7 (by omega)];exact cL h1
def sZ(v:List NQ)(a:cI)(N:Nat)(Q:Nat→NQ→Prop):Prop:= ∀c,c≤N→(∀i j,i<(aF v a c).rows.length→j<N→Q (aF v a c).cols.length (bm (aF v a c).rows i j))∧Q (aF v a c).cols.length (aF v a c).ia ∧
 (c<N→atR v (aF v a c) c<(aF v a c).rows.length→(∀i j,i<(aF v a c).rows.length→j<N→Q ((aF v a c).cols.length+1) (bm (eR v (aF v a c) c) i j))∧Q ((aF v a c).cols.length+1) (bZ v.length v (pR v (aF v a c) c)))
theorem sZ.and{v:List NQ}{a:cI}{N:Nat}{Q Q':Nat→NQ→Prop}(h:sZ v a N Q)(h':sZ v a N Q'):sZ v a N (fun p b=>Q p b∧Q' p b):=fun c hc =>
 ⟨fun i j hi hj=>⟨(h c hc).1 i j hi hj,(h' c hc).1 i j hi hj⟩,⟨(h c hc).2.1,(h' c hc).2.1⟩,fun h1 h2=>⟨fun i j hi hj=>⟨((h c hc).2.2 h1 h2).1 i j hi hj,((h' c hc).2.2 h1 h2).1 i j hi hj⟩,((h c hc).2.2 h1 h2).2,((h' c hc).2.2 h1 h2).2⟩⟩
theorem sZ.of{v:List NQ}{A:Rg}{d:A.T}{I:IP d}{F:FH v d}{a:cI}{N Xe:Nat}{e:Nat→A.T}{f:Nat→Nat}(he: ∀j,j<N→I.a.U Xe (e j))
  (h: ∀c,c≤N→mY I F (f (aF v a c).cols.length) N e (aF v a c)∧(c<N→atR v (aF v a c) c<(aF v a c).rows.length→mY I F (f ((aF v a c).cols.length+1)) N e (cQ v (aF v a c) c)∧(∀i,i<(aF v a c).rows.length→ic I (f ((aF v a c).cols.length+1)) N e (fun j=>F.φ (bm (eR v (aF v a c) c) i j)))∧iH I (f ((aF v a c).cols.length+1)) (F.φ (bZ v.length v (pR v (aF v a c) c))))):
  sZ v a N (fun p b=>iH I (f p+Xe+I.a.c) (F.φ b)):=fun c hc =>
 ⟨fun i j hi hj=>((h c hc).1.r i hi).Oe hj (he j hj),(h c hc).1.d.mono (by omega),fun h1 h2=>⟨fun i j hi hj=>(((h c hc).2 h1 h2).2.1 i hi).Oe hj (he j hj),((h c hc).2 h1 h2).2.2.mono (by omega)⟩⟩
def tN(v:List NQ)(a:cI)(N:Nat)(F:Nat→Nat):Prop:= ∀c,c≤N→Kr (F (aF v a c).cols.length) (aF v a c).rows∧aE (F (aF v a c).cols.length) (aF v a c).ia ∧
 (c<N→atR v (aF v a c) c<(aF v a c).rows.length→Kr (F ((aF v a c).cols.length+1)) (eR v (aF v a c) c)∧aE (F ((aF v a c).cols.length+1)) (bZ v.length v (pR v (aF v a c) c)))
theorem sZ.sz{v:List NQ}{a:cI}{N:Nat}{Q:Nat→NQ→Prop}{F:Nat→Nat}(V:pj v)(hr:dq N a)(hl:rO v.length a)(hF: ∀p,1≤F p)(h:sZ v a N Q)(hQ: ∀p b,aA v.length b→Q p b→aE (F p) b):tN v a N F:=fun c hc=>by
 have R:=kt V hr hl c;obtain ⟨h1,h2,h3⟩:=h c hc;refine⟨Kr.of R.rect (hF _) fun i j hi hj=>hQ _ _ (R.lt i j) (h1 i j hi hj),hQ _ _ R.ia h2,fun g1 g2=>?_⟩;obtain ⟨h4,h5⟩:=h3 g1 g2;obtain ⟨e1,e2,e3⟩:=yR V R g2;have hlen:=R.len;refine⟨Kr.of e2 (hF _) fun i j hi hj=>hQ _ _ (e3 i j) (h4 i j (by omega) hj),hQ _ _ (gC v.length ((rM R g2).2.2 _ c) V.ro (ai _)) h5⟩
end Lift
namespace Lift
theorem Ao{K K' X X':Nat}(hK:K≤K')(hX:X≤X'): ∀p,fP K X p≤fP K' X' p
 | 0=>hX
 | p+1=>by
   have:=Ao hK hX p;show 3*_+K≤3*_+K';omega
theorem EX(K X:Nat): ∀p,fP K X p≤gP K X p
 | 0=>ai _
 | p+1=>by
   have:=EX K X p;show 3*_+K≤3*_+2*_+K;omega
def Fz(X Xe p:Nat):Nat:=gP 168 (X+40) p+fP 168 (X+40) p+2*Xe+108
theorem lC{x:QR.T}(h:x≠0): ∃u,x*u=1:=by
 change Rat at x;exact⟨(x⁻¹ :Rat),Rat.mul_inv_cancel x h⟩
theorem bB{X Y:Nat}{x y:QR.T}(hx:b6.Z X x)(hy:b6.Z Y y):b6.Z (X+Y) (x*y):=Zq.mul hx hy
theorem qo{l k:Nat}{a:NQ}(ha:aA l a)(h1:1≤k)(h: ∀i,i<2^l→LQ (cf a i)≤k):aE k a:=fun i=>by
 by_cases hi:i<2^l
 · exact h i hi
 · have:cf a i=0:=aU ha.le i (by omega);show LQ (cf a i)≤k;rw[this,jm];exact h1
theorem xR.ia{A:Rg}{d:A.T}(I:IP d){X:Nat}(hX:1≤X):iH I X (1:(A.ext d).T):=⟨1,⟨I.a.mono I.a.one hX,1,Rg.mul_one 1⟩,by
 rw[lz,Rg.mul_one]
 exact I.p.mono I.p.one hX⟩
section
variable {m:Nat} {v:List NQ} (V:iJ m v) {a:cI} {N X Xe:Nat} {e:Nat→QR.T} (hr:dq N a) (hl:rO v.length a) (hM:xR X Xe N e a) (hX:1≤X) (hx:Xe≤X)
include V hr hl hM hX hx
theorem FK(h0:v.length=0):tN v a N (Fz X Xe):=by
 have h1:(1:QR.T)*1=1:=Rg.mul_one 1;have hB:b6.Z 0 ((1:QR.T)*1*0):=by rw[Rg.mul_zero];exact Zq.zero 0
 let I:IP (0:QR.T):=IP.Gk b6 h1 hB
 have he: ∀j,j<N→I.a.U Xe (e j):=fun j hj=>⟨(hM.e j hj).1,lC (hM.e j hj).2⟩
 have hz:mY I (Ob V h0) X N e ⟨a,[],1,[1]⟩:=by
  refine⟨fun i hi=>?_,by rw[(Ob V h0).one];exact xR.ia I hX⟩;obtain ⟨D,d0,d1,d2⟩:=hM.r i hi;refine⟨D,⟨d1,lC d0⟩,fun j hj=>⟨?_,?_⟩⟩
  · rw[fJ];exact d2 j hj 0
  · rw[lv];show b6.Z X ((0:QR.T)*(D*e j)*1);rw[Rg.zero_mul,Rg.zero_mul];exact Zq.zero X
 have hc:I.p.c=1:=rfl;refine(sZ.of he (mY.red (K:=168) V.a (Kd V h0) hr hl he hx hz (by omega))).sz V.a hr hl (fun p=>by unfold Fz;omega) fun p b hb h=>qo hb (by unfold Fz;omega) fun i hi=>?_;rw[h0] at hi;obtain rfl:i=0:=by have:i<1:=hi;omega
 have g:=(iH.NG h1 hB (bε:=1) Zq.one h).1;have h2:=Ao (ai 168) (show X≤X+40 by omega) p;have h3:=EX 168 (X+40) p;have hac:I.a.c=0:=rfl;refine Nat.le_trans (show LQ (cf b 0)≤_ from g) ?_;rw[hac];unfold Fz;omega
theorem FJ(h0:v.length=1)(hρ:dt 16 v):tN v a N (Fz X Xe):=by
 obtain ⟨z1,z2⟩:=Zq.den (hρ 0 0);have zn:=uN ((v.getD 0 []).getD 0 0);obtain ⟨δ,hδ⟩: ∃δ:QR.T,δ=((((v.getD 0 []).getD 0 0).den:Int):Rat):=⟨_,rfl⟩;rw[← hδ] at z1 z2 zn;obtain ⟨e0,h1⟩:=lC zn
 have hB:b6.Z 32 (δ*δ*dv v):=by
  rw[show δ*δ*dv v=δ*(dv v*δ) from Rg.bJ [δ,dv v] (X0*X0*X1) (X0*(X1*X0)) rfl];exact bB (Y:=16) z1 z2
 let I:IP (dv v):=IP.Gk b6 h1 hB
 have he: ∀j,j<N→I.a.U Xe (e j):=fun j hj=>⟨(hM.e j hj).1,lC (hM.e j hj).2⟩
 have hz:mY I (Oa V h0) (X+16) N e ⟨a,[],1,[1]⟩:=by
  refine⟨fun i hi=>?_,by rw[(Oa V h0).one];exact xR.ia I (by omega)⟩;obtain ⟨D,d0,d1,d2⟩:=hM.r i hi;refine⟨D*δ,⟨bB d1 z1,?_⟩,fun j hj=>⟨?_,?_⟩⟩
  · obtain ⟨u,hu⟩:=lC d0;exact⟨u*e0,by rw[show D*δ*(u*e0)=D*u*(δ*e0) from Rg.bJ [D,δ,u,e0] (X0*X1*(X2*X3)) (X0*X2*(X1*X3)) rfl,hu,h1,Rg.mul_one]⟩
  · rw[fJ];show b6.Z _ (ck (bm a i j) 0*(D*δ*e j));rw[show ck (bm a i j) 0*(D*δ*e j)=ck (bm a i j) 0*(D*e j)*δ from Rg.bJ [ck (bm a i j) 0,D,δ,e j] (X0*(X1*X2*X3)) (X0*(X1*X3)*X2) rfl];exact bB (d2 j hj 0) z1
  · rw[lv];show b6.Z _ (ck (bm a i j) 1*(D*δ*e j)*e0);rw[show ck (bm a i j) 1*(D*δ*e j)*e0=ck (bm a i j) 1*(D*e j)*(δ*e0) from Rg.bJ [ck (bm a i j) 1,D,δ,e j,e0] (X0*(X1*X2*X3)*X4) (X0*(X1*X3)*(X2*X4)) rfl,h1,Rg.mul_one];exact b6.mono (d2 j hj 1) (by omega)
 have hc:I.p.c=33:=rfl;refine(sZ.of he (mY.red (K:=168) V.a (Kc V h0) hr hl he (by omega) hz (by omega))).sz V.a hr hl (fun p=>by unfold Fz;omega) fun p b hb h=>qo hb (by unfold Fz;omega) fun i hi=>?_;rw[h0] at hi;have hi:i<2:=hi;obtain ⟨g1,g2⟩:=iH.NG h1 hB z1 h;have h2:=Ao (ai 168) (show X+16≤X+40 by omega) p;have h3:=EX 168 (X+40) p;have hac:I.a.c=0:=rfl;rw[hac] at g1 g2;rcases i with _ | _ | i
 · refine Nat.le_trans (show LQ (cf b 0)≤_ from g1) ?_;unfold Fz;omega
 · refine Nat.le_trans (show LQ (cf b 1)≤_ from g2) ?_;unfold Fz;omega
 · omega
end
end Lift
namespace Lift
theorem sV{X:Nat}{q:QR.T}(h:LQ q≤X): ∃δ e:QR.T,δ*e=1∧b6.Z X δ∧b6.Z X (q*δ):=by
 obtain ⟨z1,z2⟩:=Zq.den h;obtain ⟨e,he⟩:=lC (x:=((((show Rat from q).den:Int):Rat))) (uN q);exact⟨_,e,he,z1,z2⟩
theorem CH{X:Nat}{x y:QR.T}(hx:b6.Z X x)(hy:b6.Z X y):b6.Z (X+1) (x+y):=Zq.add hx hy
theorem cu{X Y:Nat}{x:QR.T}(hx:b6.Z X x)(h:X≤Y):b6.Z Y x:=Zq.mono hx h
section
variable {m:Nat} {v:List NQ} (V:iJ m v) {a:cI} {N X Xe:Nat} {e:Nat→QR.T} (hr:dq N a) (hl:rO v.length a) (hM:xR X Xe N e a) (hX:1≤X) (hx:Xe≤X)
include V hr hl hM hX hx
theorem FI(h0:v.length=2)(hρ:dt 8 v)(hns: ¬ ∃s:QR.T,s≠0∧s*s=dv v):tN v a N (Fz X Xe):=by
 obtain ⟨δ,e0,h1,z1,z2⟩:=sV (q:=dv v) (hρ 0 0);obtain ⟨q0,f0,u0,y0,y0'⟩:=sV (q:=(dH v).1) (hρ 1 0);obtain ⟨q1,f1,u1,y1,y1'⟩:=sV (q:=(dH v).2) (hρ 1 1)
 have hB:b6.Z 16 (δ*δ*dv v):=by
  rw[show δ*δ*dv v=δ*(dv v*δ) from Rg.bJ [δ,dv v] (X0*X0*X1) (X0*(X1*X0)) rfl];exact bB (Y:=8) z1 z2
 have hE:δ*q0*q1*(e0*f0*f1)=1:=by
  rw[show δ*q0*q1*(e0*f0*f1)=δ*e0*(q0*f0)*(q1*f1) from Rg.bJ [δ,q0,q1,e0,f0,f1] (X0*X1*X2*(X3*X4*X5)) (X0*X3*(X1*X4)*(X2*X5)) rfl,h1,u0,u1,Rg.mul_one,Rg.mul_one]
 have h1':em (d:=dv v) (δ*q0*q1)*em (e0*f0*f1)=1:=by rw[← a5,hE,lz]
 have zE:b6.Z 24 (δ*q0*q1):=bB (X:=16) (Y:=8) (bB (X:=8) (Y:=8) z1 y0) y1
 have hB':(b6.ext h1 hB).Z 48 (em (d:=dv v) (δ*q0*q1)*em (δ*q0*q1)*dH v):=by
  rw[← a5,Rg.mul_comm];constructor
  · rw[fJ,show (dH v).1*(δ*q0*q1*(δ*q0*q1))=(dH v).1*q0*q0*(q1*q1)*(δ*δ) from Rg.bJ [(dH v).1,δ,q0,q1] (X0*(X1*X2*X3*(X1*X2*X3))) (X0*X2*X2*(X3*X3)*(X1*X1)) rfl];exact bB (X:=32) (Y:=16) (bB (X:=16) (Y:=16) (bB (X:=8) (Y:=8) y0' y0) (bB (X:=8) (Y:=8) y1 y1)) (bB (X:=8) (Y:=8) z1 z1)
  · rw[lv,show (dH v).2*(δ*q0*q1*(δ*q0*q1))*e0=(dH v).2*q1*q1*(q0*q0)*δ*(δ*e0) from Rg.bJ [(dH v).2,δ,q0,q1,e0] (X0*(X1*X2*X3*(X1*X2*X3))*X4) (X0*X3*X3*(X2*X2)*X1*(X1*X4)) rfl,h1,Rg.mul_one];exact cu (bB (X:=32) (Y:=8) (bB (X:=16) (Y:=16) (bB (X:=8) (Y:=8) y1' y1) (bB (X:=8) (Y:=8) y0 y0)) z1) (by decide)
 let I:IP (dH v):=IP.Gk (b6.ext h1 hB) h1' hB'
 have emZ: ∀{Y:Nat} {z:QR.T},b6.Z Y z→I.a.Z Y (em z):=fun {Y z} hz=>⟨hz,by
  show b6.Z Y ((0:QR.T)*e0)
  rw[Rg.zero_mul];exact Zq.zero Y⟩
 have emU: ∀{z:QR.T},z≠0→ ∃u,em (d:=dv v) z*u=1:=fun {z} hz=>by
  obtain ⟨u,hu⟩:=lC hz;exact⟨em u,by rw[← a5,hu,lz]⟩
 have he: ∀j,j<N→I.a.U Xe (em (e j)):=fun j hj=>⟨emZ (hM.e j hj).1,emU (hM.e j hj).2⟩
 have hz:mY I (yN V h0) (X+40) N (fun j=>em (e j)) ⟨a,[],1,[1]⟩:=by
  refine⟨fun i hi=>?_,by rw[(yN V h0).one];exact xR.ia I (by omega)⟩;obtain ⟨D,d0,d1,d2⟩:=hM.r i hi;refine⟨em (D*(δ*q0*q1*δ)),⟨emZ (cu (bB d1 (bB (X:=24) (Y:=8) zE z1)) (by omega)),?_⟩,fun j hj=>?_⟩
  · obtain ⟨u,hu⟩:=lC d0;refine⟨em (u*(e0*f0*f1*e0)),?_⟩;rw[← a5,show D*(δ*q0*q1*δ)*(u*(e0*f0*f1*e0))=D*u*(δ*q0*q1*(e0*f0*f1))*(δ*e0) from Rg.bJ [D,δ,q0,q1,u,e0,f0,f1] (X0*(X1*X2*X3*X1)*(X4*(X5*X6*X7*X5))) (X0*X4*(X1*X2*X3*(X5*X6*X7))*(X1*X5)) rfl,hu,hE,h1,Rg.mul_one,Rg.mul_one,lz]
  · have d2:=d2 j hj
    dsimp only
    rw[← a5];generalize hc:(yN V h0).φ (bm a i j)=z;have c0:z.1.1=ck (bm a i j) 0:=by rw[← hc];rfl
    have c1:z.1.2=ck (bm a i j) 1:=by rw[← hc];rfl
    have c2:z.2.1=ck (bm a i j) 2:=by rw[← hc];rfl
    have c3:z.2.2=ck (bm a i j) 3:=by rw[← hc];rfl
    have g0:=d2 0;have g1:=d2 1;have g2:=d2 2;have g3:=d2 3;rw[← c0] at g0;rw[← c1] at g1;rw[← c2] at g2;rw[← c3] at g3;refine⟨⟨?_,?_⟩,?_⟩
    · rw[fJ,fJ,show z.1.1*(D*(δ*q0*q1*δ)*e j)=z.1.1*(D*e j)*(δ*q0*q1*δ) from Rg.bJ [z.1.1,D,δ*q0*q1*δ,e j] (X0*(X1*X2*X3)) (X0*(X1*X3)*X2) rfl];exact cu (bB g0 (bB (X:=24) (Y:=8) zE z1)) (by omega)
    · rw[fJ,lv,show z.1.2*(D*(δ*q0*q1*δ)*e j)*e0=z.1.2*(D*e j)*(δ*q0*q1)*(δ*e0) from Rg.bJ [z.1.2,D,δ*q0*q1,e j,δ,e0] (X0*(X1*(X2*X4)*X3)*X5) (X0*(X1*X3)*X2*(X4*X5)) rfl,h1,Rg.mul_one];exact cu (bB g1 zE) (by omega)
    · rw[lv,Rg.mul_assoc,← a5,show D*(δ*q0*q1*δ)*e j*(e0*f0*f1)=D*e j*δ*(δ*q0*q1*(e0*f0*f1)) from Rg.bJ [D,δ*q0*q1,δ,e j,e0*f0*f1] (X0*(X1*X2)*X3*X4) (X0*X3*X2*(X1*X4)) rfl,hE,Rg.mul_one];constructor
      · rw[fJ,show z.2.1*(D*e j*δ)=z.2.1*(D*e j)*δ from (Rg.mul_assoc _ _ _).symm];exact cu (bB g2 z1) (by omega)
      · rw[lv,show z.2.2*(D*e j*δ)*e0=z.2.2*(D*e j)*(δ*e0) from Rg.bJ [z.2.2,D*e j,δ,e0] (X0*(X1*X2)*X3) (X0*X1*(X2*X3)) rfl,h1,Rg.mul_one];exact cu g3 (by omega)
 have hc:I.p.c=83:=rfl;have hac:I.a.c=17:=rfl;refine(sZ.of he (mY.red (K:=168) V.a (Kb V h0 hns) hr hl he (by omega) hz (by omega))).sz V.a hr hl (fun p=>by unfold Fz;omega) fun p b hb h=>qo hb (by unfold Fz;omega) fun i hi=>?_;rw[h0] at hi;have hi:i<4:=hi;have zE':(b6.ext h1 hB).Z 24 (em (δ*q0*q1)):=emZ zE;obtain ⟨g0,g1,g2,g3⟩:=iH.lq2 h1 hB z1 h1' hB' zE' h;have h3:=EX 168 (X+40) p;rw[hac] at g0 g1 g2 g3;rcases i with _ | _ | _ | _ | i
 · refine Nat.le_trans (show LQ (cf b 0)≤_ from g0) ?_;unfold Fz;omega
 · refine Nat.le_trans (show LQ (cf b 1)≤_ from g1) ?_;unfold Fz;omega
 · refine Nat.le_trans (show LQ (cf b 2)≤_ from g2) ?_;unfold Fz;omega
 · refine Nat.le_trans (show LQ (cf b 3)≤_ from g3) ?_;unfold Fz;omega
 · omega
end
end Lift
namespace Lift
def tT(r:Nat):Nat→Nat→Nat
 | 0,s=>s
 | l+1,s=>tT r l s+tT r l (tT r l s+r)+1
theorem qm{r:Nat}: ∀{l s t:Nat},s≤t→tT r l s≤tT r l t
 | 0,_,_,h=>h
 | l+1,s,t,h=>by
   have h1:=qm (r:=r) (l:=l) h;have h2:=qm (r:=r) (l:=l) (Nat.add_le_add_right h1 r);show _+_+1≤_+_+1;omega
theorem qn(r:Nat): ∀(l s:Nat),s≤tT r l s
 | 0,s=>ai s
 | l+1,s=>by
   have h1:=qn r l s;show s≤tT r l s+_+1;omega
theorem GJ(r l s:Nat):2*s+1≤tT r (l+1) s:=by
 have h1:=qn r l s;have h2:=qn r l (tT r l s+r);show _≤tT r l s+tT r l (tT r l s+r)+1;omega
theorem j4{v:List NQ}{r:Nat}(hr:dt r v): ∀(l:Nat) {a b:Cf} {k m:Nat},(∀i,LQ (a i)≤k)→(∀i,LQ (b i)≤m)→ ∀i,LQ (mulC v l a b i)≤tT r l (k+m)
 | 0,a,b,k,m,ha,hb,i=>by
   show LQ (if i=0 then a 0*b 0 else 0)≤k+m;split
   · have:=s4 (a 0) (b 0);have:=ha 0;have:=hb 0;omega
   · have:=jm;have:=ha 0;have:=AH (a 0);omega
 | l+1,a,b,k,m,ha,hb,i=>by
   have h1:=j4 hr l ha hb;have h2:=j4 hr l (a:=bE l a) (b:=bE l b) (fun i=>ha _) (fun i=>hb _);have h3:=j4 hr l (a:=a) (b:=bE l b) ha (fun i=>hb _);have h4:=j4 hr l (a:=bE l a) (b:=b) (fun i=>ha _) hb;have h5:=j4 hr l (a:=mulC v l (bE l a) (bE l b)) (b:=cf (v.getD l [])) h2 (fun i=>hr l i);have h6:=qn r l (tT r l (k+m)+r);show LQ (if i<2^l then _ else _)≤tT r l (k+m)+tT r l (tT r l (k+m)+r)+1;split
   · have:=xc (mulC v l a b i) (mulC v l (mulC v l (bE l a) (bE l b)) (cf (v.getD l [])) i);have:=h1 i;have:=h5 i;omega
   · have:=xc (mulC v l a (bE l b) (i-2^l)) (mulC v l (bE l a) b (i-2^l));have:=h3 (i-2^l);have:=h4 (i-2^l);omega
theorem A2{v:List NQ}{r l k m:Nat}{a b:NQ}(hrt:cP v)(hr:dt r v)(hl:l≤v.length)(ha:aA l a)(sa:aE k a)(hb:aA l b)(sb:aE m b):aE (tT r l (k+m)) (aV l v a b):=fun i=>by
 show LQ (cf (aV l v a b) i)≤_;rw[(fB l ha hb hrt hl).2];exact j4 hr l sa sb i
theorem EC{v:List NQ}{r l j k:Nat}{a:NQ}(hrt:cP v)(hr:dt r v)(hj:j≤l)(hl:l<v.length)(ha:a.length=2^(j+1))(sa:aE k a):aE (tT r (l+1) (k+k)) (fi l v a):=fun i=>by
 show LQ (cf (fi l v a) i)≤_;have h2:=rb hj ha hrt hl
 have lowN:bO j (bp v j (cf a)):=fun i hi=>by
  unfold bp;rw[bj v j _ _ i hi,bj v j _ _ i hi];exact Rat.sub_self
 obtain ⟨e1,e2,e3⟩:=bF ha;rw[h2.2];have h3:=j4 hr j (a:=cf a) (b:=cf a) sa sa i;have h4:=j4 hr j (a:=bE j (cf a)) (b:=bE j (cf a)) (fun i=>sa _) (fun i=>sa _);have h5:=j4 hr j (a:=mulC v j (bE j (cf a)) (bE j (cf a))) (b:=cf (v.getD j [])) h4 (fun i=>hr j i) i
 have h6:LQ (bp v j (cf a) i)≤tT r (j+1) (k+k):=by
  have:=D6 (mulC v j (cf a) (cf a) i) (mulC v j (mulC v j (bE j (cf a)) (bE j (cf a))) (cf (v.getD j [])) i);show LQ (_-_)≤tT r j (k+k)+tT r j (tT r j (k+k)+r)+1;omega
 refine Nat.le_trans h6 ?_
 have up: ∀d s,tT r j s≤tT r (j+d) s:=fun d s=>by
  induction d with
  | zero=>exact ai _
  | succ d ih =>
    refine Nat.le_trans ih ?_;show tT r (j+d) s≤tT r (j+d) s+_+1;omega
 obtain ⟨d,rfl⟩: ∃d,l=j+d:=⟨l-j,by omega⟩;have u1:=up d (k+k);have u2:=up d (tT r j (k+k)+r);have u3:=qm (r:=r) (l:=j+d) (Nat.add_le_add_right u1 r);show tT r j (k+k)+tT r j (tT r j (k+k)+r)+1≤tT r (j+d) (k+k)+tT r (j+d) (tT r (j+d) (k+k)+r)+1;omega
def iQ(r:Nat):Nat→Nat→Nat
 | 0,k=>k+1
 | l+1,k=>tT r (l+1) (k+iQ r l (tT r (l+1) (k+k)))
theorem Ai{r:Nat}: ∀{l s t:Nat},s≤t→iQ r l s≤iQ r l t
 | 0,_,_,h=>Nat.succ_le_succ h
 | l+1,s,t,h=>by
   have h1:=Ai (r:=r) (l:=l) (qm (r:=r) (l:=l+1) (Nat.add_le_add h h));exact qm (by omega)
theorem KI(r:Nat): ∀(l k:Nat),k<iQ r l k
 | 0,k=>Nat.lt_succ_self k
 | l+1,k=>by
   have h1:=KI r l (tT r (l+1) (k+k));have h2:=qn r (l+1) (k+iQ r l (tT r (l+1) (k+k)));show k<tT r (l+1) _;omega
theorem AJ{q:Rat}{k:Nat}(h0:q≠0)(h:LQ q≤k):LQ (1 / q)≤k+1:=by
 have h1:=Mp (r:=1) h0;have h2:=gF;omega
theorem xX(l:Nat)(v:List NQ)(b:NQ):aV l v [] b=[]:=by
 have key: ∀R:NQ→NQ→NQ,kG (jN R v) [] b=[]:=fun R=>by
  unfold kG jN;split
  · rw[if_pos (by simp[bG])]
  · rw[if_pos (by simp[bG])]
 cases l with
 | zero=>exact key _
 | succ l=>exact key _
theorem LI{v:List NQ}{r:Nat}(hrt:cP v)(hr:dt r v): ∀(l:Nat) {k:Nat} {a:NQ},aA l a→l≤v.length→aE k a→aE (iQ r l k) (bZ l v a):=by
 have one: ∀{s:NQ} {l k:Nat},aA l s→w9 s→s.length=1→aE k s→aE (k+1) [1 / s.getD 0 0]:=fun {s l k} hs ht h1 sa i=>by
  cases i with
  | zero=>exact AJ (ht.one h1) (sa 0)
  | succ i=>exact oc (Nat.le_add_left _ _)
 intro l
 induction l with
 | zero =>
   intro k a ha hl sa;have hs:=bh ha sa;have ht:=gO ha;show aE (k+1) (kJ _ _ _ _ (aD a));generalize aD a=s at *;unfold kJ;split
   · rename_i h1;exact one hs.1 ht h1 hs.2
   · split
     · exact cL (Nat.le_add_left _ _)
     · exact cL (Nat.le_add_left _ _)
 | succ l ih =>
   intro k a ha hl sa;obtain ⟨hs,sa⟩:=bh ha sa;have ht:=gO ha;show aE (iQ r (l+1) k) (kJ (bZ l v) (et l v) (fi l v) (aV (l+1) v) (aD a));generalize aD a=s at *;have hk:=KI r (l+1) k;unfold kJ;by_cases h1:s.length=1
   · rw[if_pos h1];exact(one hs ht h1 sa).mono hk
   rw[if_neg h1];by_cases h0:s.length=0
   · rw[List.length_eq_zero_iff.1 h0]
     have en:fi l v []=[]:=by
      show aX (aV l v [] []) (aZ (aV l v (aV l v [] []) (v.getD ((0:Nat).log2-1) [])))=[];rw[xX,xX];rfl
     have es:et l v []=0:=by cases l<;>rfl
     rw[en,if_pos es];have h3:=ih (cg l) (by omega) (cL (k:=1) (ai _));refine h3.mono ?_;have hk1:=sa.pos;have h5:iQ r l 1≤iQ r l (tT r (l+1) (k+k)):=Ai (by have:=qn r (l+1) (k+k);omega);have h6:=qn r (l+1) (k+iQ r l (tT r (l+1) (k+k)));show iQ r l 1≤tT r (l+1) _;omega
   obtain ⟨j,hj,hsl⟩: ∃j,j≤l∧s.length=2^(j+1):=by
    rcases hs with e | ⟨i,hi,e⟩
    · exact absurd e h0
    · rcases i with _ | j
      · exact absurd e h1
      · exact⟨j,by omega,e⟩
   obtain ⟨e1,e2,e3⟩:=bF hsl;have hx:aA l (s.take (s.length / 2)):= .inr ⟨j,hj,e1⟩;have hn:=uG hj hsl hrt (show l<v.length by omega);have sn:=EC hrt hr hj (show l<v.length by omega) hsl sa;split
   · have h3:=ih (hx.plus hx) (by omega) ((sa.take _).plus (sa.take _));refine h3.mono ?_;have h4:=GJ r l (k+k);have h5:iQ r l (k+k+1)≤iQ r l (tT r (l+1) (k+k)):=Ai (by omega);have h6:=qn r (l+1) (k+iQ r l (tT r (l+1) (k+k)));show iQ r l (k+k+1)≤tT r (l+1) _;omega
   · have h3:=ih hn (by omega) sn
     have hjl:aA (l+1) (dR (s.take (s.length / 2)) (aZ (s.drop (s.length / 2))) (s.length / 2)):= .inr ⟨j+1,by omega,by
      rw[dL]
      omega⟩
     exact A2 hrt hr hl hjl (((sa.take _).join (sa.drop _).minus _)) ((gC l hn hrt (by omega)).mono (Nat.le_succ l)) h3
end Lift
namespace Lift
theorem EP{p q S:Rat}{k m:Nat}(hs:0<S)(h1:LQ (p+S*q)≤k)(h2:LQ (p+ -S*q)≤m)(hS:LQ S≤8):LQ p≤k+m+12∧LQ q≤k+m+12:=by
 have two:LQ 2≤1:=by
  have h1:=K2 2;have h2:=D5 (z:=2) (k:=1) (by decide);exact Nat.le_trans h1 (by omega)
 have hS0:S≠0:=fun e=>by rw[e] at hs;exact absurd hs (by decide)
 have h2S:2*S≠0:=fun e=>by
  rcases Rat.mul_eq_zero.1 e with g | g
  · exact absurd g (by decide)
  · exact hS0 g
 have a1:=AJ (q:=2) (k:=1) (by decide) two;have a2:LQ (1 / (2*S))≤10:=AJ (k:=9) h2S (by have:=s4 2 S;omega);have b1:=xc (p+S*q) (p+ -S*q);have b2:=D6 (p+S*q) (p+ -S*q);have e1:p=(p+S*q+(p+ -S*q))*(1 / 2):=by grind
 have e2:q=(p+S*q-(p+ -S*q))*(1 / (2*S)):=by
  have:=Rat.mul_inv_cancel (2*S) h2S;rw[Rat.div_def]
  grind
 have c1:=s4 (p+S*q+(p+ -S*q)) (1 / 2);have c2:=s4 (p+S*q-(p+ -S*q)) (1 / (2*S));rw[← e1] at c1;rw[← e2] at c2;constructor<;>omega
theorem A7{v:List NQ}(hρ:dt 8 v){σ:QR.T}(hσ:LQ σ≤8): ∃(E G τ:QR.T) (hE:E*G=1) (hB:b6.Z 49 (E*E*fs σ (dH v))),b6.Z 24 E∧b6.Z 8 τ∧b6.Z 8 (σ*τ)∧ ∃t,τ*t=1:=by
 obtain ⟨q0,f0,u0,y0,y0'⟩:=sV (q:=(dH v).1) (hρ 1 0);obtain ⟨q1,f1,u1,y1,y1'⟩:=sV (q:=(dH v).2) (hρ 1 1);obtain ⟨τ,t,ut,yt,yt'⟩:=sV (q:=σ) hσ
 have hE:q0*q1*τ*(f0*f1*t)=1:=by
  rw[show q0*q1*τ*(f0*f1*t)=q0*f0*(q1*f1)*(τ*t) from Rg.bJ [q0,q1,τ,f0,f1,t] (X0*X1*X2*(X3*X4*X5)) (X0*X3*(X1*X4)*(X2*X5)) rfl,u0,u1,ut,Rg.mul_one,Rg.mul_one]
 refine⟨q0*q1*τ,f0*f1*t,τ,hE,?_,bB (X:=16) (Y:=8) (bB (X:=8) (Y:=8) y0 y1) yt,yt,yt',t,ut⟩;show b6.Z 49 (q0*q1*τ*(q0*q1*τ)*((dH v).1+σ*(dH v).2));rw[show q0*q1*τ*(q0*q1*τ)*((dH v).1+σ*(dH v).2)=(dH v).1*q0*q0*(q1*q1)*(τ*τ)+(dH v).2*q1*q1*(q0*q0)*(τ*(σ*τ)) from Rg.bJ [q0,q1,τ,(dH v).1,σ,(dH v).2] (X0*X1*X2*(X0*X1*X2)*(X3+X4*X5)) (X3*X0*X0*(X1*X1)*(X2*X2)+X5*X1*X1*(X0*X0)*(X2*(X4*X2))) rfl];refine CH (X:=48) ?_ ?_
 · exact bB (X:=32) (Y:=16) (bB (X:=16) (Y:=16) (bB (X:=8) (Y:=8) y0' y0) (bB (X:=8) (Y:=8) y1 y1)) (bB (X:=8) (Y:=8) yt yt)
 · exact bB (X:=32) (Y:=16) (bB (X:=16) (Y:=16) (bB (X:=8) (Y:=8) y1' y1) (bB (X:=8) (Y:=8) y0 y0)) (bB (X:=8) (Y:=8) yt yt')
section
variable {m:Nat} {v:List NQ} (V:iJ m v) {a:cI} {N X Xe:Nat} {e:Nat→QR.T} (hM:xR X Xe N e a) (hX:1≤X)
include hM hX
theorem A6(h0:v.length=2){σ:QR.T}(hd:σ*σ=dv v){E G τ:QR.T}(hE:E*G=1)(hB:b6.Z 49 (E*E*fs σ (dH v)))(zE:b6.Z 24 E)(zt:b6.Z 8 τ)(zs:b6.Z 8 (σ*τ))(ht: ∃t,τ*t=1):
  mY (IP.Gk b6 hE hB) (KO hd V h0) (X+40) N e ⟨a,[],1,[1]⟩:=by
 refine⟨fun i hi=>?_,by rw[(KO hd V h0).one];exact xR.ia _ (by omega)⟩;obtain ⟨D,d0,d1,d2⟩:=hM.r i hi;refine⟨D*(E*τ),⟨cu (bB d1 (bB (X:=24) (Y:=8) zE zt)) (by omega),?_⟩,fun j hj=>?_⟩
 · obtain ⟨u,hu⟩:=lC d0;obtain ⟨t,ht⟩:=ht;exact⟨u*(G*t),by rw[show D*(E*τ)*(u*(G*t))=D*u*(E*G)*(τ*t) from Rg.bJ [D,E,τ,u,G,t] (X0*(X1*X2)*(X3*(X4*X5))) (X0*X3*(X1*X4)*(X2*X5)) rfl,hu,hE,ht,Rg.mul_one,Rg.mul_one]⟩
 · have d2:=d2 j hj;have c0:((KO hd V h0).φ (bm a i j)).1=ck (bm a i j) 0+σ*ck (bm a i j) 1:=rfl;have c1:((KO hd V h0).φ (bm a i j)).2=ck (bm a i j) 2+σ*ck (bm a i j) 3:=rfl
   dsimp only
   generalize (KO hd V h0).φ (bm a i j)=z at c0 c1;have g0:=d2 0;have g1:=d2 1;have g2:=d2 2;have g3:=d2 3;generalize ck (bm a i j) 0=x0 at *;generalize ck (bm a i j) 1=x1 at *;generalize ck (bm a i j) 2=x2 at *;generalize ck (bm a i j) 3=x3 at *;constructor
   · rw[fJ,c0,show (x0+σ*x1)*(D*(E*τ)*e j)=x0*(D*e j)*(E*τ)+x1*(D*e j)*(E*(σ*τ)) from Rg.bJ [x0,σ,x1,D,E,τ,e j] ((X0+X1*X2)*(X3*(X4*X5)*X6)) (X0*(X3*X6)*(X4*X5)+X2*(X3*X6)*(X4*(X1*X5))) rfl];exact cu (CH (bB g0 (bB (X:=24) (Y:=8) zE zt)) (bB g1 (bB (X:=24) (Y:=8) zE zs))) (by omega)
   · rw[lv,c1,show (x2+σ*x3)*(D*(E*τ)*e j)*G=(x2*(D*e j)*τ+x3*(D*e j)*(σ*τ))*(E*G) from Rg.bJ [x2,σ,x3,D*e j,E,τ,G] ((X0+X1*X2)*(X3*(X4*X5))*X6) ((X0*X3*X5+X2*X3*(X1*X5))*(X4*X6)) rfl |> (show (x2+σ*x3)*(D*(E*τ)*e j)*G=(x2+σ*x3)*(D*e j*(E*τ))*G from Rg.bJ [x2+σ*x3,D,E*τ,e j,G] (X0*(X1*X2*X3)*X4) (X0*(X1*X3*X2)*X4) rfl).trans,hE,Rg.mul_one];exact cu (CH (bB g2 zt) (bB g3 zs)) (by omega)
variable (hr:dq N a) (hl:rO v.length a) (hx:Xe≤X)
include V hr hl hx
theorem yq(h0:v.length=2)(hρ:dt 8 v){s:QR.T}(hs:(0:Rat)<s)(hd:s*s=dv v):tN v a N (Fz X Xe):=by
 have ls:LQ s≤8:=by
  have h1:=Kv (s:=(s:Rat));have h2:LQ (dv v)≤8:=hρ 0 0;rw[← hd] at h2;exact Nat.le_trans h1 h2
 have ls':LQ (-s)≤8:=by
  have h1:=AI (s:Rat);have h1:LQ (-s)=LQ s:=h1;omega
 obtain ⟨E,G,τ,hE,hB,zE,zt,zs,ht⟩:=A7 hρ ls;obtain ⟨E',G',τ',hE',hB',zE',zt',zs',ht'⟩:=A7 hρ ls';have st:=A6 V hM hX h0 hd hE hB zE zt zs ht;have st':=A6 V hM hX h0 (vZ hd) hE' hB' zE' zt' zs' ht';have he: ∀j,j<N→b6.U Xe (e j):=fun j hj=>⟨(hM.e j hj).1,lC (hM.e j hj).2⟩;have r1:=sZ.of (I:=IP.Gk b6 hE hB) he (mY.red (K:=168) V.a (EW V h0 hs hd) hr hl he (by omega) st (show 50+50+2≤168 by decide));have r2:=sZ.of (I:=IP.Gk b6 hE' hB') he (mY.NX (K:=168) (kk:=100) (I':=IP.Gk b6 hE hB) (I:=IP.Gk b6 hE' hB') V.a rfl (EW V h0 hs hd) (H9 V h0 hs hd) hr hl he (by omega) st st' (show 50+50+2≤168 by decide) (show 50+0+0≤100 by decide) (show 50+50+0≤100 by decide) (show 100+50+2≤168 by decide));refine(r1.and r2).sz V.a hr hl (fun p=>by unfold Fz;omega) fun p b hb h=>qo hb (by unfold Fz;omega) fun i hi=>?_;rw[h0] at hi;have hi:i<4:=hi;obtain ⟨h1,h2⟩:=h;obtain ⟨a1,a2⟩:=iH.NG hE hB zE h1;obtain ⟨b1,b2⟩:=iH.NG hE' hB' zE' h2;obtain ⟨S,hS⟩: ∃S:Rat,S=s:=⟨_,rfl⟩;have k1:=EP (p:=cf b 0) (q:=cf b 1) (S:=s) hs a1 b1 ls;have k2:=EP (p:=cf b 2) (q:=cf b 3) (S:=s) hs a2 b2 ls;have hac:(IP.Gk b6 hE hB).a.c=0:=rfl;have hac':(IP.Gk b6 hE' hB').a.c=0:=rfl;rw[hac,hac'] at k1 k2;rcases i with _ | _ | _ | _ | i
 · refine Nat.le_trans k1.1 ?_;unfold Fz;omega
 · refine Nat.le_trans k1.2 ?_;unfold Fz;omega
 · refine Nat.le_trans k2.1 ?_;unfold Fz;omega
 · refine Nat.le_trans k2.2 ?_;unfold Fz;omega
 · omega
theorem Bn(l2:v.length≤2)(hρ:dt 16 v)(hρ2:v.length=2→dt 8 v):tN v a N (Fz X Xe):=by
 by_cases h0:v.length=0
 · exact FK V hr hl hM hX hx h0
 by_cases h1:v.length=1
 · exact FJ V hr hl hM hX hx h1 hρ
 have h2:v.length=2:=by omega
 by_cases hs: ∃s:QR.T,s≠0∧s*s=dv v
 · obtain ⟨s,hs0,hd⟩:=hs;by_cases hp:(0:Rat)<s
   · exact yq V hM hX hr hl hx h2 (hρ2 h2) hp hd
   · refine yq V hM hX hr hl hx h2 (hρ2 h2) (s:= -s) ?_ (vZ hd);change Rat at s;have hs0:s≠0:=hs0;show 0< -s
     grind
 · exact FI V hr hl hM hX hx h2 (hρ2 h2) hs
end
end Lift
namespace Lift
def cq(x:Rat):QR.T:=x
def gY(X:Nat)(D:QR.T)(z:Cf):Prop:= ∀i,b6.Z X (cq (z i)*D)
theorem AM(X:Nat):b6.Z X (0:QR.T):=Zq.zero X
theorem My{X:Nat}{x:QR.T}(h:b6.Z X x):b6.Z X (-x):=Zq.neg h
theorem Je:b6.Z 1 (1:QR.T):=Zq.one
theorem cW{x y:QR.T}(hx:x≠0)(hy:y≠0):x*y≠0:=fun e=>by
 rcases Fl e with g | g
 · exact hx g
 · exact hy g
theorem oP:(1:QR.T)≠0:=fun e=>absurd (show (1:Rat)=0 from e) (by decide)
theorem gY.mono{X Y:Nat}{D:QR.T}{z:Cf}(h:gY X D z)(hx:X≤Y):gY Y D z:=fun i=>cu (h i) hx
theorem gY.scale{X Y:Nat}{D t:QR.T}{z:Cf}(h:gY X D z)(ht:b6.Z Y t):gY (X+Y) (D*t) z:=fun i=>by
 rw[← Rg.mul_assoc];exact bB (h i) ht
theorem gY.Lp{X Y:Nat}{D t:QR.T}{z:Cf}(h:gY X D z)(ht:b6.Z Y t):gY (X+Y) (t*D) z:=by
 rw[Rg.mul_comm];exact h.scale ht
theorem gY.zero(X:Nat)(D:QR.T):gY X D zC:=fun i=>by
 show b6.Z X ((0:QR.T)*D);rw[Rg.zero_mul];exact AM X
theorem gY.add{X:Nat}{D:QR.T}{x y:Cf}(hx:gY X D x)(hy:gY X D y):gY (X+1) D (fun i=>x i+y i):=fun i=>by
 show b6.Z (X+1) ((cq (x i)+cq (y i))*D);rw[Rg.add_mul];exact CH (hx i) (hy i)
theorem gY.sub{X:Nat}{D:QR.T}{x y:Cf}(hx:gY X D x)(hy:gY X D y):gY (X+1) D (fun i=>x i-y i):=fun i=>by
 show b6.Z (X+1) (cq (x i-y i)*D);rw[show cq (x i-y i)=cq (x i)+ -cq (y i) from Rat.sub_eq_add_neg ..,Rg.add_mul,Rg.neg_mul];exact CH (hx i) (My (hy i))
theorem gY.neg{X:Nat}{D:QR.T}{x:Cf}(hx:gY X D x):gY X D (fun i=> -x i):=fun i=>by
 show b6.Z X (-cq (x i)*D);rw[Rg.neg_mul];exact My (hx i)
theorem gY.hi{X:Nat}{D:QR.T}{x:Cf}(l:Nat)(hx:gY X D x):gY X D (bE l x):=fun i=>hx _
def Rl(u:Nat):Nat→Nat
 | 0=>1
 | l+1=>Rl u l+Rl u l+u+1
def Oq(u:Nat)(v:List NQ):Prop:= ∀j,j<v.length→ ∃B:QR.T,B≠0∧b6.Z u B∧gY u B (cf (v.getD j []))
theorem gY.mul{u:Nat}{v:List NQ}(hv:Oq u v): ∀l,l≤v.length→ ∃ρ:QR.T,ρ≠0∧b6.Z (Rl u l) ρ∧ ∀(X Y:Nat) (D E:QR.T) (x y:Cf),gY X D x→gY Y E y→gY (X+Y+Rl u l) (D*E*ρ) (mulC v l x y)
 | 0,_=>⟨1,oP,Je,fun X Y D E x y hx hy i=>by
   rw[Rg.mul_one];show b6.Z (X+Y+1) (cq (if i=0 then x 0*y 0 else 0)*(D*E));split
   · show b6.Z (X+Y+1) (cq (x 0)*cq (y 0)*(D*E));rw[show cq (x 0)*cq (y 0)*(D*E)=cq (x 0)*D*(cq (y 0)*E) from Rg.bJ [cq (x 0),cq (y 0),D,E] (X0*X1*(X2*X3)) (X0*X2*(X1*X3)) rfl];exact cu (bB (hx 0) (hy 0)) (by omega)
   · show b6.Z (X+Y+1) ((0:QR.T)*(D*E))
     rw[Rg.zero_mul];exact AM _⟩
 | l+1,hl=>by
   obtain ⟨ρ,r0,rz,ih⟩:=gY.mul hv l (by omega);obtain ⟨B,b0,bz,hB⟩:=hv l (by omega);have er:Rl u (l+1)=Rl u l+Rl u l+u+1:=rfl;refine⟨ρ*(ρ*B),cW r0 (cW r0 b0),cu (bB rz (bB rz bz)) (by omega),fun X Y D E x y hx hy i=>?_⟩;have h1:=ih X Y D E x y hx hy;have h2:=ih X Y D E _ _ (hx.hi l) (hy.hi l);have h3:=ih _ u _ B _ _ h2 hB;have h4:=ih X Y D E _ _ hx (hy.hi l);have h5:=ih X Y D E _ _ (hx.hi l) hy;have s:=bB rz bz;rw[show D*E*(ρ*(ρ*B))=D*E*ρ*(ρ*B) from (Rg.mul_assoc _ _ _).symm];show b6.Z _ (cq (if i<2^l then mulC v l x y i+mulC v l (mulC v l (bE l x) (bE l y)) (cf (v.getD l [])) i else mulC v l x (bE l y) (i-2^l)+mulC v l (bE l x) y (i-2^l))*(D*E*ρ*(ρ*B)));split
   · have a1:=h1.scale s i;have a2:=h3 i;rw[show D*E*ρ*B*ρ=D*E*ρ*(ρ*B) from Rg.bJ [D*E*ρ,B,ρ] (X0*X1*X2) (X0*(X2*X1)) rfl] at a2;show b6.Z _ ((cq (mulC v l x y i)+cq (mulC v l (mulC v l (bE l x) (bE l y)) (cf (v.getD l [])) i))*_);rw[Rg.add_mul];exact cu (CH (cu a1 (show X+Y+Rl u l+(Rl u l+u)≤X+Y+Rl u l+u+Rl u l by omega)) a2) (by omega)
   · have a1:=h4.scale s (i-2^l);have a2:=h5.scale s (i-2^l);show b6.Z _ ((cq (mulC v l x (bE l y) (i-2^l))+cq (mulC v l (bE l x) y (i-2^l)))*_);rw[Rg.add_mul];exact cu (CH a1 a2) (by omega)
theorem v5(v:List NQ)(q:Rat): ∀(l:Nat) (x:Cf),mulC v l x (qD q)=fun i=>if i<2^l then x i*q else 0
 | 0,x=>funext fun i=>by
   show (if i=0 then x 0*q else 0)=if i<1 then x i*q else 0
   by_cases h:i=0
   · rw[if_pos h,if_pos (by omega),h]
   · rw[if_neg h,if_neg (by omega)]
 | l+1,x=>funext fun i=>by
   have hz:bE l (qD q)=zC:=funext fun k=>by
    have:0<2^l:=Nat.pow_pos (by decide);exact if_neg (by omega)
   have z1:mulC v l (mulC v l (bE l x) (bE l (qD q))) (cf (v.getD l []))=zC:=by
    rw[hz,bY v l (a:=bE l x) (b:=zC) (.inr fun _ _=>rfl),bY v l (a:=zC) (.inl fun _ _=>rfl)]
   have z2:mulC v l x (bE l (qD q))=zC:=by
    rw[hz,bY v l (a:=x) (b:=zC) (.inr fun _ _=>rfl)]
   show (if i<2^l then mulC v l x (qD q) i+mulC v l (mulC v l (bE l x) (bE l (qD q))) (cf (v.getD l [])) i else mulC v l x (bE l (qD q)) (i-2^l)+mulC v l (bE l x) (qD q) (i-2^l))=_;rw[z1,z2,v5 v q l x,v5 v q l (bE l x)];have e:2^(l+1)=2^l+2^l:=by rw[Nat.pow_succ];omega
   by_cases h:i<2^l
   · rw[if_pos h,if_pos (by omega)]
     dsimp only
     rw[if_pos h];exact Rat.add_zero _
   · rw[if_neg h];show (0:Rat)+(if i-2^l<2^l then x (2^l+(i-2^l))*q else 0)=_;rw[Rat.zero_add,show 2^l+(i-2^l)=i by omega];by_cases h2:i<2^(l+1)
     · rw[if_pos h2,if_pos (by omega)]
     · rw[if_neg h2,if_neg (by omega)]
theorem L7(q:Rat):cf (sj q)=qD q:=by
 unfold sj;split
 · rename_i h;rw[h]
   exact funext fun i=>by
    show (0:Rat)=if i=0 then 0 else 0
    split<;>rfl
 · exact DY q
def CZ(X:Nat)(D:QR.T)(a:NQ):Prop:=gY X D (cf a)
section
variable {m:Nat} {v:List NQ} (V:iJ m v) {X Y:Nat} {D E t:QR.T} {a b:NQ} (ha:aA v.length a)
include V ha
omit V in
theorem CZ.add(hb:aA v.length b)(h:CZ X D a)(g:CZ X D b):CZ (X+1) D (w7 a b):=by
 unfold CZ w7;rw[bf (ha.plus hb),show cf (aX a b)=fun i=>cf a i+cf b i from funext fun i=>dY a b i];exact gY.add h g
omit V in
theorem CZ.sub(hb:aA v.length b)(h:CZ X D a)(g:CZ X D b):CZ (X+1) D (gv a b):=by
 unfold CZ;rw[E9 ha hb];exact gY.sub h g
omit V in
theorem CZ.neg(h:CZ X D a):CZ X D (kA a):=by
 unfold CZ kA;rw[bf ha.minus,show cf (aZ a)=fun i=> -cf a i from funext fun i=>iF a i];exact gY.neg h
theorem CZ.JU{q:Rat}(hq:b6.Z Y (cq q*t))(h:CZ X D a):CZ (X+Y) (D*t) (fT v a (sj q)):=by
 have hb:aA v.length (sj q):=(lg v.length (ai _)).1;unfold CZ;rw[AB V ha hb,L7,v5];intro i
 dsimp only
 split
 · show b6.Z (X+Y) (cq (cf a i)*cq q*(D*t));rw[show cq (cf a i)*cq q*(D*t)=cq (cf a i)*D*(cq q*t) from Rg.bJ [cq (cf a i),cq q,D,t] (X0*X1*(X2*X3)) (X0*X2*(X1*X3)) rfl];exact bB (h i) hq
 · show b6.Z (X+Y) ((0:QR.T)*(D*t));rw[Rg.zero_mul];exact AM _
end
theorem CZ.mul{m u:Nat}{v:List NQ}(V:iJ m v)(hv:Oq u v): ∃ρ:QR.T,ρ≠0∧b6.Z (Rl u v.length) ρ∧ ∀(X Y:Nat) (D E:QR.T) (a b:NQ),aA v.length a→aA v.length b→CZ X D a→CZ Y E b→CZ (X+Y+Rl u v.length) (D*E*ρ) (fT v a b):=by
 obtain ⟨ρ,h0,hz,h⟩:=gY.mul hv v.length (ai _);refine⟨ρ,h0,hz,fun X Y D E a b ha hb ga gb=>?_⟩;unfold CZ;rw[AB V ha hb];exact h X Y D E _ _ ga gb
theorem CZ.nil(X:Nat)(D:QR.T):CZ X D []:=gY.zero X D
theorem CZ.one{X:Nat}{D:QR.T}(h:b6.Z X D):CZ X D [1]:=fun i=>by
 rw[DY];show b6.Z X (cq (if i=0 then 1 else 0)*D);split
 · show b6.Z X ((1:QR.T)*D);rw[Rg.one_mul];exact h
 · show b6.Z X ((0:QR.T)*D);rw[Rg.zero_mul];exact AM X
end Lift
namespace Lift
def jV:List RD→Nat
 | []=>0
 | x::r=>x.n.length+x.d.length+jV r
theorem Ed: ∀{r:List RD} {n:Nat},Gi r n<100→Gi r n=n+jV r
 | [],n,_=>rfl
 | x::r,n,h=>by
   by_cases hn:n<100
   · have e:Gi (x::r) n=Gi r (n+(x.n.length+x.d.length)):=if_pos hn;rw[e] at h ⊢;rw[Ed h];show _=n+(x.n.length+x.d.length+jV r);omega
   · have e:Gi (x::r) n=n:=if_neg hn;rw[e] at h;exact absurd h hn
theorem y4: ∀(r:List RD) (i:Nat),(r.getD i default).n.length+(r.getD i default).d.length≤jV r
 | [],i=>ai _
 | x::r,0=>by show x.n.length+x.d.length≤x.n.length+x.d.length+jV r;omega
 | x::r,i+1=>by
   have:=y4 r i;show (r.getD i default).n.length+(r.getD i default).d.length≤x.n.length+x.d.length+jV r;omega
theorem gh{r:List RD}(h:ed r<100):ed r=jV r:=by
 have:=Ed (r:=r) (n:=0) h;unfold ed;omega
theorem z8(f:Nat→Nat)(n:Nat): ∀k,n≤sv f n k
 | 0=>ai _
 | k+1=>Nat.le_trans (z8 f n k) (Nat.le_max_left _ _)
theorem z6(f:Nat→Nat)(n:Nat): ∀{k j:Nat},j<k→f j≤sv f n k
 | k+1,j,h=>by
   show f j≤max (sv f n k) (f k);by_cases e:j=k
   · rw[e];exact Nat.le_max_right _ _
   · exact Nat.le_trans (z6 f n (show j<k by omega)) (Nat.le_max_left _ _)
theorem Cs(bs:List Body): ∀{i j:Nat},i≤j→rL bs i≤rL bs j
 | i,0,h=>by rw[show i=0 by omega];exact ai _
 | i,j+1,h=>by
   by_cases e:i=j+1
   · rw[e];exact ai _
   · exact Nat.le_trans (Cs bs (show i≤j by omega)) (z8 _ _ _)
theorem IN(bs:List Body){i k:Nat}(hi:i<bs.length)(hk:k<(bs.getD i default).pts.length):Ab ((bs.getD i default).pts.getD k default)≤rL bs bs.length :=
 Nat.le_trans (z6 (fun k=>Ab ((bs.getD i default).pts.getD k default)) (rL bs i) hk) (Cs bs (show i+1≤bs.length by omega))
theorem qY(bs:List fu)(n:Nat): ∀k,n≤nC bs n k
 | 0=>ai _
 | k+1=>by
   have:=qY bs n k;show n≤max (max (max (max (nC bs n k) _) _) _) _;omega
theorem zJ(bs:List fu)(n:Nat): ∀{k j:Nat},j<k→ed (bs.getD j default).c≤nC bs n k∧ed (bs.getD j default).s≤nC bs n k∧ed (bs.getD j default).x≤nC bs n k∧ed (bs.getD j default).y≤nC bs n k
 | k+1,j,h=>by
   have e1:nC bs n (k+1)=max (max (max (max (nC bs n k) (ed (bs.getD k default).c)) (ed (bs.getD k default).s)) (ed (bs.getD k default).x)) (ed (bs.getD k default).y):=rfl;by_cases e:j=k
   · subst e;rw[e1];omega
   · obtain ⟨h1,h2,h3,h4⟩:=zJ bs n (show j<k by omega);rw[e1];omega
structure Fk (l:Lkg) (a:Asm):Prop where
 r2:a.rt.length≤2
 nb:l.bodies.length≤40
 nb6:l.bodies.length≤6∨8<l.bodies.length
 nj8:l.joints.length≤8∨16<l.joints.length
 nj:l.joints.length≤40
 ab:a.bodies.length≤40
 n:Ja l a+4*a.rt.length≤16
theorem vk{l:Lkg}{a:Asm}(h:lp l a=false):Fk l a:=by
 unfold lp at h;rw[Bool.or_eq_false_iff,Bool.or_eq_false_iff] at h;obtain ⟨⟨h1,_⟩,h3⟩:=h;have h1: ¬_:=ar h1;have h3:=ar h3;refine⟨by omega,by omega,by omega,by omega,by omega,by omega,by omega⟩
theorem Fk.pt{l:Lkg}{a:Asm}(S:Fk l a){i k:Nat}(hi:i<l.bodies.length)(hk:k<(l.bodies.getD i default).pts.length):Ab ((l.bodies.getD i default).pts.getD k default)+4*a.rt.length≤16:=by
 have h1:=IN l.bodies hi hk;have h2:=z8 (fun i=>ed (a.rt.getD i [])) (rL l.bodies l.bodies.length) a.rt.length;have h3:=qY a.bodies (sv (fun i=>ed (a.rt.getD i [])) (rL l.bodies l.bodies.length) a.rt.length) a.bodies.length;have h4:=S.n;unfold Ja at h4;omega
theorem Fk.root{l:Lkg}{a:Asm}(S:Fk l a){i:Nat}(hi:i<a.rt.length):jV (a.rt.getD i [])+4*a.rt.length≤16:=by
 have h2:=z6 (fun i=>ed (a.rt.getD i [])) (rL l.bodies l.bodies.length) hi;have h3:=qY a.bodies (sv (fun i=>ed (a.rt.getD i [])) (rL l.bodies l.bodies.length) a.rt.length) a.bodies.length;have h4:=S.n;unfold Ja at h4;have h5:ed (a.rt.getD i [])+4*a.rt.length≤16:=by omega
 rw[gh (by omega)] at h5;exact h5
theorem Fk.pl{l:Lkg}{a:Asm}(S:Fk l a){i:Nat}(hi:i<a.bodies.length):jV (a.bodies.getD i default).c+4*a.rt.length≤16∧jV (a.bodies.getD i default).s+4*a.rt.length≤16∧jV (a.bodies.getD i default).x+4*a.rt.length≤16∧jV (a.bodies.getD i default).y+4*a.rt.length≤16:=by
 obtain ⟨h1,h2,h3,h4⟩:=zJ a.bodies (sv (fun i=>ed (a.rt.getD i [])) (rL l.bodies l.bodies.length) a.rt.length) hi;have h5:=S.n;unfold Ja at h5;rw[← gh (r:=(a.bodies.getD i default).c) (by omega),← gh (r:=(a.bodies.getD i default).s) (by omega),← gh (r:=(a.bodies.getD i default).x) (by omega),← gh (r:=(a.bodies.getD i default).y) (by omega)];omega
theorem AQ{a:List RD}{k:Nat}(ha:ur a)(h:jV a≤k):wN k a:=fun i _=>by
 have h1:=y4 a i;obtain ⟨w1,w2,_,_⟩:=ha.2 i;exact⟨w1,w2,by omega,by omega⟩
theorem Fk.lok{l:Lkg}{a:Asm}{K:Nat}(S:Fk l a)(hl:l.ok K):l.ok 16:=by
 refine⟨hl.nm,hl.nb,hl.nj,hl.nd,fun i=>⟨(hl.b i).1,(hl.b i).2.1,fun k=>?_⟩,hl.j,hl.d⟩;obtain ⟨h1,h2,h3⟩:=(hl.b i).2.2 k;refine⟨h1,?_⟩
 have hw:Ab ((l.bodies.getD i default).pts.getD k default)≤16:=by
  by_cases hi:i<l.bodies.length
  · by_cases hk:k<(l.bodies.getD i default).pts.length
    · have:=S.pt hi hk;omega
    · rw[aK,List.getElem?_eq_none (by omega)];exact Nat.zero_le _
  · rw[show l.bodies.getD i default=default by rw[aK,List.getElem?_eq_none (by omega)];rfl];exact Nat.zero_le _
 unfold Ab at hw;exact⟨⟨h2.1,h2.2.1,by omega,by omega⟩,⟨h3.1,h3.2.1,by omega,by omega⟩⟩
theorem Fk.aok{l:Lkg}{a:Asm}(S:Fk l a)(ha:AsB a):a.ok 16:=by
 have hr:=S.r2;refine⟨⟨⟨16,by decide,ai _,fun i hi _=>AQ (ha.r i) (by have:=S.root hi;omega),fun _=>JL hr (by decide)⟩,by decide,by omega,fun i _=>(ha.r i).1⟩,fun i hi=>?_,by have:=S.ab;omega⟩;obtain ⟨h1,h2,h3,h4⟩:=S.pl hi;exact⟨⟨fun _=>AQ (ha.c i) (by omega),(ha.c i).1⟩,⟨fun _=>AQ (ha.s i) (by omega),(ha.s i).1⟩,⟨fun _=>AQ (ha.x i) (by omega),(ha.x i).1⟩,⟨fun _=>AQ (ha.y i) (by omega),(ha.y i).1⟩⟩
end Lift
namespace Lift
open Go Go.Proofs
theorem qE(n:Nat)(r:D)(hn:n≤4611686018427387904)(h1: ∀i:Nat,i≤5→n=2^i→r= .tu [dI i,dB true])(h2:(∀i:Nat,i≤5→n≠2^i)→r= .tu [dI 0,dB false]):Pure Tryz.prog 113 [dI n] r:=by
 refine qJ 14 Tryz.func113 rfl rfl rfl rfl (by kernel_rfl) (fun B0 F0 w0=>?_);refine qX 2 rfl (qI (qX 1 rfl (ae.nil ?_)));refine AW.block (AW.aL [0,5] (fun k:Nat=>[(0,.d (dI n)),(5,.d (dI k))]) (fun k=>k≤6∧ ∀j,j<k→n≠2^j) (fun k=>6-k) 0 rfl ⟨Nat.zero_le _,fun j hj=>by omega⟩ (fun k ⟨hk,hi⟩=>?_));refine qX 1 rfl ?_;refine qI (AW.cond rfl (fun h=>?_) (fun h=>?_));rotate_left
 · have hkk:k=6:=by have:=ar h;omega
   subst hkk;rw[h2 (fun i hi5=>hi i (by omega))];exact AW.exit (qX 2 rfl (qN rfl))
 have hkk:k<6:=by have:=ao h;omega
 refine AW.skip (AW.seq (AW.block (qX 2 rfl (qK 3 rfl ?_))));rw[A9 (by omega)];refine qU 1 rfl (ae.nil ?_);by_cases hp:n=2^k
 · rw[h1 k (by omega) hp,beq_iff_eq.2 (show (n:Int)=((2^k:Nat):Int) by rw[hp])];exact AW.aJ rfl (qX 3 rfl (qN rfl))
 rw[beq_eq_false_iff_ne.2 (show (n:Int)≠((2^k:Nat):Int) by omega)];refine AW.aH rfl (AW.skip (qT 1 rfl ?_));rw[aI (x:=(k:Int)+1) (by omega) (by omega)];refine qU 1 rfl (ae.nil ?_)
 exact⟨k+1,rfl,⟨hkk,fun j hj=>by
  by_cases e:j=k
  · rw[e];exact hp
  · exact hi j (by omega)⟩,by omega⟩
theorem gi{n i:Nat}(h:n=2^i)(hi:i≤5):Pure Tryz.prog 113 [dI n] (.tu [dI i,dB true]):=by
 have hp:2^i≤2^5:=Nat.pow_le_pow_right (by decide) hi;refine qE n _ (by omega) (fun j hj e=>?_) (fun hn=>absurd h (hn i hi));have h1:=iq (Nat.le_of_eq (h.symm.trans e));have h3:=iq (Nat.le_of_eq (e.symm.trans h));rw[show j=i by omega]
theorem o9{n:Nat}(h: ∀i:Nat,i≤5→n≠2^i)(hn:n≤4611686018427387904):Pure Tryz.prog 113 [dI n] (.tu [dI 0,dB false]) :=
 qE n _ hn (fun i hi e=>absurd e (h i hi)) (fun _=>rfl)
theorem pa(m:Nat)(a:List RD){k:Nat}(hm5:m≤5)(hw:D3 m a→wN k a)(hk:k≤17300000000000)(hl:a.length≤4398046511104):Pure Tryz.prog 66 [dI m,bw a] (dI (b5 m a)):=by
 refine qJ 37 Tryz.func66 rfl rfl rfl rfl (by kernel_rfl) (fun B0 F0 w0=>?_);have hno:=fun i hi=>BL (l:=a) (i:=i) hi;have hyes:=yB (l:=a);unfold b5;generalize kX a=E at hno hyes ⊢
 obtain ⟨x,ok,cp,hok⟩: ∃(x:Nat) (ok:Bool),Pure Tryz.prog 113 [dI a.length] (.tu [dI x,dB ok])∧((ok=false∨m<x)↔Dk m a.length=false):=by
  by_cases hp: ∃i,i≤5∧a.length=2^i
  · obtain ⟨i,hi,hp⟩:=hp;refine⟨i,true,gi hp hi,?_⟩;rw[hp,Ac];constructor
    · rintro (h | h)
      · cases h
      · exact a7 (by omega)
    · intro h;right;have:=ar h;omega
  · refine⟨0,false,o9 (fun i hi e=>hp ⟨i,hi,e⟩) (by omega),?_⟩;constructor
    · intro _;cases hv:Dk m a.length
      · rfl
      · obtain ⟨i,h1,h2⟩:=HK hv;exact absurd ⟨i,by omega,h2⟩ hp
    · intro _;exact .inl rfl
 refine qX 1 rfl (qK 2 rfl ?_);rw[af];refine qM rfl cp (qU 5 rfl (ae.nil ?_));refine AW.cut [1] (fun _:Unit=>[(1,.d (bw a))]) (fun _=> ¬(a.length≠0∧Dk m a.length=false)) ?_ (fun _ hs=>?_)
 · refine qX 2 rfl ?_;rw[af];refine qU 1 rfl ?_;by_cases h0:a.length=0
   · rw[bne_eq_false_iff_eq.2 (show (a.length:Int)=0 by omega)];refine qU 9 rfl (ae.nil (AW.aH rfl (AW.skip ?_)));exact⟨(),rfl,fun h=>h.1 h0⟩
   rw[bne_iff_ne.2 (show (a.length:Int)≠0 by omega)];cases ok with
   | false =>
     have hb:=hok.1 (.inl rfl);rw[if_pos ⟨h0,hb⟩];exact qU 9 rfl (ae.nil (AW.aJ rfl (qX 1 rfl (qN rfl))))
   | true =>
   refine qU 7 rfl ?_;by_cases hx:(m:Int)<(x:Int)
   · rw[aO hx,if_pos ⟨h0,hok.1 (.inr (by omega))⟩];exact qU 2 rfl (ae.nil (AW.aJ rfl (qX 1 rfl (qN rfl))))
   · rw[a7 hx];refine qU 2 rfl (ae.nil (AW.aH rfl (AW.skip ?_)))
     exact⟨(),rfl,fun h=>by
      rcases hok.2 h.2 with e | e
      · cases e
      · omega⟩
 rw[if_neg hs];have hw:=hw hs;show AW _ _ _ _ _ _ _ [(1,.d (bw a))];refine AW.seq (qX 2 rfl ?_);rw[af];refine qU 1 rfl (ae.nil ?_);refine AW.block (AW.aL [27,28,29] (fun i:Nat=>[(27,.d (bw a)),(28,.d (dI a.length)),(29,.d (dI i))]) (fun i=>i≤a.length∧ ∀j,j<i→(a.getD j default).okB=true) (fun i=>a.length-i) 0 rfl ⟨Nat.zero_le _,fun j hj=>by omega⟩ (fun i ⟨hi,hall⟩=>?_));refine qX 1 rfl ?_;refine qI (AW.cond rfl (fun h=>?_) (fun h=>?_));rotate_left
 · have hii:i=a.length:=by have:=ar h;omega
   subst hii;rw[hyes hall,if_neg (by simp)];exact AW.exit (qX 1 rfl (qN rfl))
 have hii:i<a.length:=by have:=ao h;omega
 have hg:=getM RD.D (l:=a) (i:=i) hii;have hno:=hno i hii;have cv:=jZ (a.getD i default) (hw i hii) (by omega);refine AW.skip (AW.seq (AW.block (AW.seq (AW.region (ae.idx tok (a.getD i default).D rfl rfl rfl rfl (aj i) hg ?_)))));refine qU 3 rfl (qK 1 rfl (qM rfl cv (qU 1 rfl ?_)));cases hv:(a.getD i default).okB with
 | false =>
   rw[hno hv,if_pos rfl];exact ae.nil (AW.aJ rfl (qX 1 rfl (qN rfl)))
 | true =>
 refine ae.nil (AW.aH rfl (AW.skip (qT 1 rfl ?_)));rw[aI (x:=(i:Int)+1) (by omega) (by omega)];refine qU 1 rfl (ae.nil ?_)
 exact⟨i+1,rfl,⟨hii,fun j hj=>by
  by_cases e:j=i
  · subst e;exact hv
  · exact hall j (by omega)⟩,by omega⟩
theorem qF(a:NQ)(hl:a.length≤1000000):Pure Tryz.prog 155 [aq a] (dB (bG a)):=by
 refine qJ 26 Tryz.func155 rfl rfl rfl rfl (by kernel_rfl) (fun B F0 w0=>?_);have hno:=fun i hi=>uW (a:=a) (i:=i) hi;have hyes:=rR (a:=a);generalize bG a=E at hno hyes ⊢;refine qX 1 rfl (qI (qX 2 rfl ?_));rw[af];refine qU 1 rfl (ae.nil (AW.block ?_));refine AW.aL [5,6,7] (fun i:Nat=>[(5,.d (aq a)),(6,.d (dI a.length)),(7,.d (dI i))]) (fun i=> ∀j,j<i→j<a.length→a.getD j 0=0) (fun i=>a.length-i) 0 rfl (fun j h=>by omega) (fun i hi=>?_)
 · show AW _ _ _ _ _ _ _ [(5,.d (aq a)),(6,.d (dI a.length)),(7,.d (dI i))];refine qX 1 rfl (qI (AW.cond rfl (fun h=>?_) (fun h=>?_)))
   · have hii:i<a.length:=by have:=ao h;omega
     have g:=mV hii;have hn:=hno i hii;have s0:=I3 (a.getD i 0);generalize hq:a.getD i 0=q at g hn s0;generalize Qr q=y at g s0;obtain ⟨yg,yn,yd⟩:=y;simp only[] at s0;refine AW.skip (AW.seq (AW.block (AW.seq (AW.region (ae.idx tok (RD.mk yg yn yd).D rfl rfl rfl rfl (aj i) g ?_)))));refine qU 3 rfl (qK 3 rfl ?_);cases yg with
     | true =>
       refine qU 11 rfl (ae.nil (AW.aJ rfl ?_));rw[hn (fun e=>by have:=s0.2 e;cases this.1)];exact qX 1 rfl (qN rfl)
     | false =>
     refine qU 3 rfl ?_;rw[ba];refine qU 1 rfl ?_;by_cases h1:yn.length=0;rotate_left
     · rw[bne_iff_ne.2 (show (yn.length:Int)≠0 by omega)];refine qU 7 rfl (ae.nil (AW.aJ rfl ?_));rw[hn (fun e=>by have:=(s0.2 e).2.1;omega)];exact qX 1 rfl (qN rfl)
     rw[bne_eq_false_iff_eq.2 (show (yn.length:Int)=0 by omega)];refine qU 5 rfl ?_;rw[ba];refine qU 1 rfl ?_;by_cases h2:yd.length=0;rotate_left
     · rw[bne_iff_ne.2 (show (yd.length:Int)≠0 by omega)];refine qU 1 rfl (ae.nil (AW.aJ rfl ?_));rw[hn (fun e=>by have:=(s0.2 e).2.2;omega)];exact qX 1 rfl (qN rfl)
     rw[bne_eq_false_iff_eq.2 (show (yd.length:Int)=0 by omega)];refine qU 1 rfl (ae.nil (AW.aH rfl (AW.skip (qT 1 rfl ?_))));rw[aI (x:=(i:Int)+1) (by omega) (by omega)];refine qU 1 rfl (ae.nil ?_);refine⟨i+1,rfl,fun j h1 h2=>?_,by omega⟩;by_cases e:j=i
     · rw[e,hq];exact s0.1 ⟨rfl,by omega,by omega⟩
     · exact hi j (by omega) h2
   have hii: ¬i<a.length:=by have:=ar h;omega
   rw[hyes (fun j h=>hi j (by omega) h)];exact AW.exit (qX 1 rfl (qN rfl))
theorem th(a:NQ){k:Nat}(hs:aE k a)(hk:k≤17300000000000)(hl:a.length≤1000000):Pure Tryz.prog 71 [aq a] (aq (aZ a)):=by
 refine qJ 19 Tryz.func71 rfl rfl rfl rfl (by kernel_rfl) (fun B0 F0 w0=>?_);refine qX 1 rfl (qK 1 rfl (qI (qX 2 rfl ?_)));rw[af];refine qU 1 rfl (ae.nil ?_);refine AW.block (AW.aL [3,6,7,8] (fun i:Nat=>[(3,.ow 68 (fv (aZ (a.take i)))),(6,.d (aq a)),(7,.d (dI a.length)),(8,.d (dI i))]) (fun i=>i≤a.length) (fun i=>a.length-i) 0 rfl (Nat.zero_le _) (fun i hi=>?_));refine qX 1 rfl ?_;refine qI (AW.cond rfl (fun h=>?_) (fun h=>?_));rotate_left
 · have hii:i=a.length:=by have:=ar h;have:i≤a.length:=hi;omega
   subst hii;rw[List.take_length];exact AW.exit (qX 2 rfl (qN rfl))
 have hii:i<a.length:=by have:=ao h;omega
 have g:=mV hii;have cn:=vB (Qr (a.getD i 0)) (iG _ (hs i)) hk;rw[dk] at cn;have htk:=vi a 0 hii;have hol:(aZ (a.take i)).length=i:=by rw[gy,bb];omega
 have hms:aZ (a.take (i+1))=aZ (a.take i)++[-a.getD i 0]:=by
  rw[htk];unfold aZ;rw[List.map_append];rfl
 generalize aZ (a.take i)=M at hol hms ⊢;generalize a.getD i 0=q at g cn hms;refine AW.skip (AW.seq (AW.block (AW.seq (AW.region (ae.idx tok (Qr q).D rfl rfl rfl rfl (aj i) g ?_)))));refine qU 3 rfl (ae.nil (qT 2 rfl (qM rfl cn (ae.bs tok rfl rfl rfl rfl ?_))));refine ae.lB tok rfl rfl rfl rfl rfl rfl (by rw[af,hol];show (_+1)*56≤_;omega) (by rw[af,hol];show _+1≤_;omega) ?_;refine qU 1 rfl (ae.nil (qT 1 rfl ?_));rw[aI (x:=(i:Int)+1) (by omega) (by omega)];refine qU 1 rfl (ae.nil ?_);exact⟨i+1,by show _=([(3,.ow 68 (fv (aZ (a.take (i+1))))),(6,.d (aq a)),(7,.d (dI a.length)),(8,.d (dI (i+1:Nat)))]:St);rw[hms,fv,fv,List.map_append];rfl,hii,by omega⟩
end Lift
namespace Lift
open Go Go.Proofs
theorem jY(a:NQ){l:Nat}(ha:aA l a)(hl:l≤5):Pure Tryz.prog 114 [aq a] (aq (aD a)):=by
 refine qJ 43 Tryz.func114 rfl rfl rfl rfl (by kernel_rfl) (fun B0 F0 w0=>?_);have hl10:=ha.len (by omega);rcases ha with h0 | ⟨i,hi,hai⟩
 · obtain rfl:a=[]:=List.length_eq_zero_iff.1 h0;have cp:=o9 (n:=0) (fun i _=>by have:=Nat.two_pow_pos i;omega) (by decide);refine qX 1 rfl (qK 2 rfl (qM rfl cp (qU 5 rfl (qI (qX 2 rfl (ae.nil (AW.aJ rfl (qX 2 rfl ?_))))))));refine ae.nY tok rfl rfl rfl rfl (by decide) ?_;exact qU 1 rfl (qN rfl)
 have cp:=gi hai (by omega);have hp:=Nat.two_pow_pos i;have hE:aD a=iR i a:=by unfold aD;rw[if_neg (by omega),hai,Nat.log2_two_pow]
 rw[hE];refine qX 1 rfl (qK 2 rfl ?_);rw[af];refine qM rfl cp (qU 5 rfl (qI (qX 2 rfl (ae.nil (AW.aH rfl (AW.skip (qX 2 rfl ?_)))))));rw[af,hai];refine qU 1 rfl (qI (AW.block ?_));refine AW.aL [0,5] (fun j:Nat=>[(0,.d (aq a)),(5,.d (dI (2^j:Nat)))]) (fun j=>j≤i∧iR j a=iR i a) (fun j=>j) i rfl ⟨ai _,rfl⟩ (fun j hj=>?_);obtain ⟨hj,hjE⟩:=hj;show AW _ _ _ _ _ _ _ [(0,.d (aq a)),(5,.d (dI (2^j:Nat)))];have hpj:2^j≤2^i:=Nat.pow_le_pow_right (by decide) hj;have hpp:=Nat.two_pow_pos j;refine AW.seq (qX 2 rfl ?_);rcases j with _ | j
 · refine qU 8 rfl (ae.nil (AW.aH rfl (AW.exit (AW.seq (qX 4 rfl ?_)))));refine ae.hZ tok (a:=a) (a.take 1) rfl rfl rfl rfl trivial (show (0:Int)≤1 by decide) (Nat.zero_le _) (show 1≤a.length by omega) rfl ?_;refine qM rfl (qF (a.take 1) (by rw[bb];omega)) ?_;refine qU 1 rfl (ae.nil ?_);rw[← hjE];unfold iR;cases hz:bG (a.take 1) with
   | true =>
     rw[if_pos rfl];exact AW.aJ rfl (qX 1 rfl (qN rfl))
   | false =>
     rw[if_neg (by simp)];refine AW.aH rfl (AW.skip (qX 3 rfl ?_));refine ae.hZ tok (a:=a) (a.take 1) rfl rfl rfl rfl trivial (show (0:Int)≤1 by decide) (Nat.zero_le _) (show 1≤a.length by omega) rfl ?_;have hq:(a.take 1).length≤1024:=by rw[bb];omega
     refine ae.nY tok rfl rfl rfl rfl (by rw[af];show _*56≤_;omega) ?_;exact qU 1 rfl (qN rfl)
 have e2:2^(j+1)=2^j*2:=Nat.pow_succ ..;have eh:=lM j;rw[aO (show (1:Int)<((2^(j+1):Nat):Int) by have:=Nat.two_pow_pos j;omega)];refine qU 3 rfl (ae.div tok rfl rfl rfl rfl (by decide) ?_);rw[iP _ (by omega),eh];refine qU 1 rfl ?_;refine ae.hZ tok (a:=a) ((a.take (2^(j+1))).drop (2^j)) rfl rfl rfl rfl (aj _) (aj _) (show 2^j≤2^(j+1) by omega) (show 2^(j+1)≤a.length by omega) rfl ?_;refine qM rfl (qF _ (by rw[List.length_drop,bb];omega)) ?_;refine qU 1 rfl (ae.nil ?_);cases hz:bG ((a.take (2^(j+1))).drop (2^j)) with
 | true =>
   refine AW.aJ rfl (AW.skip (AW.block (qT 1 rfl (ae.div tok rfl rfl rfl rfl (by decide) ?_))));rw[iP _ (by omega),eh];refine qU 1 rfl (ae.nil ?_);exact⟨j,rfl,⟨by omega,by rw[← hjE];show _=if bG ((a.take (2^(j+1))).drop (2^j))=true then _ else _;rw[if_pos hz]⟩,by omega⟩
 | false =>
 refine AW.aH rfl (AW.exit (AW.seq (qX 2 rfl ?_)));rw[beq_eq_false_iff_ne.2 (show ((2^(j+1):Nat):Int)≠1 by have:=Nat.two_pow_pos j;omega)];refine qU 5 rfl (ae.nil (AW.aH rfl (AW.skip (qX 3 rfl ?_))));refine ae.hZ tok (a:=a) (a.take (2^(j+1))) rfl rfl rfl rfl trivial (aj _) (Nat.zero_le _) (show 2^(j+1)≤a.length by omega) rfl ?_;have hq:(a.take (2^(j+1))).length≤1024:=by rw[bb];omega
 refine ae.nY tok rfl rfl rfl rfl (by rw[af];show _*56≤_;omega) ?_;refine qU 1 rfl (ae.nil ?_);rw[← hjE];unfold iR;rw[if_neg (by rw[hz];simp)];exact AW.ret rfl
theorem pw(a:NQ):bo a a.length=a:=by
 unfold bo;rw[List.take_length,Nat.sub_self];exact List.append_nil a
theorem u5{a:NQ}{i:Nat}(h:a.length≤i):bo a (i+1)=bo a i++[0]:=by
 unfold bo;rw[List.take_of_length_le h,List.take_of_length_le (by omega),Nat.succ_sub h,List.replicate_succ',List.append_assoc]
theorem kT(a:NQ)(n:Nat)(ha:a.length≤n)(hn:n≤1000000):l3 Tryz.prog 117 [aq a,dI n] [] (Ht (bo a n)):=by
 refine l3.intro (n:=18) tok Tryz.func117 rfl rfl rfl (Nat.le_of_ble_eq_true rfl) (by kernel_rfl) (fun B F0 w0=>?_);refine AZ.seq (AZ.iK (fun B1 F1 w1=>?_));refine qU 1 rfl (ae.nil ⟨rfl,?_⟩);refine AZ.seq (AZ.iK (fun B1 F1 w1=>?_));refine qU 2 rfl ?_;refine ae.Ct tok rfl rfl rfl rfl (by rw[af];show _*56≤_;omega) ?_;refine qU 1 rfl (ae.nil ⟨rfl,?_⟩);refine AZ.seq (AZ.block ?_);refine AZ.aL [1,5] (fun i:Nat=>(([]:List LR),([(1,.d (dI n)),(5,.ow 68 (fv (bo a i)))]:St))) (fun i=>a.length≤i∧i≤n) (fun i=>n-i) a.length (by rw[pw];rfl) ⟨ai _,ha⟩ (fun i hi=>?_)
 · obtain ⟨hi,hin⟩:=hi;show AZ _ _ _ _ _ _ _ [] [(1,.d (dI n)),(5,.ow 68 (fv (bo a i)))];have wl:=bK a i;refine AZ.seq (AZ.seq ?_);refine AZ.iK (fun B1 F1 w1=>?_);refine qU 2 rfl ?_;rw[af,wl];refine qU 2 rfl (ae.nil ⟨rfl,?_⟩);refine AZ.cond rfl (fun h=>?_) (fun h=>?_)
   · have hii:i<n:=by have:=ao h;omega
     have hs:=u5 hi;refine AZ.skip (AZ.block ?_);refine AZ.iK (fun B1 F1 w1=>?_);refine qU 2 rfl (ae.bs tok rfl rfl rfl rfl ?_);refine ae.lB tok rfl rfl rfl rfl rfl rfl (by rw[af,wl];show (_+1)*56≤_;omega) (by rw[af,wl];show _+1≤_;omega) ?_;refine qU 1 rfl (ae.nil ⟨rfl,?_⟩);refine⟨i+1,?_,⟨by omega,hii⟩,by omega⟩;rw[hs];show _=(([]:List LR),([(1,.d (dI n)),(5,.ow 68 ((bo a i++[0]).map (fun q=>(Qr q).D)))]:St));rw[List.map_append,List.map_cons,jl];rfl
   have hii:i=n:=by have:=ar h;omega
   subst hii;refine AZ.exit ?_;refine AZ.seq (AZ.iK (fun B1 F1 w1=>?_));refine qU 2 rfl (ae.nil ⟨rfl,?_⟩);refine AZ.gz 4 rfl rfl rfl (fun V=>AZ.ret ⟨.v V,rfl,V,rfl,rfl⟩)
theorem mh(a:NQ)(n:Nat)(ha:a.length≤n)(hn:n≤1000000):Pure Tryz.prog 117 [aq a,dI n] (aq (bo a n)):=by
 refine qJ 18 Tryz.func117 rfl rfl rfl rfl (by kernel_rfl) (fun B F0 w0=>?_);refine qX 1 rfl (qK 2 rfl ?_);refine ae.Ct tok rfl rfl rfl rfl (by rw[af];show _*56≤_;omega) ?_;refine qU 1 rfl (qI (AW.block ?_));refine AW.aL [1,5] (fun i:Nat=>[(1,.d (dI n)),(5,.ow 68 (fv (bo a i)))]) (fun i=>a.length≤i∧i≤n) (fun i=>n-i) a.length (by rw[pw];rfl) ⟨ai _,ha⟩ (fun i hi=>?_)
 · obtain ⟨hi,hin⟩:=hi;show AW _ _ _ _ _ _ _ [(1,.d (dI n)),(5,.ow 68 (fv (bo a i)))];have wl:=bK a i;refine AW.seq (qX 2 rfl ?_);rw[af,wl];refine qU 2 rfl (ae.nil (AW.cond rfl (fun h=>?_) (fun h=>?_)))
   · have hii:i<n:=by have:=ao h;omega
     have hs:=u5 hi;refine AW.skip (AW.block (qT 2 rfl (ae.bs tok rfl rfl rfl rfl ?_)));refine ae.lB tok rfl rfl rfl rfl rfl rfl (by rw[af,wl];show (_+1)*56≤_;omega) (by rw[af,wl];show _+1≤_;omega) ?_;refine qU 1 rfl (ae.nil ?_);refine⟨i+1,?_,⟨by omega,hii⟩,by omega⟩;rw[hs];show _=([(1,.d (dI n)),(5,.ow 68 ((bo a i++[0]).map (fun q=>(Qr q).D)))]:St);rw[List.map_append,List.map_cons,jl];rfl
   have hii:i=n:=by have:=ar h;omega
   subst hii;exact AW.exit (qX 2 rfl (qN rfl))
theorem nw(a b:NQ){k:Nat}(ha:aE k a)(hb:aE k b)(hk:k≤17300000000000)(hl:a.length≤1000000)(hl2:b.length≤1000000):Pure Tryz.prog 70 [aq a,aq b] (aq (aX a b)):=by
 refine qJ 37 Tryz.func70 rfl rfl rfl rfl (by kernel_rfl) (fun B F0 w0=>?_);obtain ⟨n,hn⟩: ∃n,n=max a.length b.length:=⟨_,rfl⟩;have cw1:=kT a n (by omega) (by omega);have cw2:=kT b n (by omega) (by omega);have l1:=bK a n;have l2:=bK b n;have g1: ∀i,i<n→(bo a n).getD i 0=a.getD i 0:=fun i hi=>by rw[gK,if_pos hi]
 have g2: ∀i,i<n→(bo b n).getD i 0=b.getD i 0:=fun i hi=>by rw[gK,if_pos hi]
 have hpl:(aX a b).length=n:=by rw[kf,hn]
 generalize bo a n=wa at cw1 l1 g1;generalize bo b n=wb at cw2 l2 g2;refine qX 1 rfl (qK 4 rfl ?_);rw[af,af];refine qU 2 rfl ?_;rw[JX,← hn];refine qI (AZ.aw ?_);refine AZ.region ?_;refine ak.cut 2 rfl (fun B1 F1 w1=>?_);refine qU 2 rfl (ae.nil ⟨rfl,?_⟩);refine ak.jF tok [] rfl rfl rfl rfl rfl List.nodup_nil rfl cw1 (fun _ _ _=>Nat.zero_le _) (fun res R1 hP=>?_);obtain ⟨V1,rfl,rfl⟩:=hP;refine ak.cut 2 rfl (fun B1 F1 w1=>?_);refine qU 2 rfl (ae.nil ⟨rfl,?_⟩);refine ak.jF tok [] rfl rfl rfl rfl rfl List.nodup_nil rfl cw2 (fun _ _ _=>Nat.zero_le _) (fun res R1 hP=>?_);obtain ⟨V2,rfl,rfl⟩:=hP;refine ak.cut 2 rfl (fun B1 F1 w1=>?_);refine qU 2 rfl (ae.nil ⟨rfl,?_⟩);refine ak.to [0,1] [(0,.d (.v V1)),(1,.d (.v V2))] rfl ?_;refine ak.fp 0 0 (V:=V1) (av:= .ow 68 (fv wa)) rfl rfl rfl ?_;refine ak.to [0,1] [(0,.ow 68 (fv wa)),(1,.d (.v V2))] rfl ?_;refine ak.fp 1 1 (V:=V2) (av:= .ow 68 (fv wb)) rfl rfl rfl ?_;refine ak.to [0,1] [(0,.ow 68 (fv wa)),(1,.ow 68 (fv wb))] rfl ?_;refine ak.nil (AW.jh tok 1 rfl rfl ?_);refine AW.seq (qX 2 rfl ?_);rw[af,l1];refine qU 1 rfl (ae.nil (AW.block ?_));refine AW.aL [0,1,19,20] (fun s:Nat×NQ=>[(0,.ow 68 (fv s.2)),(1,.d (aq wb)),(19,.d (dI n)),(20,.d (dI s.1))]) (fun s=>s.2.length=n∧ ∀j,j<n→s.2.getD j 0=if j<s.1 then a.getD j 0+b.getD j 0 else a.getD j 0) (fun s=>n-s.1) (0,wa) rfl ⟨l1,fun j h=>by rw[if_neg (Nat.not_lt_zero _)];exact g1 j h⟩ (fun s hi=>?_)
 · obtain ⟨i,r⟩:=s;obtain ⟨hrl,hi⟩:=hi;simp only[] at hrl hi;show AW _ _ _ _ _ _ _ [(0,.ow 68 (fv r)),(1,.d (aq wb)),(19,.d (dI n)),(20,.d (dI i))];refine qX 1 rfl (qI (AW.cond rfl (fun h=>?_) (fun h=>?_)))
   · have hii:i<n:=by have:=ao h;omega
     have e1:=mV (r:=r) (i:=i) (by omega);have e2:=mV (r:=wb) (i:=i) (by omega);rw[hi i hii,if_neg (Nat.lt_irrefl _)] at e1;rw[g2 i hii] at e2;have ca:=vD (Qr (a.getD i 0)) (Qr (b.getD i 0)) (iG _ (ha i)) (iG _ (hb i)) hk;rw[dk,dk] at ca;refine AW.skip (AW.seq (AW.block (qX 2 rfl (ae.nil (AW.draw aS 12 (by kernel_rfl) ?_)))));refine qP 4 rfl ?_;refine ah.gD tok rfl rfl rfl rfl rfl rfl (aj i) (by rw[af];show i<_;omega) ?_;refine ah.df tok (Qr (a.getD i 0)).D rfl rfl rfl rfl rfl e1 rfl ?_;refine qP 2 rfl (ah.idx tok (Qr (b.getD i 0)).D rfl rfl rfl rfl rfl (aj i) e2 ?_);refine qP 1 rfl (qQ rfl ca ?_);refine ah.gD tok rfl rfl rfl rfl rfl rfl (aj i) (by rw[af];show i<_;omega) ?_;refine ah.nil ?_;refine ae.CU tok (a.getD i 0+b.getD i 0) rfl rfl rfl (by show i<_;omega) ?_;refine ae.nil (qT 1 rfl ?_);rw[aI (x:=(i:Int)+1) (by omega) (by omega)];refine qU 1 rfl (ae.nil ?_);refine⟨(i+1,r.set i (a.getD i 0+b.getD i 0)),rfl,⟨by rw[List.length_set];exact hrl,fun j h1=>?_⟩,by show n-(i+1)<n-i;omega⟩;show (r.set i (a.getD i 0+b.getD i 0)).getD j 0=if j<i+1 then _ else _
     rw[DC];by_cases e:j=i
     · rw[if_pos ⟨e,by omega⟩,e,if_pos (by omega)]
     · rw[if_neg (fun h=>e h.1),hi j h1];by_cases h2:j<i
       · rw[if_pos h2,if_pos (by omega)]
       · rw[if_neg h2,if_neg (by omega)]
   have hii: ¬i<n:=by have:=ar h;omega
   obtain rfl:r=aX a b:=Dh (by rw[hrl,hpl]) (fun j hj=>by rw[oD,hi j (by omega),if_pos (by omega)]);exact AW.exit (qX 2 rfl (qN rfl))
end Lift
namespace Lift
open Go Go.Proofs
theorem yp{R:NQ→NQ→NQ}{rt:List NQ}{a b:NQ}:(kR R rt a b).length≤max a.length b.length:=by
 unfold kR;split
 · exact Nat.zero_le _
 split
 · rename_i h;rw[h];exact ai _
 · rw[dL];omega
theorem Bl{l k:Nat}{R:NQ→NQ→NQ}{rt:List NQ}{a b:NQ}(ha:aA l a)(hb:aA l b)(hrt:cP rt)(hl:l≤rt.length)(sa:aE k a)(sb:aE k b)(sr:dt k rt)
  (hR: ∀l',l=l'+1→ ∀a' b' m,k≤m→aA l' a'→aA l' b'→aE m a'→aE m b'→aA l' (R a' b')∧aE (sT l' m) (R a' b')):aA l (kR R rt a b)∧aE (sT l k) (kR R rt a b):=by
 have hk:=sa.pos;have h2:=cD l k;unfold kR;by_cases h0:a.length=0∨b.length=0
 · rw[if_pos h0];exact⟨cg _,cL (by omega)⟩
 rw[if_neg h0];by_cases h1:max a.length b.length=1
 · rw[if_pos h1];refine⟨fb _ _,gg ?_⟩;have:=s4 (a.getD 0 0) (b.getD 0 0);have:=sa 0;have:=sb 0;omega
 rw[if_neg h1]
 obtain ⟨i,hi,hn⟩: ∃i,i≤l∧max a.length b.length=2^i:=by
  rcases ha with e | ⟨i,hi,e⟩
  · exact absurd (.inl e) h0
  rcases hb with e2 | ⟨k,hk,e2⟩
  · exact absurd (.inr e2) h0
  by_cases h:a.length≤b.length
  · exact⟨k,hk,by rw[Nat.max_eq_right h,e2]⟩
  · exact⟨i,hi,by rw[Nat.max_eq_left (by omega),e]⟩
 have wm:i≠0:=fun e=>h1 (by rw[hn,e]);obtain ⟨j,rfl⟩: ∃j,i=j+1:=⟨i-1,by omega⟩;obtain ⟨l',rfl⟩: ∃l',l=l'+1:=⟨l-1,by omega⟩;have hj:j≤l':=by omega
 have hR:=fun a' b' m h1 h2 h3 h4 h5=>hR l' rfl a' b' m h1 h2 h3 h4 h5;have wa:=bK a (max a.length b.length);have wb:=bK b (max a.length b.length);have sa:=sa.wide (max a.length b.length);have sb:=sb.wide (max a.length b.length);generalize bo a (max a.length b.length)=A at *;generalize bo b (max a.length b.length)=B at *;generalize max a.length b.length=n at *;subst hn;have e0:=lM j;have hlog:(2^(j+1)).log2-1=j:=by rw[Nat.log2_two_pow];omega
 rw[e0,hlog];obtain ⟨e1,e2,e3⟩:=bF wa;obtain ⟨f1,f2,f3⟩:=bF wb;rw[e3] at e1 e2;rw[f3] at f1 f2;have hx:aA l' (A.take (2^j)):= .inr ⟨j,hj,e1⟩;have hy:aA l' (A.drop (2^j)):= .inr ⟨j,hj,e2⟩;have hu:aA l' (B.take (2^j)):= .inr ⟨j,hj,f1⟩;have hv:aA l' (B.drop (2^j)):= .inr ⟨j,hj,f2⟩;have hd:aA l' (rt.getD j []):= .inr ⟨j,hj,hrt j (by omega)⟩;have hs0:=cD l' k;have hs1:=cD l' (sT l' k);have r1:=hR _ _ k (ai _) hx hu (sa.take _) (sb.take _);have r2:=hR _ _ k (ai _) hy hv (sa.drop _) (sb.drop _);have r3:=hR _ _ k (ai _) hx hv (sa.take _) (sb.drop _);have r4:=hR _ _ k (ai _) hy hu (sa.drop _) (sb.take _);have r5:=hR _ _ (sT l' k) (by omega) r2.1 hd r2.2 ((sr _).mono (by omega));refine⟨.inr ⟨j+1,by omega,by rw[dL,Nat.pow_succ];omega⟩,(((r1.2.plus r5.2).mono ?_).join ((r3.2.plus r4.2).mono ?_) _)⟩
 · show _≤sT l' (sT l' k)+sT l' k+1;omega
 · show _≤sT l' (sT l' k)+sT l' k+1;omega
theorem me(a:NQ){l:Nat}(ha:aA l a):(aD a).length≤a.length:=by
 unfold aD;split
 · exact Nat.zero_le _
 have: ∀i,(iR i a).length≤a.length:=fun i=>by
  induction i with
  | zero =>
    unfold iR;split
    · exact Nat.zero_le _
    · rw[bb];omega
  | succ i ih =>
    unfold iR;split
    · exact ih
    · rw[bb];omega
 exact this _
theorem gS: ∀(l:Nat) {k:Nat} {rt:List NQ} {a b:NQ},aA l a→aA l b→cP rt→l≤rt.length→aE k a→aE k b→dt k rt→aA l (gq l rt a b)∧aE (sT l k) (gq l rt a b)
 | 0,k,rt,a,b,ha,hb,hrt,hl,sa,sb,sr=>Bl (bh ha sa).1 (bh hb sb).1 hrt hl (bh ha sa).2 (bh hb sb).2 sr (fun l' h=>by omega)
 | l+1,k,rt,a,b,ha,hb,hrt,hl,sa,sb,sr=>Bl (bh ha sa).1 (bh hb sb).1 hrt hl (bh ha sa).2 (bh hb sb).2 sr (fun l' e a' b' m hm h1 h2 h3 h4=>by
    obtain rfl:l=l':=by omega
    exact gS l h1 h2 hrt (by omega) h3 h4 (sr.mono hm))
theorem C4: ∀(l:Nat) {rt:List NQ} {a b:NQ},aA l a→aA l b→(gq l rt a b).length≤max a.length b.length
 | 0,rt,a,b,ha,hb=>by
   have h1:=me a ha;have h2:=me b hb;have h3:=yp (R:=fun _ _=>[]) (rt:=rt) (a:=aD a) (b:=aD b);show (kR _ rt _ _).length≤_;omega
 | l+1,rt,a,b,ha,hb=>by
   have h1:=me a ha;have h2:=me b hb;have h3:=yp (R:=gq l rt) (rt:=rt) (a:=aD a) (b:=aD b);show (kR _ rt _ _).length≤_;omega
set_option maxHeartbeats 1600000 in
theorem s9{l k:Nat}{R:NQ→NQ→NQ}{rt:List NQ}{xs:List D}{a b:NQ}(ha:aA l a)(hb:aA l b)(hrt:cP rt)(hl:l≤rt.length)(hl5:l≤5)(hxs: ∀j,j<rt.length→xs[j]?=some (aq (rt.getD j [])))(sa:aE k a)(sb:aE k b)(sr:dt k rt)(hk:sT l k≤17300000000000)
  (hR: ∀l',l=l'+1→ ∀a' b' m,k≤m→aA l' a'→aA l' b'→aE m a'→aE m b'→sT l' m≤17300000000000→Pure Tryz.prog 157 [.ag [.sl 1 xs],aq a',aq b'] (aq (R a' b'))∧(R a' b').length≤max a'.length b'.length∧aA l' (R a' b')∧aE (sT l' m) (R a' b')):
  Pure Tryz.prog 157 [.ag [.sl 1 xs],aq a,aq b] (aq (kR R rt (aD a) (aD b))):=by
 refine qJ 105 Tryz.func157 rfl rfl rfl rfl (by kernel_rfl) (fun B F0 w0=>?_);have hk1:=sa.pos;have h2:=cD l k;have cs1:=jY a ha hl5;have cs2:=jY b hb hl5;obtain ⟨ha,sa⟩:=bh ha sa;obtain ⟨hb,sb⟩:=bh hb sb;generalize aD a=s at *;generalize aD b=t at *;have hla:=ha.len (by omega);have hlb:=hb.len (by omega);refine qX 2 rfl (qK 1 rfl (qM rfl cs1 (qU 1 rfl (qM rfl cs2 (qU 2 rfl (qK 4 rfl ?_))))));rw[af,af];refine qU 2 rfl ?_;rw[JX];refine qI (qX 2 rfl ?_);rw[af];refine qU 1 rfl ?_;unfold kR;by_cases h0:s.length=0
 · have h00:s.length=0∨t.length=0:= .inl h0;rw[beq_iff_eq.2 (show (s.length:Int)=0 by omega),if_pos h00];exact qU 5 rfl (ae.nil (AW.aJ rfl (qX 1 rfl (qN rfl))))
 rw[beq_eq_false_iff_ne.2 (show (s.length:Int)≠0 by omega)];refine qU 3 rfl ?_;rw[af];refine qU 1 rfl ?_;by_cases h01:t.length=0
 · have h00:s.length=0∨t.length=0:= .inr h01;rw[beq_iff_eq.2 (show (t.length:Int)=0 by omega),if_pos h00];exact qU 1 rfl (ae.nil (AW.aJ rfl (qX 1 rfl (qN rfl))))
 have h00: ¬(s.length=0∨t.length=0):=fun h=>h.elim h0 h01;rw[beq_eq_false_iff_ne.2 (show (t.length:Int)≠0 by omega),if_neg h00];refine qU 1 rfl (ae.nil (AW.aH rfl (AW.skip (AW.seq (AW.seq (AW.region ?_))))));obtain ⟨n,hn⟩: ∃n,n=max s.length t.length:=⟨_,rfl⟩;rw[← hn];refine qU 2 rfl ?_;by_cases h1:n=1
 · rw[if_pos h1,beq_iff_eq.2 (show (n:Int)=1 by omega)];have g1:=mV (r:=s) (i:=0) (by omega);have g2:=mV (r:=t) (i:=0) (by omega);have cm:=C' (Qr (s.getD 0 0)) (Qr (t.getD 0 0)) (k:=k) (iG _ (sa 0)) (iG _ (sb 0)) (by omega);rw[dk,dk] at cm;refine ae.nil (AW.aJ rfl (AW.seq (AW.draw aS 8 (by kernel_rfl) ?_)));refine qP 1 rfl (ah.idx tok (Qr (s.getD 0 0)).D rfl rfl rfl rfl rfl (Int.le_refl _) g1 ?_);refine qP 2 rfl (ah.idx tok (Qr (t.getD 0 0)).D rfl rfl rfl rfl rfl (Int.le_refl _) g2 ?_);refine qP 1 rfl (qQ rfl cm (ah.mX tok rfl rfl rfl rfl rfl rfl ?_));exact ah.nil (qU 1 rfl (qN rfl))
 rw[if_neg h1,beq_eq_false_iff_ne.2 (show (n:Int)≠1 by omega)];refine ae.nil (AW.aH rfl (AW.skip ?_))
 obtain ⟨i,hi,hni⟩: ∃i,i≤l∧n=2^i:=by
  rcases ha with e | ⟨i,hi,e⟩
  · exact absurd e h0
  rcases hb with e2 | ⟨k,hk,e2⟩
  · exact absurd e2 h01
  by_cases h:s.length≤t.length
  · exact⟨k,hk,by rw[hn,Nat.max_eq_right h,e2]⟩
  · exact⟨i,hi,by rw[hn,Nat.max_eq_left (by omega),e]⟩
 have hsn:s.length≤n:=by omega
 have htn:t.length≤n:=by omega
 have hn9:n≤1024:=by omega
 clear hn;have wm:i≠0:=fun e=>h1 (by rw[hni,e]);obtain ⟨j,rfl⟩: ∃j,i=j+1:=⟨i-1,by omega⟩;obtain ⟨l',rfl⟩: ∃l',l=l'+1:=⟨l-1,by omega⟩;have hj:j≤l':=by omega
 have hR:=fun a' b' m h1 h2 h3 h4 h5=>hR l' rfl a' b' m h1 h2 h3 h4 h5;have hs0:=cD l' k;have hs1:=cD l' (sT l' k);have hk:sT l' (sT l' k)+sT l' k+1≤17300000000000:=hk;have cw1:=mh s n hsn (by omega);have cw2:=mh t n htn (by omega);have cp:=gi hni (by omega);have wa:=bK s n;have wb:=bK t n;have sa:=sa.wide n;have sb:=sb.wide n;generalize bo s n=A at *;generalize bo t n=B at *;have e0:=lM j;have hlog:n.log2-1=j:=by rw[hni,Nat.log2_two_pow];omega
 obtain ⟨e1,e2,e3⟩:=bF (wa.trans hni);obtain ⟨f1,f2,f3⟩:=bF (wb.trans hni);rw[hlog];obtain ⟨h,hh⟩: ∃h,h=n / 2:=⟨_,rfl⟩
 have hnh:n=h+h:=by
  have:2^(j+1)=2^j*2:=Nat.pow_succ ..;omega
 have hh2:h=2^j:=by rw[hh,hni,e0]
 rw[wa,← hh] at e1 e2;rw[wb,← hh] at f1 f2;rw[← hh];have hx:aA l' (A.take h):= .inr ⟨j,hj,e1⟩;have hy:aA l' (A.drop h):= .inr ⟨j,hj,e2⟩;have hu:aA l' (B.take h):= .inr ⟨j,hj,f1⟩;have hv:aA l' (B.drop h):= .inr ⟨j,hj,f2⟩;have hdl:=hrt j (by omega);have hd:aA l' (rt.getD j []):= .inr ⟨j,hj,hdl⟩;have r1:=hR _ _ k (ai _) hx hu (sa.take _) (sb.take _) (by omega);have r2:=hR _ _ k (ai _) hy hv (sa.drop _) (sb.drop _) (by omega);have r3:=hR _ _ k (ai _) hx hv (sa.take _) (sb.drop _) (by omega);have r4:=hR _ _ k (ai _) hy hu (sa.drop _) (sb.take _) (by omega);have r5:=hR _ _ (sT l' k) (by omega) r2.2.2.1 hd r2.2.2.2 ((sr _).mono (by omega)) (by omega);have n1:(R (A.take h) (B.take h)).length≤h:=Nat.le_trans r1.2.1 (Nat.max_le.2 ⟨by omega,by omega⟩);have n2:(R (A.drop h) (B.drop h)).length≤h:=Nat.le_trans r2.2.1 (Nat.max_le.2 ⟨by omega,by omega⟩);have n3:(R (A.take h) (B.drop h)).length≤h:=Nat.le_trans r3.2.1 (Nat.max_le.2 ⟨by omega,by omega⟩);have n4:(R (A.drop h) (B.take h)).length≤h:=Nat.le_trans r4.2.1 (Nat.max_le.2 ⟨by omega,by omega⟩);have n5:(R (R (A.drop h) (B.drop h)) (rt.getD j [])).length≤h:=Nat.le_trans r5.2.1 (Nat.max_le.2 ⟨n2,by omega⟩);have r1:=And.intro r1.1 r1.2.2;have r2:=And.intro r2.1 r2.2.2;have r3:=And.intro r3.1 r3.2.2;have r4:=And.intro r4.1 r4.2.2;have r5:=And.intro r5.1 r5.2.2;have p1:=nw (R (A.take h) (B.take h)) (R (R (A.drop h) (B.drop h)) (rt.getD j [])) (k:=sT l' (sT l' k)) (r1.2.2.mono (by omega)) r5.2.2 (by omega) (by omega) (by omega);have p2:=nw (R (A.take h) (B.drop h)) (R (A.drop h) (B.take h)) (k:=sT l' k) r3.2.2 r4.2.2 (by omega) (by omega) (by omega);have q1:(aX (R (A.take h) (B.take h)) (R (R (A.drop h) (B.drop h)) (rt.getD j []))).length≤h:=by rw[kf];exact Nat.max_le.2 ⟨n1,n5⟩
 have q2:(aX (R (A.take h) (B.drop h)) (R (A.drop h) (B.take h))).length≤h:=by rw[kf];exact Nat.max_le.2 ⟨n3,n4⟩
 have cw3:=kT (aX (R (A.take h) (B.take h)) (R (R (A.drop h) (B.drop h)) (rt.getD j []))) h q1 (by omega);have cw4:=kT (aX (R (A.take h) (B.drop h)) (R (A.drop h) (B.take h))) h q2 (by omega);unfold dR;refine qX 2 rfl (qM rfl cw1 (qU 2 rfl (qM rfl cw2 (qU 2 rfl (qK 1 rfl (qM rfl cp (qU 5 rfl (qI (AW.draw aS 19 (by kernel_rfl) ?_)))))))));refine qP 2 rfl (ah.div tok rfl rfl rfl rfl rfl (by decide) ?_);rw[iP _ (by omega),← hh];refine ah.hZ tok (a:=A) (A.take h) rfl rfl rfl rfl rfl trivial (aj h) (Nat.zero_le _) (show h≤A.length by omega) rfl ?_;refine qP 2 rfl (ah.div tok rfl rfl rfl rfl rfl (by decide) ?_);rw[iP _ (by omega),← hh];refine ah.hZ tok (a:=A) (A.drop h) rfl rfl rfl rfl rfl (aj h) trivial (show h≤A.length by omega) (ai _) (by show (A.take A.length).drop h=_;rw[List.take_length]) ?_;refine qP 2 rfl (ah.div tok rfl rfl rfl rfl rfl (by decide) ?_);rw[iP _ (by omega),← hh];refine ah.hZ tok (a:=B) (B.take h) rfl rfl rfl rfl rfl trivial (aj h) (Nat.zero_le _) (show h≤B.length by omega) rfl ?_;refine qP 2 rfl (ah.div tok rfl rfl rfl rfl rfl (by decide) ?_);rw[iP _ (by omega),← hh];refine ah.hZ tok (a:=B) (B.drop h) rfl rfl rfl rfl rfl (aj h) trivial (show h≤B.length by omega) (ai _) (by show (B.take B.length).drop h=_;rw[List.take_length]) ?_;refine qP 3 rfl (ah.nil (qU 1 rfl (ae.nil (AW.dJ [3,7,8,10,11,12,13] ?_))));show AW _ _ _ _ _ _ _ [(3,.bx [.sl 1 xs]),(7,.d (dI n)),(8,.d (dI (j+1:Nat))),(10,.d (aq (A.take h))),(11,.d (aq (A.drop h))),(12,.d (aq (B.take h))),(13,.d (aq (B.drop h)))];refine AW.seq (AW.draw aS 17 (by kernel_rfl) ?_);refine qP 3 rfl (qQ rfl r1.1 ?_);refine qP 4 rfl (qQ rfl r2.1 ?_);refine qP 4 rfl ?_;rw[aI (x:=((j+1:Nat):Int) -1) (by omega) (by omega),show ((j+1:Nat):Int) -1=(j:Int) by omega];refine ah.idx tok (aq (rt.getD j [])) rfl rfl rfl rfl rfl (aj j) (hxs j (by omega)) ?_;refine qP 1 rfl (qQ rfl r5.1 ?_);refine qQ rfl p1 (ah.nil (qU 1 rfl (qI (AW.draw aS 9 (by kernel_rfl) ?_))));refine qP 3 rfl (qQ rfl r3.1 ?_);refine qP 3 rfl (qQ rfl r4.1 ?_);refine qQ rfl p2 (ah.nil (qU 1 rfl (ae.nil ?_)));have l1:=bK (aX (R (A.take h) (B.take h)) (R (R (A.drop h) (B.drop h)) (rt.getD j []))) h;have l2:=bK (aX (R (A.take h) (B.drop h)) (R (A.drop h) (B.take h))) h;generalize aX (R (A.take h) (B.take h)) (R (R (A.drop h) (B.drop h)) (rt.getD j []))=P1 at *;generalize aX (R (A.take h) (B.drop h)) (R (A.drop h) (B.take h))=P2 at *;refine AW.dJ [7,14,15] ?_;show AW _ _ _ _ _ _ _ [(7,.d (dI n)),(14,.d (aq P1)),(15,.d (aq P2))];generalize bo P1 h=wa at *;generalize bo P2 h=wb at *;refine AW.seq (AZ.aw ?_);refine AZ.region ?_;refine ak.cut 3 rfl (fun B1 F1 w1=>?_);refine qU 2 rfl (ae.div tok rfl rfl rfl rfl (by decide) ?_);rw[iP _ (by omega),← hh];refine ae.nil ⟨rfl,?_⟩;refine ak.jF tok [] rfl rfl rfl rfl rfl List.nodup_nil rfl cw3 (fun _ _ _=>Nat.zero_le _) (fun res R1 hP=>?_);obtain ⟨V1,rfl,rfl⟩:=hP;refine ak.cut 3 rfl (fun B1 F1 w1=>?_);refine qU 2 rfl (ae.div tok rfl rfl rfl rfl (by decide) ?_);rw[iP _ (by omega),← hh];refine ae.nil ⟨rfl,?_⟩;refine ak.jF tok [] rfl rfl rfl rfl rfl List.nodup_nil rfl cw4 (fun _ _ _=>Nat.zero_le _) (fun res R1 hP=>?_);obtain ⟨V2,rfl,rfl⟩:=hP;refine ak.to [99,103] [(99,.d (.v V1)),(103,.d (.v V2))] rfl ?_;refine ak.fp 99 0 (V:=V1) (av:= .ow 68 (fv wa)) rfl rfl rfl ?_;refine ak.to [99,103] [(99,.ow 68 (fv wa)),(103,.d (.v V2))] rfl ?_;refine ak.fp 103 1 (V:=V2) (av:= .ow 68 (fv wb)) rfl rfl rfl ?_;refine ak.to [99,103] [(99,.ow 68 (fv wa)),(103,.ow 68 (fv wb))] rfl ?_;refine ak.cut 2 rfl (fun B1 F1 w1=>?_);refine ae.jh tok 103 rfl rfl ?_;refine ae.lB tok rfl rfl rfl rfl rfl rfl (by rw[af,af,l1,l2];show (_+_)*56≤_;omega) (by rw[af,af,l1,l2];omega) ?_;refine qU 1 rfl (ae.nil ⟨rfl,?_⟩);refine ak.nil ?_;rw[show fv wa++fv wb=fv (wa++wb) from List.map_append.symm];exact AW.ret rfl
theorem jX: ∀(l:Nat) {k:Nat} {rt:List NQ} {xs:List D} {a b:NQ},aA l a→aA l b→cP rt→l≤rt.length→l≤5→(∀j,j<rt.length→xs[j]?=some (aq (rt.getD j [])))→aE k a→aE k b→dt k rt→sT l k≤17300000000000→Pure Tryz.prog 157 [.ag [.sl 1 xs],aq a,aq b] (aq (gq l rt a b))
 | 0,k,rt,xs,a,b,ha,hb,hrt,hl,hl5,hxs,sa,sb,sr,hk=>s9 ha hb hrt hl hl5 hxs sa sb sr hk (fun l' h=>by omega)
 | l+1,k,rt,xs,a,b,ha,hb,hrt,hl,hl5,hxs,sa,sb,sr,hk=>s9 ha hb hrt hl hl5 hxs sa sb sr hk (fun l' e a' b' m hm h1 h2 h3 h4 h5=>by
    obtain rfl:l=l':=by omega
    exact⟨jX l h1 h2 hrt (by omega) (by omega) hxs h3 h4 (sr.mono hm) h5,C4 l h1 h2,gS l h1 h2 hrt (by omega) h3 h4 (sr.mono hm)⟩)
end Lift
