/- Parts of the proof, one behind the other: the logic, the contracts of the functions that the statement reaches. -/
import Derived.Test.YtebpenldlefgjaaGreatM1D
set_option linter.unusedVariables false
set_option linter.unusedSimpArgs false
namespace Lift
open Go Go.Proofs
abbrev fX(r:List NQ):AV:=AV.ow 52 (r.map ae)
def gq{α:Type}(zs xs:List α)(i:Nat):List α:=zs.take i++xs.drop i
theorem r7{α:Type}{zs xs:List α}(h:zs.length=xs.length){i:Nat}(hi:i≤xs.length):(gq zs xs i).length=xs.length:=by
 unfold gq;rw[List.length_append,List.length_take,List.length_drop,h];omega
theorem xc{α:Type}{zs xs:List α}(h:zs.length=xs.length){i:Nat}(hi:i<xs.length)(d:α):(gq zs xs i).getD i d=xs.getD i d:=by
 unfold gq;rw[List.getD_eq_getElem?_getD,List.getElem?_append_right (by rw[List.length_take];omega),List.length_take,h,List.getElem?_drop,List.getD_eq_getElem?_getD]
 congr 2;omega
theorem xb{α:Type}{zs xs:List α}(h:zs.length=xs.length){i:Nat}(hi:i<xs.length){d z:α}(hz:zs.getD i d=z):(gq zs xs i).set i z=gq zs xs (i+1):=by
 subst hz;refine List.ext_getElem? (fun c=>?_);by_cases hc:c=i
 · subst hc;rw[List.getElem?_set_self (by rw[r7 h (by omega)];exact hi)];unfold gq;rw[List.getElem?_append_left (by rw[List.length_take];omega),List.getElem?_take,if_pos (by omega)];have h1:c<zs.length:=by omega
   simp[h1]
 · rw[List.getElem?_set_ne (Ne.symm hc)];unfold gq;rcases Nat.lt_or_ge c i with g | g
   · rw[List.getElem?_append_left (by rw[List.length_take];omega),List.getElem?_append_left (by rw[List.length_take];omega),List.getElem?_take,List.getElem?_take,if_pos g,if_pos (by omega)]
   · rw[List.getElem?_append_right (by rw[List.length_take];omega),List.getElem?_append_right (by rw[List.length_take];omega),List.getElem?_drop,List.getElem?_drop,List.length_take,List.length_take]
     congr 1;omega
theorem ue{α:Type}(zs xs:List α):gq zs xs 0=xs:=by unfold gq;simp
theorem xe{α:Type}{zs xs:List α}(h:zs.length=xs.length):gq zs xs xs.length=zs:=by
 unfold gq;rw[List.drop_length,List.append_nil,← h,List.take_length]
section
variable {P:Program} {T:Ty} {B:Nat} {F0:Nat→Prop} {w0:bV} {n:Nat} {σ τ:St} {K:St→Prop} {all:Array Oper} {o:Oper} {d:Nat} {rest:List Oper}
theorem aa.mN(hT:bb P T){k e i:Nat}{r:List NQ}(q:NQ)(hd:o.dst=none)(hg:aA all σ o=true)(hx:zA T σ o.op=some (k,.ow e (r.map ae),r.map ae,i,0,ae q))(hi:i<r.length)
  (h:aa P B F0 w0 n all rest K ((k,.ow e ((r.set i q).map ae))::σ)):aa P B F0 w0 n all (o::rest) K σ:=by
 refine aa.jh hT (ae (r.getD i [])) hd hg hx (getM ae hi) rfl ?_;show aa P B F0 w0 n all rest K ((k,.ow e ((r.map ae).set i (ae q)))::σ);rw[show (r.map ae).set i (ae q)=(r.set i q).map ae from (List.map_set ..).symm];exact h
end
def nE(v:List NQ)(xs ys:List NQ)(c:NQ):List NQ:=(List.range xs.length).map fun k=>fB (xs.getD k []) (fV v c (ys.getD k []))
theorem oL(v:List NQ)(xs ys:List NQ)(c:NQ):(nE v xs ys c).length=xs.length:=by unfold nE;rw[List.length_map,List.length_range]
theorem tO(v:List NQ)(xs ys:List NQ)(c:NQ){k:Nat}(h:k<xs.length):(nE v xs ys c).getD k []=fB (xs.getD k []) (fV v c (ys.getD k [])):=by
 unfold nE;rw[List.getD_eq_getElem?_getD,List.getElem?_map,List.getElem?_range h];rfl
def BW(v:List NQ)(xs ys:List NQ)(c:NQ):Prop:= ∀k,k<xs.length→zK v c (ys.getD k [])∧Eo (xs.getD k []) (fV v c (ys.getD k []))
def Bi(V1 V2:Value)(zs ys:List NQ)(res:D)(R':List LR):Prop:=res=aq∧R'=[(V1,fX zs),(V2,fX ys)]
theorem vx{v:List NQ}(V:qR v){a b:NQ}(ha:ay v.length a)(hb:ay v.length b):ay v.length (fV v a b):=b6 (eS v.length ha hb V.ro (Nat.le_refl _))
theorem Dq{l:Nat}{a b:NQ}(ha:ay l a)(hb:ay l b):ay l (fB a b):=b6 (ha.plus hb.minus)
theorem D'{v:List NQ}(V:qR v){a b:NQ}(ha:ay v.length a)(hb:ay v.length b):ay v.length (AN v a b):=b6 (eS v.length ha (pf v.length hb V.ro (Nat.le_refl _)) V.ro (Nat.le_refl _))
set_option maxHeartbeats 3200000 in
theorem r8(V1 V2:Value){v:List NQ}(V:qR v){xs ys:List NQ}{c:NQ}(hl:ys.length=xs.length)(hl0:0<xs.length)(hl1:xs.length≤1000000)(hx: ∀k,ay v.length (xs.getD k []))(hy: ∀k,ay v.length (ys.getD k []))(hc:ay v.length c)(ok:BW v xs ys c):
  fS Tryz.prog 134 [aL v,.v V1,.v V2,ae c] [(V1,fX xs),(V2,fX ys)] (Bi V1 V2 (nE v xs ys c) ys):=by
 refine fS.intro (n:=47) tok Tryz.func134 rfl rfl rfl (Nat.le_of_ble_eq_true rfl) (by kernel_rfl) (fun B F0 w0=>?_);have hz:=oL v xs ys c;obtain ⟨zs,hzs⟩: ∃zs,nE v xs ys c=zs:=⟨_,rfl⟩;rw[hzs] at hz ⊢;refine AZ.seq ?_;refine AZ.dm (fun B1 F1 w1=>?_);refine qU 2 rfl ?_;refine aa.nil ⟨rfl,?_⟩;refine AZ.seq ?_;refine AZ.seq ?_;refine AZ.BL (fun B1 F1 w1 hS=>?_);refine qU 1 rfl ?_;refine aa.lens tok (hS.at (i:=0) rfl (by rw[List.length_map];exact hl0)) rfl rfl rfl rfl ?_;refine qU 1 rfl ?_;rw[List.length_map];refine aa.nil ⟨rfl,?_⟩;refine AZ.block ?_;refine AZ.aD [1,2,3,4,13,14] (fun i:Nat=>([(V1,fX (gq zs xs i)),(V2,fX ys)],[(1,.d (.v V1)),(2,.d (.v V2)),(3,.d (ae c)),(4,.bx [.sl 1 (v.map ae)]),(13,.d (dI xs.length)),(14,.d (dI i))])) (fun i=>i≤xs.length) (fun i=>xs.length-i) 0 (by rw[ue];rfl) (Nat.zero_le _) (fun i hi=>?_)
 · show AZ _ _ _ _ _ _ _ [(V1,fX (gq zs xs i)),(V2,fX ys)] [(1,.d (.v V1)),(2,.d (.v V2)),(3,.d (ae c)),(4,.bx [.sl 1 (v.map ae)]),(13,.d (dI xs.length)),(14,.d (dI i))];refine AZ.seq ?_;refine AZ.dm (fun B1 F1 w1=>?_);refine qU 1 rfl ?_;refine aa.nil ⟨rfl,?_⟩;refine AZ.seq ?_;refine AZ.cond rfl (fun h=>?_) (fun h=>?_)
   · have hin:i<xs.length:=by have:=of_decide_eq_true h;omega
     have hpl:=r7 hz (i:=i) (by omega);have hpg:=xc hz hin [];have hps:=xb hz hin (d:=[]) (show zs.getD i []=fB (xs.getD i []) (fV v c (ys.getD i [])) by rw[← hzs];exact tO v xs ys c hin);have hyi:i<ys.length:=by omega
     obtain ⟨okm,oks⟩:=ok i hin;have cm:=rn V hc (hy i) okm;have cs:=xX V (hx i) (vx V hc (hy i)) oks;generalize gq zs xs i=ps at *;generalize hX:xs.getD i []=X at *;generalize hY:ys.getD i []=Y at *;generalize fV v c Y=M at *;generalize fB X M=S at *;refine AZ.skip ?_;refine AZ.seq ?_;refine AZ.block ?_;refine AZ.seq ?_;refine AZ.dm (fun B1 F1 w1=>?_);refine qU 2 rfl ?_;refine aa.nil ⟨rfl,?_⟩;refine AZ.seq ?_;refine AZ.any aI (iW.pY 11 (by kernel_rfl) (fun B1 F1 w1 hS=>?_));have hS2:=hS.at (i:=1) rfl (by rw[List.length_map];omega);refine qP 4 rfl ?_;refine af.idxs tok hS2 rfl rfl rfl rfl rfl (Int.natCast_nonneg i) (by rw[List.length_map];exact hyi) ?_;refine af.aZ tok (ae (ys.getD i [])) hS2 rfl rfl rfl rfl rfl rfl rfl (getM ae hyi) rfl ?_;rw[hY];refine af.call tok rfl rfl rfl rfl rfl cm ?_;refine qP 4 rfl ?_;refine af.nil ⟨rfl,?_⟩;refine an.cut 1 rfl (fun B1 F1 w1=>?_);refine qU 1 rfl ?_;refine aa.nil ⟨rfl,?_⟩;refine an.nil ?_;refine AZ.to [1,2,3,4,9,10,11,13,14] [(1,.d (.v V1)),(2,.d (.v V2)),(3,.d (ae c)),(4,.bx [.sl 1 (v.map ae)]),(9,.d (dI i)),(10,.d (ae M)),(11,.d aq),(13,.d (dI xs.length)),(14,.d (dI i))] rfl ?_;refine AZ.seq ?_;refine AZ.seq ?_;refine AZ.dm (fun B1 F1 w1=>?_);refine qU 1 rfl ?_;refine aa.err tok rfl rfl rfl rfl rfl ?_;refine aa.nil ⟨rfl,?_⟩;refine AZ.ar rfl ?_;refine AZ.skip ?_;refine AZ.seq ?_;refine AZ.any aI (ZH.any (β:=[]) ?_);refine ZH.mv 0 rfl rfl (by kernel_rfl) (by kernel_rfl) (by kernel_rfl) rfl (fun _ _ _ h=>h) (fun _=>rfl) trivial (fun B1 F1 w1=>?_);refine qU 1 rfl ?_;refine aa.nil ⟨rfl,?_⟩;refine ZH.mv 1 rfl rfl (by kernel_rfl) (by kernel_rfl) (by kernel_rfl) rfl (fun _ _ _ h=>h) (fun _=>rfl) trivial (fun B1 F1 w1=>?_);refine qU 1 rfl ?_;refine aa.nil ⟨rfl,?_⟩;refine ZH.mv 3 rfl rfl (by kernel_rfl) (by kernel_rfl) (by kernel_rfl) rfl (fun _ _ _ h=>h) (fun _=>rfl) trivial (fun B1 F1 w1=>?_);refine qU 1 rfl ?_;refine aa.nil ⟨rfl,?_⟩;refine ZH.mv 4 rfl rfl (by kernel_rfl) (by kernel_rfl) (by kernel_rfl) rfl (fun _ _ _ h=>h) (fun _=>rfl) trivial (fun B1 F1 w1=>?_);refine qU 1 rfl ?_;refine aa.nil ⟨rfl,?_⟩;refine ZH.mv 7 rfl rfl (by kernel_rfl) (by kernel_rfl) (by kernel_rfl) rfl (fun _ _ _ h=>h) (fun _=>rfl) trivial (fun B1 F1 w1=>?_);refine qU 1 rfl ?_;refine aa.nil ⟨rfl,?_⟩;refine ZH.meet 0 (qB 15 32767) (fun V=>[(V1,fX (gq zs xs (i+1))),(V2,fX ys)]) (fun V=>[(1,.d (.v V1)),(2,.d (.v V2)),(3,.d (ae c)),(4,.bx [.sl 1 (v.map ae)]),(9,.d (dI i)),(10,.d (ae M)),(13,.d (dI xs.length)),(14,.d (dI i)),(31,.d (.v V1)),(32,.d (dI i)),(34,.d (.v V1)),(35,.d (dI i)),(38,.d (ae M)),(33,.d (aL v)),(36,.d (.v (aT V1 (i*1)))),(37,.d (ae X)),(39,.d (.tu [ae S,aq])),(30,.d (.tu [ae S,aq])),(40,.d (ae S)),(41,.d aq),(11,.d aq)]) (fun V=>?_) (fun N1_2_5_1_1=>?_)
     · refine ZH.done (by kernel_rfl) trivial ?_;refine AZ.to [1,2,3,4,11,13,14] [(1,.d (.v V1)),(2,.d (.v V2)),(3,.d (ae c)),(4,.bx [.sl 1 (v.map ae)]),(11,.d aq),(13,.d (dI xs.length)),(14,.d (dI i))] rfl ?_;refine AZ.seq ?_;refine AZ.dm (fun B1 F1 w1=>?_);refine qU 1 rfl ?_;refine aa.err tok rfl rfl rfl rfl rfl ?_;refine aa.nil ⟨rfl,?_⟩;refine AZ.ar rfl ?_;refine AZ.skip ?_;refine AZ.dm (fun B1 F1 w1=>?_);refine qU 1 rfl ?_;rw[au (x:=(i:Int)+1) (by omega) (by omega)];refine qU 1 rfl ?_;refine aa.nil ⟨rfl,?_⟩;exact⟨i+1,rfl,hin,by omega⟩
     refine ZH.meet 1 (qB 15 16383) (fun V=>[(V1,fX (gq zs xs (i+1))),(V2,fX ys)]) (fun V=>[(1,.d (.v V1)),(2,.d (.v V2)),(3,.d (ae c)),(4,.bx [.sl 1 (v.map ae)]),(9,.d (dI i)),(10,.d (ae M)),(13,.d (dI xs.length)),(14,.d (dI i)),(31,.d (.v V1)),(32,.d (dI i)),(34,.d (.v V1)),(35,.d (dI i)),(38,.d (ae M)),(33,.d (aL v)),(36,.d (.v (aT V1 (i*1)))),(37,.d (ae X)),(39,.d (.tu [ae S,aq])),(30,.d (.tu [ae S,aq])),(40,.d (ae S)),(41,.d aq)]) (fun V=>?_) (fun N1_2_5_1_0=>?_)
     · refine ZH.all 14 (by kernel_rfl) rfl rfl (fun _=>rfl) trivial ?_;refine ah (fun B1 F1 w1=>?_);refine qU 1 rfl ?_;refine aa.nil ⟨rfl,?_⟩;refine ZH.to [1,2,3,4,9,10,13,14,31,32,34,35,38,33,36,37,39,30,40,41,11] [(1,.d (.v V1)),(2,.d (.v V2)),(3,.d (ae c)),(4,.bx [.sl 1 (v.map ae)]),(9,.d (dI i)),(10,.d (ae M)),(13,.d (dI xs.length)),(14,.d (dI i)),(31,.d (.v V1)),(32,.d (dI i)),(34,.d (.v V1)),(35,.d (dI i)),(38,.d (ae M)),(33,.d (aL v)),(36,.d (.v (aT V1 (i*1)))),(37,.d (ae X)),(39,.d (.tu [ae S,aq])),(30,.d (.tu [ae S,aq])),(40,.d (ae S)),(41,.d aq),(11,.d aq)] rfl trivial ?_;exact ZH.ls _ (by kernel_rfl) (N1_2_5_1_1 V)
     refine ZH.meet 2 (qB 15 8191) (fun V=>[(V1,fX ps),(V2,fX ys)]) (fun V=>[(1,.d (.v V1)),(2,.d (.v V2)),(3,.d (ae c)),(4,.bx [.sl 1 (v.map ae)]),(9,.d (dI i)),(10,.d (ae M)),(13,.d (dI xs.length)),(14,.d (dI i)),(31,.d (.v V1)),(32,.d (dI i)),(34,.d (.v V1)),(35,.d (dI i)),(38,.d (ae M)),(33,.d (aL v)),(36,.d (.v (aT V1 (i*1)))),(37,.d (ae X)),(39,.d (.tu [ae S,aq])),(30,.d (.tu [ae S,aq])),(40,.d (ae S)),(42,.d (.v (aT V1 (i*1)))),(41,.d aq)]) (fun V=>?_) (fun N1_2_4_1_0=>?_)
     · refine ZH.all 13 (by kernel_rfl) rfl rfl (fun _=>rfl) trivial ?_;refine an.cy 31 0 rfl rfl rfl ?_;refine an.el tok 31 42 rfl (List.Mem.head _) rfl rfl rfl (by rw[List.length_map,hpl];exact hin) rfl ?_;refine an.cut 1 rfl (fun B1 F1 w1=>?_);refine aa.mN tok S rfl rfl rfl (by omega) ?_;rw[hps];refine aa.nil ⟨rfl,?_⟩;refine an.back 31 0 rfl rfl rfl (List.Mem.head _) rfl ?_;refine an.nil ?_;refine ZH.to [1,2,3,4,9,10,13,14,31,32,34,35,38,33,36,37,39,30,40,41] [(1,.d (.v V1)),(2,.d (.v V2)),(3,.d (ae c)),(4,.bx [.sl 1 (v.map ae)]),(9,.d (dI i)),(10,.d (ae M)),(13,.d (dI xs.length)),(14,.d (dI i)),(31,.d (.v V1)),(32,.d (dI i)),(34,.d (.v V1)),(35,.d (dI i)),(38,.d (ae M)),(33,.d (aL v)),(36,.d (.v (aT V1 (i*1)))),(37,.d (ae X)),(39,.d (.tu [ae S,aq])),(30,.d (.tu [ae S,aq])),(40,.d (ae S)),(41,.d aq)] rfl trivial ?_;exact ZH.ls _ (by kernel_rfl) (N1_2_5_1_0 V)
     refine ZH.meet 2 (qB 15 14335) (fun V=>[(V1,fX (gq zs xs (i+1))),(V2,fX ys)]) (fun V=>[(1,.d (.v V1)),(2,.d (.v V2)),(3,.d (ae c)),(4,.bx [.sl 1 (v.map ae)]),(9,.d (dI i)),(10,.d (ae M)),(13,.d (dI xs.length)),(14,.d (dI i)),(31,.d (.v V1)),(32,.d (dI i)),(34,.d (.v V1)),(35,.d (dI i)),(38,.d (ae M)),(33,.d (aL v)),(36,.d (.v (aT V1 (i*1)))),(37,.d (ae X)),(39,.d (.tu [ae S,aq])),(30,.d (.tu [ae S,aq])),(40,.d (ae S))]) (fun V=>?_) (fun N1_2_5_0_0=>?_)
     · refine ZH.all 11 (by kernel_rfl) rfl rfl (fun _=>rfl) trivial ?_;refine ah (fun B1 F1 w1=>?_);refine qU 1 rfl ?_;refine aa.nil ⟨rfl,?_⟩;refine ZH.to [1,2,3,4,9,10,13,14,31,32,34,35,38,33,36,37,39,30,40,41] [(1,.d (.v V1)),(2,.d (.v V2)),(3,.d (ae c)),(4,.bx [.sl 1 (v.map ae)]),(9,.d (dI i)),(10,.d (ae M)),(13,.d (dI xs.length)),(14,.d (dI i)),(31,.d (.v V1)),(32,.d (dI i)),(34,.d (.v V1)),(35,.d (dI i)),(38,.d (ae M)),(33,.d (aL v)),(36,.d (.v (aT V1 (i*1)))),(37,.d (ae X)),(39,.d (.tu [ae S,aq])),(30,.d (.tu [ae S,aq])),(40,.d (ae S)),(41,.d aq)] rfl trivial ?_;exact ZH.ls _ (by kernel_rfl) (N1_2_5_1_0 V)
     refine ZH.meet 3 (qB 15 4095) (fun V=>[(V1,fX ps),(V2,fX ys)]) (fun V=>[(1,.d (.v V1)),(2,.d (.v V2)),(3,.d (ae c)),(4,.bx [.sl 1 (v.map ae)]),(9,.d (dI i)),(10,.d (ae M)),(13,.d (dI xs.length)),(14,.d (dI i)),(31,.d (.v V1)),(32,.d (dI i)),(34,.d (.v V1)),(35,.d (dI i)),(38,.d (ae M)),(33,.d (aL v)),(36,.d (.v (aT V1 (i*1)))),(37,.d (ae X)),(39,.d (.tu [ae S,aq])),(30,.d (.tu [ae S,aq])),(40,.d (ae S)),(41,.d aq)]) (fun V=>?_) (fun N1_2_3_1_0=>?_)
     · refine ZH.all 12 (by kernel_rfl) rfl rfl (fun _=>rfl) trivial ?_;refine ao (fun B1 F1 w1 hS=>?_);refine aa.idxs tok (hS.at (i:=0) rfl (by rw[List.length_map];omega)) rfl rfl rfl rfl (Int.natCast_nonneg i) (by rw[List.length_map,hpl];exact hin) ?_;refine aa.nil ⟨rfl,?_⟩;refine ZH.to [1,2,3,4,9,10,13,14,31,32,34,35,38,33,36,37,39,30,40,42,41] [(1,.d (.v V1)),(2,.d (.v V2)),(3,.d (ae c)),(4,.bx [.sl 1 (v.map ae)]),(9,.d (dI i)),(10,.d (ae M)),(13,.d (dI xs.length)),(14,.d (dI i)),(31,.d (.v V1)),(32,.d (dI i)),(34,.d (.v V1)),(35,.d (dI i)),(38,.d (ae M)),(33,.d (aL v)),(36,.d (.v (aT V1 (i*1)))),(37,.d (ae X)),(39,.d (.tu [ae S,aq])),(30,.d (.tu [ae S,aq])),(40,.d (ae S)),(42,.d (.v (aT V1 (i*1)))),(41,.d aq)] rfl trivial ?_;exact ZH.ls _ (by kernel_rfl) (N1_2_4_1_0 V)
     refine ZH.meet 3 (qB 15 6143) (fun V=>[(V1,fX ps),(V2,fX ys)]) (fun V=>[(1,.d (.v V1)),(2,.d (.v V2)),(3,.d (ae c)),(4,.bx [.sl 1 (v.map ae)]),(9,.d (dI i)),(10,.d (ae M)),(13,.d (dI xs.length)),(14,.d (dI i)),(31,.d (.v V1)),(32,.d (dI i)),(34,.d (.v V1)),(35,.d (dI i)),(38,.d (ae M)),(33,.d (aL v)),(36,.d (.v (aT V1 (i*1)))),(37,.d (ae X)),(39,.d (.tu [ae S,aq])),(30,.d (.tu [ae S,aq])),(40,.d (ae S)),(42,.d (.v (aT V1 (i*1))))]) (fun V=>?_) (fun N1_2_4_0_0=>?_)
     · refine ZH.two 11 13 (by kernel_rfl) rfl rfl rfl rfl (fun _=>rfl) (fun _=>rfl) trivial ?_ ?_
       · refine ah (fun B1 F1 w1=>?_);refine qU 1 rfl ?_;refine aa.nil ⟨rfl,?_⟩;refine ZH.to [1,2,3,4,9,10,13,14,31,32,34,35,38,33,36,37,39,30,40,42,41] [(1,.d (.v V1)),(2,.d (.v V2)),(3,.d (ae c)),(4,.bx [.sl 1 (v.map ae)]),(9,.d (dI i)),(10,.d (ae M)),(13,.d (dI xs.length)),(14,.d (dI i)),(31,.d (.v V1)),(32,.d (dI i)),(34,.d (.v V1)),(35,.d (dI i)),(38,.d (ae M)),(33,.d (aL v)),(36,.d (.v (aT V1 (i*1)))),(37,.d (ae X)),(39,.d (.tu [ae S,aq])),(30,.d (.tu [ae S,aq])),(40,.d (ae S)),(42,.d (.v (aT V1 (i*1)))),(41,.d aq)] rfl trivial ?_;exact ZH.ls _ (by kernel_rfl) (N1_2_4_1_0 V)
       · refine an.cy 31 0 rfl rfl rfl ?_;refine an.el tok 31 42 rfl (List.Mem.head _) rfl rfl rfl (by rw[List.length_map,hpl];exact hin) rfl ?_;refine an.cut 1 rfl (fun B1 F1 w1=>?_);refine aa.mN tok S rfl rfl rfl (by omega) ?_;rw[hps];refine aa.nil ⟨rfl,?_⟩;refine an.back 31 0 rfl rfl rfl (List.Mem.head _) rfl ?_;refine an.nil ?_;refine ZH.to [1,2,3,4,9,10,13,14,31,32,34,35,38,33,36,37,39,30,40] [(1,.d (.v V1)),(2,.d (.v V2)),(3,.d (ae c)),(4,.bx [.sl 1 (v.map ae)]),(9,.d (dI i)),(10,.d (ae M)),(13,.d (dI xs.length)),(14,.d (dI i)),(31,.d (.v V1)),(32,.d (dI i)),(34,.d (.v V1)),(35,.d (dI i)),(38,.d (ae M)),(33,.d (aL v)),(36,.d (.v (aT V1 (i*1)))),(37,.d (ae X)),(39,.d (.tu [ae S,aq])),(30,.d (.tu [ae S,aq])),(40,.d (ae S))] rfl trivial ?_;exact ZH.ls _ (by kernel_rfl) (N1_2_5_0_0 V)
     refine ZH.meet 4 (qB 15 3071) (fun V=>[(V1,fX ps),(V2,fX ys)]) (fun V=>[(1,.d (.v V1)),(2,.d (.v V2)),(3,.d (ae c)),(4,.bx [.sl 1 (v.map ae)]),(9,.d (dI i)),(10,.d (ae M)),(13,.d (dI xs.length)),(14,.d (dI i)),(31,.d (.v V1)),(32,.d (dI i)),(34,.d (.v V1)),(35,.d (dI i)),(38,.d (ae M)),(33,.d (aL v)),(36,.d (.v (aT V1 (i*1)))),(37,.d (ae X)),(39,.d (.tu [ae S,aq])),(30,.d (.tu [ae S,aq])),(41,.d aq)]) (fun V=>?_) (fun N1_2_2_1_0=>?_)
     · refine ZH.all 10 (by kernel_rfl) rfl rfl (fun _=>rfl) trivial ?_;refine ah (fun B1 F1 w1=>?_);refine qU 1 rfl ?_;refine aa.nil ⟨rfl,?_⟩;refine ZH.to [1,2,3,4,9,10,13,14,31,32,34,35,38,33,36,37,39,30,40,41] [(1,.d (.v V1)),(2,.d (.v V2)),(3,.d (ae c)),(4,.bx [.sl 1 (v.map ae)]),(9,.d (dI i)),(10,.d (ae M)),(13,.d (dI xs.length)),(14,.d (dI i)),(31,.d (.v V1)),(32,.d (dI i)),(34,.d (.v V1)),(35,.d (dI i)),(38,.d (ae M)),(33,.d (aL v)),(36,.d (.v (aT V1 (i*1)))),(37,.d (ae X)),(39,.d (.tu [ae S,aq])),(30,.d (.tu [ae S,aq])),(40,.d (ae S)),(41,.d aq)] rfl trivial ?_;exact ZH.ls _ (by kernel_rfl) (N1_2_3_1_0 V)
     refine ZH.meet 4 (qB 15 2047) (fun V=>[(V1,fX ps),(V2,fX ys)]) (fun V=>[(1,.d (.v V1)),(2,.d (.v V2)),(3,.d (ae c)),(4,.bx [.sl 1 (v.map ae)]),(9,.d (dI i)),(10,.d (ae M)),(13,.d (dI xs.length)),(14,.d (dI i)),(31,.d (.v V1)),(32,.d (dI i)),(34,.d (.v V1)),(35,.d (dI i)),(38,.d (ae M)),(33,.d (aL v)),(36,.d (.v (aT V1 (i*1)))),(37,.d (ae X)),(39,.d (.tu [ae S,aq])),(30,.d (.tu [ae S,aq])),(40,.d (ae S))]) (fun V=>?_) (fun N1_2_3_0_0=>?_)
     · refine ZH.two 11 12 (by kernel_rfl) rfl rfl rfl rfl (fun _=>rfl) (fun _=>rfl) trivial ?_ ?_
       · refine ah (fun B1 F1 w1=>?_);refine qU 1 rfl ?_;refine aa.nil ⟨rfl,?_⟩;refine ZH.to [1,2,3,4,9,10,13,14,31,32,34,35,38,33,36,37,39,30,40,41] [(1,.d (.v V1)),(2,.d (.v V2)),(3,.d (ae c)),(4,.bx [.sl 1 (v.map ae)]),(9,.d (dI i)),(10,.d (ae M)),(13,.d (dI xs.length)),(14,.d (dI i)),(31,.d (.v V1)),(32,.d (dI i)),(34,.d (.v V1)),(35,.d (dI i)),(38,.d (ae M)),(33,.d (aL v)),(36,.d (.v (aT V1 (i*1)))),(37,.d (ae X)),(39,.d (.tu [ae S,aq])),(30,.d (.tu [ae S,aq])),(40,.d (ae S)),(41,.d aq)] rfl trivial ?_;exact ZH.ls _ (by kernel_rfl) (N1_2_3_1_0 V)
       · refine ao (fun B1 F1 w1 hS=>?_);refine aa.idxs tok (hS.at (i:=0) rfl (by rw[List.length_map];omega)) rfl rfl rfl rfl (Int.natCast_nonneg i) (by rw[List.length_map,hpl];exact hin) ?_;refine aa.nil ⟨rfl,?_⟩;refine ZH.to [1,2,3,4,9,10,13,14,31,32,34,35,38,33,36,37,39,30,40,42] [(1,.d (.v V1)),(2,.d (.v V2)),(3,.d (ae c)),(4,.bx [.sl 1 (v.map ae)]),(9,.d (dI i)),(10,.d (ae M)),(13,.d (dI xs.length)),(14,.d (dI i)),(31,.d (.v V1)),(32,.d (dI i)),(34,.d (.v V1)),(35,.d (dI i)),(38,.d (ae M)),(33,.d (aL v)),(36,.d (.v (aT V1 (i*1)))),(37,.d (ae X)),(39,.d (.tu [ae S,aq])),(30,.d (.tu [ae S,aq])),(40,.d (ae S)),(42,.d (.v (aT V1 (i*1))))] rfl trivial ?_;exact ZH.ls _ (by kernel_rfl) (N1_2_4_0_0 V)
     refine ZH.meet 5 (qB 15 1023) (fun V=>[(V1,fX ps),(V2,fX ys)]) (fun V=>[(1,.d (.v V1)),(2,.d (.v V2)),(3,.d (ae c)),(4,.bx [.sl 1 (v.map ae)]),(9,.d (dI i)),(10,.d (ae M)),(13,.d (dI xs.length)),(14,.d (dI i)),(31,.d (.v V1)),(32,.d (dI i)),(34,.d (.v V1)),(35,.d (dI i)),(38,.d (ae M)),(33,.d (aL v)),(36,.d (.v (aT V1 (i*1)))),(37,.d (ae X)),(39,.d (.tu [ae S,aq])),(30,.d (.tu [ae S,aq]))]) (fun V=>?_) (fun N1_2_2_0_0=>?_)
     · refine ZH.two 10 11 (by kernel_rfl) rfl rfl rfl rfl (fun _=>rfl) (fun _=>rfl) trivial ?_ ?_
       · refine ah (fun B1 F1 w1=>?_);refine qU 1 rfl ?_;refine aa.nil ⟨rfl,?_⟩;refine ZH.to [1,2,3,4,9,10,13,14,31,32,34,35,38,33,36,37,39,30,40] [(1,.d (.v V1)),(2,.d (.v V2)),(3,.d (ae c)),(4,.bx [.sl 1 (v.map ae)]),(9,.d (dI i)),(10,.d (ae M)),(13,.d (dI xs.length)),(14,.d (dI i)),(31,.d (.v V1)),(32,.d (dI i)),(34,.d (.v V1)),(35,.d (dI i)),(38,.d (ae M)),(33,.d (aL v)),(36,.d (.v (aT V1 (i*1)))),(37,.d (ae X)),(39,.d (.tu [ae S,aq])),(30,.d (.tu [ae S,aq])),(40,.d (ae S))] rfl trivial ?_;exact ZH.ls _ (by kernel_rfl) (N1_2_3_0_0 V)
       · refine ah (fun B1 F1 w1=>?_);refine qU 1 rfl ?_;refine aa.nil ⟨rfl,?_⟩;refine ZH.to [1,2,3,4,9,10,13,14,31,32,34,35,38,33,36,37,39,30,41] [(1,.d (.v V1)),(2,.d (.v V2)),(3,.d (ae c)),(4,.bx [.sl 1 (v.map ae)]),(9,.d (dI i)),(10,.d (ae M)),(13,.d (dI xs.length)),(14,.d (dI i)),(31,.d (.v V1)),(32,.d (dI i)),(34,.d (.v V1)),(35,.d (dI i)),(38,.d (ae M)),(33,.d (aL v)),(36,.d (.v (aT V1 (i*1)))),(37,.d (ae X)),(39,.d (.tu [ae S,aq])),(30,.d (.tu [ae S,aq])),(41,.d aq)] rfl trivial ?_;exact ZH.ls _ (by kernel_rfl) (N1_2_2_1_0 V)
     refine ZH.meet 6 (qB 15 511) (fun V=>[(V1,fX ps),(V2,fX ys)]) (fun V=>[(1,.d (.v V1)),(2,.d (.v V2)),(3,.d (ae c)),(4,.bx [.sl 1 (v.map ae)]),(9,.d (dI i)),(10,.d (ae M)),(13,.d (dI xs.length)),(14,.d (dI i)),(31,.d (.v V1)),(32,.d (dI i)),(34,.d (.v V1)),(35,.d (dI i)),(38,.d (ae M)),(33,.d (aL v)),(36,.d (.v (aT V1 (i*1)))),(37,.d (ae X)),(39,.d (.tu [ae S,aq]))]) (fun V=>?_) (fun N1_2_1_0_0=>?_)
     · refine ZH.all 9 (by kernel_rfl) rfl rfl (fun _=>rfl) trivial ?_;refine ah (fun B1 F1 w1=>?_);refine qU 1 rfl ?_;refine aa.nil ⟨rfl,?_⟩;refine ZH.to [1,2,3,4,9,10,13,14,31,32,34,35,38,33,36,37,39,30] [(1,.d (.v V1)),(2,.d (.v V2)),(3,.d (ae c)),(4,.bx [.sl 1 (v.map ae)]),(9,.d (dI i)),(10,.d (ae M)),(13,.d (dI xs.length)),(14,.d (dI i)),(31,.d (.v V1)),(32,.d (dI i)),(34,.d (.v V1)),(35,.d (dI i)),(38,.d (ae M)),(33,.d (aL v)),(36,.d (.v (aT V1 (i*1)))),(37,.d (ae X)),(39,.d (.tu [ae S,aq])),(30,.d (.tu [ae S,aq]))] rfl trivial ?_;exact ZH.ls _ (by kernel_rfl) (N1_2_2_0_0 V)
     refine ZH.meet 7 (qB 15 255) (fun V=>[(V1,fX ps),(V2,fX ys)]) (fun V=>[(1,.d (.v V1)),(2,.d (.v V2)),(3,.d (ae c)),(4,.bx [.sl 1 (v.map ae)]),(9,.d (dI i)),(10,.d (ae M)),(13,.d (dI xs.length)),(14,.d (dI i)),(31,.d (.v V1)),(32,.d (dI i)),(34,.d (.v V1)),(35,.d (dI i)),(38,.d (ae M)),(33,.d (aL v)),(36,.d (.v (aT V1 (i*1)))),(37,.d (ae X))]) (fun V=>?_) (fun N1_2_0_0_0=>?_)
     · refine ZH.all 8 (by kernel_rfl) rfl rfl (fun _=>rfl) trivial ?_;refine ah (fun B1 F1 w1=>?_);refine aa.call tok rfl rfl rfl rfl cs ?_;refine aa.nil ⟨rfl,?_⟩;refine ZH.to [1,2,3,4,9,10,13,14,31,32,34,35,38,33,36,37,39] [(1,.d (.v V1)),(2,.d (.v V2)),(3,.d (ae c)),(4,.bx [.sl 1 (v.map ae)]),(9,.d (dI i)),(10,.d (ae M)),(13,.d (dI xs.length)),(14,.d (dI i)),(31,.d (.v V1)),(32,.d (dI i)),(34,.d (.v V1)),(35,.d (dI i)),(38,.d (ae M)),(33,.d (aL v)),(36,.d (.v (aT V1 (i*1)))),(37,.d (ae X)),(39,.d (.tu [ae S,aq]))] rfl trivial ?_;exact ZH.ls _ (by kernel_rfl) (N1_2_1_0_0 V)
     refine ZH.meet 8 (qB 15 251) (fun V=>[(V1,fX ps),(V2,fX ys)]) (fun V=>[(1,.d (.v V1)),(2,.d (.v V2)),(3,.d (ae c)),(4,.bx [.sl 1 (v.map ae)]),(9,.d (dI i)),(10,.d (ae M)),(13,.d (dI xs.length)),(14,.d (dI i)),(31,.d (.v V1)),(32,.d (dI i)),(34,.d (.v V1)),(35,.d (dI i)),(38,.d (ae M)),(36,.d (.v (aT V1 (i*1)))),(37,.d (ae X))]) (fun V=>?_) (fun N0_2_0_0_0=>?_)
     · refine ZH.all 2 (by kernel_rfl) rfl rfl (fun _=>rfl) trivial ?_;refine ah (fun B1 F1 w1=>?_);refine qU 1 rfl ?_;refine aa.nil ⟨rfl,?_⟩;refine ZH.to [1,2,3,4,9,10,13,14,31,32,34,35,38,33,36,37] [(1,.d (.v V1)),(2,.d (.v V2)),(3,.d (ae c)),(4,.bx [.sl 1 (v.map ae)]),(9,.d (dI i)),(10,.d (ae M)),(13,.d (dI xs.length)),(14,.d (dI i)),(31,.d (.v V1)),(32,.d (dI i)),(34,.d (.v V1)),(35,.d (dI i)),(38,.d (ae M)),(33,.d (aL v)),(36,.d (.v (aT V1 (i*1)))),(37,.d (ae X))] rfl trivial ?_;exact ZH.ls _ (by kernel_rfl) (N1_2_0_0_0 V)
     refine ZH.meet 8 (qB 15 191) (fun V=>[(V1,fX ps),(V2,fX ys)]) (fun V=>[(1,.d (.v V1)),(2,.d (.v V2)),(3,.d (ae c)),(4,.bx [.sl 1 (v.map ae)]),(9,.d (dI i)),(10,.d (ae M)),(13,.d (dI xs.length)),(14,.d (dI i)),(31,.d (.v V1)),(32,.d (dI i)),(34,.d (.v V1)),(35,.d (dI i)),(38,.d (ae M)),(33,.d (aL v)),(36,.d (.v (aT V1 (i*1))))]) (fun V=>?_) (fun N1_1_0_0_0=>?_)
     · refine ZH.all 6 (by kernel_rfl) rfl rfl (fun _=>rfl) trivial ?_;refine ao (fun B1 F1 w1 hS=>?_);refine aa.aZ tok (ae (ps.getD i [])) (hS.at (i:=0) rfl (by rw[List.length_map];omega)) rfl rfl rfl rfl rfl rfl (getM ae (by omega)) rfl ?_;rw[hpg];refine aa.nil ⟨rfl,?_⟩;refine ZH.to [1,2,3,4,9,10,13,14,31,32,34,35,38,33,36,37] [(1,.d (.v V1)),(2,.d (.v V2)),(3,.d (ae c)),(4,.bx [.sl 1 (v.map ae)]),(9,.d (dI i)),(10,.d (ae M)),(13,.d (dI xs.length)),(14,.d (dI i)),(31,.d (.v V1)),(32,.d (dI i)),(34,.d (.v V1)),(35,.d (dI i)),(38,.d (ae M)),(33,.d (aL v)),(36,.d (.v (aT V1 (i*1)))),(37,.d (ae X))] rfl trivial ?_;exact ZH.ls _ (by kernel_rfl) (N1_2_0_0_0 V)
     refine ZH.meet 9 (qB 15 187) (fun V=>[(V1,fX ps),(V2,fX ys)]) (fun V=>[(1,.d (.v V1)),(2,.d (.v V2)),(3,.d (ae c)),(4,.bx [.sl 1 (v.map ae)]),(9,.d (dI i)),(10,.d (ae M)),(13,.d (dI xs.length)),(14,.d (dI i)),(31,.d (.v V1)),(32,.d (dI i)),(34,.d (.v V1)),(35,.d (dI i)),(38,.d (ae M)),(36,.d (.v (aT V1 (i*1))))]) (fun V=>?_) (fun N0_1_0_0_0=>?_)
     · refine ZH.two 2 6 (by kernel_rfl) rfl rfl rfl rfl (fun _=>rfl) (fun _=>rfl) trivial ?_ ?_
       · refine ah (fun B1 F1 w1=>?_);refine qU 1 rfl ?_;refine aa.nil ⟨rfl,?_⟩;refine ZH.to [1,2,3,4,9,10,13,14,31,32,34,35,38,33,36] [(1,.d (.v V1)),(2,.d (.v V2)),(3,.d (ae c)),(4,.bx [.sl 1 (v.map ae)]),(9,.d (dI i)),(10,.d (ae M)),(13,.d (dI xs.length)),(14,.d (dI i)),(31,.d (.v V1)),(32,.d (dI i)),(34,.d (.v V1)),(35,.d (dI i)),(38,.d (ae M)),(33,.d (aL v)),(36,.d (.v (aT V1 (i*1))))] rfl trivial ?_;exact ZH.ls _ (by kernel_rfl) (N1_1_0_0_0 V)
       · refine ao (fun B1 F1 w1 hS=>?_);refine aa.aZ tok (ae (ps.getD i [])) (hS.at (i:=0) rfl (by rw[List.length_map];omega)) rfl rfl rfl rfl rfl rfl (getM ae (by omega)) rfl ?_;rw[hpg];refine aa.nil ⟨rfl,?_⟩;refine ZH.to [1,2,3,4,9,10,13,14,31,32,34,35,38,36,37] [(1,.d (.v V1)),(2,.d (.v V2)),(3,.d (ae c)),(4,.bx [.sl 1 (v.map ae)]),(9,.d (dI i)),(10,.d (ae M)),(13,.d (dI xs.length)),(14,.d (dI i)),(31,.d (.v V1)),(32,.d (dI i)),(34,.d (.v V1)),(35,.d (dI i)),(38,.d (ae M)),(36,.d (.v (aT V1 (i*1)))),(37,.d (ae X))] rfl trivial ?_;exact ZH.ls _ (by kernel_rfl) (N0_2_0_0_0 V)
     refine ZH.meet 9 (qB 15 159) (fun V=>[(V1,fX ps),(V2,fX ys)]) (fun V=>[(1,.d (.v V1)),(2,.d (.v V2)),(3,.d (ae c)),(4,.bx [.sl 1 (v.map ae)]),(9,.d (dI i)),(10,.d (ae M)),(13,.d (dI xs.length)),(14,.d (dI i)),(31,.d (.v V1)),(32,.d (dI i)),(34,.d (.v V1)),(35,.d (dI i)),(38,.d (ae M)),(33,.d (aL v))]) (fun V=>?_) (fun N1_0_0_0_0=>?_)
     · refine ZH.all 5 (by kernel_rfl) rfl rfl (fun _=>rfl) trivial ?_;refine ao (fun B1 F1 w1 hS=>?_);refine aa.idxs tok (hS.at (i:=0) rfl (by rw[List.length_map];omega)) rfl rfl rfl rfl (Int.natCast_nonneg i) (by rw[List.length_map,hpl];exact hin) ?_;refine aa.nil ⟨rfl,?_⟩;refine ZH.to [1,2,3,4,9,10,13,14,31,32,34,35,38,33,36] [(1,.d (.v V1)),(2,.d (.v V2)),(3,.d (ae c)),(4,.bx [.sl 1 (v.map ae)]),(9,.d (dI i)),(10,.d (ae M)),(13,.d (dI xs.length)),(14,.d (dI i)),(31,.d (.v V1)),(32,.d (dI i)),(34,.d (.v V1)),(35,.d (dI i)),(38,.d (ae M)),(33,.d (aL v)),(36,.d (.v (aT V1 (i*1))))] rfl trivial ?_;exact ZH.ls _ (by kernel_rfl) (N1_1_0_0_0 V)
     refine ZH.meet 10 (qB 15 155) (fun V=>[(V1,fX ps),(V2,fX ys)]) (fun V=>[(1,.d (.v V1)),(2,.d (.v V2)),(3,.d (ae c)),(4,.bx [.sl 1 (v.map ae)]),(9,.d (dI i)),(10,.d (ae M)),(13,.d (dI xs.length)),(14,.d (dI i)),(31,.d (.v V1)),(32,.d (dI i)),(34,.d (.v V1)),(35,.d (dI i)),(38,.d (ae M))]) (fun V=>?_) (fun N0_0_0_0_0=>?_)
     · refine ZH.two 2 5 (by kernel_rfl) rfl rfl rfl rfl (fun _=>rfl) (fun _=>rfl) trivial ?_ ?_
       · refine ah (fun B1 F1 w1=>?_);refine qU 1 rfl ?_;refine aa.nil ⟨rfl,?_⟩;refine ZH.to [1,2,3,4,9,10,13,14,31,32,34,35,38,33] [(1,.d (.v V1)),(2,.d (.v V2)),(3,.d (ae c)),(4,.bx [.sl 1 (v.map ae)]),(9,.d (dI i)),(10,.d (ae M)),(13,.d (dI xs.length)),(14,.d (dI i)),(31,.d (.v V1)),(32,.d (dI i)),(34,.d (.v V1)),(35,.d (dI i)),(38,.d (ae M)),(33,.d (aL v))] rfl trivial ?_;exact ZH.ls _ (by kernel_rfl) (N1_0_0_0_0 V)
       · refine ao (fun B1 F1 w1 hS=>?_);refine aa.idxs tok (hS.at (i:=0) rfl (by rw[List.length_map];omega)) rfl rfl rfl rfl (Int.natCast_nonneg i) (by rw[List.length_map,hpl];exact hin) ?_;refine aa.nil ⟨rfl,?_⟩;refine ZH.to [1,2,3,4,9,10,13,14,31,32,34,35,38,36] [(1,.d (.v V1)),(2,.d (.v V2)),(3,.d (ae c)),(4,.bx [.sl 1 (v.map ae)]),(9,.d (dI i)),(10,.d (ae M)),(13,.d (dI xs.length)),(14,.d (dI i)),(31,.d (.v V1)),(32,.d (dI i)),(34,.d (.v V1)),(35,.d (dI i)),(38,.d (ae M)),(36,.d (.v (aT V1 (i*1))))] rfl trivial ?_;exact ZH.ls _ (by kernel_rfl) (N0_1_0_0_0 V)
     refine ZH.to [1,2,3,4,9,10,13,14,31,32,34,35,38] [(1,.d (.v V1)),(2,.d (.v V2)),(3,.d (ae c)),(4,.bx [.sl 1 (v.map ae)]),(9,.d (dI i)),(10,.d (ae M)),(13,.d (dI xs.length)),(14,.d (dI i)),(31,.d (.v V1)),(32,.d (dI i)),(34,.d (.v V1)),(35,.d (dI i)),(38,.d (ae M))] rfl trivial ?_;exact ZH.ls _ (by kernel_rfl) (N0_0_0_0_0 de)
   have hin:i=xs.length:=by have:=of_decide_eq_false h;omega
   subst hin;rw[xe hz];refine AZ.exit ?_;refine AZ.seq ?_;refine AZ.dm (fun B1 F1 w1=>?_);refine qU 1 rfl ?_;refine aa.nil ⟨rfl,?_⟩;exact AZ.ret ⟨aq,rfl,rfl,rfl⟩
end Lift
namespace Lift
abbrev il:=List (List NQ)
structure mq where
 rows:il
 cols:List Nat
 sg:Int
 det:NQ
def kZ(g:Nat→Bool):Nat→Nat→Nat
 | 0,i=>i
 | m+1,i=>if g i=true then i else kZ g m (i+1)
theorem AH{g:Nat→Bool}{n i:Nat}(h:i<n)(h0:g i=false):kZ g (n-i) i=kZ g (n-(i+1)) (i+1):=by
 rw[show n-i=(n-(i+1))+1 by omega,kZ,if_neg (by rw[h0];simp)]
theorem Cq{g:Nat→Bool}{n i:Nat}(h:i<n)(h0:g i=true):kZ g (n-i) i=i:=by
 rw[show n-i=(n-(i+1))+1 by omega,kZ,if_pos h0]
theorem Cr{g:Nat→Bool}{n i:Nat}(h: ¬i<n):kZ g (n-i) i=i:=by rw[show n-i=0 by omega,kZ]
theorem uk{g:Nat→Bool}: ∀{m i:Nat},i≤kZ g m i∧kZ g m i≤i+m∧(∀k,i≤k→k<kZ g m i→g k=false)∧(kZ g m i<i+m→g (kZ g m i)=true)
 | 0,i=>⟨Nat.le_refl _,Nat.le_refl _,fun k h1 h2=>by simp only[kZ] at h2;omega,fun h=>by simp only[kZ] at h;omega⟩
 | m+1,i=>by
   simp only[kZ];split
   · rename_i h;exact⟨Nat.le_refl _,by omega,fun k h1 h2=>by omega,fun _=>h⟩
   · rename_i h;obtain ⟨h1,h2,h3,h4⟩:=uk (g:=g) (m:=m) (i:=i+1);refine⟨by omega,by omega,fun k k1 k2=>?_,fun k=>h4 (by omega)⟩;by_cases e:k=i
     · subst e;simpa using h
     · exact h3 k (by omega) k2
def ib(a:il)(i k:Nat):NQ:=(a.getD i []).getD k []
def F7(v:List NQ)(a:il)(c j:Nat):Bool:=decide (xN v (ib a j c)≠0)
def EW(b:il)(r t:Nat):il:=(b.set t (b.getD r [])).set r (b.getD t [])
def eM(v:List NQ)(e:il)(r c:Nat):Nat→il
 | 0=>e
 | i+1=>if i≠r∧xN v (ib (eM v e r c i) i c)≠0 then (eM v e r c i).set i (nE v ((eM v e r c i).getD i []) ((eM v e r c i).getD r []) (ib (eM v e r c i) i c)) else eM v e r c i
def atR(v:List NQ)(s:mq)(c:Nat):Nat:=kZ (F7 v s.rows c) (s.rows.length-s.cols.length) s.cols.length
def bR(v:List NQ)(s:mq)(c:Nat):il:=if atR v s c=s.cols.length then s.rows else EW s.rows s.cols.length (atR v s c)
def pR(v:List NQ)(s:mq)(c:Nat):NQ:=ib (bR v s c) s.cols.length c
def xO(v:List NQ)(r:List NQ)(p:NQ):List NQ:=r.map (fun x=>AN v x p)
def eR(v:List NQ)(s:mq)(c:Nat):il:=(bR v s c).set s.cols.length (xO v ((bR v s c).getD s.cols.length []) (pR v s c))
def pI(v:List NQ)(s:mq)(c:Nat):mq :=
 if atR v s c<s.rows.length then ⟨eM v (eR v s c) s.cols.length c (eR v s c).length,s.cols++[c],if atR v s c=s.cols.length then s.sg else -s.sg,fV v s.det (pR v s c)⟩ else s
def fU(v:List NQ)(a:il):Nat→mq
 | 0=>⟨a,[],1,[1]⟩
 | c+1=>pI v (fU v a c) c
structure sP (v:List NQ) (s:mq) (c:Nat):Prop where
 sg: ∀j,s.cols.length≤j→j<s.rows.length→Av v (ib s.rows j c)
 det:atR v s c<s.rows.length→zK v s.det (pR v s c)
 div:atR v s c<s.rows.length→ ∀k,k<((bR v s c).getD s.cols.length []).length→BZ v (ib (bR v s c) s.cols.length k) (pR v s c)
 sg2:atR v s c<s.rows.length→ ∀i,i<s.rows.length→i≠s.cols.length→Av v (ib (eR v s c) i c)
 take:atR v s c<s.rows.length→ ∀i,i<s.rows.length→i≠s.cols.length→xN v (ib (eR v s c) i c)≠0→BW v ((eR v s c).getD i []) ((eR v s c).getD s.cols.length []) (ib (eR v s c) i c)
def iX(N:Nat)(a:il):Prop:= ∀j,j<a.length→(a.getD j []).length=N
def Ah(l:Nat)(a:il):Prop:= ∀j k,ay l (ib a j k)
theorem so(a:il)(i j:Nat)(r:List NQ):(a.set i r).getD j []=if j=i∧i<a.length then r else a.getD j []:=by
 rw[List.getD_eq_getElem?_getD,List.getElem?_set,List.getD_eq_getElem?_getD];by_cases e:i=j
 · subst e;by_cases h:i<a.length
   · rw[if_pos rfl,if_pos h,if_pos ⟨rfl,h⟩];rfl
   · rw[if_pos rfl,if_neg h,if_neg (fun e=>h e.2),List.getElem?_eq_none (by omega)]
 · rw[if_neg e,if_neg (fun h=>e h.1.symm)]
theorem vG{a:il}{i:Nat}(h:a.length≤i):a.getD i []=[]:=by rw[List.getD_eq_getElem?_getD,List.getElem?_eq_none h];rfl
theorem vF{r:List NQ}{i:Nat}(h:r.length≤i):r.getD i []=[]:=by rw[List.getD_eq_getElem?_getD,List.getElem?_eq_none h];rfl
theorem iX.set{N:Nat}{a:il}(h:iX N a){r:List NQ}(hr:r.length=N)(i:Nat):iX N (a.set i r):=fun j hj=>by
 rw[so];split
 · exact hr
 · exact h j (by simpa using hj)
theorem Ah.set{l:Nat}{a:il}(h:Ah l a){r:List NQ}(hr: ∀k,ay l (r.getD k []))(i:Nat):Ah l (a.set i r):=fun j k=>by
 unfold ib;rw[so];split
 · exact hr k
 · exact h j k
theorem Dm(b:il)(r t:Nat):(EW b r t).length=b.length:=by unfold EW;rw[List.length_set,List.length_set]
theorem Bm{N:Nat}{b:il}(h:iX N b){r t:Nat}(hr:r<b.length)(ht:t<b.length):iX N (EW b r t):=(h.set (h r hr) t).set (h t ht) r
theorem EV{l:Nat}{b:il}(h:Ah l b)(r t:Nat):Ah l (EW b r t):=(h.set (h r) t).set (h t) r
theorem vm(v:List NQ)(r:List NQ)(p:NQ):(xO v r p).length=r.length:=List.length_map ..
theorem zN(v:List NQ)(r:List NQ)(p:NQ){k:Nat}(h:k<r.length):(xO v r p).getD k []=AN v (r.getD k []) p:=by
 unfold xO;rw[List.getD_eq_getElem?_getD,List.getElem?_map,List.getD_eq_getElem?_getD,List.getElem?_eq_getElem h];rfl
theorem Ff{v:List NQ}(V:qR v){r:List NQ}{p:NQ}(hr: ∀k,ay v.length (r.getD k []))(hp:ay v.length p)(k:Nat):ay v.length ((xO v r p).getD k []):=by
 by_cases h:k<r.length
 · rw[zN v r p h];exact D' V (hr k) hp
 · rw[vF (by rw[vm];omega)];exact bY _
theorem Bj{v:List NQ}(V:qR v){xs ys:List NQ}{c:NQ}(hx: ∀k,ay v.length (xs.getD k []))(hy: ∀k,ay v.length (ys.getD k []))(hc:ay v.length c)(k:Nat):ay v.length ((nE v xs ys c).getD k []):=by
 by_cases h:k<xs.length
 · rw[tO v xs ys c h];exact Dq (hx k) (vx V hc (hy k))
 · rw[vF (by rw[oL];omega)];exact bY _
theorem lW(v:List NQ)(e:il)(r c:Nat): ∀i,(eM v e r c i).length=e.length
 | 0=>rfl
 | i+1=>by
   unfold eM;split
   · rw[List.length_set];exact lW v e r c i
   · exact lW v e r c i
theorem pA{N:Nat}{v:List NQ}{e:il}{r c:Nat}(h:iX N e): ∀i,i≤e.length→iX N (eM v e r c i)
 | 0,_=>h
 | i+1,hi=>by
   have ih:=pA (v:=v) (r:=r) (c:=c) h i (by omega);unfold eM;split
   · exact ih.set (by rw[oL];exact ih i (by rw[lW];omega)) i
   · exact ih
theorem vP{v:List NQ}(V:qR v){e:il}{r c:Nat}(h:Ah v.length e): ∀i,Ah v.length (eM v e r c i)
 | 0=>h
 | i+1=>by
   have ih:=vP V (r:=r) (c:=c) h i;unfold eM;split
   · exact ih.set (Bj V (ih i) (ih r) (ih i c)) i
   · exact ih
theorem ot(v:List NQ)(e:il)(r c:Nat): ∀i,(∀j,i≤j∨j=r→(eM v e r c i).getD j []=e.getD j [])
 | 0,j,_=>rfl
 | i+1,j,hj=>by
   have ih:=ot v e r c i j (by omega);unfold eM;split
   · rename_i h;rw[so,if_neg (fun g=>by rcases hj with hj | hj<;>omega)];exact ih
   · exact ih
theorem Ec(v:List NQ)(e:il)(r c:Nat)(i:Nat)(k:Nat):ib (eM v e r c i) i k=ib e i k:=by unfold ib;rw[ot v e r c i i (.inl (Nat.le_refl _))]
structure xK (v:List NQ) (m N c:Nat) (s:mq):Prop where
 len:s.rows.length=m
 rect:iX N s.rows
 lt:Ah v.length s.rows
 cl:s.cols.length≤c
 cm:s.cols.length≤m
 det:ay v.length s.det
 sg:s.sg=1∨s.sg= -1
theorem oB(v:List NQ)(s:mq)(c:Nat)(h:s.cols.length≤s.rows.length):s.cols.length≤atR v s c∧atR v s c≤s.rows.length∧(∀k,s.cols.length≤k→k<atR v s c→xN v (ib s.rows k c)=0)∧(atR v s c<s.rows.length→xN v (ib s.rows (atR v s c) c)≠0):=by
 obtain ⟨h1,h2,h3,h4⟩:=uk (g:=F7 v s.rows c) (m:=s.rows.length-s.cols.length) (i:=s.cols.length);refine⟨h1,by unfold atR;omega,fun k k1 k2=>?_,fun h=>?_⟩
 · have:=h3 k k1 k2;unfold F7 at this;exact Classical.byContradiction fun g=>by rw[decide_eq_true g] at this;cases this
 · exact of_decide_eq_true (h4 (by unfold atR at h;omega))
theorem CW{v:List NQ}{m N c k:Nat}{s:mq}(R:xK v m N k s)(h:atR v s c<s.rows.length):(bR v s c).length=m∧iX N (bR v s c)∧Ah v.length (bR v s c):=by
 have hl:=R.len;have:=(oB v s c (by have:=R.cm;omega)).1;unfold bR;split
 · exact⟨R.len,R.rect,R.lt⟩
 · exact⟨by rw[Dm];exact R.len,Bm R.rect (by omega) h,EV R.lt _ _⟩
theorem Ez{v:List NQ}(V:qR v){m N c k:Nat}{s:mq}(R:xK v m N k s)(h:atR v s c<s.rows.length):(eR v s c).length=m∧iX N (eR v s c)∧Ah v.length (eR v s c):=by
 obtain ⟨h1,h2,h3⟩:=CW (c:=c) R h;have hl:=R.len;have:=(oB v s c (by have:=R.cm;omega)).1;unfold eR;exact⟨by rw[List.length_set];exact h1,h2.set (by rw[vm];exact h2 _ (by omega)) _,h3.set (Ff V (h3 _) (h3 _ _)) _⟩
theorem Du{v:List NQ}(V:qR v){m N c:Nat}{s:mq}(R:xK v m N c s):xK v m N (c+1) (pI v s c):=by
 have hl:=R.len;have hc:=R.cl;unfold pI;split
 · rename_i h;obtain ⟨e1,e2,e3⟩:=Ez V (c:=c) R h;have ha:=(oB v s c (by have:=R.cm;omega)).1;refine⟨by rw[lW];exact e1,pA e2 _ (Nat.le_refl _),vP V e3 _,?_,?_,vx V R.det ((CW R h).2.2 _ _),?_⟩
   · show (s.cols++[c]).length≤c+1;rw[List.length_append];show s.cols.length+1≤_;omega
   · show (s.cols++[c]).length≤m;rw[List.length_append];show s.cols.length+1≤_;omega
   · rcases R.sg with h1 | h1<;>(show (if _ then s.sg else -s.sg)=1∨_= -1;split<;>simp[h1])
 · exact⟨R.len,R.rect,R.lt,by omega,R.cm,R.det,R.sg⟩
theorem yh{v:List NQ}(V:qR v){a:il}{N:Nat}(hr:iX N a)(hl:Ah v.length a): ∀c,xK v a.length N c (fU v a c)
 | 0=>⟨rfl,hr,hl,Nat.le_refl _,Nat.zero_le _,dA _ _,.inl rfl⟩
 | c+1=>Du V (yh V hr hl c)
theorem zE(v:List NQ): ∀c,fU v [] c=⟨[],[],1,[1]⟩
 | 0=>rfl
 | c+1=>by
   show pI v (fU v [] c) c=_;rw[zE v c];unfold pI;exact if_neg (Nat.not_lt_zero _)
end Lift
namespace Lift
open Go Go.Proofs
abbrev tI(Vs:List Value):List D:=Vs.map D.v
theorem bI{Vs:List Value}{i:Nat}(h:i<Vs.length):(tI Vs)[i]?=some (.v (Vs.getD i undef)):=by simp[h]
abbrev OA(Vs:List Value):AV:=AV.ow 27 (tI Vs)
abbrev CA(cols:List Nat):AV:=AV.ow 3 (cols.map (fun c:Nat=>dI c))
def bJ(Vs:List Value)(a:il):List LR:=List.zipWith (fun V r=>(V,fX r)) Vs a
theorem Da{Vs:List Value}{a:il}(h:Vs.length=a.length)(V:Value)(r:List NQ):bJ (Vs++[V]) (a++[r])=bJ Vs a++[(V,fX r)]:=by
 unfold bJ;rw[List.zipWith_append h];rfl
theorem iC{Vs:List Value}{a:il}{j:Nat}(hV:j<Vs.length)(ha:j<a.length):(bJ Vs a)[j]?=some (Vs.getD j undef,fX (a.getD j [])):=by
 unfold bJ;simp[List.getElem?_zipWith,hV,ha]
theorem sR{Vs:List Value}{a:il}{j:Nat}(hV:j<Vs.length)(ha:j<a.length)(V:Value)(r:List NQ):(bJ Vs a).set j (V,fX r)=bJ (Vs.set j V) (a.set j r):=by
 unfold bJ;refine List.ext_getElem? (fun k=>?_);by_cases hk:k=j
 · subst hk;rw[List.getElem?_set_self (by simp;omega)];simp[List.getElem?_zipWith,hV,ha]
 · rw[List.getElem?_set_ne (Ne.symm hk)];simp[List.getElem?_zipWith,List.getElem?_set_ne (Ne.symm hk)]
theorem BC{Vs:List Value}{j:Nat}(hV:j<Vs.length):Vs.set j (Vs.getD j undef)=Vs:=by
 refine List.ext_getElem? (fun k=>?_);by_cases hk:k=j
 · subst hk;rw[List.getElem?_set_self hV];simp[hV]
 · rw[List.getElem?_set_ne (Ne.symm hk)]
theorem wu{a:il}{j:Nat}(ha:j<a.length):a.set j (a.getD j [])=a:=by
 refine List.ext_getElem? (fun k=>?_);by_cases hk:k=j
 · subst hk;rw[List.getElem?_set_self ha];simp[ha]
 · rw[List.getElem?_set_ne (Ne.symm hk)]
theorem qV{Vs:List Value}{a:il}{j:Nat}(hV:j<Vs.length)(ha:j<a.length)(r:List NQ):(bJ Vs a).set j (Vs.getD j undef,fX r)=bJ Vs (a.set j r):=by
 rw[sR hV ha,BC hV]
def FM(Vs:List Value)(r t:Nat):List Value:=(Vs.set t (Vs.getD r undef)).set r (Vs.getD t undef)
theorem Dn(Vs:List Value)(r t:Nat):(FM Vs r t).length=Vs.length:=by unfold FM;rw[List.length_set,List.length_set]
theorem C'{Vs:List Value}{a:il}{r t:Nat}(h:Vs.length=a.length)(hr:r<a.length)(ht:t<a.length):
  ((bJ Vs a).set t (Vs.getD r undef,fX (a.getD r []))).set r (Vs.getD t undef,fX (a.getD t []))=bJ (FM Vs r t) (EW a r t):=by
 rw[sR (by omega) ht,sR (by simp;omega) (by simp;omega)];rfl
theorem C9{Vs:List Value}{a:il}{i r:Nat}(h:Vs.length=a.length)(hi:i<a.length)(hr:r<a.length)(hir:i≠r)(z:List NQ):
  ((bJ Vs a).set i (Vs.getD i undef,fX z)).set r (Vs.getD r undef,fX (a.getD r []))=bJ Vs (a.set i z):=by
 rw[qV (by omega) hi];have e:a.getD r []=(a.set i z).getD r []:=by rw[so,if_neg (fun g=>hir g.1.symm)]
 rw[e,qV (by omega) (by simpa using hr),wu (by simpa using hr)]
section
variable {P:Program} {T:Ty} {B:Nat} {F0:Nat→Prop} {w0:bV} {n:Nat} {σ τ:St} {K:St→Prop} {all:Array Oper} {o:Oper} {d:Nat} {rest:List Oper} {R:List LR} {x:Code} {Q:Exit→List LR→St→Prop}
theorem aa.zq(hT:bb P T){k e i:Nat}{Vs:List Value}(V:Value)(hd:o.dst=none)(hg:aA all σ o=true)(hx:zA T σ o.op=some (k,.ow e (tI Vs),tI Vs,i,0,.v V))(hi:i<Vs.length)
  (h:aa P B F0 w0 n all rest K ((k,.ow e (tI (Vs.set i V)))::σ)):aa P B F0 w0 n all (o::rest) K σ:=by
 refine aa.jh hT (.v (Vs.getD i undef)) hd hg hx (bI hi) rfl ?_;show aa P B F0 w0 n all rest K ((k,.ow e ((tI Vs).set i (.v V)))::σ);rw[show (tI Vs).set i (.v V)=tI (Vs.set i V) from (List.map_set ..).symm];exact h
theorem AZ.Cs(hT:bb P T){e eo:Nat}{te:TI}(he:T.get e=some te)(h1:te.size=1){Vr:Value}{X:LR}{Vs:List Value}{a:il}(hl:Vs.length=a.length)
  (h:AZ P B F0 w0 n x Q [(Vr,.ow eo (a.map gx)),X] σ): ∀(m k:Nat),m+k=a.length→ ∀L:List LR,(∀j,k≤j→j<a.length→L[j]?=some (Vs.getD j undef,.ow e ((a.getD j []).map ae))) →
  AZ P B F0 w0 n x Q ((Vr,.ow eo ((a.take k).map gx++(tI Vs).drop k))::X::L) σ
 | 0,k,hk,L,hL=>by
   rw[List.take_of_length_le (by omega),List.drop_eq_nil_of_le (by rw[List.length_map];omega),List.append_nil];refine AZ.z7 _ (fun i r hr=> .inl ?_) h
   match i,hr with
   | 0,hr=>exact hr
   | 1,hr=>exact hr
 | m+1,k,hk,L,hL=>by
   have hka:k<a.length:=by omega
   have hll:k<L.length:=(List.getElem?_eq_some_iff.1 (hL k (Nat.le_refl _) hka)).1;have hft:((a.take k).map gx).length=k:=by rw[List.length_map,List.length_take];omega
   refine AZ.Fl hT (k+2) 0 k (cs:=(a.take k).map gx++(tI Vs).drop k) rfl (fun d hd=>?_) ?_ (hL k (Nat.le_refl _) hka) (by omega) he ?_
   · rcases List.mem_append.1 hd with g | g
     · obtain ⟨r,_,rfl⟩:=List.mem_map.1 g;rfl
     · obtain ⟨V,_,rfl⟩:=List.mem_map.1 (List.mem_of_mem_drop g);rfl
   · rw[List.getElem?_append_right (by omega),hft,Nat.sub_self,List.getElem?_drop,Nat.add_zero];exact bI (by omega)
   · have e1:((a.take k).map gx++(tI Vs).drop k).set k (.sl te.size ((a.getD k []).map ae))=(a.take (k+1)).map gx++(tI Vs).drop (k+1):=by
      rw[h1,List.set_append_right _ _ (by omega),hft,Nat.sub_self,List.take_succ_eq_append_getElem hka,List.map_append]
      have:(tI Vs).drop k= .v (Vs.getD k undef)::(tI Vs).drop (k+1):=by
       rw[List.drop_eq_getElem_cons (by rw[List.length_map];omega)]
       congr 1
       have:=bI (Vs:=Vs) (i:=k) (by omega);rw[List.getElem?_eq_getElem (by rw[List.length_map];omega)] at this;simpa using this
      rw[this,List.set_cons_zero,List.append_assoc];have g:a[k]=a.getD k []:=by rw[List.getD_eq_getElem?_getD,List.getElem?_eq_getElem hka];rfl
      rw[g];rfl
     show AZ P B F0 w0 n x Q ((Vr,.ow eo (((a.take k).map gx++(tI Vs).drop k).set k (.sl te.size ((a.getD k []).map ae))))::X::L.set k (Vs.getD k undef,.junk)) σ;rw[e1]
     exact AZ.Cs hT he h1 hl h m (k+1) (by omega) (L.set k (Vs.getD k undef,.junk)) (fun j hj hja=>by
      rw[List.getElem?_set_ne (by omega)];exact hL j (by omega) hja)
end
abbrev Eh(s:mq):D:= .ag [gT s.rows,.sl 1 (s.cols.map (fun c:Nat=>dI c)),dI s.sg,ae s.det]
set_option maxHeartbeats 12800000 in
theorem o8{v:List NQ}(V:qR v){a:il}{N most:Nat}(ha0:0<a.length)(ha:a.length≤1000000)(hN:N≤1000000)(hmost:most≤N)(hr:iX N a)(hl:Ah v.length a)(ok: ∀c,c<most→sP v (fU v a c) c):
  Pure Tryz.prog 89 [aL v,gT a,dI most] (.tu [Eh (fU v a most),aq]):=by
 refine qJ 205 Tryz.func89 rfl rfl rfl rfl (by kernel_rfl) (fun B F0 w0=>?_);have cone:=gH (Qr ((1:Int):Rat)) (k:=1) (eN _ (by have:=eO;rw[show ((1:Int):Rat)=1 from rfl];omega)) (by decide) (by decide) (xL _);rw[bH,show np ((1:Int):Rat)=[1] from rfl] at cone;have htk:=fun {i:Nat} (hi:i<a.length)=>List.take_succ_eq_append_getElem (l:=a) hi;refine AZ.aw ?_;refine AZ.seq ?_;refine AZ.dm (fun B1 F1 w1=>?_);refine qU 3 rfl ?_;refine aa.nil ⟨rfl,?_⟩;refine AZ.seq ?_;refine AZ.dm (fun B1 F1 w1=>?_);refine aa.call tok rfl rfl rfl rfl (fQ 1 (by decide) (by decide)) ?_;refine aa.call tok rfl rfl rfl rfl cone ?_;refine aa.Fu tok [.v de,.v de,dI 0,.sl 3 []] rfl rfl rfl rfl (by kernel_rfl) ?_;refine qU 2 rfl ?_;refine aa.nil ⟨rfl,?_⟩;refine AZ.vt 27 ?_;refine AZ.vt 3 ?_;refine AZ.seq ?_;refine AZ.seq ?_;refine AZ.dm (fun B1 F1 w1=>?_);refine qU 2 rfl ?_;rw[List.length_map];refine qU 1 rfl ?_;refine aa.nil ⟨rfl,?_⟩;refine AZ.block ?_;refine AZ.aD [2,3,6,7,8,22,23,24] (fun s:Nat×Value×List Value=>((s.2.1,OA s.2.2)::(de,CA [])::bJ s.2.2 (a.take s.1),[(2,.d (dI most)),(3,.bx [.sl 1 (v.map ae)]),(6,.bx [.sl 1 [],.sl 1 [],dI 0,.sl 3 []]),(7,.d aq),(8,.bx [.v s.2.1,.v de,dI 1,ae [1]]),(22,.d (gT a)),(23,.d (dI a.length)),(24,.d (dI s.1))])) (fun s=>s.1≤a.length∧s.2.2.length=s.1) (fun s=>a.length-s.1) (0,de,[]) rfl ⟨Nat.zero_le _,rfl⟩ (fun s hs=>?_);obtain ⟨i,Vr,Vs⟩:=s;obtain ⟨hi,hVs⟩:=hs
 dsimp only at hi hVs
 show AZ _ _ _ _ _ _ _ ((Vr,OA Vs)::(de,CA [])::bJ Vs (a.take i)) [(2,.d (dI most)),(3,.bx [.sl 1 (v.map ae)]),(6,.bx [.sl 1 [],.sl 1 [],dI 0,.sl 3 []]),(7,.d aq),(8,.bx [.v Vr,.v de,dI 1,ae [1]]),(22,.d (gT a)),(23,.d (dI a.length)),(24,.d (dI i))];refine AZ.seq ?_;refine AZ.dm (fun B1 F1 w1=>?_);refine qU 1 rfl ?_;refine aa.nil ⟨rfl,?_⟩;refine AZ.seq ?_;refine AZ.cond rfl (fun h=>?_) (fun h=>?_)
 · have hii:i<a.length:=by have:=of_decide_eq_true h;omega
   have hg:=getM gx (l:=a) (i:=i) hii;have hrl:(a.getD i []).length≤1000000:=by rw[hr i hii];exact hN
   have htk:=htk hii;have hge:a[i]=a.getD i []:=by rw[List.getD_eq_getElem?_getD,List.getElem?_eq_getElem hii];rfl
   rw[hge] at htk;generalize a.getD i []=row at hg hrl htk;refine AZ.skip ?_;refine AZ.seq ?_;refine AZ.block ?_;refine AZ.seq ?_;refine AZ.dm (fun B1 F1 w1=>?_);refine aa.idx tok (gx row) rfl rfl rfl rfl (Int.natCast_nonneg i) hg ?_;refine qU 2 rfl ?_;refine aa.nil ⟨rfl,?_⟩;refine AZ.any aI (ZH.any (β:=[]) ?_);refine ZH.mv 2 rfl rfl (by kernel_rfl) (by kernel_rfl) (by kernel_rfl) rfl (fun _ _ _ h=>h) (fun _=>rfl) trivial (fun B1 F1 w1=>?_);refine qU 1 rfl ?_;refine aa.nil ⟨rfl,?_⟩;refine ZH.fd tok 0 rfl rfl (by kernel_rfl) (by kernel_rfl) (by kernel_rfl) rfl (fun _ _ _ h=>h) (fun _=>rfl) trivial (fun B1 F1 w1=>?_);refine qU 1 rfl ?_;refine aa.nil ⟨rfl,?_⟩;refine ZH.meet 3 (qB 8 31) (fun V=>(((Vr,OA Vs)::(de,CA [])::bJ Vs (a.take i))++[(V,fX row)])) (fun V=>[(2,.d (dI most)),(3,.bx [.sl 1 (v.map ae)]),(6,.bx [.sl 1 [],.sl 1 [],dI 0,.sl 3 []]),(7,.d aq),(8,.bx [.v Vr,.v de,dI 1,ae [1]]),(22,.d (gT a)),(23,.d (dI a.length)),(24,.d (dI i)),(10,.d (gx row)),(30,.d (gx row)),(28,.pt 8 0),(29,.d (.v Vr)),(31,.d (.v V)),(32,.d (.sl 1 [.v V]))]) (fun V=>?_) (fun N1_2=>?_)
   · refine ZH.all 5 (by kernel_rfl) rfl rfl (fun _=>rfl) trivial ?_;refine an.cy 29 0 rfl rfl rfl ?_;refine an.cut 1 rfl (fun B1 F1 w1=>?_);refine aa.kI tok rfl rfl rfl rfl rfl rfl (by show ((tI Vs).length+1)*24≤_;rw[List.length_map];omega) (by show (tI Vs).length+1≤_;rw[List.length_map];omega) ?_;refine aa.nil ⟨rfl,?_⟩;refine an.xk 33 0 rfl rfl rfl rfl (fun Vq=>?_)
     refine an.sB (R':=(Vq,OA (Vs++[V]))::(de,CA [])::bJ (Vs++[V]) (a.take (i+1))) (by
      show (Vq,AV.ow 27 (tI Vs++[.v V]))::(de,CA [])::(bJ Vs (a.take i)++[(V,fX row)])=_
      rw[htk,Da (by rw[List.length_take];omega),show tI Vs++[.v V]=tI (Vs++[V]) by simp]) ?_
     refine an.nil ?_;refine ZH.to [2,3,6,7,8,22,23,24,10,30,28,32,33] [(2,.d (dI most)),(3,.bx [.sl 1 (v.map ae)]),(6,.bx [.sl 1 [],.sl 1 [],dI 0,.sl 3 []]),(7,.d aq),(8,.bx [.v Vr,.v de,dI 1,ae [1]]),(22,.d (gT a)),(23,.d (dI a.length)),(24,.d (dI i)),(10,.d (gx row)),(30,.d (gx row)),(28,.pt 8 0),(32,.d (.sl 1 [.v V])),(33,.d (.v Vq))] rfl trivial ?_;refine ZH.all 6 (by kernel_rfl) rfl rfl (fun _=>rfl) trivial ?_;refine ah (fun B1 F1 w1=>?_);refine qU 1 rfl ?_;refine aa.nil ⟨rfl,?_⟩;refine ZH.all 7 (by kernel_rfl) rfl rfl (fun _=>rfl) trivial ?_;refine ah (fun B1 F1 w1=>?_);refine qU 1 rfl ?_;refine aa.nil ⟨rfl,?_⟩;refine ZH.done (by kernel_rfl) trivial ?_;refine AZ.to [2,3,6,7,8,22,23,24] [(2,.d (dI most)),(3,.bx [.sl 1 (v.map ae)]),(6,.bx [.sl 1 [],.sl 1 [],dI 0,.sl 3 []]),(7,.d aq),(8,.bx [.v Vq,.v de,dI 1,ae [1]]),(22,.d (gT a)),(23,.d (dI a.length)),(24,.d (dI i))] rfl ?_;refine AZ.dm (fun B1 F1 w1=>?_);refine qU 1 rfl ?_;rw[au (x:=(i:Int)+1) (by omega) (by omega)];refine qU 1 rfl ?_;refine aa.nil ⟨rfl,?_⟩;exact⟨(i+1,Vq,Vs++[V]),rfl,⟨hii,by show (Vs++[V]).length=i+1;rw[List.length_append];show Vs.length+1=_;omega⟩,by show a.length-(i+1)<a.length-i;omega⟩
   refine ZH.meet 4 (qB 8 29) (fun V=>(((Vr,OA Vs)::(de,CA [])::bJ Vs (a.take i))++[(V,fX row)])) (fun V=>[(2,.d (dI most)),(3,.bx [.sl 1 (v.map ae)]),(6,.bx [.sl 1 [],.sl 1 [],dI 0,.sl 3 []]),(7,.d aq),(8,.bx [.v Vr,.v de,dI 1,ae [1]]),(22,.d (gT a)),(23,.d (dI a.length)),(24,.d (dI i)),(10,.d (gx row)),(30,.d (gx row)),(28,.pt 8 0),(31,.d (.v V)),(32,.d (.sl 1 [.v V]))]) (fun V=>?_) (fun N0_2=>?_)
   · refine ZH.all 1 (by kernel_rfl) rfl rfl (fun _=>rfl) trivial ?_;refine ah (fun B1 F1 w1=>?_);refine qU 1 rfl ?_;refine aa.nil ⟨rfl,?_⟩;refine ZH.to [2,3,6,7,8,22,23,24,10,30,28,29,31,32] [(2,.d (dI most)),(3,.bx [.sl 1 (v.map ae)]),(6,.bx [.sl 1 [],.sl 1 [],dI 0,.sl 3 []]),(7,.d aq),(8,.bx [.v Vr,.v de,dI 1,ae [1]]),(22,.d (gT a)),(23,.d (dI a.length)),(24,.d (dI i)),(10,.d (gx row)),(30,.d (gx row)),(28,.pt 8 0),(29,.d (.v Vr)),(31,.d (.v V)),(32,.d (.sl 1 [.v V]))] rfl trivial ?_;exact ZH.ls _ (by kernel_rfl) (N1_2 V)
   refine ZH.meet 4 (qB 8 15) (fun V=>(((Vr,OA Vs)::(de,CA [])::bJ Vs (a.take i))++[(V,fX row)])) (fun V=>[(2,.d (dI most)),(3,.bx [.sl 1 (v.map ae)]),(6,.bx [.sl 1 [],.sl 1 [],dI 0,.sl 3 []]),(7,.d aq),(8,.bx [.v Vr,.v de,dI 1,ae [1]]),(22,.d (gT a)),(23,.d (dI a.length)),(24,.d (dI i)),(10,.d (gx row)),(30,.d (gx row)),(28,.pt 8 0),(29,.d (.v Vr)),(31,.d (.v V))]) (fun V=>?_) (fun N1_1=>?_)
   · refine ZH.all 4 (by kernel_rfl) rfl rfl (fun _=>rfl) trivial ?_;refine ah (fun B1 F1 w1=>?_);refine aa.kc tok rfl rfl rfl rfl rfl ?_;refine aa.nil ⟨rfl,?_⟩;refine ZH.to [2,3,6,7,8,22,23,24,10,30,28,29,31,32] [(2,.d (dI most)),(3,.bx [.sl 1 (v.map ae)]),(6,.bx [.sl 1 [],.sl 1 [],dI 0,.sl 3 []]),(7,.d aq),(8,.bx [.v Vr,.v de,dI 1,ae [1]]),(22,.d (gT a)),(23,.d (dI a.length)),(24,.d (dI i)),(10,.d (gx row)),(30,.d (gx row)),(28,.pt 8 0),(29,.d (.v Vr)),(31,.d (.v V)),(32,.d (.sl 1 [.v V]))] rfl trivial ?_;exact ZH.ls _ (by kernel_rfl) (N1_2 V)
   refine ZH.meet 5 (qB 8 13) (fun V=>(((Vr,OA Vs)::(de,CA [])::bJ Vs (a.take i))++[(V,fX row)])) (fun V=>[(2,.d (dI most)),(3,.bx [.sl 1 (v.map ae)]),(6,.bx [.sl 1 [],.sl 1 [],dI 0,.sl 3 []]),(7,.d aq),(8,.bx [.v Vr,.v de,dI 1,ae [1]]),(22,.d (gT a)),(23,.d (dI a.length)),(24,.d (dI i)),(10,.d (gx row)),(30,.d (gx row)),(28,.pt 8 0),(31,.d (.v V))]) (fun V=>?_) (fun N0_1=>?_)
   · refine ZH.two 1 4 (by kernel_rfl) rfl rfl rfl rfl (fun _=>rfl) (fun _=>rfl) trivial ?_ ?_
     · refine ah (fun B1 F1 w1=>?_);refine qU 1 rfl ?_;refine aa.nil ⟨rfl,?_⟩;refine ZH.to [2,3,6,7,8,22,23,24,10,30,28,29,31] [(2,.d (dI most)),(3,.bx [.sl 1 (v.map ae)]),(6,.bx [.sl 1 [],.sl 1 [],dI 0,.sl 3 []]),(7,.d aq),(8,.bx [.v Vr,.v de,dI 1,ae [1]]),(22,.d (gT a)),(23,.d (dI a.length)),(24,.d (dI i)),(10,.d (gx row)),(30,.d (gx row)),(28,.pt 8 0),(29,.d (.v Vr)),(31,.d (.v V))] rfl trivial ?_;exact ZH.ls _ (by kernel_rfl) (N1_1 V)
     · refine ah (fun B1 F1 w1=>?_);refine aa.kc tok rfl rfl rfl rfl rfl ?_;refine aa.nil ⟨rfl,?_⟩;refine ZH.to [2,3,6,7,8,22,23,24,10,30,28,31,32] [(2,.d (dI most)),(3,.bx [.sl 1 (v.map ae)]),(6,.bx [.sl 1 [],.sl 1 [],dI 0,.sl 3 []]),(7,.d aq),(8,.bx [.v Vr,.v de,dI 1,ae [1]]),(22,.d (gT a)),(23,.d (dI a.length)),(24,.d (dI i)),(10,.d (gx row)),(30,.d (gx row)),(28,.pt 8 0),(31,.d (.v V)),(32,.d (.sl 1 [.v V]))] rfl trivial ?_;exact ZH.ls _ (by kernel_rfl) (N0_2 V)
   refine ZH.meet 5 (qB 8 7) (fun V=>((Vr,OA Vs)::(de,CA [])::bJ Vs (a.take i))) (fun V=>[(2,.d (dI most)),(3,.bx [.sl 1 (v.map ae)]),(6,.bx [.sl 1 [],.sl 1 [],dI 0,.sl 3 []]),(7,.d aq),(8,.bx [.v Vr,.v de,dI 1,ae [1]]),(22,.d (gT a)),(23,.d (dI a.length)),(24,.d (dI i)),(10,.d (gx row)),(30,.d (gx row)),(28,.pt 8 0),(29,.d (.v Vr))]) (fun V=>?_) (fun N1_0=>?_)
   · refine ZH.all 3 (by kernel_rfl) rfl rfl (fun _=>rfl) trivial ?_;refine an.a7 tok [] rfl rfl rfl rfl rfl List.nodup_nil rfl (xE row hrl) (fun _ _ _=>Nat.zero_le _) (fun res R1 hP=>?_);obtain ⟨V,rfl,rfl⟩:=hP;refine an.nil ?_;refine ZH.to [2,3,6,7,8,22,23,24,10,30,28,29,31] [(2,.d (dI most)),(3,.bx [.sl 1 (v.map ae)]),(6,.bx [.sl 1 [],.sl 1 [],dI 0,.sl 3 []]),(7,.d aq),(8,.bx [.v Vr,.v de,dI 1,ae [1]]),(22,.d (gT a)),(23,.d (dI a.length)),(24,.d (dI i)),(10,.d (gx row)),(30,.d (gx row)),(28,.pt 8 0),(29,.d (.v Vr)),(31,.d (.v V))] rfl trivial ?_;exact ZH.ls _ (by kernel_rfl) (N1_1 V)
   refine ZH.meet 6 (qB 8 5) (fun V=>((Vr,OA Vs)::(de,CA [])::bJ Vs (a.take i))) (fun V=>[(2,.d (dI most)),(3,.bx [.sl 1 (v.map ae)]),(6,.bx [.sl 1 [],.sl 1 [],dI 0,.sl 3 []]),(7,.d aq),(8,.bx [.v Vr,.v de,dI 1,ae [1]]),(22,.d (gT a)),(23,.d (dI a.length)),(24,.d (dI i)),(10,.d (gx row)),(30,.d (gx row)),(28,.pt 8 0)]) (fun V=>?_) (fun N0_0=>?_)
   · refine ZH.two 1 3 (by kernel_rfl) rfl rfl rfl rfl (fun _=>rfl) (fun _=>rfl) trivial ?_ ?_
     · refine ah (fun B1 F1 w1=>?_);refine qU 1 rfl ?_;refine aa.nil ⟨rfl,?_⟩;refine ZH.to [2,3,6,7,8,22,23,24,10,30,28,29] [(2,.d (dI most)),(3,.bx [.sl 1 (v.map ae)]),(6,.bx [.sl 1 [],.sl 1 [],dI 0,.sl 3 []]),(7,.d aq),(8,.bx [.v Vr,.v de,dI 1,ae [1]]),(22,.d (gT a)),(23,.d (dI a.length)),(24,.d (dI i)),(10,.d (gx row)),(30,.d (gx row)),(28,.pt 8 0),(29,.d (.v Vr))] rfl trivial ?_;exact ZH.ls _ (by kernel_rfl) (N1_0 V)
     · refine an.a7 tok [] rfl rfl rfl rfl rfl List.nodup_nil rfl (xE row hrl) (fun _ _ _=>Nat.zero_le _) (fun res R1 hP=>?_);obtain ⟨V,rfl,rfl⟩:=hP;refine an.nil ?_;refine ZH.to [2,3,6,7,8,22,23,24,10,30,28,31] [(2,.d (dI most)),(3,.bx [.sl 1 (v.map ae)]),(6,.bx [.sl 1 [],.sl 1 [],dI 0,.sl 3 []]),(7,.d aq),(8,.bx [.v Vr,.v de,dI 1,ae [1]]),(22,.d (gT a)),(23,.d (dI a.length)),(24,.d (dI i)),(10,.d (gx row)),(30,.d (gx row)),(28,.pt 8 0),(31,.d (.v V))] rfl trivial ?_;exact ZH.ls _ (by kernel_rfl) (N0_1 V)
   refine ZH.to [2,3,6,7,8,22,23,24,10,30,28] [(2,.d (dI most)),(3,.bx [.sl 1 (v.map ae)]),(6,.bx [.sl 1 [],.sl 1 [],dI 0,.sl 3 []]),(7,.d aq),(8,.bx [.v Vr,.v de,dI 1,ae [1]]),(22,.d (gT a)),(23,.d (dI a.length)),(24,.d (dI i)),(10,.d (gx row)),(30,.d (gx row)),(28,.pt 8 0)] rfl trivial ?_;exact ZH.ls _ (by kernel_rfl) (N0_0 de)
 have hii:i=a.length:=by have:=of_decide_eq_false h;omega
 subst hii;rw[List.take_length];refine AZ.exit ?_;refine AZ.seq ?_;refine AZ.seq ?_;refine AZ.dm (fun B1 F1 w1=>?_);refine qU 2 rfl ?_;refine aa.nil ⟨rfl,?_⟩;refine AZ.block ?_;refine AZ.aD [3,6,7,8,36,37] (fun z:Nat×Value×Value×List Value=>((z.2.1,OA z.2.2.2)::(z.2.2.1,CA (fU v a z.1).cols)::bJ z.2.2.2 (fU v a z.1).rows,[(3,.bx [.sl 1 (v.map ae)]),(6,.bx [.sl 1 [],.sl 1 [],dI 0,.sl 3 []]),(7,.d aq),(8,.bx [.v z.2.1,.v z.2.2.1,dI (fU v a z.1).sg,ae (fU v a z.1).det]),(36,.d (dI most)),(37,.d (dI z.1))])) (fun z=>z.1≤most∧z.2.2.2.length=a.length) (fun z=>most-z.1) (0,Vr,de,Vs) rfl ⟨Nat.zero_le _,hVs⟩ (fun z hz=>?_);clear hVs;clear Vr Vs;obtain ⟨c,Vr,Vc,Vs⟩:=z;obtain ⟨hc,hVs⟩:=hz
 dsimp only at hc hVs
 have hR:=yh V hr hl c;have hnext:fU v a (c+1)=pI v (fU v a c) c:=rfl;have hok:=ok c;obtain ⟨s,hs⟩: ∃s,fU v a c=s:=⟨_,rfl⟩;rw[hs] at hR hnext hok;show AZ _ _ _ _ _ _ _ ((Vr,OA Vs)::(Vc,CA (fU v a c).cols)::bJ Vs (fU v a c).rows) [(3,.bx [.sl 1 (v.map ae)]),(6,.bx [.sl 1 [],.sl 1 [],dI 0,.sl 3 []]),(7,.d aq),(8,.bx [.v Vr,.v Vc,dI (fU v a c).sg,ae (fU v a c).det]),(36,.d (dI most)),(37,.d (dI c))];rw[hs];refine AZ.seq ?_;refine AZ.dm (fun B1 F1 w1=>?_);refine qU 1 rfl ?_;refine aa.nil ⟨rfl,?_⟩;refine AZ.seq ?_;refine AZ.cond rfl (fun h=>?_) (fun h=>?_);rotate_left
 · have hcm:c=most:=by have:=of_decide_eq_false h;omega
   subst hcm;rw[hs];refine AZ.exit ?_;refine AZ.z7 ((Vr,AV.ow 27 ((s.rows.take 0).map gx++(tI Vs).drop 0))::(Vc,CA s.cols)::bJ Vs s.rows) (fun _ _ h=> .inl h) ?_;refine AZ.Cs (te:=_) tok (e:=52) rfl rfl (by rw[hR.len];exact hVs) ?_ s.rows.length 0 (by omega) (bJ Vs s.rows) (fun j _ hj=>iC (by rw[hVs,← hR.len];exact hj) hj);refine AZ.D5 tok 8 0 0 rfl rfl rfl rfl ?_;refine AZ.D5 tok 8 1 1 rfl rfl rfl rfl ?_;refine AZ.seq ?_;refine AZ.dm (fun B1 F1 w1=>?_);refine qU 3 rfl ?_;refine aa.nil ⟨rfl,?_⟩;exact AZ.ret rfl
 have hcm:c<most:=by have:=of_decide_eq_true h;omega
 have hok:=hok hcm;have hm:=hR.len;have hcN:c<N:=by omega
 have hVm:Vs.length=s.rows.length:=by omega
 have hrm:=hR.cm;rw[← hm] at hrm;obtain ⟨hat1,hat2,hat3,hat4⟩:=oB v s c hrm;have hrow0:0<s.rows.length:=by omega
 have hm6:s.rows.length≤1000000:=by omega
 have hel: ∀{b:il} {i:Nat},iX N b→i<b.length→ ∀k,k<N→((b.getD i []).map ae)[k]?=some (ae (ib b i k)):=fun {b i} hb hi k hk=>getM ae (by rw[hb i hi];exact hk);refine AZ.skip ?_;refine AZ.seq ?_;refine AZ.block ?_;refine AZ.seq ?_;refine AZ.dm (fun B1 F1 w1=>?_);refine qU 2 rfl ?_;refine aa.nil ⟨rfl,?_⟩;refine AZ.seq ?_;refine AZ.region ?_;refine an.cut 2 rfl (fun B1 F1 w1=>?_);refine qU 2 rfl ?_;refine aa.nil ⟨rfl,?_⟩;refine an.cy 41 1 rfl rfl rfl ?_;refine an.cut 1 rfl (fun B1 F1 w1=>?_);refine qU 1 rfl ?_;rw[List.length_map];refine aa.nil ⟨rfl,?_⟩;refine an.back 41 1 rfl rfl rfl (List.Mem.head _) rfl ?_;refine an.cut 1 rfl (fun B1 F1 w1=>?_);refine qU 1 rfl ?_;refine aa.nil ⟨rfl,?_⟩;refine an.nil ?_;refine AZ.to [3,6,7,8,11,12,36,37] [(3,.bx [.sl 1 (v.map ae)]),(6,.bx [.sl 1 [],.sl 1 [],dI 0,.sl 3 []]),(7,.d aq),(8,.bx [.v Vr,.v Vc,dI s.sg,ae s.det]),(11,.d (dI c)),(12,.d (dI s.cols.length)),(36,.d (dI most)),(37,.d (dI c))] rfl ?_;refine AZ.seq ?_;refine AZ.dm (fun B1 F1 w1=>?_);refine qU 2 rfl ?_;refine aa.nil ⟨rfl,?_⟩;refine AZ.cut [3,6,7,8,11,12,13,36,37] (fun _:Unit=>(((Vr,OA Vs)::(Vc,CA s.cols)::bJ Vs s.rows),[(3,.bx [.sl 1 (v.map ae)]),(6,.bx [.sl 1 [],.sl 1 [],dI 0,.sl 3 []]),(7,.d aq),(8,.bx [.v Vr,.v Vc,dI s.sg,ae s.det]),(11,.d (dI c)),(12,.d (dI s.cols.length)),(13,.d (dI (atR v s c))),(36,.d (dI most)),(37,.d (dI c))])) (fun _=>True) ?_ (fun _ _=>?_)
 · refine AZ.block ?_;refine AZ.aD [3,6,7,8,11,12,13,36,37] (fun j:Nat=>(((Vr,OA Vs)::(Vc,CA s.cols)::bJ Vs s.rows),[(3,.bx [.sl 1 (v.map ae)]),(6,.bx [.sl 1 [],.sl 1 [],dI 0,.sl 3 []]),(7,.d aq),(8,.bx [.v Vr,.v Vc,dI s.sg,ae s.det]),(11,.d (dI c)),(12,.d (dI s.cols.length)),(13,.d (dI j)),(36,.d (dI most)),(37,.d (dI c))])) (fun j=>s.cols.length≤j∧j≤s.rows.length∧kZ (F7 v s.rows c) (s.rows.length-j) j=atR v s c) (fun j=>s.rows.length-j) s.cols.length rfl ⟨Nat.le_refl _,hrm,rfl⟩ (fun j hj=>?_);show AZ _ _ _ _ _ _ _ ((Vr,OA Vs)::(Vc,CA s.cols)::bJ Vs s.rows) [(3,.bx [.sl 1 (v.map ae)]),(6,.bx [.sl 1 [],.sl 1 [],dI 0,.sl 3 []]),(7,.d aq),(8,.bx [.v Vr,.v Vc,dI s.sg,ae s.det]),(11,.d (dI c)),(12,.d (dI s.cols.length)),(13,.d (dI j)),(36,.d (dI most)),(37,.d (dI c))];obtain ⟨j1,j2,j3⟩:=hj;refine AZ.seq ?_;refine AZ.seq ?_;refine AZ.any aI (iW.pY 18 (by kernel_rfl) (fun B1 F1 w1 hS=>?_));have hS0:=hS.at (i:=0) rfl (by rw[List.length_map];omega);refine qP 3 rfl ?_;refine af.lens tok hS0 rfl rfl rfl rfl rfl ?_;rw[List.length_map];refine qP 1 rfl ?_;by_cases hjm:j<s.rows.length;rotate_left
   · rw[Cr hjm] at j3;rw[decide_eq_false (show ¬(j:Int)<(Vs.length:Int) by omega)];refine qP 13 rfl ?_;refine af.nil ⟨rfl,?_⟩;refine an.nil ?_;refine AZ.ar rfl ?_;exact AZ.exit ⟨(),by rw[← j3];rfl,trivial⟩
   rw[decide_eq_true (show (j:Int)<(Vs.length:Int) by omega)];have hj6:(s.rows.getD j []).length=N:=hR.rect j hjm;have hS1:=hS.at (i:=j+2) (iC (Vs:=Vs) (by omega) hjm) (by rw[List.length_map];omega);have cs:=lK V (hR.lt j c) (hok.sg j j1 hjm);have hnz:F7 v s.rows c j=decide (xN v (ib s.rows j c)≠0):=rfl;generalize xN v (ib s.rows j c)=g at cs hnz;refine qP 5 rfl ?_;refine af.idxs tok hS0 rfl rfl rfl rfl rfl (Int.natCast_nonneg j) (by rw[List.length_map];omega) ?_;refine af.aZ tok (.v (Vs.getD j undef)) hS0 rfl rfl rfl rfl rfl rfl rfl (bI (by omega)) rfl ?_;refine qP 1 rfl ?_;refine af.idxs tok hS1 rfl rfl rfl rfl rfl (Int.natCast_nonneg c) (by rw[List.length_map];omega) ?_;refine af.aZ tok (ae (ib s.rows j c)) hS1 rfl rfl rfl rfl rfl rfl rfl (hel hR.rect hjm c hcN) rfl ?_;refine af.call tok rfl rfl rfl rfl rfl cs ?_;refine qP 2 rfl ?_;refine af.nil ⟨rfl,?_⟩;refine an.nil ?_;refine AZ.cond rfl (fun h=>?_) (fun h=>?_)
   · have hg:g=0:=beq_iff_eq.1 h;refine AZ.skip ?_;refine AZ.block ?_;refine AZ.dm (fun B1 F1 w1=>?_);refine qU 2 rfl ?_;rw[au (x:=(j:Int)+1) (by omega) (by omega)];refine qU 1 rfl ?_;refine aa.nil ⟨rfl,?_⟩;exact⟨j+1,rfl,⟨by omega,hjm,by rw[← AH hjm (by rw[hnz,hg];rfl)];exact j3⟩,by omega⟩
   · have hg:g≠0:=beq_eq_false_iff_ne.1 h;rw[Cq hjm (by rw[hnz,decide_eq_true hg])] at j3;exact AZ.exit ⟨(),by rw[← j3];rfl,trivial⟩
 show AZ _ _ _ _ _ _ _ ((Vr,OA Vs)::(Vc,CA s.cols)::bJ Vs s.rows) [(3,.bx [.sl 1 (v.map ae)]),(6,.bx [.sl 1 [],.sl 1 [],dI 0,.sl 3 []]),(7,.d aq),(8,.bx [.v Vr,.v Vc,dI s.sg,ae s.det]),(11,.d (dI c)),(12,.d (dI s.cols.length)),(13,.d (dI (atR v s c))),(36,.d (dI most)),(37,.d (dI c))];refine AZ.seq ?_;refine AZ.seq ?_;refine AZ.BL (fun B1 F1 w1 hS=>?_);refine qU 3 rfl ?_;refine aa.lens tok (hS.at (i:=0) rfl (by rw[List.length_map];omega)) rfl rfl rfl rfl ?_;rw[List.length_map];refine qU 1 rfl ?_;refine aa.nil ⟨rfl,?_⟩;refine AZ.cond rfl (fun h=>?_) (fun h=>?_)
 · have hat: ¬atR v s c<s.rows.length:=by have:=of_decide_eq_true h;omega
   have hst:fU v a (c+1)=s:=by rw[hnext];unfold pI;rw[if_neg hat]
   refine AZ.exit ?_;refine AZ.dm (fun B1 F1 w1=>?_);refine qU 1 rfl ?_;rw[au (x:=(c:Int)+1) (by omega) (by omega)];refine qU 1 rfl ?_;refine aa.nil ⟨rfl,?_⟩;exact⟨(c+1,Vr,Vc,Vs),by rw[hst];rfl,⟨hcm,hVs⟩,by show most-(c+1)<most-c;omega⟩
 have hat:atR v s c<s.rows.length:=by have:=of_decide_eq_false h;omega
 have hst:fU v a (c+1)=⟨eM v (eR v s c) s.cols.length c (eR v s c).length,s.cols++[c],if atR v s c=s.cols.length then s.sg else -s.sg,fV v s.det (pR v s c)⟩:=by rw[hnext];unfold pI;rw[if_pos hat]
 obtain ⟨hb1,hb2,hb3⟩:=CW (c:=c) hR hat;obtain ⟨he1,he2,he3⟩:=Ez V (c:=c) hR hat;have hbr:bR v s c=if atR v s c=s.cols.length then s.rows else EW s.rows s.cols.length (atR v s c):=rfl
 have hpr:pR v s c=ib (bR v s c) s.cols.length c:=rfl;have hE:eR v s c=(bR v s c).set s.cols.length (xO v ((bR v s c).getD s.cols.length []) (pR v s c)):=rfl;have okd:=hok.det hat;have okv:=hok.div hat;have oks:=hok.sg2 hat;have okt:=hok.take hat;generalize bR v s c=b at *;generalize pR v s c=p at *;generalize eR v s c=e at *;generalize atR v s c=t at *;refine AZ.skip ?_;refine AZ.cut [3,6,7,8,11,12,36,37] (fun Ws:List Value=>(((Vr,OA Ws)::(Vc,CA s.cols)::bJ Ws b),[(3,.bx [.sl 1 (v.map ae)]),(6,.bx [.sl 1 [],.sl 1 [],dI 0,.sl 3 []]),(7,.d aq),(8,.bx [.v Vr,.v Vc,dI (if t=s.cols.length then s.sg else -s.sg),ae s.det]),(11,.d (dI c)),(12,.d (dI s.cols.length)),(36,.d (dI most)),(37,.d (dI c))])) (fun Ws=>Ws.length=b.length) ?_ (fun Ws hWs=>?_)
 · refine AZ.seq ?_;refine AZ.dm (fun B1 F1 w1=>?_);refine qU 3 rfl ?_;refine aa.nil ⟨rfl,?_⟩;by_cases htr:t=s.cols.length
   · rw[if_pos htr] at hbr;rw[bne_eq_false_iff_eq.2 (show (t:Int)=(s.cols.length:Int) by omega)];refine AZ.ar rfl ?_;refine AZ.skip ?_;exact⟨Vs,by rw[if_pos htr,hbr];rfl,by omega⟩
   rw[if_neg htr] at hbr;rw[bne_iff_ne.2 (show (t:Int)≠(s.cols.length:Int) by omega)];refine AZ.aB rfl ?_;refine AZ.seq ?_;refine AZ.any aI (ZH.any (β:=[(8,[.v Vr,.v Vc,dI s.sg,ae s.det])]) ?_);refine ZH.mv 2 rfl rfl (by kernel_rfl) (by kernel_rfl) (by kernel_rfl) rfl (fun _ _ _ h=>h) (fun _=>rfl) ⟨rfl,trivial⟩ (fun B1 F1 w1=>?_);refine qU 1 rfl ?_;refine aa.nil ⟨rfl,?_⟩;refine ZH.mv 5 rfl rfl (by kernel_rfl) (by kernel_rfl) (by kernel_rfl) rfl (fun _ _ _ h=>h) (fun _=>rfl) ⟨rfl,trivial⟩ (fun B1 F1 w1=>?_);refine qU 1 rfl ?_;refine aa.nil ⟨rfl,?_⟩;refine ZH.mv 8 rfl rfl (by kernel_rfl) (by kernel_rfl) (by kernel_rfl) rfl (fun _ _ _ h=>h) (fun _=>rfl) ⟨rfl,trivial⟩ (fun B1 F1 w1=>?_);refine qU 1 rfl ?_;refine aa.nil ⟨rfl,?_⟩;refine ZH.mv 13 rfl rfl (by kernel_rfl) (by kernel_rfl) (by kernel_rfl) rfl (fun _ _ _ h=>h) (fun _=>rfl) ⟨rfl,trivial⟩ (fun B1 F1 w1=>?_);refine qU 1 rfl ?_;refine aa.nil ⟨rfl,?_⟩;refine ZH.fd tok 0 rfl rfl (by kernel_rfl) (by kernel_rfl) (by kernel_rfl) rfl (fun _ _ _ h=>h) (fun _=>rfl) ⟨rfl,trivial⟩ (fun B1 F1 w1=>?_);refine qU 1 rfl ?_;refine aa.nil ⟨rfl,?_⟩;refine ZH.fd tok 3 rfl rfl (by kernel_rfl) (by kernel_rfl) (by kernel_rfl) rfl (fun _ _ _ h=>h) (fun _=>rfl) ⟨rfl,trivial⟩ (fun B1 F1 w1=>?_);refine qU 1 rfl ?_;refine aa.nil ⟨rfl,?_⟩;refine ZH.fd tok 6 rfl rfl (by kernel_rfl) (by kernel_rfl) (by kernel_rfl) rfl (fun _ _ _ h=>h) (fun _=>rfl) ⟨rfl,trivial⟩ (fun B1 F1 w1=>?_);refine qU 1 rfl ?_;refine aa.nil ⟨rfl,?_⟩;refine ZH.fd tok 11 rfl rfl (by kernel_rfl) (by kernel_rfl) (by kernel_rfl) rfl (fun _ _ _ h=>h) (fun _=>rfl) ⟨rfl,trivial⟩ (fun B1 F1 w1=>?_);refine qU 1 rfl ?_;refine aa.nil ⟨rfl,?_⟩;refine ZH.ld tok 1 rfl rfl (by kernel_rfl) (by kernel_rfl) (by kernel_rfl) rfl rfl (fun _ _ _ h=>h) (fun _=>rfl) ⟨rfl,trivial⟩ (fun B1 F1 w1=>?_);refine qU 1 rfl ?_;refine aa.nil ⟨rfl,?_⟩;refine ZH.ld tok 4 rfl rfl (by kernel_rfl) (by kernel_rfl) (by kernel_rfl) rfl rfl (fun _ _ _ h=>h) (fun _=>rfl) ⟨rfl,trivial⟩ (fun B1 F1 w1=>?_);refine qU 1 rfl ?_;refine aa.nil ⟨rfl,?_⟩;refine ZH.ld tok 7 rfl rfl (by kernel_rfl) (by kernel_rfl) (by kernel_rfl) rfl rfl (fun _ _ _ h=>h) (fun _=>rfl) ⟨rfl,trivial⟩ (fun B1 F1 w1=>?_);refine qU 1 rfl ?_;refine aa.nil ⟨rfl,?_⟩;refine ZH.ld tok 12 rfl rfl (by kernel_rfl) (by kernel_rfl) (by kernel_rfl) rfl rfl (fun _ _ _ h=>h) (fun _=>rfl) ⟨rfl,trivial⟩ (fun B1 F1 w1=>?_);refine qU 1 rfl ?_;refine aa.nil ⟨rfl,?_⟩;refine ZH.meet 4 (qB 20 65535) (fun V=>((Vr,OA Vs)::(Vc,CA s.cols)::bJ Vs s.rows)) (fun V=>[(3,.bx [.sl 1 (v.map ae)]),(6,.bx [.sl 1 [],.sl 1 [],dI 0,.sl 3 []]),(7,.d aq),(8,.bx [.v Vr,.v Vc,dI s.sg,ae s.det]),(11,.d (dI c)),(12,.d (dI s.cols.length)),(13,.d (dI t)),(36,.d (dI most)),(37,.d (dI c)),(73,.d (.v Vr)),(74,.d (dI t)),(76,.d (.v Vr)),(77,.d (dI s.cols.length)),(79,.d (.v Vr)),(80,.d (dI s.cols.length)),(84,.d (.v Vr)),(85,.d (dI t)),(82,.d (.v (Vs.getD s.cols.length undef))),(87,.d (.v (Vs.getD t undef)))]) (fun V=>?_) (fun N2_2=>?_)
   · refine ZH.all 16 (by kernel_rfl) rfl rfl (fun _=>rfl) ⟨rfl,trivial⟩ ?_;refine ao (fun B1 F1 w1 hS=>?_);refine aa.idxs tok (hS.at (i:=0) rfl (by rw[List.length_map];omega)) rfl rfl rfl rfl (Int.natCast_nonneg _) (by show t<_;rw[List.length_map];omega) ?_;refine aa.nil ⟨rfl,?_⟩;refine ZH.to [3,6,7,8,11,12,13,36,37,73,74,76,77,79,80,84,85,82,87,88] [(3,.bx [.sl 1 (v.map ae)]),(6,.bx [.sl 1 [],.sl 1 [],dI 0,.sl 3 []]),(7,.d aq),(8,.bx [.v Vr,.v Vc,dI s.sg,ae s.det]),(11,.d (dI c)),(12,.d (dI s.cols.length)),(13,.d (dI t)),(36,.d (dI most)),(37,.d (dI c)),(73,.d (.v Vr)),(74,.d (dI t)),(76,.d (.v Vr)),(77,.d (dI s.cols.length)),(79,.d (.v Vr)),(80,.d (dI s.cols.length)),(84,.d (.v Vr)),(85,.d (dI t)),(82,.d (.v (Vs.getD s.cols.length undef))),(87,.d (.v (Vs.getD t undef))),(88,.d (.v (aT Vr (t*1))))] rfl ⟨rfl,trivial⟩ ?_;refine ZH.all 17 (by kernel_rfl) rfl rfl (fun _=>rfl) ⟨rfl,trivial⟩ ?_;refine an.cy 73 0 rfl rfl rfl ?_;refine an.el tok 73 88 rfl (List.Mem.head _) rfl rfl rfl (by rw[List.length_map];omega) rfl ?_;refine an.cut 1 rfl (fun B1 F1 w1=>?_);refine aa.zq tok (Vs.getD s.cols.length undef) rfl rfl rfl (by omega) ?_;refine aa.nil ⟨rfl,?_⟩;refine an.back 73 0 rfl rfl rfl (List.Mem.head _) rfl ?_;refine an.nil ?_;refine ZH.to [3,6,7,8,11,12,13,36,37,73,74,76,77,79,80,84,85,82,87] [(3,.bx [.sl 1 (v.map ae)]),(6,.bx [.sl 1 [],.sl 1 [],dI 0,.sl 3 []]),(7,.d aq),(8,.bx [.v Vr,.v Vc,dI s.sg,ae s.det]),(11,.d (dI c)),(12,.d (dI s.cols.length)),(13,.d (dI t)),(36,.d (dI most)),(37,.d (dI c)),(73,.d (.v Vr)),(74,.d (dI t)),(76,.d (.v Vr)),(77,.d (dI s.cols.length)),(79,.d (.v Vr)),(80,.d (dI s.cols.length)),(84,.d (.v Vr)),(85,.d (dI t)),(82,.d (.v (Vs.getD s.cols.length undef))),(87,.d (.v (Vs.getD t undef)))] rfl ⟨rfl,trivial⟩ ?_;refine ZH.all 18 (by kernel_rfl) rfl rfl (fun _=>rfl) ⟨rfl,trivial⟩ ?_;refine ao (fun B1 F1 w1 hS=>?_);refine aa.idxs tok (hS.at (i:=0) rfl (by rw[List.length_map,List.length_set];omega)) rfl rfl rfl rfl (Int.natCast_nonneg _) (by show s.cols.length<_;rw[List.length_map,List.length_set];omega) ?_;refine aa.nil ⟨rfl,?_⟩;refine ZH.to [3,6,7,8,11,12,13,36,37,73,74,76,77,79,80,84,85,82,87,89] [(3,.bx [.sl 1 (v.map ae)]),(6,.bx [.sl 1 [],.sl 1 [],dI 0,.sl 3 []]),(7,.d aq),(8,.bx [.v Vr,.v Vc,dI s.sg,ae s.det]),(11,.d (dI c)),(12,.d (dI s.cols.length)),(13,.d (dI t)),(36,.d (dI most)),(37,.d (dI c)),(73,.d (.v Vr)),(74,.d (dI t)),(76,.d (.v Vr)),(77,.d (dI s.cols.length)),(79,.d (.v Vr)),(80,.d (dI s.cols.length)),(84,.d (.v Vr)),(85,.d (dI t)),(82,.d (.v (Vs.getD s.cols.length undef))),(87,.d (.v (Vs.getD t undef))),(89,.d (.v (aT Vr (s.cols.length*1))))] rfl ⟨rfl,trivial⟩ ?_;refine ZH.all 19 (by kernel_rfl) rfl rfl (fun _=>rfl) ⟨rfl,trivial⟩ ?_;refine an.cy 76 0 rfl rfl rfl ?_;refine an.el tok 76 89 rfl (List.Mem.head _) rfl rfl rfl (by rw[List.length_map,List.length_set];omega) rfl ?_;refine an.cut 1 rfl (fun B1 F1 w1=>?_);refine aa.zq tok (Vs.getD t undef) rfl rfl rfl (by rw[List.length_set];omega) ?_;refine aa.nil ⟨rfl,?_⟩;refine an.back 76 0 rfl rfl rfl (List.Mem.head _) rfl ?_;refine an.nil ?_;refine ZH.done (by kernel_rfl) ⟨rfl,trivial⟩ ?_;refine AZ.to [3,6,7,8,11,12,13,36,37] [(3,.bx [.sl 1 (v.map ae)]),(6,.bx [.sl 1 [],.sl 1 [],dI 0,.sl 3 []]),(7,.d aq),(8,.bx [.v Vr,.v Vc,dI s.sg,ae s.det]),(11,.d (dI c)),(12,.d (dI s.cols.length)),(13,.d (dI t)),(36,.d (dI most)),(37,.d (dI c))] rfl ?_;refine AZ.Bl (t+2) (s.cols.length+2) (iC (Vs:=Vs) (by omega) hat) (iC (Vs:=Vs) (by omega) (by omega)) ?_;show AZ _ _ _ _ _ _ _ ((Vr,OA (FM Vs s.cols.length t))::(Vc,CA s.cols)::((bJ Vs s.rows).set t (Vs.getD s.cols.length undef,fX (s.rows.getD s.cols.length []))).set s.cols.length (Vs.getD t undef,fX (s.rows.getD t []))) _;rw[C' (by omega) (by omega) hat,← hbr];refine AZ.dm (fun B1 F1 w1=>?_);refine qU 3 rfl ?_;rw[au (x:=0-s.sg) (by have:=hR.sg;omega) (by have:=hR.sg;omega),Int.zero_sub];refine qU 2 rfl ?_;refine aa.nil ⟨rfl,?_⟩;exact⟨FM Vs s.cols.length t,by rw[if_neg htr];rfl,by show (FM Vs s.cols.length t).length=_;rw[Dn,hb1];omega⟩
   refine ZH.meet 5 (qB 20 64511) (fun V=>((Vr,OA Vs)::(Vc,CA s.cols)::bJ Vs s.rows)) (fun V=>[(3,.bx [.sl 1 (v.map ae)]),(6,.bx [.sl 1 [],.sl 1 [],dI 0,.sl 3 []]),(7,.d aq),(8,.bx [.v Vr,.v Vc,dI s.sg,ae s.det]),(11,.d (dI c)),(12,.d (dI s.cols.length)),(13,.d (dI t)),(36,.d (dI most)),(37,.d (dI c)),(73,.d (.v Vr)),(74,.d (dI t)),(76,.d (.v Vr)),(77,.d (dI s.cols.length)),(79,.d (.v Vr)),(80,.d (dI s.cols.length)),(84,.d (.v Vr)),(85,.d (dI t)),(81,.d (.v (aT Vr (s.cols.length*1)))),(87,.d (.v (Vs.getD t undef)))]) (fun V=>?_) (fun N1_2=>?_)
   · refine ZH.all 10 (by kernel_rfl) rfl rfl (fun _=>rfl) ⟨rfl,trivial⟩ ?_;refine ao (fun B1 F1 w1 hS=>?_);refine aa.aZ tok (.v (Vs.getD s.cols.length undef)) (hS.at (i:=0) rfl (by rw[List.length_map];omega)) rfl rfl rfl rfl rfl rfl (bI (by omega)) rfl ?_;refine aa.nil ⟨rfl,?_⟩;exact qL (N2_2 V) (by kernel_rfl) rfl ⟨rfl,trivial⟩
   refine ZH.meet 5 (qB 20 32767) (fun V=>((Vr,OA Vs)::(Vc,CA s.cols)::bJ Vs s.rows)) (fun V=>[(3,.bx [.sl 1 (v.map ae)]),(6,.bx [.sl 1 [],.sl 1 [],dI 0,.sl 3 []]),(7,.d aq),(8,.bx [.v Vr,.v Vc,dI s.sg,ae s.det]),(11,.d (dI c)),(12,.d (dI s.cols.length)),(13,.d (dI t)),(36,.d (dI most)),(37,.d (dI c)),(73,.d (.v Vr)),(74,.d (dI t)),(76,.d (.v Vr)),(77,.d (dI s.cols.length)),(79,.d (.v Vr)),(80,.d (dI s.cols.length)),(84,.d (.v Vr)),(85,.d (dI t)),(82,.d (.v (Vs.getD s.cols.length undef))),(86,.d (.v (aT Vr (t*1))))]) (fun V=>?_) (fun N2_1=>?_)
   · refine ZH.all 15 (by kernel_rfl) rfl rfl (fun _=>rfl) ⟨rfl,trivial⟩ ?_;refine ao (fun B1 F1 w1 hS=>?_);refine aa.aZ tok (.v (Vs.getD t undef)) (hS.at (i:=0) rfl (by rw[List.length_map];omega)) rfl rfl rfl rfl rfl rfl (bI (by omega)) rfl ?_;refine aa.nil ⟨rfl,?_⟩;exact qL (N2_2 V) (by kernel_rfl) rfl ⟨rfl,trivial⟩
   refine ZH.meet 6 (qB 20 63999) (fun V=>((Vr,OA Vs)::(Vc,CA s.cols)::bJ Vs s.rows)) (fun V=>[(3,.bx [.sl 1 (v.map ae)]),(6,.bx [.sl 1 [],.sl 1 [],dI 0,.sl 3 []]),(7,.d aq),(8,.bx [.v Vr,.v Vc,dI s.sg,ae s.det]),(11,.d (dI c)),(12,.d (dI s.cols.length)),(13,.d (dI t)),(36,.d (dI most)),(37,.d (dI c)),(73,.d (.v Vr)),(74,.d (dI t)),(76,.d (.v Vr)),(77,.d (dI s.cols.length)),(79,.d (.v Vr)),(80,.d (dI s.cols.length)),(84,.d (.v Vr)),(85,.d (dI t)),(87,.d (.v (Vs.getD t undef)))]) (fun V=>?_) (fun N0_2=>?_)
   · refine ZH.all 9 (by kernel_rfl) rfl rfl (fun _=>rfl) ⟨rfl,trivial⟩ ?_;refine ao (fun B1 F1 w1 hS=>?_);refine aa.idxs tok (hS.at (i:=0) rfl (by rw[List.length_map];omega)) rfl rfl rfl rfl (Int.natCast_nonneg _) (by show s.cols.length<_;rw[List.length_map];omega) ?_;refine aa.nil ⟨rfl,?_⟩;exact qL (N1_2 V) (by kernel_rfl) rfl ⟨rfl,trivial⟩
   refine ZH.meet 6 (qB 20 31743) (fun V=>((Vr,OA Vs)::(Vc,CA s.cols)::bJ Vs s.rows)) (fun V=>[(3,.bx [.sl 1 (v.map ae)]),(6,.bx [.sl 1 [],.sl 1 [],dI 0,.sl 3 []]),(7,.d aq),(8,.bx [.v Vr,.v Vc,dI s.sg,ae s.det]),(11,.d (dI c)),(12,.d (dI s.cols.length)),(13,.d (dI t)),(36,.d (dI most)),(37,.d (dI c)),(73,.d (.v Vr)),(74,.d (dI t)),(76,.d (.v Vr)),(77,.d (dI s.cols.length)),(79,.d (.v Vr)),(80,.d (dI s.cols.length)),(84,.d (.v Vr)),(85,.d (dI t)),(81,.d (.v (aT Vr (s.cols.length*1)))),(86,.d (.v (aT Vr (t*1))))]) (fun V=>?_) (fun N1_1=>?_)
   · refine ZH.two 10 15 (by kernel_rfl) rfl rfl rfl rfl (fun _=>rfl) (fun _=>rfl) ⟨rfl,trivial⟩ ?_ ?_
     · refine ao (fun B1 F1 w1 hS=>?_);refine aa.aZ tok (.v (Vs.getD s.cols.length undef)) (hS.at (i:=0) rfl (by rw[List.length_map];omega)) rfl rfl rfl rfl rfl rfl (bI (by omega)) rfl ?_;refine aa.nil ⟨rfl,?_⟩;exact qL (N2_1 V) (by kernel_rfl) rfl ⟨rfl,trivial⟩
     · refine ao (fun B1 F1 w1 hS=>?_);refine aa.aZ tok (.v (Vs.getD t undef)) (hS.at (i:=0) rfl (by rw[List.length_map];omega)) rfl rfl rfl rfl rfl rfl (bI (by omega)) rfl ?_;refine aa.nil ⟨rfl,?_⟩;exact qL (N1_2 V) (by kernel_rfl) rfl ⟨rfl,trivial⟩
   refine ZH.meet 6 (qB 20 16383) (fun V=>((Vr,OA Vs)::(Vc,CA s.cols)::bJ Vs s.rows)) (fun V=>[(3,.bx [.sl 1 (v.map ae)]),(6,.bx [.sl 1 [],.sl 1 [],dI 0,.sl 3 []]),(7,.d aq),(8,.bx [.v Vr,.v Vc,dI s.sg,ae s.det]),(11,.d (dI c)),(12,.d (dI s.cols.length)),(13,.d (dI t)),(36,.d (dI most)),(37,.d (dI c)),(73,.d (.v Vr)),(74,.d (dI t)),(76,.d (.v Vr)),(77,.d (dI s.cols.length)),(79,.d (.v Vr)),(80,.d (dI s.cols.length)),(84,.d (.v Vr)),(85,.d (dI t)),(82,.d (.v (Vs.getD s.cols.length undef)))]) (fun V=>?_) (fun N2_0=>?_)
   · refine ZH.all 14 (by kernel_rfl) rfl rfl (fun _=>rfl) ⟨rfl,trivial⟩ ?_;refine ao (fun B1 F1 w1 hS=>?_);refine aa.idxs tok (hS.at (i:=0) rfl (by rw[List.length_map];omega)) rfl rfl rfl rfl (Int.natCast_nonneg _) (by show t<_;rw[List.length_map];omega) ?_;refine aa.nil ⟨rfl,?_⟩;exact qL (N2_1 V) (by kernel_rfl) rfl ⟨rfl,trivial⟩
   refine ZH.meet 7 (qB 20 31231) (fun V=>((Vr,OA Vs)::(Vc,CA s.cols)::bJ Vs s.rows)) (fun V=>[(3,.bx [.sl 1 (v.map ae)]),(6,.bx [.sl 1 [],.sl 1 [],dI 0,.sl 3 []]),(7,.d aq),(8,.bx [.v Vr,.v Vc,dI s.sg,ae s.det]),(11,.d (dI c)),(12,.d (dI s.cols.length)),(13,.d (dI t)),(36,.d (dI most)),(37,.d (dI c)),(73,.d (.v Vr)),(74,.d (dI t)),(76,.d (.v Vr)),(77,.d (dI s.cols.length)),(79,.d (.v Vr)),(80,.d (dI s.cols.length)),(84,.d (.v Vr)),(85,.d (dI t)),(86,.d (.v (aT Vr (t*1))))]) (fun V=>?_) (fun N0_1=>?_)
   · refine ZH.two 9 15 (by kernel_rfl) rfl rfl rfl rfl (fun _=>rfl) (fun _=>rfl) ⟨rfl,trivial⟩ ?_ ?_
     · refine ao (fun B1 F1 w1 hS=>?_);refine aa.idxs tok (hS.at (i:=0) rfl (by rw[List.length_map];omega)) rfl rfl rfl rfl (Int.natCast_nonneg _) (by show s.cols.length<_;rw[List.length_map];omega) ?_;refine aa.nil ⟨rfl,?_⟩;exact qL (N1_1 V) (by kernel_rfl) rfl ⟨rfl,trivial⟩
     · refine ao (fun B1 F1 w1 hS=>?_);refine aa.aZ tok (.v (Vs.getD t undef)) (hS.at (i:=0) rfl (by rw[List.length_map];omega)) rfl rfl rfl rfl rfl rfl (bI (by omega)) rfl ?_;refine aa.nil ⟨rfl,?_⟩;exact qL (N0_2 V) (by kernel_rfl) rfl ⟨rfl,trivial⟩
   refine ZH.meet 7 (qB 20 15359) (fun V=>((Vr,OA Vs)::(Vc,CA s.cols)::bJ Vs s.rows)) (fun V=>[(3,.bx [.sl 1 (v.map ae)]),(6,.bx [.sl 1 [],.sl 1 [],dI 0,.sl 3 []]),(7,.d aq),(8,.bx [.v Vr,.v Vc,dI s.sg,ae s.det]),(11,.d (dI c)),(12,.d (dI s.cols.length)),(13,.d (dI t)),(36,.d (dI most)),(37,.d (dI c)),(73,.d (.v Vr)),(74,.d (dI t)),(76,.d (.v Vr)),(77,.d (dI s.cols.length)),(79,.d (.v Vr)),(80,.d (dI s.cols.length)),(84,.d (.v Vr)),(85,.d (dI t)),(81,.d (.v (aT Vr (s.cols.length*1))))]) (fun V=>?_) (fun N1_0=>?_)
   · refine ZH.two 10 14 (by kernel_rfl) rfl rfl rfl rfl (fun _=>rfl) (fun _=>rfl) ⟨rfl,trivial⟩ ?_ ?_
     · refine ao (fun B1 F1 w1 hS=>?_);refine aa.aZ tok (.v (Vs.getD s.cols.length undef)) (hS.at (i:=0) rfl (by rw[List.length_map];omega)) rfl rfl rfl rfl rfl rfl (bI (by omega)) rfl ?_;refine aa.nil ⟨rfl,?_⟩;exact qL (N2_0 V) (by kernel_rfl) rfl ⟨rfl,trivial⟩
     · refine ao (fun B1 F1 w1 hS=>?_);refine aa.idxs tok (hS.at (i:=0) rfl (by rw[List.length_map];omega)) rfl rfl rfl rfl (Int.natCast_nonneg _) (by show t<_;rw[List.length_map];omega) ?_;refine aa.nil ⟨rfl,?_⟩;exact qL (N1_1 V) (by kernel_rfl) rfl ⟨rfl,trivial⟩
   refine ZH.meet 8 (qB 20 14847) (fun V=>((Vr,OA Vs)::(Vc,CA s.cols)::bJ Vs s.rows)) (fun V=>[(3,.bx [.sl 1 (v.map ae)]),(6,.bx [.sl 1 [],.sl 1 [],dI 0,.sl 3 []]),(7,.d aq),(8,.bx [.v Vr,.v Vc,dI s.sg,ae s.det]),(11,.d (dI c)),(12,.d (dI s.cols.length)),(13,.d (dI t)),(36,.d (dI most)),(37,.d (dI c)),(73,.d (.v Vr)),(74,.d (dI t)),(76,.d (.v Vr)),(77,.d (dI s.cols.length)),(79,.d (.v Vr)),(80,.d (dI s.cols.length)),(84,.d (.v Vr)),(85,.d (dI t))]) (fun V=>?_) (fun N0_0=>?_)
   · refine ZH.two 9 14 (by kernel_rfl) rfl rfl rfl rfl (fun _=>rfl) (fun _=>rfl) ⟨rfl,trivial⟩ ?_ ?_
     · refine ao (fun B1 F1 w1 hS=>?_);refine aa.idxs tok (hS.at (i:=0) rfl (by rw[List.length_map];omega)) rfl rfl rfl rfl (Int.natCast_nonneg _) (by show s.cols.length<_;rw[List.length_map];omega) ?_;refine aa.nil ⟨rfl,?_⟩;exact qL (N1_0 V) (by kernel_rfl) rfl ⟨rfl,trivial⟩
     · refine ao (fun B1 F1 w1 hS=>?_);refine aa.idxs tok (hS.at (i:=0) rfl (by rw[List.length_map];omega)) rfl rfl rfl rfl (Int.natCast_nonneg _) (by show t<_;rw[List.length_map];omega) ?_;refine aa.nil ⟨rfl,?_⟩;exact qL (N0_1 V) (by kernel_rfl) rfl ⟨rfl,trivial⟩
   exact qL (N0_0 de) (by kernel_rfl) rfl ⟨rfl,trivial⟩
 obtain ⟨sg,hsg⟩: ∃sg,(if t=s.cols.length then s.sg else -s.sg)=sg:=⟨_,rfl⟩;obtain ⟨r,hrr⟩: ∃r,s.cols.length=r:=⟨_,rfl⟩;have hrb:r<b.length:=by omega
 have hrN:(b.getD r []).length=N:=hb2 r hrb;have okc:=rn V hR.det (by rw[hpr];exact hb3 _ _) okd;rw[hsg] at hst;rw[hrr] at hst hpr hE okv oks okt;show AZ _ _ _ _ _ _ _ ((Vr,OA Ws)::(Vc,CA s.cols)::bJ Ws b) [(3,.bx [.sl 1 (v.map ae)]),(6,.bx [.sl 1 [],.sl 1 [],dI 0,.sl 3 []]),(7,.d aq),(8,.bx [.v Vr,.v Vc,dI (if t=s.cols.length then s.sg else -s.sg),ae s.det]),(11,.d (dI c)),(12,.d (dI s.cols.length)),(36,.d (dI most)),(37,.d (dI c))];rw[hsg,hrr];refine AZ.seq ?_;refine AZ.BL (fun B1 F1 w1 hS=>?_);refine qU 3 rfl ?_;refine aa.idxs tok (hS.at (i:=0) rfl (by rw[List.length_map];omega)) rfl rfl rfl rfl (Int.natCast_nonneg _) (by show r<_;rw[List.length_map];omega) ?_;refine aa.aZ tok (.v (Ws.getD r undef)) (hS.at (i:=0) rfl (by rw[List.length_map];omega)) rfl rfl rfl rfl rfl rfl (bI (by omega)) rfl ?_;refine qU 1 rfl ?_;refine aa.idxs tok (hS.at (i:=r+2) (iC (Vs:=Ws) (by omega) hrb) (by rw[List.length_map];omega)) rfl rfl rfl rfl (Int.natCast_nonneg c) (by rw[List.length_map];omega) ?_;refine aa.aZ tok (ae (ib b r c)) (hS.at (i:=r+2) (iC (Vs:=Ws) (by omega) hrb) (by rw[List.length_map];omega)) rfl rfl rfl rfl rfl rfl (hel hb2 hrb c hcN) rfl ?_;rw[← hpr];refine qU 1 rfl ?_;refine aa.nil ⟨rfl,?_⟩;refine AZ.seq ?_;refine AZ.dm (fun B1 F1 w1=>?_);refine qU 1 rfl ?_;refine aa.nil ⟨rfl,?_⟩;refine AZ.seq ?_;refine AZ.seq ?_;refine AZ.dm (fun B1 F1 w1=>?_);refine qU 4 rfl ?_;refine aa.call tok rfl rfl rfl rfl okc ?_;refine qU 6 rfl ?_;refine aa.nil ⟨rfl,?_⟩;refine AZ.seq ?_;refine AZ.dm (fun B1 F1 w1=>?_);refine qU 1 rfl ?_;refine aa.err tok rfl rfl rfl rfl rfl ?_;refine aa.nil ⟨rfl,?_⟩;refine AZ.ar rfl ?_;refine AZ.skip ?_;generalize fV v s.det p=det at *;obtain ⟨row,hrow⟩: ∃row,b.getD r []=row:=⟨_,rfl⟩;have hz:=vm v row p;have hsr: ∀k,ib b r k=row.getD k []:=fun k=>by unfold ib;rw[hrow]
 have hb0:bJ Ws b=bJ Ws (b.set r row):=by rw[← hrow,wu hrb]
 have hgr: ∀q:List NQ,(bJ Ws (b.set r q))[r]?=some (Ws.getD r undef,fX q):=fun q=>by
  rw[iC (by omega) (by simpa using hrb),so,if_pos ⟨rfl,hrb⟩]
 rw[hrow] at hE hrN okv;rw[hb0];refine AZ.seq ?_;refine AZ.seq ?_;refine AZ.BL (fun B1 F1 w1 hS=>?_);refine qU 3 rfl ?_;refine aa.idxs tok (hS.at (i:=0) rfl (by rw[List.length_map];omega)) rfl rfl rfl rfl (Int.natCast_nonneg _) (by show r<_;rw[List.length_map];omega) ?_;refine aa.aZ tok (.v (Ws.getD r undef)) (hS.at (i:=0) rfl (by rw[List.length_map];omega)) rfl rfl rfl rfl rfl rfl (bI (by omega)) rfl ?_;refine aa.lens tok (hS.at (i:=r+2) (hgr row) (by rw[List.length_map];omega)) rfl rfl rfl rfl ?_;rw[List.length_map,hrN];refine qU 1 rfl ?_;refine aa.nil ⟨rfl,?_⟩;refine AZ.block ?_;refine AZ.aD [3,6,7,8,11,12,14,36,37,120,121] (fun k:Nat=>(((Vr,OA Ws)::(Vc,CA s.cols)::bJ Ws (b.set r (gq (xO v row p) row k))),[(3,.bx [.sl 1 (v.map ae)]),(6,.bx [.sl 1 [],.sl 1 [],dI 0,.sl 3 []]),(7,.d aq),(8,.bx [.v Vr,.v Vc,dI sg,ae det]),(11,.d (dI c)),(12,.d (dI r)),(14,.d (ae p)),(36,.d (dI most)),(37,.d (dI c)),(120,.d (dI N)),(121,.d (dI k))])) (fun k=>k≤N) (fun k=>N-k) 0 (by rw[ue];rfl) (Nat.zero_le _) (fun k hk=>?_);show AZ _ _ _ _ _ _ _ ((Vr,OA Ws)::(Vc,CA s.cols)::bJ Ws (b.set r (gq (xO v row p) row k))) [(3,.bx [.sl 1 (v.map ae)]),(6,.bx [.sl 1 [],.sl 1 [],dI 0,.sl 3 []]),(7,.d aq),(8,.bx [.v Vr,.v Vc,dI sg,ae det]),(11,.d (dI c)),(12,.d (dI r)),(14,.d (ae p)),(36,.d (dI most)),(37,.d (dI c)),(120,.d (dI N)),(121,.d (dI k))];refine AZ.seq ?_;refine AZ.dm (fun B1 F1 w1=>?_);refine qU 1 rfl ?_;refine aa.nil ⟨rfl,?_⟩;refine AZ.seq ?_;refine AZ.cond rfl (fun h=>?_) (fun h=>?_)
 · have hkN:k<N:=by have:=of_decide_eq_true h;omega
   have hpl:=r7 hz (i:=k) (by omega);have hpg:=xc hz (show k<row.length by omega) [];have hps:=xb hz (show k<row.length by omega) (d:=[]) (zN v row p (show k<row.length by omega));have cd:=xY V (a:=row.getD k []) (b:=p) (by rw[← hrow];exact hb3 r k) (by rw[hpr];exact hb3 _ _) (by have:=okv k (by omega);rw[hsr] at this;exact this);generalize gq (xO v row p) row k=q at *;generalize row.getD k []=X at *;generalize AN v X p=Y at *;refine AZ.skip ?_;refine AZ.seq ?_;refine AZ.block ?_;refine AZ.seq ?_;refine AZ.dm (fun B1 F1 w1=>?_);refine qU 2 rfl ?_;refine aa.nil ⟨rfl,?_⟩;refine AZ.seq ?_;refine AZ.any aI (ZH.any (β:=[(8,[.v Vr,.v Vc,dI sg,ae det])]) ?_);refine ZH.mv 2 rfl rfl (by kernel_rfl) (by kernel_rfl) (by kernel_rfl) rfl (fun _ _ _ h=>h) (fun _=>rfl) ⟨rfl,trivial⟩ (fun B1 F1 w1=>?_);refine qU 1 rfl ?_;refine aa.nil ⟨rfl,?_⟩;refine ZH.mv 5 rfl rfl (by kernel_rfl) (by kernel_rfl) (by kernel_rfl) rfl (fun _ _ _ h=>h) (fun _=>rfl) ⟨rfl,trivial⟩ (fun B1 F1 w1=>?_);refine qU 1 rfl ?_;refine aa.nil ⟨rfl,?_⟩;refine ZH.mv 9 rfl rfl (by kernel_rfl) (by kernel_rfl) (by kernel_rfl) rfl (fun _ _ _ h=>h) (fun _=>rfl) ⟨rfl,trivial⟩ (fun B1 F1 w1=>?_);refine qU 1 rfl ?_;refine aa.nil ⟨rfl,?_⟩;refine ZH.mv 12 rfl rfl (by kernel_rfl) (by kernel_rfl) (by kernel_rfl) rfl (fun _ _ _ h=>h) (fun _=>rfl) ⟨rfl,trivial⟩ (fun B1 F1 w1=>?_);refine qU 1 rfl ?_;refine aa.nil ⟨rfl,?_⟩;refine ZH.mv 15 rfl rfl (by kernel_rfl) (by kernel_rfl) (by kernel_rfl) rfl (fun _ _ _ h=>h) (fun _=>rfl) ⟨rfl,trivial⟩ (fun B1 F1 w1=>?_);refine qU 1 rfl ?_;refine aa.nil ⟨rfl,?_⟩;refine ZH.fd tok 0 rfl rfl (by kernel_rfl) (by kernel_rfl) (by kernel_rfl) rfl (fun _ _ _ h=>h) (fun _=>rfl) ⟨rfl,trivial⟩ (fun B1 F1 w1=>?_);refine qU 1 rfl ?_;refine aa.nil ⟨rfl,?_⟩;refine ZH.fd tok 7 rfl rfl (by kernel_rfl) (by kernel_rfl) (by kernel_rfl) rfl (fun _ _ _ h=>h) (fun _=>rfl) ⟨rfl,trivial⟩ (fun B1 F1 w1=>?_);refine qU 1 rfl ?_;refine aa.nil ⟨rfl,?_⟩;refine ZH.ld tok 1 rfl rfl (by kernel_rfl) (by kernel_rfl) (by kernel_rfl) rfl rfl (fun _ _ _ h=>h) (fun _=>rfl) ⟨rfl,trivial⟩ (fun B1 F1 w1=>?_);refine qU 1 rfl ?_;refine aa.nil ⟨rfl,?_⟩;refine ZH.ld tok 8 rfl rfl (by kernel_rfl) (by kernel_rfl) (by kernel_rfl) rfl rfl (fun _ _ _ h=>h) (fun _=>rfl) ⟨rfl,trivial⟩ (fun B1 F1 w1=>?_);refine qU 1 rfl ?_;refine aa.nil ⟨rfl,?_⟩;refine ZH.meet 0 (qB 23 8388607) (fun V=>((Vr,OA Ws)::(Vc,CA s.cols)::bJ Ws (b.set r (gq (xO v row p) row (k+1))))) (fun V=>[(3,.bx [.sl 1 (v.map ae)]),(6,.bx [.sl 1 [],.sl 1 [],dI 0,.sl 3 []]),(7,.d aq),(8,.bx [.v Vr,.v Vc,dI sg,ae det]),(11,.d (dI c)),(12,.d (dI r)),(14,.d (ae p)),(36,.d (dI most)),(37,.d (dI c)),(16,.d (dI k)),(126,.d (.v Vr)),(127,.d (dI r)),(130,.d (dI k)),(133,.d (.v Vr)),(134,.d (dI r)),(137,.d (dI k)),(140,.d (ae p)),(120,.d (dI N)),(121,.d (dI k)),(129,.d (.v (Ws.getD r undef))),(131,.d (aL v)),(139,.d (ae X)),(124,.d (.tu [ae Y,aq])),(142,.d (ae Y)),(143,.d aq),(15,.d aq)]) (fun V=>?_) (fun N2_1_4_5_1_1=>?_)
   · refine ZH.done (by kernel_rfl) ⟨rfl,trivial⟩ ?_;refine AZ.to [3,6,7,8,11,12,14,36,37,15,120,121] [(3,.bx [.sl 1 (v.map ae)]),(6,.bx [.sl 1 [],.sl 1 [],dI 0,.sl 3 []]),(7,.d aq),(8,.bx [.v Vr,.v Vc,dI sg,ae det]),(11,.d (dI c)),(12,.d (dI r)),(14,.d (ae p)),(36,.d (dI most)),(37,.d (dI c)),(15,.d aq),(120,.d (dI N)),(121,.d (dI k))] rfl ?_;refine AZ.seq ?_;refine AZ.dm (fun B1 F1 w1=>?_);refine qU 1 rfl ?_;refine aa.err tok rfl rfl rfl rfl rfl ?_;refine aa.nil ⟨rfl,?_⟩;refine AZ.ar rfl ?_;refine AZ.skip ?_;refine AZ.dm (fun B1 F1 w1=>?_);refine qU 1 rfl ?_;rw[au (x:=(k:Int)+1) (by omega) (by omega)];refine qU 1 rfl ?_;refine aa.nil ⟨rfl,?_⟩;exact⟨k+1,rfl,hkN,by omega⟩
   refine ZH.meet 1 (qB 23 4194303) (fun V=>((Vr,OA Ws)::(Vc,CA s.cols)::bJ Ws (b.set r (gq (xO v row p) row (k+1))))) (fun V=>[(3,.bx [.sl 1 (v.map ae)]),(6,.bx [.sl 1 [],.sl 1 [],dI 0,.sl 3 []]),(7,.d aq),(8,.bx [.v Vr,.v Vc,dI sg,ae det]),(11,.d (dI c)),(12,.d (dI r)),(14,.d (ae p)),(36,.d (dI most)),(37,.d (dI c)),(16,.d (dI k)),(126,.d (.v Vr)),(127,.d (dI r)),(130,.d (dI k)),(133,.d (.v Vr)),(134,.d (dI r)),(137,.d (dI k)),(140,.d (ae p)),(120,.d (dI N)),(121,.d (dI k)),(129,.d (.v (Ws.getD r undef))),(131,.d (aL v)),(139,.d (ae X)),(124,.d (.tu [ae Y,aq])),(142,.d (ae Y)),(143,.d aq)]) (fun V=>?_) (fun N2_1_4_5_1_0=>?_)
   · refine ZH.all 22 (by kernel_rfl) rfl rfl (fun _=>rfl) ⟨rfl,trivial⟩ ?_;refine ah (fun B1 F1 w1=>?_);refine qU 1 rfl ?_;refine aa.nil ⟨rfl,?_⟩;exact qL (N2_1_4_5_1_1 V) (by kernel_rfl) rfl ⟨rfl,trivial⟩
   refine ZH.meet 2 (qB 23 2097151) (fun V=>((Vr,OA Ws)::(Vc,CA s.cols)::bJ Ws (b.set r q))) (fun V=>[(3,.bx [.sl 1 (v.map ae)]),(6,.bx [.sl 1 [],.sl 1 [],dI 0,.sl 3 []]),(7,.d aq),(8,.bx [.v Vr,.v Vc,dI sg,ae det]),(11,.d (dI c)),(12,.d (dI r)),(14,.d (ae p)),(36,.d (dI most)),(37,.d (dI c)),(16,.d (dI k)),(126,.d (.v Vr)),(127,.d (dI r)),(130,.d (dI k)),(133,.d (.v Vr)),(134,.d (dI r)),(137,.d (dI k)),(140,.d (ae p)),(120,.d (dI N)),(121,.d (dI k)),(129,.d (.v (Ws.getD r undef))),(131,.d (aL v)),(139,.d (ae X)),(124,.d (.tu [ae Y,aq])),(142,.d (ae Y)),(144,.d (.v (aT (Ws.getD r undef) (k*1)))),(143,.d aq)]) (fun V=>?_) (fun N2_1_4_4_1_0=>?_)
   · refine ZH.all 21 (by kernel_rfl) rfl rfl (fun _=>rfl) ⟨rfl,trivial⟩ ?_;refine an.cy 129 (r+2) (hgr q) rfl rfl ?_;refine an.el tok 129 144 rfl (List.Mem.head _) rfl rfl rfl (by rw[List.length_map];omega) rfl ?_;refine an.cut 1 rfl (fun B1 F1 w1=>?_);refine aa.mN tok Y rfl rfl rfl (by omega) ?_;rw[hps];refine aa.nil ⟨rfl,?_⟩;refine an.back 129 (r+2) rfl rfl rfl (List.Mem.head _) (List.getElem?_set_self (by have:=(List.getElem?_eq_some_iff.1 (hgr q)).1;simp only[List.length_cons];omega)) ?_
     refine an.sB (R':=((Vr,OA Ws)::(Vc,CA s.cols)::bJ Ws (b.set r (gq (xO v row p) row (k+1))))) (by
      show (Vr,OA Ws)::(Vc,CA s.cols)::((bJ Ws (b.set r q)).set r _).set r _=_
      rw[List.set_set,qV (by omega) (by simpa using hrb),List.set_set]) ?_
     refine an.nil ?_;exact qL (N2_1_4_5_1_0 V) (by kernel_rfl) rfl ⟨rfl,trivial⟩
   refine ZH.meet 2 (qB 23 3670015) (fun V=>((Vr,OA Ws)::(Vc,CA s.cols)::bJ Ws (b.set r (gq (xO v row p) row (k+1))))) (fun V=>[(3,.bx [.sl 1 (v.map ae)]),(6,.bx [.sl 1 [],.sl 1 [],dI 0,.sl 3 []]),(7,.d aq),(8,.bx [.v Vr,.v Vc,dI sg,ae det]),(11,.d (dI c)),(12,.d (dI r)),(14,.d (ae p)),(36,.d (dI most)),(37,.d (dI c)),(16,.d (dI k)),(126,.d (.v Vr)),(127,.d (dI r)),(130,.d (dI k)),(133,.d (.v Vr)),(134,.d (dI r)),(137,.d (dI k)),(140,.d (ae p)),(120,.d (dI N)),(121,.d (dI k)),(129,.d (.v (Ws.getD r undef))),(131,.d (aL v)),(139,.d (ae X)),(124,.d (.tu [ae Y,aq])),(142,.d (ae Y))]) (fun V=>?_) (fun N2_1_4_5_0_0=>?_)
   · refine ZH.all 19 (by kernel_rfl) rfl rfl (fun _=>rfl) ⟨rfl,trivial⟩ ?_;refine ah (fun B1 F1 w1=>?_);refine qU 1 rfl ?_;refine aa.nil ⟨rfl,?_⟩;exact qL (N2_1_4_5_1_0 V) (by kernel_rfl) rfl ⟨rfl,trivial⟩
   refine ZH.meet 3 (qB 23 1048575) (fun V=>((Vr,OA Ws)::(Vc,CA s.cols)::bJ Ws (b.set r q))) (fun V=>[(3,.bx [.sl 1 (v.map ae)]),(6,.bx [.sl 1 [],.sl 1 [],dI 0,.sl 3 []]),(7,.d aq),(8,.bx [.v Vr,.v Vc,dI sg,ae det]),(11,.d (dI c)),(12,.d (dI r)),(14,.d (ae p)),(36,.d (dI most)),(37,.d (dI c)),(16,.d (dI k)),(126,.d (.v Vr)),(127,.d (dI r)),(130,.d (dI k)),(133,.d (.v Vr)),(134,.d (dI r)),(137,.d (dI k)),(140,.d (ae p)),(120,.d (dI N)),(121,.d (dI k)),(129,.d (.v (Ws.getD r undef))),(131,.d (aL v)),(139,.d (ae X)),(124,.d (.tu [ae Y,aq])),(142,.d (ae Y)),(143,.d aq)]) (fun V=>?_) (fun N2_1_4_3_1_0=>?_)
   · refine ZH.all 20 (by kernel_rfl) rfl rfl (fun _=>rfl) ⟨rfl,trivial⟩ ?_;refine ao (fun B1 F1 w1 hS=>?_);refine aa.idxs tok (hS.at (i:=r+2) (hgr q) (by rw[List.length_map];omega)) rfl rfl rfl rfl (Int.natCast_nonneg k) (by rw[List.length_map];omega) ?_;refine aa.nil ⟨rfl,?_⟩;exact qL (N2_1_4_4_1_0 V) (by kernel_rfl) rfl ⟨rfl,trivial⟩
   refine ZH.meet 3 (qB 23 1572863) (fun V=>((Vr,OA Ws)::(Vc,CA s.cols)::bJ Ws (b.set r q))) (fun V=>[(3,.bx [.sl 1 (v.map ae)]),(6,.bx [.sl 1 [],.sl 1 [],dI 0,.sl 3 []]),(7,.d aq),(8,.bx [.v Vr,.v Vc,dI sg,ae det]),(11,.d (dI c)),(12,.d (dI r)),(14,.d (ae p)),(36,.d (dI most)),(37,.d (dI c)),(16,.d (dI k)),(126,.d (.v Vr)),(127,.d (dI r)),(130,.d (dI k)),(133,.d (.v Vr)),(134,.d (dI r)),(137,.d (dI k)),(140,.d (ae p)),(120,.d (dI N)),(121,.d (dI k)),(129,.d (.v (Ws.getD r undef))),(131,.d (aL v)),(139,.d (ae X)),(124,.d (.tu [ae Y,aq])),(142,.d (ae Y)),(144,.d (.v (aT (Ws.getD r undef) (k*1))))]) (fun V=>?_) (fun N2_1_4_4_0_0=>?_)
   · refine ZH.two 19 21 (by kernel_rfl) rfl rfl rfl rfl (fun _=>rfl) (fun _=>rfl) ⟨rfl,trivial⟩ ?_ ?_
     · refine ah (fun B1 F1 w1=>?_);refine qU 1 rfl ?_;refine aa.nil ⟨rfl,?_⟩;exact qL (N2_1_4_4_1_0 V) (by kernel_rfl) rfl ⟨rfl,trivial⟩
     · refine an.cy 129 (r+2) (hgr q) rfl rfl ?_;refine an.el tok 129 144 rfl (List.Mem.head _) rfl rfl rfl (by rw[List.length_map];omega) rfl ?_;refine an.cut 1 rfl (fun B1 F1 w1=>?_);refine aa.mN tok Y rfl rfl rfl (by omega) ?_;rw[hps];refine aa.nil ⟨rfl,?_⟩;refine an.back 129 (r+2) rfl rfl rfl (List.Mem.head _) (List.getElem?_set_self (by have:=(List.getElem?_eq_some_iff.1 (hgr q)).1;simp only[List.length_cons];omega)) ?_
       refine an.sB (R':=((Vr,OA Ws)::(Vc,CA s.cols)::bJ Ws (b.set r (gq (xO v row p) row (k+1))))) (by
        show (Vr,OA Ws)::(Vc,CA s.cols)::((bJ Ws (b.set r q)).set r _).set r _=_
        rw[List.set_set,qV (by omega) (by simpa using hrb),List.set_set]) ?_
       refine an.nil ?_;exact qL (N2_1_4_5_0_0 V) (by kernel_rfl) rfl ⟨rfl,trivial⟩
   refine ZH.meet 4 (qB 23 1048559) (fun V=>((Vr,OA Ws)::(Vc,CA s.cols)::bJ Ws (b.set r q))) (fun V=>[(3,.bx [.sl 1 (v.map ae)]),(6,.bx [.sl 1 [],.sl 1 [],dI 0,.sl 3 []]),(7,.d aq),(8,.bx [.v Vr,.v Vc,dI sg,ae det]),(11,.d (dI c)),(12,.d (dI r)),(14,.d (ae p)),(36,.d (dI most)),(37,.d (dI c)),(16,.d (dI k)),(126,.d (.v Vr)),(127,.d (dI r)),(130,.d (dI k)),(133,.d (.v Vr)),(134,.d (dI r)),(137,.d (dI k)),(140,.d (ae p)),(120,.d (dI N)),(121,.d (dI k)),(128,.d (.v (aT Vr (r*1)))),(131,.d (aL v)),(139,.d (ae X)),(124,.d (.tu [ae Y,aq])),(142,.d (ae Y)),(143,.d aq)]) (fun V=>?_) (fun N1_1_4_3_1_0=>?_)
   · refine ZH.all 4 (by kernel_rfl) rfl rfl (fun _=>rfl) ⟨rfl,trivial⟩ ?_;refine ao (fun B1 F1 w1 hS=>?_);refine aa.aZ tok (.v (Ws.getD r undef)) (hS.at (i:=0) rfl (by rw[List.length_map];omega)) rfl rfl rfl rfl rfl rfl (bI (by omega)) rfl ?_;refine aa.nil ⟨rfl,?_⟩;exact qL (N2_1_4_3_1_0 V) (by kernel_rfl) rfl ⟨rfl,trivial⟩
   refine ZH.meet 4 (qB 23 786431) (fun V=>((Vr,OA Ws)::(Vc,CA s.cols)::bJ Ws (b.set r q))) (fun V=>[(3,.bx [.sl 1 (v.map ae)]),(6,.bx [.sl 1 [],.sl 1 [],dI 0,.sl 3 []]),(7,.d aq),(8,.bx [.v Vr,.v Vc,dI sg,ae det]),(11,.d (dI c)),(12,.d (dI r)),(14,.d (ae p)),(36,.d (dI most)),(37,.d (dI c)),(16,.d (dI k)),(126,.d (.v Vr)),(127,.d (dI r)),(130,.d (dI k)),(133,.d (.v Vr)),(134,.d (dI r)),(137,.d (dI k)),(140,.d (ae p)),(120,.d (dI N)),(121,.d (dI k)),(129,.d (.v (Ws.getD r undef))),(131,.d (aL v)),(139,.d (ae X)),(124,.d (.tu [ae Y,aq])),(143,.d aq)]) (fun V=>?_) (fun N2_1_4_2_1_0=>?_)
   · refine ZH.all 18 (by kernel_rfl) rfl rfl (fun _=>rfl) ⟨rfl,trivial⟩ ?_;refine ah (fun B1 F1 w1=>?_);refine qU 1 rfl ?_;refine aa.nil ⟨rfl,?_⟩;exact qL (N2_1_4_3_1_0 V) (by kernel_rfl) rfl ⟨rfl,trivial⟩
   refine ZH.meet 4 (qB 23 524287) (fun V=>((Vr,OA Ws)::(Vc,CA s.cols)::bJ Ws (b.set r q))) (fun V=>[(3,.bx [.sl 1 (v.map ae)]),(6,.bx [.sl 1 [],.sl 1 [],dI 0,.sl 3 []]),(7,.d aq),(8,.bx [.v Vr,.v Vc,dI sg,ae det]),(11,.d (dI c)),(12,.d (dI r)),(14,.d (ae p)),(36,.d (dI most)),(37,.d (dI c)),(16,.d (dI k)),(126,.d (.v Vr)),(127,.d (dI r)),(130,.d (dI k)),(133,.d (.v Vr)),(134,.d (dI r)),(137,.d (dI k)),(140,.d (ae p)),(120,.d (dI N)),(121,.d (dI k)),(129,.d (.v (Ws.getD r undef))),(131,.d (aL v)),(139,.d (ae X)),(124,.d (.tu [ae Y,aq])),(142,.d (ae Y))]) (fun V=>?_) (fun N2_1_4_3_0_0=>?_)
   · refine ZH.two 19 20 (by kernel_rfl) rfl rfl rfl rfl (fun _=>rfl) (fun _=>rfl) ⟨rfl,trivial⟩ ?_ ?_
     · refine ah (fun B1 F1 w1=>?_);refine qU 1 rfl ?_;refine aa.nil ⟨rfl,?_⟩;exact qL (N2_1_4_3_1_0 V) (by kernel_rfl) rfl ⟨rfl,trivial⟩
     · refine ao (fun B1 F1 w1 hS=>?_);refine aa.idxs tok (hS.at (i:=r+2) (hgr q) (by rw[List.length_map];omega)) rfl rfl rfl rfl (Int.natCast_nonneg k) (by rw[List.length_map];omega) ?_;refine aa.nil ⟨rfl,?_⟩;exact qL (N2_1_4_4_0_0 V) (by kernel_rfl) rfl ⟨rfl,trivial⟩
   refine ZH.meet 5 (qB 23 1048551) (fun V=>((Vr,OA Ws)::(Vc,CA s.cols)::bJ Ws (b.set r q))) (fun V=>[(3,.bx [.sl 1 (v.map ae)]),(6,.bx [.sl 1 [],.sl 1 [],dI 0,.sl 3 []]),(7,.d aq),(8,.bx [.v Vr,.v Vc,dI sg,ae det]),(11,.d (dI c)),(12,.d (dI r)),(14,.d (ae p)),(36,.d (dI most)),(37,.d (dI c)),(16,.d (dI k)),(126,.d (.v Vr)),(127,.d (dI r)),(130,.d (dI k)),(133,.d (.v Vr)),(134,.d (dI r)),(137,.d (dI k)),(140,.d (ae p)),(120,.d (dI N)),(121,.d (dI k)),(131,.d (aL v)),(139,.d (ae X)),(124,.d (.tu [ae Y,aq])),(142,.d (ae Y)),(143,.d aq)]) (fun V=>?_) (fun N0_1_4_3_1_0=>?_)
   · refine ZH.all 3 (by kernel_rfl) rfl rfl (fun _=>rfl) ⟨rfl,trivial⟩ ?_;refine ao (fun B1 F1 w1 hS=>?_);refine aa.idxs tok (hS.at (i:=0) rfl (by rw[List.length_map];omega)) rfl rfl rfl rfl (Int.natCast_nonneg _) (by show r<_;rw[List.length_map];omega) ?_;refine aa.nil ⟨rfl,?_⟩;exact qL (N1_1_4_3_1_0 V) (by kernel_rfl) rfl ⟨rfl,trivial⟩
   refine ZH.meet 5 (qB 23 786415) (fun V=>((Vr,OA Ws)::(Vc,CA s.cols)::bJ Ws (b.set r q))) (fun V=>[(3,.bx [.sl 1 (v.map ae)]),(6,.bx [.sl 1 [],.sl 1 [],dI 0,.sl 3 []]),(7,.d aq),(8,.bx [.v Vr,.v Vc,dI sg,ae det]),(11,.d (dI c)),(12,.d (dI r)),(14,.d (ae p)),(36,.d (dI most)),(37,.d (dI c)),(16,.d (dI k)),(126,.d (.v Vr)),(127,.d (dI r)),(130,.d (dI k)),(133,.d (.v Vr)),(134,.d (dI r)),(137,.d (dI k)),(140,.d (ae p)),(120,.d (dI N)),(121,.d (dI k)),(128,.d (.v (aT Vr (r*1)))),(131,.d (aL v)),(139,.d (ae X)),(124,.d (.tu [ae Y,aq])),(143,.d aq)]) (fun V=>?_) (fun N1_1_4_2_1_0=>?_)
   · refine ZH.two 4 18 (by kernel_rfl) rfl rfl rfl rfl (fun _=>rfl) (fun _=>rfl) ⟨rfl,trivial⟩ ?_ ?_
     · refine ao (fun B1 F1 w1 hS=>?_);refine aa.aZ tok (.v (Ws.getD r undef)) (hS.at (i:=0) rfl (by rw[List.length_map];omega)) rfl rfl rfl rfl rfl rfl (bI (by omega)) rfl ?_;refine aa.nil ⟨rfl,?_⟩;exact qL (N2_1_4_2_1_0 V) (by kernel_rfl) rfl ⟨rfl,trivial⟩
     · refine ah (fun B1 F1 w1=>?_);refine qU 1 rfl ?_;refine aa.nil ⟨rfl,?_⟩;exact qL (N1_1_4_3_1_0 V) (by kernel_rfl) rfl ⟨rfl,trivial⟩
   refine ZH.meet 5 (qB 23 524271) (fun V=>((Vr,OA Ws)::(Vc,CA s.cols)::bJ Ws (b.set r q))) (fun V=>[(3,.bx [.sl 1 (v.map ae)]),(6,.bx [.sl 1 [],.sl 1 [],dI 0,.sl 3 []]),(7,.d aq),(8,.bx [.v Vr,.v Vc,dI sg,ae det]),(11,.d (dI c)),(12,.d (dI r)),(14,.d (ae p)),(36,.d (dI most)),(37,.d (dI c)),(16,.d (dI k)),(126,.d (.v Vr)),(127,.d (dI r)),(130,.d (dI k)),(133,.d (.v Vr)),(134,.d (dI r)),(137,.d (dI k)),(140,.d (ae p)),(120,.d (dI N)),(121,.d (dI k)),(128,.d (.v (aT Vr (r*1)))),(131,.d (aL v)),(139,.d (ae X)),(124,.d (.tu [ae Y,aq])),(142,.d (ae Y))]) (fun V=>?_) (fun N1_1_4_3_0_0=>?_)
   · refine ZH.two 4 19 (by kernel_rfl) rfl rfl rfl rfl (fun _=>rfl) (fun _=>rfl) ⟨rfl,trivial⟩ ?_ ?_
     · refine ao (fun B1 F1 w1 hS=>?_);refine aa.aZ tok (.v (Ws.getD r undef)) (hS.at (i:=0) rfl (by rw[List.length_map];omega)) rfl rfl rfl rfl rfl rfl (bI (by omega)) rfl ?_;refine aa.nil ⟨rfl,?_⟩;exact qL (N2_1_4_3_0_0 V) (by kernel_rfl) rfl ⟨rfl,trivial⟩
     · refine ah (fun B1 F1 w1=>?_);refine qU 1 rfl ?_;refine aa.nil ⟨rfl,?_⟩;exact qL (N1_1_4_3_1_0 V) (by kernel_rfl) rfl ⟨rfl,trivial⟩
   refine ZH.meet 5 (qB 23 262143) (fun V=>((Vr,OA Ws)::(Vc,CA s.cols)::bJ Ws (b.set r q))) (fun V=>[(3,.bx [.sl 1 (v.map ae)]),(6,.bx [.sl 1 [],.sl 1 [],dI 0,.sl 3 []]),(7,.d aq),(8,.bx [.v Vr,.v Vc,dI sg,ae det]),(11,.d (dI c)),(12,.d (dI r)),(14,.d (ae p)),(36,.d (dI most)),(37,.d (dI c)),(16,.d (dI k)),(126,.d (.v Vr)),(127,.d (dI r)),(130,.d (dI k)),(133,.d (.v Vr)),(134,.d (dI r)),(137,.d (dI k)),(140,.d (ae p)),(120,.d (dI N)),(121,.d (dI k)),(129,.d (.v (Ws.getD r undef))),(131,.d (aL v)),(139,.d (ae X)),(124,.d (.tu [ae Y,aq]))]) (fun V=>?_) (fun N2_1_4_2_0_0=>?_)
   · refine ZH.two 18 19 (by kernel_rfl) rfl rfl rfl rfl (fun _=>rfl) (fun _=>rfl) ⟨rfl,trivial⟩ ?_ ?_
     · refine ah (fun B1 F1 w1=>?_);refine qU 1 rfl ?_;refine aa.nil ⟨rfl,?_⟩;exact qL (N2_1_4_3_0_0 V) (by kernel_rfl) rfl ⟨rfl,trivial⟩
     · refine ah (fun B1 F1 w1=>?_);refine qU 1 rfl ?_;refine aa.nil ⟨rfl,?_⟩;exact qL (N2_1_4_2_1_0 V) (by kernel_rfl) rfl ⟨rfl,trivial⟩
   refine ZH.meet 6 (qB 23 786407) (fun V=>((Vr,OA Ws)::(Vc,CA s.cols)::bJ Ws (b.set r q))) (fun V=>[(3,.bx [.sl 1 (v.map ae)]),(6,.bx [.sl 1 [],.sl 1 [],dI 0,.sl 3 []]),(7,.d aq),(8,.bx [.v Vr,.v Vc,dI sg,ae det]),(11,.d (dI c)),(12,.d (dI r)),(14,.d (ae p)),(36,.d (dI most)),(37,.d (dI c)),(16,.d (dI k)),(126,.d (.v Vr)),(127,.d (dI r)),(130,.d (dI k)),(133,.d (.v Vr)),(134,.d (dI r)),(137,.d (dI k)),(140,.d (ae p)),(120,.d (dI N)),(121,.d (dI k)),(131,.d (aL v)),(139,.d (ae X)),(124,.d (.tu [ae Y,aq])),(143,.d aq)]) (fun V=>?_) (fun N0_1_4_2_1_0=>?_)
   · refine ZH.two 3 18 (by kernel_rfl) rfl rfl rfl rfl (fun _=>rfl) (fun _=>rfl) ⟨rfl,trivial⟩ ?_ ?_
     · refine ao (fun B1 F1 w1 hS=>?_);refine aa.idxs tok (hS.at (i:=0) rfl (by rw[List.length_map];omega)) rfl rfl rfl rfl (Int.natCast_nonneg _) (by show r<_;rw[List.length_map];omega) ?_;refine aa.nil ⟨rfl,?_⟩;exact qL (N1_1_4_2_1_0 V) (by kernel_rfl) rfl ⟨rfl,trivial⟩
     · refine ah (fun B1 F1 w1=>?_);refine qU 1 rfl ?_;refine aa.nil ⟨rfl,?_⟩;exact qL (N0_1_4_3_1_0 V) (by kernel_rfl) rfl ⟨rfl,trivial⟩
   refine ZH.meet 6 (qB 23 524263) (fun V=>((Vr,OA Ws)::(Vc,CA s.cols)::bJ Ws (b.set r q))) (fun V=>[(3,.bx [.sl 1 (v.map ae)]),(6,.bx [.sl 1 [],.sl 1 [],dI 0,.sl 3 []]),(7,.d aq),(8,.bx [.v Vr,.v Vc,dI sg,ae det]),(11,.d (dI c)),(12,.d (dI r)),(14,.d (ae p)),(36,.d (dI most)),(37,.d (dI c)),(16,.d (dI k)),(126,.d (.v Vr)),(127,.d (dI r)),(130,.d (dI k)),(133,.d (.v Vr)),(134,.d (dI r)),(137,.d (dI k)),(140,.d (ae p)),(120,.d (dI N)),(121,.d (dI k)),(131,.d (aL v)),(139,.d (ae X)),(124,.d (.tu [ae Y,aq])),(142,.d (ae Y))]) (fun V=>?_) (fun N0_1_4_3_0_0=>?_)
   · refine ZH.two 3 19 (by kernel_rfl) rfl rfl rfl rfl (fun _=>rfl) (fun _=>rfl) ⟨rfl,trivial⟩ ?_ ?_
     · refine ao (fun B1 F1 w1 hS=>?_);refine aa.idxs tok (hS.at (i:=0) rfl (by rw[List.length_map];omega)) rfl rfl rfl rfl (Int.natCast_nonneg _) (by show r<_;rw[List.length_map];omega) ?_;refine aa.nil ⟨rfl,?_⟩;exact qL (N1_1_4_3_0_0 V) (by kernel_rfl) rfl ⟨rfl,trivial⟩
     · refine ah (fun B1 F1 w1=>?_);refine qU 1 rfl ?_;refine aa.nil ⟨rfl,?_⟩;exact qL (N0_1_4_3_1_0 V) (by kernel_rfl) rfl ⟨rfl,trivial⟩
   refine ZH.meet 6 (qB 23 262127) (fun V=>((Vr,OA Ws)::(Vc,CA s.cols)::bJ Ws (b.set r q))) (fun V=>[(3,.bx [.sl 1 (v.map ae)]),(6,.bx [.sl 1 [],.sl 1 [],dI 0,.sl 3 []]),(7,.d aq),(8,.bx [.v Vr,.v Vc,dI sg,ae det]),(11,.d (dI c)),(12,.d (dI r)),(14,.d (ae p)),(36,.d (dI most)),(37,.d (dI c)),(16,.d (dI k)),(126,.d (.v Vr)),(127,.d (dI r)),(130,.d (dI k)),(133,.d (.v Vr)),(134,.d (dI r)),(137,.d (dI k)),(140,.d (ae p)),(120,.d (dI N)),(121,.d (dI k)),(128,.d (.v (aT Vr (r*1)))),(131,.d (aL v)),(139,.d (ae X)),(124,.d (.tu [ae Y,aq]))]) (fun V=>?_) (fun N1_1_4_2_0_0=>?_)
   · refine ZH.three 4 18 19 (by kernel_rfl) rfl rfl rfl rfl rfl rfl (fun _=>rfl) (fun _=>rfl) (fun _=>rfl) ⟨rfl,trivial⟩ ?_ ?_ ?_
     · refine ao (fun B1 F1 w1 hS=>?_);refine aa.aZ tok (.v (Ws.getD r undef)) (hS.at (i:=0) rfl (by rw[List.length_map];omega)) rfl rfl rfl rfl rfl rfl (bI (by omega)) rfl ?_;refine aa.nil ⟨rfl,?_⟩;exact qL (N2_1_4_2_0_0 V) (by kernel_rfl) rfl ⟨rfl,trivial⟩
     · refine ah (fun B1 F1 w1=>?_);refine qU 1 rfl ?_;refine aa.nil ⟨rfl,?_⟩;exact qL (N1_1_4_3_0_0 V) (by kernel_rfl) rfl ⟨rfl,trivial⟩
     · refine ah (fun B1 F1 w1=>?_);refine qU 1 rfl ?_;refine aa.nil ⟨rfl,?_⟩;exact qL (N1_1_4_2_1_0 V) (by kernel_rfl) rfl ⟨rfl,trivial⟩
   refine ZH.meet 6 (qB 23 131071) (fun V=>((Vr,OA Ws)::(Vc,CA s.cols)::bJ Ws (b.set r q))) (fun V=>[(3,.bx [.sl 1 (v.map ae)]),(6,.bx [.sl 1 [],.sl 1 [],dI 0,.sl 3 []]),(7,.d aq),(8,.bx [.v Vr,.v Vc,dI sg,ae det]),(11,.d (dI c)),(12,.d (dI r)),(14,.d (ae p)),(36,.d (dI most)),(37,.d (dI c)),(16,.d (dI k)),(126,.d (.v Vr)),(127,.d (dI r)),(130,.d (dI k)),(133,.d (.v Vr)),(134,.d (dI r)),(137,.d (dI k)),(140,.d (ae p)),(120,.d (dI N)),(121,.d (dI k)),(129,.d (.v (Ws.getD r undef))),(131,.d (aL v)),(139,.d (ae X)),(141,.d (.tu [ae Y,aq]))]) (fun V=>?_) (fun N2_1_4_1_0_0=>?_)
   · refine ZH.all 17 (by kernel_rfl) rfl rfl (fun _=>rfl) ⟨rfl,trivial⟩ ?_;refine ah (fun B1 F1 w1=>?_);refine qU 1 rfl ?_;refine aa.nil ⟨rfl,?_⟩;exact qL (N2_1_4_2_0_0 V) (by kernel_rfl) rfl ⟨rfl,trivial⟩
   refine ZH.meet 7 (qB 23 262119) (fun V=>((Vr,OA Ws)::(Vc,CA s.cols)::bJ Ws (b.set r q))) (fun V=>[(3,.bx [.sl 1 (v.map ae)]),(6,.bx [.sl 1 [],.sl 1 [],dI 0,.sl 3 []]),(7,.d aq),(8,.bx [.v Vr,.v Vc,dI sg,ae det]),(11,.d (dI c)),(12,.d (dI r)),(14,.d (ae p)),(36,.d (dI most)),(37,.d (dI c)),(16,.d (dI k)),(126,.d (.v Vr)),(127,.d (dI r)),(130,.d (dI k)),(133,.d (.v Vr)),(134,.d (dI r)),(137,.d (dI k)),(140,.d (ae p)),(120,.d (dI N)),(121,.d (dI k)),(131,.d (aL v)),(139,.d (ae X)),(124,.d (.tu [ae Y,aq]))]) (fun V=>?_) (fun N0_1_4_2_0_0=>?_)
   · refine ZH.three 3 18 19 (by kernel_rfl) rfl rfl rfl rfl rfl rfl (fun _=>rfl) (fun _=>rfl) (fun _=>rfl) ⟨rfl,trivial⟩ ?_ ?_ ?_
     · refine ao (fun B1 F1 w1 hS=>?_);refine aa.idxs tok (hS.at (i:=0) rfl (by rw[List.length_map];omega)) rfl rfl rfl rfl (Int.natCast_nonneg _) (by show r<_;rw[List.length_map];omega) ?_;refine aa.nil ⟨rfl,?_⟩;exact qL (N1_1_4_2_0_0 V) (by kernel_rfl) rfl ⟨rfl,trivial⟩
     · refine ah (fun B1 F1 w1=>?_);refine qU 1 rfl ?_;refine aa.nil ⟨rfl,?_⟩;exact qL (N0_1_4_3_0_0 V) (by kernel_rfl) rfl ⟨rfl,trivial⟩
     · refine ah (fun B1 F1 w1=>?_);refine qU 1 rfl ?_;refine aa.nil ⟨rfl,?_⟩;exact qL (N0_1_4_2_1_0 V) (by kernel_rfl) rfl ⟨rfl,trivial⟩
   refine ZH.meet 7 (qB 23 131055) (fun V=>((Vr,OA Ws)::(Vc,CA s.cols)::bJ Ws (b.set r q))) (fun V=>[(3,.bx [.sl 1 (v.map ae)]),(6,.bx [.sl 1 [],.sl 1 [],dI 0,.sl 3 []]),(7,.d aq),(8,.bx [.v Vr,.v Vc,dI sg,ae det]),(11,.d (dI c)),(12,.d (dI r)),(14,.d (ae p)),(36,.d (dI most)),(37,.d (dI c)),(16,.d (dI k)),(126,.d (.v Vr)),(127,.d (dI r)),(130,.d (dI k)),(133,.d (.v Vr)),(134,.d (dI r)),(137,.d (dI k)),(140,.d (ae p)),(120,.d (dI N)),(121,.d (dI k)),(128,.d (.v (aT Vr (r*1)))),(131,.d (aL v)),(139,.d (ae X)),(141,.d (.tu [ae Y,aq]))]) (fun V=>?_) (fun N1_1_4_1_0_0=>?_)
   · refine ZH.two 4 17 (by kernel_rfl) rfl rfl rfl rfl (fun _=>rfl) (fun _=>rfl) ⟨rfl,trivial⟩ ?_ ?_
     · refine ao (fun B1 F1 w1 hS=>?_);refine aa.aZ tok (.v (Ws.getD r undef)) (hS.at (i:=0) rfl (by rw[List.length_map];omega)) rfl rfl rfl rfl rfl rfl (bI (by omega)) rfl ?_;refine aa.nil ⟨rfl,?_⟩;exact qL (N2_1_4_1_0_0 V) (by kernel_rfl) rfl ⟨rfl,trivial⟩
     · refine ah (fun B1 F1 w1=>?_);refine qU 1 rfl ?_;refine aa.nil ⟨rfl,?_⟩;exact qL (N1_1_4_2_0_0 V) (by kernel_rfl) rfl ⟨rfl,trivial⟩
   refine ZH.meet 7 (qB 23 65535) (fun V=>((Vr,OA Ws)::(Vc,CA s.cols)::bJ Ws (b.set r q))) (fun V=>[(3,.bx [.sl 1 (v.map ae)]),(6,.bx [.sl 1 [],.sl 1 [],dI 0,.sl 3 []]),(7,.d aq),(8,.bx [.v Vr,.v Vc,dI sg,ae det]),(11,.d (dI c)),(12,.d (dI r)),(14,.d (ae p)),(36,.d (dI most)),(37,.d (dI c)),(16,.d (dI k)),(126,.d (.v Vr)),(127,.d (dI r)),(130,.d (dI k)),(133,.d (.v Vr)),(134,.d (dI r)),(137,.d (dI k)),(140,.d (ae p)),(120,.d (dI N)),(121,.d (dI k)),(129,.d (.v (Ws.getD r undef))),(131,.d (aL v)),(139,.d (ae X))]) (fun V=>?_) (fun N2_1_4_0_0_0=>?_)
   · refine ZH.all 16 (by kernel_rfl) rfl rfl (fun _=>rfl) ⟨rfl,trivial⟩ ?_;refine ah (fun B1 F1 w1=>?_);refine aa.call tok rfl rfl rfl rfl cd ?_;refine aa.nil ⟨rfl,?_⟩;exact qL (N2_1_4_1_0_0 V) (by kernel_rfl) rfl ⟨rfl,trivial⟩
   refine ZH.meet 8 (qB 23 131047) (fun V=>((Vr,OA Ws)::(Vc,CA s.cols)::bJ Ws (b.set r q))) (fun V=>[(3,.bx [.sl 1 (v.map ae)]),(6,.bx [.sl 1 [],.sl 1 [],dI 0,.sl 3 []]),(7,.d aq),(8,.bx [.v Vr,.v Vc,dI sg,ae det]),(11,.d (dI c)),(12,.d (dI r)),(14,.d (ae p)),(36,.d (dI most)),(37,.d (dI c)),(16,.d (dI k)),(126,.d (.v Vr)),(127,.d (dI r)),(130,.d (dI k)),(133,.d (.v Vr)),(134,.d (dI r)),(137,.d (dI k)),(140,.d (ae p)),(120,.d (dI N)),(121,.d (dI k)),(131,.d (aL v)),(139,.d (ae X)),(141,.d (.tu [ae Y,aq]))]) (fun V=>?_) (fun N0_1_4_1_0_0=>?_)
   · refine ZH.two 3 17 (by kernel_rfl) rfl rfl rfl rfl (fun _=>rfl) (fun _=>rfl) ⟨rfl,trivial⟩ ?_ ?_
     · refine ao (fun B1 F1 w1 hS=>?_);refine aa.idxs tok (hS.at (i:=0) rfl (by rw[List.length_map];omega)) rfl rfl rfl rfl (Int.natCast_nonneg _) (by show r<_;rw[List.length_map];omega) ?_;refine aa.nil ⟨rfl,?_⟩;exact qL (N1_1_4_1_0_0 V) (by kernel_rfl) rfl ⟨rfl,trivial⟩
     · refine ah (fun B1 F1 w1=>?_);refine qU 1 rfl ?_;refine aa.nil ⟨rfl,?_⟩;exact qL (N0_1_4_2_0_0 V) (by kernel_rfl) rfl ⟨rfl,trivial⟩
   refine ZH.meet 8 (qB 23 65519) (fun V=>((Vr,OA Ws)::(Vc,CA s.cols)::bJ Ws (b.set r q))) (fun V=>[(3,.bx [.sl 1 (v.map ae)]),(6,.bx [.sl 1 [],.sl 1 [],dI 0,.sl 3 []]),(7,.d aq),(8,.bx [.v Vr,.v Vc,dI sg,ae det]),(11,.d (dI c)),(12,.d (dI r)),(14,.d (ae p)),(36,.d (dI most)),(37,.d (dI c)),(16,.d (dI k)),(126,.d (.v Vr)),(127,.d (dI r)),(130,.d (dI k)),(133,.d (.v Vr)),(134,.d (dI r)),(137,.d (dI k)),(140,.d (ae p)),(120,.d (dI N)),(121,.d (dI k)),(128,.d (.v (aT Vr (r*1)))),(131,.d (aL v)),(139,.d (ae X))]) (fun V=>?_) (fun N1_1_4_0_0_0=>?_)
   · refine ZH.two 4 16 (by kernel_rfl) rfl rfl rfl rfl (fun _=>rfl) (fun _=>rfl) ⟨rfl,trivial⟩ ?_ ?_
     · refine ao (fun B1 F1 w1 hS=>?_);refine aa.aZ tok (.v (Ws.getD r undef)) (hS.at (i:=0) rfl (by rw[List.length_map];omega)) rfl rfl rfl rfl rfl rfl (bI (by omega)) rfl ?_;refine aa.nil ⟨rfl,?_⟩;exact qL (N2_1_4_0_0_0 V) (by kernel_rfl) rfl ⟨rfl,trivial⟩
     · refine ah (fun B1 F1 w1=>?_);refine aa.call tok rfl rfl rfl rfl cd ?_;refine aa.nil ⟨rfl,?_⟩;exact qL (N1_1_4_1_0_0 V) (by kernel_rfl) rfl ⟨rfl,trivial⟩
   refine ZH.meet 8 (qB 23 65471) (fun V=>((Vr,OA Ws)::(Vc,CA s.cols)::bJ Ws (b.set r q))) (fun V=>[(3,.bx [.sl 1 (v.map ae)]),(6,.bx [.sl 1 [],.sl 1 [],dI 0,.sl 3 []]),(7,.d aq),(8,.bx [.v Vr,.v Vc,dI sg,ae det]),(11,.d (dI c)),(12,.d (dI r)),(14,.d (ae p)),(36,.d (dI most)),(37,.d (dI c)),(16,.d (dI k)),(126,.d (.v Vr)),(127,.d (dI r)),(130,.d (dI k)),(133,.d (.v Vr)),(134,.d (dI r)),(137,.d (dI k)),(140,.d (ae p)),(120,.d (dI N)),(121,.d (dI k)),(129,.d (.v (Ws.getD r undef))),(139,.d (ae X))]) (fun V=>?_) (fun N2_0_4_0_0_0=>?_)
   · refine ZH.all 6 (by kernel_rfl) rfl rfl (fun _=>rfl) ⟨rfl,trivial⟩ ?_;refine ah (fun B1 F1 w1=>?_);refine qU 1 rfl ?_;refine aa.nil ⟨rfl,?_⟩;exact qL (N2_1_4_0_0_0 V) (by kernel_rfl) rfl ⟨rfl,trivial⟩
   refine ZH.meet 8 (qB 23 49151) (fun V=>((Vr,OA Ws)::(Vc,CA s.cols)::bJ Ws (b.set r q))) (fun V=>[(3,.bx [.sl 1 (v.map ae)]),(6,.bx [.sl 1 [],.sl 1 [],dI 0,.sl 3 []]),(7,.d aq),(8,.bx [.v Vr,.v Vc,dI sg,ae det]),(11,.d (dI c)),(12,.d (dI r)),(14,.d (ae p)),(36,.d (dI most)),(37,.d (dI c)),(16,.d (dI k)),(126,.d (.v Vr)),(127,.d (dI r)),(130,.d (dI k)),(133,.d (.v Vr)),(134,.d (dI r)),(137,.d (dI k)),(140,.d (ae p)),(120,.d (dI N)),(121,.d (dI k)),(129,.d (.v (Ws.getD r undef))),(131,.d (aL v)),(136,.d (.v (Ws.getD r undef))),(138,.d (.v (aT (Ws.getD r undef) (k*1))))]) (fun V=>?_) (fun N2_1_3_0_0_0=>?_)
   · refine ZH.all 14 (by kernel_rfl) rfl rfl (fun _=>rfl) ⟨rfl,trivial⟩ ?_;refine ao (fun B1 F1 w1 hS=>?_);refine aa.aZ tok (ae (q.getD k [])) (hS.at (i:=r+2) (hgr q) (by rw[List.length_map];omega)) rfl rfl rfl rfl rfl rfl (getM ae (by omega)) rfl ?_;rw[hpg];refine aa.nil ⟨rfl,?_⟩;exact qL (N2_1_4_0_0_0 V) (by kernel_rfl) rfl ⟨rfl,trivial⟩
   refine ZH.meet 9 (qB 23 65511) (fun V=>((Vr,OA Ws)::(Vc,CA s.cols)::bJ Ws (b.set r q))) (fun V=>[(3,.bx [.sl 1 (v.map ae)]),(6,.bx [.sl 1 [],.sl 1 [],dI 0,.sl 3 []]),(7,.d aq),(8,.bx [.v Vr,.v Vc,dI sg,ae det]),(11,.d (dI c)),(12,.d (dI r)),(14,.d (ae p)),(36,.d (dI most)),(37,.d (dI c)),(16,.d (dI k)),(126,.d (.v Vr)),(127,.d (dI r)),(130,.d (dI k)),(133,.d (.v Vr)),(134,.d (dI r)),(137,.d (dI k)),(140,.d (ae p)),(120,.d (dI N)),(121,.d (dI k)),(131,.d (aL v)),(139,.d (ae X))]) (fun V=>?_) (fun N0_1_4_0_0_0=>?_)
   · refine ZH.two 3 16 (by kernel_rfl) rfl rfl rfl rfl (fun _=>rfl) (fun _=>rfl) ⟨rfl,trivial⟩ ?_ ?_
     · refine ao (fun B1 F1 w1 hS=>?_);refine aa.idxs tok (hS.at (i:=0) rfl (by rw[List.length_map];omega)) rfl rfl rfl rfl (Int.natCast_nonneg _) (by show r<_;rw[List.length_map];omega) ?_;refine aa.nil ⟨rfl,?_⟩;exact qL (N1_1_4_0_0_0 V) (by kernel_rfl) rfl ⟨rfl,trivial⟩
     · refine ah (fun B1 F1 w1=>?_);refine aa.call tok rfl rfl rfl rfl cd ?_;refine aa.nil ⟨rfl,?_⟩;exact qL (N0_1_4_1_0_0 V) (by kernel_rfl) rfl ⟨rfl,trivial⟩
   refine ZH.meet 9 (qB 23 65455) (fun V=>((Vr,OA Ws)::(Vc,CA s.cols)::bJ Ws (b.set r q))) (fun V=>[(3,.bx [.sl 1 (v.map ae)]),(6,.bx [.sl 1 [],.sl 1 [],dI 0,.sl 3 []]),(7,.d aq),(8,.bx [.v Vr,.v Vc,dI sg,ae det]),(11,.d (dI c)),(12,.d (dI r)),(14,.d (ae p)),(36,.d (dI most)),(37,.d (dI c)),(16,.d (dI k)),(126,.d (.v Vr)),(127,.d (dI r)),(130,.d (dI k)),(133,.d (.v Vr)),(134,.d (dI r)),(137,.d (dI k)),(140,.d (ae p)),(120,.d (dI N)),(121,.d (dI k)),(128,.d (.v (aT Vr (r*1)))),(139,.d (ae X))]) (fun V=>?_) (fun N1_0_4_0_0_0=>?_)
   · refine ZH.two 4 6 (by kernel_rfl) rfl rfl rfl rfl (fun _=>rfl) (fun _=>rfl) ⟨rfl,trivial⟩ ?_ ?_
     · refine ao (fun B1 F1 w1 hS=>?_);refine aa.aZ tok (.v (Ws.getD r undef)) (hS.at (i:=0) rfl (by rw[List.length_map];omega)) rfl rfl rfl rfl rfl rfl (bI (by omega)) rfl ?_;refine aa.nil ⟨rfl,?_⟩;exact qL (N2_0_4_0_0_0 V) (by kernel_rfl) rfl ⟨rfl,trivial⟩
     · refine ah (fun B1 F1 w1=>?_);refine qU 1 rfl ?_;refine aa.nil ⟨rfl,?_⟩;exact qL (N1_1_4_0_0_0 V) (by kernel_rfl) rfl ⟨rfl,trivial⟩
   refine ZH.meet 9 (qB 23 49135) (fun V=>((Vr,OA Ws)::(Vc,CA s.cols)::bJ Ws (b.set r q))) (fun V=>[(3,.bx [.sl 1 (v.map ae)]),(6,.bx [.sl 1 [],.sl 1 [],dI 0,.sl 3 []]),(7,.d aq),(8,.bx [.v Vr,.v Vc,dI sg,ae det]),(11,.d (dI c)),(12,.d (dI r)),(14,.d (ae p)),(36,.d (dI most)),(37,.d (dI c)),(16,.d (dI k)),(126,.d (.v Vr)),(127,.d (dI r)),(130,.d (dI k)),(133,.d (.v Vr)),(134,.d (dI r)),(137,.d (dI k)),(140,.d (ae p)),(120,.d (dI N)),(121,.d (dI k)),(128,.d (.v (aT Vr (r*1)))),(131,.d (aL v)),(136,.d (.v (Ws.getD r undef))),(138,.d (.v (aT (Ws.getD r undef) (k*1))))]) (fun V=>?_) (fun N1_1_3_0_0_0=>?_)
   · refine ZH.two 4 14 (by kernel_rfl) rfl rfl rfl rfl (fun _=>rfl) (fun _=>rfl) ⟨rfl,trivial⟩ ?_ ?_
     · refine ao (fun B1 F1 w1 hS=>?_);refine aa.aZ tok (.v (Ws.getD r undef)) (hS.at (i:=0) rfl (by rw[List.length_map];omega)) rfl rfl rfl rfl rfl rfl (bI (by omega)) rfl ?_;refine aa.nil ⟨rfl,?_⟩;exact qL (N2_1_3_0_0_0 V) (by kernel_rfl) rfl ⟨rfl,trivial⟩
     · refine ao (fun B1 F1 w1 hS=>?_);refine aa.aZ tok (ae (q.getD k [])) (hS.at (i:=r+2) (hgr q) (by rw[List.length_map];omega)) rfl rfl rfl rfl rfl rfl (getM ae (by omega)) rfl ?_;rw[hpg];refine aa.nil ⟨rfl,?_⟩;exact qL (N1_1_4_0_0_0 V) (by kernel_rfl) rfl ⟨rfl,trivial⟩
   refine ZH.meet 9 (qB 23 49087) (fun V=>((Vr,OA Ws)::(Vc,CA s.cols)::bJ Ws (b.set r q))) (fun V=>[(3,.bx [.sl 1 (v.map ae)]),(6,.bx [.sl 1 [],.sl 1 [],dI 0,.sl 3 []]),(7,.d aq),(8,.bx [.v Vr,.v Vc,dI sg,ae det]),(11,.d (dI c)),(12,.d (dI r)),(14,.d (ae p)),(36,.d (dI most)),(37,.d (dI c)),(16,.d (dI k)),(126,.d (.v Vr)),(127,.d (dI r)),(130,.d (dI k)),(133,.d (.v Vr)),(134,.d (dI r)),(137,.d (dI k)),(140,.d (ae p)),(120,.d (dI N)),(121,.d (dI k)),(129,.d (.v (Ws.getD r undef))),(136,.d (.v (Ws.getD r undef))),(138,.d (.v (aT (Ws.getD r undef) (k*1))))]) (fun V=>?_) (fun N2_0_3_0_0_0=>?_)
   · refine ZH.two 6 14 (by kernel_rfl) rfl rfl rfl rfl (fun _=>rfl) (fun _=>rfl) ⟨rfl,trivial⟩ ?_ ?_
     · refine ah (fun B1 F1 w1=>?_);refine qU 1 rfl ?_;refine aa.nil ⟨rfl,?_⟩;exact qL (N2_1_3_0_0_0 V) (by kernel_rfl) rfl ⟨rfl,trivial⟩
     · refine ao (fun B1 F1 w1 hS=>?_);refine aa.aZ tok (ae (q.getD k [])) (hS.at (i:=r+2) (hgr q) (by rw[List.length_map];omega)) rfl rfl rfl rfl rfl rfl (getM ae (by omega)) rfl ?_;rw[hpg];refine aa.nil ⟨rfl,?_⟩;exact qL (N2_0_4_0_0_0 V) (by kernel_rfl) rfl ⟨rfl,trivial⟩
   refine ZH.meet 9 (qB 23 40959) (fun V=>((Vr,OA Ws)::(Vc,CA s.cols)::bJ Ws (b.set r q))) (fun V=>[(3,.bx [.sl 1 (v.map ae)]),(6,.bx [.sl 1 [],.sl 1 [],dI 0,.sl 3 []]),(7,.d aq),(8,.bx [.v Vr,.v Vc,dI sg,ae det]),(11,.d (dI c)),(12,.d (dI r)),(14,.d (ae p)),(36,.d (dI most)),(37,.d (dI c)),(16,.d (dI k)),(126,.d (.v Vr)),(127,.d (dI r)),(130,.d (dI k)),(133,.d (.v Vr)),(134,.d (dI r)),(137,.d (dI k)),(140,.d (ae p)),(120,.d (dI N)),(121,.d (dI k)),(129,.d (.v (Ws.getD r undef))),(131,.d (aL v)),(136,.d (.v (Ws.getD r undef)))]) (fun V=>?_) (fun N2_1_2_0_0_0=>?_)
   · refine ZH.all 13 (by kernel_rfl) rfl rfl (fun _=>rfl) ⟨rfl,trivial⟩ ?_;refine ao (fun B1 F1 w1 hS=>?_);refine aa.idxs tok (hS.at (i:=r+2) (hgr q) (by rw[List.length_map];omega)) rfl rfl rfl rfl (Int.natCast_nonneg k) (by rw[List.length_map];omega) ?_;refine aa.nil ⟨rfl,?_⟩;exact qL (N2_1_3_0_0_0 V) (by kernel_rfl) rfl ⟨rfl,trivial⟩
   refine ZH.meet 10 (qB 23 65447) (fun V=>((Vr,OA Ws)::(Vc,CA s.cols)::bJ Ws (b.set r q))) (fun V=>[(3,.bx [.sl 1 (v.map ae)]),(6,.bx [.sl 1 [],.sl 1 [],dI 0,.sl 3 []]),(7,.d aq),(8,.bx [.v Vr,.v Vc,dI sg,ae det]),(11,.d (dI c)),(12,.d (dI r)),(14,.d (ae p)),(36,.d (dI most)),(37,.d (dI c)),(16,.d (dI k)),(126,.d (.v Vr)),(127,.d (dI r)),(130,.d (dI k)),(133,.d (.v Vr)),(134,.d (dI r)),(137,.d (dI k)),(140,.d (ae p)),(120,.d (dI N)),(121,.d (dI k)),(139,.d (ae X))]) (fun V=>?_) (fun N0_0_4_0_0_0=>?_)
   · refine ZH.two 3 6 (by kernel_rfl) rfl rfl rfl rfl (fun _=>rfl) (fun _=>rfl) ⟨rfl,trivial⟩ ?_ ?_
     · refine ao (fun B1 F1 w1 hS=>?_);refine aa.idxs tok (hS.at (i:=0) rfl (by rw[List.length_map];omega)) rfl rfl rfl rfl (Int.natCast_nonneg _) (by show r<_;rw[List.length_map];omega) ?_;refine aa.nil ⟨rfl,?_⟩;exact qL (N1_0_4_0_0_0 V) (by kernel_rfl) rfl ⟨rfl,trivial⟩
     · refine ah (fun B1 F1 w1=>?_);refine qU 1 rfl ?_;refine aa.nil ⟨rfl,?_⟩;exact qL (N0_1_4_0_0_0 V) (by kernel_rfl) rfl ⟨rfl,trivial⟩
   refine ZH.meet 10 (qB 23 49127) (fun V=>((Vr,OA Ws)::(Vc,CA s.cols)::bJ Ws (b.set r q))) (fun V=>[(3,.bx [.sl 1 (v.map ae)]),(6,.bx [.sl 1 [],.sl 1 [],dI 0,.sl 3 []]),(7,.d aq),(8,.bx [.v Vr,.v Vc,dI sg,ae det]),(11,.d (dI c)),(12,.d (dI r)),(14,.d (ae p)),(36,.d (dI most)),(37,.d (dI c)),(16,.d (dI k)),(126,.d (.v Vr)),(127,.d (dI r)),(130,.d (dI k)),(133,.d (.v Vr)),(134,.d (dI r)),(137,.d (dI k)),(140,.d (ae p)),(120,.d (dI N)),(121,.d (dI k)),(131,.d (aL v)),(136,.d (.v (Ws.getD r undef))),(138,.d (.v (aT (Ws.getD r undef) (k*1))))]) (fun V=>?_) (fun N0_1_3_0_0_0=>?_)
   · refine ZH.two 3 14 (by kernel_rfl) rfl rfl rfl rfl (fun _=>rfl) (fun _=>rfl) ⟨rfl,trivial⟩ ?_ ?_
     · refine ao (fun B1 F1 w1 hS=>?_);refine aa.idxs tok (hS.at (i:=0) rfl (by rw[List.length_map];omega)) rfl rfl rfl rfl (Int.natCast_nonneg _) (by show r<_;rw[List.length_map];omega) ?_;refine aa.nil ⟨rfl,?_⟩;exact qL (N1_1_3_0_0_0 V) (by kernel_rfl) rfl ⟨rfl,trivial⟩
     · refine ao (fun B1 F1 w1 hS=>?_);refine aa.aZ tok (ae (q.getD k [])) (hS.at (i:=r+2) (hgr q) (by rw[List.length_map];omega)) rfl rfl rfl rfl rfl rfl (getM ae (by omega)) rfl ?_;rw[hpg];refine aa.nil ⟨rfl,?_⟩;exact qL (N0_1_4_0_0_0 V) (by kernel_rfl) rfl ⟨rfl,trivial⟩
   refine ZH.meet 10 (qB 23 49071) (fun V=>((Vr,OA Ws)::(Vc,CA s.cols)::bJ Ws (b.set r q))) (fun V=>[(3,.bx [.sl 1 (v.map ae)]),(6,.bx [.sl 1 [],.sl 1 [],dI 0,.sl 3 []]),(7,.d aq),(8,.bx [.v Vr,.v Vc,dI sg,ae det]),(11,.d (dI c)),(12,.d (dI r)),(14,.d (ae p)),(36,.d (dI most)),(37,.d (dI c)),(16,.d (dI k)),(126,.d (.v Vr)),(127,.d (dI r)),(130,.d (dI k)),(133,.d (.v Vr)),(134,.d (dI r)),(137,.d (dI k)),(140,.d (ae p)),(120,.d (dI N)),(121,.d (dI k)),(128,.d (.v (aT Vr (r*1)))),(136,.d (.v (Ws.getD r undef))),(138,.d (.v (aT (Ws.getD r undef) (k*1))))]) (fun V=>?_) (fun N1_0_3_0_0_0=>?_)
   · refine ZH.three 4 6 14 (by kernel_rfl) rfl rfl rfl rfl rfl rfl (fun _=>rfl) (fun _=>rfl) (fun _=>rfl) ⟨rfl,trivial⟩ ?_ ?_ ?_
     · refine ao (fun B1 F1 w1 hS=>?_);refine aa.aZ tok (.v (Ws.getD r undef)) (hS.at (i:=0) rfl (by rw[List.length_map];omega)) rfl rfl rfl rfl rfl rfl (bI (by omega)) rfl ?_;refine aa.nil ⟨rfl,?_⟩;exact qL (N2_0_3_0_0_0 V) (by kernel_rfl) rfl ⟨rfl,trivial⟩
     · refine ah (fun B1 F1 w1=>?_);refine qU 1 rfl ?_;refine aa.nil ⟨rfl,?_⟩;exact qL (N1_1_3_0_0_0 V) (by kernel_rfl) rfl ⟨rfl,trivial⟩
     · refine ao (fun B1 F1 w1 hS=>?_);refine aa.aZ tok (ae (q.getD k [])) (hS.at (i:=r+2) (hgr q) (by rw[List.length_map];omega)) rfl rfl rfl rfl rfl rfl (getM ae (by omega)) rfl ?_;rw[hpg];refine aa.nil ⟨rfl,?_⟩;exact qL (N1_0_4_0_0_0 V) (by kernel_rfl) rfl ⟨rfl,trivial⟩
   refine ZH.meet 10 (qB 23 40943) (fun V=>((Vr,OA Ws)::(Vc,CA s.cols)::bJ Ws (b.set r q))) (fun V=>[(3,.bx [.sl 1 (v.map ae)]),(6,.bx [.sl 1 [],.sl 1 [],dI 0,.sl 3 []]),(7,.d aq),(8,.bx [.v Vr,.v Vc,dI sg,ae det]),(11,.d (dI c)),(12,.d (dI r)),(14,.d (ae p)),(36,.d (dI most)),(37,.d (dI c)),(16,.d (dI k)),(126,.d (.v Vr)),(127,.d (dI r)),(130,.d (dI k)),(133,.d (.v Vr)),(134,.d (dI r)),(137,.d (dI k)),(140,.d (ae p)),(120,.d (dI N)),(121,.d (dI k)),(128,.d (.v (aT Vr (r*1)))),(131,.d (aL v)),(136,.d (.v (Ws.getD r undef)))]) (fun V=>?_) (fun N1_1_2_0_0_0=>?_)
   · refine ZH.two 4 13 (by kernel_rfl) rfl rfl rfl rfl (fun _=>rfl) (fun _=>rfl) ⟨rfl,trivial⟩ ?_ ?_
     · refine ao (fun B1 F1 w1 hS=>?_);refine aa.aZ tok (.v (Ws.getD r undef)) (hS.at (i:=0) rfl (by rw[List.length_map];omega)) rfl rfl rfl rfl rfl rfl (bI (by omega)) rfl ?_;refine aa.nil ⟨rfl,?_⟩;exact qL (N2_1_2_0_0_0 V) (by kernel_rfl) rfl ⟨rfl,trivial⟩
     · refine ao (fun B1 F1 w1 hS=>?_);refine aa.idxs tok (hS.at (i:=r+2) (hgr q) (by rw[List.length_map];omega)) rfl rfl rfl rfl (Int.natCast_nonneg k) (by rw[List.length_map];omega) ?_;refine aa.nil ⟨rfl,?_⟩;exact qL (N1_1_3_0_0_0 V) (by kernel_rfl) rfl ⟨rfl,trivial⟩
   refine ZH.meet 10 (qB 23 40895) (fun V=>((Vr,OA Ws)::(Vc,CA s.cols)::bJ Ws (b.set r q))) (fun V=>[(3,.bx [.sl 1 (v.map ae)]),(6,.bx [.sl 1 [],.sl 1 [],dI 0,.sl 3 []]),(7,.d aq),(8,.bx [.v Vr,.v Vc,dI sg,ae det]),(11,.d (dI c)),(12,.d (dI r)),(14,.d (ae p)),(36,.d (dI most)),(37,.d (dI c)),(16,.d (dI k)),(126,.d (.v Vr)),(127,.d (dI r)),(130,.d (dI k)),(133,.d (.v Vr)),(134,.d (dI r)),(137,.d (dI k)),(140,.d (ae p)),(120,.d (dI N)),(121,.d (dI k)),(129,.d (.v (Ws.getD r undef))),(136,.d (.v (Ws.getD r undef)))]) (fun V=>?_) (fun N2_0_2_0_0_0=>?_)
   · refine ZH.two 6 13 (by kernel_rfl) rfl rfl rfl rfl (fun _=>rfl) (fun _=>rfl) ⟨rfl,trivial⟩ ?_ ?_
     · refine ah (fun B1 F1 w1=>?_);refine qU 1 rfl ?_;refine aa.nil ⟨rfl,?_⟩;exact qL (N2_1_2_0_0_0 V) (by kernel_rfl) rfl ⟨rfl,trivial⟩
     · refine ao (fun B1 F1 w1 hS=>?_);refine aa.idxs tok (hS.at (i:=r+2) (hgr q) (by rw[List.length_map];omega)) rfl rfl rfl rfl (Int.natCast_nonneg k) (by rw[List.length_map];omega) ?_;refine aa.nil ⟨rfl,?_⟩;exact qL (N2_0_3_0_0_0 V) (by kernel_rfl) rfl ⟨rfl,trivial⟩
   refine ZH.meet 10 (qB 23 38911) (fun V=>((Vr,OA Ws)::(Vc,CA s.cols)::bJ Ws (b.set r q))) (fun V=>[(3,.bx [.sl 1 (v.map ae)]),(6,.bx [.sl 1 [],.sl 1 [],dI 0,.sl 3 []]),(7,.d aq),(8,.bx [.v Vr,.v Vc,dI sg,ae det]),(11,.d (dI c)),(12,.d (dI r)),(14,.d (ae p)),(36,.d (dI most)),(37,.d (dI c)),(16,.d (dI k)),(126,.d (.v Vr)),(127,.d (dI r)),(130,.d (dI k)),(133,.d (.v Vr)),(134,.d (dI r)),(137,.d (dI k)),(140,.d (ae p)),(120,.d (dI N)),(121,.d (dI k)),(129,.d (.v (Ws.getD r undef))),(131,.d (aL v)),(135,.d (.v (aT Vr (r*1))))]) (fun V=>?_) (fun N2_1_1_0_0_0=>?_)
   · refine ZH.all 11 (by kernel_rfl) rfl rfl (fun _=>rfl) ⟨rfl,trivial⟩ ?_;refine ao (fun B1 F1 w1 hS=>?_);refine aa.aZ tok (.v (Ws.getD r undef)) (hS.at (i:=0) rfl (by rw[List.length_map];omega)) rfl rfl rfl rfl rfl rfl (bI (by omega)) rfl ?_;refine aa.nil ⟨rfl,?_⟩;exact qL (N2_1_2_0_0_0 V) (by kernel_rfl) rfl ⟨rfl,trivial⟩
   refine ZH.meet 11 (qB 23 49063) (fun V=>((Vr,OA Ws)::(Vc,CA s.cols)::bJ Ws (b.set r q))) (fun V=>[(3,.bx [.sl 1 (v.map ae)]),(6,.bx [.sl 1 [],.sl 1 [],dI 0,.sl 3 []]),(7,.d aq),(8,.bx [.v Vr,.v Vc,dI sg,ae det]),(11,.d (dI c)),(12,.d (dI r)),(14,.d (ae p)),(36,.d (dI most)),(37,.d (dI c)),(16,.d (dI k)),(126,.d (.v Vr)),(127,.d (dI r)),(130,.d (dI k)),(133,.d (.v Vr)),(134,.d (dI r)),(137,.d (dI k)),(140,.d (ae p)),(120,.d (dI N)),(121,.d (dI k)),(136,.d (.v (Ws.getD r undef))),(138,.d (.v (aT (Ws.getD r undef) (k*1))))]) (fun V=>?_) (fun N0_0_3_0_0_0=>?_)
   · refine ZH.three 3 6 14 (by kernel_rfl) rfl rfl rfl rfl rfl rfl (fun _=>rfl) (fun _=>rfl) (fun _=>rfl) ⟨rfl,trivial⟩ ?_ ?_ ?_
     · refine ao (fun B1 F1 w1 hS=>?_);refine aa.idxs tok (hS.at (i:=0) rfl (by rw[List.length_map];omega)) rfl rfl rfl rfl (Int.natCast_nonneg _) (by show r<_;rw[List.length_map];omega) ?_;refine aa.nil ⟨rfl,?_⟩;exact qL (N1_0_3_0_0_0 V) (by kernel_rfl) rfl ⟨rfl,trivial⟩
     · refine ah (fun B1 F1 w1=>?_);refine qU 1 rfl ?_;refine aa.nil ⟨rfl,?_⟩;exact qL (N0_1_3_0_0_0 V) (by kernel_rfl) rfl ⟨rfl,trivial⟩
     · refine ao (fun B1 F1 w1 hS=>?_);refine aa.aZ tok (ae (q.getD k [])) (hS.at (i:=r+2) (hgr q) (by rw[List.length_map];omega)) rfl rfl rfl rfl rfl rfl (getM ae (by omega)) rfl ?_;rw[hpg];refine aa.nil ⟨rfl,?_⟩;exact qL (N0_0_4_0_0_0 V) (by kernel_rfl) rfl ⟨rfl,trivial⟩
   refine ZH.meet 11 (qB 23 40935) (fun V=>((Vr,OA Ws)::(Vc,CA s.cols)::bJ Ws (b.set r q))) (fun V=>[(3,.bx [.sl 1 (v.map ae)]),(6,.bx [.sl 1 [],.sl 1 [],dI 0,.sl 3 []]),(7,.d aq),(8,.bx [.v Vr,.v Vc,dI sg,ae det]),(11,.d (dI c)),(12,.d (dI r)),(14,.d (ae p)),(36,.d (dI most)),(37,.d (dI c)),(16,.d (dI k)),(126,.d (.v Vr)),(127,.d (dI r)),(130,.d (dI k)),(133,.d (.v Vr)),(134,.d (dI r)),(137,.d (dI k)),(140,.d (ae p)),(120,.d (dI N)),(121,.d (dI k)),(131,.d (aL v)),(136,.d (.v (Ws.getD r undef)))]) (fun V=>?_) (fun N0_1_2_0_0_0=>?_)
   · refine ZH.two 3 13 (by kernel_rfl) rfl rfl rfl rfl (fun _=>rfl) (fun _=>rfl) ⟨rfl,trivial⟩ ?_ ?_
     · refine ao (fun B1 F1 w1 hS=>?_);refine aa.idxs tok (hS.at (i:=0) rfl (by rw[List.length_map];omega)) rfl rfl rfl rfl (Int.natCast_nonneg _) (by show r<_;rw[List.length_map];omega) ?_;refine aa.nil ⟨rfl,?_⟩;exact qL (N1_1_2_0_0_0 V) (by kernel_rfl) rfl ⟨rfl,trivial⟩
     · refine ao (fun B1 F1 w1 hS=>?_);refine aa.idxs tok (hS.at (i:=r+2) (hgr q) (by rw[List.length_map];omega)) rfl rfl rfl rfl (Int.natCast_nonneg k) (by rw[List.length_map];omega) ?_;refine aa.nil ⟨rfl,?_⟩;exact qL (N0_1_3_0_0_0 V) (by kernel_rfl) rfl ⟨rfl,trivial⟩
   refine ZH.meet 11 (qB 23 40879) (fun V=>((Vr,OA Ws)::(Vc,CA s.cols)::bJ Ws (b.set r q))) (fun V=>[(3,.bx [.sl 1 (v.map ae)]),(6,.bx [.sl 1 [],.sl 1 [],dI 0,.sl 3 []]),(7,.d aq),(8,.bx [.v Vr,.v Vc,dI sg,ae det]),(11,.d (dI c)),(12,.d (dI r)),(14,.d (ae p)),(36,.d (dI most)),(37,.d (dI c)),(16,.d (dI k)),(126,.d (.v Vr)),(127,.d (dI r)),(130,.d (dI k)),(133,.d (.v Vr)),(134,.d (dI r)),(137,.d (dI k)),(140,.d (ae p)),(120,.d (dI N)),(121,.d (dI k)),(128,.d (.v (aT Vr (r*1)))),(136,.d (.v (Ws.getD r undef)))]) (fun V=>?_) (fun N1_0_2_0_0_0=>?_)
   · refine ZH.three 4 6 13 (by kernel_rfl) rfl rfl rfl rfl rfl rfl (fun _=>rfl) (fun _=>rfl) (fun _=>rfl) ⟨rfl,trivial⟩ ?_ ?_ ?_
     · refine ao (fun B1 F1 w1 hS=>?_);refine aa.aZ tok (.v (Ws.getD r undef)) (hS.at (i:=0) rfl (by rw[List.length_map];omega)) rfl rfl rfl rfl rfl rfl (bI (by omega)) rfl ?_;refine aa.nil ⟨rfl,?_⟩;exact qL (N2_0_2_0_0_0 V) (by kernel_rfl) rfl ⟨rfl,trivial⟩
     · refine ah (fun B1 F1 w1=>?_);refine qU 1 rfl ?_;refine aa.nil ⟨rfl,?_⟩;exact qL (N1_1_2_0_0_0 V) (by kernel_rfl) rfl ⟨rfl,trivial⟩
     · refine ao (fun B1 F1 w1 hS=>?_);refine aa.idxs tok (hS.at (i:=r+2) (hgr q) (by rw[List.length_map];omega)) rfl rfl rfl rfl (Int.natCast_nonneg k) (by rw[List.length_map];omega) ?_;refine aa.nil ⟨rfl,?_⟩;exact qL (N1_0_3_0_0_0 V) (by kernel_rfl) rfl ⟨rfl,trivial⟩
   refine ZH.meet 11 (qB 23 38895) (fun V=>((Vr,OA Ws)::(Vc,CA s.cols)::bJ Ws (b.set r q))) (fun V=>[(3,.bx [.sl 1 (v.map ae)]),(6,.bx [.sl 1 [],.sl 1 [],dI 0,.sl 3 []]),(7,.d aq),(8,.bx [.v Vr,.v Vc,dI sg,ae det]),(11,.d (dI c)),(12,.d (dI r)),(14,.d (ae p)),(36,.d (dI most)),(37,.d (dI c)),(16,.d (dI k)),(126,.d (.v Vr)),(127,.d (dI r)),(130,.d (dI k)),(133,.d (.v Vr)),(134,.d (dI r)),(137,.d (dI k)),(140,.d (ae p)),(120,.d (dI N)),(121,.d (dI k)),(128,.d (.v (aT Vr (r*1)))),(131,.d (aL v)),(135,.d (.v (aT Vr (r*1))))]) (fun V=>?_) (fun N1_1_1_0_0_0=>?_)
   · refine ZH.two 4 11 (by kernel_rfl) rfl rfl rfl rfl (fun _=>rfl) (fun _=>rfl) ⟨rfl,trivial⟩ ?_ ?_
     · refine ao (fun B1 F1 w1 hS=>?_);refine aa.aZ tok (.v (Ws.getD r undef)) (hS.at (i:=0) rfl (by rw[List.length_map];omega)) rfl rfl rfl rfl rfl rfl (bI (by omega)) rfl ?_;refine aa.nil ⟨rfl,?_⟩;exact qL (N2_1_1_0_0_0 V) (by kernel_rfl) rfl ⟨rfl,trivial⟩
     · refine ao (fun B1 F1 w1 hS=>?_);refine aa.aZ tok (.v (Ws.getD r undef)) (hS.at (i:=0) rfl (by rw[List.length_map];omega)) rfl rfl rfl rfl rfl rfl (bI (by omega)) rfl ?_;refine aa.nil ⟨rfl,?_⟩;exact qL (N1_1_2_0_0_0 V) (by kernel_rfl) rfl ⟨rfl,trivial⟩
   refine ZH.meet 11 (qB 23 38847) (fun V=>((Vr,OA Ws)::(Vc,CA s.cols)::bJ Ws (b.set r q))) (fun V=>[(3,.bx [.sl 1 (v.map ae)]),(6,.bx [.sl 1 [],.sl 1 [],dI 0,.sl 3 []]),(7,.d aq),(8,.bx [.v Vr,.v Vc,dI sg,ae det]),(11,.d (dI c)),(12,.d (dI r)),(14,.d (ae p)),(36,.d (dI most)),(37,.d (dI c)),(16,.d (dI k)),(126,.d (.v Vr)),(127,.d (dI r)),(130,.d (dI k)),(133,.d (.v Vr)),(134,.d (dI r)),(137,.d (dI k)),(140,.d (ae p)),(120,.d (dI N)),(121,.d (dI k)),(129,.d (.v (Ws.getD r undef))),(135,.d (.v (aT Vr (r*1))))]) (fun V=>?_) (fun N2_0_1_0_0_0=>?_)
   · refine ZH.two 6 11 (by kernel_rfl) rfl rfl rfl rfl (fun _=>rfl) (fun _=>rfl) ⟨rfl,trivial⟩ ?_ ?_
     · refine ah (fun B1 F1 w1=>?_);refine qU 1 rfl ?_;refine aa.nil ⟨rfl,?_⟩;exact qL (N2_1_1_0_0_0 V) (by kernel_rfl) rfl ⟨rfl,trivial⟩
     · refine ao (fun B1 F1 w1 hS=>?_);refine aa.aZ tok (.v (Ws.getD r undef)) (hS.at (i:=0) rfl (by rw[List.length_map];omega)) rfl rfl rfl rfl rfl rfl (bI (by omega)) rfl ?_;refine aa.nil ⟨rfl,?_⟩;exact qL (N2_0_2_0_0_0 V) (by kernel_rfl) rfl ⟨rfl,trivial⟩
   refine ZH.meet 11 (qB 23 37887) (fun V=>((Vr,OA Ws)::(Vc,CA s.cols)::bJ Ws (b.set r q))) (fun V=>[(3,.bx [.sl 1 (v.map ae)]),(6,.bx [.sl 1 [],.sl 1 [],dI 0,.sl 3 []]),(7,.d aq),(8,.bx [.v Vr,.v Vc,dI sg,ae det]),(11,.d (dI c)),(12,.d (dI r)),(14,.d (ae p)),(36,.d (dI most)),(37,.d (dI c)),(16,.d (dI k)),(126,.d (.v Vr)),(127,.d (dI r)),(130,.d (dI k)),(133,.d (.v Vr)),(134,.d (dI r)),(137,.d (dI k)),(140,.d (ae p)),(120,.d (dI N)),(121,.d (dI k)),(129,.d (.v (Ws.getD r undef))),(131,.d (aL v))]) (fun V=>?_) (fun N2_1_0_0_0_0=>?_)
   · refine ZH.all 10 (by kernel_rfl) rfl rfl (fun _=>rfl) ⟨rfl,trivial⟩ ?_;refine ao (fun B1 F1 w1 hS=>?_);refine aa.idxs tok (hS.at (i:=0) rfl (by rw[List.length_map];omega)) rfl rfl rfl rfl (Int.natCast_nonneg _) (by show r<_;rw[List.length_map];omega) ?_;refine aa.nil ⟨rfl,?_⟩;exact qL (N2_1_1_0_0_0 V) (by kernel_rfl) rfl ⟨rfl,trivial⟩
   refine ZH.meet 12 (qB 23 40871) (fun V=>((Vr,OA Ws)::(Vc,CA s.cols)::bJ Ws (b.set r q))) (fun V=>[(3,.bx [.sl 1 (v.map ae)]),(6,.bx [.sl 1 [],.sl 1 [],dI 0,.sl 3 []]),(7,.d aq),(8,.bx [.v Vr,.v Vc,dI sg,ae det]),(11,.d (dI c)),(12,.d (dI r)),(14,.d (ae p)),(36,.d (dI most)),(37,.d (dI c)),(16,.d (dI k)),(126,.d (.v Vr)),(127,.d (dI r)),(130,.d (dI k)),(133,.d (.v Vr)),(134,.d (dI r)),(137,.d (dI k)),(140,.d (ae p)),(120,.d (dI N)),(121,.d (dI k)),(136,.d (.v (Ws.getD r undef)))]) (fun V=>?_) (fun N0_0_2_0_0_0=>?_)
   · refine ZH.three 3 6 13 (by kernel_rfl) rfl rfl rfl rfl rfl rfl (fun _=>rfl) (fun _=>rfl) (fun _=>rfl) ⟨rfl,trivial⟩ ?_ ?_ ?_
     · refine ao (fun B1 F1 w1 hS=>?_);refine aa.idxs tok (hS.at (i:=0) rfl (by rw[List.length_map];omega)) rfl rfl rfl rfl (Int.natCast_nonneg _) (by show r<_;rw[List.length_map];omega) ?_;refine aa.nil ⟨rfl,?_⟩;exact qL (N1_0_2_0_0_0 V) (by kernel_rfl) rfl ⟨rfl,trivial⟩
     · refine ah (fun B1 F1 w1=>?_);refine qU 1 rfl ?_;refine aa.nil ⟨rfl,?_⟩;exact qL (N0_1_2_0_0_0 V) (by kernel_rfl) rfl ⟨rfl,trivial⟩
     · refine ao (fun B1 F1 w1 hS=>?_);refine aa.idxs tok (hS.at (i:=r+2) (hgr q) (by rw[List.length_map];omega)) rfl rfl rfl rfl (Int.natCast_nonneg k) (by rw[List.length_map];omega) ?_;refine aa.nil ⟨rfl,?_⟩;exact qL (N0_0_3_0_0_0 V) (by kernel_rfl) rfl ⟨rfl,trivial⟩
   refine ZH.meet 12 (qB 23 38887) (fun V=>((Vr,OA Ws)::(Vc,CA s.cols)::bJ Ws (b.set r q))) (fun V=>[(3,.bx [.sl 1 (v.map ae)]),(6,.bx [.sl 1 [],.sl 1 [],dI 0,.sl 3 []]),(7,.d aq),(8,.bx [.v Vr,.v Vc,dI sg,ae det]),(11,.d (dI c)),(12,.d (dI r)),(14,.d (ae p)),(36,.d (dI most)),(37,.d (dI c)),(16,.d (dI k)),(126,.d (.v Vr)),(127,.d (dI r)),(130,.d (dI k)),(133,.d (.v Vr)),(134,.d (dI r)),(137,.d (dI k)),(140,.d (ae p)),(120,.d (dI N)),(121,.d (dI k)),(131,.d (aL v)),(135,.d (.v (aT Vr (r*1))))]) (fun V=>?_) (fun N0_1_1_0_0_0=>?_)
   · refine ZH.two 3 11 (by kernel_rfl) rfl rfl rfl rfl (fun _=>rfl) (fun _=>rfl) ⟨rfl,trivial⟩ ?_ ?_
     · refine ao (fun B1 F1 w1 hS=>?_);refine aa.idxs tok (hS.at (i:=0) rfl (by rw[List.length_map];omega)) rfl rfl rfl rfl (Int.natCast_nonneg _) (by show r<_;rw[List.length_map];omega) ?_;refine aa.nil ⟨rfl,?_⟩;exact qL (N1_1_1_0_0_0 V) (by kernel_rfl) rfl ⟨rfl,trivial⟩
     · refine ao (fun B1 F1 w1 hS=>?_);refine aa.aZ tok (.v (Ws.getD r undef)) (hS.at (i:=0) rfl (by rw[List.length_map];omega)) rfl rfl rfl rfl rfl rfl (bI (by omega)) rfl ?_;refine aa.nil ⟨rfl,?_⟩;exact qL (N0_1_2_0_0_0 V) (by kernel_rfl) rfl ⟨rfl,trivial⟩
   refine ZH.meet 12 (qB 23 38831) (fun V=>((Vr,OA Ws)::(Vc,CA s.cols)::bJ Ws (b.set r q))) (fun V=>[(3,.bx [.sl 1 (v.map ae)]),(6,.bx [.sl 1 [],.sl 1 [],dI 0,.sl 3 []]),(7,.d aq),(8,.bx [.v Vr,.v Vc,dI sg,ae det]),(11,.d (dI c)),(12,.d (dI r)),(14,.d (ae p)),(36,.d (dI most)),(37,.d (dI c)),(16,.d (dI k)),(126,.d (.v Vr)),(127,.d (dI r)),(130,.d (dI k)),(133,.d (.v Vr)),(134,.d (dI r)),(137,.d (dI k)),(140,.d (ae p)),(120,.d (dI N)),(121,.d (dI k)),(128,.d (.v (aT Vr (r*1)))),(135,.d (.v (aT Vr (r*1))))]) (fun V=>?_) (fun N1_0_1_0_0_0=>?_)
   · refine ZH.three 4 6 11 (by kernel_rfl) rfl rfl rfl rfl rfl rfl (fun _=>rfl) (fun _=>rfl) (fun _=>rfl) ⟨rfl,trivial⟩ ?_ ?_ ?_
     · refine ao (fun B1 F1 w1 hS=>?_);refine aa.aZ tok (.v (Ws.getD r undef)) (hS.at (i:=0) rfl (by rw[List.length_map];omega)) rfl rfl rfl rfl rfl rfl (bI (by omega)) rfl ?_;refine aa.nil ⟨rfl,?_⟩;exact qL (N2_0_1_0_0_0 V) (by kernel_rfl) rfl ⟨rfl,trivial⟩
     · refine ah (fun B1 F1 w1=>?_);refine qU 1 rfl ?_;refine aa.nil ⟨rfl,?_⟩;exact qL (N1_1_1_0_0_0 V) (by kernel_rfl) rfl ⟨rfl,trivial⟩
     · refine ao (fun B1 F1 w1 hS=>?_);refine aa.aZ tok (.v (Ws.getD r undef)) (hS.at (i:=0) rfl (by rw[List.length_map];omega)) rfl rfl rfl rfl rfl rfl (bI (by omega)) rfl ?_;refine aa.nil ⟨rfl,?_⟩;exact qL (N1_0_2_0_0_0 V) (by kernel_rfl) rfl ⟨rfl,trivial⟩
   refine ZH.meet 12 (qB 23 37871) (fun V=>((Vr,OA Ws)::(Vc,CA s.cols)::bJ Ws (b.set r q))) (fun V=>[(3,.bx [.sl 1 (v.map ae)]),(6,.bx [.sl 1 [],.sl 1 [],dI 0,.sl 3 []]),(7,.d aq),(8,.bx [.v Vr,.v Vc,dI sg,ae det]),(11,.d (dI c)),(12,.d (dI r)),(14,.d (ae p)),(36,.d (dI most)),(37,.d (dI c)),(16,.d (dI k)),(126,.d (.v Vr)),(127,.d (dI r)),(130,.d (dI k)),(133,.d (.v Vr)),(134,.d (dI r)),(137,.d (dI k)),(140,.d (ae p)),(120,.d (dI N)),(121,.d (dI k)),(128,.d (.v (aT Vr (r*1)))),(131,.d (aL v))]) (fun V=>?_) (fun N1_1_0_0_0_0=>?_)
   · refine ZH.two 4 10 (by kernel_rfl) rfl rfl rfl rfl (fun _=>rfl) (fun _=>rfl) ⟨rfl,trivial⟩ ?_ ?_
     · refine ao (fun B1 F1 w1 hS=>?_);refine aa.aZ tok (.v (Ws.getD r undef)) (hS.at (i:=0) rfl (by rw[List.length_map];omega)) rfl rfl rfl rfl rfl rfl (bI (by omega)) rfl ?_;refine aa.nil ⟨rfl,?_⟩;exact qL (N2_1_0_0_0_0 V) (by kernel_rfl) rfl ⟨rfl,trivial⟩
     · refine ao (fun B1 F1 w1 hS=>?_);refine aa.idxs tok (hS.at (i:=0) rfl (by rw[List.length_map];omega)) rfl rfl rfl rfl (Int.natCast_nonneg _) (by show r<_;rw[List.length_map];omega) ?_;refine aa.nil ⟨rfl,?_⟩;exact qL (N1_1_1_0_0_0 V) (by kernel_rfl) rfl ⟨rfl,trivial⟩
   refine ZH.meet 12 (qB 23 37823) (fun V=>((Vr,OA Ws)::(Vc,CA s.cols)::bJ Ws (b.set r q))) (fun V=>[(3,.bx [.sl 1 (v.map ae)]),(6,.bx [.sl 1 [],.sl 1 [],dI 0,.sl 3 []]),(7,.d aq),(8,.bx [.v Vr,.v Vc,dI sg,ae det]),(11,.d (dI c)),(12,.d (dI r)),(14,.d (ae p)),(36,.d (dI most)),(37,.d (dI c)),(16,.d (dI k)),(126,.d (.v Vr)),(127,.d (dI r)),(130,.d (dI k)),(133,.d (.v Vr)),(134,.d (dI r)),(137,.d (dI k)),(140,.d (ae p)),(120,.d (dI N)),(121,.d (dI k)),(129,.d (.v (Ws.getD r undef)))]) (fun V=>?_) (fun N2_0_0_0_0_0=>?_)
   · refine ZH.two 6 10 (by kernel_rfl) rfl rfl rfl rfl (fun _=>rfl) (fun _=>rfl) ⟨rfl,trivial⟩ ?_ ?_
     · refine ah (fun B1 F1 w1=>?_);refine qU 1 rfl ?_;refine aa.nil ⟨rfl,?_⟩;exact qL (N2_1_0_0_0_0 V) (by kernel_rfl) rfl ⟨rfl,trivial⟩
     · refine ao (fun B1 F1 w1 hS=>?_);refine aa.idxs tok (hS.at (i:=0) rfl (by rw[List.length_map];omega)) rfl rfl rfl rfl (Int.natCast_nonneg _) (by show r<_;rw[List.length_map];omega) ?_;refine aa.nil ⟨rfl,?_⟩;exact qL (N2_0_1_0_0_0 V) (by kernel_rfl) rfl ⟨rfl,trivial⟩
   refine ZH.meet 13 (qB 23 38823) (fun V=>((Vr,OA Ws)::(Vc,CA s.cols)::bJ Ws (b.set r q))) (fun V=>[(3,.bx [.sl 1 (v.map ae)]),(6,.bx [.sl 1 [],.sl 1 [],dI 0,.sl 3 []]),(7,.d aq),(8,.bx [.v Vr,.v Vc,dI sg,ae det]),(11,.d (dI c)),(12,.d (dI r)),(14,.d (ae p)),(36,.d (dI most)),(37,.d (dI c)),(16,.d (dI k)),(126,.d (.v Vr)),(127,.d (dI r)),(130,.d (dI k)),(133,.d (.v Vr)),(134,.d (dI r)),(137,.d (dI k)),(140,.d (ae p)),(120,.d (dI N)),(121,.d (dI k)),(135,.d (.v (aT Vr (r*1))))]) (fun V=>?_) (fun N0_0_1_0_0_0=>?_)
   · refine ZH.three 3 6 11 (by kernel_rfl) rfl rfl rfl rfl rfl rfl (fun _=>rfl) (fun _=>rfl) (fun _=>rfl) ⟨rfl,trivial⟩ ?_ ?_ ?_
     · refine ao (fun B1 F1 w1 hS=>?_);refine aa.idxs tok (hS.at (i:=0) rfl (by rw[List.length_map];omega)) rfl rfl rfl rfl (Int.natCast_nonneg _) (by show r<_;rw[List.length_map];omega) ?_;refine aa.nil ⟨rfl,?_⟩;exact qL (N1_0_1_0_0_0 V) (by kernel_rfl) rfl ⟨rfl,trivial⟩
     · refine ah (fun B1 F1 w1=>?_);refine qU 1 rfl ?_;refine aa.nil ⟨rfl,?_⟩;exact qL (N0_1_1_0_0_0 V) (by kernel_rfl) rfl ⟨rfl,trivial⟩
     · refine ao (fun B1 F1 w1 hS=>?_);refine aa.aZ tok (.v (Ws.getD r undef)) (hS.at (i:=0) rfl (by rw[List.length_map];omega)) rfl rfl rfl rfl rfl rfl (bI (by omega)) rfl ?_;refine aa.nil ⟨rfl,?_⟩;exact qL (N0_0_2_0_0_0 V) (by kernel_rfl) rfl ⟨rfl,trivial⟩
   refine ZH.meet 13 (qB 23 37863) (fun V=>((Vr,OA Ws)::(Vc,CA s.cols)::bJ Ws (b.set r q))) (fun V=>[(3,.bx [.sl 1 (v.map ae)]),(6,.bx [.sl 1 [],.sl 1 [],dI 0,.sl 3 []]),(7,.d aq),(8,.bx [.v Vr,.v Vc,dI sg,ae det]),(11,.d (dI c)),(12,.d (dI r)),(14,.d (ae p)),(36,.d (dI most)),(37,.d (dI c)),(16,.d (dI k)),(126,.d (.v Vr)),(127,.d (dI r)),(130,.d (dI k)),(133,.d (.v Vr)),(134,.d (dI r)),(137,.d (dI k)),(140,.d (ae p)),(120,.d (dI N)),(121,.d (dI k)),(131,.d (aL v))]) (fun V=>?_) (fun N0_1_0_0_0_0=>?_)
   · refine ZH.two 3 10 (by kernel_rfl) rfl rfl rfl rfl (fun _=>rfl) (fun _=>rfl) ⟨rfl,trivial⟩ ?_ ?_
     · refine ao (fun B1 F1 w1 hS=>?_);refine aa.idxs tok (hS.at (i:=0) rfl (by rw[List.length_map];omega)) rfl rfl rfl rfl (Int.natCast_nonneg _) (by show r<_;rw[List.length_map];omega) ?_;refine aa.nil ⟨rfl,?_⟩;exact qL (N1_1_0_0_0_0 V) (by kernel_rfl) rfl ⟨rfl,trivial⟩
     · refine ao (fun B1 F1 w1 hS=>?_);refine aa.idxs tok (hS.at (i:=0) rfl (by rw[List.length_map];omega)) rfl rfl rfl rfl (Int.natCast_nonneg _) (by show r<_;rw[List.length_map];omega) ?_;refine aa.nil ⟨rfl,?_⟩;exact qL (N0_1_1_0_0_0 V) (by kernel_rfl) rfl ⟨rfl,trivial⟩
   refine ZH.meet 13 (qB 23 37807) (fun V=>((Vr,OA Ws)::(Vc,CA s.cols)::bJ Ws (b.set r q))) (fun V=>[(3,.bx [.sl 1 (v.map ae)]),(6,.bx [.sl 1 [],.sl 1 [],dI 0,.sl 3 []]),(7,.d aq),(8,.bx [.v Vr,.v Vc,dI sg,ae det]),(11,.d (dI c)),(12,.d (dI r)),(14,.d (ae p)),(36,.d (dI most)),(37,.d (dI c)),(16,.d (dI k)),(126,.d (.v Vr)),(127,.d (dI r)),(130,.d (dI k)),(133,.d (.v Vr)),(134,.d (dI r)),(137,.d (dI k)),(140,.d (ae p)),(120,.d (dI N)),(121,.d (dI k)),(128,.d (.v (aT Vr (r*1))))]) (fun V=>?_) (fun N1_0_0_0_0_0=>?_)
   · refine ZH.three 4 6 10 (by kernel_rfl) rfl rfl rfl rfl rfl rfl (fun _=>rfl) (fun _=>rfl) (fun _=>rfl) ⟨rfl,trivial⟩ ?_ ?_ ?_
     · refine ao (fun B1 F1 w1 hS=>?_);refine aa.aZ tok (.v (Ws.getD r undef)) (hS.at (i:=0) rfl (by rw[List.length_map];omega)) rfl rfl rfl rfl rfl rfl (bI (by omega)) rfl ?_;refine aa.nil ⟨rfl,?_⟩;exact qL (N2_0_0_0_0_0 V) (by kernel_rfl) rfl ⟨rfl,trivial⟩
     · refine ah (fun B1 F1 w1=>?_);refine qU 1 rfl ?_;refine aa.nil ⟨rfl,?_⟩;exact qL (N1_1_0_0_0_0 V) (by kernel_rfl) rfl ⟨rfl,trivial⟩
     · refine ao (fun B1 F1 w1 hS=>?_);refine aa.idxs tok (hS.at (i:=0) rfl (by rw[List.length_map];omega)) rfl rfl rfl rfl (Int.natCast_nonneg _) (by show r<_;rw[List.length_map];omega) ?_;refine aa.nil ⟨rfl,?_⟩;exact qL (N1_0_1_0_0_0 V) (by kernel_rfl) rfl ⟨rfl,trivial⟩
   refine ZH.meet 14 (qB 23 37799) (fun V=>((Vr,OA Ws)::(Vc,CA s.cols)::bJ Ws (b.set r q))) (fun V=>[(3,.bx [.sl 1 (v.map ae)]),(6,.bx [.sl 1 [],.sl 1 [],dI 0,.sl 3 []]),(7,.d aq),(8,.bx [.v Vr,.v Vc,dI sg,ae det]),(11,.d (dI c)),(12,.d (dI r)),(14,.d (ae p)),(36,.d (dI most)),(37,.d (dI c)),(16,.d (dI k)),(126,.d (.v Vr)),(127,.d (dI r)),(130,.d (dI k)),(133,.d (.v Vr)),(134,.d (dI r)),(137,.d (dI k)),(140,.d (ae p)),(120,.d (dI N)),(121,.d (dI k))]) (fun V=>?_) (fun N0_0_0_0_0_0=>?_)
   · refine ZH.three 3 6 10 (by kernel_rfl) rfl rfl rfl rfl rfl rfl (fun _=>rfl) (fun _=>rfl) (fun _=>rfl) ⟨rfl,trivial⟩ ?_ ?_ ?_
     · refine ao (fun B1 F1 w1 hS=>?_);refine aa.idxs tok (hS.at (i:=0) rfl (by rw[List.length_map];omega)) rfl rfl rfl rfl (Int.natCast_nonneg _) (by show r<_;rw[List.length_map];omega) ?_;refine aa.nil ⟨rfl,?_⟩;exact qL (N1_0_0_0_0_0 V) (by kernel_rfl) rfl ⟨rfl,trivial⟩
     · refine ah (fun B1 F1 w1=>?_);refine qU 1 rfl ?_;refine aa.nil ⟨rfl,?_⟩;exact qL (N0_1_0_0_0_0 V) (by kernel_rfl) rfl ⟨rfl,trivial⟩
     · refine ao (fun B1 F1 w1 hS=>?_);refine aa.idxs tok (hS.at (i:=0) rfl (by rw[List.length_map];omega)) rfl rfl rfl rfl (Int.natCast_nonneg _) (by show r<_;rw[List.length_map];omega) ?_;refine aa.nil ⟨rfl,?_⟩;exact qL (N0_0_1_0_0_0 V) (by kernel_rfl) rfl ⟨rfl,trivial⟩
   exact qL (N0_0_0_0_0_0 de) (by kernel_rfl) rfl ⟨rfl,trivial⟩
 have hkN:k=N:=by have:=of_decide_eq_false h;omega
 subst hkN;rw[show gq (xO v row p) row k=xO v row p by rw[← hrN];exact xe hz,← hE];refine AZ.exit ?_;have hWe:Ws.length=e.length:=by omega
 have hre:r<e.length:=by omega
 have he2c:e.length=s.rows.length:=by omega
 refine AZ.seq ?_;refine AZ.seq ?_;refine AZ.BL (fun B1 F1 w1 hS=>?_);refine qU 2 rfl ?_;refine aa.lens tok (hS.at (i:=0) rfl (by rw[List.length_map];omega)) rfl rfl rfl rfl ?_;rw[List.length_map,hWe];refine qU 1 rfl ?_;refine aa.nil ⟨rfl,?_⟩;refine AZ.block ?_;refine AZ.aD [3,6,7,8,11,12,36,37,152,153] (fun i:Nat=>(((Vr,OA Ws)::(Vc,CA s.cols)::bJ Ws (eM v e r c i)),[(3,.bx [.sl 1 (v.map ae)]),(6,.bx [.sl 1 [],.sl 1 [],dI 0,.sl 3 []]),(7,.d aq),(8,.bx [.v Vr,.v Vc,dI sg,ae det]),(11,.d (dI c)),(12,.d (dI r)),(36,.d (dI most)),(37,.d (dI c)),(152,.d (dI e.length)),(153,.d (dI i))])) (fun i=>i≤e.length) (fun i=>e.length-i) 0 rfl (Nat.zero_le _) (fun i hi=>?_);show AZ _ _ _ _ _ _ _ ((Vr,OA Ws)::(Vc,CA s.cols)::bJ Ws (eM v e r c i)) [(3,.bx [.sl 1 (v.map ae)]),(6,.bx [.sl 1 [],.sl 1 [],dI 0,.sl 3 []]),(7,.d aq),(8,.bx [.v Vr,.v Vc,dI sg,ae det]),(11,.d (dI c)),(12,.d (dI r)),(36,.d (dI most)),(37,.d (dI c)),(152,.d (dI e.length)),(153,.d (dI i))];refine AZ.seq ?_;refine AZ.dm (fun B1 F1 w1=>?_);refine qU 1 rfl ?_;refine aa.nil ⟨rfl,?_⟩;refine AZ.seq ?_;refine AZ.cond rfl (fun h=>?_) (fun h=>?_)
 · have hie:i<e.length:=by have:=of_decide_eq_true h;omega
   have hm1:=lW v e r c i;have hm2:=pA (v:=v) (r:=r) (c:=c) he2 i (by omega);have hm3:=vP V (r:=r) (c:=c) he3 i;have hmi:=ot v e r c i i (.inl (Nat.le_refl _));have hmr:=ot v e r c i r (.inr rfl);have hnx:eM v e r c (i+1)=if i≠r∧xN v (ib (eM v e r c i) i c)≠0 then (eM v e r c i).set i (nE v ((eM v e r c i).getD i []) ((eM v e r c i).getD r []) (ib (eM v e r c i) i c)) else eM v e r c i:=rfl
   have iu:ib (eM v e r c i) i c=ib e i c:=Ec v e r c i c;generalize eM v e r c i=m at *;refine AZ.skip ?_;refine AZ.seq ?_;refine AZ.block ?_;refine AZ.seq ?_;refine AZ.dm (fun B1 F1 w1=>?_);refine qU 2 rfl ?_;refine aa.nil ⟨rfl,?_⟩;refine AZ.seq ?_;refine AZ.any aI (iW.pY 16 (by kernel_rfl) (fun B1 F1 w1 hS=>?_));have hS0:=hS.at (i:=0) rfl (by rw[List.length_map];omega);refine qP 3 rfl ?_;by_cases hir:i=r
   · rw[if_neg (fun g=>g.1 hir)] at hnx;rw[bne_eq_false_iff_eq.2 (show (i:Int)=(r:Int) by omega)];refine qP 13 rfl ?_;refine af.nil ⟨rfl,?_⟩;refine an.nil ?_;refine AZ.ar rfl ?_;refine AZ.skip ?_;refine AZ.dm (fun B1 F1 w1=>?_);refine qU 1 rfl ?_;rw[au (x:=(i:Int)+1) (by omega) (by omega)];refine qU 1 rfl ?_;refine aa.nil ⟨rfl,?_⟩;exact⟨i+1,Prod.ext (show ((Vr,OA Ws)::(Vc,CA s.cols)::bJ Ws m)=((Vr,OA Ws)::(Vc,CA s.cols)::bJ Ws (eM v e r c (i+1))) by rw[hnx]) rfl,hie,by omega⟩
   have hmiN:(m.getD i []).length=k:=hm2 i (by omega);have hmrN:(m.getD r []).length=k:=hm2 r (by omega);have hgi:=iC (Vs:=Ws) (a:=m) (j:=i) (by omega) (by omega);have hgr2:=iC (Vs:=Ws) (a:=m) (j:=r) (by omega) (by omega);have hS1:=hS.at (i:=i+2) hgi (by rw[List.length_map];omega);have cs:=lK V (hm3 i c) (by rw[iu];exact oks i (by omega) (by omega));have okt2:=okt i (by omega) (by omega);rw[← iu,← hmi,← hmr] at okt2;rw[bne_iff_ne.2 (show (i:Int)≠(r:Int) by omega)];refine qP 5 rfl ?_;refine af.idxs tok hS0 rfl rfl rfl rfl rfl (Int.natCast_nonneg i) (by rw[List.length_map];omega) ?_;refine af.aZ tok (.v (Ws.getD i undef)) hS0 rfl rfl rfl rfl rfl rfl rfl (bI (by omega)) rfl ?_;refine qP 1 rfl ?_;refine af.idxs tok hS1 rfl rfl rfl rfl rfl (Int.natCast_nonneg c) (by rw[List.length_map];omega) ?_;refine af.aZ tok (ae (ib m i c)) hS1 rfl rfl rfl rfl rfl rfl rfl (hel hm2 (by omega) c hcN) rfl ?_;refine af.call tok rfl rfl rfl rfl rfl cs ?_;refine qP 2 rfl ?_;refine af.nil ⟨rfl,?_⟩;refine an.nil ?_;refine AZ.cond rfl (fun h=>?_) (fun h=>?_);rotate_left
   · have hg:xN v (ib m i c)=0:=bne_eq_false_iff_eq.1 h;rw[if_neg (fun g=>g.2 hg)] at hnx;refine AZ.skip ?_;refine AZ.dm (fun B1 F1 w1=>?_);refine qU 1 rfl ?_;rw[au (x:=(i:Int)+1) (by omega) (by omega)];refine qU 1 rfl ?_;refine aa.nil ⟨rfl,?_⟩;exact⟨i+1,Prod.ext (show ((Vr,OA Ws)::(Vc,CA s.cols)::bJ Ws m)=((Vr,OA Ws)::(Vc,CA s.cols)::bJ Ws (eM v e r c (i+1))) by rw[hnx]) rfl,hie,by omega⟩
   have hg:xN v (ib m i c)≠0:=bne_iff_ne.1 h;rw[if_pos ⟨hir,hg⟩] at hnx;have ct:=r8 (Ws.getD i undef) (Ws.getD r undef) V (xs:=m.getD i []) (ys:=m.getD r []) (c:=ib m i c) (by omega) (by omega) (by omega) (hm3 i) (hm3 r) (hm3 i c) (okt2 (by rw[iu] at hg ⊢; exact hg));refine AZ.seq ?_;refine AZ.any aI (iW.pY 19 (by kernel_rfl) (fun B1 F1 w1 hS=>?_));have hS0:=hS.at (i:=0) rfl (by rw[List.length_map];omega);have hS1:=hS.at (i:=i+2) hgi (by rw[List.length_map];omega);refine qP 4 rfl ?_;refine af.idxs tok hS0 rfl rfl rfl rfl rfl (Int.natCast_nonneg i) (by rw[List.length_map];omega) ?_;refine af.aZ tok (.v (Ws.getD i undef)) hS0 rfl rfl rfl rfl rfl rfl rfl (bI (by omega)) rfl ?_;refine qP 3 rfl ?_;refine af.idxs tok hS0 rfl rfl rfl rfl rfl (Int.natCast_nonneg r) (by rw[List.length_map];omega) ?_;refine af.aZ tok (.v (Ws.getD r undef)) hS0 rfl rfl rfl rfl rfl rfl rfl (bI (by omega)) rfl ?_;refine qP 3 rfl ?_;refine af.idxs tok hS0 rfl rfl rfl rfl rfl (Int.natCast_nonneg i) (by rw[List.length_map];omega) ?_;refine af.aZ tok (.v (Ws.getD i undef)) hS0 rfl rfl rfl rfl rfl rfl rfl (bI (by omega)) rfl ?_;refine qP 1 rfl ?_;refine af.idxs tok hS1 rfl rfl rfl rfl rfl (Int.natCast_nonneg c) (by rw[List.length_map];omega) ?_;refine af.aZ tok (ae (ib m i c)) hS1 rfl rfl rfl rfl rfl rfl rfl (hel hm2 (by omega) c hcN) rfl ?_;refine af.nil ⟨rfl,?_⟩;refine an.to [172,177,182,190,3,6,7,8,11,12,36,37,152,153] [(172,.d (aL v)),(177,.d (.v (Ws.getD i undef))),(182,.d (.v (Ws.getD r undef))),(190,.d (ae (ib m i c))),(3,.bx [.sl 1 (v.map ae)]),(6,.bx [.sl 1 [],.sl 1 [],dI 0,.sl 3 []]),(7,.d aq),(8,.bx [.v Vr,.v Vc,dI sg,ae det]),(11,.d (dI c)),(12,.d (dI r)),(36,.d (dI most)),(37,.d (dI c)),(152,.d (dI e.length)),(153,.d (dI i))] rfl ?_;refine an.a7 tok [i+2,r+2] rfl rfl rfl rfl (GV hgi hgr2) (by simp[hir]) rfl ct (fun res R1 hP=>by rw[hP.2];exact Nat.le_refl _) (fun res R1 hP=>?_);obtain ⟨rfl,rfl⟩:=hP
   refine an.sB (R':=(Vr,OA Ws)::(Vc,CA s.cols)::bJ Ws (eM v e r c (i+1))) (by
    show ((Vr,OA Ws)::(Vc,CA s.cols)::((bJ Ws m).set i _).set r _)++[]=_
    rw[List.append_nil,C9 (by omega) (by omega) (by omega) hir,hnx]) ?_
   refine an.cut 1 rfl (fun B1 F1 w1=>?_);refine qU 1 rfl ?_;refine aa.nil ⟨rfl,?_⟩;refine an.nil ?_;refine AZ.seq ?_;refine AZ.dm (fun B1 F1 w1=>?_);refine qU 1 rfl ?_;refine aa.err tok rfl rfl rfl rfl rfl ?_;refine aa.nil ⟨rfl,?_⟩;refine AZ.ar rfl ?_;refine AZ.skip ?_;refine AZ.dm (fun B1 F1 w1=>?_);refine qU 1 rfl ?_;rw[au (x:=(i:Int)+1) (by omega) (by omega)];refine qU 1 rfl ?_;refine aa.nil ⟨rfl,?_⟩;exact⟨i+1,rfl,hie,by omega⟩
 have hie:i=e.length:=by have:=of_decide_eq_false h;omega
 subst hie;refine AZ.exit ?_;refine AZ.region ?_;refine an.cut 4 rfl (fun B1 F1 w1=>?_);refine qU 3 rfl ?_;refine aa.kc tok rfl rfl rfl rfl rfl ?_;refine aa.nil ⟨rfl,?_⟩;refine an.cy 198 1 rfl rfl rfl ?_;refine an.cut 1 rfl (fun B1 F1 w1=>?_);refine aa.kI tok rfl rfl rfl rfl rfl rfl (by show ((s.cols.map (fun c:Nat=>dI c)).length+1)*8≤_;rw[List.length_map];omega) (by show (s.cols.map (fun c:Nat=>dI c)).length+1≤_;rw[List.length_map];omega) ?_;refine aa.nil ⟨rfl,?_⟩;refine an.xk 201 1 rfl rfl rfl rfl (fun Vq=>?_)
 refine an.sB (R':=(Vr,OA Ws)::(Vq,CA (s.cols++[c]))::bJ Ws (eM v e r c e.length)) (by
  show (Vr,OA Ws)::(Vq,AV.ow 3 (s.cols.map (fun c:Nat=>dI c)++[dI c]))::bJ Ws (eM v e r c e.length)=_
  rw[show s.cols.map (fun c:Nat=>dI c)++[dI (c:Int)]=(s.cols++[c]).map (fun c:Nat=>dI c) by simp]) ?_
 refine an.cut 2 rfl (fun B1 F1 w1=>?_);refine qU 2 rfl ?_;refine aa.nil ⟨rfl,?_⟩;refine an.nil ?_;refine AZ.dm (fun B1 F1 w1=>?_);refine qU 1 rfl ?_;rw[au (x:=(c:Int)+1) (by omega) (by omega)];refine qU 1 rfl ?_;refine aa.nil ⟨rfl,?_⟩;exact⟨(c+1,Vr,Vq,Ws),by rw[hst];rfl,⟨hcm,by show Ws.length=a.length;omega⟩,by show most-(c+1)<most-c;omega⟩
end Lift
namespace Lift
open Go Go.Proofs
theorem nX(v:List NQ)(most:Nat)(hm:most≤1000000):Pure Tryz.prog 89 [aL v,gT [],dI most] (.tu [Eh ⟨[],[],1,[1]⟩,aq]):=by
 refine qJ 205 Tryz.func89 rfl rfl rfl rfl (by kernel_rfl) (fun B F0 w0=>?_);have cone:=gH (Qr ((1:Int):Rat)) (k:=1) (eN _ (by have:=eO;rw[show ((1:Int):Rat)=1 from rfl];omega)) (by decide) (by decide) (xL _);rw[bH,show np ((1:Int):Rat)=[1] from rfl] at cone;refine qX 3 rfl ?_;refine qI (AW.region ?_);refine aa.call tok rfl rfl rfl rfl (fQ 1 (by decide) (by decide)) ?_;refine aa.call tok rfl rfl rfl rfl cone ?_;refine qU 3 rfl ?_;refine qI ?_;refine qX 3 rfl ?_;refine aa.nil ?_;refine AW.block ?_;refine AW.aD [2,3,6,7,8,22,23,24] (fun _:Unit=>[(2,.d (dI most)),(3,.bx [.sl 1 (v.map ae)]),(6,.bx [.sl 1 [],.sl 1 [],dI 0,.sl 3 []]),(7,.d aq),(8,.bx [.sl 1 [],.sl 1 [],dI 1,ae [1]]),(22,.d (gT [])),(23,.d (dI 0)),(24,.d (dI 0))]) (fun _=>True) (fun _=>0) () rfl trivial (fun _ _=>?_);show AW _ _ _ _ _ _ _ [(2,.d (dI most)),(3,.bx [.sl 1 (v.map ae)]),(6,.bx [.sl 1 [],.sl 1 [],dI 0,.sl 3 []]),(7,.d aq),(8,.bx [.sl 1 [],.sl 1 [],dI 1,ae [1]]),(22,.d (gT [])),(23,.d (dI 0)),(24,.d (dI 0))];refine qX 1 rfl ?_;refine qI ?_;refine AW.ar rfl ?_;refine AW.exit (AW.seq ?_);refine qX 2 rfl ?_;refine aa.nil ?_;refine AW.block ?_;refine AW.aD [3,6,7,8,36,37] (fun c:Nat=>[(3,.bx [.sl 1 (v.map ae)]),(6,.bx [.sl 1 [],.sl 1 [],dI 0,.sl 3 []]),(7,.d aq),(8,.bx [.sl 1 [],.sl 1 [],dI 1,ae [1]]),(36,.d (dI most)),(37,.d (dI c))]) (fun c=>c≤most) (fun c=>most-c) 0 rfl (Nat.zero_le _) (fun c hc=>?_);show AW _ _ _ _ _ _ _ [(3,.bx [.sl 1 (v.map ae)]),(6,.bx [.sl 1 [],.sl 1 [],dI 0,.sl 3 []]),(7,.d aq),(8,.bx [.sl 1 [],.sl 1 [],dI 1,ae [1]]),(36,.d (dI most)),(37,.d (dI c))];refine qX 1 rfl ?_;refine qI ?_;refine AW.cond rfl (fun h=>?_) (fun h=>?_);rotate_left
 · refine AW.exit ?_;refine qX 3 rfl ?_;exact qN rfl
 have hcm:c<most:=by have:=of_decide_eq_true h;omega
 refine AW.skip (AW.seq (AW.block ?_));refine qX 2 rfl ?_;refine qK 4 rfl ?_;refine qK 2 rfl ?_;refine aa.nil ?_;refine AW.cut [3,6,7,8,12,13,36,37] (fun _:Unit=>[(3,.bx [.sl 1 (v.map ae)]),(6,.bx [.sl 1 [],.sl 1 [],dI 0,.sl 3 []]),(7,.d aq),(8,.bx [.sl 1 [],.sl 1 [],dI 1,ae [1]]),(12,.d (dI 0)),(13,.d (dI 0)),(36,.d (dI most)),(37,.d (dI c))]) (fun _=>True) ?_ (fun _ _=>?_)
 · refine AW.block ?_;refine AW.aD [3,6,7,8,11,12,13,36,37] (fun _:Unit=>[(3,.bx [.sl 1 (v.map ae)]),(6,.bx [.sl 1 [],.sl 1 [],dI 0,.sl 3 []]),(7,.d aq),(8,.bx [.sl 1 [],.sl 1 [],dI 1,ae [1]]),(11,.d (dI c)),(12,.d (dI 0)),(13,.d (dI 0)),(36,.d (dI most)),(37,.d (dI c))]) (fun _=>True) (fun _=>0) () rfl trivial (fun _ _=>?_);show AW _ _ _ _ _ _ _ [(3,.bx [.sl 1 (v.map ae)]),(6,.bx [.sl 1 [],.sl 1 [],dI 0,.sl 3 []]),(7,.d aq),(8,.bx [.sl 1 [],.sl 1 [],dI 1,ae [1]]),(11,.d (dI c)),(12,.d (dI 0)),(13,.d (dI 0)),(36,.d (dI most)),(37,.d (dI c))];refine AW.seq (AW.seq ?_);refine AW.draw aI 18 (by kernel_rfl) ?_;refine qP 18 rfl ?_;refine af.nil ?_;refine aa.nil ?_;refine AW.ar rfl ?_;exact AW.exit ⟨(),rfl,trivial⟩
 show AW _ _ _ _ _ _ _ [(3,.bx [.sl 1 (v.map ae)]),(6,.bx [.sl 1 [],.sl 1 [],dI 0,.sl 3 []]),(7,.d aq),(8,.bx [.sl 1 [],.sl 1 [],dI 1,ae [1]]),(12,.d (dI 0)),(13,.d (dI 0)),(36,.d (dI most)),(37,.d (dI c))];refine AW.seq ?_;refine qX 5 rfl ?_;refine aa.nil ?_;refine AW.aB rfl ?_;refine AW.exit ?_;refine qT 1 rfl ?_;rw[au (x:=(c:Int)+1) (by omega) (by omega)];refine qU 1 rfl ?_;refine aa.nil ?_;exact⟨c+1,rfl,hcm,by omega⟩
def DB(v:List NQ)(a:il):mq:=fU v a (gf a)
structure Gw (v:List NQ) (a:il):Prop where
 l:a.length≤32
 r:iX (gf a) a
 c:gf a≤32
 lt:Ah v.length a
theorem r9{v:List NQ}(V:qR v){a:il}{N most:Nat}(ha:a.length≤1000000)(hN:N≤1000000)(hmost:most≤N)(hr:iX N a)(hl:Ah v.length a)(ok: ∀c,c<most→sP v (fU v a c) c):
  Pure Tryz.prog 89 [aL v,gT a,dI most] (.tu [Eh (fU v a most),aq]):=by
 by_cases h0:a.length=0
 · rw[List.length_eq_zero_iff.1 h0,zE];exact nX v most (by omega)
 · exact o8 V (by omega) ha hN hmost hr hl ok
def td(a:il):List (List (List RD)):=a.map (fun r=>r.map gj)
theorem wF(a:il):(td a).length=a.length:=List.length_map ..
theorem nJ(a:il)(i:Nat):(td a).getD i []=(a.getD i []).map gj:=by
 unfold td;rw[List.getD_eq_getElem?_getD,List.getElem?_map,List.getD_eq_getElem?_getD];cases a[i]? with
 | none=>rfl
 | some x=>rfl
theorem zF(a:il)(i k:Nat):((td a).getD i []).getD k []=gj (ib a i k):=by
 rw[nJ];unfold ib;generalize a.getD i []=r;rw[List.getD_eq_getElem?_getD,List.getElem?_map,List.getD_eq_getElem?_getD];cases r[k]? with
 | none=>rfl
 | some x=>rfl
theorem E3(a:il):zf (td a)=gT a:=by
 show D.sl 1 ((a.map _).map C2)=D.sl 1 (a.map gx);rw[List.map_map]
 congr 1
 refine List.map_congr_left fun r _=>?_;show D.sl 1 ((r.map gj).map a9)=D.sl 1 (r.map ae);rw[List.map_map]
 congr 1
 exact List.map_congr_left fun x _=>gY x
theorem tY(a:il):gf (td a)=gf a:=by unfold gf;rw[nJ,List.length_map]
theorem iz.s{m:Nat}{v:List NQ}(V:iz m v)(hk:oF v.length m):GQ m (mi v):=by
 have hl5:=V.l5;have hm2:=V.m2;have T:=V.raw.1;exact⟨fun i hi _=>by rw[nI];exact uT (V.sz i),V.m1,by rw[ea];omega,T.ll,fun _=>by rw[ea];exact hk,hm2⟩
theorem Gw.raw{m:Nat}{v:List NQ}{a:il}(V:iz m v)(G:Gw v a)(hs: ∀i k,az m (ib a i k)):FG m (mi v) (td a)∧zQ (mi v) (td a)=0:=by
 have hl:=G.l;have hc:=G.c
 have hrow: ∀i,((td a).getD i []).length≤32:=fun i=>by
  rw[nJ,List.length_map];by_cases h:i<a.length
  · rw[G.r i h];exact hc
  · rw[vG (by omega)];exact Nat.zero_le _
 refine⟨⟨fun i k=>by rw[zF];exact gD V (G.lt i k) (hs i k),by rw[wF];omega,fun i=>Nat.le_trans (hrow i) (by decide)⟩,?_⟩;unfold zQ;rw[if_neg (by rw[V.raw.2];simp)];unfold DQ;split
 · rfl
 rw[wF,tY,if_neg (by omega)]
 have e1:fE (Db (td a)) (a.length-0) 0=0:=lT fun j hj=>by
  unfold Db;rw[tY,nJ,List.length_map,G.r j (by omega)];exact if_neg (fun h=>h rfl)
 rw[e1,if_neg (by decide)];refine lT fun j hj=>?_;unfold uQ;refine lT fun k hk=>?_;rw[zF];exact ck1 V (G.lt j k)
theorem sd{m:Nat}{v:List NQ}{a:il}(V:iz m v)(hk:oF v.length m)(G:Gw v a)(hs: ∀i k,az m (ib a i k))(ok: ∀c,c<gf a→sP v (fU v a c) c):Pure Tryz.prog 46 [aL v,gT a] (.tu [dI (DB v a).cols.length,aq]):=by
 refine qJ 29 Tryz.func46 rfl rfl rfl rfl (by kernel_rfl) (fun B F0 w0=>?_);obtain ⟨r1,r2⟩:=G.raw V hs;have cc:=qi (V.s hk) r1;rw[r2,mQ,E3] at cc;have hGl:=G.l;have hGc:=G.c;have cr:=r9 V.a (most:=gf a) (by omega) (by omega) (Nat.le_refl _) G.r G.lt ok;have hcl:=(yh V.a G.r G.lt (gf a)).cl;change Pure _ _ _ (.tu [Eh (DB v a),aq]) at cr;generalize DB v a=s at cr ⊢;obtain ⟨rows,cols,sg,det⟩:=s;refine qX 3 rfl ?_;refine qI ?_;refine qX 2 rfl ?_;refine aa.call tok rfl rfl rfl rfl cc ?_;refine qU 1 rfl ?_;refine qK 1 rfl ?_;refine aa.err tok rfl rfl rfl rfl rfl ?_;refine aa.nil ?_;refine AW.ar rfl ?_
 · refine AW.skip (AW.seq ?_);refine AW.lV tok aI [(7,true),(1,false),(1,true)] 9 [7] (by kernel_rfl) ⟨rfl,?_⟩;refine qP 3 rfl ?_;refine af.call tok rfl rfl rfl rfl rfl (nY a) ?_;refine af.call tok rfl rfl rfl rfl rfl cr ?_;refine qP 2 rfl ?_;refine af.nil ⟨rfl,?_⟩;refine qP 1 rfl ?_;refine af.nil ⟨rfl,?_⟩;refine qP 1 rfl ?_;refine af.nil ⟨_,k5.cons (.bx rfl) (k5.nil),?_⟩;refine qU 1 rfl ?_;refine qI ?_;refine qX 1 rfl ?_;refine aa.err tok rfl rfl rfl rfl rfl ?_;refine aa.nil ?_;refine AW.ar rfl ?_
   · refine AW.skip ?_;refine qX 2 rfl ?_;refine qU 1 rfl ?_;rw[List.length_map];refine qU 2 rfl ?_;exact qN rfl
end Lift
namespace Lift
open Go Go.Proofs
def pQ(l:Lkg)(a:Asm):il:=iO (a.rt.map aC) l a l.joints.length
def B9(l:Lkg)(a:Asm):D:=if fD l a≠0 then .tu [.sl 1 [],ml (fD l a)] else .tu [gT (pQ l a),aq]
theorem tA(l:Lkg)(a:Asm)(hl:l.ok 16)(ha:a.ok 16)(h2:a.rt.length≤2)(hnb:l.bodies.length≤1000000000000):Pure Tryz.prog 14 [l.D,a.D] (B9 l a):=by
 refine qJ 18 Tryz.func14 rfl rfl rfl rfl (by kernel_rfl) (fun B0 F0 w0=>?_);have c:=pS l a hl ha h2 hnb;unfold zB at c;unfold B9 pQ;refine qX 4 rfl ?_;refine qK 2 rfl ?_;by_cases h:fD l a≠0
 · rw[if_pos h] at c;rw[if_pos h];refine aa.call tok rfl rfl rfl rfl c ?_;refine qU 7 rfl ?_;refine qK 4 rfl ?_;exact qN rfl
 rw[if_neg h] at c;rw[if_neg h];refine aa.call tok rfl rfl rfl rfl c ?_;refine qU 7 rfl ?_;refine qK 4 rfl ?_;exact qN rfl
def zG(l:Lkg)(a:Asm)(r:Nat):D:=if fD l a≠0 then .tu [dI 0,ml (fD l a)] else .tu [dI r,aq]
theorem pT(l:Lkg)(a:Asm){r:Nat}(hl:l.ok 16)(ha:a.ok 16)(h2:a.rt.length≤2)(hnb:l.bodies.length≤1000000000000)(hR:fD l a=0→Pure Tryz.prog 46 [aL (a.rt.map aC),gT (pQ l a)] (.tu [dI r,aq])):Pure Tryz.prog 23 [l.D,a.D] (zG l a r):=by
 refine qJ 25 Tryz.func23 rfl rfl rfl rfl (by kernel_rfl) (fun B0 F0 w0=>?_);have c:=pS l a hl ha h2 hnb;unfold zB at c;unfold zG;have hT:fD l a=0→sW a.rt=aL (a.rt.map aC):=fun h=>(nA ha.t (u6 h).tw).eq;unfold pQ at hR;refine qX 4 rfl ?_;refine qK 2 rfl ?_;rcases e2:fD l a with _ | z
 rotate_left
 · rw[if_pos (by rw[e2];exact Nat.succ_ne_zero z),e2] at c;rw[if_pos (Nat.succ_ne_zero z)];refine aa.call tok rfl rfl rfl rfl c ?_;refine qU 7 rfl ?_;refine qI ?_;refine qX 1 rfl ?_;refine aa.err tok rfl rfl rfl rfl rfl ?_;refine aa.nil ?_;refine AW.aB rfl ?_;refine qX 3 rfl ?_;exact qN rfl
 rw[if_neg (by rw[e2];simp)] at c;rw[if_neg (by simp)];have hR:=hR e2;rw[← hT e2] at hR;refine aa.call tok rfl rfl rfl rfl c ?_;refine qU 7 rfl ?_;refine qI ?_;refine qX 1 rfl ?_;refine aa.err tok rfl rfl rfl rfl rfl ?_;refine aa.nil ?_;refine AW.ar rfl ?_
 · refine AW.skip (AW.seq (AW.region ?_));obtain ⟨rt,bs,md⟩:=a;refine qU 3 rfl ?_;refine aa.call tok rfl rfl rfl rfl hR ?_;refine qU 4 rfl ?_;exact qN rfl
def Ct(l:Lkg)(a:Asm)(r:Nat):D:=if fD l a≠0 then .tu [dI 0,ml (fD l a)] else .tu [dI (3*((l.bodies.length:Int) -1) -r),aq]
theorem r6(l:Lkg)(a:Asm){r:Nat}(hr:r≤1000000)(hl:l.ok 16)(ha:a.ok 16)(h2:a.rt.length≤2)(hnb:l.bodies.length≤1000000000000)(hR:fD l a=0→Pure Tryz.prog 46 [aL (a.rt.map aC),gT (pQ l a)] (.tu [dI r,aq])):Pure Tryz.prog 11 [l.D,a.D] (Ct l a r):=by
 refine qJ 24 Tryz.func11 rfl rfl rfl rfl (by kernel_rfl) (fun B0 F0 w0=>?_);have c:=pT l a hl ha h2 hnb hR;unfold zG at c;unfold Ct;refine qX 4 rfl ?_;refine qK 2 rfl ?_;rcases e2:fD l a with _ | z
 rotate_left
 · rw[if_pos (by rw[e2];exact Nat.succ_ne_zero z),e2] at c;rw[if_pos (Nat.succ_ne_zero z)];refine aa.call tok rfl rfl rfl rfl c ?_;refine qU 5 rfl ?_;refine qI ?_;refine qX 1 rfl ?_;refine aa.err tok rfl rfl rfl rfl rfl ?_;refine aa.nil ?_;refine AW.aB rfl ?_;refine qX 3 rfl ?_;exact qN rfl
 rw[if_neg (by rw[e2];simp)] at c;rw[if_neg (by simp)];clear hR e2;obtain ⟨ln,lb,js,lds⟩:=l;simp only[] at *;refine aa.call tok rfl rfl rfl rfl c ?_;refine qU 5 rfl ?_;refine qI ?_;refine qX 1 rfl ?_;refine aa.err tok rfl rfl rfl rfl rfl ?_;refine aa.nil ?_;refine AW.ar rfl ?_
 · refine AW.skip ?_;refine qX 3 rfl ?_;rw[List.length_map];refine qU 1 rfl ?_;rw[au (x:=(lb.length:Int) -1) (by omega) (by omega)];refine qU 1 rfl ?_;rw[au (x:=3*((lb.length:Int) -1)) (by omega) (by omega)];refine qU 2 rfl ?_;rw[au (x:=3*((lb.length:Int) -1) -(r:Int)) (by omega) (by omega)];refine qU 2 rfl ?_;exact qN rfl
end Lift
namespace Lift
open Go Go.Proofs
def AT:List RD→Nat→Nat
 | [],n=>n
 | x::r,n=>if n<100 then AT r (n+(x.n.length+x.d.length)) else n
def dO(a:List RD):Nat:=AT a 0
def qS(a:List RD):Prop:=a.length≤4398046511104∧ ∀i,(a.getD i default).w big
theorem Bk{r:List RD}{n:Nat}(h: ¬n<100):AT r n=n:=by
 cases r with
 | nil=>rfl
 | cons x r=>exact if_neg h
theorem xB{a:List RD}{i:Nat}(h:i<a.length):a.drop i=a.getD i default::a.drop (i+1):=by
 rw[List.drop_eq_getElem_cons h]
 congr 1
 rw[List.getD_eq_getElem?_getD,List.getElem?_eq_getElem h];rfl
theorem eU(a:List RD)(ha:qS a):Pure Tryz.prog 30 [a9 a] (dI (dO a)):=by
 refine qJ 31 Tryz.func30 rfl rfl rfl rfl (by kernel_rfl) (fun B F0 w0=>?_);obtain ⟨hl,hw⟩:=ha;unfold big at hw;obtain ⟨E,hE⟩: ∃E,dO a=E:=⟨_,rfl⟩;rw[hE];refine qX 1 rfl ?_;refine qK 1 rfl ?_;refine qI ?_;refine qX 1 rfl ?_;refine aa.nil ?_;refine AW.block ?_;refine AW.aD [0,3,4] (fun s:Nat×Nat=>[(0,.d (a9 a)),(3,.d (dI s.2)),(4,.d (dI s.1))]) (fun s=>s.1≤a.length∧s.2≤100+2000000000000000∧AT (a.drop s.1) s.2=E) (fun s=>a.length-s.1) (0,0) rfl ⟨Nat.zero_le _,Nat.zero_le _,hE⟩ (fun s hs=>?_)
 · obtain ⟨i,n⟩:=s;obtain ⟨hi,hn,hsz⟩:=hs;simp only[] at hi hn hsz;show AW _ _ _ _ _ _ _ [(0,.d (a9 a)),(3,.d (dI n)),(4,.d (dI i))];refine AW.seq ?_;refine qX 2 rfl ?_;refine qU 1 rfl ?_;rw[List.length_map];refine qU 2 rfl ?_;by_cases hia:i<a.length;rotate_left
   · rw[decide_eq_false (show ¬(i:Int)<(a.length:Int) by omega)];refine qU 3 rfl ?_;refine aa.nil ?_;have hii:i=a.length:=by omega
     subst hii;rw[List.drop_length] at hsz;subst hsz;refine AW.ar rfl ?_;refine AW.exit ?_;refine qX 2 rfl ?_;exact qN rfl
   rw[decide_eq_true (show (i:Int)<(a.length:Int) by omega)];refine qU 3 rfl ?_;refine aa.nil ?_;refine AW.cond rfl (fun h=>?_) (fun h=>?_)
   · have hn1:n<100:=by have:=of_decide_eq_true h;omega
     have hg:=getM RD.D (l:=a) (i:=i) hia;have w1:=(hw i).2.2.1;have w2:=(hw i).2.2.2;rw[xB hia] at hsz;have hsz:AT (a.drop (i+1)) (n+((a.getD i default).n.length+(a.getD i default).d.length))=E:=by rw[← hsz];exact(if_pos hn1).symm
     generalize a.getD i default=x at hg w1 w2 hsz;obtain ⟨xg,xn,xd⟩:=x;simp only[] at w1 w2 hsz;refine AW.skip (AW.seq (AW.block ?_));refine AW.draw aI 15 (by kernel_rfl) ?_;refine qP 3 rfl ?_;refine af.idx tok (RD.D ⟨xg,xn,xd⟩) rfl rfl rfl rfl rfl (Int.natCast_nonneg i) hg ?_;refine qP 3 rfl ?_;rw[aR];refine qP 2 rfl ?_;refine af.idx tok (RD.D ⟨xg,xn,xd⟩) rfl rfl rfl rfl rfl (Int.natCast_nonneg i) hg ?_;refine qP 3 rfl ?_;rw[aR];refine qP 1 rfl ?_;rw[au (x:=(xn.length:Int)+(xd.length:Int)) (by omega) (by omega)];refine qP 1 rfl ?_;rw[au (x:=(n:Int)+((xn.length:Int)+(xd.length:Int))) (by omega) (by omega)];refine af.nil ?_;refine qU 1 rfl ?_;refine aa.nil ?_;refine qT 2 rfl ?_;rw[au (x:=(i:Int)+1) (by omega) (by omega)];refine qU 1 rfl ?_;refine aa.nil ?_;exact⟨(i+1,n+(xn.length+xd.length)),rfl,⟨hia,by show n+(xn.length+xd.length)≤_;omega,hsz⟩,by show a.length-(i+1)<a.length-i;omega⟩
   have hn1: ¬n<100:=by have:=of_decide_eq_false h;omega
   rw[Bk hn1] at hsz;subst hsz;refine AW.exit ?_;refine qX 2 rfl ?_;exact qN rfl
end Lift
namespace Lift
open Go Go.Proofs
def xa(p:Mark):Nat:=p.x.n.length+p.x.d.length+p.y.n.length+p.y.d.length
def qD(f:Nat→Nat)(n:Nat):Nat→Nat
 | 0=>n
 | k+1=>max (qD f n k) (f k)
def qQ(bs:List Body):Nat→Nat
 | 0=>0
 | i+1=>qD (fun k=>xa ((bs.getD i default).pts.getD k default)) (qQ bs i) (bs.getD i default).pts.length
def plW(p:dL)(n:Nat):Nat:=max (max (max (max n (dO p.c)) (dO p.s)) (dO p.x)) (dO p.y)
def wX(bs:List dL)(n:Nat):Nat→Nat
 | 0=>n
 | i+1=>plW (bs.getD i default) (wX bs n i)
def FP(l:Lkg)(a:Asm):Nat:=wX a.bodies (qD (fun i=>dO (a.rt.getD i [])) (qQ l.bodies l.bodies.length) a.rt.length) a.bodies.length
def Gn(l:Lkg)(a:Asm):Bool:=decide (6<l.bodies.length∧l.bodies.length≤8∨8<l.joints.length∧l.joints.length≤16∨40<l.bodies.length∨40<l.joints.length∨40<l.drivers.length∨40<a.bodies.length∨2<a.rt.length)
def E5(bs:List Body)(i:Nat):Bool:=decide (40<(bs.getD i default).pts.length)
def sj(l:Lkg)(a:Asm):Bool:=Gn l a||dP (E5 l.bodies) (l.bodies.length-0) 0||decide (((16:Int) -4*(a.rt.length:Int))<(FP l a:Int))
structure AsB (a:Asm):Prop where
 rl:a.rt.length≤big
 r: ∀i,qS (a.rt.getD i [])
 bl:a.bodies.length≤big
 c: ∀i,qS (a.bodies.getD i default).c
 s: ∀i,qS (a.bodies.getD i default).s
 x: ∀i,qS (a.bodies.getD i default).x
 y: ∀i,qS (a.bodies.getD i default).y
theorem EU{a:List RD}(ha:qS a): ∀(i n:Nat),n≤4000000000000000→AT (a.drop i) n≤4000000000000000:=by
 intro i;obtain ⟨hl,hw⟩:=ha;unfold big at hw
 suffices h: ∀(k i n:Nat),a.length-i≤k→n≤4000000000000000→AT (a.drop i) n≤4000000000000000 from fun n hn=>h (a.length-i) i n (Nat.le_refl _) hn
 intro k
 induction k with
 | zero =>
   intro i n hi hn;rw[List.drop_eq_nil_of_le (by omega)];exact hn
 | succ k ih =>
   intro i n hi hn;by_cases hia:i<a.length
   · rw[xB hia];show (if n<100 then _ else n)≤_;split
     · have w1:=(hw i).2.2.1;have w2:=(hw i).2.2.2;exact ih (i+1) _ (by omega) (by omega)
     · exact hn
   · rw[List.drop_eq_nil_of_le (by omega)];exact hn
theorem nF{a:List RD}(ha:qS a):dO a≤4000000000000000:=EU ha 0 0 (by decide)
theorem vv{f:Nat→Nat}{n M:Nat}(hn:n≤M)(hf: ∀k,f k≤M): ∀k,qD f n k≤M
 | 0=>hn
 | k+1=>by
   have:=vv hn hf k;have:=hf k;show max (qD f n k) (f k)≤M;omega
theorem uf(a b:Nat):(if (b:Int)>(a:Int) then (b:Int) else (a:Int))=((max a b:Nat):Int):=DR a b
set_option maxHeartbeats 3200000 in
theorem sf(l:Lkg)(a:Asm){K:Nat}(hl:l.ok K)(hK:K≤big)(ha:AsB a):Pure Tryz.prog 12 [l.D,a.D] (dB (sj l a)):=by
 refine qJ 172 Tryz.func12 rfl rfl rfl rfl (by kernel_rfl) (fun B F0 w0=>?_);have hnb:=hl.nb;have hnj:=hl.nj;have hnd:=hl.nd;have hlb:=hl.b;obtain ⟨hrl,har,hbl,hc,hs,hx,hy⟩:=ha;have zr:=fun i=>eU _ (har i);have zc:=fun i=>eU _ (hc i);have zs:=fun i=>eU _ (hs i);have zx:=fun i=>eU _ (hx i);have zy:=fun i=>eU _ (hy i);have yr:=fun i=>nF (har i);have yc:=fun i=>nF (hc i);have ys:=fun i=>nF (hs i);have yx:=fun i=>nF (hx i);have yy:=fun i=>nF (hy i);clear har hc hs hx hy hl;unfold sj FP Gn;obtain ⟨ln,lb,js,lds⟩:=l;obtain ⟨rt,bs,md⟩:=a;simp only[] at *;unfold big at hnb hnj hnd hrl hbl hK;show AW _ _ _ _ _ _ _ (df 0 [D.ag [dS ln,ak lb,aj js,ai lds],D.ag [.sl 1 (rt.map a9),.sl 4 (bs.map dL.D),.sl 1 (md.map (fun n=>dI n))]]);obtain ⟨E,hE⟩: ∃E,(decide (6<lb.length∧lb.length≤8∨8<js.length∧js.length≤16∨40<lb.length∨40<js.length∨40<lds.length∨40<bs.length∨2<rt.length)||dP (E5 lb) (lb.length-0) 0||decide (((16:Int) -4*(rt.length:Int))<((wX bs (qD (fun i=>dO (rt.getD i [])) (qQ lb lb.length) rt.length) bs.length:Nat):Int)))=E:=⟨_,rfl⟩;rw[hE]
 have wB: ∀i,qQ lb i≤4000000000000000:=fun i=>by
  induction i with
  | zero=>exact Nat.zero_le _
  | succ i ih =>
    refine vv ih (fun k=>?_) _;obtain ⟨_,h1,h2⟩:=(hlb i).2.2 k;have a1:=h1.2.2.1;have a2:=h1.2.2.2;have a3:=h2.2.2.1;have a4:=h2.2.2.2;unfold xa;omega
 have wM: ∀i k,qD (fun k=>xa ((lb.getD i default).pts.getD k default)) (qQ lb i) k≤4000000000000000:=fun i k=>vv (wB i) (fun k=>by
   obtain ⟨_,h1,h2⟩:=(hlb i).2.2 k;have a1:=h1.2.2.1;have a2:=h1.2.2.2;have a3:=h2.2.2.1;have a4:=h2.2.2.2;unfold xa
   omega) k
 refine qX 3 rfl ?_;refine aa.nil ?_;refine AW.cut [2,3] (fun _:Unit=>[(2,.bx [dS ln,ak lb,aj js,ai lds]),(3,.bx [.sl 1 (rt.map a9),.sl 4 (bs.map dL.D),.sl 1 (md.map (fun n=>dI n))])]) (fun _=> ¬(6<lb.length∧lb.length≤8∨8<js.length∧js.length≤16∨40<lb.length∨40<js.length∨40<lds.length∨40<bs.length∨2<rt.length)) ?_ (fun _ hc=>?_)
 · refine qX 3 rfl ?_;rw[List.length_map];refine qU 1 rfl ?_;by_cases c1:6<lb.length
   · rw[decide_eq_true (show (6:Int)<(lb.length:Int) by omega)];refine qU 4 rfl ?_;rw[List.length_map];refine qU 1 rfl ?_;by_cases c2:lb.length≤8
     · rw[decide_eq_true (show (lb.length:Int)≤(8:Int) by omega)];refine qU 44 rfl ?_;refine aa.nil ?_;have hEt:E=true:=by rw[← hE,decide_eq_true (by omega)];rfl
       subst hEt;refine AW.aB rfl ?_;refine qX 1 rfl ?_;exact qN rfl
     rw[decide_eq_false (show ¬(lb.length:Int)≤(8:Int) by omega)];refine qU 2 rfl ?_;refine qU 3 rfl ?_;rw[List.length_map];refine qU 1 rfl ?_;by_cases c3:8<js.length
     · rw[decide_eq_true (show (8:Int)<(js.length:Int) by omega)];refine qU 4 rfl ?_;rw[List.length_map];refine qU 1 rfl ?_;by_cases c4:js.length≤16
       · rw[decide_eq_true (show (js.length:Int)≤(16:Int) by omega)];refine qU 33 rfl ?_;refine aa.nil ?_;have hEt:E=true:=by rw[← hE,decide_eq_true (by omega)];rfl
         subst hEt;refine AW.aB rfl ?_;refine qX 1 rfl ?_;exact qN rfl
       rw[decide_eq_false (show ¬(js.length:Int)≤(16:Int) by omega)];refine qU 3 rfl ?_;refine qU 3 rfl ?_;rw[List.length_map];refine qU 1 rfl ?_;by_cases c5:40<lb.length
       · rw[decide_eq_true (show (40:Int)<(lb.length:Int) by omega)];refine qU 26 rfl ?_;refine aa.nil ?_;have hEt:E=true:=by rw[← hE,decide_eq_true (by omega)];rfl
         subst hEt;refine AW.aB rfl ?_;refine qX 1 rfl ?_;exact qN rfl
       rw[decide_eq_false (show ¬(40:Int)<(lb.length:Int) by omega)];refine qU 2 rfl ?_;refine qU 3 rfl ?_;rw[List.length_map];refine qU 1 rfl ?_;by_cases c6:40<js.length
       · rw[decide_eq_true (show (40:Int)<(js.length:Int) by omega)];refine qU 20 rfl ?_;refine aa.nil ?_;have hEt:E=true:=by rw[← hE,decide_eq_true (by omega)];rfl
         subst hEt;refine AW.aB rfl ?_;refine qX 1 rfl ?_;exact qN rfl
       rw[decide_eq_false (show ¬(40:Int)<(js.length:Int) by omega)];refine qU 2 rfl ?_;refine qU 3 rfl ?_;rw[List.length_map];refine qU 1 rfl ?_;by_cases c7:40<lds.length
       · rw[decide_eq_true (show (40:Int)<(lds.length:Int) by omega)];refine qU 14 rfl ?_;refine aa.nil ?_;have hEt:E=true:=by rw[← hE,decide_eq_true (by omega)];rfl
         subst hEt;refine AW.aB rfl ?_;refine qX 1 rfl ?_;exact qN rfl
       rw[decide_eq_false (show ¬(40:Int)<(lds.length:Int) by omega)];refine qU 2 rfl ?_;refine qU 3 rfl ?_;rw[List.length_map];refine qU 1 rfl ?_;by_cases c8:40<bs.length
       · rw[decide_eq_true (show (40:Int)<(bs.length:Int) by omega)];refine qU 8 rfl ?_;refine aa.nil ?_;have hEt:E=true:=by rw[← hE,decide_eq_true (by omega)];rfl
         subst hEt;refine AW.aB rfl ?_;refine qX 1 rfl ?_;exact qN rfl
       rw[decide_eq_false (show ¬(40:Int)<(bs.length:Int) by omega)];refine qU 2 rfl ?_;refine qU 4 rfl ?_;rw[List.length_map];refine qU 1 rfl ?_;by_cases c9:2<rt.length
       · rw[decide_eq_true (show (2:Int)<(rt.length:Int) by omega)];refine qU 1 rfl ?_;refine aa.nil ?_;have hEt:E=true:=by rw[← hE,decide_eq_true (by omega)];rfl
         subst hEt;refine AW.aB rfl ?_;refine qX 1 rfl ?_;exact qN rfl
       rw[decide_eq_false (show ¬(2:Int)<(rt.length:Int) by omega)];refine qU 1 rfl ?_;refine aa.nil ?_;refine AW.ar rfl ?_;refine AW.skip ?_;exact⟨(),rfl,by omega⟩
     rw[decide_eq_false (show ¬(8:Int)<(js.length:Int) by omega)];refine qU 8 rfl ?_;refine qU 3 rfl ?_;rw[List.length_map];refine qU 1 rfl ?_;by_cases c5:40<lb.length
     · rw[decide_eq_true (show (40:Int)<(lb.length:Int) by omega)];refine qU 26 rfl ?_;refine aa.nil ?_;have hEt:E=true:=by rw[← hE,decide_eq_true (by omega)];rfl
       subst hEt;refine AW.aB rfl ?_;refine qX 1 rfl ?_;exact qN rfl
     rw[decide_eq_false (show ¬(40:Int)<(lb.length:Int) by omega)];refine qU 2 rfl ?_;refine qU 3 rfl ?_;rw[List.length_map];refine qU 1 rfl ?_;by_cases c6:40<js.length
     · rw[decide_eq_true (show (40:Int)<(js.length:Int) by omega)];refine qU 20 rfl ?_;refine aa.nil ?_;have hEt:E=true:=by rw[← hE,decide_eq_true (by omega)];rfl
       subst hEt;refine AW.aB rfl ?_;refine qX 1 rfl ?_;exact qN rfl
     rw[decide_eq_false (show ¬(40:Int)<(js.length:Int) by omega)];refine qU 2 rfl ?_;refine qU 3 rfl ?_;rw[List.length_map];refine qU 1 rfl ?_;by_cases c7:40<lds.length
     · rw[decide_eq_true (show (40:Int)<(lds.length:Int) by omega)];refine qU 14 rfl ?_;refine aa.nil ?_;have hEt:E=true:=by rw[← hE,decide_eq_true (by omega)];rfl
       subst hEt;refine AW.aB rfl ?_;refine qX 1 rfl ?_;exact qN rfl
     rw[decide_eq_false (show ¬(40:Int)<(lds.length:Int) by omega)];refine qU 2 rfl ?_;refine qU 3 rfl ?_;rw[List.length_map];refine qU 1 rfl ?_;by_cases c8:40<bs.length
     · rw[decide_eq_true (show (40:Int)<(bs.length:Int) by omega)];refine qU 8 rfl ?_;refine aa.nil ?_;have hEt:E=true:=by rw[← hE,decide_eq_true (by omega)];rfl
       subst hEt;refine AW.aB rfl ?_;refine qX 1 rfl ?_;exact qN rfl
     rw[decide_eq_false (show ¬(40:Int)<(bs.length:Int) by omega)];refine qU 2 rfl ?_;refine qU 4 rfl ?_;rw[List.length_map];refine qU 1 rfl ?_;by_cases c9:2<rt.length
     · rw[decide_eq_true (show (2:Int)<(rt.length:Int) by omega)];refine qU 1 rfl ?_;refine aa.nil ?_;have hEt:E=true:=by rw[← hE,decide_eq_true (by omega)];rfl
       subst hEt;refine AW.aB rfl ?_;refine qX 1 rfl ?_;exact qN rfl
     rw[decide_eq_false (show ¬(2:Int)<(rt.length:Int) by omega)];refine qU 1 rfl ?_;refine aa.nil ?_;refine AW.ar rfl ?_;refine AW.skip ?_;exact⟨(),rfl,by omega⟩
   rw[decide_eq_false (show ¬(6:Int)<(lb.length:Int) by omega)];refine qU 7 rfl ?_;refine qU 3 rfl ?_;rw[List.length_map];refine qU 1 rfl ?_;by_cases c3:8<js.length
   · rw[decide_eq_true (show (8:Int)<(js.length:Int) by omega)];refine qU 4 rfl ?_;rw[List.length_map];refine qU 1 rfl ?_;by_cases c4:js.length≤16
     · rw[decide_eq_true (show (js.length:Int)≤(16:Int) by omega)];refine qU 33 rfl ?_;refine aa.nil ?_;have hEt:E=true:=by rw[← hE,decide_eq_true (by omega)];rfl
       subst hEt;refine AW.aB rfl ?_;refine qX 1 rfl ?_;exact qN rfl
     rw[decide_eq_false (show ¬(js.length:Int)≤(16:Int) by omega)];refine qU 3 rfl ?_;refine qU 3 rfl ?_;rw[List.length_map];refine qU 1 rfl ?_;by_cases c5:40<lb.length
     · rw[decide_eq_true (show (40:Int)<(lb.length:Int) by omega)];refine qU 26 rfl ?_;refine aa.nil ?_;have hEt:E=true:=by rw[← hE,decide_eq_true (by omega)];rfl
       subst hEt;refine AW.aB rfl ?_;refine qX 1 rfl ?_;exact qN rfl
     rw[decide_eq_false (show ¬(40:Int)<(lb.length:Int) by omega)];refine qU 2 rfl ?_;refine qU 3 rfl ?_;rw[List.length_map];refine qU 1 rfl ?_;by_cases c6:40<js.length
     · rw[decide_eq_true (show (40:Int)<(js.length:Int) by omega)];refine qU 20 rfl ?_;refine aa.nil ?_;have hEt:E=true:=by rw[← hE,decide_eq_true (by omega)];rfl
       subst hEt;refine AW.aB rfl ?_;refine qX 1 rfl ?_;exact qN rfl
     rw[decide_eq_false (show ¬(40:Int)<(js.length:Int) by omega)];refine qU 2 rfl ?_;refine qU 3 rfl ?_;rw[List.length_map];refine qU 1 rfl ?_;by_cases c7:40<lds.length
     · rw[decide_eq_true (show (40:Int)<(lds.length:Int) by omega)];refine qU 14 rfl ?_;refine aa.nil ?_;have hEt:E=true:=by rw[← hE,decide_eq_true (by omega)];rfl
       subst hEt;refine AW.aB rfl ?_;refine qX 1 rfl ?_;exact qN rfl
     rw[decide_eq_false (show ¬(40:Int)<(lds.length:Int) by omega)];refine qU 2 rfl ?_;refine qU 3 rfl ?_;rw[List.length_map];refine qU 1 rfl ?_;by_cases c8:40<bs.length
     · rw[decide_eq_true (show (40:Int)<(bs.length:Int) by omega)];refine qU 8 rfl ?_;refine aa.nil ?_;have hEt:E=true:=by rw[← hE,decide_eq_true (by omega)];rfl
       subst hEt;refine AW.aB rfl ?_;refine qX 1 rfl ?_;exact qN rfl
     rw[decide_eq_false (show ¬(40:Int)<(bs.length:Int) by omega)];refine qU 2 rfl ?_;refine qU 4 rfl ?_;rw[List.length_map];refine qU 1 rfl ?_;by_cases c9:2<rt.length
     · rw[decide_eq_true (show (2:Int)<(rt.length:Int) by omega)];refine qU 1 rfl ?_;refine aa.nil ?_;have hEt:E=true:=by rw[← hE,decide_eq_true (by omega)];rfl
       subst hEt;refine AW.aB rfl ?_;refine qX 1 rfl ?_;exact qN rfl
     rw[decide_eq_false (show ¬(2:Int)<(rt.length:Int) by omega)];refine qU 1 rfl ?_;refine aa.nil ?_;refine AW.ar rfl ?_;refine AW.skip ?_;exact⟨(),rfl,by omega⟩
   rw[decide_eq_false (show ¬(8:Int)<(js.length:Int) by omega)];refine qU 8 rfl ?_;refine qU 3 rfl ?_;rw[List.length_map];refine qU 1 rfl ?_;by_cases c5:40<lb.length
   · rw[decide_eq_true (show (40:Int)<(lb.length:Int) by omega)];refine qU 26 rfl ?_;refine aa.nil ?_;have hEt:E=true:=by rw[← hE,decide_eq_true (by omega)];rfl
     subst hEt;refine AW.aB rfl ?_;refine qX 1 rfl ?_;exact qN rfl
   rw[decide_eq_false (show ¬(40:Int)<(lb.length:Int) by omega)];refine qU 2 rfl ?_;refine qU 3 rfl ?_;rw[List.length_map];refine qU 1 rfl ?_;by_cases c6:40<js.length
   · rw[decide_eq_true (show (40:Int)<(js.length:Int) by omega)];refine qU 20 rfl ?_;refine aa.nil ?_;have hEt:E=true:=by rw[← hE,decide_eq_true (by omega)];rfl
     subst hEt;refine AW.aB rfl ?_;refine qX 1 rfl ?_;exact qN rfl
   rw[decide_eq_false (show ¬(40:Int)<(js.length:Int) by omega)];refine qU 2 rfl ?_;refine qU 3 rfl ?_;rw[List.length_map];refine qU 1 rfl ?_;by_cases c7:40<lds.length
   · rw[decide_eq_true (show (40:Int)<(lds.length:Int) by omega)];refine qU 14 rfl ?_;refine aa.nil ?_;have hEt:E=true:=by rw[← hE,decide_eq_true (by omega)];rfl
     subst hEt;refine AW.aB rfl ?_;refine qX 1 rfl ?_;exact qN rfl
   rw[decide_eq_false (show ¬(40:Int)<(lds.length:Int) by omega)];refine qU 2 rfl ?_;refine qU 3 rfl ?_;rw[List.length_map];refine qU 1 rfl ?_;by_cases c8:40<bs.length
   · rw[decide_eq_true (show (40:Int)<(bs.length:Int) by omega)];refine qU 8 rfl ?_;refine aa.nil ?_;have hEt:E=true:=by rw[← hE,decide_eq_true (by omega)];rfl
     subst hEt;refine AW.aB rfl ?_;refine qX 1 rfl ?_;exact qN rfl
   rw[decide_eq_false (show ¬(40:Int)<(bs.length:Int) by omega)];refine qU 2 rfl ?_;refine qU 4 rfl ?_;rw[List.length_map];refine qU 1 rfl ?_;by_cases c9:2<rt.length
   · rw[decide_eq_true (show (2:Int)<(rt.length:Int) by omega)];refine qU 1 rfl ?_;refine aa.nil ?_;have hEt:E=true:=by rw[← hE,decide_eq_true (by omega)];rfl
     subst hEt;refine AW.aB rfl ?_;refine qX 1 rfl ?_;exact qN rfl
   rw[decide_eq_false (show ¬(2:Int)<(rt.length:Int) by omega)];refine qU 1 rfl ?_;refine aa.nil ?_;refine AW.ar rfl ?_;refine AW.skip ?_;exact⟨(),rfl,by omega⟩
 · rw[decide_eq_false hc,Bool.false_or] at hE;obtain ⟨G,hG⟩: ∃G,dP (E5 lb) (lb.length-0) 0=G:=⟨_,rfl⟩;rw[hG] at hE;show AW _ _ _ _ _ _ _ [(2,.bx [dS ln,ak lb,aj js,ai lds]),(3,.bx [.sl 1 (rt.map a9),.sl 4 (bs.map dL.D),.sl 1 (md.map (fun n=>dI n))])];refine qX 1 rfl ?_;refine qI ?_;refine qX 1 rfl ?_;refine aa.nil ?_;refine AW.block ?_;refine AW.aD [2,3,5,6] (fun i:Nat=>[(2,.bx [dS ln,ak lb,aj js,ai lds]),(3,.bx [.sl 1 (rt.map a9),.sl 4 (bs.map dL.D),.sl 1 (md.map (fun n=>dI n))]),(5,.d (dI (qQ lb i))),(6,.d (dI i))]) (fun i=>i≤lb.length∧dP (E5 lb) (lb.length-i) i=G) (fun i=>lb.length-i) 0 rfl ⟨Nat.zero_le _,hG⟩ (fun i ⟨hi,hiG⟩=>?_)
   · show AW _ _ _ _ _ _ _ [(2,.bx [dS ln,ak lb,aj js,ai lds]),(3,.bx [.sl 1 (rt.map a9),.sl 4 (bs.map dL.D),.sl 1 (md.map (fun n=>dI n))]),(5,.d (dI (qQ lb i))),(6,.d (dI i))];refine AW.seq ?_;refine qX 4 rfl ?_;rw[List.length_map];refine qU 1 rfl ?_;refine aa.nil ?_;refine AW.cond rfl (fun h=>?_) (fun h=>?_)
     · have hin:i<lb.length:=by have:=of_decide_eq_true h;omega
       have gB:=getM Body.D hin;have hpl:=(hlb i).2.1;have hmk:=fun k=>(hlb i).2.2 k;have wMi:=wM i;have hhit:=fun h0:E5 lb i=true=>(en hin h0).symm.trans hiG;have hmiss:=fun h0:E5 lb i=false=>(dk hin h0).symm.trans hiG;have hpb:E5 lb i=decide (40<(lb.getD i default).pts.length):=rfl;have hnx:qQ lb (i+1)=qD (fun k=>xa ((lb.getD i default).pts.getD k default)) (qQ lb i) (lb.getD i default).pts.length:=rfl;generalize lb.getD i default=Bd at *;unfold big at hpl;refine AW.skip (AW.seq (AW.block (AW.seq ?_)));refine qX 3 rfl ?_;refine aa.idx tok Bd.D rfl rfl rfl rfl (Int.natCast_nonneg i) gB ?_;refine qU 3 rfl ?_;rw[List.length_map];refine qU 1 rfl ?_;refine aa.nil ?_;refine AW.cond rfl (fun h=>?_) (fun h=>?_)
       · have h40:40<Bd.pts.length:=by have:=of_decide_eq_true h;omega
         rw[decide_eq_true h40] at hpb;have:=hhit hpb;subst this;have hEt:E=true:=by rw[← hE];rfl
         subst hEt;refine qX 1 rfl ?_;exact qN rfl
       · have h40: ¬40<Bd.pts.length:=by have:=of_decide_eq_false h;omega
         rw[decide_eq_false h40] at hpb;refine AW.skip ?_;refine qX 1 rfl ?_;refine aa.nil ?_;refine AW.block ?_;refine AW.aD [2,3,5,6,7] (fun k:Nat=>[(2,.bx [dS ln,ak lb,aj js,ai lds]),(3,.bx [.sl 1 (rt.map a9),.sl 4 (bs.map dL.D),.sl 1 (md.map (fun n=>dI n))]),(5,.d (dI (qD (fun k=>xa (Bd.pts.getD k default)) (qQ lb i) k))),(6,.d (dI i)),(7,.d (dI k))]) (fun k=>k≤Bd.pts.length) (fun k=>Bd.pts.length-k) 0 rfl (Nat.zero_le _) (fun k hk=>?_)
         · show AW _ _ _ _ _ _ _ [(2,.bx [dS ln,ak lb,aj js,ai lds]),(3,.bx [.sl 1 (rt.map a9),.sl 4 (bs.map dL.D),.sl 1 (md.map (fun n=>dI n))]),(5,.d (dI (qD (fun k=>xa (Bd.pts.getD k default)) (qQ lb i) k))),(6,.d (dI i)),(7,.d (dI k))];refine AW.seq ?_;refine qX 4 rfl ?_;refine aa.idx tok Bd.D rfl rfl rfl rfl (Int.natCast_nonneg i) gB ?_;refine qU 3 rfl ?_;rw[List.length_map];refine qU 1 rfl ?_;refine aa.nil ?_;refine AW.cond rfl (fun h=>?_) (fun h=>?_)
           · have hkn:k<Bd.pts.length:=by have:=of_decide_eq_true h;omega
             have gM:=getM Mark.D hkn;have hmk:=hmk k;have wMi:=wMi k;have hms:qD (fun k=>xa (Bd.pts.getD k default)) (qQ lb i) (k+1)=max (qD (fun k=>xa (Bd.pts.getD k default)) (qQ lb i) k) (xa (Bd.pts.getD k default)):=rfl;generalize qD (fun k=>xa (Bd.pts.getD k default)) (qQ lb i) k=n at *;generalize Bd.pts.getD k default=p at gM hms hmk;obtain ⟨pn,⟨xg,xn,xd⟩,⟨yg,yn,yd⟩⟩:=p;obtain ⟨_,h1,h2⟩:=hmk;have a1:xn.length≤K:=h1.2.2.1;have a2:xd.length≤K:=h1.2.2.2;have a3:yn.length≤K:=h2.2.2.1;have a4:yd.length≤K:=h2.2.2.2;have hmw:xa ⟨pn,⟨xg,xn,xd⟩,⟨yg,yn,yd⟩⟩=xn.length+xd.length+yn.length+yd.length:=rfl;rw[hmw] at hms;refine AW.skip (AW.seq (AW.block ?_));refine qX 3 rfl ?_;refine aa.idx tok Bd.D rfl rfl rfl rfl (Int.natCast_nonneg i) gB ?_;refine qU 3 rfl ?_;refine aa.idx tok (Mark.D ⟨pn,⟨xg,xn,xd⟩,⟨yg,yn,yd⟩⟩) rfl rfl rfl rfl (Int.natCast_nonneg k) gM ?_;refine qU 3 rfl ?_;refine aa.nil ?_;refine qT 5 rfl ?_;rw[aR];refine qU 4 rfl ?_;rw[aR];refine qU 1 rfl ?_;rw[au (x:=(xn.length:Int)+(xd.length:Int)) (by omega) (by omega)];refine qU 4 rfl ?_;rw[aR];refine qU 1 rfl ?_;rw[au (x:=(xn.length:Int)+(xd.length:Int)+(yn.length:Int)) (by omega) (by omega)];refine qU 4 rfl ?_;rw[aR];refine qU 1 rfl ?_;rw[au (x:=(xn.length:Int)+(xd.length:Int)+(yn.length:Int)+(yd.length:Int)) (by omega) (by omega),show (xn.length:Int)+(xd.length:Int)+(yn.length:Int)+(yd.length:Int)=((xn.length+xd.length+yn.length+yd.length:Nat):Int) by omega];refine qU 1 rfl ?_;rw[uf,← hms];refine qU 1 rfl ?_;refine aa.nil ?_;refine qT 2 rfl ?_;rw[au (x:=(k:Int)+1) (by omega) (by omega)];refine qU 1 rfl ?_;refine aa.nil ?_;exact⟨k+1,rfl,hkn,by omega⟩
           have hkn:k=Bd.pts.length:=by have:=of_decide_eq_false h;omega
           subst hkn;rw[← hnx];refine AW.exit ?_;refine qT 2 rfl ?_;rw[au (x:=(i:Int)+1) (by omega) (by omega)];refine qU 1 rfl ?_;refine aa.nil ?_;exact⟨i+1,rfl,⟨hin,hmiss hpb⟩,by omega⟩
     have hin:i=lb.length:=by have:=of_decide_eq_false h;omega
     subst hin;rw[ep (Nat.lt_irrefl _)] at hiG;subst hiG;rw[Bool.false_or] at hE;have wB:=wB lb.length;generalize qQ lb lb.length=N1 at *;have wR:=fun k=>vv (f:=fun i=>dO (rt.getD i [])) wB (fun i=>yr i) k;refine AW.exit (AW.seq ?_);refine qX 1 rfl ?_;refine aa.nil ?_;refine AW.block ?_;refine AW.aD [2,3,5,9] (fun i:Nat=>[(2,.bx [dS ln,ak lb,aj js,ai lds]),(3,.bx [.sl 1 (rt.map a9),.sl 4 (bs.map dL.D),.sl 1 (md.map (fun n=>dI n))]),(5,.d (dI (qD (fun i=>dO (rt.getD i [])) N1 i))),(9,.d (dI i))]) (fun i=>i≤rt.length) (fun i=>rt.length-i) 0 rfl (Nat.zero_le _) (fun i hi=>?_)
     · show AW _ _ _ _ _ _ _ [(2,.bx [dS ln,ak lb,aj js,ai lds]),(3,.bx [.sl 1 (rt.map a9),.sl 4 (bs.map dL.D),.sl 1 (md.map (fun n=>dI n))]),(5,.d (dI (qD (fun i=>dO (rt.getD i [])) N1 i))),(9,.d (dI i))];refine AW.seq ?_;refine qX 5 rfl ?_;rw[List.length_map];refine qU 1 rfl ?_;refine aa.nil ?_;refine AW.cond rfl (fun h=>?_) (fun h=>?_)
       · have hin:i<rt.length:=by have:=of_decide_eq_true h;omega
         have gR:=getM a9 hin;have zri:=zr i;have hms:qD (fun i=>dO (rt.getD i [])) N1 (i+1)=max (qD (fun i=>dO (rt.getD i [])) N1 i) (dO (rt.getD i [])):=rfl;refine AW.skip (AW.seq (AW.block ?_));refine qT 5 rfl ?_;refine aa.idx tok (a9 (rt.getD i [])) rfl rfl rfl rfl (Int.natCast_nonneg i) gR ?_;refine qU 1 rfl ?_;refine aa.call tok rfl rfl rfl rfl zri ?_;refine qU 1 rfl ?_;rw[uf,← hms];refine qU 1 rfl ?_;refine aa.nil ?_;refine qT 2 rfl ?_;rw[au (x:=(i:Int)+1) (by omega) (by omega)];refine qU 1 rfl ?_;refine aa.nil ?_;exact⟨i+1,rfl,hin,by omega⟩
       have hin:i=rt.length:=by have:=of_decide_eq_false h;omega
       subst hin;have wR:=wR rt.length;generalize qD (fun i=>dO (rt.getD i [])) N1 rt.length=N2 at *
       have wP: ∀i,wX bs N2 i≤4000000000000000:=fun i=>by
        induction i with
        | zero=>exact wR
        | succ i ih =>
          have h1:=yc i;have h2:=ys i;have h3:=yx i;have h4:=yy i;show max (max (max (max (wX bs N2 i) _) _) _) _≤_;omega
       refine AW.exit (AW.seq ?_);refine qX 1 rfl ?_;refine aa.nil ?_;refine AW.block ?_;refine AW.aD [2,3,5,10] (fun i:Nat=>[(2,.bx [dS ln,ak lb,aj js,ai lds]),(3,.bx [.sl 1 (rt.map a9),.sl 4 (bs.map dL.D),.sl 1 (md.map (fun n=>dI n))]),(5,.d (dI (wX bs N2 i))),(10,.d (dI i))]) (fun i=>i≤bs.length) (fun i=>bs.length-i) 0 rfl (Nat.zero_le _) (fun i hi=>?_)
       · show AW _ _ _ _ _ _ _ [(2,.bx [dS ln,ak lb,aj js,ai lds]),(3,.bx [.sl 1 (rt.map a9),.sl 4 (bs.map dL.D),.sl 1 (md.map (fun n=>dI n))]),(5,.d (dI (wX bs N2 i))),(10,.d (dI i))];refine AW.seq ?_;refine qX 4 rfl ?_;rw[List.length_map];refine qU 1 rfl ?_;refine aa.nil ?_;refine AW.cond rfl (fun h=>?_) (fun h=>?_)
         · have hin:i<bs.length:=by have:=of_decide_eq_true h;omega
           have gP:=getM dL.D hin;have zc:=zc i;have zs:=zs i;have zx:=zx i;have zy:=zy i;have hms:wX bs N2 (i+1)=max (max (max (max (wX bs N2 i) (dO (bs.getD i default).c)) (dO (bs.getD i default).s)) (dO (bs.getD i default).x)) (dO (bs.getD i default).y):=rfl;generalize bs.getD i default=p at *;obtain ⟨pc,ps,px,py⟩:=p;simp only[] at zc zs zx zy hms;refine AW.skip (AW.seq (AW.block ?_));refine qX 3 rfl ?_;refine aa.idx tok (dL.D ⟨pc,ps,px,py⟩) rfl rfl rfl rfl (Int.natCast_nonneg i) gP ?_;refine qU 3 rfl ?_;refine aa.nil ?_;refine AW.draw aI 14 (by kernel_rfl) ?_;refine qP 3 rfl ?_;refine af.call tok rfl rfl rfl rfl rfl zc ?_;refine qP 2 rfl ?_;refine af.call tok rfl rfl rfl rfl rfl zs ?_;refine qP 2 rfl ?_;refine af.call tok rfl rfl rfl rfl rfl zx ?_;refine qP 2 rfl ?_;refine af.call tok rfl rfl rfl rfl rfl zy ?_;refine qP 1 rfl ?_;rw[uf,uf,uf,uf,← hms];refine af.nil ?_;refine qU 1 rfl ?_;refine aa.nil ?_;refine qT 2 rfl ?_;rw[au (x:=(i:Int)+1) (by omega) (by omega)];refine qU 1 rfl ?_;refine aa.nil ?_;exact⟨i+1,rfl,hin,by omega⟩
         have hin:i=bs.length:=by have:=of_decide_eq_false h;omega
         subst hin;refine AW.exit ?_;refine qX 5 rfl ?_;rw[List.length_map];refine qU 1 rfl ?_;rw[au (x:=4*(rt.length:Int)) (by omega) (by omega)];refine qU 1 rfl ?_;rw[au (x:=16-4*(rt.length:Int)) (by omega) (by omega)];refine qU 1 rfl ?_;rw[hE];refine qU 1 rfl ?_;exact qN rfl
end Lift
namespace Lift
open Go Go.Proofs
theorem v8:RT Tryz.prog 52 (List RD) (fun l=>[a9 l]) (fun l=>qS l) :=
 (RT.sliceB 32 (el:=RD.D) (s:=3) Tryz.underlying52 (by kernel_rfl) (by kernel_rfl) (by decide) (Nat.le_of_ble_eq_true (by kernel_rfl)) A5 (fun v=>rfl)).map id (fun l h=>rfl) (fun l h=>⟨by have:=h.1;unfold reachBytes at this;show l.length≤_;omega,jz (fun v hv=>(h.2 v hv).mono (by decide)) ⟨fun _ h=>(by cases h),fun _ h=>(by cases h),Nat.zero_le _,Nat.zero_le _⟩⟩) (fun v=>⟨by kernel_rfl,fun d hd=>by simp at hd;subst hd;rfl⟩)
theorem EN:RT Tryz.prog 27 (List (List RD)) (fun l=>[.sl 1 (l.map a9)]) (fun l=>l.length≤reachBytes∧ ∀v∈l,qS v) :=
 RT.slice (el:=a9) (s:=1) (by kernel_rfl) (by kernel_rfl) (by kernel_rfl) (by decide) (Nat.le_of_ble_eq_true (by kernel_rfl)) v8 (fun v=>rfl)
theorem Dh:RT Tryz.prog 29 (List (List RD)) (fun l=>[.sl 1 (l.map a9)]) (fun l=>l.length≤reachBytes∧ ∀v∈l,qS v):=by
 have h:=RT.struct (P:=Tryz.prog) (t:=29) (m:=1) Tryz.underlying29 (by kernel_rfl) (jC.cons (by kernel_rfl) EN jC.nil) (fun v=>rfl);exact h.map (fun v=>v.1) (fun v h=>rfl) (fun v h=>h.1) (fun v=>⟨by kernel_rfl,fun d hd=>by simp at hd;subst hd;rfl⟩)
def dL.nb(p:dL):Prop:=qS p.c∧qS p.s∧qS p.x∧qS p.y
theorem A6:RT Tryz.prog 73 dL (fun p=>p.D.flat) (fun p=>p.nb):=by
 have h:=RT.struct (P:=Tryz.prog) (t:=73) (m:=4) Tryz.underlying73 (by kernel_rfl) (jC.cons (by kernel_rfl) v8 (jC.cons (by kernel_rfl) v8 (jC.cons (by kernel_rfl) v8 (jC.cons (by kernel_rfl) v8 jC.nil)))) (fun v=>rfl)
 exact h.map (fun v=>⟨v.1,v.2.1,v.2.2.1,v.2.2.2.1⟩) (fun v h=>rfl) (fun v h=>⟨h.1,h.2.1,h.2.2.1,h.2.2.2.1⟩) (fun v=>⟨by kernel_rfl,fun d hd=>by
  simp only[D.flat,List.mem_cons,List.mem_nil_iff,or_false] at hd
  rcases hd with rfl | rfl | rfl | rfl<;>rfl⟩)
theorem Ak:RT Tryz.prog 30 (List dL) (fun l=>[.sl 4 (l.map dL.D)]) (fun l=>l.length≤reachBytes∧ ∀v∈l,v.nb) :=
 RT.slice (el:=dL.D) (s:=4) (by kernel_rfl) (by kernel_rfl) (by kernel_rfl) (by decide) (Nat.le_of_ble_eq_true (by kernel_rfl)) A6 (fun v=>rfl)
theorem Dk:RT Tryz.prog 31 (List Int) (fun l=>[.sl 1 (l.map (fun n=>dI n))]) (fun _=>True) :=
 (RT.slice (el:=fun n:Int=>dI n) (s:=1) (by kernel_rfl) (by kernel_rfl) (by kernel_rfl) (by decide) (Nat.le_of_ble_eq_true (by kernel_rfl)) pG (fun v=>rfl)).map id (fun l h=>rfl) (fun l h=>trivial) (fun v=>⟨by kernel_rfl,fun d hd=>by simp at hd;subst hd;rfl⟩)
theorem qS.nil:qS []:=⟨Nat.zero_le _,fun i=>⟨fun _ h=>(by cases h),fun _ h=>(by cases h),Nat.zero_le _,Nat.zero_le _⟩⟩
theorem u_assembly:RT Tryz.prog 33 Asm (fun a=>a.D.flat) (fun a=>AsB a):=by
 have h:=RT.struct (P:=Tryz.prog) (t:=33) (m:=3) Tryz.underlying33 (by kernel_rfl) (jC.cons (by kernel_rfl) Dh (jC.cons (by kernel_rfl) Ak (jC.cons (by kernel_rfl) Dk jC.nil))) (fun v=>rfl)
 refine h.map (fun v=>⟨v.1,v.2.1,v.2.2.1⟩) (fun v h=>rfl) (fun v h=>?_) (fun v=>⟨by kernel_rfl,fun d hd=>by
  simp only[D.flat,List.mem_cons,List.mem_nil_iff,or_false] at hd
  rcases hd with rfl | rfl | rfl<;>rfl⟩)
 have hp:=fun i=>jz h.2.1.2 ⟨qS.nil,qS.nil,qS.nil,qS.nil⟩ i;refine⟨Nat.le_trans h.1.1 (by decide),fun i=>?_,Nat.le_trans h.2.1.1 (by decide),fun i=>(hp i).1,fun i=>(hp i).2.1,fun i=>(hp i).2.2.1,fun i=>(hp i).2.2.2⟩;exact jz (p:=qS) (l:=v.1) h.1.2 qS.nil i
end Lift
namespace Lift
def oI:List RD→Nat
 | []=>0
 | x::r=>x.n.length+x.d.length+oI r
theorem zp: ∀{r:List RD} {n:Nat},AT r n<100→AT r n=n+oI r
 | [],n,_=>rfl
 | x::r,n,h=>by
   by_cases hn:n<100
   · have e:AT (x::r) n=AT r (n+(x.n.length+x.d.length)):=if_pos hn;rw[e] at h ⊢;rw[zp h];show _=n+(x.n.length+x.d.length+oI r);omega
   · have e:AT (x::r) n=n:=if_neg hn;rw[e] at h;exact absurd h hn
theorem zm: ∀(r:List RD) (i:Nat),(r.getD i default).n.length+(r.getD i default).d.length≤oI r
 | [],i=>Nat.le_refl _
 | x::r,0=>by show x.n.length+x.d.length≤x.n.length+x.d.length+oI r;omega
 | x::r,i+1=>by
   have:=zm r i;show (r.getD i default).n.length+(r.getD i default).d.length≤x.n.length+x.d.length+oI r;omega
theorem lx{r:List RD}(h:dO r<100):dO r=oI r:=by
 have:=zp (r:=r) (n:=0) h;unfold dO;omega
theorem yA(f:Nat→Nat)(n:Nat): ∀k,n≤qD f n k
 | 0=>Nat.le_refl _
 | k+1=>Nat.le_trans (yA f n k) (Nat.le_max_left _ _)
theorem yw(f:Nat→Nat)(n:Nat): ∀{k j:Nat},j<k→f j≤qD f n k
 | k+1,j,h=>by
   show f j≤max (qD f n k) (f k);by_cases e:j=k
   · rw[e];exact Nat.le_max_right _ _
   · exact Nat.le_trans (yw f n (show j<k by omega)) (Nat.le_max_left _ _)
theorem xH(bs:List Body): ∀{i j:Nat},i≤j→qQ bs i≤qQ bs j
 | i,0,h=>by rw[show i=0 by omega];exact Nat.le_refl _
 | i,j+1,h=>by
   by_cases e:i=j+1
   · rw[e];exact Nat.le_refl _
   · exact Nat.le_trans (xH bs (show i≤j by omega)) (yA _ _ _)
theorem Fz(bs:List Body){i k:Nat}(hi:i<bs.length)(hk:k<(bs.getD i default).pts.length):xa ((bs.getD i default).pts.getD k default)≤qQ bs bs.length :=
 Nat.le_trans (yw (fun k=>xa ((bs.getD i default).pts.getD k default)) (qQ bs i) hk) (xH bs (show i+1≤bs.length by omega))
theorem yq(bs:List dL)(n:Nat): ∀k,n≤wX bs n k
 | 0=>Nat.le_refl _
 | k+1=>by
   have:=yq bs n k;show n≤max (max (max (max (wX bs n k) _) _) _) _;omega
theorem BP(bs:List dL)(n:Nat): ∀{k j:Nat},j<k→dO (bs.getD j default).c≤wX bs n k∧dO (bs.getD j default).s≤wX bs n k∧dO (bs.getD j default).x≤wX bs n k∧dO (bs.getD j default).y≤wX bs n k
 | k+1,j,h=>by
   have e1:wX bs n (k+1)=max (max (max (max (wX bs n k) (dO (bs.getD k default).c)) (dO (bs.getD k default).s)) (dO (bs.getD k default).x)) (dO (bs.getD k default).y):=rfl;by_cases e:j=k
   · subst e;rw[e1];omega
   · obtain ⟨h1,h2,h3,h4⟩:=BP bs n (show j<k by omega);rw[e1];omega
structure C0 (l:Lkg) (a:Asm):Prop where
 r2:a.rt.length≤2
 nb:l.bodies.length≤40
 nb6:l.bodies.length≤6∨8<l.bodies.length
 nj8:l.joints.length≤8∨16<l.joints.length
 nj:l.joints.length≤40
 ab:a.bodies.length≤40
 n:FP l a+4*a.rt.length≤16
theorem Br{l:Lkg}{a:Asm}(h:sj l a=false):C0 l a:=by
 unfold sj at h;rw[Bool.or_eq_false_iff,Bool.or_eq_false_iff] at h;obtain ⟨⟨h1,_⟩,h3⟩:=h;have h1: ¬_:=of_decide_eq_false h1;have h3:=of_decide_eq_false h3;refine⟨by omega,by omega,by omega,by omega,by omega,by omega,by omega⟩
theorem C0.pt{l:Lkg}{a:Asm}(S:C0 l a){i k:Nat}(hi:i<l.bodies.length)(hk:k<(l.bodies.getD i default).pts.length):xa ((l.bodies.getD i default).pts.getD k default)+4*a.rt.length≤16:=by
 have h1:=Fz l.bodies hi hk;have h2:=yA (fun i=>dO (a.rt.getD i [])) (qQ l.bodies l.bodies.length) a.rt.length;have h3:=yq a.bodies (qD (fun i=>dO (a.rt.getD i [])) (qQ l.bodies l.bodies.length) a.rt.length) a.bodies.length;have h4:=S.n;unfold FP at h4;omega
theorem C0.root{l:Lkg}{a:Asm}(S:C0 l a){i:Nat}(hi:i<a.rt.length):oI (a.rt.getD i [])+4*a.rt.length≤16:=by
 have h2:=yw (fun i=>dO (a.rt.getD i [])) (qQ l.bodies l.bodies.length) hi;have h3:=yq a.bodies (qD (fun i=>dO (a.rt.getD i [])) (qQ l.bodies l.bodies.length) a.rt.length) a.bodies.length;have h4:=S.n;unfold FP at h4;have h5:dO (a.rt.getD i [])+4*a.rt.length≤16:=by omega
 rw[lx (by omega)] at h5;exact h5
theorem C0.pl{l:Lkg}{a:Asm}(S:C0 l a){i:Nat}(hi:i<a.bodies.length):oI (a.bodies.getD i default).c+4*a.rt.length≤16∧oI (a.bodies.getD i default).s+4*a.rt.length≤16∧oI (a.bodies.getD i default).x+4*a.rt.length≤16∧oI (a.bodies.getD i default).y+4*a.rt.length≤16:=by
 obtain ⟨h1,h2,h3,h4⟩:=BP a.bodies (qD (fun i=>dO (a.rt.getD i [])) (qQ l.bodies l.bodies.length) a.rt.length) hi;have h5:=S.n;unfold FP at h5;rw[← lx (r:=(a.bodies.getD i default).c) (by omega),← lx (r:=(a.bodies.getD i default).s) (by omega),← lx (r:=(a.bodies.getD i default).x) (by omega),← lx (r:=(a.bodies.getD i default).y) (by omega)];omega
theorem v5{a:List RD}{k:Nat}(ha:qS a)(h:oI a≤k):wN k a:=fun i _=>by
 have h1:=zm a i;obtain ⟨w1,w2,_,_⟩:=ha.2 i;exact⟨w1,w2,by omega,by omega⟩
theorem C0.lok{l:Lkg}{a:Asm}{K:Nat}(S:C0 l a)(hl:l.ok K):l.ok 16:=by
 refine⟨hl.nm,hl.nb,hl.nj,hl.nd,fun i=>⟨(hl.b i).1,(hl.b i).2.1,fun k=>?_⟩,hl.j,hl.d⟩;obtain ⟨h1,h2,h3⟩:=(hl.b i).2.2 k;refine⟨h1,?_⟩
 have hw:xa ((l.bodies.getD i default).pts.getD k default)≤16:=by
  by_cases hi:i<l.bodies.length
  · by_cases hk:k<(l.bodies.getD i default).pts.length
    · have:=S.pt hi hk;omega
    · rw[List.getD_eq_getElem?_getD,List.getElem?_eq_none (by omega)];exact Nat.zero_le _
  · rw[show l.bodies.getD i default=default by rw[List.getD_eq_getElem?_getD,List.getElem?_eq_none (by omega)];rfl];exact Nat.zero_le _
 unfold xa at hw;exact⟨⟨h2.1,h2.2.1,by omega,by omega⟩,⟨h3.1,h3.2.1,by omega,by omega⟩⟩
theorem C0.aok{l:Lkg}{a:Asm}(S:C0 l a)(ha:AsB a):a.ok 16:=by
 have hr:=S.r2;refine⟨⟨⟨16,by decide,Nat.le_refl _,fun i hi _=>v5 (ha.r i) (by have:=S.root hi;omega),fun _=>DG hr (by decide)⟩,by decide,by omega,fun i _=>(ha.r i).1⟩,fun i hi=>?_,by have:=S.ab;omega⟩;obtain ⟨h1,h2,h3,h4⟩:=S.pl hi;exact⟨⟨fun _=>v5 (ha.c i) (by omega),(ha.c i).1⟩,⟨fun _=>v5 (ha.s i) (by omega),(ha.s i).1⟩,⟨fun _=>v5 (ha.x i) (by omega),(ha.x i).1⟩,⟨fun _=>v5 (ha.y i) (by omega),(ha.y i).1⟩⟩
end Lift
namespace Lift
open Go Go.Proofs
theorem nL(n:Nat)(r:D)(hn:n≤4611686018427387904)(h1: ∀i:Nat,i≤5→n=2^i→r= .tu [dI i,dB true])(h2:(∀i:Nat,i≤5→n≠2^i)→r= .tu [dI 0,dB false]):Pure Tryz.prog 113 [dI n] r:=by
 refine qJ 14 Tryz.func113 rfl rfl rfl rfl (by kernel_rfl) (fun B0 F0 w0=>?_);refine qX 2 rfl ?_;refine qI ?_;refine qX 1 rfl ?_;refine aa.nil ?_;refine AW.block ?_;refine AW.aD [0,5] (fun k:Nat=>[(0,.d (dI n)),(5,.d (dI k))]) (fun k=>k≤6∧ ∀j,j<k→n≠2^j) (fun k=>6-k) 0 rfl ⟨Nat.zero_le _,fun j hj=>by omega⟩ (fun k ⟨hk,hi⟩=>?_);refine qX 1 rfl ?_;refine qI ?_;refine AW.cond rfl (fun h=>?_) (fun h=>?_);rotate_left
 · have hkk:k=6:=by have:=of_decide_eq_false h;omega
   subst hkk;rw[h2 (fun i hi5=>hi i (by omega))];refine AW.exit ?_;refine qX 2 rfl ?_;exact qN rfl
 have hkk:k<6:=by have:=of_decide_eq_true h;omega
 refine AW.skip (AW.seq (AW.block ?_));refine qX 2 rfl ?_;refine qK 3 rfl ?_;rw[wk (by omega)];refine qU 1 rfl ?_;refine aa.nil ?_;by_cases hp:n=2^k
 · rw[h1 k (by omega) hp,beq_iff_eq.2 (show (n:Int)=((2^k:Nat):Int) by rw[hp])];refine AW.aB rfl ?_;refine qX 3 rfl ?_;exact qN rfl
 rw[beq_eq_false_iff_ne.2 (show (n:Int)≠((2^k:Nat):Int) by omega)];refine AW.ar rfl ?_;refine AW.skip ?_;refine qT 1 rfl ?_;rw[au (x:=(k:Int)+1) (by omega) (by omega)];refine qU 1 rfl ?_;refine aa.nil ?_
 exact⟨k+1,rfl,⟨hkk,fun j hj=>by
  by_cases e:j=k
  · rw[e];exact hp
  · exact hi j (by omega)⟩,by omega⟩
theorem eT{n i:Nat}(h:n=2^i)(hi:i≤5):Pure Tryz.prog 113 [dI n] (.tu [dI i,dB true]):=by
 have hp:2^i≤2^5:=Nat.pow_le_pow_right (by decide) hi;refine nL n _ (by omega) (fun j hj e=>?_) (fun hn=>absurd h (hn i hi));have h1:=ir (Nat.le_of_eq (h.symm.trans e));have h3:=ir (Nat.le_of_eq (e.symm.trans h));rw[show j=i by omega]
theorem mB{n:Nat}(h: ∀i:Nat,i≤5→n≠2^i)(hn:n≤4611686018427387904):Pure Tryz.prog 113 [dI n] (.tu [dI 0,dB false]) :=
 nL n _ hn (fun i hi e=>absurd e (h i hi)) (fun _=>rfl)
theorem mD(m:Nat)(a:List RD){k:Nat}(hm5:m≤5)(hw:ze m a→wN k a)(hk:k≤17300000000000)(hl:a.length≤4398046511104):Pure Tryz.prog 66 [dI m,a9 a] (dI (bz m a)):=by
 refine qJ 37 Tryz.func66 rfl rfl rfl rfl (by kernel_rfl) (fun B0 F0 w0=>?_);have hno:=fun i hi=>w4 (l:=a) (i:=i) hi;have hyes:=uc (l:=a);unfold bz;generalize jw a=E at hno hyes ⊢
 obtain ⟨x,ok,cp,hok⟩: ∃(x:Nat) (ok:Bool),Pure Tryz.prog 113 [dI a.length] (.tu [dI x,dB ok])∧((ok=false∨m<x)↔yB m a.length=false):=by
  by_cases hp: ∃i,i≤5∧a.length=2^i
  · obtain ⟨i,hi,hp⟩:=hp;refine⟨i,true,eT hp hi,?_⟩;rw[hp,vz];constructor
    · rintro (h | h)
      · cases h
      · exact decide_eq_false (by omega)
    · intro h;right;have:=of_decide_eq_false h;omega
  · refine⟨0,false,mB (fun i hi e=>hp ⟨i,hi,e⟩) (by omega),?_⟩;constructor
    · intro _;cases hv:yB m a.length
      · rfl
      · obtain ⟨i,h1,h2⟩:=Cb hv;exact absurd ⟨i,by omega,h2⟩ hp
    · intro _;exact .inl rfl
 refine qX 1 rfl ?_;refine qK 2 rfl ?_;rw[List.length_map];refine aa.call tok rfl rfl rfl rfl cp ?_;refine qU 5 rfl ?_;refine aa.nil ?_;refine AW.cut [1] (fun _:Unit=>[(1,.d (a9 a))]) (fun _=> ¬(a.length≠0∧yB m a.length=false)) ?_ (fun _ hs=>?_)
 · refine qX 2 rfl ?_;rw[List.length_map];refine qU 1 rfl ?_;by_cases h0:a.length=0
   · rw[bne_eq_false_iff_eq.2 (show (a.length:Int)=0 by omega)];refine qU 9 rfl ?_;refine aa.nil ?_;refine AW.ar rfl ?_;refine AW.skip ?_;exact⟨(),rfl,fun h=>h.1 h0⟩
   rw[bne_iff_ne.2 (show (a.length:Int)≠0 by omega)];cases ok with
   | false =>
     have hb:=hok.1 (.inl rfl);rw[if_pos ⟨h0,hb⟩];refine qU 9 rfl ?_;refine aa.nil ?_;refine AW.aB rfl ?_;refine qX 1 rfl ?_;exact qN rfl
   | true =>
   refine qU 7 rfl ?_;by_cases hx:(m:Int)<(x:Int)
   · rw[decide_eq_true hx,if_pos ⟨h0,hok.1 (.inr (by omega))⟩];refine qU 2 rfl ?_;refine aa.nil ?_;refine AW.aB rfl ?_;refine qX 1 rfl ?_;exact qN rfl
   · rw[decide_eq_false hx];refine qU 2 rfl ?_;refine aa.nil ?_;refine AW.ar rfl ?_;refine AW.skip ?_
     exact⟨(),rfl,fun h=>by
      rcases hok.2 h.2 with e | e
      · cases e
      · omega⟩
 rw[if_neg hs];have hw:=hw hs;show AW _ _ _ _ _ _ _ [(1,.d (a9 a))];refine AW.seq ?_;refine qX 2 rfl ?_;rw[List.length_map];refine qU 1 rfl ?_;refine aa.nil ?_;refine AW.block ?_;refine AW.aD [27,28,29] (fun i:Nat=>[(27,.d (a9 a)),(28,.d (dI a.length)),(29,.d (dI i))]) (fun i=>i≤a.length∧ ∀j,j<i→(a.getD j default).okB=true) (fun i=>a.length-i) 0 rfl ⟨Nat.zero_le _,fun j hj=>by omega⟩ (fun i ⟨hi,hall⟩=>?_);refine qX 1 rfl ?_;refine qI ?_;refine AW.cond rfl (fun h=>?_) (fun h=>?_);rotate_left
 · have hii:i=a.length:=by have:=of_decide_eq_false h;omega
   subst hii;rw[hyes hall,if_neg (by simp)];refine AW.exit ?_;refine qX 1 rfl ?_;exact qN rfl
 have hii:i<a.length:=by have:=of_decide_eq_true h;omega
 have hg:=getM RD.D (l:=a) (i:=i) hii;have hno:=hno i hii;have cv:=iq (a.getD i default) (hw i hii) (by omega);refine AW.skip (AW.seq (AW.block (AW.seq (AW.region ?_))));refine aa.idx tok (a.getD i default).D rfl rfl rfl rfl (Int.natCast_nonneg i) hg ?_;refine qU 3 rfl ?_;refine qK 1 rfl ?_;refine aa.call tok rfl rfl rfl rfl cv ?_;refine qU 1 rfl ?_;cases hv:(a.getD i default).okB with
 | false =>
   rw[hno hv,if_pos rfl];refine aa.nil ?_;refine AW.aB rfl ?_;refine qX 1 rfl ?_;exact qN rfl
 | true =>
 refine aa.nil ?_;refine AW.ar rfl ?_;refine AW.skip ?_;refine qT 1 rfl ?_;rw[au (x:=(i:Int)+1) (by omega) (by omega)];refine qU 1 rfl ?_;refine aa.nil ?_
 exact⟨i+1,rfl,⟨hii,fun j hj=>by
  by_cases e:j=i
  · subst e;exact hv
  · exact hall j (by omega)⟩,by omega⟩
theorem nM(a:NQ)(hl:a.length≤1000000):Pure Tryz.prog 155 [ae a] (dB (bg a)):=by
 refine qJ 26 Tryz.func155 rfl rfl rfl rfl (by kernel_rfl) (fun B F0 w0=>?_);have hno:=fun i hi=>q7 (a:=a) (i:=i) hi;have hyes:=oG (a:=a);generalize bg a=E at hno hyes ⊢;refine qX 1 rfl ?_;refine qI ?_;refine qX 2 rfl ?_;rw[List.length_map];refine qU 1 rfl ?_;refine aa.nil ?_;refine AW.block ?_;refine AW.aD [5,6,7] (fun i:Nat=>[(5,.d (ae a)),(6,.d (dI a.length)),(7,.d (dI i))]) (fun i=> ∀j,j<i→j<a.length→a.getD j 0=0) (fun i=>a.length-i) 0 rfl (fun j h=>by omega) (fun i hi=>?_)
 · show AW _ _ _ _ _ _ _ [(5,.d (ae a)),(6,.d (dI a.length)),(7,.d (dI i))];refine qX 1 rfl ?_;refine qI ?_;refine AW.cond rfl (fun h=>?_) (fun h=>?_)
   · have hii:i<a.length:=by have:=of_decide_eq_true h;omega
     have g:=kY hii;have hn:=hno i hii;have s0:=C5 (a.getD i 0);generalize hq:a.getD i 0=q at g hn s0;generalize Qr q=y at g s0;obtain ⟨yg,yn,yd⟩:=y;simp only[] at s0;refine AW.skip (AW.seq (AW.block (AW.seq (AW.region ?_))));refine aa.idx tok (RD.mk yg yn yd).D rfl rfl rfl rfl (Int.natCast_nonneg i) g ?_;refine qU 3 rfl ?_;refine qK 3 rfl ?_;cases yg with
     | true =>
       refine qU 11 rfl ?_;refine aa.nil ?_;refine AW.aB rfl ?_;rw[hn (fun e=>by have:=s0.2 e;cases this.1)];refine qX 1 rfl ?_;exact qN rfl
     | false =>
     refine qU 3 rfl ?_;rw[aR];refine qU 1 rfl ?_;by_cases h1:yn.length=0;rotate_left
     · rw[bne_iff_ne.2 (show (yn.length:Int)≠0 by omega)];refine qU 7 rfl ?_;refine aa.nil ?_;refine AW.aB rfl ?_;rw[hn (fun e=>by have:=(s0.2 e).2.1;omega)];refine qX 1 rfl ?_;exact qN rfl
     rw[bne_eq_false_iff_eq.2 (show (yn.length:Int)=0 by omega)];refine qU 5 rfl ?_;rw[aR];refine qU 1 rfl ?_;by_cases h2:yd.length=0;rotate_left
     · rw[bne_iff_ne.2 (show (yd.length:Int)≠0 by omega)];refine qU 1 rfl ?_;refine aa.nil ?_;refine AW.aB rfl ?_;rw[hn (fun e=>by have:=(s0.2 e).2.2;omega)];refine qX 1 rfl ?_;exact qN rfl
     rw[bne_eq_false_iff_eq.2 (show (yd.length:Int)=0 by omega)];refine qU 1 rfl ?_;refine aa.nil ?_;refine AW.ar rfl ?_;refine AW.skip ?_;refine qT 1 rfl ?_;rw[au (x:=(i:Int)+1) (by omega) (by omega)];refine qU 1 rfl ?_;refine aa.nil ?_;refine⟨i+1,rfl,fun j h1 h2=>?_,by omega⟩;by_cases e:j=i
     · rw[e,hq];exact s0.1 ⟨rfl,by omega,by omega⟩
     · exact hi j (by omega) h2
   have hii: ¬i<a.length:=by have:=of_decide_eq_false h;omega
   rw[hyes (fun j h=>hi j (by omega) h)];refine AW.exit ?_;refine qX 1 rfl ?_;exact qN rfl
theorem jq(a:NQ){k:Nat}(hs:az k a)(hk:k≤17300000000000)(hl:a.length≤1000000):Pure Tryz.prog 71 [ae a] (ae (aY a)):=by
 refine qJ 19 Tryz.func71 rfl rfl rfl rfl (by kernel_rfl) (fun B0 F0 w0=>?_);refine qX 1 rfl ?_;refine qK 1 rfl ?_;refine qI ?_;refine qX 2 rfl ?_;rw[List.length_map];refine qU 1 rfl ?_;refine aa.nil ?_;refine AW.block ?_;refine AW.aD [3,6,7,8] (fun i:Nat=>[(3,.ow 68 (dV (aY (a.take i)))),(6,.d (ae a)),(7,.d (dI a.length)),(8,.d (dI i))]) (fun i=>i≤a.length) (fun i=>a.length-i) 0 rfl (Nat.zero_le _) (fun i hi=>?_);refine qX 1 rfl ?_;refine qI ?_;refine AW.cond rfl (fun h=>?_) (fun h=>?_);rotate_left
 · have hii:i=a.length:=by have:=of_decide_eq_false h;have:i≤a.length:=hi;omega
   subst hii;rw[List.take_length];refine AW.exit ?_;refine qX 2 rfl ?_;exact qN rfl
 have hii:i<a.length:=by have:=of_decide_eq_true h;omega
 have g:=kY hii;have cn:=rI (Qr (a.getD i 0)) (eN _ (hs i)) hk;rw[bH] at cn;have htk:=rr a 0 hii;have hol:(aY (a.take i)).length=i:=by rw[fc,List.length_take];omega
 have hms:aY (a.take (i+1))=aY (a.take i)++[-a.getD i 0]:=by
  rw[htk];unfold aY;rw[List.map_append];rfl
 generalize aY (a.take i)=M at hol hms ⊢;generalize a.getD i 0=q at g cn hms;refine AW.skip (AW.seq (AW.block (AW.seq (AW.region ?_))));refine aa.idx tok (Qr q).D rfl rfl rfl rfl (Int.natCast_nonneg i) g ?_;refine qU 3 rfl ?_;refine aa.nil ?_;refine qT 2 rfl ?_;refine aa.call tok rfl rfl rfl rfl cn ?_;refine aa.bs tok rfl rfl rfl rfl ?_;refine aa.kI tok rfl rfl rfl rfl rfl rfl (by rw[List.length_map,hol];show (_+1)*56≤_;omega) (by rw[List.length_map,hol];show _+1≤_;omega) ?_;refine qU 1 rfl ?_;refine aa.nil ?_;refine qT 1 rfl ?_;rw[au (x:=(i:Int)+1) (by omega) (by omega)];refine qU 1 rfl ?_;refine aa.nil ?_;exact⟨i+1,by show _=([(3,.ow 68 (dV (aY (a.take (i+1))))),(6,.d (ae a)),(7,.d (dI a.length)),(8,.d (dI (i+1:Nat)))]:St);rw[hms,dV,dV,List.map_append];rfl,hii,by omega⟩
end Lift
namespace Lift
open Go Go.Proofs
theorem dq(a:NQ){l:Nat}(ha:ay l a)(hl:l≤5):Pure Tryz.prog 114 [ae a] (ae (aG a)):=by
 refine qJ 43 Tryz.func114 rfl rfl rfl rfl (by kernel_rfl) (fun B0 F0 w0=>?_);have hl10:=ha.len (by omega);rcases ha with h0 | ⟨i,hi,hai⟩
 · obtain rfl:a=[]:=List.length_eq_zero_iff.1 h0;have cp:=mB (n:=0) (fun i _=>by have:=Nat.two_pow_pos i;omega) (by decide);refine qX 1 rfl ?_;refine qK 2 rfl ?_;refine aa.call tok rfl rfl rfl rfl cp ?_;refine qU 5 rfl ?_;refine qI ?_;refine qX 2 rfl ?_;refine aa.nil ?_;refine AW.aB rfl ?_;refine qX 2 rfl ?_;refine aa.lY tok rfl rfl rfl rfl (by decide) ?_;refine qU 1 rfl ?_;exact qN rfl
 have cp:=eT hai (by omega);have hp:=Nat.two_pow_pos i;have hE:aG a=gh i a:=by unfold aG;rw[if_neg (by omega),hai,Nat.log2_two_pow]
 rw[hE];refine qX 1 rfl ?_;refine qK 2 rfl ?_;rw[List.length_map];refine aa.call tok rfl rfl rfl rfl cp ?_;refine qU 5 rfl ?_;refine qI ?_;refine qX 2 rfl ?_;refine aa.nil ?_;refine AW.ar rfl ?_;refine AW.skip ?_;refine qX 2 rfl ?_;rw[List.length_map,hai];refine qU 1 rfl ?_;refine qI (AW.block ?_);refine AW.aD [0,5] (fun j:Nat=>[(0,.d (ae a)),(5,.d (dI (2^j:Nat)))]) (fun j=>j≤i∧gh j a=gh i a) (fun j=>j) i rfl ⟨Nat.le_refl _,rfl⟩ (fun j hj=>?_);obtain ⟨hj,hjE⟩:=hj;show AW _ _ _ _ _ _ _ [(0,.d (ae a)),(5,.d (dI (2^j:Nat)))];have hpj:2^j≤2^i:=Nat.pow_le_pow_right (by decide) hj;have hpp:=Nat.two_pow_pos j;refine AW.seq ?_;refine qX 2 rfl ?_;rcases j with _ | j
 · refine qU 8 rfl ?_;refine aa.nil ?_;refine AW.ar rfl ?_;refine AW.exit (AW.seq ?_);refine qX 4 rfl ?_;refine aa.fC tok (a:=a) (a.take 1) rfl rfl rfl rfl trivial (show (0:Int)≤1 by decide) (Nat.zero_le _) (show 1≤a.length by omega) rfl ?_;refine aa.call tok rfl rfl rfl rfl (nM (a.take 1) (by rw[List.length_take];omega)) ?_;refine qU 1 rfl ?_;refine aa.nil ?_;rw[← hjE];unfold gh;cases hz:bg (a.take 1) with
   | true =>
     rw[if_pos rfl];refine AW.aB rfl ?_;refine qX 1 rfl ?_;exact qN rfl
   | false =>
     rw[if_neg (by simp)];refine AW.ar rfl ?_;refine AW.skip ?_;refine qX 3 rfl ?_;refine aa.fC tok (a:=a) (a.take 1) rfl rfl rfl rfl trivial (show (0:Int)≤1 by decide) (Nat.zero_le _) (show 1≤a.length by omega) rfl ?_;have hq:(a.take 1).length≤1024:=by rw[List.length_take];omega
     refine aa.lY tok rfl rfl rfl rfl (by rw[List.length_map];show _*56≤_;omega) ?_;refine qU 1 rfl ?_;exact qN rfl
 have e2:2^(j+1)=2^j*2:=Nat.pow_succ ..;have eh:=jX j;rw[decide_eq_true (show (1:Int)<((2^(j+1):Nat):Int) by have:=Nat.two_pow_pos j;omega)];refine qU 3 rfl ?_;refine aa.div tok rfl rfl rfl rfl (by decide) ?_;rw[f' _ (by omega),eh];refine qU 1 rfl ?_;refine aa.fC tok (a:=a) ((a.take (2^(j+1))).drop (2^j)) rfl rfl rfl rfl (Int.natCast_nonneg _) (Int.natCast_nonneg _) (show 2^j≤2^(j+1) by omega) (show 2^(j+1)≤a.length by omega) rfl ?_;refine aa.call tok rfl rfl rfl rfl (nM _ (by rw[List.length_drop,List.length_take];omega)) ?_;refine qU 1 rfl ?_;refine aa.nil ?_;cases hz:bg ((a.take (2^(j+1))).drop (2^j)) with
 | true =>
   refine AW.aB rfl ?_;refine AW.skip (AW.block ?_);refine qT 1 rfl ?_;refine aa.div tok rfl rfl rfl rfl (by decide) ?_;rw[f' _ (by omega),eh];refine qU 1 rfl ?_;refine aa.nil ?_;exact⟨j,rfl,⟨by omega,by rw[← hjE];show _=if bg ((a.take (2^(j+1))).drop (2^j))=true then _ else _;rw[if_pos hz]⟩,by omega⟩
 | false =>
 refine AW.ar rfl ?_;refine AW.exit (AW.seq ?_);refine qX 2 rfl ?_;rw[beq_eq_false_iff_ne.2 (show ((2^(j+1):Nat):Int)≠1 by have:=Nat.two_pow_pos j;omega)];refine qU 5 rfl ?_;refine aa.nil ?_;refine AW.ar rfl ?_;refine AW.skip ?_;refine qX 3 rfl ?_;refine aa.fC tok (a:=a) (a.take (2^(j+1))) rfl rfl rfl rfl trivial (Int.natCast_nonneg _) (Nat.zero_le _) (show 2^(j+1)≤a.length by omega) rfl ?_;have hq:(a.take (2^(j+1))).length≤1024:=by rw[List.length_take];omega
 refine aa.lY tok rfl rfl rfl rfl (by rw[List.length_map];show _*56≤_;omega) ?_;refine qU 1 rfl ?_;refine aa.nil ?_;rw[← hjE];unfold gh;rw[if_neg (by rw[hz];simp)];exact AW.ret rfl
theorem mL(a:NQ):aX a a.length=a:=by
 unfold aX;rw[List.take_length,Nat.sub_self];exact List.append_nil a
theorem re{a:NQ}{i:Nat}(h:a.length≤i):aX a (i+1)=aX a i++[0]:=by
 unfold aX;rw[List.take_of_length_le h,List.take_of_length_le (by omega),Nat.succ_sub h,List.replicate_succ',List.append_assoc]
theorem jm(a:NQ)(n:Nat)(ha:a.length≤n)(hn:n≤1000000):fS Tryz.prog 117 [ae a,dI n] [] (BU (aX a n)):=by
 refine fS.intro (n:=18) tok Tryz.func117 rfl rfl rfl (Nat.le_of_ble_eq_true rfl) (by kernel_rfl) (fun B F0 w0=>?_);refine AZ.seq ?_;refine AZ.dm (fun B1 F1 w1=>?_);refine qU 1 rfl ?_;refine aa.nil ⟨rfl,?_⟩;refine AZ.seq ?_;refine AZ.dm (fun B1 F1 w1=>?_);refine qU 2 rfl ?_;refine aa.zd tok rfl rfl rfl rfl (by rw[List.length_map];show _*56≤_;omega) ?_;refine qU 1 rfl ?_;refine aa.nil ⟨rfl,?_⟩;refine AZ.seq ?_;refine AZ.block ?_;refine AZ.aD [1,5] (fun i:Nat=>(([]:List LR),([(1,.d (dI n)),(5,.ow 68 (dV (aX a i)))]:St))) (fun i=>a.length≤i∧i≤n) (fun i=>n-i) a.length (by rw[mL];rfl) ⟨Nat.le_refl _,ha⟩ (fun i hi=>?_)
 · obtain ⟨hi,hin⟩:=hi;show AZ _ _ _ _ _ _ _ [] [(1,.d (dI n)),(5,.ow 68 (dV (aX a i)))];have wl:=bj a i;refine AZ.seq ?_;refine AZ.seq ?_;refine AZ.dm (fun B1 F1 w1=>?_);refine qU 2 rfl ?_;rw[List.length_map,wl];refine qU 2 rfl ?_;refine aa.nil ⟨rfl,?_⟩;refine AZ.cond rfl (fun h=>?_) (fun h=>?_)
   · have hii:i<n:=by have:=of_decide_eq_true h;omega
     have hs:=re hi;refine AZ.skip ?_;refine AZ.block ?_;refine AZ.dm (fun B1 F1 w1=>?_);refine qU 2 rfl ?_;refine aa.bs tok rfl rfl rfl rfl ?_;refine aa.kI tok rfl rfl rfl rfl rfl rfl (by rw[List.length_map,wl];show (_+1)*56≤_;omega) (by rw[List.length_map,wl];show _+1≤_;omega) ?_;refine qU 1 rfl ?_;refine aa.nil ⟨rfl,?_⟩;refine⟨i+1,?_,⟨by omega,hii⟩,by omega⟩;rw[hs];show _=(([]:List LR),([(1,.d (dI n)),(5,.ow 68 ((aX a i++[0]).map (fun q=>(Qr q).D)))]:St));rw[List.map_append,List.map_cons,eF];rfl
   have hii:i=n:=by have:=of_decide_eq_false h;omega
   subst hii;refine AZ.exit ?_;refine AZ.seq ?_;refine AZ.dm (fun B1 F1 w1=>?_);refine qU 2 rfl ?_;refine aa.nil ⟨rfl,?_⟩;refine AZ.fL 4 rfl rfl rfl (fun V=>AZ.ret ⟨.v V,rfl,V,rfl,rfl⟩)
theorem kx(a:NQ)(n:Nat)(ha:a.length≤n)(hn:n≤1000000):Pure Tryz.prog 117 [ae a,dI n] (ae (aX a n)):=by
 refine qJ 18 Tryz.func117 rfl rfl rfl rfl (by kernel_rfl) (fun B F0 w0=>?_);refine qX 1 rfl ?_;refine qK 2 rfl ?_;refine aa.zd tok rfl rfl rfl rfl (by rw[List.length_map];show _*56≤_;omega) ?_;refine qU 1 rfl ?_;refine qI (AW.block ?_);refine AW.aD [1,5] (fun i:Nat=>[(1,.d (dI n)),(5,.ow 68 (dV (aX a i)))]) (fun i=>a.length≤i∧i≤n) (fun i=>n-i) a.length (by rw[mL];rfl) ⟨Nat.le_refl _,ha⟩ (fun i hi=>?_)
 · obtain ⟨hi,hin⟩:=hi;show AW _ _ _ _ _ _ _ [(1,.d (dI n)),(5,.ow 68 (dV (aX a i)))];have wl:=bj a i;refine AW.seq ?_;refine qX 2 rfl ?_;rw[List.length_map,wl];refine qU 2 rfl ?_;refine aa.nil ?_;refine AW.cond rfl (fun h=>?_) (fun h=>?_)
   · have hii:i<n:=by have:=of_decide_eq_true h;omega
     have hs:=re hi;refine AW.skip (AW.block ?_);refine qT 2 rfl ?_;refine aa.bs tok rfl rfl rfl rfl ?_;refine aa.kI tok rfl rfl rfl rfl rfl rfl (by rw[List.length_map,wl];show (_+1)*56≤_;omega) (by rw[List.length_map,wl];show _+1≤_;omega) ?_;refine qU 1 rfl ?_;refine aa.nil ?_;refine⟨i+1,?_,⟨by omega,hii⟩,by omega⟩;rw[hs];show _=([(1,.d (dI n)),(5,.ow 68 ((aX a i++[0]).map (fun q=>(Qr q).D)))]:St);rw[List.map_append,List.map_cons,eF];rfl
   have hii:i=n:=by have:=of_decide_eq_false h;omega
   subst hii;refine AW.exit ?_;refine qX 2 rfl ?_;exact qN rfl
theorem fo(a b:NQ){k:Nat}(ha:az k a)(hb:az k b)(hk:k≤17300000000000)(hl:a.length≤1000000)(hl2:b.length≤1000000):Pure Tryz.prog 70 [ae a,ae b] (ae (bh a b)):=by
 refine qJ 37 Tryz.func70 rfl rfl rfl rfl (by kernel_rfl) (fun B F0 w0=>?_);obtain ⟨n,hn⟩: ∃n,n=max a.length b.length:=⟨_,rfl⟩;have cw1:=jm a n (by omega) (by omega);have cw2:=jm b n (by omega) (by omega);have l1:=bj a n;have l2:=bj b n;have g1: ∀i,i<n→(aX a n).getD i 0=a.getD i 0:=fun i hi=>by rw[fk,if_pos hi]
 have g2: ∀i,i<n→(aX b n).getD i 0=b.getD i 0:=fun i hi=>by rw[fk,if_pos hi]
 have hpl:(bh a b).length=n:=by rw[iE,hn]
 generalize aX a n=wa at cw1 l1 g1;generalize aX b n=wb at cw2 l2 g2;refine qX 1 rfl ?_;refine qK 4 rfl ?_;rw[List.length_map,List.length_map];refine qU 2 rfl ?_;rw[DR,← hn];refine qI ?_;refine AZ.aw ?_;refine AZ.region ?_;refine an.cut 2 rfl (fun B1 F1 w1=>?_);refine qU 2 rfl ?_;refine aa.nil ⟨rfl,?_⟩;refine an.a7 tok [] rfl rfl rfl rfl rfl List.nodup_nil rfl cw1 (fun _ _ _=>Nat.zero_le _) (fun res R1 hP=>?_);obtain ⟨V1,rfl,rfl⟩:=hP;refine an.cut 2 rfl (fun B1 F1 w1=>?_);refine qU 2 rfl ?_;refine aa.nil ⟨rfl,?_⟩;refine an.a7 tok [] rfl rfl rfl rfl rfl List.nodup_nil rfl cw2 (fun _ _ _=>Nat.zero_le _) (fun res R1 hP=>?_);obtain ⟨V2,rfl,rfl⟩:=hP;refine an.cut 2 rfl (fun B1 F1 w1=>?_);refine qU 2 rfl ?_;refine aa.nil ⟨rfl,?_⟩;refine an.to [0,1] [(0,.d (.v V1)),(1,.d (.v V2))] rfl ?_;refine an.cy 0 0 (V:=V1) (av:= .ow 68 (dV wa)) rfl rfl rfl ?_;refine an.to [0,1] [(0,.ow 68 (dV wa)),(1,.d (.v V2))] rfl ?_;refine an.cy 1 1 (V:=V2) (av:= .ow 68 (dV wb)) rfl rfl rfl ?_;refine an.to [0,1] [(0,.ow 68 (dV wa)),(1,.ow 68 (dV wb))] rfl ?_;refine an.nil ?_;refine AW.gO tok 1 rfl rfl ?_;refine AW.seq ?_;refine qX 2 rfl ?_;rw[List.length_map,l1];refine qU 1 rfl ?_;refine aa.nil ?_;refine AW.block ?_;refine AW.aD [0,1,19,20] (fun s:Nat×NQ=>[(0,.ow 68 (dV s.2)),(1,.d (ae wb)),(19,.d (dI n)),(20,.d (dI s.1))]) (fun s=>s.2.length=n∧ ∀j,j<n→s.2.getD j 0=if j<s.1 then a.getD j 0+b.getD j 0 else a.getD j 0) (fun s=>n-s.1) (0,wa) rfl ⟨l1,fun j h=>by rw[if_neg (Nat.not_lt_zero _)];exact g1 j h⟩ (fun s hi=>?_)
 · obtain ⟨i,r⟩:=s;obtain ⟨hrl,hi⟩:=hi;simp only[] at hrl hi;show AW _ _ _ _ _ _ _ [(0,.ow 68 (dV r)),(1,.d (ae wb)),(19,.d (dI n)),(20,.d (dI i))];refine qX 1 rfl ?_;refine qI ?_;refine AW.cond rfl (fun h=>?_) (fun h=>?_)
   · have hii:i<n:=by have:=of_decide_eq_true h;omega
     have e1:=kY (r:=r) (i:=i) (by omega);have e2:=kY (r:=wb) (i:=i) (by omega);rw[hi i hii,if_neg (Nat.lt_irrefl _)] at e1;rw[g2 i hii] at e2;have ca:=mT (Qr (a.getD i 0)) (Qr (b.getD i 0)) (eN _ (ha i)) (eN _ (hb i)) hk;rw[bH,bH] at ca;refine AW.skip (AW.seq (AW.block ?_));refine qX 2 rfl ?_;refine aa.nil ?_;refine AW.draw aI 12 (by kernel_rfl) ?_;refine qP 4 rfl ?_;refine af.eJ tok rfl rfl rfl rfl rfl rfl (Int.natCast_nonneg i) (by rw[List.length_map];show i<_;omega) ?_;refine af.cu tok (Qr (a.getD i 0)).D rfl rfl rfl rfl rfl e1 rfl ?_;refine qP 2 rfl ?_;refine af.idx tok (Qr (b.getD i 0)).D rfl rfl rfl rfl rfl (Int.natCast_nonneg i) e2 ?_;refine qP 1 rfl ?_;refine af.call tok rfl rfl rfl rfl rfl ca ?_;refine af.eJ tok rfl rfl rfl rfl rfl rfl (Int.natCast_nonneg i) (by rw[List.length_map];show i<_;omega) ?_;refine af.nil ?_;refine aa.xZ tok (a.getD i 0+b.getD i 0) rfl rfl rfl (by show i<_;omega) ?_;refine aa.nil ?_;refine qT 1 rfl ?_;rw[au (x:=(i:Int)+1) (by omega) (by omega)];refine qU 1 rfl ?_;refine aa.nil ?_;refine⟨(i+1,r.set i (a.getD i 0+b.getD i 0)),rfl,⟨by rw[List.length_set];exact hrl,fun j h1=>?_⟩,by show n-(i+1)<n-i;omega⟩;show (r.set i (a.getD i 0+b.getD i 0)).getD j 0=if j<i+1 then _ else _
     rw[yM];by_cases e:j=i
     · rw[if_pos ⟨e,by omega⟩,e,if_pos (by omega)]
     · rw[if_neg (fun h=>e h.1),hi j h1];by_cases h2:j<i
       · rw[if_pos h2,if_pos (by omega)]
       · rw[if_neg h2,if_neg (by omega)]
   have hii: ¬i<n:=by have:=of_decide_eq_false h;omega
   obtain rfl:r=bh a b:=yt (by rw[hrl,hpl]) (fun j hj=>by rw[jY,hi j (by omega),if_pos (by omega)]);refine AW.exit ?_;refine qX 2 rfl ?_;exact qN rfl
end Lift
namespace Lift
open Go Go.Proofs
theorem tX{R:NQ→NQ→NQ}{rt:List NQ}{a b:NQ}:(ji R rt a b).length≤max a.length b.length:=by
 unfold ji;split
 · exact Nat.zero_le _
 split
 · rename_i h;rw[h];exact Nat.le_refl _
 · rw[iG];omega
theorem wC{l k:Nat}{R:NQ→NQ→NQ}{rt:List NQ}{a b:NQ}(ha:ay l a)(hb:ay l b)(hrt:db rt)(hl:l≤rt.length)(sa:az k a)(sb:az k b)(sr:fA k rt)
  (hR: ∀l',l=l'+1→ ∀a' b' m,k≤m→ay l' a'→ay l' b'→az m a'→az m b'→ay l' (R a' b')∧az (sT l' m) (R a' b')):ay l (ji R rt a b)∧az (sT l k) (ji R rt a b):=by
 have hk:=sa.pos;have h2:=bS l k;unfold ji;by_cases h0:a.length=0∨b.length=0
 · rw[if_pos h0];exact⟨bY _,dD (by omega)⟩
 rw[if_neg h0];by_cases h1:max a.length b.length=1
 · rw[if_pos h1];refine⟨dA _ _,dZ ?_⟩;have:=C7 (a.getD 0 0) (b.getD 0 0);have:=sa 0;have:=sb 0;omega
 rw[if_neg h1]
 obtain ⟨i,hi,hn⟩: ∃i,i≤l∧max a.length b.length=2^i:=by
  rcases ha with e | ⟨i,hi,e⟩
  · exact absurd (.inl e) h0
  rcases hb with e2 | ⟨k,hk,e2⟩
  · exact absurd (.inr e2) h0
  by_cases h:a.length≤b.length
  · exact⟨k,hk,by rw[Nat.max_eq_right h,e2]⟩
  · exact⟨i,hi,by rw[Nat.max_eq_left (by omega),e]⟩
 have vX:i≠0:=fun e=>h1 (by rw[hn,e]);obtain ⟨j,rfl⟩: ∃j,i=j+1:=⟨i-1,by omega⟩;obtain ⟨l',rfl⟩: ∃l',l=l'+1:=⟨l-1,by omega⟩;have hj:j≤l':=by omega
 have hR:=fun a' b' m h1 h2 h3 h4 h5=>hR l' rfl a' b' m h1 h2 h3 h4 h5;have wa:=bj a (max a.length b.length);have wb:=bj b (max a.length b.length);have sa:=sa.wide (max a.length b.length);have sb:=sb.wide (max a.length b.length);generalize aX a (max a.length b.length)=A at *;generalize aX b (max a.length b.length)=B at *;generalize max a.length b.length=n at *;subst hn;have e0:=jX j;have hlog:(2^(j+1)).log2-1=j:=by rw[Nat.log2_two_pow];omega
 rw[e0,hlog];obtain ⟨e1,e2,e3⟩:=bG wa;obtain ⟨f1,f2,f3⟩:=bG wb;rw[e3] at e1 e2;rw[f3] at f1 f2;have hx:ay l' (A.take (2^j)):= .inr ⟨j,hj,e1⟩;have hy:ay l' (A.drop (2^j)):= .inr ⟨j,hj,e2⟩;have hu:ay l' (B.take (2^j)):= .inr ⟨j,hj,f1⟩;have hv:ay l' (B.drop (2^j)):= .inr ⟨j,hj,f2⟩;have hd:ay l' (rt.getD j []):= .inr ⟨j,hj,hrt j (by omega)⟩;have hs0:=bS l' k;have hs1:=bS l' (sT l' k);have r1:=hR _ _ k (Nat.le_refl _) hx hu (sa.take _) (sb.take _);have r2:=hR _ _ k (Nat.le_refl _) hy hv (sa.drop _) (sb.drop _);have r3:=hR _ _ k (Nat.le_refl _) hx hv (sa.take _) (sb.drop _);have r4:=hR _ _ k (Nat.le_refl _) hy hu (sa.drop _) (sb.take _);have r5:=hR _ _ (sT l' k) (by omega) r2.1 hd r2.2 ((sr _).mono (by omega));refine⟨.inr ⟨j+1,by omega,by rw[iG,Nat.pow_succ];omega⟩,(((r1.2.plus r5.2).mono ?_).join ((r3.2.plus r4.2).mono ?_) _)⟩
 · show _≤sT l' (sT l' k)+sT l' k+1;omega
 · show _≤sT l' (sT l' k)+sT l' k+1;omega
theorem kt(a:NQ){l:Nat}(ha:ay l a):(aG a).length≤a.length:=by
 unfold aG;split
 · exact Nat.zero_le _
 have: ∀i,(gh i a).length≤a.length:=fun i=>by
  induction i with
  | zero =>
    unfold gh;split
    · exact Nat.zero_le _
    · rw[List.length_take];omega
  | succ i ih =>
    unfold gh;split
    · exact ih
    · rw[List.length_take];omega
 exact this _
theorem fm: ∀(l:Nat) {k:Nat} {rt:List NQ} {a b:NQ},ay l a→ay l b→db rt→l≤rt.length→az k a→az k b→fA k rt→ay l (ev l rt a b)∧az (sT l k) (ev l rt a b)
 | 0,k,rt,a,b,ha,hb,hrt,hl,sa,sb,sr=>wC (bk ha sa).1 (bk hb sb).1 hrt hl (bk ha sa).2 (bk hb sb).2 sr (fun l' h=>by omega)
 | l+1,k,rt,a,b,ha,hb,hrt,hl,sa,sb,sr=>wC (bk ha sa).1 (bk hb sb).1 hrt hl (bk ha sa).2 (bk hb sb).2 sr (fun l' e a' b' m hm h1 h2 h3 h4=>by
    obtain rfl:l=l':=by omega
    exact fm l h1 h2 hrt (by omega) h3 h4 (sr.mono hm))
theorem x9: ∀(l:Nat) {rt:List NQ} {a b:NQ},ay l a→ay l b→(ev l rt a b).length≤max a.length b.length
 | 0,rt,a,b,ha,hb=>by
   have h1:=kt a ha;have h2:=kt b hb;have h3:=tX (R:=fun _ _=>[]) (rt:=rt) (a:=aG a) (b:=aG b);show (ji _ rt _ _).length≤_;omega
 | l+1,rt,a,b,ha,hb=>by
   have h1:=kt a ha;have h2:=kt b hb;have h3:=tX (R:=ev l rt) (rt:=rt) (a:=aG a) (b:=aG b);show (ji _ rt _ _).length≤_;omega
set_option maxHeartbeats 1600000 in
theorem pJ{l k:Nat}{R:NQ→NQ→NQ}{rt:List NQ}{xs:List D}{a b:NQ}(ha:ay l a)(hb:ay l b)(hrt:db rt)(hl:l≤rt.length)(hl5:l≤5)(hxs: ∀j,j<rt.length→xs[j]?=some (ae (rt.getD j [])))(sa:az k a)(sb:az k b)(sr:fA k rt)(hk:sT l k≤17300000000000)
  (hR: ∀l',l=l'+1→ ∀a' b' m,k≤m→ay l' a'→ay l' b'→az m a'→az m b'→sT l' m≤17300000000000→Pure Tryz.prog 157 [.ag [.sl 1 xs],ae a',ae b'] (ae (R a' b'))∧(R a' b').length≤max a'.length b'.length∧ay l' (R a' b')∧az (sT l' m) (R a' b')):
  Pure Tryz.prog 157 [.ag [.sl 1 xs],ae a,ae b] (ae (ji R rt (aG a) (aG b))):=by
 refine qJ 105 Tryz.func157 rfl rfl rfl rfl (by kernel_rfl) (fun B F0 w0=>?_);have hk1:=sa.pos;have h2:=bS l k;have cs1:=dq a ha hl5;have cs2:=dq b hb hl5;obtain ⟨ha,sa⟩:=bk ha sa;obtain ⟨hb,sb⟩:=bk hb sb;generalize aG a=s at *;generalize aG b=t at *;have hla:=ha.len (by omega);have hlb:=hb.len (by omega);refine qX 2 rfl ?_;refine qK 1 rfl ?_;refine aa.call tok rfl rfl rfl rfl cs1 ?_;refine qU 1 rfl ?_;refine aa.call tok rfl rfl rfl rfl cs2 ?_;refine qU 2 rfl ?_;refine qK 4 rfl ?_;rw[List.length_map,List.length_map];refine qU 2 rfl ?_;rw[DR];refine qI ?_;refine qX 2 rfl ?_;rw[List.length_map];refine qU 1 rfl ?_;unfold ji;by_cases h0:s.length=0
 · have h00:s.length=0∨t.length=0:= .inl h0;rw[beq_iff_eq.2 (show (s.length:Int)=0 by omega),if_pos h00];refine qU 5 rfl ?_;refine aa.nil ?_;refine AW.aB rfl ?_;refine qX 1 rfl ?_;exact qN rfl
 rw[beq_eq_false_iff_ne.2 (show (s.length:Int)≠0 by omega)];refine qU 3 rfl ?_;rw[List.length_map];refine qU 1 rfl ?_;by_cases h01:t.length=0
 · have h00:s.length=0∨t.length=0:= .inr h01;rw[beq_iff_eq.2 (show (t.length:Int)=0 by omega),if_pos h00];refine qU 1 rfl ?_;refine aa.nil ?_;refine AW.aB rfl ?_;refine qX 1 rfl ?_;exact qN rfl
 have h00: ¬(s.length=0∨t.length=0):=fun h=>h.elim h0 h01;rw[beq_eq_false_iff_ne.2 (show (t.length:Int)≠0 by omega),if_neg h00];refine qU 1 rfl ?_;refine aa.nil ?_;refine AW.ar rfl ?_;refine AW.skip (AW.seq (AW.seq (AW.region ?_)));obtain ⟨n,hn⟩: ∃n,n=max s.length t.length:=⟨_,rfl⟩;rw[← hn];refine qU 2 rfl ?_;by_cases h1:n=1
 · rw[if_pos h1,beq_iff_eq.2 (show (n:Int)=1 by omega)];have g1:=kY (r:=s) (i:=0) (by omega);have g2:=kY (r:=t) (i:=0) (by omega);have cm:=yl (Qr (s.getD 0 0)) (Qr (t.getD 0 0)) (k:=k) (eN _ (sa 0)) (eN _ (sb 0)) (by omega);rw[bH,bH] at cm;refine aa.nil ?_;refine AW.aB rfl ?_;refine AW.seq ?_;refine AW.draw aI 8 (by kernel_rfl) ?_;refine qP 1 rfl ?_;refine af.idx tok (Qr (s.getD 0 0)).D rfl rfl rfl rfl rfl (Int.le_refl _) g1 ?_;refine qP 2 rfl ?_;refine af.idx tok (Qr (t.getD 0 0)).D rfl rfl rfl rfl rfl (Int.le_refl _) g2 ?_;refine qP 1 rfl ?_;refine af.call tok rfl rfl rfl rfl rfl cm ?_;refine af.kc tok rfl rfl rfl rfl rfl rfl ?_;refine af.nil ?_;refine qU 1 rfl ?_;exact qN rfl
 rw[if_neg h1,beq_eq_false_iff_ne.2 (show (n:Int)≠1 by omega)];refine aa.nil ?_;refine AW.ar rfl ?_;refine AW.skip ?_
 obtain ⟨i,hi,hni⟩: ∃i,i≤l∧n=2^i:=by
  rcases ha with e | ⟨i,hi,e⟩
  · exact absurd e h0
  rcases hb with e2 | ⟨k,hk,e2⟩
  · exact absurd e2 h01
  by_cases h:s.length≤t.length
  · exact⟨k,hk,by rw[hn,Nat.max_eq_right h,e2]⟩
  · exact⟨i,hi,by rw[hn,Nat.max_eq_left (by omega),e]⟩
 have hsn:s.length≤n:=by omega
 have htn:t.length≤n:=by omega
 have hn9:n≤1024:=by omega
 clear hn;have vX:i≠0:=fun e=>h1 (by rw[hni,e]);obtain ⟨j,rfl⟩: ∃j,i=j+1:=⟨i-1,by omega⟩;obtain ⟨l',rfl⟩: ∃l',l=l'+1:=⟨l-1,by omega⟩;have hj:j≤l':=by omega
 have hR:=fun a' b' m h1 h2 h3 h4 h5=>hR l' rfl a' b' m h1 h2 h3 h4 h5;have hs0:=bS l' k;have hs1:=bS l' (sT l' k);have hk:sT l' (sT l' k)+sT l' k+1≤17300000000000:=hk;have cw1:=kx s n hsn (by omega);have cw2:=kx t n htn (by omega);have cp:=eT hni (by omega);have wa:=bj s n;have wb:=bj t n;have sa:=sa.wide n;have sb:=sb.wide n;generalize aX s n=A at *;generalize aX t n=B at *;have e0:=jX j;have hlog:n.log2-1=j:=by rw[hni,Nat.log2_two_pow];omega
 obtain ⟨e1,e2,e3⟩:=bG (wa.trans hni);obtain ⟨f1,f2,f3⟩:=bG (wb.trans hni);rw[hlog];obtain ⟨h,hh⟩: ∃h,h=n / 2:=⟨_,rfl⟩
 have hnh:n=h+h:=by
  have:2^(j+1)=2^j*2:=Nat.pow_succ ..;omega
 have hh2:h=2^j:=by rw[hh,hni,e0]
 rw[wa,← hh] at e1 e2;rw[wb,← hh] at f1 f2;rw[← hh];have hx:ay l' (A.take h):= .inr ⟨j,hj,e1⟩;have hy:ay l' (A.drop h):= .inr ⟨j,hj,e2⟩;have hu:ay l' (B.take h):= .inr ⟨j,hj,f1⟩;have hv:ay l' (B.drop h):= .inr ⟨j,hj,f2⟩;have hdl:=hrt j (by omega);have hd:ay l' (rt.getD j []):= .inr ⟨j,hj,hdl⟩;have r1:=hR _ _ k (Nat.le_refl _) hx hu (sa.take _) (sb.take _) (by omega);have r2:=hR _ _ k (Nat.le_refl _) hy hv (sa.drop _) (sb.drop _) (by omega);have r3:=hR _ _ k (Nat.le_refl _) hx hv (sa.take _) (sb.drop _) (by omega);have r4:=hR _ _ k (Nat.le_refl _) hy hu (sa.drop _) (sb.take _) (by omega);have r5:=hR _ _ (sT l' k) (by omega) r2.2.2.1 hd r2.2.2.2 ((sr _).mono (by omega)) (by omega);have n1:(R (A.take h) (B.take h)).length≤h:=Nat.le_trans r1.2.1 (Nat.max_le.2 ⟨by omega,by omega⟩);have n2:(R (A.drop h) (B.drop h)).length≤h:=Nat.le_trans r2.2.1 (Nat.max_le.2 ⟨by omega,by omega⟩);have n3:(R (A.take h) (B.drop h)).length≤h:=Nat.le_trans r3.2.1 (Nat.max_le.2 ⟨by omega,by omega⟩);have n4:(R (A.drop h) (B.take h)).length≤h:=Nat.le_trans r4.2.1 (Nat.max_le.2 ⟨by omega,by omega⟩);have n5:(R (R (A.drop h) (B.drop h)) (rt.getD j [])).length≤h:=Nat.le_trans r5.2.1 (Nat.max_le.2 ⟨n2,by omega⟩);have r1:=And.intro r1.1 r1.2.2;have r2:=And.intro r2.1 r2.2.2;have r3:=And.intro r3.1 r3.2.2;have r4:=And.intro r4.1 r4.2.2;have r5:=And.intro r5.1 r5.2.2;have p1:=fo (R (A.take h) (B.take h)) (R (R (A.drop h) (B.drop h)) (rt.getD j [])) (k:=sT l' (sT l' k)) (r1.2.2.mono (by omega)) r5.2.2 (by omega) (by omega) (by omega);have p2:=fo (R (A.take h) (B.drop h)) (R (A.drop h) (B.take h)) (k:=sT l' k) r3.2.2 r4.2.2 (by omega) (by omega) (by omega);have q1:(bh (R (A.take h) (B.take h)) (R (R (A.drop h) (B.drop h)) (rt.getD j []))).length≤h:=by rw[iE];exact Nat.max_le.2 ⟨n1,n5⟩
 have q2:(bh (R (A.take h) (B.drop h)) (R (A.drop h) (B.take h))).length≤h:=by rw[iE];exact Nat.max_le.2 ⟨n3,n4⟩
 have cw3:=jm (bh (R (A.take h) (B.take h)) (R (R (A.drop h) (B.drop h)) (rt.getD j []))) h q1 (by omega);have cw4:=jm (bh (R (A.take h) (B.drop h)) (R (A.drop h) (B.take h))) h q2 (by omega);unfold fZ;refine qX 2 rfl ?_;refine aa.call tok rfl rfl rfl rfl cw1 ?_;refine qU 2 rfl ?_;refine aa.call tok rfl rfl rfl rfl cw2 ?_;refine qU 2 rfl ?_;refine qK 1 rfl ?_;refine aa.call tok rfl rfl rfl rfl cp ?_;refine qU 5 rfl ?_;refine qI ?_;refine AW.draw aI 19 (by kernel_rfl) ?_;refine qP 2 rfl ?_;refine af.div tok rfl rfl rfl rfl rfl (by decide) ?_;rw[f' _ (by omega),← hh];refine af.fC tok (a:=A) (A.take h) rfl rfl rfl rfl rfl trivial (Int.natCast_nonneg h) (Nat.zero_le _) (show h≤A.length by omega) rfl ?_;refine qP 2 rfl ?_;refine af.div tok rfl rfl rfl rfl rfl (by decide) ?_;rw[f' _ (by omega),← hh];refine af.fC tok (a:=A) (A.drop h) rfl rfl rfl rfl rfl (Int.natCast_nonneg h) trivial (show h≤A.length by omega) (Nat.le_refl _) (by show (A.take A.length).drop h=_;rw[List.take_length]) ?_;refine qP 2 rfl ?_;refine af.div tok rfl rfl rfl rfl rfl (by decide) ?_;rw[f' _ (by omega),← hh];refine af.fC tok (a:=B) (B.take h) rfl rfl rfl rfl rfl trivial (Int.natCast_nonneg h) (Nat.zero_le _) (show h≤B.length by omega) rfl ?_;refine qP 2 rfl ?_;refine af.div tok rfl rfl rfl rfl rfl (by decide) ?_;rw[f' _ (by omega),← hh];refine af.fC tok (a:=B) (B.drop h) rfl rfl rfl rfl rfl (Int.natCast_nonneg h) trivial (show h≤B.length by omega) (Nat.le_refl _) (by show (B.take B.length).drop h=_;rw[List.take_length]) ?_;refine qP 3 rfl ?_;refine af.nil ?_;refine qU 1 rfl ?_;refine aa.nil ?_;refine AW.da [3,7,8,10,11,12,13] ?_;show AW _ _ _ _ _ _ _ [(3,.bx [.sl 1 xs]),(7,.d (dI n)),(8,.d (dI (j+1:Nat))),(10,.d (ae (A.take h))),(11,.d (ae (A.drop h))),(12,.d (ae (B.take h))),(13,.d (ae (B.drop h)))];refine AW.seq ?_;refine AW.draw aI 17 (by kernel_rfl) ?_;refine qP 3 rfl ?_;refine af.call tok rfl rfl rfl rfl rfl r1.1 ?_;refine qP 4 rfl ?_;refine af.call tok rfl rfl rfl rfl rfl r2.1 ?_;refine qP 4 rfl ?_;rw[au (x:=((j+1:Nat):Int) -1) (by omega) (by omega),show ((j+1:Nat):Int) -1=(j:Int) by omega];refine af.idx tok (ae (rt.getD j [])) rfl rfl rfl rfl rfl (Int.natCast_nonneg j) (hxs j (by omega)) ?_;refine qP 1 rfl ?_;refine af.call tok rfl rfl rfl rfl rfl r5.1 ?_;refine af.call tok rfl rfl rfl rfl rfl p1 ?_;refine af.nil ?_;refine qU 1 rfl ?_;refine qI ?_;refine AW.draw aI 9 (by kernel_rfl) ?_;refine qP 3 rfl ?_;refine af.call tok rfl rfl rfl rfl rfl r3.1 ?_;refine qP 3 rfl ?_;refine af.call tok rfl rfl rfl rfl rfl r4.1 ?_;refine af.call tok rfl rfl rfl rfl rfl p2 ?_;refine af.nil ?_;refine qU 1 rfl ?_;refine aa.nil ?_;have l1:=bj (bh (R (A.take h) (B.take h)) (R (R (A.drop h) (B.drop h)) (rt.getD j []))) h;have l2:=bj (bh (R (A.take h) (B.drop h)) (R (A.drop h) (B.take h))) h;generalize bh (R (A.take h) (B.take h)) (R (R (A.drop h) (B.drop h)) (rt.getD j []))=P1 at *;generalize bh (R (A.take h) (B.drop h)) (R (A.drop h) (B.take h))=P2 at *;refine AW.da [7,14,15] ?_;show AW _ _ _ _ _ _ _ [(7,.d (dI n)),(14,.d (ae P1)),(15,.d (ae P2))];generalize aX P1 h=wa at *;generalize aX P2 h=wb at *;refine AW.seq ?_;refine AZ.aw ?_;refine AZ.region ?_;refine an.cut 3 rfl (fun B1 F1 w1=>?_);refine qU 2 rfl ?_;refine aa.div tok rfl rfl rfl rfl (by decide) ?_;rw[f' _ (by omega),← hh];refine aa.nil ⟨rfl,?_⟩;refine an.a7 tok [] rfl rfl rfl rfl rfl List.nodup_nil rfl cw3 (fun _ _ _=>Nat.zero_le _) (fun res R1 hP=>?_);obtain ⟨V1,rfl,rfl⟩:=hP;refine an.cut 3 rfl (fun B1 F1 w1=>?_);refine qU 2 rfl ?_;refine aa.div tok rfl rfl rfl rfl (by decide) ?_;rw[f' _ (by omega),← hh];refine aa.nil ⟨rfl,?_⟩;refine an.a7 tok [] rfl rfl rfl rfl rfl List.nodup_nil rfl cw4 (fun _ _ _=>Nat.zero_le _) (fun res R1 hP=>?_);obtain ⟨V2,rfl,rfl⟩:=hP;refine an.to [99,103] [(99,.d (.v V1)),(103,.d (.v V2))] rfl ?_;refine an.cy 99 0 (V:=V1) (av:= .ow 68 (dV wa)) rfl rfl rfl ?_;refine an.to [99,103] [(99,.ow 68 (dV wa)),(103,.d (.v V2))] rfl ?_;refine an.cy 103 1 (V:=V2) (av:= .ow 68 (dV wb)) rfl rfl rfl ?_;refine an.to [99,103] [(99,.ow 68 (dV wa)),(103,.ow 68 (dV wb))] rfl ?_;refine an.cut 2 rfl (fun B1 F1 w1=>?_);refine aa.gO tok 103 rfl rfl ?_;refine aa.kI tok rfl rfl rfl rfl rfl rfl (by rw[List.length_map,List.length_map,l1,l2];show (_+_)*56≤_;omega) (by rw[List.length_map,List.length_map,l1,l2];omega) ?_;refine qU 1 rfl ?_;refine aa.nil ⟨rfl,?_⟩;refine an.nil ?_;rw[show dV wa++dV wb=dV (wa++wb) from List.map_append.symm];exact AW.ret rfl
theorem fI: ∀(l:Nat) {k:Nat} {rt:List NQ} {xs:List D} {a b:NQ},ay l a→ay l b→db rt→l≤rt.length→l≤5→(∀j,j<rt.length→xs[j]?=some (ae (rt.getD j [])))→az k a→az k b→fA k rt→sT l k≤17300000000000→Pure Tryz.prog 157 [.ag [.sl 1 xs],ae a,ae b] (ae (ev l rt a b))
 | 0,k,rt,xs,a,b,ha,hb,hrt,hl,hl5,hxs,sa,sb,sr,hk=>pJ ha hb hrt hl hl5 hxs sa sb sr hk (fun l' h=>by omega)
 | l+1,k,rt,xs,a,b,ha,hb,hrt,hl,hl5,hxs,sa,sb,sr,hk=>pJ ha hb hrt hl hl5 hxs sa sb sr hk (fun l' e a' b' m hm h1 h2 h3 h4 h5=>by
    obtain rfl:l=l':=by omega
    exact⟨fI l h1 h2 hrt (by omega) (by omega) hxs h3 h4 (sr.mono hm) h5,x9 l h1 h2,fm l h1 h2 hrt (by omega) h3 h4 (sr.mono hm)⟩)
end Lift
namespace Lift
open Go Go.Proofs
theorem BI{l k j:Nat}{rt:List NQ}{a:NQ}(hj:j≤l)(ha:a.length=2^(j+1))(hrt:db rt)(hl:l<rt.length)(sa:az k a)(sr:fA k rt):ay l (jF l rt a)∧az (sT (l+1) k) (jF l rt a):=by
 obtain ⟨e1,e2,e3⟩:=bG ha;have hx:ay l (a.take (a.length / 2)):= .inr ⟨j,hj,e1⟩;have hy:ay l (a.drop (a.length / 2)):= .inr ⟨j,hj,e2⟩;have hlog:a.length.log2-1=j:=by rw[ha,Nat.log2_two_pow];omega
 have hd:ay l (rt.getD j []):= .inr ⟨j,hj,hrt j (by omega)⟩;have h0:=bS l k;have h1:=bS l (sT l k);have r1:=fm l hx hx hrt (by omega) (sa.take _) (sa.take _) sr;have r2:=fm l hy hy hrt (by omega) (sa.drop _) (sa.drop _) sr;have r3:=fm l r2.1 hd hrt (by omega) r2.2 ((sr _).mono (by omega)) (sr.mono (by omega));unfold jF;rw[hlog];refine⟨r1.1.plus r3.1.minus,(r1.2.plus r3.2.minus).mono ?_⟩;show _≤sT l (sT l k)+sT l k+1;omega
theorem wJ{l k j:Nat}{rt:List NQ}{xs:List D}{a:NQ}(hj:j≤l)(ha:a.length=2^(j+1))(hrt:db rt)(hl:l<rt.length)(hl5:l+1≤5)(hxs: ∀j,j<rt.length→xs[j]?=some (ae (rt.getD j [])))(sa:az k a)(sr:fA k rt)(hk:sT (l+1) k≤17300000000000):
  Pure Tryz.prog 116 [.ag [.sl 1 xs],ae a,dI a.length] (ae (jF l rt a)):=by
 refine qJ 45 Tryz.func116 rfl rfl rfl rfl (by kernel_rfl) (fun B F0 w0=>?_);obtain ⟨e1,e2,e3⟩:=bG ha;have hx:ay l (a.take (a.length / 2)):= .inr ⟨j,hj,e1⟩;have hy:ay l (a.drop (a.length / 2)):= .inr ⟨j,hj,e2⟩;have hlog:a.length.log2-1=j:=by rw[ha,Nat.log2_two_pow];omega
 have hd:ay l (rt.getD j []):= .inr ⟨j,hj,hrt j (by omega)⟩;have h0:=bS l k;have h1:=bS l (sT l k);have hk:sT l (sT l k)+sT l k+1≤17300000000000:=hk;have hp:2^(j+1)≤2^10:=Nat.pow_le_pow_right (by decide) (by omega);have r1:=fm l hx hx hrt (by omega) (sa.take _) (sa.take _) sr;have r2:=fm l hy hy hrt (by omega) (sa.drop _) (sa.drop _) sr;have r3:=fm l r2.1 hd hrt (by omega) r2.2 ((sr _).mono (by omega)) (sr.mono (by omega));have c1:=fI l hx hx hrt (by omega) (by omega) hxs (sa.take _) (sa.take _) sr (by omega);have c2:=fI l hy hy hrt (by omega) (by omega) hxs (sa.drop _) (sa.drop _) sr (by omega);have c3:=fI l r2.1 hd hrt (by omega) (by omega) hxs r2.2 ((sr j).mono (by omega)) (sr.mono (by omega)) (by omega);have n1:=r1.1.len (by omega);have n3:=r3.1.len (by omega);have c4:=jq _ r3.2 (by omega) (by omega);have c5:=fo _ _ (k:=sT l (sT l k)) (r1.2.mono (by omega)) r3.2.minus (by omega) (by omega) (by rw[fc];omega);have cw:=kx a a.length (Nat.le_refl _) (by omega);rw[mL] at cw;have cp:=eT ha (by omega);unfold jF;rw[hlog];obtain ⟨n,hn⟩: ∃n,n=a.length / 2:=⟨_,rfl⟩;rw[← hn] at e1 e2 e3 hx hy c1 c2 c3 c4 c5 ⊢;refine qX 2 rfl ?_;refine qK 2 rfl ?_;refine aa.call tok rfl rfl rfl rfl cw ?_;refine qU 1 rfl ?_;refine qK 1 rfl ?_;refine aa.call tok rfl rfl rfl rfl cp ?_;refine qU 5 rfl ?_;refine qI ?_;refine AW.draw aI 9 (by kernel_rfl) ?_;refine qP 2 rfl ?_;refine af.div tok rfl rfl rfl rfl rfl (by decide) ?_;rw[f' _ (by omega),← hn];refine af.fC tok (a:=a) (a.take n) rfl rfl rfl rfl rfl trivial (Int.natCast_nonneg n) (Nat.zero_le _) (show n≤a.length by omega) rfl ?_;refine qP 2 rfl ?_;refine af.div tok rfl rfl rfl rfl rfl (by decide) ?_;rw[f' _ (by omega),← hn];refine af.fC tok (a:=a) (a.drop n) rfl rfl rfl rfl rfl (Int.natCast_nonneg n) trivial (show n≤a.length by omega) (Nat.le_refl _) (by show (a.take a.length).drop n=_;rw[List.take_length]) ?_;refine qP 1 rfl ?_;refine af.nil ?_;refine qU 1 rfl ?_;refine qI ?_;refine AW.draw aI 18 (by kernel_rfl) ?_;refine qP 3 rfl ?_;refine af.call tok rfl rfl rfl rfl rfl c1 ?_;refine qP 4 rfl ?_;refine af.call tok rfl rfl rfl rfl rfl c2 ?_;refine qP 4 rfl ?_;rw[au (x:=((j+1:Nat):Int) -1) (by omega) (by omega),show ((j+1:Nat):Int) -1=(j:Int) by omega];refine af.idx tok (ae (rt.getD j [])) rfl rfl rfl rfl rfl (Int.natCast_nonneg j) (hxs j (by omega)) ?_;refine qP 1 rfl ?_;refine af.call tok rfl rfl rfl rfl rfl c3 ?_;refine af.call tok rfl rfl rfl rfl rfl c4 ?_;refine af.call tok rfl rfl rfl rfl rfl c5 ?_;refine af.nil ?_;refine qU 1 rfl ?_;exact qN rfl
theorem tV{R:NQ→Int}{N:NQ→NQ}{rt:List NQ}{a:NQ}(hR: ∀b,tL (R b)):tL (mA R N rt a):=by
 unfold mA;split
 · exact .inl rfl
 split
 · exact oP _
 split
 · exact hR _
 split
 · exact ko (hR _) (hR _)
 · exact ko (hR _) (hR _)
theorem rB: ∀(l:Nat) (rt:List NQ) (a:NQ),tL (oQ l rt a)
 | 0,rt,a=>tV (fun _=> .inl rfl)
 | l+1,rt,a=>tV (fun b=>rB l rt b)
set_option maxHeartbeats 1600000 in
theorem rA{l k:Nat}{R:NQ→Int}{N:NQ→NQ}{rt:List NQ}{xs:List D}{a:NQ}(ha:ay l a)(hl5:l≤5)(hrt:db rt)(hl:l≤rt.length)(hxs: ∀j,j<rt.length→xs[j]?=some (ae (rt.getD j [])))(sa:az k a)(sr:fA k rt)(hok:oF l k)
  (hR: ∀l',l=l'+1→ ∀b m,ay l' b→az m b→k≤m→oF l' m→Pure Tryz.prog 67 [.ag [.sl 1 xs],ae b] (dI (R b))) (hT: ∀b,tL (R b))
  (hN: ∀l',l=l'+1→ ∀b j,j≤l'→b.length=2^(j+1)→az k b→Pure Tryz.prog 116 [.ag [.sl 1 xs],ae b,dI b.length] (ae (N b))∧ay l' (N b)∧az (sT l k) (N b)):
  Pure Tryz.prog 67 [.ag [.sl 1 xs],ae a] (dI (mA R N rt (aG a))):=by
 refine qJ 70 Tryz.func67 rfl rfl rfl rfl (by kernel_rfl) (fun B F0 w0=>?_);have hk:=vf hok;have cs:=dq a ha hl5;obtain ⟨ha,sa⟩:=bk ha sa;generalize aG a=b at cs ha sa ⊢;have hlb:=ha.len (by omega);unfold mA;refine qX 2 rfl ?_;refine qK 1 rfl ?_;refine aa.call tok rfl rfl rfl rfl cs ?_;refine qU 1 rfl ?_;refine qI ?_;refine qX 2 rfl ?_;rw[List.length_map];refine qU 1 rfl ?_;refine aa.nil ?_;by_cases h0:b.length=0
 · rw[if_pos h0,h0];refine AW.aB rfl ?_;refine qX 1 rfl ?_;exact qN rfl
 rw[if_neg h0,beq_eq_false_iff_ne.2 (show (b.length:Int)≠0 by omega)];refine AW.ar rfl ?_;refine AW.skip ?_;refine qX 2 rfl ?_;rw[List.length_map];refine qU 1 rfl ?_;refine qI ?_;refine qX 2 rfl ?_;refine aa.nil ?_;by_cases h1:b.length=1
 · have g:=kY (r:=b) (i:=0) (by omega);have cq:=lB (Qr (b.getD 0 0)) (eN _ (sa 0)) (by omega);rw[bH,uN] at cq;rw[if_pos h1,h1];refine AW.aB rfl ?_;refine qX 1 rfl ?_;refine aa.idx tok (Qr (b.getD 0 0)).D rfl rfl rfl rfl (Int.le_refl _) g ?_;refine qU 1 rfl ?_;refine aa.call tok rfl rfl rfl rfl cq ?_;refine qU 1 rfl ?_;exact qN rfl
 rw[if_neg h1,beq_eq_false_iff_ne.2 (show (b.length:Int)≠1 by omega)];refine AW.ar rfl ?_;refine AW.skip ?_
 obtain ⟨i,hi,hla2⟩: ∃i,i≤l∧b.length=2^i:=by
  rcases ha with e | e
  · omega
  · exact e
 have vX:i≠0:=fun e=>h1 (by rw[hla2,e]);obtain ⟨j,rfl⟩: ∃j,i=j+1:=⟨i-1,by omega⟩;obtain ⟨l',rfl⟩: ∃l',l=l'+1:=⟨l-1,by omega⟩;have hj:j≤l':=by omega
 have hN:=hN l' rfl b j hj hla2 sa;have hR:=fun b m h1 h2 h3 h4=>hR l' rfl b m h1 h2 h3 h4;obtain ⟨e1,e2,e3⟩:=bG hla2;have hx:ay l' (b.take (b.length / 2)):= .inr ⟨j,hj,e1⟩;have hy:ay l' (b.drop (b.length / 2)):= .inr ⟨j,hj,e2⟩;have hlog:b.length.log2-1=j:=by rw[hla2,Nat.log2_two_pow];omega
 have hd:ay l' (rt.getD j []):= .inr ⟨j,hj,hrt j (by omega)⟩;have hk2:=bS (l'+1) k;have r1:=hR _ k hx (sa.take _) (Nat.le_refl _) (iR hok);have r2:=hR _ k hy (sa.drop _) (Nat.le_refl _) (iR hok);have r3:=hR _ k hd (sr j) (Nat.le_refl _) (iR hok);have r4:=hR _ _ hN.2.1 hN.2.2 (by omega) hok.2;have t1:=hT (b.take (b.length / 2));have t2:=ko (hT (b.drop (b.length / 2))) (hT (rt.getD j []));have t4:=ko t1 (hT (N b));have cn:=hN.1;have cp:=eT hla2 (by omega);rw[hlog];obtain ⟨n,hn⟩: ∃n,n=b.length / 2:=⟨_,rfl⟩;rw[← hn] at e1 e2 e3 hx hy r1 r2 t1 t2 t4 ⊢;generalize R (b.take n)=x at r1 t1 t4 ⊢;generalize R (b.drop n)=y at r2 t2 ⊢;generalize R (rt.getD j [])=z at r3 t2 ⊢;generalize R (N b)=u at r4 t4 ⊢;refine qX 1 rfl ?_;refine aa.call tok rfl rfl rfl rfl cp ?_;refine qU 5 rfl ?_;refine qK 4 rfl ?_;rw[au (x:=((j+1:Nat):Int) -1) (by omega) (by omega),show ((j+1:Nat):Int) -1=(j:Int) by omega];refine aa.idx tok (ae (rt.getD j [])) rfl rfl rfl rfl (Int.natCast_nonneg j) (hxs j (by omega)) ?_;refine qU 2 rfl ?_;refine qI ?_;refine AW.draw aI 17 (by kernel_rfl) ?_;refine qP 3 rfl ?_;refine af.div tok rfl rfl rfl rfl rfl (by decide) ?_;rw[f' _ (by omega),← hn];refine af.fC tok (a:=b) (b.take n) rfl rfl rfl rfl rfl trivial (Int.natCast_nonneg n) (Nat.zero_le _) (show n≤b.length by omega) rfl ?_;refine af.call tok rfl rfl rfl rfl rfl r1 ?_;refine qP 3 rfl ?_;refine af.div tok rfl rfl rfl rfl rfl (by decide) ?_;rw[f' _ (by omega),← hn];refine af.fC tok (a:=b) (b.drop n) rfl rfl rfl rfl rfl (Int.natCast_nonneg n) trivial (show n≤b.length by omega) (Nat.le_refl _) (by show (b.take b.length).drop n=_;rw[List.take_length]) ?_;refine af.call tok rfl rfl rfl rfl rfl r2 ?_;refine qP 2 rfl ?_;refine af.call tok rfl rfl rfl rfl rfl r3 ?_;refine qP 1 rfl ?_;rw[au (x:=y*z) (by unfold tL at t2;omega) (by unfold tL at t2;omega)];refine qP 1 rfl ?_;refine af.nil ?_;refine qU 1 rfl ?_;refine aa.nil ?_;refine AW.da [1,2,5,9,10] ?_;show AW _ _ _ _ _ _ _ [(1,.d (ae b)),(2,.bx [.sl 1 xs]),(5,.d (dI b.length)),(9,.d (.v (.int .i64 x))),(10,.d (.v (.int .i64 (y*z))))];generalize y*z=yz at t2 ⊢;refine AW.seq ?_;refine qX 3 rfl ?_;by_cases hxy:x=yz
 · have hor:x=yz∨yz=0:= .inl hxy;rw[if_pos hor,beq_iff_eq.2 hxy];refine qU 4 rfl ?_;refine aa.nil ?_;refine AW.aB rfl ?_;refine qX 2 rfl ?_;exact qN rfl
 rw[beq_eq_false_iff_ne.2 hxy];refine qU 3 rfl ?_;by_cases hy0:yz=0
 · have hor:x=yz∨yz=0:= .inr hy0;rw[if_pos hor,beq_iff_eq.2 hy0];refine qU 1 rfl ?_;refine aa.nil ?_;refine AW.aB rfl ?_;refine qX 2 rfl ?_;exact qN rfl
 have hor: ¬(x=yz∨yz=0):=fun h=>h.elim hxy hy0;rw[if_neg hor,beq_eq_false_iff_ne.2 hy0];refine qU 1 rfl ?_;refine aa.nil ?_;refine AW.ar rfl ?_;refine AW.skip (AW.seq ?_);refine qX 2 rfl ?_;refine aa.nil ?_;by_cases hx0:x=0
 · rw[if_pos hx0,beq_iff_eq.2 hx0];refine AW.aB rfl ?_;refine qX 2 rfl ?_;exact qN rfl
 rw[if_neg hx0,beq_eq_false_iff_ne.2 hx0];refine AW.ar rfl ?_;refine AW.skip (AW.seq ?_);refine AW.draw aI 8 (by kernel_rfl) ?_;refine qP 5 rfl ?_;refine af.call tok rfl rfl rfl rfl rfl cn ?_;refine af.call tok rfl rfl rfl rfl rfl r4 ?_;refine qP 1 rfl ?_;rw[au (x:=x*u) (by unfold tL at t4;omega) (by unfold tL at t4;omega)];refine af.nil ?_;refine qU 1 rfl ?_;exact qN rfl
theorem lA: ∀(l:Nat) {k:Nat} {rt:List NQ} {xs:List D} {a:NQ},ay l a→l≤5→db rt→l≤rt.length→(∀j,j<rt.length→xs[j]?=some (ae (rt.getD j [])))→az k a→fA k rt→oF l k→Pure Tryz.prog 67 [.ag [.sl 1 xs],ae a] (dI (oQ l rt a))
 | 0,k,rt,xs,a,ha,hl5,hrt,hl,hxs,sa,sr,hok=>rA ha hl5 hrt hl hxs sa sr hok (fun l' h=>by omega) (fun _=> .inl rfl) (fun l' h=>by omega)
 | l+1,k,rt,xs,a,ha,hl5,hrt,hl,hxs,sa,sr,hok=>rA ha hl5 hrt hl hxs sa sr hok (fun l' e b m h1 h2 h3 h4=>by
    obtain rfl:l=l':=by omega
    exact lA l h1 (by omega) hrt (by omega) hxs h2 (sr.mono h3) h4) (rB l rt) (fun l' e b j h1 h2 h3=>by
    obtain rfl:l=l':=by omega
    exact⟨wJ h1 h2 hrt (by omega) (by omega) hxs h3 sr hok.1,BI h1 h2 hrt (by omega) h3 sr⟩)
end Lift
namespace Lift
open Go Go.Proofs
theorem E8{v:List NQ}(ro:db v)(ps: ∀k,k<v.length→ ¬eG k (v.take k) (v.getD k [])<0):Ag v:=fun j hj=>by
 have h:=ps j hj
 have e: ∀i,i<j→(v.take j).getD i []=v.getD i []:=fun i hi=>by
  rw[List.getD_eq_getElem?_getD,List.getElem?_take_of_lt hi,List.getD_eq_getElem?_getD]
 have ro2:db (v.take j):=fun i hi=>by
  rw[List.length_take] at hi;rw[e i (by omega)];exact ro i (by omega)
 have lt:ay j (v.getD j []):= .inr ⟨j,Nat.le_refl _,ro j hj⟩;rw[kr j lt ro2 (by rw[List.length_take];omega)] at h
 have key: ∀(l:Nat) (a:Cf),l≤j→bD (v.take j) l a=bD v l a∧ ∀b:Cf,mulC (v.take j) l a b=mulC v l a b:=by
  intro l
  induction l with
  | zero=>exact fun a _=>⟨rfl,fun b=>rfl⟩
  | succ l ih =>
    intro a hl;have hm: ∀x y:Cf,mulC (v.take j) l x y=mulC v l x y:=fun x y=>(ih x (by omega)).2 y;have hs: ∀x:Cf,bD (v.take j) l x=bD v l x:=fun x=>(ih x (by omega)).1;refine⟨?_,fun b=>?_⟩
    · unfold bD ij;simp only[hm,hs,e l (by omega)]
    · funext i;show (if i<2^l then mulC (v.take j) l a b i+mulC (v.take j) l (mulC (v.take j) l (eK l a) (eK l b)) (cf ((v.take j).getD l [])) i else mulC (v.take j) l a (eK l b) (i-2^l)+mulC (v.take j) l (eK l a) b (i-2^l))=_;simp only[hm,e l (by omega)];rfl
 rw[(key j _ (Nat.le_refl _)).1] at h;omega
theorem BN{rt:List (List RD)}{i:Nat}(hi:i≤rt.length)(h: ∀j,j<i→sV rt j=0):Ag ((rt.take i).map aC):=E8 (kn hi h) (fun k hk=>by
 rw[eP hi] at hk;have h1:=(gi (h k hk)).2.2;rw[nw hk,← List.map_take,List.take_take,Nat.min_eq_left (by omega)]
 exact h1)
theorem Bt{rt:List (List RD)}{i:Nat}(hi:i≤rt.length)(h: ∀j,j<i→sV rt j=0){a:NQ}(ha:ay i a):oQ i ((rt.take i).map aC) a=eG i ((rt.take i).map aC) a:=by
 rw[jS i ha (kn hi h) (BN hi h) (by rw[eP hi];exact Nat.le_refl _),kr i ha (kn hi h) (by rw[eP hi];exact Nat.le_refl _)]
theorem BG{rt:List (List RD)}{k m:Nat}(hw: ∀i,i<k→wN m (rt.getD i []))(hk:k≤rt.length)(h: ∀j,j<k→jw (rt.getD j [])=true): ∀j,j<((rt.take k).map aC).length→(rt.map a9)[j]?=some (ae (((rt.take k).map aC).getD j [])):=fun j hj=>by
 rw[eP hk] at hj;have hj2:j<rt.length:=by omega
 rw[nw hj,← j0 (hw j hj) (h j hj)];simp[hj2]
theorem nN(rt:List (List RD)){m:Nat}(hw: ∀i,i<rt.length→(rt.getD i []).length=2^i→wN m (rt.getD i []))(h1:1≤m)(hl:rt.length≤1000000)(hll: ∀i,i<rt.length→(rt.getD i []).length≤4398046511104)(hok:rt.length≤5→oF rt.length m):Pure Tryz.prog 37 [sW rt] (dI (cJ rt)):=by
 refine qJ 34 Tryz.func37 rfl rfl rfl rfl (by kernel_rfl) (fun B F0 w0=>?_);unfold cJ;obtain ⟨E,hE⟩: ∃E,fE (sV rt) (rt.length-0) 0=E:=⟨_,rfl⟩;rw[hE];refine qX 2 rfl ?_;refine qI ?_;refine qX 3 rfl ?_;rw[List.length_map];refine qU 1 rfl ?_;refine aa.nil ?_;by_cases h5:5<rt.length
 · rw[if_pos h5,decide_eq_true (show (5:Int)<(rt.length:Int) by omega)];refine AW.aB rfl ?_;refine qX 1 rfl ?_;exact qN rfl
 rw[if_neg h5,decide_eq_false (show ¬(5:Int)<(rt.length:Int) by omega)];have hok:=hok (by omega);have hm7:=vf hok;refine AW.ar rfl ?_;refine AW.skip (AW.seq ?_);refine qX 3 rfl ?_;rw[List.length_map];refine qU 1 rfl ?_;refine aa.nil ?_;refine AW.block ?_;refine AW.aD [1,11,12,13] (fun i:Nat=>[(1,.bx [.sl 1 (rt.map a9)]),(11,.d (.sl 1 (rt.map a9))),(12,.d (dI rt.length)),(13,.d (dI i))]) (fun i=>i≤rt.length∧fE (sV rt) (rt.length-i) i=E∧ ∀j,j<i→sV rt j=0) (fun i=>rt.length-i) 0 rfl ⟨Nat.zero_le _,hE,fun j hj=>by omega⟩ (fun i ⟨hi,hiE,hall⟩=>?_);refine qX 1 rfl ?_;refine qI ?_;refine AW.cond rfl (fun h=>?_) (fun h=>?_);rotate_left
 · have hii: ¬i<rt.length:=by have:=of_decide_eq_false h;omega
   rw[dy hii] at hiE;subst hiE;refine AW.exit ?_;refine qX 1 rfl ?_;exact qN rfl
 have hii:i<rt.length:=by have:=of_decide_eq_true h;omega
 have hg:(rt.map a9)[i]?=some (a9 (rt.getD i [])):=by simp[hii]
 have hwi:=hw i hii;have hli:=hll i hii;have hmiss:=fun h0:sV rt i=0=>(bX hii h0).symm.trans hiE;have hhit:=fun h0:sV rt i≠0=>(dw hii h0).symm.trans hiE;have hp:2^i≤2^5:=Nat.pow_le_pow_right (by decide) (by omega);have hrt:sV rt i=if (rt.getD i []).length≠2^i then 10 else if bz i (rt.getD i [])≠0 then bz i (rt.getD i []) else if eG i ((rt.take i).map aC) (aC (rt.getD i []))<0 then 3 else 0:=rfl
 refine AW.skip (AW.seq (AW.block ?_));refine qX 1 rfl ?_;refine aa.idx tok (a9 (rt.getD i [])) rfl rfl rfl rfl (Int.natCast_nonneg i) hg ?_;refine qU 3 rfl ?_;refine qI ?_;refine qX 2 rfl ?_;rw[List.length_map];refine qU 2 rfl ?_;rw[wk (by omega)];refine qU 1 rfl ?_;refine aa.nil ?_;by_cases e1:(rt.getD i []).length=2^i;rotate_left
 · rw[if_pos e1] at hrt;rw[bne_iff_ne.2 (show (((rt.getD i []).length:Nat):Int)≠((2^i:Nat):Int) by omega)];have:=hhit (by rw[hrt];decide);rw[hrt] at this;subst this;refine AW.aB rfl ?_;refine qX 1 rfl ?_;exact qN rfl
 rw[if_neg (fun h=>h e1)] at hrt;have hwi:=hwi e1;have cn:=mD i (rt.getD i []) (by omega) (fun _=>hwi) (by omega) hli;rw[e1,bne_eq_false_iff_eq.2 rfl];refine AW.ar rfl ?_;refine AW.skip (AW.seq ?_);refine qX 2 rfl ?_;refine aa.call tok rfl rfl rfl rfl cn ?_;refine qU 1 rfl ?_;refine qK 2 rfl ?_;refine aa.nil ?_;by_cases e2:bz i (rt.getD i [])=0;rotate_left
 · rw[if_pos e2] at hrt;have:=hhit (by rw[hrt];exact e2);rw[hrt] at this;subst this;rw[bne_iff_ne.2 (show ((bz i (rt.getD i []):Nat):Int)≠0 by omega)];refine AW.aB rfl ?_;refine qX 2 rfl ?_;exact qN rfl
 rw[if_neg (fun h=>h e2)] at hrt;rw[bne_eq_false_iff_eq.2 (show ((bz i (rt.getD i []):Nat):Int)=0 by omega)];obtain ⟨n1,n2⟩:=nV e2;have hwj:=fun j (hj:j<i)=>hw j (by omega) (gi (hall j hj)).1;have cs:=lA i (k:=m) (rt:=(rt.take i).map aC) (xs:=rt.map a9) n1 (by omega) (kn hi hall) (by rw[eP hi];exact Nat.le_refl _) (BG hwj hi (fun j hj=>(gi (hall j hj)).2.1)) (lu hwi h1) (qt hwj h1 hi) (ve hok hi);have tr:=l4 i ((rt.take i).map aC) (aC (rt.getD i []));rw[Bt hi hall n1,← j0 hwi n2] at cs;generalize eG i ((rt.take i).map aC) (aC (rt.getD i []))=s at cs hrt tr;refine AW.ar rfl ?_;refine AW.skip ?_;refine qX 2 rfl ?_;refine aa.call tok rfl rfl rfl rfl cs ?_;refine qU 1 rfl ?_;refine aa.nil ?_;by_cases e3:s<0
 · rw[if_pos e3] at hrt;rw[decide_eq_true e3];have:=hhit (by rw[hrt];decide);rw[hrt] at this;subst this;refine AW.aB rfl ?_;refine qX 1 rfl ?_;exact qN rfl
 rw[if_neg e3] at hrt;rw[decide_eq_false e3];refine AW.ar rfl ?_;refine AW.skip ?_;refine qT 1 rfl ?_;rw[au (x:=(i:Int)+1) (by omega) (by omega)];refine qU 1 rfl ?_;refine aa.nil ?_
 exact⟨i+1,rfl,⟨hii,hmiss hrt,fun j hj=>by
  by_cases e:j=i
  · rw[e];exact hrt
  · exact hall j (by omega)⟩,by omega⟩
theorem mC(rt l:List (List RD)){m mn:Nat}(hw: ∀i,i<rt.length→(rt.getD i []).length=2^i→wN m (rt.getD i []))(h1:1≤m)(hl:rt.length≤1000000)(hll: ∀i,i<rt.length→(rt.getD i []).length≤4398046511104)(hok:rt.length≤5→oF rt.length m)
  (hlw: ∀i,i<l.length→ze rt.length (l.getD i [])→wN mn (l.getD i [])) (hl2:l.length≤1000000) (hl3: ∀i,i<l.length→(l.getD i []).length≤4398046511104) (hm:mn≤17300000000000):Pure Tryz.prog 69 [sW rt,.sl 1 (l.map a9)] (dI (iY rt l)):=by
 refine qJ 29 Tryz.func69 rfl rfl rfl rfl (by kernel_rfl) (fun B F0 w0=>?_);have cC:=nN rt hw h1 hl hll hok;unfold iY;obtain ⟨E,hE⟩: ∃E,fE (fun i=>bz rt.length (l.getD i [])) (l.length-0) 0=E:=⟨_,rfl⟩;rw[hE];refine qX 2 rfl ?_;refine qI ?_;refine qX 1 rfl ?_;refine aa.call tok rfl rfl rfl rfl cC ?_;refine qU 1 rfl ?_;refine qK 2 rfl ?_;refine aa.nil ?_;by_cases e2:cJ rt=0;rotate_left
 · rw[if_pos e2,bne_iff_ne.2 (show ((cJ rt:Nat):Int)≠0 by omega)];refine AW.aB rfl ?_;refine qX 2 rfl ?_;exact qN rfl
 have h5:=(ou e2).1;rw[if_neg (fun h=>h e2),bne_eq_false_iff_eq.2 (show ((cJ rt:Nat):Int)=0 by omega)];refine AW.ar rfl ?_;refine AW.skip (AW.seq ?_);refine qX 2 rfl ?_;rw[List.length_map];refine qU 1 rfl ?_;refine aa.nil ?_;refine AW.block ?_;refine AW.aD [2,14,15,16] (fun i:Nat=>[(2,.bx [.sl 1 (rt.map a9)]),(14,.d (.sl 1 (l.map a9))),(15,.d (dI l.length)),(16,.d (dI i))]) (fun i=>i≤l.length∧fE (fun i=>bz rt.length (l.getD i [])) (l.length-i) i=E) (fun i=>l.length-i) 0 rfl ⟨Nat.zero_le _,hE⟩ (fun i ⟨hi,hiE⟩=>?_);refine qX 1 rfl ?_;refine qI ?_;refine AW.cond rfl (fun h=>?_) (fun h=>?_);rotate_left
 · have hii: ¬i<l.length:=by have:=of_decide_eq_false h;omega
   rw[dy hii] at hiE;subst hiE;refine AW.exit ?_;refine qX 1 rfl ?_;exact qN rfl
 have hii:i<l.length:=by have:=of_decide_eq_true h;omega
 have hg:(l.map a9)[i]?=some (a9 (l.getD i [])):=by simp[hii]
 have hmiss:=fun h0:bz rt.length (l.getD i [])=0=>(bX (f:=fun i=>bz rt.length (l.getD i [])) hii h0).symm.trans hiE;have hhit:=fun h0:bz rt.length (l.getD i [])≠0=>(dw (f:=fun i=>bz rt.length (l.getD i [])) hii h0).symm.trans hiE;have cn:=mD rt.length (l.getD i []) h5 (hlw i hii) hm (hl3 i hii);refine AW.skip (AW.seq (AW.block (AW.seq (AW.region ?_))));refine aa.idx tok (a9 (l.getD i [])) rfl rfl rfl rfl (Int.natCast_nonneg i) hg ?_;refine qU 2 rfl ?_;refine qK 3 rfl ?_;rw[List.length_map];refine qU 1 rfl ?_;refine aa.call tok rfl rfl rfl rfl cn ?_;refine qU 1 rfl ?_;refine aa.nil ?_;generalize bz rt.length (l.getD i [])=v at hmiss hhit;refine qX 2 rfl ?_;refine aa.nil ?_;by_cases hv:v=0;rotate_left
 · have:=hhit hv;subst this;rw[bne_iff_ne.2 (show ((v:Nat):Int)≠0 by omega)];refine AW.aB rfl ?_;refine qX 2 rfl ?_;exact qN rfl
 rw[bne_eq_false_iff_eq.2 (show ((v:Nat):Int)=0 by omega)];refine AW.ar rfl ?_;refine AW.skip ?_;refine qT 1 rfl ?_;rw[au (x:=(i:Int)+1) (by omega) (by omega)];refine qU 1 rfl ?_;refine aa.nil ?_;exact⟨i+1,rfl,⟨hii,hmiss hv⟩,by omega⟩
theorem wQ{m:Nat}{rt:List (List RD)}{a:List RD}(T:mr m rt)(A:iA m rt a):Pure Tryz.prog 69 [sW rt,.sl 1 [a9 a]] (dI (iY rt [a])):=by
 have hm:=T.m2
 have h0: ∀i,i<[a].length→i=0:=fun i hi=>by
  have:i<1:=hi;omega
 obtain ⟨m0,t1,t2,tw,tk⟩:=T.t;exact mC rt [a] tw t1 T.l T.ll tk (fun i hi=>by rw[h0 i hi];exact A.w) (show 1≤1000000 by decide) (fun i hi=>by rw[h0 i hi];exact A.l) (by omega)
theorem wO{m:Nat}{rt:List (List RD)}{a b:List RD}(T:mr m rt)(A:iA m rt a)(B:iA m rt b):Pure Tryz.prog 69 [sW rt,.sl 1 [a9 a,a9 b]] (dI (iY rt [a,b])):=by
 have hm:=T.m2
 have h0: ∀i,i<[a,b].length→i=0∨i=1:=fun i hi=>by
  have:i<2:=hi;omega
 obtain ⟨m0,t1,t2,tw,tk⟩:=T.t;exact mC rt [a,b] tw t1 T.l T.ll tk (fun i hi=>by rcases h0 i hi with rfl | rfl;exact A.w;exact B.w) (show 2≤1000000 by decide) (fun i hi=>by rcases h0 i hi with rfl | rfl;exact A.l;exact B.l) (by omega)
theorem im{m:Nat}{v:List NQ}{a b:NQ}(V:iz m v)(ha:ay v.length a)(sa:az m a)(hb:ay v.length b)(sb:az m b):Pure Tryz.prog 69 [aL v,.sl 1 [ae a,ae b]] (dI 0):=by
 have:=wO V.raw.1 (gD V ha sa) (gD V hb sb);rw[GO V ha hb,mQ,gY,gY] at this;exact this
end Lift
namespace Lift
open Go Go.Proofs
theorem ew(i:Int)(n:Nat):Pure Tryz.prog 64 [dI i,dI n] (dB (gL i n)):=by
 refine qJ 12 Tryz.func64 rfl rfl rfl rfl (by kernel_rfl) (fun B F0 w0=>?_);refine qX 1 rfl ?_;refine qK 2 rfl ?_;refine aa.split (t:=6) rfl (fun h=>?_) (fun h=>?_)
 · have h1:=of_decide_eq_true h;refine qU 6 rfl ?_;refine aa.nil ?_;rw[show gL i n=decide (i<n) by unfold gL;rw[decide_eq_decide];omega];exact AW.ret rfl
 · have h1:=of_decide_eq_false h;refine qU 6 rfl ?_;refine aa.nil ?_;rw[show gL i n=false by unfold gL;rw[decide_eq_false_iff_not];omega];exact AW.ret rfl
set_option maxHeartbeats 1600000 in
theorem th(b:Body){K:Nat}(hb:b.ok K)(hK:K≤50000000):Pure Tryz.prog 63 [b.D] (dI (oU b.pts:Nat)):=by
 refine qJ 50 Tryz.func63 rfl rfl rfl rfl (by kernel_rfl) (fun B F0 w0=>?_);obtain ⟨bn,ps⟩:=b;obtain ⟨_,hn,hm⟩:=hb;simp only[] at hn hm;unfold big at hn;show AW _ _ _ _ _ _ _ (df 0 [D.ag [dS bn,ni ps]]);simp only[];refine qX 2 rfl ?_;refine qI ?_;refine qX 4 rfl ?_;rw[List.length_map];refine aa.nil ?_;refine AW.cond rfl (fun h=>?_) (fun h=>?_)
 · have h8:8<ps.length:=by have:=of_decide_eq_true h;omega
   rw[oU,if_pos h8];refine qX 1 rfl ?_;exact qN rfl
 have h8: ¬8<ps.length:=by have:=of_decide_eq_false h;omega
 rw[oU,if_neg h8];refine AW.skip (AW.seq ?_);refine qX 1 rfl ?_;refine aa.nil ?_;refine AW.block ?_
 refine AW.aD [1,3] (fun i:Nat=>[(1,.bx [dS bn,ni ps]),(3,.d (dI i))])
  (fun i=>i≤ps.length∧fE (qz ps) ps.length 0=fE (qz ps) (ps.length-i) i) (fun i=>ps.length-i) 0 rfl ⟨Nat.zero_le _,rfl⟩ (fun i ⟨hi,hE⟩=>?_)
 refine AW.seq ?_;refine qX 5 rfl ?_;rw[List.length_map];refine aa.nil ?_;refine AW.cond rfl (fun h=>?_) (fun h=>?_)
 · have hin:i<ps.length:=by have:=of_decide_eq_true h;omega
   obtain ⟨mok1,mok2,mok3⟩:=hm i;have hbE:qz ps i≠0→fE (qz ps) ps.length 0=qz ps i:=fun h0=>hE.trans (dw hin h0);have hbM:qz ps i=0→fE (qz ps) ps.length 0=fE (qz ps) (ps.length-(i+1)) (i+1):=fun h0=>hE.trans (bX hin h0);generalize fE (qz ps) ps.length 0=E at *;obtain ⟨m,hme⟩: ∃m,m=ps.getD i default:=⟨_,rfl⟩;rw[← hme] at mok1 mok2 mok3;unfold big at mok1;have hdup:yW ps i=dP (fun k=>decide ((ps.getD k default).nm=m.nm)) i 0:=by rw[hme];rfl
   have hbd:qz ps i=if ch m.nm=false then 5 else if yW ps i=true then 6 else if m.x.okB=true∧m.y.okB=true then 0 else 3:=by rw[hme];rfl
   refine AW.skip (AW.seq (AW.block ?_));refine qX 3 rfl ?_;refine aa.idx tok m.D rfl rfl rfl rfl (Int.natCast_nonneg i) (by rw[hme];exact getM Mark.D hin) ?_;refine qU 3 rfl ?_;refine qI ?_;refine qX 2 rfl ?_;refine aa.call tok rfl rfl rfl rfl (gI m.nm mok1) ?_;refine qU 1 rfl ?_;refine aa.nil ?_;refine AW.cond rfl (fun h=>?_) (fun h=>?_)
   · have hnm:ch m.nm=false:=iS h;have h5:qz ps i=5:=by rw[hbd,hnm];rfl
     rw[show E=5 by rw[hbE (by omega),h5]];refine qX 1 rfl ?_;exact qN rfl
   have hnm:ch m.nm=true:=by simpa using h
   rw[hnm,if_neg (by decide)] at hbd;refine AW.skip (AW.seq ?_);refine qX 1 rfl ?_;refine aa.nil ?_;refine AW.block ?_
   refine AW.aD [1,3,4,5] (fun k:Nat=>[(1,.bx [dS bn,ni ps]),(3,.d (dI i)),(4,.bx [dS m.nm,dB m.x.g,Wd m.x.n,Wd m.x.d,dB m.y.g,Wd m.y.n,Wd m.y.d]),(5,.d (dI k))])
    (fun k=>k≤i∧yW ps i=dP (fun k=>decide ((ps.getD k default).nm=m.nm)) (i-k) k) (fun k=>i-k) 0 rfl ⟨Nat.zero_le _,hdup⟩ (fun k ⟨hk,hD⟩=>?_)
   refine AW.seq ?_;refine qX 3 rfl ?_;refine aa.nil ?_;refine AW.cond rfl (fun h=>?_) (fun h=>?_)
   · have hki:k<i:=by have:=of_decide_eq_true h;omega
     refine AW.skip (AW.seq (AW.block (AW.seq ?_)));refine AW.draw aI 9 (by kernel_rfl) ?_;refine qP 3 rfl ?_;refine af.idx tok (ps.getD k default).D rfl rfl rfl rfl rfl (Int.natCast_nonneg k) (getM Mark.D (by omega)) ?_;refine qP 5 rfl ?_;rw[kp];refine af.nil ?_;refine aa.nil ?_;refine AW.cond rfl (fun h=>?_) (fun h=>?_)
     · have h6:qz ps i=6:=by rw[hbd,hD.trans (en hki h)];rfl
       rw[show E=6 by rw[hbE (by omega),h6]];refine qX 1 rfl ?_;exact qN rfl
     · refine AW.skip ?_;refine qT 3 rfl ?_;rw[au (x:=(k:Int)+1) (by omega) (by omega)];refine aa.nil ?_;exact⟨k+1,rfl,⟨hki,hD.trans (dk hki h)⟩,by omega⟩
   · have hki: ¬k<i:=by have:=of_decide_eq_false h;omega
     rw[hD.trans (ep hki),if_neg (by decide)] at hbd;refine AW.exit ?_;refine AW.cut [1,3,49] (fun _:Unit=>[(1,.bx [dS bn,ni ps]),(3,.d (dI i)),(49,.d (dB (!decide (m.x.okB=true∧m.y.okB=true))))]) (fun _=>True) ?_ (fun _ _=>?_)
     · refine qT 2 rfl ?_;refine aa.call tok rfl rfl rfl rfl (iq m.x mok2 (by omega)) ?_;refine aa.split (t:=42) rfl (fun h=>?_) (fun h=>?_)
       · refine qU 4 rfl ?_;refine aa.call tok rfl rfl rfl rfl (iq m.y mok3 (by omega)) ?_;refine qU 2 rfl ?_;refine aa.nil ?_;exact⟨(),by rw[show decide (m.x.okB=true∧m.y.okB=true)=m.y.okB by simp[h]];rfl,trivial⟩
       · refine qU 7 rfl ?_;refine aa.nil ?_;exact⟨(),by rw[show decide (m.x.okB=true∧m.y.okB=true)=false by simp[h]];rfl,trivial⟩
     refine AW.cond rfl (fun h=>?_) (fun h=>?_)
     · have hno: ¬(m.x.okB=true∧m.y.okB=true):=fun e=>by rw[decide_eq_true e] at h;cases h
       have h3:qz ps i=3:=by rw[hbd,if_neg hno]
       rw[show E=3 by rw[hbE (by omega),h3]];refine qX 1 rfl ?_;exact qN rfl
     · have hyes:m.x.okB=true∧m.y.okB=true:=by simpa using h
       rw[if_pos hyes] at hbd;refine AW.skip ?_;refine qT 3 rfl ?_;rw[au (x:=(i:Int)+1) (by omega) (by omega)];refine aa.nil ?_;exact⟨i+1,rfl,⟨hin,hbM hbd⟩,by omega⟩
 · have hin: ¬i<ps.length:=by have:=of_decide_eq_false h;omega
   rw[hE,dy hin];refine AW.exit ?_;refine qX 1 rfl ?_;exact qN rfl
set_option maxHeartbeats 1600000 in
theorem tn(l:Lkg){K:Nat}(hl:l.ok K)(hK:K≤50000000):Pure Tryz.prog 34 [l.D] (dI (br l.bodies:Nat)):=by
 refine qJ 48 Tryz.func34 rfl rfl rfl rfl (by kernel_rfl) (fun B F0 w0=>?_);obtain ⟨ln,bs,js,ds⟩:=l;have hb:=hl.b;have hn:=hl.nb;simp only[] at hb hn ⊢;unfold big at hn;show AW _ _ _ _ _ _ _ (df 0 [D.ag [dS ln,ak bs,aj js,ai ds]]);refine qX 2 rfl ?_;refine qI ?_;refine qX 1 rfl ?_;refine aa.nil ?_;refine AW.block ?_
 refine AW.aD [1,3] (fun i:Nat=>[(1,.bx [dS ln,ak bs,aj js,ai ds]),(3,.d (dI i))])
  (fun i=>i≤bs.length∧br bs=fE (eI bs) (bs.length-i) i) (fun i=>bs.length-i) 0 rfl ⟨Nat.zero_le _,rfl⟩ (fun i ⟨hi,hE⟩=>?_)
 refine AW.seq ?_;refine qX 5 rfl ?_;rw[List.length_map];refine aa.nil ?_;refine AW.cond rfl (fun h=>?_) (fun h=>?_)
 · have hin:i<bs.length:=by have:=of_decide_eq_true h;omega
   have hbi:=hb i;have hbE:eI bs i≠0→br bs=eI bs i:=fun h0=>hE.trans (dw hin h0);have hbM:eI bs i=0→br bs=fE (eI bs) (bs.length-(i+1)) (i+1):=fun h0=>hE.trans (bX hin h0);generalize br bs=E at *;obtain ⟨b,hbe⟩: ∃b,b=bs.getD i default:=⟨_,rfl⟩;rw[← hbe] at hbi;have bok:=hbi.1;unfold big at bok;have hdup:yZ bs i=dP (fun k=>decide ((bs.getD k default).nm=b.nm)) i 0:=by rw[hbe];rfl
   have hbd:eI bs i=if ch b.nm=false then 5 else if yZ bs i=true then 6 else oU b.pts:=by rw[hbe];rfl
   refine AW.skip (AW.seq (AW.block (AW.seq ?_)));refine qX 3 rfl ?_;refine aa.idx tok b.D rfl rfl rfl rfl (Int.natCast_nonneg i) (by rw[hbe];exact getM Body.D hin) ?_;refine qU 2 rfl ?_;refine aa.call tok rfl rfl rfl rfl (gI b.nm bok) ?_;refine qU 1 rfl ?_;refine aa.nil ?_;refine AW.cond rfl (fun h=>?_) (fun h=>?_)
   · have hnm:ch b.nm=false:=iS h;have h5:eI bs i=5:=by rw[hbd,hnm];rfl
     rw[show E=5 by rw[hbE (by omega),h5]];refine qX 1 rfl ?_;exact qN rfl
   have hnm:ch b.nm=true:=by simpa using h
   rw[hnm,if_neg (by decide)] at hbd;refine AW.skip (AW.seq ?_);refine qX 1 rfl ?_;refine aa.nil ?_;refine AW.block ?_
   refine AW.aD [1,3,4] (fun k:Nat=>[(1,.bx [dS ln,ak bs,aj js,ai ds]),(3,.d (dI i)),(4,.d (dI k))])
    (fun k=>k≤i∧yZ bs i=dP (fun k=>decide ((bs.getD k default).nm=b.nm)) (i-k) k) (fun k=>i-k) 0 rfl ⟨Nat.zero_le _,hdup⟩ (fun k ⟨hk,hD⟩=>?_)
   refine AW.seq ?_;refine qX 3 rfl ?_;refine aa.nil ?_;refine AW.cond rfl (fun h=>?_) (fun h=>?_)
   · have hki:k<i:=by have:=of_decide_eq_true h;omega
     refine AW.skip (AW.seq (AW.block (AW.seq ?_)));refine AW.draw aI 13 (by kernel_rfl) ?_;refine qP 3 rfl ?_;refine af.idx tok (bs.getD k default).D rfl rfl rfl rfl rfl (Int.natCast_nonneg k) (getM Body.D (by omega)) ?_;refine qP 5 rfl ?_;refine af.idx tok b.D rfl rfl rfl rfl rfl (Int.natCast_nonneg i) (by rw[hbe];exact getM Body.D hin) ?_;refine qP 3 rfl ?_;rw[kp];refine af.nil ?_;refine aa.nil ?_;refine AW.cond rfl (fun h=>?_) (fun h=>?_)
     · have h6:eI bs i=6:=by rw[hbd,hD.trans (en hki h)];rfl
       rw[show E=6 by rw[hbE (by omega),h6]];refine qX 1 rfl ?_;exact qN rfl
     · refine AW.skip ?_;refine qT 3 rfl ?_;rw[au (x:=(k:Int)+1) (by omega) (by omega)];refine aa.nil ?_;exact⟨k+1,rfl,⟨hki,hD.trans (dk hki h)⟩,by omega⟩
   · have hki: ¬k<i:=by have:=of_decide_eq_false h;omega
     rw[hD.trans (ep hki),if_neg (by decide)] at hbd;refine AW.exit ?_;refine qX 3 rfl ?_;refine aa.idx tok b.D rfl rfl rfl rfl (Int.natCast_nonneg i) (by rw[hbe];exact getM Body.D hin) ?_;refine qU 1 rfl ?_;refine aa.call tok rfl rfl rfl rfl (th b hbi hK) ?_;refine qU 1 rfl ?_;refine qK 2 rfl ?_;refine aa.nil ?_;refine AW.cond rfl (fun h=>?_) (fun h=>?_)
     · have h0:oU b.pts≠0:=by rintro e;rw[e] at h;cases h
       rw[show E=oU b.pts by rw[hbE (by rw[hbd];exact h0),hbd]];refine qX 2 rfl ?_;exact qN rfl
     · have h0:oU b.pts=0:=by
        have:((oU b.pts:Nat):Int)=0:=by simpa using h
        omega
       refine AW.skip ?_;refine qT 3 rfl ?_;rw[au (x:=(i:Int)+1) (by omega) (by omega)];refine aa.nil ?_;exact⟨i+1,rfl,⟨hin,hbM (by rw[hbd];exact h0)⟩,by omega⟩
 · have hin: ¬i<bs.length:=by have:=of_decide_eq_false h;omega
   rw[hE,dy hin];refine AW.exit ?_;refine qX 1 rfl ?_;exact qN rfl
theorem wH(p q:Mark){K:Nat}(hp:p.ok K)(hq:q.ok K)(hK:K≤5000000):Pure Tryz.prog 65 [p.D,q.D] (dB (jQ p q)):=by
 refine qJ 19 Tryz.func65 rfl rfl rfl rfl (by kernel_rfl) (fun B F0 w0=>?_);refine qX 3 rfl ?_;refine qK 4 rfl ?_;refine aa.call tok rfl rfl rfl rfl (rJ p.x q.x hp.2.1 hq.2.1 (by omega)) ?_;refine qU 1 rfl ?_;rw[me];refine aa.split (t:=10) rfl (fun h=>?_) (fun h=>?_)
 · have h1:=of_decide_eq_true h;refine qU 5 rfl ?_;refine aa.call tok rfl rfl rfl rfl (rJ p.y q.y hp.2.2 hq.2.2 (by omega)) ?_;refine qU 3 rfl ?_;rw[me];refine aa.nil ?_;rw[show jQ p q=decide (p.y.val=q.y.val) by unfold jQ;simp[h1]];exact AW.ret rfl
 · have h1:=of_decide_eq_false h;refine qU 9 rfl ?_;refine aa.nil ?_;rw[show jQ p q=false by unfold jQ;simp[h1]];exact AW.ret rfl
end Lift
