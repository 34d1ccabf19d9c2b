/- Parts of the proof, one behind the other: the logic, the contracts of the functions that the statement reaches. -/
import Derived.Test.YtfakkdmfofiibaaGreatT5D
set_option linter.unusedVariables false
set_option linter.unusedSimpArgs false
namespace Lift
open Go Go.Proofs
abbrev eH(r:List NQ):AV:=AV.ow 53 (r.map ah)
def gm{α:Type}(zs xs:List α)(i:Nat):List α:=zs.take i++xs.drop i
theorem pe{α:Type}{zs xs:List α}(h:zs.length=xs.length){i:Nat}(hi:i≤xs.length):(gm zs xs i).length=xs.length:=by
 unfold gm;rw[List.length_append,List.length_take,List.length_drop,h];omega
theorem tV{α:Type}{zs xs:List α}(h:zs.length=xs.length){i:Nat}(hi:i<xs.length)(d:α):(gm zs xs i).getD i d=xs.getD i d:=by
 unfold gm;rw[List.getD_eq_getElem?_getD,List.getElem?_append_right (by rw[List.length_take];omega),List.length_take,h,List.getElem?_drop,List.getD_eq_getElem?_getD]
 congr 2;omega
theorem tU{α:Type}{zs xs:List α}(h:zs.length=xs.length){i:Nat}(hi:i<xs.length){d z:α}(hz:zs.getD i d=z):(gm zs xs i).set i z=gm zs xs (i+1):=by
 subst hz;refine List.ext_getElem? (fun c=>?_);by_cases hc:c=i
 · subst hc;rw[List.getElem?_set_self (by rw[pe h (by omega)];exact hi)];unfold gm;rw[List.getElem?_append_left (by rw[List.length_take];omega),List.getElem?_take,if_pos (by omega)];have h1:c<zs.length:=by omega
   simp[h1]
 · rw[List.getElem?_set_ne (Ne.symm hc)];unfold gm;rcases Nat.lt_or_ge c i with g | g
   · rw[List.getElem?_append_left (by rw[List.length_take];omega),List.getElem?_append_left (by rw[List.length_take];omega),List.getElem?_take,List.getElem?_take,if_pos g,if_pos (by omega)]
   · rw[List.getElem?_append_right (by rw[List.length_take];omega),List.getElem?_append_right (by rw[List.length_take];omega),List.getElem?_drop,List.getElem?_drop,List.length_take,List.length_take]
     congr 1;omega
theorem qo{α:Type}(zs xs:List α):gm zs xs 0=xs:=by unfold gm;simp
theorem tW{α:Type}{zs xs:List α}(h:zs.length=xs.length):gm zs xs xs.length=zs:=by
 unfold gm;rw[List.drop_length,List.append_nil,← h,List.take_length]
section
variable {P:Program} {T:Ty} {B:Nat} {F0:Nat→Prop} {w0:bQ} {n:Nat} {σ τ:St} {K:St→Prop} {all:Array Oper} {o:Oper} {d:Nat} {rest:List Oper}
theorem ab.lQ(hT:a6 P T){k e i:Nat}{r:List NQ}(q:NQ)(hd:o.dst=none)(hg:aq all σ o=true)(hx:Bh T σ o.op=some (k,.ow e (r.map ah),r.map ah,i,0,ah q))(hi:i<r.length)
  (h:ab P B F0 w0 n all rest K ((k,.ow e ((r.set i q).map ah))::σ)):ab P B F0 w0 n all (o::rest) K σ:=by
 refine ab.jF hT (ah (r.getD i [])) hd hg hx (getM ah hi) rfl ?_;show ab P B F0 w0 n all rest K ((k,.ow e ((r.map ah).set i (ah q)))::σ);rw[show (r.map ah).set i (ah q)=(r.set i q).map ah from (List.map_set ..).symm];exact h
end
def fJ(v:List NQ)(xs ys:List NQ)(c:NQ):List NQ:=(List.range xs.length).map fun k=>nL (xs.getD k []) (iD v c (ys.getD k []))
theorem ja(v:List NQ)(xs ys:List NQ)(c:NQ):(fJ v xs ys c).length=xs.length:=by unfold fJ;rw[List.length_map,List.length_range]
theorem j5(v:List NQ)(xs ys:List NQ)(c:NQ){k:Nat}(h:k<xs.length):(fJ v xs ys c).getD k []=nL (xs.getD k []) (iD v c (ys.getD k [])):=by
 unfold fJ;rw[List.getD_eq_getElem?_getD,List.getElem?_map,List.getElem?_range h];rfl
def Ak(v:List NQ)(xs ys:List NQ)(c:NQ):Prop:= ∀k,k<xs.length→tK v c (ys.getD k [])∧Dz (xs.getD k []) (iD v c (ys.getD k []))
def CW(V1 V2:Value)(zs ys:List NQ)(res:D)(R':List LR):Prop:=res=aI∧R'=[(V1,eH zs),(V2,eH ys)]
theorem pd{v:List NQ}(V:mC v){a b:NQ}(ha:ak v.length a)(hb:ak v.length b):ak v.length (iD v a b):=bg (eS v.length ha hb V.ro (Nat.le_refl _))
theorem Fe{l:Nat}{a b:NQ}(ha:ak l a)(hb:ak l b):ak l (nL a b):=bg (ha.plus hb.minus)
theorem Ga{v:List NQ}(V:mC v){a b:NQ}(ha:ak v.length a)(hb:ak v.length b):ak v.length (r9 v a b):=bg (eS v.length ha (fj v.length hb V.ro (Nat.le_refl _)) V.ro (Nat.le_refl _))
set_option maxHeartbeats 3200000 in
theorem tX(V1 V2:Value){v:List NQ}(V:mC v){xs ys:List NQ}{c:NQ}(hl:ys.length=xs.length)(hl0:0<xs.length)(hl1:xs.length≤1000000)(hx: ∀k,ak v.length (xs.getD k []))(hy: ∀k,ak v.length (ys.getD k []))(hc:ak v.length c)(ok:Ak v xs ys c):
  iu Tryz.prog 90 [bI v,.v V1,.v V2,ah c] [(V1,eH xs),(V2,eH ys)] (CW V1 V2 (fJ v xs ys c) ys):=by
 refine iu.intro (n:=47) tok Tryz.func90 rfl rfl rfl (Nat.le_of_ble_eq_true rfl) (by kernel_rfl) (fun B F0 w0=>?_);have hz:=ja v xs ys c;obtain ⟨zs,hzs⟩: ∃zs,fJ v xs ys c=zs:=⟨_,rfl⟩;rw[hzs] at hz ⊢;refine AZ.seq ?_;refine AZ.dm (fun B1 F1 w1=>?_);refine qU 2 rfl ?_;refine ab.nil ⟨rfl,?_⟩;refine AZ.seq ?_;refine AZ.seq ?_;refine AZ.uX (fun B1 F1 w1 hS=>?_);refine qU 1 rfl ?_;refine ab.lens tok (hS.at (i:=0) rfl (by rw[List.length_map];exact hl0)) rfl rfl rfl rfl ?_;refine qU 1 rfl ?_;rw[List.length_map];refine ab.nil ⟨rfl,?_⟩;refine AZ.block ?_;refine AZ.aD [1,2,3,4,13,14] (fun i:Nat=>([(V1,eH (gm zs xs i)),(V2,eH ys)],[(1,.d (.v V1)),(2,.d (.v V2)),(3,.d (ah c)),(4,.bx [.sl 1 (v.map ah)]),(13,.d (dI xs.length)),(14,.d (dI i))])) (fun i=>i≤xs.length) (fun i=>xs.length-i) 0 (by rw[qo];rfl) (Nat.zero_le _) (fun i hi=>?_)
 · show AZ _ _ _ _ _ _ _ [(V1,eH (gm zs xs i)),(V2,eH ys)] [(1,.d (.v V1)),(2,.d (.v V2)),(3,.d (ah c)),(4,.bx [.sl 1 (v.map ah)]),(13,.d (dI xs.length)),(14,.d (dI i))];refine AZ.seq ?_;refine AZ.dm (fun B1 F1 w1=>?_);refine qU 1 rfl ?_;refine ab.nil ⟨rfl,?_⟩;refine AZ.seq ?_;refine AZ.cond rfl (fun h=>?_) (fun h=>?_)
   · have hin:i<xs.length:=by have:=of_decide_eq_true h;omega
     have hpl:=pe hz (i:=i) (by omega);have hpg:=tV hz hin [];have hps:=tU hz hin (d:=[]) (show zs.getD i []=nL (xs.getD i []) (iD v c (ys.getD i [])) by rw[← hzs];exact j5 v xs ys c hin);have hyi:i<ys.length:=by omega
     obtain ⟨okm,oks⟩:=ok i hin;have cm:=sZ V hc (hy i) okm;have cs:=zL V (hx i) (pd V hc (hy i)) oks;generalize gm zs xs i=ps at *;generalize hX:xs.getD i []=X at *;generalize hY:ys.getD i []=Y at *;generalize iD v c Y=M at *;generalize nL X M=S at *;refine AZ.skip ?_;refine AZ.seq ?_;refine AZ.block ?_;refine AZ.seq ?_;refine AZ.dm (fun B1 F1 w1=>?_);refine qU 2 rfl ?_;refine ab.nil ⟨rfl,?_⟩;refine AZ.seq ?_;refine AZ.any aL (gL.nE 11 (by kernel_rfl) (fun B1 F1 w1 hS=>?_));have hS2:=hS.at (i:=1) rfl (by rw[List.length_map];omega);refine qP 4 rfl ?_;refine ae.idxs tok hS2 rfl rfl rfl rfl rfl (Int.natCast_nonneg i) (by rw[List.length_map];exact hyi) ?_;refine ae.bd tok (ah (ys.getD i [])) hS2 rfl rfl rfl rfl rfl rfl rfl (getM ah hyi) rfl ?_;rw[hY];refine ae.call tok rfl rfl rfl rfl rfl cm ?_;refine qP 4 rfl ?_;refine ae.nil ⟨rfl,?_⟩;refine af.cut 1 rfl (fun B1 F1 w1=>?_);refine qU 1 rfl ?_;refine ab.nil ⟨rfl,?_⟩;refine af.nil ?_;refine AZ.to [1,2,3,4,9,10,11,13,14] [(1,.d (.v V1)),(2,.d (.v V2)),(3,.d (ah c)),(4,.bx [.sl 1 (v.map ah)]),(9,.d (dI i)),(10,.d (ah M)),(11,.d aI),(13,.d (dI xs.length)),(14,.d (dI i))] rfl ?_;refine AZ.seq ?_;refine AZ.seq ?_;refine AZ.dm (fun B1 F1 w1=>?_);refine qU 1 rfl ?_;refine ab.err tok rfl rfl rfl rfl rfl ?_;refine ab.nil ⟨rfl,?_⟩;refine AZ.ar rfl ?_;refine AZ.skip ?_;refine AZ.seq ?_;refine AZ.any aL (ZH.any (β:=[]) ?_);refine ZH.mv 0 rfl rfl (by kernel_rfl) (by kernel_rfl) (by kernel_rfl) rfl (fun _ _ _ h=>h) (fun _=>rfl) trivial (fun B1 F1 w1=>?_);refine qU 1 rfl ?_;refine ab.nil ⟨rfl,?_⟩;refine ZH.mv 1 rfl rfl (by kernel_rfl) (by kernel_rfl) (by kernel_rfl) rfl (fun _ _ _ h=>h) (fun _=>rfl) trivial (fun B1 F1 w1=>?_);refine qU 1 rfl ?_;refine ab.nil ⟨rfl,?_⟩;refine ZH.mv 3 rfl rfl (by kernel_rfl) (by kernel_rfl) (by kernel_rfl) rfl (fun _ _ _ h=>h) (fun _=>rfl) trivial (fun B1 F1 w1=>?_);refine qU 1 rfl ?_;refine ab.nil ⟨rfl,?_⟩;refine ZH.mv 4 rfl rfl (by kernel_rfl) (by kernel_rfl) (by kernel_rfl) rfl (fun _ _ _ h=>h) (fun _=>rfl) trivial (fun B1 F1 w1=>?_);refine qU 1 rfl ?_;refine ab.nil ⟨rfl,?_⟩;refine ZH.mv 7 rfl rfl (by kernel_rfl) (by kernel_rfl) (by kernel_rfl) rfl (fun _ _ _ h=>h) (fun _=>rfl) trivial (fun B1 F1 w1=>?_);refine qU 1 rfl ?_;refine ab.nil ⟨rfl,?_⟩;refine ZH.meet 0 (qB 15 32767) (fun V=>[(V1,eH (gm zs xs (i+1))),(V2,eH ys)]) (fun V=>[(1,.d (.v V1)),(2,.d (.v V2)),(3,.d (ah c)),(4,.bx [.sl 1 (v.map ah)]),(9,.d (dI i)),(10,.d (ah M)),(13,.d (dI xs.length)),(14,.d (dI i)),(31,.d (.v V1)),(32,.d (dI i)),(34,.d (.v V1)),(35,.d (dI i)),(38,.d (ah M)),(33,.d (bI v)),(36,.d (.v (ec V1 (i*1)))),(37,.d (ah X)),(39,.d (.tu [ah S,aI])),(30,.d (.tu [ah S,aI])),(40,.d (ah S)),(41,.d aI),(11,.d aI)]) (fun V=>?_) (fun N1_2_5_1_1=>?_)
     · refine ZH.done (by kernel_rfl) trivial ?_;refine AZ.to [1,2,3,4,11,13,14] [(1,.d (.v V1)),(2,.d (.v V2)),(3,.d (ah c)),(4,.bx [.sl 1 (v.map ah)]),(11,.d aI),(13,.d (dI xs.length)),(14,.d (dI i))] rfl ?_;refine AZ.seq ?_;refine AZ.dm (fun B1 F1 w1=>?_);refine qU 1 rfl ?_;refine ab.err tok rfl rfl rfl rfl rfl ?_;refine ab.nil ⟨rfl,?_⟩;refine AZ.ar rfl ?_;refine AZ.skip ?_;refine AZ.dm (fun B1 F1 w1=>?_);refine qU 1 rfl ?_;rw[aA (x:=(i:Int)+1) (by omega) (by omega)];refine qU 1 rfl ?_;refine ab.nil ⟨rfl,?_⟩;exact⟨i+1,rfl,hin,by omega⟩
     refine ZH.meet 1 (qB 15 16383) (fun V=>[(V1,eH (gm zs xs (i+1))),(V2,eH ys)]) (fun V=>[(1,.d (.v V1)),(2,.d (.v V2)),(3,.d (ah c)),(4,.bx [.sl 1 (v.map ah)]),(9,.d (dI i)),(10,.d (ah M)),(13,.d (dI xs.length)),(14,.d (dI i)),(31,.d (.v V1)),(32,.d (dI i)),(34,.d (.v V1)),(35,.d (dI i)),(38,.d (ah M)),(33,.d (bI v)),(36,.d (.v (ec V1 (i*1)))),(37,.d (ah X)),(39,.d (.tu [ah S,aI])),(30,.d (.tu [ah S,aI])),(40,.d (ah S)),(41,.d aI)]) (fun V=>?_) (fun N1_2_5_1_0=>?_)
     · refine ZH.all 14 (by kernel_rfl) rfl rfl (fun _=>rfl) trivial ?_;refine ao (fun B1 F1 w1=>?_);refine qU 1 rfl ?_;refine ab.nil ⟨rfl,?_⟩;exact qL (N1_2_5_1_1 V) (by kernel_rfl) rfl trivial
     refine ZH.meet 2 (qB 15 8191) (fun V=>[(V1,eH ps),(V2,eH ys)]) (fun V=>[(1,.d (.v V1)),(2,.d (.v V2)),(3,.d (ah c)),(4,.bx [.sl 1 (v.map ah)]),(9,.d (dI i)),(10,.d (ah M)),(13,.d (dI xs.length)),(14,.d (dI i)),(31,.d (.v V1)),(32,.d (dI i)),(34,.d (.v V1)),(35,.d (dI i)),(38,.d (ah M)),(33,.d (bI v)),(36,.d (.v (ec V1 (i*1)))),(37,.d (ah X)),(39,.d (.tu [ah S,aI])),(30,.d (.tu [ah S,aI])),(40,.d (ah S)),(42,.d (.v (ec V1 (i*1)))),(41,.d aI)]) (fun V=>?_) (fun N1_2_4_1_0=>?_)
     · refine ZH.all 13 (by kernel_rfl) rfl rfl (fun _=>rfl) trivial ?_;refine af.df 31 0 rfl rfl rfl ?_;refine af.el tok 31 42 rfl (List.Mem.head _) rfl rfl rfl (by rw[List.length_map,hpl];exact hin) rfl ?_;refine af.cut 1 rfl (fun B1 F1 w1=>?_);refine ab.lQ tok S rfl rfl rfl (by omega) ?_;rw[hps];refine ab.nil ⟨rfl,?_⟩;refine af.back 31 0 rfl rfl rfl (List.Mem.head _) rfl ?_;refine af.nil ?_;exact qL (N1_2_5_1_0 V) (by kernel_rfl) rfl trivial
     refine ZH.meet 2 (qB 15 14335) (fun V=>[(V1,eH (gm zs xs (i+1))),(V2,eH ys)]) (fun V=>[(1,.d (.v V1)),(2,.d (.v V2)),(3,.d (ah c)),(4,.bx [.sl 1 (v.map ah)]),(9,.d (dI i)),(10,.d (ah M)),(13,.d (dI xs.length)),(14,.d (dI i)),(31,.d (.v V1)),(32,.d (dI i)),(34,.d (.v V1)),(35,.d (dI i)),(38,.d (ah M)),(33,.d (bI v)),(36,.d (.v (ec V1 (i*1)))),(37,.d (ah X)),(39,.d (.tu [ah S,aI])),(30,.d (.tu [ah S,aI])),(40,.d (ah S))]) (fun V=>?_) (fun N1_2_5_0_0=>?_)
     · refine ZH.all 11 (by kernel_rfl) rfl rfl (fun _=>rfl) trivial ?_;refine ao (fun B1 F1 w1=>?_);refine qU 1 rfl ?_;refine ab.nil ⟨rfl,?_⟩;exact qL (N1_2_5_1_0 V) (by kernel_rfl) rfl trivial
     refine ZH.meet 3 (qB 15 4095) (fun V=>[(V1,eH ps),(V2,eH ys)]) (fun V=>[(1,.d (.v V1)),(2,.d (.v V2)),(3,.d (ah c)),(4,.bx [.sl 1 (v.map ah)]),(9,.d (dI i)),(10,.d (ah M)),(13,.d (dI xs.length)),(14,.d (dI i)),(31,.d (.v V1)),(32,.d (dI i)),(34,.d (.v V1)),(35,.d (dI i)),(38,.d (ah M)),(33,.d (bI v)),(36,.d (.v (ec V1 (i*1)))),(37,.d (ah X)),(39,.d (.tu [ah S,aI])),(30,.d (.tu [ah S,aI])),(40,.d (ah S)),(41,.d aI)]) (fun V=>?_) (fun N1_2_3_1_0=>?_)
     · refine ZH.all 12 (by kernel_rfl) rfl rfl (fun _=>rfl) trivial ?_;refine bb (fun B1 F1 w1 hS=>?_);refine ab.idxs tok (hS.at (i:=0) rfl (by rw[List.length_map];omega)) rfl rfl rfl rfl (Int.natCast_nonneg i) (by rw[List.length_map,hpl];exact hin) ?_;refine ab.nil ⟨rfl,?_⟩;exact qL (N1_2_4_1_0 V) (by kernel_rfl) rfl trivial
     refine ZH.meet 3 (qB 15 6143) (fun V=>[(V1,eH ps),(V2,eH ys)]) (fun V=>[(1,.d (.v V1)),(2,.d (.v V2)),(3,.d (ah c)),(4,.bx [.sl 1 (v.map ah)]),(9,.d (dI i)),(10,.d (ah M)),(13,.d (dI xs.length)),(14,.d (dI i)),(31,.d (.v V1)),(32,.d (dI i)),(34,.d (.v V1)),(35,.d (dI i)),(38,.d (ah M)),(33,.d (bI v)),(36,.d (.v (ec V1 (i*1)))),(37,.d (ah X)),(39,.d (.tu [ah S,aI])),(30,.d (.tu [ah S,aI])),(40,.d (ah S)),(42,.d (.v (ec V1 (i*1))))]) (fun V=>?_) (fun N1_2_4_0_0=>?_)
     · refine ZH.two 11 13 (by kernel_rfl) rfl rfl rfl rfl (fun _=>rfl) (fun _=>rfl) trivial ?_ ?_
       · refine ao (fun B1 F1 w1=>?_);refine qU 1 rfl ?_;refine ab.nil ⟨rfl,?_⟩;exact qL (N1_2_4_1_0 V) (by kernel_rfl) rfl trivial
       · refine af.df 31 0 rfl rfl rfl ?_;refine af.el tok 31 42 rfl (List.Mem.head _) rfl rfl rfl (by rw[List.length_map,hpl];exact hin) rfl ?_;refine af.cut 1 rfl (fun B1 F1 w1=>?_);refine ab.lQ tok S rfl rfl rfl (by omega) ?_;rw[hps];refine ab.nil ⟨rfl,?_⟩;refine af.back 31 0 rfl rfl rfl (List.Mem.head _) rfl ?_;refine af.nil ?_;exact qL (N1_2_5_0_0 V) (by kernel_rfl) rfl trivial
     refine ZH.meet 4 (qB 15 3071) (fun V=>[(V1,eH ps),(V2,eH ys)]) (fun V=>[(1,.d (.v V1)),(2,.d (.v V2)),(3,.d (ah c)),(4,.bx [.sl 1 (v.map ah)]),(9,.d (dI i)),(10,.d (ah M)),(13,.d (dI xs.length)),(14,.d (dI i)),(31,.d (.v V1)),(32,.d (dI i)),(34,.d (.v V1)),(35,.d (dI i)),(38,.d (ah M)),(33,.d (bI v)),(36,.d (.v (ec V1 (i*1)))),(37,.d (ah X)),(39,.d (.tu [ah S,aI])),(30,.d (.tu [ah S,aI])),(41,.d aI)]) (fun V=>?_) (fun N1_2_2_1_0=>?_)
     · refine ZH.all 10 (by kernel_rfl) rfl rfl (fun _=>rfl) trivial ?_;refine ao (fun B1 F1 w1=>?_);refine qU 1 rfl ?_;refine ab.nil ⟨rfl,?_⟩;exact qL (N1_2_3_1_0 V) (by kernel_rfl) rfl trivial
     refine ZH.meet 4 (qB 15 2047) (fun V=>[(V1,eH ps),(V2,eH ys)]) (fun V=>[(1,.d (.v V1)),(2,.d (.v V2)),(3,.d (ah c)),(4,.bx [.sl 1 (v.map ah)]),(9,.d (dI i)),(10,.d (ah M)),(13,.d (dI xs.length)),(14,.d (dI i)),(31,.d (.v V1)),(32,.d (dI i)),(34,.d (.v V1)),(35,.d (dI i)),(38,.d (ah M)),(33,.d (bI v)),(36,.d (.v (ec V1 (i*1)))),(37,.d (ah X)),(39,.d (.tu [ah S,aI])),(30,.d (.tu [ah S,aI])),(40,.d (ah S))]) (fun V=>?_) (fun N1_2_3_0_0=>?_)
     · refine ZH.two 11 12 (by kernel_rfl) rfl rfl rfl rfl (fun _=>rfl) (fun _=>rfl) trivial ?_ ?_
       · refine ao (fun B1 F1 w1=>?_);refine qU 1 rfl ?_;refine ab.nil ⟨rfl,?_⟩;exact qL (N1_2_3_1_0 V) (by kernel_rfl) rfl trivial
       · refine bb (fun B1 F1 w1 hS=>?_);refine ab.idxs tok (hS.at (i:=0) rfl (by rw[List.length_map];omega)) rfl rfl rfl rfl (Int.natCast_nonneg i) (by rw[List.length_map,hpl];exact hin) ?_;refine ab.nil ⟨rfl,?_⟩;exact qL (N1_2_4_0_0 V) (by kernel_rfl) rfl trivial
     refine ZH.meet 5 (qB 15 1023) (fun V=>[(V1,eH ps),(V2,eH ys)]) (fun V=>[(1,.d (.v V1)),(2,.d (.v V2)),(3,.d (ah c)),(4,.bx [.sl 1 (v.map ah)]),(9,.d (dI i)),(10,.d (ah M)),(13,.d (dI xs.length)),(14,.d (dI i)),(31,.d (.v V1)),(32,.d (dI i)),(34,.d (.v V1)),(35,.d (dI i)),(38,.d (ah M)),(33,.d (bI v)),(36,.d (.v (ec V1 (i*1)))),(37,.d (ah X)),(39,.d (.tu [ah S,aI])),(30,.d (.tu [ah S,aI]))]) (fun V=>?_) (fun N1_2_2_0_0=>?_)
     · refine ZH.two 10 11 (by kernel_rfl) rfl rfl rfl rfl (fun _=>rfl) (fun _=>rfl) trivial ?_ ?_
       · refine ao (fun B1 F1 w1=>?_);refine qU 1 rfl ?_;refine ab.nil ⟨rfl,?_⟩;exact qL (N1_2_3_0_0 V) (by kernel_rfl) rfl trivial
       · refine ao (fun B1 F1 w1=>?_);refine qU 1 rfl ?_;refine ab.nil ⟨rfl,?_⟩;exact qL (N1_2_2_1_0 V) (by kernel_rfl) rfl trivial
     refine ZH.meet 6 (qB 15 511) (fun V=>[(V1,eH ps),(V2,eH ys)]) (fun V=>[(1,.d (.v V1)),(2,.d (.v V2)),(3,.d (ah c)),(4,.bx [.sl 1 (v.map ah)]),(9,.d (dI i)),(10,.d (ah M)),(13,.d (dI xs.length)),(14,.d (dI i)),(31,.d (.v V1)),(32,.d (dI i)),(34,.d (.v V1)),(35,.d (dI i)),(38,.d (ah M)),(33,.d (bI v)),(36,.d (.v (ec V1 (i*1)))),(37,.d (ah X)),(39,.d (.tu [ah S,aI]))]) (fun V=>?_) (fun N1_2_1_0_0=>?_)
     · refine ZH.all 9 (by kernel_rfl) rfl rfl (fun _=>rfl) trivial ?_;refine ao (fun B1 F1 w1=>?_);refine qU 1 rfl ?_;refine ab.nil ⟨rfl,?_⟩;exact qL (N1_2_2_0_0 V) (by kernel_rfl) rfl trivial
     refine ZH.meet 7 (qB 15 255) (fun V=>[(V1,eH ps),(V2,eH ys)]) (fun V=>[(1,.d (.v V1)),(2,.d (.v V2)),(3,.d (ah c)),(4,.bx [.sl 1 (v.map ah)]),(9,.d (dI i)),(10,.d (ah M)),(13,.d (dI xs.length)),(14,.d (dI i)),(31,.d (.v V1)),(32,.d (dI i)),(34,.d (.v V1)),(35,.d (dI i)),(38,.d (ah M)),(33,.d (bI v)),(36,.d (.v (ec V1 (i*1)))),(37,.d (ah X))]) (fun V=>?_) (fun N1_2_0_0_0=>?_)
     · refine ZH.all 8 (by kernel_rfl) rfl rfl (fun _=>rfl) trivial ?_;refine ao (fun B1 F1 w1=>?_);refine ab.call tok rfl rfl rfl rfl cs ?_;refine ab.nil ⟨rfl,?_⟩;exact qL (N1_2_1_0_0 V) (by kernel_rfl) rfl trivial
     refine ZH.meet 8 (qB 15 251) (fun V=>[(V1,eH ps),(V2,eH ys)]) (fun V=>[(1,.d (.v V1)),(2,.d (.v V2)),(3,.d (ah c)),(4,.bx [.sl 1 (v.map ah)]),(9,.d (dI i)),(10,.d (ah M)),(13,.d (dI xs.length)),(14,.d (dI i)),(31,.d (.v V1)),(32,.d (dI i)),(34,.d (.v V1)),(35,.d (dI i)),(38,.d (ah M)),(36,.d (.v (ec V1 (i*1)))),(37,.d (ah X))]) (fun V=>?_) (fun N0_2_0_0_0=>?_)
     · refine ZH.all 2 (by kernel_rfl) rfl rfl (fun _=>rfl) trivial ?_;refine ao (fun B1 F1 w1=>?_);refine qU 1 rfl ?_;refine ab.nil ⟨rfl,?_⟩;exact qL (N1_2_0_0_0 V) (by kernel_rfl) rfl trivial
     refine ZH.meet 8 (qB 15 191) (fun V=>[(V1,eH ps),(V2,eH ys)]) (fun V=>[(1,.d (.v V1)),(2,.d (.v V2)),(3,.d (ah c)),(4,.bx [.sl 1 (v.map ah)]),(9,.d (dI i)),(10,.d (ah M)),(13,.d (dI xs.length)),(14,.d (dI i)),(31,.d (.v V1)),(32,.d (dI i)),(34,.d (.v V1)),(35,.d (dI i)),(38,.d (ah M)),(33,.d (bI v)),(36,.d (.v (ec V1 (i*1))))]) (fun V=>?_) (fun N1_1_0_0_0=>?_)
     · refine ZH.all 6 (by kernel_rfl) rfl rfl (fun _=>rfl) trivial ?_;refine bb (fun B1 F1 w1 hS=>?_);refine ab.bd tok (ah (ps.getD i [])) (hS.at (i:=0) rfl (by rw[List.length_map];omega)) rfl rfl rfl rfl rfl rfl (getM ah (by omega)) rfl ?_;rw[hpg];refine ab.nil ⟨rfl,?_⟩;exact qL (N1_2_0_0_0 V) (by kernel_rfl) rfl trivial
     refine ZH.meet 9 (qB 15 187) (fun V=>[(V1,eH ps),(V2,eH ys)]) (fun V=>[(1,.d (.v V1)),(2,.d (.v V2)),(3,.d (ah c)),(4,.bx [.sl 1 (v.map ah)]),(9,.d (dI i)),(10,.d (ah M)),(13,.d (dI xs.length)),(14,.d (dI i)),(31,.d (.v V1)),(32,.d (dI i)),(34,.d (.v V1)),(35,.d (dI i)),(38,.d (ah M)),(36,.d (.v (ec V1 (i*1))))]) (fun V=>?_) (fun N0_1_0_0_0=>?_)
     · refine ZH.two 2 6 (by kernel_rfl) rfl rfl rfl rfl (fun _=>rfl) (fun _=>rfl) trivial ?_ ?_
       · refine ao (fun B1 F1 w1=>?_);refine qU 1 rfl ?_;refine ab.nil ⟨rfl,?_⟩;exact qL (N1_1_0_0_0 V) (by kernel_rfl) rfl trivial
       · refine bb (fun B1 F1 w1 hS=>?_);refine ab.bd tok (ah (ps.getD i [])) (hS.at (i:=0) rfl (by rw[List.length_map];omega)) rfl rfl rfl rfl rfl rfl (getM ah (by omega)) rfl ?_;rw[hpg];refine ab.nil ⟨rfl,?_⟩;exact qL (N0_2_0_0_0 V) (by kernel_rfl) rfl trivial
     refine ZH.meet 9 (qB 15 159) (fun V=>[(V1,eH ps),(V2,eH ys)]) (fun V=>[(1,.d (.v V1)),(2,.d (.v V2)),(3,.d (ah c)),(4,.bx [.sl 1 (v.map ah)]),(9,.d (dI i)),(10,.d (ah M)),(13,.d (dI xs.length)),(14,.d (dI i)),(31,.d (.v V1)),(32,.d (dI i)),(34,.d (.v V1)),(35,.d (dI i)),(38,.d (ah M)),(33,.d (bI v))]) (fun V=>?_) (fun N1_0_0_0_0=>?_)
     · refine ZH.all 5 (by kernel_rfl) rfl rfl (fun _=>rfl) trivial ?_;refine bb (fun B1 F1 w1 hS=>?_);refine ab.idxs tok (hS.at (i:=0) rfl (by rw[List.length_map];omega)) rfl rfl rfl rfl (Int.natCast_nonneg i) (by rw[List.length_map,hpl];exact hin) ?_;refine ab.nil ⟨rfl,?_⟩;exact qL (N1_1_0_0_0 V) (by kernel_rfl) rfl trivial
     refine ZH.meet 10 (qB 15 155) (fun V=>[(V1,eH ps),(V2,eH ys)]) (fun V=>[(1,.d (.v V1)),(2,.d (.v V2)),(3,.d (ah c)),(4,.bx [.sl 1 (v.map ah)]),(9,.d (dI i)),(10,.d (ah M)),(13,.d (dI xs.length)),(14,.d (dI i)),(31,.d (.v V1)),(32,.d (dI i)),(34,.d (.v V1)),(35,.d (dI i)),(38,.d (ah M))]) (fun V=>?_) (fun N0_0_0_0_0=>?_)
     · refine ZH.two 2 5 (by kernel_rfl) rfl rfl rfl rfl (fun _=>rfl) (fun _=>rfl) trivial ?_ ?_
       · refine ao (fun B1 F1 w1=>?_);refine qU 1 rfl ?_;refine ab.nil ⟨rfl,?_⟩;exact qL (N1_0_0_0_0 V) (by kernel_rfl) rfl trivial
       · refine bb (fun B1 F1 w1 hS=>?_);refine ab.idxs tok (hS.at (i:=0) rfl (by rw[List.length_map];omega)) rfl rfl rfl rfl (Int.natCast_nonneg i) (by rw[List.length_map,hpl];exact hin) ?_;refine ab.nil ⟨rfl,?_⟩;exact qL (N0_1_0_0_0 V) (by kernel_rfl) rfl trivial
     exact qL (N0_0_0_0_0 fZ) (by kernel_rfl) rfl trivial
   have hin:i=xs.length:=by have:=of_decide_eq_false h;omega
   subst hin;rw[tW hz];refine AZ.exit ?_;refine AZ.seq ?_;refine AZ.dm (fun B1 F1 w1=>?_);refine qU 1 rfl ?_;refine ab.nil ⟨rfl,?_⟩;exact AZ.ret ⟨aI,rfl,rfl,rfl⟩
end Lift
namespace Lift
abbrev bk:=List (List NQ)
structure ir where
 rows:bk
 cols:List Nat
 sg:Int
 det:NQ
def iG(g:Nat→Bool):Nat→Nat→Nat
 | 0,i=>i
 | m+1,i=>if g i=true then i else iG g m (i+1)
theorem qM{g:Nat→Bool}{n i:Nat}(h:i<n)(h0:g i=false):iG g (n-i) i=iG g (n-(i+1)) (i+1):=by
 rw[show n-i=(n-(i+1))+1 by omega,iG,if_neg (by rw[h0];simp)]
theorem uj{g:Nat→Bool}{n i:Nat}(h:i<n)(h0:g i=true):iG g (n-i) i=i:=by
 rw[show n-i=(n-(i+1))+1 by omega,iG,if_pos h0]
theorem uk{g:Nat→Bool}{n i:Nat}(h: ¬i<n):iG g (n-i) i=i:=by rw[show n-i=0 by omega,iG]
theorem qO{g:Nat→Bool}: ∀{m i:Nat},i≤iG g m i∧iG g m i≤i+m∧(∀k,i≤k→k<iG g m i→g k=false)∧(iG g m i<i+m→g (iG g m i)=true)
 | 0,i=>⟨Nat.le_refl _,Nat.le_refl _,fun k h1 h2=>by simp only[iG] at h2;omega,fun h=>by simp only[iG] at h;omega⟩
 | m+1,i=>by
   simp only[iG];split
   · rename_i h;exact⟨Nat.le_refl _,by omega,fun k h1 h2=>by omega,fun _=>h⟩
   · rename_i h;obtain ⟨h1,h2,h3,h4⟩:=qO (g:=g) (m:=m) (i:=i+1);refine⟨by omega,by omega,fun k k1 k2=>?_,fun k=>h4 (by omega)⟩;by_cases e:k=i
     · subst e;simpa using h
     · exact h3 k (by omega) k2
def br(a:bk)(i k:Nat):NQ:=(a.getD i []).getD k []
def Hk(v:List NQ)(a:bk)(c j:Nat):Bool:=decide (lD v (br a j c)≠0)
def A9(b:bk)(r t:Nat):bk:=(b.set t (b.getD r [])).set r (b.getD t [])
def bH(v:List NQ)(e:bk)(r c:Nat):Nat→bk
 | 0=>e
 | i+1=>if i≠r∧lD v (br (bH v e r c i) i c)≠0 then (bH v e r c i).set i (fJ v ((bH v e r c i).getD i []) ((bH v e r c i).getD r []) (br (bH v e r c i) i c)) else bH v e r c i
def atR(v:List NQ)(s:ir)(c:Nat):Nat:=iG (Hk v s.rows c) (s.rows.length-s.cols.length) s.cols.length
def bR(v:List NQ)(s:ir)(c:Nat):bk:=if atR v s c=s.cols.length then s.rows else A9 s.rows s.cols.length (atR v s c)
def pR(v:List NQ)(s:ir)(c:Nat):NQ:=br (bR v s c) s.cols.length c
def w8(v:List NQ)(r:List NQ)(p:NQ):List NQ:=r.map (fun x=>r9 v x p)
def eR(v:List NQ)(s:ir)(c:Nat):bk:=(bR v s c).set s.cols.length (w8 v ((bR v s c).getD s.cols.length []) (pR v s c))
def dZ(v:List NQ)(s:ir)(c:Nat):ir :=
 if atR v s c<s.rows.length then ⟨bH v (eR v s c) s.cols.length c (eR v s c).length,s.cols++[c],if atR v s c=s.cols.length then s.sg else -s.sg,iD v s.det (pR v s c)⟩ else s
def aH(v:List NQ)(a:bk):Nat→ir
 | 0=>⟨a,[],1,[1]⟩
 | c+1=>dZ v (aH v a c) c
structure k8 (v:List NQ) (s:ir) (c:Nat):Prop where
 sg: ∀j,s.cols.length≤j→j<s.rows.length→yH v (br s.rows j c)
 det:atR v s c<s.rows.length→tK v s.det (pR v s c)
 div:atR v s c<s.rows.length→ ∀k,k<((bR v s c).getD s.cols.length []).length→DF v (br (bR v s c) s.cols.length k) (pR v s c)
 sg2:atR v s c<s.rows.length→ ∀i,i<s.rows.length→i≠s.cols.length→yH v (br (eR v s c) i c)
 take:atR v s c<s.rows.length→ ∀i,i<s.rows.length→i≠s.cols.length→lD v (br (eR v s c) i c)≠0→Ak v ((eR v s c).getD i []) ((eR v s c).getD s.cols.length []) (br (eR v s c) i c)
def b9(N:Nat)(a:bk):Prop:= ∀j,j<a.length→(a.getD j []).length=N
def nJ(l:Nat)(a:bk):Prop:= ∀j k,ak l (br a j k)
theorem fk(a:bk)(i j:Nat)(r:List NQ):(a.set i r).getD j []=if j=i∧i<a.length then r else a.getD j []:=by
 rw[List.getD_eq_getElem?_getD,List.getElem?_set,List.getD_eq_getElem?_getD];by_cases e:i=j
 · subst e;by_cases h:i<a.length
   · rw[if_pos rfl,if_pos h,if_pos ⟨rfl,h⟩];rfl
   · rw[if_pos rfl,if_neg h,if_neg (fun e=>h e.2),List.getElem?_eq_none (by omega)]
 · rw[if_neg e,if_neg (fun h=>e h.1.symm)]
theorem mV{a:bk}{i:Nat}(h:a.length≤i):a.getD i []=[]:=by rw[List.getD_eq_getElem?_getD,List.getElem?_eq_none h];rfl
theorem pB{r:List NQ}{i:Nat}(h:r.length≤i):r.getD i []=[]:=by rw[List.getD_eq_getElem?_getD,List.getElem?_eq_none h];rfl
theorem b9.set{N:Nat}{a:bk}(h:b9 N a){r:List NQ}(hr:r.length=N)(i:Nat):b9 N (a.set i r):=fun j hj=>by
 rw[fk];split
 · exact hr
 · exact h j (by simpa using hj)
theorem nJ.set{l:Nat}{a:bk}(h:nJ l a){r:List NQ}(hr: ∀k,ak l (r.getD k []))(i:Nat):nJ l (a.set i r):=fun j k=>by
 unfold br;rw[fk];split
 · exact hr k
 · exact h j k
theorem nJ.row{l:Nat}{a:bk}(h:nJ l a)(i:Nat): ∀k,ak l ((a.getD i []).getD k []):=h i
theorem E9(b:bk)(r t:Nat):(A9 b r t).length=b.length:=by unfold A9;rw[List.length_set,List.length_set]
theorem C1{N:Nat}{b:bk}(h:b9 N b){r t:Nat}(hr:r<b.length)(ht:t<b.length):b9 N (A9 b r t):=(h.set (h r hr) t).set (h t ht) r
theorem G7{l:Nat}{b:bk}(h:nJ l b)(r t:Nat):nJ l (A9 b r t):=(h.set (h r) t).set (h t) r
theorem o9(v:List NQ)(r:List NQ)(p:NQ):(w8 v r p).length=r.length:=List.length_map ..
theorem pa(v:List NQ)(r:List NQ)(p:NQ){k:Nat}(h:k<r.length):(w8 v r p).getD k []=r9 v (r.getD k []) p:=by
 unfold w8;rw[List.getD_eq_getElem?_getD,List.getElem?_map,List.getD_eq_getElem?_getD,List.getElem?_eq_getElem h];rfl
theorem Hn{v:List NQ}(V:mC v){r:List NQ}{p:NQ}(hr: ∀k,ak v.length (r.getD k []))(hp:ak v.length p)(k:Nat):ak v.length ((w8 v r p).getD k []):=by
 by_cases h:k<r.length
 · rw[pa v r p h];exact Ga V (hr k) hp
 · rw[pB (by rw[o9];omega)];exact bL _
theorem CX{v:List NQ}(V:mC v){xs ys:List NQ}{c:NQ}(hx: ∀k,ak v.length (xs.getD k []))(hy: ∀k,ak v.length (ys.getD k []))(hc:ak v.length c)(k:Nat):ak v.length ((fJ v xs ys c).getD k []):=by
 by_cases h:k<xs.length
 · rw[j5 v xs ys c h];exact Fe (hx k) (pd V hc (hy k))
 · rw[pB (by rw[ja];omega)];exact bL _
theorem jt(v:List NQ)(e:bk)(r c:Nat): ∀i,(bH v e r c i).length=e.length
 | 0=>rfl
 | i+1=>by
   unfold bH;split
   · rw[List.length_set];exact jt v e r c i
   · exact jt v e r c i
theorem mX{N:Nat}{v:List NQ}{e:bk}{r c:Nat}(h:b9 N e): ∀i,i≤e.length→b9 N (bH v e r c i)
 | 0,_=>h
 | i+1,hi=>by
   have ih:=mX (v:=v) (r:=r) (c:=c) h i (by omega);unfold bH;split
   · exact ih.set (by rw[ja];exact ih i (by rw[jt];omega)) i
   · exact ih
theorem sK{v:List NQ}(V:mC v){e:bk}{r c:Nat}(h:nJ v.length e): ∀i,nJ v.length (bH v e r c i)
 | 0=>h
 | i+1=>by
   have ih:=sK V (r:=r) (c:=c) h i;unfold bH;split
   · exact ih.set (CX V (ih i) (ih r) (ih i c)) i
   · exact ih
theorem fa(v:List NQ)(e:bk)(r c:Nat): ∀i,(∀j,i≤j∨j=r→(bH v e r c i).getD j []=e.getD j [])
 | 0,j,_=>rfl
 | i+1,j,hj=>by
   have ih:=fa v e r c i j (by omega);unfold bH;split
   · rename_i h;rw[fk,if_neg (fun g=>by rcases hj with hj | hj<;>omega)];exact ih
   · exact ih
theorem sL(v:List NQ)(e:bk)(r c:Nat)(i:Nat)(k:Nat):br (bH v e r c i) i k=br e i k:=by unfold br;rw[fa v e r c i i (.inl (Nat.le_refl _))]
structure rN (v:List NQ) (m N c:Nat) (s:ir):Prop where
 len:s.rows.length=m
 rect:b9 N s.rows
 lt:nJ v.length s.rows
 cl:s.cols.length≤c
 cm:s.cols.length≤m
 det:ak v.length s.det
 sg:s.sg=1∨s.sg= -1
theorem iq(v:List NQ)(s:ir)(c:Nat)(h:s.cols.length≤s.rows.length):s.cols.length≤atR v s c∧atR v s c≤s.rows.length∧(∀k,s.cols.length≤k→k<atR v s c→lD v (br s.rows k c)=0)∧(atR v s c<s.rows.length→lD v (br s.rows (atR v s c) c)≠0):=by
 obtain ⟨h1,h2,h3,h4⟩:=qO (g:=Hk v s.rows c) (m:=s.rows.length-s.cols.length) (i:=s.cols.length);refine⟨h1,by unfold atR;omega,fun k k1 k2=>?_,fun h=>?_⟩
 · have:=h3 k k1 k2;unfold Hk at this;exact Classical.byContradiction fun g=>by rw[decide_eq_true g] at this;cases this
 · exact of_decide_eq_true (h4 (by unfold atR at h;omega))
theorem wg{v:List NQ}{m N c k:Nat}{s:ir}(R:rN v m N k s)(h:atR v s c<s.rows.length):(bR v s c).length=m∧b9 N (bR v s c)∧nJ v.length (bR v s c):=by
 have hl:=R.len;have:=(iq v s c (by have:=R.cm;omega)).1;unfold bR;split
 · exact⟨R.len,R.rect,R.lt⟩
 · exact⟨by rw[E9];exact R.len,C1 R.rect (by omega) h,G7 R.lt _ _⟩
theorem zd{v:List NQ}(V:mC v){m N c k:Nat}{s:ir}(R:rN v m N k s)(h:atR v s c<s.rows.length):(eR v s c).length=m∧b9 N (eR v s c)∧nJ v.length (eR v s c):=by
 obtain ⟨h1,h2,h3⟩:=wg (c:=c) R h;have hl:=R.len;have:=(iq v s c (by have:=R.cm;omega)).1;unfold eR;exact⟨by rw[List.length_set];exact h1,h2.set (by rw[o9];exact h2 _ (by omega)) _,h3.set (Hn V (h3 _) (h3 _ _)) _⟩
theorem Fh{v:List NQ}(V:mC v){m N c:Nat}{s:ir}(R:rN v m N c s):rN v m N (c+1) (dZ v s c):=by
 have hl:=R.len;have hc:=R.cl;unfold dZ;split
 · rename_i h;obtain ⟨e1,e2,e3⟩:=zd V (c:=c) R h;have ha:=(iq v s c (by have:=R.cm;omega)).1;refine⟨by rw[jt];exact e1,mX e2 _ (Nat.le_refl _),sK V e3 _,?_,?_,pd V R.det ((wg R h).2.2 _ _),?_⟩
   · show (s.cols++[c]).length≤c+1;rw[List.length_append];show s.cols.length+1≤_;omega
   · show (s.cols++[c]).length≤m;rw[List.length_append];show s.cols.length+1≤_;omega
   · rcases R.sg with h1 | h1<;>(show (if _ then s.sg else -s.sg)=1∨_= -1;split<;>simp[h1])
 · exact⟨R.len,R.rect,R.lt,by omega,R.cm,R.det,R.sg⟩
theorem gw{v:List NQ}(V:mC v){a:bk}{N:Nat}(hr:b9 N a)(hl:nJ v.length a): ∀c,rN v a.length N c (aH v a c)
 | 0=>⟨rfl,hr,hl,Nat.le_refl _,Nat.zero_le _,fB _ _,.inl rfl⟩
 | c+1=>Fh V (gw V hr hl c)
theorem su(v:List NQ): ∀c,aH v [] c=⟨[],[],1,[1]⟩
 | 0=>rfl
 | c+1=>by
   show dZ v (aH v [] c) c=_;rw[su v c];unfold dZ;exact if_neg (Nat.not_lt_zero _)
end Lift
namespace Lift
def vM{v:List NQ}(F:FV v)(a:bk):Mk F.K:=fun i k=>F.val (br a i k)
theorem v8(v:List NQ)(e:bk)(r c:Nat): ∀n i,i<n→n≤e.length→(bH v e r c n).getD i []=if i≠r∧lD v (br e i c)≠0 then fJ v (e.getD i []) (e.getD r []) (br e i c) else e.getD i []
 | 0,i,hi,_=>absurd hi (Nat.not_lt_zero i)
 | n+1,i,hi,hn=>by
   by_cases e1:i=n
   · subst e1;unfold bH;rw[sL];split
     · rw[fk,if_pos ⟨rfl,by rw[jt];omega⟩,fa v e r c i i (.inl (Nat.le_refl _)),fa v e r c i r (.inr rfl)]
     · exact fa v e r c i i (.inl (Nat.le_refl _))
   · have ih:=v8 v e r c n i (by omega) (by omega);rw[← ih]
     conv=>lhs;unfold bH
     split
     · rw[fk,if_neg (fun h=>e1 h.1)]
     · rfl
theorem AQ{v:List NQ}{s:ir}{c i:Nat}(h1:s.cols.length≤atR v s c)(h:atR v s c<s.rows.length)(hi:i<s.rows.length):(bR v s c).getD i []=s.rows.getD (sw s.cols.length (atR v s c) i) []:=by
 unfold bR;split
 · rename_i e;rw[e];unfold sw;by_cases g:i=s.cols.length
   · rw[if_pos g,g]
   · rw[if_neg g,if_neg g]
 · unfold A9 sw;rw[fk,fk];by_cases g:i=s.cols.length
   · rw[if_pos ⟨g,by rw[List.length_set];omega⟩,if_pos g]
   · rw[if_neg (fun h=>g h.1),if_neg g];by_cases g2:i=atR v s c
     · rw[if_pos ⟨g2,h⟩,if_pos g2]
     · rw[if_neg (fun h=>g2 h.1),if_neg g2]
theorem C6{v:List NQ}(V:mC v)(F:FV v){m N c:Nat}{s:ir}(R:rN v m N c s)(hc:c<N)(h:atR v s c<s.rows.length):
  vM F s.rows (atR v s c) c≠0∧ ∀i k,i<m→k<N→vM F (bH v (eR v s c) s.cols.length c (eR v s c).length) i k=if i=s.cols.length then vM F s.rows (atR v s c) k*F.K.inv (vM F s.rows (atR v s c) c) else vM F s.rows (sw s.cols.length (atR v s c) i) k-vM F s.rows (sw s.cols.length (atR v s c) i) c*(vM F s.rows (atR v s c) k*F.K.inv (vM F s.rows (atR v s c) c)):=by
 have hl:=R.len;obtain ⟨a1,a2,a3,a4⟩:=iq v s c (by have:=R.cm;omega);have hz:=a4 h;obtain ⟨b1,b2,b3⟩:=wg (c:=c) R h;obtain ⟨e1,e2,e3⟩:=zd V (c:=c) R h;have hrm:s.cols.length<m:=by omega
 have eB: ∀i k,i<m→br (bR v s c) i k=br s.rows (sw s.cols.length (atR v s c) i) k:=fun i k hi=>by
  unfold br;rw[AQ a1 h (by omega)]
 have hp:pR v s c=br s.rows (atR v s c) c:=by
  unfold pR;rw[eB _ _ hrm,G6]
 have hpz:lD v (pR v s c)≠0:=by rw[hp];exact hz
 have eE: ∀i k,i<m→k<N→br (eR v s c) i k=if i=s.cols.length then r9 v (br s.rows (atR v s c) k) (br s.rows (atR v s c) c) else br s.rows (sw s.cols.length (atR v s c) i) k:=fun i k hi hk=>by
  unfold br eR;rw[fk];by_cases e:i=s.cols.length
  · rw[if_pos ⟨e,by omega⟩,if_pos e,pa _ _ _ (by rw[b2 _ (by omega)];exact hk),hp,AQ a1 h (by omega),G6];rfl
  · rw[if_neg (fun h=>e h.1),if_neg e,AQ a1 h (by omega)]
 have ltR:=R.lt
 have vE: ∀i k,i<m→k<N→F.val (br (eR v s c) i k)=if i=s.cols.length then vM F s.rows (atR v s c) k*F.K.inv (vM F s.rows (atR v s c) c) else vM F s.rows (sw s.cols.length (atR v s c) i) k:=fun i k hi hk=>by
  rw[eE i k hi hk];by_cases e:i=s.cols.length
  · rw[if_pos e,if_pos e,F.div (ltR _ _) (ltR _ _) hz];rfl
  · rw[if_neg e,if_neg e];rfl
 refine⟨fun e=>hz ((F.sg (ltR _ _)).2 e),fun i k hi hk=>?_⟩;have hd:=v8 v (eR v s c) s.cols.length c (eR v s c).length i (by omega) (Nat.le_refl _);show F.val (((bH v (eR v s c) s.cols.length c (eR v s c).length).getD i []).getD k [])=_;rw[hd];by_cases e:i=s.cols.length
 · rw[if_neg (fun h=>h.1 e),if_pos e];have:=vE i k hi hk;rw[if_pos e] at this;exact this
 · rw[if_neg e];have v1:=vE i k hi hk;have v2:=vE i c hi hc;have v3:=vE s.cols.length k hrm hk;rw[if_neg e] at v1 v2;rw[if_pos rfl] at v3;by_cases g:lD v (br (eR v s c) i c)=0
   · rw[if_neg (fun h=>h.2 g)];have z:=(F.sg (e3 i c)).1 g;rw[v2] at z;rw[z,Rg.zero_mul];show F.val (br (eR v s c) i k)=_;rw[v1];exact(Rg.gp [vM F s.rows (sw s.cols.length (atR v s c) i) k] (X0-0) X0 rfl).symm
   · rw[if_pos ⟨e,g⟩,j5 v _ _ _ (by rw[e2 i (by omega)];exact hk)];show F.val (nL (br (eR v s c) i k) (iD v (br (eR v s c) i c) (br (eR v s c) s.cols.length k)))=_;rw[F.sub (e3 i k) (pd V (e3 i c) (e3 _ k)),F.mul (e3 i c) (e3 _ k)];show F.val (br (eR v s c) i k) -F.val (br (eR v s c) i c)*F.val (br (eR v s c) s.cols.length k)=_;rw[v1,v2,v3]
theorem Ab{v:List NQ}(V:mC v)(F:FV v){a:bk}{N:Nat}(hr:b9 N a)(hl:nJ v.length a): ∀c,c≤N→RI a.length N c (vM F a) (vM F (aH v a c).rows) (aH v a c).cols
 | 0,_=>RI.start a.length N (vM F a)
 | c+1,hc=>by
   have I:=Ab V F hr hl c (by omega);have R:=gw V hr hl c;have hlen:=R.len;obtain ⟨a1,a2,a3,a4⟩:=iq v (aH v a c) c (by have:=R.cm;omega);show RI a.length N (c+1) (vM F a) (vM F (dZ v (aH v a c) c).rows) (dZ v (aH v a c) c).cols;unfold dZ;by_cases h:atR v (aH v a c) c<(aH v a c).rows.length
   · rw[if_pos h];obtain ⟨h3,h4⟩:=C6 V F R (by omega) h;exact I.hit (by omega) a1 (by omega) h3 h4
   · rw[if_neg h];exact I.Jr (by omega) fun q h1 h2=>(F.sg (R.lt q c)).1 (a3 q h1 (by omega))
theorem b9.take{N:Nat}{a:bk}(h:b9 N a)(n:Nat):b9 N (a.take n):=fun j hj=>by
 rw[List.length_take] at hj;rw[List.getD_eq_getElem?_getD,List.getElem?_take,if_pos (by omega),← List.getD_eq_getElem?_getD];exact h j (by omega)
theorem BC{a:bk}{n j:Nat}(hj:j<n):(a.take n).getD j []=a.getD j []:=by
 rw[List.getD_eq_getElem?_getD,List.getElem?_take,if_pos hj,← List.getD_eq_getElem?_getD]
theorem pE{a:bk}{n j:Nat}(hj:j<n)(k:Nat):br (a.take n) j k=br a j k:=by
 unfold br;rw[BC hj]
theorem nJ.take{l:Nat}{a:bk}(h:nJ l a)(n:Nat):nJ l (a.take n):=fun j k=>by
 by_cases hj:j<n
 · rw[pE hj];exact h j k
 · unfold br;rw[mV (by rw[List.length_take];omega)];exact bL l
theorem Ca{m0:Nat}{v:List NQ}(V:jv m0 v){a b:bk}{N n:Nat}(ha:b9 N a)(la:nJ v.length a)(hb:b9 a.length b)(lb:nJ v.length b)(hbN:b.length=N)(hab: ∀i k,i<a.length→k<N→br b k i=br a i k)(hn:n≤a.length):
  (aH v b n).cols.length=(aH v (a.take n) N).cols.length:=by
 obtain ⟨F⟩:=GN V;have I1:=Ab V.a F hb lb n hn;have I2:=Ab V.a F (ha.take n) (la.take n) N (Nat.le_refl N);have hl:(a.take n).length=n:=by rw[List.length_take];omega
 rw[hl] at I2;rw[hbN] at I1
 have key: ∀s,sP N n s (vM F b)↔sP n N s (vM F (a.take n)):=fun s=>by
  constructor
  · intro h;refine h.H6.congr fun i k hi hk=>?_;show F.val (br b k i)=F.val (br (a.take n) i k);rw[hab i k (by omega) hk,pE hi]
  · intro h;refine h.H6.congr fun k i hk hi=>?_;show F.val (br (a.take n) i k)=F.val (br b k i);rw[hab i k (by omega) hk,pE hi]
 have h1:=fun s=>(I1.fac (s:=s)).symm.trans ((key s).trans I2.fac);exact Nat.le_antisymm ((h1 _).2 (Nat.le_refl _)) ((h1 _).1 (Nat.le_refl _))
end Lift
namespace Lift
open Go
open Go.RowKit (Below)
section
variable {P:Program} {T:Ty} {B:Nat} {F0:Nat→Prop} {w0:bQ} {n:Nat} {σ:St} {R:List LR} {ops:Array Oper}
def ij(j k i:Nat)(o:Oper):Oper:=match Nat.beq i k with
 | true=>addEdge j i o
 | false=>o
def c9(ops:Array Oper)(x:Nat×Nat):Array Oper:=(ops.toList.zipIdx.map fun y=>ij x.1 x.2 y.2 y.1).toArray
theorem jJ(ops:Array Oper)(j k i:Nat):(c9 ops (j,k))[i]?=(ops[i]?).map (ij j k i):=by
 unfold c9;rw[List.getElem?_toArray,List.getElem?_map,List.getElem?_zipIdx];simp;cases ops[i]?<;>rfl
theorem oY(ops:Array Oper)(x:Nat×Nat):(c9 ops x).size=ops.size:=by simp[c9]
theorem zb(j k i:Nat)(o:Oper):(ij j k i o).op=o.op∧(ij j k i o).dst=o.dst∧(ij j k i o).guard=o.guard:=by
 unfold ij;split
 · exact oo j i o
 · exact⟨rfl,rfl,rfl⟩
theorem ux(j k i:Nat)(o:Oper)(ρ:Operand→Value):execOp ρ (ij j k i o)=execOp ρ o:=by
 unfold ij;split
 · exact k7 j i o ρ
 · rfl
theorem Eh{j k i:Nat}(h:i≠k)(o:Oper):ij j k i o=o:=by
 unfold ij;cases hb:Nat.beq i k with
 | true=>exact absurd (Nat.eq_of_beq_eq_true hb) h
 | false=>rfl
theorem rF{j k i:Nat}{o:Oper}{e:Edge}:(e∈o.after→e∈(ij j k i o).after)∧(e∈(ij j k i o).after→e∈o.after∨e.on=j):=by
 unfold ij addEdge;split
 · split
   · exact⟨id,.inl⟩
   · refine⟨fun h=>by simp[h],fun h=>?_⟩;simp at h;rcases h with h | rfl
     · exact .inl h
     · exact .inr rfl
 · exact⟨id,.inl⟩
variable {Q:Exit→Act→World→Prop}
theorem ov(j k i:Nat){K:Act→World→Prop}{a:Act}{w:World}(h:wpOp P (c9 ops (j,k)) Q i K a w):wpOp P ops Q i K a w:=by
 unfold wpOp at *;rw[jJ] at h;cases ho:ops[i]? with
 | none=>rw[ho] at h;exact h
 | some o =>
   rw[ho] at h;simp only[Option.map_some] at h ⊢;obtain ⟨e1,e2,e3⟩:=zb j k i o
   have hy: ∀g,yielded (c9 ops (j,k)) a.tmps g=yielded ops a.tmps g:=fun g=>by
    unfold yielded;rw[jJ];cases ops[g]? with
    | none=>rfl
    | some og=>simp only[Option.map_some,Option.bind_some,(zb j k g og).2.1]
   have hw:Region.wanted (ij j k i o) (yielded (c9 ops (j,k)) a.tmps)=Region.wanted o (yielded ops a.tmps):=by
    unfold Region.wanted;rw[e3];split
    · rfl
    · rw[hy]
   rw[hw,e2] at h
   have hwp:(ij j k i o).wp P a w K Q→o.wp P a w K Q:=fun h=>by
    unfold Oper.wp at *;rw[ux] at h;generalize (execOp a.eval o).run P w=r at *;cases r with
    | ok n w'=>cases n<;>simp only[Oper.upon,e2] at h ⊢ <;>exact h
    | halt x w'=>cases x<;>simp only[Oper.upon] at h ⊢ <;>exact h
   have has:(ij j k i o).asks P a w→o.asks P a w:=fun h=>by
    unfold Oper.asks at *;rw[ux] at h;exact h
   split
   · rename_i hc;rw[if_pos hc] at h;rcases h with h | ⟨h1,h2⟩
     · exact .inl (hwp h)
     · exact .inr ⟨has h1,h2⟩
   · rename_i hc;rw[if_neg hc] at h;exact h
def wA:Op→Bool
 | .move _=>true
 | .extract _ _=>true
 | _=>false
theorem BY{o:Oper}(hs:wA o.op=true){a:Act}{w:World}{K:Act→World→Prop}(hpan: ∀c a w,Q (.panic c) a w→False)(h:o.wp P a w K Q): ∃v,(∀w',(execOp a.eval o).run P w'= .ok (.value v) w')∧K (a.put o.dst v) w:=by
 unfold Oper.wp at h;obtain ⟨dst,op,ty,pos,after,guard⟩:=o;simp only[] at hs;cases op<;>simp only[wA] at hs<;>try (cases hs;done)
 · rename_i x;refine⟨a.eval x,fun w'=>by simp[execOp],?_⟩;simpa[execOp,Oper.upon] using h
 · rename_i x ix;cases hx:a.eval x<;>try (exfalso;simp[execOp,Instr.extract,hx,Oper.upon] at h;done)
   rename_i vs;cases hv:vs[ix]? with
   | none=>exfalso;simp[execOp,Instr.extract,hx,hv,Oper.upon] at h
   | some v=>exact⟨v,fun w'=>by simp[execOp,Instr.extract,hx,hv],by simpa[execOp,Instr.extract,hx,hv,Oper.upon] using h⟩
def Ei(ops:Array Oper)(j k:Nat):Bool:=match ops[j]?,ops[k]? with
 | some oj,some ok=>wA oj.op&&oj.guard.isNone&&vQ ops&& !Nat.beq j k &&
   (oj.after.toList.all fun e=> !Region.binds .any e||ok.after.toList.any fun f=>Region.binds .any f&&Nat.beq f.on e.on) &&
   ((List.range ops.size).all fun i=>Nat.beq i j||(oj.after.toList.any fun e=>Region.binds .any e&&Nat.beq e.on i)||match ops[i]? with
     | some o=>(o.after.toList.any fun e=>Region.binds .any e&&Nat.beq e.on j)||oj.apart ops o
     | none=>true)
 | _,_=>false
theorem zA{j k:Nat}(hB:Ei ops j k=true)(hpan: ∀c a w,Q (.panic c) a w→False)(hout:LetsOut Q→False): ∀(f:Nat) (L:Array Bool) (a:Act) (w:World),L.size=ops.size →
  wpAny P .any (c9 ops (j,k)) Q f L a w→wpAny P .any ops Q f L a w:=by
 unfold Ei at hB;split at hB;rotate_left
 · cases hB
 rename_i oj ok hoj hok;simp only[Bool.and_eq_true,List.all_eq_true,Bool.not_eq_true'] at hB;obtain ⟨⟨⟨⟨⟨hst,hg⟩,hsel⟩,hjk⟩,haf⟩,hap⟩:=hB;have hjk:=Nat.ne_of_beq_eq_false hjk;have hgn:oj.guard=none:=by simpa using hg
 have hjl:j<ops.size:=(Array.getElem?_eq_some_iff.1 hoj).1
 have hdich: ∀L:Array Bool,L.size=ops.size→L.getD j true=false∨L.getD j false=true:=fun L hL=>by
  simp only[Array.getD_eq_getD_getElem?];rw[Array.getElem?_eq_getElem (by omega)];simp only[Option.getD_some];cases L[j]'(by omega)<;>simp
 have r1: ∀(L:Array Bool) i,i∈Region.ready .any (c9 ops (j,k)) L→i∈Region.ready .any ops L:=fun L i hi=>by
  rw[mem_ready] at hi ⊢;obtain ⟨h1,o,ho,h2⟩:=hi;rw[jJ] at ho;cases hx:ops[i]? with
  | none=>rw[hx] at ho;cases ho
  | some o' =>
    rw[hx] at ho;simp at ho;subst ho;exact⟨h1,o',rfl,fun e he hb=>h2 e (rF.1 he) hb⟩
 have r2: ∀(L:Array Bool) i,i∈Region.ready .any ops L→(i≠k∨L.getD j false=true)→i∈Region.ready .any (c9 ops (j,k)) L:=fun L i hi hc=>by
  rw[mem_ready] at hi ⊢;obtain ⟨h1,o,ho,h2⟩:=hi;refine⟨h1,ij j k i o,by rw[jJ,ho];rfl,fun e he hb=>?_⟩;rcases hc with hc | hc
  · rw[Eh hc] at he;exact h2 e he hb
  · rcases rF.2 he with h | h
    · exact h2 e h hb
    · rw[h];exact hc
 have rj: ∀L:Array Bool,k∈Region.ready .any ops L→L.getD j true=false→j∈Region.ready .any ops L:=fun L hk hj=>by
  rw[mem_ready] at hk ⊢;obtain ⟨_,o,ho,h2⟩:=hk;rw[hok] at ho;cases ho;refine⟨hj,oj,hoj,fun e he hb=>?_⟩;have:=haf e (by simpa using he);rw[hb] at this;simp only[Bool.not_true,Bool.false_or] at this;obtain ⟨f,hf,hfb⟩:=List.any_eq_true.1 this;simp only[Bool.and_eq_true] at hfb;rw[← Nat.eq_of_beq_eq_true hfb.2];exact h2 f (by simpa using hf) hfb.1
 intro f
 induction f with
 | zero =>
   intro L a w hL h;refine⟨List.eq_nil_iff_forall_not_mem.2 fun i hi=>?_,h.2⟩;rcases hdich L hL with hd | hd
   · by_cases hik:i=k
     · subst hik;have:=r2 L j (rj L hi hd) (.inl hjk);rw[h.1] at this;cases this
     · have:=r2 L i hi (.inl hik);rw[h.1] at this;cases this
   · have:=r2 L i hi (.inr hd);rw[h.1] at this;cases this
 | succ f ih =>
   intro L a w hL h;have hLs: ∀i,(L.setIfInBounds i true).size=ops.size:=fun i=>by simpa using hL
   refine⟨fun hn=>h.1 (List.eq_nil_iff_forall_not_mem.2 fun i hi=>?_),fun i hi=>?_⟩
   · have:=r1 L i hi;rw[hn] at this;cases this
   · have easy:(i≠k∨L.getD j false=true)→wpOp P ops Q i (wpAny P .any ops Q f (L.setIfInBounds i true)) a w:=fun hc =>
      wpOp_mono (fun a' w' h'=>ih _ a' w' (hLs i) h') (ov j k i (h.2 i (r2 L i hi hc)))
     rcases hdich L hL with hd | hd
     rotate_left
     · exact easy (.inr hd)
     by_cases hik:i=k;rotate_left
     · exact easy (.inl hik)
     subst hik;have hjr:=rj L hi hd;have h1:=ov j i j (h.2 j (r2 L j hjr (.inl hjk)));have hwant:Region.wanted oj (yielded ops a.tmps)=true:=by simp[Region.wanted,hgn]
     unfold wpOp at h1;simp only[hoj,hwant,if_true] at h1;rcases h1 with h1 | ⟨_,h1⟩
     rotate_left
     · exact(hout h1).elim
     obtain ⟨v,hv,hK⟩:=BY hst hpan h1;have h3:=ih _ _ _ (hLs j) hK
     have h4:=wpAny_first (i:=j) (oi:=oj) (v:=v) hoj (fun i o cs b hi he=>by
      unfold vQ at hsel;have:=List.all_eq_true.1 hsel o (by simpa using Array.mem_of_getElem? hi);rw[he] at this
      cases this) (fun c a' w' hq=>(hpan _ _ _ hq).elim) f L a w (fun i oi hi hij hli hne=>by
       have:=hap i (List.mem_range.2 (Array.getElem?_eq_some_iff.1 hi).1);rw[hi] at this;simp only[Bool.or_eq_true] at this;rcases this with (h | h) | h
       · exact absurd (Nat.eq_of_beq_eq_true h) hij
       · exfalso;obtain ⟨e,he,hb⟩:=List.any_eq_true.1 h;simp only[Bool.and_eq_true] at hb;obtain ⟨_,o,ho,h2⟩:=mem_ready.1 hjr;rw[hoj] at ho;cases ho;have h3:=h2 e (by simpa using he) hb.1;rw[Nat.eq_of_beq_eq_true hb.2,getD_both hli] at h3;cases h3
       · rcases h with h | h
         · exfalso;obtain ⟨e,he,hb⟩:=List.any_eq_true.1 h;simp only[Bool.and_eq_true] at hb;exact hne e (by simpa using he) hb.1 (Nat.eq_of_beq_eq_true hb.2)
         · exact h) hjr (.inl ⟨hwant,fun w=>hv w⟩) h3
     exact h4.2 i hi
def uw:List (Nat×Nat)→Array Oper→Bool
 | [],_=>true
 | x::l,ops=>Ei ops x.1 x.2&&uw l (c9 ops x)
theorem lH(hpan: ∀c a w,Q (.panic c) a w→False)(hout:LetsOut Q→False){f:Nat}{L:Array Bool}{a:Act}{w:World}: ∀(l:List (Nat×Nat)) (ops:Array Oper),uw l ops=true→L.size=ops.size→wpAny P .any (l.foldl c9 ops) Q f L a w→wpAny P .any ops Q f L a w
 | [],_,_,_,h=>h
 | x::l,ops,hB,hL,h=>by
   rw[uw,Bool.and_eq_true] at hB;exact zA hB.1 hpan hout f L a w hL (lH hpan hout l (c9 ops x) hB.2 (by rw[oY];exact hL) h)
theorem oc: ∀(l:List (Nat×Nat)) (ops:Array Oper),(l.foldl c9 ops).size=ops.size
 | [],_=>rfl
 | x::l,ops=>(oc l (c9 ops x)).trans (oY ops x)
end
section
variable {P:Program} {T:Ty} {B:Nat} {F0:Nat→Prop} {w0:bQ} {n:Nat} {σ:St} {R:List LR} {ops:Array Oper} {Q:Exit→List LR→St→Prop}
theorem gL.vZ(l:List (Nat×Nat))(hB:uw l ops=true)(hpan: ∀c R σ,Q (.panic c) R σ→False)(hout: ∀R σ,Q .outgrown R σ→False)(h:gL P B F0 w0 n (l.foldl c9 ops) Q R σ):gL P B F0 w0 n ops Q R σ:=by
 intro a w hR;have hA:=h a w hR;rw[oc] at hA;refine lH (fun c a w hq=>?_) (fun hq=>?_) l ops hB (by simp) hA
 · obtain ⟨R,σ,h,_⟩:=hq;exact hpan c R σ h
 · obtain ⟨a,w,R,σ,h,_⟩:=hq;exact hout R σ h
theorem lj.vZ{Q:Exit→St→Prop}(l:List (Nat×Nat))(hB:uw l ops=true)(hpan: ∀c σ,Q (.panic c) σ→False)(hout: ∀σ,Q .outgrown σ→False)(h:lj P B F0 w0 n (l.foldl c9 ops) Q σ):lj P B F0 w0 n ops Q σ:=by
 intro a w hR;have hA:=h a w hR;rw[oc] at hA;refine lH (fun c a w hq=>?_) (fun hq=>?_) l ops hB (by simp) hA
 · obtain ⟨σ,h,_⟩:=hq;exact hpan c σ h
 · obtain ⟨a,w,σ,h,_⟩:=hq;exact hout σ h
end
end Lift
namespace Lift
open Go Go.Proofs
abbrev mB(Vs:List Value):List D:=Vs.map D.v
theorem b8{Vs:List Value}{i:Nat}(h:i<Vs.length):(mB Vs)[i]?=some (.v (Vs.getD i undef)):=by simp[h]
abbrev OA(Vs:List Value):AV:=AV.ow 22 (mB Vs)
abbrev CA(cols:List Nat):AV:=AV.ow 3 (cols.map (fun c:Nat=>dI c))
def bY(Vs:List Value)(a:bk):List LR:=List.zipWith (fun V r=>(V,eH r)) Vs a
theorem zv{Vs:List Value}{a:bk}(h:Vs.length=a.length)(V:Value)(r:List NQ):bY (Vs++[V]) (a++[r])=bY Vs a++[(V,eH r)]:=by
 unfold bY;rw[List.zipWith_append h];rfl
theorem b5{Vs:List Value}{a:bk}{j:Nat}(hV:j<Vs.length)(ha:j<a.length):(bY Vs a)[j]?=some (Vs.getD j undef,eH (a.getD j [])):=by
 unfold bY;simp[List.getElem?_zipWith,hV,ha]
theorem pT{Vs:List Value}{a:bk}{j:Nat}(hV:j<Vs.length)(ha:j<a.length)(V:Value)(r:List NQ):(bY Vs a).set j (V,eH r)=bY (Vs.set j V) (a.set j r):=by
 unfold bY;refine List.ext_getElem? (fun k=>?_);by_cases hk:k=j
 · subst hk;rw[List.getElem?_set_self (by simp;omega)];simp[List.getElem?_zipWith,hV,ha]
 · rw[List.getElem?_set_ne (Ne.symm hk)];simp[List.getElem?_zipWith,List.getElem?_set_ne (Ne.symm hk)]
theorem Df{Vs:List Value}{j:Nat}(hV:j<Vs.length):Vs.set j (Vs.getD j undef)=Vs:=by
 refine List.ext_getElem? (fun k=>?_);by_cases hk:k=j
 · subst hk;rw[List.getElem?_set_self hV];simp[hV]
 · rw[List.getElem?_set_ne (Ne.symm hk)]
theorem lS{a:bk}{j:Nat}(ha:j<a.length):a.set j (a.getD j [])=a:=by
 refine List.ext_getElem? (fun k=>?_);by_cases hk:k=j
 · subst hk;rw[List.getElem?_set_self ha];simp[ha]
 · rw[List.getElem?_set_ne (Ne.symm hk)]
theorem sO{Vs:List Value}{a:bk}{j:Nat}(hV:j<Vs.length)(ha:j<a.length)(r:List NQ):(bY Vs a).set j (Vs.getD j undef,eH r)=bY Vs (a.set j r):=by
 rw[pT hV ha,Df hV]
def Bb(Vs:List Value)(r t:Nat):List Value:=(Vs.set t (Vs.getD r undef)).set r (Vs.getD t undef)
theorem Ba(Vs:List Value)(r t:Nat):(Bb Vs r t).length=Vs.length:=by unfold Bb;rw[List.length_set,List.length_set]
theorem zu{Vs:List Value}{a:bk}{r t:Nat}(h:Vs.length=a.length)(hr:r<a.length)(ht:t<a.length):
  ((bY Vs a).set t (Vs.getD r undef,eH (a.getD r []))).set r (Vs.getD t undef,eH (a.getD t []))=bY (Bb Vs r t) (A9 a r t):=by
 rw[pT (by omega) ht,pT (by simp;omega) (by simp;omega)];rfl
theorem EW{Vs:List Value}{a:bk}{i r:Nat}(h:Vs.length=a.length)(hi:i<a.length)(hr:r<a.length)(hir:i≠r)(z:List NQ):
  ((bY Vs a).set i (Vs.getD i undef,eH z)).set r (Vs.getD r undef,eH (a.getD r []))=bY Vs (a.set i z):=by
 rw[sO (by omega) hi];have e:a.getD r []=(a.set i z).getD r []:=by rw[fk,if_neg (fun g=>hir g.1.symm)]
 rw[e,sO (by omega) (by simpa using hr),lS (by simpa using hr)]
section
variable {P:Program} {T:Ty} {B:Nat} {F0:Nat→Prop} {w0:bQ} {n:Nat} {σ τ:St} {K:St→Prop} {all:Array Oper} {o:Oper} {d:Nat} {rest:List Oper} {R:List LR} {x:Code} {Q:Exit→List LR→St→Prop}
theorem ab.oH(hT:a6 P T){k e i:Nat}{Vs:List Value}(V:Value)(hd:o.dst=none)(hg:aq all σ o=true)(hx:Bh T σ o.op=some (k,.ow e (mB Vs),mB Vs,i,0,.v V))(hi:i<Vs.length)
  (h:ab P B F0 w0 n all rest K ((k,.ow e (mB (Vs.set i V)))::σ)):ab P B F0 w0 n all (o::rest) K σ:=by
 refine ab.jF hT (.v (Vs.getD i undef)) hd hg hx (b8 hi) rfl ?_;show ab P B F0 w0 n all rest K ((k,.ow e ((mB Vs).set i (.v V)))::σ);rw[show (mB Vs).set i (.v V)=mB (Vs.set i V) from (List.map_set ..).symm];exact h
theorem AZ.D9(hT:a6 P T){e eo:Nat}{te:TI}(he:T.get e=some te)(h1:te.size=1){Vr:Value}{X:LR}{Vs:List Value}{a:bk}(hl:Vs.length=a.length)
  (h:AZ P B F0 w0 n x Q [(Vr,.ow eo (a.map dv)),X] σ): ∀(m k:Nat),m+k=a.length→ ∀L:List LR,(∀j,k≤j→j<a.length→L[j]?=some (Vs.getD j undef,.ow e ((a.getD j []).map ah))) →
  AZ P B F0 w0 n x Q ((Vr,.ow eo ((a.take k).map dv++(mB Vs).drop k))::X::L) σ
 | 0,k,hk,L,hL=>by
   rw[List.take_of_length_le (by omega),List.drop_eq_nil_of_le (by rw[List.length_map];omega),List.append_nil];refine AZ.rG _ (fun i r hr=> .inl ?_) h
   match i,hr with
   | 0,hr=>exact hr
   | 1,hr=>exact hr
 | m+1,k,hk,L,hL=>by
   have hka:k<a.length:=by omega
   have hll:k<L.length:=(List.getElem?_eq_some_iff.1 (hL k (Nat.le_refl _) hka)).1;have hft:((a.take k).map dv).length=k:=by rw[List.length_map,List.length_take];omega
   refine AZ.F7 hT (k+2) 0 k (cs:=(a.take k).map dv++(mB Vs).drop k) rfl (fun d hd=>?_) ?_ (hL k (Nat.le_refl _) hka) (by omega) he ?_
   · rcases List.mem_append.1 hd with g | g
     · obtain ⟨r,_,rfl⟩:=List.mem_map.1 g;rfl
     · obtain ⟨V,_,rfl⟩:=List.mem_map.1 (List.mem_of_mem_drop g);rfl
   · rw[List.getElem?_append_right (by omega),hft,Nat.sub_self,List.getElem?_drop,Nat.add_zero];exact b8 (by omega)
   · have e1:((a.take k).map dv++(mB Vs).drop k).set k (.sl te.size ((a.getD k []).map ah))=(a.take (k+1)).map dv++(mB Vs).drop (k+1):=by
      rw[h1,List.set_append_right _ _ (by omega),hft,Nat.sub_self,List.take_succ_eq_append_getElem hka,List.map_append]
      have:(mB Vs).drop k= .v (Vs.getD k undef)::(mB Vs).drop (k+1):=by
       rw[List.drop_eq_getElem_cons (by rw[List.length_map];omega)]
       congr 1
       have:=b8 (Vs:=Vs) (i:=k) (by omega);rw[List.getElem?_eq_getElem (by rw[List.length_map];omega)] at this;simpa using this
      rw[this,List.set_cons_zero,List.append_assoc];have g:a[k]=a.getD k []:=by rw[List.getD_eq_getElem?_getD,List.getElem?_eq_getElem hka];rfl
      rw[g];rfl
     show AZ P B F0 w0 n x Q ((Vr,.ow eo (((a.take k).map dv++(mB Vs).drop k).set k (.sl te.size ((a.getD k []).map ah))))::X::L.set k (Vs.getD k undef,.junk)) σ;rw[e1]
     exact AZ.D9 hT he h1 hl h m (k+1) (by omega) (L.set k (Vs.getD k undef,.junk)) (fun j hj hja=>by
      rw[List.getElem?_set_ne (by omega)];exact hL j (by omega) hja)
end
abbrev CF(s:ir):D:= .ag [bS s.rows,.sl 1 (s.cols.map (fun c:Nat=>dI c)),dI s.sg,ah s.det]
set_option maxHeartbeats 12800000 in
theorem qq{v:List NQ}(V:mC v){a:bk}{N most:Nat}(ha0:0<a.length)(ha:a.length≤1000000)(hN:N≤1000000)(hmost:most≤N)(hr:b9 N a)(hl:nJ v.length a)(ok: ∀c,c<most→k8 v (aH v a c) c):
  Pure Tryz.prog 46 [bI v,bS a,dI most] (.tu [CF (aH v a most),aI]):=by
 refine qJ 205 Tryz.func46 rfl rfl rfl rfl (by kernel_rfl) (fun B F0 w0=>?_);have cone:=lM (Qr ((1:Int):Rat)) (k:=1) (iL _ (by have:=k9;rw[show ((1:Int):Rat)=1 from rfl];omega)) (by decide) (by decide) (zq _);rw[bK,show HX ((1:Int):Rat)=[1] from rfl] at cone;have htk:=fun {i:Nat} (hi:i<a.length)=>List.take_succ_eq_append_getElem (l:=a) hi;refine AZ.aw ?_;refine AZ.seq ?_;refine AZ.dm (fun B1 F1 w1=>?_);refine qU 3 rfl ?_;refine ab.nil ⟨rfl,?_⟩;refine AZ.seq ?_;refine AZ.dm (fun B1 F1 w1=>?_);refine ab.call tok rfl rfl rfl rfl (gk 1 (by decide) (by decide)) ?_;refine ab.call tok rfl rfl rfl rfl cone ?_;refine ab.EE tok [.v fZ,.v fZ,dI 0,.sl 3 []] rfl rfl rfl rfl (by kernel_rfl) ?_;refine qU 2 rfl ?_;refine ab.nil ⟨rfl,?_⟩;refine AZ.xa 22 ?_;refine AZ.xa 3 ?_;refine AZ.seq ?_;refine AZ.seq ?_;refine AZ.dm (fun B1 F1 w1=>?_);refine qU 2 rfl ?_;rw[List.length_map];refine qU 1 rfl ?_;refine ab.nil ⟨rfl,?_⟩;refine AZ.block ?_;refine AZ.aD [2,3,6,7,8,22,23,24] (fun s:Nat×Value×List Value=>((s.2.1,OA s.2.2)::(fZ,CA [])::bY s.2.2 (a.take s.1),[(2,.d (dI most)),(3,.bx [.sl 1 (v.map ah)]),(6,.bx [.sl 1 [],.sl 1 [],dI 0,.sl 3 []]),(7,.d aI),(8,.bx [.v s.2.1,.v fZ,dI 1,ah [1]]),(22,.d (bS a)),(23,.d (dI a.length)),(24,.d (dI s.1))])) (fun s=>s.1≤a.length∧s.2.2.length=s.1) (fun s=>a.length-s.1) (0,fZ,[]) rfl ⟨Nat.zero_le _,rfl⟩ (fun s hs=>?_);obtain ⟨i,Vr,Vs⟩:=s;obtain ⟨hi,hVs⟩:=hs
 dsimp only at hi hVs
 show AZ _ _ _ _ _ _ _ ((Vr,OA Vs)::(fZ,CA [])::bY Vs (a.take i)) [(2,.d (dI most)),(3,.bx [.sl 1 (v.map ah)]),(6,.bx [.sl 1 [],.sl 1 [],dI 0,.sl 3 []]),(7,.d aI),(8,.bx [.v Vr,.v fZ,dI 1,ah [1]]),(22,.d (bS a)),(23,.d (dI a.length)),(24,.d (dI i))];refine AZ.seq ?_;refine AZ.dm (fun B1 F1 w1=>?_);refine qU 1 rfl ?_;refine ab.nil ⟨rfl,?_⟩;refine AZ.seq ?_;refine AZ.cond rfl (fun h=>?_) (fun h=>?_)
 · have hii:i<a.length:=by have:=of_decide_eq_true h;omega
   have hg:=getM dv (l:=a) (i:=i) hii;have hrl:(a.getD i []).length≤1000000:=by rw[hr i hii];exact hN
   have htk:=htk hii;have hge:a[i]=a.getD i []:=by rw[List.getD_eq_getElem?_getD,List.getElem?_eq_getElem hii];rfl
   rw[hge] at htk;generalize a.getD i []=row at hg hrl htk;refine AZ.skip ?_;refine AZ.seq ?_;refine AZ.block ?_;refine AZ.seq ?_;refine AZ.dm (fun B1 F1 w1=>?_);refine ab.idx tok (dv row) rfl rfl rfl rfl (Int.natCast_nonneg i) hg ?_;refine qU 2 rfl ?_;refine ab.nil ⟨rfl,?_⟩;refine AZ.any aL (ZH.any (β:=[]) ?_);refine ZH.mv 2 rfl rfl (by kernel_rfl) (by kernel_rfl) (by kernel_rfl) rfl (fun _ _ _ h=>h) (fun _=>rfl) trivial (fun B1 F1 w1=>?_);refine qU 1 rfl ?_;refine ab.nil ⟨rfl,?_⟩;refine ZH.fd tok 0 rfl rfl (by kernel_rfl) (by kernel_rfl) (by kernel_rfl) rfl (fun _ _ _ h=>h) (fun _=>rfl) trivial (fun B1 F1 w1=>?_);refine qU 1 rfl ?_;refine ab.nil ⟨rfl,?_⟩;refine ZH.meet 3 (qB 8 31) (fun V=>(((Vr,OA Vs)::(fZ,CA [])::bY Vs (a.take i))++[(V,eH row)])) (fun V=>[(2,.d (dI most)),(3,.bx [.sl 1 (v.map ah)]),(6,.bx [.sl 1 [],.sl 1 [],dI 0,.sl 3 []]),(7,.d aI),(8,.bx [.v Vr,.v fZ,dI 1,ah [1]]),(22,.d (bS a)),(23,.d (dI a.length)),(24,.d (dI i)),(10,.d (dv row)),(30,.d (dv row)),(28,.pt 8 0),(29,.d (.v Vr)),(31,.d (.v V)),(32,.d (.sl 1 [.v V]))]) (fun V=>?_) (fun N1_2=>?_)
   · refine ZH.all 5 (by kernel_rfl) rfl rfl (fun _=>rfl) trivial ?_;refine af.df 29 0 rfl rfl rfl ?_;refine af.cut 1 rfl (fun B1 F1 w1=>?_);refine ab.gK tok rfl rfl rfl rfl rfl rfl (by show ((mB Vs).length+1)*24≤_;rw[List.length_map];omega) (by show (mB Vs).length+1≤_;rw[List.length_map];omega) ?_;refine ab.nil ⟨rfl,?_⟩;refine af.ub 33 0 rfl rfl rfl rfl (fun Vq=>?_)
     refine af.kx (R':=(Vq,OA (Vs++[V]))::(fZ,CA [])::bY (Vs++[V]) (a.take (i+1))) (by
      show (Vq,AV.ow 22 (mB Vs++[.v V]))::(fZ,CA [])::(bY Vs (a.take i)++[(V,eH row)])=_
      rw[htk,zv (by rw[List.length_take];omega),show mB Vs++[.v V]=mB (Vs++[V]) by simp]) ?_
     refine af.nil ?_;refine ZH.to [2,3,6,7,8,22,23,24,10,30,28,32,33] [(2,.d (dI most)),(3,.bx [.sl 1 (v.map ah)]),(6,.bx [.sl 1 [],.sl 1 [],dI 0,.sl 3 []]),(7,.d aI),(8,.bx [.v Vr,.v fZ,dI 1,ah [1]]),(22,.d (bS a)),(23,.d (dI a.length)),(24,.d (dI i)),(10,.d (dv row)),(30,.d (dv row)),(28,.pt 8 0),(32,.d (.sl 1 [.v V])),(33,.d (.v Vq))] rfl trivial ?_;refine ZH.all 6 (by kernel_rfl) rfl rfl (fun _=>rfl) trivial ?_;refine ao (fun B1 F1 w1=>?_);refine qU 1 rfl ?_;refine ab.nil ⟨rfl,?_⟩;refine ZH.all 7 (by kernel_rfl) rfl rfl (fun _=>rfl) trivial ?_;refine ao (fun B1 F1 w1=>?_);refine qU 1 rfl ?_;refine ab.nil ⟨rfl,?_⟩;refine ZH.done (by kernel_rfl) trivial ?_;refine AZ.to [2,3,6,7,8,22,23,24] [(2,.d (dI most)),(3,.bx [.sl 1 (v.map ah)]),(6,.bx [.sl 1 [],.sl 1 [],dI 0,.sl 3 []]),(7,.d aI),(8,.bx [.v Vq,.v fZ,dI 1,ah [1]]),(22,.d (bS a)),(23,.d (dI a.length)),(24,.d (dI i))] rfl ?_;refine AZ.dm (fun B1 F1 w1=>?_);refine qU 1 rfl ?_;rw[aA (x:=(i:Int)+1) (by omega) (by omega)];refine qU 1 rfl ?_;refine ab.nil ⟨rfl,?_⟩;exact⟨(i+1,Vq,Vs++[V]),rfl,⟨hii,by show (Vs++[V]).length=i+1;rw[List.length_append];show Vs.length+1=_;omega⟩,by show a.length-(i+1)<a.length-i;omega⟩
   refine ZH.meet 4 (qB 8 29) (fun V=>(((Vr,OA Vs)::(fZ,CA [])::bY Vs (a.take i))++[(V,eH row)])) (fun V=>[(2,.d (dI most)),(3,.bx [.sl 1 (v.map ah)]),(6,.bx [.sl 1 [],.sl 1 [],dI 0,.sl 3 []]),(7,.d aI),(8,.bx [.v Vr,.v fZ,dI 1,ah [1]]),(22,.d (bS a)),(23,.d (dI a.length)),(24,.d (dI i)),(10,.d (dv row)),(30,.d (dv row)),(28,.pt 8 0),(31,.d (.v V)),(32,.d (.sl 1 [.v V]))]) (fun V=>?_) (fun N0_2=>?_)
   · refine ZH.all 1 (by kernel_rfl) rfl rfl (fun _=>rfl) trivial ?_;refine ao (fun B1 F1 w1=>?_);refine qU 1 rfl ?_;refine ab.nil ⟨rfl,?_⟩;exact qL (N1_2 V) (by kernel_rfl) rfl trivial
   refine ZH.meet 4 (qB 8 15) (fun V=>(((Vr,OA Vs)::(fZ,CA [])::bY Vs (a.take i))++[(V,eH row)])) (fun V=>[(2,.d (dI most)),(3,.bx [.sl 1 (v.map ah)]),(6,.bx [.sl 1 [],.sl 1 [],dI 0,.sl 3 []]),(7,.d aI),(8,.bx [.v Vr,.v fZ,dI 1,ah [1]]),(22,.d (bS a)),(23,.d (dI a.length)),(24,.d (dI i)),(10,.d (dv row)),(30,.d (dv row)),(28,.pt 8 0),(29,.d (.v Vr)),(31,.d (.v V))]) (fun V=>?_) (fun N1_1=>?_)
   · refine ZH.all 4 (by kernel_rfl) rfl rfl (fun _=>rfl) trivial ?_;refine ao (fun B1 F1 w1=>?_);refine ab.fA tok rfl rfl rfl rfl rfl ?_;refine ab.nil ⟨rfl,?_⟩;exact qL (N1_2 V) (by kernel_rfl) rfl trivial
   refine ZH.meet 5 (qB 8 13) (fun V=>(((Vr,OA Vs)::(fZ,CA [])::bY Vs (a.take i))++[(V,eH row)])) (fun V=>[(2,.d (dI most)),(3,.bx [.sl 1 (v.map ah)]),(6,.bx [.sl 1 [],.sl 1 [],dI 0,.sl 3 []]),(7,.d aI),(8,.bx [.v Vr,.v fZ,dI 1,ah [1]]),(22,.d (bS a)),(23,.d (dI a.length)),(24,.d (dI i)),(10,.d (dv row)),(30,.d (dv row)),(28,.pt 8 0),(31,.d (.v V))]) (fun V=>?_) (fun N0_1=>?_)
   · refine ZH.two 1 4 (by kernel_rfl) rfl rfl rfl rfl (fun _=>rfl) (fun _=>rfl) trivial ?_ ?_
     · refine ao (fun B1 F1 w1=>?_);refine qU 1 rfl ?_;refine ab.nil ⟨rfl,?_⟩;exact qL (N1_1 V) (by kernel_rfl) rfl trivial
     · refine ao (fun B1 F1 w1=>?_);refine ab.fA tok rfl rfl rfl rfl rfl ?_;refine ab.nil ⟨rfl,?_⟩;exact qL (N0_2 V) (by kernel_rfl) rfl trivial
   refine ZH.meet 5 (qB 8 7) (fun V=>((Vr,OA Vs)::(fZ,CA [])::bY Vs (a.take i))) (fun V=>[(2,.d (dI most)),(3,.bx [.sl 1 (v.map ah)]),(6,.bx [.sl 1 [],.sl 1 [],dI 0,.sl 3 []]),(7,.d aI),(8,.bx [.v Vr,.v fZ,dI 1,ah [1]]),(22,.d (bS a)),(23,.d (dI a.length)),(24,.d (dI i)),(10,.d (dv row)),(30,.d (dv row)),(28,.pt 8 0),(29,.d (.v Vr))]) (fun V=>?_) (fun N1_0=>?_)
   · refine ZH.all 3 (by kernel_rfl) rfl rfl (fun _=>rfl) trivial ?_;refine af.ju tok [] rfl rfl rfl rfl rfl List.nodup_nil rfl (zj row hrl) (fun _ _ _=>Nat.zero_le _) (fun res R1 hP=>?_);obtain ⟨V,rfl,rfl⟩:=hP;refine af.nil ?_;exact qL (N1_1 V) (by kernel_rfl) rfl trivial
   refine ZH.meet 6 (qB 8 5) (fun V=>((Vr,OA Vs)::(fZ,CA [])::bY Vs (a.take i))) (fun V=>[(2,.d (dI most)),(3,.bx [.sl 1 (v.map ah)]),(6,.bx [.sl 1 [],.sl 1 [],dI 0,.sl 3 []]),(7,.d aI),(8,.bx [.v Vr,.v fZ,dI 1,ah [1]]),(22,.d (bS a)),(23,.d (dI a.length)),(24,.d (dI i)),(10,.d (dv row)),(30,.d (dv row)),(28,.pt 8 0)]) (fun V=>?_) (fun N0_0=>?_)
   · refine ZH.two 1 3 (by kernel_rfl) rfl rfl rfl rfl (fun _=>rfl) (fun _=>rfl) trivial ?_ ?_
     · refine ao (fun B1 F1 w1=>?_);refine qU 1 rfl ?_;refine ab.nil ⟨rfl,?_⟩;exact qL (N1_0 V) (by kernel_rfl) rfl trivial
     · refine af.ju tok [] rfl rfl rfl rfl rfl List.nodup_nil rfl (zj row hrl) (fun _ _ _=>Nat.zero_le _) (fun res R1 hP=>?_);obtain ⟨V,rfl,rfl⟩:=hP;refine af.nil ?_;exact qL (N0_1 V) (by kernel_rfl) rfl trivial
   exact qL (N0_0 fZ) (by kernel_rfl) rfl trivial
 have hii:i=a.length:=by have:=of_decide_eq_false h;omega
 subst hii;rw[List.take_length];refine AZ.exit ?_;refine AZ.seq ?_;refine AZ.seq ?_;refine AZ.dm (fun B1 F1 w1=>?_);refine qU 2 rfl ?_;refine ab.nil ⟨rfl,?_⟩;refine AZ.block ?_;refine AZ.aD [3,6,7,8,36,37] (fun z:Nat×Value×Value×List Value=>((z.2.1,OA z.2.2.2)::(z.2.2.1,CA (aH v a z.1).cols)::bY z.2.2.2 (aH v a z.1).rows,[(3,.bx [.sl 1 (v.map ah)]),(6,.bx [.sl 1 [],.sl 1 [],dI 0,.sl 3 []]),(7,.d aI),(8,.bx [.v z.2.1,.v z.2.2.1,dI (aH v a z.1).sg,ah (aH v a z.1).det]),(36,.d (dI most)),(37,.d (dI z.1))])) (fun z=>z.1≤most∧z.2.2.2.length=a.length) (fun z=>most-z.1) (0,Vr,fZ,Vs) rfl ⟨Nat.zero_le _,hVs⟩ (fun z hz=>?_);clear hVs;clear Vr Vs;obtain ⟨c,Vr,Vc,Vs⟩:=z;obtain ⟨hc,hVs⟩:=hz
 dsimp only at hc hVs
 have hR:=gw V hr hl c;have hnext:aH v a (c+1)=dZ v (aH v a c) c:=rfl;have hok:=ok c;obtain ⟨s,hs⟩: ∃s,aH v a c=s:=⟨_,rfl⟩;rw[hs] at hR hnext hok;show AZ _ _ _ _ _ _ _ ((Vr,OA Vs)::(Vc,CA (aH v a c).cols)::bY Vs (aH v a c).rows) [(3,.bx [.sl 1 (v.map ah)]),(6,.bx [.sl 1 [],.sl 1 [],dI 0,.sl 3 []]),(7,.d aI),(8,.bx [.v Vr,.v Vc,dI (aH v a c).sg,ah (aH v a c).det]),(36,.d (dI most)),(37,.d (dI c))];rw[hs];refine AZ.seq ?_;refine AZ.dm (fun B1 F1 w1=>?_);refine qU 1 rfl ?_;refine ab.nil ⟨rfl,?_⟩;refine AZ.seq ?_;refine AZ.cond rfl (fun h=>?_) (fun h=>?_);rotate_left
 · have hcm:c=most:=by have:=of_decide_eq_false h;omega
   subst hcm;rw[hs];refine AZ.exit ?_;refine AZ.rG ((Vr,AV.ow 22 ((s.rows.take 0).map dv++(mB Vs).drop 0))::(Vc,CA s.cols)::bY Vs s.rows) (fun _ _ h=> .inl h) ?_;refine AZ.D9 (te:=_) tok (e:=53) rfl rfl (by rw[hR.len];exact hVs) ?_ s.rows.length 0 (by omega) (bY Vs s.rows) (fun j _ hj=>b5 (by rw[hVs,← hR.len];exact hj) hj);refine AZ.Cq tok 8 0 0 rfl rfl rfl rfl ?_;refine AZ.Cq tok 8 1 1 rfl rfl rfl rfl ?_;refine AZ.seq ?_;refine AZ.dm (fun B1 F1 w1=>?_);refine qU 3 rfl ?_;refine ab.nil ⟨rfl,?_⟩;exact AZ.ret rfl
 have hcm:c<most:=by have:=of_decide_eq_true h;omega
 have hok:=hok hcm;have hm:=hR.len;have hcN:c<N:=by omega
 have hVm:Vs.length=s.rows.length:=by omega
 have hrm:=hR.cm;rw[← hm] at hrm;obtain ⟨hat1,hat2,hat3,hat4⟩:=iq v s c hrm;have hrow0:0<s.rows.length:=by omega
 have hm6:s.rows.length≤1000000:=by omega
 have hel: ∀{b:bk} {i:Nat},b9 N b→i<b.length→ ∀k,k<N→((b.getD i []).map ah)[k]?=some (ah (br b i k)):=fun {b i} hb hi k hk=>getM ah (by rw[hb i hi];exact hk);refine AZ.skip ?_;refine AZ.seq ?_;refine AZ.block ?_;refine AZ.seq ?_;refine AZ.dm (fun B1 F1 w1=>?_);refine qU 2 rfl ?_;refine ab.nil ⟨rfl,?_⟩;refine AZ.seq ?_;refine AZ.region ?_;refine af.cut 2 rfl (fun B1 F1 w1=>?_);refine qU 2 rfl ?_;refine ab.nil ⟨rfl,?_⟩;refine af.df 41 1 rfl rfl rfl ?_;refine af.cut 1 rfl (fun B1 F1 w1=>?_);refine qU 1 rfl ?_;rw[List.length_map];refine ab.nil ⟨rfl,?_⟩;refine af.back 41 1 rfl rfl rfl (List.Mem.head _) rfl ?_;refine af.cut 1 rfl (fun B1 F1 w1=>?_);refine qU 1 rfl ?_;refine ab.nil ⟨rfl,?_⟩;refine af.nil ?_;refine AZ.to [3,6,7,8,11,12,36,37] [(3,.bx [.sl 1 (v.map ah)]),(6,.bx [.sl 1 [],.sl 1 [],dI 0,.sl 3 []]),(7,.d aI),(8,.bx [.v Vr,.v Vc,dI s.sg,ah s.det]),(11,.d (dI c)),(12,.d (dI s.cols.length)),(36,.d (dI most)),(37,.d (dI c))] rfl ?_;refine AZ.seq ?_;refine AZ.dm (fun B1 F1 w1=>?_);refine qU 2 rfl ?_;refine ab.nil ⟨rfl,?_⟩;refine AZ.cut [3,6,7,8,11,12,13,36,37] (fun _:Unit=>(((Vr,OA Vs)::(Vc,CA s.cols)::bY Vs s.rows),[(3,.bx [.sl 1 (v.map ah)]),(6,.bx [.sl 1 [],.sl 1 [],dI 0,.sl 3 []]),(7,.d aI),(8,.bx [.v Vr,.v Vc,dI s.sg,ah s.det]),(11,.d (dI c)),(12,.d (dI s.cols.length)),(13,.d (dI (atR v s c))),(36,.d (dI most)),(37,.d (dI c))])) (fun _=>True) ?_ (fun _ _=>?_)
 · refine AZ.block ?_;refine AZ.aD [3,6,7,8,11,12,13,36,37] (fun j:Nat=>(((Vr,OA Vs)::(Vc,CA s.cols)::bY Vs s.rows),[(3,.bx [.sl 1 (v.map ah)]),(6,.bx [.sl 1 [],.sl 1 [],dI 0,.sl 3 []]),(7,.d aI),(8,.bx [.v Vr,.v Vc,dI s.sg,ah s.det]),(11,.d (dI c)),(12,.d (dI s.cols.length)),(13,.d (dI j)),(36,.d (dI most)),(37,.d (dI c))])) (fun j=>s.cols.length≤j∧j≤s.rows.length∧iG (Hk v s.rows c) (s.rows.length-j) j=atR v s c) (fun j=>s.rows.length-j) s.cols.length rfl ⟨Nat.le_refl _,hrm,rfl⟩ (fun j hj=>?_);show AZ _ _ _ _ _ _ _ ((Vr,OA Vs)::(Vc,CA s.cols)::bY Vs s.rows) [(3,.bx [.sl 1 (v.map ah)]),(6,.bx [.sl 1 [],.sl 1 [],dI 0,.sl 3 []]),(7,.d aI),(8,.bx [.v Vr,.v Vc,dI s.sg,ah s.det]),(11,.d (dI c)),(12,.d (dI s.cols.length)),(13,.d (dI j)),(36,.d (dI most)),(37,.d (dI c))];obtain ⟨j1,j2,j3⟩:=hj;refine AZ.seq ?_;refine AZ.seq ?_;refine AZ.any aL (gL.nE 18 (by kernel_rfl) (fun B1 F1 w1 hS=>?_));have hS0:=hS.at (i:=0) rfl (by rw[List.length_map];omega);refine qP 3 rfl ?_;refine ae.lens tok hS0 rfl rfl rfl rfl rfl ?_;rw[List.length_map];refine qP 1 rfl ?_;by_cases hjm:j<s.rows.length;rotate_left
   · rw[uk hjm] at j3;rw[decide_eq_false (show ¬(j:Int)<(Vs.length:Int) by omega)];refine qP 13 rfl ?_;refine ae.nil ⟨rfl,?_⟩;refine af.nil ?_;refine AZ.ar rfl ?_;exact AZ.exit ⟨(),by rw[← j3];rfl,trivial⟩
   rw[decide_eq_true (show (j:Int)<(Vs.length:Int) by omega)];have hj6:(s.rows.getD j []).length=N:=hR.rect j hjm;have hS1:=hS.at (i:=j+2) (b5 (Vs:=Vs) (by omega) hjm) (by rw[List.length_map];omega);have cs:=l8 V (hR.lt j c) (hok.sg j j1 hjm);have hnz:Hk v s.rows c j=decide (lD v (br s.rows j c)≠0):=rfl;generalize lD v (br s.rows j c)=g at cs hnz;refine qP 5 rfl ?_;refine ae.idxs tok hS0 rfl rfl rfl rfl rfl (Int.natCast_nonneg j) (by rw[List.length_map];omega) ?_;refine ae.bd tok (.v (Vs.getD j undef)) hS0 rfl rfl rfl rfl rfl rfl rfl (b8 (by omega)) rfl ?_;refine qP 1 rfl ?_;refine ae.idxs tok hS1 rfl rfl rfl rfl rfl (Int.natCast_nonneg c) (by rw[List.length_map];omega) ?_;refine ae.bd tok (ah (br s.rows j c)) hS1 rfl rfl rfl rfl rfl rfl rfl (hel hR.rect hjm c hcN) rfl ?_;refine ae.call tok rfl rfl rfl rfl rfl cs ?_;refine qP 2 rfl ?_;refine ae.nil ⟨rfl,?_⟩;refine af.nil ?_;refine AZ.cond rfl (fun h=>?_) (fun h=>?_)
   · have hg:g=0:=beq_iff_eq.1 h;refine AZ.skip ?_;refine AZ.block ?_;refine AZ.dm (fun B1 F1 w1=>?_);refine qU 2 rfl ?_;rw[aA (x:=(j:Int)+1) (by omega) (by omega)];refine qU 1 rfl ?_;refine ab.nil ⟨rfl,?_⟩;exact⟨j+1,rfl,⟨by omega,hjm,by rw[← qM hjm (by rw[hnz,hg];rfl)];exact j3⟩,by omega⟩
   · have hg:g≠0:=beq_eq_false_iff_ne.1 h;rw[uj hjm (by rw[hnz,decide_eq_true hg])] at j3;exact AZ.exit ⟨(),by rw[← j3];rfl,trivial⟩
 show AZ _ _ _ _ _ _ _ ((Vr,OA Vs)::(Vc,CA s.cols)::bY Vs s.rows) [(3,.bx [.sl 1 (v.map ah)]),(6,.bx [.sl 1 [],.sl 1 [],dI 0,.sl 3 []]),(7,.d aI),(8,.bx [.v Vr,.v Vc,dI s.sg,ah s.det]),(11,.d (dI c)),(12,.d (dI s.cols.length)),(13,.d (dI (atR v s c))),(36,.d (dI most)),(37,.d (dI c))];refine AZ.seq ?_;refine AZ.seq ?_;refine AZ.uX (fun B1 F1 w1 hS=>?_);refine qU 3 rfl ?_;refine ab.lens tok (hS.at (i:=0) rfl (by rw[List.length_map];omega)) rfl rfl rfl rfl ?_;rw[List.length_map];refine qU 1 rfl ?_;refine ab.nil ⟨rfl,?_⟩;refine AZ.cond rfl (fun h=>?_) (fun h=>?_)
 · have hat: ¬atR v s c<s.rows.length:=by have:=of_decide_eq_true h;omega
   have hst:aH v a (c+1)=s:=by rw[hnext];unfold dZ;rw[if_neg hat]
   refine AZ.exit ?_;refine AZ.dm (fun B1 F1 w1=>?_);refine qU 1 rfl ?_;rw[aA (x:=(c:Int)+1) (by omega) (by omega)];refine qU 1 rfl ?_;refine ab.nil ⟨rfl,?_⟩;exact⟨(c+1,Vr,Vc,Vs),by rw[hst];rfl,⟨hcm,hVs⟩,by show most-(c+1)<most-c;omega⟩
 have hat:atR v s c<s.rows.length:=by have:=of_decide_eq_false h;omega
 have hst:aH v a (c+1)=⟨bH v (eR v s c) s.cols.length c (eR v s c).length,s.cols++[c],if atR v s c=s.cols.length then s.sg else -s.sg,iD v s.det (pR v s c)⟩:=by rw[hnext];unfold dZ;rw[if_pos hat]
 obtain ⟨hb1,hb2,hb3⟩:=wg (c:=c) hR hat;obtain ⟨he1,he2,he3⟩:=zd V (c:=c) hR hat;have hbr:bR v s c=if atR v s c=s.cols.length then s.rows else A9 s.rows s.cols.length (atR v s c):=rfl
 have hpr:pR v s c=br (bR v s c) s.cols.length c:=rfl;have hE:eR v s c=(bR v s c).set s.cols.length (w8 v ((bR v s c).getD s.cols.length []) (pR v s c)):=rfl;have okd:=hok.det hat;have okv:=hok.div hat;have oks:=hok.sg2 hat;have okt:=hok.take hat;generalize bR v s c=b at *;generalize pR v s c=p at *;generalize eR v s c=e at *;generalize atR v s c=t at *;refine AZ.skip ?_;refine AZ.cut [3,6,7,8,11,12,36,37] (fun Ws:List Value=>(((Vr,OA Ws)::(Vc,CA s.cols)::bY Ws b),[(3,.bx [.sl 1 (v.map ah)]),(6,.bx [.sl 1 [],.sl 1 [],dI 0,.sl 3 []]),(7,.d aI),(8,.bx [.v Vr,.v Vc,dI (if t=s.cols.length then s.sg else -s.sg),ah s.det]),(11,.d (dI c)),(12,.d (dI s.cols.length)),(36,.d (dI most)),(37,.d (dI c))])) (fun Ws=>Ws.length=b.length) ?_ (fun Ws hWs=>?_)
 · refine AZ.seq ?_;refine AZ.dm (fun B1 F1 w1=>?_);refine qU 3 rfl ?_;refine ab.nil ⟨rfl,?_⟩;by_cases htr:t=s.cols.length
   · rw[if_pos htr] at hbr;rw[bne_eq_false_iff_eq.2 (show (t:Int)=(s.cols.length:Int) by omega)];refine AZ.ar rfl ?_;refine AZ.skip ?_;exact⟨Vs,by rw[if_pos htr,hbr];rfl,by omega⟩
   rw[if_neg htr] at hbr;rw[bne_iff_ne.2 (show (t:Int)≠(s.cols.length:Int) by omega)];refine AZ.aF rfl ?_;refine AZ.seq ?_;refine AZ.any aL (ZH.any (β:=[(8,[.v Vr,.v Vc,dI s.sg,ah s.det])]) ?_);refine ZH.mv 2 rfl rfl (by kernel_rfl) (by kernel_rfl) (by kernel_rfl) rfl (fun _ _ _ h=>h) (fun _=>rfl) ⟨rfl,trivial⟩ (fun B1 F1 w1=>?_);refine qU 1 rfl ?_;refine ab.nil ⟨rfl,?_⟩;refine ZH.mv 5 rfl rfl (by kernel_rfl) (by kernel_rfl) (by kernel_rfl) rfl (fun _ _ _ h=>h) (fun _=>rfl) ⟨rfl,trivial⟩ (fun B1 F1 w1=>?_);refine qU 1 rfl ?_;refine ab.nil ⟨rfl,?_⟩;refine ZH.mv 8 rfl rfl (by kernel_rfl) (by kernel_rfl) (by kernel_rfl) rfl (fun _ _ _ h=>h) (fun _=>rfl) ⟨rfl,trivial⟩ (fun B1 F1 w1=>?_);refine qU 1 rfl ?_;refine ab.nil ⟨rfl,?_⟩;refine ZH.mv 13 rfl rfl (by kernel_rfl) (by kernel_rfl) (by kernel_rfl) rfl (fun _ _ _ h=>h) (fun _=>rfl) ⟨rfl,trivial⟩ (fun B1 F1 w1=>?_);refine qU 1 rfl ?_;refine ab.nil ⟨rfl,?_⟩;refine ZH.fd tok 0 rfl rfl (by kernel_rfl) (by kernel_rfl) (by kernel_rfl) rfl (fun _ _ _ h=>h) (fun _=>rfl) ⟨rfl,trivial⟩ (fun B1 F1 w1=>?_);refine qU 1 rfl ?_;refine ab.nil ⟨rfl,?_⟩;refine ZH.fd tok 3 rfl rfl (by kernel_rfl) (by kernel_rfl) (by kernel_rfl) rfl (fun _ _ _ h=>h) (fun _=>rfl) ⟨rfl,trivial⟩ (fun B1 F1 w1=>?_);refine qU 1 rfl ?_;refine ab.nil ⟨rfl,?_⟩;refine ZH.fd tok 6 rfl rfl (by kernel_rfl) (by kernel_rfl) (by kernel_rfl) rfl (fun _ _ _ h=>h) (fun _=>rfl) ⟨rfl,trivial⟩ (fun B1 F1 w1=>?_);refine qU 1 rfl ?_;refine ab.nil ⟨rfl,?_⟩;refine ZH.fd tok 11 rfl rfl (by kernel_rfl) (by kernel_rfl) (by kernel_rfl) rfl (fun _ _ _ h=>h) (fun _=>rfl) ⟨rfl,trivial⟩ (fun B1 F1 w1=>?_);refine qU 1 rfl ?_;refine ab.nil ⟨rfl,?_⟩;refine ZH.ld tok 1 rfl rfl (by kernel_rfl) (by kernel_rfl) (by kernel_rfl) rfl rfl (fun _ _ _ h=>h) (fun _=>rfl) ⟨rfl,trivial⟩ (fun B1 F1 w1=>?_);refine qU 1 rfl ?_;refine ab.nil ⟨rfl,?_⟩;refine ZH.ld tok 4 rfl rfl (by kernel_rfl) (by kernel_rfl) (by kernel_rfl) rfl rfl (fun _ _ _ h=>h) (fun _=>rfl) ⟨rfl,trivial⟩ (fun B1 F1 w1=>?_);refine qU 1 rfl ?_;refine ab.nil ⟨rfl,?_⟩;refine ZH.ld tok 7 rfl rfl (by kernel_rfl) (by kernel_rfl) (by kernel_rfl) rfl rfl (fun _ _ _ h=>h) (fun _=>rfl) ⟨rfl,trivial⟩ (fun B1 F1 w1=>?_);refine qU 1 rfl ?_;refine ab.nil ⟨rfl,?_⟩;refine ZH.ld tok 12 rfl rfl (by kernel_rfl) (by kernel_rfl) (by kernel_rfl) rfl rfl (fun _ _ _ h=>h) (fun _=>rfl) ⟨rfl,trivial⟩ (fun B1 F1 w1=>?_);refine qU 1 rfl ?_;refine ab.nil ⟨rfl,?_⟩;refine ZH.meet 4 (qB 20 65535) (fun V=>((Vr,OA Vs)::(Vc,CA s.cols)::bY Vs s.rows)) (fun V=>[(3,.bx [.sl 1 (v.map ah)]),(6,.bx [.sl 1 [],.sl 1 [],dI 0,.sl 3 []]),(7,.d aI),(8,.bx [.v Vr,.v Vc,dI s.sg,ah s.det]),(11,.d (dI c)),(12,.d (dI s.cols.length)),(13,.d (dI t)),(36,.d (dI most)),(37,.d (dI c)),(73,.d (.v Vr)),(74,.d (dI t)),(76,.d (.v Vr)),(77,.d (dI s.cols.length)),(79,.d (.v Vr)),(80,.d (dI s.cols.length)),(84,.d (.v Vr)),(85,.d (dI t)),(82,.d (.v (Vs.getD s.cols.length undef))),(87,.d (.v (Vs.getD t undef)))]) (fun V=>?_) (fun N2_2=>?_)
   · refine ZH.all 16 (by kernel_rfl) rfl rfl (fun _=>rfl) ⟨rfl,trivial⟩ ?_;refine bb (fun B1 F1 w1 hS=>?_);refine ab.idxs tok (hS.at (i:=0) rfl (by rw[List.length_map];omega)) rfl rfl rfl rfl (Int.natCast_nonneg _) (by show t<_;rw[List.length_map];omega) ?_;refine ab.nil ⟨rfl,?_⟩;refine ZH.to [3,6,7,8,11,12,13,36,37,73,74,76,77,79,80,84,85,82,87,88] [(3,.bx [.sl 1 (v.map ah)]),(6,.bx [.sl 1 [],.sl 1 [],dI 0,.sl 3 []]),(7,.d aI),(8,.bx [.v Vr,.v Vc,dI s.sg,ah s.det]),(11,.d (dI c)),(12,.d (dI s.cols.length)),(13,.d (dI t)),(36,.d (dI most)),(37,.d (dI c)),(73,.d (.v Vr)),(74,.d (dI t)),(76,.d (.v Vr)),(77,.d (dI s.cols.length)),(79,.d (.v Vr)),(80,.d (dI s.cols.length)),(84,.d (.v Vr)),(85,.d (dI t)),(82,.d (.v (Vs.getD s.cols.length undef))),(87,.d (.v (Vs.getD t undef))),(88,.d (.v (ec Vr (t*1))))] rfl ⟨rfl,trivial⟩ ?_;refine ZH.all 17 (by kernel_rfl) rfl rfl (fun _=>rfl) ⟨rfl,trivial⟩ ?_;refine af.df 73 0 rfl rfl rfl ?_;refine af.el tok 73 88 rfl (List.Mem.head _) rfl rfl rfl (by rw[List.length_map];omega) rfl ?_;refine af.cut 1 rfl (fun B1 F1 w1=>?_);refine ab.oH tok (Vs.getD s.cols.length undef) rfl rfl rfl (by omega) ?_;refine ab.nil ⟨rfl,?_⟩;refine af.back 73 0 rfl rfl rfl (List.Mem.head _) rfl ?_;refine af.nil ?_;refine ZH.to [3,6,7,8,11,12,13,36,37,73,74,76,77,79,80,84,85,82,87] [(3,.bx [.sl 1 (v.map ah)]),(6,.bx [.sl 1 [],.sl 1 [],dI 0,.sl 3 []]),(7,.d aI),(8,.bx [.v Vr,.v Vc,dI s.sg,ah s.det]),(11,.d (dI c)),(12,.d (dI s.cols.length)),(13,.d (dI t)),(36,.d (dI most)),(37,.d (dI c)),(73,.d (.v Vr)),(74,.d (dI t)),(76,.d (.v Vr)),(77,.d (dI s.cols.length)),(79,.d (.v Vr)),(80,.d (dI s.cols.length)),(84,.d (.v Vr)),(85,.d (dI t)),(82,.d (.v (Vs.getD s.cols.length undef))),(87,.d (.v (Vs.getD t undef)))] rfl ⟨rfl,trivial⟩ ?_;refine ZH.all 18 (by kernel_rfl) rfl rfl (fun _=>rfl) ⟨rfl,trivial⟩ ?_;refine bb (fun B1 F1 w1 hS=>?_);refine ab.idxs tok (hS.at (i:=0) rfl (by rw[List.length_map,List.length_set];omega)) rfl rfl rfl rfl (Int.natCast_nonneg _) (by show s.cols.length<_;rw[List.length_map,List.length_set];omega) ?_;refine ab.nil ⟨rfl,?_⟩;refine ZH.to [3,6,7,8,11,12,13,36,37,73,74,76,77,79,80,84,85,82,87,89] [(3,.bx [.sl 1 (v.map ah)]),(6,.bx [.sl 1 [],.sl 1 [],dI 0,.sl 3 []]),(7,.d aI),(8,.bx [.v Vr,.v Vc,dI s.sg,ah s.det]),(11,.d (dI c)),(12,.d (dI s.cols.length)),(13,.d (dI t)),(36,.d (dI most)),(37,.d (dI c)),(73,.d (.v Vr)),(74,.d (dI t)),(76,.d (.v Vr)),(77,.d (dI s.cols.length)),(79,.d (.v Vr)),(80,.d (dI s.cols.length)),(84,.d (.v Vr)),(85,.d (dI t)),(82,.d (.v (Vs.getD s.cols.length undef))),(87,.d (.v (Vs.getD t undef))),(89,.d (.v (ec Vr (s.cols.length*1))))] rfl ⟨rfl,trivial⟩ ?_;refine ZH.all 19 (by kernel_rfl) rfl rfl (fun _=>rfl) ⟨rfl,trivial⟩ ?_;refine af.df 76 0 rfl rfl rfl ?_;refine af.el tok 76 89 rfl (List.Mem.head _) rfl rfl rfl (by rw[List.length_map,List.length_set];omega) rfl ?_;refine af.cut 1 rfl (fun B1 F1 w1=>?_);refine ab.oH tok (Vs.getD t undef) rfl rfl rfl (by rw[List.length_set];omega) ?_;refine ab.nil ⟨rfl,?_⟩;refine af.back 76 0 rfl rfl rfl (List.Mem.head _) rfl ?_;refine af.nil ?_;refine ZH.done (by kernel_rfl) ⟨rfl,trivial⟩ ?_;refine AZ.to [3,6,7,8,11,12,13,36,37] [(3,.bx [.sl 1 (v.map ah)]),(6,.bx [.sl 1 [],.sl 1 [],dI 0,.sl 3 []]),(7,.d aI),(8,.bx [.v Vr,.v Vc,dI s.sg,ah s.det]),(11,.d (dI c)),(12,.d (dI s.cols.length)),(13,.d (dI t)),(36,.d (dI most)),(37,.d (dI c))] rfl ?_;refine AZ.xW (t+2) (s.cols.length+2) (b5 (Vs:=Vs) (by omega) hat) (b5 (Vs:=Vs) (by omega) (by omega)) ?_;show AZ _ _ _ _ _ _ _ ((Vr,OA (Bb Vs s.cols.length t))::(Vc,CA s.cols)::((bY Vs s.rows).set t (Vs.getD s.cols.length undef,eH (s.rows.getD s.cols.length []))).set s.cols.length (Vs.getD t undef,eH (s.rows.getD t []))) _;rw[zu (by omega) (by omega) hat,← hbr];refine AZ.dm (fun B1 F1 w1=>?_);refine qU 3 rfl ?_;rw[aA (x:=0-s.sg) (by have:=hR.sg;omega) (by have:=hR.sg;omega),Int.zero_sub];refine qU 2 rfl ?_;refine ab.nil ⟨rfl,?_⟩;exact⟨Bb Vs s.cols.length t,by rw[if_neg htr];rfl,by show (Bb Vs s.cols.length t).length=_;rw[Ba,hb1];omega⟩
   refine ZH.meet 5 (qB 20 64511) (fun V=>((Vr,OA Vs)::(Vc,CA s.cols)::bY Vs s.rows)) (fun V=>[(3,.bx [.sl 1 (v.map ah)]),(6,.bx [.sl 1 [],.sl 1 [],dI 0,.sl 3 []]),(7,.d aI),(8,.bx [.v Vr,.v Vc,dI s.sg,ah s.det]),(11,.d (dI c)),(12,.d (dI s.cols.length)),(13,.d (dI t)),(36,.d (dI most)),(37,.d (dI c)),(73,.d (.v Vr)),(74,.d (dI t)),(76,.d (.v Vr)),(77,.d (dI s.cols.length)),(79,.d (.v Vr)),(80,.d (dI s.cols.length)),(84,.d (.v Vr)),(85,.d (dI t)),(81,.d (.v (ec Vr (s.cols.length*1)))),(87,.d (.v (Vs.getD t undef)))]) (fun V=>?_) (fun N1_2=>?_)
   · refine ZH.all 10 (by kernel_rfl) rfl rfl (fun _=>rfl) ⟨rfl,trivial⟩ ?_;refine bb (fun B1 F1 w1 hS=>?_);refine ab.bd tok (.v (Vs.getD s.cols.length undef)) (hS.at (i:=0) rfl (by rw[List.length_map];omega)) rfl rfl rfl rfl rfl rfl (b8 (by omega)) rfl ?_;refine ab.nil ⟨rfl,?_⟩;exact qL (N2_2 V) (by kernel_rfl) rfl ⟨rfl,trivial⟩
   refine ZH.meet 5 (qB 20 32767) (fun V=>((Vr,OA Vs)::(Vc,CA s.cols)::bY Vs s.rows)) (fun V=>[(3,.bx [.sl 1 (v.map ah)]),(6,.bx [.sl 1 [],.sl 1 [],dI 0,.sl 3 []]),(7,.d aI),(8,.bx [.v Vr,.v Vc,dI s.sg,ah s.det]),(11,.d (dI c)),(12,.d (dI s.cols.length)),(13,.d (dI t)),(36,.d (dI most)),(37,.d (dI c)),(73,.d (.v Vr)),(74,.d (dI t)),(76,.d (.v Vr)),(77,.d (dI s.cols.length)),(79,.d (.v Vr)),(80,.d (dI s.cols.length)),(84,.d (.v Vr)),(85,.d (dI t)),(82,.d (.v (Vs.getD s.cols.length undef))),(86,.d (.v (ec Vr (t*1))))]) (fun V=>?_) (fun N2_1=>?_)
   · refine ZH.all 15 (by kernel_rfl) rfl rfl (fun _=>rfl) ⟨rfl,trivial⟩ ?_;refine bb (fun B1 F1 w1 hS=>?_);refine ab.bd tok (.v (Vs.getD t undef)) (hS.at (i:=0) rfl (by rw[List.length_map];omega)) rfl rfl rfl rfl rfl rfl (b8 (by omega)) rfl ?_;refine ab.nil ⟨rfl,?_⟩;exact qL (N2_2 V) (by kernel_rfl) rfl ⟨rfl,trivial⟩
   refine ZH.meet 6 (qB 20 63999) (fun V=>((Vr,OA Vs)::(Vc,CA s.cols)::bY Vs s.rows)) (fun V=>[(3,.bx [.sl 1 (v.map ah)]),(6,.bx [.sl 1 [],.sl 1 [],dI 0,.sl 3 []]),(7,.d aI),(8,.bx [.v Vr,.v Vc,dI s.sg,ah s.det]),(11,.d (dI c)),(12,.d (dI s.cols.length)),(13,.d (dI t)),(36,.d (dI most)),(37,.d (dI c)),(73,.d (.v Vr)),(74,.d (dI t)),(76,.d (.v Vr)),(77,.d (dI s.cols.length)),(79,.d (.v Vr)),(80,.d (dI s.cols.length)),(84,.d (.v Vr)),(85,.d (dI t)),(87,.d (.v (Vs.getD t undef)))]) (fun V=>?_) (fun N0_2=>?_)
   · refine ZH.all 9 (by kernel_rfl) rfl rfl (fun _=>rfl) ⟨rfl,trivial⟩ ?_;refine bb (fun B1 F1 w1 hS=>?_);refine ab.idxs tok (hS.at (i:=0) rfl (by rw[List.length_map];omega)) rfl rfl rfl rfl (Int.natCast_nonneg _) (by show s.cols.length<_;rw[List.length_map];omega) ?_;refine ab.nil ⟨rfl,?_⟩;exact qL (N1_2 V) (by kernel_rfl) rfl ⟨rfl,trivial⟩
   refine ZH.meet 6 (qB 20 31743) (fun V=>((Vr,OA Vs)::(Vc,CA s.cols)::bY Vs s.rows)) (fun V=>[(3,.bx [.sl 1 (v.map ah)]),(6,.bx [.sl 1 [],.sl 1 [],dI 0,.sl 3 []]),(7,.d aI),(8,.bx [.v Vr,.v Vc,dI s.sg,ah s.det]),(11,.d (dI c)),(12,.d (dI s.cols.length)),(13,.d (dI t)),(36,.d (dI most)),(37,.d (dI c)),(73,.d (.v Vr)),(74,.d (dI t)),(76,.d (.v Vr)),(77,.d (dI s.cols.length)),(79,.d (.v Vr)),(80,.d (dI s.cols.length)),(84,.d (.v Vr)),(85,.d (dI t)),(81,.d (.v (ec Vr (s.cols.length*1)))),(86,.d (.v (ec Vr (t*1))))]) (fun V=>?_) (fun N1_1=>?_)
   · refine ZH.two 10 15 (by kernel_rfl) rfl rfl rfl rfl (fun _=>rfl) (fun _=>rfl) ⟨rfl,trivial⟩ ?_ ?_
     · refine bb (fun B1 F1 w1 hS=>?_);refine ab.bd tok (.v (Vs.getD s.cols.length undef)) (hS.at (i:=0) rfl (by rw[List.length_map];omega)) rfl rfl rfl rfl rfl rfl (b8 (by omega)) rfl ?_;refine ab.nil ⟨rfl,?_⟩;exact qL (N2_1 V) (by kernel_rfl) rfl ⟨rfl,trivial⟩
     · refine bb (fun B1 F1 w1 hS=>?_);refine ab.bd tok (.v (Vs.getD t undef)) (hS.at (i:=0) rfl (by rw[List.length_map];omega)) rfl rfl rfl rfl rfl rfl (b8 (by omega)) rfl ?_;refine ab.nil ⟨rfl,?_⟩;exact qL (N1_2 V) (by kernel_rfl) rfl ⟨rfl,trivial⟩
   refine ZH.meet 6 (qB 20 16383) (fun V=>((Vr,OA Vs)::(Vc,CA s.cols)::bY Vs s.rows)) (fun V=>[(3,.bx [.sl 1 (v.map ah)]),(6,.bx [.sl 1 [],.sl 1 [],dI 0,.sl 3 []]),(7,.d aI),(8,.bx [.v Vr,.v Vc,dI s.sg,ah s.det]),(11,.d (dI c)),(12,.d (dI s.cols.length)),(13,.d (dI t)),(36,.d (dI most)),(37,.d (dI c)),(73,.d (.v Vr)),(74,.d (dI t)),(76,.d (.v Vr)),(77,.d (dI s.cols.length)),(79,.d (.v Vr)),(80,.d (dI s.cols.length)),(84,.d (.v Vr)),(85,.d (dI t)),(82,.d (.v (Vs.getD s.cols.length undef)))]) (fun V=>?_) (fun N2_0=>?_)
   · refine ZH.all 14 (by kernel_rfl) rfl rfl (fun _=>rfl) ⟨rfl,trivial⟩ ?_;refine bb (fun B1 F1 w1 hS=>?_);refine ab.idxs tok (hS.at (i:=0) rfl (by rw[List.length_map];omega)) rfl rfl rfl rfl (Int.natCast_nonneg _) (by show t<_;rw[List.length_map];omega) ?_;refine ab.nil ⟨rfl,?_⟩;exact qL (N2_1 V) (by kernel_rfl) rfl ⟨rfl,trivial⟩
   refine ZH.meet 7 (qB 20 31231) (fun V=>((Vr,OA Vs)::(Vc,CA s.cols)::bY Vs s.rows)) (fun V=>[(3,.bx [.sl 1 (v.map ah)]),(6,.bx [.sl 1 [],.sl 1 [],dI 0,.sl 3 []]),(7,.d aI),(8,.bx [.v Vr,.v Vc,dI s.sg,ah s.det]),(11,.d (dI c)),(12,.d (dI s.cols.length)),(13,.d (dI t)),(36,.d (dI most)),(37,.d (dI c)),(73,.d (.v Vr)),(74,.d (dI t)),(76,.d (.v Vr)),(77,.d (dI s.cols.length)),(79,.d (.v Vr)),(80,.d (dI s.cols.length)),(84,.d (.v Vr)),(85,.d (dI t)),(86,.d (.v (ec Vr (t*1))))]) (fun V=>?_) (fun N0_1=>?_)
   · refine ZH.two 9 15 (by kernel_rfl) rfl rfl rfl rfl (fun _=>rfl) (fun _=>rfl) ⟨rfl,trivial⟩ ?_ ?_
     · refine bb (fun B1 F1 w1 hS=>?_);refine ab.idxs tok (hS.at (i:=0) rfl (by rw[List.length_map];omega)) rfl rfl rfl rfl (Int.natCast_nonneg _) (by show s.cols.length<_;rw[List.length_map];omega) ?_;refine ab.nil ⟨rfl,?_⟩;exact qL (N1_1 V) (by kernel_rfl) rfl ⟨rfl,trivial⟩
     · refine bb (fun B1 F1 w1 hS=>?_);refine ab.bd tok (.v (Vs.getD t undef)) (hS.at (i:=0) rfl (by rw[List.length_map];omega)) rfl rfl rfl rfl rfl rfl (b8 (by omega)) rfl ?_;refine ab.nil ⟨rfl,?_⟩;exact qL (N0_2 V) (by kernel_rfl) rfl ⟨rfl,trivial⟩
   refine ZH.meet 7 (qB 20 15359) (fun V=>((Vr,OA Vs)::(Vc,CA s.cols)::bY Vs s.rows)) (fun V=>[(3,.bx [.sl 1 (v.map ah)]),(6,.bx [.sl 1 [],.sl 1 [],dI 0,.sl 3 []]),(7,.d aI),(8,.bx [.v Vr,.v Vc,dI s.sg,ah s.det]),(11,.d (dI c)),(12,.d (dI s.cols.length)),(13,.d (dI t)),(36,.d (dI most)),(37,.d (dI c)),(73,.d (.v Vr)),(74,.d (dI t)),(76,.d (.v Vr)),(77,.d (dI s.cols.length)),(79,.d (.v Vr)),(80,.d (dI s.cols.length)),(84,.d (.v Vr)),(85,.d (dI t)),(81,.d (.v (ec Vr (s.cols.length*1))))]) (fun V=>?_) (fun N1_0=>?_)
   · refine ZH.two 10 14 (by kernel_rfl) rfl rfl rfl rfl (fun _=>rfl) (fun _=>rfl) ⟨rfl,trivial⟩ ?_ ?_
     · refine bb (fun B1 F1 w1 hS=>?_);refine ab.bd tok (.v (Vs.getD s.cols.length undef)) (hS.at (i:=0) rfl (by rw[List.length_map];omega)) rfl rfl rfl rfl rfl rfl (b8 (by omega)) rfl ?_;refine ab.nil ⟨rfl,?_⟩;exact qL (N2_0 V) (by kernel_rfl) rfl ⟨rfl,trivial⟩
     · refine bb (fun B1 F1 w1 hS=>?_);refine ab.idxs tok (hS.at (i:=0) rfl (by rw[List.length_map];omega)) rfl rfl rfl rfl (Int.natCast_nonneg _) (by show t<_;rw[List.length_map];omega) ?_;refine ab.nil ⟨rfl,?_⟩;exact qL (N1_1 V) (by kernel_rfl) rfl ⟨rfl,trivial⟩
   refine ZH.meet 8 (qB 20 14847) (fun V=>((Vr,OA Vs)::(Vc,CA s.cols)::bY Vs s.rows)) (fun V=>[(3,.bx [.sl 1 (v.map ah)]),(6,.bx [.sl 1 [],.sl 1 [],dI 0,.sl 3 []]),(7,.d aI),(8,.bx [.v Vr,.v Vc,dI s.sg,ah s.det]),(11,.d (dI c)),(12,.d (dI s.cols.length)),(13,.d (dI t)),(36,.d (dI most)),(37,.d (dI c)),(73,.d (.v Vr)),(74,.d (dI t)),(76,.d (.v Vr)),(77,.d (dI s.cols.length)),(79,.d (.v Vr)),(80,.d (dI s.cols.length)),(84,.d (.v Vr)),(85,.d (dI t))]) (fun V=>?_) (fun N0_0=>?_)
   · refine ZH.two 9 14 (by kernel_rfl) rfl rfl rfl rfl (fun _=>rfl) (fun _=>rfl) ⟨rfl,trivial⟩ ?_ ?_
     · refine bb (fun B1 F1 w1 hS=>?_);refine ab.idxs tok (hS.at (i:=0) rfl (by rw[List.length_map];omega)) rfl rfl rfl rfl (Int.natCast_nonneg _) (by show s.cols.length<_;rw[List.length_map];omega) ?_;refine ab.nil ⟨rfl,?_⟩;exact qL (N1_0 V) (by kernel_rfl) rfl ⟨rfl,trivial⟩
     · refine bb (fun B1 F1 w1 hS=>?_);refine ab.idxs tok (hS.at (i:=0) rfl (by rw[List.length_map];omega)) rfl rfl rfl rfl (Int.natCast_nonneg _) (by show t<_;rw[List.length_map];omega) ?_;refine ab.nil ⟨rfl,?_⟩;exact qL (N0_1 V) (by kernel_rfl) rfl ⟨rfl,trivial⟩
   exact qL (N0_0 fZ) (by kernel_rfl) rfl ⟨rfl,trivial⟩
 obtain ⟨sg,hsg⟩: ∃sg,(if t=s.cols.length then s.sg else -s.sg)=sg:=⟨_,rfl⟩;obtain ⟨r,hrr⟩: ∃r,s.cols.length=r:=⟨_,rfl⟩;have hrb:r<b.length:=by omega
 have hrN:(b.getD r []).length=N:=hb2 r hrb;have okc:=sZ V hR.det (by rw[hpr];exact hb3 _ _) okd;rw[hsg] at hst;rw[hrr] at hst hpr hE okv oks okt;show AZ _ _ _ _ _ _ _ ((Vr,OA Ws)::(Vc,CA s.cols)::bY Ws b) [(3,.bx [.sl 1 (v.map ah)]),(6,.bx [.sl 1 [],.sl 1 [],dI 0,.sl 3 []]),(7,.d aI),(8,.bx [.v Vr,.v Vc,dI (if t=s.cols.length then s.sg else -s.sg),ah s.det]),(11,.d (dI c)),(12,.d (dI s.cols.length)),(36,.d (dI most)),(37,.d (dI c))];rw[hsg,hrr];refine AZ.seq ?_;refine AZ.uX (fun B1 F1 w1 hS=>?_);refine qU 3 rfl ?_;refine ab.idxs tok (hS.at (i:=0) rfl (by rw[List.length_map];omega)) rfl rfl rfl rfl (Int.natCast_nonneg _) (by show r<_;rw[List.length_map];omega) ?_;refine ab.bd tok (.v (Ws.getD r undef)) (hS.at (i:=0) rfl (by rw[List.length_map];omega)) rfl rfl rfl rfl rfl rfl (b8 (by omega)) rfl ?_;refine qU 1 rfl ?_;refine ab.idxs tok (hS.at (i:=r+2) (b5 (Vs:=Ws) (by omega) hrb) (by rw[List.length_map];omega)) rfl rfl rfl rfl (Int.natCast_nonneg c) (by rw[List.length_map];omega) ?_;refine ab.bd tok (ah (br b r c)) (hS.at (i:=r+2) (b5 (Vs:=Ws) (by omega) hrb) (by rw[List.length_map];omega)) rfl rfl rfl rfl rfl rfl (hel hb2 hrb c hcN) rfl ?_;rw[← hpr];refine qU 1 rfl ?_;refine ab.nil ⟨rfl,?_⟩;refine AZ.seq ?_;refine AZ.dm (fun B1 F1 w1=>?_);refine qU 1 rfl ?_;refine ab.nil ⟨rfl,?_⟩;refine AZ.seq ?_;refine AZ.seq ?_;refine AZ.dm (fun B1 F1 w1=>?_);refine qU 4 rfl ?_;refine ab.call tok rfl rfl rfl rfl okc ?_;refine qU 6 rfl ?_;refine ab.nil ⟨rfl,?_⟩;refine AZ.seq ?_;refine AZ.dm (fun B1 F1 w1=>?_);refine qU 1 rfl ?_;refine ab.err tok rfl rfl rfl rfl rfl ?_;refine ab.nil ⟨rfl,?_⟩;refine AZ.ar rfl ?_;refine AZ.skip ?_;generalize iD v s.det p=det at *;obtain ⟨row,hrow⟩: ∃row,b.getD r []=row:=⟨_,rfl⟩;have hz:=o9 v row p;have hsr: ∀k,br b r k=row.getD k []:=fun k=>by unfold br;rw[hrow]
 have hb0:bY Ws b=bY Ws (b.set r row):=by rw[← hrow,lS hrb]
 have hgr: ∀q:List NQ,(bY Ws (b.set r q))[r]?=some (Ws.getD r undef,eH q):=fun q=>by
  rw[b5 (by omega) (by simpa using hrb),fk,if_pos ⟨rfl,hrb⟩]
 rw[hrow] at hE hrN okv;rw[hb0];refine AZ.seq ?_;refine AZ.seq ?_;refine AZ.uX (fun B1 F1 w1 hS=>?_);refine qU 3 rfl ?_;refine ab.idxs tok (hS.at (i:=0) rfl (by rw[List.length_map];omega)) rfl rfl rfl rfl (Int.natCast_nonneg _) (by show r<_;rw[List.length_map];omega) ?_;refine ab.bd tok (.v (Ws.getD r undef)) (hS.at (i:=0) rfl (by rw[List.length_map];omega)) rfl rfl rfl rfl rfl rfl (b8 (by omega)) rfl ?_;refine ab.lens tok (hS.at (i:=r+2) (hgr row) (by rw[List.length_map];omega)) rfl rfl rfl rfl ?_;rw[List.length_map,hrN];refine qU 1 rfl ?_;refine ab.nil ⟨rfl,?_⟩;refine AZ.block ?_;refine AZ.aD [3,6,7,8,11,12,14,36,37,120,121] (fun k:Nat=>(((Vr,OA Ws)::(Vc,CA s.cols)::bY Ws (b.set r (gm (w8 v row p) row k))),[(3,.bx [.sl 1 (v.map ah)]),(6,.bx [.sl 1 [],.sl 1 [],dI 0,.sl 3 []]),(7,.d aI),(8,.bx [.v Vr,.v Vc,dI sg,ah det]),(11,.d (dI c)),(12,.d (dI r)),(14,.d (ah p)),(36,.d (dI most)),(37,.d (dI c)),(120,.d (dI N)),(121,.d (dI k))])) (fun k=>k≤N) (fun k=>N-k) 0 (by rw[qo];rfl) (Nat.zero_le _) (fun k hk=>?_);show AZ _ _ _ _ _ _ _ ((Vr,OA Ws)::(Vc,CA s.cols)::bY Ws (b.set r (gm (w8 v row p) row k))) [(3,.bx [.sl 1 (v.map ah)]),(6,.bx [.sl 1 [],.sl 1 [],dI 0,.sl 3 []]),(7,.d aI),(8,.bx [.v Vr,.v Vc,dI sg,ah det]),(11,.d (dI c)),(12,.d (dI r)),(14,.d (ah p)),(36,.d (dI most)),(37,.d (dI c)),(120,.d (dI N)),(121,.d (dI k))];refine AZ.seq ?_;refine AZ.dm (fun B1 F1 w1=>?_);refine qU 1 rfl ?_;refine ab.nil ⟨rfl,?_⟩;refine AZ.seq ?_;refine AZ.cond rfl (fun h=>?_) (fun h=>?_)
 · have hkN:k<N:=by have:=of_decide_eq_true h;omega
   have hpl:=pe hz (i:=k) (by omega);have hpg:=tV hz (show k<row.length by omega) [];have hps:=tU hz (show k<row.length by omega) (d:=[]) (pa v row p (show k<row.length by omega));have cd:=zM V (a:=row.getD k []) (b:=p) (by rw[← hrow];exact hb3 r k) (by rw[hpr];exact hb3 _ _) (by have:=okv k (by omega);rw[hsr] at this;exact this);generalize gm (w8 v row p) row k=q at *;generalize row.getD k []=X at *;generalize r9 v X p=Y at *;refine AZ.skip ?_;refine AZ.seq ?_;refine AZ.block ?_;refine AZ.seq ?_;refine AZ.dm (fun B1 F1 w1=>?_);refine qU 2 rfl ?_;refine ab.nil ⟨rfl,?_⟩;refine AZ.seq ?_;refine AZ.any aL (gL.vZ [(19,20)] (by kernel_rfl) (fun _ _ _ h=>h) (fun _ _ h=>h) (gL.nE 20 (by kernel_rfl) (fun B1 F1 w1 hS=>?_)));have hS0:=hS.at (i:=0) rfl (by rw[List.length_map];omega);have hS1:=hS.at (i:=r+2) (hgr q) (by rw[List.length_map];omega);refine qP 3 rfl ?_;refine ae.idxs tok hS0 rfl rfl rfl rfl rfl (Int.natCast_nonneg r) (by rw[List.length_map];omega) ?_;refine ae.bd tok (.v (Ws.getD r undef)) hS0 rfl rfl rfl rfl rfl rfl rfl (b8 (by omega)) rfl ?_;refine qP 5 rfl ?_;refine ae.idxs tok hS0 rfl rfl rfl rfl rfl (Int.natCast_nonneg r) (by rw[List.length_map];omega) ?_;refine ae.bd tok (.v (Ws.getD r undef)) hS0 rfl rfl rfl rfl rfl rfl rfl (b8 (by omega)) rfl ?_;refine qP 1 rfl ?_;refine ae.idxs tok hS1 rfl rfl rfl rfl rfl (Int.natCast_nonneg k) (by rw[List.length_map];omega) ?_;refine ae.bd tok (ah (q.getD k [])) hS1 rfl rfl rfl rfl rfl rfl rfl (getM ah (by omega)) rfl ?_;rw[hpg];refine qP 1 rfl ?_;refine ae.call tok rfl rfl rfl rfl rfl cd ?_;refine qP 3 rfl ?_;refine ae.nil ⟨rfl,?_⟩;refine af.to [129,130,142,143,3,6,7,8,11,12,14,36,37,120,121] [(129,.d (.v (Ws.getD r undef))),(130,.d (dI k)),(142,.d (ah Y)),(143,.d aI),(3,.bx [.sl 1 (v.map ah)]),(6,.bx [.sl 1 [],.sl 1 [],dI 0,.sl 3 []]),(7,.d aI),(8,.bx [.v Vr,.v Vc,dI sg,ah det]),(11,.d (dI c)),(12,.d (dI r)),(14,.d (ah p)),(36,.d (dI most)),(37,.d (dI c)),(120,.d (dI N)),(121,.d (dI k))] rfl ?_;refine af.zg 1 rfl (fun B1 F1 w1 hS=>?_);refine ab.idxs tok (hS.at (i:=r+2) (hgr q) (by rw[List.length_map];omega)) rfl rfl rfl rfl (Int.natCast_nonneg k) (by rw[List.length_map];omega) ?_;refine ab.nil ⟨rfl,?_⟩;refine af.df 129 (r+2) (hgr q) rfl rfl ?_;refine af.el (k:=k) tok 129 144 rfl (List.Mem.head _) rfl rfl rfl (by rw[List.length_map];omega) rfl ?_;refine af.cut 1 rfl (fun B1 F1 w1=>?_);refine ab.lQ tok Y rfl rfl rfl (by omega) ?_;rw[hps];refine ab.nil ⟨rfl,?_⟩;refine af.back 129 (r+2) rfl rfl rfl (List.Mem.head _) (List.getElem?_set_self (by have:=(List.getElem?_eq_some_iff.1 (hgr q)).1;simp only[List.length_cons];omega)) ?_
   refine af.kx (R':=((Vr,OA Ws)::(Vc,CA s.cols)::bY Ws (b.set r (gm (w8 v row p) row (k+1))))) (by
    show (Vr,OA Ws)::(Vc,CA s.cols)::((bY Ws (b.set r q)).set r _).set r _=_
    rw[List.set_set,sO (by omega) (by simpa using hrb),List.set_set]) ?_
   refine af.cut 1 rfl (fun B1 F1 w1=>?_);refine qU 1 rfl ?_;refine ab.nil ⟨rfl,?_⟩;refine af.nil ?_;refine AZ.to [3,6,7,8,11,12,14,36,37,15,120,121] [(3,.bx [.sl 1 (v.map ah)]),(6,.bx [.sl 1 [],.sl 1 [],dI 0,.sl 3 []]),(7,.d aI),(8,.bx [.v Vr,.v Vc,dI sg,ah det]),(11,.d (dI c)),(12,.d (dI r)),(14,.d (ah p)),(36,.d (dI most)),(37,.d (dI c)),(15,.d aI),(120,.d (dI N)),(121,.d (dI k))] rfl ?_;refine AZ.seq ?_;refine AZ.dm (fun B1 F1 w1=>?_);refine qU 1 rfl ?_;refine ab.err tok rfl rfl rfl rfl rfl ?_;refine ab.nil ⟨rfl,?_⟩;refine AZ.ar rfl ?_;refine AZ.skip ?_;refine AZ.dm (fun B1 F1 w1=>?_);refine qU 1 rfl ?_;rw[aA (x:=(k:Int)+1) (by omega) (by omega)];refine qU 1 rfl ?_;refine ab.nil ⟨rfl,?_⟩;exact⟨k+1,rfl,hkN,by omega⟩
 have hkN:k=N:=by have:=of_decide_eq_false h;omega
 subst hkN;rw[show gm (w8 v row p) row k=w8 v row p by rw[← hrN];exact tW hz,← hE];refine AZ.exit ?_;have hWe:Ws.length=e.length:=by omega
 have hre:r<e.length:=by omega
 have he2c:e.length=s.rows.length:=by omega
 refine AZ.seq ?_;refine AZ.seq ?_;refine AZ.uX (fun B1 F1 w1 hS=>?_);refine qU 2 rfl ?_;refine ab.lens tok (hS.at (i:=0) rfl (by rw[List.length_map];omega)) rfl rfl rfl rfl ?_;rw[List.length_map,hWe];refine qU 1 rfl ?_;refine ab.nil ⟨rfl,?_⟩;refine AZ.block ?_;refine AZ.aD [3,6,7,8,11,12,36,37,152,153] (fun i:Nat=>(((Vr,OA Ws)::(Vc,CA s.cols)::bY Ws (bH v e r c i)),[(3,.bx [.sl 1 (v.map ah)]),(6,.bx [.sl 1 [],.sl 1 [],dI 0,.sl 3 []]),(7,.d aI),(8,.bx [.v Vr,.v Vc,dI sg,ah det]),(11,.d (dI c)),(12,.d (dI r)),(36,.d (dI most)),(37,.d (dI c)),(152,.d (dI e.length)),(153,.d (dI i))])) (fun i=>i≤e.length) (fun i=>e.length-i) 0 rfl (Nat.zero_le _) (fun i hi=>?_);show AZ _ _ _ _ _ _ _ ((Vr,OA Ws)::(Vc,CA s.cols)::bY Ws (bH v e r c i)) [(3,.bx [.sl 1 (v.map ah)]),(6,.bx [.sl 1 [],.sl 1 [],dI 0,.sl 3 []]),(7,.d aI),(8,.bx [.v Vr,.v Vc,dI sg,ah det]),(11,.d (dI c)),(12,.d (dI r)),(36,.d (dI most)),(37,.d (dI c)),(152,.d (dI e.length)),(153,.d (dI i))];refine AZ.seq ?_;refine AZ.dm (fun B1 F1 w1=>?_);refine qU 1 rfl ?_;refine ab.nil ⟨rfl,?_⟩;refine AZ.seq ?_;refine AZ.cond rfl (fun h=>?_) (fun h=>?_)
 · have hie:i<e.length:=by have:=of_decide_eq_true h;omega
   have hm1:=jt v e r c i;have hm2:=mX (v:=v) (r:=r) (c:=c) he2 i (by omega);have hm3:=sK V (r:=r) (c:=c) he3 i;have hmi:=fa v e r c i i (.inl (Nat.le_refl _));have hmr:=fa v e r c i r (.inr rfl);have hnx:bH v e r c (i+1)=if i≠r∧lD v (br (bH v e r c i) i c)≠0 then (bH v e r c i).set i (fJ v ((bH v e r c i).getD i []) ((bH v e r c i).getD r []) (br (bH v e r c i) i c)) else bH v e r c i:=rfl
   have ia:br (bH v e r c i) i c=br e i c:=sL v e r c i c;generalize bH v e r c i=m at *;refine AZ.skip ?_;refine AZ.seq ?_;refine AZ.block ?_;refine AZ.seq ?_;refine AZ.dm (fun B1 F1 w1=>?_);refine qU 2 rfl ?_;refine ab.nil ⟨rfl,?_⟩;refine AZ.seq ?_;refine AZ.any aL (gL.nE 16 (by kernel_rfl) (fun B1 F1 w1 hS=>?_));have hS0:=hS.at (i:=0) rfl (by rw[List.length_map];omega);refine qP 3 rfl ?_;by_cases hir:i=r
   · rw[if_neg (fun g=>g.1 hir)] at hnx;rw[bne_eq_false_iff_eq.2 (show (i:Int)=(r:Int) by omega)];refine qP 13 rfl ?_;refine ae.nil ⟨rfl,?_⟩;refine af.nil ?_;refine AZ.ar rfl ?_;refine AZ.skip ?_;refine AZ.dm (fun B1 F1 w1=>?_);refine qU 1 rfl ?_;rw[aA (x:=(i:Int)+1) (by omega) (by omega)];refine qU 1 rfl ?_;refine ab.nil ⟨rfl,?_⟩;exact⟨i+1,Prod.ext (show ((Vr,OA Ws)::(Vc,CA s.cols)::bY Ws m)=((Vr,OA Ws)::(Vc,CA s.cols)::bY Ws (bH v e r c (i+1))) by rw[hnx]) rfl,hie,by omega⟩
   have hmiN:(m.getD i []).length=k:=hm2 i (by omega);have hmrN:(m.getD r []).length=k:=hm2 r (by omega);have hgi:=b5 (Vs:=Ws) (a:=m) (j:=i) (by omega) (by omega);have hgr2:=b5 (Vs:=Ws) (a:=m) (j:=r) (by omega) (by omega);have hS1:=hS.at (i:=i+2) hgi (by rw[List.length_map];omega);have cs:=l8 V (hm3 i c) (by rw[ia];exact oks i (by omega) (by omega));have okt2:=okt i (by omega) (by omega);rw[← ia,← hmi,← hmr] at okt2;rw[bne_iff_ne.2 (show (i:Int)≠(r:Int) by omega)];refine qP 5 rfl ?_;refine ae.idxs tok hS0 rfl rfl rfl rfl rfl (Int.natCast_nonneg i) (by rw[List.length_map];omega) ?_;refine ae.bd tok (.v (Ws.getD i undef)) hS0 rfl rfl rfl rfl rfl rfl rfl (b8 (by omega)) rfl ?_;refine qP 1 rfl ?_;refine ae.idxs tok hS1 rfl rfl rfl rfl rfl (Int.natCast_nonneg c) (by rw[List.length_map];omega) ?_;refine ae.bd tok (ah (br m i c)) hS1 rfl rfl rfl rfl rfl rfl rfl (hel hm2 (by omega) c hcN) rfl ?_;refine ae.call tok rfl rfl rfl rfl rfl cs ?_;refine qP 2 rfl ?_;refine ae.nil ⟨rfl,?_⟩;refine af.nil ?_;refine AZ.cond rfl (fun h=>?_) (fun h=>?_);rotate_left
   · have hg:lD v (br m i c)=0:=bne_eq_false_iff_eq.1 h;rw[if_neg (fun g=>g.2 hg)] at hnx;refine AZ.skip ?_;refine AZ.dm (fun B1 F1 w1=>?_);refine qU 1 rfl ?_;rw[aA (x:=(i:Int)+1) (by omega) (by omega)];refine qU 1 rfl ?_;refine ab.nil ⟨rfl,?_⟩;exact⟨i+1,Prod.ext (show ((Vr,OA Ws)::(Vc,CA s.cols)::bY Ws m)=((Vr,OA Ws)::(Vc,CA s.cols)::bY Ws (bH v e r c (i+1))) by rw[hnx]) rfl,hie,by omega⟩
   have hg:lD v (br m i c)≠0:=bne_iff_ne.1 h;rw[if_pos ⟨hir,hg⟩] at hnx;have ct:=tX (Ws.getD i undef) (Ws.getD r undef) V (xs:=m.getD i []) (ys:=m.getD r []) (c:=br m i c) (by omega) (by omega) (by omega) (hm3 i) (hm3 r) (hm3 i c) (okt2 (by rw[ia] at hg ⊢; exact hg));refine AZ.seq ?_;refine AZ.any aL (gL.nE 19 (by kernel_rfl) (fun B1 F1 w1 hS=>?_));have hS0:=hS.at (i:=0) rfl (by rw[List.length_map];omega);have hS1:=hS.at (i:=i+2) hgi (by rw[List.length_map];omega);refine qP 4 rfl ?_;refine ae.idxs tok hS0 rfl rfl rfl rfl rfl (Int.natCast_nonneg i) (by rw[List.length_map];omega) ?_;refine ae.bd tok (.v (Ws.getD i undef)) hS0 rfl rfl rfl rfl rfl rfl rfl (b8 (by omega)) rfl ?_;refine qP 3 rfl ?_;refine ae.idxs tok hS0 rfl rfl rfl rfl rfl (Int.natCast_nonneg r) (by rw[List.length_map];omega) ?_;refine ae.bd tok (.v (Ws.getD r undef)) hS0 rfl rfl rfl rfl rfl rfl rfl (b8 (by omega)) rfl ?_;refine qP 3 rfl ?_;refine ae.idxs tok hS0 rfl rfl rfl rfl rfl (Int.natCast_nonneg i) (by rw[List.length_map];omega) ?_;refine ae.bd tok (.v (Ws.getD i undef)) hS0 rfl rfl rfl rfl rfl rfl rfl (b8 (by omega)) rfl ?_;refine qP 1 rfl ?_;refine ae.idxs tok hS1 rfl rfl rfl rfl rfl (Int.natCast_nonneg c) (by rw[List.length_map];omega) ?_;refine ae.bd tok (ah (br m i c)) hS1 rfl rfl rfl rfl rfl rfl rfl (hel hm2 (by omega) c hcN) rfl ?_;refine ae.nil ⟨rfl,?_⟩;refine af.to [172,177,182,190,3,6,7,8,11,12,36,37,152,153] [(172,.d (bI v)),(177,.d (.v (Ws.getD i undef))),(182,.d (.v (Ws.getD r undef))),(190,.d (ah (br m i c))),(3,.bx [.sl 1 (v.map ah)]),(6,.bx [.sl 1 [],.sl 1 [],dI 0,.sl 3 []]),(7,.d aI),(8,.bx [.v Vr,.v Vc,dI sg,ah det]),(11,.d (dI c)),(12,.d (dI r)),(36,.d (dI most)),(37,.d (dI c)),(152,.d (dI e.length)),(153,.d (dI i))] rfl ?_;refine af.ju tok [i+2,r+2] rfl rfl rfl rfl (Ic hgi hgr2) (by simp[hir]) rfl ct (fun res R1 hP=>by rw[hP.2];exact Nat.le_refl _) (fun res R1 hP=>?_);obtain ⟨rfl,rfl⟩:=hP
   refine af.kx (R':=(Vr,OA Ws)::(Vc,CA s.cols)::bY Ws (bH v e r c (i+1))) (by
    show ((Vr,OA Ws)::(Vc,CA s.cols)::((bY Ws m).set i _).set r _)++[]=_
    rw[List.append_nil,EW (by omega) (by omega) (by omega) hir,hnx]) ?_
   refine af.cut 1 rfl (fun B1 F1 w1=>?_);refine qU 1 rfl ?_;refine ab.nil ⟨rfl,?_⟩;refine af.nil ?_;refine AZ.seq ?_;refine AZ.dm (fun B1 F1 w1=>?_);refine qU 1 rfl ?_;refine ab.err tok rfl rfl rfl rfl rfl ?_;refine ab.nil ⟨rfl,?_⟩;refine AZ.ar rfl ?_;refine AZ.skip ?_;refine AZ.dm (fun B1 F1 w1=>?_);refine qU 1 rfl ?_;rw[aA (x:=(i:Int)+1) (by omega) (by omega)];refine qU 1 rfl ?_;refine ab.nil ⟨rfl,?_⟩;exact⟨i+1,rfl,hie,by omega⟩
 have hie:i=e.length:=by have:=of_decide_eq_false h;omega
 subst hie;refine AZ.exit ?_;refine AZ.region ?_;refine af.cut 4 rfl (fun B1 F1 w1=>?_);refine qU 3 rfl ?_;refine ab.fA tok rfl rfl rfl rfl rfl ?_;refine ab.nil ⟨rfl,?_⟩;refine af.df 198 1 rfl rfl rfl ?_;refine af.cut 1 rfl (fun B1 F1 w1=>?_);refine ab.gK tok rfl rfl rfl rfl rfl rfl (by show ((s.cols.map (fun c:Nat=>dI c)).length+1)*8≤_;rw[List.length_map];omega) (by show (s.cols.map (fun c:Nat=>dI c)).length+1≤_;rw[List.length_map];omega) ?_;refine ab.nil ⟨rfl,?_⟩;refine af.ub 201 1 rfl rfl rfl rfl (fun Vq=>?_)
 refine af.kx (R':=(Vr,OA Ws)::(Vq,CA (s.cols++[c]))::bY Ws (bH v e r c e.length)) (by
  show (Vr,OA Ws)::(Vq,AV.ow 3 (s.cols.map (fun c:Nat=>dI c)++[dI c]))::bY Ws (bH v e r c e.length)=_
  rw[show s.cols.map (fun c:Nat=>dI c)++[dI (c:Int)]=(s.cols++[c]).map (fun c:Nat=>dI c) by simp]) ?_
 refine af.cut 2 rfl (fun B1 F1 w1=>?_);refine qU 2 rfl ?_;refine ab.nil ⟨rfl,?_⟩;refine af.nil ?_;refine AZ.dm (fun B1 F1 w1=>?_);refine qU 1 rfl ?_;rw[aA (x:=(c:Int)+1) (by omega) (by omega)];refine qU 1 rfl ?_;refine ab.nil ⟨rfl,?_⟩;exact⟨(c+1,Vr,Vq,Ws),by rw[hst];rfl,⟨hcm,by show Ws.length=a.length;omega⟩,by show most-(c+1)<most-c;omega⟩
end Lift
namespace Lift
open Go Go.Proofs
theorem pf(v:List NQ)(most:Nat)(hm:most≤1000000):Pure Tryz.prog 46 [bI v,bS [],dI most] (.tu [CF ⟨[],[],1,[1]⟩,aI]):=by
 refine qJ 205 Tryz.func46 rfl rfl rfl rfl (by kernel_rfl) (fun B F0 w0=>?_);have cone:=lM (Qr ((1:Int):Rat)) (k:=1) (iL _ (by have:=k9;rw[show ((1:Int):Rat)=1 from rfl];omega)) (by decide) (by decide) (zq _);rw[bK,show HX ((1:Int):Rat)=[1] from rfl] at cone;refine qX 3 rfl ?_;refine qI (AW.region ?_);refine ab.call tok rfl rfl rfl rfl (gk 1 (by decide) (by decide)) ?_;refine ab.call tok rfl rfl rfl rfl cone ?_;refine qU 3 rfl ?_;refine qI ?_;refine qX 3 rfl ?_;refine ab.nil ?_;refine AW.block ?_;refine AW.aD [2,3,6,7,8,22,23,24] (fun _:Unit=>[(2,.d (dI most)),(3,.bx [.sl 1 (v.map ah)]),(6,.bx [.sl 1 [],.sl 1 [],dI 0,.sl 3 []]),(7,.d aI),(8,.bx [.sl 1 [],.sl 1 [],dI 1,ah [1]]),(22,.d (bS [])),(23,.d (dI 0)),(24,.d (dI 0))]) (fun _=>True) (fun _=>0) () rfl trivial (fun _ _=>?_);show AW _ _ _ _ _ _ _ [(2,.d (dI most)),(3,.bx [.sl 1 (v.map ah)]),(6,.bx [.sl 1 [],.sl 1 [],dI 0,.sl 3 []]),(7,.d aI),(8,.bx [.sl 1 [],.sl 1 [],dI 1,ah [1]]),(22,.d (bS [])),(23,.d (dI 0)),(24,.d (dI 0))];refine qX 1 rfl ?_;refine qI ?_;refine AW.ar rfl ?_;refine AW.exit (AW.seq ?_);refine qX 2 rfl ?_;refine ab.nil ?_;refine AW.block ?_;refine AW.aD [3,6,7,8,36,37] (fun c:Nat=>[(3,.bx [.sl 1 (v.map ah)]),(6,.bx [.sl 1 [],.sl 1 [],dI 0,.sl 3 []]),(7,.d aI),(8,.bx [.sl 1 [],.sl 1 [],dI 1,ah [1]]),(36,.d (dI most)),(37,.d (dI c))]) (fun c=>c≤most) (fun c=>most-c) 0 rfl (Nat.zero_le _) (fun c hc=>?_);show AW _ _ _ _ _ _ _ [(3,.bx [.sl 1 (v.map ah)]),(6,.bx [.sl 1 [],.sl 1 [],dI 0,.sl 3 []]),(7,.d aI),(8,.bx [.sl 1 [],.sl 1 [],dI 1,ah [1]]),(36,.d (dI most)),(37,.d (dI c))];refine qX 1 rfl ?_;refine qI ?_;refine AW.cond rfl (fun h=>?_) (fun h=>?_);rotate_left
 · refine AW.exit ?_;refine qX 3 rfl ?_;exact qN rfl
 have hcm:c<most:=by have:=of_decide_eq_true h;omega
 refine AW.skip (AW.seq (AW.block ?_));refine qX 2 rfl ?_;refine qK 4 rfl ?_;refine qK 2 rfl ?_;refine ab.nil ?_;refine AW.cut [3,6,7,8,12,13,36,37] (fun _:Unit=>[(3,.bx [.sl 1 (v.map ah)]),(6,.bx [.sl 1 [],.sl 1 [],dI 0,.sl 3 []]),(7,.d aI),(8,.bx [.sl 1 [],.sl 1 [],dI 1,ah [1]]),(12,.d (dI 0)),(13,.d (dI 0)),(36,.d (dI most)),(37,.d (dI c))]) (fun _=>True) ?_ (fun _ _=>?_)
 · refine AW.block ?_;refine AW.aD [3,6,7,8,11,12,13,36,37] (fun _:Unit=>[(3,.bx [.sl 1 (v.map ah)]),(6,.bx [.sl 1 [],.sl 1 [],dI 0,.sl 3 []]),(7,.d aI),(8,.bx [.sl 1 [],.sl 1 [],dI 1,ah [1]]),(11,.d (dI c)),(12,.d (dI 0)),(13,.d (dI 0)),(36,.d (dI most)),(37,.d (dI c))]) (fun _=>True) (fun _=>0) () rfl trivial (fun _ _=>?_);show AW _ _ _ _ _ _ _ [(3,.bx [.sl 1 (v.map ah)]),(6,.bx [.sl 1 [],.sl 1 [],dI 0,.sl 3 []]),(7,.d aI),(8,.bx [.sl 1 [],.sl 1 [],dI 1,ah [1]]),(11,.d (dI c)),(12,.d (dI 0)),(13,.d (dI 0)),(36,.d (dI most)),(37,.d (dI c))];refine AW.seq (AW.seq ?_);refine AW.draw aL 18 (by kernel_rfl) ?_;refine qP 18 rfl ?_;refine ae.nil ?_;refine ab.nil ?_;refine AW.ar rfl ?_;exact AW.exit ⟨(),rfl,trivial⟩
 show AW _ _ _ _ _ _ _ [(3,.bx [.sl 1 (v.map ah)]),(6,.bx [.sl 1 [],.sl 1 [],dI 0,.sl 3 []]),(7,.d aI),(8,.bx [.sl 1 [],.sl 1 [],dI 1,ah [1]]),(12,.d (dI 0)),(13,.d (dI 0)),(36,.d (dI most)),(37,.d (dI c))];refine AW.seq ?_;refine qX 5 rfl ?_;refine ab.nil ?_;refine AW.aF rfl ?_;refine AW.exit ?_;refine qT 1 rfl ?_;rw[aA (x:=(c:Int)+1) (by omega) (by omega)];refine qU 1 rfl ?_;refine ab.nil ?_;exact⟨c+1,rfl,hcm,by omega⟩
def gz(v:List NQ)(a:bk):ir:=aH v a (ay a)
structure xL (v:List NQ) (a:bk):Prop where
 l:a.length≤32
 r:b9 (ay a) a
 c:ay a≤32
 lt:nJ v.length a
theorem gg{v:List NQ}(V:mC v){a:bk}{N most:Nat}(ha:a.length≤1000000)(hN:N≤1000000)(hmost:most≤N)(hr:b9 N a)(hl:nJ v.length a)(ok: ∀c,c<most→k8 v (aH v a c) c):
  Pure Tryz.prog 46 [bI v,bS a,dI most] (.tu [CF (aH v a most),aI]):=by
 by_cases h0:a.length=0
 · rw[List.length_eq_zero_iff.1 h0,su];exact pf v most (by omega)
 · exact qq V (by omega) ha hN hmost hr hl ok
def uY(a:bk):List (List (List RD)):=a.map (fun r=>r.map dz)
theorem yr(a:bk):(uY a).length=a.length:=List.length_map ..
theorem oO(a:bk)(i:Nat):(uY a).getD i []=(a.getD i []).map dz:=by
 unfold uY;rw[List.getD_eq_getElem?_getD,List.getElem?_map,List.getD_eq_getElem?_getD];cases a[i]? with
 | none=>rfl
 | some x=>rfl
theorem Bk(a:bk)(i k:Nat):((uY a).getD i []).getD k []=dz (br a i k):=by
 rw[oO];unfold br;generalize a.getD i []=r;rw[List.getD_eq_getElem?_getD,List.getElem?_map,List.getD_eq_getElem?_getD];cases r[k]? with
 | none=>rfl
 | some x=>rfl
theorem wK(a:bk):MxR (uY a)=bS a:=by
 show D.sl 1 ((a.map _).map mD)=D.sl 1 (a.map dv);rw[List.map_map]
 congr 1
 refine List.map_congr_left fun r _=>?_;show D.sl 1 ((r.map dz).map dn)=D.sl 1 (r.map ah);rw[List.map_map]
 congr 1
 exact List.map_congr_left fun x _=>qb x
theorem vK(a:bk):ay (uY a)=ay a:=by unfold ay;rw[oO,List.length_map]
theorem jv.s{m:Nat}{v:List NQ}(V:jv m v)(hk:mQ v.length m):HZ m (lE v):=by
 have hl5:=V.l5;have hm2:=V.m2;have T:=V.raw.1;exact⟨fun i hi _=>by rw[oM];exact nQ (V.sz i),V.m1,by rw[ga];omega,T.ll,fun _=>by rw[ga];exact hk,hm2⟩
theorem xL.raw{m:Nat}{v:List NQ}{a:bk}(V:jv m v)(G:xL v a)(hs: ∀i k,aj m (br a i k)):ET m (lE v) (uY a)∧nw (lE v) (uY a)=0:=by
 have hl:=G.l;have hc:=G.c
 have hrow: ∀i,((uY a).getD i []).length≤32:=fun i=>by
  rw[oO,List.length_map];by_cases h:i<a.length
  · rw[G.r i h];exact hc
  · rw[mV (by omega)];exact Nat.zero_le _
 refine⟨⟨fun i k=>by rw[Bk];exact Fx V (G.lt i k) (hs i k),by rw[yr];omega,fun i=>Nat.le_trans (hrow i) (by decide)⟩,?_⟩;unfold nw;rw[if_neg (by rw[V.raw.2];simp)];unfold xe;split
 · rfl
 rw[yr,vK,if_neg (by omega)]
 have e1:fE (xJ (uY a)) (a.length-0) 0=0:=mu fun j hj=>by
  unfold xJ;rw[vK,oO,List.length_map,G.r j (by omega)];exact if_neg (fun h=>h rfl)
 rw[e1,if_neg (by decide)];refine mu fun j hj=>?_;unfold kc;refine mu fun k hk=>?_;rw[Bk];exact ck1 V (G.lt j k)
theorem tZ{m:Nat}{v:List NQ}{a:bk}(V:jv m v)(hk:mQ v.length m)(G:xL v a)(hs: ∀i k,aj m (br a i k))(ok: ∀c,c<ay a→k8 v (aH v a c) c):Pure Tryz.prog 13 [bI v,bS a] (.tu [dI (gz v a).cols.length,aI]):=by
 refine qJ 29 Tryz.func13 rfl rfl rfl rfl (by kernel_rfl) (fun B F0 w0=>?_);obtain ⟨r1,r2⟩:=G.raw V hs;have cc:=ei (V.s hk) r1;rw[r2,nP,wK] at cc;have hGl:=G.l;have hGc:=G.c;have cr:=gg V.a (most:=ay a) (by omega) (by omega) (Nat.le_refl _) G.r G.lt ok;have hcl:=(gw V.a G.r G.lt (ay a)).cl;change Pure _ _ _ (.tu [CF (gz v a),aI]) at cr;generalize gz v a=s at cr ⊢;obtain ⟨rows,cols,sg,det⟩:=s;refine qX 3 rfl ?_;refine qI ?_;refine qX 2 rfl ?_;refine ab.call tok rfl rfl rfl rfl cc ?_;refine qU 1 rfl ?_;refine qK 1 rfl ?_;refine ab.err tok rfl rfl rfl rfl rfl ?_;refine ab.nil ?_;refine AW.ar rfl ?_
 · refine AW.skip (AW.seq ?_);refine AW.my tok aL [(7,true),(1,false),(1,true)] 9 [7] (by kernel_rfl) ⟨rfl,?_⟩;refine qP 3 rfl ?_;refine ae.call tok rfl rfl rfl rfl rfl (eK a) ?_;refine ae.call tok rfl rfl rfl rfl rfl cr ?_;refine qP 2 rfl ?_;refine ae.nil ⟨rfl,?_⟩;refine qP 1 rfl ?_;refine ae.nil ⟨rfl,?_⟩;refine qP 1 rfl ?_;refine ae.nil ⟨_,nH.cons (.bx rfl) (nH.nil),?_⟩;refine qU 1 rfl ?_;refine qI ?_;refine qX 1 rfl ?_;refine ab.err tok rfl rfl rfl rfl rfl ?_;refine ab.nil ?_;refine AW.ar rfl ?_
   · refine AW.skip ?_;refine qX 2 rfl ?_;refine qU 1 rfl ?_;rw[List.length_map];refine qU 2 rfl ?_;exact qN rfl
end Lift
namespace Lift
def b6(a:bk):bk:=(List.range (ay a)).map fun k=>a.map fun r=>r.getD k []
theorem iZ(a:bk):(b6 a).length=ay a:=by unfold b6;rw[List.length_map,List.length_range]
theorem mH(a:bk){k:Nat}(h:k<ay a):(b6 a).getD k []=a.map fun r=>r.getD k []:=by
 unfold b6;rw[List.getD_eq_getElem?_getD,List.getElem?_map,List.getElem?_range h];rfl
theorem BI(a:bk)(k i:Nat):(a.map fun r=>r.getD k []).getD i []=br a i k:=by
 unfold br;rw[List.getD_eq_getElem?_getD,List.getElem?_map,List.getD_eq_getElem?_getD (l:=a)];cases a[i]? with
 | none=>exact(pB (Nat.zero_le k)).symm
 | some r=>rfl
theorem xS(a:bk){i k:Nat}(h:k<ay a):br (b6 a) k i=br a i k:=by
 show ((b6 a).getD k []).getD i []=_;rw[mH a h];exact BI a k i
theorem kJ(a:bk):b9 a.length (b6 a):=fun k hk=>by
 rw[iZ] at hk;rw[mH a hk,List.length_map]
theorem vu{p:NQ→Prop}(h0:p []){a:bk}(h: ∀i k,p (br a i k)): ∀i k,p (br (b6 a) i k):=fun k i=>by
 by_cases hk:k<ay a
 · rw[xS a hk];exact h i k
 · unfold br;rw[mV (by rw[iZ];omega)];exact h0
theorem oE{l:Nat}{a:bk}(h:nJ l a):nJ l (b6 a):=vu (p:=ak l) (bL l) h
theorem zK{a:bk}(h:0<ay a):ay (b6 a)=a.length:=by
 unfold ay;rw[mH a h,List.length_map]
def kp(v:List NQ)(a:bk)(c:Nat):List Nat:=(List.range c).filter fun i=> !(aH v a c).cols.contains i
theorem yp(v:List NQ)(a:bk)(c:Nat):(aH v a (c+1)).cols=(aH v a c).cols++[c]∨(aH v a (c+1)).cols=(aH v a c).cols:=by
 show (dZ v (aH v a c) c).cols=(aH v a c).cols++[c]∨(dZ v (aH v a c) c).cols=(aH v a c).cols;unfold dZ;split
 · exact .inl rfl
 · exact .inr rfl
theorem sv(v:List NQ)(a:bk): ∀c,∀x∈(aH v a c).cols,x<c
 | 0,x,h=>by cases h
 | c+1,x,h=>by
   have ih:=sv v a c;rcases yp v a c with e | e
   · rw[e] at h;rcases List.mem_append.1 h with h | h
     · exact Nat.lt_succ_of_lt (ih x h)
     · rw[List.mem_singleton.1 h];exact Nat.lt_succ_self c
   · rw[e] at h;exact Nat.lt_succ_of_lt (ih x h)
theorem um(v:List NQ)(a:bk)(c:Nat):((aH v a (c+1)).cols=(aH v a c).cols++[c]∧kp v a (c+1)=kp v a c)∨((aH v a (c+1)).cols=(aH v a c).cols∧kp v a (c+1)=kp v a c++[c]):=by
 have hlt:=sv v a c;rcases yp v a c with e | e
 · refine .inl ⟨e,?_⟩;unfold kp;rw[List.range_succ,List.filter_append,e];rw[show List.filter (fun i=> !((aH v a c).cols++[c]).contains i) [c]=[] by simp,List.append_nil];refine List.filter_congr fun i hi=>?_;have hi:=List.mem_range.1 hi;have:i≠c:=by omega
   simp[this]
 · refine .inr ⟨e,?_⟩;unfold kp;rw[List.range_succ,List.filter_append,e]
   congr 1
   have:c ∉ (aH v a c).cols:=fun h=>absurd (hlt c h) (Nat.lt_irrefl c);simp[this]
theorem qR(v:List NQ)(a:bk): ∀c,(kp v a c).length+(aH v a c).cols.length=c
 | 0=>rfl
 | c+1=>by
   have ih:=qR v a c;rcases um v a c with ⟨e1,e2⟩ | ⟨e1,e2⟩
   · rw[e1,e2,List.length_append];show _+(_+1)=_;omega
   · rw[e1,e2,List.length_append];show _+1+_=_;omega
def Ac(v:List NQ)(a:bk):List Nat:=kp v (b6 a) a.length
theorem tq{m0:Nat}{v:List NQ}(V:jv m0 v){a:bk}(G:xL v a){n:Nat}(hn:n≤a.length):(aH v (b6 a) n).cols.length=(aH v (a.take n) (ay a)).cols.length :=
 Ca V G.r G.lt (kJ a) (oE G.lt) (iZ a) (fun i k _ hk=>xS a hk) hn
theorem Bj{v:List NQ}(V:mC v){a:bk}(G:xL v a):(gz v a).cols.length≤a.length∧(gz v a).cols.length≤ay a :=
 ⟨(gw V G.r G.lt (ay a)).cm,(gw V G.r G.lt (ay a)).cl⟩
theorem B9{m0:Nat}{v:List NQ}(V:jv m0 v){a:bk}(G:xL v a):(gz v (b6 a)).cols.length=(gz v a).cols.length∧(aH v (b6 a) a.length).cols.length=(gz v a).cols.length:=by
 have h:=tq V G (Nat.le_refl a.length);rw[List.take_length] at h;refine⟨?_,h⟩;by_cases h0:0<ay a
 · unfold gz at *;rw[zK h0];exact h
 · have e:b6 a=[]:=List.length_eq_zero_iff.1 (by rw[iZ];omega);have:=(Bj V.a G).2;unfold gz at *;rw[e,su];show 0=_;omega
theorem Dm{m0:Nat}{v:List NQ}(V:jv m0 v){a:bk}(G:xL v a):(Ac v a).length=a.length-(gz v a).cols.length:=by
 have h1:=qR v (b6 a) a.length;have h2:=(B9 V G).2;have h3:=(Bj V.a G).1;unfold Ac;omega
def kn(s:ir)(n c:Nat):Nat→List NQ
 | 0=>(List.replicate n []).set c [1]
 | r+1=>(kn s n c r).set (s.cols.getD r 0) (qn (br s.rows r c))
def qC(v:List NQ)(a:bk):bk:=(kp v a (ay a)).map fun c=>kn (gz v a) (ay a) c (gz v a).cols.length
theorem ph(s:ir)(n c:Nat): ∀r,(kn s n c r).length=n
 | 0=>by unfold kn;rw[List.length_set,List.length_replicate]
 | r+1=>by unfold kn;rw[List.length_set,ph s n c r]
end Lift
namespace Lift
open Go Go.Proofs
theorem oP(n:Nat)(r:D)(hn:n≤4611686018427387904)(h1: ∀i:Nat,i≤5→n=2^i→r= .tu [dI i,dB true])(h2:(∀i:Nat,i≤5→n≠2^i)→r= .tu [dI 0,dB false]):Pure Tryz.prog 76 [dI n] r:=by
 refine qJ 14 Tryz.func76 rfl rfl rfl rfl (by kernel_rfl) (fun B0 F0 w0=>?_);refine qX 2 rfl ?_;refine qI ?_;refine qX 1 rfl ?_;refine ab.nil ?_;refine AW.block ?_;refine AW.aD [0,5] (fun k:Nat=>[(0,.d (dI n)),(5,.d (dI k))]) (fun k=>k≤6∧ ∀j,j<k→n≠2^j) (fun k=>6-k) 0 rfl ⟨Nat.zero_le _,fun j hj=>by omega⟩ (fun k ⟨hk,hi⟩=>?_);refine qX 1 rfl ?_;refine qI ?_;refine AW.cond rfl (fun h=>?_) (fun h=>?_);rotate_left
 · have hkk:k=6:=by have:=of_decide_eq_false h;omega
   subst hkk;rw[h2 (fun i hi5=>hi i (by omega))];refine AW.exit ?_;refine qX 2 rfl ?_;exact qN rfl
 have hkk:k<6:=by have:=of_decide_eq_true h;omega
 refine AW.skip (AW.seq (AW.block ?_));refine qX 2 rfl ?_;refine qK 3 rfl ?_;rw[x8 (by omega)];refine qU 1 rfl ?_;refine ab.nil ?_;by_cases hp:n=2^k
 · rw[h1 k (by omega) hp,beq_iff_eq.2 (show (n:Int)=((2^k:Nat):Int) by rw[hp])];refine AW.aF rfl ?_;refine qX 3 rfl ?_;exact qN rfl
 rw[beq_eq_false_iff_ne.2 (show (n:Int)≠((2^k:Nat):Int) by omega)];refine AW.ar rfl ?_;refine AW.skip ?_;refine qT 1 rfl ?_;rw[aA (x:=(k:Int)+1) (by omega) (by omega)];refine qU 1 rfl ?_;refine ab.nil ?_
 exact⟨k+1,rfl,⟨hkk,fun j hj=>by
  by_cases e:j=k
  · rw[e];exact hp
  · exact hi j (by omega)⟩,by omega⟩
theorem fr{n i:Nat}(h:n=2^i)(hi:i≤5):Pure Tryz.prog 76 [dI n] (.tu [dI i,dB true]):=by
 have hp:2^i≤2^5:=Nat.pow_le_pow_right (by decide) hi;refine oP n _ (by omega) (fun j hj e=>?_) (fun hn=>absurd h (hn i hi));have h1:=iP (Nat.le_of_eq (h.symm.trans e));have h3:=iP (Nat.le_of_eq (e.symm.trans h));rw[show j=i by omega]
theorem nt{n:Nat}(h: ∀i:Nat,i≤5→n≠2^i)(hn:n≤4611686018427387904):Pure Tryz.prog 76 [dI n] (.tu [dI 0,dB false]) :=
 oP n _ hn (fun i hi e=>absurd e (h i hi)) (fun _=>rfl)
theorem jS(m:Nat)(a:List RD){k:Nat}(hm5:m≤5)(hw:AT m a→wN k a)(hk:k≤17300000000000)(hl:a.length≤4398046511104):Pure Tryz.prog 37 [dI m,dn a] (dI (bJ m a)):=by
 refine qJ 37 Tryz.func37 rfl rfl rfl rfl (by kernel_rfl) (fun B0 F0 w0=>?_);have hno:=fun i hi=>yJ (l:=a) (i:=i) hi;have hyes:=vN (l:=a);unfold bJ;generalize jL a=E at hno hyes ⊢
 obtain ⟨x,ok,cp,hok⟩: ∃(x:Nat) (ok:Bool),Pure Tryz.prog 76 [dI a.length] (.tu [dI x,dB ok])∧((ok=false∨m<x)↔Aq m a.length=false):=by
  by_cases hp: ∃i,i≤5∧a.length=2^i
  · obtain ⟨i,hi,hp⟩:=hp;refine⟨i,true,fr hp hi,?_⟩;rw[hp,xf];constructor
    · rintro (h | h)
      · cases h
      · exact decide_eq_false (by omega)
    · intro h;right;have:=of_decide_eq_false h;omega
  · refine⟨0,false,nt (fun i hi e=>hp ⟨i,hi,e⟩) (by omega),?_⟩;constructor
    · intro _;cases hv:Aq m a.length
      · rfl
      · obtain ⟨i,h1,h2⟩:=DP hv;exact absurd ⟨i,by omega,h2⟩ hp
    · intro _;exact .inl rfl
 refine qX 1 rfl ?_;refine qK 2 rfl ?_;rw[List.length_map];refine ab.call tok rfl rfl rfl rfl cp ?_;refine qU 5 rfl ?_;refine ab.nil ?_;refine AW.cut [1] (fun _:Unit=>[(1,.d (dn a))]) (fun _=> ¬(a.length≠0∧Aq m a.length=false)) ?_ (fun _ hs=>?_)
 · refine qX 2 rfl ?_;rw[List.length_map];refine qU 1 rfl ?_;by_cases h0:a.length=0
   · rw[bne_eq_false_iff_eq.2 (show (a.length:Int)=0 by omega)];refine qU 9 rfl ?_;refine ab.nil ?_;refine AW.ar rfl ?_;refine AW.skip ?_;exact⟨(),rfl,fun h=>h.1 h0⟩
   rw[bne_iff_ne.2 (show (a.length:Int)≠0 by omega)];cases ok with
   | false =>
     have hb:=hok.1 (.inl rfl);rw[if_pos ⟨h0,hb⟩];refine qU 9 rfl ?_;refine ab.nil ?_;refine AW.aF rfl ?_;refine qX 1 rfl ?_;exact qN rfl
   | true =>
   refine qU 7 rfl ?_;by_cases hx:(m:Int)<(x:Int)
   · rw[decide_eq_true hx,if_pos ⟨h0,hok.1 (.inr (by omega))⟩];refine qU 2 rfl ?_;refine ab.nil ?_;refine AW.aF rfl ?_;refine qX 1 rfl ?_;exact qN rfl
   · rw[decide_eq_false hx];refine qU 2 rfl ?_;refine ab.nil ?_;refine AW.ar rfl ?_;refine AW.skip ?_
     exact⟨(),rfl,fun h=>by
      rcases hok.2 h.2 with e | e
      · cases e
      · omega⟩
 rw[if_neg hs];have hw:=hw hs;show AW _ _ _ _ _ _ _ [(1,.d (dn a))];refine AW.seq ?_;refine qX 2 rfl ?_;rw[List.length_map];refine qU 1 rfl ?_;refine ab.nil ?_;refine AW.block ?_;refine AW.aD [27,28,29] (fun i:Nat=>[(27,.d (dn a)),(28,.d (dI a.length)),(29,.d (dI i))]) (fun i=>i≤a.length∧ ∀j,j<i→(a.getD j default).okB=true) (fun i=>a.length-i) 0 rfl ⟨Nat.zero_le _,fun j hj=>by omega⟩ (fun i ⟨hi,hall⟩=>?_);refine qX 1 rfl ?_;refine qI ?_;refine AW.cond rfl (fun h=>?_) (fun h=>?_);rotate_left
 · have hii:i=a.length:=by have:=of_decide_eq_false h;omega
   subst hii;rw[hyes hall,if_neg (by simp)];refine AW.exit ?_;refine qX 1 rfl ?_;exact qN rfl
 have hii:i<a.length:=by have:=of_decide_eq_true h;omega
 have hg:=getM RD.D (l:=a) (i:=i) hii;have hno:=hno i hii;have cv:=oU (a.getD i default) (hw i hii) (by omega);refine AW.skip (AW.seq (AW.block (AW.seq (AW.region ?_))));refine ab.idx tok (a.getD i default).D rfl rfl rfl rfl (Int.natCast_nonneg i) hg ?_;refine qU 3 rfl ?_;refine qK 1 rfl ?_;refine ab.call tok rfl rfl rfl rfl cv ?_;refine qU 1 rfl ?_;cases hv:(a.getD i default).okB with
 | false =>
   rw[hno hv,if_pos rfl];refine ab.nil ?_;refine AW.aF rfl ?_;refine qX 1 rfl ?_;exact qN rfl
 | true =>
 refine ab.nil ?_;refine AW.ar rfl ?_;refine AW.skip ?_;refine qT 1 rfl ?_;rw[aA (x:=(i:Int)+1) (by omega) (by omega)];refine qU 1 rfl ?_;refine ab.nil ?_
 exact⟨i+1,rfl,⟨hii,fun j hj=>by
  by_cases e:j=i
  · subst e;exact hv
  · exact hall j (by omega)⟩,by omega⟩
theorem oQ(a:NQ)(hl:a.length≤1000000):Pure Tryz.prog 151 [ah a] (dB (ba a)):=by
 refine qJ 26 Tryz.func151 rfl rfl rfl rfl (by kernel_rfl) (fun B F0 w0=>?_);have hno:=fun i hi=>sS (a:=a) (i:=i) hi;have hyes:=pV (a:=a);generalize ba a=E at hno hyes ⊢;refine qX 1 rfl ?_;refine qI ?_;refine qX 2 rfl ?_;rw[List.length_map];refine qU 1 rfl ?_;refine ab.nil ?_;refine AW.block ?_;refine AW.aD [5,6,7] (fun i:Nat=>[(5,.d (ah a)),(6,.d (dI a.length)),(7,.d (dI i))]) (fun i=> ∀j,j<i→j<a.length→a.getD j 0=0) (fun i=>a.length-i) 0 rfl (fun j h=>by omega) (fun i hi=>?_)
 · show AW _ _ _ _ _ _ _ [(5,.d (ah a)),(6,.d (dI a.length)),(7,.d (dI i))];refine qX 1 rfl ?_;refine qI ?_;refine AW.cond rfl (fun h=>?_) (fun h=>?_)
   · have hii:i<a.length:=by have:=of_decide_eq_true h;omega
     have g:=kW hii;have hn:=hno i hii;have s0:=EU (a.getD i 0);generalize hq:a.getD i 0=q at g hn s0;generalize Qr q=y at g s0;obtain ⟨yg,yn,yd⟩:=y;simp only[] at s0;refine AW.skip (AW.seq (AW.block (AW.seq (AW.region ?_))));refine ab.idx tok (RD.mk yg yn yd).D rfl rfl rfl rfl (Int.natCast_nonneg i) g ?_;refine qU 3 rfl ?_;refine qK 3 rfl ?_;cases yg with
     | true =>
       refine qU 11 rfl ?_;refine ab.nil ?_;refine AW.aF rfl ?_;rw[hn (fun e=>by have:=s0.2 e;cases this.1)];refine qX 1 rfl ?_;exact qN rfl
     | false =>
     refine qU 3 rfl ?_;rw[aV];refine qU 1 rfl ?_;by_cases h1:yn.length=0;rotate_left
     · rw[bne_iff_ne.2 (show (yn.length:Int)≠0 by omega)];refine qU 7 rfl ?_;refine ab.nil ?_;refine AW.aF rfl ?_;rw[hn (fun e=>by have:=(s0.2 e).2.1;omega)];refine qX 1 rfl ?_;exact qN rfl
     rw[bne_eq_false_iff_eq.2 (show (yn.length:Int)=0 by omega)];refine qU 5 rfl ?_;rw[aV];refine qU 1 rfl ?_;by_cases h2:yd.length=0;rotate_left
     · rw[bne_iff_ne.2 (show (yd.length:Int)≠0 by omega)];refine qU 1 rfl ?_;refine ab.nil ?_;refine AW.aF rfl ?_;rw[hn (fun e=>by have:=(s0.2 e).2.2;omega)];refine qX 1 rfl ?_;exact qN rfl
     rw[bne_eq_false_iff_eq.2 (show (yd.length:Int)=0 by omega)];refine qU 1 rfl ?_;refine ab.nil ?_;refine AW.ar rfl ?_;refine AW.skip ?_;refine qT 1 rfl ?_;rw[aA (x:=(i:Int)+1) (by omega) (by omega)];refine qU 1 rfl ?_;refine ab.nil ?_;refine⟨i+1,rfl,fun j h1 h2=>?_,by omega⟩;by_cases e:j=i
     · rw[e,hq];exact s0.1 ⟨rfl,by omega,by omega⟩
     · exact hi j (by omega) h2
   have hii: ¬i<a.length:=by have:=of_decide_eq_false h;omega
   rw[hyes (fun j h=>hi j (by omega) h)];refine AW.exit ?_;refine qX 1 rfl ?_;exact qN rfl
theorem gW(a:NQ){k:Nat}(hs:aj k a)(hk:k≤17300000000000)(hl:a.length≤1000000):Pure Tryz.prog 112 [ah a] (ah (aC a)):=by
 refine qJ 19 Tryz.func112 rfl rfl rfl rfl (by kernel_rfl) (fun B0 F0 w0=>?_);refine qX 1 rfl ?_;refine qK 1 rfl ?_;refine qI ?_;refine qX 2 rfl ?_;rw[List.length_map];refine qU 1 rfl ?_;refine ab.nil ?_;refine AW.block ?_;refine AW.aD [3,6,7,8] (fun i:Nat=>[(3,.ow 111 (eD (aC (a.take i)))),(6,.d (ah a)),(7,.d (dI a.length)),(8,.d (dI i))]) (fun i=>i≤a.length) (fun i=>a.length-i) 0 rfl (Nat.zero_le _) (fun i hi=>?_);refine qX 1 rfl ?_;refine qI ?_;refine AW.cond rfl (fun h=>?_) (fun h=>?_);rotate_left
 · have hii:i=a.length:=by have:=of_decide_eq_false h;have:i≤a.length:=hi;omega
   subst hii;rw[List.take_length];refine AW.exit ?_;refine qX 2 rfl ?_;exact qN rfl
 have hii:i<a.length:=by have:=of_decide_eq_true h;omega
 have g:=kW hii;have cn:=Ae (Qr (a.getD i 0)) (iL _ (hs i)) hk;rw[bK] at cn;have htk:=s5 a 0 hii;have hol:(aC (a.take i)).length=i:=by rw[a7,List.length_take];omega
 have hms:aC (a.take (i+1))=aC (a.take i)++[-a.getD i 0]:=by
  rw[htk];unfold aC;rw[List.map_append];rfl
 generalize aC (a.take i)=M at hol hms ⊢;generalize a.getD i 0=q at g cn hms;refine AW.skip (AW.seq (AW.block (AW.seq (AW.region ?_))));refine ab.idx tok (Qr q).D rfl rfl rfl rfl (Int.natCast_nonneg i) g ?_;refine qU 3 rfl ?_;refine ab.nil ?_;refine qT 2 rfl ?_;refine ab.call tok rfl rfl rfl rfl cn ?_;refine ab.bs tok rfl rfl rfl rfl ?_;refine ab.gK tok rfl rfl rfl rfl rfl rfl (by rw[List.length_map,hol];show (_+1)*56≤_;omega) (by rw[List.length_map,hol];show _+1≤_;omega) ?_;refine qU 1 rfl ?_;refine ab.nil ?_;refine qT 1 rfl ?_;rw[aA (x:=(i:Int)+1) (by omega) (by omega)];refine qU 1 rfl ?_;refine ab.nil ?_;exact⟨i+1,by show _=([(3,.ow 111 (eD (aC (a.take (i+1))))),(6,.d (ah a)),(7,.d (dI a.length)),(8,.d (dI (i+1:Nat)))]:St);rw[hms,eD,eD,List.map_append];rfl,hii,by omega⟩
end Lift
namespace Lift
open Go Go.Proofs
theorem c6(a:NQ){l:Nat}(ha:ak l a)(hl:l≤5):Pure Tryz.prog 121 [ah a] (ah (ai a)):=by
 refine qJ 43 Tryz.func121 rfl rfl rfl rfl (by kernel_rfl) (fun B0 F0 w0=>?_);have hl10:=ha.len (by omega);rcases ha with h0 | ⟨i,hi,hai⟩
 · obtain rfl:a=[]:=List.length_eq_zero_iff.1 h0;have cp:=nt (n:=0) (fun i _=>by have:=Nat.two_pow_pos i;omega) (by decide);refine qX 1 rfl ?_;refine qK 2 rfl ?_;refine ab.call tok rfl rfl rfl rfl cp ?_;refine qU 5 rfl ?_;refine qI ?_;refine qX 2 rfl ?_;refine ab.nil ?_;refine AW.aF rfl ?_;refine qX 2 rfl ?_;refine ab.mA tok rfl rfl rfl rfl (by decide) ?_;refine qU 1 rfl ?_;exact qN rfl
 have cp:=fr hai (by omega);have hp:=Nat.two_pow_pos i;have hE:ai a=gr i a:=by unfold ai;rw[if_neg (by omega),hai,Nat.log2_two_pow]
 rw[hE];refine qX 1 rfl ?_;refine qK 2 rfl ?_;rw[List.length_map];refine ab.call tok rfl rfl rfl rfl cp ?_;refine qU 5 rfl ?_;refine qI ?_;refine qX 2 rfl ?_;refine ab.nil ?_;refine AW.ar rfl ?_;refine AW.skip ?_;refine qX 2 rfl ?_;rw[List.length_map,hai];refine qU 1 rfl ?_;refine qI (AW.block ?_);refine AW.aD [0,5] (fun j:Nat=>[(0,.d (ah a)),(5,.d (dI (2^j:Nat)))]) (fun j=>j≤i∧gr j a=gr i a) (fun j=>j) i rfl ⟨Nat.le_refl _,rfl⟩ (fun j hj=>?_);obtain ⟨hj,hjE⟩:=hj;show AW _ _ _ _ _ _ _ [(0,.d (ah a)),(5,.d (dI (2^j:Nat)))];have hpj:2^j≤2^i:=Nat.pow_le_pow_right (by decide) hj;have hpp:=Nat.two_pow_pos j;refine AW.seq ?_;refine qX 2 rfl ?_;rcases j with _ | j
 · refine qU 8 rfl ?_;refine ab.nil ?_;refine AW.ar rfl ?_;refine AW.exit (AW.seq ?_);refine qX 4 rfl ?_;refine ab.fp tok (a:=a) (a.take 1) rfl rfl rfl rfl trivial (show (0:Int)≤1 by decide) (Nat.zero_le _) (show 1≤a.length by omega) rfl ?_;refine ab.call tok rfl rfl rfl rfl (oQ (a.take 1) (by rw[List.length_take];omega)) ?_;refine qU 1 rfl ?_;refine ab.nil ?_;rw[← hjE];unfold gr;cases hz:ba (a.take 1) with
   | true =>
     rw[if_pos rfl];refine AW.aF rfl ?_;refine qX 1 rfl ?_;exact qN rfl
   | false =>
     rw[if_neg (by simp)];refine AW.ar rfl ?_;refine AW.skip ?_;refine qX 3 rfl ?_;refine ab.fp tok (a:=a) (a.take 1) rfl rfl rfl rfl trivial (show (0:Int)≤1 by decide) (Nat.zero_le _) (show 1≤a.length by omega) rfl ?_;have hq:(a.take 1).length≤1024:=by rw[List.length_take];omega
     refine ab.mA tok rfl rfl rfl rfl (by rw[List.length_map];show _*56≤_;omega) ?_;refine qU 1 rfl ?_;exact qN rfl
 have e2:2^(j+1)=2^j*2:=Nat.pow_succ ..;have eh:=ke j;rw[decide_eq_true (show (1:Int)<((2^(j+1):Nat):Int) by have:=Nat.two_pow_pos j;omega)];refine qU 3 rfl ?_;refine ab.div tok rfl rfl rfl rfl (by decide) ?_;rw[fV _ (by omega),eh];refine qU 1 rfl ?_;refine ab.fp tok (a:=a) ((a.take (2^(j+1))).drop (2^j)) rfl rfl rfl rfl (Int.natCast_nonneg _) (Int.natCast_nonneg _) (show 2^j≤2^(j+1) by omega) (show 2^(j+1)≤a.length by omega) rfl ?_;refine ab.call tok rfl rfl rfl rfl (oQ _ (by rw[List.length_drop,List.length_take];omega)) ?_;refine qU 1 rfl ?_;refine ab.nil ?_;cases hz:ba ((a.take (2^(j+1))).drop (2^j)) with
 | true =>
   refine AW.aF rfl ?_;refine AW.skip (AW.block ?_);refine qT 1 rfl ?_;refine ab.div tok rfl rfl rfl rfl (by decide) ?_;rw[fV _ (by omega),eh];refine qU 1 rfl ?_;refine ab.nil ?_;exact⟨j,rfl,⟨by omega,by rw[← hjE];show _=if ba ((a.take (2^(j+1))).drop (2^j))=true then _ else _;rw[if_pos hz]⟩,by omega⟩
 | false =>
 refine AW.ar rfl ?_;refine AW.exit (AW.seq ?_);refine qX 2 rfl ?_;rw[beq_eq_false_iff_ne.2 (show ((2^(j+1):Nat):Int)≠1 by have:=Nat.two_pow_pos j;omega)];refine qU 5 rfl ?_;refine ab.nil ?_;refine AW.ar rfl ?_;refine AW.skip ?_;refine qX 3 rfl ?_;refine ab.fp tok (a:=a) (a.take (2^(j+1))) rfl rfl rfl rfl trivial (Int.natCast_nonneg _) (Nat.zero_le _) (show 2^(j+1)≤a.length by omega) rfl ?_;have hq:(a.take (2^(j+1))).length≤1024:=by rw[List.length_take];omega
 refine ab.mA tok rfl rfl rfl rfl (by rw[List.length_map];show _*56≤_;omega) ?_;refine qU 1 rfl ?_;refine ab.nil ?_;rw[← hjE];unfold gr;rw[if_neg (by rw[hz];simp)];exact AW.ret rfl
theorem jj(a:NQ):aW a a.length=a:=by
 unfold aW;rw[List.take_length,Nat.sub_self];exact List.append_nil a
theorem sU{a:NQ}{i:Nat}(h:a.length≤i):aW a (i+1)=aW a i++[0]:=by
 unfold aW;rw[List.take_of_length_le h,List.take_of_length_le (by omega),Nat.succ_sub h,List.replicate_succ',List.append_assoc]
theorem jI(a:NQ)(n:Nat)(ha:a.length≤n)(hn:n≤1000000):iu Tryz.prog 142 [ah a,dI n] [] (Dy (aW a n)):=by
 refine iu.intro (n:=18) tok Tryz.func142 rfl rfl rfl (Nat.le_of_ble_eq_true rfl) (by kernel_rfl) (fun B F0 w0=>?_);refine AZ.seq ?_;refine AZ.dm (fun B1 F1 w1=>?_);refine qU 1 rfl ?_;refine ab.nil ⟨rfl,?_⟩;refine AZ.seq ?_;refine AZ.dm (fun B1 F1 w1=>?_);refine qU 2 rfl ?_;refine ab.pL tok rfl rfl rfl rfl (by rw[List.length_map];show _*56≤_;omega) ?_;refine qU 1 rfl ?_;refine ab.nil ⟨rfl,?_⟩;refine AZ.seq ?_;refine AZ.block ?_;refine AZ.aD [1,5] (fun i:Nat=>(([]:List LR),([(1,.d (dI n)),(5,.ow 111 (eD (aW a i)))]:St))) (fun i=>a.length≤i∧i≤n) (fun i=>n-i) a.length (by rw[jj];rfl) ⟨Nat.le_refl _,ha⟩ (fun i hi=>?_)
 · obtain ⟨hi,hin⟩:=hi;show AZ _ _ _ _ _ _ _ [] [(1,.d (dI n)),(5,.ow 111 (eD (aW a i)))];have wl:=bf a i;refine AZ.seq ?_;refine AZ.seq ?_;refine AZ.dm (fun B1 F1 w1=>?_);refine qU 2 rfl ?_;rw[List.length_map,wl];refine qU 2 rfl ?_;refine ab.nil ⟨rfl,?_⟩;refine AZ.cond rfl (fun h=>?_) (fun h=>?_)
   · have hii:i<n:=by have:=of_decide_eq_true h;omega
     have hs:=sU hi;refine AZ.skip ?_;refine AZ.block ?_;refine AZ.dm (fun B1 F1 w1=>?_);refine qU 2 rfl ?_;refine ab.bs tok rfl rfl rfl rfl ?_;refine ab.gK tok rfl rfl rfl rfl rfl rfl (by rw[List.length_map,wl];show (_+1)*56≤_;omega) (by rw[List.length_map,wl];show _+1≤_;omega) ?_;refine qU 1 rfl ?_;refine ab.nil ⟨rfl,?_⟩;refine⟨i+1,?_,⟨by omega,hii⟩,by omega⟩;rw[hs];show _=(([]:List LR),([(1,.d (dI n)),(5,.ow 111 ((aW a i++[0]).map (fun q=>(Qr q).D)))]:St));rw[List.map_append,List.map_cons,iV];rfl
   have hii:i=n:=by have:=of_decide_eq_false h;omega
   subst hii;refine AZ.exit ?_;refine AZ.seq ?_;refine AZ.dm (fun B1 F1 w1=>?_);refine qU 2 rfl ?_;refine ab.nil ⟨rfl,?_⟩;refine AZ.gC 4 rfl rfl rfl (fun V=>AZ.ret ⟨.v V,rfl,V,rfl,rfl⟩)
theorem kP(a:NQ)(n:Nat)(ha:a.length≤n)(hn:n≤1000000):Pure Tryz.prog 142 [ah a,dI n] (ah (aW a n)):=by
 refine qJ 18 Tryz.func142 rfl rfl rfl rfl (by kernel_rfl) (fun B F0 w0=>?_);refine qX 1 rfl ?_;refine qK 2 rfl ?_;refine ab.pL tok rfl rfl rfl rfl (by rw[List.length_map];show _*56≤_;omega) ?_;refine qU 1 rfl ?_;refine qI (AW.block ?_);refine AW.aD [1,5] (fun i:Nat=>[(1,.d (dI n)),(5,.ow 111 (eD (aW a i)))]) (fun i=>a.length≤i∧i≤n) (fun i=>n-i) a.length (by rw[jj];rfl) ⟨Nat.le_refl _,ha⟩ (fun i hi=>?_)
 · obtain ⟨hi,hin⟩:=hi;show AW _ _ _ _ _ _ _ [(1,.d (dI n)),(5,.ow 111 (eD (aW a i)))];have wl:=bf a i;refine AW.seq ?_;refine qX 2 rfl ?_;rw[List.length_map,wl];refine qU 2 rfl ?_;refine ab.nil ?_;refine AW.cond rfl (fun h=>?_) (fun h=>?_)
   · have hii:i<n:=by have:=of_decide_eq_true h;omega
     have hs:=sU hi;refine AW.skip (AW.block ?_);refine qT 2 rfl ?_;refine ab.bs tok rfl rfl rfl rfl ?_;refine ab.gK tok rfl rfl rfl rfl rfl rfl (by rw[List.length_map,wl];show (_+1)*56≤_;omega) (by rw[List.length_map,wl];show _+1≤_;omega) ?_;refine qU 1 rfl ?_;refine ab.nil ?_;refine⟨i+1,?_,⟨by omega,hii⟩,by omega⟩;rw[hs];show _=([(1,.d (dI n)),(5,.ow 111 ((aW a i++[0]).map (fun q=>(Qr q).D)))]:St);rw[List.map_append,List.map_cons,iV];rfl
   have hii:i=n:=by have:=of_decide_eq_false h;omega
   subst hii;refine AW.exit ?_;refine qX 2 rfl ?_;exact qN rfl
theorem fP(a b:NQ){k:Nat}(ha:aj k a)(hb:aj k b)(hk:k≤17300000000000)(hl:a.length≤1000000)(hl2:b.length≤1000000):Pure Tryz.prog 111 [ah a,ah b] (ah (aM a b)):=by
 refine qJ 37 Tryz.func111 rfl rfl rfl rfl (by kernel_rfl) (fun B F0 w0=>?_);obtain ⟨n,hn⟩: ∃n,n=max a.length b.length:=⟨_,rfl⟩;have cw1:=jI a n (by omega) (by omega);have cw2:=jI b n (by omega) (by omega);have l1:=bf a n;have l2:=bf b n;have g1: ∀i,i<n→(aW a n).getD i 0=a.getD i 0:=fun i hi=>by rw[fI,if_pos hi]
 have g2: ∀i,i<n→(aW b n).getD i 0=b.getD i 0:=fun i hi=>by rw[fI,if_pos hi]
 have hpl:(aM a b).length=n:=by rw[jf,hn]
 generalize aW a n=wa at cw1 l1 g1;generalize aW b n=wb at cw2 l2 g2;refine qX 1 rfl ?_;refine qK 4 rfl ?_;rw[List.length_map,List.length_map];refine qU 2 rfl ?_;rw[Hq,← hn];refine qI ?_;refine AZ.aw ?_;refine AZ.region ?_;refine af.cut 2 rfl (fun B1 F1 w1=>?_);refine qU 2 rfl ?_;refine ab.nil ⟨rfl,?_⟩;refine af.ju tok [] rfl rfl rfl rfl rfl List.nodup_nil rfl cw1 (fun _ _ _=>Nat.zero_le _) (fun res R1 hP=>?_);obtain ⟨V1,rfl,rfl⟩:=hP;refine af.cut 2 rfl (fun B1 F1 w1=>?_);refine qU 2 rfl ?_;refine ab.nil ⟨rfl,?_⟩;refine af.ju tok [] rfl rfl rfl rfl rfl List.nodup_nil rfl cw2 (fun _ _ _=>Nat.zero_le _) (fun res R1 hP=>?_);obtain ⟨V2,rfl,rfl⟩:=hP;refine af.cut 2 rfl (fun B1 F1 w1=>?_);refine qU 2 rfl ?_;refine ab.nil ⟨rfl,?_⟩;refine af.to [0,1] [(0,.d (.v V1)),(1,.d (.v V2))] rfl ?_;refine af.df 0 0 (V:=V1) (av:= .ow 111 (eD wa)) rfl rfl rfl ?_;refine af.to [0,1] [(0,.ow 111 (eD wa)),(1,.d (.v V2))] rfl ?_;refine af.df 1 1 (V:=V2) (av:= .ow 111 (eD wb)) rfl rfl rfl ?_;refine af.to [0,1] [(0,.ow 111 (eD wa)),(1,.ow 111 (eD wb))] rfl ?_;refine af.nil ?_;refine AW.fS tok 1 rfl rfl ?_;refine AW.seq ?_;refine qX 2 rfl ?_;rw[List.length_map,l1];refine qU 1 rfl ?_;refine ab.nil ?_;refine AW.block ?_;refine AW.aD [0,1,19,20] (fun s:Nat×NQ=>[(0,.ow 111 (eD s.2)),(1,.d (ah wb)),(19,.d (dI n)),(20,.d (dI s.1))]) (fun s=>s.2.length=n∧ ∀j,j<n→s.2.getD j 0=if j<s.1 then a.getD j 0+b.getD j 0 else a.getD j 0) (fun s=>n-s.1) (0,wa) rfl ⟨l1,fun j h=>by rw[if_neg (Nat.not_lt_zero _)];exact g1 j h⟩ (fun s hi=>?_)
 · obtain ⟨i,r⟩:=s;obtain ⟨hrl,hi⟩:=hi;simp only[] at hrl hi;show AW _ _ _ _ _ _ _ [(0,.ow 111 (eD r)),(1,.d (ah wb)),(19,.d (dI n)),(20,.d (dI i))];refine qX 1 rfl ?_;refine qI ?_;refine AW.cond rfl (fun h=>?_) (fun h=>?_)
   · have hii:i<n:=by have:=of_decide_eq_true h;omega
     have e1:=kW (r:=r) (i:=i) (by omega);have e2:=kW (r:=wb) (i:=i) (by omega);rw[hi i hii,if_neg (Nat.lt_irrefl _)] at e1;rw[g2 i hii] at e2;have ca:=tA (Qr (a.getD i 0)) (Qr (b.getD i 0)) (iL _ (ha i)) (iL _ (hb i)) hk;rw[bK,bK] at ca;refine AW.skip (AW.seq (AW.block ?_));refine qX 2 rfl ?_;refine ab.nil ?_;refine AW.draw aL 12 (by kernel_rfl) ?_;refine qP 4 rfl ?_;refine ae.fg tok rfl rfl rfl rfl rfl rfl (Int.natCast_nonneg i) (by rw[List.length_map];show i<_;omega) ?_;refine ae.cL tok (Qr (a.getD i 0)).D rfl rfl rfl rfl rfl e1 rfl ?_;refine qP 2 rfl ?_;refine ae.idx tok (Qr (b.getD i 0)).D rfl rfl rfl rfl rfl (Int.natCast_nonneg i) e2 ?_;refine qP 1 rfl ?_;refine ae.call tok rfl rfl rfl rfl rfl ca ?_;refine ae.fg tok rfl rfl rfl rfl rfl rfl (Int.natCast_nonneg i) (by rw[List.length_map];show i<_;omega) ?_;refine ae.nil ?_;refine ab.zU tok (a.getD i 0+b.getD i 0) rfl rfl rfl (by show i<_;omega) ?_;refine ab.nil ?_;refine qT 1 rfl ?_;rw[aA (x:=(i:Int)+1) (by omega) (by omega)];refine qU 1 rfl ?_;refine ab.nil ?_;refine⟨(i+1,r.set i (a.getD i 0+b.getD i 0)),rfl,⟨by rw[List.length_set];exact hrl,fun j h1=>?_⟩,by show n-(i+1)<n-i;omega⟩;show (r.set i (a.getD i 0+b.getD i 0)).getD j 0=if j<i+1 then _ else _
     rw[AD];by_cases e:j=i
     · rw[if_pos ⟨e,by omega⟩,e,if_pos (by omega)]
     · rw[if_neg (fun h=>e h.1),hi j h1];by_cases h2:j<i
       · rw[if_pos h2,if_pos (by omega)]
       · rw[if_neg h2,if_neg (by omega)]
   have hii: ¬i<n:=by have:=of_decide_eq_false h;omega
   obtain rfl:r=aM a b:=An (by rw[hrl,hpl]) (fun j hj=>by rw[mO,hi j (by omega),if_pos (by omega)]);refine AW.exit ?_;refine qX 2 rfl ?_;exact qN rfl
end Lift
namespace Lift
open Go Go.Proofs
theorem vI{R:NQ→NQ→NQ}{rt:List NQ}{a b:NQ}:(jG R rt a b).length≤max a.length b.length:=by
 unfold jG;split
 · exact Nat.zero_le _
 split
 · rename_i h;rw[h];exact Nat.le_refl _
 · rw[dJ];omega
theorem yl{l k:Nat}{R:NQ→NQ→NQ}{rt:List NQ}{a b:NQ}(ha:ak l a)(hb:ak l b)(hrt:cu rt)(hl:l≤rt.length)(sa:aj k a)(sb:aj k b)(sr:eT k rt)
  (hR: ∀l',l=l'+1→ ∀a' b' m,k≤m→ak l' a'→ak l' b'→aj m a'→aj m b'→ak l' (R a' b')∧aj (sT l' m) (R a' b')):ak l (jG R rt a b)∧aj (sT l k) (jG R rt a b):=by
 have hk:=sa.pos;have h2:=bm l k;unfold jG;by_cases h0:a.length=0∨b.length=0
 · rw[if_pos h0];exact⟨bL _,bz (by omega)⟩
 rw[if_neg h0];by_cases h1:max a.length b.length=1
 · rw[if_pos h1];refine⟨fB _ _,gU ?_⟩;have:=A0 (a.getD 0 0) (b.getD 0 0);have:=sa 0;have:=sb 0;omega
 rw[if_neg h1]
 obtain ⟨i,hi,hn⟩: ∃i,i≤l∧max a.length b.length=2^i:=by
  rcases ha with e | ⟨i,hi,e⟩
  · exact absurd (.inl e) h0
  rcases hb with e2 | ⟨k,hk,e2⟩
  · exact absurd (.inr e2) h0
  by_cases h:a.length≤b.length
  · exact⟨k,hk,by rw[Nat.max_eq_right h,e2]⟩
  · exact⟨i,hi,by rw[Nat.max_eq_left (by omega),e]⟩
 have sH:i≠0:=fun e=>h1 (by rw[hn,e]);obtain ⟨j,rfl⟩: ∃j,i=j+1:=⟨i-1,by omega⟩;obtain ⟨l',rfl⟩: ∃l',l=l'+1:=⟨l-1,by omega⟩;have hj:j≤l':=by omega
 have hR:=fun a' b' m h1 h2 h3 h4 h5=>hR l' rfl a' b' m h1 h2 h3 h4 h5;have wa:=bf a (max a.length b.length);have wb:=bf b (max a.length b.length);have sa:=sa.wide (max a.length b.length);have sb:=sb.wide (max a.length b.length);generalize aW a (max a.length b.length)=A at *;generalize aW b (max a.length b.length)=B at *;generalize max a.length b.length=n at *;subst hn;have e0:=ke j;have hlog:(2^(j+1)).log2-1=j:=by rw[Nat.log2_two_pow];omega
 rw[e0,hlog];obtain ⟨e1,e2,e3⟩:=a9 wa;obtain ⟨f1,f2,f3⟩:=a9 wb;rw[e3] at e1 e2;rw[f3] at f1 f2;have hx:ak l' (A.take (2^j)):= .inr ⟨j,hj,e1⟩;have hy:ak l' (A.drop (2^j)):= .inr ⟨j,hj,e2⟩;have hu:ak l' (B.take (2^j)):= .inr ⟨j,hj,f1⟩;have hv:ak l' (B.drop (2^j)):= .inr ⟨j,hj,f2⟩;have hd:ak l' (rt.getD j []):= .inr ⟨j,hj,hrt j (by omega)⟩;have hs0:=bm l' k;have hs1:=bm l' (sT l' k);have r1:=hR _ _ k (Nat.le_refl _) hx hu (sa.take _) (sb.take _);have r2:=hR _ _ k (Nat.le_refl _) hy hv (sa.drop _) (sb.drop _);have r3:=hR _ _ k (Nat.le_refl _) hx hv (sa.take _) (sb.drop _);have r4:=hR _ _ k (Nat.le_refl _) hy hu (sa.drop _) (sb.take _);have r5:=hR _ _ (sT l' k) (by omega) r2.1 hd r2.2 ((sr _).mono (by omega));refine⟨.inr ⟨j+1,by omega,by rw[dJ,Nat.pow_succ];omega⟩,(((r1.2.plus r5.2).mono ?_).join ((r3.2.plus r4.2).mono ?_) _)⟩
 · show _≤sT l' (sT l' k)+sT l' k+1;omega
 · show _≤sT l' (sT l' k)+sT l' k+1;omega
theorem kN(a:NQ){l:Nat}(ha:ak l a):(ai a).length≤a.length:=by
 unfold ai;split
 · exact Nat.zero_le _
 have: ∀i,(gr i a).length≤a.length:=fun i=>by
  induction i with
  | zero =>
    unfold gr;split
    · exact Nat.zero_le _
    · rw[List.length_take];omega
  | succ i ih =>
    unfold gr;split
    · exact ih
    · rw[List.length_take];omega
 exact this _
theorem fN: ∀(l:Nat) {k:Nat} {rt:List NQ} {a b:NQ},ak l a→ak l b→cu rt→l≤rt.length→aj k a→aj k b→eT k rt→ak l (eJ l rt a b)∧aj (sT l k) (eJ l rt a b)
 | 0,k,rt,a,b,ha,hb,hrt,hl,sa,sb,sr=>yl (aO ha sa).1 (aO hb sb).1 hrt hl (aO ha sa).2 (aO hb sb).2 sr (fun l' h=>by omega)
 | l+1,k,rt,a,b,ha,hb,hrt,hl,sa,sb,sr=>yl (aO ha sa).1 (aO hb sb).1 hrt hl (aO ha sa).2 (aO hb sb).2 sr (fun l' e a' b' m hm h1 h2 h3 h4=>by
    obtain rfl:l=l':=by omega
    exact fN l h1 h2 hrt (by omega) h3 h4 (sr.mono hm))
theorem z8: ∀(l:Nat) {rt:List NQ} {a b:NQ},ak l a→ak l b→(eJ l rt a b).length≤max a.length b.length
 | 0,rt,a,b,ha,hb=>by
   have h1:=kN a ha;have h2:=kN b hb;have h3:=vI (R:=fun _ _=>[]) (rt:=rt) (a:=ai a) (b:=ai b);show (jG _ rt _ _).length≤_;omega
 | l+1,rt,a,b,ha,hb=>by
   have h1:=kN a ha;have h2:=kN b hb;have h3:=vI (R:=eJ l rt) (rt:=rt) (a:=ai a) (b:=ai b);show (jG _ rt _ _).length≤_;omega
set_option maxHeartbeats 1600000 in
theorem rh{l k:Nat}{R:NQ→NQ→NQ}{rt:List NQ}{xs:List D}{a b:NQ}(ha:ak l a)(hb:ak l b)(hrt:cu rt)(hl:l≤rt.length)(hl5:l≤5)(hxs: ∀j,j<rt.length→xs[j]?=some (ah (rt.getD j [])))(sa:aj k a)(sb:aj k b)(sr:eT k rt)(hk:sT l k≤17300000000000)
  (hR: ∀l',l=l'+1→ ∀a' b' m,k≤m→ak l' a'→ak l' b'→aj m a'→aj m b'→sT l' m≤17300000000000→Pure Tryz.prog 122 [.ag [.sl 1 xs],ah a',ah b'] (ah (R a' b'))∧(R a' b').length≤max a'.length b'.length∧ak l' (R a' b')∧aj (sT l' m) (R a' b')):
  Pure Tryz.prog 122 [.ag [.sl 1 xs],ah a,ah b] (ah (jG R rt (ai a) (ai b))):=by
 refine qJ 105 Tryz.func122 rfl rfl rfl rfl (by kernel_rfl) (fun B F0 w0=>?_);have hk1:=sa.pos;have h2:=bm l k;have cs1:=c6 a ha hl5;have cs2:=c6 b hb hl5;obtain ⟨ha,sa⟩:=aO ha sa;obtain ⟨hb,sb⟩:=aO hb sb;generalize ai a=s at *;generalize ai b=t at *;have hla:=ha.len (by omega);have hlb:=hb.len (by omega);refine qX 2 rfl ?_;refine qK 1 rfl ?_;refine ab.call tok rfl rfl rfl rfl cs1 ?_;refine qU 1 rfl ?_;refine ab.call tok rfl rfl rfl rfl cs2 ?_;refine qU 2 rfl ?_;refine qK 4 rfl ?_;rw[List.length_map,List.length_map];refine qU 2 rfl ?_;rw[Hq];refine qI ?_;refine qX 2 rfl ?_;rw[List.length_map];refine qU 1 rfl ?_;unfold jG;by_cases h0:s.length=0
 · have h00:s.length=0∨t.length=0:= .inl h0;rw[beq_iff_eq.2 (show (s.length:Int)=0 by omega),if_pos h00];refine qU 5 rfl ?_;refine ab.nil ?_;refine AW.aF rfl ?_;refine qX 1 rfl ?_;exact qN rfl
 rw[beq_eq_false_iff_ne.2 (show (s.length:Int)≠0 by omega)];refine qU 3 rfl ?_;rw[List.length_map];refine qU 1 rfl ?_;by_cases h01:t.length=0
 · have h00:s.length=0∨t.length=0:= .inr h01;rw[beq_iff_eq.2 (show (t.length:Int)=0 by omega),if_pos h00];refine qU 1 rfl ?_;refine ab.nil ?_;refine AW.aF rfl ?_;refine qX 1 rfl ?_;exact qN rfl
 have h00: ¬(s.length=0∨t.length=0):=fun h=>h.elim h0 h01;rw[beq_eq_false_iff_ne.2 (show (t.length:Int)≠0 by omega),if_neg h00];refine qU 1 rfl ?_;refine ab.nil ?_;refine AW.ar rfl ?_;refine AW.skip (AW.seq (AW.seq (AW.region ?_)));obtain ⟨n,hn⟩: ∃n,n=max s.length t.length:=⟨_,rfl⟩;rw[← hn];refine qU 2 rfl ?_;by_cases h1:n=1
 · rw[if_pos h1,beq_iff_eq.2 (show (n:Int)=1 by omega)];have g1:=kW (r:=s) (i:=0) (by omega);have g2:=kW (r:=t) (i:=0) (by omega);have cm:=Af (Qr (s.getD 0 0)) (Qr (t.getD 0 0)) (k:=k) (iL _ (sa 0)) (iL _ (sb 0)) (by omega);rw[bK,bK] at cm;refine ab.nil ?_;refine AW.aF rfl ?_;refine AW.seq ?_;refine AW.draw aL 8 (by kernel_rfl) ?_;refine qP 1 rfl ?_;refine ae.idx tok (Qr (s.getD 0 0)).D rfl rfl rfl rfl rfl (Int.le_refl _) g1 ?_;refine qP 2 rfl ?_;refine ae.idx tok (Qr (t.getD 0 0)).D rfl rfl rfl rfl rfl (Int.le_refl _) g2 ?_;refine qP 1 rfl ?_;refine ae.call tok rfl rfl rfl rfl rfl cm ?_;refine ae.fA tok rfl rfl rfl rfl rfl rfl ?_;refine ae.nil ?_;refine qU 1 rfl ?_;exact qN rfl
 rw[if_neg h1,beq_eq_false_iff_ne.2 (show (n:Int)≠1 by omega)];refine ab.nil ?_;refine AW.ar rfl ?_;refine AW.skip ?_
 obtain ⟨i,hi,hni⟩: ∃i,i≤l∧n=2^i:=by
  rcases ha with e | ⟨i,hi,e⟩
  · exact absurd e h0
  rcases hb with e2 | ⟨k,hk,e2⟩
  · exact absurd e2 h01
  by_cases h:s.length≤t.length
  · exact⟨k,hk,by rw[hn,Nat.max_eq_right h,e2]⟩
  · exact⟨i,hi,by rw[hn,Nat.max_eq_left (by omega),e]⟩
 have hsn:s.length≤n:=by omega
 have htn:t.length≤n:=by omega
 have hn9:n≤1024:=by omega
 clear hn;have sH:i≠0:=fun e=>h1 (by rw[hni,e]);obtain ⟨j,rfl⟩: ∃j,i=j+1:=⟨i-1,by omega⟩;obtain ⟨l',rfl⟩: ∃l',l=l'+1:=⟨l-1,by omega⟩;have hj:j≤l':=by omega
 have hR:=fun a' b' m h1 h2 h3 h4 h5=>hR l' rfl a' b' m h1 h2 h3 h4 h5;have hs0:=bm l' k;have hs1:=bm l' (sT l' k);have hk:sT l' (sT l' k)+sT l' k+1≤17300000000000:=hk;have cw1:=kP s n hsn (by omega);have cw2:=kP t n htn (by omega);have cp:=fr hni (by omega);have wa:=bf s n;have wb:=bf t n;have sa:=sa.wide n;have sb:=sb.wide n;generalize aW s n=A at *;generalize aW t n=B at *;have e0:=ke j;have hlog:n.log2-1=j:=by rw[hni,Nat.log2_two_pow];omega
 obtain ⟨e1,e2,e3⟩:=a9 (wa.trans hni);obtain ⟨f1,f2,f3⟩:=a9 (wb.trans hni);rw[hlog];obtain ⟨h,hh⟩: ∃h,h=n / 2:=⟨_,rfl⟩
 have hnh:n=h+h:=by
  have:2^(j+1)=2^j*2:=Nat.pow_succ ..;omega
 have hh2:h=2^j:=by rw[hh,hni,e0]
 rw[wa,← hh] at e1 e2;rw[wb,← hh] at f1 f2;rw[← hh];have hx:ak l' (A.take h):= .inr ⟨j,hj,e1⟩;have hy:ak l' (A.drop h):= .inr ⟨j,hj,e2⟩;have hu:ak l' (B.take h):= .inr ⟨j,hj,f1⟩;have hv:ak l' (B.drop h):= .inr ⟨j,hj,f2⟩;have hdl:=hrt j (by omega);have hd:ak l' (rt.getD j []):= .inr ⟨j,hj,hdl⟩;have r1:=hR _ _ k (Nat.le_refl _) hx hu (sa.take _) (sb.take _) (by omega);have r2:=hR _ _ k (Nat.le_refl _) hy hv (sa.drop _) (sb.drop _) (by omega);have r3:=hR _ _ k (Nat.le_refl _) hx hv (sa.take _) (sb.drop _) (by omega);have r4:=hR _ _ k (Nat.le_refl _) hy hu (sa.drop _) (sb.take _) (by omega);have r5:=hR _ _ (sT l' k) (by omega) r2.2.2.1 hd r2.2.2.2 ((sr _).mono (by omega)) (by omega);have n1:(R (A.take h) (B.take h)).length≤h:=Nat.le_trans r1.2.1 (Nat.max_le.2 ⟨by omega,by omega⟩);have n2:(R (A.drop h) (B.drop h)).length≤h:=Nat.le_trans r2.2.1 (Nat.max_le.2 ⟨by omega,by omega⟩);have n3:(R (A.take h) (B.drop h)).length≤h:=Nat.le_trans r3.2.1 (Nat.max_le.2 ⟨by omega,by omega⟩);have n4:(R (A.drop h) (B.take h)).length≤h:=Nat.le_trans r4.2.1 (Nat.max_le.2 ⟨by omega,by omega⟩);have n5:(R (R (A.drop h) (B.drop h)) (rt.getD j [])).length≤h:=Nat.le_trans r5.2.1 (Nat.max_le.2 ⟨n2,by omega⟩);have r1:=And.intro r1.1 r1.2.2;have r2:=And.intro r2.1 r2.2.2;have r3:=And.intro r3.1 r3.2.2;have r4:=And.intro r4.1 r4.2.2;have r5:=And.intro r5.1 r5.2.2;have p1:=fP (R (A.take h) (B.take h)) (R (R (A.drop h) (B.drop h)) (rt.getD j [])) (k:=sT l' (sT l' k)) (r1.2.2.mono (by omega)) r5.2.2 (by omega) (by omega) (by omega);have p2:=fP (R (A.take h) (B.drop h)) (R (A.drop h) (B.take h)) (k:=sT l' k) r3.2.2 r4.2.2 (by omega) (by omega) (by omega);have q1:(aM (R (A.take h) (B.take h)) (R (R (A.drop h) (B.drop h)) (rt.getD j []))).length≤h:=by rw[jf];exact Nat.max_le.2 ⟨n1,n5⟩
 have q2:(aM (R (A.take h) (B.drop h)) (R (A.drop h) (B.take h))).length≤h:=by rw[jf];exact Nat.max_le.2 ⟨n3,n4⟩
 have cw3:=jI (aM (R (A.take h) (B.take h)) (R (R (A.drop h) (B.drop h)) (rt.getD j []))) h q1 (by omega);have cw4:=jI (aM (R (A.take h) (B.drop h)) (R (A.drop h) (B.take h))) h q2 (by omega);unfold c';refine qX 2 rfl ?_;refine ab.call tok rfl rfl rfl rfl cw1 ?_;refine qU 2 rfl ?_;refine ab.call tok rfl rfl rfl rfl cw2 ?_;refine qU 2 rfl ?_;refine qK 1 rfl ?_;refine ab.call tok rfl rfl rfl rfl cp ?_;refine qU 5 rfl ?_;refine qI ?_;refine AW.draw aL 19 (by kernel_rfl) ?_;refine qP 2 rfl ?_;refine ae.div tok rfl rfl rfl rfl rfl (by decide) ?_;rw[fV _ (by omega),← hh];refine ae.fp tok (a:=A) (A.take h) rfl rfl rfl rfl rfl trivial (Int.natCast_nonneg h) (Nat.zero_le _) (show h≤A.length by omega) rfl ?_;refine qP 2 rfl ?_;refine ae.div tok rfl rfl rfl rfl rfl (by decide) ?_;rw[fV _ (by omega),← hh];refine ae.fp tok (a:=A) (A.drop h) rfl rfl rfl rfl rfl (Int.natCast_nonneg h) trivial (show h≤A.length by omega) (Nat.le_refl _) (by show (A.take A.length).drop h=_;rw[List.take_length]) ?_;refine qP 2 rfl ?_;refine ae.div tok rfl rfl rfl rfl rfl (by decide) ?_;rw[fV _ (by omega),← hh];refine ae.fp tok (a:=B) (B.take h) rfl rfl rfl rfl rfl trivial (Int.natCast_nonneg h) (Nat.zero_le _) (show h≤B.length by omega) rfl ?_;refine qP 2 rfl ?_;refine ae.div tok rfl rfl rfl rfl rfl (by decide) ?_;rw[fV _ (by omega),← hh];refine ae.fp tok (a:=B) (B.drop h) rfl rfl rfl rfl rfl (Int.natCast_nonneg h) trivial (show h≤B.length by omega) (Nat.le_refl _) (by show (B.take B.length).drop h=_;rw[List.take_length]) ?_;refine qP 3 rfl ?_;refine ae.nil ?_;refine qU 1 rfl ?_;refine ab.nil ?_;refine AW.bn [3,7,8,10,11,12,13] ?_;show AW _ _ _ _ _ _ _ [(3,.bx [.sl 1 xs]),(7,.d (dI n)),(8,.d (dI (j+1:Nat))),(10,.d (ah (A.take h))),(11,.d (ah (A.drop h))),(12,.d (ah (B.take h))),(13,.d (ah (B.drop h)))];refine AW.seq ?_;refine AW.draw aL 17 (by kernel_rfl) ?_;refine qP 3 rfl ?_;refine ae.call tok rfl rfl rfl rfl rfl r1.1 ?_;refine qP 4 rfl ?_;refine ae.call tok rfl rfl rfl rfl rfl r2.1 ?_;refine qP 4 rfl ?_;rw[aA (x:=((j+1:Nat):Int) -1) (by omega) (by omega),show ((j+1:Nat):Int) -1=(j:Int) by omega];refine ae.idx tok (ah (rt.getD j [])) rfl rfl rfl rfl rfl (Int.natCast_nonneg j) (hxs j (by omega)) ?_;refine qP 1 rfl ?_;refine ae.call tok rfl rfl rfl rfl rfl r5.1 ?_;refine ae.call tok rfl rfl rfl rfl rfl p1 ?_;refine ae.nil ?_;refine qU 1 rfl ?_;refine qI ?_;refine AW.draw aL 9 (by kernel_rfl) ?_;refine qP 3 rfl ?_;refine ae.call tok rfl rfl rfl rfl rfl r3.1 ?_;refine qP 3 rfl ?_;refine ae.call tok rfl rfl rfl rfl rfl r4.1 ?_;refine ae.call tok rfl rfl rfl rfl rfl p2 ?_;refine ae.nil ?_;refine qU 1 rfl ?_;refine ab.nil ?_;have l1:=bf (aM (R (A.take h) (B.take h)) (R (R (A.drop h) (B.drop h)) (rt.getD j []))) h;have l2:=bf (aM (R (A.take h) (B.drop h)) (R (A.drop h) (B.take h))) h;generalize aM (R (A.take h) (B.take h)) (R (R (A.drop h) (B.drop h)) (rt.getD j []))=P1 at *;generalize aM (R (A.take h) (B.drop h)) (R (A.drop h) (B.take h))=P2 at *;refine AW.bn [7,14,15] ?_;show AW _ _ _ _ _ _ _ [(7,.d (dI n)),(14,.d (ah P1)),(15,.d (ah P2))];generalize aW P1 h=wa at *;generalize aW P2 h=wb at *;refine AW.seq ?_;refine AZ.aw ?_;refine AZ.region ?_;refine af.cut 3 rfl (fun B1 F1 w1=>?_);refine qU 2 rfl ?_;refine ab.div tok rfl rfl rfl rfl (by decide) ?_;rw[fV _ (by omega),← hh];refine ab.nil ⟨rfl,?_⟩;refine af.ju tok [] rfl rfl rfl rfl rfl List.nodup_nil rfl cw3 (fun _ _ _=>Nat.zero_le _) (fun res R1 hP=>?_);obtain ⟨V1,rfl,rfl⟩:=hP;refine af.cut 3 rfl (fun B1 F1 w1=>?_);refine qU 2 rfl ?_;refine ab.div tok rfl rfl rfl rfl (by decide) ?_;rw[fV _ (by omega),← hh];refine ab.nil ⟨rfl,?_⟩;refine af.ju tok [] rfl rfl rfl rfl rfl List.nodup_nil rfl cw4 (fun _ _ _=>Nat.zero_le _) (fun res R1 hP=>?_);obtain ⟨V2,rfl,rfl⟩:=hP;refine af.to [99,103] [(99,.d (.v V1)),(103,.d (.v V2))] rfl ?_;refine af.df 99 0 (V:=V1) (av:= .ow 111 (eD wa)) rfl rfl rfl ?_;refine af.to [99,103] [(99,.ow 111 (eD wa)),(103,.d (.v V2))] rfl ?_;refine af.df 103 1 (V:=V2) (av:= .ow 111 (eD wb)) rfl rfl rfl ?_;refine af.to [99,103] [(99,.ow 111 (eD wa)),(103,.ow 111 (eD wb))] rfl ?_;refine af.cut 2 rfl (fun B1 F1 w1=>?_);refine ab.fS tok 103 rfl rfl ?_;refine ab.gK tok rfl rfl rfl rfl rfl rfl (by rw[List.length_map,List.length_map,l1,l2];show (_+_)*56≤_;omega) (by rw[List.length_map,List.length_map,l1,l2];omega) ?_;refine qU 1 rfl ?_;refine ab.nil ⟨rfl,?_⟩;refine af.nil ?_;rw[show eD wa++eD wb=eD (wa++wb) from List.map_append.symm];exact AW.ret rfl
theorem fc: ∀(l:Nat) {k:Nat} {rt:List NQ} {xs:List D} {a b:NQ},ak l a→ak l b→cu rt→l≤rt.length→l≤5→(∀j,j<rt.length→xs[j]?=some (ah (rt.getD j [])))→aj k a→aj k b→eT k rt→sT l k≤17300000000000→Pure Tryz.prog 122 [.ag [.sl 1 xs],ah a,ah b] (ah (eJ l rt a b))
 | 0,k,rt,xs,a,b,ha,hb,hrt,hl,hl5,hxs,sa,sb,sr,hk=>rh ha hb hrt hl hl5 hxs sa sb sr hk (fun l' h=>by omega)
 | l+1,k,rt,xs,a,b,ha,hb,hrt,hl,hl5,hxs,sa,sb,sr,hk=>rh ha hb hrt hl hl5 hxs sa sb sr hk (fun l' e a' b' m hm h1 h2 h3 h4 h5=>by
    obtain rfl:l=l':=by omega
    exact⟨fc l h1 h2 hrt (by omega) (by omega) hxs h3 h4 (sr.mono hm) h5,z8 l h1 h2,fN l h1 h2 hrt (by omega) h3 h4 (sr.mono hm)⟩)
end Lift
namespace Lift
open Go Go.Proofs
theorem yk{l k j:Nat}{rt:List NQ}{a:NQ}(hj:j≤l)(ha:a.length=2^(j+1))(hrt:cu rt)(hl:l<rt.length)(sa:aj k a)(sr:eT k rt):ak l (eU l rt a)∧aj (sT (l+1) k) (eU l rt a):=by
 obtain ⟨e1,e2,e3⟩:=a9 ha;have hx:ak l (a.take (a.length / 2)):= .inr ⟨j,hj,e1⟩;have hy:ak l (a.drop (a.length / 2)):= .inr ⟨j,hj,e2⟩;have hlog:a.length.log2-1=j:=by rw[ha,Nat.log2_two_pow];omega
 have hd:ak l (rt.getD j []):= .inr ⟨j,hj,hrt j (by omega)⟩;have h0:=bm l k;have h1:=bm l (sT l k);have r1:=fN l hx hx hrt (by omega) (sa.take _) (sa.take _) sr;have r2:=fN l hy hy hrt (by omega) (sa.drop _) (sa.drop _) sr;have r3:=fN l r2.1 hd hrt (by omega) r2.2 ((sr _).mono (by omega)) (sr.mono (by omega));unfold eU;rw[hlog];refine⟨r1.1.plus r3.1.minus,(r1.2.plus r3.2.minus).mono ?_⟩;show _≤sT l (sT l k)+sT l k+1;omega
theorem rq{l k j:Nat}{rt:List NQ}{xs:List D}{a:NQ}(hj:j≤l)(ha:a.length=2^(j+1))(hrt:cu rt)(hl:l<rt.length)(hl5:l+1≤5)(hxs: ∀j,j<rt.length→xs[j]?=some (ah (rt.getD j [])))(sa:aj k a)(sr:eT k rt)(hk:sT (l+1) k≤17300000000000):
  Pure Tryz.prog 138 [.ag [.sl 1 xs],ah a,dI a.length] (ah (eU l rt a)):=by
 refine qJ 45 Tryz.func138 rfl rfl rfl rfl (by kernel_rfl) (fun B F0 w0=>?_);obtain ⟨e1,e2,e3⟩:=a9 ha;have hx:ak l (a.take (a.length / 2)):= .inr ⟨j,hj,e1⟩;have hy:ak l (a.drop (a.length / 2)):= .inr ⟨j,hj,e2⟩;have hlog:a.length.log2-1=j:=by rw[ha,Nat.log2_two_pow];omega
 have hd:ak l (rt.getD j []):= .inr ⟨j,hj,hrt j (by omega)⟩;have h0:=bm l k;have h1:=bm l (sT l k);have hk:sT l (sT l k)+sT l k+1≤17300000000000:=hk;have hp:2^(j+1)≤2^10:=Nat.pow_le_pow_right (by decide) (by omega);have r1:=fN l hx hx hrt (by omega) (sa.take _) (sa.take _) sr;have r2:=fN l hy hy hrt (by omega) (sa.drop _) (sa.drop _) sr;have r3:=fN l r2.1 hd hrt (by omega) r2.2 ((sr _).mono (by omega)) (sr.mono (by omega));have c1:=fc l hx hx hrt (by omega) (by omega) hxs (sa.take _) (sa.take _) sr (by omega);have c2:=fc l hy hy hrt (by omega) (by omega) hxs (sa.drop _) (sa.drop _) sr (by omega);have c3:=fc l r2.1 hd hrt (by omega) (by omega) hxs r2.2 ((sr j).mono (by omega)) (sr.mono (by omega)) (by omega);have n1:=r1.1.len (by omega);have n3:=r3.1.len (by omega);have c4:=gW _ r3.2 (by omega) (by omega);have c5:=fP _ _ (k:=sT l (sT l k)) (r1.2.mono (by omega)) r3.2.minus (by omega) (by omega) (by rw[a7];omega);have cw:=kP a a.length (Nat.le_refl _) (by omega);rw[jj] at cw;have cp:=fr ha (by omega);unfold eU;rw[hlog];obtain ⟨n,hn⟩: ∃n,n=a.length / 2:=⟨_,rfl⟩;rw[← hn] at e1 e2 e3 hx hy c1 c2 c3 c4 c5 ⊢;refine qX 2 rfl ?_;refine qK 2 rfl ?_;refine ab.call tok rfl rfl rfl rfl cw ?_;refine qU 1 rfl ?_;refine qK 1 rfl ?_;refine ab.call tok rfl rfl rfl rfl cp ?_;refine qU 5 rfl ?_;refine qI ?_;refine AW.draw aL 9 (by kernel_rfl) ?_;refine qP 2 rfl ?_;refine ae.div tok rfl rfl rfl rfl rfl (by decide) ?_;rw[fV _ (by omega),← hn];refine ae.fp tok (a:=a) (a.take n) rfl rfl rfl rfl rfl trivial (Int.natCast_nonneg n) (Nat.zero_le _) (show n≤a.length by omega) rfl ?_;refine qP 2 rfl ?_;refine ae.div tok rfl rfl rfl rfl rfl (by decide) ?_;rw[fV _ (by omega),← hn];refine ae.fp tok (a:=a) (a.drop n) rfl rfl rfl rfl rfl (Int.natCast_nonneg n) trivial (show n≤a.length by omega) (Nat.le_refl _) (by show (a.take a.length).drop n=_;rw[List.take_length]) ?_;refine qP 1 rfl ?_;refine ae.nil ?_;refine qU 1 rfl ?_;refine qI ?_;refine AW.draw aL 18 (by kernel_rfl) ?_;refine qP 3 rfl ?_;refine ae.call tok rfl rfl rfl rfl rfl c1 ?_;refine qP 4 rfl ?_;refine ae.call tok rfl rfl rfl rfl rfl c2 ?_;refine qP 4 rfl ?_;rw[aA (x:=((j+1:Nat):Int) -1) (by omega) (by omega),show ((j+1:Nat):Int) -1=(j:Int) by omega];refine ae.idx tok (ah (rt.getD j [])) rfl rfl rfl rfl rfl (Int.natCast_nonneg j) (hxs j (by omega)) ?_;refine qP 1 rfl ?_;refine ae.call tok rfl rfl rfl rfl rfl c3 ?_;refine ae.call tok rfl rfl rfl rfl rfl c4 ?_;refine ae.call tok rfl rfl rfl rfl rfl c5 ?_;refine ae.nil ?_;refine qU 1 rfl ?_;exact qN rfl
theorem vH{R:NQ→Int}{N:NQ→NQ}{rt:List NQ}{a:NQ}(hR: ∀b,vv (R b)):vv (nk R N rt a):=by
 unfold nk;split
 · exact .inl rfl
 split
 · exact fL _
 split
 · exact hR _
 split
 · exact kK (hR _) (hR _)
 · exact kK (hR _) (hR _)
theorem td: ∀(l:Nat) (rt:List NQ) (a:NQ),vv (lT l rt a)
 | 0,rt,a=>vH (fun _=> .inl rfl)
 | l+1,rt,a=>vH (fun b=>td l rt b)
set_option maxHeartbeats 1600000 in
theorem tc{l k:Nat}{R:NQ→Int}{N:NQ→NQ}{rt:List NQ}{xs:List D}{a:NQ}(ha:ak l a)(hl5:l≤5)(hrt:cu rt)(hl:l≤rt.length)(hxs: ∀j,j<rt.length→xs[j]?=some (ah (rt.getD j [])))(sa:aj k a)(sr:eT k rt)(hok:mQ l k)
  (hR: ∀l',l=l'+1→ ∀b m,ak l' b→aj m b→k≤m→mQ l' m→Pure Tryz.prog 100 [.ag [.sl 1 xs],ah b] (dI (R b))) (hT: ∀b,vv (R b))
  (hN: ∀l',l=l'+1→ ∀b j,j≤l'→b.length=2^(j+1)→aj k b→Pure Tryz.prog 138 [.ag [.sl 1 xs],ah b,dI b.length] (ah (N b))∧ak l' (N b)∧aj (sT l k) (N b)):
  Pure Tryz.prog 100 [.ag [.sl 1 xs],ah a] (dI (nk R N rt (ai a))):=by
 refine qJ 70 Tryz.func100 rfl rfl rfl rfl (by kernel_rfl) (fun B F0 w0=>?_);have hk:=nV hok;have cs:=c6 a ha hl5;obtain ⟨ha,sa⟩:=aO ha sa;generalize ai a=b at cs ha sa ⊢;have hlb:=ha.len (by omega);unfold nk;refine qX 2 rfl ?_;refine qK 1 rfl ?_;refine ab.call tok rfl rfl rfl rfl cs ?_;refine qU 1 rfl ?_;refine qI ?_;refine qX 2 rfl ?_;rw[List.length_map];refine qU 1 rfl ?_;refine ab.nil ?_;by_cases h0:b.length=0
 · rw[if_pos h0,h0];refine AW.aF rfl ?_;refine qX 1 rfl ?_;exact qN rfl
 rw[if_neg h0,beq_eq_false_iff_ne.2 (show (b.length:Int)≠0 by omega)];refine AW.ar rfl ?_;refine AW.skip ?_;refine qX 2 rfl ?_;rw[List.length_map];refine qU 1 rfl ?_;refine qI ?_;refine qX 2 rfl ?_;refine ab.nil ?_;by_cases h1:b.length=1
 · have g:=kW (r:=b) (i:=0) (by omega);have cq:=rr (Qr (b.getD 0 0)) (iL _ (sa 0)) (by omega);rw[bK,wG] at cq;rw[if_pos h1,h1];refine AW.aF rfl ?_;refine qX 1 rfl ?_;refine ab.idx tok (Qr (b.getD 0 0)).D rfl rfl rfl rfl (Int.le_refl _) g ?_;refine qU 1 rfl ?_;refine ab.call tok rfl rfl rfl rfl cq ?_;refine qU 1 rfl ?_;exact qN rfl
 rw[if_neg h1,beq_eq_false_iff_ne.2 (show (b.length:Int)≠1 by omega)];refine AW.ar rfl ?_;refine AW.skip ?_
 obtain ⟨i,hi,hla2⟩: ∃i,i≤l∧b.length=2^i:=by
  rcases ha with e | e
  · omega
  · exact e
 have sH:i≠0:=fun e=>h1 (by rw[hla2,e]);obtain ⟨j,rfl⟩: ∃j,i=j+1:=⟨i-1,by omega⟩;obtain ⟨l',rfl⟩: ∃l',l=l'+1:=⟨l-1,by omega⟩;have hj:j≤l':=by omega
 have hN:=hN l' rfl b j hj hla2 sa;have hR:=fun b m h1 h2 h3 h4=>hR l' rfl b m h1 h2 h3 h4;obtain ⟨e1,e2,e3⟩:=a9 hla2;have hx:ak l' (b.take (b.length / 2)):= .inr ⟨j,hj,e1⟩;have hy:ak l' (b.drop (b.length / 2)):= .inr ⟨j,hj,e2⟩;have hlog:b.length.log2-1=j:=by rw[hla2,Nat.log2_two_pow];omega
 have hd:ak l' (rt.getD j []):= .inr ⟨j,hj,hrt j (by omega)⟩;have hk2:=bm (l'+1) k;have r1:=hR _ k hx (sa.take _) (Nat.le_refl _) (jn hok);have r2:=hR _ k hy (sa.drop _) (Nat.le_refl _) (jn hok);have r3:=hR _ k hd (sr j) (Nat.le_refl _) (jn hok);have r4:=hR _ _ hN.2.1 hN.2.2 (by omega) hok.2;have t1:=hT (b.take (b.length / 2));have t2:=kK (hT (b.drop (b.length / 2))) (hT (rt.getD j []));have t4:=kK t1 (hT (N b));have cn:=hN.1;have cp:=fr hla2 (by omega);rw[hlog];obtain ⟨n,hn⟩: ∃n,n=b.length / 2:=⟨_,rfl⟩;rw[← hn] at e1 e2 e3 hx hy r1 r2 t1 t2 t4 ⊢;generalize R (b.take n)=x at r1 t1 t4 ⊢;generalize R (b.drop n)=y at r2 t2 ⊢;generalize R (rt.getD j [])=z at r3 t2 ⊢;generalize R (N b)=u at r4 t4 ⊢;refine qX 1 rfl ?_;refine ab.call tok rfl rfl rfl rfl cp ?_;refine qU 5 rfl ?_;refine qK 4 rfl ?_;rw[aA (x:=((j+1:Nat):Int) -1) (by omega) (by omega),show ((j+1:Nat):Int) -1=(j:Int) by omega];refine ab.idx tok (ah (rt.getD j [])) rfl rfl rfl rfl (Int.natCast_nonneg j) (hxs j (by omega)) ?_;refine qU 2 rfl ?_;refine qI ?_;refine AW.draw aL 17 (by kernel_rfl) ?_;refine qP 3 rfl ?_;refine ae.div tok rfl rfl rfl rfl rfl (by decide) ?_;rw[fV _ (by omega),← hn];refine ae.fp tok (a:=b) (b.take n) rfl rfl rfl rfl rfl trivial (Int.natCast_nonneg n) (Nat.zero_le _) (show n≤b.length by omega) rfl ?_;refine ae.call tok rfl rfl rfl rfl rfl r1 ?_;refine qP 3 rfl ?_;refine ae.div tok rfl rfl rfl rfl rfl (by decide) ?_;rw[fV _ (by omega),← hn];refine ae.fp tok (a:=b) (b.drop n) rfl rfl rfl rfl rfl (Int.natCast_nonneg n) trivial (show n≤b.length by omega) (Nat.le_refl _) (by show (b.take b.length).drop n=_;rw[List.take_length]) ?_;refine ae.call tok rfl rfl rfl rfl rfl r2 ?_;refine qP 2 rfl ?_;refine ae.call tok rfl rfl rfl rfl rfl r3 ?_;refine qP 1 rfl ?_;rw[aA (x:=y*z) (by unfold vv at t2;omega) (by unfold vv at t2;omega)];refine qP 1 rfl ?_;refine ae.nil ?_;refine qU 1 rfl ?_;refine ab.nil ?_;refine AW.bn [1,2,5,9,10] ?_;show AW _ _ _ _ _ _ _ [(1,.d (ah b)),(2,.bx [.sl 1 xs]),(5,.d (dI b.length)),(9,.d (.v (.int .i64 x))),(10,.d (.v (.int .i64 (y*z))))];generalize y*z=yz at t2 ⊢;refine AW.seq ?_;refine qX 3 rfl ?_;by_cases hxy:x=yz
 · have hor:x=yz∨yz=0:= .inl hxy;rw[if_pos hor,beq_iff_eq.2 hxy];refine qU 4 rfl ?_;refine ab.nil ?_;refine AW.aF rfl ?_;refine qX 2 rfl ?_;exact qN rfl
 rw[beq_eq_false_iff_ne.2 hxy];refine qU 3 rfl ?_;by_cases hy0:yz=0
 · have hor:x=yz∨yz=0:= .inr hy0;rw[if_pos hor,beq_iff_eq.2 hy0];refine qU 1 rfl ?_;refine ab.nil ?_;refine AW.aF rfl ?_;refine qX 2 rfl ?_;exact qN rfl
 have hor: ¬(x=yz∨yz=0):=fun h=>h.elim hxy hy0;rw[if_neg hor,beq_eq_false_iff_ne.2 hy0];refine qU 1 rfl ?_;refine ab.nil ?_;refine AW.ar rfl ?_;refine AW.skip (AW.seq ?_);refine qX 2 rfl ?_;refine ab.nil ?_;by_cases hx0:x=0
 · rw[if_pos hx0,beq_iff_eq.2 hx0];refine AW.aF rfl ?_;refine qX 2 rfl ?_;exact qN rfl
 rw[if_neg hx0,beq_eq_false_iff_ne.2 hx0];refine AW.ar rfl ?_;refine AW.skip (AW.seq ?_);refine AW.draw aL 8 (by kernel_rfl) ?_;refine qP 5 rfl ?_;refine ae.call tok rfl rfl rfl rfl rfl cn ?_;refine ae.call tok rfl rfl rfl rfl rfl r4 ?_;refine qP 1 rfl ?_;rw[aA (x:=x*u) (by unfold vv at t4;omega) (by unfold vv at t4;omega)];refine ae.nil ?_;refine qU 1 rfl ?_;exact qN rfl
theorem fO: ∀(l:Nat) {k:Nat} {rt:List NQ} {xs:List D} {a:NQ},ak l a→l≤5→cu rt→l≤rt.length→(∀j,j<rt.length→xs[j]?=some (ah (rt.getD j [])))→aj k a→eT k rt→mQ l k→Pure Tryz.prog 100 [.ag [.sl 1 xs],ah a] (dI (lT l rt a))
 | 0,k,rt,xs,a,ha,hl5,hrt,hl,hxs,sa,sr,hok=>tc ha hl5 hrt hl hxs sa sr hok (fun l' h=>by omega) (fun _=> .inl rfl) (fun l' h=>by omega)
 | l+1,k,rt,xs,a,ha,hl5,hrt,hl,hxs,sa,sr,hok=>tc ha hl5 hrt hl hxs sa sr hok (fun l' e b m h1 h2 h3 h4=>by
    obtain rfl:l=l':=by omega
    exact fO l h1 (by omega) hrt (by omega) hxs h2 (sr.mono h3) h4) (td l rt) (fun l' e b j h1 h2 h3=>by
    obtain rfl:l=l':=by omega
    exact⟨rq h1 h2 hrt (by omega) (by omega) hxs h3 sr hok.1,yk h1 h2 hrt (by omega) h3 sr⟩)
end Lift
namespace Lift
open Go Go.Proofs
theorem Hg{v:List NQ}(ro:cu v)(ps: ∀k,k<v.length→ ¬dG k (v.take k) (v.getD k [])<0):mE v:=fun j hj=>by
 have h:=ps j hj
 have e: ∀i,i<j→(v.take j).getD i []=v.getD i []:=fun i hi=>by
  rw[List.getD_eq_getElem?_getD,List.getElem?_take_of_lt hi,List.getD_eq_getElem?_getD]
 have ro2:cu (v.take j):=fun i hi=>by
  rw[List.length_take] at hi;rw[e i (by omega)];exact ro i (by omega)
 have lt:ak j (v.getD j []):= .inr ⟨j,Nat.le_refl _,ro j hj⟩;rw[dO j lt ro2 (by rw[List.length_take];omega)] at h
 have key: ∀(l:Nat) (a:Cf),l≤j→aT (v.take j) l a=aT v l a∧ ∀b:Cf,mulC (v.take j) l a b=mulC v l a b:=by
  intro l
  induction l with
  | zero=>exact fun a _=>⟨rfl,fun b=>rfl⟩
  | succ l ih =>
    intro a hl;have hm: ∀x y:Cf,mulC (v.take j) l x y=mulC v l x y:=fun x y=>(ih x (by omega)).2 y;have hs: ∀x:Cf,aT (v.take j) l x=aT v l x:=fun x=>(ih x (by omega)).1;refine⟨?_,fun b=>?_⟩
    · unfold aT bE;simp only[hm,hs,e l (by omega)]
    · funext i;show (if i<2^l then mulC (v.take j) l a b i+mulC (v.take j) l (mulC (v.take j) l (bG l a) (bG l b)) (cf ((v.take j).getD l [])) i else mulC (v.take j) l a (bG l b) (i-2^l)+mulC (v.take j) l (bG l a) b (i-2^l))=_;simp only[hm,e l (by omega)];rfl
 rw[(key j _ (Nat.le_refl _)).1] at h;omega
theorem Dw{rt:List (List RD)}{i:Nat}(hi:i≤rt.length)(h: ∀j,j<i→uQ rt j=0):mE ((rt.take i).map bp):=Hg (kH hi h) (fun k hk=>by
 rw[fo hi] at hk;have h1:=(gv (h k hk)).2.2;rw[oB hk,← List.map_take,List.take_take,Nat.min_eq_left (by omega)]
 exact h1)
theorem C9{rt:List (List RD)}{i:Nat}(hi:i≤rt.length)(h: ∀j,j<i→uQ rt j=0){a:NQ}(ha:ak i a):lT i ((rt.take i).map bp) a=dG i ((rt.take i).map bp) a:=by
 rw[fq i ha (kH hi h) (Dw hi h) (by rw[fo hi];exact Nat.le_refl _),dO i ha (kH hi h) (by rw[fo hi];exact Nat.le_refl _)]
theorem Di{rt:List (List RD)}{k m:Nat}(hw: ∀i,i<k→wN m (rt.getD i []))(hk:k≤rt.length)(h: ∀j,j<k→jL (rt.getD j [])=true): ∀j,j<((rt.take k).map bp).length→(rt.map dn)[j]?=some (ah (((rt.take k).map bp).getD j [])):=fun j hj=>by
 rw[fo hk] at hj;have hj2:j<rt.length:=by omega
 rw[oB hj,← kg (hw j hj) (h j hj)];simp[hj2]
theorem oR(rt:List (List RD)){m:Nat}(hw: ∀i,i<rt.length→(rt.getD i []).length=2^i→wN m (rt.getD i []))(h1:1≤m)(hl:rt.length≤1000000)(hll: ∀i,i<rt.length→(rt.getD i []).length≤4398046511104)(hok:rt.length≤5→mQ rt.length m):Pure Tryz.prog 56 [TrD rt] (dI (de rt)):=by
 refine qJ 34 Tryz.func56 rfl rfl rfl rfl (by kernel_rfl) (fun B F0 w0=>?_);unfold de;obtain ⟨E,hE⟩: ∃E,fE (uQ rt) (rt.length-0) 0=E:=⟨_,rfl⟩;rw[hE];refine qX 2 rfl ?_;refine qI ?_;refine qX 3 rfl ?_;rw[List.length_map];refine qU 1 rfl ?_;refine ab.nil ?_;by_cases h5:5<rt.length
 · rw[if_pos h5,decide_eq_true (show (5:Int)<(rt.length:Int) by omega)];refine AW.aF rfl ?_;refine qX 1 rfl ?_;exact qN rfl
 rw[if_neg h5,decide_eq_false (show ¬(5:Int)<(rt.length:Int) by omega)];have hok:=hok (by omega);have hm7:=nV hok;refine AW.ar rfl ?_;refine AW.skip (AW.seq ?_);refine qX 3 rfl ?_;rw[List.length_map];refine qU 1 rfl ?_;refine ab.nil ?_;refine AW.block ?_;refine AW.aD [1,11,12,13] (fun i:Nat=>[(1,.bx [.sl 1 (rt.map dn)]),(11,.d (.sl 1 (rt.map dn))),(12,.d (dI rt.length)),(13,.d (dI i))]) (fun i=>i≤rt.length∧fE (uQ rt) (rt.length-i) i=E∧ ∀j,j<i→uQ rt j=0) (fun i=>rt.length-i) 0 rfl ⟨Nat.zero_le _,hE,fun j hj=>by omega⟩ (fun i ⟨hi,hiE,hall⟩=>?_);refine qX 1 rfl ?_;refine qI ?_;refine AW.cond rfl (fun h=>?_) (fun h=>?_);rotate_left
 · have hii: ¬i<rt.length:=by have:=of_decide_eq_false h;omega
   rw[jV hii] at hiE;subst hiE;refine AW.exit ?_;refine qX 1 rfl ?_;exact qN rfl
 have hii:i<rt.length:=by have:=of_decide_eq_true h;omega
 have hg:(rt.map dn)[i]?=some (dn (rt.getD i [])):=by simp[hii]
 have hwi:=hw i hii;have hli:=hll i hii;have hmiss:=fun h0:uQ rt i=0=>(gP hii h0).symm.trans hiE;have hhit:=fun h0:uQ rt i≠0=>(jU hii h0).symm.trans hiE;have hp:2^i≤2^5:=Nat.pow_le_pow_right (by decide) (by omega);have hrt:uQ rt i=if (rt.getD i []).length≠2^i then 10 else if bJ i (rt.getD i [])≠0 then bJ i (rt.getD i []) else if dG i ((rt.take i).map bp) (bp (rt.getD i []))<0 then 3 else 0:=rfl
 refine AW.skip (AW.seq (AW.block ?_));refine qX 1 rfl ?_;refine ab.idx tok (dn (rt.getD i [])) rfl rfl rfl rfl (Int.natCast_nonneg i) hg ?_;refine qU 3 rfl ?_;refine qI ?_;refine qX 2 rfl ?_;rw[List.length_map];refine qU 2 rfl ?_;rw[x8 (by omega)];refine qU 1 rfl ?_;refine ab.nil ?_;by_cases e1:(rt.getD i []).length=2^i;rotate_left
 · rw[if_pos e1] at hrt;rw[bne_iff_ne.2 (show (((rt.getD i []).length:Nat):Int)≠((2^i:Nat):Int) by omega)];have:=hhit (by rw[hrt];decide);rw[hrt] at this;subst this;refine AW.aF rfl ?_;refine qX 1 rfl ?_;exact qN rfl
 rw[if_neg (fun h=>h e1)] at hrt;have hwi:=hwi e1;have cn:=jS i (rt.getD i []) (by omega) (fun _=>hwi) (by omega) hli;rw[e1,bne_eq_false_iff_eq.2 rfl];refine AW.ar rfl ?_;refine AW.skip (AW.seq ?_);refine qX 2 rfl ?_;refine ab.call tok rfl rfl rfl rfl cn ?_;refine qU 1 rfl ?_;refine qK 2 rfl ?_;refine ab.nil ?_;by_cases e2:bJ i (rt.getD i [])=0;rotate_left
 · rw[if_pos e2] at hrt;have:=hhit (by rw[hrt];exact e2);rw[hrt] at this;subst this;rw[bne_iff_ne.2 (show ((bJ i (rt.getD i []):Nat):Int)≠0 by omega)];refine AW.aF rfl ?_;refine qX 2 rfl ?_;exact qN rfl
 rw[if_neg (fun h=>h e2)] at hrt;rw[bne_eq_false_iff_eq.2 (show ((bJ i (rt.getD i []):Nat):Int)=0 by omega)];obtain ⟨n1,n2⟩:=o8 e2;have hwj:=fun j (hj:j<i)=>hw j (by omega) (gv (hall j hj)).1;have cs:=fO i (k:=m) (rt:=(rt.take i).map bp) (xs:=rt.map dn) n1 (by omega) (kH hi hall) (by rw[fo hi];exact Nat.le_refl _) (Di hwj hi (fun j hj=>(gv (hall j hj)).2.1)) (lO hwi h1) (sh hwj h1 hi) (DA hok hi);have tr:=mJ i ((rt.take i).map bp) (bp (rt.getD i []));rw[C9 hi hall n1,← kg hwi n2] at cs;generalize dG i ((rt.take i).map bp) (bp (rt.getD i []))=s at cs hrt tr;refine AW.ar rfl ?_;refine AW.skip ?_;refine qX 2 rfl ?_;refine ab.call tok rfl rfl rfl rfl cs ?_;refine qU 1 rfl ?_;refine ab.nil ?_;by_cases e3:s<0
 · rw[if_pos e3] at hrt;rw[decide_eq_true e3];have:=hhit (by rw[hrt];decide);rw[hrt] at this;subst this;refine AW.aF rfl ?_;refine qX 1 rfl ?_;exact qN rfl
 rw[if_neg e3] at hrt;rw[decide_eq_false e3];refine AW.ar rfl ?_;refine AW.skip ?_;refine qT 1 rfl ?_;rw[aA (x:=(i:Int)+1) (by omega) (by omega)];refine qU 1 rfl ?_;refine ab.nil ?_
 exact⟨i+1,rfl,⟨hii,hmiss hrt,fun j hj=>by
  by_cases e:j=i
  · rw[e];exact hrt
  · exact hall j (by omega)⟩,by omega⟩
theorem nu(rt l:List (List RD)){m mn:Nat}(hw: ∀i,i<rt.length→(rt.getD i []).length=2^i→wN m (rt.getD i []))(h1:1≤m)(hl:rt.length≤1000000)(hll: ∀i,i<rt.length→(rt.getD i []).length≤4398046511104)(hok:rt.length≤5→mQ rt.length m)
  (hlw: ∀i,i<l.length→AT rt.length (l.getD i [])→wN mn (l.getD i [])) (hl2:l.length≤1000000) (hl3: ∀i,i<l.length→(l.getD i []).length≤4398046511104) (hm:mn≤17300000000000):Pure Tryz.prog 110 [TrD rt,.sl 1 (l.map dn)] (dI (pH rt l)):=by
 refine qJ 29 Tryz.func110 rfl rfl rfl rfl (by kernel_rfl) (fun B F0 w0=>?_);have cC:=oR rt hw h1 hl hll hok;unfold pH;obtain ⟨E,hE⟩: ∃E,fE (fun i=>bJ rt.length (l.getD i [])) (l.length-0) 0=E:=⟨_,rfl⟩;rw[hE];refine qX 2 rfl ?_;refine qI ?_;refine qX 1 rfl ?_;refine ab.call tok rfl rfl rfl rfl cC ?_;refine qU 1 rfl ?_;refine qK 2 rfl ?_;refine ab.nil ?_;by_cases e2:de rt=0;rotate_left
 · rw[if_pos e2,bne_iff_ne.2 (show ((de rt:Nat):Int)≠0 by omega)];refine AW.aF rfl ?_;refine qX 2 rfl ?_;exact qN rfl
 have h5:=(mz e2).1;rw[if_neg (fun h=>h e2),bne_eq_false_iff_eq.2 (show ((de rt:Nat):Int)=0 by omega)];refine AW.ar rfl ?_;refine AW.skip (AW.seq ?_);refine qX 2 rfl ?_;rw[List.length_map];refine qU 1 rfl ?_;refine ab.nil ?_;refine AW.block ?_;refine AW.aD [2,14,15,16] (fun i:Nat=>[(2,.bx [.sl 1 (rt.map dn)]),(14,.d (.sl 1 (l.map dn))),(15,.d (dI l.length)),(16,.d (dI i))]) (fun i=>i≤l.length∧fE (fun i=>bJ rt.length (l.getD i [])) (l.length-i) i=E) (fun i=>l.length-i) 0 rfl ⟨Nat.zero_le _,hE⟩ (fun i ⟨hi,hiE⟩=>?_);refine qX 1 rfl ?_;refine qI ?_;refine AW.cond rfl (fun h=>?_) (fun h=>?_);rotate_left
 · have hii: ¬i<l.length:=by have:=of_decide_eq_false h;omega
   rw[jV hii] at hiE;subst hiE;refine AW.exit ?_;refine qX 1 rfl ?_;exact qN rfl
 have hii:i<l.length:=by have:=of_decide_eq_true h;omega
 have hg:(l.map dn)[i]?=some (dn (l.getD i [])):=by simp[hii]
 have hmiss:=fun h0:bJ rt.length (l.getD i [])=0=>(gP (f:=fun i=>bJ rt.length (l.getD i [])) hii h0).symm.trans hiE;have hhit:=fun h0:bJ rt.length (l.getD i [])≠0=>(jU (f:=fun i=>bJ rt.length (l.getD i [])) hii h0).symm.trans hiE;have cn:=jS rt.length (l.getD i []) h5 (hlw i hii) hm (hl3 i hii);refine AW.skip (AW.seq (AW.block (AW.seq (AW.region ?_))));refine ab.idx tok (dn (l.getD i [])) rfl rfl rfl rfl (Int.natCast_nonneg i) hg ?_;refine qU 2 rfl ?_;refine qK 3 rfl ?_;rw[List.length_map];refine qU 1 rfl ?_;refine ab.call tok rfl rfl rfl rfl cn ?_;refine qU 1 rfl ?_;refine ab.nil ?_;generalize bJ rt.length (l.getD i [])=v at hmiss hhit;refine qX 2 rfl ?_;refine ab.nil ?_;by_cases hv:v=0;rotate_left
 · have:=hhit hv;subst this;rw[bne_iff_ne.2 (show ((v:Nat):Int)≠0 by omega)];refine AW.aF rfl ?_;refine qX 2 rfl ?_;exact qN rfl
 rw[bne_eq_false_iff_eq.2 (show ((v:Nat):Int)=0 by omega)];refine AW.ar rfl ?_;refine AW.skip ?_;refine qT 1 rfl ?_;rw[aA (x:=(i:Int)+1) (by omega) (by omega)];refine qU 1 rfl ?_;refine ab.nil ?_;exact⟨i+1,rfl,⟨hii,hmiss hv⟩,by omega⟩
end Lift
namespace Lift
open Go Go.Proofs
theorem Dv(r s:RD){k:Nat}(hr:r.w k)(hs:s.w k)(hk:k≤17300000000000)(h0:s.val≠0):Pure Tryz.prog 161 [r.D,s.D] (.tu [(Qr (r.val / s.val)).D,dI 0]):=by
 refine qJ 29 Tryz.func161 rfl rfl rfl rfl (by kernel_rfl) (fun B F0 w0=>?_);have hl:=eI (hr.mono (Nat.le_max_left k 1)) (Nat.le_max_right k 1);have hm:=eI (hs.mono (Nat.le_max_left k 1)) (Nat.le_max_right k 1);have:=iX r.val;have:=jz r.val;have:=iX s.val;have:=jz s.val;obtain ⟨d1,d2,d3⟩:=Em hl hm h0;rw[← od r.val s.val h0];refine qX 4 rfl ?_;refine qK 1 rfl ?_;refine ab.call tok rfl rfl rfl rfl (c7 r hr (by omega)) ?_;refine qU 7 rfl ?_;refine qK 1 rfl ?_;refine ab.call tok rfl rfl rfl rfl (c7 s hs (by omega)) ?_;refine qU 7 rfl ?_;refine qI ?_;refine AW.draw aL 9 (by kernel_rfl) ?_;refine qP 2 rfl ?_;refine ae.call tok rfl rfl rfl rfl rfl (fD r.val.num s.val.den (by omega) (by omega)) ?_;refine qP 2 rfl ?_;refine ae.call tok rfl rfl rfl rfl rfl (fD r.val.den s.val.num (by omega) (by omega)) ?_;refine ae.call tok rfl rfl rfl rfl rfl (yw (r.val.num*s.val.den) (r.val.den*s.val.num) (by omega) (by omega) d3) ?_;refine qP 2 rfl ?_;refine ae.nil ?_;refine qU 2 rfl ?_;exact qN rfl
end Lift
namespace Lift
def tT(r:Nat):Nat→Nat→Nat
 | 0,s=>s
 | l+1,s=>tT r l s+tT r l (tT r l s+r)+1
theorem kL{r:Nat}: ∀{l s t:Nat},s≤t→tT r l s≤tT r l t
 | 0,_,_,h=>h
 | l+1,s,t,h=>by
   have h1:=kL (r:=r) (l:=l) h;have h2:=kL (r:=r) (l:=l) (Nat.add_le_add_right h1 r);show _+_+1≤_+_+1;omega
theorem re(r:Nat): ∀(l s:Nat),s≤tT r l s
 | 0,s=>Nat.le_refl s
 | l+1,s=>by
   have h1:=re r l s;show s≤tT r l s+_+1;omega
theorem G4(r l s:Nat):2*s+1≤tT r (l+1) s:=by
 have h1:=re r l s;have h2:=re r l (tT r l s+r);show _≤tT r l s+tT r l (tT r l s+r)+1;omega
theorem CY(r s:Nat):tT r 1 s=2*s+r+1:=by
 show s+(s+r)+1=_;omega
theorem iR{v:List NQ}{r:Nat}(hr:eT r v): ∀(l:Nat) {a b:Cf} {k m:Nat},(∀i,LQ (a i)≤k)→(∀i,LQ (b i)≤m)→ ∀i,LQ (mulC v l a b i)≤tT r l (k+m)
 | 0,a,b,k,m,ha,hb,i=>by
   show LQ (if i=0 then a 0*b 0 else 0)≤k+m;split
   · have:=A0 (a 0) (b 0);have:=ha 0;have:=hb 0;omega
   · have:=pS;have:=ha 0;have:=AY (a 0);omega
 | l+1,a,b,k,m,ha,hb,i=>by
   have h1:=iR hr l ha hb;have h2:=iR hr l (a:=bG l a) (b:=bG l b) (fun i=>ha _) (fun i=>hb _);have h3:=iR hr l (a:=a) (b:=bG l b) ha (fun i=>hb _);have h4:=iR hr l (a:=bG l a) (b:=b) (fun i=>ha _) hb;have h5:=iR hr l (a:=mulC v l (bG l a) (bG l b)) (b:=cf (v.getD l [])) h2 (fun i=>hr l i);have h6:=re r l (tT r l (k+m)+r);show LQ (if i<2^l then _ else _)≤tT r l (k+m)+tT r l (tT r l (k+m)+r)+1;split
   · have:=xG (mulC v l a b i) (mulC v l (mulC v l (bG l a) (bG l b)) (cf (v.getD l [])) i);have:=h1 i;have:=h5 i;omega
   · have:=xG (mulC v l a (bG l b) (i-2^l)) (mulC v l (bG l a) b (i-2^l));have:=h3 (i-2^l);have:=h4 (i-2^l);omega
theorem A6{a b:NQ}{k:Nat}(h:cf a=cf b)(hb:aj k b):aj k a:=fun i=>by
 have:cf a i=cf b i:=by rw[h]
 show LQ (cf a i)≤k;rw[this];exact hb i
theorem xV{v:List NQ}{r l k m:Nat}{a b:NQ}(hrt:cu v)(hr:eT r v)(hl:l≤v.length)(ha:ak l a)(sa:aj k a)(hb:ak l b)(sb:aj m b):aj (tT r l (k+m)) (aS l v a b):=fun i=>by
 show LQ (cf (aS l v a b) i)≤_;rw[(dX l ha hb hrt hl).2];exact iR hr l sa sb i
theorem FG{v:List NQ}{r l j k:Nat}{a:NQ}(hrt:cu v)(hr:eT r v)(hj:j≤l)(hl:l<v.length)(ha:a.length=2^(j+1))(sa:aj k a):aj (tT r (l+1) (k+k)) (ef l v a):=fun i=>by
 show LQ (cf (ef l v a) i)≤_;have h2:=jM hj ha hrt hl
 have lowN:cy j (bE v j (cf a)):=fun i hi=>by
  unfold bE;rw[aU v j _ _ i hi,aU v j _ _ i hi];exact Rat.sub_self
 obtain ⟨e1,e2,e3⟩:=a9 ha;rw[h2.2];have h3:=iR hr j (a:=cf a) (b:=cf a) sa sa i;have h4:=iR hr j (a:=bG j (cf a)) (b:=bG j (cf a)) (fun i=>sa _) (fun i=>sa _);have h5:=iR hr j (a:=mulC v j (bG j (cf a)) (bG j (cf a))) (b:=cf (v.getD j [])) h4 (fun i=>hr j i) i
 have h6:LQ (bE v j (cf a) i)≤tT r (j+1) (k+k):=by
  have:=HT (mulC v j (cf a) (cf a) i) (mulC v j (mulC v j (bG j (cf a)) (bG j (cf a))) (cf (v.getD j [])) i);show LQ (_-_)≤tT r j (k+k)+tT r j (tT r j (k+k)+r)+1;omega
 refine Nat.le_trans h6 ?_
 have up: ∀d s,tT r j s≤tT r (j+d) s:=fun d s=>by
  induction d with
  | zero=>exact Nat.le_refl _
  | succ d ih =>
    refine Nat.le_trans ih ?_;show tT r (j+d) s≤tT r (j+d) s+_+1;omega
 obtain ⟨d,rfl⟩: ∃d,l=j+d:=⟨l-j,by omega⟩;have u1:=up d (k+k);have u2:=up d (tT r j (k+k)+r);have u3:=kL (r:=r) (l:=j+d) (Nat.add_le_add_right u1 r);show tT r j (k+k)+tT r j (tT r j (k+k)+r)+1≤tT r (j+d) (k+k)+tT r (j+d) (tT r (j+d) (k+k)+r)+1;omega
def iQ(r:Nat):Nat→Nat→Nat
 | 0,k=>k+1
 | l+1,k=>tT r (l+1) (k+iQ r l (tT r (l+1) (k+k)))
theorem po{r:Nat}: ∀{l s t:Nat},s≤t→iQ r l s≤iQ r l t
 | 0,_,_,h=>Nat.succ_le_succ h
 | l+1,s,t,h=>by
   have h1:=po (r:=r) (l:=l) (kL (r:=r) (l:=l+1) (Nat.add_le_add h h));exact kL (by omega)
theorem oG{r q:Nat}(h:r≤q): ∀{l s:Nat},tT r l s≤tT q l s
 | 0,s=>Nat.le_refl s
 | l+1,s=>by
   have h1:=oG h (l:=l) (s:=s);have h2:=oG h (l:=l) (s:=tT r l s+r);have h3:=kL (r:=q) (l:=l) (Nat.add_le_add h1 h);show tT r l s+tT r l (tT r l s+r)+1≤tT q l s+tT q l (tT q l s+q)+1;omega
theorem yZ{r q:Nat}(h:r≤q): ∀{l s:Nat},iQ r l s≤iQ q l s
 | 0,s=>Nat.le_refl _
 | l+1,s=>by
   have h1:=oG h (l:=l+1) (s:=s+s);have h2:=yZ h (l:=l) (s:=tT r (l+1) (s+s));have h3:=po (r:=q) (l:=l) h1;have h4:=oG h (l:=l+1) (s:=s+iQ r l (tT r (l+1) (s+s)));exact Nat.le_trans h4 (kL (by omega))
theorem CZ{k:Nat}{a b:NQ}(ha:aj k a)(hb:aj k b):aj k (a++b):=fun c=>by
 rw[qH];split
 · exact ha c
 · exact hb _
theorem By(r:Nat): ∀(l k:Nat),k<iQ r l k
 | 0,k=>Nat.lt_succ_self k
 | l+1,k=>by
   have h1:=By r l (tT r (l+1) (k+k));have h2:=re r (l+1) (k+iQ r l (tT r (l+1) (k+k)));show k<tT r (l+1) _;omega
theorem Gs{q:Rat}{k:Nat}(h0:q≠0)(h:LQ q≤k):LQ (1 / q)≤k+1:=by
 have h1:=HU (r:=1) h0;have h2:=k9;omega
theorem vw(l:Nat)(v:List NQ)(b:NQ):aS l v [] b=[]:=by
 have key: ∀R:NQ→NQ→NQ,jx (iC R v) [] b=[]:=fun R=>by
  unfold jx iC;split
  · rw[if_pos (by simp[ba])]
  · rw[if_pos (by simp[ba])]
 cases l with
 | zero=>exact key _
 | succ l=>exact key _
theorem Av{v:List NQ}{r:Nat}(hrt:cu v)(hr:eT r v): ∀(l:Nat) {k:Nat} {a:NQ},ak l a→l≤v.length→aj k a→aj (iQ r l k) (hC l v a):=by
 have one: ∀{s:NQ} {l k:Nat},ak l s→uM s→s.length=1→aj k s→aj (k+1) [1 / s.getD 0 0]:=fun {s l k} hs ht h1 sa i=>by
  cases i with
  | zero=>exact Gs (ht.one h1) (sa 0)
  | succ i=>exact lf (Nat.le_add_left _ _)
 intro l
 induction l with
 | zero =>
   intro k a ha hl sa;have hs:=aO ha sa;have ht:=gT ha;show aj (k+1) (jT _ _ _ _ (ai a));generalize ai a=s at *;unfold jT;split
   · rename_i h1;exact one hs.1 ht h1 hs.2
   · split
     · exact bz (Nat.le_add_left _ _)
     · exact bz (Nat.le_add_left _ _)
 | succ l ih =>
   intro k a ha hl sa;obtain ⟨hs,sa⟩:=aO ha sa;have ht:=gT ha;show aj (iQ r (l+1) k) (jT (hC l v) (dG l v) (ef l v) (aS (l+1) v) (ai a));generalize ai a=s at *;have hk:=By r (l+1) k;unfold jT;by_cases h1:s.length=1
   · rw[if_pos h1];exact(one hs ht h1 sa).mono hk
   rw[if_neg h1];by_cases h0:s.length=0
   · rw[List.length_eq_zero_iff.1 h0]
     have en:ef l v []=[]:=by
      show aM (aS l v [] []) (aC (aS l v (aS l v [] []) (v.getD ((0:Nat).log2-1) [])))=[];rw[vw,vw];rfl
     have es:dG l v []=0:=by cases l<;>rfl
     rw[en,if_pos es];have h3:=ih (bL l) (by omega) (bz (k:=1) (Nat.le_refl _));refine h3.mono ?_;have hk1:=sa.pos;have h5:iQ r l 1≤iQ r l (tT r (l+1) (k+k)):=po (by have:=re r (l+1) (k+k);omega);have h6:=re r (l+1) (k+iQ r l (tT r (l+1) (k+k)));show iQ r l 1≤tT r (l+1) _;omega
   obtain ⟨j,hj,hsl⟩: ∃j,j≤l∧s.length=2^(j+1):=by
    rcases hs with e | ⟨i,hi,e⟩
    · exact absurd e h0
    · rcases i with _ | j
      · exact absurd e h1
      · exact⟨j,by omega,e⟩
   obtain ⟨e1,e2,e3⟩:=a9 hsl;have hx:ak l (s.take (s.length / 2)):= .inr ⟨j,hj,e1⟩;have hn:=sE hj hsl hrt (show l<v.length by omega);have sn:=FG hrt hr hj (show l<v.length by omega) hsl sa;split
   · have h3:=ih (hx.plus hx) (by omega) ((sa.take _).plus (sa.take _));refine h3.mono ?_;have h4:=G4 r l (k+k);have h5:iQ r l (k+k+1)≤iQ r l (tT r (l+1) (k+k)):=po (by omega);have h6:=re r (l+1) (k+iQ r l (tT r (l+1) (k+k)));show iQ r l (k+k+1)≤tT r (l+1) _;omega
   · have h3:=ih hn (by omega) sn
     have hjl:ak (l+1) (c' (s.take (s.length / 2)) (aC (s.drop (s.length / 2))) (s.length / 2)):= .inr ⟨j+1,by omega,by
      rw[dJ]
      omega⟩
     exact xV hrt hr hl hjl (((sa.take _).join (sa.drop _).minus _)) ((fj l hn hrt (by omega)).mono (Nat.le_succ l)) h3
end Lift
namespace Lift
open Go Go.Proofs
abbrev RQ(q:Rat):D:=(Qr q).D
set_option maxHeartbeats 3200000 in
theorem vJ{l:Nat}{v:List NQ}{a Z:NQ}(ha:ak l a)(hl5:l≤5)(sa:kC a)(h0:(ai a).length≠0)
  (h1:(ai a).length=1→Z=[1 / (ai a).getD 0 0])
  (h2: ∀l' j,l=l'+1→j≤l'→(ai a).length=2^(j+1)→ ∃(N:NQ) (S:Int),Pure Tryz.prog 138 [bI v,ah (ai a),dI (ai a).length] (ah N)∧Pure Tryz.prog 100 [bI v,ah N] (dI S) ∧
   (S=0→Pure Tryz.prog 133 [bI v,ah (aM ((ai a).take ((ai a).length / 2)) ((ai a).take ((ai a).length / 2)))] (ah Z)) ∧
   (S≠0→ ∃I,Pure Tryz.prog 133 [bI v,ah N] (ah I)∧Pure Tryz.prog 122 [bI v,ah ((ai a).take ((ai a).length / 2)++aC ((ai a).drop ((ai a).length / 2))),ah I] (ah Z))):
  Pure Tryz.prog 133 [bI v,ah a] (ah Z):=by
 refine qJ 59 Tryz.func133 rfl rfl rfl rfl (by kernel_rfl) (fun B F0 w0=>?_);have cs:=c6 a ha hl5;have hone:=mK ha;obtain ⟨hs,ss⟩:=aO ha sa;generalize ai a=b at *;have hlb:=hs.len (by omega);refine qX 2 rfl ?_;refine qK 1 rfl ?_;refine ab.call tok rfl rfl rfl rfl cs ?_;refine qU 1 rfl ?_;refine qK 1 rfl ?_;refine qU 1 rfl ?_;rw[List.length_map];refine qU 1 rfl ?_;refine qI ?_;refine qX 2 rfl ?_;refine ab.nil ?_;by_cases e1:b.length=1
 · have g:=kW (r:=b) (i:=0) (by omega);have cq:=Dv (Qr ((1:Int):Rat)) (Qr (b.getD 0 0)) (iL _ (by have:=k9;rw[show ((1:Int):Rat)=1 from rfl];omega)) (iL _ (ss 0)) (by decide) (by rw[bK];exact hone e1);rw[bK,bK,show ((1:Int):Rat)=1 from rfl] at cq;have hZ:=h1 e1;subst hZ;rw[beq_iff_eq.2 (show (b.length:Int)=1 by omega)];refine AW.aF rfl ?_;refine AW.seq ?_;refine AW.my tok aL [(7,true),(1,false),(1,true)] 9 [6] (by kernel_rfl) ⟨rfl,?_⟩;refine ae.call tok rfl rfl rfl rfl rfl (qf 1 (by decide) (by decide)) ?_;refine qP 1 rfl ?_;refine ae.idx tok (Qr (b.getD 0 0)).D rfl rfl rfl rfl rfl (Int.le_refl _) g ?_;refine qP 1 rfl ?_;refine ae.call tok rfl rfl rfl rfl rfl cq ?_;refine qP 2 rfl ?_;refine ae.nil ⟨rfl,?_⟩;refine qP 1 rfl ?_;refine ae.nil ⟨rfl,?_⟩;refine qP 1 rfl ?_;refine ae.nil ⟨_,nH.cons (.bx rfl) (nH.nil),?_⟩;refine qU 1 rfl ?_;refine qK 1 rfl ?_;refine ab.fA tok rfl rfl rfl rfl rfl ?_;refine qU 1 rfl ?_;exact qN rfl
 rw[beq_eq_false_iff_ne.2 (show (b.length:Int)≠1 by omega)]
 obtain ⟨i,hi,hla2⟩: ∃i,i≤l∧b.length=2^i:=by
  rcases hs with e | e
  · exact absurd e h0
  · exact e
 have sH:i≠0:=fun e=>e1 (by rw[hla2,e]);obtain ⟨j,rfl⟩: ∃j,i=j+1:=⟨i-1,by omega⟩;obtain ⟨l',rfl⟩: ∃l',l=l'+1:=⟨l-1,by omega⟩;obtain ⟨N,S,cN,cS,hz,hi2⟩:=h2 l' j rfl (by omega) hla2;obtain ⟨g1,g2,g3⟩:=a9 hla2;obtain ⟨n,hn⟩: ∃n,n=b.length / 2:=⟨_,rfl⟩;rw[← hn] at g1 g2 g3 hz hi2;refine AW.ar rfl ?_;refine AW.skip (AW.seq ?_);refine AW.draw aL 9 (by kernel_rfl) ?_;refine qP 2 rfl ?_;refine ae.div tok rfl rfl rfl rfl rfl (by decide) ?_;rw[fV _ (by omega),← hn];refine ae.fp tok (a:=b) (b.take n) rfl rfl rfl rfl rfl trivial (Int.natCast_nonneg n) (Nat.zero_le _) (show n≤b.length by omega) rfl ?_;refine qP 2 rfl ?_;refine ae.div tok rfl rfl rfl rfl rfl (by decide) ?_;rw[fV _ (by omega),← hn];refine ae.fp tok (a:=b) (b.drop n) rfl rfl rfl rfl rfl (Int.natCast_nonneg n) trivial (show n≤b.length by omega) (Nat.le_refl _) (by show (b.take b.length).drop n=_;rw[List.take_length]) ?_;refine qP 1 rfl ?_;refine ae.nil ?_;refine qU 1 rfl ?_;refine qK 3 rfl ?_;refine ab.call tok rfl rfl rfl rfl cN ?_;refine qU 1 rfl ?_;refine qI ?_;refine qX 2 rfl ?_;refine ab.call tok rfl rfl rfl rfl cS ?_;refine qU 1 rfl ?_;refine ab.nil ?_;by_cases e2:S=0
 · have ci:=hz e2;have cp:=fP (b.take n) (b.take n) (ss.take n) (ss.take n) (by decide) (by rw[g1];omega) (by rw[g1];omega);rw[beq_iff_eq.2 e2];refine AW.aF rfl ?_;refine AW.seq ?_;refine AW.draw aL 5 (by kernel_rfl) ?_;refine qP 3 rfl ?_;refine ae.call tok rfl rfl rfl rfl rfl cp ?_;refine ae.call tok rfl rfl rfl rfl rfl ci ?_;refine ae.nil ?_;refine qU 1 rfl ?_;exact qN rfl
 obtain ⟨I,ci,ct⟩:=hi2 e2;have cm:=gW (b.drop n) (ss.drop n) (by decide) (by rw[g2];omega);rw[beq_eq_false_iff_ne.2 e2];refine AW.ar rfl ?_;refine AW.skip ?_;have lx:(b.take n).length≤1024:=by rw[List.length_take];omega
 have ly:(b.drop n).length≤1024:=by rw[List.length_drop];omega
 generalize b.take n=x at *;generalize b.drop n=y at *;refine AZ.aw ?_;refine AZ.seq ?_;refine AZ.to [2,8,9,10] [(2,.bx [.sl 1 (v.map ah)]),(8,.d (ah x)),(9,.d (ah y)),(10,.d (ah N))] rfl ?_;refine AZ.any aL (ZH.any (β:=[(2,[.sl 1 (v.map ah)])]) ?_);refine ZH.mv 2 rfl rfl (by kernel_rfl) (by kernel_rfl) (by kernel_rfl) rfl (fun _ _ _ h=>h) (fun _=>rfl) ⟨rfl,trivial⟩ (fun B1 F1 w1=>?_);refine qU 1 rfl ?_;refine ab.nil ⟨rfl,?_⟩;refine ZH.mv 4 rfl rfl (by kernel_rfl) (by kernel_rfl) (by kernel_rfl) rfl (fun _ _ _ h=>h) (fun _=>rfl) ⟨rfl,trivial⟩ (fun B1 F1 w1=>?_);refine qU 1 rfl ?_;refine ab.nil ⟨rfl,?_⟩;refine ZH.mv 8 rfl rfl (by kernel_rfl) (by kernel_rfl) (by kernel_rfl) rfl (fun _ _ _ h=>h) (fun _=>rfl) ⟨rfl,trivial⟩ (fun B1 F1 w1=>?_);refine qU 1 rfl ?_;refine ab.nil ⟨rfl,?_⟩;refine ZH.meet 0 (qB 12 4095) (fun V=>[]) (fun V=>[(2,.bx [.sl 1 (v.map ah)]),(50,.d (ah x)),(52,.d (ah y)),(56,.d (ah N)),(48,.d (bI v)),(55,.d (bI v)),(4,.d (ah Z))]) (fun V=>?_) (fun N7_1_1=>?_)
 · refine ZH.done (by kernel_rfl) ⟨rfl,trivial⟩ ?_;refine AZ.to [4] [(4,.d (ah Z))] rfl ?_;exact AZ.ret rfl
 refine ZH.meet 1 (qB 12 2047) (fun V=>[]) (fun V=>[(2,.bx [.sl 1 (v.map ah)]),(50,.d (ah x)),(52,.d (ah y)),(56,.d (ah N)),(48,.d (bI v)),(55,.d (bI v)),(58,.d (ah Z))]) (fun V=>?_) (fun N6_1_1=>?_)
 · refine ZH.all 11 (by kernel_rfl) rfl rfl (fun _=>rfl) ⟨rfl,trivial⟩ ?_;refine ao (fun B1 F1 w1=>?_);refine qU 1 rfl ?_;refine ab.nil ⟨rfl,?_⟩;exact qL (N7_1_1 V) (by kernel_rfl) rfl ⟨rfl,trivial⟩
 refine ZH.meet 2 (qB 12 1023) (fun V=>[]) (fun V=>[(2,.bx [.sl 1 (v.map ah)]),(50,.d (ah x)),(52,.d (ah y)),(56,.d (ah N)),(54,.ow 111 ((x++aC y).map RQ)),(57,.d (ah I)),(48,.d (bI v)),(55,.d (bI v))]) (fun V=>?_) (fun N5_1_1=>?_)
 · refine ZH.all 10 (by kernel_rfl) rfl rfl (fun _=>rfl) ⟨rfl,trivial⟩ ?_;refine ao (fun B1 F1 w1=>?_);refine ab.fS tok 54 rfl rfl ?_;refine ab.call tok rfl rfl rfl rfl ct ?_;refine ab.nil ⟨rfl,?_⟩;exact qL (N6_1_1 V) (by kernel_rfl) rfl ⟨rfl,trivial⟩
 refine ZH.meet 3 (qB 12 511) (fun V=>[]) (fun V=>[(2,.bx [.sl 1 (v.map ah)]),(50,.d (ah x)),(52,.d (ah y)),(56,.d (ah N)),(54,.ow 111 ((x++aC y).map RQ)),(48,.d (bI v)),(55,.d (bI v))]) (fun V=>?_) (fun N4_1_1=>?_)
 · refine ZH.all 9 (by kernel_rfl) rfl rfl (fun _=>rfl) ⟨rfl,trivial⟩ ?_;refine ao (fun B1 F1 w1=>?_);refine ab.call tok rfl rfl rfl rfl ci ?_;refine ab.nil ⟨rfl,?_⟩;exact qL (N5_1_1 V) (by kernel_rfl) rfl ⟨rfl,trivial⟩
 refine ZH.meet 3 (qB 12 1022) (fun V=>[]) (fun V=>[(2,.bx [.sl 1 (v.map ah)]),(50,.d (ah x)),(52,.d (ah y)),(56,.d (ah N)),(54,.ow 111 ((x++aC y).map RQ)),(57,.d (ah I)),(55,.d (bI v))]) (fun V=>?_) (fun N5_0_1=>?_)
 · refine ZH.all 0 (by kernel_rfl) rfl rfl (fun _=>rfl) ⟨rfl,trivial⟩ ?_;refine ao (fun B1 F1 w1=>?_);refine qU 1 rfl ?_;refine ab.nil ⟨rfl,?_⟩;exact qL (N5_1_1 V) (by kernel_rfl) rfl ⟨rfl,trivial⟩
 refine ZH.meet 4 (qB 12 447) (fun V=>[]) (fun V=>[(2,.bx [.sl 1 (v.map ah)]),(50,.d (ah x)),(52,.d (ah y)),(56,.d (ah N)),(51,.ow 111 (x.map RQ)),(53,.d (ah (aC y))),(48,.d (bI v)),(55,.d (bI v))]) (fun V=>?_) (fun N3_1_1=>?_)
 · refine ZH.all 6 (by kernel_rfl) rfl rfl (fun _=>rfl) ⟨rfl,trivial⟩ ?_;refine ao (fun B1 F1 w1=>?_);refine ab.gK tok rfl rfl rfl rfl rfl rfl (by rw[List.length_map,List.length_map,a7];show (_+_)*56≤_;omega) (by rw[List.length_map,List.length_map,a7];omega) ?_;rw[← List.map_append];refine ab.nil ⟨rfl,?_⟩;exact qL (N4_1_1 V) (by kernel_rfl) rfl ⟨rfl,trivial⟩
 refine ZH.meet 4 (qB 12 510) (fun V=>[]) (fun V=>[(2,.bx [.sl 1 (v.map ah)]),(50,.d (ah x)),(52,.d (ah y)),(56,.d (ah N)),(54,.ow 111 ((x++aC y).map RQ)),(55,.d (bI v))]) (fun V=>?_) (fun N4_0_1=>?_)
 · refine ZH.two 0 9 (by kernel_rfl) rfl rfl rfl rfl (fun _=>rfl) (fun _=>rfl) ⟨rfl,trivial⟩ ?_ ?_
   · refine ao (fun B1 F1 w1=>?_);refine qU 1 rfl ?_;refine ab.nil ⟨rfl,?_⟩;exact qL (N4_1_1 V) (by kernel_rfl) rfl ⟨rfl,trivial⟩
   · refine ao (fun B1 F1 w1=>?_);refine ab.call tok rfl rfl rfl rfl ci ?_;refine ab.nil ⟨rfl,?_⟩;exact qL (N5_0_1 V) (by kernel_rfl) rfl ⟨rfl,trivial⟩
 refine ZH.meet 4 (qB 12 383) (fun V=>[]) (fun V=>[(2,.bx [.sl 1 (v.map ah)]),(50,.d (ah x)),(52,.d (ah y)),(56,.d (ah N)),(54,.ow 111 ((x++aC y).map RQ)),(48,.d (bI v))]) (fun V=>?_) (fun N4_1_0=>?_)
 · refine ZH.all 7 (by kernel_rfl) rfl rfl (fun _=>rfl) ⟨rfl,trivial⟩ ?_;refine ao (fun B1 F1 w1=>?_);refine qU 1 rfl ?_;refine ab.nil ⟨rfl,?_⟩;exact qL (N4_1_1 V) (by kernel_rfl) rfl ⟨rfl,trivial⟩
 refine ZH.meet 5 (qB 12 415) (fun V=>[]) (fun V=>[(2,.bx [.sl 1 (v.map ah)]),(50,.d (ah x)),(52,.d (ah y)),(56,.d (ah N)),(51,.ow 111 (x.map RQ)),(48,.d (bI v)),(55,.d (bI v))]) (fun V=>?_) (fun N2_1_1=>?_)
 · refine ZH.all 5 (by kernel_rfl) rfl rfl (fun _=>rfl) ⟨rfl,trivial⟩ ?_;refine ao (fun B1 F1 w1=>?_);refine ab.call tok rfl rfl rfl rfl cm ?_;refine ab.nil ⟨rfl,?_⟩;exact qL (N3_1_1 V) (by kernel_rfl) rfl ⟨rfl,trivial⟩
 refine ZH.meet 5 (qB 12 446) (fun V=>[]) (fun V=>[(2,.bx [.sl 1 (v.map ah)]),(50,.d (ah x)),(52,.d (ah y)),(56,.d (ah N)),(51,.ow 111 (x.map RQ)),(53,.d (ah (aC y))),(55,.d (bI v))]) (fun V=>?_) (fun N3_0_1=>?_)
 · refine ZH.two 0 6 (by kernel_rfl) rfl rfl rfl rfl (fun _=>rfl) (fun _=>rfl) ⟨rfl,trivial⟩ ?_ ?_
   · refine ao (fun B1 F1 w1=>?_);refine qU 1 rfl ?_;refine ab.nil ⟨rfl,?_⟩;exact qL (N3_1_1 V) (by kernel_rfl) rfl ⟨rfl,trivial⟩
   · refine ao (fun B1 F1 w1=>?_);refine ab.gK tok rfl rfl rfl rfl rfl rfl (by rw[List.length_map,List.length_map,a7];show (_+_)*56≤_;omega) (by rw[List.length_map,List.length_map,a7];omega) ?_;rw[← List.map_append];refine ab.nil ⟨rfl,?_⟩;exact qL (N4_0_1 V) (by kernel_rfl) rfl ⟨rfl,trivial⟩
 refine ZH.meet 5 (qB 12 319) (fun V=>[]) (fun V=>[(2,.bx [.sl 1 (v.map ah)]),(50,.d (ah x)),(52,.d (ah y)),(56,.d (ah N)),(51,.ow 111 (x.map RQ)),(53,.d (ah (aC y))),(48,.d (bI v))]) (fun V=>?_) (fun N3_1_0=>?_)
 · refine ZH.two 6 7 (by kernel_rfl) rfl rfl rfl rfl (fun _=>rfl) (fun _=>rfl) ⟨rfl,trivial⟩ ?_ ?_
   · refine ao (fun B1 F1 w1=>?_);refine ab.gK tok rfl rfl rfl rfl rfl rfl (by rw[List.length_map,List.length_map,a7];show (_+_)*56≤_;omega) (by rw[List.length_map,List.length_map,a7];omega) ?_;rw[← List.map_append];refine ab.nil ⟨rfl,?_⟩;exact qL (N4_1_0 V) (by kernel_rfl) rfl ⟨rfl,trivial⟩
   · refine ao (fun B1 F1 w1=>?_);refine qU 1 rfl ?_;refine ab.nil ⟨rfl,?_⟩;exact qL (N3_1_1 V) (by kernel_rfl) rfl ⟨rfl,trivial⟩
 refine ZH.meet 5 (qB 12 382) (fun V=>[]) (fun V=>[(2,.bx [.sl 1 (v.map ah)]),(50,.d (ah x)),(52,.d (ah y)),(56,.d (ah N)),(54,.ow 111 ((x++aC y).map RQ))]) (fun V=>?_) (fun N4_0_0=>?_)
 · refine ZH.two 0 7 (by kernel_rfl) rfl rfl rfl rfl (fun _=>rfl) (fun _=>rfl) ⟨rfl,trivial⟩ ?_ ?_
   · refine ao (fun B1 F1 w1=>?_);refine qU 1 rfl ?_;refine ab.nil ⟨rfl,?_⟩;exact qL (N4_1_0 V) (by kernel_rfl) rfl ⟨rfl,trivial⟩
   · refine ao (fun B1 F1 w1=>?_);refine qU 1 rfl ?_;refine ab.nil ⟨rfl,?_⟩;exact qL (N4_0_1 V) (by kernel_rfl) rfl ⟨rfl,trivial⟩
 refine ZH.meet 6 (qB 12 407) (fun V=>[]) (fun V=>[(2,.bx [.sl 1 (v.map ah)]),(50,.d (ah x)),(52,.d (ah y)),(56,.d (ah N)),(49,.e0 111),(48,.d (bI v)),(55,.d (bI v))]) (fun V=>?_) (fun N1_1_1=>?_)
 · refine ZH.all 3 (by kernel_rfl) rfl rfl (fun _=>rfl) ⟨rfl,trivial⟩ ?_;refine ao (fun B1 F1 w1=>?_);refine ab.pL tok rfl rfl rfl rfl (by show (x.map RQ).length*56≤_;rw[List.length_map];omega) ?_;refine ab.nil ⟨rfl,?_⟩;exact qL (N2_1_1 V) (by kernel_rfl) rfl ⟨rfl,trivial⟩
 refine ZH.meet 6 (qB 12 414) (fun V=>[]) (fun V=>[(2,.bx [.sl 1 (v.map ah)]),(50,.d (ah x)),(52,.d (ah y)),(56,.d (ah N)),(51,.ow 111 (x.map RQ)),(55,.d (bI v))]) (fun V=>?_) (fun N2_0_1=>?_)
 · refine ZH.two 0 5 (by kernel_rfl) rfl rfl rfl rfl (fun _=>rfl) (fun _=>rfl) ⟨rfl,trivial⟩ ?_ ?_
   · refine ao (fun B1 F1 w1=>?_);refine qU 1 rfl ?_;refine ab.nil ⟨rfl,?_⟩;exact qL (N2_1_1 V) (by kernel_rfl) rfl ⟨rfl,trivial⟩
   · refine ao (fun B1 F1 w1=>?_);refine ab.call tok rfl rfl rfl rfl cm ?_;refine ab.nil ⟨rfl,?_⟩;exact qL (N3_0_1 V) (by kernel_rfl) rfl ⟨rfl,trivial⟩
 refine ZH.meet 6 (qB 12 287) (fun V=>[]) (fun V=>[(2,.bx [.sl 1 (v.map ah)]),(50,.d (ah x)),(52,.d (ah y)),(56,.d (ah N)),(51,.ow 111 (x.map RQ)),(48,.d (bI v))]) (fun V=>?_) (fun N2_1_0=>?_)
 · refine ZH.two 5 7 (by kernel_rfl) rfl rfl rfl rfl (fun _=>rfl) (fun _=>rfl) ⟨rfl,trivial⟩ ?_ ?_
   · refine ao (fun B1 F1 w1=>?_);refine ab.call tok rfl rfl rfl rfl cm ?_;refine ab.nil ⟨rfl,?_⟩;exact qL (N3_1_0 V) (by kernel_rfl) rfl ⟨rfl,trivial⟩
   · refine ao (fun B1 F1 w1=>?_);refine qU 1 rfl ?_;refine ab.nil ⟨rfl,?_⟩;exact qL (N2_1_1 V) (by kernel_rfl) rfl ⟨rfl,trivial⟩
 refine ZH.meet 6 (qB 12 318) (fun V=>[]) (fun V=>[(2,.bx [.sl 1 (v.map ah)]),(50,.d (ah x)),(52,.d (ah y)),(56,.d (ah N)),(51,.ow 111 (x.map RQ)),(53,.d (ah (aC y)))]) (fun V=>?_) (fun N3_0_0=>?_)
 · refine ZH.three 0 6 7 (by kernel_rfl) rfl rfl rfl rfl rfl rfl (fun _=>rfl) (fun _=>rfl) (fun _=>rfl) ⟨rfl,trivial⟩ ?_ ?_ ?_
   · refine ao (fun B1 F1 w1=>?_);refine qU 1 rfl ?_;refine ab.nil ⟨rfl,?_⟩;exact qL (N3_1_0 V) (by kernel_rfl) rfl ⟨rfl,trivial⟩
   · refine ao (fun B1 F1 w1=>?_);refine ab.gK tok rfl rfl rfl rfl rfl rfl (by rw[List.length_map,List.length_map,a7];show (_+_)*56≤_;omega) (by rw[List.length_map,List.length_map,a7];omega) ?_;rw[← List.map_append];refine ab.nil ⟨rfl,?_⟩;exact qL (N4_0_0 V) (by kernel_rfl) rfl ⟨rfl,trivial⟩
   · refine ao (fun B1 F1 w1=>?_);refine qU 1 rfl ?_;refine ab.nil ⟨rfl,?_⟩;exact qL (N3_0_1 V) (by kernel_rfl) rfl ⟨rfl,trivial⟩
 refine ZH.meet 7 (qB 12 405) (fun V=>[]) (fun V=>[(2,.bx [.sl 1 (v.map ah)]),(50,.d (ah x)),(52,.d (ah y)),(56,.d (ah N)),(48,.d (bI v)),(55,.d (bI v))]) (fun V=>?_) (fun N0_1_1=>?_)
 · refine ZH.all 1 (by kernel_rfl) rfl rfl (fun _=>rfl) ⟨rfl,trivial⟩ ?_;refine ao (fun B1 F1 w1=>?_);refine qU 1 rfl ?_;refine ab.nil ⟨rfl,?_⟩;exact qL (N1_1_1 V) (by kernel_rfl) rfl ⟨rfl,trivial⟩
 refine ZH.meet 7 (qB 12 406) (fun V=>[]) (fun V=>[(2,.bx [.sl 1 (v.map ah)]),(50,.d (ah x)),(52,.d (ah y)),(56,.d (ah N)),(49,.e0 111),(55,.d (bI v))]) (fun V=>?_) (fun N1_0_1=>?_)
 · refine ZH.two 0 3 (by kernel_rfl) rfl rfl rfl rfl (fun _=>rfl) (fun _=>rfl) ⟨rfl,trivial⟩ ?_ ?_
   · refine ao (fun B1 F1 w1=>?_);refine qU 1 rfl ?_;refine ab.nil ⟨rfl,?_⟩;exact qL (N1_1_1 V) (by kernel_rfl) rfl ⟨rfl,trivial⟩
   · refine ao (fun B1 F1 w1=>?_);refine ab.pL tok rfl rfl rfl rfl (by show (x.map RQ).length*56≤_;rw[List.length_map];omega) ?_;refine ab.nil ⟨rfl,?_⟩;exact qL (N2_0_1 V) (by kernel_rfl) rfl ⟨rfl,trivial⟩
 refine ZH.meet 7 (qB 12 279) (fun V=>[]) (fun V=>[(2,.bx [.sl 1 (v.map ah)]),(50,.d (ah x)),(52,.d (ah y)),(56,.d (ah N)),(49,.e0 111),(48,.d (bI v))]) (fun V=>?_) (fun N1_1_0=>?_)
 · refine ZH.two 3 7 (by kernel_rfl) rfl rfl rfl rfl (fun _=>rfl) (fun _=>rfl) ⟨rfl,trivial⟩ ?_ ?_
   · refine ao (fun B1 F1 w1=>?_);refine ab.pL tok rfl rfl rfl rfl (by show (x.map RQ).length*56≤_;rw[List.length_map];omega) ?_;refine ab.nil ⟨rfl,?_⟩;exact qL (N2_1_0 V) (by kernel_rfl) rfl ⟨rfl,trivial⟩
   · refine ao (fun B1 F1 w1=>?_);refine qU 1 rfl ?_;refine ab.nil ⟨rfl,?_⟩;exact qL (N1_1_1 V) (by kernel_rfl) rfl ⟨rfl,trivial⟩
 refine ZH.meet 7 (qB 12 286) (fun V=>[]) (fun V=>[(2,.bx [.sl 1 (v.map ah)]),(50,.d (ah x)),(52,.d (ah y)),(56,.d (ah N)),(51,.ow 111 (x.map RQ))]) (fun V=>?_) (fun N2_0_0=>?_)
 · refine ZH.three 0 5 7 (by kernel_rfl) rfl rfl rfl rfl rfl rfl (fun _=>rfl) (fun _=>rfl) (fun _=>rfl) ⟨rfl,trivial⟩ ?_ ?_ ?_
   · refine ao (fun B1 F1 w1=>?_);refine qU 1 rfl ?_;refine ab.nil ⟨rfl,?_⟩;exact qL (N2_1_0 V) (by kernel_rfl) rfl ⟨rfl,trivial⟩
   · refine ao (fun B1 F1 w1=>?_);refine ab.call tok rfl rfl rfl rfl cm ?_;refine ab.nil ⟨rfl,?_⟩;exact qL (N3_0_0 V) (by kernel_rfl) rfl ⟨rfl,trivial⟩
   · refine ao (fun B1 F1 w1=>?_);refine qU 1 rfl ?_;refine ab.nil ⟨rfl,?_⟩;exact qL (N2_0_1 V) (by kernel_rfl) rfl ⟨rfl,trivial⟩
 refine ZH.meet 8 (qB 12 404) (fun V=>[]) (fun V=>[(2,.bx [.sl 1 (v.map ah)]),(50,.d (ah x)),(52,.d (ah y)),(56,.d (ah N)),(55,.d (bI v))]) (fun V=>?_) (fun N0_0_1=>?_)
 · refine ZH.two 0 1 (by kernel_rfl) rfl rfl rfl rfl (fun _=>rfl) (fun _=>rfl) ⟨rfl,trivial⟩ ?_ ?_
   · refine ao (fun B1 F1 w1=>?_);refine qU 1 rfl ?_;refine ab.nil ⟨rfl,?_⟩;exact qL (N0_1_1 V) (by kernel_rfl) rfl ⟨rfl,trivial⟩
   · refine ao (fun B1 F1 w1=>?_);refine qU 1 rfl ?_;refine ab.nil ⟨rfl,?_⟩;exact qL (N1_0_1 V) (by kernel_rfl) rfl ⟨rfl,trivial⟩
 refine ZH.meet 8 (qB 12 277) (fun V=>[]) (fun V=>[(2,.bx [.sl 1 (v.map ah)]),(50,.d (ah x)),(52,.d (ah y)),(56,.d (ah N)),(48,.d (bI v))]) (fun V=>?_) (fun N0_1_0=>?_)
 · refine ZH.two 1 7 (by kernel_rfl) rfl rfl rfl rfl (fun _=>rfl) (fun _=>rfl) ⟨rfl,trivial⟩ ?_ ?_
   · refine ao (fun B1 F1 w1=>?_);refine qU 1 rfl ?_;refine ab.nil ⟨rfl,?_⟩;exact qL (N1_1_0 V) (by kernel_rfl) rfl ⟨rfl,trivial⟩
   · refine ao (fun B1 F1 w1=>?_);refine qU 1 rfl ?_;refine ab.nil ⟨rfl,?_⟩;exact qL (N0_1_1 V) (by kernel_rfl) rfl ⟨rfl,trivial⟩
 refine ZH.meet 8 (qB 12 278) (fun V=>[]) (fun V=>[(2,.bx [.sl 1 (v.map ah)]),(50,.d (ah x)),(52,.d (ah y)),(56,.d (ah N)),(49,.e0 111)]) (fun V=>?_) (fun N1_0_0=>?_)
 · refine ZH.three 0 3 7 (by kernel_rfl) rfl rfl rfl rfl rfl rfl (fun _=>rfl) (fun _=>rfl) (fun _=>rfl) ⟨rfl,trivial⟩ ?_ ?_ ?_
   · refine ao (fun B1 F1 w1=>?_);refine qU 1 rfl ?_;refine ab.nil ⟨rfl,?_⟩;exact qL (N1_1_0 V) (by kernel_rfl) rfl ⟨rfl,trivial⟩
   · refine ao (fun B1 F1 w1=>?_);refine ab.pL tok rfl rfl rfl rfl (by show (x.map RQ).length*56≤_;rw[List.length_map];omega) ?_;refine ab.nil ⟨rfl,?_⟩;exact qL (N2_0_0 V) (by kernel_rfl) rfl ⟨rfl,trivial⟩
   · refine ao (fun B1 F1 w1=>?_);refine qU 1 rfl ?_;refine ab.nil ⟨rfl,?_⟩;exact qL (N1_0_1 V) (by kernel_rfl) rfl ⟨rfl,trivial⟩
 refine ZH.meet 9 (qB 12 276) (fun V=>[]) (fun V=>[(2,.bx [.sl 1 (v.map ah)]),(50,.d (ah x)),(52,.d (ah y)),(56,.d (ah N))]) (fun V=>?_) (fun N0_0_0=>?_)
 · refine ZH.three 0 1 7 (by kernel_rfl) rfl rfl rfl rfl rfl rfl (fun _=>rfl) (fun _=>rfl) (fun _=>rfl) ⟨rfl,trivial⟩ ?_ ?_ ?_
   · refine ao (fun B1 F1 w1=>?_);refine qU 1 rfl ?_;refine ab.nil ⟨rfl,?_⟩;exact qL (N0_1_0 V) (by kernel_rfl) rfl ⟨rfl,trivial⟩
   · refine ao (fun B1 F1 w1=>?_);refine qU 1 rfl ?_;refine ab.nil ⟨rfl,?_⟩;exact qL (N1_0_0 V) (by kernel_rfl) rfl ⟨rfl,trivial⟩
   · refine ao (fun B1 F1 w1=>?_);refine qU 1 rfl ?_;refine ab.nil ⟨rfl,?_⟩;exact qL (N0_0_1 V) (by kernel_rfl) rfl ⟨rfl,trivial⟩
 exact qL (N0_0_0 fZ) (by kernel_rfl) rfl ⟨rfl,trivial⟩
end Lift
namespace Lift
open Go Go.Proofs
theorem uC{v:List NQ}(hrt:cu v)(hp:mE v){l j:Nat}{s:NQ}(hj:j≤l)(hl:l<v.length)(hsl:s.length=2^(j+1))(h:aT v (l+1) (cf s)≠0)(hN:aT v j (bE v j (cf s))=0):aT v l (cf (aM (s.take (s.length / 2)) (s.take (s.length / 2))))≠0:=by
 obtain ⟨e1,e2,e3⟩:=a9 hsl;have ex:jA j (cf (s.take (s.length / 2))) (cf s):=eL _ e3;have ls:cy (j+1) (cf s):=aN (by omega);have lx:cy j (cf (s.take (s.length / 2))):=aN (by omega);obtain ⟨Tj⟩:=HV hp j (by omega);have hdj:=hp j (by omega)
 let T:=G3 Tj hdj
 rw[bB v ls (by omega)] at h
 have hT:Tj.R.sgn (OR.nr (Tj.of (cf (v.getD j []))) (T.of (cf s)))=aT v j (bE v j (cf s)):=by
  rw[← Tj.sgn]
  congr 1
  show Tj.of (cf s)*Tj.of (cf s) -Tj.of (bG j (cf s))*Tj.of (bG j (cf s))*Tj.of (cf (v.getD j []))=Tj.of (bE v j (cf s));rw[← Tj.mul,← Tj.mul,← Tj.mul,← Tj.sub];rfl
 have cxx:cf (aM (s.take (s.length / 2)) (s.take (s.length / 2)))=fun i=>cf (s.take (s.length / 2)) i+cf (s.take (s.length / 2)) i:=funext fun i=>fi _ _ i
 have lxx:cy j (cf (aM (s.take (s.length / 2)) (s.take (s.length / 2)))):=by
  rw[cxx];exact fun i hi=>by
   show _+_=(0:Rat);rw[lx i hi];exact Rat.add_zero 0
 have hes:T.R.sgn (T.of (cf s))≠0:=by rw[T.sgn];exact h
 have F:=OR.Er (R:=Tj.R) (d:=Tj.of (cf (v.getD j []))) (by rw[Tj.sgn];exact hdj) hes (by
  have h5:=hT;rw[hN] at h5;exact h5)
 rw[bB v lxx hj,← Tj.sgn,cxx,Tj.add,Tj.cong _ _ ex];exact F.2
def th:Nat→List NQ→NQ→NQ
 | 0,_,a=>[1 / (ai a).getD 0 0]
 | l+1,v,a=>if (ai a).length=1 then [1 / (ai a).getD 0 0] else
   if lT l v (eU l v (ai a))=0 then th l v (aM ((ai a).take ((ai a).length / 2)) ((ai a).take ((ai a).length / 2))) else
    eJ (l+1) v ((ai a).take ((ai a).length / 2)++aC ((ai a).drop ((ai a).length / 2))) (th l v (eU l v (ai a)))
theorem jb{v:List NQ}{l:Nat}{a:NQ}(ha:ak l a)(h:aT v l (cf a)≠0):(ai a).length≠0:=fun e=>by
 have:=bh ha;rw[List.length_eq_zero_iff.1 e] at this;rw[← this] at h;exact h (fK v l)
theorem Bi{v:List NQ}(hrt:cu v)(hp:mE v): ∀(l:Nat) {a b:NQ},ak l a→ak l b→cf a=cf b→l≤v.length→aT v l (cf a)≠0→ak l (th l v a)∧cf (th l v a)=cf (hC l v b):=by
 intro l
 induction l with
 | zero =>
   intro a b ha hb hab hl h;have e:=lR ha hb hab;have hs:=bg hb;have h0:=jb ha h;rw[e] at h0;show ak 0 [1 / (ai a).getD 0 0]∧cf [1 / (ai a).getD 0 0]=cf (jT _ _ _ _ (ai b));rw[e];refine⟨fB _ _,?_⟩;unfold jT;rw[if_pos];rcases hs with e | ⟨i,hi,e⟩
   · exact absurd e h0
   · obtain rfl:i=0:=by omega
     exact e
 | succ l ih =>
   intro a b ha hb hab hl h;have e:=lR ha hb hab;have hs:=bg hb;have h0:=jb ha h;have hc:=bh hb;rw[hab,← hc] at h;rw[e] at h0;show ak (l+1) (if (ai a).length=1 then _ else _)∧cf (if (ai a).length=1 then _ else _)=cf (jT (hC l v) (dG l v) (ef l v) (aS (l+1) v) (ai b));rw[e];generalize ai b=s at *;unfold jT;by_cases h1:s.length=1
   · rw[if_pos h1,if_pos h1];exact⟨fB _ _,rfl⟩
   rw[if_neg h1,if_neg h1]
   obtain ⟨j,hj,hsl⟩: ∃j,j≤l∧s.length=2^(j+1):=by
    rcases hs with e | ⟨i,hi,e⟩
    · exact absurd e h0
    · rcases i with _ | j
      · exact absurd e h1
      · exact⟨j,by omega,e⟩
   obtain ⟨e1,e2,e3⟩:=a9 hsl;have hx:ak l (s.take (s.length / 2)):= .inr ⟨j,hj,e1⟩;have hn:=jM hj hsl hrt (show l<v.length by omega);have hr:=tf hj hsl hrt (show l<v.length by omega);have hcn:cf (eU l v s)=cf (ef l v s):=hr.2.trans hn.2.symm
   have lowN:cy j (bE v j (cf s)):=fun i hi=>by
    unfold bE;rw[aU v j _ _ i hi,aU v j _ _ i hi];exact Rat.sub_self
   have s1:=fq l hr.1 hrt hp (by omega);have s2:=dO l hn.1 hrt (by omega);rw[s1,s2,hcn];by_cases hz:aT v l (cf (ef l v s))=0
   · rw[if_pos hz,if_pos hz];have hd:=uC hrt hp hj (by omega) hsl h (by rw[hn.2,bB v lowN hj] at hz;exact hz);have:=ih (hx.plus hx) (hx.plus hx) rfl (by omega) hd;exact⟨this.1.mono (Nat.le_succ l),this.2⟩
   · rw[if_neg hz,if_neg hz];have h3:=ih hr.1 hn.1 hcn (by omega) (by rw[hcn];exact hz)
     have e4:s.take (s.length / 2)++aC (s.drop (s.length / 2))=c' (s.take (s.length / 2)) (aC (s.drop (s.length / 2))) (s.length / 2):=by
      unfold c'
      have w1:aW (s.take (s.length / 2)) (s.length / 2)=s.take (s.length / 2):=by
       have:=jj (s.take (s.length / 2))
       rwa [show (s.take (s.length / 2)).length=s.length / 2 by omega] at this
      have w2:aW (aC (s.drop (s.length / 2))) (s.length / 2)=aC (s.drop (s.length / 2)):=by
       have:=jj (aC (s.drop (s.length / 2)))
       rwa [show (aC (s.drop (s.length / 2))).length=s.length / 2 by rw[a7];omega] at this
      rw[w1,w2]
     have hjl:ak (l+1) (c' (s.take (s.length / 2)) (aC (s.drop (s.length / 2))) (s.length / 2)):= .inr ⟨j+1,by omega,by
      rw[dJ]
      omega⟩
     rw[e4];have t1:=je (l+1) hjl (h3.1.mono (Nat.le_succ l)) hrt hl;have t2:=dX (l+1) hjl ((fj l hn.1 hrt (by omega)).mono (Nat.le_succ l)) hrt hl;exact⟨t1.1,by rw[t1.2,t2.2,h3.2]⟩
def DD:Nat→Nat→Prop
 | 0,k=>k≤17300000000000
 | l+1,k=>mQ l (sT (l+1) k)∧DD l (sT (l+1) k)∧sT (l+1) k≤17300000000000∧sT (l+1) (iQ k l (sT (l+1) k))≤17300000000000
theorem DD.le: ∀{l k:Nat},DD l k→k≤17300000000000
 | 0,k,h=>h
 | l+1,k,h=>by have:=bm (l+1) k;have:=h.2.2.1;omega
theorem DD.mono: ∀{l k m:Nat},DD l k→m≤k→DD l m
 | 0,k,m,h,hm=>Nat.le_trans hm h
 | l+1,k,m,h,hm=>by
   have h1:=mL (l:=l+1) hm;refine⟨tJ h.1 h1,h.2.1.mono h1,Nat.le_trans h1 h.2.2.1,Nat.le_trans (mL ?_) h.2.2.2⟩;exact Nat.le_trans (yZ hm) (po h1)
theorem tz{v:List NQ}(hrt:cu v)(hp:mE v)(hv5:v.length≤5): ∀(l:Nat) {k:Nat} {a:NQ},ak l a→l≤v.length→aj k a→eT k v→aT v l (cf a)≠0→DD l k→Pure Tryz.prog 133 [bI v,ah a] (ah (th l v a)):=by
 intro l
 induction l with
 | zero =>
   intro k a ha hl sa sr h hk;exact vJ ha (by omega) (sa.mono hk.le) (jb ha h) (fun _=>rfl) (fun l' j e=>by omega)
 | succ l ih =>
   intro k a ha hl sa sr h hk;obtain ⟨k1,k2,k3,k4⟩:=hk;have h2:=bm (l+1) k
   have h5:2*k+1≤sT (l+1) k:=by
    have:=bm l k;show _≤sT l (sT l k)+sT l k+1;omega
   have h0:=jb ha h;have hc:=bh ha;refine vJ ha (by omega) (sa.mono (by omega)) h0 (fun e=>if_pos e) (fun l' j e hj hsl=>?_);obtain rfl:l=l':=by omega
   rw[← hc] at h;have ss:=(aO ha sa).2
   have hne:(ai a).length≠1:=by
    have:0<2^j:=Nat.pow_pos (by decide);rw[hsl,Nat.pow_succ];omega
   show ∃(N:NQ) (S:Int),_∧_∧(S=0→Pure _ _ _ (ah (if (ai a).length=1 then _ else _)))∧(S≠0→ ∃I,_∧Pure _ _ _ (ah (if (ai a).length=1 then _ else _)));rw[if_neg hne];generalize ai a=s at *;obtain ⟨e1,e2,e3⟩:=a9 hsl;have hx:ak l (s.take (s.length / 2)):= .inr ⟨j,hj,e1⟩;have hr:=tf hj hsl hrt (show l<v.length by omega);have hrs:=(yk hj hsl hrt (show l<v.length by omega) ss sr).2;have cN:=rq hj hsl hrt (show l<v.length by omega) (by omega) (xs:=v.map ah) (fun j hj=>nC hj) ss sr k3;have cS:=fO l hr.1 (by omega) hrt (by omega) (xs:=v.map ah) (fun j hj=>nC hj) hrs (sr.mono (by omega)) k1;have s1:=fq l hr.1 hrt hp (by omega)
   have lowN:cy j (bE v j (cf s)):=fun i hi=>by
    unfold bE;rw[aU v j _ _ i hi,aU v j _ _ i hi];exact Rat.sub_self
   refine⟨eU l v s,lT l v (eU l v s),cN,cS,fun hz=>?_,fun hz=>?_⟩
   · rw[if_pos hz];have hd:=uC hrt hp hj (by omega) hsl h (by rw[s1,hr.2,bB v lowN hj] at hz;exact hz);exact ih (hx.plus hx) (by omega) (((ss.take _).plus (ss.take _)).mono (by omega)) (sr.mono (by omega)) hd k2
   · rw[if_neg hz];rw[s1] at hz;have ci:=ih hr.1 (by omega) hrs (sr.mono (by omega)) hz k2;refine⟨th l v (eU l v s),ci,?_⟩;have h3:=Bi hrt hp l hr.1 (jM hj hsl hrt (show l<v.length by omega)).1 (hr.2.trans (jM hj hsl hrt (show l<v.length by omega)).2.symm) (by omega) hz;have hnl:=(jM hj hsl hrt (show l<v.length by omega));have s3:aj (iQ k l (sT (l+1) k)) (th l v (eU l v s)):=A6 h3.2 (Av hrt sr l hnl.1 (by omega) (A6 (hnl.2.trans hr.2.symm) hrs));have hge:=By k l (sT (l+1) k);exact fc (l+1) (.inr ⟨j+1,by omega,by rw[List.length_append,a7,e1,e2,Nat.pow_succ];omega⟩) (h3.1.mono (Nat.le_succ l)) hrt hl (by omega) (xs:=v.map ah) (fun j hj=>nC hj) ((CZ (ss.take _) (ss.drop _).minus).mono (by omega)) s3 (sr.mono (by omega)) k4
end Lift
namespace Lift
theorem Hj{v:List NQ}(hrt:cu v)(hp:mE v): ∀(l:Nat) {k:Nat} {a:NQ},ak l a→l≤v.length→aj k a→eT k v→aT v l (cf a)≠0→DD l k→FB l v a:=by
 intro l
 induction l with
 | zero =>
   intro k a ha hl sa sr h hk;exact⟨sa.mono hk.le,jb ha h⟩
 | succ l ih =>
   intro k a ha hl sa sr h hk;obtain ⟨k1,k2,k3,k4⟩:=hk;have h2:=bm (l+1) k
   have h5:2*k+1≤sT (l+1) k:=by
    have:=bm l k;show _≤sT l (sT l k)+sT l k+1;omega
   have h0:=jb ha h;have hc:=bh ha;refine⟨sa.mono (by omega),h0,fun hne=>?_⟩;rw[← hc] at h;obtain ⟨hs,ss⟩:=aO ha sa;generalize ai a=s at *
   obtain ⟨j,hj,hsl⟩: ∃j,j≤l∧s.length=2^(j+1):=by
    rcases hs with e | ⟨i,hi,e⟩
    · exact absurd e h0
    · rcases i with _ | j
      · exact absurd e hne
      · exact⟨j,by omega,e⟩
   obtain ⟨e1,e2,e3⟩:=a9 hsl;have hx:ak l (s.take (s.length / 2)):= .inr ⟨j,hj,e1⟩;have hn:=jM hj hsl hrt (show l<v.length by omega);have sn:=(sD hj hsl hrt (show l<v.length by omega) ss sr).2;have s1:=dO l hn.1 hrt (by omega)
   have lowN:cy j (bE v j (cf s)):=fun i hi=>by
    unfold bE;rw[aU v j _ _ i hi,aU v j _ _ i hi];exact Rat.sub_self
   refine⟨DB hj hsl hrt (by omega) ss sr k3,nW l hn.1 hrt (by omega) sn (sr.mono (by omega)) k1,fun hz=>?_,fun hz=>⟨?_,?_⟩⟩
   · rw[s1,hn.2,bB v lowN hj] at hz;have hd:=uC hrt hp hj (by omega) hsl h hz;exact ih (hx.plus hx) (by omega) (((ss.take _).plus (ss.take _)).mono (by omega)) (sr.mono (by omega)) hd k2
   · rw[s1] at hz;exact ih hn.1 (by omega) sn (sr.mono (by omega)) hz k2
   · have hjl:ak (l+1) (c' (s.take (s.length / 2)) (aC (s.drop (s.length / 2))) (s.length / 2)):= .inr ⟨j+1,by omega,by
      rw[dJ]
      omega⟩
     have hge:=By k l (sT (l+1) k);exact qi (l+1) hjl ((fj l hn.1 hrt (by omega)).mono (Nat.le_succ l)) hrt hl (((ss.take _).join (ss.drop _).minus _).mono (by omega)) (Av hrt sr l hn.1 (by omega) sn) (sr.mono (by omega)) k4
end Lift
namespace Lift
structure Lo (v:List NQ):Prop where
 V:jv 2 v
 l1:v.length≤1
theorem ye{l:Nat}(h:l≤1)(k:Nat):sT l k≤6*k+1:=by
 rcases l with _ | _ | l
 · show 2*k≤_;omega
 · show 2*(2*k)+2*k+1≤_;omega
 · omega
theorem qj{l k:Nat}(h:l≤1)(hk:k≤400000000000):mQ l k:=by
 rcases l with _ | _ | l
 · show k≤_;omega
 · have h1:sT 1 k≤6*k+1:=ye (Nat.le_refl 1) k;have h2:sT 1 k≤17300000000000:=by omega
   exact⟨h2,h2⟩
 · omega
theorem H8{l:Nat}(h:l≤1)(s:Nat):tT 2 l s≤2*s+3:=by
 rcases l with _ | _ | l
 · show s≤_;omega
 · rw[CY];omega
 · omega
theorem IA{l r k:Nat}(h:l≤1):iQ r l k≤10*k+3*r+5:=by
 rcases l with _ | _ | l
 · show k+1≤_;omega
 · show tT r 1 (k+(tT r 1 (k+k)+1))≤_;rw[CY,CY];omega
 · omega
theorem DC{l k:Nat}(h:l≤1)(hk:k≤400000000000):DD l k:=by
 rcases l with _ | _ | l
 · show k≤_;omega
 · have h1:sT 1 k≤6*k+1:=ye (Nat.le_refl 1) k;have h2:sT 1 k≤17300000000000:=by omega
   have h3:sT 1 (sT 1 k+1)≤6*(sT 1 k+1)+1:=ye (Nat.le_refl 1) _;have h4:sT 1 (sT 1 k+1)≤17300000000000:=by omega
   exact⟨h2,h2,h2,h4⟩
 · omega
theorem Lo.add{v:List NQ}(_:Lo v){k m:Nat}{a b:NQ}(ha:ak v.length a)(sa:aj k a)(hb:ak v.length b)(sb:aj m b)(hk:k+m≤400000000000):Bq a b∧ak v.length (CE a b)∧aj (k+m+1) (CE a b) :=
 ⟨⟨sa.mono (by omega),sb.mono (by omega),(sa.plus sb).mono (by omega)⟩,Gn ha sa hb sb⟩
theorem Lo.sub{v:List NQ}(_:Lo v){k m:Nat}{a b:NQ}(ha:ak v.length a)(sa:aj k a)(hb:ak v.length b)(sb:aj m b)(hk:k+m≤400000000000):Dz a b∧ak v.length (nL a b)∧aj (k+m+1) (nL a b) :=
 ⟨⟨sa.mono (by omega),sb.mono (by omega),(sa.plus sb.minus).mono (by omega)⟩,Fb ha sa hb sb⟩
section
variable {v:List NQ} (L:Lo v) {k m:Nat} {a b:NQ}
include L
theorem Lo.mul(ha:ak v.length a)(sa:aj k a)(hb:ak v.length b)(sb:aj m b)(hk:k+m≤400000000000):tK v a b∧ak v.length (iD v a b)∧aj (2*(k+m)+3) (iD v a b):=by
 have h1:=ye L.l1 (k+m);have h2:=H8 L.l1 (k+m);have hm:=sa.pos;have hm':=sb.pos;have st:=(xV (m:=m) L.V.ro L.V.sz (Nat.le_refl _) ha sa hb sb).mono h2;have lt:=eS v.length ha hb L.V.ro (Nat.le_refl _);exact⟨⟨sa.mono (by omega),sb.mono (by omega),qi v.length ha hb L.V.ro (Nat.le_refl _) (sa.mono (Nat.le_add_right k m)) (sb.mono (Nat.le_add_left m k)) (L.V.sz.mono (by omega)) (by omega),st.mono (by omega)⟩,aO lt st⟩
theorem Lo.sg(ha:ak v.length a)(sa:aj k a)(hk:k≤200000000000):yH v a:=by
 have:=sa.pos;exact nW v.length ha L.V.ro (Nat.le_refl _) (sa.mono (Nat.le_succ k)) (L.V.sz.mono (by omega)) (qj L.l1 (by omega))
theorem Lo.inv(hb:ak v.length b)(sb:aj m b):ak v.length (hC v.length v b)∧aj (10*m+11) (hC v.length v b) :=
 ⟨fj v.length hb L.V.ro (Nat.le_refl _),(Av L.V.ro L.V.sz v.length hb (Nat.le_refl _) sb).mono (IA L.l1)⟩
theorem Lo.div(ha:ak v.length a)(sa:aj k a)(hb:ak v.length b)(sb:aj m b)(h0:lD v b≠0)(hk:k+10*m≤200000000000):DF v a b∧ak v.length (r9 v a b)∧aj (2*k+20*m+25) (r9 v a b):=by
 have hm:=sb.pos;have hm':=sa.pos;obtain ⟨li,si⟩:=L.inv hb sb;obtain ⟨⟨k1,k2,k3,k4⟩,k5,k6⟩:=L.mul ha sa li si (by omega);have hs:aT v v.length (cf b)≠0:=by rw[← dO v.length hb L.V.ro (Nat.le_refl _)];exact h0
 exact⟨⟨k1,sb.mono (by omega),L.sg hb sb (by omega),h0,Hj L.V.ro L.V.pos v.length hb (Nat.le_refl _) (sb.mono (Nat.le_succ m)) (L.V.sz.mono (by omega)) hs (DC L.l1 (by omega)),k3,k4⟩,k5,k6.mono (by omega)⟩
end
def gS(k:Nat):Nat:=110*k+129
def gI(k:Nat):Nat→Nat
 | 0=>k
 | c+1=>gS (gI k c)
theorem iS{k:Nat}: ∀{c d:Nat},c≤d→gI k c≤gI k d:=fun {c d} h=>by
 induction h with
 | refl=>exact Nat.le_refl _
 | step _ ih=>exact Nat.le_trans ih (by show _≤110*_+129;omega)
abbrev mZ(k:Nat)(a:bk):Prop:= ∀i j,aj k (br a i j)
theorem mZ.mono{k m:Nat}{a:bk}(h:mZ k a)(hk:k≤m):mZ m a:=fun i j=>(h i j).mono hk
theorem mZ.pos{k:Nat}{a:bk}(h:mZ k a):1≤k:=(h 0 0).pos
theorem mZ.set{k:Nat}{a:bk}(h:mZ k a){r:List NQ}(hr: ∀j,aj k (r.getD j []))(i:Nat):mZ k (a.set i r):=fun j c=>by
 unfold br;rw[fk];split
 · exact hr c
 · exact h j c
theorem mZ.bR{v:List NQ}{s:ir}{c k:Nat}(h:mZ k s.rows):mZ k (bR v s c):=by
 unfold Lift.bR;split
 · exact h
 · exact(h.set (h _) _).set (h _) _
theorem Lo.step{v:List NQ}(L:Lo v){m N c k:Nat}{s:ir}(R:rN v m N c s)(hs:mZ k s.rows)(hd:aj k s.det)(hk:gS k≤100000000000):
  k8 v s c∧mZ (gS k) (dZ v s c).rows∧aj (gS k) (dZ v s c).det∧(atR v s c<s.rows.length→mZ (gS k) (eR v s c)∧aj (gS k) (ai (hC v.length v (pR v s c)))):=by
 have hg:gS k=110*k+129:=rfl;have hk1:=hs.pos;have hl:=R.len;obtain ⟨a1,a2,a3,a4⟩:=iq v s c (by have:=R.cm;omega);by_cases h:atR v s c<s.rows.length
 · obtain ⟨b1,b2,b3⟩:=wg R h;obtain ⟨e1,e2,e3⟩:=zd L.V.a R h;have sb:mZ k (bR v s c):=hs.bR
   have hp:lD v (pR v s c)≠0:=by
    have h4:=a4 h
    have:br (bR v s c) s.cols.length c=br s.rows (atR v s c) c:=by
     unfold bR br;split
     · rename_i e;rw[e]
     · unfold A9;rw[fk,if_pos ⟨rfl,by rw[List.length_set];omega⟩]
    rw[pR,this];exact h4
   have se:mZ (22*k+25) (eR v s c):=by
    unfold eR;refine(sb.mono (by omega)).set (fun j=>?_) _;by_cases hj:j<((bR v s c).getD s.cols.length []).length
    · rw[pa v _ _ hj];exact(L.div (b3 _ j) (sb _ j) (b3 _ _) (sb _ _) hp (by omega)).2.2.mono (by omega)
    · rw[pB (by rw[o9];omega)];exact bz (by omega)
   have okt: ∀i,Ak v ((eR v s c).getD i []) ((eR v s c).getD s.cols.length []) (br (eR v s c) i c):=fun i j _=>by
    obtain ⟨q1,q2,q3⟩:=L.mul (e3 i c) (se i c) (e3 s.cols.length j) (se s.cols.length j) (by omega);exact⟨q1,(L.sub (e3 i j) (se i j) q2 q3 (by omega)).1⟩
   have sc: ∀i,mZ (gS k) (bH v (eR v s c) s.cols.length c i):=fun i=>by
    induction i with
    | zero=>exact se.mono (by omega)
    | succ i ih =>
      unfold bH;split
      · refine ih.set (fun j=>?_) i;rw[fa v _ _ _ i i (.inl (Nat.le_refl _)),fa v _ _ _ i _ (.inr rfl),sL];by_cases hj:j<((eR v s c).getD i []).length
        · rw[j5 v _ _ _ hj];obtain ⟨q1,q2,q3⟩:=L.mul (e3 i c) (se i c) (e3 s.cols.length j) (se s.cols.length j) (by omega);exact(L.sub (e3 i j) (se i j) q2 q3 (by omega)).2.2.mono (by omega)
        · rw[pB (by rw[ja];omega)];exact bz (by omega)
      · exact ih
   obtain ⟨d1,d2,d3⟩:=L.mul R.det hd (b3 s.cols.length c) (sb _ _) (by omega);refine⟨⟨fun j _ _=>L.sg (R.lt j c) (hs j c) (by omega),fun _=>d1,fun _ j hj=>(L.div (b3 _ j) (sb _ j) (b3 _ _) (sb _ _) hp (by omega)).1,fun _ i _ _=>L.sg (e3 i c) (se i c) (by omega),fun _ i _ _ _=>okt i⟩,?_,?_,fun _=>⟨se.mono (by omega),?_⟩⟩
   · unfold dZ;rw[if_pos h];exact sc _
   · unfold dZ;rw[if_pos h];exact d3.mono (by omega)
   · obtain ⟨i1,i2⟩:=L.inv (b3 s.cols.length c) (sb _ _);exact(aO i1 i2).2.mono (by omega)
 · refine⟨⟨fun j _ _=>L.sg (R.lt j c) (hs j c) (by omega),fun g=>absurd g h,fun g=>absurd g h,fun g=>absurd g h,fun g=>absurd g h⟩,?_,?_,fun g=>absurd g h⟩
   · unfold dZ;rw[if_neg h];exact hs.mono (by omega)
   · unfold dZ;rw[if_neg h];exact hd.mono (by omega)
theorem Lo.Dl{v:List NQ}(L:Lo v){a:bk}{N k:Nat}(hr:b9 N a)(hl:nJ v.length a)(hs:mZ k a): ∀{c:Nat},gI k c≤100000000000→mZ (gI k c) (aH v a c).rows∧aj (gI k c) (aH v a c).det
 | 0,_=>⟨hs,gU (Nat.le_trans k9 hs.pos)⟩
 | c+1,h=>by
   have h0:=Nat.le_trans (iS (Nat.le_succ c)) h;obtain ⟨h1,h2⟩:=L.Dl hr hl hs h0;obtain ⟨_,h3,h4,_⟩:=L.step (gw L.V.a hr hl c) h1 h2 h;exact⟨h3,h4⟩
theorem Lo.red{v:List NQ}(L:Lo v){a:bk}{N k n:Nat}(hr:b9 N a)(hl:nJ v.length a)(hs:mZ k a)(hN:gI k n≤100000000000):
  (∀c,c<n→k8 v (aH v a c) c)∧(∀c,c≤n→mZ (gI k n) (aH v a c).rows)∧(∀c,c≤n→aj (gI k n) (aH v a c).det) ∧
  (∀c,c<n→atR v (aH v a c) c<(aH v a c).rows.length→mZ (gI k n) (eR v (aH v a c) c))∧(∀c,c<n→atR v (aH v a c) c<(aH v a c).rows.length→aj (gI k n) (ai (hC v.length v (pR v (aH v a c) c)))):=by
 have g:=fun c (hc:c≤n)=>L.Dl hr hl hs (Nat.le_trans (iS hc) hN);have s:=fun c (hc:c<n)=>L.step (gw L.V.a hr hl c) (g c (by omega)).1 (g c (by omega)).2 (Nat.le_trans (iS (show c+1≤n from hc)) hN);exact⟨fun c hc=>(s c hc).1,fun c hc=>(g c hc).1.mono (iS hc),fun c hc=>(g c hc).2.mono (iS hc),fun c hc h=>((s c hc).2.2.2 h).1.mono (iS (show c+1≤n from hc)),fun c hc h=>((s c hc).2.2.2 h).2.mono (iS (show c+1≤n from hc))⟩
end Lift
namespace Lift
def vj(v:List NQ)(xs ys:List NQ):Nat→NQ
 | 0=>[]
 | i+1=>CE (vj v xs ys i) (iD v (xs.getD i []) (ys.getD i []))
theorem BG{v:List NQ}(V:mC v){xs ys:List NQ}(hx: ∀i,ak v.length (xs.getD i []))(hy: ∀i,ak v.length (ys.getD i [])): ∀n,ak v.length (vj v xs ys n)
 | 0=>bL _
 | n+1=>bg ((BG V hx hy n).plus (pd V (hx n) (hy n)))
def Iq(v:List NQ)(xs ys:List NQ)(n:Nat):Prop:= ∀i,i<n→tK v (xs.getD i []) (ys.getD i [])∧Bq (vj v xs ys i) (iD v (xs.getD i []) (ys.getD i []))
theorem Lo.dot{v:List NQ}(L:Lo v){xs ys:List NQ}{k m:Nat}(hx: ∀i,ak v.length (xs.getD i []))(hy: ∀i,ak v.length (ys.getD i []))(sx: ∀i,aj k (xs.getD i []))(sy: ∀i,aj m (ys.getD i [])){n:Nat}(hn:n≤32)(hk:k+m≤1000000000):
  Iq v xs ys n∧aj (n*(2*(k+m)+4)+1) (vj v xs ys n):=by
 obtain ⟨X,hX⟩: ∃X,X=2*(k+m)+4:=⟨_,rfl⟩;rw[← hX]
 have ind: ∀i,i≤n→aj (i*X+1) (vj v xs ys i)∧(i<n→tK v (xs.getD i []) (ys.getD i [])∧Bq (vj v xs ys i) (iD v (xs.getD i []) (ys.getD i []))):=by
  have st: ∀i,i<n→aj (i*X+1) (vj v xs ys i)→(tK v (xs.getD i []) (ys.getD i [])∧Bq (vj v xs ys i) (iD v (xs.getD i []) (ys.getD i [])))∧aj ((i+1)*X+1) (vj v xs ys (i+1)):=fun i hi h=>by
   obtain ⟨a1,a2,a3⟩:=L.mul (hx i) (sx i) (hy i) (sy i) (by omega);have hb:i*X≤32*X:=Nat.mul_le_mul_right _ (by omega);have e:(i+1)*X=i*X+X:=Nat.succ_mul i X;obtain ⟨b1,b2,b3⟩:=L.add (BG L.V.a hx hy i) h a2 a3 (by omega);exact⟨⟨a1,b1⟩,b3.mono (by omega)⟩
  intro i hi
  induction i with
  | zero =>
    have s0:aj (0*X+1) (vj v xs ys 0):=bz (Nat.le_add_left _ _);exact⟨s0,fun h=>(st 0 h s0).1⟩
  | succ i ih =>
    have s1:=(st i (by omega) (ih (by omega)).1).2;exact⟨s1,fun h=>(st (i+1) h s1).1⟩
 exact⟨fun i hi=>(ind i (by omega)).2 hi,(ind n (Nat.le_refl n)).1⟩
def uF(a:bk)(k:Nat):List NQ:=a.map fun r=>r.getD k []
theorem Ew(a:bk)(k:Nat):(uF a k).length=a.length:=List.length_map ..
theorem Ex(a:bk)(k i:Nat):(uF a k).getD i []=br a i k:=BI a k i
section
variable {m0:Nat} {v:List NQ} (V:jv m0 v) {a:bk} (G:xL v a) {b:List NQ} (hb: ∀i,ak v.length (b.getD i []))
include V G hb
end
end Lift
namespace Lift
open Go Go.Proofs
abbrev jY(l:List Nat):D:= .sl 1 (l.map (fun c:Nat=>dI c))
theorem vU{l:List Nat}{i:Nat}(h:i<l.length):(l.map (fun c:Nat=>dI c))[i]?=some (dI (l.getD i 0)):=by simp[h]
def EZ(l:List Nat)(x:Nat)(i:Nat):Bool:=decide ((x:Int)=(l.getD i 0:Nat))
def I5(l:List Nat)(x:Nat):Int:=if iG (EZ l x) (l.length-0) 0<l.length then (iG (EZ l x) (l.length-0) 0:Nat) else -1
theorem FX(l:List Nat)(x:Nat):decide (0≤I5 l x)=l.contains x:=by
 obtain ⟨h1,h2,h3,h4⟩:=qO (g:=EZ l x) (m:=l.length-0) (i:=0);unfold I5;by_cases h:iG (EZ l x) (l.length-0) 0<l.length
 · rw[if_pos h,decide_eq_true (Int.natCast_nonneg _)];have:=h4 (by omega)
   have e:x=l.getD (iG (EZ l x) (l.length-0) 0) 0:=by
    have:=of_decide_eq_true this;omega
   rw[e,List.getD_eq_getElem?_getD,List.getElem?_eq_getElem h];exact(List.contains_iff_mem.2 (List.getElem_mem h)).symm
 · rw[if_neg h,decide_eq_false (by decide)];refine(Bool.eq_false_iff.2 fun hc=>?_).symm;have hm:=List.contains_iff_mem.1 hc;obtain ⟨j,hj,e⟩:=List.getElem_of_mem hm;have:=h3 j (Nat.zero_le _) (by omega);unfold EZ at this;rw[List.getD_eq_getElem?_getD,List.getElem?_eq_getElem hj] at this;have:=of_decide_eq_false this;exact this (by show (x:Int)=((l[j]:Nat):Int);rw[e])
theorem p7(bs:List Nat)(hl:bs.length≤1000000000000000)(x:Nat):Pure Tryz.prog 93 [jY bs,dI x] (dI (I5 bs x)):=by
 refine qJ 19 Tryz.func93 rfl rfl rfl rfl (by kernel_rfl) (fun B F0 w0=>?_);unfold I5;generalize hE:iG (EZ bs x) (bs.length-0) 0=E;refine qX 1 rfl ?_;refine qI ?_;refine qX 3 rfl ?_;rw[List.length_map];refine ab.nil ?_;refine AW.block ?_;refine AW.aD [0,1,7,8] (fun i:Nat=>[(0,.d (jY bs)),(1,.d (dI x)),(7,.d (dI bs.length)),(8,.d (dI i))]) (fun i=>i≤bs.length∧iG (EZ bs x) (bs.length-i) i=E) (fun i=>bs.length-i) 0 rfl ⟨Nat.zero_le _,hE⟩ (fun i hi=>?_);obtain ⟨hi,hE⟩:=hi
 · skip
   refine qX 1 rfl ?_;refine qI ?_;refine AW.cond rfl (fun h=>?_) (fun h=>?_)
   · have hin:i<bs.length:=by have:=of_decide_eq_true h;omega
     have hhit:=uj (g:=EZ bs x) hin;have hmiss:=qM (g:=EZ bs x) hin;refine AW.skip (AW.seq (AW.block ?_));refine qX 2 rfl ?_;refine qK 3 rfl ?_;refine ab.idx tok (dI (bs.getD i 0)) rfl rfl rfl rfl (Int.natCast_nonneg i) (vU hin) ?_;refine qU 2 rfl ?_;refine ab.nil ?_;refine AW.cond rfl (fun h=>?_) (fun h=>?_)
     · have e:E=i:=hE.symm.trans (hhit h);rw[e,if_pos hin];refine qX 2 rfl ?_;exact qN rfl
     · skip
       refine AW.skip ?_;refine qT 1 rfl ?_;rw[aA (x:=(i:Int)+1) (by omega) (by omega)];refine qU 1 rfl ?_;refine ab.nil ?_;exact⟨i+1,rfl,⟨hin,by rw[← hmiss h];exact hE⟩,by omega⟩
   have hin: ¬i<bs.length:=by have:=of_decide_eq_false h;omega
   have e:E=i:=by rw[← hE,uk hin]
   rw[e,if_neg hin];refine AW.exit ?_;refine qX 1 rfl ?_;exact qN rfl
theorem iN(bs:List Nat)(hl:bs.length≤1000000000000000)(x:Nat):Pure Tryz.prog 50 [jY bs,dI x] (dB (bs.contains x)):=by
 refine qJ 9 Tryz.func50 rfl rfl rfl rfl (by kernel_rfl) (fun B F0 w0=>?_);rw[← FX];refine qX 1 rfl ?_;refine qK 2 rfl ?_;refine ab.call tok rfl rfl rfl rfl (p7 bs hl x) ?_;refine qU 2 rfl ?_;exact qN rfl
theorem zQ{α:Type}{d:α}{l:List α}{i:Nat}(h:i<l.length):l.take (i+1)=l.take i++[l.getD i d]:=by
 rw[List.take_succ_eq_append_getElem h,List.getD_eq_getElem?_getD,List.getElem?_eq_getElem h];rfl
theorem qv(a:bk)(k:Nat)(ha:a.length≤1000000)(hr: ∀i,i<a.length→k<(a.getD i []).length):Pure Tryz.prog 59 [bS a,dI k] (dv (uF a k)):=by
 refine qJ 23 Tryz.func59 rfl rfl rfl rfl (by kernel_rfl) (fun B F0 w0=>?_);have hc:=Ew a k
 have hts: ∀i,i<a.length→(uF a k).take (i+1)=(uF a k).take i++[(a.getD i []).getD k []]:=fun i hi=>by
  rw[zQ (d:=[]) (by omega),Ex];rfl
 have hta:(uF a k).take a.length=uF a k:=List.take_of_length_le (by omega);generalize uF a k=zs at *;refine qX 1 rfl ?_;refine qK 1 rfl ?_;refine qI ?_;refine qX 3 rfl ?_;rw[List.length_map];refine ab.nil ?_;refine AW.block ?_;refine AW.aD [0,1,5,8,9,10] (fun i:Nat=>[(0,.d (bS a)),(1,.d (dI k)),(5,.ow 53 ((zs.take i).map ah)),(8,.d (bS a)),(9,.d (dI a.length)),(10,.d (dI i))]) (fun i=>i≤a.length) (fun i=>a.length-i) 0 rfl (Nat.zero_le _) (fun i hi=>?_)
 · show AW _ _ _ _ _ _ _ [(0,.d (bS a)),(1,.d (dI k)),(5,.ow 53 ((zs.take i).map ah)),(8,.d (bS a)),(9,.d (dI a.length)),(10,.d (dI i))];refine qX 1 rfl ?_;refine qI ?_;refine AW.cond rfl (fun h=>?_) (fun h=>?_)
   · have hii:i<a.length:=by have:=of_decide_eq_true h;omega
     have g1:=getM dv (l:=a) (i:=i) hii;have g2:=getM ah (l:=a.getD i []) (i:=k) (hr i hii);have hts:=hts i hii;generalize a.getD i []=r at g1 g2 hts;generalize r.getD k []=x at g2 hts;refine AW.skip (AW.seq (AW.block (AW.seq (AW.region ?_))));refine ab.idx tok (dv r) rfl rfl rfl rfl (Int.natCast_nonneg i) g1 ?_;refine qU 2 rfl ?_;refine ab.nil ?_;refine qT 3 rfl ?_;refine ab.idx tok (ah x) rfl rfl rfl rfl (Int.natCast_nonneg k) g2 ?_;refine qU 1 rfl ?_;refine ab.fA tok rfl rfl rfl rfl rfl ?_;refine ab.gK tok rfl rfl rfl rfl rfl rfl (by rw[List.length_map,List.length_take];show (_+1)*24≤_;omega) (by rw[List.length_map,List.length_take];show _+1≤_;omega) ?_;refine qU 1 rfl ?_;refine ab.nil ?_;refine qT 1 rfl ?_;rw[aA (x:=(i:Int)+1) (by omega) (by omega)];refine qU 1 rfl ?_;refine ab.nil ?_;exact⟨i+1,by rw[hts,List.map_append];rfl,hii,by omega⟩
   have hii:i=a.length:=by have:=of_decide_eq_false h;omega
   subst hii;rw[hta];refine AW.exit (AW.seq (AW.region ?_));refine ab.fS tok 5 rfl rfl ?_;refine qU 2 rfl ?_;exact qN rfl
theorem BU(a:bk){k:Nat}(h:k<ay a):(b6 a).getD k []=uF a k:=mH a h
theorem qp(a:bk)(ha:a.length≤1000000)(hc:ay a≤1000000)(hr:b9 (ay a) a):Pure Tryz.prog 92 [bS a] (bS (b6 a)):=by
 refine qJ 18 Tryz.func92 rfl rfl rfl rfl (by kernel_rfl) (fun B F0 w0=>?_);have hz:=iZ a
 have hts: ∀k,k<ay a→(b6 a).take (k+1)=(b6 a).take k++[uF a k]:=fun k hk=>by
  rw[zQ (d:=[]) (by omega),BU a hk]
 have hta:(b6 a).take (ay a)=b6 a:=List.take_of_length_le (by omega);have cc:=fun k (hk:k<ay a)=>qv a k ha (fun i hi=>by rw[hr i hi];exact hk);generalize b6 a=zs at *;refine qX 1 rfl ?_;refine qK 1 rfl ?_;refine qI ?_;refine qX 1 rfl ?_;refine ab.call tok rfl rfl rfl rfl (eK a) ?_;refine qU 1 rfl ?_;refine ab.nil ?_;refine AW.block ?_;refine AW.aD [0,3,6,7] (fun i:Nat=>[(0,.d (bS a)),(3,.ow 22 ((zs.take i).map dv)),(6,.d (dI (ay a))),(7,.d (dI i))]) (fun i=>i≤ay a) (fun i=>ay a-i) 0 rfl (Nat.zero_le _) (fun i hi=>?_)
 · show AW _ _ _ _ _ _ _ [(0,.d (bS a)),(3,.ow 22 ((zs.take i).map dv)),(6,.d (dI (ay a))),(7,.d (dI i))];refine qX 1 rfl ?_;refine qI ?_;refine AW.cond rfl (fun h=>?_) (fun h=>?_)
   · have hii:i<ay a:=by have:=of_decide_eq_true h;omega
     have cc:=cc i hii;have hts:=hts i hii;generalize uF a i=z at cc hts;refine AW.skip (AW.seq (AW.block ?_));refine qX 2 rfl ?_;refine ab.nil ?_;refine qT 3 rfl ?_;refine ab.call tok rfl rfl rfl rfl cc ?_;refine ab.fA tok rfl rfl rfl rfl rfl ?_;refine ab.gK tok rfl rfl rfl rfl rfl rfl (by rw[List.length_map,List.length_take];show (_+1)*24≤_;omega) (by rw[List.length_map,List.length_take];show _+1≤_;omega) ?_;refine qU 1 rfl ?_;refine ab.nil ?_;refine qT 1 rfl ?_;rw[aA (x:=(i:Int)+1) (by omega) (by omega)];refine qU 1 rfl ?_;refine ab.nil ?_;exact⟨i+1,by rw[hts,List.map_append];rfl,hii,by omega⟩
   have hii:i=ay a:=by have:=of_decide_eq_false h;omega
   subst hii;rw[hta];refine AW.exit (AW.seq (AW.region ?_));refine ab.fS tok 3 rfl rfl ?_;refine qU 2 rfl ?_;exact qN rfl
theorem lF{v:List NQ}{a:bk}(V:mC v)(G:xL v a)(ok: ∀c,c<a.length→k8 v (aH v (b6 a) c) c):Pure Tryz.prog 49 [bI v,bS a] (.tu [jY (aH v (b6 a) a.length).cols,aI]):=by
 refine qJ 20 Tryz.func49 rfl rfl rfl rfl (by kernel_rfl) (fun B F0 w0=>?_);have hGl:=G.l;have hGc:=G.c;have ct:=qp a (by omega) (by omega) G.r;have cr:=gg V (most:=a.length) (by rw[iZ];omega) (by omega) (Nat.le_refl _) (kJ a) (oE G.lt) ok;generalize aH v (b6 a) a.length=s at *;generalize b6 a=z at *;refine qX 3 rfl ?_;refine qI ?_;refine AW.my tok aL [(8,true),(1,false),(1,true)] 10 [6] (by kernel_rfl) ⟨rfl,?_⟩;refine qP 2 rfl ?_;refine ae.call tok rfl rfl rfl rfl rfl ct ?_;refine qP 2 rfl ?_;rw[List.length_map];refine ae.call tok rfl rfl rfl rfl rfl cr ?_;refine qP 2 rfl ?_;refine ae.nil ⟨rfl,?_⟩;refine qP 1 rfl ?_;refine ae.nil ⟨rfl,?_⟩;refine qP 1 rfl ?_;refine ae.nil ⟨_,nH.cons (.bx rfl) (nH.nil),?_⟩;refine qU 1 rfl ?_;refine qK 5 rfl ?_;exact qN rfl
theorem m7{m:Nat}{v:List NQ}{a:bk}(V:jv m v)(hk:mQ v.length m)(G:xL v a)(hs: ∀i k,aj m (br a i k))(ok: ∀c,c<a.length→k8 v (aH v (b6 a) c) c):Pure Tryz.prog 15 [bI v,bS a] (.tu [jY (Ac v a),aI]):=by
 refine qJ 41 Tryz.func15 rfl rfl rfl rfl (by kernel_rfl) (fun B F0 w0=>?_);obtain ⟨r1,r2⟩:=G.raw V hs;have cc:=ei (V.s hk) r1;rw[r2,nP,wK] at cc;have hGl:=G.l;have ci:=lF V.a G ok;have hcl:=(gw V.a (kJ a) (oE G.lt) a.length).cl;unfold Ac kp;generalize aH v (b6 a) a.length=s at *
 have hf: ∀i,((List.range (i+1)).filter fun i=> !s.cols.contains i)=((List.range i).filter fun i=> !s.cols.contains i)++(if s.cols.contains i then [] else [i]):=fun i=>by
  rw[List.range_succ,List.filter_append]
  congr 1
  by_cases h:s.cols.contains i=true
  · rw[if_pos h,List.filter_cons_of_neg (by rw[h];simp)];rfl
  · rw[if_neg h,List.filter_cons_of_pos (by simp only[Bool.not_eq_true] at h;rw[h];rfl)];rfl
 have hfl: ∀i,((List.range i).filter fun i=> !s.cols.contains i).length≤i:=fun i=>Nat.le_trans (List.length_filter_le ..) (by rw[List.length_range];exact Nat.le_refl _);refine qX 3 rfl ?_;refine qI ?_;refine qX 2 rfl ?_;refine ab.call tok rfl rfl rfl rfl cc ?_;refine qU 1 rfl ?_;refine qK 1 rfl ?_;refine ab.err tok rfl rfl rfl rfl rfl ?_;refine ab.nil ?_;refine AW.ar rfl ?_
 · skip
   refine AW.skip ?_;refine qX 2 rfl ?_;refine ab.call tok rfl rfl rfl rfl ci ?_;refine qU 5 rfl ?_;refine qI ?_;refine qX 1 rfl ?_;refine ab.err tok rfl rfl rfl rfl rfl ?_;refine ab.nil ?_;refine AW.ar rfl ?_
   · skip
     refine AW.skip ?_;refine qX 1 rfl ?_;refine qI ?_;refine qX 2 rfl ?_;rw[List.length_map];refine qU 1 rfl ?_;refine ab.nil ?_;refine AW.block ?_;refine AW.aD [7,9,27,28] (fun i:Nat=>[(7,.d (jY s.cols)),(9,.ow 3 (((List.range i).filter fun i=> !s.cols.contains i).map (fun c:Nat=>dI c))),(27,.d (dI a.length)),(28,.d (dI i))]) (fun i=>i≤a.length) (fun i=>a.length-i) 0 rfl (Nat.zero_le _) (fun i hi=>?_)
     · show AW _ _ _ _ _ _ _ [(7,.d (jY s.cols)),(9,.ow 3 (((List.range i).filter fun i=> !s.cols.contains i).map (fun c:Nat=>dI c))),(27,.d (dI a.length)),(28,.d (dI i))];refine qX 1 rfl ?_;refine qI ?_;refine AW.cond rfl (fun h=>?_) (fun h=>?_)
       · have hii:i<a.length:=by have:=of_decide_eq_true h;omega
         have hf:=hf i;have hfl:=hfl i;have ch:=iN s.cols (by omega) i;generalize s.cols.contains i=b at hf ch;refine AW.skip (AW.seq (AW.block ?_));refine qX 2 rfl ?_;refine qK 2 rfl ?_;refine ab.call tok rfl rfl rfl rfl ch ?_;refine qU 1 rfl ?_;refine ab.nil ?_;refine AW.cond rfl (fun h=>?_) (fun h=>?_)
         · rw[show b=false by cases b;rfl;cases h] at hf;refine qT 2 rfl ?_;refine ab.fA tok rfl rfl rfl rfl rfl ?_;refine ab.gK tok rfl rfl rfl rfl rfl rfl (by rw[List.length_map];show (_+1)*8≤_;omega) (by rw[List.length_map];show _+1≤_;omega) ?_;refine qU 1 rfl ?_;refine ab.nil ?_;refine qT 1 rfl ?_;rw[aA (x:=(i:Int)+1) (by omega) (by omega)];refine qU 1 rfl ?_;refine ab.nil ?_;exact⟨i+1,by rw[hf,if_neg (by decide),List.map_append];rfl,hii,by omega⟩
         · rw[show b=true by cases b;cases h;rfl] at hf;refine AW.skip ?_;refine qT 1 rfl ?_;rw[aA (x:=(i:Int)+1) (by omega) (by omega)];refine qU 1 rfl ?_;refine ab.nil ?_;exact⟨i+1,by rw[hf,if_pos rfl,List.append_nil];rfl,hii,by omega⟩
       have hii:i=a.length:=by have:=of_decide_eq_false h;omega
       subst hii;refine AW.exit (AW.seq (AW.region ?_));refine ab.fS tok 9 rfl rfl ?_;refine qU 3 rfl ?_;exact qN rfl
end Lift
namespace Lift
open Go Go.Proofs
section
variable {P:Program} {T:Ty} {B:Nat} {F0:Nat→Prop} {w0:bQ} {n:Nat} {σ:St} {all:Array Oper} {rest:List Oper} {o:Oper} {d:Nat} {K:St→Prop}
theorem ab.DN(hT:a6 P T)(z:Nat){e:Nat}{te:TI}{m:Int}(hd:o.dst=some d)(hdn:Nat.ble (d+1) n=true)(hg:aq all σ o=true)(hx:Hp T σ.get o.op=some (e,te,m))(hz:jO te=true)(hzd:q9 te= .sl 3 [])(hb:te.bytes=24)(hm:m=(z:Int))(h1:z≤1000000)
  (h:ab P B F0 w0 n all rest K ((d,.ow e ((List.replicate z ([]:NQ)).map ah))::σ.kill d)):ab P B F0 w0 n all (o::rest) K σ:=by
 subst hm;refine ab.make hT hd hdn hg hx hz (by omega) (by rw[hb];omega) (by omega) ?_;rw[hzd,show List.replicate ((z:Int)).toNat (D.sl 3 [])=(List.replicate z ([]:NQ)).map ah by rw[List.map_replicate];rfl];exact h
end
theorem wv:Pure Tryz.prog 87 [(Qr ((1:Int):Rat)).D] (ah [1]):=by
 have cone:=lM (Qr ((1:Int):Rat)) (k:=1) (iL _ (by have:=k9;rw[show ((1:Int):Rat)=1 from rfl];omega)) (by decide) (by decide) (zq _);rw[bK,show HX ((1:Int):Rat)=[1] from rfl] at cone;exact cone
def FU(s:ir)(n:Nat):bk:=((List.range n).filter fun i=> !s.cols.contains i).map fun c=>kn s n c s.cols.length
def ud(s:ir)(n i:Nat):bk:=((List.range i).filter fun i=> !s.cols.contains i).map fun c=>kn s n c s.cols.length
theorem vR(s:ir)(n i:Nat):ud s n (i+1)=ud s n i++(if s.cols.contains i then [] else [kn s n i s.cols.length]):=by
 unfold ud;rw[List.range_succ,List.filter_append,List.map_append]
 congr 1
 by_cases h:s.cols.contains i=true
 · rw[if_pos h,List.filter_cons_of_neg (by rw[h];simp)];rfl
 · rw[if_neg h,List.filter_cons_of_pos (by simp only[Bool.not_eq_true] at h;rw[h];rfl)];rfl
theorem yW(s:ir)(n i:Nat):(ud s n i).length≤i:=by
 unfold ud;rw[List.length_map];exact Nat.le_trans (List.length_filter_le ..) (by rw[List.length_range];exact Nat.le_refl _)
set_option maxHeartbeats 800000 in
theorem qu{v:List NQ}(V:mC v){rows:bk}{cols:List Nat}{sg:Int}{det:NQ}{n:Nat}(hn:n≤1000000)(hr:b9 n rows)(hl:nJ v.length rows)(hs: ∀r c,kC (br rows r c))(hc: ∀r,r<cols.length→cols.getD r 0<n)(hcl:cols.length≤rows.length)(hcn:cols.length≤1000000):
  Pure Tryz.prog 48 [bI v,CF ⟨rows,cols,sg,det⟩,dI n] (.tu [bS (FU ⟨rows,cols,sg,det⟩ n),aI]):=by
 refine qJ 65 Tryz.func48 rfl rfl rfl rfl (by kernel_rfl) (fun B F0 w0=>?_);have hks:=vR ⟨rows,cols,sg,det⟩ n;have hkl:=yW ⟨rows,cols,sg,det⟩ n;have hk0:ud ⟨rows,cols,sg,det⟩ n 0=[]:=rfl;have hv0: ∀c,kn ⟨rows,cols,sg,det⟩ n c 0=(List.replicate n []).set c [1]:=fun c=>rfl;have hvs: ∀c r,kn ⟨rows,cols,sg,det⟩ n c (r+1)=(kn ⟨rows,cols,sg,det⟩ n c r).set (cols.getD r 0) (qn (br rows r c)):=fun c r=>rfl;have hvl:=ph ⟨rows,cols,sg,det⟩ n;show AW _ _ _ _ _ _ (Dj _ _ (.tu [bS (ud ⟨rows,cols,sg,det⟩ n n),aI])) _;generalize ud ⟨rows,cols,sg,det⟩ n=kI at *;generalize kn ⟨rows,cols,sg,det⟩ n=kv at *;simp only[] at hks;refine qX 4 rfl ?_;refine qK 1 rfl ?_;refine qI ?_;refine qX 2 rfl ?_;refine ab.nil ?_;refine AW.block ?_;refine AW.aD [2,3,4,8,15,16] (fun c:Nat=>[(2,.d (dI n)),(3,.bx [.sl 1 (v.map ah)]),(4,.bx [bS rows,jY cols,dI sg,ah det]),(8,.ow 22 ((kI c).map dv)),(15,.d (dI n)),(16,.d (dI c))]) (fun c=>c≤n) (fun c=>n-c) 0 (by rw[hk0];rfl) (Nat.zero_le _) (fun c hcc=>?_)
 · show AW _ _ _ _ _ _ _ [(2,.d (dI n)),(3,.bx [.sl 1 (v.map ah)]),(4,.bx [bS rows,jY cols,dI sg,ah det]),(8,.ow 22 ((kI c).map dv)),(15,.d (dI n)),(16,.d (dI c))];refine qX 1 rfl ?_;refine qI ?_;refine AW.cond rfl (fun h=>?_) (fun h=>?_)
   · have hcn':c<n:=by have:=of_decide_eq_true h;omega
     have hks:=hks c;have hkl:=hkl c;have ch:=iN cols (by omega) c;generalize cols.contains c=b at hks ch;refine AW.skip (AW.seq (AW.block ?_));refine qX 2 rfl ?_;refine qI ?_;refine qX 3 rfl ?_;refine ab.call tok rfl rfl rfl rfl ch ?_;refine ab.nil ?_;refine AW.cond rfl (fun h=>?_) (fun h=>?_)
     · rw[show b=true from h] at hks;refine AW.exit ?_;refine qT 1 rfl ?_;rw[aA (x:=(c:Int)+1) (by omega) (by omega)];refine qU 1 rfl ?_;refine ab.nil ?_;exact⟨c+1,by rw[hks,if_pos rfl,List.append_nil];rfl,hcn',by omega⟩
     · rw[show b=false from h] at hks;refine AW.skip ?_;refine qX 1 rfl ?_;refine ab.DN tok n rfl rfl rfl rfl rfl rfl rfl rfl (by omega) ?_;refine qU 1 rfl ?_;refine qK 2 rfl ?_;refine ab.call tok rfl rfl rfl rfl (gk 1 (by decide) (by decide)) ?_;refine ab.call tok rfl rfl rfl rfl wv ?_;refine ab.fg tok rfl rfl rfl rfl (Int.natCast_nonneg c) (by rw[List.length_map,List.length_replicate];omega) ?_;refine ab.lQ tok [1] rfl rfl rfl (by rw[List.length_replicate];exact hcn') ?_;refine qI ?_;refine qX 3 rfl ?_;rw[List.length_map];refine qU 1 rfl ?_;refine ab.nil ?_;refine AW.block ?_;refine AW.aD [2,3,4,8,9,10,15,16,31,32,33] (fun r:Nat=>[(2,.d (dI n)),(3,.bx [.sl 1 (v.map ah)]),(4,.bx [bS rows,jY cols,dI sg,ah det]),(8,.ow 22 ((kI c).map dv)),(9,.d (dI c)),(10,.ow 53 ((kv c r).map ah)),(15,.d (dI n)),(16,.d (dI c)),(31,.d (jY cols)),(32,.d (dI cols.length)),(33,.d (dI r))]) (fun r=>r≤cols.length) (fun r=>cols.length-r) 0 (by rw[hv0];rfl) (Nat.zero_le _) (fun r hrc=>?_)
       · show AW _ _ _ _ _ _ _ [(2,.d (dI n)),(3,.bx [.sl 1 (v.map ah)]),(4,.bx [bS rows,jY cols,dI sg,ah det]),(8,.ow 22 ((kI c).map dv)),(9,.d (dI c)),(10,.ow 53 ((kv c r).map ah)),(15,.d (dI n)),(16,.d (dI c)),(31,.d (jY cols)),(32,.d (dI cols.length)),(33,.d (dI r))];refine qX 1 rfl ?_;refine qI ?_;refine AW.cond rfl (fun h=>?_) (fun h=>?_)
         · have hrr:r<cols.length:=by have:=of_decide_eq_true h;omega
           have hvs:=hvs c r;have hvl:=hvl c r;have hcr:=hc r hrr;have g0:=vU (l:=cols) (i:=r) hrr;have g1:=getM dv (l:=rows) (i:=r) (by omega);have g2:=getM ah (l:=rows.getD r []) (i:=c) (by rw[hr r (by omega)];exact hcn');have cn:=sY V (hl r c) (hs r c);unfold br at cn hvs;generalize rows.getD r []=row at g1 g2 cn hvs;generalize row.getD c []=x at g2 cn hvs;generalize cols.getD r 0=p at g0 hcr hvs;refine AW.skip (AW.seq (AW.block ?_));refine qX 1 rfl ?_;refine ab.idx tok (dI p) rfl rfl rfl rfl (Int.natCast_nonneg r) g0 ?_;refine qU 3 rfl ?_;refine qI ?_;refine AW.draw aL 14 (by kernel_rfl) ?_;refine qP 4 rfl ?_;refine ae.idx tok (dv row) rfl rfl rfl rfl rfl (Int.natCast_nonneg r) g1 ?_;refine qP 2 rfl ?_;refine ae.idx tok (ah x) rfl rfl rfl rfl rfl (Int.natCast_nonneg c) g2 ?_;refine qP 1 rfl ?_;refine ae.call tok rfl rfl rfl rfl rfl cn ?_;refine qP 4 rfl ?_;refine ae.nil ?_;refine qU 1 rfl ?_;refine qI ?_;refine qX 1 rfl ?_;refine ab.err tok rfl rfl rfl rfl rfl ?_;refine ab.nil ?_;refine AW.ar rfl ?_
           · skip
             refine AW.skip ?_;refine qT 3 rfl ?_;refine ab.fg tok rfl rfl rfl rfl (Int.natCast_nonneg p) (by rw[List.length_map,hvl];omega) ?_;refine ab.lQ tok (qn x) rfl rfl rfl (by rw[hvl];exact hcr) ?_;refine ab.nil ?_;refine qT 1 rfl ?_;rw[aA (x:=(r:Int)+1) (by omega) (by omega)];refine qU 1 rfl ?_;refine ab.nil ?_;exact⟨r+1,by rw[hvs];rfl,hrr,by omega⟩
         have hrr:r=cols.length:=by have:=of_decide_eq_false h;omega
         subst hrr;refine AW.exit (AW.region ?_);refine ab.fS tok 10 rfl rfl ?_;refine qU 2 rfl ?_;refine ab.fA tok rfl rfl rfl rfl rfl ?_;refine ab.gK tok rfl rfl rfl rfl rfl rfl (by rw[List.length_map];show (_+1)*24≤_;omega) (by rw[List.length_map];show _+1≤_;omega) ?_;refine qU 1 rfl ?_;refine ab.nil ?_;refine qT 1 rfl ?_;rw[aA (x:=(c:Int)+1) (by omega) (by omega)];refine qU 1 rfl ?_;refine ab.nil ?_;exact⟨c+1,by rw[hks,if_neg (by decide),List.map_append];rfl,hcn',by omega⟩
   have hcc:c=n:=by have:=of_decide_eq_false h;omega
   subst hcc;refine AW.exit (AW.seq (AW.region ?_));refine ab.fS tok 8 rfl rfl ?_;refine qU 3 rfl ?_;exact qN rfl
theorem qw{m:Nat}{v:List NQ}{a:bk}(V:jv m v)(hk:mQ v.length m)(G:xL v a)(hs: ∀i k,aj m (br a i k))(ok: ∀c,c<ay a→k8 v (aH v a c) c)(hK: ∀i k,kC (br (gz v a).rows i k)):Pure Tryz.prog 14 [bI v,bS a] (.tu [bS (qC v a),aI]):=by
 refine qJ 33 Tryz.func14 rfl rfl rfl rfl (by kernel_rfl) (fun B F0 w0=>?_);obtain ⟨r1,r2⟩:=G.raw V hs;have cc:=ei (V.s hk) r1;rw[r2,nP,wK] at cc;have hGl:=G.l;have hGc:=G.c;have cr:=gg V.a (most:=ay a) (by omega) (by omega) (Nat.le_refl _) G.r G.lt ok;have R:=gw V.a G.r G.lt (ay a);have hlt:=sv v a (ay a);change Pure _ _ _ (.tu [CF (gz v a),aI]) at cr;change rN v a.length (ay a) (ay a) (gz v a) at R;change ∀x∈(gz v a).cols,x<ay a at hlt;show AW _ _ _ _ _ _ (Dj _ _ (.tu [bS (FU (gz v a) (ay a)),aI])) _;generalize gz v a=s at *;obtain ⟨rows,cols,sg,det⟩:=s
 have ck:=qu V.a (rows:=rows) (cols:=cols) (sg:=sg) (det:=det) (n:=ay a) (by omega) R.rect R.lt hK (fun r hr=>by
  rw[List.getD_eq_getElem?_getD,List.getElem?_eq_getElem hr]
  exact hlt _ (List.getElem_mem hr)) (by have:=R.cm;have:=R.len;simp only[] at *; omega) (by have:=R.cm;simp only[] at *; omega)
 have cols_ok:=eK a;generalize FU ⟨rows,cols,sg,det⟩ (ay a)=K at ck ⊢;clear R;refine qX 3 rfl ?_;refine qI ?_;refine qX 2 rfl ?_;refine ab.call tok rfl rfl rfl rfl cc ?_;refine qU 1 rfl ?_;refine qK 1 rfl ?_;refine ab.err tok rfl rfl rfl rfl rfl ?_;refine ab.nil ?_;refine AW.ar rfl ?_
 · skip
   refine AW.skip (AW.seq ?_);refine AW.my tok aL [(7,true),(1,false),(1,true)] 9 [7] (by kernel_rfl) ⟨rfl,?_⟩;refine qP 3 rfl ?_;refine ae.call tok rfl rfl rfl rfl rfl cols_ok ?_;refine ae.call tok rfl rfl rfl rfl rfl cr ?_;refine qP 2 rfl ?_;refine ae.nil ⟨rfl,?_⟩;refine qP 1 rfl ?_;refine ae.nil ⟨rfl,?_⟩;refine qP 1 rfl ?_;refine ae.nil ⟨_,nH.cons (.bx rfl) (nH.nil),?_⟩;refine qU 1 rfl ?_;refine qI ?_;refine qX 1 rfl ?_;refine ab.err tok rfl rfl rfl rfl rfl ?_;refine ab.nil ?_;refine AW.ar rfl ?_
   · skip
     refine AW.skip (AW.seq ?_);refine AW.draw aL 7 (by kernel_rfl) ?_;refine qP 3 rfl ?_;refine ae.call tok rfl rfl rfl rfl rfl cols_ok ?_;refine ae.call tok rfl rfl rfl rfl rfl ck ?_;refine qP 2 rfl ?_;refine ae.nil ?_;refine qU 2 rfl ?_;exact qN rfl
end Lift
namespace Lift
open Go Go.Proofs
def AL(v:List NQ)(a:bk):NQ:=if (aH v a a.length).cols.length<a.length then [] else if (aH v a a.length).sg<0 then qn (aH v a a.length).det else (aH v a a.length).det
theorem vd{v:List NQ}{a:bk}(V:mC v)(ha:a.length≤1000000)(hr:b9 a.length a)(hl:nJ v.length a)(ok: ∀c,c<a.length→k8 v (aH v a c) c)(hd:kC (aH v a a.length).det):Pure Tryz.prog 60 [bI v,bS a] (.tu [ah (AL v a),aI]):=by
 refine qJ 38 Tryz.func60 rfl rfl rfl rfl (by kernel_rfl) (fun B F0 w0=>?_);have cr:=gg V (most:=a.length) ha ha (Nat.le_refl _) hr hl ok;have R:=gw V hr hl a.length;have cn:=sY V R.det hd;have hcm:=R.cm;unfold AL;generalize aH v a a.length=s at *;obtain ⟨rows,cols,sg,det⟩:=s;clear R
 dsimp only at hcm cn ⊢
 change Pure _ _ _ (.tu [.ag [bS rows,jY cols,dI sg,ah det],aI]) at cr;refine qX 3 rfl ?_;refine qK 4 rfl ?_;rw[List.length_map];refine ab.call tok rfl rfl rfl rfl cr ?_;refine qU 6 rfl ?_;refine qI ?_;refine qX 1 rfl ?_;refine ab.err tok rfl rfl rfl rfl rfl ?_;refine qU 3 rfl ?_;refine qU 1 rfl ?_;rw[List.length_map];refine qU 2 rfl ?_;rw[List.length_map];refine qU 2 rfl ?_;refine ab.nil ?_;refine AW.cond rfl (fun h=>?_) (fun h=>?_)
 · have hc:cols.length<a.length:=by have:=of_decide_eq_true h;omega
   rw[if_pos hc];refine qX 3 rfl ?_;exact qN rfl
 · have hc: ¬cols.length<a.length:=by have:=of_decide_eq_false h;omega
   rw[if_neg hc];refine AW.skip (AW.seq ?_);refine qX 3 rfl ?_;refine ab.nil ?_;refine AW.cond rfl (fun h=>?_) (fun h=>?_)
   · have hs:sg<0:=of_decide_eq_true h;rw[if_pos hs];refine qX 3 rfl ?_;refine ab.call tok rfl rfl rfl rfl cn ?_;refine qU 4 rfl ?_;exact qN rfl
   · have hs: ¬sg<0:=of_decide_eq_false h;rw[if_neg hs];refine AW.skip ?_;refine qX 4 rfl ?_;exact qN rfl
theorem ve{v:List NQ}{a:bk}(cc:Pure Tryz.prog 20 [bI v,bS a] aI)(hsq:ay a=a.length)(cd:Pure Tryz.prog 60 [bI v,bS a] (.tu [ah (AL v a),aI])):Pure Tryz.prog 27 [bI v,bS a] (.tu [ah (AL v a),aI]):=by
 refine qJ 24 Tryz.func27 rfl rfl rfl rfl (by kernel_rfl) (fun B F0 w0=>?_);generalize AL v a=d at *;refine qX 3 rfl ?_;refine qI ?_;refine qX 2 rfl ?_;refine ab.call tok rfl rfl rfl rfl cc ?_;refine qU 1 rfl ?_;refine qK 1 rfl ?_;refine ab.err tok rfl rfl rfl rfl rfl ?_;refine ab.nil ?_;refine AW.ar rfl ?_
 · skip
   refine AW.skip (AW.seq ?_);refine qX 1 rfl ?_;refine ab.call tok rfl rfl rfl rfl (eK a) ?_;refine qU 2 rfl ?_;rw[List.length_map];refine qU 1 rfl ?_;rw[hsq,bne_eq_false_iff_eq.2 rfl];refine ab.nil ?_;refine AW.ar rfl ?_
   · skip
     refine AW.skip ?_;refine qX 2 rfl ?_;refine ab.call tok rfl rfl rfl rfl cd ?_;refine qU 4 rfl ?_;exact qN rfl
end Lift
namespace Lift
open Go Go.Proofs
theorem yu{rt b:List (List RD)}(hbl:b.length≤1000000)(hbn: ∀i,Pure Tryz.prog 37 [dI rt.length,dn (b.getD i [])] (dI (bJ rt.length (b.getD i [])))):
  Pure Tryz.prog 70 [TrD rt,mD b] (dI (fE (fun i=>bJ rt.length (b.getD i [])) (b.length-0) 0)):=by
 refine qJ 23 Tryz.func70 rfl rfl rfl rfl (by kernel_rfl) (fun B F0 w0=>?_);obtain ⟨E,hE⟩: ∃E,fE (fun i=>bJ rt.length (b.getD i [])) (b.length-0) 0=E:=⟨_,rfl⟩;rw[hE];refine qX 2 rfl ?_;refine qI ?_;refine qX 2 rfl ?_;rw[List.length_map];refine qU 1 rfl ?_;refine ab.nil ?_;refine AW.block ?_;refine AW.aD [2,8,9,10] (fun i:Nat=>[(2,.bx [.sl 1 (rt.map dn)]),(8,.d (mD b)),(9,.d (dI b.length)),(10,.d (dI i))]) (fun i=>i≤b.length∧fE (fun i=>bJ rt.length (b.getD i [])) (b.length-i) i=E) (fun i=>b.length-i) 0 rfl ⟨Nat.zero_le _,hE⟩ (fun i ⟨hi,hiE⟩=>?_)
 · show AW _ _ _ _ _ _ _ [(2,.bx [.sl 1 (rt.map dn)]),(8,.d (mD b)),(9,.d (dI b.length)),(10,.d (dI i))];refine qX 1 rfl ?_;refine qI ?_;refine AW.cond rfl (fun h=>?_) (fun h=>?_)
   · have hii:i<b.length:=by have:=of_decide_eq_true h;omega
     have g1:=getM dn (l:=b) (i:=i) hii;have cn:=hbn i;have hmiss:=fun h0:bJ rt.length (b.getD i [])=0=>(gP (f:=fun i=>bJ rt.length (b.getD i [])) hii h0).symm.trans hiE;have hhit:=fun h0:bJ rt.length (b.getD i [])≠0=>(jU (f:=fun i=>bJ rt.length (b.getD i [])) hii h0).symm.trans hiE;refine AW.skip (AW.seq (AW.block (AW.seq (AW.region ?_))));refine ab.idx tok (dn (b.getD i [])) rfl rfl rfl rfl (Int.natCast_nonneg i) g1 ?_;refine qU 2 rfl ?_;refine qK 3 rfl ?_;rw[List.length_map];refine qU 1 rfl ?_;refine ab.call tok rfl rfl rfl rfl cn ?_;refine qU 1 rfl ?_;refine qK 2 rfl ?_;refine ab.nil ?_;generalize bJ rt.length (b.getD i [])=e at *;refine AW.cond rfl (fun h=>?_) (fun h=>?_)
     · have he:e≠0:=by have:=bne_iff_ne.1 h;omega
       rw[← hhit he];refine qX 2 rfl ?_;exact qN rfl
     · have he:e=0:=by have:=bne_eq_false_iff_eq.1 h;omega
       refine AW.skip ?_;refine qT 1 rfl ?_;rw[aA (x:=(i:Int)+1) (by omega) (by omega)];refine qU 1 rfl ?_;refine ab.nil ?_;exact⟨i+1,rfl,⟨hii,hmiss he⟩,by omega⟩
   have hii: ¬i<b.length:=by have:=of_decide_eq_false h;omega
   rw[jV hii] at hiE;subst hiE;refine AW.exit ?_;refine qX 1 rfl ?_;exact qN rfl
theorem yj{rt:List (List RD)}(h0:de rt=0)(r:List (List RD)):kc rt r=fE (fun i=>bJ rt.length (r.getD i [])) (r.length-0) 0:=by
 unfold kc;rw[show (fun k=>pH rt [r.getD k []])=fun i=>bJ rt.length (r.getD i []) from funext fun k=>Gf h0 _]
theorem wL{rt:List (List RD)}{a:List (List (List RD))}(h0:de rt=0)(hal:a.length≤1000000)(har: ∀i,(a.getD i []).length≤1000000)(hbn: ∀i k,Pure Tryz.prog 37 [dI rt.length,dn ((a.getD i []).getD k [])] (dI (bJ rt.length ((a.getD i []).getD k [])))):
  Pure Tryz.prog 57 [TrD rt,MxR a] (dI (xe rt a)):=by
 refine qJ 52 Tryz.func57 rfl rfl rfl rfl (by kernel_rfl) (fun B F0 w0=>?_);unfold xe;obtain ⟨E,hE⟩: ∃E,fE (xJ a) (a.length-0) 0=E:=⟨_,rfl⟩;obtain ⟨G,hG⟩: ∃G,fE (fun i=>kc rt (a.getD i [])) (a.length-0) 0=G:=⟨_,rfl⟩;rw[hE,hG];have hc0:ay a=(a.getD 0 []).length:=rfl;have hcl:=har 0;refine qX 2 rfl ?_;refine ab.nil ?_;refine AW.cut [1,2] (fun _:Unit=>[(1,.d (MxR a)),(2,.bx [.sl 1 (rt.map dn)])]) (fun _=>(if a.length=0 then 0 else if 32<a.length∨32<ay a then 4 else if E≠0 then E else G)=if E≠0 then E else G) ?_ (fun _ hr=>?_)
 · refine qX 2 rfl ?_;rw[List.length_map];refine qU 1 rfl ?_;by_cases h1:32<a.length
   · rw[decide_eq_true (show (32:Int)<(a.length:Int) by omega),if_neg (show ¬a.length=0 by omega),if_pos (.inl h1)];refine qU 12 rfl ?_;refine ab.nil ?_;refine AW.aF rfl ?_;refine qX 1 rfl ?_;exact qN rfl
   rw[decide_eq_false (show ¬(32:Int)<(a.length:Int) by omega)];refine qU 3 rfl ?_;rw[List.length_map];refine qU 1 rfl ?_;by_cases h0:a.length=0
   · rw[decide_eq_false (show ¬(0:Int)<(a.length:Int) by omega)];refine qU 8 rfl ?_;refine ab.nil ?_;refine AW.ar rfl ?_;refine AW.skip ?_;refine⟨(),rfl,?_⟩;have e1:E=0:=by rw[← hE,h0];rfl
     have e2:G=0:=by rw[← hG,h0];rfl
     rw[if_pos h0,e1,e2,if_neg (by decide)]
   rw[decide_eq_true (show (0:Int)<(a.length:Int) by omega)];have g0:=getM mD (l:=a) (i:=0) (by omega);refine qU 2 rfl ?_;refine ab.idx tok (mD (a.getD 0 [])) rfl rfl rfl rfl (Int.le_refl _) g0 ?_;refine qU 2 rfl ?_;rw[List.length_map];refine qU 1 rfl ?_;by_cases h2:32<ay a
   · rw[decide_eq_true (show (32:Int)<((a.getD 0 []).length:Int) by omega),if_neg h0,if_pos (.inr h2)];refine qU 2 rfl ?_;refine ab.nil ?_;refine AW.aF rfl ?_;refine qX 1 rfl ?_;exact qN rfl
   rw[decide_eq_false (show ¬(32:Int)<((a.getD 0 []).length:Int) by omega)];refine qU 2 rfl ?_;refine ab.nil ?_;refine AW.ar rfl ?_;refine AW.skip ?_;exact⟨(),rfl,by rw[if_neg h0,if_neg (fun g=>g.elim h1 h2)]⟩
 rw[hr]
 · show AW _ _ _ _ _ _ _ [(1,.d (MxR a)),(2,.bx [.sl 1 (rt.map dn)])];refine AW.seq ?_;refine qX 2 rfl ?_;rw[List.length_map];refine qU 1 rfl ?_;refine ab.nil ?_;refine AW.block ?_;refine AW.aD [1,2,25,26,27] (fun i:Nat=>[(1,.d (MxR a)),(2,.bx [.sl 1 (rt.map dn)]),(25,.d (MxR a)),(26,.d (dI a.length)),(27,.d (dI i))]) (fun i=>i≤a.length∧fE (xJ a) (a.length-i) i=E) (fun i=>a.length-i) 0 rfl ⟨Nat.zero_le _,hE⟩ (fun i ⟨hi,hiE⟩=>?_)
   · show AW _ _ _ _ _ _ _ [(1,.d (MxR a)),(2,.bx [.sl 1 (rt.map dn)]),(25,.d (MxR a)),(26,.d (dI a.length)),(27,.d (dI i))];refine qX 1 rfl ?_;refine qI ?_;refine AW.cond rfl (fun h=>?_) (fun h=>?_)
     · have hii:i<a.length:=by have:=of_decide_eq_true h;omega
       have hg:=getM mD (l:=a) (i:=i) hii;have g0:=getM mD (l:=a) (i:=0) (by omega);have hri:=har i;have hmiss:=fun h0:xJ a i=0=>(gP hii h0).symm.trans hiE;have hhit:=fun h0:xJ a i≠0=>(jU hii h0).symm.trans hiE;refine AW.skip (AW.seq (AW.block (AW.seq (AW.region ?_))));refine ab.idx tok (mD (a.getD i [])) rfl rfl rfl rfl (Int.natCast_nonneg i) hg ?_;refine qU 2 rfl ?_;refine qK 2 rfl ?_;rw[List.length_map];refine qU 1 rfl ?_;refine ab.idx tok (mD (a.getD 0 [])) rfl rfl rfl rfl (Int.le_refl _) g0 ?_;refine qU 2 rfl ?_;rw[List.length_map];refine qU 1 rfl ?_;refine ab.nil ?_;refine AW.cond rfl (fun h=>?_) (fun h=>?_)
       · have hne:(a.getD i []).length≠ay a:=by have:=bne_iff_ne.1 h;omega
         have e:xJ a i=10:=if_pos hne;have:=hhit (by rw[e];decide);rw[e] at this;subst this;rw[if_pos (by decide)];refine qX 1 rfl ?_;exact qN rfl
       · have heq:(a.getD i []).length=ay a:=by have:=bne_eq_false_iff_eq.1 h;omega
         have e:xJ a i=0:=if_neg (fun h=>h heq);refine AW.skip ?_;refine qT 1 rfl ?_;rw[aA (x:=(i:Int)+1) (by omega) (by omega)];refine qU 1 rfl ?_;refine ab.nil ?_;exact⟨i+1,rfl,⟨hii,hmiss e⟩,by omega⟩
     have hii: ¬i<a.length:=by have:=of_decide_eq_false h;omega
     rw[jV hii] at hiE;subst hiE;rw[if_neg (by decide)];refine AW.exit (AW.seq ?_);refine qX 2 rfl ?_;rw[List.length_map];refine qU 1 rfl ?_;refine ab.nil ?_;refine AW.block ?_;refine AW.aD [2,39,40,41] (fun i:Nat=>[(2,.bx [.sl 1 (rt.map dn)]),(39,.d (MxR a)),(40,.d (dI a.length)),(41,.d (dI i))]) (fun i=>i≤a.length∧fE (fun i=>kc rt (a.getD i [])) (a.length-i) i=G) (fun i=>a.length-i) 0 rfl ⟨Nat.zero_le _,hG⟩ (fun i ⟨hi,hiG⟩=>?_)
     · show AW _ _ _ _ _ _ _ [(2,.bx [.sl 1 (rt.map dn)]),(39,.d (MxR a)),(40,.d (dI a.length)),(41,.d (dI i))];refine qX 1 rfl ?_;refine qI ?_;refine AW.cond rfl (fun h=>?_) (fun h=>?_)
       · have hii:i<a.length:=by have:=of_decide_eq_true h;omega
         have hg:=getM mD (l:=a) (i:=i) hii;have cl:=yu (har i) (hbn i);rw[← yj h0] at cl;have hmiss:=fun h0:kc rt (a.getD i [])=0=>(gP (f:=fun i=>kc rt (a.getD i [])) hii h0).symm.trans hiG;have hhit:=fun h0:kc rt (a.getD i [])≠0=>(jU (f:=fun i=>kc rt (a.getD i [])) hii h0).symm.trans hiG;refine AW.skip (AW.seq (AW.block (AW.seq (AW.region ?_))));refine ab.idx tok (mD (a.getD i [])) rfl rfl rfl rfl (Int.natCast_nonneg i) hg ?_;refine qU 2 rfl ?_;refine qK 2 rfl ?_;refine ab.call tok rfl rfl rfl rfl cl ?_;refine qU 1 rfl ?_;refine qK 2 rfl ?_;refine ab.nil ?_;generalize kc rt (a.getD i [])=e at *;refine AW.cond rfl (fun h=>?_) (fun h=>?_)
         · have he:e≠0:=by have:=bne_iff_ne.1 h;omega
           rw[← hhit he];refine qX 2 rfl ?_;exact qN rfl
         · have he:e=0:=by have:=bne_eq_false_iff_eq.1 h;omega
           refine AW.skip ?_;refine qT 1 rfl ?_;rw[aA (x:=(i:Int)+1) (by omega) (by omega)];refine qU 1 rfl ?_;refine ab.nil ?_;exact⟨i+1,rfl,⟨hii,hmiss he⟩,by omega⟩
       have hii: ¬i<a.length:=by have:=of_decide_eq_false h;omega
       rw[jV hii] at hiG;subst hiG;refine AW.exit ?_;refine qX 1 rfl ?_;exact qN rfl
theorem wQ{m:Nat}{rt:List (List RD)}{a:List (List (List RD))}(T:HZ m rt)(A:ET m rt a):Pure Tryz.prog 21 [TrD rt,MxR a] (dI (nw rt a)):=by
 refine qJ 14 Tryz.func21 rfl rfl rfl rfl (by kernel_rfl) (fun B F0 w0=>?_);have hm:=T.m2;have cc:=oR rt T.w T.m1 T.l T.ll T.ok;have cw:=fun h0:de rt=0=>wL h0 A.l A.r (fun i k=>jS rt.length ((a.getD i []).getD k []) (mz h0).1 (A.n i k).w (by omega) (A.n i k).l);unfold nw;refine qX 2 rfl ?_;refine qI ?_;refine qX 1 rfl ?_;refine ab.call tok rfl rfl rfl rfl cc ?_;refine qU 1 rfl ?_;refine qK 2 rfl ?_;refine ab.nil ?_;generalize de rt=e at *;refine AW.cond rfl (fun h=>?_) (fun h=>?_)
 · have he:e≠0:=by have:=bne_iff_ne.1 h;omega
   rw[if_pos he];refine qX 2 rfl ?_;exact qN rfl
 · have he:e=0:=by have:=bne_eq_false_iff_eq.1 h;omega
   rw[if_neg (fun g=>g he)];refine AW.skip ?_;refine qX 2 rfl ?_;refine ab.call tok rfl rfl rfl rfl (cw he) ?_;refine qU 1 rfl ?_;exact qN rfl
end Lift
namespace Lift
open Go Go.Proofs
theorem Cr{a b:List Nat}(h:a.length=b.length)(hk: ∀k,k<a.length→a.getD k 0=b.getD k 0):a=b:=by
 refine List.ext_getElem h fun i h1 h2=>?_;have:=hk i h1
 rwa [List.getD_eq_getElem?_getD,List.getElem?_eq_getElem h1,List.getD_eq_getElem?_getD,List.getElem?_eq_getElem h2] at this
theorem nF(a b:List Nat)(ha:a.length≤1000000):Pure Tryz.prog 23 [jY a,jY b] (dB (decide (a=b))):=by
 refine qJ 26 Tryz.func23 rfl rfl rfl rfl (by kernel_rfl) (fun B F0 w0=>?_);refine qX 1 rfl ?_;refine qI ?_;refine qX 5 rfl ?_;rw[List.length_map,List.length_map];refine ab.nil ?_;refine AW.cond rfl (fun h=>?_) (fun h=>?_)
 · have hne:a≠b:=by rintro rfl;simp at h
   rw[decide_eq_false hne];refine qX 1 rfl ?_;exact qN rfl
 · have hlen:a.length=b.length:=by
    have:(a.length:Int)=b.length:=by simpa using h
    omega
   refine AW.skip (AW.seq ?_);refine qX 1 rfl ?_;refine ab.nil ?_;refine AW.block ?_;refine AW.aD [0,1,5] (fun i:Nat=>[(0,.d (jY a)),(1,.d (jY b)),(5,.d (dI i))]) (fun i=>i≤a.length∧ ∀k,k<i→a.getD k 0=b.getD k 0) (fun i=>a.length-i) 0 rfl ⟨Nat.zero_le _,fun k hk=>by omega⟩ (fun i ⟨hi,hI⟩=>?_)
   · show AW _ _ _ _ _ _ _ [(0,.d (jY a)),(1,.d (jY b)),(5,.d (dI i))];refine AW.seq ?_;refine qX 3 rfl ?_;rw[List.length_map];refine qU 1 rfl ?_;refine ab.nil ?_;refine AW.cond rfl (fun h=>?_) (fun h=>?_)
     · have hin:i<a.length:=by have:=of_decide_eq_true h;omega
       refine AW.skip (AW.seq (AW.block (AW.seq ?_)));refine AW.draw aL 9 (by kernel_rfl) ?_;refine qP 2 rfl ?_;refine ae.idx tok (dI (a.getD i 0)) rfl rfl rfl rfl rfl (Int.natCast_nonneg i) (vU hin) ?_;refine qP 3 rfl ?_;refine ae.idx tok (dI (b.getD i 0)) rfl rfl rfl rfl rfl (Int.natCast_nonneg i) (vU (by omega)) ?_;refine qP 2 rfl ?_;refine ae.nil ?_;refine ab.nil ?_;refine AW.cond rfl (fun h=>?_) (fun h=>?_)
       · have hne:a≠b:=by rintro rfl;simp at h
         rw[decide_eq_false hne];refine qX 1 rfl ?_;exact qN rfl
       · have he:a.getD i 0=b.getD i 0:=by have:((a.getD i 0:Nat):Int)=(b.getD i 0:Nat):=bne_eq_false_iff_eq.1 h;omega
         refine AW.skip ?_;refine qT 2 rfl ?_;rw[aA (x:=(i:Int)+1) (by omega) (by omega)];refine qU 1 rfl ?_;refine ab.nil ?_;refine⟨i+1,rfl,⟨hin,fun k hk=>?_⟩,by omega⟩;rcases Nat.lt_or_ge k i with e | e
         · exact hI k e
         · rw[show k=i by omega];exact he
     have hin: ¬i<a.length:=by have:=of_decide_eq_false h;omega
     have hab:a=b:=Cr hlen (fun k hk=>hI k (by omega));rw[decide_eq_true hab];refine AW.exit ?_;refine qX 1 rfl ?_;exact qN rfl
theorem zO{v:List NQ}{a b:NQ}(V:mC v)(ha:ak v.length a)(hb:ak v.length b)(sa:kC a)(sb:kC b)(ok:yH v (aM a (aC b))):Pure Tryz.prog 45 [bI v,ah a,ah b] (.tu [dI (lD v (aM a (aC b))),aI]):=by
 refine qJ 23 Tryz.func45 rfl rfl rfl rfl (by kernel_rfl) (fun B0 F0 w0=>?_);have hl5:=V.l5;have hro:=V.ro;have cc:=pI V ha sa hb sb;have c0:=eQ b sb (by omega) (Nat.le_trans (hb.len (by omega)) (by decide));have c1:=eA a (aC b) sa sb.minus (by omega) (Nat.le_trans (ha.len (by omega)) (by decide)) (Nat.le_trans (hb.minus.len (by omega)) (by decide));have c2:=dE v.length (ha.plus hb.minus) hl5 hro (Nat.le_refl _) (by omega) ok;refine qX 3 rfl ?_;refine qI ?_;refine qX 3 rfl ?_;refine ab.fA tok rfl rfl rfl rfl rfl ?_;refine ab.call tok rfl rfl rfl rfl cc ?_;refine qU 1 rfl ?_;refine qK 1 rfl ?_;refine ab.err tok rfl rfl rfl rfl rfl ?_;refine ab.nil ?_;refine AW.ar rfl ?_
 · skip
   refine AW.skip (AW.seq ?_);refine AW.draw aL 6 (by kernel_rfl) ?_;refine qP 3 rfl ?_;refine ae.call tok rfl rfl rfl rfl rfl c0 ?_;refine ae.call tok rfl rfl rfl rfl rfl c1 ?_;refine ae.call tok rfl rfl rfl rfl rfl c2 ?_;refine ae.nil ?_;refine qU 2 rfl ?_;exact qN rfl
theorem rA(l:List Int)(hl:l.length≤1000)(hb: ∀i, -1000≤l.getD i 0∧l.getD i 0≤1000):Pure Tryz.prog 44 [.sl 1 (l.map (fun n=>dI n))] (ah (l.map (fun n:Int=>(n:Rat)))):=by
 refine qJ 19 Tryz.func44 rfl rfl rfl rfl (by kernel_rfl) (fun B0 F0 w0=>?_);have hg: ∀i,i<l.length→(l.map (fun n:Int=>dI n))[i]?=some (dI (l.getD i 0)):=fun i hi=>by simp[hi]
 have hts: ∀i,i<l.length→(l.map (fun n:Int=>(n:Rat))).take (i+1)=(l.map (fun n:Int=>(n:Rat))).take i++[((l.getD i 0:Int):Rat)]:=fun i hi=>by
  rw[zQ (d:=0) (by rw[List.length_map];exact hi)]
  congr 2
  rw[List.getD_eq_getElem?_getD,List.getElem?_map,List.getD_eq_getElem?_getD,List.getElem?_eq_getElem hi];rfl
 have hta:(l.map (fun n:Int=>(n:Rat))).take l.length=l.map (fun n:Int=>(n:Rat)):=List.take_of_length_le (by rw[List.length_map];exact Nat.le_refl _);generalize l.map (fun n:Int=>(n:Rat))=zs at *;refine qX 1 rfl ?_;refine qK 1 rfl ?_;refine qI ?_;refine qX 2 rfl ?_;rw[List.length_map];refine qU 1 rfl ?_;refine ab.nil ?_;refine AW.block ?_;refine AW.aD [3,6,7,8] (fun i:Nat=>[(3,.ow 111 (eD (zs.take i))),(6,.d (.sl 1 (l.map (fun n=>dI n)))),(7,.d (dI l.length)),(8,.d (dI i))]) (fun i=>i≤l.length) (fun i=>l.length-i) 0 rfl (Nat.zero_le _) (fun i hi=>?_)
 · show AW _ _ _ _ _ _ _ [(3,.ow 111 (eD (zs.take i))),(6,.d (.sl 1 (l.map (fun n=>dI n)))),(7,.d (dI l.length)),(8,.d (dI i))];refine qX 1 rfl ?_;refine qI ?_;refine AW.cond rfl (fun h=>?_) (fun h=>?_)
   · have hii:i<l.length:=by have:=of_decide_eq_true h;omega
     have g1:=hg i hii;have hts:=hts i hii;have hb:=hb i;have c:=qf (l.getD i 0) (by omega) (by omega);generalize l.getD i 0=x at *;refine AW.skip (AW.seq (AW.block (AW.seq (AW.region ?_))));refine ab.idx tok (dI x) rfl rfl rfl rfl (Int.natCast_nonneg i) g1 ?_;refine qU 2 rfl ?_;refine ab.nil ?_;refine qT 2 rfl ?_;refine ab.call tok rfl rfl rfl rfl c ?_;refine ab.fA tok rfl rfl rfl rfl rfl ?_;refine ab.gK tok rfl rfl rfl rfl rfl rfl (by rw[List.length_map,List.length_take];show (_+1)*56≤_;omega) (by rw[List.length_map,List.length_take];show _+1≤_;omega) ?_;refine qU 1 rfl ?_;refine ab.nil ?_;refine qT 1 rfl ?_;rw[aA (x:=(i:Int)+1) (by omega) (by omega)];refine qU 1 rfl ?_;refine ab.nil ?_;exact⟨i+1,by rw[hts,show eD (zs.take i++[(x:Rat)])=eD (zs.take i)++[(Qr (x:Rat)).D] from List.map_append ..];rfl,hii,by omega⟩
   have hii:i=l.length:=by have:=of_decide_eq_false h;omega
   subst hii;rw[hta];refine AW.exit (AW.seq (AW.region ?_));refine ab.fS tok 3 rfl rfl ?_;refine qU 2 rfl ?_;exact qN rfl
def j4(r:RD):Bool:=match r.n,r.d with
 | [],[]=>true
 | [x],[]=>decide (x≤1000)
 | [],[y]=>decide (y≤12)
 | [x],[y]=>decide (x≤1000)&&decide (y≤12)
 | _,_=>false
theorem CV{r:RD}(h:j4 r=true):r.n.length≤1∧r.d.length≤1:=by
 obtain ⟨g,n,d⟩:=r;unfold j4 at h;rcases n with _ | ⟨x,_ | ⟨x2,n⟩⟩<;>rcases d with _ | ⟨y,_ | ⟨y2,d⟩⟩<;>first | (simp at h;done) | (refine⟨?_,?_⟩<;>simp)
theorem vg(r:RD){k:Nat}(hw:r.w k)(hk:k≤1000000000000000):Pure Tryz.prog 66 [r.D,.v (.int .u32 1000),.v (.int .u32 12)] (dB (j4 r)):=by
 refine qJ 45 Tryz.func66 rfl rfl rfl rfl (by kernel_rfl) (fun B0 F0 w0=>?_);obtain ⟨w1,w2,w3,w4⟩:=hw;obtain ⟨g,n,d⟩:=r;unfold j4
 dsimp only at w3 w4 ⊢
 refine qX 2 rfl ?_;refine qK 3 rfl ?_;rw[List.length_map];refine qU 1 rfl ?_;by_cases h1:n.length<2;rotate_left
 · rw[decide_eq_false (show ¬(n.length:Int)<2 by omega)];refine qU 35 rfl ?_;refine ab.nil ?_;rcases n with _ | ⟨x,_ | ⟨x2,n⟩⟩
   · exact absurd (show 0<2 by decide) h1
   · exact absurd (show 1<2 by decide) h1
   · exact AW.ret rfl
 rw[decide_eq_true (show (n.length:Int)<2 by omega)];refine qU 4 rfl ?_;rw[List.length_map];refine qU 1 rfl ?_;by_cases h2:d.length<2;rotate_left
 · rw[decide_eq_false (show ¬(d.length:Int)<2 by omega)];refine qU 30 rfl ?_;refine ab.nil ?_;rcases d with _ | ⟨x,_ | ⟨x2,d⟩⟩
   · exact absurd (show 0<2 by decide) h2
   · exact absurd (show 1<2 by decide) h2
   · rcases n with _ | ⟨x,_ | ⟨x2,n⟩⟩
     · exact AW.ret rfl
     · exact AW.ret rfl
     · exact AW.ret rfl
 rw[decide_eq_true (show (d.length:Int)<2 by omega)];rcases n with _ | ⟨x,_ | ⟨x2,n⟩⟩
 · refine qU 16 rfl ?_;rcases d with _ | ⟨y,_ | ⟨y2,d⟩⟩
   · refine qU 14 rfl ?_;exact qN rfl
   · dsimp only
     refine qU 7 rfl ?_;refine ab.idx tok (wd y) rfl rfl rfl rfl (Int.le_refl _) rfl ?_;refine qU 6 rfl ?_;refine ab.nil ?_;rw[show decide (y≤12)=decide ((y:Int)≤12) from decide_eq_decide.2 (by omega)];exact AW.ret rfl
   · exact absurd h2 (by simp)
 · refine qU 9 rfl ?_;refine ab.idx tok (wd x) rfl rfl rfl rfl (Int.le_refl _) rfl ?_;refine qU 6 rfl ?_;rw[show decide ((x:Int)≤1000)=decide (x≤1000) from decide_eq_decide.2 (by omega)];rcases d with _ | ⟨y,_ | ⟨y2,d⟩⟩
   · dsimp only
     generalize decide (x≤1000)=b;cases b
     · refine qU 14 rfl ?_;exact qN rfl
     · refine qU 14 rfl ?_;exact qN rfl
   · dsimp only
     generalize decide (x≤1000)=b;cases b
     · refine qU 14 rfl ?_;exact qN rfl
     · refine qU 7 rfl ?_;refine ab.idx tok (wd y) rfl rfl rfl rfl (Int.le_refl _) rfl ?_;refine qU 6 rfl ?_;refine ab.nil ?_;rw[show decide (y≤12)=decide ((y:Int)≤12) from decide_eq_decide.2 (by omega)];exact AW.ret rfl
   · exact absurd h2 (by simp)
 · exact absurd h1 (by simp)
end Lift
