/- Parts of the proof, one behind the other: the logic, the contracts of the functions that the statement reaches. -/
import Derived.Test.YtebpenldlefgjaaGreatM2D
set_option linter.unusedVariables false
set_option linter.unusedSimpArgs false
namespace Lift
open Go Go.Proofs
abbrev fF(r:List NQ):AV:=AV.ow 52 (r.map af)
def fS{α:Type}(zs xs:List α)(i:Nat):List α:=zs.take i++xs.drop i
theorem rz{α:Type}{zs xs:List α}(h:zs.length=xs.length){i:Nat}(hi:i≤xs.length):(fS zs xs i).length=xs.length:=by
 unfold fS;rw[List.length_append,List.length_take,List.length_drop,h];omega
theorem wi{α:Type}{zs xs:List α}(h:zs.length=xs.length){i:Nat}(hi:i<xs.length)(d:α):(fS zs xs i).getD i d=xs.getD i d:=by
 unfold fS;rw[List.getD_eq_getElem?_getD,List.getElem?_append_right (by rw[List.length_take];omega),List.length_take,h,List.getElem?_drop,List.getD_eq_getElem?_getD]
 congr 2;omega
theorem wh{α:Type}{zs xs:List α}(h:zs.length=xs.length){i:Nat}(hi:i<xs.length){d z:α}(hz:zs.getD i d=z):(fS zs xs i).set i z=fS zs xs (i+1):=by
 subst hz;refine List.ext_getElem? (fun c=>?_);by_cases hc:c=i
 · subst hc;rw[List.getElem?_set_self (by rw[rz h (by omega)];exact hi)];unfold fS;rw[List.getElem?_append_left (by rw[List.length_take];omega),List.getElem?_take,if_pos (by omega)];have h1:c<zs.length:=by omega
   simp[h1]
 · rw[List.getElem?_set_ne (Ne.symm hc)];unfold fS;rcases Nat.lt_or_ge c i with g | g
   · rw[List.getElem?_append_left (by rw[List.length_take];omega),List.getElem?_append_left (by rw[List.length_take];omega),List.getElem?_take,List.getElem?_take,if_pos g,if_pos (by omega)]
   · rw[List.getElem?_append_right (by rw[List.length_take];omega),List.getElem?_append_right (by rw[List.length_take];omega),List.getElem?_drop,List.getElem?_drop,List.length_take,List.length_take]
     congr 1;omega
theorem tA{α:Type}(zs xs:List α):fS zs xs 0=xs:=by unfold fS;simp
theorem wj{α:Type}{zs xs:List α}(h:zs.length=xs.length):fS zs xs xs.length=zs:=by
 unfold fS;rw[List.drop_length,List.append_nil,← h,List.take_length]
section
variable {P:Program} {T:Ty} {B:Nat} {F0:Nat→Prop} {w0:bS} {n:Nat} {σ τ:St} {K:St→Prop} {all:Array Oper} {o:Oper} {d:Nat} {rest:List Oper}
theorem aa.ub(hT:a7 P T){k e i:Nat}{r:List NQ}(q:NQ)(hd:o.dst=none)(hg:aA all σ o=true)(hx:yR T σ o.op=some (k,.ow e (r.map af),r.map af,i,0,af q))(hi:i<r.length)
  (h:aa P B F0 w0 n all rest K ((k,.ow e ((r.set i q).map af))::σ)):aa P B F0 w0 n all (o::rest) K σ:=by
 refine aa.iO hT (af (r.getD i [])) hd hg hx (getM af hi) rfl ?_;show aa P B F0 w0 n all rest K ((k,.ow e ((r.map af).set i (af q)))::σ);rw[show (r.map af).set i (af q)=(r.set i q).map af from (List.map_set ..).symm];exact h
end
def mY(v:List NQ)(xs ys:List NQ)(c:NQ):List NQ:=(List.range xs.length).map fun k=>gx (xs.getD k []) (gU v c (ys.getD k []))
theorem nU(v:List NQ)(xs ys:List NQ)(c:NQ):(mY v xs ys c).length=xs.length:=by unfold mY;rw[List.length_map,List.length_range]
theorem sZ(v:List NQ)(xs ys:List NQ)(c:NQ){k:Nat}(h:k<xs.length):(mY v xs ys c).getD k []=gx (xs.getD k []) (gU v c (ys.getD k [])):=by
 unfold mY;rw[List.getD_eq_getElem?_getD,List.getElem?_map,List.getElem?_range h];rfl
def Bh(v:List NQ)(xs ys:List NQ)(c:NQ):Prop:= ∀k,k<xs.length→y0 v c (ys.getD k [])∧DM (xs.getD k []) (gU v c (ys.getD k []))
def Ay(V1 V2:Value)(zs ys:List NQ)(res:D)(R':List LR):Prop:=res=aj∧R'=[(V1,fF zs),(V2,fF ys)]
theorem uS{v:List NQ}(V:qe v){a b:NQ}(ha:aB v.length a)(hb:aB v.length b):aB v.length (gU v a b):=bQ (ez v.length ha hb V.ro (Nat.le_refl _))
theorem CO{l:Nat}{a b:NQ}(ha:aB l a)(hb:aB l b):aB l (gx a b):=bQ (ha.plus hb.minus)
theorem Dw{v:List NQ}(V:qe v){a b:NQ}(ha:aB v.length a)(hb:aB v.length b):aB v.length (Ad v a b):=bQ (ez v.length ha (oD v.length hb V.ro (Nat.le_refl _)) V.ro (Nat.le_refl _))
set_option maxHeartbeats 3200000 in
theorem rA(V1 V2:Value){v:List NQ}(V:qe v){xs ys:List NQ}{c:NQ}(hl:ys.length=xs.length)(hl0:0<xs.length)(hl1:xs.length≤1000000)(hx: ∀k,aB v.length (xs.getD k []))(hy: ∀k,aB v.length (ys.getD k []))(hc:aB v.length c)(ok:Bh v xs ys c):
  jN Tryz.prog 134 [bF v,.v V1,.v V2,af c] [(V1,fF xs),(V2,fF ys)] (Ay V1 V2 (mY v xs ys c) ys):=by
 refine jN.intro (n:=47) tok Tryz.func134 rfl rfl rfl (Nat.le_of_ble_eq_true rfl) (by kernel_rfl) (fun B F0 w0=>?_);have hz:=nU v xs ys c;obtain ⟨zs,hzs⟩: ∃zs,mY v xs ys c=zs:=⟨_,rfl⟩;rw[hzs] at hz ⊢;refine AZ.seq ?_;refine AZ.gv (fun B1 F1 w1=>?_);refine qU 2 rfl ?_;refine aa.nil ⟨rfl,?_⟩;refine AZ.seq ?_;refine AZ.seq ?_;refine AZ.A7 (fun B1 F1 w1 hS=>?_);refine qU 1 rfl ?_;refine aa.lens tok (hS.at (i:=0) rfl (by rw[List.length_map];exact hl0)) rfl rfl rfl rfl ?_;refine qU 1 rfl ?_;rw[List.length_map];refine aa.nil ⟨rfl,?_⟩;refine AZ.block ?_;refine AZ.aD [1,2,3,4,13,14] (fun i:Nat=>([(V1,fF (fS zs xs i)),(V2,fF ys)],[(1,.d (.v V1)),(2,.d (.v V2)),(3,.d (af c)),(4,.bx [.sl 1 (v.map af)]),(13,.d (dI xs.length)),(14,.d (dI i))])) (fun i=>i≤xs.length) (fun i=>xs.length-i) 0 (by rw[tA];rfl) (Nat.zero_le _) (fun i hi=>?_)
 · show AZ _ _ _ _ _ _ _ [(V1,fF (fS zs xs i)),(V2,fF ys)] [(1,.d (.v V1)),(2,.d (.v V2)),(3,.d (af c)),(4,.bx [.sl 1 (v.map af)]),(13,.d (dI xs.length)),(14,.d (dI i))];refine AZ.seq ?_;refine AZ.gv (fun B1 F1 w1=>?_);refine qU 1 rfl ?_;refine aa.nil ⟨rfl,?_⟩;refine AZ.seq ?_;refine AZ.cond rfl (fun h=>?_) (fun h=>?_)
   · have hin:i<xs.length:=by have:=of_decide_eq_true h;omega
     have hpl:=rz hz (i:=i) (by omega);have hpg:=wi hz hin [];have hps:=wh hz hin (d:=[]) (show zs.getD i []=gx (xs.getD i []) (gU v c (ys.getD i [])) by rw[← hzs];exact sZ v xs ys c hin);have hyi:i<ys.length:=by omega
     obtain ⟨okm,oks⟩:=ok i hin;have cm:=qt V hc (hy i) okm;have cs:=xj V (hx i) (uS V hc (hy i)) oks;generalize fS zs xs i=ps at *;generalize hX:xs.getD i []=X at *;generalize hY:ys.getD i []=Y at *;generalize gU v c Y=M at *;generalize gx X M=S at *;refine AZ.skip ?_;refine AZ.seq ?_;refine AZ.block ?_;refine AZ.seq ?_;refine AZ.gv (fun B1 F1 w1=>?_);refine qU 2 rfl ?_;refine aa.nil ⟨rfl,?_⟩;refine AZ.seq ?_;refine AZ.any aJ (mH.zn 11 (by kernel_rfl) (fun B1 F1 w1 hS=>?_));have hS2:=hS.at (i:=1) rfl (by rw[List.length_map];omega);refine qP 4 rfl ?_;refine ae.idxs tok hS2 rfl rfl rfl rfl rfl (Int.natCast_nonneg i) (by rw[List.length_map];exact hyi) ?_;refine ae.aU tok (af (ys.getD i [])) hS2 rfl rfl rfl rfl rfl rfl rfl (getM af hyi) rfl ?_;rw[hY];refine ae.call tok rfl rfl rfl rfl rfl cm ?_;refine qP 4 rfl ?_;refine ae.nil ⟨rfl,?_⟩;refine ai.cut 1 rfl (fun B1 F1 w1=>?_);refine qU 1 rfl ?_;refine aa.nil ⟨rfl,?_⟩;refine ai.nil ?_;refine AZ.to [1,2,3,4,9,10,11,13,14] [(1,.d (.v V1)),(2,.d (.v V2)),(3,.d (af c)),(4,.bx [.sl 1 (v.map af)]),(9,.d (dI i)),(10,.d (af M)),(11,.d aj),(13,.d (dI xs.length)),(14,.d (dI i))] rfl ?_;refine AZ.seq ?_;refine AZ.seq ?_;refine AZ.gv (fun B1 F1 w1=>?_);refine qU 1 rfl ?_;refine aa.err tok rfl rfl rfl rfl rfl ?_;refine aa.nil ⟨rfl,?_⟩;refine AZ.ao rfl ?_;refine AZ.skip ?_;refine AZ.seq ?_;refine AZ.any aJ (ZH.any (β:=[]) ?_);refine ZH.mv 0 rfl rfl (by kernel_rfl) (by kernel_rfl) (by kernel_rfl) rfl (fun _ _ _ h=>h) (fun _=>rfl) trivial (fun B1 F1 w1=>?_);refine qU 1 rfl ?_;refine aa.nil ⟨rfl,?_⟩;refine ZH.mv 1 rfl rfl (by kernel_rfl) (by kernel_rfl) (by kernel_rfl) rfl (fun _ _ _ h=>h) (fun _=>rfl) trivial (fun B1 F1 w1=>?_);refine qU 1 rfl ?_;refine aa.nil ⟨rfl,?_⟩;refine ZH.mv 3 rfl rfl (by kernel_rfl) (by kernel_rfl) (by kernel_rfl) rfl (fun _ _ _ h=>h) (fun _=>rfl) trivial (fun B1 F1 w1=>?_);refine qU 1 rfl ?_;refine aa.nil ⟨rfl,?_⟩;refine ZH.mv 4 rfl rfl (by kernel_rfl) (by kernel_rfl) (by kernel_rfl) rfl (fun _ _ _ h=>h) (fun _=>rfl) trivial (fun B1 F1 w1=>?_);refine qU 1 rfl ?_;refine aa.nil ⟨rfl,?_⟩;refine ZH.mv 7 rfl rfl (by kernel_rfl) (by kernel_rfl) (by kernel_rfl) rfl (fun _ _ _ h=>h) (fun _=>rfl) trivial (fun B1 F1 w1=>?_);refine qU 1 rfl ?_;refine aa.nil ⟨rfl,?_⟩;refine ZH.meet 0 (qB 15 32767) (fun V=>[(V1,fF (fS zs xs (i+1))),(V2,fF ys)]) (fun V=>[(1,.d (.v V1)),(2,.d (.v V2)),(3,.d (af c)),(4,.bx [.sl 1 (v.map af)]),(9,.d (dI i)),(10,.d (af M)),(13,.d (dI xs.length)),(14,.d (dI i)),(31,.d (.v V1)),(32,.d (dI i)),(34,.d (.v V1)),(35,.d (dI i)),(38,.d (af M)),(33,.d (bF v)),(36,.d (.v (aQ V1 (i*1)))),(37,.d (af X)),(39,.d (.tu [af S,aj])),(30,.d (.tu [af S,aj])),(40,.d (af S)),(41,.d aj),(11,.d aj)]) (fun V=>?_) (fun N1_2_5_1_1=>?_)
     · refine ZH.done (by kernel_rfl) trivial ?_;refine AZ.to [1,2,3,4,11,13,14] [(1,.d (.v V1)),(2,.d (.v V2)),(3,.d (af c)),(4,.bx [.sl 1 (v.map af)]),(11,.d aj),(13,.d (dI xs.length)),(14,.d (dI i))] rfl ?_;refine AZ.seq ?_;refine AZ.gv (fun B1 F1 w1=>?_);refine qU 1 rfl ?_;refine aa.err tok rfl rfl rfl rfl rfl ?_;refine aa.nil ⟨rfl,?_⟩;refine AZ.ao rfl ?_;refine AZ.skip ?_;refine AZ.gv (fun B1 F1 w1=>?_);refine qU 1 rfl ?_;rw[aq (x:=(i:Int)+1) (by omega) (by omega)];refine qU 1 rfl ?_;refine aa.nil ⟨rfl,?_⟩;exact⟨i+1,rfl,hin,by omega⟩
     refine ZH.meet 1 (qB 15 16383) (fun V=>[(V1,fF (fS zs xs (i+1))),(V2,fF ys)]) (fun V=>[(1,.d (.v V1)),(2,.d (.v V2)),(3,.d (af c)),(4,.bx [.sl 1 (v.map af)]),(9,.d (dI i)),(10,.d (af M)),(13,.d (dI xs.length)),(14,.d (dI i)),(31,.d (.v V1)),(32,.d (dI i)),(34,.d (.v V1)),(35,.d (dI i)),(38,.d (af M)),(33,.d (bF v)),(36,.d (.v (aQ V1 (i*1)))),(37,.d (af X)),(39,.d (.tu [af S,aj])),(30,.d (.tu [af S,aj])),(40,.d (af S)),(41,.d aj)]) (fun V=>?_) (fun N1_2_5_1_0=>?_)
     · refine ZH.all 14 (by kernel_rfl) rfl rfl (fun _=>rfl) trivial ?_;refine au (fun B1 F1 w1=>?_);refine qU 1 rfl ?_;refine aa.nil ⟨rfl,?_⟩;refine ZH.to [1,2,3,4,9,10,13,14,31,32,34,35,38,33,36,37,39,30,40,41,11] [(1,.d (.v V1)),(2,.d (.v V2)),(3,.d (af c)),(4,.bx [.sl 1 (v.map af)]),(9,.d (dI i)),(10,.d (af M)),(13,.d (dI xs.length)),(14,.d (dI i)),(31,.d (.v V1)),(32,.d (dI i)),(34,.d (.v V1)),(35,.d (dI i)),(38,.d (af M)),(33,.d (bF v)),(36,.d (.v (aQ V1 (i*1)))),(37,.d (af X)),(39,.d (.tu [af S,aj])),(30,.d (.tu [af S,aj])),(40,.d (af S)),(41,.d aj),(11,.d aj)] rfl trivial ?_;exact ZH.ls _ (by kernel_rfl) (N1_2_5_1_1 V)
     refine ZH.meet 2 (qB 15 8191) (fun V=>[(V1,fF ps),(V2,fF ys)]) (fun V=>[(1,.d (.v V1)),(2,.d (.v V2)),(3,.d (af c)),(4,.bx [.sl 1 (v.map af)]),(9,.d (dI i)),(10,.d (af M)),(13,.d (dI xs.length)),(14,.d (dI i)),(31,.d (.v V1)),(32,.d (dI i)),(34,.d (.v V1)),(35,.d (dI i)),(38,.d (af M)),(33,.d (bF v)),(36,.d (.v (aQ V1 (i*1)))),(37,.d (af X)),(39,.d (.tu [af S,aj])),(30,.d (.tu [af S,aj])),(40,.d (af S)),(42,.d (.v (aQ V1 (i*1)))),(41,.d aj)]) (fun V=>?_) (fun N1_2_4_1_0=>?_)
     · refine ZH.all 13 (by kernel_rfl) rfl rfl (fun _=>rfl) trivial ?_;refine ai.dy 31 0 rfl rfl rfl ?_;refine ai.el tok 31 42 rfl (List.Mem.head _) rfl rfl rfl (by rw[List.length_map,hpl];exact hin) rfl ?_;refine ai.cut 1 rfl (fun B1 F1 w1=>?_);refine aa.ub tok S rfl rfl rfl (by omega) ?_;rw[hps];refine aa.nil ⟨rfl,?_⟩;refine ai.back 31 0 rfl rfl rfl (List.Mem.head _) rfl ?_;refine ai.nil ?_;refine ZH.to [1,2,3,4,9,10,13,14,31,32,34,35,38,33,36,37,39,30,40,41] [(1,.d (.v V1)),(2,.d (.v V2)),(3,.d (af c)),(4,.bx [.sl 1 (v.map af)]),(9,.d (dI i)),(10,.d (af M)),(13,.d (dI xs.length)),(14,.d (dI i)),(31,.d (.v V1)),(32,.d (dI i)),(34,.d (.v V1)),(35,.d (dI i)),(38,.d (af M)),(33,.d (bF v)),(36,.d (.v (aQ V1 (i*1)))),(37,.d (af X)),(39,.d (.tu [af S,aj])),(30,.d (.tu [af S,aj])),(40,.d (af S)),(41,.d aj)] rfl trivial ?_;exact ZH.ls _ (by kernel_rfl) (N1_2_5_1_0 V)
     refine ZH.meet 2 (qB 15 14335) (fun V=>[(V1,fF (fS zs xs (i+1))),(V2,fF ys)]) (fun V=>[(1,.d (.v V1)),(2,.d (.v V2)),(3,.d (af c)),(4,.bx [.sl 1 (v.map af)]),(9,.d (dI i)),(10,.d (af M)),(13,.d (dI xs.length)),(14,.d (dI i)),(31,.d (.v V1)),(32,.d (dI i)),(34,.d (.v V1)),(35,.d (dI i)),(38,.d (af M)),(33,.d (bF v)),(36,.d (.v (aQ V1 (i*1)))),(37,.d (af X)),(39,.d (.tu [af S,aj])),(30,.d (.tu [af S,aj])),(40,.d (af S))]) (fun V=>?_) (fun N1_2_5_0_0=>?_)
     · refine ZH.all 11 (by kernel_rfl) rfl rfl (fun _=>rfl) trivial ?_;refine au (fun B1 F1 w1=>?_);refine qU 1 rfl ?_;refine aa.nil ⟨rfl,?_⟩;refine ZH.to [1,2,3,4,9,10,13,14,31,32,34,35,38,33,36,37,39,30,40,41] [(1,.d (.v V1)),(2,.d (.v V2)),(3,.d (af c)),(4,.bx [.sl 1 (v.map af)]),(9,.d (dI i)),(10,.d (af M)),(13,.d (dI xs.length)),(14,.d (dI i)),(31,.d (.v V1)),(32,.d (dI i)),(34,.d (.v V1)),(35,.d (dI i)),(38,.d (af M)),(33,.d (bF v)),(36,.d (.v (aQ V1 (i*1)))),(37,.d (af X)),(39,.d (.tu [af S,aj])),(30,.d (.tu [af S,aj])),(40,.d (af S)),(41,.d aj)] rfl trivial ?_;exact ZH.ls _ (by kernel_rfl) (N1_2_5_1_0 V)
     refine ZH.meet 3 (qB 15 4095) (fun V=>[(V1,fF ps),(V2,fF ys)]) (fun V=>[(1,.d (.v V1)),(2,.d (.v V2)),(3,.d (af c)),(4,.bx [.sl 1 (v.map af)]),(9,.d (dI i)),(10,.d (af M)),(13,.d (dI xs.length)),(14,.d (dI i)),(31,.d (.v V1)),(32,.d (dI i)),(34,.d (.v V1)),(35,.d (dI i)),(38,.d (af M)),(33,.d (bF v)),(36,.d (.v (aQ V1 (i*1)))),(37,.d (af X)),(39,.d (.tu [af S,aj])),(30,.d (.tu [af S,aj])),(40,.d (af S)),(41,.d aj)]) (fun V=>?_) (fun N1_2_3_1_0=>?_)
     · refine ZH.all 12 (by kernel_rfl) rfl rfl (fun _=>rfl) trivial ?_;refine ah (fun B1 F1 w1 hS=>?_);refine aa.idxs tok (hS.at (i:=0) rfl (by rw[List.length_map];omega)) rfl rfl rfl rfl (Int.natCast_nonneg i) (by rw[List.length_map,hpl];exact hin) ?_;refine aa.nil ⟨rfl,?_⟩;refine ZH.to [1,2,3,4,9,10,13,14,31,32,34,35,38,33,36,37,39,30,40,42,41] [(1,.d (.v V1)),(2,.d (.v V2)),(3,.d (af c)),(4,.bx [.sl 1 (v.map af)]),(9,.d (dI i)),(10,.d (af M)),(13,.d (dI xs.length)),(14,.d (dI i)),(31,.d (.v V1)),(32,.d (dI i)),(34,.d (.v V1)),(35,.d (dI i)),(38,.d (af M)),(33,.d (bF v)),(36,.d (.v (aQ V1 (i*1)))),(37,.d (af X)),(39,.d (.tu [af S,aj])),(30,.d (.tu [af S,aj])),(40,.d (af S)),(42,.d (.v (aQ V1 (i*1)))),(41,.d aj)] rfl trivial ?_;exact ZH.ls _ (by kernel_rfl) (N1_2_4_1_0 V)
     refine ZH.meet 3 (qB 15 6143) (fun V=>[(V1,fF ps),(V2,fF ys)]) (fun V=>[(1,.d (.v V1)),(2,.d (.v V2)),(3,.d (af c)),(4,.bx [.sl 1 (v.map af)]),(9,.d (dI i)),(10,.d (af M)),(13,.d (dI xs.length)),(14,.d (dI i)),(31,.d (.v V1)),(32,.d (dI i)),(34,.d (.v V1)),(35,.d (dI i)),(38,.d (af M)),(33,.d (bF v)),(36,.d (.v (aQ V1 (i*1)))),(37,.d (af X)),(39,.d (.tu [af S,aj])),(30,.d (.tu [af S,aj])),(40,.d (af S)),(42,.d (.v (aQ V1 (i*1))))]) (fun V=>?_) (fun N1_2_4_0_0=>?_)
     · refine ZH.two 11 13 (by kernel_rfl) rfl rfl rfl rfl (fun _=>rfl) (fun _=>rfl) trivial ?_ ?_
       · refine au (fun B1 F1 w1=>?_);refine qU 1 rfl ?_;refine aa.nil ⟨rfl,?_⟩;refine ZH.to [1,2,3,4,9,10,13,14,31,32,34,35,38,33,36,37,39,30,40,42,41] [(1,.d (.v V1)),(2,.d (.v V2)),(3,.d (af c)),(4,.bx [.sl 1 (v.map af)]),(9,.d (dI i)),(10,.d (af M)),(13,.d (dI xs.length)),(14,.d (dI i)),(31,.d (.v V1)),(32,.d (dI i)),(34,.d (.v V1)),(35,.d (dI i)),(38,.d (af M)),(33,.d (bF v)),(36,.d (.v (aQ V1 (i*1)))),(37,.d (af X)),(39,.d (.tu [af S,aj])),(30,.d (.tu [af S,aj])),(40,.d (af S)),(42,.d (.v (aQ V1 (i*1)))),(41,.d aj)] rfl trivial ?_;exact ZH.ls _ (by kernel_rfl) (N1_2_4_1_0 V)
       · refine ai.dy 31 0 rfl rfl rfl ?_;refine ai.el tok 31 42 rfl (List.Mem.head _) rfl rfl rfl (by rw[List.length_map,hpl];exact hin) rfl ?_;refine ai.cut 1 rfl (fun B1 F1 w1=>?_);refine aa.ub tok S rfl rfl rfl (by omega) ?_;rw[hps];refine aa.nil ⟨rfl,?_⟩;refine ai.back 31 0 rfl rfl rfl (List.Mem.head _) rfl ?_;refine ai.nil ?_;refine ZH.to [1,2,3,4,9,10,13,14,31,32,34,35,38,33,36,37,39,30,40] [(1,.d (.v V1)),(2,.d (.v V2)),(3,.d (af c)),(4,.bx [.sl 1 (v.map af)]),(9,.d (dI i)),(10,.d (af M)),(13,.d (dI xs.length)),(14,.d (dI i)),(31,.d (.v V1)),(32,.d (dI i)),(34,.d (.v V1)),(35,.d (dI i)),(38,.d (af M)),(33,.d (bF v)),(36,.d (.v (aQ V1 (i*1)))),(37,.d (af X)),(39,.d (.tu [af S,aj])),(30,.d (.tu [af S,aj])),(40,.d (af S))] rfl trivial ?_;exact ZH.ls _ (by kernel_rfl) (N1_2_5_0_0 V)
     refine ZH.meet 4 (qB 15 3071) (fun V=>[(V1,fF ps),(V2,fF ys)]) (fun V=>[(1,.d (.v V1)),(2,.d (.v V2)),(3,.d (af c)),(4,.bx [.sl 1 (v.map af)]),(9,.d (dI i)),(10,.d (af M)),(13,.d (dI xs.length)),(14,.d (dI i)),(31,.d (.v V1)),(32,.d (dI i)),(34,.d (.v V1)),(35,.d (dI i)),(38,.d (af M)),(33,.d (bF v)),(36,.d (.v (aQ V1 (i*1)))),(37,.d (af X)),(39,.d (.tu [af S,aj])),(30,.d (.tu [af S,aj])),(41,.d aj)]) (fun V=>?_) (fun N1_2_2_1_0=>?_)
     · refine ZH.all 10 (by kernel_rfl) rfl rfl (fun _=>rfl) trivial ?_;refine au (fun B1 F1 w1=>?_);refine qU 1 rfl ?_;refine aa.nil ⟨rfl,?_⟩;refine ZH.to [1,2,3,4,9,10,13,14,31,32,34,35,38,33,36,37,39,30,40,41] [(1,.d (.v V1)),(2,.d (.v V2)),(3,.d (af c)),(4,.bx [.sl 1 (v.map af)]),(9,.d (dI i)),(10,.d (af M)),(13,.d (dI xs.length)),(14,.d (dI i)),(31,.d (.v V1)),(32,.d (dI i)),(34,.d (.v V1)),(35,.d (dI i)),(38,.d (af M)),(33,.d (bF v)),(36,.d (.v (aQ V1 (i*1)))),(37,.d (af X)),(39,.d (.tu [af S,aj])),(30,.d (.tu [af S,aj])),(40,.d (af S)),(41,.d aj)] rfl trivial ?_;exact ZH.ls _ (by kernel_rfl) (N1_2_3_1_0 V)
     refine ZH.meet 4 (qB 15 2047) (fun V=>[(V1,fF ps),(V2,fF ys)]) (fun V=>[(1,.d (.v V1)),(2,.d (.v V2)),(3,.d (af c)),(4,.bx [.sl 1 (v.map af)]),(9,.d (dI i)),(10,.d (af M)),(13,.d (dI xs.length)),(14,.d (dI i)),(31,.d (.v V1)),(32,.d (dI i)),(34,.d (.v V1)),(35,.d (dI i)),(38,.d (af M)),(33,.d (bF v)),(36,.d (.v (aQ V1 (i*1)))),(37,.d (af X)),(39,.d (.tu [af S,aj])),(30,.d (.tu [af S,aj])),(40,.d (af S))]) (fun V=>?_) (fun N1_2_3_0_0=>?_)
     · refine ZH.two 11 12 (by kernel_rfl) rfl rfl rfl rfl (fun _=>rfl) (fun _=>rfl) trivial ?_ ?_
       · refine au (fun B1 F1 w1=>?_);refine qU 1 rfl ?_;refine aa.nil ⟨rfl,?_⟩;refine ZH.to [1,2,3,4,9,10,13,14,31,32,34,35,38,33,36,37,39,30,40,41] [(1,.d (.v V1)),(2,.d (.v V2)),(3,.d (af c)),(4,.bx [.sl 1 (v.map af)]),(9,.d (dI i)),(10,.d (af M)),(13,.d (dI xs.length)),(14,.d (dI i)),(31,.d (.v V1)),(32,.d (dI i)),(34,.d (.v V1)),(35,.d (dI i)),(38,.d (af M)),(33,.d (bF v)),(36,.d (.v (aQ V1 (i*1)))),(37,.d (af X)),(39,.d (.tu [af S,aj])),(30,.d (.tu [af S,aj])),(40,.d (af S)),(41,.d aj)] rfl trivial ?_;exact ZH.ls _ (by kernel_rfl) (N1_2_3_1_0 V)
       · refine ah (fun B1 F1 w1 hS=>?_);refine aa.idxs tok (hS.at (i:=0) rfl (by rw[List.length_map];omega)) rfl rfl rfl rfl (Int.natCast_nonneg i) (by rw[List.length_map,hpl];exact hin) ?_;refine aa.nil ⟨rfl,?_⟩;refine ZH.to [1,2,3,4,9,10,13,14,31,32,34,35,38,33,36,37,39,30,40,42] [(1,.d (.v V1)),(2,.d (.v V2)),(3,.d (af c)),(4,.bx [.sl 1 (v.map af)]),(9,.d (dI i)),(10,.d (af M)),(13,.d (dI xs.length)),(14,.d (dI i)),(31,.d (.v V1)),(32,.d (dI i)),(34,.d (.v V1)),(35,.d (dI i)),(38,.d (af M)),(33,.d (bF v)),(36,.d (.v (aQ V1 (i*1)))),(37,.d (af X)),(39,.d (.tu [af S,aj])),(30,.d (.tu [af S,aj])),(40,.d (af S)),(42,.d (.v (aQ V1 (i*1))))] rfl trivial ?_;exact ZH.ls _ (by kernel_rfl) (N1_2_4_0_0 V)
     refine ZH.meet 5 (qB 15 1023) (fun V=>[(V1,fF ps),(V2,fF ys)]) (fun V=>[(1,.d (.v V1)),(2,.d (.v V2)),(3,.d (af c)),(4,.bx [.sl 1 (v.map af)]),(9,.d (dI i)),(10,.d (af M)),(13,.d (dI xs.length)),(14,.d (dI i)),(31,.d (.v V1)),(32,.d (dI i)),(34,.d (.v V1)),(35,.d (dI i)),(38,.d (af M)),(33,.d (bF v)),(36,.d (.v (aQ V1 (i*1)))),(37,.d (af X)),(39,.d (.tu [af S,aj])),(30,.d (.tu [af S,aj]))]) (fun V=>?_) (fun N1_2_2_0_0=>?_)
     · refine ZH.two 10 11 (by kernel_rfl) rfl rfl rfl rfl (fun _=>rfl) (fun _=>rfl) trivial ?_ ?_
       · refine au (fun B1 F1 w1=>?_);refine qU 1 rfl ?_;refine aa.nil ⟨rfl,?_⟩;refine ZH.to [1,2,3,4,9,10,13,14,31,32,34,35,38,33,36,37,39,30,40] [(1,.d (.v V1)),(2,.d (.v V2)),(3,.d (af c)),(4,.bx [.sl 1 (v.map af)]),(9,.d (dI i)),(10,.d (af M)),(13,.d (dI xs.length)),(14,.d (dI i)),(31,.d (.v V1)),(32,.d (dI i)),(34,.d (.v V1)),(35,.d (dI i)),(38,.d (af M)),(33,.d (bF v)),(36,.d (.v (aQ V1 (i*1)))),(37,.d (af X)),(39,.d (.tu [af S,aj])),(30,.d (.tu [af S,aj])),(40,.d (af S))] rfl trivial ?_;exact ZH.ls _ (by kernel_rfl) (N1_2_3_0_0 V)
       · refine au (fun B1 F1 w1=>?_);refine qU 1 rfl ?_;refine aa.nil ⟨rfl,?_⟩;refine ZH.to [1,2,3,4,9,10,13,14,31,32,34,35,38,33,36,37,39,30,41] [(1,.d (.v V1)),(2,.d (.v V2)),(3,.d (af c)),(4,.bx [.sl 1 (v.map af)]),(9,.d (dI i)),(10,.d (af M)),(13,.d (dI xs.length)),(14,.d (dI i)),(31,.d (.v V1)),(32,.d (dI i)),(34,.d (.v V1)),(35,.d (dI i)),(38,.d (af M)),(33,.d (bF v)),(36,.d (.v (aQ V1 (i*1)))),(37,.d (af X)),(39,.d (.tu [af S,aj])),(30,.d (.tu [af S,aj])),(41,.d aj)] rfl trivial ?_;exact ZH.ls _ (by kernel_rfl) (N1_2_2_1_0 V)
     refine ZH.meet 6 (qB 15 511) (fun V=>[(V1,fF ps),(V2,fF ys)]) (fun V=>[(1,.d (.v V1)),(2,.d (.v V2)),(3,.d (af c)),(4,.bx [.sl 1 (v.map af)]),(9,.d (dI i)),(10,.d (af M)),(13,.d (dI xs.length)),(14,.d (dI i)),(31,.d (.v V1)),(32,.d (dI i)),(34,.d (.v V1)),(35,.d (dI i)),(38,.d (af M)),(33,.d (bF v)),(36,.d (.v (aQ V1 (i*1)))),(37,.d (af X)),(39,.d (.tu [af S,aj]))]) (fun V=>?_) (fun N1_2_1_0_0=>?_)
     · refine ZH.all 9 (by kernel_rfl) rfl rfl (fun _=>rfl) trivial ?_;refine au (fun B1 F1 w1=>?_);refine qU 1 rfl ?_;refine aa.nil ⟨rfl,?_⟩;refine ZH.to [1,2,3,4,9,10,13,14,31,32,34,35,38,33,36,37,39,30] [(1,.d (.v V1)),(2,.d (.v V2)),(3,.d (af c)),(4,.bx [.sl 1 (v.map af)]),(9,.d (dI i)),(10,.d (af M)),(13,.d (dI xs.length)),(14,.d (dI i)),(31,.d (.v V1)),(32,.d (dI i)),(34,.d (.v V1)),(35,.d (dI i)),(38,.d (af M)),(33,.d (bF v)),(36,.d (.v (aQ V1 (i*1)))),(37,.d (af X)),(39,.d (.tu [af S,aj])),(30,.d (.tu [af S,aj]))] rfl trivial ?_;exact ZH.ls _ (by kernel_rfl) (N1_2_2_0_0 V)
     refine ZH.meet 7 (qB 15 255) (fun V=>[(V1,fF ps),(V2,fF ys)]) (fun V=>[(1,.d (.v V1)),(2,.d (.v V2)),(3,.d (af c)),(4,.bx [.sl 1 (v.map af)]),(9,.d (dI i)),(10,.d (af M)),(13,.d (dI xs.length)),(14,.d (dI i)),(31,.d (.v V1)),(32,.d (dI i)),(34,.d (.v V1)),(35,.d (dI i)),(38,.d (af M)),(33,.d (bF v)),(36,.d (.v (aQ V1 (i*1)))),(37,.d (af X))]) (fun V=>?_) (fun N1_2_0_0_0=>?_)
     · refine ZH.all 8 (by kernel_rfl) rfl rfl (fun _=>rfl) trivial ?_;refine au (fun B1 F1 w1=>?_);refine aa.call tok rfl rfl rfl rfl cs ?_;refine aa.nil ⟨rfl,?_⟩;refine ZH.to [1,2,3,4,9,10,13,14,31,32,34,35,38,33,36,37,39] [(1,.d (.v V1)),(2,.d (.v V2)),(3,.d (af c)),(4,.bx [.sl 1 (v.map af)]),(9,.d (dI i)),(10,.d (af M)),(13,.d (dI xs.length)),(14,.d (dI i)),(31,.d (.v V1)),(32,.d (dI i)),(34,.d (.v V1)),(35,.d (dI i)),(38,.d (af M)),(33,.d (bF v)),(36,.d (.v (aQ V1 (i*1)))),(37,.d (af X)),(39,.d (.tu [af S,aj]))] rfl trivial ?_;exact ZH.ls _ (by kernel_rfl) (N1_2_1_0_0 V)
     refine ZH.meet 8 (qB 15 251) (fun V=>[(V1,fF ps),(V2,fF ys)]) (fun V=>[(1,.d (.v V1)),(2,.d (.v V2)),(3,.d (af c)),(4,.bx [.sl 1 (v.map af)]),(9,.d (dI i)),(10,.d (af M)),(13,.d (dI xs.length)),(14,.d (dI i)),(31,.d (.v V1)),(32,.d (dI i)),(34,.d (.v V1)),(35,.d (dI i)),(38,.d (af M)),(36,.d (.v (aQ V1 (i*1)))),(37,.d (af X))]) (fun V=>?_) (fun N0_2_0_0_0=>?_)
     · refine ZH.all 2 (by kernel_rfl) rfl rfl (fun _=>rfl) trivial ?_;refine au (fun B1 F1 w1=>?_);refine qU 1 rfl ?_;refine aa.nil ⟨rfl,?_⟩;refine ZH.to [1,2,3,4,9,10,13,14,31,32,34,35,38,33,36,37] [(1,.d (.v V1)),(2,.d (.v V2)),(3,.d (af c)),(4,.bx [.sl 1 (v.map af)]),(9,.d (dI i)),(10,.d (af M)),(13,.d (dI xs.length)),(14,.d (dI i)),(31,.d (.v V1)),(32,.d (dI i)),(34,.d (.v V1)),(35,.d (dI i)),(38,.d (af M)),(33,.d (bF v)),(36,.d (.v (aQ V1 (i*1)))),(37,.d (af X))] rfl trivial ?_;exact ZH.ls _ (by kernel_rfl) (N1_2_0_0_0 V)
     refine ZH.meet 8 (qB 15 191) (fun V=>[(V1,fF ps),(V2,fF ys)]) (fun V=>[(1,.d (.v V1)),(2,.d (.v V2)),(3,.d (af c)),(4,.bx [.sl 1 (v.map af)]),(9,.d (dI i)),(10,.d (af M)),(13,.d (dI xs.length)),(14,.d (dI i)),(31,.d (.v V1)),(32,.d (dI i)),(34,.d (.v V1)),(35,.d (dI i)),(38,.d (af M)),(33,.d (bF v)),(36,.d (.v (aQ V1 (i*1))))]) (fun V=>?_) (fun N1_1_0_0_0=>?_)
     · refine ZH.all 6 (by kernel_rfl) rfl rfl (fun _=>rfl) trivial ?_;refine ah (fun B1 F1 w1 hS=>?_);refine aa.aU tok (af (ps.getD i [])) (hS.at (i:=0) rfl (by rw[List.length_map];omega)) rfl rfl rfl rfl rfl rfl (getM af (by omega)) rfl ?_;rw[hpg];refine aa.nil ⟨rfl,?_⟩;refine ZH.to [1,2,3,4,9,10,13,14,31,32,34,35,38,33,36,37] [(1,.d (.v V1)),(2,.d (.v V2)),(3,.d (af c)),(4,.bx [.sl 1 (v.map af)]),(9,.d (dI i)),(10,.d (af M)),(13,.d (dI xs.length)),(14,.d (dI i)),(31,.d (.v V1)),(32,.d (dI i)),(34,.d (.v V1)),(35,.d (dI i)),(38,.d (af M)),(33,.d (bF v)),(36,.d (.v (aQ V1 (i*1)))),(37,.d (af X))] rfl trivial ?_;exact ZH.ls _ (by kernel_rfl) (N1_2_0_0_0 V)
     refine ZH.meet 9 (qB 15 187) (fun V=>[(V1,fF ps),(V2,fF ys)]) (fun V=>[(1,.d (.v V1)),(2,.d (.v V2)),(3,.d (af c)),(4,.bx [.sl 1 (v.map af)]),(9,.d (dI i)),(10,.d (af M)),(13,.d (dI xs.length)),(14,.d (dI i)),(31,.d (.v V1)),(32,.d (dI i)),(34,.d (.v V1)),(35,.d (dI i)),(38,.d (af M)),(36,.d (.v (aQ V1 (i*1))))]) (fun V=>?_) (fun N0_1_0_0_0=>?_)
     · refine ZH.two 2 6 (by kernel_rfl) rfl rfl rfl rfl (fun _=>rfl) (fun _=>rfl) trivial ?_ ?_
       · refine au (fun B1 F1 w1=>?_);refine qU 1 rfl ?_;refine aa.nil ⟨rfl,?_⟩;refine ZH.to [1,2,3,4,9,10,13,14,31,32,34,35,38,33,36] [(1,.d (.v V1)),(2,.d (.v V2)),(3,.d (af c)),(4,.bx [.sl 1 (v.map af)]),(9,.d (dI i)),(10,.d (af M)),(13,.d (dI xs.length)),(14,.d (dI i)),(31,.d (.v V1)),(32,.d (dI i)),(34,.d (.v V1)),(35,.d (dI i)),(38,.d (af M)),(33,.d (bF v)),(36,.d (.v (aQ V1 (i*1))))] rfl trivial ?_;exact ZH.ls _ (by kernel_rfl) (N1_1_0_0_0 V)
       · refine ah (fun B1 F1 w1 hS=>?_);refine aa.aU tok (af (ps.getD i [])) (hS.at (i:=0) rfl (by rw[List.length_map];omega)) rfl rfl rfl rfl rfl rfl (getM af (by omega)) rfl ?_;rw[hpg];refine aa.nil ⟨rfl,?_⟩;refine ZH.to [1,2,3,4,9,10,13,14,31,32,34,35,38,36,37] [(1,.d (.v V1)),(2,.d (.v V2)),(3,.d (af c)),(4,.bx [.sl 1 (v.map af)]),(9,.d (dI i)),(10,.d (af M)),(13,.d (dI xs.length)),(14,.d (dI i)),(31,.d (.v V1)),(32,.d (dI i)),(34,.d (.v V1)),(35,.d (dI i)),(38,.d (af M)),(36,.d (.v (aQ V1 (i*1)))),(37,.d (af X))] rfl trivial ?_;exact ZH.ls _ (by kernel_rfl) (N0_2_0_0_0 V)
     refine ZH.meet 9 (qB 15 159) (fun V=>[(V1,fF ps),(V2,fF ys)]) (fun V=>[(1,.d (.v V1)),(2,.d (.v V2)),(3,.d (af c)),(4,.bx [.sl 1 (v.map af)]),(9,.d (dI i)),(10,.d (af M)),(13,.d (dI xs.length)),(14,.d (dI i)),(31,.d (.v V1)),(32,.d (dI i)),(34,.d (.v V1)),(35,.d (dI i)),(38,.d (af M)),(33,.d (bF v))]) (fun V=>?_) (fun N1_0_0_0_0=>?_)
     · refine ZH.all 5 (by kernel_rfl) rfl rfl (fun _=>rfl) trivial ?_;refine ah (fun B1 F1 w1 hS=>?_);refine aa.idxs tok (hS.at (i:=0) rfl (by rw[List.length_map];omega)) rfl rfl rfl rfl (Int.natCast_nonneg i) (by rw[List.length_map,hpl];exact hin) ?_;refine aa.nil ⟨rfl,?_⟩;refine ZH.to [1,2,3,4,9,10,13,14,31,32,34,35,38,33,36] [(1,.d (.v V1)),(2,.d (.v V2)),(3,.d (af c)),(4,.bx [.sl 1 (v.map af)]),(9,.d (dI i)),(10,.d (af M)),(13,.d (dI xs.length)),(14,.d (dI i)),(31,.d (.v V1)),(32,.d (dI i)),(34,.d (.v V1)),(35,.d (dI i)),(38,.d (af M)),(33,.d (bF v)),(36,.d (.v (aQ V1 (i*1))))] rfl trivial ?_;exact ZH.ls _ (by kernel_rfl) (N1_1_0_0_0 V)
     refine ZH.meet 10 (qB 15 155) (fun V=>[(V1,fF ps),(V2,fF ys)]) (fun V=>[(1,.d (.v V1)),(2,.d (.v V2)),(3,.d (af c)),(4,.bx [.sl 1 (v.map af)]),(9,.d (dI i)),(10,.d (af M)),(13,.d (dI xs.length)),(14,.d (dI i)),(31,.d (.v V1)),(32,.d (dI i)),(34,.d (.v V1)),(35,.d (dI i)),(38,.d (af M))]) (fun V=>?_) (fun N0_0_0_0_0=>?_)
     · refine ZH.two 2 5 (by kernel_rfl) rfl rfl rfl rfl (fun _=>rfl) (fun _=>rfl) trivial ?_ ?_
       · refine au (fun B1 F1 w1=>?_);refine qU 1 rfl ?_;refine aa.nil ⟨rfl,?_⟩;refine ZH.to [1,2,3,4,9,10,13,14,31,32,34,35,38,33] [(1,.d (.v V1)),(2,.d (.v V2)),(3,.d (af c)),(4,.bx [.sl 1 (v.map af)]),(9,.d (dI i)),(10,.d (af M)),(13,.d (dI xs.length)),(14,.d (dI i)),(31,.d (.v V1)),(32,.d (dI i)),(34,.d (.v V1)),(35,.d (dI i)),(38,.d (af M)),(33,.d (bF v))] rfl trivial ?_;exact ZH.ls _ (by kernel_rfl) (N1_0_0_0_0 V)
       · refine ah (fun B1 F1 w1 hS=>?_);refine aa.idxs tok (hS.at (i:=0) rfl (by rw[List.length_map];omega)) rfl rfl rfl rfl (Int.natCast_nonneg i) (by rw[List.length_map,hpl];exact hin) ?_;refine aa.nil ⟨rfl,?_⟩;refine ZH.to [1,2,3,4,9,10,13,14,31,32,34,35,38,36] [(1,.d (.v V1)),(2,.d (.v V2)),(3,.d (af c)),(4,.bx [.sl 1 (v.map af)]),(9,.d (dI i)),(10,.d (af M)),(13,.d (dI xs.length)),(14,.d (dI i)),(31,.d (.v V1)),(32,.d (dI i)),(34,.d (.v V1)),(35,.d (dI i)),(38,.d (af M)),(36,.d (.v (aQ V1 (i*1))))] rfl trivial ?_;exact ZH.ls _ (by kernel_rfl) (N0_1_0_0_0 V)
     refine ZH.to [1,2,3,4,9,10,13,14,31,32,34,35,38] [(1,.d (.v V1)),(2,.d (.v V2)),(3,.d (af c)),(4,.bx [.sl 1 (v.map af)]),(9,.d (dI i)),(10,.d (af M)),(13,.d (dI xs.length)),(14,.d (dI i)),(31,.d (.v V1)),(32,.d (dI i)),(34,.d (.v V1)),(35,.d (dI i)),(38,.d (af M))] rfl trivial ?_;exact ZH.ls _ (by kernel_rfl) (N0_0_0_0_0 dq)
   have hin:i=xs.length:=by have:=of_decide_eq_false h;omega
   subst hin;rw[wj hz];refine AZ.exit ?_;refine AZ.seq ?_;refine AZ.gv (fun B1 F1 w1=>?_);refine qU 1 rfl ?_;refine aa.nil ⟨rfl,?_⟩;exact AZ.ret ⟨aj,rfl,rfl,rfl⟩
end Lift
namespace Lift
abbrev gY:=List (List NQ)
structure lS where
 rows:gY
 cols:List Nat
 sg:Int
 det:NQ
def kv(g:Nat→Bool):Nat→Nat→Nat
 | 0,i=>i
 | m+1,i=>if g i=true then i else kv g m (i+1)
theorem z7{g:Nat→Bool}{n i:Nat}(h:i<n)(h0:g i=false):kv g (n-i) i=kv g (n-(i+1)) (i+1):=by
 rw[show n-i=(n-(i+1))+1 by omega,kv,if_neg (by rw[h0];simp)]
theorem BI{g:Nat→Bool}{n i:Nat}(h:i<n)(h0:g i=true):kv g (n-i) i=i:=by
 rw[show n-i=(n-(i+1))+1 by omega,kv,if_pos h0]
theorem BJ{g:Nat→Bool}{n i:Nat}(h: ¬i<n):kv g (n-i) i=i:=by rw[show n-i=0 by omega,kv]
theorem tF{g:Nat→Bool}: ∀{m i:Nat},i≤kv g m i∧kv g m i≤i+m∧(∀k,i≤k→k<kv g m i→g k=false)∧(kv g m i<i+m→g (kv g m i)=true)
 | 0,i=>⟨Nat.le_refl _,Nat.le_refl _,fun k h1 h2=>by simp only[kv] at h2;omega,fun h=>by simp only[kv] at h;omega⟩
 | m+1,i=>by
   simp only[kv];split
   · rename_i h;exact⟨Nat.le_refl _,by omega,fun k h1 h2=>by omega,fun _=>h⟩
   · rename_i h;obtain ⟨h1,h2,h3,h4⟩:=tF (g:=g) (m:=m) (i:=i+1);refine⟨by omega,by omega,fun k k1 k2=>?_,fun k=>h4 (by omega)⟩;by_cases e:k=i
     · subst e;simpa using h
     · exact h3 k (by omega) k2
def ig(a:gY)(i k:Nat):NQ:=(a.getD i []).getD k []
def Fq(v:List NQ)(a:gY)(c j:Nat):Bool:=decide (vr v (ig a j c)≠0)
def Eh(b:gY)(r t:Nat):gY:=(b.set t (b.getD r [])).set r (b.getD t [])
def ev(v:List NQ)(e:gY)(r c:Nat):Nat→gY
 | 0=>e
 | i+1=>if i≠r∧vr v (ig (ev v e r c i) i c)≠0 then (ev v e r c i).set i (mY v ((ev v e r c i).getD i []) ((ev v e r c i).getD r []) (ig (ev v e r c i) i c)) else ev v e r c i
def atR(v:List NQ)(s:lS)(c:Nat):Nat:=kv (Fq v s.rows c) (s.rows.length-s.cols.length) s.cols.length
def bR(v:List NQ)(s:lS)(c:Nat):gY:=if atR v s c=s.cols.length then s.rows else Eh s.rows s.cols.length (atR v s c)
def pR(v:List NQ)(s:lS)(c:Nat):NQ:=ig (bR v s c) s.cols.length c
def w5(v:List NQ)(r:List NQ)(p:NQ):List NQ:=r.map (fun x=>Ad v x p)
def eR(v:List NQ)(s:lS)(c:Nat):gY:=(bR v s c).set s.cols.length (w5 v ((bR v s c).getD s.cols.length []) (pR v s c))
def oW(v:List NQ)(s:lS)(c:Nat):lS :=
 if atR v s c<s.rows.length then ⟨ev v (eR v s c) s.cols.length c (eR v s c).length,s.cols++[c],if atR v s c=s.cols.length then s.sg else -s.sg,gU v s.det (pR v s c)⟩ else s
def fB(v:List NQ)(a:gY):Nat→lS
 | 0=>⟨a,[],1,[1]⟩
 | c+1=>oW v (fB v a c) c
structure sh (v:List NQ) (s:lS) (c:Nat):Prop where
 sg: ∀j,s.cols.length≤j→j<s.rows.length→vY v (ig s.rows j c)
 det:atR v s c<s.rows.length→y0 v s.det (pR v s c)
 div:atR v s c<s.rows.length→ ∀k,k<((bR v s c).getD s.cols.length []).length→Bl v (ig (bR v s c) s.cols.length k) (pR v s c)
 sg2:atR v s c<s.rows.length→ ∀i,i<s.rows.length→i≠s.cols.length→vY v (ig (eR v s c) i c)
 take:atR v s c<s.rows.length→ ∀i,i<s.rows.length→i≠s.cols.length→vr v (ig (eR v s c) i c)≠0→Bh v ((eR v s c).getD i []) ((eR v s c).getD s.cols.length []) (ig (eR v s c) i c)
def iF(N:Nat)(a:gY):Prop:= ∀j,j<a.length→(a.getD j []).length=N
def zE(l:Nat)(a:gY):Prop:= ∀j k,aB l (ig a j k)
theorem rJ(a:gY)(i j:Nat)(r:List NQ):(a.set i r).getD j []=if j=i∧i<a.length then r else a.getD j []:=by
 rw[List.getD_eq_getElem?_getD,List.getElem?_set,List.getD_eq_getElem?_getD];by_cases e:i=j
 · subst e;by_cases h:i<a.length
   · rw[if_pos rfl,if_pos h,if_pos ⟨rfl,h⟩];rfl
   · rw[if_pos rfl,if_neg h,if_neg (fun e=>h e.2),List.getElem?_eq_none (by omega)]
 · rw[if_neg e,if_neg (fun h=>e h.1.symm)]
theorem u7{a:gY}{i:Nat}(h:a.length≤i):a.getD i []=[]:=by rw[List.getD_eq_getElem?_getD,List.getElem?_eq_none h];rfl
theorem u5{r:List NQ}{i:Nat}(h:r.length≤i):r.getD i []=[]:=by rw[List.getD_eq_getElem?_getD,List.getElem?_eq_none h];rfl
theorem iF.set{N:Nat}{a:gY}(h:iF N a){r:List NQ}(hr:r.length=N)(i:Nat):iF N (a.set i r):=fun j hj=>by
 rw[rJ];split
 · exact hr
 · exact h j (by simpa using hj)
theorem zE.set{l:Nat}{a:gY}(h:zE l a){r:List NQ}(hr: ∀k,aB l (r.getD k []))(i:Nat):zE l (a.set i r):=fun j k=>by
 unfold ig;rw[rJ];split
 · exact hr k
 · exact h j k
theorem CL(b:gY)(r t:Nat):(Eh b r t).length=b.length:=by unfold Eh;rw[List.length_set,List.length_set]
theorem AD{N:Nat}{b:gY}(h:iF N b){r t:Nat}(hr:r<b.length)(ht:t<b.length):iF N (Eh b r t):=(h.set (h r hr) t).set (h t ht) r
theorem Eg{l:Nat}{b:gY}(h:zE l b)(r t:Nat):zE l (Eh b r t):=(h.set (h r) t).set (h t) r
theorem uI(v:List NQ)(r:List NQ)(p:NQ):(w5 v r p).length=r.length:=List.length_map ..
theorem y6(v:List NQ)(r:List NQ)(p:NQ){k:Nat}(h:k<r.length):(w5 v r p).getD k []=Ad v (r.getD k []) p:=by
 unfold w5;rw[List.getD_eq_getElem?_getD,List.getElem?_map,List.getD_eq_getElem?_getD,List.getElem?_eq_getElem h];rfl
theorem EB{v:List NQ}(V:qe v){r:List NQ}{p:NQ}(hr: ∀k,aB v.length (r.getD k []))(hp:aB v.length p)(k:Nat):aB v.length ((w5 v r p).getD k []):=by
 by_cases h:k<r.length
 · rw[y6 v r p h];exact Dw V (hr k) hp
 · rw[u5 (by rw[uI];omega)];exact bG _
theorem Az{v:List NQ}(V:qe v){xs ys:List NQ}{c:NQ}(hx: ∀k,aB v.length (xs.getD k []))(hy: ∀k,aB v.length (ys.getD k []))(hc:aB v.length c)(k:Nat):aB v.length ((mY v xs ys c).getD k []):=by
 by_cases h:k<xs.length
 · rw[sZ v xs ys c h];exact CO (hx k) (uS V hc (hy k))
 · rw[u5 (by rw[nU];omega)];exact bG _
theorem lf(v:List NQ)(e:gY)(r c:Nat): ∀i,(ev v e r c i).length=e.length
 | 0=>rfl
 | i+1=>by
   unfold ev;split
   · rw[List.length_set];exact lf v e r c i
   · exact lf v e r c i
theorem oM{N:Nat}{v:List NQ}{e:gY}{r c:Nat}(h:iF N e): ∀i,i≤e.length→iF N (ev v e r c i)
 | 0,_=>h
 | i+1,hi=>by
   have ih:=oM (v:=v) (r:=r) (c:=c) h i (by omega);unfold ev;split
   · exact ih.set (by rw[nU];exact ih i (by rw[lf];omega)) i
   · exact ih
theorem vj{v:List NQ}(V:qe v){e:gY}{r c:Nat}(h:zE v.length e): ∀i,zE v.length (ev v e r c i)
 | 0=>h
 | i+1=>by
   have ih:=vj V (r:=r) (c:=c) h i;unfold ev;split
   · exact ih.set (Az V (ih i) (ih r) (ih i c)) i
   · exact ih
theorem nI(v:List NQ)(e:gY)(r c:Nat): ∀i,(∀j,i≤j∨j=r→(ev v e r c i).getD j []=e.getD j [])
 | 0,j,_=>rfl
 | i+1,j,hj=>by
   have ih:=nI v e r c i j (by omega);unfold ev;split
   · rename_i h;rw[rJ,if_neg (fun g=>by rcases hj with hj | hj<;>omega)];exact ih
   · exact ih
theorem DA(v:List NQ)(e:gY)(r c:Nat)(i:Nat)(k:Nat):ig (ev v e r c i) i k=ig e i k:=by unfold ig;rw[nI v e r c i i (.inl (Nat.le_refl _))]
structure wX (v:List NQ) (m N c:Nat) (s:lS):Prop where
 len:s.rows.length=m
 rect:iF N s.rows
 lt:zE v.length s.rows
 cl:s.cols.length≤c
 cm:s.cols.length≤m
 det:aB v.length s.det
 sg:s.sg=1∨s.sg= -1
theorem nM(v:List NQ)(s:lS)(c:Nat)(h:s.cols.length≤s.rows.length):s.cols.length≤atR v s c∧atR v s c≤s.rows.length∧(∀k,s.cols.length≤k→k<atR v s c→vr v (ig s.rows k c)=0)∧(atR v s c<s.rows.length→vr v (ig s.rows (atR v s c) c)≠0):=by
 obtain ⟨h1,h2,h3,h4⟩:=tF (g:=Fq v s.rows c) (m:=s.rows.length-s.cols.length) (i:=s.cols.length);refine⟨h1,by unfold atR;omega,fun k k1 k2=>?_,fun h=>?_⟩
 · have:=h3 k k1 k2;unfold Fq at this;exact Classical.byContradiction fun g=>by rw[decide_eq_true g] at this;cases this
 · exact of_decide_eq_true (h4 (by unfold atR at h;omega))
theorem Ci{v:List NQ}{m N c k:Nat}{s:lS}(R:wX v m N k s)(h:atR v s c<s.rows.length):(bR v s c).length=m∧iF N (bR v s c)∧zE v.length (bR v s c):=by
 have hl:=R.len;have:=(nM v s c (by have:=R.cm;omega)).1;unfold bR;split
 · exact⟨R.len,R.rect,R.lt⟩
 · exact⟨by rw[CL];exact R.len,AD R.rect (by omega) h,Eg R.lt _ _⟩
theorem DU{v:List NQ}(V:qe v){m N c k:Nat}{s:lS}(R:wX v m N k s)(h:atR v s c<s.rows.length):(eR v s c).length=m∧iF N (eR v s c)∧zE v.length (eR v s c):=by
 obtain ⟨h1,h2,h3⟩:=Ci (c:=c) R h;have hl:=R.len;have:=(nM v s c (by have:=R.cm;omega)).1;unfold eR;exact⟨by rw[List.length_set];exact h1,h2.set (by rw[uI];exact h2 _ (by omega)) _,h3.set (EB V (h3 _) (h3 _ _)) _⟩
theorem CS{v:List NQ}(V:qe v){m N c:Nat}{s:lS}(R:wX v m N c s):wX v m N (c+1) (oW v s c):=by
 have hl:=R.len;have hc:=R.cl;unfold oW;split
 · rename_i h;obtain ⟨e1,e2,e3⟩:=DU V (c:=c) R h;have ha:=(nM v s c (by have:=R.cm;omega)).1;refine⟨by rw[lf];exact e1,oM e2 _ (Nat.le_refl _),vj V e3 _,?_,?_,uS V R.det ((Ci R h).2.2 _ _),?_⟩
   · show (s.cols++[c]).length≤c+1;rw[List.length_append];show s.cols.length+1≤_;omega
   · show (s.cols++[c]).length≤m;rw[List.length_append];show s.cols.length+1≤_;omega
   · rcases R.sg with h1 | h1<;>(show (if _ then s.sg else -s.sg)=1∨_= -1;split<;>simp[h1])
 · exact⟨R.len,R.rect,R.lt,by omega,R.cm,R.det,R.sg⟩
theorem xy{v:List NQ}(V:qe v){a:gY}{N:Nat}(hr:iF N a)(hl:zE v.length a): ∀c,wX v a.length N c (fB v a c)
 | 0=>⟨rfl,hr,hl,Nat.le_refl _,Nat.zero_le _,dG _ _,.inl rfl⟩
 | c+1=>CS V (xy V hr hl c)
theorem yU(v:List NQ): ∀c,fB v [] c=⟨[],[],1,[1]⟩
 | 0=>rfl
 | c+1=>by
   show oW v (fB v [] c) c=_;rw[yU v c];unfold oW;exact if_neg (Nat.not_lt_zero _)
end Lift
namespace Lift
open Go Go.Proofs
abbrev sS(Vs:List Value):List D:=Vs.map D.v
theorem bA{Vs:List Value}{i:Nat}(h:i<Vs.length):(sS Vs)[i]?=some (.v (Vs.getD i undef)):=by simp[h]
abbrev OA(Vs:List Value):AV:=AV.ow 27 (sS Vs)
abbrev CA(cols:List Nat):AV:=AV.ow 3 (cols.map (fun c:Nat=>dI c))
def bB(Vs:List Value)(a:gY):List LR:=List.zipWith (fun V r=>(V,fF r)) Vs a
theorem Cx{Vs:List Value}{a:gY}(h:Vs.length=a.length)(V:Value)(r:List NQ):bB (Vs++[V]) (a++[r])=bB Vs a++[(V,fF r)]:=by
 unfold bB;rw[List.zipWith_append h];rfl
theorem gZ{Vs:List Value}{a:gY}{j:Nat}(hV:j<Vs.length)(ha:j<a.length):(bB Vs a)[j]?=some (Vs.getD j undef,fF (a.getD j [])):=by
 unfold bB;simp[List.getElem?_zipWith,hV,ha]
theorem sk{Vs:List Value}{a:gY}{j:Nat}(hV:j<Vs.length)(ha:j<a.length)(V:Value)(r:List NQ):(bB Vs a).set j (V,fF r)=bB (Vs.set j V) (a.set j r):=by
 unfold bB;refine List.ext_getElem? (fun k=>?_);by_cases hk:k=j
 · subst hk;rw[List.getElem?_set_self (by simp;omega)];simp[List.getElem?_zipWith,hV,ha]
 · rw[List.getElem?_set_ne (Ne.symm hk)];simp[List.getElem?_zipWith,List.getElem?_set_ne (Ne.symm hk)]
theorem AT{Vs:List Value}{j:Nat}(hV:j<Vs.length):Vs.set j (Vs.getD j undef)=Vs:=by
 refine List.ext_getElem? (fun k=>?_);by_cases hk:k=j
 · subst hk;rw[List.getElem?_set_self hV];simp[hV]
 · rw[List.getElem?_set_ne (Ne.symm hk)]
theorem vH{a:gY}{j:Nat}(ha:j<a.length):a.set j (a.getD j [])=a:=by
 refine List.ext_getElem? (fun k=>?_);by_cases hk:k=j
 · subst hk;rw[List.getElem?_set_self ha];simp[ha]
 · rw[List.getElem?_set_ne (Ne.symm hk)]
theorem qg{Vs:List Value}{a:gY}{j:Nat}(hV:j<Vs.length)(ha:j<a.length)(r:List NQ):(bB Vs a).set j (Vs.getD j undef,fF r)=bB Vs (a.set j r):=by
 rw[sk hV ha,AT hV]
def E6(Vs:List Value)(r t:Nat):List Value:=(Vs.set t (Vs.getD r undef)).set r (Vs.getD t undef)
theorem CM(Vs:List Value)(r t:Nat):(E6 Vs r t).length=Vs.length:=by unfold E6;rw[List.length_set,List.length_set]
theorem Cw{Vs:List Value}{a:gY}{r t:Nat}(h:Vs.length=a.length)(hr:r<a.length)(ht:t<a.length):
  ((bB Vs a).set t (Vs.getD r undef,fF (a.getD r []))).set r (Vs.getD t undef,fF (a.getD t []))=bB (E6 Vs r t) (Eh a r t):=by
 rw[sk (by omega) ht,sk (by simp;omega) (by simp;omega)];rfl
theorem Cv{Vs:List Value}{a:gY}{i r:Nat}(h:Vs.length=a.length)(hi:i<a.length)(hr:r<a.length)(hir:i≠r)(z:List NQ):
  ((bB Vs a).set i (Vs.getD i undef,fF z)).set r (Vs.getD r undef,fF (a.getD r []))=bB Vs (a.set i z):=by
 rw[qg (by omega) hi];have e:a.getD r []=(a.set i z).getD r []:=by rw[rJ,if_neg (fun g=>hir g.1.symm)]
 rw[e,qg (by omega) (by simpa using hr),vH (by simpa using hr)]
section
variable {P:Program} {T:Ty} {B:Nat} {F0:Nat→Prop} {w0:bS} {n:Nat} {σ τ:St} {K:St→Prop} {all:Array Oper} {o:Oper} {d:Nat} {rest:List Oper} {R:List LR} {x:Code} {Q:Exit→List LR→St→Prop}
theorem aa.yL(hT:a7 P T){k e i:Nat}{Vs:List Value}(V:Value)(hd:o.dst=none)(hg:aA all σ o=true)(hx:yR T σ o.op=some (k,.ow e (sS Vs),sS Vs,i,0,.v V))(hi:i<Vs.length)
  (h:aa P B F0 w0 n all rest K ((k,.ow e (sS (Vs.set i V)))::σ)):aa P B F0 w0 n all (o::rest) K σ:=by
 refine aa.iO hT (.v (Vs.getD i undef)) hd hg hx (bA hi) rfl ?_;show aa P B F0 w0 n all rest K ((k,.ow e ((sS Vs).set i (.v V)))::σ);rw[show (sS Vs).set i (.v V)=sS (Vs.set i V) from (List.map_set ..).symm];exact h
theorem AZ.BK(hT:a7 P T){e eo:Nat}{te:TI}(he:T.get e=some te)(h1:te.size=1){Vr:Value}{X:LR}{Vs:List Value}{a:gY}(hl:Vs.length=a.length)
  (h:AZ P B F0 w0 n x Q [(Vr,.ow eo (a.map gI)),X] σ): ∀(m k:Nat),m+k=a.length→ ∀L:List LR,(∀j,k≤j→j<a.length→L[j]?=some (Vs.getD j undef,.ow e ((a.getD j []).map af))) →
  AZ P B F0 w0 n x Q ((Vr,.ow eo ((a.take k).map gI++(sS Vs).drop k))::X::L) σ
 | 0,k,hk,L,hL=>by
   rw[List.take_of_length_le (by omega),List.drop_eq_nil_of_le (by rw[List.length_map];omega),List.append_nil];refine AZ.DV _ (fun i r hr=> .inl ?_) h
   match i,hr with
   | 0,hr=>exact hr
   | 1,hr=>exact hr
 | m+1,k,hk,L,hL=>by
   have hka:k<a.length:=by omega
   have hll:k<L.length:=(List.getElem?_eq_some_iff.1 (hL k (Nat.le_refl _) hka)).1;have hft:((a.take k).map gI).length=k:=by rw[List.length_map,List.length_take];omega
   refine AZ.EJ hT (k+2) 0 k (cs:=(a.take k).map gI++(sS Vs).drop k) rfl (fun d hd=>?_) ?_ (hL k (Nat.le_refl _) hka) (by omega) he ?_
   · rcases List.mem_append.1 hd with g | g
     · obtain ⟨r,_,rfl⟩:=List.mem_map.1 g;rfl
     · obtain ⟨V,_,rfl⟩:=List.mem_map.1 (List.mem_of_mem_drop g);rfl
   · rw[List.getElem?_append_right (by omega),hft,Nat.sub_self,List.getElem?_drop,Nat.add_zero];exact bA (by omega)
   · have e1:((a.take k).map gI++(sS Vs).drop k).set k (.sl te.size ((a.getD k []).map af))=(a.take (k+1)).map gI++(sS Vs).drop (k+1):=by
      rw[h1,List.set_append_right _ _ (by omega),hft,Nat.sub_self,List.take_succ_eq_append_getElem hka,List.map_append]
      have:(sS Vs).drop k= .v (Vs.getD k undef)::(sS Vs).drop (k+1):=by
       rw[List.drop_eq_getElem_cons (by rw[List.length_map];omega)]
       congr 1
       have:=bA (Vs:=Vs) (i:=k) (by omega);rw[List.getElem?_eq_getElem (by rw[List.length_map];omega)] at this;simpa using this
      rw[this,List.set_cons_zero,List.append_assoc];have g:a[k]=a.getD k []:=by rw[List.getD_eq_getElem?_getD,List.getElem?_eq_getElem hka];rfl
      rw[g];rfl
     show AZ P B F0 w0 n x Q ((Vr,.ow eo (((a.take k).map gI++(sS Vs).drop k).set k (.sl te.size ((a.getD k []).map af))))::X::L.set k (Vs.getD k undef,.junk)) σ;rw[e1]
     exact AZ.BK hT he h1 hl h m (k+1) (by omega) (L.set k (Vs.getD k undef,.junk)) (fun j hj hja=>by
      rw[List.getElem?_set_ne (by omega)];exact hL j (by omega) hja)
end
abbrev DD(s:lS):D:= .ag [jL s.rows,.sl 1 (s.cols.map (fun c:Nat=>dI c)),dI s.sg,af s.det]
set_option maxHeartbeats 12800000 in
theorem ot{v:List NQ}(V:qe v){a:gY}{N most:Nat}(ha0:0<a.length)(ha:a.length≤1000000)(hN:N≤1000000)(hmost:most≤N)(hr:iF N a)(hl:zE v.length a)(ok: ∀c,c<most→sh v (fB v a c) c):
  Pure Tryz.prog 89 [bF v,jL a,dI most] (.tu [DD (fB v a most),aj]):=by
 refine qJ 205 Tryz.func89 rfl rfl rfl rfl (by kernel_rfl) (fun B F0 w0=>?_);have cone:=gi (Qr ((1:Int):Rat)) (k:=1) (fv _ (by have:=fy;rw[show ((1:Int):Rat)=1 from rfl];omega)) (by decide) (by decide) (wY _);rw[bV,show uF ((1:Int):Rat)=[1] from rfl] at cone;have htk:=fun {i:Nat} (hi:i<a.length)=>List.take_succ_eq_append_getElem (l:=a) hi;refine AZ.aw ?_;refine AZ.seq ?_;refine AZ.gv (fun B1 F1 w1=>?_);refine qU 3 rfl ?_;refine aa.nil ⟨rfl,?_⟩;refine AZ.seq ?_;refine AZ.gv (fun B1 F1 w1=>?_);refine aa.call tok rfl rfl rfl rfl (fu 1 (by decide) (by decide)) ?_;refine aa.call tok rfl rfl rfl rfl cone ?_;refine aa.EP tok [.v dq,.v dq,dI 0,.sl 3 []] rfl rfl rfl rfl (by kernel_rfl) ?_;refine qU 2 rfl ?_;refine aa.nil ⟨rfl,?_⟩;refine AZ.uN 27 ?_;refine AZ.uN 3 ?_;refine AZ.seq ?_;refine AZ.seq ?_;refine AZ.gv (fun B1 F1 w1=>?_);refine qU 2 rfl ?_;rw[List.length_map];refine qU 1 rfl ?_;refine aa.nil ⟨rfl,?_⟩;refine AZ.block ?_;refine AZ.aD [2,3,6,7,8,22,23,24] (fun s:Nat×Value×List Value=>((s.2.1,OA s.2.2)::(dq,CA [])::bB s.2.2 (a.take s.1),[(2,.d (dI most)),(3,.bx [.sl 1 (v.map af)]),(6,.bx [.sl 1 [],.sl 1 [],dI 0,.sl 3 []]),(7,.d aj),(8,.bx [.v s.2.1,.v dq,dI 1,af [1]]),(22,.d (jL a)),(23,.d (dI a.length)),(24,.d (dI s.1))])) (fun s=>s.1≤a.length∧s.2.2.length=s.1) (fun s=>a.length-s.1) (0,dq,[]) rfl ⟨Nat.zero_le _,rfl⟩ (fun s hs=>?_);obtain ⟨i,Vr,Vs⟩:=s;obtain ⟨hi,hVs⟩:=hs
 dsimp only at hi hVs
 show AZ _ _ _ _ _ _ _ ((Vr,OA Vs)::(dq,CA [])::bB Vs (a.take i)) [(2,.d (dI most)),(3,.bx [.sl 1 (v.map af)]),(6,.bx [.sl 1 [],.sl 1 [],dI 0,.sl 3 []]),(7,.d aj),(8,.bx [.v Vr,.v dq,dI 1,af [1]]),(22,.d (jL a)),(23,.d (dI a.length)),(24,.d (dI i))];refine AZ.seq ?_;refine AZ.gv (fun B1 F1 w1=>?_);refine qU 1 rfl ?_;refine aa.nil ⟨rfl,?_⟩;refine AZ.seq ?_;refine AZ.cond rfl (fun h=>?_) (fun h=>?_)
 · have hii:i<a.length:=by have:=of_decide_eq_true h;omega
   have hg:=getM gI (l:=a) (i:=i) hii;have hrl:(a.getD i []).length≤1000000:=by rw[hr i hii];exact hN
   have htk:=htk hii;have hge:a[i]=a.getD i []:=by rw[List.getD_eq_getElem?_getD,List.getElem?_eq_getElem hii];rfl
   rw[hge] at htk;generalize a.getD i []=row at hg hrl htk;refine AZ.skip ?_;refine AZ.seq ?_;refine AZ.block ?_;refine AZ.seq ?_;refine AZ.gv (fun B1 F1 w1=>?_);refine aa.idx tok (gI row) rfl rfl rfl rfl (Int.natCast_nonneg i) hg ?_;refine qU 2 rfl ?_;refine aa.nil ⟨rfl,?_⟩;refine AZ.any aJ (ZH.any (β:=[]) ?_);refine ZH.mv 2 rfl rfl (by kernel_rfl) (by kernel_rfl) (by kernel_rfl) rfl (fun _ _ _ h=>h) (fun _=>rfl) trivial (fun B1 F1 w1=>?_);refine qU 1 rfl ?_;refine aa.nil ⟨rfl,?_⟩;refine ZH.fd tok 0 rfl rfl (by kernel_rfl) (by kernel_rfl) (by kernel_rfl) rfl (fun _ _ _ h=>h) (fun _=>rfl) trivial (fun B1 F1 w1=>?_);refine qU 1 rfl ?_;refine aa.nil ⟨rfl,?_⟩;refine ZH.meet 3 (qB 8 31) (fun V=>(((Vr,OA Vs)::(dq,CA [])::bB Vs (a.take i))++[(V,fF row)])) (fun V=>[(2,.d (dI most)),(3,.bx [.sl 1 (v.map af)]),(6,.bx [.sl 1 [],.sl 1 [],dI 0,.sl 3 []]),(7,.d aj),(8,.bx [.v Vr,.v dq,dI 1,af [1]]),(22,.d (jL a)),(23,.d (dI a.length)),(24,.d (dI i)),(10,.d (gI row)),(30,.d (gI row)),(28,.pt 8 0),(29,.d (.v Vr)),(31,.d (.v V)),(32,.d (.sl 1 [.v V]))]) (fun V=>?_) (fun N1_2=>?_)
   · refine ZH.all 5 (by kernel_rfl) rfl rfl (fun _=>rfl) trivial ?_;refine ai.dy 29 0 rfl rfl rfl ?_;refine ai.cut 1 rfl (fun B1 F1 w1=>?_);refine aa.lR tok rfl rfl rfl rfl rfl rfl (by show ((sS Vs).length+1)*24≤_;rw[List.length_map];omega) (by show (sS Vs).length+1≤_;rw[List.length_map];omega) ?_;refine aa.nil ⟨rfl,?_⟩;refine ai.wu 33 0 rfl rfl rfl rfl (fun Vq=>?_)
     refine ai.rS (R':=(Vq,OA (Vs++[V]))::(dq,CA [])::bB (Vs++[V]) (a.take (i+1))) (by
      show (Vq,AV.ow 27 (sS Vs++[.v V]))::(dq,CA [])::(bB Vs (a.take i)++[(V,fF row)])=_
      rw[htk,Cx (by rw[List.length_take];omega),show sS Vs++[.v V]=sS (Vs++[V]) by simp]) ?_
     refine ai.nil ?_;refine ZH.to [2,3,6,7,8,22,23,24,10,30,28,32,33] [(2,.d (dI most)),(3,.bx [.sl 1 (v.map af)]),(6,.bx [.sl 1 [],.sl 1 [],dI 0,.sl 3 []]),(7,.d aj),(8,.bx [.v Vr,.v dq,dI 1,af [1]]),(22,.d (jL a)),(23,.d (dI a.length)),(24,.d (dI i)),(10,.d (gI row)),(30,.d (gI row)),(28,.pt 8 0),(32,.d (.sl 1 [.v V])),(33,.d (.v Vq))] rfl trivial ?_;refine ZH.all 6 (by kernel_rfl) rfl rfl (fun _=>rfl) trivial ?_;refine au (fun B1 F1 w1=>?_);refine qU 1 rfl ?_;refine aa.nil ⟨rfl,?_⟩;refine ZH.all 7 (by kernel_rfl) rfl rfl (fun _=>rfl) trivial ?_;refine au (fun B1 F1 w1=>?_);refine qU 1 rfl ?_;refine aa.nil ⟨rfl,?_⟩;refine ZH.done (by kernel_rfl) trivial ?_;refine AZ.to [2,3,6,7,8,22,23,24] [(2,.d (dI most)),(3,.bx [.sl 1 (v.map af)]),(6,.bx [.sl 1 [],.sl 1 [],dI 0,.sl 3 []]),(7,.d aj),(8,.bx [.v Vq,.v dq,dI 1,af [1]]),(22,.d (jL a)),(23,.d (dI a.length)),(24,.d (dI i))] rfl ?_;refine AZ.gv (fun B1 F1 w1=>?_);refine qU 1 rfl ?_;rw[aq (x:=(i:Int)+1) (by omega) (by omega)];refine qU 1 rfl ?_;refine aa.nil ⟨rfl,?_⟩;exact⟨(i+1,Vq,Vs++[V]),rfl,⟨hii,by show (Vs++[V]).length=i+1;rw[List.length_append];show Vs.length+1=_;omega⟩,by show a.length-(i+1)<a.length-i;omega⟩
   refine ZH.meet 4 (qB 8 29) (fun V=>(((Vr,OA Vs)::(dq,CA [])::bB Vs (a.take i))++[(V,fF row)])) (fun V=>[(2,.d (dI most)),(3,.bx [.sl 1 (v.map af)]),(6,.bx [.sl 1 [],.sl 1 [],dI 0,.sl 3 []]),(7,.d aj),(8,.bx [.v Vr,.v dq,dI 1,af [1]]),(22,.d (jL a)),(23,.d (dI a.length)),(24,.d (dI i)),(10,.d (gI row)),(30,.d (gI row)),(28,.pt 8 0),(31,.d (.v V)),(32,.d (.sl 1 [.v V]))]) (fun V=>?_) (fun N0_2=>?_)
   · refine ZH.all 1 (by kernel_rfl) rfl rfl (fun _=>rfl) trivial ?_;refine au (fun B1 F1 w1=>?_);refine qU 1 rfl ?_;refine aa.nil ⟨rfl,?_⟩;refine ZH.to [2,3,6,7,8,22,23,24,10,30,28,29,31,32] [(2,.d (dI most)),(3,.bx [.sl 1 (v.map af)]),(6,.bx [.sl 1 [],.sl 1 [],dI 0,.sl 3 []]),(7,.d aj),(8,.bx [.v Vr,.v dq,dI 1,af [1]]),(22,.d (jL a)),(23,.d (dI a.length)),(24,.d (dI i)),(10,.d (gI row)),(30,.d (gI row)),(28,.pt 8 0),(29,.d (.v Vr)),(31,.d (.v V)),(32,.d (.sl 1 [.v V]))] rfl trivial ?_;exact ZH.ls _ (by kernel_rfl) (N1_2 V)
   refine ZH.meet 4 (qB 8 15) (fun V=>(((Vr,OA Vs)::(dq,CA [])::bB Vs (a.take i))++[(V,fF row)])) (fun V=>[(2,.d (dI most)),(3,.bx [.sl 1 (v.map af)]),(6,.bx [.sl 1 [],.sl 1 [],dI 0,.sl 3 []]),(7,.d aj),(8,.bx [.v Vr,.v dq,dI 1,af [1]]),(22,.d (jL a)),(23,.d (dI a.length)),(24,.d (dI i)),(10,.d (gI row)),(30,.d (gI row)),(28,.pt 8 0),(29,.d (.v Vr)),(31,.d (.v V))]) (fun V=>?_) (fun N1_1=>?_)
   · refine ZH.all 4 (by kernel_rfl) rfl rfl (fun _=>rfl) trivial ?_;refine au (fun B1 F1 w1=>?_);refine aa.mF tok rfl rfl rfl rfl rfl ?_;refine aa.nil ⟨rfl,?_⟩;refine ZH.to [2,3,6,7,8,22,23,24,10,30,28,29,31,32] [(2,.d (dI most)),(3,.bx [.sl 1 (v.map af)]),(6,.bx [.sl 1 [],.sl 1 [],dI 0,.sl 3 []]),(7,.d aj),(8,.bx [.v Vr,.v dq,dI 1,af [1]]),(22,.d (jL a)),(23,.d (dI a.length)),(24,.d (dI i)),(10,.d (gI row)),(30,.d (gI row)),(28,.pt 8 0),(29,.d (.v Vr)),(31,.d (.v V)),(32,.d (.sl 1 [.v V]))] rfl trivial ?_;exact ZH.ls _ (by kernel_rfl) (N1_2 V)
   refine ZH.meet 5 (qB 8 13) (fun V=>(((Vr,OA Vs)::(dq,CA [])::bB Vs (a.take i))++[(V,fF row)])) (fun V=>[(2,.d (dI most)),(3,.bx [.sl 1 (v.map af)]),(6,.bx [.sl 1 [],.sl 1 [],dI 0,.sl 3 []]),(7,.d aj),(8,.bx [.v Vr,.v dq,dI 1,af [1]]),(22,.d (jL a)),(23,.d (dI a.length)),(24,.d (dI i)),(10,.d (gI row)),(30,.d (gI row)),(28,.pt 8 0),(31,.d (.v V))]) (fun V=>?_) (fun N0_1=>?_)
   · refine ZH.two 1 4 (by kernel_rfl) rfl rfl rfl rfl (fun _=>rfl) (fun _=>rfl) trivial ?_ ?_
     · refine au (fun B1 F1 w1=>?_);refine qU 1 rfl ?_;refine aa.nil ⟨rfl,?_⟩;refine ZH.to [2,3,6,7,8,22,23,24,10,30,28,29,31] [(2,.d (dI most)),(3,.bx [.sl 1 (v.map af)]),(6,.bx [.sl 1 [],.sl 1 [],dI 0,.sl 3 []]),(7,.d aj),(8,.bx [.v Vr,.v dq,dI 1,af [1]]),(22,.d (jL a)),(23,.d (dI a.length)),(24,.d (dI i)),(10,.d (gI row)),(30,.d (gI row)),(28,.pt 8 0),(29,.d (.v Vr)),(31,.d (.v V))] rfl trivial ?_;exact ZH.ls _ (by kernel_rfl) (N1_1 V)
     · refine au (fun B1 F1 w1=>?_);refine aa.mF tok rfl rfl rfl rfl rfl ?_;refine aa.nil ⟨rfl,?_⟩;refine ZH.to [2,3,6,7,8,22,23,24,10,30,28,31,32] [(2,.d (dI most)),(3,.bx [.sl 1 (v.map af)]),(6,.bx [.sl 1 [],.sl 1 [],dI 0,.sl 3 []]),(7,.d aj),(8,.bx [.v Vr,.v dq,dI 1,af [1]]),(22,.d (jL a)),(23,.d (dI a.length)),(24,.d (dI i)),(10,.d (gI row)),(30,.d (gI row)),(28,.pt 8 0),(31,.d (.v V)),(32,.d (.sl 1 [.v V]))] rfl trivial ?_;exact ZH.ls _ (by kernel_rfl) (N0_2 V)
   refine ZH.meet 5 (qB 8 7) (fun V=>((Vr,OA Vs)::(dq,CA [])::bB Vs (a.take i))) (fun V=>[(2,.d (dI most)),(3,.bx [.sl 1 (v.map af)]),(6,.bx [.sl 1 [],.sl 1 [],dI 0,.sl 3 []]),(7,.d aj),(8,.bx [.v Vr,.v dq,dI 1,af [1]]),(22,.d (jL a)),(23,.d (dI a.length)),(24,.d (dI i)),(10,.d (gI row)),(30,.d (gI row)),(28,.pt 8 0),(29,.d (.v Vr))]) (fun V=>?_) (fun N1_0=>?_)
   · refine ZH.all 3 (by kernel_rfl) rfl rfl (fun _=>rfl) trivial ?_;refine ai.gu tok [] rfl rfl rfl rfl rfl List.nodup_nil rfl (wQ row hrl) (fun _ _ _=>Nat.zero_le _) (fun res R1 hP=>?_);obtain ⟨V,rfl,rfl⟩:=hP;refine ai.nil ?_;refine ZH.to [2,3,6,7,8,22,23,24,10,30,28,29,31] [(2,.d (dI most)),(3,.bx [.sl 1 (v.map af)]),(6,.bx [.sl 1 [],.sl 1 [],dI 0,.sl 3 []]),(7,.d aj),(8,.bx [.v Vr,.v dq,dI 1,af [1]]),(22,.d (jL a)),(23,.d (dI a.length)),(24,.d (dI i)),(10,.d (gI row)),(30,.d (gI row)),(28,.pt 8 0),(29,.d (.v Vr)),(31,.d (.v V))] rfl trivial ?_;exact ZH.ls _ (by kernel_rfl) (N1_1 V)
   refine ZH.meet 6 (qB 8 5) (fun V=>((Vr,OA Vs)::(dq,CA [])::bB Vs (a.take i))) (fun V=>[(2,.d (dI most)),(3,.bx [.sl 1 (v.map af)]),(6,.bx [.sl 1 [],.sl 1 [],dI 0,.sl 3 []]),(7,.d aj),(8,.bx [.v Vr,.v dq,dI 1,af [1]]),(22,.d (jL a)),(23,.d (dI a.length)),(24,.d (dI i)),(10,.d (gI row)),(30,.d (gI row)),(28,.pt 8 0)]) (fun V=>?_) (fun N0_0=>?_)
   · refine ZH.two 1 3 (by kernel_rfl) rfl rfl rfl rfl (fun _=>rfl) (fun _=>rfl) trivial ?_ ?_
     · refine au (fun B1 F1 w1=>?_);refine qU 1 rfl ?_;refine aa.nil ⟨rfl,?_⟩;refine ZH.to [2,3,6,7,8,22,23,24,10,30,28,29] [(2,.d (dI most)),(3,.bx [.sl 1 (v.map af)]),(6,.bx [.sl 1 [],.sl 1 [],dI 0,.sl 3 []]),(7,.d aj),(8,.bx [.v Vr,.v dq,dI 1,af [1]]),(22,.d (jL a)),(23,.d (dI a.length)),(24,.d (dI i)),(10,.d (gI row)),(30,.d (gI row)),(28,.pt 8 0),(29,.d (.v Vr))] rfl trivial ?_;exact ZH.ls _ (by kernel_rfl) (N1_0 V)
     · refine ai.gu tok [] rfl rfl rfl rfl rfl List.nodup_nil rfl (wQ row hrl) (fun _ _ _=>Nat.zero_le _) (fun res R1 hP=>?_);obtain ⟨V,rfl,rfl⟩:=hP;refine ai.nil ?_;refine ZH.to [2,3,6,7,8,22,23,24,10,30,28,31] [(2,.d (dI most)),(3,.bx [.sl 1 (v.map af)]),(6,.bx [.sl 1 [],.sl 1 [],dI 0,.sl 3 []]),(7,.d aj),(8,.bx [.v Vr,.v dq,dI 1,af [1]]),(22,.d (jL a)),(23,.d (dI a.length)),(24,.d (dI i)),(10,.d (gI row)),(30,.d (gI row)),(28,.pt 8 0),(31,.d (.v V))] rfl trivial ?_;exact ZH.ls _ (by kernel_rfl) (N0_1 V)
   refine ZH.to [2,3,6,7,8,22,23,24,10,30,28] [(2,.d (dI most)),(3,.bx [.sl 1 (v.map af)]),(6,.bx [.sl 1 [],.sl 1 [],dI 0,.sl 3 []]),(7,.d aj),(8,.bx [.v Vr,.v dq,dI 1,af [1]]),(22,.d (jL a)),(23,.d (dI a.length)),(24,.d (dI i)),(10,.d (gI row)),(30,.d (gI row)),(28,.pt 8 0)] rfl trivial ?_;exact ZH.ls _ (by kernel_rfl) (N0_0 dq)
 have hii:i=a.length:=by have:=of_decide_eq_false h;omega
 subst hii;rw[List.take_length];refine AZ.exit ?_;refine AZ.seq ?_;refine AZ.seq ?_;refine AZ.gv (fun B1 F1 w1=>?_);refine qU 2 rfl ?_;refine aa.nil ⟨rfl,?_⟩;refine AZ.block ?_;refine AZ.aD [3,6,7,8,36,37] (fun z:Nat×Value×Value×List Value=>((z.2.1,OA z.2.2.2)::(z.2.2.1,CA (fB v a z.1).cols)::bB z.2.2.2 (fB v a z.1).rows,[(3,.bx [.sl 1 (v.map af)]),(6,.bx [.sl 1 [],.sl 1 [],dI 0,.sl 3 []]),(7,.d aj),(8,.bx [.v z.2.1,.v z.2.2.1,dI (fB v a z.1).sg,af (fB v a z.1).det]),(36,.d (dI most)),(37,.d (dI z.1))])) (fun z=>z.1≤most∧z.2.2.2.length=a.length) (fun z=>most-z.1) (0,Vr,dq,Vs) rfl ⟨Nat.zero_le _,hVs⟩ (fun z hz=>?_);clear hVs;clear Vr Vs;obtain ⟨c,Vr,Vc,Vs⟩:=z;obtain ⟨hc,hVs⟩:=hz
 dsimp only at hc hVs
 have hR:=xy V hr hl c;have hnext:fB v a (c+1)=oW v (fB v a c) c:=rfl;have hok:=ok c;obtain ⟨s,hs⟩: ∃s,fB v a c=s:=⟨_,rfl⟩;rw[hs] at hR hnext hok;show AZ _ _ _ _ _ _ _ ((Vr,OA Vs)::(Vc,CA (fB v a c).cols)::bB Vs (fB v a c).rows) [(3,.bx [.sl 1 (v.map af)]),(6,.bx [.sl 1 [],.sl 1 [],dI 0,.sl 3 []]),(7,.d aj),(8,.bx [.v Vr,.v Vc,dI (fB v a c).sg,af (fB v a c).det]),(36,.d (dI most)),(37,.d (dI c))];rw[hs];refine AZ.seq ?_;refine AZ.gv (fun B1 F1 w1=>?_);refine qU 1 rfl ?_;refine aa.nil ⟨rfl,?_⟩;refine AZ.seq ?_;refine AZ.cond rfl (fun h=>?_) (fun h=>?_);rotate_left
 · have hcm:c=most:=by have:=of_decide_eq_false h;omega
   subst hcm;rw[hs];refine AZ.exit ?_;refine AZ.DV ((Vr,AV.ow 27 ((s.rows.take 0).map gI++(sS Vs).drop 0))::(Vc,CA s.cols)::bB Vs s.rows) (fun _ _ h=> .inl h) ?_;refine AZ.BK (te:=_) tok (e:=52) rfl rfl (by rw[hR.len];exact hVs) ?_ s.rows.length 0 (by omega) (bB Vs s.rows) (fun j _ hj=>gZ (by rw[hVs,← hR.len];exact hj) hj);refine AZ.Dr tok 8 0 0 rfl rfl rfl rfl ?_;refine AZ.Dr tok 8 1 1 rfl rfl rfl rfl ?_;refine AZ.seq ?_;refine AZ.gv (fun B1 F1 w1=>?_);refine qU 3 rfl ?_;refine aa.nil ⟨rfl,?_⟩;exact AZ.ret rfl
 have hcm:c<most:=by have:=of_decide_eq_true h;omega
 have hok:=hok hcm;have hm:=hR.len;have hcN:c<N:=by omega
 have hVm:Vs.length=s.rows.length:=by omega
 have hrm:=hR.cm;rw[← hm] at hrm;obtain ⟨hat1,hat2,hat3,hat4⟩:=nM v s c hrm;have hrow0:0<s.rows.length:=by omega
 have hm6:s.rows.length≤1000000:=by omega
 have hel: ∀{b:gY} {i:Nat},iF N b→i<b.length→ ∀k,k<N→((b.getD i []).map af)[k]?=some (af (ig b i k)):=fun {b i} hb hi k hk=>getM af (by rw[hb i hi];exact hk);refine AZ.skip ?_;refine AZ.seq ?_;refine AZ.block ?_;refine AZ.seq ?_;refine AZ.gv (fun B1 F1 w1=>?_);refine qU 2 rfl ?_;refine aa.nil ⟨rfl,?_⟩;refine AZ.seq ?_;refine AZ.region ?_;refine ai.cut 2 rfl (fun B1 F1 w1=>?_);refine qU 2 rfl ?_;refine aa.nil ⟨rfl,?_⟩;refine ai.dy 41 1 rfl rfl rfl ?_;refine ai.cut 1 rfl (fun B1 F1 w1=>?_);refine qU 1 rfl ?_;rw[List.length_map];refine aa.nil ⟨rfl,?_⟩;refine ai.back 41 1 rfl rfl rfl (List.Mem.head _) rfl ?_;refine ai.cut 1 rfl (fun B1 F1 w1=>?_);refine qU 1 rfl ?_;refine aa.nil ⟨rfl,?_⟩;refine ai.nil ?_;refine AZ.to [3,6,7,8,11,12,36,37] [(3,.bx [.sl 1 (v.map af)]),(6,.bx [.sl 1 [],.sl 1 [],dI 0,.sl 3 []]),(7,.d aj),(8,.bx [.v Vr,.v Vc,dI s.sg,af s.det]),(11,.d (dI c)),(12,.d (dI s.cols.length)),(36,.d (dI most)),(37,.d (dI c))] rfl ?_;refine AZ.seq ?_;refine AZ.gv (fun B1 F1 w1=>?_);refine qU 2 rfl ?_;refine aa.nil ⟨rfl,?_⟩;refine AZ.cut [3,6,7,8,11,12,13,36,37] (fun _:Unit=>(((Vr,OA Vs)::(Vc,CA s.cols)::bB Vs s.rows),[(3,.bx [.sl 1 (v.map af)]),(6,.bx [.sl 1 [],.sl 1 [],dI 0,.sl 3 []]),(7,.d aj),(8,.bx [.v Vr,.v Vc,dI s.sg,af s.det]),(11,.d (dI c)),(12,.d (dI s.cols.length)),(13,.d (dI (atR v s c))),(36,.d (dI most)),(37,.d (dI c))])) (fun _=>True) ?_ (fun _ _=>?_)
 · refine AZ.block ?_;refine AZ.aD [3,6,7,8,11,12,13,36,37] (fun j:Nat=>(((Vr,OA Vs)::(Vc,CA s.cols)::bB Vs s.rows),[(3,.bx [.sl 1 (v.map af)]),(6,.bx [.sl 1 [],.sl 1 [],dI 0,.sl 3 []]),(7,.d aj),(8,.bx [.v Vr,.v Vc,dI s.sg,af s.det]),(11,.d (dI c)),(12,.d (dI s.cols.length)),(13,.d (dI j)),(36,.d (dI most)),(37,.d (dI c))])) (fun j=>s.cols.length≤j∧j≤s.rows.length∧kv (Fq v s.rows c) (s.rows.length-j) j=atR v s c) (fun j=>s.rows.length-j) s.cols.length rfl ⟨Nat.le_refl _,hrm,rfl⟩ (fun j hj=>?_);show AZ _ _ _ _ _ _ _ ((Vr,OA Vs)::(Vc,CA s.cols)::bB Vs s.rows) [(3,.bx [.sl 1 (v.map af)]),(6,.bx [.sl 1 [],.sl 1 [],dI 0,.sl 3 []]),(7,.d aj),(8,.bx [.v Vr,.v Vc,dI s.sg,af s.det]),(11,.d (dI c)),(12,.d (dI s.cols.length)),(13,.d (dI j)),(36,.d (dI most)),(37,.d (dI c))];obtain ⟨j1,j2,j3⟩:=hj;refine AZ.seq ?_;refine AZ.seq ?_;refine AZ.any aJ (mH.zn 18 (by kernel_rfl) (fun B1 F1 w1 hS=>?_));have hS0:=hS.at (i:=0) rfl (by rw[List.length_map];omega);refine qP 3 rfl ?_;refine ae.lens tok hS0 rfl rfl rfl rfl rfl ?_;rw[List.length_map];refine qP 1 rfl ?_;by_cases hjm:j<s.rows.length;rotate_left
   · rw[BJ hjm] at j3;rw[decide_eq_false (show ¬(j:Int)<(Vs.length:Int) by omega)];refine qP 13 rfl ?_;refine ae.nil ⟨rfl,?_⟩;refine ai.nil ?_;refine AZ.ao rfl ?_;exact AZ.exit ⟨(),by rw[← j3];rfl,trivial⟩
   rw[decide_eq_true (show (j:Int)<(Vs.length:Int) by omega)];have hj6:(s.rows.getD j []).length=N:=hR.rect j hjm;have hS1:=hS.at (i:=j+2) (gZ (Vs:=Vs) (by omega) hjm) (by rw[List.length_map];omega);have cs:=kV V (hR.lt j c) (hok.sg j j1 hjm);have hnz:Fq v s.rows c j=decide (vr v (ig s.rows j c)≠0):=rfl;generalize vr v (ig s.rows j c)=g at cs hnz;refine qP 5 rfl ?_;refine ae.idxs tok hS0 rfl rfl rfl rfl rfl (Int.natCast_nonneg j) (by rw[List.length_map];omega) ?_;refine ae.aU tok (.v (Vs.getD j undef)) hS0 rfl rfl rfl rfl rfl rfl rfl (bA (by omega)) rfl ?_;refine qP 1 rfl ?_;refine ae.idxs tok hS1 rfl rfl rfl rfl rfl (Int.natCast_nonneg c) (by rw[List.length_map];omega) ?_;refine ae.aU tok (af (ig s.rows j c)) hS1 rfl rfl rfl rfl rfl rfl rfl (hel hR.rect hjm c hcN) rfl ?_;refine ae.call tok rfl rfl rfl rfl rfl cs ?_;refine qP 2 rfl ?_;refine ae.nil ⟨rfl,?_⟩;refine ai.nil ?_;refine AZ.cond rfl (fun h=>?_) (fun h=>?_)
   · have hg:g=0:=beq_iff_eq.1 h;refine AZ.skip ?_;refine AZ.block ?_;refine AZ.gv (fun B1 F1 w1=>?_);refine qU 2 rfl ?_;rw[aq (x:=(j:Int)+1) (by omega) (by omega)];refine qU 1 rfl ?_;refine aa.nil ⟨rfl,?_⟩;exact⟨j+1,rfl,⟨by omega,hjm,by rw[← z7 hjm (by rw[hnz,hg];rfl)];exact j3⟩,by omega⟩
   · have hg:g≠0:=beq_eq_false_iff_ne.1 h;rw[BI hjm (by rw[hnz,decide_eq_true hg])] at j3;exact AZ.exit ⟨(),by rw[← j3];rfl,trivial⟩
 show AZ _ _ _ _ _ _ _ ((Vr,OA Vs)::(Vc,CA s.cols)::bB Vs s.rows) [(3,.bx [.sl 1 (v.map af)]),(6,.bx [.sl 1 [],.sl 1 [],dI 0,.sl 3 []]),(7,.d aj),(8,.bx [.v Vr,.v Vc,dI s.sg,af s.det]),(11,.d (dI c)),(12,.d (dI s.cols.length)),(13,.d (dI (atR v s c))),(36,.d (dI most)),(37,.d (dI c))];refine AZ.seq ?_;refine AZ.seq ?_;refine AZ.A7 (fun B1 F1 w1 hS=>?_);refine qU 3 rfl ?_;refine aa.lens tok (hS.at (i:=0) rfl (by rw[List.length_map];omega)) rfl rfl rfl rfl ?_;rw[List.length_map];refine qU 1 rfl ?_;refine aa.nil ⟨rfl,?_⟩;refine AZ.cond rfl (fun h=>?_) (fun h=>?_)
 · have hat: ¬atR v s c<s.rows.length:=by have:=of_decide_eq_true h;omega
   have hst:fB v a (c+1)=s:=by rw[hnext];unfold oW;rw[if_neg hat]
   refine AZ.exit ?_;refine AZ.gv (fun B1 F1 w1=>?_);refine qU 1 rfl ?_;rw[aq (x:=(c:Int)+1) (by omega) (by omega)];refine qU 1 rfl ?_;refine aa.nil ⟨rfl,?_⟩;exact⟨(c+1,Vr,Vc,Vs),by rw[hst];rfl,⟨hcm,hVs⟩,by show most-(c+1)<most-c;omega⟩
 have hat:atR v s c<s.rows.length:=by have:=of_decide_eq_false h;omega
 have hst:fB v a (c+1)=⟨ev v (eR v s c) s.cols.length c (eR v s c).length,s.cols++[c],if atR v s c=s.cols.length then s.sg else -s.sg,gU v s.det (pR v s c)⟩:=by rw[hnext];unfold oW;rw[if_pos hat]
 obtain ⟨hb1,hb2,hb3⟩:=Ci (c:=c) hR hat;obtain ⟨he1,he2,he3⟩:=DU V (c:=c) hR hat;have hbr:bR v s c=if atR v s c=s.cols.length then s.rows else Eh s.rows s.cols.length (atR v s c):=rfl
 have hpr:pR v s c=ig (bR v s c) s.cols.length c:=rfl;have hE:eR v s c=(bR v s c).set s.cols.length (w5 v ((bR v s c).getD s.cols.length []) (pR v s c)):=rfl;have okd:=hok.det hat;have okv:=hok.div hat;have oks:=hok.sg2 hat;have okt:=hok.take hat;generalize bR v s c=b at *;generalize pR v s c=p at *;generalize eR v s c=e at *;generalize atR v s c=t at *;refine AZ.skip ?_;refine AZ.cut [3,6,7,8,11,12,36,37] (fun Ws:List Value=>(((Vr,OA Ws)::(Vc,CA s.cols)::bB Ws b),[(3,.bx [.sl 1 (v.map af)]),(6,.bx [.sl 1 [],.sl 1 [],dI 0,.sl 3 []]),(7,.d aj),(8,.bx [.v Vr,.v Vc,dI (if t=s.cols.length then s.sg else -s.sg),af s.det]),(11,.d (dI c)),(12,.d (dI s.cols.length)),(36,.d (dI most)),(37,.d (dI c))])) (fun Ws=>Ws.length=b.length) ?_ (fun Ws hWs=>?_)
 · refine AZ.seq ?_;refine AZ.gv (fun B1 F1 w1=>?_);refine qU 3 rfl ?_;refine aa.nil ⟨rfl,?_⟩;by_cases htr:t=s.cols.length
   · rw[if_pos htr] at hbr;rw[bne_eq_false_iff_eq.2 (show (t:Int)=(s.cols.length:Int) by omega)];refine AZ.ao rfl ?_;refine AZ.skip ?_;exact⟨Vs,by rw[if_pos htr,hbr];rfl,by omega⟩
   rw[if_neg htr] at hbr;rw[bne_iff_ne.2 (show (t:Int)≠(s.cols.length:Int) by omega)];refine AZ.az rfl ?_;refine AZ.seq ?_;refine AZ.any aJ (ZH.any (β:=[(8,[.v Vr,.v Vc,dI s.sg,af s.det])]) ?_);refine ZH.mv 2 rfl rfl (by kernel_rfl) (by kernel_rfl) (by kernel_rfl) rfl (fun _ _ _ h=>h) (fun _=>rfl) ⟨rfl,trivial⟩ (fun B1 F1 w1=>?_);refine qU 1 rfl ?_;refine aa.nil ⟨rfl,?_⟩;refine ZH.mv 5 rfl rfl (by kernel_rfl) (by kernel_rfl) (by kernel_rfl) rfl (fun _ _ _ h=>h) (fun _=>rfl) ⟨rfl,trivial⟩ (fun B1 F1 w1=>?_);refine qU 1 rfl ?_;refine aa.nil ⟨rfl,?_⟩;refine ZH.mv 8 rfl rfl (by kernel_rfl) (by kernel_rfl) (by kernel_rfl) rfl (fun _ _ _ h=>h) (fun _=>rfl) ⟨rfl,trivial⟩ (fun B1 F1 w1=>?_);refine qU 1 rfl ?_;refine aa.nil ⟨rfl,?_⟩;refine ZH.mv 13 rfl rfl (by kernel_rfl) (by kernel_rfl) (by kernel_rfl) rfl (fun _ _ _ h=>h) (fun _=>rfl) ⟨rfl,trivial⟩ (fun B1 F1 w1=>?_);refine qU 1 rfl ?_;refine aa.nil ⟨rfl,?_⟩;refine ZH.fd tok 0 rfl rfl (by kernel_rfl) (by kernel_rfl) (by kernel_rfl) rfl (fun _ _ _ h=>h) (fun _=>rfl) ⟨rfl,trivial⟩ (fun B1 F1 w1=>?_);refine qU 1 rfl ?_;refine aa.nil ⟨rfl,?_⟩;refine ZH.fd tok 3 rfl rfl (by kernel_rfl) (by kernel_rfl) (by kernel_rfl) rfl (fun _ _ _ h=>h) (fun _=>rfl) ⟨rfl,trivial⟩ (fun B1 F1 w1=>?_);refine qU 1 rfl ?_;refine aa.nil ⟨rfl,?_⟩;refine ZH.fd tok 6 rfl rfl (by kernel_rfl) (by kernel_rfl) (by kernel_rfl) rfl (fun _ _ _ h=>h) (fun _=>rfl) ⟨rfl,trivial⟩ (fun B1 F1 w1=>?_);refine qU 1 rfl ?_;refine aa.nil ⟨rfl,?_⟩;refine ZH.fd tok 11 rfl rfl (by kernel_rfl) (by kernel_rfl) (by kernel_rfl) rfl (fun _ _ _ h=>h) (fun _=>rfl) ⟨rfl,trivial⟩ (fun B1 F1 w1=>?_);refine qU 1 rfl ?_;refine aa.nil ⟨rfl,?_⟩;refine ZH.ld tok 1 rfl rfl (by kernel_rfl) (by kernel_rfl) (by kernel_rfl) rfl rfl (fun _ _ _ h=>h) (fun _=>rfl) ⟨rfl,trivial⟩ (fun B1 F1 w1=>?_);refine qU 1 rfl ?_;refine aa.nil ⟨rfl,?_⟩;refine ZH.ld tok 4 rfl rfl (by kernel_rfl) (by kernel_rfl) (by kernel_rfl) rfl rfl (fun _ _ _ h=>h) (fun _=>rfl) ⟨rfl,trivial⟩ (fun B1 F1 w1=>?_);refine qU 1 rfl ?_;refine aa.nil ⟨rfl,?_⟩;refine ZH.ld tok 7 rfl rfl (by kernel_rfl) (by kernel_rfl) (by kernel_rfl) rfl rfl (fun _ _ _ h=>h) (fun _=>rfl) ⟨rfl,trivial⟩ (fun B1 F1 w1=>?_);refine qU 1 rfl ?_;refine aa.nil ⟨rfl,?_⟩;refine ZH.ld tok 12 rfl rfl (by kernel_rfl) (by kernel_rfl) (by kernel_rfl) rfl rfl (fun _ _ _ h=>h) (fun _=>rfl) ⟨rfl,trivial⟩ (fun B1 F1 w1=>?_);refine qU 1 rfl ?_;refine aa.nil ⟨rfl,?_⟩;refine ZH.meet 4 (qB 20 65535) (fun V=>((Vr,OA Vs)::(Vc,CA s.cols)::bB Vs s.rows)) (fun V=>[(3,.bx [.sl 1 (v.map af)]),(6,.bx [.sl 1 [],.sl 1 [],dI 0,.sl 3 []]),(7,.d aj),(8,.bx [.v Vr,.v Vc,dI s.sg,af s.det]),(11,.d (dI c)),(12,.d (dI s.cols.length)),(13,.d (dI t)),(36,.d (dI most)),(37,.d (dI c)),(73,.d (.v Vr)),(74,.d (dI t)),(76,.d (.v Vr)),(77,.d (dI s.cols.length)),(79,.d (.v Vr)),(80,.d (dI s.cols.length)),(84,.d (.v Vr)),(85,.d (dI t)),(82,.d (.v (Vs.getD s.cols.length undef))),(87,.d (.v (Vs.getD t undef)))]) (fun V=>?_) (fun N2_2=>?_)
   · refine ZH.all 16 (by kernel_rfl) rfl rfl (fun _=>rfl) ⟨rfl,trivial⟩ ?_;refine ah (fun B1 F1 w1 hS=>?_);refine aa.idxs tok (hS.at (i:=0) rfl (by rw[List.length_map];omega)) rfl rfl rfl rfl (Int.natCast_nonneg _) (by show t<_;rw[List.length_map];omega) ?_;refine aa.nil ⟨rfl,?_⟩;refine ZH.to [3,6,7,8,11,12,13,36,37,73,74,76,77,79,80,84,85,82,87,88] [(3,.bx [.sl 1 (v.map af)]),(6,.bx [.sl 1 [],.sl 1 [],dI 0,.sl 3 []]),(7,.d aj),(8,.bx [.v Vr,.v Vc,dI s.sg,af s.det]),(11,.d (dI c)),(12,.d (dI s.cols.length)),(13,.d (dI t)),(36,.d (dI most)),(37,.d (dI c)),(73,.d (.v Vr)),(74,.d (dI t)),(76,.d (.v Vr)),(77,.d (dI s.cols.length)),(79,.d (.v Vr)),(80,.d (dI s.cols.length)),(84,.d (.v Vr)),(85,.d (dI t)),(82,.d (.v (Vs.getD s.cols.length undef))),(87,.d (.v (Vs.getD t undef))),(88,.d (.v (aQ Vr (t*1))))] rfl ⟨rfl,trivial⟩ ?_;refine ZH.all 17 (by kernel_rfl) rfl rfl (fun _=>rfl) ⟨rfl,trivial⟩ ?_;refine ai.dy 73 0 rfl rfl rfl ?_;refine ai.el tok 73 88 rfl (List.Mem.head _) rfl rfl rfl (by rw[List.length_map];omega) rfl ?_;refine ai.cut 1 rfl (fun B1 F1 w1=>?_);refine aa.yL tok (Vs.getD s.cols.length undef) rfl rfl rfl (by omega) ?_;refine aa.nil ⟨rfl,?_⟩;refine ai.back 73 0 rfl rfl rfl (List.Mem.head _) rfl ?_;refine ai.nil ?_;refine ZH.to [3,6,7,8,11,12,13,36,37,73,74,76,77,79,80,84,85,82,87] [(3,.bx [.sl 1 (v.map af)]),(6,.bx [.sl 1 [],.sl 1 [],dI 0,.sl 3 []]),(7,.d aj),(8,.bx [.v Vr,.v Vc,dI s.sg,af s.det]),(11,.d (dI c)),(12,.d (dI s.cols.length)),(13,.d (dI t)),(36,.d (dI most)),(37,.d (dI c)),(73,.d (.v Vr)),(74,.d (dI t)),(76,.d (.v Vr)),(77,.d (dI s.cols.length)),(79,.d (.v Vr)),(80,.d (dI s.cols.length)),(84,.d (.v Vr)),(85,.d (dI t)),(82,.d (.v (Vs.getD s.cols.length undef))),(87,.d (.v (Vs.getD t undef)))] rfl ⟨rfl,trivial⟩ ?_;refine ZH.all 18 (by kernel_rfl) rfl rfl (fun _=>rfl) ⟨rfl,trivial⟩ ?_;refine ah (fun B1 F1 w1 hS=>?_);refine aa.idxs tok (hS.at (i:=0) rfl (by rw[List.length_map,List.length_set];omega)) rfl rfl rfl rfl (Int.natCast_nonneg _) (by show s.cols.length<_;rw[List.length_map,List.length_set];omega) ?_;refine aa.nil ⟨rfl,?_⟩;refine ZH.to [3,6,7,8,11,12,13,36,37,73,74,76,77,79,80,84,85,82,87,89] [(3,.bx [.sl 1 (v.map af)]),(6,.bx [.sl 1 [],.sl 1 [],dI 0,.sl 3 []]),(7,.d aj),(8,.bx [.v Vr,.v Vc,dI s.sg,af s.det]),(11,.d (dI c)),(12,.d (dI s.cols.length)),(13,.d (dI t)),(36,.d (dI most)),(37,.d (dI c)),(73,.d (.v Vr)),(74,.d (dI t)),(76,.d (.v Vr)),(77,.d (dI s.cols.length)),(79,.d (.v Vr)),(80,.d (dI s.cols.length)),(84,.d (.v Vr)),(85,.d (dI t)),(82,.d (.v (Vs.getD s.cols.length undef))),(87,.d (.v (Vs.getD t undef))),(89,.d (.v (aQ Vr (s.cols.length*1))))] rfl ⟨rfl,trivial⟩ ?_;refine ZH.all 19 (by kernel_rfl) rfl rfl (fun _=>rfl) ⟨rfl,trivial⟩ ?_;refine ai.dy 76 0 rfl rfl rfl ?_;refine ai.el tok 76 89 rfl (List.Mem.head _) rfl rfl rfl (by rw[List.length_map,List.length_set];omega) rfl ?_;refine ai.cut 1 rfl (fun B1 F1 w1=>?_);refine aa.yL tok (Vs.getD t undef) rfl rfl rfl (by rw[List.length_set];omega) ?_;refine aa.nil ⟨rfl,?_⟩;refine ai.back 76 0 rfl rfl rfl (List.Mem.head _) rfl ?_;refine ai.nil ?_;refine ZH.done (by kernel_rfl) ⟨rfl,trivial⟩ ?_;refine AZ.to [3,6,7,8,11,12,13,36,37] [(3,.bx [.sl 1 (v.map af)]),(6,.bx [.sl 1 [],.sl 1 [],dI 0,.sl 3 []]),(7,.d aj),(8,.bx [.v Vr,.v Vc,dI s.sg,af s.det]),(11,.d (dI c)),(12,.d (dI s.cols.length)),(13,.d (dI t)),(36,.d (dI most)),(37,.d (dI c))] rfl ?_;refine AZ.AB (t+2) (s.cols.length+2) (gZ (Vs:=Vs) (by omega) hat) (gZ (Vs:=Vs) (by omega) (by omega)) ?_;show AZ _ _ _ _ _ _ _ ((Vr,OA (E6 Vs s.cols.length t))::(Vc,CA s.cols)::((bB Vs s.rows).set t (Vs.getD s.cols.length undef,fF (s.rows.getD s.cols.length []))).set s.cols.length (Vs.getD t undef,fF (s.rows.getD t []))) _;rw[Cw (by omega) (by omega) hat,← hbr];refine AZ.gv (fun B1 F1 w1=>?_);refine qU 3 rfl ?_;rw[aq (x:=0-s.sg) (by have:=hR.sg;omega) (by have:=hR.sg;omega),Int.zero_sub];refine qU 2 rfl ?_;refine aa.nil ⟨rfl,?_⟩;exact⟨E6 Vs s.cols.length t,by rw[if_neg htr];rfl,by show (E6 Vs s.cols.length t).length=_;rw[CM,hb1];omega⟩
   refine ZH.meet 5 (qB 20 64511) (fun V=>((Vr,OA Vs)::(Vc,CA s.cols)::bB Vs s.rows)) (fun V=>[(3,.bx [.sl 1 (v.map af)]),(6,.bx [.sl 1 [],.sl 1 [],dI 0,.sl 3 []]),(7,.d aj),(8,.bx [.v Vr,.v Vc,dI s.sg,af s.det]),(11,.d (dI c)),(12,.d (dI s.cols.length)),(13,.d (dI t)),(36,.d (dI most)),(37,.d (dI c)),(73,.d (.v Vr)),(74,.d (dI t)),(76,.d (.v Vr)),(77,.d (dI s.cols.length)),(79,.d (.v Vr)),(80,.d (dI s.cols.length)),(84,.d (.v Vr)),(85,.d (dI t)),(81,.d (.v (aQ Vr (s.cols.length*1)))),(87,.d (.v (Vs.getD t undef)))]) (fun V=>?_) (fun N1_2=>?_)
   · refine ZH.all 10 (by kernel_rfl) rfl rfl (fun _=>rfl) ⟨rfl,trivial⟩ ?_;refine ah (fun B1 F1 w1 hS=>?_);refine aa.aU tok (.v (Vs.getD s.cols.length undef)) (hS.at (i:=0) rfl (by rw[List.length_map];omega)) rfl rfl rfl rfl rfl rfl (bA (by omega)) rfl ?_;refine aa.nil ⟨rfl,?_⟩;exact qL (N2_2 V) (by kernel_rfl) rfl ⟨rfl,trivial⟩
   refine ZH.meet 5 (qB 20 32767) (fun V=>((Vr,OA Vs)::(Vc,CA s.cols)::bB Vs s.rows)) (fun V=>[(3,.bx [.sl 1 (v.map af)]),(6,.bx [.sl 1 [],.sl 1 [],dI 0,.sl 3 []]),(7,.d aj),(8,.bx [.v Vr,.v Vc,dI s.sg,af s.det]),(11,.d (dI c)),(12,.d (dI s.cols.length)),(13,.d (dI t)),(36,.d (dI most)),(37,.d (dI c)),(73,.d (.v Vr)),(74,.d (dI t)),(76,.d (.v Vr)),(77,.d (dI s.cols.length)),(79,.d (.v Vr)),(80,.d (dI s.cols.length)),(84,.d (.v Vr)),(85,.d (dI t)),(82,.d (.v (Vs.getD s.cols.length undef))),(86,.d (.v (aQ Vr (t*1))))]) (fun V=>?_) (fun N2_1=>?_)
   · refine ZH.all 15 (by kernel_rfl) rfl rfl (fun _=>rfl) ⟨rfl,trivial⟩ ?_;refine ah (fun B1 F1 w1 hS=>?_);refine aa.aU tok (.v (Vs.getD t undef)) (hS.at (i:=0) rfl (by rw[List.length_map];omega)) rfl rfl rfl rfl rfl rfl (bA (by omega)) rfl ?_;refine aa.nil ⟨rfl,?_⟩;exact qL (N2_2 V) (by kernel_rfl) rfl ⟨rfl,trivial⟩
   refine ZH.meet 6 (qB 20 63999) (fun V=>((Vr,OA Vs)::(Vc,CA s.cols)::bB Vs s.rows)) (fun V=>[(3,.bx [.sl 1 (v.map af)]),(6,.bx [.sl 1 [],.sl 1 [],dI 0,.sl 3 []]),(7,.d aj),(8,.bx [.v Vr,.v Vc,dI s.sg,af s.det]),(11,.d (dI c)),(12,.d (dI s.cols.length)),(13,.d (dI t)),(36,.d (dI most)),(37,.d (dI c)),(73,.d (.v Vr)),(74,.d (dI t)),(76,.d (.v Vr)),(77,.d (dI s.cols.length)),(79,.d (.v Vr)),(80,.d (dI s.cols.length)),(84,.d (.v Vr)),(85,.d (dI t)),(87,.d (.v (Vs.getD t undef)))]) (fun V=>?_) (fun N0_2=>?_)
   · refine ZH.all 9 (by kernel_rfl) rfl rfl (fun _=>rfl) ⟨rfl,trivial⟩ ?_;refine ah (fun B1 F1 w1 hS=>?_);refine aa.idxs tok (hS.at (i:=0) rfl (by rw[List.length_map];omega)) rfl rfl rfl rfl (Int.natCast_nonneg _) (by show s.cols.length<_;rw[List.length_map];omega) ?_;refine aa.nil ⟨rfl,?_⟩;exact qL (N1_2 V) (by kernel_rfl) rfl ⟨rfl,trivial⟩
   refine ZH.meet 6 (qB 20 31743) (fun V=>((Vr,OA Vs)::(Vc,CA s.cols)::bB Vs s.rows)) (fun V=>[(3,.bx [.sl 1 (v.map af)]),(6,.bx [.sl 1 [],.sl 1 [],dI 0,.sl 3 []]),(7,.d aj),(8,.bx [.v Vr,.v Vc,dI s.sg,af s.det]),(11,.d (dI c)),(12,.d (dI s.cols.length)),(13,.d (dI t)),(36,.d (dI most)),(37,.d (dI c)),(73,.d (.v Vr)),(74,.d (dI t)),(76,.d (.v Vr)),(77,.d (dI s.cols.length)),(79,.d (.v Vr)),(80,.d (dI s.cols.length)),(84,.d (.v Vr)),(85,.d (dI t)),(81,.d (.v (aQ Vr (s.cols.length*1)))),(86,.d (.v (aQ Vr (t*1))))]) (fun V=>?_) (fun N1_1=>?_)
   · refine ZH.two 10 15 (by kernel_rfl) rfl rfl rfl rfl (fun _=>rfl) (fun _=>rfl) ⟨rfl,trivial⟩ ?_ ?_
     · refine ah (fun B1 F1 w1 hS=>?_);refine aa.aU tok (.v (Vs.getD s.cols.length undef)) (hS.at (i:=0) rfl (by rw[List.length_map];omega)) rfl rfl rfl rfl rfl rfl (bA (by omega)) rfl ?_;refine aa.nil ⟨rfl,?_⟩;exact qL (N2_1 V) (by kernel_rfl) rfl ⟨rfl,trivial⟩
     · refine ah (fun B1 F1 w1 hS=>?_);refine aa.aU tok (.v (Vs.getD t undef)) (hS.at (i:=0) rfl (by rw[List.length_map];omega)) rfl rfl rfl rfl rfl rfl (bA (by omega)) rfl ?_;refine aa.nil ⟨rfl,?_⟩;exact qL (N1_2 V) (by kernel_rfl) rfl ⟨rfl,trivial⟩
   refine ZH.meet 6 (qB 20 16383) (fun V=>((Vr,OA Vs)::(Vc,CA s.cols)::bB Vs s.rows)) (fun V=>[(3,.bx [.sl 1 (v.map af)]),(6,.bx [.sl 1 [],.sl 1 [],dI 0,.sl 3 []]),(7,.d aj),(8,.bx [.v Vr,.v Vc,dI s.sg,af s.det]),(11,.d (dI c)),(12,.d (dI s.cols.length)),(13,.d (dI t)),(36,.d (dI most)),(37,.d (dI c)),(73,.d (.v Vr)),(74,.d (dI t)),(76,.d (.v Vr)),(77,.d (dI s.cols.length)),(79,.d (.v Vr)),(80,.d (dI s.cols.length)),(84,.d (.v Vr)),(85,.d (dI t)),(82,.d (.v (Vs.getD s.cols.length undef)))]) (fun V=>?_) (fun N2_0=>?_)
   · refine ZH.all 14 (by kernel_rfl) rfl rfl (fun _=>rfl) ⟨rfl,trivial⟩ ?_;refine ah (fun B1 F1 w1 hS=>?_);refine aa.idxs tok (hS.at (i:=0) rfl (by rw[List.length_map];omega)) rfl rfl rfl rfl (Int.natCast_nonneg _) (by show t<_;rw[List.length_map];omega) ?_;refine aa.nil ⟨rfl,?_⟩;exact qL (N2_1 V) (by kernel_rfl) rfl ⟨rfl,trivial⟩
   refine ZH.meet 7 (qB 20 31231) (fun V=>((Vr,OA Vs)::(Vc,CA s.cols)::bB Vs s.rows)) (fun V=>[(3,.bx [.sl 1 (v.map af)]),(6,.bx [.sl 1 [],.sl 1 [],dI 0,.sl 3 []]),(7,.d aj),(8,.bx [.v Vr,.v Vc,dI s.sg,af s.det]),(11,.d (dI c)),(12,.d (dI s.cols.length)),(13,.d (dI t)),(36,.d (dI most)),(37,.d (dI c)),(73,.d (.v Vr)),(74,.d (dI t)),(76,.d (.v Vr)),(77,.d (dI s.cols.length)),(79,.d (.v Vr)),(80,.d (dI s.cols.length)),(84,.d (.v Vr)),(85,.d (dI t)),(86,.d (.v (aQ Vr (t*1))))]) (fun V=>?_) (fun N0_1=>?_)
   · refine ZH.two 9 15 (by kernel_rfl) rfl rfl rfl rfl (fun _=>rfl) (fun _=>rfl) ⟨rfl,trivial⟩ ?_ ?_
     · refine ah (fun B1 F1 w1 hS=>?_);refine aa.idxs tok (hS.at (i:=0) rfl (by rw[List.length_map];omega)) rfl rfl rfl rfl (Int.natCast_nonneg _) (by show s.cols.length<_;rw[List.length_map];omega) ?_;refine aa.nil ⟨rfl,?_⟩;exact qL (N1_1 V) (by kernel_rfl) rfl ⟨rfl,trivial⟩
     · refine ah (fun B1 F1 w1 hS=>?_);refine aa.aU tok (.v (Vs.getD t undef)) (hS.at (i:=0) rfl (by rw[List.length_map];omega)) rfl rfl rfl rfl rfl rfl (bA (by omega)) rfl ?_;refine aa.nil ⟨rfl,?_⟩;exact qL (N0_2 V) (by kernel_rfl) rfl ⟨rfl,trivial⟩
   refine ZH.meet 7 (qB 20 15359) (fun V=>((Vr,OA Vs)::(Vc,CA s.cols)::bB Vs s.rows)) (fun V=>[(3,.bx [.sl 1 (v.map af)]),(6,.bx [.sl 1 [],.sl 1 [],dI 0,.sl 3 []]),(7,.d aj),(8,.bx [.v Vr,.v Vc,dI s.sg,af s.det]),(11,.d (dI c)),(12,.d (dI s.cols.length)),(13,.d (dI t)),(36,.d (dI most)),(37,.d (dI c)),(73,.d (.v Vr)),(74,.d (dI t)),(76,.d (.v Vr)),(77,.d (dI s.cols.length)),(79,.d (.v Vr)),(80,.d (dI s.cols.length)),(84,.d (.v Vr)),(85,.d (dI t)),(81,.d (.v (aQ Vr (s.cols.length*1))))]) (fun V=>?_) (fun N1_0=>?_)
   · refine ZH.two 10 14 (by kernel_rfl) rfl rfl rfl rfl (fun _=>rfl) (fun _=>rfl) ⟨rfl,trivial⟩ ?_ ?_
     · refine ah (fun B1 F1 w1 hS=>?_);refine aa.aU tok (.v (Vs.getD s.cols.length undef)) (hS.at (i:=0) rfl (by rw[List.length_map];omega)) rfl rfl rfl rfl rfl rfl (bA (by omega)) rfl ?_;refine aa.nil ⟨rfl,?_⟩;exact qL (N2_0 V) (by kernel_rfl) rfl ⟨rfl,trivial⟩
     · refine ah (fun B1 F1 w1 hS=>?_);refine aa.idxs tok (hS.at (i:=0) rfl (by rw[List.length_map];omega)) rfl rfl rfl rfl (Int.natCast_nonneg _) (by show t<_;rw[List.length_map];omega) ?_;refine aa.nil ⟨rfl,?_⟩;exact qL (N1_1 V) (by kernel_rfl) rfl ⟨rfl,trivial⟩
   refine ZH.meet 8 (qB 20 14847) (fun V=>((Vr,OA Vs)::(Vc,CA s.cols)::bB Vs s.rows)) (fun V=>[(3,.bx [.sl 1 (v.map af)]),(6,.bx [.sl 1 [],.sl 1 [],dI 0,.sl 3 []]),(7,.d aj),(8,.bx [.v Vr,.v Vc,dI s.sg,af s.det]),(11,.d (dI c)),(12,.d (dI s.cols.length)),(13,.d (dI t)),(36,.d (dI most)),(37,.d (dI c)),(73,.d (.v Vr)),(74,.d (dI t)),(76,.d (.v Vr)),(77,.d (dI s.cols.length)),(79,.d (.v Vr)),(80,.d (dI s.cols.length)),(84,.d (.v Vr)),(85,.d (dI t))]) (fun V=>?_) (fun N0_0=>?_)
   · refine ZH.two 9 14 (by kernel_rfl) rfl rfl rfl rfl (fun _=>rfl) (fun _=>rfl) ⟨rfl,trivial⟩ ?_ ?_
     · refine ah (fun B1 F1 w1 hS=>?_);refine aa.idxs tok (hS.at (i:=0) rfl (by rw[List.length_map];omega)) rfl rfl rfl rfl (Int.natCast_nonneg _) (by show s.cols.length<_;rw[List.length_map];omega) ?_;refine aa.nil ⟨rfl,?_⟩;exact qL (N1_0 V) (by kernel_rfl) rfl ⟨rfl,trivial⟩
     · refine ah (fun B1 F1 w1 hS=>?_);refine aa.idxs tok (hS.at (i:=0) rfl (by rw[List.length_map];omega)) rfl rfl rfl rfl (Int.natCast_nonneg _) (by show t<_;rw[List.length_map];omega) ?_;refine aa.nil ⟨rfl,?_⟩;exact qL (N0_1 V) (by kernel_rfl) rfl ⟨rfl,trivial⟩
   exact qL (N0_0 dq) (by kernel_rfl) rfl ⟨rfl,trivial⟩
 obtain ⟨sg,hsg⟩: ∃sg,(if t=s.cols.length then s.sg else -s.sg)=sg:=⟨_,rfl⟩;obtain ⟨r,hrr⟩: ∃r,s.cols.length=r:=⟨_,rfl⟩;have hrb:r<b.length:=by omega
 have hrN:(b.getD r []).length=N:=hb2 r hrb;have okc:=qt V hR.det (by rw[hpr];exact hb3 _ _) okd;rw[hsg] at hst;rw[hrr] at hst hpr hE okv oks okt;show AZ _ _ _ _ _ _ _ ((Vr,OA Ws)::(Vc,CA s.cols)::bB Ws b) [(3,.bx [.sl 1 (v.map af)]),(6,.bx [.sl 1 [],.sl 1 [],dI 0,.sl 3 []]),(7,.d aj),(8,.bx [.v Vr,.v Vc,dI (if t=s.cols.length then s.sg else -s.sg),af s.det]),(11,.d (dI c)),(12,.d (dI s.cols.length)),(36,.d (dI most)),(37,.d (dI c))];rw[hsg,hrr];refine AZ.seq ?_;refine AZ.A7 (fun B1 F1 w1 hS=>?_);refine qU 3 rfl ?_;refine aa.idxs tok (hS.at (i:=0) rfl (by rw[List.length_map];omega)) rfl rfl rfl rfl (Int.natCast_nonneg _) (by show r<_;rw[List.length_map];omega) ?_;refine aa.aU tok (.v (Ws.getD r undef)) (hS.at (i:=0) rfl (by rw[List.length_map];omega)) rfl rfl rfl rfl rfl rfl (bA (by omega)) rfl ?_;refine qU 1 rfl ?_;refine aa.idxs tok (hS.at (i:=r+2) (gZ (Vs:=Ws) (by omega) hrb) (by rw[List.length_map];omega)) rfl rfl rfl rfl (Int.natCast_nonneg c) (by rw[List.length_map];omega) ?_;refine aa.aU tok (af (ig b r c)) (hS.at (i:=r+2) (gZ (Vs:=Ws) (by omega) hrb) (by rw[List.length_map];omega)) rfl rfl rfl rfl rfl rfl (hel hb2 hrb c hcN) rfl ?_;rw[← hpr];refine qU 1 rfl ?_;refine aa.nil ⟨rfl,?_⟩;refine AZ.seq ?_;refine AZ.gv (fun B1 F1 w1=>?_);refine qU 1 rfl ?_;refine aa.nil ⟨rfl,?_⟩;refine AZ.seq ?_;refine AZ.seq ?_;refine AZ.gv (fun B1 F1 w1=>?_);refine qU 4 rfl ?_;refine aa.call tok rfl rfl rfl rfl okc ?_;refine qU 6 rfl ?_;refine aa.nil ⟨rfl,?_⟩;refine AZ.seq ?_;refine AZ.gv (fun B1 F1 w1=>?_);refine qU 1 rfl ?_;refine aa.err tok rfl rfl rfl rfl rfl ?_;refine aa.nil ⟨rfl,?_⟩;refine AZ.ao rfl ?_;refine AZ.skip ?_;generalize gU v s.det p=det at *;obtain ⟨row,hrow⟩: ∃row,b.getD r []=row:=⟨_,rfl⟩;have hz:=uI v row p;have hsr: ∀k,ig b r k=row.getD k []:=fun k=>by unfold ig;rw[hrow]
 have hb0:bB Ws b=bB Ws (b.set r row):=by rw[← hrow,vH hrb]
 have hgr: ∀q:List NQ,(bB Ws (b.set r q))[r]?=some (Ws.getD r undef,fF q):=fun q=>by
  rw[gZ (by omega) (by simpa using hrb),rJ,if_pos ⟨rfl,hrb⟩]
 rw[hrow] at hE hrN okv;rw[hb0];refine AZ.seq ?_;refine AZ.seq ?_;refine AZ.A7 (fun B1 F1 w1 hS=>?_);refine qU 3 rfl ?_;refine aa.idxs tok (hS.at (i:=0) rfl (by rw[List.length_map];omega)) rfl rfl rfl rfl (Int.natCast_nonneg _) (by show r<_;rw[List.length_map];omega) ?_;refine aa.aU tok (.v (Ws.getD r undef)) (hS.at (i:=0) rfl (by rw[List.length_map];omega)) rfl rfl rfl rfl rfl rfl (bA (by omega)) rfl ?_;refine aa.lens tok (hS.at (i:=r+2) (hgr row) (by rw[List.length_map];omega)) rfl rfl rfl rfl ?_;rw[List.length_map,hrN];refine qU 1 rfl ?_;refine aa.nil ⟨rfl,?_⟩;refine AZ.block ?_;refine AZ.aD [3,6,7,8,11,12,14,36,37,120,121] (fun k:Nat=>(((Vr,OA Ws)::(Vc,CA s.cols)::bB Ws (b.set r (fS (w5 v row p) row k))),[(3,.bx [.sl 1 (v.map af)]),(6,.bx [.sl 1 [],.sl 1 [],dI 0,.sl 3 []]),(7,.d aj),(8,.bx [.v Vr,.v Vc,dI sg,af det]),(11,.d (dI c)),(12,.d (dI r)),(14,.d (af p)),(36,.d (dI most)),(37,.d (dI c)),(120,.d (dI N)),(121,.d (dI k))])) (fun k=>k≤N) (fun k=>N-k) 0 (by rw[tA];rfl) (Nat.zero_le _) (fun k hk=>?_);show AZ _ _ _ _ _ _ _ ((Vr,OA Ws)::(Vc,CA s.cols)::bB Ws (b.set r (fS (w5 v row p) row k))) [(3,.bx [.sl 1 (v.map af)]),(6,.bx [.sl 1 [],.sl 1 [],dI 0,.sl 3 []]),(7,.d aj),(8,.bx [.v Vr,.v Vc,dI sg,af det]),(11,.d (dI c)),(12,.d (dI r)),(14,.d (af p)),(36,.d (dI most)),(37,.d (dI c)),(120,.d (dI N)),(121,.d (dI k))];refine AZ.seq ?_;refine AZ.gv (fun B1 F1 w1=>?_);refine qU 1 rfl ?_;refine aa.nil ⟨rfl,?_⟩;refine AZ.seq ?_;refine AZ.cond rfl (fun h=>?_) (fun h=>?_)
 · have hkN:k<N:=by have:=of_decide_eq_true h;omega
   have hpl:=rz hz (i:=k) (by omega);have hpg:=wi hz (show k<row.length by omega) [];have hps:=wh hz (show k<row.length by omega) (d:=[]) (y6 v row p (show k<row.length by omega));have cd:=xk V (a:=row.getD k []) (b:=p) (by rw[← hrow];exact hb3 r k) (by rw[hpr];exact hb3 _ _) (by have:=okv k (by omega);rw[hsr] at this;exact this);generalize fS (w5 v row p) row k=q at *;generalize row.getD k []=X at *;generalize Ad v X p=Y at *;refine AZ.skip ?_;refine AZ.seq ?_;refine AZ.block ?_;refine AZ.seq ?_;refine AZ.gv (fun B1 F1 w1=>?_);refine qU 2 rfl ?_;refine aa.nil ⟨rfl,?_⟩;refine AZ.seq ?_;refine AZ.any aJ (ZH.any (β:=[(8,[.v Vr,.v Vc,dI sg,af det])]) ?_);refine ZH.mv 2 rfl rfl (by kernel_rfl) (by kernel_rfl) (by kernel_rfl) rfl (fun _ _ _ h=>h) (fun _=>rfl) ⟨rfl,trivial⟩ (fun B1 F1 w1=>?_);refine qU 1 rfl ?_;refine aa.nil ⟨rfl,?_⟩;refine ZH.mv 5 rfl rfl (by kernel_rfl) (by kernel_rfl) (by kernel_rfl) rfl (fun _ _ _ h=>h) (fun _=>rfl) ⟨rfl,trivial⟩ (fun B1 F1 w1=>?_);refine qU 1 rfl ?_;refine aa.nil ⟨rfl,?_⟩;refine ZH.mv 9 rfl rfl (by kernel_rfl) (by kernel_rfl) (by kernel_rfl) rfl (fun _ _ _ h=>h) (fun _=>rfl) ⟨rfl,trivial⟩ (fun B1 F1 w1=>?_);refine qU 1 rfl ?_;refine aa.nil ⟨rfl,?_⟩;refine ZH.mv 12 rfl rfl (by kernel_rfl) (by kernel_rfl) (by kernel_rfl) rfl (fun _ _ _ h=>h) (fun _=>rfl) ⟨rfl,trivial⟩ (fun B1 F1 w1=>?_);refine qU 1 rfl ?_;refine aa.nil ⟨rfl,?_⟩;refine ZH.mv 15 rfl rfl (by kernel_rfl) (by kernel_rfl) (by kernel_rfl) rfl (fun _ _ _ h=>h) (fun _=>rfl) ⟨rfl,trivial⟩ (fun B1 F1 w1=>?_);refine qU 1 rfl ?_;refine aa.nil ⟨rfl,?_⟩;refine ZH.fd tok 0 rfl rfl (by kernel_rfl) (by kernel_rfl) (by kernel_rfl) rfl (fun _ _ _ h=>h) (fun _=>rfl) ⟨rfl,trivial⟩ (fun B1 F1 w1=>?_);refine qU 1 rfl ?_;refine aa.nil ⟨rfl,?_⟩;refine ZH.fd tok 7 rfl rfl (by kernel_rfl) (by kernel_rfl) (by kernel_rfl) rfl (fun _ _ _ h=>h) (fun _=>rfl) ⟨rfl,trivial⟩ (fun B1 F1 w1=>?_);refine qU 1 rfl ?_;refine aa.nil ⟨rfl,?_⟩;refine ZH.ld tok 1 rfl rfl (by kernel_rfl) (by kernel_rfl) (by kernel_rfl) rfl rfl (fun _ _ _ h=>h) (fun _=>rfl) ⟨rfl,trivial⟩ (fun B1 F1 w1=>?_);refine qU 1 rfl ?_;refine aa.nil ⟨rfl,?_⟩;refine ZH.ld tok 8 rfl rfl (by kernel_rfl) (by kernel_rfl) (by kernel_rfl) rfl rfl (fun _ _ _ h=>h) (fun _=>rfl) ⟨rfl,trivial⟩ (fun B1 F1 w1=>?_);refine qU 1 rfl ?_;refine aa.nil ⟨rfl,?_⟩;refine ZH.meet 0 (qB 23 8388607) (fun V=>((Vr,OA Ws)::(Vc,CA s.cols)::bB Ws (b.set r (fS (w5 v row p) row (k+1))))) (fun V=>[(3,.bx [.sl 1 (v.map af)]),(6,.bx [.sl 1 [],.sl 1 [],dI 0,.sl 3 []]),(7,.d aj),(8,.bx [.v Vr,.v Vc,dI sg,af det]),(11,.d (dI c)),(12,.d (dI r)),(14,.d (af p)),(36,.d (dI most)),(37,.d (dI c)),(16,.d (dI k)),(126,.d (.v Vr)),(127,.d (dI r)),(130,.d (dI k)),(133,.d (.v Vr)),(134,.d (dI r)),(137,.d (dI k)),(140,.d (af p)),(120,.d (dI N)),(121,.d (dI k)),(129,.d (.v (Ws.getD r undef))),(131,.d (bF v)),(139,.d (af X)),(124,.d (.tu [af Y,aj])),(142,.d (af Y)),(143,.d aj),(15,.d aj)]) (fun V=>?_) (fun N2_1_4_5_1_1=>?_)
   · refine ZH.done (by kernel_rfl) ⟨rfl,trivial⟩ ?_;refine AZ.to [3,6,7,8,11,12,14,36,37,15,120,121] [(3,.bx [.sl 1 (v.map af)]),(6,.bx [.sl 1 [],.sl 1 [],dI 0,.sl 3 []]),(7,.d aj),(8,.bx [.v Vr,.v Vc,dI sg,af det]),(11,.d (dI c)),(12,.d (dI r)),(14,.d (af p)),(36,.d (dI most)),(37,.d (dI c)),(15,.d aj),(120,.d (dI N)),(121,.d (dI k))] rfl ?_;refine AZ.seq ?_;refine AZ.gv (fun B1 F1 w1=>?_);refine qU 1 rfl ?_;refine aa.err tok rfl rfl rfl rfl rfl ?_;refine aa.nil ⟨rfl,?_⟩;refine AZ.ao rfl ?_;refine AZ.skip ?_;refine AZ.gv (fun B1 F1 w1=>?_);refine qU 1 rfl ?_;rw[aq (x:=(k:Int)+1) (by omega) (by omega)];refine qU 1 rfl ?_;refine aa.nil ⟨rfl,?_⟩;exact⟨k+1,rfl,hkN,by omega⟩
   refine ZH.meet 1 (qB 23 4194303) (fun V=>((Vr,OA Ws)::(Vc,CA s.cols)::bB Ws (b.set r (fS (w5 v row p) row (k+1))))) (fun V=>[(3,.bx [.sl 1 (v.map af)]),(6,.bx [.sl 1 [],.sl 1 [],dI 0,.sl 3 []]),(7,.d aj),(8,.bx [.v Vr,.v Vc,dI sg,af det]),(11,.d (dI c)),(12,.d (dI r)),(14,.d (af p)),(36,.d (dI most)),(37,.d (dI c)),(16,.d (dI k)),(126,.d (.v Vr)),(127,.d (dI r)),(130,.d (dI k)),(133,.d (.v Vr)),(134,.d (dI r)),(137,.d (dI k)),(140,.d (af p)),(120,.d (dI N)),(121,.d (dI k)),(129,.d (.v (Ws.getD r undef))),(131,.d (bF v)),(139,.d (af X)),(124,.d (.tu [af Y,aj])),(142,.d (af Y)),(143,.d aj)]) (fun V=>?_) (fun N2_1_4_5_1_0=>?_)
   · refine ZH.all 22 (by kernel_rfl) rfl rfl (fun _=>rfl) ⟨rfl,trivial⟩ ?_;refine au (fun B1 F1 w1=>?_);refine qU 1 rfl ?_;refine aa.nil ⟨rfl,?_⟩;exact qL (N2_1_4_5_1_1 V) (by kernel_rfl) rfl ⟨rfl,trivial⟩
   refine ZH.meet 2 (qB 23 2097151) (fun V=>((Vr,OA Ws)::(Vc,CA s.cols)::bB Ws (b.set r q))) (fun V=>[(3,.bx [.sl 1 (v.map af)]),(6,.bx [.sl 1 [],.sl 1 [],dI 0,.sl 3 []]),(7,.d aj),(8,.bx [.v Vr,.v Vc,dI sg,af det]),(11,.d (dI c)),(12,.d (dI r)),(14,.d (af p)),(36,.d (dI most)),(37,.d (dI c)),(16,.d (dI k)),(126,.d (.v Vr)),(127,.d (dI r)),(130,.d (dI k)),(133,.d (.v Vr)),(134,.d (dI r)),(137,.d (dI k)),(140,.d (af p)),(120,.d (dI N)),(121,.d (dI k)),(129,.d (.v (Ws.getD r undef))),(131,.d (bF v)),(139,.d (af X)),(124,.d (.tu [af Y,aj])),(142,.d (af Y)),(144,.d (.v (aQ (Ws.getD r undef) (k*1)))),(143,.d aj)]) (fun V=>?_) (fun N2_1_4_4_1_0=>?_)
   · refine ZH.all 21 (by kernel_rfl) rfl rfl (fun _=>rfl) ⟨rfl,trivial⟩ ?_;refine ai.dy 129 (r+2) (hgr q) rfl rfl ?_;refine ai.el tok 129 144 rfl (List.Mem.head _) rfl rfl rfl (by rw[List.length_map];omega) rfl ?_;refine ai.cut 1 rfl (fun B1 F1 w1=>?_);refine aa.ub tok Y rfl rfl rfl (by omega) ?_;rw[hps];refine aa.nil ⟨rfl,?_⟩;refine ai.back 129 (r+2) rfl rfl rfl (List.Mem.head _) (List.getElem?_set_self (by have:=(List.getElem?_eq_some_iff.1 (hgr q)).1;simp only[List.length_cons];omega)) ?_
     refine ai.rS (R':=((Vr,OA Ws)::(Vc,CA s.cols)::bB Ws (b.set r (fS (w5 v row p) row (k+1))))) (by
      show (Vr,OA Ws)::(Vc,CA s.cols)::((bB Ws (b.set r q)).set r _).set r _=_
      rw[List.set_set,qg (by omega) (by simpa using hrb),List.set_set]) ?_
     refine ai.nil ?_;exact qL (N2_1_4_5_1_0 V) (by kernel_rfl) rfl ⟨rfl,trivial⟩
   refine ZH.meet 2 (qB 23 3670015) (fun V=>((Vr,OA Ws)::(Vc,CA s.cols)::bB Ws (b.set r (fS (w5 v row p) row (k+1))))) (fun V=>[(3,.bx [.sl 1 (v.map af)]),(6,.bx [.sl 1 [],.sl 1 [],dI 0,.sl 3 []]),(7,.d aj),(8,.bx [.v Vr,.v Vc,dI sg,af det]),(11,.d (dI c)),(12,.d (dI r)),(14,.d (af p)),(36,.d (dI most)),(37,.d (dI c)),(16,.d (dI k)),(126,.d (.v Vr)),(127,.d (dI r)),(130,.d (dI k)),(133,.d (.v Vr)),(134,.d (dI r)),(137,.d (dI k)),(140,.d (af p)),(120,.d (dI N)),(121,.d (dI k)),(129,.d (.v (Ws.getD r undef))),(131,.d (bF v)),(139,.d (af X)),(124,.d (.tu [af Y,aj])),(142,.d (af Y))]) (fun V=>?_) (fun N2_1_4_5_0_0=>?_)
   · refine ZH.all 19 (by kernel_rfl) rfl rfl (fun _=>rfl) ⟨rfl,trivial⟩ ?_;refine au (fun B1 F1 w1=>?_);refine qU 1 rfl ?_;refine aa.nil ⟨rfl,?_⟩;exact qL (N2_1_4_5_1_0 V) (by kernel_rfl) rfl ⟨rfl,trivial⟩
   refine ZH.meet 3 (qB 23 1048575) (fun V=>((Vr,OA Ws)::(Vc,CA s.cols)::bB Ws (b.set r q))) (fun V=>[(3,.bx [.sl 1 (v.map af)]),(6,.bx [.sl 1 [],.sl 1 [],dI 0,.sl 3 []]),(7,.d aj),(8,.bx [.v Vr,.v Vc,dI sg,af det]),(11,.d (dI c)),(12,.d (dI r)),(14,.d (af p)),(36,.d (dI most)),(37,.d (dI c)),(16,.d (dI k)),(126,.d (.v Vr)),(127,.d (dI r)),(130,.d (dI k)),(133,.d (.v Vr)),(134,.d (dI r)),(137,.d (dI k)),(140,.d (af p)),(120,.d (dI N)),(121,.d (dI k)),(129,.d (.v (Ws.getD r undef))),(131,.d (bF v)),(139,.d (af X)),(124,.d (.tu [af Y,aj])),(142,.d (af Y)),(143,.d aj)]) (fun V=>?_) (fun N2_1_4_3_1_0=>?_)
   · refine ZH.all 20 (by kernel_rfl) rfl rfl (fun _=>rfl) ⟨rfl,trivial⟩ ?_;refine ah (fun B1 F1 w1 hS=>?_);refine aa.idxs tok (hS.at (i:=r+2) (hgr q) (by rw[List.length_map];omega)) rfl rfl rfl rfl (Int.natCast_nonneg k) (by rw[List.length_map];omega) ?_;refine aa.nil ⟨rfl,?_⟩;exact qL (N2_1_4_4_1_0 V) (by kernel_rfl) rfl ⟨rfl,trivial⟩
   refine ZH.meet 3 (qB 23 1572863) (fun V=>((Vr,OA Ws)::(Vc,CA s.cols)::bB Ws (b.set r q))) (fun V=>[(3,.bx [.sl 1 (v.map af)]),(6,.bx [.sl 1 [],.sl 1 [],dI 0,.sl 3 []]),(7,.d aj),(8,.bx [.v Vr,.v Vc,dI sg,af det]),(11,.d (dI c)),(12,.d (dI r)),(14,.d (af p)),(36,.d (dI most)),(37,.d (dI c)),(16,.d (dI k)),(126,.d (.v Vr)),(127,.d (dI r)),(130,.d (dI k)),(133,.d (.v Vr)),(134,.d (dI r)),(137,.d (dI k)),(140,.d (af p)),(120,.d (dI N)),(121,.d (dI k)),(129,.d (.v (Ws.getD r undef))),(131,.d (bF v)),(139,.d (af X)),(124,.d (.tu [af Y,aj])),(142,.d (af Y)),(144,.d (.v (aQ (Ws.getD r undef) (k*1))))]) (fun V=>?_) (fun N2_1_4_4_0_0=>?_)
   · refine ZH.two 19 21 (by kernel_rfl) rfl rfl rfl rfl (fun _=>rfl) (fun _=>rfl) ⟨rfl,trivial⟩ ?_ ?_
     · refine au (fun B1 F1 w1=>?_);refine qU 1 rfl ?_;refine aa.nil ⟨rfl,?_⟩;exact qL (N2_1_4_4_1_0 V) (by kernel_rfl) rfl ⟨rfl,trivial⟩
     · refine ai.dy 129 (r+2) (hgr q) rfl rfl ?_;refine ai.el tok 129 144 rfl (List.Mem.head _) rfl rfl rfl (by rw[List.length_map];omega) rfl ?_;refine ai.cut 1 rfl (fun B1 F1 w1=>?_);refine aa.ub tok Y rfl rfl rfl (by omega) ?_;rw[hps];refine aa.nil ⟨rfl,?_⟩;refine ai.back 129 (r+2) rfl rfl rfl (List.Mem.head _) (List.getElem?_set_self (by have:=(List.getElem?_eq_some_iff.1 (hgr q)).1;simp only[List.length_cons];omega)) ?_
       refine ai.rS (R':=((Vr,OA Ws)::(Vc,CA s.cols)::bB Ws (b.set r (fS (w5 v row p) row (k+1))))) (by
        show (Vr,OA Ws)::(Vc,CA s.cols)::((bB Ws (b.set r q)).set r _).set r _=_
        rw[List.set_set,qg (by omega) (by simpa using hrb),List.set_set]) ?_
       refine ai.nil ?_;exact qL (N2_1_4_5_0_0 V) (by kernel_rfl) rfl ⟨rfl,trivial⟩
   refine ZH.meet 4 (qB 23 1048559) (fun V=>((Vr,OA Ws)::(Vc,CA s.cols)::bB Ws (b.set r q))) (fun V=>[(3,.bx [.sl 1 (v.map af)]),(6,.bx [.sl 1 [],.sl 1 [],dI 0,.sl 3 []]),(7,.d aj),(8,.bx [.v Vr,.v Vc,dI sg,af det]),(11,.d (dI c)),(12,.d (dI r)),(14,.d (af p)),(36,.d (dI most)),(37,.d (dI c)),(16,.d (dI k)),(126,.d (.v Vr)),(127,.d (dI r)),(130,.d (dI k)),(133,.d (.v Vr)),(134,.d (dI r)),(137,.d (dI k)),(140,.d (af p)),(120,.d (dI N)),(121,.d (dI k)),(128,.d (.v (aQ Vr (r*1)))),(131,.d (bF v)),(139,.d (af X)),(124,.d (.tu [af Y,aj])),(142,.d (af Y)),(143,.d aj)]) (fun V=>?_) (fun N1_1_4_3_1_0=>?_)
   · refine ZH.all 4 (by kernel_rfl) rfl rfl (fun _=>rfl) ⟨rfl,trivial⟩ ?_;refine ah (fun B1 F1 w1 hS=>?_);refine aa.aU tok (.v (Ws.getD r undef)) (hS.at (i:=0) rfl (by rw[List.length_map];omega)) rfl rfl rfl rfl rfl rfl (bA (by omega)) rfl ?_;refine aa.nil ⟨rfl,?_⟩;exact qL (N2_1_4_3_1_0 V) (by kernel_rfl) rfl ⟨rfl,trivial⟩
   refine ZH.meet 4 (qB 23 786431) (fun V=>((Vr,OA Ws)::(Vc,CA s.cols)::bB Ws (b.set r q))) (fun V=>[(3,.bx [.sl 1 (v.map af)]),(6,.bx [.sl 1 [],.sl 1 [],dI 0,.sl 3 []]),(7,.d aj),(8,.bx [.v Vr,.v Vc,dI sg,af det]),(11,.d (dI c)),(12,.d (dI r)),(14,.d (af p)),(36,.d (dI most)),(37,.d (dI c)),(16,.d (dI k)),(126,.d (.v Vr)),(127,.d (dI r)),(130,.d (dI k)),(133,.d (.v Vr)),(134,.d (dI r)),(137,.d (dI k)),(140,.d (af p)),(120,.d (dI N)),(121,.d (dI k)),(129,.d (.v (Ws.getD r undef))),(131,.d (bF v)),(139,.d (af X)),(124,.d (.tu [af Y,aj])),(143,.d aj)]) (fun V=>?_) (fun N2_1_4_2_1_0=>?_)
   · refine ZH.all 18 (by kernel_rfl) rfl rfl (fun _=>rfl) ⟨rfl,trivial⟩ ?_;refine au (fun B1 F1 w1=>?_);refine qU 1 rfl ?_;refine aa.nil ⟨rfl,?_⟩;exact qL (N2_1_4_3_1_0 V) (by kernel_rfl) rfl ⟨rfl,trivial⟩
   refine ZH.meet 4 (qB 23 524287) (fun V=>((Vr,OA Ws)::(Vc,CA s.cols)::bB Ws (b.set r q))) (fun V=>[(3,.bx [.sl 1 (v.map af)]),(6,.bx [.sl 1 [],.sl 1 [],dI 0,.sl 3 []]),(7,.d aj),(8,.bx [.v Vr,.v Vc,dI sg,af det]),(11,.d (dI c)),(12,.d (dI r)),(14,.d (af p)),(36,.d (dI most)),(37,.d (dI c)),(16,.d (dI k)),(126,.d (.v Vr)),(127,.d (dI r)),(130,.d (dI k)),(133,.d (.v Vr)),(134,.d (dI r)),(137,.d (dI k)),(140,.d (af p)),(120,.d (dI N)),(121,.d (dI k)),(129,.d (.v (Ws.getD r undef))),(131,.d (bF v)),(139,.d (af X)),(124,.d (.tu [af Y,aj])),(142,.d (af Y))]) (fun V=>?_) (fun N2_1_4_3_0_0=>?_)
   · refine ZH.two 19 20 (by kernel_rfl) rfl rfl rfl rfl (fun _=>rfl) (fun _=>rfl) ⟨rfl,trivial⟩ ?_ ?_
     · refine au (fun B1 F1 w1=>?_);refine qU 1 rfl ?_;refine aa.nil ⟨rfl,?_⟩;exact qL (N2_1_4_3_1_0 V) (by kernel_rfl) rfl ⟨rfl,trivial⟩
     · refine ah (fun B1 F1 w1 hS=>?_);refine aa.idxs tok (hS.at (i:=r+2) (hgr q) (by rw[List.length_map];omega)) rfl rfl rfl rfl (Int.natCast_nonneg k) (by rw[List.length_map];omega) ?_;refine aa.nil ⟨rfl,?_⟩;exact qL (N2_1_4_4_0_0 V) (by kernel_rfl) rfl ⟨rfl,trivial⟩
   refine ZH.meet 5 (qB 23 1048551) (fun V=>((Vr,OA Ws)::(Vc,CA s.cols)::bB Ws (b.set r q))) (fun V=>[(3,.bx [.sl 1 (v.map af)]),(6,.bx [.sl 1 [],.sl 1 [],dI 0,.sl 3 []]),(7,.d aj),(8,.bx [.v Vr,.v Vc,dI sg,af det]),(11,.d (dI c)),(12,.d (dI r)),(14,.d (af p)),(36,.d (dI most)),(37,.d (dI c)),(16,.d (dI k)),(126,.d (.v Vr)),(127,.d (dI r)),(130,.d (dI k)),(133,.d (.v Vr)),(134,.d (dI r)),(137,.d (dI k)),(140,.d (af p)),(120,.d (dI N)),(121,.d (dI k)),(131,.d (bF v)),(139,.d (af X)),(124,.d (.tu [af Y,aj])),(142,.d (af Y)),(143,.d aj)]) (fun V=>?_) (fun N0_1_4_3_1_0=>?_)
   · refine ZH.all 3 (by kernel_rfl) rfl rfl (fun _=>rfl) ⟨rfl,trivial⟩ ?_;refine ah (fun B1 F1 w1 hS=>?_);refine aa.idxs tok (hS.at (i:=0) rfl (by rw[List.length_map];omega)) rfl rfl rfl rfl (Int.natCast_nonneg _) (by show r<_;rw[List.length_map];omega) ?_;refine aa.nil ⟨rfl,?_⟩;exact qL (N1_1_4_3_1_0 V) (by kernel_rfl) rfl ⟨rfl,trivial⟩
   refine ZH.meet 5 (qB 23 786415) (fun V=>((Vr,OA Ws)::(Vc,CA s.cols)::bB Ws (b.set r q))) (fun V=>[(3,.bx [.sl 1 (v.map af)]),(6,.bx [.sl 1 [],.sl 1 [],dI 0,.sl 3 []]),(7,.d aj),(8,.bx [.v Vr,.v Vc,dI sg,af det]),(11,.d (dI c)),(12,.d (dI r)),(14,.d (af p)),(36,.d (dI most)),(37,.d (dI c)),(16,.d (dI k)),(126,.d (.v Vr)),(127,.d (dI r)),(130,.d (dI k)),(133,.d (.v Vr)),(134,.d (dI r)),(137,.d (dI k)),(140,.d (af p)),(120,.d (dI N)),(121,.d (dI k)),(128,.d (.v (aQ Vr (r*1)))),(131,.d (bF v)),(139,.d (af X)),(124,.d (.tu [af Y,aj])),(143,.d aj)]) (fun V=>?_) (fun N1_1_4_2_1_0=>?_)
   · refine ZH.two 4 18 (by kernel_rfl) rfl rfl rfl rfl (fun _=>rfl) (fun _=>rfl) ⟨rfl,trivial⟩ ?_ ?_
     · refine ah (fun B1 F1 w1 hS=>?_);refine aa.aU tok (.v (Ws.getD r undef)) (hS.at (i:=0) rfl (by rw[List.length_map];omega)) rfl rfl rfl rfl rfl rfl (bA (by omega)) rfl ?_;refine aa.nil ⟨rfl,?_⟩;exact qL (N2_1_4_2_1_0 V) (by kernel_rfl) rfl ⟨rfl,trivial⟩
     · refine au (fun B1 F1 w1=>?_);refine qU 1 rfl ?_;refine aa.nil ⟨rfl,?_⟩;exact qL (N1_1_4_3_1_0 V) (by kernel_rfl) rfl ⟨rfl,trivial⟩
   refine ZH.meet 5 (qB 23 524271) (fun V=>((Vr,OA Ws)::(Vc,CA s.cols)::bB Ws (b.set r q))) (fun V=>[(3,.bx [.sl 1 (v.map af)]),(6,.bx [.sl 1 [],.sl 1 [],dI 0,.sl 3 []]),(7,.d aj),(8,.bx [.v Vr,.v Vc,dI sg,af det]),(11,.d (dI c)),(12,.d (dI r)),(14,.d (af p)),(36,.d (dI most)),(37,.d (dI c)),(16,.d (dI k)),(126,.d (.v Vr)),(127,.d (dI r)),(130,.d (dI k)),(133,.d (.v Vr)),(134,.d (dI r)),(137,.d (dI k)),(140,.d (af p)),(120,.d (dI N)),(121,.d (dI k)),(128,.d (.v (aQ Vr (r*1)))),(131,.d (bF v)),(139,.d (af X)),(124,.d (.tu [af Y,aj])),(142,.d (af Y))]) (fun V=>?_) (fun N1_1_4_3_0_0=>?_)
   · refine ZH.two 4 19 (by kernel_rfl) rfl rfl rfl rfl (fun _=>rfl) (fun _=>rfl) ⟨rfl,trivial⟩ ?_ ?_
     · refine ah (fun B1 F1 w1 hS=>?_);refine aa.aU tok (.v (Ws.getD r undef)) (hS.at (i:=0) rfl (by rw[List.length_map];omega)) rfl rfl rfl rfl rfl rfl (bA (by omega)) rfl ?_;refine aa.nil ⟨rfl,?_⟩;exact qL (N2_1_4_3_0_0 V) (by kernel_rfl) rfl ⟨rfl,trivial⟩
     · refine au (fun B1 F1 w1=>?_);refine qU 1 rfl ?_;refine aa.nil ⟨rfl,?_⟩;exact qL (N1_1_4_3_1_0 V) (by kernel_rfl) rfl ⟨rfl,trivial⟩
   refine ZH.meet 5 (qB 23 262143) (fun V=>((Vr,OA Ws)::(Vc,CA s.cols)::bB Ws (b.set r q))) (fun V=>[(3,.bx [.sl 1 (v.map af)]),(6,.bx [.sl 1 [],.sl 1 [],dI 0,.sl 3 []]),(7,.d aj),(8,.bx [.v Vr,.v Vc,dI sg,af det]),(11,.d (dI c)),(12,.d (dI r)),(14,.d (af p)),(36,.d (dI most)),(37,.d (dI c)),(16,.d (dI k)),(126,.d (.v Vr)),(127,.d (dI r)),(130,.d (dI k)),(133,.d (.v Vr)),(134,.d (dI r)),(137,.d (dI k)),(140,.d (af p)),(120,.d (dI N)),(121,.d (dI k)),(129,.d (.v (Ws.getD r undef))),(131,.d (bF v)),(139,.d (af X)),(124,.d (.tu [af Y,aj]))]) (fun V=>?_) (fun N2_1_4_2_0_0=>?_)
   · refine ZH.two 18 19 (by kernel_rfl) rfl rfl rfl rfl (fun _=>rfl) (fun _=>rfl) ⟨rfl,trivial⟩ ?_ ?_
     · refine au (fun B1 F1 w1=>?_);refine qU 1 rfl ?_;refine aa.nil ⟨rfl,?_⟩;exact qL (N2_1_4_3_0_0 V) (by kernel_rfl) rfl ⟨rfl,trivial⟩
     · refine au (fun B1 F1 w1=>?_);refine qU 1 rfl ?_;refine aa.nil ⟨rfl,?_⟩;exact qL (N2_1_4_2_1_0 V) (by kernel_rfl) rfl ⟨rfl,trivial⟩
   refine ZH.meet 6 (qB 23 786407) (fun V=>((Vr,OA Ws)::(Vc,CA s.cols)::bB Ws (b.set r q))) (fun V=>[(3,.bx [.sl 1 (v.map af)]),(6,.bx [.sl 1 [],.sl 1 [],dI 0,.sl 3 []]),(7,.d aj),(8,.bx [.v Vr,.v Vc,dI sg,af det]),(11,.d (dI c)),(12,.d (dI r)),(14,.d (af p)),(36,.d (dI most)),(37,.d (dI c)),(16,.d (dI k)),(126,.d (.v Vr)),(127,.d (dI r)),(130,.d (dI k)),(133,.d (.v Vr)),(134,.d (dI r)),(137,.d (dI k)),(140,.d (af p)),(120,.d (dI N)),(121,.d (dI k)),(131,.d (bF v)),(139,.d (af X)),(124,.d (.tu [af Y,aj])),(143,.d aj)]) (fun V=>?_) (fun N0_1_4_2_1_0=>?_)
   · refine ZH.two 3 18 (by kernel_rfl) rfl rfl rfl rfl (fun _=>rfl) (fun _=>rfl) ⟨rfl,trivial⟩ ?_ ?_
     · refine ah (fun B1 F1 w1 hS=>?_);refine aa.idxs tok (hS.at (i:=0) rfl (by rw[List.length_map];omega)) rfl rfl rfl rfl (Int.natCast_nonneg _) (by show r<_;rw[List.length_map];omega) ?_;refine aa.nil ⟨rfl,?_⟩;exact qL (N1_1_4_2_1_0 V) (by kernel_rfl) rfl ⟨rfl,trivial⟩
     · refine au (fun B1 F1 w1=>?_);refine qU 1 rfl ?_;refine aa.nil ⟨rfl,?_⟩;exact qL (N0_1_4_3_1_0 V) (by kernel_rfl) rfl ⟨rfl,trivial⟩
   refine ZH.meet 6 (qB 23 524263) (fun V=>((Vr,OA Ws)::(Vc,CA s.cols)::bB Ws (b.set r q))) (fun V=>[(3,.bx [.sl 1 (v.map af)]),(6,.bx [.sl 1 [],.sl 1 [],dI 0,.sl 3 []]),(7,.d aj),(8,.bx [.v Vr,.v Vc,dI sg,af det]),(11,.d (dI c)),(12,.d (dI r)),(14,.d (af p)),(36,.d (dI most)),(37,.d (dI c)),(16,.d (dI k)),(126,.d (.v Vr)),(127,.d (dI r)),(130,.d (dI k)),(133,.d (.v Vr)),(134,.d (dI r)),(137,.d (dI k)),(140,.d (af p)),(120,.d (dI N)),(121,.d (dI k)),(131,.d (bF v)),(139,.d (af X)),(124,.d (.tu [af Y,aj])),(142,.d (af Y))]) (fun V=>?_) (fun N0_1_4_3_0_0=>?_)
   · refine ZH.two 3 19 (by kernel_rfl) rfl rfl rfl rfl (fun _=>rfl) (fun _=>rfl) ⟨rfl,trivial⟩ ?_ ?_
     · refine ah (fun B1 F1 w1 hS=>?_);refine aa.idxs tok (hS.at (i:=0) rfl (by rw[List.length_map];omega)) rfl rfl rfl rfl (Int.natCast_nonneg _) (by show r<_;rw[List.length_map];omega) ?_;refine aa.nil ⟨rfl,?_⟩;exact qL (N1_1_4_3_0_0 V) (by kernel_rfl) rfl ⟨rfl,trivial⟩
     · refine au (fun B1 F1 w1=>?_);refine qU 1 rfl ?_;refine aa.nil ⟨rfl,?_⟩;exact qL (N0_1_4_3_1_0 V) (by kernel_rfl) rfl ⟨rfl,trivial⟩
   refine ZH.meet 6 (qB 23 262127) (fun V=>((Vr,OA Ws)::(Vc,CA s.cols)::bB Ws (b.set r q))) (fun V=>[(3,.bx [.sl 1 (v.map af)]),(6,.bx [.sl 1 [],.sl 1 [],dI 0,.sl 3 []]),(7,.d aj),(8,.bx [.v Vr,.v Vc,dI sg,af det]),(11,.d (dI c)),(12,.d (dI r)),(14,.d (af p)),(36,.d (dI most)),(37,.d (dI c)),(16,.d (dI k)),(126,.d (.v Vr)),(127,.d (dI r)),(130,.d (dI k)),(133,.d (.v Vr)),(134,.d (dI r)),(137,.d (dI k)),(140,.d (af p)),(120,.d (dI N)),(121,.d (dI k)),(128,.d (.v (aQ Vr (r*1)))),(131,.d (bF v)),(139,.d (af X)),(124,.d (.tu [af Y,aj]))]) (fun V=>?_) (fun N1_1_4_2_0_0=>?_)
   · refine ZH.three 4 18 19 (by kernel_rfl) rfl rfl rfl rfl rfl rfl (fun _=>rfl) (fun _=>rfl) (fun _=>rfl) ⟨rfl,trivial⟩ ?_ ?_ ?_
     · refine ah (fun B1 F1 w1 hS=>?_);refine aa.aU tok (.v (Ws.getD r undef)) (hS.at (i:=0) rfl (by rw[List.length_map];omega)) rfl rfl rfl rfl rfl rfl (bA (by omega)) rfl ?_;refine aa.nil ⟨rfl,?_⟩;exact qL (N2_1_4_2_0_0 V) (by kernel_rfl) rfl ⟨rfl,trivial⟩
     · refine au (fun B1 F1 w1=>?_);refine qU 1 rfl ?_;refine aa.nil ⟨rfl,?_⟩;exact qL (N1_1_4_3_0_0 V) (by kernel_rfl) rfl ⟨rfl,trivial⟩
     · refine au (fun B1 F1 w1=>?_);refine qU 1 rfl ?_;refine aa.nil ⟨rfl,?_⟩;exact qL (N1_1_4_2_1_0 V) (by kernel_rfl) rfl ⟨rfl,trivial⟩
   refine ZH.meet 6 (qB 23 131071) (fun V=>((Vr,OA Ws)::(Vc,CA s.cols)::bB Ws (b.set r q))) (fun V=>[(3,.bx [.sl 1 (v.map af)]),(6,.bx [.sl 1 [],.sl 1 [],dI 0,.sl 3 []]),(7,.d aj),(8,.bx [.v Vr,.v Vc,dI sg,af det]),(11,.d (dI c)),(12,.d (dI r)),(14,.d (af p)),(36,.d (dI most)),(37,.d (dI c)),(16,.d (dI k)),(126,.d (.v Vr)),(127,.d (dI r)),(130,.d (dI k)),(133,.d (.v Vr)),(134,.d (dI r)),(137,.d (dI k)),(140,.d (af p)),(120,.d (dI N)),(121,.d (dI k)),(129,.d (.v (Ws.getD r undef))),(131,.d (bF v)),(139,.d (af X)),(141,.d (.tu [af Y,aj]))]) (fun V=>?_) (fun N2_1_4_1_0_0=>?_)
   · refine ZH.all 17 (by kernel_rfl) rfl rfl (fun _=>rfl) ⟨rfl,trivial⟩ ?_;refine au (fun B1 F1 w1=>?_);refine qU 1 rfl ?_;refine aa.nil ⟨rfl,?_⟩;exact qL (N2_1_4_2_0_0 V) (by kernel_rfl) rfl ⟨rfl,trivial⟩
   refine ZH.meet 7 (qB 23 262119) (fun V=>((Vr,OA Ws)::(Vc,CA s.cols)::bB Ws (b.set r q))) (fun V=>[(3,.bx [.sl 1 (v.map af)]),(6,.bx [.sl 1 [],.sl 1 [],dI 0,.sl 3 []]),(7,.d aj),(8,.bx [.v Vr,.v Vc,dI sg,af det]),(11,.d (dI c)),(12,.d (dI r)),(14,.d (af p)),(36,.d (dI most)),(37,.d (dI c)),(16,.d (dI k)),(126,.d (.v Vr)),(127,.d (dI r)),(130,.d (dI k)),(133,.d (.v Vr)),(134,.d (dI r)),(137,.d (dI k)),(140,.d (af p)),(120,.d (dI N)),(121,.d (dI k)),(131,.d (bF v)),(139,.d (af X)),(124,.d (.tu [af Y,aj]))]) (fun V=>?_) (fun N0_1_4_2_0_0=>?_)
   · refine ZH.three 3 18 19 (by kernel_rfl) rfl rfl rfl rfl rfl rfl (fun _=>rfl) (fun _=>rfl) (fun _=>rfl) ⟨rfl,trivial⟩ ?_ ?_ ?_
     · refine ah (fun B1 F1 w1 hS=>?_);refine aa.idxs tok (hS.at (i:=0) rfl (by rw[List.length_map];omega)) rfl rfl rfl rfl (Int.natCast_nonneg _) (by show r<_;rw[List.length_map];omega) ?_;refine aa.nil ⟨rfl,?_⟩;exact qL (N1_1_4_2_0_0 V) (by kernel_rfl) rfl ⟨rfl,trivial⟩
     · refine au (fun B1 F1 w1=>?_);refine qU 1 rfl ?_;refine aa.nil ⟨rfl,?_⟩;exact qL (N0_1_4_3_0_0 V) (by kernel_rfl) rfl ⟨rfl,trivial⟩
     · refine au (fun B1 F1 w1=>?_);refine qU 1 rfl ?_;refine aa.nil ⟨rfl,?_⟩;exact qL (N0_1_4_2_1_0 V) (by kernel_rfl) rfl ⟨rfl,trivial⟩
   refine ZH.meet 7 (qB 23 131055) (fun V=>((Vr,OA Ws)::(Vc,CA s.cols)::bB Ws (b.set r q))) (fun V=>[(3,.bx [.sl 1 (v.map af)]),(6,.bx [.sl 1 [],.sl 1 [],dI 0,.sl 3 []]),(7,.d aj),(8,.bx [.v Vr,.v Vc,dI sg,af det]),(11,.d (dI c)),(12,.d (dI r)),(14,.d (af p)),(36,.d (dI most)),(37,.d (dI c)),(16,.d (dI k)),(126,.d (.v Vr)),(127,.d (dI r)),(130,.d (dI k)),(133,.d (.v Vr)),(134,.d (dI r)),(137,.d (dI k)),(140,.d (af p)),(120,.d (dI N)),(121,.d (dI k)),(128,.d (.v (aQ Vr (r*1)))),(131,.d (bF v)),(139,.d (af X)),(141,.d (.tu [af Y,aj]))]) (fun V=>?_) (fun N1_1_4_1_0_0=>?_)
   · refine ZH.two 4 17 (by kernel_rfl) rfl rfl rfl rfl (fun _=>rfl) (fun _=>rfl) ⟨rfl,trivial⟩ ?_ ?_
     · refine ah (fun B1 F1 w1 hS=>?_);refine aa.aU tok (.v (Ws.getD r undef)) (hS.at (i:=0) rfl (by rw[List.length_map];omega)) rfl rfl rfl rfl rfl rfl (bA (by omega)) rfl ?_;refine aa.nil ⟨rfl,?_⟩;exact qL (N2_1_4_1_0_0 V) (by kernel_rfl) rfl ⟨rfl,trivial⟩
     · refine au (fun B1 F1 w1=>?_);refine qU 1 rfl ?_;refine aa.nil ⟨rfl,?_⟩;exact qL (N1_1_4_2_0_0 V) (by kernel_rfl) rfl ⟨rfl,trivial⟩
   refine ZH.meet 7 (qB 23 65535) (fun V=>((Vr,OA Ws)::(Vc,CA s.cols)::bB Ws (b.set r q))) (fun V=>[(3,.bx [.sl 1 (v.map af)]),(6,.bx [.sl 1 [],.sl 1 [],dI 0,.sl 3 []]),(7,.d aj),(8,.bx [.v Vr,.v Vc,dI sg,af det]),(11,.d (dI c)),(12,.d (dI r)),(14,.d (af p)),(36,.d (dI most)),(37,.d (dI c)),(16,.d (dI k)),(126,.d (.v Vr)),(127,.d (dI r)),(130,.d (dI k)),(133,.d (.v Vr)),(134,.d (dI r)),(137,.d (dI k)),(140,.d (af p)),(120,.d (dI N)),(121,.d (dI k)),(129,.d (.v (Ws.getD r undef))),(131,.d (bF v)),(139,.d (af X))]) (fun V=>?_) (fun N2_1_4_0_0_0=>?_)
   · refine ZH.all 16 (by kernel_rfl) rfl rfl (fun _=>rfl) ⟨rfl,trivial⟩ ?_;refine au (fun B1 F1 w1=>?_);refine aa.call tok rfl rfl rfl rfl cd ?_;refine aa.nil ⟨rfl,?_⟩;exact qL (N2_1_4_1_0_0 V) (by kernel_rfl) rfl ⟨rfl,trivial⟩
   refine ZH.meet 8 (qB 23 131047) (fun V=>((Vr,OA Ws)::(Vc,CA s.cols)::bB Ws (b.set r q))) (fun V=>[(3,.bx [.sl 1 (v.map af)]),(6,.bx [.sl 1 [],.sl 1 [],dI 0,.sl 3 []]),(7,.d aj),(8,.bx [.v Vr,.v Vc,dI sg,af det]),(11,.d (dI c)),(12,.d (dI r)),(14,.d (af p)),(36,.d (dI most)),(37,.d (dI c)),(16,.d (dI k)),(126,.d (.v Vr)),(127,.d (dI r)),(130,.d (dI k)),(133,.d (.v Vr)),(134,.d (dI r)),(137,.d (dI k)),(140,.d (af p)),(120,.d (dI N)),(121,.d (dI k)),(131,.d (bF v)),(139,.d (af X)),(141,.d (.tu [af Y,aj]))]) (fun V=>?_) (fun N0_1_4_1_0_0=>?_)
   · refine ZH.two 3 17 (by kernel_rfl) rfl rfl rfl rfl (fun _=>rfl) (fun _=>rfl) ⟨rfl,trivial⟩ ?_ ?_
     · refine ah (fun B1 F1 w1 hS=>?_);refine aa.idxs tok (hS.at (i:=0) rfl (by rw[List.length_map];omega)) rfl rfl rfl rfl (Int.natCast_nonneg _) (by show r<_;rw[List.length_map];omega) ?_;refine aa.nil ⟨rfl,?_⟩;exact qL (N1_1_4_1_0_0 V) (by kernel_rfl) rfl ⟨rfl,trivial⟩
     · refine au (fun B1 F1 w1=>?_);refine qU 1 rfl ?_;refine aa.nil ⟨rfl,?_⟩;exact qL (N0_1_4_2_0_0 V) (by kernel_rfl) rfl ⟨rfl,trivial⟩
   refine ZH.meet 8 (qB 23 65519) (fun V=>((Vr,OA Ws)::(Vc,CA s.cols)::bB Ws (b.set r q))) (fun V=>[(3,.bx [.sl 1 (v.map af)]),(6,.bx [.sl 1 [],.sl 1 [],dI 0,.sl 3 []]),(7,.d aj),(8,.bx [.v Vr,.v Vc,dI sg,af det]),(11,.d (dI c)),(12,.d (dI r)),(14,.d (af p)),(36,.d (dI most)),(37,.d (dI c)),(16,.d (dI k)),(126,.d (.v Vr)),(127,.d (dI r)),(130,.d (dI k)),(133,.d (.v Vr)),(134,.d (dI r)),(137,.d (dI k)),(140,.d (af p)),(120,.d (dI N)),(121,.d (dI k)),(128,.d (.v (aQ Vr (r*1)))),(131,.d (bF v)),(139,.d (af X))]) (fun V=>?_) (fun N1_1_4_0_0_0=>?_)
   · refine ZH.two 4 16 (by kernel_rfl) rfl rfl rfl rfl (fun _=>rfl) (fun _=>rfl) ⟨rfl,trivial⟩ ?_ ?_
     · refine ah (fun B1 F1 w1 hS=>?_);refine aa.aU tok (.v (Ws.getD r undef)) (hS.at (i:=0) rfl (by rw[List.length_map];omega)) rfl rfl rfl rfl rfl rfl (bA (by omega)) rfl ?_;refine aa.nil ⟨rfl,?_⟩;exact qL (N2_1_4_0_0_0 V) (by kernel_rfl) rfl ⟨rfl,trivial⟩
     · refine au (fun B1 F1 w1=>?_);refine aa.call tok rfl rfl rfl rfl cd ?_;refine aa.nil ⟨rfl,?_⟩;exact qL (N1_1_4_1_0_0 V) (by kernel_rfl) rfl ⟨rfl,trivial⟩
   refine ZH.meet 8 (qB 23 65471) (fun V=>((Vr,OA Ws)::(Vc,CA s.cols)::bB Ws (b.set r q))) (fun V=>[(3,.bx [.sl 1 (v.map af)]),(6,.bx [.sl 1 [],.sl 1 [],dI 0,.sl 3 []]),(7,.d aj),(8,.bx [.v Vr,.v Vc,dI sg,af det]),(11,.d (dI c)),(12,.d (dI r)),(14,.d (af p)),(36,.d (dI most)),(37,.d (dI c)),(16,.d (dI k)),(126,.d (.v Vr)),(127,.d (dI r)),(130,.d (dI k)),(133,.d (.v Vr)),(134,.d (dI r)),(137,.d (dI k)),(140,.d (af p)),(120,.d (dI N)),(121,.d (dI k)),(129,.d (.v (Ws.getD r undef))),(139,.d (af X))]) (fun V=>?_) (fun N2_0_4_0_0_0=>?_)
   · refine ZH.all 6 (by kernel_rfl) rfl rfl (fun _=>rfl) ⟨rfl,trivial⟩ ?_;refine au (fun B1 F1 w1=>?_);refine qU 1 rfl ?_;refine aa.nil ⟨rfl,?_⟩;exact qL (N2_1_4_0_0_0 V) (by kernel_rfl) rfl ⟨rfl,trivial⟩
   refine ZH.meet 8 (qB 23 49151) (fun V=>((Vr,OA Ws)::(Vc,CA s.cols)::bB Ws (b.set r q))) (fun V=>[(3,.bx [.sl 1 (v.map af)]),(6,.bx [.sl 1 [],.sl 1 [],dI 0,.sl 3 []]),(7,.d aj),(8,.bx [.v Vr,.v Vc,dI sg,af det]),(11,.d (dI c)),(12,.d (dI r)),(14,.d (af p)),(36,.d (dI most)),(37,.d (dI c)),(16,.d (dI k)),(126,.d (.v Vr)),(127,.d (dI r)),(130,.d (dI k)),(133,.d (.v Vr)),(134,.d (dI r)),(137,.d (dI k)),(140,.d (af p)),(120,.d (dI N)),(121,.d (dI k)),(129,.d (.v (Ws.getD r undef))),(131,.d (bF v)),(136,.d (.v (Ws.getD r undef))),(138,.d (.v (aQ (Ws.getD r undef) (k*1))))]) (fun V=>?_) (fun N2_1_3_0_0_0=>?_)
   · refine ZH.all 14 (by kernel_rfl) rfl rfl (fun _=>rfl) ⟨rfl,trivial⟩ ?_;refine ah (fun B1 F1 w1 hS=>?_);refine aa.aU tok (af (q.getD k [])) (hS.at (i:=r+2) (hgr q) (by rw[List.length_map];omega)) rfl rfl rfl rfl rfl rfl (getM af (by omega)) rfl ?_;rw[hpg];refine aa.nil ⟨rfl,?_⟩;exact qL (N2_1_4_0_0_0 V) (by kernel_rfl) rfl ⟨rfl,trivial⟩
   refine ZH.meet 9 (qB 23 65511) (fun V=>((Vr,OA Ws)::(Vc,CA s.cols)::bB Ws (b.set r q))) (fun V=>[(3,.bx [.sl 1 (v.map af)]),(6,.bx [.sl 1 [],.sl 1 [],dI 0,.sl 3 []]),(7,.d aj),(8,.bx [.v Vr,.v Vc,dI sg,af det]),(11,.d (dI c)),(12,.d (dI r)),(14,.d (af p)),(36,.d (dI most)),(37,.d (dI c)),(16,.d (dI k)),(126,.d (.v Vr)),(127,.d (dI r)),(130,.d (dI k)),(133,.d (.v Vr)),(134,.d (dI r)),(137,.d (dI k)),(140,.d (af p)),(120,.d (dI N)),(121,.d (dI k)),(131,.d (bF v)),(139,.d (af X))]) (fun V=>?_) (fun N0_1_4_0_0_0=>?_)
   · refine ZH.two 3 16 (by kernel_rfl) rfl rfl rfl rfl (fun _=>rfl) (fun _=>rfl) ⟨rfl,trivial⟩ ?_ ?_
     · refine ah (fun B1 F1 w1 hS=>?_);refine aa.idxs tok (hS.at (i:=0) rfl (by rw[List.length_map];omega)) rfl rfl rfl rfl (Int.natCast_nonneg _) (by show r<_;rw[List.length_map];omega) ?_;refine aa.nil ⟨rfl,?_⟩;exact qL (N1_1_4_0_0_0 V) (by kernel_rfl) rfl ⟨rfl,trivial⟩
     · refine au (fun B1 F1 w1=>?_);refine aa.call tok rfl rfl rfl rfl cd ?_;refine aa.nil ⟨rfl,?_⟩;exact qL (N0_1_4_1_0_0 V) (by kernel_rfl) rfl ⟨rfl,trivial⟩
   refine ZH.meet 9 (qB 23 65455) (fun V=>((Vr,OA Ws)::(Vc,CA s.cols)::bB Ws (b.set r q))) (fun V=>[(3,.bx [.sl 1 (v.map af)]),(6,.bx [.sl 1 [],.sl 1 [],dI 0,.sl 3 []]),(7,.d aj),(8,.bx [.v Vr,.v Vc,dI sg,af det]),(11,.d (dI c)),(12,.d (dI r)),(14,.d (af p)),(36,.d (dI most)),(37,.d (dI c)),(16,.d (dI k)),(126,.d (.v Vr)),(127,.d (dI r)),(130,.d (dI k)),(133,.d (.v Vr)),(134,.d (dI r)),(137,.d (dI k)),(140,.d (af p)),(120,.d (dI N)),(121,.d (dI k)),(128,.d (.v (aQ Vr (r*1)))),(139,.d (af X))]) (fun V=>?_) (fun N1_0_4_0_0_0=>?_)
   · refine ZH.two 4 6 (by kernel_rfl) rfl rfl rfl rfl (fun _=>rfl) (fun _=>rfl) ⟨rfl,trivial⟩ ?_ ?_
     · refine ah (fun B1 F1 w1 hS=>?_);refine aa.aU tok (.v (Ws.getD r undef)) (hS.at (i:=0) rfl (by rw[List.length_map];omega)) rfl rfl rfl rfl rfl rfl (bA (by omega)) rfl ?_;refine aa.nil ⟨rfl,?_⟩;exact qL (N2_0_4_0_0_0 V) (by kernel_rfl) rfl ⟨rfl,trivial⟩
     · refine au (fun B1 F1 w1=>?_);refine qU 1 rfl ?_;refine aa.nil ⟨rfl,?_⟩;exact qL (N1_1_4_0_0_0 V) (by kernel_rfl) rfl ⟨rfl,trivial⟩
   refine ZH.meet 9 (qB 23 49135) (fun V=>((Vr,OA Ws)::(Vc,CA s.cols)::bB Ws (b.set r q))) (fun V=>[(3,.bx [.sl 1 (v.map af)]),(6,.bx [.sl 1 [],.sl 1 [],dI 0,.sl 3 []]),(7,.d aj),(8,.bx [.v Vr,.v Vc,dI sg,af det]),(11,.d (dI c)),(12,.d (dI r)),(14,.d (af p)),(36,.d (dI most)),(37,.d (dI c)),(16,.d (dI k)),(126,.d (.v Vr)),(127,.d (dI r)),(130,.d (dI k)),(133,.d (.v Vr)),(134,.d (dI r)),(137,.d (dI k)),(140,.d (af p)),(120,.d (dI N)),(121,.d (dI k)),(128,.d (.v (aQ Vr (r*1)))),(131,.d (bF v)),(136,.d (.v (Ws.getD r undef))),(138,.d (.v (aQ (Ws.getD r undef) (k*1))))]) (fun V=>?_) (fun N1_1_3_0_0_0=>?_)
   · refine ZH.two 4 14 (by kernel_rfl) rfl rfl rfl rfl (fun _=>rfl) (fun _=>rfl) ⟨rfl,trivial⟩ ?_ ?_
     · refine ah (fun B1 F1 w1 hS=>?_);refine aa.aU tok (.v (Ws.getD r undef)) (hS.at (i:=0) rfl (by rw[List.length_map];omega)) rfl rfl rfl rfl rfl rfl (bA (by omega)) rfl ?_;refine aa.nil ⟨rfl,?_⟩;exact qL (N2_1_3_0_0_0 V) (by kernel_rfl) rfl ⟨rfl,trivial⟩
     · refine ah (fun B1 F1 w1 hS=>?_);refine aa.aU tok (af (q.getD k [])) (hS.at (i:=r+2) (hgr q) (by rw[List.length_map];omega)) rfl rfl rfl rfl rfl rfl (getM af (by omega)) rfl ?_;rw[hpg];refine aa.nil ⟨rfl,?_⟩;exact qL (N1_1_4_0_0_0 V) (by kernel_rfl) rfl ⟨rfl,trivial⟩
   refine ZH.meet 9 (qB 23 49087) (fun V=>((Vr,OA Ws)::(Vc,CA s.cols)::bB Ws (b.set r q))) (fun V=>[(3,.bx [.sl 1 (v.map af)]),(6,.bx [.sl 1 [],.sl 1 [],dI 0,.sl 3 []]),(7,.d aj),(8,.bx [.v Vr,.v Vc,dI sg,af det]),(11,.d (dI c)),(12,.d (dI r)),(14,.d (af p)),(36,.d (dI most)),(37,.d (dI c)),(16,.d (dI k)),(126,.d (.v Vr)),(127,.d (dI r)),(130,.d (dI k)),(133,.d (.v Vr)),(134,.d (dI r)),(137,.d (dI k)),(140,.d (af p)),(120,.d (dI N)),(121,.d (dI k)),(129,.d (.v (Ws.getD r undef))),(136,.d (.v (Ws.getD r undef))),(138,.d (.v (aQ (Ws.getD r undef) (k*1))))]) (fun V=>?_) (fun N2_0_3_0_0_0=>?_)
   · refine ZH.two 6 14 (by kernel_rfl) rfl rfl rfl rfl (fun _=>rfl) (fun _=>rfl) ⟨rfl,trivial⟩ ?_ ?_
     · refine au (fun B1 F1 w1=>?_);refine qU 1 rfl ?_;refine aa.nil ⟨rfl,?_⟩;exact qL (N2_1_3_0_0_0 V) (by kernel_rfl) rfl ⟨rfl,trivial⟩
     · refine ah (fun B1 F1 w1 hS=>?_);refine aa.aU tok (af (q.getD k [])) (hS.at (i:=r+2) (hgr q) (by rw[List.length_map];omega)) rfl rfl rfl rfl rfl rfl (getM af (by omega)) rfl ?_;rw[hpg];refine aa.nil ⟨rfl,?_⟩;exact qL (N2_0_4_0_0_0 V) (by kernel_rfl) rfl ⟨rfl,trivial⟩
   refine ZH.meet 9 (qB 23 40959) (fun V=>((Vr,OA Ws)::(Vc,CA s.cols)::bB Ws (b.set r q))) (fun V=>[(3,.bx [.sl 1 (v.map af)]),(6,.bx [.sl 1 [],.sl 1 [],dI 0,.sl 3 []]),(7,.d aj),(8,.bx [.v Vr,.v Vc,dI sg,af det]),(11,.d (dI c)),(12,.d (dI r)),(14,.d (af p)),(36,.d (dI most)),(37,.d (dI c)),(16,.d (dI k)),(126,.d (.v Vr)),(127,.d (dI r)),(130,.d (dI k)),(133,.d (.v Vr)),(134,.d (dI r)),(137,.d (dI k)),(140,.d (af p)),(120,.d (dI N)),(121,.d (dI k)),(129,.d (.v (Ws.getD r undef))),(131,.d (bF v)),(136,.d (.v (Ws.getD r undef)))]) (fun V=>?_) (fun N2_1_2_0_0_0=>?_)
   · refine ZH.all 13 (by kernel_rfl) rfl rfl (fun _=>rfl) ⟨rfl,trivial⟩ ?_;refine ah (fun B1 F1 w1 hS=>?_);refine aa.idxs tok (hS.at (i:=r+2) (hgr q) (by rw[List.length_map];omega)) rfl rfl rfl rfl (Int.natCast_nonneg k) (by rw[List.length_map];omega) ?_;refine aa.nil ⟨rfl,?_⟩;exact qL (N2_1_3_0_0_0 V) (by kernel_rfl) rfl ⟨rfl,trivial⟩
   refine ZH.meet 10 (qB 23 65447) (fun V=>((Vr,OA Ws)::(Vc,CA s.cols)::bB Ws (b.set r q))) (fun V=>[(3,.bx [.sl 1 (v.map af)]),(6,.bx [.sl 1 [],.sl 1 [],dI 0,.sl 3 []]),(7,.d aj),(8,.bx [.v Vr,.v Vc,dI sg,af det]),(11,.d (dI c)),(12,.d (dI r)),(14,.d (af p)),(36,.d (dI most)),(37,.d (dI c)),(16,.d (dI k)),(126,.d (.v Vr)),(127,.d (dI r)),(130,.d (dI k)),(133,.d (.v Vr)),(134,.d (dI r)),(137,.d (dI k)),(140,.d (af p)),(120,.d (dI N)),(121,.d (dI k)),(139,.d (af X))]) (fun V=>?_) (fun N0_0_4_0_0_0=>?_)
   · refine ZH.two 3 6 (by kernel_rfl) rfl rfl rfl rfl (fun _=>rfl) (fun _=>rfl) ⟨rfl,trivial⟩ ?_ ?_
     · refine ah (fun B1 F1 w1 hS=>?_);refine aa.idxs tok (hS.at (i:=0) rfl (by rw[List.length_map];omega)) rfl rfl rfl rfl (Int.natCast_nonneg _) (by show r<_;rw[List.length_map];omega) ?_;refine aa.nil ⟨rfl,?_⟩;exact qL (N1_0_4_0_0_0 V) (by kernel_rfl) rfl ⟨rfl,trivial⟩
     · refine au (fun B1 F1 w1=>?_);refine qU 1 rfl ?_;refine aa.nil ⟨rfl,?_⟩;exact qL (N0_1_4_0_0_0 V) (by kernel_rfl) rfl ⟨rfl,trivial⟩
   refine ZH.meet 10 (qB 23 49127) (fun V=>((Vr,OA Ws)::(Vc,CA s.cols)::bB Ws (b.set r q))) (fun V=>[(3,.bx [.sl 1 (v.map af)]),(6,.bx [.sl 1 [],.sl 1 [],dI 0,.sl 3 []]),(7,.d aj),(8,.bx [.v Vr,.v Vc,dI sg,af det]),(11,.d (dI c)),(12,.d (dI r)),(14,.d (af p)),(36,.d (dI most)),(37,.d (dI c)),(16,.d (dI k)),(126,.d (.v Vr)),(127,.d (dI r)),(130,.d (dI k)),(133,.d (.v Vr)),(134,.d (dI r)),(137,.d (dI k)),(140,.d (af p)),(120,.d (dI N)),(121,.d (dI k)),(131,.d (bF v)),(136,.d (.v (Ws.getD r undef))),(138,.d (.v (aQ (Ws.getD r undef) (k*1))))]) (fun V=>?_) (fun N0_1_3_0_0_0=>?_)
   · refine ZH.two 3 14 (by kernel_rfl) rfl rfl rfl rfl (fun _=>rfl) (fun _=>rfl) ⟨rfl,trivial⟩ ?_ ?_
     · refine ah (fun B1 F1 w1 hS=>?_);refine aa.idxs tok (hS.at (i:=0) rfl (by rw[List.length_map];omega)) rfl rfl rfl rfl (Int.natCast_nonneg _) (by show r<_;rw[List.length_map];omega) ?_;refine aa.nil ⟨rfl,?_⟩;exact qL (N1_1_3_0_0_0 V) (by kernel_rfl) rfl ⟨rfl,trivial⟩
     · refine ah (fun B1 F1 w1 hS=>?_);refine aa.aU tok (af (q.getD k [])) (hS.at (i:=r+2) (hgr q) (by rw[List.length_map];omega)) rfl rfl rfl rfl rfl rfl (getM af (by omega)) rfl ?_;rw[hpg];refine aa.nil ⟨rfl,?_⟩;exact qL (N0_1_4_0_0_0 V) (by kernel_rfl) rfl ⟨rfl,trivial⟩
   refine ZH.meet 10 (qB 23 49071) (fun V=>((Vr,OA Ws)::(Vc,CA s.cols)::bB Ws (b.set r q))) (fun V=>[(3,.bx [.sl 1 (v.map af)]),(6,.bx [.sl 1 [],.sl 1 [],dI 0,.sl 3 []]),(7,.d aj),(8,.bx [.v Vr,.v Vc,dI sg,af det]),(11,.d (dI c)),(12,.d (dI r)),(14,.d (af p)),(36,.d (dI most)),(37,.d (dI c)),(16,.d (dI k)),(126,.d (.v Vr)),(127,.d (dI r)),(130,.d (dI k)),(133,.d (.v Vr)),(134,.d (dI r)),(137,.d (dI k)),(140,.d (af p)),(120,.d (dI N)),(121,.d (dI k)),(128,.d (.v (aQ Vr (r*1)))),(136,.d (.v (Ws.getD r undef))),(138,.d (.v (aQ (Ws.getD r undef) (k*1))))]) (fun V=>?_) (fun N1_0_3_0_0_0=>?_)
   · refine ZH.three 4 6 14 (by kernel_rfl) rfl rfl rfl rfl rfl rfl (fun _=>rfl) (fun _=>rfl) (fun _=>rfl) ⟨rfl,trivial⟩ ?_ ?_ ?_
     · refine ah (fun B1 F1 w1 hS=>?_);refine aa.aU tok (.v (Ws.getD r undef)) (hS.at (i:=0) rfl (by rw[List.length_map];omega)) rfl rfl rfl rfl rfl rfl (bA (by omega)) rfl ?_;refine aa.nil ⟨rfl,?_⟩;exact qL (N2_0_3_0_0_0 V) (by kernel_rfl) rfl ⟨rfl,trivial⟩
     · refine au (fun B1 F1 w1=>?_);refine qU 1 rfl ?_;refine aa.nil ⟨rfl,?_⟩;exact qL (N1_1_3_0_0_0 V) (by kernel_rfl) rfl ⟨rfl,trivial⟩
     · refine ah (fun B1 F1 w1 hS=>?_);refine aa.aU tok (af (q.getD k [])) (hS.at (i:=r+2) (hgr q) (by rw[List.length_map];omega)) rfl rfl rfl rfl rfl rfl (getM af (by omega)) rfl ?_;rw[hpg];refine aa.nil ⟨rfl,?_⟩;exact qL (N1_0_4_0_0_0 V) (by kernel_rfl) rfl ⟨rfl,trivial⟩
   refine ZH.meet 10 (qB 23 40943) (fun V=>((Vr,OA Ws)::(Vc,CA s.cols)::bB Ws (b.set r q))) (fun V=>[(3,.bx [.sl 1 (v.map af)]),(6,.bx [.sl 1 [],.sl 1 [],dI 0,.sl 3 []]),(7,.d aj),(8,.bx [.v Vr,.v Vc,dI sg,af det]),(11,.d (dI c)),(12,.d (dI r)),(14,.d (af p)),(36,.d (dI most)),(37,.d (dI c)),(16,.d (dI k)),(126,.d (.v Vr)),(127,.d (dI r)),(130,.d (dI k)),(133,.d (.v Vr)),(134,.d (dI r)),(137,.d (dI k)),(140,.d (af p)),(120,.d (dI N)),(121,.d (dI k)),(128,.d (.v (aQ Vr (r*1)))),(131,.d (bF v)),(136,.d (.v (Ws.getD r undef)))]) (fun V=>?_) (fun N1_1_2_0_0_0=>?_)
   · refine ZH.two 4 13 (by kernel_rfl) rfl rfl rfl rfl (fun _=>rfl) (fun _=>rfl) ⟨rfl,trivial⟩ ?_ ?_
     · refine ah (fun B1 F1 w1 hS=>?_);refine aa.aU tok (.v (Ws.getD r undef)) (hS.at (i:=0) rfl (by rw[List.length_map];omega)) rfl rfl rfl rfl rfl rfl (bA (by omega)) rfl ?_;refine aa.nil ⟨rfl,?_⟩;exact qL (N2_1_2_0_0_0 V) (by kernel_rfl) rfl ⟨rfl,trivial⟩
     · refine ah (fun B1 F1 w1 hS=>?_);refine aa.idxs tok (hS.at (i:=r+2) (hgr q) (by rw[List.length_map];omega)) rfl rfl rfl rfl (Int.natCast_nonneg k) (by rw[List.length_map];omega) ?_;refine aa.nil ⟨rfl,?_⟩;exact qL (N1_1_3_0_0_0 V) (by kernel_rfl) rfl ⟨rfl,trivial⟩
   refine ZH.meet 10 (qB 23 40895) (fun V=>((Vr,OA Ws)::(Vc,CA s.cols)::bB Ws (b.set r q))) (fun V=>[(3,.bx [.sl 1 (v.map af)]),(6,.bx [.sl 1 [],.sl 1 [],dI 0,.sl 3 []]),(7,.d aj),(8,.bx [.v Vr,.v Vc,dI sg,af det]),(11,.d (dI c)),(12,.d (dI r)),(14,.d (af p)),(36,.d (dI most)),(37,.d (dI c)),(16,.d (dI k)),(126,.d (.v Vr)),(127,.d (dI r)),(130,.d (dI k)),(133,.d (.v Vr)),(134,.d (dI r)),(137,.d (dI k)),(140,.d (af p)),(120,.d (dI N)),(121,.d (dI k)),(129,.d (.v (Ws.getD r undef))),(136,.d (.v (Ws.getD r undef)))]) (fun V=>?_) (fun N2_0_2_0_0_0=>?_)
   · refine ZH.two 6 13 (by kernel_rfl) rfl rfl rfl rfl (fun _=>rfl) (fun _=>rfl) ⟨rfl,trivial⟩ ?_ ?_
     · refine au (fun B1 F1 w1=>?_);refine qU 1 rfl ?_;refine aa.nil ⟨rfl,?_⟩;exact qL (N2_1_2_0_0_0 V) (by kernel_rfl) rfl ⟨rfl,trivial⟩
     · refine ah (fun B1 F1 w1 hS=>?_);refine aa.idxs tok (hS.at (i:=r+2) (hgr q) (by rw[List.length_map];omega)) rfl rfl rfl rfl (Int.natCast_nonneg k) (by rw[List.length_map];omega) ?_;refine aa.nil ⟨rfl,?_⟩;exact qL (N2_0_3_0_0_0 V) (by kernel_rfl) rfl ⟨rfl,trivial⟩
   refine ZH.meet 10 (qB 23 38911) (fun V=>((Vr,OA Ws)::(Vc,CA s.cols)::bB Ws (b.set r q))) (fun V=>[(3,.bx [.sl 1 (v.map af)]),(6,.bx [.sl 1 [],.sl 1 [],dI 0,.sl 3 []]),(7,.d aj),(8,.bx [.v Vr,.v Vc,dI sg,af det]),(11,.d (dI c)),(12,.d (dI r)),(14,.d (af p)),(36,.d (dI most)),(37,.d (dI c)),(16,.d (dI k)),(126,.d (.v Vr)),(127,.d (dI r)),(130,.d (dI k)),(133,.d (.v Vr)),(134,.d (dI r)),(137,.d (dI k)),(140,.d (af p)),(120,.d (dI N)),(121,.d (dI k)),(129,.d (.v (Ws.getD r undef))),(131,.d (bF v)),(135,.d (.v (aQ Vr (r*1))))]) (fun V=>?_) (fun N2_1_1_0_0_0=>?_)
   · refine ZH.all 11 (by kernel_rfl) rfl rfl (fun _=>rfl) ⟨rfl,trivial⟩ ?_;refine ah (fun B1 F1 w1 hS=>?_);refine aa.aU tok (.v (Ws.getD r undef)) (hS.at (i:=0) rfl (by rw[List.length_map];omega)) rfl rfl rfl rfl rfl rfl (bA (by omega)) rfl ?_;refine aa.nil ⟨rfl,?_⟩;exact qL (N2_1_2_0_0_0 V) (by kernel_rfl) rfl ⟨rfl,trivial⟩
   refine ZH.meet 11 (qB 23 49063) (fun V=>((Vr,OA Ws)::(Vc,CA s.cols)::bB Ws (b.set r q))) (fun V=>[(3,.bx [.sl 1 (v.map af)]),(6,.bx [.sl 1 [],.sl 1 [],dI 0,.sl 3 []]),(7,.d aj),(8,.bx [.v Vr,.v Vc,dI sg,af det]),(11,.d (dI c)),(12,.d (dI r)),(14,.d (af p)),(36,.d (dI most)),(37,.d (dI c)),(16,.d (dI k)),(126,.d (.v Vr)),(127,.d (dI r)),(130,.d (dI k)),(133,.d (.v Vr)),(134,.d (dI r)),(137,.d (dI k)),(140,.d (af p)),(120,.d (dI N)),(121,.d (dI k)),(136,.d (.v (Ws.getD r undef))),(138,.d (.v (aQ (Ws.getD r undef) (k*1))))]) (fun V=>?_) (fun N0_0_3_0_0_0=>?_)
   · refine ZH.three 3 6 14 (by kernel_rfl) rfl rfl rfl rfl rfl rfl (fun _=>rfl) (fun _=>rfl) (fun _=>rfl) ⟨rfl,trivial⟩ ?_ ?_ ?_
     · refine ah (fun B1 F1 w1 hS=>?_);refine aa.idxs tok (hS.at (i:=0) rfl (by rw[List.length_map];omega)) rfl rfl rfl rfl (Int.natCast_nonneg _) (by show r<_;rw[List.length_map];omega) ?_;refine aa.nil ⟨rfl,?_⟩;exact qL (N1_0_3_0_0_0 V) (by kernel_rfl) rfl ⟨rfl,trivial⟩
     · refine au (fun B1 F1 w1=>?_);refine qU 1 rfl ?_;refine aa.nil ⟨rfl,?_⟩;exact qL (N0_1_3_0_0_0 V) (by kernel_rfl) rfl ⟨rfl,trivial⟩
     · refine ah (fun B1 F1 w1 hS=>?_);refine aa.aU tok (af (q.getD k [])) (hS.at (i:=r+2) (hgr q) (by rw[List.length_map];omega)) rfl rfl rfl rfl rfl rfl (getM af (by omega)) rfl ?_;rw[hpg];refine aa.nil ⟨rfl,?_⟩;exact qL (N0_0_4_0_0_0 V) (by kernel_rfl) rfl ⟨rfl,trivial⟩
   refine ZH.meet 11 (qB 23 40935) (fun V=>((Vr,OA Ws)::(Vc,CA s.cols)::bB Ws (b.set r q))) (fun V=>[(3,.bx [.sl 1 (v.map af)]),(6,.bx [.sl 1 [],.sl 1 [],dI 0,.sl 3 []]),(7,.d aj),(8,.bx [.v Vr,.v Vc,dI sg,af det]),(11,.d (dI c)),(12,.d (dI r)),(14,.d (af p)),(36,.d (dI most)),(37,.d (dI c)),(16,.d (dI k)),(126,.d (.v Vr)),(127,.d (dI r)),(130,.d (dI k)),(133,.d (.v Vr)),(134,.d (dI r)),(137,.d (dI k)),(140,.d (af p)),(120,.d (dI N)),(121,.d (dI k)),(131,.d (bF v)),(136,.d (.v (Ws.getD r undef)))]) (fun V=>?_) (fun N0_1_2_0_0_0=>?_)
   · refine ZH.two 3 13 (by kernel_rfl) rfl rfl rfl rfl (fun _=>rfl) (fun _=>rfl) ⟨rfl,trivial⟩ ?_ ?_
     · refine ah (fun B1 F1 w1 hS=>?_);refine aa.idxs tok (hS.at (i:=0) rfl (by rw[List.length_map];omega)) rfl rfl rfl rfl (Int.natCast_nonneg _) (by show r<_;rw[List.length_map];omega) ?_;refine aa.nil ⟨rfl,?_⟩;exact qL (N1_1_2_0_0_0 V) (by kernel_rfl) rfl ⟨rfl,trivial⟩
     · refine ah (fun B1 F1 w1 hS=>?_);refine aa.idxs tok (hS.at (i:=r+2) (hgr q) (by rw[List.length_map];omega)) rfl rfl rfl rfl (Int.natCast_nonneg k) (by rw[List.length_map];omega) ?_;refine aa.nil ⟨rfl,?_⟩;exact qL (N0_1_3_0_0_0 V) (by kernel_rfl) rfl ⟨rfl,trivial⟩
   refine ZH.meet 11 (qB 23 40879) (fun V=>((Vr,OA Ws)::(Vc,CA s.cols)::bB Ws (b.set r q))) (fun V=>[(3,.bx [.sl 1 (v.map af)]),(6,.bx [.sl 1 [],.sl 1 [],dI 0,.sl 3 []]),(7,.d aj),(8,.bx [.v Vr,.v Vc,dI sg,af det]),(11,.d (dI c)),(12,.d (dI r)),(14,.d (af p)),(36,.d (dI most)),(37,.d (dI c)),(16,.d (dI k)),(126,.d (.v Vr)),(127,.d (dI r)),(130,.d (dI k)),(133,.d (.v Vr)),(134,.d (dI r)),(137,.d (dI k)),(140,.d (af p)),(120,.d (dI N)),(121,.d (dI k)),(128,.d (.v (aQ Vr (r*1)))),(136,.d (.v (Ws.getD r undef)))]) (fun V=>?_) (fun N1_0_2_0_0_0=>?_)
   · refine ZH.three 4 6 13 (by kernel_rfl) rfl rfl rfl rfl rfl rfl (fun _=>rfl) (fun _=>rfl) (fun _=>rfl) ⟨rfl,trivial⟩ ?_ ?_ ?_
     · refine ah (fun B1 F1 w1 hS=>?_);refine aa.aU tok (.v (Ws.getD r undef)) (hS.at (i:=0) rfl (by rw[List.length_map];omega)) rfl rfl rfl rfl rfl rfl (bA (by omega)) rfl ?_;refine aa.nil ⟨rfl,?_⟩;exact qL (N2_0_2_0_0_0 V) (by kernel_rfl) rfl ⟨rfl,trivial⟩
     · refine au (fun B1 F1 w1=>?_);refine qU 1 rfl ?_;refine aa.nil ⟨rfl,?_⟩;exact qL (N1_1_2_0_0_0 V) (by kernel_rfl) rfl ⟨rfl,trivial⟩
     · refine ah (fun B1 F1 w1 hS=>?_);refine aa.idxs tok (hS.at (i:=r+2) (hgr q) (by rw[List.length_map];omega)) rfl rfl rfl rfl (Int.natCast_nonneg k) (by rw[List.length_map];omega) ?_;refine aa.nil ⟨rfl,?_⟩;exact qL (N1_0_3_0_0_0 V) (by kernel_rfl) rfl ⟨rfl,trivial⟩
   refine ZH.meet 11 (qB 23 38895) (fun V=>((Vr,OA Ws)::(Vc,CA s.cols)::bB Ws (b.set r q))) (fun V=>[(3,.bx [.sl 1 (v.map af)]),(6,.bx [.sl 1 [],.sl 1 [],dI 0,.sl 3 []]),(7,.d aj),(8,.bx [.v Vr,.v Vc,dI sg,af det]),(11,.d (dI c)),(12,.d (dI r)),(14,.d (af p)),(36,.d (dI most)),(37,.d (dI c)),(16,.d (dI k)),(126,.d (.v Vr)),(127,.d (dI r)),(130,.d (dI k)),(133,.d (.v Vr)),(134,.d (dI r)),(137,.d (dI k)),(140,.d (af p)),(120,.d (dI N)),(121,.d (dI k)),(128,.d (.v (aQ Vr (r*1)))),(131,.d (bF v)),(135,.d (.v (aQ Vr (r*1))))]) (fun V=>?_) (fun N1_1_1_0_0_0=>?_)
   · refine ZH.two 4 11 (by kernel_rfl) rfl rfl rfl rfl (fun _=>rfl) (fun _=>rfl) ⟨rfl,trivial⟩ ?_ ?_
     · refine ah (fun B1 F1 w1 hS=>?_);refine aa.aU tok (.v (Ws.getD r undef)) (hS.at (i:=0) rfl (by rw[List.length_map];omega)) rfl rfl rfl rfl rfl rfl (bA (by omega)) rfl ?_;refine aa.nil ⟨rfl,?_⟩;exact qL (N2_1_1_0_0_0 V) (by kernel_rfl) rfl ⟨rfl,trivial⟩
     · refine ah (fun B1 F1 w1 hS=>?_);refine aa.aU tok (.v (Ws.getD r undef)) (hS.at (i:=0) rfl (by rw[List.length_map];omega)) rfl rfl rfl rfl rfl rfl (bA (by omega)) rfl ?_;refine aa.nil ⟨rfl,?_⟩;exact qL (N1_1_2_0_0_0 V) (by kernel_rfl) rfl ⟨rfl,trivial⟩
   refine ZH.meet 11 (qB 23 38847) (fun V=>((Vr,OA Ws)::(Vc,CA s.cols)::bB Ws (b.set r q))) (fun V=>[(3,.bx [.sl 1 (v.map af)]),(6,.bx [.sl 1 [],.sl 1 [],dI 0,.sl 3 []]),(7,.d aj),(8,.bx [.v Vr,.v Vc,dI sg,af det]),(11,.d (dI c)),(12,.d (dI r)),(14,.d (af p)),(36,.d (dI most)),(37,.d (dI c)),(16,.d (dI k)),(126,.d (.v Vr)),(127,.d (dI r)),(130,.d (dI k)),(133,.d (.v Vr)),(134,.d (dI r)),(137,.d (dI k)),(140,.d (af p)),(120,.d (dI N)),(121,.d (dI k)),(129,.d (.v (Ws.getD r undef))),(135,.d (.v (aQ Vr (r*1))))]) (fun V=>?_) (fun N2_0_1_0_0_0=>?_)
   · refine ZH.two 6 11 (by kernel_rfl) rfl rfl rfl rfl (fun _=>rfl) (fun _=>rfl) ⟨rfl,trivial⟩ ?_ ?_
     · refine au (fun B1 F1 w1=>?_);refine qU 1 rfl ?_;refine aa.nil ⟨rfl,?_⟩;exact qL (N2_1_1_0_0_0 V) (by kernel_rfl) rfl ⟨rfl,trivial⟩
     · refine ah (fun B1 F1 w1 hS=>?_);refine aa.aU tok (.v (Ws.getD r undef)) (hS.at (i:=0) rfl (by rw[List.length_map];omega)) rfl rfl rfl rfl rfl rfl (bA (by omega)) rfl ?_;refine aa.nil ⟨rfl,?_⟩;exact qL (N2_0_2_0_0_0 V) (by kernel_rfl) rfl ⟨rfl,trivial⟩
   refine ZH.meet 11 (qB 23 37887) (fun V=>((Vr,OA Ws)::(Vc,CA s.cols)::bB Ws (b.set r q))) (fun V=>[(3,.bx [.sl 1 (v.map af)]),(6,.bx [.sl 1 [],.sl 1 [],dI 0,.sl 3 []]),(7,.d aj),(8,.bx [.v Vr,.v Vc,dI sg,af det]),(11,.d (dI c)),(12,.d (dI r)),(14,.d (af p)),(36,.d (dI most)),(37,.d (dI c)),(16,.d (dI k)),(126,.d (.v Vr)),(127,.d (dI r)),(130,.d (dI k)),(133,.d (.v Vr)),(134,.d (dI r)),(137,.d (dI k)),(140,.d (af p)),(120,.d (dI N)),(121,.d (dI k)),(129,.d (.v (Ws.getD r undef))),(131,.d (bF v))]) (fun V=>?_) (fun N2_1_0_0_0_0=>?_)
   · refine ZH.all 10 (by kernel_rfl) rfl rfl (fun _=>rfl) ⟨rfl,trivial⟩ ?_;refine ah (fun B1 F1 w1 hS=>?_);refine aa.idxs tok (hS.at (i:=0) rfl (by rw[List.length_map];omega)) rfl rfl rfl rfl (Int.natCast_nonneg _) (by show r<_;rw[List.length_map];omega) ?_;refine aa.nil ⟨rfl,?_⟩;exact qL (N2_1_1_0_0_0 V) (by kernel_rfl) rfl ⟨rfl,trivial⟩
   refine ZH.meet 12 (qB 23 40871) (fun V=>((Vr,OA Ws)::(Vc,CA s.cols)::bB Ws (b.set r q))) (fun V=>[(3,.bx [.sl 1 (v.map af)]),(6,.bx [.sl 1 [],.sl 1 [],dI 0,.sl 3 []]),(7,.d aj),(8,.bx [.v Vr,.v Vc,dI sg,af det]),(11,.d (dI c)),(12,.d (dI r)),(14,.d (af p)),(36,.d (dI most)),(37,.d (dI c)),(16,.d (dI k)),(126,.d (.v Vr)),(127,.d (dI r)),(130,.d (dI k)),(133,.d (.v Vr)),(134,.d (dI r)),(137,.d (dI k)),(140,.d (af p)),(120,.d (dI N)),(121,.d (dI k)),(136,.d (.v (Ws.getD r undef)))]) (fun V=>?_) (fun N0_0_2_0_0_0=>?_)
   · refine ZH.three 3 6 13 (by kernel_rfl) rfl rfl rfl rfl rfl rfl (fun _=>rfl) (fun _=>rfl) (fun _=>rfl) ⟨rfl,trivial⟩ ?_ ?_ ?_
     · refine ah (fun B1 F1 w1 hS=>?_);refine aa.idxs tok (hS.at (i:=0) rfl (by rw[List.length_map];omega)) rfl rfl rfl rfl (Int.natCast_nonneg _) (by show r<_;rw[List.length_map];omega) ?_;refine aa.nil ⟨rfl,?_⟩;exact qL (N1_0_2_0_0_0 V) (by kernel_rfl) rfl ⟨rfl,trivial⟩
     · refine au (fun B1 F1 w1=>?_);refine qU 1 rfl ?_;refine aa.nil ⟨rfl,?_⟩;exact qL (N0_1_2_0_0_0 V) (by kernel_rfl) rfl ⟨rfl,trivial⟩
     · refine ah (fun B1 F1 w1 hS=>?_);refine aa.idxs tok (hS.at (i:=r+2) (hgr q) (by rw[List.length_map];omega)) rfl rfl rfl rfl (Int.natCast_nonneg k) (by rw[List.length_map];omega) ?_;refine aa.nil ⟨rfl,?_⟩;exact qL (N0_0_3_0_0_0 V) (by kernel_rfl) rfl ⟨rfl,trivial⟩
   refine ZH.meet 12 (qB 23 38887) (fun V=>((Vr,OA Ws)::(Vc,CA s.cols)::bB Ws (b.set r q))) (fun V=>[(3,.bx [.sl 1 (v.map af)]),(6,.bx [.sl 1 [],.sl 1 [],dI 0,.sl 3 []]),(7,.d aj),(8,.bx [.v Vr,.v Vc,dI sg,af det]),(11,.d (dI c)),(12,.d (dI r)),(14,.d (af p)),(36,.d (dI most)),(37,.d (dI c)),(16,.d (dI k)),(126,.d (.v Vr)),(127,.d (dI r)),(130,.d (dI k)),(133,.d (.v Vr)),(134,.d (dI r)),(137,.d (dI k)),(140,.d (af p)),(120,.d (dI N)),(121,.d (dI k)),(131,.d (bF v)),(135,.d (.v (aQ Vr (r*1))))]) (fun V=>?_) (fun N0_1_1_0_0_0=>?_)
   · refine ZH.two 3 11 (by kernel_rfl) rfl rfl rfl rfl (fun _=>rfl) (fun _=>rfl) ⟨rfl,trivial⟩ ?_ ?_
     · refine ah (fun B1 F1 w1 hS=>?_);refine aa.idxs tok (hS.at (i:=0) rfl (by rw[List.length_map];omega)) rfl rfl rfl rfl (Int.natCast_nonneg _) (by show r<_;rw[List.length_map];omega) ?_;refine aa.nil ⟨rfl,?_⟩;exact qL (N1_1_1_0_0_0 V) (by kernel_rfl) rfl ⟨rfl,trivial⟩
     · refine ah (fun B1 F1 w1 hS=>?_);refine aa.aU tok (.v (Ws.getD r undef)) (hS.at (i:=0) rfl (by rw[List.length_map];omega)) rfl rfl rfl rfl rfl rfl (bA (by omega)) rfl ?_;refine aa.nil ⟨rfl,?_⟩;exact qL (N0_1_2_0_0_0 V) (by kernel_rfl) rfl ⟨rfl,trivial⟩
   refine ZH.meet 12 (qB 23 38831) (fun V=>((Vr,OA Ws)::(Vc,CA s.cols)::bB Ws (b.set r q))) (fun V=>[(3,.bx [.sl 1 (v.map af)]),(6,.bx [.sl 1 [],.sl 1 [],dI 0,.sl 3 []]),(7,.d aj),(8,.bx [.v Vr,.v Vc,dI sg,af det]),(11,.d (dI c)),(12,.d (dI r)),(14,.d (af p)),(36,.d (dI most)),(37,.d (dI c)),(16,.d (dI k)),(126,.d (.v Vr)),(127,.d (dI r)),(130,.d (dI k)),(133,.d (.v Vr)),(134,.d (dI r)),(137,.d (dI k)),(140,.d (af p)),(120,.d (dI N)),(121,.d (dI k)),(128,.d (.v (aQ Vr (r*1)))),(135,.d (.v (aQ Vr (r*1))))]) (fun V=>?_) (fun N1_0_1_0_0_0=>?_)
   · refine ZH.three 4 6 11 (by kernel_rfl) rfl rfl rfl rfl rfl rfl (fun _=>rfl) (fun _=>rfl) (fun _=>rfl) ⟨rfl,trivial⟩ ?_ ?_ ?_
     · refine ah (fun B1 F1 w1 hS=>?_);refine aa.aU tok (.v (Ws.getD r undef)) (hS.at (i:=0) rfl (by rw[List.length_map];omega)) rfl rfl rfl rfl rfl rfl (bA (by omega)) rfl ?_;refine aa.nil ⟨rfl,?_⟩;exact qL (N2_0_1_0_0_0 V) (by kernel_rfl) rfl ⟨rfl,trivial⟩
     · refine au (fun B1 F1 w1=>?_);refine qU 1 rfl ?_;refine aa.nil ⟨rfl,?_⟩;exact qL (N1_1_1_0_0_0 V) (by kernel_rfl) rfl ⟨rfl,trivial⟩
     · refine ah (fun B1 F1 w1 hS=>?_);refine aa.aU tok (.v (Ws.getD r undef)) (hS.at (i:=0) rfl (by rw[List.length_map];omega)) rfl rfl rfl rfl rfl rfl (bA (by omega)) rfl ?_;refine aa.nil ⟨rfl,?_⟩;exact qL (N1_0_2_0_0_0 V) (by kernel_rfl) rfl ⟨rfl,trivial⟩
   refine ZH.meet 12 (qB 23 37871) (fun V=>((Vr,OA Ws)::(Vc,CA s.cols)::bB Ws (b.set r q))) (fun V=>[(3,.bx [.sl 1 (v.map af)]),(6,.bx [.sl 1 [],.sl 1 [],dI 0,.sl 3 []]),(7,.d aj),(8,.bx [.v Vr,.v Vc,dI sg,af det]),(11,.d (dI c)),(12,.d (dI r)),(14,.d (af p)),(36,.d (dI most)),(37,.d (dI c)),(16,.d (dI k)),(126,.d (.v Vr)),(127,.d (dI r)),(130,.d (dI k)),(133,.d (.v Vr)),(134,.d (dI r)),(137,.d (dI k)),(140,.d (af p)),(120,.d (dI N)),(121,.d (dI k)),(128,.d (.v (aQ Vr (r*1)))),(131,.d (bF v))]) (fun V=>?_) (fun N1_1_0_0_0_0=>?_)
   · refine ZH.two 4 10 (by kernel_rfl) rfl rfl rfl rfl (fun _=>rfl) (fun _=>rfl) ⟨rfl,trivial⟩ ?_ ?_
     · refine ah (fun B1 F1 w1 hS=>?_);refine aa.aU tok (.v (Ws.getD r undef)) (hS.at (i:=0) rfl (by rw[List.length_map];omega)) rfl rfl rfl rfl rfl rfl (bA (by omega)) rfl ?_;refine aa.nil ⟨rfl,?_⟩;exact qL (N2_1_0_0_0_0 V) (by kernel_rfl) rfl ⟨rfl,trivial⟩
     · refine ah (fun B1 F1 w1 hS=>?_);refine aa.idxs tok (hS.at (i:=0) rfl (by rw[List.length_map];omega)) rfl rfl rfl rfl (Int.natCast_nonneg _) (by show r<_;rw[List.length_map];omega) ?_;refine aa.nil ⟨rfl,?_⟩;exact qL (N1_1_1_0_0_0 V) (by kernel_rfl) rfl ⟨rfl,trivial⟩
   refine ZH.meet 12 (qB 23 37823) (fun V=>((Vr,OA Ws)::(Vc,CA s.cols)::bB Ws (b.set r q))) (fun V=>[(3,.bx [.sl 1 (v.map af)]),(6,.bx [.sl 1 [],.sl 1 [],dI 0,.sl 3 []]),(7,.d aj),(8,.bx [.v Vr,.v Vc,dI sg,af det]),(11,.d (dI c)),(12,.d (dI r)),(14,.d (af p)),(36,.d (dI most)),(37,.d (dI c)),(16,.d (dI k)),(126,.d (.v Vr)),(127,.d (dI r)),(130,.d (dI k)),(133,.d (.v Vr)),(134,.d (dI r)),(137,.d (dI k)),(140,.d (af p)),(120,.d (dI N)),(121,.d (dI k)),(129,.d (.v (Ws.getD r undef)))]) (fun V=>?_) (fun N2_0_0_0_0_0=>?_)
   · refine ZH.two 6 10 (by kernel_rfl) rfl rfl rfl rfl (fun _=>rfl) (fun _=>rfl) ⟨rfl,trivial⟩ ?_ ?_
     · refine au (fun B1 F1 w1=>?_);refine qU 1 rfl ?_;refine aa.nil ⟨rfl,?_⟩;exact qL (N2_1_0_0_0_0 V) (by kernel_rfl) rfl ⟨rfl,trivial⟩
     · refine ah (fun B1 F1 w1 hS=>?_);refine aa.idxs tok (hS.at (i:=0) rfl (by rw[List.length_map];omega)) rfl rfl rfl rfl (Int.natCast_nonneg _) (by show r<_;rw[List.length_map];omega) ?_;refine aa.nil ⟨rfl,?_⟩;exact qL (N2_0_1_0_0_0 V) (by kernel_rfl) rfl ⟨rfl,trivial⟩
   refine ZH.meet 13 (qB 23 38823) (fun V=>((Vr,OA Ws)::(Vc,CA s.cols)::bB Ws (b.set r q))) (fun V=>[(3,.bx [.sl 1 (v.map af)]),(6,.bx [.sl 1 [],.sl 1 [],dI 0,.sl 3 []]),(7,.d aj),(8,.bx [.v Vr,.v Vc,dI sg,af det]),(11,.d (dI c)),(12,.d (dI r)),(14,.d (af p)),(36,.d (dI most)),(37,.d (dI c)),(16,.d (dI k)),(126,.d (.v Vr)),(127,.d (dI r)),(130,.d (dI k)),(133,.d (.v Vr)),(134,.d (dI r)),(137,.d (dI k)),(140,.d (af p)),(120,.d (dI N)),(121,.d (dI k)),(135,.d (.v (aQ Vr (r*1))))]) (fun V=>?_) (fun N0_0_1_0_0_0=>?_)
   · refine ZH.three 3 6 11 (by kernel_rfl) rfl rfl rfl rfl rfl rfl (fun _=>rfl) (fun _=>rfl) (fun _=>rfl) ⟨rfl,trivial⟩ ?_ ?_ ?_
     · refine ah (fun B1 F1 w1 hS=>?_);refine aa.idxs tok (hS.at (i:=0) rfl (by rw[List.length_map];omega)) rfl rfl rfl rfl (Int.natCast_nonneg _) (by show r<_;rw[List.length_map];omega) ?_;refine aa.nil ⟨rfl,?_⟩;exact qL (N1_0_1_0_0_0 V) (by kernel_rfl) rfl ⟨rfl,trivial⟩
     · refine au (fun B1 F1 w1=>?_);refine qU 1 rfl ?_;refine aa.nil ⟨rfl,?_⟩;exact qL (N0_1_1_0_0_0 V) (by kernel_rfl) rfl ⟨rfl,trivial⟩
     · refine ah (fun B1 F1 w1 hS=>?_);refine aa.aU tok (.v (Ws.getD r undef)) (hS.at (i:=0) rfl (by rw[List.length_map];omega)) rfl rfl rfl rfl rfl rfl (bA (by omega)) rfl ?_;refine aa.nil ⟨rfl,?_⟩;exact qL (N0_0_2_0_0_0 V) (by kernel_rfl) rfl ⟨rfl,trivial⟩
   refine ZH.meet 13 (qB 23 37863) (fun V=>((Vr,OA Ws)::(Vc,CA s.cols)::bB Ws (b.set r q))) (fun V=>[(3,.bx [.sl 1 (v.map af)]),(6,.bx [.sl 1 [],.sl 1 [],dI 0,.sl 3 []]),(7,.d aj),(8,.bx [.v Vr,.v Vc,dI sg,af det]),(11,.d (dI c)),(12,.d (dI r)),(14,.d (af p)),(36,.d (dI most)),(37,.d (dI c)),(16,.d (dI k)),(126,.d (.v Vr)),(127,.d (dI r)),(130,.d (dI k)),(133,.d (.v Vr)),(134,.d (dI r)),(137,.d (dI k)),(140,.d (af p)),(120,.d (dI N)),(121,.d (dI k)),(131,.d (bF v))]) (fun V=>?_) (fun N0_1_0_0_0_0=>?_)
   · refine ZH.two 3 10 (by kernel_rfl) rfl rfl rfl rfl (fun _=>rfl) (fun _=>rfl) ⟨rfl,trivial⟩ ?_ ?_
     · refine ah (fun B1 F1 w1 hS=>?_);refine aa.idxs tok (hS.at (i:=0) rfl (by rw[List.length_map];omega)) rfl rfl rfl rfl (Int.natCast_nonneg _) (by show r<_;rw[List.length_map];omega) ?_;refine aa.nil ⟨rfl,?_⟩;exact qL (N1_1_0_0_0_0 V) (by kernel_rfl) rfl ⟨rfl,trivial⟩
     · refine ah (fun B1 F1 w1 hS=>?_);refine aa.idxs tok (hS.at (i:=0) rfl (by rw[List.length_map];omega)) rfl rfl rfl rfl (Int.natCast_nonneg _) (by show r<_;rw[List.length_map];omega) ?_;refine aa.nil ⟨rfl,?_⟩;exact qL (N0_1_1_0_0_0 V) (by kernel_rfl) rfl ⟨rfl,trivial⟩
   refine ZH.meet 13 (qB 23 37807) (fun V=>((Vr,OA Ws)::(Vc,CA s.cols)::bB Ws (b.set r q))) (fun V=>[(3,.bx [.sl 1 (v.map af)]),(6,.bx [.sl 1 [],.sl 1 [],dI 0,.sl 3 []]),(7,.d aj),(8,.bx [.v Vr,.v Vc,dI sg,af det]),(11,.d (dI c)),(12,.d (dI r)),(14,.d (af p)),(36,.d (dI most)),(37,.d (dI c)),(16,.d (dI k)),(126,.d (.v Vr)),(127,.d (dI r)),(130,.d (dI k)),(133,.d (.v Vr)),(134,.d (dI r)),(137,.d (dI k)),(140,.d (af p)),(120,.d (dI N)),(121,.d (dI k)),(128,.d (.v (aQ Vr (r*1))))]) (fun V=>?_) (fun N1_0_0_0_0_0=>?_)
   · refine ZH.three 4 6 10 (by kernel_rfl) rfl rfl rfl rfl rfl rfl (fun _=>rfl) (fun _=>rfl) (fun _=>rfl) ⟨rfl,trivial⟩ ?_ ?_ ?_
     · refine ah (fun B1 F1 w1 hS=>?_);refine aa.aU tok (.v (Ws.getD r undef)) (hS.at (i:=0) rfl (by rw[List.length_map];omega)) rfl rfl rfl rfl rfl rfl (bA (by omega)) rfl ?_;refine aa.nil ⟨rfl,?_⟩;exact qL (N2_0_0_0_0_0 V) (by kernel_rfl) rfl ⟨rfl,trivial⟩
     · refine au (fun B1 F1 w1=>?_);refine qU 1 rfl ?_;refine aa.nil ⟨rfl,?_⟩;exact qL (N1_1_0_0_0_0 V) (by kernel_rfl) rfl ⟨rfl,trivial⟩
     · refine ah (fun B1 F1 w1 hS=>?_);refine aa.idxs tok (hS.at (i:=0) rfl (by rw[List.length_map];omega)) rfl rfl rfl rfl (Int.natCast_nonneg _) (by show r<_;rw[List.length_map];omega) ?_;refine aa.nil ⟨rfl,?_⟩;exact qL (N1_0_1_0_0_0 V) (by kernel_rfl) rfl ⟨rfl,trivial⟩
   refine ZH.meet 14 (qB 23 37799) (fun V=>((Vr,OA Ws)::(Vc,CA s.cols)::bB Ws (b.set r q))) (fun V=>[(3,.bx [.sl 1 (v.map af)]),(6,.bx [.sl 1 [],.sl 1 [],dI 0,.sl 3 []]),(7,.d aj),(8,.bx [.v Vr,.v Vc,dI sg,af det]),(11,.d (dI c)),(12,.d (dI r)),(14,.d (af p)),(36,.d (dI most)),(37,.d (dI c)),(16,.d (dI k)),(126,.d (.v Vr)),(127,.d (dI r)),(130,.d (dI k)),(133,.d (.v Vr)),(134,.d (dI r)),(137,.d (dI k)),(140,.d (af p)),(120,.d (dI N)),(121,.d (dI k))]) (fun V=>?_) (fun N0_0_0_0_0_0=>?_)
   · refine ZH.three 3 6 10 (by kernel_rfl) rfl rfl rfl rfl rfl rfl (fun _=>rfl) (fun _=>rfl) (fun _=>rfl) ⟨rfl,trivial⟩ ?_ ?_ ?_
     · refine ah (fun B1 F1 w1 hS=>?_);refine aa.idxs tok (hS.at (i:=0) rfl (by rw[List.length_map];omega)) rfl rfl rfl rfl (Int.natCast_nonneg _) (by show r<_;rw[List.length_map];omega) ?_;refine aa.nil ⟨rfl,?_⟩;exact qL (N1_0_0_0_0_0 V) (by kernel_rfl) rfl ⟨rfl,trivial⟩
     · refine au (fun B1 F1 w1=>?_);refine qU 1 rfl ?_;refine aa.nil ⟨rfl,?_⟩;exact qL (N0_1_0_0_0_0 V) (by kernel_rfl) rfl ⟨rfl,trivial⟩
     · refine ah (fun B1 F1 w1 hS=>?_);refine aa.idxs tok (hS.at (i:=0) rfl (by rw[List.length_map];omega)) rfl rfl rfl rfl (Int.natCast_nonneg _) (by show r<_;rw[List.length_map];omega) ?_;refine aa.nil ⟨rfl,?_⟩;exact qL (N0_0_1_0_0_0 V) (by kernel_rfl) rfl ⟨rfl,trivial⟩
   exact qL (N0_0_0_0_0_0 dq) (by kernel_rfl) rfl ⟨rfl,trivial⟩
 have hkN:k=N:=by have:=of_decide_eq_false h;omega
 subst hkN;rw[show fS (w5 v row p) row k=w5 v row p by rw[← hrN];exact wj hz,← hE];refine AZ.exit ?_;have hWe:Ws.length=e.length:=by omega
 have hre:r<e.length:=by omega
 have he2c:e.length=s.rows.length:=by omega
 refine AZ.seq ?_;refine AZ.seq ?_;refine AZ.A7 (fun B1 F1 w1 hS=>?_);refine qU 2 rfl ?_;refine aa.lens tok (hS.at (i:=0) rfl (by rw[List.length_map];omega)) rfl rfl rfl rfl ?_;rw[List.length_map,hWe];refine qU 1 rfl ?_;refine aa.nil ⟨rfl,?_⟩;refine AZ.block ?_;refine AZ.aD [3,6,7,8,11,12,36,37,152,153] (fun i:Nat=>(((Vr,OA Ws)::(Vc,CA s.cols)::bB Ws (ev v e r c i)),[(3,.bx [.sl 1 (v.map af)]),(6,.bx [.sl 1 [],.sl 1 [],dI 0,.sl 3 []]),(7,.d aj),(8,.bx [.v Vr,.v Vc,dI sg,af det]),(11,.d (dI c)),(12,.d (dI r)),(36,.d (dI most)),(37,.d (dI c)),(152,.d (dI e.length)),(153,.d (dI i))])) (fun i=>i≤e.length) (fun i=>e.length-i) 0 rfl (Nat.zero_le _) (fun i hi=>?_);show AZ _ _ _ _ _ _ _ ((Vr,OA Ws)::(Vc,CA s.cols)::bB Ws (ev v e r c i)) [(3,.bx [.sl 1 (v.map af)]),(6,.bx [.sl 1 [],.sl 1 [],dI 0,.sl 3 []]),(7,.d aj),(8,.bx [.v Vr,.v Vc,dI sg,af det]),(11,.d (dI c)),(12,.d (dI r)),(36,.d (dI most)),(37,.d (dI c)),(152,.d (dI e.length)),(153,.d (dI i))];refine AZ.seq ?_;refine AZ.gv (fun B1 F1 w1=>?_);refine qU 1 rfl ?_;refine aa.nil ⟨rfl,?_⟩;refine AZ.seq ?_;refine AZ.cond rfl (fun h=>?_) (fun h=>?_)
 · have hie:i<e.length:=by have:=of_decide_eq_true h;omega
   have hm1:=lf v e r c i;have hm2:=oM (v:=v) (r:=r) (c:=c) he2 i (by omega);have hm3:=vj V (r:=r) (c:=c) he3 i;have hmi:=nI v e r c i i (.inl (Nat.le_refl _));have hmr:=nI v e r c i r (.inr rfl);have hnx:ev v e r c (i+1)=if i≠r∧vr v (ig (ev v e r c i) i c)≠0 then (ev v e r c i).set i (mY v ((ev v e r c i).getD i []) ((ev v e r c i).getD r []) (ig (ev v e r c i) i c)) else ev v e r c i:=rfl
   have gV:ig (ev v e r c i) i c=ig e i c:=DA v e r c i c;generalize ev v e r c i=m at *;refine AZ.skip ?_;refine AZ.seq ?_;refine AZ.block ?_;refine AZ.seq ?_;refine AZ.gv (fun B1 F1 w1=>?_);refine qU 2 rfl ?_;refine aa.nil ⟨rfl,?_⟩;refine AZ.seq ?_;refine AZ.any aJ (mH.zn 16 (by kernel_rfl) (fun B1 F1 w1 hS=>?_));have hS0:=hS.at (i:=0) rfl (by rw[List.length_map];omega);refine qP 3 rfl ?_;by_cases hir:i=r
   · rw[if_neg (fun g=>g.1 hir)] at hnx;rw[bne_eq_false_iff_eq.2 (show (i:Int)=(r:Int) by omega)];refine qP 13 rfl ?_;refine ae.nil ⟨rfl,?_⟩;refine ai.nil ?_;refine AZ.ao rfl ?_;refine AZ.skip ?_;refine AZ.gv (fun B1 F1 w1=>?_);refine qU 1 rfl ?_;rw[aq (x:=(i:Int)+1) (by omega) (by omega)];refine qU 1 rfl ?_;refine aa.nil ⟨rfl,?_⟩;exact⟨i+1,Prod.ext (show ((Vr,OA Ws)::(Vc,CA s.cols)::bB Ws m)=((Vr,OA Ws)::(Vc,CA s.cols)::bB Ws (ev v e r c (i+1))) by rw[hnx]) rfl,hie,by omega⟩
   have hmiN:(m.getD i []).length=k:=hm2 i (by omega);have hmrN:(m.getD r []).length=k:=hm2 r (by omega);have hgi:=gZ (Vs:=Ws) (a:=m) (j:=i) (by omega) (by omega);have hgr2:=gZ (Vs:=Ws) (a:=m) (j:=r) (by omega) (by omega);have hS1:=hS.at (i:=i+2) hgi (by rw[List.length_map];omega);have cs:=kV V (hm3 i c) (by rw[gV];exact oks i (by omega) (by omega));have okt2:=okt i (by omega) (by omega);rw[← gV,← hmi,← hmr] at okt2;rw[bne_iff_ne.2 (show (i:Int)≠(r:Int) by omega)];refine qP 5 rfl ?_;refine ae.idxs tok hS0 rfl rfl rfl rfl rfl (Int.natCast_nonneg i) (by rw[List.length_map];omega) ?_;refine ae.aU tok (.v (Ws.getD i undef)) hS0 rfl rfl rfl rfl rfl rfl rfl (bA (by omega)) rfl ?_;refine qP 1 rfl ?_;refine ae.idxs tok hS1 rfl rfl rfl rfl rfl (Int.natCast_nonneg c) (by rw[List.length_map];omega) ?_;refine ae.aU tok (af (ig m i c)) hS1 rfl rfl rfl rfl rfl rfl rfl (hel hm2 (by omega) c hcN) rfl ?_;refine ae.call tok rfl rfl rfl rfl rfl cs ?_;refine qP 2 rfl ?_;refine ae.nil ⟨rfl,?_⟩;refine ai.nil ?_;refine AZ.cond rfl (fun h=>?_) (fun h=>?_);rotate_left
   · have hg:vr v (ig m i c)=0:=bne_eq_false_iff_eq.1 h;rw[if_neg (fun g=>g.2 hg)] at hnx;refine AZ.skip ?_;refine AZ.gv (fun B1 F1 w1=>?_);refine qU 1 rfl ?_;rw[aq (x:=(i:Int)+1) (by omega) (by omega)];refine qU 1 rfl ?_;refine aa.nil ⟨rfl,?_⟩;exact⟨i+1,Prod.ext (show ((Vr,OA Ws)::(Vc,CA s.cols)::bB Ws m)=((Vr,OA Ws)::(Vc,CA s.cols)::bB Ws (ev v e r c (i+1))) by rw[hnx]) rfl,hie,by omega⟩
   have hg:vr v (ig m i c)≠0:=bne_iff_ne.1 h;rw[if_pos ⟨hir,hg⟩] at hnx;have ct:=rA (Ws.getD i undef) (Ws.getD r undef) V (xs:=m.getD i []) (ys:=m.getD r []) (c:=ig m i c) (by omega) (by omega) (by omega) (hm3 i) (hm3 r) (hm3 i c) (okt2 (by rw[gV] at hg ⊢; exact hg));refine AZ.seq ?_;refine AZ.any aJ (mH.zn 19 (by kernel_rfl) (fun B1 F1 w1 hS=>?_));have hS0:=hS.at (i:=0) rfl (by rw[List.length_map];omega);have hS1:=hS.at (i:=i+2) hgi (by rw[List.length_map];omega);refine qP 4 rfl ?_;refine ae.idxs tok hS0 rfl rfl rfl rfl rfl (Int.natCast_nonneg i) (by rw[List.length_map];omega) ?_;refine ae.aU tok (.v (Ws.getD i undef)) hS0 rfl rfl rfl rfl rfl rfl rfl (bA (by omega)) rfl ?_;refine qP 3 rfl ?_;refine ae.idxs tok hS0 rfl rfl rfl rfl rfl (Int.natCast_nonneg r) (by rw[List.length_map];omega) ?_;refine ae.aU tok (.v (Ws.getD r undef)) hS0 rfl rfl rfl rfl rfl rfl rfl (bA (by omega)) rfl ?_;refine qP 3 rfl ?_;refine ae.idxs tok hS0 rfl rfl rfl rfl rfl (Int.natCast_nonneg i) (by rw[List.length_map];omega) ?_;refine ae.aU tok (.v (Ws.getD i undef)) hS0 rfl rfl rfl rfl rfl rfl rfl (bA (by omega)) rfl ?_;refine qP 1 rfl ?_;refine ae.idxs tok hS1 rfl rfl rfl rfl rfl (Int.natCast_nonneg c) (by rw[List.length_map];omega) ?_;refine ae.aU tok (af (ig m i c)) hS1 rfl rfl rfl rfl rfl rfl rfl (hel hm2 (by omega) c hcN) rfl ?_;refine ae.nil ⟨rfl,?_⟩;refine ai.to [172,177,182,190,3,6,7,8,11,12,36,37,152,153] [(172,.d (bF v)),(177,.d (.v (Ws.getD i undef))),(182,.d (.v (Ws.getD r undef))),(190,.d (af (ig m i c))),(3,.bx [.sl 1 (v.map af)]),(6,.bx [.sl 1 [],.sl 1 [],dI 0,.sl 3 []]),(7,.d aj),(8,.bx [.v Vr,.v Vc,dI sg,af det]),(11,.d (dI c)),(12,.d (dI r)),(36,.d (dI most)),(37,.d (dI c)),(152,.d (dI e.length)),(153,.d (dI i))] rfl ?_;refine ai.gu tok [i+2,r+2] rfl rfl rfl rfl (Gg hgi hgr2) (by simp[hir]) rfl ct (fun res R1 hP=>by rw[hP.2];exact Nat.le_refl _) (fun res R1 hP=>?_);obtain ⟨rfl,rfl⟩:=hP
   refine ai.rS (R':=(Vr,OA Ws)::(Vc,CA s.cols)::bB Ws (ev v e r c (i+1))) (by
    show ((Vr,OA Ws)::(Vc,CA s.cols)::((bB Ws m).set i _).set r _)++[]=_
    rw[List.append_nil,Cv (by omega) (by omega) (by omega) hir,hnx]) ?_
   refine ai.cut 1 rfl (fun B1 F1 w1=>?_);refine qU 1 rfl ?_;refine aa.nil ⟨rfl,?_⟩;refine ai.nil ?_;refine AZ.seq ?_;refine AZ.gv (fun B1 F1 w1=>?_);refine qU 1 rfl ?_;refine aa.err tok rfl rfl rfl rfl rfl ?_;refine aa.nil ⟨rfl,?_⟩;refine AZ.ao rfl ?_;refine AZ.skip ?_;refine AZ.gv (fun B1 F1 w1=>?_);refine qU 1 rfl ?_;rw[aq (x:=(i:Int)+1) (by omega) (by omega)];refine qU 1 rfl ?_;refine aa.nil ⟨rfl,?_⟩;exact⟨i+1,rfl,hie,by omega⟩
 have hie:i=e.length:=by have:=of_decide_eq_false h;omega
 subst hie;refine AZ.exit ?_;refine AZ.region ?_;refine ai.cut 4 rfl (fun B1 F1 w1=>?_);refine qU 3 rfl ?_;refine aa.mF tok rfl rfl rfl rfl rfl ?_;refine aa.nil ⟨rfl,?_⟩;refine ai.dy 198 1 rfl rfl rfl ?_;refine ai.cut 1 rfl (fun B1 F1 w1=>?_);refine aa.lR tok rfl rfl rfl rfl rfl rfl (by show ((s.cols.map (fun c:Nat=>dI c)).length+1)*8≤_;rw[List.length_map];omega) (by show (s.cols.map (fun c:Nat=>dI c)).length+1≤_;rw[List.length_map];omega) ?_;refine aa.nil ⟨rfl,?_⟩;refine ai.wu 201 1 rfl rfl rfl rfl (fun Vq=>?_)
 refine ai.rS (R':=(Vr,OA Ws)::(Vq,CA (s.cols++[c]))::bB Ws (ev v e r c e.length)) (by
  show (Vr,OA Ws)::(Vq,AV.ow 3 (s.cols.map (fun c:Nat=>dI c)++[dI c]))::bB Ws (ev v e r c e.length)=_
  rw[show s.cols.map (fun c:Nat=>dI c)++[dI (c:Int)]=(s.cols++[c]).map (fun c:Nat=>dI c) by simp]) ?_
 refine ai.cut 2 rfl (fun B1 F1 w1=>?_);refine qU 2 rfl ?_;refine aa.nil ⟨rfl,?_⟩;refine ai.nil ?_;refine AZ.gv (fun B1 F1 w1=>?_);refine qU 1 rfl ?_;rw[aq (x:=(c:Int)+1) (by omega) (by omega)];refine qU 1 rfl ?_;refine aa.nil ⟨rfl,?_⟩;exact⟨(c+1,Vr,Vq,Ws),by rw[hst];rfl,⟨hcm,by show Ws.length=a.length;omega⟩,by show most-(c+1)<most-c;omega⟩
end Lift
namespace Lift
open Go Go.Proofs
theorem nt(v:List NQ)(most:Nat)(hm:most≤1000000):Pure Tryz.prog 89 [bF v,jL [],dI most] (.tu [DD ⟨[],[],1,[1]⟩,aj]):=by
 refine qJ 205 Tryz.func89 rfl rfl rfl rfl (by kernel_rfl) (fun B F0 w0=>?_);have cone:=gi (Qr ((1:Int):Rat)) (k:=1) (fv _ (by have:=fy;rw[show ((1:Int):Rat)=1 from rfl];omega)) (by decide) (by decide) (wY _);rw[bV,show uF ((1:Int):Rat)=[1] from rfl] at cone;refine qX 3 rfl ?_;refine qI (AW.region ?_);refine aa.call tok rfl rfl rfl rfl (fu 1 (by decide) (by decide)) ?_;refine aa.call tok rfl rfl rfl rfl cone ?_;refine qU 3 rfl ?_;refine qI ?_;refine qX 3 rfl ?_;refine aa.nil ?_;refine AW.block ?_;refine AW.aD [2,3,6,7,8,22,23,24] (fun _:Unit=>[(2,.d (dI most)),(3,.bx [.sl 1 (v.map af)]),(6,.bx [.sl 1 [],.sl 1 [],dI 0,.sl 3 []]),(7,.d aj),(8,.bx [.sl 1 [],.sl 1 [],dI 1,af [1]]),(22,.d (jL [])),(23,.d (dI 0)),(24,.d (dI 0))]) (fun _=>True) (fun _=>0) () rfl trivial (fun _ _=>?_);show AW _ _ _ _ _ _ _ [(2,.d (dI most)),(3,.bx [.sl 1 (v.map af)]),(6,.bx [.sl 1 [],.sl 1 [],dI 0,.sl 3 []]),(7,.d aj),(8,.bx [.sl 1 [],.sl 1 [],dI 1,af [1]]),(22,.d (jL [])),(23,.d (dI 0)),(24,.d (dI 0))];refine qX 1 rfl ?_;refine qI ?_;refine AW.ao rfl ?_;refine AW.exit (AW.seq ?_);refine qX 2 rfl ?_;refine aa.nil ?_;refine AW.block ?_;refine AW.aD [3,6,7,8,36,37] (fun c:Nat=>[(3,.bx [.sl 1 (v.map af)]),(6,.bx [.sl 1 [],.sl 1 [],dI 0,.sl 3 []]),(7,.d aj),(8,.bx [.sl 1 [],.sl 1 [],dI 1,af [1]]),(36,.d (dI most)),(37,.d (dI c))]) (fun c=>c≤most) (fun c=>most-c) 0 rfl (Nat.zero_le _) (fun c hc=>?_);show AW _ _ _ _ _ _ _ [(3,.bx [.sl 1 (v.map af)]),(6,.bx [.sl 1 [],.sl 1 [],dI 0,.sl 3 []]),(7,.d aj),(8,.bx [.sl 1 [],.sl 1 [],dI 1,af [1]]),(36,.d (dI most)),(37,.d (dI c))];refine qX 1 rfl ?_;refine qI ?_;refine AW.cond rfl (fun h=>?_) (fun h=>?_);rotate_left
 · refine AW.exit ?_;refine qX 3 rfl ?_;exact qN rfl
 have hcm:c<most:=by have:=of_decide_eq_true h;omega
 refine AW.skip (AW.seq (AW.block ?_));refine qX 2 rfl ?_;refine qK 4 rfl ?_;refine qK 2 rfl ?_;refine aa.nil ?_;refine AW.cut [3,6,7,8,12,13,36,37] (fun _:Unit=>[(3,.bx [.sl 1 (v.map af)]),(6,.bx [.sl 1 [],.sl 1 [],dI 0,.sl 3 []]),(7,.d aj),(8,.bx [.sl 1 [],.sl 1 [],dI 1,af [1]]),(12,.d (dI 0)),(13,.d (dI 0)),(36,.d (dI most)),(37,.d (dI c))]) (fun _=>True) ?_ (fun _ _=>?_)
 · refine AW.block ?_;refine AW.aD [3,6,7,8,11,12,13,36,37] (fun _:Unit=>[(3,.bx [.sl 1 (v.map af)]),(6,.bx [.sl 1 [],.sl 1 [],dI 0,.sl 3 []]),(7,.d aj),(8,.bx [.sl 1 [],.sl 1 [],dI 1,af [1]]),(11,.d (dI c)),(12,.d (dI 0)),(13,.d (dI 0)),(36,.d (dI most)),(37,.d (dI c))]) (fun _=>True) (fun _=>0) () rfl trivial (fun _ _=>?_);show AW _ _ _ _ _ _ _ [(3,.bx [.sl 1 (v.map af)]),(6,.bx [.sl 1 [],.sl 1 [],dI 0,.sl 3 []]),(7,.d aj),(8,.bx [.sl 1 [],.sl 1 [],dI 1,af [1]]),(11,.d (dI c)),(12,.d (dI 0)),(13,.d (dI 0)),(36,.d (dI most)),(37,.d (dI c))];refine AW.seq (AW.seq ?_);refine AW.draw aJ 18 (by kernel_rfl) ?_;refine qP 18 rfl ?_;refine ae.nil ?_;refine aa.nil ?_;refine AW.ao rfl ?_;exact AW.exit ⟨(),rfl,trivial⟩
 show AW _ _ _ _ _ _ _ [(3,.bx [.sl 1 (v.map af)]),(6,.bx [.sl 1 [],.sl 1 [],dI 0,.sl 3 []]),(7,.d aj),(8,.bx [.sl 1 [],.sl 1 [],dI 1,af [1]]),(12,.d (dI 0)),(13,.d (dI 0)),(36,.d (dI most)),(37,.d (dI c))];refine AW.seq ?_;refine qX 5 rfl ?_;refine aa.nil ?_;refine AW.az rfl ?_;refine AW.exit ?_;refine qT 1 rfl ?_;rw[aq (x:=(c:Int)+1) (by omega) (by omega)];refine qU 1 rfl ?_;refine aa.nil ?_;exact⟨c+1,rfl,hcm,by omega⟩
def CZ(v:List NQ)(a:gY):lS:=fB v a (fK a)
structure Gc (v:List NQ) (a:gY):Prop where
 l:a.length≤32
 r:iF (fK a) a
 c:fK a≤32
 lt:zE v.length a
theorem rB{v:List NQ}(V:qe v){a:gY}{N most:Nat}(ha:a.length≤1000000)(hN:N≤1000000)(hmost:most≤N)(hr:iF N a)(hl:zE v.length a)(ok: ∀c,c<most→sh v (fB v a c) c):
  Pure Tryz.prog 89 [bF v,jL a,dI most] (.tu [DD (fB v a most),aj]):=by
 by_cases h0:a.length=0
 · rw[List.length_eq_zero_iff.1 h0,yU];exact nt v most (by omega)
 · exact ot V (by omega) ha hN hmost hr hl ok
def sD(a:gY):List (List (List RD)):=a.map (fun r=>r.map fP)
theorem vP(a:gY):(sD a).length=a.length:=List.length_map ..
theorem m8(a:gY)(i:Nat):(sD a).getD i []=(a.getD i []).map fP:=by
 unfold sD;rw[List.getD_eq_getElem?_getD,List.getElem?_map,List.getD_eq_getElem?_getD];cases a[i]? with
 | none=>rfl
 | some x=>rfl
theorem yV(a:gY)(i k:Nat):((sD a).getD i []).getD k []=fP (ig a i k):=by
 rw[m8];unfold ig;generalize a.getD i []=r;rw[List.getD_eq_getElem?_getD,List.getElem?_map,List.getD_eq_getElem?_getD];cases r[k]? with
 | none=>rfl
 | some x=>rfl
theorem Eo(a:gY):yA (sD a)=jL a:=by
 show D.sl 1 ((a.map _).map Co)=D.sl 1 (a.map gI);rw[List.map_map]
 congr 1
 refine List.map_congr_left fun r _=>?_;show D.sl 1 ((r.map fP).map aY)=D.sl 1 (r.map af);rw[List.map_map]
 congr 1
 exact List.map_congr_left fun x _=>jW x
theorem th(a:gY):fK (sD a)=fK a:=by unfold fK;rw[m8,List.length_map]
theorem lr.s{m:Nat}{v:List NQ}(V:lr m v)(hk:pb v.length m):Gb m (lO v):=by
 have hl5:=V.l5;have hm2:=V.m2;have T:=V.raw.1;exact⟨fun i hi _=>by rw[m7];exact uk (V.sz i),V.m1,by rw[dO];omega,T.ll,fun _=>by rw[dO];exact hk,hm2⟩
theorem Gc.raw{m:Nat}{v:List NQ}{a:gY}(V:lr m v)(G:Gc v a)(hs: ∀i k,aC m (ig a i k)):E0 m (lO v) (sD a)∧za (lO v) (sD a)=0:=by
 have hl:=G.l;have hc:=G.c
 have hrow: ∀i,((sD a).getD i []).length≤32:=fun i=>by
  rw[m8,List.length_map];by_cases h:i<a.length
  · rw[G.r i h];exact hc
  · rw[u7 (by omega)];exact Nat.zero_le _
 refine⟨⟨fun i k=>by rw[yV];exact jX V (G.lt i k) (hs i k),by rw[vP];omega,fun i=>Nat.le_trans (hrow i) (by decide)⟩,?_⟩;unfold za;rw[if_neg (by rw[V.raw.2];simp)];unfold Dc;split
 · rfl
 rw[vP,th,if_neg (by omega)]
 have e1:fE (Cy (sD a)) (a.length-0) 0=0:=k8 fun j hj=>by
  unfold Cy;rw[th,m8,List.length_map,G.r j (by omega)];exact if_neg (fun h=>h rfl)
 rw[e1,if_neg (by decide)];refine k8 fun j hj=>?_;unfold ug;refine k8 fun k hk=>?_;rw[yV];exact ck1 V (G.lt j k)
theorem rC{m:Nat}{v:List NQ}{a:gY}(V:lr m v)(hk:pb v.length m)(G:Gc v a)(hs: ∀i k,aC m (ig a i k))(ok: ∀c,c<fK a→sh v (fB v a c) c):Pure Tryz.prog 46 [bF v,jL a] (.tu [dI (CZ v a).cols.length,aj]):=by
 refine qJ 29 Tryz.func46 rfl rfl rfl rfl (by kernel_rfl) (fun B F0 w0=>?_);obtain ⟨r1,r2⟩:=G.raw V hs;have cc:=pJ (V.s hk) r1;rw[r2,qH,Eo] at cc;have hGl:=G.l;have hGc:=G.c;have cr:=rB V.a (most:=fK a) (by omega) (by omega) (Nat.le_refl _) G.r G.lt ok;have hcl:=(xy V.a G.r G.lt (fK a)).cl;change Pure _ _ _ (.tu [DD (CZ v a),aj]) at cr;generalize CZ v a=s at cr ⊢;obtain ⟨rows,cols,sg,det⟩:=s;refine qX 3 rfl ?_;refine qI ?_;refine qX 2 rfl ?_;refine aa.call tok rfl rfl rfl rfl cc ?_;refine qU 1 rfl ?_;refine qK 1 rfl ?_;refine aa.err tok rfl rfl rfl rfl rfl ?_;refine aa.nil ?_;refine AW.ao rfl ?_
 · refine AW.skip (AW.seq ?_);refine AW.l7 tok aJ [(7,true),(1,false),(1,true)] 9 [7] (by kernel_rfl) ⟨rfl,?_⟩;refine qP 3 rfl ?_;refine ae.call tok rfl rfl rfl rfl rfl (nu a) ?_;refine ae.call tok rfl rfl rfl rfl rfl cr ?_;refine qP 2 rfl ?_;refine ae.nil ⟨rfl,?_⟩;refine qP 1 rfl ?_;refine ae.nil ⟨rfl,?_⟩;refine qP 1 rfl ?_;refine ae.nil ⟨_,l8.cons (.bx rfl) (l8.nil),?_⟩;refine qU 1 rfl ?_;refine qI ?_;refine qX 1 rfl ?_;refine aa.err tok rfl rfl rfl rfl rfl ?_;refine aa.nil ?_;refine AW.ao rfl ?_
   · refine AW.skip ?_;refine qX 2 rfl ?_;refine qU 1 rfl ?_;rw[List.length_map];refine qU 2 rfl ?_;exact qN rfl
end Lift
namespace Lift
open Go Go.Proofs
def mu(l:Lkg)(a:Asm):gY:=gJ (a.rt.map ar) l a l.joints.length
def EC(l:Lkg)(a:Asm):D:=if fo l a≠0 then .tu [.sl 1 [],sq (fo l a)] else .tu [jL (mu l a),aj]
theorem sL(l:Lkg)(a:Asm)(hl:l.ok 16)(ha:a.ok 16)(h2:a.rt.length≤2)(hnb:l.bodies.length≤1000000000000):Pure Tryz.prog 14 [l.D,a.D] (EC l a):=by
 refine qJ 18 Tryz.func14 rfl rfl rfl rfl (by kernel_rfl) (fun B0 F0 w0=>?_);have c:=pf l a hl ha h2 hnb;unfold yT at c;unfold EC mu;refine qX 4 rfl ?_;refine qK 2 rfl ?_;by_cases h:fo l a≠0
 · rw[if_pos h] at c;rw[if_pos h];refine aa.call tok rfl rfl rfl rfl c ?_;refine qU 7 rfl ?_;refine qK 4 rfl ?_;exact qN rfl
 rw[if_neg h] at c;rw[if_neg h];refine aa.call tok rfl rfl rfl rfl c ?_;refine qU 7 rfl ?_;refine qK 4 rfl ?_;exact qN rfl
def yW(l:Lkg)(a:Asm)(r:Nat):D:=if fo l a≠0 then .tu [dI 0,sq (fo l a)] else .tu [dI r,aj]
theorem pg(l:Lkg)(a:Asm){r:Nat}(hl:l.ok 16)(ha:a.ok 16)(h2:a.rt.length≤2)(hnb:l.bodies.length≤1000000000000)(hR:fo l a=0→Pure Tryz.prog 46 [bF (a.rt.map ar),jL (mu l a)] (.tu [dI r,aj])):Pure Tryz.prog 23 [l.D,a.D] (yW l a r):=by
 refine qJ 25 Tryz.func23 rfl rfl rfl rfl (by kernel_rfl) (fun B0 F0 w0=>?_);have c:=pf l a hl ha h2 hnb;unfold yT at c;unfold yW;have hT:fo l a=0→se a.rt=bF (a.rt.map ar):=fun h=>(mT ha.t (uw h).tw).eq;unfold mu at hR;refine qX 4 rfl ?_;refine qK 2 rfl ?_;rcases e2:fo l a with _ | z
 rotate_left
 · rw[if_pos (by rw[e2];exact Nat.succ_ne_zero z),e2] at c;rw[if_pos (Nat.succ_ne_zero z)];refine aa.call tok rfl rfl rfl rfl c ?_;refine qU 7 rfl ?_;refine qI ?_;refine qX 1 rfl ?_;refine aa.err tok rfl rfl rfl rfl rfl ?_;refine aa.nil ?_;refine AW.az rfl ?_;refine qX 3 rfl ?_;exact qN rfl
 rw[if_neg (by rw[e2];simp)] at c;rw[if_neg (by simp)];have hR:=hR e2;rw[← hT e2] at hR;refine aa.call tok rfl rfl rfl rfl c ?_;refine qU 7 rfl ?_;refine qI ?_;refine qX 1 rfl ?_;refine aa.err tok rfl rfl rfl rfl rfl ?_;refine aa.nil ?_;refine AW.ao rfl ?_
 · refine AW.skip (AW.seq (AW.region ?_));obtain ⟨rt,bs,md⟩:=a;refine qU 3 rfl ?_;refine aa.call tok rfl rfl rfl rfl hR ?_;refine qU 4 rfl ?_;exact qN rfl
def BL(l:Lkg)(a:Asm)(r:Nat):D:=if fo l a≠0 then .tu [dI 0,sq (fo l a)] else .tu [dI (3*((l.bodies.length:Int) -1) -r),aj]
theorem rv(l:Lkg)(a:Asm){r:Nat}(hr:r≤1000000)(hl:l.ok 16)(ha:a.ok 16)(h2:a.rt.length≤2)(hnb:l.bodies.length≤1000000000000)(hR:fo l a=0→Pure Tryz.prog 46 [bF (a.rt.map ar),jL (mu l a)] (.tu [dI r,aj])):Pure Tryz.prog 11 [l.D,a.D] (BL l a r):=by
 refine qJ 24 Tryz.func11 rfl rfl rfl rfl (by kernel_rfl) (fun B0 F0 w0=>?_);have c:=pg l a hl ha h2 hnb hR;unfold yW at c;unfold BL;refine qX 4 rfl ?_;refine qK 2 rfl ?_;rcases e2:fo l a with _ | z
 rotate_left
 · rw[if_pos (by rw[e2];exact Nat.succ_ne_zero z),e2] at c;rw[if_pos (Nat.succ_ne_zero z)];refine aa.call tok rfl rfl rfl rfl c ?_;refine qU 5 rfl ?_;refine qI ?_;refine qX 1 rfl ?_;refine aa.err tok rfl rfl rfl rfl rfl ?_;refine aa.nil ?_;refine AW.az rfl ?_;refine qX 3 rfl ?_;exact qN rfl
 rw[if_neg (by rw[e2];simp)] at c;rw[if_neg (by simp)];clear hR e2;obtain ⟨ln,lb,js,lds⟩:=l;simp only[] at *;refine aa.call tok rfl rfl rfl rfl c ?_;refine qU 5 rfl ?_;refine qI ?_;refine qX 1 rfl ?_;refine aa.err tok rfl rfl rfl rfl rfl ?_;refine aa.nil ?_;refine AW.ao rfl ?_
 · refine AW.skip ?_;refine qX 3 rfl ?_;rw[List.length_map];refine qU 1 rfl ?_;rw[aq (x:=(lb.length:Int) -1) (by omega) (by omega)];refine qU 1 rfl ?_;rw[aq (x:=3*((lb.length:Int) -1)) (by omega) (by omega)];refine qU 2 rfl ?_;rw[aq (x:=3*((lb.length:Int) -1) -(r:Int)) (by omega) (by omega)];refine qU 2 rfl ?_;exact qN rfl
end Lift
namespace Lift
open Go Go.Proofs
def Ai:List RD→Nat→Nat
 | [],n=>n
 | x::r,n=>if n<100 then Ai r (n+(x.n.length+x.d.length)) else n
def dC(a:List RD):Nat:=Ai a 0
def qf(a:List RD):Prop:=a.length≤4398046511104∧ ∀i,(a.getD i default).w big
theorem AA{r:List RD}{n:Nat}(h: ¬n<100):Ai r n=n:=by
 cases r with
 | nil=>rfl
 | cons x r=>exact if_neg h
theorem wK{a:List RD}{i:Nat}(h:i<a.length):a.drop i=a.getD i default::a.drop (i+1):=by
 rw[List.drop_eq_getElem_cons h]
 congr 1
 rw[List.getD_eq_getElem?_getD,List.getElem?_eq_getElem h];rfl
theorem eD(a:List RD)(ha:qf a):Pure Tryz.prog 30 [aY a] (dI (dC a)):=by
 refine qJ 31 Tryz.func30 rfl rfl rfl rfl (by kernel_rfl) (fun B F0 w0=>?_);obtain ⟨hl,hw⟩:=ha;unfold big at hw;obtain ⟨E,hE⟩: ∃E,dC a=E:=⟨_,rfl⟩;rw[hE];refine qX 1 rfl ?_;refine qK 1 rfl ?_;refine qI ?_;refine qX 1 rfl ?_;refine aa.nil ?_;refine AW.block ?_;refine AW.aD [0,3,4] (fun s:Nat×Nat=>[(0,.d (aY a)),(3,.d (dI s.2)),(4,.d (dI s.1))]) (fun s=>s.1≤a.length∧s.2≤100+2000000000000000∧Ai (a.drop s.1) s.2=E) (fun s=>a.length-s.1) (0,0) rfl ⟨Nat.zero_le _,Nat.zero_le _,hE⟩ (fun s hs=>?_)
 · obtain ⟨i,n⟩:=s;obtain ⟨hi,hn,hsz⟩:=hs;simp only[] at hi hn hsz;show AW _ _ _ _ _ _ _ [(0,.d (aY a)),(3,.d (dI n)),(4,.d (dI i))];refine AW.seq ?_;refine qX 2 rfl ?_;refine qU 1 rfl ?_;rw[List.length_map];refine qU 2 rfl ?_;by_cases hia:i<a.length;rotate_left
   · rw[decide_eq_false (show ¬(i:Int)<(a.length:Int) by omega)];refine qU 3 rfl ?_;refine aa.nil ?_;have hii:i=a.length:=by omega
     subst hii;rw[List.drop_length] at hsz;subst hsz;refine AW.ao rfl ?_;refine AW.exit ?_;refine qX 2 rfl ?_;exact qN rfl
   rw[decide_eq_true (show (i:Int)<(a.length:Int) by omega)];refine qU 3 rfl ?_;refine aa.nil ?_;refine AW.cond rfl (fun h=>?_) (fun h=>?_)
   · have hn1:n<100:=by have:=of_decide_eq_true h;omega
     have hg:=getM RD.D (l:=a) (i:=i) hia;have w1:=(hw i).2.2.1;have w2:=(hw i).2.2.2;rw[wK hia] at hsz;have hsz:Ai (a.drop (i+1)) (n+((a.getD i default).n.length+(a.getD i default).d.length))=E:=by rw[← hsz];exact(if_pos hn1).symm
     generalize a.getD i default=x at hg w1 w2 hsz;obtain ⟨xg,xn,xd⟩:=x;simp only[] at w1 w2 hsz;refine AW.skip (AW.seq (AW.block ?_));refine AW.draw aJ 15 (by kernel_rfl) ?_;refine qP 3 rfl ?_;refine ae.idx tok (RD.D ⟨xg,xn,xd⟩) rfl rfl rfl rfl rfl (Int.natCast_nonneg i) hg ?_;refine qP 3 rfl ?_;rw[aO];refine qP 2 rfl ?_;refine ae.idx tok (RD.D ⟨xg,xn,xd⟩) rfl rfl rfl rfl rfl (Int.natCast_nonneg i) hg ?_;refine qP 3 rfl ?_;rw[aO];refine qP 1 rfl ?_;rw[aq (x:=(xn.length:Int)+(xd.length:Int)) (by omega) (by omega)];refine qP 1 rfl ?_;rw[aq (x:=(n:Int)+((xn.length:Int)+(xd.length:Int))) (by omega) (by omega)];refine ae.nil ?_;refine qU 1 rfl ?_;refine aa.nil ?_;refine qT 2 rfl ?_;rw[aq (x:=(i:Int)+1) (by omega) (by omega)];refine qU 1 rfl ?_;refine aa.nil ?_;exact⟨(i+1,n+(xn.length+xd.length)),rfl,⟨hia,by show n+(xn.length+xd.length)≤_;omega,hsz⟩,by show a.length-(i+1)<a.length-i;omega⟩
   have hn1: ¬n<100:=by have:=of_decide_eq_false h;omega
   rw[AA hn1] at hsz;subst hsz;refine AW.exit ?_;refine qX 2 rfl ?_;exact qN rfl
end Lift
namespace Lift
open Go Go.Proofs
def wg(p:Mark):Nat:=p.x.n.length+p.x.d.length+p.y.n.length+p.y.d.length
def p6(f:Nat→Nat)(n:Nat):Nat→Nat
 | 0=>n
 | k+1=>max (p6 f n k) (f k)
def qc(bs:List Body):Nat→Nat
 | 0=>0
 | i+1=>p6 (fun k=>wg ((bs.getD i default).pts.getD k default)) (qc bs i) (bs.getD i default).pts.length
def plW(p:dH)(n:Nat):Nat:=max (max (max (max n (dC p.c)) (dC p.s)) (dC p.x)) (dC p.y)
def vW(bs:List dH)(n:Nat):Nat→Nat
 | 0=>n
 | i+1=>plW (bs.getD i default) (vW bs n i)
def E9(l:Lkg)(a:Asm):Nat:=vW a.bodies (p6 (fun i=>dC (a.rt.getD i [])) (qc l.bodies l.bodies.length) a.rt.length) a.bodies.length
def FK(l:Lkg)(a:Asm):Bool:=decide (6<l.bodies.length∧l.bodies.length≤8∨8<l.joints.length∧l.joints.length≤16∨40<l.bodies.length∨40<l.joints.length∨40<l.drivers.length∨40<a.bodies.length∨2<a.rt.length)
def Ep(bs:List Body)(i:Nat):Bool:=decide (40<(bs.getD i default).pts.length)
def je(l:Lkg)(a:Asm):Bool:=FK l a||dD (Ep l.bodies) (l.bodies.length-0) 0||decide (((16:Int) -4*(a.rt.length:Int))<(E9 l a:Int))
structure AsB (a:Asm):Prop where
 rl:a.rt.length≤big
 r: ∀i,qf (a.rt.getD i [])
 bl:a.bodies.length≤big
 c: ∀i,qf (a.bodies.getD i default).c
 s: ∀i,qf (a.bodies.getD i default).s
 x: ∀i,qf (a.bodies.getD i default).x
 y: ∀i,qf (a.bodies.getD i default).y
theorem Ef{a:List RD}(ha:qf a): ∀(i n:Nat),n≤4000000000000000→Ai (a.drop i) n≤4000000000000000:=by
 intro i;obtain ⟨hl,hw⟩:=ha;unfold big at hw
 suffices h: ∀(k i n:Nat),a.length-i≤k→n≤4000000000000000→Ai (a.drop i) n≤4000000000000000 from fun n hn=>h (a.length-i) i n (Nat.le_refl _) hn
 intro k
 induction k with
 | zero =>
   intro i n hi hn;rw[List.drop_eq_nil_of_le (by omega)];exact hn
 | succ k ih =>
   intro i n hi hn;by_cases hia:i<a.length
   · rw[wK hia];show (if n<100 then _ else n)≤_;split
     · have w1:=(hw i).2.2.1;have w2:=(hw i).2.2.2;exact ih (i+1) _ (by omega) (by omega)
     · exact hn
   · rw[List.drop_eq_nil_of_le (by omega)];exact hn
theorem mZ{a:List RD}(ha:qf a):dC a≤4000000000000000:=Ef ha 0 0 (by decide)
theorem uQ{f:Nat→Nat}{n M:Nat}(hn:n≤M)(hf: ∀k,f k≤M): ∀k,p6 f n k≤M
 | 0=>hn
 | k+1=>by
   have:=uQ hn hf k;have:=hf k;show max (p6 f n k) (f k)≤M;omega
theorem tB(a b:Nat):(if (b:Int)>(a:Int) then (b:Int) else (a:Int))=((max a b:Nat):Int):=Dd a b
set_option maxHeartbeats 3200000 in
theorem rF(l:Lkg)(a:Asm){K:Nat}(hl:l.ok K)(hK:K≤big)(ha:AsB a):Pure Tryz.prog 12 [l.D,a.D] (dB (je l a)):=by
 refine qJ 172 Tryz.func12 rfl rfl rfl rfl (by kernel_rfl) (fun B F0 w0=>?_);have hnb:=hl.nb;have hnj:=hl.nj;have hnd:=hl.nd;have hlb:=hl.b;obtain ⟨hrl,har,hbl,hc,hs,hx,hy⟩:=ha;have zr:=fun i=>eD _ (har i);have zc:=fun i=>eD _ (hc i);have zs:=fun i=>eD _ (hs i);have zx:=fun i=>eD _ (hx i);have zy:=fun i=>eD _ (hy i);have yr:=fun i=>mZ (har i);have yc:=fun i=>mZ (hc i);have ys:=fun i=>mZ (hs i);have yx:=fun i=>mZ (hx i);have yy:=fun i=>mZ (hy i);clear har hc hs hx hy hl;unfold je E9 FK;obtain ⟨ln,lb,js,lds⟩:=l;obtain ⟨rt,bs,md⟩:=a;simp only[] at *;unfold big at hnb hnj hnd hrl hbl hK;show AW _ _ _ _ _ _ _ (cW 0 [D.ag [dS ln,ay lb,ak js,an lds],D.ag [.sl 1 (rt.map aY),.sl 4 (bs.map dH.D),.sl 1 (md.map (fun n=>dI n))]]);obtain ⟨E,hE⟩: ∃E,(decide (6<lb.length∧lb.length≤8∨8<js.length∧js.length≤16∨40<lb.length∨40<js.length∨40<lds.length∨40<bs.length∨2<rt.length)||dD (Ep lb) (lb.length-0) 0||decide (((16:Int) -4*(rt.length:Int))<((vW bs (p6 (fun i=>dC (rt.getD i [])) (qc lb lb.length) rt.length) bs.length:Nat):Int)))=E:=⟨_,rfl⟩;rw[hE]
 have wB: ∀i,qc lb i≤4000000000000000:=fun i=>by
  induction i with
  | zero=>exact Nat.zero_le _
  | succ i ih =>
    refine uQ ih (fun k=>?_) _;obtain ⟨_,h1,h2⟩:=(hlb i).2.2 k;have a1:=h1.2.2.1;have a2:=h1.2.2.2;have a3:=h2.2.2.1;have a4:=h2.2.2.2;unfold wg;omega
 have wM: ∀i k,p6 (fun k=>wg ((lb.getD i default).pts.getD k default)) (qc lb i) k≤4000000000000000:=fun i k=>uQ (wB i) (fun k=>by
   obtain ⟨_,h1,h2⟩:=(hlb i).2.2 k;have a1:=h1.2.2.1;have a2:=h1.2.2.2;have a3:=h2.2.2.1;have a4:=h2.2.2.2;unfold wg
   omega) k
 refine qX 3 rfl ?_;refine aa.nil ?_;refine AW.cut [2,3] (fun _:Unit=>[(2,.bx [dS ln,ay lb,ak js,an lds]),(3,.bx [.sl 1 (rt.map aY),.sl 4 (bs.map dH.D),.sl 1 (md.map (fun n=>dI n))])]) (fun _=> ¬(6<lb.length∧lb.length≤8∨8<js.length∧js.length≤16∨40<lb.length∨40<js.length∨40<lds.length∨40<bs.length∨2<rt.length)) ?_ (fun _ hc=>?_)
 · refine qX 3 rfl ?_;rw[List.length_map];refine qU 1 rfl ?_;by_cases c1:6<lb.length
   · rw[decide_eq_true (show (6:Int)<(lb.length:Int) by omega)];refine qU 4 rfl ?_;rw[List.length_map];refine qU 1 rfl ?_;by_cases c2:lb.length≤8
     · rw[decide_eq_true (show (lb.length:Int)≤(8:Int) by omega)];refine qU 44 rfl ?_;refine aa.nil ?_;have hEt:E=true:=by rw[← hE,decide_eq_true (by omega)];rfl
       subst hEt;refine AW.az rfl ?_;refine qX 1 rfl ?_;exact qN rfl
     rw[decide_eq_false (show ¬(lb.length:Int)≤(8:Int) by omega)];refine qU 2 rfl ?_;refine qU 3 rfl ?_;rw[List.length_map];refine qU 1 rfl ?_;by_cases c3:8<js.length
     · rw[decide_eq_true (show (8:Int)<(js.length:Int) by omega)];refine qU 4 rfl ?_;rw[List.length_map];refine qU 1 rfl ?_;by_cases c4:js.length≤16
       · rw[decide_eq_true (show (js.length:Int)≤(16:Int) by omega)];refine qU 33 rfl ?_;refine aa.nil ?_;have hEt:E=true:=by rw[← hE,decide_eq_true (by omega)];rfl
         subst hEt;refine AW.az rfl ?_;refine qX 1 rfl ?_;exact qN rfl
       rw[decide_eq_false (show ¬(js.length:Int)≤(16:Int) by omega)];refine qU 3 rfl ?_;refine qU 3 rfl ?_;rw[List.length_map];refine qU 1 rfl ?_;by_cases c5:40<lb.length
       · rw[decide_eq_true (show (40:Int)<(lb.length:Int) by omega)];refine qU 26 rfl ?_;refine aa.nil ?_;have hEt:E=true:=by rw[← hE,decide_eq_true (by omega)];rfl
         subst hEt;refine AW.az rfl ?_;refine qX 1 rfl ?_;exact qN rfl
       rw[decide_eq_false (show ¬(40:Int)<(lb.length:Int) by omega)];refine qU 2 rfl ?_;refine qU 3 rfl ?_;rw[List.length_map];refine qU 1 rfl ?_;by_cases c6:40<js.length
       · rw[decide_eq_true (show (40:Int)<(js.length:Int) by omega)];refine qU 20 rfl ?_;refine aa.nil ?_;have hEt:E=true:=by rw[← hE,decide_eq_true (by omega)];rfl
         subst hEt;refine AW.az rfl ?_;refine qX 1 rfl ?_;exact qN rfl
       rw[decide_eq_false (show ¬(40:Int)<(js.length:Int) by omega)];refine qU 2 rfl ?_;refine qU 3 rfl ?_;rw[List.length_map];refine qU 1 rfl ?_;by_cases c7:40<lds.length
       · rw[decide_eq_true (show (40:Int)<(lds.length:Int) by omega)];refine qU 14 rfl ?_;refine aa.nil ?_;have hEt:E=true:=by rw[← hE,decide_eq_true (by omega)];rfl
         subst hEt;refine AW.az rfl ?_;refine qX 1 rfl ?_;exact qN rfl
       rw[decide_eq_false (show ¬(40:Int)<(lds.length:Int) by omega)];refine qU 2 rfl ?_;refine qU 3 rfl ?_;rw[List.length_map];refine qU 1 rfl ?_;by_cases c8:40<bs.length
       · rw[decide_eq_true (show (40:Int)<(bs.length:Int) by omega)];refine qU 8 rfl ?_;refine aa.nil ?_;have hEt:E=true:=by rw[← hE,decide_eq_true (by omega)];rfl
         subst hEt;refine AW.az rfl ?_;refine qX 1 rfl ?_;exact qN rfl
       rw[decide_eq_false (show ¬(40:Int)<(bs.length:Int) by omega)];refine qU 2 rfl ?_;refine qU 4 rfl ?_;rw[List.length_map];refine qU 1 rfl ?_;by_cases c9:2<rt.length
       · rw[decide_eq_true (show (2:Int)<(rt.length:Int) by omega)];refine qU 1 rfl ?_;refine aa.nil ?_;have hEt:E=true:=by rw[← hE,decide_eq_true (by omega)];rfl
         subst hEt;refine AW.az rfl ?_;refine qX 1 rfl ?_;exact qN rfl
       rw[decide_eq_false (show ¬(2:Int)<(rt.length:Int) by omega)];refine qU 1 rfl ?_;refine aa.nil ?_;refine AW.ao rfl ?_;refine AW.skip ?_;exact⟨(),rfl,by omega⟩
     rw[decide_eq_false (show ¬(8:Int)<(js.length:Int) by omega)];refine qU 8 rfl ?_;refine qU 3 rfl ?_;rw[List.length_map];refine qU 1 rfl ?_;by_cases c5:40<lb.length
     · rw[decide_eq_true (show (40:Int)<(lb.length:Int) by omega)];refine qU 26 rfl ?_;refine aa.nil ?_;have hEt:E=true:=by rw[← hE,decide_eq_true (by omega)];rfl
       subst hEt;refine AW.az rfl ?_;refine qX 1 rfl ?_;exact qN rfl
     rw[decide_eq_false (show ¬(40:Int)<(lb.length:Int) by omega)];refine qU 2 rfl ?_;refine qU 3 rfl ?_;rw[List.length_map];refine qU 1 rfl ?_;by_cases c6:40<js.length
     · rw[decide_eq_true (show (40:Int)<(js.length:Int) by omega)];refine qU 20 rfl ?_;refine aa.nil ?_;have hEt:E=true:=by rw[← hE,decide_eq_true (by omega)];rfl
       subst hEt;refine AW.az rfl ?_;refine qX 1 rfl ?_;exact qN rfl
     rw[decide_eq_false (show ¬(40:Int)<(js.length:Int) by omega)];refine qU 2 rfl ?_;refine qU 3 rfl ?_;rw[List.length_map];refine qU 1 rfl ?_;by_cases c7:40<lds.length
     · rw[decide_eq_true (show (40:Int)<(lds.length:Int) by omega)];refine qU 14 rfl ?_;refine aa.nil ?_;have hEt:E=true:=by rw[← hE,decide_eq_true (by omega)];rfl
       subst hEt;refine AW.az rfl ?_;refine qX 1 rfl ?_;exact qN rfl
     rw[decide_eq_false (show ¬(40:Int)<(lds.length:Int) by omega)];refine qU 2 rfl ?_;refine qU 3 rfl ?_;rw[List.length_map];refine qU 1 rfl ?_;by_cases c8:40<bs.length
     · rw[decide_eq_true (show (40:Int)<(bs.length:Int) by omega)];refine qU 8 rfl ?_;refine aa.nil ?_;have hEt:E=true:=by rw[← hE,decide_eq_true (by omega)];rfl
       subst hEt;refine AW.az rfl ?_;refine qX 1 rfl ?_;exact qN rfl
     rw[decide_eq_false (show ¬(40:Int)<(bs.length:Int) by omega)];refine qU 2 rfl ?_;refine qU 4 rfl ?_;rw[List.length_map];refine qU 1 rfl ?_;by_cases c9:2<rt.length
     · rw[decide_eq_true (show (2:Int)<(rt.length:Int) by omega)];refine qU 1 rfl ?_;refine aa.nil ?_;have hEt:E=true:=by rw[← hE,decide_eq_true (by omega)];rfl
       subst hEt;refine AW.az rfl ?_;refine qX 1 rfl ?_;exact qN rfl
     rw[decide_eq_false (show ¬(2:Int)<(rt.length:Int) by omega)];refine qU 1 rfl ?_;refine aa.nil ?_;refine AW.ao rfl ?_;refine AW.skip ?_;exact⟨(),rfl,by omega⟩
   rw[decide_eq_false (show ¬(6:Int)<(lb.length:Int) by omega)];refine qU 7 rfl ?_;refine qU 3 rfl ?_;rw[List.length_map];refine qU 1 rfl ?_;by_cases c3:8<js.length
   · rw[decide_eq_true (show (8:Int)<(js.length:Int) by omega)];refine qU 4 rfl ?_;rw[List.length_map];refine qU 1 rfl ?_;by_cases c4:js.length≤16
     · rw[decide_eq_true (show (js.length:Int)≤(16:Int) by omega)];refine qU 33 rfl ?_;refine aa.nil ?_;have hEt:E=true:=by rw[← hE,decide_eq_true (by omega)];rfl
       subst hEt;refine AW.az rfl ?_;refine qX 1 rfl ?_;exact qN rfl
     rw[decide_eq_false (show ¬(js.length:Int)≤(16:Int) by omega)];refine qU 3 rfl ?_;refine qU 3 rfl ?_;rw[List.length_map];refine qU 1 rfl ?_;by_cases c5:40<lb.length
     · rw[decide_eq_true (show (40:Int)<(lb.length:Int) by omega)];refine qU 26 rfl ?_;refine aa.nil ?_;have hEt:E=true:=by rw[← hE,decide_eq_true (by omega)];rfl
       subst hEt;refine AW.az rfl ?_;refine qX 1 rfl ?_;exact qN rfl
     rw[decide_eq_false (show ¬(40:Int)<(lb.length:Int) by omega)];refine qU 2 rfl ?_;refine qU 3 rfl ?_;rw[List.length_map];refine qU 1 rfl ?_;by_cases c6:40<js.length
     · rw[decide_eq_true (show (40:Int)<(js.length:Int) by omega)];refine qU 20 rfl ?_;refine aa.nil ?_;have hEt:E=true:=by rw[← hE,decide_eq_true (by omega)];rfl
       subst hEt;refine AW.az rfl ?_;refine qX 1 rfl ?_;exact qN rfl
     rw[decide_eq_false (show ¬(40:Int)<(js.length:Int) by omega)];refine qU 2 rfl ?_;refine qU 3 rfl ?_;rw[List.length_map];refine qU 1 rfl ?_;by_cases c7:40<lds.length
     · rw[decide_eq_true (show (40:Int)<(lds.length:Int) by omega)];refine qU 14 rfl ?_;refine aa.nil ?_;have hEt:E=true:=by rw[← hE,decide_eq_true (by omega)];rfl
       subst hEt;refine AW.az rfl ?_;refine qX 1 rfl ?_;exact qN rfl
     rw[decide_eq_false (show ¬(40:Int)<(lds.length:Int) by omega)];refine qU 2 rfl ?_;refine qU 3 rfl ?_;rw[List.length_map];refine qU 1 rfl ?_;by_cases c8:40<bs.length
     · rw[decide_eq_true (show (40:Int)<(bs.length:Int) by omega)];refine qU 8 rfl ?_;refine aa.nil ?_;have hEt:E=true:=by rw[← hE,decide_eq_true (by omega)];rfl
       subst hEt;refine AW.az rfl ?_;refine qX 1 rfl ?_;exact qN rfl
     rw[decide_eq_false (show ¬(40:Int)<(bs.length:Int) by omega)];refine qU 2 rfl ?_;refine qU 4 rfl ?_;rw[List.length_map];refine qU 1 rfl ?_;by_cases c9:2<rt.length
     · rw[decide_eq_true (show (2:Int)<(rt.length:Int) by omega)];refine qU 1 rfl ?_;refine aa.nil ?_;have hEt:E=true:=by rw[← hE,decide_eq_true (by omega)];rfl
       subst hEt;refine AW.az rfl ?_;refine qX 1 rfl ?_;exact qN rfl
     rw[decide_eq_false (show ¬(2:Int)<(rt.length:Int) by omega)];refine qU 1 rfl ?_;refine aa.nil ?_;refine AW.ao rfl ?_;refine AW.skip ?_;exact⟨(),rfl,by omega⟩
   rw[decide_eq_false (show ¬(8:Int)<(js.length:Int) by omega)];refine qU 8 rfl ?_;refine qU 3 rfl ?_;rw[List.length_map];refine qU 1 rfl ?_;by_cases c5:40<lb.length
   · rw[decide_eq_true (show (40:Int)<(lb.length:Int) by omega)];refine qU 26 rfl ?_;refine aa.nil ?_;have hEt:E=true:=by rw[← hE,decide_eq_true (by omega)];rfl
     subst hEt;refine AW.az rfl ?_;refine qX 1 rfl ?_;exact qN rfl
   rw[decide_eq_false (show ¬(40:Int)<(lb.length:Int) by omega)];refine qU 2 rfl ?_;refine qU 3 rfl ?_;rw[List.length_map];refine qU 1 rfl ?_;by_cases c6:40<js.length
   · rw[decide_eq_true (show (40:Int)<(js.length:Int) by omega)];refine qU 20 rfl ?_;refine aa.nil ?_;have hEt:E=true:=by rw[← hE,decide_eq_true (by omega)];rfl
     subst hEt;refine AW.az rfl ?_;refine qX 1 rfl ?_;exact qN rfl
   rw[decide_eq_false (show ¬(40:Int)<(js.length:Int) by omega)];refine qU 2 rfl ?_;refine qU 3 rfl ?_;rw[List.length_map];refine qU 1 rfl ?_;by_cases c7:40<lds.length
   · rw[decide_eq_true (show (40:Int)<(lds.length:Int) by omega)];refine qU 14 rfl ?_;refine aa.nil ?_;have hEt:E=true:=by rw[← hE,decide_eq_true (by omega)];rfl
     subst hEt;refine AW.az rfl ?_;refine qX 1 rfl ?_;exact qN rfl
   rw[decide_eq_false (show ¬(40:Int)<(lds.length:Int) by omega)];refine qU 2 rfl ?_;refine qU 3 rfl ?_;rw[List.length_map];refine qU 1 rfl ?_;by_cases c8:40<bs.length
   · rw[decide_eq_true (show (40:Int)<(bs.length:Int) by omega)];refine qU 8 rfl ?_;refine aa.nil ?_;have hEt:E=true:=by rw[← hE,decide_eq_true (by omega)];rfl
     subst hEt;refine AW.az rfl ?_;refine qX 1 rfl ?_;exact qN rfl
   rw[decide_eq_false (show ¬(40:Int)<(bs.length:Int) by omega)];refine qU 2 rfl ?_;refine qU 4 rfl ?_;rw[List.length_map];refine qU 1 rfl ?_;by_cases c9:2<rt.length
   · rw[decide_eq_true (show (2:Int)<(rt.length:Int) by omega)];refine qU 1 rfl ?_;refine aa.nil ?_;have hEt:E=true:=by rw[← hE,decide_eq_true (by omega)];rfl
     subst hEt;refine AW.az rfl ?_;refine qX 1 rfl ?_;exact qN rfl
   rw[decide_eq_false (show ¬(2:Int)<(rt.length:Int) by omega)];refine qU 1 rfl ?_;refine aa.nil ?_;refine AW.ao rfl ?_;refine AW.skip ?_;exact⟨(),rfl,by omega⟩
 · rw[decide_eq_false hc,Bool.false_or] at hE;obtain ⟨G,hG⟩: ∃G,dD (Ep lb) (lb.length-0) 0=G:=⟨_,rfl⟩;rw[hG] at hE;show AW _ _ _ _ _ _ _ [(2,.bx [dS ln,ay lb,ak js,an lds]),(3,.bx [.sl 1 (rt.map aY),.sl 4 (bs.map dH.D),.sl 1 (md.map (fun n=>dI n))])];refine qX 1 rfl ?_;refine qI ?_;refine qX 1 rfl ?_;refine aa.nil ?_;refine AW.block ?_;refine AW.aD [2,3,5,6] (fun i:Nat=>[(2,.bx [dS ln,ay lb,ak js,an lds]),(3,.bx [.sl 1 (rt.map aY),.sl 4 (bs.map dH.D),.sl 1 (md.map (fun n=>dI n))]),(5,.d (dI (qc lb i))),(6,.d (dI i))]) (fun i=>i≤lb.length∧dD (Ep lb) (lb.length-i) i=G) (fun i=>lb.length-i) 0 rfl ⟨Nat.zero_le _,hG⟩ (fun i ⟨hi,hiG⟩=>?_)
   · show AW _ _ _ _ _ _ _ [(2,.bx [dS ln,ay lb,ak js,an lds]),(3,.bx [.sl 1 (rt.map aY),.sl 4 (bs.map dH.D),.sl 1 (md.map (fun n=>dI n))]),(5,.d (dI (qc lb i))),(6,.d (dI i))];refine AW.seq ?_;refine qX 4 rfl ?_;rw[List.length_map];refine qU 1 rfl ?_;refine aa.nil ?_;refine AW.cond rfl (fun h=>?_) (fun h=>?_)
     · have hin:i<lb.length:=by have:=of_decide_eq_true h;omega
       have gB:=getM Body.D hin;have hpl:=(hlb i).2.1;have hmk:=fun k=>(hlb i).2.2 k;have wMi:=wM i;have hhit:=fun h0:Ep lb i=true=>(dZ hin h0).symm.trans hiG;have hmiss:=fun h0:Ep lb i=false=>(cY hin h0).symm.trans hiG;have hpb:Ep lb i=decide (40<(lb.getD i default).pts.length):=rfl;have hnx:qc lb (i+1)=p6 (fun k=>wg ((lb.getD i default).pts.getD k default)) (qc lb i) (lb.getD i default).pts.length:=rfl;generalize lb.getD i default=Bd at *;unfold big at hpl;refine AW.skip (AW.seq (AW.block (AW.seq ?_)));refine qX 3 rfl ?_;refine aa.idx tok Bd.D rfl rfl rfl rfl (Int.natCast_nonneg i) gB ?_;refine qU 3 rfl ?_;rw[List.length_map];refine qU 1 rfl ?_;refine aa.nil ?_;refine AW.cond rfl (fun h=>?_) (fun h=>?_)
       · have h40:40<Bd.pts.length:=by have:=of_decide_eq_true h;omega
         rw[decide_eq_true h40] at hpb;have:=hhit hpb;subst this;have hEt:E=true:=by rw[← hE];rfl
         subst hEt;refine qX 1 rfl ?_;exact qN rfl
       · have h40: ¬40<Bd.pts.length:=by have:=of_decide_eq_false h;omega
         rw[decide_eq_false h40] at hpb;refine AW.skip ?_;refine qX 1 rfl ?_;refine aa.nil ?_;refine AW.block ?_;refine AW.aD [2,3,5,6,7] (fun k:Nat=>[(2,.bx [dS ln,ay lb,ak js,an lds]),(3,.bx [.sl 1 (rt.map aY),.sl 4 (bs.map dH.D),.sl 1 (md.map (fun n=>dI n))]),(5,.d (dI (p6 (fun k=>wg (Bd.pts.getD k default)) (qc lb i) k))),(6,.d (dI i)),(7,.d (dI k))]) (fun k=>k≤Bd.pts.length) (fun k=>Bd.pts.length-k) 0 rfl (Nat.zero_le _) (fun k hk=>?_)
         · show AW _ _ _ _ _ _ _ [(2,.bx [dS ln,ay lb,ak js,an lds]),(3,.bx [.sl 1 (rt.map aY),.sl 4 (bs.map dH.D),.sl 1 (md.map (fun n=>dI n))]),(5,.d (dI (p6 (fun k=>wg (Bd.pts.getD k default)) (qc lb i) k))),(6,.d (dI i)),(7,.d (dI k))];refine AW.seq ?_;refine qX 4 rfl ?_;refine aa.idx tok Bd.D rfl rfl rfl rfl (Int.natCast_nonneg i) gB ?_;refine qU 3 rfl ?_;rw[List.length_map];refine qU 1 rfl ?_;refine aa.nil ?_;refine AW.cond rfl (fun h=>?_) (fun h=>?_)
           · have hkn:k<Bd.pts.length:=by have:=of_decide_eq_true h;omega
             have gM:=getM Mark.D hkn;have hmk:=hmk k;have wMi:=wMi k;have hms:p6 (fun k=>wg (Bd.pts.getD k default)) (qc lb i) (k+1)=max (p6 (fun k=>wg (Bd.pts.getD k default)) (qc lb i) k) (wg (Bd.pts.getD k default)):=rfl;generalize p6 (fun k=>wg (Bd.pts.getD k default)) (qc lb i) k=n at *;generalize Bd.pts.getD k default=p at gM hms hmk;obtain ⟨pn,⟨xg,xn,xd⟩,⟨yg,yn,yd⟩⟩:=p;obtain ⟨_,h1,h2⟩:=hmk;have a1:xn.length≤K:=h1.2.2.1;have a2:xd.length≤K:=h1.2.2.2;have a3:yn.length≤K:=h2.2.2.1;have a4:yd.length≤K:=h2.2.2.2;have hmw:wg ⟨pn,⟨xg,xn,xd⟩,⟨yg,yn,yd⟩⟩=xn.length+xd.length+yn.length+yd.length:=rfl;rw[hmw] at hms;refine AW.skip (AW.seq (AW.block ?_));refine qX 3 rfl ?_;refine aa.idx tok Bd.D rfl rfl rfl rfl (Int.natCast_nonneg i) gB ?_;refine qU 3 rfl ?_;refine aa.idx tok (Mark.D ⟨pn,⟨xg,xn,xd⟩,⟨yg,yn,yd⟩⟩) rfl rfl rfl rfl (Int.natCast_nonneg k) gM ?_;refine qU 3 rfl ?_;refine aa.nil ?_;refine qT 5 rfl ?_;rw[aO];refine qU 4 rfl ?_;rw[aO];refine qU 1 rfl ?_;rw[aq (x:=(xn.length:Int)+(xd.length:Int)) (by omega) (by omega)];refine qU 4 rfl ?_;rw[aO];refine qU 1 rfl ?_;rw[aq (x:=(xn.length:Int)+(xd.length:Int)+(yn.length:Int)) (by omega) (by omega)];refine qU 4 rfl ?_;rw[aO];refine qU 1 rfl ?_;rw[aq (x:=(xn.length:Int)+(xd.length:Int)+(yn.length:Int)+(yd.length:Int)) (by omega) (by omega),show (xn.length:Int)+(xd.length:Int)+(yn.length:Int)+(yd.length:Int)=((xn.length+xd.length+yn.length+yd.length:Nat):Int) by omega];refine qU 1 rfl ?_;rw[tB,← hms];refine qU 1 rfl ?_;refine aa.nil ?_;refine qT 2 rfl ?_;rw[aq (x:=(k:Int)+1) (by omega) (by omega)];refine qU 1 rfl ?_;refine aa.nil ?_;exact⟨k+1,rfl,hkn,by omega⟩
           have hkn:k=Bd.pts.length:=by have:=of_decide_eq_false h;omega
           subst hkn;rw[← hnx];refine AW.exit ?_;refine qT 2 rfl ?_;rw[aq (x:=(i:Int)+1) (by omega) (by omega)];refine qU 1 rfl ?_;refine aa.nil ?_;exact⟨i+1,rfl,⟨hin,hmiss hpb⟩,by omega⟩
     have hin:i=lb.length:=by have:=of_decide_eq_false h;omega
     subst hin;rw[ea (Nat.lt_irrefl _)] at hiG;subst hiG;rw[Bool.false_or] at hE;have wB:=wB lb.length;generalize qc lb lb.length=N1 at *;have wR:=fun k=>uQ (f:=fun i=>dC (rt.getD i [])) wB (fun i=>yr i) k;refine AW.exit (AW.seq ?_);refine qX 1 rfl ?_;refine aa.nil ?_;refine AW.block ?_;refine AW.aD [2,3,5,9] (fun i:Nat=>[(2,.bx [dS ln,ay lb,ak js,an lds]),(3,.bx [.sl 1 (rt.map aY),.sl 4 (bs.map dH.D),.sl 1 (md.map (fun n=>dI n))]),(5,.d (dI (p6 (fun i=>dC (rt.getD i [])) N1 i))),(9,.d (dI i))]) (fun i=>i≤rt.length) (fun i=>rt.length-i) 0 rfl (Nat.zero_le _) (fun i hi=>?_)
     · show AW _ _ _ _ _ _ _ [(2,.bx [dS ln,ay lb,ak js,an lds]),(3,.bx [.sl 1 (rt.map aY),.sl 4 (bs.map dH.D),.sl 1 (md.map (fun n=>dI n))]),(5,.d (dI (p6 (fun i=>dC (rt.getD i [])) N1 i))),(9,.d (dI i))];refine AW.seq ?_;refine qX 5 rfl ?_;rw[List.length_map];refine qU 1 rfl ?_;refine aa.nil ?_;refine AW.cond rfl (fun h=>?_) (fun h=>?_)
       · have hin:i<rt.length:=by have:=of_decide_eq_true h;omega
         have gR:=getM aY hin;have zri:=zr i;have hms:p6 (fun i=>dC (rt.getD i [])) N1 (i+1)=max (p6 (fun i=>dC (rt.getD i [])) N1 i) (dC (rt.getD i [])):=rfl;refine AW.skip (AW.seq (AW.block ?_));refine qT 5 rfl ?_;refine aa.idx tok (aY (rt.getD i [])) rfl rfl rfl rfl (Int.natCast_nonneg i) gR ?_;refine qU 1 rfl ?_;refine aa.call tok rfl rfl rfl rfl zri ?_;refine qU 1 rfl ?_;rw[tB,← hms];refine qU 1 rfl ?_;refine aa.nil ?_;refine qT 2 rfl ?_;rw[aq (x:=(i:Int)+1) (by omega) (by omega)];refine qU 1 rfl ?_;refine aa.nil ?_;exact⟨i+1,rfl,hin,by omega⟩
       have hin:i=rt.length:=by have:=of_decide_eq_false h;omega
       subst hin;have wR:=wR rt.length;generalize p6 (fun i=>dC (rt.getD i [])) N1 rt.length=N2 at *
       have wP: ∀i,vW bs N2 i≤4000000000000000:=fun i=>by
        induction i with
        | zero=>exact wR
        | succ i ih =>
          have h1:=yc i;have h2:=ys i;have h3:=yx i;have h4:=yy i;show max (max (max (max (vW bs N2 i) _) _) _) _≤_;omega
       refine AW.exit (AW.seq ?_);refine qX 1 rfl ?_;refine aa.nil ?_;refine AW.block ?_;refine AW.aD [2,3,5,10] (fun i:Nat=>[(2,.bx [dS ln,ay lb,ak js,an lds]),(3,.bx [.sl 1 (rt.map aY),.sl 4 (bs.map dH.D),.sl 1 (md.map (fun n=>dI n))]),(5,.d (dI (vW bs N2 i))),(10,.d (dI i))]) (fun i=>i≤bs.length) (fun i=>bs.length-i) 0 rfl (Nat.zero_le _) (fun i hi=>?_)
       · show AW _ _ _ _ _ _ _ [(2,.bx [dS ln,ay lb,ak js,an lds]),(3,.bx [.sl 1 (rt.map aY),.sl 4 (bs.map dH.D),.sl 1 (md.map (fun n=>dI n))]),(5,.d (dI (vW bs N2 i))),(10,.d (dI i))];refine AW.seq ?_;refine qX 4 rfl ?_;rw[List.length_map];refine qU 1 rfl ?_;refine aa.nil ?_;refine AW.cond rfl (fun h=>?_) (fun h=>?_)
         · have hin:i<bs.length:=by have:=of_decide_eq_true h;omega
           have gP:=getM dH.D hin;have zc:=zc i;have zs:=zs i;have zx:=zx i;have zy:=zy i;have hms:vW bs N2 (i+1)=max (max (max (max (vW bs N2 i) (dC (bs.getD i default).c)) (dC (bs.getD i default).s)) (dC (bs.getD i default).x)) (dC (bs.getD i default).y):=rfl;generalize bs.getD i default=p at *;obtain ⟨pc,ps,px,py⟩:=p;simp only[] at zc zs zx zy hms;refine AW.skip (AW.seq (AW.block ?_));refine qX 3 rfl ?_;refine aa.idx tok (dH.D ⟨pc,ps,px,py⟩) rfl rfl rfl rfl (Int.natCast_nonneg i) gP ?_;refine qU 3 rfl ?_;refine aa.nil ?_;refine AW.draw aJ 14 (by kernel_rfl) ?_;refine qP 3 rfl ?_;refine ae.call tok rfl rfl rfl rfl rfl zc ?_;refine qP 2 rfl ?_;refine ae.call tok rfl rfl rfl rfl rfl zs ?_;refine qP 2 rfl ?_;refine ae.call tok rfl rfl rfl rfl rfl zx ?_;refine qP 2 rfl ?_;refine ae.call tok rfl rfl rfl rfl rfl zy ?_;refine qP 1 rfl ?_;rw[tB,tB,tB,tB,← hms];refine ae.nil ?_;refine qU 1 rfl ?_;refine aa.nil ?_;refine qT 2 rfl ?_;rw[aq (x:=(i:Int)+1) (by omega) (by omega)];refine qU 1 rfl ?_;refine aa.nil ?_;exact⟨i+1,rfl,hin,by omega⟩
         have hin:i=bs.length:=by have:=of_decide_eq_false h;omega
         subst hin;refine AW.exit ?_;refine qX 5 rfl ?_;rw[List.length_map];refine qU 1 rfl ?_;rw[aq (x:=4*(rt.length:Int)) (by omega) (by omega)];refine qU 1 rfl ?_;rw[aq (x:=16-4*(rt.length:Int)) (by omega) (by omega)];refine qU 1 rfl ?_;rw[hE];refine qU 1 rfl ?_;exact qN rfl
end Lift
namespace Lift
open Go Go.Proofs
theorem vy:RT Tryz.prog 52 (List RD) (fun l=>[aY l]) (fun l=>qf l) :=
 (RT.sliceB 32 (el:=RD.D) (s:=3) Tryz.underlying52 (by kernel_rfl) (by kernel_rfl) (by decide) (Nat.le_of_ble_eq_true (by kernel_rfl)) Ao (fun v=>rfl)).map id (fun l h=>rfl) (fun l h=>⟨by have:=h.1;unfold reachBytes at this;show l.length≤_;omega,iX (fun v hv=>(h.2 v hv).mono (by decide)) ⟨fun _ h=>(by cases h),fun _ h=>(by cases h),Nat.zero_le _,Nat.zero_le _⟩⟩) (fun v=>⟨by kernel_rfl,fun d hd=>by simp at hd;subst hd;rfl⟩)
theorem D':RT Tryz.prog 27 (List (List RD)) (fun l=>[.sl 1 (l.map aY)]) (fun l=>l.length≤reachBytes∧ ∀v∈l,qf v) :=
 RT.slice (el:=aY) (s:=1) (by kernel_rfl) (by kernel_rfl) (by kernel_rfl) (by decide) (Nat.le_of_ble_eq_true (by kernel_rfl)) vy (fun v=>rfl)
theorem CG:RT Tryz.prog 29 (List (List RD)) (fun l=>[.sl 1 (l.map aY)]) (fun l=>l.length≤reachBytes∧ ∀v∈l,qf v):=by
 have h:=RT.struct (P:=Tryz.prog) (t:=29) (m:=1) Tryz.underlying29 (by kernel_rfl) (iZ.cons (by kernel_rfl) D' iZ.nil) (fun v=>rfl);exact h.map (fun v=>v.1) (fun v h=>rfl) (fun v h=>h.1) (fun v=>⟨by kernel_rfl,fun d hd=>by simp at hd;subst hd;rfl⟩)
def dH.nb(p:dH):Prop:=qf p.c∧qf p.s∧qf p.x∧qf p.y
theorem Ap:RT Tryz.prog 73 dH (fun p=>p.D.flat) (fun p=>p.nb):=by
 have h:=RT.struct (P:=Tryz.prog) (t:=73) (m:=4) Tryz.underlying73 (by kernel_rfl) (iZ.cons (by kernel_rfl) vy (iZ.cons (by kernel_rfl) vy (iZ.cons (by kernel_rfl) vy (iZ.cons (by kernel_rfl) vy iZ.nil)))) (fun v=>rfl)
 exact h.map (fun v=>⟨v.1,v.2.1,v.2.2.1,v.2.2.2.1⟩) (fun v h=>rfl) (fun v h=>⟨h.1,h.2.1,h.2.2.1,h.2.2.2.1⟩) (fun v=>⟨by kernel_rfl,fun d hd=>by
  simp only[D.flat,List.mem_cons,List.mem_nil_iff,or_false] at hd
  rcases hd with rfl | rfl | rfl | rfl<;>rfl⟩)
theorem zH:RT Tryz.prog 30 (List dH) (fun l=>[.sl 4 (l.map dH.D)]) (fun l=>l.length≤reachBytes∧ ∀v∈l,v.nb) :=
 RT.slice (el:=dH.D) (s:=4) (by kernel_rfl) (by kernel_rfl) (by kernel_rfl) (by decide) (Nat.le_of_ble_eq_true (by kernel_rfl)) Ap (fun v=>rfl)
theorem CJ:RT Tryz.prog 31 (List Int) (fun l=>[.sl 1 (l.map (fun n=>dI n))]) (fun _=>True) :=
 (RT.slice (el:=fun n:Int=>dI n) (s:=1) (by kernel_rfl) (by kernel_rfl) (by kernel_rfl) (by decide) (Nat.le_of_ble_eq_true (by kernel_rfl)) oT (fun v=>rfl)).map id (fun l h=>rfl) (fun l h=>trivial) (fun v=>⟨by kernel_rfl,fun d hd=>by simp at hd;subst hd;rfl⟩)
theorem qf.nil:qf []:=⟨Nat.zero_le _,fun i=>⟨fun _ h=>(by cases h),fun _ h=>(by cases h),Nat.zero_le _,Nat.zero_le _⟩⟩
theorem u_assembly:RT Tryz.prog 33 Asm (fun a=>a.D.flat) (fun a=>AsB a):=by
 have h:=RT.struct (P:=Tryz.prog) (t:=33) (m:=3) Tryz.underlying33 (by kernel_rfl) (iZ.cons (by kernel_rfl) CG (iZ.cons (by kernel_rfl) zH (iZ.cons (by kernel_rfl) CJ iZ.nil))) (fun v=>rfl)
 refine h.map (fun v=>⟨v.1,v.2.1,v.2.2.1⟩) (fun v h=>rfl) (fun v h=>?_) (fun v=>⟨by kernel_rfl,fun d hd=>by
  simp only[D.flat,List.mem_cons,List.mem_nil_iff,or_false] at hd
  rcases hd with rfl | rfl | rfl<;>rfl⟩)
 have hp:=fun i=>iX h.2.1.2 ⟨qf.nil,qf.nil,qf.nil,qf.nil⟩ i;refine⟨Nat.le_trans h.1.1 (by decide),fun i=>?_,Nat.le_trans h.2.1.1 (by decide),fun i=>(hp i).1,fun i=>(hp i).2.1,fun i=>(hp i).2.2.1,fun i=>(hp i).2.2.2⟩;exact iX (p:=qf) (l:=v.1) h.1.2 qf.nil i
end Lift
namespace Lift
def nS:List RD→Nat
 | []=>0
 | x::r=>x.n.length+x.d.length+nS r
theorem yK: ∀{r:List RD} {n:Nat},Ai r n<100→Ai r n=n+nS r
 | [],n,_=>rfl
 | x::r,n,h=>by
   by_cases hn:n<100
   · have e:Ai (x::r) n=Ai r (n+(x.n.length+x.d.length)):=if_pos hn;rw[e] at h ⊢;rw[yK h];show _=n+(x.n.length+x.d.length+nS r);omega
   · have e:Ai (x::r) n=n:=if_neg hn;rw[e] at h;exact absurd h hn
theorem yH: ∀(r:List RD) (i:Nat),(r.getD i default).n.length+(r.getD i default).d.length≤nS r
 | [],i=>Nat.le_refl _
 | x::r,0=>by show x.n.length+x.d.length≤x.n.length+x.d.length+nS r;omega
 | x::r,i+1=>by
   have:=yH r i;show (r.getD i default).n.length+(r.getD i default).d.length≤x.n.length+x.d.length+nS r;omega
theorem kI{r:List RD}(h:dC r<100):dC r=nS r:=by
 have:=yK (r:=r) (n:=0) h;unfold dC;omega
theorem xL(f:Nat→Nat)(n:Nat): ∀k,n≤p6 f n k
 | 0=>Nat.le_refl _
 | k+1=>Nat.le_trans (xL f n k) (Nat.le_max_left _ _)
theorem xK(f:Nat→Nat)(n:Nat): ∀{k j:Nat},j<k→f j≤p6 f n k
 | k+1,j,h=>by
   show f j≤max (p6 f n k) (f k);by_cases e:j=k
   · rw[e];exact Nat.le_max_right _ _
   · exact Nat.le_trans (xK f n (show j<k by omega)) (Nat.le_max_left _ _)
theorem wT(bs:List Body): ∀{i j:Nat},i≤j→qc bs i≤qc bs j
 | i,0,h=>by rw[show i=0 by omega];exact Nat.le_refl _
 | i,j+1,h=>by
   by_cases e:i=j+1
   · rw[e];exact Nat.le_refl _
   · exact Nat.le_trans (wT bs (show i≤j by omega)) (xL _ _ _)
theorem EV(bs:List Body){i k:Nat}(hi:i<bs.length)(hk:k<(bs.getD i default).pts.length):wg ((bs.getD i default).pts.getD k default)≤qc bs bs.length :=
 Nat.le_trans (xK (fun k=>wg ((bs.getD i default).pts.getD k default)) (qc bs i) hk) (wT bs (show i+1≤bs.length by omega))
theorem xG(bs:List dH)(n:Nat): ∀k,n≤vW bs n k
 | 0=>Nat.le_refl _
 | k+1=>by
   have:=xG bs n k;show n≤max (max (max (max (vW bs n k) _) _) _) _;omega
theorem Bc(bs:List dH)(n:Nat): ∀{k j:Nat},j<k→dC (bs.getD j default).c≤vW bs n k∧dC (bs.getD j default).s≤vW bs n k∧dC (bs.getD j default).x≤vW bs n k∧dC (bs.getD j default).y≤vW bs n k
 | k+1,j,h=>by
   have e1:vW bs n (k+1)=max (max (max (max (vW bs n k) (dC (bs.getD k default).c)) (dC (bs.getD k default).s)) (dC (bs.getD k default).x)) (dC (bs.getD k default).y):=rfl;by_cases e:j=k
   · subst e;rw[e1];omega
   · obtain ⟨h1,h2,h3,h4⟩:=Bc bs n (show j<k by omega);rw[e1];omega
structure Cm (l:Lkg) (a:Asm):Prop where
 r2:a.rt.length≤2
 nb:l.bodies.length≤40
 nb6:l.bodies.length≤6∨8<l.bodies.length
 nj8:l.joints.length≤8∨16<l.joints.length
 nj:l.joints.length≤40
 ab:a.bodies.length≤40
 n:E9 l a+4*a.rt.length≤16
theorem qA{l:Lkg}{a:Asm}(h:je l a=false):Cm l a:=by
 unfold je at h;rw[Bool.or_eq_false_iff,Bool.or_eq_false_iff] at h;obtain ⟨⟨h1,_⟩,h3⟩:=h;have h1: ¬_:=of_decide_eq_false h1;have h3:=of_decide_eq_false h3;refine⟨by omega,by omega,by omega,by omega,by omega,by omega,by omega⟩
theorem Cm.pt{l:Lkg}{a:Asm}(S:Cm l a){i k:Nat}(hi:i<l.bodies.length)(hk:k<(l.bodies.getD i default).pts.length):wg ((l.bodies.getD i default).pts.getD k default)+4*a.rt.length≤16:=by
 have h1:=EV l.bodies hi hk;have h2:=xL (fun i=>dC (a.rt.getD i [])) (qc l.bodies l.bodies.length) a.rt.length;have h3:=xG a.bodies (p6 (fun i=>dC (a.rt.getD i [])) (qc l.bodies l.bodies.length) a.rt.length) a.bodies.length;have h4:=S.n;unfold E9 at h4;omega
theorem Cm.root{l:Lkg}{a:Asm}(S:Cm l a){i:Nat}(hi:i<a.rt.length):nS (a.rt.getD i [])+4*a.rt.length≤16:=by
 have h2:=xK (fun i=>dC (a.rt.getD i [])) (qc l.bodies l.bodies.length) hi;have h3:=xG a.bodies (p6 (fun i=>dC (a.rt.getD i [])) (qc l.bodies l.bodies.length) a.rt.length) a.bodies.length;have h4:=S.n;unfold E9 at h4;have h5:dC (a.rt.getD i [])+4*a.rt.length≤16:=by omega
 rw[kI (by omega)] at h5;exact h5
theorem Cm.pl{l:Lkg}{a:Asm}(S:Cm l a){i:Nat}(hi:i<a.bodies.length):nS (a.bodies.getD i default).c+4*a.rt.length≤16∧nS (a.bodies.getD i default).s+4*a.rt.length≤16∧nS (a.bodies.getD i default).x+4*a.rt.length≤16∧nS (a.bodies.getD i default).y+4*a.rt.length≤16:=by
 obtain ⟨h1,h2,h3,h4⟩:=Bc a.bodies (p6 (fun i=>dC (a.rt.getD i [])) (qc l.bodies l.bodies.length) a.rt.length) hi;have h5:=S.n;unfold E9 at h5;rw[← kI (r:=(a.bodies.getD i default).c) (by omega),← kI (r:=(a.bodies.getD i default).s) (by omega),← kI (r:=(a.bodies.getD i default).x) (by omega),← kI (r:=(a.bodies.getD i default).y) (by omega)];omega
theorem vw{a:List RD}{k:Nat}(ha:qf a)(h:nS a≤k):wN k a:=fun i _=>by
 have h1:=yH a i;obtain ⟨w1,w2,_,_⟩:=ha.2 i;exact⟨w1,w2,by omega,by omega⟩
theorem Cm.lok{l:Lkg}{a:Asm}{K:Nat}(S:Cm l a)(hl:l.ok K):l.ok 16:=by
 refine⟨hl.nm,hl.nb,hl.nj,hl.nd,fun i=>⟨(hl.b i).1,(hl.b i).2.1,fun k=>?_⟩,hl.j,hl.d⟩;obtain ⟨h1,h2,h3⟩:=(hl.b i).2.2 k;refine⟨h1,?_⟩
 have hw:wg ((l.bodies.getD i default).pts.getD k default)≤16:=by
  by_cases hi:i<l.bodies.length
  · by_cases hk:k<(l.bodies.getD i default).pts.length
    · have:=S.pt hi hk;omega
    · rw[List.getD_eq_getElem?_getD,List.getElem?_eq_none (by omega)];exact Nat.zero_le _
  · rw[show l.bodies.getD i default=default by rw[List.getD_eq_getElem?_getD,List.getElem?_eq_none (by omega)];rfl];exact Nat.zero_le _
 unfold wg at hw;exact⟨⟨h2.1,h2.2.1,by omega,by omega⟩,⟨h3.1,h3.2.1,by omega,by omega⟩⟩
theorem Cm.aok{l:Lkg}{a:Asm}(S:Cm l a)(ha:AsB a):a.ok 16:=by
 have hr:=S.r2;refine⟨⟨⟨16,by decide,Nat.le_refl _,fun i hi _=>vw (ha.r i) (by have:=S.root hi;omega),fun _=>C5 hr (by decide)⟩,by decide,by omega,fun i _=>(ha.r i).1⟩,fun i hi=>?_,by have:=S.ab;omega⟩;obtain ⟨h1,h2,h3,h4⟩:=S.pl hi;exact⟨⟨fun _=>vw (ha.c i) (by omega),(ha.c i).1⟩,⟨fun _=>vw (ha.s i) (by omega),(ha.s i).1⟩,⟨fun _=>vw (ha.x i) (by omega),(ha.x i).1⟩,⟨fun _=>vw (ha.y i) (by omega),(ha.y i).1⟩⟩
end Lift
namespace Lift
open Go Go.Proofs
theorem m9(n:Nat)(r:D)(hn:n≤4611686018427387904)(h1: ∀i:Nat,i≤5→n=2^i→r= .tu [dI i,dB true])(h2:(∀i:Nat,i≤5→n≠2^i)→r= .tu [dI 0,dB false]):Pure Tryz.prog 113 [dI n] r:=by
 refine qJ 14 Tryz.func113 rfl rfl rfl rfl (by kernel_rfl) (fun B0 F0 w0=>?_);refine qX 2 rfl ?_;refine qI ?_;refine qX 1 rfl ?_;refine aa.nil ?_;refine AW.block ?_;refine AW.aD [0,5] (fun k:Nat=>[(0,.d (dI n)),(5,.d (dI k))]) (fun k=>k≤6∧ ∀j,j<k→n≠2^j) (fun k=>6-k) 0 rfl ⟨Nat.zero_le _,fun j hj=>by omega⟩ (fun k ⟨hk,hi⟩=>?_);refine qX 1 rfl ?_;refine qI ?_;refine AW.cond rfl (fun h=>?_) (fun h=>?_);rotate_left
 · have hkk:k=6:=by have:=of_decide_eq_false h;omega
   subst hkk;rw[h2 (fun i hi5=>hi i (by omega))];refine AW.exit ?_;refine qX 2 rfl ?_;exact qN rfl
 have hkk:k<6:=by have:=of_decide_eq_true h;omega
 refine AW.skip (AW.seq (AW.block ?_));refine qX 2 rfl ?_;refine qK 3 rfl ?_;rw[vE (by omega)];refine qU 1 rfl ?_;refine aa.nil ?_;by_cases hp:n=2^k
 · rw[h1 k (by omega) hp,beq_iff_eq.2 (show (n:Int)=((2^k:Nat):Int) by rw[hp])];refine AW.az rfl ?_;refine qX 3 rfl ?_;exact qN rfl
 rw[beq_eq_false_iff_ne.2 (show (n:Int)≠((2^k:Nat):Int) by omega)];refine AW.ao rfl ?_;refine AW.skip ?_;refine qT 1 rfl ?_;rw[aq (x:=(k:Int)+1) (by omega) (by omega)];refine qU 1 rfl ?_;refine aa.nil ?_
 exact⟨k+1,rfl,⟨hkk,fun j hj=>by
  by_cases e:j=k
  · rw[e];exact hp
  · exact hi j (by omega)⟩,by omega⟩
theorem eC{n i:Nat}(h:n=2^i)(hi:i≤5):Pure Tryz.prog 113 [dI n] (.tu [dI i,dB true]):=by
 have hp:2^i≤2^5:=Nat.pow_le_pow_right (by decide) hi;refine m9 n _ (by omega) (fun j hj e=>?_) (fun hn=>absurd h (hn i hi));have h1:=gT (Nat.le_of_eq (h.symm.trans e));have h3:=gT (Nat.le_of_eq (e.symm.trans h));rw[show j=i by omega]
theorem lY{n:Nat}(h: ∀i:Nat,i≤5→n≠2^i)(hn:n≤4611686018427387904):Pure Tryz.prog 113 [dI n] (.tu [dI 0,dB false]) :=
 m9 n _ hn (fun i hi e=>absurd e (h i hi)) (fun _=>rfl)
theorem lZ(m:Nat)(a:List RD){k:Nat}(hm5:m≤5)(hw:yw m a→wN k a)(hk:k≤17300000000000)(hl:a.length≤4398046511104):Pure Tryz.prog 66 [dI m,aY a] (dI (bp m a)):=by
 refine qJ 37 Tryz.func66 rfl rfl rfl rfl (by kernel_rfl) (fun B0 F0 w0=>?_);have hno:=fun i hi=>v5 (l:=a) (i:=i) hi;have hyes:=tv (l:=a);unfold bp;generalize iU a=E at hno hyes ⊢
 obtain ⟨x,ok,cp,hok⟩: ∃(x:Nat) (ok:Bool),Pure Tryz.prog 113 [dI a.length] (.tu [dI x,dB ok])∧((ok=false∨m<x)↔xM m a.length=false):=by
  by_cases hp: ∃i,i≤5∧a.length=2^i
  · obtain ⟨i,hi,hp⟩:=hp;refine⟨i,true,eC hp hi,?_⟩;rw[hp,uU];constructor
    · rintro (h | h)
      · cases h
      · exact decide_eq_false (by omega)
    · intro h;right;have:=of_decide_eq_false h;omega
  · refine⟨0,false,lY (fun i hi e=>hp ⟨i,hi,e⟩) (by omega),?_⟩;constructor
    · intro _;cases hv:xM m a.length
      · rfl
      · obtain ⟨i,h1,h2⟩:=Bt hv;exact absurd ⟨i,by omega,h2⟩ hp
    · intro _;exact .inl rfl
 refine qX 1 rfl ?_;refine qK 2 rfl ?_;rw[List.length_map];refine aa.call tok rfl rfl rfl rfl cp ?_;refine qU 5 rfl ?_;refine aa.nil ?_;refine AW.cut [1] (fun _:Unit=>[(1,.d (aY a))]) (fun _=> ¬(a.length≠0∧xM m a.length=false)) ?_ (fun _ hs=>?_)
 · refine qX 2 rfl ?_;rw[List.length_map];refine qU 1 rfl ?_;by_cases h0:a.length=0
   · rw[bne_eq_false_iff_eq.2 (show (a.length:Int)=0 by omega)];refine qU 9 rfl ?_;refine aa.nil ?_;refine AW.ao rfl ?_;refine AW.skip ?_;exact⟨(),rfl,fun h=>h.1 h0⟩
   rw[bne_iff_ne.2 (show (a.length:Int)≠0 by omega)];cases ok with
   | false =>
     have hb:=hok.1 (.inl rfl);rw[if_pos ⟨h0,hb⟩];refine qU 9 rfl ?_;refine aa.nil ?_;refine AW.az rfl ?_;refine qX 1 rfl ?_;exact qN rfl
   | true =>
   refine qU 7 rfl ?_;by_cases hx:(m:Int)<(x:Int)
   · rw[decide_eq_true hx,if_pos ⟨h0,hok.1 (.inr (by omega))⟩];refine qU 2 rfl ?_;refine aa.nil ?_;refine AW.az rfl ?_;refine qX 1 rfl ?_;exact qN rfl
   · rw[decide_eq_false hx];refine qU 2 rfl ?_;refine aa.nil ?_;refine AW.ao rfl ?_;refine AW.skip ?_
     exact⟨(),rfl,fun h=>by
      rcases hok.2 h.2 with e | e
      · cases e
      · omega⟩
 rw[if_neg hs];have hw:=hw hs;show AW _ _ _ _ _ _ _ [(1,.d (aY a))];refine AW.seq ?_;refine qX 2 rfl ?_;rw[List.length_map];refine qU 1 rfl ?_;refine aa.nil ?_;refine AW.block ?_;refine AW.aD [27,28,29] (fun i:Nat=>[(27,.d (aY a)),(28,.d (dI a.length)),(29,.d (dI i))]) (fun i=>i≤a.length∧ ∀j,j<i→(a.getD j default).okB=true) (fun i=>a.length-i) 0 rfl ⟨Nat.zero_le _,fun j hj=>by omega⟩ (fun i ⟨hi,hall⟩=>?_);refine qX 1 rfl ?_;refine qI ?_;refine AW.cond rfl (fun h=>?_) (fun h=>?_);rotate_left
 · have hii:i=a.length:=by have:=of_decide_eq_false h;omega
   subst hii;rw[hyes hall,if_neg (by simp)];refine AW.exit ?_;refine qX 1 rfl ?_;exact qN rfl
 have hii:i<a.length:=by have:=of_decide_eq_true h;omega
 have hg:=getM RD.D (l:=a) (i:=i) hii;have hno:=hno i hii;have cv:=gS (a.getD i default) (hw i hii) (by omega);refine AW.skip (AW.seq (AW.block (AW.seq (AW.region ?_))));refine aa.idx tok (a.getD i default).D rfl rfl rfl rfl (Int.natCast_nonneg i) hg ?_;refine qU 3 rfl ?_;refine qK 1 rfl ?_;refine aa.call tok rfl rfl rfl rfl cv ?_;refine qU 1 rfl ?_;cases hv:(a.getD i default).okB with
 | false =>
   rw[hno hv,if_pos rfl];refine aa.nil ?_;refine AW.az rfl ?_;refine qX 1 rfl ?_;exact qN rfl
 | true =>
 refine aa.nil ?_;refine AW.ao rfl ?_;refine AW.skip ?_;refine qT 1 rfl ?_;rw[aq (x:=(i:Int)+1) (by omega) (by omega)];refine qU 1 rfl ?_;refine aa.nil ?_
 exact⟨i+1,rfl,⟨hii,fun j hj=>by
  by_cases e:j=i
  · subst e;exact hv
  · exact hall j (by omega)⟩,by omega⟩
theorem nc(a:NQ)(hl:a.length≤1000000):Pure Tryz.prog 155 [af a] (dB (a9 a)):=by
 refine qJ 26 Tryz.func155 rfl rfl rfl rfl (by kernel_rfl) (fun B F0 w0=>?_);have hno:=fun i hi=>qj (a:=a) (i:=i) hi;have hyes:=nQ (a:=a);generalize a9 a=E at hno hyes ⊢;refine qX 1 rfl ?_;refine qI ?_;refine qX 2 rfl ?_;rw[List.length_map];refine qU 1 rfl ?_;refine aa.nil ?_;refine AW.block ?_;refine AW.aD [5,6,7] (fun i:Nat=>[(5,.d (af a)),(6,.d (dI a.length)),(7,.d (dI i))]) (fun i=> ∀j,j<i→j<a.length→a.getD j 0=0) (fun i=>a.length-i) 0 rfl (fun j h=>by omega) (fun i hi=>?_)
 · show AW _ _ _ _ _ _ _ [(5,.d (af a)),(6,.d (dI a.length)),(7,.d (dI i))];refine qX 1 rfl ?_;refine qI ?_;refine AW.cond rfl (fun h=>?_) (fun h=>?_)
   · have hii:i<a.length:=by have:=of_decide_eq_true h;omega
     have g:=ku hii;have hn:=hno i hii;have s0:=Cr (a.getD i 0);generalize hq:a.getD i 0=q at g hn s0;generalize Qr q=y at g s0;obtain ⟨yg,yn,yd⟩:=y;simp only[] at s0;refine AW.skip (AW.seq (AW.block (AW.seq (AW.region ?_))));refine aa.idx tok (RD.mk yg yn yd).D rfl rfl rfl rfl (Int.natCast_nonneg i) g ?_;refine qU 3 rfl ?_;refine qK 3 rfl ?_;cases yg with
     | true =>
       refine qU 11 rfl ?_;refine aa.nil ?_;refine AW.az rfl ?_;rw[hn (fun e=>by have:=s0.2 e;cases this.1)];refine qX 1 rfl ?_;exact qN rfl
     | false =>
     refine qU 3 rfl ?_;rw[aO];refine qU 1 rfl ?_;by_cases h1:yn.length=0;rotate_left
     · rw[bne_iff_ne.2 (show (yn.length:Int)≠0 by omega)];refine qU 7 rfl ?_;refine aa.nil ?_;refine AW.az rfl ?_;rw[hn (fun e=>by have:=(s0.2 e).2.1;omega)];refine qX 1 rfl ?_;exact qN rfl
     rw[bne_eq_false_iff_eq.2 (show (yn.length:Int)=0 by omega)];refine qU 5 rfl ?_;rw[aO];refine qU 1 rfl ?_;by_cases h2:yd.length=0;rotate_left
     · rw[bne_iff_ne.2 (show (yd.length:Int)≠0 by omega)];refine qU 1 rfl ?_;refine aa.nil ?_;refine AW.az rfl ?_;rw[hn (fun e=>by have:=(s0.2 e).2.2;omega)];refine qX 1 rfl ?_;exact qN rfl
     rw[bne_eq_false_iff_eq.2 (show (yd.length:Int)=0 by omega)];refine qU 1 rfl ?_;refine aa.nil ?_;refine AW.ao rfl ?_;refine AW.skip ?_;refine qT 1 rfl ?_;rw[aq (x:=(i:Int)+1) (by omega) (by omega)];refine qU 1 rfl ?_;refine aa.nil ?_;refine⟨i+1,rfl,fun j h1 h2=>?_,by omega⟩;by_cases e:j=i
     · rw[e,hq];exact s0.1 ⟨rfl,by omega,by omega⟩
     · exact hi j (by omega) h2
   have hii: ¬i<a.length:=by have:=of_decide_eq_false h;omega
   rw[hyes (fun j h=>hi j (by omega) h)];refine AW.exit ?_;refine qX 1 rfl ?_;exact qN rfl
theorem o7(a:NQ){k:Nat}(hs:aC k a)(hk:k≤17300000000000)(hl:a.length≤1000000):Pure Tryz.prog 71 [af a] (af (bc a)):=by
 refine qJ 19 Tryz.func71 rfl rfl rfl rfl (by kernel_rfl) (fun B0 F0 w0=>?_);refine qX 1 rfl ?_;refine qK 1 rfl ?_;refine qI ?_;refine qX 2 rfl ?_;rw[List.length_map];refine qU 1 rfl ?_;refine aa.nil ?_;refine AW.block ?_;refine AW.aD [3,6,7,8] (fun i:Nat=>[(3,.ow 68 (dJ (bc (a.take i)))),(6,.d (af a)),(7,.d (dI a.length)),(8,.d (dI i))]) (fun i=>i≤a.length) (fun i=>a.length-i) 0 rfl (Nat.zero_le _) (fun i hi=>?_);refine qX 1 rfl ?_;refine qI ?_;refine AW.cond rfl (fun h=>?_) (fun h=>?_);rotate_left
 · have hii:i=a.length:=by have:=of_decide_eq_false h;have:i≤a.length:=hi;omega
   subst hii;rw[List.take_length];refine AW.exit ?_;refine qX 2 rfl ?_;exact qN rfl
 have hii:i<a.length:=by have:=of_decide_eq_true h;omega
 have g:=ku hii;have cn:=qR (Qr (a.getD i 0)) (fv _ (hs i)) hk;rw[bV] at cn;have htk:=qw a 0 hii;have hol:(bc (a.take i)).length=i:=by rw[iC,List.length_take];omega
 have hms:bc (a.take (i+1))=bc (a.take i)++[-a.getD i 0]:=by
  rw[htk];unfold bc;rw[List.map_append];rfl
 generalize bc (a.take i)=M at hol hms ⊢;generalize a.getD i 0=q at g cn hms;refine AW.skip (AW.seq (AW.block (AW.seq (AW.region ?_))));refine aa.idx tok (Qr q).D rfl rfl rfl rfl (Int.natCast_nonneg i) g ?_;refine qU 3 rfl ?_;refine aa.nil ?_;refine qT 2 rfl ?_;refine aa.call tok rfl rfl rfl rfl cn ?_;refine aa.bs tok rfl rfl rfl rfl ?_;refine aa.lR tok rfl rfl rfl rfl rfl rfl (by rw[List.length_map,hol];show (_+1)*56≤_;omega) (by rw[List.length_map,hol];show _+1≤_;omega) ?_;refine qU 1 rfl ?_;refine aa.nil ?_;refine qT 1 rfl ?_;rw[aq (x:=(i:Int)+1) (by omega) (by omega)];refine qU 1 rfl ?_;refine aa.nil ?_;exact⟨i+1,by show _=([(3,.ow 68 (dJ (bc (a.take (i+1))))),(6,.d (af a)),(7,.d (dI a.length)),(8,.d (dI (i+1:Nat)))]:St);rw[hms,dJ,dJ,List.map_append];rfl,hii,by omega⟩
end Lift
namespace Lift
open Go Go.Proofs
theorem gQ(a:NQ){l:Nat}(ha:aB l a)(hl:l≤5):Pure Tryz.prog 114 [af a] (af (aF a)):=by
 refine qJ 43 Tryz.func114 rfl rfl rfl rfl (by kernel_rfl) (fun B0 F0 w0=>?_);have hl10:=ha.len (by omega);rcases ha with h0 | ⟨i,hi,hai⟩
 · obtain rfl:a=[]:=List.length_eq_zero_iff.1 h0;have cp:=lY (n:=0) (fun i _=>by have:=Nat.two_pow_pos i;omega) (by decide);refine qX 1 rfl ?_;refine qK 2 rfl ?_;refine aa.call tok rfl rfl rfl rfl cp ?_;refine qU 5 rfl ?_;refine qI ?_;refine qX 2 rfl ?_;refine aa.nil ?_;refine AW.az rfl ?_;refine qX 2 rfl ?_;refine aa.lp tok rfl rfl rfl rfl (by decide) ?_;refine qU 1 rfl ?_;exact qN rfl
 have cp:=eC hai (by omega);have hp:=Nat.two_pow_pos i;have hE:aF a=fN i a:=by unfold aF;rw[if_neg (by omega),hai,Nat.log2_two_pow]
 rw[hE];refine qX 1 rfl ?_;refine qK 2 rfl ?_;rw[List.length_map];refine aa.call tok rfl rfl rfl rfl cp ?_;refine qU 5 rfl ?_;refine qI ?_;refine qX 2 rfl ?_;refine aa.nil ?_;refine AW.ao rfl ?_;refine AW.skip ?_;refine qX 2 rfl ?_;rw[List.length_map,hai];refine qU 1 rfl ?_;refine qI (AW.block ?_);refine AW.aD [0,5] (fun j:Nat=>[(0,.d (af a)),(5,.d (dI (2^j:Nat)))]) (fun j=>j≤i∧fN j a=fN i a) (fun j=>j) i rfl ⟨Nat.le_refl _,rfl⟩ (fun j hj=>?_);obtain ⟨hj,hjE⟩:=hj;show AW _ _ _ _ _ _ _ [(0,.d (af a)),(5,.d (dI (2^j:Nat)))];have hpj:2^j≤2^i:=Nat.pow_le_pow_right (by decide) hj;have hpp:=Nat.two_pow_pos j;refine AW.seq ?_;refine qX 2 rfl ?_;rcases j with _ | j
 · refine qU 8 rfl ?_;refine aa.nil ?_;refine AW.ao rfl ?_;refine AW.exit (AW.seq ?_);refine qX 4 rfl ?_;refine aa.fg tok (a:=a) (a.take 1) rfl rfl rfl rfl trivial (show (0:Int)≤1 by decide) (Nat.zero_le _) (show 1≤a.length by omega) rfl ?_;refine aa.call tok rfl rfl rfl rfl (nc (a.take 1) (by rw[List.length_take];omega)) ?_;refine qU 1 rfl ?_;refine aa.nil ?_;rw[← hjE];unfold fN;cases hz:a9 (a.take 1) with
   | true =>
     rw[if_pos rfl];refine AW.az rfl ?_;refine qX 1 rfl ?_;exact qN rfl
   | false =>
     rw[if_neg (by simp)];refine AW.ao rfl ?_;refine AW.skip ?_;refine qX 3 rfl ?_;refine aa.fg tok (a:=a) (a.take 1) rfl rfl rfl rfl trivial (show (0:Int)≤1 by decide) (Nat.zero_le _) (show 1≤a.length by omega) rfl ?_;have hq:(a.take 1).length≤1024:=by rw[List.length_take];omega
     refine aa.lp tok rfl rfl rfl rfl (by rw[List.length_map];show _*56≤_;omega) ?_;refine qU 1 rfl ?_;exact qN rfl
 have e2:2^(j+1)=2^j*2:=Nat.pow_succ ..;have eh:=jy j;rw[decide_eq_true (show (1:Int)<((2^(j+1):Nat):Int) by have:=Nat.two_pow_pos j;omega)];refine qU 3 rfl ?_;refine aa.div tok rfl rfl rfl rfl (by decide) ?_;rw[fJ _ (by omega),eh];refine qU 1 rfl ?_;refine aa.fg tok (a:=a) ((a.take (2^(j+1))).drop (2^j)) rfl rfl rfl rfl (Int.natCast_nonneg _) (Int.natCast_nonneg _) (show 2^j≤2^(j+1) by omega) (show 2^(j+1)≤a.length by omega) rfl ?_;refine aa.call tok rfl rfl rfl rfl (nc _ (by rw[List.length_drop,List.length_take];omega)) ?_;refine qU 1 rfl ?_;refine aa.nil ?_;cases hz:a9 ((a.take (2^(j+1))).drop (2^j)) with
 | true =>
   refine AW.az rfl ?_;refine AW.skip (AW.block ?_);refine qT 1 rfl ?_;refine aa.div tok rfl rfl rfl rfl (by decide) ?_;rw[fJ _ (by omega),eh];refine qU 1 rfl ?_;refine aa.nil ?_;exact⟨j,rfl,⟨by omega,by rw[← hjE];show _=if a9 ((a.take (2^(j+1))).drop (2^j))=true then _ else _;rw[if_pos hz]⟩,by omega⟩
 | false =>
 refine AW.ao rfl ?_;refine AW.exit (AW.seq ?_);refine qX 2 rfl ?_;rw[beq_eq_false_iff_ne.2 (show ((2^(j+1):Nat):Int)≠1 by have:=Nat.two_pow_pos j;omega)];refine qU 5 rfl ?_;refine aa.nil ?_;refine AW.ao rfl ?_;refine AW.skip ?_;refine qX 3 rfl ?_;refine aa.fg tok (a:=a) (a.take (2^(j+1))) rfl rfl rfl rfl trivial (Int.natCast_nonneg _) (Nat.zero_le _) (show 2^(j+1)≤a.length by omega) rfl ?_;have hq:(a.take (2^(j+1))).length≤1024:=by rw[List.length_take];omega
 refine aa.lp tok rfl rfl rfl rfl (by rw[List.length_map];show _*56≤_;omega) ?_;refine qU 1 rfl ?_;refine aa.nil ?_;rw[← hjE];unfold fN;rw[if_neg (by rw[hz];simp)];exact AW.ret rfl
theorem mb(a:NQ):aT a a.length=a:=by
 unfold aT;rw[List.take_length,Nat.sub_self];exact List.append_nil a
theorem qn{a:NQ}{i:Nat}(h:a.length≤i):aT a (i+1)=aT a i++[0]:=by
 unfold aT;rw[List.take_of_length_le h,List.take_of_length_le (by omega),Nat.succ_sub h,List.replicate_succ',List.append_assoc]
theorem iR(a:NQ)(n:Nat)(ha:a.length≤n)(hn:n≤1000000):jN Tryz.prog 117 [af a,dI n] [] (Bg (aT a n)):=by
 refine jN.intro (n:=18) tok Tryz.func117 rfl rfl rfl (Nat.le_of_ble_eq_true rfl) (by kernel_rfl) (fun B F0 w0=>?_);refine AZ.seq ?_;refine AZ.gv (fun B1 F1 w1=>?_);refine qU 1 rfl ?_;refine aa.nil ⟨rfl,?_⟩;refine AZ.seq ?_;refine AZ.gv (fun B1 F1 w1=>?_);refine qU 2 rfl ?_;refine aa.yv tok rfl rfl rfl rfl (by rw[List.length_map];show _*56≤_;omega) ?_;refine qU 1 rfl ?_;refine aa.nil ⟨rfl,?_⟩;refine AZ.seq ?_;refine AZ.block ?_;refine AZ.aD [1,5] (fun i:Nat=>(([]:List LR),([(1,.d (dI n)),(5,.ow 68 (dJ (aT a i)))]:St))) (fun i=>a.length≤i∧i≤n) (fun i=>n-i) a.length (by rw[mb];rfl) ⟨Nat.le_refl _,ha⟩ (fun i hi=>?_)
 · obtain ⟨hi,hin⟩:=hi;show AZ _ _ _ _ _ _ _ [] [(1,.d (dI n)),(5,.ow 68 (dJ (aT a i)))];have wl:=ba a i;refine AZ.seq ?_;refine AZ.seq ?_;refine AZ.gv (fun B1 F1 w1=>?_);refine qU 2 rfl ?_;rw[List.length_map,wl];refine qU 2 rfl ?_;refine aa.nil ⟨rfl,?_⟩;refine AZ.cond rfl (fun h=>?_) (fun h=>?_)
   · have hii:i<n:=by have:=of_decide_eq_true h;omega
     have hs:=qn hi;refine AZ.skip ?_;refine AZ.block ?_;refine AZ.gv (fun B1 F1 w1=>?_);refine qU 2 rfl ?_;refine aa.bs tok rfl rfl rfl rfl ?_;refine aa.lR tok rfl rfl rfl rfl rfl rfl (by rw[List.length_map,wl];show (_+1)*56≤_;omega) (by rw[List.length_map,wl];show _+1≤_;omega) ?_;refine qU 1 rfl ?_;refine aa.nil ⟨rfl,?_⟩;refine⟨i+1,?_,⟨by omega,hii⟩,by omega⟩;rw[hs];show _=(([]:List LR),([(1,.d (dI n)),(5,.ow 68 ((aT a i++[0]).map (fun q=>(Qr q).D)))]:St));rw[List.map_append,List.map_cons,gg];rfl
   have hii:i=n:=by have:=of_decide_eq_false h;omega
   subst hii;refine AZ.exit ?_;refine AZ.seq ?_;refine AZ.gv (fun B1 F1 w1=>?_);refine qU 2 rfl ?_;refine aa.nil ⟨rfl,?_⟩;refine AZ.fT 4 rfl rfl rfl (fun V=>AZ.ret ⟨.v V,rfl,V,rfl,rfl⟩)
theorem jY(a:NQ)(n:Nat)(ha:a.length≤n)(hn:n≤1000000):Pure Tryz.prog 117 [af a,dI n] (af (aT a n)):=by
 refine qJ 18 Tryz.func117 rfl rfl rfl rfl (by kernel_rfl) (fun B F0 w0=>?_);refine qX 1 rfl ?_;refine qK 2 rfl ?_;refine aa.yv tok rfl rfl rfl rfl (by rw[List.length_map];show _*56≤_;omega) ?_;refine qU 1 rfl ?_;refine qI (AW.block ?_);refine AW.aD [1,5] (fun i:Nat=>[(1,.d (dI n)),(5,.ow 68 (dJ (aT a i)))]) (fun i=>a.length≤i∧i≤n) (fun i=>n-i) a.length (by rw[mb];rfl) ⟨Nat.le_refl _,ha⟩ (fun i hi=>?_)
 · obtain ⟨hi,hin⟩:=hi;show AW _ _ _ _ _ _ _ [(1,.d (dI n)),(5,.ow 68 (dJ (aT a i)))];have wl:=ba a i;refine AW.seq ?_;refine qX 2 rfl ?_;rw[List.length_map,wl];refine qU 2 rfl ?_;refine aa.nil ?_;refine AW.cond rfl (fun h=>?_) (fun h=>?_)
   · have hii:i<n:=by have:=of_decide_eq_true h;omega
     have hs:=qn hi;refine AW.skip (AW.block ?_);refine qT 2 rfl ?_;refine aa.bs tok rfl rfl rfl rfl ?_;refine aa.lR tok rfl rfl rfl rfl rfl rfl (by rw[List.length_map,wl];show (_+1)*56≤_;omega) (by rw[List.length_map,wl];show _+1≤_;omega) ?_;refine qU 1 rfl ?_;refine aa.nil ?_;refine⟨i+1,?_,⟨by omega,hii⟩,by omega⟩;rw[hs];show _=([(1,.d (dI n)),(5,.ow 68 ((aT a i++[0]).map (fun q=>(Qr q).D)))]:St);rw[List.map_append,List.map_cons,gg];rfl
   have hii:i=n:=by have:=of_decide_eq_false h;omega
   subst hii;refine AW.exit ?_;refine qX 2 rfl ?_;exact qN rfl
theorem kM(a b:NQ){k:Nat}(ha:aC k a)(hb:aC k b)(hk:k≤17300000000000)(hl:a.length≤1000000)(hl2:b.length≤1000000):Pure Tryz.prog 70 [af a,af b] (af (bj a b)):=by
 refine qJ 37 Tryz.func70 rfl rfl rfl rfl (by kernel_rfl) (fun B F0 w0=>?_);obtain ⟨n,hn⟩: ∃n,n=max a.length b.length:=⟨_,rfl⟩;have cw1:=iR a n (by omega) (by omega);have cw2:=iR b n (by omega) (by omega);have l1:=ba a n;have l2:=ba b n;have g1: ∀i,i<n→(aT a n).getD i 0=a.getD i 0:=fun i hi=>by rw[eW,if_pos hi]
 have g2: ∀i,i<n→(aT b n).getD i 0=b.getD i 0:=fun i hi=>by rw[eW,if_pos hi]
 have hpl:(bj a b).length=n:=by rw[hZ,hn]
 generalize aT a n=wa at cw1 l1 g1;generalize aT b n=wb at cw2 l2 g2;refine qX 1 rfl ?_;refine qK 4 rfl ?_;rw[List.length_map,List.length_map];refine qU 2 rfl ?_;rw[Dd,← hn];refine qI ?_;refine AZ.aw ?_;refine AZ.region ?_;refine ai.cut 2 rfl (fun B1 F1 w1=>?_);refine qU 2 rfl ?_;refine aa.nil ⟨rfl,?_⟩;refine ai.gu tok [] rfl rfl rfl rfl rfl List.nodup_nil rfl cw1 (fun _ _ _=>Nat.zero_le _) (fun res R1 hP=>?_);obtain ⟨V1,rfl,rfl⟩:=hP;refine ai.cut 2 rfl (fun B1 F1 w1=>?_);refine qU 2 rfl ?_;refine aa.nil ⟨rfl,?_⟩;refine ai.gu tok [] rfl rfl rfl rfl rfl List.nodup_nil rfl cw2 (fun _ _ _=>Nat.zero_le _) (fun res R1 hP=>?_);obtain ⟨V2,rfl,rfl⟩:=hP;refine ai.cut 2 rfl (fun B1 F1 w1=>?_);refine qU 2 rfl ?_;refine aa.nil ⟨rfl,?_⟩;refine ai.to [0,1] [(0,.d (.v V1)),(1,.d (.v V2))] rfl ?_;refine ai.dy 0 0 (V:=V1) (av:= .ow 68 (dJ wa)) rfl rfl rfl ?_;refine ai.to [0,1] [(0,.ow 68 (dJ wa)),(1,.d (.v V2))] rfl ?_;refine ai.dy 1 1 (V:=V2) (av:= .ow 68 (dJ wb)) rfl rfl rfl ?_;refine ai.to [0,1] [(0,.ow 68 (dJ wa)),(1,.ow 68 (dJ wb))] rfl ?_;refine ai.nil ?_;refine AW.gL tok 1 rfl rfl ?_;refine AW.seq ?_;refine qX 2 rfl ?_;rw[List.length_map,l1];refine qU 1 rfl ?_;refine aa.nil ?_;refine AW.block ?_;refine AW.aD [0,1,19,20] (fun s:Nat×NQ=>[(0,.ow 68 (dJ s.2)),(1,.d (af wb)),(19,.d (dI n)),(20,.d (dI s.1))]) (fun s=>s.2.length=n∧ ∀j,j<n→s.2.getD j 0=if j<s.1 then a.getD j 0+b.getD j 0 else a.getD j 0) (fun s=>n-s.1) (0,wa) rfl ⟨l1,fun j h=>by rw[if_neg (Nat.not_lt_zero _)];exact g1 j h⟩ (fun s hi=>?_)
 · obtain ⟨i,r⟩:=s;obtain ⟨hrl,hi⟩:=hi;simp only[] at hrl hi;show AW _ _ _ _ _ _ _ [(0,.ow 68 (dJ r)),(1,.d (af wb)),(19,.d (dI n)),(20,.d (dI i))];refine qX 1 rfl ?_;refine qI ?_;refine AW.cond rfl (fun h=>?_) (fun h=>?_)
   · have hii:i<n:=by have:=of_decide_eq_true h;omega
     have e1:=ku (r:=r) (i:=i) (by omega);have e2:=ku (r:=wb) (i:=i) (by omega);rw[hi i hii,if_neg (Nat.lt_irrefl _)] at e1;rw[g2 i hii] at e2;have ca:=qV (Qr (a.getD i 0)) (Qr (b.getD i 0)) (fv _ (ha i)) (fv _ (hb i)) hk;rw[bV,bV] at ca;refine AW.skip (AW.seq (AW.block ?_));refine qX 2 rfl ?_;refine aa.nil ?_;refine AW.draw aJ 12 (by kernel_rfl) ?_;refine qP 4 rfl ?_;refine ae.fh tok rfl rfl rfl rfl rfl rfl (Int.natCast_nonneg i) (by rw[List.length_map];show i<_;omega) ?_;refine ae.b6 tok (Qr (a.getD i 0)).D rfl rfl rfl rfl rfl e1 rfl ?_;refine qP 2 rfl ?_;refine ae.idx tok (Qr (b.getD i 0)).D rfl rfl rfl rfl rfl (Int.natCast_nonneg i) e2 ?_;refine qP 1 rfl ?_;refine ae.call tok rfl rfl rfl rfl rfl ca ?_;refine ae.fh tok rfl rfl rfl rfl rfl rfl (Int.natCast_nonneg i) (by rw[List.length_map];show i<_;omega) ?_;refine ae.nil ?_;refine aa.xm tok (a.getD i 0+b.getD i 0) rfl rfl rfl (by show i<_;omega) ?_;refine aa.nil ?_;refine qT 1 rfl ?_;rw[aq (x:=(i:Int)+1) (by omega) (by omega)];refine qU 1 rfl ?_;refine aa.nil ?_;refine⟨(i+1,r.set i (a.getD i 0+b.getD i 0)),rfl,⟨by rw[List.length_set];exact hrl,fun j h1=>?_⟩,by show n-(i+1)<n-i;omega⟩;show (r.set i (a.getD i 0+b.getD i 0)).getD j 0=if j<i+1 then _ else _
     rw[xY];by_cases e:j=i
     · rw[if_pos ⟨e,by omega⟩,e,if_pos (by omega)]
     · rw[if_neg (fun h=>e h.1),hi j h1];by_cases h2:j<i
       · rw[if_pos h2,if_pos (by omega)]
       · rw[if_neg h2,if_neg (by omega)]
   have hii: ¬i<n:=by have:=of_decide_eq_false h;omega
   obtain rfl:r=bj a b:=xI (by rw[hrl,hpl]) (fun j hj=>by rw[lF,hi j (by omega),if_pos (by omega)]);refine AW.exit ?_;refine qX 2 rfl ?_;exact qN rfl
end Lift
namespace Lift
open Go Go.Proofs
theorem tf{R:NQ→NQ→NQ}{rt:List NQ}{a b:NQ}:(iP R rt a b).length≤max a.length b.length:=by
 unfold iP;split
 · exact Nat.zero_le _
 split
 · rename_i h;rw[h];exact Nat.le_refl _
 · rw[ib];omega
theorem vM{l k:Nat}{R:NQ→NQ→NQ}{rt:List NQ}{a b:NQ}(ha:aB l a)(hb:aB l b)(hrt:cZ rt)(hl:l≤rt.length)(sa:aC k a)(sb:aC k b)(sr:ff k rt)
  (hR: ∀l',l=l'+1→ ∀a' b' m,k≤m→aB l' a'→aB l' b'→aC m a'→aC m b'→aB l' (R a' b')∧aC (sT l' m) (R a' b')):aB l (iP R rt a b)∧aC (sT l k) (iP R rt a b):=by
 have hk:=sa.pos;have h2:=bN l k;unfold iP;by_cases h0:a.length=0∨b.length=0
 · rw[if_pos h0];exact⟨bG _,cE (by omega)⟩
 rw[if_neg h0];by_cases h1:max a.length b.length=1
 · rw[if_pos h1];refine⟨dG _ _,eB ?_⟩;have:=Ct (a.getD 0 0) (b.getD 0 0);have:=sa 0;have:=sb 0;omega
 rw[if_neg h1]
 obtain ⟨i,hi,hn⟩: ∃i,i≤l∧max a.length b.length=2^i:=by
  rcases ha with e | ⟨i,hi,e⟩
  · exact absurd (.inl e) h0
  rcases hb with e2 | ⟨k,hk,e2⟩
  · exact absurd (.inr e2) h0
  by_cases h:a.length≤b.length
  · exact⟨k,hk,by rw[Nat.max_eq_right h,e2]⟩
  · exact⟨i,hi,by rw[Nat.max_eq_left (by omega),e]⟩
 have w6:i≠0:=fun e=>h1 (by rw[hn,e]);obtain ⟨j,rfl⟩: ∃j,i=j+1:=⟨i-1,by omega⟩;obtain ⟨l',rfl⟩: ∃l',l=l'+1:=⟨l-1,by omega⟩;have hj:j≤l':=by omega
 have hR:=fun a' b' m h1 h2 h3 h4 h5=>hR l' rfl a' b' m h1 h2 h3 h4 h5;have wa:=ba a (max a.length b.length);have wb:=ba b (max a.length b.length);have sa:=sa.wide (max a.length b.length);have sb:=sb.wide (max a.length b.length);generalize aT a (max a.length b.length)=A at *;generalize aT b (max a.length b.length)=B at *;generalize max a.length b.length=n at *;subst hn;have e0:=jy j;have hlog:(2^(j+1)).log2-1=j:=by rw[Nat.log2_two_pow];omega
 rw[e0,hlog];obtain ⟨e1,e2,e3⟩:=bz wa;obtain ⟨f1,f2,f3⟩:=bz wb;rw[e3] at e1 e2;rw[f3] at f1 f2;have hx:aB l' (A.take (2^j)):= .inr ⟨j,hj,e1⟩;have hy:aB l' (A.drop (2^j)):= .inr ⟨j,hj,e2⟩;have hu:aB l' (B.take (2^j)):= .inr ⟨j,hj,f1⟩;have hv:aB l' (B.drop (2^j)):= .inr ⟨j,hj,f2⟩;have hd:aB l' (rt.getD j []):= .inr ⟨j,hj,hrt j (by omega)⟩;have hs0:=bN l' k;have hs1:=bN l' (sT l' k);have r1:=hR _ _ k (Nat.le_refl _) hx hu (sa.take _) (sb.take _);have r2:=hR _ _ k (Nat.le_refl _) hy hv (sa.drop _) (sb.drop _);have r3:=hR _ _ k (Nat.le_refl _) hx hv (sa.take _) (sb.drop _);have r4:=hR _ _ k (Nat.le_refl _) hy hu (sa.drop _) (sb.take _);have r5:=hR _ _ (sT l' k) (by omega) r2.1 hd r2.2 ((sr _).mono (by omega));refine⟨.inr ⟨j+1,by omega,by rw[ib,Nat.pow_succ];omega⟩,(((r1.2.plus r5.2).mono ?_).join ((r3.2.plus r4.2).mono ?_) _)⟩
 · show _≤sT l' (sT l' k)+sT l' k+1;omega
 · show _≤sT l' (sT l' k)+sT l' k+1;omega
theorem jU(a:NQ){l:Nat}(ha:aB l a):(aF a).length≤a.length:=by
 unfold aF;split
 · exact Nat.zero_le _
 have: ∀i,(fN i a).length≤a.length:=fun i=>by
  induction i with
  | zero =>
    unfold fN;split
    · exact Nat.zero_le _
    · rw[List.length_take];omega
  | succ i ih =>
    unfold fN;split
    · exact ih
    · rw[List.length_take];omega
 exact this _
theorem eX: ∀(l:Nat) {k:Nat} {rt:List NQ} {a b:NQ},aB l a→aB l b→cZ rt→l≤rt.length→aC k a→aC k b→ff k rt→aB l (eI l rt a b)∧aC (sT l k) (eI l rt a b)
 | 0,k,rt,a,b,ha,hb,hrt,hl,sa,sb,sr=>vM (bb ha sa).1 (bb hb sb).1 hrt hl (bb ha sa).2 (bb hb sb).2 sr (fun l' h=>by omega)
 | l+1,k,rt,a,b,ha,hb,hrt,hl,sa,sb,sr=>vM (bb ha sa).1 (bb hb sb).1 hrt hl (bb ha sa).2 (bb hb sb).2 sr (fun l' e a' b' m hm h1 h2 h3 h4=>by
    obtain rfl:l=l':=by omega
    exact eX l h1 h2 hrt (by omega) h3 h4 (sr.mono hm))
theorem xt: ∀(l:Nat) {rt:List NQ} {a b:NQ},aB l a→aB l b→(eI l rt a b).length≤max a.length b.length
 | 0,rt,a,b,ha,hb=>by
   have h1:=jU a ha;have h2:=jU b hb;have h3:=tf (R:=fun _ _=>[]) (rt:=rt) (a:=aF a) (b:=aF b);show (iP _ rt _ _).length≤_;omega
 | l+1,rt,a,b,ha,hb=>by
   have h1:=jU a ha;have h2:=jU b hb;have h3:=tf (R:=eI l rt) (rt:=rt) (a:=aF a) (b:=aF b);show (iP _ rt _ _).length≤_;omega
set_option maxHeartbeats 1600000 in
theorem oX{l k:Nat}{R:NQ→NQ→NQ}{rt:List NQ}{xs:List D}{a b:NQ}(ha:aB l a)(hb:aB l b)(hrt:cZ rt)(hl:l≤rt.length)(hl5:l≤5)(hxs: ∀j,j<rt.length→xs[j]?=some (af (rt.getD j [])))(sa:aC k a)(sb:aC k b)(sr:ff k rt)(hk:sT l k≤17300000000000)
  (hR: ∀l',l=l'+1→ ∀a' b' m,k≤m→aB l' a'→aB l' b'→aC m a'→aC m b'→sT l' m≤17300000000000→Pure Tryz.prog 157 [.ag [.sl 1 xs],af a',af b'] (af (R a' b'))∧(R a' b').length≤max a'.length b'.length∧aB l' (R a' b')∧aC (sT l' m) (R a' b')):
  Pure Tryz.prog 157 [.ag [.sl 1 xs],af a,af b] (af (iP R rt (aF a) (aF b))):=by
 refine qJ 105 Tryz.func157 rfl rfl rfl rfl (by kernel_rfl) (fun B F0 w0=>?_);have hk1:=sa.pos;have h2:=bN l k;have cs1:=gQ a ha hl5;have cs2:=gQ b hb hl5;obtain ⟨ha,sa⟩:=bb ha sa;obtain ⟨hb,sb⟩:=bb hb sb;generalize aF a=s at *;generalize aF b=t at *;have hla:=ha.len (by omega);have hlb:=hb.len (by omega);refine qX 2 rfl ?_;refine qK 1 rfl ?_;refine aa.call tok rfl rfl rfl rfl cs1 ?_;refine qU 1 rfl ?_;refine aa.call tok rfl rfl rfl rfl cs2 ?_;refine qU 2 rfl ?_;refine qK 4 rfl ?_;rw[List.length_map,List.length_map];refine qU 2 rfl ?_;rw[Dd];refine qI ?_;refine qX 2 rfl ?_;rw[List.length_map];refine qU 1 rfl ?_;unfold iP;by_cases h0:s.length=0
 · have h00:s.length=0∨t.length=0:= .inl h0;rw[beq_iff_eq.2 (show (s.length:Int)=0 by omega),if_pos h00];refine qU 5 rfl ?_;refine aa.nil ?_;refine AW.az rfl ?_;refine qX 1 rfl ?_;exact qN rfl
 rw[beq_eq_false_iff_ne.2 (show (s.length:Int)≠0 by omega)];refine qU 3 rfl ?_;rw[List.length_map];refine qU 1 rfl ?_;by_cases h01:t.length=0
 · have h00:s.length=0∨t.length=0:= .inr h01;rw[beq_iff_eq.2 (show (t.length:Int)=0 by omega),if_pos h00];refine qU 1 rfl ?_;refine aa.nil ?_;refine AW.az rfl ?_;refine qX 1 rfl ?_;exact qN rfl
 have h00: ¬(s.length=0∨t.length=0):=fun h=>h.elim h0 h01;rw[beq_eq_false_iff_ne.2 (show (t.length:Int)≠0 by omega),if_neg h00];refine qU 1 rfl ?_;refine aa.nil ?_;refine AW.ao rfl ?_;refine AW.skip (AW.seq (AW.seq (AW.region ?_)));obtain ⟨n,hn⟩: ∃n,n=max s.length t.length:=⟨_,rfl⟩;rw[← hn];refine qU 2 rfl ?_;by_cases h1:n=1
 · rw[if_pos h1,beq_iff_eq.2 (show (n:Int)=1 by omega)];have g1:=ku (r:=s) (i:=0) (by omega);have g2:=ku (r:=t) (i:=0) (by omega);have cm:=xB (Qr (s.getD 0 0)) (Qr (t.getD 0 0)) (k:=k) (fv _ (sa 0)) (fv _ (sb 0)) (by omega);rw[bV,bV] at cm;refine aa.nil ?_;refine AW.az rfl ?_;refine AW.seq ?_;refine AW.draw aJ 8 (by kernel_rfl) ?_;refine qP 1 rfl ?_;refine ae.idx tok (Qr (s.getD 0 0)).D rfl rfl rfl rfl rfl (Int.le_refl _) g1 ?_;refine qP 2 rfl ?_;refine ae.idx tok (Qr (t.getD 0 0)).D rfl rfl rfl rfl rfl (Int.le_refl _) g2 ?_;refine qP 1 rfl ?_;refine ae.call tok rfl rfl rfl rfl rfl cm ?_;refine ae.mF tok rfl rfl rfl rfl rfl rfl ?_;refine ae.nil ?_;refine qU 1 rfl ?_;exact qN rfl
 rw[if_neg h1,beq_eq_false_iff_ne.2 (show (n:Int)≠1 by omega)];refine aa.nil ?_;refine AW.ao rfl ?_;refine AW.skip ?_
 obtain ⟨i,hi,hni⟩: ∃i,i≤l∧n=2^i:=by
  rcases ha with e | ⟨i,hi,e⟩
  · exact absurd e h0
  rcases hb with e2 | ⟨k,hk,e2⟩
  · exact absurd e2 h01
  by_cases h:s.length≤t.length
  · exact⟨k,hk,by rw[hn,Nat.max_eq_right h,e2]⟩
  · exact⟨i,hi,by rw[hn,Nat.max_eq_left (by omega),e]⟩
 have hsn:s.length≤n:=by omega
 have htn:t.length≤n:=by omega
 have hn9:n≤1024:=by omega
 clear hn;have w6:i≠0:=fun e=>h1 (by rw[hni,e]);obtain ⟨j,rfl⟩: ∃j,i=j+1:=⟨i-1,by omega⟩;obtain ⟨l',rfl⟩: ∃l',l=l'+1:=⟨l-1,by omega⟩;have hj:j≤l':=by omega
 have hR:=fun a' b' m h1 h2 h3 h4 h5=>hR l' rfl a' b' m h1 h2 h3 h4 h5;have hs0:=bN l' k;have hs1:=bN l' (sT l' k);have hk:sT l' (sT l' k)+sT l' k+1≤17300000000000:=hk;have cw1:=jY s n hsn (by omega);have cw2:=jY t n htn (by omega);have cp:=eC hni (by omega);have wa:=ba s n;have wb:=ba t n;have sa:=sa.wide n;have sb:=sb.wide n;generalize aT s n=A at *;generalize aT t n=B at *;have e0:=jy j;have hlog:n.log2-1=j:=by rw[hni,Nat.log2_two_pow];omega
 obtain ⟨e1,e2,e3⟩:=bz (wa.trans hni);obtain ⟨f1,f2,f3⟩:=bz (wb.trans hni);rw[hlog];obtain ⟨h,hh⟩: ∃h,h=n / 2:=⟨_,rfl⟩
 have hnh:n=h+h:=by
  have:2^(j+1)=2^j*2:=Nat.pow_succ ..;omega
 have hh2:h=2^j:=by rw[hh,hni,e0]
 rw[wa,← hh] at e1 e2;rw[wb,← hh] at f1 f2;rw[← hh];have hx:aB l' (A.take h):= .inr ⟨j,hj,e1⟩;have hy:aB l' (A.drop h):= .inr ⟨j,hj,e2⟩;have hu:aB l' (B.take h):= .inr ⟨j,hj,f1⟩;have hv:aB l' (B.drop h):= .inr ⟨j,hj,f2⟩;have hdl:=hrt j (by omega);have hd:aB l' (rt.getD j []):= .inr ⟨j,hj,hdl⟩;have r1:=hR _ _ k (Nat.le_refl _) hx hu (sa.take _) (sb.take _) (by omega);have r2:=hR _ _ k (Nat.le_refl _) hy hv (sa.drop _) (sb.drop _) (by omega);have r3:=hR _ _ k (Nat.le_refl _) hx hv (sa.take _) (sb.drop _) (by omega);have r4:=hR _ _ k (Nat.le_refl _) hy hu (sa.drop _) (sb.take _) (by omega);have r5:=hR _ _ (sT l' k) (by omega) r2.2.2.1 hd r2.2.2.2 ((sr _).mono (by omega)) (by omega);have n1:(R (A.take h) (B.take h)).length≤h:=Nat.le_trans r1.2.1 (Nat.max_le.2 ⟨by omega,by omega⟩);have n2:(R (A.drop h) (B.drop h)).length≤h:=Nat.le_trans r2.2.1 (Nat.max_le.2 ⟨by omega,by omega⟩);have n3:(R (A.take h) (B.drop h)).length≤h:=Nat.le_trans r3.2.1 (Nat.max_le.2 ⟨by omega,by omega⟩);have n4:(R (A.drop h) (B.take h)).length≤h:=Nat.le_trans r4.2.1 (Nat.max_le.2 ⟨by omega,by omega⟩);have n5:(R (R (A.drop h) (B.drop h)) (rt.getD j [])).length≤h:=Nat.le_trans r5.2.1 (Nat.max_le.2 ⟨n2,by omega⟩);have r1:=And.intro r1.1 r1.2.2;have r2:=And.intro r2.1 r2.2.2;have r3:=And.intro r3.1 r3.2.2;have r4:=And.intro r4.1 r4.2.2;have r5:=And.intro r5.1 r5.2.2;have p1:=kM (R (A.take h) (B.take h)) (R (R (A.drop h) (B.drop h)) (rt.getD j [])) (k:=sT l' (sT l' k)) (r1.2.2.mono (by omega)) r5.2.2 (by omega) (by omega) (by omega);have p2:=kM (R (A.take h) (B.drop h)) (R (A.drop h) (B.take h)) (k:=sT l' k) r3.2.2 r4.2.2 (by omega) (by omega) (by omega);have q1:(bj (R (A.take h) (B.take h)) (R (R (A.drop h) (B.drop h)) (rt.getD j []))).length≤h:=by rw[hZ];exact Nat.max_le.2 ⟨n1,n5⟩
 have q2:(bj (R (A.take h) (B.drop h)) (R (A.drop h) (B.take h))).length≤h:=by rw[hZ];exact Nat.max_le.2 ⟨n3,n4⟩
 have cw3:=iR (bj (R (A.take h) (B.take h)) (R (R (A.drop h) (B.drop h)) (rt.getD j []))) h q1 (by omega);have cw4:=iR (bj (R (A.take h) (B.drop h)) (R (A.drop h) (B.take h))) h q2 (by omega);unfold fI;refine qX 2 rfl ?_;refine aa.call tok rfl rfl rfl rfl cw1 ?_;refine qU 2 rfl ?_;refine aa.call tok rfl rfl rfl rfl cw2 ?_;refine qU 2 rfl ?_;refine qK 1 rfl ?_;refine aa.call tok rfl rfl rfl rfl cp ?_;refine qU 5 rfl ?_;refine qI ?_;refine AW.draw aJ 19 (by kernel_rfl) ?_;refine qP 2 rfl ?_;refine ae.div tok rfl rfl rfl rfl rfl (by decide) ?_;rw[fJ _ (by omega),← hh];refine ae.fg tok (a:=A) (A.take h) rfl rfl rfl rfl rfl trivial (Int.natCast_nonneg h) (Nat.zero_le _) (show h≤A.length by omega) rfl ?_;refine qP 2 rfl ?_;refine ae.div tok rfl rfl rfl rfl rfl (by decide) ?_;rw[fJ _ (by omega),← hh];refine ae.fg tok (a:=A) (A.drop h) rfl rfl rfl rfl rfl (Int.natCast_nonneg h) trivial (show h≤A.length by omega) (Nat.le_refl _) (by show (A.take A.length).drop h=_;rw[List.take_length]) ?_;refine qP 2 rfl ?_;refine ae.div tok rfl rfl rfl rfl rfl (by decide) ?_;rw[fJ _ (by omega),← hh];refine ae.fg tok (a:=B) (B.take h) rfl rfl rfl rfl rfl trivial (Int.natCast_nonneg h) (Nat.zero_le _) (show h≤B.length by omega) rfl ?_;refine qP 2 rfl ?_;refine ae.div tok rfl rfl rfl rfl rfl (by decide) ?_;rw[fJ _ (by omega),← hh];refine ae.fg tok (a:=B) (B.drop h) rfl rfl rfl rfl rfl (Int.natCast_nonneg h) trivial (show h≤B.length by omega) (Nat.le_refl _) (by show (B.take B.length).drop h=_;rw[List.take_length]) ?_;refine qP 3 rfl ?_;refine ae.nil ?_;refine qU 1 rfl ?_;refine aa.nil ?_;refine AW.cU [3,7,8,10,11,12,13] ?_;show AW _ _ _ _ _ _ _ [(3,.bx [.sl 1 xs]),(7,.d (dI n)),(8,.d (dI (j+1:Nat))),(10,.d (af (A.take h))),(11,.d (af (A.drop h))),(12,.d (af (B.take h))),(13,.d (af (B.drop h)))];refine AW.seq ?_;refine AW.draw aJ 17 (by kernel_rfl) ?_;refine qP 3 rfl ?_;refine ae.call tok rfl rfl rfl rfl rfl r1.1 ?_;refine qP 4 rfl ?_;refine ae.call tok rfl rfl rfl rfl rfl r2.1 ?_;refine qP 4 rfl ?_;rw[aq (x:=((j+1:Nat):Int) -1) (by omega) (by omega),show ((j+1:Nat):Int) -1=(j:Int) by omega];refine ae.idx tok (af (rt.getD j [])) rfl rfl rfl rfl rfl (Int.natCast_nonneg j) (hxs j (by omega)) ?_;refine qP 1 rfl ?_;refine ae.call tok rfl rfl rfl rfl rfl r5.1 ?_;refine ae.call tok rfl rfl rfl rfl rfl p1 ?_;refine ae.nil ?_;refine qU 1 rfl ?_;refine qI ?_;refine AW.draw aJ 9 (by kernel_rfl) ?_;refine qP 3 rfl ?_;refine ae.call tok rfl rfl rfl rfl rfl r3.1 ?_;refine qP 3 rfl ?_;refine ae.call tok rfl rfl rfl rfl rfl r4.1 ?_;refine ae.call tok rfl rfl rfl rfl rfl p2 ?_;refine ae.nil ?_;refine qU 1 rfl ?_;refine aa.nil ?_;have l1:=ba (bj (R (A.take h) (B.take h)) (R (R (A.drop h) (B.drop h)) (rt.getD j []))) h;have l2:=ba (bj (R (A.take h) (B.drop h)) (R (A.drop h) (B.take h))) h;generalize bj (R (A.take h) (B.take h)) (R (R (A.drop h) (B.drop h)) (rt.getD j []))=P1 at *;generalize bj (R (A.take h) (B.drop h)) (R (A.drop h) (B.take h))=P2 at *;refine AW.cU [7,14,15] ?_;show AW _ _ _ _ _ _ _ [(7,.d (dI n)),(14,.d (af P1)),(15,.d (af P2))];generalize aT P1 h=wa at *;generalize aT P2 h=wb at *;refine AW.seq ?_;refine AZ.aw ?_;refine AZ.region ?_;refine ai.cut 3 rfl (fun B1 F1 w1=>?_);refine qU 2 rfl ?_;refine aa.div tok rfl rfl rfl rfl (by decide) ?_;rw[fJ _ (by omega),← hh];refine aa.nil ⟨rfl,?_⟩;refine ai.gu tok [] rfl rfl rfl rfl rfl List.nodup_nil rfl cw3 (fun _ _ _=>Nat.zero_le _) (fun res R1 hP=>?_);obtain ⟨V1,rfl,rfl⟩:=hP;refine ai.cut 3 rfl (fun B1 F1 w1=>?_);refine qU 2 rfl ?_;refine aa.div tok rfl rfl rfl rfl (by decide) ?_;rw[fJ _ (by omega),← hh];refine aa.nil ⟨rfl,?_⟩;refine ai.gu tok [] rfl rfl rfl rfl rfl List.nodup_nil rfl cw4 (fun _ _ _=>Nat.zero_le _) (fun res R1 hP=>?_);obtain ⟨V2,rfl,rfl⟩:=hP;refine ai.to [99,103] [(99,.d (.v V1)),(103,.d (.v V2))] rfl ?_;refine ai.dy 99 0 (V:=V1) (av:= .ow 68 (dJ wa)) rfl rfl rfl ?_;refine ai.to [99,103] [(99,.ow 68 (dJ wa)),(103,.d (.v V2))] rfl ?_;refine ai.dy 103 1 (V:=V2) (av:= .ow 68 (dJ wb)) rfl rfl rfl ?_;refine ai.to [99,103] [(99,.ow 68 (dJ wa)),(103,.ow 68 (dJ wb))] rfl ?_;refine ai.cut 2 rfl (fun B1 F1 w1=>?_);refine aa.gL tok 103 rfl rfl ?_;refine aa.lR tok rfl rfl rfl rfl rfl rfl (by rw[List.length_map,List.length_map,l1,l2];show (_+_)*56≤_;omega) (by rw[List.length_map,List.length_map,l1,l2];omega) ?_;refine qU 1 rfl ?_;refine aa.nil ⟨rfl,?_⟩;refine ai.nil ?_;rw[show dJ wa++dJ wb=dJ (wa++wb) from List.map_append.symm];exact AW.ret rfl
theorem gO: ∀(l:Nat) {k:Nat} {rt:List NQ} {xs:List D} {a b:NQ},aB l a→aB l b→cZ rt→l≤rt.length→l≤5→(∀j,j<rt.length→xs[j]?=some (af (rt.getD j [])))→aC k a→aC k b→ff k rt→sT l k≤17300000000000→Pure Tryz.prog 157 [.ag [.sl 1 xs],af a,af b] (af (eI l rt a b))
 | 0,k,rt,xs,a,b,ha,hb,hrt,hl,hl5,hxs,sa,sb,sr,hk=>oX ha hb hrt hl hl5 hxs sa sb sr hk (fun l' h=>by omega)
 | l+1,k,rt,xs,a,b,ha,hb,hrt,hl,hl5,hxs,sa,sb,sr,hk=>oX ha hb hrt hl hl5 hxs sa sb sr hk (fun l' e a' b' m hm h1 h2 h3 h4 h5=>by
    obtain rfl:l=l':=by omega
    exact⟨gO l h1 h2 hrt (by omega) (by omega) hxs h3 h4 (sr.mono hm) h5,xt l h1 h2,eX l h1 h2 hrt (by omega) h3 h4 (sr.mono hm)⟩)
end Lift
namespace Lift
open Go Go.Proofs
theorem A4{l k j:Nat}{rt:List NQ}{a:NQ}(hj:j≤l)(ha:a.length=2^(j+1))(hrt:cZ rt)(hl:l<rt.length)(sa:aC k a)(sr:ff k rt):aB l (jd l rt a)∧aC (sT (l+1) k) (jd l rt a):=by
 obtain ⟨e1,e2,e3⟩:=bz ha;have hx:aB l (a.take (a.length / 2)):= .inr ⟨j,hj,e1⟩;have hy:aB l (a.drop (a.length / 2)):= .inr ⟨j,hj,e2⟩;have hlog:a.length.log2-1=j:=by rw[ha,Nat.log2_two_pow];omega
 have hd:aB l (rt.getD j []):= .inr ⟨j,hj,hrt j (by omega)⟩;have h0:=bN l k;have h1:=bN l (sT l k);have r1:=eX l hx hx hrt (by omega) (sa.take _) (sa.take _) sr;have r2:=eX l hy hy hrt (by omega) (sa.drop _) (sa.drop _) sr;have r3:=eX l r2.1 hd hrt (by omega) r2.2 ((sr _).mono (by omega)) (sr.mono (by omega));unfold jd;rw[hlog];refine⟨r1.1.plus r3.1.minus,(r1.2.plus r3.2.minus).mono ?_⟩;show _≤sT l (sT l k)+sT l k+1;omega
theorem vR{l k j:Nat}{rt:List NQ}{xs:List D}{a:NQ}(hj:j≤l)(ha:a.length=2^(j+1))(hrt:cZ rt)(hl:l<rt.length)(hl5:l+1≤5)(hxs: ∀j,j<rt.length→xs[j]?=some (af (rt.getD j [])))(sa:aC k a)(sr:ff k rt)(hk:sT (l+1) k≤17300000000000):
  Pure Tryz.prog 116 [.ag [.sl 1 xs],af a,dI a.length] (af (jd l rt a)):=by
 refine qJ 45 Tryz.func116 rfl rfl rfl rfl (by kernel_rfl) (fun B F0 w0=>?_);obtain ⟨e1,e2,e3⟩:=bz ha;have hx:aB l (a.take (a.length / 2)):= .inr ⟨j,hj,e1⟩;have hy:aB l (a.drop (a.length / 2)):= .inr ⟨j,hj,e2⟩;have hlog:a.length.log2-1=j:=by rw[ha,Nat.log2_two_pow];omega
 have hd:aB l (rt.getD j []):= .inr ⟨j,hj,hrt j (by omega)⟩;have h0:=bN l k;have h1:=bN l (sT l k);have hk:sT l (sT l k)+sT l k+1≤17300000000000:=hk;have hp:2^(j+1)≤2^10:=Nat.pow_le_pow_right (by decide) (by omega);have r1:=eX l hx hx hrt (by omega) (sa.take _) (sa.take _) sr;have r2:=eX l hy hy hrt (by omega) (sa.drop _) (sa.drop _) sr;have r3:=eX l r2.1 hd hrt (by omega) r2.2 ((sr _).mono (by omega)) (sr.mono (by omega));have c1:=gO l hx hx hrt (by omega) (by omega) hxs (sa.take _) (sa.take _) sr (by omega);have c2:=gO l hy hy hrt (by omega) (by omega) hxs (sa.drop _) (sa.drop _) sr (by omega);have c3:=gO l r2.1 hd hrt (by omega) (by omega) hxs r2.2 ((sr j).mono (by omega)) (sr.mono (by omega)) (by omega);have n1:=r1.1.len (by omega);have n3:=r3.1.len (by omega);have c4:=o7 _ r3.2 (by omega) (by omega);have c5:=kM _ _ (k:=sT l (sT l k)) (r1.2.mono (by omega)) r3.2.minus (by omega) (by omega) (by rw[iC];omega);have cw:=jY a a.length (Nat.le_refl _) (by omega);rw[mb] at cw;have cp:=eC ha (by omega);unfold jd;rw[hlog];obtain ⟨n,hn⟩: ∃n,n=a.length / 2:=⟨_,rfl⟩;rw[← hn] at e1 e2 e3 hx hy c1 c2 c3 c4 c5 ⊢;refine qX 2 rfl ?_;refine qK 2 rfl ?_;refine aa.call tok rfl rfl rfl rfl cw ?_;refine qU 1 rfl ?_;refine qK 1 rfl ?_;refine aa.call tok rfl rfl rfl rfl cp ?_;refine qU 5 rfl ?_;refine qI ?_;refine AW.draw aJ 9 (by kernel_rfl) ?_;refine qP 2 rfl ?_;refine ae.div tok rfl rfl rfl rfl rfl (by decide) ?_;rw[fJ _ (by omega),← hn];refine ae.fg tok (a:=a) (a.take n) rfl rfl rfl rfl rfl trivial (Int.natCast_nonneg n) (Nat.zero_le _) (show n≤a.length by omega) rfl ?_;refine qP 2 rfl ?_;refine ae.div tok rfl rfl rfl rfl rfl (by decide) ?_;rw[fJ _ (by omega),← hn];refine ae.fg tok (a:=a) (a.drop n) rfl rfl rfl rfl rfl (Int.natCast_nonneg n) trivial (show n≤a.length by omega) (Nat.le_refl _) (by show (a.take a.length).drop n=_;rw[List.take_length]) ?_;refine qP 1 rfl ?_;refine ae.nil ?_;refine qU 1 rfl ?_;refine qI ?_;refine AW.draw aJ 18 (by kernel_rfl) ?_;refine qP 3 rfl ?_;refine ae.call tok rfl rfl rfl rfl rfl c1 ?_;refine qP 4 rfl ?_;refine ae.call tok rfl rfl rfl rfl rfl c2 ?_;refine qP 4 rfl ?_;rw[aq (x:=((j+1:Nat):Int) -1) (by omega) (by omega),show ((j+1:Nat):Int) -1=(j:Int) by omega];refine ae.idx tok (af (rt.getD j [])) rfl rfl rfl rfl rfl (Int.natCast_nonneg j) (hxs j (by omega)) ?_;refine qP 1 rfl ?_;refine ae.call tok rfl rfl rfl rfl rfl c3 ?_;refine ae.call tok rfl rfl rfl rfl rfl c4 ?_;refine ae.call tok rfl rfl rfl rfl rfl c5 ?_;refine ae.nil ?_;refine qU 1 rfl ?_;exact qN rfl
theorem s9{R:NQ→Int}{N:NQ→NQ}{rt:List NQ}{a:NQ}(hR: ∀b,sW (R b)):sW (lX R N rt a):=by
 unfold lX;split
 · exact .inl rfl
 split
 · exact nX _
 split
 · exact hR _
 split
 · exact jR (hR _) (hR _)
 · exact jR (hR _) (hR _)
theorem qE: ∀(l:Nat) (rt:List NQ) (a:NQ),sW (nY l rt a)
 | 0,rt,a=>s9 (fun _=> .inl rfl)
 | l+1,rt,a=>s9 (fun b=>qE l rt b)
set_option maxHeartbeats 1600000 in
theorem qD{l k:Nat}{R:NQ→Int}{N:NQ→NQ}{rt:List NQ}{xs:List D}{a:NQ}(ha:aB l a)(hl5:l≤5)(hrt:cZ rt)(hl:l≤rt.length)(hxs: ∀j,j<rt.length→xs[j]?=some (af (rt.getD j [])))(sa:aC k a)(sr:ff k rt)(hok:pb l k)
  (hR: ∀l',l=l'+1→ ∀b m,aB l' b→aC m b→k≤m→pb l' m→Pure Tryz.prog 67 [.ag [.sl 1 xs],af b] (dI (R b))) (hT: ∀b,sW (R b))
  (hN: ∀l',l=l'+1→ ∀b j,j≤l'→b.length=2^(j+1)→aC k b→Pure Tryz.prog 116 [.ag [.sl 1 xs],af b,dI b.length] (af (N b))∧aB l' (N b)∧aC (sT l k) (N b)):
  Pure Tryz.prog 67 [.ag [.sl 1 xs],af a] (dI (lX R N rt (aF a))):=by
 refine qJ 70 Tryz.func67 rfl rfl rfl rfl (by kernel_rfl) (fun B F0 w0=>?_);have hk:=uC hok;have cs:=gQ a ha hl5;obtain ⟨ha,sa⟩:=bb ha sa;generalize aF a=b at cs ha sa ⊢;have hlb:=ha.len (by omega);unfold lX;refine qX 2 rfl ?_;refine qK 1 rfl ?_;refine aa.call tok rfl rfl rfl rfl cs ?_;refine qU 1 rfl ?_;refine qI ?_;refine qX 2 rfl ?_;rw[List.length_map];refine qU 1 rfl ?_;refine aa.nil ?_;by_cases h0:b.length=0
 · rw[if_pos h0,h0];refine AW.az rfl ?_;refine qX 1 rfl ?_;exact qN rfl
 rw[if_neg h0,beq_eq_false_iff_ne.2 (show (b.length:Int)≠0 by omega)];refine AW.ao rfl ?_;refine AW.skip ?_;refine qX 2 rfl ?_;rw[List.length_map];refine qU 1 rfl ?_;refine qI ?_;refine qX 2 rfl ?_;refine aa.nil ?_;by_cases h1:b.length=1
 · have g:=ku (r:=b) (i:=0) (by omega);have cq:=o8 (Qr (b.getD 0 0)) (fv _ (sa 0)) (by omega);rw[bV,yP] at cq;rw[if_pos h1,h1];refine AW.az rfl ?_;refine qX 1 rfl ?_;refine aa.idx tok (Qr (b.getD 0 0)).D rfl rfl rfl rfl (Int.le_refl _) g ?_;refine qU 1 rfl ?_;refine aa.call tok rfl rfl rfl rfl cq ?_;refine qU 1 rfl ?_;exact qN rfl
 rw[if_neg h1,beq_eq_false_iff_ne.2 (show (b.length:Int)≠1 by omega)];refine AW.ao rfl ?_;refine AW.skip ?_
 obtain ⟨i,hi,hla2⟩: ∃i,i≤l∧b.length=2^i:=by
  rcases ha with e | e
  · omega
  · exact e
 have w6:i≠0:=fun e=>h1 (by rw[hla2,e]);obtain ⟨j,rfl⟩: ∃j,i=j+1:=⟨i-1,by omega⟩;obtain ⟨l',rfl⟩: ∃l',l=l'+1:=⟨l-1,by omega⟩;have hj:j≤l':=by omega
 have hN:=hN l' rfl b j hj hla2 sa;have hR:=fun b m h1 h2 h3 h4=>hR l' rfl b m h1 h2 h3 h4;obtain ⟨e1,e2,e3⟩:=bz hla2;have hx:aB l' (b.take (b.length / 2)):= .inr ⟨j,hj,e1⟩;have hy:aB l' (b.drop (b.length / 2)):= .inr ⟨j,hj,e2⟩;have hlog:b.length.log2-1=j:=by rw[hla2,Nat.log2_two_pow];omega
 have hd:aB l' (rt.getD j []):= .inr ⟨j,hj,hrt j (by omega)⟩;have hk2:=bN (l'+1) k;have r1:=hR _ k hx (sa.take _) (Nat.le_refl _) (iy hok);have r2:=hR _ k hy (sa.drop _) (Nat.le_refl _) (iy hok);have r3:=hR _ k hd (sr j) (Nat.le_refl _) (iy hok);have r4:=hR _ _ hN.2.1 hN.2.2 (by omega) hok.2;have t1:=hT (b.take (b.length / 2));have t2:=jR (hT (b.drop (b.length / 2))) (hT (rt.getD j []));have t4:=jR t1 (hT (N b));have cn:=hN.1;have cp:=eC hla2 (by omega);rw[hlog];obtain ⟨n,hn⟩: ∃n,n=b.length / 2:=⟨_,rfl⟩;rw[← hn] at e1 e2 e3 hx hy r1 r2 t1 t2 t4 ⊢;generalize R (b.take n)=x at r1 t1 t4 ⊢;generalize R (b.drop n)=y at r2 t2 ⊢;generalize R (rt.getD j [])=z at r3 t2 ⊢;generalize R (N b)=u at r4 t4 ⊢;refine qX 1 rfl ?_;refine aa.call tok rfl rfl rfl rfl cp ?_;refine qU 5 rfl ?_;refine qK 4 rfl ?_;rw[aq (x:=((j+1:Nat):Int) -1) (by omega) (by omega),show ((j+1:Nat):Int) -1=(j:Int) by omega];refine aa.idx tok (af (rt.getD j [])) rfl rfl rfl rfl (Int.natCast_nonneg j) (hxs j (by omega)) ?_;refine qU 2 rfl ?_;refine qI ?_;refine AW.draw aJ 17 (by kernel_rfl) ?_;refine qP 3 rfl ?_;refine ae.div tok rfl rfl rfl rfl rfl (by decide) ?_;rw[fJ _ (by omega),← hn];refine ae.fg tok (a:=b) (b.take n) rfl rfl rfl rfl rfl trivial (Int.natCast_nonneg n) (Nat.zero_le _) (show n≤b.length by omega) rfl ?_;refine ae.call tok rfl rfl rfl rfl rfl r1 ?_;refine qP 3 rfl ?_;refine ae.div tok rfl rfl rfl rfl rfl (by decide) ?_;rw[fJ _ (by omega),← hn];refine ae.fg tok (a:=b) (b.drop n) rfl rfl rfl rfl rfl (Int.natCast_nonneg n) trivial (show n≤b.length by omega) (Nat.le_refl _) (by show (b.take b.length).drop n=_;rw[List.take_length]) ?_;refine ae.call tok rfl rfl rfl rfl rfl r2 ?_;refine qP 2 rfl ?_;refine ae.call tok rfl rfl rfl rfl rfl r3 ?_;refine qP 1 rfl ?_;rw[aq (x:=y*z) (by unfold sW at t2;omega) (by unfold sW at t2;omega)];refine qP 1 rfl ?_;refine ae.nil ?_;refine qU 1 rfl ?_;refine aa.nil ?_;refine AW.cU [1,2,5,9,10] ?_;show AW _ _ _ _ _ _ _ [(1,.d (af b)),(2,.bx [.sl 1 xs]),(5,.d (dI b.length)),(9,.d (.v (.int .i64 x))),(10,.d (.v (.int .i64 (y*z))))];generalize y*z=yz at t2 ⊢;refine AW.seq ?_;refine qX 3 rfl ?_;by_cases hxy:x=yz
 · have hor:x=yz∨yz=0:= .inl hxy;rw[if_pos hor,beq_iff_eq.2 hxy];refine qU 4 rfl ?_;refine aa.nil ?_;refine AW.az rfl ?_;refine qX 2 rfl ?_;exact qN rfl
 rw[beq_eq_false_iff_ne.2 hxy];refine qU 3 rfl ?_;by_cases hy0:yz=0
 · have hor:x=yz∨yz=0:= .inr hy0;rw[if_pos hor,beq_iff_eq.2 hy0];refine qU 1 rfl ?_;refine aa.nil ?_;refine AW.az rfl ?_;refine qX 2 rfl ?_;exact qN rfl
 have hor: ¬(x=yz∨yz=0):=fun h=>h.elim hxy hy0;rw[if_neg hor,beq_eq_false_iff_ne.2 hy0];refine qU 1 rfl ?_;refine aa.nil ?_;refine AW.ao rfl ?_;refine AW.skip (AW.seq ?_);refine qX 2 rfl ?_;refine aa.nil ?_;by_cases hx0:x=0
 · rw[if_pos hx0,beq_iff_eq.2 hx0];refine AW.az rfl ?_;refine qX 2 rfl ?_;exact qN rfl
 rw[if_neg hx0,beq_eq_false_iff_ne.2 hx0];refine AW.ao rfl ?_;refine AW.skip (AW.seq ?_);refine AW.draw aJ 8 (by kernel_rfl) ?_;refine qP 5 rfl ?_;refine ae.call tok rfl rfl rfl rfl rfl cn ?_;refine ae.call tok rfl rfl rfl rfl rfl r4 ?_;refine qP 1 rfl ?_;rw[aq (x:=x*u) (by unfold sW at t4;omega) (by unfold sW at t4;omega)];refine ae.nil ?_;refine qU 1 rfl ?_;exact qN rfl
theorem o6: ∀(l:Nat) {k:Nat} {rt:List NQ} {xs:List D} {a:NQ},aB l a→l≤5→cZ rt→l≤rt.length→(∀j,j<rt.length→xs[j]?=some (af (rt.getD j [])))→aC k a→ff k rt→pb l k→Pure Tryz.prog 67 [.ag [.sl 1 xs],af a] (dI (nY l rt a))
 | 0,k,rt,xs,a,ha,hl5,hrt,hl,hxs,sa,sr,hok=>qD ha hl5 hrt hl hxs sa sr hok (fun l' h=>by omega) (fun _=> .inl rfl) (fun l' h=>by omega)
 | l+1,k,rt,xs,a,ha,hl5,hrt,hl,hxs,sa,sr,hok=>qD ha hl5 hrt hl hxs sa sr hok (fun l' e b m h1 h2 h3 h4=>by
    obtain rfl:l=l':=by omega
    exact o6 l h1 (by omega) hrt (by omega) hxs h2 (sr.mono h3) h4) (qE l rt) (fun l' e b j h1 h2 h3=>by
    obtain rfl:l=l':=by omega
    exact⟨vR h1 h2 hrt (by omega) (by omega) hxs h3 sr hok.1,A4 h1 h2 hrt (by omega) h3 sr⟩)
end Lift
namespace Lift
open Go Go.Proofs
theorem Et{v:List NQ}(ro:cZ v)(ps: ∀k,k<v.length→ ¬ep k (v.take k) (v.getD k [])<0):Cs v:=fun j hj=>by
 have h:=ps j hj
 have e: ∀i,i<j→(v.take j).getD i []=v.getD i []:=fun i hi=>by
  rw[List.getD_eq_getElem?_getD,List.getElem?_take_of_lt hi,List.getD_eq_getElem?_getD]
 have ro2:cZ (v.take j):=fun i hi=>by
  rw[List.length_take] at hi;rw[e i (by omega)];exact ro i (by omega)
 have lt:aB j (v.getD j []):= .inr ⟨j,Nat.le_refl _,ro j hj⟩;rw[ly j lt ro2 (by rw[List.length_take];omega)] at h
 have key: ∀(l:Nat) (a:Cf),l≤j→bI (v.take j) l a=bI v l a∧ ∀b:Cf,mulC (v.take j) l a b=mulC v l a b:=by
  intro l
  induction l with
  | zero=>exact fun a _=>⟨rfl,fun b=>rfl⟩
  | succ l ih =>
    intro a hl;have hm: ∀x y:Cf,mulC (v.take j) l x y=mulC v l x y:=fun x y=>(ih x (by omega)).2 y;have hs: ∀x:Cf,bI (v.take j) l x=bI v l x:=fun x=>(ih x (by omega)).1;refine⟨?_,fun b=>?_⟩
    · unfold bI iA;simp only[hm,hs,e l (by omega)]
    · funext i;show (if i<2^l then mulC (v.take j) l a b i+mulC (v.take j) l (mulC (v.take j) l (eP l a) (eP l b)) (cf ((v.take j).getD l [])) i else mulC (v.take j) l a (eP l b) (i-2^l)+mulC (v.take j) l (eP l a) b (i-2^l))=_;simp only[hm,e l (by omega)];rfl
 rw[(key j _ (Nat.le_refl _)).1] at h;omega
theorem A9{rt:List (List RD)}{i:Nat}(hi:i≤rt.length)(h: ∀j,j<i→so rt j=0):Cs ((rt.take i).map ar):=Et (jQ hi h) (fun k hk=>by
 rw[ew hi] at hk;have h1:=(fO (h k hk)).2.2;rw[mR hk,← List.map_take,List.take_take,Nat.min_eq_left (by omega)]
 exact h1)
theorem AJ{rt:List (List RD)}{i:Nat}(hi:i≤rt.length)(h: ∀j,j<i→so rt j=0){a:NQ}(ha:aB i a):nY i ((rt.take i).map ar) a=ep i ((rt.take i).map ar) a:=by
 rw[kJ i ha (jQ hi h) (A9 hi h) (by rw[ew hi];exact Nat.le_refl _),ly i ha (jQ hi h) (by rw[ew hi];exact Nat.le_refl _)]
theorem AY{rt:List (List RD)}{k m:Nat}(hw: ∀i,i<k→wN m (rt.getD i []))(hk:k≤rt.length)(h: ∀j,j<k→iU (rt.getD j [])=true): ∀j,j<((rt.take k).map ar).length→(rt.map aY)[j]?=some (af (((rt.take k).map ar).getD j [])):=fun j hj=>by
 rw[ew hk] at hj;have hj2:j<rt.length:=by omega
 rw[mR hj,← jA (hw j hj) (h j hj)];simp[hj2]
theorem nf(rt:List (List RD)){m:Nat}(hw: ∀i,i<rt.length→(rt.getD i []).length=2^i→wN m (rt.getD i []))(h1:1≤m)(hl:rt.length≤1000000)(hll: ∀i,i<rt.length→(rt.getD i []).length≤4398046511104)(hok:rt.length≤5→pb rt.length m):Pure Tryz.prog 37 [se rt] (dI (ck rt)):=by
 refine qJ 34 Tryz.func37 rfl rfl rfl rfl (by kernel_rfl) (fun B F0 w0=>?_);unfold ck;obtain ⟨E,hE⟩: ∃E,fE (so rt) (rt.length-0) 0=E:=⟨_,rfl⟩;rw[hE];refine qX 2 rfl ?_;refine qI ?_;refine qX 3 rfl ?_;rw[List.length_map];refine qU 1 rfl ?_;refine aa.nil ?_;by_cases h5:5<rt.length
 · rw[if_pos h5,decide_eq_true (show (5:Int)<(rt.length:Int) by omega)];refine AW.az rfl ?_;refine qX 1 rfl ?_;exact qN rfl
 rw[if_neg h5,decide_eq_false (show ¬(5:Int)<(rt.length:Int) by omega)];have hok:=hok (by omega);have hm7:=uC hok;refine AW.ao rfl ?_;refine AW.skip (AW.seq ?_);refine qX 3 rfl ?_;rw[List.length_map];refine qU 1 rfl ?_;refine aa.nil ?_;refine AW.block ?_;refine AW.aD [1,11,12,13] (fun i:Nat=>[(1,.bx [.sl 1 (rt.map aY)]),(11,.d (.sl 1 (rt.map aY))),(12,.d (dI rt.length)),(13,.d (dI i))]) (fun i=>i≤rt.length∧fE (so rt) (rt.length-i) i=E∧ ∀j,j<i→so rt j=0) (fun i=>rt.length-i) 0 rfl ⟨Nat.zero_le _,hE,fun j hj=>by omega⟩ (fun i ⟨hi,hiE,hall⟩=>?_);refine qX 1 rfl ?_;refine qI ?_;refine AW.cond rfl (fun h=>?_) (fun h=>?_);rotate_left
 · have hii: ¬i<rt.length:=by have:=of_decide_eq_false h;omega
   rw[dk hii] at hiE;subst hiE;refine AW.exit ?_;refine qX 1 rfl ?_;exact qN rfl
 have hii:i<rt.length:=by have:=of_decide_eq_true h;omega
 have hg:(rt.map aY)[i]?=some (aY (rt.getD i [])):=by simp[hii]
 have hwi:=hw i hii;have hli:=hll i hii;have hmiss:=fun h0:so rt i=0=>(bU hii h0).symm.trans hiE;have hhit:=fun h0:so rt i≠0=>(dh hii h0).symm.trans hiE;have hp:2^i≤2^5:=Nat.pow_le_pow_right (by decide) (by omega);have hrt:so rt i=if (rt.getD i []).length≠2^i then 10 else if bp i (rt.getD i [])≠0 then bp i (rt.getD i []) else if ep i ((rt.take i).map ar) (ar (rt.getD i []))<0 then 3 else 0:=rfl
 refine AW.skip (AW.seq (AW.block ?_));refine qX 1 rfl ?_;refine aa.idx tok (aY (rt.getD i [])) rfl rfl rfl rfl (Int.natCast_nonneg i) hg ?_;refine qU 3 rfl ?_;refine qI ?_;refine qX 2 rfl ?_;rw[List.length_map];refine qU 2 rfl ?_;rw[vE (by omega)];refine qU 1 rfl ?_;refine aa.nil ?_;by_cases e1:(rt.getD i []).length=2^i;rotate_left
 · rw[if_pos e1] at hrt;rw[bne_iff_ne.2 (show (((rt.getD i []).length:Nat):Int)≠((2^i:Nat):Int) by omega)];have:=hhit (by rw[hrt];decide);rw[hrt] at this;subst this;refine AW.az rfl ?_;refine qX 1 rfl ?_;exact qN rfl
 rw[if_neg (fun h=>h e1)] at hrt;have hwi:=hwi e1;have cn:=lZ i (rt.getD i []) (by omega) (fun _=>hwi) (by omega) hli;rw[e1,bne_eq_false_iff_eq.2 rfl];refine AW.ao rfl ?_;refine AW.skip (AW.seq ?_);refine qX 2 rfl ?_;refine aa.call tok rfl rfl rfl rfl cn ?_;refine qU 1 rfl ?_;refine qK 2 rfl ?_;refine aa.nil ?_;by_cases e2:bp i (rt.getD i [])=0;rotate_left
 · rw[if_pos e2] at hrt;have:=hhit (by rw[hrt];exact e2);rw[hrt] at this;subst this;rw[bne_iff_ne.2 (show ((bp i (rt.getD i []):Nat):Int)≠0 by omega)];refine AW.az rfl ?_;refine qX 2 rfl ?_;exact qN rfl
 rw[if_neg (fun h=>h e2)] at hrt;rw[bne_eq_false_iff_eq.2 (show ((bp i (rt.getD i []):Nat):Int)=0 by omega)];obtain ⟨n1,n2⟩:=nr e2;have hwj:=fun j (hj:j<i)=>hw j (by omega) (fO (hall j hj)).1;have cs:=o6 i (k:=m) (rt:=(rt.take i).map ar) (xs:=rt.map aY) n1 (by omega) (jQ hi hall) (by rw[ew hi];exact Nat.le_refl _) (AY hwj hi (fun j hj=>(fO (hall j hj)).2.1)) (kG hwi h1) (pU hwj h1 hi) (xH hok hi);have tr:=lz i ((rt.take i).map ar) (ar (rt.getD i []));rw[AJ hi hall n1,← jA hwi n2] at cs;generalize ep i ((rt.take i).map ar) (ar (rt.getD i []))=s at cs hrt tr;refine AW.ao rfl ?_;refine AW.skip ?_;refine qX 2 rfl ?_;refine aa.call tok rfl rfl rfl rfl cs ?_;refine qU 1 rfl ?_;refine aa.nil ?_;by_cases e3:s<0
 · rw[if_pos e3] at hrt;rw[decide_eq_true e3];have:=hhit (by rw[hrt];decide);rw[hrt] at this;subst this;refine AW.az rfl ?_;refine qX 1 rfl ?_;exact qN rfl
 rw[if_neg e3] at hrt;rw[decide_eq_false e3];refine AW.ao rfl ?_;refine AW.skip ?_;refine qT 1 rfl ?_;rw[aq (x:=(i:Int)+1) (by omega) (by omega)];refine qU 1 rfl ?_;refine aa.nil ?_
 exact⟨i+1,rfl,⟨hii,hmiss hrt,fun j hj=>by
  by_cases e:j=i
  · rw[e];exact hrt
  · exact hall j (by omega)⟩,by omega⟩
theorem sH(rt l:List (List RD)){m mn:Nat}(hw: ∀i,i<rt.length→(rt.getD i []).length=2^i→wN m (rt.getD i []))(h1:1≤m)(hl:rt.length≤1000000)(hll: ∀i,i<rt.length→(rt.getD i []).length≤4398046511104)(hok:rt.length≤5→pb rt.length m)
  (hlw: ∀i,i<l.length→yw rt.length (l.getD i [])→wN mn (l.getD i [])) (hl2:l.length≤1000000) (hl3: ∀i,i<l.length→(l.getD i []).length≤4398046511104) (hm:mn≤17300000000000):Pure Tryz.prog 69 [se rt,.sl 1 (l.map aY)] (dI (iH rt l)):=by
 refine qJ 29 Tryz.func69 rfl rfl rfl rfl (by kernel_rfl) (fun B F0 w0=>?_);have cC:=nf rt hw h1 hl hll hok;unfold iH;obtain ⟨E,hE⟩: ∃E,fE (fun i=>bp rt.length (l.getD i [])) (l.length-0) 0=E:=⟨_,rfl⟩;rw[hE];refine qX 2 rfl ?_;refine qI ?_;refine qX 1 rfl ?_;refine aa.call tok rfl rfl rfl rfl cC ?_;refine qU 1 rfl ?_;refine qK 2 rfl ?_;refine aa.nil ?_;by_cases e2:ck rt=0;rotate_left
 · rw[if_pos e2,bne_iff_ne.2 (show ((ck rt:Nat):Int)≠0 by omega)];refine AW.az rfl ?_;refine qX 2 rfl ?_;exact qN rfl
 have h5:=(nJ e2).1;rw[if_neg (fun h=>h e2),bne_eq_false_iff_eq.2 (show ((ck rt:Nat):Int)=0 by omega)];refine AW.ao rfl ?_;refine AW.skip (AW.seq ?_);refine qX 2 rfl ?_;rw[List.length_map];refine qU 1 rfl ?_;refine aa.nil ?_;refine AW.block ?_;refine AW.aD [2,14,15,16] (fun i:Nat=>[(2,.bx [.sl 1 (rt.map aY)]),(14,.d (.sl 1 (l.map aY))),(15,.d (dI l.length)),(16,.d (dI i))]) (fun i=>i≤l.length∧fE (fun i=>bp rt.length (l.getD i [])) (l.length-i) i=E) (fun i=>l.length-i) 0 rfl ⟨Nat.zero_le _,hE⟩ (fun i ⟨hi,hiE⟩=>?_);refine qX 1 rfl ?_;refine qI ?_;refine AW.cond rfl (fun h=>?_) (fun h=>?_);rotate_left
 · have hii: ¬i<l.length:=by have:=of_decide_eq_false h;omega
   rw[dk hii] at hiE;subst hiE;refine AW.exit ?_;refine qX 1 rfl ?_;exact qN rfl
 have hii:i<l.length:=by have:=of_decide_eq_true h;omega
 have hg:(l.map aY)[i]?=some (aY (l.getD i [])):=by simp[hii]
 have hmiss:=fun h0:bp rt.length (l.getD i [])=0=>(bU (f:=fun i=>bp rt.length (l.getD i [])) hii h0).symm.trans hiE;have hhit:=fun h0:bp rt.length (l.getD i [])≠0=>(dh (f:=fun i=>bp rt.length (l.getD i [])) hii h0).symm.trans hiE;have cn:=lZ rt.length (l.getD i []) h5 (hlw i hii) hm (hl3 i hii);refine AW.skip (AW.seq (AW.block (AW.seq (AW.region ?_))));refine aa.idx tok (aY (l.getD i [])) rfl rfl rfl rfl (Int.natCast_nonneg i) hg ?_;refine qU 2 rfl ?_;refine qK 3 rfl ?_;rw[List.length_map];refine qU 1 rfl ?_;refine aa.call tok rfl rfl rfl rfl cn ?_;refine qU 1 rfl ?_;refine aa.nil ?_;generalize bp rt.length (l.getD i [])=v at hmiss hhit;refine qX 2 rfl ?_;refine aa.nil ?_;by_cases hv:v=0;rotate_left
 · have:=hhit hv;subst this;rw[bne_iff_ne.2 (show ((v:Nat):Int)≠0 by omega)];refine AW.az rfl ?_;refine qX 2 rfl ?_;exact qN rfl
 rw[bne_eq_false_iff_eq.2 (show ((v:Nat):Int)=0 by omega)];refine AW.ao rfl ?_;refine AW.skip ?_;refine qT 1 rfl ?_;rw[aq (x:=(i:Int)+1) (by omega) (by omega)];refine qU 1 rfl ?_;refine aa.nil ?_;exact⟨i+1,rfl,⟨hii,hmiss hv⟩,by omega⟩
theorem vS{m:Nat}{rt:List (List RD)}{a:List RD}(T:mJ m rt)(A:iI m rt a):Pure Tryz.prog 69 [se rt,.sl 1 [aY a]] (dI (iH rt [a])):=by
 have hm:=T.m2
 have h0: ∀i,i<[a].length→i=0:=fun i hi=>by
  have:i<1:=hi;omega
 obtain ⟨m0,t1,t2,tw,tk⟩:=T.t;exact sH rt [a] tw t1 T.l T.ll tk (fun i hi=>by rw[h0 i hi];exact A.w) (show 1≤1000000 by decide) (fun i hi=>by rw[h0 i hi];exact A.l) (by omega)
end Lift
namespace Lift
open Go Go.Proofs
theorem ed(i:Int)(n:Nat):Pure Tryz.prog 64 [dI i,dI n] (dB (gn i n)):=by
 refine qJ 12 Tryz.func64 rfl rfl rfl rfl (by kernel_rfl) (fun B F0 w0=>?_);refine qX 1 rfl ?_;refine qK 2 rfl ?_;refine aa.split (t:=6) rfl (fun h=>?_) (fun h=>?_)
 · have h1:=of_decide_eq_true h;refine qU 6 rfl ?_;refine aa.nil ?_;rw[show gn i n=decide (i<n) by unfold gn;rw[decide_eq_decide];omega];exact AW.ret rfl
 · have h1:=of_decide_eq_false h;refine qU 6 rfl ?_;refine aa.nil ?_;rw[show gn i n=false by unfold gn;rw[decide_eq_false_iff_not];omega];exact AW.ret rfl
set_option maxHeartbeats 1600000 in
theorem sE(b:Body){K:Nat}(hb:b.ok K)(hK:K≤50000000):Pure Tryz.prog 63 [b.D] (dI (n9 b.pts:Nat)):=by
 refine qJ 50 Tryz.func63 rfl rfl rfl rfl (by kernel_rfl) (fun B F0 w0=>?_);obtain ⟨bn,ps⟩:=b;obtain ⟨_,hn,hm⟩:=hb;simp only[] at hn hm;unfold big at hn;show AW _ _ _ _ _ _ _ (cW 0 [D.ag [dS bn,mK ps]]);simp only[];refine qX 2 rfl ?_;refine qI ?_;refine qX 4 rfl ?_;rw[List.length_map];refine aa.nil ?_;refine AW.cond rfl (fun h=>?_) (fun h=>?_)
 · have h8:8<ps.length:=by have:=of_decide_eq_true h;omega
   rw[n9,if_pos h8];refine qX 1 rfl ?_;exact qN rfl
 have h8: ¬8<ps.length:=by have:=of_decide_eq_false h;omega
 rw[n9,if_neg h8];refine AW.skip (AW.seq ?_);refine qX 1 rfl ?_;refine aa.nil ?_;refine AW.block ?_
 refine AW.aD [1,3] (fun i:Nat=>[(1,.bx [dS bn,mK ps]),(3,.d (dI i))])
  (fun i=>i≤ps.length∧fE (pZ ps) ps.length 0=fE (pZ ps) (ps.length-i) i) (fun i=>ps.length-i) 0 rfl ⟨Nat.zero_le _,rfl⟩ (fun i ⟨hi,hE⟩=>?_)
 refine AW.seq ?_;refine qX 5 rfl ?_;rw[List.length_map];refine aa.nil ?_;refine AW.cond rfl (fun h=>?_) (fun h=>?_)
 · have hin:i<ps.length:=by have:=of_decide_eq_true h;omega
   obtain ⟨mok1,mok2,mok3⟩:=hm i;have hbE:pZ ps i≠0→fE (pZ ps) ps.length 0=pZ ps i:=fun h0=>hE.trans (dh hin h0);have hbM:pZ ps i=0→fE (pZ ps) ps.length 0=fE (pZ ps) (ps.length-(i+1)) (i+1):=fun h0=>hE.trans (bU hin h0);generalize fE (pZ ps) ps.length 0=E at *;obtain ⟨m,hme⟩: ∃m,m=ps.getD i default:=⟨_,rfl⟩;rw[← hme] at mok1 mok2 mok3;unfold big at mok1;have hdup:yb ps i=dD (fun k=>decide ((ps.getD k default).nm=m.nm)) i 0:=by rw[hme];rfl
   have hbd:pZ ps i=if b3 m.nm=false then 5 else if yb ps i=true then 6 else if m.x.okB=true∧m.y.okB=true then 0 else 3:=by rw[hme];rfl
   refine AW.skip (AW.seq (AW.block ?_));refine qX 3 rfl ?_;refine aa.idx tok m.D rfl rfl rfl rfl (Int.natCast_nonneg i) (by rw[hme];exact getM Mark.D hin) ?_;refine qU 3 rfl ?_;refine qI ?_;refine qX 2 rfl ?_;refine aa.call tok rfl rfl rfl rfl (gk m.nm mok1) ?_;refine qU 1 rfl ?_;refine aa.nil ?_;refine AW.cond rfl (fun h=>?_) (fun h=>?_)
   · have hnm:b3 m.nm=false:=iz h;have h5:pZ ps i=5:=by rw[hbd,hnm];rfl
     rw[show E=5 by rw[hbE (by omega),h5]];refine qX 1 rfl ?_;exact qN rfl
   have hnm:b3 m.nm=true:=by simpa using h
   rw[hnm,if_neg (by decide)] at hbd;refine AW.skip (AW.seq ?_);refine qX 1 rfl ?_;refine aa.nil ?_;refine AW.block ?_
   refine AW.aD [1,3,4,5] (fun k:Nat=>[(1,.bx [dS bn,mK ps]),(3,.d (dI i)),(4,.bx [dS m.nm,dB m.x.g,Wd m.x.n,Wd m.x.d,dB m.y.g,Wd m.y.n,Wd m.y.d]),(5,.d (dI k))])
    (fun k=>k≤i∧yb ps i=dD (fun k=>decide ((ps.getD k default).nm=m.nm)) (i-k) k) (fun k=>i-k) 0 rfl ⟨Nat.zero_le _,hdup⟩ (fun k ⟨hk,hD⟩=>?_)
   refine AW.seq ?_;refine qX 3 rfl ?_;refine aa.nil ?_;refine AW.cond rfl (fun h=>?_) (fun h=>?_)
   · have hki:k<i:=by have:=of_decide_eq_true h;omega
     refine AW.skip (AW.seq (AW.block (AW.seq ?_)));refine AW.draw aJ 9 (by kernel_rfl) ?_;refine qP 3 rfl ?_;refine ae.idx tok (ps.getD k default).D rfl rfl rfl rfl rfl (Int.natCast_nonneg k) (getM Mark.D (by omega)) ?_;refine qP 5 rfl ?_;rw[jS];refine ae.nil ?_;refine aa.nil ?_;refine AW.cond rfl (fun h=>?_) (fun h=>?_)
     · have h6:pZ ps i=6:=by rw[hbd,hD.trans (dZ hki h)];rfl
       rw[show E=6 by rw[hbE (by omega),h6]];refine qX 1 rfl ?_;exact qN rfl
     · refine AW.skip ?_;refine qT 3 rfl ?_;rw[aq (x:=(k:Int)+1) (by omega) (by omega)];refine aa.nil ?_;exact⟨k+1,rfl,⟨hki,hD.trans (cY hki h)⟩,by omega⟩
   · have hki: ¬k<i:=by have:=of_decide_eq_false h;omega
     rw[hD.trans (ea hki),if_neg (by decide)] at hbd;refine AW.exit ?_;refine AW.cut [1,3,49] (fun _:Unit=>[(1,.bx [dS bn,mK ps]),(3,.d (dI i)),(49,.d (dB (!decide (m.x.okB=true∧m.y.okB=true))))]) (fun _=>True) ?_ (fun _ _=>?_)
     · refine qT 2 rfl ?_;refine aa.call tok rfl rfl rfl rfl (gS m.x mok2 (by omega)) ?_;refine aa.split (t:=42) rfl (fun h=>?_) (fun h=>?_)
       · refine qU 4 rfl ?_;refine aa.call tok rfl rfl rfl rfl (gS m.y mok3 (by omega)) ?_;refine qU 2 rfl ?_;refine aa.nil ?_;exact⟨(),by rw[show decide (m.x.okB=true∧m.y.okB=true)=m.y.okB by simp[h]];rfl,trivial⟩
       · refine qU 7 rfl ?_;refine aa.nil ?_;exact⟨(),by rw[show decide (m.x.okB=true∧m.y.okB=true)=false by simp[h]];rfl,trivial⟩
     refine AW.cond rfl (fun h=>?_) (fun h=>?_)
     · have hno: ¬(m.x.okB=true∧m.y.okB=true):=fun e=>by rw[decide_eq_true e] at h;cases h
       have h3:pZ ps i=3:=by rw[hbd,if_neg hno]
       rw[show E=3 by rw[hbE (by omega),h3]];refine qX 1 rfl ?_;exact qN rfl
     · have hyes:m.x.okB=true∧m.y.okB=true:=by simpa using h
       rw[if_pos hyes] at hbd;refine AW.skip ?_;refine qT 3 rfl ?_;rw[aq (x:=(i:Int)+1) (by omega) (by omega)];refine aa.nil ?_;exact⟨i+1,rfl,⟨hin,hbM hbd⟩,by omega⟩
 · have hin: ¬i<ps.length:=by have:=of_decide_eq_false h;omega
   rw[hE,dk hin];refine AW.exit ?_;refine qX 1 rfl ?_;exact qN rfl
set_option maxHeartbeats 1600000 in
theorem sG(l:Lkg){K:Nat}(hl:l.ok K)(hK:K≤50000000):Pure Tryz.prog 34 [l.D] (dI (bh l.bodies:Nat)):=by
 refine qJ 48 Tryz.func34 rfl rfl rfl rfl (by kernel_rfl) (fun B F0 w0=>?_);obtain ⟨ln,bs,js,ds⟩:=l;have hb:=hl.b;have hn:=hl.nb;simp only[] at hb hn ⊢;unfold big at hn;show AW _ _ _ _ _ _ _ (cW 0 [D.ag [dS ln,ay bs,ak js,an ds]]);refine qX 2 rfl ?_;refine qI ?_;refine qX 1 rfl ?_;refine aa.nil ?_;refine AW.block ?_
 refine AW.aD [1,3] (fun i:Nat=>[(1,.bx [dS ln,ay bs,ak js,an ds]),(3,.d (dI i))])
  (fun i=>i≤bs.length∧bh bs=fE (et bs) (bs.length-i) i) (fun i=>bs.length-i) 0 rfl ⟨Nat.zero_le _,rfl⟩ (fun i ⟨hi,hE⟩=>?_)
 refine AW.seq ?_;refine qX 5 rfl ?_;rw[List.length_map];refine aa.nil ?_;refine AW.cond rfl (fun h=>?_) (fun h=>?_)
 · have hin:i<bs.length:=by have:=of_decide_eq_true h;omega
   have hbi:=hb i;have hbE:et bs i≠0→bh bs=et bs i:=fun h0=>hE.trans (dh hin h0);have hbM:et bs i=0→bh bs=fE (et bs) (bs.length-(i+1)) (i+1):=fun h0=>hE.trans (bU hin h0);generalize bh bs=E at *;obtain ⟨b,hbe⟩: ∃b,b=bs.getD i default:=⟨_,rfl⟩;rw[← hbe] at hbi;have bok:=hbi.1;unfold big at bok;have hdup:yj bs i=dD (fun k=>decide ((bs.getD k default).nm=b.nm)) i 0:=by rw[hbe];rfl
   have hbd:et bs i=if b3 b.nm=false then 5 else if yj bs i=true then 6 else n9 b.pts:=by rw[hbe];rfl
   refine AW.skip (AW.seq (AW.block (AW.seq ?_)));refine qX 3 rfl ?_;refine aa.idx tok b.D rfl rfl rfl rfl (Int.natCast_nonneg i) (by rw[hbe];exact getM Body.D hin) ?_;refine qU 2 rfl ?_;refine aa.call tok rfl rfl rfl rfl (gk b.nm bok) ?_;refine qU 1 rfl ?_;refine aa.nil ?_;refine AW.cond rfl (fun h=>?_) (fun h=>?_)
   · have hnm:b3 b.nm=false:=iz h;have h5:et bs i=5:=by rw[hbd,hnm];rfl
     rw[show E=5 by rw[hbE (by omega),h5]];refine qX 1 rfl ?_;exact qN rfl
   have hnm:b3 b.nm=true:=by simpa using h
   rw[hnm,if_neg (by decide)] at hbd;refine AW.skip (AW.seq ?_);refine qX 1 rfl ?_;refine aa.nil ?_;refine AW.block ?_
   refine AW.aD [1,3,4] (fun k:Nat=>[(1,.bx [dS ln,ay bs,ak js,an ds]),(3,.d (dI i)),(4,.d (dI k))])
    (fun k=>k≤i∧yj bs i=dD (fun k=>decide ((bs.getD k default).nm=b.nm)) (i-k) k) (fun k=>i-k) 0 rfl ⟨Nat.zero_le _,hdup⟩ (fun k ⟨hk,hD⟩=>?_)
   refine AW.seq ?_;refine qX 3 rfl ?_;refine aa.nil ?_;refine AW.cond rfl (fun h=>?_) (fun h=>?_)
   · have hki:k<i:=by have:=of_decide_eq_true h;omega
     refine AW.skip (AW.seq (AW.block (AW.seq ?_)));refine AW.draw aJ 13 (by kernel_rfl) ?_;refine qP 3 rfl ?_;refine ae.idx tok (bs.getD k default).D rfl rfl rfl rfl rfl (Int.natCast_nonneg k) (getM Body.D (by omega)) ?_;refine qP 5 rfl ?_;refine ae.idx tok b.D rfl rfl rfl rfl rfl (Int.natCast_nonneg i) (by rw[hbe];exact getM Body.D hin) ?_;refine qP 3 rfl ?_;rw[jS];refine ae.nil ?_;refine aa.nil ?_;refine AW.cond rfl (fun h=>?_) (fun h=>?_)
     · have h6:et bs i=6:=by rw[hbd,hD.trans (dZ hki h)];rfl
       rw[show E=6 by rw[hbE (by omega),h6]];refine qX 1 rfl ?_;exact qN rfl
     · refine AW.skip ?_;refine qT 3 rfl ?_;rw[aq (x:=(k:Int)+1) (by omega) (by omega)];refine aa.nil ?_;exact⟨k+1,rfl,⟨hki,hD.trans (cY hki h)⟩,by omega⟩
   · have hki: ¬k<i:=by have:=of_decide_eq_false h;omega
     rw[hD.trans (ea hki),if_neg (by decide)] at hbd;refine AW.exit ?_;refine qX 3 rfl ?_;refine aa.idx tok b.D rfl rfl rfl rfl (Int.natCast_nonneg i) (by rw[hbe];exact getM Body.D hin) ?_;refine qU 1 rfl ?_;refine aa.call tok rfl rfl rfl rfl (sE b hbi hK) ?_;refine qU 1 rfl ?_;refine qK 2 rfl ?_;refine aa.nil ?_;refine AW.cond rfl (fun h=>?_) (fun h=>?_)
     · have h0:n9 b.pts≠0:=by rintro e;rw[e] at h;cases h
       rw[show E=n9 b.pts by rw[hbE (by rw[hbd];exact h0),hbd]];refine qX 2 rfl ?_;exact qN rfl
     · have h0:n9 b.pts=0:=by
        have:((n9 b.pts:Nat):Int)=0:=by simpa using h
        omega
       refine AW.skip ?_;refine qT 3 rfl ?_;rw[aq (x:=(i:Int)+1) (by omega) (by omega)];refine aa.nil ?_;exact⟨i+1,rfl,⟨hin,hbM (by rw[hbd];exact h0)⟩,by omega⟩
 · have hin: ¬i<bs.length:=by have:=of_decide_eq_false h;omega
   rw[hE,dk hin];refine AW.exit ?_;refine qX 1 rfl ?_;exact qN rfl
theorem vQ(p q:Mark){K:Nat}(hp:p.ok K)(hq:q.ok K)(hK:K≤5000000):Pure Tryz.prog 65 [p.D,q.D] (dB (ju p q)):=by
 refine qJ 19 Tryz.func65 rfl rfl rfl rfl (by kernel_rfl) (fun B F0 w0=>?_);refine qX 3 rfl ?_;refine qK 4 rfl ?_;refine aa.call tok rfl rfl rfl rfl (qS p.x q.x hp.2.1 hq.2.1 (by omega)) ?_;refine qU 1 rfl ?_;rw[lK];refine aa.split (t:=10) rfl (fun h=>?_) (fun h=>?_)
 · have h1:=of_decide_eq_true h;refine qU 5 rfl ?_;refine aa.call tok rfl rfl rfl rfl (qS p.y q.y hp.2.2 hq.2.2 (by omega)) ?_;refine qU 3 rfl ?_;rw[lK];refine aa.nil ?_;rw[show ju p q=decide (p.y.val=q.y.val) by unfold ju;simp[h1]];exact AW.ret rfl
 · have h1:=of_decide_eq_false h;refine qU 9 rfl ?_;refine aa.nil ?_;rw[show ju p q=false by unfold ju;simp[h1]];exact AW.ret rfl
end Lift
