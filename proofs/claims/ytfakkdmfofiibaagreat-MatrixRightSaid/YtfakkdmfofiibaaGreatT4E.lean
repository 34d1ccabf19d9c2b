/- Parts of the proof, one behind the other: the logic, the contracts of the functions that the statement reaches. -/
import Derived.Test.YtfakkdmfofiibaaGreatT4D
set_option linter.unusedVariables false
set_option linter.unusedSimpArgs false
namespace Lift
open Go Go.Proofs
abbrev fQ(r:List NQ):AV:=AV.ow 53 (r.map af)
def ga{α:Type}(zs xs:List α)(i:Nat):List α:=zs.take i++xs.drop i
theorem sN{α:Type}{zs xs:List α}(h:zs.length=xs.length){i:Nat}(hi:i≤xs.length):(ga zs xs i).length=xs.length:=by
 unfold ga;rw[List.length_append,List.length_take,List.length_drop,h];omega
theorem xK{α:Type}{zs xs:List α}(h:zs.length=xs.length){i:Nat}(hi:i<xs.length)(d:α):(ga zs xs i).getD i d=xs.getD i d:=by
 unfold ga;rw[List.getD_eq_getElem?_getD,List.getElem?_append_right (by rw[List.length_take];omega),List.length_take,h,List.getElem?_drop,List.getD_eq_getElem?_getD]
 congr 2;omega
theorem xJ{α:Type}{zs xs:List α}(h:zs.length=xs.length){i:Nat}(hi:i<xs.length){d z:α}(hz:zs.getD i d=z):(ga zs xs i).set i z=ga zs xs (i+1):=by
 subst hz;refine List.ext_getElem? (fun c=>?_);by_cases hc:c=i
 · subst hc;rw[List.getElem?_set_self (by rw[sN h (by omega)];exact hi)];unfold ga;rw[List.getElem?_append_left (by rw[List.length_take];omega),List.getElem?_take,if_pos (by omega)];have h1:c<zs.length:=by omega
   simp[h1]
 · rw[List.getElem?_set_ne (Ne.symm hc)];unfold ga;rcases Nat.lt_or_ge c i with g | g
   · rw[List.getElem?_append_left (by rw[List.length_take];omega),List.getElem?_append_left (by rw[List.length_take];omega),List.getElem?_take,List.getElem?_take,if_pos g,if_pos (by omega)]
   · rw[List.getElem?_append_right (by rw[List.length_take];omega),List.getElem?_append_right (by rw[List.length_take];omega),List.getElem?_drop,List.getElem?_drop,List.length_take,List.length_take]
     congr 1;omega
theorem uO{α:Type}(zs xs:List α):ga zs xs 0=xs:=by unfold ga;simp
theorem xL{α:Type}{zs xs:List α}(h:zs.length=xs.length):ga zs xs xs.length=zs:=by
 unfold ga;rw[List.drop_length,List.append_nil,← h,List.take_length]
section
variable {P:Program} {T:Ty} {B:Nat} {F0:Nat→Prop} {w0:b7} {n:Nat} {σ τ:St} {K:St→Prop} {all:Array Oper} {o:Oper} {d:Nat} {rest:List Oper}
theorem ab.vq(hT:aY P T){k e i:Nat}{r:List NQ}(q:NQ)(hd:o.dst=none)(hg:ak all σ o=true)(hx:zW T σ o.op=some (k,.ow e (r.map af),r.map af,i,0,af q))(hi:i<r.length)
  (h:ab P B F0 w0 n all rest K ((k,.ow e ((r.set i q).map af))::σ)):ab P B F0 w0 n all (o::rest) K σ:=by
 refine ab.ji hT (af (r.getD i [])) hd hg hx (getM af hi) rfl ?_;show ab P B F0 w0 n all rest K ((k,.ow e ((r.map af).set i (af q)))::σ);rw[show (r.map af).set i (af q)=(r.set i q).map af from (List.map_set ..).symm];exact h
end
def mT(v:List NQ)(xs ys:List NQ)(c:NQ):List NQ:=(List.range xs.length).map fun k=>qD (xs.getD k []) (jT v c (ys.getD k []))
theorem mf(v:List NQ)(xs ys:List NQ)(c:NQ):(mT v xs ys c).length=xs.length:=by unfold mT;rw[List.length_map,List.length_range]
theorem mh(v:List NQ)(xs ys:List NQ)(c:NQ){k:Nat}(h:k<xs.length):(mT v xs ys c).getD k []=qD (xs.getD k []) (jT v c (ys.getD k [])):=by
 unfold mT;rw[List.getD_eq_getElem?_getD,List.getElem?_map,List.getElem?_range h];rfl
def y8(v:List NQ)(xs ys:List NQ)(c:NQ):Prop:= ∀k,k<xs.length→sF v c (ys.getD k [])∧Cy (xs.getD k []) (jT v c (ys.getD k []))
def BS(V1 V2:Value)(zs ys:List NQ)(res:D)(R':List LR):Prop:=res=aj∧R'=[(V1,fQ zs),(V2,fQ ys)]
theorem kB{v:List NQ}(V:kJ v){a b:NQ}(ha:aq v.length a)(hb:aq v.length b):aq v.length (jT v a b):=b8 (ed v.length ha hb V.ro (Nat.le_refl _))
theorem Ed{l:Nat}{a b:NQ}(ha:aq l a)(hb:aq l b):aq l (qD a b):=b8 (ha.plus hb.minus)
theorem E5{v:List NQ}(V:kJ v){a b:NQ}(ha:aq v.length a)(hb:aq v.length b):aq v.length (uf v a b):=b8 (ed v.length ha (gQ v.length hb V.ro (Nat.le_refl _)) V.ro (Nat.le_refl _))
set_option maxHeartbeats 3200000 in
theorem sO(V1 V2:Value){v:List NQ}(V:kJ v){xs ys:List NQ}{c:NQ}(hl:ys.length=xs.length)(hl0:0<xs.length)(hl1:xs.length≤1000000)(hx: ∀k,aq v.length (xs.getD k []))(hy: ∀k,aq v.length (ys.getD k []))(hc:aq v.length c)(ok:y8 v xs ys c):
  l9 Tryz.prog 90 [bO v,.v V1,.v V2,af c] [(V1,fQ xs),(V2,fQ ys)] (BS V1 V2 (mT v xs ys c) ys):=by
 refine l9.intro (n:=47) tok Tryz.func90 rfl rfl rfl (Nat.le_of_ble_eq_true rfl) (by kernel_rfl) (fun B F0 w0=>?_);have hz:=mf v xs ys c;obtain ⟨zs,hzs⟩: ∃zs,mT v xs ys c=zs:=⟨_,rfl⟩;rw[hzs] at hz ⊢;refine AZ.seq ?_;refine AZ.ic (fun B1 F1 w1=>?_);refine qU 2 rfl ?_;refine ab.nil ⟨rfl,?_⟩;refine AZ.seq ?_;refine AZ.seq ?_;refine AZ.Co (fun B1 F1 w1 hS=>?_);refine qU 1 rfl ?_;refine ab.lens tok (hS.at (i:=0) rfl (by rw[List.length_map];exact hl0)) rfl rfl rfl rfl ?_;refine qU 1 rfl ?_;rw[List.length_map];refine ab.nil ⟨rfl,?_⟩;refine AZ.block ?_;refine AZ.aE [1,2,3,4,13,14] (fun i:Nat=>([(V1,fQ (ga zs xs i)),(V2,fQ ys)],[(1,.d (.v V1)),(2,.d (.v V2)),(3,.d (af c)),(4,.bx [.sl 1 (v.map af)]),(13,.d (dI xs.length)),(14,.d (dI i))])) (fun i=>i≤xs.length) (fun i=>xs.length-i) 0 (by rw[uO];rfl) (Nat.zero_le _) (fun i hi=>?_)
 · show AZ _ _ _ _ _ _ _ [(V1,fQ (ga zs xs i)),(V2,fQ ys)] [(1,.d (.v V1)),(2,.d (.v V2)),(3,.d (af c)),(4,.bx [.sl 1 (v.map af)]),(13,.d (dI xs.length)),(14,.d (dI i))];refine AZ.seq ?_;refine AZ.ic (fun B1 F1 w1=>?_);refine qU 1 rfl ?_;refine ab.nil ⟨rfl,?_⟩;refine AZ.seq ?_;refine AZ.cond rfl (fun h=>?_) (fun h=>?_)
   · have hin:i<xs.length:=by have:=of_decide_eq_true h;omega
     have hpl:=sN hz (i:=i) (by omega);have hpg:=xK hz hin [];have hps:=xJ hz hin (d:=[]) (show zs.getD i []=qD (xs.getD i []) (jT v c (ys.getD i [])) by rw[← hzs];exact mh v xs ys c hin);have hyi:i<ys.length:=by omega
     obtain ⟨okm,oks⟩:=ok i hin;have cm:=m9 V hc (hy i) okm;have cs:=yE V (hx i) (kB V hc (hy i)) oks;generalize ga zs xs i=ps at *;generalize hX:xs.getD i []=X at *;generalize hY:ys.getD i []=Y at *;generalize jT v c Y=M at *;generalize qD X M=S at *;refine AZ.skip ?_;refine AZ.seq ?_;refine AZ.block ?_;refine AZ.seq ?_;refine AZ.ic (fun B1 F1 w1=>?_);refine qU 2 rfl ?_;refine ab.nil ⟨rfl,?_⟩;refine AZ.seq ?_;refine AZ.any aM (o6.At 11 (by kernel_rfl) (fun B1 F1 w1 hS=>?_));have hS2:=hS.at (i:=1) rfl (by rw[List.length_map];omega);refine qP 4 rfl ?_;refine ae.idxs tok hS2 rfl rfl rfl rfl rfl (Int.natCast_nonneg i) (by rw[List.length_map];exact hyi) ?_;refine ae.a5 tok (af (ys.getD i [])) hS2 rfl rfl rfl rfl rfl rfl rfl (getM af hyi) rfl ?_;rw[hY];refine ae.call tok rfl rfl rfl rfl rfl cm ?_;refine qP 4 rfl ?_;refine ae.nil ⟨rfl,?_⟩;refine ai.cut 1 rfl (fun B1 F1 w1=>?_);refine qU 1 rfl ?_;refine ab.nil ⟨rfl,?_⟩;refine ai.nil ?_;refine AZ.to [1,2,3,4,9,10,11,13,14] [(1,.d (.v V1)),(2,.d (.v V2)),(3,.d (af c)),(4,.bx [.sl 1 (v.map af)]),(9,.d (dI i)),(10,.d (af M)),(11,.d aj),(13,.d (dI xs.length)),(14,.d (dI i))] rfl ?_;refine AZ.seq ?_;refine AZ.seq ?_;refine AZ.ic (fun B1 F1 w1=>?_);refine qU 1 rfl ?_;refine ab.err tok rfl rfl rfl rfl rfl ?_;refine ab.nil ⟨rfl,?_⟩;refine AZ.aB rfl ?_;refine AZ.skip ?_;refine AZ.seq ?_;refine AZ.any aM (ZH.any (β:=[]) ?_);refine ZH.mv 0 rfl rfl (by kernel_rfl) (by kernel_rfl) (by kernel_rfl) rfl (fun _ _ _ h=>h) (fun _=>rfl) trivial (fun B1 F1 w1=>?_);refine qU 1 rfl ?_;refine ab.nil ⟨rfl,?_⟩;refine ZH.mv 1 rfl rfl (by kernel_rfl) (by kernel_rfl) (by kernel_rfl) rfl (fun _ _ _ h=>h) (fun _=>rfl) trivial (fun B1 F1 w1=>?_);refine qU 1 rfl ?_;refine ab.nil ⟨rfl,?_⟩;refine ZH.mv 3 rfl rfl (by kernel_rfl) (by kernel_rfl) (by kernel_rfl) rfl (fun _ _ _ h=>h) (fun _=>rfl) trivial (fun B1 F1 w1=>?_);refine qU 1 rfl ?_;refine ab.nil ⟨rfl,?_⟩;refine ZH.mv 4 rfl rfl (by kernel_rfl) (by kernel_rfl) (by kernel_rfl) rfl (fun _ _ _ h=>h) (fun _=>rfl) trivial (fun B1 F1 w1=>?_);refine qU 1 rfl ?_;refine ab.nil ⟨rfl,?_⟩;refine ZH.mv 7 rfl rfl (by kernel_rfl) (by kernel_rfl) (by kernel_rfl) rfl (fun _ _ _ h=>h) (fun _=>rfl) trivial (fun B1 F1 w1=>?_);refine qU 1 rfl ?_;refine ab.nil ⟨rfl,?_⟩;refine ZH.meet 0 (qB 15 32767) (fun V=>[(V1,fQ (ga zs xs (i+1))),(V2,fQ ys)]) (fun V=>[(1,.d (.v V1)),(2,.d (.v V2)),(3,.d (af c)),(4,.bx [.sl 1 (v.map af)]),(9,.d (dI i)),(10,.d (af M)),(13,.d (dI xs.length)),(14,.d (dI i)),(31,.d (.v V1)),(32,.d (dI i)),(34,.d (.v V1)),(35,.d (dI i)),(38,.d (af M)),(33,.d (bO v)),(36,.d (.v (bh V1 (i*1)))),(37,.d (af X)),(39,.d (.tu [af S,aj])),(30,.d (.tu [af S,aj])),(40,.d (af S)),(41,.d aj),(11,.d aj)]) (fun V=>?_) (fun N1_2_5_1_1=>?_)
     · refine ZH.done (by kernel_rfl) trivial ?_;refine AZ.to [1,2,3,4,11,13,14] [(1,.d (.v V1)),(2,.d (.v V2)),(3,.d (af c)),(4,.bx [.sl 1 (v.map af)]),(11,.d aj),(13,.d (dI xs.length)),(14,.d (dI i))] rfl ?_;refine AZ.seq ?_;refine AZ.ic (fun B1 F1 w1=>?_);refine qU 1 rfl ?_;refine ab.err tok rfl rfl rfl rfl rfl ?_;refine ab.nil ⟨rfl,?_⟩;refine AZ.aB rfl ?_;refine AZ.skip ?_;refine AZ.ic (fun B1 F1 w1=>?_);refine qU 1 rfl ?_;rw[aD (x:=(i:Int)+1) (by omega) (by omega)];refine qU 1 rfl ?_;refine ab.nil ⟨rfl,?_⟩;exact⟨i+1,rfl,hin,by omega⟩
     refine ZH.meet 1 (qB 15 16383) (fun V=>[(V1,fQ (ga zs xs (i+1))),(V2,fQ ys)]) (fun V=>[(1,.d (.v V1)),(2,.d (.v V2)),(3,.d (af c)),(4,.bx [.sl 1 (v.map af)]),(9,.d (dI i)),(10,.d (af M)),(13,.d (dI xs.length)),(14,.d (dI i)),(31,.d (.v V1)),(32,.d (dI i)),(34,.d (.v V1)),(35,.d (dI i)),(38,.d (af M)),(33,.d (bO v)),(36,.d (.v (bh V1 (i*1)))),(37,.d (af X)),(39,.d (.tu [af S,aj])),(30,.d (.tu [af S,aj])),(40,.d (af S)),(41,.d aj)]) (fun V=>?_) (fun N1_2_5_1_0=>?_)
     · refine ZH.all 14 (by kernel_rfl) rfl rfl (fun _=>rfl) trivial ?_;refine ar (fun B1 F1 w1=>?_);refine qU 1 rfl ?_;refine ab.nil ⟨rfl,?_⟩;exact qL (N1_2_5_1_1 V) (by kernel_rfl) rfl trivial
     refine ZH.meet 2 (qB 15 8191) (fun V=>[(V1,fQ ps),(V2,fQ ys)]) (fun V=>[(1,.d (.v V1)),(2,.d (.v V2)),(3,.d (af c)),(4,.bx [.sl 1 (v.map af)]),(9,.d (dI i)),(10,.d (af M)),(13,.d (dI xs.length)),(14,.d (dI i)),(31,.d (.v V1)),(32,.d (dI i)),(34,.d (.v V1)),(35,.d (dI i)),(38,.d (af M)),(33,.d (bO v)),(36,.d (.v (bh V1 (i*1)))),(37,.d (af X)),(39,.d (.tu [af S,aj])),(30,.d (.tu [af S,aj])),(40,.d (af S)),(42,.d (.v (bh V1 (i*1)))),(41,.d aj)]) (fun V=>?_) (fun N1_2_4_1_0=>?_)
     · refine ZH.all 13 (by kernel_rfl) rfl rfl (fun _=>rfl) trivial ?_;refine ai.eV 31 0 rfl rfl rfl ?_;refine ai.el tok 31 42 rfl (List.Mem.head _) rfl rfl rfl (by rw[List.length_map,hpl];exact hin) rfl ?_;refine ai.cut 1 rfl (fun B1 F1 w1=>?_);refine ab.vq tok S rfl rfl rfl (by omega) ?_;rw[hps];refine ab.nil ⟨rfl,?_⟩;refine ai.back 31 0 rfl rfl rfl (List.Mem.head _) rfl ?_;refine ai.nil ?_;exact qL (N1_2_5_1_0 V) (by kernel_rfl) rfl trivial
     refine ZH.meet 2 (qB 15 14335) (fun V=>[(V1,fQ (ga zs xs (i+1))),(V2,fQ ys)]) (fun V=>[(1,.d (.v V1)),(2,.d (.v V2)),(3,.d (af c)),(4,.bx [.sl 1 (v.map af)]),(9,.d (dI i)),(10,.d (af M)),(13,.d (dI xs.length)),(14,.d (dI i)),(31,.d (.v V1)),(32,.d (dI i)),(34,.d (.v V1)),(35,.d (dI i)),(38,.d (af M)),(33,.d (bO v)),(36,.d (.v (bh V1 (i*1)))),(37,.d (af X)),(39,.d (.tu [af S,aj])),(30,.d (.tu [af S,aj])),(40,.d (af S))]) (fun V=>?_) (fun N1_2_5_0_0=>?_)
     · refine ZH.all 11 (by kernel_rfl) rfl rfl (fun _=>rfl) trivial ?_;refine ar (fun B1 F1 w1=>?_);refine qU 1 rfl ?_;refine ab.nil ⟨rfl,?_⟩;exact qL (N1_2_5_1_0 V) (by kernel_rfl) rfl trivial
     refine ZH.meet 3 (qB 15 4095) (fun V=>[(V1,fQ ps),(V2,fQ ys)]) (fun V=>[(1,.d (.v V1)),(2,.d (.v V2)),(3,.d (af c)),(4,.bx [.sl 1 (v.map af)]),(9,.d (dI i)),(10,.d (af M)),(13,.d (dI xs.length)),(14,.d (dI i)),(31,.d (.v V1)),(32,.d (dI i)),(34,.d (.v V1)),(35,.d (dI i)),(38,.d (af M)),(33,.d (bO v)),(36,.d (.v (bh V1 (i*1)))),(37,.d (af X)),(39,.d (.tu [af S,aj])),(30,.d (.tu [af S,aj])),(40,.d (af S)),(41,.d aj)]) (fun V=>?_) (fun N1_2_3_1_0=>?_)
     · refine ZH.all 12 (by kernel_rfl) rfl rfl (fun _=>rfl) trivial ?_;refine ah (fun B1 F1 w1 hS=>?_);refine ab.idxs tok (hS.at (i:=0) rfl (by rw[List.length_map];omega)) rfl rfl rfl rfl (Int.natCast_nonneg i) (by rw[List.length_map,hpl];exact hin) ?_;refine ab.nil ⟨rfl,?_⟩;exact qL (N1_2_4_1_0 V) (by kernel_rfl) rfl trivial
     refine ZH.meet 3 (qB 15 6143) (fun V=>[(V1,fQ ps),(V2,fQ ys)]) (fun V=>[(1,.d (.v V1)),(2,.d (.v V2)),(3,.d (af c)),(4,.bx [.sl 1 (v.map af)]),(9,.d (dI i)),(10,.d (af M)),(13,.d (dI xs.length)),(14,.d (dI i)),(31,.d (.v V1)),(32,.d (dI i)),(34,.d (.v V1)),(35,.d (dI i)),(38,.d (af M)),(33,.d (bO v)),(36,.d (.v (bh V1 (i*1)))),(37,.d (af X)),(39,.d (.tu [af S,aj])),(30,.d (.tu [af S,aj])),(40,.d (af S)),(42,.d (.v (bh V1 (i*1))))]) (fun V=>?_) (fun N1_2_4_0_0=>?_)
     · refine ZH.two 11 13 (by kernel_rfl) rfl rfl rfl rfl (fun _=>rfl) (fun _=>rfl) trivial ?_ ?_
       · refine ar (fun B1 F1 w1=>?_);refine qU 1 rfl ?_;refine ab.nil ⟨rfl,?_⟩;exact qL (N1_2_4_1_0 V) (by kernel_rfl) rfl trivial
       · refine ai.eV 31 0 rfl rfl rfl ?_;refine ai.el tok 31 42 rfl (List.Mem.head _) rfl rfl rfl (by rw[List.length_map,hpl];exact hin) rfl ?_;refine ai.cut 1 rfl (fun B1 F1 w1=>?_);refine ab.vq tok S rfl rfl rfl (by omega) ?_;rw[hps];refine ab.nil ⟨rfl,?_⟩;refine ai.back 31 0 rfl rfl rfl (List.Mem.head _) rfl ?_;refine ai.nil ?_;exact qL (N1_2_5_0_0 V) (by kernel_rfl) rfl trivial
     refine ZH.meet 4 (qB 15 3071) (fun V=>[(V1,fQ ps),(V2,fQ ys)]) (fun V=>[(1,.d (.v V1)),(2,.d (.v V2)),(3,.d (af c)),(4,.bx [.sl 1 (v.map af)]),(9,.d (dI i)),(10,.d (af M)),(13,.d (dI xs.length)),(14,.d (dI i)),(31,.d (.v V1)),(32,.d (dI i)),(34,.d (.v V1)),(35,.d (dI i)),(38,.d (af M)),(33,.d (bO v)),(36,.d (.v (bh V1 (i*1)))),(37,.d (af X)),(39,.d (.tu [af S,aj])),(30,.d (.tu [af S,aj])),(41,.d aj)]) (fun V=>?_) (fun N1_2_2_1_0=>?_)
     · refine ZH.all 10 (by kernel_rfl) rfl rfl (fun _=>rfl) trivial ?_;refine ar (fun B1 F1 w1=>?_);refine qU 1 rfl ?_;refine ab.nil ⟨rfl,?_⟩;exact qL (N1_2_3_1_0 V) (by kernel_rfl) rfl trivial
     refine ZH.meet 4 (qB 15 2047) (fun V=>[(V1,fQ ps),(V2,fQ ys)]) (fun V=>[(1,.d (.v V1)),(2,.d (.v V2)),(3,.d (af c)),(4,.bx [.sl 1 (v.map af)]),(9,.d (dI i)),(10,.d (af M)),(13,.d (dI xs.length)),(14,.d (dI i)),(31,.d (.v V1)),(32,.d (dI i)),(34,.d (.v V1)),(35,.d (dI i)),(38,.d (af M)),(33,.d (bO v)),(36,.d (.v (bh V1 (i*1)))),(37,.d (af X)),(39,.d (.tu [af S,aj])),(30,.d (.tu [af S,aj])),(40,.d (af S))]) (fun V=>?_) (fun N1_2_3_0_0=>?_)
     · refine ZH.two 11 12 (by kernel_rfl) rfl rfl rfl rfl (fun _=>rfl) (fun _=>rfl) trivial ?_ ?_
       · refine ar (fun B1 F1 w1=>?_);refine qU 1 rfl ?_;refine ab.nil ⟨rfl,?_⟩;exact qL (N1_2_3_1_0 V) (by kernel_rfl) rfl trivial
       · refine ah (fun B1 F1 w1 hS=>?_);refine ab.idxs tok (hS.at (i:=0) rfl (by rw[List.length_map];omega)) rfl rfl rfl rfl (Int.natCast_nonneg i) (by rw[List.length_map,hpl];exact hin) ?_;refine ab.nil ⟨rfl,?_⟩;exact qL (N1_2_4_0_0 V) (by kernel_rfl) rfl trivial
     refine ZH.meet 5 (qB 15 1023) (fun V=>[(V1,fQ ps),(V2,fQ ys)]) (fun V=>[(1,.d (.v V1)),(2,.d (.v V2)),(3,.d (af c)),(4,.bx [.sl 1 (v.map af)]),(9,.d (dI i)),(10,.d (af M)),(13,.d (dI xs.length)),(14,.d (dI i)),(31,.d (.v V1)),(32,.d (dI i)),(34,.d (.v V1)),(35,.d (dI i)),(38,.d (af M)),(33,.d (bO v)),(36,.d (.v (bh V1 (i*1)))),(37,.d (af X)),(39,.d (.tu [af S,aj])),(30,.d (.tu [af S,aj]))]) (fun V=>?_) (fun N1_2_2_0_0=>?_)
     · refine ZH.two 10 11 (by kernel_rfl) rfl rfl rfl rfl (fun _=>rfl) (fun _=>rfl) trivial ?_ ?_
       · refine ar (fun B1 F1 w1=>?_);refine qU 1 rfl ?_;refine ab.nil ⟨rfl,?_⟩;exact qL (N1_2_3_0_0 V) (by kernel_rfl) rfl trivial
       · refine ar (fun B1 F1 w1=>?_);refine qU 1 rfl ?_;refine ab.nil ⟨rfl,?_⟩;exact qL (N1_2_2_1_0 V) (by kernel_rfl) rfl trivial
     refine ZH.meet 6 (qB 15 511) (fun V=>[(V1,fQ ps),(V2,fQ ys)]) (fun V=>[(1,.d (.v V1)),(2,.d (.v V2)),(3,.d (af c)),(4,.bx [.sl 1 (v.map af)]),(9,.d (dI i)),(10,.d (af M)),(13,.d (dI xs.length)),(14,.d (dI i)),(31,.d (.v V1)),(32,.d (dI i)),(34,.d (.v V1)),(35,.d (dI i)),(38,.d (af M)),(33,.d (bO v)),(36,.d (.v (bh V1 (i*1)))),(37,.d (af X)),(39,.d (.tu [af S,aj]))]) (fun V=>?_) (fun N1_2_1_0_0=>?_)
     · refine ZH.all 9 (by kernel_rfl) rfl rfl (fun _=>rfl) trivial ?_;refine ar (fun B1 F1 w1=>?_);refine qU 1 rfl ?_;refine ab.nil ⟨rfl,?_⟩;exact qL (N1_2_2_0_0 V) (by kernel_rfl) rfl trivial
     refine ZH.meet 7 (qB 15 255) (fun V=>[(V1,fQ ps),(V2,fQ ys)]) (fun V=>[(1,.d (.v V1)),(2,.d (.v V2)),(3,.d (af c)),(4,.bx [.sl 1 (v.map af)]),(9,.d (dI i)),(10,.d (af M)),(13,.d (dI xs.length)),(14,.d (dI i)),(31,.d (.v V1)),(32,.d (dI i)),(34,.d (.v V1)),(35,.d (dI i)),(38,.d (af M)),(33,.d (bO v)),(36,.d (.v (bh V1 (i*1)))),(37,.d (af X))]) (fun V=>?_) (fun N1_2_0_0_0=>?_)
     · refine ZH.all 8 (by kernel_rfl) rfl rfl (fun _=>rfl) trivial ?_;refine ar (fun B1 F1 w1=>?_);refine ab.call tok rfl rfl rfl rfl cs ?_;refine ab.nil ⟨rfl,?_⟩;exact qL (N1_2_1_0_0 V) (by kernel_rfl) rfl trivial
     refine ZH.meet 8 (qB 15 251) (fun V=>[(V1,fQ ps),(V2,fQ ys)]) (fun V=>[(1,.d (.v V1)),(2,.d (.v V2)),(3,.d (af c)),(4,.bx [.sl 1 (v.map af)]),(9,.d (dI i)),(10,.d (af M)),(13,.d (dI xs.length)),(14,.d (dI i)),(31,.d (.v V1)),(32,.d (dI i)),(34,.d (.v V1)),(35,.d (dI i)),(38,.d (af M)),(36,.d (.v (bh V1 (i*1)))),(37,.d (af X))]) (fun V=>?_) (fun N0_2_0_0_0=>?_)
     · refine ZH.all 2 (by kernel_rfl) rfl rfl (fun _=>rfl) trivial ?_;refine ar (fun B1 F1 w1=>?_);refine qU 1 rfl ?_;refine ab.nil ⟨rfl,?_⟩;exact qL (N1_2_0_0_0 V) (by kernel_rfl) rfl trivial
     refine ZH.meet 8 (qB 15 191) (fun V=>[(V1,fQ ps),(V2,fQ ys)]) (fun V=>[(1,.d (.v V1)),(2,.d (.v V2)),(3,.d (af c)),(4,.bx [.sl 1 (v.map af)]),(9,.d (dI i)),(10,.d (af M)),(13,.d (dI xs.length)),(14,.d (dI i)),(31,.d (.v V1)),(32,.d (dI i)),(34,.d (.v V1)),(35,.d (dI i)),(38,.d (af M)),(33,.d (bO v)),(36,.d (.v (bh V1 (i*1))))]) (fun V=>?_) (fun N1_1_0_0_0=>?_)
     · refine ZH.all 6 (by kernel_rfl) rfl rfl (fun _=>rfl) trivial ?_;refine ah (fun B1 F1 w1 hS=>?_);refine ab.a5 tok (af (ps.getD i [])) (hS.at (i:=0) rfl (by rw[List.length_map];omega)) rfl rfl rfl rfl rfl rfl (getM af (by omega)) rfl ?_;rw[hpg];refine ab.nil ⟨rfl,?_⟩;exact qL (N1_2_0_0_0 V) (by kernel_rfl) rfl trivial
     refine ZH.meet 9 (qB 15 187) (fun V=>[(V1,fQ ps),(V2,fQ ys)]) (fun V=>[(1,.d (.v V1)),(2,.d (.v V2)),(3,.d (af c)),(4,.bx [.sl 1 (v.map af)]),(9,.d (dI i)),(10,.d (af M)),(13,.d (dI xs.length)),(14,.d (dI i)),(31,.d (.v V1)),(32,.d (dI i)),(34,.d (.v V1)),(35,.d (dI i)),(38,.d (af M)),(36,.d (.v (bh V1 (i*1))))]) (fun V=>?_) (fun N0_1_0_0_0=>?_)
     · refine ZH.two 2 6 (by kernel_rfl) rfl rfl rfl rfl (fun _=>rfl) (fun _=>rfl) trivial ?_ ?_
       · refine ar (fun B1 F1 w1=>?_);refine qU 1 rfl ?_;refine ab.nil ⟨rfl,?_⟩;exact qL (N1_1_0_0_0 V) (by kernel_rfl) rfl trivial
       · refine ah (fun B1 F1 w1 hS=>?_);refine ab.a5 tok (af (ps.getD i [])) (hS.at (i:=0) rfl (by rw[List.length_map];omega)) rfl rfl rfl rfl rfl rfl (getM af (by omega)) rfl ?_;rw[hpg];refine ab.nil ⟨rfl,?_⟩;exact qL (N0_2_0_0_0 V) (by kernel_rfl) rfl trivial
     refine ZH.meet 9 (qB 15 159) (fun V=>[(V1,fQ ps),(V2,fQ ys)]) (fun V=>[(1,.d (.v V1)),(2,.d (.v V2)),(3,.d (af c)),(4,.bx [.sl 1 (v.map af)]),(9,.d (dI i)),(10,.d (af M)),(13,.d (dI xs.length)),(14,.d (dI i)),(31,.d (.v V1)),(32,.d (dI i)),(34,.d (.v V1)),(35,.d (dI i)),(38,.d (af M)),(33,.d (bO v))]) (fun V=>?_) (fun N1_0_0_0_0=>?_)
     · refine ZH.all 5 (by kernel_rfl) rfl rfl (fun _=>rfl) trivial ?_;refine ah (fun B1 F1 w1 hS=>?_);refine ab.idxs tok (hS.at (i:=0) rfl (by rw[List.length_map];omega)) rfl rfl rfl rfl (Int.natCast_nonneg i) (by rw[List.length_map,hpl];exact hin) ?_;refine ab.nil ⟨rfl,?_⟩;exact qL (N1_1_0_0_0 V) (by kernel_rfl) rfl trivial
     refine ZH.meet 10 (qB 15 155) (fun V=>[(V1,fQ ps),(V2,fQ ys)]) (fun V=>[(1,.d (.v V1)),(2,.d (.v V2)),(3,.d (af c)),(4,.bx [.sl 1 (v.map af)]),(9,.d (dI i)),(10,.d (af M)),(13,.d (dI xs.length)),(14,.d (dI i)),(31,.d (.v V1)),(32,.d (dI i)),(34,.d (.v V1)),(35,.d (dI i)),(38,.d (af M))]) (fun V=>?_) (fun N0_0_0_0_0=>?_)
     · refine ZH.two 2 5 (by kernel_rfl) rfl rfl rfl rfl (fun _=>rfl) (fun _=>rfl) trivial ?_ ?_
       · refine ar (fun B1 F1 w1=>?_);refine qU 1 rfl ?_;refine ab.nil ⟨rfl,?_⟩;exact qL (N1_0_0_0_0 V) (by kernel_rfl) rfl trivial
       · refine ah (fun B1 F1 w1 hS=>?_);refine ab.idxs tok (hS.at (i:=0) rfl (by rw[List.length_map];omega)) rfl rfl rfl rfl (Int.natCast_nonneg i) (by rw[List.length_map,hpl];exact hin) ?_;refine ab.nil ⟨rfl,?_⟩;exact qL (N0_1_0_0_0 V) (by kernel_rfl) rfl trivial
     exact qL (N0_0_0_0_0 fy) (by kernel_rfl) rfl trivial
   have hin:i=xs.length:=by have:=of_decide_eq_false h;omega
   subst hin;rw[xL hz];refine AZ.exit ?_;refine AZ.seq ?_;refine AZ.ic (fun B1 F1 w1=>?_);refine qU 1 rfl ?_;refine ab.nil ⟨rfl,?_⟩;exact AZ.ret ⟨aj,rfl,rfl,rfl⟩
end Lift
namespace Lift
abbrev bw:=List (List NQ)
structure kK where
 rows:bw
 cols:List Nat
 sg:Int
 bP:NQ
def im(g:Nat→Bool):Nat→Nat→Nat
 | 0,i=>i
 | m+1,i=>if g i=true then i else im g m (i+1)
theorem uU{g:Nat→Bool}{n i:Nat}(h:i<n)(h0:g i=false):im g (n-i) i=im g (n-(i+1)) (i+1):=by
 rw[show n-i=(n-(i+1))+1 by omega,im,if_neg (by rw[h0];simp)]
theorem xW{g:Nat→Bool}{n i:Nat}(h:i<n)(h0:g i=true):im g (n-i) i=i:=by
 rw[show n-i=(n-(i+1))+1 by omega,im,if_pos h0]
theorem xX{g:Nat→Bool}{n i:Nat}(h: ¬i<n):im g (n-i) i=i:=by rw[show n-i=0 by omega,im]
theorem pW{g:Nat→Bool}: ∀{m i:Nat},i≤im g m i∧im g m i≤i+m∧(∀k,i≤k→k<im g m i→g k=false)∧(im g m i<i+m→g (im g m i)=true)
 | 0,i=>⟨Nat.le_refl _,Nat.le_refl _,fun k h1 h2=>by simp only[im] at h2;omega,fun h=>by simp only[im] at h;omega⟩
 | m+1,i=>by
   simp only[im];split
   · rename_i h;exact⟨Nat.le_refl _,by omega,fun k h1 h2=>by omega,fun _=>h⟩
   · rename_i h;obtain ⟨h1,h2,h3,h4⟩:=pW (g:=g) (m:=m) (i:=i+1);refine⟨by omega,by omega,fun k k1 k2=>?_,fun k=>h4 (by omega)⟩;by_cases e:k=i
     · subst e;simpa using h
     · exact h3 k (by omega) k2
def bM(a:bw)(i k:Nat):NQ:=(a.getD i []).getD k []
def Hy(v:List NQ)(a:bw)(c j:Nat):Bool:=decide (kP v (bM a j c)≠0)
def D'(b:bw)(r t:Nat):bw:=(b.set t (b.getD r [])).set r (b.getD t [])
def du(v:List NQ)(e:bw)(r c:Nat):Nat→bw
 | 0=>e
 | i+1=>if i≠r∧kP v (bM (du v e r c i) i c)≠0 then (du v e r c i).set i (mT v ((du v e r c i).getD i []) ((du v e r c i).getD r []) (bM (du v e r c i) i c)) else du v e r c i
def atR(v:List NQ)(s:kK)(c:Nat):Nat:=im (Hy v s.rows c) (s.rows.length-s.cols.length) s.cols.length
def bR(v:List NQ)(s:kK)(c:Nat):bw:=if atR v s c=s.cols.length then s.rows else D' s.rows s.cols.length (atR v s c)
def pR(v:List NQ)(s:kK)(c:Nat):NQ:=bM (bR v s c) s.cols.length c
def yt(v:List NQ)(r:List NQ)(p:NQ):List NQ:=r.map (fun x=>uf v x p)
def eR(v:List NQ)(s:kK)(c:Nat):bw:=(bR v s c).set s.cols.length (yt v ((bR v s c).getD s.cols.length []) (pR v s c))
def fh(v:List NQ)(s:kK)(c:Nat):kK :=
 if atR v s c<s.rows.length then ⟨du v (eR v s c) s.cols.length c (eR v s c).length,s.cols++[c],if atR v s c=s.cols.length then s.sg else -s.sg,jT v s.bP (pR v s c)⟩ else s
def aZ(v:List NQ)(a:bw):Nat→kK
 | 0=>⟨a,[],1,[1]⟩
 | c+1=>fh v (aZ v a c) c
structure l6 (v:List NQ) (s:kK) (c:Nat):Prop where
 sg: ∀j,s.cols.length≤j→j<s.rows.length→tV v (bM s.rows j c)
 bP:atR v s c<s.rows.length→sF v s.bP (pR v s c)
 div:atR v s c<s.rows.length→ ∀k,k<((bR v s c).getD s.cols.length []).length→CE v (bM (bR v s c) s.cols.length k) (pR v s c)
 sg2:atR v s c<s.rows.length→ ∀i,i<s.rows.length→i≠s.cols.length→tV v (bM (eR v s c) i c)
 take:atR v s c<s.rows.length→ ∀i,i<s.rows.length→i≠s.cols.length→kP v (bM (eR v s c) i c)≠0→y8 v ((eR v s c).getD i []) ((eR v s c).getD s.cols.length []) (bM (eR v s c) i c)
def cg(N:Nat)(a:bw):Prop:= ∀j,j<a.length→(a.getD j []).length=N
def nN(l:Nat)(a:bw):Prop:= ∀j k,aq l (bM a j k)
theorem gR(a:bw)(i j:Nat)(r:List NQ):(a.set i r).getD j []=if j=i∧i<a.length then r else a.getD j []:=by
 rw[List.getD_eq_getElem?_getD,List.getElem?_set,List.getD_eq_getElem?_getD];by_cases e:i=j
 · subst e;by_cases h:i<a.length
   · rw[if_pos rfl,if_pos h,if_pos ⟨rfl,h⟩];rfl
   · rw[if_pos rfl,if_neg h,if_neg (fun e=>h e.2),List.getElem?_eq_none (by omega)]
 · rw[if_neg e,if_neg (fun h=>e h.1.symm)]
theorem mE{a:bw}{i:Nat}(h:a.length≤i):a.getD i []=[]:=by rw[List.getD_eq_getElem?_getD,List.getElem?_eq_none h];rfl
theorem mD{r:List NQ}{i:Nat}(h:r.length≤i):r.getD i []=[]:=by rw[List.getD_eq_getElem?_getD,List.getElem?_eq_none h];rfl
theorem cg.set{N:Nat}{a:bw}(h:cg N a){r:List NQ}(hr:r.length=N)(i:Nat):cg N (a.set i r):=fun j hj=>by
 rw[gR];split
 · exact hr
 · exact h j (by simpa using hj)
theorem nN.set{l:Nat}{a:bw}(h:nN l a){r:List NQ}(hr: ∀k,aq l (r.getD k []))(i:Nat):nN l (a.set i r):=fun j k=>by
 unfold bM;rw[gR];split
 · exact hr k
 · exact h j k
theorem nN.row{l:Nat}{a:bw}(h:nN l a)(i:Nat): ∀k,aq l ((a.getD i []).getD k []):=h i
theorem D9(b:bw)(r t:Nat):(D' b r t).length=b.length:=by unfold D';rw[List.length_set,List.length_set]
theorem BW{N:Nat}{b:bw}(h:cg N b){r t:Nat}(hr:r<b.length)(ht:t<b.length):cg N (D' b r t):=(h.set (h r hr) t).set (h t ht) r
theorem F7{l:Nat}{b:bw}(h:nN l b)(r t:Nat):nN l (D' b r t):=(h.set (h r) t).set (h t) r
theorem rq(v:List NQ)(r:List NQ)(p:NQ):(yt v r p).length=r.length:=List.length_map ..
theorem rr(v:List NQ)(r:List NQ)(p:NQ){k:Nat}(h:k<r.length):(yt v r p).getD k []=uf v (r.getD k []) p:=by
 unfold yt;rw[List.getD_eq_getElem?_getD,List.getElem?_map,List.getD_eq_getElem?_getD,List.getElem?_eq_getElem h];rfl
theorem Gr{v:List NQ}(V:kJ v){r:List NQ}{p:NQ}(hr: ∀k,aq v.length (r.getD k []))(hp:aq v.length p)(k:Nat):aq v.length ((yt v r p).getD k []):=by
 by_cases h:k<r.length
 · rw[rr v r p h];exact E5 V (hr k) hp
 · rw[mD (by rw[rq];omega)];exact bm _
theorem BT{v:List NQ}(V:kJ v){xs ys:List NQ}{c:NQ}(hx: ∀k,aq v.length (xs.getD k []))(hy: ∀k,aq v.length (ys.getD k []))(hc:aq v.length c)(k:Nat):aq v.length ((mT v xs ys c).getD k []):=by
 by_cases h:k<xs.length
 · rw[mh v xs ys c h];exact Ed (hx k) (kB V hc (hy k))
 · rw[mD (by rw[mf];omega)];exact bm _
theorem j5(v:List NQ)(e:bw)(r c:Nat): ∀i,(du v e r c i).length=e.length
 | 0=>rfl
 | i+1=>by
   unfold du;split
   · rw[List.length_set];exact j5 v e r c i
   · exact j5 v e r c i
theorem p8{N:Nat}{v:List NQ}{e:bw}{r c:Nat}(h:cg N e): ∀i,i≤e.length→cg N (du v e r c i)
 | 0,_=>h
 | i+1,hi=>by
   have ih:=p8 (v:=v) (r:=r) (c:=c) h i (by omega);unfold du;split
   · exact ih.set (by rw[mf];exact ih i (by rw[j5];omega)) i
   · exact ih
theorem wq{v:List NQ}(V:kJ v){e:bw}{r c:Nat}(h:nN v.length e): ∀i,nN v.length (du v e r c i)
 | 0=>h
 | i+1=>by
   have ih:=wq V (r:=r) (c:=c) h i;unfold du;split
   · exact ih.set (BT V (ih i) (ih r) (ih i c)) i
   · exact ih
theorem fN(v:List NQ)(e:bw)(r c:Nat): ∀i,(∀j,i≤j∨j=r→(du v e r c i).getD j []=e.getD j [])
 | 0,j,_=>rfl
 | i+1,j,hj=>by
   have ih:=fN v e r c i j (by omega);unfold du;split
   · rename_i h;rw[gR,if_neg (fun g=>by rcases hj with hj | hj<;>omega)];exact ih
   · exact ih
theorem wu(v:List NQ)(e:bw)(r c:Nat)(i:Nat)(k:Nat):bM (du v e r c i) i k=bM e i k:=by unfold bM;rw[fN v e r c i i (.inl (Nat.le_refl _))]
structure tC (v:List NQ) (m N c:Nat) (s:kK):Prop where
 len:s.rows.length=m
 rect:cg N s.rows
 lt:nN v.length s.rows
 cl:s.cols.length≤c
 cm:s.cols.length≤m
 bP:aq v.length s.bP
 sg:s.sg=1∨s.sg= -1
theorem iW(v:List NQ)(s:kK)(c:Nat)(h:s.cols.length≤s.rows.length):s.cols.length≤atR v s c∧atR v s c≤s.rows.length∧(∀k,s.cols.length≤k→k<atR v s c→kP v (bM s.rows k c)=0)∧(atR v s c<s.rows.length→kP v (bM s.rows (atR v s c) c)≠0):=by
 obtain ⟨h1,h2,h3,h4⟩:=pW (g:=Hy v s.rows c) (m:=s.rows.length-s.cols.length) (i:=s.cols.length);refine⟨h1,by unfold atR;omega,fun k k1 k2=>?_,fun h=>?_⟩
 · have:=h3 k k1 k2;unfold Hy at this;exact Classical.byContradiction fun g=>by rw[decide_eq_true g] at this;cases this
 · exact of_decide_eq_true (h4 (by unfold atR at h;omega))
theorem yk{v:List NQ}{m N c k:Nat}{s:kK}(R:tC v m N k s)(h:atR v s c<s.rows.length):(bR v s c).length=m∧cg N (bR v s c)∧nN v.length (bR v s c):=by
 have hl:=R.len;have:=(iW v s c (by have:=R.cm;omega)).1;unfold bR;split
 · exact⟨R.len,R.rect,R.lt⟩
 · exact⟨by rw[D9];exact R.len,BW R.rect (by omega) h,F7 R.lt _ _⟩
theorem As{v:List NQ}(V:kJ v){m N c k:Nat}{s:kK}(R:tC v m N k s)(h:atR v s c<s.rows.length):(eR v s c).length=m∧cg N (eR v s c)∧nN v.length (eR v s c):=by
 obtain ⟨h1,h2,h3⟩:=yk (c:=c) R h;have hl:=R.len;have:=(iW v s c (by have:=R.cm;omega)).1;unfold eR;exact⟨by rw[List.length_set];exact h1,h2.set (by rw[rq];exact h2 _ (by omega)) _,h3.set (Gr V (h3 _) (h3 _ _)) _⟩
theorem Eg{v:List NQ}(V:kJ v){m N c:Nat}{s:kK}(R:tC v m N c s):tC v m N (c+1) (fh v s c):=by
 have hl:=R.len;have hc:=R.cl;unfold fh;split
 · rename_i h;obtain ⟨e1,e2,e3⟩:=As V (c:=c) R h;have ha:=(iW v s c (by have:=R.cm;omega)).1;refine⟨by rw[j5];exact e1,p8 e2 _ (Nat.le_refl _),wq V e3 _,?_,?_,kB V R.bP ((yk R h).2.2 _ _),?_⟩
   · show (s.cols++[c]).length≤c+1;rw[List.length_append];show s.cols.length+1≤_;omega
   · show (s.cols++[c]).length≤m;rw[List.length_append];show s.cols.length+1≤_;omega
   · rcases R.sg with h1 | h1<;>(show (if _ then s.sg else -s.sg)=1∨_= -1;split<;>simp[h1])
 · exact⟨R.len,R.rect,R.lt,by omega,R.cm,R.bP,R.sg⟩
theorem iM{v:List NQ}(V:kJ v){a:bw}{N:Nat}(hr:cg N a)(hl:nN v.length a): ∀c,tC v a.length N c (aZ v a c)
 | 0=>⟨rfl,hr,hl,Nat.le_refl _,Nat.zero_le _,ix _ _,.inl rfl⟩
 | c+1=>Eg V (iM V hr hl c)
theorem vz(v:List NQ): ∀c,aZ v [] c=⟨[],[],1,[1]⟩
 | 0=>rfl
 | c+1=>by
   show fh v (aZ v [] c) c=_;rw[vz v c];unfold fh;exact if_neg (Nat.not_lt_zero _)
end Lift
namespace Lift
def vM{v:List NQ}(F:FV v)(a:bw):Mk F.K:=fun i k=>F.val (bM a i k)
theorem u7(v:List NQ)(e:bw)(r c:Nat): ∀n i,i<n→n≤e.length→(du v e r c n).getD i []=if i≠r∧kP v (bM e i c)≠0 then mT v (e.getD i []) (e.getD r []) (bM e i c) else e.getD i []
 | 0,i,hi,_=>absurd hi (Nat.not_lt_zero i)
 | n+1,i,hi,hn=>by
   by_cases e1:i=n
   · subst e1;unfold du;rw[wu];split
     · rw[gR,if_pos ⟨rfl,by rw[j5];omega⟩,fN v e r c i i (.inl (Nat.le_refl _)),fN v e r c i r (.inr rfl)]
     · exact fN v e r c i i (.inl (Nat.le_refl _))
   · have ih:=u7 v e r c n i (by omega) (by omega);rw[← ih]
     conv=>lhs;unfold du
     split
     · rw[gR,if_neg (fun h=>e1 h.1)]
     · rfl
theorem zF{v:List NQ}{s:kK}{c i:Nat}(h1:s.cols.length≤atR v s c)(h:atR v s c<s.rows.length)(hi:i<s.rows.length):(bR v s c).getD i []=s.rows.getD (sw s.cols.length (atR v s c) i) []:=by
 unfold bR;split
 · rename_i e;rw[e];unfold sw;by_cases g:i=s.cols.length
   · rw[if_pos g,g]
   · rw[if_neg g,if_neg g]
 · unfold D' sw;rw[gR,gR];by_cases g:i=s.cols.length
   · rw[if_pos ⟨g,by rw[List.length_set];omega⟩,if_pos g]
   · rw[if_neg (fun h=>g h.1),if_neg g];by_cases g2:i=atR v s c
     · rw[if_pos ⟨g2,h⟩,if_pos g2]
     · rw[if_neg (fun h=>g2 h.1),if_neg g2]
theorem B5{v:List NQ}(V:kJ v)(F:FV v){m N c:Nat}{s:kK}(R:tC v m N c s)(hc:c<N)(h:atR v s c<s.rows.length):
  vM F s.rows (atR v s c) c≠0∧ ∀i k,i<m→k<N→vM F (du v (eR v s c) s.cols.length c (eR v s c).length) i k=if i=s.cols.length then vM F s.rows (atR v s c) k*F.K.inv (vM F s.rows (atR v s c) c) else vM F s.rows (sw s.cols.length (atR v s c) i) k-vM F s.rows (sw s.cols.length (atR v s c) i) c*(vM F s.rows (atR v s c) k*F.K.inv (vM F s.rows (atR v s c) c)):=by
 have hl:=R.len;obtain ⟨a1,a2,a3,a4⟩:=iW v s c (by have:=R.cm;omega);have hz:=a4 h;obtain ⟨b1,b2,b3⟩:=yk (c:=c) R h;obtain ⟨e1,e2,e3⟩:=As V (c:=c) R h;have hrm:s.cols.length<m:=by omega
 have eB: ∀i k,i<m→bM (bR v s c) i k=bM s.rows (sw s.cols.length (atR v s c) i) k:=fun i k hi=>by
  unfold bM;rw[zF a1 h (by omega)]
 have hp:pR v s c=bM s.rows (atR v s c) c:=by
  unfold pR;rw[eB _ _ hrm,F6]
 have hpz:kP v (pR v s c)≠0:=by rw[hp];exact hz
 have eE: ∀i k,i<m→k<N→bM (eR v s c) i k=if i=s.cols.length then uf v (bM s.rows (atR v s c) k) (bM s.rows (atR v s c) c) else bM s.rows (sw s.cols.length (atR v s c) i) k:=fun i k hi hk=>by
  unfold bM eR;rw[gR];by_cases e:i=s.cols.length
  · rw[if_pos ⟨e,by omega⟩,if_pos e,rr _ _ _ (by rw[b2 _ (by omega)];exact hk),hp,zF a1 h (by omega),F6];rfl
  · rw[if_neg (fun h=>e h.1),if_neg e,zF a1 h (by omega)]
 have ltR:=R.lt
 have vE: ∀i k,i<m→k<N→F.val (bM (eR v s c) i k)=if i=s.cols.length then vM F s.rows (atR v s c) k*F.K.inv (vM F s.rows (atR v s c) c) else vM F s.rows (sw s.cols.length (atR v s c) i) k:=fun i k hi hk=>by
  rw[eE i k hi hk];by_cases e:i=s.cols.length
  · rw[if_pos e,if_pos e,F.div (ltR _ _) (ltR _ _) hz];rfl
  · rw[if_neg e,if_neg e];rfl
 refine⟨fun e=>hz ((F.sg (ltR _ _)).2 e),fun i k hi hk=>?_⟩;have hd:=u7 v (eR v s c) s.cols.length c (eR v s c).length i (by omega) (Nat.le_refl _);show F.val (((du v (eR v s c) s.cols.length c (eR v s c).length).getD i []).getD k [])=_;rw[hd];by_cases e:i=s.cols.length
 · rw[if_neg (fun h=>h.1 e),if_pos e];have:=vE i k hi hk;rw[if_pos e] at this;exact this
 · rw[if_neg e];have v1:=vE i k hi hk;have v2:=vE i c hi hc;have v3:=vE s.cols.length k hrm hk;rw[if_neg e] at v1 v2;rw[if_pos rfl] at v3;by_cases g:kP v (bM (eR v s c) i c)=0
   · rw[if_neg (fun h=>h.2 g)];have z:=(F.sg (e3 i c)).1 g;rw[v2] at z;rw[z,Rg.zero_mul];show F.val (bM (eR v s c) i k)=_;rw[v1];exact(Rg.fS [vM F s.rows (sw s.cols.length (atR v s c) i) k] (X0-0) X0 rfl).symm
   · rw[if_pos ⟨e,g⟩,mh v _ _ _ (by rw[e2 i (by omega)];exact hk)];show F.val (qD (bM (eR v s c) i k) (jT v (bM (eR v s c) i c) (bM (eR v s c) s.cols.length k)))=_;rw[F.sub (e3 i k) (kB V (e3 i c) (e3 _ k)),F.mul (e3 i c) (e3 _ k)];show F.val (bM (eR v s c) i k) -F.val (bM (eR v s c) i c)*F.val (bM (eR v s c) s.cols.length k)=_;rw[v1,v2,v3]
theorem nk{v:List NQ}(V:kJ v)(F:FV v){a:bw}{N:Nat}(hr:cg N a)(hl:nN v.length a): ∀c,c≤N→RI a.length N c (vM F a) (vM F (aZ v a c).rows) (aZ v a c).cols
 | 0,_=>RI.start a.length N (vM F a)
 | c+1,hc=>by
   have I:=nk V F hr hl c (by omega);have R:=iM V hr hl c;have hlen:=R.len;obtain ⟨a1,a2,a3,a4⟩:=iW v (aZ v a c) c (by have:=R.cm;omega);show RI a.length N (c+1) (vM F a) (vM F (fh v (aZ v a c) c).rows) (fh v (aZ v a c) c).cols;unfold fh;by_cases h:atR v (aZ v a c) c<(aZ v a c).rows.length
   · rw[if_pos h];obtain ⟨h3,h4⟩:=B5 V F R (by omega) h;exact I.hit (by omega) a1 (by omega) h3 h4
   · rw[if_neg h];exact I.IC (by omega) fun q h1 h2=>(F.sg (R.lt q c)).1 (a3 q h1 (by omega))
theorem cg.take{N:Nat}{a:bw}(h:cg N a)(n:Nat):cg N (a.take n):=fun j hj=>by
 rw[List.length_take] at hj;rw[List.getD_eq_getElem?_getD,List.getElem?_take,if_pos (by omega),← List.getD_eq_getElem?_getD];exact h j (by omega)
theorem E2{a:bw}{n j:Nat}(hj:j<n):(a.take n).getD j []=a.getD j []:=by
 rw[List.getD_eq_getElem?_getD,List.getElem?_take,if_pos hj,← List.getD_eq_getElem?_getD]
theorem s6{a:bw}{n j:Nat}(hj:j<n)(k:Nat):bM (a.take n) j k=bM a j k:=by
 unfold bM;rw[E2 hj]
theorem nN.take{l:Nat}{a:bw}(h:nN l a)(n:Nat):nN l (a.take n):=fun j k=>by
 by_cases hj:j<n
 · rw[s6 hj];exact h j k
 · unfold bM;rw[mE (by rw[List.length_take];omega)];exact bm l
theorem A5{m0:Nat}{v:List NQ}(V:o7 m0 v){a b:bw}{N n:Nat}(ha:cg N a)(la:nN v.length a)(hb:cg a.length b)(lb:nN v.length b)(hbN:b.length=N)(hab: ∀i k,i<a.length→k<N→bM b k i=bM a i k)(hn:n≤a.length):
  (aZ v b n).cols.length=(aZ v (a.take n) N).cols.length:=by
 obtain ⟨F⟩:=C' V;have I1:=nk V.a F hb lb n hn;have I2:=nk V.a F (ha.take n) (la.take n) N (Nat.le_refl N);have hl:(a.take n).length=n:=by rw[List.length_take];omega
 rw[hl] at I2;rw[hbN] at I1
 have key: ∀s,qz N n s (vM F b)↔qz n N s (vM F (a.take n)):=fun s=>by
  constructor
  · intro h;refine h.Hf.congr fun i k hi hk=>?_;show F.val (bM b k i)=F.val (bM (a.take n) i k);rw[hab i k (by omega) hk,s6 hi]
  · intro h;refine h.Hf.congr fun k i hk hi=>?_;show F.val (bM (a.take n) i k)=F.val (bM b k i);rw[hab i k (by omega) hk,s6 hi]
 have h1:=fun s=>(I1.Ib (s:=s)).symm.trans ((key s).trans I2.Ib);exact Nat.le_antisymm ((h1 _).2 (Nat.le_refl _)) ((h1 _).1 (Nat.le_refl _))
end Lift
namespace Lift
open Go Go.Proofs
abbrev uo(Vs:List Value):List D:=Vs.map D.v
theorem bK{Vs:List Value}{i:Nat}(h:i<Vs.length):(uo Vs)[i]?=some (.v (Vs.getD i undef)):=by simp[h]
abbrev OA(Vs:List Value):AV:=AV.ow 22 (uo Vs)
abbrev CA(cols:List Nat):AV:=AV.ow 3 (cols.map (fun c:Nat=>dI c))
def bL(Vs:List Value)(a:bw):List LR:=List.zipWith (fun V r=>(V,fQ r)) Vs a
theorem DV{Vs:List Value}{a:bw}(h:Vs.length=a.length)(V:Value)(r:List NQ):bL (Vs++[V]) (a++[r])=bL Vs a++[(V,fQ r)]:=by
 unfold bL;rw[List.zipWith_append h];rfl
theorem iy{Vs:List Value}{a:bw}{j:Nat}(hV:j<Vs.length)(ha:j<a.length):(bL Vs a)[j]?=some (Vs.getD j undef,fQ (a.getD j [])):=by
 unfold bL;simp[List.getElem?_zipWith,hV,ha]
theorem tF{Vs:List Value}{a:bw}{j:Nat}(hV:j<Vs.length)(ha:j<a.length)(V:Value)(r:List NQ):(bL Vs a).set j (V,fQ r)=bL (Vs.set j V) (a.set j r):=by
 unfold bL;refine List.ext_getElem? (fun k=>?_);by_cases hk:k=j
 · subst hk;rw[List.getElem?_set_self (by simp;omega)];simp[List.getElem?_zipWith,hV,ha]
 · rw[List.getElem?_set_ne (Ne.symm hk)];simp[List.getElem?_zipWith,List.getElem?_set_ne (Ne.symm hk)]
theorem Ci{Vs:List Value}{j:Nat}(hV:j<Vs.length):Vs.set j (Vs.getD j undef)=Vs:=by
 refine List.ext_getElem? (fun k=>?_);by_cases hk:k=j
 · subst hk;rw[List.getElem?_set_self hV];simp[hV]
 · rw[List.getElem?_set_ne (Ne.symm hk)]
theorem w9{a:bw}{j:Nat}(ha:j<a.length):a.set j (a.getD j [])=a:=by
 refine List.ext_getElem? (fun k=>?_);by_cases hk:k=j
 · subst hk;rw[List.getElem?_set_self ha];simp[ha]
 · rw[List.getElem?_set_ne (Ne.symm hk)]
theorem rG{Vs:List Value}{a:bw}{j:Nat}(hV:j<Vs.length)(ha:j<a.length)(r:List NQ):(bL Vs a).set j (Vs.getD j undef,fQ r)=bL Vs (a.set j r):=by
 rw[tF hV ha,Ci hV]
def G7(Vs:List Value)(r t:Nat):List Value:=(Vs.set t (Vs.getD r undef)).set r (Vs.getD t undef)
theorem Ea(Vs:List Value)(r t:Nat):(G7 Vs r t).length=Vs.length:=by unfold G7;rw[List.length_set,List.length_set]
theorem DU{Vs:List Value}{a:bw}{r t:Nat}(h:Vs.length=a.length)(hr:r<a.length)(ht:t<a.length):
  ((bL Vs a).set t (Vs.getD r undef,fQ (a.getD r []))).set r (Vs.getD t undef,fQ (a.getD t []))=bL (G7 Vs r t) (D' a r t):=by
 rw[tF (by omega) ht,tF (by simp;omega) (by simp;omega)];rfl
theorem DT{Vs:List Value}{a:bw}{i r:Nat}(h:Vs.length=a.length)(hi:i<a.length)(hr:r<a.length)(hir:i≠r)(z:List NQ):
  ((bL Vs a).set i (Vs.getD i undef,fQ z)).set r (Vs.getD r undef,fQ (a.getD r []))=bL Vs (a.set i z):=by
 rw[rG (by omega) hi];have e:a.getD r []=(a.set i z).getD r []:=by rw[gR,if_neg (fun g=>hir g.1.symm)]
 rw[e,rG (by omega) (by simpa using hr),w9 (by simpa using hr)]
section
variable {P:Program} {T:Ty} {B:Nat} {F0:Nat→Prop} {w0:b7} {n:Nat} {σ τ:St} {K:St→Prop} {all:Array Oper} {o:Oper} {d:Nat} {rest:List Oper} {R:List LR} {x:Code} {Q:Exit→List LR→St→Prop}
theorem ab.zP(hT:aY P T){k e i:Nat}{Vs:List Value}(V:Value)(hd:o.dst=none)(hg:ak all σ o=true)(hx:zW T σ o.op=some (k,.ow e (uo Vs),uo Vs,i,0,.v V))(hi:i<Vs.length)
  (h:ab P B F0 w0 n all rest K ((k,.ow e (uo (Vs.set i V)))::σ)):ab P B F0 w0 n all (o::rest) K σ:=by
 refine ab.ji hT (.v (Vs.getD i undef)) hd hg hx (bK hi) rfl ?_;show ab P B F0 w0 n all rest K ((k,.ow e ((uo Vs).set i (.v V)))::σ);rw[show (uo Vs).set i (.v V)=uo (Vs.set i V) from (List.map_set ..).symm];exact h
theorem AZ.Da(hT:aY P T){e eo:Nat}{te:TI}(he:T.get e=some te)(h1:te.size=1){Vr:Value}{X:LR}{Vs:List Value}{a:bw}(hl:Vs.length=a.length)
  (h:AZ P B F0 w0 n x Q [(Vr,.ow eo (a.map fe)),X] σ): ∀(m k:Nat),m+k=a.length→ ∀L:List LR,(∀j,k≤j→j<a.length→L[j]?=some (Vs.getD j undef,.ow e ((a.getD j []).map af))) →
  AZ P B F0 w0 n x Q ((Vr,.ow eo ((a.take k).map fe++(uo Vs).drop k))::X::L) σ
 | 0,k,hk,L,hL=>by
   rw[List.take_of_length_le (by omega),List.drop_eq_nil_of_le (by rw[List.length_map];omega),List.append_nil];refine AZ.FJ _ (fun i r hr=> .inl ?_) h
   match i,hr with
   | 0,hr=>exact hr
   | 1,hr=>exact hr
 | m+1,k,hk,L,hL=>by
   have hka:k<a.length:=by omega
   have hll:k<L.length:=(List.getElem?_eq_some_iff.1 (hL k (Nat.le_refl _) hka)).1;have hft:((a.take k).map fe).length=k:=by rw[List.length_map,List.length_take];omega
   refine AZ.GD hT (k+2) 0 k (cs:=(a.take k).map fe++(uo Vs).drop k) rfl (fun d hd=>?_) ?_ (hL k (Nat.le_refl _) hka) (by omega) he ?_
   · rcases List.mem_append.1 hd with g | g
     · obtain ⟨r,_,rfl⟩:=List.mem_map.1 g;rfl
     · obtain ⟨V,_,rfl⟩:=List.mem_map.1 (List.mem_of_mem_drop g);rfl
   · rw[List.getElem?_append_right (by omega),hft,Nat.sub_self,List.getElem?_drop,Nat.add_zero];exact bK (by omega)
   · have e1:((a.take k).map fe++(uo Vs).drop k).set k (.sl te.size ((a.getD k []).map af))=(a.take (k+1)).map fe++(uo Vs).drop (k+1):=by
      rw[h1,List.set_append_right _ _ (by omega),hft,Nat.sub_self,List.take_succ_eq_append_getElem hka,List.map_append]
      have:(uo Vs).drop k= .v (Vs.getD k undef)::(uo Vs).drop (k+1):=by
       rw[List.drop_eq_getElem_cons (by rw[List.length_map];omega)]
       congr 1
       have:=bK (Vs:=Vs) (i:=k) (by omega);rw[List.getElem?_eq_getElem (by rw[List.length_map];omega)] at this;simpa using this
      rw[this,List.set_cons_zero,List.append_assoc];have g:a[k]=a.getD k []:=by rw[List.getD_eq_getElem?_getD,List.getElem?_eq_getElem hka];rfl
      rw[g];rfl
     show AZ P B F0 w0 n x Q ((Vr,.ow eo (((a.take k).map fe++(uo Vs).drop k).set k (.sl te.size ((a.getD k []).map af))))::X::L.set k (Vs.getD k undef,.junk)) σ;rw[e1]
     exact AZ.Da hT he h1 hl h m (k+1) (by omega) (L.set k (Vs.getD k undef,.junk)) (fun j hj hja=>by
      rw[List.getElem?_set_ne (by omega)];exact hL j (by omega) hja)
end
abbrev DQ(s:kK):D:= .ag [ck s.rows,.sl 1 (s.cols.map (fun c:Nat=>dI c)),dI s.sg,af s.bP]
set_option maxHeartbeats 12800000 in
theorem pK{v:List NQ}(V:kJ v){a:bw}{N most:Nat}(ha0:0<a.length)(ha:a.length≤1000000)(hN:N≤1000000)(hmost:most≤N)(hr:cg N a)(hl:nN v.length a)(ok: ∀c,c<most→l6 v (aZ v a c) c):
  Pure Tryz.prog 46 [bO v,ck a,dI most] (.tu [DQ (aZ v a most),aj]):=by
 refine qJ 205 Tryz.func46 rfl rfl rfl rfl (by kernel_rfl) (fun B F0 w0=>?_);have cone:=qc (Qr ((1:Int):Rat)) (k:=1) (j8 _ (by have:=tE;rw[show ((1:Int):Rat)=1 from rfl];omega)) (by decide) (by decide) (AL _);rw[c9,show Hx ((1:Int):Rat)=[1] from rfl] at cone;have htk:=fun {i:Nat} (hi:i<a.length)=>List.take_succ_eq_append_getElem (l:=a) hi;refine AZ.aw ?_;refine AZ.seq ?_;refine AZ.ic (fun B1 F1 w1=>?_);refine qU 3 rfl ?_;refine ab.nil ⟨rfl,?_⟩;refine AZ.seq ?_;refine AZ.ic (fun B1 F1 w1=>?_);refine ab.call tok rfl rfl rfl rfl (iV 1 (by decide) (by decide)) ?_;refine ab.call tok rfl rfl rfl rfl cone ?_;refine ab.DC tok [.v fy,.v fy,dI 0,.sl 3 []] rfl rfl rfl rfl (by kernel_rfl) ?_;refine qU 2 rfl ?_;refine ab.nil ⟨rfl,?_⟩;refine AZ.vW 22 ?_;refine AZ.vW 3 ?_;refine AZ.seq ?_;refine AZ.seq ?_;refine AZ.ic (fun B1 F1 w1=>?_);refine qU 2 rfl ?_;rw[List.length_map];refine qU 1 rfl ?_;refine ab.nil ⟨rfl,?_⟩;refine AZ.block ?_;refine AZ.aE [2,3,6,7,8,22,23,24] (fun s:Nat×Value×List Value=>((s.2.1,OA s.2.2)::(fy,CA [])::bL s.2.2 (a.take s.1),[(2,.d (dI most)),(3,.bx [.sl 1 (v.map af)]),(6,.bx [.sl 1 [],.sl 1 [],dI 0,.sl 3 []]),(7,.d aj),(8,.bx [.v s.2.1,.v fy,dI 1,af [1]]),(22,.d (ck a)),(23,.d (dI a.length)),(24,.d (dI s.1))])) (fun s=>s.1≤a.length∧s.2.2.length=s.1) (fun s=>a.length-s.1) (0,fy,[]) rfl ⟨Nat.zero_le _,rfl⟩ (fun s hs=>?_);obtain ⟨i,Vr,Vs⟩:=s;obtain ⟨hi,hVs⟩:=hs
 dsimp only at hi hVs
 show AZ _ _ _ _ _ _ _ ((Vr,OA Vs)::(fy,CA [])::bL Vs (a.take i)) [(2,.d (dI most)),(3,.bx [.sl 1 (v.map af)]),(6,.bx [.sl 1 [],.sl 1 [],dI 0,.sl 3 []]),(7,.d aj),(8,.bx [.v Vr,.v fy,dI 1,af [1]]),(22,.d (ck a)),(23,.d (dI a.length)),(24,.d (dI i))];refine AZ.seq ?_;refine AZ.ic (fun B1 F1 w1=>?_);refine qU 1 rfl ?_;refine ab.nil ⟨rfl,?_⟩;refine AZ.seq ?_;refine AZ.cond rfl (fun h=>?_) (fun h=>?_)
 · have hii:i<a.length:=by have:=of_decide_eq_true h;omega
   have hg:=getM fe (l:=a) (i:=i) hii;have hrl:(a.getD i []).length≤1000000:=by rw[hr i hii];exact hN
   have htk:=htk hii;have hge:a[i]=a.getD i []:=by rw[List.getD_eq_getElem?_getD,List.getElem?_eq_getElem hii];rfl
   rw[hge] at htk;generalize a.getD i []=row at hg hrl htk;refine AZ.skip ?_;refine AZ.seq ?_;refine AZ.block ?_;refine AZ.seq ?_;refine AZ.ic (fun B1 F1 w1=>?_);refine ab.idx tok (fe row) rfl rfl rfl rfl (Int.natCast_nonneg i) hg ?_;refine qU 2 rfl ?_;refine ab.nil ⟨rfl,?_⟩;refine AZ.any aM (ZH.any (β:=[]) ?_);refine ZH.mv 2 rfl rfl (by kernel_rfl) (by kernel_rfl) (by kernel_rfl) rfl (fun _ _ _ h=>h) (fun _=>rfl) trivial (fun B1 F1 w1=>?_);refine qU 1 rfl ?_;refine ab.nil ⟨rfl,?_⟩;refine ZH.fd tok 0 rfl rfl (by kernel_rfl) (by kernel_rfl) (by kernel_rfl) rfl (fun _ _ _ h=>h) (fun _=>rfl) trivial (fun B1 F1 w1=>?_);refine qU 1 rfl ?_;refine ab.nil ⟨rfl,?_⟩;refine ZH.meet 3 (qB 8 31) (fun V=>(((Vr,OA Vs)::(fy,CA [])::bL Vs (a.take i))++[(V,fQ row)])) (fun V=>[(2,.d (dI most)),(3,.bx [.sl 1 (v.map af)]),(6,.bx [.sl 1 [],.sl 1 [],dI 0,.sl 3 []]),(7,.d aj),(8,.bx [.v Vr,.v fy,dI 1,af [1]]),(22,.d (ck a)),(23,.d (dI a.length)),(24,.d (dI i)),(10,.d (fe row)),(30,.d (fe row)),(28,.pt 8 0),(29,.d (.v Vr)),(31,.d (.v V)),(32,.d (.sl 1 [.v V]))]) (fun V=>?_) (fun N1_2=>?_)
   · refine ZH.all 5 (by kernel_rfl) rfl rfl (fun _=>rfl) trivial ?_;refine ai.eV 29 0 rfl rfl rfl ?_;refine ai.cut 1 rfl (fun B1 F1 w1=>?_);refine ab.k7 tok rfl rfl rfl rfl rfl rfl (by show ((uo Vs).length+1)*24≤_;rw[List.length_map];omega) (by show (uo Vs).length+1≤_;rw[List.length_map];omega) ?_;refine ab.nil ⟨rfl,?_⟩;refine ai.xO 33 0 rfl rfl rfl rfl (fun Vq=>?_)
     refine ai.td (R':=(Vq,OA (Vs++[V]))::(fy,CA [])::bL (Vs++[V]) (a.take (i+1))) (by
      show (Vq,AV.ow 22 (uo Vs++[.v V]))::(fy,CA [])::(bL Vs (a.take i)++[(V,fQ row)])=_
      rw[htk,DV (by rw[List.length_take];omega),show uo Vs++[.v V]=uo (Vs++[V]) by simp]) ?_
     refine ai.nil ?_;refine ZH.to [2,3,6,7,8,22,23,24,10,30,28,32,33] [(2,.d (dI most)),(3,.bx [.sl 1 (v.map af)]),(6,.bx [.sl 1 [],.sl 1 [],dI 0,.sl 3 []]),(7,.d aj),(8,.bx [.v Vr,.v fy,dI 1,af [1]]),(22,.d (ck a)),(23,.d (dI a.length)),(24,.d (dI i)),(10,.d (fe row)),(30,.d (fe row)),(28,.pt 8 0),(32,.d (.sl 1 [.v V])),(33,.d (.v Vq))] rfl trivial ?_;refine ZH.all 6 (by kernel_rfl) rfl rfl (fun _=>rfl) trivial ?_;refine ar (fun B1 F1 w1=>?_);refine qU 1 rfl ?_;refine ab.nil ⟨rfl,?_⟩;refine ZH.all 7 (by kernel_rfl) rfl rfl (fun _=>rfl) trivial ?_;refine ar (fun B1 F1 w1=>?_);refine qU 1 rfl ?_;refine ab.nil ⟨rfl,?_⟩;refine ZH.done (by kernel_rfl) trivial ?_;refine AZ.to [2,3,6,7,8,22,23,24] [(2,.d (dI most)),(3,.bx [.sl 1 (v.map af)]),(6,.bx [.sl 1 [],.sl 1 [],dI 0,.sl 3 []]),(7,.d aj),(8,.bx [.v Vq,.v fy,dI 1,af [1]]),(22,.d (ck a)),(23,.d (dI a.length)),(24,.d (dI i))] rfl ?_;refine AZ.ic (fun B1 F1 w1=>?_);refine qU 1 rfl ?_;rw[aD (x:=(i:Int)+1) (by omega) (by omega)];refine qU 1 rfl ?_;refine ab.nil ⟨rfl,?_⟩;exact⟨(i+1,Vq,Vs++[V]),rfl,⟨hii,by show (Vs++[V]).length=i+1;rw[List.length_append];show Vs.length+1=_;omega⟩,by show a.length-(i+1)<a.length-i;omega⟩
   refine ZH.meet 4 (qB 8 29) (fun V=>(((Vr,OA Vs)::(fy,CA [])::bL Vs (a.take i))++[(V,fQ row)])) (fun V=>[(2,.d (dI most)),(3,.bx [.sl 1 (v.map af)]),(6,.bx [.sl 1 [],.sl 1 [],dI 0,.sl 3 []]),(7,.d aj),(8,.bx [.v Vr,.v fy,dI 1,af [1]]),(22,.d (ck a)),(23,.d (dI a.length)),(24,.d (dI i)),(10,.d (fe row)),(30,.d (fe row)),(28,.pt 8 0),(31,.d (.v V)),(32,.d (.sl 1 [.v V]))]) (fun V=>?_) (fun N0_2=>?_)
   · refine ZH.all 1 (by kernel_rfl) rfl rfl (fun _=>rfl) trivial ?_;refine ar (fun B1 F1 w1=>?_);refine qU 1 rfl ?_;refine ab.nil ⟨rfl,?_⟩;exact qL (N1_2 V) (by kernel_rfl) rfl trivial
   refine ZH.meet 4 (qB 8 15) (fun V=>(((Vr,OA Vs)::(fy,CA [])::bL Vs (a.take i))++[(V,fQ row)])) (fun V=>[(2,.d (dI most)),(3,.bx [.sl 1 (v.map af)]),(6,.bx [.sl 1 [],.sl 1 [],dI 0,.sl 3 []]),(7,.d aj),(8,.bx [.v Vr,.v fy,dI 1,af [1]]),(22,.d (ck a)),(23,.d (dI a.length)),(24,.d (dI i)),(10,.d (fe row)),(30,.d (fe row)),(28,.pt 8 0),(29,.d (.v Vr)),(31,.d (.v V))]) (fun V=>?_) (fun N1_1=>?_)
   · refine ZH.all 4 (by kernel_rfl) rfl rfl (fun _=>rfl) trivial ?_;refine ar (fun B1 F1 w1=>?_);refine ab.gm tok rfl rfl rfl rfl rfl ?_;refine ab.nil ⟨rfl,?_⟩;exact qL (N1_2 V) (by kernel_rfl) rfl trivial
   refine ZH.meet 5 (qB 8 13) (fun V=>(((Vr,OA Vs)::(fy,CA [])::bL Vs (a.take i))++[(V,fQ row)])) (fun V=>[(2,.d (dI most)),(3,.bx [.sl 1 (v.map af)]),(6,.bx [.sl 1 [],.sl 1 [],dI 0,.sl 3 []]),(7,.d aj),(8,.bx [.v Vr,.v fy,dI 1,af [1]]),(22,.d (ck a)),(23,.d (dI a.length)),(24,.d (dI i)),(10,.d (fe row)),(30,.d (fe row)),(28,.pt 8 0),(31,.d (.v V))]) (fun V=>?_) (fun N0_1=>?_)
   · refine ZH.two 1 4 (by kernel_rfl) rfl rfl rfl rfl (fun _=>rfl) (fun _=>rfl) trivial ?_ ?_
     · refine ar (fun B1 F1 w1=>?_);refine qU 1 rfl ?_;refine ab.nil ⟨rfl,?_⟩;exact qL (N1_1 V) (by kernel_rfl) rfl trivial
     · refine ar (fun B1 F1 w1=>?_);refine ab.gm tok rfl rfl rfl rfl rfl ?_;refine ab.nil ⟨rfl,?_⟩;exact qL (N0_2 V) (by kernel_rfl) rfl trivial
   refine ZH.meet 5 (qB 8 7) (fun V=>((Vr,OA Vs)::(fy,CA [])::bL Vs (a.take i))) (fun V=>[(2,.d (dI most)),(3,.bx [.sl 1 (v.map af)]),(6,.bx [.sl 1 [],.sl 1 [],dI 0,.sl 3 []]),(7,.d aj),(8,.bx [.v Vr,.v fy,dI 1,af [1]]),(22,.d (ck a)),(23,.d (dI a.length)),(24,.d (dI i)),(10,.d (fe row)),(30,.d (fe row)),(28,.pt 8 0),(29,.d (.v Vr))]) (fun V=>?_) (fun N1_0=>?_)
   · refine ZH.all 3 (by kernel_rfl) rfl rfl (fun _=>rfl) trivial ?_;refine ai.lZ tok [] rfl rfl rfl rfl rfl List.nodup_nil rfl (yc row hrl) (fun _ _ _=>Nat.zero_le _) (fun res R1 hP=>?_);obtain ⟨V,rfl,rfl⟩:=hP;refine ai.nil ?_;exact qL (N1_1 V) (by kernel_rfl) rfl trivial
   refine ZH.meet 6 (qB 8 5) (fun V=>((Vr,OA Vs)::(fy,CA [])::bL Vs (a.take i))) (fun V=>[(2,.d (dI most)),(3,.bx [.sl 1 (v.map af)]),(6,.bx [.sl 1 [],.sl 1 [],dI 0,.sl 3 []]),(7,.d aj),(8,.bx [.v Vr,.v fy,dI 1,af [1]]),(22,.d (ck a)),(23,.d (dI a.length)),(24,.d (dI i)),(10,.d (fe row)),(30,.d (fe row)),(28,.pt 8 0)]) (fun V=>?_) (fun N0_0=>?_)
   · refine ZH.two 1 3 (by kernel_rfl) rfl rfl rfl rfl (fun _=>rfl) (fun _=>rfl) trivial ?_ ?_
     · refine ar (fun B1 F1 w1=>?_);refine qU 1 rfl ?_;refine ab.nil ⟨rfl,?_⟩;exact qL (N1_0 V) (by kernel_rfl) rfl trivial
     · refine ai.lZ tok [] rfl rfl rfl rfl rfl List.nodup_nil rfl (yc row hrl) (fun _ _ _=>Nat.zero_le _) (fun res R1 hP=>?_);obtain ⟨V,rfl,rfl⟩:=hP;refine ai.nil ?_;exact qL (N0_1 V) (by kernel_rfl) rfl trivial
   exact qL (N0_0 fy) (by kernel_rfl) rfl trivial
 have hii:i=a.length:=by have:=of_decide_eq_false h;omega
 subst hii;rw[List.take_length];refine AZ.exit ?_;refine AZ.seq ?_;refine AZ.seq ?_;refine AZ.ic (fun B1 F1 w1=>?_);refine qU 2 rfl ?_;refine ab.nil ⟨rfl,?_⟩;refine AZ.block ?_;refine AZ.aE [3,6,7,8,36,37] (fun z:Nat×Value×Value×List Value=>((z.2.1,OA z.2.2.2)::(z.2.2.1,CA (aZ v a z.1).cols)::bL z.2.2.2 (aZ v a z.1).rows,[(3,.bx [.sl 1 (v.map af)]),(6,.bx [.sl 1 [],.sl 1 [],dI 0,.sl 3 []]),(7,.d aj),(8,.bx [.v z.2.1,.v z.2.2.1,dI (aZ v a z.1).sg,af (aZ v a z.1).bP]),(36,.d (dI most)),(37,.d (dI z.1))])) (fun z=>z.1≤most∧z.2.2.2.length=a.length) (fun z=>most-z.1) (0,Vr,fy,Vs) rfl ⟨Nat.zero_le _,hVs⟩ (fun z hz=>?_);clear hVs;clear Vr Vs;obtain ⟨c,Vr,Vc,Vs⟩:=z;obtain ⟨hc,hVs⟩:=hz
 dsimp only at hc hVs
 have hR:=iM V hr hl c;have hnext:aZ v a (c+1)=fh v (aZ v a c) c:=rfl;have hok:=ok c;obtain ⟨s,hs⟩: ∃s,aZ v a c=s:=⟨_,rfl⟩;rw[hs] at hR hnext hok;show AZ _ _ _ _ _ _ _ ((Vr,OA Vs)::(Vc,CA (aZ v a c).cols)::bL Vs (aZ v a c).rows) [(3,.bx [.sl 1 (v.map af)]),(6,.bx [.sl 1 [],.sl 1 [],dI 0,.sl 3 []]),(7,.d aj),(8,.bx [.v Vr,.v Vc,dI (aZ v a c).sg,af (aZ v a c).bP]),(36,.d (dI most)),(37,.d (dI c))];rw[hs];refine AZ.seq ?_;refine AZ.ic (fun B1 F1 w1=>?_);refine qU 1 rfl ?_;refine ab.nil ⟨rfl,?_⟩;refine AZ.seq ?_;refine AZ.cond rfl (fun h=>?_) (fun h=>?_);rotate_left
 · have hcm:c=most:=by have:=of_decide_eq_false h;omega
   subst hcm;rw[hs];refine AZ.exit ?_;refine AZ.FJ ((Vr,AV.ow 22 ((s.rows.take 0).map fe++(uo Vs).drop 0))::(Vc,CA s.cols)::bL Vs s.rows) (fun _ _ h=> .inl h) ?_;refine AZ.Da (te:=_) tok (e:=53) rfl rfl (by rw[hR.len];exact hVs) ?_ s.rows.length 0 (by omega) (bL Vs s.rows) (fun j _ hj=>iy (by rw[hVs,← hR.len];exact hj) hj);refine AZ.Bk tok 8 0 0 rfl rfl rfl rfl ?_;refine AZ.Bk tok 8 1 1 rfl rfl rfl rfl ?_;refine AZ.seq ?_;refine AZ.ic (fun B1 F1 w1=>?_);refine qU 3 rfl ?_;refine ab.nil ⟨rfl,?_⟩;exact AZ.ret rfl
 have hcm:c<most:=by have:=of_decide_eq_true h;omega
 have hok:=hok hcm;have hm:=hR.len;have hcN:c<N:=by omega
 have hVm:Vs.length=s.rows.length:=by omega
 have hrm:=hR.cm;rw[← hm] at hrm;obtain ⟨hat1,hat2,hat3,hat4⟩:=iW v s c hrm;have hrow0:0<s.rows.length:=by omega
 have hm6:s.rows.length≤1000000:=by omega
 have hel: ∀{b:bw} {i:Nat},cg N b→i<b.length→ ∀k,k<N→((b.getD i []).map af)[k]?=some (af (bM b i k)):=fun {b i} hb hi k hk=>getM af (by rw[hb i hi];exact hk);refine AZ.skip ?_;refine AZ.seq ?_;refine AZ.block ?_;refine AZ.seq ?_;refine AZ.ic (fun B1 F1 w1=>?_);refine qU 2 rfl ?_;refine ab.nil ⟨rfl,?_⟩;refine AZ.seq ?_;refine AZ.region ?_;refine ai.cut 2 rfl (fun B1 F1 w1=>?_);refine qU 2 rfl ?_;refine ab.nil ⟨rfl,?_⟩;refine ai.eV 41 1 rfl rfl rfl ?_;refine ai.cut 1 rfl (fun B1 F1 w1=>?_);refine qU 1 rfl ?_;rw[List.length_map];refine ab.nil ⟨rfl,?_⟩;refine ai.back 41 1 rfl rfl rfl (List.Mem.head _) rfl ?_;refine ai.cut 1 rfl (fun B1 F1 w1=>?_);refine qU 1 rfl ?_;refine ab.nil ⟨rfl,?_⟩;refine ai.nil ?_;refine AZ.to [3,6,7,8,11,12,36,37] [(3,.bx [.sl 1 (v.map af)]),(6,.bx [.sl 1 [],.sl 1 [],dI 0,.sl 3 []]),(7,.d aj),(8,.bx [.v Vr,.v Vc,dI s.sg,af s.bP]),(11,.d (dI c)),(12,.d (dI s.cols.length)),(36,.d (dI most)),(37,.d (dI c))] rfl ?_;refine AZ.seq ?_;refine AZ.ic (fun B1 F1 w1=>?_);refine qU 2 rfl ?_;refine ab.nil ⟨rfl,?_⟩;refine AZ.cut [3,6,7,8,11,12,13,36,37] (fun _:Unit=>(((Vr,OA Vs)::(Vc,CA s.cols)::bL Vs s.rows),[(3,.bx [.sl 1 (v.map af)]),(6,.bx [.sl 1 [],.sl 1 [],dI 0,.sl 3 []]),(7,.d aj),(8,.bx [.v Vr,.v Vc,dI s.sg,af s.bP]),(11,.d (dI c)),(12,.d (dI s.cols.length)),(13,.d (dI (atR v s c))),(36,.d (dI most)),(37,.d (dI c))])) (fun _=>True) ?_ (fun _ _=>?_)
 · refine AZ.block ?_;refine AZ.aE [3,6,7,8,11,12,13,36,37] (fun j:Nat=>(((Vr,OA Vs)::(Vc,CA s.cols)::bL Vs s.rows),[(3,.bx [.sl 1 (v.map af)]),(6,.bx [.sl 1 [],.sl 1 [],dI 0,.sl 3 []]),(7,.d aj),(8,.bx [.v Vr,.v Vc,dI s.sg,af s.bP]),(11,.d (dI c)),(12,.d (dI s.cols.length)),(13,.d (dI j)),(36,.d (dI most)),(37,.d (dI c))])) (fun j=>s.cols.length≤j∧j≤s.rows.length∧im (Hy v s.rows c) (s.rows.length-j) j=atR v s c) (fun j=>s.rows.length-j) s.cols.length rfl ⟨Nat.le_refl _,hrm,rfl⟩ (fun j hj=>?_);show AZ _ _ _ _ _ _ _ ((Vr,OA Vs)::(Vc,CA s.cols)::bL Vs s.rows) [(3,.bx [.sl 1 (v.map af)]),(6,.bx [.sl 1 [],.sl 1 [],dI 0,.sl 3 []]),(7,.d aj),(8,.bx [.v Vr,.v Vc,dI s.sg,af s.bP]),(11,.d (dI c)),(12,.d (dI s.cols.length)),(13,.d (dI j)),(36,.d (dI most)),(37,.d (dI c))];obtain ⟨j1,j2,j3⟩:=hj;refine AZ.seq ?_;refine AZ.seq ?_;refine AZ.any aM (o6.At 18 (by kernel_rfl) (fun B1 F1 w1 hS=>?_));have hS0:=hS.at (i:=0) rfl (by rw[List.length_map];omega);refine qP 3 rfl ?_;refine ae.lens tok hS0 rfl rfl rfl rfl rfl ?_;rw[List.length_map];refine qP 1 rfl ?_;by_cases hjm:j<s.rows.length;rotate_left
   · rw[xX hjm] at j3;rw[decide_eq_false (show ¬(j:Int)<(Vs.length:Int) by omega)];refine qP 13 rfl ?_;refine ae.nil ⟨rfl,?_⟩;refine ai.nil ?_;refine AZ.aB rfl ?_;exact AZ.exit ⟨(),by rw[← j3];rfl,trivial⟩
   rw[decide_eq_true (show (j:Int)<(Vs.length:Int) by omega)];have hj6:(s.rows.getD j []).length=N:=hR.rect j hjm;have hS1:=hS.at (i:=j+2) (iy (Vs:=Vs) (by omega) hjm) (by rw[List.length_map];omega);have cs:=fG V (hR.lt j c) (hok.sg j j1 hjm);have hnz:Hy v s.rows c j=decide (kP v (bM s.rows j c)≠0):=rfl;generalize kP v (bM s.rows j c)=g at cs hnz;refine qP 5 rfl ?_;refine ae.idxs tok hS0 rfl rfl rfl rfl rfl (Int.natCast_nonneg j) (by rw[List.length_map];omega) ?_;refine ae.a5 tok (.v (Vs.getD j undef)) hS0 rfl rfl rfl rfl rfl rfl rfl (bK (by omega)) rfl ?_;refine qP 1 rfl ?_;refine ae.idxs tok hS1 rfl rfl rfl rfl rfl (Int.natCast_nonneg c) (by rw[List.length_map];omega) ?_;refine ae.a5 tok (af (bM s.rows j c)) hS1 rfl rfl rfl rfl rfl rfl rfl (hel hR.rect hjm c hcN) rfl ?_;refine ae.call tok rfl rfl rfl rfl rfl cs ?_;refine qP 2 rfl ?_;refine ae.nil ⟨rfl,?_⟩;refine ai.nil ?_;refine AZ.cond rfl (fun h=>?_) (fun h=>?_)
   · have hg:g=0:=beq_iff_eq.1 h;refine AZ.skip ?_;refine AZ.block ?_;refine AZ.ic (fun B1 F1 w1=>?_);refine qU 2 rfl ?_;rw[aD (x:=(j:Int)+1) (by omega) (by omega)];refine qU 1 rfl ?_;refine ab.nil ⟨rfl,?_⟩;exact⟨j+1,rfl,⟨by omega,hjm,by rw[← uU hjm (by rw[hnz,hg];rfl)];exact j3⟩,by omega⟩
   · have hg:g≠0:=beq_eq_false_iff_ne.1 h;rw[xW hjm (by rw[hnz,decide_eq_true hg])] at j3;exact AZ.exit ⟨(),by rw[← j3];rfl,trivial⟩
 show AZ _ _ _ _ _ _ _ ((Vr,OA Vs)::(Vc,CA s.cols)::bL Vs s.rows) [(3,.bx [.sl 1 (v.map af)]),(6,.bx [.sl 1 [],.sl 1 [],dI 0,.sl 3 []]),(7,.d aj),(8,.bx [.v Vr,.v Vc,dI s.sg,af s.bP]),(11,.d (dI c)),(12,.d (dI s.cols.length)),(13,.d (dI (atR v s c))),(36,.d (dI most)),(37,.d (dI c))];refine AZ.seq ?_;refine AZ.seq ?_;refine AZ.Co (fun B1 F1 w1 hS=>?_);refine qU 3 rfl ?_;refine ab.lens tok (hS.at (i:=0) rfl (by rw[List.length_map];omega)) rfl rfl rfl rfl ?_;rw[List.length_map];refine qU 1 rfl ?_;refine ab.nil ⟨rfl,?_⟩;refine AZ.cond rfl (fun h=>?_) (fun h=>?_)
 · have hat: ¬atR v s c<s.rows.length:=by have:=of_decide_eq_true h;omega
   have hst:aZ v a (c+1)=s:=by rw[hnext];unfold fh;rw[if_neg hat]
   refine AZ.exit ?_;refine AZ.ic (fun B1 F1 w1=>?_);refine qU 1 rfl ?_;rw[aD (x:=(c:Int)+1) (by omega) (by omega)];refine qU 1 rfl ?_;refine ab.nil ⟨rfl,?_⟩;exact⟨(c+1,Vr,Vc,Vs),by rw[hst];rfl,⟨hcm,hVs⟩,by show most-(c+1)<most-c;omega⟩
 have hat:atR v s c<s.rows.length:=by have:=of_decide_eq_false h;omega
 have hst:aZ v a (c+1)=⟨du v (eR v s c) s.cols.length c (eR v s c).length,s.cols++[c],if atR v s c=s.cols.length then s.sg else -s.sg,jT v s.bP (pR v s c)⟩:=by rw[hnext];unfold fh;rw[if_pos hat]
 obtain ⟨hb1,hb2,hb3⟩:=yk (c:=c) hR hat;obtain ⟨he1,he2,he3⟩:=As V (c:=c) hR hat;have hbr:bR v s c=if atR v s c=s.cols.length then s.rows else D' s.rows s.cols.length (atR v s c):=rfl
 have hpr:pR v s c=bM (bR v s c) s.cols.length c:=rfl;have hE:eR v s c=(bR v s c).set s.cols.length (yt v ((bR v s c).getD s.cols.length []) (pR v s c)):=rfl;have okd:=hok.bP hat;have okv:=hok.div hat;have oks:=hok.sg2 hat;have okt:=hok.take hat;generalize bR v s c=b at *;generalize pR v s c=p at *;generalize eR v s c=e at *;generalize atR v s c=t at *;refine AZ.skip ?_;refine AZ.cut [3,6,7,8,11,12,36,37] (fun Ws:List Value=>(((Vr,OA Ws)::(Vc,CA s.cols)::bL Ws b),[(3,.bx [.sl 1 (v.map af)]),(6,.bx [.sl 1 [],.sl 1 [],dI 0,.sl 3 []]),(7,.d aj),(8,.bx [.v Vr,.v Vc,dI (if t=s.cols.length then s.sg else -s.sg),af s.bP]),(11,.d (dI c)),(12,.d (dI s.cols.length)),(36,.d (dI most)),(37,.d (dI c))])) (fun Ws=>Ws.length=b.length) ?_ (fun Ws hWs=>?_)
 · refine AZ.seq ?_;refine AZ.ic (fun B1 F1 w1=>?_);refine qU 3 rfl ?_;refine ab.nil ⟨rfl,?_⟩;by_cases htr:t=s.cols.length
   · rw[if_pos htr] at hbr;rw[bne_eq_false_iff_eq.2 (show (t:Int)=(s.cols.length:Int) by omega)];refine AZ.aB rfl ?_;refine AZ.skip ?_;exact⟨Vs,by rw[if_pos htr,hbr];rfl,by omega⟩
   rw[if_neg htr] at hbr;rw[bne_iff_ne.2 (show (t:Int)≠(s.cols.length:Int) by omega)];refine AZ.aG rfl ?_;refine AZ.seq ?_;refine AZ.any aM (ZH.any (β:=[(8,[.v Vr,.v Vc,dI s.sg,af s.bP])]) ?_);refine ZH.mv 2 rfl rfl (by kernel_rfl) (by kernel_rfl) (by kernel_rfl) rfl (fun _ _ _ h=>h) (fun _=>rfl) ⟨rfl,trivial⟩ (fun B1 F1 w1=>?_);refine qU 1 rfl ?_;refine ab.nil ⟨rfl,?_⟩;refine ZH.mv 5 rfl rfl (by kernel_rfl) (by kernel_rfl) (by kernel_rfl) rfl (fun _ _ _ h=>h) (fun _=>rfl) ⟨rfl,trivial⟩ (fun B1 F1 w1=>?_);refine qU 1 rfl ?_;refine ab.nil ⟨rfl,?_⟩;refine ZH.mv 8 rfl rfl (by kernel_rfl) (by kernel_rfl) (by kernel_rfl) rfl (fun _ _ _ h=>h) (fun _=>rfl) ⟨rfl,trivial⟩ (fun B1 F1 w1=>?_);refine qU 1 rfl ?_;refine ab.nil ⟨rfl,?_⟩;refine ZH.mv 13 rfl rfl (by kernel_rfl) (by kernel_rfl) (by kernel_rfl) rfl (fun _ _ _ h=>h) (fun _=>rfl) ⟨rfl,trivial⟩ (fun B1 F1 w1=>?_);refine qU 1 rfl ?_;refine ab.nil ⟨rfl,?_⟩;refine ZH.fd tok 0 rfl rfl (by kernel_rfl) (by kernel_rfl) (by kernel_rfl) rfl (fun _ _ _ h=>h) (fun _=>rfl) ⟨rfl,trivial⟩ (fun B1 F1 w1=>?_);refine qU 1 rfl ?_;refine ab.nil ⟨rfl,?_⟩;refine ZH.fd tok 3 rfl rfl (by kernel_rfl) (by kernel_rfl) (by kernel_rfl) rfl (fun _ _ _ h=>h) (fun _=>rfl) ⟨rfl,trivial⟩ (fun B1 F1 w1=>?_);refine qU 1 rfl ?_;refine ab.nil ⟨rfl,?_⟩;refine ZH.fd tok 6 rfl rfl (by kernel_rfl) (by kernel_rfl) (by kernel_rfl) rfl (fun _ _ _ h=>h) (fun _=>rfl) ⟨rfl,trivial⟩ (fun B1 F1 w1=>?_);refine qU 1 rfl ?_;refine ab.nil ⟨rfl,?_⟩;refine ZH.fd tok 11 rfl rfl (by kernel_rfl) (by kernel_rfl) (by kernel_rfl) rfl (fun _ _ _ h=>h) (fun _=>rfl) ⟨rfl,trivial⟩ (fun B1 F1 w1=>?_);refine qU 1 rfl ?_;refine ab.nil ⟨rfl,?_⟩;refine ZH.ld tok 1 rfl rfl (by kernel_rfl) (by kernel_rfl) (by kernel_rfl) rfl rfl (fun _ _ _ h=>h) (fun _=>rfl) ⟨rfl,trivial⟩ (fun B1 F1 w1=>?_);refine qU 1 rfl ?_;refine ab.nil ⟨rfl,?_⟩;refine ZH.ld tok 4 rfl rfl (by kernel_rfl) (by kernel_rfl) (by kernel_rfl) rfl rfl (fun _ _ _ h=>h) (fun _=>rfl) ⟨rfl,trivial⟩ (fun B1 F1 w1=>?_);refine qU 1 rfl ?_;refine ab.nil ⟨rfl,?_⟩;refine ZH.ld tok 7 rfl rfl (by kernel_rfl) (by kernel_rfl) (by kernel_rfl) rfl rfl (fun _ _ _ h=>h) (fun _=>rfl) ⟨rfl,trivial⟩ (fun B1 F1 w1=>?_);refine qU 1 rfl ?_;refine ab.nil ⟨rfl,?_⟩;refine ZH.ld tok 12 rfl rfl (by kernel_rfl) (by kernel_rfl) (by kernel_rfl) rfl rfl (fun _ _ _ h=>h) (fun _=>rfl) ⟨rfl,trivial⟩ (fun B1 F1 w1=>?_);refine qU 1 rfl ?_;refine ab.nil ⟨rfl,?_⟩;refine ZH.meet 4 (qB 20 65535) (fun V=>((Vr,OA Vs)::(Vc,CA s.cols)::bL Vs s.rows)) (fun V=>[(3,.bx [.sl 1 (v.map af)]),(6,.bx [.sl 1 [],.sl 1 [],dI 0,.sl 3 []]),(7,.d aj),(8,.bx [.v Vr,.v Vc,dI s.sg,af s.bP]),(11,.d (dI c)),(12,.d (dI s.cols.length)),(13,.d (dI t)),(36,.d (dI most)),(37,.d (dI c)),(73,.d (.v Vr)),(74,.d (dI t)),(76,.d (.v Vr)),(77,.d (dI s.cols.length)),(79,.d (.v Vr)),(80,.d (dI s.cols.length)),(84,.d (.v Vr)),(85,.d (dI t)),(82,.d (.v (Vs.getD s.cols.length undef))),(87,.d (.v (Vs.getD t undef)))]) (fun V=>?_) (fun N2_2=>?_)
   · refine ZH.all 16 (by kernel_rfl) rfl rfl (fun _=>rfl) ⟨rfl,trivial⟩ ?_;refine ah (fun B1 F1 w1 hS=>?_);refine ab.idxs tok (hS.at (i:=0) rfl (by rw[List.length_map];omega)) rfl rfl rfl rfl (Int.natCast_nonneg _) (by show t<_;rw[List.length_map];omega) ?_;refine ab.nil ⟨rfl,?_⟩;refine ZH.to [3,6,7,8,11,12,13,36,37,73,74,76,77,79,80,84,85,82,87,88] [(3,.bx [.sl 1 (v.map af)]),(6,.bx [.sl 1 [],.sl 1 [],dI 0,.sl 3 []]),(7,.d aj),(8,.bx [.v Vr,.v Vc,dI s.sg,af s.bP]),(11,.d (dI c)),(12,.d (dI s.cols.length)),(13,.d (dI t)),(36,.d (dI most)),(37,.d (dI c)),(73,.d (.v Vr)),(74,.d (dI t)),(76,.d (.v Vr)),(77,.d (dI s.cols.length)),(79,.d (.v Vr)),(80,.d (dI s.cols.length)),(84,.d (.v Vr)),(85,.d (dI t)),(82,.d (.v (Vs.getD s.cols.length undef))),(87,.d (.v (Vs.getD t undef))),(88,.d (.v (bh Vr (t*1))))] rfl ⟨rfl,trivial⟩ ?_;refine ZH.all 17 (by kernel_rfl) rfl rfl (fun _=>rfl) ⟨rfl,trivial⟩ ?_;refine ai.eV 73 0 rfl rfl rfl ?_;refine ai.el tok 73 88 rfl (List.Mem.head _) rfl rfl rfl (by rw[List.length_map];omega) rfl ?_;refine ai.cut 1 rfl (fun B1 F1 w1=>?_);refine ab.zP tok (Vs.getD s.cols.length undef) rfl rfl rfl (by omega) ?_;refine ab.nil ⟨rfl,?_⟩;refine ai.back 73 0 rfl rfl rfl (List.Mem.head _) rfl ?_;refine ai.nil ?_;refine ZH.to [3,6,7,8,11,12,13,36,37,73,74,76,77,79,80,84,85,82,87] [(3,.bx [.sl 1 (v.map af)]),(6,.bx [.sl 1 [],.sl 1 [],dI 0,.sl 3 []]),(7,.d aj),(8,.bx [.v Vr,.v Vc,dI s.sg,af s.bP]),(11,.d (dI c)),(12,.d (dI s.cols.length)),(13,.d (dI t)),(36,.d (dI most)),(37,.d (dI c)),(73,.d (.v Vr)),(74,.d (dI t)),(76,.d (.v Vr)),(77,.d (dI s.cols.length)),(79,.d (.v Vr)),(80,.d (dI s.cols.length)),(84,.d (.v Vr)),(85,.d (dI t)),(82,.d (.v (Vs.getD s.cols.length undef))),(87,.d (.v (Vs.getD t undef)))] rfl ⟨rfl,trivial⟩ ?_;refine ZH.all 18 (by kernel_rfl) rfl rfl (fun _=>rfl) ⟨rfl,trivial⟩ ?_;refine ah (fun B1 F1 w1 hS=>?_);refine ab.idxs tok (hS.at (i:=0) rfl (by rw[List.length_map,List.length_set];omega)) rfl rfl rfl rfl (Int.natCast_nonneg _) (by show s.cols.length<_;rw[List.length_map,List.length_set];omega) ?_;refine ab.nil ⟨rfl,?_⟩;refine ZH.to [3,6,7,8,11,12,13,36,37,73,74,76,77,79,80,84,85,82,87,89] [(3,.bx [.sl 1 (v.map af)]),(6,.bx [.sl 1 [],.sl 1 [],dI 0,.sl 3 []]),(7,.d aj),(8,.bx [.v Vr,.v Vc,dI s.sg,af s.bP]),(11,.d (dI c)),(12,.d (dI s.cols.length)),(13,.d (dI t)),(36,.d (dI most)),(37,.d (dI c)),(73,.d (.v Vr)),(74,.d (dI t)),(76,.d (.v Vr)),(77,.d (dI s.cols.length)),(79,.d (.v Vr)),(80,.d (dI s.cols.length)),(84,.d (.v Vr)),(85,.d (dI t)),(82,.d (.v (Vs.getD s.cols.length undef))),(87,.d (.v (Vs.getD t undef))),(89,.d (.v (bh Vr (s.cols.length*1))))] rfl ⟨rfl,trivial⟩ ?_;refine ZH.all 19 (by kernel_rfl) rfl rfl (fun _=>rfl) ⟨rfl,trivial⟩ ?_;refine ai.eV 76 0 rfl rfl rfl ?_;refine ai.el tok 76 89 rfl (List.Mem.head _) rfl rfl rfl (by rw[List.length_map,List.length_set];omega) rfl ?_;refine ai.cut 1 rfl (fun B1 F1 w1=>?_);refine ab.zP tok (Vs.getD t undef) rfl rfl rfl (by rw[List.length_set];omega) ?_;refine ab.nil ⟨rfl,?_⟩;refine ai.back 76 0 rfl rfl rfl (List.Mem.head _) rfl ?_;refine ai.nil ?_;refine ZH.done (by kernel_rfl) ⟨rfl,trivial⟩ ?_;refine AZ.to [3,6,7,8,11,12,13,36,37] [(3,.bx [.sl 1 (v.map af)]),(6,.bx [.sl 1 [],.sl 1 [],dI 0,.sl 3 []]),(7,.d aj),(8,.bx [.v Vr,.v Vc,dI s.sg,af s.bP]),(11,.d (dI c)),(12,.d (dI s.cols.length)),(13,.d (dI t)),(36,.d (dI most)),(37,.d (dI c))] rfl ?_;refine AZ.BV (t+2) (s.cols.length+2) (iy (Vs:=Vs) (by omega) hat) (iy (Vs:=Vs) (by omega) (by omega)) ?_;show AZ _ _ _ _ _ _ _ ((Vr,OA (G7 Vs s.cols.length t))::(Vc,CA s.cols)::((bL Vs s.rows).set t (Vs.getD s.cols.length undef,fQ (s.rows.getD s.cols.length []))).set s.cols.length (Vs.getD t undef,fQ (s.rows.getD t []))) _;rw[DU (by omega) (by omega) hat,← hbr];refine AZ.ic (fun B1 F1 w1=>?_);refine qU 3 rfl ?_;rw[aD (x:=0-s.sg) (by have:=hR.sg;omega) (by have:=hR.sg;omega),Int.zero_sub];refine qU 2 rfl ?_;refine ab.nil ⟨rfl,?_⟩;exact⟨G7 Vs s.cols.length t,by rw[if_neg htr];rfl,by show (G7 Vs s.cols.length t).length=_;rw[Ea,hb1];omega⟩
   refine ZH.meet 5 (qB 20 64511) (fun V=>((Vr,OA Vs)::(Vc,CA s.cols)::bL Vs s.rows)) (fun V=>[(3,.bx [.sl 1 (v.map af)]),(6,.bx [.sl 1 [],.sl 1 [],dI 0,.sl 3 []]),(7,.d aj),(8,.bx [.v Vr,.v Vc,dI s.sg,af s.bP]),(11,.d (dI c)),(12,.d (dI s.cols.length)),(13,.d (dI t)),(36,.d (dI most)),(37,.d (dI c)),(73,.d (.v Vr)),(74,.d (dI t)),(76,.d (.v Vr)),(77,.d (dI s.cols.length)),(79,.d (.v Vr)),(80,.d (dI s.cols.length)),(84,.d (.v Vr)),(85,.d (dI t)),(81,.d (.v (bh Vr (s.cols.length*1)))),(87,.d (.v (Vs.getD t undef)))]) (fun V=>?_) (fun N1_2=>?_)
   · refine ZH.all 10 (by kernel_rfl) rfl rfl (fun _=>rfl) ⟨rfl,trivial⟩ ?_;refine ah (fun B1 F1 w1 hS=>?_);refine ab.a5 tok (.v (Vs.getD s.cols.length undef)) (hS.at (i:=0) rfl (by rw[List.length_map];omega)) rfl rfl rfl rfl rfl rfl (bK (by omega)) rfl ?_;refine ab.nil ⟨rfl,?_⟩;exact qL (N2_2 V) (by kernel_rfl) rfl ⟨rfl,trivial⟩
   refine ZH.meet 5 (qB 20 32767) (fun V=>((Vr,OA Vs)::(Vc,CA s.cols)::bL Vs s.rows)) (fun V=>[(3,.bx [.sl 1 (v.map af)]),(6,.bx [.sl 1 [],.sl 1 [],dI 0,.sl 3 []]),(7,.d aj),(8,.bx [.v Vr,.v Vc,dI s.sg,af s.bP]),(11,.d (dI c)),(12,.d (dI s.cols.length)),(13,.d (dI t)),(36,.d (dI most)),(37,.d (dI c)),(73,.d (.v Vr)),(74,.d (dI t)),(76,.d (.v Vr)),(77,.d (dI s.cols.length)),(79,.d (.v Vr)),(80,.d (dI s.cols.length)),(84,.d (.v Vr)),(85,.d (dI t)),(82,.d (.v (Vs.getD s.cols.length undef))),(86,.d (.v (bh Vr (t*1))))]) (fun V=>?_) (fun N2_1=>?_)
   · refine ZH.all 15 (by kernel_rfl) rfl rfl (fun _=>rfl) ⟨rfl,trivial⟩ ?_;refine ah (fun B1 F1 w1 hS=>?_);refine ab.a5 tok (.v (Vs.getD t undef)) (hS.at (i:=0) rfl (by rw[List.length_map];omega)) rfl rfl rfl rfl rfl rfl (bK (by omega)) rfl ?_;refine ab.nil ⟨rfl,?_⟩;exact qL (N2_2 V) (by kernel_rfl) rfl ⟨rfl,trivial⟩
   refine ZH.meet 6 (qB 20 63999) (fun V=>((Vr,OA Vs)::(Vc,CA s.cols)::bL Vs s.rows)) (fun V=>[(3,.bx [.sl 1 (v.map af)]),(6,.bx [.sl 1 [],.sl 1 [],dI 0,.sl 3 []]),(7,.d aj),(8,.bx [.v Vr,.v Vc,dI s.sg,af s.bP]),(11,.d (dI c)),(12,.d (dI s.cols.length)),(13,.d (dI t)),(36,.d (dI most)),(37,.d (dI c)),(73,.d (.v Vr)),(74,.d (dI t)),(76,.d (.v Vr)),(77,.d (dI s.cols.length)),(79,.d (.v Vr)),(80,.d (dI s.cols.length)),(84,.d (.v Vr)),(85,.d (dI t)),(87,.d (.v (Vs.getD t undef)))]) (fun V=>?_) (fun N0_2=>?_)
   · refine ZH.all 9 (by kernel_rfl) rfl rfl (fun _=>rfl) ⟨rfl,trivial⟩ ?_;refine ah (fun B1 F1 w1 hS=>?_);refine ab.idxs tok (hS.at (i:=0) rfl (by rw[List.length_map];omega)) rfl rfl rfl rfl (Int.natCast_nonneg _) (by show s.cols.length<_;rw[List.length_map];omega) ?_;refine ab.nil ⟨rfl,?_⟩;exact qL (N1_2 V) (by kernel_rfl) rfl ⟨rfl,trivial⟩
   refine ZH.meet 6 (qB 20 31743) (fun V=>((Vr,OA Vs)::(Vc,CA s.cols)::bL Vs s.rows)) (fun V=>[(3,.bx [.sl 1 (v.map af)]),(6,.bx [.sl 1 [],.sl 1 [],dI 0,.sl 3 []]),(7,.d aj),(8,.bx [.v Vr,.v Vc,dI s.sg,af s.bP]),(11,.d (dI c)),(12,.d (dI s.cols.length)),(13,.d (dI t)),(36,.d (dI most)),(37,.d (dI c)),(73,.d (.v Vr)),(74,.d (dI t)),(76,.d (.v Vr)),(77,.d (dI s.cols.length)),(79,.d (.v Vr)),(80,.d (dI s.cols.length)),(84,.d (.v Vr)),(85,.d (dI t)),(81,.d (.v (bh Vr (s.cols.length*1)))),(86,.d (.v (bh Vr (t*1))))]) (fun V=>?_) (fun N1_1=>?_)
   · refine ZH.two 10 15 (by kernel_rfl) rfl rfl rfl rfl (fun _=>rfl) (fun _=>rfl) ⟨rfl,trivial⟩ ?_ ?_
     · refine ah (fun B1 F1 w1 hS=>?_);refine ab.a5 tok (.v (Vs.getD s.cols.length undef)) (hS.at (i:=0) rfl (by rw[List.length_map];omega)) rfl rfl rfl rfl rfl rfl (bK (by omega)) rfl ?_;refine ab.nil ⟨rfl,?_⟩;exact qL (N2_1 V) (by kernel_rfl) rfl ⟨rfl,trivial⟩
     · refine ah (fun B1 F1 w1 hS=>?_);refine ab.a5 tok (.v (Vs.getD t undef)) (hS.at (i:=0) rfl (by rw[List.length_map];omega)) rfl rfl rfl rfl rfl rfl (bK (by omega)) rfl ?_;refine ab.nil ⟨rfl,?_⟩;exact qL (N1_2 V) (by kernel_rfl) rfl ⟨rfl,trivial⟩
   refine ZH.meet 6 (qB 20 16383) (fun V=>((Vr,OA Vs)::(Vc,CA s.cols)::bL Vs s.rows)) (fun V=>[(3,.bx [.sl 1 (v.map af)]),(6,.bx [.sl 1 [],.sl 1 [],dI 0,.sl 3 []]),(7,.d aj),(8,.bx [.v Vr,.v Vc,dI s.sg,af s.bP]),(11,.d (dI c)),(12,.d (dI s.cols.length)),(13,.d (dI t)),(36,.d (dI most)),(37,.d (dI c)),(73,.d (.v Vr)),(74,.d (dI t)),(76,.d (.v Vr)),(77,.d (dI s.cols.length)),(79,.d (.v Vr)),(80,.d (dI s.cols.length)),(84,.d (.v Vr)),(85,.d (dI t)),(82,.d (.v (Vs.getD s.cols.length undef)))]) (fun V=>?_) (fun N2_0=>?_)
   · refine ZH.all 14 (by kernel_rfl) rfl rfl (fun _=>rfl) ⟨rfl,trivial⟩ ?_;refine ah (fun B1 F1 w1 hS=>?_);refine ab.idxs tok (hS.at (i:=0) rfl (by rw[List.length_map];omega)) rfl rfl rfl rfl (Int.natCast_nonneg _) (by show t<_;rw[List.length_map];omega) ?_;refine ab.nil ⟨rfl,?_⟩;exact qL (N2_1 V) (by kernel_rfl) rfl ⟨rfl,trivial⟩
   refine ZH.meet 7 (qB 20 31231) (fun V=>((Vr,OA Vs)::(Vc,CA s.cols)::bL Vs s.rows)) (fun V=>[(3,.bx [.sl 1 (v.map af)]),(6,.bx [.sl 1 [],.sl 1 [],dI 0,.sl 3 []]),(7,.d aj),(8,.bx [.v Vr,.v Vc,dI s.sg,af s.bP]),(11,.d (dI c)),(12,.d (dI s.cols.length)),(13,.d (dI t)),(36,.d (dI most)),(37,.d (dI c)),(73,.d (.v Vr)),(74,.d (dI t)),(76,.d (.v Vr)),(77,.d (dI s.cols.length)),(79,.d (.v Vr)),(80,.d (dI s.cols.length)),(84,.d (.v Vr)),(85,.d (dI t)),(86,.d (.v (bh Vr (t*1))))]) (fun V=>?_) (fun N0_1=>?_)
   · refine ZH.two 9 15 (by kernel_rfl) rfl rfl rfl rfl (fun _=>rfl) (fun _=>rfl) ⟨rfl,trivial⟩ ?_ ?_
     · refine ah (fun B1 F1 w1 hS=>?_);refine ab.idxs tok (hS.at (i:=0) rfl (by rw[List.length_map];omega)) rfl rfl rfl rfl (Int.natCast_nonneg _) (by show s.cols.length<_;rw[List.length_map];omega) ?_;refine ab.nil ⟨rfl,?_⟩;exact qL (N1_1 V) (by kernel_rfl) rfl ⟨rfl,trivial⟩
     · refine ah (fun B1 F1 w1 hS=>?_);refine ab.a5 tok (.v (Vs.getD t undef)) (hS.at (i:=0) rfl (by rw[List.length_map];omega)) rfl rfl rfl rfl rfl rfl (bK (by omega)) rfl ?_;refine ab.nil ⟨rfl,?_⟩;exact qL (N0_2 V) (by kernel_rfl) rfl ⟨rfl,trivial⟩
   refine ZH.meet 7 (qB 20 15359) (fun V=>((Vr,OA Vs)::(Vc,CA s.cols)::bL Vs s.rows)) (fun V=>[(3,.bx [.sl 1 (v.map af)]),(6,.bx [.sl 1 [],.sl 1 [],dI 0,.sl 3 []]),(7,.d aj),(8,.bx [.v Vr,.v Vc,dI s.sg,af s.bP]),(11,.d (dI c)),(12,.d (dI s.cols.length)),(13,.d (dI t)),(36,.d (dI most)),(37,.d (dI c)),(73,.d (.v Vr)),(74,.d (dI t)),(76,.d (.v Vr)),(77,.d (dI s.cols.length)),(79,.d (.v Vr)),(80,.d (dI s.cols.length)),(84,.d (.v Vr)),(85,.d (dI t)),(81,.d (.v (bh Vr (s.cols.length*1))))]) (fun V=>?_) (fun N1_0=>?_)
   · refine ZH.two 10 14 (by kernel_rfl) rfl rfl rfl rfl (fun _=>rfl) (fun _=>rfl) ⟨rfl,trivial⟩ ?_ ?_
     · refine ah (fun B1 F1 w1 hS=>?_);refine ab.a5 tok (.v (Vs.getD s.cols.length undef)) (hS.at (i:=0) rfl (by rw[List.length_map];omega)) rfl rfl rfl rfl rfl rfl (bK (by omega)) rfl ?_;refine ab.nil ⟨rfl,?_⟩;exact qL (N2_0 V) (by kernel_rfl) rfl ⟨rfl,trivial⟩
     · refine ah (fun B1 F1 w1 hS=>?_);refine ab.idxs tok (hS.at (i:=0) rfl (by rw[List.length_map];omega)) rfl rfl rfl rfl (Int.natCast_nonneg _) (by show t<_;rw[List.length_map];omega) ?_;refine ab.nil ⟨rfl,?_⟩;exact qL (N1_1 V) (by kernel_rfl) rfl ⟨rfl,trivial⟩
   refine ZH.meet 8 (qB 20 14847) (fun V=>((Vr,OA Vs)::(Vc,CA s.cols)::bL Vs s.rows)) (fun V=>[(3,.bx [.sl 1 (v.map af)]),(6,.bx [.sl 1 [],.sl 1 [],dI 0,.sl 3 []]),(7,.d aj),(8,.bx [.v Vr,.v Vc,dI s.sg,af s.bP]),(11,.d (dI c)),(12,.d (dI s.cols.length)),(13,.d (dI t)),(36,.d (dI most)),(37,.d (dI c)),(73,.d (.v Vr)),(74,.d (dI t)),(76,.d (.v Vr)),(77,.d (dI s.cols.length)),(79,.d (.v Vr)),(80,.d (dI s.cols.length)),(84,.d (.v Vr)),(85,.d (dI t))]) (fun V=>?_) (fun N0_0=>?_)
   · refine ZH.two 9 14 (by kernel_rfl) rfl rfl rfl rfl (fun _=>rfl) (fun _=>rfl) ⟨rfl,trivial⟩ ?_ ?_
     · refine ah (fun B1 F1 w1 hS=>?_);refine ab.idxs tok (hS.at (i:=0) rfl (by rw[List.length_map];omega)) rfl rfl rfl rfl (Int.natCast_nonneg _) (by show s.cols.length<_;rw[List.length_map];omega) ?_;refine ab.nil ⟨rfl,?_⟩;exact qL (N1_0 V) (by kernel_rfl) rfl ⟨rfl,trivial⟩
     · refine ah (fun B1 F1 w1 hS=>?_);refine ab.idxs tok (hS.at (i:=0) rfl (by rw[List.length_map];omega)) rfl rfl rfl rfl (Int.natCast_nonneg _) (by show t<_;rw[List.length_map];omega) ?_;refine ab.nil ⟨rfl,?_⟩;exact qL (N0_1 V) (by kernel_rfl) rfl ⟨rfl,trivial⟩
   exact qL (N0_0 fy) (by kernel_rfl) rfl ⟨rfl,trivial⟩
 obtain ⟨sg,hsg⟩: ∃sg,(if t=s.cols.length then s.sg else -s.sg)=sg:=⟨_,rfl⟩;obtain ⟨r,hrr⟩: ∃r,s.cols.length=r:=⟨_,rfl⟩;have hrb:r<b.length:=by omega
 have hrN:(b.getD r []).length=N:=hb2 r hrb;have okc:=m9 V hR.bP (by rw[hpr];exact hb3 _ _) okd;rw[hsg] at hst;rw[hrr] at hst hpr hE okv oks okt;show AZ _ _ _ _ _ _ _ ((Vr,OA Ws)::(Vc,CA s.cols)::bL Ws b) [(3,.bx [.sl 1 (v.map af)]),(6,.bx [.sl 1 [],.sl 1 [],dI 0,.sl 3 []]),(7,.d aj),(8,.bx [.v Vr,.v Vc,dI (if t=s.cols.length then s.sg else -s.sg),af s.bP]),(11,.d (dI c)),(12,.d (dI s.cols.length)),(36,.d (dI most)),(37,.d (dI c))];rw[hsg,hrr];refine AZ.seq ?_;refine AZ.Co (fun B1 F1 w1 hS=>?_);refine qU 3 rfl ?_;refine ab.idxs tok (hS.at (i:=0) rfl (by rw[List.length_map];omega)) rfl rfl rfl rfl (Int.natCast_nonneg _) (by show r<_;rw[List.length_map];omega) ?_;refine ab.a5 tok (.v (Ws.getD r undef)) (hS.at (i:=0) rfl (by rw[List.length_map];omega)) rfl rfl rfl rfl rfl rfl (bK (by omega)) rfl ?_;refine qU 1 rfl ?_;refine ab.idxs tok (hS.at (i:=r+2) (iy (Vs:=Ws) (by omega) hrb) (by rw[List.length_map];omega)) rfl rfl rfl rfl (Int.natCast_nonneg c) (by rw[List.length_map];omega) ?_;refine ab.a5 tok (af (bM b r c)) (hS.at (i:=r+2) (iy (Vs:=Ws) (by omega) hrb) (by rw[List.length_map];omega)) rfl rfl rfl rfl rfl rfl (hel hb2 hrb c hcN) rfl ?_;rw[← hpr];refine qU 1 rfl ?_;refine ab.nil ⟨rfl,?_⟩;refine AZ.seq ?_;refine AZ.ic (fun B1 F1 w1=>?_);refine qU 1 rfl ?_;refine ab.nil ⟨rfl,?_⟩;refine AZ.seq ?_;refine AZ.seq ?_;refine AZ.ic (fun B1 F1 w1=>?_);refine qU 4 rfl ?_;refine ab.call tok rfl rfl rfl rfl okc ?_;refine qU 6 rfl ?_;refine ab.nil ⟨rfl,?_⟩;refine AZ.seq ?_;refine AZ.ic (fun B1 F1 w1=>?_);refine qU 1 rfl ?_;refine ab.err tok rfl rfl rfl rfl rfl ?_;refine ab.nil ⟨rfl,?_⟩;refine AZ.aB rfl ?_;refine AZ.skip ?_;generalize jT v s.bP p=bP at *;obtain ⟨row,hrow⟩: ∃row,b.getD r []=row:=⟨_,rfl⟩;have hz:=rq v row p;have hsr: ∀k,bM b r k=row.getD k []:=fun k=>by unfold bM;rw[hrow]
 have hb0:bL Ws b=bL Ws (b.set r row):=by rw[← hrow,w9 hrb]
 have hgr: ∀q:List NQ,(bL Ws (b.set r q))[r]?=some (Ws.getD r undef,fQ q):=fun q=>by
  rw[iy (by omega) (by simpa using hrb),gR,if_pos ⟨rfl,hrb⟩]
 rw[hrow] at hE hrN okv;rw[hb0];refine AZ.seq ?_;refine AZ.seq ?_;refine AZ.Co (fun B1 F1 w1 hS=>?_);refine qU 3 rfl ?_;refine ab.idxs tok (hS.at (i:=0) rfl (by rw[List.length_map];omega)) rfl rfl rfl rfl (Int.natCast_nonneg _) (by show r<_;rw[List.length_map];omega) ?_;refine ab.a5 tok (.v (Ws.getD r undef)) (hS.at (i:=0) rfl (by rw[List.length_map];omega)) rfl rfl rfl rfl rfl rfl (bK (by omega)) rfl ?_;refine ab.lens tok (hS.at (i:=r+2) (hgr row) (by rw[List.length_map];omega)) rfl rfl rfl rfl ?_;rw[List.length_map,hrN];refine qU 1 rfl ?_;refine ab.nil ⟨rfl,?_⟩;refine AZ.block ?_;refine AZ.aE [3,6,7,8,11,12,14,36,37,120,121] (fun k:Nat=>(((Vr,OA Ws)::(Vc,CA s.cols)::bL Ws (b.set r (ga (yt v row p) row k))),[(3,.bx [.sl 1 (v.map af)]),(6,.bx [.sl 1 [],.sl 1 [],dI 0,.sl 3 []]),(7,.d aj),(8,.bx [.v Vr,.v Vc,dI sg,af bP]),(11,.d (dI c)),(12,.d (dI r)),(14,.d (af p)),(36,.d (dI most)),(37,.d (dI c)),(120,.d (dI N)),(121,.d (dI k))])) (fun k=>k≤N) (fun k=>N-k) 0 (by rw[uO];rfl) (Nat.zero_le _) (fun k hk=>?_);show AZ _ _ _ _ _ _ _ ((Vr,OA Ws)::(Vc,CA s.cols)::bL Ws (b.set r (ga (yt v row p) row k))) [(3,.bx [.sl 1 (v.map af)]),(6,.bx [.sl 1 [],.sl 1 [],dI 0,.sl 3 []]),(7,.d aj),(8,.bx [.v Vr,.v Vc,dI sg,af bP]),(11,.d (dI c)),(12,.d (dI r)),(14,.d (af p)),(36,.d (dI most)),(37,.d (dI c)),(120,.d (dI N)),(121,.d (dI k))];refine AZ.seq ?_;refine AZ.ic (fun B1 F1 w1=>?_);refine qU 1 rfl ?_;refine ab.nil ⟨rfl,?_⟩;refine AZ.seq ?_;refine AZ.cond rfl (fun h=>?_) (fun h=>?_)
 · have hkN:k<N:=by have:=of_decide_eq_true h;omega
   have hpl:=sN hz (i:=k) (by omega);have hpg:=xK hz (show k<row.length by omega) [];have hps:=xJ hz (show k<row.length by omega) (d:=[]) (rr v row p (show k<row.length by omega));have cd:=yG V (a:=row.getD k []) (b:=p) (by rw[← hrow];exact hb3 r k) (by rw[hpr];exact hb3 _ _) (by have:=okv k (by omega);rw[hsr] at this;exact this);generalize ga (yt v row p) row k=q at *;generalize row.getD k []=X at *;generalize uf v X p=Y at *;refine AZ.skip ?_;refine AZ.seq ?_;refine AZ.block ?_;refine AZ.seq ?_;refine AZ.ic (fun B1 F1 w1=>?_);refine qU 2 rfl ?_;refine ab.nil ⟨rfl,?_⟩;refine AZ.seq ?_;refine AZ.any aM (ZH.any (β:=[(8,[.v Vr,.v Vc,dI sg,af bP])]) ?_);refine ZH.mv 2 rfl rfl (by kernel_rfl) (by kernel_rfl) (by kernel_rfl) rfl (fun _ _ _ h=>h) (fun _=>rfl) ⟨rfl,trivial⟩ (fun B1 F1 w1=>?_);refine qU 1 rfl ?_;refine ab.nil ⟨rfl,?_⟩;refine ZH.mv 5 rfl rfl (by kernel_rfl) (by kernel_rfl) (by kernel_rfl) rfl (fun _ _ _ h=>h) (fun _=>rfl) ⟨rfl,trivial⟩ (fun B1 F1 w1=>?_);refine qU 1 rfl ?_;refine ab.nil ⟨rfl,?_⟩;refine ZH.mv 9 rfl rfl (by kernel_rfl) (by kernel_rfl) (by kernel_rfl) rfl (fun _ _ _ h=>h) (fun _=>rfl) ⟨rfl,trivial⟩ (fun B1 F1 w1=>?_);refine qU 1 rfl ?_;refine ab.nil ⟨rfl,?_⟩;refine ZH.mv 12 rfl rfl (by kernel_rfl) (by kernel_rfl) (by kernel_rfl) rfl (fun _ _ _ h=>h) (fun _=>rfl) ⟨rfl,trivial⟩ (fun B1 F1 w1=>?_);refine qU 1 rfl ?_;refine ab.nil ⟨rfl,?_⟩;refine ZH.mv 15 rfl rfl (by kernel_rfl) (by kernel_rfl) (by kernel_rfl) rfl (fun _ _ _ h=>h) (fun _=>rfl) ⟨rfl,trivial⟩ (fun B1 F1 w1=>?_);refine qU 1 rfl ?_;refine ab.nil ⟨rfl,?_⟩;refine ZH.fd tok 0 rfl rfl (by kernel_rfl) (by kernel_rfl) (by kernel_rfl) rfl (fun _ _ _ h=>h) (fun _=>rfl) ⟨rfl,trivial⟩ (fun B1 F1 w1=>?_);refine qU 1 rfl ?_;refine ab.nil ⟨rfl,?_⟩;refine ZH.fd tok 7 rfl rfl (by kernel_rfl) (by kernel_rfl) (by kernel_rfl) rfl (fun _ _ _ h=>h) (fun _=>rfl) ⟨rfl,trivial⟩ (fun B1 F1 w1=>?_);refine qU 1 rfl ?_;refine ab.nil ⟨rfl,?_⟩;refine ZH.ld tok 1 rfl rfl (by kernel_rfl) (by kernel_rfl) (by kernel_rfl) rfl rfl (fun _ _ _ h=>h) (fun _=>rfl) ⟨rfl,trivial⟩ (fun B1 F1 w1=>?_);refine qU 1 rfl ?_;refine ab.nil ⟨rfl,?_⟩;refine ZH.ld tok 8 rfl rfl (by kernel_rfl) (by kernel_rfl) (by kernel_rfl) rfl rfl (fun _ _ _ h=>h) (fun _=>rfl) ⟨rfl,trivial⟩ (fun B1 F1 w1=>?_);refine qU 1 rfl ?_;refine ab.nil ⟨rfl,?_⟩;refine ZH.meet 0 (qB 23 8388607) (fun V=>((Vr,OA Ws)::(Vc,CA s.cols)::bL Ws (b.set r (ga (yt v row p) row (k+1))))) (fun V=>[(3,.bx [.sl 1 (v.map af)]),(6,.bx [.sl 1 [],.sl 1 [],dI 0,.sl 3 []]),(7,.d aj),(8,.bx [.v Vr,.v Vc,dI sg,af bP]),(11,.d (dI c)),(12,.d (dI r)),(14,.d (af p)),(36,.d (dI most)),(37,.d (dI c)),(16,.d (dI k)),(126,.d (.v Vr)),(127,.d (dI r)),(130,.d (dI k)),(133,.d (.v Vr)),(134,.d (dI r)),(137,.d (dI k)),(140,.d (af p)),(120,.d (dI N)),(121,.d (dI k)),(129,.d (.v (Ws.getD r undef))),(131,.d (bO v)),(139,.d (af X)),(124,.d (.tu [af Y,aj])),(142,.d (af Y)),(143,.d aj),(15,.d aj)]) (fun V=>?_) (fun N2_1_4_5_1_1=>?_)
   · refine ZH.done (by kernel_rfl) ⟨rfl,trivial⟩ ?_;refine AZ.to [3,6,7,8,11,12,14,36,37,15,120,121] [(3,.bx [.sl 1 (v.map af)]),(6,.bx [.sl 1 [],.sl 1 [],dI 0,.sl 3 []]),(7,.d aj),(8,.bx [.v Vr,.v Vc,dI sg,af bP]),(11,.d (dI c)),(12,.d (dI r)),(14,.d (af p)),(36,.d (dI most)),(37,.d (dI c)),(15,.d aj),(120,.d (dI N)),(121,.d (dI k))] rfl ?_;refine AZ.seq ?_;refine AZ.ic (fun B1 F1 w1=>?_);refine qU 1 rfl ?_;refine ab.err tok rfl rfl rfl rfl rfl ?_;refine ab.nil ⟨rfl,?_⟩;refine AZ.aB rfl ?_;refine AZ.skip ?_;refine AZ.ic (fun B1 F1 w1=>?_);refine qU 1 rfl ?_;rw[aD (x:=(k:Int)+1) (by omega) (by omega)];refine qU 1 rfl ?_;refine ab.nil ⟨rfl,?_⟩;exact⟨k+1,rfl,hkN,by omega⟩
   refine ZH.meet 1 (qB 23 4194303) (fun V=>((Vr,OA Ws)::(Vc,CA s.cols)::bL Ws (b.set r (ga (yt v row p) row (k+1))))) (fun V=>[(3,.bx [.sl 1 (v.map af)]),(6,.bx [.sl 1 [],.sl 1 [],dI 0,.sl 3 []]),(7,.d aj),(8,.bx [.v Vr,.v Vc,dI sg,af bP]),(11,.d (dI c)),(12,.d (dI r)),(14,.d (af p)),(36,.d (dI most)),(37,.d (dI c)),(16,.d (dI k)),(126,.d (.v Vr)),(127,.d (dI r)),(130,.d (dI k)),(133,.d (.v Vr)),(134,.d (dI r)),(137,.d (dI k)),(140,.d (af p)),(120,.d (dI N)),(121,.d (dI k)),(129,.d (.v (Ws.getD r undef))),(131,.d (bO v)),(139,.d (af X)),(124,.d (.tu [af Y,aj])),(142,.d (af Y)),(143,.d aj)]) (fun V=>?_) (fun N2_1_4_5_1_0=>?_)
   · refine ZH.all 22 (by kernel_rfl) rfl rfl (fun _=>rfl) ⟨rfl,trivial⟩ ?_;refine ar (fun B1 F1 w1=>?_);refine qU 1 rfl ?_;refine ab.nil ⟨rfl,?_⟩;exact qL (N2_1_4_5_1_1 V) (by kernel_rfl) rfl ⟨rfl,trivial⟩
   refine ZH.meet 2 (qB 23 2097151) (fun V=>((Vr,OA Ws)::(Vc,CA s.cols)::bL Ws (b.set r q))) (fun V=>[(3,.bx [.sl 1 (v.map af)]),(6,.bx [.sl 1 [],.sl 1 [],dI 0,.sl 3 []]),(7,.d aj),(8,.bx [.v Vr,.v Vc,dI sg,af bP]),(11,.d (dI c)),(12,.d (dI r)),(14,.d (af p)),(36,.d (dI most)),(37,.d (dI c)),(16,.d (dI k)),(126,.d (.v Vr)),(127,.d (dI r)),(130,.d (dI k)),(133,.d (.v Vr)),(134,.d (dI r)),(137,.d (dI k)),(140,.d (af p)),(120,.d (dI N)),(121,.d (dI k)),(129,.d (.v (Ws.getD r undef))),(131,.d (bO v)),(139,.d (af X)),(124,.d (.tu [af Y,aj])),(142,.d (af Y)),(144,.d (.v (bh (Ws.getD r undef) (k*1)))),(143,.d aj)]) (fun V=>?_) (fun N2_1_4_4_1_0=>?_)
   · refine ZH.all 21 (by kernel_rfl) rfl rfl (fun _=>rfl) ⟨rfl,trivial⟩ ?_;refine ai.eV 129 (r+2) (hgr q) rfl rfl ?_;refine ai.el tok 129 144 rfl (List.Mem.head _) rfl rfl rfl (by rw[List.length_map];omega) rfl ?_;refine ai.cut 1 rfl (fun B1 F1 w1=>?_);refine ab.vq tok Y rfl rfl rfl (by omega) ?_;rw[hps];refine ab.nil ⟨rfl,?_⟩;refine ai.back 129 (r+2) rfl rfl rfl (List.Mem.head _) (List.getElem?_set_self (by have:=(List.getElem?_eq_some_iff.1 (hgr q)).1;simp only[List.length_cons];omega)) ?_
     refine ai.td (R':=((Vr,OA Ws)::(Vc,CA s.cols)::bL Ws (b.set r (ga (yt v row p) row (k+1))))) (by
      show (Vr,OA Ws)::(Vc,CA s.cols)::((bL Ws (b.set r q)).set r _).set r _=_
      rw[List.set_set,rG (by omega) (by simpa using hrb),List.set_set]) ?_
     refine ai.nil ?_;exact qL (N2_1_4_5_1_0 V) (by kernel_rfl) rfl ⟨rfl,trivial⟩
   refine ZH.meet 2 (qB 23 3670015) (fun V=>((Vr,OA Ws)::(Vc,CA s.cols)::bL Ws (b.set r (ga (yt v row p) row (k+1))))) (fun V=>[(3,.bx [.sl 1 (v.map af)]),(6,.bx [.sl 1 [],.sl 1 [],dI 0,.sl 3 []]),(7,.d aj),(8,.bx [.v Vr,.v Vc,dI sg,af bP]),(11,.d (dI c)),(12,.d (dI r)),(14,.d (af p)),(36,.d (dI most)),(37,.d (dI c)),(16,.d (dI k)),(126,.d (.v Vr)),(127,.d (dI r)),(130,.d (dI k)),(133,.d (.v Vr)),(134,.d (dI r)),(137,.d (dI k)),(140,.d (af p)),(120,.d (dI N)),(121,.d (dI k)),(129,.d (.v (Ws.getD r undef))),(131,.d (bO v)),(139,.d (af X)),(124,.d (.tu [af Y,aj])),(142,.d (af Y))]) (fun V=>?_) (fun N2_1_4_5_0_0=>?_)
   · refine ZH.all 19 (by kernel_rfl) rfl rfl (fun _=>rfl) ⟨rfl,trivial⟩ ?_;refine ar (fun B1 F1 w1=>?_);refine qU 1 rfl ?_;refine ab.nil ⟨rfl,?_⟩;exact qL (N2_1_4_5_1_0 V) (by kernel_rfl) rfl ⟨rfl,trivial⟩
   refine ZH.meet 3 (qB 23 1048575) (fun V=>((Vr,OA Ws)::(Vc,CA s.cols)::bL Ws (b.set r q))) (fun V=>[(3,.bx [.sl 1 (v.map af)]),(6,.bx [.sl 1 [],.sl 1 [],dI 0,.sl 3 []]),(7,.d aj),(8,.bx [.v Vr,.v Vc,dI sg,af bP]),(11,.d (dI c)),(12,.d (dI r)),(14,.d (af p)),(36,.d (dI most)),(37,.d (dI c)),(16,.d (dI k)),(126,.d (.v Vr)),(127,.d (dI r)),(130,.d (dI k)),(133,.d (.v Vr)),(134,.d (dI r)),(137,.d (dI k)),(140,.d (af p)),(120,.d (dI N)),(121,.d (dI k)),(129,.d (.v (Ws.getD r undef))),(131,.d (bO v)),(139,.d (af X)),(124,.d (.tu [af Y,aj])),(142,.d (af Y)),(143,.d aj)]) (fun V=>?_) (fun N2_1_4_3_1_0=>?_)
   · refine ZH.all 20 (by kernel_rfl) rfl rfl (fun _=>rfl) ⟨rfl,trivial⟩ ?_;refine ah (fun B1 F1 w1 hS=>?_);refine ab.idxs tok (hS.at (i:=r+2) (hgr q) (by rw[List.length_map];omega)) rfl rfl rfl rfl (Int.natCast_nonneg k) (by rw[List.length_map];omega) ?_;refine ab.nil ⟨rfl,?_⟩;exact qL (N2_1_4_4_1_0 V) (by kernel_rfl) rfl ⟨rfl,trivial⟩
   refine ZH.meet 3 (qB 23 1572863) (fun V=>((Vr,OA Ws)::(Vc,CA s.cols)::bL Ws (b.set r q))) (fun V=>[(3,.bx [.sl 1 (v.map af)]),(6,.bx [.sl 1 [],.sl 1 [],dI 0,.sl 3 []]),(7,.d aj),(8,.bx [.v Vr,.v Vc,dI sg,af bP]),(11,.d (dI c)),(12,.d (dI r)),(14,.d (af p)),(36,.d (dI most)),(37,.d (dI c)),(16,.d (dI k)),(126,.d (.v Vr)),(127,.d (dI r)),(130,.d (dI k)),(133,.d (.v Vr)),(134,.d (dI r)),(137,.d (dI k)),(140,.d (af p)),(120,.d (dI N)),(121,.d (dI k)),(129,.d (.v (Ws.getD r undef))),(131,.d (bO v)),(139,.d (af X)),(124,.d (.tu [af Y,aj])),(142,.d (af Y)),(144,.d (.v (bh (Ws.getD r undef) (k*1))))]) (fun V=>?_) (fun N2_1_4_4_0_0=>?_)
   · refine ZH.two 19 21 (by kernel_rfl) rfl rfl rfl rfl (fun _=>rfl) (fun _=>rfl) ⟨rfl,trivial⟩ ?_ ?_
     · refine ar (fun B1 F1 w1=>?_);refine qU 1 rfl ?_;refine ab.nil ⟨rfl,?_⟩;exact qL (N2_1_4_4_1_0 V) (by kernel_rfl) rfl ⟨rfl,trivial⟩
     · refine ai.eV 129 (r+2) (hgr q) rfl rfl ?_;refine ai.el tok 129 144 rfl (List.Mem.head _) rfl rfl rfl (by rw[List.length_map];omega) rfl ?_;refine ai.cut 1 rfl (fun B1 F1 w1=>?_);refine ab.vq tok Y rfl rfl rfl (by omega) ?_;rw[hps];refine ab.nil ⟨rfl,?_⟩;refine ai.back 129 (r+2) rfl rfl rfl (List.Mem.head _) (List.getElem?_set_self (by have:=(List.getElem?_eq_some_iff.1 (hgr q)).1;simp only[List.length_cons];omega)) ?_
       refine ai.td (R':=((Vr,OA Ws)::(Vc,CA s.cols)::bL Ws (b.set r (ga (yt v row p) row (k+1))))) (by
        show (Vr,OA Ws)::(Vc,CA s.cols)::((bL Ws (b.set r q)).set r _).set r _=_
        rw[List.set_set,rG (by omega) (by simpa using hrb),List.set_set]) ?_
       refine ai.nil ?_;exact qL (N2_1_4_5_0_0 V) (by kernel_rfl) rfl ⟨rfl,trivial⟩
   refine ZH.meet 4 (qB 23 1048559) (fun V=>((Vr,OA Ws)::(Vc,CA s.cols)::bL Ws (b.set r q))) (fun V=>[(3,.bx [.sl 1 (v.map af)]),(6,.bx [.sl 1 [],.sl 1 [],dI 0,.sl 3 []]),(7,.d aj),(8,.bx [.v Vr,.v Vc,dI sg,af bP]),(11,.d (dI c)),(12,.d (dI r)),(14,.d (af p)),(36,.d (dI most)),(37,.d (dI c)),(16,.d (dI k)),(126,.d (.v Vr)),(127,.d (dI r)),(130,.d (dI k)),(133,.d (.v Vr)),(134,.d (dI r)),(137,.d (dI k)),(140,.d (af p)),(120,.d (dI N)),(121,.d (dI k)),(128,.d (.v (bh Vr (r*1)))),(131,.d (bO v)),(139,.d (af X)),(124,.d (.tu [af Y,aj])),(142,.d (af Y)),(143,.d aj)]) (fun V=>?_) (fun N1_1_4_3_1_0=>?_)
   · refine ZH.all 4 (by kernel_rfl) rfl rfl (fun _=>rfl) ⟨rfl,trivial⟩ ?_;refine ah (fun B1 F1 w1 hS=>?_);refine ab.a5 tok (.v (Ws.getD r undef)) (hS.at (i:=0) rfl (by rw[List.length_map];omega)) rfl rfl rfl rfl rfl rfl (bK (by omega)) rfl ?_;refine ab.nil ⟨rfl,?_⟩;exact qL (N2_1_4_3_1_0 V) (by kernel_rfl) rfl ⟨rfl,trivial⟩
   refine ZH.meet 4 (qB 23 786431) (fun V=>((Vr,OA Ws)::(Vc,CA s.cols)::bL Ws (b.set r q))) (fun V=>[(3,.bx [.sl 1 (v.map af)]),(6,.bx [.sl 1 [],.sl 1 [],dI 0,.sl 3 []]),(7,.d aj),(8,.bx [.v Vr,.v Vc,dI sg,af bP]),(11,.d (dI c)),(12,.d (dI r)),(14,.d (af p)),(36,.d (dI most)),(37,.d (dI c)),(16,.d (dI k)),(126,.d (.v Vr)),(127,.d (dI r)),(130,.d (dI k)),(133,.d (.v Vr)),(134,.d (dI r)),(137,.d (dI k)),(140,.d (af p)),(120,.d (dI N)),(121,.d (dI k)),(129,.d (.v (Ws.getD r undef))),(131,.d (bO v)),(139,.d (af X)),(124,.d (.tu [af Y,aj])),(143,.d aj)]) (fun V=>?_) (fun N2_1_4_2_1_0=>?_)
   · refine ZH.all 18 (by kernel_rfl) rfl rfl (fun _=>rfl) ⟨rfl,trivial⟩ ?_;refine ar (fun B1 F1 w1=>?_);refine qU 1 rfl ?_;refine ab.nil ⟨rfl,?_⟩;exact qL (N2_1_4_3_1_0 V) (by kernel_rfl) rfl ⟨rfl,trivial⟩
   refine ZH.meet 4 (qB 23 524287) (fun V=>((Vr,OA Ws)::(Vc,CA s.cols)::bL Ws (b.set r q))) (fun V=>[(3,.bx [.sl 1 (v.map af)]),(6,.bx [.sl 1 [],.sl 1 [],dI 0,.sl 3 []]),(7,.d aj),(8,.bx [.v Vr,.v Vc,dI sg,af bP]),(11,.d (dI c)),(12,.d (dI r)),(14,.d (af p)),(36,.d (dI most)),(37,.d (dI c)),(16,.d (dI k)),(126,.d (.v Vr)),(127,.d (dI r)),(130,.d (dI k)),(133,.d (.v Vr)),(134,.d (dI r)),(137,.d (dI k)),(140,.d (af p)),(120,.d (dI N)),(121,.d (dI k)),(129,.d (.v (Ws.getD r undef))),(131,.d (bO v)),(139,.d (af X)),(124,.d (.tu [af Y,aj])),(142,.d (af Y))]) (fun V=>?_) (fun N2_1_4_3_0_0=>?_)
   · refine ZH.two 19 20 (by kernel_rfl) rfl rfl rfl rfl (fun _=>rfl) (fun _=>rfl) ⟨rfl,trivial⟩ ?_ ?_
     · refine ar (fun B1 F1 w1=>?_);refine qU 1 rfl ?_;refine ab.nil ⟨rfl,?_⟩;exact qL (N2_1_4_3_1_0 V) (by kernel_rfl) rfl ⟨rfl,trivial⟩
     · refine ah (fun B1 F1 w1 hS=>?_);refine ab.idxs tok (hS.at (i:=r+2) (hgr q) (by rw[List.length_map];omega)) rfl rfl rfl rfl (Int.natCast_nonneg k) (by rw[List.length_map];omega) ?_;refine ab.nil ⟨rfl,?_⟩;exact qL (N2_1_4_4_0_0 V) (by kernel_rfl) rfl ⟨rfl,trivial⟩
   refine ZH.meet 5 (qB 23 1048551) (fun V=>((Vr,OA Ws)::(Vc,CA s.cols)::bL Ws (b.set r q))) (fun V=>[(3,.bx [.sl 1 (v.map af)]),(6,.bx [.sl 1 [],.sl 1 [],dI 0,.sl 3 []]),(7,.d aj),(8,.bx [.v Vr,.v Vc,dI sg,af bP]),(11,.d (dI c)),(12,.d (dI r)),(14,.d (af p)),(36,.d (dI most)),(37,.d (dI c)),(16,.d (dI k)),(126,.d (.v Vr)),(127,.d (dI r)),(130,.d (dI k)),(133,.d (.v Vr)),(134,.d (dI r)),(137,.d (dI k)),(140,.d (af p)),(120,.d (dI N)),(121,.d (dI k)),(131,.d (bO v)),(139,.d (af X)),(124,.d (.tu [af Y,aj])),(142,.d (af Y)),(143,.d aj)]) (fun V=>?_) (fun N0_1_4_3_1_0=>?_)
   · refine ZH.all 3 (by kernel_rfl) rfl rfl (fun _=>rfl) ⟨rfl,trivial⟩ ?_;refine ah (fun B1 F1 w1 hS=>?_);refine ab.idxs tok (hS.at (i:=0) rfl (by rw[List.length_map];omega)) rfl rfl rfl rfl (Int.natCast_nonneg _) (by show r<_;rw[List.length_map];omega) ?_;refine ab.nil ⟨rfl,?_⟩;exact qL (N1_1_4_3_1_0 V) (by kernel_rfl) rfl ⟨rfl,trivial⟩
   refine ZH.meet 5 (qB 23 786415) (fun V=>((Vr,OA Ws)::(Vc,CA s.cols)::bL Ws (b.set r q))) (fun V=>[(3,.bx [.sl 1 (v.map af)]),(6,.bx [.sl 1 [],.sl 1 [],dI 0,.sl 3 []]),(7,.d aj),(8,.bx [.v Vr,.v Vc,dI sg,af bP]),(11,.d (dI c)),(12,.d (dI r)),(14,.d (af p)),(36,.d (dI most)),(37,.d (dI c)),(16,.d (dI k)),(126,.d (.v Vr)),(127,.d (dI r)),(130,.d (dI k)),(133,.d (.v Vr)),(134,.d (dI r)),(137,.d (dI k)),(140,.d (af p)),(120,.d (dI N)),(121,.d (dI k)),(128,.d (.v (bh Vr (r*1)))),(131,.d (bO v)),(139,.d (af X)),(124,.d (.tu [af Y,aj])),(143,.d aj)]) (fun V=>?_) (fun N1_1_4_2_1_0=>?_)
   · refine ZH.two 4 18 (by kernel_rfl) rfl rfl rfl rfl (fun _=>rfl) (fun _=>rfl) ⟨rfl,trivial⟩ ?_ ?_
     · refine ah (fun B1 F1 w1 hS=>?_);refine ab.a5 tok (.v (Ws.getD r undef)) (hS.at (i:=0) rfl (by rw[List.length_map];omega)) rfl rfl rfl rfl rfl rfl (bK (by omega)) rfl ?_;refine ab.nil ⟨rfl,?_⟩;exact qL (N2_1_4_2_1_0 V) (by kernel_rfl) rfl ⟨rfl,trivial⟩
     · refine ar (fun B1 F1 w1=>?_);refine qU 1 rfl ?_;refine ab.nil ⟨rfl,?_⟩;exact qL (N1_1_4_3_1_0 V) (by kernel_rfl) rfl ⟨rfl,trivial⟩
   refine ZH.meet 5 (qB 23 524271) (fun V=>((Vr,OA Ws)::(Vc,CA s.cols)::bL Ws (b.set r q))) (fun V=>[(3,.bx [.sl 1 (v.map af)]),(6,.bx [.sl 1 [],.sl 1 [],dI 0,.sl 3 []]),(7,.d aj),(8,.bx [.v Vr,.v Vc,dI sg,af bP]),(11,.d (dI c)),(12,.d (dI r)),(14,.d (af p)),(36,.d (dI most)),(37,.d (dI c)),(16,.d (dI k)),(126,.d (.v Vr)),(127,.d (dI r)),(130,.d (dI k)),(133,.d (.v Vr)),(134,.d (dI r)),(137,.d (dI k)),(140,.d (af p)),(120,.d (dI N)),(121,.d (dI k)),(128,.d (.v (bh Vr (r*1)))),(131,.d (bO v)),(139,.d (af X)),(124,.d (.tu [af Y,aj])),(142,.d (af Y))]) (fun V=>?_) (fun N1_1_4_3_0_0=>?_)
   · refine ZH.two 4 19 (by kernel_rfl) rfl rfl rfl rfl (fun _=>rfl) (fun _=>rfl) ⟨rfl,trivial⟩ ?_ ?_
     · refine ah (fun B1 F1 w1 hS=>?_);refine ab.a5 tok (.v (Ws.getD r undef)) (hS.at (i:=0) rfl (by rw[List.length_map];omega)) rfl rfl rfl rfl rfl rfl (bK (by omega)) rfl ?_;refine ab.nil ⟨rfl,?_⟩;exact qL (N2_1_4_3_0_0 V) (by kernel_rfl) rfl ⟨rfl,trivial⟩
     · refine ar (fun B1 F1 w1=>?_);refine qU 1 rfl ?_;refine ab.nil ⟨rfl,?_⟩;exact qL (N1_1_4_3_1_0 V) (by kernel_rfl) rfl ⟨rfl,trivial⟩
   refine ZH.meet 5 (qB 23 262143) (fun V=>((Vr,OA Ws)::(Vc,CA s.cols)::bL Ws (b.set r q))) (fun V=>[(3,.bx [.sl 1 (v.map af)]),(6,.bx [.sl 1 [],.sl 1 [],dI 0,.sl 3 []]),(7,.d aj),(8,.bx [.v Vr,.v Vc,dI sg,af bP]),(11,.d (dI c)),(12,.d (dI r)),(14,.d (af p)),(36,.d (dI most)),(37,.d (dI c)),(16,.d (dI k)),(126,.d (.v Vr)),(127,.d (dI r)),(130,.d (dI k)),(133,.d (.v Vr)),(134,.d (dI r)),(137,.d (dI k)),(140,.d (af p)),(120,.d (dI N)),(121,.d (dI k)),(129,.d (.v (Ws.getD r undef))),(131,.d (bO v)),(139,.d (af X)),(124,.d (.tu [af Y,aj]))]) (fun V=>?_) (fun N2_1_4_2_0_0=>?_)
   · refine ZH.two 18 19 (by kernel_rfl) rfl rfl rfl rfl (fun _=>rfl) (fun _=>rfl) ⟨rfl,trivial⟩ ?_ ?_
     · refine ar (fun B1 F1 w1=>?_);refine qU 1 rfl ?_;refine ab.nil ⟨rfl,?_⟩;exact qL (N2_1_4_3_0_0 V) (by kernel_rfl) rfl ⟨rfl,trivial⟩
     · refine ar (fun B1 F1 w1=>?_);refine qU 1 rfl ?_;refine ab.nil ⟨rfl,?_⟩;exact qL (N2_1_4_2_1_0 V) (by kernel_rfl) rfl ⟨rfl,trivial⟩
   refine ZH.meet 6 (qB 23 786407) (fun V=>((Vr,OA Ws)::(Vc,CA s.cols)::bL Ws (b.set r q))) (fun V=>[(3,.bx [.sl 1 (v.map af)]),(6,.bx [.sl 1 [],.sl 1 [],dI 0,.sl 3 []]),(7,.d aj),(8,.bx [.v Vr,.v Vc,dI sg,af bP]),(11,.d (dI c)),(12,.d (dI r)),(14,.d (af p)),(36,.d (dI most)),(37,.d (dI c)),(16,.d (dI k)),(126,.d (.v Vr)),(127,.d (dI r)),(130,.d (dI k)),(133,.d (.v Vr)),(134,.d (dI r)),(137,.d (dI k)),(140,.d (af p)),(120,.d (dI N)),(121,.d (dI k)),(131,.d (bO v)),(139,.d (af X)),(124,.d (.tu [af Y,aj])),(143,.d aj)]) (fun V=>?_) (fun N0_1_4_2_1_0=>?_)
   · refine ZH.two 3 18 (by kernel_rfl) rfl rfl rfl rfl (fun _=>rfl) (fun _=>rfl) ⟨rfl,trivial⟩ ?_ ?_
     · refine ah (fun B1 F1 w1 hS=>?_);refine ab.idxs tok (hS.at (i:=0) rfl (by rw[List.length_map];omega)) rfl rfl rfl rfl (Int.natCast_nonneg _) (by show r<_;rw[List.length_map];omega) ?_;refine ab.nil ⟨rfl,?_⟩;exact qL (N1_1_4_2_1_0 V) (by kernel_rfl) rfl ⟨rfl,trivial⟩
     · refine ar (fun B1 F1 w1=>?_);refine qU 1 rfl ?_;refine ab.nil ⟨rfl,?_⟩;exact qL (N0_1_4_3_1_0 V) (by kernel_rfl) rfl ⟨rfl,trivial⟩
   refine ZH.meet 6 (qB 23 524263) (fun V=>((Vr,OA Ws)::(Vc,CA s.cols)::bL Ws (b.set r q))) (fun V=>[(3,.bx [.sl 1 (v.map af)]),(6,.bx [.sl 1 [],.sl 1 [],dI 0,.sl 3 []]),(7,.d aj),(8,.bx [.v Vr,.v Vc,dI sg,af bP]),(11,.d (dI c)),(12,.d (dI r)),(14,.d (af p)),(36,.d (dI most)),(37,.d (dI c)),(16,.d (dI k)),(126,.d (.v Vr)),(127,.d (dI r)),(130,.d (dI k)),(133,.d (.v Vr)),(134,.d (dI r)),(137,.d (dI k)),(140,.d (af p)),(120,.d (dI N)),(121,.d (dI k)),(131,.d (bO v)),(139,.d (af X)),(124,.d (.tu [af Y,aj])),(142,.d (af Y))]) (fun V=>?_) (fun N0_1_4_3_0_0=>?_)
   · refine ZH.two 3 19 (by kernel_rfl) rfl rfl rfl rfl (fun _=>rfl) (fun _=>rfl) ⟨rfl,trivial⟩ ?_ ?_
     · refine ah (fun B1 F1 w1 hS=>?_);refine ab.idxs tok (hS.at (i:=0) rfl (by rw[List.length_map];omega)) rfl rfl rfl rfl (Int.natCast_nonneg _) (by show r<_;rw[List.length_map];omega) ?_;refine ab.nil ⟨rfl,?_⟩;exact qL (N1_1_4_3_0_0 V) (by kernel_rfl) rfl ⟨rfl,trivial⟩
     · refine ar (fun B1 F1 w1=>?_);refine qU 1 rfl ?_;refine ab.nil ⟨rfl,?_⟩;exact qL (N0_1_4_3_1_0 V) (by kernel_rfl) rfl ⟨rfl,trivial⟩
   refine ZH.meet 6 (qB 23 262127) (fun V=>((Vr,OA Ws)::(Vc,CA s.cols)::bL Ws (b.set r q))) (fun V=>[(3,.bx [.sl 1 (v.map af)]),(6,.bx [.sl 1 [],.sl 1 [],dI 0,.sl 3 []]),(7,.d aj),(8,.bx [.v Vr,.v Vc,dI sg,af bP]),(11,.d (dI c)),(12,.d (dI r)),(14,.d (af p)),(36,.d (dI most)),(37,.d (dI c)),(16,.d (dI k)),(126,.d (.v Vr)),(127,.d (dI r)),(130,.d (dI k)),(133,.d (.v Vr)),(134,.d (dI r)),(137,.d (dI k)),(140,.d (af p)),(120,.d (dI N)),(121,.d (dI k)),(128,.d (.v (bh Vr (r*1)))),(131,.d (bO v)),(139,.d (af X)),(124,.d (.tu [af Y,aj]))]) (fun V=>?_) (fun N1_1_4_2_0_0=>?_)
   · refine ZH.three 4 18 19 (by kernel_rfl) rfl rfl rfl rfl rfl rfl (fun _=>rfl) (fun _=>rfl) (fun _=>rfl) ⟨rfl,trivial⟩ ?_ ?_ ?_
     · refine ah (fun B1 F1 w1 hS=>?_);refine ab.a5 tok (.v (Ws.getD r undef)) (hS.at (i:=0) rfl (by rw[List.length_map];omega)) rfl rfl rfl rfl rfl rfl (bK (by omega)) rfl ?_;refine ab.nil ⟨rfl,?_⟩;exact qL (N2_1_4_2_0_0 V) (by kernel_rfl) rfl ⟨rfl,trivial⟩
     · refine ar (fun B1 F1 w1=>?_);refine qU 1 rfl ?_;refine ab.nil ⟨rfl,?_⟩;exact qL (N1_1_4_3_0_0 V) (by kernel_rfl) rfl ⟨rfl,trivial⟩
     · refine ar (fun B1 F1 w1=>?_);refine qU 1 rfl ?_;refine ab.nil ⟨rfl,?_⟩;exact qL (N1_1_4_2_1_0 V) (by kernel_rfl) rfl ⟨rfl,trivial⟩
   refine ZH.meet 6 (qB 23 131071) (fun V=>((Vr,OA Ws)::(Vc,CA s.cols)::bL Ws (b.set r q))) (fun V=>[(3,.bx [.sl 1 (v.map af)]),(6,.bx [.sl 1 [],.sl 1 [],dI 0,.sl 3 []]),(7,.d aj),(8,.bx [.v Vr,.v Vc,dI sg,af bP]),(11,.d (dI c)),(12,.d (dI r)),(14,.d (af p)),(36,.d (dI most)),(37,.d (dI c)),(16,.d (dI k)),(126,.d (.v Vr)),(127,.d (dI r)),(130,.d (dI k)),(133,.d (.v Vr)),(134,.d (dI r)),(137,.d (dI k)),(140,.d (af p)),(120,.d (dI N)),(121,.d (dI k)),(129,.d (.v (Ws.getD r undef))),(131,.d (bO v)),(139,.d (af X)),(141,.d (.tu [af Y,aj]))]) (fun V=>?_) (fun N2_1_4_1_0_0=>?_)
   · refine ZH.all 17 (by kernel_rfl) rfl rfl (fun _=>rfl) ⟨rfl,trivial⟩ ?_;refine ar (fun B1 F1 w1=>?_);refine qU 1 rfl ?_;refine ab.nil ⟨rfl,?_⟩;exact qL (N2_1_4_2_0_0 V) (by kernel_rfl) rfl ⟨rfl,trivial⟩
   refine ZH.meet 7 (qB 23 262119) (fun V=>((Vr,OA Ws)::(Vc,CA s.cols)::bL Ws (b.set r q))) (fun V=>[(3,.bx [.sl 1 (v.map af)]),(6,.bx [.sl 1 [],.sl 1 [],dI 0,.sl 3 []]),(7,.d aj),(8,.bx [.v Vr,.v Vc,dI sg,af bP]),(11,.d (dI c)),(12,.d (dI r)),(14,.d (af p)),(36,.d (dI most)),(37,.d (dI c)),(16,.d (dI k)),(126,.d (.v Vr)),(127,.d (dI r)),(130,.d (dI k)),(133,.d (.v Vr)),(134,.d (dI r)),(137,.d (dI k)),(140,.d (af p)),(120,.d (dI N)),(121,.d (dI k)),(131,.d (bO v)),(139,.d (af X)),(124,.d (.tu [af Y,aj]))]) (fun V=>?_) (fun N0_1_4_2_0_0=>?_)
   · refine ZH.three 3 18 19 (by kernel_rfl) rfl rfl rfl rfl rfl rfl (fun _=>rfl) (fun _=>rfl) (fun _=>rfl) ⟨rfl,trivial⟩ ?_ ?_ ?_
     · refine ah (fun B1 F1 w1 hS=>?_);refine ab.idxs tok (hS.at (i:=0) rfl (by rw[List.length_map];omega)) rfl rfl rfl rfl (Int.natCast_nonneg _) (by show r<_;rw[List.length_map];omega) ?_;refine ab.nil ⟨rfl,?_⟩;exact qL (N1_1_4_2_0_0 V) (by kernel_rfl) rfl ⟨rfl,trivial⟩
     · refine ar (fun B1 F1 w1=>?_);refine qU 1 rfl ?_;refine ab.nil ⟨rfl,?_⟩;exact qL (N0_1_4_3_0_0 V) (by kernel_rfl) rfl ⟨rfl,trivial⟩
     · refine ar (fun B1 F1 w1=>?_);refine qU 1 rfl ?_;refine ab.nil ⟨rfl,?_⟩;exact qL (N0_1_4_2_1_0 V) (by kernel_rfl) rfl ⟨rfl,trivial⟩
   refine ZH.meet 7 (qB 23 131055) (fun V=>((Vr,OA Ws)::(Vc,CA s.cols)::bL Ws (b.set r q))) (fun V=>[(3,.bx [.sl 1 (v.map af)]),(6,.bx [.sl 1 [],.sl 1 [],dI 0,.sl 3 []]),(7,.d aj),(8,.bx [.v Vr,.v Vc,dI sg,af bP]),(11,.d (dI c)),(12,.d (dI r)),(14,.d (af p)),(36,.d (dI most)),(37,.d (dI c)),(16,.d (dI k)),(126,.d (.v Vr)),(127,.d (dI r)),(130,.d (dI k)),(133,.d (.v Vr)),(134,.d (dI r)),(137,.d (dI k)),(140,.d (af p)),(120,.d (dI N)),(121,.d (dI k)),(128,.d (.v (bh Vr (r*1)))),(131,.d (bO v)),(139,.d (af X)),(141,.d (.tu [af Y,aj]))]) (fun V=>?_) (fun N1_1_4_1_0_0=>?_)
   · refine ZH.two 4 17 (by kernel_rfl) rfl rfl rfl rfl (fun _=>rfl) (fun _=>rfl) ⟨rfl,trivial⟩ ?_ ?_
     · refine ah (fun B1 F1 w1 hS=>?_);refine ab.a5 tok (.v (Ws.getD r undef)) (hS.at (i:=0) rfl (by rw[List.length_map];omega)) rfl rfl rfl rfl rfl rfl (bK (by omega)) rfl ?_;refine ab.nil ⟨rfl,?_⟩;exact qL (N2_1_4_1_0_0 V) (by kernel_rfl) rfl ⟨rfl,trivial⟩
     · refine ar (fun B1 F1 w1=>?_);refine qU 1 rfl ?_;refine ab.nil ⟨rfl,?_⟩;exact qL (N1_1_4_2_0_0 V) (by kernel_rfl) rfl ⟨rfl,trivial⟩
   refine ZH.meet 7 (qB 23 65535) (fun V=>((Vr,OA Ws)::(Vc,CA s.cols)::bL Ws (b.set r q))) (fun V=>[(3,.bx [.sl 1 (v.map af)]),(6,.bx [.sl 1 [],.sl 1 [],dI 0,.sl 3 []]),(7,.d aj),(8,.bx [.v Vr,.v Vc,dI sg,af bP]),(11,.d (dI c)),(12,.d (dI r)),(14,.d (af p)),(36,.d (dI most)),(37,.d (dI c)),(16,.d (dI k)),(126,.d (.v Vr)),(127,.d (dI r)),(130,.d (dI k)),(133,.d (.v Vr)),(134,.d (dI r)),(137,.d (dI k)),(140,.d (af p)),(120,.d (dI N)),(121,.d (dI k)),(129,.d (.v (Ws.getD r undef))),(131,.d (bO v)),(139,.d (af X))]) (fun V=>?_) (fun N2_1_4_0_0_0=>?_)
   · refine ZH.all 16 (by kernel_rfl) rfl rfl (fun _=>rfl) ⟨rfl,trivial⟩ ?_;refine ar (fun B1 F1 w1=>?_);refine ab.call tok rfl rfl rfl rfl cd ?_;refine ab.nil ⟨rfl,?_⟩;exact qL (N2_1_4_1_0_0 V) (by kernel_rfl) rfl ⟨rfl,trivial⟩
   refine ZH.meet 8 (qB 23 131047) (fun V=>((Vr,OA Ws)::(Vc,CA s.cols)::bL Ws (b.set r q))) (fun V=>[(3,.bx [.sl 1 (v.map af)]),(6,.bx [.sl 1 [],.sl 1 [],dI 0,.sl 3 []]),(7,.d aj),(8,.bx [.v Vr,.v Vc,dI sg,af bP]),(11,.d (dI c)),(12,.d (dI r)),(14,.d (af p)),(36,.d (dI most)),(37,.d (dI c)),(16,.d (dI k)),(126,.d (.v Vr)),(127,.d (dI r)),(130,.d (dI k)),(133,.d (.v Vr)),(134,.d (dI r)),(137,.d (dI k)),(140,.d (af p)),(120,.d (dI N)),(121,.d (dI k)),(131,.d (bO v)),(139,.d (af X)),(141,.d (.tu [af Y,aj]))]) (fun V=>?_) (fun N0_1_4_1_0_0=>?_)
   · refine ZH.two 3 17 (by kernel_rfl) rfl rfl rfl rfl (fun _=>rfl) (fun _=>rfl) ⟨rfl,trivial⟩ ?_ ?_
     · refine ah (fun B1 F1 w1 hS=>?_);refine ab.idxs tok (hS.at (i:=0) rfl (by rw[List.length_map];omega)) rfl rfl rfl rfl (Int.natCast_nonneg _) (by show r<_;rw[List.length_map];omega) ?_;refine ab.nil ⟨rfl,?_⟩;exact qL (N1_1_4_1_0_0 V) (by kernel_rfl) rfl ⟨rfl,trivial⟩
     · refine ar (fun B1 F1 w1=>?_);refine qU 1 rfl ?_;refine ab.nil ⟨rfl,?_⟩;exact qL (N0_1_4_2_0_0 V) (by kernel_rfl) rfl ⟨rfl,trivial⟩
   refine ZH.meet 8 (qB 23 65519) (fun V=>((Vr,OA Ws)::(Vc,CA s.cols)::bL Ws (b.set r q))) (fun V=>[(3,.bx [.sl 1 (v.map af)]),(6,.bx [.sl 1 [],.sl 1 [],dI 0,.sl 3 []]),(7,.d aj),(8,.bx [.v Vr,.v Vc,dI sg,af bP]),(11,.d (dI c)),(12,.d (dI r)),(14,.d (af p)),(36,.d (dI most)),(37,.d (dI c)),(16,.d (dI k)),(126,.d (.v Vr)),(127,.d (dI r)),(130,.d (dI k)),(133,.d (.v Vr)),(134,.d (dI r)),(137,.d (dI k)),(140,.d (af p)),(120,.d (dI N)),(121,.d (dI k)),(128,.d (.v (bh Vr (r*1)))),(131,.d (bO v)),(139,.d (af X))]) (fun V=>?_) (fun N1_1_4_0_0_0=>?_)
   · refine ZH.two 4 16 (by kernel_rfl) rfl rfl rfl rfl (fun _=>rfl) (fun _=>rfl) ⟨rfl,trivial⟩ ?_ ?_
     · refine ah (fun B1 F1 w1 hS=>?_);refine ab.a5 tok (.v (Ws.getD r undef)) (hS.at (i:=0) rfl (by rw[List.length_map];omega)) rfl rfl rfl rfl rfl rfl (bK (by omega)) rfl ?_;refine ab.nil ⟨rfl,?_⟩;exact qL (N2_1_4_0_0_0 V) (by kernel_rfl) rfl ⟨rfl,trivial⟩
     · refine ar (fun B1 F1 w1=>?_);refine ab.call tok rfl rfl rfl rfl cd ?_;refine ab.nil ⟨rfl,?_⟩;exact qL (N1_1_4_1_0_0 V) (by kernel_rfl) rfl ⟨rfl,trivial⟩
   refine ZH.meet 8 (qB 23 65471) (fun V=>((Vr,OA Ws)::(Vc,CA s.cols)::bL Ws (b.set r q))) (fun V=>[(3,.bx [.sl 1 (v.map af)]),(6,.bx [.sl 1 [],.sl 1 [],dI 0,.sl 3 []]),(7,.d aj),(8,.bx [.v Vr,.v Vc,dI sg,af bP]),(11,.d (dI c)),(12,.d (dI r)),(14,.d (af p)),(36,.d (dI most)),(37,.d (dI c)),(16,.d (dI k)),(126,.d (.v Vr)),(127,.d (dI r)),(130,.d (dI k)),(133,.d (.v Vr)),(134,.d (dI r)),(137,.d (dI k)),(140,.d (af p)),(120,.d (dI N)),(121,.d (dI k)),(129,.d (.v (Ws.getD r undef))),(139,.d (af X))]) (fun V=>?_) (fun N2_0_4_0_0_0=>?_)
   · refine ZH.all 6 (by kernel_rfl) rfl rfl (fun _=>rfl) ⟨rfl,trivial⟩ ?_;refine ar (fun B1 F1 w1=>?_);refine qU 1 rfl ?_;refine ab.nil ⟨rfl,?_⟩;exact qL (N2_1_4_0_0_0 V) (by kernel_rfl) rfl ⟨rfl,trivial⟩
   refine ZH.meet 8 (qB 23 49151) (fun V=>((Vr,OA Ws)::(Vc,CA s.cols)::bL Ws (b.set r q))) (fun V=>[(3,.bx [.sl 1 (v.map af)]),(6,.bx [.sl 1 [],.sl 1 [],dI 0,.sl 3 []]),(7,.d aj),(8,.bx [.v Vr,.v Vc,dI sg,af bP]),(11,.d (dI c)),(12,.d (dI r)),(14,.d (af p)),(36,.d (dI most)),(37,.d (dI c)),(16,.d (dI k)),(126,.d (.v Vr)),(127,.d (dI r)),(130,.d (dI k)),(133,.d (.v Vr)),(134,.d (dI r)),(137,.d (dI k)),(140,.d (af p)),(120,.d (dI N)),(121,.d (dI k)),(129,.d (.v (Ws.getD r undef))),(131,.d (bO v)),(136,.d (.v (Ws.getD r undef))),(138,.d (.v (bh (Ws.getD r undef) (k*1))))]) (fun V=>?_) (fun N2_1_3_0_0_0=>?_)
   · refine ZH.all 14 (by kernel_rfl) rfl rfl (fun _=>rfl) ⟨rfl,trivial⟩ ?_;refine ah (fun B1 F1 w1 hS=>?_);refine ab.a5 tok (af (q.getD k [])) (hS.at (i:=r+2) (hgr q) (by rw[List.length_map];omega)) rfl rfl rfl rfl rfl rfl (getM af (by omega)) rfl ?_;rw[hpg];refine ab.nil ⟨rfl,?_⟩;exact qL (N2_1_4_0_0_0 V) (by kernel_rfl) rfl ⟨rfl,trivial⟩
   refine ZH.meet 9 (qB 23 65511) (fun V=>((Vr,OA Ws)::(Vc,CA s.cols)::bL Ws (b.set r q))) (fun V=>[(3,.bx [.sl 1 (v.map af)]),(6,.bx [.sl 1 [],.sl 1 [],dI 0,.sl 3 []]),(7,.d aj),(8,.bx [.v Vr,.v Vc,dI sg,af bP]),(11,.d (dI c)),(12,.d (dI r)),(14,.d (af p)),(36,.d (dI most)),(37,.d (dI c)),(16,.d (dI k)),(126,.d (.v Vr)),(127,.d (dI r)),(130,.d (dI k)),(133,.d (.v Vr)),(134,.d (dI r)),(137,.d (dI k)),(140,.d (af p)),(120,.d (dI N)),(121,.d (dI k)),(131,.d (bO v)),(139,.d (af X))]) (fun V=>?_) (fun N0_1_4_0_0_0=>?_)
   · refine ZH.two 3 16 (by kernel_rfl) rfl rfl rfl rfl (fun _=>rfl) (fun _=>rfl) ⟨rfl,trivial⟩ ?_ ?_
     · refine ah (fun B1 F1 w1 hS=>?_);refine ab.idxs tok (hS.at (i:=0) rfl (by rw[List.length_map];omega)) rfl rfl rfl rfl (Int.natCast_nonneg _) (by show r<_;rw[List.length_map];omega) ?_;refine ab.nil ⟨rfl,?_⟩;exact qL (N1_1_4_0_0_0 V) (by kernel_rfl) rfl ⟨rfl,trivial⟩
     · refine ar (fun B1 F1 w1=>?_);refine ab.call tok rfl rfl rfl rfl cd ?_;refine ab.nil ⟨rfl,?_⟩;exact qL (N0_1_4_1_0_0 V) (by kernel_rfl) rfl ⟨rfl,trivial⟩
   refine ZH.meet 9 (qB 23 65455) (fun V=>((Vr,OA Ws)::(Vc,CA s.cols)::bL Ws (b.set r q))) (fun V=>[(3,.bx [.sl 1 (v.map af)]),(6,.bx [.sl 1 [],.sl 1 [],dI 0,.sl 3 []]),(7,.d aj),(8,.bx [.v Vr,.v Vc,dI sg,af bP]),(11,.d (dI c)),(12,.d (dI r)),(14,.d (af p)),(36,.d (dI most)),(37,.d (dI c)),(16,.d (dI k)),(126,.d (.v Vr)),(127,.d (dI r)),(130,.d (dI k)),(133,.d (.v Vr)),(134,.d (dI r)),(137,.d (dI k)),(140,.d (af p)),(120,.d (dI N)),(121,.d (dI k)),(128,.d (.v (bh Vr (r*1)))),(139,.d (af X))]) (fun V=>?_) (fun N1_0_4_0_0_0=>?_)
   · refine ZH.two 4 6 (by kernel_rfl) rfl rfl rfl rfl (fun _=>rfl) (fun _=>rfl) ⟨rfl,trivial⟩ ?_ ?_
     · refine ah (fun B1 F1 w1 hS=>?_);refine ab.a5 tok (.v (Ws.getD r undef)) (hS.at (i:=0) rfl (by rw[List.length_map];omega)) rfl rfl rfl rfl rfl rfl (bK (by omega)) rfl ?_;refine ab.nil ⟨rfl,?_⟩;exact qL (N2_0_4_0_0_0 V) (by kernel_rfl) rfl ⟨rfl,trivial⟩
     · refine ar (fun B1 F1 w1=>?_);refine qU 1 rfl ?_;refine ab.nil ⟨rfl,?_⟩;exact qL (N1_1_4_0_0_0 V) (by kernel_rfl) rfl ⟨rfl,trivial⟩
   refine ZH.meet 9 (qB 23 49135) (fun V=>((Vr,OA Ws)::(Vc,CA s.cols)::bL Ws (b.set r q))) (fun V=>[(3,.bx [.sl 1 (v.map af)]),(6,.bx [.sl 1 [],.sl 1 [],dI 0,.sl 3 []]),(7,.d aj),(8,.bx [.v Vr,.v Vc,dI sg,af bP]),(11,.d (dI c)),(12,.d (dI r)),(14,.d (af p)),(36,.d (dI most)),(37,.d (dI c)),(16,.d (dI k)),(126,.d (.v Vr)),(127,.d (dI r)),(130,.d (dI k)),(133,.d (.v Vr)),(134,.d (dI r)),(137,.d (dI k)),(140,.d (af p)),(120,.d (dI N)),(121,.d (dI k)),(128,.d (.v (bh Vr (r*1)))),(131,.d (bO v)),(136,.d (.v (Ws.getD r undef))),(138,.d (.v (bh (Ws.getD r undef) (k*1))))]) (fun V=>?_) (fun N1_1_3_0_0_0=>?_)
   · refine ZH.two 4 14 (by kernel_rfl) rfl rfl rfl rfl (fun _=>rfl) (fun _=>rfl) ⟨rfl,trivial⟩ ?_ ?_
     · refine ah (fun B1 F1 w1 hS=>?_);refine ab.a5 tok (.v (Ws.getD r undef)) (hS.at (i:=0) rfl (by rw[List.length_map];omega)) rfl rfl rfl rfl rfl rfl (bK (by omega)) rfl ?_;refine ab.nil ⟨rfl,?_⟩;exact qL (N2_1_3_0_0_0 V) (by kernel_rfl) rfl ⟨rfl,trivial⟩
     · refine ah (fun B1 F1 w1 hS=>?_);refine ab.a5 tok (af (q.getD k [])) (hS.at (i:=r+2) (hgr q) (by rw[List.length_map];omega)) rfl rfl rfl rfl rfl rfl (getM af (by omega)) rfl ?_;rw[hpg];refine ab.nil ⟨rfl,?_⟩;exact qL (N1_1_4_0_0_0 V) (by kernel_rfl) rfl ⟨rfl,trivial⟩
   refine ZH.meet 9 (qB 23 49087) (fun V=>((Vr,OA Ws)::(Vc,CA s.cols)::bL Ws (b.set r q))) (fun V=>[(3,.bx [.sl 1 (v.map af)]),(6,.bx [.sl 1 [],.sl 1 [],dI 0,.sl 3 []]),(7,.d aj),(8,.bx [.v Vr,.v Vc,dI sg,af bP]),(11,.d (dI c)),(12,.d (dI r)),(14,.d (af p)),(36,.d (dI most)),(37,.d (dI c)),(16,.d (dI k)),(126,.d (.v Vr)),(127,.d (dI r)),(130,.d (dI k)),(133,.d (.v Vr)),(134,.d (dI r)),(137,.d (dI k)),(140,.d (af p)),(120,.d (dI N)),(121,.d (dI k)),(129,.d (.v (Ws.getD r undef))),(136,.d (.v (Ws.getD r undef))),(138,.d (.v (bh (Ws.getD r undef) (k*1))))]) (fun V=>?_) (fun N2_0_3_0_0_0=>?_)
   · refine ZH.two 6 14 (by kernel_rfl) rfl rfl rfl rfl (fun _=>rfl) (fun _=>rfl) ⟨rfl,trivial⟩ ?_ ?_
     · refine ar (fun B1 F1 w1=>?_);refine qU 1 rfl ?_;refine ab.nil ⟨rfl,?_⟩;exact qL (N2_1_3_0_0_0 V) (by kernel_rfl) rfl ⟨rfl,trivial⟩
     · refine ah (fun B1 F1 w1 hS=>?_);refine ab.a5 tok (af (q.getD k [])) (hS.at (i:=r+2) (hgr q) (by rw[List.length_map];omega)) rfl rfl rfl rfl rfl rfl (getM af (by omega)) rfl ?_;rw[hpg];refine ab.nil ⟨rfl,?_⟩;exact qL (N2_0_4_0_0_0 V) (by kernel_rfl) rfl ⟨rfl,trivial⟩
   refine ZH.meet 9 (qB 23 40959) (fun V=>((Vr,OA Ws)::(Vc,CA s.cols)::bL Ws (b.set r q))) (fun V=>[(3,.bx [.sl 1 (v.map af)]),(6,.bx [.sl 1 [],.sl 1 [],dI 0,.sl 3 []]),(7,.d aj),(8,.bx [.v Vr,.v Vc,dI sg,af bP]),(11,.d (dI c)),(12,.d (dI r)),(14,.d (af p)),(36,.d (dI most)),(37,.d (dI c)),(16,.d (dI k)),(126,.d (.v Vr)),(127,.d (dI r)),(130,.d (dI k)),(133,.d (.v Vr)),(134,.d (dI r)),(137,.d (dI k)),(140,.d (af p)),(120,.d (dI N)),(121,.d (dI k)),(129,.d (.v (Ws.getD r undef))),(131,.d (bO v)),(136,.d (.v (Ws.getD r undef)))]) (fun V=>?_) (fun N2_1_2_0_0_0=>?_)
   · refine ZH.all 13 (by kernel_rfl) rfl rfl (fun _=>rfl) ⟨rfl,trivial⟩ ?_;refine ah (fun B1 F1 w1 hS=>?_);refine ab.idxs tok (hS.at (i:=r+2) (hgr q) (by rw[List.length_map];omega)) rfl rfl rfl rfl (Int.natCast_nonneg k) (by rw[List.length_map];omega) ?_;refine ab.nil ⟨rfl,?_⟩;exact qL (N2_1_3_0_0_0 V) (by kernel_rfl) rfl ⟨rfl,trivial⟩
   refine ZH.meet 10 (qB 23 65447) (fun V=>((Vr,OA Ws)::(Vc,CA s.cols)::bL Ws (b.set r q))) (fun V=>[(3,.bx [.sl 1 (v.map af)]),(6,.bx [.sl 1 [],.sl 1 [],dI 0,.sl 3 []]),(7,.d aj),(8,.bx [.v Vr,.v Vc,dI sg,af bP]),(11,.d (dI c)),(12,.d (dI r)),(14,.d (af p)),(36,.d (dI most)),(37,.d (dI c)),(16,.d (dI k)),(126,.d (.v Vr)),(127,.d (dI r)),(130,.d (dI k)),(133,.d (.v Vr)),(134,.d (dI r)),(137,.d (dI k)),(140,.d (af p)),(120,.d (dI N)),(121,.d (dI k)),(139,.d (af X))]) (fun V=>?_) (fun N0_0_4_0_0_0=>?_)
   · refine ZH.two 3 6 (by kernel_rfl) rfl rfl rfl rfl (fun _=>rfl) (fun _=>rfl) ⟨rfl,trivial⟩ ?_ ?_
     · refine ah (fun B1 F1 w1 hS=>?_);refine ab.idxs tok (hS.at (i:=0) rfl (by rw[List.length_map];omega)) rfl rfl rfl rfl (Int.natCast_nonneg _) (by show r<_;rw[List.length_map];omega) ?_;refine ab.nil ⟨rfl,?_⟩;exact qL (N1_0_4_0_0_0 V) (by kernel_rfl) rfl ⟨rfl,trivial⟩
     · refine ar (fun B1 F1 w1=>?_);refine qU 1 rfl ?_;refine ab.nil ⟨rfl,?_⟩;exact qL (N0_1_4_0_0_0 V) (by kernel_rfl) rfl ⟨rfl,trivial⟩
   refine ZH.meet 10 (qB 23 49127) (fun V=>((Vr,OA Ws)::(Vc,CA s.cols)::bL Ws (b.set r q))) (fun V=>[(3,.bx [.sl 1 (v.map af)]),(6,.bx [.sl 1 [],.sl 1 [],dI 0,.sl 3 []]),(7,.d aj),(8,.bx [.v Vr,.v Vc,dI sg,af bP]),(11,.d (dI c)),(12,.d (dI r)),(14,.d (af p)),(36,.d (dI most)),(37,.d (dI c)),(16,.d (dI k)),(126,.d (.v Vr)),(127,.d (dI r)),(130,.d (dI k)),(133,.d (.v Vr)),(134,.d (dI r)),(137,.d (dI k)),(140,.d (af p)),(120,.d (dI N)),(121,.d (dI k)),(131,.d (bO v)),(136,.d (.v (Ws.getD r undef))),(138,.d (.v (bh (Ws.getD r undef) (k*1))))]) (fun V=>?_) (fun N0_1_3_0_0_0=>?_)
   · refine ZH.two 3 14 (by kernel_rfl) rfl rfl rfl rfl (fun _=>rfl) (fun _=>rfl) ⟨rfl,trivial⟩ ?_ ?_
     · refine ah (fun B1 F1 w1 hS=>?_);refine ab.idxs tok (hS.at (i:=0) rfl (by rw[List.length_map];omega)) rfl rfl rfl rfl (Int.natCast_nonneg _) (by show r<_;rw[List.length_map];omega) ?_;refine ab.nil ⟨rfl,?_⟩;exact qL (N1_1_3_0_0_0 V) (by kernel_rfl) rfl ⟨rfl,trivial⟩
     · refine ah (fun B1 F1 w1 hS=>?_);refine ab.a5 tok (af (q.getD k [])) (hS.at (i:=r+2) (hgr q) (by rw[List.length_map];omega)) rfl rfl rfl rfl rfl rfl (getM af (by omega)) rfl ?_;rw[hpg];refine ab.nil ⟨rfl,?_⟩;exact qL (N0_1_4_0_0_0 V) (by kernel_rfl) rfl ⟨rfl,trivial⟩
   refine ZH.meet 10 (qB 23 49071) (fun V=>((Vr,OA Ws)::(Vc,CA s.cols)::bL Ws (b.set r q))) (fun V=>[(3,.bx [.sl 1 (v.map af)]),(6,.bx [.sl 1 [],.sl 1 [],dI 0,.sl 3 []]),(7,.d aj),(8,.bx [.v Vr,.v Vc,dI sg,af bP]),(11,.d (dI c)),(12,.d (dI r)),(14,.d (af p)),(36,.d (dI most)),(37,.d (dI c)),(16,.d (dI k)),(126,.d (.v Vr)),(127,.d (dI r)),(130,.d (dI k)),(133,.d (.v Vr)),(134,.d (dI r)),(137,.d (dI k)),(140,.d (af p)),(120,.d (dI N)),(121,.d (dI k)),(128,.d (.v (bh Vr (r*1)))),(136,.d (.v (Ws.getD r undef))),(138,.d (.v (bh (Ws.getD r undef) (k*1))))]) (fun V=>?_) (fun N1_0_3_0_0_0=>?_)
   · refine ZH.three 4 6 14 (by kernel_rfl) rfl rfl rfl rfl rfl rfl (fun _=>rfl) (fun _=>rfl) (fun _=>rfl) ⟨rfl,trivial⟩ ?_ ?_ ?_
     · refine ah (fun B1 F1 w1 hS=>?_);refine ab.a5 tok (.v (Ws.getD r undef)) (hS.at (i:=0) rfl (by rw[List.length_map];omega)) rfl rfl rfl rfl rfl rfl (bK (by omega)) rfl ?_;refine ab.nil ⟨rfl,?_⟩;exact qL (N2_0_3_0_0_0 V) (by kernel_rfl) rfl ⟨rfl,trivial⟩
     · refine ar (fun B1 F1 w1=>?_);refine qU 1 rfl ?_;refine ab.nil ⟨rfl,?_⟩;exact qL (N1_1_3_0_0_0 V) (by kernel_rfl) rfl ⟨rfl,trivial⟩
     · refine ah (fun B1 F1 w1 hS=>?_);refine ab.a5 tok (af (q.getD k [])) (hS.at (i:=r+2) (hgr q) (by rw[List.length_map];omega)) rfl rfl rfl rfl rfl rfl (getM af (by omega)) rfl ?_;rw[hpg];refine ab.nil ⟨rfl,?_⟩;exact qL (N1_0_4_0_0_0 V) (by kernel_rfl) rfl ⟨rfl,trivial⟩
   refine ZH.meet 10 (qB 23 40943) (fun V=>((Vr,OA Ws)::(Vc,CA s.cols)::bL Ws (b.set r q))) (fun V=>[(3,.bx [.sl 1 (v.map af)]),(6,.bx [.sl 1 [],.sl 1 [],dI 0,.sl 3 []]),(7,.d aj),(8,.bx [.v Vr,.v Vc,dI sg,af bP]),(11,.d (dI c)),(12,.d (dI r)),(14,.d (af p)),(36,.d (dI most)),(37,.d (dI c)),(16,.d (dI k)),(126,.d (.v Vr)),(127,.d (dI r)),(130,.d (dI k)),(133,.d (.v Vr)),(134,.d (dI r)),(137,.d (dI k)),(140,.d (af p)),(120,.d (dI N)),(121,.d (dI k)),(128,.d (.v (bh Vr (r*1)))),(131,.d (bO v)),(136,.d (.v (Ws.getD r undef)))]) (fun V=>?_) (fun N1_1_2_0_0_0=>?_)
   · refine ZH.two 4 13 (by kernel_rfl) rfl rfl rfl rfl (fun _=>rfl) (fun _=>rfl) ⟨rfl,trivial⟩ ?_ ?_
     · refine ah (fun B1 F1 w1 hS=>?_);refine ab.a5 tok (.v (Ws.getD r undef)) (hS.at (i:=0) rfl (by rw[List.length_map];omega)) rfl rfl rfl rfl rfl rfl (bK (by omega)) rfl ?_;refine ab.nil ⟨rfl,?_⟩;exact qL (N2_1_2_0_0_0 V) (by kernel_rfl) rfl ⟨rfl,trivial⟩
     · refine ah (fun B1 F1 w1 hS=>?_);refine ab.idxs tok (hS.at (i:=r+2) (hgr q) (by rw[List.length_map];omega)) rfl rfl rfl rfl (Int.natCast_nonneg k) (by rw[List.length_map];omega) ?_;refine ab.nil ⟨rfl,?_⟩;exact qL (N1_1_3_0_0_0 V) (by kernel_rfl) rfl ⟨rfl,trivial⟩
   refine ZH.meet 10 (qB 23 40895) (fun V=>((Vr,OA Ws)::(Vc,CA s.cols)::bL Ws (b.set r q))) (fun V=>[(3,.bx [.sl 1 (v.map af)]),(6,.bx [.sl 1 [],.sl 1 [],dI 0,.sl 3 []]),(7,.d aj),(8,.bx [.v Vr,.v Vc,dI sg,af bP]),(11,.d (dI c)),(12,.d (dI r)),(14,.d (af p)),(36,.d (dI most)),(37,.d (dI c)),(16,.d (dI k)),(126,.d (.v Vr)),(127,.d (dI r)),(130,.d (dI k)),(133,.d (.v Vr)),(134,.d (dI r)),(137,.d (dI k)),(140,.d (af p)),(120,.d (dI N)),(121,.d (dI k)),(129,.d (.v (Ws.getD r undef))),(136,.d (.v (Ws.getD r undef)))]) (fun V=>?_) (fun N2_0_2_0_0_0=>?_)
   · refine ZH.two 6 13 (by kernel_rfl) rfl rfl rfl rfl (fun _=>rfl) (fun _=>rfl) ⟨rfl,trivial⟩ ?_ ?_
     · refine ar (fun B1 F1 w1=>?_);refine qU 1 rfl ?_;refine ab.nil ⟨rfl,?_⟩;exact qL (N2_1_2_0_0_0 V) (by kernel_rfl) rfl ⟨rfl,trivial⟩
     · refine ah (fun B1 F1 w1 hS=>?_);refine ab.idxs tok (hS.at (i:=r+2) (hgr q) (by rw[List.length_map];omega)) rfl rfl rfl rfl (Int.natCast_nonneg k) (by rw[List.length_map];omega) ?_;refine ab.nil ⟨rfl,?_⟩;exact qL (N2_0_3_0_0_0 V) (by kernel_rfl) rfl ⟨rfl,trivial⟩
   refine ZH.meet 10 (qB 23 38911) (fun V=>((Vr,OA Ws)::(Vc,CA s.cols)::bL Ws (b.set r q))) (fun V=>[(3,.bx [.sl 1 (v.map af)]),(6,.bx [.sl 1 [],.sl 1 [],dI 0,.sl 3 []]),(7,.d aj),(8,.bx [.v Vr,.v Vc,dI sg,af bP]),(11,.d (dI c)),(12,.d (dI r)),(14,.d (af p)),(36,.d (dI most)),(37,.d (dI c)),(16,.d (dI k)),(126,.d (.v Vr)),(127,.d (dI r)),(130,.d (dI k)),(133,.d (.v Vr)),(134,.d (dI r)),(137,.d (dI k)),(140,.d (af p)),(120,.d (dI N)),(121,.d (dI k)),(129,.d (.v (Ws.getD r undef))),(131,.d (bO v)),(135,.d (.v (bh Vr (r*1))))]) (fun V=>?_) (fun N2_1_1_0_0_0=>?_)
   · refine ZH.all 11 (by kernel_rfl) rfl rfl (fun _=>rfl) ⟨rfl,trivial⟩ ?_;refine ah (fun B1 F1 w1 hS=>?_);refine ab.a5 tok (.v (Ws.getD r undef)) (hS.at (i:=0) rfl (by rw[List.length_map];omega)) rfl rfl rfl rfl rfl rfl (bK (by omega)) rfl ?_;refine ab.nil ⟨rfl,?_⟩;exact qL (N2_1_2_0_0_0 V) (by kernel_rfl) rfl ⟨rfl,trivial⟩
   refine ZH.meet 11 (qB 23 49063) (fun V=>((Vr,OA Ws)::(Vc,CA s.cols)::bL Ws (b.set r q))) (fun V=>[(3,.bx [.sl 1 (v.map af)]),(6,.bx [.sl 1 [],.sl 1 [],dI 0,.sl 3 []]),(7,.d aj),(8,.bx [.v Vr,.v Vc,dI sg,af bP]),(11,.d (dI c)),(12,.d (dI r)),(14,.d (af p)),(36,.d (dI most)),(37,.d (dI c)),(16,.d (dI k)),(126,.d (.v Vr)),(127,.d (dI r)),(130,.d (dI k)),(133,.d (.v Vr)),(134,.d (dI r)),(137,.d (dI k)),(140,.d (af p)),(120,.d (dI N)),(121,.d (dI k)),(136,.d (.v (Ws.getD r undef))),(138,.d (.v (bh (Ws.getD r undef) (k*1))))]) (fun V=>?_) (fun N0_0_3_0_0_0=>?_)
   · refine ZH.three 3 6 14 (by kernel_rfl) rfl rfl rfl rfl rfl rfl (fun _=>rfl) (fun _=>rfl) (fun _=>rfl) ⟨rfl,trivial⟩ ?_ ?_ ?_
     · refine ah (fun B1 F1 w1 hS=>?_);refine ab.idxs tok (hS.at (i:=0) rfl (by rw[List.length_map];omega)) rfl rfl rfl rfl (Int.natCast_nonneg _) (by show r<_;rw[List.length_map];omega) ?_;refine ab.nil ⟨rfl,?_⟩;exact qL (N1_0_3_0_0_0 V) (by kernel_rfl) rfl ⟨rfl,trivial⟩
     · refine ar (fun B1 F1 w1=>?_);refine qU 1 rfl ?_;refine ab.nil ⟨rfl,?_⟩;exact qL (N0_1_3_0_0_0 V) (by kernel_rfl) rfl ⟨rfl,trivial⟩
     · refine ah (fun B1 F1 w1 hS=>?_);refine ab.a5 tok (af (q.getD k [])) (hS.at (i:=r+2) (hgr q) (by rw[List.length_map];omega)) rfl rfl rfl rfl rfl rfl (getM af (by omega)) rfl ?_;rw[hpg];refine ab.nil ⟨rfl,?_⟩;exact qL (N0_0_4_0_0_0 V) (by kernel_rfl) rfl ⟨rfl,trivial⟩
   refine ZH.meet 11 (qB 23 40935) (fun V=>((Vr,OA Ws)::(Vc,CA s.cols)::bL Ws (b.set r q))) (fun V=>[(3,.bx [.sl 1 (v.map af)]),(6,.bx [.sl 1 [],.sl 1 [],dI 0,.sl 3 []]),(7,.d aj),(8,.bx [.v Vr,.v Vc,dI sg,af bP]),(11,.d (dI c)),(12,.d (dI r)),(14,.d (af p)),(36,.d (dI most)),(37,.d (dI c)),(16,.d (dI k)),(126,.d (.v Vr)),(127,.d (dI r)),(130,.d (dI k)),(133,.d (.v Vr)),(134,.d (dI r)),(137,.d (dI k)),(140,.d (af p)),(120,.d (dI N)),(121,.d (dI k)),(131,.d (bO v)),(136,.d (.v (Ws.getD r undef)))]) (fun V=>?_) (fun N0_1_2_0_0_0=>?_)
   · refine ZH.two 3 13 (by kernel_rfl) rfl rfl rfl rfl (fun _=>rfl) (fun _=>rfl) ⟨rfl,trivial⟩ ?_ ?_
     · refine ah (fun B1 F1 w1 hS=>?_);refine ab.idxs tok (hS.at (i:=0) rfl (by rw[List.length_map];omega)) rfl rfl rfl rfl (Int.natCast_nonneg _) (by show r<_;rw[List.length_map];omega) ?_;refine ab.nil ⟨rfl,?_⟩;exact qL (N1_1_2_0_0_0 V) (by kernel_rfl) rfl ⟨rfl,trivial⟩
     · refine ah (fun B1 F1 w1 hS=>?_);refine ab.idxs tok (hS.at (i:=r+2) (hgr q) (by rw[List.length_map];omega)) rfl rfl rfl rfl (Int.natCast_nonneg k) (by rw[List.length_map];omega) ?_;refine ab.nil ⟨rfl,?_⟩;exact qL (N0_1_3_0_0_0 V) (by kernel_rfl) rfl ⟨rfl,trivial⟩
   refine ZH.meet 11 (qB 23 40879) (fun V=>((Vr,OA Ws)::(Vc,CA s.cols)::bL Ws (b.set r q))) (fun V=>[(3,.bx [.sl 1 (v.map af)]),(6,.bx [.sl 1 [],.sl 1 [],dI 0,.sl 3 []]),(7,.d aj),(8,.bx [.v Vr,.v Vc,dI sg,af bP]),(11,.d (dI c)),(12,.d (dI r)),(14,.d (af p)),(36,.d (dI most)),(37,.d (dI c)),(16,.d (dI k)),(126,.d (.v Vr)),(127,.d (dI r)),(130,.d (dI k)),(133,.d (.v Vr)),(134,.d (dI r)),(137,.d (dI k)),(140,.d (af p)),(120,.d (dI N)),(121,.d (dI k)),(128,.d (.v (bh Vr (r*1)))),(136,.d (.v (Ws.getD r undef)))]) (fun V=>?_) (fun N1_0_2_0_0_0=>?_)
   · refine ZH.three 4 6 13 (by kernel_rfl) rfl rfl rfl rfl rfl rfl (fun _=>rfl) (fun _=>rfl) (fun _=>rfl) ⟨rfl,trivial⟩ ?_ ?_ ?_
     · refine ah (fun B1 F1 w1 hS=>?_);refine ab.a5 tok (.v (Ws.getD r undef)) (hS.at (i:=0) rfl (by rw[List.length_map];omega)) rfl rfl rfl rfl rfl rfl (bK (by omega)) rfl ?_;refine ab.nil ⟨rfl,?_⟩;exact qL (N2_0_2_0_0_0 V) (by kernel_rfl) rfl ⟨rfl,trivial⟩
     · refine ar (fun B1 F1 w1=>?_);refine qU 1 rfl ?_;refine ab.nil ⟨rfl,?_⟩;exact qL (N1_1_2_0_0_0 V) (by kernel_rfl) rfl ⟨rfl,trivial⟩
     · refine ah (fun B1 F1 w1 hS=>?_);refine ab.idxs tok (hS.at (i:=r+2) (hgr q) (by rw[List.length_map];omega)) rfl rfl rfl rfl (Int.natCast_nonneg k) (by rw[List.length_map];omega) ?_;refine ab.nil ⟨rfl,?_⟩;exact qL (N1_0_3_0_0_0 V) (by kernel_rfl) rfl ⟨rfl,trivial⟩
   refine ZH.meet 11 (qB 23 38895) (fun V=>((Vr,OA Ws)::(Vc,CA s.cols)::bL Ws (b.set r q))) (fun V=>[(3,.bx [.sl 1 (v.map af)]),(6,.bx [.sl 1 [],.sl 1 [],dI 0,.sl 3 []]),(7,.d aj),(8,.bx [.v Vr,.v Vc,dI sg,af bP]),(11,.d (dI c)),(12,.d (dI r)),(14,.d (af p)),(36,.d (dI most)),(37,.d (dI c)),(16,.d (dI k)),(126,.d (.v Vr)),(127,.d (dI r)),(130,.d (dI k)),(133,.d (.v Vr)),(134,.d (dI r)),(137,.d (dI k)),(140,.d (af p)),(120,.d (dI N)),(121,.d (dI k)),(128,.d (.v (bh Vr (r*1)))),(131,.d (bO v)),(135,.d (.v (bh Vr (r*1))))]) (fun V=>?_) (fun N1_1_1_0_0_0=>?_)
   · refine ZH.two 4 11 (by kernel_rfl) rfl rfl rfl rfl (fun _=>rfl) (fun _=>rfl) ⟨rfl,trivial⟩ ?_ ?_
     · refine ah (fun B1 F1 w1 hS=>?_);refine ab.a5 tok (.v (Ws.getD r undef)) (hS.at (i:=0) rfl (by rw[List.length_map];omega)) rfl rfl rfl rfl rfl rfl (bK (by omega)) rfl ?_;refine ab.nil ⟨rfl,?_⟩;exact qL (N2_1_1_0_0_0 V) (by kernel_rfl) rfl ⟨rfl,trivial⟩
     · refine ah (fun B1 F1 w1 hS=>?_);refine ab.a5 tok (.v (Ws.getD r undef)) (hS.at (i:=0) rfl (by rw[List.length_map];omega)) rfl rfl rfl rfl rfl rfl (bK (by omega)) rfl ?_;refine ab.nil ⟨rfl,?_⟩;exact qL (N1_1_2_0_0_0 V) (by kernel_rfl) rfl ⟨rfl,trivial⟩
   refine ZH.meet 11 (qB 23 38847) (fun V=>((Vr,OA Ws)::(Vc,CA s.cols)::bL Ws (b.set r q))) (fun V=>[(3,.bx [.sl 1 (v.map af)]),(6,.bx [.sl 1 [],.sl 1 [],dI 0,.sl 3 []]),(7,.d aj),(8,.bx [.v Vr,.v Vc,dI sg,af bP]),(11,.d (dI c)),(12,.d (dI r)),(14,.d (af p)),(36,.d (dI most)),(37,.d (dI c)),(16,.d (dI k)),(126,.d (.v Vr)),(127,.d (dI r)),(130,.d (dI k)),(133,.d (.v Vr)),(134,.d (dI r)),(137,.d (dI k)),(140,.d (af p)),(120,.d (dI N)),(121,.d (dI k)),(129,.d (.v (Ws.getD r undef))),(135,.d (.v (bh Vr (r*1))))]) (fun V=>?_) (fun N2_0_1_0_0_0=>?_)
   · refine ZH.two 6 11 (by kernel_rfl) rfl rfl rfl rfl (fun _=>rfl) (fun _=>rfl) ⟨rfl,trivial⟩ ?_ ?_
     · refine ar (fun B1 F1 w1=>?_);refine qU 1 rfl ?_;refine ab.nil ⟨rfl,?_⟩;exact qL (N2_1_1_0_0_0 V) (by kernel_rfl) rfl ⟨rfl,trivial⟩
     · refine ah (fun B1 F1 w1 hS=>?_);refine ab.a5 tok (.v (Ws.getD r undef)) (hS.at (i:=0) rfl (by rw[List.length_map];omega)) rfl rfl rfl rfl rfl rfl (bK (by omega)) rfl ?_;refine ab.nil ⟨rfl,?_⟩;exact qL (N2_0_2_0_0_0 V) (by kernel_rfl) rfl ⟨rfl,trivial⟩
   refine ZH.meet 11 (qB 23 37887) (fun V=>((Vr,OA Ws)::(Vc,CA s.cols)::bL Ws (b.set r q))) (fun V=>[(3,.bx [.sl 1 (v.map af)]),(6,.bx [.sl 1 [],.sl 1 [],dI 0,.sl 3 []]),(7,.d aj),(8,.bx [.v Vr,.v Vc,dI sg,af bP]),(11,.d (dI c)),(12,.d (dI r)),(14,.d (af p)),(36,.d (dI most)),(37,.d (dI c)),(16,.d (dI k)),(126,.d (.v Vr)),(127,.d (dI r)),(130,.d (dI k)),(133,.d (.v Vr)),(134,.d (dI r)),(137,.d (dI k)),(140,.d (af p)),(120,.d (dI N)),(121,.d (dI k)),(129,.d (.v (Ws.getD r undef))),(131,.d (bO v))]) (fun V=>?_) (fun N2_1_0_0_0_0=>?_)
   · refine ZH.all 10 (by kernel_rfl) rfl rfl (fun _=>rfl) ⟨rfl,trivial⟩ ?_;refine ah (fun B1 F1 w1 hS=>?_);refine ab.idxs tok (hS.at (i:=0) rfl (by rw[List.length_map];omega)) rfl rfl rfl rfl (Int.natCast_nonneg _) (by show r<_;rw[List.length_map];omega) ?_;refine ab.nil ⟨rfl,?_⟩;exact qL (N2_1_1_0_0_0 V) (by kernel_rfl) rfl ⟨rfl,trivial⟩
   refine ZH.meet 12 (qB 23 40871) (fun V=>((Vr,OA Ws)::(Vc,CA s.cols)::bL Ws (b.set r q))) (fun V=>[(3,.bx [.sl 1 (v.map af)]),(6,.bx [.sl 1 [],.sl 1 [],dI 0,.sl 3 []]),(7,.d aj),(8,.bx [.v Vr,.v Vc,dI sg,af bP]),(11,.d (dI c)),(12,.d (dI r)),(14,.d (af p)),(36,.d (dI most)),(37,.d (dI c)),(16,.d (dI k)),(126,.d (.v Vr)),(127,.d (dI r)),(130,.d (dI k)),(133,.d (.v Vr)),(134,.d (dI r)),(137,.d (dI k)),(140,.d (af p)),(120,.d (dI N)),(121,.d (dI k)),(136,.d (.v (Ws.getD r undef)))]) (fun V=>?_) (fun N0_0_2_0_0_0=>?_)
   · refine ZH.three 3 6 13 (by kernel_rfl) rfl rfl rfl rfl rfl rfl (fun _=>rfl) (fun _=>rfl) (fun _=>rfl) ⟨rfl,trivial⟩ ?_ ?_ ?_
     · refine ah (fun B1 F1 w1 hS=>?_);refine ab.idxs tok (hS.at (i:=0) rfl (by rw[List.length_map];omega)) rfl rfl rfl rfl (Int.natCast_nonneg _) (by show r<_;rw[List.length_map];omega) ?_;refine ab.nil ⟨rfl,?_⟩;exact qL (N1_0_2_0_0_0 V) (by kernel_rfl) rfl ⟨rfl,trivial⟩
     · refine ar (fun B1 F1 w1=>?_);refine qU 1 rfl ?_;refine ab.nil ⟨rfl,?_⟩;exact qL (N0_1_2_0_0_0 V) (by kernel_rfl) rfl ⟨rfl,trivial⟩
     · refine ah (fun B1 F1 w1 hS=>?_);refine ab.idxs tok (hS.at (i:=r+2) (hgr q) (by rw[List.length_map];omega)) rfl rfl rfl rfl (Int.natCast_nonneg k) (by rw[List.length_map];omega) ?_;refine ab.nil ⟨rfl,?_⟩;exact qL (N0_0_3_0_0_0 V) (by kernel_rfl) rfl ⟨rfl,trivial⟩
   refine ZH.meet 12 (qB 23 38887) (fun V=>((Vr,OA Ws)::(Vc,CA s.cols)::bL Ws (b.set r q))) (fun V=>[(3,.bx [.sl 1 (v.map af)]),(6,.bx [.sl 1 [],.sl 1 [],dI 0,.sl 3 []]),(7,.d aj),(8,.bx [.v Vr,.v Vc,dI sg,af bP]),(11,.d (dI c)),(12,.d (dI r)),(14,.d (af p)),(36,.d (dI most)),(37,.d (dI c)),(16,.d (dI k)),(126,.d (.v Vr)),(127,.d (dI r)),(130,.d (dI k)),(133,.d (.v Vr)),(134,.d (dI r)),(137,.d (dI k)),(140,.d (af p)),(120,.d (dI N)),(121,.d (dI k)),(131,.d (bO v)),(135,.d (.v (bh Vr (r*1))))]) (fun V=>?_) (fun N0_1_1_0_0_0=>?_)
   · refine ZH.two 3 11 (by kernel_rfl) rfl rfl rfl rfl (fun _=>rfl) (fun _=>rfl) ⟨rfl,trivial⟩ ?_ ?_
     · refine ah (fun B1 F1 w1 hS=>?_);refine ab.idxs tok (hS.at (i:=0) rfl (by rw[List.length_map];omega)) rfl rfl rfl rfl (Int.natCast_nonneg _) (by show r<_;rw[List.length_map];omega) ?_;refine ab.nil ⟨rfl,?_⟩;exact qL (N1_1_1_0_0_0 V) (by kernel_rfl) rfl ⟨rfl,trivial⟩
     · refine ah (fun B1 F1 w1 hS=>?_);refine ab.a5 tok (.v (Ws.getD r undef)) (hS.at (i:=0) rfl (by rw[List.length_map];omega)) rfl rfl rfl rfl rfl rfl (bK (by omega)) rfl ?_;refine ab.nil ⟨rfl,?_⟩;exact qL (N0_1_2_0_0_0 V) (by kernel_rfl) rfl ⟨rfl,trivial⟩
   refine ZH.meet 12 (qB 23 38831) (fun V=>((Vr,OA Ws)::(Vc,CA s.cols)::bL Ws (b.set r q))) (fun V=>[(3,.bx [.sl 1 (v.map af)]),(6,.bx [.sl 1 [],.sl 1 [],dI 0,.sl 3 []]),(7,.d aj),(8,.bx [.v Vr,.v Vc,dI sg,af bP]),(11,.d (dI c)),(12,.d (dI r)),(14,.d (af p)),(36,.d (dI most)),(37,.d (dI c)),(16,.d (dI k)),(126,.d (.v Vr)),(127,.d (dI r)),(130,.d (dI k)),(133,.d (.v Vr)),(134,.d (dI r)),(137,.d (dI k)),(140,.d (af p)),(120,.d (dI N)),(121,.d (dI k)),(128,.d (.v (bh Vr (r*1)))),(135,.d (.v (bh Vr (r*1))))]) (fun V=>?_) (fun N1_0_1_0_0_0=>?_)
   · refine ZH.three 4 6 11 (by kernel_rfl) rfl rfl rfl rfl rfl rfl (fun _=>rfl) (fun _=>rfl) (fun _=>rfl) ⟨rfl,trivial⟩ ?_ ?_ ?_
     · refine ah (fun B1 F1 w1 hS=>?_);refine ab.a5 tok (.v (Ws.getD r undef)) (hS.at (i:=0) rfl (by rw[List.length_map];omega)) rfl rfl rfl rfl rfl rfl (bK (by omega)) rfl ?_;refine ab.nil ⟨rfl,?_⟩;exact qL (N2_0_1_0_0_0 V) (by kernel_rfl) rfl ⟨rfl,trivial⟩
     · refine ar (fun B1 F1 w1=>?_);refine qU 1 rfl ?_;refine ab.nil ⟨rfl,?_⟩;exact qL (N1_1_1_0_0_0 V) (by kernel_rfl) rfl ⟨rfl,trivial⟩
     · refine ah (fun B1 F1 w1 hS=>?_);refine ab.a5 tok (.v (Ws.getD r undef)) (hS.at (i:=0) rfl (by rw[List.length_map];omega)) rfl rfl rfl rfl rfl rfl (bK (by omega)) rfl ?_;refine ab.nil ⟨rfl,?_⟩;exact qL (N1_0_2_0_0_0 V) (by kernel_rfl) rfl ⟨rfl,trivial⟩
   refine ZH.meet 12 (qB 23 37871) (fun V=>((Vr,OA Ws)::(Vc,CA s.cols)::bL Ws (b.set r q))) (fun V=>[(3,.bx [.sl 1 (v.map af)]),(6,.bx [.sl 1 [],.sl 1 [],dI 0,.sl 3 []]),(7,.d aj),(8,.bx [.v Vr,.v Vc,dI sg,af bP]),(11,.d (dI c)),(12,.d (dI r)),(14,.d (af p)),(36,.d (dI most)),(37,.d (dI c)),(16,.d (dI k)),(126,.d (.v Vr)),(127,.d (dI r)),(130,.d (dI k)),(133,.d (.v Vr)),(134,.d (dI r)),(137,.d (dI k)),(140,.d (af p)),(120,.d (dI N)),(121,.d (dI k)),(128,.d (.v (bh Vr (r*1)))),(131,.d (bO v))]) (fun V=>?_) (fun N1_1_0_0_0_0=>?_)
   · refine ZH.two 4 10 (by kernel_rfl) rfl rfl rfl rfl (fun _=>rfl) (fun _=>rfl) ⟨rfl,trivial⟩ ?_ ?_
     · refine ah (fun B1 F1 w1 hS=>?_);refine ab.a5 tok (.v (Ws.getD r undef)) (hS.at (i:=0) rfl (by rw[List.length_map];omega)) rfl rfl rfl rfl rfl rfl (bK (by omega)) rfl ?_;refine ab.nil ⟨rfl,?_⟩;exact qL (N2_1_0_0_0_0 V) (by kernel_rfl) rfl ⟨rfl,trivial⟩
     · refine ah (fun B1 F1 w1 hS=>?_);refine ab.idxs tok (hS.at (i:=0) rfl (by rw[List.length_map];omega)) rfl rfl rfl rfl (Int.natCast_nonneg _) (by show r<_;rw[List.length_map];omega) ?_;refine ab.nil ⟨rfl,?_⟩;exact qL (N1_1_1_0_0_0 V) (by kernel_rfl) rfl ⟨rfl,trivial⟩
   refine ZH.meet 12 (qB 23 37823) (fun V=>((Vr,OA Ws)::(Vc,CA s.cols)::bL Ws (b.set r q))) (fun V=>[(3,.bx [.sl 1 (v.map af)]),(6,.bx [.sl 1 [],.sl 1 [],dI 0,.sl 3 []]),(7,.d aj),(8,.bx [.v Vr,.v Vc,dI sg,af bP]),(11,.d (dI c)),(12,.d (dI r)),(14,.d (af p)),(36,.d (dI most)),(37,.d (dI c)),(16,.d (dI k)),(126,.d (.v Vr)),(127,.d (dI r)),(130,.d (dI k)),(133,.d (.v Vr)),(134,.d (dI r)),(137,.d (dI k)),(140,.d (af p)),(120,.d (dI N)),(121,.d (dI k)),(129,.d (.v (Ws.getD r undef)))]) (fun V=>?_) (fun N2_0_0_0_0_0=>?_)
   · refine ZH.two 6 10 (by kernel_rfl) rfl rfl rfl rfl (fun _=>rfl) (fun _=>rfl) ⟨rfl,trivial⟩ ?_ ?_
     · refine ar (fun B1 F1 w1=>?_);refine qU 1 rfl ?_;refine ab.nil ⟨rfl,?_⟩;exact qL (N2_1_0_0_0_0 V) (by kernel_rfl) rfl ⟨rfl,trivial⟩
     · refine ah (fun B1 F1 w1 hS=>?_);refine ab.idxs tok (hS.at (i:=0) rfl (by rw[List.length_map];omega)) rfl rfl rfl rfl (Int.natCast_nonneg _) (by show r<_;rw[List.length_map];omega) ?_;refine ab.nil ⟨rfl,?_⟩;exact qL (N2_0_1_0_0_0 V) (by kernel_rfl) rfl ⟨rfl,trivial⟩
   refine ZH.meet 13 (qB 23 38823) (fun V=>((Vr,OA Ws)::(Vc,CA s.cols)::bL Ws (b.set r q))) (fun V=>[(3,.bx [.sl 1 (v.map af)]),(6,.bx [.sl 1 [],.sl 1 [],dI 0,.sl 3 []]),(7,.d aj),(8,.bx [.v Vr,.v Vc,dI sg,af bP]),(11,.d (dI c)),(12,.d (dI r)),(14,.d (af p)),(36,.d (dI most)),(37,.d (dI c)),(16,.d (dI k)),(126,.d (.v Vr)),(127,.d (dI r)),(130,.d (dI k)),(133,.d (.v Vr)),(134,.d (dI r)),(137,.d (dI k)),(140,.d (af p)),(120,.d (dI N)),(121,.d (dI k)),(135,.d (.v (bh Vr (r*1))))]) (fun V=>?_) (fun N0_0_1_0_0_0=>?_)
   · refine ZH.three 3 6 11 (by kernel_rfl) rfl rfl rfl rfl rfl rfl (fun _=>rfl) (fun _=>rfl) (fun _=>rfl) ⟨rfl,trivial⟩ ?_ ?_ ?_
     · refine ah (fun B1 F1 w1 hS=>?_);refine ab.idxs tok (hS.at (i:=0) rfl (by rw[List.length_map];omega)) rfl rfl rfl rfl (Int.natCast_nonneg _) (by show r<_;rw[List.length_map];omega) ?_;refine ab.nil ⟨rfl,?_⟩;exact qL (N1_0_1_0_0_0 V) (by kernel_rfl) rfl ⟨rfl,trivial⟩
     · refine ar (fun B1 F1 w1=>?_);refine qU 1 rfl ?_;refine ab.nil ⟨rfl,?_⟩;exact qL (N0_1_1_0_0_0 V) (by kernel_rfl) rfl ⟨rfl,trivial⟩
     · refine ah (fun B1 F1 w1 hS=>?_);refine ab.a5 tok (.v (Ws.getD r undef)) (hS.at (i:=0) rfl (by rw[List.length_map];omega)) rfl rfl rfl rfl rfl rfl (bK (by omega)) rfl ?_;refine ab.nil ⟨rfl,?_⟩;exact qL (N0_0_2_0_0_0 V) (by kernel_rfl) rfl ⟨rfl,trivial⟩
   refine ZH.meet 13 (qB 23 37863) (fun V=>((Vr,OA Ws)::(Vc,CA s.cols)::bL Ws (b.set r q))) (fun V=>[(3,.bx [.sl 1 (v.map af)]),(6,.bx [.sl 1 [],.sl 1 [],dI 0,.sl 3 []]),(7,.d aj),(8,.bx [.v Vr,.v Vc,dI sg,af bP]),(11,.d (dI c)),(12,.d (dI r)),(14,.d (af p)),(36,.d (dI most)),(37,.d (dI c)),(16,.d (dI k)),(126,.d (.v Vr)),(127,.d (dI r)),(130,.d (dI k)),(133,.d (.v Vr)),(134,.d (dI r)),(137,.d (dI k)),(140,.d (af p)),(120,.d (dI N)),(121,.d (dI k)),(131,.d (bO v))]) (fun V=>?_) (fun N0_1_0_0_0_0=>?_)
   · refine ZH.two 3 10 (by kernel_rfl) rfl rfl rfl rfl (fun _=>rfl) (fun _=>rfl) ⟨rfl,trivial⟩ ?_ ?_
     · refine ah (fun B1 F1 w1 hS=>?_);refine ab.idxs tok (hS.at (i:=0) rfl (by rw[List.length_map];omega)) rfl rfl rfl rfl (Int.natCast_nonneg _) (by show r<_;rw[List.length_map];omega) ?_;refine ab.nil ⟨rfl,?_⟩;exact qL (N1_1_0_0_0_0 V) (by kernel_rfl) rfl ⟨rfl,trivial⟩
     · refine ah (fun B1 F1 w1 hS=>?_);refine ab.idxs tok (hS.at (i:=0) rfl (by rw[List.length_map];omega)) rfl rfl rfl rfl (Int.natCast_nonneg _) (by show r<_;rw[List.length_map];omega) ?_;refine ab.nil ⟨rfl,?_⟩;exact qL (N0_1_1_0_0_0 V) (by kernel_rfl) rfl ⟨rfl,trivial⟩
   refine ZH.meet 13 (qB 23 37807) (fun V=>((Vr,OA Ws)::(Vc,CA s.cols)::bL Ws (b.set r q))) (fun V=>[(3,.bx [.sl 1 (v.map af)]),(6,.bx [.sl 1 [],.sl 1 [],dI 0,.sl 3 []]),(7,.d aj),(8,.bx [.v Vr,.v Vc,dI sg,af bP]),(11,.d (dI c)),(12,.d (dI r)),(14,.d (af p)),(36,.d (dI most)),(37,.d (dI c)),(16,.d (dI k)),(126,.d (.v Vr)),(127,.d (dI r)),(130,.d (dI k)),(133,.d (.v Vr)),(134,.d (dI r)),(137,.d (dI k)),(140,.d (af p)),(120,.d (dI N)),(121,.d (dI k)),(128,.d (.v (bh Vr (r*1))))]) (fun V=>?_) (fun N1_0_0_0_0_0=>?_)
   · refine ZH.three 4 6 10 (by kernel_rfl) rfl rfl rfl rfl rfl rfl (fun _=>rfl) (fun _=>rfl) (fun _=>rfl) ⟨rfl,trivial⟩ ?_ ?_ ?_
     · refine ah (fun B1 F1 w1 hS=>?_);refine ab.a5 tok (.v (Ws.getD r undef)) (hS.at (i:=0) rfl (by rw[List.length_map];omega)) rfl rfl rfl rfl rfl rfl (bK (by omega)) rfl ?_;refine ab.nil ⟨rfl,?_⟩;exact qL (N2_0_0_0_0_0 V) (by kernel_rfl) rfl ⟨rfl,trivial⟩
     · refine ar (fun B1 F1 w1=>?_);refine qU 1 rfl ?_;refine ab.nil ⟨rfl,?_⟩;exact qL (N1_1_0_0_0_0 V) (by kernel_rfl) rfl ⟨rfl,trivial⟩
     · refine ah (fun B1 F1 w1 hS=>?_);refine ab.idxs tok (hS.at (i:=0) rfl (by rw[List.length_map];omega)) rfl rfl rfl rfl (Int.natCast_nonneg _) (by show r<_;rw[List.length_map];omega) ?_;refine ab.nil ⟨rfl,?_⟩;exact qL (N1_0_1_0_0_0 V) (by kernel_rfl) rfl ⟨rfl,trivial⟩
   refine ZH.meet 14 (qB 23 37799) (fun V=>((Vr,OA Ws)::(Vc,CA s.cols)::bL Ws (b.set r q))) (fun V=>[(3,.bx [.sl 1 (v.map af)]),(6,.bx [.sl 1 [],.sl 1 [],dI 0,.sl 3 []]),(7,.d aj),(8,.bx [.v Vr,.v Vc,dI sg,af bP]),(11,.d (dI c)),(12,.d (dI r)),(14,.d (af p)),(36,.d (dI most)),(37,.d (dI c)),(16,.d (dI k)),(126,.d (.v Vr)),(127,.d (dI r)),(130,.d (dI k)),(133,.d (.v Vr)),(134,.d (dI r)),(137,.d (dI k)),(140,.d (af p)),(120,.d (dI N)),(121,.d (dI k))]) (fun V=>?_) (fun N0_0_0_0_0_0=>?_)
   · refine ZH.three 3 6 10 (by kernel_rfl) rfl rfl rfl rfl rfl rfl (fun _=>rfl) (fun _=>rfl) (fun _=>rfl) ⟨rfl,trivial⟩ ?_ ?_ ?_
     · refine ah (fun B1 F1 w1 hS=>?_);refine ab.idxs tok (hS.at (i:=0) rfl (by rw[List.length_map];omega)) rfl rfl rfl rfl (Int.natCast_nonneg _) (by show r<_;rw[List.length_map];omega) ?_;refine ab.nil ⟨rfl,?_⟩;exact qL (N1_0_0_0_0_0 V) (by kernel_rfl) rfl ⟨rfl,trivial⟩
     · refine ar (fun B1 F1 w1=>?_);refine qU 1 rfl ?_;refine ab.nil ⟨rfl,?_⟩;exact qL (N0_1_0_0_0_0 V) (by kernel_rfl) rfl ⟨rfl,trivial⟩
     · refine ah (fun B1 F1 w1 hS=>?_);refine ab.idxs tok (hS.at (i:=0) rfl (by rw[List.length_map];omega)) rfl rfl rfl rfl (Int.natCast_nonneg _) (by show r<_;rw[List.length_map];omega) ?_;refine ab.nil ⟨rfl,?_⟩;exact qL (N0_0_1_0_0_0 V) (by kernel_rfl) rfl ⟨rfl,trivial⟩
   exact qL (N0_0_0_0_0_0 fy) (by kernel_rfl) rfl ⟨rfl,trivial⟩
 have hkN:k=N:=by have:=of_decide_eq_false h;omega
 subst hkN;rw[show ga (yt v row p) row k=yt v row p by rw[← hrN];exact xL hz,← hE];refine AZ.exit ?_;have hWe:Ws.length=e.length:=by omega
 have hre:r<e.length:=by omega
 have he2c:e.length=s.rows.length:=by omega
 refine AZ.seq ?_;refine AZ.seq ?_;refine AZ.Co (fun B1 F1 w1 hS=>?_);refine qU 2 rfl ?_;refine ab.lens tok (hS.at (i:=0) rfl (by rw[List.length_map];omega)) rfl rfl rfl rfl ?_;rw[List.length_map,hWe];refine qU 1 rfl ?_;refine ab.nil ⟨rfl,?_⟩;refine AZ.block ?_;refine AZ.aE [3,6,7,8,11,12,36,37,152,153] (fun i:Nat=>(((Vr,OA Ws)::(Vc,CA s.cols)::bL Ws (du v e r c i)),[(3,.bx [.sl 1 (v.map af)]),(6,.bx [.sl 1 [],.sl 1 [],dI 0,.sl 3 []]),(7,.d aj),(8,.bx [.v Vr,.v Vc,dI sg,af bP]),(11,.d (dI c)),(12,.d (dI r)),(36,.d (dI most)),(37,.d (dI c)),(152,.d (dI e.length)),(153,.d (dI i))])) (fun i=>i≤e.length) (fun i=>e.length-i) 0 rfl (Nat.zero_le _) (fun i hi=>?_);show AZ _ _ _ _ _ _ _ ((Vr,OA Ws)::(Vc,CA s.cols)::bL Ws (du v e r c i)) [(3,.bx [.sl 1 (v.map af)]),(6,.bx [.sl 1 [],.sl 1 [],dI 0,.sl 3 []]),(7,.d aj),(8,.bx [.v Vr,.v Vc,dI sg,af bP]),(11,.d (dI c)),(12,.d (dI r)),(36,.d (dI most)),(37,.d (dI c)),(152,.d (dI e.length)),(153,.d (dI i))];refine AZ.seq ?_;refine AZ.ic (fun B1 F1 w1=>?_);refine qU 1 rfl ?_;refine ab.nil ⟨rfl,?_⟩;refine AZ.seq ?_;refine AZ.cond rfl (fun h=>?_) (fun h=>?_)
 · have hie:i<e.length:=by have:=of_decide_eq_true h;omega
   have hm1:=j5 v e r c i;have hm2:=p8 (v:=v) (r:=r) (c:=c) he2 i (by omega);have hm3:=wq V (r:=r) (c:=c) he3 i;have hmi:=fN v e r c i i (.inl (Nat.le_refl _));have hmr:=fN v e r c i r (.inr rfl);have hnx:du v e r c (i+1)=if i≠r∧kP v (bM (du v e r c i) i c)≠0 then (du v e r c i).set i (mT v ((du v e r c i).getD i []) ((du v e r c i).getD r []) (bM (du v e r c i) i c)) else du v e r c i:=rfl
   have ia:bM (du v e r c i) i c=bM e i c:=wu v e r c i c;generalize du v e r c i=m at *;refine AZ.skip ?_;refine AZ.seq ?_;refine AZ.block ?_;refine AZ.seq ?_;refine AZ.ic (fun B1 F1 w1=>?_);refine qU 2 rfl ?_;refine ab.nil ⟨rfl,?_⟩;refine AZ.seq ?_;refine AZ.any aM (o6.At 16 (by kernel_rfl) (fun B1 F1 w1 hS=>?_));have hS0:=hS.at (i:=0) rfl (by rw[List.length_map];omega);refine qP 3 rfl ?_;by_cases hir:i=r
   · rw[if_neg (fun g=>g.1 hir)] at hnx;rw[bne_eq_false_iff_eq.2 (show (i:Int)=(r:Int) by omega)];refine qP 13 rfl ?_;refine ae.nil ⟨rfl,?_⟩;refine ai.nil ?_;refine AZ.aB rfl ?_;refine AZ.skip ?_;refine AZ.ic (fun B1 F1 w1=>?_);refine qU 1 rfl ?_;rw[aD (x:=(i:Int)+1) (by omega) (by omega)];refine qU 1 rfl ?_;refine ab.nil ⟨rfl,?_⟩;exact⟨i+1,Prod.ext (show ((Vr,OA Ws)::(Vc,CA s.cols)::bL Ws m)=((Vr,OA Ws)::(Vc,CA s.cols)::bL Ws (du v e r c (i+1))) by rw[hnx]) rfl,hie,by omega⟩
   have hmiN:(m.getD i []).length=k:=hm2 i (by omega);have hmrN:(m.getD r []).length=k:=hm2 r (by omega);have hgi:=iy (Vs:=Ws) (a:=m) (j:=i) (by omega) (by omega);have hgr2:=iy (Vs:=Ws) (a:=m) (j:=r) (by omega) (by omega);have hS1:=hS.at (i:=i+2) hgi (by rw[List.length_map];omega);have cs:=fG V (hm3 i c) (by rw[ia];exact oks i (by omega) (by omega));have okt2:=okt i (by omega) (by omega);rw[← ia,← hmi,← hmr] at okt2;rw[bne_iff_ne.2 (show (i:Int)≠(r:Int) by omega)];refine qP 5 rfl ?_;refine ae.idxs tok hS0 rfl rfl rfl rfl rfl (Int.natCast_nonneg i) (by rw[List.length_map];omega) ?_;refine ae.a5 tok (.v (Ws.getD i undef)) hS0 rfl rfl rfl rfl rfl rfl rfl (bK (by omega)) rfl ?_;refine qP 1 rfl ?_;refine ae.idxs tok hS1 rfl rfl rfl rfl rfl (Int.natCast_nonneg c) (by rw[List.length_map];omega) ?_;refine ae.a5 tok (af (bM m i c)) hS1 rfl rfl rfl rfl rfl rfl rfl (hel hm2 (by omega) c hcN) rfl ?_;refine ae.call tok rfl rfl rfl rfl rfl cs ?_;refine qP 2 rfl ?_;refine ae.nil ⟨rfl,?_⟩;refine ai.nil ?_;refine AZ.cond rfl (fun h=>?_) (fun h=>?_);rotate_left
   · have hg:kP v (bM m i c)=0:=bne_eq_false_iff_eq.1 h;rw[if_neg (fun g=>g.2 hg)] at hnx;refine AZ.skip ?_;refine AZ.ic (fun B1 F1 w1=>?_);refine qU 1 rfl ?_;rw[aD (x:=(i:Int)+1) (by omega) (by omega)];refine qU 1 rfl ?_;refine ab.nil ⟨rfl,?_⟩;exact⟨i+1,Prod.ext (show ((Vr,OA Ws)::(Vc,CA s.cols)::bL Ws m)=((Vr,OA Ws)::(Vc,CA s.cols)::bL Ws (du v e r c (i+1))) by rw[hnx]) rfl,hie,by omega⟩
   have hg:kP v (bM m i c)≠0:=bne_iff_ne.1 h;rw[if_pos ⟨hir,hg⟩] at hnx;have ct:=sO (Ws.getD i undef) (Ws.getD r undef) V (xs:=m.getD i []) (ys:=m.getD r []) (c:=bM m i c) (by omega) (by omega) (by omega) (hm3 i) (hm3 r) (hm3 i c) (okt2 (by rw[ia] at hg ⊢; exact hg));refine AZ.seq ?_;refine AZ.any aM (o6.At 19 (by kernel_rfl) (fun B1 F1 w1 hS=>?_));have hS0:=hS.at (i:=0) rfl (by rw[List.length_map];omega);have hS1:=hS.at (i:=i+2) hgi (by rw[List.length_map];omega);refine qP 4 rfl ?_;refine ae.idxs tok hS0 rfl rfl rfl rfl rfl (Int.natCast_nonneg i) (by rw[List.length_map];omega) ?_;refine ae.a5 tok (.v (Ws.getD i undef)) hS0 rfl rfl rfl rfl rfl rfl rfl (bK (by omega)) rfl ?_;refine qP 3 rfl ?_;refine ae.idxs tok hS0 rfl rfl rfl rfl rfl (Int.natCast_nonneg r) (by rw[List.length_map];omega) ?_;refine ae.a5 tok (.v (Ws.getD r undef)) hS0 rfl rfl rfl rfl rfl rfl rfl (bK (by omega)) rfl ?_;refine qP 3 rfl ?_;refine ae.idxs tok hS0 rfl rfl rfl rfl rfl (Int.natCast_nonneg i) (by rw[List.length_map];omega) ?_;refine ae.a5 tok (.v (Ws.getD i undef)) hS0 rfl rfl rfl rfl rfl rfl rfl (bK (by omega)) rfl ?_;refine qP 1 rfl ?_;refine ae.idxs tok hS1 rfl rfl rfl rfl rfl (Int.natCast_nonneg c) (by rw[List.length_map];omega) ?_;refine ae.a5 tok (af (bM m i c)) hS1 rfl rfl rfl rfl rfl rfl rfl (hel hm2 (by omega) c hcN) rfl ?_;refine ae.nil ⟨rfl,?_⟩;refine ai.to [172,177,182,190,3,6,7,8,11,12,36,37,152,153] [(172,.d (bO v)),(177,.d (.v (Ws.getD i undef))),(182,.d (.v (Ws.getD r undef))),(190,.d (af (bM m i c))),(3,.bx [.sl 1 (v.map af)]),(6,.bx [.sl 1 [],.sl 1 [],dI 0,.sl 3 []]),(7,.d aj),(8,.bx [.v Vr,.v Vc,dI sg,af bP]),(11,.d (dI c)),(12,.d (dI r)),(36,.d (dI most)),(37,.d (dI c)),(152,.d (dI e.length)),(153,.d (dI i))] rfl ?_;refine ai.lZ tok [i+2,r+2] rfl rfl rfl rfl (Ip hgi hgr2) (by simp[hir]) rfl ct (fun res R1 hP=>by rw[hP.2];exact Nat.le_refl _) (fun res R1 hP=>?_);obtain ⟨rfl,rfl⟩:=hP
   refine ai.td (R':=(Vr,OA Ws)::(Vc,CA s.cols)::bL Ws (du v e r c (i+1))) (by
    show ((Vr,OA Ws)::(Vc,CA s.cols)::((bL Ws m).set i _).set r _)++[]=_
    rw[List.append_nil,DT (by omega) (by omega) (by omega) hir,hnx]) ?_
   refine ai.cut 1 rfl (fun B1 F1 w1=>?_);refine qU 1 rfl ?_;refine ab.nil ⟨rfl,?_⟩;refine ai.nil ?_;refine AZ.seq ?_;refine AZ.ic (fun B1 F1 w1=>?_);refine qU 1 rfl ?_;refine ab.err tok rfl rfl rfl rfl rfl ?_;refine ab.nil ⟨rfl,?_⟩;refine AZ.aB rfl ?_;refine AZ.skip ?_;refine AZ.ic (fun B1 F1 w1=>?_);refine qU 1 rfl ?_;rw[aD (x:=(i:Int)+1) (by omega) (by omega)];refine qU 1 rfl ?_;refine ab.nil ⟨rfl,?_⟩;exact⟨i+1,rfl,hie,by omega⟩
 have hie:i=e.length:=by have:=of_decide_eq_false h;omega
 subst hie;refine AZ.exit ?_;refine AZ.region ?_;refine ai.cut 4 rfl (fun B1 F1 w1=>?_);refine qU 3 rfl ?_;refine ab.gm tok rfl rfl rfl rfl rfl ?_;refine ab.nil ⟨rfl,?_⟩;refine ai.eV 198 1 rfl rfl rfl ?_;refine ai.cut 1 rfl (fun B1 F1 w1=>?_);refine ab.k7 tok rfl rfl rfl rfl rfl rfl (by show ((s.cols.map (fun c:Nat=>dI c)).length+1)*8≤_;rw[List.length_map];omega) (by show (s.cols.map (fun c:Nat=>dI c)).length+1≤_;rw[List.length_map];omega) ?_;refine ab.nil ⟨rfl,?_⟩;refine ai.xO 201 1 rfl rfl rfl rfl (fun Vq=>?_)
 refine ai.td (R':=(Vr,OA Ws)::(Vq,CA (s.cols++[c]))::bL Ws (du v e r c e.length)) (by
  show (Vr,OA Ws)::(Vq,AV.ow 3 (s.cols.map (fun c:Nat=>dI c)++[dI c]))::bL Ws (du v e r c e.length)=_
  rw[show s.cols.map (fun c:Nat=>dI c)++[dI (c:Int)]=(s.cols++[c]).map (fun c:Nat=>dI c) by simp]) ?_
 refine ai.cut 2 rfl (fun B1 F1 w1=>?_);refine qU 2 rfl ?_;refine ab.nil ⟨rfl,?_⟩;refine ai.nil ?_;refine AZ.ic (fun B1 F1 w1=>?_);refine qU 1 rfl ?_;rw[aD (x:=(c:Int)+1) (by omega) (by omega)];refine qU 1 rfl ?_;refine ab.nil ⟨rfl,?_⟩;exact⟨(c+1,Vr,Vq,Ws),by rw[hst];rfl,⟨hcm,by show Ws.length=a.length;omega⟩,by show most-(c+1)<most-c;omega⟩
end Lift
namespace Lift
open Go Go.Proofs
theorem oC(v:List NQ)(most:Nat)(hm:most≤1000000):Pure Tryz.prog 46 [bO v,ck [],dI most] (.tu [DQ ⟨[],[],1,[1]⟩,aj]):=by
 refine qJ 205 Tryz.func46 rfl rfl rfl rfl (by kernel_rfl) (fun B F0 w0=>?_);have cone:=qc (Qr ((1:Int):Rat)) (k:=1) (j8 _ (by have:=tE;rw[show ((1:Int):Rat)=1 from rfl];omega)) (by decide) (by decide) (AL _);rw[c9,show Hx ((1:Int):Rat)=[1] from rfl] at cone;refine qX 3 rfl ?_;refine qI (AW.region ?_);refine ab.call tok rfl rfl rfl rfl (iV 1 (by decide) (by decide)) ?_;refine ab.call tok rfl rfl rfl rfl cone ?_;refine qU 3 rfl ?_;refine qI ?_;refine qX 3 rfl ?_;refine ab.nil ?_;refine AW.block ?_;refine AW.aE [2,3,6,7,8,22,23,24] (fun _:Unit=>[(2,.d (dI most)),(3,.bx [.sl 1 (v.map af)]),(6,.bx [.sl 1 [],.sl 1 [],dI 0,.sl 3 []]),(7,.d aj),(8,.bx [.sl 1 [],.sl 1 [],dI 1,af [1]]),(22,.d (ck [])),(23,.d (dI 0)),(24,.d (dI 0))]) (fun _=>True) (fun _=>0) () rfl trivial (fun _ _=>?_);show AW _ _ _ _ _ _ _ [(2,.d (dI most)),(3,.bx [.sl 1 (v.map af)]),(6,.bx [.sl 1 [],.sl 1 [],dI 0,.sl 3 []]),(7,.d aj),(8,.bx [.sl 1 [],.sl 1 [],dI 1,af [1]]),(22,.d (ck [])),(23,.d (dI 0)),(24,.d (dI 0))];refine qX 1 rfl ?_;refine qI ?_;refine AW.aB rfl ?_;refine AW.exit (AW.seq ?_);refine qX 2 rfl ?_;refine ab.nil ?_;refine AW.block ?_;refine AW.aE [3,6,7,8,36,37] (fun c:Nat=>[(3,.bx [.sl 1 (v.map af)]),(6,.bx [.sl 1 [],.sl 1 [],dI 0,.sl 3 []]),(7,.d aj),(8,.bx [.sl 1 [],.sl 1 [],dI 1,af [1]]),(36,.d (dI most)),(37,.d (dI c))]) (fun c=>c≤most) (fun c=>most-c) 0 rfl (Nat.zero_le _) (fun c hc=>?_);show AW _ _ _ _ _ _ _ [(3,.bx [.sl 1 (v.map af)]),(6,.bx [.sl 1 [],.sl 1 [],dI 0,.sl 3 []]),(7,.d aj),(8,.bx [.sl 1 [],.sl 1 [],dI 1,af [1]]),(36,.d (dI most)),(37,.d (dI c))];refine qX 1 rfl ?_;refine qI ?_;refine AW.cond rfl (fun h=>?_) (fun h=>?_);rotate_left
 · refine AW.exit ?_;refine qX 3 rfl ?_;exact qN rfl
 have hcm:c<most:=by have:=of_decide_eq_true h;omega
 refine AW.skip (AW.seq (AW.block ?_));refine qX 2 rfl ?_;refine qK 4 rfl ?_;refine qK 2 rfl ?_;refine ab.nil ?_;refine AW.cut [3,6,7,8,12,13,36,37] (fun _:Unit=>[(3,.bx [.sl 1 (v.map af)]),(6,.bx [.sl 1 [],.sl 1 [],dI 0,.sl 3 []]),(7,.d aj),(8,.bx [.sl 1 [],.sl 1 [],dI 1,af [1]]),(12,.d (dI 0)),(13,.d (dI 0)),(36,.d (dI most)),(37,.d (dI c))]) (fun _=>True) ?_ (fun _ _=>?_)
 · refine AW.block ?_;refine AW.aE [3,6,7,8,11,12,13,36,37] (fun _:Unit=>[(3,.bx [.sl 1 (v.map af)]),(6,.bx [.sl 1 [],.sl 1 [],dI 0,.sl 3 []]),(7,.d aj),(8,.bx [.sl 1 [],.sl 1 [],dI 1,af [1]]),(11,.d (dI c)),(12,.d (dI 0)),(13,.d (dI 0)),(36,.d (dI most)),(37,.d (dI c))]) (fun _=>True) (fun _=>0) () rfl trivial (fun _ _=>?_);show AW _ _ _ _ _ _ _ [(3,.bx [.sl 1 (v.map af)]),(6,.bx [.sl 1 [],.sl 1 [],dI 0,.sl 3 []]),(7,.d aj),(8,.bx [.sl 1 [],.sl 1 [],dI 1,af [1]]),(11,.d (dI c)),(12,.d (dI 0)),(13,.d (dI 0)),(36,.d (dI most)),(37,.d (dI c))];refine AW.seq (AW.seq ?_);refine AW.draw aM 18 (by kernel_rfl) ?_;refine qP 18 rfl ?_;refine ae.nil ?_;refine ab.nil ?_;refine AW.aB rfl ?_;exact AW.exit ⟨(),rfl,trivial⟩
 show AW _ _ _ _ _ _ _ [(3,.bx [.sl 1 (v.map af)]),(6,.bx [.sl 1 [],.sl 1 [],dI 0,.sl 3 []]),(7,.d aj),(8,.bx [.sl 1 [],.sl 1 [],dI 1,af [1]]),(12,.d (dI 0)),(13,.d (dI 0)),(36,.d (dI most)),(37,.d (dI c))];refine AW.seq ?_;refine qX 5 rfl ?_;refine ab.nil ?_;refine AW.aG rfl ?_;refine AW.exit ?_;refine qT 1 rfl ?_;rw[aD (x:=(c:Int)+1) (by omega) (by omega)];refine qU 1 rfl ?_;refine ab.nil ?_;exact⟨c+1,rfl,hcm,by omega⟩
def e8(v:List NQ)(a:bw):kK:=aZ v a (ao a)
structure wE (v:List NQ) (a:bw):Prop where
 l:a.length≤32
 r:cg (ao a) a
 c:ao a≤32
 lt:nN v.length a
theorem fH{v:List NQ}(V:kJ v){a:bw}{N most:Nat}(ha:a.length≤1000000)(hN:N≤1000000)(hmost:most≤N)(hr:cg N a)(hl:nN v.length a)(ok: ∀c,c<most→l6 v (aZ v a c) c):
  Pure Tryz.prog 46 [bO v,ck a,dI most] (.tu [DQ (aZ v a most),aj]):=by
 by_cases h0:a.length=0
 · rw[List.length_eq_zero_iff.1 h0,vz];exact oC v most (by omega)
 · exact pK V (by omega) ha hN hmost hr hl ok
def tR(a:bw):List (List (List RD)):=a.map (fun r=>r.map gM)
theorem xm(a:bw):(tR a).length=a.length:=List.length_map ..
theorem n9(a:bw)(i:Nat):(tR a).getD i []=(a.getD i []).map gM:=by
 unfold tR;rw[List.getD_eq_getElem?_getD,List.getElem?_map,List.getD_eq_getElem?_getD];cases a[i]? with
 | none=>rfl
 | some x=>rfl
theorem z0(a:bw)(i k:Nat):((tR a).getD i []).getD k []=gM (bM a i k):=by
 rw[n9];unfold bM;generalize a.getD i []=r;rw[List.getD_eq_getElem?_getD,List.getElem?_map,List.getD_eq_getElem?_getD];cases r[k]? with
 | none=>rfl
 | some x=>rfl
theorem yW(a:bw):MxR (tR a)=ck a:=by
 show D.sl 1 ((a.map _).map iY)=D.sl 1 (a.map fe);rw[List.map_map]
 congr 1
 refine List.map_congr_left fun r _=>?_;show D.sl 1 ((r.map gM).map dD)=D.sl 1 (r.map af);rw[List.map_map]
 congr 1
 exact List.map_congr_left fun x _=>yV x
theorem uJ(a:bw):ao (tR a)=ao a:=by unfold ao;rw[n9,List.length_map]
theorem o7.s{m:Nat}{v:List NQ}(V:o7 m v)(hk:pE v.length m):GZ m (np v):=by
 have hl5:=V.l5;have hm2:=V.m2;have T:=V.raw.1;exact⟨fun i hi _=>by rw[n8];exact vC (V.sz i),V.m1,by rw[gr];omega,T.ll,fun _=>by rw[gr];exact hk,hm2⟩
theorem wE.raw{m:Nat}{v:List NQ}{a:bw}(V:o7 m v)(G:wE v a)(hs: ∀i k,ay m (bM a i k)):BD m (np v) (tR a)∧kR (np v) (tR a)=0:=by
 have hl:=G.l;have hc:=G.c
 have hrow: ∀i,((tR a).getD i []).length≤32:=fun i=>by
  rw[n9,List.length_map];by_cases h:i<a.length
  · rw[G.r i h];exact hc
  · rw[mE (by omega)];exact Nat.zero_le _
 refine⟨⟨fun i k=>by rw[z0];exact Ew V (G.lt i k) (hs i k),by rw[xm];omega,fun i=>Nat.le_trans (hrow i) (by decide)⟩,?_⟩;unfold kR;rw[if_neg (by rw[V.raw.2];simp)];unfold vY;split
 · rfl
 rw[xm,uJ,if_neg (by omega)]
 have e1:fE (wJ (tR a)) (a.length-0) 0=0:=nI fun j hj=>by
  unfold wJ;rw[uJ,n9,List.length_map,G.r j (by omega)];exact if_neg (fun h=>h rfl)
 rw[e1,if_neg (by decide)];refine nI fun j hj=>?_;unfold jN;refine nI fun k hk=>?_;rw[z0];exact ck1 V (G.lt j k)
theorem sQ{m:Nat}{v:List NQ}{a:bw}(V:o7 m v)(hk:pE v.length m)(G:wE v a)(hs: ∀i k,ay m (bM a i k))(ok: ∀c,c<ao a→l6 v (aZ v a c) c):Pure Tryz.prog 13 [bO v,ck a] (.tu [dI (e8 v a).cols.length,aj]):=by
 refine qJ 29 Tryz.func13 rfl rfl rfl rfl (by kernel_rfl) (fun B F0 w0=>?_);obtain ⟨r1,r2⟩:=G.raw V hs;have cc:=gO (V.s hk) r1;rw[r2,vB,yW] at cc;have hGl:=G.l;have hGc:=G.c;have cr:=fH V.a (most:=ao a) (by omega) (by omega) (Nat.le_refl _) G.r G.lt ok;have hcl:=(iM V.a G.r G.lt (ao a)).cl;change Pure _ _ _ (.tu [DQ (e8 v a),aj]) at cr;generalize e8 v a=s at cr ⊢;obtain ⟨rows,cols,sg,bP⟩:=s;refine qX 3 rfl ?_;refine qI ?_;refine qX 2 rfl ?_;refine ab.call tok rfl rfl rfl rfl cc ?_;refine qU 1 rfl ?_;refine qK 1 rfl ?_;refine ab.err tok rfl rfl rfl rfl rfl ?_;refine ab.nil ?_;refine AW.aB rfl ?_
 · refine AW.skip (AW.seq ?_);refine AW.m4 tok aM [(7,true),(1,false),(1,true)] 9 [7] (by kernel_rfl) ⟨rfl,?_⟩;refine qP 3 rfl ?_;refine ae.call tok rfl rfl rfl rfl rfl (bF a) ?_;refine ae.call tok rfl rfl rfl rfl rfl cr ?_;refine qP 2 rfl ?_;refine ae.nil ⟨rfl,?_⟩;refine qP 1 rfl ?_;refine ae.nil ⟨rfl,?_⟩;refine qP 1 rfl ?_;refine ae.nil ⟨_,nQ.cons (.bx rfl) (nQ.nil),?_⟩;refine qU 1 rfl ?_;refine qI ?_;refine qX 1 rfl ?_;refine ab.err tok rfl rfl rfl rfl rfl ?_;refine ab.nil ?_;refine AW.aB rfl ?_
   · refine AW.skip ?_;refine qX 2 rfl ?_;refine qU 1 rfl ?_;rw[List.length_map];refine qU 2 rfl ?_;exact qN rfl
end Lift
namespace Lift
def cu(a:bw):bw:=(List.range (ao a)).map fun k=>a.map fun r=>r.getD k []
theorem fV(a:bw):(cu a).length=ao a:=by unfold cu;rw[List.length_map,List.length_range]
theorem me(a:bw){k:Nat}(h:k<ao a):(cu a).getD k []=a.map fun r=>r.getD k []:=by
 unfold cu;rw[List.getD_eq_getElem?_getD,List.getElem?_map,List.getElem?_range h];rfl
theorem Aw(a:bw)(k i:Nat):(a.map fun r=>r.getD k []).getD i []=bM a i k:=by
 unfold bM;rw[List.getD_eq_getElem?_getD,List.getElem?_map,List.getD_eq_getElem?_getD (l:=a)];cases a[i]? with
 | none=>exact(mD (Nat.zero_le k)).symm
 | some r=>rfl
theorem rP(a:bw){i k:Nat}(h:k<ao a):bM (cu a) k i=bM a i k:=by
 show ((cu a).getD k []).getD i []=_;rw[me a h];exact Aw a k i
theorem iI(a:bw):cg a.length (cu a):=fun k hk=>by
 rw[fV] at hk;rw[me a hk,List.length_map]
theorem uu{p:NQ→Prop}(h0:p []){a:bw}(h: ∀i k,p (bM a i k)): ∀i k,p (bM (cu a) i k):=fun k i=>by
 by_cases hk:k<ao a
 · rw[rP a hk];exact h i k
 · unfold bM;rw[mE (by rw[fV];omega)];exact h0
theorem k9{l:Nat}{a:bw}(h:nN l a):nN l (cu a):=uu (p:=aq l) (bm l) h
theorem yD{a:bw}(h:0<ao a):ao (cu a)=a.length:=by
 unfold ao;rw[me a h,List.length_map]
def js(v:List NQ)(a:bw)(c:Nat):List Nat:=(List.range c).filter fun i=> !(aZ v a c).cols.contains i
theorem xk(v:List NQ)(a:bw)(c:Nat):(aZ v a (c+1)).cols=(aZ v a c).cols++[c]∨(aZ v a (c+1)).cols=(aZ v a c).cols:=by
 show (fh v (aZ v a c) c).cols=(aZ v a c).cols++[c]∨(fh v (aZ v a c) c).cols=(aZ v a c).cols;unfold fh;split
 · exact .inl rfl
 · exact .inr rfl
theorem vA(v:List NQ)(a:bw): ∀c,∀x∈(aZ v a c).cols,x<c
 | 0,x,h=>by cases h
 | c+1,x,h=>by
   have ih:=vA v a c;rcases xk v a c with e | e
   · rw[e] at h;rcases List.mem_append.1 h with h | h
     · exact Nat.lt_succ_of_lt (ih x h)
     · rw[List.mem_singleton.1 h];exact Nat.lt_succ_self c
   · rw[e] at h;exact Nat.lt_succ_of_lt (ih x h)
theorem zq(v:List NQ)(a:bw)(c:Nat):((aZ v a (c+1)).cols=(aZ v a c).cols++[c]∧js v a (c+1)=js v a c)∨((aZ v a (c+1)).cols=(aZ v a c).cols∧js v a (c+1)=js v a c++[c]):=by
 have hlt:=vA v a c;rcases xk v a c with e | e
 · refine .inl ⟨e,?_⟩;unfold js;rw[List.range_succ,List.filter_append,e];rw[show List.filter (fun i=> !((aZ v a c).cols++[c]).contains i) [c]=[] by simp,List.append_nil];refine List.filter_congr fun i hi=>?_;have hi:=List.mem_range.1 hi;have:i≠c:=by omega
   simp[this]
 · refine .inr ⟨e,?_⟩;unfold js;rw[List.range_succ,List.filter_append,e]
   congr 1
   have:c ∉ (aZ v a c).cols:=fun h=>absurd (hlt c h) (Nat.lt_irrefl c);simp[this]
theorem uW(v:List NQ)(a:bw): ∀c,(js v a c).length+(aZ v a c).cols.length=c
 | 0=>rfl
 | c+1=>by
   have ih:=uW v a c;rcases zq v a c with ⟨e1,e2⟩ | ⟨e1,e2⟩
   · rw[e1,e2,List.length_append];show _+(_+1)=_;omega
   · rw[e1,e2,List.length_append];show _+1+_=_;omega
def Ev(v:List NQ)(a:bw):List Nat:=js v (cu a) a.length
theorem Ct{m0:Nat}{v:List NQ}(V:o7 m0 v){a:bw}(G:wE v a){n:Nat}(hn:n≤a.length):(aZ v (cu a) n).cols.length=(aZ v (a.take n) (ao a)).cols.length :=
 A5 V G.r G.lt (iI a) (k9 G.lt) (fV a) (fun i k _ hk=>rP a hk) hn
theorem zZ{v:List NQ}(V:kJ v){a:bw}(G:wE v a):(e8 v a).cols.length≤a.length∧(e8 v a).cols.length≤ao a :=
 ⟨(iM V G.r G.lt (ao a)).cm,(iM V G.r G.lt (ao a)).cl⟩
theorem A4{m0:Nat}{v:List NQ}(V:o7 m0 v){a:bw}(G:wE v a):(e8 v (cu a)).cols.length=(e8 v a).cols.length∧(aZ v (cu a) a.length).cols.length=(e8 v a).cols.length:=by
 have h:=Ct V G (Nat.le_refl a.length);rw[List.take_length] at h;refine⟨?_,h⟩;by_cases h0:0<ao a
 · unfold e8 at *;rw[yD h0];exact h
 · have e:cu a=[]:=List.length_eq_zero_iff.1 (by rw[fV];omega);have:=(zZ V.a G).2;unfold e8 at *;rw[e,vz];show 0=_;omega
end Lift
namespace Lift
open Go Go.Proofs
theorem oc(n:Nat)(r:D)(hn:n≤4611686018427387904)(h1: ∀i:Nat,i≤5→n=2^i→r= .tu [dI i,dB true])(h2:(∀i:Nat,i≤5→n≠2^i)→r= .tu [dI 0,dB false]):Pure Tryz.prog 76 [dI n] r:=by
 refine qJ 14 Tryz.func76 rfl rfl rfl rfl (by kernel_rfl) (fun B0 F0 w0=>?_);refine qX 2 rfl ?_;refine qI ?_;refine qX 1 rfl ?_;refine ab.nil ?_;refine AW.block ?_;refine AW.aE [0,5] (fun k:Nat=>[(0,.d (dI n)),(5,.d (dI k))]) (fun k=>k≤6∧ ∀j,j<k→n≠2^j) (fun k=>6-k) 0 rfl ⟨Nat.zero_le _,fun j hj=>by omega⟩ (fun k ⟨hk,hi⟩=>?_);refine qX 1 rfl ?_;refine qI ?_;refine AW.cond rfl (fun h=>?_) (fun h=>?_);rotate_left
 · have hkk:k=6:=by have:=of_decide_eq_false h;omega
   subst hkk;rw[h2 (fun i hi5=>hi i (by omega))];refine AW.exit ?_;refine qX 2 rfl ?_;exact qN rfl
 have hkk:k<6:=by have:=of_decide_eq_true h;omega
 refine AW.skip (AW.seq (AW.block ?_));refine qX 2 rfl ?_;refine qK 3 rfl ?_;rw[w7 (by omega)];refine qU 1 rfl ?_;refine ab.nil ?_;by_cases hp:n=2^k
 · rw[h1 k (by omega) hp,beq_iff_eq.2 (show (n:Int)=((2^k:Nat):Int) by rw[hp])];refine AW.aG rfl ?_;refine qX 3 rfl ?_;exact qN rfl
 rw[beq_eq_false_iff_ne.2 (show (n:Int)≠((2^k:Nat):Int) by omega)];refine AW.aB rfl ?_;refine AW.skip ?_;refine qT 1 rfl ?_;rw[aD (x:=(k:Int)+1) (by omega) (by omega)];refine qU 1 rfl ?_;refine ab.nil ?_
 exact⟨k+1,rfl,⟨hkk,fun j hj=>by
  by_cases e:j=k
  · rw[e];exact hp
  · exact hi j (by omega)⟩,by omega⟩
theorem eS{n i:Nat}(h:n=2^i)(hi:i≤5):Pure Tryz.prog 76 [dI n] (.tu [dI i,dB true]):=by
 have hp:2^i≤2^5:=Nat.pow_le_pow_right (by decide) hi;refine oc n _ (by omega) (fun j hj e=>?_) (fun hn=>absurd h (hn i hi));have h1:=ij (Nat.le_of_eq (h.symm.trans e));have h3:=ij (Nat.le_of_eq (e.symm.trans h));rw[show j=i by omega]
theorem mW{n:Nat}(h: ∀i:Nat,i≤5→n≠2^i)(hn:n≤4611686018427387904):Pure Tryz.prog 76 [dI n] (.tu [dI 0,dB false]) :=
 oc n _ hn (fun i hi e=>absurd e (h i hi)) (fun _=>rfl)
theorem jA(m:Nat)(a:List RD){k:Nat}(hm5:m≤5)(hw:Bz m a→wN k a)(hk:k≤17300000000000)(hl:a.length≤4398046511104):Pure Tryz.prog 37 [dI m,dD a] (dI (bA m a)):=by
 refine qJ 37 Tryz.func37 rfl rfl rfl rfl (by kernel_rfl) (fun B0 F0 w0=>?_);have hno:=fun i hi=>xD (l:=a) (i:=i) hi;have hyes:=uL (l:=a);unfold bA;generalize jo a=E at hno hyes ⊢
 obtain ⟨x,ok,cp,hok⟩: ∃(x:Nat) (ok:Bool),Pure Tryz.prog 76 [dI a.length] (.tu [dI x,dB ok])∧((ok=false∨m<x)↔zf m a.length=false):=by
  by_cases hp: ∃i,i≤5∧a.length=2^i
  · obtain ⟨i,hi,hp⟩:=hp;refine⟨i,true,eS hp hi,?_⟩;rw[hp,vZ];constructor
    · rintro (h | h)
      · cases h
      · exact decide_eq_false (by omega)
    · intro h;right;have:=of_decide_eq_false h;omega
  · refine⟨0,false,mW (fun i hi e=>hp ⟨i,hi,e⟩) (by omega),?_⟩;constructor
    · intro _;cases hv:zf m a.length
      · rfl
      · obtain ⟨i,h1,h2⟩:=CQ hv;exact absurd ⟨i,by omega,h2⟩ hp
    · intro _;exact .inl rfl
 refine qX 1 rfl ?_;refine qK 2 rfl ?_;rw[List.length_map];refine ab.call tok rfl rfl rfl rfl cp ?_;refine qU 5 rfl ?_;refine ab.nil ?_;refine AW.cut [1] (fun _:Unit=>[(1,.d (dD a))]) (fun _=> ¬(a.length≠0∧zf m a.length=false)) ?_ (fun _ hs=>?_)
 · refine qX 2 rfl ?_;rw[List.length_map];refine qU 1 rfl ?_;by_cases h0:a.length=0
   · rw[bne_eq_false_iff_eq.2 (show (a.length:Int)=0 by omega)];refine qU 9 rfl ?_;refine ab.nil ?_;refine AW.aB rfl ?_;refine AW.skip ?_;exact⟨(),rfl,fun h=>h.1 h0⟩
   rw[bne_iff_ne.2 (show (a.length:Int)≠0 by omega)];cases ok with
   | false =>
     have hb:=hok.1 (.inl rfl);rw[if_pos ⟨h0,hb⟩];refine qU 9 rfl ?_;refine ab.nil ?_;refine AW.aG rfl ?_;refine qX 1 rfl ?_;exact qN rfl
   | true =>
   refine qU 7 rfl ?_;by_cases hx:(m:Int)<(x:Int)
   · rw[decide_eq_true hx,if_pos ⟨h0,hok.1 (.inr (by omega))⟩];refine qU 2 rfl ?_;refine ab.nil ?_;refine AW.aG rfl ?_;refine qX 1 rfl ?_;exact qN rfl
   · rw[decide_eq_false hx];refine qU 2 rfl ?_;refine ab.nil ?_;refine AW.aB rfl ?_;refine AW.skip ?_
     exact⟨(),rfl,fun h=>by
      rcases hok.2 h.2 with e | e
      · cases e
      · omega⟩
 rw[if_neg hs];have hw:=hw hs;show AW _ _ _ _ _ _ _ [(1,.d (dD a))];refine AW.seq ?_;refine qX 2 rfl ?_;rw[List.length_map];refine qU 1 rfl ?_;refine ab.nil ?_;refine AW.block ?_;refine AW.aE [27,28,29] (fun i:Nat=>[(27,.d (dD a)),(28,.d (dI a.length)),(29,.d (dI i))]) (fun i=>i≤a.length∧ ∀j,j<i→(a.getD j default).okB=true) (fun i=>a.length-i) 0 rfl ⟨Nat.zero_le _,fun j hj=>by omega⟩ (fun i ⟨hi,hall⟩=>?_);refine qX 1 rfl ?_;refine qI ?_;refine AW.cond rfl (fun h=>?_) (fun h=>?_);rotate_left
 · have hii:i=a.length:=by have:=of_decide_eq_false h;omega
   subst hii;rw[hyes hall,if_neg (by simp)];refine AW.exit ?_;refine qX 1 rfl ?_;exact qN rfl
 have hii:i<a.length:=by have:=of_decide_eq_true h;omega
 have hg:=getM RD.D (l:=a) (i:=i) hii;have hno:=hno i hii;have cv:=oh (a.getD i default) (hw i hii) (by omega);refine AW.skip (AW.seq (AW.block (AW.seq (AW.region ?_))));refine ab.idx tok (a.getD i default).D rfl rfl rfl rfl (Int.natCast_nonneg i) hg ?_;refine qU 3 rfl ?_;refine qK 1 rfl ?_;refine ab.call tok rfl rfl rfl rfl cv ?_;refine qU 1 rfl ?_;cases hv:(a.getD i default).okB with
 | false =>
   rw[hno hv,if_pos rfl];refine ab.nil ?_;refine AW.aG rfl ?_;refine qX 1 rfl ?_;exact qN rfl
 | true =>
 refine ab.nil ?_;refine AW.aB rfl ?_;refine AW.skip ?_;refine qT 1 rfl ?_;rw[aD (x:=(i:Int)+1) (by omega) (by omega)];refine qU 1 rfl ?_;refine ab.nil ?_
 exact⟨i+1,rfl,⟨hii,fun j hj=>by
  by_cases e:j=i
  · subst e;exact hv
  · exact hall j (by omega)⟩,by omega⟩
theorem od(a:NQ)(hl:a.length≤1000000):Pure Tryz.prog 151 [af a] (dB (bb a)):=by
 refine qJ 26 Tryz.func151 rfl rfl rfl rfl (by kernel_rfl) (fun B F0 w0=>?_);have hno:=fun i hi=>rJ (a:=a) (i:=i) hi;have hyes:=pe (a:=a);generalize bb a=E at hno hyes ⊢;refine qX 1 rfl ?_;refine qI ?_;refine qX 2 rfl ?_;rw[List.length_map];refine qU 1 rfl ?_;refine ab.nil ?_;refine AW.block ?_;refine AW.aE [5,6,7] (fun i:Nat=>[(5,.d (af a)),(6,.d (dI a.length)),(7,.d (dI i))]) (fun i=> ∀j,j<i→j<a.length→a.getD j 0=0) (fun i=>a.length-i) 0 rfl (fun j h=>by omega) (fun i hi=>?_)
 · show AW _ _ _ _ _ _ _ [(5,.d (af a)),(6,.d (dI a.length)),(7,.d (dI i))];refine qX 1 rfl ?_;refine qI ?_;refine AW.cond rfl (fun h=>?_) (fun h=>?_)
   · have hii:i<a.length:=by have:=of_decide_eq_true h;omega
     have g:=kY hii;have hn:=hno i hii;have s0:=DR (a.getD i 0);generalize hq:a.getD i 0=q at g hn s0;generalize Qr q=y at g s0;obtain ⟨yg,yn,yd⟩:=y;simp only[] at s0;refine AW.skip (AW.seq (AW.block (AW.seq (AW.region ?_))));refine ab.idx tok (RD.mk yg yn yd).D rfl rfl rfl rfl (Int.natCast_nonneg i) g ?_;refine qU 3 rfl ?_;refine qK 3 rfl ?_;cases yg with
     | true =>
       refine qU 11 rfl ?_;refine ab.nil ?_;refine AW.aG rfl ?_;rw[hn (fun e=>by have:=s0.2 e;cases this.1)];refine qX 1 rfl ?_;exact qN rfl
     | false =>
     refine qU 3 rfl ?_;rw[aT];refine qU 1 rfl ?_;by_cases h1:yn.length=0;rotate_left
     · rw[bne_iff_ne.2 (show (yn.length:Int)≠0 by omega)];refine qU 7 rfl ?_;refine ab.nil ?_;refine AW.aG rfl ?_;rw[hn (fun e=>by have:=(s0.2 e).2.1;omega)];refine qX 1 rfl ?_;exact qN rfl
     rw[bne_eq_false_iff_eq.2 (show (yn.length:Int)=0 by omega)];refine qU 5 rfl ?_;rw[aT];refine qU 1 rfl ?_;by_cases h2:yd.length=0;rotate_left
     · rw[bne_iff_ne.2 (show (yd.length:Int)≠0 by omega)];refine qU 1 rfl ?_;refine ab.nil ?_;refine AW.aG rfl ?_;rw[hn (fun e=>by have:=(s0.2 e).2.2;omega)];refine qX 1 rfl ?_;exact qN rfl
     rw[bne_eq_false_iff_eq.2 (show (yd.length:Int)=0 by omega)];refine qU 1 rfl ?_;refine ab.nil ?_;refine AW.aB rfl ?_;refine AW.skip ?_;refine qT 1 rfl ?_;rw[aD (x:=(i:Int)+1) (by omega) (by omega)];refine qU 1 rfl ?_;refine ab.nil ?_;refine⟨i+1,rfl,fun j h1 h2=>?_,by omega⟩;by_cases e:j=i
     · rw[e,hq];exact s0.1 ⟨rfl,by omega,by omega⟩
     · exact hi j (by omega) h2
   have hii: ¬i<a.length:=by have:=of_decide_eq_false h;omega
   rw[hyes (fun j h=>hi j (by omega) h)];refine AW.exit ?_;refine qX 1 rfl ?_;exact qN rfl
theorem xp(a:NQ){k:Nat}(hs:ay k a)(hk:k≤17300000000000)(hl:a.length≤1000000):Pure Tryz.prog 112 [af a] (af (aO a)):=by
 refine qJ 19 Tryz.func112 rfl rfl rfl rfl (by kernel_rfl) (fun B0 F0 w0=>?_);refine qX 1 rfl ?_;refine qK 1 rfl ?_;refine qI ?_;refine qX 2 rfl ?_;rw[List.length_map];refine qU 1 rfl ?_;refine ab.nil ?_;refine AW.block ?_;refine AW.aE [3,6,7,8] (fun i:Nat=>[(3,.ow 111 (dP (aO (a.take i)))),(6,.d (af a)),(7,.d (dI a.length)),(8,.d (dI i))]) (fun i=>i≤a.length) (fun i=>a.length-i) 0 rfl (Nat.zero_le _) (fun i hi=>?_);refine qX 1 rfl ?_;refine qI ?_;refine AW.cond rfl (fun h=>?_) (fun h=>?_);rotate_left
 · have hii:i=a.length:=by have:=of_decide_eq_false h;have:i≤a.length:=hi;omega
   subst hii;rw[List.take_length];refine AW.exit ?_;refine qX 2 rfl ?_;exact qN rfl
 have hii:i<a.length:=by have:=of_decide_eq_true h;omega
 have g:=kY hii;have cn:=yX (Qr (a.getD i 0)) (j8 _ (hs i)) hk;rw[c9] at cn;have htk:=rR a 0 hii;have hol:(aO (a.take i)).length=i:=by rw[gb,List.length_take];omega
 have hms:aO (a.take (i+1))=aO (a.take i)++[-a.getD i 0]:=by
  rw[htk];unfold aO;rw[List.map_append];rfl
 generalize aO (a.take i)=M at hol hms ⊢;generalize a.getD i 0=q at g cn hms;refine AW.skip (AW.seq (AW.block (AW.seq (AW.region ?_))));refine ab.idx tok (Qr q).D rfl rfl rfl rfl (Int.natCast_nonneg i) g ?_;refine qU 3 rfl ?_;refine ab.nil ?_;refine qT 2 rfl ?_;refine ab.call tok rfl rfl rfl rfl cn ?_;refine ab.bs tok rfl rfl rfl rfl ?_;refine ab.k7 tok rfl rfl rfl rfl rfl rfl (by rw[List.length_map,hol];show (_+1)*56≤_;omega) (by rw[List.length_map,hol];show _+1≤_;omega) ?_;refine qU 1 rfl ?_;refine ab.nil ?_;refine qT 1 rfl ?_;rw[aD (x:=(i:Int)+1) (by omega) (by omega)];refine qU 1 rfl ?_;refine ab.nil ?_;exact⟨i+1,by show _=([(3,.ow 111 (dP (aO (a.take (i+1))))),(6,.d (af a)),(7,.d (dI a.length)),(8,.d (dI (i+1:Nat)))]:St);rw[hms,dP,dP,List.map_append];rfl,hii,by omega⟩
end Lift
namespace Lift
open Go Go.Proofs
theorem kx(a:NQ){l:Nat}(ha:aq l a)(hl:l≤5):Pure Tryz.prog 121 [af a] (af (aA a)):=by
 refine qJ 43 Tryz.func121 rfl rfl rfl rfl (by kernel_rfl) (fun B0 F0 w0=>?_);have hl10:=ha.len (by omega);rcases ha with h0 | ⟨i,hi,hai⟩
 · obtain rfl:a=[]:=List.length_eq_zero_iff.1 h0;have cp:=mW (n:=0) (fun i _=>by have:=Nat.two_pow_pos i;omega) (by decide);refine qX 1 rfl ?_;refine qK 2 rfl ?_;refine ab.call tok rfl rfl rfl rfl cp ?_;refine qU 5 rfl ?_;refine qI ?_;refine qX 2 rfl ?_;refine ab.nil ?_;refine AW.aG rfl ?_;refine qX 2 rfl ?_;refine ab.l0 tok rfl rfl rfl rfl (by decide) ?_;refine qU 1 rfl ?_;exact qN rfl
 have cp:=eS hai (by omega);have hp:=Nat.two_pow_pos i;have hE:aA a=fW i a:=by unfold aA;rw[if_neg (by omega),hai,Nat.log2_two_pow]
 rw[hE];refine qX 1 rfl ?_;refine qK 2 rfl ?_;rw[List.length_map];refine ab.call tok rfl rfl rfl rfl cp ?_;refine qU 5 rfl ?_;refine qI ?_;refine qX 2 rfl ?_;refine ab.nil ?_;refine AW.aB rfl ?_;refine AW.skip ?_;refine qX 2 rfl ?_;rw[List.length_map,hai];refine qU 1 rfl ?_;refine qI (AW.block ?_);refine AW.aE [0,5] (fun j:Nat=>[(0,.d (af a)),(5,.d (dI (2^j:Nat)))]) (fun j=>j≤i∧fW j a=fW i a) (fun j=>j) i rfl ⟨Nat.le_refl _,rfl⟩ (fun j hj=>?_);obtain ⟨hj,hjE⟩:=hj;show AW _ _ _ _ _ _ _ [(0,.d (af a)),(5,.d (dI (2^j:Nat)))];have hpj:2^j≤2^i:=Nat.pow_le_pow_right (by decide) hj;have hpp:=Nat.two_pow_pos j;refine AW.seq ?_;refine qX 2 rfl ?_;rcases j with _ | j
 · refine qU 8 rfl ?_;refine ab.nil ?_;refine AW.aB rfl ?_;refine AW.exit (AW.seq ?_);refine qX 4 rfl ?_;refine ab.fx tok (a:=a) (a.take 1) rfl rfl rfl rfl trivial (show (0:Int)≤1 by decide) (Nat.zero_le _) (show 1≤a.length by omega) rfl ?_;refine ab.call tok rfl rfl rfl rfl (od (a.take 1) (by rw[List.length_take];omega)) ?_;refine qU 1 rfl ?_;refine ab.nil ?_;rw[← hjE];unfold fW;cases hz:bb (a.take 1) with
   | true =>
     rw[if_pos rfl];refine AW.aG rfl ?_;refine qX 1 rfl ?_;exact qN rfl
   | false =>
     rw[if_neg (by simp)];refine AW.aB rfl ?_;refine AW.skip ?_;refine qX 3 rfl ?_;refine ab.fx tok (a:=a) (a.take 1) rfl rfl rfl rfl trivial (show (0:Int)≤1 by decide) (Nat.zero_le _) (show 1≤a.length by omega) rfl ?_;have hq:(a.take 1).length≤1024:=by rw[List.length_take];omega
     refine ab.l0 tok rfl rfl rfl rfl (by rw[List.length_map];show _*56≤_;omega) ?_;refine qU 1 rfl ?_;exact qN rfl
 have e2:2^(j+1)=2^j*2:=Nat.pow_succ ..;have eh:=jQ j;rw[decide_eq_true (show (1:Int)<((2^(j+1):Nat):Int) by have:=Nat.two_pow_pos j;omega)];refine qU 3 rfl ?_;refine ab.div tok rfl rfl rfl rfl (by decide) ?_;rw[fT _ (by omega),eh];refine qU 1 rfl ?_;refine ab.fx tok (a:=a) ((a.take (2^(j+1))).drop (2^j)) rfl rfl rfl rfl (Int.natCast_nonneg _) (Int.natCast_nonneg _) (show 2^j≤2^(j+1) by omega) (show 2^(j+1)≤a.length by omega) rfl ?_;refine ab.call tok rfl rfl rfl rfl (od _ (by rw[List.length_drop,List.length_take];omega)) ?_;refine qU 1 rfl ?_;refine ab.nil ?_;cases hz:bb ((a.take (2^(j+1))).drop (2^j)) with
 | true =>
   refine AW.aG rfl ?_;refine AW.skip (AW.block ?_);refine qT 1 rfl ?_;refine ab.div tok rfl rfl rfl rfl (by decide) ?_;rw[fT _ (by omega),eh];refine qU 1 rfl ?_;refine ab.nil ?_;exact⟨j,rfl,⟨by omega,by rw[← hjE];show _=if bb ((a.take (2^(j+1))).drop (2^j))=true then _ else _;rw[if_pos hz]⟩,by omega⟩
 | false =>
 refine AW.aB rfl ?_;refine AW.exit (AW.seq ?_);refine qX 2 rfl ?_;rw[beq_eq_false_iff_ne.2 (show ((2^(j+1):Nat):Int)≠1 by have:=Nat.two_pow_pos j;omega)];refine qU 5 rfl ?_;refine ab.nil ?_;refine AW.aB rfl ?_;refine AW.skip ?_;refine qX 3 rfl ?_;refine ab.fx tok (a:=a) (a.take (2^(j+1))) rfl rfl rfl rfl trivial (Int.natCast_nonneg _) (Nat.zero_le _) (show 2^(j+1)≤a.length by omega) rfl ?_;have hq:(a.take (2^(j+1))).length≤1024:=by rw[List.length_take];omega
 refine ab.l0 tok rfl rfl rfl rfl (by rw[List.length_map];show _*56≤_;omega) ?_;refine qU 1 rfl ?_;refine ab.nil ?_;rw[← hjE];unfold fW;rw[if_neg (by rw[hz];simp)];exact AW.ret rfl
theorem m8(a:NQ):aX a a.length=a:=by
 unfold aX;rw[List.take_length,Nat.sub_self];exact List.append_nil a
theorem rL{a:NQ}{i:Nat}(h:a.length≤i):aX a (i+1)=aX a i++[0]:=by
 unfold aX;rw[List.take_of_length_le h,List.take_of_length_le (by omega),Nat.succ_sub h,List.replicate_succ',List.append_assoc]
theorem jl(a:NQ)(n:Nat)(ha:a.length≤n)(hn:n≤1000000):l9 Tryz.prog 142 [af a,dI n] [] (Cx (aX a n)):=by
 refine l9.intro (n:=18) tok Tryz.func142 rfl rfl rfl (Nat.le_of_ble_eq_true rfl) (by kernel_rfl) (fun B F0 w0=>?_);refine AZ.seq ?_;refine AZ.ic (fun B1 F1 w1=>?_);refine qU 1 rfl ?_;refine ab.nil ⟨rfl,?_⟩;refine AZ.seq ?_;refine AZ.ic (fun B1 F1 w1=>?_);refine qU 2 rfl ?_;refine ab.wy tok rfl rfl rfl rfl (by rw[List.length_map];show _*56≤_;omega) ?_;refine qU 1 rfl ?_;refine ab.nil ⟨rfl,?_⟩;refine AZ.seq ?_;refine AZ.block ?_;refine AZ.aE [1,5] (fun i:Nat=>(([]:List LR),([(1,.d (dI n)),(5,.ow 111 (dP (aX a i)))]:St))) (fun i=>a.length≤i∧i≤n) (fun i=>n-i) a.length (by rw[m8];rfl) ⟨Nat.le_refl _,ha⟩ (fun i hi=>?_)
 · obtain ⟨hi,hin⟩:=hi;show AZ _ _ _ _ _ _ _ [] [(1,.d (dI n)),(5,.ow 111 (dP (aX a i)))];have wl:=bf a i;refine AZ.seq ?_;refine AZ.seq ?_;refine AZ.ic (fun B1 F1 w1=>?_);refine qU 2 rfl ?_;rw[List.length_map,wl];refine qU 2 rfl ?_;refine ab.nil ⟨rfl,?_⟩;refine AZ.cond rfl (fun h=>?_) (fun h=>?_)
   · have hii:i<n:=by have:=of_decide_eq_true h;omega
     have hs:=rL hi;refine AZ.skip ?_;refine AZ.block ?_;refine AZ.ic (fun B1 F1 w1=>?_);refine qU 2 rfl ?_;refine ab.bs tok rfl rfl rfl rfl ?_;refine ab.k7 tok rfl rfl rfl rfl rfl rfl (by rw[List.length_map,wl];show (_+1)*56≤_;omega) (by rw[List.length_map,wl];show _+1≤_;omega) ?_;refine qU 1 rfl ?_;refine ab.nil ⟨rfl,?_⟩;refine⟨i+1,?_,⟨by omega,hii⟩,by omega⟩;rw[hs];show _=(([]:List LR),([(1,.d (dI n)),(5,.ow 111 ((aX a i++[0]).map (fun q=>(Qr q).D)))]:St));rw[List.map_append,List.map_cons,ju];rfl
   have hii:i=n:=by have:=of_decide_eq_false h;omega
   subst hii;refine AZ.exit ?_;refine AZ.seq ?_;refine AZ.ic (fun B1 F1 w1=>?_);refine qU 2 rfl ?_;refine ab.nil ⟨rfl,?_⟩;refine AZ.jB 4 rfl rfl rfl (fun V=>AZ.ret ⟨.v V,rfl,V,rfl,rfl⟩)
theorem kv(a:NQ)(n:Nat)(ha:a.length≤n)(hn:n≤1000000):Pure Tryz.prog 142 [af a,dI n] (af (aX a n)):=by
 refine qJ 18 Tryz.func142 rfl rfl rfl rfl (by kernel_rfl) (fun B F0 w0=>?_);refine qX 1 rfl ?_;refine qK 2 rfl ?_;refine ab.wy tok rfl rfl rfl rfl (by rw[List.length_map];show _*56≤_;omega) ?_;refine qU 1 rfl ?_;refine qI (AW.block ?_);refine AW.aE [1,5] (fun i:Nat=>[(1,.d (dI n)),(5,.ow 111 (dP (aX a i)))]) (fun i=>a.length≤i∧i≤n) (fun i=>n-i) a.length (by rw[m8];rfl) ⟨Nat.le_refl _,ha⟩ (fun i hi=>?_)
 · obtain ⟨hi,hin⟩:=hi;show AW _ _ _ _ _ _ _ [(1,.d (dI n)),(5,.ow 111 (dP (aX a i)))];have wl:=bf a i;refine AW.seq ?_;refine qX 2 rfl ?_;rw[List.length_map,wl];refine qU 2 rfl ?_;refine ab.nil ?_;refine AW.cond rfl (fun h=>?_) (fun h=>?_)
   · have hii:i<n:=by have:=of_decide_eq_true h;omega
     have hs:=rL hi;refine AW.skip (AW.block ?_);refine qT 2 rfl ?_;refine ab.bs tok rfl rfl rfl rfl ?_;refine ab.k7 tok rfl rfl rfl rfl rfl rfl (by rw[List.length_map,wl];show (_+1)*56≤_;omega) (by rw[List.length_map,wl];show _+1≤_;omega) ?_;refine qU 1 rfl ?_;refine ab.nil ?_;refine⟨i+1,?_,⟨by omega,hii⟩,by omega⟩;rw[hs];show _=([(1,.d (dI n)),(5,.ow 111 ((aX a i++[0]).map (fun q=>(Qr q).D)))]:St);rw[List.map_append,List.map_cons,ju];rfl
   have hii:i=n:=by have:=of_decide_eq_false h;omega
   subst hii;refine AW.exit ?_;refine qX 2 rfl ?_;exact qN rfl
theorem lE(a b:NQ){k:Nat}(ha:ay k a)(hb:ay k b)(hk:k≤17300000000000)(hl:a.length≤1000000)(hl2:b.length≤1000000):Pure Tryz.prog 111 [af a,af b] (af (aK a b)):=by
 refine qJ 37 Tryz.func111 rfl rfl rfl rfl (by kernel_rfl) (fun B F0 w0=>?_);obtain ⟨n,hn⟩: ∃n,n=max a.length b.length:=⟨_,rfl⟩;have cw1:=jl a n (by omega) (by omega);have cw2:=jl b n (by omega) (by omega);have l1:=bf a n;have l2:=bf b n;have g1: ∀i,i<n→(aX a n).getD i 0=a.getD i 0:=fun i hi=>by rw[fg,if_pos hi]
 have g2: ∀i,i<n→(aX b n).getD i 0=b.getD i 0:=fun i hi=>by rw[fg,if_pos hi]
 have hpl:(aK a b).length=n:=by rw[iC,hn]
 generalize aX a n=wa at cw1 l1 g1;generalize aX b n=wb at cw2 l2 g2;refine qX 1 rfl ?_;refine qK 4 rfl ?_;rw[List.length_map,List.length_map];refine qU 2 rfl ?_;rw[Gt,← hn];refine qI ?_;refine AZ.aw ?_;refine AZ.region ?_;refine ai.cut 2 rfl (fun B1 F1 w1=>?_);refine qU 2 rfl ?_;refine ab.nil ⟨rfl,?_⟩;refine ai.lZ tok [] rfl rfl rfl rfl rfl List.nodup_nil rfl cw1 (fun _ _ _=>Nat.zero_le _) (fun res R1 hP=>?_);obtain ⟨V1,rfl,rfl⟩:=hP;refine ai.cut 2 rfl (fun B1 F1 w1=>?_);refine qU 2 rfl ?_;refine ab.nil ⟨rfl,?_⟩;refine ai.lZ tok [] rfl rfl rfl rfl rfl List.nodup_nil rfl cw2 (fun _ _ _=>Nat.zero_le _) (fun res R1 hP=>?_);obtain ⟨V2,rfl,rfl⟩:=hP;refine ai.cut 2 rfl (fun B1 F1 w1=>?_);refine qU 2 rfl ?_;refine ab.nil ⟨rfl,?_⟩;refine ai.to [0,1] [(0,.d (.v V1)),(1,.d (.v V2))] rfl ?_;refine ai.eV 0 0 (V:=V1) (av:= .ow 111 (dP wa)) rfl rfl rfl ?_;refine ai.to [0,1] [(0,.ow 111 (dP wa)),(1,.d (.v V2))] rfl ?_;refine ai.eV 1 1 (V:=V2) (av:= .ow 111 (dP wb)) rfl rfl rfl ?_;refine ai.to [0,1] [(0,.ow 111 (dP wa)),(1,.ow 111 (dP wb))] rfl ?_;refine ai.nil ?_;refine AW.gG tok 1 rfl rfl ?_;refine AW.seq ?_;refine qX 2 rfl ?_;rw[List.length_map,l1];refine qU 1 rfl ?_;refine ab.nil ?_;refine AW.block ?_;refine AW.aE [0,1,19,20] (fun s:Nat×NQ=>[(0,.ow 111 (dP s.2)),(1,.d (af wb)),(19,.d (dI n)),(20,.d (dI s.1))]) (fun s=>s.2.length=n∧ ∀j,j<n→s.2.getD j 0=if j<s.1 then a.getD j 0+b.getD j 0 else a.getD j 0) (fun s=>n-s.1) (0,wa) rfl ⟨l1,fun j h=>by rw[if_neg (Nat.not_lt_zero _)];exact g1 j h⟩ (fun s hi=>?_)
 · obtain ⟨i,r⟩:=s;obtain ⟨hrl,hi⟩:=hi;simp only[] at hrl hi;show AW _ _ _ _ _ _ _ [(0,.ow 111 (dP r)),(1,.d (af wb)),(19,.d (dI n)),(20,.d (dI i))];refine qX 1 rfl ?_;refine qI ?_;refine AW.cond rfl (fun h=>?_) (fun h=>?_)
   · have hii:i<n:=by have:=of_decide_eq_true h;omega
     have e1:=kY (r:=r) (i:=i) (by omega);have e2:=kY (r:=wb) (i:=i) (by omega);rw[hi i hii,if_neg (Nat.lt_irrefl _)] at e1;rw[g2 i hii] at e2;have ca:=yZ (Qr (a.getD i 0)) (Qr (b.getD i 0)) (j8 _ (ha i)) (j8 _ (hb i)) hk;rw[c9,c9] at ca;refine AW.skip (AW.seq (AW.block ?_));refine qX 2 rfl ?_;refine ab.nil ?_;refine AW.draw aM 12 (by kernel_rfl) ?_;refine qP 4 rfl ?_;refine ae.fA tok rfl rfl rfl rfl rfl rfl (Int.natCast_nonneg i) (by rw[List.length_map];show i<_;omega) ?_;refine ae.cF tok (Qr (a.getD i 0)).D rfl rfl rfl rfl rfl e1 rfl ?_;refine qP 2 rfl ?_;refine ae.idx tok (Qr (b.getD i 0)).D rfl rfl rfl rfl rfl (Int.natCast_nonneg i) e2 ?_;refine qP 1 rfl ?_;refine ae.call tok rfl rfl rfl rfl rfl ca ?_;refine ae.fA tok rfl rfl rfl rfl rfl rfl (Int.natCast_nonneg i) (by rw[List.length_map];show i<_;omega) ?_;refine ae.nil ?_;refine ab.yL tok (a.getD i 0+b.getD i 0) rfl rfl rfl (by show i<_;omega) ?_;refine ab.nil ?_;refine qT 1 rfl ?_;rw[aD (x:=(i:Int)+1) (by omega) (by omega)];refine qU 1 rfl ?_;refine ab.nil ?_;refine⟨(i+1,r.set i (a.getD i 0+b.getD i 0)),rfl,⟨by rw[List.length_set];exact hrl,fun j h1=>?_⟩,by show n-(i+1)<n-i;omega⟩;show (r.set i (a.getD i 0+b.getD i 0)).getD j 0=if j<i+1 then _ else _
     rw[zp];by_cases e:j=i
     · rw[if_pos ⟨e,by omega⟩,e,if_pos (by omega)]
     · rw[if_neg (fun h=>e h.1),hi j h1];by_cases h2:j<i
       · rw[if_pos h2,if_pos (by omega)]
       · rw[if_neg h2,if_neg (by omega)]
   have hii: ¬i<n:=by have:=of_decide_eq_false h;omega
   obtain rfl:r=aK a b:=zc (by rw[hrl,hpl]) (fun j hj=>by rw[my,hi j (by omega),if_pos (by omega)]);refine AW.exit ?_;refine qX 2 rfl ?_;exact qN rfl
end Lift
namespace Lift
open Go Go.Proofs
theorem uI{R:NQ→NQ→NQ}{rt:List NQ}{a b:NQ}:(jj R rt a b).length≤max a.length b.length:=by
 unfold jj;split
 · exact Nat.zero_le _
 split
 · rename_i h;rw[h];exact Nat.le_refl _
 · rw[dO];omega
theorem xg{l k:Nat}{R:NQ→NQ→NQ}{rt:List NQ}{a b:NQ}(ha:aq l a)(hb:aq l b)(hrt:cO rt)(hl:l≤rt.length)(sa:ay k a)(sb:ay k b)(sr:eF k rt)
  (hR: ∀l',l=l'+1→ ∀a' b' m,k≤m→aq l' a'→aq l' b'→ay m a'→ay m b'→aq l' (R a' b')∧ay (sT l' m) (R a' b')):aq l (jj R rt a b)∧ay (sT l k) (jj R rt a b):=by
 have hk:=sa.pos;have h2:=bI l k;unfold jj;by_cases h0:a.length=0∨b.length=0
 · rw[if_pos h0];exact⟨bm _,bn (by omega)⟩
 rw[if_neg h0];by_cases h1:max a.length b.length=1
 · rw[if_pos h1];refine⟨ix _ _,iJ ?_⟩;have:=zJ (a.getD 0 0) (b.getD 0 0);have:=sa 0;have:=sb 0;omega
 rw[if_neg h1]
 obtain ⟨i,hi,hn⟩: ∃i,i≤l∧max a.length b.length=2^i:=by
  rcases ha with e | ⟨i,hi,e⟩
  · exact absurd (.inl e) h0
  rcases hb with e2 | ⟨k,hk,e2⟩
  · exact absurd (.inr e2) h0
  by_cases h:a.length≤b.length
  · exact⟨k,hk,by rw[Nat.max_eq_right h,e2]⟩
  · exact⟨i,hi,by rw[Nat.max_eq_left (by omega),e]⟩
 have ue:i≠0:=fun e=>h1 (by rw[hn,e]);obtain ⟨j,rfl⟩: ∃j,i=j+1:=⟨i-1,by omega⟩;obtain ⟨l',rfl⟩: ∃l',l=l'+1:=⟨l-1,by omega⟩;have hj:j≤l':=by omega
 have hR:=fun a' b' m h1 h2 h3 h4 h5=>hR l' rfl a' b' m h1 h2 h3 h4 h5;have wa:=bf a (max a.length b.length);have wb:=bf b (max a.length b.length);have sa:=sa.wide (max a.length b.length);have sb:=sb.wide (max a.length b.length);generalize aX a (max a.length b.length)=A at *;generalize aX b (max a.length b.length)=B at *;generalize max a.length b.length=n at *;subst hn;have e0:=jQ j;have hlog:(2^(j+1)).log2-1=j:=by rw[Nat.log2_two_pow];omega
 rw[e0,hlog];obtain ⟨e1,e2,e3⟩:=bj wa;obtain ⟨f1,f2,f3⟩:=bj wb;rw[e3] at e1 e2;rw[f3] at f1 f2;have hx:aq l' (A.take (2^j)):= .inr ⟨j,hj,e1⟩;have hy:aq l' (A.drop (2^j)):= .inr ⟨j,hj,e2⟩;have hu:aq l' (B.take (2^j)):= .inr ⟨j,hj,f1⟩;have hv:aq l' (B.drop (2^j)):= .inr ⟨j,hj,f2⟩;have hd:aq l' (rt.getD j []):= .inr ⟨j,hj,hrt j (by omega)⟩;have hs0:=bI l' k;have hs1:=bI l' (sT l' k);have r1:=hR _ _ k (Nat.le_refl _) hx hu (sa.take _) (sb.take _);have r2:=hR _ _ k (Nat.le_refl _) hy hv (sa.drop _) (sb.drop _);have r3:=hR _ _ k (Nat.le_refl _) hx hv (sa.take _) (sb.drop _);have r4:=hR _ _ k (Nat.le_refl _) hy hu (sa.drop _) (sb.take _);have r5:=hR _ _ (sT l' k) (by omega) r2.1 hd r2.2 ((sr _).mono (by omega));refine⟨.inr ⟨j+1,by omega,by rw[dO,Nat.pow_succ];omega⟩,(((r1.2.plus r5.2).mono ?_).join ((r3.2.plus r4.2).mono ?_) _)⟩
 · show _≤sT l' (sT l' k)+sT l' k+1;omega
 · show _≤sT l' (sT l' k)+sT l' k+1;omega
theorem kt(a:NQ){l:Nat}(ha:aq l a):(aA a).length≤a.length:=by
 unfold aA;split
 · exact Nat.zero_le _
 have: ∀i,(fW i a).length≤a.length:=fun i=>by
  induction i with
  | zero =>
    unfold fW;split
    · exact Nat.zero_le _
    · rw[List.length_take];omega
  | succ i ih =>
    unfold fW;split
    · exact ih
    · rw[List.length_take];omega
 exact this _
theorem fk: ∀(l:Nat) {k:Nat} {rt:List NQ} {a b:NQ},aq l a→aq l b→cO rt→l≤rt.length→ay k a→ay k b→eF k rt→aq l (eY l rt a b)∧ay (sT l k) (eY l rt a b)
 | 0,k,rt,a,b,ha,hb,hrt,hl,sa,sb,sr=>xg (aS ha sa).1 (aS hb sb).1 hrt hl (aS ha sa).2 (aS hb sb).2 sr (fun l' h=>by omega)
 | l+1,k,rt,a,b,ha,hb,hrt,hl,sa,sb,sr=>xg (aS ha sa).1 (aS hb sb).1 hrt hl (aS ha sa).2 (aS hb sb).2 sr (fun l' e a' b' m hm h1 h2 h3 h4=>by
    obtain rfl:l=l':=by omega
    exact fk l h1 h2 hrt (by omega) h3 h4 (sr.mono hm))
theorem yS: ∀(l:Nat) {rt:List NQ} {a b:NQ},aq l a→aq l b→(eY l rt a b).length≤max a.length b.length
 | 0,rt,a,b,ha,hb=>by
   have h1:=kt a ha;have h2:=kt b hb;have h3:=uI (R:=fun _ _=>[]) (rt:=rt) (a:=aA a) (b:=aA b);show (jj _ rt _ _).length≤_;omega
 | l+1,rt,a,b,ha,hb=>by
   have h1:=kt a ha;have h2:=kt b hb;have h3:=uI (R:=eY l rt) (rt:=rt) (a:=aA a) (b:=aA b);show (jj _ rt _ _).length≤_;omega
set_option maxHeartbeats 1600000 in
theorem qe{l k:Nat}{R:NQ→NQ→NQ}{rt:List NQ}{xs:List D}{a b:NQ}(ha:aq l a)(hb:aq l b)(hrt:cO rt)(hl:l≤rt.length)(hl5:l≤5)(hxs: ∀j,j<rt.length→xs[j]?=some (af (rt.getD j [])))(sa:ay k a)(sb:ay k b)(sr:eF k rt)(hk:sT l k≤17300000000000)
  (hR: ∀l',l=l'+1→ ∀a' b' m,k≤m→aq l' a'→aq l' b'→ay m a'→ay m b'→sT l' m≤17300000000000→Pure Tryz.prog 122 [.ag [.sl 1 xs],af a',af b'] (af (R a' b'))∧(R a' b').length≤max a'.length b'.length∧aq l' (R a' b')∧ay (sT l' m) (R a' b')):
  Pure Tryz.prog 122 [.ag [.sl 1 xs],af a,af b] (af (jj R rt (aA a) (aA b))):=by
 refine qJ 105 Tryz.func122 rfl rfl rfl rfl (by kernel_rfl) (fun B F0 w0=>?_);have hk1:=sa.pos;have h2:=bI l k;have cs1:=kx a ha hl5;have cs2:=kx b hb hl5;obtain ⟨ha,sa⟩:=aS ha sa;obtain ⟨hb,sb⟩:=aS hb sb;generalize aA a=s at *;generalize aA b=t at *;have hla:=ha.len (by omega);have hlb:=hb.len (by omega);refine qX 2 rfl ?_;refine qK 1 rfl ?_;refine ab.call tok rfl rfl rfl rfl cs1 ?_;refine qU 1 rfl ?_;refine ab.call tok rfl rfl rfl rfl cs2 ?_;refine qU 2 rfl ?_;refine qK 4 rfl ?_;rw[List.length_map,List.length_map];refine qU 2 rfl ?_;rw[Gt];refine qI ?_;refine qX 2 rfl ?_;rw[List.length_map];refine qU 1 rfl ?_;unfold jj;by_cases h0:s.length=0
 · have h00:s.length=0∨t.length=0:= .inl h0;rw[beq_iff_eq.2 (show (s.length:Int)=0 by omega),if_pos h00];refine qU 5 rfl ?_;refine ab.nil ?_;refine AW.aG rfl ?_;refine qX 1 rfl ?_;exact qN rfl
 rw[beq_eq_false_iff_ne.2 (show (s.length:Int)≠0 by omega)];refine qU 3 rfl ?_;rw[List.length_map];refine qU 1 rfl ?_;by_cases h01:t.length=0
 · have h00:s.length=0∨t.length=0:= .inr h01;rw[beq_iff_eq.2 (show (t.length:Int)=0 by omega),if_pos h00];refine qU 1 rfl ?_;refine ab.nil ?_;refine AW.aG rfl ?_;refine qX 1 rfl ?_;exact qN rfl
 have h00: ¬(s.length=0∨t.length=0):=fun h=>h.elim h0 h01;rw[beq_eq_false_iff_ne.2 (show (t.length:Int)≠0 by omega),if_neg h00];refine qU 1 rfl ?_;refine ab.nil ?_;refine AW.aB rfl ?_;refine AW.skip (AW.seq (AW.seq (AW.region ?_)));obtain ⟨n,hn⟩: ∃n,n=max s.length t.length:=⟨_,rfl⟩;rw[← hn];refine qU 2 rfl ?_;by_cases h1:n=1
 · rw[if_pos h1,beq_iff_eq.2 (show (n:Int)=1 by omega)];have g1:=kY (r:=s) (i:=0) (by omega);have g2:=kY (r:=t) (i:=0) (by omega);have cm:=yY (Qr (s.getD 0 0)) (Qr (t.getD 0 0)) (k:=k) (j8 _ (sa 0)) (j8 _ (sb 0)) (by omega);rw[c9,c9] at cm;refine ab.nil ?_;refine AW.aG rfl ?_;refine AW.seq ?_;refine AW.draw aM 8 (by kernel_rfl) ?_;refine qP 1 rfl ?_;refine ae.idx tok (Qr (s.getD 0 0)).D rfl rfl rfl rfl rfl (Int.le_refl _) g1 ?_;refine qP 2 rfl ?_;refine ae.idx tok (Qr (t.getD 0 0)).D rfl rfl rfl rfl rfl (Int.le_refl _) g2 ?_;refine qP 1 rfl ?_;refine ae.call tok rfl rfl rfl rfl rfl cm ?_;refine ae.gm tok rfl rfl rfl rfl rfl rfl ?_;refine ae.nil ?_;refine qU 1 rfl ?_;exact qN rfl
 rw[if_neg h1,beq_eq_false_iff_ne.2 (show (n:Int)≠1 by omega)];refine ab.nil ?_;refine AW.aB rfl ?_;refine AW.skip ?_
 obtain ⟨i,hi,hni⟩: ∃i,i≤l∧n=2^i:=by
  rcases ha with e | ⟨i,hi,e⟩
  · exact absurd e h0
  rcases hb with e2 | ⟨k,hk,e2⟩
  · exact absurd e2 h01
  by_cases h:s.length≤t.length
  · exact⟨k,hk,by rw[hn,Nat.max_eq_right h,e2]⟩
  · exact⟨i,hi,by rw[hn,Nat.max_eq_left (by omega),e]⟩
 have hsn:s.length≤n:=by omega
 have htn:t.length≤n:=by omega
 have hn9:n≤1024:=by omega
 clear hn;have ue:i≠0:=fun e=>h1 (by rw[hni,e]);obtain ⟨j,rfl⟩: ∃j,i=j+1:=⟨i-1,by omega⟩;obtain ⟨l',rfl⟩: ∃l',l=l'+1:=⟨l-1,by omega⟩;have hj:j≤l':=by omega
 have hR:=fun a' b' m h1 h2 h3 h4 h5=>hR l' rfl a' b' m h1 h2 h3 h4 h5;have hs0:=bI l' k;have hs1:=bI l' (sT l' k);have hk:sT l' (sT l' k)+sT l' k+1≤17300000000000:=hk;have cw1:=kv s n hsn (by omega);have cw2:=kv t n htn (by omega);have cp:=eS hni (by omega);have wa:=bf s n;have wb:=bf t n;have sa:=sa.wide n;have sb:=sb.wide n;generalize aX s n=A at *;generalize aX t n=B at *;have e0:=jQ j;have hlog:n.log2-1=j:=by rw[hni,Nat.log2_two_pow];omega
 obtain ⟨e1,e2,e3⟩:=bj (wa.trans hni);obtain ⟨f1,f2,f3⟩:=bj (wb.trans hni);rw[hlog];obtain ⟨h,hh⟩: ∃h,h=n / 2:=⟨_,rfl⟩
 have hnh:n=h+h:=by
  have:2^(j+1)=2^j*2:=Nat.pow_succ ..;omega
 have hh2:h=2^j:=by rw[hh,hni,e0]
 rw[wa,← hh] at e1 e2;rw[wb,← hh] at f1 f2;rw[← hh];have hx:aq l' (A.take h):= .inr ⟨j,hj,e1⟩;have hy:aq l' (A.drop h):= .inr ⟨j,hj,e2⟩;have hu:aq l' (B.take h):= .inr ⟨j,hj,f1⟩;have hv:aq l' (B.drop h):= .inr ⟨j,hj,f2⟩;have hdl:=hrt j (by omega);have hd:aq l' (rt.getD j []):= .inr ⟨j,hj,hdl⟩;have r1:=hR _ _ k (Nat.le_refl _) hx hu (sa.take _) (sb.take _) (by omega);have r2:=hR _ _ k (Nat.le_refl _) hy hv (sa.drop _) (sb.drop _) (by omega);have r3:=hR _ _ k (Nat.le_refl _) hx hv (sa.take _) (sb.drop _) (by omega);have r4:=hR _ _ k (Nat.le_refl _) hy hu (sa.drop _) (sb.take _) (by omega);have r5:=hR _ _ (sT l' k) (by omega) r2.2.2.1 hd r2.2.2.2 ((sr _).mono (by omega)) (by omega);have n1:(R (A.take h) (B.take h)).length≤h:=Nat.le_trans r1.2.1 (Nat.max_le.2 ⟨by omega,by omega⟩);have n2:(R (A.drop h) (B.drop h)).length≤h:=Nat.le_trans r2.2.1 (Nat.max_le.2 ⟨by omega,by omega⟩);have n3:(R (A.take h) (B.drop h)).length≤h:=Nat.le_trans r3.2.1 (Nat.max_le.2 ⟨by omega,by omega⟩);have n4:(R (A.drop h) (B.take h)).length≤h:=Nat.le_trans r4.2.1 (Nat.max_le.2 ⟨by omega,by omega⟩);have n5:(R (R (A.drop h) (B.drop h)) (rt.getD j [])).length≤h:=Nat.le_trans r5.2.1 (Nat.max_le.2 ⟨n2,by omega⟩);have r1:=And.intro r1.1 r1.2.2;have r2:=And.intro r2.1 r2.2.2;have r3:=And.intro r3.1 r3.2.2;have r4:=And.intro r4.1 r4.2.2;have r5:=And.intro r5.1 r5.2.2;have p1:=lE (R (A.take h) (B.take h)) (R (R (A.drop h) (B.drop h)) (rt.getD j [])) (k:=sT l' (sT l' k)) (r1.2.2.mono (by omega)) r5.2.2 (by omega) (by omega) (by omega);have p2:=lE (R (A.take h) (B.drop h)) (R (A.drop h) (B.take h)) (k:=sT l' k) r3.2.2 r4.2.2 (by omega) (by omega) (by omega);have q1:(aK (R (A.take h) (B.take h)) (R (R (A.drop h) (B.drop h)) (rt.getD j []))).length≤h:=by rw[iC];exact Nat.max_le.2 ⟨n1,n5⟩
 have q2:(aK (R (A.take h) (B.drop h)) (R (A.drop h) (B.take h))).length≤h:=by rw[iC];exact Nat.max_le.2 ⟨n3,n4⟩
 have cw3:=jl (aK (R (A.take h) (B.take h)) (R (R (A.drop h) (B.drop h)) (rt.getD j []))) h q1 (by omega);have cw4:=jl (aK (R (A.take h) (B.drop h)) (R (A.drop h) (B.take h))) h q2 (by omega);unfold dw;refine qX 2 rfl ?_;refine ab.call tok rfl rfl rfl rfl cw1 ?_;refine qU 2 rfl ?_;refine ab.call tok rfl rfl rfl rfl cw2 ?_;refine qU 2 rfl ?_;refine qK 1 rfl ?_;refine ab.call tok rfl rfl rfl rfl cp ?_;refine qU 5 rfl ?_;refine qI ?_;refine AW.draw aM 19 (by kernel_rfl) ?_;refine qP 2 rfl ?_;refine ae.div tok rfl rfl rfl rfl rfl (by decide) ?_;rw[fT _ (by omega),← hh];refine ae.fx tok (a:=A) (A.take h) rfl rfl rfl rfl rfl trivial (Int.natCast_nonneg h) (Nat.zero_le _) (show h≤A.length by omega) rfl ?_;refine qP 2 rfl ?_;refine ae.div tok rfl rfl rfl rfl rfl (by decide) ?_;rw[fT _ (by omega),← hh];refine ae.fx tok (a:=A) (A.drop h) rfl rfl rfl rfl rfl (Int.natCast_nonneg h) trivial (show h≤A.length by omega) (Nat.le_refl _) (by show (A.take A.length).drop h=_;rw[List.take_length]) ?_;refine qP 2 rfl ?_;refine ae.div tok rfl rfl rfl rfl rfl (by decide) ?_;rw[fT _ (by omega),← hh];refine ae.fx tok (a:=B) (B.take h) rfl rfl rfl rfl rfl trivial (Int.natCast_nonneg h) (Nat.zero_le _) (show h≤B.length by omega) rfl ?_;refine qP 2 rfl ?_;refine ae.div tok rfl rfl rfl rfl rfl (by decide) ?_;rw[fT _ (by omega),← hh];refine ae.fx tok (a:=B) (B.drop h) rfl rfl rfl rfl rfl (Int.natCast_nonneg h) trivial (show h≤B.length by omega) (Nat.le_refl _) (by show (B.take B.length).drop h=_;rw[List.take_length]) ?_;refine qP 3 rfl ?_;refine ae.nil ?_;refine qU 1 rfl ?_;refine ab.nil ?_;refine AW.bo [3,7,8,10,11,12,13] ?_;show AW _ _ _ _ _ _ _ [(3,.bx [.sl 1 xs]),(7,.d (dI n)),(8,.d (dI (j+1:Nat))),(10,.d (af (A.take h))),(11,.d (af (A.drop h))),(12,.d (af (B.take h))),(13,.d (af (B.drop h)))];refine AW.seq ?_;refine AW.draw aM 17 (by kernel_rfl) ?_;refine qP 3 rfl ?_;refine ae.call tok rfl rfl rfl rfl rfl r1.1 ?_;refine qP 4 rfl ?_;refine ae.call tok rfl rfl rfl rfl rfl r2.1 ?_;refine qP 4 rfl ?_;rw[aD (x:=((j+1:Nat):Int) -1) (by omega) (by omega),show ((j+1:Nat):Int) -1=(j:Int) by omega];refine ae.idx tok (af (rt.getD j [])) rfl rfl rfl rfl rfl (Int.natCast_nonneg j) (hxs j (by omega)) ?_;refine qP 1 rfl ?_;refine ae.call tok rfl rfl rfl rfl rfl r5.1 ?_;refine ae.call tok rfl rfl rfl rfl rfl p1 ?_;refine ae.nil ?_;refine qU 1 rfl ?_;refine qI ?_;refine AW.draw aM 9 (by kernel_rfl) ?_;refine qP 3 rfl ?_;refine ae.call tok rfl rfl rfl rfl rfl r3.1 ?_;refine qP 3 rfl ?_;refine ae.call tok rfl rfl rfl rfl rfl r4.1 ?_;refine ae.call tok rfl rfl rfl rfl rfl p2 ?_;refine ae.nil ?_;refine qU 1 rfl ?_;refine ab.nil ?_;have l1:=bf (aK (R (A.take h) (B.take h)) (R (R (A.drop h) (B.drop h)) (rt.getD j []))) h;have l2:=bf (aK (R (A.take h) (B.drop h)) (R (A.drop h) (B.take h))) h;generalize aK (R (A.take h) (B.take h)) (R (R (A.drop h) (B.drop h)) (rt.getD j []))=P1 at *;generalize aK (R (A.take h) (B.drop h)) (R (A.drop h) (B.take h))=P2 at *;refine AW.bo [7,14,15] ?_;show AW _ _ _ _ _ _ _ [(7,.d (dI n)),(14,.d (af P1)),(15,.d (af P2))];generalize aX P1 h=wa at *;generalize aX P2 h=wb at *;refine AW.seq ?_;refine AZ.aw ?_;refine AZ.region ?_;refine ai.cut 3 rfl (fun B1 F1 w1=>?_);refine qU 2 rfl ?_;refine ab.div tok rfl rfl rfl rfl (by decide) ?_;rw[fT _ (by omega),← hh];refine ab.nil ⟨rfl,?_⟩;refine ai.lZ tok [] rfl rfl rfl rfl rfl List.nodup_nil rfl cw3 (fun _ _ _=>Nat.zero_le _) (fun res R1 hP=>?_);obtain ⟨V1,rfl,rfl⟩:=hP;refine ai.cut 3 rfl (fun B1 F1 w1=>?_);refine qU 2 rfl ?_;refine ab.div tok rfl rfl rfl rfl (by decide) ?_;rw[fT _ (by omega),← hh];refine ab.nil ⟨rfl,?_⟩;refine ai.lZ tok [] rfl rfl rfl rfl rfl List.nodup_nil rfl cw4 (fun _ _ _=>Nat.zero_le _) (fun res R1 hP=>?_);obtain ⟨V2,rfl,rfl⟩:=hP;refine ai.to [99,103] [(99,.d (.v V1)),(103,.d (.v V2))] rfl ?_;refine ai.eV 99 0 (V:=V1) (av:= .ow 111 (dP wa)) rfl rfl rfl ?_;refine ai.to [99,103] [(99,.ow 111 (dP wa)),(103,.d (.v V2))] rfl ?_;refine ai.eV 103 1 (V:=V2) (av:= .ow 111 (dP wb)) rfl rfl rfl ?_;refine ai.to [99,103] [(99,.ow 111 (dP wa)),(103,.ow 111 (dP wb))] rfl ?_;refine ai.cut 2 rfl (fun B1 F1 w1=>?_);refine ab.gG tok 103 rfl rfl ?_;refine ab.k7 tok rfl rfl rfl rfl rfl rfl (by rw[List.length_map,List.length_map,l1,l2];show (_+_)*56≤_;omega) (by rw[List.length_map,List.length_map,l1,l2];omega) ?_;refine qU 1 rfl ?_;refine ab.nil ⟨rfl,?_⟩;refine ai.nil ?_;rw[show dP wa++dP wb=dP (wa++wb) from List.map_append.symm];exact AW.ret rfl
theorem ig: ∀(l:Nat) {k:Nat} {rt:List NQ} {xs:List D} {a b:NQ},aq l a→aq l b→cO rt→l≤rt.length→l≤5→(∀j,j<rt.length→xs[j]?=some (af (rt.getD j [])))→ay k a→ay k b→eF k rt→sT l k≤17300000000000→Pure Tryz.prog 122 [.ag [.sl 1 xs],af a,af b] (af (eY l rt a b))
 | 0,k,rt,xs,a,b,ha,hb,hrt,hl,hl5,hxs,sa,sb,sr,hk=>qe ha hb hrt hl hl5 hxs sa sb sr hk (fun l' h=>by omega)
 | l+1,k,rt,xs,a,b,ha,hb,hrt,hl,hl5,hxs,sa,sb,sr,hk=>qe ha hb hrt hl hl5 hxs sa sb sr hk (fun l' e a' b' m hm h1 h2 h3 h4 h5=>by
    obtain rfl:l=l':=by omega
    exact⟨ig l h1 h2 hrt (by omega) (by omega) hxs h3 h4 (sr.mono hm) h5,yS l h1 h2,fk l h1 h2 hrt (by omega) h3 h4 (sr.mono hm)⟩)
end Lift
namespace Lift
open Go Go.Proofs
theorem Cm{l k j:Nat}{rt:List NQ}{a:NQ}(hj:j≤l)(ha:a.length=2^(j+1))(hrt:cO rt)(hl:l<rt.length)(sa:ay k a)(sr:eF k rt):aq l (jy l rt a)∧ay (sT (l+1) k) (jy l rt a):=by
 obtain ⟨e1,e2,e3⟩:=bj ha;have hx:aq l (a.take (a.length / 2)):= .inr ⟨j,hj,e1⟩;have hy:aq l (a.drop (a.length / 2)):= .inr ⟨j,hj,e2⟩;have hlog:a.length.log2-1=j:=by rw[ha,Nat.log2_two_pow];omega
 have hd:aq l (rt.getD j []):= .inr ⟨j,hj,hrt j (by omega)⟩;have h0:=bI l k;have h1:=bI l (sT l k);have r1:=fk l hx hx hrt (by omega) (sa.take _) (sa.take _) sr;have r2:=fk l hy hy hrt (by omega) (sa.drop _) (sa.drop _) sr;have r3:=fk l r2.1 hd hrt (by omega) r2.2 ((sr _).mono (by omega)) (sr.mono (by omega));unfold jy;rw[hlog];refine⟨r1.1.plus r3.1.minus,(r1.2.plus r3.2.minus).mono ?_⟩;show _≤sT l (sT l k)+sT l k+1;omega
theorem xo{l k j:Nat}{rt:List NQ}{xs:List D}{a:NQ}(hj:j≤l)(ha:a.length=2^(j+1))(hrt:cO rt)(hl:l<rt.length)(hl5:l+1≤5)(hxs: ∀j,j<rt.length→xs[j]?=some (af (rt.getD j [])))(sa:ay k a)(sr:eF k rt)(hk:sT (l+1) k≤17300000000000):
  Pure Tryz.prog 138 [.ag [.sl 1 xs],af a,dI a.length] (af (jy l rt a)):=by
 refine qJ 45 Tryz.func138 rfl rfl rfl rfl (by kernel_rfl) (fun B F0 w0=>?_);obtain ⟨e1,e2,e3⟩:=bj ha;have hx:aq l (a.take (a.length / 2)):= .inr ⟨j,hj,e1⟩;have hy:aq l (a.drop (a.length / 2)):= .inr ⟨j,hj,e2⟩;have hlog:a.length.log2-1=j:=by rw[ha,Nat.log2_two_pow];omega
 have hd:aq l (rt.getD j []):= .inr ⟨j,hj,hrt j (by omega)⟩;have h0:=bI l k;have h1:=bI l (sT l k);have hk:sT l (sT l k)+sT l k+1≤17300000000000:=hk;have hp:2^(j+1)≤2^10:=Nat.pow_le_pow_right (by decide) (by omega);have r1:=fk l hx hx hrt (by omega) (sa.take _) (sa.take _) sr;have r2:=fk l hy hy hrt (by omega) (sa.drop _) (sa.drop _) sr;have r3:=fk l r2.1 hd hrt (by omega) r2.2 ((sr _).mono (by omega)) (sr.mono (by omega));have c1:=ig l hx hx hrt (by omega) (by omega) hxs (sa.take _) (sa.take _) sr (by omega);have c2:=ig l hy hy hrt (by omega) (by omega) hxs (sa.drop _) (sa.drop _) sr (by omega);have c3:=ig l r2.1 hd hrt (by omega) (by omega) hxs r2.2 ((sr j).mono (by omega)) (sr.mono (by omega)) (by omega);have n1:=r1.1.len (by omega);have n3:=r3.1.len (by omega);have c4:=xp _ r3.2 (by omega) (by omega);have c5:=lE _ _ (k:=sT l (sT l k)) (r1.2.mono (by omega)) r3.2.minus (by omega) (by omega) (by rw[gb];omega);have cw:=kv a a.length (Nat.le_refl _) (by omega);rw[m8] at cw;have cp:=eS ha (by omega);unfold jy;rw[hlog];obtain ⟨n,hn⟩: ∃n,n=a.length / 2:=⟨_,rfl⟩;rw[← hn] at e1 e2 e3 hx hy c1 c2 c3 c4 c5 ⊢;refine qX 2 rfl ?_;refine qK 2 rfl ?_;refine ab.call tok rfl rfl rfl rfl cw ?_;refine qU 1 rfl ?_;refine qK 1 rfl ?_;refine ab.call tok rfl rfl rfl rfl cp ?_;refine qU 5 rfl ?_;refine qI ?_;refine AW.draw aM 9 (by kernel_rfl) ?_;refine qP 2 rfl ?_;refine ae.div tok rfl rfl rfl rfl rfl (by decide) ?_;rw[fT _ (by omega),← hn];refine ae.fx tok (a:=a) (a.take n) rfl rfl rfl rfl rfl trivial (Int.natCast_nonneg n) (Nat.zero_le _) (show n≤a.length by omega) rfl ?_;refine qP 2 rfl ?_;refine ae.div tok rfl rfl rfl rfl rfl (by decide) ?_;rw[fT _ (by omega),← hn];refine ae.fx tok (a:=a) (a.drop n) rfl rfl rfl rfl rfl (Int.natCast_nonneg n) trivial (show n≤a.length by omega) (Nat.le_refl _) (by show (a.take a.length).drop n=_;rw[List.take_length]) ?_;refine qP 1 rfl ?_;refine ae.nil ?_;refine qU 1 rfl ?_;refine qI ?_;refine AW.draw aM 18 (by kernel_rfl) ?_;refine qP 3 rfl ?_;refine ae.call tok rfl rfl rfl rfl rfl c1 ?_;refine qP 4 rfl ?_;refine ae.call tok rfl rfl rfl rfl rfl c2 ?_;refine qP 4 rfl ?_;rw[aD (x:=((j+1:Nat):Int) -1) (by omega) (by omega),show ((j+1:Nat):Int) -1=(j:Int) by omega];refine ae.idx tok (af (rt.getD j [])) rfl rfl rfl rfl rfl (Int.natCast_nonneg j) (hxs j (by omega)) ?_;refine qP 1 rfl ?_;refine ae.call tok rfl rfl rfl rfl rfl c3 ?_;refine ae.call tok rfl rfl rfl rfl rfl c4 ?_;refine ae.call tok rfl rfl rfl rfl rfl c5 ?_;refine ae.nil ?_;refine qU 1 rfl ?_;exact qN rfl
theorem uH{R:NQ→Int}{N:NQ→NQ}{rt:List NQ}{a:NQ}(hR: ∀b,uv (R b)):uv (mU R N rt a):=by
 unfold mU;split
 · exact .inl rfl
 split
 · exact fj _
 split
 · exact hR _
 split
 · exact kl (hR _) (hR _)
 · exact kl (hR _) (hR _)
theorem rZ: ∀(l:Nat) (rt:List NQ) (a:NQ),uv (px l rt a)
 | 0,rt,a=>uH (fun _=> .inl rfl)
 | l+1,rt,a=>uH (fun b=>rZ l rt b)
set_option maxHeartbeats 1600000 in
theorem rY{l k:Nat}{R:NQ→Int}{N:NQ→NQ}{rt:List NQ}{xs:List D}{a:NQ}(ha:aq l a)(hl5:l≤5)(hrt:cO rt)(hl:l≤rt.length)(hxs: ∀j,j<rt.length→xs[j]?=some (af (rt.getD j [])))(sa:ay k a)(sr:eF k rt)(hok:pE l k)
  (hR: ∀l',l=l'+1→ ∀b m,aq l' b→ay m b→k≤m→pE l' m→Pure Tryz.prog 100 [.ag [.sl 1 xs],af b] (dI (R b))) (hT: ∀b,uv (R b))
  (hN: ∀l',l=l'+1→ ∀b j,j≤l'→b.length=2^(j+1)→ay k b→Pure Tryz.prog 138 [.ag [.sl 1 xs],af b,dI b.length] (af (N b))∧aq l' (N b)∧ay (sT l k) (N b)):
  Pure Tryz.prog 100 [.ag [.sl 1 xs],af a] (dI (mU R N rt (aA a))):=by
 refine qJ 70 Tryz.func100 rfl rfl rfl rfl (by kernel_rfl) (fun B F0 w0=>?_);have hk:=vQ hok;have cs:=kx a ha hl5;obtain ⟨ha,sa⟩:=aS ha sa;generalize aA a=b at cs ha sa ⊢;have hlb:=ha.len (by omega);unfold mU;refine qX 2 rfl ?_;refine qK 1 rfl ?_;refine ab.call tok rfl rfl rfl rfl cs ?_;refine qU 1 rfl ?_;refine qI ?_;refine qX 2 rfl ?_;rw[List.length_map];refine qU 1 rfl ?_;refine ab.nil ?_;by_cases h0:b.length=0
 · rw[if_pos h0,h0];refine AW.aG rfl ?_;refine qX 1 rfl ?_;exact qN rfl
 rw[if_neg h0,beq_eq_false_iff_ne.2 (show (b.length:Int)≠0 by omega)];refine AW.aB rfl ?_;refine AW.skip ?_;refine qX 2 rfl ?_;rw[List.length_map];refine qU 1 rfl ?_;refine qI ?_;refine qX 2 rfl ?_;refine ab.nil ?_;by_cases h1:b.length=1
 · have g:=kY (r:=b) (i:=0) (by omega);have cq:=xq (Qr (b.getD 0 0)) (j8 _ (sa 0)) (by omega);rw[c9,zU] at cq;rw[if_pos h1,h1];refine AW.aG rfl ?_;refine qX 1 rfl ?_;refine ab.idx tok (Qr (b.getD 0 0)).D rfl rfl rfl rfl (Int.le_refl _) g ?_;refine qU 1 rfl ?_;refine ab.call tok rfl rfl rfl rfl cq ?_;refine qU 1 rfl ?_;exact qN rfl
 rw[if_neg h1,beq_eq_false_iff_ne.2 (show (b.length:Int)≠1 by omega)];refine AW.aB rfl ?_;refine AW.skip ?_
 obtain ⟨i,hi,hla2⟩: ∃i,i≤l∧b.length=2^i:=by
  rcases ha with e | e
  · omega
  · exact e
 have ue:i≠0:=fun e=>h1 (by rw[hla2,e]);obtain ⟨j,rfl⟩: ∃j,i=j+1:=⟨i-1,by omega⟩;obtain ⟨l',rfl⟩: ∃l',l=l'+1:=⟨l-1,by omega⟩;have hj:j≤l':=by omega
 have hN:=hN l' rfl b j hj hla2 sa;have hR:=fun b m h1 h2 h3 h4=>hR l' rfl b m h1 h2 h3 h4;obtain ⟨e1,e2,e3⟩:=bj hla2;have hx:aq l' (b.take (b.length / 2)):= .inr ⟨j,hj,e1⟩;have hy:aq l' (b.drop (b.length / 2)):= .inr ⟨j,hj,e2⟩;have hlog:b.length.log2-1=j:=by rw[hla2,Nat.log2_two_pow];omega
 have hd:aq l' (rt.getD j []):= .inr ⟨j,hj,hrt j (by omega)⟩;have hk2:=bI (l'+1) k;have r1:=hR _ k hx (sa.take _) (Nat.le_refl _) (iP hok);have r2:=hR _ k hy (sa.drop _) (Nat.le_refl _) (iP hok);have r3:=hR _ k hd (sr j) (Nat.le_refl _) (iP hok);have r4:=hR _ _ hN.2.1 hN.2.2 (by omega) hok.2;have t1:=hT (b.take (b.length / 2));have t2:=kl (hT (b.drop (b.length / 2))) (hT (rt.getD j []));have t4:=kl t1 (hT (N b));have cn:=hN.1;have cp:=eS hla2 (by omega);rw[hlog];obtain ⟨n,hn⟩: ∃n,n=b.length / 2:=⟨_,rfl⟩;rw[← hn] at e1 e2 e3 hx hy r1 r2 t1 t2 t4 ⊢;generalize R (b.take n)=x at r1 t1 t4 ⊢;generalize R (b.drop n)=y at r2 t2 ⊢;generalize R (rt.getD j [])=z at r3 t2 ⊢;generalize R (N b)=u at r4 t4 ⊢;refine qX 1 rfl ?_;refine ab.call tok rfl rfl rfl rfl cp ?_;refine qU 5 rfl ?_;refine qK 4 rfl ?_;rw[aD (x:=((j+1:Nat):Int) -1) (by omega) (by omega),show ((j+1:Nat):Int) -1=(j:Int) by omega];refine ab.idx tok (af (rt.getD j [])) rfl rfl rfl rfl (Int.natCast_nonneg j) (hxs j (by omega)) ?_;refine qU 2 rfl ?_;refine qI ?_;refine AW.draw aM 17 (by kernel_rfl) ?_;refine qP 3 rfl ?_;refine ae.div tok rfl rfl rfl rfl rfl (by decide) ?_;rw[fT _ (by omega),← hn];refine ae.fx tok (a:=b) (b.take n) rfl rfl rfl rfl rfl trivial (Int.natCast_nonneg n) (Nat.zero_le _) (show n≤b.length by omega) rfl ?_;refine ae.call tok rfl rfl rfl rfl rfl r1 ?_;refine qP 3 rfl ?_;refine ae.div tok rfl rfl rfl rfl rfl (by decide) ?_;rw[fT _ (by omega),← hn];refine ae.fx tok (a:=b) (b.drop n) rfl rfl rfl rfl rfl (Int.natCast_nonneg n) trivial (show n≤b.length by omega) (Nat.le_refl _) (by show (b.take b.length).drop n=_;rw[List.take_length]) ?_;refine ae.call tok rfl rfl rfl rfl rfl r2 ?_;refine qP 2 rfl ?_;refine ae.call tok rfl rfl rfl rfl rfl r3 ?_;refine qP 1 rfl ?_;rw[aD (x:=y*z) (by unfold uv at t2;omega) (by unfold uv at t2;omega)];refine qP 1 rfl ?_;refine ae.nil ?_;refine qU 1 rfl ?_;refine ab.nil ?_;refine AW.bo [1,2,5,9,10] ?_;show AW _ _ _ _ _ _ _ [(1,.d (af b)),(2,.bx [.sl 1 xs]),(5,.d (dI b.length)),(9,.d (.v (.int .i64 x))),(10,.d (.v (.int .i64 (y*z))))];generalize y*z=yz at t2 ⊢;refine AW.seq ?_;refine qX 3 rfl ?_;by_cases hxy:x=yz
 · have hor:x=yz∨yz=0:= .inl hxy;rw[if_pos hor,beq_iff_eq.2 hxy];refine qU 4 rfl ?_;refine ab.nil ?_;refine AW.aG rfl ?_;refine qX 2 rfl ?_;exact qN rfl
 rw[beq_eq_false_iff_ne.2 hxy];refine qU 3 rfl ?_;by_cases hy0:yz=0
 · have hor:x=yz∨yz=0:= .inr hy0;rw[if_pos hor,beq_iff_eq.2 hy0];refine qU 1 rfl ?_;refine ab.nil ?_;refine AW.aG rfl ?_;refine qX 2 rfl ?_;exact qN rfl
 have hor: ¬(x=yz∨yz=0):=fun h=>h.elim hxy hy0;rw[if_neg hor,beq_eq_false_iff_ne.2 hy0];refine qU 1 rfl ?_;refine ab.nil ?_;refine AW.aB rfl ?_;refine AW.skip (AW.seq ?_);refine qX 2 rfl ?_;refine ab.nil ?_;by_cases hx0:x=0
 · rw[if_pos hx0,beq_iff_eq.2 hx0];refine AW.aG rfl ?_;refine qX 2 rfl ?_;exact qN rfl
 rw[if_neg hx0,beq_eq_false_iff_ne.2 hx0];refine AW.aB rfl ?_;refine AW.skip (AW.seq ?_);refine AW.draw aM 8 (by kernel_rfl) ?_;refine qP 5 rfl ?_;refine ae.call tok rfl rfl rfl rfl rfl cn ?_;refine ae.call tok rfl rfl rfl rfl rfl r4 ?_;refine qP 1 rfl ?_;rw[aD (x:=x*u) (by unfold uv at t4;omega) (by unfold uv at t4;omega)];refine ae.nil ?_;refine qU 1 rfl ?_;exact qN rfl
theorem qi: ∀(l:Nat) {k:Nat} {rt:List NQ} {xs:List D} {a:NQ},aq l a→l≤5→cO rt→l≤rt.length→(∀j,j<rt.length→xs[j]?=some (af (rt.getD j [])))→ay k a→eF k rt→pE l k→Pure Tryz.prog 100 [.ag [.sl 1 xs],af a] (dI (px l rt a))
 | 0,k,rt,xs,a,ha,hl5,hrt,hl,hxs,sa,sr,hok=>rY ha hl5 hrt hl hxs sa sr hok (fun l' h=>by omega) (fun _=> .inl rfl) (fun l' h=>by omega)
 | l+1,k,rt,xs,a,ha,hl5,hrt,hl,hxs,sa,sr,hok=>rY ha hl5 hrt hl hxs sa sr hok (fun l' e b m h1 h2 h3 h4=>by
    obtain rfl:l=l':=by omega
    exact qi l h1 (by omega) hrt (by omega) hxs h2 (sr.mono h3) h4) (rZ l rt) (fun l' e b j h1 h2 h3=>by
    obtain rfl:l=l':=by omega
    exact⟨xo h1 h2 hrt (by omega) (by omega) hxs h3 sr hok.1,Cm h1 h2 hrt (by omega) h3 sr⟩)
end Lift
namespace Lift
open Go Go.Proofs
theorem Gh{v:List NQ}(ro:cO v)(ps: ∀k,k<v.length→ ¬dG k (v.take k) (v.getD k [])<0):o8 v:=fun j hj=>by
 have h:=ps j hj
 have e: ∀i,i<j→(v.take j).getD i []=v.getD i []:=fun i hi=>by
  rw[List.getD_eq_getElem?_getD,List.getElem?_take_of_lt hi,List.getD_eq_getElem?_getD]
 have ro2:cO (v.take j):=fun i hi=>by
  rw[List.length_take] at hi;rw[e i (by omega)];exact ro i (by omega)
 have lt:aq j (v.getD j []):= .inr ⟨j,Nat.le_refl _,ro j hj⟩;rw[fC j lt ro2 (by rw[List.length_take];omega)] at h
 have key: ∀(l:Nat) (a:Cf),l≤j→aV (v.take j) l a=aV v l a∧ ∀b:Cf,mulC (v.take j) l a b=mulC v l a b:=by
  intro l
  induction l with
  | zero=>exact fun a _=>⟨rfl,fun b=>rfl⟩
  | succ l ih =>
    intro a hl;have hm: ∀x y:Cf,mulC (v.take j) l x y=mulC v l x y:=fun x y=>(ih x (by omega)).2 y;have hs: ∀x:Cf,aV (v.take j) l x=aV v l x:=fun x=>(ih x (by omega)).1;refine⟨?_,fun b=>?_⟩
    · unfold aV bS;simp only[hm,hs,e l (by omega)]
    · funext i;show (if i<2^l then mulC (v.take j) l a b i+mulC (v.take j) l (mulC (v.take j) l (bH l a) (bH l b)) (cf ((v.take j).getD l [])) i else mulC (v.take j) l a (bH l b) (i-2^l)+mulC (v.take j) l (bH l a) b (i-2^l))=_;simp only[hm,e l (by omega)];rfl
 rw[(key j _ (Nat.le_refl _)).1] at h;omega
theorem Cu{rt:List (List RD)}{i:Nat}(hi:i≤rt.length)(h: ∀j,j<i→tI rt j=0):o8 ((rt.take i).map bg):=Gh (kj hi h) (fun k hk=>by
 rw[eQ hi] at hk;have h1:=(fY (h k hk)).2.2;rw[nV hk,← List.map_take,List.take_take,Nat.min_eq_left (by omega)]
 exact h1)
theorem B9{rt:List (List RD)}{i:Nat}(hi:i≤rt.length)(h: ∀j,j<i→tI rt j=0){a:NQ}(ha:aq i a):px i ((rt.take i).map bg) a=dG i ((rt.take i).map bg) a:=by
 rw[lA i ha (kj hi h) (Cu hi h) (by rw[eQ hi];exact Nat.le_refl _),fC i ha (kj hi h) (by rw[eQ hi];exact Nat.le_refl _)]
theorem Cl{rt:List (List RD)}{k m:Nat}(hw: ∀i,i<k→wN m (rt.getD i []))(hk:k≤rt.length)(h: ∀j,j<k→jo (rt.getD j [])=true): ∀j,j<((rt.take k).map bg).length→(rt.map dD)[j]?=some (af (((rt.take k).map bg).getD j [])):=fun j hj=>by
 rw[eQ hk] at hj;have hj2:j<rt.length:=by omega
 rw[nV hj,← jS (hw j hj) (h j hj)];simp[hj2]
theorem vG(rt:List (List RD)){m:Nat}(hw: ∀i,i<rt.length→(rt.getD i []).length=2^i→wN m (rt.getD i []))(h1:1≤m)(hl:rt.length≤1000000)(hll: ∀i,i<rt.length→(rt.getD i []).length≤4398046511104)(hok:rt.length≤5→pE rt.length m):Pure Tryz.prog 56 [TrD rt] (dI (dc rt)):=by
 refine qJ 34 Tryz.func56 rfl rfl rfl rfl (by kernel_rfl) (fun B F0 w0=>?_);unfold dc;obtain ⟨E,hE⟩: ∃E,fE (tI rt) (rt.length-0) 0=E:=⟨_,rfl⟩;rw[hE];refine qX 2 rfl ?_;refine qI ?_;refine qX 3 rfl ?_;rw[List.length_map];refine qU 1 rfl ?_;refine ab.nil ?_;by_cases h5:5<rt.length
 · rw[if_pos h5,decide_eq_true (show (5:Int)<(rt.length:Int) by omega)];refine AW.aG rfl ?_;refine qX 1 rfl ?_;exact qN rfl
 rw[if_neg h5,decide_eq_false (show ¬(5:Int)<(rt.length:Int) by omega)];have hok:=hok (by omega);have hm7:=vQ hok;refine AW.aB rfl ?_;refine AW.skip (AW.seq ?_);refine qX 3 rfl ?_;rw[List.length_map];refine qU 1 rfl ?_;refine ab.nil ?_;refine AW.block ?_;refine AW.aE [1,11,12,13] (fun i:Nat=>[(1,.bx [.sl 1 (rt.map dD)]),(11,.d (.sl 1 (rt.map dD))),(12,.d (dI rt.length)),(13,.d (dI i))]) (fun i=>i≤rt.length∧fE (tI rt) (rt.length-i) i=E∧ ∀j,j<i→tI rt j=0) (fun i=>rt.length-i) 0 rfl ⟨Nat.zero_le _,hE,fun j hj=>by omega⟩ (fun i ⟨hi,hiE,hall⟩=>?_);refine qX 1 rfl ?_;refine qI ?_;refine AW.cond rfl (fun h=>?_) (fun h=>?_);rotate_left
 · have hii: ¬i<rt.length:=by have:=of_decide_eq_false h;omega
   rw[gV hii] at hiE;subst hiE;refine AW.exit ?_;refine qX 1 rfl ?_;exact qN rfl
 have hii:i<rt.length:=by have:=of_decide_eq_true h;omega
 have hg:(rt.map dD)[i]?=some (dD (rt.getD i [])):=by simp[hii]
 have hwi:=hw i hii;have hli:=hll i hii;have hmiss:=fun h0:tI rt i=0=>(eZ hii h0).symm.trans hiE;have hhit:=fun h0:tI rt i≠0=>(gU hii h0).symm.trans hiE;have hp:2^i≤2^5:=Nat.pow_le_pow_right (by decide) (by omega);have hrt:tI rt i=if (rt.getD i []).length≠2^i then 10 else if bA i (rt.getD i [])≠0 then bA i (rt.getD i []) else if dG i ((rt.take i).map bg) (bg (rt.getD i []))<0 then 3 else 0:=rfl
 refine AW.skip (AW.seq (AW.block ?_));refine qX 1 rfl ?_;refine ab.idx tok (dD (rt.getD i [])) rfl rfl rfl rfl (Int.natCast_nonneg i) hg ?_;refine qU 3 rfl ?_;refine qI ?_;refine qX 2 rfl ?_;rw[List.length_map];refine qU 2 rfl ?_;rw[w7 (by omega)];refine qU 1 rfl ?_;refine ab.nil ?_;by_cases e1:(rt.getD i []).length=2^i;rotate_left
 · rw[if_pos e1] at hrt;rw[bne_iff_ne.2 (show (((rt.getD i []).length:Nat):Int)≠((2^i:Nat):Int) by omega)];have:=hhit (by rw[hrt];decide);rw[hrt] at this;subst this;refine AW.aG rfl ?_;refine qX 1 rfl ?_;exact qN rfl
 rw[if_neg (fun h=>h e1)] at hrt;have hwi:=hwi e1;have cn:=jA i (rt.getD i []) (by omega) (fun _=>hwi) (by omega) hli;rw[e1,bne_eq_false_iff_eq.2 rfl];refine AW.aB rfl ?_;refine AW.skip (AW.seq ?_);refine qX 2 rfl ?_;refine ab.call tok rfl rfl rfl rfl cn ?_;refine qU 1 rfl ?_;refine qK 2 rfl ?_;refine ab.nil ?_;by_cases e2:bA i (rt.getD i [])=0;rotate_left
 · rw[if_pos e2] at hrt;have:=hhit (by rw[hrt];exact e2);rw[hrt] at this;subst this;rw[bne_iff_ne.2 (show ((bA i (rt.getD i []):Nat):Int)≠0 by omega)];refine AW.aG rfl ?_;refine qX 2 rfl ?_;exact qN rfl
 rw[if_neg (fun h=>h e2)] at hrt;rw[bne_eq_false_iff_eq.2 (show ((bA i (rt.getD i []):Nat):Int)=0 by omega)];obtain ⟨n1,n2⟩:=oy e2;have hwj:=fun j (hj:j<i)=>hw j (by omega) (fY (hall j hj)).1;have cs:=qi i (k:=m) (rt:=(rt.take i).map bg) (xs:=rt.map dD) n1 (by omega) (kj hi hall) (by rw[eQ hi];exact Nat.le_refl _) (Cl hwj hi (fun j hj=>(fY (hall j hj)).2.1)) (lv hwi h1) (rb hwj h1 hi) (Cz hok hi);have tr:=mj i ((rt.take i).map bg) (bg (rt.getD i []));rw[B9 hi hall n1,← jS hwi n2] at cs;generalize dG i ((rt.take i).map bg) (bg (rt.getD i []))=s at cs hrt tr;refine AW.aB rfl ?_;refine AW.skip ?_;refine qX 2 rfl ?_;refine ab.call tok rfl rfl rfl rfl cs ?_;refine qU 1 rfl ?_;refine ab.nil ?_;by_cases e3:s<0
 · rw[if_pos e3] at hrt;rw[decide_eq_true e3];have:=hhit (by rw[hrt];decide);rw[hrt] at this;subst this;refine AW.aG rfl ?_;refine qX 1 rfl ?_;exact qN rfl
 rw[if_neg e3] at hrt;rw[decide_eq_false e3];refine AW.aB rfl ?_;refine AW.skip ?_;refine qT 1 rfl ?_;rw[aD (x:=(i:Int)+1) (by omega) (by omega)];refine qU 1 rfl ?_;refine ab.nil ?_
 exact⟨i+1,rfl,⟨hii,hmiss hrt,fun j hj=>by
  by_cases e:j=i
  · rw[e];exact hrt
  · exact hall j (by omega)⟩,by omega⟩
end Lift
namespace Lift
open Go Go.Proofs
end Lift
namespace Lift
def tT(r:Nat):Nat→Nat→Nat
 | 0,s=>s
 | l+1,s=>tT r l s+tT r l (tT r l s+r)+1
theorem kn{r:Nat}: ∀{l s t:Nat},s≤t→tT r l s≤tT r l t
 | 0,_,_,h=>h
 | l+1,s,t,h=>by
   have h1:=kn (r:=r) (l:=l) h;have h2:=kn (r:=r) (l:=l) (Nat.add_le_add_right h1 r);show _+_+1≤_+_+1;omega
theorem qd(r:Nat): ∀(l s:Nat),s≤tT r l s
 | 0,s=>Nat.le_refl s
 | l+1,s=>by
   have h1:=qd r l s;show s≤tT r l s+_+1;omega
theorem F4(r l s:Nat):2*s+1≤tT r (l+1) s:=by
 have h1:=qd r l s;have h2:=qd r l (tT r l s+r);show _≤tT r l s+tT r l (tT r l s+r)+1;omega
theorem BU(r s:Nat):tT r 1 s=2*s+r+1:=by
 show s+(s+r)+1=_;omega
theorem il{v:List NQ}{r:Nat}(hr:eF r v): ∀(l:Nat) {a b:Cf} {k m:Nat},(∀i,LQ (a i)≤k)→(∀i,LQ (b i)≤m)→ ∀i,LQ (mulC v l a b i)≤tT r l (k+m)
 | 0,a,b,k,m,ha,hb,i=>by
   show LQ (if i=0 then a 0*b 0 else 0)≤k+m;split
   · have:=zJ (a 0) (b 0);have:=ha 0;have:=hb 0;omega
   · have:=pb;have:=ha 0;have:=zI (a 0);omega
 | l+1,a,b,k,m,ha,hb,i=>by
   have h1:=il hr l ha hb;have h2:=il hr l (a:=bH l a) (b:=bH l b) (fun i=>ha _) (fun i=>hb _);have h3:=il hr l (a:=a) (b:=bH l b) ha (fun i=>hb _);have h4:=il hr l (a:=bH l a) (b:=b) (fun i=>ha _) hb;have h5:=il hr l (a:=mulC v l (bH l a) (bH l b)) (b:=cf (v.getD l [])) h2 (fun i=>hr l i);have h6:=qd r l (tT r l (k+m)+r);show LQ (if i<2^l then _ else _)≤tT r l (k+m)+tT r l (tT r l (k+m)+r)+1;split
   · have:=wG (mulC v l a b i) (mulC v l (mulC v l (bH l a) (bH l b)) (cf (v.getD l [])) i);have:=h1 i;have:=h5 i;omega
   · have:=wG (mulC v l a (bH l b) (i-2^l)) (mulC v l (bH l a) b (i-2^l));have:=h3 (i-2^l);have:=h4 (i-2^l);omega
theorem wU{v:List NQ}{r l k m:Nat}{a b:NQ}(hrt:cO v)(hr:eF r v)(hl:l≤v.length)(ha:aq l a)(sa:ay k a)(hb:aq l b)(sb:ay m b):ay (tT r l (k+m)) (aR l v a b):=fun i=>by
 show LQ (cf (aR l v a b) i)≤_;rw[(gq l ha hb hrt hl).2];exact il hr l sa sb i
theorem EE{v:List NQ}{r l j k:Nat}{a:NQ}(hrt:cO v)(hr:eF r v)(hj:j≤l)(hl:l<v.length)(ha:a.length=2^(j+1))(sa:ay k a):ay (tT r (l+1) (k+k)) (eM l v a):=fun i=>by
 show LQ (cf (eM l v a) i)≤_;have h2:=ry hj ha hrt hl
 have lowN:cP j (bS v j (cf a)):=fun i hi=>by
  unfold bS;rw[ba v j _ _ i hi,ba v j _ _ i hi];exact Rat.sub_self
 obtain ⟨e1,e2,e3⟩:=bj ha;rw[h2.2];have h3:=il hr j (a:=cf a) (b:=cf a) sa sa i;have h4:=il hr j (a:=bH j (cf a)) (b:=bH j (cf a)) (fun i=>sa _) (fun i=>sa _);have h5:=il hr j (a:=mulC v j (bH j (cf a)) (bH j (cf a))) (b:=cf (v.getD j [])) h4 (fun i=>hr j i) i
 have h6:LQ (bS v j (cf a) i)≤tT r (j+1) (k+k):=by
  have:=G4 (mulC v j (cf a) (cf a) i) (mulC v j (mulC v j (bH j (cf a)) (bH j (cf a))) (cf (v.getD j [])) i);show LQ (_-_)≤tT r j (k+k)+tT r j (tT r j (k+k)+r)+1;omega
 refine Nat.le_trans h6 ?_
 have up: ∀d s,tT r j s≤tT r (j+d) s:=fun d s=>by
  induction d with
  | zero=>exact Nat.le_refl _
  | succ d ih =>
    refine Nat.le_trans ih ?_;show tT r (j+d) s≤tT r (j+d) s+_+1;omega
 obtain ⟨d,rfl⟩: ∃d,l=j+d:=⟨l-j,by omega⟩;have u1:=up d (k+k);have u2:=up d (tT r j (k+k)+r);have u3:=kn (r:=r) (l:=j+d) (Nat.add_le_add_right u1 r);show tT r j (k+k)+tT r j (tT r j (k+k)+r)+1≤tT r (j+d) (k+k)+tT r (j+d) (tT r (j+d) (k+k)+r)+1;omega
def iQ(r:Nat):Nat→Nat→Nat
 | 0,k=>k+1
 | l+1,k=>tT r (l+1) (k+iQ r l (tT r (l+1) (k+k)))
theorem oG{r:Nat}: ∀{l s t:Nat},s≤t→iQ r l s≤iQ r l t
 | 0,_,_,h=>Nat.succ_le_succ h
 | l+1,s,t,h=>by
   have h1:=oG (r:=r) (l:=l) (kn (r:=r) (l:=l+1) (Nat.add_le_add h h));exact kn (by omega)
theorem nZ{r q:Nat}(h:r≤q): ∀{l s:Nat},tT r l s≤tT q l s
 | 0,s=>Nat.le_refl s
 | l+1,s=>by
   have h1:=nZ h (l:=l) (s:=s);have h2:=nZ h (l:=l) (s:=tT r l s+r);have h3:=kn (r:=q) (l:=l) (Nat.add_le_add h1 h);show tT r l s+tT r l (tT r l s+r)+1≤tT q l s+tT q l (tT q l s+q)+1;omega
theorem xS{r q:Nat}(h:r≤q): ∀{l s:Nat},iQ r l s≤iQ q l s
 | 0,s=>Nat.le_refl _
 | l+1,s=>by
   have h1:=nZ h (l:=l+1) (s:=s+s);have h2:=xS h (l:=l) (s:=tT r (l+1) (s+s));have h3:=oG (r:=q) (l:=l) h1;have h4:=nZ h (l:=l+1) (s:=s+iQ r l (tT r (l+1) (s+s)));exact Nat.le_trans h4 (kn (by omega))
theorem C0(r:Nat): ∀(l k:Nat),k<iQ r l k
 | 0,k=>Nat.lt_succ_self k
 | l+1,k=>by
   have h1:=C0 r l (tT r (l+1) (k+k));have h2:=qd r (l+1) (k+iQ r l (tT r (l+1) (k+k)));show k<tT r (l+1) _;omega
theorem Fl{q:Rat}{k:Nat}(h0:q≠0)(h:LQ q≤k):LQ (1 / q)≤k+1:=by
 have h1:=G5 (r:=1) h0;have h2:=tE;omega
theorem uw(l:Nat)(v:List NQ)(b:NQ):aR l v [] b=[]:=by
 have key: ∀R:NQ→NQ→NQ,ja (gN R v) [] b=[]:=fun R=>by
  unfold ja gN;split
  · rw[if_pos (by simp[bb])]
  · rw[if_pos (by simp[bb])]
 cases l with
 | zero=>exact key _
 | succ l=>exact key _
theorem CY{v:List NQ}{r:Nat}(hrt:cO v)(hr:eF r v): ∀(l:Nat) {k:Nat} {a:NQ},aq l a→l≤v.length→ay k a→ay (iQ r l k) (jW l v a):=by
 have one: ∀{s:NQ} {l k:Nat},aq l s→AK s→s.length=1→ay k s→ay (k+1) [1 / s.getD 0 0]:=fun {s l k} hs ht h1 sa i=>by
  cases i with
  | zero=>exact Fl (ht.one h1) (sa 0)
  | succ i=>exact l8 (Nat.le_add_left _ _)
 intro l
 induction l with
 | zero =>
   intro k a ha hl sa;have hs:=aS ha sa;have ht:=lu ha;show ay (k+1) (lS _ _ _ _ (aA a));generalize aA a=s at *;unfold lS;split
   · rename_i h1;exact one hs.1 ht h1 hs.2
   · split
     · exact bn (Nat.le_add_left _ _)
     · exact bn (Nat.le_add_left _ _)
 | succ l ih =>
   intro k a ha hl sa;obtain ⟨hs,sa⟩:=aS ha sa;have ht:=lu ha;show ay (iQ r (l+1) k) (lS (jW l v) (dG l v) (eM l v) (aR (l+1) v) (aA a));generalize aA a=s at *;have hk:=C0 r (l+1) k;unfold lS;by_cases h1:s.length=1
   · rw[if_pos h1];exact(one hs ht h1 sa).mono hk
   rw[if_neg h1];by_cases h0:s.length=0
   · rw[List.length_eq_zero_iff.1 h0]
     have en:eM l v []=[]:=by
      show aK (aR l v [] []) (aO (aR l v (aR l v [] []) (v.getD ((0:Nat).log2-1) [])))=[];rw[uw,uw];rfl
     have es:dG l v []=0:=by cases l<;>rfl
     rw[en,if_pos es];have h3:=ih (bm l) (by omega) (bn (k:=1) (Nat.le_refl _));refine h3.mono ?_;have hk1:=sa.pos;have h5:iQ r l 1≤iQ r l (tT r (l+1) (k+k)):=oG (by have:=qd r (l+1) (k+k);omega);have h6:=qd r (l+1) (k+iQ r l (tT r (l+1) (k+k)));show iQ r l 1≤tT r (l+1) _;omega
   obtain ⟨j,hj,hsl⟩: ∃j,j≤l∧s.length=2^(j+1):=by
    rcases hs with e | ⟨i,hi,e⟩
    · exact absurd e h0
    · rcases i with _ | j
      · exact absurd e h1
      · exact⟨j,by omega,e⟩
   obtain ⟨e1,e2,e3⟩:=bj hsl;have hx:aq l (s.take (s.length / 2)):= .inr ⟨j,hj,e1⟩;have hn:=rv hj hsl hrt (show l<v.length by omega);have sn:=EE hrt hr hj (show l<v.length by omega) hsl sa;split
   · have h3:=ih (hx.plus hx) (by omega) ((sa.take _).plus (sa.take _));refine h3.mono ?_;have h4:=F4 r l (k+k);have h5:iQ r l (k+k+1)≤iQ r l (tT r (l+1) (k+k)):=oG (by omega);have h6:=qd r (l+1) (k+iQ r l (tT r (l+1) (k+k)));show iQ r l (k+k+1)≤tT r (l+1) _;omega
   · have h3:=ih hn (by omega) sn
     have hjl:aq (l+1) (dw (s.take (s.length / 2)) (aO (s.drop (s.length / 2))) (s.length / 2)):= .inr ⟨j+1,by omega,by
      rw[dO]
      omega⟩
     exact wU hrt hr hl hjl (((sa.take _).join (sa.drop _).minus _)) ((gQ l hn hrt (by omega)).mono (Nat.le_succ l)) h3
end Lift
namespace Lift
open Go Go.Proofs
end Lift
namespace Lift
open Go Go.Proofs
theorem Dn{v:List NQ}(hrt:cO v)(hp:o8 v){l j:Nat}{s:NQ}(hj:j≤l)(hl:l<v.length)(hsl:s.length=2^(j+1))(h:aV v (l+1) (cf s)≠0)(hN:aV v j (bS v j (cf s))=0):aV v l (cf (aK (s.take (s.length / 2)) (s.take (s.length / 2))))≠0:=by
 obtain ⟨e1,e2,e3⟩:=bj hsl;have ex:je j (cf (s.take (s.length / 2))) (cf s):=dV _ e3;have ls:cP (j+1) (cf s):=aL (by omega);have lx:cP j (cf (s.take (s.length / 2))):=aL (by omega);obtain ⟨Tj⟩:=G6 hp j (by omega);have hdj:=hp j (by omega)
 let T:=F3 Tj hdj
 rw[bJ v ls (by omega)] at h
 have hT:Tj.R.sgn (OR.nr (Tj.of (cf (v.getD j []))) (T.of (cf s)))=aV v j (bS v j (cf s)):=by
  rw[← Tj.sgn]
  congr 1
  show Tj.of (cf s)*Tj.of (cf s) -Tj.of (bH j (cf s))*Tj.of (bH j (cf s))*Tj.of (cf (v.getD j []))=Tj.of (bS v j (cf s));rw[← Tj.mul,← Tj.mul,← Tj.mul,← Tj.sub];rfl
 have cxx:cf (aK (s.take (s.length / 2)) (s.take (s.length / 2)))=fun i=>cf (s.take (s.length / 2)) i+cf (s.take (s.length / 2)) i:=funext fun i=>eL _ _ i
 have lxx:cP j (cf (aK (s.take (s.length / 2)) (s.take (s.length / 2)))):=by
  rw[cxx];exact fun i hi=>by
   show _+_=(0:Rat);rw[lx i hi];exact Rat.add_zero 0
 have hes:T.R.sgn (T.of (cf s))≠0:=by rw[T.sgn];exact h
 have F:=OR.Dp (R:=Tj.R) (d:=Tj.of (cf (v.getD j []))) (by rw[Tj.sgn];exact hdj) hes (by
  have h5:=hT;rw[hN] at h5;exact h5)
 rw[bJ v lxx hj,← Tj.sgn,cxx,Tj.add,Tj.cong _ _ ex];exact F.2
theorem uF{v:List NQ}{l:Nat}{a:NQ}(ha:aq l a)(h:aV v l (cf a)≠0):(aA a).length≠0:=fun e=>by
 have:=bU ha;rw[List.length_eq_zero_iff.1 e] at this;rw[← this] at h;exact h (fi v l)
def FA:Nat→Nat→Prop
 | 0,k=>k≤17300000000000
 | l+1,k=>pE l (sT (l+1) k)∧FA l (sT (l+1) k)∧sT (l+1) k≤17300000000000∧sT (l+1) (iQ k l (sT (l+1) k))≤17300000000000
theorem FA.le: ∀{l k:Nat},FA l k→k≤17300000000000
 | 0,k,h=>h
 | l+1,k,h=>by have:=bI (l+1) k;have:=h.2.2.1;omega
theorem FA.mono: ∀{l k m:Nat},FA l k→m≤k→FA l m
 | 0,k,m,h,hm=>Nat.le_trans hm h
 | l+1,k,m,h,hm=>by
   have h1:=mq (l:=l+1) hm;refine⟨sE h.1 h1,h.2.1.mono h1,Nat.le_trans h1 h.2.2.1,Nat.le_trans (mq ?_) h.2.2.2⟩;exact Nat.le_trans (xS hm) (oG h1)
end Lift
namespace Lift
theorem Gm{v:List NQ}(hrt:cO v)(hp:o8 v): ∀(l:Nat) {k:Nat} {a:NQ},aq l a→l≤v.length→ay k a→eF k v→aV v l (cf a)≠0→FA l k→EA l v a:=by
 intro l
 induction l with
 | zero =>
   intro k a ha hl sa sr h hk;exact⟨sa.mono hk.le,uF ha h⟩
 | succ l ih =>
   intro k a ha hl sa sr h hk;obtain ⟨k1,k2,k3,k4⟩:=hk;have h2:=bI (l+1) k
   have h5:2*k+1≤sT (l+1) k:=by
    have:=bI l k;show _≤sT l (sT l k)+sT l k+1;omega
   have h0:=uF ha h;have hc:=bU ha;refine⟨sa.mono (by omega),h0,fun hne=>?_⟩;rw[← hc] at h;obtain ⟨hs,ss⟩:=aS ha sa;generalize aA a=s at *
   obtain ⟨j,hj,hsl⟩: ∃j,j≤l∧s.length=2^(j+1):=by
    rcases hs with e | ⟨i,hi,e⟩
    · exact absurd e h0
    · rcases i with _ | j
      · exact absurd e hne
      · exact⟨j,by omega,e⟩
   obtain ⟨e1,e2,e3⟩:=bj hsl;have hx:aq l (s.take (s.length / 2)):= .inr ⟨j,hj,e1⟩;have hn:=ry hj hsl hrt (show l<v.length by omega);have sn:=(ru hj hsl hrt (show l<v.length by omega) ss sr).2;have s1:=fC l hn.1 hrt (by omega)
   have lowN:cP j (bS v j (cf s)):=fun i hi=>by
    unfold bS;rw[ba v j _ _ i hi,ba v j _ _ i hi];exact Rat.sub_self
   refine⟨CC hj hsl hrt (by omega) ss sr k3,nw l hn.1 hrt (by omega) sn (sr.mono (by omega)) k1,fun hz=>?_,fun hz=>⟨?_,?_⟩⟩
   · rw[s1,hn.2,bJ v lowN hj] at hz;have hd:=Dn hrt hp hj (by omega) hsl h hz;exact ih (hx.plus hx) (by omega) (((ss.take _).plus (ss.take _)).mono (by omega)) (sr.mono (by omega)) hd k2
   · rw[s1] at hz;exact ih hn.1 (by omega) sn (sr.mono (by omega)) hz k2
   · have hjl:aq (l+1) (dw (s.take (s.length / 2)) (aO (s.drop (s.length / 2))) (s.length / 2)):= .inr ⟨j+1,by omega,by
      rw[dO]
      omega⟩
     have hge:=C0 k l (sT (l+1) k);exact pD (l+1) hjl ((gQ l hn.1 hrt (by omega)).mono (Nat.le_succ l)) hrt hl (((ss.take _).join (ss.drop _).minus _).mono (by omega)) (CY hrt sr l hn.1 (by omega) sn) (sr.mono (by omega)) k4
end Lift
namespace Lift
structure Lo (v:List NQ):Prop where
 V:o7 2 v
 l1:v.length≤1
theorem zX{l:Nat}(h:l≤1)(k:Nat):sT l k≤6*k+1:=by
 rcases l with _ | _ | l
 · show 2*k≤_;omega
 · show 2*(2*k)+2*k+1≤_;omega
 · omega
theorem vP{l k:Nat}(h:l≤1)(hk:k≤400000000000):pE l k:=by
 rcases l with _ | _ | l
 · show k≤_;omega
 · have h1:sT 1 k≤6*k+1:=zX (Nat.le_refl 1) k;have h2:sT 1 k≤17300000000000:=by omega
   exact⟨h2,h2⟩
 · omega
theorem Hh{l:Nat}(h:l≤1)(s:Nat):tT 2 l s≤2*s+3:=by
 rcases l with _ | _ | l
 · show s≤_;omega
 · rw[BU];omega
 · omega
theorem HJ{l r k:Nat}(h:l≤1):iQ r l k≤10*k+3*r+5:=by
 rcases l with _ | _ | l
 · show k+1≤_;omega
 · show tT r 1 (k+(tT r 1 (k+k)+1))≤_;rw[BU,BU];omega
 · omega
theorem Gl{l k:Nat}(h:l≤1)(hk:k≤400000000000):FA l k:=by
 rcases l with _ | _ | l
 · show k≤_;omega
 · have h1:sT 1 k≤6*k+1:=zX (Nat.le_refl 1) k;have h2:sT 1 k≤17300000000000:=by omega
   have h3:sT 1 (sT 1 k+1)≤6*(sT 1 k+1)+1:=zX (Nat.le_refl 1) _;have h4:sT 1 (sT 1 k+1)≤17300000000000:=by omega
   exact⟨h2,h2,h2,h4⟩
 · omega
theorem Lo.add{v:List NQ}(_:Lo v){k m:Nat}{a b:NQ}(ha:aq v.length a)(sa:ay k a)(hb:aq v.length b)(sb:ay m b)(hk:k+m≤400000000000):xB a b∧aq v.length (wC a b)∧ay (k+m+1) (wC a b) :=
 ⟨⟨sa.mono (by omega),sb.mono (by omega),(sa.plus sb).mono (by omega)⟩,Fh ha sa hb sb⟩
theorem Lo.sub{v:List NQ}(_:Lo v){k m:Nat}{a b:NQ}(ha:aq v.length a)(sa:ay k a)(hb:aq v.length b)(sb:ay m b)(hk:k+m≤400000000000):Cy a b∧aq v.length (qD a b)∧ay (k+m+1) (qD a b) :=
 ⟨⟨sa.mono (by omega),sb.mono (by omega),(sa.plus sb.minus).mono (by omega)⟩,Ec ha sa hb sb⟩
section
variable {v:List NQ} (L:Lo v) {k m:Nat} {a b:NQ}
include L
theorem Lo.mul(ha:aq v.length a)(sa:ay k a)(hb:aq v.length b)(sb:ay m b)(hk:k+m≤400000000000):sF v a b∧aq v.length (jT v a b)∧ay (2*(k+m)+3) (jT v a b):=by
 have h1:=zX L.l1 (k+m);have h2:=Hh L.l1 (k+m);have hm:=sa.pos;have hm':=sb.pos;have st:=(wU (m:=m) L.V.ro L.V.sz (Nat.le_refl _) ha sa hb sb).mono h2;have lt:=ed v.length ha hb L.V.ro (Nat.le_refl _);exact⟨⟨sa.mono (by omega),sb.mono (by omega),pD v.length ha hb L.V.ro (Nat.le_refl _) (sa.mono (Nat.le_add_right k m)) (sb.mono (Nat.le_add_left m k)) (L.V.sz.mono (by omega)) (by omega),st.mono (by omega)⟩,aS lt st⟩
theorem Lo.sg(ha:aq v.length a)(sa:ay k a)(hk:k≤200000000000):tV v a:=by
 have:=sa.pos;exact nw v.length ha L.V.ro (Nat.le_refl _) (sa.mono (Nat.le_succ k)) (L.V.sz.mono (by omega)) (vP L.l1 (by omega))
theorem Lo.inv(hb:aq v.length b)(sb:ay m b):aq v.length (jW v.length v b)∧ay (10*m+11) (jW v.length v b) :=
 ⟨gQ v.length hb L.V.ro (Nat.le_refl _),(CY L.V.ro L.V.sz v.length hb (Nat.le_refl _) sb).mono (HJ L.l1)⟩
theorem Lo.div(ha:aq v.length a)(sa:ay k a)(hb:aq v.length b)(sb:ay m b)(h0:kP v b≠0)(hk:k+10*m≤200000000000):CE v a b∧aq v.length (uf v a b)∧ay (2*k+20*m+25) (uf v a b):=by
 have hm:=sb.pos;have hm':=sa.pos;obtain ⟨li,si⟩:=L.inv hb sb;obtain ⟨⟨k1,k2,k3,k4⟩,k5,k6⟩:=L.mul ha sa li si (by omega);have hs:aV v v.length (cf b)≠0:=by rw[← fC v.length hb L.V.ro (Nat.le_refl _)];exact h0
 exact⟨⟨k1,sb.mono (by omega),L.sg hb sb (by omega),h0,Gm L.V.ro L.V.pos v.length hb (Nat.le_refl _) (sb.mono (Nat.le_succ m)) (L.V.sz.mono (by omega)) hs (Gl L.l1 (by omega)),k3,k4⟩,k5,k6.mono (by omega)⟩
end
def gS(k:Nat):Nat:=110*k+129
def gI(k:Nat):Nat→Nat
 | 0=>k
 | c+1=>gS (gI k c)
theorem jr{k:Nat}: ∀{c d:Nat},c≤d→gI k c≤gI k d:=fun {c d} h=>by
 induction h with
 | refl=>exact Nat.le_refl _
 | step _ ih=>exact Nat.le_trans ih (by show _≤110*_+129;omega)
abbrev l3(k:Nat)(a:bw):Prop:= ∀i j,ay k (bM a i j)
theorem l3.mono{k m:Nat}{a:bw}(h:l3 k a)(hk:k≤m):l3 m a:=fun i j=>(h i j).mono hk
theorem l3.pos{k:Nat}{a:bw}(h:l3 k a):1≤k:=(h 0 0).pos
theorem l3.set{k:Nat}{a:bw}(h:l3 k a){r:List NQ}(hr: ∀j,ay k (r.getD j []))(i:Nat):l3 k (a.set i r):=fun j c=>by
 unfold bM;rw[gR];split
 · exact hr c
 · exact h j c
theorem l3.bR{v:List NQ}{s:kK}{c k:Nat}(h:l3 k s.rows):l3 k (bR v s c):=by
 unfold Lift.bR;split
 · exact h
 · exact(h.set (h _) _).set (h _) _
theorem Lo.step{v:List NQ}(L:Lo v){m N c k:Nat}{s:kK}(R:tC v m N c s)(hs:l3 k s.rows)(hd:ay k s.bP)(hk:gS k≤100000000000):
  l6 v s c∧l3 (gS k) (fh v s c).rows∧ay (gS k) (fh v s c).bP∧(atR v s c<s.rows.length→l3 (gS k) (eR v s c)∧ay (gS k) (aA (jW v.length v (pR v s c)))):=by
 have hg:gS k=110*k+129:=rfl;have hk1:=hs.pos;have hl:=R.len;obtain ⟨a1,a2,a3,a4⟩:=iW v s c (by have:=R.cm;omega);by_cases h:atR v s c<s.rows.length
 · obtain ⟨b1,b2,b3⟩:=yk R h;obtain ⟨e1,e2,e3⟩:=As L.V.a R h;have sb:l3 k (bR v s c):=hs.bR
   have hp:kP v (pR v s c)≠0:=by
    have h4:=a4 h
    have:bM (bR v s c) s.cols.length c=bM s.rows (atR v s c) c:=by
     unfold bR bM;split
     · rename_i e;rw[e]
     · unfold D';rw[gR,if_pos ⟨rfl,by rw[List.length_set];omega⟩]
    rw[pR,this];exact h4
   have se:l3 (22*k+25) (eR v s c):=by
    unfold eR;refine(sb.mono (by omega)).set (fun j=>?_) _;by_cases hj:j<((bR v s c).getD s.cols.length []).length
    · rw[rr v _ _ hj];exact(L.div (b3 _ j) (sb _ j) (b3 _ _) (sb _ _) hp (by omega)).2.2.mono (by omega)
    · rw[mD (by rw[rq];omega)];exact bn (by omega)
   have okt: ∀i,y8 v ((eR v s c).getD i []) ((eR v s c).getD s.cols.length []) (bM (eR v s c) i c):=fun i j _=>by
    obtain ⟨q1,q2,q3⟩:=L.mul (e3 i c) (se i c) (e3 s.cols.length j) (se s.cols.length j) (by omega);exact⟨q1,(L.sub (e3 i j) (se i j) q2 q3 (by omega)).1⟩
   have sc: ∀i,l3 (gS k) (du v (eR v s c) s.cols.length c i):=fun i=>by
    induction i with
    | zero=>exact se.mono (by omega)
    | succ i ih =>
      unfold du;split
      · refine ih.set (fun j=>?_) i;rw[fN v _ _ _ i i (.inl (Nat.le_refl _)),fN v _ _ _ i _ (.inr rfl),wu];by_cases hj:j<((eR v s c).getD i []).length
        · rw[mh v _ _ _ hj];obtain ⟨q1,q2,q3⟩:=L.mul (e3 i c) (se i c) (e3 s.cols.length j) (se s.cols.length j) (by omega);exact(L.sub (e3 i j) (se i j) q2 q3 (by omega)).2.2.mono (by omega)
        · rw[mD (by rw[mf];omega)];exact bn (by omega)
      · exact ih
   obtain ⟨d1,d2,d3⟩:=L.mul R.bP hd (b3 s.cols.length c) (sb _ _) (by omega);refine⟨⟨fun j _ _=>L.sg (R.lt j c) (hs j c) (by omega),fun _=>d1,fun _ j hj=>(L.div (b3 _ j) (sb _ j) (b3 _ _) (sb _ _) hp (by omega)).1,fun _ i _ _=>L.sg (e3 i c) (se i c) (by omega),fun _ i _ _ _=>okt i⟩,?_,?_,fun _=>⟨se.mono (by omega),?_⟩⟩
   · unfold fh;rw[if_pos h];exact sc _
   · unfold fh;rw[if_pos h];exact d3.mono (by omega)
   · obtain ⟨i1,i2⟩:=L.inv (b3 s.cols.length c) (sb _ _);exact(aS i1 i2).2.mono (by omega)
 · refine⟨⟨fun j _ _=>L.sg (R.lt j c) (hs j c) (by omega),fun g=>absurd g h,fun g=>absurd g h,fun g=>absurd g h,fun g=>absurd g h⟩,?_,?_,fun g=>absurd g h⟩
   · unfold fh;rw[if_neg h];exact hs.mono (by omega)
   · unfold fh;rw[if_neg h];exact hd.mono (by omega)
theorem Lo.Cp{v:List NQ}(L:Lo v){a:bw}{N k:Nat}(hr:cg N a)(hl:nN v.length a)(hs:l3 k a): ∀{c:Nat},gI k c≤100000000000→l3 (gI k c) (aZ v a c).rows∧ay (gI k c) (aZ v a c).bP
 | 0,_=>⟨hs,iJ (Nat.le_trans tE hs.pos)⟩
 | c+1,h=>by
   have h0:=Nat.le_trans (jr (Nat.le_succ c)) h;obtain ⟨h1,h2⟩:=L.Cp hr hl hs h0;obtain ⟨_,h3,h4,_⟩:=L.step (iM L.V.a hr hl c) h1 h2 h;exact⟨h3,h4⟩
theorem Lo.red{v:List NQ}(L:Lo v){a:bw}{N k n:Nat}(hr:cg N a)(hl:nN v.length a)(hs:l3 k a)(hN:gI k n≤100000000000):
  (∀c,c<n→l6 v (aZ v a c) c)∧(∀c,c≤n→l3 (gI k n) (aZ v a c).rows)∧(∀c,c≤n→ay (gI k n) (aZ v a c).bP) ∧
  (∀c,c<n→atR v (aZ v a c) c<(aZ v a c).rows.length→l3 (gI k n) (eR v (aZ v a c) c))∧(∀c,c<n→atR v (aZ v a c) c<(aZ v a c).rows.length→ay (gI k n) (aA (jW v.length v (pR v (aZ v a c) c)))):=by
 have g:=fun c (hc:c≤n)=>L.Cp hr hl hs (Nat.le_trans (jr hc) hN);have s:=fun c (hc:c<n)=>L.step (iM L.V.a hr hl c) (g c (by omega)).1 (g c (by omega)).2 (Nat.le_trans (jr (show c+1≤n from hc)) hN);exact⟨fun c hc=>(s c hc).1,fun c hc=>(g c hc).1.mono (jr hc),fun c hc=>(g c hc).2.mono (jr hc),fun c hc h=>((s c hc).2.2.2 h).1.mono (jr (show c+1≤n from hc)),fun c hc h=>((s c hc).2.2.2 h).2.mono (jr (show c+1≤n from hc))⟩
end Lift
namespace Lift
def gD(v:List NQ)(xs ys:List NQ):Nat→NQ
 | 0=>[]
 | i+1=>wC (gD v xs ys i) (jT v (xs.getD i []) (ys.getD i []))
theorem kG{v:List NQ}(V:kJ v){xs ys:List NQ}(hx: ∀i,aq v.length (xs.getD i []))(hy: ∀i,aq v.length (ys.getD i [])): ∀n,aq v.length (gD v xs ys n)
 | 0=>bm _
 | n+1=>b8 ((kG V hx hy n).plus (kB V (hx n) (hy n)))
theorem x9{v:List NQ}(V:kJ v)(F:FV v){xs ys:List NQ}(hx: ∀i,aq v.length (xs.getD i []))(hy: ∀i,aq v.length (ys.getD i [])): ∀n,F.val (gD v xs ys n)=sm n (fun k=>F.val (xs.getD k [])*F.val (ys.getD k []))
 | 0=>F.nil
 | n+1=>by
   show F.val (wC _ _)=sm n _+_;rw[F.add (kG V hx hy n) (kB V (hx n) (hy n)),x9 V F hx hy n,F.mul (hx n) (hy n)]
def FB(v:List NQ)(xs ys:List NQ)(n:Nat):Prop:= ∀i,i<n→sF v (xs.getD i []) (ys.getD i [])∧xB (gD v xs ys i) (jT v (xs.getD i []) (ys.getD i []))
theorem Lo.dot{v:List NQ}(L:Lo v){xs ys:List NQ}{k m:Nat}(hx: ∀i,aq v.length (xs.getD i []))(hy: ∀i,aq v.length (ys.getD i []))(sx: ∀i,ay k (xs.getD i []))(sy: ∀i,ay m (ys.getD i [])){n:Nat}(hn:n≤32)(hk:k+m≤1000000000):
  FB v xs ys n∧ay (n*(2*(k+m)+4)+1) (gD v xs ys n):=by
 obtain ⟨X,hX⟩: ∃X,X=2*(k+m)+4:=⟨_,rfl⟩;rw[← hX]
 have ind: ∀i,i≤n→ay (i*X+1) (gD v xs ys i)∧(i<n→sF v (xs.getD i []) (ys.getD i [])∧xB (gD v xs ys i) (jT v (xs.getD i []) (ys.getD i []))):=by
  have st: ∀i,i<n→ay (i*X+1) (gD v xs ys i)→(sF v (xs.getD i []) (ys.getD i [])∧xB (gD v xs ys i) (jT v (xs.getD i []) (ys.getD i [])))∧ay ((i+1)*X+1) (gD v xs ys (i+1)):=fun i hi h=>by
   obtain ⟨a1,a2,a3⟩:=L.mul (hx i) (sx i) (hy i) (sy i) (by omega);have hb:i*X≤32*X:=Nat.mul_le_mul_right _ (by omega);have e:(i+1)*X=i*X+X:=Nat.succ_mul i X;obtain ⟨b1,b2,b3⟩:=L.add (kG L.V.a hx hy i) h a2 a3 (by omega);exact⟨⟨a1,b1⟩,b3.mono (by omega)⟩
  intro i hi
  induction i with
  | zero =>
    have s0:ay (0*X+1) (gD v xs ys 0):=bn (Nat.le_add_left _ _);exact⟨s0,fun h=>(st 0 h s0).1⟩
  | succ i ih =>
    have s1:=(st i (by omega) (ih (by omega)).1).2;exact⟨s1,fun h=>(st (i+1) h s1).1⟩
 exact⟨fun i hi=>(ind i (by omega)).2 hi,(ind n (Nat.le_refl n)).1⟩
def th(a:bw)(k:Nat):List NQ:=a.map fun r=>r.getD k []
theorem Du(a:bw)(k:Nat):(th a k).length=a.length:=List.length_map ..
theorem Dv(a:bw)(k i:Nat):(th a k).getD i []=bM a i k:=Aw a k i
section
variable {m0:Nat} {v:List NQ} (V:o7 m0 v) {a:bw} (G:wE v a) {b:List NQ} (hb: ∀i,aq v.length (b.getD i []))
include V G hb
end
end Lift
namespace Lift
open Go Go.Proofs
abbrev hC(l:List Nat):D:= .sl 1 (l.map (fun c:Nat=>dI c))
theorem xV{l:List Nat}{i:Nat}(h:i<l.length):(l.map (fun c:Nat=>dI c))[i]?=some (dI (l.getD i 0)):=by simp[h]
def DZ(l:List Nat)(x:Nat)(i:Nat):Bool:=decide ((x:Int)=(l.getD i 0:Nat))
def Ia(l:List Nat)(x:Nat):Int:=if im (DZ l x) (l.length-0) 0<l.length then (im (DZ l x) (l.length-0) 0:Nat) else -1
theorem ES(l:List Nat)(x:Nat):decide (0≤Ia l x)=l.contains x:=by
 obtain ⟨h1,h2,h3,h4⟩:=pW (g:=DZ l x) (m:=l.length-0) (i:=0);unfold Ia;by_cases h:im (DZ l x) (l.length-0) 0<l.length
 · rw[if_pos h,decide_eq_true (Int.natCast_nonneg _)];have:=h4 (by omega)
   have e:x=l.getD (im (DZ l x) (l.length-0) 0) 0:=by
    have:=of_decide_eq_true this;omega
   rw[e,List.getD_eq_getElem?_getD,List.getElem?_eq_getElem h];exact(List.contains_iff_mem.2 (List.getElem_mem h)).symm
 · rw[if_neg h,decide_eq_false (by decide)];refine(Bool.eq_false_iff.2 fun hc=>?_).symm;have hm:=List.contains_iff_mem.1 hc;obtain ⟨j,hj,e⟩:=List.getElem_of_mem hm;have:=h3 j (Nat.zero_le _) (by omega);unfold DZ at this;rw[List.getD_eq_getElem?_getD,List.getElem?_eq_getElem hj] at this;have:=of_decide_eq_false this;exact this (by show (x:Int)=((l[j]:Nat):Int);rw[e])
theorem po(bs:List Nat)(hl:bs.length≤1000000000000000)(x:Nat):Pure Tryz.prog 93 [hC bs,dI x] (dI (Ia bs x)):=by
 refine qJ 19 Tryz.func93 rfl rfl rfl rfl (by kernel_rfl) (fun B F0 w0=>?_);unfold Ia;generalize hE:im (DZ bs x) (bs.length-0) 0=E;refine qX 1 rfl ?_;refine qI ?_;refine qX 3 rfl ?_;rw[List.length_map];refine ab.nil ?_;refine AW.block ?_;refine AW.aE [0,1,7,8] (fun i:Nat=>[(0,.d (hC bs)),(1,.d (dI x)),(7,.d (dI bs.length)),(8,.d (dI i))]) (fun i=>i≤bs.length∧im (DZ bs x) (bs.length-i) i=E) (fun i=>bs.length-i) 0 rfl ⟨Nat.zero_le _,hE⟩ (fun i hi=>?_);obtain ⟨hi,hE⟩:=hi
 · skip
   refine qX 1 rfl ?_;refine qI ?_;refine AW.cond rfl (fun h=>?_) (fun h=>?_)
   · have hin:i<bs.length:=by have:=of_decide_eq_true h;omega
     have hhit:=xW (g:=DZ bs x) hin;have hmiss:=uU (g:=DZ bs x) hin;refine AW.skip (AW.seq (AW.block ?_));refine qX 2 rfl ?_;refine qK 3 rfl ?_;refine ab.idx tok (dI (bs.getD i 0)) rfl rfl rfl rfl (Int.natCast_nonneg i) (xV hin) ?_;refine qU 2 rfl ?_;refine ab.nil ?_;refine AW.cond rfl (fun h=>?_) (fun h=>?_)
     · have e:E=i:=hE.symm.trans (hhit h);rw[e,if_pos hin];refine qX 2 rfl ?_;exact qN rfl
     · skip
       refine AW.skip ?_;refine qT 1 rfl ?_;rw[aD (x:=(i:Int)+1) (by omega) (by omega)];refine qU 1 rfl ?_;refine ab.nil ?_;exact⟨i+1,rfl,⟨hin,by rw[← hmiss h];exact hE⟩,by omega⟩
   have hin: ¬i<bs.length:=by have:=of_decide_eq_false h;omega
   have e:E=i:=by rw[← hE,xX hin]
   rw[e,if_neg hin];refine AW.exit ?_;refine qX 1 rfl ?_;exact qN rfl
theorem mJ(bs:List Nat)(hl:bs.length≤1000000000000000)(x:Nat):Pure Tryz.prog 50 [hC bs,dI x] (dB (bs.contains x)):=by
 refine qJ 9 Tryz.func50 rfl rfl rfl rfl (by kernel_rfl) (fun B F0 w0=>?_);rw[← ES];refine qX 1 rfl ?_;refine qK 2 rfl ?_;refine ab.call tok rfl rfl rfl rfl (po bs hl x) ?_;refine qU 2 rfl ?_;exact qN rfl
theorem rS{α:Type}{d:α}{l:List α}{i:Nat}(h:i<l.length):l.take (i+1)=l.take i++[l.getD i d]:=by
 rw[List.take_succ_eq_append_getElem h,List.getD_eq_getElem?_getD,List.getElem?_eq_getElem h];rfl
theorem pO(a:bw)(k:Nat)(ha:a.length≤1000000)(hr: ∀i,i<a.length→k<(a.getD i []).length):Pure Tryz.prog 59 [ck a,dI k] (fe (th a k)):=by
 refine qJ 23 Tryz.func59 rfl rfl rfl rfl (by kernel_rfl) (fun B F0 w0=>?_);have hc:=Du a k
 have hts: ∀i,i<a.length→(th a k).take (i+1)=(th a k).take i++[(a.getD i []).getD k []]:=fun i hi=>by
  rw[rS (d:=[]) (by omega),Dv];rfl
 have hta:(th a k).take a.length=th a k:=List.take_of_length_le (by omega);generalize th a k=zs at *;refine qX 1 rfl ?_;refine qK 1 rfl ?_;refine qI ?_;refine qX 3 rfl ?_;rw[List.length_map];refine ab.nil ?_;refine AW.block ?_;refine AW.aE [0,1,5,8,9,10] (fun i:Nat=>[(0,.d (ck a)),(1,.d (dI k)),(5,.ow 53 ((zs.take i).map af)),(8,.d (ck a)),(9,.d (dI a.length)),(10,.d (dI i))]) (fun i=>i≤a.length) (fun i=>a.length-i) 0 rfl (Nat.zero_le _) (fun i hi=>?_)
 · show AW _ _ _ _ _ _ _ [(0,.d (ck a)),(1,.d (dI k)),(5,.ow 53 ((zs.take i).map af)),(8,.d (ck a)),(9,.d (dI a.length)),(10,.d (dI i))];refine qX 1 rfl ?_;refine qI ?_;refine AW.cond rfl (fun h=>?_) (fun h=>?_)
   · have hii:i<a.length:=by have:=of_decide_eq_true h;omega
     have g1:=getM fe (l:=a) (i:=i) hii;have g2:=getM af (l:=a.getD i []) (i:=k) (hr i hii);have hts:=hts i hii;generalize a.getD i []=r at g1 g2 hts;generalize r.getD k []=x at g2 hts;refine AW.skip (AW.seq (AW.block (AW.seq (AW.region ?_))));refine ab.idx tok (fe r) rfl rfl rfl rfl (Int.natCast_nonneg i) g1 ?_;refine qU 2 rfl ?_;refine ab.nil ?_;refine qT 3 rfl ?_;refine ab.idx tok (af x) rfl rfl rfl rfl (Int.natCast_nonneg k) g2 ?_;refine qU 1 rfl ?_;refine ab.gm tok rfl rfl rfl rfl rfl ?_;refine ab.k7 tok rfl rfl rfl rfl rfl rfl (by rw[List.length_map,List.length_take];show (_+1)*24≤_;omega) (by rw[List.length_map,List.length_take];show _+1≤_;omega) ?_;refine qU 1 rfl ?_;refine ab.nil ?_;refine qT 1 rfl ?_;rw[aD (x:=(i:Int)+1) (by omega) (by omega)];refine qU 1 rfl ?_;refine ab.nil ?_;exact⟨i+1,by rw[hts,List.map_append];rfl,hii,by omega⟩
   have hii:i=a.length:=by have:=of_decide_eq_false h;omega
   subst hii;rw[hta];refine AW.exit (AW.seq (AW.region ?_));refine ab.gG tok 5 rfl rfl ?_;refine qU 2 rfl ?_;exact qN rfl
theorem AO(a:bw){k:Nat}(h:k<ao a):(cu a).getD k []=th a k:=me a h
theorem pJ(a:bw)(ha:a.length≤1000000)(hc:ao a≤1000000)(hr:cg (ao a) a):Pure Tryz.prog 92 [ck a] (ck (cu a)):=by
 refine qJ 18 Tryz.func92 rfl rfl rfl rfl (by kernel_rfl) (fun B F0 w0=>?_);have hz:=fV a
 have hts: ∀k,k<ao a→(cu a).take (k+1)=(cu a).take k++[th a k]:=fun k hk=>by
  rw[rS (d:=[]) (by omega),AO a hk]
 have hta:(cu a).take (ao a)=cu a:=List.take_of_length_le (by omega);have cc:=fun k (hk:k<ao a)=>pO a k ha (fun i hi=>by rw[hr i hi];exact hk);generalize cu a=zs at *;refine qX 1 rfl ?_;refine qK 1 rfl ?_;refine qI ?_;refine qX 1 rfl ?_;refine ab.call tok rfl rfl rfl rfl (bF a) ?_;refine qU 1 rfl ?_;refine ab.nil ?_;refine AW.block ?_;refine AW.aE [0,3,6,7] (fun i:Nat=>[(0,.d (ck a)),(3,.ow 22 ((zs.take i).map fe)),(6,.d (dI (ao a))),(7,.d (dI i))]) (fun i=>i≤ao a) (fun i=>ao a-i) 0 rfl (Nat.zero_le _) (fun i hi=>?_)
 · show AW _ _ _ _ _ _ _ [(0,.d (ck a)),(3,.ow 22 ((zs.take i).map fe)),(6,.d (dI (ao a))),(7,.d (dI i))];refine qX 1 rfl ?_;refine qI ?_;refine AW.cond rfl (fun h=>?_) (fun h=>?_)
   · have hii:i<ao a:=by have:=of_decide_eq_true h;omega
     have cc:=cc i hii;have hts:=hts i hii;generalize th a i=z at cc hts;refine AW.skip (AW.seq (AW.block ?_));refine qX 2 rfl ?_;refine ab.nil ?_;refine qT 3 rfl ?_;refine ab.call tok rfl rfl rfl rfl cc ?_;refine ab.gm tok rfl rfl rfl rfl rfl ?_;refine ab.k7 tok rfl rfl rfl rfl rfl rfl (by rw[List.length_map,List.length_take];show (_+1)*24≤_;omega) (by rw[List.length_map,List.length_take];show _+1≤_;omega) ?_;refine qU 1 rfl ?_;refine ab.nil ?_;refine qT 1 rfl ?_;rw[aD (x:=(i:Int)+1) (by omega) (by omega)];refine qU 1 rfl ?_;refine ab.nil ?_;exact⟨i+1,by rw[hts,List.map_append];rfl,hii,by omega⟩
   have hii:i=ao a:=by have:=of_decide_eq_false h;omega
   subst hii;rw[hta];refine AW.exit (AW.seq (AW.region ?_));refine ab.gG tok 3 rfl rfl ?_;refine qU 2 rfl ?_;exact qN rfl
theorem kW{v:List NQ}{a:bw}(V:kJ v)(G:wE v a)(ok: ∀c,c<a.length→l6 v (aZ v (cu a) c) c):Pure Tryz.prog 49 [bO v,ck a] (.tu [hC (aZ v (cu a) a.length).cols,aj]):=by
 refine qJ 20 Tryz.func49 rfl rfl rfl rfl (by kernel_rfl) (fun B F0 w0=>?_);have hGl:=G.l;have hGc:=G.c;have ct:=pJ a (by omega) (by omega) G.r;have cr:=fH V (most:=a.length) (by rw[fV];omega) (by omega) (Nat.le_refl _) (iI a) (k9 G.lt) ok;generalize aZ v (cu a) a.length=s at *;generalize cu a=z at *;refine qX 3 rfl ?_;refine qI ?_;refine AW.m4 tok aM [(8,true),(1,false),(1,true)] 10 [6] (by kernel_rfl) ⟨rfl,?_⟩;refine qP 2 rfl ?_;refine ae.call tok rfl rfl rfl rfl rfl ct ?_;refine qP 2 rfl ?_;rw[List.length_map];refine ae.call tok rfl rfl rfl rfl rfl cr ?_;refine qP 2 rfl ?_;refine ae.nil ⟨rfl,?_⟩;refine qP 1 rfl ?_;refine ae.nil ⟨rfl,?_⟩;refine qP 1 rfl ?_;refine ae.nil ⟨_,nQ.cons (.bx rfl) (nQ.nil),?_⟩;refine qU 1 rfl ?_;refine qK 5 rfl ?_;exact qN rfl
theorem mM{m:Nat}{v:List NQ}{a:bw}(V:o7 m v)(hk:pE v.length m)(G:wE v a)(hs: ∀i k,ay m (bM a i k))(ok: ∀c,c<a.length→l6 v (aZ v (cu a) c) c):Pure Tryz.prog 15 [bO v,ck a] (.tu [hC (Ev v a),aj]):=by
 refine qJ 41 Tryz.func15 rfl rfl rfl rfl (by kernel_rfl) (fun B F0 w0=>?_);obtain ⟨r1,r2⟩:=G.raw V hs;have cc:=gO (V.s hk) r1;rw[r2,vB,yW] at cc;have hGl:=G.l;have ci:=kW V.a G ok;have hcl:=(iM V.a (iI a) (k9 G.lt) a.length).cl;unfold Ev js;generalize aZ v (cu a) a.length=s at *
 have hf: ∀i,((List.range (i+1)).filter fun i=> !s.cols.contains i)=((List.range i).filter fun i=> !s.cols.contains i)++(if s.cols.contains i then [] else [i]):=fun i=>by
  rw[List.range_succ,List.filter_append]
  congr 1
  by_cases h:s.cols.contains i=true
  · rw[if_pos h,List.filter_cons_of_neg (by rw[h];simp)];rfl
  · rw[if_neg h,List.filter_cons_of_pos (by simp only[Bool.not_eq_true] at h;rw[h];rfl)];rfl
 have hfl: ∀i,((List.range i).filter fun i=> !s.cols.contains i).length≤i:=fun i=>Nat.le_trans (List.length_filter_le ..) (by rw[List.length_range];exact Nat.le_refl _);refine qX 3 rfl ?_;refine qI ?_;refine qX 2 rfl ?_;refine ab.call tok rfl rfl rfl rfl cc ?_;refine qU 1 rfl ?_;refine qK 1 rfl ?_;refine ab.err tok rfl rfl rfl rfl rfl ?_;refine ab.nil ?_;refine AW.aB rfl ?_
 · skip
   refine AW.skip ?_;refine qX 2 rfl ?_;refine ab.call tok rfl rfl rfl rfl ci ?_;refine qU 5 rfl ?_;refine qI ?_;refine qX 1 rfl ?_;refine ab.err tok rfl rfl rfl rfl rfl ?_;refine ab.nil ?_;refine AW.aB rfl ?_
   · skip
     refine AW.skip ?_;refine qX 1 rfl ?_;refine qI ?_;refine qX 2 rfl ?_;rw[List.length_map];refine qU 1 rfl ?_;refine ab.nil ?_;refine AW.block ?_;refine AW.aE [7,9,27,28] (fun i:Nat=>[(7,.d (hC s.cols)),(9,.ow 3 (((List.range i).filter fun i=> !s.cols.contains i).map (fun c:Nat=>dI c))),(27,.d (dI a.length)),(28,.d (dI i))]) (fun i=>i≤a.length) (fun i=>a.length-i) 0 rfl (Nat.zero_le _) (fun i hi=>?_)
     · show AW _ _ _ _ _ _ _ [(7,.d (hC s.cols)),(9,.ow 3 (((List.range i).filter fun i=> !s.cols.contains i).map (fun c:Nat=>dI c))),(27,.d (dI a.length)),(28,.d (dI i))];refine qX 1 rfl ?_;refine qI ?_;refine AW.cond rfl (fun h=>?_) (fun h=>?_)
       · have hii:i<a.length:=by have:=of_decide_eq_true h;omega
         have hf:=hf i;have hfl:=hfl i;have ch:=mJ s.cols (by omega) i;generalize s.cols.contains i=b at hf ch;refine AW.skip (AW.seq (AW.block ?_));refine qX 2 rfl ?_;refine qK 2 rfl ?_;refine ab.call tok rfl rfl rfl rfl ch ?_;refine qU 1 rfl ?_;refine ab.nil ?_;refine AW.cond rfl (fun h=>?_) (fun h=>?_)
         · rw[show b=false by cases b;rfl;cases h] at hf;refine qT 2 rfl ?_;refine ab.gm tok rfl rfl rfl rfl rfl ?_;refine ab.k7 tok rfl rfl rfl rfl rfl rfl (by rw[List.length_map];show (_+1)*8≤_;omega) (by rw[List.length_map];show _+1≤_;omega) ?_;refine qU 1 rfl ?_;refine ab.nil ?_;refine qT 1 rfl ?_;rw[aD (x:=(i:Int)+1) (by omega) (by omega)];refine qU 1 rfl ?_;refine ab.nil ?_;exact⟨i+1,by rw[hf,if_neg (by decide),List.map_append];rfl,hii,by omega⟩
         · rw[show b=true by cases b;cases h;rfl] at hf;refine AW.skip ?_;refine qT 1 rfl ?_;rw[aD (x:=(i:Int)+1) (by omega) (by omega)];refine qU 1 rfl ?_;refine ab.nil ?_;exact⟨i+1,by rw[hf,if_pos rfl,List.append_nil];rfl,hii,by omega⟩
       have hii:i=a.length:=by have:=of_decide_eq_false h;omega
       subst hii;refine AW.exit (AW.seq (AW.region ?_));refine ab.gG tok 9 rfl rfl ?_;refine qU 3 rfl ?_;exact qN rfl
end Lift
namespace Lift
open Go Go.Proofs
section
variable {P:Program} {T:Ty} {B:Nat} {F0:Nat→Prop} {w0:b7} {n:Nat} {σ:St} {all:Array Oper} {rest:List Oper} {o:Oper} {d:Nat} {K:St→Prop}
end
end Lift
namespace Lift
open Go Go.Proofs
def kH(v:List NQ)(a:bw):NQ:=if (aZ v a a.length).cols.length<a.length then [] else if (aZ v a a.length).sg<0 then CH (aZ v a a.length).bP else (aZ v a a.length).bP
theorem tZ{v:List NQ}{a:bw}(V:kJ v)(ha:a.length≤1000000)(hr:cg a.length a)(hl:nN v.length a)(ok: ∀c,c<a.length→l6 v (aZ v a c) c)(hd:kV (aZ v a a.length).bP):Pure Tryz.prog 60 [bO v,ck a] (.tu [af (kH v a),aj]):=by
 refine qJ 38 Tryz.func60 rfl rfl rfl rfl (by kernel_rfl) (fun B F0 w0=>?_);have cr:=fH V (most:=a.length) ha ha (Nat.le_refl _) hr hl ok;have R:=iM V hr hl a.length;have cn:=yF V R.bP hd;have hcm:=R.cm;unfold kH;generalize aZ v a a.length=s at *;obtain ⟨rows,cols,sg,bP⟩:=s;clear R
 dsimp only at hcm cn ⊢
 change Pure _ _ _ (.tu [.ag [ck rows,hC cols,dI sg,af bP],aj]) at cr;refine qX 3 rfl ?_;refine qK 4 rfl ?_;rw[List.length_map];refine ab.call tok rfl rfl rfl rfl cr ?_;refine qU 6 rfl ?_;refine qI ?_;refine qX 1 rfl ?_;refine ab.err tok rfl rfl rfl rfl rfl ?_;refine qU 3 rfl ?_;refine qU 1 rfl ?_;rw[List.length_map];refine qU 2 rfl ?_;rw[List.length_map];refine qU 2 rfl ?_;refine ab.nil ?_;refine AW.cond rfl (fun h=>?_) (fun h=>?_)
 · have hc:cols.length<a.length:=by have:=of_decide_eq_true h;omega
   rw[if_pos hc];refine qX 3 rfl ?_;exact qN rfl
 · have hc: ¬cols.length<a.length:=by have:=of_decide_eq_false h;omega
   rw[if_neg hc];refine AW.skip (AW.seq ?_);refine qX 3 rfl ?_;refine ab.nil ?_;refine AW.cond rfl (fun h=>?_) (fun h=>?_)
   · have hs:sg<0:=of_decide_eq_true h;rw[if_pos hs];refine qX 3 rfl ?_;refine ab.call tok rfl rfl rfl rfl cn ?_;refine qU 4 rfl ?_;exact qN rfl
   · have hs: ¬sg<0:=of_decide_eq_false h;rw[if_neg hs];refine AW.skip ?_;refine qX 4 rfl ?_;exact qN rfl
theorem ua{v:List NQ}{a:bw}(cc:Pure Tryz.prog 20 [bO v,ck a] aj)(hsq:ao a=a.length)(cd:Pure Tryz.prog 60 [bO v,ck a] (.tu [af (kH v a),aj])):Pure Tryz.prog 27 [bO v,ck a] (.tu [af (kH v a),aj]):=by
 refine qJ 24 Tryz.func27 rfl rfl rfl rfl (by kernel_rfl) (fun B F0 w0=>?_);generalize kH v a=d at *;refine qX 3 rfl ?_;refine qI ?_;refine qX 2 rfl ?_;refine ab.call tok rfl rfl rfl rfl cc ?_;refine qU 1 rfl ?_;refine qK 1 rfl ?_;refine ab.err tok rfl rfl rfl rfl rfl ?_;refine ab.nil ?_;refine AW.aB rfl ?_
 · skip
   refine AW.skip (AW.seq ?_);refine qX 1 rfl ?_;refine ab.call tok rfl rfl rfl rfl (bF a) ?_;refine qU 2 rfl ?_;rw[List.length_map];refine qU 1 rfl ?_;rw[hsq,bne_eq_false_iff_eq.2 rfl];refine ab.nil ?_;refine AW.aB rfl ?_
   · skip
     refine AW.skip ?_;refine qX 2 rfl ?_;refine ab.call tok rfl rfl rfl rfl cd ?_;refine qU 4 rfl ?_;exact qN rfl
theorem tY{v:List NQ}{xs ys:List NQ}(V:kJ v)(hx: ∀i,aq v.length (xs.getD i []))(hy: ∀i,aq v.length (ys.getD i []))(hl:xs.length≤ys.length)(hl1:xs.length≤1000000)(ok:FB v xs ys xs.length):Pure Tryz.prog 58 [bO v,fe xs,fe ys] (.tu [af (gD v xs ys xs.length),aj]):=by
 refine qJ 45 Tryz.func58 rfl rfl rfl rfl (by kernel_rfl) (fun B F0 w0=>?_);have h0:gD v xs ys 0=[]:=rfl;have hs: ∀i,gD v xs ys (i+1)=wC (gD v xs ys i) (jT v (xs.getD i []) (ys.getD i [])):=fun i=>rfl;have cm:=fun i (hi:i<xs.length)=>m9 V (hx i) (hy i) (ok i hi).1;have ca:=fun i (hi:i<xs.length)=>yI V (kG V hx hy i) (kB V (hx i) (hy i)) (ok i hi).2;clear ok;generalize gD v xs ys=f at *;refine qX 3 rfl ?_;refine qK 1 rfl ?_;refine qI (AW.seq (AW.region ?_));refine ab.gG tok 8 rfl rfl ?_;refine qU 2 rfl ?_;rw[List.length_map];refine qU 1 rfl ?_;refine ab.nil ?_;refine AW.block ?_;refine AW.aE [1,2,3,8,13,14] (fun i:Nat=>[(1,.d (fe xs)),(2,.d (fe ys)),(3,.bx [.sl 1 (v.map af)]),(8,.d (af (f i))),(13,.d (dI xs.length)),(14,.d (dI i))]) (fun i=>i≤xs.length) (fun i=>xs.length-i) 0 (by rw[h0];rfl) (Nat.zero_le _) (fun i hi=>?_)
 · show AW _ _ _ _ _ _ _ [(1,.d (fe xs)),(2,.d (fe ys)),(3,.bx [.sl 1 (v.map af)]),(8,.d (af (f i))),(13,.d (dI xs.length)),(14,.d (dI i))];refine qX 1 rfl ?_;refine qI ?_;refine AW.cond rfl (fun h=>?_) (fun h=>?_)
   · have hii:i<xs.length:=by have:=of_decide_eq_true h;omega
     have gx:=getM af (l:=xs) (i:=i) hii;have gy:=getM af (l:=ys) (i:=i) (by omega);have cm:=cm i hii;have ca:=ca i hii;have hs:=hs i;generalize xs.getD i []=x at gx cm ca hs;generalize ys.getD i []=y at gy cm ca hs;generalize jT v x y=p at *;refine AW.skip (AW.seq (AW.block ?_));refine qX 2 rfl ?_;refine qI ?_;refine AW.draw aM 14 (by kernel_rfl) ?_;refine qP 3 rfl ?_;refine ae.idx tok (af x) rfl rfl rfl rfl rfl (Int.natCast_nonneg i) gx ?_;refine qP 3 rfl ?_;refine ae.idx tok (af y) rfl rfl rfl rfl rfl (Int.natCast_nonneg i) gy ?_;refine qP 1 rfl ?_;refine ae.call tok rfl rfl rfl rfl rfl cm ?_;refine qP 4 rfl ?_;refine ae.nil ?_;refine qU 1 rfl ?_;refine qI ?_;refine qX 1 rfl ?_;refine ab.err tok rfl rfl rfl rfl rfl ?_;refine ab.nil ?_;refine AW.aB rfl ?_
     · skip
       refine AW.skip ?_;refine qX 3 rfl ?_;refine ab.call tok rfl rfl rfl rfl ca ?_;refine qU 5 rfl ?_;refine qK 1 rfl ?_;refine ab.err tok rfl rfl rfl rfl rfl ?_;refine ab.nil ?_;refine AW.aB rfl ?_
       · skip
         refine AW.skip ?_;refine qT 1 rfl ?_;rw[aD (x:=(i:Int)+1) (by omega) (by omega)];refine qU 1 rfl ?_;refine ab.nil ?_;exact⟨i+1,by rw[hs];rfl,hii,by omega⟩
   have hii:i=xs.length:=by have:=of_decide_eq_false h;omega
   subst hii;refine AW.exit ?_;refine qX 3 rfl ?_;exact qN rfl
def bE(l:Nat)(b:List (List RD)):Nat:=fE (fun i=>bA l (b.getD i [])) (b.length-0) 0
end Lift
namespace Lift
open Go Go.Proofs
theorem qh{rt b:List (List RD)}(hbl:b.length≤1000000)(hbn: ∀i,Pure Tryz.prog 37 [dI rt.length,dD (b.getD i [])] (dI (bA rt.length (b.getD i [])))):
  Pure Tryz.prog 70 [TrD rt,iY b] (dI (fE (fun i=>bA rt.length (b.getD i [])) (b.length-0) 0)):=by
 refine qJ 23 Tryz.func70 rfl rfl rfl rfl (by kernel_rfl) (fun B F0 w0=>?_);obtain ⟨E,hE⟩: ∃E,fE (fun i=>bA rt.length (b.getD i [])) (b.length-0) 0=E:=⟨_,rfl⟩;rw[hE];refine qX 2 rfl ?_;refine qI ?_;refine qX 2 rfl ?_;rw[List.length_map];refine qU 1 rfl ?_;refine ab.nil ?_;refine AW.block ?_;refine AW.aE [2,8,9,10] (fun i:Nat=>[(2,.bx [.sl 1 (rt.map dD)]),(8,.d (iY b)),(9,.d (dI b.length)),(10,.d (dI i))]) (fun i=>i≤b.length∧fE (fun i=>bA rt.length (b.getD i [])) (b.length-i) i=E) (fun i=>b.length-i) 0 rfl ⟨Nat.zero_le _,hE⟩ (fun i ⟨hi,hiE⟩=>?_)
 · show AW _ _ _ _ _ _ _ [(2,.bx [.sl 1 (rt.map dD)]),(8,.d (iY b)),(9,.d (dI b.length)),(10,.d (dI i))];refine qX 1 rfl ?_;refine qI ?_;refine AW.cond rfl (fun h=>?_) (fun h=>?_)
   · have hii:i<b.length:=by have:=of_decide_eq_true h;omega
     have g1:=getM dD (l:=b) (i:=i) hii;have cn:=hbn i;have hmiss:=fun h0:bA rt.length (b.getD i [])=0=>(eZ (f:=fun i=>bA rt.length (b.getD i [])) hii h0).symm.trans hiE;have hhit:=fun h0:bA rt.length (b.getD i [])≠0=>(gU (f:=fun i=>bA rt.length (b.getD i [])) hii h0).symm.trans hiE;refine AW.skip (AW.seq (AW.block (AW.seq (AW.region ?_))));refine ab.idx tok (dD (b.getD i [])) rfl rfl rfl rfl (Int.natCast_nonneg i) g1 ?_;refine qU 2 rfl ?_;refine qK 3 rfl ?_;rw[List.length_map];refine qU 1 rfl ?_;refine ab.call tok rfl rfl rfl rfl cn ?_;refine qU 1 rfl ?_;refine qK 2 rfl ?_;refine ab.nil ?_;generalize bA rt.length (b.getD i [])=e at *;refine AW.cond rfl (fun h=>?_) (fun h=>?_)
     · have he:e≠0:=by have:=bne_iff_ne.1 h;omega
       rw[← hhit he];refine qX 2 rfl ?_;exact qN rfl
     · have he:e=0:=by have:=bne_eq_false_iff_eq.1 h;omega
       refine AW.skip ?_;refine qT 1 rfl ?_;rw[aD (x:=(i:Int)+1) (by omega) (by omega)];refine qU 1 rfl ?_;refine ab.nil ?_;exact⟨i+1,rfl,⟨hii,hmiss he⟩,by omega⟩
   have hii: ¬i<b.length:=by have:=of_decide_eq_false h;omega
   rw[gV hii] at hiE;subst hiE;refine AW.exit ?_;refine qX 1 rfl ?_;exact qN rfl
theorem xf{rt:List (List RD)}(h0:dc rt=0)(r:List (List RD)):jN rt r=fE (fun i=>bA rt.length (r.getD i [])) (r.length-0) 0:=by
 unfold jN;rw[show (fun k=>q7 rt [r.getD k []])=fun i=>bA rt.length (r.getD i []) from funext fun k=>AA h0 _]
theorem vD{rt:List (List RD)}{a:List (List (List RD))}(h0:dc rt=0)(hal:a.length≤1000000)(har: ∀i,(a.getD i []).length≤1000000)(hbn: ∀i k,Pure Tryz.prog 37 [dI rt.length,dD ((a.getD i []).getD k [])] (dI (bA rt.length ((a.getD i []).getD k [])))):
  Pure Tryz.prog 57 [TrD rt,MxR a] (dI (vY rt a)):=by
 refine qJ 52 Tryz.func57 rfl rfl rfl rfl (by kernel_rfl) (fun B F0 w0=>?_);unfold vY;obtain ⟨E,hE⟩: ∃E,fE (wJ a) (a.length-0) 0=E:=⟨_,rfl⟩;obtain ⟨G,hG⟩: ∃G,fE (fun i=>jN rt (a.getD i [])) (a.length-0) 0=G:=⟨_,rfl⟩;rw[hE,hG];have hc0:ao a=(a.getD 0 []).length:=rfl;have hcl:=har 0;refine qX 2 rfl ?_;refine ab.nil ?_;refine AW.cut [1,2] (fun _:Unit=>[(1,.d (MxR a)),(2,.bx [.sl 1 (rt.map dD)])]) (fun _=>(if a.length=0 then 0 else if 32<a.length∨32<ao a then 4 else if E≠0 then E else G)=if E≠0 then E else G) ?_ (fun _ hr=>?_)
 · refine qX 2 rfl ?_;rw[List.length_map];refine qU 1 rfl ?_;by_cases h1:32<a.length
   · rw[decide_eq_true (show (32:Int)<(a.length:Int) by omega),if_neg (show ¬a.length=0 by omega),if_pos (.inl h1)];refine qU 12 rfl ?_;refine ab.nil ?_;refine AW.aG rfl ?_;refine qX 1 rfl ?_;exact qN rfl
   rw[decide_eq_false (show ¬(32:Int)<(a.length:Int) by omega)];refine qU 3 rfl ?_;rw[List.length_map];refine qU 1 rfl ?_;by_cases h0:a.length=0
   · rw[decide_eq_false (show ¬(0:Int)<(a.length:Int) by omega)];refine qU 8 rfl ?_;refine ab.nil ?_;refine AW.aB rfl ?_;refine AW.skip ?_;refine⟨(),rfl,?_⟩;have e1:E=0:=by rw[← hE,h0];rfl
     have e2:G=0:=by rw[← hG,h0];rfl
     rw[if_pos h0,e1,e2,if_neg (by decide)]
   rw[decide_eq_true (show (0:Int)<(a.length:Int) by omega)];have g0:=getM iY (l:=a) (i:=0) (by omega);refine qU 2 rfl ?_;refine ab.idx tok (iY (a.getD 0 [])) rfl rfl rfl rfl (Int.le_refl _) g0 ?_;refine qU 2 rfl ?_;rw[List.length_map];refine qU 1 rfl ?_;by_cases h2:32<ao a
   · rw[decide_eq_true (show (32:Int)<((a.getD 0 []).length:Int) by omega),if_neg h0,if_pos (.inr h2)];refine qU 2 rfl ?_;refine ab.nil ?_;refine AW.aG rfl ?_;refine qX 1 rfl ?_;exact qN rfl
   rw[decide_eq_false (show ¬(32:Int)<((a.getD 0 []).length:Int) by omega)];refine qU 2 rfl ?_;refine ab.nil ?_;refine AW.aB rfl ?_;refine AW.skip ?_;exact⟨(),rfl,by rw[if_neg h0,if_neg (fun g=>g.elim h1 h2)]⟩
 rw[hr]
 · show AW _ _ _ _ _ _ _ [(1,.d (MxR a)),(2,.bx [.sl 1 (rt.map dD)])];refine AW.seq ?_;refine qX 2 rfl ?_;rw[List.length_map];refine qU 1 rfl ?_;refine ab.nil ?_;refine AW.block ?_;refine AW.aE [1,2,25,26,27] (fun i:Nat=>[(1,.d (MxR a)),(2,.bx [.sl 1 (rt.map dD)]),(25,.d (MxR a)),(26,.d (dI a.length)),(27,.d (dI i))]) (fun i=>i≤a.length∧fE (wJ a) (a.length-i) i=E) (fun i=>a.length-i) 0 rfl ⟨Nat.zero_le _,hE⟩ (fun i ⟨hi,hiE⟩=>?_)
   · show AW _ _ _ _ _ _ _ [(1,.d (MxR a)),(2,.bx [.sl 1 (rt.map dD)]),(25,.d (MxR a)),(26,.d (dI a.length)),(27,.d (dI i))];refine qX 1 rfl ?_;refine qI ?_;refine AW.cond rfl (fun h=>?_) (fun h=>?_)
     · have hii:i<a.length:=by have:=of_decide_eq_true h;omega
       have hg:=getM iY (l:=a) (i:=i) hii;have g0:=getM iY (l:=a) (i:=0) (by omega);have hri:=har i;have hmiss:=fun h0:wJ a i=0=>(eZ hii h0).symm.trans hiE;have hhit:=fun h0:wJ a i≠0=>(gU hii h0).symm.trans hiE;refine AW.skip (AW.seq (AW.block (AW.seq (AW.region ?_))));refine ab.idx tok (iY (a.getD i [])) rfl rfl rfl rfl (Int.natCast_nonneg i) hg ?_;refine qU 2 rfl ?_;refine qK 2 rfl ?_;rw[List.length_map];refine qU 1 rfl ?_;refine ab.idx tok (iY (a.getD 0 [])) rfl rfl rfl rfl (Int.le_refl _) g0 ?_;refine qU 2 rfl ?_;rw[List.length_map];refine qU 1 rfl ?_;refine ab.nil ?_;refine AW.cond rfl (fun h=>?_) (fun h=>?_)
       · have hne:(a.getD i []).length≠ao a:=by have:=bne_iff_ne.1 h;omega
         have e:wJ a i=10:=if_pos hne;have:=hhit (by rw[e];decide);rw[e] at this;subst this;rw[if_pos (by decide)];refine qX 1 rfl ?_;exact qN rfl
       · have heq:(a.getD i []).length=ao a:=by have:=bne_eq_false_iff_eq.1 h;omega
         have e:wJ a i=0:=if_neg (fun h=>h heq);refine AW.skip ?_;refine qT 1 rfl ?_;rw[aD (x:=(i:Int)+1) (by omega) (by omega)];refine qU 1 rfl ?_;refine ab.nil ?_;exact⟨i+1,rfl,⟨hii,hmiss e⟩,by omega⟩
     have hii: ¬i<a.length:=by have:=of_decide_eq_false h;omega
     rw[gV hii] at hiE;subst hiE;rw[if_neg (by decide)];refine AW.exit (AW.seq ?_);refine qX 2 rfl ?_;rw[List.length_map];refine qU 1 rfl ?_;refine ab.nil ?_;refine AW.block ?_;refine AW.aE [2,39,40,41] (fun i:Nat=>[(2,.bx [.sl 1 (rt.map dD)]),(39,.d (MxR a)),(40,.d (dI a.length)),(41,.d (dI i))]) (fun i=>i≤a.length∧fE (fun i=>jN rt (a.getD i [])) (a.length-i) i=G) (fun i=>a.length-i) 0 rfl ⟨Nat.zero_le _,hG⟩ (fun i ⟨hi,hiG⟩=>?_)
     · show AW _ _ _ _ _ _ _ [(2,.bx [.sl 1 (rt.map dD)]),(39,.d (MxR a)),(40,.d (dI a.length)),(41,.d (dI i))];refine qX 1 rfl ?_;refine qI ?_;refine AW.cond rfl (fun h=>?_) (fun h=>?_)
       · have hii:i<a.length:=by have:=of_decide_eq_true h;omega
         have hg:=getM iY (l:=a) (i:=i) hii;have cl:=qh (har i) (hbn i);rw[← xf h0] at cl;have hmiss:=fun h0:jN rt (a.getD i [])=0=>(eZ (f:=fun i=>jN rt (a.getD i [])) hii h0).symm.trans hiG;have hhit:=fun h0:jN rt (a.getD i [])≠0=>(gU (f:=fun i=>jN rt (a.getD i [])) hii h0).symm.trans hiG;refine AW.skip (AW.seq (AW.block (AW.seq (AW.region ?_))));refine ab.idx tok (iY (a.getD i [])) rfl rfl rfl rfl (Int.natCast_nonneg i) hg ?_;refine qU 2 rfl ?_;refine qK 2 rfl ?_;refine ab.call tok rfl rfl rfl rfl cl ?_;refine qU 1 rfl ?_;refine qK 2 rfl ?_;refine ab.nil ?_;generalize jN rt (a.getD i [])=e at *;refine AW.cond rfl (fun h=>?_) (fun h=>?_)
         · have he:e≠0:=by have:=bne_iff_ne.1 h;omega
           rw[← hhit he];refine qX 2 rfl ?_;exact qN rfl
         · have he:e=0:=by have:=bne_eq_false_iff_eq.1 h;omega
           refine AW.skip ?_;refine qT 1 rfl ?_;rw[aD (x:=(i:Int)+1) (by omega) (by omega)];refine qU 1 rfl ?_;refine ab.nil ?_;exact⟨i+1,rfl,⟨hii,hmiss he⟩,by omega⟩
       have hii: ¬i<a.length:=by have:=of_decide_eq_false h;omega
       rw[gV hii] at hiG;subst hiG;refine AW.exit ?_;refine qX 1 rfl ?_;exact qN rfl
theorem vF{m:Nat}{rt:List (List RD)}{a:List (List (List RD))}(T:GZ m rt)(A:BD m rt a):Pure Tryz.prog 21 [TrD rt,MxR a] (dI (kR rt a)):=by
 refine qJ 14 Tryz.func21 rfl rfl rfl rfl (by kernel_rfl) (fun B F0 w0=>?_);have hm:=T.m2;have cc:=vG rt T.w T.m1 T.l T.ll T.ok;have cw:=fun h0:dc rt=0=>vD h0 A.l A.r (fun i k=>jA rt.length ((a.getD i []).getD k []) (lX h0).1 (A.n i k).w (by omega) (A.n i k).l);unfold kR;refine qX 2 rfl ?_;refine qI ?_;refine qX 1 rfl ?_;refine ab.call tok rfl rfl rfl rfl cc ?_;refine qU 1 rfl ?_;refine qK 2 rfl ?_;refine ab.nil ?_;generalize dc rt=e at *;refine AW.cond rfl (fun h=>?_) (fun h=>?_)
 · have he:e≠0:=by have:=bne_iff_ne.1 h;omega
   rw[if_pos he];refine qX 2 rfl ?_;exact qN rfl
 · have he:e=0:=by have:=bne_eq_false_iff_eq.1 h;omega
   rw[if_neg (fun g=>g he)];refine AW.skip ?_;refine qX 2 rfl ?_;refine ab.call tok rfl rfl rfl rfl (cw he) ?_;refine qU 1 rfl ?_;exact qN rfl
end Lift
namespace Lift
open Go Go.Proofs
theorem Bl{a b:List Nat}(h:a.length=b.length)(hk: ∀k,k<a.length→a.getD k 0=b.getD k 0):a=b:=by
 refine List.ext_getElem h fun i h1 h2=>?_;have:=hk i h1
 rwa [List.getD_eq_getElem?_getD,List.getElem?_eq_getElem h1,List.getD_eq_getElem?_getD,List.getElem?_eq_getElem h2] at this
theorem um(a b:List Nat)(ha:a.length≤1000000):Pure Tryz.prog 23 [hC a,hC b] (dB (decide (a=b))):=by
 refine qJ 26 Tryz.func23 rfl rfl rfl rfl (by kernel_rfl) (fun B F0 w0=>?_);refine qX 1 rfl ?_;refine qI ?_;refine qX 5 rfl ?_;rw[List.length_map,List.length_map];refine ab.nil ?_;refine AW.cond rfl (fun h=>?_) (fun h=>?_)
 · have hne:a≠b:=by rintro rfl;simp at h
   rw[decide_eq_false hne];refine qX 1 rfl ?_;exact qN rfl
 · have hlen:a.length=b.length:=by
    have:(a.length:Int)=b.length:=by simpa using h
    omega
   refine AW.skip (AW.seq ?_);refine qX 1 rfl ?_;refine ab.nil ?_;refine AW.block ?_;refine AW.aE [0,1,5] (fun i:Nat=>[(0,.d (hC a)),(1,.d (hC b)),(5,.d (dI i))]) (fun i=>i≤a.length∧ ∀k,k<i→a.getD k 0=b.getD k 0) (fun i=>a.length-i) 0 rfl ⟨Nat.zero_le _,fun k hk=>by omega⟩ (fun i ⟨hi,hI⟩=>?_)
   · show AW _ _ _ _ _ _ _ [(0,.d (hC a)),(1,.d (hC b)),(5,.d (dI i))];refine AW.seq ?_;refine qX 3 rfl ?_;rw[List.length_map];refine qU 1 rfl ?_;refine ab.nil ?_;refine AW.cond rfl (fun h=>?_) (fun h=>?_)
     · have hin:i<a.length:=by have:=of_decide_eq_true h;omega
       refine AW.skip (AW.seq (AW.block (AW.seq ?_)));refine AW.draw aM 9 (by kernel_rfl) ?_;refine qP 2 rfl ?_;refine ae.idx tok (dI (a.getD i 0)) rfl rfl rfl rfl rfl (Int.natCast_nonneg i) (xV hin) ?_;refine qP 3 rfl ?_;refine ae.idx tok (dI (b.getD i 0)) rfl rfl rfl rfl rfl (Int.natCast_nonneg i) (xV (by omega)) ?_;refine qP 2 rfl ?_;refine ae.nil ?_;refine ab.nil ?_;refine AW.cond rfl (fun h=>?_) (fun h=>?_)
       · have hne:a≠b:=by rintro rfl;simp at h
         rw[decide_eq_false hne];refine qX 1 rfl ?_;exact qN rfl
       · have he:a.getD i 0=b.getD i 0:=by have:((a.getD i 0:Nat):Int)=(b.getD i 0:Nat):=bne_eq_false_iff_eq.1 h;omega
         refine AW.skip ?_;refine qT 2 rfl ?_;rw[aD (x:=(i:Int)+1) (by omega) (by omega)];refine qU 1 rfl ?_;refine ab.nil ?_;refine⟨i+1,rfl,⟨hin,fun k hk=>?_⟩,by omega⟩;rcases Nat.lt_or_ge k i with e | e
         · exact hI k e
         · rw[show k=i by omega];exact he
     have hin: ¬i<a.length:=by have:=of_decide_eq_false h;omega
     have hab:a=b:=Bl hlen (fun k hk=>hI k (by omega));rw[decide_eq_true hab];refine AW.exit ?_;refine qX 1 rfl ?_;exact qN rfl
theorem yH{v:List NQ}{a b:NQ}(V:kJ v)(ha:aq v.length a)(hb:aq v.length b)(sa:kV a)(sb:kV b)(ok:tV v (aK a (aO b))):Pure Tryz.prog 45 [bO v,af a,af b] (.tu [dI (kP v (aK a (aO b))),aj]):=by
 refine qJ 23 Tryz.func45 rfl rfl rfl rfl (by kernel_rfl) (fun B0 F0 w0=>?_);have hl5:=V.l5;have hro:=V.ro;have cc:=lY V ha sa hb sb;have c0:=dY b sb (by omega) (Nat.le_trans (hb.len (by omega)) (by decide));have c1:=c6 a (aO b) sa sb.minus (by omega) (Nat.le_trans (ha.len (by omega)) (by decide)) (Nat.le_trans (hb.minus.len (by omega)) (by decide));have c2:=dk v.length (ha.plus hb.minus) hl5 hro (Nat.le_refl _) (by omega) ok;refine qX 3 rfl ?_;refine qI ?_;refine qX 3 rfl ?_;refine ab.gm tok rfl rfl rfl rfl rfl ?_;refine ab.call tok rfl rfl rfl rfl cc ?_;refine qU 1 rfl ?_;refine qK 1 rfl ?_;refine ab.err tok rfl rfl rfl rfl rfl ?_;refine ab.nil ?_;refine AW.aB rfl ?_
 · skip
   refine AW.skip (AW.seq ?_);refine AW.draw aM 6 (by kernel_rfl) ?_;refine qP 3 rfl ?_;refine ae.call tok rfl rfl rfl rfl rfl c0 ?_;refine ae.call tok rfl rfl rfl rfl rfl c1 ?_;refine ae.call tok rfl rfl rfl rfl rfl c2 ?_;refine ae.nil ?_;refine qU 2 rfl ?_;exact qN rfl
theorem qn(l:List Int)(hl:l.length≤1000)(hb: ∀i, -1000≤l.getD i 0∧l.getD i 0≤1000):Pure Tryz.prog 44 [.sl 1 (l.map (fun n=>dI n))] (af (l.map (fun n:Int=>(n:Rat)))):=by
 refine qJ 19 Tryz.func44 rfl rfl rfl rfl (by kernel_rfl) (fun B0 F0 w0=>?_);have hg: ∀i,i<l.length→(l.map (fun n:Int=>dI n))[i]?=some (dI (l.getD i 0)):=fun i hi=>by simp[hi]
 have hts: ∀i,i<l.length→(l.map (fun n:Int=>(n:Rat))).take (i+1)=(l.map (fun n:Int=>(n:Rat))).take i++[((l.getD i 0:Int):Rat)]:=fun i hi=>by
  rw[rS (d:=0) (by rw[List.length_map];exact hi)]
  congr 2
  rw[List.getD_eq_getElem?_getD,List.getElem?_map,List.getD_eq_getElem?_getD,List.getElem?_eq_getElem hi];rfl
 have hta:(l.map (fun n:Int=>(n:Rat))).take l.length=l.map (fun n:Int=>(n:Rat)):=List.take_of_length_le (by rw[List.length_map];exact Nat.le_refl _);generalize l.map (fun n:Int=>(n:Rat))=zs at *;refine qX 1 rfl ?_;refine qK 1 rfl ?_;refine qI ?_;refine qX 2 rfl ?_;rw[List.length_map];refine qU 1 rfl ?_;refine ab.nil ?_;refine AW.block ?_;refine AW.aE [3,6,7,8] (fun i:Nat=>[(3,.ow 111 (dP (zs.take i))),(6,.d (.sl 1 (l.map (fun n=>dI n)))),(7,.d (dI l.length)),(8,.d (dI i))]) (fun i=>i≤l.length) (fun i=>l.length-i) 0 rfl (Nat.zero_le _) (fun i hi=>?_)
 · show AW _ _ _ _ _ _ _ [(3,.ow 111 (dP (zs.take i))),(6,.d (.sl 1 (l.map (fun n=>dI n)))),(7,.d (dI l.length)),(8,.d (dI i))];refine qX 1 rfl ?_;refine qI ?_;refine AW.cond rfl (fun h=>?_) (fun h=>?_)
   · have hii:i<l.length:=by have:=of_decide_eq_true h;omega
     have g1:=hg i hii;have hts:=hts i hii;have hb:=hb i;have c:=A6 (l.getD i 0) (by omega) (by omega);generalize l.getD i 0=x at *;refine AW.skip (AW.seq (AW.block (AW.seq (AW.region ?_))));refine ab.idx tok (dI x) rfl rfl rfl rfl (Int.natCast_nonneg i) g1 ?_;refine qU 2 rfl ?_;refine ab.nil ?_;refine qT 2 rfl ?_;refine ab.call tok rfl rfl rfl rfl c ?_;refine ab.gm tok rfl rfl rfl rfl rfl ?_;refine ab.k7 tok rfl rfl rfl rfl rfl rfl (by rw[List.length_map,List.length_take];show (_+1)*56≤_;omega) (by rw[List.length_map,List.length_take];show _+1≤_;omega) ?_;refine qU 1 rfl ?_;refine ab.nil ?_;refine qT 1 rfl ?_;rw[aD (x:=(i:Int)+1) (by omega) (by omega)];refine qU 1 rfl ?_;refine ab.nil ?_;exact⟨i+1,by rw[hts,show dP (zs.take i++[(x:Rat)])=dP (zs.take i)++[(Qr (x:Rat)).D] from List.map_append ..];rfl,hii,by omega⟩
   have hii:i=l.length:=by have:=of_decide_eq_false h;omega
   subst hii;rw[hta];refine AW.exit (AW.seq (AW.region ?_));refine ab.gG tok 3 rfl rfl ?_;refine qU 2 rfl ?_;exact qN rfl
def jH(r:RD):Bool:=match r.n,r.d with
 | [],[]=>true
 | [x],[]=>decide (x≤1000)
 | [],[y]=>decide (y≤12)
 | [x],[y]=>decide (x≤1000)&&decide (y≤12)
 | _,_=>false
theorem BR{r:RD}(h:jH r=true):r.n.length≤1∧r.d.length≤1:=by
 obtain ⟨g,n,d⟩:=r;unfold jH at h;rcases n with _ | ⟨x,_ | ⟨x2,n⟩⟩<;>rcases d with _ | ⟨y,_ | ⟨y2,d⟩⟩<;>first | (simp at h;done) | (refine⟨?_,?_⟩<;>simp)
theorem ud(r:RD){k:Nat}(hw:r.w k)(hk:k≤1000000000000000):Pure Tryz.prog 66 [r.D,.v (.int .u32 1000),.v (.int .u32 12)] (dB (jH r)):=by
 refine qJ 45 Tryz.func66 rfl rfl rfl rfl (by kernel_rfl) (fun B0 F0 w0=>?_);obtain ⟨w1,w2,w3,w4⟩:=hw;obtain ⟨g,n,d⟩:=r;unfold jH
 dsimp only at w3 w4 ⊢
 refine qX 2 rfl ?_;refine qK 3 rfl ?_;rw[List.length_map];refine qU 1 rfl ?_;by_cases h1:n.length<2;rotate_left
 · rw[decide_eq_false (show ¬(n.length:Int)<2 by omega)];refine qU 35 rfl ?_;refine ab.nil ?_;rcases n with _ | ⟨x,_ | ⟨x2,n⟩⟩
   · exact absurd (show 0<2 by decide) h1
   · exact absurd (show 1<2 by decide) h1
   · exact AW.ret rfl
 rw[decide_eq_true (show (n.length:Int)<2 by omega)];refine qU 4 rfl ?_;rw[List.length_map];refine qU 1 rfl ?_;by_cases h2:d.length<2;rotate_left
 · rw[decide_eq_false (show ¬(d.length:Int)<2 by omega)];refine qU 30 rfl ?_;refine ab.nil ?_;rcases d with _ | ⟨x,_ | ⟨x2,d⟩⟩
   · exact absurd (show 0<2 by decide) h2
   · exact absurd (show 1<2 by decide) h2
   · rcases n with _ | ⟨x,_ | ⟨x2,n⟩⟩
     · exact AW.ret rfl
     · exact AW.ret rfl
     · exact AW.ret rfl
 rw[decide_eq_true (show (d.length:Int)<2 by omega)];rcases n with _ | ⟨x,_ | ⟨x2,n⟩⟩
 · refine qU 16 rfl ?_;rcases d with _ | ⟨y,_ | ⟨y2,d⟩⟩
   · refine qU 14 rfl ?_;exact qN rfl
   · dsimp only
     refine qU 7 rfl ?_;refine ab.idx tok (wd y) rfl rfl rfl rfl (Int.le_refl _) rfl ?_;refine qU 6 rfl ?_;refine ab.nil ?_;rw[show decide (y≤12)=decide ((y:Int)≤12) from decide_eq_decide.2 (by omega)];exact AW.ret rfl
   · exact absurd h2 (by simp)
 · refine qU 9 rfl ?_;refine ab.idx tok (wd x) rfl rfl rfl rfl (Int.le_refl _) rfl ?_;refine qU 6 rfl ?_;rw[show decide ((x:Int)≤1000)=decide (x≤1000) from decide_eq_decide.2 (by omega)];rcases d with _ | ⟨y,_ | ⟨y2,d⟩⟩
   · dsimp only
     generalize decide (x≤1000)=b;cases b
     · refine qU 14 rfl ?_;exact qN rfl
     · refine qU 14 rfl ?_;exact qN rfl
   · dsimp only
     generalize decide (x≤1000)=b;cases b
     · refine qU 14 rfl ?_;exact qN rfl
     · refine qU 7 rfl ?_;refine ab.idx tok (wd y) rfl rfl rfl rfl (Int.le_refl _) rfl ?_;refine qU 6 rfl ?_;refine ab.nil ?_;rw[show decide (y≤12)=decide ((y:Int)≤12) from decide_eq_decide.2 (by omega)];exact AW.ret rfl
   · exact absurd h2 (by simp)
 · exact absurd h1 (by simp)
end Lift
