/- Parts of the proof, one behind the other: the logic, the contracts of the functions that the statement reaches. -/
import Derived.Test.YtfakkdmfofiibaaGreatT1E
set_option linter.unusedVariables false
set_option linter.unusedSimpArgs false
namespace Lift
open Go Go.Proofs
theorem pg(a:bq)(ha:a.length≤1000000)(hc:ay a≤1000000)(hr:cG (ay a) a):Pure Tryz.prog 25 [ek a] (ek (bp a)):=by
 refine qJ 39 Tryz.func25 rfl rfl rfl rfl (by kernel_rfl) (fun B F0 w0=>?_);have hz:=dm a
 have hts: ∀k,k<ay a→(bp a).take (k+1)=(bp a).take k++[kC a k]:=fun k hk=>by
  rw[qg (d:=[]) (by omega),sv a hk]
 have hta:(bp a).take (ay a)=bp a:=List.take_of_length_le (by omega)
 have ht0:a.length=0→bp a=[]:=fun h=>by
  rw[List.length_eq_zero_iff.1 h];rfl
 have hcl:=fun k=>nk a k
 have hct: ∀k i,i<a.length→(kC a k).take (i+1)=(kC a k).take i++[(a.getD i []).getD k []]:=fun k i hi=>by
  rw[qg (d:=[]) (by rw[nk];exact hi),wi];rfl
 have hca: ∀k,(kC a k).take a.length=kC a k:=fun k=>List.take_of_length_le (by rw[nk];exact Nat.le_refl _);generalize bp a=zs at *;generalize kC a=cm at *;refine qX 1 rfl ?_;refine qI ?_;refine qX 2 rfl ?_;rw[List.length_map];refine qU 1 rfl ?_;refine ab.nil ?_;refine AW.cond rfl (fun h=>?_) (fun h=>?_)
 · have h0:(a.length:Int)=0:=beq_iff_eq.1 h;rw[ht0 (by omega)];refine qX 1 rfl ?_;exact qN rfl
 · have h1:(a.length:Int)≠0:=beq_eq_false_iff_ne.1 h;have h0:0<a.length:=by omega
   have g0:=getM fi (l:=a) (i:=0) h0;refine AW.skip ?_;refine qX 1 rfl ?_;refine qI ?_;refine qX 1 rfl ?_;refine ab.idx tok (fi (a.getD 0 [])) rfl rfl rfl rfl (Int.le_refl _) g0 ?_;refine qU 2 rfl ?_;rw[List.length_map];refine qU 1 rfl ?_;refine ab.nil ?_;refine AW.block ?_;refine AW.aE [0,3,13,14] (fun i:Nat=>[(0,.d (ek a)),(3,.ow 22 ((zs.take i).map fi)),(13,.d (dI (ay a))),(14,.d (dI i))]) (fun i=>i≤ay a) (fun i=>ay a-i) 0 rfl (Nat.zero_le _) (fun k hk=>?_)
   · show AW _ _ _ _ _ _ _ [(0,.d (ek a)),(3,.ow 22 ((zs.take k).map fi)),(13,.d (dI (ay a))),(14,.d (dI k))];refine qX 1 rfl ?_;refine qI ?_;refine AW.cond rfl (fun h=>?_) (fun h=>?_)
     · have hkk:k<ay a:=by have:=of_decide_eq_true h;omega
       have hts:=hts k hkk;have hcl:=hcl k;have hct:=hct k;have hca:=hca k;generalize cm k=z at *;refine AW.skip (AW.seq (AW.block ?_));refine qX 2 rfl ?_;refine qK 1 rfl ?_;refine qI ?_;refine qX 2 rfl ?_;rw[List.length_map];refine qU 1 rfl ?_;refine ab.nil ?_;refine AW.block ?_;refine AW.aE [0,3,4,5,13,14,18,19] (fun i:Nat=>[(0,.d (ek a)),(3,.ow 22 ((zs.take k).map fi)),(4,.d (dI k)),(5,.ow 53 ((z.take i).map af)),(13,.d (dI (ay a))),(14,.d (dI k)),(18,.d (dI a.length)),(19,.d (dI i))]) (fun i=>i≤a.length) (fun i=>a.length-i) 0 rfl (Nat.zero_le _) (fun i hi=>?_)
       · show AW _ _ _ _ _ _ _ [(0,.d (ek a)),(3,.ow 22 ((zs.take k).map fi)),(4,.d (dI k)),(5,.ow 53 ((z.take i).map af)),(13,.d (dI (ay a))),(14,.d (dI k)),(18,.d (dI a.length)),(19,.d (dI i))];refine qX 1 rfl ?_;refine qI ?_;refine AW.cond rfl (fun h=>?_) (fun h=>?_)
         · have hii:i<a.length:=by have:=of_decide_eq_true h;omega
           have g1:=getM fi (l:=a) (i:=i) hii;have g2:=getM af (l:=a.getD i []) (i:=k) (by rw[hr i hii];exact hkk);have hct:=hct i hii;generalize a.getD i []=r at g1 g2 hct;generalize r.getD k []=x at g2 hct;refine AW.skip (AW.seq (AW.block ?_));refine qX 2 rfl ?_;refine ab.nil ?_;refine qT 3 rfl ?_;refine ab.idx tok (fi r) rfl rfl rfl rfl (Int.natCast_nonneg i) g1 ?_;refine qU 2 rfl ?_;refine ab.idx tok (af x) rfl rfl rfl rfl (Int.natCast_nonneg k) g2 ?_;refine qU 1 rfl ?_;refine ab.fU tok rfl rfl rfl rfl rfl ?_;refine ab.jC tok rfl rfl rfl rfl rfl rfl (by rw[List.length_map,List.length_take];show (_+1)*24≤_;omega) (by rw[List.length_map,List.length_take];show _+1≤_;omega) ?_;refine qU 1 rfl ?_;refine ab.nil ?_;refine qT 1 rfl ?_;rw[aC (x:=(i:Int)+1) (by omega) (by omega)];refine qU 1 rfl ?_;refine ab.nil ?_;exact⟨i+1,by rw[hct,List.map_append];rfl,hii,by omega⟩
         have hii:i=a.length:=by have:=of_decide_eq_false h;omega
         subst hii;rw[hca];refine AW.exit (AW.region ?_);refine ab.fQ tok 5 rfl rfl ?_;refine qU 2 rfl ?_;refine ab.fU tok rfl rfl rfl rfl rfl ?_;refine ab.jC tok rfl rfl rfl rfl rfl rfl (by rw[List.length_map,List.length_take];show (_+1)*24≤_;omega) (by rw[List.length_map,List.length_take];show _+1≤_;omega) ?_;refine qU 1 rfl ?_;refine ab.nil ?_;refine qT 1 rfl ?_;rw[aC (x:=(k:Int)+1) (by omega) (by omega)];refine qU 1 rfl ?_;refine ab.nil ?_;exact⟨k+1,by rw[hts,List.map_append];rfl,hkk,by omega⟩
     have hkk:k=ay a:=by have:=of_decide_eq_false h;omega
     subst hkk;rw[hta];refine AW.exit (AW.seq (AW.region ?_));refine ab.fQ tok 3 rfl rfl ?_;refine qU 2 rfl ?_;exact qN rfl
def oW:List NQ:=[[2]]
def yB:bq:=[[[1],[0,1]],[[0,1],[2]]]
def A2:bq:=[[[1],[0,1]],[[0,1],[1]]]
theorem kZ:Lo oW:=by
 have s2:dN 2 oW:=fun i=>match i with
  | 0=>gL (by decide +kernel)
  | i+1=>bA (by decide)
 refine⟨⟨by decide,fun k hk=>?_,s2,fun k hk=>?_,by decide,2,by decide,by decide,s2,tW (by decide) (by decide)⟩,by decide⟩
 · have hk:k<1:=hk;obtain rfl:k=0:=by omega
   rfl
 · have hk:k<1:=hk;obtain rfl:k=0:=by omega
   decide +kernel
theorem yA{a:bq}(h:a=yB∨a=A2):rG oW a∧k8 2 a∧a.length=2∧ay a=2:=by
 have hl: ∀b:bq,b=yB∨b=A2→ ∀i k,ao 1 (bU b i k)∧ar 2 (bU b i k):=fun b hb i k=>by
  have key: ∀q:Rat,q=0∨q=1∨q=2→LQ q≤2:=fun q hq=>by rcases hq with rfl | rfl | rfl<;>decide +kernel
  have g1: ∀q:Rat,LQ q≤2→ao 1 [q]∧ar 2 [q]:=fun q hq=>⟨gB _ _,gL hq⟩
  have g2:ao 1 [(0:Rat),1]∧ar 2 [(0:Rat),1]:=⟨.inr ⟨1,by decide,rfl⟩,fun c=>match c with
   | 0=>key 0 (.inl rfl)
   | 1=>key 1 (.inr (.inl rfl))
   | c+2=>kJ (by decide)⟩
  have g0:ao 1 []∧ar 2 []:=⟨bz _,bA (by decide)⟩;rcases hb with rfl | rfl
  · match i,k with
    | 0,0=>exact g1 1 (key 1 (.inr (.inl rfl)))
    | 0,1=>exact g2
    | 0,k+2=>exact g0
    | 1,0=>exact g2
    | 1,1=>exact g1 2 (key 2 (.inr (.inr rfl)))
    | 1,k+2=>exact g0
    | i+2,k=>exact g0
  · match i,k with
    | 0,0=>exact g1 1 (key 1 (.inr (.inl rfl)))
    | 0,1=>exact g2
    | 0,k+2=>exact g0
    | 1,0=>exact g2
    | 1,1=>exact g1 1 (key 1 (.inr (.inl rfl)))
    | 1,k+2=>exact g0
    | i+2,k=>exact g0
 have hlen:a.length=2∧ay a=2:=by rcases h with rfl | rfl<;>exact⟨rfl,rfl⟩
 refine⟨⟨by omega,fun j hj=>?_,by omega,fun i k=>(hl a h i k).1⟩,fun i k=>(hl a h i k).2,hlen⟩;rcases h with rfl | rfl
 · match j,hj with
   | 0,_=>rfl
   | 1,_=>rfl
 · match j,hj with
   | 0,_=>rfl
   | 1,_=>rfl
theorem yh{v:List NQ}(L:Lo v):ny v.length 2:=tW L.l1 (by decide)
theorem yx: ∀{n:Nat},n≤5→gI 2 n≤100000000000:=fun {n} h=>Nat.le_trans (iB h) (by decide)
theorem zo{v:List NQ}{a:bq}(L:Lo v)(G:rG v a)(hs:k8 2 a):Pure Tryz.prog 20 [bP v,ek a] aj:=by
 obtain ⟨r1,r2⟩:=G.raw L.V hs;have cc:=ew (L.V.s (yh L)) r1;rw[r2,qo,tK] at cc;exact cc
theorem mH{v:List NQ}{a:bq}(L:Lo v)(G:rG v a)(hs:k8 2 a)(hc:ay a≤5):Pure Tryz.prog 13 [bP v,ek a] (.tu [dI (eT v a).cols.length,aj]) :=
 qR L.V (yh L) G hs (L.red G.r G.lt hs (yx hc)).1
theorem xT{a:bq}{k:Nat}(hs:k8 k a):k8 k (bp a):=sx (p:=ar k) (bA hs.pos) hs
theorem lC{v:List NQ}{a:bq}(L:Lo v)(G:rG v a)(hs:k8 2 a)(hl:a.length≤5):Pure Tryz.prog 15 [bP v,ek a] (.tu [rF (kc v a),aj]) :=
 lj L.V (yh L) G hs (L.red (gK a) (jV G.lt) (xT hs) (yx hl)).1
theorem xo{v:List NQ}{a:bq}(L:Lo v)(G:rG v a)(hs:k8 2 a)(hc:ay a≤5):Pure Tryz.prog 14 [bP v,ek a] (.tu [ek (AI v a),aj]):=by
 have R:=L.red G.r G.lt hs (yx hc);have g:=yx hc;exact n6 L.V (yh L) G hs R.1 (fun i k=>(R.2.1 _ (Nat.le_refl _) i k).mono (by omega))
theorem CM{v:List NQ}{a:bq}{k:Nat}(L:Lo v)(hl:a.length≤5)(hr:cG a.length a)(lt:oF v.length a)(hs:k8 k a)(hk:gI k a.length≤100000000000):Pure Tryz.prog 60 [bP v,ek a] (.tu [af (xE v a),aj]):=by
 have R:=L.red hr lt hs hk;exact rV L.V.a (by omega) hr lt R.1 ((R.2.2.1 _ (Nat.le_refl _)).mono (by omega))
theorem n8(n:Int)(h: -1000≤n∧n≤1000):Pure Tryz.prog 44 [.sl 1 [dI n]] (af [(n:Rat)]) :=
 oT [n] (Nat.le_of_ble_eq_true rfl) (fun i=>match i with
  | 0=>h
  | i+1=>by show (-1000:Int)≤0∧(0:Int)≤1000;omega)
theorem xm:Pure Tryz.prog 44 [.sl 1 [dI 0,dI 1]] (af [(0:Rat),(1:Rat)]) :=
 oT [0,1] (by decide) (fun i=>match i with
  | 0=>by decide
  | 1=>by decide
  | i+2=>by show (-1000:Int)≤0∧(0:Int)≤1000;omega)
theorem gU:Pure Tryz.prog 12 [] (dB true):=by
 refine qJ 97 Tryz.func12 rfl rfl rfl rfl (by kernel_rfl) (fun B F0 w0=>?_);obtain ⟨GA,sA,_,cA⟩:=yA (.inl rfl);obtain ⟨GB,sB,lB,cB⟩:=yA (.inr rfl);have c1:=mH kZ GA sA (by decide);have c2:=lC kZ GA sA (by decide);have c3:=rW (zo kZ GB sB) (by decide) (CM kZ (by decide) GB.r GB.lt sB (by decide));rw[show (eT oW yB).cols.length=1 by decide +kernel] at c1;rw[show kc oW yB=[1] by decide +kernel] at c2;rw[show xE oW A2=[-1] by decide +kernel] at c3;have sm:ar 2 [(-1:Rat)]:=gL (by decide +kernel);have lm:ao 1 [(-1:Rat)]:=gB _ _;have c4:=wK (v:=oW) (a:=[-1]) (b:=[-1]) kZ.V.a lm lm (sm.mono (by decide)) (sm.mono (by decide)) (kZ.sg (lm.plus lm.minus) (sm.plus sm.minus) (by decide));rw[show pc oW (aK [-1] (aM [-1]))=0 by decide +kernel] at c4;have o1:=n8 1 (by decide);have o2:=n8 2 (by decide);have om:=n8 (-1) (by decide);have o01:=xm;have cI:=sf [1] [1] (by decide);have e1:((1:Int):Rat)=1:=rfl;have e2:((2:Int):Rat)=2:=rfl;have em:((-1:Int):Rat)= -1:=rfl;rw[e1] at o1;rw[e2] at o2;rw[em] at om;refine qX 1 rfl ?_;refine qI (AW.region ?_);refine ab.fU tok rfl rfl rfl rfl rfl ?_;refine ab.call tok rfl rfl rfl rfl o2 ?_;refine ab.fU tok rfl rfl rfl rfl rfl ?_;refine qU 3 rfl ?_;refine qI ?_;refine AW.draw aN 17 (by kernel_rfl) ?_;refine qP 1 rfl ?_;refine ae.fU tok rfl rfl rfl rfl rfl rfl ?_;refine ae.call tok rfl rfl rfl rfl rfl o1 ?_;refine ae.fU tok rfl rfl rfl rfl rfl rfl ?_;refine ae.call tok rfl rfl rfl rfl rfl o01 ?_;refine ae.fU tok rfl rfl rfl rfl rfl rfl ?_;refine ae.fU tok rfl rfl rfl rfl rfl rfl ?_;refine ae.call tok rfl rfl rfl rfl rfl o01 ?_;refine ae.fU tok rfl rfl rfl rfl rfl rfl ?_;refine ae.call tok rfl rfl rfl rfl rfl o2 ?_;refine ae.fU tok rfl rfl rfl rfl rfl rfl ?_;refine ae.fU tok rfl rfl rfl rfl rfl rfl ?_;refine ae.call tok rfl rfl rfl rfl rfl c1 ?_;refine qP 4 rfl ?_;refine ae.nil ?_;refine qU 1 rfl ?_;refine qI ?_;refine AW.draw aN 17 (by kernel_rfl) ?_;refine qP 1 rfl ?_;refine ae.fU tok rfl rfl rfl rfl rfl rfl ?_;refine ae.call tok rfl rfl rfl rfl rfl o1 ?_;refine ae.fU tok rfl rfl rfl rfl rfl rfl ?_;refine ae.call tok rfl rfl rfl rfl rfl o01 ?_;refine ae.fU tok rfl rfl rfl rfl rfl rfl ?_;refine ae.fU tok rfl rfl rfl rfl rfl rfl ?_;refine ae.call tok rfl rfl rfl rfl rfl o01 ?_;refine ae.fU tok rfl rfl rfl rfl rfl rfl ?_;refine ae.call tok rfl rfl rfl rfl rfl o2 ?_;refine ae.fU tok rfl rfl rfl rfl rfl rfl ?_;refine ae.fU tok rfl rfl rfl rfl rfl rfl ?_;refine ae.call tok rfl rfl rfl rfl rfl c2 ?_;refine qP 4 rfl ?_;refine ae.nil ?_;refine qU 1 rfl ?_;refine qI ?_;refine AW.draw aN 17 (by kernel_rfl) ?_;refine qP 1 rfl ?_;refine ae.fU tok rfl rfl rfl rfl rfl rfl ?_;refine ae.call tok rfl rfl rfl rfl rfl o1 ?_;refine ae.fU tok rfl rfl rfl rfl rfl rfl ?_;refine ae.call tok rfl rfl rfl rfl rfl o01 ?_;refine ae.fU tok rfl rfl rfl rfl rfl rfl ?_;refine ae.fU tok rfl rfl rfl rfl rfl rfl ?_;refine ae.call tok rfl rfl rfl rfl rfl o01 ?_;refine ae.fU tok rfl rfl rfl rfl rfl rfl ?_;refine ae.call tok rfl rfl rfl rfl rfl o1 ?_;refine ae.fU tok rfl rfl rfl rfl rfl rfl ?_;refine ae.fU tok rfl rfl rfl rfl rfl rfl ?_;refine ae.call tok rfl rfl rfl rfl rfl c3 ?_;refine qP 4 rfl ?_;refine ae.nil ?_;refine qU 1 rfl ?_;refine qI ?_;refine AW.draw aN 9 (by kernel_rfl) ?_;refine qP 2 rfl ?_;refine ae.fU tok rfl rfl rfl rfl rfl rfl ?_;refine ae.call tok rfl rfl rfl rfl rfl om ?_;refine ae.call tok rfl rfl rfl rfl rfl c4 ?_;refine qP 4 rfl ?_;refine ae.nil ?_;refine qU 1 rfl ?_;refine qK 1 rfl ?_;refine ab.err tok rfl rfl rfl rfl rfl ?_;refine qU 2 rfl ?_;refine ab.err tok rfl rfl rfl rfl rfl ?_;refine qU 3 rfl ?_;refine ab.err tok rfl rfl rfl rfl rfl ?_;refine qU 3 rfl ?_;refine ab.err tok rfl rfl rfl rfl rfl ?_;refine qU 7 rfl ?_;refine ab.fU tok rfl rfl rfl rfl rfl ?_;refine ab.call tok rfl rfl rfl rfl cI ?_;refine qU 6 rfl ?_;exact qN rfl
end Lift
namespace Lift
open Go Go.Proofs
theorem Du{v:List NQ}{a:bq}(G:rG v a):rG v (bp a):=by
 have hl:=G.l;have hc:=G.c;by_cases h:0<ay a
 · have e:=lO h;exact⟨by rw[dm];exact hc,by rw[e];exact gK a,by rw[e];exact hl,jV G.lt⟩
 · have e:bp a=[]:=List.length_eq_zero_iff.1 (by rw[dm];omega);rw[e];exact⟨by decide,fun j hj=>absurd hj (Nat.not_lt_zero j),by decide,fun i k=>bz _⟩
theorem nE{a:bq}{n:Nat}(h:0<n):ay (a.take n)=ay a:=by unfold ay;rw[uu h]
theorem Dv{v:List NQ}{a:bq}(G:rG v a)(n:Nat):rG v (a.take n):=by
 have hl:=G.l;have hc:=G.c;have hlt:(a.take n).length≤a.length:=by rw[List.length_take];omega
 by_cases h:0<n
 · exact⟨by omega,by rw[nE h];exact G.r.take n,by rw[nE h];exact hc,G.lt.take n⟩
 · obtain rfl:n=0:=by omega
   exact⟨by omega,fun j hj=>absurd hj (by simp),Nat.zero_le _,fun i k=>bz _⟩
theorem BO{a:bq}{k:Nat}(hs:k8 k a)(n:Nat):k8 k (a.take n):=fun i j=>by
 by_cases hi:i<n
 · rw[nj hi];exact hs i j
 · unfold bU;rw[nc (by rw[List.length_take];omega)];exact bA hs.pos
theorem AH(v:List NQ)(a:bq):(AI v a).length+(eT v a).cols.length=ay a:=by
 unfold AI;rw[List.length_map];exact ov v a (ay a)
theorem oc{rt:List (List RD)}{a:List (List (List RD))}(cv:Pure Tryz.prog 24 [TrD rt,MxR a] (dB false)):Pure Tryz.prog 4 [TrD rt,MxR a] (dB true):=by
 have ca:=gU;refine qJ 155 Tryz.func4 rfl rfl rfl rfl (by kernel_rfl) (fun B F0 w0=>?_);refine qX 2 rfl ?_;refine qI ?_;refine qX 2 rfl ?_;refine ab.call tok rfl rfl rfl rfl cv ?_;refine qU 10 rfl ?_;refine ab.nil ?_;refine AW.aH rfl ?_
 · skip
   refine AW.seq (AW.region ?_);refine ab.call tok rfl rfl rfl rfl ca ?_;refine qU 1 rfl ?_;exact qN rfl
theorem n9{v:List NQ}{q:bq}(h0:q.length=0)(cv:Pure Tryz.prog 24 [bP v,ek q] (dB true)):Pure Tryz.prog 4 [bP v,ek q] (dB true):=by
 have ca:=gU;refine qJ 155 Tryz.func4 rfl rfl rfl rfl (by kernel_rfl) (fun B F0 w0=>?_);refine qX 2 rfl ?_;refine qI ?_;refine qX 2 rfl ?_;refine ab.call tok rfl rfl rfl rfl cv ?_;refine qU 4 rfl ?_;rw[List.length_map,h0];refine qU 6 rfl ?_;refine ab.nil ?_;refine AW.aH rfl ?_
 · skip
   refine AW.seq (AW.region ?_);refine ab.call tok rfl rfl rfl rfl ca ?_;refine qU 1 rfl ?_;exact qN rfl
theorem zq{rt:List (List RD)}{a:List (List (List RD))}(n1:Nb2 rt)(n2:Nb3 a)(hv:p9 rt a=true):Acc rt a (rt.map bh) (qH a):=by
 unfold p9 at hv;rw[Bool.and_eq_true,Bool.and_eq_true] at hv;exact Ei hv.1.1 n1 hv.1.2 n2 (of_decide_eq_true hv.2)
set_option maxHeartbeats 1600000 in
theorem od{v:List NQ}{q:bq}(L:Lo v)(G:rG v q)(hs:k8 2 q)(hl4:q.length≤4)(hc4:ay q≤4)(hq0:0<q.length)(cv:Pure Tryz.prog 24 [bP v,ek q] (dB true)):Pure Tryz.prog 4 [bP v,ek q] (dB true):=by
 have ca:=gU;have c1:=mH L G hs (by omega);have c2:=pg q (by omega) (by omega) G.r
 have c3:=mH L (Du G) (xT hs) (by
  by_cases h:0<ay q
  · rw[lO h];omega
  · rw[List.length_eq_zero_iff.1 (show (bp q).length=0 by rw[dm];omega)];decide)
 have c4:=mH L (Dv G (q.length-1)) (BO hs _) (by
  by_cases h:0<q.length-1
  · rw[nE h];omega
  · rw[show q.length-1=0 by omega];exact Nat.zero_le _)
 have c5:=lC L G hs (by omega);have c6:=xo L G hs (by omega);rw[(nN L.V G).1] at c3;have hle:=tI L.V.a G;have hlast:=yX L.V G hq0;have hrl:=Ah L.V G;have hkl:=AH v q;have g0:=getM fi (l:=q) (i:=0) hq0;have gr:=fun i (h:i<(kc v q).length)=>vX (l:=kc v q) (i:=i) h
 have hmem: ∀i,i<(kc v q).length→(kc v q).getD i 0∈kc v q:=fun i h=>by
  rw[List.getD_eq_getElem?_getD,List.getElem?_eq_getElem h];exact List.getElem_mem h
 generalize (eT v q).cols.length=n at *;generalize (eT v (q.take (q.length-1))).cols.length=l at *;generalize kc v q=r at *;generalize AI v q=ks at *;have hcq:ay q=(q.getD 0 []).length:=rfl;refine qJ 155 Tryz.func4 rfl rfl rfl rfl (by kernel_rfl) (fun B F0 w0=>?_);refine qX 2 rfl ?_;refine qI ?_;refine qX 2 rfl ?_;refine ab.call tok rfl rfl rfl rfl cv ?_;refine qU 4 rfl ?_;rw[List.length_map];refine qU 1 rfl ?_;rw[beq_eq_false_iff_ne.2 (show (q.length:Int)≠0 by omega)];refine qU 2 rfl ?_;refine ab.call tok rfl rfl rfl rfl ca ?_;refine qU 2 rfl ?_;refine ab.nil ?_;refine AW.aB rfl ?_
 · skip
   refine AW.skip ?_;refine qX 2 rfl ?_;refine ab.call tok rfl rfl rfl rfl c1 ?_;refine qU 5 rfl ?_;refine qI ?_;refine AW.draw aN 8 (by kernel_rfl) ?_;refine qP 2 rfl ?_;refine ae.call tok rfl rfl rfl rfl rfl c2 ?_;refine ae.call tok rfl rfl rfl rfl rfl c3 ?_;refine qP 4 rfl ?_;refine ae.nil ?_;refine qU 1 rfl ?_;refine qI ?_;refine AW.draw aN 11 (by kernel_rfl) ?_;refine qP 4 rfl ?_;rw[List.length_map];refine qP 1 rfl ?_;rw[aC (x:=(q.length:Int) -1) (by omega) (by omega)];refine ae.BG tok rfl rfl rfl rfl rfl trivial (show (0:Int)≤(q.length:Int) -1 by omega) (Nat.zero_le _) (show ((q.length:Int) -1).toNat≤(q.map fi).length by rw[List.length_map];omega) ?_
   rw[show ((q.map fi).take (bL (q.map fi).length (some ((q.length:Int) -1)))).drop (dS none)=(q.take (q.length-1)).map fi from by
    show ((q.map fi).take ((q.length:Int) -1).toNat).drop 0=_;rw[List.drop_zero,← List.map_take]
    congr 2;omega]
   refine ae.call tok rfl rfl rfl rfl rfl c4 ?_;refine qP 4 rfl ?_;refine ae.nil ?_;refine qU 1 rfl ?_;refine qK 2 rfl ?_;refine ab.call tok rfl rfl rfl rfl c5 ?_;refine qU 5 rfl ?_;refine qK 2 rfl ?_;refine ab.call tok rfl rfl rfl rfl c6 ?_;refine qU 5 rfl ?_;refine ab.nil ?_;refine AW.cut [1,5,6,7,8,9,10,11,12,13,14,15] (fun b:Bool=>[(1,.d (ek q)),(5,.d (dI n)),(6,.d aj),(7,.d (dI n)),(8,.d aj),(9,.d (dI l)),(10,.d aj),(11,.d (rF r)),(12,.d aj),(13,.d (ek ks)),(14,.d aj),(15,.d (dB b))]) (fun b=>b=((n:Int)==(l:Int))) ?_ (fun b hb=>?_)
   · refine qT 2 rfl ?_;rw[List.length_map];refine qU 1 rfl ?_;by_cases hr0:r.length=0
     · rw[decide_eq_false (show ¬(0:Int)<(r.length:Int) by omega)];refine qU 13 rfl ?_;refine ab.nil ?_;rcases hlast with ⟨_,h2,_⟩ | ⟨h1,_⟩
       · omega
       · exact⟨false,rfl,(beq_eq_false_iff_ne.2 (show (n:Int)≠(l:Int) by omega)).symm⟩
     rw[decide_eq_true (show (0:Int)<(r.length:Int) by omega)];refine qU 4 rfl ?_;rw[List.length_map];refine qU 1 rfl ?_;rw[aC (x:=(r.length:Int) -1) (by omega) (by omega)];have gl:=gr (r.length-1) (by omega);have hm:=hmem (r.length-1) (by omega);refine ab.idx tok (dI (r.getD (r.length-1) 0)) rfl rfl rfl rfl (show (0:Int)≤(r.length:Int) -1 by omega) (by rw[show ((r.length:Int) -1).toNat=r.length-1 by omega];exact gl) ?_;refine qU 3 rfl ?_;rw[List.length_map];refine qU 1 rfl ?_;rw[aC (x:=(q.length:Int) -1) (by omega) (by omega)];refine qU 1 rfl ?_;rcases hlast with ⟨h1,h2,h3⟩ | ⟨h1,h2⟩
     · rw[h3,beq_iff_eq.2 (show ((q.length-1:Nat):Int)=(q.length:Int) -1 by omega)];refine qU 2 rfl ?_;refine ab.nil ?_;exact⟨true,rfl,(beq_iff_eq.2 (show (n:Int)=(l:Int) by omega)).symm⟩
     · have h4:=h2 _ hm;rw[beq_eq_false_iff_ne.2 (show ((r.getD (r.length-1) 0:Nat):Int)≠(q.length:Int) -1 by omega)];refine qU 2 rfl ?_;refine ab.nil ?_;exact⟨false,rfl,(beq_eq_false_iff_ne.2 (show (n:Int)≠(l:Int) by omega)).symm⟩
   have hlr:n=l∨n=l+1:=by
    rcases hlast with ⟨h1,_⟩ | ⟨h1,_⟩
    · exact .inl h1
    · exact .inr h1
   show AW _ _ _ _ _ _ _ [(1,.d (ek q)),(5,.d (dI n)),(6,.d aj),(7,.d (dI n)),(8,.d aj),(9,.d (dI l)),(10,.d aj),(11,.d (rF r)),(12,.d aj),(13,.d (ek ks)),(14,.d aj),(15,.d (dB b))];refine qX 1 rfl ?_;refine ab.err tok rfl rfl rfl rfl rfl ?_;refine qU 2 rfl ?_;refine ab.err tok rfl rfl rfl rfl rfl ?_;refine qU 3 rfl ?_;refine ab.err tok rfl rfl rfl rfl rfl ?_;refine qU 3 rfl ?_;refine ab.err tok rfl rfl rfl rfl rfl ?_;refine qU 3 rfl ?_;refine ab.err tok rfl rfl rfl rfl rfl ?_;refine qU 5 rfl ?_;rw[beq_self_eq_true];refine qU 5 rfl ?_;rw[List.length_map];refine qU 1 rfl ?_;rw[decide_eq_true (show (n:Int)≤(q.length:Int) by omega)];refine qU 4 rfl ?_;refine ab.idx tok (fi (q.getD 0 [])) rfl rfl rfl rfl (Int.le_refl _) g0 ?_;refine qU 2 rfl ?_;rw[List.length_map];refine qU 1 rfl ?_;rw[decide_eq_true (show (n:Int)≤((q.getD 0 []).length:Int) by omega)];refine qU 6 rfl ?_;rw[← hb];refine ab.be tok rfl rfl rfl rfl ?_;rw[show (b==b)=true by cases b<;>rfl];refine qU 5 rfl ?_;rw[← hb];cases b with
   | true =>
     refine qU 10 rfl ?_;rw[List.length_map];refine qU 2 rfl ?_;rw[List.length_map];refine qU 2 rfl ?_;rw[aC (x:=(q.length:Int) -n) (by omega) (by omega)];refine qU 1 rfl ?_;rw[beq_iff_eq.2 (show (r.length:Int)=(q.length:Int) -n by omega)];refine qU 4 rfl ?_;rw[List.length_map];refine qU 1 rfl ?_;refine ab.idx tok (fi (q.getD 0 [])) rfl rfl rfl rfl (Int.le_refl _) g0 ?_;refine qU 2 rfl ?_;rw[List.length_map];refine qU 2 rfl ?_;rw[aC (x:=((q.getD 0 []).length:Int) -n) (by omega) (by omega)];refine qU 1 rfl ?_;rw[beq_iff_eq.2 (show (ks.length:Int)=((q.getD 0 []).length:Int) -n by omega)];refine qU 2 rfl ?_;exact qN rfl
   | false =>
     have hnl:n=l+1:=by
      have:=beq_eq_false_iff_ne.1 hb.symm;omega
     refine qU 4 rfl ?_;rw[aC (x:=(l:Int)+1) (by omega) (by omega)];refine qU 1 rfl ?_;rw[beq_iff_eq.2 (show (n:Int)=(l:Int)+1 by omega)];refine qU 5 rfl ?_;rw[List.length_map];refine qU 2 rfl ?_;rw[List.length_map];refine qU 2 rfl ?_;rw[aC (x:=(q.length:Int) -n) (by omega) (by omega)];refine qU 1 rfl ?_;rw[beq_iff_eq.2 (show (r.length:Int)=(q.length:Int) -n by omega)];refine qU 4 rfl ?_;rw[List.length_map];refine qU 1 rfl ?_;refine ab.idx tok (fi (q.getD 0 [])) rfl rfl rfl rfl (Int.le_refl _) g0 ?_;refine qU 2 rfl ?_;rw[List.length_map];refine qU 2 rfl ?_;rw[aC (x:=((q.getD 0 []).length:Int) -n) (by omega) (by omega)];refine qU 1 rfl ?_;rw[beq_iff_eq.2 (show (ks.length:Int)=((q.getD 0 []).length:Int) -n by omega)];refine qU 2 rfl ?_;exact qN rfl
theorem law10_Bounds_ok(rt:List (List RD))(a:List (List (List RD)))(n1:Nb2 rt)(n2:Nb3 a):Pure Tryz.prog 4 [TrD rt,MxR a] (dB true):=by
 have cv:=qV rt a n1 n2;by_cases hv:p9 rt a=true
 · have A:=zq n1 n2 hv;rw[hv] at cv;rw[A.t,A.m] at cv ⊢;by_cases h0:(qH a).length=0
   · exact n9 h0 cv
   · exact od A.L A.G A.s A.l4 A.c4 (by omega) cv
 · simp only[Bool.not_eq_true] at hv;rw[hv] at cv;exact oc cv
end Lift

