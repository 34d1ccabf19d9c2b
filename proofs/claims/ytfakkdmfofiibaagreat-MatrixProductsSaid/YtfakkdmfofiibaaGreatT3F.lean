/- Parts of the proof, one behind the other: the logic, the contracts of the functions that the statement reaches. -/
import Derived.Test.YtfakkdmfofiibaaGreatT3E
set_option linter.unusedVariables false
set_option linter.unusedSimpArgs false
namespace Lift
open Go Go.Proofs
def pO:List NQ:=[[2]]
def zm:br:=[[[1],[0,1]],[[0,1],[2]]]
def BO:br:=[[[1],[0,1]],[[0,1],[1]]]
theorem l3:Lo pO:=by
 have s2:ed 2 pO:=fun i=>match i with
  | 0=>hZ (by decide +kernel)
  | i+1=>bc (by decide)
 refine⟨⟨by decide,fun k hk=>?_,s2,fun k hk=>?_,by decide,2,by decide,by decide,s2,mS (by decide) (by decide)⟩,by decide⟩
 · have hk:k<1:=hk;obtain rfl:k=0:=by omega
   rfl
 · have hk:k<1:=hk;obtain rfl:k=0:=by omega
   decide +kernel
theorem zl{a:br}(h:a=zm∨a=BO):sK pO a∧kx 2 a∧a.length=2∧au a=2:=by
 have hl: ∀b:br,b=zm∨b=BO→ ∀i k,ak 1 (bY b i k)∧aq 2 (bY b i k):=fun b hb i k=>by
  have key: ∀q:Rat,q=0∨q=1∨q=2→LQ q≤2:=fun q hq=>by rcases hq with rfl | rfl | rfl<;>decide +kernel
  have g1: ∀q:Rat,LQ q≤2→ak 1 [q]∧aq 2 [q]:=fun q hq=>⟨gR _ _,hZ hq⟩
  have g2:ak 1 [(0:Rat),1]∧aq 2 [(0:Rat),1]:=⟨.inr ⟨1,by decide,rfl⟩,fun c=>match c with
   | 0=>key 0 (.inl rfl)
   | 1=>key 1 (.inr (.inl rfl))
   | c+2=>lG (by decide)⟩
  have g0:ak 1 []∧aq 2 []:=⟨bn _,bc (by decide)⟩;rcases hb with rfl | rfl
  · match i,k with
    | 0,0=>exact g1 1 (key 1 (.inr (.inl rfl)))
    | 0,1=>exact g2
    | 0,k+2=>exact g0
    | 1,0=>exact g2
    | 1,1=>exact g1 2 (key 2 (.inr (.inr rfl)))
    | 1,k+2=>exact g0
    | i+2,k=>exact g0
  · match i,k with
    | 0,0=>exact g1 1 (key 1 (.inr (.inl rfl)))
    | 0,1=>exact g2
    | 0,k+2=>exact g0
    | 1,0=>exact g2
    | 1,1=>exact g1 1 (key 1 (.inr (.inl rfl)))
    | 1,k+2=>exact g0
    | i+2,k=>exact g0
 have hlen:a.length=2∧au a=2:=by rcases h with rfl | rfl<;>exact⟨rfl,rfl⟩
 refine⟨⟨by omega,fun j hj=>?_,by omega,fun i k=>(hl a h i k).1⟩,fun i k=>(hl a h i k).2,hlen⟩;rcases h with rfl | rfl
 · match j,hj with
   | 0,_=>rfl
   | 1,_=>rfl
 · match j,hj with
   | 0,_=>rfl
   | 1,_=>rfl
theorem Bi{v:List NQ}(L:Lo v):nM v.length 2:=mS L.l1 (by decide)
theorem D9: ∀{n:Nat},n≤5→gI 2 n≤100000000000:=fun {n} h=>Nat.le_trans (eL h) (by decide)
theorem l6{v:List NQ}{a:br}(L:Lo v)(G:sK v a)(hs:kx 2 a):Pure Tryz.prog 20 [bF v,eO a] aj:=by
 obtain ⟨r1,r2⟩:=G.raw L.V hs;have cc:=eK (L.V.s (Bi L)) r1;rw[r2,kK,rh] at cc;exact cc
theorem rk{v:List NQ}{a:br}(L:Lo v)(G:sK v a)(hs:kx 2 a)(hc:au a≤5):Pure Tryz.prog 13 [bF v,eO a] (.tu [dI (gu v a).cols.length,aj]) :=
 kX L.V (Bi L) G hs (L.red G.r G.lt hs (D9 hc)).1
theorem CH{a:br}{k:Nat}(hs:kx k a):kx k (cD a):=tC (p:=aq k) (bc hs.pos) hs
theorem mA{v:List NQ}{a:br}(L:Lo v)(G:sK v a)(hs:kx 2 a)(hl:a.length≤5):Pure Tryz.prog 15 [bF v,eO a] (.tu [xm (wi v a),aj]) :=
 mg L.V (Bi L) G hs (L.red (jL a) (ns G.lt) (CH hs) (D9 hl)).1
theorem qy{v:List NQ}{a:br}{k:Nat}(L:Lo v)(hl:a.length≤5)(hr:bt a.length a)(lt:kn v.length a)(hs:kx k a)(hk:gI k a.length≤100000000000):Pure Tryz.prog 60 [bF v,eO a] (.tu [af (gN v a),aj]):=by
 have R:=L.red hr lt hs hk;exact s7 L.V.a (by omega) hr lt R.1 ((R.2.2.1 _ (Nat.le_refl _)).mono (by omega))
theorem oZ(n:Int)(h: -1000≤n∧n≤1000):Pure Tryz.prog 44 [.sl 1 [dI n]] (af [(n:Rat)]) :=
 pJ [n] (Nat.le_of_ble_eq_true rfl) (fun i=>match i with
  | 0=>h
  | i+1=>by show (-1000:Int)≤0∧(0:Int)≤1000;omega)
theorem yj:Pure Tryz.prog 44 [.sl 1 [dI 0,dI 1]] (af [(0:Rat),(1:Rat)]) :=
 pJ [0,1] (by decide) (fun i=>match i with
  | 0=>by decide
  | 1=>by decide
  | i+2=>by show (-1000:Int)≤0∧(0:Int)≤1000;omega)
theorem fr:Pure Tryz.prog 12 [] (dB true):=by
 refine qJ 97 Tryz.func12 rfl rfl rfl rfl (by kernel_rfl) (fun B F0 w0=>?_);obtain ⟨GA,sA,_,cA⟩:=zl (.inl rfl);obtain ⟨GB,sB,lB,cB⟩:=zl (.inr rfl);have c1:=rk l3 GA sA (by decide);have c2:=mA l3 GA sA (by decide);have c3:=f' (l6 l3 GB sB) (by decide) (qy l3 (by decide) GB.r GB.lt sB (by decide));rw[show (gu pO zm).cols.length=1 by decide +kernel] at c1;rw[show wi pO zm=[1] by decide +kernel] at c2;rw[show gN pO BO=[-1] by decide +kernel] at c3;have sm:aq 2 [(-1:Rat)]:=hZ (by decide +kernel);have lm:ak 1 [(-1:Rat)]:=gR _ _;have c4:=xC (v:=pO) (a:=[-1]) (b:=[-1]) l3.V.a lm lm (sm.mono (by decide)) (sm.mono (by decide)) (l3.sg (lm.plus lm.minus) (sm.plus sm.minus) (by decide));rw[show oF pO (aK [-1] (aM [-1]))=0 by decide +kernel] at c4;have o1:=oZ 1 (by decide);have o2:=oZ 2 (by decide);have om:=oZ (-1) (by decide);have o01:=yj;have cI:=tq [1] [1] (by decide);have e1:((1:Int):Rat)=1:=rfl;have e2:((2:Int):Rat)=2:=rfl;have em:((-1:Int):Rat)= -1:=rfl;rw[e1] at o1;rw[e2] at o2;rw[em] at om;refine qX 1 rfl ?_;refine qI (AW.region ?_);refine ab.fI tok rfl rfl rfl rfl rfl ?_;refine ab.call tok rfl rfl rfl rfl o2 ?_;refine ab.fI tok rfl rfl rfl rfl rfl ?_;refine qU 3 rfl ?_;refine qI ?_;refine AW.draw aP 17 (by kernel_rfl) ?_;refine qP 1 rfl ?_;refine ae.fI tok rfl rfl rfl rfl rfl rfl ?_;refine ae.call tok rfl rfl rfl rfl rfl o1 ?_;refine ae.fI tok rfl rfl rfl rfl rfl rfl ?_;refine ae.call tok rfl rfl rfl rfl rfl o01 ?_;refine ae.fI tok rfl rfl rfl rfl rfl rfl ?_;refine ae.fI tok rfl rfl rfl rfl rfl rfl ?_;refine ae.call tok rfl rfl rfl rfl rfl o01 ?_;refine ae.fI tok rfl rfl rfl rfl rfl rfl ?_;refine ae.call tok rfl rfl rfl rfl rfl o2 ?_;refine ae.fI tok rfl rfl rfl rfl rfl rfl ?_;refine ae.fI tok rfl rfl rfl rfl rfl rfl ?_;refine ae.call tok rfl rfl rfl rfl rfl c1 ?_;refine qP 4 rfl ?_;refine ae.nil ?_;refine qU 1 rfl ?_;refine qI ?_;refine AW.draw aP 17 (by kernel_rfl) ?_;refine qP 1 rfl ?_;refine ae.fI tok rfl rfl rfl rfl rfl rfl ?_;refine ae.call tok rfl rfl rfl rfl rfl o1 ?_;refine ae.fI tok rfl rfl rfl rfl rfl rfl ?_;refine ae.call tok rfl rfl rfl rfl rfl o01 ?_;refine ae.fI tok rfl rfl rfl rfl rfl rfl ?_;refine ae.fI tok rfl rfl rfl rfl rfl rfl ?_;refine ae.call tok rfl rfl rfl rfl rfl o01 ?_;refine ae.fI tok rfl rfl rfl rfl rfl rfl ?_;refine ae.call tok rfl rfl rfl rfl rfl o2 ?_;refine ae.fI tok rfl rfl rfl rfl rfl rfl ?_;refine ae.fI tok rfl rfl rfl rfl rfl rfl ?_;refine ae.call tok rfl rfl rfl rfl rfl c2 ?_;refine qP 4 rfl ?_;refine ae.nil ?_;refine qU 1 rfl ?_;refine qI ?_;refine AW.draw aP 17 (by kernel_rfl) ?_;refine qP 1 rfl ?_;refine ae.fI tok rfl rfl rfl rfl rfl rfl ?_;refine ae.call tok rfl rfl rfl rfl rfl o1 ?_;refine ae.fI tok rfl rfl rfl rfl rfl rfl ?_;refine ae.call tok rfl rfl rfl rfl rfl o01 ?_;refine ae.fI tok rfl rfl rfl rfl rfl rfl ?_;refine ae.fI tok rfl rfl rfl rfl rfl rfl ?_;refine ae.call tok rfl rfl rfl rfl rfl o01 ?_;refine ae.fI tok rfl rfl rfl rfl rfl rfl ?_;refine ae.call tok rfl rfl rfl rfl rfl o1 ?_;refine ae.fI tok rfl rfl rfl rfl rfl rfl ?_;refine ae.fI tok rfl rfl rfl rfl rfl rfl ?_;refine ae.call tok rfl rfl rfl rfl rfl c3 ?_;refine qP 4 rfl ?_;refine ae.nil ?_;refine qU 1 rfl ?_;refine qI ?_;refine AW.draw aP 9 (by kernel_rfl) ?_;refine qP 2 rfl ?_;refine ae.fI tok rfl rfl rfl rfl rfl rfl ?_;refine ae.call tok rfl rfl rfl rfl rfl om ?_;refine ae.call tok rfl rfl rfl rfl rfl c4 ?_;refine qP 4 rfl ?_;refine ae.nil ?_;refine qU 1 rfl ?_;refine qK 1 rfl ?_;refine ab.err tok rfl rfl rfl rfl rfl ?_;refine qU 2 rfl ?_;refine ab.err tok rfl rfl rfl rfl rfl ?_;refine qU 3 rfl ?_;refine ab.err tok rfl rfl rfl rfl rfl ?_;refine qU 3 rfl ?_;refine ab.err tok rfl rfl rfl rfl rfl ?_;refine qU 7 rfl ?_;refine ab.fI tok rfl rfl rfl rfl rfl ?_;refine ab.call tok rfl rfl rfl rfl cI ?_;refine qU 6 rfl ?_;exact qN rfl
end Lift
namespace Lift
open Go Go.Proofs
theorem uR{v:List NQ}{xs ys:List NQ}{k:Nat}(L:Lo v)(hl:ys.length=xs.length)(hl1:xs.length≤1000000)(hx: ∀i,ak v.length (xs.getD i []))(hy: ∀i,ak v.length (ys.getD i []))(sx: ∀i,aq k (xs.getD i []))(sy: ∀i,aq k (ys.getD i []))(hk:k≤100000000000)
  (he: ∀i,i<xs.length→aV v v.length (cf (aK (xs.getD i []) (aM (ys.getD i []))))=0):Pure Tryz.prog 30 [bF v,eM xs,eM ys] (dB true):=by
 refine qJ 40 Tryz.func30 rfl rfl rfl rfl (by kernel_rfl) (fun B F0 w0=>?_);have cc:=fun i=>Bb L.V (hx i) (sx i) (hy i) (sy i) (by have:=(sx 0).pos;omega) (mS L.l1 (by omega));refine qX 2 rfl ?_;refine qI ?_;refine qX 2 rfl ?_;rw[List.length_map];refine qU 2 rfl ?_;rw[List.length_map,hl];refine qU 1 rfl ?_;rw[bne_eq_false_iff_eq.2 rfl];refine ab.nil ?_;refine AW.ay rfl ?_
 · skip
   refine AW.skip (AW.seq ?_);refine qX 2 rfl ?_;rw[List.length_map];refine qU 1 rfl ?_;refine ab.nil ?_;refine AW.block ?_;refine AW.aE [1,2,3,16,17] (fun i:Nat=>[(1,.d (eM xs)),(2,.d (eM ys)),(3,.bx [.sl 1 (v.map af)]),(16,.d (dI xs.length)),(17,.d (dI i))]) (fun i=>i≤xs.length) (fun i=>xs.length-i) 0 rfl (Nat.zero_le _) (fun i hi=>?_)
   · show AW _ _ _ _ _ _ _ [(1,.d (eM xs)),(2,.d (eM ys)),(3,.bx [.sl 1 (v.map af)]),(16,.d (dI xs.length)),(17,.d (dI i))];refine qX 1 rfl ?_;refine qI ?_;refine AW.cond rfl (fun h=>?_) (fun h=>?_)
     · have hii:i<xs.length:=by have:=of_decide_eq_true h;omega
       have gx:=getM af (l:=xs) (i:=i) hii;have gy:=getM af (l:=ys) (i:=i) (by omega);have cc:=cc i;rw[he i hii] at cc;generalize xs.getD i []=x at gx cc;generalize ys.getD i []=y at gy cc;refine AW.skip (AW.seq (AW.block ?_));refine qX 2 rfl ?_;refine qI ?_;refine AW.draw aP 14 (by kernel_rfl) ?_;refine qP 3 rfl ?_;refine ae.idx tok (af x) rfl rfl rfl rfl rfl (Int.natCast_nonneg i) gx ?_;refine qP 3 rfl ?_;refine ae.idx tok (af y) rfl rfl rfl rfl rfl (Int.natCast_nonneg i) gy ?_;refine qP 1 rfl ?_;refine ae.call tok rfl rfl rfl rfl rfl cc ?_;refine qP 4 rfl ?_;refine ae.nil ?_;refine qU 1 rfl ?_;refine qK 6 rfl ?_;refine ab.nil ?_;refine AW.ay rfl ?_
       · skip
         refine AW.skip ?_;refine qT 1 rfl ?_;rw[aD (x:=(i:Int)+1) (by omega) (by omega)];refine qU 1 rfl ?_;refine ab.nil ?_;exact⟨i+1,rfl,hii,by omega⟩
     have hii:i=xs.length:=by have:=of_decide_eq_false h;omega
     subst hii;refine AW.exit ?_;refine qX 1 rfl ?_;exact qN rfl
end Lift
namespace Lift
open Go Go.Proofs
theorem uw{rt:List (List RD)}{a:List (List (List RD))}(n1:Nb2 rt)(n2:Nb3 a)(hv:ov rt a=true):Acc rt a (rt.map bj) (p6 a):=by
 unfold ov at hv;rw[Bool.and_eq_true,Bool.and_eq_true] at hv;exact Fe hv.1.1 n1 hv.1.2 n2 (of_decide_eq_true hv.2)
end Lift
namespace Lift
open Go Go.Proofs
theorem sK.GG{m:Nat}{v:List NQ}{a:br}(V:l8 m v)(G:sK v a):rM (jQ v) (oL a)=0:=by
 have hl:=G.l;have hc:=G.c;unfold rM;split
 · rfl
 rw[nC,lS,if_neg (by omega)]
 have e1:fE (tN (oL a)) (a.length-0) 0=0:=iy fun j hj=>by
  unfold tN;rw[lS,jn,List.length_map,G.r j (by omega)];exact if_neg (fun h=>h rfl)
 rw[e1,if_neg (by decide)];refine iy fun j hj=>?_;unfold iY;refine iy fun k hk=>?_;rw[qm];exact GV V (G.lt j k)
theorem ye{m:Nat}{v:List NQ}{b:br}(V:l8 m v)(G:sK v b)(ok: ∀i k,s4 v (bY b i k)):Pure Tryz.prog 55 [bF v,eO b] aj:=by
 have hl:=G.l;have hc:=G.c
 have h:=kW (rt:=jQ v) (a:=oL b) (by rw[nC];omega) (fun i=>by
  rw[jn,List.length_map];by_cases h:i<b.length
  · rw[G.r i h];omega
  · rw[l0 (by omega)];exact Nat.zero_le _) (fun i k=>by
  rw[qm,GV V (G.lt i k),kK,oK]
  exact rP V.a (G.lt i k) (ok i k))
 rw[G.GG V,kK,rh] at h;exact h
end Lift
namespace Lift
section
variable {K:Fd}
def pj(B:Mk K):K.T:=B 0 0*(B 1 1*B 2 2-B 1 2*B 2 1) -B 0 1*(B 1 0*B 2 2-B 1 2*B 2 0)+B 0 2*(B 1 0*B 2 1-B 1 1*B 2 0)
def dX(a:Nat):Px:= .v a*(.v (a+4)* .v (a+8) - .v (a+5)* .v (a+7)) - .v (a+1)*(.v (a+3)* .v (a+8) - .v (a+5)* .v (a+6))+ .v (a+2)*(.v (a+3)* .v (a+7) - .v (a+4)* .v (a+6))
def d9(x0 x1 x2 x3 x4 x5 x6 x7 x8:Px):Px:=x0*(x4*x8-x5*x7) -x1*(x3*x8-x5*x6)+x2*(x3*x7-x4*x6)
theorem iz{B C:Mk K}(h: ∀i k,i<3→k<3→B i k=C i k):pj B=pj C:=by
 unfold pj;rw[h 0 0 (by decide) (by decide),h 0 1 (by decide) (by decide),h 0 2 (by decide) (by decide),h 1 0 (by decide) (by decide),h 1 1 (by decide) (by decide),h 1 2 (by decide) (by decide),h 2 0 (by decide) (by decide),h 2 1 (by decide) (by decide),h 2 2 (by decide) (by decide)]
theorem Ae{B:Mk K}{r t:Nat}(hr:r<3)(ht:t<3)(h:r≠t):pj (fun i=>B (sw r t i))= -pj B:=by
 have key: ∀r t:Nat,r<3→t<3→r≠t→(r=0∧t=1∨r=1∧t=0)∨(r=0∧t=2∨r=2∧t=0)∨(r=1∧t=2∨r=2∧t=1):=fun r t h1 h2 h3=>by omega
 let ρ:List K.T:=[B 0 0,B 0 1,B 0 2,B 1 0,B 1 1,B 1 2,B 2 0,B 2 1,B 2 2]
 rcases key r t hr ht h with (⟨rfl,rfl⟩ | ⟨rfl,rfl⟩) | (⟨rfl,rfl⟩ | ⟨rfl,rfl⟩) | (⟨rfl,rfl⟩ | ⟨rfl,rfl⟩)
 · exact Rg.dG ρ (d9 (.v 3) (.v 4) (.v 5) (.v 0) (.v 1) (.v 2) (.v 6) (.v 7) (.v 8)) (-dX 0) (by kernel_rfl)
 · exact Rg.dG ρ (d9 (.v 3) (.v 4) (.v 5) (.v 0) (.v 1) (.v 2) (.v 6) (.v 7) (.v 8)) (-dX 0) (by kernel_rfl)
 · exact Rg.dG ρ (d9 (.v 6) (.v 7) (.v 8) (.v 3) (.v 4) (.v 5) (.v 0) (.v 1) (.v 2)) (-dX 0) (by kernel_rfl)
 · exact Rg.dG ρ (d9 (.v 6) (.v 7) (.v 8) (.v 3) (.v 4) (.v 5) (.v 0) (.v 1) (.v 2)) (-dX 0) (by kernel_rfl)
 · exact Rg.dG ρ (d9 (.v 0) (.v 1) (.v 2) (.v 6) (.v 7) (.v 8) (.v 3) (.v 4) (.v 5)) (-dX 0) (by kernel_rfl)
 · exact Rg.dG ρ (d9 (.v 0) (.v 1) (.v 2) (.v 6) (.v 7) (.v 8) (.v 3) (.v 4) (.v 5)) (-dX 0) (by kernel_rfl)
theorem Af{B:Mk K}{r:Nat}(hr:r<3)(f:Nat→K.T)(q:K.T):pj (fun i k=>if i=r then B r k*q else B i k-f i*(B r k*q))=q*pj B:=by
 let ρ:List K.T:=[B 0 0,B 0 1,B 0 2,B 1 0,B 1 1,B 1 2,B 2 0,B 2 1,B 2 2,f 0,f 1,f 2,q]
 have e:r=0∨r=1∨r=2:=by omega
 rcases e with rfl | rfl | rfl
 · exact Rg.dG ρ (d9 (.v 0* .v 12) (.v 1* .v 12) (.v 2* .v 12) (.v 3- .v 10*(.v 0* .v 12)) (.v 4- .v 10*(.v 1* .v 12)) (.v 5- .v 10*(.v 2* .v 12)) (.v 6- .v 11*(.v 0* .v 12)) (.v 7- .v 11*(.v 1* .v 12)) (.v 8- .v 11*(.v 2* .v 12))) (.v 12*dX 0) (by kernel_rfl)
 · exact Rg.dG ρ (d9 (.v 0- .v 9*(.v 3* .v 12)) (.v 1- .v 9*(.v 4* .v 12)) (.v 2- .v 9*(.v 5* .v 12)) (.v 3* .v 12) (.v 4* .v 12) (.v 5* .v 12) (.v 6- .v 11*(.v 3* .v 12)) (.v 7- .v 11*(.v 4* .v 12)) (.v 8- .v 11*(.v 5* .v 12))) (.v 12*dX 0) (by kernel_rfl)
 · exact Rg.dG ρ (d9 (.v 0- .v 9*(.v 6* .v 12)) (.v 1- .v 9*(.v 7* .v 12)) (.v 2- .v 9*(.v 8* .v 12)) (.v 3- .v 10*(.v 6* .v 12)) (.v 4- .v 10*(.v 7* .v 12)) (.v 5- .v 10*(.v 8* .v 12)) (.v 6* .v 12) (.v 7* .v 12) (.v 8* .v 12)) (.v 12*dX 0) (by kernel_rfl)
def uG(a b c a' b' c':Nat):Px:=((0+ .v a* .v a')+ .v b* .v b')+ .v c* .v c'
theorem B4(B C:Mk K):pj (fun i k=>sm 3 (fun j=>B i j*C j k))=pj B*pj C:=by
 let ρ:List K.T:=[B 0 0,B 0 1,B 0 2,B 1 0,B 1 1,B 1 2,B 2 0,B 2 1,B 2 2,C 0 0,C 0 1,C 0 2,C 1 0,C 1 1,C 1 2,C 2 0,C 2 1,C 2 2]
 exact Rg.dG ρ (d9 (uG 0 1 2 9 12 15) (uG 0 1 2 10 13 16) (uG 0 1 2 11 14 17) (uG 3 4 5 9 12 15) (uG 3 4 5 10 13 16) (uG 3 4 5 11 14 17) (uG 6 7 8 9 12 15) (uG 6 7 8 10 13 16) (uG 6 7 8 11 14 17)) (dX 0*dX 9) (by kernel_rfl)
def uW(n:Nat)(A:Mk K):Mk K:=fun i k=>if i<n∧k<n then A i k else if i=k then 1 else 0
def ph(n:Nat)(A:Mk K):K.T:=pj (uW n A)
theorem pg{n:Nat}{A B:Mk K}(h: ∀i k,i<n→k<n→A i k=B i k):ph n A=ph n B :=
 iz fun i k _ _=>by
  unfold uW;split
  · rename_i g;exact h i k g.1 g.2
  · rfl
theorem DC{n:Nat}{A:Mk K}(h: ∀i k,i<n→k<n→A i k=if i=k then 1 else 0):ph n A=1:=by
 have e:ph n A=pj (fun i k=>if i=k then 1 else 0:Mk K):=iz fun i k _ _=>by
  unfold uW;split
  · rename_i g;exact h i k g.1 g.2
  · rfl
 rw[e];exact Rg.dG [] (d9 1 0 0 0 1 0 0 0 1) 1 (by kernel_rfl)
theorem BU{n r:Nat}{A:Mk K}(hn:n≤3)(hr:r<n)(h: ∀k,k<n→A r k=0):ph n A=0:=by
 have e: ∀k,uW n A r k=0:=fun k=>by
  unfold uW;split
  · rename_i g;exact h k g.2
  · rename_i g;exact if_neg (by omega)
 unfold ph pj;have e3:r=0∨r=1∨r=2:=by omega
 generalize uW n A=B at e;rcases e3 with rfl | rfl | rfl
 · rw[e 0,e 1,e 2];exact Rg.dG [B 1 0,B 1 1,B 1 2,B 2 0,B 2 1,B 2 2] (d9 0 0 0 (.v 0) (.v 1) (.v 2) (.v 3) (.v 4) (.v 5)) 0 (by kernel_rfl)
 · rw[e 0,e 1,e 2];exact Rg.dG [B 0 0,B 0 1,B 0 2,B 2 0,B 2 1,B 2 2] (d9 (.v 0) (.v 1) (.v 2) 0 0 0 (.v 3) (.v 4) (.v 5)) 0 (by kernel_rfl)
 · rw[e 0,e 1,e 2];exact Rg.dG [B 0 0,B 0 1,B 0 2,B 1 0,B 1 1,B 1 2] (d9 (.v 0) (.v 1) (.v 2) (.v 3) (.v 4) (.v 5) 0 0 0) 0 (by kernel_rfl)
theorem ED{n r t:Nat}(A:Mk K)(hr:r<n)(ht:t<n)(i k:Nat):uW n (fun i=>A (sw r t i)) i k=uW n A (sw r t i) k:=by
 unfold uW
 dsimp only
 by_cases h1:i=r
 · have e:sw r t i=t:=if_pos h1;rw[e];by_cases hk:k<n
   · rw[if_pos ⟨by omega,hk⟩,if_pos ⟨ht,hk⟩]
   · rw[if_neg (by omega),if_neg (by omega),if_neg (by omega),if_neg (by omega)]
 · by_cases h2:i=t
   · have e:sw r t i=r:=by unfold sw;rw[if_neg h1,if_pos h2]
     rw[e];by_cases hk:k<n
     · rw[if_pos ⟨by omega,hk⟩,if_pos ⟨hr,hk⟩]
     · rw[if_neg (by omega),if_neg (by omega),if_neg (by omega),if_neg (by omega)]
   · have e:sw r t i=i:=by unfold sw;rw[if_neg h1,if_neg h2]
     rw[e]
theorem BV{n r t:Nat}{A:Mk K}(hn:n≤3)(hr:r<n)(ht:t<n)(h:r≠t):ph n (fun i=>A (sw r t i))= -ph n A:=by
 unfold ph;rw[← Ae (B:=uW n A) (r:=r) (t:=t) (by omega) (by omega) h];exact iz fun i k _ _=>ED A hr ht i k
theorem BW{n r:Nat}{A:Mk K}(hn:n≤3)(hr:r<n)(f:Nat→K.T)(q:K.T):ph n (fun i k=>if i=r then A r k*q else A i k-f i*(A r k*q))=q*ph n A:=by
 unfold ph;rw[← Af (B:=uW n A) (r:=r) (by omega) (fun i=>if i<n then f i else 0) q];refine iz fun i k _ _=>?_;unfold uW
 dsimp only
 by_cases hk:k<n
 · by_cases hi:i<n
   · rw[if_pos ⟨hi,hk⟩];by_cases e:i=r
     · rw[if_pos e,if_pos e,if_pos (show r<n∧k<n from ⟨hr,hk⟩)]
     · rw[if_neg e,if_neg e,if_pos ⟨hi,hk⟩,if_pos (show r<n∧k<n from ⟨hr,hk⟩),if_pos hi]
   · rw[if_neg (show ¬(i<n∧k<n) by omega),if_neg (show ¬i=k by omega),if_neg (show ¬i=r by omega),if_neg hi,if_neg (show ¬(i<n∧k<n) by omega),if_pos (show r<n∧k<n from ⟨hr,hk⟩)];exact Rg.dG [A r k,q] 0 (0-0*(X0*X1)) rfl
 · have z:(if r<n∧k<n then A r k else if r=k then 1 else 0)=(0:K.T):=by rw[if_neg (by omega),if_neg (by omega)]
   rw[z,if_neg (show ¬(i<n∧k<n) by omega)];by_cases e:i=r
   · rw[if_pos e,if_neg (show ¬i=k by omega)];exact(Rg.zero_mul q).symm
   · rw[if_neg e,if_neg (show ¬(i<n∧k<n) by omega)];generalize (if i<n then f i else 0:K.T)=g;by_cases e2:i=k
     · rw[if_pos e2];exact Rg.dG [g,q] 1 (1-X0*(0*X1)) rfl
     · rw[if_neg e2];exact Rg.dG [g,q] 0 (0-X0*(0*X1)) rfl
theorem DD{n:Nat}(A B:Mk K)(hn:n≤3):ph n (fun i k=>sm n (fun j=>A i j*B j k))=ph n A*ph n B:=by
 unfold ph;rw[← B4];refine iz fun i k hi hk=>?_;by_cases h1:i<n
 · by_cases h2:k<n
   · rw[show uW n (fun i k=>sm n (fun j=>A i j*B j k)) i k=sm n (fun j=>A i j*B j k) from if_pos ⟨h1,h2⟩,← yU hn];refine bD fun j _=>?_;unfold uW;by_cases h3:j<n
     · rw[if_pos h3,if_pos ⟨h1,h3⟩,if_pos ⟨h3,h2⟩]
     · rw[if_neg h3,if_neg (by omega),if_neg (by omega),Rg.zero_mul]
   · rw[show uW n (fun i k=>sm n (fun j=>A i j*B j k)) i k=0 by unfold uW;rw[if_neg (by omega),if_neg (by omega)]];refine(lP fun j _=>?_).symm;unfold uW;by_cases h3:j<n
     · rw[if_neg (show ¬(j<n∧k<n) by omega),if_neg (show ¬j=k by omega),Rg.mul_zero]
     · rw[if_neg (show ¬(i<n∧j<n) by omega),if_neg (show ¬i=j by omega),Rg.zero_mul]
 · rw[q7 hi (fun j _ hj=>by
    unfold uW
    rw[if_neg (show ¬(i<n∧j<n) by omega),if_neg (Ne.symm hj),Rg.zero_mul])]
   unfold uW;rw[if_neg (show ¬(i<n∧k<n) by omega),if_neg (show ¬(i<n∧i<n) by omega),if_pos rfl,if_neg (show ¬(i<n∧k<n) by omega),Rg.one_mul]
end
theorem E9{l:List Nat}{N:Nat}(hN:l.length=N)(asc: ∀p q,p<q→q<l.length→l.getD p 0<l.getD q 0)(lt: ∀x∈l,x<N): ∀p,p<N→l.getD p 0=p:=by
 have l2: ∀p,p<N→l.getD p 0<N:=fun p hp=>by
  have hp':p<l.length:=by omega
  rw[List.getD_eq_getElem?_getD,List.getElem?_eq_getElem hp'];exact lt _ (List.getElem_mem hp')
 have up: ∀p,p<N→p≤l.getD p 0:=fun p=>by
  induction p with
  | zero=>exact fun _=>Nat.zero_le _
  | succ p ih =>
    intro hp;have:=asc p (p+1) (Nat.lt_succ_self p) (by omega);have:=ih (by omega);omega
 have dn: ∀d p,p+d+1=N→l.getD p 0+d<N:=fun d=>by
  induction d with
  | zero=>exact fun p hp=>l2 p (by omega)
  | succ d ih =>
    intro p hp;have:=asc p (p+1) (Nat.lt_succ_self p) (by omega);have:=ih (p+1) (by omega);omega
 intro p hp;have:=up p hp;have:=dn (N-1-p) p (by omega);omega
section
variable {v:List NQ} (V:jH v) (F:FV v) {a:br}
include V in
theorem A5{N:Nat}(hr:bt N a)(hl:kn v.length a): ∀c,c≤N→F.val (aH v a c).det≠0
 | 0,_=>by
   show F.val [1]≠0;rw[F.one];exact F.K.ne
 | c+1,hc=>by
   have ih:=A5 hr hl c (by omega);have R:=eQ V hr hl c;have hlen:=R.len;obtain ⟨a1,a2,a3,a4⟩:=fA v (aH v a c) c (by have:=R.cm;omega);show F.val (df v (aH v a c) c).det≠0;unfold df;by_cases h:atR v (aH v a c) c<(aH v a c).rows.length
   · rw[if_pos h];obtain ⟨h3,_⟩:=qY V F R (show c<N by omega) h;have b3:=(sG (c:=c) R h).2.2
     have hp:F.val (pR v (aH v a c) c)=vM F (aH v a c).rows (atR v (aH v a c) c) c:=by
      unfold pR vM bY;rw[sF a1 h (by omega),zH]
     have hmul:F.val (fP v (aH v a c).det (pR v (aH v a c) c))=F.val (aH v a c).det*F.val (pR v (aH v a c) c):=F.mul R.det (b3 _ _);show F.val (fP v (aH v a c).det (pR v (aH v a c) c))≠0;rw[hmul,hp];intro e;have hm:=Fd.jV h3;refine ih ?_;generalize F.val (aH v a c).det=d at e ⊢;generalize vM F (aH v a c).rows (atR v (aH v a c) c) c=p at e hm;have:d*p*F.K.inv p=0*F.K.inv p:=by rw[e]
     rw[Rg.mul_assoc,hm,Rg.mul_one,Rg.zero_mul] at this;exact this
   · rw[if_neg h];exact ih
def C1{K:Fd}(z:Int):K.T:=if z<0 then -1 else 1
theorem C0{K:Fd}{z:Int}(h:z=1∨z= -1):(C1 (-z):K.T)= -C1 z:=by
 rcases h with rfl | rfl
 · show (if (-1:Int)<0 then (-1:K.T) else 1)= -(if (1:Int)<0 then -1 else 1);rw[if_pos (by decide),if_neg (by decide)]
 · show (if (- -1:Int)<0 then (-1:K.T) else 1)= -(if (-1:Int)<0 then -1 else 1);rw[if_neg (by decide),if_pos (by decide)];exact(Rg.neg_neg _).symm
include V
theorem y5(hn:a.length≤3)(hr:bt a.length a)(hl:kn v.length a): ∀c,c≤a.length→ph a.length (vM F a)=C1 (aH v a c).sg*F.val (aH v a c).det*ph a.length (vM F (aH v a c).rows)
 | 0,_=>by
   show _=(if (1:Int)<0 then (-1:F.K.T) else 1)*F.val [1]*_;rw[if_neg (by decide),F.one,Rg.one_mul,Rg.one_mul];rfl
 | c+1,hc=>by
   have ih:=y5 hn hr hl c (by omega);have R:=eQ V hr hl c;have hlen:=R.len;obtain ⟨a1,a2,a3,a4⟩:=fA v (aH v a c) c (by have:=R.cm;omega);rw[ih];show _=C1 (df v (aH v a c) c).sg*F.val (df v (aH v a c) c).det*ph a.length (vM F (df v (aH v a c) c).rows);unfold df;by_cases h:atR v (aH v a c) c<(aH v a c).rows.length
   · rw[if_pos h];obtain ⟨h3,h4⟩:=qY V F R (show c<a.length by omega) h;have b3:=(sG (c:=c) R h).2.2;have hrm:(aH v a c).cols.length<a.length:=by omega
     have hp:F.val (pR v (aH v a c) c)=vM F (aH v a c).rows (atR v (aH v a c) c) c:=by
      unfold pR vM bY;rw[sF a1 h (by omega),zH]
     have hs:=R.sg;have hdet:=R.det;generalize atR v (aH v a c) c=t at *;generalize hs':aH v a c=s at *;generalize hM:vM F s.rows=M at *
     have e1:ph a.length (vM F (cW v (eR v s c) s.cols.length c (eR v s c).length))=F.K.inv (M t c)*ph a.length (fun i=>M (sw s.cols.length t i)):=by
      rw[← BW hn hrm (fun i=>M (sw s.cols.length t i) c) (F.K.inv (M t c))];refine pg fun i k hi hk=>?_;rw[h4 i k hi hk,zH]
     show _=C1 (if t=s.cols.length then s.sg else -s.sg)*F.val (fP v s.det (pR v s c))*ph a.length (vM F (cW v (eR v s c) s.cols.length c (eR v s c).length));have hmul:F.val (fP v s.det (pR v s c))=F.val s.det*F.val (pR v s c):=F.mul hdet (b3 _ _);rw[e1,hmul,hp];have hm:=Fd.jV h3;by_cases e:t=s.cols.length
     · rw[if_pos e]
       have e2:ph a.length (fun i=>M (sw s.cols.length t i))=ph a.length M:=pg fun i k _ _=>by
        have:sw s.cols.length t i=i:=by rw[e];unfold sw;split;rename_i g;exact g.symm;rfl
        show M (sw s.cols.length t i) k=M i k;rw[this]
       rw[e2];generalize ph a.length M=D;generalize C1 s.sg=g;generalize F.val s.det=d;generalize F.K.inv (M t c)=q at hm ⊢;generalize M t c=p at hm ⊢;rw[show g*(d*p)*(q*D)=g*d*(p*q)*D from Rg.dG [g,d,p,q,D] (X0*(X1*X2)*(X3*X4)) (X0*X1*(X2*X3)*X4) rfl,hm,Rg.mul_one]
     · rw[if_neg e,C0 hs,BV hn hrm (show t<a.length by omega) (fun g=>e g.symm)];generalize ph a.length M=D;generalize C1 s.sg=g;generalize F.val s.det=d;generalize F.K.inv (M t c)=q at hm ⊢;generalize M t c=p at hm ⊢;rw[show -g*(d*p)*(q* -D)=g*d*(p*q)*D from Rg.dG [g,d,p,q,D] (-X0*(X1*X2)*(X3* -X4)) (X0*X1*(X2*X3)*X4) rfl,hm,Rg.mul_one]
   · rw[if_neg h]
theorem vy(hn:a.length≤3)(hr:bt a.length a)(hl:kn v.length a):F.val (gN v a)=ph a.length (vM F a):=by
 have h:=y5 V F hn hr hl a.length (Nat.le_refl _);have I:=mK V F hr hl a.length (Nat.le_refl _);have R:=eQ V hr hl a.length;have lt:=uO v a a.length;rw[h];unfold gN;generalize aH v a a.length=s at *;by_cases h1:s.cols.length<a.length
 · rw[if_pos h1,BU hn h1 (fun k hk=>I.zr s.cols.length k (Nat.le_refl _) h1 hk),F.nil,Rg.mul_zero]
 · rw[if_neg h1];have hc:s.cols.length=a.length:=by have:=R.cm;omega
   have hid: ∀p,p<a.length→s.cols.getD p 0=p:=E9 (by rw[hc]) (fun p q h1 h2=>I.asc p q h1 h2) lt
   rw[DC (fun i k hi hk=>by
    have:=I.piv k i (by omega) hi;rw[hid k hk] at this
    exact this),Rg.mul_one]
   by_cases hg:s.sg<0
   · rw[if_pos hg,F.neg R.det,show (C1 s.sg:F.K.T)= -1 from if_pos hg];exact Rg.dG [F.val s.det] (-X0) (-1*X0) rfl
   · rw[if_neg hg,show (C1 s.sg:F.K.T)=1 from if_neg hg,Rg.one_mul]
theorem BZ(hn:a.length≤3)(hr:bt a.length a)(hl:kn v.length a):F.val (gN v a)=0↔(aH v a a.length).cols.length<a.length:=by
 have h:=A5 V F hr hl a.length (Nat.le_refl _);have R:=eQ V hr hl a.length;unfold gN;generalize aH v a a.length=s at *;by_cases h1:s.cols.length<a.length
 · rw[if_pos h1];exact⟨fun _=>h1,fun _=>F.nil⟩
 · rw[if_neg h1];refine⟨fun e=>?_,fun g=>absurd g h1⟩;by_cases hg:s.sg<0
   · rw[if_pos hg,F.neg R.det] at e;exact absurd (by rw[← Rg.neg_neg (F.val s.det),e];exact Rg.neg_zero) h
   · rw[if_neg hg] at e;exact absurd e h
end
end Lift
namespace Lift
open Go Go.Proofs
theorem yF{v:List NQ}{a:br}{k:Nat}(L:Lo v)(G:sK v a)(hs:kx k a)(h2:2≤k)(hk:k≤1000000):Pure Tryz.prog 20 [bF v,eO a] aj:=by
 have V:=L.V.mono h2 hk;obtain ⟨r1,r2⟩:=G.raw V hs;have cc:=eK (V.s (mS L.l1 (by omega))) r1;rw[r2,kK,rh] at cc;exact cc
theorem zR{v:List NQ}{a:br}{k:Nat}(L:Lo v)(G:sK v a)(hs:kx k a)(h2:2≤k)(hk:k≤1000000)(hc:gI k (au a)≤100000000000):Pure Tryz.prog 13 [bF v,eO a] (.tu [dI (gu v a).cols.length,aj]) :=
 kX (L.V.mono h2 hk) (mS L.l1 (by omega)) G hs (L.red G.r G.lt hs hc).1
theorem mj{rt:List (List RD)}{a b:List (List (List RD))}(cv:Pure Tryz.prog 24 [TrD rt,MxR a] (dB false)):Pure Tryz.prog 5 [TrD rt,MxR a,MxR b] (dB true):=by
 have ca:=fr;refine qJ 184 Tryz.func5 rfl rfl rfl rfl (by kernel_rfl) (fun B F0 w0=>?_);refine qX 2 rfl ?_;refine qI ?_;refine qX 2 rfl ?_;refine ab.call tok rfl rfl rfl rfl cv ?_;refine qU 46 rfl ?_;refine ab.nil ?_;refine AW.aF rfl ?_
 · skip
   refine AW.seq (AW.region ?_);refine ab.call tok rfl rfl rfl rfl ca ?_;refine qU 1 rfl ?_;exact qN rfl
theorem mh{rt:List (List RD)}{a b:List (List (List RD))}(cv:Pure Tryz.prog 24 [TrD rt,MxR a] (dB true))(cw:Pure Tryz.prog 24 [TrD rt,MxR b] (dB false)):Pure Tryz.prog 5 [TrD rt,MxR a,MxR b] (dB true):=by
 have ca:=fr;refine qJ 184 Tryz.func5 rfl rfl rfl rfl (by kernel_rfl) (fun B F0 w0=>?_);refine qX 2 rfl ?_;refine qI ?_;refine qX 2 rfl ?_;refine ab.call tok rfl rfl rfl rfl cv ?_;refine qU 4 rfl ?_;refine ab.call tok rfl rfl rfl rfl cw ?_;refine qU 41 rfl ?_;refine ab.nil ?_;refine AW.aF rfl ?_
 · skip
   refine AW.seq (AW.region ?_);refine ab.call tok rfl rfl rfl rfl ca ?_;refine qU 1 rfl ?_;exact qN rfl
structure Fg (q p:br):Prop where
 q0:0<q.length
 q3:q.length≤3
 ql:p.length=q.length
 qc:au q=q.length
 pc:au p=q.length
theorem mY{v:List NQ}{q p:br}(cv:Pure Tryz.prog 24 [bF v,eO q] (dB true))(cw:Pure Tryz.prog 24 [bF v,eO p] (dB true))(hb: ¬Fg q p):Pure Tryz.prog 5 [bF v,eO q,eO p] (dB true):=by
 have ca:=fr;refine qJ 184 Tryz.func5 rfl rfl rfl rfl (by kernel_rfl) (fun B F0 w0=>?_);refine qX 2 rfl ?_;refine ab.nil ?_;refine AW.cut [] (fun _:Unit=>[]) (fun _=>False) ?_ (fun _ h=>h.elim);refine qX 2 rfl ?_;refine ab.call tok rfl rfl rfl rfl cv ?_;refine qU 4 rfl ?_;refine ab.call tok rfl rfl rfl rfl cw ?_;refine qU 5 rfl ?_;rw[List.length_map];refine qU 1 rfl ?_;by_cases h0:0<q.length;rotate_left
 · rw[beq_iff_eq.2 (show (q.length:Int)=0 by omega)];refine qU 35 rfl ?_;refine ab.nil ?_;refine AW.aF rfl ?_;refine AW.seq (AW.region ?_);refine ab.call tok rfl rfl rfl rfl ca ?_;refine qU 1 rfl ?_;exact qN rfl
 rw[beq_eq_false_iff_ne.2 (show (q.length:Int)≠0 by omega)];refine qU 4 rfl ?_;rw[List.length_map];refine qU 1 rfl ?_;by_cases h1:q.length≤3;rotate_left
 · rw[decide_eq_true (show (3:Int)<(q.length:Int) by omega)];refine qU 30 rfl ?_;refine ab.nil ?_;refine AW.aF rfl ?_;refine AW.seq (AW.region ?_);refine ab.call tok rfl rfl rfl rfl ca ?_;refine qU 1 rfl ?_;exact qN rfl
 rw[decide_eq_false (show ¬(3:Int)<(q.length:Int) by omega)];refine qU 4 rfl ?_;rw[List.length_map];refine qU 2 rfl ?_;rw[List.length_map];refine qU 1 rfl ?_;by_cases h2:p.length=q.length;rotate_left
 · rw[bne_iff_ne.2 (show (q.length:Int)≠(p.length:Int) by omega)];refine qU 23 rfl ?_;refine ab.nil ?_;refine AW.aF rfl ?_;refine AW.seq (AW.region ?_);refine ab.call tok rfl rfl rfl rfl ca ?_;refine qU 1 rfl ?_;exact qN rfl
 rw[bne_eq_false_iff_eq.2 (show (q.length:Int)=(p.length:Int) by omega)];have gq:=getM eM (l:=q) (i:=0) (by omega);have hcq:au q=(q.getD 0 []).length:=rfl;refine qU 3 rfl ?_;refine ab.idx tok (eM (q.getD 0 [])) rfl rfl rfl rfl (Int.le_refl _) gq ?_;refine qU 2 rfl ?_;rw[List.length_map];refine qU 2 rfl ?_;rw[List.length_map];refine qU 1 rfl ?_;by_cases h3:au q=q.length;rotate_left
 · rw[bne_iff_ne.2 (show ((q.getD 0 []).length:Int)≠(q.length:Int) by omega)];refine qU 14 rfl ?_;refine ab.nil ?_;refine AW.aF rfl ?_;refine AW.seq (AW.region ?_);refine ab.call tok rfl rfl rfl rfl ca ?_;refine qU 1 rfl ?_;exact qN rfl
 rw[bne_eq_false_iff_eq.2 (show ((q.getD 0 []).length:Int)=(q.length:Int) by omega)];have gp:=getM eM (l:=p) (i:=0) (by omega);have hcp:au p=(p.getD 0 []).length:=rfl;refine qU 3 rfl ?_;refine ab.idx tok (eM (p.getD 0 [])) rfl rfl rfl rfl (Int.le_refl _) gp ?_;refine qU 2 rfl ?_;rw[List.length_map];refine qU 2 rfl ?_;rw[List.length_map];refine qU 1 rfl ?_;have h4:au p≠q.length:=fun h=>hb ⟨h0,h1,h2,h3,h⟩;rw[bne_iff_ne.2 (show ((p.getD 0 []).length:Int)≠(q.length:Int) by omega)];refine qU 5 rfl ?_;refine ab.nil ?_;refine AW.aF rfl ?_;refine AW.seq (AW.region ?_);refine ab.call tok rfl rfl rfl rfl ca ?_;refine qU 1 rfl ?_;exact qN rfl
set_option maxHeartbeats 1600000 in
theorem mZ{v:List NQ}{q p:br}(L:Lo v)(Gq:sK v q)(sq:kx 2 q)(Gp:sK v p)(sp:kx 2 p)(S:Fg q p)(cv:Pure Tryz.prog 24 [bF v,eO q] (dB true))(cw:Pure Tryz.prog 24 [bF v,eO p] (dB true)):Pure Tryz.prog 5 [bF v,eO q,eO p] (dB true):=by
 have ca:=fr;obtain ⟨h0,h1,h2,h3,h4⟩:=S;have rq:bt q.length q:=by have:=Gq.r;rw[h3] at this;exact this
 have rp:bt p.length p:=by have:=Gp.r;rw[h4,← h2] at this;exact this
 have dk:=fun i k=>L.dot (Gq.lt i) (fun j=>by rw[iA];exact Gp.lt j k) (sq i) (fun j=>by rw[iA];exact sp j k) (n:=au q) (by omega) (by decide);have cM:=s8 L.V.a (l6 L Gq sq) (ye L.V Gp (fun i k=>L.sg (Gp.lt i k) (sp i k) (by decide))) (by omega) Gq.r Gq.lt (by omega) (by omega) Gp.r (by omega) Gp.lt (fun i k _ _=>(dk i k).1)
 have sm':kx 37 (bw v q p):=tV (p:=aq 37) (bc (by decide)) (fun i k hi _=>by
  rw[Gq.r i hi];refine(dk i k).2.mono ?_;have:au q*(2*(2+2)+4)≤3*(2*(2+2)+4):=Nat.mul_le_mul_right _ (by omega)
  omega)
 have hml:=jo v q p;have rm0:=mP v q p
 have hmc:au (bw v q p)=q.length:=by
  have:=rm0 0 (by omega);rw[h4] at this;exact this
 have lm:=Bc L.V.a Gq.lt Gp.lt;have Gm:sK v (bw v q p):=⟨by omega,by rw[hmc,← h4];exact rm0,by omega,lm⟩;have rm:bt (bw v q p).length (bw v q p):=by rw[hml,← h4];exact rm0
 have g2: ∀k,k≤3→gI 2 k≤100000000000∧gI 37 k≤100000000000:=fun k hk=>⟨Nat.le_trans (eL hk) (by decide),Nat.le_trans (eL hk) (by decide)⟩;have c2:=f' (l6 L Gq sq) h3 (qy L (by omega) rq Gq.lt sq (g2 _ h1).1);have c3:=f' (l6 L Gp sp) (by omega) (qy L (by omega) rp Gp.lt sp (g2 _ (by omega)).1);have c4:=f' (yF L Gm sm' (by decide) (by decide)) (by omega) (qy L (by omega) rm lm sm' (g2 _ (by omega)).2)
 have dsz: ∀(a:br) (k:Nat),a.length≤3→bt a.length a→kn v.length a→kx k a→gI k 3≤100000000→ak v.length (gN v a)∧aq (gI k 3) (gN v a):=fun a k hl hr lt hs hg=>by
  have R:=L.red hr lt hs (n:=a.length) (Nat.le_trans (eL hl) (by omega));have D:=(eQ L.V.a hr lt a.length).det;have sD:=(R.2.2.1 _ (Nat.le_refl _)).mono (eL hl);unfold gN;split
  · exact⟨bn _,bc sD.pos⟩
  · split
    · exact Dg D sD
    · exact⟨D,sD⟩
 obtain ⟨lx,sx⟩:=dsz q 2 h1 rq Gq.lt sq (by decide);obtain ⟨ly,sy⟩:=dsz p 2 (by omega) rp Gp.lt sp (by decide);obtain ⟨lz,sz⟩:=dsz (bw v q p) 37 (by omega) rm lm sm' (by decide);obtain ⟨m1,m2,m3⟩:=L.mul lx sx ly sy (by decide);have c5:=jN L.V.a lx ly m1;have c6:=kA L.V.a lx (L.sg lx sx (by decide));have c7:=mA L Gq sq (by omega);have c8:=zR L Gm sm' (by decide) (by decide) (g2 _ (by omega)).2;have c9:=rk L Gq sq (by omega);have c10:=rk L Gp sp (by omega);obtain ⟨F⟩:=D' L.V
 have hval:F.val (gN v (bw v q p))=F.val (fP v (gN v q) (gN v p)):=by
  rw[F.mul lx ly,vy L.V.a F (by omega) rm lm,vy L.V.a F h1 rq Gq.lt,vy L.V.a F (by omega) rp Gp.lt,hml,h2,← DD _ _ h1];exact pg fun i k hi hk=>tS L.V.a F rq Gq.lt Gp.lt hi (by omega)
 have cE:=uR (xs:=[gN v (bw v q p)]) (ys:=[fP v (gN v q) (gN v p)]) (k:=1000000000) L rfl (Nat.le_of_ble_eq_true rfl) (fun j=>match j with
  | 0=>lz
  | j+1=>bn _) (fun j=>match j with
  | 0=>m2
  | j+1=>bn _) (fun j=>match j with
  | 0=>sz.mono (by decide)
  | j+1=>bc (by decide)) (fun j=>match j with
  | 0=>m3.mono (by decide)
  | j+1=>bc (by decide)) (by decide) (fun j hj=>match j,hj with
  | 0,_=>F.eq.2 hval)
 have hsg:oF v (gN v q)=0↔0<(wi v q).length:=by
  rw[F.sg lx,BZ L.V.a F h1 rq Gq.lt,A6 L.V Gq];have e:aH v q q.length=gu v q:=by unfold gu;rw[h3]
  rw[e];have:=(uP L.V.a Gq).1;omega
 have hrk:(gu v (bw v q p)).cols.length≤(gu v q).cols.length∧(gu v (bw v q p)).cols.length≤(gu v p).cols.length:=by
  have I1:=mK L.V.a F Gq.r Gq.lt (au q) (Nat.le_refl _);have I2:=mK L.V.a F Gp.r Gp.lt (au p) (Nat.le_refl _);have I3:=mK L.V.a F Gm.r Gm.lt (au (bw v q p)) (Nat.le_refl _);have f1:pV q.length (au q) (gu v q).cols.length (vM F q):=I1.Fp.2 (Nat.le_refl _);have f2:pV p.length (au p) (gu v p).cols.length (vM F p):=I2.Fp.2 (Nat.le_refl _);have e: ∀i k,i<(bw v q p).length→k<au (bw v q p)→vM F (bw v q p) i k=sm (au q) (fun j=>vM F q i j*vM F p j k):=fun i k hi hk=>tS L.V.a F Gq.r Gq.lt Gp.lt (by omega) (by omega);refine⟨I3.Fp.1 ?_,I3.Fp.1 ?_⟩
  · have g:=pV.mul (l:=au (bw v q p)) (B:=vM F p) f1;rw[← hml] at g;exact g.congr fun i k hi hk=>(e i k hi hk).symm
  · have f3:=f2;rw[h2,← h3,show au p=au (bw v q p) by omega] at f3;have g:=pV.mul' (m:=(bw v q p).length) (A:=vM F q) f3;exact g.congr fun i k hi hk=>(e i k hi hk).symm
 have gq:=getM eM (l:=q) (i:=0) (by omega);have hcq:au q=(q.getD 0 []).length:=rfl;have gp:=getM eM (l:=p) (i:=0) (by omega);have hcp:au p=(p.getD 0 []).length:=rfl;clear hval sz sm' dk dsz rm0 Gm rm;generalize bw v q p=M at *;generalize (gu v M).cols.length=n1 at *;generalize (gu v q).cols.length=n2 at *;generalize (gu v p).cols.length=n3 at *;generalize wi v q=rl at *;generalize hx:gN v q=x at *;generalize gN v p=y at *;generalize gN v M=z at *;generalize fP v x y=w at *;generalize oF v x=sg at *;refine qJ 184 Tryz.func5 rfl rfl rfl rfl (by kernel_rfl) (fun B F0 w0=>?_);refine qX 2 rfl ?_;refine qI ?_;refine qX 2 rfl ?_;refine ab.call tok rfl rfl rfl rfl cv ?_;refine qU 4 rfl ?_;refine ab.call tok rfl rfl rfl rfl cw ?_;refine qU 5 rfl ?_;rw[List.length_map];refine qU 1 rfl ?_;rw[beq_eq_false_iff_ne.2 (show (q.length:Int)≠0 by omega)];refine qU 4 rfl ?_;rw[List.length_map];refine qU 1 rfl ?_;rw[decide_eq_false (show ¬(3:Int)<(q.length:Int) by omega)];refine qU 4 rfl ?_;rw[List.length_map];refine qU 2 rfl ?_;rw[List.length_map];refine qU 1 rfl ?_;rw[bne_eq_false_iff_eq.2 (show (q.length:Int)=(p.length:Int) by omega)];refine qU 3 rfl ?_;refine ab.idx tok (eM (q.getD 0 [])) rfl rfl rfl rfl (Int.le_refl _) gq ?_;refine qU 2 rfl ?_;rw[List.length_map];refine qU 2 rfl ?_;rw[List.length_map];refine qU 1 rfl ?_;rw[bne_eq_false_iff_eq.2 (show ((q.getD 0 []).length:Int)=(q.length:Int) by omega)];refine qU 3 rfl ?_;refine ab.idx tok (eM (p.getD 0 [])) rfl rfl rfl rfl (Int.le_refl _) gp ?_;refine qU 2 rfl ?_;rw[List.length_map];refine qU 2 rfl ?_;rw[List.length_map];refine qU 1 rfl ?_;rw[bne_eq_false_iff_eq.2 (show ((p.getD 0 []).length:Int)=(q.length:Int) by omega)];refine qU 2 rfl ?_;refine ab.call tok rfl rfl rfl rfl ca ?_;refine qU 2 rfl ?_;refine ab.nil ?_;refine AW.ay rfl ?_
 · skip
   refine AW.skip ?_;refine qX 3 rfl ?_;refine ab.call tok rfl rfl rfl rfl cM ?_;refine qU 5 rfl ?_;refine qK 2 rfl ?_;refine ab.call tok rfl rfl rfl rfl c2 ?_;refine qU 5 rfl ?_;refine qK 2 rfl ?_;refine ab.call tok rfl rfl rfl rfl c3 ?_;refine qU 5 rfl ?_;refine qK 2 rfl ?_;refine ab.call tok rfl rfl rfl rfl c4 ?_;refine qU 5 rfl ?_;refine qK 3 rfl ?_;refine ab.call tok rfl rfl rfl rfl c5 ?_;refine qU 5 rfl ?_;refine qK 2 rfl ?_;refine ab.call tok rfl rfl rfl rfl c6 ?_;refine qU 5 rfl ?_;refine qK 2 rfl ?_;refine ab.call tok rfl rfl rfl rfl c7 ?_;refine qU 5 rfl ?_;refine qK 2 rfl ?_;refine ab.call tok rfl rfl rfl rfl c8 ?_;refine qU 5 rfl ?_;refine qK 2 rfl ?_;refine ab.call tok rfl rfl rfl rfl c9 ?_;refine qU 5 rfl ?_;refine qK 2 rfl ?_;refine ab.call tok rfl rfl rfl rfl c10 ?_;refine qU 5 rfl ?_;refine qI ?_;refine qX 10 rfl ?_;refine ab.fI tok rfl rfl rfl rfl rfl ?_;refine qU 2 rfl ?_;refine ab.nil ?_;refine AW.block ?_;refine AW.aE [3,13,15,17,19,21,23,25,151,152,153] (fun i:Nat=>[(3,.bx [.sl 1 (v.map af)]),(13,.d (af z)),(15,.d (af w)),(17,.d (dI sg)),(19,.d (xm rl)),(21,.d (dI n1)),(23,.d (dI n2)),(25,.d (dI n3)),(151,.d (.sl 1 (List.replicate 10 aj))),(152,.d (dI 10)),(153,.d (dI i))]) (fun i=>i≤10) (fun i=>10-i) 0 rfl (Nat.zero_le _) (fun i hi=>?_)
   · show AW _ _ _ _ _ _ _ [(3,.bx [.sl 1 (v.map af)]),(13,.d (af z)),(15,.d (af w)),(17,.d (dI sg)),(19,.d (xm rl)),(21,.d (dI n1)),(23,.d (dI n2)),(25,.d (dI n3)),(151,.d (.sl 1 (List.replicate 10 aj))),(152,.d (dI 10)),(153,.d (dI i))];refine qX 1 rfl ?_;refine qI ?_;refine AW.cond rfl (fun h=>?_) (fun h=>?_)
     · have hii:i<10:=by have:=of_decide_eq_true h;omega
       refine AW.skip (AW.seq (AW.block (AW.seq (AW.region ?_))));refine ab.idx tok aj rfl rfl rfl rfl (Int.natCast_nonneg i) (by rw[show ((i:Int)).toNat=i from rfl,List.getElem?_replicate,if_pos hii]) ?_;refine qU 2 rfl ?_;refine qK 1 rfl ?_;refine ab.err tok rfl rfl rfl rfl rfl ?_;refine ab.nil ?_;refine AW.ay rfl ?_
       · skip
         refine AW.skip ?_;refine qT 1 rfl ?_;rw[aD (x:=(i:Int)+1) (by omega) (by omega)];refine qU 1 rfl ?_;refine ab.nil ?_;exact⟨i+1,rfl,hii,by omega⟩
     refine AW.exit ?_;refine qX 2 rfl ?_;refine ab.fI tok rfl rfl rfl rfl rfl ?_;refine qU 1 rfl ?_;refine ab.fI tok rfl rfl rfl rfl rfl ?_;refine ab.call tok rfl rfl rfl rfl cE ?_;refine qU 5 rfl ?_;rw[List.length_map];refine qU 1 rfl ?_;refine ab.be tok rfl rfl rfl rfl ?_
     rw[show ((sg==0)==decide ((0:Int)<(rl.length:Int)))=true by
      by_cases g:sg=0
      · rw[beq_iff_eq.2 g,decide_eq_true (show (0:Int)<(rl.length:Int) by have:=hsg.1 g;omega)];rfl
      · rw[beq_eq_false_iff_ne.2 g,decide_eq_false (show ¬(0:Int)<(rl.length:Int) from fun e=>g (hsg.2 (by omega)))];rfl]
     refine qU 5 rfl ?_;rw[decide_eq_true (show (n1:Int)≤(n2:Int) by omega)];refine qU 5 rfl ?_;rw[decide_eq_true (show (n1:Int)≤(n3:Int) by omega)];refine qU 2 rfl ?_;exact qN rfl
theorem law10_Products_ok(rt:List (List RD))(a b:List (List (List RD)))(n1:Nb2 rt)(n2:Nb3 a)(n3:Nb3 b):Pure Tryz.prog 5 [TrD rt,MxR a,MxR b] (dB true):=by
 have cv:=kZ rt a n1 n2;have cw:=kZ rt b n1 n3;by_cases hv:ov rt a=true
 · rw[hv] at cv;by_cases hw:ov rt b=true
   · rw[hw] at cw;have A:=uw n1 n2 hv;have C:=uw n1 n3 hw;rw[A.t,A.m] at cv;rw[C.t,C.m] at cw;rw[A.t,A.m,C.m];by_cases hs:Fg (p6 a) (p6 b)
     · exact mZ A.L A.G A.s C.G C.s hs cv cw
     · exact mY cv cw hs
   · simp only[Bool.not_eq_true] at hw;rw[hw] at cw;exact mh cv cw
 · simp only[Bool.not_eq_true] at hv;rw[hv] at cv;exact mj cv
end Lift

