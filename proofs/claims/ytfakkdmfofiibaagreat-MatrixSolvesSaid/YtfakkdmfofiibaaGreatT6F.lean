/- Parts of the proof, one behind the other: the logic, the contracts of the functions that the statement reaches. -/
import Derived.Test.YtfakkdmfofiibaaGreatT6E
set_option linter.unusedVariables false
set_option linter.unusedSimpArgs false
namespace Lift
open Go Go.Proofs
theorem Jl:RT Tryz.prog 53 (List RD) (fun l=>[dn l]) (fun l=>JF l) :=
 (RT.sliceB 32 (el:=RD.D) (s:=3) Tryz.underlying53 (by kernel_rfl) (by kernel_rfl) (by decide) (Nat.le_of_ble_eq_true (by kernel_rfl)) I2 (fun v=>rfl)).map id (fun l h=>rfl) (fun l h=>⟨by have:=h.1;unfold reachBytes at this;show l.length≤_;omega,yk (fun v hv=>(h.2 v hv).mono (by decide)) ⟨fun _ h=>(by cases h),fun _ h=>(by cases h),Nat.zero_le _,Nat.zero_le _⟩⟩) (fun v=>⟨by kernel_rfl,fun d hd=>by simp at hd;subst hd;rfl⟩)
theorem n_nums:RT Tryz.prog 22 (List (List RD)) (fun l=>[RwR l]) (fun l=>Nb2 l) :=
 (RT.slice (el:=dn) (s:=1) (by kernel_rfl) (by kernel_rfl) (by kernel_rfl) (by decide) (Nat.le_of_ble_eq_true (by kernel_rfl)) Jl (fun v=>rfl)).map id (fun l h=>rfl) (fun l h=>⟨Nat.le_trans h.1 (by decide),fun i=>yk (p:=JF) (l:=l) h.2 EC i⟩) (fun v=>⟨by kernel_rfl,fun d hd=>by simp at hd;subst hd;rfl⟩)
theorem GN:Nb2 []:=⟨Nat.zero_le _,fun _=>EC⟩
theorem n_mat:RT Tryz.prog 25 (List (List (List RD))) (fun l=>[MxR l]) (fun l=>Nb3 l) :=
 (RT.slice (el:=RwR) (s:=1) (by kernel_rfl) (by kernel_rfl) (by kernel_rfl) (by decide) (Nat.le_of_ble_eq_true (by kernel_rfl)) n_nums (fun v=>rfl)).map id (fun l h=>rfl) (fun l h=>⟨Nat.le_trans h.1 (by decide),fun i=>yk (p:=Nb2) (l:=l) h.2 GN i⟩) (fun v=>⟨by kernel_rfl,fun d hd=>by simp at hd;subst hd;rfl⟩)
theorem n_tower:RT Tryz.prog 24 (List (List RD)) (fun l=>[RwR l]) (fun l=>Nb2 l):=by
 have h:=RT.struct (P:=Tryz.prog) (t:=24) (m:=1) Tryz.underlying24 (by kernel_rfl) (Dz.cons (by kernel_rfl) n_nums Dz.nil) (fun v=>rfl);exact h.map (fun v=>v.1) (fun v h=>rfl) (fun v h=>h.1) (fun v=>⟨by kernel_rfl,fun d hd=>by simp at hd;subst hd;rfl⟩)
end Lift
namespace Lift
open Go Go.Proofs
def sH:List NQ:=[[2]]
def Cy:a9:=[[[1],[0,1]],[[0,1],[2]]]
def E3:a9:=[[[1],[0,1]],[[0,1],[1]]]
theorem nX:Lo sH:=by
 have s2:fp 2 sH:=fun i=>match i with
  | 0=>iR (by decide +kernel)
  | i+1=>aY (by decide)
 refine⟨⟨by decide,fun k hk=>?_,s2,fun k hk=>?_,by decide,2,by decide,by decide,s2,o6 (by decide) (by decide)⟩,by decide⟩
 · have hk:k<1:=hk;obtain rfl:k=0:=by omega
   rfl
 · have hk:k<1:=hk;obtain rfl:k=0:=by omega
   decide +kernel
theorem Cx{a:a9}(h:a=Cy∨a=E3):Aw sH a∧kG 2 a∧a.length=2∧ak a=2:=by
 have hl: ∀b:a9,b=Cy∨b=E3→ ∀i k,aC 1 (aW b i k)∧au 2 (aW b i k):=fun b hb i k=>by
  have key: ∀q:Rat,q=0∨q=1∨q=2→LQ q≤2:=fun q hq=>by rcases hq with rfl | rfl | rfl<;>decide +kernel
  have g1: ∀q:Rat,LQ q≤2→aC 1 [q]∧au 2 [q]:=fun q hq=>⟨gl _ _,iR hq⟩
  have g2:aC 1 [(0:Rat),1]∧au 2 [(0:Rat),1]:=⟨.inr ⟨1,by decide,rfl⟩,fun c=>match c with
   | 0=>key 0 (.inl rfl)
   | 1=>key 1 (.inr (.inl rfl))
   | c+2=>mj (by decide)⟩
  have g0:aC 1 []∧au 2 []:=⟨bn _,aY (by decide)⟩;rcases hb with rfl | rfl
  · match i,k with
    | 0,0=>exact g1 1 (key 1 (.inr (.inl rfl)))
    | 0,1=>exact g2
    | 0,k+2=>exact g0
    | 1,0=>exact g2
    | 1,1=>exact g1 2 (key 2 (.inr (.inr rfl)))
    | 1,k+2=>exact g0
    | i+2,k=>exact g0
  · match i,k with
    | 0,0=>exact g1 1 (key 1 (.inr (.inl rfl)))
    | 0,1=>exact g2
    | 0,k+2=>exact g0
    | 1,0=>exact g2
    | 1,1=>exact g1 1 (key 1 (.inr (.inl rfl)))
    | 1,k+2=>exact g0
    | i+2,k=>exact g0
 have hlen:a.length=2∧ak a=2:=by rcases h with rfl | rfl<;>exact⟨rfl,rfl⟩
 refine⟨⟨by omega,fun j hj=>?_,by omega,fun i k=>(hl a h i k).1⟩,fun i k=>(hl a h i k).2,hlen⟩;rcases h with rfl | rfl
 · match j,hj with
   | 0,_=>rfl
   | 1,_=>rfl
 · match j,hj with
   | 0,_=>rfl
   | 1,_=>rfl
theorem Ev{v:List NQ}(L:Lo v):nS v.length 2:=o6 L.l1 (by decide)
theorem vp: ∀{n:Nat},n≤5→gI 2 n≤100000000000:=fun {n} h=>Nat.le_trans (fN h) (by decide)
theorem jQ{v:List NQ}{a:a9}(L:Lo v)(G:Aw v a)(hs:kG 2 a):Pure Tryz.prog 20 [bA v,bh a] aN:=by
 obtain ⟨r1,r2⟩:=G.raw L.V hs;have cc:=gj (L.V.s (Ev L)) r1;rw[r2,mV,xM] at cc;exact cc
theorem Ej{v:List NQ}{a:a9}(L:Lo v)(G:Aw v a)(hs:kG 2 a)(hc:ak a≤5):Pure Tryz.prog 13 [bA v,bh a] (.tu [dI (Ef v a).cols.length,aN]) :=
 u6 L.V (Ev L) G hs (L.red G.r G.lt hs (vp hc)).1
theorem F8{a:a9}{k:Nat}(hs:kG k a):kG k (fe a):=wK (p:=au k) (aY hs.pos) hs
theorem wg{v:List NQ}{a:a9}(L:Lo v)(G:Aw v a)(hs:kG 2 a)(hl:a.length≤5):Pure Tryz.prog 15 [bA v,bh a] (.tu [tf (Gx v a),aN]) :=
 od L.V (Ev L) G hs (L.red (oO a) (tX G.lt) (F8 hs) (vp hl)).1
theorem Cz{v:List NQ}{a:a9}{k:Nat}(L:Lo v)(hl:a.length≤5)(hr:bm a.length a)(lt:kd v.length a)(hs:kG k a)(hk:gI k a.length≤100000000000):Pure Tryz.prog 60 [bA v,bh a] (.tu [ai (qF v a),aN]):=by
 have R:=L.red hr lt hs hk;exact wv L.V.a (by omega) hr lt R.1 ((R.2.2.1 _ (ao _)).mono (by omega))
theorem rJ(n:Int)(h: -1000≤n∧n≤1000):Pure Tryz.prog 44 [.sl 1 [dI n]] (ai [(n:Rat)]) :=
 sC [n] (Nat.le_of_ble_eq_true rfl) (fun i=>match i with
  | 0=>h
  | i+1=>by show (-1000:Int)≤0∧(0:Int)≤1000;omega)
theorem Bo:Pure Tryz.prog 44 [.sl 1 [dI 0,dI 1]] (ai [(0:Rat),(1:Rat)]) :=
 sC [0,1] (by decide) (fun i=>match i with
  | 0=>by decide
  | 1=>by decide
  | i+2=>by show (-1000:Int)≤0∧(0:Int)≤1000;omega)
theorem fA:Pure Tryz.prog 12 [] (dB true):=by
 refine qJ 97 Tryz.func12 rfl rfl rfl rfl (by kernel_rfl) (fun B F0 w0=>?_);obtain ⟨GA,sA,_,cA⟩:=Cx (.inl rfl);obtain ⟨GB,sB,lB,cB⟩:=Cx (.inr rfl);have c1:=Ej nX GA sA (by decide);have c2:=wg nX GA sA (by decide);have c3:=oA (jQ nX GB sB) (by decide) (Cz nX (by decide) GB.r GB.lt sB (by decide));rw[show (Ef sH Cy).cols.length=1 by decide +kernel] at c1;rw[show Gx sH Cy=[1] by decide +kernel] at c2;rw[show qF sH E3=[-1] by decide +kernel] at c3;have sm:au 2 [(-1:Rat)]:=iR (by decide +kernel);have lm:aC 1 [(-1:Rat)]:=gl _ _;have c4:=AN (v:=sH) (a:=[-1]) (b:=[-1]) nX.V.a lm lm (sm.mono (by decide)) (sm.mono (by decide)) (nX.sg (lm.plus lm.minus) (sm.plus sm.minus) (by decide));rw[show jI sH (aS [-1] (aK [-1]))=0 by decide +kernel] at c4;have o1:=rJ 1 (by decide);have o2:=rJ 2 (by decide);have om:=rJ (-1) (by decide);have o01:=Bo;have cI:=wF [1] [1] (by decide);have e1:((1:Int):Rat)=1:=rfl;have e2:((2:Int):Rat)=2:=rfl;have em:((-1:Int):Rat)= -1:=rfl;rw[e1] at o1;rw[e2] at o2;rw[em] at om;refine qX 1 rfl ?_;refine qI (AW.region ?_);refine ab.e7 tok rfl rfl rfl rfl rfl ?_;refine ab.call tok rfl rfl rfl rfl o2 ?_;refine ab.e7 tok rfl rfl rfl rfl rfl ?_;refine qU 3 rfl ?_;refine qI (AW.draw aP 17 (by kernel_rfl) ?_);refine qP 1 rfl ?_;refine af.e7 tok rfl rfl rfl rfl rfl rfl ?_;refine af.call tok rfl rfl rfl rfl rfl o1 ?_;refine af.e7 tok rfl rfl rfl rfl rfl rfl ?_;refine af.call tok rfl rfl rfl rfl rfl o01 ?_;refine af.e7 tok rfl rfl rfl rfl rfl rfl ?_;refine af.e7 tok rfl rfl rfl rfl rfl rfl ?_;refine af.call tok rfl rfl rfl rfl rfl o01 ?_;refine af.e7 tok rfl rfl rfl rfl rfl rfl ?_;refine af.call tok rfl rfl rfl rfl rfl o2 ?_;refine af.e7 tok rfl rfl rfl rfl rfl rfl ?_;refine af.e7 tok rfl rfl rfl rfl rfl rfl ?_;refine af.call tok rfl rfl rfl rfl rfl c1 ?_;refine qP 4 rfl ?_;refine af.nil ?_;refine qU 1 rfl ?_;refine qI (AW.draw aP 17 (by kernel_rfl) ?_);refine qP 1 rfl ?_;refine af.e7 tok rfl rfl rfl rfl rfl rfl ?_;refine af.call tok rfl rfl rfl rfl rfl o1 ?_;refine af.e7 tok rfl rfl rfl rfl rfl rfl ?_;refine af.call tok rfl rfl rfl rfl rfl o01 ?_;refine af.e7 tok rfl rfl rfl rfl rfl rfl ?_;refine af.e7 tok rfl rfl rfl rfl rfl rfl ?_;refine af.call tok rfl rfl rfl rfl rfl o01 ?_;refine af.e7 tok rfl rfl rfl rfl rfl rfl ?_;refine af.call tok rfl rfl rfl rfl rfl o2 ?_;refine af.e7 tok rfl rfl rfl rfl rfl rfl ?_;refine af.e7 tok rfl rfl rfl rfl rfl rfl ?_;refine af.call tok rfl rfl rfl rfl rfl c2 ?_;refine qP 4 rfl ?_;refine af.nil ?_;refine qU 1 rfl ?_;refine qI (AW.draw aP 17 (by kernel_rfl) ?_);refine qP 1 rfl ?_;refine af.e7 tok rfl rfl rfl rfl rfl rfl ?_;refine af.call tok rfl rfl rfl rfl rfl o1 ?_;refine af.e7 tok rfl rfl rfl rfl rfl rfl ?_;refine af.call tok rfl rfl rfl rfl rfl o01 ?_;refine af.e7 tok rfl rfl rfl rfl rfl rfl ?_;refine af.e7 tok rfl rfl rfl rfl rfl rfl ?_;refine af.call tok rfl rfl rfl rfl rfl o01 ?_;refine af.e7 tok rfl rfl rfl rfl rfl rfl ?_;refine af.call tok rfl rfl rfl rfl rfl o1 ?_;refine af.e7 tok rfl rfl rfl rfl rfl rfl ?_;refine af.e7 tok rfl rfl rfl rfl rfl rfl ?_;refine af.call tok rfl rfl rfl rfl rfl c3 ?_;refine qP 4 rfl ?_;refine af.nil ?_;refine qU 1 rfl ?_;refine qI (AW.draw aP 9 (by kernel_rfl) ?_);refine qP 2 rfl ?_;refine af.e7 tok rfl rfl rfl rfl rfl rfl ?_;refine af.call tok rfl rfl rfl rfl rfl om ?_;refine af.call tok rfl rfl rfl rfl rfl c4 ?_;refine qP 4 rfl ?_;refine af.nil ?_;refine qU 1 rfl ?_;refine qK 1 rfl ?_;refine ab.err tok rfl rfl rfl rfl rfl ?_;refine qU 2 rfl ?_;refine ab.err tok rfl rfl rfl rfl rfl ?_;refine qU 3 rfl ?_;refine ab.err tok rfl rfl rfl rfl rfl ?_;refine qU 3 rfl ?_;refine ab.err tok rfl rfl rfl rfl rfl ?_;refine qU 7 rfl ?_;refine ab.e7 tok rfl rfl rfl rfl rfl ?_;refine ab.call tok rfl rfl rfl rfl cI ?_;refine qU 6 rfl ?_;exact qN rfl
end Lift
namespace Lift
open Go Go.Proofs
end Lift
namespace Lift
open Go Go.Proofs
theorem rr{m k:Nat}{v:List NQ}{a:NQ}(V:kF m v)(ha:aC v.length a)(sa:au k a)(hk:k≤17300000000000):Pure Tryz.prog 110 [bA v,.sl 1 [ai a]] (dI 0):=by
 have T:=V.raw.1;obtain ⟨m0,t1,t2,tw,tk⟩:=T.t
 have h0: ∀i,i<[dV a].length→i=0:=fun i hi=>by
  have:i<1:=hi;omega
 have hl:=ha.len (by have:=V.l5;omega);have h:=ox (kZ v) [dV a] tw t1 T.l T.ll tk (fun i hi _=>by rw[h0 i hi];exact oU sa) (show 1≤1000000 by decide) (fun i hi=>by rw[h0 i hi];show (dV a).length≤_;rw[gU];omega) hk;rw[JX V ha,mV] at h;have e:[dV a].map dn=[ai a]:=by show [dn (dV a)]=_;rw[oV]
 rw[e] at h;exact h
theorem nN{m k:Nat}{v:List NQ}{a b:NQ}(V:kF m v)(ha:aC v.length a)(sa:au k a)(hb:aC v.length b)(sb:au k b)(hk:k≤17300000000000):Pure Tryz.prog 110 [bA v,.sl 1 [ai a,ai b]] (dI 0):=by
 have T:=V.raw.1;obtain ⟨m0,t1,t2,tw,tk⟩:=T.t
 have h0: ∀i,i<[dV a,dV b].length→i=0∨i=1:=fun i hi=>by
  have:i<2:=hi;omega
 have hl:=ha.len (by have:=V.l5;omega);have hl2:=hb.len (by have:=V.l5;omega)
 have h:=ox (kZ v) [dV a,dV b] tw t1 T.l T.ll tk (fun i hi _=>by rcases h0 i hi with rfl | rfl;exact oU sa;exact oU sb) (show 2≤1000000 by decide) (fun i hi=>by
  rcases h0 i hi with rfl | rfl
  · show (dV a).length≤_;rw[gU];omega
  · show (dV b).length≤_;rw[gU];omega) hk
 rw[ck2 V ha hb,mV] at h;have e:[dV a,dV b].map dn=[ai a,ai b]:=by show [dn (dV a),dn (dV b)]=_;rw[oV,oV]
 rw[e] at h;exact h
theorem El{m k:Nat}{v:List NQ}{a:NQ}(V:kF m v)(ha:aC v.length a)(sa:au k a)(hk:k≤17300000000000):Pure Tryz.prog 98 [bA v,ai a] (.tu [ai (qh a),dI 0]):=by
 refine qJ 17 Tryz.func98 rfl rfl rfl rfl (by kernel_rfl) (fun B F0 w0=>?_);have ce:=rr V ha sa (by omega);have h5:=V.l5;have la:=ha.len (by omega);have cl:=iT a sa hk (by omega);have cs:=cY (aK a) ha.minus h5;refine qX 3 rfl ?_;refine qI (qX 2 rfl ?_);refine ab.e7 tok rfl rfl rfl rfl rfl ?_;refine ab.call tok rfl rfl rfl rfl ce ?_;refine qU 1 rfl ?_;refine qK 2 rfl ?_;refine ab.nil ?_;refine AW.aB rfl ?_;refine AW.skip (qX 1 rfl ?_);refine ab.call tok rfl rfl rfl rfl cl ?_;refine ab.call tok rfl rfl rfl rfl cs ?_;refine qU 2 rfl ?_;exact qN rfl
theorem En{m k:Nat}{v:List NQ}{a b:NQ}(V:kF m v)(ha:aC v.length a)(sa:au k a)(hb:aC v.length b)(sb:au k b)(hk:k≤17300000000000):Pure Tryz.prog 83 [bA v,ai a,ai b] (.tu [ai (qO a b),dI 0]):=by
 refine qJ 21 Tryz.func83 rfl rfl rfl rfl (by kernel_rfl) (fun B F0 w0=>?_);have ce:=nN V ha sa hb sb (by omega);have h5:=V.l5;have la:=ha.len (by omega);have lb:=hb.len (by omega);have cp:=ft a b sa sb hk (by omega) (by omega);have cs:=cY (aS a b) (ha.plus hb) h5;refine qX 3 rfl ?_;refine qI (qX 3 rfl ?_);refine ab.e7 tok rfl rfl rfl rfl rfl ?_;refine ab.call tok rfl rfl rfl rfl ce ?_;refine qU 1 rfl ?_;refine qK 2 rfl ?_;refine ab.nil ?_;refine AW.aB rfl ?_;refine AW.skip (qX 2 rfl ?_);refine ab.call tok rfl rfl rfl rfl cp ?_;refine ab.call tok rfl rfl rfl rfl cs ?_;refine qU 2 rfl ?_;exact qN rfl
theorem Ek{m k:Nat}{v:List NQ}{a b:NQ}(V:kF m v)(ha:aC v.length a)(sa:au k a)(hb:aC v.length b)(sb:au k b)(hk:k≤17300000000000):Pure Tryz.prog 134 [bA v,ai a,ai b] (.tu [ai (n6 a b),dI 0]):=by
 refine qJ 22 Tryz.func134 rfl rfl rfl rfl (by kernel_rfl) (fun B F0 w0=>?_);have ce:=nN V ha sa hb sb (by omega);have h5:=V.l5;have la:=ha.len (by omega);have lb:=hb.len (by omega);have cl:=iT b sb hk (by omega);have cp:=ft a (aK b) sa sb.minus hk (by omega) (by rw[bz];omega);have cs:=cY (aS a (aK b)) (ha.plus hb.minus) h5;refine qX 3 rfl ?_;refine qI (qX 3 rfl ?_);refine ab.e7 tok rfl rfl rfl rfl rfl ?_;refine ab.call tok rfl rfl rfl rfl ce ?_;refine qU 1 rfl ?_;refine qK 2 rfl ?_;refine ab.nil ?_;refine AW.aB rfl ?_;refine AW.skip (qX 2 rfl ?_);refine ab.call tok rfl rfl rfl rfl cl ?_;refine ab.call tok rfl rfl rfl rfl cp ?_;refine ab.call tok rfl rfl rfl rfl cs ?_;refine qU 2 rfl ?_;exact qN rfl
theorem mY{m k:Nat}{v:List NQ}{a b:NQ}(V:kF m v)(ha:aC v.length a)(sa:au k a)(hb:aC v.length b)(sb:au k b)(hm:m≤k)(hk:sT v.length k≤17300000000000):Pure Tryz.prog 82 [bA v,ai a,ai b] (.tu [ai (eg v a b),dI 0]):=by
 refine qJ 22 Tryz.func82 rfl rfl rfl rfl (by kernel_rfl) (fun B F0 w0=>?_);have hk2:=bQ v.length k;have ce:=nN V ha sa hb sb (by omega);have h5:=V.l5;have la:=ha.len (by omega);have lb:=hb.len (by omega);have hx: ∀j,j<v.length→(v.map ai)[j]?=some (ai (v.getD j [])):=fun j hj=>oE hj;have ct:=fI v.length (xs:=v.map ai) ha hb V.ro (ao _) h5 hx sa sb (V.sz.mono hm) hk;have rt:=jL v.length ha hb V.ro (ao _);have tt:=eK v.length ha hb V.ro (ao _);have cs:=cY (ff v.length v a b) rt.1 h5;rw[mR rt.1 tt.1 (rt.2.trans tt.2.symm)] at cs;refine qX 3 rfl ?_;refine qI (qX 3 rfl ?_);refine ab.e7 tok rfl rfl rfl rfl rfl ?_;refine ab.call tok rfl rfl rfl rfl ce ?_;refine qU 1 rfl ?_;refine qK 2 rfl ?_;refine ab.nil ?_;refine AW.aB rfl ?_;refine AW.skip (qX 3 rfl ?_);refine ab.call tok rfl rfl rfl rfl ct ?_;refine ab.call tok rfl rfl rfl rfl cs ?_;refine qU 2 rfl ?_;exact qN rfl
theorem C3{m k:Nat}{v:List NQ}{a:NQ}(V:kF m v)(ha:aC v.length a)(sa:au k a)(hm:m≤k)(hk:nS v.length k):Pure Tryz.prog 120 [bA v,ai a] (.tu [dI (jI v a),dI 0]):=by
 refine qJ 17 Tryz.func120 rfl rfl rfl rfl (by kernel_rfl) (fun B F0 w0=>?_);have hk2:=o7 hk;have ce:=rr V ha sa (by omega);have h5:=V.l5;have la:=ha.len (by omega);have cg:=gF v.length (xs:=v.map ai) ha (by omega) V.ro (ao _) (fun j hj=>oE hj) sa (V.sz.mono hm) hk;rw[fX v.length ha V.ro V.pos (ao _),← eD v.length ha V.ro (ao _)] at cg;refine qX 3 rfl ?_;refine qI (qX 2 rfl ?_);refine ab.e7 tok rfl rfl rfl rfl rfl ?_;refine ab.call tok rfl rfl rfl rfl ce ?_;refine qU 1 rfl ?_;refine qK 2 rfl ?_;refine ab.nil ?_;refine AW.aB rfl ?_;refine AW.skip (qX 2 rfl ?_);refine ab.call tok rfl rfl rfl rfl cg ?_;refine qU 2 rfl ?_;exact qN rfl
theorem Em{m k:Nat}{v:List NQ}{a b:NQ}(V:kF m v)(ha:aC v.length a)(sa:au k a)(hb:aC v.length b)(sb:au k b)(hm:m≤2*k+1)(hk:nS v.length (2*k+1)):Pure Tryz.prog 65 [bA v,ai a,ai b] (.tu [dI (bd v v.length (cf (aS a (aK b)))),dI 0]):=by
 refine qJ 23 Tryz.func65 rfl rfl rfl rfl (by kernel_rfl) (fun B F0 w0=>?_);have hk2:=o7 hk;have ce:=nN V ha sa hb sb (by omega);have h5:=V.l5;have la:=ha.len (by omega);have lb:=hb.len (by omega);have cl:=iT b sb (by omega) (by omega);have cp:=ft a (aK b) sa sb.minus (by omega) (by omega) (by rw[bz];omega);have hp:=ha.plus hb.minus;have cg:=gF v.length (xs:=v.map ai) hp h5 V.ro (ao _) (fun j hj=>oE hj) ((sa.plus sb.minus).mono (by omega)) (V.sz.mono hm) hk;rw[fX v.length hp V.ro V.pos (ao _)] at cg;refine qX 3 rfl ?_;refine qI (qX 3 rfl ?_);refine ab.e7 tok rfl rfl rfl rfl rfl ?_;refine ab.call tok rfl rfl rfl rfl ce ?_;refine qU 1 rfl ?_;refine qK 2 rfl ?_;refine ab.nil ?_;refine AW.aB rfl ?_
 · refine AW.skip (AW.seq ?_);refine AW.draw aP 6 (by kernel_rfl) ?_;refine qP 3 rfl ?_;refine af.call tok rfl rfl rfl rfl rfl cl ?_;refine af.call tok rfl rfl rfl rfl rfl cp ?_;refine af.call tok rfl rfl rfl rfl rfl cg ?_;refine af.nil ?_;refine qU 2 rfl ?_;exact qN rfl
theorem pX{m k:Nat}{v:List NQ}{a:NQ}(V:kF m v)(ha:aC v.length a)(sa:au k a)(hm:m≤k)(hk:nS v.length k)(hj:Dy v.length k)(h0:jI v a≠0):Pure Tryz.prog 95 [bA v,ai a] (.tu [ai (aq (gZ v.length v a)),dI 0]):=by
 refine qJ 22 Tryz.func95 rfl rfl rfl rfl (by kernel_rfl) (fun B F0 w0=>?_);have hk2:=o7 hk;have ce:=rr V ha sa hk2;have h5:=V.l5;have cg:=gF v.length (xs:=v.map ai) ha (by omega) V.ro (ao _) (fun j hj=>oE hj) sa (V.sz.mono hm) hk;rw[fX v.length ha V.ro V.pos (ao _),← eD v.length ha V.ro (ao _)] at cg;have hs:bd v v.length (cf a)≠0:=by rw[← eD v.length ha V.ro (ao _)];exact h0
 have h0:ec v.length v a≠0:=h0;have ci:=uz V.ro V.pos h5 v.length ha (ao _) sa (V.sz.mono hm) hs hj;have hr:=Cc V.ro V.pos v.length ha ha rfl (ao _) hs;have cs:=cY _ hr.1 h5;rw[mR hr.1 (fS v.length ha V.ro (ao _)) hr.2] at cs;refine qX 3 rfl ?_;refine qI (qX 2 rfl ?_);refine ab.e7 tok rfl rfl rfl rfl rfl ?_;refine ab.call tok rfl rfl rfl rfl ce ?_;refine qU 1 rfl ?_;refine qK 2 rfl ?_;refine ab.nil ?_;refine AW.aB rfl ?_;refine AW.skip (AW.seq ?_);refine qX 2 rfl ?_;refine ab.call tok rfl rfl rfl rfl cg ?_;refine qU 1 rfl ?_;rw[beq_eq_false_iff_ne.2 h0];refine ab.nil ?_;refine AW.aB rfl ?_;refine AW.skip (qX 2 rfl ?_);refine ab.call tok rfl rfl rfl rfl ci ?_;refine ab.call tok rfl rfl rfl rfl cs ?_;refine qU 2 rfl ?_;exact qN rfl
end Lift
namespace Lift
open Go Go.Proofs
theorem zX{m k:Nat}{v:List NQ}{a b:NQ}(V:kF m v)(ha:aC v.length a)(sa:au k a)(hb:aC v.length b)(sb:au k b)(hm:m≤k):aC v.length (eg v a b)∧au (sT v.length k) (eg v a b):=by
 have h:=eJ v.length ha hb V.ro (ao _) sa sb (V.sz.mono hm);exact aX h.1 h.2
theorem mX{m k:Nat}{v:List NQ}{a:NQ}(V:kF m v)(ha:aC v.length a)(sa:au k a)(hm:m≤k)(hk:nS v.length k):Pure Tryz.prog 81 [bA v,ai a] (dB (decide (jI v a=0))):=by
 refine qJ 15 Tryz.func81 rfl rfl rfl rfl (by kernel_rfl) (fun B F0 w0=>?_);have c:=C3 V ha sa hm hk;rw[show decide (jI v a=0)=(jI v a==0) by by_cases h:jI v a=0<;>simp[h]];refine qX 2 rfl ?_;refine qK 2 rfl ?_;refine ab.call tok rfl rfl rfl rfl c ?_;refine qU 5 rfl ?_;refine qK 3 rfl ?_;exact qN rfl
theorem fr(a:a9):Pure Tryz.prog 71 [bh a] (dI (ak a)):=by
 refine qJ 10 Tryz.func71 rfl rfl rfl rfl (by kernel_rfl) (fun B F0 w0=>?_);refine qX 1 rfl ?_;refine qI (qX 2 rfl ?_);rw[ae];refine qU 1 rfl ?_;refine ab.nil ?_;by_cases h0:a.length=0
 · rw[List.length_eq_zero_iff.1 h0];refine AW.aL rfl ?_;refine qX 1 rfl ?_;exact qN rfl
 rw[beq_eq_false_iff_ne.2 (show (a.length:Int)≠0 by omega)];have g0:=getM a8 (l:=a) (i:=0) (by omega);refine AW.aB rfl ?_
 · skip
   refine AW.skip (qX 1 rfl ?_);refine ab.idx tok (a8 (a.getD 0 [])) rfl rfl rfl rfl (Int.le_refl _) g0 ?_;refine qU 2 rfl ?_;rw[ae];refine qU 1 rfl ?_;exact qN rfl
theorem AP(v:List NQ)(xs ys:List NQ)(c:NQ){i:Nat}(hi:i<xs.length):(eL v xs ys c).take (i+1)=(eL v xs ys c).take i++[n6 (xs.getD i []) (eg v c (ys.getD i []))]:=by
 have hl:i<(eL v xs ys c).length:=by rw[gA];exact hi
 rw[List.take_succ_eq_append_getElem hl]
 congr 2
 have:=iu v xs ys c hi;rw[aG,bg hl] at this;exact this
end Lift
namespace Lift
open Go Go.Proofs
def BI(a:a9)(res:D)(R':List LR):Prop:= ∃(Vr:Value) (Vs:List Value),Vs.length=a.length∧res= .v Vr∧R'=(Vr,OA Vs)::b9 Vs a
theorem iL{a:a9}(ha:a.length≤1000000)(hN: ∀i,(a.getD i []).length≤1000000):jg Tryz.prog 94 [bh a] [] (BI a):=by
 refine jg.intro (n:=20) tok Tryz.func94 rfl rfl rfl (Nat.le_of_ble_eq_true rfl) (by kernel_rfl) (fun B F0 w0=>?_);have htk:=fun {i:Nat} (hi:i<a.length)=>List.take_succ_eq_append_getElem (l:=a) hi;refine AZ.seq (AZ.cO (fun B1 F1 w1=>?_));refine qU 1 rfl ?_;refine ab.nil ⟨rfl,?_⟩;refine AZ.seq (AZ.cO (fun B1 F1 w1=>?_));refine qU 1 rfl ?_;refine ab.nil ⟨rfl,?_⟩;refine AZ.to [0,3] [(0,.d (bh a)),(3,.ow 22 [])] rfl ?_;refine AZ.iD 3 rfl rfl rfl (fun V0=>?_);refine AZ.seq (AZ.seq ?_);refine AZ.cO (fun B1 F1 w1=>?_);refine qU 2 rfl ?_;rw[ae];refine qU 1 rfl ?_;refine ab.nil ⟨rfl,?_⟩;refine AZ.block (AZ.aF [3,6,7,8] (fun s:Nat×Value×List Value=>((s.2.1,OA s.2.2)::b9 s.2.2 (a.take s.1),[(3,.d (.v s.2.1)),(6,.d (bh a)),(7,.d (dI a.length)),(8,.d (dI s.1))])) (fun s=>s.1≤a.length∧s.2.2.length=s.1) (fun s=>a.length-s.1) (0,V0,[]) rfl ⟨Nat.zero_le _,rfl⟩ (fun s hs=>?_));obtain ⟨i,Vr,Vs⟩:=s;obtain ⟨hi,hVs⟩:=hs
 dsimp only at hi hVs
 show AZ _ _ _ _ _ _ _ ((Vr,OA Vs)::b9 Vs (a.take i)) [(3,.d (.v Vr)),(6,.d (bh a)),(7,.d (dI a.length)),(8,.d (dI i))];refine AZ.seq (AZ.cO (fun B1 F1 w1=>?_));refine qU 1 rfl ?_;refine ab.nil ⟨rfl,?_⟩;refine AZ.seq (AZ.cond rfl (fun h=>?_) (fun h=>?_));rotate_left
 · have hii:i=a.length:=by have:=aA h;omega
   subst hii;rw[List.take_length];refine AZ.exit ?_;refine AZ.seq (AZ.cO (fun B1 F1 w1=>?_));refine qU 2 rfl ?_;refine ab.nil ⟨rfl,?_⟩;exact AZ.ret ⟨.v Vr,rfl,Vr,Vs,hVs,rfl,rfl⟩
 have hii:i<a.length:=by have:=ar h;omega
 have hg:=getM a8 (l:=a) (i:=i) hii;have hrl:=hN i;have htk:=htk hii;have hge:a[i]=a.getD i []:=by rw[aG,bg hii];rfl
 rw[hge] at htk;generalize a.getD i []=row at hg hrl htk;refine AZ.skip (AZ.seq ?_);refine AZ.block (AZ.seq ?_);refine AZ.cO (fun B1 F1 w1=>?_);refine ab.idx tok (a8 row) rfl rfl rfl rfl (aj i) hg ?_;refine qU 2 rfl ?_;refine ab.nil ⟨rfl,?_⟩;refine AZ.region ?_;refine ah.cut 4 rfl (fun B1 F1 w1=>?_);refine qU 3 rfl ?_;refine ab.po tok rfl rfl rfl rfl (by rw[ae];show row.length*24≤_;omega) ?_;refine ab.nil ⟨rfl,?_⟩;refine ah.iD 15 rfl rfl rfl (fun V=>?_);refine ah.cut 1 rfl (fun B1 F1 w1=>?_);refine ab.e7 tok rfl rfl rfl rfl rfl ?_;refine ab.nil ⟨rfl,?_⟩;refine ah.cT 12 0 rfl rfl rfl ?_;refine ah.cut 1 rfl (fun B1 F1 w1=>?_);refine ab.gg tok rfl rfl rfl rfl rfl rfl (by show ((nA Vs).length+1)*24≤_;rw[ae];omega) (by show (nA Vs).length+1≤_;rw[ae];omega) ?_;refine ab.nil ⟨rfl,?_⟩;refine ah.vg 17 0 rfl rfl rfl rfl (fun Vq=>?_)
 refine ah.jd (R':=(Vq,OA (Vs++[V]))::b9 (Vs++[V]) (a.take (i+1))) (by
  show (Vq,AV.ow 22 (nA Vs++[.v V]))::(b9 Vs (a.take i)++[(V,et row)])=_
  rw[htk,Ay (by rw[aQ];omega),show nA Vs++[.v V]=nA (Vs++[V]) by simp]) ?_
 refine ah.cut 1 rfl (fun B1 F1 w1=>?_);refine qU 1 rfl ?_;refine ab.nil ⟨rfl,?_⟩;refine ah.nil ?_;refine AZ.cO (fun B1 F1 w1=>?_);refine qU 1 rfl ?_;rw[aH (x:=(i:Int)+1) (by omega) (by omega)];refine qU 1 rfl ?_;refine ab.nil ⟨rfl,?_⟩;exact⟨(i+1,Vq,Vs++[V]),rfl,⟨hii,by show (Vs++[V]).length=i+1;rw[List.length_append];show Vs.length+1=_;omega⟩,by show a.length-(i+1)<a.length-i;omega⟩
theorem sX(Vr:Value)(Vs:List Value)(row:List NQ)(h0:0<Vs.length):jg Tryz.prog 71 [.v Vr] [(Vr,OA Vs),(Vs.getD 0 undef,et row)] (fun res R'=>res=dI row.length∧R'=[(Vr,OA Vs),(Vs.getD 0 undef,et row)]):=by
 refine jg.intro (n:=10) tok Tryz.func71 rfl rfl rfl (Nat.le_of_ble_eq_true rfl) (by kernel_rfl) (fun B F0 w0=>?_);refine AZ.seq (AZ.cO (fun B1 F1 w1=>?_));refine qU 1 rfl ?_;refine ab.nil ⟨rfl,?_⟩;refine AZ.seq (AZ.seq ?_);refine AZ.rl (fun B1 F1 w1 hS=>?_);refine qU 1 rfl ?_;refine ab.lens tok (hS.at (i:=0) rfl (by rw[ae];exact h0)) rfl rfl rfl rfl ?_;rw[ae];refine qU 1 rfl ?_;rw[beq_eq_false_iff_ne.2 (show (Vs.length:Int)≠0 by omega)];refine ab.nil ⟨rfl,?_⟩;refine AZ.aB rfl ?_;refine AZ.skip (AZ.seq ?_);refine AZ.region ?_;refine ah.vH 3 rfl (fun B1 F1 w1 hS=>?_);refine qU 1 rfl ?_;refine ab.idxs tok (hS.at (i:=0) rfl (by rw[ae];exact h0)) rfl rfl rfl rfl (Int.le_refl _) (by rw[ae];exact h0) ?_;refine ab.ba tok (.v (Vs.getD 0 undef)) (i:=0) (hS.at (i:=0) rfl (by rw[ae];exact h0)) rfl rfl rfl rfl rfl rfl (bZ h0) rfl ?_;refine ab.nil ⟨rfl,?_⟩;refine ah.cT 8 1 rfl rfl rfl ?_;refine ah.cut 1 rfl (fun B1 F1 w1=>?_);refine qU 1 rfl ?_;rw[ae];refine ab.nil ⟨rfl,?_⟩;refine ah.back 8 1 rfl rfl rfl (List.Mem.head _) rfl ?_;refine ah.cut 1 rfl (fun B1 F1 w1=>?_);refine qU 1 rfl ?_;refine ab.nil ⟨rfl,?_⟩;refine ah.nil ?_;exact AZ.ret ⟨_,rfl,rfl,rfl⟩
end Lift
namespace Lift
open Go Go.Proofs
def EM(V1 V2:Value)(xs ys zs:List NQ)(res:D)(R':List LR):Prop:= ∃V:Value,res= .v V∧R'=[(V1,et xs),(V2,et ys),(V,et zs)]
theorem pU(V1 V2:Value){m k:Nat}{v:List NQ}{xs ys:List NQ}{c:NQ}(V:kF m v)(hx: ∀i,aC v.length (xs.getD i []))(hy: ∀i,aC v.length (ys.getD i []))(hc:aC v.length c)(sx: ∀i,au k (xs.getD i []))(sy: ∀i,au k (ys.getD i []))(sc:au k c)(hm:m≤k)(hk:sT v.length k≤17300000000000)(hl:ys.length=xs.length)(hl0:0<xs.length)(hl1:xs.length≤1000000):
  jg Tryz.prog 96 [bA v,.v V1,.v V2,ai c] [(V1,et xs),(V2,et ys)] (EM V1 V2 xs ys (eL v xs ys c)):=by
 refine jg.intro (n:=46) tok Tryz.func96 rfl rfl rfl (Nat.le_of_ble_eq_true rfl) (by kernel_rfl) (fun B F0 w0=>?_);have hk2:=bQ v.length k;have hz:=gA v xs ys c;have hts:=fun i (hi:i<xs.length)=>AP v xs ys c hi;have hta:(eL v xs ys c).take xs.length=eL v xs ys c:=List.take_of_length_le (by omega);have cm:=fun i=>mY V hc sc (hy i) (sy i) hm hk;have cs:=fun i=>Ek V (hx i) ((sx i).mono (by omega:k≤sT v.length k)) (zX V hc sc (hy i) (sy i) hm).1 (zX V hc sc (hy i) (sy i) hm).2 (by omega);generalize eL v xs ys c=zs at *;refine AZ.seq (AZ.cO (fun B1 F1 w1=>?_));refine qU 2 rfl ?_;refine ab.nil ⟨rfl,?_⟩;refine AZ.seq (AZ.cO (fun B1 F1 w1=>?_));refine qU 1 rfl ?_;refine ab.nil ⟨rfl,?_⟩;refine AZ.to [1,2,3,4,9] [(1,.d (.v V1)),(2,.d (.v V2)),(3,.d (ai c)),(4,.bx [.sl 1 (v.map ai)]),(9,.ow 53 [])] rfl ?_;refine AZ.seq (AZ.seq ?_);refine AZ.rl (fun B1 F1 w1 hS=>?_);refine qU 1 rfl ?_;refine ab.lens tok (hS.at (i:=0) rfl (by rw[ae];exact hl0)) rfl rfl rfl rfl ?_;rw[ae];refine qU 1 rfl ?_;refine ab.nil ⟨rfl,?_⟩;refine AZ.block (AZ.aF [1,2,3,4,9,16,17] (fun i:Nat=>([(V1,et xs),(V2,et ys)],[(1,.d (.v V1)),(2,.d (.v V2)),(3,.d (ai c)),(4,.bx [.sl 1 (v.map ai)]),(9,.ow 53 ((zs.take i).map ai)),(16,.d (dI xs.length)),(17,.d (dI i))])) (fun i=>i≤xs.length) (fun i=>xs.length-i) 0 rfl (Nat.zero_le _) (fun i hi=>?_));show AZ _ _ _ _ _ _ _ [(V1,et xs),(V2,et ys)] [(1,.d (.v V1)),(2,.d (.v V2)),(3,.d (ai c)),(4,.bx [.sl 1 (v.map ai)]),(9,.ow 53 ((zs.take i).map ai)),(16,.d (dI xs.length)),(17,.d (dI i))];refine AZ.seq (AZ.cO (fun B1 F1 w1=>?_));refine qU 1 rfl ?_;refine ab.nil ⟨rfl,?_⟩;refine AZ.seq (AZ.cond rfl (fun h=>?_) (fun h=>?_));rotate_left
 · have hii:i=xs.length:=by have:=aA h;omega
   subst hii;rw[hta];refine AZ.exit ?_;refine AZ.seq (AZ.cO (fun B1 F1 w1=>?_));refine qU 2 rfl ?_;refine ab.nil ⟨rfl,?_⟩;exact AZ.iD 8 rfl rfl rfl (fun V=>AZ.ret ⟨.v V,rfl,V,rfl,rfl⟩)
 have hii:i<xs.length:=by have:=ar h;omega
 have gx:=getM ai (l:=xs) (i:=i) hii;have gy:=getM ai (l:=ys) (i:=i) (by omega);have hts:=hts i hii;have cm:=cm i;have cs:=cs i;generalize xs.getD i []=x at *;generalize ys.getD i []=y at *;generalize eg v c y=p at *;generalize n6 x p=q at *;refine AZ.skip (AZ.seq ?_);refine AZ.block (AZ.seq ?_);refine AZ.cO (fun B1 F1 w1=>?_);refine qU 2 rfl ?_;refine ab.nil ⟨rfl,?_⟩;refine AZ.seq (AZ.Fg aP 11 (by kernel_rfl) (fun B1 F1 w1 hS=>?_));have hS2:=hS.at (i:=1) rfl (by rw[ae];omega);refine qP 4 rfl ?_;refine af.idxs tok hS2 rfl rfl rfl rfl rfl (aj i) (by rw[ae];show i<ys.length;omega) ?_;refine af.ba tok (ai y) hS2 rfl rfl rfl rfl rfl rfl rfl gy rfl ?_;refine af.call tok rfl rfl rfl rfl rfl cm ?_;refine qP 4 rfl ?_;refine af.nil ?_;refine qU 1 rfl ?_;refine ab.nil ⟨rfl,?_⟩;refine AZ.seq (AZ.Fg aP 11 (by kernel_rfl) (fun B1 F1 w1 hS=>?_));have hS1:=hS.at (i:=0) rfl (by rw[ae];omega);refine qP 3 rfl ?_;refine af.idxs tok hS1 rfl rfl rfl rfl rfl (aj i) (by rw[ae];exact hii) ?_;refine af.ba tok (ai x) hS1 rfl rfl rfl rfl rfl rfl rfl gx rfl ?_;refine qP 1 rfl ?_;refine af.call tok rfl rfl rfl rfl rfl cs ?_;refine qP 4 rfl ?_;refine af.nil ?_;refine qU 1 rfl ?_;refine ab.nil ⟨rfl,?_⟩;refine AZ.cO (fun B1 F1 w1=>?_);refine qU 2 rfl ?_;refine ab.e7 tok rfl rfl rfl rfl rfl ?_;refine ab.gg tok rfl rfl rfl rfl rfl rfl (by rw[ae,aQ];show (_+1)*24≤_;omega) (by rw[ae,aQ];show _+1≤_;omega) ?_;refine qU 1 rfl ?_;refine ab.nil ⟨rfl,?_⟩;refine AZ.cO (fun B1 F1 w1=>?_);refine qU 1 rfl ?_;rw[aH (x:=(i:Int)+1) (by omega) (by omega)];refine qU 1 rfl ?_;refine ab.nil ⟨rfl,?_⟩;exact⟨i+1,by rw[hts,List.map_append];rfl,hii,by omega⟩
end Lift
namespace Lift
open Go Go.Proofs
theorem zn{v:List NQ}{a:a9}{c:Nat}(h:(aJ v a c).cols.length=(aJ v a c).rows.length): ∀d,aJ v a (c+d)=aJ v a c
 | 0=>rfl
 | d+1=>by
   have ih:=zn h d;show dZ v (aJ v a (c+d)) (c+d)=aJ v a c;rw[ih];unfold dZ;rw[if_neg];unfold atR;rw[h,Nat.sub_self];exact Nat.lt_irrefl _
theorem I8{R:List LR}{x y:LR}(h0:R[0]?=some x)(h1:R[1]?=some y):sU R [0,1]=some [x,y]:=by
 unfold sU sU;rw[h0,h1];rfl
theorem kX{R:List LR}{i:Nat}{x:LR}(h:R[i]?=some x):R.set i x=R:=by
 refine List.ext_getElem? (fun k=>?_);by_cases hk:k=i
 · subst hk;rw[List.getElem?_set_self (List.getElem?_eq_some_iff.1 h).1,h]
 · rw[List.getElem?_set_ne (Ne.symm hk)]
theorem I1{R:List LR}{x y:LR}(h0:R[0]?=some x)(h1:R[1]?=some y):CP R [0,1] [x,y]=R:=by
 show (R.set 0 x).set 1 y++[]=R;rw[List.append_nil,kX h0,kX h1]
theorem uV{m:Nat}{v:List NQ}(V:kF m v){x p:NQ}(hx:aC v.length x)(hp:aC v.length p):eg v x (aq (gZ v.length v p))=mG v x p:=by
 have hi:=fS v.length hp V.ro (ao _);have h1:=eK v.length hx (bp hi) V.ro (ao _);have h2:=eK v.length hx hi V.ro (ao _);exact mR h1.1 h2.1 (by rw[h1.2,h2.2,bJ hi])
theorem DS{b:a9}{r:Nat}(h:r<b.length):yU b r r=b:=by
 unfold yU;rw[mS h,mS h]
theorem B4{Vs:List Value}{r t:Nat}:(Vs.set r (Vs.getD t undef)).set t (Vs.getD r undef)=yV Vs r t:=by
 unfold yV;by_cases h:r=t
 · subst h;rfl
 · exact List.set_comm _ _ h
section
variable {P:Program} {T:Ty} {B:Nat} {F0:Nat→Prop} {w0:cL} {n:Nat} {σ:St} {x:Code} {Q:Exit→List LR→St→Prop}
theorem AZ.zk{R:LR}{L:List LR}{i:Nat}{a b:LR}(hi:L[i]?=some a)(h:AZ P B F0 w0 n x Q (R::L.set i b) σ):AZ P B F0 w0 n x Q (R::L++[b]) σ:=by
 have hl:i<L.length:=(List.getElem?_eq_some_iff.1 hi).1;refine AZ.wR (ri:=a) (rj:=b) (i+1) (L.length+1) ?_ ?_ (AZ.oH (R::L.set i b) (fun k r hk=> .inl ?_) h)
 · show (L++[b])[i]?=_;rw[List.getElem?_append_left hl,hi]
 · show (L++[b])[L.length]?=_;rw[List.getElem?_append_right (ao _),Nat.sub_self];rfl
 · match k,hk with
   | 0,hk=>exact hk
   | k+1,hk =>
     have hk:(L.set i b)[k]?=some r:=hk;have hkl:k<(L.set i b).length:=(List.getElem?_eq_some_iff.1 hk).1;rw[List.length_set] at hkl;show (((L++[b]).set i b).set L.length a)[k]?=some r;rw[List.getElem?_set_ne (by omega),List.set_append_left _ _ hl,List.getElem?_append_left (by rw[List.length_set];exact hkl)];exact hk
theorem AZ.ym(hT:bw P T){e eo:Nat}{te:TI}(he:T.get e=some te)(h1:te.size=1){Vr:Value}{Vs:List Value}{a:a9}(hl:Vs.length=a.length)
  (h:AZ P B F0 w0 n x Q [(Vr,.ow eo (a.map a8))] σ): ∀(m k:Nat),m+k=a.length→ ∀L:List LR,(∀j,k≤j→j<a.length→L[j]?=some (Vs.getD j undef,.ow e ((a.getD j []).map ai))) →
  AZ P B F0 w0 n x Q ((Vr,.ow eo ((a.take k).map a8++(nA Vs).drop k))::L) σ
 | 0,k,hk,L,hL=>by
   rw[List.take_of_length_le (by omega),List.drop_eq_nil_of_le (by rw[ae];omega),List.append_nil];refine AZ.oH _ (fun i r hr=> .inl ?_) h
   match i,hr with
   | 0,hr=>exact hr
 | m+1,k,hk,L,hL=>by
   have hka:k<a.length:=by omega
   have hll:k<L.length:=(List.getElem?_eq_some_iff.1 (hL k (ao _) hka)).1;have hft:((a.take k).map a8).length=k:=by rw[ae,aQ];omega
   refine AZ.G5 hT (k+1) 0 k (cs:=(a.take k).map a8++(nA Vs).drop k) rfl (fun d hd=>?_) ?_ (hL k (ao _) hka) (by omega) he ?_
   · rcases List.mem_append.1 hd with g | g
     · obtain ⟨r,_,rfl⟩:=List.mem_map.1 g;rfl
     · obtain ⟨V,_,rfl⟩:=List.mem_map.1 (List.mem_of_mem_drop g);rfl
   · rw[List.getElem?_append_right (by omega),hft,Nat.sub_self,List.getElem?_drop,Nat.add_zero];exact bZ (by omega)
   · have e1:((a.take k).map a8++(nA Vs).drop k).set k (.sl te.size ((a.getD k []).map ai))=(a.take (k+1)).map a8++(nA Vs).drop (k+1):=by
      rw[h1,List.set_append_right _ _ (by omega),hft,Nat.sub_self,List.take_succ_eq_append_getElem hka,List.map_append]
      have:(nA Vs).drop k= .v (Vs.getD k undef)::(nA Vs).drop (k+1):=by
       rw[List.drop_eq_getElem_cons (by rw[ae];omega)]
       congr 1
       have:=bZ (Vs:=Vs) (i:=k) (by omega);rw[bg (by rw[ae];omega)] at this;simpa using this
      rw[this,List.set_cons_zero,List.append_assoc];have g:a[k]=a.getD k []:=by rw[aG,bg hka];rfl
      rw[g];rfl
     show AZ P B F0 w0 n x Q ((Vr,.ow eo (((a.take k).map a8++(nA Vs).drop k).set k (.sl te.size ((a.getD k []).map ai))))::L.set k (Vs.getD k undef,.junk)) σ;rw[e1]
     exact AZ.ym hT he h1 hl h m (k+1) (by omega) (L.set k (Vs.getD k undef,.junk)) (fun j hj hja=>by
      rw[List.getElem?_set_ne (by omega)];exact hL j (by omega) hja)
end
set_option maxHeartbeats 12800000 in
theorem wh{m Kz:Nat}{v:List NQ}(V:kF m v){a:a9}{N:Nat}(ha0:0<a.length)(ha:a.length≤1000000)(hN:N≤1000000)(hr:bm N a)(hl:kd v.length a)
  (sz: ∀c,c≤N→ ∀j i,au Kz (aW (aJ v a c).rows j i)) (szE: ∀c,c<N→atR v (aJ v a c) c<(aJ v a c).rows.length→ ∀j i,au Kz (aW (eR v (aJ v a c) c) j i)) (szI: ∀c,c<N→atR v (aJ v a c) c<(aJ v a c).rows.length→au Kz (aq (gZ v.length v (pR v (aJ v a c) c))))
  (hmK:m≤Kz) (k1:nS v.length Kz) (k2:Dy v.length Kz) (k3:sT v.length Kz≤17300000000000):
  Pure Tryz.prog 51 [bA v,bh a] (.tu [bh ((aJ v a N).rows.take (aJ v a N).cols.length),.sl 1 ((aJ v a N).cols.map (fun c:Nat=>dI c))]):=by
 refine qJ 157 Tryz.func51 rfl rfl rfl rfl (by kernel_rfl) (fun B F0 w0=>?_);refine AZ.aw ?_;refine AZ.seq (AZ.cO (fun B1 F1 w1=>?_));refine qU 3 rfl ?_;refine ab.nil ⟨rfl,?_⟩;refine AZ.seq (AZ.region ?_);refine ah.cut 1 rfl (fun B1 F1 w1=>?_);refine qU 1 rfl ?_;refine ab.nil ⟨rfl,?_⟩
 refine ah.fR tok [] rfl rfl rfl rfl rfl List.nodup_nil rfl (iL (a:=a) ha (fun i=>by
  by_cases hi:i<a.length
  · rw[hr i hi];exact hN
  · rw[fg (by omega)];exact Nat.zero_le _)) (fun _ _ _=>Nat.zero_le _) (fun res R1 hP=>?_)
 obtain ⟨V0,Vs0,hV0,rfl,rfl⟩:=hP;refine ah.cut 1 rfl (fun B1 F1 w1=>?_);refine qU 1 rfl ?_;refine ab.nil ⟨rfl,?_⟩;refine ah.nil ?_;refine AZ.seq (AZ.cO (fun B1 F1 w1=>?_));refine qU 1 rfl ?_;refine ab.nil ⟨rfl,?_⟩;refine AZ.seq (AZ.seq ?_);refine AZ.cO (fun B1 F1 w1=>?_);refine qU 1 rfl ?_;refine ab.nil ⟨rfl,?_⟩;refine AZ.block (AZ.aF [1,2,6,7] (fun z:Nat×Value×List Value=>((z.2.1,OA z.2.2)::b9 z.2.2 (aJ v a z.1).rows,[(1,.d (.v z.2.1)),(2,.bx [.sl 1 (v.map ai)]),(6,.ow 3 ((aJ v a z.1).cols.map (fun c:Nat=>dI c))),(7,.d (dI z.1))])) (fun z=>z.1≤N∧z.2.2.length=a.length) (fun z=>N-z.1) (0,V0,Vs0) rfl ⟨Nat.zero_le _,hV0⟩ (fun z hz=>?_));clear hV0;clear V0 Vs0;obtain ⟨c,Vr,Vs⟩:=z;obtain ⟨hc,hVs⟩:=hz
 dsimp only at hc hVs
 have hR:=gR V.a hr hl c;have hnext:aJ v a (c+1)=dZ v (aJ v a c) c:=rfl;have zR:=sz c hc;have zE:=szE c;have zI:=szI c;have zN:=sz (c+1);have hfull:=fun h=>zn (v:=v) (a:=a) (c:=c) h (N-c);rw[show c+(N-c)=N by omega] at hfull;obtain ⟨s,hs⟩: ∃s,aJ v a c=s:=⟨_,rfl⟩;rw[hs] at hR hnext zR zE zI hfull;show AZ _ _ _ _ _ _ _ ((Vr,OA Vs)::b9 Vs (aJ v a c).rows) [(1,.d (.v Vr)),(2,.bx [.sl 1 (v.map ai)]),(6,.ow 3 ((aJ v a c).cols.map (fun c:Nat=>dI c))),(7,.d (dI c))];rw[hs];have hm':=hR.len;have hrm:=hR.cm;rw[← hm'] at hrm;have hVm:Vs.length=s.rows.length:=by omega
 have hrow0:0<s.rows.length:=by omega
 have hr0:(s.rows.getD 0 []).length=N:=hR.rect 0 hrow0;have hg0:((Vr,OA Vs)::b9 Vs s.rows)[1]?=some (Vs.getD 0 undef,et (s.rows.getD 0 [])):=bO (Vs:=Vs) (j:=0) (by omega) hrow0;refine AZ.seq (AZ.seq ?_);refine AZ.region ?_;refine ah.cut 2 rfl (fun B1 F1 w1=>?_);refine qU 2 rfl ?_;refine ab.nil ⟨rfl,?_⟩;refine ah.fR tok [0,1] rfl rfl rfl rfl (I8 rfl hg0) (by simp) rfl (sX Vr Vs (s.rows.getD 0 []) (by omega)) (fun res R1 hP=>by rw[hP.2];exact ao _) (fun res R1 hP=>?_);obtain ⟨rfl,rfl⟩:=hP;rw[hr0];refine ah.jd (R':=(Vr,OA Vs)::b9 Vs s.rows) (I1 rfl hg0) ?_;by_cases hcN:c<N;rotate_left
 · have hcc:c=N:=by omega
   subst hcc;rw[hs];refine ah.cut 9 rfl (fun B1 F1 w1=>?_);refine qU 1 rfl ?_;rw[aT (show ¬(c:Int)<(c:Int) by omega)];refine qU 8 rfl ?_;refine ab.nil ⟨rfl,?_⟩;refine ah.nil ?_;refine AZ.aB rfl ?_;refine AZ.exit ?_;refine AZ.to [1,6] [(1,.d (.v Vr)),(6,CA s.cols)] rfl ?_;refine AZ.oH ((Vr,AV.ow 22 ((s.rows.take 0).map a8++(nA Vs).drop 0))::b9 Vs s.rows) (fun _ _ h=> .inl h) ?_;refine AZ.ym (te:=_) tok (e:=53) rfl rfl (by omega) ?_ s.rows.length 0 (by omega) (b9 Vs s.rows) (fun j _ hj=>bO (by omega) hj);refine AZ.cT 1 0 rfl rfl rfl ?_;refine AZ.seq (AZ.cO (fun B1 F1 w1=>?_));refine ab.fQ tok 1 rfl rfl ?_;refine ab.fQ tok 6 rfl rfl ?_;refine qU 2 rfl ?_;refine qU 1 rfl ?_;rw[ae];refine ab.Dw tok rfl rfl rfl rfl trivial (aj _) (Nat.zero_le _) (by show s.cols.length≤_;rw[ae];omega) ?_;refine qU 3 rfl ?_;refine ab.nil ⟨rfl,?_⟩;refine AZ.ret ?_;show _=some (D.tu [bh (s.rows.take s.cols.length),_]);rw[show bh (s.rows.take s.cols.length)=D.sl 1 (((s.rows.map a8).take s.cols.length).drop 0) by rw[List.drop_zero,← List.map_take]];rfl
 have hfN:=fun h=>hfull h;refine ah.vH 8 rfl (fun B1 F1 w1 hS=>?_);refine qU 1 rfl ?_;rw[aV (show (c:Int)<(N:Int) by omega)];refine qU 3 rfl ?_;rw[ae];refine qU 1 rfl ?_;refine ab.lens tok (hS.at (i:=0) rfl (by rw[ae];omega)) rfl rfl rfl rfl ?_;rw[ae];refine qU 2 rfl ?_;refine ab.nil ⟨rfl,?_⟩;refine ah.nil ?_;refine AZ.cond rfl (fun h=>?_) (fun h=>?_);rotate_left
 · have hlc:s.cols.length=s.rows.length:=by have:=aA h;omega
   rw[hfN hlc];refine AZ.exit ?_;refine AZ.to [1,6] [(1,.d (.v Vr)),(6,CA s.cols)] rfl ?_;refine AZ.oH ((Vr,AV.ow 22 ((s.rows.take 0).map a8++(nA Vs).drop 0))::b9 Vs s.rows) (fun _ _ h=> .inl h) ?_;refine AZ.ym (te:=_) tok (e:=53) rfl rfl (by omega) ?_ s.rows.length 0 (by omega) (b9 Vs s.rows) (fun j _ hj=>bO (by omega) hj);refine AZ.cT 1 0 rfl rfl rfl ?_;refine AZ.seq (AZ.cO (fun B1 F1 w1=>?_));refine ab.fQ tok 1 rfl rfl ?_;refine ab.fQ tok 6 rfl rfl ?_;refine qU 2 rfl ?_;refine qU 1 rfl ?_;rw[ae];refine ab.Dw tok rfl rfl rfl rfl trivial (aj _) (Nat.zero_le _) (by show s.cols.length≤_;rw[ae];omega) ?_;refine qU 3 rfl ?_;refine ab.nil ⟨rfl,?_⟩;refine AZ.ret ?_;show _=some (D.tu [bh (s.rows.take s.cols.length),_]);rw[show bh (s.rows.take s.cols.length)=D.sl 1 (((s.rows.map a8).take s.cols.length).drop 0) by rw[List.drop_zero,← List.map_take]];rfl
 have hlt:s.cols.length<s.rows.length:=by have:=ar h;omega
 obtain ⟨hat1,hat2,hat3,hat4⟩:=jf v s c hrm;have hm6:s.rows.length≤1000000:=by omega
 have hel: ∀{b:a9} {i:Nat},bm N b→i<b.length→ ∀k,k<N→((b.getD i []).map ai)[k]?=some (ai (aW b i k)):=fun {b i} hb hi k hk=>getM ai (by rw[hb i hi];exact hk);refine AZ.skip (AZ.seq ?_);refine AZ.block (AZ.seq ?_);refine AZ.cO (fun B1 F1 w1=>?_);refine qU 2 rfl ?_;rw[ae];refine qU 1 rfl ?_;refine ab.nil ⟨rfl,?_⟩;refine AZ.seq (AZ.cO (fun B1 F1 w1=>?_));refine qU 2 rfl ?_;refine ab.nil ⟨rfl,?_⟩;refine AZ.cut [1,2,6,7,8,9] (fun _:Unit=>(((Vr,OA Vs)::b9 Vs s.rows),[(1,.d (.v Vr)),(2,.bx [.sl 1 (v.map ai)]),(6,CA s.cols),(7,.d (dI c)),(8,.d (dI s.cols.length)),(9,.d (dI (atR v s c)))])) (fun _=>True) ?_ (fun _ _=>?_)
 · refine AZ.block (AZ.aF [1,2,6,7,8,9] (fun j:Nat=>(((Vr,OA Vs)::b9 Vs s.rows),[(1,.d (.v Vr)),(2,.bx [.sl 1 (v.map ai)]),(6,CA s.cols),(7,.d (dI c)),(8,.d (dI s.cols.length)),(9,.d (dI j))])) (fun j=>s.cols.length≤j∧j≤s.rows.length∧gf (yH v s.rows c) (s.rows.length-j) j=atR v s c) (fun j=>s.rows.length-j) s.cols.length rfl ⟨ao _,hrm,rfl⟩ (fun j hj=>?_));show AZ _ _ _ _ _ _ _ ((Vr,OA Vs)::b9 Vs s.rows) [(1,.d (.v Vr)),(2,.bx [.sl 1 (v.map ai)]),(6,CA s.cols),(7,.d (dI c)),(8,.d (dI s.cols.length)),(9,.d (dI j))];obtain ⟨j1,j2,j3⟩:=hj;refine AZ.seq (AZ.seq ?_);refine AZ.any aP (fP.kE 15 (by kernel_rfl) (fun B1 F1 w1 hS=>?_));have hS0:=hS.at (i:=0) rfl (by rw[ae];omega);refine qP 2 rfl ?_;refine af.lens tok hS0 rfl rfl rfl rfl rfl ?_;rw[ae];refine qP 1 rfl ?_;by_cases hjm:j<s.rows.length;rotate_left
   · rw[nq hjm] at j3;rw[aT (show ¬(j:Int)<(Vs.length:Int) by omega)];refine qP 11 rfl ?_;refine af.nil ⟨rfl,?_⟩;refine ah.nil ?_;refine AZ.aB rfl ?_;exact AZ.exit ⟨(),by rw[← j3];rfl,trivial⟩
   rw[aV (show (j:Int)<(Vs.length:Int) by omega)];have hj6:(s.rows.getD j []).length=N:=hR.rect j hjm;have hS1:=hS.at (i:=j+1) (bO (Vs:=Vs) (by omega) hjm) (by rw[ae];omega);have cs:=mX V (hR.lt j c) (zR j c) hmK k1;have hnz:yH v s.rows c j=decide (jI v (aW s.rows j c)≠0):=rfl;generalize jI v (aW s.rows j c)=g at cs hnz;refine qP 4 rfl ?_;refine af.idxs tok hS0 rfl rfl rfl rfl rfl (aj j) (by rw[ae];omega) ?_;refine af.ba tok (.v (Vs.getD j undef)) hS0 rfl rfl rfl rfl rfl rfl rfl (bZ (by omega)) rfl ?_;refine qP 1 rfl ?_;refine af.idxs tok hS1 rfl rfl rfl rfl rfl (aj c) (by rw[ae];omega) ?_;refine af.ba tok (ai (aW s.rows j c)) hS1 rfl rfl rfl rfl rfl rfl rfl (hel hR.rect hjm c hcN) rfl ?_;refine af.call tok rfl rfl rfl rfl rfl cs ?_;refine qP 1 rfl ?_;refine af.nil ⟨rfl,?_⟩;refine ah.nil ?_;refine AZ.cond rfl (fun h=>?_) (fun h=>?_)
   · have hg:g=0:=ar h;refine AZ.skip (AZ.block ?_);refine AZ.cO (fun B1 F1 w1=>?_);refine qU 2 rfl ?_;rw[aH (x:=(j:Int)+1) (by omega) (by omega)];refine qU 1 rfl ?_;refine ab.nil ⟨rfl,?_⟩;exact⟨j+1,rfl,⟨by omega,hjm,by rw[← lA hjm (by rw[hnz,hg];rfl)];exact j3⟩,by omega⟩
   · have hg:g≠0:=aA h;rw[np hjm (by rw[hnz,aV hg])] at j3;exact AZ.exit ⟨(),by rw[← j3];rfl,trivial⟩
 show AZ _ _ _ _ _ _ _ ((Vr,OA Vs)::b9 Vs s.rows) [(1,.d (.v Vr)),(2,.bx [.sl 1 (v.map ai)]),(6,CA s.cols),(7,.d (dI c)),(8,.d (dI s.cols.length)),(9,.d (dI (atR v s c)))];refine AZ.seq (AZ.seq ?_);refine AZ.rl (fun B1 F1 w1 hS=>?_);refine qU 2 rfl ?_;refine ab.lens tok (hS.at (i:=0) rfl (by rw[ae];omega)) rfl rfl rfl rfl ?_;rw[ae];refine qU 1 rfl ?_;refine ab.nil ⟨rfl,?_⟩;refine AZ.cond rfl (fun h=>?_) (fun h=>?_)
 · have hat: ¬atR v s c<s.rows.length:=by have:=beq_iff_eq.1 h;omega
   have hst:aJ v a (c+1)=s:=by rw[hnext];unfold dZ;rw[if_neg hat]
   refine AZ.exit ?_;refine AZ.cO (fun B1 F1 w1=>?_);refine qU 2 rfl ?_;rw[aH (x:=(c:Int)+1) (by omega) (by omega)];refine qU 1 rfl ?_;refine ab.nil ⟨rfl,?_⟩;exact⟨(c+1,Vr,Vs),by rw[hst];rfl,⟨hcN,hVs⟩,by show N-(c+1)<N-c;omega⟩
 have hat:atR v s c<s.rows.length:=by have:=beq_eq_false_iff_ne.1 h;omega
 have hst:aJ v a (c+1)=⟨cu v (eR v s c) s.cols.length c (eR v s c).length,s.cols++[c],if atR v s c=s.cols.length then s.sg else -s.sg,eg v s.fj (pR v s c)⟩:=by rw[hnext];unfold dZ;rw[if_pos hat]
 obtain ⟨hb1,hb2,hb3⟩:=vQ (c:=c) hR hat;obtain ⟨he1,he2,he3⟩:=Ak V.a (c:=c) hR hat
 have hbr:bR v s c=yU s.rows s.cols.length (atR v s c):=by
  unfold bR;split
  · rename_i e;rw[e,DS hlt]
  · rfl
 have hpr:pR v s c=aW (bR v s c) s.cols.length c:=rfl;have hE:eR v s c=(bR v s c).set s.cols.length (x5 v ((bR v s c).getD s.cols.length []) (pR v s c)):=rfl
 have hpz:jI v (pR v s c)≠0:=by
  rw[hpr,hbr];unfold aW yU;rw[eH,if_pos ⟨rfl,by rw[List.length_set];exact hlt⟩];exact hat4 hat
 have zE2:=zE hcN hat;have zI2:=zI hcN hat;have zN2:=zN hcN;rw[hst] at zN2;clear zE zI zN
 have zB: ∀j i,au Kz (aW (bR v s c) j i):=fun j i=>by
  rw[hbr];unfold aW yU;rw[eH];split
  · exact zR _ _
  · rw[eH];split
    · exact zR _ _
    · exact zR _ _
 generalize bR v s c=b at *;generalize pR v s c=p at *;generalize eR v s c=e at *;generalize atR v s c=t at *;refine AZ.skip ?_;refine AZ.cut [1,2,6,7,8] (fun _:Unit=>((Vr,OA (yV Vs s.cols.length t))::b9 Vs s.rows,[(1,.d (.v Vr)),(2,.bx [.sl 1 (v.map ai)]),(6,CA s.cols),(7,.d (dI c)),(8,.d (dI s.cols.length))])) (fun _=>True) ?_ (fun _ _=>?_)
 · refine AZ.any aP (fP.oG [(2,12),(3,12)] (by kernel_rfl) (fun _ _ _ h=>h) (fun _ _ h=>h) (fP.kE 12 (by kernel_rfl) (fun B1 F1 w1 hS=>?_)));have hS0:=hS.at (i:=0) rfl (by rw[ae];omega);refine qP 6 rfl ?_;refine af.idxs tok hS0 rfl rfl rfl rfl rfl (aj t) (by rw[ae];omega) ?_;refine af.ba tok (.v (Vs.getD t undef)) hS0 rfl rfl rfl rfl rfl rfl rfl (bZ (by omega)) rfl ?_;refine qP 2 rfl ?_;refine af.idxs tok hS0 rfl rfl rfl rfl rfl (aj s.cols.length) (by rw[ae];omega) ?_;refine af.ba tok (.v (Vs.getD s.cols.length undef)) hS0 rfl rfl rfl rfl rfl rfl rfl (bZ (by omega)) rfl ?_;refine af.nil ⟨rfl,?_⟩;refine ah.to [1,2,6,7,8,9,53,54,55,56,60,64] [(1,.d (.v Vr)),(2,.bx [.sl 1 (v.map ai)]),(6,CA s.cols),(7,.d (dI c)),(8,.d (dI s.cols.length)),(9,.d (dI t)),(53,.d (.v Vr)),(54,.d (dI s.cols.length)),(55,.d (.v Vr)),(56,.d (dI t)),(60,.d (.v (Vs.getD t undef))),(64,.d (.v (Vs.getD s.cols.length undef)))] rfl ?_;refine ah.vH 1 rfl (fun B1 F1 w1 hS=>?_);refine ab.idxs tok (hS.at (i:=0) rfl (by rw[ae];omega)) rfl rfl rfl rfl (aj s.cols.length) (by rw[ae];omega) ?_;refine ab.nil ⟨rfl,?_⟩;refine ah.cT 53 0 rfl rfl rfl ?_;refine ah.el (k:=s.cols.length) tok 53 65 rfl (List.Mem.head _) rfl rfl rfl (by rw[ae];omega) rfl ?_;refine ah.cut 1 rfl (fun B1 F1 w1=>?_);refine ab.kr tok (Vs.getD t undef) rfl rfl rfl (by omega) ?_;refine ab.nil ⟨rfl,?_⟩;refine ah.back 53 0 rfl rfl rfl (List.Mem.head _) rfl ?_;refine ah.jd (R':=((Vr,OA (Vs.set s.cols.length (Vs.getD t undef)))::b9 Vs s.rows)) rfl ?_;refine ah.to [1,2,6,7,8,9,55,56,64] [(1,.d (.v Vr)),(2,.bx [.sl 1 (v.map ai)]),(6,CA s.cols),(7,.d (dI c)),(8,.d (dI s.cols.length)),(9,.d (dI t)),(55,.d (.v Vr)),(56,.d (dI t)),(64,.d (.v (Vs.getD s.cols.length undef)))] rfl ?_;refine ah.vH 1 rfl (fun B1 F1 w1 hS=>?_);refine ab.idxs tok (hS.at (i:=0) rfl (by rw[ae,List.length_set];omega)) rfl rfl rfl rfl (aj t) (by rw[ae,List.length_set];omega) ?_;refine ab.nil ⟨rfl,?_⟩;refine ah.cT 55 0 rfl rfl rfl ?_;refine ah.el (k:=t) tok 55 66 rfl (List.Mem.head _) rfl rfl rfl (by rw[ae,List.length_set];omega) rfl ?_;refine ah.cut 1 rfl (fun B1 F1 w1=>?_);refine ab.kr tok (Vs.getD s.cols.length undef) rfl rfl rfl (by rw[List.length_set];omega) ?_;refine ab.nil ⟨rfl,?_⟩;refine ah.back 55 0 rfl rfl rfl (List.Mem.head _) rfl ?_
   refine ah.jd (R':=((Vr,OA (yV Vs s.cols.length t))::b9 Vs s.rows)) (by
    show (Vr,OA ((Vs.set s.cols.length (Vs.getD t undef)).set t (Vs.getD s.cols.length undef)))::b9 Vs s.rows=_
    rw[B4]) ?_
   refine ah.nil ?_;exact⟨(),rfl,trivial⟩
 show AZ _ _ _ _ _ _ _ ((Vr,OA (yV Vs s.cols.length t))::b9 Vs s.rows) [(1,.d (.v Vr)),(2,.bx [.sl 1 (v.map ai)]),(6,CA s.cols),(7,.d (dI c)),(8,.d (dI s.cols.length))];refine AZ.wR (t+1) (s.cols.length+1) (bO (Vs:=Vs) (by omega) hat) (bO (Vs:=Vs) (by omega) hlt) ?_;refine AZ.oH ((Vr,OA (yV Vs s.cols.length t))::((b9 Vs s.rows).set t (Vs.getD s.cols.length undef,et (s.rows.getD s.cols.length []))).set s.cols.length (Vs.getD t undef,et (s.rows.getD t []))) (fun _ _ h=> .inl h) ?_;rw[vV (by omega) hlt hat,← hbr];have hWs:(yV Vs s.cols.length t).length=b.length:=by rw[xA,hb1];omega
 generalize yV Vs s.cols.length t=Ws at *;obtain ⟨r,hrr⟩: ∃r,s.cols.length=r:=⟨_,rfl⟩;have hrb:r<b.length:=by omega
 have hrN:(b.getD r []).length=N:=hb2 r hrb;rw[hrr] at hst hpr hE;rw[hrr] at hlt;have cinv:=pX V (by rw[hpr];exact hb3 r c) (by rw[hpr];exact zB r c) hmK k1 k2 hpz;show AZ _ _ _ _ _ _ _ ((Vr,OA Ws)::b9 Ws b) [(1,.d (.v Vr)),(2,.bx [.sl 1 (v.map ai)]),(6,CA s.cols),(7,.d (dI c)),(8,.d (dI s.cols.length))];rw[hrr];refine AZ.seq (AZ.Fg aP 13 (by kernel_rfl) (fun B1 F1 w1 hS=>?_));have hS0:=hS.at (i:=0) rfl (by rw[ae];omega);have hS1:=hS.at (i:=r+1) (bO (Vs:=Ws) (by omega) hrb) (by rw[ae];omega);refine qP 3 rfl ?_;refine af.idxs tok hS0 rfl rfl rfl rfl rfl (aj r) (by rw[ae];show r<Ws.length;omega) ?_;refine af.ba tok (.v (Ws.getD r undef)) hS0 rfl rfl rfl rfl rfl rfl rfl (bZ (by omega)) rfl ?_;refine qP 1 rfl ?_;refine af.idxs tok hS1 rfl rfl rfl rfl rfl (aj c) (by rw[ae];omega) ?_;refine af.ba tok (ai (aW b r c)) hS1 rfl rfl rfl rfl rfl rfl rfl (hel hb2 hrb c hcN) rfl ?_;rw[← hpr];refine af.call tok rfl rfl rfl rfl rfl cinv ?_;refine qP 4 rfl ?_;refine af.nil ?_;refine qU 1 rfl ?_;refine ab.nil ⟨rfl,?_⟩;obtain ⟨f,hf⟩: ∃f,aq (gZ v.length v p)=f:=⟨_,rfl⟩;have hfl:aC v.length f:=by rw[← hf];exact bp (fS v.length (by rw[hpr];exact hb3 r c) V.ro (ao _))
 have hmul:=fun {x:NQ} (hx:aC v.length x)=>uV V hx (p:=p) (by rw[hpr];exact hb3 r c);rw[hf] at zI2 hmul ⊢;refine AZ.to [1,2,6,7,8,10] [(1,.d (.v Vr)),(2,.bx [.sl 1 (v.map ai)]),(6,CA s.cols),(7,.d (dI c)),(8,.d (dI r)),(10,.d (ai f))] rfl ?_;obtain ⟨row,hrow⟩: ∃row,b.getD r []=row:=⟨_,rfl⟩;have hz:=qe v row p;have hsr: ∀k,aW b r k=row.getD k []:=fun k=>by unfold aW;rw[hrow]
 have hb0:b9 Ws b=b9 Ws (b.set r row):=by rw[← hrow,mS hrb]
 have hgr: ∀q:List NQ,(b9 Ws (b.set r q))[r]?=some (Ws.getD r undef,et q):=fun q=>by
  rw[bO (by omega) (by simpa using hrb),eH,if_pos ⟨rfl,hrb⟩]
 rw[hrow] at hE hrN;rw[hb0];refine AZ.seq (AZ.seq ?_);refine AZ.rl (fun B1 F1 w1 hS=>?_);refine qU 2 rfl ?_;refine ab.idxs tok (hS.at (i:=0) rfl (by rw[ae];omega)) rfl rfl rfl rfl (aj _) (by show r<_;rw[ae];omega) ?_;refine ab.ba tok (.v (Ws.getD r undef)) (hS.at (i:=0) rfl (by rw[ae];omega)) rfl rfl rfl rfl rfl rfl (bZ (by omega)) rfl ?_;refine ab.lens tok (hS.at (i:=r+1) (hgr row) (by rw[ae];omega)) rfl rfl rfl rfl ?_;rw[ae,hrN];refine qU 1 rfl ?_;refine ab.nil ⟨rfl,?_⟩;refine AZ.block ?_;refine AZ.aF [1,2,6,7,8,10,83,84] (fun k:Nat=>(((Vr,OA Ws)::b9 Ws (b.set r (ij (x5 v row p) row k))),[(1,.d (.v Vr)),(2,.bx [.sl 1 (v.map ai)]),(6,CA s.cols),(7,.d (dI c)),(8,.d (dI r)),(10,.d (ai f)),(83,.d (dI N)),(84,.d (dI k))])) (fun k=>k≤N) (fun k=>N-k) 0 (by rw[rC];rfl) (Nat.zero_le _) (fun k hk=>?_);show AZ _ _ _ _ _ _ _ ((Vr,OA Ws)::b9 Ws (b.set r (ij (x5 v row p) row k))) [(1,.d (.v Vr)),(2,.bx [.sl 1 (v.map ai)]),(6,CA s.cols),(7,.d (dI c)),(8,.d (dI r)),(10,.d (ai f)),(83,.d (dI N)),(84,.d (dI k))];refine AZ.seq (AZ.cO (fun B1 F1 w1=>?_));refine qU 1 rfl ?_;refine ab.nil ⟨rfl,?_⟩;refine AZ.seq ?_;refine AZ.cond rfl (fun h=>?_) (fun h=>?_)
 · have hkN:k<N:=by have:=ar h;omega
   have hpl:=qi hz (i:=k) (by omega);have hpg:=uX hz (show k<row.length by omega) [];have hps:=uW hz (show k<row.length by omega) (d:=[]) (qf v row p (show k<row.length by omega));have cd:=mY V (a:=row.getD k []) (b:=f) (by rw[← hsr];exact hb3 r k) (by rw[← hsr];exact zB r k) hfl zI2 hmK k3;rw[hmul (by rw[← hsr];exact hb3 r k)] at cd;generalize ij (x5 v row p) row k=q at *;generalize row.getD k []=X at *;generalize mG v X p=Y at *;refine AZ.skip (AZ.seq ?_);refine AZ.block (AZ.seq ?_);refine AZ.cO (fun B1 F1 w1=>?_);refine qU 2 rfl ?_;refine ab.nil ⟨rfl,?_⟩;refine AZ.any aP (fP.oG [(17,18)] (by kernel_rfl) (fun _ _ _ h=>h) (fun _ _ h=>h) (fP.kE 18 (by kernel_rfl) (fun B1 F1 w1 hS=>?_)));have hS0:=hS.at (i:=0) rfl (by rw[ae];omega);have hS1:=hS.at (i:=r+1) (hgr q) (by rw[ae];omega);refine qP 2 rfl ?_;refine af.idxs tok hS0 rfl rfl rfl rfl rfl (aj r) (by rw[ae];omega) ?_;refine af.ba tok (.v (Ws.getD r undef)) hS0 rfl rfl rfl rfl rfl rfl rfl (bZ (by omega)) rfl ?_;refine qP 4 rfl ?_;refine af.idxs tok hS0 rfl rfl rfl rfl rfl (aj r) (by rw[ae];omega) ?_;refine af.ba tok (.v (Ws.getD r undef)) hS0 rfl rfl rfl rfl rfl rfl rfl (bZ (by omega)) rfl ?_;refine qP 1 rfl ?_;refine af.idxs tok hS1 rfl rfl rfl rfl rfl (aj k) (by rw[ae];omega) ?_;refine af.ba tok (ai (q.getD k [])) hS1 rfl rfl rfl rfl rfl rfl rfl (getM ai (by omega)) rfl ?_;rw[hpg];refine qP 1 rfl ?_;refine af.call tok rfl rfl rfl rfl rfl cd ?_;refine qP 3 rfl ?_;refine af.nil ⟨rfl,?_⟩;refine ah.to [91,92,103,1,2,6,7,8,10,83,84] [(91,.d (.v (Ws.getD r undef))),(92,.d (dI k)),(103,.d (ai Y)),(1,.d (.v Vr)),(2,.bx [.sl 1 (v.map ai)]),(6,CA s.cols),(7,.d (dI c)),(8,.d (dI r)),(10,.d (ai f)),(83,.d (dI N)),(84,.d (dI k))] rfl ?_;refine ah.vH 1 rfl (fun B1 F1 w1 hS=>?_);refine ab.idxs tok (hS.at (i:=r+1) (hgr q) (by rw[ae];omega)) rfl rfl rfl rfl (aj k) (by rw[ae];omega) ?_;refine ab.nil ⟨rfl,?_⟩;refine ah.cT 91 (r+1) (hgr q) rfl rfl ?_;refine ah.el (k:=k) tok 91 105 rfl (List.Mem.head _) rfl rfl rfl (by rw[ae];omega) rfl ?_;refine ah.cut 1 rfl (fun B1 F1 w1=>?_);refine ab.uc tok Y rfl rfl rfl (by omega) ?_;rw[hps];refine ab.nil ⟨rfl,?_⟩;refine ah.back 91 (r+1) rfl rfl rfl (List.Mem.head _) (List.getElem?_set_self (by have:=(List.getElem?_eq_some_iff.1 (hgr q)).1;simp only[List.length_cons];omega)) ?_
   refine ah.jd (R':=((Vr,OA Ws)::b9 Ws (b.set r (ij (x5 v row p) row (k+1))))) (by
    show (Vr,OA Ws)::((b9 Ws (b.set r q)).set r _).set r _=_
    rw[List.set_set,tN (by omega) (by simpa using hrb),List.set_set]) ?_
   refine ah.nil ?_;refine AZ.to [1,2,6,7,8,10,83,84] [(1,.d (.v Vr)),(2,.bx [.sl 1 (v.map ai)]),(6,CA s.cols),(7,.d (dI c)),(8,.d (dI r)),(10,.d (ai f)),(83,.d (dI N)),(84,.d (dI k))] rfl ?_;refine AZ.cO (fun B1 F1 w1=>?_);refine qU 1 rfl ?_;rw[aH (x:=(k:Int)+1) (by omega) (by omega)];refine qU 1 rfl ?_;refine ab.nil ⟨rfl,?_⟩;exact⟨k+1,rfl,hkN,by omega⟩
 have hkN:k=N:=by have:=aA h;omega
 subst hkN;rw[show ij (x5 v row p) row k=x5 v row p by rw[← hrN];exact uY hz,← hE];refine AZ.exit ?_;have hWe:Ws.length=e.length:=by omega
 have hre:r<e.length:=by omega
 have he2c:e.length=s.rows.length:=by omega
 clear hb0 hgr;refine AZ.to [1,2,6,7,8] [(1,.d (.v Vr)),(2,.bx [.sl 1 (v.map ai)]),(6,CA s.cols),(7,.d (dI c)),(8,.d (dI r))] rfl ?_;refine AZ.seq (AZ.seq ?_);refine AZ.rl (fun B1 F1 w1 hS=>?_);refine qU 1 rfl ?_;refine ab.lens tok (hS.at (i:=0) rfl (by rw[ae];omega)) rfl rfl rfl rfl ?_;rw[ae,hWe];refine qU 1 rfl ?_;refine ab.nil ⟨rfl,?_⟩;refine AZ.block (AZ.aF [1,2,6,7,8,108,109] (fun z:Nat×List Value=>((Vr,OA z.2)::b9 z.2 (cu v e r c z.1),[(1,.d (.v Vr)),(2,.bx [.sl 1 (v.map ai)]),(6,CA s.cols),(7,.d (dI c)),(8,.d (dI r)),(108,.d (dI e.length)),(109,.d (dI z.1))])) (fun z=>z.1≤e.length∧z.2.length=e.length) (fun z=>e.length-z.1) (0,Ws) rfl ⟨Nat.zero_le _,hWe⟩ (fun z hz2=>?_));obtain ⟨i,Ws⟩:=z;obtain ⟨hi,hWe⟩:=hz2
 dsimp only at hi hWe
 show AZ _ _ _ _ _ _ _ ((Vr,OA Ws)::b9 Ws (cu v e r c i)) [(1,.d (.v Vr)),(2,.bx [.sl 1 (v.map ai)]),(6,CA s.cols),(7,.d (dI c)),(8,.d (dI r)),(108,.d (dI e.length)),(109,.d (dI i))];refine AZ.seq (AZ.cO (fun B1 F1 w1=>?_));refine qU 1 rfl ?_;refine ab.nil ⟨rfl,?_⟩;refine AZ.seq ?_;refine AZ.cond rfl (fun h=>?_) (fun h=>?_)
 · have hie:i<e.length:=by have:=ar h;omega
   have hm1:=j9 v e r c i;have hm2:=nY (v:=v) (r:=r) (c:=c) he2 i (by omega);have hm3:=tJ V.a (r:=r) (c:=c) he3 i;have hmi:=fG v e r c i i (.inl (ao _));have hmr:=fG v e r c i r (.inr rfl);have hnx:cu v e r c (i+1)=if i≠r∧jI v (aW (cu v e r c i) i c)≠0 then (cu v e r c i).set i (eL v ((cu v e r c i).getD i []) ((cu v e r c i).getD r []) (aW (cu v e r c i) i c)) else cu v e r c i:=rfl
   have iX:aW (cu v e r c i) i c=aW e i c:=tK v e r c i c;have zi: ∀q,au Kz (((cu v e r c i).getD i []).getD q []):=fun q=>by rw[hmi];exact zE2 i q
   have zr: ∀q,au Kz (((cu v e r c i).getD r []).getD q []):=fun q=>by rw[hmr];exact zE2 r q
   have zc:au Kz (aW (cu v e r c i) i c):=zi c;generalize cu v e r c i=m at *;refine AZ.skip (AZ.seq ?_);refine AZ.block (AZ.seq ?_);refine AZ.cO (fun B1 F1 w1=>?_);refine qU 2 rfl ?_;refine ab.nil ⟨rfl,?_⟩;refine AZ.seq (AZ.any aP (fP.kE 15 (by kernel_rfl) (fun B1 F1 w1 hS=>?_)));have hS0:=hS.at (i:=0) rfl (by rw[ae];omega);refine qP 3 rfl ?_;by_cases hir:i=r
   · rw[if_neg (fun g=>g.1 hir)] at hnx;rw[bne_eq_false_iff_eq.2 (show (i:Int)=(r:Int) by omega)];refine qP 12 rfl ?_;refine af.nil ⟨rfl,?_⟩;refine ah.nil ?_;refine AZ.aB rfl ?_;refine AZ.skip (AZ.cO (fun B1 F1 w1=>?_));refine qU 1 rfl ?_;rw[aH (x:=(i:Int)+1) (by omega) (by omega)];refine qU 1 rfl ?_;refine ab.nil ⟨rfl,?_⟩;exact⟨(i+1,Ws),Prod.ext (show ((Vr,OA Ws)::b9 Ws m)=((Vr,OA Ws)::b9 Ws (cu v e r c (i+1))) by rw[hnx]) rfl,⟨hie,hWe⟩,by show e.length-(i+1)<e.length-i;omega⟩
   have hmiN:(m.getD i []).length=k:=hm2 i (by omega);have hmrN:(m.getD r []).length=k:=hm2 r (by omega);have hgi:=bO (Vs:=Ws) (a:=m) (j:=i) (by omega) (by omega);have hgr2:=bO (Vs:=Ws) (a:=m) (j:=r) (by omega) (by omega);have hS1:=hS.at (i:=i+1) hgi (by rw[ae];omega);have cs:=mX V (hm3 i c) zc hmK k1;rw[bne_iff_ne.2 (show (i:Int)≠(r:Int) by omega)];refine qP 4 rfl ?_;refine af.idxs tok hS0 rfl rfl rfl rfl rfl (aj i) (by rw[ae];omega) ?_;refine af.ba tok (.v (Ws.getD i undef)) hS0 rfl rfl rfl rfl rfl rfl rfl (bZ (by omega)) rfl ?_;refine qP 1 rfl ?_;refine af.idxs tok hS1 rfl rfl rfl rfl rfl (aj c) (by rw[ae];omega) ?_;refine af.ba tok (ai (aW m i c)) hS1 rfl rfl rfl rfl rfl rfl rfl (hel hm2 (by omega) c hcN) rfl ?_;refine af.call tok rfl rfl rfl rfl rfl cs ?_;refine qP 2 rfl ?_;refine af.nil ⟨rfl,?_⟩;refine ah.nil ?_;refine AZ.cond rfl (fun h=>?_) (fun h=>?_);rotate_left
   · have hg:jI v (aW m i c)=0:=by simpa using h
     rw[if_neg (fun g=>g.2 hg)] at hnx;refine AZ.skip (AZ.cO (fun B1 F1 w1=>?_));refine qU 1 rfl ?_;rw[aH (x:=(i:Int)+1) (by omega) (by omega)];refine qU 1 rfl ?_;refine ab.nil ⟨rfl,?_⟩;exact⟨(i+1,Ws),Prod.ext (show ((Vr,OA Ws)::b9 Ws m)=((Vr,OA Ws)::b9 Ws (cu v e r c (i+1))) by rw[hnx]) rfl,⟨hie,hWe⟩,by show e.length-(i+1)<e.length-i;omega⟩
   have hg:jI v (aW m i c)≠0:=by simpa using h
   rw[if_pos ⟨hir,hg⟩] at hnx;have ct:=pU (Ws.getD i undef) (Ws.getD r undef) V (xs:=m.getD i []) (ys:=m.getD r []) (c:=aW m i c) (hm3 i) (hm3 r) (hm3 i c) zi zr zc hmK k3 (by omega) (by omega) (by omega);refine AZ.any aP (fP.oG [(0,18),(1,18)] (by kernel_rfl) (fun _ _ _ h=>h) (fun _ _ h=>h) (fP.kE 18 (by kernel_rfl) (fun B1 F1 w1 hS=>?_)));have hS0:=hS.at (i:=0) rfl (by rw[ae];omega);have hS1:=hS.at (i:=i+1) hgi (by rw[ae];omega);refine qP 5 rfl ?_;refine af.idxs tok hS0 rfl rfl rfl rfl rfl (aj i) (by rw[ae];omega) ?_;refine af.ba tok (.v (Ws.getD i undef)) hS0 rfl rfl rfl rfl rfl rfl rfl (bZ (by omega)) rfl ?_;refine qP 2 rfl ?_;refine af.idxs tok hS0 rfl rfl rfl rfl rfl (aj r) (by rw[ae];omega) ?_;refine af.ba tok (.v (Ws.getD r undef)) hS0 rfl rfl rfl rfl rfl rfl rfl (bZ (by omega)) rfl ?_;refine qP 2 rfl ?_;refine af.idxs tok hS0 rfl rfl rfl rfl rfl (aj i) (by rw[ae];omega) ?_;refine af.ba tok (.v (Ws.getD i undef)) hS0 rfl rfl rfl rfl rfl rfl rfl (bZ (by omega)) rfl ?_;refine qP 1 rfl ?_;refine af.idxs tok hS1 rfl rfl rfl rfl rfl (aj c) (by rw[ae];omega) ?_;refine af.ba tok (ai (aW m i c)) hS1 rfl rfl rfl rfl rfl rfl rfl (hel hm2 (by omega) c hcN) rfl ?_;refine af.nil ⟨rfl,?_⟩;refine ah.to [127,128,129,133,137,144,1,2,6,7,8,108,109] [(127,.d (.v Vr)),(128,.d (dI i)),(129,.d (bA v)),(133,.d (.v (Ws.getD i undef))),(137,.d (.v (Ws.getD r undef))),(144,.d (ai (aW m i c))),(1,.d (.v Vr)),(2,.bx [.sl 1 (v.map ai)]),(6,CA s.cols),(7,.d (dI c)),(8,.d (dI r)),(108,.d (dI e.length)),(109,.d (dI i))] rfl ?_;refine ah.fR tok [i+1,r+1] rfl rfl rfl rfl (H7 hgi hgr2) (by simp[hir]) rfl ct (fun res R1 hP=>by obtain ⟨_,_,rfl⟩:=hP;exact Nat.le_succ 2) (fun res R1 hP=>?_);obtain ⟨V,rfl,rfl⟩:=hP
   refine ah.jd (R':=((Vr,OA Ws)::b9 Ws m++[(V,et (eL v (m.getD i []) (m.getD r []) (aW m i c)))])) (by
    show ((Vr,OA Ws)::((b9 Ws m).set i _).set r _)++[_]=_
    rw[kX hgi,kX hgr2]) ?_
   refine ah.vH 1 rfl (fun B1 F1 w1 hS=>?_);refine ab.idxs tok (hS.at (i:=0) rfl (by rw[ae];omega)) rfl rfl rfl rfl (aj i) (by rw[ae];omega) ?_;refine ab.nil ⟨rfl,?_⟩;refine ah.cT 127 0 rfl rfl rfl ?_;refine ah.el (k:=i) tok 127 146 rfl (List.Mem.head _) rfl rfl rfl (by rw[ae];omega) rfl ?_;refine ah.cut 1 rfl (fun B1 F1 w1=>?_);refine ab.kr tok V rfl rfl rfl (by omega) ?_;refine ab.nil ⟨rfl,?_⟩;refine ah.back 127 0 rfl rfl rfl (List.Mem.head _) rfl ?_;refine ah.jd (R':=((Vr,OA (Ws.set i V))::b9 Ws m++[(V,et (eL v (m.getD i []) (m.getD r []) (aW m i c)))])) rfl ?_;refine ah.nil ?_;refine AZ.to [1,2,6,7,8,108,109] [(1,.d (.v Vr)),(2,.bx [.sl 1 (v.map ai)]),(6,CA s.cols),(7,.d (dI c)),(8,.d (dI r)),(108,.d (dI e.length)),(109,.d (dI i))] rfl ?_;refine AZ.zk (i:=i) hgi ?_;rw[nE (by omega) (by omega),← hnx];refine AZ.cO (fun B1 F1 w1=>?_);refine qU 1 rfl ?_;rw[aH (x:=(i:Int)+1) (by omega) (by omega)];refine qU 1 rfl ?_;refine ab.nil ⟨rfl,?_⟩;exact⟨(i+1,Ws.set i V),rfl,⟨hie,by show (Ws.set i V).length=_;rw[List.length_set];exact hWe⟩,by show e.length-(i+1)<e.length-i;omega⟩
 have hie:i=e.length:=by have:=aA h;omega
 subst hie;refine AZ.exit ?_;refine AZ.cO (fun B1 F1 w1=>?_);refine qU 2 rfl ?_;refine ab.e7 tok rfl rfl rfl rfl rfl ?_;refine ab.gg tok rfl rfl rfl rfl rfl rfl (by show ((s.cols.map (fun c:Nat=>dI c)).length+1)*8≤_;rw[ae];omega) (by show (s.cols.map (fun c:Nat=>dI c)).length+1≤_;rw[ae];omega) ?_;refine qU 1 rfl ?_;refine ab.nil ⟨rfl,?_⟩;refine AZ.cO (fun B1 F1 w1=>?_);refine qU 2 rfl ?_;rw[aH (x:=(c:Int)+1) (by omega) (by omega)];refine qU 1 rfl ?_;refine ab.nil ⟨rfl,?_⟩;exact⟨(c+1,Vr,Ws),by rw[hst];show _=((Vr,OA Ws)::b9 Ws (cu v e r c e.length),([(1,.d (.v Vr)),(2,.bx [.sl 1 (v.map ai)]),(6,.ow 3 ((s.cols++[c]).map (fun c:Nat=>dI c))),(7,.d (dI (c+1:Nat)))]:St));rw[List.map_append];rfl,⟨hcN,by show Ws.length=a.length;omega⟩,by show k-(c+1)<k-c;omega⟩
end Lift
namespace Lift
open Go Go.Proofs
theorem xN(l:List Nat)(hl:l.length≤1000000)(n:Nat):Pure Tryz.prog 72 [tf l,dI n] (dB (l.contains n)):=by
 refine qJ 17 Tryz.func72 rfl rfl rfl rfl (by kernel_rfl) (fun B F0 w0=>?_);obtain ⟨E,hE⟩: ∃E,(l.drop 0).contains n=E:=⟨_,rfl⟩;rw[show l.contains n=E from hE];refine qX 1 rfl ?_;refine qI (qX 2 rfl ?_);rw[ae];refine qU 1 rfl ?_;refine ab.nil ?_;refine AW.block ?_;refine AW.aF [1,7,8,9] (fun i:Nat=>[(1,.d (dI n)),(7,.d (tf l)),(8,.d (dI l.length)),(9,.d (dI i))]) (fun i=>i≤l.length∧(l.drop i).contains n=E) (fun i=>l.length-i) 0 rfl ⟨Nat.zero_le _,hE⟩ (fun i ⟨hi,hiE⟩=>?_)
 · show AW _ _ _ _ _ _ _ [(1,.d (dI n)),(7,.d (tf l)),(8,.d (dI l.length)),(9,.d (dI i))];refine qX 1 rfl ?_;refine qI ?_;refine AW.cond rfl (fun h=>?_) (fun h=>?_)
   · have hii:i<l.length:=by have:=ar h;omega
     have g1:=Cu (l:=l) (i:=i) hii;have hge:l[i]=l.getD i 0:=by rw[aG,bg hii];rfl
     rw[List.drop_eq_getElem_cons hii,List.contains_cons,hge] at hiE;generalize l.getD i 0=x at g1 hiE;refine AW.skip (AW.seq (AW.block (AW.seq (AW.region ?_))));refine ab.idx tok (dI x) rfl rfl rfl rfl (aj i) g1 ?_;refine qU 2 rfl ?_;refine qK 3 rfl ?_;refine ab.nil ?_;refine AW.cond rfl (fun h=>?_) (fun h=>?_)
     · have hx:x=n:=by have:=beq_iff_eq.1 h;omega
       rw[hx,beq_self_eq_true,Bool.true_or] at hiE;rw[← hiE];refine qX 1 rfl ?_;exact qN rfl
     · have hx:x≠n:=by have:=beq_eq_false_iff_ne.1 h;omega
       rw[beq_eq_false_iff_ne.2 (Ne.symm hx),Bool.false_or] at hiE;refine AW.skip (qT 1 rfl ?_);rw[aH (x:=(i:Int)+1) (by omega) (by omega)];refine qU 1 rfl ?_;refine ab.nil ?_;exact⟨i+1,rfl,⟨hii,hiE⟩,by omega⟩
   have hii:i=l.length:=by have:=aA h;omega
   rw[hii,List.drop_length] at hiE;rw[← hiE];refine AW.exit ?_;refine qX 1 rfl ?_;exact qN rfl
theorem uy:Pure Tryz.prog 97 [(Qr ((1:Int):Rat)).D] (ai [1]):=by
 refine qJ 10 Tryz.func97 rfl rfl rfl rfl (by kernel_rfl) (fun B0 F0 w0=>?_);have hw:(Qr ((1:Int):Rat)).w 1:=jt _ (by have:=nD;rw[show ((1:Int):Rat)=1 from rfl];omega);have c1:=sj (Qr ((1:Int):Rat)) hw (by decide);have c2:=uA (Qr ((1:Int):Rat)) (Qr 0) hw (jt _ (mj (ao 1))) (by decide);rw[cE,cE,show ((1:Int):Rat)+0=((1:Int):Rat) from Rat.add_zero _,jC] at c2;rw[xG,cE] at c1;refine qX 2 rfl ?_;refine qI (qX 1 rfl ?_);refine ab.call tok rfl rfl rfl rfl c1 ?_;refine qU 1 rfl ?_;refine ab.nil ?_;rw[beq_eq_false_iff_ne.2 (fun e=>absurd (iS.1 e) (by decide))];refine AW.aB rfl ?_;refine AW.skip (qX 2 rfl ?_);refine ab.call tok rfl rfl rfl rfl c2 ?_;refine ab.e7 tok rfl rfl rfl rfl rfl ?_;refine qU 1 rfl ?_;exact qN rfl
theorem ur(v:List NQ):Pure Tryz.prog 51 [bA v,bh []] (.tu [bh [],tf []]):=by
 refine qJ 157 Tryz.func51 rfl rfl rfl rfl (by kernel_rfl) (fun B F0 w0=>?_);refine AZ.aw ?_;refine AZ.seq (AZ.cO (fun B1 F1 w1=>?_));refine qU 3 rfl ?_;refine ab.nil ⟨rfl,?_⟩;refine AZ.seq (AZ.region ?_);refine ah.cut 1 rfl (fun B1 F1 w1=>?_);refine qU 1 rfl ?_;refine ab.nil ⟨rfl,?_⟩;refine ah.fR tok [] rfl rfl rfl rfl rfl List.nodup_nil rfl (iL (a:=[]) (Nat.zero_le _) (fun i=>Nat.zero_le _)) (fun _ _ _=>Nat.zero_le _) (fun res R1 hP=>?_);obtain ⟨V0,Vs0,hV0,rfl,rfl⟩:=hP;obtain rfl:Vs0=[]:=List.length_eq_zero_iff.1 hV0;refine ah.cut 1 rfl (fun B1 F1 w1=>?_);refine qU 1 rfl ?_;refine ab.nil ⟨rfl,?_⟩;refine ah.nil ?_;refine AZ.to [1,2] [(1,.d (.v V0)),(2,.bx [.sl 1 (v.map ai)])] rfl ?_;refine AZ.cT 1 0 rfl rfl rfl ?_;refine AZ.seq (AZ.cO (fun B1 F1 w1=>?_));refine ab.fQ tok 1 rfl rfl ?_;refine qU 1 rfl ?_;refine ab.nil ⟨rfl,?_⟩;refine AZ.seq (AZ.seq ?_);refine AZ.cO (fun B1 F1 w1=>?_);refine qU 1 rfl ?_;refine ab.nil ⟨rfl,?_⟩;refine AZ.to [1,2,6,7] [(1,.d (bh [])),(2,.bx [.sl 1 (v.map ai)]),(6,.ow 3 []),(7,.d (dI (0:Nat)))] rfl ?_;refine AZ.oH [] (fun i r h=>by simp at h) ?_;refine AZ.block (AZ.aF [1,2,6,7] (fun _:Unit=>([],[(1,.d (bh [])),(2,.bx [.sl 1 (v.map ai)]),(6,.ow 3 []),(7,.d (dI (0:Nat)))])) (fun _=>True) (fun _=>0) () rfl trivial (fun _ _=>?_));show AZ _ _ _ _ _ _ _ [] [(1,.d (bh [])),(2,.bx [.sl 1 (v.map ai)]),(6,.ow 3 []),(7,.d (dI (0:Nat)))];refine AZ.seq (AZ.seq ?_);refine AZ.cO (fun B1 F1 w1=>?_);refine qU 2 rfl ?_;refine ab.call tok rfl rfl rfl rfl (fr []) ?_;refine qU 9 rfl ?_;refine ab.nil ⟨rfl,?_⟩;refine AZ.aB rfl ?_;refine AZ.exit ?_;refine AZ.seq (AZ.cO (fun B1 F1 w1=>?_));refine ab.fQ tok 6 rfl rfl ?_;refine qU 3 rfl ?_;refine ab.Dw tok rfl rfl rfl rfl trivial (Int.le_refl _) (Nat.zero_le _) (Nat.zero_le _) ?_;refine qU 3 rfl ?_;refine ab.nil ⟨rfl,?_⟩;exact AZ.ret rfl
end Lift
namespace Lift
open Go Go.Proofs
theorem lY{v:List NQ}{xs ys:List NQ}{k:Nat}(L:Lo v)(hl:ys.length=xs.length)(hl1:xs.length≤1000000)(hx: ∀i,aC v.length (xs.getD i []))(hy: ∀i,aC v.length (ys.getD i []))(sx: ∀i,au k (xs.getD i []))(sy: ∀i,au k (ys.getD i []))(hk:k≤100000000000)
  (he: ∀i,i<xs.length→bd v v.length (cf (aS (xs.getD i []) (aK (ys.getD i []))))=0):Pure Tryz.prog 30 [bA v,a8 xs,a8 ys] (dB true):=by
 refine qJ 40 Tryz.func30 rfl rfl rfl rfl (by kernel_rfl) (fun B F0 w0=>?_);have cc:=fun i=>Em L.V (hx i) (sx i) (hy i) (sy i) (by have:=(sx 0).pos;omega) (o6 L.l1 (by omega));refine qX 2 rfl ?_;refine qI (qX 2 rfl ?_);rw[ae];refine qU 2 rfl ?_;rw[ae,hl];refine qU 1 rfl ?_;rw[bne_eq_false_iff_eq.2 rfl];refine ab.nil ?_;refine AW.aB rfl ?_
 · skip
   refine AW.skip (AW.seq ?_);refine qX 2 rfl ?_;rw[ae];refine qU 1 rfl ?_;refine ab.nil ?_;refine AW.block ?_;refine AW.aF [1,2,3,16,17] (fun i:Nat=>[(1,.d (a8 xs)),(2,.d (a8 ys)),(3,.bx [.sl 1 (v.map ai)]),(16,.d (dI xs.length)),(17,.d (dI i))]) (fun i=>i≤xs.length) (fun i=>xs.length-i) 0 rfl (Nat.zero_le _) (fun i hi=>?_)
   · show AW _ _ _ _ _ _ _ [(1,.d (a8 xs)),(2,.d (a8 ys)),(3,.bx [.sl 1 (v.map ai)]),(16,.d (dI xs.length)),(17,.d (dI i))];refine qX 1 rfl ?_;refine qI ?_;refine AW.cond rfl (fun h=>?_) (fun h=>?_)
     · have hii:i<xs.length:=by have:=ar h;omega
       have gx:=getM ai (l:=xs) (i:=i) hii;have gy:=getM ai (l:=ys) (i:=i) (by omega);have cc:=cc i;rw[he i hii] at cc;generalize xs.getD i []=x at gx cc;generalize ys.getD i []=y at gy cc;refine AW.skip (AW.seq (AW.block ?_));refine qX 2 rfl ?_;refine qI (AW.draw aP 14 (by kernel_rfl) ?_);refine qP 3 rfl ?_;refine af.idx tok (ai x) rfl rfl rfl rfl rfl (aj i) gx ?_;refine qP 3 rfl ?_;refine af.idx tok (ai y) rfl rfl rfl rfl rfl (aj i) gy ?_;refine qP 1 rfl ?_;refine af.call tok rfl rfl rfl rfl rfl cc ?_;refine qP 4 rfl ?_;refine af.nil ?_;refine qU 1 rfl ?_;refine qK 6 rfl ?_;refine ab.nil ?_;refine AW.aB rfl ?_
       · skip
         refine AW.skip (qT 1 rfl ?_);rw[aH (x:=(i:Int)+1) (by omega) (by omega)];refine qU 1 rfl ?_;refine ab.nil ?_;exact⟨i+1,rfl,hii,by omega⟩
     have hii:i=xs.length:=by have:=aA h;omega
     subst hii;refine AW.exit ?_;refine qX 1 rfl ?_;exact qN rfl
end Lift
namespace Lift
open Go Go.Proofs
theorem uu{v:List NQ}{a:a9}{N:Nat}(L:Lo v)(hN:N≤5)(ha:a.length≤1000000)(hr:bm N a)(hl:kd v.length a)(hs:kG 2 a):Pure Tryz.prog 51 [bA v,bh a] (.tu [bh ((aJ v a N).rows.take (aJ v a N).cols.length),tf (aJ v a N).cols]):=by
 by_cases h0:a.length=0
 · obtain rfl:=List.length_eq_zero_iff.1 h0;rw[xK];exact ur v
 · have g:=vp hN;have R:=L.red hr hl hs g;have h2:2≤gI 2 N:=Nat.le_trans (ao 2) (fN (Nat.zero_le N));have h3:=ug L.l1 (gI 2 N);exact wh L.V (by omega) ha (by omega) hr hl R.2.1 R.2.2.2.1 R.2.2.2.2 h2 (o6 L.l1 (by omega)) (Bg L.l1 (by omega)) (by omega)
end Lift
namespace Lift
section
variable {K:Fd}
end
section
variable {v:List NQ} (V:lL v) (F:FV v) {a:a9}
include V in
def H6{K:Fd}(z:Int):K.T:=if z<0 then -1 else 1
theorem Gt{K:Fd}{z:Int}(h:z=1∨z= -1):(H6 (-z):K.T)= -H6 z:=by
 rcases h with rfl | rfl
 · show (if (-1:Int)<0 then (-1:K.T) else 1)= -(if (1:Int)<0 then -1 else 1);rw[if_pos (by decide),if_neg (by decide)]
 · show (if (- -1:Int)<0 then (-1:K.T) else 1)= -(if (-1:Int)<0 then -1 else 1);rw[if_neg (by decide),if_pos (by decide)];exact(Rg.neg_neg _).symm
include V
end
end Lift
namespace Lift
def ew(v:List NQ)(b:a9)(k:Nat):Nat→a9
 | 0=>b
 | i+1=>if k<i then (ew v b k i).set i (eL v ((ew v b k i).getD i []) ((ew v b k i).getD k []) (mG v (aW (ew v b k i) i k) (aW (ew v b k i) k k))) else ew v b k i
theorem lp(v:List NQ)(b:a9)(k:Nat): ∀i,(ew v b k i).length=b.length
 | 0=>rfl
 | i+1=>by
   unfold ew;split
   · rw[List.length_set];exact lp v b k i
   · exact lp v b k i
theorem jX(v:List NQ)(b:a9)(k:Nat): ∀i j,(ew v b k i).getD j []=if k<j∧j<i∧j<b.length then eL v (b.getD j []) (b.getD k []) (mG v (aW b j k) (aW b k k)) else b.getD j []
 | 0,j=>by rw[if_neg (by omega)];rfl
 | i+1,j=>by
   have ih:=jX v b k i;have hk:(ew v b k i).getD k []=b.getD k []:=by rw[ih k,if_neg (by omega)]
   have hi:(ew v b k i).getD i []=b.getD i []:=by rw[ih i,if_neg (by omega)]
   have e1:aW (ew v b k i) i k=aW b i k:=by unfold aW;rw[hi]
   have e2:aW (ew v b k i) k k=aW b k k:=by unfold aW;rw[hk]
   unfold ew;split
   · rename_i h;rw[eH,hi,hk,e1,e2,lp];by_cases hj:j=i∧i<b.length
     · rw[if_pos hj,if_pos ⟨by omega,by omega,by omega⟩,hj.1]
     · rw[if_neg hj,ih j];by_cases g:k<j∧j<i∧j<b.length
       · rw[if_pos g,if_pos ⟨g.1,by omega,g.2.2⟩]
       · rw[if_neg g,if_neg (fun h'=>by omega)]
   · rename_i h;rw[ih j];by_cases g:k<j∧j<i∧j<b.length
     · rw[if_pos g,if_pos ⟨g.1,by omega,g.2.2⟩]
     · rw[if_neg g,if_neg (fun h'=>by omega)]
theorem vf(v:List NQ)(b:a9)(k:Nat): ∀i,i≤k+1→ew v b k i=b
 | 0,_=>rfl
 | i+1,h=>by
   unfold ew;rw[if_neg (by omega)];exact vf v b k i (by omega)
def bK(m:a9)(k t:Nat):a9:=if t=k then m else yU m k t
theorem IG(m:a9)(k t:Nat):(bK m k t).length=m.length:=by
 unfold bK;split
 · rfl
 · exact BZ m k t
theorem BM{m:a9}{k t i:Nat}(hk:k<m.length)(h:t<m.length):(bK m k t).getD i []=m.getD (sw k t i) []:=by
 unfold bK;split
 · rename_i e;rw[e];unfold sw;by_cases g:i=k
   · rw[if_pos g,g]
   · rw[if_neg g,if_neg g]
 · unfold yU sw;rw[eH,eH];by_cases g:i=k
   · rw[if_pos ⟨g,by rw[List.length_set];omega⟩,if_pos g]
   · rw[if_neg (fun h=>g h.1),if_neg g];by_cases g2:i=t
     · rw[if_pos ⟨g2,h⟩,if_pos g2]
     · rw[if_neg (fun h=>g2 h.1),if_neg g2]
def tA(v:List NQ)(m:a9)(k:Nat):Nat:=gf (yH v m k) (m.length-k) k
def wA(v:List NQ)(a:a9):Nat→Option (a9×NQ)
 | 0=>some (a,[1])
 | k+1=>match wA v a k with
   | none=>none
   | some (m,d)=>if tA v m k<m.length then some (ew v (bK m k (tA v m k)) k m.length,eg v (if tA v m k=k then d else qh d) (aW (bK m k (tA v m k)) k k)) else none
def Dk(v:List NQ)(a:a9):NQ:=match wA v a a.length with
 | none=>[]
 | some x=>x.2
theorem tH{v:List NQ}{a m:a9}{d:NQ}{k:Nat}(h:wA v a k=some (m,d))(ht:tA v m k<m.length):wA v a (k+1)=some (ew v (bK m k (tA v m k)) k m.length,eg v (if tA v m k=k then d else qh d) (aW (bK m k (tA v m k)) k k)):=by
 show (match wA v a k with
  | none=>none
  | some (m,d)=>if tA v m k<m.length then some (ew v (bK m k (tA v m k)) k m.length,eg v (if tA v m k=k then d else qh d) (aW (bK m k (tA v m k)) k k)) else none)=_
 rw[h];exact if_pos ht
theorem qD{v:List NQ}{a m:a9}{d:NQ}{k:Nat}(h:wA v a k=some (m,d))(ht: ¬tA v m k<m.length):wA v a (k+1)=none:=by
 show (match wA v a k with
  | none=>none
  | some (m,d)=>if tA v m k<m.length then some (ew v (bK m k (tA v m k)) k m.length,eg v (if tA v m k=k then d else qh d) (aW (bK m k (tA v m k)) k k)) else none)=_
 rw[h];exact if_neg ht
theorem qC{v:List NQ}{a:a9}{k:Nat}(h:wA v a k=none):wA v a (k+1)=none:=by
 show (match wA v a k with
  | none=>none
  | some (m,d)=>if tA v m k<m.length then some (ew v (bK m k (tA v m k)) k m.length,eg v (if tA v m k=k then d else qh d) (aW (bK m k (tA v m k)) k k)) else none)=_
 rw[h]
theorem Ff{v:List NQ}{a:a9}{k:Nat}(h:wA v a k=none): ∀n,k≤n→wA v a n=none:=fun n hn=>by
 induction hn with
 | refl=>exact h
 | step _ ih=>exact qC ih
structure JM (v:List NQ) (n:Nat) (m:a9) (d:NQ):Prop where
 len:m.length=n
 rect:bm n m
 lt:kd v.length m
 d:aC v.length d
theorem CL{v:List NQ}{n k t:Nat}{m:a9}{d:NQ}(R:JM v n m d)(hk:k<n)(ht:t<n):(bK m k t).length=n∧bm n (bK m k t)∧kd v.length (bK m k t):=by
 have hl:=R.len;refine⟨(IG m k t).trans hl,?_,?_⟩
 · unfold bK;split
   · exact R.rect
   · exact yT R.rect (by omega) (by omega)
 · unfold bK;split
   · exact R.lt
   · exact DT R.lt k t
theorem EJ{v:List NQ}(V:lL v){n k:Nat}{b:a9}(hl:b.length=n)(hr:bm n b)(lt:kd v.length b)(i:Nat):bm n (ew v b k i)∧kd v.length (ew v b k i):=by
 refine⟨fun j hj=>?_,fun j c=>?_⟩
 · rw[lp] at hj;rw[jX];split
   · rw[gA];exact hr j hj
   · exact hr j hj
 · show aC v.length (((ew v b k i).getD j []).getD c []);rw[jX];split
   · exact yS V (lt j) (lt k) (tI V (lt j k) (lt k k)) c
   · exact lt j c
theorem Al{v:List NQ}(V:lL v){a:a9}(hr:bm a.length a)(hl:kd v.length a): ∀k m d,k≤a.length→wA v a k=some (m,d)→JM v a.length m d
 | 0,m,d,_,h=>by
   cases h;exact⟨rfl,hr,hl,gl _ _⟩
 | k+1,m,d,hk,h=>by
   cases h0:wA v a k with
   | none=>rw[qC h0] at h;cases h
   | some x =>
     obtain ⟨m0,d0⟩:=x;have R:=Al V hr hl k m0 d0 (by omega) h0;have hlen:=R.len;by_cases ht:tA v m0 k<m0.length
     · rw[tH h0 ht] at h;cases h;obtain ⟨b1,b2,b3⟩:=CL (t:=tA v m0 k) R (show k<a.length by omega) (by omega);obtain ⟨l1,l2⟩:=EJ V (k:=k) b1 b2 b3 m0.length;refine⟨by rw[lp,b1],l1,l2,jy V ?_ (b3 _ _)⟩;split
       · exact R.d
       · exact bp R.d.minus
     · rw[qD h0 ht] at h;cases h
theorem vq{g f:Nat→Bool}: ∀{m i:Nat},(∀j,i≤j→j<i+m→g j=f j)→gf g m i=gf f m i
 | 0,_,_=>rfl
 | m+1,i,h=>by
   unfold gf;rw[h i (ao _) (by omega),vq (fun j h1 h2=>h j (by omega) (by omega))]
section
variable {v:List NQ} (V:lL v) (F:FV v) {a:a9}
include V
theorem Fe(hr:bm a.length a)(hl:kd v.length a): ∀k,k≤a.length→(wA v a k=none∧(aJ v a k).cols.length<k)∨ ∃m d,wA v a k=some (m,d)∧(aJ v a k).cols.length=k ∧
  (∀i j,k≤i→i<a.length→k≤j→j<a.length→F.val (aW m i j)=vM F (aJ v a k).rows i j)∧F.val d=H6 (aJ v a k).sg*F.val (aJ v a k).fj
 | 0,_=> .inr ⟨a,[1],rfl,rfl,fun i j _ _ _ _=>rfl,by
   show _=(if (1:Int)<0 then (-1:F.K.T) else 1)*F.val [1]
   rw[if_neg (by decide),F.one,Rg.one_mul]⟩
 | k+1,hk=>by
   rcases Fe hr hl k (by omega) with ⟨h0,h1⟩ | ⟨m,d,h0,hc,hm,hd⟩
   · refine .inl ⟨qC h0,?_⟩;rcases Bz v a k with ⟨e,_⟩ | ⟨e,_⟩
     · rw[e,List.length_append];show _+1<_;omega
     · rw[e];omega
   · have D:=Al V hr hl k m d (by omega) h0;have R:=gR V hr hl k;have hml:=D.len;have hlen:=R.len
     have ht:tA v m k=atR v (aJ v a k) k:=by
      unfold tA atR;rw[hc,hml,hlen];refine vq fun j h1 h2=>?_;have e:=hm j k h1 (by omega) (ao _) (by omega);have s1:=F.sg (D.lt j k);have s2:=F.sg (R.lt j k);unfold yH;change F.val (aW m j k)=F.val (aW (aJ v a k).rows j k) at e;rw[e] at s1;have:jI v (aW m j k)=0↔jI v (aW (aJ v a k).rows j k)=0:=s1.trans s2.symm;by_cases g:jI v (aW m j k)=0
      · rw[aT (fun h=>h g),aT (fun h=>h (this.1 g))]
      · rw[aV g,aV (show jI v (aW (aJ v a k).rows j k)≠0 from fun h=>g (this.2 h))]
     obtain ⟨a1,a2,a3,a4⟩:=jf v (aJ v a k) k (by have:=R.cm;omega);have hst:aJ v a (k+1)=dZ v (aJ v a k) k:=rfl;by_cases h:atR v (aJ v a k) k<(aJ v a k).rows.length
     · refine .inr ⟨_,_,tH h0 (by rw[ht];omega),?_⟩;obtain ⟨h3,h4⟩:=DY V F R (show k<a.length by omega) h;have b3:=(vQ (c:=k) R h).2.2
       have hp:F.val (pR v (aJ v a k) k)=vM F (aJ v a k).rows (atR v (aJ v a k) k) k:=by
        unfold pR vM aW;rw[yw a1 h (by omega),DR]
       have hmul:F.val (eg v (aJ v a k).fj (pR v (aJ v a k) k))=F.val (aJ v a k).fj*F.val (pR v (aJ v a k) k):=F.mul R.fj (b3 _ _);have hsg:=R.sg;rw[hst];unfold dZ;rw[if_pos h,ht];rw[hc] at a1 h4;generalize hT:atR v (aJ v a k) k=t at *;have htn:t<a.length:=by omega
       have hkn:k<a.length:=by omega
       obtain ⟨c1,c2,c3⟩:=CL (t:=t) D hkn htn
       have eb: ∀i j,aW (bK m k t) i j=aW m (sw k t i) j:=fun i j=>by
        unfold aW;rw[BM (by omega) (by omega)]
       have vb: ∀i j,k≤i→i<a.length→k≤j→j<a.length→F.val (aW (bK m k t) i j)=vM F (aJ v a k).rows (sw k t i) j:=fun i j h1 h2 h5 h6=>by
        rw[eb];exact hm _ _ (I6 a1 h1) (I5 hkn htn h2) h5 h6
       have vk: ∀j,k≤j→j<a.length→F.val (aW (bK m k t) k j)=vM F (aJ v a k).rows t j:=fun j h1 h2=>by
        have:=vb k j (ao _) hkn h1 h2;rw[DR] at this;exact this
       have hz:jI v (aW (bK m k t) k k)≠0:=fun e=>h3 (by
        rw[← vk k (ao _) hkn]
        exact(F.sg (c3 k k)).1 e)
       refine⟨by rw[List.length_append,hc];rfl,fun i j h1 h2 h5 h6=>?_,?_⟩
       · have e4:=h4 i j h2 h6;rw[if_neg (by omega)] at e4;rw[hc];rw[e4]
         have er:aW (ew v (bK m k t) k m.length) i j=n6 (aW (bK m k t) i j) (eg v (mG v (aW (bK m k t) i k) (aW (bK m k t) k k)) (aW (bK m k t) k j)):=by
          unfold aW;rw[jX,if_pos ⟨by omega,by omega,by omega⟩,iu v _ _ _ (by rw[c2 i (by omega)];exact h6)];rfl
         rw[er,F.sub (c3 i j) (jy V (tI V (c3 i k) (c3 k k)) (c3 k j)),F.mul (tI V (c3 i k) (c3 k k)) (c3 k j),F.div (c3 i k) (c3 k k) hz,vb i j (by omega) h2 (by omega) h6,vb i k (by omega) h2 (ao _) hkn,vk k (ao _) hkn,vk j (by omega) h6];generalize vM F (aJ v a k).rows (sw k t i) j=x;generalize vM F (aJ v a k).rows (sw k t i) k=y;generalize vM F (aJ v a k).rows t j=z;generalize F.K.inv (vM F (aJ v a k).rows t k)=q;exact Rg.jn [x,y,z,q] (X0-X1*X3*X2) (X0-X1*(X2*X3)) rfl
       · show F.val (eg v (if t=k then d else qh d) (aW (bK m k t) k k))=H6 (if t=(aJ v a k).cols.length then (aJ v a k).sg else -(aJ v a k).sg)*F.val (eg v (aJ v a k).fj (pR v (aJ v a k) k));rw[hmul,hp,hc];by_cases e:t=k
         · rw[if_pos e,if_pos e,F.mul D.d (c3 k k),vk k (ao _) hkn,hd,Rg.mul_assoc]
         · rw[if_neg e,if_neg e,F.mul (show aC v.length (qh d) from bp D.d.minus) (c3 k k),vk k (ao _) hkn,F.neg D.d,hd,Gt hsg];generalize (H6 (aJ v a k).sg:F.K.T)=g;generalize F.val (aJ v a k).fj=x;generalize vM F (aJ v a k).rows t k=p;exact Rg.jn [g,x,p] (-(X0*X1)*X2) (-X0*(X1*X2)) rfl
     · refine .inl ⟨qD h0 (by rw[ht];omega),?_⟩;rw[hst];unfold dZ;rw[if_neg h];omega
theorem G8(hr:bm a.length a)(hl:kd v.length a):F.val (Dk v a)=F.val (qF v a):=by
 unfold Dk qF;rcases Fe V F hr hl a.length (ao _) with ⟨h0,h1⟩ | ⟨m,d,h0,hc,_,hd⟩
 · rw[h0,if_pos h1]
 · rw[h0,if_neg (by omega)];show F.val d=_;have R:=gR V hr hl a.length;rw[hd];by_cases hg:(aJ v a a.length).sg<0
   · rw[if_pos hg,F.neg R.fj,show (H6 (aJ v a a.length).sg:F.K.T)= -1 from if_pos hg];generalize F.val (aJ v a a.length).fj=x;exact Rg.jn [x] (-1*X0) (-X0) rfl
   · rw[if_neg hg,show (H6 (aJ v a a.length).sg:F.K.T)=1 from if_neg hg,Rg.one_mul]
end
theorem Lo.low{v:List NQ}(L:Lo v){b:a9}{k z n:Nat}(b2:bm n b)(b3:kd v.length b)(bs:kG z b)(hz:jI v (aW b k k)≠0)(hg:110*z+129≤100000000000)(l:Nat):kG (110*z+129) (ew v b k l):=fun i j=>by
 have hp:=bs.pos;show au _ (((ew v b k l).getD i []).getD j []);rw[jX];split
 · by_cases hj:j<(b.getD i []).length
   · rw[iu v _ _ _ hj];obtain ⟨_,q2,q3⟩:=L.div (b3 i k) (bs i k) (b3 k k) (bs k k) hz (by omega);obtain ⟨_,q5,q6⟩:=L.mul q2 q3 (b3 k j) (bs k j) (by omega);exact(L.sub (b3 i j) (bs i j) q5 q6 (by omega)).2.2.mono (by omega)
   · rw[kC (by rw[gA];omega)];exact aY (by omega)
 · exact(bs i j).mono (by omega)
theorem FE{v:List NQ}{m:a9}{k:Nat}(hk:k<m.length)(ht:tA v m k<m.length):k≤tA v m k∧jI v (aW (bK m k (tA v m k)) k k)≠0:=by
 have h4:=lC (g:=yH v m k) (m:=m.length-k) (i:=k);refine⟨h4.1,?_⟩
 have e:aW (bK m k (tA v m k)) k k=aW m (tA v m k) k:=by
  unfold aW;rw[BM hk ht,DR]
 rw[e];exact ar (h4.2.2.2 (by show tA v m k<_;omega))
theorem HK{m:a9}{k t z:Nat}(hk:k<m.length)(ht:t<m.length)(h:kG z m):kG z (bK m k t):=fun i j=>by
 unfold aW;rw[BM hk ht];exact h _ j
theorem Lo.dt{v:List NQ}(L:Lo v){a:a9}{z:Nat}(hr:bm a.length a)(hl:kd v.length a)(hs:kG z a): ∀k m d,k≤a.length→gI z k≤100000000000→wA v a k=some (m,d)→kG (gI z k) m∧au (gI z k) d
 | 0,m,d,_,_,h=>by
   cases h;exact⟨hs,iR (Nat.le_trans nD hs.pos)⟩
 | k+1,m,d,hk,hg,h=>by
   have hge:gI z (k+1)=110*gI z k+129:=rfl;cases h0:wA v a k with
   | none=>rw[qC h0] at h;cases h
   | some x =>
     obtain ⟨m0,d0⟩:=x;obtain ⟨s1,s2⟩:=L.dt hr hl hs k m0 d0 (by omega) (by omega) h0;have D:=Al L.V.a hr hl k m0 d0 (by omega) h0;have hlen:=D.len;have hp:=s1.pos;by_cases ht:tA v m0 k<m0.length
     · rw[tH h0 ht] at h;cases h;obtain ⟨b1,b2,b3⟩:=CL (t:=tA v m0 k) D (show k<a.length by omega) (by omega);have bs:=HK (show k<m0.length by omega) ht s1;have hz:=(FE (show k<m0.length by omega) ht).2;refine⟨L.low b2 b3 bs hz (by omega) _,?_⟩
       · refine(L.mul (k:=gI z k) ?_ ?_ (b3 k k) (bs k k) (by omega)).2.2.mono (by omega)
         · split
           · exact D.d
           · exact bp D.d.minus
         · split
           · exact s2
           · exact(x8 D.d s2).2
     · rw[qD h0 ht] at h;cases h
end Lift
namespace Lift
open Go Go.Proofs
variable {P:Program} {T:Ty} {B:Nat} {F0:Nat→Prop} {w0:cL} {n:Nat} {σ:St}
set_option maxHeartbeats 6400000 in
theorem zu{v:List NQ}{a:a9}(L:Lo v)(ha0:0<a.length)(h5:a.length≤5)(hr:bm a.length a)(hl:kd v.length a)(hs:kG 2 a):Pure Tryz.prog 73 [bA v,bh a] (ai (Dk v a)):=by
 refine qJ 129 Tryz.func73 rfl rfl rfl rfl (by kernel_rfl) (fun B F0 w0=>?_);have V:=L.V;have hKz:=vp h5;obtain ⟨Kz,hKe⟩: ∃Kz,gI 2 a.length=Kz:=⟨_,rfl⟩;have hmK:2≤Kz:=by rw[← hKe];exact Nat.le_trans (ao 2) (fN (Nat.zero_le _))
 rw[hKe] at hKz;have k1:nS v.length Kz:=o6 L.l1 (by omega);have k2:Dy v.length Kz:=Bg L.l1 (by omega);have k3:sT v.length Kz≤17300000000000:=Nat.le_trans (ug L.l1 Kz) (by omega);refine AZ.aw ?_;refine AZ.seq (AZ.cO (fun B1 F1 w1=>?_));refine qU 2 rfl ?_;refine ab.nil ⟨rfl,?_⟩;refine AZ.seq (AZ.region ?_);refine ah.cut 1 rfl (fun B1 F1 w1=>?_);refine qU 1 rfl ?_;refine ab.nil ⟨rfl,?_⟩
 refine ah.fR tok [] rfl rfl rfl rfl rfl List.nodup_nil rfl (iL (a:=a) (by omega) (fun i=>by
  by_cases hi:i<a.length
  · rw[hr i hi];omega
  · rw[fg (by omega)];exact Nat.zero_le _)) (fun _ _ _=>Nat.zero_le _) (fun res R1 hP=>?_)
 obtain ⟨Vr,Vs0,hV0,rfl,rfl⟩:=hP;refine ah.cut 1 rfl (fun B1 F1 w1=>?_);refine qU 1 rfl ?_;refine ab.nil ⟨rfl,?_⟩;refine ah.nil ?_;refine AZ.seq (AZ.cO (fun B1 F1 w1=>?_));refine ab.call tok rfl rfl rfl rfl (nO 1 (by decide) (by decide)) ?_;refine ab.call tok rfl rfl rfl rfl uy ?_;refine qU 1 rfl ?_;refine ab.nil ⟨rfl,?_⟩;refine AZ.to [1,2,5] [(1,.d (.v Vr)),(2,.bx [.sl 1 (v.map ai)]),(5,.d (ai [1]))] rfl ?_;refine AZ.seq (AZ.seq ?_);refine AZ.rl (fun B1 F1 w1 hS=>?_);refine qU 1 rfl ?_;refine ab.lens tok (hS.at (i:=0) rfl (by rw[ae];omega)) rfl rfl rfl rfl ?_;rw[ae,hV0];refine qU 1 rfl ?_;refine ab.nil ⟨rfl,?_⟩;refine AZ.block (AZ.aF [1,2,5,18,19] (fun z:Nat×List Value×a9×NQ=>((Vr,OA z.2.1)::b9 z.2.1 z.2.2.1,[(1,.d (.v Vr)),(2,.bx [.sl 1 (v.map ai)]),(5,.d (ai z.2.2.2)),(18,.d (dI a.length)),(19,.d (dI z.1))])) (fun z=>z.1≤a.length∧wA v a z.1=some (z.2.2.1,z.2.2.2)∧z.2.1.length=a.length) (fun z=>a.length-z.1) (0,Vs0,a,[1]) rfl ⟨Nat.zero_le _,rfl,hV0⟩ (fun z hz=>?_));obtain ⟨k,Vs,m,d⟩:=z;obtain ⟨hkn,hdt,hVs⟩:=hz
 dsimp only at hkn hdt hVs
 show AZ _ _ _ _ _ _ _ ((Vr,OA Vs)::b9 Vs m) [(1,.d (.v Vr)),(2,.bx [.sl 1 (v.map ai)]),(5,.d (ai d)),(18,.d (dI a.length)),(19,.d (dI k))];have D:=Al V.a hr hl k m d hkn hdt;have hml:=D.len;refine AZ.seq (AZ.cO (fun B1 F1 w1=>?_));refine qU 1 rfl ?_;refine ab.nil ⟨rfl,?_⟩;refine AZ.seq (AZ.cond rfl (fun h=>?_) (fun h=>?_));rotate_left
 · have hke:k=a.length:=by have:=aA h;omega
   refine AZ.exit ?_;refine AZ.seq (AZ.cO (fun B1 F1 w1=>?_));refine qU 2 rfl ?_;refine ab.nil ⟨rfl,?_⟩;refine AZ.ret ?_
   have hd:Dk v a=d:=by
    unfold Dk;rw[← hke,hdt]
   rw[hd];rfl
 have hk:k<a.length:=by have:=ar h;omega
 have hg1:gI 2 (k+1)≤Kz:=by rw[← hKe];exact fN hk
 have hge:gI 2 (k+1)=110*gI 2 k+129:=rfl;obtain ⟨zm,zd⟩:=L.dt hr hl hs k m d hkn (by omega) hdt;generalize gI 2 k=z at hge zm zd;have zp:=zm.pos;have zK:z≤Kz:=by omega
 have hel: ∀{b:a9} {i:Nat},bm a.length b→i<b.length→ ∀k,k<a.length→((b.getD i []).map ai)[k]?=some (ai (aW b i k)):=fun {b i} hb hi k hk=>getM ai (by rw[hb i hi];exact hk);refine AZ.skip (AZ.seq ?_);refine AZ.block (AZ.seq ?_);refine AZ.cO (fun B1 F1 w1=>?_);refine qU 2 rfl ?_;refine ab.nil ⟨rfl,?_⟩;refine AZ.seq (AZ.cO (fun B1 F1 w1=>?_));refine qU 2 rfl ?_;refine ab.nil ⟨rfl,?_⟩;refine AZ.cut [1,2,5,6,7,18,19] (fun _:Unit=>(((Vr,OA Vs)::b9 Vs m),[(1,.d (.v Vr)),(2,.bx [.sl 1 (v.map ai)]),(5,.d (ai d)),(6,.d (dI k)),(7,.d (dI (tA v m k))),(18,.d (dI a.length)),(19,.d (dI k))])) (fun _=>True) ?_ (fun _ _=>?_)
 · refine AZ.block (AZ.aF [1,2,5,6,7,18,19] (fun j:Nat=>(((Vr,OA Vs)::b9 Vs m),[(1,.d (.v Vr)),(2,.bx [.sl 1 (v.map ai)]),(5,.d (ai d)),(6,.d (dI k)),(7,.d (dI j)),(18,.d (dI a.length)),(19,.d (dI k))])) (fun j=>k≤j∧j≤m.length∧gf (yH v m k) (m.length-j) j=tA v m k) (fun j=>m.length-j) k rfl ⟨ao _,by omega,rfl⟩ (fun j hj=>?_));show AZ _ _ _ _ _ _ _ ((Vr,OA Vs)::b9 Vs m) [(1,.d (.v Vr)),(2,.bx [.sl 1 (v.map ai)]),(5,.d (ai d)),(6,.d (dI k)),(7,.d (dI j)),(18,.d (dI a.length)),(19,.d (dI k))];obtain ⟨j1,j2,j3⟩:=hj;refine AZ.seq (AZ.seq ?_);refine AZ.any aP (fP.kE 15 (by kernel_rfl) (fun B1 F1 w1 hS=>?_));have hS0:=hS.at (i:=0) rfl (by rw[ae];omega);refine qP 2 rfl ?_;refine af.lens tok hS0 rfl rfl rfl rfl rfl ?_;rw[ae];refine qP 1 rfl ?_;by_cases hjm:j<m.length;rotate_left
   · rw[nq hjm] at j3;rw[aT (show ¬(j:Int)<(Vs.length:Int) by omega)];refine qP 11 rfl ?_;refine af.nil ⟨rfl,?_⟩;refine ah.nil ?_;refine AZ.aB rfl ?_;exact AZ.exit ⟨(),by rw[← j3];rfl,trivial⟩
   rw[aV (show (j:Int)<(Vs.length:Int) by omega)];have hj6:(m.getD j []).length=a.length:=D.rect j hjm;have hS1:=hS.at (i:=j+1) (bO (Vs:=Vs) (by omega) hjm) (by rw[ae];omega);have cs:=mX V (D.lt j k) ((zm j k).mono zK) hmK k1;have hnz:yH v m k j=decide (jI v (aW m j k)≠0):=rfl;generalize jI v (aW m j k)=g at cs hnz;refine qP 4 rfl ?_;refine af.idxs tok hS0 rfl rfl rfl rfl rfl (aj j) (by rw[ae];omega) ?_;refine af.ba tok (.v (Vs.getD j undef)) hS0 rfl rfl rfl rfl rfl rfl rfl (bZ (by omega)) rfl ?_;refine qP 1 rfl ?_;refine af.idxs tok hS1 rfl rfl rfl rfl rfl (aj k) (by rw[ae];omega) ?_;refine af.ba tok (ai (aW m j k)) hS1 rfl rfl rfl rfl rfl rfl rfl (hel D.rect hjm k hk) rfl ?_;refine af.call tok rfl rfl rfl rfl rfl cs ?_;refine qP 1 rfl ?_;refine af.nil ⟨rfl,?_⟩;refine ah.nil ?_;refine AZ.cond rfl (fun h=>?_) (fun h=>?_)
   · have hg:g=0:=ar h;refine AZ.skip (AZ.block ?_);refine AZ.cO (fun B1 F1 w1=>?_);refine qU 2 rfl ?_;rw[aH (x:=(j:Int)+1) (by omega) (by omega)];refine qU 1 rfl ?_;refine ab.nil ⟨rfl,?_⟩;exact⟨j+1,rfl,⟨by omega,hjm,by rw[← lA hjm (by rw[hnz,hg];rfl)];exact j3⟩,by omega⟩
   · have hg:g≠0:=aA h;rw[np hjm (by rw[hnz,aV hg])] at j3;exact AZ.exit ⟨(),by rw[← j3];rfl,trivial⟩
 show AZ _ _ _ _ _ _ _ ((Vr,OA Vs)::b9 Vs m) [(1,.d (.v Vr)),(2,.bx [.sl 1 (v.map ai)]),(5,.d (ai d)),(6,.d (dI k)),(7,.d (dI (tA v m k))),(18,.d (dI a.length)),(19,.d (dI k))];have hta:=(lC (g:=yH v m k) (m:=m.length-k) (i:=k)).2.1;change tA v m k≤k+(m.length-k) at hta;refine AZ.seq (AZ.seq ?_);refine AZ.rl (fun B1 F1 w1 hS=>?_);refine qU 2 rfl ?_;refine ab.lens tok (hS.at (i:=0) rfl (by rw[ae];omega)) rfl rfl rfl rfl ?_;rw[ae];refine qU 1 rfl ?_;refine ab.nil ⟨rfl,?_⟩;refine AZ.cond rfl (fun h=>?_) (fun h=>?_)
 · have hat: ¬tA v m k<m.length:=by have:=beq_iff_eq.1 h;omega
   refine AZ.seq (AZ.cO (fun B1 F1 w1=>?_));refine qU 1 rfl ?_;refine ab.nil ⟨rfl,?_⟩;refine AZ.ret ?_
   have hd:Dk v a=[]:=by
    unfold Dk;rw[Ff (qD hdt hat) a.length hk]
   rw[hd];rfl
 have ht:tA v m k<m.length:=by have:=beq_eq_false_iff_ne.1 h;omega
 have hnext:=tH hdt ht;obtain ⟨hkt,hpz⟩:=FE (by omega) ht;obtain ⟨b1,b2,b3⟩:=CL (t:=tA v m k) D hk (by omega);have bs:=HK (k:=k) (by omega) ht zm;have hbK:bK m k (tA v m k)=if tA v m k=k then m else yU m k (tA v m k):=rfl
 generalize tA v m k=t at *;obtain ⟨Us,hUs⟩: ∃Us,(if t=k then Vs else yV Vs k t)=Us:=⟨_,rfl⟩;obtain ⟨d1,hd1⟩: ∃d1,(if t=k then d else qh d)=d1:=⟨_,rfl⟩;obtain ⟨b,hb⟩: ∃b,bK m k t=b:=⟨_,rfl⟩;rw[hb] at hnext hpz b1 b2 b3 bs hbK;rw[hd1] at hnext
 have hUl:Us.length=a.length:=by
  rw[← hUs];split
  · exact hVs
  · rw[xA];exact hVs
 have ld1:aC v.length d1∧au z d1:=by
  rw[← hd1];split
  · exact⟨D.d,zd⟩
  · exact x8 D.d zd
 refine AZ.skip ?_;refine AZ.cut [1,2,5,6,18,19] (fun _:Unit=>((Vr,OA Us)::b9 Us b,[(1,.d (.v Vr)),(2,.bx [.sl 1 (v.map ai)]),(5,.d (ai d1)),(6,.d (dI k)),(18,.d (dI a.length)),(19,.d (dI k))])) (fun _=>True) ?_ (fun _ _=>?_)
 · refine AZ.seq (AZ.cO (fun B1 F1 w1=>?_));refine qU 3 rfl ?_;refine ab.nil ⟨rfl,?_⟩;refine AZ.cond rfl (fun h=>?_) (fun h=>?_);rotate_left
   · have hte:t=k:=by have:=bne_eq_false_iff_eq.1 h;omega
     rw[if_pos hte] at hUs hd1 hbK;subst hUs hd1 hbK;exact AZ.skip ⟨(),rfl,trivial⟩
   have hte:t≠k:=by have:=bne_iff_ne.1 h;omega
   rw[if_neg hte] at hUs hd1 hbK;have cn:=El V D.d (zd.mono zK) (by omega);refine AZ.seq (AZ.any aP (fP.oG [(2,12),(3,12)] (by kernel_rfl) (fun _ _ _ h=>h) (fun _ _ h=>h) (fP.kE 12 (by kernel_rfl) (fun B1 F1 w1 hS=>?_))));have hS0:=hS.at (i:=0) rfl (by rw[ae];omega);refine qP 6 rfl ?_;refine af.idxs tok hS0 rfl rfl rfl rfl rfl (aj t) (by rw[ae];omega) ?_;refine af.ba tok (.v (Vs.getD t undef)) hS0 rfl rfl rfl rfl rfl rfl rfl (bZ (by omega)) rfl ?_;refine qP 2 rfl ?_;refine af.idxs tok hS0 rfl rfl rfl rfl rfl (aj k) (by rw[ae];omega) ?_;refine af.ba tok (.v (Vs.getD k undef)) hS0 rfl rfl rfl rfl rfl rfl rfl (bZ (by omega)) rfl ?_;refine af.nil ⟨rfl,?_⟩;refine ah.to [1,2,5,6,18,19,47,48,49,50,54,58] [(1,.d (.v Vr)),(2,.bx [.sl 1 (v.map ai)]),(5,.d (ai d)),(6,.d (dI k)),(18,.d (dI a.length)),(19,.d (dI k)),(47,.d (.v Vr)),(48,.d (dI k)),(49,.d (.v Vr)),(50,.d (dI t)),(54,.d (.v (Vs.getD t undef))),(58,.d (.v (Vs.getD k undef)))] rfl ?_;refine ah.vH 1 rfl (fun B1 F1 w1 hS=>?_);refine ab.idxs tok (hS.at (i:=0) rfl (by rw[ae];omega)) rfl rfl rfl rfl (aj k) (by rw[ae];omega) ?_;refine ab.nil ⟨rfl,?_⟩;refine ah.cT 47 0 rfl rfl rfl ?_;refine ah.el (k:=k) tok 47 59 rfl (List.Mem.head _) rfl rfl rfl (by rw[ae];omega) rfl ?_;refine ah.cut 1 rfl (fun B1 F1 w1=>?_);refine ab.kr tok (Vs.getD t undef) rfl rfl rfl (by omega) ?_;refine ab.nil ⟨rfl,?_⟩;refine ah.back 47 0 rfl rfl rfl (List.Mem.head _) rfl ?_;refine ah.jd (R':=((Vr,OA (Vs.set k (Vs.getD t undef)))::b9 Vs m)) rfl ?_;refine ah.to [1,2,5,6,18,19,49,50,58] [(1,.d (.v Vr)),(2,.bx [.sl 1 (v.map ai)]),(5,.d (ai d)),(6,.d (dI k)),(18,.d (dI a.length)),(19,.d (dI k)),(49,.d (.v Vr)),(50,.d (dI t)),(58,.d (.v (Vs.getD k undef)))] rfl ?_;refine ah.vH 1 rfl (fun B1 F1 w1 hS=>?_);refine ab.idxs tok (hS.at (i:=0) rfl (by rw[ae,List.length_set];omega)) rfl rfl rfl rfl (aj t) (by rw[ae,List.length_set];omega) ?_;refine ab.nil ⟨rfl,?_⟩;refine ah.cT 49 0 rfl rfl rfl ?_;refine ah.el (k:=t) tok 49 60 rfl (List.Mem.head _) rfl rfl rfl (by rw[ae,List.length_set];omega) rfl ?_;refine ah.cut 1 rfl (fun B1 F1 w1=>?_);refine ab.kr tok (Vs.getD k undef) rfl rfl rfl (by rw[List.length_set];omega) ?_;refine ab.nil ⟨rfl,?_⟩;refine ah.back 49 0 rfl rfl rfl (List.Mem.head _) rfl ?_
   refine ah.jd (R':=((Vr,OA (yV Vs k t))::b9 Vs m)) (by
    show (Vr,OA ((Vs.set k (Vs.getD t undef)).set t (Vs.getD k undef)))::b9 Vs m=_
    rw[B4]) ?_
   refine ah.nil ?_;refine AZ.to [1,2,5,6,18,19] [(1,.d (.v Vr)),(2,.bx [.sl 1 (v.map ai)]),(5,.d (ai d)),(6,.d (dI k)),(18,.d (dI a.length)),(19,.d (dI k))] rfl ?_;refine AZ.wR (t+1) (k+1) (bO (Vs:=Vs) (by omega) (by omega)) (bO (Vs:=Vs) (by omega) (by omega)) ?_;refine AZ.oH ((Vr,OA (yV Vs k t))::((b9 Vs m).set t (Vs.getD k undef,et (m.getD k []))).set k (Vs.getD t undef,et (m.getD t []))) (fun _ _ h=> .inl h) ?_;rw[vV (by omega) (by omega) (by omega)];refine AZ.cO (fun B1 F1 w1=>?_);refine qU 2 rfl ?_;refine ab.call tok rfl rfl rfl rfl cn ?_;refine qU 4 rfl ?_;refine ab.nil ⟨rfl,?_⟩;subst hUs hd1 hbK;exact⟨(),rfl,trivial⟩
 clear hUs hd1 hbK hVs;show AZ _ _ _ _ _ _ _ ((Vr,OA Us)::b9 Us b) [(1,.d (.v Vr)),(2,.bx [.sl 1 (v.map ai)]),(5,.d (ai d1)),(6,.d (dI k)),(18,.d (dI a.length)),(19,.d (dI k))];have hkb:k<b.length:=by omega
 have hbk:(b.getD k []).length=a.length:=b2 k hkb;have cm:=mY V ld1.1 (ld1.2.mono zK) (b3 k k) ((bs k k).mono zK) hmK k3;have cinv:=pX V (b3 k k) ((bs k k).mono zK) hmK k1 k2 hpz;have hmul:=fun {x:NQ} (hx:aC v.length x)=>uV V hx (p:=aW b k k) (b3 k k)
 have lf:aC v.length (aq (gZ v.length v (aW b k k)))∧au (10*z+11) (aq (gZ v.length v (aW b k k))):=by
  obtain ⟨i1,i2⟩:=L.inv (b3 k k) (bs k k);exact aX i1 i2
 generalize aq (gZ v.length v (aW b k k))=f0 at cinv hmul lf;obtain ⟨p,hp⟩: ∃p,aW b k k=p:=⟨_,rfl⟩;obtain ⟨d2,hd2⟩: ∃d2,eg v d1 p=d2:=⟨_,rfl⟩;rw[hp] at hnext cm cinv hmul;rw[hd2] at hnext cm;refine AZ.seq (AZ.any aP (fP.oG [(12,13)] (by kernel_rfl) (fun _ _ _ h=>h) (fun _ _ h=>h) (fP.kE 13 (by kernel_rfl) (fun B1 F1 w1 hS=>?_))));have hS0:=hS.at (i:=0) rfl (by rw[ae];omega);have hS1:=hS.at (i:=k+1) (bO (Vs:=Us) (by omega) hkb) (by rw[ae];omega);refine qP 4 rfl ?_;refine af.idxs tok hS0 rfl rfl rfl rfl rfl (aj k) (by rw[ae];omega) ?_;refine af.ba tok (.v (Us.getD k undef)) hS0 rfl rfl rfl rfl rfl rfl rfl (bZ (by omega)) rfl ?_;refine qP 1 rfl ?_;refine af.idxs tok hS1 rfl rfl rfl rfl rfl (aj k) (by rw[ae];omega) ?_;refine af.ba tok (ai (aW b k k)) hS1 rfl rfl rfl rfl rfl rfl rfl (hel b2 hkb k hk) rfl ?_;rw[hp];refine af.call tok rfl rfl rfl rfl rfl cm ?_;refine qP 3 rfl ?_;refine af.nil ⟨rfl,?_⟩;refine ah.cut 1 rfl (fun B1 F1 w1=>?_);refine qU 1 rfl ?_;refine ab.nil ⟨rfl,?_⟩;refine ah.nil ?_;refine AZ.to [1,2,5,6,18,19] [(1,.d (.v Vr)),(2,.bx [.sl 1 (v.map ai)]),(5,.d (ai d2)),(6,.d (dI k)),(18,.d (dI a.length)),(19,.d (dI k))] rfl ?_;refine AZ.seq (AZ.Fg aP 13 (by kernel_rfl) (fun B1 F1 w1 hS=>?_));have hS0:=hS.at (i:=0) rfl (by rw[ae];omega);have hS1:=hS.at (i:=k+1) (bO (Vs:=Us) (by omega) hkb) (by rw[ae];omega);refine qP 3 rfl ?_;refine af.idxs tok hS0 rfl rfl rfl rfl rfl (aj k) (by rw[ae];omega) ?_;refine af.ba tok (.v (Us.getD k undef)) hS0 rfl rfl rfl rfl rfl rfl rfl (bZ (by omega)) rfl ?_;refine qP 1 rfl ?_;refine af.idxs tok hS1 rfl rfl rfl rfl rfl (aj k) (by rw[ae];omega) ?_;refine af.ba tok (ai (aW b k k)) hS1 rfl rfl rfl rfl rfl rfl rfl (hel b2 hkb k hk) rfl ?_;rw[hp];refine af.call tok rfl rfl rfl rfl rfl cinv ?_;refine qP 4 rfl ?_;refine af.nil ?_;refine qU 1 rfl ?_;refine ab.nil ⟨rfl,?_⟩;refine AZ.to [1,2,5,6,8,18,19] [(1,.d (.v Vr)),(2,.bx [.sl 1 (v.map ai)]),(5,.d (ai d2)),(6,.d (dI k)),(8,.d (ai f0)),(18,.d (dI a.length)),(19,.d (dI k))] rfl ?_;refine AZ.seq (AZ.cO (fun B1 F1 w1=>?_));refine qU 2 rfl ?_;rw[aH (x:=(k:Int)+1) (by omega) (by omega)];refine qU 1 rfl ?_;refine ab.nil ⟨rfl,?_⟩;refine AZ.block ?_;refine AZ.aF [1,2,5,6,8,10,18,19] (fun y:Nat×List Value=>((Vr,OA y.2)::b9 y.2 (ew v b k y.1),[(1,.d (.v Vr)),(2,.bx [.sl 1 (v.map ai)]),(5,.d (ai d2)),(6,.d (dI k)),(8,.d (ai f0)),(10,.d (dI y.1)),(18,.d (dI a.length)),(19,.d (dI k))])) (fun y=>k<y.1∧y.1≤a.length∧y.2.length=a.length) (fun y=>a.length-y.1) (k+1,Us) (by rw[vf v b k (k+1) (ao _)];rfl) ⟨Nat.lt_succ_self k,hk,hUl⟩ (fun y hy=>?_);obtain ⟨i,Ws⟩:=y;obtain ⟨hki,hin,hWs⟩:=hy
 dsimp only at hki hin hWs
 show AZ _ _ _ _ _ _ _ ((Vr,OA Ws)::b9 Ws (ew v b k i)) [(1,.d (.v Vr)),(2,.bx [.sl 1 (v.map ai)]),(5,.d (ai d2)),(6,.d (dI k)),(8,.d (ai f0)),(10,.d (dI i)),(18,.d (dI a.length)),(19,.d (dI k))];refine AZ.seq (AZ.seq ?_);refine AZ.rl (fun B1 F1 w1 hS=>?_);refine qU 2 rfl ?_;refine ab.lens tok (hS.at (i:=0) rfl (by rw[ae];omega)) rfl rfl rfl rfl ?_;rw[ae,hWs];refine qU 1 rfl ?_;refine ab.nil ⟨rfl,?_⟩;refine AZ.cond rfl (fun h=>?_) (fun h=>?_);rotate_left
 · have hie:i=m.length:=by have:=aA h;omega
   subst hie;refine AZ.exit ?_;refine AZ.cO (fun B1 F1 w1=>?_);refine qU 1 rfl ?_;rw[aH (x:=(k:Int)+1) (by omega) (by omega)];refine qU 1 rfl ?_;refine ab.nil ⟨rfl,?_⟩;exact⟨(k+1,Ws,ew v b k m.length,d2),rfl,⟨hk,hnext,hWs⟩,by show a.length-(k+1)<a.length-k;omega⟩
 have hia:i<a.length:=by have:=ar h;omega
 have low:=EJ V.a (k:=k) b1 b2 b3 i;have zl:=L.low b2 b3 bs hpz (by omega) i;have hll:=lp v b k i;have hri:(ew v b k i).getD i []=b.getD i []:=by rw[jX,if_neg (by omega)]
 have hrk:(ew v b k i).getD k []=b.getD k []:=by rw[jX,if_neg (by omega)]
 have hnx:ew v b k (i+1)=(ew v b k i).set i (eL v ((ew v b k i).getD i []) ((ew v b k i).getD k []) (mG v (aW (ew v b k i) i k) p)):=by
  show (if k<i then _ else _)=_;rw[if_pos hki];have:aW (ew v b k i) k k=p:=by unfold aW;rw[hrk];exact hp
  rw[this]
 have zi:au z (aW (ew v b k i) i k):=by unfold aW;rw[hri];exact bs i k
 generalize ew v b k i=mm at *;have hgi:=bO (Vs:=Ws) (a:=mm) (j:=i) (by omega) (by omega);have hgk:=bO (Vs:=Ws) (a:=mm) (j:=k) (by omega) (by omega);have hmi:(mm.getD i []).length=a.length:=low.1 i (by omega);have hmk:(mm.getD k []).length=a.length:=low.1 k (by omega);have cf:=mY V (low.2 i k) (zi.mono zK) lf.1 (lf.2.mono (by omega)) hmK k3;rw[hmul (low.2 i k)] at cf;obtain ⟨_,lq,zq⟩:=L.div (low.2 i k) zi (by rw[← hp];exact b3 k k:aC v.length p) (by rw[← hp];exact bs k k) (by rw[← hp];exact hpz) (by omega);have ct:=pU (Ws.getD i undef) (Ws.getD k undef) V (xs:=mm.getD i []) (ys:=mm.getD k []) (c:=mG v (aW mm i k) p) (low.2 i) (low.2 k) lq (fun q=>(zl i q).mono (by omega)) (fun q=>(zl k q).mono (by omega)) (zq.mono (by omega)) hmK k3 (by omega) (by omega) (by omega);refine AZ.skip (AZ.seq ?_);refine AZ.block (AZ.seq ?_);refine AZ.Fg aP 14 (by kernel_rfl) (fun B1 F1 w1 hS=>?_);have hS0:=hS.at (i:=0) rfl (by rw[ae];omega);have hS1:=hS.at (i:=i+1) hgi (by rw[ae];omega);refine qP 3 rfl ?_;refine af.idxs tok hS0 rfl rfl rfl rfl rfl (aj i) (by rw[ae];omega) ?_;refine af.ba tok (.v (Ws.getD i undef)) hS0 rfl rfl rfl rfl rfl rfl rfl (bZ (by omega)) rfl ?_;refine qP 1 rfl ?_;refine af.idxs tok hS1 rfl rfl rfl rfl rfl (aj k) (by rw[ae];omega) ?_;refine af.ba tok (ai (aW mm i k)) hS1 rfl rfl rfl rfl rfl rfl rfl (hel low.1 (by omega) k hk) rfl ?_;refine qP 1 rfl ?_;refine af.call tok rfl rfl rfl rfl rfl cf ?_;refine qP 4 rfl ?_;refine af.nil ?_;refine qU 1 rfl ?_;refine ab.nil ⟨rfl,?_⟩;obtain ⟨f,hf⟩: ∃f,mG v (aW mm i k) p=f:=⟨_,rfl⟩;rw[hf] at ct hnx ⊢;refine AZ.to [1,2,5,6,8,10,11,18,19] [(1,.d (.v Vr)),(2,.bx [.sl 1 (v.map ai)]),(5,.d (ai d2)),(6,.d (dI k)),(8,.d (ai f0)),(10,.d (dI i)),(11,.d (ai f)),(18,.d (dI a.length)),(19,.d (dI k))] rfl ?_;refine AZ.any aP (fP.oG [(0,12),(1,12)] (by kernel_rfl) (fun _ _ _ h=>h) (fun _ _ h=>h) (fP.kE 12 (by kernel_rfl) (fun B1 F1 w1 hS=>?_)));have hS0:=hS.at (i:=0) rfl (by rw[ae];omega);refine qP 5 rfl ?_;refine af.idxs tok hS0 rfl rfl rfl rfl rfl (aj i) (by rw[ae];omega) ?_;refine af.ba tok (.v (Ws.getD i undef)) hS0 rfl rfl rfl rfl rfl rfl rfl (bZ (by omega)) rfl ?_;refine qP 2 rfl ?_;refine af.idxs tok hS0 rfl rfl rfl rfl rfl (aj k) (by rw[ae];omega) ?_;refine af.ba tok (.v (Ws.getD k undef)) hS0 rfl rfl rfl rfl rfl rfl rfl (bZ (by omega)) rfl ?_;refine qP 1 rfl ?_;refine af.nil ⟨rfl,?_⟩;refine ah.to [113,114,115,119,123,124,1,2,5,6,8,10,18,19] [(113,.d (.v Vr)),(114,.d (dI i)),(115,.d (bA v)),(119,.d (.v (Ws.getD i undef))),(123,.d (.v (Ws.getD k undef))),(124,.d (ai f)),(1,.d (.v Vr)),(2,.bx [.sl 1 (v.map ai)]),(5,.d (ai d2)),(6,.d (dI k)),(8,.d (ai f0)),(10,.d (dI i)),(18,.d (dI a.length)),(19,.d (dI k))] rfl ?_;refine ah.fR tok [i+1,k+1] rfl rfl rfl rfl (H7 hgi hgk) (by simp;omega) rfl ct (fun res R1 hP=>by obtain ⟨_,_,rfl⟩:=hP;exact Nat.le_succ 2) (fun res R1 hP=>?_);obtain ⟨V1,rfl,rfl⟩:=hP
 refine ah.jd (R':=((Vr,OA Ws)::b9 Ws mm++[(V1,et (eL v (mm.getD i []) (mm.getD k []) f))])) (by
  show ((Vr,OA Ws)::((b9 Ws mm).set i _).set k _)++[_]=_
  rw[kX hgi,kX hgk]) ?_
 refine ah.vH 1 rfl (fun B1 F1 w1 hS=>?_);refine ab.idxs tok (hS.at (i:=0) rfl (by rw[ae];omega)) rfl rfl rfl rfl (aj i) (by rw[ae];omega) ?_;refine ab.nil ⟨rfl,?_⟩;refine ah.cT 113 0 rfl rfl rfl ?_;refine ah.el (k:=i) tok 113 126 rfl (List.Mem.head _) rfl rfl rfl (by rw[ae];omega) rfl ?_;refine ah.cut 1 rfl (fun B1 F1 w1=>?_);refine ab.kr tok V1 rfl rfl rfl (by omega) ?_;refine ab.nil ⟨rfl,?_⟩;refine ah.back 113 0 rfl rfl rfl (List.Mem.head _) rfl ?_;refine ah.jd (R':=((Vr,OA (Ws.set i V1))::b9 Ws mm++[(V1,et (eL v (mm.getD i []) (mm.getD k []) f))])) rfl ?_;refine ah.nil ?_;refine AZ.to [1,2,5,6,8,10,18,19] [(1,.d (.v Vr)),(2,.bx [.sl 1 (v.map ai)]),(5,.d (ai d2)),(6,.d (dI k)),(8,.d (ai f0)),(10,.d (dI i)),(18,.d (dI a.length)),(19,.d (dI k))] rfl ?_;refine AZ.zk (i:=i) hgi ?_;rw[nE (by omega) (by omega),← hnx];refine AZ.cO (fun B1 F1 w1=>?_);refine qU 2 rfl ?_;rw[aH (x:=(i:Int)+1) (by omega) (by omega)];refine qU 1 rfl ?_;refine ab.nil ⟨rfl,?_⟩;exact⟨(i+1,Ws.set i V1),rfl,⟨by show k<i+1;omega,hia,by show (Ws.set i V1).length=_;rw[List.length_set];exact hWs⟩,by show a.length-(i+1)<a.length-i;omega⟩
end Lift
namespace Lift
open Go Go.Proofs
theorem Ea{l:List NQ}{i:Nat}(h:i<l.length):l.set i (l.getD i [])=l:=by
 rw[aG,bg h];exact List.set_getElem_self h
set_option maxHeartbeats 800000 in
theorem uv{m Kz:Nat}{v:List NQ}(V:kF m v){a b:a9}(ha:a.length≤1000000)(hb:b.length≤1000000)(hcb:ak b≤1000000)(hra:bm b.length a)(hrb:bm (ak b) b)(hla:kd v.length a)(hlb:kd v.length b)(sa:kG Kz a)(sb:kG Kz b)(sd: ∀i k j,j<b.length→au Kz (fa v (a.getD i []) (eY b k) j)∧au Kz (eg v (aW a i j) (aW b j k)))(hm:m≤Kz)(k3:sT v.length Kz≤17300000000000)(hK:Kz≤17300000000000):
  Pure Tryz.prog 74 [bA v,bh a,bh b] (bh (eP v a b)):=by
 refine qJ 71 Tryz.func74 rfl rfl rfl rfl (by kernel_rfl) (fun B F0 w0=>?_);have hpl:=iA v a b
 have hpt: ∀i,i<a.length→(eP v a b).take (i+1)=(eP v a b).take i++[(List.range (ak b)).map fun k=>fa v (a.getD i []) (eY b k) (a.getD i []).length]:=fun i hi=>by
  rw[mM (d:=[]) (by omega),nP v a b hi]
 have hpa:(eP v a b).take a.length=eP v a b:=List.take_of_length_le (by omega);generalize hP:eP v a b=pm at *;refine qX 2 rfl ?_;refine qK 1 rfl ?_;refine qI (qX 2 rfl ?_);rw[ae];refine qU 1 rfl ?_;refine ab.nil ?_;refine AW.block ?_;refine AW.aF [2,3,7,15,16,17] (fun i:Nat=>[(2,.d (bh b)),(3,.bx [.sl 1 (v.map ai)]),(7,.ow 22 ((pm.take i).map a8)),(15,.d (bh a)),(16,.d (dI a.length)),(17,.d (dI i))]) (fun i=>i≤a.length) (fun i=>a.length-i) 0 rfl (Nat.zero_le _) (fun i hi=>?_)
 · show AW _ _ _ _ _ _ _ [(2,.d (bh b)),(3,.bx [.sl 1 (v.map ai)]),(7,.ow 22 ((pm.take i).map a8)),(15,.d (bh a)),(16,.d (dI a.length)),(17,.d (dI i))];refine qX 1 rfl ?_;refine qI ?_;refine AW.cond rfl (fun h=>?_) (fun h=>?_)
   · have hia:i<a.length:=by have:=ar h;omega
     have g1:=getM a8 (l:=a) (i:=i) hia;change _=some (a8 (a.getD i [])) at g1;have hpt:=hpt i hia;have hrl:=hra i hia;have lr:=hla i;have sr:=sa i;have sd:=sd i;have hd0: ∀k,fa v (a.getD i []) (eY b k) 0=[]:=fun k=>rfl
     have hds: ∀k j,fa v (a.getD i []) (eY b k) (j+1)=qO (fa v (a.getD i []) (eY b k) j) (eg v ((a.getD i []).getD j []) (aW b j k)):=fun k j=>by
      show qO _ (eg v _ ((eY b k).getD j []))=_;rw[ic]
     have hdl: ∀k j,aC v.length (fa v (a.getD i []) (eY b k) j):=fun k j=>qE V.a lr (fun j=>by rw[ic];exact hlb j k) j;unfold aW at sd lr sr;generalize a.getD i []=row at *;refine AW.skip (AW.seq (AW.block (AW.seq (AW.region ?_))));refine ab.idx tok (a8 row) rfl rfl rfl rfl (aj i) g1 ?_;refine qU 2 rfl ?_;refine qK 1 rfl ?_;refine ab.call tok rfl rfl rfl rfl (fr b) ?_;refine ab.Il tok (ak b) rfl rfl rfl rfl rfl rfl rfl rfl (by omega) ?_;refine qU 1 rfl ?_;refine qI (qX 2 rfl ?_);rw[ae,List.length_replicate];refine qU 1 rfl ?_;refine ab.nil ?_;refine AW.block ?_
     refine AW.aF [2,3,7,9,10,15,16,17,25,26] (fun y:Nat×List NQ=>[(2,.d (bh b)),(3,.bx [.sl 1 (v.map ai)]),(7,.ow 22 ((pm.take i).map a8)),(9,.d (a8 row)),(10,.ow 53 ((y.2).map ai)),(15,.d (bh a)),(16,.d (dI a.length)),(17,.d (dI i)),(25,.d (dI (ak b))),(26,.d (dI y.1))]) (fun y=>y.1≤ak b∧y.2.length=ak b∧ ∀x,y.2.getD x []=if x<y.1 then fa v row (eY b x) row.length else []) (fun y=>ak b-y.1) (0,List.replicate (ak b) []) rfl ⟨Nat.zero_le _,List.length_replicate,fun x=>by
      rw[if_neg (Nat.not_lt_zero x),aG,List.getElem?_replicate]
      split<;>rfl⟩ (fun y hy=>?_)
     · obtain ⟨k,l⟩:=y;obtain ⟨hkn,hll,hall⟩:=hy
       dsimp only at hkn hll hall
       show AW _ _ _ _ _ _ _ [(2,.d (bh b)),(3,.bx [.sl 1 (v.map ai)]),(7,.ow 22 ((pm.take i).map a8)),(9,.d (a8 row)),(10,.ow 53 ((l).map ai)),(15,.d (bh a)),(16,.d (dI a.length)),(17,.d (dI i)),(25,.d (dI (ak b))),(26,.d (dI k))];refine qX 1 rfl ?_;refine qI ?_;refine AW.cond rfl (fun h=>?_) (fun h=>?_)
       · have hkc:k<ak b:=by have:=ar h;omega
         have hl0:l.set k (fa v row (eY b k) 0)=l:=by
          have h0:=hall k;rw[if_neg (Nat.lt_irrefl k)] at h0;rw[hd0,← h0];exact Ea (by omega)
         refine AW.skip (AW.seq (AW.block ?_));refine qX 2 rfl ?_;refine qK 2 rfl ?_;rw[ae];refine qU 1 rfl ?_;refine ab.nil ?_;refine AW.block ?_;refine AW.aF [2,3,7,9,10,15,16,17,25,26,11,29,30,31] (fun j:Nat=>[(2,.d (bh b)),(3,.bx [.sl 1 (v.map ai)]),(7,.ow 22 ((pm.take i).map a8)),(9,.d (a8 row)),(10,.ow 53 ((l.set k (fa v row (eY b k) j)).map ai)),(15,.d (bh a)),(16,.d (dI a.length)),(17,.d (dI i)),(25,.d (dI (ak b))),(26,.d (dI k)),(11,.d (dI k)),(29,.d (bh b)),(30,.d (dI b.length)),(31,.d (dI j))]) (fun j=>j≤b.length) (fun j=>b.length-j) 0 (by rw[hl0];rfl) (Nat.zero_le _) (fun j hj=>?_)
         · show AW _ _ _ _ _ _ _ [(2,.d (bh b)),(3,.bx [.sl 1 (v.map ai)]),(7,.ow 22 ((pm.take i).map a8)),(9,.d (a8 row)),(10,.ow 53 ((l.set k (fa v row (eY b k) j)).map ai)),(15,.d (bh a)),(16,.d (dI a.length)),(17,.d (dI i)),(25,.d (dI (ak b))),(26,.d (dI k)),(11,.d (dI k)),(29,.d (bh b)),(30,.d (dI b.length)),(31,.d (dI j))];refine qX 1 rfl ?_;refine qI ?_;refine AW.cond rfl (fun h=>?_) (fun h=>?_)
           · have hjb:j<b.length:=by have:=ar h;omega
             have g2:=getM ai (l:=row) (i:=j) (by omega);have g3:=getM a8 (l:=b) (i:=j) hjb;have g4:=getM ai (l:=b.getD j []) (i:=k) (by rw[hrb j hjb];exact hkc);have cm:=mY V (lr j) (sr j) (hlb j k) (sb j k) hm k3;have ca:=En V (hdl k j) (sd k j hjb).1 (jy V.a (lr j) (hlb j k)) (sd k j hjb).2 hK;have hds:=hds k j;unfold aW at cm ca hds;change _=some (ai (row.getD j [])) at g2;change _=some (a8 (b.getD j [])) at g3;change _=some (ai ((b.getD j []).getD k [])) at g4
             have g5:((l.set k (fa v row (eY b k) j)).map ai)[k]?=some (ai (fa v row (eY b k) j)):=by
              rw[List.getElem?_map,List.getElem?_set_self (by omega)];rfl
             generalize row.getD j []=x1 at g2 cm ca hds;generalize b.getD j []=bj at g3 g4 cm ca hds;generalize bj.getD k []=x2 at g4 cm ca hds;generalize eg v x1 x2=x3 at cm ca hds;generalize fa v row (eY b k) j=d at *;refine AW.skip (AW.seq (AW.block ?_));refine qX 2 rfl ?_;refine qI (AW.draw aP 17 (by kernel_rfl) ?_);refine qP 3 rfl ?_;refine af.idx tok (ai x1) rfl rfl rfl rfl rfl (aj j) g2 ?_;refine qP 3 rfl ?_;refine af.idx tok (a8 bj) rfl rfl rfl rfl rfl (aj j) g3 ?_;refine qP 2 rfl ?_;refine af.idx tok (ai x2) rfl rfl rfl rfl rfl (aj k) g4 ?_;refine qP 1 rfl ?_;refine af.call tok rfl rfl rfl rfl rfl cm ?_;refine qP 4 rfl ?_;refine af.nil ?_;refine qU 1 rfl ?_;refine ab.nil ?_;refine AW.any aP (kQ.oG [(11,12)] (by kernel_rfl) (fun _ _ h=>h) (fun _ h=>h) (kQ.draw 12 (by kernel_rfl) ?_));refine qP 5 rfl ?_;refine af.ga tok rfl rfl rfl rfl rfl rfl (aj k) (by rw[ae,List.length_set];omega) ?_;refine af.cZ tok (ai d) rfl rfl rfl rfl rfl g5 rfl ?_;refine qP 1 rfl ?_;refine af.call tok rfl rfl rfl rfl rfl ca ?_;refine qP 3 rfl ?_;refine af.nil ?_;refine ab.ga tok rfl rfl rfl rfl (aj k) (by rw[ae,List.length_set];omega) ?_;refine ab.uc tok (qO d x3) rfl rfl rfl (by rw[List.length_set];omega) ?_;refine ab.nil ?_;refine qT 1 rfl ?_;rw[aH (x:=(j:Int)+1) (by omega) (by omega)];refine qU 1 rfl ?_;refine ab.nil ?_;exact⟨j+1,by rw[hds,show l.set k (qO d x3)=(l.set k d).set k (qO d x3) from (List.set_set ..).symm];rfl,hjb,by omega⟩
           have hje:j=row.length:=by have:=aA h;omega
           rw[hje];refine AW.exit ?_;refine qT 1 rfl ?_;rw[aH (x:=(k:Int)+1) (by omega) (by omega)];refine qU 1 rfl ?_;refine ab.nil ?_
           exact⟨(k+1,l.set k (fa v row (eY b k) row.length)),rfl,⟨hkc,by rw[List.length_set];exact hll,fun x=>by
            rw[aG,List.getElem?_set];by_cases e:k=x
            · rw[if_pos e,if_pos (by omega),if_pos (by omega),e];rfl
            · rw[if_neg e,← aG,hall x];by_cases g:x<k
              · rw[if_pos g,if_pos (by omega)]
              · rw[if_neg g,if_neg (by omega)]⟩,by show ak b-(k+1)<ak b-k;omega⟩
       have hke:k=ak b:=by have:=aA h;omega
       have hlf:l=(List.range (ak b)).map fun k=>fa v row (eY b k) row.length:=List.ext_getElem (by rw[ae,List.length_range];exact hll) (fun x h1 h2=>by
        have h:=hall x;rw[aG,bg h1,if_pos (by omega)] at h;rw[List.getElem_map,List.getElem_range]
        exact h)
       rw[← hlf] at hpt;refine AW.exit (AW.region ?_);refine ab.fQ tok 10 rfl rfl ?_;refine qU 2 rfl ?_;refine ab.e7 tok rfl rfl rfl rfl rfl ?_;refine ab.gg tok rfl rfl rfl rfl rfl rfl (by rw[ae,aQ];show (_+1)*24≤_;omega) (by rw[ae,aQ];show _+1≤_;omega) ?_;refine qU 1 rfl ?_;refine ab.nil ?_;refine qT 1 rfl ?_;rw[aH (x:=(i:Int)+1) (by omega) (by omega)];refine qU 1 rfl ?_;refine ab.nil ?_;exact⟨i+1,by rw[hpt,List.map_append];rfl,hia,by omega⟩
   have hia:i=a.length:=by have:=aA h;omega
   subst hia;rw[hpa];refine AW.exit (AW.seq (AW.region ?_));refine ab.fQ tok 7 rfl rfl ?_;refine qU 2 rfl ?_;exact qN rfl
end Lift
namespace Lift
open Go Go.Proofs
theorem zv(v:List NQ):Pure Tryz.prog 73 [bA v,bh []] (ai [1]):=by
 refine qJ 129 Tryz.func73 rfl rfl rfl rfl (by kernel_rfl) (fun B F0 w0=>?_);refine AZ.aw ?_;refine AZ.seq (AZ.cO (fun B1 F1 w1=>?_));refine qU 2 rfl ?_;refine ab.nil ⟨rfl,?_⟩;refine AZ.seq (AZ.region ?_);refine ah.cut 1 rfl (fun B1 F1 w1=>?_);refine qU 1 rfl ?_;refine ab.nil ⟨rfl,?_⟩;refine ah.fR tok [] rfl rfl rfl rfl rfl List.nodup_nil rfl (iL (a:=[]) (Nat.zero_le _) (fun i=>Nat.zero_le _)) (fun _ _ _=>Nat.zero_le _) (fun res R1 hP=>?_);obtain ⟨V0,Vs0,hV0,rfl,rfl⟩:=hP;obtain rfl:Vs0=[]:=List.length_eq_zero_iff.1 hV0;refine ah.cut 1 rfl (fun B1 F1 w1=>?_);refine qU 1 rfl ?_;refine ab.nil ⟨rfl,?_⟩;refine ah.nil ?_;refine AZ.to [1,2] [(1,.d (.v V0)),(2,.bx [.sl 1 (v.map ai)])] rfl ?_;refine AZ.cT 1 0 rfl rfl rfl ?_;refine AZ.seq (AZ.cO (fun B1 F1 w1=>?_));refine ab.fQ tok 1 rfl rfl ?_;refine ab.call tok rfl rfl rfl rfl (nO 1 (by decide) (by decide)) ?_;refine ab.call tok rfl rfl rfl rfl uy ?_;refine qU 1 rfl ?_;refine ab.nil ⟨rfl,?_⟩;refine AZ.to [1,2,5] [(1,.d (bh [])),(2,.bx [.sl 1 (v.map ai)]),(5,.d (ai [1]))] rfl ?_;refine AZ.seq (AZ.seq ?_);refine AZ.cO (fun B1 F1 w1=>?_);refine qU 3 rfl ?_;refine ab.nil ⟨rfl,?_⟩;refine AZ.to [5,18,19] [(5,.d (ai [1])),(18,.d (dI (0:Nat))),(19,.d (dI (0:Nat)))] rfl ?_;refine AZ.oH [] (fun i r h=>by simp at h) ?_;refine AZ.block (AZ.aF [5,18,19] (fun _:Unit=>([],[(5,.d (ai [1])),(18,.d (dI (0:Nat))),(19,.d (dI (0:Nat)))])) (fun _=>True) (fun _=>0) () rfl trivial (fun _ _=>?_));show AZ _ _ _ _ _ _ _ [] [(5,.d (ai [1])),(18,.d (dI (0:Nat))),(19,.d (dI (0:Nat)))];refine AZ.seq (AZ.cO (fun B1 F1 w1=>?_));refine qU 1 rfl ?_;refine ab.nil ⟨rfl,?_⟩;refine AZ.seq (AZ.aB rfl ?_);refine AZ.exit ?_;refine AZ.seq (AZ.cO (fun B1 F1 w1=>?_));refine qU 2 rfl ?_;refine ab.nil ⟨rfl,?_⟩;exact AZ.ret rfl
theorem A9{v:List NQ}{a:a9}(L:Lo v)(h5:a.length≤5)(hr:bm a.length a)(hl:kd v.length a)(hs:kG 2 a):Pure Tryz.prog 73 [bA v,bh a] (ai (Dk v a)):=by
 by_cases h0:a.length=0
 · obtain rfl:=List.length_eq_zero_iff.1 h0;exact zv v
 · exact zu L (by omega) h5 hr hl hs
theorem zw{rt:List (List RD)}{a b:List (List (List RD))}{e:Nat}(he:e≠0)(cc:Pure Tryz.prog 21 [TrD rt,MxR a] (dI e)):Pure Tryz.prog 35 [TrD rt,MxR a,MxR b] (.tu [bh [],dI e]):=by
 refine qJ 31 Tryz.func35 rfl rfl rfl rfl (by kernel_rfl) (fun B F0 w0=>?_);refine qX 3 rfl ?_;refine qI (qX 2 rfl ?_);refine ab.call tok rfl rfl rfl rfl cc ?_;refine qU 1 rfl ?_;refine qK 2 rfl ?_;rw[bne_iff_ne.2 (show (e:Int)≠0 by omega)];refine ab.nil ?_;refine AW.aL rfl ?_
 · skip
   refine qX 3 rfl ?_;exact qN rfl
theorem uw{v:List NQ}{a b P:a9}(cc:Pure Tryz.prog 21 [bA v,bh a] (dI (0:Nat)))(cw:Pure Tryz.prog 57 [bA v,bh b] (dI (0:Nat)))(cp:ak a=b.length→Pure Tryz.prog 74 [bA v,bh a,bh b] (bh P)):Pure Tryz.prog 35 [bA v,bh a,bh b] (.tu [bh (if ak a=b.length then P else []),dI (if ak a=b.length then 0 else 10:Nat)]):=by
 refine qJ 31 Tryz.func35 rfl rfl rfl rfl (by kernel_rfl) (fun B F0 w0=>?_);refine qX 3 rfl ?_;refine qI (qX 2 rfl ?_);refine ab.call tok rfl rfl rfl rfl cc ?_;refine qU 1 rfl ?_;refine qK 2 rfl ?_;refine ab.nil ?_;refine AW.aB rfl ?_
 · skip
   refine AW.skip (AW.seq ?_);refine qX 2 rfl ?_;refine ab.call tok rfl rfl rfl rfl cw ?_;refine qU 1 rfl ?_;refine qK 2 rfl ?_;refine ab.nil ?_;refine AW.aB rfl ?_
   · skip
     refine AW.skip (AW.seq ?_);refine qX 1 rfl ?_;refine ab.call tok rfl rfl rfl rfl (fr a) ?_;refine qU 2 rfl ?_;rw[ae];refine qU 1 rfl ?_;refine ab.nil ?_;refine AW.cond rfl (fun h=>?_) (fun h=>?_)
     · have hne: ¬ak a=b.length:=by have:=bne_iff_ne.1 h;omega
       rw[if_neg hne,if_neg hne];refine qX 2 rfl ?_;exact qN rfl
     · have he:ak a=b.length:=by have:=bne_eq_false_iff_eq.1 h;omega
       rw[if_pos he,if_pos he];refine AW.skip (qX 3 rfl ?_);refine ab.call tok rfl rfl rfl rfl (cp he) ?_;refine qU 2 rfl ?_;exact qN rfl
theorem zx{rt:List (List RD)}{a:List (List (List RD))}{e:Nat}(he:e≠0)(cc:Pure Tryz.prog 21 [TrD rt,MxR a] (dI e)):Pure Tryz.prog 34 [TrD rt,MxR a] (.tu [ai [],dI e]):=by
 refine qJ 21 Tryz.func34 rfl rfl rfl rfl (by kernel_rfl) (fun B F0 w0=>?_);refine qX 3 rfl ?_;refine qI (qX 2 rfl ?_);refine ab.call tok rfl rfl rfl rfl cc ?_;refine qU 1 rfl ?_;refine qK 2 rfl ?_;rw[bne_iff_ne.2 (show (e:Int)≠0 by omega)];refine ab.nil ?_;refine AW.aL rfl ?_
 · skip
   refine qX 3 rfl ?_;exact qN rfl
theorem ux{v:List NQ}{a:a9}{d:NQ}(cc:Pure Tryz.prog 21 [bA v,bh a] (dI (0:Nat)))(cd:ak a=a.length→Pure Tryz.prog 73 [bA v,bh a] (ai d)):Pure Tryz.prog 34 [bA v,bh a] (.tu [ai (if ak a=a.length then d else []),dI (if ak a=a.length then 0 else 10:Nat)]):=by
 refine qJ 21 Tryz.func34 rfl rfl rfl rfl (by kernel_rfl) (fun B F0 w0=>?_);refine qX 3 rfl ?_;refine qI (qX 2 rfl ?_);refine ab.call tok rfl rfl rfl rfl cc ?_;refine qU 1 rfl ?_;refine qK 2 rfl ?_;refine ab.nil ?_;refine AW.aB rfl ?_
 · skip
   refine AW.skip (AW.seq ?_);refine qX 2 rfl ?_;rw[ae];refine qU 1 rfl ?_;refine ab.call tok rfl rfl rfl rfl (fr a) ?_;refine qU 1 rfl ?_;refine ab.nil ?_;refine AW.cond rfl (fun h=>?_) (fun h=>?_)
   · have hne: ¬ak a=a.length:=by have:=bne_iff_ne.1 h;omega
     rw[if_neg hne,if_neg hne];refine qX 2 rfl ?_;exact qN rfl
   · have he:ak a=a.length:=by have:=bne_eq_false_iff_eq.1 h;omega
     rw[if_pos he,if_pos he];refine AW.skip (qX 2 rfl ?_);refine ab.call tok rfl rfl rfl rfl (cd he) ?_;refine qU 2 rfl ?_;exact qN rfl
theorem wi{rt b:List (List RD)}{a:List (List (List RD))}{e:Nat}(he:e≠0)(cc:Pure Tryz.prog 21 [TrD rt,MxR a] (dI e)):Pure Tryz.prog 33 [TrD rt,MxR a,RwR b] (.tu [a8 [],dI e]):=by
 refine qJ 86 Tryz.func33 rfl rfl rfl rfl (by kernel_rfl) (fun B F0 w0=>?_);refine qX 3 rfl ?_;refine qI (qX 2 rfl ?_);refine ab.call tok rfl rfl rfl rfl cc ?_;refine qU 1 rfl ?_;refine qK 2 rfl ?_;rw[bne_iff_ne.2 (show (e:Int)≠0 by omega)];refine ab.nil ?_;refine AW.aL rfl ?_
 · skip
   refine qX 3 rfl ?_;exact qN rfl
def oR(v:List NQ)(a:a9)(e bl:Nat)(b:List NQ):List NQ×Nat :=
 if e≠0 then ([],e) else if bl≠a.length then ([],10) else
 if atR v (cX v a b) (ak a)<(cX v a b).rows.length then ([],16) else if (cX v a b).cols.length<ak a then ([],15) else (jw v a b,0)
theorem HY(v:List NQ)(a:a9)(e bl:Nat)(b:List NQ):Gg v a e bl b= .tu [a8 (oR v a e bl b).1,sJ (oR v a e bl b).2]:=by
 unfold Gg oR;by_cases h1:e≠0
 · rw[if_pos h1,if_pos h1];rfl
 rw[if_neg h1,if_neg h1];by_cases h2:bl≠a.length
 · rw[if_pos h2,if_pos h2];rfl
 rw[if_neg h2,if_neg h2];split
 · rfl
 · split
   · rfl
   · rfl
theorem CW{v:List NQ}{q:a9}{bq:List NQ}:(aJ v (cG q bq q.length) (ak q+1)).cols.contains (ak q)=decide (atR v (cX v q bq) (ak q)<(cX v q bq).rows.length)∧(¬atR v (cX v q bq) (ak q)<(cX v q bq).rows.length→aJ v (cG q bq q.length) (ak q+1)=cX v q bq):=by
 have hst:aJ v (cG q bq q.length) (ak q+1)=dZ v (cX v q bq) (ak q):=rfl;have hlt:=xL v (cG q bq q.length) (ak q);change ∀x∈(cX v q bq).cols,x<ak q at hlt;rw[hst];unfold dZ;by_cases h:atR v (cX v q bq) (ak q)<(cX v q bq).rows.length
 · rw[if_pos h,aV h];exact⟨by simp,fun g=>absurd h g⟩
 · rw[if_neg h,aT h];refine⟨?_,fun _=>rfl⟩;rw[Bool.eq_false_iff];intro g;exact absurd (hlt _ (List.contains_iff_mem.1 g)) (Nat.lt_irrefl _)
set_option maxHeartbeats 1600000 in
theorem xO{v:List NQ}{q:a9}{b:List (List RD)}{bq:List NQ}{e:Nat}(cc:Pure Tryz.prog 21 [bA v,bh q] (dI (0:Nat)))(cl:Pure Tryz.prog 70 [bA v,RwR b] (dI e))(hql:q.length≤1000)(hqc:ak q≤1000)(hr:bm (ak q) q)(hbl:b.length≤1000000)(hbq:e=0→RwR b=a8 bq)(hlq:bq.length=b.length)
  (cr:e=0→b.length=q.length→Pure Tryz.prog 51 [bA v,bh (cG q bq q.length)] (.tu [bh ((aJ v (cG q bq q.length) (ak q+1)).rows.take (aJ v (cG q bq q.length) (ak q+1)).cols.length),tf (aJ v (cG q bq q.length) (ak q+1)).cols])) (hrl:(aJ v (cG q bq q.length) (ak q+1)).rows.length=q.length) (hrc:(aJ v (cG q bq q.length) (ak q+1)).cols.length≤q.length) (hrr:bm (ak q+1) (aJ v (cG q bq q.length) (ak q+1)).rows):
  Pure Tryz.prog 33 [bA v,bh q,RwR b] (.tu [a8 (oR v q e b.length bq).1,dI (oR v q e b.length bq).2]):=by
 refine qJ 86 Tryz.func33 rfl rfl rfl rfl (by kernel_rfl) (fun B F0 w0=>?_);unfold oR;refine qX 3 rfl ?_;refine qI (qX 2 rfl ?_);refine ab.call tok rfl rfl rfl rfl cc ?_;refine qU 1 rfl ?_;refine qK 2 rfl ?_;refine ab.nil ?_;refine AW.aB rfl ?_
 · skip
   refine AW.skip (AW.seq ?_);refine qX 2 rfl ?_;refine ab.call tok rfl rfl rfl rfl cl ?_;refine qU 1 rfl ?_;refine qK 2 rfl ?_;refine ab.nil ?_;refine AW.cond rfl (fun h=>?_) (fun h=>?_)
   · have he:e≠0:=by have:=bne_iff_ne.1 h;omega
     rw[if_pos he];refine qX 3 rfl ?_;exact qN rfl
   · have he:e=0:=by have:=bne_eq_false_iff_eq.1 h;omega
     subst he;rw[if_neg (fun g=>g rfl)];have hbq:=hbq rfl;have cr:=cr rfl;refine AW.skip (AW.seq ?_);refine qX 2 rfl ?_;rw[ae];refine qU 2 rfl ?_;rw[ae];refine qU 1 rfl ?_;refine ab.nil ?_;refine AW.cond rfl (fun h=>?_) (fun h=>?_)
     · have hne:b.length≠q.length:=by have:=bne_iff_ne.1 h;omega
       rw[if_pos hne];refine qX 2 rfl ?_;exact qN rfl
     · have hbe:b.length=q.length:=by have:=bne_eq_false_iff_eq.1 h;omega
       rw[if_neg (fun g=>g hbe)];have cr:=cr hbe;refine AW.skip (qX 1 rfl ?_);refine ab.call tok rfl rfl rfl rfl (fr q) ?_;refine qU 1 rfl ?_;refine qK 1 rfl ?_;refine qI (qX 2 rfl ?_);rw[ae];refine qU 1 rfl ?_;refine ab.nil ?_;refine AW.block ?_;rw[hbq];refine AW.aF [2,3,10,11,37,38,39] (fun i:Nat=>[(2,.d (a8 bq)),(3,.bx [.sl 1 (v.map ai)]),(10,.d (dI (ak q))),(11,.ow 22 ((cG q bq i).map a8)),(37,.d (bh q)),(38,.d (dI q.length)),(39,.d (dI i))]) (fun i=>i≤q.length) (fun i=>q.length-i) 0 rfl (Nat.zero_le _) (fun i hi=>?_)
       · show AW _ _ _ _ _ _ _ [(2,.d (a8 bq)),(3,.bx [.sl 1 (v.map ai)]),(10,.d (dI (ak q))),(11,.ow 22 ((cG q bq i).map a8)),(37,.d (bh q)),(38,.d (dI q.length)),(39,.d (dI i))];refine qX 1 rfl ?_;refine qI ?_;refine AW.cond rfl (fun h=>?_) (fun h=>?_)
         · have hii:i<q.length:=by have:=ar h;omega
           have gb:=getM ai (l:=bq) (i:=i) (by omega);have gq:=getM a8 (l:=q) (i:=i) hii;have hws:=tR q bq i;have hwl:=iq q bq i;have hrw:(q.getD i []).length≤1000:=by rw[hr i hii];omega
           change _=some (ai (bq.getD i [])) at gb;change _=some (a8 (q.getD i [])) at gq;generalize cG q bq i=W at hws hwl ⊢;generalize bq.getD i []=y at gb hws;generalize q.getD i []=row at gq hws hrw;refine AW.skip (AW.seq (AW.block ?_));refine qX 1 rfl ?_;refine ab.idx tok (a8 row) rfl rfl rfl rfl (aj i) gq ?_;refine qU 3 rfl ?_;refine ab.nil ?_;refine AW.any aP (kQ.oG [(0,9)] (by kernel_rfl) (fun _ _ h=>h) (fun _ h=>h) (kQ.draw 9 (by kernel_rfl) ?_));refine qP 3 rfl ?_;refine af.po tok rfl rfl rfl rfl rfl (by rw[ae];show row.length*24≤_;omega) ?_;refine qP 2 rfl ?_;refine af.idx tok (ai y) rfl rfl rfl rfl rfl (aj i) gb ?_;refine qP 1 rfl ?_;refine af.e7 tok rfl rfl rfl rfl rfl rfl ?_;refine af.nil ?_;refine ab.gg tok rfl rfl rfl rfl rfl rfl (by rw[ae];show (_+1)*24≤_;omega) (by rw[ae];show _+1≤_;omega) ?_;rw[show row.map ai++[ai y]=(row++[y]).map ai by rw[List.map_append];rfl];refine ab.fQ tok 53 rfl rfl ?_;refine ab.e7 tok rfl rfl rfl rfl rfl ?_;refine ab.gg tok rfl rfl rfl rfl rfl rfl (by rw[ae];show (_+1)*24≤_;omega) (by rw[ae];show _+1≤_;omega) ?_;refine qU 1 rfl ?_;refine ab.nil ?_;refine qT 1 rfl ?_;rw[aH (x:=(i:Int)+1) (by omega) (by omega)];refine qU 1 rfl ?_;refine ab.nil ?_;exact⟨i+1,by rw[hws,List.map_append (f:=a8)];rfl,hii,by omega⟩
         have hii:i=q.length:=by have:=aA h;omega
         subst hii;obtain ⟨sp1,sp2⟩:=CW (v:=v) (q:=q) (bq:=bq);generalize hW:cG q bq q.length=W at *;generalize hS:aJ v W (ak q+1)=S at *;have ca:=xN S.cols (by omega) (ak q);rw[sp1] at ca;refine AW.exit (AW.seq (AW.region ?_));refine ab.fQ tok 11 rfl rfl ?_;refine qU 2 rfl ?_;refine ab.call tok rfl rfl rfl rfl cr ?_;refine qU 5 rfl ?_;refine qI (qX 2 rfl ?_);refine ab.call tok rfl rfl rfl rfl ca ?_;refine ab.nil ?_;refine AW.cond rfl (fun h=>?_) (fun h=>?_)
         · rw[if_pos (ar h)];refine qX 2 rfl ?_;exact qN rfl
         · have hn:=aA h;rw[if_neg hn];have hSS:=sp2 hn;subst hSS;refine AW.skip (AW.seq ?_);refine qX 2 rfl ?_;rw[ae];refine qU 2 rfl ?_;refine ab.nil ?_;refine AW.cond rfl (fun h=>?_) (fun h=>?_)
           · rw[if_pos (show (cX v q bq).cols.length<ak q by have:=ar h;omega)];refine qX 2 rfl ?_;exact qN rfl
           · have hcl: ¬(cX v q bq).cols.length<ak q:=by have:=aA h;omega
             rw[if_neg hcl];refine AW.skip (qX 1 rfl ?_);refine qI (qX 2 rfl ?_);refine ab.nil ?_;refine AW.block ?_;refine AW.aF [10,14,16,70,71] (fun i:Nat=>[(10,.d (dI (ak q))),(14,.d (bh ((cX v q bq).rows.take (cX v q bq).cols.length))),(16,.ow 53 (((jw v q bq).take i).map ai)),(70,.d (dI (ak q))),(71,.d (dI i))]) (fun i=>i≤ak q) (fun i=>ak q-i) 0 rfl (Nat.zero_le _) (fun i hi=>?_)
             · show AW _ _ _ _ _ _ _ [(10,.d (dI (ak q))),(14,.d (bh ((cX v q bq).rows.take (cX v q bq).cols.length))),(16,.ow 53 (((jw v q bq).take i).map ai)),(70,.d (dI (ak q))),(71,.d (dI i))];refine qX 1 rfl ?_;refine qI ?_;refine AW.cond rfl (fun h=>?_) (fun h=>?_)
               · have hii:i<ak q:=by have:=ar h;omega
                 have hxl:=mQ v q bq
                 have hxt:(jw v q bq).take (i+1)=(jw v q bq).take i++[((cX v q bq).rows.getD i []).getD (ak q) []]:=by
                  rw[mM (d:=[]) (by omega)]
                  congr 2
                  unfold jw;rw[aG,List.getElem?_map,List.getElem?_range hii];rfl
                 have htl:((cX v q bq).rows.take (cX v q bq).cols.length).length=(cX v q bq).cols.length:=by rw[aQ];omega
                 have g1:=getM a8 (l:=(cX v q bq).rows.take (cX v q bq).cols.length) (i:=i) (by omega);have e1:((cX v q bq).rows.take (cX v q bq).cols.length).getD i []=(cX v q bq).rows.getD i []:=Cv (by omega);change _=some (a8 (((cX v q bq).rows.take (cX v q bq).cols.length).getD i [])) at g1;rw[e1] at g1;have g2:=getM ai (l:=(cX v q bq).rows.getD i []) (i:=ak q) (by rw[hrr i (by omega)];omega);change _=some (ai (((cX v q bq).rows.getD i []).getD (ak q) [])) at g2;generalize (cX v q bq).rows.getD i []=row at g1 g2 hxt;generalize row.getD (ak q) []=x at g2 hxt;generalize (cX v q bq).rows.take (cX v q bq).cols.length=rt at g1 ⊢;refine AW.skip (AW.seq (AW.block ?_));refine qX 2 rfl ?_;refine ab.nil ?_;refine qT 3 rfl ?_;refine ab.idx tok (a8 row) rfl rfl rfl rfl (aj i) g1 ?_;refine qU 2 rfl ?_;refine ab.idx tok (ai x) rfl rfl rfl rfl (aj (ak q)) g2 ?_;refine qU 1 rfl ?_;refine ab.e7 tok rfl rfl rfl rfl rfl ?_;refine ab.gg tok rfl rfl rfl rfl rfl rfl (by rw[ae,aQ];show (_+1)*24≤_;omega) (by rw[ae,aQ];show _+1≤_;omega) ?_;refine qU 1 rfl ?_;refine ab.nil ?_;refine qT 1 rfl ?_;rw[aH (x:=(i:Int)+1) (by omega) (by omega)];refine qU 1 rfl ?_;refine ab.nil ?_;exact⟨i+1,by rw[hxt,List.map_append];rfl,hii,by omega⟩
               have hii:i=ak q:=by have:=aA h;omega
               have hxl:=mQ v q bq;rw[hii,show (jw v q bq).take (ak q)=jw v q bq from List.take_of_length_le (by omega)];refine AW.exit (AW.seq (AW.region ?_));refine ab.fQ tok 16 rfl rfl ?_;refine qU 3 rfl ?_;exact qN rfl
end Lift
namespace Lift
open Go Go.Proofs
theorem Aw.J9{m:Nat}{v:List NQ}{a:a9}(V:kF m v)(G:Aw v a):sY (kZ v) (rp a)=0:=by
 have hl:=G.l;have hc:=G.c;unfold sY;split
 · rfl
 rw[pS,nM,if_neg (by omega)]
 have e1:fE (wX (rp a)) (a.length-0) 0=0:=j8 fun j hj=>by
  unfold wX;rw[nM,k0,ae,G.r j (by omega)];exact if_neg (fun h=>h rfl)
 rw[e1,if_neg (by decide)];refine j8 fun j hj=>?_;unfold kK;refine j8 fun k hk=>?_;rw[tz];exact JX V (G.lt j k)
theorem Bm{m:Nat}{v:List NQ}{b:a9}(V:kF m v)(G:Aw v b)(ok: ∀i k,uK v (aW b i k)):Pure Tryz.prog 55 [bA v,bh b] aN:=by
 have hl:=G.l;have hc:=G.c
 have h:=m8 (rt:=kZ v) (a:=rp b) (by rw[pS];omega) (fun i=>by
  rw[k0,ae];by_cases h:i<b.length
  · rw[G.r i h];omega
  · rw[fg (by omega)];exact Nat.zero_le _) (fun i k=>by
  rw[tz,JX V (G.lt i k),mV,oV]
  exact u5 V.a (G.lt i k) (ok i k))
 rw[G.J9 V,mV,xM] at h;exact h
theorem Bh{rt:List (List RD)}{x:List RD}{v:List NQ}(T:IM 2 rt)(h0:dm rt=0)(ht:TrD rt=bA v)(hv:v.length=rt.length)(X:BP 2 rt x):Pure Tryz.prog 67 [bA v,dn x] (sJ (bL v.length x)):=by
 have h:=lg T X;rw[CG h0,ht,← hv] at h;exact h
end Lift
namespace Lift
open Go Go.Proofs
end Lift
namespace Lift
open Go Go.Proofs
end Lift
namespace Lift
section
variable {m0:Nat} {v:List NQ} (V:kF m0 v) {q kq:a9} (Gq:Aw v q)
include V Gq
variable (Gk:Aw v kq)
include Gk
end
end Lift
namespace Lift
open Go Go.Proofs
end Lift
namespace Lift
open Go Go.Proofs
theorem Lo.fj{v:List NQ}{a:a9}{k:Nat}(L:Lo v)(hr:bm a.length a)(lt:kd v.length a)(hs:kG k a)(hg:gI k a.length≤100000000000):aC v.length (qF v a)∧au (gI k a.length) (qF v a):=by
 have R:=L.red hr lt hs (n:=a.length) hg;have D:=(gR L.V.a hr lt a.length).fj;have sD:=R.2.2.1 _ (ao a.length);unfold qF;split
 · exact⟨bn _,aY sD.pos⟩
 · split
   · exact x8 D sD
   · exact⟨D,sD⟩
end Lift
namespace Lift
open Go Go.Proofs
theorem vP(l:List Rat)(hl:l.length≤1000000)(hs: ∀i,LQ (l.getD i 0)≤1000000):Pure Tryz.prog 75 [.sl 3 (eC l),.sl 3 (eC l)] (dB true):=by
 refine qJ 27 Tryz.func75 rfl rfl rfl rfl (by kernel_rfl) (fun B F0 w0=>?_);refine qX 1 rfl ?_;refine qI (qX 5 rfl ?_);refine ab.nil ?_;refine AW.cond rfl (fun h=>absurd (bne_iff_ne.1 h) (by simp)) (fun h=>?_)
 · skip
   refine AW.skip (AW.seq ?_);refine qX 1 rfl ?_;refine ab.nil ?_;refine AW.block ?_;refine AW.aF [0,1,5] (fun i:Nat=>[(0,.d (.sl 3 (eC l))),(1,.d (.sl 3 (eC l))),(5,.d (dI i))]) (fun i=>i≤l.length) (fun i=>l.length-i) 0 rfl (Nat.zero_le _) (fun i hi=>?_)
   · skip
     refine AW.seq (qX 4 rfl ?_);rw[ae];refine ab.nil ?_;refine AW.cond rfl (fun h=>?_) (fun h=>?_)
     · have hin:i<l.length:=by have:=ar h;omega
       refine AW.skip (AW.seq (AW.block (AW.seq ?_)));refine AW.draw aP 10 (by kernel_rfl) ?_;refine qP 2 rfl ?_;refine af.idx tok (Qr (l.getD i 0)).D rfl rfl rfl rfl rfl (aj i) (kN hin) ?_;refine qP 3 rfl ?_;refine af.idx tok (Qr (l.getD i 0)).D rfl rfl rfl rfl rfl (aj i) (kN hin) ?_;refine qP 1 rfl ?_;refine af.call tok rfl rfl rfl rfl rfl (As (Qr (l.getD i 0)) (Qr (l.getD i 0)) (k:=1000000) (jt _ (hs i)) (by unfold BL;decide)) ?_;rw[E8];refine qP 1 rfl ?_;refine af.nil ?_;refine ab.nil ?_;refine AW.aB rfl ?_;refine AW.skip (qT 2 rfl ?_);rw[aH (x:=(i:Int)+1) (by omega) (by omega)];refine qU 1 rfl ?_;refine ab.nil ?_;exact⟨i+1,rfl,hin,by omega⟩
     refine AW.exit ?_;refine qX 1 rfl ?_;exact qN rfl
theorem oy(l:NQ)(hl:l.length≤1000000)(hs:au 1000000 l):Pure Tryz.prog 36 [ai l,ai l] (dB true):=by
 have cr:=vP l hl hs;refine qJ 8 Tryz.func36 rfl rfl rfl rfl (by kernel_rfl) (fun B F0 w0=>?_);refine qX 1 rfl ?_;refine qK 2 rfl ?_;refine ab.call tok rfl rfl rfl rfl cr ?_;refine qU 1 rfl ?_;exact qN rfl
theorem rG{rt b:List (List RD)}{a:List (List (List RD))}{e:Nat}(he:e≠0)(cc:Pure Tryz.prog 20 [TrD rt,MxR a] (sJ e)):Pure Tryz.prog 32 [TrD rt,MxR a,RwR b] (.tu [a8 [],sJ e]):=by
 obtain ⟨m,rfl⟩: ∃m,e=m+1:=⟨e-1,by omega⟩;refine qJ 122 Tryz.func32 rfl rfl rfl rfl (by kernel_rfl) (fun B F0 w0=>?_);refine qX 3 rfl ?_;refine qI (qX 2 rfl ?_);refine ab.call tok rfl rfl rfl rfl cc ?_;refine qU 1 rfl ?_;refine qK 1 rfl ?_;refine ab.err tok rfl rfl rfl rfl rfl ?_;refine ab.nil ?_;refine AW.aL rfl ?_
 · skip
   refine qX 3 rfl ?_;exact qN rfl
theorem u9{rt:List (List RD)}{a:List (List (List RD))}{e:Nat}(he:e≠0)(cc:Pure Tryz.prog 20 [TrD rt,MxR a] (sJ e)):Pure Tryz.prog 27 [TrD rt,MxR a] (.tu [ai [],sJ e]):=by
 obtain ⟨m,rfl⟩: ∃m,e=m+1:=⟨e-1,by omega⟩;refine qJ 24 Tryz.func27 rfl rfl rfl rfl (by kernel_rfl) (fun B F0 w0=>?_);refine qX 3 rfl ?_;refine qI (qX 2 rfl ?_);refine ab.call tok rfl rfl rfl rfl cc ?_;refine qU 1 rfl ?_;refine qK 1 rfl ?_;refine ab.err tok rfl rfl rfl rfl rfl ?_;refine ab.nil ?_;refine AW.aL rfl ?_
 · skip
   refine qX 3 rfl ?_;exact qN rfl
theorem u7{rt:List (List RD)}{a b:List (List (List RD))}{e:Nat}(he:e≠0)(cc:Pure Tryz.prog 20 [TrD rt,MxR a] (sJ e)):Pure Tryz.prog 26 [TrD rt,MxR a,MxR b] (.tu [bh [],sJ e]):=by
 obtain ⟨m,rfl⟩: ∃m,e=m+1:=⟨e-1,by omega⟩;refine qJ 69 Tryz.func26 rfl rfl rfl rfl (by kernel_rfl) (fun B F0 w0=>?_);refine qX 3 rfl ?_;refine qI (qX 2 rfl ?_);refine ab.call tok rfl rfl rfl rfl cc ?_;refine qU 1 rfl ?_;refine qK 1 rfl ?_;refine ab.err tok rfl rfl rfl rfl rfl ?_;refine ab.nil ?_;refine AW.aL rfl ?_
 · skip
   refine qX 3 rfl ?_;exact qN rfl
theorem rH{v:List NQ}{a b:a9}(cc:Pure Tryz.prog 20 [bA v,bh a] aN)(cb:Pure Tryz.prog 55 [bA v,bh b] aN)(hne:ak a≠b.length):Pure Tryz.prog 26 [bA v,bh a,bh b] (.tu [bh [],er 10]):=by
 refine qJ 69 Tryz.func26 rfl rfl rfl rfl (by kernel_rfl) (fun B F0 w0=>?_);refine qX 3 rfl ?_;refine qI (qX 2 rfl ?_);refine ab.call tok rfl rfl rfl rfl cc ?_;refine qU 1 rfl ?_;refine qK 1 rfl ?_;refine ab.err tok rfl rfl rfl rfl rfl ?_;refine ab.nil ?_;refine AW.aB rfl ?_
 · skip
   refine AW.skip (AW.seq ?_);refine qX 2 rfl ?_;refine ab.call tok rfl rfl rfl rfl cb ?_;refine qU 1 rfl ?_;refine qK 1 rfl ?_;refine ab.err tok rfl rfl rfl rfl rfl ?_;refine ab.nil ?_;refine AW.aB rfl ?_
   · skip
     refine AW.skip (AW.seq ?_);refine qX 1 rfl ?_;refine ab.call tok rfl rfl rfl rfl (bM a) ?_;refine qU 2 rfl ?_;rw[ae];refine qU 1 rfl ?_;rw[bne_iff_ne.2 (show (ak a:Int)≠(b.length:Int) by omega)];refine ab.nil ?_;refine AW.aL rfl ?_
     · skip
       refine qX 3 rfl ?_;exact qN rfl
set_option maxHeartbeats 1600000 in
theorem kB{rt b:List (List RD)}{a:List (List (List RD))}{e1 e2 e3:Nat}{x:List NQ}{d wd:NQ}{P:a9}(hb6:b.length≤6)(cl:Pure Tryz.prog 10 [TrD rt] (dB true))(cs:Pure Tryz.prog 11 [MxR a] (dB true))(ch:Pure Tryz.prog 31 [RwR b] (dB true))
  (cS:Pure Tryz.prog 32 [TrD rt,MxR a,RwR b] (.tu [a8 x,sJ e1])) (cD:Pure Tryz.prog 27 [TrD rt,MxR a] (.tu [ai d,sJ e2])) (cM:Pure Tryz.prog 26 [TrD rt,MxR a,MxR a] (.tu [bh P,sJ e3]))
  (dS:Pure Tryz.prog 33 [TrD rt,MxR a,RwR b] (.tu [a8 x,dI e1])) (dD:Pure Tryz.prog 34 [TrD rt,MxR a] (.tu [ai wd,dI e2])) (dM:Pure Tryz.prog 35 [TrD rt,MxR a,MxR a] (.tu [bh P,dI e3]))
  (hP:P.length≤1000000) (hPr: ∀i,(P.getD i []).length≤1000000) (same: ∀i k,Pure Tryz.prog 36 [ai (aW P i k),ai (aW P i k)] (dB true))
  (hx:e1≠0→x=[]) (ex:e1=0→Pure Tryz.prog 30 [TrD rt,a8 x,a8 x] (dB true)) (hd:e2≠0→d=[]) (ed:e2=0→Pure Tryz.prog 30 [TrD rt,a8 [d],a8 [wd]] (dB true)):
  Pure Tryz.prog 6 [TrD rt,MxR a,RwR b] (dB true):=by
 have ca:=fA;have n1:=nw e1;have n2:=nw e2;have n3:=nw e3;refine qJ 187 Tryz.func6 rfl rfl rfl rfl (by kernel_rfl) (fun B F0 w0=>?_);refine qX 2 rfl ?_;refine qI (qX 1 rfl ?_);refine ab.call tok rfl rfl rfl rfl cl ?_;refine qU 3 rfl ?_;refine ab.call tok rfl rfl rfl rfl cs ?_;refine qU 5 rfl ?_;rw[ae];refine qU 1 rfl ?_;rw[aT (show ¬(6:Int)<(b.length:Int) by omega)];refine qU 3 rfl ?_;refine ab.call tok rfl rfl rfl rfl ch ?_;refine qU 3 rfl ?_;refine ab.call tok rfl rfl rfl rfl ca ?_;refine qU 2 rfl ?_;refine ab.nil ?_;refine AW.aB rfl ?_
 · skip
   refine AW.skip (qX 3 rfl ?_);refine ab.call tok rfl rfl rfl rfl cS ?_;refine qU 5 rfl ?_;refine qK 2 rfl ?_;refine ab.call tok rfl rfl rfl rfl cD ?_;refine qU 5 rfl ?_;refine qK 3 rfl ?_;refine ab.call tok rfl rfl rfl rfl cM ?_;refine qU 5 rfl ?_;refine qK 3 rfl ?_;refine ab.call tok rfl rfl rfl rfl dS ?_;refine qU 5 rfl ?_;refine qK 2 rfl ?_;refine ab.call tok rfl rfl rfl rfl dD ?_;refine qU 5 rfl ?_;refine qK 3 rfl ?_;refine ab.call tok rfl rfl rfl rfl dM ?_;refine qU 5 rfl ?_;refine qI (qX 1 rfl ?_);refine ab.call tok rfl rfl rfl rfl n1 ?_;refine qU 2 rfl ?_;rw[bne_self_eq_false];refine qU 2 rfl ?_;refine ab.call tok rfl rfl rfl rfl n2 ?_;refine qU 2 rfl ?_;rw[bne_self_eq_false];refine qU 3 rfl ?_;refine ab.call tok rfl rfl rfl rfl n3 ?_;refine qU 2 rfl ?_;rw[bne_self_eq_false];refine qU 4 rfl ?_;rw[ae];refine qU 2 rfl ?_;rw[ae];refine qU 1 rfl ?_;rw[bne_self_eq_false];refine qU 1 rfl ?_;refine ab.nil ?_;refine AW.aB rfl ?_
   · skip
     refine AW.skip (AW.seq ?_);refine qX 2 rfl ?_;rw[ae];refine qU 1 rfl ?_;refine ab.nil ?_;refine AW.block ?_;refine AW.aF [3,7,9,11,13,14,15,16,17,107,108,109] (fun i:Nat=>[(3,.bx [.sl 1 (rt.map dn)]),(7,.d (a8 x)),(9,.d (ai d)),(11,.d (bh P)),(13,.d (a8 x)),(14,.d (dI e1)),(15,.d (ai wd)),(16,.d (dI e2)),(17,.d (bh P)),(107,.d (bh P)),(108,.d (dI P.length)),(109,.d (dI i))]) (fun i=>i≤P.length) (fun i=>P.length-i) 0 rfl (Nat.zero_le _) (fun i hi=>?_)
     · show AW _ _ _ _ _ _ _ [(3,.bx [.sl 1 (rt.map dn)]),(7,.d (a8 x)),(9,.d (ai d)),(11,.d (bh P)),(13,.d (a8 x)),(14,.d (dI e1)),(15,.d (ai wd)),(16,.d (dI e2)),(17,.d (bh P)),(107,.d (bh P)),(108,.d (dI P.length)),(109,.d (dI i))];refine qX 1 rfl ?_;refine qI ?_;refine AW.cond rfl (fun h=>?_) (fun h=>?_)
       · have hii:i<P.length:=by have:=ar h;omega
         have g1:=getM a8 (l:=P) (i:=i) hii;change _=some (a8 (P.getD i [])) at g1;have hPr:=hPr i;have same:=same i;unfold aW at same;generalize P.getD i []=row at g1 hPr same;refine AW.skip (AW.seq (AW.block ?_));refine qX 2 rfl ?_;refine qI (AW.seq ?_);refine AW.draw aP 11 (by kernel_rfl) ?_;refine qP 2 rfl ?_;refine af.idx tok (a8 row) rfl rfl rfl rfl rfl (aj i) g1 ?_;refine qP 2 rfl ?_;rw[ae];refine qP 2 rfl ?_;refine af.idx tok (a8 row) rfl rfl rfl rfl rfl (aj i) g1 ?_;refine qP 2 rfl ?_;rw[ae];refine qP 1 rfl ?_;rw[bne_self_eq_false];refine af.nil ?_;refine ab.nil ?_;refine AW.aB rfl ?_
         · skip
           refine AW.skip (qX 2 rfl ?_);refine ab.idx tok (a8 row) rfl rfl rfl rfl (aj i) g1 ?_;refine qU 2 rfl ?_;rw[ae];refine qU 1 rfl ?_;refine ab.nil ?_;refine AW.block ?_;refine AW.aF [3,7,9,11,13,14,15,16,17,107,108,109,19,127,128] (fun k:Nat=>[(3,.bx [.sl 1 (rt.map dn)]),(7,.d (a8 x)),(9,.d (ai d)),(11,.d (bh P)),(13,.d (a8 x)),(14,.d (dI e1)),(15,.d (ai wd)),(16,.d (dI e2)),(17,.d (bh P)),(107,.d (bh P)),(108,.d (dI P.length)),(109,.d (dI i)),(19,.d (dI i)),(127,.d (dI row.length)),(128,.d (dI k))]) (fun k=>k≤row.length) (fun k=>row.length-k) 0 rfl (Nat.zero_le _) (fun k hk=>?_)
           · show AW _ _ _ _ _ _ _ [(3,.bx [.sl 1 (rt.map dn)]),(7,.d (a8 x)),(9,.d (ai d)),(11,.d (bh P)),(13,.d (a8 x)),(14,.d (dI e1)),(15,.d (ai wd)),(16,.d (dI e2)),(17,.d (bh P)),(107,.d (bh P)),(108,.d (dI P.length)),(109,.d (dI i)),(19,.d (dI i)),(127,.d (dI row.length)),(128,.d (dI k))];refine qX 1 rfl ?_;refine qI ?_;refine AW.cond rfl (fun h=>?_) (fun h=>?_)
             · have hkk:k<row.length:=by have:=ar h;omega
               have g2:=getM ai (l:=row) (i:=k) hkk;change _=some (ai (row.getD k [])) at g2;have same:=same k;generalize row.getD k []=y at g2 same;refine AW.skip (AW.seq (AW.block ?_));refine qX 2 rfl ?_;refine qI (AW.draw aP 16 (by kernel_rfl) ?_);refine qP 2 rfl ?_;refine af.idx tok (a8 row) rfl rfl rfl rfl rfl (aj i) g1 ?_;refine qP 2 rfl ?_;refine af.idx tok (ai y) rfl rfl rfl rfl rfl (aj k) g2 ?_;refine qP 3 rfl ?_;refine af.idx tok (a8 row) rfl rfl rfl rfl rfl (aj i) g1 ?_;refine qP 2 rfl ?_;refine af.idx tok (ai y) rfl rfl rfl rfl rfl (aj k) g2 ?_;refine qP 1 rfl ?_;refine af.call tok rfl rfl rfl rfl rfl same ?_;refine qP 1 rfl ?_;refine af.nil ?_;refine ab.nil ?_;refine AW.aB rfl ?_
               · skip
                 refine AW.skip (qT 1 rfl ?_);rw[aH (x:=(k:Int)+1) (by omega) (by omega)];refine qU 1 rfl ?_;refine ab.nil ?_;exact⟨k+1,rfl,hkk,by omega⟩
             refine AW.exit ?_;refine qT 1 rfl ?_;rw[aH (x:=(i:Int)+1) (by omega) (by omega)];refine qU 1 rfl ?_;refine ab.nil ?_;exact⟨i+1,rfl,hii,by omega⟩
       refine AW.exit (AW.seq (AW.region ?_));by_cases h1:e1=0
       · have ex1:=ex h1;subst h1;refine qU 14 rfl ?_;refine ab.call tok rfl rfl rfl rfl ex1 ?_;refine qU 4 rfl ?_;by_cases h2:e2=0
         · have ed1:=ed h2;subst h2;refine qU 12 rfl ?_;refine ab.e7 tok rfl rfl rfl rfl rfl ?_;refine qU 1 rfl ?_;refine ab.e7 tok rfl rfl rfl rfl rfl ?_;refine ab.call tok rfl rfl rfl rfl ed1 ?_;refine qU 4 rfl ?_;exact qN rfl
         · have hd:=hd h2;subst hd;refine qU 1 rfl ?_;rw[bne_iff_ne.2 (show (e2:Int)≠0 by omega)];refine qU 19 rfl ?_;exact qN rfl
       · have hx:=hx h1;subst hx;refine qU 2 rfl ?_;rw[bne_iff_ne.2 (show (e1:Int)≠0 by omega)];refine qU 17 rfl ?_;by_cases h2:e2=0
         · have ed1:=ed h2;subst h2;refine qU 12 rfl ?_;refine ab.e7 tok rfl rfl rfl rfl rfl ?_;refine qU 1 rfl ?_;refine ab.e7 tok rfl rfl rfl rfl rfl ?_;refine ab.call tok rfl rfl rfl rfl ed1 ?_;refine qU 4 rfl ?_;exact qN rfl
         · have hd:=hd h2;subst hd;refine qU 1 rfl ?_;rw[bne_iff_ne.2 (show (e2:Int)≠0 by omega)];refine qU 19 rfl ?_;exact qN rfl
theorem qn{rt b:List (List RD)}{a:List (List (List RD))}(cl:Pure Tryz.prog 10 [TrD rt] (dB false)):Pure Tryz.prog 6 [TrD rt,MxR a,RwR b] (dB true):=by
 have ca:=fA;refine qJ 187 Tryz.func6 rfl rfl rfl rfl (by kernel_rfl) (fun B F0 w0=>?_);refine qX 2 rfl ?_;refine qI (qX 1 rfl ?_);refine ab.call tok rfl rfl rfl rfl cl ?_;refine qU 20 rfl ?_;refine ab.nil ?_;refine AW.aL rfl ?_
 · skip
   refine AW.seq (AW.region ?_);refine ab.call tok rfl rfl rfl rfl ca ?_;refine qU 1 rfl ?_;exact qN rfl
theorem qm{rt b:List (List RD)}{a:List (List (List RD))}(cl:Pure Tryz.prog 10 [TrD rt] (dB true))(cs:Pure Tryz.prog 11 [MxR a] (dB false)):Pure Tryz.prog 6 [TrD rt,MxR a,RwR b] (dB true):=by
 have ca:=fA;refine qJ 187 Tryz.func6 rfl rfl rfl rfl (by kernel_rfl) (fun B F0 w0=>?_);refine qX 2 rfl ?_;refine qI (qX 1 rfl ?_);refine ab.call tok rfl rfl rfl rfl cl ?_;refine qU 3 rfl ?_;refine ab.call tok rfl rfl rfl rfl cs ?_;refine qU 16 rfl ?_;refine ab.nil ?_;refine AW.aL rfl ?_
 · skip
   refine AW.seq (AW.region ?_);refine ab.call tok rfl rfl rfl rfl ca ?_;refine qU 1 rfl ?_;exact qN rfl
theorem ql{rt b:List (List RD)}{a:List (List (List RD))}(h6:6<b.length)(cl:Pure Tryz.prog 10 [TrD rt] (dB true))(cs:Pure Tryz.prog 11 [MxR a] (dB true)):Pure Tryz.prog 6 [TrD rt,MxR a,RwR b] (dB true):=by
 have ca:=fA;refine qJ 187 Tryz.func6 rfl rfl rfl rfl (by kernel_rfl) (fun B F0 w0=>?_);refine qX 2 rfl ?_;refine qI (qX 1 rfl ?_);refine ab.call tok rfl rfl rfl rfl cl ?_;refine qU 3 rfl ?_;refine ab.call tok rfl rfl rfl rfl cs ?_;refine qU 5 rfl ?_;rw[ae];refine qU 1 rfl ?_;rw[aV (show (6:Int)<(b.length:Int) by omega)];refine qU 10 rfl ?_;refine ab.nil ?_;refine AW.aL rfl ?_
 · skip
   refine AW.seq (AW.region ?_);refine ab.call tok rfl rfl rfl rfl ca ?_;refine qU 1 rfl ?_;exact qN rfl
theorem qk{rt b:List (List RD)}{a:List (List (List RD))}(h6:b.length≤6)(cl:Pure Tryz.prog 10 [TrD rt] (dB true))(cs:Pure Tryz.prog 11 [MxR a] (dB true))(ch:Pure Tryz.prog 31 [RwR b] (dB false)):Pure Tryz.prog 6 [TrD rt,MxR a,RwR b] (dB true):=by
 have ca:=fA;refine qJ 187 Tryz.func6 rfl rfl rfl rfl (by kernel_rfl) (fun B F0 w0=>?_);refine qX 2 rfl ?_;refine qI (qX 1 rfl ?_);refine ab.call tok rfl rfl rfl rfl cl ?_;refine qU 3 rfl ?_;refine ab.call tok rfl rfl rfl rfl cs ?_;refine qU 5 rfl ?_;rw[ae];refine qU 1 rfl ?_;rw[aT (show ¬(6:Int)<(b.length:Int) by omega)];refine qU 3 rfl ?_;refine ab.call tok rfl rfl rfl rfl ch ?_;refine qU 6 rfl ?_;refine ab.nil ?_;refine AW.aL rfl ?_
 · skip
   refine AW.seq (AW.region ?_);refine ab.call tok rfl rfl rfl rfl ca ?_;refine qU 1 rfl ?_;exact qN rfl
theorem GR{l:Nat}{x:NQ}(h:aC l x)(hl:l≤1):x.length≤2:=by
 rcases h with h | ⟨i,hi,h⟩
 · omega
 · have:i=0∨i=1:=by omega
   rcases this with rfl | rfl
   · rw[h];decide
   · rw[h];decide
theorem Iz{v:List NQ}(L:Lo v){a:a9}(hr:bm a.length a)(hl:kd v.length a)(hs:kG 2 a)(h5:a.length≤5):aC v.length (Dk v a)∧au (gI 2 a.length) (Dk v a):=by
 have g:=vp h5;unfold Dk;cases h:wA v a a.length with
 | none=>exact⟨bn _,aY (Nat.le_trans (Nat.le_trans (by decide) (ao 2)) (fN (Nat.zero_le _)))⟩
 | some x =>
   obtain ⟨m,d⟩:=x;exact⟨(Al L.V.a hr hl a.length m d (ao _) h).d,(L.dt hr hl hs a.length m d (ao _) g h).2⟩
set_option maxHeartbeats 1600000 in
theorem lv{rt b:List (List RD)}{a:List (List (List RD))}{v:List NQ}{q:a9}{bq:List NQ}(A:Acc rt a v q)(h6:b.length≤6)(cl:Pure Tryz.prog 10 [TrD rt] (dB true))(cs:Pure Tryz.prog 11 [MxR a] (dB true))(ch:Pure Tryz.prog 31 [RwR b] (dB true))(dc:Pure Tryz.prog 21 [TrD rt,MxR a] (dI (0:Nat)))(cw:Pure Tryz.prog 57 [TrD rt,MxR a] (dI (0:Nat)))
  (hmn: ∀i,Pure Tryz.prog 67 [bA v,dn (b.getD i [])] (sJ (bL v.length (b.getD i [])))) (cli:Pure Tryz.prog 70 [TrD rt,RwR b] (dI (bE v.length b)))
  (hbq:bE v.length b=0→RwR b=a8 bq) (hlq:bq.length=b.length) (hbL: ∀i,aC v.length (bq.getD i [])) (hbS: ∀i,au 2 (bq.getD i [])):Pure Tryz.prog 6 [TrD rt,MxR a,RwR b] (dB true):=by
 have L:=A.L;have G:=A.G;have hl4:=A.l4;have hc4:=A.c4;have hs:=A.s;obtain ⟨F⟩:=Jt L.V;rw[A.t,A.m] at dc cw;rw[A.t] at cli;have wl:kd v.length (cG q bq q.length):=wI (p:=aC v.length) (bn _) G.r G.lt hbL;have ws:kG 2 (cG q bq q.length):=wI (p:=au 2) (aY (by decide)) G.r hs hbS;have F4:=iq q bq q.length;have g:=vp (show ak q≤5 by omega);have R:=L.red (im G.r bq) wl ws g;have RO:=gR L.V.a (im G.r bq) wl (ak q);have RO1:=gR L.V.a (im G.r bq) wl (ak q+1);have cS:=s4 (b:=b) (bq:=bq) L.V.a (jQ L G hs) G (by omega) hmn hbq hlq (fun _=>wl) (fun _=>R.1) (fun _ i=>L.sg (RO.lt i (ak q)) (R.2.1 _ (ao _) i (ak q)) (by omega));rw[HY] at cS;have dS:=xO (bq:=bq) dc cli (by omega) (by omega) G.r (by omega) hbq hlq (fun _ _=>uu L (by omega) (by omega) (im G.r bq) wl ws) (RO1.len.trans F4) (by have:=RO1.cm;omega) RO1.rect;have hX: ∀i,aC v.length ((jw v q bq).getD i [])∧au (gI 2 (ak q)) ((jw v q bq).getD i []):=DZ (p:=fun y=>aC v.length y∧au (gI 2 (ak q)) y) ⟨bn _,aY (Nat.le_trans (by decide) (fN (Nat.zero_le _)))⟩ (fun i=>⟨RO.lt i (ak q),R.2.1 _ (ao _) i (ak q)⟩);have hXl:=mQ v q bq
 have hx0:(oR v q (bE v.length b) b.length bq).2≠0→(oR v q (bE v.length b) b.length bq).1=[]:=by
  unfold oR;split
  · exact fun _=>rfl
  · split
    · exact fun _=>rfl
    · split
      · exact fun _=>rfl
      · split
        · exact fun _=>rfl
        · exact fun h=>absurd rfl h
 have hx1:(oR v q (bE v.length b) b.length bq).1=[]∨(oR v q (bE v.length b) b.length bq).1=jw v q bq:=by
  unfold oR;split
  · exact .inl rfl
  · split
    · exact .inl rfl
    · split
      · exact .inl rfl
      · split
        · exact .inl rfl
        · exact .inr rfl
 have ex:Pure Tryz.prog 30 [bA v,a8 (oR v q (bE v.length b) b.length bq).1,a8 (oR v q (bE v.length b) b.length bq).1] (dB true):=by
  rcases hx1 with e | e
  · rw[e];exact lY (xs:=[]) (ys:=[]) (k:=1) L rfl (Nat.zero_le _) (fun _=>bn _) (fun _=>bn _) (fun _=>aY (ao _)) (fun _=>aY (ao _)) (by decide) (fun j hj=>absurd hj (Nat.not_lt_zero j))
  · rw[e];exact lY (xs:=jw v q bq) (ys:=jw v q bq) L rfl (by omega) (fun j=>(hX j).1) (fun j=>(hX j).1) (fun j=>(hX j).2) (fun j=>(hX j).2) g (fun j _=>F.eq.2 rfl)
 generalize oR v q (bE v.length b) b.length bq=sn at *;obtain ⟨x,e1⟩:=sn
 dsimp only at cS dS hx0 ex
 have key: ∃(d wd:NQ) (P:a9) (e2 e3:Nat),Pure Tryz.prog 27 [bA v,bh q] (.tu [ai d,sJ e2])∧Pure Tryz.prog 34 [bA v,bh q] (.tu [ai wd,dI e2])∧(e2≠0→d=[])∧(e2=0→Pure Tryz.prog 30 [bA v,a8 [d],a8 [wd]] (dB true)) ∧
   Pure Tryz.prog 26 [bA v,bh q,bh q] (.tu [bh P,sJ e3])∧Pure Tryz.prog 35 [bA v,bh q,bh q] (.tu [bh P,dI e3])∧P.length≤1000000∧(∀i,(P.getD i []).length≤1000000)∧(∀i k,aC v.length (aW P i k)∧au 1000000 (aW P i k)):=by
  have m0:=Bm L.V G (fun i k=>L.sg (G.lt i k) (hs i k) (by decide));by_cases hsq:ak q=q.length
  · have rq:bm q.length q:=by rw[← hsq];exact G.r
    have gq:=vp (show q.length≤5 by omega);have D:=L.fj rq G.lt hs gq;have W:=Iz L rq G.lt hs (by omega);have cD:=oA (jQ L G hs) hsq (Cz L (by omega) rq G.lt hs gq);have dD:=ux dc (fun _=>A9 L (by omega) rq G.lt hs);rw[if_pos hsq,if_pos hsq] at dD;have dk:=fun i k=>L.dot (xs:=q.getD i []) (ys:=eY q k) (k:=2) (m:=2) (n:=ak q) (G.lt i) (fun j=>by rw[ic];exact G.lt j k) (hs i) (fun j=>by rw[ic];exact hs j k) (by omega) (by decide)
    have dsz: ∀i k n,n≤4→au 100 (fa v (q.getD i []) (eY q k) n):=fun i k n hn=>(L.dot (xs:=q.getD i []) (ys:=eY q k) (k:=2) (m:=2) (n:=n) (G.lt i) (fun j=>by rw[ic];exact G.lt j k) (hs i) (fun j=>by rw[ic];exact hs j k) (by omega) (by decide)).2.mono (by
     have:n*(2*(2+2)+4)≤4*(2*(2+2)+4):=Nat.mul_le_mul hn (ao _)
     omega)
    have cM:=wx L.V.a (jQ L G hs) m0 (by omega) G.r G.lt (by omega) (by omega) G.r (by omega) G.lt (fun i k _ _=>(dk i k).1);have st:=ug L.l1 100;have dM:=uw dc cw (fun _=>uv (Kz:=100) L.V (by omega) (by omega) (by omega) rq G.r G.lt G.lt (hs.mono (by decide)) (hs.mono (by decide)) (fun i k j hj=>⟨dsz i k j (by omega),(L.mul (G.lt i j) (hs i j) (G.lt j k) (hs j k) (by decide)).2.2.mono (by decide)⟩) (by decide) (by omega) (by decide));rw[if_pos hsq,if_pos hsq] at dM;refine⟨qF v q,Dk v q,eP v q q,0,0,cD,dD,fun h=>absurd rfl h,fun _=>?_,cM,dM,by rw[iA];omega,fun i=>?_,C4 (p:=fun y=>aC v.length y∧au 1000000 y) ⟨bn _,aY (by decide)⟩ (fun i k hi hk=>⟨qE L.V.a (G.lt i) (fun j=>by rw[ic];exact G.lt j k) _,(dsz i k _ (by rw[G.r i hi];omega)).mono (by decide)⟩)⟩
    · exact lY (xs:=[qF v q]) (ys:=[Dk v q]) (k:=gI 2 q.length) L rfl (Nat.le_of_ble_eq_true rfl) (fun j=>match j with
       | 0=>D.1
       | j+1=>bn _) (fun j=>match j with
       | 0=>W.1
       | j+1=>bn _) (fun j=>match j with
       | 0=>D.2
       | j+1=>aY D.2.pos) (fun j=>match j with
       | 0=>W.2
       | j+1=>aY D.2.pos) gq (fun j hj=>match j,hj with
       | 0,_=>F.eq.2 (G8 L.V.a F rq G.lt).symm)
    · by_cases hi:i<q.length
      · rw[nP v q q hi,ae,List.length_range];omega
      · rw[fg (by rw[iA];omega)];exact Nat.zero_le _
  · have dD:=ux (d:=[]) dc (fun h=>absurd h hsq);have dM:=uw (P:=[]) dc cw (fun h=>absurd h hsq);rw[if_neg hsq,if_neg hsq] at dD dM
    exact⟨[],[],[],10,10,vd (jQ L G hs) hsq,dD,fun _=>rfl,fun h=>absurd h (by decide),rH (jQ L G hs) m0 hsq,dM,Nat.zero_le _,fun i=>by rw[fg (Nat.zero_le _)];exact Nat.zero_le _,fun i k=>by
     unfold aW;rw[fg (Nat.zero_le _)]
     exact⟨bn _,aY (by decide)⟩⟩
 obtain ⟨d,wd,P,e2,e3,cD,dD,hd,ed,cM,dM,hP,hPr,hPs⟩:=key;rw[← A.t] at ex ed;rw[← A.t,← A.m] at cS dS cD dD cM dM;exact kB h6 cl cs ch cS cD cM dS dD dM hP hPr (fun i k=>oy _ (by have:=GR (hPs i k).1 L.l1;omega) (hPs i k).2) hx0 (fun _=>ex) hd ed
theorem law10_Solves_ok(rt:List (List RD))(a:List (List (List RD)))(b:List (List RD))(n1:Nb2 rt)(n2:Nb3 a)(n3:Nb2 b):Pure Tryz.prog 6 [TrD rt,MxR a,RwR b] (dB true):=by
 have cl:=ye rt n1;have cs:=vi a n2;have ch:=jZ b n3;by_cases hl:z6 rt=true;rotate_left
 · simp only[Bool.not_eq_true] at hl;rw[hl] at cl;exact qn cl
 rw[hl] at cl;by_cases hs:re a=true;rotate_left
 · simp only[Bool.not_eq_true] at hs;rw[hs] at cs;exact qm cl cs
 rw[hs] at cs;by_cases h6:b.length≤6;rotate_left
 · exact ql (by omega) cl cs
 by_cases hsb:gQ b=true;rotate_left
 · simp only[Bool.not_eq_true] at hsb;rw[hsb] at ch;exact qk h6 cl cs ch
 rw[hsb] at ch;obtain ⟨T,_⟩:=Cj hl n1;obtain ⟨M,_⟩:=ue (rt:=rt) hs n2;have cc:=gj T M;have dc:=xP T M;by_cases h0:mA rt a=0;rotate_left
 · have sm: ∀i k,Pure Tryz.prog 36 [ai (aW [] i k),ai (aW [] i k)] (dB true):=fun i k=>by
    unfold aW;rw[fg (Nat.zero_le _)];exact oy [] (Nat.zero_le _) (aY (by decide))
   exact kB (wd:=[]) h6 cl cs ch (rG h0 cc) (u9 h0 cc) (u7 h0 cc) (wi h0 dc) (zx h0 dc) (zw h0 dc) (Nat.zero_le _) (fun i=>by rw[fg (Nat.zero_le _)];exact Nat.zero_le _) sm (fun _=>rfl) (fun h=>absurd h h0) (fun _=>rfl) (fun h=>absurd h h0)
 have A:=IJ hl n1 hs n2 h0;rw[h0] at dc
 have ht0:dm rt=0:=by
  unfold mA at h0;split at h0
  · rename_i g;exact absurd h0 g
  · omega
 have hm0:sY rt a=0:=by
  unfold mA at h0;rw[if_neg (by rw[ht0];simp)] at h0;exact h0
 have hvl:=A.vl;have cw:=pT (rt:=rt) (a:=a) ht0 M.l M.r (fun i k=>fZ rt.length _ (kc ht0).1 (M.n i k).w (by decide) (M.n i k).l);rw[hm0] at cw;have X:=fun i=>nJ hsb n3 i;have XN: ∀i,BP 2 rt (b.getD i []):=fun i=>⟨fun _=>(X i).2,by have:=(X i).1;omega⟩;have cli:=sf (rt:=rt) (b:=b) (by omega) (fun i=>fZ rt.length _ (kc ht0).1 (XN i).w (by decide) (XN i).l);have hmn:=fun i=>Bh T ht0 A.t hvl (XN i);by_cases hb0:bE rt.length b=0
 · obtain ⟨r1,r2,r3⟩:=Cb XN (fun k hk=>vu hb0 k (Nat.zero_le _) (by omega));exact lv A h6 cl cs ch dc cw hmn (by rw[hvl];exact cli) (fun _=>r1) (ae ..) (fun i=>by rw[hvl];exact r2 i) r3
 · have gr: ∀i,(List.replicate b.length ([]:NQ)).getD i []=[]:=fun i=>by
    rw[aG,List.getElem?_replicate];split<;>rfl
   exact lv (bq:=List.replicate b.length []) A h6 cl cs ch dc cw hmn (by rw[hvl];exact cli) (fun h=>absurd (by rw[← hvl];exact h) hb0) List.length_replicate (fun i=>by rw[gr];exact bn _) (fun i=>by rw[gr];exact aY (by decide))
end Lift

