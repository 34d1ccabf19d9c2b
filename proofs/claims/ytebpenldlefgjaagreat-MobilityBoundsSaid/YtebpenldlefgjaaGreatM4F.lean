/- Parts of the proof, one behind the other: the logic, the contracts of the functions that the statement reaches. -/
import Derived.Test.YtebpenldlefgjaaGreatM4E
set_option linter.unusedVariables false
set_option linter.unusedSimpArgs false
namespace Lift
open Go Go.Proofs
theorem GC{l k j:Nat}{rt:List NQ}{a:NQ}(hj:j≤l)(ha:a.length=2^(j+1))(hrt:cK rt)(hl:l<rt.length)(sa:aB k a)(sr:dm k rt):ay l (kX l rt a)∧aB (sT (l+1) k) (kX l rt a):=by
 obtain ⟨e1,e2,e3⟩:=bA ha;have hx:ay l (a.take (a.length / 2)):= .inr ⟨j,hj,e1⟩;have hy:ay l (a.drop (a.length / 2)):= .inr ⟨j,hj,e2⟩;have hlog:a.length.log2-1=j:=by rw[ha,Nat.log2_two_pow];omega
 have hd:ay l (rt.getD j []):= .inr ⟨j,hj,hrt j (by omega)⟩;have h0:=cg l k;have h1:=cg l (sT l k);have r1:=gJ l hx hx hrt (by omega) (sa.take _) (sa.take _) sr;have r2:=gJ l hy hy hrt (by omega) (sa.drop _) (sa.drop _) sr;have r3:=gJ l r2.1 hd hrt (by omega) r2.2 ((sr _).mono (by omega)) (sr.mono (by omega));unfold kX;rw[hlog];refine⟨r1.1.plus r3.1.minus,(r1.2.plus r3.2.minus).mono ?_⟩;show _≤sT l (sT l k)+sT l k+1;omega
theorem AU{l k j:Nat}{rt:List NQ}{xs:List D}{a:NQ}(hj:j≤l)(ha:a.length=2^(j+1))(hrt:cK rt)(hl:l<rt.length)(hl5:l+1≤5)(hxs: ∀j,j<rt.length→xs[j]?=some (aq (rt.getD j [])))(sa:aB k a)(sr:dm k rt)(hk:sT (l+1) k≤17300000000000):
  Pure Tryz.prog 116 [.ag [.sl 1 xs],aq a,dI a.length] (aq (kX l rt a)):=by
 refine qJ 45 Tryz.func116 rfl rfl rfl rfl (by kernel_rfl) (fun B F0 w0=>?_);obtain ⟨e1,e2,e3⟩:=bA ha;have hx:ay l (a.take (a.length / 2)):= .inr ⟨j,hj,e1⟩;have hy:ay l (a.drop (a.length / 2)):= .inr ⟨j,hj,e2⟩;have hlog:a.length.log2-1=j:=by rw[ha,Nat.log2_two_pow];omega
 have hd:ay l (rt.getD j []):= .inr ⟨j,hj,hrt j (by omega)⟩;have h0:=cg l k;have h1:=cg l (sT l k);have hk:sT l (sT l k)+sT l k+1≤17300000000000:=hk;have hp:2^(j+1)≤2^10:=Nat.pow_le_pow_right (by decide) (by omega);have r1:=gJ l hx hx hrt (by omega) (sa.take _) (sa.take _) sr;have r2:=gJ l hy hy hrt (by omega) (sa.drop _) (sa.drop _) sr;have r3:=gJ l r2.1 hd hrt (by omega) r2.2 ((sr _).mono (by omega)) (sr.mono (by omega));have c1:=jO l hx hx hrt (by omega) (by omega) hxs (sa.take _) (sa.take _) sr (by omega);have c2:=jO l hy hy hrt (by omega) (by omega) hxs (sa.drop _) (sa.drop _) sr (by omega);have c3:=jO l r2.1 hd hrt (by omega) (by omega) hxs r2.2 ((sr j).mono (by omega)) (sr.mono (by omega)) (by omega);have n1:=r1.1.len (by omega);have n3:=r3.1.len (by omega);have c4:=sW _ r3.2 (by omega) (by omega);have c5:=ni _ _ (k:=sT l (sT l k)) (r1.2.mono (by omega)) r3.2.minus (by omega) (by omega) (by rw[gq];omega);have cw:=l7 a a.length (ai _) (by omega);rw[pg] at cw;have cp:=gd ha (by omega);unfold kX;rw[hlog];obtain ⟨n,hn⟩: ∃n,n=a.length / 2:=⟨_,rfl⟩;rw[← hn] at e1 e2 e3 hx hy c1 c2 c3 c4 c5 ⊢;refine qX 2 rfl (qK 2 rfl (ae.call tok rfl rfl rfl rfl cw (qU 1 rfl (qK 1 rfl (ae.call tok rfl rfl rfl rfl cp (qU 5 rfl (qI (AW.draw aU 9 (by kernel_rfl) ?_))))))));refine qP 2 rfl (af.div tok rfl rfl rfl rfl rfl (by decide) ?_);rw[iF _ (by omega),← hn];refine af.gW tok (a:=a) (a.take n) rfl rfl rfl rfl rfl trivial (aj n) (Nat.zero_le _) (show n≤a.length by omega) rfl ?_;refine qP 2 rfl (af.div tok rfl rfl rfl rfl rfl (by decide) ?_);rw[iF _ (by omega),← hn];refine af.gW tok (a:=a) (a.drop n) rfl rfl rfl rfl rfl (aj n) trivial (show n≤a.length by omega) (ai _) (by show (a.take a.length).drop n=_;rw[List.take_length]) ?_;refine qP 1 rfl (af.nil (qU 1 rfl (qI (AW.draw aU 18 (by kernel_rfl) ?_))));refine qP 3 rfl (af.call tok rfl rfl rfl rfl rfl c1 (qP 4 rfl (af.call tok rfl rfl rfl rfl rfl c2 (qP 4 rfl ?_))));rw[aF (x:=((j+1:Nat):Int) -1) (by omega) (by omega),show ((j+1:Nat):Int) -1=(j:Int) by omega];refine af.idx tok (aq (rt.getD j [])) rfl rfl rfl rfl rfl (aj j) (hxs j (by omega)) ?_;exact qP 1 rfl (af.call tok rfl rfl rfl rfl rfl c3 (af.call tok rfl rfl rfl rfl rfl c4 (af.call tok rfl rfl rfl rfl rfl c5 (af.nil (qU 1 rfl (qN rfl))))))
theorem xJ{R:NQ→Int}{N:NQ→NQ}{rt:List NQ}{a:NQ}(hR: ∀b,xq (R b)):xq (oV R N rt a):=by
 unfold oV;split
 · exact .inl rfl
 split
 · exact gI _
 split
 · exact hR _
 split
 · exact lY (hR _) (hR _)
 · exact lY (hR _) (hR _)
theorem uY: ∀(l:Nat) (rt:List NQ) (a:NQ),xq (rL l rt a)
 | 0,rt,a=>xJ (fun _=> .inl rfl)
 | l+1,rt,a=>xJ (fun b=>uY l rt b)
set_option maxHeartbeats 1600000 in
theorem uX{l k:Nat}{R:NQ→Int}{N:NQ→NQ}{rt:List NQ}{xs:List D}{a:NQ}(ha:ay l a)(hl5:l≤5)(hrt:cK rt)(hl:l≤rt.length)(hxs: ∀j,j<rt.length→xs[j]?=some (aq (rt.getD j [])))(sa:aB k a)(sr:dm k rt)(hok:pG l k)
  (hR: ∀l',l=l'+1→ ∀b m,ay l' b→aB m b→k≤m→pG l' m→Pure Tryz.prog 67 [.ag [.sl 1 xs],aq b] (dI (R b))) (hT: ∀b,xq (R b))
  (hN: ∀l',l=l'+1→ ∀b j,j≤l'→b.length=2^(j+1)→aB k b→Pure Tryz.prog 116 [.ag [.sl 1 xs],aq b,dI b.length] (aq (N b))∧ay l' (N b)∧aB (sT l k) (N b)):
  Pure Tryz.prog 67 [.ag [.sl 1 xs],aq a] (dI (oV R N rt (aA a))):=by
 refine qJ 70 Tryz.func67 rfl rfl rfl rfl (by kernel_rfl) (fun B F0 w0=>?_);have hk:=za hok;have cs:=jP a ha hl5;obtain ⟨ha,sa⟩:=bf ha sa;generalize aA a=b at cs ha sa ⊢;have hlb:=ha.len (by omega);unfold oV;refine qX 2 rfl (qK 1 rfl (ae.call tok rfl rfl rfl rfl cs (qU 1 rfl (qI (qX 2 rfl ?_)))));rw[ah];refine qU 1 rfl (ae.nil ?_);by_cases h0:b.length=0
 · rw[if_pos h0,h0];exact AW.aG rfl (qX 1 rfl (qN rfl))
 rw[if_neg h0,beq_eq_false_iff_ne.2 (show (b.length:Int)≠0 by omega)];refine AW.aD rfl (AW.skip (qX 2 rfl ?_));rw[ah];refine qU 1 rfl (qI (qX 2 rfl (ae.nil ?_)));by_cases h1:b.length=1
 · have g:=mP (r:=b) (i:=0) (by omega);have cq:=sX (Qr (b.getD 0 0)) (iy _ (sa 0)) (by omega);rw[dc,DP] at cq;rw[if_pos h1,h1];refine AW.aG rfl (qX 1 rfl (ae.idx tok (Qr (b.getD 0 0)).D rfl rfl rfl rfl (Int.le_refl _) g ?_));exact qU 1 rfl (ae.call tok rfl rfl rfl rfl cq (qU 1 rfl (qN rfl)))
 rw[if_neg h1,beq_eq_false_iff_ne.2 (show (b.length:Int)≠1 by omega)];refine AW.aD rfl (AW.skip ?_)
 obtain ⟨i,hi,hla2⟩: ∃i,i≤l∧b.length=2^i:=by
  rcases ha with e | e
  · omega
  · exact e
 have vN:i≠0:=fun e=>h1 (by rw[hla2,e]);obtain ⟨j,rfl⟩: ∃j,i=j+1:=⟨i-1,by omega⟩;obtain ⟨l',rfl⟩: ∃l',l=l'+1:=⟨l-1,by omega⟩;have hj:j≤l':=by omega
 have hN:=hN l' rfl b j hj hla2 sa;have hR:=fun b m h1 h2 h3 h4=>hR l' rfl b m h1 h2 h3 h4;obtain ⟨e1,e2,e3⟩:=bA hla2;have hx:ay l' (b.take (b.length / 2)):= .inr ⟨j,hj,e1⟩;have hy:ay l' (b.drop (b.length / 2)):= .inr ⟨j,hj,e2⟩;have hlog:b.length.log2-1=j:=by rw[hla2,Nat.log2_two_pow];omega
 have hd:ay l' (rt.getD j []):= .inr ⟨j,hj,hrt j (by omega)⟩;have hk2:=cg (l'+1) k;have r1:=hR _ k hx (sa.take _) (ai _) (kp hok);have r2:=hR _ k hy (sa.drop _) (ai _) (kp hok);have r3:=hR _ k hd (sr j) (ai _) (kp hok);have r4:=hR _ _ hN.2.1 hN.2.2 (by omega) hok.2;have t1:=hT (b.take (b.length / 2));have t2:=lY (hT (b.drop (b.length / 2))) (hT (rt.getD j []));have t4:=lY t1 (hT (N b));have cn:=hN.1;have cp:=gd hla2 (by omega);rw[hlog];obtain ⟨n,hn⟩: ∃n,n=b.length / 2:=⟨_,rfl⟩;rw[← hn] at e1 e2 e3 hx hy r1 r2 t1 t2 t4 ⊢;generalize R (b.take n)=x at r1 t1 t4 ⊢;generalize R (b.drop n)=y at r2 t2 ⊢;generalize R (rt.getD j [])=z at r3 t2 ⊢;generalize R (N b)=u at r4 t4 ⊢;refine qX 1 rfl (ae.call tok rfl rfl rfl rfl cp (qU 5 rfl (qK 4 rfl ?_)));rw[aF (x:=((j+1:Nat):Int) -1) (by omega) (by omega),show ((j+1:Nat):Int) -1=(j:Int) by omega];refine ae.idx tok (aq (rt.getD j [])) rfl rfl rfl rfl (aj j) (hxs j (by omega)) ?_;refine qU 2 rfl (qI (AW.draw aU 17 (by kernel_rfl) ?_));refine qP 3 rfl (af.div tok rfl rfl rfl rfl rfl (by decide) ?_);rw[iF _ (by omega),← hn];refine af.gW tok (a:=b) (b.take n) rfl rfl rfl rfl rfl trivial (aj n) (Nat.zero_le _) (show n≤b.length by omega) rfl ?_;refine af.call tok rfl rfl rfl rfl rfl r1 (qP 3 rfl (af.div tok rfl rfl rfl rfl rfl (by decide) ?_));rw[iF _ (by omega),← hn];refine af.gW tok (a:=b) (b.drop n) rfl rfl rfl rfl rfl (aj n) trivial (show n≤b.length by omega) (ai _) (by show (b.take b.length).drop n=_;rw[List.take_length]) ?_;refine af.call tok rfl rfl rfl rfl rfl r2 (qP 2 rfl (af.call tok rfl rfl rfl rfl rfl r3 (qP 1 rfl ?_)));rw[aF (x:=y*z) (by unfold xq at t2;omega) (by unfold xq at t2;omega)];refine qP 1 rfl (af.nil (qU 1 rfl (ae.nil (AW.et [1,2,5,9,10] ?_))));show AW _ _ _ _ _ _ _ [(1,.d (aq b)),(2,.bx [.sl 1 xs]),(5,.d (dI b.length)),(9,.d (.v (.int .i64 x))),(10,.d (.v (.int .i64 (y*z))))];generalize y*z=yz at t2 ⊢;refine AW.seq (qX 3 rfl ?_);by_cases hxy:x=yz
 · have hor:x=yz∨yz=0:= .inl hxy;rw[if_pos hor,beq_iff_eq.2 hxy];exact qU 4 rfl (ae.nil (AW.aG rfl (qX 2 rfl (qN rfl))))
 rw[beq_eq_false_iff_ne.2 hxy];refine qU 3 rfl ?_;by_cases hy0:yz=0
 · have hor:x=yz∨yz=0:= .inr hy0;rw[if_pos hor,beq_iff_eq.2 hy0];exact qU 1 rfl (ae.nil (AW.aG rfl (qX 2 rfl (qN rfl))))
 have hor: ¬(x=yz∨yz=0):=fun h=>h.elim hxy hy0;rw[if_neg hor,beq_eq_false_iff_ne.2 hy0];refine qU 1 rfl (ae.nil (AW.aD rfl (AW.skip (AW.seq (qX 2 rfl (ae.nil ?_))))));by_cases hx0:x=0
 · rw[if_pos hx0,beq_iff_eq.2 hx0];exact AW.aG rfl (qX 2 rfl (qN rfl))
 rw[if_neg hx0,beq_eq_false_iff_ne.2 hx0];refine AW.aD rfl (AW.skip (AW.seq (AW.draw aU 8 (by kernel_rfl) ?_)));refine qP 5 rfl (af.call tok rfl rfl rfl rfl rfl cn (af.call tok rfl rfl rfl rfl rfl r4 (qP 1 rfl ?_)));rw[aF (x:=x*u) (by unfold xq at t4;omega) (by unfold xq at t4;omega)];exact af.nil (qU 1 rfl (qN rfl))
theorem sV: ∀(l:Nat) {k:Nat} {rt:List NQ} {xs:List D} {a:NQ},ay l a→l≤5→cK rt→l≤rt.length→(∀j,j<rt.length→xs[j]?=some (aq (rt.getD j [])))→aB k a→dm k rt→pG l k→Pure Tryz.prog 67 [.ag [.sl 1 xs],aq a] (dI (rL l rt a))
 | 0,k,rt,xs,a,ha,hl5,hrt,hl,hxs,sa,sr,hok=>uX ha hl5 hrt hl hxs sa sr hok (fun l' h=>by omega) (fun _=> .inl rfl) (fun l' h=>by omega)
 | l+1,k,rt,xs,a,ha,hl5,hrt,hl,hxs,sa,sr,hok=>uX ha hl5 hrt hl hxs sa sr hok (fun l' e b m h1 h2 h3 h4=>by
    obtain rfl:l=l':=by omega
    exact sV l h1 (by omega) hrt (by omega) hxs h2 (sr.mono h3) h4) (uY l rt) (fun l' e b j h1 h2 h3=>by
    obtain rfl:l=l':=by omega
    exact⟨AU h1 h2 hrt (by omega) (by omega) hxs h3 sr hok.1,GC h1 h2 hrt (by omega) h3 sr⟩)
end Lift
namespace Lift
open Go Go.Proofs
theorem KX{v:List NQ}(ro:cK v)(ps: ∀k,k<v.length→ ¬eg k (v.take k) (v.getD k [])<0):pd v:=fun j hj=>by
 have h:=ps j hj
 have e: ∀i,i<j→(v.take j).getD i []=v.getD i []:=fun i hi=>by
  rw[aN,List.getElem?_take_of_lt hi,aN]
 have ro2:cK (v.take j):=fun i hi=>by
  rw[bb] at hi;rw[e i (by omega)];exact ro i (by omega)
 have lt:ay j (v.getD j []):= .inr ⟨j,ai _,ro j hj⟩;rw[dL j lt ro2 (by rw[bb];omega)] at h
 have key: ∀(l:Nat) (a:Cf),l≤j→aY (v.take j) l a=aY v l a∧ ∀b:Cf,mulC (v.take j) l a b=mulC v l a b:=by
  intro l
  induction l with
  | zero=>exact fun a _=>⟨rfl,fun b=>rfl⟩
  | succ l ih =>
    intro a hl;have hm: ∀x y:Cf,mulC (v.take j) l x y=mulC v l x y:=fun x y=>(ih x (by omega)).2 y;have hs: ∀x:Cf,aY (v.take j) l x=aY v l x:=fun x=>(ih x (by omega)).1;refine⟨?_,fun b=>?_⟩
    · unfold aY bo;simp only[hm,hs,e l (by omega)]
    · funext i;show (if i<2^l then mulC (v.take j) l a b i+mulC (v.take j) l (mulC (v.take j) l (bw l a) (bw l b)) (cf ((v.take j).getD l [])) i else mulC (v.take j) l a (bw l b) (i-2^l)+mulC (v.take j) l (bw l a) b (i-2^l))=_;simp only[hm,e l (by omega)];rfl
 rw[(key j _ (ai _)).1] at h;omega
theorem GN{rt:List (List RD)}{i:Nat}(hi:i≤rt.length)(h: ∀j,j<i→wI rt j=0):pd ((rt.take i).map au):=KX (lX hi h) (fun k hk=>by
 rw[fX hi] at hk;have h1:=(iH (h k hk)).2.2;rw[qa hk,← List.map_take,List.take_take,Nat.min_eq_left (by omega)]
 exact h1)
theorem Gk{rt:List (List RD)}{i:Nat}(hi:i≤rt.length)(h: ∀j,j<i→wI rt j=0){a:NQ}(ha:ay i a):rL i ((rt.take i).map au) a=eg i ((rt.take i).map au) a:=by
 rw[m9 i ha (lX hi h) (GN hi h) (by rw[fX hi];exact ai _),dL i ha (lX hi h) (by rw[fX hi];exact ai _)]
theorem Gz{rt:List (List RD)}{k m:Nat}(hw: ∀i,i<k→wN m (rt.getD i []))(hk:k≤rt.length)(h: ∀j,j<k→kQ (rt.getD j [])=true): ∀j,j<((rt.take k).map au).length→(rt.map bE)[j]?=some (aq (((rt.take k).map au).getD j [])):=fun j hj=>by
 rw[fX hk] at hj;have hj2:j<rt.length:=by omega
 rw[qa hj,← lG (hw j hj) (h j hj)];simp[hj2]
theorem qu(rt:List (List RD)){m:Nat}(hw: ∀i,i<rt.length→(rt.getD i []).length=2^i→wN m (rt.getD i []))(h1:1≤m)(hl:rt.length≤1000000)(hll: ∀i,i<rt.length→(rt.getD i []).length≤4398046511104)(hok:rt.length≤5→pG rt.length m):Pure Tryz.prog 37 [wv rt] (dI (dE rt)):=by
 refine qJ 34 Tryz.func37 rfl rfl rfl rfl (by kernel_rfl) (fun B F0 w0=>?_);unfold dE;obtain ⟨E,hE⟩: ∃E,fE (wI rt) (rt.length-0) 0=E:=⟨_,rfl⟩;rw[hE];refine qX 2 rfl (qI (qX 3 rfl ?_));rw[ah];refine qU 1 rfl (ae.nil ?_);by_cases h5:5<rt.length
 · rw[if_pos h5,aO (show (5:Int)<(rt.length:Int) by omega)];exact AW.aG rfl (qX 1 rfl (qN rfl))
 rw[if_neg h5,a9 (show ¬(5:Int)<(rt.length:Int) by omega)];have hok:=hok (by omega);have hm7:=za hok;refine AW.aD rfl (AW.skip (AW.seq (qX 3 rfl ?_)));rw[ah];refine qU 1 rfl (ae.nil ?_);refine AW.block (AW.aJ [1,11,12,13] (fun i:Nat=>[(1,.bx [.sl 1 (rt.map bE)]),(11,.d (.sl 1 (rt.map bE))),(12,.d (dI rt.length)),(13,.d (dI i))]) (fun i=>i≤rt.length∧fE (wI rt) (rt.length-i) i=E∧ ∀j,j<i→wI rt j=0) (fun i=>rt.length-i) 0 rfl ⟨Nat.zero_le _,hE,fun j hj=>by omega⟩ (fun i ⟨hi,hiE,hall⟩=>?_));refine qX 1 rfl ?_;refine qI (AW.cond rfl (fun h=>?_) (fun h=>?_));rotate_left
 · have hii: ¬i<rt.length:=by have:=ar h;omega
   rw[eU hii] at hiE;subst hiE;exact AW.exit (qX 1 rfl (qN rfl))
 have hii:i<rt.length:=by have:=ak h;omega
 have hg:(rt.map bE)[i]?=some (bE (rt.getD i [])):=by simp[hii]
 have hwi:=hw i hii;have hli:=hll i hii;have hmiss:=fun h0:wI rt i=0=>(db hii h0).symm.trans hiE;have hhit:=fun h0:wI rt i≠0=>(eT hii h0).symm.trans hiE;have hp:2^i≤2^5:=Nat.pow_le_pow_right (by decide) (by omega);have hrt:wI rt i=if (rt.getD i []).length≠2^i then 10 else if bY i (rt.getD i [])≠0 then bY i (rt.getD i []) else if eg i ((rt.take i).map au) (au (rt.getD i []))<0 then 3 else 0:=rfl
 refine AW.skip (AW.seq (AW.block (qX 1 rfl (ae.idx tok (bE (rt.getD i [])) rfl rfl rfl rfl (aj i) hg ?_))));refine qU 3 rfl (qI (qX 2 rfl ?_));rw[ah];refine qU 2 rfl ?_;rw[AE (by omega)];refine qU 1 rfl (ae.nil ?_);by_cases e1:(rt.getD i []).length=2^i;rotate_left
 · rw[if_pos e1] at hrt;rw[bne_iff_ne.2 (show (((rt.getD i []).length:Nat):Int)≠((2^i:Nat):Int) by omega)];have:=hhit (by rw[hrt];decide);rw[hrt] at this;subst this;exact AW.aG rfl (qX 1 rfl (qN rfl))
 rw[if_neg (fun h=>h e1)] at hrt;have hwi:=hwi e1;have cn:=oX i (rt.getD i []) (by omega) (fun _=>hwi) (by omega) hli;rw[e1,bne_eq_false_iff_eq.2 rfl];refine AW.aD rfl (AW.skip (AW.seq (qX 2 rfl (ae.call tok rfl rfl rfl rfl cn (qU 1 rfl (qK 2 rfl (ae.nil ?_)))))));by_cases e2:bY i (rt.getD i [])=0;rotate_left
 · rw[if_pos e2] at hrt;have:=hhit (by rw[hrt];exact e2);rw[hrt] at this;subst this;rw[bne_iff_ne.2 (show ((bY i (rt.getD i []):Nat):Int)≠0 by omega)];exact AW.aG rfl (qX 2 rfl (qN rfl))
 rw[if_neg (fun h=>h e2)] at hrt;rw[bne_eq_false_iff_eq.2 (show ((bY i (rt.getD i []):Nat):Int)=0 by omega)];obtain ⟨n1,n2⟩:=qM e2;have hwj:=fun j (hj:j<i)=>hw j (by omega) (iH (hall j hj)).1;have cs:=sV i (k:=m) (rt:=(rt.take i).map au) (xs:=rt.map bE) n1 (by omega) (lX hi hall) (by rw[fX hi];exact ai _) (Gz hwj hi (fun j hj=>(iH (hall j hj)).2.1)) (m7 hwi h1) (tX hwj h1 hi) (vr hok hi);have tr:=od i ((rt.take i).map au) (au (rt.getD i []));rw[Gk hi hall n1,← lG hwi n2] at cs;generalize eg i ((rt.take i).map au) (au (rt.getD i []))=s at cs hrt tr;refine AW.aD rfl (AW.skip (qX 2 rfl (ae.call tok rfl rfl rfl rfl cs (qU 1 rfl (ae.nil ?_)))));by_cases e3:s<0
 · rw[if_pos e3] at hrt;rw[aO e3];have:=hhit (by rw[hrt];decide);rw[hrt] at this;subst this;exact AW.aG rfl (qX 1 rfl (qN rfl))
 rw[if_neg e3] at hrt;rw[a9 e3];refine AW.aD rfl (AW.skip (qT 1 rfl ?_));rw[aF (x:=(i:Int)+1) (by omega) (by omega)];refine qU 1 rfl (ae.nil ?_)
 exact⟨i+1,rfl,⟨hii,hmiss hrt,fun j hj=>by
  by_cases e:j=i
  · rw[e];exact hrt
  · exact hall j (by omega)⟩,by omega⟩
theorem w6(rt l:List (List RD)){m mn:Nat}(hw: ∀i,i<rt.length→(rt.getD i []).length=2^i→wN m (rt.getD i []))(h1:1≤m)(hl:rt.length≤1000000)(hll: ∀i,i<rt.length→(rt.getD i []).length≤4398046511104)(hok:rt.length≤5→pG rt.length m)
  (hlw: ∀i,i<l.length→Dq rt.length (l.getD i [])→wN mn (l.getD i [])) (hl2:l.length≤1000000) (hl3: ∀i,i<l.length→(l.getD i []).length≤4398046511104) (hm:mn≤17300000000000):Pure Tryz.prog 69 [wv rt,.sl 1 (l.map bE)] (dI (ky rt l)):=by
 refine qJ 29 Tryz.func69 rfl rfl rfl rfl (by kernel_rfl) (fun B F0 w0=>?_);have cC:=qu rt hw h1 hl hll hok;unfold ky;obtain ⟨E,hE⟩: ∃E,fE (fun i=>bY rt.length (l.getD i [])) (l.length-0) 0=E:=⟨_,rfl⟩;rw[hE];refine qX 2 rfl (qI (qX 1 rfl (ae.call tok rfl rfl rfl rfl cC (qU 1 rfl (qK 2 rfl (ae.nil ?_))))));by_cases e2:dE rt=0;rotate_left
 · rw[if_pos e2,bne_iff_ne.2 (show ((dE rt:Nat):Int)≠0 by omega)];exact AW.aG rfl (qX 2 rfl (qN rfl))
 have h5:=(rp e2).1;rw[if_neg (fun h=>h e2),bne_eq_false_iff_eq.2 (show ((dE rt:Nat):Int)=0 by omega)];refine AW.aD rfl (AW.skip (AW.seq (qX 2 rfl ?_)));rw[ah];refine qU 1 rfl (ae.nil ?_);refine AW.block (AW.aJ [2,14,15,16] (fun i:Nat=>[(2,.bx [.sl 1 (rt.map bE)]),(14,.d (.sl 1 (l.map bE))),(15,.d (dI l.length)),(16,.d (dI i))]) (fun i=>i≤l.length∧fE (fun i=>bY rt.length (l.getD i [])) (l.length-i) i=E) (fun i=>l.length-i) 0 rfl ⟨Nat.zero_le _,hE⟩ (fun i ⟨hi,hiE⟩=>?_));refine qX 1 rfl ?_;refine qI (AW.cond rfl (fun h=>?_) (fun h=>?_));rotate_left
 · have hii: ¬i<l.length:=by have:=ar h;omega
   rw[eU hii] at hiE;subst hiE;exact AW.exit (qX 1 rfl (qN rfl))
 have hii:i<l.length:=by have:=ak h;omega
 have hg:(l.map bE)[i]?=some (bE (l.getD i [])):=by simp[hii]
 have hmiss:=fun h0:bY rt.length (l.getD i [])=0=>(db (f:=fun i=>bY rt.length (l.getD i [])) hii h0).symm.trans hiE;have hhit:=fun h0:bY rt.length (l.getD i [])≠0=>(eT (f:=fun i=>bY rt.length (l.getD i [])) hii h0).symm.trans hiE;have cn:=oX rt.length (l.getD i []) h5 (hlw i hii) hm (hl3 i hii);refine AW.skip (AW.seq (AW.block (AW.seq (AW.region (ae.idx tok (bE (l.getD i [])) rfl rfl rfl rfl (aj i) hg ?_)))));refine qU 2 rfl (qK 3 rfl ?_);rw[ah];refine qU 1 rfl (ae.call tok rfl rfl rfl rfl cn (qU 1 rfl (ae.nil ?_)));generalize bY rt.length (l.getD i [])=v at hmiss hhit;refine qX 2 rfl (ae.nil ?_);by_cases hv:v=0;rotate_left
 · have:=hhit hv;subst this;rw[bne_iff_ne.2 (show ((v:Nat):Int)≠0 by omega)];exact AW.aG rfl (qX 2 rfl (qN rfl))
 rw[bne_eq_false_iff_eq.2 (show ((v:Nat):Int)=0 by omega)];refine AW.aD rfl (AW.skip (qT 1 rfl ?_));rw[aF (x:=(i:Int)+1) (by omega) (by omega)];refine qU 1 rfl (ae.nil ?_);exact⟨i+1,rfl,⟨hii,hmiss hv⟩,by omega⟩
theorem AX{m:Nat}{rt:List (List RD)}{a:List RD}(T:pX m rt)(A:kD m rt a):Pure Tryz.prog 69 [wv rt,.sl 1 [bE a]] (dI (ky rt [a])):=by
 have hm:=T.m2
 have h0: ∀i,i<[a].length→i=0:=fun i hi=>by
  have:i<1:=hi;omega
 obtain ⟨m0,t1,t2,tw,tk⟩:=T.t;exact w6 rt [a] tw t1 T.l T.ll tk (fun i hi=>by rw[h0 i hi];exact A.w) (show 1≤1000000 by decide) (fun i hi=>by rw[h0 i hi];exact A.l) (by omega)
end Lift
namespace Lift
open Go Go.Proofs
theorem fM(i:Int)(n:Nat):Pure Tryz.prog 64 [dI i,dI n] (dB (jm i n)):=by
 refine qJ 12 Tryz.func64 rfl rfl rfl rfl (by kernel_rfl) (fun B F0 w0=>?_);refine qX 1 rfl (qK 2 rfl ?_);refine ae.split (t:=6) rfl (fun h=>?_) (fun h=>?_)
 · have h1:=ak h;refine qU 6 rfl (ae.nil ?_);rw[show jm i n=decide (i<n) by unfold jm;rw[decide_eq_decide];omega];exact AW.ret rfl
 · have h1:=ar h;refine qU 6 rfl (ae.nil ?_);rw[show jm i n=false by unfold jm;rw[decide_eq_false_iff_not];omega];exact AW.ret rfl
set_option maxHeartbeats 1600000 in
theorem wY(b:Body){K:Nat}(hb:b.ok K)(hK:K≤50000000):Pure Tryz.prog 63 [b.D] (dI (rQ b.pts:Nat)):=by
 refine qJ 50 Tryz.func63 rfl rfl rfl rfl (by kernel_rfl) (fun B F0 w0=>?_);obtain ⟨bn,ps⟩:=b;obtain ⟨_,hn,hm⟩:=hb;simp only[] at hn hm;unfold big at hn;show AW _ _ _ _ _ _ _ (eG 0 [D.ag [dS bn,pY ps]]);simp only[];refine qX 2 rfl (qI (qX 4 rfl ?_));rw[ah];refine ae.nil (AW.cond rfl (fun h=>?_) (fun h=>?_))
 · have h8:8<ps.length:=by have:=ak h;omega
   rw[rQ,if_pos h8];exact qX 1 rfl (qN rfl)
 have h8: ¬8<ps.length:=by have:=ar h;omega
 rw[rQ,if_neg h8];refine AW.skip (AW.seq (qX 1 rfl (ae.nil (AW.block ?_))))
 refine AW.aJ [1,3] (fun i:Nat=>[(1,.bx [dS bn,pY ps]),(3,.d (dI i))])
  (fun i=>i≤ps.length∧fE (ue ps) ps.length 0=fE (ue ps) (ps.length-i) i) (fun i=>ps.length-i) 0 rfl ⟨Nat.zero_le _,rfl⟩ (fun i ⟨hi,hE⟩=>?_)
 refine AW.seq (qX 5 rfl ?_);rw[ah];refine ae.nil (AW.cond rfl (fun h=>?_) (fun h=>?_))
 · have hin:i<ps.length:=by have:=ak h;omega
   obtain ⟨mok1,mok2,mok3⟩:=hm i;have hbE:ue ps i≠0→fE (ue ps) ps.length 0=ue ps i:=fun h0=>hE.trans (eT hin h0);have hbM:ue ps i=0→fE (ue ps) ps.length 0=fE (ue ps) (ps.length-(i+1)) (i+1):=fun h0=>hE.trans (db hin h0);generalize fE (ue ps) ps.length 0=E at *;obtain ⟨m,hme⟩: ∃m,m=ps.getD i default:=⟨_,rfl⟩;rw[← hme] at mok1 mok2 mok3;unfold big at mok1;have hdup:C' ps i=fo (fun k=>decide ((ps.getD k default).nm=m.nm)) i 0:=by rw[hme];rfl
   have hbd:ue ps i=if dw m.nm=false then 5 else if C' ps i=true then 6 else if m.x.okB=true∧m.y.okB=true then 0 else 3:=by rw[hme];rfl
   refine AW.skip (AW.seq (AW.block (qX 3 rfl ?_)));refine ae.idx tok m.D rfl rfl rfl rfl (aj i) (by rw[hme];exact getM Mark.D hin) ?_;refine qU 3 rfl (qI (qX 2 rfl (ae.call tok rfl rfl rfl rfl (jh m.nm mok1) ?_)));refine qU 1 rfl (ae.nil (AW.cond rfl (fun h=>?_) (fun h=>?_)))
   · have hnm:dw m.nm=false:=kq h;have h5:ue ps i=5:=by rw[hbd,hnm];rfl
     rw[show E=5 by rw[hbE (by omega),h5]];exact qX 1 rfl (qN rfl)
   have hnm:dw m.nm=true:=by simpa using h
   rw[hnm,if_neg (by decide)] at hbd;refine AW.skip (AW.seq (qX 1 rfl (ae.nil (AW.block ?_))))
   refine AW.aJ [1,3,4,5] (fun k:Nat=>[(1,.bx [dS bn,pY ps]),(3,.d (dI i)),(4,.bx [dS m.nm,dB m.x.g,Wd m.x.n,Wd m.x.d,dB m.y.g,Wd m.y.n,Wd m.y.d]),(5,.d (dI k))])
    (fun k=>k≤i∧C' ps i=fo (fun k=>decide ((ps.getD k default).nm=m.nm)) (i-k) k) (fun k=>i-k) 0 rfl ⟨Nat.zero_le _,hdup⟩ (fun k ⟨hk,hD⟩=>?_)
   refine AW.seq (qX 3 rfl (ae.nil (AW.cond rfl (fun h=>?_) (fun h=>?_))))
   · have hki:k<i:=by have:=ak h;omega
     refine AW.skip (AW.seq (AW.block (AW.seq (AW.draw aU 9 (by kernel_rfl) ?_))));refine qP 3 rfl (af.idx tok (ps.getD k default).D rfl rfl rfl rfl rfl (aj k) (getM Mark.D (by omega)) ?_);refine qP 5 rfl ?_;rw[lZ];refine af.nil (ae.nil (AW.cond rfl (fun h=>?_) (fun h=>?_)))
     · have h6:ue ps i=6:=by rw[hbd,hD.trans (fJ hki h)];rfl
       rw[show E=6 by rw[hbE (by omega),h6]];exact qX 1 rfl (qN rfl)
     · refine AW.skip (qT 3 rfl ?_);rw[aF (x:=(k:Int)+1) (by omega) (by omega)];refine ae.nil ?_;exact⟨k+1,rfl,⟨hki,hD.trans (eJ hki h)⟩,by omega⟩
   · have hki: ¬k<i:=by have:=ar h;omega
     rw[hD.trans (fK hki),if_neg (by decide)] at hbd;refine AW.exit ?_;refine AW.cut [1,3,49] (fun _:Unit=>[(1,.bx [dS bn,pY ps]),(3,.d (dI i)),(49,.d (dB (!decide (m.x.okB=true∧m.y.okB=true))))]) (fun _=>True) ?_ (fun _ _=>?_)
     · refine qT 2 rfl (ae.call tok rfl rfl rfl rfl (jQ m.x mok2 (by omega)) ?_);refine ae.split (t:=42) rfl (fun h=>?_) (fun h=>?_)
       · refine qU 4 rfl (ae.call tok rfl rfl rfl rfl (jQ m.y mok3 (by omega)) ?_);refine qU 2 rfl (ae.nil ?_);exact⟨(),by rw[show decide (m.x.okB=true∧m.y.okB=true)=m.y.okB by simp[h]];rfl,trivial⟩
       · refine qU 7 rfl (ae.nil ?_);exact⟨(),by rw[show decide (m.x.okB=true∧m.y.okB=true)=false by simp[h]];rfl,trivial⟩
     refine AW.cond rfl (fun h=>?_) (fun h=>?_)
     · have hno: ¬(m.x.okB=true∧m.y.okB=true):=fun e=>by rw[aO e] at h;cases h
       have h3:ue ps i=3:=by rw[hbd,if_neg hno]
       rw[show E=3 by rw[hbE (by omega),h3]];exact qX 1 rfl (qN rfl)
     · have hyes:m.x.okB=true∧m.y.okB=true:=by simpa using h
       rw[if_pos hyes] at hbd;refine AW.skip (qT 3 rfl ?_);rw[aF (x:=(i:Int)+1) (by omega) (by omega)];refine ae.nil ?_;exact⟨i+1,rfl,⟨hin,hbM hbd⟩,by omega⟩
 · have hin: ¬i<ps.length:=by have:=ar h;omega
   rw[hE,eU hin];exact AW.exit (qX 1 rfl (qN rfl))
set_option maxHeartbeats 1600000 in
theorem w5(l:Lkg){K:Nat}(hl:l.ok K)(hK:K≤50000000):Pure Tryz.prog 34 [l.D] (dI (bP l.bodies:Nat)):=by
 refine qJ 48 Tryz.func34 rfl rfl rfl rfl (by kernel_rfl) (fun B F0 w0=>?_);obtain ⟨ln,bs,js,ds⟩:=l;have hb:=hl.b;have hn:=hl.nb;simp only[] at hb hn ⊢;unfold big at hn;show AW _ _ _ _ _ _ _ (eG 0 [D.ag [dS ln,aK bs,aH js,aI ds]]);refine qX 2 rfl (qI (qX 1 rfl (ae.nil (AW.block ?_))))
 refine AW.aJ [1,3] (fun i:Nat=>[(1,.bx [dS ln,aK bs,aH js,aI ds]),(3,.d (dI i))])
  (fun i=>i≤bs.length∧bP bs=fE (fU bs) (bs.length-i) i) (fun i=>bs.length-i) 0 rfl ⟨Nat.zero_le _,rfl⟩ (fun i ⟨hi,hE⟩=>?_)
 refine AW.seq (qX 5 rfl ?_);rw[ah];refine ae.nil (AW.cond rfl (fun h=>?_) (fun h=>?_))
 · have hin:i<bs.length:=by have:=ak h;omega
   have hbi:=hb i;have hbE:fU bs i≠0→bP bs=fU bs i:=fun h0=>hE.trans (eT hin h0);have hbM:fU bs i=0→bP bs=fE (fU bs) (bs.length-(i+1)) (i+1):=fun h0=>hE.trans (db hin h0);generalize bP bs=E at *;obtain ⟨b,hbe⟩: ∃b,b=bs.getD i default:=⟨_,rfl⟩;rw[← hbe] at hbi;have bok:=hbi.1;unfold big at bok;have hdup:Dd bs i=fo (fun k=>decide ((bs.getD k default).nm=b.nm)) i 0:=by rw[hbe];rfl
   have hbd:fU bs i=if dw b.nm=false then 5 else if Dd bs i=true then 6 else rQ b.pts:=by rw[hbe];rfl
   refine AW.skip (AW.seq (AW.block (AW.seq (qX 3 rfl ?_))));refine ae.idx tok b.D rfl rfl rfl rfl (aj i) (by rw[hbe];exact getM Body.D hin) ?_;refine qU 2 rfl (ae.call tok rfl rfl rfl rfl (jh b.nm bok) ?_);refine qU 1 rfl (ae.nil (AW.cond rfl (fun h=>?_) (fun h=>?_)))
   · have hnm:dw b.nm=false:=kq h;have h5:fU bs i=5:=by rw[hbd,hnm];rfl
     rw[show E=5 by rw[hbE (by omega),h5]];exact qX 1 rfl (qN rfl)
   have hnm:dw b.nm=true:=by simpa using h
   rw[hnm,if_neg (by decide)] at hbd;refine AW.skip (AW.seq (qX 1 rfl (ae.nil (AW.block ?_))))
   refine AW.aJ [1,3,4] (fun k:Nat=>[(1,.bx [dS ln,aK bs,aH js,aI ds]),(3,.d (dI i)),(4,.d (dI k))])
    (fun k=>k≤i∧Dd bs i=fo (fun k=>decide ((bs.getD k default).nm=b.nm)) (i-k) k) (fun k=>i-k) 0 rfl ⟨Nat.zero_le _,hdup⟩ (fun k ⟨hk,hD⟩=>?_)
   refine AW.seq (qX 3 rfl (ae.nil (AW.cond rfl (fun h=>?_) (fun h=>?_))))
   · have hki:k<i:=by have:=ak h;omega
     refine AW.skip (AW.seq (AW.block (AW.seq (AW.draw aU 13 (by kernel_rfl) ?_))));refine qP 3 rfl (af.idx tok (bs.getD k default).D rfl rfl rfl rfl rfl (aj k) (getM Body.D (by omega)) ?_);refine qP 5 rfl ?_;refine af.idx tok b.D rfl rfl rfl rfl rfl (aj i) (by rw[hbe];exact getM Body.D hin) ?_;refine qP 3 rfl ?_;rw[lZ];refine af.nil (ae.nil (AW.cond rfl (fun h=>?_) (fun h=>?_)))
     · have h6:fU bs i=6:=by rw[hbd,hD.trans (fJ hki h)];rfl
       rw[show E=6 by rw[hbE (by omega),h6]];exact qX 1 rfl (qN rfl)
     · refine AW.skip (qT 3 rfl ?_);rw[aF (x:=(k:Int)+1) (by omega) (by omega)];refine ae.nil ?_;exact⟨k+1,rfl,⟨hki,hD.trans (eJ hki h)⟩,by omega⟩
   · have hki: ¬k<i:=by have:=ar h;omega
     rw[hD.trans (fK hki),if_neg (by decide)] at hbd;refine AW.exit (qX 3 rfl ?_);refine ae.idx tok b.D rfl rfl rfl rfl (aj i) (by rw[hbe];exact getM Body.D hin) ?_;refine qU 1 rfl (ae.call tok rfl rfl rfl rfl (wY b hbi hK) ?_);refine qU 1 rfl (qK 2 rfl (ae.nil (AW.cond rfl (fun h=>?_) (fun h=>?_))))
     · have h0:rQ b.pts≠0:=by rintro e;rw[e] at h;cases h
       rw[show E=rQ b.pts by rw[hbE (by rw[hbd];exact h0),hbd]];exact qX 2 rfl (qN rfl)
     · have h0:rQ b.pts=0:=by
        have:((rQ b.pts:Nat):Int)=0:=by simpa using h
        omega
       refine AW.skip (qT 3 rfl ?_);rw[aF (x:=(i:Int)+1) (by omega) (by omega)];refine ae.nil ?_;exact⟨i+1,rfl,⟨hin,hbM (by rw[hbd];exact h0)⟩,by omega⟩
 · have hin: ¬i<bs.length:=by have:=ar h;omega
   rw[hE,eU hin];exact AW.exit (qX 1 rfl (qN rfl))
theorem AT(p q:Mark){K:Nat}(hp:p.ok K)(hq:q.ok K)(hK:K≤5000000):Pure Tryz.prog 65 [p.D,q.D] (dB (lA p q)):=by
 refine qJ 19 Tryz.func65 rfl rfl rfl rfl (by kernel_rfl) (fun B F0 w0=>?_);refine qX 3 rfl (qK 4 rfl (ae.call tok rfl rfl rfl rfl (vd p.x q.x hp.2.1 hq.2.1 (by omega)) ?_));refine qU 1 rfl ?_;rw[oD];refine ae.split (t:=10) rfl (fun h=>?_) (fun h=>?_)
 · have h1:=ak h;refine qU 5 rfl (ae.call tok rfl rfl rfl rfl (vd p.y q.y hp.2.2 hq.2.2 (by omega)) ?_);refine qU 3 rfl ?_;rw[oD];refine ae.nil ?_;rw[show lA p q=decide (p.y.val=q.y.val) by unfold lA;simp[h1]];exact AW.ret rfl
 · have h1:=ar h;refine qU 9 rfl (ae.nil ?_);rw[show lA p q=false by unfold lA;simp[h1]];exact AW.ret rfl
end Lift
namespace Lift
open Go Go.Proofs
set_option maxHeartbeats 1600000 in
theorem yU(l:Lkg)(i:Nat){K:Nat}(hl:l.ok K)(hK:K≤5000000)(hin:i<l.joints.length):Pure Tryz.prog 35 [l.D,dI i] (dI (eQ l.bodies l.joints i:Nat)):=by
 refine qJ 112 Tryz.func35 rfl rfl rfl rfl (by kernel_rfl) (fun B F0 w0=>?_);obtain ⟨ln,bs,js,ds⟩:=l;have hb:=hl.b;have jok:=hl.j i;have hn:=hl.nj;simp only[] at hb jok hn hin ⊢;unfold big at jok hn;show AW _ _ _ _ _ _ _ (eG 0 [D.ag [dS ln,aK bs,aH js,aI ds],dI i]);obtain ⟨j,hje⟩: ∃j,j=js.getD i default:=⟨_,rfl⟩;rw[← hje] at jok;have hdup:Da js i=fo (fun k=>decide ((js.getD k default).nm=j.nm)) i 0:=by rw[hje];rfl
 have hbd:eQ bs js i=if dw j.nm=false then 5 else if Da js i=true then 6 else jE bs j:=by rw[hje];rfl
 generalize eQ bs js i=E at *;refine qX 2 rfl (qK 3 rfl ?_);refine ae.idx tok j.D rfl rfl rfl rfl (aj i) (by rw[hje];exact getM cG.D hin) ?_;refine qU 3 rfl (ae.nil ?_);obtain ⟨nm,kind,a,pt,b,on,to⟩:=j;simp only[] at jok hdup hbd
 have hj:jE bs ⟨nm,kind,a,pt,b,on,to⟩=if kind≠0∧kind≠1 then 7 else if (jm a bs.length&&jm b bs.length)=false then 9 else if a=b then 13 else
  if (jm pt (bs.getD a.toNat default).pts.length&&jm on (bs.getD b.toNat default).pts.length)=false then 9 else
  if kind=0 then (if to=0 then 0 else 2) else if jm to (bs.getD b.toNat default).pts.length=false then 9 else
  if lA ((bs.getD b.toNat default).pts.getD on.toNat default) ((bs.getD b.toNat default).pts.getD to.toNat default)=true then 8 else 0:=rfl
 generalize jE bs ⟨nm,kind,a,pt,b,on,to⟩=E2 at *;refine AW.seq (qX 2 rfl (ae.call tok rfl rfl rfl rfl (jh nm jok) ?_));refine qU 1 rfl (ae.nil (AW.cond rfl (fun h=>?_) (fun h=>?_)))
 · rw[if_pos (kq h)] at hbd;rw[hbd];exact qX 1 rfl (qN rfl)
 rw[if_neg (by simpa using h)] at hbd;refine AW.skip (AW.seq (qX 1 rfl (ae.nil (AW.block ?_))))
 refine AW.aJ [1,2,5,6] (fun k:Nat=>[(1,.d (dI i)),(2,.bx [dS ln,aK bs,aH js,aI ds]),(5,.bx [dS nm,dI kind,dI a,dI pt,dI b,dI on,dI to]),(6,.d (dI k))])
  (fun k=>k≤i∧Da js i=fo (fun k=>decide ((js.getD k default).nm=nm)) (i-k) k) (fun k=>i-k) 0 rfl ⟨Nat.zero_le _,hdup⟩ (fun k ⟨hk,hD⟩=>?_)
 refine AW.seq (qX 3 rfl (ae.nil (AW.cond rfl (fun h=>?_) (fun h=>?_))))
 · have hki:k<i:=by have:=ak h;omega
   refine AW.skip (AW.seq (AW.block (AW.seq (AW.draw aU 9 (by kernel_rfl) ?_))));refine qP 3 rfl (af.idx tok (js.getD k default).D rfl rfl rfl rfl rfl (aj k) (getM cG.D (by omega)) ?_);refine qP 5 rfl ?_;rw[lZ];refine af.nil (ae.nil (AW.cond rfl (fun h=>?_) (fun h=>?_)))
   · rw[hD.trans (fJ hki h)] at hbd;rw[show E=6 from hbd];exact qX 1 rfl (qN rfl)
   · refine AW.skip (qT 3 rfl ?_);rw[aF (x:=(k:Int)+1) (by omega) (by omega)];refine ae.nil ?_;exact⟨k+1,rfl,⟨hki,hD.trans (eJ hki h)⟩,by omega⟩
 have hki: ¬k<i:=by have:=ar h;omega
 rw[hD.trans (fK hki),if_neg (by decide)] at hbd;rw[hbd];clear hbd;refine AW.exit (AW.seq ?_);refine AW.cut [2,5,39] (fun _:Unit=>[(2,.bx [dS ln,aK bs,aH js,aI ds]),(5,.bx [dS nm,dI kind,dI a,dI pt,dI b,dI on,dI to]),(39,.d (dB (decide (kind≠0∧kind≠1))))]) (fun _=>True) ?_ (fun _ _=>?_)
 · refine qT 3 rfl ?_;refine ae.split (t:=34) rfl (fun h=>?_) (fun h=>?_)
   · have h1:kind≠0:=by simpa using h
     refine qU 5 rfl (ae.nil ?_);exact⟨(),by rw[show decide (kind≠0∧kind≠1)=(kind != 1) by rw[Bool.eq_iff_iff];simp[h1]];rfl,trivial⟩
   · have h1:kind=0:=by simpa using h
     refine qU 5 rfl (ae.nil ?_);exact⟨(),by rw[show decide (kind≠0∧kind≠1)=false by simp[h1]];rfl,trivial⟩
 refine AW.cond rfl (fun h=>?_) (fun h=>?_)
 · rw[if_pos (ak h)] at hj;rw[hj];exact qX 1 rfl (qN rfl)
 rw[if_neg (ar h)] at hj;refine AW.skip (AW.seq ?_);refine AW.cut [2,5,55] (fun _:Unit=>[(2,.bx [dS ln,aK bs,aH js,aI ds]),(5,.bx [dS nm,dI kind,dI a,dI pt,dI b,dI on,dI to]),(55,.d (dB (!(jm a bs.length&&jm b bs.length))))]) (fun _=>True) ?_ (fun _ _=>?_)
 · refine qT 5 rfl ?_;rw[ah];refine ae.call tok rfl rfl rfl rfl (fM a bs.length) ?_;refine ae.split (t:=45) rfl (fun h=>?_) (fun h=>?_)
   · refine qU 7 rfl ?_;rw[ah];refine ae.call tok rfl rfl rfl rfl (fM b bs.length) ?_;refine qU 2 rfl (ae.nil ?_);exact⟨(),by rw[h];rfl,trivial⟩
   · refine qU 10 rfl (ae.nil ?_);exact⟨(),by rw[h];rfl,trivial⟩
 refine AW.cond rfl (fun h=>?_) (fun h=>?_)
 · rw[if_pos (kq h)] at hj;rw[hj];exact qX 1 rfl (qN rfl)
 have hab:jm a bs.length=true∧jm b bs.length=true:=by simpa using h
 rw[if_neg (by simp[hab])] at hj;obtain ⟨ha0,ha1⟩:=tc hab.1;obtain ⟨hb0,hb1⟩:=tc hab.2;obtain ⟨Bb,hBb⟩: ∃x,x=bs.getD b.toNat default:=⟨_,rfl⟩;obtain ⟨Ba,hBa⟩: ∃x,x=bs.getD a.toNat default:=⟨_,rfl⟩;have okb:=hb b.toNat;rw[← hBb] at hj okb;rw[← hBa] at hj;refine AW.skip (AW.seq (qX 5 rfl (ae.nil (AW.cond rfl (fun h=>?_) (fun h=>?_)))))
 · rw[if_pos (by simpa using h)] at hj;rw[hj];exact qX 1 rfl (qN rfl)
 rw[if_neg (by simpa using h)] at hj;refine AW.skip (AW.seq (AW.draw aU 15 (by kernel_rfl) ?_));refine qP 4 rfl ?_;refine af.idx tok Ba.D rfl rfl rfl rfl rfl ha0 (by rw[hBa];exact getM Body.D ha1) ?_;refine qP 6 rfl ?_;refine af.idx tok Bb.D rfl rfl rfl rfl rfl hb0 (by rw[hBb];exact getM Body.D hb1) ?_;refine qP 3 rfl (af.nil (qU 1 rfl (qI ?_)));refine AW.cut [5,8,88] (fun _:Unit=>[(5,.bx [dS nm,dI kind,dI a,dI pt,dI b,dI on,dI to]),(8,.d (pY Bb.pts)),(88,.d (dB (!(jm pt Ba.pts.length&&jm on Bb.pts.length))))]) (fun _=>True) ?_ (fun _ _=>?_)
 · refine qT 4 rfl ?_;rw[ah];refine ae.call tok rfl rfl rfl rfl (fM pt Ba.pts.length) ?_;refine ae.split (t:=79) rfl (fun h=>?_) (fun h=>?_)
   · refine qU 6 rfl ?_;rw[ah];refine ae.call tok rfl rfl rfl rfl (fM on Bb.pts.length) ?_;refine qU 2 rfl (ae.nil ?_);exact⟨(),by rw[h];rfl,trivial⟩
   · refine qU 9 rfl (ae.nil ?_);exact⟨(),by rw[h];rfl,trivial⟩
 refine AW.cond rfl (fun h=>?_) (fun h=>?_)
 · rw[if_pos (kq h)] at hj;rw[hj];exact qX 1 rfl (qN rfl)
 have hpo:jm pt Ba.pts.length=true∧jm on Bb.pts.length=true:=by simpa using h
 rw[if_neg (by simp[hpo])] at hj;obtain ⟨ho0,ho1⟩:=tc hpo.2;refine AW.skip (AW.seq (qX 3 rfl (ae.nil (AW.cond rfl (fun h=>?_) (fun h=>?_)))))
 · rw[if_pos (by simpa using h)] at hj;refine AW.seq (qX 3 rfl (ae.nil (AW.cond rfl (fun h=>?_) (fun h=>?_))))
   · rw[if_neg (by simpa using h)] at hj;rw[hj];exact qX 1 rfl (qN rfl)
   · rw[if_pos (by simpa using h)] at hj;rw[hj];exact AW.skip (qX 1 rfl (qN rfl))
 rw[if_neg (by simpa using h)] at hj;refine AW.skip (AW.seq (qX 4 rfl ?_));rw[ah];refine ae.call tok rfl rfl rfl rfl (fM to Bb.pts.length) ?_;refine qU 1 rfl (ae.nil (AW.cond rfl (fun h=>?_) (fun h=>?_)))
 · rw[if_pos (kq h)] at hj;rw[hj];exact qX 1 rfl (qN rfl)
 have hto:jm to Bb.pts.length=true:=by simpa using h
 rw[if_neg (by simp[hto])] at hj;obtain ⟨ht0,ht1⟩:=tc hto;obtain ⟨p,hp⟩: ∃x,x=Bb.pts.getD on.toNat default:=⟨_,rfl⟩;obtain ⟨q,hq⟩: ∃x,x=Bb.pts.getD to.toNat default:=⟨_,rfl⟩;have okp:=okb.2.2 on.toNat;have okq:=okb.2.2 to.toNat;rw[← hp] at hj okp;rw[← hq] at hj okq;refine AW.skip (AW.seq (AW.seq (AW.draw aU 11 (by kernel_rfl) ?_)));refine qP 3 rfl ?_;refine af.idx tok p.D rfl rfl rfl rfl rfl ho0 (by rw[hp];exact getM Mark.D ho1) ?_;refine qP 4 rfl ?_;refine af.idx tok q.D rfl rfl rfl rfl rfl ht0 (by rw[hq];exact getM Mark.D ht1) ?_;refine qP 1 rfl (af.call tok rfl rfl rfl rfl rfl (AT p q okp okq hK) ?_);refine af.nil (ae.nil (AW.cond rfl (fun h=>?_) (fun h=>?_)))
 · rw[if_pos h] at hj;rw[hj];exact qX 1 rfl (qN rfl)
 · rw[if_neg (by rw[h];decide)] at hj;rw[hj];exact AW.skip (qX 1 rfl (qN rfl))
set_option maxHeartbeats 1600000 in
theorem wZ(l:Lkg)(i:Nat){K:Nat}(hl:l.ok K)(hin:i<l.drivers.length):Pure Tryz.prog 36 [l.D,dI i] (dI (dR l.bodies.length l.drivers i:Nat)):=by
 refine qJ 55 Tryz.func36 rfl rfl rfl rfl (by kernel_rfl) (fun B F0 w0=>?_);obtain ⟨ln,bs,js,ds⟩:=l;have dok:=hl.d i;have hn:=hl.nd;simp only[] at dok hn hin ⊢;unfold big at dok hn;show AW _ _ _ _ _ _ _ (eG 0 [D.ag [dS ln,aK bs,aH js,aI ds],dI i]);obtain ⟨d,hde⟩: ∃d,d=ds.getD i default:=⟨_,rfl⟩;rw[← hde] at dok;have hdup:Db ds i=fo (fun k=>decide ((ds.getD k default).nm=d.nm)) i 0:=by rw[hde];rfl
 have hdup2:C9 ds i=fo (fun k=>decide ((ds.getD k default).body=d.body)) i 0:=by rw[hde];rfl
 have hbd:dR bs.length ds i=if dw d.nm=false then 5 else if Db ds i=true then 6 else if jm d.body bs.length=false then 9 else if d.body=0 then 7 else if C9 ds i=true then 6 else 0:=by rw[hde];rfl
 generalize dR bs.length ds i=E at *;refine qX 2 rfl (qK 3 rfl ?_);refine ae.idx tok d.D rfl rfl rfl rfl (aj i) (by rw[hde];exact getM Driver.D hin) ?_;refine qU 3 rfl (qI (qX 2 rfl (ae.call tok rfl rfl rfl rfl (jh d.nm dok) ?_)));refine qU 1 rfl (ae.nil (AW.cond rfl (fun h=>?_) (fun h=>?_)))
 · rw[if_pos (kq h)] at hbd;rw[hbd];exact qX 1 rfl (qN rfl)
 rw[if_neg (by simpa using h)] at hbd;refine AW.skip (AW.seq (qX 1 rfl (ae.nil (AW.block ?_))))
 refine AW.aJ [1,2,5,6] (fun k:Nat=>[(1,.d (dI i)),(2,.bx [dS ln,aK bs,aH js,aI ds]),(5,.bx [dS d.nm,dI d.body]),(6,.d (dI k))])
  (fun k=>k≤i∧Db ds i=fo (fun k=>decide ((ds.getD k default).nm=d.nm)) (i-k) k) (fun k=>i-k) 0 rfl ⟨Nat.zero_le _,hdup⟩ (fun k ⟨hk,hD⟩=>?_)
 refine AW.seq (qX 3 rfl (ae.nil (AW.cond rfl (fun h=>?_) (fun h=>?_))))
 · have hki:k<i:=by have:=ak h;omega
   refine AW.skip (AW.seq (AW.block (AW.seq (AW.draw aU 9 (by kernel_rfl) ?_))));refine qP 3 rfl (af.idx tok (ds.getD k default).D rfl rfl rfl rfl rfl (aj k) (getM Driver.D (by omega)) ?_);refine qP 5 rfl ?_;rw[lZ];refine af.nil (ae.nil (AW.cond rfl (fun h=>?_) (fun h=>?_)))
   · rw[hD.trans (fJ hki h)] at hbd;rw[show E=6 from hbd];exact qX 1 rfl (qN rfl)
   · refine AW.skip (qT 3 rfl ?_);rw[aF (x:=(k:Int)+1) (by omega) (by omega)];refine ae.nil ?_;exact⟨k+1,rfl,⟨hki,hD.trans (eJ hki h)⟩,by omega⟩
 have hki: ¬k<i:=by have:=ar h;omega
 rw[hD.trans (fK hki),if_neg (by decide)] at hbd;refine AW.exit (AW.seq (qX 5 rfl ?_));rw[ah];refine ae.call tok rfl rfl rfl rfl (fM d.body bs.length) ?_;refine qU 1 rfl (ae.nil (AW.cond rfl (fun h=>?_) (fun h=>?_)))
 · rw[if_pos (kq h)] at hbd;rw[hbd];exact qX 1 rfl (qN rfl)
 have hinb:jm d.body bs.length=true:=by simpa using h
 rw[if_neg (by simp[hinb])] at hbd;refine AW.skip (AW.seq (qX 3 rfl (ae.nil (AW.cond rfl (fun h=>?_) (fun h=>?_)))))
 · rw[if_pos (by simpa using h)] at hbd;rw[hbd];exact qX 1 rfl (qN rfl)
 rw[if_neg (by simpa using h)] at hbd;refine AW.skip (AW.seq (qX 1 rfl (ae.nil (AW.block ?_))))
 refine AW.aJ [1,2,5,7] (fun k:Nat=>[(1,.d (dI i)),(2,.bx [dS ln,aK bs,aH js,aI ds]),(5,.bx [dS d.nm,dI d.body]),(7,.d (dI k))])
  (fun k=>k≤i∧C9 ds i=fo (fun k=>decide ((ds.getD k default).body=d.body)) (i-k) k) (fun k=>i-k) 0 rfl ⟨Nat.zero_le _,hdup2⟩ (fun k ⟨hk,hD⟩=>?_)
 refine AW.seq (qX 3 rfl (ae.nil (AW.cond rfl (fun h=>?_) (fun h=>?_))))
 · have hki:k<i:=by have:=ak h;omega
   refine AW.skip (AW.seq (AW.block (AW.seq (AW.draw aU 9 (by kernel_rfl) ?_))));refine qP 3 rfl (af.idx tok (ds.getD k default).D rfl rfl rfl rfl rfl (aj k) (getM Driver.D (by omega)) ?_);refine qP 5 rfl (af.nil (ae.nil (AW.cond rfl (fun h=>?_) (fun h=>?_))))
   · have h':decide ((ds.getD k default).body=d.body)=true:=by simpa using h
     rw[hD.trans (fJ hki h')] at hbd;rw[show E=6 from hbd];exact qX 1 rfl (qN rfl)
   · have h':decide ((ds.getD k default).body=d.body)=false:=by simpa using h
     refine AW.skip (qT 3 rfl ?_);rw[aF (x:=(k:Int)+1) (by omega) (by omega)];refine ae.nil ?_;exact⟨k+1,rfl,⟨hki,hD.trans (eJ hki h')⟩,by omega⟩
 have hki: ¬k<i:=by have:=ar h;omega
 rw[hD.trans (fK hki),if_neg (by decide)] at hbd;rw[hbd];exact AW.exit (qX 1 rfl (qN rfl))
theorem zm{n:Nat}(h:(((n:Nat):Int) != 0)=true):n≠0:=by rintro rfl;cases h
theorem C7{n:Nat}(h:(((n:Nat):Int) != 0)=false):n=0:=by
 have:((n:Nat):Int)=0:=by simpa using h
 omega
set_option maxHeartbeats 1600000 in
theorem yV(l:Lkg){K:Nat}(hl:l.ok K)(hK:K≤5000000):Pure Tryz.prog 15 [l.D] (dI (z8 l:Nat)):=by
 refine qJ 59 Tryz.func15 rfl rfl rfl rfl (by kernel_rfl) (fun B F0 w0=>?_);have c1:=w5 l hl (by omega);have c2:=fun i=>yU l i hl hK;have c3:=fun i=>wZ l i hl
 have hcd:z8 l=if dw l.nm=false then 5 else if l.bodies=[] then 10 else if 8<l.bodies.length then 4 else
  if bP l.bodies≠0 then bP l.bodies else if dO l.bodies l.joints≠0 then dO l.bodies l.joints else ju l.bodies.length l.drivers:=rfl
 generalize z8 l=E at *;obtain ⟨ln,bs,js,ds⟩:=l;have hnm:=hl.nm;have hnb:=hl.nb;have hnj:=hl.nj;have hnd:=hl.nd;simp only[] at hcd c1 c2 c3 hnm hnb hnj hnd ⊢;unfold big at hnm hnb hnj hnd;show AW _ _ _ _ _ _ _ (eG 0 [D.ag [dS ln,aK bs,aH js,aI ds]]);refine qX 2 rfl (qI (qX 2 rfl (ae.call tok rfl rfl rfl rfl (jh ln hnm) ?_)));refine qU 1 rfl (ae.nil (AW.cond rfl (fun h=>?_) (fun h=>?_)))
 · rw[if_pos (kq h)] at hcd;rw[hcd];exact qX 1 rfl (qN rfl)
 rw[if_neg (by simpa using h)] at hcd;refine AW.skip (AW.seq (qX 4 rfl ?_));rw[ah];refine ae.nil (AW.cond rfl (fun h=>?_) (fun h=>?_))
 · have h0:bs=[]:=List.length_eq_zero_iff.1 (by have:(bs.length:Int)=0:=by simpa using h
                                                omega)
   rw[if_pos h0] at hcd;rw[hcd];exact qX 1 rfl (qN rfl)
 have h0:bs≠[]:=by rintro rfl;simp at h
 rw[if_neg h0] at hcd;refine AW.skip (AW.seq (qX 4 rfl ?_));rw[ah];refine ae.nil (AW.cond rfl (fun h=>?_) (fun h=>?_))
 · have h8:8<bs.length:=by have:=ak h;omega
   rw[if_pos h8] at hcd;rw[hcd];exact qX 1 rfl (qN rfl)
 have h8: ¬8<bs.length:=by have:=ar h;omega
 rw[if_neg h8] at hcd;refine AW.skip (AW.seq (qX 1 rfl (ae.call tok rfl rfl rfl rfl c1 (qU 1 rfl (qK 2 rfl (ae.nil (AW.cond rfl (fun h=>?_) (fun h=>?_))))))))
 · rw[if_pos (zm h)] at hcd;rw[hcd];exact qX 2 rfl (qN rfl)
 rw[if_neg (fun e=>e (C7 h))] at hcd;refine AW.skip (AW.seq (qX 4 rfl ?_));rw[ah];refine ae.nil (AW.cond rfl (fun h=>?_) (fun h=>?_))
 · have h16:16<js.length:=by have:=ak h;omega
   have hje:dO bs js=4:=by rw[dO,if_pos h16]
   rw[hje,if_pos (by decide)] at hcd;rw[hcd];exact qX 1 rfl (qN rfl)
 have h16: ¬16<js.length:=by have:=ar h;omega
 have hje:dO bs js=fE (eQ bs js) js.length 0:=by rw[dO,if_neg h16]
 refine AW.skip (AW.seq (qX 1 rfl (ae.nil (AW.block ?_))))
 refine AW.aJ [1,4] (fun i:Nat=>[(1,.bx [dS ln,aK bs,aH js,aI ds]),(4,.d (dI i))])
  (fun i=>i≤js.length∧dO bs js=fE (eQ bs js) (js.length-i) i) (fun i=>js.length-i) 0 rfl ⟨Nat.zero_le _,hje⟩ (fun i ⟨hi,hE⟩=>?_)
 refine AW.seq (qX 5 rfl ?_);rw[ah];refine ae.nil (AW.cond rfl (fun h=>?_) (fun h=>?_))
 · have hin:i<js.length:=by have:=ak h;omega
   refine AW.skip (AW.seq (AW.block (qX 2 rfl (ae.call tok rfl rfl rfl rfl (c2 i hin) ?_))));refine qU 1 rfl (qK 2 rfl (ae.nil (AW.cond rfl (fun h=>?_) (fun h=>?_))))
   · rw[hE.trans (eT hin (zm h)),if_pos (zm h)] at hcd;rw[hcd];exact qX 2 rfl (qN rfl)
   · refine AW.skip (qT 3 rfl ?_);rw[aF (x:=(i:Int)+1) (by omega) (by omega)];refine ae.nil ?_;exact⟨i+1,rfl,⟨hin,hE.trans (db hin (C7 h))⟩,by omega⟩
 have hin: ¬i<js.length:=by have:=ar h;omega
 rw[hE.trans (eU hin),if_neg (by decide)] at hcd;refine AW.exit (AW.seq (qX 4 rfl ?_));rw[ah];refine ae.nil (AW.cond rfl (fun h=>?_) (fun h=>?_))
 · have h2:2<ds.length:=by have:=ak h;omega
   rw[ju,if_pos h2] at hcd;rw[hcd];exact qX 1 rfl (qN rfl)
 have h2: ¬2<ds.length:=by have:=ar h;omega
 rw[ju,if_neg h2] at hcd;refine AW.skip (AW.seq (qX 1 rfl (ae.nil (AW.block ?_))))
 refine AW.aJ [1,6] (fun i:Nat=>[(1,.bx [dS ln,aK bs,aH js,aI ds]),(6,.d (dI i))])
  (fun i=>i≤ds.length∧E=fE (dR bs.length ds) (ds.length-i) i) (fun i=>ds.length-i) 0 rfl ⟨Nat.zero_le _,hcd⟩ (fun i ⟨hi,hE⟩=>?_)
 refine AW.seq (qX 5 rfl ?_);rw[ah];refine ae.nil (AW.cond rfl (fun h=>?_) (fun h=>?_))
 · have hin:i<ds.length:=by have:=ak h;omega
   refine AW.skip (AW.seq (AW.block (qX 2 rfl (ae.call tok rfl rfl rfl rfl (c3 i hin) ?_))));refine qU 1 rfl (qK 2 rfl (ae.nil (AW.cond rfl (fun h=>?_) (fun h=>?_))))
   · rw[hE.trans (eT hin (zm h))];exact qX 2 rfl (qN rfl)
   · refine AW.skip (qT 3 rfl ?_);rw[aF (x:=(i:Int)+1) (by omega) (by omega)];refine ae.nil ?_;exact⟨i+1,rfl,⟨hin,hE.trans (db hin (C7 h))⟩,by omega⟩
 have hin: ¬i<ds.length:=by have:=ar h;omega
 rw[hE.trans (eU hin)];exact AW.exit (qX 1 rfl (qN rfl))
end Lift
namespace Lift
open Go Go.Proofs
def GB(rt:List (List RD))(a:List RD):D:=if ky rt [a]≠0 then .tu [aq [],dI (ky rt [a])] else .tu [aq (kr (au a)),dI 0]
theorem CC{m:Nat}{rt:List (List RD)}{a:List RD}(T:pX m rt)(A:kD m rt a):Pure Tryz.prog 68 [wv rt,bE a] (GB rt a):=by
 refine qJ 17 Tryz.func68 rfl rfl rfl rfl (by kernel_rfl) (fun B F0 w0=>?_);have ce:=AX T A;have hm:=T.m2;unfold GB;refine qX 3 rfl (qI (qX 2 rfl (ae.nR tok rfl rfl rfl rfl rfl ?_)));refine ae.call tok rfl rfl rfl rfl ce (qU 1 rfl (qK 2 rfl (ae.nil ?_)));by_cases e2:ky rt [a]=0;rotate_left
 · rw[if_pos e2,bne_iff_ne.2 (show ((ky rt [a]:Nat):Int)≠0 by omega)];exact AW.aG rfl (qX 3 rfl (qN rfl))
 rw[if_neg (fun h=>h e2),bne_eq_false_iff_eq.2 (show ((ky rt [a]:Nat):Int)=0 by omega)];obtain ⟨k1,k2⟩:=z7 e2;have h5:=(rp k1).1;obtain ⟨n1,n2,n3⟩:=jD T.m1 A k2;have nl:=n1.len (by omega);have cl:=sW (au a) n2 (by omega) (by omega);have cs:=jP (aZ (au a)) n1.minus h5;rw[← n3] at cl;exact AW.aD rfl (AW.skip (qX 1 rfl (ae.call tok rfl rfl rfl rfl cl (ae.call tok rfl rfl rfl rfl cs (qU 2 rfl (qN rfl))))))
theorem u6{m:Nat}{rt:List (List RD)}(p:gx)(T:pX m rt)(hp:p.ok m rt)(h0:dE rt=0):Pure Tryz.prog 38 [wv rt,p.D] (dI (xQ rt p)):=by
 refine qJ 36 Tryz.func38 rfl rfl rfl rfl (by kernel_rfl) (fun B F0 w0=>?_)
 have hq: ∀k,k<4→ ∃q,[bE p.c,bE p.s,bE p.x,bE p.y][k]?=some (bE q)∧Fe rt p k=bY rt.length q∧kD m rt q:=fun k hk=>by
  rcases k with _ | k
  · exact⟨p.c,rfl,rfl,hp.c⟩
  rcases k with _ | k
  · exact⟨p.s,rfl,rfl,hp.s⟩
  rcases k with _ | k
  · exact⟨p.x,rfl,rfl,hp.x⟩
  rcases k with _ | k
  · exact⟨p.y,rfl,rfl,hp.y⟩
  omega
 unfold xQ;obtain ⟨E,hE⟩: ∃E,fE (Fe rt p) (4-0) 0=E:=⟨_,rfl⟩;rw[hE];refine qX 3 rfl (qK 8 rfl (ae.nR tok rfl rfl rfl rfl rfl ?_));refine qU 1 rfl (qI (qX 1 rfl (ae.nil ?_)));refine AW.block (AW.aJ [2,5,6] (fun i:Nat=>[(2,.bx [.sl 1 (rt.map bE)]),(5,.d (.sl 1 [bE p.c,bE p.s,bE p.x,bE p.y])),(6,.d (dI i))]) (fun i=>i≤4∧fE (Fe rt p) (4-i) i=E) (fun i=>4-i) 0 rfl ⟨Nat.zero_le _,hE⟩ (fun i ⟨hi,hiE⟩=>?_));refine AW.seq (qX 4 rfl (ae.nil ?_));by_cases hii:i<4;rotate_left
 · rw[eU hii] at hiE;subst hiE;have:i=4:=by omega
   subst this;exact AW.aD rfl (AW.exit (qX 1 rfl (qN rfl)))
 obtain ⟨q,hg,hgq,hqo⟩:=hq i hii;have cn:=CC T hqo;have hmiss:=fun h0:Fe rt p i=0=>(db hii h0).symm.trans hiE;have hhit:=fun h0:Fe rt p i≠0=>(eT hii h0).symm.trans hiE;unfold GB at cn;rw[Kp h0] at cn;rw[hgq] at hmiss hhit;rw[show decide ((i:Int)<(([bE p.c,bE p.s,bE p.x,bE p.y]:List D).length:Int))=true from aO (by show (i:Int)<((4:Nat):Int);omega)];refine AW.aG rfl (AW.skip (AW.seq (AW.block (AW.seq ?_))));by_cases hz:bY rt.length q=0;rotate_left
 · rw[if_pos hz] at cn;have:=hhit hz;subst this;refine AW.draw aU 10 (by kernel_rfl) ?_;refine qP 3 rfl (af.idx tok (bE q) rfl rfl rfl rfl rfl (aj i) hg ?_);refine qP 1 rfl (af.call tok rfl rfl rfl rfl rfl cn (qP 4 rfl (af.nil (qU 1 rfl (qK 2 rfl ?_)))));rw[bne_iff_ne.2 (show ((bY rt.length q:Nat):Int)≠0 by omega)];exact ae.nil (AW.aG rfl (qX 2 rfl (qN rfl)))
 rw[if_neg (fun h=>h hz)] at cn;refine AW.draw aU 10 (by kernel_rfl) ?_;refine qP 3 rfl (af.idx tok (bE q) rfl rfl rfl rfl rfl (aj i) hg ?_);refine qP 1 rfl (af.call tok rfl rfl rfl rfl rfl cn (qP 4 rfl (af.nil (qU 1 rfl (qK 2 rfl (ae.nil (AW.aD rfl (AW.skip (qT 2 rfl ?_)))))))));rw[aF (x:=(i:Int)+1) (by omega) (by omega)];refine qU 1 rfl (ae.nil ?_);exact⟨i+1,rfl,⟨hii,hmiss hz⟩,by omega⟩
end Lift
namespace Lift
open Go Go.Proofs
theorem yT(l:Lkg)(a:Asm){K m:Nat}(hl:l.ok K)(hK:K≤5000000)(ha:a.ok m):Pure Tryz.prog 16 [l.D,a.D] (dI (fD l a)):=by
 refine qJ 45 Tryz.func16 rfl rfl rfl rfl (by kernel_rfl) (fun B0 F0 w0=>?_);have cM:=yV l hl hK;obtain ⟨m0,t1,t2,tw,tk⟩:=ha.t.t;have cT:=qu a.rt tw t1 ha.t.l ha.t.ll tk;have hal:=ha.l;have haT:=ha.t;have hab:=ha.b;unfold fD;obtain ⟨E,hE⟩: ∃E,fE (fun i=>xQ a.rt (a.bodies.getD i default)) (a.bodies.length-0) 0=E:=⟨_,rfl⟩;rw[hE];generalize z8 l=c1 at cM ⊢;obtain ⟨ln,lb,js,lds⟩:=l;obtain ⟨rt,bs,md⟩:=a;simp only[] at *;refine qX 3 rfl (qI (qX 1 rfl (ae.call tok rfl rfl rfl rfl cM (qU 1 rfl (qK 2 rfl (ae.nil ?_))))));by_cases e1:c1=0;rotate_left
 · rw[if_pos e1,bne_iff_ne.2 (show ((c1:Nat):Int)≠0 by omega)];exact AW.aG rfl (qX 2 rfl (qN rfl))
 rw[if_neg (fun h=>h e1),bne_eq_false_iff_eq.2 (show ((c1:Nat):Int)=0 by omega)];refine AW.aD rfl (AW.skip (AW.seq (qX 2 rfl (ae.call tok rfl rfl rfl rfl cT (qU 1 rfl (qK 2 rfl (ae.nil ?_)))))));by_cases e2:dE rt=0;rotate_left
 · rw[if_pos e2,bne_iff_ne.2 (show ((dE rt:Nat):Int)≠0 by omega)];exact AW.aG rfl (qX 2 rfl (qN rfl))
 rw[if_neg (fun h=>h e2),bne_eq_false_iff_eq.2 (show ((dE rt:Nat):Int)=0 by omega)];refine AW.aD rfl (AW.skip (AW.seq (qX 2 rfl (qU 1 rfl ?_))));rw[ah];refine qU 3 rfl ?_;rw[ah];refine qU 1 rfl (ae.nil ?_);by_cases e3:bs.length=lb.length;rotate_left
 · rw[if_pos e3,bne_iff_ne.2 (show ((bs.length:Nat):Int)≠((lb.length:Nat):Int) by omega)];exact AW.aG rfl (qX 1 rfl (qN rfl))
 rw[if_neg (fun h=>h e3),bne_eq_false_iff_eq.2 (show ((bs.length:Nat):Int)=((lb.length:Nat):Int) by omega)];refine AW.aD rfl (AW.skip (AW.seq (qX 1 rfl (ae.nil ?_))));refine AW.block (AW.aJ [3,7] (fun i:Nat=>[(3,.bx [.sl 1 (rt.map bE),.sl 4 (bs.map gx.D),.sl 1 (md.map (fun n=>dI n))]),(7,.d (dI i))]) (fun i=>i≤bs.length∧fE (fun i=>xQ rt (bs.getD i default)) (bs.length-i) i=E) (fun i=>bs.length-i) 0 rfl ⟨Nat.zero_le _,hE⟩ (fun i ⟨hi,hiE⟩=>?_));refine AW.seq (qX 4 rfl ?_);rw[ah];refine qU 1 rfl (ae.nil (AW.cond rfl (fun h=>?_) (fun h=>?_)));rotate_left
 · have hii: ¬i<bs.length:=by have:=ar h;omega
   rw[eU hii] at hiE;subst hiE;exact AW.exit (qX 1 rfl (qN rfl))
 have hii:i<bs.length:=by have:=ak h;omega
 have hg:=getM gx.D hii;have cn:=u6 (bs.getD i default) haT (hab i hii) e2;have hmiss:=fun h0:xQ rt (bs.getD i default)=0=>(db (f:=fun i=>xQ rt (bs.getD i default)) hii h0).symm.trans hiE;have hhit:=fun h0:xQ rt (bs.getD i default)≠0=>(eT (f:=fun i=>xQ rt (bs.getD i default)) hii h0).symm.trans hiE;generalize xQ rt (bs.getD i default)=z at cn hmiss hhit;refine AW.skip (AW.seq (AW.block (AW.seq (AW.draw aU 8 (by kernel_rfl) ?_))));refine qP 5 rfl (af.idx tok (bs.getD i default).D rfl rfl rfl rfl rfl (aj i) hg ?_);refine qP 1 rfl (af.call tok rfl rfl rfl rfl rfl cn (af.nil (qU 1 rfl (qK 2 rfl (ae.nil ?_)))));by_cases hz:z=0;rotate_left
 · have:=hhit hz;subst this;rw[bne_iff_ne.2 (show ((z:Nat):Int)≠0 by omega)];exact AW.aG rfl (qX 2 rfl (qN rfl))
 rw[bne_eq_false_iff_eq.2 (show ((z:Nat):Int)=0 by omega)];refine AW.aD rfl (AW.skip (qT 2 rfl ?_));rw[aF (x:=(i:Int)+1) (by omega) (by omega)];refine qU 1 rfl (ae.nil ?_);exact⟨i+1,rfl,⟨hii,hmiss hz⟩,by omega⟩
end Lift
namespace Lift
open Go Go.Proofs
end Lift
namespace Lift
open Go Go.Proofs
abbrev AsD(v:List NQ)(bs:List gx)(md:List Int):D:= .ag [.sl 1 (v.map aq),.sl 4 (bs.map gx.D),.sl 1 (md.map (fun n=>dI n))]
theorem Fb{r:List NQ}{b:Int}{n:Nat}(x y w:NQ)(hr:r.length=3*(n-1))(h:b<n)(h0:0≤b)(hn:0<n):(mb r b x y w).length=3*(n-1):=by
 rw[qD x y w (fun _=>by omega)];exact hr
end Lift
namespace Lift
open Go Go.Proofs
end Lift
namespace Lift
open Go Go.Proofs
def tB(v:List NQ)(q:NQ):Prop:=ay v.length q∧aB 300000 q
theorem uB(v:List NQ):tB v []:=⟨cD _,cH (by decide)⟩
theorem EH{P:NQ→Prop}{r:List NQ}(h: ∀q∈r,P q)(h0:P [])(k:Nat):P (r.getD k []):=by
 by_cases hk:k<r.length
 · rw[aN,bQ hk];exact h _ (List.getElem_mem hk)
 · rw[re (by omega)];exact h0
theorem l9{P:NQ→Prop}{r:List NQ}{b:Int}{x y w:NQ}(h: ∀q∈r,P q)(hx:P x)(hy:P y)(hw:P w): ∀q∈mb r b x y w,P q:=fun q hq=>by
 unfold mb at hq;split at hq
 · rcases List.mem_append.1 hq with hq | hq
   · rcases List.mem_append.1 hq with hq | hq
     · exact h q (List.mem_of_mem_take hq)
     · simp only[List.mem_cons,List.not_mem_nil,or_false] at hq;rcases hq with rfl | rfl | rfl
       · exact hx
       · exact hy
       · exact hw
   · exact h q (List.mem_of_mem_drop hq)
 · exact h q hq
theorem GA(v:List NQ)(n:Nat): ∀q∈rN n,tB v q:=fun q hq=>by
 rw[(List.mem_replicate.1 hq).2];exact uB v
def LX(v:List NQ)(n:Nat)(r:List NQ):Prop:=r.length=3*(n-1)∧ ∀q∈r,tB v q
theorem lD{v:List NQ}{n:Nat}{r:List NQ}{b:Int}{x y w:NQ}(h:LX v n r)(hb:0≤b∧b<n)(hn:0<n)(hx:tB v x)(hy:tB v y)(hw:tB v w):LX v n (mb r b x y w) :=
 ⟨Fb x y w h.1 hb.2 hb.1 hn,l9 h.2 hx hy hw⟩
structure FK (l:Lkg) (a:Asm):Prop where
 G:MU l a
 V:iX 16 (a.rt.map au)
 l2:(a.rt.map au).length≤2
 X: ∀b p:Int,0≤b→b<l.bodies.length→0≤p→p<(l.bodies.getD b.toNat default).pts.length→(ay (a.rt.map au).length (ui (a.rt.map au) l a b p)∧aB 1400 (ui (a.rt.map au) l a b p))∧(ay (a.rt.map au).length (ug (a.rt.map au) l a b p)∧aB 1400 (ug (a.rt.map au) l a b p))
 P: ∀b:Int,0≤b→b<l.bodies.length→(a.bodies.map gx.D)[b.toNat]?=some (w9 (a.bodies.getD b.toNat default)).D∧(w9 (a.bodies.getD b.toNat default)).ok (a.rt.map au).length 16
 D:a.D=AsD (a.rt.map au) a.bodies a.modes
theorem J3{l:Lkg}{a:Asm}(hl:l.ok 16)(ha:a.ok 16)(h2:a.rt.length≤2)(h:fD l a=0):FK l a:=by
 have G:=yZ h;have V:=iX.of ha.t G.tw;have W:=qb ha.t G.tw;have hvl:(a.rt.map au).length≤2:=by rw[ah];exact h2
 have gP: ∀b:Int,0≤b→b<l.bodies.length→(a.bodies.map gx.D)[b.toNat]?=some (w9 (a.bodies.getD b.toNat default)).D∧(w9 (a.bodies.getD b.toNat default)).ok (a.rt.map au).length 16:=fun b b0 b1=>by
  have hln:=G.ln;have hb:b.toNat<a.bodies.length:=by omega
  have h3:=GO (by decide) (ha.b _ hb) (G.pl _ hb);rw[ah,← h3.2];exact⟨by simp[hb],h3.1⟩
 refine⟨G,V,hvl,fun b p b0 b1 p0 p1=>?_,gP,?_⟩
 · have hm:=(hl.b b.toNat).2.2 p.toNat;exact Kr V hvl (gP b b0 b1).2 (kZ _ (cy hm.2.1 (by decide))) (kZ _ (cy hm.2.2 (by decide)))
 · have:=W.eq;show D.ag [.sl 1 (a.rt.map bE),_,_]=D.ag [.sl 1 ((a.rt.map au).map aq),_,_];rw[show a.rt.map bE=(a.rt.map au).map aq by simpa using this]
theorem tB.of{v:List NQ}{q:NQ}{k:Nat}(h:ay v.length q∧aB k q)(hk:k≤300000):tB v q:=⟨h.1,h.2.mono hk⟩
theorem CR{l:Lkg}{a:Asm}(O:FK l a){j:cG}(J:NL l.bodies j): ∀r∈Ir (a.rt.map au) l a j,LX (a.rt.map au) l.bodies.length r:=by
 have b1:=O.G.lk.b1;have l2:=O.l2;obtain ⟨x1,x2⟩:=O.X j.a j.pt J.a.1 J.a.2 J.pt.1 J.pt.2;obtain ⟨y1,y2⟩:=O.X j.b j.on J.b.1 J.b.2 J.on.1 J.on.2;have V:=O.V.mono (show 16≤3000 by decide) (by decide);have hz:LX (a.rt.map au) l.bodies.length (rN l.bodies.length):=⟨AL _,GA _ _⟩;have ja:=J.a;have jb:=J.b;have one:tB (a.rt.map au) [1]:=⟨eZ _ _,fZ (by have:=gy;omega)⟩;have neg: ∀{q:NQ},tB (a.rt.map au) q→tB (a.rt.map au) (kr q):=fun h=>Je h.1 h.2;have nil:=uB (a.rt.map au);unfold Ir;intro r hr;split at hr
 · rename_i hk;obtain ⟨z1,z2⟩:=O.X j.b j.to J.b.1 J.b.2 (J.to (by omega)).1 (J.to (by omega)).2;rw[List.mem_singleton] at hr;subst hr;have q1:=kI y2.1 y2.2 z2.1 z2.2;have q2:=kI z1.1 z1.2 y1.1 y1.2;have hT:sT (a.rt.map au).length 3000≤126009:=Nat.le_trans (ua l2) (by decide);have p1:=gk V q2.1 (q2.2.mono (by decide)) x1.1 (x1.2.mono (by decide));have p2:=gk V q1.1 (q1.2.mono (by decide)) x2.1 (x2.2.mono (by decide));have q3:=kI p1.1 (p1.2.mono hT) p2.1 (p2.2.mono hT);have e1:tB (a.rt.map au) _:=tB.of q1 (by decide);have e2:tB (a.rt.map au) _:=tB.of q2 (by decide);have e3:tB (a.rt.map au) _:=tB.of q3 (by decide);exact lD (lD hz ja b1 e1 e2 e3) jb b1 (neg e1) (neg e2) (neg e3)
 · have e1:tB (a.rt.map au) _:=tB.of x1 (by decide);have e2:tB (a.rt.map au) _:=tB.of x2 (by decide);have e3:tB (a.rt.map au) _:=tB.of y1 (by decide);have e4:tB (a.rt.map au) _:=tB.of y2 (by decide);simp only[List.mem_cons,List.not_mem_nil,or_false] at hr;rcases hr with rfl | rfl
   · exact lD (lD hz ja b1 one nil (neg e2)) jb b1 (neg one) nil e4
   · exact lD (lD hz ja b1 nil one e1) jb b1 nil (neg one) (neg e3)
theorem xK{l:Lkg}{a:Asm}(O:FK l a): ∀i,i≤l.joints.length→ ∀r∈ki (a.rt.map au) l a i,LX (a.rt.map au) l.bodies.length r
 | 0,_,r,hr=>by cases hr
 | i+1,hi,r,hr=>by
   rcases List.mem_append.1 hr with h | h
   · exact xK O i (by omega) r h
   · exact CR O (O.G.lk.j i (by omega)) r h
theorem CN{l:Lkg}{a:Asm}(O:FK l a){i:Nat}(hi:i<(gN l a).length):LX (a.rt.map au) l.bodies.length ((gN l a).getD i []):=by
 rw[aN,bQ hi];exact xK O _ (ai _) _ (List.getElem_mem hi)
theorem D9{l:Lkg}{a:Asm}(O:FK l a)(i k:Nat):tB (a.rt.map au) (bk (gN l a) i k):=by
 unfold bk;by_cases hi:i<(gN l a).length
 · exact EH (CN O hi).2 (uB _) k
 · rw[mq (by omega)];exact uB _
theorem K7{l:Lkg}{a:Asm}(O:FK l a):(gN l a).length≤32:=by
 have h1:=rM (a.rt.map au) l a l.joints.length;have h2:=O.G.lk.j16;unfold gN;omega
theorem um{l:Lkg}{a:Asm}(O:FK l a)(h:0<(gN l a).length):bK (gN l a)=3*(l.bodies.length-1):=(CN O h).1
theorem oY{l:Lkg}{a:Asm}(O:FK l a):Ik (a.rt.map au) (gN l a):=by
 refine⟨K7 O,fun j hj=>?_,?_,fun i k=>(D9 O i k).1⟩
 · rw[(CN O hj).1,um O (by omega)]
 · by_cases h:0<(gN l a).length
   · rw[um O h];have:=O.G.lk.b8;omega
   · unfold bK;rw[mq (by omega)];exact Nat.zero_le _
end Lift
namespace Lift
section
variable {K:Fd}
def sm{K:Fd}(n:Nat)(f:Nat→K.T):K.T:=match n with
 | 0=>0
 | n+1=>sm n f+f n
theorem fb{n:Nat}{f g:Nat→K.T}(h: ∀k,k<n→f k=g k):sm n f=sm n g:=by
 induction n with
 | zero=>rfl
 | succ n ih =>
   show sm n f+f n=sm n g+g n;rw[ih (fun k hk=>h k (by omega)),h n (by omega)]
theorem qj{n:Nat}{f:Nat→K.T}(h: ∀k,k<n→f k=0):sm n f=0:=by
 induction n with
 | zero=>rfl
 | succ n ih =>
   show sm n f+f n=0;rw[ih (fun k hk=>h k (by omega)),h n (by omega),Rg.add_zero]
theorem Gi(n:Nat)(f g:Nat→K.T):sm n (fun k=>f k+g k)=sm n f+sm n g:=by
 induction n with
 | zero=>exact(Rg.add_zero _).symm
 | succ n ih =>
   show sm n _+(f n+g n)=sm n f+f n+(sm n g+g n);rw[ih];exact Rg.bG [sm n f,sm n g,f n,g n] (X0+X1+(X2+X3)) (X0+X2+(X1+X3)) rfl
theorem uU(n:Nat)(c:K.T)(f:Nat→K.T):sm n (fun k=>c*f k)=c*sm n f:=by
 induction n with
 | zero=>exact(Rg.mul_zero _).symm
 | succ n ih =>
   show sm n _+c*f n=c*(sm n f+f n);rw[ih,Rg.mul_add]
theorem DJ(n:Nat)(c:K.T)(f:Nat→K.T):sm n (fun k=>f k*c)=sm n f*c:=by
 rw[Rg.mul_comm,← uU];exact fb fun k _=>Rg.mul_comm _ _
theorem KL(n:Nat)(f:Nat→K.T):sm n (fun k=> -f k)= -sm n f:=by
 induction n with
 | zero=>exact Rg.neg_zero.symm
 | succ n ih =>
   show sm n _+ -f n= -(sm n f+f n);rw[ih,Rg.neg_add]
theorem Cp(n:Nat)(f g:Nat→K.T):sm n (fun k=>f k-g k)=sm n f-sm n g:=by
 rw[show (fun k=>f k-g k)=fun k=>f k+ -g k from rfl,Gi,KL];rfl
theorem yH{n j:Nat}{f:Nat→K.T}(hj:j<n)(h: ∀k,k<n→k≠j→f k=0):sm n f=f j:=by
 induction n with
 | zero=>omega
 | succ n ih =>
   show sm n f+f n=f j;by_cases e:j=n
   · subst e;rw[qj (fun k hk=>h k (by omega) (by omega)),Rg.zero_add]
   · rw[ih (by omega) (fun k hk hk2=>h k (by omega) hk2),h n (by omega) (fun g=>e g.symm),Rg.add_zero]
theorem DK(m n:Nat)(f:Nat→Nat→K.T):sm m (fun i=>sm n (fun k=>f i k))=sm n (fun k=>sm m (fun i=>f i k)):=by
 induction m with
 | zero=>exact(qj (fun k _=>rfl)).symm
 | succ m ih =>
   show sm m _+sm n (fun k=>f m k)=sm n (fun k=>sm m (fun i=>f i k)+f m k);rw[ih,Gi]
def sk(j k:Nat):Nat:=if k<j then k else k+1
theorem L3(j k:Nat):sk j k≠j:=by unfold sk;split<;>omega
theorem L4{j k n:Nat}(h:k<n):sk j k<n+1:=by unfold sk;split<;>omega
theorem IN{n j:Nat}(f:Nat→K.T)(hj:j<n+1):sm (n+1) f=sm n (fun k=>f (sk j k))+f j:=by
 induction n with
 | zero =>
   obtain rfl:j=0:=by omega
   rfl
 | succ n ih =>
   show sm (n+1) f+f (n+1)=sm n (fun k=>f (sk j k))+f (sk j n)+f j;by_cases e:j=n+1
   · subst e;have:sk (n+1) n=n:=by unfold sk;rw[if_pos (by omega)]
     rw[this];show sm n f+f n+f (n+1)=_
     rw[show sm n (fun k=>f (sk (n+1) k))=sm n f from fb fun k hk=>by
      show f (sk (n+1) k)=f k
      unfold sk;rw[if_pos (by omega)]]
   · have:sk j n=n+1:=by unfold sk;rw[if_neg (by omega)]
     rw[ih (by omega),this];exact Rg.bG [sm n (fun k=>f (sk j k)),f j,f (n+1)] (X0+X1+X2) (X0+X2+X1) rfl
theorem Cq: ∀(s r:Nat) (R:Nat→Nat→K.T),s<r→ ∃x:Nat→K.T,(∃k,k<r∧x k≠0)∧ ∀p,p<s→sm r (fun k=>R p k*x k)=0
 | 0,r,R,h=>⟨fun _=>1,⟨0,h,Fd.CI⟩,fun p hp=>by omega⟩
 | s+1,r,R,h=>by
   by_cases hz: ∀k,k<r→R s k=0
   · obtain ⟨x,h1,h2⟩:=Cq s r R (by omega);refine⟨x,h1,fun p hp=>?_⟩;by_cases e:p=s
     · subst e;exact qj fun k hk=>by rw[hz k hk,Rg.zero_mul]
     · exact h2 p (by omega)
   · obtain ⟨j,hj⟩:=Classical.not_forall.1 hz;obtain ⟨hj,hne⟩:=Classical.not_imp.1 hj;obtain ⟨n,rfl⟩: ∃n,r=n+1:=⟨r-1,by omega⟩;obtain ⟨y,⟨k0,hk0,hy0⟩,hy⟩:=Cq s n (fun p k=>R p (sk j k) -R p j*K.inv (R s j)*R s (sk j k)) (by omega)
     have back: ∀k,k≠j→sk j (if k<j then k else k-1)=k:=fun k hk=>by
      unfold sk;by_cases c:k<j
      · rw[if_pos c,if_pos c]
      · rw[if_neg c,if_neg (by omega)];omega
     let x:Nat→K.T:=fun k=>if k=j then -(K.inv (R s j)*sm n (fun k=>R s (sk j k)*y k)) else y (if k<j then k else k-1)
     have xj:x j= -(K.inv (R s j)*sm n (fun k=>R s (sk j k)*y k)):=if_pos rfl
     have xs: ∀k,x (sk j k)=y k:=fun k=>by
      show (if sk j k=j then _ else _)=_;rw[if_neg (L3 j k)];unfold sk;by_cases c:k<j
      · rw[if_pos c,if_pos c]
      · rw[if_neg c,if_neg (by omega)];rfl
     refine⟨x,⟨sk j k0,L4 hk0,by rw[xs];exact hy0⟩,fun p hp=>?_⟩;rw[IN _ hj,xj,show sm n (fun k=>R p (sk j k)*x (sk j k))=sm n (fun k=>R p (sk j k)*y k) from fb fun k _=>by rw[xs]];by_cases e:p=s
     · subst e;generalize sm n (fun k=>R p (sk j k)*y k)=S;have h1:=Fd.qR hne;rw[show S+R p j* -(K.inv (R p j)*S)=S-R p j*K.inv (R p j)*S from Rg.bG [S,R p j,K.inv (R p j)] (X0+X1* -(X2*X0)) (X0-X1*X2*X0) rfl,h1,Rg.one_mul];exact Rg.sub_self S
     · have h1:=hy p (by omega)
       rw[show (fun k=>(R p (sk j k) -R p j*K.inv (R s j)*R s (sk j k))*y k)=fun k=>R p (sk j k)*y k-R p j*K.inv (R s j)*(R s (sk j k)*y k) from funext fun k =>
        Rg.bG [R p (sk j k),R p j,K.inv (R s j),R s (sk j k),y k] ((X0-X1*X2*X3)*X4) (X0*X4-X1*X2*(X3*X4)) rfl,Cp,uU] at h1
       rw[← h1];exact Rg.bG [sm n (fun k=>R p (sk j k)*y k),R p j,K.inv (R s j),sm n (fun k=>R s (sk j k)*y k)] (X0+X1* -(X2*X3)) (X0-X1*X2*X3) rfl
abbrev Mk(K:Fd):=Nat→Nat→K.T
def Dv(m n s:Nat)(A:Mk K):Prop:= ∃(L R:Mk K),∀i k,i<m→k<n→A i k=sm s (fun p=>L i p*R p k)
theorem Dv.L0{m n s:Nat}{A:Mk K}(h:Dv m n s A):Dv n m s (fun i k=>A k i):=by
 obtain ⟨L,R,h⟩:=h
 exact⟨fun i p=>R p i,fun p k=>L k p,fun i k hi hk=>by
  show A k i=_
  rw[h k i hk hi];exact fb fun p _=>Rg.mul_comm _ _⟩
theorem Dv.congr{m n s:Nat}{A B:Mk K}(h:Dv m n s A)(he: ∀i k,i<m→k<n→A i k=B i k):Dv m n s B:=by
 obtain ⟨L,R,h⟩:=h;exact⟨L,R,fun i k hi hk=>by rw[← he i k hi hk];exact h i k hi hk⟩
theorem IQ{s t:Nat}(h:s≤t)(f:Nat→K.T):sm t (fun p=>if p<s then f p else 0)=sm s f:=by
 induction t with
 | zero =>
   obtain rfl:s=0:=by omega
   rfl
 | succ t ih =>
   show sm t _+(if t<s then f t else 0)=sm s f;by_cases e:s=t+1
   · subst e;rw[if_pos (by omega)];show _=sm t f+f t;rw[show sm t (fun p=>if p<t+1 then f p else 0)=sm t f from fb fun p hp=>if_pos (by omega)]
   · rw[if_neg (by omega),Rg.add_zero,ih (by omega)]
theorem Dv.more{m n s t:Nat}{A:Mk K}(h:Dv m n s A)(hs:s≤t):Dv m n t A:=by
 obtain ⟨L,R,h⟩:=h;refine⟨L,fun p k=>if p<s then R p k else 0,fun i k hi hk=>?_⟩;rw[h i k hi hk,← IQ hs]
 exact fb fun p _=>by
  show (if p<s then L i p*R p k else 0)=L i p*(if p<s then R p k else 0);split
  · rfl
  · exact(Rg.mul_zero _).symm
theorem Dv.ge{m n s r:Nat}{A:Mk K}(h:Dv m n s A)(c:Nat→Nat)(hc: ∀p,p<r→c p<n)(hi: ∀x:Nat→K.T,(∀i,i<m→sm r (fun p=>A i (c p)*x p)=0)→ ∀p,p<r→x p=0):r≤s:=by
 by_cases hrs:r≤s
 · exact hrs
 exfalso;obtain ⟨L,R,h⟩:=h;obtain ⟨x,⟨k,hk,hx⟩,h0⟩:=Cq s r (fun p k=>R p (c k)) (by omega);refine hx (hi x (fun i him=>?_) k hk)
 rw[show sm r (fun p=>A i (c p)*x p)=sm r (fun p=>sm s (fun q=>L i q*(R q (c p)*x p))) from fb fun p hp=>by
  rw[h i (c p) him (hc p hp),← DJ]
  exact fb fun q _=>Rg.mul_assoc _ _ _,DK]
 exact qj fun q hq=>by rw[uU,h0 q hq,Rg.mul_zero]
end
end Lift
namespace Lift
section
variable {K:Fd}
structure RI (m N c:Nat) (A M:Mk K) (cols:List Nat):Prop where
 cN:c≤N
 eqv: ∀x:Nat→K.T,(∀i,i<m→sm N (fun k=>A i k*x k)=0)↔(∀i,i<m→sm N (fun k=>M i k*x k)=0)
 lt: ∀p,p<cols.length→cols.getD p 0<c
 rm:cols.length≤m
 I6: ∀p q,p<cols.length→q<m→M q (cols.getD p 0)=if q=p then 1 else 0
 zr: ∀q k,cols.length≤q→q<m→k<c→M q k=0
 asc: ∀p q,p<q→q<cols.length→cols.getD p 0<cols.getD q 0
 left: ∀p k,p<cols.length→k<cols.getD p 0→M p k=0
def sw(r t i:Nat):Nat:=if i=r then t else if i=t then r else i
theorem JY(r t i:Nat):sw r t (sw r t i)=i:=by
 unfold sw;by_cases h1:i=r
 · subst h1;rw[if_pos rfl];by_cases h2:t=i
   · rw[if_pos h2,h2]
   · rw[if_neg h2,if_pos rfl]
 · rw[if_neg h1];by_cases h2:i=t
   · subst h2;rw[if_pos rfl,if_pos rfl]
   · rw[if_neg h2,if_neg h1,if_neg h2]
theorem KG(r t:Nat):sw r t r=t:=if_pos rfl
theorem DH{r t i m:Nat}(hr:r<m)(ht:t<m)(hi:i<m):sw r t i<m:=by unfold sw;split;exact ht;split;exact hr;exact hi
theorem JZ{r t i:Nat}(ht:r≤t)(hi:r≤i):r≤sw r t i:=by unfold sw;split;exact ht;split;exact ai _;exact hi
theorem Cl{r t i:Nat}(ht:r≤t)(hi:i<r):sw r t i=i:=by unfold sw;rw[if_neg (by omega),if_neg (by omega)]
theorem ur(l:List Nat)(c:Nat):(l++[c]).getD l.length 0=c:=by
 rw[aN,List.getElem?_append_right (ai _),Nat.sub_self];rfl
theorem sv{l:List Nat}{p:Nat}(c:Nat)(h:p<l.length):(l++[c]).getD p 0=l.getD p 0:=by
 rw[aN,List.getElem?_append_left h,aN]
theorem RI.start(m N:Nat)(A:Mk K):RI m N 0 A A [] :=
 ⟨Nat.zero_le _,fun x=>Iff.rfl,fun p hp=>absurd hp (Nat.not_lt_zero _),Nat.zero_le _,fun p q hp=>absurd hp (Nat.not_lt_zero _),fun q k _ _ hk=>absurd hk (Nat.not_lt_zero _),fun p q _ hq=>absurd hq (Nat.not_lt_zero _),fun p k hp=>absurd hp (Nat.not_lt_zero _)⟩
theorem RI.Nt{m N c:Nat}{A M:Mk K}{cols:List Nat}(I:RI m N c A M cols)(hc:c<N)(h: ∀q,cols.length≤q→q<m→M q c=0):RI m N (c+1) A M cols :=
 ⟨hc,I.eqv,fun p hp=>Nat.lt_succ_of_lt (I.lt p hp),I.rm,I.I6,fun q k h1 h2 h3=>by
  by_cases e:k=c
  · subst e;exact h q h1 h2
  · exact I.zr q k h1 h2 (by omega),I.asc,I.left⟩
theorem RI.hit{m N c t:Nat}{A M M':Mk K}{cols:List Nat}(I:RI m N c A M cols)(hc:c<N)(h1:cols.length≤t)(h2:t<m)(h3:M t c≠0)
  (h4: ∀i k,i<m→k<N→M' i k=if i=cols.length then M t k*K.inv (M t c) else M (sw cols.length t i) k-M (sw cols.length t i) c*(M t k*K.inv (M t c))):RI m N (c+1) A M' (cols++[c]):=by
 have hrm:cols.length<m:=by omega
 have hp1:=Fd.qR h3;have hinv:=Fd.Lb h3;have hll:(cols++[c]).length=cols.length+1:=by rw[List.length_append];rfl
 have hBt: ∀k,k<c→M t k=0:=fun k hk=>I.zr t k h1 h2 hk;have hBl: ∀p,p<cols.length→M t (cols.getD p 0)=0:=fun p hp=>hBt _ (I.lt p hp)
 have hcc: ∀q,q<m→M' q c=if q=cols.length then 1 else 0:=fun q hq=>by
  rw[h4 q c hq hc];split
  · exact hp1
  · rw[hp1,Rg.mul_one];exact Rg.sub_self _
 have dot: ∀(x:Nat→K.T) i,i<m→sm N (fun k=>M' i k*x k)=if i=cols.length then sm N (fun k=>M t k*x k)*K.inv (M t c) else sm N (fun k=>M (sw cols.length t i) k*x k) -M (sw cols.length t i) c*K.inv (M t c)*sm N (fun k=>M t k*x k):=fun x i hi=>by
  by_cases e:i=cols.length
  · rw[if_pos e,← DJ]
    exact fb fun k hk=>by
     rw[h4 i k hi hk,if_pos e];exact Rg.bG [M t k,K.inv (M t c),x k] (X0*X1*X2) (X0*X2*X1) rfl
  · rw[if_neg e,← uU,← Cp]
    exact fb fun k hk=>by
     rw[h4 i k hi hk,if_neg e];exact Rg.bG [M (sw cols.length t i) k,M (sw cols.length t i) c,M t k,K.inv (M t c),x k] ((X0-X1*(X2*X3))*X4) (X0*X4-X1*X3*(X2*X4)) rfl
 refine⟨hc,fun x=>(I.eqv x).trans ⟨fun h i hi=>?_,fun h=>?_⟩,fun p hp=>?_,by omega,fun p q hp hq=>?_,fun q k k1 k2 k3=>?_,fun p q hpq hq=>?_,fun p k hp hk=>?_⟩
 · rw[dot x i hi,h t h2,h _ (DH hrm h2 hi)];split
   · exact Rg.zero_mul _
   · rw[Rg.mul_zero];exact Rg.sub_self _
 · have ht:sm N (fun k=>M t k*x k)=0:=by
    have:=h cols.length hrm;rw[dot x _ hrm,if_pos rfl] at this;rcases Fd.Mj this with e | e
    · exact e
    · exact absurd e hinv
   intro i hi;have hs:=DH hrm h2 hi;by_cases e:sw cols.length t i=cols.length
   · have:i=t:=by rw[← JY cols.length t i,e];exact KG _ _
     rw[this];exact ht
   · have:=h _ hs;rw[dot x _ hs,if_neg e,JY,ht,Rg.mul_zero] at this;rw[← this];exact Rg.bG [sm N (fun k=>M i k*x k)] X0 (X0-0) rfl
 · rw[hll] at hp;by_cases e:p=cols.length
   · rw[e,ur];omega
   · rw[sv c (by omega)];have:=I.lt p (by omega);omega
 · rw[hll] at hp;by_cases e:p=cols.length
   · rw[e,ur];exact hcc q hq
   · have hp:p<cols.length:=by omega
     have hpc:=I.lt p hp;rw[sv c hp,h4 q _ hq (by omega),hBl p hp];by_cases eq:q=cols.length
     · rw[if_pos eq,Rg.zero_mul,if_neg (by omega)]
     · rw[if_neg eq,I.I6 p _ hp (DH hrm h2 hq),Rg.zero_mul,Rg.mul_zero]
       have:(sw cols.length t q=p)↔(q=p):=by
        constructor
        · intro h;by_cases g:q<cols.length
          · rwa [Cl h1 g] at h
          · have:=JZ h1 (show cols.length≤q by omega);omega
        · intro h;rw[h];exact Cl h1 hp
       by_cases g:q=p
       · rw[if_pos g,if_pos (this.2 g)];exact Rg.bG [] (1-0) 1 rfl
       · rw[if_neg g,if_neg (fun h=>g (this.1 h))];exact Rg.sub_self _
 · rw[hll] at k1;by_cases e:k=c
   · rw[e,hcc q k2,if_neg (by omega)]
   · rw[h4 q k k2 (by omega),if_neg (by omega),hBt k (by omega),I.zr _ k (JZ h1 (by omega)) (DH hrm h2 k2) (by omega),Rg.zero_mul,Rg.mul_zero];exact Rg.sub_self _
 · rw[hll] at hq;by_cases e:q=cols.length
   · rw[e,ur,sv c (by omega)];exact I.lt p (by omega)
   · rw[sv c (by omega),sv c (by omega)];exact I.asc p q hpq (by omega)
 · rw[hll] at hp;by_cases e:p=cols.length
   · rw[e,ur] at hk;rw[e,h4 _ k hrm (by omega),if_pos rfl,hBt k hk,Rg.zero_mul]
   · have hp:p<cols.length:=by omega
     have hpc:=I.lt p hp;rw[sv c hp] at hk;rw[h4 p k (by omega) (by omega),if_neg e,Cl h1 hp,I.left p k hp hk,hBt k (by omega),Rg.zero_mul,Rg.mul_zero];exact Rg.sub_self _
theorem RI.at{m N c:Nat}{A M:Mk K}{cols:List Nat}(I:RI m N c A M cols)(X y:Nat→K.T):sm N (fun j=>X j*sm cols.length (fun p=>if j=cols.getD p 0 then y p else 0))=sm cols.length (fun p=>X (cols.getD p 0)*y p):=by
 have hcN:=I.cN;rw[show sm N (fun j=>X j*sm cols.length (fun p=>if j=cols.getD p 0 then y p else 0))=sm N (fun j=>sm cols.length (fun p=>X j*(if j=cols.getD p 0 then y p else 0))) from fb fun j _=>(uU _ _ _).symm,DK];refine fb fun p hp=>?_;have:=I.lt p hp;rw[yH (j:=cols.getD p 0) (by omega) (fun k _ hk=>by rw[if_neg hk,Rg.mul_zero]),if_pos rfl]
theorem RI.indep{m N c:Nat}{A M:Mk K}{cols:List Nat}(I:RI m N c A M cols)(x:Nat→K.T)(h: ∀i,i<m→sm cols.length (fun p=>A i (cols.getD p 0)*x p)=0): ∀p,p<cols.length→x p=0:=fun q hq=>by
 have h1:=(I.eqv (fun j=>sm cols.length (fun p=>if j=cols.getD p 0 then x p else 0))).1 (fun i hi=>by rw[I.at (A i) x];exact h i hi) q (by have:=I.rm;omega);rw[I.at (M q) x,yH (j:=q) hq (fun p hp hne=>by rw[I.I6 p q hp (by have:=I.rm;omega),if_neg (fun e=>hne e.symm),Rg.zero_mul]),I.I6 q q hq (by have:=I.rm;omega),if_pos rfl,Rg.one_mul] at h1;exact h1
theorem RI.by{m N c:Nat}{A M:Mk K}{cols:List Nat}(I:RI m N c A M cols){k:Nat}(hk:k<c){i:Nat}(hi:i<m):A i k=sm cols.length (fun p=>A i (cols.getD p 0)*M p k):=by
 have hcN:=I.cN;have hrm:=I.rm
 have key: ∀X:Nat→K.T,sm N (fun j=>X j*((if j=k then 1 else 0) -sm cols.length (fun p=>if j=cols.getD p 0 then M p k else 0)))=X k-sm cols.length (fun p=>X (cols.getD p 0)*M p k):=fun X=>by
  rw[← I.at X (fun p=>M p k),show (fun j=>X j*((if j=k then 1 else 0) -sm cols.length (fun p=>if j=cols.getD p 0 then M p k else 0)))=fun j=>X j*(if j=k then 1 else 0) -X j*sm cols.length (fun p=>if j=cols.getD p 0 then M p k else 0) from funext fun j =>
   Rg.bG [X j,(if j=k then 1 else 0),sm cols.length (fun p=>if j=cols.getD p 0 then M p k else 0)] (X0*(X1-X2)) (X0*X1-X0*X2) rfl,Cp]
  congr 1
  rw[yH (j:=k) (by omega) (fun j _ hj=>by rw[if_neg hj,Rg.mul_zero]),if_pos rfl,Rg.mul_one]
 have h:=(I.eqv (fun j=>(if j=k then 1 else 0) -sm cols.length (fun p=>if j=cols.getD p 0 then M p k else 0))).2 (fun q hq=>by
  rw[key (M q)];by_cases e:q<cols.length
  · rw[yH (j:=q) e (fun p hp hne=>by rw[I.I6 p q hp hq,if_neg (fun e=>hne e.symm),Rg.zero_mul]),I.I6 q q e hq,if_pos rfl,Rg.one_mul];exact Rg.sub_self _
  · rw[I.zr q k (by omega) hq hk,qj fun p hp=>by rw[I.I6 p q hp hq,if_neg (by omega),Rg.zero_mul]]
    exact Rg.sub_self _) i hi
 rw[key (A i)] at h;exact Rg.x9 h
theorem RI.fac{m N c s:Nat}{A M:Mk K}{cols:List Nat}(I:RI m N c A M cols):Dv m c s A↔cols.length≤s:=by
 constructor
 · intro h;exact h.ge (fun p=>cols.getD p 0) I.lt I.indep
 · intro h;exact Dv.more ⟨fun i p=>A i (cols.getD p 0),M,fun i k hi hk=>I.by hk hi⟩ h
end
end Lift
namespace Lift
def vM{v:List NQ}(F:FV v)(a:cV):Mk F.K:=fun i k=>F.val (bk a i k)
theorem yk(v:List NQ)(e:cV)(r c:Nat): ∀n i,i<n→n≤e.length→(dA v e r c n).getD i []=if i≠r∧rD v (bk e i c)≠0 then m6 v (e.getD i []) (e.getD r []) (bk e i c) else e.getD i []
 | 0,i,hi,_=>absurd hi (Nat.not_lt_zero i)
 | n+1,i,hi,hn=>by
   by_cases e1:i=n
   · subst e1;unfold dA;rw[z0];split
     · rw[eH,if_pos ⟨rfl,by rw[jv];omega⟩,ir v e r c i i (.inl (ai _)),ir v e r c i r (.inr rfl)]
     · exact ir v e r c i i (.inl (ai _))
   · have ih:=yk v e r c n i (by omega) (by omega);rw[← ih]
     conv=>lhs;unfold dA
     split
     · rw[eH,if_neg (fun h=>e1 h.1)]
     · rfl
theorem Dm{v:List NQ}{s:jK}{c i:Nat}(h1:s.cols.length≤atR v s c)(h:atR v s c<s.rows.length)(hi:i<s.rows.length):(bR v s c).getD i []=s.rows.getD (sw s.cols.length (atR v s c) i) []:=by
 unfold bR;split
 · rename_i e;rw[e];unfold sw;by_cases g:i=s.cols.length
   · rw[if_pos g,g]
   · rw[if_neg g,if_neg g]
 · unfold Gc sw;rw[eH,eH];by_cases g:i=s.cols.length
   · rw[if_pos ⟨g,by rw[List.length_set];omega⟩,if_pos g]
   · rw[if_neg (fun h=>g h.1),if_neg g];by_cases g2:i=atR v s c
     · rw[if_pos ⟨g2,h⟩,if_pos g2]
     · rw[if_neg (fun h=>g2 h.1),if_neg g2]
theorem Gh{v:List NQ}(V:pa v)(F:FV v){m N c:Nat}{s:jK}(R:pb v m N c s)(hc:c<N)(h:atR v s c<s.rows.length):
  vM F s.rows (atR v s c) c≠0∧ ∀i k,i<m→k<N→vM F (dA v (eR v s c) s.cols.length c (eR v s c).length) i k=if i=s.cols.length then vM F s.rows (atR v s c) k*F.K.inv (vM F s.rows (atR v s c) c) else vM F s.rows (sw s.cols.length (atR v s c) i) k-vM F s.rows (sw s.cols.length (atR v s c) i) c*(vM F s.rows (atR v s c) k*F.K.inv (vM F s.rows (atR v s c) c)):=by
 have hl:=R.len;obtain ⟨a1,a2,a3,a4⟩:=fj v s c (by have:=R.cm;omega);have hz:=a4 h;obtain ⟨b1,b2,b3⟩:=rA (c:=c) R h;obtain ⟨e1,e2,e3⟩:=yb V (c:=c) R h;have hrm:s.cols.length<m:=by omega
 have eB: ∀i k,i<m→bk (bR v s c) i k=bk s.rows (sw s.cols.length (atR v s c) i) k:=fun i k hi=>by
  unfold bk;rw[Dm a1 h (by omega)]
 have hp:pR v s c=bk s.rows (atR v s c) c:=by
  unfold pR;rw[eB _ _ hrm,KG]
 have hpz:rD v (pR v s c)≠0:=by rw[hp];exact hz
 have eE: ∀i k,i<m→k<N→bk (eR v s c) i k=if i=s.cols.length then xc v (bk s.rows (atR v s c) k) (bk s.rows (atR v s c) c) else bk s.rows (sw s.cols.length (atR v s c) i) k:=fun i k hi hk=>by
  unfold bk eR;rw[eH];by_cases e:i=s.cols.length
  · rw[if_pos ⟨e,by omega⟩,if_pos e,uj _ _ _ (by rw[b2 _ (by omega)];exact hk),hp,Dm a1 h (by omega),KG];rfl
  · rw[if_neg (fun h=>e h.1),if_neg e,Dm a1 h (by omega)]
 have ltR:=R.lt
 have vE: ∀i k,i<m→k<N→F.val (bk (eR v s c) i k)=if i=s.cols.length then vM F s.rows (atR v s c) k*F.K.inv (vM F s.rows (atR v s c) c) else vM F s.rows (sw s.cols.length (atR v s c) i) k:=fun i k hi hk=>by
  rw[eE i k hi hk];by_cases e:i=s.cols.length
  · rw[if_pos e,if_pos e,F.div (ltR _ _) (ltR _ _) hz];rfl
  · rw[if_neg e,if_neg e];rfl
 refine⟨fun e=>hz ((F.sg (ltR _ _)).2 e),fun i k hi hk=>?_⟩;have hd:=yk v (eR v s c) s.cols.length c (eR v s c).length i (by omega) (ai _);show F.val (((dA v (eR v s c) s.cols.length c (eR v s c).length).getD i []).getD k [])=_;rw[hd];by_cases e:i=s.cols.length
 · rw[if_neg (fun h=>h.1 e),if_pos e];have:=vE i k hi hk;rw[if_pos e] at this;exact this
 · rw[if_neg e];have v1:=vE i k hi hk;have v2:=vE i c hi hc;have v3:=vE s.cols.length k hrm hk;rw[if_neg e] at v1 v2;rw[if_pos rfl] at v3;by_cases g:rD v (bk (eR v s c) i c)=0
   · rw[if_neg (fun h=>h.2 g)];have z:=(F.sg (e3 i c)).1 g;rw[v2] at z;rw[z,Rg.zero_mul];show F.val (bk (eR v s c) i k)=_;rw[v1];exact(Rg.bG [vM F s.rows (sw s.cols.length (atR v s c) i) k] (X0-0) X0 rfl).symm
   · rw[if_pos ⟨e,g⟩,oc v _ _ _ (by rw[e2 i (by omega)];exact hk)];show F.val (gm (bk (eR v s c) i k) (fQ v (bk (eR v s c) i c) (bk (eR v s c) s.cols.length k)))=_;rw[F.sub (e3 i k) (ij V (e3 i c) (e3 _ k)),F.mul (e3 i c) (e3 _ k)];show F.val (bk (eR v s c) i k) -F.val (bk (eR v s c) i c)*F.val (bk (eR v s c) s.cols.length k)=_;rw[v1,v2,v3]
theorem CB{v:List NQ}(V:pa v)(F:FV v){a:cV}{N:Nat}(hr:dk N a)(hl:rB v.length a): ∀c,c≤N→RI a.length N c (vM F a) (vM F (aC v a c).rows) (aC v a c).cols
 | 0,_=>RI.start a.length N (vM F a)
 | c+1,hc=>by
   have I:=CB V F hr hl c (by omega);have R:=kj V hr hl c;have hlen:=R.len;obtain ⟨a1,a2,a3,a4⟩:=fj v (aC v a c) c (by have:=R.cm;omega);show RI a.length N (c+1) (vM F a) (vM F (cL v (aC v a c) c).rows) (cL v (aC v a c) c).cols;unfold cL;by_cases h:atR v (aC v a c) c<(aC v a c).rows.length
   · rw[if_pos h];obtain ⟨h3,h4⟩:=Gh V F R (by omega) h;exact I.hit (by omega) a1 (by omega) h3 h4
   · rw[if_neg h];exact I.Nt (by omega) fun q h1 h2=>(F.sg (R.lt q c)).1 (a3 q h1 (by omega))
theorem dk.take{N:Nat}{a:cV}(h:dk N a)(n:Nat):dk N (a.take n):=fun j hj=>by
 rw[bb] at hj;rw[aN,List.getElem?_take,if_pos (by omega),← aN];exact h j (by omega)
theorem Jy{a:cV}{n j:Nat}(hj:j<n):(a.take n).getD j []=a.getD j []:=by
 rw[aN,List.getElem?_take,if_pos hj,← aN]
theorem vT{a:cV}{n j:Nat}(hj:j<n)(k:Nat):bk (a.take n) j k=bk a j k:=by
 unfold bk;rw[Jy hj]
theorem rB.take{l:Nat}{a:cV}(h:rB l a)(n:Nat):rB l (a.take n):=fun j k=>by
 by_cases hj:j<n
 · rw[vT hj];exact h j k
 · unfold bk;rw[mq (by rw[bb];omega)];exact cD l
theorem Fa{m0:Nat}{v:List NQ}(V:iX m0 v){a b:cV}{N n:Nat}(ha:dk N a)(la:rB v.length a)(hb:dk a.length b)(lb:rB v.length b)(hbN:b.length=N)(hab: ∀i k,i<a.length→k<N→bk b k i=bk a i k)(hn:n≤a.length):
  (aC v b n).cols.length=(aC v (a.take n) N).cols.length:=by
 obtain ⟨F⟩:=Mv V;have I1:=CB V.a F hb lb n hn;have I2:=CB V.a F (ha.take n) (la.take n) N (ai N);have hl:(a.take n).length=n:=by rw[bb];omega
 rw[hl] at I2;rw[hbN] at I1
 have key: ∀s,Dv N n s (vM F b)↔Dv n N s (vM F (a.take n)):=fun s=>by
  constructor
  · intro h;refine h.L0.congr fun i k hi hk=>?_;show F.val (bk b k i)=F.val (bk (a.take n) i k);rw[hab i k (by omega) hk,vT hi]
  · intro h;refine h.L0.congr fun k i hk hi=>?_;show F.val (bk (a.take n) i k)=F.val (bk b k i);rw[hab i k (by omega) hk,vT hi]
 have h1:=fun s=>(I1.fac (s:=s)).symm.trans ((key s).trans I2.fac);exact Nat.le_antisymm ((h1 _).2 (ai _)) ((h1 _).1 (ai _))
end Lift
namespace Lift
def de(a:cV):cV:=(List.range (bK a)).map fun k=>a.map fun r=>r.getD k []
theorem gG(a:cV):(de a).length=bK a:=by unfold de;rw[ah,List.length_range]
theorem n9(a:cV){k:Nat}(h:k<bK a):(de a).getD k []=a.map fun r=>r.getD k []:=by
 unfold de;rw[aN,List.getElem?_map,List.getElem?_range h];rfl
theorem Ev(a:cV)(k i:Nat):(a.map fun r=>r.getD k []).getD i []=bk a i k:=by
 unfold bk;rw[aN,List.getElem?_map,aN (l:=a)];cases a[i]? with
 | none=>exact(re (Nat.zero_le k)).symm
 | some r=>rfl
theorem uM(a:cV){i k:Nat}(h:k<bK a):bk (de a) k i=bk a i k:=by
 show ((de a).getD k []).getD i []=_;rw[n9 a h];exact Ev a k i
theorem kc(a:cV):dk a.length (de a):=fun k hk=>by
 rw[gG] at hk;rw[n9 a hk,ah]
theorem EU{p:NQ→Prop}(h0:p []){a:cV}(h: ∀i k,p (bk a i k)): ∀i k,p (bk (de a) i k):=fun k i=>by
 by_cases hk:k<bK a
 · rw[uM a hk];exact h i k
 · unfold bk;rw[mq (by rw[gG];omega)];exact h0
theorem mW{l:Nat}{a:cV}(h:rB l a):rB l (de a):=EU (p:=ay l) (cD l) h
theorem Ci{a:cV}(h:0<bK a):bK (de a)=a.length:=by
 unfold bK;rw[n9 a h,ah]
def o9(v:List NQ)(a:cV)(c:Nat):List Nat:=(List.range c).filter fun i=> !(aC v a c).cols.contains i
theorem AP(v:List NQ)(a:cV)(c:Nat):(aC v a (c+1)).cols=(aC v a c).cols++[c]∨(aC v a (c+1)).cols=(aC v a c).cols:=by
 show (cL v (aC v a c) c).cols=(aC v a c).cols++[c]∨(cL v (aC v a c) c).cols=(aC v a c).cols;unfold cL;split
 · exact .inl rfl
 · exact .inr rfl
theorem DW(v:List NQ)(a:cV): ∀c,∀x∈(aC v a c).cols,x<c
 | 0,x,h=>by cases h
 | c+1,x,h=>by
   have ih:=DW v a c;rcases AP v a c with e | e
   · rw[e] at h;rcases List.mem_append.1 h with h | h
     · exact Nat.lt_succ_of_lt (ih x h)
     · rw[List.mem_singleton.1 h];exact Nat.lt_succ_self c
   · rw[e] at h;exact Nat.lt_succ_of_lt (ih x h)
theorem C1(v:List NQ)(a:cV)(c:Nat):((aC v a (c+1)).cols=(aC v a c).cols++[c]∧o9 v a (c+1)=o9 v a c)∨((aC v a (c+1)).cols=(aC v a c).cols∧o9 v a (c+1)=o9 v a c++[c]):=by
 have hlt:=DW v a c;rcases AP v a c with e | e
 · refine .inl ⟨e,?_⟩;unfold o9;rw[List.range_succ,List.filter_append,e];rw[show List.filter (fun i=> !((aC v a c).cols++[c]).contains i) [c]=[] by simp,List.append_nil];refine List.filter_congr fun i hi=>?_;have hi:=List.mem_range.1 hi;have:i≠c:=by omega
   simp[this]
 · refine .inr ⟨e,?_⟩;unfold o9;rw[List.range_succ,List.filter_append,e]
   congr 1
   have:c ∉ (aC v a c).cols:=fun h=>absurd (hlt c h) (Nat.lt_irrefl c);simp[this]
theorem x5(v:List NQ)(a:cV): ∀c,(o9 v a c).length+(aC v a c).cols.length=c
 | 0=>rfl
 | c+1=>by
   have ih:=x5 v a c;rcases C1 v a c with ⟨e1,e2⟩ | ⟨e1,e2⟩
   · rw[e1,e2,List.length_append];show _+(_+1)=_;omega
   · rw[e1,e2,List.length_append];show _+1+_=_;omega
theorem Ht(v:List NQ)(a:cV)(c:Nat): ∀x∈o9 v a c,x<c:=fun x h=>List.mem_range.1 (List.mem_filter.1 h).1
def kY(v:List NQ)(a:cV):List Nat:=o9 v (de a) a.length
theorem GL{m0:Nat}{v:List NQ}(V:iX m0 v){a:cV}(G:Ik v a){n:Nat}(hn:n≤a.length):(aC v (de a) n).cols.length=(aC v (a.take n) (bK a)).cols.length :=
 Fa V G.r G.lt (kc a) (mW G.lt) (gG a) (fun i k _ hk=>uM a hk) hn
theorem ud{v:List NQ}(V:pa v){a:cV}(G:Ik v a):(qn v a).cols.length≤a.length∧(qn v a).cols.length≤bK a :=
 ⟨(kj V G.r G.lt (bK a)).cm,(kj V G.r G.lt (bK a)).cl⟩
theorem E8{m0:Nat}{v:List NQ}(V:iX m0 v){a:cV}(G:Ik v a):(qn v (de a)).cols.length=(qn v a).cols.length∧(aC v (de a) a.length).cols.length=(qn v a).cols.length:=by
 have h:=GL V G (ai a.length);rw[List.take_length] at h;refine⟨?_,h⟩;by_cases h0:0<bK a
 · unfold qn at *;rw[Ci h0];exact h
 · have e:de a=[]:=List.length_eq_zero_iff.1 (by rw[gG];omega);have:=(ud V.a G).2;unfold qn at *;rw[e,yQ];show 0=_;omega
theorem AQ{m0:Nat}{v:List NQ}(V:iX m0 v){a:cV}(G:Ik v a):(kY v a).length=a.length-(qn v a).cols.length:=by
 have h1:=x5 v (de a) a.length;have h2:=(E8 V G).2;have h3:=(ud V.a G).1;unfold kY;omega
end Lift
namespace Lift
open Go Go.Proofs
theorem pJ: ∀{r:List RD},(∀x∈r,a7 x.n∧a7 x.d)→ ∃D:QR.T,D≠0∧bZ.Z (jM r+1) D∧CZ (jM r+1) D (au r)
 | [],_=>⟨1,oI,Iw,CZ.nil _ _⟩
 | x::r,h=>by
   obtain ⟨D,d0,dz,hD⟩:=pJ (r:=r) (fun y hy=>h y (List.mem_cons_of_mem _ hy));obtain ⟨wn,wd⟩:=h x (List.mem_cons_self ..);have ew:jM (x::r)=x.n.length+x.d.length+jM r:=rfl
   have tail: ∀{t:QR.T},bZ.Z x.d.length t→ ∀i,bZ.Z (jM (x::r)+1) (cq (cf (au r) i)*(D*t)):=fun {t} ht i=>by
    rw[← Rg.mul_assoc];exact b7 (bt (hD i) ht) (by omega)
   by_cases hv:x.val=0
   · refine⟨D,d0,b7 dz (by omega),fun i=>?_⟩;cases i with
     | zero =>
       show bZ.Z _ (cq x.val*D);rw[hv];show bZ.Z _ ((0:QR.T)*D);rw[Rg.zero_mul];exact Al _
     | succ i=>exact b7 (hD i) (by omega)
   · have hok:x.okB=true:=by
      cases hb:x.okB with
      | true=>rfl
      | false=>exact absurd (RD.tY hb) hv
     have hn:x.n≠[]:=fun e=>hv (RD.nZ e);obtain ⟨p1,p2,_⟩:=RD.parts (k:=x.n.length+x.d.length) ⟨wn,wd,by omega,by omega⟩ hok hn
     have zt:bZ.Z x.d.length (cq (((x.val.den:Int):Rat))):=⟨(x.val.den:Int),rfl,by
      rw[Int.natAbs_natCast,p2];exact df wd⟩
     have zx:bZ.Z x.n.length (cq x.val*cq (((x.val.den:Int):Rat))):=⟨x.val.num,Ea x.val,by
      rw[p1,oh];exact df wn⟩
     have t0:cq (((x.val.den:Int):Rat))≠0:=uw x.val;refine⟨D*cq (((x.val.den:Int):Rat)),cR d0 t0,b7 (bt dz zt) (by omega),fun i=>?_⟩;cases i with
     | zero =>
       show bZ.Z _ (cq x.val*(D*cq (((x.val.den:Int):Rat))));rw[show cq x.val*(D*cq (((x.val.den:Int):Rat)))=cq x.val*cq (((x.val.den:Int):Rat))*D from Rg.bG [cq x.val,D,cq (((x.val.den:Int):Rat))] (X0*(X1*X2)) (X0*X2*X1) rfl];exact b7 (bt zx dz) (by omega)
     | succ i=>exact tail zt i
structure Iu (l:Lkg) (a:Asm):Prop where
 r2:a.rt.length≤2
 nb6:l.bodies.length≤6∨8<l.bodies.length
 n:Iq l a+4*a.rt.length≤16
theorem EJ.s{l:Lkg}{a:Asm}(S:EJ l a):Iu l a:=⟨S.r2,S.nb6,S.n⟩
theorem Iu.pt{l:Lkg}{a:Asm}(S:Iu l a){i k:Nat}(hi:i<l.bodies.length)(hk:k<(l.bodies.getD i default).pts.length):zF ((l.bodies.getD i default).pts.getD k default)+4*a.rt.length≤16:=by
 have h1:=H7 l.bodies hi hk;have h2:=zu (fun i=>dZ (a.rt.getD i [])) (ru l.bodies l.bodies.length) a.rt.length;have h3:=qE a.bodies (rX (fun i=>dZ (a.rt.getD i [])) (ru l.bodies l.bodies.length) a.rt.length) a.bodies.length;have h4:=S.n;unfold Iq at h4;omega
theorem Iu.root{l:Lkg}{a:Asm}(S:Iu l a){i:Nat}(hi:i<a.rt.length):jM (a.rt.getD i [])+4*a.rt.length≤16:=by
 have h2:=zp (fun i=>dZ (a.rt.getD i [])) (ru l.bodies l.bodies.length) hi;have h3:=qE a.bodies (rX (fun i=>dZ (a.rt.getD i [])) (ru l.bodies l.bodies.length) a.rt.length) a.bodies.length;have h4:=S.n;unfold Iq at h4;have h5:dZ (a.rt.getD i [])+4*a.rt.length≤16:=by omega
 rw[f' (by omega)] at h5;exact h5
theorem Iu.pl{l:Lkg}{a:Asm}(S:Iu l a){i:Nat}(hi:i<a.bodies.length):jM (a.bodies.getD i default).c+4*a.rt.length≤16∧jM (a.bodies.getD i default).s+4*a.rt.length≤16∧jM (a.bodies.getD i default).x+4*a.rt.length≤16∧jM (a.bodies.getD i default).y+4*a.rt.length≤16:=by
 obtain ⟨h1,h2,h3,h4⟩:=y4 a.bodies (rX (fun i=>dZ (a.rt.getD i [])) (ru l.bodies l.bodies.length) a.rt.length) hi;have h5:=S.n;unfold Iq at h5;rw[← f' (r:=(a.bodies.getD i default).c) (by omega),← f' (r:=(a.bodies.getD i default).s) (by omega),← f' (r:=(a.bodies.getD i default).x) (by omega),← f' (r:=(a.bodies.getD i default).y) (by omega)];omega
def LH(r:List NQ):Prop:= ∃D:QR.T,D≠0∧bZ.Z 200 D∧ ∀q∈r,CZ 200 D q
theorem G0{r:List RD}(h:tV r): ∀x∈r,a7 x.n∧a7 x.d:=fun x hx=>by
 obtain ⟨i,hi,rfl⟩:=List.getElem_of_mem hx;have:=h.2 i;rw[aN,bQ hi] at this;exact⟨this.1,this.2.1⟩
section
variable {l:Lkg} {a:Asm} (S:Iu l a) (O:FK l a) (hl:l.ok 16) (ha:AsB a)
include S O hl ha
omit O hl in
theorem L5:NK (17-4*a.rt.length) (a.rt.map au):=fun j hj=>by
 rw[ah] at hj;have h1:=S.root hj
 have hg:(a.rt.map au).getD j []=au (a.rt.getD j []):=by
  rw[aN,List.getElem?_map,aN,bQ hj];rfl
 obtain ⟨D,d0,dz,hD⟩:=pJ (G0 (ha.r j));rw[hg];exact⟨D,d0,b7 dz (by omega),hD.mono (by omega)⟩
theorem EF(b:Int)(b0:0≤b)(b1:b<l.bodies.length): ∃DB:QR.T,DB≠0∧bZ.Z (4*(17-4*a.rt.length)) DB∧ ∀p:Int,0≤p→p<(l.bodies.getD b.toNat default).pts.length→ ∃t:QR.T,t≠0∧bZ.Z (17-4*a.rt.length) t ∧
  CZ (5*(17-4*a.rt.length)+2) (DB*t) (ui (a.rt.map au) l a b p)∧CZ (5*(17-4*a.rt.length)+2) (DB*t) (ug (a.rt.map au) l a b p):=by
 have hb:b.toNat<a.bodies.length:=by have:=O.G.ln;omega
 obtain ⟨w1,w2,w3,w4⟩:=S.pl hb;have P:=(O.P b b0 b1).2;obtain ⟨Dc,c0,cz,hc⟩:=pJ (G0 (ha.c b.toNat));obtain ⟨Ds,s0,sz,hs⟩:=pJ (G0 (ha.s b.toNat));obtain ⟨Dx,x0,xz,hx⟩:=pJ (G0 (ha.x b.toNat));obtain ⟨Dy,y0,yz,hy⟩:=pJ (G0 (ha.y b.toNat));obtain ⟨u,hu⟩: ∃u,u=17-4*a.rt.length:=⟨_,rfl⟩;rw[← hu];have cz:bZ.Z u Dc:=b7 cz (by omega);have sz:bZ.Z u Ds:=b7 sz (by omega);have xz:bZ.Z u Dx:=b7 xz (by omega);have yz:bZ.Z u Dy:=b7 yz (by omega);have hc:CZ u Dc (w9 (a.bodies.getD b.toNat default)).c:=gU.mono hc (by omega);have hs:CZ u Ds (w9 (a.bodies.getD b.toNat default)).s:=gU.mono hs (by omega);have hx:CZ u Dx (w9 (a.bodies.getD b.toNat default)).x:=gU.mono hx (by omega);have hy:CZ u Dy (w9 (a.bodies.getD b.toNat default)).y:=gU.mono hy (by omega);refine⟨Dc*Ds*(Dx*Dy),cR (cR c0 s0) (cR x0 y0),b7 (bt (bt cz sz) (bt xz yz)) (by omega),fun p p0 p1=>?_⟩;have hbl:b.toNat<l.bodies.length:=by omega
 have hm:=(hl.b b.toNat).2.2 p.toNat;have hw:=S.pt hbl (show p.toNat<_ by omega);generalize hmk:(l.bodies.getD b.toNat default).pts.getD p.toNat default=mk at hm hw
 obtain ⟨t,t0,tz,ht⟩:=pJ (r:=[mk.x,mk.y]) (fun y hy=>by
  simp only[List.mem_cons,List.not_mem_nil,or_false] at hy;rcases hy with rfl | rfl
  · exact⟨hm.2.1.1,hm.2.1.2.1⟩
  · exact⟨hm.2.2.1,hm.2.2.2.1⟩)
 have ew:jM [mk.x,mk.y]=zF mk:=by
  show mk.x.n.length+mk.x.d.length+(mk.y.n.length+mk.y.d.length+0)=mk.x.n.length+mk.x.d.length+mk.y.n.length+mk.y.d.length;omega
 rw[ew] at tz ht;have tz:bZ.Z u t:=b7 tz (by omega);have tx:bZ.Z u (cq mk.x.val*t):=b7 (ht 0) (by omega);have ty:bZ.Z u (cq mk.y.val*t):=b7 (ht 1) (by omega);refine⟨t,t0,tz,?_⟩;have V:=O.V
 have eX:ui (a.rt.map au) l a b p=LV (a.rt.map au) (w9 (a.bodies.getD b.toNat default)) (rU mk.x.val) (rU mk.y.val):=by
  unfold ui;rw[hmk]
 have eY:ug (a.rt.map au) l a b p=LU (a.rt.map au) (w9 (a.bodies.getD b.toNat default)) (rU mk.x.val) (rU mk.y.val):=by
  unfold ug;rw[hmk]
 rw[eX,eY];have lx:=(kZ (a.rt.map au).length (q:=mk.x.val) (ai _)).1;have ly:=(kZ (a.rt.map au).length (q:=mk.y.val) (ai _)).1;generalize w9 (a.bodies.getD b.toNat default)=pl at *;have pc:=P.c.1;have ps:=P.s.1;have px:=P.x.1;have py:=P.y.1
 have e1: ∀{x:NQ},CZ (u+u) (Dc*t) x→CZ (5*u) (Dc*Ds*(Dx*Dy)*t) x:=fun {x} h=>by
  have:=gU.scale h (bt sz (bt xz yz));rw[show Dc*t*(Ds*(Dx*Dy))=Dc*Ds*(Dx*Dy)*t from Rg.bG [Dc,t,Ds,Dx,Dy] (X0*X1*(X2*(X3*X4))) (X0*X2*(X3*X4)*X1) rfl] at this;exact gU.mono this (by omega)
 have e2: ∀{x:NQ},CZ (u+u) (Ds*t) x→CZ (5*u) (Dc*Ds*(Dx*Dy)*t) x:=fun {x} h=>by
  have:=gU.scale h (bt cz (bt xz yz));rw[show Ds*t*(Dc*(Dx*Dy))=Dc*Ds*(Dx*Dy)*t from Rg.bG [Dc,t,Ds,Dx,Dy] (X2*X1*(X0*(X3*X4))) (X0*X2*(X3*X4)*X1) rfl] at this;exact gU.mono this (by omega)
 have e3:CZ (5*u) (Dc*Ds*(Dx*Dy)*t) pl.x:=by
  have:=gU.scale hx (bt (bt cz sz) (bt yz tz));rw[show Dx*(Dc*Ds*(Dy*t))=Dc*Ds*(Dx*Dy)*t from Rg.bG [Dc,t,Ds,Dx,Dy] (X3*(X0*X2*(X4*X1))) (X0*X2*(X3*X4)*X1) rfl] at this;exact gU.mono this (by omega)
 have e4:CZ (5*u) (Dc*Ds*(Dx*Dy)*t) pl.y:=by
  have:=gU.scale hy (bt (bt cz sz) (bt xz tz));rw[show Dy*(Dc*Ds*(Dx*t))=Dc*Ds*(Dx*Dy)*t from Rg.bG [Dc,t,Ds,Dx,Dy] (X4*(X0*X2*(X3*X1))) (X0*X2*(X3*X4)*X1) rfl] at this;exact gU.mono this (by omega)
 have m1:=e1 (CZ.Jh V pc tx hc);have m2:=e2 (CZ.Jh V ps ty hs);have m3:=e2 (CZ.Jh V ps tx hs);have m4:=e1 (CZ.Jh V pc ty hc);have n1:=ij V.a pc lx;have n2:=ij V.a ps ly;have n3:=ij V.a ps lx;have n4:=ij V.a pc ly;have addL: ∀{x y:NQ},ay (a.rt.map au).length x→ay (a.rt.map au).length y→ay (a.rt.map au).length (wu x y):=fun hx hy=>bV (hx.plus hy);exact⟨CZ.add (qi n1 n2) px (CZ.sub n1 n2 m1 m2) (gU.mono e3 (by omega)),CZ.add (addL n3 n4) py (CZ.add n3 n4 m3 m4) (gU.mono e4 (by omega))⟩
theorem He{j:cG}(J:NL l.bodies j): ∀r∈Ir (a.rt.map au) l a j,LH r:=by
 have hr2:=S.r2;have V:=O.V;obtain ⟨ρ,ρ0,ρz,hmul⟩:=CZ.mul V (L5 S ha);obtain ⟨DA,A0,Az,hA⟩:=EF S O hl ha j.a J.a.1 J.a.2;obtain ⟨DB,B0,Bz,hB⟩:=EF S O hl ha j.b J.b.1 J.b.2;obtain ⟨tp,p0,pz,px,py⟩:=hA j.pt J.pt.1 J.pt.2;obtain ⟨tq,q0,qz,qx,qy⟩:=hB j.on J.on.1 J.on.2;obtain ⟨x1,x2⟩:=O.X j.a j.pt J.a.1 J.a.2 J.pt.1 J.pt.2;obtain ⟨y1,y2⟩:=O.X j.b j.on J.b.1 J.b.2 J.on.1 J.on.2;have hvl:(a.rt.map au).length=a.rt.length:=ah ..;obtain ⟨R,hR⟩: ∃R,R=Rl (17-4*a.rt.length) (a.rt.map au).length:=⟨_,rfl⟩
 have hb:11*(17-4*a.rt.length)+6+R≤200:=by
  rw[hR,hvl];generalize a.rt.length=k at hr2
  match k,hr2 with
  | 0,_=>decide
  | 1,_=>decide
  | 2,_=>decide
 rw[← hR] at ρz hmul;clear hR;generalize 17-4*a.rt.length=u at *;have z1: ∀{D:QR.T} {X:Nat},CZ X D []:=fun {D X}=>CZ.nil X D;unfold Ir;intro r hr;split at hr
 · rename_i hk;obtain ⟨tr,r0,rz,rx,ry⟩:=hB j.to (J.to (by omega)).1 (J.to (by omega)).2;obtain ⟨w1,w2⟩:=O.X j.b j.to J.b.1 J.b.2 (J.to (by omega)).1 (J.to (by omega)).2;rw[List.mem_singleton] at hr;subst hr;generalize ui (a.rt.map au) l a j.a j.pt=PX at *;generalize ug (a.rt.map au) l a j.a j.pt=PY at *;generalize ui (a.rt.map au) l a j.b j.on=QX at *;generalize ug (a.rt.map au) l a j.b j.on=QY at *;generalize ui (a.rt.map au) l a j.b j.to=RX at *;generalize ug (a.rt.map au) l a j.b j.to=RY at *;have up: ∀{x:NQ},CZ (5*u+2) (DB*tq) x→CZ (6*u+2) (DB*tq*tr) x:=fun h=>gU.mono (gU.scale h rz) (by omega)
   have up': ∀{x:NQ},CZ (5*u+2) (DB*tr) x→CZ (6*u+2) (DB*tq*tr) x:=fun {x} h=>by
    have:=gU.scale h qz;rw[show DB*tr*tq=DB*tq*tr from Rg.bG [DB,tr,tq] (X0*X1*X2) (X0*X2*X1) rfl] at this;exact gU.mono this (by omega)
   have ny:=CZ.sub y2.1 w2.1 (up qy) (up' ry);have nx:=CZ.sub w1.1 y1.1 (up' rx) (up qx);have ly:=qi (l:=(a.rt.map au).length) y2.1 w2.1;have lx:=qi (l:=(a.rt.map au).length) w1.1 y1.1;have m1:=hmul _ _ _ _ _ _ lx x1.1 nx px;have m2:=hmul _ _ _ _ _ _ ly x2.1 ny py;have lm1:=ij V.a lx x1.1;have lm2:=ij V.a ly x2.1;have w:=CZ.sub lm1 lm2 m1 m2
   have sc: ∀{x:NQ},CZ (6*u+2+1) (DB*tq*tr) x→CZ 200 (DB*tq*tr*(DA*tp)*ρ) x:=fun {x} h=>by
    have:=gU.scale h (bt (bt Az pz) ρz);rw[show DB*tq*tr*(DA*tp*ρ)=DB*tq*tr*(DA*tp)*ρ from (Rg.mul_assoc _ _ _).symm] at this;exact gU.mono this (by omega)
   have c1:=sc ny;have c2:=sc nx;have c3:CZ 200 (DB*tq*tr*(DA*tp)*ρ) _:=gU.mono w (by omega);refine⟨DB*tq*tr*(DA*tp)*ρ,cR (cR (cR (cR B0 q0) r0) (cR A0 p0)) ρ0,b7 (bt (bt (bt (bt Bz qz) rz) (bt Az pz)) ρz) (by omega),?_⟩;refine l9 (l9 (fun q hq=>?_) c1 c2 c3) (CZ.neg ly c1) (CZ.neg lx c2) (CZ.neg (qi lm1 lm2) c3);rw[(List.mem_replicate.1 hq).2];exact z1
 · generalize ui (a.rt.map au) l a j.a j.pt=PX at *;generalize ug (a.rt.map au) l a j.a j.pt=PY at *;generalize ui (a.rt.map au) l a j.b j.on=QX at *;generalize ug (a.rt.map au) l a j.b j.on=QY at *;have zD:bZ.Z (5*u+5*u) (DA*tp*(DB*tq)):=b7 (bt (bt Az pz) (bt Bz qz)) (by omega);have zA:bZ.Z (5*u) (DA*tp):=b7 (bt Az pz) (by omega);have zB:bZ.Z (5*u) (DB*tq):=b7 (bt Bz qz) (by omega);have hD0:DA*tp*(DB*tq)≠0:=cR (cR A0 p0) (cR B0 q0);have sp: ∀{x:NQ},CZ (5*u+2) (DA*tp) x→CZ 200 (DA*tp*(DB*tq)) x:=fun h=>gU.mono (gU.scale h zB) (by omega);have sq: ∀{x:NQ},CZ (5*u+2) (DB*tq) x→CZ 200 (DA*tp*(DB*tq)) x:=fun h=>gU.mono (gU.KQ h zA) (by omega);have o1:CZ 200 (DA*tp*(DB*tq)) [1]:=CZ.one (b7 zD (by omega))
   have zr: ∀q∈rN l.bodies.length,CZ 200 (DA*tp*(DB*tq)) q:=fun q hq=>by
    rw[(List.mem_replicate.1 hq).2];exact z1
   have lone:=eZ (a.rt.map au).length 1;simp only[List.mem_cons,List.not_mem_nil,or_false] at hr;rcases hr with rfl | rfl
   · exact⟨_,hD0,b7 zD (by omega),l9 (l9 zr o1 z1 (CZ.neg x2.1 (sp py))) (CZ.neg lone o1) z1 (sq qy)⟩
   · exact⟨_,hD0,b7 zD (by omega),l9 (l9 zr z1 o1 (sp px)) z1 (CZ.neg lone o1) (CZ.neg y1.1 (sq qx))⟩
theorem DU: ∀i,i≤l.joints.length→ ∀r∈ki (a.rt.map au) l a i,LH r
 | 0,_,r,hr=>by cases hr
 | i+1,hi,r,hr=>by
   rcases List.mem_append.1 hr with h | h
   · exact DU i (by omega) r h
   · exact He S O hl ha (O.G.lk.j i (by omega)) r h
theorem Bn{i:Nat}(hi:i<(gN l a).length): ∃D:QR.T,D≠0∧bZ.Z 200 D∧ ∀j,CZ 200 D (bk (gN l a) i j):=by
 have h:LH ((gN l a).getD i []):=by
  rw[aN,bQ hi];exact DU S O hl ha _ (ai _) _ (List.getElem_mem hi)
 obtain ⟨D,d0,dz,hD⟩:=h;exact⟨D,d0,dz,fun j=>EH hD (CZ.nil _ _) j⟩
theorem Jg(N:Nat):xm 200 200 N (fun _=>1) (gN l a):=by
 refine⟨fun i hi=>?_,fun j _=>⟨b7 Iw (by decide),oI⟩⟩;obtain ⟨D,d0,dz,hD⟩:=Bn S O hl ha hi;exact⟨D,d0,dz,fun j _ k=>by rw[Rg.mul_one];exact hD j k⟩
theorem ES: ∃e,xm 200 200 (gN l a).length e (de (gN l a)):=by
 refine⟨fun i=>if h:i<(gN l a).length then (Bn S O hl ha h).choose else 1,fun k hk=>?_,fun i hi=>?_⟩
 · rw[gG] at hk;refine⟨1,oI,b7 Iw (by decide),fun i hi c=>?_⟩;rw[uM _ hk,Rg.one_mul,dif_pos hi];exact(Bn S O hl ha hi).choose_spec.2.2 k c
 · rw[dif_pos hi];exact⟨(Bn S O hl ha hi).choose_spec.2.1,(Bn S O hl ha hi).choose_spec.1⟩
end
end Lift
namespace Lift
open Go Go.Proofs
end Lift
namespace Lift
open Go Go.Proofs
end Lift
namespace Lift
open Go Go.Proofs
theorem HJ{v:List NQ}(hrt:cK v)(hp:pd v){l j:Nat}{s:NQ}(hj:j≤l)(hl:l<v.length)(hsl:s.length=2^(j+1))(h:aY v (l+1) (cf s)≠0)(hN:aY v j (bo v j (cf s))=0):aY v l (cf (aX (s.take (s.length / 2)) (s.take (s.length / 2))))≠0:=by
 obtain ⟨e1,e2,e3⟩:=bA hsl;have ex:jL j (cf (s.take (s.length / 2))) (cf s):=eV _ e3;have ls:bL (j+1) (cf s):=aT (by omega);have lx:bL j (cf (s.take (s.length / 2))):=aT (by omega);obtain ⟨Tj⟩:=KD hp j (by omega);have hdj:=hp j (by omega)
 let T:=tF Tj hdj
 rw[bI v ls (by omega)] at h
 have hT:Tj.R.sgn (OR.nr (Tj.of (cf (v.getD j []))) (T.of (cf s)))=aY v j (bo v j (cf s)):=by
  rw[← Tj.sgn]
  congr 1
  show Tj.of (cf s)*Tj.of (cf s) -Tj.of (bw j (cf s))*Tj.of (bw j (cf s))*Tj.of (cf (v.getD j []))=Tj.of (bo v j (cf s));rw[← Tj.mul,← Tj.mul,← Tj.mul,← Tj.sub];rfl
 have cxx:cf (aX (s.take (s.length / 2)) (s.take (s.length / 2)))=fun i=>cf (s.take (s.length / 2)) i+cf (s.take (s.length / 2)) i:=funext fun i=>dW _ _ i
 have lxx:bL j (cf (aX (s.take (s.length / 2)) (s.take (s.length / 2)))):=by
  rw[cxx];exact fun i hi=>by
   show _+_=(0:Rat);rw[lx i hi];exact Rat.add_zero 0
 have hes:T.R.sgn (T.of (cf s))≠0:=by rw[T.sgn];exact h
 have F:=OR.Et (R:=Tj.R) (d:=Tj.of (cf (v.getD j []))) (by rw[Tj.sgn];exact hdj) hes (by
  have h5:=hT;rw[hN] at h5;exact h5)
 rw[bI v lxx hj,← Tj.sgn,cxx,Tj.add,Tj.cong _ _ ex];exact F.2
theorem xG{v:List NQ}{l:Nat}{a:NQ}(ha:ay l a)(h:aY v l (cf a)≠0):(aA a).length≠0:=fun e=>by
 have:=bc ha;rw[List.length_eq_zero_iff.1 e] at this;rw[← this] at h;exact h (dG v l)
end Lift
namespace Lift
end Lift
namespace Lift
theorem zb{l k m r:Nat}{R:NQ→NQ→NQ}{O:NQ→NQ→Prop}{rt:List NQ}{a b:NQ}(ha:ay l a)(hb:ay l b)(hab:b.length≤a.length)(hrt:cK rt)(hl:l≤rt.length)(sa:aB k a)(sb:aB m b)(sr:dm r rt)(hk:tT r l (k+m)≤17300000000000)
  (hR: ∀l',l=l'+1→ ∀a' b' k' m',ay l' a'→ay l' b'→aB k' a'→aB m' b'→tT r l' (k'+m')≤17300000000000→O a' b'∧ay l' (R a' b')∧aB (tT r l' (k'+m')) (R a' b')):Mc R O rt a b:=by
 have h2:=qg r l (k+m);refine⟨sa.mono (by omega),sb.mono (by omega),fun h1 hza hzb=>?_⟩;have hb0:0<b.length:=List.length_pos_iff.2 (jY hzb);have ha0:0<a.length:=List.length_pos_iff.2 (jY hza)
 obtain ⟨i,hi,hla⟩: ∃i,i≤l∧a.length=2^i:=by
  rcases ha with e | e
  · omega
  · exact e
 have vN:i≠0:=fun e=>h1 (by rw[hla,e]);obtain ⟨j,rfl⟩: ∃j,i=j+1:=⟨i-1,by omega⟩;obtain ⟨l',rfl⟩: ∃l',l=l'+1:=⟨l-1,by omega⟩;have hj:j≤l':=by omega
 have hR:=fun a' b' k' m' h1 h2 h3 h4 h5=>hR l' rfl a' b' k' m' h1 h2 h3 h4 h5;obtain ⟨e1,e2,e3⟩:=bA hla;have hx:ay l' (a.take (a.length / 2)):= .inr ⟨j,hj,e1⟩;have hy:ay l' (a.drop (a.length / 2)):= .inr ⟨j,hj,e2⟩;have hk:tT r l' (k+m)+tT r l' (tT r l' (k+m)+r)+1≤17300000000000:=hk;refine⟨fun h3=>?_,fun h3=>?_⟩
 · have hb':ay l' b:=by
    rcases hb with e | ⟨i',_,e⟩
    · exact .inl e
    · refine .inr ⟨i',?_,e⟩;rw[e3,e] at h3;have:=ib h3;omega
   exact⟨(hR _ _ k m hx hb' (sa.take _) sb (by omega)).1,(hR _ _ k m hy hb' (sa.drop _) sb (by omega)).1⟩
 have hlb:b.length=2^(j+1):=by
  rcases hb with e | ⟨i',_,e⟩
  · omega
  · rw[e] at h3 hab ⊢;rw[hla] at hab;rw[e3] at h3;have h4:=ib hab;have h5: ¬i'≤j:=fun h=>h3 (Nat.pow_le_pow_right (by decide) h);rw[show i'=j+1 by omega]
 obtain ⟨f1,f2,f3⟩:=bA hlb;rw[show b.length / 2=a.length / 2 by rw[f3,e3]] at f1 f2;have hu:ay l' (b.take (a.length / 2)):= .inr ⟨j,hj,f1⟩;have hv:ay l' (b.drop (a.length / 2)):= .inr ⟨j,hj,f2⟩;have r1:=hR _ _ k m hx hu (sa.take _) (sb.take _) (by omega);have r2:=hR _ _ k m hy hv (sa.drop _) (sb.drop _) (by omega);have r3:=hR _ _ k m hx hv (sa.take _) (sb.drop _) (by omega);have r4:=hR _ _ k m hy hu (sa.drop _) (sb.take _) (by omega);have hlog:a.length.log2-1=j:=by rw[hla,Nat.log2_two_pow];omega
 rw[hlog];have hd:ay l' (rt.getD j []):= .inr ⟨j,hj,hrt j (by omega)⟩;have r5:=hR _ _ (tT r l' (k+m)) r r2.2.1 hd r2.2.2 (sr j) (by omega);exact⟨⟨r1.1,r2.1,r5.1,r3.1,r4.1⟩,r1.2.2.mono (by omega),r5.2.2.mono (by omega),r3.2.2.mono (by omega),r4.2.2.mono (by omega)⟩
theorem GU: ∀(l:Nat) {k m r:Nat} {rt:List NQ} {a b:NQ},ay l a→ay l b→cK rt→l≤rt.length→aB k a→aB m b→dm r rt→tT r l (k+m)≤17300000000000→A9 l rt a b
 | 0,k,m,r,rt,a,b,ha,hb,hrt,hl,sa,sb,sr,hk=>by
   show tI _ _ rt a b;unfold tI;split
   · exact zb hb ha (by omega) hrt hl sb sa sr (by rw[Nat.add_comm m k];exact hk) (fun l' h=>by omega)
   · exact zb ha hb (by omega) hrt hl sa sb sr hk (fun l' h=>by omega)
 | l+1,k,m,r,rt,a,b,ha,hb,hrt,hl,sa,sb,sr,hk=>by
   show tI (aV l rt) (A9 l rt) rt a b;unfold tI
   have ih: ∀l',l+1=l'+1→ ∀a' b' k' m',ay l' a'→ay l' b'→aB k' a'→aB m' b'→tT r l' (k'+m')≤17300000000000→A9 l rt a' b'∧ay l' (aV l rt a' b')∧aB (tT r l' (k'+m')) (aV l rt a' b'):=fun l' e a' b' k' m' h1 h2 h3 h4 h5=>by
    obtain rfl:l=l':=by omega
    exact⟨GU l h1 h2 hrt (by omega) h3 h4 sr h5,e8 l h1 h2 hrt (by omega),Aw hrt sr (by omega) h1 h3 h2 h4⟩
   split
   · exact zb hb ha (by omega) hrt hl sb sa sr (by rw[Nat.add_comm m k];exact hk) ih
   · exact zb ha hb (by omega) hrt hl sa sb sr hk ih
def Fg(r:Nat):Nat→Nat→Prop
 | 0,k=>k≤17300000000000
 | l+1,k=>sT (l+1) k≤17300000000000∧pG l (tT r (l+1) (k+k))∧Fg r l (tT r (l+1) (k+k))∧iQ r (l+1) k≤17300000000000
theorem Fg.le{r:Nat}: ∀{l k:Nat},Fg r l k→k≤17300000000000
 | 0,k,h=>h
 | l+1,k,h=>by have:=cg (l+1) k;have:=h.1;omega
theorem K2{v:List NQ}{r:Nat}(hrt:cK v)(hp:pd v)(sr:dm r v): ∀(l:Nat) {k:Nat} {a:NQ},ay l a→l≤v.length→aB k a→r≤k→aY v l (cf a)≠0→Fg r l k→LP l v a:=by
 intro l
 induction l with
 | zero =>
   intro k a ha hl sa hrk h hk;exact⟨sa.mono hk.le,xG ha h⟩
 | succ l ih =>
   intro k a ha hl sa hrk h hk;obtain ⟨k1,k2,k3,k4⟩:=hk;have h2:=cg (l+1) k;have h5:=F8 r l (k+k);have h0:=xG ha h;have hc:=bc ha;refine⟨sa.mono (by omega),h0,fun hne=>?_⟩;rw[← hc] at h;obtain ⟨hs,ss⟩:=bf ha sa;generalize aA a=s at *
   obtain ⟨j,hj,hsl⟩: ∃j,j≤l∧s.length=2^(j+1):=by
    rcases hs with e | ⟨i,hi,e⟩
    · exact absurd e h0
    · rcases i with _ | j
      · exact absurd e hne
      · exact⟨j,by omega,e⟩
   obtain ⟨e1,e2,e3⟩:=bA hsl;have hx:ay l (s.take (s.length / 2)):= .inr ⟨j,hj,e1⟩;have hn:=qO hj hsl hrt (show l<v.length by omega);have sn:=D7 hrt sr hj (show l<v.length by omega) hsl ss;have s1:=dL l hn.1 hrt (by omega)
   have lowN:bL j (bo v j (cf s)):=fun i hi=>by
    unfold bo;rw[bg v j _ _ i hi,bg v j _ _ i hi];exact Rat.sub_self
   refine⟨GV hj hsl hrt (by omega) ss (sr.mono hrk) k1,pH l hn.1 hrt (by omega) sn (sr.mono (by omega)) k2,fun hz=>?_,fun hz=>⟨?_,?_⟩⟩
   · rw[s1,hn.2,bI v lowN hj] at hz;have hd:=HJ hrt hp hj (by omega) hsl h hz;exact ih (hx.plus hx) (by omega) (((ss.take _).plus (ss.take _)).mono (by omega)) (by omega) hd k3
   · rw[s1] at hz;exact ih hn.1 (by omega) sn (by omega) hz k3
   · have hjl:ay (l+1) (dP (s.take (s.length / 2)) (aZ (s.drop (s.length / 2))) (s.length / 2)):= .inr ⟨j+1,by omega,by
      rw[dH]
      omega⟩
     exact GU (l+1) hjl ((gu l hn.1 hrt (by omega)).mono (Nat.le_succ l)) hrt hl ((ss.take _).join (ss.drop _).minus _) (K9 hrt sr l hn.1 (by omega) sn) sr k4
end Lift
namespace Lift
theorem Ff{m m' N c k k' r:Nat}{v:List NQ}{s:jK}(V:iX m v)(R:pb v m' N c s)(hs:JR k s.rows)(hd:aB k s.gX)(he:atR v s c<s.rows.length→JR k' (eR v s c)∧aB k' (bX v.length v (pR v s c)))(hk:k≤k')(hr:dm r v)(hrk:r≤k)(h1:pG v.length k)(h2:Fg r v.length k)(h3:sT v.length k'+k'+1≤17300000000000):kx v s c:=by
 have hl:=R.len;have hm:=R.cm;have hsT:=cg v.length k';have ro:=V.ro;have hrv:dm k' v:=hr.mono (by omega);have rv:dm k v:=hr.mono hrk;have sg: ∀{x:NQ},ay v.length x→aB k x→CJ v x:=fun hx sx=>pH v.length hx ro (ai _) sx rv h1
 have mul: ∀{x y:NQ},ay v.length x→aB k' x→ay v.length y→aB k' y→Be v x y∧aB (sT v.length k') (aV v.length v x y):=fun hx sx hy sy =>
  have t:=dt v.length hx hy ro (ai _) sx sy hrv
  ⟨⟨sx.mono (by omega),sy.mono (by omega),pE v.length hx hy ro (ai _) sx sy hrv (by omega),t.2.mono (by omega)⟩,t.2⟩
 by_cases h:atR v s c<s.rows.length
 · obtain ⟨b1,b2,b3⟩:=rA R h;obtain ⟨e1,e2,e3⟩:=yb V.a R h;obtain ⟨se,si⟩:=he h
   have sb:JR k (bR v s c):=fun i j=>by
    unfold bR;split
    · exact hs i j
    · unfold Gc bk;rw[eH];split
      · exact hs _ j
      · rw[eH];split
        · exact hs _ j
        · exact hs i j
   have hp:=GP R h
   have hps:aY v v.length (cf (pR v s c))≠0:=by
    have:=dL v.length (b3 s.cols.length c) ro (ai _);show aY v v.length (cf (bk (bR v s c) s.cols.length c))≠0;rw[← this];exact hp
   have hpi:LP v.length v (pR v s c):=K2 ro V.pos hr v.length (b3 s.cols.length c) (ai _) (sb _ _) hrk hps h2;refine⟨fun j _ _=>sg (R.lt j c) (hs j c),fun _=>(mul R.gX (hd.mono hk) (b3 s.cols.length c) ((sb _ _).mono hk)).1,fun _ j _=>?_,fun _ i _ hne=>?_,fun _ i _ hne _ j _=>?_⟩
   · have t:=mul (b3 s.cols.length j) ((sb _ _).mono hk) (gu v.length (b3 s.cols.length c) ro (ai _)) si;exact⟨(sb _ _).mono (by omega),(sb _ _).mono (by omega),sg (b3 s.cols.length c) (sb _ _),hp,hpi,t.1.2.2.1,t.1.2.2.2⟩
   · have g:bk (eR v s c) i c=bk (bR v s c) i c:=by
      unfold eR bk;rw[eH,if_neg (fun g=>hne g.1)]
     rw[g];exact sg (b3 i c) (sb i c)
   · obtain ⟨q1,q2⟩:=mul (e3 i c) (se i c) (e3 s.cols.length j) (se s.cols.length j);have q3:aB (sT v.length k') (fQ v (bk (eR v s c) i c) (bk (eR v s c) s.cols.length j)):=(bf (e8 v.length (e3 i c) (e3 s.cols.length j) ro (ai _)) q2).2;exact⟨q1,(se i j).mono (by omega),q3.mono (by omega),((se i j).plus q3.minus).mono (by omega)⟩
 · exact⟨fun j _ _=>sg (R.lt j c) (hs j c),fun g=>absurd g h,fun g=>absurd g h,fun g=>absurd g h,fun g=>absurd g h⟩
theorem Mo:pG 2 (Fz 200 200 14):=⟨by decide,by decide,by show _≤_;decide⟩
theorem Mp: ∀l,l≤2→Fg 16 l (Fz 200 200 14)
 | 0,_=>by show _≤_;decide
 | 1,_=>⟨by decide,by show _≤_;decide,by show _≤_;decide,by decide⟩
 | 2,_=>⟨by decide,⟨by decide,by show _≤_;decide⟩,⟨by decide,by show _≤_;decide,by show _≤_;decide,by decide⟩,by decide⟩
theorem Mn: ∀l,l≤2→sT l (Fz 200 200 15)+Fz 200 200 15+1≤17300000000000
 | 0,_=>by decide
 | 1,_=>by decide
 | 2,_=>by decide
theorem Ai{p q:Nat}(h:p≤q):Fz 200 200 p≤Fz 200 200 q:=by
 unfold Fz;have:=Kg 168 (200+40) h;have:=Ke 168 (200+40) h;omega
theorem u5{m:Nat}{v:List NQ}(V:iX m v)(l2:v.length≤2)(hm:dm 16 v){a:cV}{N:Nat}(hr:dk N a)(hl:rB v.length a)(h:tA v a N (Fz 200 200))(hmin:N≤15∨a.length≤15): ∀c,c<N→kx v (aC v a c) c:=fun c hc=>by
 have R:=kj V.a hr hl c;have h1:=R.cl;have h2:=R.cm;have h3:=R.len;by_cases hp:(aC v a c).cols.length<(aC v a c).rows.length
 · obtain ⟨g1,g2,g3⟩:=h c (by omega);have f1:=Ai (show (aC v a c).cols.length≤14 by omega);have f2:=Ai (show (aC v a c).cols.length+1≤15 by omega);exact Ff V R (fun i j=>(g1 i j).mono f1) (g2.mono f1) (fun g=>⟨fun i j=>((g3 hc g).1 i j).mono f2,(g3 hc g).2.mono f2⟩) (Ai (by decide)) hm (by decide) (vr Mo l2) (Mp _ l2) (Mn _ l2)
 · have ha:=(fj v (aC v a c) c (by omega)).1;exact⟨fun j _ _=>by omega,fun g=>by omega,fun g=>by omega,fun g=>by omega,fun g=>by omega⟩
end Lift
namespace Lift
open Go Go.Proofs
theorem nG(n:Int)(hn: -1000≤n∧n≤1000):Pure Tryz.prog 50 [dI n] (bE [Qr (n:Rat)]):=by
 refine qJ 6 Tryz.func50 rfl rfl rfl rfl (by kernel_rfl) (fun B F0 w0=>?_);have c1:=xO n (by omega) (by omega);refine qX 1 rfl (qK 1 rfl (ae.call tok rfl rfl rfl rfl c1 (ae.nR tok rfl rfl rfl rfl rfl ?_)));exact qU 1 rfl (qN rfl)
abbrev Nz:List Mark:=[⟨⟨#[79]⟩,Qr 0,Qr 0⟩,⟨⟨#[65]⟩,Qr ((1:Int):Rat),Qr 0⟩]
abbrev C5:Lkg:=⟨⟨#[109]⟩,[⟨⟨#[102,114,97,109,101]⟩,Nz⟩,⟨⟨#[99,114,97,110,107]⟩,Nz⟩],[⟨⟨#[106]⟩,0,1,0,0,0,0⟩],[]⟩
abbrev M5:gx:=⟨[Qr ((1:Int):Rat)],[Qr ((0:Int):Rat)],[Qr ((0:Int):Rat)],[Qr ((0:Int):Rat)]⟩
abbrev Es:Asm:=⟨[],[M5,M5],[]⟩
theorem sh:Pure Tryz.prog 29 [] (.tu [C5.D,Es.D]):=by
 refine qJ 27 Tryz.func29 rfl rfl rfl rfl (by kernel_rfl) (fun B F0 w0=>?_);have c1:=xO 1 (by omega) (by omega);have w1:=nG 1 (by omega);have w0':=nG 0 (by omega)
 have e1:Mark.D ⟨⟨#[79]⟩,Qr 0,Qr 0⟩= .ag [dS ⟨#[79]⟩,dB false,.sl 1 [],.sl 1 [],dB false,.sl 1 [],.sl 1 []]:=by
  show D.ag [dS ⟨#[79]⟩,dB (Qr 0).g,Wd (Qr 0).n,Wd (Qr 0).d,dB (Qr 0).g,Wd (Qr 0).n,Wd (Qr 0).d]=_;rw[iY];rfl
 have e2: ∀r:RD,Mark.D ⟨⟨#[65]⟩,r,Qr 0⟩= .ag [dS ⟨#[65]⟩,dB r.g,Wd r.n,Wd r.d,dB false,.sl 1 [],.sl 1 []]:=fun r=>by
  show D.ag [dS ⟨#[65]⟩,dB r.g,Wd r.n,Wd r.d,dB (Qr 0).g,Wd (Qr 0).n,Wd (Qr 0).d]=_;rw[iY];rfl
 have eL:C5.D= .ag [dS ⟨#[109]⟩,.sl 2 [.ag [dS ⟨#[102,114,97,109,101]⟩,.sl 7 [.ag [dS ⟨#[79]⟩,dB false,.sl 1 [],.sl 1 [],dB false,.sl 1 [],.sl 1 []],.ag [dS ⟨#[65]⟩,dB (Qr ((1:Int):Rat)).g,Wd (Qr ((1:Int):Rat)).n,Wd (Qr ((1:Int):Rat)).d,dB false,.sl 1 [],.sl 1 []]]],.ag [dS ⟨#[99,114,97,110,107]⟩,.sl 7 [.ag [dS ⟨#[79]⟩,dB false,.sl 1 [],.sl 1 [],dB false,.sl 1 [],.sl 1 []],.ag [dS ⟨#[65]⟩,dB (Qr ((1:Int):Rat)).g,Wd (Qr ((1:Int):Rat)).n,Wd (Qr ((1:Int):Rat)).d,dB false,.sl 1 [],.sl 1 []]]]],.sl 7 [.ag [dS ⟨#[106]⟩,dI 0,dI 1,dI 0,dI 0,dI 0,dI 0]],.sl 2 []]:=by
  rw[← e1,← e2];rfl
 have eA:Es.D= .ag [.sl 1 [],.sl 4 [.ag [bE [Qr ((1:Int):Rat)],bE [Qr ((0:Int):Rat)],bE [Qr ((0:Int):Rat)],bE [Qr ((0:Int):Rat)]],.ag [bE [Qr ((1:Int):Rat)],bE [Qr ((0:Int):Rat)],bE [Qr ((0:Int):Rat)],bE [Qr ((0:Int):Rat)]]],.sl 1 []]:=rfl;rw[eL,eA];clear eL eA e1 e2;generalize Qr ((1:Int):Rat)=q at *;generalize Qr ((0:Int):Rat)=z at *;refine qX 2 rfl (qK 1 rfl (ae.call tok rfl rfl rfl rfl c1 (qU 1 rfl (ae.nR tok rfl rfl rfl rfl rfl ?_))));refine qU 1 rfl (qK 4 rfl (ae.nR tok rfl rfl rfl rfl rfl ?_));refine qU 1 rfl (ae.nR tok rfl rfl rfl rfl rfl ?_);refine qU 3 rfl (qI (AW.region (ae.call tok rfl rfl rfl rfl w1 (ae.call tok rfl rfl rfl rfl w0' (ae.call tok rfl rfl rfl rfl w0' (ae.call tok rfl rfl rfl rfl w0' (qU 3 rfl (qI (AW.nQ tok aU [(1,true),(4,false)] 5 [0,1] (by kernel_rfl) ⟨rfl,?_⟩)))))))));refine qP 1 rfl (af.nil ⟨rfl,?_⟩);refine qP 2 rfl (af.nR tok rfl rfl rfl rfl rfl rfl ?_);refine qP 1 rfl (af.nil ⟨_,oG.cons (.bx rfl) (oG.cons (.bx rfl) (oG.nil)),?_⟩);exact qN rfl
abbrev tf:cV:=[[[1],[],[]],[[],[1],[]]]
instance:DecidableEq jK:=fun a b=>if h:a.rows=b.rows∧a.cols=b.cols∧a.sg=b.sg∧a.gX=b.gX then isTrue (by
  cases a;cases b;obtain ⟨h1,h2,h3,h4⟩:=h;simp only[] at h1 h2 h3 h4;subst h1;subst h2;subst h3;subst h4;rfl) else isFalse (fun e=>h (by subst e;exact⟨rfl,rfl,rfl,rfl⟩))
theorem C3:fD C5 Es=0:=by decide +kernel
theorem JH:z8 C5=0:=by decide +kernel
theorem Kh:gN C5 Es=tf:=by decide +kernel
theorem MC:aC [] tf 1=⟨tf,[0],1,[1]⟩:=by decide +kernel
theorem MB:aC [] tf 2=⟨tf,[0,1],1,[1]⟩:=by decide +kernel
theorem MA:aC [] tf 3=⟨tf,[0,1],1,[1]⟩:=by decide +kernel
theorem C4(i k:Nat):aB 1 (bk tf i k)∧ay 0 (bk tf i k):=by
 have h:bk tf i k=[]∨bk tf i k=[1]:=by
  match i,k with
  | 0,0=>exact .inr rfl
  | 0,1=>exact .inl rfl
  | 0,2=>exact .inl rfl
  | 0,_+3=>exact .inl rfl
  | 1,0=>exact .inl rfl
  | 1,1=>exact .inr rfl
  | 1,2=>exact .inl rfl
  | 1,_+3=>exact .inl rfl
  | _+2,_=>exact .inl rfl
 rcases h with h | h
 · rw[h];exact⟨cH (by decide),cD _⟩
 · rw[h];exact⟨fZ gy,eZ _ _⟩
theorem Ax{k:Nat}(h:1≤k):dm k []:=fun i=>by
 rw[show ([]:List NQ).getD i []=[] by simp];exact cH h
theorem BX:cK []:=fun j hj=>absurd hj (Nat.not_lt_zero _)
theorem GW{a b:NQ}(ha:ay 0 a)(hb:ay 0 b)(sa:aB 1 a)(sb:aB 1 b):Be [] a b :=
 ⟨sa.mono (by decide),sb.mono (by decide),pE 0 ha hb BX (ai _) sa sb (Ax (ai _)) (by decide),(dt 0 ha hb BX (ai _) sa sb (Ax (ai _))).2.mono (by decide)⟩
theorem Hx:bX 0 [] [1]=[1]:=by decide +kernel
theorem K3{a:NQ}(ha:ay 0 a)(sa:aB 1 a):GY [] a [1]:=by
 have h1:aB 1 ([1]:NQ):=fZ gy;have hb:ay 0 ([1]:NQ):=eZ _ _;have m:=GW ha hb sa h1;refine⟨m.1,m.2.1,m.2.1,by decide +kernel,⟨m.2.1,by decide +kernel⟩,?_,?_⟩
 · show A9 0 [] a (bX 0 [] [1]);rw[Hx];exact m.2.2.1
 · show ph (aV 0 [] a (bX 0 [] [1]));rw[Hx];exact m.2.2.2
theorem zS{cols:List Nat}{c:Nat}{p:NQ}(h1:atR [] ⟨tf,cols,1,[1]⟩ c<2→bR [] ⟨tf,cols,1,[1]⟩ c=tf∧eR [] ⟨tf,cols,1,[1]⟩ c=tf∧pR [] ⟨tf,cols,1,[1]⟩ c=[1])
  (h2:atR [] ⟨tf,cols,1,[1]⟩ c<2→ ∀i,i<2→i≠cols.length→rD [] (bk tf i c)=0):kx [] ⟨tf,cols,1,[1]⟩ c:=by
 have k: ∀i k,ph (bk tf i k):=fun i k=>(C4 i k).1.mono (by decide);refine⟨fun j _ _=>k j c,fun h=>?_,fun h j _=>?_,fun h i _ _=>?_,fun h i hi hn hs=>?_⟩
 · rw[(h1 h).2.2];exact GW (eZ _ _) (eZ _ _) (fZ gy) (fZ gy)
 · rw[(h1 h).2.2,(h1 h).1];exact K3 (C4 _ _).2 (C4 _ _).1
 · rw[(h1 h).2.1];exact k i c
 · rw[(h1 h).2.1] at hs;exact absurd (h2 h i hi hn) hs
theorem MD: ∀c,c<3→kx [] (aC [] tf c) c
 | 0,_=>zS (p:=[]) (fun _=>⟨by decide +kernel,by decide +kernel,by decide +kernel⟩) (fun _ i hi hn=>by
   have h: ∀i:Fin 2,i.val≠0→rD [] (bk tf i.val 0)=0:=by decide +kernel
   exact h ⟨i,hi⟩ hn)
 | 1,_=>by
   rw[MC]
   exact zS (p:=[]) (fun _=>⟨by decide +kernel,by decide +kernel,by decide +kernel⟩) (fun _ i hi hn=>by
    have h: ∀i:Fin 2,i.val≠1→rD [] (bk tf i.val 1)=0:=by decide +kernel
    exact h ⟨i,hi⟩ hn)
 | 2,_=>by
   rw[MB];have h: ¬atR [] ⟨tf,[0,1],1,[1]⟩ 2<2:=by decide +kernel
   exact zS (p:=[]) (fun g=>absurd g h) (fun g=>absurd g h)
theorem JG:C5.ok 16:=by
 have q1:(Qr ((1:Int):Rat)).w 16:=iy _ (by have:=gy;rw[show ((1:Int):Rat)=1 from rfl];omega);have q0:(Qr 0).w 16:=iy _ (nX (by decide));have d0:(default:RD).w 16:=⟨fun x h=>absurd h (List.not_mem_nil (a:=x)),fun x h=>absurd h (List.not_mem_nil (a:=x)),Nat.zero_le _,Nat.zero_le _⟩;have dM:(default:Mark).ok 16:=⟨by decide,d0,d0⟩
 have hp: ∀k,(Nz.getD k default).ok 16:=fun k=>by
  match k with
  | 0=>exact⟨by decide,q0,q0⟩
  | 1=>exact⟨by decide,q1,q0⟩
  | _+2=>exact dM
 refine⟨by decide,by decide,by decide,by decide,fun i=>?_,fun i=>?_,fun i=>by show (default:Driver).nm.size≤_;decide⟩
 · match i with
   | 0=>exact⟨by decide,by decide,hp⟩
   | 1=>exact⟨by decide,by decide,hp⟩
   | _+2=>exact⟨by show (default:Body).nm.size≤_;decide,by show (default:Body).pts.length≤_;decide,fun k=>dM⟩
 · match i with
   | 0=>show (ByteArray.size ⟨#[106]⟩)≤_;decide
   | _+1=>show (default:cG).nm.size≤_;decide
end Lift
namespace Lift
open Go Go.Proofs
theorem Hw:FK C5 Es:=by
 have d0: ∀a:List RD,(∀r∈a,r=Qr ((1:Int):Rat)∨r=Qr ((0:Int):Rat))→wN 16 a:=fun a h i hi=>by
  have h1:(Qr ((1:Int):Rat)).w 16:=iy _ (by have:=gy;rw[show ((1:Int):Rat)=1 from rfl];omega);have h0:(Qr ((0:Int):Rat)).w 16:=iy _ (by have:=iZ;rw[show ((0:Int):Rat)=0 from rfl];omega);rw[aN,bQ hi];rcases h _ (List.getElem_mem hi) with e | e
  · rw[show (some a[i]).getD default=a[i] from rfl,e];exact h1
  · rw[show (some a[i]).getD default=a[i] from rfl,e];exact h0
 have w1:wN 16 [Qr ((1:Int):Rat)]:=d0 _ (fun r hr=> .inl (List.mem_singleton.1 hr));have w0:wN 16 [Qr ((0:Int):Rat)]:=d0 _ (fun r hr=> .inr (List.mem_singleton.1 hr));have hb:gx.ok 16 [] M5:=⟨⟨fun _=>w1,show 1≤4398046511104 by decide⟩,⟨fun _=>w0,show 1≤4398046511104 by decide⟩,⟨fun _=>w0,show 1≤4398046511104 by decide⟩,⟨fun _=>w0,show 1≤4398046511104 by decide⟩⟩;refine J3 JG ⟨⟨⟨1,by decide,by decide,fun i hi=>absurd hi (Nat.not_lt_zero _),fun _=>show 1≤17300000000000 by decide⟩,by decide,by decide,fun i hi=>absurd hi (Nat.not_lt_zero _)⟩,fun i hi=>?_,by decide⟩ (by decide) C3;have hi:i<2:=hi
 match i,hi with
 | 0,_=>exact hb
 | 1,_=>exact hb
theorem Hy:Es.ok 16:=by
 have w1:wN 16 [Qr ((1:Int):Rat)]:=fun i hi=>by
  have hi:i<1:=hi;obtain rfl:i=0:=by omega
  exact iy _ (by have:=gy;rw[show ((1:Int):Rat)=1 from rfl];omega)
 have w0:wN 16 [Qr ((0:Int):Rat)]:=fun i hi=>by
  have hi:i<1:=hi;obtain rfl:i=0:=by omega
  exact iy _ (by have:=iZ;rw[show ((0:Int):Rat)=0 from rfl];omega)
 have hb:gx.ok 16 [] M5:=⟨⟨fun _=>w1,show 1≤4398046511104 by decide⟩,⟨fun _=>w0,show 1≤4398046511104 by decide⟩,⟨fun _=>w0,show 1≤4398046511104 by decide⟩,⟨fun _=>w0,show 1≤4398046511104 by decide⟩⟩;refine⟨⟨⟨1,by decide,by decide,fun i hi=>absurd hi (Nat.not_lt_zero _),fun _=>show 1≤17300000000000 by decide⟩,by decide,by decide,fun i hi=>absurd hi (Nat.not_lt_zero _)⟩,fun i hi=>?_,by decide⟩;have hi:i<2:=hi
 match i,hi with
 | 0,_=>exact hb
 | 1,_=>exact hb
theorem Er:Pure Tryz.prog 46 [gY (Es.rt.map au),mS (gN C5 Es)] (.tu [dI (2:Nat),aR]):=by
 have V:iX 300000 (Es.rt.map au):=Hw.V.mono (by decide) (by decide)
 have h:=nE V (show 300000≤17300000000000 by decide) (oY Hw) (fun i k=>(D9 Hw i k).2) (fun c hc=>by
  rw[Kh] at hc ⊢
  exact MD c hc)
 rw[show (qn (Es.rt.map au) (gN C5 Es)).cols.length=2 by rw[Kh];show (aC [] tf 3).cols.length=2;rw[MA];rfl] at h;exact h
theorem nH:Pure Tryz.prog 9 [] (dB true):=by
 refine qJ 52 Tryz.func9 rfl rfl rfl rfl (by kernel_rfl) (fun B F0 w0=>?_);have ce:=sh;have c1:=mH C5 JG (by decide);have c2:=s8 C5 Es JG Hy (by decide) (by decide) (fun _=>Er);have c3:=nA C5 Es (r:=2) (by decide) JG Hy (by decide) (by decide) (fun _=>Er);unfold Jv at c1;unfold DY at c2;unfold En at c3;rw[if_neg (by rw[JH];decide),show Fu C5=1 by decide +kernel] at c1;rw[if_neg (by rw[C3];decide)] at c2;rw[if_neg (by rw[C3];decide),show (3*((C5.bodies.length:Int) -1) -((2:Nat):Int))=1 by decide] at c3;have hL: ∃x:List D,C5.D= .ag x∧x.length=4:=⟨_,rfl,rfl⟩;have hA: ∃x:List D,Es.D= .ag x∧x.length=3:=⟨_,rfl,rfl⟩;refine qX 1 rfl (qI (AW.region (ae.call tok rfl rfl rfl rfl ce (qU 7 rfl (qK 1 rfl (ae.call tok rfl rfl rfl rfl c1 (qU 5 rfl (qK 2 rfl ?_))))))));refine ae.call tok rfl rfl rfl rfl c2 (qU 5 rfl (qK 2 rfl (ae.call tok rfl rfl rfl rfl c3 (qU 5 rfl (qK 1 rfl (ae.err tok rfl rfl rfl rfl rfl (qU 2 rfl (ae.err tok rfl rfl rfl rfl rfl ?_))))))));exact qU 3 rfl (ae.err tok rfl rfl rfl rfl rfl (qU 14 rfl (qN rfl)))
end Lift
namespace Lift
structure Lo (v:List NQ):Prop where
 V:iX 2 v
 l1:v.length≤1
section
variable {v:List NQ} (L:Lo v) {k m:Nat} {a b:NQ}
include L
end
abbrev SzM(k:Nat)(a:cV):Prop:= ∀i j,aB k (bk a i j)
end Lift
namespace Lift
def v8(a:cV)(k:Nat):List NQ:=a.map fun r=>r.getD k []
theorem HP(a:cV)(k:Nat):(v8 a k).length=a.length:=ah ..
theorem HQ(a:cV)(k i:Nat):(v8 a k).getD i []=bk a i k:=Ev a k i
section
variable {m0:Nat} {v:List NQ} (V:iX m0 v) {a:cV} (G:Ik v a) {b:List NQ} (hb: ∀i,ay v.length (b.getD i []))
include V G hb
end
end Lift
namespace Lift
open Go Go.Proofs
abbrev FF(l:List Nat):D:= .sl 1 (l.map (fun c:Nat=>dI c))
theorem Kc{l:List Nat}{i:Nat}(h:i<l.length):(l.map (fun c:Nat=>dI c))[i]?=some (dI (l.getD i 0)):=by simp[h]
def Is(l:List Nat)(x:Nat)(i:Nat):Bool:=decide ((x:Int)=(l.getD i 0:Nat))
def M4(l:List Nat)(x:Nat):Int:=if jT (Is l x) (l.length-0) 0<l.length then (jT (Is l x) (l.length-0) 0:Nat) else -1
theorem Jp(l:List Nat)(x:Nat):decide (0≤M4 l x)=l.contains x:=by
 obtain ⟨h1,h2,h3,h4⟩:=sA (g:=Is l x) (m:=l.length-0) (i:=0);unfold M4;by_cases h:jT (Is l x) (l.length-0) 0<l.length
 · rw[if_pos h,aO (aj _)];have:=h4 (by omega)
   have e:x=l.getD (jT (Is l x) (l.length-0) 0) 0:=by
    have:=ak this;omega
   rw[e,aN,bQ h];exact(List.contains_iff_mem.2 (List.getElem_mem h)).symm
 · rw[if_neg h,a9 (by decide)];refine(Bool.eq_false_iff.2 fun hc=>?_).symm;have hm:=List.contains_iff_mem.1 hc;obtain ⟨j,hj,e⟩:=List.getElem_of_mem hm;have:=h3 j (Nat.zero_le _) (by omega);unfold Is at this;rw[aN,bQ hj] at this;have:=ar this;exact this (by show (x:Int)=((l[j]:Nat):Int);rw[e])
theorem rJ(bs:List Nat)(hl:bs.length≤1000000000000000)(x:Nat):Pure Tryz.prog 136 [FF bs,dI x] (dI (M4 bs x)):=by
 refine qJ 19 Tryz.func136 rfl rfl rfl rfl (by kernel_rfl) (fun B F0 w0=>?_);unfold M4;generalize hE:jT (Is bs x) (bs.length-0) 0=E;refine qX 1 rfl (qI (qX 3 rfl ?_));rw[ah];refine ae.nil ?_;refine AW.block (AW.aJ [0,1,7,8] (fun i:Nat=>[(0,.d (FF bs)),(1,.d (dI x)),(7,.d (dI bs.length)),(8,.d (dI i))]) (fun i=>i≤bs.length∧jT (Is bs x) (bs.length-i) i=E) (fun i=>bs.length-i) 0 rfl ⟨Nat.zero_le _,hE⟩ (fun i hi=>?_));obtain ⟨hi,hE⟩:=hi
 · skip
   refine qX 1 rfl (qI (AW.cond rfl (fun h=>?_) (fun h=>?_)))
   · have hin:i<bs.length:=by have:=ak h;omega
     have hhit:=BF (g:=Is bs x) hin;have hmiss:=xZ (g:=Is bs x) hin;refine AW.skip (AW.seq (AW.block (qX 2 rfl (qK 3 rfl (ae.idx tok (dI (bs.getD i 0)) rfl rfl rfl rfl (aj i) (Kc hin) ?_)))));refine qU 2 rfl (ae.nil (AW.cond rfl (fun h=>?_) (fun h=>?_)))
     · have e:E=i:=hE.symm.trans (hhit h);rw[e,if_pos hin];exact qX 2 rfl (qN rfl)
     · skip
       refine AW.skip (qT 1 rfl ?_);rw[aF (x:=(i:Int)+1) (by omega) (by omega)];refine qU 1 rfl (ae.nil ?_);exact⟨i+1,rfl,⟨hin,by rw[← hmiss h];exact hE⟩,by omega⟩
   have hin: ¬i<bs.length:=by have:=ar h;omega
   have e:E=i:=by rw[← hE,BG hin]
   rw[e,if_neg hin];exact AW.exit (qX 1 rfl (qN rfl))
theorem oK(bs:List Nat)(hl:bs.length≤1000000000000000)(x:Nat):Pure Tryz.prog 92 [FF bs,dI x] (dB (bs.contains x)):=by
 refine qJ 9 Tryz.func92 rfl rfl rfl rfl (by kernel_rfl) (fun B F0 w0=>?_);rw[← Jp];refine qX 1 rfl (qK 2 rfl (ae.call tok rfl rfl rfl rfl (rJ bs hl x) ?_));exact qU 2 rfl (qN rfl)
theorem F7{α:Type}{d:α}{l:List α}{i:Nat}(h:i<l.length):l.take (i+1)=l.take i++[l.getD i d]:=by
 rw[List.take_succ_eq_append_getElem h,aN,bQ h];rfl
theorem sd(a:cV)(k:Nat)(ha:a.length≤1000000)(hr: ∀i,i<a.length→k<(a.getD i []).length):Pure Tryz.prog 176 [mS a,dI k] (oH (v8 a k)):=by
 refine qJ 23 Tryz.func176 rfl rfl rfl rfl (by kernel_rfl) (fun B F0 w0=>?_);have hc:=HP a k
 have hts: ∀i,i<a.length→(v8 a k).take (i+1)=(v8 a k).take i++[(a.getD i []).getD k []]:=fun i hi=>by
  rw[F7 (d:=[]) (by omega),HQ];rfl
 have hta:(v8 a k).take a.length=v8 a k:=List.take_of_length_le (by omega);generalize v8 a k=zs at *;refine qX 1 rfl (qK 1 rfl (qI (qX 3 rfl ?_)));rw[ah];refine ae.nil (AW.block ?_);refine AW.aJ [0,1,5,8,9,10] (fun i:Nat=>[(0,.d (mS a)),(1,.d (dI k)),(5,.ow 52 ((zs.take i).map aq)),(8,.d (mS a)),(9,.d (dI a.length)),(10,.d (dI i))]) (fun i=>i≤a.length) (fun i=>a.length-i) 0 rfl (Nat.zero_le _) (fun i hi=>?_)
 · show AW _ _ _ _ _ _ _ [(0,.d (mS a)),(1,.d (dI k)),(5,.ow 52 ((zs.take i).map aq)),(8,.d (mS a)),(9,.d (dI a.length)),(10,.d (dI i))];refine qX 1 rfl (qI (AW.cond rfl (fun h=>?_) (fun h=>?_)))
   · have hii:i<a.length:=by have:=ak h;omega
     have g1:=getM oH (l:=a) (i:=i) hii;have g2:=getM aq (l:=a.getD i []) (i:=k) (hr i hii);have hts:=hts i hii;generalize a.getD i []=r at g1 g2 hts;generalize r.getD k []=x at g2 hts;refine AW.skip (AW.seq (AW.block (AW.seq (AW.region (ae.idx tok (oH r) rfl rfl rfl rfl (aj i) g1 ?_)))));refine qU 2 rfl (ae.nil (qT 3 rfl (ae.idx tok (aq x) rfl rfl rfl rfl (aj k) g2 ?_)));refine qU 1 rfl (ae.nR tok rfl rfl rfl rfl rfl ?_);refine ae.lP tok rfl rfl rfl rfl rfl rfl (by rw[ah,bb];show (_+1)*24≤_;omega) (by rw[ah,bb];show _+1≤_;omega) ?_;refine qU 1 rfl (ae.nil (qT 1 rfl ?_));rw[aF (x:=(i:Int)+1) (by omega) (by omega)];refine qU 1 rfl (ae.nil ?_);exact⟨i+1,by rw[hts,List.map_append];rfl,hii,by omega⟩
   have hii:i=a.length:=by have:=ar h;omega
   subst hii;rw[hta];refine AW.exit (AW.seq (AW.region (ae.iV tok 5 rfl rfl ?_)));exact qU 2 rfl (qN rfl)
theorem ET(a:cV){k:Nat}(h:k<bK a):(de a).getD k []=v8 a k:=n9 a h
theorem r6(a:cV)(ha:a.length≤1000000)(hc:bK a≤1000000)(hr:dk (bK a) a):Pure Tryz.prog 135 [mS a] (mS (de a)):=by
 refine qJ 18 Tryz.func135 rfl rfl rfl rfl (by kernel_rfl) (fun B F0 w0=>?_);have hz:=gG a
 have hts: ∀k,k<bK a→(de a).take (k+1)=(de a).take k++[v8 a k]:=fun k hk=>by
  rw[F7 (d:=[]) (by omega),ET a hk]
 have hta:(de a).take (bK a)=de a:=List.take_of_length_le (by omega);have cc:=fun k (hk:k<bK a)=>sd a k ha (fun i hi=>by rw[hr i hi];exact hk);generalize de a=zs at *;refine qX 1 rfl (qK 1 rfl (qI (qX 1 rfl (ae.call tok rfl rfl rfl rfl (kR a) ?_))));refine qU 1 rfl (ae.nil (AW.block ?_));refine AW.aJ [0,3,6,7] (fun i:Nat=>[(0,.d (mS a)),(3,.ow 27 ((zs.take i).map oH)),(6,.d (dI (bK a))),(7,.d (dI i))]) (fun i=>i≤bK a) (fun i=>bK a-i) 0 rfl (Nat.zero_le _) (fun i hi=>?_)
 · show AW _ _ _ _ _ _ _ [(0,.d (mS a)),(3,.ow 27 ((zs.take i).map oH)),(6,.d (dI (bK a))),(7,.d (dI i))];refine qX 1 rfl (qI (AW.cond rfl (fun h=>?_) (fun h=>?_)))
   · have hii:i<bK a:=by have:=ak h;omega
     have cc:=cc i hii;have hts:=hts i hii;generalize v8 a i=z at cc hts;refine AW.skip (AW.seq (AW.block (qX 2 rfl (ae.nil (qT 3 rfl (ae.call tok rfl rfl rfl rfl cc (ae.nR tok rfl rfl rfl rfl rfl ?_)))))));refine ae.lP tok rfl rfl rfl rfl rfl rfl (by rw[ah,bb];show (_+1)*24≤_;omega) (by rw[ah,bb];show _+1≤_;omega) ?_;refine qU 1 rfl (ae.nil (qT 1 rfl ?_));rw[aF (x:=(i:Int)+1) (by omega) (by omega)];refine qU 1 rfl (ae.nil ?_);exact⟨i+1,by rw[hts,List.map_append];rfl,hii,by omega⟩
   have hii:i=bK a:=by have:=ar h;omega
   subst hii;rw[hta];refine AW.exit (AW.seq (AW.region (ae.iV tok 3 rfl rfl ?_)));exact qU 2 rfl (qN rfl)
theorem mO{v:List NQ}{a:cV}(V:pa v)(G:Ik v a)(ok: ∀c,c<a.length→kx v (aC v (de a) c) c):Pure Tryz.prog 91 [gY v,mS a] (.tu [FF (aC v (de a) a.length).cols,aR]):=by
 refine qJ 20 Tryz.func91 rfl rfl rfl rfl (by kernel_rfl) (fun B F0 w0=>?_);have hGl:=G.l;have hGc:=G.c;have ct:=r6 a (by omega) (by omega) G.r;have cr:=nD V (most:=a.length) (by rw[gG];omega) (by omega) (ai _) (kc a) (mW G.lt) ok;generalize aC v (de a) a.length=s at *;generalize de a=z at *;refine qX 3 rfl (qI (AW.nQ tok aU [(8,true),(1,false),(1,true)] 10 [6] (by kernel_rfl) ⟨rfl,?_⟩));refine qP 2 rfl (af.call tok rfl rfl rfl rfl rfl ct (qP 2 rfl ?_));rw[ah];refine af.call tok rfl rfl rfl rfl rfl cr (qP 2 rfl (af.nil ⟨rfl,?_⟩));refine qP 1 rfl (af.nil ⟨rfl,?_⟩);refine qP 1 rfl (af.nil ⟨_,oG.cons (.bx rfl) (oG.nil),?_⟩);exact qU 1 rfl (qK 5 rfl (qN rfl))
theorem oO{m:Nat}{v:List NQ}{a:cV}(V:iX m v)(hk:pG v.length m)(G:Ik v a)(hs: ∀i k,aB m (bk a i k))(ok: ∀c,c<a.length→kx v (aC v (de a) c) c):Pure Tryz.prog 47 [gY v,mS a] (.tu [FF (kY v a),aR]):=by
 refine qJ 41 Tryz.func47 rfl rfl rfl rfl (by kernel_rfl) (fun B F0 w0=>?_);obtain ⟨r1,r2⟩:=G.raw V hs;have cc:=mI (V.s hk) r1;rw[r2,rP,GI] at cc;have hGl:=G.l;have ci:=mO V.a G ok;have hcl:=(kj V.a (kc a) (mW G.lt) a.length).cl;unfold kY o9;generalize aC v (de a) a.length=s at *
 have hf: ∀i,((List.range (i+1)).filter fun i=> !s.cols.contains i)=((List.range i).filter fun i=> !s.cols.contains i)++(if s.cols.contains i then [] else [i]):=fun i=>by
  rw[List.range_succ,List.filter_append]
  congr 1
  by_cases h:s.cols.contains i=true
  · rw[if_pos h,List.filter_cons_of_neg (by rw[h];simp)];rfl
  · rw[if_neg h,List.filter_cons_of_pos (by simp only[Bool.not_eq_true] at h;rw[h];rfl)];rfl
 have hfl: ∀i,((List.range i).filter fun i=> !s.cols.contains i).length≤i:=fun i=>Nat.le_trans (List.length_filter_le ..) (by rw[List.length_range];exact ai _);refine qX 3 rfl (qI (qX 2 rfl (ae.call tok rfl rfl rfl rfl cc (qU 1 rfl (qK 1 rfl (ae.err tok rfl rfl rfl rfl rfl (ae.nil (AW.aD rfl ?_))))))))
 · skip
   refine AW.skip (qX 2 rfl (ae.call tok rfl rfl rfl rfl ci (qU 5 rfl (qI (qX 1 rfl (ae.err tok rfl rfl rfl rfl rfl (ae.nil (AW.aD rfl ?_))))))))
   · skip
     refine AW.skip (qX 1 rfl (qI (qX 2 rfl ?_)));rw[ah];refine qU 1 rfl (ae.nil (AW.block ?_));refine AW.aJ [7,9,27,28] (fun i:Nat=>[(7,.d (FF s.cols)),(9,.ow 3 (((List.range i).filter fun i=> !s.cols.contains i).map (fun c:Nat=>dI c))),(27,.d (dI a.length)),(28,.d (dI i))]) (fun i=>i≤a.length) (fun i=>a.length-i) 0 rfl (Nat.zero_le _) (fun i hi=>?_)
     · show AW _ _ _ _ _ _ _ [(7,.d (FF s.cols)),(9,.ow 3 (((List.range i).filter fun i=> !s.cols.contains i).map (fun c:Nat=>dI c))),(27,.d (dI a.length)),(28,.d (dI i))];refine qX 1 rfl (qI (AW.cond rfl (fun h=>?_) (fun h=>?_)))
       · have hii:i<a.length:=by have:=ak h;omega
         have hf:=hf i;have hfl:=hfl i;have ch:=oK s.cols (by omega) i;generalize s.cols.contains i=b at hf ch;refine AW.skip (AW.seq (AW.block (qX 2 rfl (qK 2 rfl (ae.call tok rfl rfl rfl rfl ch (qU 1 rfl (ae.nil (AW.cond rfl (fun h=>?_) (fun h=>?_)))))))))
         · rw[show b=false by cases b;rfl;cases h] at hf;refine qT 2 rfl (ae.nR tok rfl rfl rfl rfl rfl ?_);refine ae.lP tok rfl rfl rfl rfl rfl rfl (by rw[ah];show (_+1)*8≤_;omega) (by rw[ah];show _+1≤_;omega) ?_;refine qU 1 rfl (ae.nil (qT 1 rfl ?_));rw[aF (x:=(i:Int)+1) (by omega) (by omega)];refine qU 1 rfl (ae.nil ?_);exact⟨i+1,by rw[hf,if_neg (by decide),List.map_append];rfl,hii,by omega⟩
         · rw[show b=true by cases b;cases h;rfl] at hf;refine AW.skip (qT 1 rfl ?_);rw[aF (x:=(i:Int)+1) (by omega) (by omega)];refine qU 1 rfl (ae.nil ?_);exact⟨i+1,by rw[hf,if_pos rfl,List.append_nil];rfl,hii,by omega⟩
       have hii:i=a.length:=by have:=ar h;omega
       subst hii;refine AW.exit (AW.seq (AW.region (ae.iV tok 9 rfl rfl ?_)));exact qU 3 rfl (qN rfl)
end Lift
namespace Lift
open Go Go.Proofs
section
variable {l:Lkg} {a:Asm} (S:Iu l a) (O:FK l a) (hl:l.ok 16) (ha:AsB a)
include S O hl ha
omit O hl in
theorem Gy(h2:(a.rt.map au).length=2):dm 8 (a.rt.map au):=fun j c=>by
 rw[ah] at h2;by_cases hj:j<a.rt.length
 · have h1:=S.root hj
   have hg:(a.rt.map au).getD j []=au (a.rt.getD j []):=by
    rw[aN,List.getElem?_map,aN,bQ hj];rfl
   rw[hg,Bg];split
   · have w:=(ha.r j).2 c;have h3:=yv (a.rt.getD j []) c;exact cy ⟨w.1,w.2.1,by omega,by omega⟩ (by decide)
   · rw[iZ];decide
 · have hz:(a.rt.map au).getD j []=[]:=by
    rw[aN,List.getElem?_eq_none (by rw[ah];omega)];rfl
   rw[hz];show LQ 0≤8;rw[iZ];decide
theorem G1(N:Nat)(hr:dk N (gN l a)):tA (a.rt.map au) (gN l a) N (Fz 200 200) :=
 AO O.V (Jg S O hl ha N) (by decide) hr (oY O).lt (ai _) O.l2 O.V.sz (Gy S ha)
theorem Fk: ∀c,c<bK (gN l a)→kx (a.rt.map au) (aC (a.rt.map au) (gN l a) c) c:=by
 have G:=oY O;have hb:l.bodies.length≤6:=by have:=O.G.lk.b8;have:=S.nb6;omega
 by_cases h0:0<(gN l a).length
 · have hc:=um O h0;exact u5 O.V O.l2 O.V.sz G.r G.lt (G1 S O hl ha _ G.r) (.inl (by omega))
 · intro c hc;unfold bK at hc;rw[mq (by omega)] at hc;exact absurd hc (Nat.not_lt_zero c)
theorem Au: ∀c,c<(gN l a).length→kx (a.rt.map au) (aC (a.rt.map au) (de (gN l a)) c) c:=by
 have G:=oY O;have hb:l.bodies.length≤6:=by have:=O.G.lk.b8;have:=S.nb6;omega
 by_cases h0:0<(gN l a).length
 · have hc:=um O h0;obtain ⟨e,hM⟩:=ES S O hl ha;exact u5 O.V O.l2 O.V.sz (kc _) (mW G.lt) (AO O.V hM (by decide) (kc _) (mW G.lt) (ai _) O.l2 O.V.sz (Gy S ha)) (.inr (by rw[gG];omega))
 · intro c hc;exact absurd hc (by omega)
omit S hl ha in
theorem ok3:pG (a.rt.map au).length 300000:=by
 refine vr (l:=2) ?_ O.l2;exact⟨by decide,by decide,by show _≤_;decide⟩
theorem Jf:Pure Tryz.prog 46 [gY (a.rt.map au),mS (gN l a)] (.tu [dI (qn (a.rt.map au) (gN l a)).cols.length,aR]) :=
 nE (O.V.mono (by decide) (by decide)) (ok3 O) (oY O) (fun i k=>(D9 O i k).2) (Fk S O hl ha)
theorem zo:Pure Tryz.prog 47 [gY (a.rt.map au),mS (gN l a)] (.tu [FF (kY (a.rt.map au) (gN l a)),aR]) :=
 oO (O.V.mono (by decide) (by decide)) (ok3 O) (oY O) (fun i k=>(D9 O i k).2) (Au S O hl ha)
end
end Lift
namespace Lift
open Go Go.Proofs
theorem G5{l:Lkg}{a:Asm}(h:fD l a=0):z8 l=0:=by
 unfold fD at h;split at h
 · rename_i g;exact absurd h g
 · rename_i g;exact Decidable.not_not.1 g
end Lift
namespace Lift
open Go Go.Proofs
theorem vI(l:Lkg)(a:Asm){K:Nat}(hl:l.ok K)(hK:K≤big)(ha:AsB a):Pure Tryz.prog 10 [l.D,a.D] (dB (!k5 l a&&decide (fD l a=0))):=by
 refine qJ 15 Tryz.func10 rfl rfl rfl rfl (by kernel_rfl) (fun B F0 w0=>?_);have cl:=vJ l a hl hK ha
 have cc:k5 l a=false→Pure Tryz.prog 16 [l.D,a.D] (dI (fD l a)):=fun h =>
  yT l a ((uT h).lok hl) (by decide) ((uT h).aok ha)
 generalize k5 l a=b at cl cc ⊢;generalize fD l a=z at cc ⊢;obtain ⟨ln,lb,js,lds⟩:=l;obtain ⟨rt,bs,md⟩:=a;refine qX 3 rfl (qK 2 rfl (ae.call tok rfl rfl rfl rfl cl ?_));cases b with
 | true =>
   exact qU 8 rfl (qN rfl)
 | false =>
 refine qU 4 rfl (ae.call tok rfl rfl rfl rfl (cc rfl) ?_);refine qU 3 rfl ?_;rw[show ((z:Int)==0)=decide (z=0) by by_cases h:z=0<;>simp[h]];exact qN rfl
end Lift
namespace Lift
open Go Go.Proofs
structure JW (l:Lkg) (a:Asm):Prop where
 hl:l.ok 16
 ha:a.ok 16
 hb:AsB a
 S:Iu l a
 O:FK l a
 m:fD l a=0
 nb:l.bodies.length≤1000000000000
theorem MS{l:Lkg}{a:Asm}{K:Nat}(hl:l.ok K)(ha:AsB a)(hL:(!k5 l a&&decide (fD l a=0))=true):JW l a∧EJ l a:=by
 obtain ⟨h1,h2⟩:=(Bool.and_eq_true _ _).mp hL;have hlg:k5 l a=false:=by simpa using h1
 have hm:fD l a=0:=ak h2;have S:=uT hlg;have hl16:=S.lok hl;have ha16:=S.aok ha;have hnb:=S.nb;exact⟨⟨hl16,ha16,ha,S.s,J3 hl16 ha16 S.r2 hm,hm,by omega⟩,S⟩
def KR(l:Lkg)(a:Asm):Nat:=(qn (a.rt.map au) (gN l a)).cols.length
theorem GF{l:Lkg}{a:Asm}(A:JW l a):KR l a≤32:=by
 have h:=(ud A.O.V.a (oY A.O)).1;have:=(oY A.O).l;unfold KR;omega
theorem Hs{l:Lkg}{a:Asm}(A:JW l a):Pure Tryz.prog 11 [l.D,a.D] (.tu [dI (3*((l.bodies.length:Int) -1) -(KR l a:Nat)),aR]):=by
 have hr:=GF A;have h:=nA l a (r:=KR l a) (by omega) A.hl A.ha A.S.r2 A.nb (fun _=>Jf A.S A.O A.hl A.hb);unfold En at h;rw[if_neg (by rw[A.m];simp)] at h;exact h
end Lift
namespace Lift
open Go Go.Proofs
def KT(of out:List Int)(row:Nat):List Int:=if out.length=0∨out.getD (out.length-1) 0≠of.getD row 0 then out++[of.getD row 0] else out
def E9(of:List Int)(r:List Nat):Nat→List Int
 | 0=>[]
 | i+1=>KT of (E9 of r i) (r.getD i 0)
theorem yR(of:List Int)(r:List Nat): ∀i,(E9 of r i).length≤i
 | 0=>ai _
 | i+1=>by
   have:=yR of r i;show (KT _ _ _).length≤_;unfold KT;split
   · rw[List.length_append];show _+1≤_;omega
   · omega
theorem IY(of:List Int)(r:List Nat): ∀i,0<(E9 of r (i+1)).length
 | i=>by
   show 0<(KT _ _ _).length;unfold KT;split
   · rw[List.length_append];show 0<_+1;omega
   · rename_i h;have: ¬(E9 of r i).length=0:=fun e=>h (.inl e);omega
theorem Kd{l:List Int}{i:Nat}(h:i<l.length):(l.map (fun n=>dI n))[i]?=some (dI (l.getD i 0)):=by simp[h]
def KS(l:Lkg)(a:Asm)(r:List Nat):D:=if fD l a≠0 then .tu [.sl 1 [],uv (fD l a)] else .tu [.sl 1 ((E9 (Aj l.joints l.joints.length) r r.length).map fun n=>dI n),aR]
set_option maxHeartbeats 1600000 in
theorem rZ(l:Lkg)(a:Asm){r:List Nat}(hr:r.length≤1000000)(hri:fD l a=0→ ∀i,i<r.length→r.getD i 0<(Aj l.joints l.joints.length).length)(hl:l.ok 16)(ha:a.ok 16)(h2:a.rt.length≤2)(hnb:l.bodies.length≤1000000000000)(hR:fD l a=0→Pure Tryz.prog 47 [gY (a.rt.map au),mS (gN l a)] (.tu [FF r,aR])):Pure Tryz.prog 24 [l.D,a.D] (KS l a r):=by
 refine qJ 63 Tryz.func24 rfl rfl rfl rfl (by kernel_rfl) (fun B0 F0 w0=>?_);have c:=s7 l a hl ha h2 hnb;unfold DV at c;unfold KS;have hT:fD l a=0→wv a.rt=gY (a.rt.map au):=fun h=>(qb ha.t (yZ h).tw).eq;unfold gN at hR;refine qX 4 rfl (qK 2 rfl ?_);rcases e2:fD l a with _ | z
 rotate_left
 · rw[if_pos (by rw[e2];exact Nat.succ_ne_zero z),e2] at c;rw[if_pos (Nat.succ_ne_zero z)];exact ae.call tok rfl rfl rfl rfl c (qU 7 rfl (qI (qX 1 rfl (ae.err tok rfl rfl rfl rfl rfl (ae.nil (AW.aG rfl (qX 3 rfl (qN rfl))))))))
 rw[if_neg (by rw[e2];simp)] at c;rw[if_neg (by simp)];have hR2:=hR e2;have hri2:=hri e2;rw[← hT e2] at hR2;clear hR hri hT;refine ae.call tok rfl rfl rfl rfl c (qU 7 rfl (qI (qX 1 rfl (ae.err tok rfl rfl rfl rfl rfl (ae.nil (AW.aD rfl ?_))))))
 · skip
   refine AW.skip (AW.seq (AW.region ?_));obtain ⟨rt,bs,md⟩:=a;generalize Aj l.joints l.joints.length=of at *;refine qU 3 rfl (ae.call tok rfl rfl rfl rfl hR2 (qU 5 rfl (qI (qX 1 rfl (ae.err tok rfl rfl rfl rfl rfl (ae.nil (AW.aD rfl ?_)))))))
   · skip
     refine AW.skip (qX 1 rfl (qI (qX 2 rfl ?_)));rw[ah];refine qU 1 rfl (ae.nil (AW.block ?_));refine AW.aJ [7,10,34,35,36] (fun i:Nat=>[(7,.d (.sl 1 (of.map fun n=>dI n))),(10,.ow 3 ((E9 of r i).map fun n=>dI n)),(34,.d (FF r)),(35,.d (dI r.length)),(36,.d (dI i))]) (fun i=>i≤r.length) (fun i=>r.length-i) 0 rfl (Nat.zero_le _) (fun i hi=>?_)
     · show AW _ _ _ _ _ _ _ [(7,.d (.sl 1 (of.map fun n=>dI n))),(10,.ow 3 ((E9 of r i).map fun n=>dI n)),(34,.d (FF r)),(35,.d (dI r.length)),(36,.d (dI i))];refine qX 1 rfl (qI (AW.cond rfl (fun h=>?_) (fun h=>?_)))
       · have hii:i<r.length:=by have:=ak h;omega
         have g1:=Kc (l:=r) (i:=i) hii;have hol:=yR of r i;have hs:E9 of r (i+1)=KT of (E9 of r i) (r.getD i 0):=rfl;have g2:=Kd (l:=of) (hri2 i hii);unfold KT at hs;generalize E9 of r i=out at *;generalize of.getD (r.getD i 0) 0=x at *;generalize r.getD i 0=row at *;refine AW.skip (AW.seq (AW.block (AW.seq (AW.region (ae.idx tok (dI row) rfl rfl rfl rfl (aj i) g1 ?_)))));refine qU 2 rfl (qK 2 rfl (ae.idx tok (dI x) rfl rfl rfl rfl (aj row) g2 ?_));refine qU 2 rfl (ae.nil ?_);refine AW.cut [7,10,13,34,35,36,56] (fun b:Bool=>[(7,.d (.sl 1 (of.map fun n=>dI n))),(10,.ow 3 (out.map fun n=>dI n)),(13,.d (dI x)),(34,.d (FF r)),(35,.d (dI r.length)),(36,.d (dI i)),(56,.d (dB b))]) (fun b=>b=decide (out.length=0∨out.getD (out.length-1) 0≠x)) ?_ (fun b hb=>?_)
         · refine qT 2 rfl ?_;rw[ah];refine qU 1 rfl ?_;by_cases h0:out.length=0
           · rw[beq_iff_eq.2 (show (out.length:Int)=0 by omega)];refine qU 10 rfl (ae.nil ?_);exact⟨true,rfl,(aO (.inl h0)).symm⟩
           rw[beq_eq_false_iff_ne.2 (show (out.length:Int)≠0 by omega)];have g3:=Kd (l:=out) (i:=out.length-1) (by omega);refine qU 4 rfl ?_;rw[ah];refine qU 1 rfl ?_;rw[aF (x:=(out.length:Int) -1) (by omega) (by omega)];refine ae.gv tok rfl rfl rfl rfl (show (0:Int)≤(out.length:Int) -1 by omega) (by rw[ah];omega) ?_;rw[show ((out.length:Int) -1).toNat=out.length-1 by omega];refine ae.da tok (dI (out.getD (out.length-1) 0)) rfl rfl rfl rfl g3 rfl ?_;refine qU 3 rfl (ae.nil ?_);refine⟨out.getD (out.length-1) 0 != x,rfl,?_⟩;by_cases g:out.getD (out.length-1) 0=x
           · rw[bne_eq_false_iff_eq.2 g,a9 (fun e=>e.elim h0 (fun e=>e g))]
           · rw[bne_iff_ne.2 g,aO (.inr g)]
         · show AW _ _ _ _ _ _ _ [(7,.d (.sl 1 (of.map fun n=>dI n))),(10,.ow 3 (out.map fun n=>dI n)),(13,.d (dI x)),(34,.d (FF r)),(35,.d (dI r.length)),(36,.d (dI i)),(56,.d (dB b))];refine AW.cond rfl (fun h=>?_) (fun h=>?_)
           · have hc:out.length=0∨out.getD (out.length-1) 0≠x:=by rw[show b=true from h] at hb;exact ak hb.symm
             refine qT 2 rfl (ae.nR tok rfl rfl rfl rfl rfl ?_);refine ae.lP tok rfl rfl rfl rfl rfl rfl (by rw[ah];show (_+1)*8≤_;omega) (by rw[ah];show _+1≤_;omega) ?_;refine qU 1 rfl (ae.nil (qT 1 rfl ?_));rw[aF (x:=(i:Int)+1) (by omega) (by omega)];refine qU 1 rfl (ae.nil ?_);exact⟨i+1,by rw[hs,if_pos hc,List.map_append];rfl,hii,by omega⟩
           · have hc: ¬(out.length=0∨out.getD (out.length-1) 0≠x):=by rw[show b=false from h] at hb;exact ar hb.symm
             refine AW.skip (qT 1 rfl ?_);rw[aF (x:=(i:Int)+1) (by omega) (by omega)];refine qU 1 rfl (ae.nil ?_);exact⟨i+1,by rw[hs,if_neg hc];rfl,hii,by omega⟩
       have hii:i=r.length:=by have:=ar h;omega
       subst hii;refine AW.exit (AW.seq (AW.region (ae.iV tok 10 rfl rfl ?_)));exact qU 3 rfl (qN rfl)
theorem Bf(v:List NQ)(l:Lkg)(a:Asm): ∀n,(Aj l.joints n).length=(ki v l a n).length
 | 0=>rfl
 | n+1=>by
   show (Aj l.joints n++_).length=(ki v l a n++_).length;rw[List.length_append,List.length_append,Bf v l a n,List.length_replicate,zI]
theorem Bp{l:Lkg}{a:Asm}(A:JW l a):Pure Tryz.prog 24 [l.D,a.D] (.tu [.sl 1 ((E9 (Aj l.joints l.joints.length) (kY (a.rt.map au) (gN l a)) (kY (a.rt.map au) (gN l a)).length).map fun n=>dI n),aR]):=by
 have G:=oY A.O;have hl:=AQ A.O.V G;have hG:=G.l
 have hlt: ∀i,i<(kY (a.rt.map au) (gN l a)).length→(kY (a.rt.map au) (gN l a)).getD i 0<(gN l a).length:=fun i hi=>by
  rw[aN,bQ hi];exact Ht (a.rt.map au) (de (gN l a)) (gN l a).length _ (List.getElem_mem hi)
 have h:=rZ l a (r:=kY (a.rt.map au) (gN l a)) (by omega) (fun _ i hi=>by
  rw[Bf (a.rt.map au) l a]
  exact hlt i hi) A.hl A.ha A.S.r2 A.nb (fun _=>zo A.S A.O A.hl A.hb)
 unfold KS at h;rw[if_neg (by rw[A.m];simp)] at h;exact h
theorem DT{v:List NQ}{l:Lkg}{a:Asm}(hk: ∀i,i<l.joints.length→(l.joints.getD i default).kind=0∨(l.joints.getD i default).kind=1): ∀n,n≤l.joints.length→((ki v l a n).length:Int)=Ak l.joints n
 | 0,_=>rfl
 | n+1,h=>by
   show ((ki v l a n++_).length:Int)=Ak l.joints n+_;rw[List.length_append,zI,← DT (v:=v) (a:=a) hk n (by omega)];unfold Fm;rcases hk n (by omega) with e | e
   · rw[e,if_neg (by decide),if_pos rfl];omega
   · rw[e,if_pos rfl,if_neg (by decide)];omega
set_option maxHeartbeats 1600000 in
theorem law24_Bounds_ok(l:Lkg)(a:Asm){K:Nat}(hl:l.ok K)(hK:K≤big)(ha:AsB a):Pure Tryz.prog 7 [l.D,a.D] (dB true):=by
 refine qJ 61 Tryz.func7 rfl rfl rfl rfl (by kernel_rfl) (fun B F0 w0=>?_);have cv:=vI l a hl hK ha;refine qX 3 rfl (qI (AW.seq (AW.region (ae.call tok rfl rfl rfl rfl nH (qU 4 rfl (ae.call tok rfl rfl rfl rfl cv ?_))))));cases hL:(!k5 l a&&decide (fD l a=0)) with
 | false =>
   exact qU 2 rfl (ae.nil (AW.aG rfl (AW.seq (AW.region (ae.call tok rfl rfl rfl rfl nH (qU 1 rfl (qN rfl)))))))
 | true =>
 obtain ⟨A,S⟩:=MS hl ha hL;have hr:=GF A;have c1:=mH l A.hl (by decide);unfold Jv at c1;rw[if_neg (by rw[G5 A.m];simp)] at c1;have c2:=Hs A;have c3:=Bp A;have hb8:=A.O.G.lk.b8;have G:=oY A.O;have e1:((gN l a).length:Int)=Ak l.joints l.joints.length:=DT (fun i hi=>(A.O.G.lk.j i hi).k) _ (ai _);have e2:=AQ A.O.V G;have e3:KR l a≤(gN l a).length:=(ud A.O.V.a G).1;have e4:(kY (a.rt.map au) (gN l a)).length=(gN l a).length-KR l a:=e2;have e5:Fu l=3*((l.bodies.length:Int) -1) -(gN l a).length:=by unfold Fu;rw[e1]
 have e6:(E9 (Aj l.joints l.joints.length) (kY (a.rt.map au) (gN l a)) (kY (a.rt.map au) (gN l a)).length).length=0↔(kY (a.rt.map au) (gN l a)).length=0:=by
  have h1:=yR (Aj l.joints l.joints.length) (kY (a.rt.map au) (gN l a)) (kY (a.rt.map au) (gN l a)).length;constructor
  · intro h;rcases hz:(kY (a.rt.map au) (gN l a)).length with _ | k
    · rfl
    · rw[hz] at h;have:=IY (Aj l.joints l.joints.length) (kY (a.rt.map au) (gN l a)) k;omega
  · intro h;omega
 generalize E9 (Aj l.joints l.joints.length) (kY (a.rt.map au) (gN l a)) (kY (a.rt.map au) (gN l a)).length=d at *;generalize kY (a.rt.map au) (gN l a)=rl at *;generalize KR l a=rk at *;generalize Fu l=g at *;generalize (gN l a).length=ml at *;clear A S cv hl ha hL G e1 e2;obtain ⟨ln,lb,js,lds⟩:=l;obtain ⟨rt,bs,md⟩:=a;simp only[] at *;refine qU 2 rfl (ae.nil (AW.aD rfl (AW.skip (qX 1 rfl (ae.call tok rfl rfl rfl rfl c1 (qU 5 rfl (qK 2 rfl (ae.call tok rfl rfl rfl rfl c2 ?_))))))));refine qU 5 rfl (qK 2 rfl (ae.call tok rfl rfl rfl rfl c3 (qU 5 rfl (qK 1 rfl (ae.err tok rfl rfl rfl rfl rfl (qU 2 rfl (ae.err tok rfl rfl rfl rfl rfl (qU 3 rfl ?_))))))));refine ae.err tok rfl rfl rfl rfl rfl (qU 5 rfl ?_);rw[aO (show g≤3*((lb.length:Int) -1) -(rk:Nat) by omega)];refine qU 6 rfl (qU 1 rfl ?_);rw[ah];refine qU 1 rfl (ae.be tok rfl rfl rfl rfl ?_)
 rw[show (3*((lb.length:Int) -1) -(rk:Nat)==g)=((d.length:Int)==0) by
  by_cases h:d.length=0
  · rw[beq_iff_eq.2 (show 3*((lb.length:Int) -1) -(rk:Nat)=g by omega),beq_iff_eq.2 (show (d.length:Int)=0 by omega)]
  · rw[beq_eq_false_iff_ne.2 (show 3*((lb.length:Int) -1) -(rk:Nat)≠g by omega),beq_eq_false_iff_ne.2 (show (d.length:Int)≠0 by omega)],beq_self_eq_true]
 exact qU 2 rfl (qN rfl)
end Lift

