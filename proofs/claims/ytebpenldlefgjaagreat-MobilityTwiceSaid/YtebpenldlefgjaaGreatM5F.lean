/- Parts of the proof, one behind the other: the logic, the contracts of the functions that the statement reaches. -/
import Derived.Test.YtebpenldlefgjaaGreatM5E
set_option linter.unusedVariables false
set_option linter.unusedSimpArgs false
namespace Lift
open Go Go.Proofs
theorem Hd{l k j:Nat}{rt:List NQ}{a:NQ}(hj:j≤l)(ha:a.length=2^(j+1))(hrt:cP rt)(hl:l<rt.length)(sa:aE k a)(sr:dt k rt):aA l (lf l rt a)∧aE (sT (l+1) k) (lf l rt a):=by
 obtain ⟨e1,e2,e3⟩:=bF ha;have hx:aA l (a.take (a.length / 2)):= .inr ⟨j,hj,e1⟩;have hy:aA l (a.drop (a.length / 2)):= .inr ⟨j,hj,e2⟩;have hlog:a.length.log2-1=j:=by rw[ha,Nat.log2_two_pow];omega
 have hd:aA l (rt.getD j []):= .inr ⟨j,hj,hrt j (by omega)⟩;have h0:=cD l k;have h1:=cD l (sT l k);have r1:=gS l hx hx hrt (by omega) (sa.take _) (sa.take _) sr;have r2:=gS l hy hy hrt (by omega) (sa.drop _) (sa.drop _) sr;have r3:=gS l r2.1 hd hrt (by omega) r2.2 ((sr _).mono (by omega)) (sr.mono (by omega));unfold lf;rw[hlog];refine⟨r1.1.plus r3.1.minus,(r1.2.plus r3.2.minus).mono ?_⟩;show _≤sT l (sT l k)+sT l k+1;omega
theorem Bw{l k j:Nat}{rt:List NQ}{xs:List D}{a:NQ}(hj:j≤l)(ha:a.length=2^(j+1))(hrt:cP rt)(hl:l<rt.length)(hl5:l+1≤5)(hxs: ∀j,j<rt.length→xs[j]?=some (aq (rt.getD j [])))(sa:aE k a)(sr:dt k rt)(hk:sT (l+1) k≤17300000000000):
  Pure Tryz.prog 116 [.ag [.sl 1 xs],aq a,dI a.length] (aq (lf l rt a)):=by
 refine qJ 45 Tryz.func116 rfl rfl rfl rfl (by kernel_rfl) (fun B F0 w0=>?_);obtain ⟨e1,e2,e3⟩:=bF ha;have hx:aA l (a.take (a.length / 2)):= .inr ⟨j,hj,e1⟩;have hy:aA l (a.drop (a.length / 2)):= .inr ⟨j,hj,e2⟩;have hlog:a.length.log2-1=j:=by rw[ha,Nat.log2_two_pow];omega
 have hd:aA l (rt.getD j []):= .inr ⟨j,hj,hrt j (by omega)⟩;have h0:=cD l k;have h1:=cD l (sT l k);have hk:sT l (sT l k)+sT l k+1≤17300000000000:=hk;have hp:2^(j+1)≤2^10:=Nat.pow_le_pow_right (by decide) (by omega);have r1:=gS l hx hx hrt (by omega) (sa.take _) (sa.take _) sr;have r2:=gS l hy hy hrt (by omega) (sa.drop _) (sa.drop _) sr;have r3:=gS l r2.1 hd hrt (by omega) r2.2 ((sr _).mono (by omega)) (sr.mono (by omega));have c1:=jX l hx hx hrt (by omega) (by omega) hxs (sa.take _) (sa.take _) sr (by omega);have c2:=jX l hy hy hrt (by omega) (by omega) hxs (sa.drop _) (sa.drop _) sr (by omega);have c3:=jX l r2.1 hd hrt (by omega) (by omega) hxs r2.2 ((sr j).mono (by omega)) (sr.mono (by omega)) (by omega);have n1:=r1.1.len (by omega);have n3:=r3.1.len (by omega);have c4:=th _ r3.2 (by omega) (by omega);have c5:=nw _ _ (k:=sT l (sT l k)) (r1.2.mono (by omega)) r3.2.minus (by omega) (by omega) (by rw[gy];omega);have cw:=mh a a.length (ai _) (by omega);rw[pw] at cw;have cp:=gi ha (by omega);unfold lf;rw[hlog];obtain ⟨n,hn⟩: ∃n,n=a.length / 2:=⟨_,rfl⟩;rw[← hn] at e1 e2 e3 hx hy c1 c2 c3 c4 c5 ⊢;refine qX 2 rfl (qK 2 rfl (qM rfl cw (qU 1 rfl (qK 1 rfl (qM rfl cp (qU 5 rfl (qI (AW.draw aS 9 (by kernel_rfl) ?_))))))));refine qP 2 rfl (ah.div tok rfl rfl rfl rfl rfl (by decide) ?_);rw[iP _ (by omega),← hn];refine ah.hZ tok (a:=a) (a.take n) rfl rfl rfl rfl rfl trivial (aj n) (Nat.zero_le _) (show n≤a.length by omega) rfl ?_;refine qP 2 rfl (ah.div tok rfl rfl rfl rfl rfl (by decide) ?_);rw[iP _ (by omega),← hn];refine ah.hZ tok (a:=a) (a.drop n) rfl rfl rfl rfl rfl (aj n) trivial (show n≤a.length by omega) (ai _) (by show (a.take a.length).drop n=_;rw[List.take_length]) ?_;refine qP 1 rfl (ah.nil (qU 1 rfl (qI (AW.draw aS 18 (by kernel_rfl) ?_))));refine qP 3 rfl (qQ rfl c1 (qP 4 rfl (qQ rfl c2 (qP 4 rfl ?_))));rw[aI (x:=((j+1:Nat):Int) -1) (by omega) (by omega),show ((j+1:Nat):Int) -1=(j:Int) by omega];refine ah.idx tok (aq (rt.getD j [])) rfl rfl rfl rfl rfl (aj j) (hxs j (by omega)) ?_;exact qP 1 rfl (qQ rfl c3 (qQ rfl c4 (qQ rfl c5 (ah.nil (qU 1 rfl (qN rfl))))))
theorem ym{R:NQ→Int}{N:NQ→NQ}{rt:List NQ}{a:NQ}(hR: ∀b,xW (R b)):xW (o8 R N rt a):=by
 unfold o8;split
 · exact .inl rfl
 split
 · exact gQ _
 split
 · exact hR _
 split
 · exact l8 (hR _) (hR _)
 · exact l8 (hR _) (hR _)
theorem vr: ∀(l:Nat) (rt:List NQ) (a:NQ),xW (rY l rt a)
 | 0,rt,a=>ym (fun _=> .inl rfl)
 | l+1,rt,a=>ym (fun b=>vr l rt b)
set_option maxHeartbeats 1600000 in
theorem vq{l k:Nat}{R:NQ→Int}{N:NQ→NQ}{rt:List NQ}{xs:List D}{a:NQ}(ha:aA l a)(hl5:l≤5)(hrt:cP rt)(hl:l≤rt.length)(hxs: ∀j,j<rt.length→xs[j]?=some (aq (rt.getD j [])))(sa:aE k a)(sr:dt k rt)(hok:pP l k)
  (hR: ∀l',l=l'+1→ ∀b m,aA l' b→aE m b→k≤m→pP l' m→Pure Tryz.prog 67 [.ag [.sl 1 xs],aq b] (dI (R b))) (hT: ∀b,xW (R b))
  (hN: ∀l',l=l'+1→ ∀b j,j≤l'→b.length=2^(j+1)→aE k b→Pure Tryz.prog 116 [.ag [.sl 1 xs],aq b,dI b.length] (aq (N b))∧aA l' (N b)∧aE (sT l k) (N b)):
  Pure Tryz.prog 67 [.ag [.sl 1 xs],aq a] (dI (o8 R N rt (aD a))):=by
 refine qJ 70 Tryz.func67 rfl rfl rfl rfl (by kernel_rfl) (fun B F0 w0=>?_);have hk:=zP hok;have cs:=jY a ha hl5;obtain ⟨ha,sa⟩:=bh ha sa;generalize aD a=b at cs ha sa ⊢;have hlb:=ha.len (by omega);unfold o8;refine qX 2 rfl (qK 1 rfl (qM rfl cs (qU 1 rfl (qI (qX 2 rfl ?_)))));rw[af];refine qU 1 rfl (ae.nil ?_);by_cases h0:b.length=0
 · rw[if_pos h0,h0];exact AW.aJ rfl (qX 1 rfl (qN rfl))
 rw[if_neg h0,beq_eq_false_iff_ne.2 (show (b.length:Int)≠0 by omega)];refine AW.aH rfl (AW.skip (qX 2 rfl ?_));rw[af];refine qU 1 rfl (qI (qX 2 rfl (ae.nil ?_)));by_cases h1:b.length=1
 · have g:=mV (r:=b) (i:=0) (by omega);have cq:=tj (Qr (b.getD 0 0)) (iG _ (sa 0)) (by omega);rw[dk,Em] at cq;rw[if_pos h1,h1];refine AW.aJ rfl (qX 1 rfl (ae.idx tok (Qr (b.getD 0 0)).D rfl rfl rfl rfl (Int.le_refl _) g ?_));exact qU 1 rfl (qM rfl cq (qU 1 rfl (qN rfl)))
 rw[if_neg h1,beq_eq_false_iff_ne.2 (show (b.length:Int)≠1 by omega)];refine AW.aH rfl (AW.skip ?_)
 obtain ⟨i,hi,hla2⟩: ∃i,i≤l∧b.length=2^i:=by
  rcases ha with e | e
  · omega
  · exact e
 have wm:i≠0:=fun e=>h1 (by rw[hla2,e]);obtain ⟨j,rfl⟩: ∃j,i=j+1:=⟨i-1,by omega⟩;obtain ⟨l',rfl⟩: ∃l',l=l'+1:=⟨l-1,by omega⟩;have hj:j≤l':=by omega
 have hN:=hN l' rfl b j hj hla2 sa;have hR:=fun b m h1 h2 h3 h4=>hR l' rfl b m h1 h2 h3 h4;obtain ⟨e1,e2,e3⟩:=bF hla2;have hx:aA l' (b.take (b.length / 2)):= .inr ⟨j,hj,e1⟩;have hy:aA l' (b.drop (b.length / 2)):= .inr ⟨j,hj,e2⟩;have hlog:b.length.log2-1=j:=by rw[hla2,Nat.log2_two_pow];omega
 have hd:aA l' (rt.getD j []):= .inr ⟨j,hj,hrt j (by omega)⟩;have hk2:=cD (l'+1) k;have r1:=hR _ k hx (sa.take _) (ai _) (ky hok);have r2:=hR _ k hy (sa.drop _) (ai _) (ky hok);have r3:=hR _ k hd (sr j) (ai _) (ky hok);have r4:=hR _ _ hN.2.1 hN.2.2 (by omega) hok.2;have t1:=hT (b.take (b.length / 2));have t2:=l8 (hT (b.drop (b.length / 2))) (hT (rt.getD j []));have t4:=l8 t1 (hT (N b));have cn:=hN.1;have cp:=gi hla2 (by omega);rw[hlog];obtain ⟨n,hn⟩: ∃n,n=b.length / 2:=⟨_,rfl⟩;rw[← hn] at e1 e2 e3 hx hy r1 r2 t1 t2 t4 ⊢;generalize R (b.take n)=x at r1 t1 t4 ⊢;generalize R (b.drop n)=y at r2 t2 ⊢;generalize R (rt.getD j [])=z at r3 t2 ⊢;generalize R (N b)=u at r4 t4 ⊢;refine qX 1 rfl (qM rfl cp (qU 5 rfl (qK 4 rfl ?_)));rw[aI (x:=((j+1:Nat):Int) -1) (by omega) (by omega),show ((j+1:Nat):Int) -1=(j:Int) by omega];refine ae.idx tok (aq (rt.getD j [])) rfl rfl rfl rfl (aj j) (hxs j (by omega)) ?_;refine qU 2 rfl (qI (AW.draw aS 17 (by kernel_rfl) ?_));refine qP 3 rfl (ah.div tok rfl rfl rfl rfl rfl (by decide) ?_);rw[iP _ (by omega),← hn];refine ah.hZ tok (a:=b) (b.take n) rfl rfl rfl rfl rfl trivial (aj n) (Nat.zero_le _) (show n≤b.length by omega) rfl ?_;refine qQ rfl r1 (qP 3 rfl (ah.div tok rfl rfl rfl rfl rfl (by decide) ?_));rw[iP _ (by omega),← hn];refine ah.hZ tok (a:=b) (b.drop n) rfl rfl rfl rfl rfl (aj n) trivial (show n≤b.length by omega) (ai _) (by show (b.take b.length).drop n=_;rw[List.take_length]) ?_;refine qQ rfl r2 (qP 2 rfl (qQ rfl r3 (qP 1 rfl ?_)));rw[aI (x:=y*z) (by unfold xW at t2;omega) (by unfold xW at t2;omega)];refine qP 1 rfl (ah.nil (qU 1 rfl (ae.nil (AW.dJ [1,2,5,9,10] ?_))));show AW _ _ _ _ _ _ _ [(1,.d (aq b)),(2,.bx [.sl 1 xs]),(5,.d (dI b.length)),(9,.d (.v (.int .i64 x))),(10,.d (.v (.int .i64 (y*z))))];generalize y*z=yz at t2 ⊢;refine AW.seq (qX 3 rfl ?_);by_cases hxy:x=yz
 · have hor:x=yz∨yz=0:= .inl hxy;rw[if_pos hor,beq_iff_eq.2 hxy];exact qU 4 rfl (ae.nil (AW.aJ rfl (qX 2 rfl (qN rfl))))
 rw[beq_eq_false_iff_ne.2 hxy];refine qU 3 rfl ?_;by_cases hy0:yz=0
 · have hor:x=yz∨yz=0:= .inr hy0;rw[if_pos hor,beq_iff_eq.2 hy0];exact qU 1 rfl (ae.nil (AW.aJ rfl (qX 2 rfl (qN rfl))))
 have hor: ¬(x=yz∨yz=0):=fun h=>h.elim hxy hy0;rw[if_neg hor,beq_eq_false_iff_ne.2 hy0];refine qU 1 rfl (ae.nil (AW.aH rfl (AW.skip (AW.seq (qX 2 rfl (ae.nil ?_))))));by_cases hx0:x=0
 · rw[if_pos hx0,beq_iff_eq.2 hx0];exact AW.aJ rfl (qX 2 rfl (qN rfl))
 rw[if_neg hx0,beq_eq_false_iff_ne.2 hx0];refine AW.aH rfl (AW.skip (AW.seq (AW.draw aS 8 (by kernel_rfl) ?_)));refine qP 5 rfl (qQ rfl cn (qQ rfl r4 (qP 1 rfl ?_)));rw[aI (x:=x*u) (by unfold xW at t4;omega) (by unfold xW at t4;omega)];exact ah.nil (qU 1 rfl (qN rfl))
theorem tf: ∀(l:Nat) {k:Nat} {rt:List NQ} {xs:List D} {a:NQ},aA l a→l≤5→cP rt→l≤rt.length→(∀j,j<rt.length→xs[j]?=some (aq (rt.getD j [])))→aE k a→dt k rt→pP l k→Pure Tryz.prog 67 [.ag [.sl 1 xs],aq a] (dI (rY l rt a))
 | 0,k,rt,xs,a,ha,hl5,hrt,hl,hxs,sa,sr,hok=>vq ha hl5 hrt hl hxs sa sr hok (fun l' h=>by omega) (fun _=> .inl rfl) (fun l' h=>by omega)
 | l+1,k,rt,xs,a,ha,hl5,hrt,hl,hxs,sa,sr,hok=>vq ha hl5 hrt hl hxs sa sr hok (fun l' e b m h1 h2 h3 h4=>by
    obtain rfl:l=l':=by omega
    exact tf l h1 (by omega) hrt (by omega) hxs h2 (sr.mono h3) h4) (vr l rt) (fun l' e b j h1 h2 h3=>by
    obtain rfl:l=l':=by omega
    exact⟨Bw h1 h2 hrt (by omega) (by omega) hxs h3 sr hok.1,Hd h1 h2 hrt (by omega) h3 sr⟩)
end Lift
namespace Lift
open Go Go.Proofs
theorem Lu{v:List NQ}(ro:cP v)(ps: ∀k,k<v.length→ ¬et k (v.take k) (v.getD k [])<0):po v:=fun j hj=>by
 have h:=ps j hj
 have e: ∀i,i<j→(v.take j).getD i []=v.getD i []:=fun i hi=>by
  rw[aK,List.getElem?_take_of_lt hi,aK]
 have ro2:cP (v.take j):=fun i hi=>by
  rw[bb] at hi;rw[e i (by omega)];exact ro i (by omega)
 have lt:aA j (v.getD j []):= .inr ⟨j,ai _,ro j hj⟩;rw[dP j lt ro2 (by rw[bb];omega)] at h
 have key: ∀(l:Nat) (a:Cf),l≤j→aY (v.take j) l a=aY v l a∧ ∀b:Cf,mulC (v.take j) l a b=mulC v l a b:=by
  intro l
  induction l with
  | zero=>exact fun a _=>⟨rfl,fun b=>rfl⟩
  | succ l ih =>
    intro a hl;have hm: ∀x y:Cf,mulC (v.take j) l x y=mulC v l x y:=fun x y=>(ih x (by omega)).2 y;have hs: ∀x:Cf,aY (v.take j) l x=aY v l x:=fun x=>(ih x (by omega)).1;refine⟨?_,fun b=>?_⟩
    · unfold aY bp;simp only[hm,hs,e l (by omega)]
    · funext i;show (if i<2^l then mulC (v.take j) l a b i+mulC (v.take j) l (mulC (v.take j) l (bE l a) (bE l b)) (cf ((v.take j).getD l [])) i else mulC (v.take j) l a (bE l b) (i-2^l)+mulC (v.take j) l (bE l a) b (i-2^l))=_;simp only[hm,e l (by omega)];rfl
 rw[(key j _ (ai _)).1] at h;omega
theorem Ho{rt:List (List RD)}{i:Nat}(hi:i≤rt.length)(h: ∀j,j<i→xl rt j=0):po ((rt.take i).map au):=Lu (l7 hi h) (fun k hk=>by
 rw[f' hi] at hk;have h1:=(iS (h k hk)).2.2;rw[qh hk,← List.map_take,List.take_take,Nat.min_eq_left (by omega)]
 exact h1)
theorem GW{rt:List (List RD)}{i:Nat}(hi:i≤rt.length)(h: ∀j,j<i→xl rt j=0){a:NQ}(ha:aA i a):rY i ((rt.take i).map au) a=et i ((rt.take i).map au) a:=by
 rw[ns i ha (l7 hi h) (Ho hi h) (by rw[f' hi];exact ai _),dP i ha (l7 hi h) (by rw[f' hi];exact ai _)]
theorem Ha{rt:List (List RD)}{k m:Nat}(hw: ∀i,i<k→wN m (rt.getD i []))(hk:k≤rt.length)(h: ∀j,j<k→kX (rt.getD j [])=true): ∀j,j<((rt.take k).map au).length→(rt.map bw)[j]?=some (aq (((rt.take k).map au).getD j [])):=fun j hj=>by
 rw[f' hk] at hj;have hj2:j<rt.length:=by omega
 rw[qh hj,← lO (hw j hj) (h j hj)];simp[hj2]
theorem qG(rt:List (List RD)){m:Nat}(hw: ∀i,i<rt.length→(rt.getD i []).length=2^i→wN m (rt.getD i []))(h1:1≤m)(hl:rt.length≤1000000)(hll: ∀i,i<rt.length→(rt.getD i []).length≤4398046511104)(hok:rt.length≤5→pP rt.length m):Pure Tryz.prog 37 [w8 rt] (dI (dG rt)):=by
 refine qJ 34 Tryz.func37 rfl rfl rfl rfl (by kernel_rfl) (fun B F0 w0=>?_);unfold dG;obtain ⟨E,hE⟩: ∃E,fE (xl rt) (rt.length-0) 0=E:=⟨_,rfl⟩;rw[hE];refine qX 2 rfl (qI (qX 3 rfl ?_));rw[af];refine qU 1 rfl (ae.nil ?_);by_cases h5:5<rt.length
 · rw[if_pos h5,aO (show (5:Int)<(rt.length:Int) by omega)];exact AW.aJ rfl (qX 1 rfl (qN rfl))
 rw[if_neg h5,a7 (show ¬(5:Int)<(rt.length:Int) by omega)];have hok:=hok (by omega);have hm7:=zP hok;refine AW.aH rfl (AW.skip (AW.seq (qX 3 rfl ?_)));rw[af];refine qU 1 rfl (ae.nil ?_);refine AW.block (AW.aL [1,11,12,13] (fun i:Nat=>[(1,.bx [.sl 1 (rt.map bw)]),(11,.d (.sl 1 (rt.map bw))),(12,.d (dI rt.length)),(13,.d (dI i))]) (fun i=>i≤rt.length∧fE (xl rt) (rt.length-i) i=E∧ ∀j,j<i→xl rt j=0) (fun i=>rt.length-i) 0 rfl ⟨Nat.zero_le _,hE,fun j hj=>by omega⟩ (fun i ⟨hi,hiE,hall⟩=>?_));refine qX 1 rfl ?_;refine qI (AW.cond rfl (fun h=>?_) (fun h=>?_));rotate_left
 · have hii: ¬i<rt.length:=by have:=ar h;omega
   rw[e7 hii] at hiE;subst hiE;exact AW.exit (qX 1 rfl (qN rfl))
 have hii:i<rt.length:=by have:=ao h;omega
 have hg:(rt.map bw)[i]?=some (bw (rt.getD i [])):=by simp[hii]
 have hwi:=hw i hii;have hli:=hll i hii;have hmiss:=fun h0:xl rt i=0=>(dh hii h0).symm.trans hiE;have hhit:=fun h0:xl rt i≠0=>(eZ hii h0).symm.trans hiE;have hp:2^i≤2^5:=Nat.pow_le_pow_right (by decide) (by omega);have hrt:xl rt i=if (rt.getD i []).length≠2^i then 10 else if b5 i (rt.getD i [])≠0 then b5 i (rt.getD i []) else if et i ((rt.take i).map au) (au (rt.getD i []))<0 then 3 else 0:=rfl
 refine AW.skip (AW.seq (AW.block (qX 1 rfl (ae.idx tok (bw (rt.getD i [])) rfl rfl rfl rfl (aj i) hg ?_))));refine qU 3 rfl (qI (qX 2 rfl ?_));rw[af];refine qU 2 rfl ?_;rw[A9 (by omega)];refine qU 1 rfl (ae.nil ?_);by_cases e1:(rt.getD i []).length=2^i;rotate_left
 · rw[if_pos e1] at hrt;rw[bne_iff_ne.2 (show (((rt.getD i []).length:Nat):Int)≠((2^i:Nat):Int) by omega)];have:=hhit (by rw[hrt];decide);rw[hrt] at this;subst this;exact AW.aJ rfl (qX 1 rfl (qN rfl))
 rw[if_neg (fun h=>h e1)] at hrt;have hwi:=hwi e1;have cn:=pa i (rt.getD i []) (by omega) (fun _=>hwi) (by omega) hli;rw[e1,bne_eq_false_iff_eq.2 rfl];refine AW.aH rfl (AW.skip (AW.seq (qX 2 rfl (qM rfl cn (qU 1 rfl (qK 2 rfl (ae.nil ?_)))))));by_cases e2:b5 i (rt.getD i [])=0;rotate_left
 · rw[if_pos e2] at hrt;have:=hhit (by rw[hrt];exact e2);rw[hrt] at this;subst this;rw[bne_iff_ne.2 (show ((b5 i (rt.getD i []):Nat):Int)≠0 by omega)];exact AW.aJ rfl (qX 2 rfl (qN rfl))
 rw[if_neg (fun h=>h e2)] at hrt;rw[bne_eq_false_iff_eq.2 (show ((b5 i (rt.getD i []):Nat):Int)=0 by omega)];obtain ⟨n1,n2⟩:=q9 e2;have hwj:=fun j (hj:j<i)=>hw j (by omega) (iS (hall j hj)).1;have cs:=tf i (k:=m) (rt:=(rt.take i).map au) (xs:=rt.map bw) n1 (by omega) (l7 hi hall) (by rw[f' hi];exact ai _) (Ha hwj hi (fun j hj=>(iS (hall j hj)).2.1)) (np hwi h1) (uv hwj h1 hi) (vP hok hi);have tr:=oq i ((rt.take i).map au) (au (rt.getD i []));rw[GW hi hall n1,← lO hwi n2] at cs;generalize et i ((rt.take i).map au) (au (rt.getD i []))=s at cs hrt tr;refine AW.aH rfl (AW.skip (qX 2 rfl (qM rfl cs (qU 1 rfl (ae.nil ?_)))));by_cases e3:s<0
 · rw[if_pos e3] at hrt;rw[aO e3];have:=hhit (by rw[hrt];decide);rw[hrt] at this;subst this;exact AW.aJ rfl (qX 1 rfl (qN rfl))
 rw[if_neg e3] at hrt;rw[a7 e3];refine AW.aH rfl (AW.skip (qT 1 rfl ?_));rw[aI (x:=(i:Int)+1) (by omega) (by omega)];refine qU 1 rfl (ae.nil ?_)
 exact⟨i+1,rfl,⟨hii,hmiss hrt,fun j hj=>by
  by_cases e:j=i
  · rw[e];exact hrt
  · exact hall j (by omega)⟩,by omega⟩
theorem xE(rt l:List (List RD)){m mn:Nat}(hw: ∀i,i<rt.length→(rt.getD i []).length=2^i→wN m (rt.getD i []))(h1:1≤m)(hl:rt.length≤1000000)(hll: ∀i,i<rt.length→(rt.getD i []).length≤4398046511104)(hok:rt.length≤5→pP rt.length m)
  (hlw: ∀i,i<l.length→D3 rt.length (l.getD i [])→wN mn (l.getD i [])) (hl2:l.length≤1000000) (hl3: ∀i,i<l.length→(l.getD i []).length≤4398046511104) (hm:mn≤17300000000000):Pure Tryz.prog 69 [w8 rt,.sl 1 (l.map bw)] (dI (kF rt l)):=by
 refine qJ 29 Tryz.func69 rfl rfl rfl rfl (by kernel_rfl) (fun B F0 w0=>?_);have cC:=qG rt hw h1 hl hll hok;unfold kF;obtain ⟨E,hE⟩: ∃E,fE (fun i=>b5 rt.length (l.getD i [])) (l.length-0) 0=E:=⟨_,rfl⟩;rw[hE];refine qX 2 rfl (qI (qX 1 rfl (qM rfl cC (qU 1 rfl (qK 2 rfl (ae.nil ?_))))));by_cases e2:dG rt=0;rotate_left
 · rw[if_pos e2,bne_iff_ne.2 (show ((dG rt:Nat):Int)≠0 by omega)];exact AW.aJ rfl (qX 2 rfl (qN rfl))
 have h5:=(rI e2).1;rw[if_neg (fun h=>h e2),bne_eq_false_iff_eq.2 (show ((dG rt:Nat):Int)=0 by omega)];refine AW.aH rfl (AW.skip (AW.seq (qX 2 rfl ?_)));rw[af];refine qU 1 rfl (ae.nil ?_);refine AW.block (AW.aL [2,14,15,16] (fun i:Nat=>[(2,.bx [.sl 1 (rt.map bw)]),(14,.d (.sl 1 (l.map bw))),(15,.d (dI l.length)),(16,.d (dI i))]) (fun i=>i≤l.length∧fE (fun i=>b5 rt.length (l.getD i [])) (l.length-i) i=E) (fun i=>l.length-i) 0 rfl ⟨Nat.zero_le _,hE⟩ (fun i ⟨hi,hiE⟩=>?_));refine qX 1 rfl ?_;refine qI (AW.cond rfl (fun h=>?_) (fun h=>?_));rotate_left
 · have hii: ¬i<l.length:=by have:=ar h;omega
   rw[e7 hii] at hiE;subst hiE;exact AW.exit (qX 1 rfl (qN rfl))
 have hii:i<l.length:=by have:=ao h;omega
 have hg:(l.map bw)[i]?=some (bw (l.getD i [])):=by simp[hii]
 have hmiss:=fun h0:b5 rt.length (l.getD i [])=0=>(dh (f:=fun i=>b5 rt.length (l.getD i [])) hii h0).symm.trans hiE;have hhit:=fun h0:b5 rt.length (l.getD i [])≠0=>(eZ (f:=fun i=>b5 rt.length (l.getD i [])) hii h0).symm.trans hiE;have cn:=pa rt.length (l.getD i []) h5 (hlw i hii) hm (hl3 i hii);refine AW.skip (AW.seq (AW.block (AW.seq (AW.region (ae.idx tok (bw (l.getD i [])) rfl rfl rfl rfl (aj i) hg ?_)))));refine qU 2 rfl (qK 3 rfl ?_);rw[af];refine qU 1 rfl (qM rfl cn (qU 1 rfl (ae.nil ?_)));generalize b5 rt.length (l.getD i [])=v at hmiss hhit;refine qX 2 rfl (ae.nil ?_);by_cases hv:v=0;rotate_left
 · have:=hhit hv;subst this;rw[bne_iff_ne.2 (show ((v:Nat):Int)≠0 by omega)];exact AW.aJ rfl (qX 2 rfl (qN rfl))
 rw[bne_eq_false_iff_eq.2 (show ((v:Nat):Int)=0 by omega)];refine AW.aH rfl (AW.skip (qT 1 rfl ?_));rw[aI (x:=(i:Int)+1) (by omega) (by omega)];refine qU 1 rfl (ae.nil ?_);exact⟨i+1,rfl,⟨hii,hmiss hv⟩,by omega⟩
theorem Bx{m:Nat}{rt:List (List RD)}{a:List RD}(T:qa m rt)(A:kK m rt a):Pure Tryz.prog 69 [w8 rt,.sl 1 [bw a]] (dI (kF rt [a])):=by
 have hm:=T.m2
 have h0: ∀i,i<[a].length→i=0:=fun i hi=>by
  have:i<1:=hi;omega
 obtain ⟨m0,t1,t2,tw,tk⟩:=T.t;exact xE rt [a] tw t1 T.l T.ll tk (fun i hi=>by rw[h0 i hi];exact A.w) (show 1≤1000000 by decide) (fun i hi=>by rw[h0 i hi];exact A.l) (by omega)
end Lift
namespace Lift
open Go Go.Proofs
theorem fO(i:Int)(n:Nat):Pure Tryz.prog 64 [dI i,dI n] (dB (jz i n)):=by
 refine qJ 12 Tryz.func64 rfl rfl rfl rfl (by kernel_rfl) (fun B F0 w0=>?_);refine qX 1 rfl (qK 2 rfl ?_);refine ae.split (t:=6) rfl (fun h=>?_) (fun h=>?_)
 · have h1:=ao h;refine qU 6 rfl (ae.nil ?_);rw[show jz i n=decide (i<n) by unfold jz;rw[decide_eq_decide];omega];exact AW.ret rfl
 · have h1:=ar h;refine qU 6 rfl (ae.nil ?_);rw[show jz i n=false by unfold jz;rw[decide_eq_false_iff_not];omega];exact AW.ret rfl
set_option maxHeartbeats 1600000 in
theorem xB(b:Body){K:Nat}(hb:b.ok K)(hK:K≤50000000):Pure Tryz.prog 63 [b.D] (dI (r9 b.pts:Nat)):=by
 refine qJ 50 Tryz.func63 rfl rfl rfl rfl (by kernel_rfl) (fun B F0 w0=>?_);obtain ⟨bn,ps⟩:=b;obtain ⟨_,hn,hm⟩:=hb;simp only[] at hn hm;unfold big at hn;show AW _ _ _ _ _ _ _ (eI 0 [D.ag [dS bn,qb ps]]);simp only[];refine qX 2 rfl (qI (qX 4 rfl ?_));rw[af];refine ae.nil (AW.cond rfl (fun h=>?_) (fun h=>?_))
 · have h8:8<ps.length:=by have:=ao h;omega
   rw[r9,if_pos h8];exact qX 1 rfl (qN rfl)
 have h8: ¬8<ps.length:=by have:=ar h;omega
 rw[r9,if_neg h8];refine AW.skip (AW.seq (qX 1 rfl (ae.nil (AW.block ?_))))
 refine AW.aL [1,3] (fun i:Nat=>[(1,.bx [dS bn,qb ps]),(3,.d (dI i))])
  (fun i=>i≤ps.length∧fE (uB ps) ps.length 0=fE (uB ps) (ps.length-i) i) (fun i=>ps.length-i) 0 rfl ⟨Nat.zero_le _,rfl⟩ (fun i ⟨hi,hE⟩=>?_)
 refine AW.seq (qX 5 rfl ?_);rw[af];refine ae.nil (AW.cond rfl (fun h=>?_) (fun h=>?_))
 · have hin:i<ps.length:=by have:=ao h;omega
   obtain ⟨mok1,mok2,mok3⟩:=hm i;have hbE:uB ps i≠0→fE (uB ps) ps.length 0=uB ps i:=fun h0=>hE.trans (eZ hin h0);have hbM:uB ps i=0→fE (uB ps) ps.length 0=fE (uB ps) (ps.length-(i+1)) (i+1):=fun h0=>hE.trans (dh hin h0);generalize fE (uB ps) ps.length 0=E at *;obtain ⟨m,hme⟩: ∃m,m=ps.getD i default:=⟨_,rfl⟩;rw[← hme] at mok1 mok2 mok3;unfold big at mok1;have hdup:DO ps i=eP (fun k=>decide ((ps.getD k default).nm=m.nm)) i 0:=by rw[hme];rfl
   have hbd:uB ps i=if cU m.nm=false then 5 else if DO ps i=true then 6 else if m.x.okB=true∧m.y.okB=true then 0 else 3:=by rw[hme];rfl
   refine AW.skip (AW.seq (AW.block (qX 3 rfl ?_)));refine ae.idx tok m.D rfl rfl rfl rfl (aj i) (by rw[hme];exact getM Mark.D hin) ?_;refine qU 3 rfl (qI (qX 2 rfl (qM rfl (jw m.nm mok1) ?_)));refine qU 1 rfl (ae.nil (AW.cond rfl (fun h=>?_) (fun h=>?_)))
   · have hnm:cU m.nm=false:=kz h;have h5:uB ps i=5:=by rw[hbd,hnm];rfl
     rw[show E=5 by rw[hbE (by omega),h5]];exact qX 1 rfl (qN rfl)
   have hnm:cU m.nm=true:=by simpa using h
   rw[hnm,if_neg (by decide)] at hbd;refine AW.skip (AW.seq (qX 1 rfl (ae.nil (AW.block ?_))))
   refine AW.aL [1,3,4,5] (fun k:Nat=>[(1,.bx [dS bn,qb ps]),(3,.d (dI i)),(4,.bx [dS m.nm,dB m.x.g,Wd m.x.n,Wd m.x.d,dB m.y.g,Wd m.y.n,Wd m.y.d]),(5,.d (dI k))])
    (fun k=>k≤i∧DO ps i=eP (fun k=>decide ((ps.getD k default).nm=m.nm)) (i-k) k) (fun k=>i-k) 0 rfl ⟨Nat.zero_le _,hdup⟩ (fun k ⟨hk,hD⟩=>?_)
   refine AW.seq (qX 3 rfl (ae.nil (AW.cond rfl (fun h=>?_) (fun h=>?_))))
   · have hki:k<i:=by have:=ao h;omega
     refine AW.skip (AW.seq (AW.block (AW.seq (AW.draw aS 9 (by kernel_rfl) ?_))));refine qP 3 rfl (ah.idx tok (ps.getD k default).D rfl rfl rfl rfl rfl (aj k) (getM Mark.D (by omega)) ?_);refine qP 5 rfl ?_;rw[l9];refine ah.nil (ae.nil (AW.cond rfl (fun h=>?_) (fun h=>?_)))
     · have h6:uB ps i=6:=by rw[hbd,hD.trans (fL hki h)];rfl
       rw[show E=6 by rw[hbE (by omega),h6]];exact qX 1 rfl (qN rfl)
     · refine AW.skip (qT 3 rfl ?_);rw[aI (x:=(k:Int)+1) (by omega) (by omega)];refine ae.nil ?_;exact⟨k+1,rfl,⟨hki,hD.trans (eO hki h)⟩,by omega⟩
   · have hki: ¬k<i:=by have:=ar h;omega
     rw[hD.trans (fM hki),if_neg (by decide)] at hbd;refine AW.exit ?_;refine AW.cut [1,3,49] (fun _:Unit=>[(1,.bx [dS bn,qb ps]),(3,.d (dI i)),(49,.d (dB (!decide (m.x.okB=true∧m.y.okB=true))))]) (fun _=>True) ?_ (fun _ _=>?_)
     · refine qT 2 rfl (qM rfl (jZ m.x mok2 (by omega)) ?_);refine ae.split (t:=42) rfl (fun h=>?_) (fun h=>?_)
       · refine qU 4 rfl (qM rfl (jZ m.y mok3 (by omega)) ?_);refine qU 2 rfl (ae.nil ?_);exact⟨(),by rw[show decide (m.x.okB=true∧m.y.okB=true)=m.y.okB by simp[h]];rfl,trivial⟩
       · refine qU 7 rfl (ae.nil ?_);exact⟨(),by rw[show decide (m.x.okB=true∧m.y.okB=true)=false by simp[h]];rfl,trivial⟩
     refine AW.cond rfl (fun h=>?_) (fun h=>?_)
     · have hno: ¬(m.x.okB=true∧m.y.okB=true):=fun e=>by rw[aO e] at h;cases h
       have h3:uB ps i=3:=by rw[hbd,if_neg hno]
       rw[show E=3 by rw[hbE (by omega),h3]];exact qX 1 rfl (qN rfl)
     · have hyes:m.x.okB=true∧m.y.okB=true:=by simpa using h
       rw[if_pos hyes] at hbd;refine AW.skip (qT 3 rfl ?_);rw[aI (x:=(i:Int)+1) (by omega) (by omega)];refine ae.nil ?_;exact⟨i+1,rfl,⟨hin,hbM hbd⟩,by omega⟩
 · have hin: ¬i<ps.length:=by have:=ar h;omega
   rw[hE,e7 hin];exact AW.exit (qX 1 rfl (qN rfl))
set_option maxHeartbeats 1600000 in
theorem xD(l:Lkg){K:Nat}(hl:l.ok K)(hK:K≤50000000):Pure Tryz.prog 34 [l.D] (dI (bM l.bodies:Nat)):=by
 refine qJ 48 Tryz.func34 rfl rfl rfl rfl (by kernel_rfl) (fun B F0 w0=>?_);obtain ⟨ln,bs,js,ds⟩:=l;have hb:=hl.b;have hn:=hl.nb;simp only[] at hb hn ⊢;unfold big at hn;show AW _ _ _ _ _ _ _ (eI 0 [D.ag [dS ln,aC bs,aB js,ay ds]]);refine qX 2 rfl (qI (qX 1 rfl (ae.nil (AW.block ?_))))
 refine AW.aL [1,3] (fun i:Nat=>[(1,.bx [dS ln,aC bs,aB js,ay ds]),(3,.d (dI i))])
  (fun i=>i≤bs.length∧bM bs=fE (fX bs) (bs.length-i) i) (fun i=>bs.length-i) 0 rfl ⟨Nat.zero_le _,rfl⟩ (fun i ⟨hi,hE⟩=>?_)
 refine AW.seq (qX 5 rfl ?_);rw[af];refine ae.nil (AW.cond rfl (fun h=>?_) (fun h=>?_))
 · have hin:i<bs.length:=by have:=ao h;omega
   have hbi:=hb i;have hbE:fX bs i≠0→bM bs=fX bs i:=fun h0=>hE.trans (eZ hin h0);have hbM:fX bs i=0→bM bs=fE (fX bs) (bs.length-(i+1)) (i+1):=fun h0=>hE.trans (dh hin h0);generalize bM bs=E at *;obtain ⟨b,hbe⟩: ∃b,b=bs.getD i default:=⟨_,rfl⟩;rw[← hbe] at hbi;have bok:=hbi.1;unfold big at bok;have hdup:DQ bs i=eP (fun k=>decide ((bs.getD k default).nm=b.nm)) i 0:=by rw[hbe];rfl
   have hbd:fX bs i=if cU b.nm=false then 5 else if DQ bs i=true then 6 else r9 b.pts:=by rw[hbe];rfl
   refine AW.skip (AW.seq (AW.block (AW.seq (qX 3 rfl ?_))));refine ae.idx tok b.D rfl rfl rfl rfl (aj i) (by rw[hbe];exact getM Body.D hin) ?_;refine qU 2 rfl (qM rfl (jw b.nm bok) ?_);refine qU 1 rfl (ae.nil (AW.cond rfl (fun h=>?_) (fun h=>?_)))
   · have hnm:cU b.nm=false:=kz h;have h5:fX bs i=5:=by rw[hbd,hnm];rfl
     rw[show E=5 by rw[hbE (by omega),h5]];exact qX 1 rfl (qN rfl)
   have hnm:cU b.nm=true:=by simpa using h
   rw[hnm,if_neg (by decide)] at hbd;refine AW.skip (AW.seq (qX 1 rfl (ae.nil (AW.block ?_))))
   refine AW.aL [1,3,4] (fun k:Nat=>[(1,.bx [dS ln,aC bs,aB js,ay ds]),(3,.d (dI i)),(4,.d (dI k))])
    (fun k=>k≤i∧DQ bs i=eP (fun k=>decide ((bs.getD k default).nm=b.nm)) (i-k) k) (fun k=>i-k) 0 rfl ⟨Nat.zero_le _,hdup⟩ (fun k ⟨hk,hD⟩=>?_)
   refine AW.seq (qX 3 rfl (ae.nil (AW.cond rfl (fun h=>?_) (fun h=>?_))))
   · have hki:k<i:=by have:=ao h;omega
     refine AW.skip (AW.seq (AW.block (AW.seq (AW.draw aS 13 (by kernel_rfl) ?_))));refine qP 3 rfl (ah.idx tok (bs.getD k default).D rfl rfl rfl rfl rfl (aj k) (getM Body.D (by omega)) ?_);refine qP 5 rfl ?_;refine ah.idx tok b.D rfl rfl rfl rfl rfl (aj i) (by rw[hbe];exact getM Body.D hin) ?_;refine qP 3 rfl ?_;rw[l9];refine ah.nil (ae.nil (AW.cond rfl (fun h=>?_) (fun h=>?_)))
     · have h6:fX bs i=6:=by rw[hbd,hD.trans (fL hki h)];rfl
       rw[show E=6 by rw[hbE (by omega),h6]];exact qX 1 rfl (qN rfl)
     · refine AW.skip (qT 3 rfl ?_);rw[aI (x:=(k:Int)+1) (by omega) (by omega)];refine ae.nil ?_;exact⟨k+1,rfl,⟨hki,hD.trans (eO hki h)⟩,by omega⟩
   · have hki: ¬k<i:=by have:=ar h;omega
     rw[hD.trans (fM hki),if_neg (by decide)] at hbd;refine AW.exit (qX 3 rfl ?_);refine ae.idx tok b.D rfl rfl rfl rfl (aj i) (by rw[hbe];exact getM Body.D hin) ?_;refine qU 1 rfl (qM rfl (xB b hbi hK) ?_);refine qU 1 rfl (qK 2 rfl (ae.nil (AW.cond rfl (fun h=>?_) (fun h=>?_))))
     · have h0:r9 b.pts≠0:=by rintro e;rw[e] at h;cases h
       rw[show E=r9 b.pts by rw[hbE (by rw[hbd];exact h0),hbd]];exact qX 2 rfl (qN rfl)
     · have h0:r9 b.pts=0:=by
        have:((r9 b.pts:Nat):Int)=0:=by simpa using h
        omega
       refine AW.skip (qT 3 rfl ?_);rw[aI (x:=(i:Int)+1) (by omega) (by omega)];refine ae.nil ?_;exact⟨i+1,rfl,⟨hin,hbM (by rw[hbd];exact h0)⟩,by omega⟩
 · have hin: ¬i<bs.length:=by have:=ar h;omega
   rw[hE,e7 hin];exact AW.exit (qX 1 rfl (qN rfl))
theorem Bv(p q:Mark){K:Nat}(hp:p.ok K)(hq:q.ok K)(hK:K≤5000000):Pure Tryz.prog 65 [p.D,q.D] (dB (lH p q)):=by
 refine qJ 19 Tryz.func65 rfl rfl rfl rfl (by kernel_rfl) (fun B F0 w0=>?_);refine qX 3 rfl (qK 4 rfl (qM rfl (vC p.x q.x hp.2.1 hq.2.1 (by omega)) ?_));refine qU 1 rfl ?_;rw[oJ];refine ae.split (t:=10) rfl (fun h=>?_) (fun h=>?_)
 · have h1:=ao h;refine qU 5 rfl (qM rfl (vC p.y q.y hp.2.2 hq.2.2 (by omega)) ?_);refine qU 3 rfl ?_;rw[oJ];refine ae.nil ?_;rw[show lH p q=decide (p.y.val=q.y.val) by unfold lH;simp[h1]];exact AW.ret rfl
 · have h1:=ar h;refine qU 9 rfl (ae.nil ?_);rw[show lH p q=false by unfold lH;simp[h1]];exact AW.ret rfl
end Lift
namespace Lift
open Go Go.Proofs
set_option maxHeartbeats 1600000 in
theorem zv(l:Lkg)(i:Nat){K:Nat}(hl:l.ok K)(hK:K≤5000000)(hin:i<l.joints.length):Pure Tryz.prog 35 [l.D,dI i] (dI (cZ l.bodies l.joints i:Nat)):=by
 refine qJ 112 Tryz.func35 rfl rfl rfl rfl (by kernel_rfl) (fun B F0 w0=>?_);obtain ⟨ln,bs,js,ds⟩:=l;have hb:=hl.b;have jok:=hl.j i;have hn:=hl.nj;simp only[] at hb jok hn hin ⊢;unfold big at jok hn;show AW _ _ _ _ _ _ _ (eI 0 [D.ag [dS ln,aC bs,aB js,ay ds],dI i]);obtain ⟨j,hje⟩: ∃j,j=js.getD i default:=⟨_,rfl⟩;rw[← hje] at jok;have hdup:um js i=eP (fun k=>decide ((js.getD k default).nm=j.nm)) i 0:=by rw[hje];rfl
 have hbd:cZ bs js i=if cU j.nm=false then 5 else if um js i=true then 6 else jE bs j:=by rw[hje];rfl
 generalize cZ bs js i=E at *;refine qX 2 rfl (qK 3 rfl ?_);refine ae.idx tok j.D rfl rfl rfl rfl (aj i) (by rw[hje];exact getM a9.D hin) ?_;refine qU 3 rfl (ae.nil ?_);obtain ⟨nm,kind,a,pt,b,on,to⟩:=j;simp only[] at jok hdup hbd
 have hj:jE bs ⟨nm,kind,a,pt,b,on,to⟩=if kind≠0∧kind≠1 then 7 else if (jz a bs.length&&jz b bs.length)=false then 9 else if a=b then 13 else
  if (jz pt (bs.getD a.toNat default).pts.length&&jz on (bs.getD b.toNat default).pts.length)=false then 9 else
  if kind=0 then (if to=0 then 0 else 2) else if jz to (bs.getD b.toNat default).pts.length=false then 9 else
  if lH ((bs.getD b.toNat default).pts.getD on.toNat default) ((bs.getD b.toNat default).pts.getD to.toNat default)=true then 8 else 0:=rfl
 generalize jE bs ⟨nm,kind,a,pt,b,on,to⟩=E2 at *;refine AW.seq (qX 2 rfl (qM rfl (jw nm jok) ?_));refine qU 1 rfl (ae.nil (AW.cond rfl (fun h=>?_) (fun h=>?_)))
 · rw[if_pos (kz h)] at hbd;rw[hbd];exact qX 1 rfl (qN rfl)
 rw[if_neg (by simpa using h)] at hbd;refine AW.skip (AW.seq (qX 1 rfl (ae.nil (AW.block ?_))))
 refine AW.aL [1,2,5,6] (fun k:Nat=>[(1,.d (dI i)),(2,.bx [dS ln,aC bs,aB js,ay ds]),(5,.bx [dS nm,dI kind,dI a,dI pt,dI b,dI on,dI to]),(6,.d (dI k))])
  (fun k=>k≤i∧um js i=eP (fun k=>decide ((js.getD k default).nm=nm)) (i-k) k) (fun k=>i-k) 0 rfl ⟨Nat.zero_le _,hdup⟩ (fun k ⟨hk,hD⟩=>?_)
 refine AW.seq (qX 3 rfl (ae.nil (AW.cond rfl (fun h=>?_) (fun h=>?_))))
 · have hki:k<i:=by have:=ao h;omega
   refine AW.skip (AW.seq (AW.block (AW.seq (AW.draw aS 9 (by kernel_rfl) ?_))));refine qP 3 rfl (ah.idx tok (js.getD k default).D rfl rfl rfl rfl rfl (aj k) (getM a9.D (by omega)) ?_);refine qP 5 rfl ?_;rw[l9];refine ah.nil (ae.nil (AW.cond rfl (fun h=>?_) (fun h=>?_)))
   · rw[hD.trans (fL hki h)] at hbd;rw[show E=6 from hbd];exact qX 1 rfl (qN rfl)
   · refine AW.skip (qT 3 rfl ?_);rw[aI (x:=(k:Int)+1) (by omega) (by omega)];refine ae.nil ?_;exact⟨k+1,rfl,⟨hki,hD.trans (eO hki h)⟩,by omega⟩
 have hki: ¬k<i:=by have:=ar h;omega
 rw[hD.trans (fM hki),if_neg (by decide)] at hbd;rw[hbd];clear hbd;refine AW.exit (AW.seq ?_);refine AW.cut [2,5,39] (fun _:Unit=>[(2,.bx [dS ln,aC bs,aB js,ay ds]),(5,.bx [dS nm,dI kind,dI a,dI pt,dI b,dI on,dI to]),(39,.d (dB (decide (kind≠0∧kind≠1))))]) (fun _=>True) ?_ (fun _ _=>?_)
 · refine qT 3 rfl ?_;refine ae.split (t:=34) rfl (fun h=>?_) (fun h=>?_)
   · have h1:kind≠0:=by simpa using h
     refine qU 5 rfl (ae.nil ?_);exact⟨(),by rw[show decide (kind≠0∧kind≠1)=(kind != 1) by rw[Bool.eq_iff_iff];simp[h1]];rfl,trivial⟩
   · have h1:kind=0:=by simpa using h
     refine qU 5 rfl (ae.nil ?_);exact⟨(),by rw[show decide (kind≠0∧kind≠1)=false by simp[h1]];rfl,trivial⟩
 refine AW.cond rfl (fun h=>?_) (fun h=>?_)
 · rw[if_pos (ao h)] at hj;rw[hj];exact qX 1 rfl (qN rfl)
 rw[if_neg (ar h)] at hj;refine AW.skip (AW.seq ?_);refine AW.cut [2,5,55] (fun _:Unit=>[(2,.bx [dS ln,aC bs,aB js,ay ds]),(5,.bx [dS nm,dI kind,dI a,dI pt,dI b,dI on,dI to]),(55,.d (dB (!(jz a bs.length&&jz b bs.length))))]) (fun _=>True) ?_ (fun _ _=>?_)
 · refine qT 5 rfl ?_;rw[af];refine qM rfl (fO a bs.length) ?_;refine ae.split (t:=45) rfl (fun h=>?_) (fun h=>?_)
   · refine qU 7 rfl ?_;rw[af];refine qM rfl (fO b bs.length) ?_;refine qU 2 rfl (ae.nil ?_);exact⟨(),by rw[h];rfl,trivial⟩
   · refine qU 10 rfl (ae.nil ?_);exact⟨(),by rw[h];rfl,trivial⟩
 refine AW.cond rfl (fun h=>?_) (fun h=>?_)
 · rw[if_pos (kz h)] at hj;rw[hj];exact qX 1 rfl (qN rfl)
 have hab:jz a bs.length=true∧jz b bs.length=true:=by simpa using h
 rw[if_neg (by simp[hab])] at hj;obtain ⟨ha0,ha1⟩:=tE hab.1;obtain ⟨hb0,hb1⟩:=tE hab.2;obtain ⟨Bb,hBb⟩: ∃x,x=bs.getD b.toNat default:=⟨_,rfl⟩;obtain ⟨Ba,hBa⟩: ∃x,x=bs.getD a.toNat default:=⟨_,rfl⟩;have okb:=hb b.toNat;rw[← hBb] at hj okb;rw[← hBa] at hj;refine AW.skip (AW.seq (qX 5 rfl (ae.nil (AW.cond rfl (fun h=>?_) (fun h=>?_)))))
 · rw[if_pos (by simpa using h)] at hj;rw[hj];exact qX 1 rfl (qN rfl)
 rw[if_neg (by simpa using h)] at hj;refine AW.skip (AW.seq (AW.draw aS 15 (by kernel_rfl) ?_));refine qP 4 rfl ?_;refine ah.idx tok Ba.D rfl rfl rfl rfl rfl ha0 (by rw[hBa];exact getM Body.D ha1) ?_;refine qP 6 rfl ?_;refine ah.idx tok Bb.D rfl rfl rfl rfl rfl hb0 (by rw[hBb];exact getM Body.D hb1) ?_;refine qP 3 rfl (ah.nil (qU 1 rfl (qI ?_)));refine AW.cut [5,8,88] (fun _:Unit=>[(5,.bx [dS nm,dI kind,dI a,dI pt,dI b,dI on,dI to]),(8,.d (qb Bb.pts)),(88,.d (dB (!(jz pt Ba.pts.length&&jz on Bb.pts.length))))]) (fun _=>True) ?_ (fun _ _=>?_)
 · refine qT 4 rfl ?_;rw[af];refine qM rfl (fO pt Ba.pts.length) ?_;refine ae.split (t:=79) rfl (fun h=>?_) (fun h=>?_)
   · refine qU 6 rfl ?_;rw[af];refine qM rfl (fO on Bb.pts.length) ?_;refine qU 2 rfl (ae.nil ?_);exact⟨(),by rw[h];rfl,trivial⟩
   · refine qU 9 rfl (ae.nil ?_);exact⟨(),by rw[h];rfl,trivial⟩
 refine AW.cond rfl (fun h=>?_) (fun h=>?_)
 · rw[if_pos (kz h)] at hj;rw[hj];exact qX 1 rfl (qN rfl)
 have hpo:jz pt Ba.pts.length=true∧jz on Bb.pts.length=true:=by simpa using h
 rw[if_neg (by simp[hpo])] at hj;obtain ⟨ho0,ho1⟩:=tE hpo.2;refine AW.skip (AW.seq (qX 3 rfl (ae.nil (AW.cond rfl (fun h=>?_) (fun h=>?_)))))
 · rw[if_pos (by simpa using h)] at hj;refine AW.seq (qX 3 rfl (ae.nil (AW.cond rfl (fun h=>?_) (fun h=>?_))))
   · rw[if_neg (by simpa using h)] at hj;rw[hj];exact qX 1 rfl (qN rfl)
   · rw[if_pos (by simpa using h)] at hj;rw[hj];exact AW.skip (qX 1 rfl (qN rfl))
 rw[if_neg (by simpa using h)] at hj;refine AW.skip (AW.seq (qX 4 rfl ?_));rw[af];refine qM rfl (fO to Bb.pts.length) ?_;refine qU 1 rfl (ae.nil (AW.cond rfl (fun h=>?_) (fun h=>?_)))
 · rw[if_pos (kz h)] at hj;rw[hj];exact qX 1 rfl (qN rfl)
 have hto:jz to Bb.pts.length=true:=by simpa using h
 rw[if_neg (by simp[hto])] at hj;obtain ⟨ht0,ht1⟩:=tE hto;obtain ⟨p,hp⟩: ∃x,x=Bb.pts.getD on.toNat default:=⟨_,rfl⟩;obtain ⟨q,hq⟩: ∃x,x=Bb.pts.getD to.toNat default:=⟨_,rfl⟩;have okp:=okb.2.2 on.toNat;have okq:=okb.2.2 to.toNat;rw[← hp] at hj okp;rw[← hq] at hj okq;refine AW.skip (AW.seq (AW.seq (AW.draw aS 11 (by kernel_rfl) ?_)));refine qP 3 rfl ?_;refine ah.idx tok p.D rfl rfl rfl rfl rfl ho0 (by rw[hp];exact getM Mark.D ho1) ?_;refine qP 4 rfl ?_;refine ah.idx tok q.D rfl rfl rfl rfl rfl ht0 (by rw[hq];exact getM Mark.D ht1) ?_;refine qP 1 rfl (qQ rfl (Bv p q okp okq hK) ?_);refine ah.nil (ae.nil (AW.cond rfl (fun h=>?_) (fun h=>?_)))
 · rw[if_pos h] at hj;rw[hj];exact qX 1 rfl (qN rfl)
 · rw[if_neg (by rw[h];decide)] at hj;rw[hj];exact AW.skip (qX 1 rfl (qN rfl))
set_option maxHeartbeats 1600000 in
theorem xC(l:Lkg)(i:Nat){K:Nat}(hl:l.ok K)(hin:i<l.drivers.length):Pure Tryz.prog 36 [l.D,dI i] (dI (dW l.bodies.length l.drivers i:Nat)):=by
 refine qJ 55 Tryz.func36 rfl rfl rfl rfl (by kernel_rfl) (fun B F0 w0=>?_);obtain ⟨ln,bs,js,ds⟩:=l;have dok:=hl.d i;have hn:=hl.nd;simp only[] at dok hn hin ⊢;unfold big at dok hn;show AW _ _ _ _ _ _ _ (eI 0 [D.ag [dS ln,aC bs,aB js,ay ds],dI i]);obtain ⟨d,hde⟩: ∃d,d=ds.getD i default:=⟨_,rfl⟩;rw[← hde] at dok;have hdup:DP ds i=eP (fun k=>decide ((ds.getD k default).nm=d.nm)) i 0:=by rw[hde];rfl
 have hdup2:DN ds i=eP (fun k=>decide ((ds.getD k default).body=d.body)) i 0:=by rw[hde];rfl
 have hbd:dW bs.length ds i=if cU d.nm=false then 5 else if DP ds i=true then 6 else if jz d.body bs.length=false then 9 else if d.body=0 then 7 else if DN ds i=true then 6 else 0:=by rw[hde];rfl
 generalize dW bs.length ds i=E at *;refine qX 2 rfl (qK 3 rfl ?_);refine ae.idx tok d.D rfl rfl rfl rfl (aj i) (by rw[hde];exact getM Driver.D hin) ?_;refine qU 3 rfl (qI (qX 2 rfl (qM rfl (jw d.nm dok) ?_)));refine qU 1 rfl (ae.nil (AW.cond rfl (fun h=>?_) (fun h=>?_)))
 · rw[if_pos (kz h)] at hbd;rw[hbd];exact qX 1 rfl (qN rfl)
 rw[if_neg (by simpa using h)] at hbd;refine AW.skip (AW.seq (qX 1 rfl (ae.nil (AW.block ?_))))
 refine AW.aL [1,2,5,6] (fun k:Nat=>[(1,.d (dI i)),(2,.bx [dS ln,aC bs,aB js,ay ds]),(5,.bx [dS d.nm,dI d.body]),(6,.d (dI k))])
  (fun k=>k≤i∧DP ds i=eP (fun k=>decide ((ds.getD k default).nm=d.nm)) (i-k) k) (fun k=>i-k) 0 rfl ⟨Nat.zero_le _,hdup⟩ (fun k ⟨hk,hD⟩=>?_)
 refine AW.seq (qX 3 rfl (ae.nil (AW.cond rfl (fun h=>?_) (fun h=>?_))))
 · have hki:k<i:=by have:=ao h;omega
   refine AW.skip (AW.seq (AW.block (AW.seq (AW.draw aS 9 (by kernel_rfl) ?_))));refine qP 3 rfl (ah.idx tok (ds.getD k default).D rfl rfl rfl rfl rfl (aj k) (getM Driver.D (by omega)) ?_);refine qP 5 rfl ?_;rw[l9];refine ah.nil (ae.nil (AW.cond rfl (fun h=>?_) (fun h=>?_)))
   · rw[hD.trans (fL hki h)] at hbd;rw[show E=6 from hbd];exact qX 1 rfl (qN rfl)
   · refine AW.skip (qT 3 rfl ?_);rw[aI (x:=(k:Int)+1) (by omega) (by omega)];refine ae.nil ?_;exact⟨k+1,rfl,⟨hki,hD.trans (eO hki h)⟩,by omega⟩
 have hki: ¬k<i:=by have:=ar h;omega
 rw[hD.trans (fM hki),if_neg (by decide)] at hbd;refine AW.exit (AW.seq (qX 5 rfl ?_));rw[af];refine qM rfl (fO d.body bs.length) ?_;refine qU 1 rfl (ae.nil (AW.cond rfl (fun h=>?_) (fun h=>?_)))
 · rw[if_pos (kz h)] at hbd;rw[hbd];exact qX 1 rfl (qN rfl)
 have hinb:jz d.body bs.length=true:=by simpa using h
 rw[if_neg (by simp[hinb])] at hbd;refine AW.skip (AW.seq (qX 3 rfl (ae.nil (AW.cond rfl (fun h=>?_) (fun h=>?_)))))
 · rw[if_pos (by simpa using h)] at hbd;rw[hbd];exact qX 1 rfl (qN rfl)
 rw[if_neg (by simpa using h)] at hbd;refine AW.skip (AW.seq (qX 1 rfl (ae.nil (AW.block ?_))))
 refine AW.aL [1,2,5,7] (fun k:Nat=>[(1,.d (dI i)),(2,.bx [dS ln,aC bs,aB js,ay ds]),(5,.bx [dS d.nm,dI d.body]),(7,.d (dI k))])
  (fun k=>k≤i∧DN ds i=eP (fun k=>decide ((ds.getD k default).body=d.body)) (i-k) k) (fun k=>i-k) 0 rfl ⟨Nat.zero_le _,hdup2⟩ (fun k ⟨hk,hD⟩=>?_)
 refine AW.seq (qX 3 rfl (ae.nil (AW.cond rfl (fun h=>?_) (fun h=>?_))))
 · have hki:k<i:=by have:=ao h;omega
   refine AW.skip (AW.seq (AW.block (AW.seq (AW.draw aS 9 (by kernel_rfl) ?_))));refine qP 3 rfl (ah.idx tok (ds.getD k default).D rfl rfl rfl rfl rfl (aj k) (getM Driver.D (by omega)) ?_);refine qP 5 rfl (ah.nil (ae.nil (AW.cond rfl (fun h=>?_) (fun h=>?_))))
   · have h':decide ((ds.getD k default).body=d.body)=true:=by simpa using h
     rw[hD.trans (fL hki h')] at hbd;rw[show E=6 from hbd];exact qX 1 rfl (qN rfl)
   · have h':decide ((ds.getD k default).body=d.body)=false:=by simpa using h
     refine AW.skip (qT 3 rfl ?_);rw[aI (x:=(k:Int)+1) (by omega) (by omega)];refine ae.nil ?_;exact⟨k+1,rfl,⟨hki,hD.trans (eO hki h')⟩,by omega⟩
 have hki: ¬k<i:=by have:=ar h;omega
 rw[hD.trans (fM hki),if_neg (by decide)] at hbd;rw[hbd];exact AW.exit (qX 1 rfl (qN rfl))
theorem zZ{n:Nat}(h:(((n:Nat):Int) != 0)=true):n≠0:=by rintro rfl;cases h
theorem DL{n:Nat}(h:(((n:Nat):Int) != 0)=false):n=0:=by
 have:((n:Nat):Int)=0:=by simpa using h
 omega
set_option maxHeartbeats 1600000 in
theorem zw(l:Lkg){K:Nat}(hl:l.ok K)(hK:K≤5000000):Pure Tryz.prog 15 [l.D] (dI (uo l:Nat)):=by
 refine qJ 59 Tryz.func15 rfl rfl rfl rfl (by kernel_rfl) (fun B F0 w0=>?_);have c1:=xD l hl (by omega);have c2:=fun i=>zv l i hl hK;have c3:=fun i=>xC l i hl
 have hcd:uo l=if cU l.nm=false then 5 else if l.bodies=[] then 10 else if 8<l.bodies.length then 4 else
  if bM l.bodies≠0 then bM l.bodies else if bA l.bodies l.joints≠0 then bA l.bodies l.joints else iD l.bodies.length l.drivers:=rfl
 generalize uo l=E at *;obtain ⟨ln,bs,js,ds⟩:=l;have hnm:=hl.nm;have hnb:=hl.nb;have hnj:=hl.nj;have hnd:=hl.nd;simp only[] at hcd c1 c2 c3 hnm hnb hnj hnd ⊢;unfold big at hnm hnb hnj hnd;show AW _ _ _ _ _ _ _ (eI 0 [D.ag [dS ln,aC bs,aB js,ay ds]]);refine qX 2 rfl (qI (qX 2 rfl (qM rfl (jw ln hnm) ?_)));refine qU 1 rfl (ae.nil (AW.cond rfl (fun h=>?_) (fun h=>?_)))
 · rw[if_pos (kz h)] at hcd;rw[hcd];exact qX 1 rfl (qN rfl)
 rw[if_neg (by simpa using h)] at hcd;refine AW.skip (AW.seq (qX 4 rfl ?_));rw[af];refine ae.nil (AW.cond rfl (fun h=>?_) (fun h=>?_))
 · have h0:bs=[]:=List.length_eq_zero_iff.1 (by have:(bs.length:Int)=0:=by simpa using h
                                                omega)
   rw[if_pos h0] at hcd;rw[hcd];exact qX 1 rfl (qN rfl)
 have h0:bs≠[]:=by rintro rfl;simp at h
 rw[if_neg h0] at hcd;refine AW.skip (AW.seq (qX 4 rfl ?_));rw[af];refine ae.nil (AW.cond rfl (fun h=>?_) (fun h=>?_))
 · have h8:8<bs.length:=by have:=ao h;omega
   rw[if_pos h8] at hcd;rw[hcd];exact qX 1 rfl (qN rfl)
 have h8: ¬8<bs.length:=by have:=ar h;omega
 rw[if_neg h8] at hcd;refine AW.skip (AW.seq (qX 1 rfl (qM rfl c1 (qU 1 rfl (qK 2 rfl (ae.nil (AW.cond rfl (fun h=>?_) (fun h=>?_))))))))
 · rw[if_pos (zZ h)] at hcd;rw[hcd];exact qX 2 rfl (qN rfl)
 rw[if_neg (fun e=>e (DL h))] at hcd;refine AW.skip (AW.seq (qX 4 rfl ?_));rw[af];refine ae.nil (AW.cond rfl (fun h=>?_) (fun h=>?_))
 · have h16:16<js.length:=by have:=ao h;omega
   have hje:bA bs js=4:=by rw[bA,if_pos h16]
   rw[hje,if_pos (by decide)] at hcd;rw[hcd];exact qX 1 rfl (qN rfl)
 have h16: ¬16<js.length:=by have:=ar h;omega
 have hje:bA bs js=fE (cZ bs js) js.length 0:=by rw[bA,if_neg h16]
 refine AW.skip (AW.seq (qX 1 rfl (ae.nil (AW.block ?_))))
 refine AW.aL [1,4] (fun i:Nat=>[(1,.bx [dS ln,aC bs,aB js,ay ds]),(4,.d (dI i))])
  (fun i=>i≤js.length∧bA bs js=fE (cZ bs js) (js.length-i) i) (fun i=>js.length-i) 0 rfl ⟨Nat.zero_le _,hje⟩ (fun i ⟨hi,hE⟩=>?_)
 refine AW.seq (qX 5 rfl ?_);rw[af];refine ae.nil (AW.cond rfl (fun h=>?_) (fun h=>?_))
 · have hin:i<js.length:=by have:=ao h;omega
   refine AW.skip (AW.seq (AW.block (qX 2 rfl (qM rfl (c2 i hin) ?_))));refine qU 1 rfl (qK 2 rfl (ae.nil (AW.cond rfl (fun h=>?_) (fun h=>?_))))
   · rw[hE.trans (eZ hin (zZ h)),if_pos (zZ h)] at hcd;rw[hcd];exact qX 2 rfl (qN rfl)
   · refine AW.skip (qT 3 rfl ?_);rw[aI (x:=(i:Int)+1) (by omega) (by omega)];refine ae.nil ?_;exact⟨i+1,rfl,⟨hin,hE.trans (dh hin (DL h))⟩,by omega⟩
 have hin: ¬i<js.length:=by have:=ar h;omega
 rw[hE.trans (e7 hin),if_neg (by decide)] at hcd;refine AW.exit (AW.seq (qX 4 rfl ?_));rw[af];refine ae.nil (AW.cond rfl (fun h=>?_) (fun h=>?_))
 · have h2:2<ds.length:=by have:=ao h;omega
   rw[iD,if_pos h2] at hcd;rw[hcd];exact qX 1 rfl (qN rfl)
 have h2: ¬2<ds.length:=by have:=ar h;omega
 rw[iD,if_neg h2] at hcd;refine AW.skip (AW.seq (qX 1 rfl (ae.nil (AW.block ?_))))
 refine AW.aL [1,6] (fun i:Nat=>[(1,.bx [dS ln,aC bs,aB js,ay ds]),(6,.d (dI i))])
  (fun i=>i≤ds.length∧E=fE (dW bs.length ds) (ds.length-i) i) (fun i=>ds.length-i) 0 rfl ⟨Nat.zero_le _,hcd⟩ (fun i ⟨hi,hE⟩=>?_)
 refine AW.seq (qX 5 rfl ?_);rw[af];refine ae.nil (AW.cond rfl (fun h=>?_) (fun h=>?_))
 · have hin:i<ds.length:=by have:=ao h;omega
   refine AW.skip (AW.seq (AW.block (qX 2 rfl (qM rfl (c3 i hin) ?_))));refine qU 1 rfl (qK 2 rfl (ae.nil (AW.cond rfl (fun h=>?_) (fun h=>?_))))
   · rw[hE.trans (eZ hin (zZ h))];exact qX 2 rfl (qN rfl)
   · refine AW.skip (qT 3 rfl ?_);rw[aI (x:=(i:Int)+1) (by omega) (by omega)];refine ae.nil ?_;exact⟨i+1,rfl,⟨hin,hE.trans (dh hin (DL h))⟩,by omega⟩
 have hin: ¬i<ds.length:=by have:=ar h;omega
 rw[hE.trans (e7 hin)];exact AW.exit (qX 1 rfl (qN rfl))
end Lift
namespace Lift
open Go Go.Proofs
def Hc(rt:List (List RD))(a:List RD):D:=if kF rt [a]≠0 then .tu [aq [],dI (kF rt [a])] else .tu [aq (kA (au a)),dI 0]
theorem C8{m:Nat}{rt:List (List RD)}{a:List RD}(T:qa m rt)(A:kK m rt a):Pure Tryz.prog 68 [w8 rt,bw a] (Hc rt a):=by
 refine qJ 17 Tryz.func68 rfl rfl rfl rfl (by kernel_rfl) (fun B F0 w0=>?_);have ce:=Bx T A;have hm:=T.m2;unfold Hc;refine qX 3 rfl (qI (qX 2 rfl (ae.mX tok rfl rfl rfl rfl rfl ?_)));refine qM rfl ce (qU 1 rfl (qK 2 rfl (ae.nil ?_)));by_cases e2:kF rt [a]=0;rotate_left
 · rw[if_pos e2,bne_iff_ne.2 (show ((kF rt [a]:Nat):Int)≠0 by omega)];exact AW.aJ rfl (qX 3 rfl (qN rfl))
 rw[if_neg (fun h=>h e2),bne_eq_false_iff_eq.2 (show ((kF rt [a]:Nat):Int)=0 by omega)];obtain ⟨k1,k2⟩:=AA e2;have h5:=(rI k1).1;obtain ⟨n1,n2,n3⟩:=jM T.m1 A k2;have nl:=n1.len (by omega);have cl:=th (au a) n2 (by omega) (by omega);have cs:=jY (aZ (au a)) n1.minus h5;rw[← n3] at cl;exact AW.aH rfl (AW.skip (qX 1 rfl (qM rfl cl (qM rfl cs (qU 2 rfl (qN rfl))))))
theorem vy{m:Nat}{rt:List (List RD)}(p:fu)(T:qa m rt)(hp:p.ok m rt)(h0:dG rt=0):Pure Tryz.prog 38 [w8 rt,p.D] (dI (yA rt p)):=by
 refine qJ 36 Tryz.func38 rfl rfl rfl rfl (by kernel_rfl) (fun B F0 w0=>?_)
 have hq: ∀k,k<4→ ∃q,[bw p.c,bw p.s,bw p.x,bw p.y][k]?=some (bw q)∧FP rt p k=b5 rt.length q∧kK m rt q:=fun k hk=>by
  rcases k with _ | k
  · exact⟨p.c,rfl,rfl,hp.c⟩
  rcases k with _ | k
  · exact⟨p.s,rfl,rfl,hp.s⟩
  rcases k with _ | k
  · exact⟨p.x,rfl,rfl,hp.x⟩
  rcases k with _ | k
  · exact⟨p.y,rfl,rfl,hp.y⟩
  omega
 unfold yA;obtain ⟨E,hE⟩: ∃E,fE (FP rt p) (4-0) 0=E:=⟨_,rfl⟩;rw[hE];refine qX 3 rfl (qK 8 rfl (ae.mX tok rfl rfl rfl rfl rfl ?_));refine qU 1 rfl (qI (qX 1 rfl (ae.nil ?_)));refine AW.block (AW.aL [2,5,6] (fun i:Nat=>[(2,.bx [.sl 1 (rt.map bw)]),(5,.d (.sl 1 [bw p.c,bw p.s,bw p.x,bw p.y])),(6,.d (dI i))]) (fun i=>i≤4∧fE (FP rt p) (4-i) i=E) (fun i=>4-i) 0 rfl ⟨Nat.zero_le _,hE⟩ (fun i ⟨hi,hiE⟩=>?_));refine AW.seq (qX 4 rfl (ae.nil ?_));by_cases hii:i<4;rotate_left
 · rw[e7 hii] at hiE;subst hiE;have:i=4:=by omega
   subst this;exact AW.aH rfl (AW.exit (qX 1 rfl (qN rfl)))
 obtain ⟨q,hg,hgq,hqo⟩:=hq i hii;have cn:=C8 T hqo;have hmiss:=fun h0:FP rt p i=0=>(dh hii h0).symm.trans hiE;have hhit:=fun h0:FP rt p i≠0=>(eZ hii h0).symm.trans hiE;unfold Hc at cn;rw[KY h0] at cn;rw[hgq] at hmiss hhit;rw[show decide ((i:Int)<(([bw p.c,bw p.s,bw p.x,bw p.y]:List D).length:Int))=true from aO (by show (i:Int)<((4:Nat):Int);omega)];refine AW.aJ rfl (AW.skip (AW.seq (AW.block (AW.seq ?_))));by_cases hz:b5 rt.length q=0;rotate_left
 · rw[if_pos hz] at cn;have:=hhit hz;subst this;refine AW.draw aS 10 (by kernel_rfl) ?_;refine qP 3 rfl (ah.idx tok (bw q) rfl rfl rfl rfl rfl (aj i) hg ?_);refine qP 1 rfl (qQ rfl cn (qP 4 rfl (ah.nil (qU 1 rfl (qK 2 rfl ?_)))));rw[bne_iff_ne.2 (show ((b5 rt.length q:Nat):Int)≠0 by omega)];exact ae.nil (AW.aJ rfl (qX 2 rfl (qN rfl)))
 rw[if_neg (fun h=>h hz)] at cn;refine AW.draw aS 10 (by kernel_rfl) ?_;refine qP 3 rfl (ah.idx tok (bw q) rfl rfl rfl rfl rfl (aj i) hg ?_);refine qP 1 rfl (qQ rfl cn (qP 4 rfl (ah.nil (qU 1 rfl (qK 2 rfl (ae.nil (AW.aH rfl (AW.skip (qT 2 rfl ?_)))))))));rw[aI (x:=(i:Int)+1) (by omega) (by omega)];refine qU 1 rfl (ae.nil ?_);exact⟨i+1,rfl,⟨hii,hmiss hz⟩,by omega⟩
end Lift
namespace Lift
open Go Go.Proofs
theorem zu(l:Lkg)(a:Asm){K m:Nat}(hl:l.ok K)(hK:K≤5000000)(ha:a.ok m):Pure Tryz.prog 16 [l.D,a.D] (dI (eU l a)):=by
 refine qJ 45 Tryz.func16 rfl rfl rfl rfl (by kernel_rfl) (fun B0 F0 w0=>?_);have cM:=zw l hl hK;obtain ⟨m0,t1,t2,tw,tk⟩:=ha.t.t;have cT:=qG a.rt tw t1 ha.t.l ha.t.ll tk;have hal:=ha.l;have haT:=ha.t;have hab:=ha.b;unfold eU;obtain ⟨E,hE⟩: ∃E,fE (fun i=>yA a.rt (a.bodies.getD i default)) (a.bodies.length-0) 0=E:=⟨_,rfl⟩;rw[hE];generalize uo l=c1 at cM ⊢;obtain ⟨ln,lb,js,lds⟩:=l;obtain ⟨rt,bs,md⟩:=a;simp only[] at *;refine qX 3 rfl (qI (qX 1 rfl (qM rfl cM (qU 1 rfl (qK 2 rfl (ae.nil ?_))))));by_cases e1:c1=0;rotate_left
 · rw[if_pos e1,bne_iff_ne.2 (show ((c1:Nat):Int)≠0 by omega)];exact AW.aJ rfl (qX 2 rfl (qN rfl))
 rw[if_neg (fun h=>h e1),bne_eq_false_iff_eq.2 (show ((c1:Nat):Int)=0 by omega)];refine AW.aH rfl (AW.skip (AW.seq (qX 2 rfl (qM rfl cT (qU 1 rfl (qK 2 rfl (ae.nil ?_)))))));by_cases e2:dG rt=0;rotate_left
 · rw[if_pos e2,bne_iff_ne.2 (show ((dG rt:Nat):Int)≠0 by omega)];exact AW.aJ rfl (qX 2 rfl (qN rfl))
 rw[if_neg (fun h=>h e2),bne_eq_false_iff_eq.2 (show ((dG rt:Nat):Int)=0 by omega)];refine AW.aH rfl (AW.skip (AW.seq (qX 2 rfl (qU 1 rfl ?_))));rw[af];refine qU 3 rfl ?_;rw[af];refine qU 1 rfl (ae.nil ?_);by_cases e3:bs.length=lb.length;rotate_left
 · rw[if_pos e3,bne_iff_ne.2 (show ((bs.length:Nat):Int)≠((lb.length:Nat):Int) by omega)];exact AW.aJ rfl (qX 1 rfl (qN rfl))
 rw[if_neg (fun h=>h e3),bne_eq_false_iff_eq.2 (show ((bs.length:Nat):Int)=((lb.length:Nat):Int) by omega)];refine AW.aH rfl (AW.skip (AW.seq (qX 1 rfl (ae.nil ?_))));refine AW.block (AW.aL [3,7] (fun i:Nat=>[(3,.bx [.sl 1 (rt.map bw),.sl 4 (bs.map fu.D),.sl 1 (md.map (fun n=>dI n))]),(7,.d (dI i))]) (fun i=>i≤bs.length∧fE (fun i=>yA rt (bs.getD i default)) (bs.length-i) i=E) (fun i=>bs.length-i) 0 rfl ⟨Nat.zero_le _,hE⟩ (fun i ⟨hi,hiE⟩=>?_));refine AW.seq (qX 4 rfl ?_);rw[af];refine qU 1 rfl (ae.nil (AW.cond rfl (fun h=>?_) (fun h=>?_)));rotate_left
 · have hii: ¬i<bs.length:=by have:=ar h;omega
   rw[e7 hii] at hiE;subst hiE;exact AW.exit (qX 1 rfl (qN rfl))
 have hii:i<bs.length:=by have:=ao h;omega
 have hg:=getM fu.D hii;have cn:=vy (bs.getD i default) haT (hab i hii) e2;have hmiss:=fun h0:yA rt (bs.getD i default)=0=>(dh (f:=fun i=>yA rt (bs.getD i default)) hii h0).symm.trans hiE;have hhit:=fun h0:yA rt (bs.getD i default)≠0=>(eZ (f:=fun i=>yA rt (bs.getD i default)) hii h0).symm.trans hiE;generalize yA rt (bs.getD i default)=z at cn hmiss hhit;refine AW.skip (AW.seq (AW.block (AW.seq (AW.draw aS 8 (by kernel_rfl) ?_))));refine qP 5 rfl (ah.idx tok (bs.getD i default).D rfl rfl rfl rfl rfl (aj i) hg ?_);refine qP 1 rfl (qQ rfl cn (ah.nil (qU 1 rfl (qK 2 rfl (ae.nil ?_)))));by_cases hz:z=0;rotate_left
 · have:=hhit hz;subst this;rw[bne_iff_ne.2 (show ((z:Nat):Int)≠0 by omega)];exact AW.aJ rfl (qX 2 rfl (qN rfl))
 rw[bne_eq_false_iff_eq.2 (show ((z:Nat):Int)=0 by omega)];refine AW.aH rfl (AW.skip (qT 2 rfl ?_));rw[aI (x:=(i:Int)+1) (by omega) (by omega)];refine qU 1 rfl (ae.nil ?_);exact⟨i+1,rfl,⟨hii,hmiss hz⟩,by omega⟩
end Lift
namespace Lift
open Go Go.Proofs
end Lift
namespace Lift
open Go Go.Proofs
abbrev AsD(v:List NQ)(bs:List fu)(md:List Int):D:= .ag [.sl 1 (v.map aq),.sl 4 (bs.map fu.D),.sl 1 (md.map (fun n=>dI n))]
theorem FO{r:List NQ}{b:Int}{n:Nat}(x y w:NQ)(hr:r.length=3*(n-1))(h:b<n)(h0:0≤b)(hn:0<n):(mr r b x y w).length=3*(n-1):=by
 rw[qW x y w (fun _=>by omega)];exact hr
end Lift
namespace Lift
open Go Go.Proofs
end Lift
namespace Lift
open Go Go.Proofs
def tO(v:List NQ)(q:NQ):Prop:=aA v.length q∧aE 300000 q
theorem uT(v:List NQ):tO v []:=⟨cg _,cL (by decide)⟩
theorem Fi{P:NQ→Prop}{r:List NQ}(h: ∀q∈r,P q)(h0:P [])(k:Nat):P (r.getD k []):=by
 by_cases hk:k<r.length
 · rw[aK,bP hk];exact h _ (List.getElem_mem hk)
 · rw[rF (by omega)];exact h0
theorem mq{P:NQ→Prop}{r:List NQ}{b:Int}{x y w:NQ}(h: ∀q∈r,P q)(hx:P x)(hy:P y)(hw:P w): ∀q∈mr r b x y w,P q:=fun q hq=>by
 unfold mr at hq;split at hq
 · rcases List.mem_append.1 hq with hq | hq
   · rcases List.mem_append.1 hq with hq | hq
     · exact h q (List.mem_of_mem_take hq)
     · simp only[List.mem_cons,List.not_mem_nil,or_false] at hq;rcases hq with rfl | rfl | rfl
       · exact hx
       · exact hy
       · exact hw
   · exact h q (List.mem_of_mem_drop hq)
 · exact h q hq
theorem Hb(v:List NQ)(n:Nat): ∀q∈r6 n,tO v q:=fun q hq=>by
 rw[(List.mem_replicate.1 hq).2];exact uT v
def Mx(v:List NQ)(n:Nat)(r:List NQ):Prop:=r.length=3*(n-1)∧ ∀q∈r,tO v q
theorem lL{v:List NQ}{n:Nat}{r:List NQ}{b:Int}{x y w:NQ}(h:Mx v n r)(hb:0≤b∧b<n)(hn:0<n)(hx:tO v x)(hy:tO v y)(hw:tO v w):Mx v n (mr r b x y w) :=
 ⟨FO x y w h.1 hb.2 hb.1 hn,mq h.2 hx hy hw⟩
structure Gm (l:Lkg) (a:Asm):Prop where
 G:Ny l a
 V:iJ 16 (a.rt.map au)
 l2:(a.rt.map au).length≤2
 X: ∀b p:Int,0≤b→b<l.bodies.length→0≤p→p<(l.bodies.getD b.toNat default).pts.length→(aA (a.rt.map au).length (uE (a.rt.map au) l a b p)∧aE 1400 (uE (a.rt.map au) l a b p))∧(aA (a.rt.map au).length (uD (a.rt.map au) l a b p)∧aE 1400 (uD (a.rt.map au) l a b p))
 P: ∀b:Int,0≤b→b<l.bodies.length→(a.bodies.map fu.D)[b.toNat]?=some (xH (a.bodies.getD b.toNat default)).D∧(xH (a.bodies.getD b.toNat default)).ok (a.rt.map au).length 16
 D:a.D=AsD (a.rt.map au) a.bodies a.modes
theorem Hp{l:Lkg}{a:Asm}(hl:l.ok 16)(ha:a.ok 16)(h2:a.rt.length≤2)(h:eU l a=0):Gm l a:=by
 have G:=zI h;have V:=iJ.of ha.t G.tw;have W:=qi ha.t G.tw;have hvl:(a.rt.map au).length≤2:=by rw[af];exact h2
 have gP: ∀b:Int,0≤b→b<l.bodies.length→(a.bodies.map fu.D)[b.toNat]?=some (xH (a.bodies.getD b.toNat default)).D∧(xH (a.bodies.getD b.toNat default)).ok (a.rt.map au).length 16:=fun b b0 b1=>by
  have hln:=G.ln;have hb:b.toNat<a.bodies.length:=by omega
  have h3:=Hq (by decide) (ha.b _ hb) (G.pl _ hb);rw[af,← h3.2];exact⟨by simp[hb],h3.1⟩
 refine⟨G,V,hvl,fun b p b0 b1 p0 p1=>?_,gP,?_⟩
 · have hm:=(hl.b b.toNat).2.2 p.toNat;exact K0 V hvl (gP b b0 b1).2 (lg _ (cF hm.2.1 (by decide))) (lg _ (cF hm.2.2 (by decide)))
 · have:=W.eq;show D.ag [.sl 1 (a.rt.map bw),_,_]=D.ag [.sl 1 ((a.rt.map au).map aq),_,_];rw[show a.rt.map bw=(a.rt.map au).map aq by simpa using this]
theorem tO.of{v:List NQ}{q:NQ}{k:Nat}(h:aA v.length q∧aE k q)(hk:k≤300000):tO v q:=⟨h.1,h.2.mono hk⟩
theorem Dn{l:Lkg}{a:Asm}(O:Gm l a){j:a9}(J:Ot l.bodies j): ∀r∈rp (a.rt.map au) l a j,Mx (a.rt.map au) l.bodies.length r:=by
 have b1:=O.G.lk.b1;have l2:=O.l2;obtain ⟨x1,x2⟩:=O.X j.a j.pt J.a.1 J.a.2 J.pt.1 J.pt.2;obtain ⟨y1,y2⟩:=O.X j.b j.on J.b.1 J.b.2 J.on.1 J.on.2;have V:=O.V.mono (show 16≤3000 by decide) (by decide);have hz:Mx (a.rt.map au) l.bodies.length (r6 l.bodies.length):=⟨Bk _,Hb _ _⟩;have ja:=J.a;have jb:=J.b;have one:tO (a.rt.map au) [1]:=⟨fb _ _,gg (by have:=gF;omega)⟩;have neg: ∀{q:NQ},tO (a.rt.map au) q→tO (a.rt.map au) (kA q):=fun h=>JS h.1 h.2;have nil:=uT (a.rt.map au);unfold rp;intro r hr;split at hr
 · rename_i hk;obtain ⟨z1,z2⟩:=O.X j.b j.to J.b.1 J.b.2 (J.to (by omega)).1 (J.to (by omega)).2;rw[List.mem_singleton] at hr;subst hr;have q1:=kP y2.1 y2.2 z2.1 z2.2;have q2:=kP z1.1 z1.2 y1.1 y1.2;have hT:sT (a.rt.map au).length 3000≤126009:=Nat.le_trans (uy l2) (by decide);have p1:=gr V q2.1 (q2.2.mono (by decide)) x1.1 (x1.2.mono (by decide));have p2:=gr V q1.1 (q1.2.mono (by decide)) x2.1 (x2.2.mono (by decide));have q3:=kP p1.1 (p1.2.mono hT) p2.1 (p2.2.mono hT);have e1:tO (a.rt.map au) _:=tO.of q1 (by decide);have e2:tO (a.rt.map au) _:=tO.of q2 (by decide);have e3:tO (a.rt.map au) _:=tO.of q3 (by decide);exact lL (lL hz ja b1 e1 e2 e3) jb b1 (neg e1) (neg e2) (neg e3)
 · have e1:tO (a.rt.map au) _:=tO.of x1 (by decide);have e2:tO (a.rt.map au) _:=tO.of x2 (by decide);have e3:tO (a.rt.map au) _:=tO.of y1 (by decide);have e4:tO (a.rt.map au) _:=tO.of y2 (by decide);simp only[List.mem_cons,List.not_mem_nil,or_false] at hr;rcases hr with rfl | rfl
   · exact lL (lL hz ja b1 one nil (neg e2)) jb b1 (neg one) nil e4
   · exact lL (lL hz ja b1 nil one e1) jb b1 nil (neg one) (neg e3)
theorem yo{l:Lkg}{a:Asm}(O:Gm l a): ∀i,i≤l.joints.length→ ∀r∈im (a.rt.map au) l a i,Mx (a.rt.map au) l.bodies.length r
 | 0,_,r,hr=>by cases hr
 | i+1,hi,r,hr=>by
   rcases List.mem_append.1 hr with h | h
   · exact yo O i (by omega) r h
   · exact Dn O (O.G.lk.j i (by omega)) r h
theorem Dj{l:Lkg}{a:Asm}(O:Gm l a){i:Nat}(hi:i<(fS l a).length):Mx (a.rt.map au) l.bodies.length ((fS l a).getD i []):=by
 rw[aK,bP hi];exact yo O _ (ai _) _ (List.getElem_mem hi)
theorem EF{l:Lkg}{a:Asm}(O:Gm l a)(i k:Nat):tO (a.rt.map au) (bm (fS l a) i k):=by
 unfold bm;by_cases hi:i<(fS l a).length
 · exact Fi (Dj O hi).2 (uT _) k
 · rw[k7 (by omega)];exact uT _
theorem LF{l:Lkg}{a:Asm}(O:Gm l a):(fS l a).length≤32:=by
 have h1:=rZ (a.rt.map au) l a l.joints.length;have h2:=O.G.lk.j16;unfold fS;omega
theorem uH{l:Lkg}{a:Asm}(O:Gm l a)(h:0<(fS l a).length):bd (fS l a)=3*(l.bodies.length-1):=(Dj O h).1
theorem lP{l:Lkg}{a:Asm}(O:Gm l a):Cy (a.rt.map au) (fS l a):=by
 refine⟨LF O,fun j hj=>?_,?_,fun i k=>(EF O i k).1⟩
 · rw[(Dj O hj).1,uH O (by omega)]
 · by_cases h:0<(fS l a).length
   · rw[uH O h];have:=O.G.lk.b8;omega
   · unfold bd;rw[k7 (by omega)];exact Nat.zero_le _
end Lift
namespace Lift
section
variable {K:Fd}
def sm{K:Fd}(n:Nat)(f:Nat→K.T):K.T:=match n with
 | 0=>0
 | n+1=>sm n f+f n
theorem fg{n:Nat}{f g:Nat→K.T}(h: ∀k,k<n→f k=g k):sm n f=sm n g:=by
 induction n with
 | zero=>rfl
 | succ n ih =>
   show sm n f+f n=sm n g+g n;rw[ih (fun k hk=>h k (by omega)),h n (by omega)]
theorem qq{n:Nat}{f:Nat→K.T}(h: ∀k,k<n→f k=0):sm n f=0:=by
 induction n with
 | zero=>rfl
 | succ n ih =>
   show sm n f+f n=0;rw[ih (fun k hk=>h k (by omega)),h n (by omega),Rg.add_zero]
theorem GU(n:Nat)(f g:Nat→K.T):sm n (fun k=>f k+g k)=sm n f+sm n g:=by
 induction n with
 | zero=>exact(Rg.add_zero _).symm
 | succ n ih =>
   show sm n _+(f n+g n)=sm n f+f n+(sm n g+g n);rw[ih];exact Rg.bJ [sm n f,sm n g,f n,g n] (X0+X1+(X2+X3)) (X0+X2+(X1+X3)) rfl
theorem vm(n:Nat)(c:K.T)(f:Nat→K.T):sm n (fun k=>c*f k)=c*sm n f:=by
 induction n with
 | zero=>exact(Rg.mul_zero _).symm
 | succ n ih =>
   show sm n _+c*f n=c*(sm n f+f n);rw[ih,Rg.mul_add]
theorem Eg(n:Nat)(c:K.T)(f:Nat→K.T):sm n (fun k=>f k*c)=sm n f*c:=by
 rw[Rg.mul_comm,← vm];exact fg fun k _=>Rg.mul_comm _ _
theorem Lj(n:Nat)(f:Nat→K.T):sm n (fun k=> -f k)= -sm n f:=by
 induction n with
 | zero=>exact Rg.neg_zero.symm
 | succ n ih =>
   show sm n _+ -f n= -(sm n f+f n);rw[ih,Rg.neg_add]
theorem CW(n:Nat)(f g:Nat→K.T):sm n (fun k=>f k-g k)=sm n f-sm n g:=by
 rw[show (fun k=>f k-g k)=fun k=>f k+ -g k from rfl,GU,Lj];rfl
theorem ze{n j:Nat}{f:Nat→K.T}(hj:j<n)(h: ∀k,k<n→k≠j→f k=0):sm n f=f j:=by
 induction n with
 | zero=>omega
 | succ n ih =>
   show sm n f+f n=f j;by_cases e:j=n
   · subst e;rw[qq (fun k hk=>h k (by omega) (by omega)),Rg.zero_add]
   · rw[ih (by omega) (fun k hk hk2=>h k (by omega) hk2),h n (by omega) (fun g=>e g.symm),Rg.add_zero]
theorem Eh(m n:Nat)(f:Nat→Nat→K.T):sm m (fun i=>sm n (fun k=>f i k))=sm n (fun k=>sm m (fun i=>f i k)):=by
 induction m with
 | zero=>exact(qq (fun k _=>rfl)).symm
 | succ m ih =>
   show sm m _+sm n (fun k=>f m k)=sm n (fun k=>sm m (fun i=>f i k)+f m k);rw[ih,GU]
def sk(j k:Nat):Nat:=if k<j then k else k+1
theorem MD(j k:Nat):sk j k≠j:=by unfold sk;split<;>omega
theorem ME{j k n:Nat}(h:k<n):sk j k<n+1:=by unfold sk;split<;>omega
theorem Jv{n j:Nat}(f:Nat→K.T)(hj:j<n+1):sm (n+1) f=sm n (fun k=>f (sk j k))+f j:=by
 induction n with
 | zero =>
   obtain rfl:j=0:=by omega
   rfl
 | succ n ih =>
   show sm (n+1) f+f (n+1)=sm n (fun k=>f (sk j k))+f (sk j n)+f j;by_cases e:j=n+1
   · subst e;have:sk (n+1) n=n:=by unfold sk;rw[if_pos (by omega)]
     rw[this];show sm n f+f n+f (n+1)=_
     rw[show sm n (fun k=>f (sk (n+1) k))=sm n f from fg fun k hk=>by
      show f (sk (n+1) k)=f k
      unfold sk;rw[if_pos (by omega)]]
   · have:sk j n=n+1:=by unfold sk;rw[if_neg (by omega)]
     rw[ih (by omega),this];exact Rg.bJ [sm n (fun k=>f (sk j k)),f j,f (n+1)] (X0+X1+X2) (X0+X2+X1) rfl
theorem CX: ∀(s r:Nat) (R:Nat→Nat→K.T),s<r→ ∃x:Nat→K.T,(∃k,k<r∧x k≠0)∧ ∀p,p<s→sm r (fun k=>R p k*x k)=0
 | 0,r,R,h=>⟨fun _=>1,⟨0,h,Fd.De⟩,fun p hp=>by omega⟩
 | s+1,r,R,h=>by
   by_cases hz: ∀k,k<r→R s k=0
   · obtain ⟨x,h1,h2⟩:=CX s r R (by omega);refine⟨x,h1,fun p hp=>?_⟩;by_cases e:p=s
     · subst e;exact qq fun k hk=>by rw[hz k hk,Rg.zero_mul]
     · exact h2 p (by omega)
   · obtain ⟨j,hj⟩:=Classical.not_forall.1 hz;obtain ⟨hj,hne⟩:=Classical.not_imp.1 hj;obtain ⟨n,rfl⟩: ∃n,r=n+1:=⟨r-1,by omega⟩;obtain ⟨y,⟨k0,hk0,hy0⟩,hy⟩:=CX s n (fun p k=>R p (sk j k) -R p j*K.inv (R s j)*R s (sk j k)) (by omega)
     have back: ∀k,k≠j→sk j (if k<j then k else k-1)=k:=fun k hk=>by
      unfold sk;by_cases c:k<j
      · rw[if_pos c,if_pos c]
      · rw[if_neg c,if_neg (by omega)];omega
     let x:Nat→K.T:=fun k=>if k=j then -(K.inv (R s j)*sm n (fun k=>R s (sk j k)*y k)) else y (if k<j then k else k-1)
     have xj:x j= -(K.inv (R s j)*sm n (fun k=>R s (sk j k)*y k)):=if_pos rfl
     have xs: ∀k,x (sk j k)=y k:=fun k=>by
      show (if sk j k=j then _ else _)=_;rw[if_neg (MD j k)];unfold sk;by_cases c:k<j
      · rw[if_pos c,if_pos c]
      · rw[if_neg c,if_neg (by omega)];rfl
     refine⟨x,⟨sk j k0,ME hk0,by rw[xs];exact hy0⟩,fun p hp=>?_⟩;rw[Jv _ hj,xj,show sm n (fun k=>R p (sk j k)*x (sk j k))=sm n (fun k=>R p (sk j k)*y k) from fg fun k _=>by rw[xs]];by_cases e:p=s
     · subst e;generalize sm n (fun k=>R p (sk j k)*y k)=S;have h1:=Fd.rh hne;rw[show S+R p j* -(K.inv (R p j)*S)=S-R p j*K.inv (R p j)*S from Rg.bJ [S,R p j,K.inv (R p j)] (X0+X1* -(X2*X0)) (X0-X1*X2*X0) rfl,h1,Rg.one_mul];exact Rg.sub_self S
     · have h1:=hy p (by omega)
       rw[show (fun k=>(R p (sk j k) -R p j*K.inv (R s j)*R s (sk j k))*y k)=fun k=>R p (sk j k)*y k-R p j*K.inv (R s j)*(R s (sk j k)*y k) from funext fun k =>
        Rg.bJ [R p (sk j k),R p j,K.inv (R s j),R s (sk j k),y k] ((X0-X1*X2*X3)*X4) (X0*X4-X1*X2*(X3*X4)) rfl,CW,vm] at h1
       rw[← h1];exact Rg.bJ [sm n (fun k=>R p (sk j k)*y k),R p j,K.inv (R s j),sm n (fun k=>R s (sk j k)*y k)] (X0+X1* -(X2*X3)) (X0-X1*X2*X3) rfl
abbrev Mk(K:Fd):=Nat→Nat→K.T
def D7(m n s:Nat)(A:Mk K):Prop:= ∃(L R:Mk K),∀i k,i<m→k<n→A i k=sm s (fun p=>L i p*R p k)
theorem D7.MA{m n s:Nat}{A:Mk K}(h:D7 m n s A):D7 n m s (fun i k=>A k i):=by
 obtain ⟨L,R,h⟩:=h
 exact⟨fun i p=>R p i,fun p k=>L k p,fun i k hi hk=>by
  show A k i=_
  rw[h k i hk hi];exact fg fun p _=>Rg.mul_comm _ _⟩
theorem D7.congr{m n s:Nat}{A B:Mk K}(h:D7 m n s A)(he: ∀i k,i<m→k<n→A i k=B i k):D7 m n s B:=by
 obtain ⟨L,R,h⟩:=h;exact⟨L,R,fun i k hi hk=>by rw[← he i k hi hk];exact h i k hi hk⟩
theorem Jw{s t:Nat}(h:s≤t)(f:Nat→K.T):sm t (fun p=>if p<s then f p else 0)=sm s f:=by
 induction t with
 | zero =>
   obtain rfl:s=0:=by omega
   rfl
 | succ t ih =>
   show sm t _+(if t<s then f t else 0)=sm s f;by_cases e:s=t+1
   · subst e;rw[if_pos (by omega)];show _=sm t f+f t;rw[show sm t (fun p=>if p<t+1 then f p else 0)=sm t f from fg fun p hp=>if_pos (by omega)]
   · rw[if_neg (by omega),Rg.add_zero,ih (by omega)]
theorem D7.more{m n s t:Nat}{A:Mk K}(h:D7 m n s A)(hs:s≤t):D7 m n t A:=by
 obtain ⟨L,R,h⟩:=h;refine⟨L,fun p k=>if p<s then R p k else 0,fun i k hi hk=>?_⟩;rw[h i k hi hk,← Jw hs]
 exact fg fun p _=>by
  show (if p<s then L i p*R p k else 0)=L i p*(if p<s then R p k else 0);split
  · rfl
  · exact(Rg.mul_zero _).symm
theorem D7.ge{m n s r:Nat}{A:Mk K}(h:D7 m n s A)(c:Nat→Nat)(hc: ∀p,p<r→c p<n)(hi: ∀x:Nat→K.T,(∀i,i<m→sm r (fun p=>A i (c p)*x p)=0)→ ∀p,p<r→x p=0):r≤s:=by
 by_cases hrs:r≤s
 · exact hrs
 exfalso;obtain ⟨L,R,h⟩:=h;obtain ⟨x,⟨k,hk,hx⟩,h0⟩:=CX s r (fun p k=>R p (c k)) (by omega);refine hx (hi x (fun i him=>?_) k hk)
 rw[show sm r (fun p=>A i (c p)*x p)=sm r (fun p=>sm s (fun q=>L i q*(R q (c p)*x p))) from fg fun p hp=>by
  rw[h i (c p) him (hc p hp),← Eg]
  exact fg fun q _=>Rg.mul_assoc _ _ _,Eh]
 exact qq fun q hq=>by rw[vm,h0 q hq,Rg.mul_zero]
end
end Lift
namespace Lift
section
variable {K:Fd}
structure RI (m N c:Nat) (A M:Mk K) (cols:List Nat):Prop where
 cN:c≤N
 eqv: ∀x:Nat→K.T,(∀i,i<m→sm N (fun k=>A i k*x k)=0)↔(∀i,i<m→sm N (fun k=>M i k*x k)=0)
 lt: ∀p,p<cols.length→cols.getD p 0<c
 rm:cols.length≤m
 JK: ∀p q,p<cols.length→q<m→M q (cols.getD p 0)=if q=p then 1 else 0
 zr: ∀q k,cols.length≤q→q<m→k<c→M q k=0
 asc: ∀p q,p<q→q<cols.length→cols.getD p 0<cols.getD q 0
 left: ∀p k,p<cols.length→k<cols.getD p 0→M p k=0
def sw(r t i:Nat):Nat:=if i=r then t else if i=t then r else i
theorem Kx(r t i:Nat):sw r t (sw r t i)=i:=by
 unfold sw;by_cases h1:i=r
 · subst h1;rw[if_pos rfl];by_cases h2:t=i
   · rw[if_pos h2,h2]
   · rw[if_neg h2,if_pos rfl]
 · rw[if_neg h1];by_cases h2:i=t
   · subst h2;rw[if_pos rfl,if_pos rfl]
   · rw[if_neg h2,if_neg h1,if_neg h2]
theorem Le(r t:Nat):sw r t r=t:=if_pos rfl
theorem Ee{r t i m:Nat}(hr:r<m)(ht:t<m)(hi:i<m):sw r t i<m:=by unfold sw;split;exact ht;split;exact hr;exact hi
theorem Ky{r t i:Nat}(ht:r≤t)(hi:r≤i):r≤sw r t i:=by unfold sw;split;exact ht;split;exact ai _;exact hi
theorem CS{r t i:Nat}(ht:r≤t)(hi:i<r):sw r t i=i:=by unfold sw;rw[if_neg (by omega),if_neg (by omega)]
theorem uK(l:List Nat)(c:Nat):(l++[c]).getD l.length 0=c:=by
 rw[aK,List.getElem?_append_right (ai _),Nat.sub_self];rfl
theorem sM{l:List Nat}{p:Nat}(c:Nat)(h:p<l.length):(l++[c]).getD p 0=l.getD p 0:=by
 rw[aK,List.getElem?_append_left h,aK]
theorem RI.start(m N:Nat)(A:Mk K):RI m N 0 A A [] :=
 ⟨Nat.zero_le _,fun x=>Iff.rfl,fun p hp=>absurd hp (Nat.not_lt_zero _),Nat.zero_le _,fun p q hp=>absurd hp (Nat.not_lt_zero _),fun q k _ _ hk=>absurd hk (Nat.not_lt_zero _),fun p q _ hq=>absurd hq (Nat.not_lt_zero _),fun p k hp=>absurd hp (Nat.not_lt_zero _)⟩
theorem RI.N7{m N c:Nat}{A M:Mk K}{cols:List Nat}(I:RI m N c A M cols)(hc:c<N)(h: ∀q,cols.length≤q→q<m→M q c=0):RI m N (c+1) A M cols :=
 ⟨hc,I.eqv,fun p hp=>Nat.lt_succ_of_lt (I.lt p hp),I.rm,I.JK,fun q k h1 h2 h3=>by
  by_cases e:k=c
  · subst e;exact h q h1 h2
  · exact I.zr q k h1 h2 (by omega),I.asc,I.left⟩
theorem RI.hit{m N c t:Nat}{A M M':Mk K}{cols:List Nat}(I:RI m N c A M cols)(hc:c<N)(h1:cols.length≤t)(h2:t<m)(h3:M t c≠0)
  (h4: ∀i k,i<m→k<N→M' i k=if i=cols.length then M t k*K.inv (M t c) else M (sw cols.length t i) k-M (sw cols.length t i) c*(M t k*K.inv (M t c))):RI m N (c+1) A M' (cols++[c]):=by
 have hrm:cols.length<m:=by omega
 have hp1:=Fd.rh h3;have hinv:=Fd.LK h3;have hll:(cols++[c]).length=cols.length+1:=by rw[List.length_append];rfl
 have hBt: ∀k,k<c→M t k=0:=fun k hk=>I.zr t k h1 h2 hk;have hBl: ∀p,p<cols.length→M t (cols.getD p 0)=0:=fun p hp=>hBt _ (I.lt p hp)
 have hcc: ∀q,q<m→M' q c=if q=cols.length then 1 else 0:=fun q hq=>by
  rw[h4 q c hq hc];split
  · exact hp1
  · rw[hp1,Rg.mul_one];exact Rg.sub_self _
 have dot: ∀(x:Nat→K.T) i,i<m→sm N (fun k=>M' i k*x k)=if i=cols.length then sm N (fun k=>M t k*x k)*K.inv (M t c) else sm N (fun k=>M (sw cols.length t i) k*x k) -M (sw cols.length t i) c*K.inv (M t c)*sm N (fun k=>M t k*x k):=fun x i hi=>by
  by_cases e:i=cols.length
  · rw[if_pos e,← Eg]
    exact fg fun k hk=>by
     rw[h4 i k hi hk,if_pos e];exact Rg.bJ [M t k,K.inv (M t c),x k] (X0*X1*X2) (X0*X2*X1) rfl
  · rw[if_neg e,← vm,← CW]
    exact fg fun k hk=>by
     rw[h4 i k hi hk,if_neg e];exact Rg.bJ [M (sw cols.length t i) k,M (sw cols.length t i) c,M t k,K.inv (M t c),x k] ((X0-X1*(X2*X3))*X4) (X0*X4-X1*X3*(X2*X4)) rfl
 refine⟨hc,fun x=>(I.eqv x).trans ⟨fun h i hi=>?_,fun h=>?_⟩,fun p hp=>?_,by omega,fun p q hp hq=>?_,fun q k k1 k2 k3=>?_,fun p q hpq hq=>?_,fun p k hp hk=>?_⟩
 · rw[dot x i hi,h t h2,h _ (Ee hrm h2 hi)];split
   · exact Rg.zero_mul _
   · rw[Rg.mul_zero];exact Rg.sub_self _
 · have ht:sm N (fun k=>M t k*x k)=0:=by
    have:=h cols.length hrm;rw[dot x _ hrm,if_pos rfl] at this;rcases Fd.MU this with e | e
    · exact e
    · exact absurd e hinv
   intro i hi;have hs:=Ee hrm h2 hi;by_cases e:sw cols.length t i=cols.length
   · have:i=t:=by rw[← Kx cols.length t i,e];exact Le _ _
     rw[this];exact ht
   · have:=h _ hs;rw[dot x _ hs,if_neg e,Kx,ht,Rg.mul_zero] at this;rw[← this];exact Rg.bJ [sm N (fun k=>M i k*x k)] X0 (X0-0) rfl
 · rw[hll] at hp;by_cases e:p=cols.length
   · rw[e,uK];omega
   · rw[sM c (by omega)];have:=I.lt p (by omega);omega
 · rw[hll] at hp;by_cases e:p=cols.length
   · rw[e,uK];exact hcc q hq
   · have hp:p<cols.length:=by omega
     have hpc:=I.lt p hp;rw[sM c hp,h4 q _ hq (by omega),hBl p hp];by_cases eq:q=cols.length
     · rw[if_pos eq,Rg.zero_mul,if_neg (by omega)]
     · rw[if_neg eq,I.JK p _ hp (Ee hrm h2 hq),Rg.zero_mul,Rg.mul_zero]
       have:(sw cols.length t q=p)↔(q=p):=by
        constructor
        · intro h;by_cases g:q<cols.length
          · rwa [CS h1 g] at h
          · have:=Ky h1 (show cols.length≤q by omega);omega
        · intro h;rw[h];exact CS h1 hp
       by_cases g:q=p
       · rw[if_pos g,if_pos (this.2 g)];exact Rg.bJ [] (1-0) 1 rfl
       · rw[if_neg g,if_neg (fun h=>g (this.1 h))];exact Rg.sub_self _
 · rw[hll] at k1;by_cases e:k=c
   · rw[e,hcc q k2,if_neg (by omega)]
   · rw[h4 q k k2 (by omega),if_neg (by omega),hBt k (by omega),I.zr _ k (Ky h1 (by omega)) (Ee hrm h2 k2) (by omega),Rg.zero_mul,Rg.mul_zero];exact Rg.sub_self _
 · rw[hll] at hq;by_cases e:q=cols.length
   · rw[e,uK,sM c (by omega)];exact I.lt p (by omega)
   · rw[sM c (by omega),sM c (by omega)];exact I.asc p q hpq (by omega)
 · rw[hll] at hp;by_cases e:p=cols.length
   · rw[e,uK] at hk;rw[e,h4 _ k hrm (by omega),if_pos rfl,hBt k hk,Rg.zero_mul]
   · have hp:p<cols.length:=by omega
     have hpc:=I.lt p hp;rw[sM c hp] at hk;rw[h4 p k (by omega) (by omega),if_neg e,CS h1 hp,I.left p k hp hk,hBt k (by omega),Rg.zero_mul,Rg.mul_zero];exact Rg.sub_self _
theorem RI.at{m N c:Nat}{A M:Mk K}{cols:List Nat}(I:RI m N c A M cols)(X y:Nat→K.T):sm N (fun j=>X j*sm cols.length (fun p=>if j=cols.getD p 0 then y p else 0))=sm cols.length (fun p=>X (cols.getD p 0)*y p):=by
 have hcN:=I.cN;rw[show sm N (fun j=>X j*sm cols.length (fun p=>if j=cols.getD p 0 then y p else 0))=sm N (fun j=>sm cols.length (fun p=>X j*(if j=cols.getD p 0 then y p else 0))) from fg fun j _=>(vm _ _ _).symm,Eh];refine fg fun p hp=>?_;have:=I.lt p hp;rw[ze (j:=cols.getD p 0) (by omega) (fun k _ hk=>by rw[if_neg hk,Rg.mul_zero]),if_pos rfl]
theorem RI.indep{m N c:Nat}{A M:Mk K}{cols:List Nat}(I:RI m N c A M cols)(x:Nat→K.T)(h: ∀i,i<m→sm cols.length (fun p=>A i (cols.getD p 0)*x p)=0): ∀p,p<cols.length→x p=0:=fun q hq=>by
 have h1:=(I.eqv (fun j=>sm cols.length (fun p=>if j=cols.getD p 0 then x p else 0))).1 (fun i hi=>by rw[I.at (A i) x];exact h i hi) q (by have:=I.rm;omega);rw[I.at (M q) x,ze (j:=q) hq (fun p hp hne=>by rw[I.JK p q hp (by have:=I.rm;omega),if_neg (fun e=>hne e.symm),Rg.zero_mul]),I.JK q q hq (by have:=I.rm;omega),if_pos rfl,Rg.one_mul] at h1;exact h1
theorem RI.by{m N c:Nat}{A M:Mk K}{cols:List Nat}(I:RI m N c A M cols){k:Nat}(hk:k<c){i:Nat}(hi:i<m):A i k=sm cols.length (fun p=>A i (cols.getD p 0)*M p k):=by
 have hcN:=I.cN;have hrm:=I.rm
 have key: ∀X:Nat→K.T,sm N (fun j=>X j*((if j=k then 1 else 0) -sm cols.length (fun p=>if j=cols.getD p 0 then M p k else 0)))=X k-sm cols.length (fun p=>X (cols.getD p 0)*M p k):=fun X=>by
  rw[← I.at X (fun p=>M p k),show (fun j=>X j*((if j=k then 1 else 0) -sm cols.length (fun p=>if j=cols.getD p 0 then M p k else 0)))=fun j=>X j*(if j=k then 1 else 0) -X j*sm cols.length (fun p=>if j=cols.getD p 0 then M p k else 0) from funext fun j =>
   Rg.bJ [X j,(if j=k then 1 else 0),sm cols.length (fun p=>if j=cols.getD p 0 then M p k else 0)] (X0*(X1-X2)) (X0*X1-X0*X2) rfl,CW]
  congr 1
  rw[ze (j:=k) (by omega) (fun j _ hj=>by rw[if_neg hj,Rg.mul_zero]),if_pos rfl,Rg.mul_one]
 have h:=(I.eqv (fun j=>(if j=k then 1 else 0) -sm cols.length (fun p=>if j=cols.getD p 0 then M p k else 0))).2 (fun q hq=>by
  rw[key (M q)];by_cases e:q<cols.length
  · rw[ze (j:=q) e (fun p hp hne=>by rw[I.JK p q hp hq,if_neg (fun e=>hne e.symm),Rg.zero_mul]),I.JK q q e hq,if_pos rfl,Rg.one_mul];exact Rg.sub_self _
  · rw[I.zr q k (by omega) hq hk,qq fun p hp=>by rw[I.JK p q hp hq,if_neg (by omega),Rg.zero_mul]]
    exact Rg.sub_self _) i hi
 rw[key (A i)] at h;exact Rg.yP h
theorem RI.NJ{m N c s:Nat}{A M:Mk K}{cols:List Nat}(I:RI m N c A M cols):D7 m c s A↔cols.length≤s:=by
 constructor
 · intro h;exact h.ge (fun p=>cols.getD p 0) I.lt I.indep
 · intro h;exact D7.more ⟨fun i p=>A i (cols.getD p 0),M,fun i k hi hk=>I.by hk hi⟩ h
end
end Lift
namespace Lift
def vM{v:List NQ}(F:FV v)(a:cI):Mk F.K:=fun i k=>F.val (bm a i k)
theorem yU(v:List NQ)(e:cI)(r c:Nat): ∀n i,i<n→n≤e.length→(dD v e r c n).getD i []=if i≠r∧rQ v (bm e i c)≠0 then nk v (e.getD i []) (e.getD r []) (bm e i c) else e.getD i []
 | 0,i,hi,_=>absurd hi (Nat.not_lt_zero i)
 | n+1,i,hi,hn=>by
   by_cases e1:i=n
   · subst e1;unfold dD;rw[Ax];split
     · rw[eJ,if_pos ⟨rfl,by rw[jD];omega⟩,iE v e r c i i (.inl (ai _)),iE v e r c i r (.inr rfl)]
     · exact iE v e r c i i (.inl (ai _))
   · have ih:=yU v e r c n i (by omega) (by omega);rw[← ih]
     conv=>lhs;unfold dD
     split
     · rw[eJ,if_neg (fun h=>e1 h.1)]
     · rfl
theorem D0{v:List NQ}{s:jT}{c i:Nat}(h1:s.cols.length≤atR v s c)(h:atR v s c<s.rows.length)(hi:i<s.rows.length):(bR v s c).getD i []=s.rows.getD (sw s.cols.length (atR v s c) i) []:=by
 unfold bR;split
 · rename_i e;rw[e];unfold sw;by_cases g:i=s.cols.length
   · rw[if_pos g,g]
   · rw[if_neg g,if_neg g]
 · unfold GN sw;rw[eJ,eJ];by_cases g:i=s.cols.length
   · rw[if_pos ⟨g,by rw[List.length_set];omega⟩,if_pos g]
   · rw[if_neg (fun h=>g h.1),if_neg g];by_cases g2:i=atR v s c
     · rw[if_pos ⟨g2,h⟩,if_pos g2]
     · rw[if_neg (fun h=>g2 h.1),if_neg g2]
theorem GS{v:List NQ}(V:pj v)(F:FV v){m N c:Nat}{s:jT}(R:pk v m N c s)(hc:c<N)(h:atR v s c<s.rows.length):
  vM F s.rows (atR v s c) c≠0∧ ∀i k,i<m→k<N→vM F (dD v (eR v s c) s.cols.length c (eR v s c).length) i k=if i=s.cols.length then vM F s.rows (atR v s c) k*F.K.inv (vM F s.rows (atR v s c) c) else vM F s.rows (sw s.cols.length (atR v s c) i) k-vM F s.rows (sw s.cols.length (atR v s c) i) c*(vM F s.rows (atR v s c) k*F.K.inv (vM F s.rows (atR v s c) c)):=by
 have hl:=R.len;obtain ⟨a1,a2,a3,a4⟩:=fo v s c (by have:=R.cm;omega);have hz:=a4 h;obtain ⟨b1,b2,b3⟩:=rM (c:=c) R h;obtain ⟨e1,e2,e3⟩:=yR V (c:=c) R h;have hrm:s.cols.length<m:=by omega
 have eB: ∀i k,i<m→bm (bR v s c) i k=bm s.rows (sw s.cols.length (atR v s c) i) k:=fun i k hi=>by
  unfold bm;rw[D0 a1 h (by omega)]
 have hp:pR v s c=bm s.rows (atR v s c) c:=by
  unfold pR;rw[eB _ _ hrm,Le]
 have hpz:rQ v (pR v s c)≠0:=by rw[hp];exact hz
 have eE: ∀i k,i<m→k<N→bm (eR v s c) i k=if i=s.cols.length then xL v (bm s.rows (atR v s c) k) (bm s.rows (atR v s c) c) else bm s.rows (sw s.cols.length (atR v s c) i) k:=fun i k hi hk=>by
  unfold bm eR;rw[eJ];by_cases e:i=s.cols.length
  · rw[if_pos ⟨e,by omega⟩,if_pos e,uF _ _ _ (by rw[b2 _ (by omega)];exact hk),hp,D0 a1 h (by omega),Le];rfl
  · rw[if_neg (fun h=>e h.1),if_neg e,D0 a1 h (by omega)]
 have ltR:=R.lt
 have vE: ∀i k,i<m→k<N→F.val (bm (eR v s c) i k)=if i=s.cols.length then vM F s.rows (atR v s c) k*F.K.inv (vM F s.rows (atR v s c) c) else vM F s.rows (sw s.cols.length (atR v s c) i) k:=fun i k hi hk=>by
  rw[eE i k hi hk];by_cases e:i=s.cols.length
  · rw[if_pos e,if_pos e,F.div (ltR _ _) (ltR _ _) hz];rfl
  · rw[if_neg e,if_neg e];rfl
 refine⟨fun e=>hz ((F.sg (ltR _ _)).2 e),fun i k hi hk=>?_⟩;have hd:=yU v (eR v s c) s.cols.length c (eR v s c).length i (by omega) (ai _);show F.val (((dD v (eR v s c) s.cols.length c (eR v s c).length).getD i []).getD k [])=_;rw[hd];by_cases e:i=s.cols.length
 · rw[if_neg (fun h=>h.1 e),if_pos e];have:=vE i k hi hk;rw[if_pos e] at this;exact this
 · rw[if_neg e];have v1:=vE i k hi hk;have v2:=vE i c hi hc;have v3:=vE s.cols.length k hrm hk;rw[if_neg e] at v1 v2;rw[if_pos rfl] at v3;by_cases g:rQ v (bm (eR v s c) i c)=0
   · rw[if_neg (fun h=>h.2 g)];have z:=(F.sg (e3 i c)).1 g;rw[v2] at z;rw[z,Rg.zero_mul];show F.val (bm (eR v s c) i k)=_;rw[v1];exact(Rg.bJ [vM F s.rows (sw s.cols.length (atR v s c) i) k] (X0-0) X0 rfl).symm
   · rw[if_pos ⟨e,g⟩,oo v _ _ _ (by rw[e2 i (by omega)];exact hk)];show F.val (gv (bm (eR v s c) i k) (fT v (bm (eR v s c) i c) (bm (eR v s c) s.cols.length k)))=_;rw[F.sub (e3 i k) (iy V (e3 i c) (e3 _ k)),F.mul (e3 i c) (e3 _ k)];show F.val (bm (eR v s c) i k) -F.val (bm (eR v s c) i c)*F.val (bm (eR v s c) s.cols.length k)=_;rw[v1,v2,v3]
theorem vv{v:List NQ}(V:pj v)(F:FV v){a:cI}{N:Nat}(hr:dq N a)(hl:rO v.length a): ∀c,c≤N→RI a.length N c (vM F a) (vM F (aF v a c).rows) (aF v a c).cols
 | 0,_=>RI.start a.length N (vM F a)
 | c+1,hc=>by
   have I:=vv V F hr hl c (by omega);have R:=kt V hr hl c;have hlen:=R.len;obtain ⟨a1,a2,a3,a4⟩:=fo v (aF v a c) c (by have:=R.cm;omega);show RI a.length N (c+1) (vM F a) (vM F (cQ v (aF v a c) c).rows) (cQ v (aF v a c) c).cols;unfold cQ;by_cases h:atR v (aF v a c) c<(aF v a c).rows.length
   · rw[if_pos h];obtain ⟨h3,h4⟩:=GS V F R (by omega) h;exact I.hit (by omega) a1 (by omega) h3 h4
   · rw[if_neg h];exact I.N7 (by omega) fun q h1 h2=>(F.sg (R.lt q c)).1 (a3 q h1 (by omega))
theorem dq.take{N:Nat}{a:cI}(h:dq N a)(n:Nat):dq N (a.take n):=fun j hj=>by
 rw[bb] at hj;rw[aK,List.getElem?_take,if_pos (by omega),← aK];exact h j (by omega)
theorem Ka{a:cI}{n j:Nat}(hj:j<n):(a.take n).getD j []=a.getD j []:=by
 rw[aK,List.getElem?_take,if_pos hj,← aK]
theorem wD{a:cI}{n j:Nat}(hj:j<n)(k:Nat):bm (a.take n) j k=bm a j k:=by
 unfold bm;rw[Ka hj]
theorem rO.take{l:Nat}{a:cI}(h:rO l a)(n:Nat):rO l (a.take n):=fun j k=>by
 by_cases hj:j<n
 · rw[wD hj];exact h j k
 · unfold bm;rw[k7 (by rw[bb];omega)];exact cg l
theorem FN{m0:Nat}{v:List NQ}(V:iJ m0 v){a b:cI}{N n:Nat}(ha:dq N a)(la:rO v.length a)(hb:dq a.length b)(lb:rO v.length b)(hbN:b.length=N)(hab: ∀i k,i<a.length→k<N→bm b k i=bm a i k)(hn:n≤a.length):
  (aF v b n).cols.length=(aF v (a.take n) N).cols.length:=by
 obtain ⟨F⟩:=KN V;have I1:=vv V.a F hb lb n hn;have I2:=vv V.a F (ha.take n) (la.take n) N (ai N);have hl:(a.take n).length=n:=by rw[bb];omega
 rw[hl] at I2;rw[hbN] at I1
 have key: ∀s,D7 N n s (vM F b)↔D7 n N s (vM F (a.take n)):=fun s=>by
  constructor
  · intro h;refine h.MA.congr fun i k hi hk=>?_;show F.val (bm b k i)=F.val (bm (a.take n) i k);rw[hab i k (by omega) hk,wD hi]
  · intro h;refine h.MA.congr fun k i hk hi=>?_;show F.val (bm (a.take n) i k)=F.val (bm b k i);rw[hab i k (by omega) hk,wD hi]
 have h1:=fun s=>(I1.NJ (s:=s)).symm.trans ((key s).trans I2.NJ);exact Nat.le_antisymm ((h1 _).2 (ai _)) ((h1 _).1 (ai _))
end Lift
namespace Lift
def cK(a:cI):cI:=(List.range (bd a)).map fun k=>a.map fun r=>r.getD k []
theorem gN(a:cI):(cK a).length=bd a:=by unfold cK;rw[af,List.length_range]
theorem om(a:cI){k:Nat}(h:k<bd a):(cK a).getD k []=a.map fun r=>r.getD k []:=by
 unfold cK;rw[aK,List.getElem?_map,List.getElem?_range h];rfl
theorem E3(a:cI)(k i:Nat):(a.map fun r=>r.getD k []).getD i []=bm a i k:=by
 unfold bm;rw[aK,List.getElem?_map,aK (l:=a)];cases a[i]? with
 | none=>exact(rF (Nat.zero_le k)).symm
 | some r=>rfl
theorem vb(a:cI){i k:Nat}(h:k<bd a):bm (cK a) k i=bm a i k:=by
 show ((cK a).getD k []).getD i []=_;rw[om a h];exact E3 a k i
theorem ko(a:cI):dq a.length (cK a):=fun k hk=>by
 rw[gN] at hk;rw[om a hk,af]
theorem Fw{p:NQ→Prop}(h0:p []){a:cI}(h: ∀i k,p (bm a i k)): ∀i k,p (bm (cK a) i k):=fun k i=>by
 by_cases hk:k<bd a
 · rw[vb a hk];exact h i k
 · unfold bm;rw[k7 (by rw[gN];omega)];exact h0
theorem m9{l:Nat}{a:cI}(h:rO l a):rO l (cK a):=Fw (p:=aA l) (cg l) h
theorem CP{a:cI}(h:0<bd a):bd (cK a)=a.length:=by
 unfold bd;rw[om a h,af]
def pg(v:List NQ)(a:cI)(c:Nat):List Nat:=(List.range c).filter fun i=> !(aF v a c).cols.contains i
theorem qw(v:List NQ)(a:cI)(c:Nat):(aF v a (c+1)).cols=(aF v a c).cols++[c]∨(aF v a (c+1)).cols=(aF v a c).cols:=by
 show (cQ v (aF v a c) c).cols=(aF v a c).cols++[c]∨(cQ v (aF v a c) c).cols=(aF v a c).cols;unfold cQ;split
 · exact .inl rfl
 · exact .inr rfl
theorem Et(v:List NQ)(a:cI): ∀c,∀x∈(aF v a c).cols,x<c
 | 0,x,h=>by cases h
 | c+1,x,h=>by
   have ih:=Et v a c;rcases qw v a c with e | e
   · rw[e] at h;rcases List.mem_append.1 h with h | h
     · exact Nat.lt_succ_of_lt (ih x h)
     · rw[List.mem_singleton.1 h];exact Nat.lt_succ_self c
   · rw[e] at h;exact Nat.lt_succ_of_lt (ih x h)
theorem wu(v:List NQ)(a:cI)(c:Nat):((aF v a (c+1)).cols=(aF v a c).cols++[c]∧pg v a (c+1)=pg v a c)∨((aF v a (c+1)).cols=(aF v a c).cols∧pg v a (c+1)=pg v a c++[c]):=by
 have hlt:=Et v a c;rcases qw v a c with e | e
 · refine .inl ⟨e,?_⟩;unfold pg;rw[List.range_succ,List.filter_append,e];rw[show List.filter (fun i=> !((aF v a c).cols++[c]).contains i) [c]=[] by simp,List.append_nil];refine List.filter_congr fun i hi=>?_;have hi:=List.mem_range.1 hi;have:i≠c:=by omega
   simp[this]
 · refine .inr ⟨e,?_⟩;unfold pg;rw[List.range_succ,List.filter_append,e]
   congr 1
   have:c ∉ (aF v a c).cols:=fun h=>absurd (hlt c h) (Nat.lt_irrefl c);simp[this]
theorem yL(v:List NQ)(a:cI): ∀c,(pg v a c).length+(aF v a c).cols.length=c
 | 0=>rfl
 | c+1=>by
   have ih:=yL v a c;rcases wu v a c with ⟨e1,e2⟩ | ⟨e1,e2⟩
   · rw[e1,e2,List.length_append];show _+(_+1)=_;omega
   · rw[e1,e2,List.length_append];show _+1+_=_;omega
theorem H7(v:List NQ)(a:cI)(c:Nat): ∀x∈pg v a c,x<c:=fun x h=>List.mem_range.1 (List.mem_filter.1 h).1
def oT(v:List NQ)(a:cI):List Nat:=pg v (cK a) a.length
theorem Bt{m0:Nat}{v:List NQ}(V:iJ m0 v){a:cI}(G:Cy v a){n:Nat}(hn:n≤a.length):(aF v (cK a) n).cols.length=(aF v (a.take n) (bd a)).cols.length :=
 FN V G.r G.lt (ko a) (m9 G.lt) (gN a) (fun i k _ hk=>vb a hk) hn
theorem zo{v:List NQ}(V:pj v){a:cI}(G:Cy v a):(ju v a).cols.length≤a.length∧(ju v a).cols.length≤bd a :=
 ⟨(kt V G.r G.lt (bd a)).cm,(kt V G.r G.lt (bd a)).cl⟩
theorem FL{m0:Nat}{v:List NQ}(V:iJ m0 v){a:cI}(G:Cy v a):(ju v (cK a)).cols.length=(ju v a).cols.length∧(aF v (cK a) a.length).cols.length=(ju v a).cols.length:=by
 have h:=Bt V G (ai a.length);rw[List.take_length] at h;refine⟨?_,h⟩;by_cases h0:0<bd a
 · unfold ju at *;rw[CP h0];exact h
 · have e:cK a=[]:=List.length_eq_zero_iff.1 (by rw[gN];omega);have:=(zo V.a G).2;unfold ju at *;rw[e,qv];show 0=_;omega
theorem Bo{m0:Nat}{v:List NQ}(V:iJ m0 v){a:cI}(G:Cy v a):(oT v a).length=a.length-(ju v a).cols.length:=by
 have h1:=yL v (cK a) a.length;have h2:=(FL V G).2;have h3:=(zo V.a G).1;unfold oT;omega
end Lift
namespace Lift
open Go Go.Proofs
theorem pT: ∀{r:List RD},(∀x∈r,a8 x.n∧a8 x.d)→ ∃D:QR.T,D≠0∧b6.Z (jV r+1) D∧CZ (jV r+1) D (au r)
 | [],_=>⟨1,oP,Je,CZ.nil _ _⟩
 | x::r,h=>by
   obtain ⟨D,d0,dz,hD⟩:=pT (r:=r) (fun y hy=>h y (List.mem_cons_of_mem _ hy));obtain ⟨wn,wd⟩:=h x (List.mem_cons_self ..);have ew:jV (x::r)=x.n.length+x.d.length+jV r:=rfl
   have tail: ∀{t:QR.T},b6.Z x.d.length t→ ∀i,b6.Z (jV (x::r)+1) (cq (cf (au r) i)*(D*t)):=fun {t} ht i=>by
    rw[← Rg.mul_assoc];exact cu (bB (hD i) ht) (by omega)
   by_cases hv:x.val=0
   · refine⟨D,d0,cu dz (by omega),fun i=>?_⟩;cases i with
     | zero =>
       show b6.Z _ (cq x.val*D);rw[hv];show b6.Z _ ((0:QR.T)*D);rw[Rg.zero_mul];exact AM _
     | succ i=>exact cu (hD i) (by omega)
   · have hok:x.okB=true:=by
      cases hb:x.okB with
      | true=>rfl
      | false=>exact absurd (RD.uw hb) hv
     have hn:x.n≠[]:=fun e=>hv (RD.oe e);obtain ⟨p1,p2,_⟩:=RD.parts (k:=x.n.length+x.d.length) ⟨wn,wd,by omega,by omega⟩ hok hn
     have zt:b6.Z x.d.length (cq (((x.val.den:Int):Rat))):=⟨(x.val.den:Int),rfl,by
      rw[Int.natAbs_natCast,p2];exact dm wd⟩
     have zx:b6.Z x.n.length (cq x.val*cq (((x.val.den:Int):Rat))):=⟨x.val.num,EH x.val,by
      rw[p1,ou];exact dm wn⟩
     have t0:cq (((x.val.den:Int):Rat))≠0:=uN x.val;refine⟨D*cq (((x.val.den:Int):Rat)),cW d0 t0,cu (bB dz zt) (by omega),fun i=>?_⟩;cases i with
     | zero =>
       show b6.Z _ (cq x.val*(D*cq (((x.val.den:Int):Rat))));rw[show cq x.val*(D*cq (((x.val.den:Int):Rat)))=cq x.val*cq (((x.val.den:Int):Rat))*D from Rg.bJ [cq x.val,D,cq (((x.val.den:Int):Rat))] (X0*(X1*X2)) (X0*X2*X1) rfl];exact cu (bB zx dz) (by omega)
     | succ i=>exact tail zt i
structure Gg (l:Lkg) (a:Asm):Prop where
 r2:a.rt.length≤2
 nb6:l.bodies.length≤6∨8<l.bodies.length
 n:Ja l a+4*a.rt.length≤16
theorem Fk.s{l:Lkg}{a:Asm}(S:Fk l a):Gg l a:=⟨S.r2,S.nb6,S.n⟩
theorem Gg.pt{l:Lkg}{a:Asm}(S:Gg l a){i k:Nat}(hi:i<l.bodies.length)(hk:k<(l.bodies.getD i default).pts.length):Ab ((l.bodies.getD i default).pts.getD k default)+4*a.rt.length≤16:=by
 have h1:=IN l.bodies hi hk;have h2:=z8 (fun i=>ed (a.rt.getD i [])) (rL l.bodies l.bodies.length) a.rt.length;have h3:=qY a.bodies (sv (fun i=>ed (a.rt.getD i [])) (rL l.bodies l.bodies.length) a.rt.length) a.bodies.length;have h4:=S.n;unfold Ja at h4;omega
theorem Gg.root{l:Lkg}{a:Asm}(S:Gg l a){i:Nat}(hi:i<a.rt.length):jV (a.rt.getD i [])+4*a.rt.length≤16:=by
 have h2:=z6 (fun i=>ed (a.rt.getD i [])) (rL l.bodies l.bodies.length) hi;have h3:=qY a.bodies (sv (fun i=>ed (a.rt.getD i [])) (rL l.bodies l.bodies.length) a.rt.length) a.bodies.length;have h4:=S.n;unfold Ja at h4;have h5:ed (a.rt.getD i [])+4*a.rt.length≤16:=by omega
 rw[gh (by omega)] at h5;exact h5
theorem Gg.pl{l:Lkg}{a:Asm}(S:Gg l a){i:Nat}(hi:i<a.bodies.length):jV (a.bodies.getD i default).c+4*a.rt.length≤16∧jV (a.bodies.getD i default).s+4*a.rt.length≤16∧jV (a.bodies.getD i default).x+4*a.rt.length≤16∧jV (a.bodies.getD i default).y+4*a.rt.length≤16:=by
 obtain ⟨h1,h2,h3,h4⟩:=zJ a.bodies (sv (fun i=>ed (a.rt.getD i [])) (rL l.bodies l.bodies.length) a.rt.length) hi;have h5:=S.n;unfold Ja at h5;rw[← gh (r:=(a.bodies.getD i default).c) (by omega),← gh (r:=(a.bodies.getD i default).s) (by omega),← gh (r:=(a.bodies.getD i default).x) (by omega),← gh (r:=(a.bodies.getD i default).y) (by omega)];omega
def Mj(r:List NQ):Prop:= ∃D:QR.T,D≠0∧b6.Z 200 D∧ ∀q∈r,CZ 200 D q
theorem HC{r:List RD}(h:ur r): ∀x∈r,a8 x.n∧a8 x.d:=fun x hx=>by
 obtain ⟨i,hi,rfl⟩:=List.getElem_of_mem hx;have:=h.2 i;rw[aK,bP hi] at this;exact⟨this.1,this.2.1⟩
section
variable {l:Lkg} {a:Asm} (S:Gg l a) (O:Gm l a) (hl:l.ok 16) (ha:AsB a)
include S O hl ha
omit O hl in
theorem MF:Oq (17-4*a.rt.length) (a.rt.map au):=fun j hj=>by
 rw[af] at hj;have h1:=S.root hj
 have hg:(a.rt.map au).getD j []=au (a.rt.getD j []):=by
  rw[aK,List.getElem?_map,aK,bP hj];rfl
 obtain ⟨D,d0,dz,hD⟩:=pT (HC (ha.r j));rw[hg];exact⟨D,d0,cu dz (by omega),hD.mono (by omega)⟩
theorem Ff(b:Int)(b0:0≤b)(b1:b<l.bodies.length): ∃DB:QR.T,DB≠0∧b6.Z (4*(17-4*a.rt.length)) DB∧ ∀p:Int,0≤p→p<(l.bodies.getD b.toNat default).pts.length→ ∃t:QR.T,t≠0∧b6.Z (17-4*a.rt.length) t ∧
  CZ (5*(17-4*a.rt.length)+2) (DB*t) (uE (a.rt.map au) l a b p)∧CZ (5*(17-4*a.rt.length)+2) (DB*t) (uD (a.rt.map au) l a b p):=by
 have hb:b.toNat<a.bodies.length:=by have:=O.G.ln;omega
 obtain ⟨w1,w2,w3,w4⟩:=S.pl hb;have P:=(O.P b b0 b1).2;obtain ⟨Dc,c0,cz,hc⟩:=pT (HC (ha.c b.toNat));obtain ⟨Ds,s0,sz,hs⟩:=pT (HC (ha.s b.toNat));obtain ⟨Dx,x0,xz,hx⟩:=pT (HC (ha.x b.toNat));obtain ⟨Dy,y0,yz,hy⟩:=pT (HC (ha.y b.toNat));obtain ⟨u,hu⟩: ∃u,u=17-4*a.rt.length:=⟨_,rfl⟩;rw[← hu];have cz:b6.Z u Dc:=cu cz (by omega);have sz:b6.Z u Ds:=cu sz (by omega);have xz:b6.Z u Dx:=cu xz (by omega);have yz:b6.Z u Dy:=cu yz (by omega);have hc:CZ u Dc (xH (a.bodies.getD b.toNat default)).c:=gY.mono hc (by omega);have hs:CZ u Ds (xH (a.bodies.getD b.toNat default)).s:=gY.mono hs (by omega);have hx:CZ u Dx (xH (a.bodies.getD b.toNat default)).x:=gY.mono hx (by omega);have hy:CZ u Dy (xH (a.bodies.getD b.toNat default)).y:=gY.mono hy (by omega);refine⟨Dc*Ds*(Dx*Dy),cW (cW c0 s0) (cW x0 y0),cu (bB (bB cz sz) (bB xz yz)) (by omega),fun p p0 p1=>?_⟩;have hbl:b.toNat<l.bodies.length:=by omega
 have hm:=(hl.b b.toNat).2.2 p.toNat;have hw:=S.pt hbl (show p.toNat<_ by omega);generalize hmk:(l.bodies.getD b.toNat default).pts.getD p.toNat default=mk at hm hw
 obtain ⟨t,t0,tz,ht⟩:=pT (r:=[mk.x,mk.y]) (fun y hy=>by
  simp only[List.mem_cons,List.not_mem_nil,or_false] at hy;rcases hy with rfl | rfl
  · exact⟨hm.2.1.1,hm.2.1.2.1⟩
  · exact⟨hm.2.2.1,hm.2.2.2.1⟩)
 have ew:jV [mk.x,mk.y]=Ab mk:=by
  show mk.x.n.length+mk.x.d.length+(mk.y.n.length+mk.y.d.length+0)=mk.x.n.length+mk.x.d.length+mk.y.n.length+mk.y.d.length;omega
 rw[ew] at tz ht;have tz:b6.Z u t:=cu tz (by omega);have tx:b6.Z u (cq mk.x.val*t):=cu (ht 0) (by omega);have ty:b6.Z u (cq mk.y.val*t):=cu (ht 1) (by omega);refine⟨t,t0,tz,?_⟩;have V:=O.V
 have eX:uE (a.rt.map au) l a b p=Mv (a.rt.map au) (xH (a.bodies.getD b.toNat default)) (sj mk.x.val) (sj mk.y.val):=by
  unfold uE;rw[hmk]
 have eY:uD (a.rt.map au) l a b p=Mu (a.rt.map au) (xH (a.bodies.getD b.toNat default)) (sj mk.x.val) (sj mk.y.val):=by
  unfold uD;rw[hmk]
 rw[eX,eY];have lx:=(lg (a.rt.map au).length (q:=mk.x.val) (ai _)).1;have ly:=(lg (a.rt.map au).length (q:=mk.y.val) (ai _)).1;generalize xH (a.bodies.getD b.toNat default)=pl at *;have pc:=P.c.1;have ps:=P.s.1;have px:=P.x.1;have py:=P.y.1
 have e1: ∀{x:NQ},CZ (u+u) (Dc*t) x→CZ (5*u) (Dc*Ds*(Dx*Dy)*t) x:=fun {x} h=>by
  have:=gY.scale h (bB sz (bB xz yz));rw[show Dc*t*(Ds*(Dx*Dy))=Dc*Ds*(Dx*Dy)*t from Rg.bJ [Dc,t,Ds,Dx,Dy] (X0*X1*(X2*(X3*X4))) (X0*X2*(X3*X4)*X1) rfl] at this;exact gY.mono this (by omega)
 have e2: ∀{x:NQ},CZ (u+u) (Ds*t) x→CZ (5*u) (Dc*Ds*(Dx*Dy)*t) x:=fun {x} h=>by
  have:=gY.scale h (bB cz (bB xz yz));rw[show Ds*t*(Dc*(Dx*Dy))=Dc*Ds*(Dx*Dy)*t from Rg.bJ [Dc,t,Ds,Dx,Dy] (X2*X1*(X0*(X3*X4))) (X0*X2*(X3*X4)*X1) rfl] at this;exact gY.mono this (by omega)
 have e3:CZ (5*u) (Dc*Ds*(Dx*Dy)*t) pl.x:=by
  have:=gY.scale hx (bB (bB cz sz) (bB yz tz));rw[show Dx*(Dc*Ds*(Dy*t))=Dc*Ds*(Dx*Dy)*t from Rg.bJ [Dc,t,Ds,Dx,Dy] (X3*(X0*X2*(X4*X1))) (X0*X2*(X3*X4)*X1) rfl] at this;exact gY.mono this (by omega)
 have e4:CZ (5*u) (Dc*Ds*(Dx*Dy)*t) pl.y:=by
  have:=gY.scale hy (bB (bB cz sz) (bB xz tz));rw[show Dy*(Dc*Ds*(Dx*t))=Dc*Ds*(Dx*Dy)*t from Rg.bJ [Dc,t,Ds,Dx,Dy] (X4*(X0*X2*(X3*X1))) (X0*X2*(X3*X4)*X1) rfl] at this;exact gY.mono this (by omega)
 have m1:=e1 (CZ.JU V pc tx hc);have m2:=e2 (CZ.JU V ps ty hs);have m3:=e2 (CZ.JU V ps tx hs);have m4:=e1 (CZ.JU V pc ty hc);have n1:=iy V.a pc lx;have n2:=iy V.a ps ly;have n3:=iy V.a ps lx;have n4:=iy V.a pc ly;have addL: ∀{x y:NQ},aA (a.rt.map au).length x→aA (a.rt.map au).length y→aA (a.rt.map au).length (w7 x y):=fun hx hy=>bX (hx.plus hy);exact⟨CZ.add (qp n1 n2) px (CZ.sub n1 n2 m1 m2) (gY.mono e3 (by omega)),CZ.add (addL n3 n4) py (CZ.add n3 n4 m3 m4) (gY.mono e4 (by omega))⟩
theorem HR{j:a9}(J:Ot l.bodies j): ∀r∈rp (a.rt.map au) l a j,Mj r:=by
 have hr2:=S.r2;have V:=O.V;obtain ⟨ρ,ρ0,ρz,hmul⟩:=CZ.mul V (MF S ha);obtain ⟨DA,A0,Az,hA⟩:=Ff S O hl ha j.a J.a.1 J.a.2;obtain ⟨DB,B0,Bz,hB⟩:=Ff S O hl ha j.b J.b.1 J.b.2;obtain ⟨tp,p0,pz,px,py⟩:=hA j.pt J.pt.1 J.pt.2;obtain ⟨tq,q0,qz,qx,qy⟩:=hB j.on J.on.1 J.on.2;obtain ⟨x1,x2⟩:=O.X j.a j.pt J.a.1 J.a.2 J.pt.1 J.pt.2;obtain ⟨y1,y2⟩:=O.X j.b j.on J.b.1 J.b.2 J.on.1 J.on.2;have hvl:(a.rt.map au).length=a.rt.length:=af ..;obtain ⟨R,hR⟩: ∃R,R=Rl (17-4*a.rt.length) (a.rt.map au).length:=⟨_,rfl⟩
 have hb:11*(17-4*a.rt.length)+6+R≤200:=by
  rw[hR,hvl];generalize a.rt.length=k at hr2
  match k,hr2 with
  | 0,_=>decide
  | 1,_=>decide
  | 2,_=>decide
 rw[← hR] at ρz hmul;clear hR;generalize 17-4*a.rt.length=u at *;have z1: ∀{D:QR.T} {X:Nat},CZ X D []:=fun {D X}=>CZ.nil X D;unfold rp;intro r hr;split at hr
 · rename_i hk;obtain ⟨tr,r0,rz,rx,ry⟩:=hB j.to (J.to (by omega)).1 (J.to (by omega)).2;obtain ⟨w1,w2⟩:=O.X j.b j.to J.b.1 J.b.2 (J.to (by omega)).1 (J.to (by omega)).2;rw[List.mem_singleton] at hr;subst hr;generalize uE (a.rt.map au) l a j.a j.pt=PX at *;generalize uD (a.rt.map au) l a j.a j.pt=PY at *;generalize uE (a.rt.map au) l a j.b j.on=QX at *;generalize uD (a.rt.map au) l a j.b j.on=QY at *;generalize uE (a.rt.map au) l a j.b j.to=RX at *;generalize uD (a.rt.map au) l a j.b j.to=RY at *;have up: ∀{x:NQ},CZ (5*u+2) (DB*tq) x→CZ (6*u+2) (DB*tq*tr) x:=fun h=>gY.mono (gY.scale h rz) (by omega)
   have up': ∀{x:NQ},CZ (5*u+2) (DB*tr) x→CZ (6*u+2) (DB*tq*tr) x:=fun {x} h=>by
    have:=gY.scale h qz;rw[show DB*tr*tq=DB*tq*tr from Rg.bJ [DB,tr,tq] (X0*X1*X2) (X0*X2*X1) rfl] at this;exact gY.mono this (by omega)
   have ny:=CZ.sub y2.1 w2.1 (up qy) (up' ry);have nx:=CZ.sub w1.1 y1.1 (up' rx) (up qx);have ly:=qp (l:=(a.rt.map au).length) y2.1 w2.1;have lx:=qp (l:=(a.rt.map au).length) w1.1 y1.1;have m1:=hmul _ _ _ _ _ _ lx x1.1 nx px;have m2:=hmul _ _ _ _ _ _ ly x2.1 ny py;have lm1:=iy V.a lx x1.1;have lm2:=iy V.a ly x2.1;have w:=CZ.sub lm1 lm2 m1 m2
   have sc: ∀{x:NQ},CZ (6*u+2+1) (DB*tq*tr) x→CZ 200 (DB*tq*tr*(DA*tp)*ρ) x:=fun {x} h=>by
    have:=gY.scale h (bB (bB Az pz) ρz);rw[show DB*tq*tr*(DA*tp*ρ)=DB*tq*tr*(DA*tp)*ρ from (Rg.mul_assoc _ _ _).symm] at this;exact gY.mono this (by omega)
   have c1:=sc ny;have c2:=sc nx;have c3:CZ 200 (DB*tq*tr*(DA*tp)*ρ) _:=gY.mono w (by omega);refine⟨DB*tq*tr*(DA*tp)*ρ,cW (cW (cW (cW B0 q0) r0) (cW A0 p0)) ρ0,cu (bB (bB (bB (bB Bz qz) rz) (bB Az pz)) ρz) (by omega),?_⟩;refine mq (mq (fun q hq=>?_) c1 c2 c3) (CZ.neg ly c1) (CZ.neg lx c2) (CZ.neg (qp lm1 lm2) c3);rw[(List.mem_replicate.1 hq).2];exact z1
 · generalize uE (a.rt.map au) l a j.a j.pt=PX at *;generalize uD (a.rt.map au) l a j.a j.pt=PY at *;generalize uE (a.rt.map au) l a j.b j.on=QX at *;generalize uD (a.rt.map au) l a j.b j.on=QY at *;have zD:b6.Z (5*u+5*u) (DA*tp*(DB*tq)):=cu (bB (bB Az pz) (bB Bz qz)) (by omega);have zA:b6.Z (5*u) (DA*tp):=cu (bB Az pz) (by omega);have zB:b6.Z (5*u) (DB*tq):=cu (bB Bz qz) (by omega);have hD0:DA*tp*(DB*tq)≠0:=cW (cW A0 p0) (cW B0 q0);have sp: ∀{x:NQ},CZ (5*u+2) (DA*tp) x→CZ 200 (DA*tp*(DB*tq)) x:=fun h=>gY.mono (gY.scale h zB) (by omega);have sq: ∀{x:NQ},CZ (5*u+2) (DB*tq) x→CZ 200 (DA*tp*(DB*tq)) x:=fun h=>gY.mono (gY.Lp h zA) (by omega);have o1:CZ 200 (DA*tp*(DB*tq)) [1]:=CZ.one (cu zD (by omega))
   have zr: ∀q∈r6 l.bodies.length,CZ 200 (DA*tp*(DB*tq)) q:=fun q hq=>by
    rw[(List.mem_replicate.1 hq).2];exact z1
   have lone:=fb (a.rt.map au).length 1;simp only[List.mem_cons,List.not_mem_nil,or_false] at hr;rcases hr with rfl | rfl
   · exact⟨_,hD0,cu zD (by omega),mq (mq zr o1 z1 (CZ.neg x2.1 (sp py))) (CZ.neg lone o1) z1 (sq qy)⟩
   · exact⟨_,hD0,cu zD (by omega),mq (mq zr z1 o1 (sp px)) z1 (CZ.neg lone o1) (CZ.neg y1.1 (sq qx))⟩
theorem Er: ∀i,i≤l.joints.length→ ∀r∈im (a.rt.map au) l a i,Mj r
 | 0,_,r,hr=>by cases hr
 | i+1,hi,r,hr=>by
   rcases List.mem_append.1 hr with h | h
   · exact Er i (by omega) r h
   · exact HR S O hl ha (O.G.lk.j i (by omega)) r h
theorem BQ{i:Nat}(hi:i<(fS l a).length): ∃D:QR.T,D≠0∧b6.Z 200 D∧ ∀j,CZ 200 D (bm (fS l a) i j):=by
 have h:Mj ((fS l a).getD i []):=by
  rw[aK,bP hi];exact Er S O hl ha _ (ai _) _ (List.getElem_mem hi)
 obtain ⟨D,d0,dz,hD⟩:=h;exact⟨D,d0,dz,fun j=>Fi hD (CZ.nil _ _) j⟩
theorem JT(N:Nat):xR 200 200 N (fun _=>1) (fS l a):=by
 refine⟨fun i hi=>?_,fun j _=>⟨cu Je (by decide),oP⟩⟩;obtain ⟨D,d0,dz,hD⟩:=BQ S O hl ha hi;exact⟨D,d0,dz,fun j _ k=>by rw[Rg.mul_one];exact hD j k⟩
theorem Fu: ∃e,xR 200 200 (fS l a).length e (cK (fS l a)):=by
 refine⟨fun i=>if h:i<(fS l a).length then (BQ S O hl ha h).choose else 1,fun k hk=>?_,fun i hi=>?_⟩
 · rw[gN] at hk;refine⟨1,oP,cu Je (by decide),fun i hi c=>?_⟩;rw[vb _ hk,Rg.one_mul,dif_pos hi];exact(BQ S O hl ha hi).choose_spec.2.2 k c
 · rw[dif_pos hi];exact⟨(BQ S O hl ha hi).choose_spec.2.1,(BQ S O hl ha hi).choose_spec.1⟩
end
end Lift
namespace Lift
open Go Go.Proofs
end Lift
namespace Lift
open Go Go.Proofs
end Lift
namespace Lift
open Go Go.Proofs
theorem Io{v:List NQ}(hrt:cP v)(hp:po v){l j:Nat}{s:NQ}(hj:j≤l)(hl:l<v.length)(hsl:s.length=2^(j+1))(h:aY v (l+1) (cf s)≠0)(hN:aY v j (bp v j (cf s))=0):aY v l (cf (aX (s.take (s.length / 2)) (s.take (s.length / 2))))≠0:=by
 obtain ⟨e1,e2,e3⟩:=bF hsl;have ex:jU j (cf (s.take (s.length / 2))) (cf s):=e8 _ e3;have ls:bO (j+1) (cf s):=aU (by omega);have lx:bO j (cf (s.take (s.length / 2))):=aU (by omega);obtain ⟨Tj⟩:=Lb hp j (by omega);have hdj:=hp j (by omega)
 let T:=tS Tj hdj
 rw[bL v ls (by omega)] at h
 have hT:Tj.R.sgn (OR.nr (Tj.of (cf (v.getD j []))) (T.of (cf s)))=aY v j (bp v j (cf s)):=by
  rw[← Tj.sgn]
  congr 1
  show Tj.of (cf s)*Tj.of (cf s) -Tj.of (bE j (cf s))*Tj.of (bE j (cf s))*Tj.of (cf (v.getD j []))=Tj.of (bp v j (cf s));rw[← Tj.mul,← Tj.mul,← Tj.mul,← Tj.sub];rfl
 have cxx:cf (aX (s.take (s.length / 2)) (s.take (s.length / 2)))=fun i=>cf (s.take (s.length / 2)) i+cf (s.take (s.length / 2)) i:=funext fun i=>dY _ _ i
 have lxx:bO j (cf (aX (s.take (s.length / 2)) (s.take (s.length / 2)))):=by
  rw[cxx];exact fun i hi=>by
   show _+_=(0:Rat);rw[lx i hi];exact Rat.add_zero 0
 have hes:T.R.sgn (T.of (cf s))≠0:=by rw[T.sgn];exact h
 have F:=OR.E0 (R:=Tj.R) (d:=Tj.of (cf (v.getD j []))) (by rw[Tj.sgn];exact hdj) hes (by
  have h5:=hT;rw[hN] at h5;exact h5)
 rw[bL v lxx hj,← Tj.sgn,cxx,Tj.add,Tj.cong _ _ ex];exact F.2
theorem yj{v:List NQ}{l:Nat}{a:NQ}(ha:aA l a)(h:aY v l (cf a)≠0):(aD a).length≠0:=fun e=>by
 have:=bf ha;rw[List.length_eq_zero_iff.1 e] at this;rw[← this] at h;exact h (dK v l)
end Lift
namespace Lift
end Lift
namespace Lift
theorem zQ{l k m r:Nat}{R:NQ→NQ→NQ}{O:NQ→NQ→Prop}{rt:List NQ}{a b:NQ}(ha:aA l a)(hb:aA l b)(hab:b.length≤a.length)(hrt:cP rt)(hl:l≤rt.length)(sa:aE k a)(sb:aE m b)(sr:dt r rt)(hk:tT r l (k+m)≤17300000000000)
  (hR: ∀l',l=l'+1→ ∀a' b' k' m',aA l' a'→aA l' b'→aE k' a'→aE m' b'→tT r l' (k'+m')≤17300000000000→O a' b'∧aA l' (R a' b')∧aE (tT r l' (k'+m')) (R a' b')):MM R O rt a b:=by
 have h2:=qn r l (k+m);refine⟨sa.mono (by omega),sb.mono (by omega),fun h1 hza hzb=>?_⟩;have hb0:0<b.length:=List.length_pos_iff.2 (kc hzb);have ha0:0<a.length:=List.length_pos_iff.2 (kc hza)
 obtain ⟨i,hi,hla⟩: ∃i,i≤l∧a.length=2^i:=by
  rcases ha with e | e
  · omega
  · exact e
 have wm:i≠0:=fun e=>h1 (by rw[hla,e]);obtain ⟨j,rfl⟩: ∃j,i=j+1:=⟨i-1,by omega⟩;obtain ⟨l',rfl⟩: ∃l',l=l'+1:=⟨l-1,by omega⟩;have hj:j≤l':=by omega
 have hR:=fun a' b' k' m' h1 h2 h3 h4 h5=>hR l' rfl a' b' k' m' h1 h2 h3 h4 h5;obtain ⟨e1,e2,e3⟩:=bF hla;have hx:aA l' (a.take (a.length / 2)):= .inr ⟨j,hj,e1⟩;have hy:aA l' (a.drop (a.length / 2)):= .inr ⟨j,hj,e2⟩;have hk:tT r l' (k+m)+tT r l' (tT r l' (k+m)+r)+1≤17300000000000:=hk;refine⟨fun h3=>?_,fun h3=>?_⟩
 · have hb':aA l' b:=by
    rcases hb with e | ⟨i',_,e⟩
    · exact .inl e
    · refine .inr ⟨i',?_,e⟩;rw[e3,e] at h3;have:=iq h3;omega
   exact⟨(hR _ _ k m hx hb' (sa.take _) sb (by omega)).1,(hR _ _ k m hy hb' (sa.drop _) sb (by omega)).1⟩
 have hlb:b.length=2^(j+1):=by
  rcases hb with e | ⟨i',_,e⟩
  · omega
  · rw[e] at h3 hab ⊢;rw[hla] at hab;rw[e3] at h3;have h4:=iq hab;have h5: ¬i'≤j:=fun h=>h3 (Nat.pow_le_pow_right (by decide) h);rw[show i'=j+1 by omega]
 obtain ⟨f1,f2,f3⟩:=bF hlb;rw[show b.length / 2=a.length / 2 by rw[f3,e3]] at f1 f2;have hu:aA l' (b.take (a.length / 2)):= .inr ⟨j,hj,f1⟩;have hv:aA l' (b.drop (a.length / 2)):= .inr ⟨j,hj,f2⟩;have r1:=hR _ _ k m hx hu (sa.take _) (sb.take _) (by omega);have r2:=hR _ _ k m hy hv (sa.drop _) (sb.drop _) (by omega);have r3:=hR _ _ k m hx hv (sa.take _) (sb.drop _) (by omega);have r4:=hR _ _ k m hy hu (sa.drop _) (sb.take _) (by omega);have hlog:a.length.log2-1=j:=by rw[hla,Nat.log2_two_pow];omega
 rw[hlog];have hd:aA l' (rt.getD j []):= .inr ⟨j,hj,hrt j (by omega)⟩;have r5:=hR _ _ (tT r l' (k+m)) r r2.2.1 hd r2.2.2 (sr j) (by omega);exact⟨⟨r1.1,r2.1,r5.1,r3.1,r4.1⟩,r1.2.2.mono (by omega),r5.2.2.mono (by omega),r3.2.2.mono (by omega),r4.2.2.mono (by omega)⟩
theorem Hv: ∀(l:Nat) {k m r:Nat} {rt:List NQ} {a b:NQ},aA l a→aA l b→cP rt→l≤rt.length→aE k a→aE m b→dt r rt→tT r l (k+m)≤17300000000000→BG l rt a b
 | 0,k,m,r,rt,a,b,ha,hb,hrt,hl,sa,sb,sr,hk=>by
   show tW _ _ rt a b;unfold tW;split
   · exact zQ hb ha (by omega) hrt hl sb sa sr (by rw[Nat.add_comm m k];exact hk) (fun l' h=>by omega)
   · exact zQ ha hb (by omega) hrt hl sa sb sr hk (fun l' h=>by omega)
 | l+1,k,m,r,rt,a,b,ha,hb,hrt,hl,sa,sb,sr,hk=>by
   show tW (aV l rt) (BG l rt) rt a b;unfold tW
   have ih: ∀l',l+1=l'+1→ ∀a' b' k' m',aA l' a'→aA l' b'→aE k' a'→aE m' b'→tT r l' (k'+m')≤17300000000000→BG l rt a' b'∧aA l' (aV l rt a' b')∧aE (tT r l' (k'+m')) (aV l rt a' b'):=fun l' e a' b' k' m' h1 h2 h3 h4 h5=>by
    obtain rfl:l=l':=by omega
    exact⟨Hv l h1 h2 hrt (by omega) h3 h4 sr h5,fe l h1 h2 hrt (by omega),A2 hrt sr (by omega) h1 h3 h2 h4⟩
   split
   · exact zQ hb ha (by omega) hrt hl sb sa sr (by rw[Nat.add_comm m k];exact hk) ih
   · exact zQ ha hb (by omega) hrt hl sa sb sr hk ih
def FR(r:Nat):Nat→Nat→Prop
 | 0,k=>k≤17300000000000
 | l+1,k=>sT (l+1) k≤17300000000000∧pP l (tT r (l+1) (k+k))∧FR r l (tT r (l+1) (k+k))∧iQ r (l+1) k≤17300000000000
theorem FR.le{r:Nat}: ∀{l k:Nat},FR r l k→k≤17300000000000
 | 0,k,h=>h
 | l+1,k,h=>by have:=cD (l+1) k;have:=h.1;omega
theorem Lz{v:List NQ}{r:Nat}(hrt:cP v)(hp:po v)(sr:dt r v): ∀(l:Nat) {k:Nat} {a:NQ},aA l a→l≤v.length→aE k a→r≤k→aY v l (cf a)≠0→FR r l k→Ms l v a:=by
 intro l
 induction l with
 | zero =>
   intro k a ha hl sa hrk h hk;exact⟨sa.mono hk.le,yj ha h⟩
 | succ l ih =>
   intro k a ha hl sa hrk h hk;obtain ⟨k1,k2,k3,k4⟩:=hk;have h2:=cD (l+1) k;have h5:=GJ r l (k+k);have h0:=yj ha h;have hc:=bf ha;refine⟨sa.mono (by omega),h0,fun hne=>?_⟩;rw[← hc] at h;obtain ⟨hs,ss⟩:=bh ha sa;generalize aD a=s at *
   obtain ⟨j,hj,hsl⟩: ∃j,j≤l∧s.length=2^(j+1):=by
    rcases hs with e | ⟨i,hi,e⟩
    · exact absurd e h0
    · rcases i with _ | j
      · exact absurd e hne
      · exact⟨j,by omega,e⟩
   obtain ⟨e1,e2,e3⟩:=bF hsl;have hx:aA l (s.take (s.length / 2)):= .inr ⟨j,hj,e1⟩;have hn:=rb hj hsl hrt (show l<v.length by omega);have sn:=EC hrt sr hj (show l<v.length by omega) hsl ss;have s1:=dP l hn.1 hrt (by omega)
   have lowN:bO j (bp v j (cf s)):=fun i hi=>by
    unfold bp;rw[bj v j _ _ i hi,bj v j _ _ i hi];exact Rat.sub_self
   refine⟨Hw hj hsl hrt (by omega) ss (sr.mono hrk) k1,pQ l hn.1 hrt (by omega) sn (sr.mono (by omega)) k2,fun hz=>?_,fun hz=>⟨?_,?_⟩⟩
   · rw[s1,hn.2,bL v lowN hj] at hz;have hd:=Io hrt hp hj (by omega) hsl h hz;exact ih (hx.plus hx) (by omega) (((ss.take _).plus (ss.take _)).mono (by omega)) (by omega) hd k3
   · rw[s1] at hz;exact ih hn.1 (by omega) sn (by omega) hz k3
   · have hjl:aA (l+1) (dR (s.take (s.length / 2)) (aZ (s.drop (s.length / 2))) (s.length / 2)):= .inr ⟨j+1,by omega,by
      rw[dL]
      omega⟩
     exact Hv (l+1) hjl ((gC l hn.1 hrt (by omega)).mono (Nat.le_succ l)) hrt hl ((ss.take _).join (ss.drop _).minus _) (LI hrt sr l hn.1 (by omega) sn) sr k4
end Lift
namespace Lift
theorem FQ{m m' N c k k' r:Nat}{v:List NQ}{s:jT}(V:iJ m v)(R:pk v m' N c s)(hs:Kr k s.rows)(hd:aE k s.ia)(he:atR v s c<s.rows.length→Kr k' (eR v s c)∧aE k' (bZ v.length v (pR v s c)))(hk:k≤k')(hr:dt r v)(hrk:r≤k)(h1:pP v.length k)(h2:FR r v.length k)(h3:sT v.length k'+k'+1≤17300000000000):kE v s c:=by
 have hl:=R.len;have hm:=R.cm;have hsT:=cD v.length k';have ro:=V.ro;have hrv:dt k' v:=hr.mono (by omega);have rv:dt k v:=hr.mono hrk;have sg: ∀{x:NQ},aA v.length x→aE k x→Df v x:=fun hx sx=>pQ v.length hx ro (ai _) sx rv h1
 have mul: ∀{x y:NQ},aA v.length x→aE k' x→aA v.length y→aE k' y→BI v x y∧aE (sT v.length k') (aV v.length v x y):=fun hx sx hy sy =>
  have t:=dw v.length hx hy ro (ai _) sx sy hrv
  ⟨⟨sx.mono (by omega),sy.mono (by omega),pO v.length hx hy ro (ai _) sx sy hrv (by omega),t.2.mono (by omega)⟩,t.2⟩
 by_cases h:atR v s c<s.rows.length
 · obtain ⟨b1,b2,b3⟩:=rM R h;obtain ⟨e1,e2,e3⟩:=yR V.a R h;obtain ⟨se,si⟩:=he h
   have sb:Kr k (bR v s c):=fun i j=>by
    unfold bR;split
    · exact hs i j
    · unfold GN bm;rw[eJ];split
      · exact hs _ j
      · rw[eJ];split
        · exact hs _ j
        · exact hs i j
   have hp:=Hr R h
   have hps:aY v v.length (cf (pR v s c))≠0:=by
    have:=dP v.length (b3 s.cols.length c) ro (ai _);show aY v v.length (cf (bm (bR v s c) s.cols.length c))≠0;rw[← this];exact hp
   have hpi:Ms v.length v (pR v s c):=Lz ro V.pos hr v.length (b3 s.cols.length c) (ai _) (sb _ _) hrk hps h2;refine⟨fun j _ _=>sg (R.lt j c) (hs j c),fun _=>(mul R.ia (hd.mono hk) (b3 s.cols.length c) ((sb _ _).mono hk)).1,fun _ j _=>?_,fun _ i _ hne=>?_,fun _ i _ hne _ j _=>?_⟩
   · have t:=mul (b3 s.cols.length j) ((sb _ _).mono hk) (gC v.length (b3 s.cols.length c) ro (ai _)) si;exact⟨(sb _ _).mono (by omega),(sb _ _).mono (by omega),sg (b3 s.cols.length c) (sb _ _),hp,hpi,t.1.2.2.1,t.1.2.2.2⟩
   · have g:bm (eR v s c) i c=bm (bR v s c) i c:=by
      unfold eR bm;rw[eJ,if_neg (fun g=>hne g.1)]
     rw[g];exact sg (b3 i c) (sb i c)
   · obtain ⟨q1,q2⟩:=mul (e3 i c) (se i c) (e3 s.cols.length j) (se s.cols.length j);have q3:aE (sT v.length k') (fT v (bm (eR v s c) i c) (bm (eR v s c) s.cols.length j)):=(bh (fe v.length (e3 i c) (e3 s.cols.length j) ro (ai _)) q2).2;exact⟨q1,(se i j).mono (by omega),q3.mono (by omega),((se i j).plus q3.minus).mono (by omega)⟩
 · exact⟨fun j _ _=>sg (R.lt j c) (hs j c),fun g=>absurd g h,fun g=>absurd g h,fun g=>absurd g h,fun g=>absurd g h⟩
theorem MY:pP 2 (Fz 200 200 14):=⟨by decide,by decide,by show _≤_;decide⟩
theorem MZ: ∀l,l≤2→FR 16 l (Fz 200 200 14)
 | 0,_=>by show _≤_;decide
 | 1,_=>⟨by decide,by show _≤_;decide,by show _≤_;decide,by decide⟩
 | 2,_=>⟨by decide,⟨by decide,by show _≤_;decide⟩,⟨by decide,by show _≤_;decide,by show _≤_;decide,by decide⟩,by decide⟩
theorem MX: ∀l,l≤2→sT l (Fz 200 200 15)+Fz 200 200 15+1≤17300000000000
 | 0,_=>by decide
 | 1,_=>by decide
 | 2,_=>by decide
theorem AL{p q:Nat}(h:p≤q):Fz 200 200 p≤Fz 200 200 q:=by
 unfold Fz;have:=KP 168 (200+40) h;have:=KM 168 (200+40) h;omega
theorem vw{m:Nat}{v:List NQ}(V:iJ m v)(l2:v.length≤2)(hm:dt 16 v){a:cI}{N:Nat}(hr:dq N a)(hl:rO v.length a)(h:tN v a N (Fz 200 200))(hmin:N≤15∨a.length≤15): ∀c,c<N→kE v (aF v a c) c:=fun c hc=>by
 have R:=kt V.a hr hl c;have h1:=R.cl;have h2:=R.cm;have h3:=R.len;by_cases hp:(aF v a c).cols.length<(aF v a c).rows.length
 · obtain ⟨g1,g2,g3⟩:=h c (by omega);have f1:=AL (show (aF v a c).cols.length≤14 by omega);have f2:=AL (show (aF v a c).cols.length+1≤15 by omega);exact FQ V R (fun i j=>(g1 i j).mono f1) (g2.mono f1) (fun g=>⟨fun i j=>((g3 hc g).1 i j).mono f2,(g3 hc g).2.mono f2⟩) (AL (by decide)) hm (by decide) (vP MY l2) (MZ _ l2) (MX _ l2)
 · have ha:=(fo v (aF v a c) c (by omega)).1;exact⟨fun j _ _=>by omega,fun g=>by omega,fun g=>by omega,fun g=>by omega,fun g=>by omega⟩
end Lift
namespace Lift
open Go Go.Proofs
theorem nO(n:Int)(hn: -1000≤n∧n≤1000):Pure Tryz.prog 50 [dI n] (bw [Qr (n:Rat)]):=by
 refine qJ 6 Tryz.func50 rfl rfl rfl rfl (by kernel_rfl) (fun B F0 w0=>?_);have c1:=yv n (by omega) (by omega);refine qX 1 rfl (qK 1 rfl (qM rfl c1 (ae.mX tok rfl rfl rfl rfl rfl ?_)));exact qU 1 rfl (qN rfl)
abbrev Od:List Mark:=[⟨⟨#[79]⟩,Qr 0,Qr 0⟩,⟨⟨#[65]⟩,Qr ((1:Int):Rat),Qr 0⟩]
abbrev DI:Lkg:=⟨⟨#[109]⟩,[⟨⟨#[102,114,97,109,101]⟩,Od⟩,⟨⟨#[99,114,97,110,107]⟩,Od⟩],[⟨⟨#[106]⟩,0,1,0,0,0,0⟩],[]⟩
abbrev NK:fu:=⟨[Qr ((1:Int):Rat)],[Qr ((0:Int):Rat)],[Qr ((0:Int):Rat)],[Qr ((0:Int):Rat)]⟩
abbrev EZ:Asm:=⟨[],[NK,NK],[]⟩
theorem sI:Pure Tryz.prog 29 [] (.tu [DI.D,EZ.D]):=by
 refine qJ 27 Tryz.func29 rfl rfl rfl rfl (by kernel_rfl) (fun B F0 w0=>?_);have c1:=yv 1 (by omega) (by omega);have w1:=nO 1 (by omega);have w0':=nO 0 (by omega)
 have e1:Mark.D ⟨⟨#[79]⟩,Qr 0,Qr 0⟩= .ag [dS ⟨#[79]⟩,dB false,.sl 1 [],.sl 1 [],dB false,.sl 1 [],.sl 1 []]:=by
  show D.ag [dS ⟨#[79]⟩,dB (Qr 0).g,Wd (Qr 0).n,Wd (Qr 0).d,dB (Qr 0).g,Wd (Qr 0).n,Wd (Qr 0).d]=_;rw[jl];rfl
 have e2: ∀r:RD,Mark.D ⟨⟨#[65]⟩,r,Qr 0⟩= .ag [dS ⟨#[65]⟩,dB r.g,Wd r.n,Wd r.d,dB false,.sl 1 [],.sl 1 []]:=fun r=>by
  show D.ag [dS ⟨#[65]⟩,dB r.g,Wd r.n,Wd r.d,dB (Qr 0).g,Wd (Qr 0).n,Wd (Qr 0).d]=_;rw[jl];rfl
 have eL:DI.D= .ag [dS ⟨#[109]⟩,.sl 2 [.ag [dS ⟨#[102,114,97,109,101]⟩,.sl 7 [.ag [dS ⟨#[79]⟩,dB false,.sl 1 [],.sl 1 [],dB false,.sl 1 [],.sl 1 []],.ag [dS ⟨#[65]⟩,dB (Qr ((1:Int):Rat)).g,Wd (Qr ((1:Int):Rat)).n,Wd (Qr ((1:Int):Rat)).d,dB false,.sl 1 [],.sl 1 []]]],.ag [dS ⟨#[99,114,97,110,107]⟩,.sl 7 [.ag [dS ⟨#[79]⟩,dB false,.sl 1 [],.sl 1 [],dB false,.sl 1 [],.sl 1 []],.ag [dS ⟨#[65]⟩,dB (Qr ((1:Int):Rat)).g,Wd (Qr ((1:Int):Rat)).n,Wd (Qr ((1:Int):Rat)).d,dB false,.sl 1 [],.sl 1 []]]]],.sl 7 [.ag [dS ⟨#[106]⟩,dI 0,dI 1,dI 0,dI 0,dI 0,dI 0]],.sl 2 []]:=by
  rw[← e1,← e2];rfl
 have eA:EZ.D= .ag [.sl 1 [],.sl 4 [.ag [bw [Qr ((1:Int):Rat)],bw [Qr ((0:Int):Rat)],bw [Qr ((0:Int):Rat)],bw [Qr ((0:Int):Rat)]],.ag [bw [Qr ((1:Int):Rat)],bw [Qr ((0:Int):Rat)],bw [Qr ((0:Int):Rat)],bw [Qr ((0:Int):Rat)]]],.sl 1 []]:=rfl;rw[eL,eA];clear eL eA e1 e2;generalize Qr ((1:Int):Rat)=q at *;generalize Qr ((0:Int):Rat)=z at *;refine qX 2 rfl (qK 1 rfl (qM rfl c1 (qU 1 rfl (ae.mX tok rfl rfl rfl rfl rfl ?_))));refine qU 1 rfl (qK 4 rfl (ae.mX tok rfl rfl rfl rfl rfl ?_));refine qU 1 rfl (ae.mX tok rfl rfl rfl rfl rfl ?_);refine qU 3 rfl (qI (AW.region (qM rfl w1 (qM rfl w0' (qM rfl w0' (qM rfl w0' (qU 3 rfl (qI (AW.nW tok aS [(1,true),(4,false)] 5 [0,1] (by kernel_rfl) ⟨rfl,?_⟩)))))))));refine qP 1 rfl (ah.nil ⟨rfl,?_⟩);refine qP 2 rfl (ah.mX tok rfl rfl rfl rfl rfl rfl ?_);refine qP 1 rfl (ah.nil ⟨_,oM.cons (.bx rfl) (oM.cons (.bx rfl) (oM.nil)),?_⟩);exact qN rfl
abbrev tG:cI:=[[[1],[],[]],[[],[1],[]]]
instance:DecidableEq jT:=fun a b=>if h:a.rows=b.rows∧a.cols=b.cols∧a.sg=b.sg∧a.ia=b.ia then isTrue (by
  cases a;cases b;obtain ⟨h1,h2,h3,h4⟩:=h;simp only[] at h1 h2 h3 h4;subst h1;subst h2;subst h3;subst h4;rfl) else isFalse (fun e=>h (by subst e;exact⟨rfl,rfl,rfl,rfl⟩))
theorem DG:eU DI EZ=0:=by decide +kernel
theorem Ki:uo DI=0:=by decide +kernel
theorem KQ:fS DI EZ=tG:=by decide +kernel
theorem Nf:aF [] tG 1=⟨tG,[0],1,[1]⟩:=by decide +kernel
theorem Nd:aF [] tG 2=⟨tG,[0,1],1,[1]⟩:=by decide +kernel
theorem Nc:aF [] tG 3=⟨tG,[0,1],1,[1]⟩:=by decide +kernel
theorem DH(i k:Nat):aE 1 (bm tG i k)∧aA 0 (bm tG i k):=by
 have h:bm tG i k=[]∨bm tG i k=[1]:=by
  match i,k with
  | 0,0=>exact .inr rfl
  | 0,1=>exact .inl rfl
  | 0,2=>exact .inl rfl
  | 0,_+3=>exact .inl rfl
  | 1,0=>exact .inl rfl
  | 1,1=>exact .inr rfl
  | 1,2=>exact .inl rfl
  | 1,_+3=>exact .inl rfl
  | _+2,_=>exact .inl rfl
 rcases h with h | h
 · rw[h];exact⟨cL (by decide),cg _⟩
 · rw[h];exact⟨gg gF,fb _ _⟩
theorem A4{k:Nat}(h:1≤k):dt k []:=fun i=>by
 rw[show ([]:List NQ).getD i []=[] by simp];exact cL h
theorem Cw:cP []:=fun j hj=>absurd hj (Nat.not_lt_zero _)
theorem Hx{a b:NQ}(ha:aA 0 a)(hb:aA 0 b)(sa:aE 1 a)(sb:aE 1 b):BI [] a b :=
 ⟨sa.mono (by decide),sb.mono (by decide),pO 0 ha hb Cw (ai _) sa sb (A4 (ai _)) (by decide),(dw 0 ha hb Cw (ai _) sa sb (A4 (ai _))).2.mono (by decide)⟩
theorem Ia:bZ 0 [] [1]=[1]:=by decide +kernel
theorem LA{a:NQ}(ha:aA 0 a)(sa:aE 1 a):Hz [] a [1]:=by
 have h1:aE 1 ([1]:NQ):=gg gF;have hb:aA 0 ([1]:NQ):=fb _ _;have m:=Hx ha hb sa h1;refine⟨m.1,m.2.1,m.2.1,by decide +kernel,⟨m.2.1,by decide +kernel⟩,?_,?_⟩
 · show BG 0 [] a (bZ 0 [] [1]);rw[Ia];exact m.2.2.1
 · show pB (aV 0 [] a (bZ 0 [] [1]));rw[Ia];exact m.2.2.2
theorem Ap{cols:List Nat}{c:Nat}{p:NQ}(h1:atR [] ⟨tG,cols,1,[1]⟩ c<2→bR [] ⟨tG,cols,1,[1]⟩ c=tG∧eR [] ⟨tG,cols,1,[1]⟩ c=tG∧pR [] ⟨tG,cols,1,[1]⟩ c=[1])
  (h2:atR [] ⟨tG,cols,1,[1]⟩ c<2→ ∀i,i<2→i≠cols.length→rQ [] (bm tG i c)=0):kE [] ⟨tG,cols,1,[1]⟩ c:=by
 have k: ∀i k,pB (bm tG i k):=fun i k=>(DH i k).1.mono (by decide);refine⟨fun j _ _=>k j c,fun h=>?_,fun h j _=>?_,fun h i _ _=>?_,fun h i hi hn hs=>?_⟩
 · rw[(h1 h).2.2];exact Hx (fb _ _) (fb _ _) (gg gF) (gg gF)
 · rw[(h1 h).2.2,(h1 h).1];exact LA (DH _ _).2 (DH _ _).1
 · rw[(h1 h).2.1];exact k i c
 · rw[(h1 h).2.1] at hs;exact absurd (h2 h i hi hn) hs
theorem Ng: ∀c,c<3→kE [] (aF [] tG c) c
 | 0,_=>Ap (p:=[]) (fun _=>⟨by decide +kernel,by decide +kernel,by decide +kernel⟩) (fun _ i hi hn=>by
   have h: ∀i:Fin 2,i.val≠0→rQ [] (bm tG i.val 0)=0:=by decide +kernel
   exact h ⟨i,hi⟩ hn)
 | 1,_=>by
   rw[Nf]
   exact Ap (p:=[]) (fun _=>⟨by decide +kernel,by decide +kernel,by decide +kernel⟩) (fun _ i hi hn=>by
    have h: ∀i:Fin 2,i.val≠1→rQ [] (bm tG i.val 1)=0:=by decide +kernel
    exact h ⟨i,hi⟩ hn)
 | 2,_=>by
   rw[Nd];have h: ¬atR [] ⟨tG,[0,1],1,[1]⟩ 2<2:=by decide +kernel
   exact Ap (p:=[]) (fun g=>absurd g h) (fun g=>absurd g h)
theorem Kh:DI.ok 16:=by
 have q1:(Qr ((1:Int):Rat)).w 16:=iG _ (by have:=gF;rw[show ((1:Int):Rat)=1 from rfl];omega);have q0:(Qr 0).w 16:=iG _ (oc (by decide));have d0:(default:RD).w 16:=⟨fun x h=>absurd h (List.not_mem_nil (a:=x)),fun x h=>absurd h (List.not_mem_nil (a:=x)),Nat.zero_le _,Nat.zero_le _⟩;have dM:(default:Mark).ok 16:=⟨by decide,d0,d0⟩
 have hp: ∀k,(Od.getD k default).ok 16:=fun k=>by
  match k with
  | 0=>exact⟨by decide,q0,q0⟩
  | 1=>exact⟨by decide,q1,q0⟩
  | _+2=>exact dM
 refine⟨by decide,by decide,by decide,by decide,fun i=>?_,fun i=>?_,fun i=>by show (default:Driver).nm.size≤_;decide⟩
 · match i with
   | 0=>exact⟨by decide,by decide,hp⟩
   | 1=>exact⟨by decide,by decide,hp⟩
   | _+2=>exact⟨by show (default:Body).nm.size≤_;decide,by show (default:Body).pts.length≤_;decide,fun k=>dM⟩
 · match i with
   | 0=>show (ByteArray.size ⟨#[106]⟩)≤_;decide
   | _+1=>show (default:a9).nm.size≤_;decide
end Lift
namespace Lift
open Go Go.Proofs
theorem H':Gm DI EZ:=by
 have d0: ∀a:List RD,(∀r∈a,r=Qr ((1:Int):Rat)∨r=Qr ((0:Int):Rat))→wN 16 a:=fun a h i hi=>by
  have h1:(Qr ((1:Int):Rat)).w 16:=iG _ (by have:=gF;rw[show ((1:Int):Rat)=1 from rfl];omega);have h0:(Qr ((0:Int):Rat)).w 16:=iG _ (by have:=jm;rw[show ((0:Int):Rat)=0 from rfl];omega);rw[aK,bP hi];rcases h _ (List.getElem_mem hi) with e | e
  · rw[show (some a[i]).getD default=a[i] from rfl,e];exact h1
  · rw[show (some a[i]).getD default=a[i] from rfl,e];exact h0
 have w1:wN 16 [Qr ((1:Int):Rat)]:=d0 _ (fun r hr=> .inl (List.mem_singleton.1 hr));have w0:wN 16 [Qr ((0:Int):Rat)]:=d0 _ (fun r hr=> .inr (List.mem_singleton.1 hr));have hb:fu.ok 16 [] NK:=⟨⟨fun _=>w1,show 1≤4398046511104 by decide⟩,⟨fun _=>w0,show 1≤4398046511104 by decide⟩,⟨fun _=>w0,show 1≤4398046511104 by decide⟩,⟨fun _=>w0,show 1≤4398046511104 by decide⟩⟩;refine Hp Kh ⟨⟨⟨1,by decide,by decide,fun i hi=>absurd hi (Nat.not_lt_zero _),fun _=>show 1≤17300000000000 by decide⟩,by decide,by decide,fun i hi=>absurd hi (Nat.not_lt_zero _)⟩,fun i hi=>?_,by decide⟩ (by decide) DG;have hi:i<2:=hi
 match i,hi with
 | 0,_=>exact hb
 | 1,_=>exact hb
theorem Ib:EZ.ok 16:=by
 have w1:wN 16 [Qr ((1:Int):Rat)]:=fun i hi=>by
  have hi:i<1:=hi;obtain rfl:i=0:=by omega
  exact iG _ (by have:=gF;rw[show ((1:Int):Rat)=1 from rfl];omega)
 have w0:wN 16 [Qr ((0:Int):Rat)]:=fun i hi=>by
  have hi:i<1:=hi;obtain rfl:i=0:=by omega
  exact iG _ (by have:=jm;rw[show ((0:Int):Rat)=0 from rfl];omega)
 have hb:fu.ok 16 [] NK:=⟨⟨fun _=>w1,show 1≤4398046511104 by decide⟩,⟨fun _=>w0,show 1≤4398046511104 by decide⟩,⟨fun _=>w0,show 1≤4398046511104 by decide⟩,⟨fun _=>w0,show 1≤4398046511104 by decide⟩⟩;refine⟨⟨⟨1,by decide,by decide,fun i hi=>absurd hi (Nat.not_lt_zero _),fun _=>show 1≤17300000000000 by decide⟩,by decide,by decide,fun i hi=>absurd hi (Nat.not_lt_zero _)⟩,fun i hi=>?_,by decide⟩;have hi:i<2:=hi
 match i,hi with
 | 0,_=>exact hb
 | 1,_=>exact hb
theorem EY:Pure Tryz.prog 46 [ib (EZ.rt.map au),mZ (fS DI EZ)] (.tu [dI (2:Nat),aQ]):=by
 have V:iJ 300000 (EZ.rt.map au):=H'.V.mono (by decide) (by decide)
 have h:=nM V (show 300000≤17300000000000 by decide) (lP H') (fun i k=>(EF H' i k).2) (fun c hc=>by
  rw[KQ] at hc ⊢
  exact Ng c hc)
 rw[show (ju (EZ.rt.map au) (fS DI EZ)).cols.length=2 by rw[KQ];show (aF [] tG 3).cols.length=2;rw[Nc];rfl] at h;exact h
theorem iz:Pure Tryz.prog 9 [] (dB true):=by
 refine qJ 52 Tryz.func9 rfl rfl rfl rfl (by kernel_rfl) (fun B F0 w0=>?_);have ce:=sI;have c1:=ua DI Kh (by decide);have c2:=nH DI EZ Kh Ib (by decide) (by decide) (fun _=>EY);have c3:=nI DI EZ (r:=2) (by decide) Kh Ib (by decide) (by decide) (fun _=>EY);unfold LP at c1;unfold Bu at c2;unfold EV at c3;rw[if_neg (by rw[Ki];decide),show LO DI=1 by decide +kernel] at c1;rw[if_neg (by rw[DG];decide)] at c2;rw[if_neg (by rw[DG];decide),show (3*((DI.bodies.length:Int) -1) -((2:Nat):Int))=1 by decide] at c3;have hL: ∃x:List D,DI.D= .ag x∧x.length=4:=⟨_,rfl,rfl⟩;have hA: ∃x:List D,EZ.D= .ag x∧x.length=3:=⟨_,rfl,rfl⟩;refine qX 1 rfl (qI (AW.region (qM rfl ce (qU 7 rfl (qK 1 rfl (qM rfl c1 (qU 5 rfl (qK 2 rfl ?_))))))));refine qM rfl c2 (qU 5 rfl (qK 2 rfl (qM rfl c3 (qU 5 rfl (qK 1 rfl (qR rfl rfl (qU 2 rfl (qR rfl rfl ?_))))))));exact qU 3 rfl (qR rfl rfl (qU 14 rfl (qN rfl)))
end Lift
namespace Lift
structure Lo (v:List NQ):Prop where
 V:iJ 2 v
 l1:v.length≤1
section
variable {v:List NQ} (L:Lo v) {k m:Nat} {a b:NQ}
include L
end
abbrev SzM(k:Nat)(a:cI):Prop:= ∀i j,aE k (bm a i j)
end Lift
namespace Lift
def wQ(a:cI)(k:Nat):List NQ:=a.map fun r=>r.getD k []
theorem Iu(a:cI)(k:Nat):(wQ a k).length=a.length:=af ..
theorem Iv(a:cI)(k i:Nat):(wQ a k).getD i []=bm a i k:=E3 a k i
section
variable {m0:Nat} {v:List NQ} (V:iJ m0 v) {a:cI} (G:Cy v a) {b:List NQ} (hb: ∀i,aA v.length (b.getD i []))
include V G hb
end
end Lift
namespace Lift
open Go Go.Proofs
abbrev Gh(l:List Nat):D:= .sl 1 (l.map (fun c:Nat=>dI c))
theorem KL{l:List Nat}{i:Nat}(h:i<l.length):(l.map (fun c:Nat=>dI c))[i]?=some (dI (l.getD i 0)):=by simp[h]
def Jb(l:List Nat)(x:Nat)(i:Nat):Bool:=decide ((x:Int)=(l.getD i 0:Nat))
def NI(l:List Nat)(x:Nat):Int:=if j5 (Jb l x) (l.length-0) 0<l.length then (j5 (Jb l x) (l.length-0) 0:Nat) else -1
theorem J3(l:List Nat)(x:Nat):decide (0≤NI l x)=l.contains x:=by
 obtain ⟨h1,h2,h3,h4⟩:=sN (g:=Jb l x) (m:=l.length-0) (i:=0);unfold NI;by_cases h:j5 (Jb l x) (l.length-0) 0<l.length
 · rw[if_pos h,aO (aj _)];have:=h4 (by omega)
   have e:x=l.getD (j5 (Jb l x) (l.length-0) 0) 0:=by
    have:=ao this;omega
   rw[e,aK,bP h];exact(List.contains_iff_mem.2 (List.getElem_mem h)).symm
 · rw[if_neg h,a7 (by decide)];refine(Bool.eq_false_iff.2 fun hc=>?_).symm;have hm:=List.contains_iff_mem.1 hc;obtain ⟨j,hj,e⟩:=List.getElem_of_mem hm;have:=h3 j (Nat.zero_le _) (by omega);unfold Jb at this;rw[aK,bP hj] at this;have:=ar this;exact this (by show (x:Int)=((l[j]:Nat):Int);rw[e])
theorem rW(bs:List Nat)(hl:bs.length≤1000000000000000)(x:Nat):Pure Tryz.prog 136 [Gh bs,dI x] (dI (NI bs x)):=by
 refine qJ 19 Tryz.func136 rfl rfl rfl rfl (by kernel_rfl) (fun B F0 w0=>?_);unfold NI;generalize hE:j5 (Jb bs x) (bs.length-0) 0=E;refine qX 1 rfl (qI (qX 3 rfl ?_));rw[af];refine ae.nil ?_;refine AW.block (AW.aL [0,1,7,8] (fun i:Nat=>[(0,.d (Gh bs)),(1,.d (dI x)),(7,.d (dI bs.length)),(8,.d (dI i))]) (fun i=>i≤bs.length∧j5 (Jb bs x) (bs.length-i) i=E) (fun i=>bs.length-i) 0 rfl ⟨Nat.zero_le _,hE⟩ (fun i hi=>?_));obtain ⟨hi,hE⟩:=hi
 · skip
   refine qX 1 rfl (qI (AW.cond rfl (fun h=>?_) (fun h=>?_)))
   · have hin:i<bs.length:=by have:=ao h;omega
     have hhit:=Cc (g:=Jb bs x) hin;have hmiss:=yJ (g:=Jb bs x) hin;refine AW.skip (AW.seq (AW.block (qX 2 rfl (qK 3 rfl (ae.idx tok (dI (bs.getD i 0)) rfl rfl rfl rfl (aj i) (KL hin) ?_)))));refine qU 2 rfl (ae.nil (AW.cond rfl (fun h=>?_) (fun h=>?_)))
     · have e:E=i:=hE.symm.trans (hhit h);rw[e,if_pos hin];exact qX 2 rfl (qN rfl)
     · skip
       refine AW.skip (qT 1 rfl ?_);rw[aI (x:=(i:Int)+1) (by omega) (by omega)];refine qU 1 rfl (ae.nil ?_);exact⟨i+1,rfl,⟨hin,by rw[← hmiss h];exact hE⟩,by omega⟩
   have hin: ¬i<bs.length:=by have:=ar h;omega
   have e:E=i:=by rw[← hE,Cd hin]
   rw[e,if_neg hin];exact AW.exit (qX 1 rfl (qN rfl))
theorem oR(bs:List Nat)(hl:bs.length≤1000000000000000)(x:Nat):Pure Tryz.prog 92 [Gh bs,dI x] (dB (bs.contains x)):=by
 refine qJ 9 Tryz.func92 rfl rfl rfl rfl (by kernel_rfl) (fun B F0 w0=>?_);rw[← J3];refine qX 1 rfl (qK 2 rfl (qM rfl (rW bs hl x) ?_));exact qU 2 rfl (qN rfl)
theorem GI{α:Type}{d:α}{l:List α}{i:Nat}(h:i<l.length):l.take (i+1)=l.take i++[l.getD i d]:=by
 rw[List.take_succ_eq_append_getElem h,aK,bP h];rfl
theorem sG(a:cI)(k:Nat)(ha:a.length≤1000000)(hr: ∀i,i<a.length→k<(a.getD i []).length):Pure Tryz.prog 176 [mZ a,dI k] (oO (wQ a k)):=by
 refine qJ 23 Tryz.func176 rfl rfl rfl rfl (by kernel_rfl) (fun B F0 w0=>?_);have hc:=Iu a k
 have hts: ∀i,i<a.length→(wQ a k).take (i+1)=(wQ a k).take i++[(a.getD i []).getD k []]:=fun i hi=>by
  rw[GI (d:=[]) (by omega),Iv];rfl
 have hta:(wQ a k).take a.length=wQ a k:=List.take_of_length_le (by omega);generalize wQ a k=zs at *;refine qX 1 rfl (qK 1 rfl (qI (qX 3 rfl ?_)));rw[af];refine ae.nil (AW.block ?_);refine AW.aL [0,1,5,8,9,10] (fun i:Nat=>[(0,.d (mZ a)),(1,.d (dI k)),(5,.ow 52 ((zs.take i).map aq)),(8,.d (mZ a)),(9,.d (dI a.length)),(10,.d (dI i))]) (fun i=>i≤a.length) (fun i=>a.length-i) 0 rfl (Nat.zero_le _) (fun i hi=>?_)
 · show AW _ _ _ _ _ _ _ [(0,.d (mZ a)),(1,.d (dI k)),(5,.ow 52 ((zs.take i).map aq)),(8,.d (mZ a)),(9,.d (dI a.length)),(10,.d (dI i))];refine qX 1 rfl (qI (AW.cond rfl (fun h=>?_) (fun h=>?_)))
   · have hii:i<a.length:=by have:=ao h;omega
     have g1:=getM oO (l:=a) (i:=i) hii;have g2:=getM aq (l:=a.getD i []) (i:=k) (hr i hii);have hts:=hts i hii;generalize a.getD i []=r at g1 g2 hts;generalize r.getD k []=x at g2 hts;refine AW.skip (AW.seq (AW.block (AW.seq (AW.region (ae.idx tok (oO r) rfl rfl rfl rfl (aj i) g1 ?_)))));refine qU 2 rfl (ae.nil (qT 3 rfl (ae.idx tok (aq x) rfl rfl rfl rfl (aj k) g2 ?_)));refine qU 1 rfl (ae.mX tok rfl rfl rfl rfl rfl ?_);refine ae.lB tok rfl rfl rfl rfl rfl rfl (by rw[af,bb];show (_+1)*24≤_;omega) (by rw[af,bb];show _+1≤_;omega) ?_;refine qU 1 rfl (ae.nil (qT 1 rfl ?_));rw[aI (x:=(i:Int)+1) (by omega) (by omega)];refine qU 1 rfl (ae.nil ?_);exact⟨i+1,by rw[hts,List.map_append];rfl,hii,by omega⟩
   have hii:i=a.length:=by have:=ar h;omega
   subst hii;rw[hta];refine AW.exit (AW.seq (AW.region (ae.jh tok 5 rfl rfl ?_)));exact qU 2 rfl (qN rfl)
theorem Fv(a:cI){k:Nat}(h:k<bd a):(cK a).getD k []=wQ a k:=om a h
theorem sC(a:cI)(ha:a.length≤1000000)(hc:bd a≤1000000)(hr:dq (bd a) a):Pure Tryz.prog 135 [mZ a] (mZ (cK a)):=by
 refine qJ 18 Tryz.func135 rfl rfl rfl rfl (by kernel_rfl) (fun B F0 w0=>?_);have hz:=gN a
 have hts: ∀k,k<bd a→(cK a).take (k+1)=(cK a).take k++[wQ a k]:=fun k hk=>by
  rw[GI (d:=[]) (by omega),Fv a hk]
 have hta:(cK a).take (bd a)=cK a:=List.take_of_length_le (by omega);have cc:=fun k (hk:k<bd a)=>sG a k ha (fun i hi=>by rw[hr i hi];exact hk);generalize cK a=zs at *;refine qX 1 rfl (qK 1 rfl (qI (qX 1 rfl (qM rfl (kY a) ?_))));refine qU 1 rfl (ae.nil (AW.block ?_));refine AW.aL [0,3,6,7] (fun i:Nat=>[(0,.d (mZ a)),(3,.ow 27 ((zs.take i).map oO)),(6,.d (dI (bd a))),(7,.d (dI i))]) (fun i=>i≤bd a) (fun i=>bd a-i) 0 rfl (Nat.zero_le _) (fun i hi=>?_)
 · show AW _ _ _ _ _ _ _ [(0,.d (mZ a)),(3,.ow 27 ((zs.take i).map oO)),(6,.d (dI (bd a))),(7,.d (dI i))];refine qX 1 rfl (qI (AW.cond rfl (fun h=>?_) (fun h=>?_)))
   · have hii:i<bd a:=by have:=ao h;omega
     have cc:=cc i hii;have hts:=hts i hii;generalize wQ a i=z at cc hts;refine AW.skip (AW.seq (AW.block (qX 2 rfl (ae.nil (qT 3 rfl (qM rfl cc (ae.mX tok rfl rfl rfl rfl rfl ?_)))))));refine ae.lB tok rfl rfl rfl rfl rfl rfl (by rw[af,bb];show (_+1)*24≤_;omega) (by rw[af,bb];show _+1≤_;omega) ?_;refine qU 1 rfl (ae.nil (qT 1 rfl ?_));rw[aI (x:=(i:Int)+1) (by omega) (by omega)];refine qU 1 rfl (ae.nil ?_);exact⟨i+1,by rw[hts,List.map_append];rfl,hii,by omega⟩
   have hii:i=bd a:=by have:=ar h;omega
   subst hii;rw[hta];refine AW.exit (AW.seq (AW.region (ae.jh tok 3 rfl rfl ?_)));exact qU 2 rfl (qN rfl)
theorem mU{v:List NQ}{a:cI}(V:pj v)(G:Cy v a)(ok: ∀c,c<a.length→kE v (aF v (cK a) c) c):Pure Tryz.prog 91 [ib v,mZ a] (.tu [Gh (aF v (cK a) a.length).cols,aQ]):=by
 refine qJ 20 Tryz.func91 rfl rfl rfl rfl (by kernel_rfl) (fun B F0 w0=>?_);have hGl:=G.l;have hGc:=G.c;have ct:=sC a (by omega) (by omega) G.r;have cr:=nL V (most:=a.length) (by rw[gN];omega) (by omega) (ai _) (ko a) (m9 G.lt) ok;generalize aF v (cK a) a.length=s at *;generalize cK a=z at *;refine qX 3 rfl (qI (AW.nW tok aS [(8,true),(1,false),(1,true)] 10 [6] (by kernel_rfl) ⟨rfl,?_⟩));refine qP 2 rfl (qQ rfl ct (qP 2 rfl ?_));rw[af];refine qQ rfl cr (qP 2 rfl (ah.nil ⟨rfl,?_⟩));refine qP 1 rfl (ah.nil ⟨rfl,?_⟩);refine qP 1 rfl (ah.nil ⟨_,oM.cons (.bx rfl) (oM.nil),?_⟩);exact qU 1 rfl (qK 5 rfl (qN rfl))
theorem oW{m:Nat}{v:List NQ}{a:cI}(V:iJ m v)(hk:pP v.length m)(G:Cy v a)(hs: ∀i k,aE m (bm a i k))(ok: ∀c,c<a.length→kE v (aF v (cK a) c) c):Pure Tryz.prog 47 [ib v,mZ a] (.tu [Gh (oT v a),aQ]):=by
 refine qJ 41 Tryz.func47 rfl rfl rfl rfl (by kernel_rfl) (fun B F0 w0=>?_);obtain ⟨r1,r2⟩:=G.raw V hs;have cc:=mP (V.s hk) r1;rw[r2,r8,Hj] at cc;have hGl:=G.l;have ci:=mU V.a G ok;have hcl:=(kt V.a (ko a) (m9 G.lt) a.length).cl;unfold oT pg;generalize aF v (cK a) a.length=s at *
 have hf: ∀i,((List.range (i+1)).filter fun i=> !s.cols.contains i)=((List.range i).filter fun i=> !s.cols.contains i)++(if s.cols.contains i then [] else [i]):=fun i=>by
  rw[List.range_succ,List.filter_append]
  congr 1
  by_cases h:s.cols.contains i=true
  · rw[if_pos h,List.filter_cons_of_neg (by rw[h];simp)];rfl
  · rw[if_neg h,List.filter_cons_of_pos (by simp only[Bool.not_eq_true] at h;rw[h];rfl)];rfl
 have hfl: ∀i,((List.range i).filter fun i=> !s.cols.contains i).length≤i:=fun i=>Nat.le_trans (List.length_filter_le ..) (by rw[List.length_range];exact ai _);refine qX 3 rfl (qI (qX 2 rfl (qM rfl cc (qU 1 rfl (qK 1 rfl (qR rfl rfl (ae.nil (AW.aH rfl ?_))))))))
 · skip
   refine AW.skip (qX 2 rfl (qM rfl ci (qU 5 rfl (qI (qX 1 rfl (qR rfl rfl (ae.nil (AW.aH rfl ?_))))))))
   · skip
     refine AW.skip (qX 1 rfl (qI (qX 2 rfl ?_)));rw[af];refine qU 1 rfl (ae.nil (AW.block ?_));refine AW.aL [7,9,27,28] (fun i:Nat=>[(7,.d (Gh s.cols)),(9,.ow 3 (((List.range i).filter fun i=> !s.cols.contains i).map (fun c:Nat=>dI c))),(27,.d (dI a.length)),(28,.d (dI i))]) (fun i=>i≤a.length) (fun i=>a.length-i) 0 rfl (Nat.zero_le _) (fun i hi=>?_)
     · show AW _ _ _ _ _ _ _ [(7,.d (Gh s.cols)),(9,.ow 3 (((List.range i).filter fun i=> !s.cols.contains i).map (fun c:Nat=>dI c))),(27,.d (dI a.length)),(28,.d (dI i))];refine qX 1 rfl (qI (AW.cond rfl (fun h=>?_) (fun h=>?_)))
       · have hii:i<a.length:=by have:=ao h;omega
         have hf:=hf i;have hfl:=hfl i;have ch:=oR s.cols (by omega) i;generalize s.cols.contains i=b at hf ch;refine AW.skip (AW.seq (AW.block (qX 2 rfl (qK 2 rfl (qM rfl ch (qU 1 rfl (ae.nil (AW.cond rfl (fun h=>?_) (fun h=>?_)))))))))
         · rw[show b=false by cases b;rfl;cases h] at hf;refine qT 2 rfl (ae.mX tok rfl rfl rfl rfl rfl ?_);refine ae.lB tok rfl rfl rfl rfl rfl rfl (by rw[af];show (_+1)*8≤_;omega) (by rw[af];show _+1≤_;omega) ?_;refine qU 1 rfl (ae.nil (qT 1 rfl ?_));rw[aI (x:=(i:Int)+1) (by omega) (by omega)];refine qU 1 rfl (ae.nil ?_);exact⟨i+1,by rw[hf,if_neg (by decide),List.map_append];rfl,hii,by omega⟩
         · rw[show b=true by cases b;cases h;rfl] at hf;refine AW.skip (qT 1 rfl ?_);rw[aI (x:=(i:Int)+1) (by omega) (by omega)];refine qU 1 rfl (ae.nil ?_);exact⟨i+1,by rw[hf,if_pos rfl,List.append_nil];rfl,hii,by omega⟩
       have hii:i=a.length:=by have:=ar h;omega
       subst hii;refine AW.exit (AW.seq (AW.region (ae.jh tok 9 rfl rfl ?_)));exact qU 3 rfl (qN rfl)
end Lift
namespace Lift
open Go Go.Proofs
section
variable {l:Lkg} {a:Asm} (S:Gg l a) (O:Gm l a) (hl:l.ok 16) (ha:AsB a)
include S O hl ha
omit O hl in
theorem G9(h2:(a.rt.map au).length=2):dt 8 (a.rt.map au):=fun j c=>by
 rw[af] at h2;by_cases hj:j<a.rt.length
 · have h1:=S.root hj
   have hg:(a.rt.map au).getD j []=au (a.rt.getD j []):=by
    rw[aK,List.getElem?_map,aK,bP hj];rfl
   rw[hg,BJ];split
   · have w:=(ha.r j).2 c;have h3:=y4 (a.rt.getD j []) c;exact cF ⟨w.1,w.2.1,by omega,by omega⟩ (by decide)
   · rw[jm];decide
 · have hz:(a.rt.map au).getD j []=[]:=by
    rw[aK,List.getElem?_eq_none (by rw[af];omega)];rfl
   rw[hz];show LQ 0≤8;rw[jm];decide
theorem HD(N:Nat)(hr:dq N (fS l a)):tN (a.rt.map au) (fS l a) N (Fz 200 200) :=
 Bn O.V (JT S O hl ha N) (by decide) hr (lP O).lt (ai _) O.l2 O.V.sz (G9 S ha)
theorem FY: ∀c,c<bd (fS l a)→kE (a.rt.map au) (aF (a.rt.map au) (fS l a) c) c:=by
 have G:=lP O;have hb:l.bodies.length≤6:=by have:=O.G.lk.b8;have:=S.nb6;omega
 by_cases h0:0<(fS l a).length
 · have hc:=uH O h0;exact vw O.V O.l2 O.V.sz G.r G.lt (HD S O hl ha _ G.r) (.inl (by omega))
 · intro c hc;unfold bd at hc;rw[k7 (by omega)] at hc;exact absurd hc (Nat.not_lt_zero c)
theorem AX: ∀c,c<(fS l a).length→kE (a.rt.map au) (aF (a.rt.map au) (cK (fS l a)) c) c:=by
 have G:=lP O;have hb:l.bodies.length≤6:=by have:=O.G.lk.b8;have:=S.nb6;omega
 by_cases h0:0<(fS l a).length
 · have hc:=uH O h0;obtain ⟨e,hM⟩:=Fu S O hl ha;exact vw O.V O.l2 O.V.sz (ko _) (m9 G.lt) (Bn O.V hM (by decide) (ko _) (m9 G.lt) (ai _) O.l2 O.V.sz (G9 S ha)) (.inr (by rw[gN];omega))
 · intro c hc;exact absurd hc (by omega)
omit S hl ha in
theorem ok3:pP (a.rt.map au).length 300000:=by
 refine vP (l:=2) ?_ O.l2;exact⟨by decide,by decide,by show _≤_;decide⟩
theorem EE:Pure Tryz.prog 46 [ib (a.rt.map au),mZ (fS l a)] (.tu [dI (ju (a.rt.map au) (fS l a)).cols.length,aQ]) :=
 nM (O.V.mono (by decide) (by decide)) (ok3 O) (lP O) (fun i k=>(EF O i k).2) (FY S O hl ha)
theorem z0:Pure Tryz.prog 47 [ib (a.rt.map au),mZ (fS l a)] (.tu [Gh (oT (a.rt.map au) (fS l a)),aQ]) :=
 oW (O.V.mono (by decide) (by decide)) (ok3 O) (lP O) (fun i k=>(EF O i k).2) (AX S O hl ha)
end
end Lift
namespace Lift
open Go Go.Proofs
theorem FM(v:List NQ)(a:cI){c d:Nat}(h:c≤d):(aF v a c).cols.length≤(aF v a d).cols.length:=by
 induction h with
 | refl=>exact ai _
 | @step m _ ih =>
   rcases qw v a m with e | e
   · rw[e,List.length_append];exact Nat.le_add_right_of_le ih
   · rw[e];exact ih
theorem Bp(v:List NQ)(a:cI)(c:Nat): ∀d,(aF v a (c+d)).cols.length≤(aF v a c).cols.length+d
 | 0=>ai _
 | d+1=>by
   have ih:=Bp v a c d;rcases qw v a (c+d) with e | e
   · show (aF v a (c+d+1)).cols.length≤_;rw[e,List.length_append];show _+1≤_;omega
   · show (aF v a (c+d+1)).cols.length≤_;rw[e];omega
theorem oB{m0:Nat}{v:List NQ}(V:iJ m0 v){C:cI}(G:Cy v C){n:Nat}(hn:n≤C.length):(aF v (cK C) n).cols.length=(ju v (C.take n)).cols.length:=by
 rw[Bt V G hn];unfold ju;by_cases h:n=0
 · subst h;rw[List.take_zero,qv,qv]
 · have e:bd (C.take n)=bd C:=by
    unfold bd;rw[aK,List.getElem?_take,if_pos (by omega),aK]
   rw[e]
theorem Hm{m0:Nat}{v:List NQ}(V:iJ m0 v){A B:cI}(G:Cy v (A++B)):(ju v A).cols.length≤(ju v (A++B)).cols.length∧(ju v (A++B)).cols.length≤(ju v A).cols.length+B.length:=by
 have h1:=oB V G (n:=A.length) (by rw[List.length_append];omega);have h2:=oB V G (n:=(A++B).length) (ai _);rw[List.take_left' rfl] at h1;rw[List.take_length] at h2;rw[← h1,← h2];refine⟨FM v _ (by rw[List.length_append];omega),?_⟩;rw[List.length_append];exact Bp v _ _ _
def uc(l:Lkg)(js:List a9):Lkg:=⟨l.nm,l.bodies,js,l.drivers⟩
theorem Af{b:List Body}{l1 l2:List a9}{i:Nat}(h: ∀k,k≤i→l1.getD k default=l2.getD k default):cZ b l1 i=cZ b l2 i:=by
 have hd:um l1 i=um l2 i:=by
  unfold um;rw[h i (ai _)]
  have key: ∀m j,j+m≤i→eP (fun k=>decide ((l1.getD k default).nm=(l2.getD i default).nm)) m j=eP (fun k=>decide ((l2.getD k default).nm=(l2.getD i default).nm)) m j:=fun m=>by
   induction m with
   | zero=>intro _ _;rfl
   | succ m ih =>
     intro j hj;show (_||_)=(_||_);rw[ih (j+1) (by omega)]
     dsimp only
     rw[h j (by omega)]
  exact key i 0 (by omega)
 unfold cZ;rw[h i (ai _),hd]
theorem wi{b:List Body}{l:List a9}(h:bA b l=0):l.length≤16∧ ∀i,i<l.length→cZ b l i=0:=by
 unfold bA at h;split at h
 · cases h
 · exact⟨by omega,fun i hi=>DE h i (Nat.zero_le _) (by omega)⟩
theorem F2{b:List Body}{l:List a9}(h1:l.length≤16)(h: ∀i,i<l.length→cZ b l i=0):bA b l=0:=by
 unfold bA;rw[if_neg (by omega)];exact mC fun i hi=>h i (by omega)
theorem L6{l:Lkg}{js:List a9}(h:uo l=0)(hj:bA l.bodies js=0):uo (uc l js)=0:=by
 unfold uo at h ⊢;show (if cU l.nm=false then 5 else if l.bodies=[] then 10 else if 8<l.bodies.length then 4 else if bM l.bodies≠0 then bM l.bodies else if bA l.bodies js≠0 then bA l.bodies js else iD l.bodies.length l.drivers)=0;rw[if_neg (show ¬bA l.bodies js≠0 by rw[hj];simp)];split at h
 · cases h
 rename_i g1;rw[if_neg g1];split at h
 · cases h
 rename_i g2;rw[if_neg g2];split at h
 · cases h
 rename_i g3;rw[if_neg g3];split at h
 · rename_i g4;exact absurd h g4
 rename_i g4;rw[if_neg g4];split at h
 · rename_i g5;exact absurd h g5
 · exact h
theorem DW{l:Lkg}(h:uo l=0):bA l.bodies l.joints=0:=by
 unfold uo at h;split at h
 · cases h
 split at h
 · cases h
 split at h
 · cases h
 split at h
 · rename_i g;exact absurd h g
 split at h
 · rename_i g;exact absurd h g
 · rename_i g;exact Decidable.not_not.1 g
theorem JW{l:Lkg}{a:Asm}{js:List a9}(h:eU l a=0)(hj:bA l.bodies js=0):eU (uc l js) a=0:=by
 have hc:uo l=0:=by
  unfold eU at h;split at h
  · rename_i g;exact absurd h g
  · rename_i g;exact Decidable.not_not.1 g
 have h2:=L6 hc hj;unfold eU at h ⊢;rw[if_neg (by rw[h2];simp)];rw[if_neg (by rw[hc];simp)] at h;exact h
theorem HH{l:Lkg}{a:Asm}(h:eU l a=0):uo l=0:=by
 unfold eU at h;split at h
 · rename_i g;exact absurd h g
 · rename_i g;exact Decidable.not_not.1 g
theorem vt(v:List NQ)(l:Lkg)(a:Asm)(js:List a9): ∀n,(∀i,i<n→js.getD i default=l.joints.getD i default)→im v (uc l js) a n=im v l a n
 | 0,_=>rfl
 | n+1,h=>by
   show im v (uc l js) a n++rp v (uc l js) a (js.getD n default)=im v l a n++rp v l a (l.joints.getD n default);rw[vt v l a js n (fun i hi=>h i (by omega)),h n (by omega)];rfl
theorem Gg.js{l:Lkg}{a:Asm}(S:Gg l a)(js:List a9):Gg (uc l js) a:=⟨S.r2,S.nb6,S.n⟩
end Lift
namespace Lift
open Go Go.Proofs
theorem wg(l:Lkg)(a:Asm){K:Nat}(hl:l.ok K)(hK:K≤big)(ha:AsB a):Pure Tryz.prog 10 [l.D,a.D] (dB (!lp l a&&decide (eU l a=0))):=by
 refine qJ 15 Tryz.func10 rfl rfl rfl rfl (by kernel_rfl) (fun B F0 w0=>?_);have cl:=wh l a hl hK ha
 have cc:lp l a=false→Pure Tryz.prog 16 [l.D,a.D] (dI (eU l a)):=fun h =>
  zu l a ((vk h).lok hl) (by decide) ((vk h).aok ha)
 generalize lp l a=b at cl cc ⊢;generalize eU l a=z at cc ⊢;obtain ⟨ln,lb,js,lds⟩:=l;obtain ⟨rt,bs,md⟩:=a;refine qX 3 rfl (qK 2 rfl (qM rfl cl ?_));cases b with
 | true =>
   exact qU 8 rfl (qN rfl)
 | false =>
 refine qU 4 rfl (qM rfl (cc rfl) ?_);refine qU 3 rfl ?_;rw[show ((z:Int)==0)=decide (z=0) by by_cases h:z=0<;>simp[h]];exact qN rfl
end Lift
namespace Lift
open Go Go.Proofs
structure xS (l:Lkg) (a:Asm):Prop where
 hl:l.ok 16
 ha:a.ok 16
 hb:AsB a
 S:Gg l a
 O:Gm l a
 m:eU l a=0
 nb:l.bodies.length≤1000000000000
theorem Nw{l:Lkg}{a:Asm}{K:Nat}(hl:l.ok K)(ha:AsB a)(hL:(!lp l a&&decide (eU l a=0))=true):xS l a∧Fk l a:=by
 obtain ⟨h1,h2⟩:=(Bool.and_eq_true _ _).mp hL;have hlg:lp l a=false:=by simpa using h1
 have hm:eU l a=0:=ao h2;have S:=vk hlg;have hl16:=S.lok hl;have ha16:=S.aok ha;have hnb:=S.nb;exact⟨⟨hl16,ha16,ha,S.s,Hp hl16 ha16 S.r2 hm,hm,by omega⟩,S⟩
theorem xS.js{l:Lkg}{a:Asm}(A:xS l a){js:List a9}(hj:bA l.bodies js=0)(hn: ∀i,(js.getD i default).nm.size≤big):xS (uc l js) a:=by
 have hm:=JW A.m hj;have h16:=(wi hj).1;have hl:(uc l js).ok 16:=⟨A.hl.nm,A.hl.nb,by show js.length≤1000000000000000;omega,A.hl.nd,A.hl.b,hn,A.hl.d⟩;exact⟨hl,A.ha,A.hb,A.S.js js,Hp hl A.ha A.S.r2 hm,hm,A.nb⟩
def Gj(l:Lkg)(a:Asm):Nat:=(ju (a.rt.map au) (fS l a)).cols.length
theorem Hf{l:Lkg}{a:Asm}(A:xS l a):Gj l a≤32:=by
 have h:=(zo A.O.V.a (lP A.O)).1;have:=(lP A.O).l;unfold Gj;omega
theorem Ce{l:Lkg}{a:Asm}(A:xS l a):Pure Tryz.prog 11 [l.D,a.D] (.tu [dI (3*((l.bodies.length:Int) -1) -(Gj l a:Nat)),aQ]):=by
 have hr:=Hf A;have h:=nI l a (r:=Gj l a) (by omega) A.hl A.ha A.S.r2 A.nb (fun _=>EE A.S A.O A.hl A.hb);unfold EV at h;rw[if_neg (by rw[A.m];simp)] at h;exact h
end Lift
namespace Lift
open Go Go.Proofs
def I9(of out:List Int)(row:Nat):List Int:=if out.length=0∨out.getD (out.length-1) 0≠of.getD row 0 then out++[of.getD row 0] else out
def CD(of:List Int)(r:List Nat):Nat→List Int
 | 0=>[]
 | i+1=>I9 of (CD of r i) (r.getD i 0)
theorem zp(of:List Int)(r:List Nat): ∀i,(CD of r i).length≤i
 | 0=>ai _
 | i+1=>by
   have:=zp of r i;show (I9 _ _ _).length≤_;unfold I9;split
   · rw[List.length_append];show _+1≤_;omega
   · omega
theorem JD(of:List Int)(r:List Nat): ∀i,0<(CD of r (i+1)).length
 | i=>by
   show 0<(I9 _ _ _).length;unfold I9;split
   · rw[List.length_append];show 0<_+1;omega
   · rename_i h;have: ¬(CD of r i).length=0:=fun e=>h (.inl e);omega
theorem H5{l:List Int}{i:Nat}(h:i<l.length):(l.map (fun n=>dI n))[i]?=some (dI (l.getD i 0)):=by simp[h]
def Lq(l:Lkg)(a:Asm)(r:List Nat):D:=if eU l a≠0 then .tu [.sl 1 [],uM (eU l a)] else .tu [.sl 1 ((CD (tX l.joints l.joints.length) r r.length).map fun n=>dI n),aQ]
set_option maxHeartbeats 1600000 in
theorem sB(l:Lkg)(a:Asm){r:List Nat}(hr:r.length≤1000000)(hri:eU l a=0→ ∀i,i<r.length→r.getD i 0<(tX l.joints l.joints.length).length)(hl:l.ok 16)(ha:a.ok 16)(h2:a.rt.length≤2)(hnb:l.bodies.length≤1000000000000)(hR:eU l a=0→Pure Tryz.prog 47 [ib (a.rt.map au),mZ (fS l a)] (.tu [Gh r,aQ])):Pure Tryz.prog 24 [l.D,a.D] (Lq l a r):=by
 refine qJ 63 Tryz.func24 rfl rfl rfl rfl (by kernel_rfl) (fun B0 F0 w0=>?_);have c:=tC l a hl ha h2 hnb;unfold Es at c;unfold Lq;have hT:eU l a=0→w8 a.rt=ib (a.rt.map au):=fun h=>(qi ha.t (zI h).tw).eq;unfold fS at hR;refine qX 4 rfl (qK 2 rfl ?_);rcases e2:eU l a with _ | z
 rotate_left
 · rw[if_pos (by rw[e2];exact Nat.succ_ne_zero z),e2] at c;rw[if_pos (Nat.succ_ne_zero z)];exact qM rfl c (qU 7 rfl (qI (qX 1 rfl (qR rfl rfl (ae.nil (AW.aJ rfl (qX 3 rfl (qN rfl))))))))
 rw[if_neg (by rw[e2];simp)] at c;rw[if_neg (by simp)];have hR2:=hR e2;have hri2:=hri e2;rw[← hT e2] at hR2;clear hR hri hT;refine qM rfl c (qU 7 rfl (qI (qX 1 rfl (qR rfl rfl (ae.nil (AW.aH rfl ?_))))))
 · skip
   refine AW.skip (AW.seq (AW.region ?_));obtain ⟨rt,bs,md⟩:=a;generalize tX l.joints l.joints.length=of at *;refine qU 3 rfl (qM rfl hR2 (qU 5 rfl (qI (qX 1 rfl (qR rfl rfl (ae.nil (AW.aH rfl ?_)))))))
   · skip
     refine AW.skip (qX 1 rfl (qI (qX 2 rfl ?_)));rw[af];refine qU 1 rfl (ae.nil (AW.block ?_));refine AW.aL [7,10,34,35,36] (fun i:Nat=>[(7,.d (.sl 1 (of.map fun n=>dI n))),(10,.ow 3 ((CD of r i).map fun n=>dI n)),(34,.d (Gh r)),(35,.d (dI r.length)),(36,.d (dI i))]) (fun i=>i≤r.length) (fun i=>r.length-i) 0 rfl (Nat.zero_le _) (fun i hi=>?_)
     · show AW _ _ _ _ _ _ _ [(7,.d (.sl 1 (of.map fun n=>dI n))),(10,.ow 3 ((CD of r i).map fun n=>dI n)),(34,.d (Gh r)),(35,.d (dI r.length)),(36,.d (dI i))];refine qX 1 rfl (qI (AW.cond rfl (fun h=>?_) (fun h=>?_)))
       · have hii:i<r.length:=by have:=ao h;omega
         have g1:=KL (l:=r) (i:=i) hii;have hol:=zp of r i;have hs:CD of r (i+1)=I9 of (CD of r i) (r.getD i 0):=rfl;have g2:=H5 (l:=of) (hri2 i hii);unfold I9 at hs;generalize CD of r i=out at *;generalize of.getD (r.getD i 0) 0=x at *;generalize r.getD i 0=row at *;refine AW.skip (AW.seq (AW.block (AW.seq (AW.region (ae.idx tok (dI row) rfl rfl rfl rfl (aj i) g1 ?_)))));refine qU 2 rfl (qK 2 rfl (ae.idx tok (dI x) rfl rfl rfl rfl (aj row) g2 ?_));refine qU 2 rfl (ae.nil ?_);refine AW.cut [7,10,13,34,35,36,56] (fun b:Bool=>[(7,.d (.sl 1 (of.map fun n=>dI n))),(10,.ow 3 (out.map fun n=>dI n)),(13,.d (dI x)),(34,.d (Gh r)),(35,.d (dI r.length)),(36,.d (dI i)),(56,.d (dB b))]) (fun b=>b=decide (out.length=0∨out.getD (out.length-1) 0≠x)) ?_ (fun b hb=>?_)
         · refine qT 2 rfl ?_;rw[af];refine qU 1 rfl ?_;by_cases h0:out.length=0
           · rw[beq_iff_eq.2 (show (out.length:Int)=0 by omega)];refine qU 10 rfl (ae.nil ?_);exact⟨true,rfl,(aO (.inl h0)).symm⟩
           rw[beq_eq_false_iff_ne.2 (show (out.length:Int)≠0 by omega)];have g3:=H5 (l:=out) (i:=out.length-1) (by omega);refine qU 4 rfl ?_;rw[af];refine qU 1 rfl ?_;rw[aI (x:=(out.length:Int) -1) (by omega) (by omega)];refine ae.gD tok rfl rfl rfl rfl (show (0:Int)≤(out.length:Int) -1 by omega) (by rw[af];omega) ?_;rw[show ((out.length:Int) -1).toNat=out.length-1 by omega];refine ae.df tok (dI (out.getD (out.length-1) 0)) rfl rfl rfl rfl g3 rfl ?_;refine qU 3 rfl (ae.nil ?_);refine⟨out.getD (out.length-1) 0 != x,rfl,?_⟩;by_cases g:out.getD (out.length-1) 0=x
           · rw[bne_eq_false_iff_eq.2 g,a7 (fun e=>e.elim h0 (fun e=>e g))]
           · rw[bne_iff_ne.2 g,aO (.inr g)]
         · show AW _ _ _ _ _ _ _ [(7,.d (.sl 1 (of.map fun n=>dI n))),(10,.ow 3 (out.map fun n=>dI n)),(13,.d (dI x)),(34,.d (Gh r)),(35,.d (dI r.length)),(36,.d (dI i)),(56,.d (dB b))];refine AW.cond rfl (fun h=>?_) (fun h=>?_)
           · have hc:out.length=0∨out.getD (out.length-1) 0≠x:=by rw[show b=true from h] at hb;exact ao hb.symm
             refine qT 2 rfl (ae.mX tok rfl rfl rfl rfl rfl ?_);refine ae.lB tok rfl rfl rfl rfl rfl rfl (by rw[af];show (_+1)*8≤_;omega) (by rw[af];show _+1≤_;omega) ?_;refine qU 1 rfl (ae.nil (qT 1 rfl ?_));rw[aI (x:=(i:Int)+1) (by omega) (by omega)];refine qU 1 rfl (ae.nil ?_);exact⟨i+1,by rw[hs,if_pos hc,List.map_append];rfl,hii,by omega⟩
           · have hc: ¬(out.length=0∨out.getD (out.length-1) 0≠x):=by rw[show b=false from h] at hb;exact ar hb.symm
             refine AW.skip (qT 1 rfl ?_);rw[aI (x:=(i:Int)+1) (by omega) (by omega)];refine qU 1 rfl (ae.nil ?_);exact⟨i+1,by rw[hs,if_neg hc];rfl,hii,by omega⟩
       have hii:i=r.length:=by have:=ar h;omega
       subst hii;refine AW.exit (AW.seq (AW.region (ae.jh tok 10 rfl rfl ?_)));exact qU 3 rfl (qN rfl)
theorem vQ(v:List NQ)(l:Lkg)(a:Asm): ∀n,(tX l.joints n).length=(im v l a n).length
 | 0=>rfl
 | n+1=>by
   show (tX l.joints n++_).length=(im v l a n++_).length;rw[List.length_append,List.length_append,vQ v l a n,List.length_replicate,Ae]
theorem BT{l:Lkg}{a:Asm}(A:xS l a):Pure Tryz.prog 24 [l.D,a.D] (.tu [.sl 1 ((CD (tX l.joints l.joints.length) (oT (a.rt.map au) (fS l a)) (oT (a.rt.map au) (fS l a)).length).map fun n=>dI n),aQ]):=by
 have G:=lP A.O;have hl:=Bo A.O.V G;have hG:=G.l
 have hlt: ∀i,i<(oT (a.rt.map au) (fS l a)).length→(oT (a.rt.map au) (fS l a)).getD i 0<(fS l a).length:=fun i hi=>by
  rw[aK,bP hi];exact H7 (a.rt.map au) (cK (fS l a)) (fS l a).length _ (List.getElem_mem hi)
 have h:=sB l a (r:=oT (a.rt.map au) (fS l a)) (by omega) (fun _ i hi=>by
  rw[vQ (a.rt.map au) l a]
  exact hlt i hi) A.hl A.ha A.S.r2 A.nb (fun _=>z0 A.S A.O A.hl A.hb)
 unfold Lq at h;rw[if_neg (by rw[A.m];simp)] at h;exact h
end Lift
namespace Lift
open Go Go.Proofs
theorem x4{C:cI}{n i:Nat}(h:i<n):(C.take n).getD i []=C.getD i []:=by
 rw[aK,List.getElem?_take,if_pos h,aK]
theorem Bs{m0:Nat}{v:List NQ}(V:iJ m0 v){A B:cI}(G:Cy v (A++B))(GA:Cy v A)(hA:0<A.length)(hB: ∀r∈B,r∈A):(ju v (A++B)).cols.length=(ju v A).cols.length:=by
 obtain ⟨F⟩:=KN V;have h1:=(Hm V G).1
 have hc:bd (A++B)=bd A:=by
  unfold bd;rw[aK,List.getElem?_append_left hA,aK]
 have IA:=vv V.a F GA.r GA.lt (bd A) (ai _);have IC:=vv V.a F G.r G.lt (bd (A++B)) (ai _);obtain ⟨L,R,hf⟩:=IA.NJ.2 (ai _)
 have key: ∀i,i<(A++B).length→ ∃j,j<A.length∧A.getD j []=(A++B).getD i []:=fun i hi=>by
  have hm:(A++B).getD i []∈A:=by
   rw[aK,bP hi];rcases List.mem_append.1 (List.getElem_mem hi) with h | h
   · exact h
   · exact hB _ h
  obtain ⟨j,hj,e⟩:=List.getElem_of_mem hm;exact⟨j,hj,by rw[aK,bP hj];exact e⟩
 have h2:(ju v (A++B)).cols.length≤(ju v A).cols.length:=IC.NJ.1 ⟨fun i=>if h:i<(A++B).length then L (key i h).choose else L 0,R,fun i k hi hk=>by
  show vM F (A++B) i k=sm _ (fun p=>(if h:i<(A++B).length then L (key i h).choose else L 0) p*R p k);rw[dif_pos hi];obtain ⟨j1,j2⟩:=(key i hi).choose_spec;rw[hc] at hk;have:=hf (key i hi).choose k j1 hk;refine Eq.trans ?_ this;show F.val (((A++B).getD i []).getD k [])=F.val ((A.getD _ []).getD k [])
  rw[j2]⟩
 omega
theorem HP{m0:Nat}{v:List NQ}(V:iJ m0 v){C:cI}(G:Cy v C){n:Nat}(hC:C.length=n+1)(h:(ju v (C.take n)).cols.length=(ju v C).cols.length): ∃t,oT v C=t++[n]:=by
 have h1:=oB V G (n:=n) (by omega);have h2:=oB V G (n:=n+1) (by omega);rw[List.take_of_length_le (by omega)] at h2;unfold oT;rw[hC];rcases wu v (cK C) n with ⟨f1,f2⟩ | ⟨f1,f2⟩
 · rw[f1,List.length_append] at h2;have h2:(aF v (cK C) n).cols.length+1=_:=h2;omega
 · exact⟨_,f2⟩
theorem Hi(of:List Int)(r:List Nat)(i:Nat):(CD of r (i+1)).getD ((CD of r (i+1)).length-1) 0=of.getD (r.getD i 0) 0:=by
 show (I9 _ _ _).getD ((I9 _ _ _).length-1) 0=_;unfold I9;split
 · rw[List.length_append,aK];show ((CD of r i++[of.getD (r.getD i 0) 0])[(CD of r i).length+1-1]?).getD 0=_;rw[Nat.add_sub_cancel,List.getElem?_append_right (ai _),Nat.sub_self];rfl
 · rename_i h;exact Classical.byContradiction fun g=>h (.inr g)
theorem HA(js:List a9)(n:Nat):(tX js (n+1)).getD ((tX js (n+1)).length-1) 0=(n:Int):=by
 have hk:1≤xK (js.getD n default):=by unfold xK;split<;>decide
 show (tX js n++List.replicate (xK (js.getD n default)) (n:Int)).getD _ 0=_
 have e:(tX js (n+1)).length=(tX js n).length+xK (js.getD n default):=by
  show (tX js n++_).length=_;rw[List.length_append,List.length_replicate]
 rw[e,aK,List.getElem?_append_right (by omega),List.getElem?_replicate,if_pos (by omega)];rfl
theorem Bj(v:List NQ)(l:Lkg)(a:Asm){i:Nat}: ∀n,i<n→ ∀r∈rp v l a (l.joints.getD i default),r∈im v l a n
 | n+1,h,r,hr=>by
   rcases Nat.lt_or_ge i n with g | g
   · exact List.mem_append_left _ (Bj v l a n g r hr)
   · obtain rfl:i=n:=by omega
     exact List.mem_append_right _ hr
def ph(j:a9):a9:={j with nm:=⟨#[97,103,97,105,110]⟩}
theorem uR{js:List a9}{x:a9}{i:Nat}(h:i<js.length):(js++[x]).getD i default=js.getD i default:=by
 rw[aK,List.getElem?_append_left h,aK]
theorem rN{js:List a9}{x:a9}:(js++[x]).getD js.length default=x:=by
 rw[aK,List.getElem?_append_right (ai _),Nat.sub_self];rfl
theorem Fh{f:Nat→Bool}: ∀m i,(∀k,i≤k→k<i+m→f k=false)→eP f m i=false
 | 0,_,_=>rfl
 | m+1,i,h=>by
   show (f i||eP f m (i+1))=false;rw[h i (ai _) (by omega),Fh m (i+1) (fun k h1 h2=>h k (by omega) (by omega))];rfl
theorem M6(b:List Body)(j:a9):jE b (ph j)=jE b j:=rfl
theorem M5(v:List NQ)(l:Lkg)(js:List a9)(a:Asm)(j:a9):rp v (uc l js) a (ph j)=rp v l a j:=rfl
theorem Gy{l:Lkg}(h:bA l.bodies l.joints=0){p:Nat}(hp:p<l.joints.length)(h16:l.joints.length<16)(hno: ∀i,i<l.joints.length→(l.joints.getD i default).nm≠⟨#[97,103,97,105,110]⟩):bA l.bodies (l.joints++[ph (l.joints.getD p default)])=0:=by
 obtain ⟨g1,g2⟩:=wi h;have hlen:(l.joints++[ph (l.joints.getD p default)]).length=l.joints.length+1:=List.length_append;refine F2 (by omega) fun i hi=>?_;by_cases h0:i<l.joints.length
 · rw[Af (l2:=l.joints) (fun k hk=>uR (by omega))];exact g2 i h0
 · obtain rfl:i=l.joints.length:=by omega
   have hjp:=g2 p hp;unfold cZ at hjp ⊢;rw[rN,M6]
   have hnm:cU (ph (l.joints.getD p default)).nm=true:=by
    show cU ⟨#[97,103,97,105,110]⟩=true;decide
   rw[if_neg (by rw[hnm];decide)]
   have hd:um (l.joints++[ph (l.joints.getD p default)]) l.joints.length=false:=by
    unfold um;refine Fh _ _ fun k _ hk=>?_;rw[rN,uR (by omega)];exact a7 (hno k (by omega))
   rw[if_neg (by rw[hd];decide)];split at hjp
   · cases hjp
   split at hjp
   · cases hjp
   · exact hjp
theorem xV{l:Lkg}{a:Asm}(A:xS l a){p:Nat}(hp:p<l.joints.length)(h16:l.joints.length<16)(hno: ∀i,i<l.joints.length→(l.joints.getD i default).nm≠⟨#[97,103,97,105,110]⟩):
  xS (uc l (l.joints++[ph (l.joints.getD p default)])) a∧Gj (uc l (l.joints++[ph (l.joints.getD p default)])) a=Gj l a ∧
  (let d:=CD (tX (l.joints++[ph (l.joints.getD p default)]) (l.joints++[ph (l.joints.getD p default)]).length) (oT (a.rt.map au) (fS (uc l (l.joints++[ph (l.joints.getD p default)])) a)) (oT (a.rt.map au) (fS (uc l (l.joints++[ph (l.joints.getD p default)])) a)).length
   0<d.length∧d.getD (d.length-1) 0=(l.joints.length:Int)):=by
 have hj:=Gy (DW (HH A.m)) hp h16 hno
 have A':=A.js hj (fun i=>by
  by_cases hi:i<l.joints.length
  · rw[uR hi];exact A.hl.j i
  · by_cases e:i=l.joints.length
    · rw[e,rN];show (⟨#[97,103,97,105,110]⟩:ByteArray).size≤big;decide
    · rw[aK,List.getElem?_eq_none (by rw[List.length_append];show _+1≤_;omega)]
      exact Nat.zero_le _)
 have hlen:(l.joints++[ph (l.joints.getD p default)]).length=l.joints.length+1:=List.length_append
 have eM:fS (uc l (l.joints++[ph (l.joints.getD p default)])) a=fS l a++rp (a.rt.map au) l a (l.joints.getD p default):=by
  unfold fS;rw[show (uc l (l.joints++[ph (l.joints.getD p default)])).joints.length=l.joints.length+1 from hlen];show im _ _ a l.joints.length++rp _ (uc l _) a ((l.joints++[ph (l.joints.getD p default)]).getD l.joints.length default)=_;rw[vt _ l a _ _ (fun i hi=>uR hi),rN,M5]
 have G:=lP A.O;have G':=lP A'.O;have V:=A.O.V;have hjl:=Ae (a.rt.map au) l a (l.joints.getD p default);have hk1:1≤xK (l.joints.getD p default):=by unfold xK;split<;>decide
 have hmem: ∀r∈rp (a.rt.map au) l a (l.joints.getD p default),r∈fS l a:=Bj _ l a l.joints.length hp
 have hA0:0<(fS l a).length:=by
  rcases hx:rp (a.rt.map au) l a (l.joints.getD p default) with _ | ⟨y,t⟩
  · rw[hx] at hjl;have:0=xK (l.joints.getD p default):=hjl;omega
  · have:=hmem y (by rw[hx];exact List.mem_cons_self ..);exact List.length_pos_of_mem this
 rw[eM] at G';have hrk:=Bs V G' G hA0 hmem;refine⟨A',by unfold Gj;rw[eM];exact hrk,?_⟩
 dsimp only
 have hof:=vQ (a.rt.map au) (uc l (l.joints++[ph (l.joints.getD p default)])) a (l.joints.length+1)
 have jG:(fS (uc l (l.joints++[ph (l.joints.getD p default)])) a).length=(tX (l.joints++[ph (l.joints.getD p default)]) (l.joints.length+1)).length:=by
  rw[show (tX (l.joints++[ph (l.joints.getD p default)]) (l.joints.length+1)).length=_ from hof];unfold fS;rw[show (uc l (l.joints++[ph (l.joints.getD p default)])).joints.length=l.joints.length+1 from hlen]
 obtain ⟨n,hn⟩: ∃n,(fS l a++rp (a.rt.map au) l a (l.joints.getD p default)).length=n+1:=⟨(fS l a++rp (a.rt.map au) l a (l.joints.getD p default)).length-1,by rw[List.length_append];omega⟩
 have hlast:=HP V G' hn (by
  have hn':n=(fS l a).length+(xK (l.joints.getD p default) -1):=by rw[List.length_append,hjl] at hn;omega
  have ht:(fS l a++rp (a.rt.map au) l a (l.joints.getD p default)).take n=fS l a++(rp (a.rt.map au) l a (l.joints.getD p default)).take (xK (l.joints.getD p default) -1):=by
   rw[hn',List.take_append,List.take_of_length_le (by omega),Nat.add_sub_cancel_left]
  have GT:Cy (a.rt.map au) ((fS l a++rp (a.rt.map au) l a (l.joints.getD p default)).take n):=by
   have hcc:bd (fS l a++rp (a.rt.map au) l a (l.joints.getD p default))=bd (fS l a):=by
    unfold bd;rw[aK,List.getElem?_append_left hA0,aK]
   have hct:bd ((fS l a++rp (a.rt.map au) l a (l.joints.getD p default)).take n)=bd (fS l a++rp (a.rt.map au) l a (l.joints.getD p default)):=by
    unfold bd;rw[x4 (show 0<n by omega)]
   have hg: ∀i,i<n→((fS l a++rp (a.rt.map au) l a (l.joints.getD p default)).take n).getD i []=(fS l a++rp (a.rt.map au) l a (l.joints.getD p default)).getD i []:=fun i hi=>x4 hi;have hl32:=G'.l;refine⟨by rw[bb];omega,fun j hj=>?_,by rw[hct];exact G'.c,fun i k=>?_⟩
   · rw[bb] at hj;rw[hg j (by omega),hct];exact G'.r j (by omega)
   · by_cases hi:i<n
     · unfold bm;rw[hg i hi];exact G'.lt i k
     · unfold bm;rw[k7 (by rw[bb];omega)];exact cg _
  rw[ht] at GT ⊢
  rw[Bs V GT G hA0 (fun r hr=>hmem r (List.mem_of_mem_take hr)),hrk])
 rw[← eM] at hlast hn;obtain ⟨t,ht⟩:=hlast;rw[ht];have hl2:(t++[n]).length=t.length+1:=List.length_append;rw[hl2,hlen];refine⟨JD _ _ _,?_⟩;rw[Hi]
 have hg:(t++[n]).getD t.length 0=n:=by
  rw[aK,List.getElem?_append_right (ai _),Nat.sub_self];rfl
 rw[hg,show n=(tX (l.joints++[ph (l.joints.getD p default)]) (l.joints.length+1)).length-1 by omega];exact HA _ _
end Lift
namespace Lift
open Go Go.Proofs
theorem vx{l:Lkg}{a:Asm}(A:xS l a):Pure Tryz.prog 23 [l.D,a.D] (.tu [dI (Gj l a),aQ]):=by
 have h:=nH l a (r:=Gj l a) A.hl A.ha A.S.r2 A.nb (fun _=>EE A.S A.O A.hl A.hb);unfold Bu at h;rw[if_neg (by rw[A.m];simp)] at h;exact h
set_option maxHeartbeats 1600000 in
theorem law24_Twice_ok(l:Lkg)(a:Asm)(pick:Int)(hp0:0≤pick)(hp1:pick≤255){K:Nat}(hl:l.ok K)(hK:K≤big)(ha:AsB a):Pure Tryz.prog 8 [l.D,a.D,.v (.int .u8 pick)] (dB true):=by
 refine qJ 153 Tryz.func8 rfl rfl rfl rfl (by kernel_rfl) (fun B F0 w0=>?_);have cv:=wg l a hl hK ha;refine qX 3 rfl (qI (AW.seq (AW.region (qM rfl iz (qU 4 rfl (qM rfl cv ?_))))));cases hL:(!lp l a&&decide (eU l a=0)) with
 | false =>
   exact qU 14 rfl (ae.nil (AW.aJ rfl (AW.seq (AW.region (qM rfl iz (qU 1 rfl (qN rfl)))))))
 | true =>
 obtain ⟨A,S⟩:=Nw hl ha hL;have hj16:=A.O.G.lk.j16;refine qU 6 rfl ?_;rw[af];refine qU 1 rfl ?_;by_cases hn:l.joints.length=0
 · rw[beq_iff_eq.2 (show (l.joints.length:Int)=0 by omega)];exact qU 7 rfl (ae.nil (AW.aJ rfl (AW.seq (AW.region (qM rfl iz (qU 1 rfl (qN rfl)))))))
 rw[beq_eq_false_iff_ne.2 (show (l.joints.length:Int)≠0 by omega)];refine qU 5 rfl ?_;rw[af];refine qU 1 rfl ?_;by_cases h16:l.joints.length<16;rotate_left
 · rw[aO (show (16:Int)≤(l.joints.length:Int) by omega)];exact qU 1 rfl (ae.nil (AW.aJ rfl (AW.seq (AW.region (qM rfl iz (qU 1 rfl (qN rfl)))))))
 rw[a7 (show ¬(16:Int)≤(l.joints.length:Int) by omega)];have hT:=fun (p:Nat) (hp:p<l.joints.length) hno=>xV A hp h16 hno;have hr:=Hf A;have c1:=Ce A;have k1:=vx A;have hb8:=A.O.G.lk.b8
 have hTw: ∀p,p<l.joints.length→(∀i,i<l.joints.length→(l.joints.getD i default).nm≠⟨#[97,103,97,105,110]⟩)→ ∃d:List Int,Pure Tryz.prog 23 [(uc l (l.joints++[ph (l.joints.getD p default)])).D,a.D] (.tu [dI (Gj l a),aQ])∧Pure Tryz.prog 11 [(uc l (l.joints++[ph (l.joints.getD p default)])).D,a.D] (.tu [dI (3*((l.bodies.length:Int) -1) -(Gj l a:Nat)),aQ])∧Pure Tryz.prog 24 [(uc l (l.joints++[ph (l.joints.getD p default)])).D,a.D] (.tu [.sl 1 (d.map fun n=>dI n),aQ])∧0<d.length∧d.length≤1000000∧d.getD (d.length-1) 0=(l.joints.length:Int):=fun p hp hno=>by
  obtain ⟨A',e1,e2,e3⟩:=xV A hp h16 hno;have r1:=vx A';have r2:=Ce A';rw[e1] at r1 r2;have hl1:=zp (tX (l.joints++[ph (l.joints.getD p default)]) (l.joints++[ph (l.joints.getD p default)]).length) (oT (a.rt.map au) (fS (uc l (l.joints++[ph (l.joints.getD p default)])) a)) (oT (a.rt.map au) (fS (uc l (l.joints++[ph (l.joints.getD p default)])) a)).length;have hl2:=Bo A'.O.V (lP A'.O);have hl3:=(lP A'.O).l;exact⟨_,r1,r2,BT A',e2,Nat.le_trans hl1 (by omega),e3⟩
 generalize Gj l a=rk at *;clear hT A S cv hl ha hL;obtain ⟨ln,lb,js,lds⟩:=l;obtain ⟨rt,bs,md⟩:=a;unfold uc at hTw;simp only[] at *;refine qU 1 rfl (ae.nil (AW.aH rfl (AW.skip (AW.dJ [2,3,4] ?_))));refine AW.conv (σ':=[(2,.d (.v (.int .u8 pick))),(3,.bx [dS ln,aC lb,aB js,ay lds]),(4,.bx [.sl 1 (rt.map bw),.sl 4 (bs.map fu.D),.sl 1 (md.map (fun n=>dI n))])]) rfl ?_;refine qX 3 rfl (qI ?_);have hq:0≤Int.tmod pick js.length∧Int.tmod pick js.length<js.length:=⟨Int.tmod_nonneg _ hp0,Int.tmod_lt_of_pos _ (by omega)⟩;obtain ⟨p,hp⟩: ∃p:Nat,Int.tmod pick js.length=p:=⟨(Int.tmod pick js.length).toNat,by omega⟩;have hpl:p<js.length:=by omega
 have hTw:=hTw p hpl;refine AW.draw aS 11 (by kernel_rfl) ?_;refine qP 7 rfl ?_;rw[af];refine ah.div tok rfl rfl rfl rfl rfl (by omega) ?_;refine ah.idx tok (js.getD p default).D rfl rfl rfl rfl rfl (by rw[aI (by omega) (by omega)];exact hq.1) (by rw[aI (by omega) (by omega),hp,Int.toNat_natCast];exact getM a9.D hpl) ?_;refine qP 2 rfl (ah.nil (qU 1 rfl (ae.nil (AW.dJ [3,4,7,8] ?_))));refine AW.conv (σ':=[(3,.bx [dS ln,aC lb,aB js,ay lds]),(4,.bx [.sl 1 (rt.map bw),.sl 4 (bs.map fu.D),.sl 1 (md.map (fun n=>dI n))]),(7,.bx [dS ln,aC lb,aB js,ay lds]),(8,.bx [dS (js.getD p default).nm,dI (js.getD p default).kind,dI (js.getD p default).a,dI (js.getD p default).pt,dI (js.getD p default).b,dI (js.getD p default).on,dI (js.getD p default).to])]) rfl ?_;refine AW.seq (qX 1 rfl (ae.nil (AW.block ?_)));refine AW.aL [3,4,7,8,9] (fun i:Nat=>[(3,.bx [dS ln,aC lb,aB js,ay lds]),(4,.bx [.sl 1 (rt.map bw),.sl 4 (bs.map fu.D),.sl 1 (md.map (fun n=>dI n))]),(7,.bx [dS ln,aC lb,aB js,ay lds]),(8,.bx [dS (js.getD p default).nm,dI (js.getD p default).kind,dI (js.getD p default).a,dI (js.getD p default).pt,dI (js.getD p default).b,dI (js.getD p default).on,dI (js.getD p default).to]),(9,.d (dI i))]) (fun i=>i≤js.length∧ ∀k,k<i→(js.getD k default).nm≠⟨#[97,103,97,105,110]⟩) (fun i=>js.length-i) 0 rfl ⟨Nat.zero_le _,fun k hk=>absurd hk (Nat.not_lt_zero k)⟩ (fun i ⟨hi,hno⟩=>?_)
 · show AW _ _ _ _ _ _ _ [(3,.bx [dS ln,aC lb,aB js,ay lds]),(4,.bx [.sl 1 (rt.map bw),.sl 4 (bs.map fu.D),.sl 1 (md.map (fun n=>dI n))]),(7,.bx [dS ln,aC lb,aB js,ay lds]),(8,.bx [dS (js.getD p default).nm,dI (js.getD p default).kind,dI (js.getD p default).a,dI (js.getD p default).pt,dI (js.getD p default).b,dI (js.getD p default).on,dI (js.getD p default).to]),(9,.d (dI i))];refine AW.seq (qX 4 rfl ?_);rw[af];refine qU 1 rfl (ae.nil (AW.cond rfl (fun h=>?_) (fun h=>?_)))
   · have hii:i<js.length:=by have:=ao h;omega
     have gj:=getM a9.D (l:=js) (i:=i) hii;refine AW.skip (AW.seq (AW.block (qX 3 rfl (ae.idx tok (js.getD i default).D rfl rfl rfl rfl (aj i) gj ?_))));refine qU 2 rfl (qU 1 rfl (ae.nil ?_));refine AW.cond rfl (fun h2=>?_) (fun h2=>?_)
     · exact qX 1 rfl (qN rfl)
     · have hne:(js.getD i default).nm≠⟨#[97,103,97,105,110]⟩:=fun e=>by rw[e,beq_self_eq_true] at h2;cases h2
       refine AW.skip (qT 2 rfl ?_);rw[aI (x:=(i:Int)+1) (by omega) (by omega)];refine qU 1 rfl (ae.nil ?_);refine⟨i+1,rfl,⟨hii,fun k hk=>?_⟩,by omega⟩;by_cases e:k=i
       · rw[e];exact hne
       · exact hno k (by omega)
   have hii:i=js.length:=by have:=ar h;omega
   subst hii;obtain ⟨d,k2,f2,rd,hd0,hdl,hdn⟩:=hTw hno;refine AW.exit (qX 2 rfl (ae.nil (AW.dJ [3,4,7,8] ?_)));refine AW.conv (σ':=[(3,.bx [dS ln,aC lb,aB js,ay lds]),(4,.bx [.sl 1 (rt.map bw),.sl 4 (bs.map fu.D),.sl 1 (md.map (fun n=>dI n))]),(7,.bx [dS ln,aC lb,aB js,ay lds]),(8,.bx [dS ⟨#[97,103,97,105,110]⟩,dI (js.getD p default).kind,dI (js.getD p default).a,dI (js.getD p default).pt,dI (js.getD p default).b,dI (js.getD p default).on,dI (js.getD p default).to])]) rfl ?_;refine AZ.aw ?_;refine AZ.seq (AZ.region ?_);refine ak.cut 4 rfl (fun B1 F1 w1=>?_);refine qU 3 rfl ?_;refine ae.Ct tok rfl rfl rfl rfl (by show (js.map a9.D).length*64≤_;rw[af];omega) ?_;refine ae.nil ⟨rfl,?_⟩;refine ak.gz 70 rfl rfl rfl (fun V3=>?_);refine ak.to [70,3,4,7,8] [(70,.d (.v V3)),(3,.bx [dS ln,aC lb,aB js,ay lds]),(4,.bx [.sl 1 (rt.map bw),.sl 4 (bs.map fu.D),.sl 1 (md.map (fun n=>dI n))]),(7,.bx [dS ln,aC lb,aB js,ay lds]),(8,.bx [dS ⟨#[97,103,97,105,110]⟩,dI (js.getD p default).kind,dI (js.getD p default).a,dI (js.getD p default).pt,dI (js.getD p default).b,dI (js.getD p default).on,dI (js.getD p default).to])] rfl ?_;refine ak.cut 2 rfl (fun B1 F1 w1=>?_);refine qU 2 rfl (ae.nil ⟨rfl,?_⟩);refine ak.nil ?_;refine AZ.to [3,4,7,8] [(3,.bx [dS ln,aC lb,aB js,ay lds]),(4,.bx [.sl 1 (rt.map bw),.sl 4 (bs.map fu.D),.sl 1 (md.map (fun n=>dI n))]),(7,.bx [dS ln,aC lb,.v V3,ay lds]),(8,.bx [dS ⟨#[97,103,97,105,110]⟩,dI (js.getD p default).kind,dI (js.getD p default).a,dI (js.getD p default).pt,dI (js.getD p default).b,dI (js.getD p default).on,dI (js.getD p default).to])] rfl ?_;refine AZ.seq (AZ.region ?_);refine ak.cut 3 rfl (fun B1 F1 w1=>?_);refine qU 3 rfl (ae.nil ⟨rfl,?_⟩);refine ak.fp 73 0 rfl rfl rfl ?_;refine ak.to [73,74,3,4,7,8] [(73,.ow 41 (js.map a9.D)),(74,.d (ph (js.getD p default)).D),(3,.bx [dS ln,aC lb,aB js,ay lds]),(4,.bx [.sl 1 (rt.map bw),.sl 4 (bs.map fu.D),.sl 1 (md.map (fun n=>dI n))]),(7,.bx [dS ln,aC lb,.v V3,ay lds]),(8,.bx [dS ⟨#[97,103,97,105,110]⟩,dI (js.getD p default).kind,dI (js.getD p default).a,dI (js.getD p default).pt,dI (js.getD p default).b,dI (js.getD p default).on,dI (js.getD p default).to])] rfl ?_;refine ak.cut 2 rfl (fun B1 F1 w1=>?_);refine ae.mX tok rfl rfl rfl rfl rfl ?_;refine ae.lB tok rfl rfl rfl rfl rfl rfl (by show ((js.map a9.D).length+1)*64≤_;rw[af];omega) (by show (js.map a9.D).length+1≤_;rw[af];omega) ?_;refine ae.nil ⟨rfl,?_⟩;refine ak.gz 76 rfl rfl rfl (fun V4=>?_);refine ak.to [76,3,4,7,8] [(76,.d (.v V4)),(3,.bx [dS ln,aC lb,aB js,ay lds]),(4,.bx [.sl 1 (rt.map bw),.sl 4 (bs.map fu.D),.sl 1 (md.map (fun n=>dI n))]),(7,.bx [dS ln,aC lb,.v V3,ay lds]),(8,.bx [dS ⟨#[97,103,97,105,110]⟩,dI (js.getD p default).kind,dI (js.getD p default).a,dI (js.getD p default).pt,dI (js.getD p default).b,dI (js.getD p default).on,dI (js.getD p default).to])] rfl ?_;refine ak.cut 2 rfl (fun B1 F1 w1=>?_);refine qU 2 rfl (ae.nil ⟨rfl,?_⟩);refine ak.DD tok 7 2 1 (xs:=(js++[ph (js.getD p default)]).map a9.D) rfl rfl (by rw[List.map_append];rfl) rfl ?_;refine ak.nil ?_;refine AZ.to [3,4,7] [(3,.bx [dS ln,aC lb,aB js,ay lds]),(4,.bx [.sl 1 (rt.map bw),.sl 4 (bs.map fu.D),.sl 1 (md.map (fun n=>dI n))]),(7,.bx [dS ln,aC lb,aB (js++[ph (js.getD p default)]),ay lds])] rfl ?_;refine AZ.forget ?_;refine AZ.seq (AZ.iK (fun B1 F1 w1=>?_));refine qU 2 rfl (qM rfl k1 (qU 5 rfl (ae.nil ⟨rfl,?_⟩)));refine AZ.seq (AZ.iK (fun B1 F1 w1=>?_));refine qU 2 rfl (qM rfl k2 (qU 5 rfl (ae.nil ⟨rfl,?_⟩)));refine AZ.seq (AZ.iK (fun B1 F1 w1=>?_));refine qU 2 rfl (qM rfl c1 (qU 5 rfl (ae.nil ⟨rfl,?_⟩)));refine AZ.seq (AZ.iK (fun B1 F1 w1=>?_));refine qU 2 rfl (qM rfl f2 (qU 5 rfl (ae.nil ⟨rfl,?_⟩)));refine AZ.seq (AZ.iK (fun B1 F1 w1=>?_));refine qU 2 rfl (qM rfl rd (qU 5 rfl (ae.nil ⟨rfl,?_⟩)));refine AZ.seq ?_;have gd:=H5 (l:=d) (i:=d.length-1) (by omega);rw[hdn] at gd;refine AZ.drw aS 45 (by kernel_rfl) (fun B1 F1 w1=>?_);refine qP 1 rfl (ah.err tok rfl rfl rfl rfl rfl rfl (qP 2 rfl (ah.err tok rfl rfl rfl rfl rfl rfl (qP 3 rfl (ah.err tok rfl rfl rfl rfl rfl rfl (qP 3 rfl (ah.err tok rfl rfl rfl rfl rfl rfl (qP 3 rfl ?_))))))));refine ah.err tok rfl rfl rfl rfl rfl rfl (qP 5 rfl ?_);rw[beq_self_eq_true];refine qP 5 rfl ?_;rw[beq_self_eq_true];refine qP 4 rfl ?_;rw[af];refine qP 1 rfl ?_;rw[aO (show (0:Int)<(d.length:Int) by omega)];refine qP 5 rfl ?_;rw[af];refine qP 1 rfl ?_;rw[aI (x:=(d.length:Int) -1) (by omega) (by omega)];refine ah.idx tok (dI (js.length:Int)) rfl rfl rfl rfl rfl (show (0:Int)≤(d.length:Int) -1 by omega) (by rw[show ((d.length:Int) -1).toNat=d.length-1 by omega];exact gd) ?_;refine qP 4 rfl ?_;rw[af];refine qP 1 rfl ?_;rw[beq_self_eq_true];refine qP 1 rfl (ah.nil (qU 1 rfl (ae.nil ⟨rfl,?_⟩)));exact AZ.ret rfl
end Lift

