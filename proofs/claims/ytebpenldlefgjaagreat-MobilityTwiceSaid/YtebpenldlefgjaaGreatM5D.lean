/- Parts of the proof, one behind the other: the logic, the contracts of the functions that the statement reaches. -/
import Derived.Test.YtebpenldlefgjaaGreatM5C
import Derived.Laws.StructEq
set_option linter.unusedVariables false
set_option linter.unusedSimpArgs false
namespace Lift
open Go Go.Proofs
abbrev pB(a:NQ):Prop:=aE 17300000000000 a
def MM(R:NQ→NQ→NQ)(O:NQ→NQ→Prop)(rt:List NQ)(a b:NQ):Prop :=
 pB a∧pB b∧(a.length≠1→bG a=false→bG b=false →
  (b.length≤a.length / 2→O (a.take (a.length / 2)) b∧O (a.drop (a.length / 2)) b) ∧
  (¬b.length≤a.length / 2→(O (a.take (a.length / 2)) (b.take (a.length / 2))∧O (a.drop (a.length / 2)) (b.drop (a.length / 2))∧O (R (a.drop (a.length / 2)) (b.drop (a.length / 2))) (rt.getD (a.length.log2-1) []) ∧
   O (a.take (a.length / 2)) (b.drop (a.length / 2))∧O (a.drop (a.length / 2)) (b.take (a.length / 2))) ∧
   pB (R (a.take (a.length / 2)) (b.take (a.length / 2)))∧pB (R (R (a.drop (a.length / 2)) (b.drop (a.length / 2))) (rt.getD (a.length.log2-1) []))∧pB (R (a.take (a.length / 2)) (b.drop (a.length / 2)))∧pB (R (a.drop (a.length / 2)) (b.take (a.length / 2)))))
def tW(R:NQ→NQ→NQ)(O:NQ→NQ→Prop)(rt:List NQ)(a b:NQ):Prop:=if a.length<b.length then MM R O rt b a else MM R O rt a b
def BG:Nat→List NQ→NQ→NQ→Prop
 | 0,rt,a,b=>tW (fun _ _=>[]) (fun _ _=>True) rt a b
 | l+1,rt,a,b=>tW (aV l rt) (BG l rt) rt a b
set_option maxHeartbeats 1600000 in
theorem vg{l:Nat}{R:NQ→NQ→NQ}{O:NQ→NQ→Prop}{rt:List NQ}{a b:NQ}(ha:aA l a)(hb:aA l b)(hrt:cP rt)(hl:l≤rt.length)(hl5:rt.length≤10)(hok:tW R O rt a b)
  (hR: ∀l',l=l'+1→ ∀a' b',aA l' a'→aA l' b'→O a' b'→Pure Tryz.prog 128 [ib rt,aq a',aq b'] (aq (R a' b'))∧aA l' (R a' b')):
  Pure Tryz.prog 128 [ib rt,aq a,aq b] (aq (kG (jN R rt) a b)):=by
 refine qJ 100 Tryz.func128 rfl rfl rfl rfl (by kernel_rfl) (fun B F0 w0=>?_);have hla:=ha.len (by omega);have hlb:=hb.len (by omega);unfold tW at hok;refine qX 2 rfl (ae.nil ?_);refine AW.cut [1,2,3] (fun s:NQ×NQ=>[(1,.d (aq s.1)),(2,.d (aq s.2)),(3,.bx [.sl 1 (rt.map aq)])]) (fun s=>jN R rt s.1 s.2=kG (jN R rt) a b∧s.2.length≤s.1.length∧aA l s.1∧aA l s.2∧MM R O rt s.1 s.2) ?_ (fun s hs=>?_)
 · refine qX 4 rfl ?_;rw[af,af];refine qU 1 rfl (ae.nil ?_);unfold kG;by_cases hab:a.length<b.length
   · rw[aO (show (a.length:Int)<(b.length:Int) by omega),if_pos hab];refine AW.aJ rfl (qT 4 rfl (ae.nil ?_));exact⟨(b,a),rfl,rfl,by show a.length≤b.length;omega,hb,ha,by rw[if_pos hab] at hok;exact hok⟩
   · rw[a7 (show ¬(a.length:Int)<(b.length:Int) by omega),if_neg hab];refine AW.aH rfl (AW.skip ?_);exact⟨(a,b),rfl,rfl,by show b.length≤a.length;omega,ha,hb,by rw[if_neg hab] at hok;exact hok⟩
 · obtain ⟨x,y⟩:=s;obtain ⟨hE,hab,ha,hb,sa,sb,hm⟩:=hs;simp only[] at hE hab ha hb sa sb hm;show AW _ _ _ _ _ _ _ [(1,.d (aq x)),(2,.d (aq y)),(3,.bx [.sl 1 (rt.map aq)])];rw[← hE];clear hE;clear hok;generalize x=a at *;generalize y=b at *;have hla:=ha.len (by omega);have hlb:=hb.len (by omega);have cz1:=o6 a sa (by omega) (by omega);have cz2:=o6 b sb (by omega) (by omega);unfold jN;refine AW.seq (AW.block (qX 1 rfl (qM rfl cz1 ?_)));cases hza:bG a with
   | true =>
     rw[if_pos (by rfl)];exact qU 5 rfl (ae.nil (AW.aJ rfl (qX 1 rfl (qN rfl))))
   | false =>
   refine qU 2 rfl (qM rfl cz2 (qU 2 rfl (ae.nil ?_)));cases hzb:bG b with
   | true =>
     rw[if_pos (by rfl)];exact AW.aJ rfl (qX 1 rfl (qN rfl))
   | false =>
   rw[if_neg (by decide)];refine AW.aH rfl (qX 2 rfl ?_);rw[af];refine qU 2 rfl (ae.nil ?_);have hb0:0<b.length:=List.length_pos_iff.2 (kc hzb);have ha0:0<a.length:=List.length_pos_iff.2 (kc hza);by_cases h1:a.length=1
   · rw[if_pos h1,beq_iff_eq.2 (show (a.length:Int)=1 by omega)];have g1:=mV (r:=a) (i:=0) ha0;have g2:=mV (r:=b) (i:=0) hb0;have cm:=uj (Qr (a.getD 0 0)) (Qr (b.getD 0 0)) (iG _ (sa 0)) (iG _ (sb 0)) (by omega);rw[dk,dk] at cm;refine AW.aJ rfl (AW.seq (AW.draw aS 8 (by kernel_rfl) ?_));refine qP 1 rfl (ah.idx tok (Qr (a.getD 0 0)).D rfl rfl rfl rfl rfl (Int.le_refl _) g1 ?_);refine qP 2 rfl (ah.idx tok (Qr (b.getD 0 0)).D rfl rfl rfl rfl rfl (Int.le_refl _) g2 ?_);refine qP 1 rfl (qQ rfl cm (ah.mX tok rfl rfl rfl rfl rfl rfl ?_));exact ah.nil (qU 1 rfl (qN rfl))
   rw[if_neg h1,beq_eq_false_iff_ne.2 (show (a.length:Int)≠1 by omega)];refine AW.aH rfl (AW.skip ?_)
   obtain ⟨i,hi,hla2⟩: ∃i,i≤l∧a.length=2^i:=by
    rcases ha with e | e
    · omega
    · exact e
   have wm:i≠0:=fun e=>h1 (by rw[hla2,e]);obtain ⟨j,rfl⟩: ∃j,i=j+1:=⟨i-1,by omega⟩;obtain ⟨l',rfl⟩: ∃l',l=l'+1:=⟨l-1,by omega⟩;have hj:j≤l':=by omega
   have hR:=fun a' b' h1 h2 h3=>hR l' rfl a' b' h1 h2 h3;obtain ⟨hm1,hm2⟩:=hm h1 hza hzb;obtain ⟨e1,e2,e3⟩:=bF hla2;have hx:aA l' (a.take (a.length / 2)):= .inr ⟨j,hj,e1⟩;have hy:aA l' (a.drop (a.length / 2)):= .inr ⟨j,hj,e2⟩;have hlog:a.length.log2-1=j:=by rw[hla2,Nat.log2_two_pow];omega
   obtain ⟨n,hn⟩: ∃n,n=a.length / 2:=⟨_,rfl⟩
   have hn2:a.length=n+n:=by
    have:2^(j+1)=2^j*2:=Nat.pow_succ ..;omega
   rw[← hn] at e1 e2 e3 hx hy hm1 hm2 ⊢;refine qX 2 rfl ?_;rw[af];refine ae.div tok rfl rfl rfl rfl (by decide) ?_;rw[iP _ (by omega),← hn];refine qU 1 rfl (qI (AW.draw aS 7 (by kernel_rfl) ?_));refine qP 2 rfl ?_;refine ah.hZ tok (a:=a) (a.take n) rfl rfl rfl rfl rfl trivial (aj n) (Nat.zero_le _) (show n≤a.length by omega) rfl ?_;refine qP 2 rfl ?_;refine ah.hZ tok (a:=a) (a.drop n) rfl rfl rfl rfl rfl (aj n) trivial (show n≤a.length by omega) (ai _) (by show (a.take a.length).drop n=_;rw[List.take_length]) ?_;refine qP 1 rfl (ah.nil (qU 1 rfl (qI (qX 2 rfl ?_))));rw[af];refine qU 2 rfl (ae.nil ?_);by_cases h3:b.length≤n
   · rw[if_pos h3,aO (show (b.length:Int)≤(n:Int) by omega)]
     have hb':aA l' b:=by
      rcases hb with e | ⟨i',_,e⟩
      · exact .inl e
      · refine .inr ⟨i',?_,e⟩;rw[e3,e] at h3;have:=iq h3;omega
     have r1:=hR _ _ hx hb' (hm1 h3).1;have r2:=hR _ _ hy hb' (hm1 h3).2;have cj:=k9 (R (a.take n) b) (R (a.drop n) b) n (by omega);refine AW.aJ rfl (AW.seq (AW.draw aS 10 (by kernel_rfl) ?_));refine qP 3 rfl (qQ rfl r1.1 ?_);refine qP 3 rfl (qQ rfl r2.1 ?_);exact qP 1 rfl (qQ rfl cj (ah.nil (qU 1 rfl (qN rfl))))
   rw[if_neg h3,a7 (show ¬(b.length:Int)≤(n:Int) by omega)]
   have hlb2:b.length=2^(j+1):=by
    rcases hb with e | ⟨i',_,e⟩
    · omega
    · rw[e] at h3 hab ⊢;rw[hla2] at hab;rw[e3] at h3;have h4:=iq hab;have h5: ¬i'≤j:=fun h=>h3 (Nat.pow_le_pow_right (by decide) h);rw[show i'=j+1 by omega]
   obtain ⟨f1,f2,f3⟩:=bF hlb2;rw[show b.length / 2=n by omega] at f1 f2;have hu:aA l' (b.take n):= .inr ⟨j,hj,f1⟩;have hv:aA l' (b.drop n):= .inr ⟨j,hj,f2⟩;obtain ⟨⟨o1,o2,o5,o3,o4⟩,z1,z5,z3,z4⟩:=hm2 h3;rw[hlog] at o5 z5;have r1:=hR _ _ hx hu o1;have r2:=hR _ _ hy hv o2;have r3:=hR _ _ hx hv o3;have r4:=hR _ _ hy hu o4;rw[hlog];have hd:aA l' (rt.getD j []):= .inr ⟨j,hj,hrt j (by omega)⟩;have r5:=hR _ _ r2.2 hd o5;have n1:=r1.2.len (by omega);have n3:=r3.2.len (by omega);have n4:=r4.2.len (by omega);have n5:=r5.2.len (by omega);have p1:=ec (R (a.take n) (b.take n)) (R (R (a.drop n) (b.drop n)) (rt.getD j [])) z1 z5 (by omega) (by omega) (by omega);have p2:=ec (R (a.take n) (b.drop n)) (R (a.drop n) (b.take n)) z3 z4 (by omega) (by omega) (by omega);have cj:=k9 (aX (R (a.take n) (b.take n)) (R (R (a.drop n) (b.drop n)) (rt.getD j []))) (aX (R (a.take n) (b.drop n)) (R (a.drop n) (b.take n))) n (by omega);have cl:=fc (fv a) (by rw[af];exact hla2) (by omega);refine AW.aH rfl (AW.skip (AW.seq (AW.draw aS 7 (by kernel_rfl) ?_)));refine qP 2 rfl ?_;refine ah.hZ tok (a:=b) (b.take n) rfl rfl rfl rfl rfl trivial (aj n) (Nat.zero_le _) (show n≤b.length by omega) rfl ?_;refine qP 2 rfl ?_;refine ah.hZ tok (a:=b) (b.drop n) rfl rfl rfl rfl rfl (aj n) trivial (show n≤b.length by omega) (ai _) (by show (b.take b.length).drop n=_;rw[List.take_length]) ?_;refine qP 1 rfl (ah.nil (qU 1 rfl (qI (AW.draw aS 7 (by kernel_rfl) ?_))));refine qP 3 rfl (qQ rfl cl (qP 1 rfl ?_));rw[aI (x:=((j+1:Nat):Int) -1) (by omega) (by omega),show ((j+1:Nat):Int) -1=(j:Int) by omega];refine ah.idx tok (aq (rt.getD j [])) rfl rfl rfl rfl rfl (aj j) (H3 (by omega)) ?_;refine qP 1 rfl (ah.nil (qU 1 rfl (qI (AW.draw aS 12 (by kernel_rfl) ?_))));refine qP 3 rfl (qQ rfl r1.1 ?_);refine qP 4 rfl (qQ rfl r2.1 ?_);refine qP 1 rfl (qQ rfl r5.1 ?_);refine qQ rfl p1 (ah.nil (qU 1 rfl (qI (AW.draw aS 12 (by kernel_rfl) ?_))));refine qP 4 rfl (qQ rfl r3.1 ?_);refine qP 3 rfl (qQ rfl r4.1 ?_);exact qQ rfl p2 (qP 1 rfl (qQ rfl cj (ah.nil (qU 1 rfl (qN rfl)))))
theorem cy: ∀(l:Nat) {rt:List NQ} {a b:NQ},aA l a→aA l b→cP rt→l≤rt.length→rt.length≤10→BG l rt a b→Pure Tryz.prog 128 [ib rt,aq a,aq b] (aq (aV l rt a b))
 | 0,rt,a,b,ha,hb,hrt,hl,hl5,hok=>vg (O:=fun _ _=>True) ha hb hrt hl hl5 hok (fun l' h=>by omega)
 | l+1,rt,a,b,ha,hb,hrt,hl,hl5,hok=>vg (O:=BG l rt) ha hb hrt hl hl5 hok (fun l' e a' b' h1 h2 h3=>by
    obtain rfl:l=l':=by omega
    obtain ⟨K,k1,k2,k3⟩:=x5 a' b' rt
    exact⟨cy l h1 h2 hrt (by omega) hl5 h3,(dw l h1 h2 hrt (by omega) k1 k2 k3).1⟩)
theorem zR{l k:Nat}{R:NQ→NQ→NQ}{O:NQ→NQ→Prop}{rt:List NQ}{a b:NQ}(ha:aA l a)(hb:aA l b)(hab:b.length≤a.length)(hrt:cP rt)(hl:l≤rt.length)(sa:aE k a)(sb:aE k b)(sr:dt k rt)(hk:sT l k≤17300000000000)
  (hR: ∀l',l=l'+1→ ∀a' b' m,k≤m→aA l' a'→aA l' b'→aE m a'→aE m b'→sT l' m≤17300000000000→O a' b'∧aA l' (R a' b')∧aE (sT l' m) (R a' b')):MM R O rt a b:=by
 have hk1:=sa.pos;have h2:=cD l k;refine⟨sa.mono (by omega),sb.mono (by omega),fun h1 hza hzb=>?_⟩;have hb0:0<b.length:=List.length_pos_iff.2 (kc hzb);have ha0:0<a.length:=List.length_pos_iff.2 (kc hza)
 obtain ⟨i,hi,hla⟩: ∃i,i≤l∧a.length=2^i:=by
  rcases ha with e | e
  · omega
  · exact e
 have wm:i≠0:=fun e=>h1 (by rw[hla,e]);obtain ⟨j,rfl⟩: ∃j,i=j+1:=⟨i-1,by omega⟩;obtain ⟨l',rfl⟩: ∃l',l=l'+1:=⟨l-1,by omega⟩;have hj:j≤l':=by omega
 have hR:=fun a' b' m h1 h2 h3 h4 h5=>hR l' rfl a' b' m h1 h2 h3 h4 h5;obtain ⟨e1,e2,e3⟩:=bF hla;have hx:aA l' (a.take (a.length / 2)):= .inr ⟨j,hj,e1⟩;have hy:aA l' (a.drop (a.length / 2)):= .inr ⟨j,hj,e2⟩;have hs0:=cD l' k;have hs1:=cD l' (sT l' k);have hk:sT l' (sT l' k)+sT l' k+1≤17300000000000:=hk;refine⟨fun h3=>?_,fun h3=>?_⟩
 · have hb':aA l' b:=by
    rcases hb with e | ⟨i',_,e⟩
    · exact .inl e
    · refine .inr ⟨i',?_,e⟩;rw[e3,e] at h3;have:=iq h3;omega
   exact⟨(hR _ _ k (ai _) hx hb' (sa.take _) sb (by omega)).1,(hR _ _ k (ai _) hy hb' (sa.drop _) sb (by omega)).1⟩
 have hlb:b.length=2^(j+1):=by
  rcases hb with e | ⟨i',_,e⟩
  · omega
  · rw[e] at h3 hab ⊢;rw[hla] at hab;rw[e3] at h3;have h4:=iq hab;have h5: ¬i'≤j:=fun h=>h3 (Nat.pow_le_pow_right (by decide) h);rw[show i'=j+1 by omega]
 obtain ⟨f1,f2,f3⟩:=bF hlb;rw[show b.length / 2=a.length / 2 by rw[f3,e3]] at f1 f2;have hu:aA l' (b.take (a.length / 2)):= .inr ⟨j,hj,f1⟩;have hv:aA l' (b.drop (a.length / 2)):= .inr ⟨j,hj,f2⟩;have r1:=hR _ _ k (ai _) hx hu (sa.take _) (sb.take _) (by omega);have r2:=hR _ _ k (ai _) hy hv (sa.drop _) (sb.drop _) (by omega);have r3:=hR _ _ k (ai _) hx hv (sa.take _) (sb.drop _) (by omega);have r4:=hR _ _ k (ai _) hy hu (sa.drop _) (sb.take _) (by omega);have hlog:a.length.log2-1=j:=by rw[hla,Nat.log2_two_pow];omega
 have hd:aA l' (rt.getD (a.length.log2-1) []):= .inr ⟨j,hj,by rw[hlog];exact hrt j (by omega)⟩;have r5:=hR _ _ (sT l' k) (by omega) r2.2.1 hd r2.2.2 ((sr _).mono (by omega)) (by omega);exact⟨⟨r1.1,r2.1,r5.1,r3.1,r4.1⟩,r1.2.2.mono (by omega),r5.2.2.mono (by omega),r3.2.2.mono (by omega),r4.2.2.mono (by omega)⟩
theorem pO: ∀(l:Nat) {k:Nat} {rt:List NQ} {a b:NQ},aA l a→aA l b→cP rt→l≤rt.length→aE k a→aE k b→dt k rt→sT l k≤17300000000000→BG l rt a b
 | 0,k,rt,a,b,ha,hb,hrt,hl,sa,sb,sr,hk=>by
   show tW _ _ rt a b;unfold tW;split
   · exact zR hb ha (by omega) hrt hl sb sa sr hk (fun l' h=>by omega)
   · exact zR ha hb (by omega) hrt hl sa sb sr hk (fun l' h=>by omega)
 | l+1,k,rt,a,b,ha,hb,hrt,hl,sa,sb,sr,hk=>by
   show tW (aV l rt) (BG l rt) rt a b;unfold tW
   have ih: ∀l',l+1=l'+1→ ∀a' b' m,k≤m→aA l' a'→aA l' b'→aE m a'→aE m b'→sT l' m≤17300000000000→BG l rt a' b'∧aA l' (aV l rt a' b')∧aE (sT l' m) (aV l rt a' b'):=fun l' e a' b' m hm h1 h2 h3 h4 h5=>by
    obtain rfl:l=l':=by omega
    exact⟨pO l h1 h2 hrt (by omega) h3 h4 (sr.mono hm) h5,dw l h1 h2 hrt (by omega) h3 h4 (sr.mono hm)⟩
   split
   · exact zR hb ha (by omega) hrt hl sb sa sr hk ih
   · exact zR ha hb (by omega) hrt hl sa sb sr hk ih
theorem vd(l:Nat){k:Nat}{rt:List NQ}{a b:NQ}(ha:aA l a)(hb:aA l b)(hrt:cP rt)(hl:l≤rt.length)(hl5:rt.length≤10)(sa:aE k a)(sb:aE k b)(sr:dt k rt)(hk:sT l k≤17300000000000):Pure Tryz.prog 128 [ib rt,aq a,aq b] (aq (aV l rt a b)) :=
 cy l ha hb hrt hl hl5 (pO l ha hb hrt hl sa sb sr (by omega))
end Lift
namespace Lift
open Go Go.Proofs
def fi(l:Nat)(rt:List NQ)(a:NQ):NQ :=
 aX (aV l rt (a.take (a.length / 2)) (a.take (a.length / 2))) (aZ (aV l rt (aV l rt (a.drop (a.length / 2)) (a.drop (a.length / 2))) (rt.getD (a.length.log2-1) [])))
def xw(R:NQ→Int)(N:NQ→NQ)(rt:List NQ)(a:NQ):Int :=
 if a.length=0 then 0 else if a.length=1 then jr (a.getD 0 0) else
 if R (rt.getD (a.length.log2-1) [])=0 then R (a.take (a.length / 2)) else
 if R (a.take (a.length / 2))=R (a.drop (a.length / 2))∨R (a.drop (a.length / 2))=0 then R (a.take (a.length / 2)) else
 if R (a.take (a.length / 2))=0 then R (a.drop (a.length / 2)) else R (a.take (a.length / 2))*R (N a)
def et:Nat→List NQ→NQ→Int
 | 0,rt,a=>xw (fun _=>0) (fun a=>a) rt (aD a)
 | l+1,rt,a=>xw (et l rt) (fi l rt) rt (aD a)
def pP:Nat→Nat→Prop
 | 0,k=>k≤17300000000000
 | l+1,k=>sT (l+1) k≤17300000000000∧pP l (sT (l+1) k)
theorem BH: ∀{l k m:Nat},pP l k→m≤k→pP l m
 | 0,k,m,h,hm=>Nat.le_trans hm h
 | l+1,k,m,h,hm=>⟨Nat.le_trans (uz hm) h.1,BH h.2 (uz hm)⟩
theorem zP: ∀{l k:Nat},pP l k→k≤17300000000000
 | 0,k,h=>h
 | l+1,k,h=>by have:=cD (l+1) k;have:=h.1;omega
theorem ky{l k:Nat}(h:pP (l+1) k):pP l k:=BH h.2 (by have:=cD (l+1) k;omega)
def xW(z:Int):Prop:=z=0∨z=1∨z= -1
theorem l8{x y:Int}(hx:xW x)(hy:xW y):xW (x*y):=by
 unfold xW at *;rcases hx with rfl | rfl | rfl<;>rcases hy with rfl | rfl | rfl<;>decide
theorem Bc{R:NQ→Int}{N:NQ→NQ}{rt:List NQ}{a:NQ}(hR: ∀b,xW (R b)):xW (xw R N rt a):=by
 unfold xw;split
 · exact .inl rfl
 split
 · exact gQ _
 split
 · exact hR _
 split
 · exact hR _
 split
 · exact hR _
 · exact l8 (hR _) (hR _)
theorem oq: ∀(l:Nat) (rt:List NQ) (a:NQ),xW (et l rt a)
 | 0,rt,a=>Bc (fun _=> .inl rfl)
 | l+1,rt,a=>Bc (fun b=>oq l rt b)
theorem zW{l k j:Nat}{rt:List NQ}{a:NQ}(hj:j≤l)(ha:a.length=2^(j+1))(hrt:cP rt)(hl:l<rt.length)(sa:aE k a)(sr:dt k rt):aA l (fi l rt a)∧aE (sT (l+1) k) (fi l rt a):=by
 obtain ⟨e1,e2,e3⟩:=bF ha;have hx:aA l (a.take (a.length / 2)):= .inr ⟨j,hj,e1⟩;have hy:aA l (a.drop (a.length / 2)):= .inr ⟨j,hj,e2⟩;have hlog:a.length.log2-1=j:=by rw[ha,Nat.log2_two_pow];omega
 have hd:aA l (rt.getD j []):= .inr ⟨j,hj,hrt j (by omega)⟩;have h0:=cD l k;have h1:=cD l (sT l k);have r1:=dw l hx hx hrt (by omega) (sa.take _) (sa.take _) sr;have r2:=dw l hy hy hrt (by omega) (sa.drop _) (sa.drop _) sr;have r3:=dw l r2.1 hd hrt (by omega) r2.2 ((sr _).mono (by omega)) (sr.mono (by omega));unfold fi;rw[hlog];refine⟨r1.1.plus r3.1.minus,(r1.2.plus r3.2.minus).mono ?_⟩;show _≤sT l (sT l k)+sT l k+1;omega
def Ly(l:Nat)(rt:List NQ)(a:NQ):Prop :=
 BG l rt (a.take (a.length / 2)) (a.take (a.length / 2))∧BG l rt (a.drop (a.length / 2)) (a.drop (a.length / 2))∧BG l rt (aV l rt (a.drop (a.length / 2)) (a.drop (a.length / 2))) (rt.getD (a.length.log2-1) []) ∧
 pB (aV l rt (a.take (a.length / 2)) (a.take (a.length / 2)))∧pB (aV l rt (aV l rt (a.drop (a.length / 2)) (a.drop (a.length / 2))) (rt.getD (a.length.log2-1) []))
theorem uG{l j:Nat}{rt:List NQ}{a:NQ}(hj:j≤l)(ha:a.length=2^(j+1))(hrt:cP rt)(hl:l<rt.length):aA l (fi l rt a):=by
 obtain ⟨K,k1,_,k3⟩:=x5 a a rt;exact(zW hj ha hrt hl k1 k3).1
theorem fe(l:Nat){rt:List NQ}{a b:NQ}(ha:aA l a)(hb:aA l b)(hrt:cP rt)(hl:l≤rt.length):aA l (aV l rt a b):=by
 obtain ⟨K,k1,k2,k3⟩:=x5 a b rt;exact(dw l ha hb hrt hl k1 k2 k3).1
theorem nc{l j:Nat}{rt:List NQ}{a:NQ}(hj:j≤l)(ha:a.length=2^(j+1))(hrt:cP rt)(hl:l<rt.length)(hl5:rt.length≤10)(hok:Ly l rt a):
  Pure Tryz.prog 87 [ib rt,aq a] (aq (fi l rt a)):=by
 refine qJ 36 Tryz.func87 rfl rfl rfl rfl (by kernel_rfl) (fun B F0 w0=>?_);obtain ⟨e1,e2,e3⟩:=bF ha;have hx:aA l (a.take (a.length / 2)):= .inr ⟨j,hj,e1⟩;have hy:aA l (a.drop (a.length / 2)):= .inr ⟨j,hj,e2⟩;have hlog:a.length.log2-1=j:=by rw[ha,Nat.log2_two_pow];omega
 have hd:aA l (rt.getD j []):= .inr ⟨j,hj,hrt j (by omega)⟩;obtain ⟨o1,o2,o3,z1,z3⟩:=hok;rw[hlog] at o3 z3;have r1:=fe l hx hx hrt (by omega);have r2:=fe l hy hy hrt (by omega);have r3:=fe l r2 hd hrt (by omega);have c1:=cy l hx hx hrt (by omega) hl5 o1;have c2:=cy l hy hy hrt (by omega) hl5 o2;have c3:=cy l r2 hd hrt (by omega) hl5 o3;have n1:=r1.len (by omega);have n3:=r3.len (by omega);have c4:=fA _ z3 (by omega) (by omega);have c5:=ec _ _ z1 z3.minus (by omega) (by omega) (by rw[gy];omega);have cl:=fc (fv a) (by rw[af];exact ha) (by omega);have hp:2^(j+1)≤2^10:=Nat.pow_le_pow_right (by decide) (by omega);unfold fi;rw[hlog];obtain ⟨n,hn⟩: ∃n,n=a.length / 2:=⟨_,rfl⟩;rw[← hn] at e1 e2 e3 hx hy c1 c2 c3 c4 c5 ⊢;refine qX 2 rfl (qK 2 rfl ?_);rw[af];refine ae.div tok rfl rfl rfl rfl (by decide) ?_;rw[iP _ (by omega),← hn];refine qU 1 rfl (qI (AW.draw aS 7 (by kernel_rfl) ?_));refine qP 2 rfl ?_;refine ah.hZ tok (a:=a) (a.take n) rfl rfl rfl rfl rfl trivial (aj n) (Nat.zero_le _) (show n≤a.length by omega) rfl ?_;refine qP 2 rfl ?_;refine ah.hZ tok (a:=a) (a.drop n) rfl rfl rfl rfl rfl (aj n) trivial (show n≤a.length by omega) (ai _) (by show (a.take a.length).drop n=_;rw[List.take_length]) ?_;refine qP 1 rfl (ah.nil (qU 1 rfl (qI (AW.draw aS 19 (by kernel_rfl) ?_))));refine qP 3 rfl (qQ rfl c1 (qP 4 rfl (qQ rfl c2 (qP 3 rfl (qQ rfl cl (qP 1 rfl ?_))))));rw[aI (x:=((j+1:Nat):Int) -1) (by omega) (by omega),show ((j+1:Nat):Int) -1=(j:Int) by omega];refine ah.idx tok (aq (rt.getD j [])) rfl rfl rfl rfl rfl (aj j) (H3 (by omega)) ?_;exact qP 1 rfl (qQ rfl c3 (qQ rfl c4 (qQ rfl c5 (ah.nil (qU 1 rfl (qN rfl))))))
theorem Hw{l k j:Nat}{rt:List NQ}{a:NQ}(hj:j≤l)(ha:a.length=2^(j+1))(hrt:cP rt)(hl:l<rt.length)(sa:aE k a)(sr:dt k rt)(hk:sT (l+1) k≤17300000000000):Ly l rt a:=by
 obtain ⟨e1,e2,e3⟩:=bF ha;have hx:aA l (a.take (a.length / 2)):= .inr ⟨j,hj,e1⟩;have hy:aA l (a.drop (a.length / 2)):= .inr ⟨j,hj,e2⟩;have hlog:a.length.log2-1=j:=by rw[ha,Nat.log2_two_pow];omega
 have hd:aA l (rt.getD j []):= .inr ⟨j,hj,hrt j (by omega)⟩;have h0:=cD l k;have h1:=cD l (sT l k);have hk:sT l (sT l k)+sT l k+1≤17300000000000:=hk;have r1:=dw l hx hx hrt (by omega) (sa.take _) (sa.take _) sr;have r2:=dw l hy hy hrt (by omega) (sa.drop _) (sa.drop _) sr;have r3:=dw l r2.1 hd hrt (by omega) r2.2 ((sr _).mono (by omega)) (sr.mono (by omega));unfold Ly;rw[hlog];exact⟨pO l hx hx hrt (by omega) (sa.take _) (sa.take _) sr (by omega),pO l hy hy hrt (by omega) (sa.drop _) (sa.drop _) sr (by omega),pO l r2.1 hd hrt (by omega) r2.2 ((sr j).mono (by omega)) (sr.mono (by omega)) (by omega),r1.2.mono (by omega),r3.2.mono (by omega)⟩
def MO(O:NQ→Prop)(N:NQ→NQ)(Nk:NQ→Prop)(rt:List NQ)(s:NQ):Prop:=s.length≠0→s.length≠1 →
 O (s.take (s.length / 2))∧O (s.drop (s.length / 2))∧O (rt.getD (s.length.log2-1) [])∧Nk s∧O (N s)
def Hy:Nat→List NQ→NQ→Prop
 | 0,rt,a=>pB a
 | l+1,rt,a=>pB a∧MO (Hy l rt) (fi l rt) (Ly l rt) rt (aD a)
theorem pQ: ∀(l:Nat) {k:Nat} {rt:List NQ} {a:NQ},aA l a→cP rt→l≤rt.length→aE k a→dt k rt→pP l k→Hy l rt a
 | 0,k,rt,a,ha,hrt,hl,sa,sr,hok=>sa.mono (Nat.le_trans hok (by decide))
 | l+1,k,rt,a,ha,hrt,hl,sa,sr,hok=>by
   have hk:=zP hok;refine⟨sa.mono (by omega),fun h0 h1=>?_⟩;obtain ⟨ha,sa⟩:=bh ha sa;generalize aD a=b at ha sa h0 h1 ⊢
   obtain ⟨i,hi,hla⟩: ∃i,i≤l+1∧b.length=2^i:=by
    rcases ha with e | e
    · omega
    · exact e
   have wm:i≠0:=fun e=>h1 (by rw[hla,e]);obtain ⟨j,rfl⟩: ∃j,i=j+1:=⟨i-1,by omega⟩;have hj:j≤l:=by omega
   obtain ⟨e1,e2,e3⟩:=bF hla;have hx:aA l (b.take (b.length / 2)):= .inr ⟨j,hj,e1⟩;have hy:aA l (b.drop (b.length / 2)):= .inr ⟨j,hj,e2⟩;have hlog:b.length.log2-1=j:=by rw[hla,Nat.log2_two_pow];omega
   have hd:aA l (rt.getD (b.length.log2-1) []):= .inr ⟨j,hj,by rw[hlog];exact hrt j (by omega)⟩;have hn:=zW hj hla hrt (by omega) sa sr;have h2:=cD (l+1) k;have h3:=hok.1;exact⟨pQ l hx hrt (by omega) (sa.take _) sr (ky hok),pQ l hy hrt (by omega) (sa.drop _) sr (ky hok),pQ l hd hrt (by omega) (sr _) sr (ky hok),Hw hj hla hrt (by omega) sa sr (by omega),pQ l hn.1 hrt (by omega) hn.2 (sr.mono (by omega)) hok.2⟩
theorem Hy.sz{l:Nat}{rt:List NQ}{a:NQ}(h:Hy l rt a):pB a:=by
 cases l with
 | zero=>exact h
 | succ l=>exact h.1
set_option maxHeartbeats 1600000 in
theorem ye{l:Nat}{R:NQ→Int}{O:NQ→Prop}{N:NQ→NQ}{Nk:NQ→Prop}{rt:List NQ}{a:NQ}(ha:aA l a)(hl5:l≤5)(hrt:cP rt)(hl:l≤rt.length)(hl10:rt.length≤10)(sa:pB a)(hok:l≠0→MO O N Nk rt (aD a))
  (hR: ∀l',l=l'+1→ ∀b,aA l' b→O b→Pure Tryz.prog 45 [ib rt,aq b] (dI (R b))) (hT: ∀b,xW (R b))
  (hN: ∀l',l=l'+1→ ∀b j,j≤l'→b.length=2^(j+1)→Nk b→Pure Tryz.prog 87 [ib rt,aq b] (aq (N b))∧aA l' (N b)):
  Pure Tryz.prog 45 [ib rt,aq a] (dI (xw R N rt (aD a))):=by
 refine qJ 64 Tryz.func45 rfl rfl rfl rfl (by kernel_rfl) (fun B F0 w0=>?_);have cs:=bQ a ha hl5 sa (by omega);obtain ⟨ha,sa⟩:=bh ha sa;generalize aD a=b at cs ha sa hok ⊢;have hlb:=ha.len (by omega);unfold xw;refine qX 2 rfl (qK 1 rfl (qM rfl cs (qU 1 rfl (qI (qX 2 rfl ?_)))));rw[af];refine qU 1 rfl (ae.nil ?_);by_cases h0:b.length=0
 · rw[if_pos h0,h0];exact AW.aJ rfl (qX 1 rfl (qN rfl))
 rw[if_neg h0,beq_eq_false_iff_ne.2 (show (b.length:Int)≠0 by omega)];refine AW.aH rfl (AW.skip (AW.seq (qX 2 rfl ?_)));rw[af];refine qU 1 rfl (ae.nil ?_);by_cases h1:b.length=1
 · have g:=mV (r:=b) (i:=0) (by omega);have cq:=lT (Qr (b.getD 0 0)) (iG _ (sa 0)) (by omega);rw[dk,Em] at cq;rw[if_pos h1,h1];refine AW.aJ rfl (qX 1 rfl (ae.idx tok (Qr (b.getD 0 0)).D rfl rfl rfl rfl (Int.le_refl _) g ?_));exact qU 1 rfl (qM rfl cq (qU 1 rfl (qN rfl)))
 rw[if_neg h1,beq_eq_false_iff_ne.2 (show (b.length:Int)≠1 by omega)];refine AW.aH rfl (AW.skip ?_)
 obtain ⟨i,hi,hla2⟩: ∃i,i≤l∧b.length=2^i:=by
  rcases ha with e | e
  · omega
  · exact e
 have wm:i≠0:=fun e=>h1 (by rw[hla2,e]);obtain ⟨j,rfl⟩: ∃j,i=j+1:=⟨i-1,by omega⟩;obtain ⟨l',rfl⟩: ∃l',l=l'+1:=⟨l-1,by omega⟩;have hj:j≤l':=by omega
 have hR:=hR l' rfl;obtain ⟨o1,o2,o3,o4,o5⟩:=hok (by omega) h0 h1;have hN:=hN l' rfl b j hj hla2 o4;obtain ⟨e1,e2,e3⟩:=bF hla2;have hx:aA l' (b.take (b.length / 2)):= .inr ⟨j,hj,e1⟩;have hy:aA l' (b.drop (b.length / 2)):= .inr ⟨j,hj,e2⟩;have hlog:b.length.log2-1=j:=by rw[hla2,Nat.log2_two_pow];omega
 have hd:aA l' (rt.getD j []):= .inr ⟨j,hj,hrt j (by omega)⟩;rw[hlog] at o3;have r1:=hR _ hx o1;have r2:=hR _ hy o2;have r3:=hR _ hd o3;have r4:=hR _ hN.2 o5;have t1:=hT (b.take (b.length / 2));have t2:=hT (b.drop (b.length / 2));have t4:=l8 t1 (hT (N b));have cn:=hN.1;have cl:=fc (fv b) (by rw[af];exact hla2) (by omega);rw[hlog];obtain ⟨n,hn⟩: ∃n,n=b.length / 2:=⟨_,rfl⟩;rw[← hn] at e1 e2 e3 hx hy r1 r2 t1 t2 t4 ⊢;generalize R (b.take n)=x at r1 t1 t4 ⊢;generalize R (b.drop n)=y at r2 t2 ⊢;generalize R (rt.getD j [])=z at r3 ⊢;generalize R (N b)=u at r4 t4 ⊢;refine qX 2 rfl ?_;rw[af];refine ae.div tok rfl rfl rfl rfl (by decide) ?_;rw[iP _ (by omega),← hn];refine qU 1 rfl (qI (AW.draw aS 10 (by kernel_rfl) ?_));refine qP 3 rfl ?_;refine ah.hZ tok (a:=b) (b.take n) rfl rfl rfl rfl rfl trivial (aj n) (Nat.zero_le _) (show n≤b.length by omega) rfl ?_;refine qQ rfl r1 (qP 3 rfl ?_);refine ah.hZ tok (a:=b) (b.drop n) rfl rfl rfl rfl rfl (aj n) trivial (show n≤b.length by omega) (ai _) (by show (b.take b.length).drop n=_;rw[List.take_length]) ?_;refine qQ rfl r2 (ah.nil (qU 2 rfl (qI (AW.seq (AW.draw aS 10 (by kernel_rfl) ?_)))));refine qP 4 rfl (qQ rfl cl (qP 1 rfl ?_));rw[aI (x:=((j+1:Nat):Int) -1) (by omega) (by omega),show ((j+1:Nat):Int) -1=(j:Int) by omega];refine ah.idx tok (aq (rt.getD j [])) rfl rfl rfl rfl rfl (aj j) (H3 (by omega)) ?_;refine qP 1 rfl (qQ rfl r3 (qP 1 rfl (ah.nil (ae.nil ?_))));by_cases hz:z=0
 · rw[if_pos hz,beq_iff_eq.2 hz];exact AW.aJ rfl (qX 2 rfl (qN rfl))
 rw[if_neg hz,beq_eq_false_iff_ne.2 hz];refine AW.aH rfl (AW.skip (AW.seq (AW.block (qX 3 rfl ?_))));by_cases hxy:x=y
 · rw[if_pos (.inl hxy),beq_iff_eq.2 hxy];exact qU 5 rfl (ae.nil (AW.aJ rfl (qX 2 rfl (qN rfl))))
 rw[beq_eq_false_iff_ne.2 hxy];refine qU 3 rfl ?_;by_cases hy0:y=0
 · rw[if_pos (.inr hy0),beq_iff_eq.2 hy0];exact qU 2 rfl (ae.nil (AW.aJ rfl (qX 2 rfl (qN rfl))))
 rw[if_neg (fun h=>h.elim hxy hy0),beq_eq_false_iff_ne.2 hy0];refine qU 2 rfl (ae.nil (AW.aH rfl (qX 3 rfl (ae.nil ?_))));by_cases hx0:x=0
 · rw[if_pos hx0,beq_iff_eq.2 hx0];exact AW.aJ rfl (qX 2 rfl (qN rfl))
 rw[if_neg hx0,beq_eq_false_iff_ne.2 hx0];refine AW.aH rfl (AW.skip (AW.seq (AW.draw aS 7 (by kernel_rfl) ?_)));refine qP 4 rfl (qQ rfl cn (qQ rfl r4 (qP 1 rfl ?_)));rw[aI (x:=x*u) (by unfold xW at t4;omega) (by unfold xW at t4;omega)];exact ah.nil (qU 1 rfl (qN rfl))
theorem fy: ∀(l:Nat) {rt:List NQ} {a:NQ},aA l a→l≤5→cP rt→l≤rt.length→rt.length≤10→Hy l rt a→Pure Tryz.prog 45 [ib rt,aq a] (dI (et l rt a))
 | 0,rt,a,ha,hl5,hrt,hl,hl10,hok=>ye (O:=fun _=>True) (Nk:=fun _=>True) ha hl5 hrt hl hl10 hok (fun h=>absurd rfl h) (fun l' h=>by omega) (fun _=> .inl rfl) (fun l' h=>by omega)
 | l+1,rt,a,ha,hl5,hrt,hl,hl10,hok=>ye (O:=Hy l rt) (Nk:=Ly l rt) ha hl5 hrt hl hl10 hok.1 (fun _=>hok.2) (fun l' e b h1 h2=>by
    obtain rfl:l=l':=by omega
    exact fy l h1 (by omega) hrt (by omega) hl10 h2) (oq l rt) (fun l' e b j h1 h2 h3=>by
    obtain rfl:l=l':=by omega
    exact⟨nc h1 h2 hrt (by omega) hl10 h3,uG h1 h2 hrt (by omega)⟩)
theorem o7(l:Nat){k:Nat}{rt:List NQ}{a:NQ}(ha:aA l a)(hl5:l≤5)(hrt:cP rt)(hl:l≤rt.length)(hl10:rt.length≤10)(sa:aE k a)(sr:dt k rt)(hok:pP l k):Pure Tryz.prog 45 [ib rt,aq a] (dI (et l rt a)) :=
 fy l ha hl5 hrt hl hl10 (pQ l ha hrt hl sa sr hok)
end Lift
namespace Lift
open Go Go.Proofs
abbrev bw(a:List RD):D:= .sl 3 (a.map RD.D)
abbrev w8(rt:List (List RD)):D:= .ag [.sl 1 (rt.map bw)]
def kX(a:List RD):Bool:=a.all RD.okB
def Dk(m n:Nat):Bool:=(List.range (m+1)).any fun i=>decide (n=2^i)
def b5(m:Nat)(a:List RD):Nat:=if a.length≠0∧Dk m a.length=false then 10 else if kX a=false then 2 else 0
def au(a:List RD):NQ:=a.map RD.val
def wN(k:Nat)(a:List RD):Prop:= ∀i,i<a.length→(a.getD i default).w k
def xl(rt:List (List RD))(k:Nat):Nat:=if (rt.getD k []).length≠2^k then 10 else if b5 k (rt.getD k [])≠0 then b5 k (rt.getD k []) else if et k ((rt.take k).map au) (au (rt.getD k []))<0 then 3 else 0
def dG(rt:List (List RD)):Nat:=if 5<rt.length then 4 else fE (xl rt) (rt.length-0) 0
def kF(rt l:List (List RD)):Nat:=if dG rt≠0 then dG rt else fE (fun i=>b5 rt.length (l.getD i [])) (l.length-0) 0
theorem BJ(a:List RD)(i:Nat):(au a).getD i 0=if i<a.length then (a.getD i default).val else 0:=by
 unfold au;rw[aK,List.getElem?_map,aK];by_cases h:i<a.length
 · rw[if_pos h,bP h];rfl
 · rw[if_neg h,List.getElem?_eq_none (by omega)];rfl
theorem np{a:List RD}{k:Nat}(h:wN k a)(h1:1≤k):aE k (au a):=fun c=>by
 rw[BJ];split
 · rename_i hc;exact cF (h c hc) h1
 · exact oc h1
theorem lO{a:List RD}{k:Nat}(hw:wN k a)(h:kX a=true):bw a=aq (au a):=by
 show D.sl 3 (a.map RD.D)=D.sl 3 (List.map _ (List.map _ a));rw[List.map_map]
 congr 1
 refine List.map_congr_left fun x hx=>?_;obtain ⟨i,hi,rfl⟩:=List.mem_iff_getElem.1 hx;have hi2:=hw i hi;rw[aK,bP hi] at hi2;unfold kX at h;rw[List.all_eq_true] at h;have:=RD.canon hi2 (h _ (List.getElem_mem hi));simp only[Option.getD_some] at this;show (a[i]).D=(Qr (a[i]).val).D;rw[← this]
theorem BL{l:List RD}{i:Nat}(hi:i<l.length)(h:(l.getD i default).okB=false):kX l=false:=Mg hi h
theorem yB{l:List RD}(h: ∀i,i<l.length→(l.getD i default).okB=true):kX l=true:=Kp h
theorem Ac(m i:Nat):Dk m (2^i)=decide (i≤m):=by
 unfold Dk;by_cases h:i≤m
 · rw[aO h,List.any_eq_true];exact⟨i,List.mem_range.2 (by omega),aO rfl⟩
 · rw[a7 h,List.any_eq_false];intro j hj;have hj:=List.mem_range.1 hj;rw[a7]
   · simp
   · intro e;have h1:=iq (Nat.le_of_eq e);omega
theorem JY{m n:Nat}(h: ∀i,n≠2^i):Dk m n=false:=by
 unfold Dk;rw[List.any_eq_false];intro j _;rw[a7 (h j)];simp
theorem HK{m n:Nat}(h:Dk m n=true): ∃i,i≤m∧n=2^i:=by
 unfold Dk at h;rw[List.any_eq_true] at h;obtain ⟨i,h1,h2⟩:=h;exact⟨i,by have:=List.mem_range.1 h1;omega,ao h2⟩
theorem q9{m:Nat}{a:List RD}(h:b5 m a=0):aA m (au a)∧kX a=true:=by
 unfold b5 at h;split at h
 · cases h
 rename_i h1;split at h
 · cases h
 rename_i h2;constructor
 · by_cases h0:a.length=0
   · exact .inl (by unfold au;rw[af];exact h0)
   · have h3:Dk m a.length=true:=by
      cases hv:Dk m a.length
      · exact absurd ⟨h0,hv⟩ h1
      · rfl
     obtain ⟨i,h4,h5⟩:=HK h3;exact .inr ⟨i,h4,by unfold au;rw[af];exact h5⟩
 · cases hv:kX a
   · exact absurd hv h2
   · rfl
def D3(m:Nat)(a:List RD):Prop:= ¬(a.length≠0∧Dk m a.length=false)
theorem zU{m:Nat}{a:List RD}(h:b5 m a=0):D3 m a:=by
 unfold b5 at h;split at h
 · cases h
 · assumption
theorem mH(xs:List D)(a:List RD){k:Nat}(hw:D3 xs.length a→wN k a)(hk:k≤17300000000000)(hl:a.length≤4398046511104)(hx:xs.length≤1000000):Pure Tryz.prog 80 [.ag [.sl 1 xs],bw a] (uM (b5 xs.length a)):=by
 refine qJ 34 Tryz.func80 rfl rfl rfl rfl (by kernel_rfl) (fun B F0 w0=>?_);have hno:=fun i hi=>BL (l:=a) (i:=i) hi;have hyes:=yB (l:=a);unfold b5;generalize kX a=E at hno hyes ⊢;refine qX 2 rfl (ae.nil ?_);refine AW.cut [1] (fun _:Unit=>[(1,.d (bw a))]) (fun _=> ¬(a.length≠0∧Dk xs.length a.length=false)) ?_ (fun _ hs=>?_)
 · refine qX 2 rfl ?_;rw[af];refine qU 1 rfl (ae.nil ?_);by_cases h0:a.length=0
   · rw[h0];refine AW.aH rfl (AW.skip ?_);exact⟨(),rfl,fun h=>h.1 rfl⟩
   rw[aO (show (0:Int)<(a.length:Int) by omega)];refine AW.aJ rfl ?_;by_cases hp: ∃i,a.length=2^i
   · obtain ⟨i,hp⟩:=hp
     have hi:i≤42:=by
      refine iq ?_;rw[← hp];omega
     have cl:=fc (a.map RD.D) (by rw[af];exact hp) (by omega);rw[hp,Ac];refine qX 1 rfl (qM rfl cl (qU 1 rfl (qK 2 rfl ?_)));rw[a7 (show ¬((i:Int)<0) by omega)];refine qU 6 rfl ?_;by_cases hm:i≤xs.length
     · rw[aO hm,a7 (show ¬((xs.length:Int)<(i:Int)) by omega)];refine qU 1 rfl (ae.nil (AW.aH rfl (AW.skip ?_)));exact⟨(),rfl,fun h=>by cases h.2⟩
     · rw[a7 hm,aO (show (xs.length:Int)<(i:Int) by omega),if_pos ⟨by have:=Nat.two_pow_pos i;omega,rfl⟩];exact qU 1 rfl (ae.nil (AW.aJ rfl (qX 2 rfl (qN rfl))))
   · have hp: ∀i,a.length≠2^i:=fun i e=>hp ⟨i,e⟩;have cl:=mI (a.map RD.D) (by rw[af];exact hp) (by rw[af];omega);rw[if_pos ⟨h0,JY hp⟩];exact qX 1 rfl (qM rfl cl (qU 1 rfl (qK 9 rfl (ae.nil (AW.aJ rfl (qX 2 rfl (qN rfl)))))))
 · rw[if_neg hs];have hw:=hw hs;show AW _ _ _ _ _ _ _ [(1,.d (bw a))];refine AW.seq (qX 2 rfl ?_);rw[af];refine qU 1 rfl (ae.nil ?_);refine AW.block (AW.aL [23,24,25] (fun i:Nat=>[(23,.d (bw a)),(24,.d (dI a.length)),(25,.d (dI i))]) (fun i=>i≤a.length∧ ∀j,j<i→(a.getD j default).okB=true) (fun i=>a.length-i) 0 rfl ⟨Nat.zero_le _,fun j hj=>by omega⟩ (fun i ⟨hi,hall⟩=>?_));refine qX 1 rfl (qI (AW.cond rfl (fun h=>?_) (fun h=>?_)))
   · have hii:i<a.length:=by have:=ao h;omega
     have hg:=getM RD.D (l:=a) (i:=i) hii;have hno:=hno i hii;have cv:=ft (a.getD i default) (hw i hii) (by omega);refine AW.skip (AW.seq (AW.block (AW.seq (AW.region (ae.idx tok (a.getD i default).D rfl rfl rfl rfl (aj i) hg ?_)))));refine qU 3 rfl (qK 1 rfl (qM rfl cv (qU 1 rfl ?_)));cases hv:(a.getD i default).okB with
     | false =>
       rw[hno hv,if_pos rfl];exact ae.nil (AW.aJ rfl (qX 2 rfl (qN rfl)))
     | true =>
       refine ae.nil (AW.aH rfl (AW.skip (qT 1 rfl ?_)));rw[aI (x:=(i:Int)+1) (by omega) (by omega)];refine qU 1 rfl (ae.nil ?_)
       exact⟨i+1,rfl,⟨hii,fun j hj=>by
        by_cases e:j=i
        · subst e;exact hv
        · exact hall j (by omega)⟩,by omega⟩
   have hii:i=a.length:=by have:=ar h;omega
   subst hii;rw[hyes hall,if_neg (by simp)];exact AW.exit (qX 1 rfl (qN rfl))
end Lift
namespace Lift
open Go Go.Proofs
theorem GV(rt:List (List RD))(k:Nat):((rt.map bw).take (cV (rt.map bw).length (some (k:Int)))).drop (fU none)=(rt.take k).map bw:=by
 show ((rt.map bw).take k).drop 0=_;rw[List.drop_zero,List.map_take]
theorem pE{rt:List (List RD)}{k m:Nat}(hw: ∀i,i<k→wN m (rt.getD i []))(hk:k≤rt.length)(h: ∀j,j<k→kX (rt.getD j [])=true):(rt.take k).map bw=((rt.take k).map au).map aq:=by
 rw[List.map_map];refine List.map_congr_left fun x hx=>?_;obtain ⟨i,hi,rfl⟩:=List.mem_iff_getElem.1 hx;rw[bb] at hi
 have e:(rt.take k)[i]'(by rw[bb];exact hi)=rt.getD i []:=by
  rw[List.getElem_take,aK,bP (by omega)];rfl
 rw[e];exact lO (hw i (by omega)) (h i (by omega))
theorem qh{rt:List (List RD)}{k i:Nat}(hi:i<k):((rt.take k).map au).getD i []=au (rt.getD i []):=by
 rw[aK,List.getElem?_map,List.getElem?_take_of_lt hi,aK];cases rt[i]? with
 | none=>rfl
 | some x=>rfl
theorem Fo{rt:List (List RD)}{k i:Nat}(hi:k≤i):((rt.take k).map au).getD i []=[]:=by
 rw[aK,List.getElem?_eq_none (by rw[af,bb];omega)];rfl
theorem f'{rt:List (List RD)}{k:Nat}(hk:k≤rt.length):((rt.take k).map au).length=k:=by rw[af,bb];omega
theorem uv{rt:List (List RD)}{k m:Nat}(hw: ∀i,i<k→wN m (rt.getD i []))(h1:1≤m)(hk:k≤rt.length):dt m ((rt.take k).map au):=fun i=>by
 by_cases h:i<k
 · rw[qh h];exact np (hw i (by omega)) h1
 · rw[Fo (by omega)];exact cL h1
theorem HB(a:List RD):(au a).length=a.length:=af ..
theorem iS{rt:List (List RD)}{k:Nat}(h:xl rt k=0):(rt.getD k []).length=2^k∧kX (rt.getD k [])=true∧ ¬et k ((rt.take k).map au) (au (rt.getD k []))<0:=by
 unfold xl at h;split at h
 · cases h
 rename_i h1;split at h
 · rename_i h2;exact absurd h h2
 rename_i h2;split at h
 · cases h
 rename_i h3;exact⟨by omega,(q9 (m:=k) (by omega)).2,h3⟩
theorem l7{rt:List (List RD)}{k:Nat}(hk:k≤rt.length)(h: ∀j,j<k→xl rt j=0):cP ((rt.take k).map au):=fun j hj=>by
 rw[f' hk] at hj;rw[qh hj,HB];exact(iS (h j hj)).1
theorem vP{l m k:Nat}(h:pP l k)(hm:m≤l):pP m k:=by
 induction l with
 | zero=>obtain rfl:m=0:=by omega
         exact h
 | succ l ih =>
   by_cases e:m=l+1
   · rw[e];exact h
   · exact ih (ky h) (by omega)
theorem kp(rt:List (List RD)){m:Nat}(hw: ∀i,i<rt.length→(rt.getD i []).length=2^i→wN m (rt.getD i []))(h1:1≤m)(hl:rt.length≤1000000)(hll: ∀i,i<rt.length→(rt.getD i []).length≤4398046511104)(hok:rt.length≤5→pP rt.length m):Pure Tryz.prog 79 [w8 rt] (uM (dG rt)):=by
 refine qJ 43 Tryz.func79 rfl rfl rfl rfl (by kernel_rfl) (fun B F0 w0=>?_);unfold dG;obtain ⟨E,hE⟩: ∃E,fE (xl rt) (rt.length-0) 0=E:=⟨_,rfl⟩;rw[hE];refine qX 2 rfl (qI (qX 3 rfl ?_));rw[af];refine qU 1 rfl (ae.nil ?_);by_cases h5:5<rt.length
 · rw[if_pos h5,aO (show (5:Int)<(rt.length:Int) by omega)];exact AW.aJ rfl (qX 2 rfl (qN rfl))
 rw[if_neg h5,a7 (show ¬(5:Int)<(rt.length:Int) by omega)];have hok:=hok (by omega);have hm7:=zP hok;refine AW.aH rfl (AW.skip (AW.seq (qX 3 rfl ?_)));rw[af];refine qU 1 rfl (ae.nil ?_);refine AW.block (AW.aL [1,13,14,15] (fun i:Nat=>[(1,.bx [.sl 1 (rt.map bw)]),(13,.d (.sl 1 (rt.map bw))),(14,.d (dI rt.length)),(15,.d (dI i))]) (fun i=>i≤rt.length∧fE (xl rt) (rt.length-i) i=E∧ ∀j,j<i→xl rt j=0) (fun i=>rt.length-i) 0 rfl ⟨Nat.zero_le _,hE,fun j hj=>by omega⟩ (fun i ⟨hi,hiE,hall⟩=>?_));refine qX 1 rfl ?_;refine qI (AW.cond rfl (fun h=>?_) (fun h=>?_));rotate_left
 · have hii: ¬i<rt.length:=by have:=ar h;omega
   rw[e7 hii] at hiE;subst hiE;exact AW.exit (qX 1 rfl (qN rfl))
 have hii:i<rt.length:=by have:=ao h;omega
 have hg:(rt.map bw)[i]?=some (bw (rt.getD i [])):=by simp[hii]
 have hwi:=hw i hii;have hli:=hll i hii;have hmiss:=fun h0:xl rt i=0=>(dh hii h0).symm.trans hiE;have hhit:=fun h0:xl rt i≠0=>(eZ hii h0).symm.trans hiE;have hp:2^i≤2^5:=Nat.pow_le_pow_right (by decide) (by omega);have hrt:xl rt i=if (rt.getD i []).length≠2^i then 10 else if b5 i (rt.getD i [])≠0 then b5 i (rt.getD i []) else if et i ((rt.take i).map au) (au (rt.getD i []))<0 then 3 else 0:=rfl
 refine AW.skip (AW.seq (AW.block (qX 1 rfl (ae.idx tok (bw (rt.getD i [])) rfl rfl rfl rfl (aj i) hg ?_))));refine qU 3 rfl (qI (qX 2 rfl ?_));rw[af];refine qU 2 rfl ?_;rw[A9 (by omega)];refine qU 1 rfl (ae.nil ?_);by_cases e1:(rt.getD i []).length=2^i;rotate_left
 · rw[if_pos e1] at hrt;rw[bne_iff_ne.2 (show (((rt.getD i []).length:Nat):Int)≠((2^i:Nat):Int) by omega)];have:=hhit (by rw[hrt];decide);rw[hrt] at this;subst this;exact AW.aJ rfl (qX 2 rfl (qN rfl))
 rw[if_neg (fun h=>h e1)] at hrt;have hwi:=hwi e1;have cn:=mH ((rt.take i).map bw) (rt.getD i []) (fun _=>hwi) (by omega) hli (by rw[af,bb];omega);rw[af,bb,Nat.min_eq_left hi] at cn;rw[e1,bne_eq_false_iff_eq.2 rfl];refine AW.aH rfl (AW.skip (qX 3 rfl ?_));refine ae.Ej tok rfl rfl rfl rfl trivial (aj i) (Nat.zero_le _) (by show i≤_;rw[af];omega) ?_;rw[GV];refine qU 3 rfl (qI (qX 2 rfl (qM rfl cn (qU 1 rfl (ae.nil ?_)))));rcases e2:b5 i (rt.getD i []) with _ | z
 rotate_left
 · rw[e2,if_pos (Nat.succ_ne_zero z)] at hrt;have:=hhit (by rw[hrt];exact Nat.succ_ne_zero z);rw[hrt] at this;subst this;exact qX 1 rfl (qR rfl rfl (ae.nil (AW.aJ rfl (qX 2 rfl (qN rfl)))))
 rw[if_neg (by rw[e2];simp)] at hrt;obtain ⟨n1,n2⟩:=q9 e2;have cs:=o7 i (k:=m) n1 (by omega) (l7 hi hall) (by rw[f' hi];exact ai _) (by rw[f' hi];omega) (np hwi h1) (uv (fun j hj=>hw j (by omega) (iS (hall j hj)).1) h1 hi) (vP hok hi);have tr:=oq i ((rt.take i).map au) (au (rt.getD i []));rw[show ib ((rt.take i).map au)= .ag [.sl 1 ((rt.take i).map bw)] from by rw[pE (fun j hj=>hw j (by omega) (iS (hall j hj)).1) hi (fun j hj=>(iS (hall j hj)).2.1)],← lO hwi n2] at cs;generalize et i ((rt.take i).map au) (au (rt.getD i []))=s at cs hrt tr;refine qX 1 rfl (qR rfl rfl (ae.nil (AW.aH rfl (AW.skip (qX 2 rfl (qM rfl cs (qU 1 rfl (ae.nil ?_))))))));by_cases e3:s<0
 · rw[if_pos e3] at hrt;rw[aO e3];have:=hhit (by rw[hrt];decide);rw[hrt] at this;subst this;exact AW.aJ rfl (qX 2 rfl (qN rfl))
 rw[if_neg e3] at hrt;rw[a7 e3];refine AW.aH rfl (AW.skip (qT 1 rfl ?_));rw[aI (x:=(i:Int)+1) (by omega) (by omega)];refine qU 1 rfl (ae.nil ?_)
 exact⟨i+1,rfl,⟨hii,hmiss hrt,fun j hj=>by
  by_cases e:j=i
  · rw[e];exact hrt
  · exact hall j (by omega)⟩,by omega⟩
theorem gp(rt l:List (List RD)){m mn:Nat}(hw: ∀i,i<rt.length→(rt.getD i []).length=2^i→wN m (rt.getD i []))(h1:1≤m)(hl:rt.length≤1000000)(hll: ∀i,i<rt.length→(rt.getD i []).length≤4398046511104)(hok:rt.length≤5→pP rt.length m)
  (hlw: ∀i,i<l.length→D3 rt.length (l.getD i [])→wN mn (l.getD i [])) (hl2:l.length≤1000000) (hl3: ∀i,i<l.length→(l.getD i []).length≤4398046511104) (hm:mn≤17300000000000):Pure Tryz.prog 42 [w8 rt,.sl 1 (l.map bw)] (uM (kF rt l)):=by
 refine qJ 27 Tryz.func42 rfl rfl rfl rfl (by kernel_rfl) (fun B F0 w0=>?_);have cC:=kp rt hw h1 hl hll hok;unfold kF;obtain ⟨E,hE⟩: ∃E,fE (fun i=>b5 rt.length (l.getD i [])) (l.length-0) 0=E:=⟨_,rfl⟩;rw[hE];refine qX 2 rfl (qI (qX 1 rfl (qM rfl cC (qU 1 rfl (ae.nil ?_)))));rcases e2:dG rt with _ | z
 rotate_left
 · rw[if_pos (Nat.succ_ne_zero z)];exact qX 1 rfl (qR rfl rfl (ae.nil (AW.aJ rfl (qX 2 rfl (qN rfl)))))
 rw[if_neg (by simp)];refine qX 1 rfl (qR rfl rfl (ae.nil (AW.aH rfl (AW.skip (AW.seq (qX 2 rfl ?_))))));rw[af];refine qU 1 rfl (ae.nil ?_);refine AW.block (AW.aL [2,14,15,16] (fun i:Nat=>[(2,.bx [.sl 1 (rt.map bw)]),(14,.d (.sl 1 (l.map bw))),(15,.d (dI l.length)),(16,.d (dI i))]) (fun i=>i≤l.length∧fE (fun i=>b5 rt.length (l.getD i [])) (l.length-i) i=E) (fun i=>l.length-i) 0 rfl ⟨Nat.zero_le _,hE⟩ (fun i ⟨hi,hiE⟩=>?_));refine qX 1 rfl ?_;refine qI (AW.cond rfl (fun h=>?_) (fun h=>?_));rotate_left
 · have hii: ¬i<l.length:=by have:=ar h;omega
   rw[e7 hii] at hiE;subst hiE;exact AW.exit (qX 1 rfl (qN rfl))
 have hii:i<l.length:=by have:=ao h;omega
 have hg:(l.map bw)[i]?=some (bw (l.getD i [])):=by simp[hii]
 have hmiss:=fun h0:b5 rt.length (l.getD i [])=0=>(dh (f:=fun i=>b5 rt.length (l.getD i [])) hii h0).symm.trans hiE;have hhit:=fun h0:b5 rt.length (l.getD i [])≠0=>(eZ (f:=fun i=>b5 rt.length (l.getD i [])) hii h0).symm.trans hiE;have cn:=mH (rt.map bw) (l.getD i []) (fun h=>hlw i hii (by rw[af] at h;exact h)) hm (hl3 i hii) (by rw[af];omega);rw[af] at cn;refine AW.skip (AW.seq (AW.block (AW.seq (AW.region (ae.idx tok (bw (l.getD i [])) rfl rfl rfl rfl (aj i) hg ?_)))));refine qU 2 rfl (qK 2 rfl (qM rfl cn (qU 1 rfl (ae.nil ?_))));generalize b5 rt.length (l.getD i [])=v at hmiss hhit;rcases v with _ | z
 rotate_left
 · have:=hhit (Nat.succ_ne_zero z);subst this;exact qX 1 rfl (qR rfl rfl (ae.nil (AW.aJ rfl (qX 2 rfl (qN rfl)))))
 refine qX 1 rfl (qR rfl rfl (ae.nil (AW.aH rfl (AW.skip (qT 1 rfl ?_)))));rw[aI (x:=(i:Int)+1) (by omega) (by omega)];refine qU 1 rfl (ae.nil ?_);exact⟨i+1,rfl,⟨hii,hmiss rfl⟩,by omega⟩
theorem rI{rt:List (List RD)}(h:dG rt=0):rt.length≤5∧ ∀j,j<rt.length→xl rt j=0:=by
 unfold dG at h;split at h
 · cases h
 rename_i h1
 have key: ∀(m i:Nat),fE (xl rt) m i=0→ ∀j,i≤j→j<i+m→xl rt j=0:=by
  intro m
  induction m with
  | zero=>intro i _ j h1 h2;omega
  | succ m ih =>
    intro i h j h1 h2;rw[fE] at h;split at h
    · rename_i h0;by_cases e:j=i
      · rw[e];exact h0
      · exact ih (i+1) h j (by omega) (by omega)
    · rename_i h0;exact absurd h h0
 exact⟨by omega,fun j hj=>key _ _ h j (Nat.zero_le _) (by omega)⟩
def GX(rt:List (List RD))(a:List RD):D:=if kF rt [a]≠0 then .tu [dI 0,uM (kF rt [a])] else .tu [dI (et rt.length (rt.map au) (au a)),aQ]
theorem AA{rt:List (List RD)}{a:List RD}(h:kF rt [a]=0):dG rt=0∧b5 rt.length a=0:=by
 unfold kF at h;split at h
 · rename_i h0;exact absurd h h0
 rename_i h0;refine⟨by omega,?_⟩;have e:fE (fun i=>b5 rt.length ([a].getD i [])) ([a].length-0) 0=if b5 rt.length a=0 then 0 else b5 rt.length a:=rfl
 rw[e] at h;split at h
 · assumption
 · rename_i h1;exact absurd h h1
theorem xr(rt:List (List RD))(a:List RD){m:Nat}(hw: ∀i,i<rt.length→(rt.getD i []).length=2^i→wN m (rt.getD i []))(h1:1≤m)(hl:rt.length≤1000000)(hll: ∀i,i<rt.length→(rt.getD i []).length≤4398046511104)(hok:rt.length≤5→pP rt.length m)
  (haw:D3 rt.length a→wN m a) (hal:a.length≤4398046511104) (hm:m≤17300000000000):Pure Tryz.prog 22 [w8 rt,bw a] (GX rt a):=by
 refine qJ 17 Tryz.func22 rfl rfl rfl rfl (by kernel_rfl) (fun B F0 w0=>?_)
 have h0: ∀i,i<[a].length→i=0:=fun i hi=>by
  have:i<1:=hi;omega
 have cc:=gp rt [a] hw h1 hl hll hok (fun i hi=>by rw[h0 i hi];exact haw) (show 1≤1000000 by decide) (fun i hi=>by rw[h0 i hi];exact hal) hm;unfold GX;refine qX 3 rfl (qI (qX 2 rfl (ae.mX tok rfl rfl rfl rfl rfl ?_)));refine qM rfl cc (qU 1 rfl (ae.nil ?_));rcases e2:kF rt [a] with _ | z
 rotate_left
 · rw[if_pos (Nat.succ_ne_zero z)];exact qX 1 rfl (qR rfl rfl (ae.nil (AW.aJ rfl (qX 3 rfl (qN rfl)))))
 rw[if_neg (by simp)];obtain ⟨k1,k2⟩:=AA e2;obtain ⟨k3,k4⟩:=rI k1;obtain ⟨n1,n2⟩:=q9 k2;have vo:=l7 (k:=rt.length) (ai _) k4;have vl:=f' (rt:=rt) (k:=rt.length) (ai _);have vs:=uv (k:=rt.length) (fun j hj=>hw j hj (iS (k4 j hj)).1) h1 (ai _);have vc:=pE (k:=rt.length) (fun j hj=>hw j hj (iS (k4 j hj)).1) (ai _) (fun j hj=>(iS (k4 j hj)).2.1);rw[List.take_length] at vo vl vs vc;have cs:=o7 rt.length (k:=m) n1 k3 vo (by rw[vl];exact ai _) (by rw[vl];omega) (np (haw (zU k2)) h1) vs (hok k3);rw[show ib (rt.map au)= .ag [.sl 1 (rt.map bw)] from by rw[vc],← lO (haw (zU k2)) n2] at cs;exact qX 1 rfl (qR rfl rfl (ae.nil (AW.aH rfl (AW.skip (qX 2 rfl (qM rfl cs (qU 2 rfl (qN rfl))))))))
end Lift
namespace Lift
open Go Go.Proofs
structure qa (m:Nat) (rt:List (List RD)):Prop where
 t: ∃m0,1≤m0∧m0≤m∧(∀i,i<rt.length→(rt.getD i []).length=2^i→wN m0 (rt.getD i []))∧(rt.length≤5→pP rt.length m0)
 m2:m≤1000000
 l:rt.length≤1000000
 ll: ∀i,i<rt.length→(rt.getD i []).length≤4398046511104
theorem qa.m1{m:Nat}{rt:List (List RD)}(T:qa m rt):1≤m:=by
 obtain ⟨m0,h1,h2,_⟩:=T.t;omega
structure kK (m:Nat) (rt:List (List RD)) (a:List RD):Prop where
 w:D3 rt.length a→wN m a
 l:a.length≤4398046511104
theorem DX{m:Nat}{rt:List (List RD)}{a:List RD}(T:qa m rt)(A:kK m rt a):Pure Tryz.prog 42 [w8 rt,.sl 1 [bw a]] (uM (kF rt [a])):=by
 have hm:=T.m2
 have h0: ∀i,i<[a].length→i=0:=fun i hi=>by
  have:i<1:=hi;omega
 obtain ⟨m0,t1,t2,tw,tk⟩:=T.t;exact gp rt [a] tw t1 T.l T.ll tk (fun i hi=>by rw[h0 i hi];exact A.w) (show 1≤1000000 by decide) (fun i hi=>by rw[h0 i hi];exact A.l) (by omega)
theorem p6{m:Nat}{rt:List (List RD)}{a b:List RD}(T:qa m rt)(A:kK m rt a)(B:kK m rt b):Pure Tryz.prog 42 [w8 rt,.sl 1 [bw a,bw b]] (uM (kF rt [a,b])):=by
 have hm:=T.m2
 have h0: ∀i,i<[a,b].length→i=0∨i=1:=fun i hi=>by
  have:i<2:=hi;omega
 obtain ⟨m0,t1,t2,tw,tk⟩:=T.t;exact gp rt [a,b] tw t1 T.l T.ll tk (fun i hi=>by rcases h0 i hi with rfl | rfl;exact A.w;exact B.w) (show 2≤1000000 by decide) (fun i hi=>by rcases h0 i hi with rfl | rfl;exact A.l;exact B.l) (by omega)
theorem Ay{rt:List (List RD)}{a b:List RD}(h:kF rt [a,b]=0):dG rt=0∧b5 rt.length a=0∧b5 rt.length b=0:=by
 unfold kF at h;split at h
 · rename_i h0;exact absurd h h0
 rename_i h0;have e:fE (fun i=>b5 rt.length ([a,b].getD i [])) ([a,b].length-0) 0=if b5 rt.length a=0 then (if b5 rt.length b=0 then 0 else b5 rt.length b) else b5 rt.length a:=rfl
 rw[e] at h;by_cases h1:b5 rt.length a=0
 · rw[if_pos h1] at h;by_cases h2:b5 rt.length b=0
   · exact⟨by omega,h1,h2⟩
   · rw[if_neg h2] at h;exact absurd h h2
 · rw[if_neg h1] at h;exact absurd h h1
structure Oo (m:Nat) (rt:List (List RD)) (v:List NQ):Prop where
 l5:rt.length≤5
 ln:v.length=rt.length
 ro:cP v
 sz:dt m v
 t: ∃m0,1≤m0∧m0≤m∧dt m0 v∧pP rt.length m0
 ps: ∀k,k<v.length→ ¬et k (v.take k) (v.getD k [])<0
 eq:w8 rt=ib v
theorem qi{m:Nat}{rt:List (List RD)}(T:qa m rt)(h:dG rt=0):Oo m rt (rt.map au):=by
 obtain ⟨k3,k4⟩:=rI h;have vo:=l7 (k:=rt.length) (ai _) k4;have vl:=f' (rt:=rt) (k:=rt.length) (ai _);obtain ⟨m0,t1,t2,tw,tk⟩:=T.t;have hw:=fun j hj=>tw j hj (iS (k4 j hj)).1;have vs:=uv (k:=rt.length) hw t1 (ai _);have vc:=pE (k:=rt.length) hw (ai _) (fun j hj=>(iS (k4 j hj)).2.1);rw[List.take_length] at vo vl vs vc;refine⟨k3,vl,vo,vs.mono t2,⟨m0,t1,t2,vs,tk k3⟩,fun k hk=>?_,by show D.ag [.sl 1 (rt.map bw)]=_;rw[vc]⟩;rw[vl] at hk;have:=(iS (k4 k hk)).2.2
 have e:(rt.map au).getD k []=au (rt.getD k []):=by
  rw[aK,List.getElem?_map,aK,bP hk];rfl
 rw[e,← List.map_take];exact this
theorem jM{m:Nat}{rt:List (List RD)}{a:List RD}(m1:1≤m)(A:kK m rt a)(h:b5 rt.length a=0):aA rt.length (au a)∧aE m (au a)∧bw a=aq (au a):=by
 obtain ⟨n1,n2⟩:=q9 h;have w:=A.w (zU h);exact⟨n1,np w m1,lO w n2⟩
def Lx(rt:List (List RD))(a:List RD)(F:NQ→NQ):D:=if kF rt [a]≠0 then .tu [aq [],uM (kF rt [a])] else .tu [aq (F (au a)),aQ]
def zN(rt:List (List RD))(a b:List RD)(F:NQ→NQ→NQ):D:=if kF rt [a,b]≠0 then .tu [aq [],uM (kF rt [a,b])] else .tu [aq (F (au a) (au b)),aQ]
theorem y7{m:Nat}{rt:List (List RD)}{a:List RD}(T:qa m rt)(A:kK m rt a):Pure Tryz.prog 101 [w8 rt,bw a] (Lx rt a (fun x=>aD (aZ x))):=by
 refine qJ 17 Tryz.func101 rfl rfl rfl rfl (by kernel_rfl) (fun B0 F0 w0=>?_);have cc:=DX T A;have hm:=T.m2;unfold Lx;refine qX 3 rfl (qI (qX 2 rfl (ae.mX tok rfl rfl rfl rfl rfl ?_)));refine qM rfl cc (qU 1 rfl (ae.nil ?_));rcases e2:kF rt [a] with _ | z
 rotate_left
 · rw[if_pos (Nat.succ_ne_zero z)];exact qX 1 rfl (qR rfl rfl (ae.nil (AW.aJ rfl (qX 3 rfl (qN rfl)))))
 rw[if_neg (by simp)];obtain ⟨k1,k2⟩:=AA e2;have W:=qi T k1;have hl5:=W.l5;obtain ⟨n1,n2,n3⟩:=jM T.m1 A k2;have c1:=fA (au a) (k:=m) n2 (by omega) (Nat.le_trans (n1.len (by omega)) (by decide));have c2:=bQ (aZ (au a)) n1.minus hl5 n2.minus (by omega);rw[← n3] at c1;refine qX 1 rfl (qR rfl rfl (ae.nil (AW.aH rfl (AW.skip (qX 1 rfl (qM rfl c1 (qM rfl c2 (qU 2 rfl ?_))))))));exact qN rfl
theorem y9{m:Nat}{rt:List (List RD)}{a b:List RD}(T:qa m rt)(A:kK m rt a)(B:kK m rt b):Pure Tryz.prog 21 [w8 rt,bw a,bw b] (zN rt a b (fun x y=>aD (aX x y))):=by
 refine qJ 21 Tryz.func21 rfl rfl rfl rfl (by kernel_rfl) (fun B0 F0 w0=>?_);have cc:=p6 T A B;have hm:=T.m2;unfold zN;refine qX 3 rfl (qI (qX 3 rfl (ae.mX tok rfl rfl rfl rfl rfl ?_)));refine qM rfl cc (qU 1 rfl (ae.nil ?_));rcases e2:kF rt [a,b] with _ | z
 rotate_left
 · rw[if_pos (Nat.succ_ne_zero z)];exact qX 1 rfl (qR rfl rfl (ae.nil (AW.aJ rfl (qX 3 rfl (qN rfl)))))
 rw[if_neg (by simp)];obtain ⟨k1,k2,k3⟩:=Ay e2;have W:=qi T k1;have hl5:=W.l5;obtain ⟨n1,n2,n3⟩:=jM T.m1 A k2;obtain ⟨p1,p2,p3⟩:=jM T.m1 B k3;have c1:=ec (au a) (au b) (k:=m) n2 p2 (by omega) (Nat.le_trans (n1.len (by omega)) (by decide)) (Nat.le_trans (p1.len (by omega)) (by decide));have c2:=bQ (aX (au a) (au b)) (n1.plus p1) hl5 (n2.plus p2) (by omega);rw[← n3,← p3] at c1;refine qX 1 rfl (qR rfl rfl (ae.nil (AW.aH rfl (AW.skip (qX 2 rfl (qM rfl c1 (qM rfl c2 (qU 2 rfl ?_))))))));exact qN rfl
theorem y6{m:Nat}{rt:List (List RD)}{a b:List RD}(T:qa m rt)(A:kK m rt a)(B:kK m rt b):Pure Tryz.prog 105 [w8 rt,bw a,bw b] (zN rt a b (fun x y=>aD (aX x (aZ y)))):=by
 refine qJ 22 Tryz.func105 rfl rfl rfl rfl (by kernel_rfl) (fun B0 F0 w0=>?_);have cc:=p6 T A B;have hm:=T.m2;unfold zN;refine qX 3 rfl (qI (qX 3 rfl (ae.mX tok rfl rfl rfl rfl rfl ?_)));refine qM rfl cc (qU 1 rfl (ae.nil ?_));rcases e2:kF rt [a,b] with _ | z
 rotate_left
 · rw[if_pos (Nat.succ_ne_zero z)];exact qX 1 rfl (qR rfl rfl (ae.nil (AW.aJ rfl (qX 3 rfl (qN rfl)))))
 rw[if_neg (by simp)];obtain ⟨k1,k2,k3⟩:=Ay e2;have W:=qi T k1;have hl5:=W.l5;obtain ⟨n1,n2,n3⟩:=jM T.m1 A k2;obtain ⟨p1,p2,p3⟩:=jM T.m1 B k3;have c0:=fA (au b) (k:=m) p2 (by omega) (Nat.le_trans (p1.len (by omega)) (by decide));have c1:=ec (au a) (aZ (au b)) (k:=m) n2 p2.minus (by omega) (Nat.le_trans (n1.len (by omega)) (by decide)) (Nat.le_trans (p1.minus.len (by omega)) (by decide));have c2:=bQ (aX (au a) (aZ (au b))) (n1.plus p1.minus) hl5 (n2.plus p2.minus) (by omega);rw[← p3] at c0;rw[← n3] at c1;refine qX 1 rfl (qR rfl rfl (ae.nil (AW.aH rfl (AW.skip (qX 2 rfl (qM rfl c0 (qM rfl c1 (qM rfl c2 ?_))))))));exact qU 2 rfl (qN rfl)
theorem y8{m:Nat}{rt:List (List RD)}{a b:List RD}(hsT:sT rt.length m≤17300000000000)(T:qa m rt)(A:kK m rt a)(B:kK m rt b):Pure Tryz.prog 106 [w8 rt,bw a,bw b] (zN rt a b (fun x y=>aD (aV rt.length (rt.map au) x y))):=by
 refine qJ 22 Tryz.func106 rfl rfl rfl rfl (by kernel_rfl) (fun B0 F0 w0=>?_);have cc:=p6 T A B;have hm:=T.m2;unfold zN;refine qX 3 rfl (qI (qX 3 rfl (ae.mX tok rfl rfl rfl rfl rfl ?_)));refine qM rfl cc (qU 1 rfl (ae.nil ?_));rcases e2:kF rt [a,b] with _ | z
 rotate_left
 · rw[if_pos (Nat.succ_ne_zero z)];exact qX 1 rfl (qR rfl rfl (ae.nil (AW.aJ rfl (qX 3 rfl (qN rfl)))))
 rw[if_neg (by simp)];obtain ⟨k1,k2,k3⟩:=Ay e2;have W:=qi T k1;have hl5:=W.l5;obtain ⟨n1,n2,n3⟩:=jM T.m1 A k2;obtain ⟨p1,p2,p3⟩:=jM T.m1 B k3;have ht:=dw rt.length n1 p1 W.ro (by rw[W.ln];exact ai _) n2 p2 W.sz;have c1:=vd rt.length n1 p1 W.ro (by rw[W.ln];exact ai _) (by rw[W.ln];omega) n2 p2 W.sz hsT;have c2:=bQ (aV rt.length (rt.map au) (au a) (au b)) ht.1 hl5 ht.2 (by omega);rw[← n3,← p3,← W.eq] at c1;refine qX 1 rfl (qR rfl rfl (ae.nil (AW.aH rfl (AW.skip (qX 3 rfl (qM rfl c1 (qM rfl c2 (qU 2 rfl ?_))))))));exact qN rfl
def sj(q:Rat):NQ:=if q=0 then [] else [q]
theorem FT(q:Rat):aD [q]=sj q:=by
 show (if 1=0 then [] else iR (Nat.log2 1) [q])=_;rw[if_neg (by decide),show Nat.log2 1=0 by decide];unfold iR sj;show (if bG [q]=true then [] else [q])=_;have:bG [q]=decide (q=0):=by unfold bG;simp
 rw[this];by_cases h:q=0
 · rw[aO h,if_pos rfl,if_pos h]
 · rw[a7 h,if_neg (by simp),if_neg h]
theorem jq(r:RD){k:Nat}(hr:r.w k)(h1:1≤k)(hk:k≤1000000)(ho:r.okB=true):Pure Tryz.prog 102 [r.D] (aq (sj r.val)):=by
 refine qJ 8 Tryz.func102 rfl rfl rfl rfl (by kernel_rfl) (fun B0 F0 w0=>?_);have c1:=mT r (Qr 0) (k:=k) hr (iG _ (by rw[jm];exact h1)) (by omega);have z:=cF hr h1;rw[dk,Rat.add_zero] at c1;have c2:=bQ [r.val] (l:=0) (k:=k) (fb 0 _) (by decide) (gg z) (by omega);rw[FT] at c2;have hz:(Qr 0).D= .ag [dB false,.sl 1 [],.sl 1 []]:=by rw[jl];rfl
 rw[hz] at c1;refine qX 2 rfl (qK 2 rfl (qM rfl c1 (ae.mX tok rfl rfl rfl rfl rfl ?_)));exact qM rfl c2 (qU 1 rfl (qN rfl))
end Lift
namespace Lift
abbrev Cf:=Nat→Rat
def cf(a:NQ):Cf:=fun i=>a.getD i 0
def bE(l:Nat)(a:Cf):Cf:=fun i=>a (2^l+i)
def mulC(rt:List NQ):Nat→Cf→Cf→Cf
 | 0,a,b=>fun i=>if i=0 then a 0*b 0 else 0
 | l+1,a,b=>fun i=>if i<2^l then mulC rt l a b i+mulC rt l (mulC rt l (bE l a) (bE l b)) (cf (rt.getD l [])) i else mulC rt l a (bE l b) (i-2^l)+mulC rt l (bE l a) b (i-2^l)
def bO(l:Nat)(a:Cf):Prop:= ∀i,2^l≤i→a i=0
def jU(l:Nat)(a b:Cf):Prop:= ∀i,i<2^l→a i=b i
theorem bj(rt:List NQ): ∀(l:Nat) (a b:Cf),bO l (mulC rt l a b)
 | 0,a,b=>fun i hi=>by
   have:i≠0:=by have:1≤i:=hi;omega
   show (if i=0 then _ else (0:Rat))=0;rw[if_neg this]
 | l+1,a,b=>fun i hi=>by
   rw[Nat.pow_succ] at hi;have hp:0<2^l:=Nat.pow_pos (by decide);show (if i<2^l then _ else _)=(0:Rat);rw[if_neg (by omega),bj rt l _ _ _ (by omega),bj rt l _ _ _ (by omega),Rat.add_zero]
theorem jU.down{l:Nat}{a b:Cf}(h:jU (l+1) a b):jU l a b:=fun i hi=>h i (by rw[Nat.pow_succ];omega)
theorem jU.hi{l:Nat}{a b:Cf}(h:jU (l+1) a b):jU l (bE l a) (bE l b):=fun i hi=>h _ (by rw[Nat.pow_succ];omega)
theorem jU.tV{l:Nat}{a:Cf}:jU l a a:=fun _ _=>rfl
theorem jU.full{l:Nat}{a b:Cf}(h:jU l a b)(ha:bO l a)(hb:bO l b):a=b:=funext fun i=>by
 by_cases hi:i<2^l
 · exact h i hi
 · rw[ha i (by omega),hb i (by omega)]
theorem bW(rt:List NQ): ∀(l:Nat) {a b a' b':Cf},jU l a a'→jU l b b'→mulC rt l a b=mulC rt l a' b'
 | 0,a,b,a',b',h1,h2=>funext fun i=>by
   show (if i=0 then a 0*b 0 else 0)=(if i=0 then a' 0*b' 0 else 0);rw[h1 0 (by decide),h2 0 (by decide)]
 | l+1,a,b,a',b',h1,h2=>funext fun i=>by
   show (if i<2^l then mulC rt l a b i+mulC rt l (mulC rt l (bE l a) (bE l b)) (cf (rt.getD l [])) i else mulC rt l a (bE l b) (i-2^l)+mulC rt l (bE l a) b (i-2^l))=(if i<2^l then mulC rt l a' b' i+mulC rt l (mulC rt l (bE l a') (bE l b')) (cf (rt.getD l [])) i else mulC rt l a' (bE l b') (i-2^l)+mulC rt l (bE l a') b' (i-2^l));rw[bW rt l h1.down h2.down,bW rt l h1.hi h2.hi,bW rt l h1.down h2.hi,bW rt l h1.hi h2.down]
def zC:Cf:=fun _=>0
theorem bY(rt:List NQ): ∀(l:Nat) {a b:Cf},jU l a zC∨jU l b zC→mulC rt l a b=zC
 | 0,a,b,h=>funext fun i=>by
   show (if i=0 then a 0*b 0 else 0)=0;split
   · rcases h with h | h
     · rw[h 0 (by decide)];exact Rat.zero_mul _
     · rw[h 0 (by decide)];exact Rat.mul_zero _
   · rfl
 | l+1,a,b,h=>funext fun i=>by
   have hz:jU l zC zC:=jU.tV;have r1:mulC rt l a b=zC:=bY rt l (h.imp jU.down jU.down);have r2:mulC rt l (bE l a) (bE l b)=zC:=bY rt l (h.imp jU.hi jU.hi);have r3:mulC rt l a (bE l b)=zC:=bY rt l (h.imp jU.down jU.hi);have r4:mulC rt l (bE l a) b=zC:=bY rt l (h.imp jU.hi jU.down);have r5:mulC rt l zC (cf (rt.getD l []))=zC:=bY rt l (.inl hz);show (if i<2^l then mulC rt l a b i+mulC rt l (mulC rt l (bE l a) (bE l b)) (cf (rt.getD l [])) i else mulC rt l a (bE l b) (i-2^l)+mulC rt l (bE l a) b (i-2^l))=0;rw[r2,r1,r3,r4,r5];show (if i<2^l then (0:Rat)+0 else 0+0)=0;split<;>exact Rat.add_zero 0
theorem kg(rt:List NQ): ∀(l:Nat) (a b:Cf),mulC rt l a b=mulC rt l b a
 | 0,a,b=>funext fun i=>by
   show (if i=0 then a 0*b 0 else 0)=(if i=0 then b 0*a 0 else 0);rw[Rat.mul_comm]
 | l+1,a,b=>funext fun i=>by
   show (if i<2^l then mulC rt l a b i+mulC rt l (mulC rt l (bE l a) (bE l b)) (cf (rt.getD l [])) i else mulC rt l a (bE l b) (i-2^l)+mulC rt l (bE l a) b (i-2^l))=(if i<2^l then mulC rt l b a i+mulC rt l (mulC rt l (bE l b) (bE l a)) (cf (rt.getD l [])) i else mulC rt l b (bE l a) (i-2^l)+mulC rt l (bE l b) a (i-2^l));rw[kg rt l a b,kg rt l (bE l a) (bE l b),kg rt l a (bE l b),kg rt l (bE l a) b,Rat.add_comm (mulC rt l (bE l b) a _)]
theorem bO.mono{l m:Nat}{a:Cf}(h:bO l a)(hl:l≤m):bO m a:=fun i hi=>h i (Nat.le_trans (Nat.pow_le_pow_right (by decide) hl) hi)
theorem bO.wm{l:Nat}{a:Cf}(h:bO l a):bE l a=zC:=funext fun i=>h _ (by omega)
theorem de(rt:List NQ){j:Nat}{a b:Cf}(ha:bO j a)(hb:bO j b): ∀{l:Nat},j≤l→mulC rt l a b=mulC rt j a b:=fun {l} h=>by
 obtain ⟨d,rfl⟩: ∃d,l=j+d:=⟨l-j,by omega⟩;clear h
 induction d with
 | zero=>rfl
 | succ d ih =>
   have ha':bO (j+d) a:=ha.mono (by omega);have hb':bO (j+d) b:=hb.mono (by omega);have hz:jU (j+d) zC zC:=jU.tV;rw[← ih];funext i;show (if i<2^(j+d) then mulC rt (j+d) a b i+mulC rt (j+d) (mulC rt (j+d) (bE (j+d) a) (bE (j+d) b)) (cf (rt.getD (j+d) [])) i else mulC rt (j+d) a (bE (j+d) b) (i-2^(j+d))+mulC rt (j+d) (bE (j+d) a) b (i-2^(j+d)))=_;rw[ha'.wm,hb'.wm,bY rt (j+d) (a:=zC) (b:=zC) (.inl hz),bY rt (j+d) (a:=zC) (.inl hz),bY rt (j+d) (b:=zC) (.inr hz),bY rt (j+d) (a:=zC) (.inl hz)];by_cases hi:i<2^(j+d)
   · rw[if_pos hi];exact Rat.add_zero _
   · rw[if_neg hi,bj rt (j+d) a b i (by omega)];exact Rat.add_zero _
theorem aU{l:Nat}{a:NQ}(h:a.length≤2^l):bO l (cf a):=fun i hi=>gu (by omega)
theorem dY(a b:NQ)(i:Nat):cf (aX a b) i=cf a i+cf b i:=oD a b i
theorem iF(a:NQ)(i:Nat):cf (aZ a) i= -cf a i:=pV a i
theorem uO{a:NQ}(h:bG a=true):cf a=zC:=funext fun i=>by
 unfold bG at h;rw[List.all_eq_true] at h;by_cases hi:i<a.length
 · have:=ao (h a[i] (List.getElem_mem hi));show a.getD i 0=0;rw[aK,bP hi];exact this
 · exact gu (by omega)
theorem Fb{j:Nat}{p q:NQ}(n:Nat)(hn:n=2^j)(hq:q.length≤2^j)(i:Nat):cf (dR p q n) i=if i<2^j then cf p i else cf q (i-2^j):=by
 show (dR p q n).getD i 0=_;rw[oF,hn];by_cases h:i<2^j
 · rw[if_pos h,if_pos h];rfl
 · rw[if_neg h,if_neg h];by_cases h2:i<2^j+2^j
   · rw[if_pos h2];rfl
   · rw[if_neg h2];exact(gu (by omega)).symm
theorem e8{j:Nat}{a:NQ}(n:Nat)(hn:n=2^j):jU j (cf (a.take n)) (cf a):=fun i hi=>by
 show (a.take n).getD i 0=a.getD i 0;rw[mA,if_pos (by omega)]
theorem ji{j:Nat}{a:NQ}(n:Nat)(hn:n=2^j):cf (a.drop n)=bE j (cf a):=funext fun i=>by
 show (a.drop n).getD i 0=a.getD (2^j+i) 0;rw[uL,hn]
theorem z9{l:Nat}{R:NQ→NQ→NQ}{rt:List NQ}{a b:NQ}(ha:aA l a)(hb:aA l b)(hab:b.length≤a.length)(hrt:cP rt)(hl:l≤rt.length)
  (hR: ∀l',l=l'+1→ ∀a' b',aA l' a'→aA l' b'→aA l' (R a' b')∧cf (R a' b')=mulC rt l' (cf a') (cf b')):cf (jN R rt a b)=mulC rt l (cf a) (cf b):=by
 unfold jN;by_cases h0:(bG a||bG b)=true
 · rw[if_pos h0];have:cf ([]:NQ)=zC:=rfl;rw[this,bY];rw[Bool.or_eq_true] at h0;rcases h0 with h | h
   · left;rw[uO h];exact jU.tV
   · right;rw[uO h];exact jU.tV
 rw[if_neg h0];have hz:=fun z:bG a=true=>h0 (by rw[z];rfl);have hz2:=fun z:bG b=true=>h0 (by rw[z,Bool.or_true]);by_cases h1:a.length=1
 · rw[if_pos h1];have lb:b.length≤1:=by omega
   rw[de rt (j:=0) (aU (by rw[h1];exact ai _)) (aU lb) (Nat.zero_le _)];funext i;show [a.getD 0 0*b.getD 0 0].getD i 0=if i=0 then a.getD 0 0*b.getD 0 0 else 0
   cases i with
   | zero=>rfl
   | succ i=>rw[if_neg (by omega)];rfl
 rw[if_neg h1]
 obtain ⟨i,hi,hla⟩: ∃i,i≤l∧a.length=2^i:=by
  rcases ha with e | e
  · exact absurd (by rw[List.length_eq_zero_iff.1 e];rfl) hz
  · exact e
 have wm:i≠0:=fun e=>h1 (by rw[hla,e]);obtain ⟨j,rfl⟩: ∃j,i=j+1:=⟨i-1,by omega⟩;obtain ⟨l',rfl⟩: ∃l',l=l'+1:=⟨l-1,by omega⟩;have hj:j≤l':=by omega
 have hR:=fun a' b' h1 h2=>hR l' rfl a' b' h1 h2;obtain ⟨e1,e2,e3⟩:=bF hla;have hx:aA l' (a.take (a.length / 2)):= .inr ⟨j,hj,e1⟩;have hy:aA l' (a.drop (a.length / 2)):= .inr ⟨j,hj,e2⟩;have la:bO (j+1) (cf a):=aU (by omega);have lb:bO (j+1) (cf b):=aU (by omega);rw[de rt la lb hi]
 have low: ∀{p q:NQ},p.length≤2^j→q.length≤2^j→aA l' p→aA l' q→cf (R p q)=mulC rt j (cf p) (cf q):=fun {p q} hp hq h1 h2=>by
  rw[(hR p q h1 h2).2,de rt (aU hp) (aU hq) hj]
 have lenR: ∀{p q:NQ},p.length≤2^j→q.length≤2^j→aA l' p→aA l' q→bO j (cf (R p q)):=fun {p q} hp hq h1 h2=>by
  rw[low hp hq h1 h2];exact bj rt j _ _
 have tk:=e8 (a:=a) (a.length / 2) e3;have dr:=ji (a:=a) (a.length / 2) e3
 have cj: ∀{p q:NQ},bO j (cf q)→ ∀i,cf (dR p q (a.length / 2)) i=if i<2^j then cf p i else cf q (i-2^j):=fun {p q} hq i=>by
  show (dR p q (a.length / 2)).getD i 0=_;rw[oF,e3];by_cases h:i<2^j
  · rw[if_pos h,if_pos h];rfl
  · rw[if_neg h,if_neg h];by_cases h2:i<2^j+2^j
    · rw[if_pos h2];rfl
    · rw[if_neg h2,hq _ (by omega)]
 by_cases h3:b.length≤a.length / 2
 · rw[if_pos h3]
   have hb':aA l' b:=by
    rcases hb with e | ⟨i',_,e⟩
    · exact .inl e
    · refine .inr ⟨i',?_,e⟩;rw[e3,e] at h3;have:=(Nat.pow_le_pow_iff_right (a:=2) (by decide)).1 h3;omega
   rw[e3] at h3;have lbj:bO j (cf b):=aU h3;funext i;rw[cj (lenR (by omega) h3 hy hb'),low (by omega) h3 hx hb',low (by omega) h3 hy hb',dr,bW rt j tk jU.tV];show _=if i<2^j then mulC rt j (cf a) (cf b) i+mulC rt j (mulC rt j (bE j (cf a)) (bE j (cf b))) (cf (rt.getD j [])) i else mulC rt j (cf a) (bE j (cf b)) (i-2^j)+mulC rt j (bE j (cf a)) (cf b) (i-2^j)
   have hzz:jU j zC zC:=jU.tV;rw[lbj.wm,bY rt j (b:=zC) (.inr hzz),bY rt j (b:=zC) (.inr hzz),bY rt j (a:=zC) (.inl hzz)];by_cases h:i<2^j
   · rw[if_pos h,if_pos h];exact(Rat.add_zero _).symm
   · rw[if_neg h,if_neg h];exact(Rat.zero_add _).symm
 rw[if_neg h3]
 have hlb:b.length=2^(j+1):=by
  rcases hb with e | ⟨i',_,e⟩
  · exact absurd (by rw[List.length_eq_zero_iff.1 e];rfl) hz2
  · rw[e] at h3 hab ⊢;rw[hla] at hab;rw[e3] at h3;have h4:=(Nat.pow_le_pow_iff_right (a:=2) (by decide)).1 hab;have h5: ¬i'≤j:=fun h=>h3 ((Nat.pow_le_pow_iff_right (a:=2) (by decide)).2 h);rw[show i'=j+1 by omega]
 obtain ⟨f1,f2,f3⟩:=bF hlb;rw[show b.length / 2=a.length / 2 by rw[f3,e3]] at f1 f2;have hu:aA l' (b.take (a.length / 2)):= .inr ⟨j,hj,f1⟩;have hv:aA l' (b.drop (a.length / 2)):= .inr ⟨j,hj,f2⟩;have tkb:=e8 (a:=b) (a.length / 2) e3;have drb:=ji (a:=b) (a.length / 2) e3;have hlog:a.length.log2-1=j:=by rw[hla,Nat.log2_two_pow];omega
 rw[hlog];have hdl:(rt.getD j []).length=2^j:=hrt j (by omega);have hd:aA l' (rt.getD j []):= .inr ⟨j,hj,hdl⟩;have Ryv:=hR _ _ hy hv;have lyv:bO j (cf (R (a.drop (a.length / 2)) (b.drop (a.length / 2)))):=lenR (by omega) (by omega) hy hv;have c1:=low (p:=a.take (a.length / 2)) (q:=b.take (a.length / 2)) (by omega) (by omega) hx hu;have c2:=low (p:=a.drop (a.length / 2)) (q:=b.drop (a.length / 2)) (by omega) (by omega) hy hv;have c3:=low (p:=a.take (a.length / 2)) (q:=b.drop (a.length / 2)) (by omega) (by omega) hx hv;have c4:=low (p:=a.drop (a.length / 2)) (q:=b.take (a.length / 2)) (by omega) (by omega) hy hu
 have c5:cf (R (R (a.drop (a.length / 2)) (b.drop (a.length / 2))) (rt.getD j []))=mulC rt j (cf (R (a.drop (a.length / 2)) (b.drop (a.length / 2)))) (cf (rt.getD j [])):=by
  rw[(hR _ _ Ryv.1 hd).2,de rt lyv (aU (by omega)) hj]
 have lq:bO j (cf (aX (R (a.take (a.length / 2)) (b.drop (a.length / 2))) (R (a.drop (a.length / 2)) (b.take (a.length / 2))))):=fun i hi=>by
  rw[dY,c3,c4,bj rt j _ _ i hi,bj rt j _ _ i hi];exact Rat.add_zero _
 funext i;rw[cj lq,dY,dY,c1,c5,c2,c3,c4,dr,drb,bW rt j tk tkb,bW rt j tk jU.tV,bW rt j jU.tV tkb];rfl
theorem fB: ∀(l:Nat) {rt:List NQ} {a b:NQ},aA l a→aA l b→cP rt→l≤rt.length→aA l (aV l rt a b)∧cf (aV l rt a b)=mulC rt l (cf a) (cf b)
 | 0,rt,a,b,ha,hb,hrt,hl=>by
   have key: ∀{a b:NQ},aA 0 a→aA 0 b→b.length≤a.length→aA 0 (jN (fun _ _=>[]) rt a b)∧cf (jN (fun _ _=>[]) rt a b)=mulC rt 0 (cf a) (cf b):=fun {a b} ha hb hab =>
    ⟨by
     unfold jN;split
     · exact cg _
     split
     · exact fb _ _
     · rename_i h0 h1;have:a.length≤1:=ha.le;have:a=[]:=List.length_eq_zero_iff.1 (by omega);subst this
       exact absurd rfl h0,z9 ha hb hab hrt hl (fun l' h=>by omega)⟩
   show aA 0 (kG (jN (fun _ _=>[]) rt) a b)∧cf (kG (jN (fun _ _=>[]) rt) a b)=_;unfold kG;split
   · have:=key hb ha (by omega);exact⟨this.1,by rw[this.2,kg]⟩
   · exact key ha hb (by omega)
 | l+1,rt,a,b,ha,hb,hrt,hl=>by
   have ih: ∀l',l+1=l'+1→ ∀a' b',aA l' a'→aA l' b'→aA l' (aV l rt a' b')∧cf (aV l rt a' b')=mulC rt l' (cf a') (cf b'):=fun l' e a' b' h1 h2=>by
    obtain rfl:l=l':=by omega
    exact fB l h1 h2 hrt (by omega)
   have lt:aA (l+1) (aV (l+1) rt a b):=by
    obtain ⟨K,hK⟩: ∃K,aE K a∧aE K b∧dt K rt:=x5 a b rt;exact(dw (l+1) ha hb hrt hl hK.1 hK.2.1 hK.2.2).1
   refine⟨lt,?_⟩;show cf (kG (jN (aV l rt) rt) a b)=_;unfold kG;split
   · rw[z9 hb ha (by omega) hrt hl ih,kg]
   · exact z9 ha hb (by omega) hrt hl ih
end Lift
namespace Lift
theorem G3:jr 0=0:=db.2 rfl
theorem IE: ∀{i:Nat} {a:NQ},bO i (cf a)→cf (iR i a)=cf a
 | 0,a,h=>by
   unfold iR;by_cases h0:bG (a.take 1)=true
   · rw[if_pos h0];have z:=uO h0;funext c;show (0:Rat)=a.getD c 0;cases c with
     | zero =>
       have:(a.take 1).getD 0 0=0:=congrFun z 0;rw[mA,if_pos (by decide)] at this;exact this.symm
     | succ c=>exact(h (c+1) (by show 1≤c+1;omega)).symm
   · rw[if_neg h0];funext c;show (a.take 1).getD c 0=a.getD c 0;rw[mA];split
     · rfl
     · exact(h c (by show 1≤c;omega)).symm
 | i+1,a,h=>by
   unfold iR;have e:2^(i+1)=2^i*2:=Nat.pow_succ ..;by_cases h0:bG ((a.take (2^(i+1))).drop (2^i))=true
   · rw[if_pos h0];refine IE fun c hc=>?_;by_cases hc2:c<2^(i+1)
     · have:=congrFun (uO h0) (c-2^i);have:((a.take (2^(i+1))).drop (2^i)).getD (c-2^i) 0=0:=this;rw[uL,mA,if_pos (by omega),show 2^i+(c-2^i)=c by omega] at this;exact this
     · exact h c (by omega)
   · rw[if_neg h0];funext c;show (a.take (2^(i+1))).getD c 0=a.getD c 0;rw[mA];split
     · rfl
     · exact(h c (by omega)).symm
theorem bf{l:Nat}{a:NQ}(ha:aA l a):cf (aD a)=cf a:=by
 unfold aD;split
 · rename_i h;rw[List.length_eq_zero_iff.1 h]
 rename_i h0;rcases ha with e | ⟨i,hi,e⟩
 · exact absurd e h0
 rw[e,Nat.log2_two_pow];exact IE (aU (by omega))
theorem bX{l:Nat}{a:NQ}(ha:aA l a):aA l (aD a):=by
 obtain ⟨K,hK⟩:=Ec a;exact(bh ha hK).1
structure w9 (a:NQ):Prop where
 one:a.length=1→a.getD 0 0≠0
 two: ∀i,a.length=2^(i+1)→ ¬bO i (cf a)
theorem xZ:w9 []:=⟨fun h=>absurd h (by decide),fun i h=>by
  have hp:0<2^(i+1):=Nat.pow_pos (by decide);have h:0=2^(i+1):=h
  omega⟩
theorem uV{a:NQ}(h:cf a=zC):bG a=true:=by
 unfold bG;rw[List.all_eq_true];intro x hx;obtain ⟨i,hi,rfl⟩:=List.getElem_of_mem hx;have:=congrFun h i;have:a.getD i 0=0:=this;rw[aK,bP hi] at this;exact aO this
theorem xY: ∀{i:Nat} {a:NQ},a.length=2^i∨2^i≤a.length→w9 (iR i a)
 | 0,a,h=>by
   unfold iR;by_cases h0:bG (a.take 1)=true
   · rw[if_pos h0];exact xZ
   · rw[if_neg h0]
     have hl:(a.take 1).length=1:=by rw[bb];have:1≤a.length:=by rcases h with h | h;(have h:a.length=1:=h;omega);exact h
                                     omega
     refine⟨fun _ e=>h0 (uV (funext fun c=>?_)),fun i h=>?_⟩
     · show (a.take 1).getD c 0=0;cases c with
       | zero=>exact e
       | succ c=>exact gu (by omega)
     · rw[hl,Nat.pow_succ] at h;omega
 | i+1,a,h=>by
   unfold iR;have e:2^(i+1)=2^i*2:=Nat.pow_succ ..;have hp:0<2^i:=Nat.pow_pos (by decide);by_cases h0:bG ((a.take (2^(i+1))).drop (2^i))=true
   · rw[if_pos h0];exact xY (.inr (by omega))
   · rw[if_neg h0];have hl:(a.take (2^(i+1))).length=2^(i+1):=by rw[bb];omega
     refine⟨fun h1=>?_,fun k hk hlow=>h0 (uV (funext fun c=>?_))⟩
     · rw[hl] at h1;omega
     · rw[hl] at hk
       have:k=i:=by
        have h1:=(Nat.pow_le_pow_iff_right (a:=2) (by decide)).1 (Nat.le_of_eq hk);have h2:=(Nat.pow_le_pow_iff_right (a:=2) (by decide)).1 (Nat.le_of_eq hk.symm);omega
       subst this;show ((a.take (2^(k+1))).drop (2^k)).getD c 0=0;rw[uL];exact hlow _ (by omega)
theorem gO{l:Nat}{a:NQ}(ha:aA l a):w9 (aD a):=by
 unfold aD;split
 · exact xZ
 rename_i h0;rcases ha with e | ⟨i,hi,e⟩
 · exact absurd e h0
 rw[e,Nat.log2_two_pow];exact xY (.inl e)
theorem JZ{a b:NQ}(hl:a.length=b.length)(h:cf a=cf b):a=b:=by
 refine List.ext_getElem hl fun i h1 h2=>?_;have:a.getD i 0=b.getD i 0:=congrFun h i;rw[aK,aK,bP h1,bP h2] at this;exact this
theorem GF{l m:Nat}{a b:NQ}(ha:aA l a)(hb:aA m b)(ta:w9 a)(tb:w9 b)(h:cf a=cf b):a=b:=by
 refine JZ ?_ h
 have key: ∀{l m:Nat} {a b:NQ},aA l a→aA m b→w9 b→cf a=cf b→b.length≤a.length:=fun {l m a b} ha hb tb h=>by
  by_cases hlt:b.length≤a.length
  · exact hlt
  exfalso;rcases hb with e | ⟨k,_,e⟩
  · omega
  rcases k with _ | k
  · have h1:b.length=1:=e;have h0:a.length=0:=by omega
    refine tb.one h1 ?_;have:a.getD 0 0=b.getD 0 0:=congrFun h 0;rw[← this];exact gu (by omega)
  · refine tb.two k e ?_;rw[← h];refine aU ?_;rcases ha with e1 | ⟨j,_,e1⟩
    · omega
    · rw[e1,e] at hlt;have: ¬k+1≤j:=fun h=>hlt (Nat.pow_le_pow_right (by decide) h);rw[e1];exact Nat.pow_le_pow_right (by decide) (by omega)
 exact Nat.le_antisymm (key hb ha ta h.symm) (key ha hb tb h)
theorem G0{l m:Nat}{a b:NQ}(ha:aA l a)(hb:aA m b)(h:cf a=cf b):aD a=aD b:=by
 refine GF (bX ha) (bX hb) (gO ha) (gO hb) ?_;rw[bf ha,bf hb,h]
def bp(rt:List NQ)(l:Nat)(a:Cf):Cf:=fun i=>mulC rt l a a i-mulC rt l (mulC rt l (bE l a) (bE l a)) (cf (rt.getD l [])) i
def aY(rt:List NQ):Nat→Cf→Int
 | 0,a=>jr (a 0)
 | l+1,a=>if aY rt l (cf (rt.getD l []))=0 then aY rt l a else if aY rt l a=aY rt l (bE l a)∨aY rt l (bE l a)=0 then aY rt l a else
   if aY rt l a=0 then aY rt l (bE l a) else aY rt l a*aY rt l (bp rt l a)
theorem BN(rt:List NQ){l:Nat}{a b:Cf}(h:jU (l+1) a b):bp rt l a=bp rt l b:=by
 unfold bp;rw[bW rt l h.down h.down,bW rt l h.hi h.hi]
theorem kr(rt:List NQ): ∀(l:Nat) {a b:Cf},jU l a b→aY rt l a=aY rt l b
 | 0,a,b,h=>by show jr (a 0)=jr (b 0);rw[h 0 (by decide)]
 | l+1,a,b,h=>by
   unfold aY;rw[kr rt l h.down,kr rt l h.hi,BN rt h]
theorem dK(rt:List NQ): ∀(l:Nat),aY rt l zC=0
 | 0=>by show jr 0=0;exact G3
 | l+1=>by
   have h:=dK rt l;have h2:aY rt l (bE l zC)=0:=h;unfold aY;rw[h,h2];split
   · rfl
   · rw[if_pos (Or.inl rfl)]
theorem bL(rt:List NQ){j:Nat}{a:Cf}(ha:bO j a): ∀{l:Nat},j≤l→aY rt l a=aY rt j a:=fun {l} h=>by
 obtain ⟨d,rfl⟩: ∃d,l=j+d:=⟨l-j,by omega⟩;clear h
 induction d with
 | zero=>rfl
 | succ d ih =>
   have ha':bO (j+d) a:=ha.mono (by omega);show (if aY rt (j+d) (cf (rt.getD (j+d) []))=0 then aY rt (j+d) a else if aY rt (j+d) a=aY rt (j+d) (bE (j+d) a)∨aY rt (j+d) (bE (j+d) a)=0 then aY rt (j+d) a else if aY rt (j+d) a=0 then aY rt (j+d) (bE (j+d) a) else aY rt (j+d) a*aY rt (j+d) (bp rt (j+d) a))=_;rw[ha'.wm,dK,ih];by_cases hd:aY rt (j+d) (cf (rt.getD (j+d) []))=0
   · rw[if_pos hd]
   · rw[if_neg hd,if_pos (Or.inr rfl)]
theorem rb{l j:Nat}{rt:List NQ}{a:NQ}(hj:j≤l)(ha:a.length=2^(j+1))(hrt:cP rt)(hl:l<rt.length):aA l (fi l rt a)∧cf (fi l rt a)=bp rt j (cf a):=by
 obtain ⟨K,hK⟩: ∃K,aE K a∧aE K a∧dt K rt:=x5 a a rt;refine⟨(zW hj ha hrt hl hK.1 hK.2.2).1,?_⟩;obtain ⟨e1,e2,e3⟩:=bF ha;have hx:aA l (a.take (a.length / 2)):= .inr ⟨j,hj,e1⟩;have hy:aA l (a.drop (a.length / 2)):= .inr ⟨j,hj,e2⟩;have hlog:a.length.log2-1=j:=by rw[ha,Nat.log2_two_pow];omega
 have hdl:(rt.getD j []).length=2^j:=hrt j (by omega);have hd:aA l (rt.getD j []):= .inr ⟨j,hj,hdl⟩;have r1:=fB l hx hx hrt (by omega);have r2:=fB l hy hy hrt (by omega);have r3:=fB l r2.1 hd hrt (by omega);unfold fi bp;rw[hlog];funext i;rw[dY,iF,r1.2,r3.2,r2.2,de rt (aU (by omega)) (aU (by omega)) hj,de rt (aU (a:=a.drop (a.length / 2)) (by omega)) (aU (by omega)) hj,de rt (bj rt j _ _) (aU (by omega)) hj,ji _ e3,bW rt j (e8 _ e3) (e8 _ e3)];exact Rat.sub_eq_add_neg _ _ |>.symm
theorem dP: ∀(l:Nat) {rt:List NQ} {a:NQ},aA l a→cP rt→l≤rt.length→et l rt a=aY rt l (cf a)
 | 0,rt,a,ha,hrt,hl=>by
   have hs:=bX ha;have hc:=bf ha;show xw (fun _=>0) (fun a=>a) rt (aD a)=jr (cf a 0);rw[← hc];generalize aD a=s at hs;unfold xw;rcases hs with e | ⟨i,hi,e⟩
   · rw[if_pos e,List.length_eq_zero_iff.1 e];show 0=jr 0;rw[G3]
   · obtain rfl:i=0:=by omega
     have e:s.length=1:=e;rw[if_neg (by omega),if_pos e];rfl
 | l+1,rt,a,ha,hrt,hl=>by
   have hs:=bX ha;have hc:=bf ha;show xw (et l rt) (fi l rt) rt (aD a)=aY rt (l+1) (cf a);rw[← hc];generalize aD a=s at hs;clear hc ha;unfold xw;by_cases h0:s.length=0
   · rw[if_pos h0,List.length_eq_zero_iff.1 h0];exact(dK rt (l+1)).symm
   rw[if_neg h0];by_cases h1:s.length=1
   · rw[if_pos h1,bL rt (j:=0) (aU (by rw[h1];exact ai _)) (Nat.zero_le _)];rfl
   rw[if_neg h1]
   obtain ⟨j,hj,hsl⟩: ∃j,j≤l∧s.length=2^(j+1):=by
    rcases hs with e | ⟨i,hi,e⟩
    · exact absurd e h0
    · rcases i with _ | j
      · exact absurd e h1
      · exact⟨j,by omega,e⟩
   obtain ⟨e1,e2,e3⟩:=bF hsl;have hx:aA l (s.take (s.length / 2)):= .inr ⟨j,hj,e1⟩;have hy:aA l (s.drop (s.length / 2)):= .inr ⟨j,hj,e2⟩;have hlog:s.length.log2-1=j:=by rw[hsl,Nat.log2_two_pow];omega
   have hdl:(rt.getD j []).length=2^j:=hrt j (by omega);have hd:aA l (rt.getD j []):= .inr ⟨j,hj,hdl⟩;have hn:=rb hj hsl hrt (by omega)
   have lowN:bO j (bp rt j (cf s)):=fun i hi=>by
    unfold bp;rw[bj rt j _ _ i hi,bj rt j _ _ i hi];exact Rat.sub_self
   rw[hlog,dP l hd hrt (by omega),dP l hx hrt (by omega),dP l hy hrt (by omega),dP l hn.1 hrt (by omega),hn.2,ji _ e3,
    bL rt (aU (a:=rt.getD j []) (by omega)) hj,bL rt (aU (a:=s.take (s.length / 2)) (by omega)) hj,bL rt lowN hj,kr rt j (e8 _ e3)]
   have lh:bO j (bE j (cf s)):=fun i hi=>(aU (l:=j+1) (by omega)) _ (by rw[Nat.pow_succ];omega);rw[bL rt lh hj,bL rt (a:=cf s) (j:=j+1) (l:=l+1) (aU (by omega)) (by omega)];rfl
end Lift
namespace Lift
def kR(R:NQ→NQ→NQ)(rt:List NQ)(a b:NQ):NQ :=
 if a.length=0∨b.length=0 then [] else if max a.length b.length=1 then [a.getD 0 0*b.getD 0 0] else
 dR (aX (R ((bo a (max a.length b.length)).take (max a.length b.length / 2)) ((bo b (max a.length b.length)).take (max a.length b.length / 2)))
   (R (R ((bo a (max a.length b.length)).drop (max a.length b.length / 2)) ((bo b (max a.length b.length)).drop (max a.length b.length / 2))) (rt.getD ((max a.length b.length).log2-1) [])))
  (aX (R ((bo a (max a.length b.length)).take (max a.length b.length / 2)) ((bo b (max a.length b.length)).drop (max a.length b.length / 2)))
   (R ((bo a (max a.length b.length)).drop (max a.length b.length / 2)) ((bo b (max a.length b.length)).take (max a.length b.length / 2)))) (max a.length b.length / 2)
def gq:Nat→List NQ→NQ→NQ→NQ
 | 0,rt,a,b=>kR (fun _ _=>[]) rt (aD a) (aD b)
 | l+1,rt,a,b=>kR (gq l rt) rt (aD a) (aD b)
theorem E8{l:Nat}{a:NQ}(n:Nat)(ha:a.length≤n):cf (bo a n)=cf a:=funext fun i=>by
 show (bo a n).getD i 0=a.getD i 0;rw[gK];split
 · rfl
 · exact(gu (by omega)).symm
theorem Bm{l:Nat}{R:NQ→NQ→NQ}{rt:List NQ}{a b:NQ}(ha:aA l a)(hb:aA l b)(hrt:cP rt)(hl:l≤rt.length)
  (hR: ∀l',l=l'+1→ ∀a' b',aA l' a'→aA l' b'→aA l' (R a' b')∧cf (R a' b')=mulC rt l' (cf a') (cf b')):aA l (kR R rt a b)∧cf (kR R rt a b)=mulC rt l (cf a) (cf b):=by
 have cz: ∀{x:NQ},x.length=0→cf x=zC:=fun {x} h=>by rw[List.length_eq_zero_iff.1 h];rfl
 unfold kR;by_cases h0:a.length=0∨b.length=0
 · rw[if_pos h0];refine⟨cg _,?_⟩;rw[bY rt l (h0.imp (fun h=>by rw[cz h];exact jU.tV) (fun h=>by rw[cz h];exact jU.tV))];rfl
 rw[if_neg h0];by_cases h1:max a.length b.length=1
 · rw[if_pos h1];refine⟨fb _ _,?_⟩;rw[de rt (j:=0) (aU (show a.length≤1 by omega)) (aU (show b.length≤1 by omega)) (Nat.zero_le _)];funext i;show [a.getD 0 0*b.getD 0 0].getD i 0=if i=0 then a.getD 0 0*b.getD 0 0 else 0
   cases i with
   | zero=>rfl
   | succ i=>rw[if_neg (by omega)];rfl
 rw[if_neg h1]
 obtain ⟨i,hi,hn⟩: ∃i,i≤l∧max a.length b.length=2^i:=by
  rcases ha with e | ⟨i,hi,e⟩
  · exact absurd (.inl e) h0
  rcases hb with e2 | ⟨k,hk,e2⟩
  · exact absurd (.inr e2) h0
  by_cases h:a.length≤b.length
  · exact⟨k,hk,by rw[Nat.max_eq_right h,e2]⟩
  · exact⟨i,hi,by rw[Nat.max_eq_left (by omega),e]⟩
 have wm:i≠0:=fun e=>h1 (by rw[hn,e]);obtain ⟨j,rfl⟩: ∃j,i=j+1:=⟨i-1,by omega⟩;obtain ⟨l',rfl⟩: ∃l',l=l'+1:=⟨l-1,by omega⟩;have hj:j≤l':=by omega
 have hR:=fun a' b' h1 h2=>hR l' rfl a' b' h1 h2;have ca:=E8 (l:=l') (max a.length b.length) (Nat.le_max_left a.length b.length);have cb:=E8 (l:=l') (max a.length b.length) (Nat.le_max_right a.length b.length);have wa:=bK a (max a.length b.length);have wb:=bK b (max a.length b.length);rw[← ca,← cb];generalize bo a (max a.length b.length)=A at *;generalize bo b (max a.length b.length)=B at *;generalize max a.length b.length=n at *;subst hn;have e0:=lM j;have hlog:(2^(j+1)).log2-1=j:=by rw[Nat.log2_two_pow];omega
 rw[e0,hlog];obtain ⟨e1,e2,e3⟩:=bF wa;obtain ⟨f1,f2,f3⟩:=bF wb;rw[e3] at e1 e2;rw[f3] at f1 f2;have hx:aA l' (A.take (2^j)):= .inr ⟨j,hj,e1⟩;have hy:aA l' (A.drop (2^j)):= .inr ⟨j,hj,e2⟩;have hu:aA l' (B.take (2^j)):= .inr ⟨j,hj,f1⟩;have hv:aA l' (B.drop (2^j)):= .inr ⟨j,hj,f2⟩;have hdl:(rt.getD j []).length=2^j:=hrt j (by omega);have hd:aA l' (rt.getD j []):= .inr ⟨j,hj,hdl⟩
 have low: ∀{p q:NQ},p.length≤2^j→q.length≤2^j→aA l' p→aA l' q→cf (R p q)=mulC rt j (cf p) (cf q):=fun {p q} hp hq h1 h2=>by
  rw[(hR p q h1 h2).2,de rt (aU hp) (aU hq) hj]
 have Ryv:=hR _ _ hy hv;have c2:=low (p:=A.drop (2^j)) (q:=B.drop (2^j)) (by omega) (by omega) hy hv;have lyv:bO j (cf (R (A.drop (2^j)) (B.drop (2^j)))):=by rw[c2];exact bj rt j _ _
 have c1:=low (p:=A.take (2^j)) (q:=B.take (2^j)) (by omega) (by omega) hx hu;have c3:=low (p:=A.take (2^j)) (q:=B.drop (2^j)) (by omega) (by omega) hx hv;have c4:=low (p:=A.drop (2^j)) (q:=B.take (2^j)) (by omega) (by omega) hy hu
 have c5:cf (R (R (A.drop (2^j)) (B.drop (2^j))) (rt.getD j []))=mulC rt j (cf (R (A.drop (2^j)) (B.drop (2^j)))) (cf (rt.getD j [])):=by
  rw[(hR _ _ Ryv.1 hd).2,de rt lyv (aU (by omega)) hj]
 refine⟨.inr ⟨j+1,by omega,by rw[dL,Nat.pow_succ];omega⟩,?_⟩;rw[de rt (j:=j+1) (aU (by omega)) (aU (by omega)) (by omega)]
 have lq:bO j (cf (aX (R (A.take (2^j)) (B.drop (2^j))) (R (A.drop (2^j)) (B.take (2^j))))):=fun i hi=>by
  rw[dY,c3,c4,bj rt j _ _ i hi,bj rt j _ _ i hi];exact Rat.add_zero _
 have cj: ∀{p q:NQ},bO j (cf q)→ ∀i,cf (dR p q (2^j)) i=if i<2^j then cf p i else cf q (i-2^j):=fun {p q} hq i=>by
  show (dR p q (2^j)).getD i 0=_;rw[oF];by_cases h:i<2^j
  · rw[if_pos h,if_pos h];rfl
  · rw[if_neg h,if_neg h];by_cases h2:i<2^j+2^j
    · rw[if_pos h2];rfl
    · rw[if_neg h2,hq _ (by omega)]
 funext i;rw[cj lq,dY,dY,c1,c5,c2,c3,c4,ji (a:=A) (2^j) rfl,ji (a:=B) (2^j) rfl,bW rt j (e8 (a:=A) (2^j) rfl) (e8 (a:=B) (2^j) rfl),bW rt j (e8 (a:=A) (2^j) rfl) jU.tV,bW rt j jU.tV (e8 (a:=B) (2^j) rfl)];rfl
theorem ov: ∀(l:Nat) {rt:List NQ} {a b:NQ},aA l a→aA l b→cP rt→l≤rt.length→aA l (gq l rt a b)∧cf (gq l rt a b)=mulC rt l (cf a) (cf b)
 | 0,rt,a,b,ha,hb,hrt,hl=>by
   have:=Bm (R:=fun _ _=>[]) (bX ha) (bX hb) hrt hl (fun l' h=>by omega);rw[bf ha,bf hb] at this;exact this
 | l+1,rt,a,b,ha,hb,hrt,hl=>by
   have:=Bm (R:=gq l rt) (bX ha) (bX hb) hrt hl (fun l' e a' b' h1 h2=>by
    obtain rfl:l=l':=by omega
    exact ov l h1 h2 hrt (by omega))
   rw[bf ha,bf hb] at this;exact this
def lf(l:Nat)(rt:List NQ)(a:NQ):NQ :=
 aX (gq l rt (a.take (a.length / 2)) (a.take (a.length / 2))) (aZ (gq l rt (gq l rt (a.drop (a.length / 2)) (a.drop (a.length / 2))) (rt.getD (a.length.log2-1) [])))
def o8(R:NQ→Int)(N:NQ→NQ)(rt:List NQ)(a:NQ):Int :=
 if a.length=0 then 0 else if a.length=1 then jr (a.getD 0 0) else
 if R (a.take (a.length / 2))=R (a.drop (a.length / 2))*R (rt.getD (a.length.log2-1) [])∨R (a.drop (a.length / 2))*R (rt.getD (a.length.log2-1) [])=0 then R (a.take (a.length / 2)) else
 if R (a.take (a.length / 2))=0 then R (a.drop (a.length / 2))*R (rt.getD (a.length.log2-1) []) else R (a.take (a.length / 2))*R (N a)
def rY:Nat→List NQ→NQ→Int
 | 0,rt,a=>o8 (fun _=>0) (fun a=>a) rt (aD a)
 | l+1,rt,a=>o8 (rY l rt) (lf l rt) rt (aD a)
def po(rt:List NQ):Prop:= ∀j,j<rt.length→0≤aY rt j (cf (rt.getD j []))
theorem He{l j:Nat}{rt:List NQ}{a:NQ}(hj:j≤l)(ha:a.length=2^(j+1))(hrt:cP rt)(hl:l<rt.length):aA l (lf l rt a)∧cf (lf l rt a)=bp rt j (cf a):=by
 obtain ⟨e1,e2,e3⟩:=bF ha;have hx:aA l (a.take (a.length / 2)):= .inr ⟨j,hj,e1⟩;have hy:aA l (a.drop (a.length / 2)):= .inr ⟨j,hj,e2⟩;have hlog:a.length.log2-1=j:=by rw[ha,Nat.log2_two_pow];omega
 have hdl:(rt.getD j []).length=2^j:=hrt j (by omega);have hd:aA l (rt.getD j []):= .inr ⟨j,hj,hdl⟩;have r1:=ov l hx hx hrt (by omega);have r2:=ov l hy hy hrt (by omega);have r3:=ov l r2.1 hd hrt (by omega);unfold lf;rw[hlog];refine⟨r1.1.plus r3.1.minus,?_⟩;unfold bp;funext i;rw[dY,iF,r1.2,r3.2,r2.2,de rt (aU (by omega)) (aU (by omega)) hj,de rt (aU (a:=a.drop (a.length / 2)) (by omega)) (aU (by omega)) hj,de rt (bj rt j _ _) (aU (by omega)) hj,ji _ e3,bW rt j (e8 _ e3) (e8 _ e3)];exact Rat.sub_eq_add_neg _ _ |>.symm
theorem lG(rt:List NQ): ∀(l:Nat) (a:Cf),xW (aY rt l a)
 | 0,a=>gQ _
 | l+1,a=>by
   unfold aY;split
   · exact lG rt l _
   split
   · exact lG rt l _
   split
   · exact lG rt l _
   · exact l8 (lG rt l _) (lG rt l _)
theorem ns: ∀(l:Nat) {rt:List NQ} {a:NQ},aA l a→cP rt→po rt→l≤rt.length→rY l rt a=aY rt l (cf a)
 | 0,rt,a,ha,hrt,hp,hl=>by
   have hs:=bX ha;have hc:=bf ha;show o8 (fun _=>0) (fun a=>a) rt (aD a)=jr (cf a 0);rw[← hc];generalize aD a=s at hs;unfold o8;rcases hs with e | ⟨i,hi,e⟩
   · rw[if_pos e,List.length_eq_zero_iff.1 e];show 0=jr 0;rw[G3]
   · obtain rfl:i=0:=by omega
     have e:s.length=1:=e;rw[if_neg (by omega),if_pos e];rfl
 | l+1,rt,a,ha,hrt,hp,hl=>by
   have hs:=bX ha;have hc:=bf ha;show o8 (rY l rt) (lf l rt) rt (aD a)=aY rt (l+1) (cf a);rw[← hc];generalize aD a=s at hs;clear hc ha;unfold o8;by_cases h0:s.length=0
   · rw[if_pos h0,List.length_eq_zero_iff.1 h0];exact(dK rt (l+1)).symm
   rw[if_neg h0];by_cases h1:s.length=1
   · rw[if_pos h1,bL rt (j:=0) (aU (by rw[h1];exact ai _)) (Nat.zero_le _)];rfl
   rw[if_neg h1]
   obtain ⟨j,hj,hsl⟩: ∃j,j≤l∧s.length=2^(j+1):=by
    rcases hs with e | ⟨i,hi,e⟩
    · exact absurd e h0
    · rcases i with _ | j
      · exact absurd e h1
      · exact⟨j,by omega,e⟩
   obtain ⟨e1,e2,e3⟩:=bF hsl;have hx:aA l (s.take (s.length / 2)):= .inr ⟨j,hj,e1⟩;have hy:aA l (s.drop (s.length / 2)):= .inr ⟨j,hj,e2⟩;have hlog:s.length.log2-1=j:=by rw[hsl,Nat.log2_two_pow];omega
   have hdl:(rt.getD j []).length=2^j:=hrt j (by omega);have hd:aA l (rt.getD j []):= .inr ⟨j,hj,hdl⟩;have hn:=He hj hsl hrt (by omega)
   have lowN:bO j (bp rt j (cf s)):=fun i hi=>by
    unfold bp;rw[bj rt j _ _ i hi,bj rt j _ _ i hi];exact Rat.sub_self
   have lh:bO j (bE j (cf s)):=fun i hi=>(aU (l:=j+1) (by omega)) _ (by rw[Nat.pow_succ];omega);have hpj:=hp j (by omega)
   rw[hlog,ns l hd hrt hp (by omega),ns l hx hrt hp (by omega),ns l hy hrt hp (by omega),ns l hn.1 hrt hp (by omega),hn.2,ji _ e3,
    bL rt (aU (a:=rt.getD j []) (by omega)) hj,bL rt (aU (a:=s.take (s.length / 2)) (by omega)) hj,bL rt lowN hj,kr rt j (e8 _ e3),bL rt lh hj,bL rt (a:=cf s) (j:=j+1) (l:=l+1) (aU (by omega)) (by omega)]
   show _=if aY rt j (cf (rt.getD j []))=0 then aY rt j (cf s) else if aY rt j (cf s)=aY rt j (bE j (cf s))∨aY rt j (bE j (cf s))=0 then aY rt j (cf s) else
    if aY rt j (cf s)=0 then aY rt j (bE j (cf s)) else aY rt j (cf s)*aY rt j (bp rt j (cf s))
   have ht:=lG rt j (cf (rt.getD j []));generalize aY rt j (cf (rt.getD j []))=D at hpj ht;unfold xW at ht;rcases ht with rfl | rfl | rfl
   · rw[if_pos rfl,Int.mul_zero,if_pos (.inr rfl)]
   · rw[Int.mul_one,if_neg (show ¬(1:Int)=0 by decide)]
   · omega
end Lift
namespace Lift
open Go Go.Proofs
structure iJ (m:Nat) (v:List NQ):Prop where
 l5:v.length≤5
 ro:cP v
 sz:dt m v
 ps: ∀k,k<v.length→ ¬et k (v.take k) (v.getD k [])<0
 m2:m≤1000000
 t: ∃m0,1≤m0∧m0≤m∧dt m0 v∧pP v.length m0
theorem iJ.m1{m:Nat}{v:List NQ}(V:iJ m v):1≤m:=by
 obtain ⟨m0,h1,h2,_⟩:=V.t;omega
theorem iJ.mono{m k:Nat}{v:List NQ}(V:iJ m v)(h:m≤k)(hk:k≤1000000):iJ k v:=by
 obtain ⟨m0,h1,h2,h3,h4⟩:=V.t;exact⟨V.l5,V.ro,V.sz.mono h,V.ps,hk,m0,h1,by omega,h3,h4⟩
theorem iJ.of{m:Nat}{rt:List (List RD)}(T:qa m rt)(h:dG rt=0):iJ m (rt.map au):=by
 have W:=qi T h;exact⟨by rw[W.ln];exact W.l5,W.ro,W.sz,W.ps,T.m2,by rw[W.ln];exact W.t⟩
def iT(a:NQ):List RD:=a.map Qr
theorem jv(a:NQ):au (iT a)=a:=by
 unfold au iT;rw[List.map_map];have:(RD.val ∘ Qr)=id:=funext dk;rw[this,List.map_id]
theorem mf(a:NQ):bw (iT a)=aq a:=by
 show D.sl 3 ((a.map Qr).map RD.D)=D.sl 3 (List.map _ a);rw[List.map_map];rfl
theorem lK(a:NQ):(iT a).length=a.length:=af ..
theorem zq{a:NQ}{k:Nat}(h:aE k a):wN k (iT a):=fun i hi=>by
 rw[lK] at hi;unfold iT;rw[aK,List.getElem?_map,bP hi];have:=h i;rw[aK,bP hi] at this;exact iG _ this
theorem nu{a:NQ}{l:Nat}(h:aA l a):b5 l (iT a)=0:=by
 unfold b5;rw[lK]
 have h1: ¬(a.length≠0∧Dk l a.length=false):=fun hs=>by
  rcases h with e | ⟨i,hi,e⟩
  · exact hs.1 e
  · rw[e,Ac,aO hi] at hs;exact Bool.noConfusion hs.2
 have h2:kX (iT a)=true:=by
  unfold kX iT;rw[List.all_map,List.all_eq_true];exact fun q _=>Cx q
 rw[if_neg h1,if_neg (by rw[h2];simp)]
def oU(v:List NQ):List (List RD):=v.map iT
theorem fC(v:List NQ):(oU v).length=v.length:=af ..
theorem qA(v:List NQ)(i:Nat):(oU v).getD i []=iT (v.getD i []):=by
 unfold oU;rw[aK,List.getElem?_map,aK];cases v[i]? with
 | none=>rfl
 | some x=>rfl
theorem Bq(v:List NQ):(oU v).map au=v:=by
 unfold oU;rw[List.map_map];have:(au ∘ iT)=id:=funext jv;rw[this,List.map_id]
theorem r8(v:List NQ):w8 (oU v)=ib v:=by
 show D.ag [.sl 1 ((v.map iT).map bw)]=D.ag [.sl 1 (v.map aq)];rw[List.map_map];have:(bw ∘ iT)=aq:=funext mf;rw[this]
theorem mC{f:Nat→Nat}: ∀{n i:Nat},(∀j,j<i+n→f j=0)→fE f n i=0
 | 0,i,h=>rfl
 | n+1,i,h=>by
   rw[fE,if_pos (h i (by omega))];exact mC (fun j hj=>h j (by omega))
theorem iJ.raw{m:Nat}{v:List NQ}(V:iJ m v):qa m (oU v)∧dG (oU v)=0:=by
 have l5:=V.l5;have hp: ∀i,i<v.length→2^i≤2^5:=fun i hi=>Nat.pow_le_pow_right (by decide) (by omega);obtain ⟨m0,t1,t2,ts,tk⟩:=V.t
 refine⟨⟨⟨m0,t1,t2,fun i hi _=>by rw[qA];exact zq (ts i),fun _=>by rw[fC];exact tk⟩,V.m2,by rw[fC];omega,fun i hi=>by
  rw[fC] at hi;rw[qA,lK,V.ro i hi];have:=hp i hi
  omega⟩,?_⟩
 unfold dG;rw[fC,if_neg (by omega)];refine mC fun j hj=>?_;have hj:j<v.length:=by omega
 unfold xl;rw[qA,lK,if_neg (fun h=>h (V.ro j hj)),if_neg (fun h=>h (nu (.inr ⟨j,ai _,V.ro j hj⟩))),jv,List.map_take,Bq,if_neg (V.ps j hj)]
theorem mg{m:Nat}{v:List NQ}{a:NQ}(V:iJ m v)(ha:aA v.length a)(sa:aE m a):kK m (oU v) (iT a):=⟨fun _=>zq sa,by
 have l5:=V.l5;rw[lK]
 exact Nat.le_trans (ha.len (by omega)) (by decide)⟩
theorem ck1{m:Nat}{v:List NQ}{a:NQ}(V:iJ m v)(ha:aA v.length a):kF (oU v) [iT a]=0:=by
 unfold kF;rw[if_neg (by rw[V.raw.2];simp)];refine mC fun j hj=>?_;have hj:j<0+1:=hj;obtain rfl:j=0:=by omega
 rw[fC];exact nu ha
theorem Oj{m:Nat}{v:List NQ}{a b:NQ}(V:iJ m v)(ha:aA v.length a)(hb:aA v.length b):kF (oU v) [iT a,iT b]=0:=by
 unfold kF;rw[if_neg (by rw[V.raw.2];simp)];refine mC fun j hj=>?_;have hj:j<0+2:=hj;rw[fC]
 match j,hj with
 | 0,_=>exact nu ha
 | 1,_=>exact nu hb
def kA(a:NQ):NQ:=aD (aZ a)
def w7(a b:NQ):NQ:=aD (aX a b)
def gv(a b:NQ):NQ:=aD (aX a (aZ b))
def fT(v:List NQ)(a b:NQ):NQ:=aD (aV v.length v a b)
theorem xq{m:Nat}{v:List NQ}{a b:NQ}(V:iJ m v)(ha:aA v.length a)(sa:aE m a)(hb:aA v.length b)(sb:aE m b):Pure Tryz.prog 21 [ib v,aq a,aq b] (.tu [aq (w7 a b),aQ]):=by
 have h:=y9 V.raw.1 (mg V ha sa) (mg V hb sb);unfold zN at h;rw[if_neg (by rw[Oj V ha hb];simp),r8,mf,mf,jv,jv] at h;exact h
theorem xo{m:Nat}{v:List NQ}{a b:NQ}(V:iJ m v)(ha:aA v.length a)(sa:aE m a)(hb:aA v.length b)(sb:aE m b):Pure Tryz.prog 105 [ib v,aq a,aq b] (.tu [aq (gv a b),aQ]):=by
 have h:=y6 V.raw.1 (mg V ha sa) (mg V hb sb);unfold zN at h;rw[if_neg (by rw[Oj V ha hb];simp),r8,mf,mf,jv,jv] at h;exact h
theorem xp{m:Nat}{v:List NQ}{a b:NQ}(hsT:sT v.length m≤17300000000000)(V:iJ m v)(ha:aA v.length a)(sa:aE m a)(hb:aA v.length b)(sb:aE m b):Pure Tryz.prog 106 [ib v,aq a,aq b] (.tu [aq (fT v a b),aQ]):=by
 have h:=y8 (by rw[fC];exact hsT) V.raw.1 (mg V ha sa) (mg V hb sb);unfold zN at h;rw[if_neg (by rw[Oj V ha hb];simp),r8,mf,mf,jv,jv,fC,Bq] at h;exact h
theorem JS{l k:Nat}{a:NQ}(ha:aA l a)(sa:aE k a):aA l (kA a)∧aE k (kA a):=bh ha.minus sa.minus
theorem uS{l k j:Nat}{a b:NQ}(ha:aA l a)(sa:aE k a)(hb:aA l b)(sb:aE j b):aA l (w7 a b)∧aE (k+j+1) (w7 a b):=bh (ha.plus hb) (sa.plus sb)
theorem kP{l k j:Nat}{a b:NQ}(ha:aA l a)(sa:aE k a)(hb:aA l b)(sb:aE j b):aA l (gv a b)∧aE (k+j+1) (gv a b):=bh (ha.plus hb.minus) (sa.plus sb.minus)
theorem gr{m:Nat}{v:List NQ}{a b:NQ}(V:iJ m v)(ha:aA v.length a)(sa:aE m a)(hb:aA v.length b)(sb:aE m b):aA v.length (fT v a b)∧aE (sT v.length m) (fT v a b):=by
 have h:=dw v.length ha hb V.ro (ai _) sa sb V.sz;exact bh h.1 h.2
theorem lg(l:Nat){q:Rat}{k:Nat}(h:LQ q≤k):aA l (sj q)∧aE k (sj q):=by
 unfold sj;split
 · exact⟨cg _,cL (Nat.le_trans (AH _) h)⟩
 · exact⟨fb _ _,gg h⟩
theorem iJ.pos{m:Nat}{v:List NQ}(V:iJ m v):po v:=fun j hj=>by
 have h:=V.ps j hj
 have e: ∀i,i<j→(v.take j).getD i []=v.getD i []:=fun i hi=>by
  rw[aK,List.getElem?_take_of_lt hi,aK]
 have ro:cP (v.take j):=fun i hi=>by
  rw[bb] at hi;rw[e i (by omega)];exact V.ro i (by omega)
 have lt:aA j (v.getD j []):= .inr ⟨j,ai _,V.ro j hj⟩;rw[dP j lt ro (by rw[bb];omega)] at h
 have key: ∀(l:Nat) (a:Cf),l≤j→aY (v.take j) l a=aY v l a∧ ∀b:Cf,mulC (v.take j) l a b=mulC v l a b:=by
  intro l
  induction l with
  | zero=>exact fun a _=>⟨rfl,fun b=>rfl⟩
  | succ l ih =>
    intro a hl;have hm: ∀x y:Cf,mulC (v.take j) l x y=mulC v l x y:=fun x y=>(ih x (by omega)).2 y;have hs: ∀x:Cf,aY (v.take j) l x=aY v l x:=fun x=>(ih x (by omega)).1;refine⟨?_,fun b=>?_⟩
    · unfold aY bp;simp only[hm,hs,e l (by omega)]
    · funext i;show (if i<2^l then mulC (v.take j) l a b i+mulC (v.take j) l (mulC (v.take j) l (bE l a) (bE l b)) (cf ((v.take j).getD l [])) i else mulC (v.take j) l a (bE l b) (i-2^l)+mulC (v.take j) l (bE l a) b (i-2^l))=_;simp only[hm,e l (by omega)];rfl
 rw[(key j _ (ai _)).1] at h;omega
end Lift
namespace Lift
open Go
open Go.RowKit (Below)
section
variable {P:Program} {T:Ty} {B:Nat} {F0:Nat→Prop} {w0:cX} {n d:Nat} {o:Oper} {σ:St} {K:St→Prop} {all:Array Oper} {rest:List Oper} {lk hm:Nat→Option AV}
end
end Lift
namespace Lift
open Go
open Go.RowKit (Below)
section
variable {P:Program} {T:Ty} {B:Nat} {F0:Nat→Prop} {w0:cX} {n:Nat} {σ τ σ0:St} {ops all:Array Oper} {l rest:List Oper} {o:Oper} {d:Nat} {lk hm:Nat→Option AV} {K:St→Prop} {ds:List Nat}
end
end Lift
namespace Lift
open Go
open Go.RowKit (Below)
section
variable {P:Program} {T:Ty} {B:Nat} {F0:Nat→Prop} {w0:cX} {n:Nat} {σ:St} {all:Array Oper} {rest:List Oper} {o1 o2:Oper} {K:St→Prop}
theorem Be{w:World}{b:Nat}{cs:Array Value}{e:TypeId}(hb:w.heap[b]?=some (.cells cs e (0,0))):w.setRow b cs=w:=by
 have h1:=setRow_heap w b cs cs e (0,0) hb
 have hh:(w.setRow b cs).heap=w.heap:=by
  refine Array.ext_getElem? fun i=>?_;by_cases hi:i=b
  · subst hi;rw[h1,hb]
  · exact setRow_other w b i cs hi
 have:w.setRow b cs={w with heap:=(w.setRow b cs).heap}:=rfl;rw[this,hh]
theorem ae.Lg(hT:bD P T){d1 d2 off size f s t:Nat}{x:Operand}{cs:List D}{c:Value}{i j:TI}{g:Bool}
  (h1d:o1.dst=some d1) (h1:o1.op= .fieldAddr s x f) (h1g:o1.guard=none) (hdn:Nat.ble (d1+1) n=true)
  (h2d:o2.dst=none) (h2:o2.op= .store t (.tmp d1) (.tmp d2)) (h2g:o2.guard=none) (hne:Nat.beq d2 d1=false)
  (hi:T.get s=some i) (hf:sR i f=some (off,size,g)) (hj:T.get t=some j) (hj1:j.size=1)
  (hx:ex T σ.get 0 x=some (.d (.pr cs))) (hc:cs[off]?=some (.v c)) (hyv:dC T (ex T σ.get t (.tmp d2))=some (.v c))
  (h:ae P B F0 w0 n all rest K ((d1,.rf (cs.drop off))::σ)):ae P B F0 w0 n all (o1::o2::rest) K σ:=by
 intro a w hR Q hQ;obtain ⟨O,hOr,hO⟩:=hR.own;have hI:=hR.inv hOr hO (fun _=>True) d1;have hr:Rd w (aP O (FW B F0 w)) (.pr cs) (a.eval x):=(a6 hI (fun _ _=>trivial) hx d1).1;obtain ⟨b,arr,e,hv,hF,hb,hel⟩:=Rd.Lt hr;obtain ⟨_,u,hu,hru⟩:=hel off (.v c) hc;obtain rfl:=(Rd.kn hru).1;have hyd:=dX hT hI (fun _ _=>trivial) hyv;have hye:=(Rd.kn hyd).1;obtain ⟨info,dd,z,hok⟩:=hT s i hi;obtain ⟨info',dd',z',hok'⟩:=hT t j hj;obtain ⟨fs,fl,jj,dd2,g1,g2,g3,g4,g5,g6,g7,g8⟩:=mB hok hf;have hdn:=Nat.le_of_ble_eq_true hdn;have hne:d2≠d1:=fun e=>by subst e;rw[Nat.beq_refl] at hne;cases hne
 unfold wpList;rw[if_pos (by simp[Region.wanted,h1g])];refine .inl ?_;refine bg (v:= .pointer (some ⟨b,off,none⟩)) (w':=w) ?_ ?_
 · obtain ⟨dst,op,ty,pos,after,guard⟩:=o1;simp only[] at h1;subst h1;have hs:jj.size≠0:=by omega
   simp[execOp,Instr.fieldAt,run_underlying g1,g2,hv,Instr.sureAddr,fieldPlace,Go.sizeOf,typeInfo,g4,hs,g3,Addr.add_lit]
 · have hR':Rel P B F0 w0 n ((d1,.rf (cs.drop off))::σ) (a.put (some d1) (.pointer (some ⟨b,off,none⟩))) w :=
    hR.put (av:= .rf (cs.drop off)) hOr hO hdn (du.refl (fun b t hb=>(hOr b t hb).2)) ⟨b,off,arr,e,(0,0),rfl,hF,hb,fun k y hy=>by
      rw[List.getElem?_drop] at hy
      exact hel _ y hy⟩
   rw[h1d];unfold wpList;rw[if_pos (by simp[Region.wanted,h2g])];refine .inl ?_
   have e1:(a.put (some d1) (.pointer (some ⟨b,off,none⟩))).eval (.tmp d1)= .pointer (some ⟨b,off,none⟩):=by
    exact gn (eT (a:=a) (d:=d1) (v:= .pointer (some ⟨b,off,none⟩)) (by rw[hR.size];exact hdn))
   have e2:(a.put (some d1) (.pointer (some ⟨b,off,none⟩))).eval (.tmp d2)=u:=by
    have h3:=dF (a:=a) (d:=d1) (v:= .pointer (some ⟨b,off,none⟩)) hne;have h4:a.eval (.tmp d2)=(a.tmps[d2]?).getD undef:=by simp[Act.eval]
    have h5:(a.put (some d1) (.pointer (some ⟨b,off,none⟩))).eval (.tmp d2)=(((a.put (some d1) (.pointer (some ⟨b,off,none⟩))).tmps)[d2]?).getD undef:=by simp[Act.eval]
    rw[h5,h3,← h4];exact hye
   have hcl:u.cells= #[u]:=by
    have:=(Rd.kn hru).2;cases u<;>simp_all [Value.cells,eG]
   have hrun:=mb hok' hb (v:=u) (off:=off) (by rw[hcl,hj1];rfl) (by rw[hcl];have:=(Array.getElem?_eq_some_iff.1 hu).1;show off+1≤_;omega) (fun y hy=>by
    rw[hcl] at hy;have hy:y=u:=by simpa using hy
    rw[hy];have:=(Rd.kn hru).2
    cases u<;>simp_all [eG,Value.oneCell'])
   have hsame:(arr.toList.take off++u.cells.toList++arr.toList.drop (off+u.cells.size)).toArray=arr:=by
    rw[hcl];have hlt:=(Array.getElem?_eq_some_iff.1 hu).1;apply Array.ext';have hu2:arr.toList[off]?=some u:=by simpa using hu
    have:arr.toList=arr.toList.take off++(u::arr.toList.drop (off+1)):=by
     conv=>lhs;rw[← List.take_append_drop off arr.toList]
     congr 1
     rw[List.drop_eq_getElem_cons (by simpa using hlt)]
     congr 1
     exact(List.getElem?_eq_some_iff.1 hu2).2
    show arr.toList.take off++[u]++arr.toList.drop (off+1)=arr.toList;rw[List.append_assoc];exact this.symm
   rw[hsame,Be hb] at hrun;refine uZ (w':=w) ?_ ?_
   · obtain ⟨dst,op,ty,pos,after,guard⟩:=o2;simp only[] at h2;subst h2;simp only[execOp,Instr.storeAt,Instr.sureAddr,Sem.run_bind,e1,e2,Sem.run_pure,Result.andThen_ok,hrun]
   · rw[h2d,vK];exact h _ _ hR' Q hQ
end
end Lift
namespace Lift
open Go Go.Proofs
theorem gU(i:Int)(n:Nat):Pure Tryz.prog 100 [dI i,dI n] (dB (jz i n)):=by
 refine qJ 12 Tryz.func100 rfl rfl rfl rfl (by kernel_rfl) (fun B F0 w0=>?_);refine qX 1 rfl (qK 2 rfl ?_);refine ae.split (t:=6) rfl (fun h=>?_) (fun h=>?_)
 · have h1:=ao h;refine qU 6 rfl (ae.nil ?_);rw[show jz i n=decide (i<n) by unfold jz;rw[decide_eq_decide];omega];exact AW.ret rfl
 · have h1:=ar h;refine qU 6 rfl (ae.nil ?_);rw[show jz i n=false by unfold jz;rw[decide_eq_false_iff_not];omega];exact AW.ret rfl
set_option maxHeartbeats 1600000 in
theorem tZ(bs:List Body){K:Nat}(hn:bs.length≤big)(hb: ∀i,(bs.getD i default).ok K)(hK:K≤50000000):Pure Tryz.prog 52 [aC bs] (uM (bM bs)):=by
 refine qJ 85 Tryz.func52 rfl rfl rfl rfl (by kernel_rfl) (fun B F0 w0=>?_);unfold big at hn;refine qX 1 rfl (qI (qX 3 rfl ?_));rw[af];refine ae.nil (AW.block ?_)
 refine AW.aL [0,11,12,13] (fun i:Nat=>[(0,.d (aC bs)),(11,.d (aC bs)),(12,.d (dI bs.length)),(13,.d (dI i))])
  (fun i=>i≤bs.length∧bM bs=fE (fX bs) (bs.length-i) i) (fun i=>bs.length-i) 0 rfl ⟨Nat.zero_le _,rfl⟩ (fun i ⟨hi,hE⟩=>?_)
 refine qX 1 rfl (qI (AW.cond rfl (fun h=>?_) (fun h=>?_)))
 · have hin:i<bs.length:=by have:=ao h;omega
   obtain ⟨bok1,bok2,bok3⟩:=hb i;have hbE:fX bs i≠0→bM bs=fX bs i:=fun h0=>hE.trans (eZ hin h0);have hbM:fX bs i=0→bM bs=fE (fX bs) (bs.length-(i+1)) (i+1):=fun h0=>hE.trans (dh hin h0);obtain ⟨b,hbe⟩: ∃b,b=bs.getD i default:=⟨_,rfl⟩;rw[← hbe] at bok1 bok2 bok3;unfold big at bok1 bok2;have hdup:DQ bs i=eP (fun k=>decide ((bs.getD k default).nm=b.nm)) i 0:=by rw[hbe];rfl
   have hbd:fX bs i=if cU b.nm=false then 5 else if DQ bs i=true then 6 else r9 b.pts:=by rw[hbe];rfl
   refine AW.skip (AW.seq (AW.block (qX 1 rfl ?_)));refine ae.idx tok b.D rfl rfl rfl rfl (aj i) (by rw[hbe];exact getM Body.D hin) ?_;refine qU 4 rfl (qI (qX 2 rfl (qM rfl (gf b.nm bok1) ?_)));refine qU 1 rfl (ae.nil (AW.cond rfl (fun h=>?_) (fun h=>?_)))
   · have hnm:cU b.nm=false:=by simpa using h
     have h5:fX bs i=5:=by rw[hbd,hnm];rfl
     rw[show bM bs=5 by rw[hbE (by omega),h5]];exact qX 2 rfl (qN rfl)
   · have hnm:cU b.nm=true:=by simpa using h
     rw[hnm,if_neg (by decide)] at hbd;refine AW.skip (AW.seq (qX 2 rfl ?_));refine ae.Ej tok rfl rfl rfl rfl trivial (aj i) (Nat.zero_le _) (by show i≤_;rw[af];omega) ?_;refine qU 2 rfl ?_;rw[vn (by rw[af];omega)];refine ae.nil (AW.block ?_)
     refine AW.aL [0,3,4,11,12,13,25,26,27] (fun k:Nat=>[(0,.d (aC bs)),(3,.d (dI i)),(4,.bx [dS b.nm,qb b.pts]),(11,.d (aC bs)),(12,.d (dI bs.length)),(13,.d (dI i)),(25,.d (.sl 2 ((bs.map Body.D).take i))),(26,.d (dI i)),(27,.d (dI k))])
      (fun k=>k≤i∧DQ bs i=eP (fun k=>decide ((bs.getD k default).nm=b.nm)) (i-k) k) (fun k=>i-k) 0 rfl ⟨Nat.zero_le _,hdup⟩ (fun k ⟨hk,hD⟩=>?_)
     refine qX 1 rfl (qI (AW.cond rfl (fun h=>?_) (fun h=>?_)))
     · have hki:k<i:=by have:=ao h;omega
       refine AW.skip (AW.seq (AW.block (AW.seq (AW.region (ae.idx tok (bs.getD k default).D rfl rfl rfl rfl (aj k) (H2 Body.D (by omega) hki) ?_)))));refine qU 3 rfl (qK 5 rfl ?_);rw[l9];refine ae.nil (AW.cond rfl (fun h=>?_) (fun h=>?_))
       · have h6:fX bs i=6:=by rw[hbd,hD.trans (fL hki h)];rfl
         rw[show bM bs=6 by rw[hbE (by omega),h6]];exact qX 2 rfl (qN rfl)
       · refine AW.skip (qT 2 rfl ?_);rw[aI (x:=(k:Int)+1) (by omega) (by omega)];refine ae.nil ?_;exact⟨k+1,rfl,⟨hki,hD.trans (eO hki h)⟩,by omega⟩
     · have hki: ¬k<i:=by have:=ar h;omega
       rw[hD.trans (fM hki),if_neg (by decide)] at hbd;refine AW.exit (AW.seq (qX 4 rfl ?_));rw[af];refine ae.nil (AW.cond rfl (fun h=>?_) (fun h=>?_))
       · have h8:8<b.pts.length:=by have:=ao h;omega
         have h4:fX bs i=4:=by rw[hbd,r9,if_pos h8]
         rw[show bM bs=4 by rw[hbE (by omega),h4]];exact qX 2 rfl (qN rfl)
       · have h8: ¬8<b.pts.length:=by have:=ar h;omega
         rw[r9,if_neg h8] at hbd;refine AW.skip (qX 4 rfl ?_);rw[af];refine ae.nil (AW.block ?_)
         refine AW.aL [0,4,11,12,13,44,45,46] (fun p:Nat=>[(0,.d (aC bs)),(4,.bx [dS b.nm,qb b.pts]),(11,.d (aC bs)),(12,.d (dI bs.length)),(13,.d (dI i)),(44,.d (qb b.pts)),(45,.d (dI b.pts.length)),(46,.d (dI p))])
          (fun p=>p≤b.pts.length∧fX bs i=fE (uB b.pts) (b.pts.length-p) p) (fun p=>b.pts.length-p) 0 rfl ⟨Nat.zero_le _,hbd⟩ (fun p ⟨hp,hP⟩=>?_)
         refine qX 1 rfl (qI (AW.cond rfl (fun h=>?_) (fun h=>?_)))
         · have hpn:p<b.pts.length:=by have:=ao h;omega
           obtain ⟨mok1,mok2,mok3⟩:=bok3 p
           have hpE:uB b.pts p≠0→bM bs=uB b.pts p:=fun h0=>by
            have:=hP.trans (eZ hpn h0);rw[hbE (by omega),this]
           have hpM:uB b.pts p=0→fX bs i=fE (uB b.pts) (b.pts.length-(p+1)) (p+1):=fun h0=>hP.trans (dh hpn h0);obtain ⟨m,hm⟩: ∃m,m=b.pts.getD p default:=⟨_,rfl⟩;rw[← hm] at mok1 mok2 mok3;unfold big at mok1;have hdup2:DO b.pts p=eP (fun k=>decide ((b.pts.getD k default).nm=m.nm)) p 0:=by rw[hm];rfl
           have hpd:uB b.pts p=if cU m.nm=false then 5 else if DO b.pts p=true then 6 else if m.x.okB=true∧m.y.okB=true then 0 else 3:=by rw[hm];rfl
           refine AW.skip (AW.seq (AW.block (qX 1 rfl ?_)));refine ae.idx tok m.D rfl rfl rfl rfl (aj p) (by rw[hm];exact getM Mark.D hpn) ?_;refine qU 4 rfl (qI (qX 2 rfl (qM rfl (gf m.nm mok1) ?_)));refine qU 1 rfl (ae.nil (AW.cond rfl (fun h=>?_) (fun h=>?_)))
           · have hnm2:cU m.nm=false:=by simpa using h
             have h5:uB b.pts p=5:=by rw[hpd,hnm2];rfl
             rw[show bM bs=5 by rw[hpE (by omega),h5]];exact qX 2 rfl (qN rfl)
           · have hnm2:cU m.nm=true:=by simpa using h
             rw[hnm2,if_neg (by decide)] at hpd;refine AW.skip (AW.seq (qX 3 rfl ?_));refine ae.Ej tok rfl rfl rfl rfl trivial (aj p) (Nat.zero_le _) (by show p≤_;rw[af];omega) ?_;refine qU 2 rfl ?_;rw[vn (by rw[af];omega)];refine ae.nil (AW.block ?_)
             refine AW.aL [0,4,8,11,12,13,44,45,46,59,60,61] (fun k:Nat=>[(0,.d (aC bs)),(4,.bx [dS b.nm,qb b.pts]),(8,.bx [dS m.nm,dB m.x.g,Wd m.x.n,Wd m.x.d,dB m.y.g,Wd m.y.n,Wd m.y.d]),(11,.d (aC bs)),(12,.d (dI bs.length)),(13,.d (dI i)),(44,.d (qb b.pts)),(45,.d (dI b.pts.length)),(46,.d (dI p)),(59,.d (.sl 7 ((b.pts.map Mark.D).take p))),(60,.d (dI p)),(61,.d (dI k))])
              (fun k=>k≤p∧DO b.pts p=eP (fun k=>decide ((b.pts.getD k default).nm=m.nm)) (p-k) k) (fun k=>p-k) 0 rfl ⟨Nat.zero_le _,hdup2⟩ (fun k ⟨hk,hD2⟩=>?_)
             refine qX 1 rfl (qI (AW.cond rfl (fun h=>?_) (fun h=>?_)))
             · have hkp:k<p:=by have:=ao h;omega
               refine AW.skip (AW.seq (AW.block (AW.seq (AW.region (ae.idx tok (b.pts.getD k default).D rfl rfl rfl rfl (aj k) (H2 Mark.D (by omega) hkp) ?_)))));refine qU 3 rfl (qK 5 rfl ?_);rw[l9];refine ae.nil (AW.cond rfl (fun h=>?_) (fun h=>?_))
               · have h6:uB b.pts p=6:=by rw[hpd,hD2.trans (fL hkp h)];rfl
                 rw[show bM bs=6 by rw[hpE (by omega),h6]];exact qX 2 rfl (qN rfl)
               · refine AW.skip (qT 2 rfl ?_);rw[aI (x:=(k:Int)+1) (by omega) (by omega)];refine ae.nil ?_;exact⟨k+1,rfl,⟨hkp,hD2.trans (eO hkp h)⟩,by omega⟩
             · have hkp: ¬k<p:=by have:=ar h;omega
               rw[hD2.trans (fM hkp),if_neg (by decide)] at hpd;refine AW.exit ?_;refine AW.cut [0,4,11,12,13,44,45,46,81] (fun _:Unit=>[(0,.d (aC bs)),(4,.bx [dS b.nm,qb b.pts]),(11,.d (aC bs)),(12,.d (dI bs.length)),(13,.d (dI i)),(44,.d (qb b.pts)),(45,.d (dI b.pts.length)),(46,.d (dI p)),(81,.d (dB (!decide (m.x.okB=true∧m.y.okB=true))))]) (fun _=>True) ?_ (fun _ _=>?_)
               · refine qT 2 rfl (qM rfl (ft m.x mok2 (by omega)) ?_);refine ae.split (t:=74) rfl (fun h=>?_) (fun h=>?_)
                 · refine qU 4 rfl (qM rfl (ft m.y mok3 (by omega)) ?_);refine qU 2 rfl (ae.nil ?_);exact⟨(),by rw[show decide (m.x.okB=true∧m.y.okB=true)=m.y.okB by simp[h]];rfl,trivial⟩
                 · refine qU 7 rfl (ae.nil ?_);exact⟨(),by rw[show decide (m.x.okB=true∧m.y.okB=true)=false by simp[h]];rfl,trivial⟩
               refine AW.cond rfl (fun h=>?_) (fun h=>?_)
               · have hno: ¬(m.x.okB=true∧m.y.okB=true):=fun e=>by rw[aO e] at h;cases h
                 have h3:uB b.pts p=3:=by rw[hpd,if_neg hno]
                 rw[show bM bs=3 by rw[hpE (by omega),h3]];exact qX 2 rfl (qN rfl)
               · have hyes:m.x.okB=true∧m.y.okB=true:=by simpa using h
                 rw[if_pos hyes] at hpd;refine AW.skip (qT 2 rfl ?_);rw[aI (x:=(p:Int)+1) (by omega) (by omega)];refine ae.nil ?_;exact⟨p+1,rfl,⟨hpn,hpM hpd⟩,by omega⟩
         · have hpn: ¬p<b.pts.length:=by have:=ar h;omega
           have h0:fX bs i=0:=hP.trans (e7 hpn);refine AW.exit (qT 2 rfl ?_);rw[aI (x:=(i:Int)+1) (by omega) (by omega)];refine ae.nil ?_;exact⟨i+1,rfl,⟨hin,hbM h0⟩,by omega⟩
 · have hin: ¬i<bs.length:=by have:=ar h;omega
   rw[hE,e7 hin];exact AW.exit (qX 1 rfl (qN rfl))
end Lift
namespace Lift
open Go Go.Proofs
theorem oJ(a b:Rat):(Av a b==0)=decide (a=b):=by
 unfold Av;by_cases h:a<b
 · rw[if_pos h];have hne:a≠b:=fun e=>by rw[e] at h;exact absurd h Rat.lt_irrefl
   rw[a7 hne];rfl
 · rw[if_neg h];by_cases he:a=b
   · rw[if_pos he,aO he];rfl
   · rw[if_neg he,a7 he];rfl
theorem kz{b:Bool}(h:(!b)=true):b=false:=by cases b<;>simp_all
theorem tE{i:Int}{n:Nat}(h:jz i n=true):0≤i∧i.toNat<n:=by
 have:=ao h;omega
set_option maxHeartbeats 1600000 in
theorem v7(l:Lkg)(j:a9){K:Nat}(hl:l.ok K)(hK:K≤20000000):Pure Tryz.prog 99 [l.D,j.D] (uM (jE l.bodies j)):=by
 refine qJ 107 Tryz.func99 rfl rfl rfl rfl (by kernel_rfl) (fun B F0 w0=>?_);obtain ⟨ln,bs,js,ds⟩:=l;have hb:=hl.b;simp only[] at hb ⊢;obtain ⟨nm,kind,a,pt,b,on,to⟩:=j
 have hj:jE bs ⟨nm,kind,a,pt,b,on,to⟩=if kind≠0∧kind≠1 then 7 else if (jz a bs.length&&jz b bs.length)=false then 9 else if a=b then 13 else
  if (jz pt (bs.getD a.toNat default).pts.length&&jz on (bs.getD b.toNat default).pts.length)=false then 9 else
  if kind=0 then (if to=0 then 0 else 2) else if jz to (bs.getD b.toNat default).pts.length=false then 9 else
  if lH ((bs.getD b.toNat default).pts.getD on.toNat default) ((bs.getD b.toNat default).pts.getD to.toNat default)=true then 8 else 0:=rfl
 generalize jE bs ⟨nm,kind,a,pt,b,on,to⟩=E at *;refine qX 3 rfl (qI ?_);refine AW.cut [2,3,15] (fun _:Unit=>[(2,.bx [dS ln,aC bs,aB js,ay ds]),(3,.bx [dS nm,dI kind,dI a,dI pt,dI b,dI on,dI to]),(15,.d (dB (decide (kind≠0∧kind≠1))))]) (fun _=>True) ?_ (fun _ _=>?_)
 · refine qT 3 rfl ?_;refine ae.split (t:=10) rfl (fun h=>?_) (fun h=>?_)
   · have h1:kind≠0:=by simpa using h
     refine qU 5 rfl (ae.nil ?_);exact⟨(),by rw[show decide (kind≠0∧kind≠1)=(kind != 1) by rw[Bool.eq_iff_iff];simp[h1]];rfl,trivial⟩
   · have h1:kind=0:=by simpa using h
     refine qU 5 rfl (ae.nil ?_);exact⟨(),by rw[show decide (kind≠0∧kind≠1)=false by simp[h1]];rfl,trivial⟩
 refine AW.cond rfl (fun h=>?_) (fun h=>?_)
 · rw[if_pos (ao h)] at hj;rw[hj];exact qX 2 rfl (qN rfl)
 rw[if_neg (ar h)] at hj;refine AW.skip (AW.seq ?_);refine AW.cut [2,3,32] (fun _:Unit=>[(2,.bx [dS ln,aC bs,aB js,ay ds]),(3,.bx [dS nm,dI kind,dI a,dI pt,dI b,dI on,dI to]),(32,.d (dB (!(jz a bs.length&&jz b bs.length))))]) (fun _=>True) ?_ (fun _ _=>?_)
 · refine qT 5 rfl ?_;rw[af];refine qM rfl (gU a bs.length) ?_;refine ae.split (t:=22) rfl (fun h=>?_) (fun h=>?_)
   · refine qU 7 rfl ?_;rw[af];refine qM rfl (gU b bs.length) ?_;refine qU 2 rfl (ae.nil ?_);exact⟨(),by rw[h];rfl,trivial⟩
   · refine qU 10 rfl (ae.nil ?_);exact⟨(),by rw[h];rfl,trivial⟩
 refine AW.cond rfl (fun h=>?_) (fun h=>?_)
 · rw[if_pos (kz h)] at hj;rw[hj];exact qX 2 rfl (qN rfl)
 have hab:jz a bs.length=true∧jz b bs.length=true:=by simpa using h
 rw[if_neg (by simp[hab])] at hj;obtain ⟨ha0,ha1⟩:=tE hab.1;obtain ⟨hb0,hb1⟩:=tE hab.2;obtain ⟨Bb,hBb⟩: ∃x,x=bs.getD b.toNat default:=⟨_,rfl⟩;obtain ⟨Ba,hBa⟩: ∃x,x=bs.getD a.toNat default:=⟨_,rfl⟩;have okb:=hb b.toNat;rw[← hBb] at hj okb;rw[← hBa] at hj;refine AW.skip (AW.seq (qX 5 rfl (ae.nil (AW.cond rfl (fun h=>?_) (fun h=>?_)))))
 · rw[if_pos (by simpa using h)] at hj;rw[hj];exact qX 2 rfl (qN rfl)
 rw[if_neg (by simpa using h)] at hj;refine AW.skip (qX 4 rfl ?_);refine ae.idx tok Bb.D rfl rfl rfl rfl hb0 (by rw[hBb];exact getM Body.D hb1) ?_;refine qU 3 rfl (qI ?_);refine AW.cut [2,3,5,66] (fun _:Unit=>[(2,.bx [dS ln,aC bs,aB js,ay ds]),(3,.bx [dS nm,dI kind,dI a,dI pt,dI b,dI on,dI to]),(5,.d (qb Bb.pts)),(66,.d (dB (!(jz pt Ba.pts.length&&jz on Bb.pts.length))))]) (fun _=>True) ?_ (fun _ _=>?_)
 · have c1:=gU pt Ba.pts.length;cases hq:jz pt Ba.pts.length with
   | true =>
     rw[hq] at c1;refine AW.draw aS 20 (by kernel_rfl) ?_;refine qP 6 rfl ?_;refine ah.idx tok Ba.D rfl rfl rfl rfl rfl ha0 (by rw[hBa];exact getM Body.D ha1) ?_;refine qP 3 rfl ?_;rw[af];refine qQ rfl c1 (qP 6 rfl ?_);rw[af];refine qQ rfl (gU on Bb.pts.length) ?_;refine qP 2 rfl (ah.nil (ae.nil ?_));exact⟨(),rfl,trivial⟩
   | false =>
     rw[hq] at c1;refine AW.draw aS 20 (by kernel_rfl) ?_;refine qP 6 rfl ?_;refine ah.idx tok Ba.D rfl rfl rfl rfl rfl ha0 (by rw[hBa];exact getM Body.D ha1) ?_;refine qP 3 rfl ?_;rw[af];refine qQ rfl c1 (qP 9 rfl (ah.nil (ae.nil ?_)));exact⟨(),rfl,trivial⟩
 refine AW.cond rfl (fun h=>?_) (fun h=>?_)
 · rw[if_pos (kz h)] at hj;rw[hj];exact qX 2 rfl (qN rfl)
 have hpo:jz pt Ba.pts.length=true∧jz on Bb.pts.length=true:=by simpa using h
 rw[if_neg (by simp[hpo])] at hj;obtain ⟨ho0,ho1⟩:=tE hpo.2;refine AW.skip (AW.seq (qX 3 rfl (ae.nil (AW.cond rfl (fun h=>?_) (fun h=>?_)))))
 · rw[if_pos (by simpa using h)] at hj;refine AW.seq (qX 3 rfl (ae.nil (AW.cond rfl (fun h=>?_) (fun h=>?_))))
   · rw[if_neg (by simpa using h)] at hj;rw[hj];exact qX 2 rfl (qN rfl)
   · rw[if_pos (by simpa using h)] at hj;rw[hj];exact AW.skip (qX 1 rfl (qN rfl))
 rw[if_neg (by simpa using h)] at hj;refine AW.skip (AW.seq (qX 4 rfl ?_));rw[af];refine qM rfl (gU to Bb.pts.length) ?_;refine qU 1 rfl (ae.nil (AW.cond rfl (fun h=>?_) (fun h=>?_)))
 · rw[if_pos (by simpa using h)] at hj;rw[hj];exact qX 2 rfl (qN rfl)
 have hto:jz to Bb.pts.length=true:=by simpa using h
 rw[if_neg (by simp[hto])] at hj;obtain ⟨ht0,ht1⟩:=tE hto;obtain ⟨p,hp⟩: ∃x,x=Bb.pts.getD on.toNat default:=⟨_,rfl⟩;obtain ⟨q,hq⟩: ∃x,x=Bb.pts.getD to.toNat default:=⟨_,rfl⟩;have okp:=okb.2.2 on.toNat;have okq:=okb.2.2 to.toNat;rw[← hp] at hj okp;rw[← hq] at hj okq;refine AW.skip (AW.seq (AW.nW tok aS [(5,true),(5,false),(2,true)] 12 [6,7] (by kernel_rfl) ⟨rfl,?_⟩));refine qP 3 rfl ?_;refine ah.idx tok p.D rfl rfl rfl rfl rfl ho0 (by rw[hp];exact getM Mark.D ho1) ?_;refine qP 1 rfl (ah.nil ⟨rfl,?_⟩);refine qP 3 rfl ?_;refine ah.idx tok q.D rfl rfl rfl rfl rfl ht0 (by rw[hq];exact getM Mark.D ht1) ?_;refine qP 1 rfl (ah.nil ⟨rfl,?_⟩);refine qP 2 rfl (ah.nil ⟨_,oM.cons (.bx rfl) (oM.cons (.bx rfl) (oM.nil)),?_⟩);refine qI ?_;refine AW.cut [105] (fun _:Unit=>[(105,.d (dB (lH p q)))]) (fun _=>True) ?_ (fun _ _=>?_)
 · refine qT 4 rfl (qM rfl (mS p.x q.x okp.2.1 okq.2.1 (by omega)) ?_);refine qU 1 rfl ?_;rw[oJ];refine ae.split (t:=97) rfl (fun h=>?_) (fun h=>?_)
   · have h1:=ao h;refine qU 5 rfl (qM rfl (mS p.y q.y okp.2.2 okq.2.2 (by omega)) ?_);refine qU 2 rfl ?_;rw[oJ];refine ae.nil ?_;exact⟨(),by rw[show lH p q=decide (p.y.val=q.y.val) by unfold lH;simp[h1]];rfl,trivial⟩
   · have h1:=ar h;refine qU 8 rfl (ae.nil ?_);exact⟨(),by rw[show lH p q=false by unfold lH;simp[h1]];rfl,trivial⟩
 refine AW.cond rfl (fun h=>?_) (fun h=>?_)
 · rw[if_pos h] at hj;rw[hj];exact qX 2 rfl (qN rfl)
 · rw[if_neg (by rw[h];decide)] at hj;rw[hj];exact AW.skip (qX 1 rfl (qN rfl))
end Lift
namespace Lift
open Go Go.Proofs
set_option maxHeartbeats 1600000 in
theorem tY(l:Lkg){K:Nat}(hl:l.ok K)(hK:K≤20000000):Pure Tryz.prog 53 [l.D] (uM (bA l.bodies l.joints)):=by
 refine qJ 49 Tryz.func53 rfl rfl rfl rfl (by kernel_rfl) (fun B F0 w0=>?_);have hjoint:=fun j=>v7 l j hl hK;obtain ⟨ln,bs,js,ds⟩:=l;have hj:=hl.j;have hn:=hl.nj;simp only[] at hj hn hjoint ⊢;show AW _ _ _ _ _ _ _ (eI 0 [D.ag [dS ln,aC bs,aB js,ay ds]]);unfold big at hn;refine qX 2 rfl (qI (qX 4 rfl ?_));rw[af];refine ae.nil (AW.cond rfl (fun h=>?_) (fun h=>?_))
 · have h16:16<js.length:=by have:=ao h;omega
   rw[bA,if_pos h16];exact qX 2 rfl (qN rfl)
 have h16: ¬16<js.length:=by have:=ar h;omega
 rw[bA,if_neg h16];refine AW.skip (AW.seq (qX 4 rfl ?_));rw[af];refine ae.nil (AW.block ?_)
 refine AW.aL [1,14,15,16] (fun i:Nat=>[(1,.bx [dS ln,aC bs,aB js,ay ds]),(14,.d (aB js)),(15,.d (dI js.length)),(16,.d (dI i))])
  (fun i=>i≤js.length∧fE (cZ bs js) js.length 0=fE (cZ bs js) (js.length-i) i) (fun i=>js.length-i) 0 rfl ⟨Nat.zero_le _,rfl⟩ (fun i ⟨hi,hE⟩=>?_)
 refine qX 1 rfl (qI (AW.cond rfl (fun h=>?_) (fun h=>?_)))
 · have hin:i<js.length:=by have:=ao h;omega
   have jok:=hj i;have hbE:cZ bs js i≠0→fE (cZ bs js) js.length 0=cZ bs js i:=fun h0=>hE.trans (eZ hin h0);have hbM:cZ bs js i=0→fE (cZ bs js) js.length 0=fE (cZ bs js) (js.length-(i+1)) (i+1):=fun h0=>hE.trans (dh hin h0);generalize fE (cZ bs js) js.length 0=E at *;obtain ⟨j,hje⟩: ∃j,j=js.getD i default:=⟨_,rfl⟩;rw[← hje] at jok;unfold big at jok;have hdup:um js i=eP (fun k=>decide ((js.getD k default).nm=j.nm)) i 0:=by rw[hje];rfl
   have hbd:cZ bs js i=if cU j.nm=false then 5 else if um js i=true then 6 else jE bs j:=by rw[hje];rfl
   refine AW.skip (AW.seq (AW.block (qX 1 rfl ?_)));refine ae.idx tok j.D rfl rfl rfl rfl (aj i) (by rw[hje];exact getM a9.D hin) ?_;refine qU 4 rfl (qI (qX 2 rfl (qM rfl (gf j.nm jok) ?_)));refine qU 1 rfl (ae.nil (AW.cond rfl (fun h=>?_) (fun h=>?_)))
   · have hnm:cU j.nm=false:=kz h;have h5:cZ bs js i=5:=by rw[hbd,hnm];rfl
     rw[show E=5 by rw[hbE (by omega),h5]];exact qX 2 rfl (qN rfl)
   have hnm:cU j.nm=true:=by simpa using h
   rw[hnm,if_neg (by decide)] at hbd;refine AW.skip (AW.seq (qX 3 rfl ?_));refine ae.Ej tok rfl rfl rfl rfl trivial (aj i) (Nat.zero_le _) (by show i≤_;rw[af];omega) ?_;refine qU 2 rfl ?_;rw[vn (by rw[af];omega)];refine ae.nil (AW.block ?_)
   refine AW.aL [1,4,14,15,16,29,30,31] (fun k:Nat=>[(1,.bx [dS ln,aC bs,aB js,ay ds]),(4,.bx [dS j.nm,dI j.kind,dI j.a,dI j.pt,dI j.b,dI j.on,dI j.to]),(14,.d (aB js)),(15,.d (dI js.length)),(16,.d (dI i)),(29,.d (.sl 7 ((js.map a9.D).take i))),(30,.d (dI i)),(31,.d (dI k))])
    (fun k=>k≤i∧um js i=eP (fun k=>decide ((js.getD k default).nm=j.nm)) (i-k) k) (fun k=>i-k) 0 rfl ⟨Nat.zero_le _,hdup⟩ (fun k ⟨hk,hD⟩=>?_)
   refine qX 1 rfl (qI (AW.cond rfl (fun h=>?_) (fun h=>?_)))
   · have hki:k<i:=by have:=ao h;omega
     refine AW.skip (AW.seq (AW.block (AW.seq (AW.region (ae.idx tok (js.getD k default).D rfl rfl rfl rfl (aj k) (H2 a9.D (by omega) hki) ?_)))));refine qU 3 rfl (qK 5 rfl ?_);rw[l9];refine ae.nil (AW.cond rfl (fun h=>?_) (fun h=>?_))
     · have h6:cZ bs js i=6:=by rw[hbd,hD.trans (fL hki h)];rfl
       rw[show E=6 by rw[hbE (by omega),h6]];exact qX 2 rfl (qN rfl)
     · refine AW.skip (qT 2 rfl ?_);rw[aI (x:=(k:Int)+1) (by omega) (by omega)];refine ae.nil ?_;exact⟨k+1,rfl,⟨hki,hD.trans (eO hki h)⟩,by omega⟩
   · have hki: ¬k<i:=by have:=ar h;omega
     rw[hD.trans (fM hki),if_neg (by decide)] at hbd;refine AW.exit ?_;have c:=hjoint j;cases he:jE bs j with
     | zero =>
       rw[he] at hbd c;refine qX 2 rfl (qM rfl c (qU 1 rfl (qK 1 rfl (qR rfl rfl (ae.nil (AW.aH rfl (AW.skip (qT 2 rfl ?_))))))));rw[aI (x:=(i:Int)+1) (by omega) (by omega)];refine ae.nil ?_;exact⟨i+1,rfl,⟨hin,hbM hbd⟩,by omega⟩
     | succ m =>
       rw[he] at hbd c;rw[show E=m+1 by rw[hbE (by omega),hbd]];exact qX 2 rfl (qM rfl c (qU 1 rfl (qK 1 rfl (qR rfl rfl (ae.nil (AW.aJ rfl (qX 2 rfl (qN rfl))))))))
 · have hin: ¬i<js.length:=by have:=ar h;omega
   rw[hE,e7 hin];exact AW.exit (qX 1 rfl (qN rfl))
set_option maxHeartbeats 1600000 in
theorem sA(l:Lkg){K:Nat}(hl:l.ok K):Pure Tryz.prog 54 [l.D] (uM (iD l.bodies.length l.drivers)):=by
 refine qJ 72 Tryz.func54 rfl rfl rfl rfl (by kernel_rfl) (fun B F0 w0=>?_);obtain ⟨ln,bs,js,ds⟩:=l;have hd:=hl.d;have hn:=hl.nd;simp only[] at hd hn ⊢;show AW _ _ _ _ _ _ _ (eI 0 [D.ag [dS ln,aC bs,aB js,ay ds]]);unfold big at hn;refine qX 2 rfl (qI (qX 4 rfl ?_));rw[af];refine ae.nil (AW.cond rfl (fun h=>?_) (fun h=>?_))
 · have h2:2<ds.length:=by have:=ao h;omega
   rw[iD,if_pos h2];exact qX 2 rfl (qN rfl)
 have h2: ¬2<ds.length:=by have:=ar h;omega
 rw[iD,if_neg h2];refine AW.skip (AW.seq (qX 4 rfl ?_));rw[af];refine ae.nil (AW.block ?_)
 refine AW.aL [1,15,16,17] (fun i:Nat=>[(1,.bx [dS ln,aC bs,aB js,ay ds]),(15,.d (ay ds)),(16,.d (dI ds.length)),(17,.d (dI i))])
  (fun i=>i≤ds.length∧fE (dW bs.length ds) ds.length 0=fE (dW bs.length ds) (ds.length-i) i) (fun i=>ds.length-i) 0 rfl ⟨Nat.zero_le _,rfl⟩ (fun i ⟨hi,hE⟩=>?_)
 refine qX 1 rfl (qI (AW.cond rfl (fun h=>?_) (fun h=>?_)))
 · have hin:i<ds.length:=by have:=ao h;omega
   have dok:=hd i;have hbE:dW bs.length ds i≠0→fE (dW bs.length ds) ds.length 0=dW bs.length ds i:=fun h0=>hE.trans (eZ hin h0);have hbM:dW bs.length ds i=0→fE (dW bs.length ds) ds.length 0=fE (dW bs.length ds) (ds.length-(i+1)) (i+1):=fun h0=>hE.trans (dh hin h0);generalize fE (dW bs.length ds) ds.length 0=E at *;obtain ⟨d,hde⟩: ∃d,d=ds.getD i default:=⟨_,rfl⟩;rw[← hde] at dok;unfold big at dok;have hdup:DP ds i=eP (fun k=>decide ((ds.getD k default).nm=d.nm)) i 0:=by rw[hde];rfl
   have hdup2:DN ds i=eP (fun k=>decide ((ds.getD k default).body=d.body)) i 0:=by rw[hde];rfl
   have hbd:dW bs.length ds i=if cU d.nm=false then 5 else if DP ds i=true then 6 else if jz d.body bs.length=false then 9 else if d.body=0 then 7 else if DN ds i=true then 6 else 0:=by rw[hde];rfl
   refine AW.skip (AW.seq (AW.block (qX 1 rfl ?_)));refine ae.idx tok d.D rfl rfl rfl rfl (aj i) (by rw[hde];exact getM Driver.D hin) ?_;refine qU 4 rfl (qI (qX 2 rfl (qM rfl (gf d.nm dok) ?_)));refine qU 1 rfl (ae.nil (AW.cond rfl (fun h=>?_) (fun h=>?_)))
   · have hnm:cU d.nm=false:=kz h;have h5:dW bs.length ds i=5:=by rw[hbd,hnm];rfl
     rw[show E=5 by rw[hbE (by omega),h5]];exact qX 2 rfl (qN rfl)
   have hnm:cU d.nm=true:=by simpa using h
   rw[hnm,if_neg (by decide)] at hbd;refine AW.skip (AW.seq (qX 3 rfl ?_));refine ae.Ej tok rfl rfl rfl rfl trivial (aj i) (Nat.zero_le _) (by show i≤_;rw[af];omega) ?_;refine qU 2 rfl ?_;rw[vn (by rw[af];omega)];refine ae.nil (AW.block ?_)
   refine AW.aL [1,3,4,15,16,17,30,31,32] (fun k:Nat=>[(1,.bx [dS ln,aC bs,aB js,ay ds]),(3,.d (dI i)),(4,.bx [dS d.nm,dI d.body]),(15,.d (ay ds)),(16,.d (dI ds.length)),(17,.d (dI i)),(30,.d (.sl 2 ((ds.map Driver.D).take i))),(31,.d (dI i)),(32,.d (dI k))])
    (fun k=>k≤i∧DP ds i=eP (fun k=>decide ((ds.getD k default).nm=d.nm)) (i-k) k) (fun k=>i-k) 0 rfl ⟨Nat.zero_le _,hdup⟩ (fun k ⟨hk,hD⟩=>?_)
   refine qX 1 rfl (qI (AW.cond rfl (fun h=>?_) (fun h=>?_)))
   · have hki:k<i:=by have:=ao h;omega
     refine AW.skip (AW.seq (AW.block (AW.seq (AW.region (ae.idx tok (ds.getD k default).D rfl rfl rfl rfl (aj k) (H2 Driver.D (by omega) hki) ?_)))));refine qU 3 rfl (qK 5 rfl ?_);rw[l9];refine ae.nil (AW.cond rfl (fun h=>?_) (fun h=>?_))
     · have h6:dW bs.length ds i=6:=by rw[hbd,hD.trans (fL hki h)];rfl
       rw[show E=6 by rw[hbE (by omega),h6]];exact qX 2 rfl (qN rfl)
     · refine AW.skip (qT 2 rfl ?_);rw[aI (x:=(k:Int)+1) (by omega) (by omega)];refine ae.nil ?_;exact⟨k+1,rfl,⟨hki,hD.trans (eO hki h)⟩,by omega⟩
   · have hki: ¬k<i:=by have:=ar h;omega
     rw[hD.trans (fM hki),if_neg (by decide)] at hbd;refine AW.exit (AW.seq (qX 5 rfl ?_));rw[af];refine qM rfl (gU d.body bs.length) ?_;refine qU 1 rfl (ae.nil (AW.cond rfl (fun h=>?_) (fun h=>?_)))
     · rw[if_pos (kz h)] at hbd;rw[show E=9 by rw[hbE (by omega),hbd]];exact qX 2 rfl (qN rfl)
     have hinb:jz d.body bs.length=true:=by simpa using h
     rw[if_neg (by simp[hinb])] at hbd;refine AW.skip (AW.seq (qX 3 rfl (ae.nil (AW.cond rfl (fun h=>?_) (fun h=>?_)))))
     · rw[if_pos (by simpa using h)] at hbd;rw[show E=7 by rw[hbE (by omega),hbd]];exact qX 2 rfl (qN rfl)
     rw[if_neg (by simpa using h)] at hbd;refine AW.skip (qX 3 rfl ?_);refine ae.Ej tok rfl rfl rfl rfl trivial (aj i) (Nat.zero_le _) (by show i≤_;rw[af];omega) ?_;refine qU 2 rfl ?_;rw[vn (by rw[af];omega)];refine ae.nil (AW.block ?_)
     refine AW.aL [1,4,15,16,17,58,59,60] (fun k:Nat=>[(1,.bx [dS ln,aC bs,aB js,ay ds]),(4,.bx [dS d.nm,dI d.body]),(15,.d (ay ds)),(16,.d (dI ds.length)),(17,.d (dI i)),(58,.d (.sl 2 ((ds.map Driver.D).take i))),(59,.d (dI i)),(60,.d (dI k))])
      (fun k=>k≤i∧DN ds i=eP (fun k=>decide ((ds.getD k default).body=d.body)) (i-k) k) (fun k=>i-k) 0 rfl ⟨Nat.zero_le _,hdup2⟩ (fun k ⟨hk,hD⟩=>?_)
     refine qX 1 rfl (qI (AW.cond rfl (fun h=>?_) (fun h=>?_)))
     · have hki:k<i:=by have:=ao h;omega
       refine AW.skip (AW.seq (AW.block (AW.seq (AW.region (ae.idx tok (ds.getD k default).D rfl rfl rfl rfl (aj k) (H2 Driver.D (by omega) hki) ?_)))));refine qU 3 rfl (qK 5 rfl (ae.nil (AW.cond rfl (fun h=>?_) (fun h=>?_))))
       · have h':decide ((ds.getD k default).body=d.body)=true:=by simpa using h
         rw[hD.trans (fL hki h')] at hbd;rw[show E=6 by rw[hbE (by rw[hbd];decide),hbd];rfl];exact qX 2 rfl (qN rfl)
       · have h':decide ((ds.getD k default).body=d.body)=false:=by simpa using h
         refine AW.skip (qT 2 rfl ?_);rw[aI (x:=(k:Int)+1) (by omega) (by omega)];refine ae.nil ?_;exact⟨k+1,rfl,⟨hki,hD.trans (eO hki h')⟩,by omega⟩
     · have hki: ¬k<i:=by have:=ar h;omega
       rw[hD.trans (fM hki),if_neg (by decide)] at hbd;refine AW.exit (qT 2 rfl ?_);rw[aI (x:=(i:Int)+1) (by omega) (by omega)];refine ae.nil ?_;exact⟨i+1,rfl,⟨hin,hbM hbd⟩,by omega⟩
 · have hin: ¬i<ds.length:=by have:=ar h;omega
   rw[hE,e7 hin];exact AW.exit (qX 1 rfl (qN rfl))
set_option maxHeartbeats 1600000 in
theorem nG(l:Lkg){K:Nat}(hl:l.ok K)(hK:K≤20000000):Pure Tryz.prog 31 [l.D] (uM (uo l)):=by
 refine qJ 33 Tryz.func31 rfl rfl rfl rfl (by kernel_rfl) (fun B F0 w0=>?_);have c1:=tZ l.bodies hl.nb hl.b (by omega);have c2:=tY l hl hK;have c3:=sA l hl
 have hcd:uo l=if cU l.nm=false then 5 else if l.bodies=[] then 10 else if 8<l.bodies.length then 4 else
  if bM l.bodies≠0 then bM l.bodies else if bA l.bodies l.joints≠0 then bA l.bodies l.joints else iD l.bodies.length l.drivers:=rfl
 generalize uo l=E at *;obtain ⟨ln,bs,js,ds⟩:=l;have hnm:=hl.nm;have hnb:=hl.nb;simp only[] at hcd c1 c2 c3 hnm hnb ⊢;show AW _ _ _ _ _ _ _ (eI 0 [D.ag [dS ln,aC bs,aB js,ay ds]]);unfold big at hnm hnb;refine qX 2 rfl (qI (qX 2 rfl (qM rfl (gf ln hnm) ?_)));refine qU 1 rfl (ae.nil (AW.cond rfl (fun h=>?_) (fun h=>?_)))
 · rw[if_pos (kz h)] at hcd;rw[hcd];exact qX 2 rfl (qN rfl)
 rw[if_neg (by simpa using h)] at hcd;refine AW.skip (AW.seq (qX 4 rfl ?_));rw[af];refine ae.nil (AW.cond rfl (fun h=>?_) (fun h=>?_))
 · have h0:bs=[]:=List.length_eq_zero_iff.1 (by have:(bs.length:Int)=0:=by simpa using h
                                                omega)
   rw[if_pos h0] at hcd;rw[hcd];exact qX 2 rfl (qN rfl)
 have h0:bs≠[]:=by rintro rfl;simp at h
 rw[if_neg h0] at hcd;refine AW.skip (AW.seq (qX 4 rfl ?_));rw[af];refine ae.nil (AW.cond rfl (fun h=>?_) (fun h=>?_))
 · have h8:8<bs.length:=by have:=ao h;omega
   rw[if_pos h8] at hcd;rw[hcd];exact qX 2 rfl (qN rfl)
 have h8: ¬8<bs.length:=by have:=ar h;omega
 rw[if_neg h8] at hcd;refine AW.skip ?_;cases he:bM bs with
 | succ m =>
   rw[he] at hcd c1;rw[show E=m+1 by rw[hcd,if_pos (by omega)]];refine AW.seq (qX 2 rfl (qM rfl c1 (qU 1 rfl (qK 1 rfl (qR rfl rfl (ae.nil (AW.aJ rfl (qX 2 rfl ?_))))))));exact qN rfl
 | zero =>
   rw[he] at hcd c1;rw[if_neg (by omega)] at hcd;refine AW.seq (qX 2 rfl (qM rfl c1 (qU 1 rfl (qK 1 rfl (qR rfl rfl (ae.nil (AW.aH rfl (AW.skip ?_))))))));cases he2:bA bs js with
   | succ m =>
     rw[he2] at hcd c2;rw[show E=m+1 by rw[hcd,if_pos (by omega)]];refine AW.seq (qX 1 rfl (qM rfl c2 (qU 1 rfl (qK 1 rfl (qR rfl rfl (ae.nil (AW.aJ rfl (qX 2 rfl ?_))))))));exact qN rfl
   | zero =>
     rw[he2] at hcd c2;rw[if_neg (by omega)] at hcd;rw[hcd];refine AW.seq (qX 1 rfl (qM rfl c2 (qU 1 rfl (qK 1 rfl (qR rfl rfl (ae.nil (AW.aH rfl (AW.skip (qX 1 rfl ?_)))))))));exact qM rfl c3 (qU 1 rfl (qN rfl))
end Lift
namespace Lift
open Go Go.Proofs
end Lift
namespace Lift
open Go Go.Proofs
abbrev yY(v:List NQ):D:= .pr [.sl 1 (v.map aq),aQ]
theorem pv{v:List NQ}{f:Nat}{a b r:NQ}(hP:Pure Tryz.prog f [ib v,aq a,aq b] (.tu [aq r,aQ])):Pure Tryz.prog 104 [yY v,.fn f [] [],aq a,aq b] (aq r):=by
 refine qJ 32 Tryz.func104 rfl rfl rfl rfl (by kernel_rfl) (fun B0 F0 w0=>?_);refine qX 1 rfl (qI (qX 1 rfl (ae.BO tok rfl rfl rfl rfl rfl ?_)));refine qU 2 rfl (qR rfl rfl (ae.nil (AW.aH rfl ?_)))
 · skip
   refine AW.skip (qX 2 rfl (ae.BO tok rfl rfl rfl rfl rfl ?_));refine qU 4 rfl (ae.IF tok rfl rfl rfl rfl hP ?_);refine qU 5 rfl (qK 2 rfl (ae.BO tok rfl rfl rfl rfl rfl ?_));refine ae.Lg tok rfl rfl rfl rfl rfl rfl rfl rfl rfl rfl rfl rfl rfl rfl rfl ?_;exact qK 2 rfl (qN rfl)
theorem m7{m:Nat}{v:List NQ}{a b:NQ}(V:iJ m v)(ha:aA v.length a)(sa:aE m a)(hb:aA v.length b)(sb:aE m b):Pure Tryz.prog 103 [yY v,aq a,aq b] (aq (w7 a b)):=by
 refine qJ 11 Tryz.func103 rfl rfl rfl rfl (by kernel_rfl) (fun B0 F0 w0=>?_);have c:=pv (xq V ha sa hb sb);exact qX 1 rfl (qK 3 rfl (qM rfl c (qU 1 rfl (qN rfl))))
theorem jn{m:Nat}{v:List NQ}{a b:NQ}(V:iJ m v)(ha:aA v.length a)(sa:aE m a)(hb:aA v.length b)(sb:aE m b):Pure Tryz.prog 57 [yY v,aq a,aq b] (aq (gv a b)):=by
 refine qJ 11 Tryz.func57 rfl rfl rfl rfl (by kernel_rfl) (fun B0 F0 w0=>?_);have c:=pv (xo V ha sa hb sb);exact qX 1 rfl (qK 3 rfl (qM rfl c (qU 1 rfl (qN rfl))))
theorem gI{m:Nat}{v:List NQ}{a b:NQ}(hsT:sT v.length m≤17300000000000)(V:iJ m v)(ha:aA v.length a)(sa:aE m a)(hb:aA v.length b)(sb:aE m b):Pure Tryz.prog 58 [yY v,aq a,aq b] (aq (fT v a b)):=by
 refine qJ 11 Tryz.func58 rfl rfl rfl rfl (by kernel_rfl) (fun B0 F0 w0=>?_);have c:=pv (xp hsT V ha sa hb sb);exact qX 1 rfl (qK 3 rfl (qM rfl c (qU 1 rfl (qN rfl))))
theorem GO{l:Nat}{a:NQ}(ha:aA l a):gv [] a=kA a:=G0 ((cg l).plus ha.minus) ha.minus (funext fun i=>by
 rw[dY];show (0:Rat)+_=_
 rw[Rat.zero_add])
theorem gH{m:Nat}{v:List NQ}{a:NQ}(V:iJ m v)(ha:aA v.length a)(sa:aE m a):Pure Tryz.prog 60 [yY v,aq a] (aq (kA a)):=by
 refine qJ 8 Tryz.func60 rfl rfl rfl rfl (by kernel_rfl) (fun B0 F0 w0=>?_);have c:=jn V (cg _) (cL V.m1) ha sa;rw[GO ha] at c;exact qX 1 rfl (qK 2 rfl (qM rfl c (qU 1 rfl (qN rfl))))
theorem JL{l m:Nat}(hl:l≤2)(hm:m≤30000):pP l m:=by
 have h2:pP 2 m:=by
  show sT 2 m≤17300000000000∧sT 1 (sT 2 m)≤17300000000000∧sT 1 (sT 2 m)≤17300000000000;have e1: ∀k,sT 1 k=6*k+1:=fun k=>by show 2*(2*k)+2*k+1=_;omega
  have e2:sT 2 m=42*m+9:=by
   show sT 1 (sT 1 m)+sT 1 m+1=_;rw[e1,e1];omega
  rw[e2,e1];omega
 exact vP h2 hl
theorem uy{l m:Nat}(hl:l≤2):sT l m≤42*m+9:=by
 have e1: ∀k,sT 1 k=6*k+1:=fun k=>by show 2*(2*k)+2*k+1=_;omega
 match l,hl with
 | 0,_=>show 2*m≤_;omega
 | 1,_=>rw[e1];omega
 | 2,_ =>
   show sT 1 (sT 1 m)+sT 1 m+1≤_;rw[e1,e1];omega
structure Jd where
 c:NQ
 s:NQ
 x:NQ
 y:NQ
abbrev Jd.D(b:Jd):D:= .ag [aq b.c,aq b.s,aq b.x,aq b.y]
structure Jd.ok (l k:Nat) (b:Jd):Prop where
 c:aA l b.c∧aE k b.c
 s:aA l b.s∧aE k b.s
 x:aA l b.x∧aE k b.x
 y:aA l b.y∧aE k b.y
def Mv(v:List NQ)(b:Jd)(px py:NQ):NQ:=w7 (gv (fT v b.c px) (fT v b.s py)) b.x
def Mu(v:List NQ)(b:Jd)(px py:NQ):NQ:=w7 (w7 (fT v b.s px) (fT v b.c py)) b.y
theorem K0{v:List NQ}{b:Jd}{px py:NQ}(V:iJ 16 v)(hl:v.length≤2)(hb:b.ok v.length 16)(hx:aA v.length px∧aE 16 px)(hy:aA v.length py∧aE 16 py):
  (aA v.length (Mv v b px py)∧aE 1400 (Mv v b px py))∧(aA v.length (Mu v b px py)∧aE 1400 (Mu v b px py)):=by
 have s1:=uy (m:=16) hl;have p1:=gr V hb.c.1 hb.c.2 hx.1 hx.2;have p2:=gr V hb.s.1 hb.s.2 hy.1 hy.2;have p3:=gr V hb.s.1 hb.s.2 hx.1 hx.2;have p4:=gr V hb.c.1 hb.c.2 hy.1 hy.2;have q1:=kP p1.1 p1.2 p2.1 p2.2;have q2:=uS p3.1 p3.2 p4.1 p4.2;have r1:=uS q1.1 q1.2 hb.x.1 hb.x.2;have r2:=uS q2.1 q2.2 hb.y.1 hb.y.2;exact⟨⟨r1.1,r1.2.mono (by omega)⟩,⟨r2.1,r2.2.mono (by omega)⟩⟩
set_option maxHeartbeats 800000 in
theorem CJ{v:List NQ}{b:Jd}{p:Mark}(V:iJ 16 v)(hl:v.length≤2)(hb:b.ok v.length 16)(wx:p.x.w 16)(wy:p.y.w 16)(ox:p.x.okB=true)(oy:p.y.okB=true):
  Pure Tryz.prog 56 [yY v,b.D,p.D] (.tu [aq (Mv v b (sj p.x.val) (sj p.y.val)),aq (Mu v b (sj p.x.val) (sj p.y.val))]):=by
 refine qJ 50 Tryz.func56 rfl rfl rfl rfl (by kernel_rfl) (fun B0 F0 w0=>?_);have c1:=jq p.x wx (by decide) (by decide) ox;have c2:=jq p.y wy (by decide) (by decide) oy;have hx:=lg v.length (cF wx (by decide));have hy:=lg v.length (cF wy (by decide));generalize sj p.x.val=px at *;generalize sj p.y.val=py at *;have s1:=uy (m:=16) hl;have V2:=V.mono (k:=1400) (by decide) (by decide);have m1:=gI (by omega) V hb.c.1 hb.c.2 hx.1 hx.2;have m2:=gI (by omega) V hb.s.1 hb.s.2 hy.1 hy.2;have m3:=gI (by omega) V hb.s.1 hb.s.2 hx.1 hx.2;have m4:=gI (by omega) V hb.c.1 hb.c.2 hy.1 hy.2;have p1:=gr V hb.c.1 hb.c.2 hx.1 hx.2;have p2:=gr V hb.s.1 hb.s.2 hy.1 hy.2;have p3:=gr V hb.s.1 hb.s.2 hx.1 hx.2;have p4:=gr V hb.c.1 hb.c.2 hy.1 hy.2;have q1:=kP p1.1 p1.2 p2.1 p2.2;have q2:=uS p3.1 p3.2 p4.1 p4.2;have n1:=jn V2 p1.1 (p1.2.mono (by omega)) p2.1 (p2.2.mono (by omega));have n2:=m7 V2 p3.1 (p3.2.mono (by omega)) p4.1 (p4.2.mono (by omega));have o1:=m7 V2 q1.1 (q1.2.mono (by omega)) hb.x.1 (hb.x.2.mono (by omega));have o2:=m7 V2 q2.1 (q2.2.mono (by omega)) hb.y.1 (hb.y.2.mono (by omega));unfold Mv Mu;refine qX 4 rfl (qI (AW.draw aS 6 (by kernel_rfl) ?_));refine qP 2 rfl (qQ rfl c1 (qP 2 rfl (qQ rfl c2 (ah.nil (qU 2 rfl (qI (AW.draw aS 16 (by kernel_rfl) ?_)))))));refine qP 6 rfl (qQ rfl m1 (qP 4 rfl (qQ rfl m2 (qQ rfl n1 (qP 2 rfl (qQ rfl o1 (ah.nil (qU 1 rfl ?_))))))));refine qI (AW.draw aS 16 (by kernel_rfl) ?_);refine qP 6 rfl (qQ rfl m3 (qP 4 rfl (qQ rfl m4 (qQ rfl n2 (qP 2 rfl (qQ rfl o2 (ah.nil (qU 1 rfl ?_))))))));exact qK 4 rfl (qN rfl)
theorem mw:Pure Tryz.prog 61 [] (aq [1]):=by
 refine qJ 3 Tryz.func61 rfl rfl rfl rfl (by kernel_rfl) (fun B0 F0 w0=>?_);have c1:=iC 1 (by decide) (by decide);have c2:=jq (Qr ((1:Int):Rat)) (k:=1) (iG _ (by have:=gF;rw[show ((1:Int):Rat)=1 from rfl];omega)) (by decide) (by decide) (Cx _);rw[dk,show sj ((1:Int):Rat)=[1] from rfl] at c2;exact qX 1 rfl (qI (AW.region (qM rfl c1 (qM rfl c2 (qU 1 rfl (qN rfl))))))
end Lift
namespace Lift
open Go Go.Proofs
structure fu where
 c:List RD
 s:List RD
 x:List RD
 y:List RD
deriving Inhabited
abbrev fu.D(p:fu):D:= .ag [bw p.c,bw p.s,bw p.x,bw p.y]
structure Asm where
 rt:List (List RD)
 bodies:List fu
 modes:List Int
abbrev Asm.D(a:Asm):D:= .ag [.sl 1 (a.rt.map bw),.sl 4 (a.bodies.map fu.D),.sl 1 (a.modes.map (fun n=>dI n))]
structure fu.ok (m:Nat) (rt:List (List RD)) (p:fu):Prop where
 c:kK m rt p.c
 s:kK m rt p.s
 x:kK m rt p.x
 y:kK m rt p.y
structure Asm.ok (m:Nat) (a:Asm):Prop where
 t:qa m a.rt
 b: ∀i,i<a.bodies.length→(a.bodies.getD i default).ok m a.rt
 l:a.bodies.length≤1000000
def FP(rt:List (List RD))(p:fu)(k:Nat):Nat:=b5 rt.length ([p.c,p.s,p.x,p.y].getD k [])
def yA(rt:List (List RD))(p:fu):Nat:=fE (FP rt p) (4-0) 0
def eU(l:Lkg)(a:Asm):Nat:=if uo l≠0 then uo l else if dG a.rt≠0 then dG a.rt else if a.bodies.length≠l.bodies.length then 10 else fE (fun i=>yA a.rt (a.bodies.getD i default)) (a.bodies.length-0) 0
theorem KY{rt:List (List RD)}{a:List RD}(h:dG rt=0):kF rt [a]=b5 rt.length a:=by
 unfold kF;rw[if_neg (by rw[h];simp)];show (if b5 rt.length a=0 then 0 else b5 rt.length a)=_;by_cases h0:b5 rt.length a=0
 · rw[if_pos h0,h0]
 · rw[if_neg h0]
set_option maxHeartbeats 1600000 in
theorem Aa(l:Lkg)(a:Asm){K m:Nat}(hl:l.ok K)(hK:K≤20000000)(hb:l.bodies.length≤1000000000000)(ha:a.ok m):Pure Tryz.prog 55 [l.D,a.D] (uM (eU l a)):=by
 refine qJ 65 Tryz.func55 rfl rfl rfl rfl (by kernel_rfl) (fun B0 F0 w0=>?_);have cM:=nG l hl hK;obtain ⟨m0,t1,t2,tw,tk⟩:=ha.t.t;have cT:=kp a.rt tw t1 ha.t.l ha.t.ll tk;have hal:=ha.l;unfold eU;obtain ⟨E,hE⟩: ∃E,fE (fun i=>yA a.rt (a.bodies.getD i default)) (a.bodies.length-0) 0=E:=⟨_,rfl⟩;rw[hE];refine qX 3 rfl (qI (qX 1 rfl (qM rfl cM (qU 1 rfl (ae.nil ?_)))));rcases e1:uo l with _ | z
 rotate_left
 · rw[if_pos (Nat.succ_ne_zero z)];exact qX 1 rfl (qR rfl rfl (ae.nil (AW.aJ rfl (qX 2 rfl (qN rfl)))))
 rw[if_neg (by simp)];refine qX 1 rfl (qR rfl rfl (ae.nil (AW.aH rfl (AW.skip (AW.seq (qX 2 rfl (qM rfl cT (qU 1 rfl ?_))))))));refine ae.nil ?_;rcases e2:dG a.rt with _ | z
 rotate_left
 · rw[if_pos (Nat.succ_ne_zero z)];exact qX 1 rfl (qR rfl rfl (ae.nil (AW.aJ rfl (qX 2 rfl (qN rfl)))))
 rw[if_neg (by simp)];refine qX 1 rfl (qR rfl rfl (ae.nil (AW.aH rfl (AW.skip (AW.seq (qX 6 rfl ?_))))));rw[af,af];refine qU 1 rfl (ae.nil ?_);by_cases hbl:a.bodies.length=l.bodies.length;rotate_left
 · rw[if_pos hbl,bne_iff_ne.2 (show (a.bodies.length:Int)≠(l.bodies.length:Int) by omega)];exact AW.aJ rfl (qX 2 rfl (qN rfl))
 rw[if_neg (fun h=>h hbl),bne_eq_false_iff_eq.2 (show (a.bodies.length:Int)=(l.bodies.length:Int) by omega)];refine AW.aH rfl (AW.skip ?_);obtain ⟨rt,bs,md⟩:=a;simp only[] at *;refine AW.seq (qX 3 rfl ?_);rw[af];refine qU 1 rfl (ae.nil ?_);refine AW.block (AW.aL [3,33,34,35] (fun i:Nat=>[(3,.bx [.sl 1 (rt.map bw),.sl 4 (bs.map fu.D),.sl 1 (md.map (fun n=>dI n))]),(33,.d (.sl 4 (bs.map fu.D))),(34,.d (dI bs.length)),(35,.d (dI i))]) (fun i=>i≤bs.length∧fE (fun i=>yA rt (bs.getD i default)) (bs.length-i) i=E) (fun i=>bs.length-i) 0 rfl ⟨Nat.zero_le _,hE⟩ (fun i ⟨hi,hiE⟩=>?_));refine qX 1 rfl ?_;refine qI (AW.cond rfl (fun h=>?_) (fun h=>?_));rotate_left
 · have hii: ¬i<bs.length:=by have:=ar h;omega
   rw[e7 hii] at hiE;subst hiE;exact AW.exit (qX 1 rfl (qN rfl))
 have hii:i<bs.length:=by have:=ao h;omega
 have hg:(bs.map fu.D)[i]?=some (bs.getD i default).D:=by simp[hii]
 have hmiss:=fun h0:yA rt (bs.getD i default)=0=>(dh (f:=fun i=>yA rt (bs.getD i default)) hii h0).symm.trans hiE;have hhit:=fun h0:yA rt (bs.getD i default)≠0=>(eZ (f:=fun i=>yA rt (bs.getD i default)) hii h0).symm.trans hiE;have hp:=ha.b i hii;generalize bs.getD i default=p at hg hmiss hhit hp;obtain ⟨P,hP⟩: ∃P,yA rt p=P:=⟨_,rfl⟩;rw[hP] at hmiss hhit;unfold yA at hP;obtain ⟨pc,ps,px,py⟩:=p;refine AW.skip (AW.seq (AW.block (AW.seq (AW.region (ae.idx tok (fu.mk pc ps px py).D rfl rfl rfl rfl (aj i) hg ?_)))));refine qU 3 rfl (qK 8 rfl (ae.mX tok rfl rfl rfl rfl rfl ?_));refine qU 2 rfl (ae.nil ?_);refine AW.block (AW.aL [3,33,34,35,47,48,49] (fun k:Nat=>[(3,.bx [.sl 1 (rt.map bw),.sl 4 (bs.map fu.D),.sl 1 (md.map (fun n=>dI n))]),(33,.d (.sl 4 (bs.map fu.D))),(34,.d (dI bs.length)),(35,.d (dI i)),(47,.d (.sl 1 [bw pc,bw ps,bw px,bw py])),(48,.d (dI 4)),(49,.d (dI k))]) (fun k=>k≤4∧fE (FP rt ⟨pc,ps,px,py⟩) (4-k) k=P) (fun k=>4-k) 0 rfl ⟨Nat.zero_le _,hP⟩ (fun k ⟨hk,hkP⟩=>?_));refine qX 1 rfl ?_;refine qI (AW.cond rfl (fun h=>?_) (fun h=>?_));rotate_left
 · have hkk: ¬k<4:=by have:=ar h;omega
   rw[e7 hkk] at hkP;refine AW.exit (qT 1 rfl ?_);rw[aI (x:=(i:Int)+1) (by omega) (by omega)];refine qU 1 rfl (ae.nil ?_);exact⟨i+1,rfl,⟨hii,hmiss hkP.symm⟩,by omega⟩
 have hkk:k<4:=by have:=ao h;omega
 have km:=fun h0:FP rt ⟨pc,ps,px,py⟩ k=0=>(dh (f:=FP rt ⟨pc,ps,px,py⟩) hkk h0).symm.trans hkP;have kh:=fun h0:FP rt ⟨pc,ps,px,py⟩ k≠0=>(eZ (f:=FP rt ⟨pc,ps,px,py⟩) hkk h0).symm.trans hkP
 obtain ⟨q,hq,hqg,hqn⟩: ∃q,[bw pc,bw ps,bw px,bw py][k]?=some (bw q)∧FP rt ⟨pc,ps,px,py⟩ k=b5 rt.length q∧kK m rt q:=by
  match k,hkk with
  | 0,_=>exact⟨pc,rfl,rfl,hp.c⟩
  | 1,_=>exact⟨ps,rfl,rfl,hp.s⟩
  | 2,_=>exact⟨px,rfl,rfl,hp.x⟩
  | 3,_=>exact⟨py,rfl,rfl,hp.y⟩
 rw[hqg] at km kh;have cN:=y7 ha.t hqn;unfold Lx at cN;rw[KY e2] at cN;refine AW.skip (AW.seq (AW.block (AW.seq (AW.region (ae.idx tok (bw q) rfl rfl rfl rfl (aj k) hq ?_)))));refine qU 2 rfl (qK 3 rfl ?_);rcases e3:b5 rt.length q with _ | z
 rotate_left
 · rw[e3] at kh;rw[e3,if_pos (Nat.succ_ne_zero z)] at cN;have h1:=kh (Nat.succ_ne_zero z);have h2:=hhit (by rw[← h1];exact Nat.succ_ne_zero z);rw[← h1] at h2;subst h2;exact qM rfl cN (qU 5 rfl (qK 1 rfl (qR rfl rfl (ae.nil (AW.aJ rfl (qX 2 rfl (qN rfl)))))))
 rw[e3] at km;rw[e3,if_neg (by simp)] at cN;refine qM rfl cN (qU 5 rfl (qK 1 rfl (qR rfl rfl (ae.nil (AW.aH rfl (AW.skip (qT 1 rfl ?_)))))));rw[aI (x:=(k:Int)+1) (by omega) (by omega)];refine qU 1 rfl (ae.nil ?_);exact⟨k+1,rfl,⟨hkk,km rfl⟩,by omega⟩
def Du(js:List a9):Nat→Int
 | 0=>0
 | i+1=>Du js i+if (js.getD i default).kind=0 then 2 else 1
theorem HZ(js:List a9): ∀i,0≤Du js i∧Du js i≤2*i
 | 0=>by exact⟨Int.le_refl _,Int.le_refl _⟩
 | i+1=>by
   have:=HZ js i;show 0≤Du js i+(if _ then _ else _)∧Du js i+(if _ then _ else _)≤_;split<;>omega
def LO(l:Lkg):Int:=3*((l.bodies.length:Int) -1) -Du l.joints l.joints.length
def LP(l:Lkg):D:=if uo l≠0 then .tu [dI 0,uM (uo l)] else .tu [dI (LO l),aQ]
theorem ua(l:Lkg){K:Nat}(hl:l.ok K)(hK:K≤20000000):Pure Tryz.prog 13 [l.D] (LP l):=by
 refine qJ 34 Tryz.func13 rfl rfl rfl rfl (by kernel_rfl) (fun B0 F0 w0=>?_);have cM:=nG l hl hK;have nb:=hl.nb;have nj:=hl.nj;unfold big at nb nj;unfold LP LO;refine qX 3 rfl (qI (qX 1 rfl (qM rfl cM (qU 1 rfl (ae.nil ?_)))));rcases e1:uo l with _ | z
 rotate_left
 · rw[if_pos (Nat.succ_ne_zero z)];exact qX 1 rfl (qR rfl rfl (ae.nil (AW.aJ rfl (qX 3 rfl (qN rfl)))))
 rw[if_neg (by simp)];refine qX 1 rfl (qR rfl rfl (ae.nil (AW.aH rfl (AW.skip ?_))));clear cM e1 hl;obtain ⟨ln,bs,js,ds⟩:=l;simp only[] at nb nj ⊢;refine qX 3 rfl ?_;rw[af];refine qU 1 rfl ?_;rw[aI (x:=(bs.length:Int) -1) (by omega) (by omega)];refine qU 1 rfl ?_;rw[aI (x:=3*((bs.length:Int) -1)) (by omega) (by omega)];refine qU 1 rfl (qI (qX 3 rfl ?_));rw[af];refine qU 1 rfl (ae.nil (AW.block ?_));refine AW.aL [5,19,20,21] (fun i:Nat=>[(5,.d (dI (3*((bs.length:Int) -1) -Du js i))),(19,.d (aB js)),(20,.d (dI js.length)),(21,.d (dI i))]) (fun i=>i≤js.length) (fun i=>js.length-i) 0 (by show _=([(5,.d (dI (3*((bs.length:Int) -1) -0))),(19,.d (aB js)),(20,.d (dI js.length)),(21,.d (dI (0:Nat)))]:St);rw[Int.sub_zero];rfl) (Nat.zero_le _) (fun i hi=>?_);refine qX 1 rfl ?_;refine qI (AW.cond rfl (fun h=>?_) (fun h=>?_));rotate_left
 · have hii:i=js.length:=by have:=ar h;have:i≤js.length:=hi;omega
   subst hii;exact AW.exit (qX 3 rfl (qN rfl))
 have hii:i<js.length:=by have:=ao h;omega
 have hg:(js.map a9.D)[i]?=some (js.getD i default).D:=by simp[hii]
 have hgc:Du js (i+1)=Du js i+if (js.getD i default).kind=0 then 2 else 1:=rfl
 have gb:=HZ js i;generalize js.getD i default=j at hg hgc;obtain ⟨nm,kd,a,pt,b,on,to⟩:=j;simp only[] at hgc;refine AW.skip (AW.seq (AW.block (AW.seq (AW.region (ae.idx tok (a9.mk nm kd a pt b on to).D rfl rfl rfl rfl (aj i) hg ?_)))));refine qU 3 rfl (qK 3 rfl (ae.nil ?_));by_cases hkd:kd=0
 · rw[if_pos hkd] at hgc;rw[beq_iff_eq.2 hkd];refine AW.aJ rfl (qT 2 rfl ?_);rw[aI (x:=3*((bs.length:Int) -1) -Du js i-2) (by omega) (by omega),show 3*((bs.length:Int) -1) -Du js i-2=3*((bs.length:Int) -1) -Du js (i+1) by omega];refine qU 1 rfl (ae.nil (qT 1 rfl ?_));rw[aI (x:=(i:Int)+1) (by omega) (by omega)];refine qU 1 rfl (ae.nil ?_);exact⟨i+1,rfl,hii,by omega⟩
 · rw[if_neg hkd] at hgc;rw[beq_eq_false_iff_ne.2 hkd];refine AW.aH rfl (qT 2 rfl ?_);rw[aI (x:=3*((bs.length:Int) -1) -Du js i-1) (by omega) (by omega),show 3*((bs.length:Int) -1) -Du js i-1=3*((bs.length:Int) -1) -Du js (i+1) by omega];refine qU 1 rfl (ae.nil (qT 1 rfl ?_));rw[aI (x:=(i:Int)+1) (by omega) (by omega)];refine qU 1 rfl (ae.nil ?_);exact⟨i+1,rfl,hii,by omega⟩
end Lift
namespace Lift
open Go Go.Proofs
section
open Go.RowKit (Below)
variable {P:Program} {T:Ty} {B:Nat} {F0:Nat→Prop} {w0:cX} {n:Nat} {σ:St} {all:Array Oper} {rest:List Oper} {o:Oper} {d:Nat} {K:St→Prop}
theorem ae.Nq(hT:bD P T){h e lo m:Nat}{av:AV}{l ys:List D}{row:AV}(hd:o.dst=some d)(hdn:Nat.ble (d+1) n=true)(hg:aG all σ o=true)(hx:NN T σ o.op=some (h,av,e,l,lo,m,ys))(hm:0<m)(hy:ys≠[])
  (he:av.dc (l.take lo++ys.take (min ys.length m)++l.drop (lo+min ys.length m))=row)
  (hk:ae P B F0 w0 n all rest K ((d,.d (.v (.int .i64 ((min ys.length m:Nat):Int))))::(h,row)::σ)):ae P B F0 w0 n all (o::rest) K σ :=
 ae.copy hT hd hdn hg hx hm hy (by rw[he];exact hk)
end
abbrev Fm(l:List NQ):List D:=l.map aq
def mr(r:List NQ)(b:Int)(x y w:NQ):List NQ:=if 0<b then r.take (3*(b.toNat-1))++[x,y,w]++r.drop (3*(b.toNat-1)+3) else r
theorem qW{r:List NQ}{b:Int}(x y w:NQ)(h:0<b→3*b.toNat≤r.length):(mr r b x y w).length=r.length:=by
 unfold mr;split
 · rename_i h0;have:=h h0;rw[List.length_append,List.length_append,bb,List.length_drop];show min _ _+3+_=_;omega
 · rfl
def Ev(V:Value)(r:List NQ)(b:Int)(x y w:NQ)(res:D)(R':List LR):Prop:=res= .tu []∧R'=[(V,AV.ow 52 (Fm (mr r b x y w)))]
theorem iV(V:Value)(r:List NQ)(b:Int)(x y w:NQ)(h1:0<b→3*b.toNat≤r.length)(hb:b≤1000000)(hb0: -1000000≤b):l3 Tryz.prog 59 [.v V,dI b,aq x,aq y,aq w] [(V,AV.ow 52 (Fm r))] (Ev V r b x y w):=by
 refine l3.intro (n:=22) tok Tryz.func59 rfl rfl rfl (Nat.le_of_ble_eq_true rfl) (by kernel_rfl) (fun B0 F0 w0=>?_);unfold Ev;refine AZ.seq (AZ.iK (fun B1 F1 w1=>?_));refine qU 2 rfl ?_;by_cases h0:0<b;rotate_left
 · rw[a7 h0];refine ae.nil ⟨rfl,?_⟩;refine AZ.aH rfl ?_;refine AZ.skip ?_;exact⟨.tu [],rfl,rfl,by unfold mr;rw[if_neg h0]⟩
 rw[aO h0];refine ae.nil ⟨rfl,?_⟩;have h1:=h1 h0;have hlo:3*(b-1)=((3*(b.toNat-1):Nat):Int):=by omega
 refine AZ.aJ rfl ?_;refine AZ.region ?_;refine ak.cut 4 rfl (fun B1 F1 w1=>?_);refine qU 3 rfl ?_;rw[aI (x:=b-1) (by omega) (by omega)];refine qU 1 rfl ?_;rw[aI (x:=3*(b-1)) (by omega) (by omega),hlo];refine ae.nil ⟨rfl,?_⟩;refine ak.fp 12 0 rfl rfl rfl ?_;refine ak.cut 6 rfl (fun B1 F1 w1=>?_);refine ae.Mr tok rfl rfl rfl rfl (aj _) trivial (by show 3*(b.toNat-1)≤(Fm r).length;rw[af];omega) (ai _) ?_;refine qU 3 rfl (ae.mX tok rfl rfl rfl rfl rfl ?_);refine ae.Nq tok (row:= .ow 52 (Fm (mr r b x y w))) rfl rfl rfl rfl (by show 0<(Fm r).length-3*(b.toNat-1);rw[af];omega) (by simp) ?_ ?_
 · have e3:min [aq x,aq y,aq w].length ((Fm r).length-3*(b.toNat-1))=3:=by
    rw[af];show min 3 _=3;omega
   show AV.ow _ ((Fm r).take (0+3*(b.toNat-1))++[aq x,aq y,aq w].take (min [aq x,aq y,aq w].length ((Fm r).length-3*(b.toNat-1)))++(Fm r).drop (0+3*(b.toNat-1)+min [aq x,aq y,aq w].length ((Fm r).length-3*(b.toNat-1))))=_;rw[e3,Nat.zero_add];unfold mr;rw[if_pos h0];show AV.ow _ ((r.map aq).take _++[x,y,w].map aq++(r.map aq).drop _)=AV.ow _ ((_++[x,y,w]++_).map aq);rw[List.map_append,List.map_append,List.map_take,List.map_drop]
 refine ae.nil ⟨rfl,?_⟩;refine ak.back 12 0 rfl rfl rfl (List.Mem.head _) rfl ?_;refine ak.nil ?_;exact⟨.tu [],rfl,rfl,rfl⟩
end Lift
namespace Lift
open Go Go.Proofs
theorem DE{f:Nat→Nat}: ∀{m i:Nat},fE f m i=0→ ∀k,i≤k→k<i+m→f k=0
 | 0,i,_,k,h1,h2=>by omega
 | m+1,i,h,k,h1,h2=>by
   rw[fE] at h;split at h
   · rename_i h0;rcases Nat.eq_or_lt_of_le h1 with e | e
     · subst e;exact h0
     · exact DE h k (by omega) (by omega)
   · rename_i h0;exact absurd h h0
structure Ot (bs:List Body) (j:a9):Prop where
 k:j.kind=0∨j.kind=1
 a:0≤j.a∧j.a<bs.length
 b:0≤j.b∧j.b<bs.length
 ab:j.a≠j.b
 pt:0≤j.pt∧j.pt<(bs.getD j.a.toNat default).pts.length
 on:0≤j.on∧j.on<(bs.getD j.b.toNat default).pts.length
 to:j.kind≠0→0≤j.to∧j.to<(bs.getD j.b.toNat default).pts.length
structure LkG (l:Lkg):Prop where
 b1:0<l.bodies.length
 b8:l.bodies.length≤8
 j16:l.joints.length≤16
 p: ∀i,i<l.bodies.length→ ∀k,k<(l.bodies.getD i default).pts.length→((l.bodies.getD i default).pts.getD k default).x.okB=true∧((l.bodies.getD i default).pts.getD k default).y.okB=true
 j: ∀i,i<l.joints.length→Ot l.bodies (l.joints.getD i default)
theorem B9{i:Int}{n:Nat}(h:jz i n=true):0≤i∧i<n:=ao h
theorem K1{a b:Bool}(h: ¬(a&&b)=false):a=true∧b=true:=by cases a<;>cases b<;>simp_all
theorem MW{l:Lkg}(h:uo l=0):LkG l:=by
 unfold uo at h;split at h
 · cases h
 split at h
 · cases h
 rename_i h2;split at h
 · cases h
 rename_i h3;split at h
 · rename_i h4;exact absurd h h4
 rename_i h4;split at h
 · rename_i h5;exact absurd h h5
 rename_i h5;have h4:bM l.bodies=0:=Decidable.not_not.1 h4;have h5:bA l.bodies l.joints=0:=Decidable.not_not.1 h5;unfold bM at h4;unfold bA at h5;split at h5
 · cases h5
 rename_i h6;refine⟨List.length_pos_iff.2 h2,by omega,by omega,fun i hi k hk=>?_,fun i hi=>?_⟩
 · have:=DE h4 i (Nat.zero_le _) (by omega);unfold fX at this;split at this
   · cases this
   split at this
   · cases this
   unfold r9 at this;split at this
   · cases this
   have:=DE this k (Nat.zero_le _) (by omega);unfold uB at this;split at this
   · cases this
   split at this
   · cases this
   split at this
   · assumption
   · cases this
 · have:=DE h5 i (Nat.zero_le _) (by omega);unfold cZ at this;split at this
   · cases this
   split at this
   · cases this
   generalize l.joints.getD i default=j at this;unfold jE at this;split at this
   · cases this
   rename_i g1;split at this
   · cases this
   rename_i g2;split at this
   · cases this
   rename_i g3;split at this
   · cases this
   rename_i g4;obtain ⟨a1,a2⟩:=K1 g2;obtain ⟨a3,a4⟩:=K1 g4
   have hk:j.kind=0∨j.kind=1:=by
    by_cases e:j.kind=0
    · exact .inl e
    · by_cases e2:j.kind=1
      · exact .inr e2
      · exact absurd ⟨e,e2⟩ g1
   refine⟨hk,B9 a1,B9 a2,g3,B9 a3,B9 a4,fun hne=>?_⟩;rw[if_neg hne] at this;split at this
   · cases this
   rename_i g5
   have:jz j.to (l.bodies.getD j.b.toNat default).pts.length=true:=by
    cases hv:jz j.to (l.bodies.getD j.b.toNat default).pts.length
    · exact absurd hv g5
    · rfl
   exact B9 this
def xH(p:fu):Jd:=⟨au p.c,au p.s,au p.x,au p.y⟩
instance:Inhabited Jd:=⟨⟨[],[],[],[]⟩⟩
structure Ny (l:Lkg) (a:Asm):Prop where
 lk:LkG l
 tw:dG a.rt=0
 ln:a.bodies.length=l.bodies.length
 pl: ∀i,i<a.bodies.length→yA a.rt (a.bodies.getD i default)=0
theorem zI{l:Lkg}{a:Asm}(h:eU l a=0):Ny l a:=by
 unfold eU at h;split at h
 · rename_i h0;exact absurd h h0
 rename_i h0;split at h
 · rename_i h1;exact absurd h h1
 rename_i h1;split at h
 · cases h
 rename_i h2;exact⟨MW (Decidable.not_not.1 h0),Decidable.not_not.1 h1,Decidable.not_not.1 h2,fun i hi=>DE h i (Nat.zero_le _) (by omega)⟩
theorem Hq{m:Nat}{rt:List (List RD)}{p:fu}(m1:1≤m)(hp:p.ok m rt)(h:yA rt p=0):(xH p).ok rt.length m∧p.D=(xH p).D:=by
 have g:=fun k (hk:k<4)=>DE (f:=FP rt p) (m:=4) (i:=0) h k (Nat.zero_le _) (by omega);have c:=jM m1 hp.c (g 0 (by decide));have s:=jM m1 hp.s (g 1 (by decide));have x:=jM m1 hp.x (g 2 (by decide));have y:=jM m1 hp.y (g 3 (by decide));refine⟨⟨⟨c.1,c.2.1⟩,⟨s.1,s.2.1⟩,⟨x.1,x.2.1⟩,⟨y.1,y.2.1⟩⟩,?_⟩;show D.ag [bw p.c,bw p.s,bw p.x,bw p.y]=_;rw[c.2.2,s.2.2,x.2.2,y.2.2];rfl
def uE(v:List NQ)(l:Lkg)(a:Asm)(b p:Int):NQ:=Mv v (xH (a.bodies.getD b.toNat default)) (sj ((l.bodies.getD b.toNat default).pts.getD p.toNat default).x.val) (sj ((l.bodies.getD b.toNat default).pts.getD p.toNat default).y.val)
def uD(v:List NQ)(l:Lkg)(a:Asm)(b p:Int):NQ:=Mu v (xH (a.bodies.getD b.toNat default)) (sj ((l.bodies.getD b.toNat default).pts.getD p.toNat default).x.val) (sj ((l.bodies.getD b.toNat default).pts.getD p.toNat default).y.val)
def r6(n:Nat):List NQ:=List.replicate (3*(n-1)) []
def Ll(v:List NQ)(r:List NQ)(a b:Int)(px py qx qy rx ry:NQ):List NQ :=
 mr (mr r a (gv qy ry) (gv rx qx) (gv (fT v (gv rx qx) px) (fT v (gv qy ry) py))) b (kA (gv qy ry)) (kA (gv rx qx)) (kA (gv (fT v (gv rx qx) px) (fT v (gv qy ry) py)))
def Lw(r:List NQ)(a b:Int)(py qy:NQ):List NQ:=mr (mr r a [1] [] (kA py)) b (kA [1]) [] qy
def Lv(r:List NQ)(a b:Int)(px qx:NQ):List NQ:=mr (mr r a [] [1] px) b [] (kA [1]) (kA qx)
def rp(v:List NQ)(l:Lkg)(a:Asm)(j:a9):List (List NQ) :=
 if j.kind=1 then [Ll v (r6 l.bodies.length) j.a j.b (uE v l a j.a j.pt) (uD v l a j.a j.pt) (uE v l a j.b j.on) (uD v l a j.b j.on) (uE v l a j.b j.to) (uD v l a j.b j.to)]
 else [Lw (r6 l.bodies.length) j.a j.b (uD v l a j.a j.pt) (uD v l a j.b j.on),Lv (r6 l.bodies.length) j.a j.b (uE v l a j.a j.pt) (uE v l a j.b j.on)]
def xK(j:a9):Nat:=if j.kind=1 then 1 else 2
theorem Ae(v:List NQ)(l:Lkg)(a:Asm)(j:a9):(rp v l a j).length=xK j:=by
 unfold rp xK;split<;>rfl
def im(v:List NQ)(l:Lkg)(a:Asm):Nat→List (List NQ)
 | 0=>[]
 | i+1=>im v l a i++rp v l a (l.joints.getD i default)
def tX(js:List a9):Nat→List Int
 | 0=>[]
 | i+1=>tX js i++List.replicate (xK (js.getD i default)) (i:Int)
theorem rZ(v:List NQ)(l:Lkg)(a:Asm): ∀i,(im v l a i).length≤2*i
 | 0=>Nat.zero_le _
 | i+1=>by
   have h1:=rZ v l a i;have h2:=Ae v l a (l.joints.getD i default);have h3:xK (l.joints.getD i default)≤2:=by unfold xK;split<;>omega
   show (im v l a i++_).length≤_;rw[List.length_append,h2];omega
theorem EA(js:List a9): ∀i,(tX js i).length≤2*i
 | 0=>Nat.zero_le _
 | i+1=>by
   have h1:=EA js i;have h3:xK (js.getD i default)≤2:=by unfold xK;split<;>omega
   show (tX js i++_).length≤_;rw[List.length_append,List.length_replicate];omega
abbrev sY(r:List NQ):D:= .sl 1 (Fm r)
abbrev Nx(m:List (List NQ)):D:= .sl 1 (m.map sY)
def Es(l:Lkg)(a:Asm):D:=if eU l a≠0 then .tu [.sl 1 [],.sl 1 [],uM (eU l a)] else .tu [Nx (im (a.rt.map au) l a l.joints.length),.sl 1 ((tX l.joints l.joints.length).map (fun n=>dI n)),aQ]
theorem Bk(n:Nat):(r6 n).length=3*(n-1):=List.length_replicate
end Lift
namespace Lift
open Go Go.Proofs
section
open Go.RowKit (Below)
variable {P:Program} {T:Ty} {B:Nat} {F0:Nat→Prop} {w0:cX} {n:Nat} {σ:St} {all:Array Oper} {rest:List Oper} {o:Oper} {d:Nat} {K:St→Prop}
theorem ae.HI(hT:bD P T)(r:List NQ){z e:Nat}{te:TI}{m:Int}(hd:o.dst=some d)(hdn:Nat.ble (d+1) n=true)(hg:aG all σ o=true)(hx:Mt T σ.get o.op=some (e,te,m))(hz:l6 te=true)(hzd:uX te= .sl 3 [])(hb:te.bytes=24)(hm:m=(z:Int))(h1:z≤1000000)(hr:r=List.replicate z [])
  (h:ae P B F0 w0 n all rest K ((d,.ow e (Fm r))::σ.kill d)):ae P B F0 w0 n all (o::rest) K σ:=by
 subst hm;subst hr;refine ae.make hT hd hdn hg hx hz (by omega) (by rw[hb];omega) (by omega) ?_;rw[hzd,show List.replicate ((z:Int)).toNat (D.sl 3 [])=Fm (List.replicate z []) by unfold Fm;rw[List.map_replicate];rfl];exact h
end
set_option maxHeartbeats 6400000 in
theorem tC(l:Lkg)(a:Asm)(hl:l.ok 16)(ha:a.ok 16)(h2:a.rt.length≤2)(hnb:l.bodies.length≤1000000000000):Pure Tryz.prog 32 [l.D,a.D] (Es l a):=by
 refine qJ 211 Tryz.func32 rfl rfl rfl rfl (by kernel_rfl) (fun B0 F0 w0=>?_);have cC:=Aa l a hl (by decide) hnb ha;unfold Es;refine qX 5 rfl (qI (qX 2 rfl (qM rfl cC (qU 1 rfl (ae.nil ?_)))));rcases e1:eU l a with _ | z
 rotate_left
 · rw[if_pos (Nat.succ_ne_zero z)];exact qX 1 rfl (qR rfl rfl (ae.nil (AW.aJ rfl (qX 4 rfl (qN rfl)))))
 rw[if_neg (by simp)];refine qX 1 rfl (qR rfl rfl (ae.nil (AW.aH rfl (AW.skip ?_))));have G:=zI e1;have V:=iJ.of ha.t G.tw;have W:=qi ha.t G.tw;have hvl:(a.rt.map au).length≤2:=by rw[af];exact h2
 have hrt:a.rt.map bw=(a.rt.map au).map aq:=by
  have:=W.eq;simpa using this
 have gP: ∀b:Int,0≤b→b<l.bodies.length→(a.bodies.map fu.D)[b.toNat]?=some (xH (a.bodies.getD b.toNat default)).D∧(xH (a.bodies.getD b.toNat default)).ok (a.rt.map au).length 16:=fun b b0 b1=>by
  have hln:=G.ln;have hb:b.toNat<a.bodies.length:=by omega
  have h3:=Hq (by decide) (ha.b _ hb) (G.pl _ hb);rw[af,← h3.2];exact⟨by simp[hb],h3.1⟩
 have gB: ∀b:Int,0≤b→b<l.bodies.length→(l.bodies.map Body.D)[b.toNat]?=some (l.bodies.getD b.toNat default).D:=fun b b0 b1=>by
  exact getM Body.D (by omega)
 have gM: ∀(b p:Int),0≤p→p<(l.bodies.getD b.toNat default).pts.length→((l.bodies.getD b.toNat default).pts.map Mark.D)[p.toNat]?=some ((l.bodies.getD b.toNat default).pts.getD p.toNat default).D:=fun b p p0 p1=>by
  exact getM Mark.D (by omega)
 have cAt: ∀(b p:Int),0≤b→b<l.bodies.length→0≤p→p<(l.bodies.getD b.toNat default).pts.length→Pure Tryz.prog 56 [yY (a.rt.map au),(xH (a.bodies.getD b.toNat default)).D,((l.bodies.getD b.toNat default).pts.getD p.toNat default).D] (.tu [aq (uE (a.rt.map au) l a b p),aq (uD (a.rt.map au) l a b p)]):=fun b p b0 b1 p0 p1=>by
  have hm:=(hl.b b.toNat).2.2 p.toNat;have ho:=G.lk.p b.toNat (by omega) p.toNat (by omega);exact CJ V hvl (gP b b0 b1).2 hm.2.1 hm.2.2 ho.1 ho.2
 have sAt: ∀(b p:Int),0≤b→b<l.bodies.length→0≤p→p<(l.bodies.getD b.toNat default).pts.length→(aA (a.rt.map au).length (uE (a.rt.map au) l a b p)∧aE 1400 (uE (a.rt.map au) l a b p))∧(aA (a.rt.map au).length (uD (a.rt.map au) l a b p)∧aE 1400 (uD (a.rt.map au) l a b p)):=fun b p b0 b1 p0 p1=>by
  have hm:=(hl.b b.toNat).2.2 p.toNat;exact K0 V hvl (gP b b0 b1).2 (lg _ (cF hm.2.1 (by decide))) (lg _ (cF hm.2.2 (by decide)))
 have hRs: ∀i,im (a.rt.map au) l a (i+1)=im (a.rt.map au) l a i++rp (a.rt.map au) l a (l.joints.getD i default):=fun i=>rfl;have hR0:im (a.rt.map au) l a 0=[]:=rfl;have hRl:=rZ (a.rt.map au) l a;have hJ: ∀j,rp (a.rt.map au) l a j=if j.kind=1 then [Ll (a.rt.map au) (r6 l.bodies.length) j.a j.b (uE (a.rt.map au) l a j.a j.pt) (uD (a.rt.map au) l a j.a j.pt) (uE (a.rt.map au) l a j.b j.on) (uD (a.rt.map au) l a j.b j.on) (uE (a.rt.map au) l a j.b j.to) (uD (a.rt.map au) l a j.b j.to)] else [Lw (r6 l.bodies.length) j.a j.b (uD (a.rt.map au) l a j.a j.pt) (uD (a.rt.map au) l a j.b j.on),Lv (r6 l.bodies.length) j.a j.b (uE (a.rt.map au) l a j.a j.pt) (uE (a.rt.map au) l a j.b j.on)]:=fun j=>rfl
 generalize im (a.rt.map au) l a=R at hRs hR0 hRl ⊢;generalize uE (a.rt.map au) l a=X at cAt sAt hJ;generalize uD (a.rt.map au) l a=Y at cAt sAt hJ;generalize rp (a.rt.map au) l a=J at hRs hJ;have hOs: ∀i,tX l.joints (i+1)=tX l.joints i++List.replicate (xK (l.joints.getD i default)) (i:Int):=fun i=>rfl;have hO0:tX l.joints 0=[]:=rfl;have hOl:=EA l.joints;generalize tX l.joints=O at hOs hO0 hOl ⊢;have LG:=G.lk;clear e1 G W cC ha;obtain ⟨ln,lb,js,lds⟩:=l;obtain ⟨rt,bs,md⟩:=a;have lb1:=LG.b1;have lb8:=LG.b8;have lj:=LG.j16;have lJ:=LG.j;clear LG;simp only[] at *
 have hD:(Asm.mk rt bs md).D=D.ag [.sl 1 ((rt.map au).map aq),.sl 4 (bs.map fu.D),.sl 1 (md.map (fun n=>dI n))]:=by
  show D.ag [.sl 1 (rt.map bw),_,_]=_;rw[hrt]
 rw[hD];clear hrt hD;generalize rt.map au=v at *;refine qX 4 rfl (ae.N9 34 rfl ?_);refine qU 1 rfl (qK 1 rfl (qK 1 rfl (qI (qX 3 rfl ?_))));rw[af];refine qU 1 rfl (ae.nil (AW.block ?_));refine AW.aL [2,3,8,9,10,36,37,38] (fun i:Nat=>[(2,.bx [dS ln,aC lb,aB js,ay lds]),(3,.bx [.sl 1 (v.map aq),.sl 4 (bs.map fu.D),.sl 1 (md.map (fun n=>dI n))]),(8,.d (yY v)),(9,.ow 27 ((R i).map sY)),(10,.ow 3 ((O i).map (fun n=>dI n))),(36,.d (aB js)),(37,.d (dI js.length)),(38,.d (dI i))]) (fun i=>i≤js.length) (fun i=>js.length-i) 0 (by show _=([(2,.bx [dS ln,aC lb,aB js,ay lds]),(3,.bx [.sl 1 (v.map aq),.sl 4 (bs.map fu.D),.sl 1 (md.map (fun n=>dI n))]),(8,.d (yY v)),(9,.ow 27 ((R 0).map sY)),(10,.ow 3 ((O 0).map (fun n=>dI n))),(36,.d (aB js)),(37,.d (dI js.length)),(38,.d (dI (0:Nat)))]:St);rw[hR0,hO0];rfl) (Nat.zero_le _) (fun i hi=>?_);refine qX 1 rfl ?_;refine qI (AW.cond rfl (fun h=>?_) (fun h=>?_));rotate_left
 · have hii:i=js.length:=by have:=ar h;have:i≤js.length:=hi;omega
   subst hii;refine AW.exit (AW.seq (AW.jh tok 9 rfl rfl ?_));refine AW.jh tok 10 rfl rfl ?_;refine AW.draw aS 8 (by kernel_rfl) ?_;refine qP 3 rfl (ah.BO tok rfl rfl rfl rfl rfl ?_);exact qP 4 rfl (ah.nil (qU 1 rfl (qN rfl)))
 have hii:i<js.length:=by have:=ao h;omega
 have hg:(js.map a9.D)[i]?=some (js.getD i default).D:=by simp[hii]
 have jg:=lJ i hii;have hRi:=hRs i;have hOi:=hOs i;have hRl:=hRl i;have hOl:=hOl i;rw[hJ] at hRi;generalize js.getD i default=j at hg jg hRi hOi;obtain ⟨nm,kd,ja,jp,jb,jo,jt⟩:=j;obtain ⟨jk,⟨a0,a1⟩,⟨b0,b1⟩,ab,⟨p0,p1⟩,⟨o0,o1⟩,jto⟩:=jg;simp only[] at *;have gPa:=(gP ja a0 a1).1;have gPb:=(gP jb b0 b1).1;have gBa:=gB ja a0 a1;have gBb:=gB jb b0 b1;have gMp:=gM ja jp p0 p1;have gMo:=gM jb jo o0 o1;have cA:=cAt ja jp a0 a1 p0 p1;have cB:=cAt jb jo b0 b1 o0 o1;obtain ⟨⟨sx1,sx2⟩,⟨sy1,sy2⟩⟩:=sAt ja jp a0 a1 p0 p1;obtain ⟨⟨tx1,tx2⟩,⟨ty1,ty2⟩⟩:=sAt jb jo b0 b1 o0 o1;refine AW.skip (AW.seq (AW.block (qX 1 rfl (ae.idx tok (a9.mk nm kd ja jp jb jo jt).D rfl rfl rfl rfl (aj i) hg ?_))));refine qU 4 rfl (qK 4 rfl (ae.idx tok (lb.getD jb.toNat default).D rfl rfl rfl rfl b0 gBb ?_));refine qU 3 rfl (qI (AW.draw aS 23 (by kernel_rfl) ?_));refine qP 5 rfl (ah.idx tok (xH (bs.getD ja.toNat default)).D rfl rfl rfl rfl rfl a0 gPa ?_);refine qP 5 rfl (ah.idx tok (lb.getD ja.toNat default).D rfl rfl rfl rfl rfl a0 gBa ?_);refine qP 4 rfl (ah.idx tok ((lb.getD ja.toNat default).pts.getD jp.toNat default).D rfl rfl rfl rfl rfl p0 gMp ?_);refine qP 1 rfl (qQ rfl cA (qP 4 rfl (ah.nil (qU 1 rfl (qI (AW.draw aS 17 (by kernel_rfl) ?_))))));refine qP 5 rfl (ah.idx tok (xH (bs.getD jb.toNat default)).D rfl rfl rfl rfl rfl b0 gPb ?_);refine qP 4 rfl (ah.idx tok ((lb.getD jb.toNat default).pts.getD jo.toNat default).D rfl rfl rfl rfl rfl o0 gMo ?_);refine qP 1 rfl (qQ rfl cB (qP 4 rfl (ah.nil (qU 1 rfl (qK 3 rfl ?_)))));rw[af];refine qU 1 rfl ?_;rw[aI (x:=(lb.length:Int) -1) (by omega) (by omega)];refine qU 1 rfl ?_;rw[aI (x:=3*((lb.length:Int) -1)) (by omega) (by omega)];refine ae.HI tok (r6 lb.length) (z:=3*(lb.length-1)) rfl rfl rfl rfl rfl rfl rfl (by omega) (by omega) rfl ?_;refine qU 1 rfl (ae.nil ?_);have hzl:=Bk lb.length;have hzr:r6 lb.length=List.replicate (3*(lb.length-1)) []:=rfl;generalize r6 lb.length=Z at hRi hzl hzr ⊢;refine AW.seq (qX 3 rfl (ae.nil ?_));have ga:0<ja→3*ja.toNat≤Z.length:=fun h=>by rw[hzl];omega
 have gb:0<jb→3*jb.toNat≤Z.length:=fun h=>by rw[hzl];omega
 have V2:=V.mono (k:=1400) (by decide) (by decide);have V3:=V.mono (k:=2801) (by decide) (by decide);have V4:=V.mono (k:=120000) (by decide) (by decide);have V5:=V.mono (k:=240000) (by decide) (by decide);have sT3:=uy (m:=2801) hvl;by_cases hk1:kd=1
 · rw[if_pos hk1] at hRi;rw[beq_iff_eq.2 hk1];rw[show xK (a9.mk nm kd ja jp jb jo jt)=1 by unfold xK;rw[if_pos hk1]] at hOi;obtain ⟨r0,r1⟩:=jto (by omega);have gMt:=gM jb jt r0 r1;have cT:=cAt jb jt b0 b1 r0 r1;obtain ⟨⟨ux1,ux2⟩,⟨uy1,uy2⟩⟩:=sAt jb jt b0 b1 r0 r1;generalize X ja jp=px at *;generalize Y ja jp=py at *;generalize X jb jo=qx at *;generalize Y jb jo=qy at *;generalize X jb jt=rx at *;generalize Y jb jt=ry at *;have n1:=jn V2 ty1 ty2 uy1 uy2;have n2:=jn V2 ux1 ux2 tx1 tx2;have m1:=kP ty1 ty2 uy1 uy2;have m2:=kP ux1 ux2 tx1 tx2;unfold Ll at hRi;generalize gv qy ry=nx at *;generalize gv rx qx=ny at *;have n3:=gI (by omega) V3 m2.1 (m2.2.mono (by decide)) sx1 (sx2.mono (by decide));have n4:=gI (by omega) V3 m1.1 (m1.2.mono (by decide)) sy1 (sy2.mono (by decide));have m3:=gr V3 m2.1 (m2.2.mono (by decide)) sx1 (sx2.mono (by decide));have m4:=gr V3 m1.1 (m1.2.mono (by decide)) sy1 (sy2.mono (by decide));generalize fT v ny px=e1 at *;generalize fT v nx py=e2 at *;have n5:=jn V4 m3.1 (m3.2.mono (by omega)) m4.1 (m4.2.mono (by omega));have m5:=kP m3.1 m3.2 m4.1 m4.2;generalize gv e1 e2=mm at *;have n6:=gH V5 m1.1 (m1.2.mono (by decide));have n7:=gH V5 m2.1 (m2.2.mono (by decide));have n8:=gH V5 m5.1 (m5.2.mono (by omega));generalize kA nx=nx' at *;generalize kA ny=ny' at *;generalize kA mm=mm' at *;have u1:=fun V=>iV V Z ja nx ny mm ga (by omega) (by omega);have u2:=fun V=>iV V (mr Z ja nx ny mm) jb nx' ny' mm' (by rw[qW _ _ _ ga];exact gb) (by omega) (by omega);refine AW.aJ rfl (AW.seq (AW.draw aS 17 (by kernel_rfl) ?_));refine qP 5 rfl (ah.idx tok (xH (bs.getD jb.toNat default)).D rfl rfl rfl rfl rfl b0 gPb ?_);refine qP 4 rfl (ah.idx tok ((lb.getD jb.toNat default).pts.getD jt.toNat default).D rfl rfl rfl rfl rfl r0 gMt ?_);refine qP 1 rfl (qQ rfl cT (qP 4 rfl (ah.nil (qU 1 rfl (qK 3 rfl (qM rfl n1 (qU 3 rfl (qM rfl n2 ?_))))))));refine qU 2 rfl (qK 4 rfl (qM rfl n3 (qU 3 rfl (qM rfl n4 (qM rfl n5 (qU 1 rfl (ae.nil (AZ.aw ?_))))))));refine AZ.gz 18 rfl rfl rfl (fun V1=>?_);refine AZ.to [2,3,8,9,10,36,37,38,11,12,18,21,22,23] ([(2,.bx [dS ln,aC lb,aB js,ay lds]),(3,.bx [.sl 1 (v.map aq),.sl 4 (bs.map fu.D),.sl 1 (md.map (fun n=>dI n))]),(8,.d (yY v)),(9,.ow 27 ((R i).map sY)),(10,.ow 3 ((O i).map (fun n=>dI n))),(36,.d (aB js)),(37,.d (dI js.length)),(38,.d (dI i)),(11,.d (dI i)),(12,.bx [dS nm,dI kd,dI ja,dI jp,dI jb,dI jo,dI jt]),(18,.d (.v V1)),(21,.d (aq nx)),(22,.d (aq ny)),(23,.d (aq mm))]:St) rfl ?_;refine AZ.seq (AZ.region ?_);refine ak.cut 6 rfl (fun B1 F1 w1=>?_);refine qU 6 rfl (ae.nil ⟨rfl,?_⟩);refine ak.jF tok [0] rfl rfl rfl rfl rfl (by simp) rfl (u1 V1) (fun res R1 hP=>by rw[hP.2];exact ai _) (fun res R1 hP=>?_);obtain ⟨rfl,rfl⟩:=hP;refine ak.nil ?_;refine AZ.to [2,3,8,9,10,36,37,38,11,12,18,21,22,23] ([(2,.bx [dS ln,aC lb,aB js,ay lds]),(3,.bx [.sl 1 (v.map aq),.sl 4 (bs.map fu.D),.sl 1 (md.map (fun n=>dI n))]),(8,.d (yY v)),(9,.ow 27 ((R i).map sY)),(10,.ow 3 ((O i).map (fun n=>dI n))),(36,.d (aB js)),(37,.d (dI js.length)),(38,.d (dI i)),(11,.d (dI i)),(12,.bx [dS nm,dI kd,dI ja,dI jp,dI jb,dI jo,dI jt]),(18,.d (.v V1)),(21,.d (aq nx)),(22,.d (aq ny)),(23,.d (aq mm))]:St) rfl ?_;refine AZ.seq (AZ.any aS (lX.draw 12 (by kernel_rfl) (fun B1 F1 w1=>?_)));refine qP 5 rfl (qQ rfl n6 (qP 2 rfl (qQ rfl n7 (qP 2 rfl (qQ rfl n8 (ah.nil ⟨rfl,?_⟩))))));refine ak.jF tok [0] rfl rfl rfl rfl rfl (by simp) rfl (u2 V1) (fun res R1 hP=>by rw[hP.2];exact ai _) (fun res R1 hP=>?_);obtain ⟨rfl,rfl⟩:=hP;refine ak.nil ?_;refine AZ.to [2,3,8,9,10,36,37,38,11,12,18,21,22,23] ([(2,.bx [dS ln,aC lb,aB js,ay lds]),(3,.bx [.sl 1 (v.map aq),.sl 4 (bs.map fu.D),.sl 1 (md.map (fun n=>dI n))]),(8,.d (yY v)),(9,.ow 27 ((R i).map sY)),(10,.ow 3 ((O i).map (fun n=>dI n))),(36,.d (aB js)),(37,.d (dI js.length)),(38,.d (dI i)),(11,.d (dI i)),(12,.bx [dS nm,dI kd,dI ja,dI jp,dI jb,dI jo,dI jt]),(18,.d (.v V1)),(21,.d (aq nx)),(22,.d (aq ny)),(23,.d (aq mm))]:St) rfl ?_;refine AZ.seq (AZ.fp 18 0 rfl rfl rfl ?_);refine AZ.iK (fun B1 F1 w1=>?_);refine ae.jh tok 18 rfl rfl ?_;refine qU 2 rfl (ae.bs tok rfl rfl rfl rfl ?_);refine ae.lB tok rfl rfl rfl rfl rfl rfl (by rw[af];show (_+1)*24≤_;omega) (by rw[af];show _+1≤_;omega) ?_;refine qU 2 rfl (ae.bs tok rfl rfl rfl rfl ?_);refine ae.lB tok rfl rfl rfl rfl rfl rfl (by rw[af];show (_+1)*8≤_;omega) (by rw[af];show _+1≤_;omega) ?_;refine qU 2 rfl (ae.nil ⟨rfl,?_⟩);refine AZ.exit ?_;refine qT 1 rfl ?_;rw[aI (x:=(i:Int)+1) (by omega) (by omega)];refine qU 1 rfl (ae.nil ?_);exact⟨i+1,by show _=([(2,.bx [dS ln,aC lb,aB js,ay lds]),(3,.bx [.sl 1 (v.map aq),.sl 4 (bs.map fu.D),.sl 1 (md.map (fun n=>dI n))]),(8,.d (yY v)),(9,.ow 27 ((R (i+1)).map sY)),(10,.ow 3 ((O (i+1)).map (fun n=>dI n))),(36,.d (aB js)),(37,.d (dI js.length)),(38,.d (dI (i+1:Nat)))]:St);rw[hRi,hOi,List.map_append,List.map_append];rfl,hii,by omega⟩
 rw[if_neg hk1] at hRi;rw[beq_eq_false_iff_ne.2 hk1];rw[show xK (a9.mk nm kd ja jp jb jo jt)=2 by unfold xK;rw[if_neg hk1]] at hOi;generalize X ja jp=px at *;generalize Y ja jp=py at *;generalize X jb jo=qx at *;generalize Y jb jo=qy at *;have o1:=lg v.length (q:=1) (k:=1) (by have:=gF;omega);have n6:=gH V2 sy1 sy2;have n7:=gH V2 tx1 tx2;have n8:Pure Tryz.prog 60 [yY v,aq [1]] (aq (kA [1])):=gH V2 (fb _ _) (gg (by have:=gF;omega));unfold Lw Lv at hRi;generalize kA py=py' at *;generalize kA qx=qx' at *;generalize kA [1]=on' at *;have u1:=fun V=>iV V Z ja [1] [] py' ga (by omega) (by omega);have u2:=fun V=>iV V (mr Z ja [1] [] py') jb on' [] qy (by rw[qW _ _ _ ga];exact gb) (by omega) (by omega);have u3:=fun V=>iV V Z ja [] [1] px ga (by omega) (by omega);have u4:=fun V=>iV V (mr Z ja [] [1] px) jb [] on' qx' (by rw[qW _ _ _ ga];exact gb) (by omega) (by omega);refine AW.aH rfl (AW.skip (qX 2 rfl ?_));rw[af,hzl];refine ae.HI tok Z (z:=3*(lb.length-1)) rfl rfl rfl rfl rfl rfl rfl rfl (by omega) hzr ?_;refine qU 1 rfl (ae.nil (AZ.aw ?_));refine AZ.gz 18 rfl rfl rfl (fun V1=>?_);refine AZ.gz 24 rfl rfl rfl (fun V2=>?_);refine AZ.to [2,3,8,9,10,36,37,38,11,12,14,15,16,17,18,24] ([(2,.bx [dS ln,aC lb,aB js,ay lds]),(3,.bx [.sl 1 (v.map aq),.sl 4 (bs.map fu.D),.sl 1 (md.map (fun n=>dI n))]),(8,.d (yY v)),(9,.ow 27 ((R i).map sY)),(10,.ow 3 ((O i).map (fun n=>dI n))),(36,.d (aB js)),(37,.d (dI js.length)),(38,.d (dI i)),(11,.d (dI i)),(12,.bx [dS nm,dI kd,dI ja,dI jp,dI jb,dI jo,dI jt]),(14,.d (aq px)),(15,.d (aq py)),(16,.d (aq qx)),(17,.d (aq qy)),(18,.d (.v V1)),(24,.d (.v V2))]:St) rfl ?_;refine AZ.seq (AZ.any aS (lX.draw 7 (by kernel_rfl) (fun B1 F1 w1=>?_)));refine qP 3 rfl (qQ rfl mw (qP 2 rfl (qQ rfl n6 (ah.nil ⟨rfl,?_⟩))));refine ak.jF tok [0] rfl rfl rfl rfl rfl (by simp) rfl (u1 V1) (fun res R1 hP=>by rw[hP.2];exact ai _) (fun res R1 hP=>?_);obtain ⟨rfl,rfl⟩:=hP;refine ak.nil ?_;refine AZ.to [2,3,8,9,10,36,37,38,11,12,14,15,16,17,18,24] ([(2,.bx [dS ln,aC lb,aB js,ay lds]),(3,.bx [.sl 1 (v.map aq),.sl 4 (bs.map fu.D),.sl 1 (md.map (fun n=>dI n))]),(8,.d (yY v)),(9,.ow 27 ((R i).map sY)),(10,.ow 3 ((O i).map (fun n=>dI n))),(36,.d (aB js)),(37,.d (dI js.length)),(38,.d (dI i)),(11,.d (dI i)),(12,.bx [dS nm,dI kd,dI ja,dI jp,dI jb,dI jo,dI jt]),(14,.d (aq px)),(15,.d (aq py)),(16,.d (aq qx)),(17,.d (aq qy)),(18,.d (.v V1)),(24,.d (.v V2))]:St) rfl ?_;refine AZ.seq (AZ.any aS (lX.draw 7 (by kernel_rfl) (fun B1 F1 w1=>?_)));refine qP 4 rfl (qQ rfl mw (qQ rfl n8 (qP 1 rfl (ah.nil ⟨rfl,?_⟩))));refine ak.jF tok [0] rfl rfl rfl rfl rfl (by simp) rfl (u2 V1) (fun res R1 hP=>by rw[hP.2];exact ai _) (fun res R1 hP=>?_);obtain ⟨rfl,rfl⟩:=hP;refine ak.nil ?_;refine AZ.to [2,3,8,9,10,36,37,38,11,12,14,15,16,17,18,24] ([(2,.bx [dS ln,aC lb,aB js,ay lds]),(3,.bx [.sl 1 (v.map aq),.sl 4 (bs.map fu.D),.sl 1 (md.map (fun n=>dI n))]),(8,.d (yY v)),(9,.ow 27 ((R i).map sY)),(10,.ow 3 ((O i).map (fun n=>dI n))),(36,.d (aB js)),(37,.d (dI js.length)),(38,.d (dI i)),(11,.d (dI i)),(12,.bx [dS nm,dI kd,dI ja,dI jp,dI jb,dI jo,dI jt]),(14,.d (aq px)),(15,.d (aq py)),(16,.d (aq qx)),(17,.d (aq qy)),(18,.d (.v V1)),(24,.d (.v V2))]:St) rfl ?_;refine AZ.seq (AZ.any aS (lX.draw 5 (by kernel_rfl) (fun B1 F1 w1=>?_)));refine qP 3 rfl (qQ rfl mw (qP 1 rfl (ah.nil ⟨rfl,?_⟩)));refine ak.jF tok [1] rfl rfl rfl rfl rfl (by simp) rfl (u3 V2) (fun res R1 hP=>by rw[hP.2];exact ai _) (fun res R1 hP=>?_);obtain ⟨rfl,rfl⟩:=hP;refine ak.nil ?_;refine AZ.to [2,3,8,9,10,36,37,38,11,12,14,15,16,17,18,24] ([(2,.bx [dS ln,aC lb,aB js,ay lds]),(3,.bx [.sl 1 (v.map aq),.sl 4 (bs.map fu.D),.sl 1 (md.map (fun n=>dI n))]),(8,.d (yY v)),(9,.ow 27 ((R i).map sY)),(10,.ow 3 ((O i).map (fun n=>dI n))),(36,.d (aB js)),(37,.d (dI js.length)),(38,.d (dI i)),(11,.d (dI i)),(12,.bx [dS nm,dI kd,dI ja,dI jp,dI jb,dI jo,dI jt]),(14,.d (aq px)),(15,.d (aq py)),(16,.d (aq qx)),(17,.d (aq qy)),(18,.d (.v V1)),(24,.d (.v V2))]:St) rfl ?_;refine AZ.seq (AZ.any aS (lX.draw 9 (by kernel_rfl) (fun B1 F1 w1=>?_)));refine qP 4 rfl (qQ rfl mw (qQ rfl n8 (qP 2 rfl (qQ rfl n7 (ah.nil ⟨rfl,?_⟩)))));refine ak.jF tok [1] rfl rfl rfl rfl rfl (by simp) rfl (u4 V2) (fun res R1 hP=>by rw[hP.2];exact ai _) (fun res R1 hP=>?_);obtain ⟨rfl,rfl⟩:=hP;refine ak.nil ?_;refine AZ.to [2,3,8,9,10,36,37,38,11,12,14,15,16,17,18,24] ([(2,.bx [dS ln,aC lb,aB js,ay lds]),(3,.bx [.sl 1 (v.map aq),.sl 4 (bs.map fu.D),.sl 1 (md.map (fun n=>dI n))]),(8,.d (yY v)),(9,.ow 27 ((R i).map sY)),(10,.ow 3 ((O i).map (fun n=>dI n))),(36,.d (aB js)),(37,.d (dI js.length)),(38,.d (dI i)),(11,.d (dI i)),(12,.bx [dS nm,dI kd,dI ja,dI jp,dI jb,dI jo,dI jt]),(14,.d (aq px)),(15,.d (aq py)),(16,.d (aq qx)),(17,.d (aq qy)),(18,.d (.v V1)),(24,.d (.v V2))]:St) rfl ?_;refine AZ.fp 18 0 rfl rfl rfl ?_;refine AZ.fp 24 1 rfl rfl rfl ?_;refine AZ.iK (fun B1 F1 w1=>?_);refine ae.jh tok 18 rfl rfl ?_;refine ae.jh tok 24 rfl rfl ?_;refine qU 3 rfl (ae.bs tok rfl rfl rfl rfl ?_);refine ae.lB tok rfl rfl rfl rfl rfl rfl (by rw[af];show (_+2)*24≤_;omega) (by rw[af];show _+2≤_;omega) ?_;refine qU 3 rfl (ae.bs tok rfl rfl rfl rfl ?_);refine ae.lB tok rfl rfl rfl rfl rfl rfl (by rw[af];show (_+2)*8≤_;omega) (by rw[af];show _+2≤_;omega) ?_;refine qU 2 rfl (ae.nil ⟨rfl,?_⟩);refine qT 1 rfl ?_;rw[aI (x:=(i:Int)+1) (by omega) (by omega)];refine qU 1 rfl (ae.nil ?_);exact⟨i+1,by show _=([(2,.bx [dS ln,aC lb,aB js,ay lds]),(3,.bx [.sl 1 (v.map aq),.sl 4 (bs.map fu.D),.sl 1 (md.map (fun n=>dI n))]),(8,.d (yY v)),(9,.ow 27 ((R (i+1)).map sY)),(10,.ow 3 ((O (i+1)).map (fun n=>dI n))),(36,.d (aB js)),(37,.d (dI js.length)),(38,.d (dI (i+1:Nat)))]:St);rw[hRi,hOi,List.map_append,List.map_append];rfl,hii,by omega⟩
end Lift
namespace Lift
open Go Go.Proofs
def kJ(R:NQ→NQ)(S:NQ→Int)(N:NQ→NQ)(T:NQ→NQ→NQ)(s:NQ):NQ :=
 if s.length=1 then [1 / s.getD 0 0] else
 if S (N s)=0 then R (aX (s.take (s.length / 2)) (s.take (s.length / 2))) else
 T (dR (s.take (s.length / 2)) (aZ (s.drop (s.length / 2))) (s.length / 2)) (R (N s))
def bZ:Nat→List NQ→NQ→NQ
 | 0,rt,a=>kJ (fun _=>[]) (fun _=>0) (fun a=>a) (fun _ _=>[]) (aD a)
 | l+1,rt,a=>kJ (bZ l rt) (et l rt) (fi l rt) (aV (l+1) rt) (aD a)
def MN(O:NQ→Prop)(R:NQ→NQ)(S:NQ→Int)(Sk:NQ→Prop)(N:NQ→NQ)(Nk:NQ→Prop)(Tk:NQ→NQ→Prop)(s:NQ):Prop:=s.length≠0∧(s.length≠1 →
 Nk s∧Sk (N s)∧(S (N s)=0→O (aX (s.take (s.length / 2)) (s.take (s.length / 2)))) ∧
 (S (N s)≠0→O (N s)∧Tk (dR (s.take (s.length / 2)) (aZ (s.drop (s.length / 2))) (s.length / 2)) (R (N s))))
def Ms:Nat→List NQ→NQ→Prop
 | 0,rt,a=>pB a∧(aD a).length≠0
 | l+1,rt,a=>pB a∧MN (Ms l rt) (bZ l rt) (et l rt) (Hy l rt) (fi l rt) (Ly l rt) (BG (l+1) rt) (aD a)
theorem ot{l:Nat}{a:NQ}(ha:aA l a)(h:(aD a).length=1):(aD a).getD 0 0≠0:=(gO ha).one h
theorem EM{l:Nat}{R:NQ→NQ}{S:NQ→Int}{N:NQ→NQ}{T:NQ→NQ→NQ}{s:NQ}(hs:aA l s)(h0:s.length≠0)
  (hR: ∀l',l=l'+1→ ∀b,aA l' b→aA l' (R b)) (hN: ∀l',l=l'+1→ ∀j,j≤l'→s.length=2^(j+1)→aA l' (N s)) (hT: ∀b c,aA l b→aA l c→aA l (T b c)):aA l (kJ R S N T s):=by
 unfold kJ;split
 · exact fb _ _
 rename_i h1
 obtain ⟨i,hi,hla2⟩: ∃i,i≤l∧s.length=2^i:=by
  rcases hs with e | e
  · omega
  · exact e
 have wm:i≠0:=fun e=>h1 (by rw[hla2,e]);obtain ⟨j,rfl⟩: ∃j,i=j+1:=⟨i-1,by omega⟩;obtain ⟨l',rfl⟩: ∃l',l=l'+1:=⟨l-1,by omega⟩;obtain ⟨e1,e2,e3⟩:=bF hla2;have hx:aA l' (s.take (s.length / 2)):= .inr ⟨j,by omega,e1⟩;have hN:=hN l' rfl j (by omega) hla2;split
 · exact(hR l' rfl _ (hx.plus hx)).mono (by omega)
 · exact hT _ _ (.inr ⟨j+1,by omega,by rw[dL,e3,Nat.pow_succ];omega⟩) ((hR l' rfl _ hN).mono (by omega))
theorem gC: ∀(l:Nat) {rt:List NQ} {a:NQ},aA l a→cP rt→l≤rt.length→aA l (bZ l rt a)
 | 0,rt,a,ha,hrt,hl=>by
   have hs:=bX ha;show aA 0 (kJ _ _ _ _ _);by_cases h0:(aD a).length=0
   · rw[List.length_eq_zero_iff.1 h0];exact cg _
   · exact EM hs h0 (fun l' h=>by omega) (fun l' h=>by omega) (fun _ _ _ _=>cg _)
 | l+1,rt,a,ha,hrt,hl=>by
   have hs:=bX ha;show aA (l+1) (kJ _ _ _ _ _);by_cases h0:(aD a).length=0
   · rw[List.length_eq_zero_iff.1 h0];unfold kJ;rw[if_neg (by decide)];split
     · exact(gC l (cg _) hrt (by omega)).mono (by omega)
     · exact fe (l+1) (cg _) ((gC l (by
        obtain ⟨K,k1,_,k3⟩:=x5 (fi l rt []) [] rt;unfold fi
        have t0: ∀c,aA l (aV l rt c []):=fun c=>by
         cases l with
         | zero=>show aA 0 (kG _ c []);unfold kG;rw[if_neg (show ¬c.length<([]:NQ).length from Nat.not_lt_zero _)];unfold jN;rw[if_pos (by show (bG c||true)=true;rw[Bool.or_true])];exact cg _
         | succ l=>show aA (l+1) (kG _ c []);unfold kG;rw[if_neg (show ¬c.length<([]:NQ).length from Nat.not_lt_zero _)];unfold jN;rw[if_pos (by show (bG c||true)=true;rw[Bool.or_true])];exact cg _
        have e:rt.getD (Nat.log2 ([]:NQ).length-1) []=rt.getD 0 []:=rfl;have hd:aA l (rt.getD 0 []):= .inr ⟨0,Nat.zero_le _,hrt 0 (by omega)⟩
        exact(t0 []).plus (fe l (t0 []) hd hrt (by omega)).minus) hrt (by omega)).mono (by omega)) hrt hl
   · exact EM hs h0 (fun l' e b hb=>by
      obtain rfl:l=l':=by omega
      exact gC l hb hrt (by omega)) (fun l' e j h1 h2=>by
      obtain rfl:l=l':=by omega
      exact uG h1 h2 hrt (by omega)) (fun b c hb hc=>fe (l+1) hb hc hrt hl)
set_option maxHeartbeats 1600000 in
theorem B7{l:Nat}{O:NQ→Prop}{R:NQ→NQ}{S:NQ→Int}{Sk:NQ→Prop}{N:NQ→NQ}{Nk:NQ→Prop}{T:NQ→NQ→NQ}{Tk:NQ→NQ→Prop}{rt:List NQ}{a:NQ}(ha:aA l a)(hl5:l≤5)(hl:l≤rt.length)(hl10:rt.length≤10)(sa:pB a)(h0:(aD a).length≠0)
  (hok:l≠0→MN O R S Sk N Nk Tk (aD a))
  (hR: ∀l',l=l'+1→ ∀b,aA l' b→O b→Pure Tryz.prog 175 [ib rt,aq b] (aq (R b)))
  (hRl: ∀l',l=l'+1→ ∀b,aA l' b→aA l' (R b))
  (hS: ∀l',l=l'+1→ ∀b,aA l' b→Sk b→Pure Tryz.prog 45 [ib rt,aq b] (dI (S b)))
  (hN: ∀l',l=l'+1→ ∀b j,j≤l'→b.length=2^(j+1)→Nk b→Pure Tryz.prog 87 [ib rt,aq b] (aq (N b))∧aA l' (N b))
  (hT: ∀b c,aA l b→aA l c→Tk b c→Pure Tryz.prog 128 [ib rt,aq b,aq c] (aq (T b c))):
  Pure Tryz.prog 175 [ib rt,aq a] (aq (kJ R S N T (aD a))):=by
 refine qJ 57 Tryz.func175 rfl rfl rfl rfl (by kernel_rfl) (fun B F0 w0=>?_);have cs:=bQ a ha hl5 sa (by omega);have hone:=ot ha;obtain ⟨ha,sa⟩:=bh ha sa;generalize aD a=b at cs ha sa hok hone h0 ⊢;have hlb:=ha.len (by omega);unfold kJ;refine qX 2 rfl (qK 1 rfl (qM rfl cs (qU 1 rfl (qI (qX 2 rfl ?_)))));rw[af];refine qU 1 rfl (ae.nil ?_);by_cases h1:b.length=1
 · have g:=mV (r:=b) (i:=0) (by omega);have cq:=uk (Qr 1) (Qr (b.getD 0 0)) (iG 1 (by have:=gF;omega)) (iG _ (sa 0)) (by omega) (by rw[dk];exact hone h1);rw[dk,dk] at cq;rw[if_pos h1,beq_iff_eq.2 (show (b.length:Int)=1 by omega)];refine AW.aJ rfl (AW.seq (AW.nW tok aS [(7,true),(1,false),(1,true)] 9 [5] (by kernel_rfl) ⟨rfl,?_⟩));refine qQ rfl (iC 1 (by decide) (by decide)) ?_;refine qP 1 rfl (ah.idx tok (Qr (b.getD 0 0)).D rfl rfl rfl rfl rfl (Int.le_refl _) g ?_);refine qP 1 rfl (qQ rfl cq (qP 2 rfl (ah.nil ⟨rfl,?_⟩)));refine qP 1 rfl (ah.nil ⟨rfl,?_⟩);refine qP 1 rfl (ah.nil ⟨_,oM.cons (.bx rfl) (oM.nil),?_⟩);refine qU 1 rfl (qK 1 rfl (ae.mX tok rfl rfl rfl rfl rfl ?_));exact qU 1 rfl (qN rfl)
 rw[if_neg h1,beq_eq_false_iff_ne.2 (show (b.length:Int)≠1 by omega)];refine AW.aH rfl (AW.skip ?_)
 obtain ⟨i,hi,hla2⟩: ∃i,i≤l∧b.length=2^i:=by
  rcases ha with e | e
  · omega
  · exact e
 have wm:i≠0:=fun e=>h1 (by rw[hla2,e]);obtain ⟨j,rfl⟩: ∃j,i=j+1:=⟨i-1,by omega⟩;obtain ⟨l',rfl⟩: ∃l',l=l'+1:=⟨l-1,by omega⟩;have hj:j≤l':=by omega
 obtain ⟨_,o1⟩:=hok (by omega);obtain ⟨oN,oS,oz,oi⟩:=o1 h1;have hN:=hN l' rfl b j hj hla2 oN;have hS:=hS l' rfl _ hN.2 oS;obtain ⟨e1,e2,e3⟩:=bF hla2;obtain ⟨n,hn⟩: ∃n,n=b.length / 2:=⟨_,rfl⟩;rw[← hn] at e1 e2 e3 oz oi ⊢
 have hn2:b.length=n+n:=by
  have:2^(j+1)=2^j*2:=Nat.pow_succ ..;omega
 have hx:aA l' (b.take n):= .inr ⟨j,hj,e1⟩;have hy:aA l' (b.drop n):= .inr ⟨j,hj,e2⟩;refine qX 2 rfl ?_;rw[af];refine ae.div tok rfl rfl rfl rfl (by decide) ?_;rw[iP _ (by omega),← hn];refine qU 1 rfl (qK 2 rfl (qM rfl hN.1 ?_));refine qU 1 rfl (qI (qX 2 rfl (qM rfl hS (qU 1 rfl (ae.nil ?_)))));by_cases hz:S (N b)=0
 · have ci:=hR l' rfl _ (hx.plus hx) (oz hz);have cp:=ec (b.take n) (b.take n) (sa.take n) (sa.take n) (by omega) (by rw[e1];omega) (by rw[e1];omega);rw[if_pos hz,beq_iff_eq.2 hz];refine AW.aJ rfl (AW.seq (AW.draw aS 9 (by kernel_rfl) ?_));refine qP 3 rfl ?_;refine ah.hZ tok (a:=b) (b.take n) rfl rfl rfl rfl rfl trivial (aj n) (Nat.zero_le _) (show n≤b.length by omega) rfl ?_;refine qP 2 rfl ?_;refine ah.hZ tok (a:=b) (b.take n) rfl rfl rfl rfl rfl trivial (aj n) (Nat.zero_le _) (show n≤b.length by omega) rfl ?_;exact qQ rfl cp (qQ rfl ci (ah.nil (qU 1 rfl (qN rfl))))
 obtain ⟨o2,o3⟩:=oi hz;have ci:=hR l' rfl _ hN.2 o2;have cm:=fA (b.drop n) (sa.drop n) (by omega) (by rw[e2];omega);have cj:=k9 (b.take n) (aZ (b.drop n)) n (by omega);have ct:=hT _ _ (.inr ⟨j+1,by omega,by rw[dL,e3,Nat.pow_succ];omega⟩) ((hRl l' rfl _ hN.2).mono (by omega)) o3;rw[if_neg hz,beq_eq_false_iff_ne.2 hz];refine AW.aH rfl (AW.skip (AW.seq (AW.draw aS 14 (by kernel_rfl) ?_)));refine qP 3 rfl ?_;refine ah.hZ tok (a:=b) (b.take n) rfl rfl rfl rfl rfl trivial (aj n) (Nat.zero_le _) (show n≤b.length by omega) rfl ?_;refine qP 2 rfl ?_;refine ah.hZ tok (a:=b) (b.drop n) rfl rfl rfl rfl rfl (aj n) trivial (show n≤b.length by omega) (ai _) (by show (b.take b.length).drop n=_;rw[List.take_length]) ?_;exact qQ rfl cm (qP 1 rfl (qQ rfl cj (qP 2 rfl (qQ rfl ci (qQ rfl ct (ah.nil (qU 1 rfl (qN rfl))))))))
theorem kN: ∀(l:Nat) {rt:List NQ} {a:NQ},aA l a→l≤5→cP rt→l≤rt.length→rt.length≤10→Ms l rt a→Pure Tryz.prog 175 [ib rt,aq a] (aq (bZ l rt a))
 | 0,rt,a,ha,hl5,hrt,hl,hl10,hok=>B7 (O:=fun _=>True) (Sk:=fun _=>True) (Nk:=fun _=>True) (Tk:=fun _ _=>False) ha hl5 hl hl10 hok.1 hok.2 (fun h=>absurd rfl h) (fun l' h=>by omega) (fun l' h=>by omega) (fun l' h=>by omega) (fun l' h=>by omega) (fun _ _ _ _ h=>h.elim)
 | l+1,rt,a,ha,hl5,hrt,hl,hl10,hok=>B7 (O:=Ms l rt) (Sk:=Hy l rt) (Nk:=Ly l rt) (Tk:=BG (l+1) rt) ha hl5 hl hl10 hok.1 hok.2.1 (fun _=>hok.2) (fun l' e b h1 h2=>by
    obtain rfl:l=l':=by omega
    exact kN l h1 (by omega) hrt (by omega) hl10 h2) (fun l' e b h1=>by
    obtain rfl:l=l':=by omega
    exact gC l h1 hrt (by omega)) (fun l' e b h1 h2=>by
    obtain rfl:l=l':=by omega
    exact fy l h1 (by omega) hrt (by omega) hl10 h2) (fun l' e b j h1 h2 h3=>by
    obtain rfl:l=l':=by omega
    exact⟨nc h1 h2 hrt (by omega) hl10 h3,uG h1 h2 hrt (by omega)⟩) (fun b c h1 h2 h3=>cy (l+1) h1 h2 hrt hl hl10 h3)
end Lift
namespace Lift
open Go Go.Proofs
def pj(v:List NQ):Prop:= ∃m,iJ m v
theorem iJ.a{m:Nat}{v:List NQ}(V:iJ m v):pj v:=⟨m,V⟩
theorem pj.l5{v:List NQ}(V:pj v):v.length≤5:=V.elim fun _ V=>V.l5
theorem pj.ro{v:List NQ}(V:pj v):cP v:=V.elim fun _ V=>V.ro
def xL(v:List NQ)(a b:NQ):NQ:=aD (aV v.length v a (bZ v.length v b))
def rQ(v:List NQ)(a:NQ):Int:=et v.length v a
def BI(v:List NQ)(a b:NQ):Prop:=pB a∧pB b∧BG v.length v a b∧pB (aV v.length v a b)
def KC(a b:NQ):Prop:=pB a∧pB b∧pB (aX a (aZ b))
def Hz(v:List NQ)(a b:NQ):Prop:=pB a∧pB b∧Hy v.length v b∧rQ v b≠0∧Ms v.length v b∧BG v.length v a (bZ v.length v b)∧pB (aV v.length v a (bZ v.length v b))
def Df(v:List NQ)(a:NQ):Prop:=Hy v.length v a
theorem Df.sz{v:List NQ}{a:NQ}(h:Df v a):pB a:=Hy.sz h
theorem E7{v:List NQ}(V:pj v)(l:List NQ)(hl:l.length≤1000000)(h: ∀i,i<l.length→aA v.length (l.getD i [])∧pB (l.getD i [])):Pure Tryz.prog 42 [ib v,.sl 1 (l.map aq)] aQ:=by
 obtain ⟨m,V⟩:=V;obtain ⟨m0,t1,t2,tw,tk⟩:=V.raw.1.t;have l5:=V.l5
 have g: ∀i,(l.map iT).getD i []=iT (l.getD i []):=fun i=>by
  rw[aK,List.getElem?_map,aK];cases l[i]? with
  | none=>rfl
  | some x=>rfl
 have c:=gp (oU v) (l.map iT) (mn:=17300000000000) tw t1 V.raw.1.l V.raw.1.ll tk (fun i hi=>by
  rw[af] at hi;rw[g];exact fun _=>zq (h i hi).2) (by rw[af];exact hl) (fun i hi=>by
  rw[af] at hi
  rw[g,lK];exact Nat.le_trans ((h i hi).1.len (by omega)) (by decide)) (by omega)
 have e:kF (oU v) (l.map iT)=0:=by
  unfold kF;rw[if_neg (by rw[V.raw.2];simp)];refine mC fun j hj=>?_;rw[af] at hj;rw[fC,g];exact nu (h j (by omega)).1
 rw[e,r8,List.map_map,show (bw ∘ iT)=aq from funext mf] at c;exact c
theorem ID{v:List NQ}{a:NQ}(V:pj v)(ha:aA v.length a)(sa:pB a):Pure Tryz.prog 42 [ib v,.sl 1 [aq a]] aQ :=
 E7 V [a] (show 1≤1000000 by decide) (fun i hi=>by
  have:i<1:=hi;obtain rfl:i=0:=by omega
  exact⟨ha,sa⟩)
theorem wS{v:List NQ}{a b:NQ}(V:pj v)(ha:aA v.length a)(sa:pB a)(hb:aA v.length b)(sb:pB b):Pure Tryz.prog 42 [ib v,.sl 1 [aq a,aq b]] aQ :=
 E7 V [a,b] (show 2≤1000000 by decide) (fun i hi=>by
  have:i<2:=hi
  match i,this with
  | 0,_=>exact⟨ha,sa⟩
  | 1,_=>exact⟨hb,sb⟩)
theorem CQ{v:List NQ}{a:NQ}{b:NQ}(V:pj v)(ha:aA v.length a)(hb:aA v.length b)(ok:KC a b):Pure Tryz.prog 105 [ib v,aq a,aq b] (.tu [aq (gv a b),aQ]):=by
 refine qJ 22 Tryz.func105 rfl rfl rfl rfl (by kernel_rfl) (fun B0 F0 w0=>?_);have hl5:=V.l5;have hro:=V.ro;obtain ⟨sa,sb,sc⟩:=ok;have cc:=wS V ha sa hb sb;have c0:=fA b sb (by omega) (Nat.le_trans (hb.len (by omega)) (by decide));have c1:=ec a (aZ b) sa sb.minus (by omega) (Nat.le_trans (ha.len (by omega)) (by decide)) (Nat.le_trans (hb.minus.len (by omega)) (by decide));have c2:=bQ (aX a (aZ b)) (ha.plus hb.minus) hl5 sc (by omega);refine qX 3 rfl (qI (qX 3 rfl (ae.mX tok rfl rfl rfl rfl rfl ?_)));refine qM rfl cc (qU 1 rfl (qK 1 rfl (qR rfl rfl (ae.nil (AW.aH rfl ?_)))))
 · exact AW.skip (qX 2 rfl (qM rfl c0 (qM rfl c1 (qM rfl c2 (qU 2 rfl (qN rfl))))))
theorem ve{v:List NQ}{a:NQ}{b:NQ}(V:pj v)(ha:aA v.length a)(hb:aA v.length b)(ok:BI v a b):Pure Tryz.prog 106 [ib v,aq a,aq b] (.tu [aq (fT v a b),aQ]):=by
 refine qJ 22 Tryz.func106 rfl rfl rfl rfl (by kernel_rfl) (fun B0 F0 w0=>?_);have hl5:=V.l5;have hro:=V.ro;obtain ⟨sa,sb,st,sc⟩:=ok;have cc:=wS V ha sa hb sb;have c1:=cy v.length ha hb hro (ai _) (by omega) st;have c2:=bQ _ (fe v.length ha hb hro (ai _)) hl5 sc (by omega);refine qX 3 rfl (qI (qX 3 rfl (ae.mX tok rfl rfl rfl rfl rfl ?_)));refine qM rfl cc (qU 1 rfl (qK 1 rfl (qR rfl rfl (ae.nil (AW.aH rfl ?_)))))
 · exact AW.skip (qX 3 rfl (qM rfl c1 (qM rfl c2 (qU 2 rfl (qN rfl)))))
theorem CR{v:List NQ}{a:NQ}{b:NQ}(V:pj v)(ha:aA v.length a)(hb:aA v.length b)(ok:Hz v a b):Pure Tryz.prog 133 [ib v,aq a,aq b] (.tu [aq (xL v a b),aQ]):=by
 refine qJ 29 Tryz.func133 rfl rfl rfl rfl (by kernel_rfl) (fun B0 F0 w0=>?_);have hl5:=V.l5;have hro:=V.ro;obtain ⟨sa,sb,sg,s0,si,st,sc⟩:=ok;have cc:=wS V ha sa hb sb;have hi:=gC v.length hb hro (ai _);have c0:=fy v.length hb hl5 hro (ai _) (by omega) sg;have c1:=kN v.length hb hl5 hro (ai _) (by omega) si;have c2:=cy v.length ha hi hro (ai _) (by omega) st;have c3:=bQ _ (fe v.length ha hi hro (ai _)) hl5 sc (by omega);change et v.length v b≠0 at s0;unfold xL;generalize et v.length v b=z at c0 s0;refine qX 3 rfl (qI (qX 3 rfl (ae.mX tok rfl rfl rfl rfl rfl ?_)));refine qM rfl cc (qU 1 rfl (qK 1 rfl (qR rfl rfl (ae.nil (AW.aH rfl ?_)))))
 · refine AW.skip (AW.seq (qX 2 rfl (qM rfl c0 (qU 1 rfl (ae.nil ?_)))));rw[beq_eq_false_iff_ne.2 s0];refine AW.aH rfl ?_
   · refine AW.skip (AW.seq (AW.draw aS 7 (by kernel_rfl) ?_));exact qP 4 rfl (qQ rfl c1 (qQ rfl c2 (qQ rfl c3 (ah.nil (qU 2 rfl (qN rfl))))))
theorem AY{v:List NQ}{a:NQ}(V:pj v)(ha:aA v.length a)(ok:Df v a):Pure Tryz.prog 22 [ib v,aq a] (.tu [dI (rQ v a),aQ]):=by
 refine qJ 17 Tryz.func22 rfl rfl rfl rfl (by kernel_rfl) (fun B0 F0 w0=>?_);have hl5:=V.l5;have hro:=V.ro;have cc:=ID V ha ok.sz;have c1:=fy v.length ha hl5 hro (ai _) (by omega) ok;refine qX 3 rfl (qI (qX 2 rfl (ae.mX tok rfl rfl rfl rfl rfl ?_)));refine qM rfl cc (qU 1 rfl (qK 1 rfl (qR rfl rfl (ae.nil (AW.aH rfl ?_)))))
 · exact AW.skip (qX 2 rfl (qM rfl c1 (qU 2 rfl (qN rfl))))
end Lift
namespace Lift
open Go
open Go.RowKit (Below)
section
variable {P:Program} {T:Ty} {B:Nat} {F0:Nat→Prop} {w0:cX} {n:Nat} {σ:St} {all:Array Oper} {rest:List Oper} {o:Oper} {d:Nat} {K:St→Prop}
def Ih(T:Ty)(lk:Nat→Option AV):Op→Option (Nat×List D)
 | .binOp .eql t x (.const (.slice none 0 0)) _=>match T.get t,dC T (ex T lk 0 x) with
   | some ti,some (.sl s xs)=>match Nat.beq ti.kind 4 with
     | true=>some (s,xs)
     | false=>none
   | _,_=>none
 | _=>none
theorem DK{w:World}{t e:TypeId}(hi:P.underlying t=some (.slice e))(k:Nat)(b:Option Addr)(l c:Nat):(Op.equalIn (k+1) t (.slice b l c) (.slice none 0 0)).run P w= .ok b.isNone w:=by
 cases b<;>simp[Op.equalIn,run_underlying hi]
theorem Ig{w:World}{t e:TypeId}(hi:P.underlying t=some (.slice e))(b:Option Addr)(l c:Nat):(Op.equal t (.slice b l c) (.slice none 0 0)).run P w= .ok b.isNone w:=DK hi 9999 b l c
theorem IK{w:World}{t e:TypeId}(hi:P.underlying t=some (.slice e))(b:Option Addr)(l c:Nat):(Go.binOp .eql t (.slice b l c) (.slice none 0 0)).run P w= .ok (.bool b.isNone) w:=by
 have:Go.binOp .eql t (.slice b l c) (.slice none 0 0)=(do pure (.bool (← Op.equal t (.slice b l c) (.slice none 0 0))):Sem Value):=rfl;rw[this];simp only[Sem.run_bind,Ig hi,Result.andThen_ok,Sem.run_pure]
theorem ae.eqn(hT:bD P T){s:Nat}{xs:List D}(hd:o.dst=some d)(hdn:Nat.ble (d+1) n=true)(hg:o.guard=none)(hx:Ih T σ.get o.op=some (s,xs))
  (h: ∀b:Bool,(xs≠[]→b=false)→ae P B F0 w0 n all rest K ((d,.d (.v (.bool b)))::σ)):ae P B F0 w0 n all (o::rest) K σ:=by
 intro a w hR Q hQ;unfold wpList;rw[if_pos (by simp[Region.wanted,hg])];refine .inl ?_;obtain ⟨O,hOr,hO⟩:=hR.own;have hI:=hR.inv hOr hO (fun t=> .tmp t∈o.op.operands) d;obtain ⟨dst,op,ty,pos,after,guard⟩:=o;simp only[] at hd hx hI;cases op<;>try (simp only[Ih] at hx;cases hx;done)
 rename_i bop t x y ty2;cases bop<;>try (simp only[Ih] at hx;cases hx;done)
 cases y<;>try (simp only[Ih] at hx;cases hx;done)
 rename_i c;unfold Ih at hx;split at hx<;>try (cases hx;done)
 rename_i heq;simp only[Op.binOp.injEq,Operand.const.injEq,true_and] at heq;obtain ⟨rfl,rfl,rfl,rfl⟩:=heq;split at hx<;>try (cases hx;done)
 rename_i ti s' xs' hti hdx;split at hx<;>simp at hx;rename_i hk;obtain ⟨rfl,rfl⟩:=hx;obtain ⟨info,dd,z,hok⟩:=hT _ ti hti;have hrd:=dX hT hI (fun t ht=>by subst ht;simp[Op.operands]) hdx;obtain ⟨ad,cap,hv,h1,h2,hne⟩:=Rd.A8 hrd
 have hg2:(eqGuard .eql t x (.const (.slice none 0 0)) (a.eval x) (.slice none 0 0)).run P w= .ok () w:=by
  rw[hv];simp[eqGuard]
 refine bg (v:= .bool ad.isNone) (w':=w) ?_ ?_
 · simp only[execOp,eval_const,Sem.run_bind,hg2,Result.andThen_ok];rw[hv];rw[IK (hok.jy hk).1];rfl
 · rw[hd];refine h ad.isNone (fun hx=>?_) _ _ (hR.put hOr hO (Nat.le_of_ble_eq_true hdn) (du.refl hI.lt) (show eQ _ _ _ _ _ _ _ _ (.d (.v (.bool ad.isNone))) (.bool ad.isNone) from Rd.v rfl)) Q hQ;rcases hne with e | ⟨b,off,cs,e,fz,hb,_⟩
   · exact absurd e hx
   · rw[hb];rfl
end
end Lift
namespace Lift
open Go Go.Proofs
abbrev IY(r:List (List RD)):D:= .sl 1 (r.map bw)
abbrev CF(a:List (List (List RD))):D:= .sl 1 (a.map IY)
abbrev oO(r:List NQ):D:= .sl 1 (r.map aq)
abbrev mZ(a:List (List NQ)):D:= .sl 1 (a.map oO)
structure Ml (m:Nat) (rt:List (List RD)) (a:List (List (List RD))):Prop where
 n: ∀i k,kK m rt ((a.getD i []).getD k [])
 l:a.length≤1000000
 r: ∀i,(a.getD i []).length≤1000000
def bd{α:Type}(a:List (List α)):Nat:=(a.getD 0 []).length
def I8(a:List (List (List RD)))(i:Nat):Nat:=if (a.getD i []).length≠bd a then 10 else 0
def zk(rt:List (List RD))(r:List (List RD)):Nat:=fE (fun k=>kF rt [r.getD k []]) (r.length-0) 0
def HF(rt:List (List RD))(a:List (List (List RD))):Nat :=
 if a.length=0 then 0 else if 32<a.length∨32<bd a then 4 else
 if fE (I8 a) (a.length-0) 0≠0 then fE (I8 a) (a.length-0) 0 else fE (fun i=>zk rt (a.getD i [])) (a.length-0) 0
def EG(rt:List (List RD))(a:List (List (List RD))):Nat:=if dG rt≠0 then dG rt else HF rt a
structure NP (m:Nat) (rt:List (List RD)):Prop where
 w: ∀i,i<rt.length→(rt.getD i []).length=2^i→wN m (rt.getD i [])
 m1:1≤m
 l:rt.length≤1000000
 ll: ∀i,i<rt.length→(rt.getD i []).length≤4398046511104
 ok:rt.length≤5→pP rt.length m
 m2:m≤1000000
theorem sE{m:Nat}{rt:List (List RD)}{x:List RD}(T:NP m rt)(X:kK m rt x):Pure Tryz.prog 174 [w8 rt,bw x] (uM (kF rt [x])):=by
 refine qJ 14 Tryz.func174 rfl rfl rfl rfl (by kernel_rfl) (fun B F0 w0=>?_);have hm:=T.m2;have c:=xr rt x T.w T.m1 T.l T.ll T.ok X.w X.l (by omega);unfold GX at c;refine qX 2 rfl (qK 2 rfl ?_);by_cases h:kF rt [x]≠0
 · rw[if_pos h] at c;exact qM rfl c (qU 5 rfl (qK 2 rfl (qN rfl)))
 rw[if_neg h] at c;have h:kF rt [x]=0:=by omega
 rw[h];exact qM rfl c (qU 5 rfl (qK 2 rfl (qN rfl)))
set_option maxHeartbeats 1600000 in
theorem wc{rt:List (List RD)}{a:List (List (List RD))}(hal:a.length≤1000000)(har: ∀i,(a.getD i []).length≤1000000)(han: ∀i k,Pure Tryz.prog 174 [w8 rt,bw ((a.getD i []).getD k [])] (uM (kF rt [(a.getD i []).getD k []]))):Pure Tryz.prog 130 [w8 rt,CF a] (uM (HF rt a)):=by
 refine qJ 61 Tryz.func130 rfl rfl rfl rfl (by kernel_rfl) (fun B F0 w0=>?_);unfold HF;obtain ⟨E,hE⟩: ∃E,fE (I8 a) (a.length-0) 0=E:=⟨_,rfl⟩;obtain ⟨G,hG⟩: ∃G,fE (fun i=>zk rt (a.getD i [])) (a.length-0) 0=G:=⟨_,rfl⟩;rw[hE,hG];refine qX 2 rfl (qI (qX 2 rfl ?_));rw[af];refine qU 1 rfl (ae.nil ?_);by_cases h0:a.length=0
 · rw[if_pos h0,h0];exact AW.aJ rfl (qX 1 rfl (qN rfl))
 rw[if_neg h0,beq_eq_false_iff_ne.2 (show (a.length:Int)≠0 by omega)];have hc0:bd a=(a.getD 0 []).length:=rfl;have hcl:=har 0;have g0:=getM IY (l:=a) (i:=0) (by omega);refine AW.aH rfl ?_
 · skip
   refine AW.skip (AW.seq (qX 2 rfl ?_));rw[af];refine qU 1 rfl ?_;by_cases h1:32<a.length
   · rw[aO (show (32:Int)<(a.length:Int) by omega),if_pos (.inl h1)];exact qU 7 rfl (ae.nil (AW.aJ rfl (qX 2 rfl (qN rfl))))
   rw[a7 (show ¬(32:Int)<(a.length:Int) by omega)];refine qU 2 rfl (ae.idx tok (IY (a.getD 0 [])) rfl rfl rfl rfl (Int.le_refl _) g0 ?_);refine qU 2 rfl ?_;rw[af];refine qU 1 rfl ?_;by_cases h2:32<bd a
   · rw[aO (show (32:Int)<((a.getD 0 []).length:Int) by omega),if_pos (.inr h2)];exact qU 1 rfl (ae.nil (AW.aJ rfl (qX 2 rfl (qN rfl))))
   rw[a7 (show ¬(32:Int)<((a.getD 0 []).length:Int) by omega),if_neg (fun h=>h.elim h1 h2)];refine qU 1 rfl (ae.nil (AW.aH rfl ?_))
   · refine AW.skip (AW.seq (qX 2 rfl ?_));rw[af];refine qU 1 rfl (ae.nil (AW.block ?_));refine AW.aL [1,2,26,27,28] (fun i:Nat=>[(1,.d (CF a)),(2,.bx [.sl 1 (rt.map bw)]),(26,.d (CF a)),(27,.d (dI a.length)),(28,.d (dI i))]) (fun i=>i≤a.length∧fE (I8 a) (a.length-i) i=E) (fun i=>a.length-i) 0 rfl ⟨Nat.zero_le _,hE⟩ (fun i ⟨hi,hiE⟩=>?_)
     · show AW _ _ _ _ _ _ _ [(1,.d (CF a)),(2,.bx [.sl 1 (rt.map bw)]),(26,.d (CF a)),(27,.d (dI a.length)),(28,.d (dI i))];refine qX 1 rfl (qI (AW.cond rfl (fun h=>?_) (fun h=>?_)))
       · have hii:i<a.length:=by have:=ao h;omega
         have hg:=getM IY (l:=a) (i:=i) hii;have hri:=har i;have hmiss:=fun h0:I8 a i=0=>(dh hii h0).symm.trans hiE;have hhit:=fun h0:I8 a i≠0=>(eZ hii h0).symm.trans hiE;refine AW.skip (AW.seq (AW.block (AW.seq (AW.region (ae.idx tok (IY (a.getD i [])) rfl rfl rfl rfl (aj i) hg ?_)))));refine qU 2 rfl (qK 2 rfl ?_);rw[af];refine qU 1 rfl (ae.idx tok (IY (a.getD 0 [])) rfl rfl rfl rfl (Int.le_refl _) g0 ?_);refine qU 2 rfl ?_;rw[af];refine qU 1 rfl (ae.nil (AW.cond rfl (fun h=>?_) (fun h=>?_)))
         · have hne:(a.getD i []).length≠bd a:=by have:=bne_iff_ne.1 h;omega
           have e:I8 a i=10:=if_pos hne;have:=hhit (by rw[e];decide);rw[e] at this;subst this;rw[if_pos (by decide)];exact qX 2 rfl (qN rfl)
         · have heq:(a.getD i []).length=bd a:=by have:=bne_eq_false_iff_eq.1 h;omega
           have e:I8 a i=0:=if_neg (fun h=>h heq);refine AW.skip (qT 1 rfl ?_);rw[aI (x:=(i:Int)+1) (by omega) (by omega)];refine qU 1 rfl (ae.nil ?_);exact⟨i+1,rfl,⟨hii,hmiss e⟩,by omega⟩
       have hii: ¬i<a.length:=by have:=ar h;omega
       rw[e7 hii] at hiE;subst hiE;rw[if_neg (by decide)];refine AW.exit (AW.seq (qX 2 rfl ?_));rw[af];refine qU 1 rfl (ae.nil (AW.block ?_));refine AW.aL [1,2,41,42,43] (fun i:Nat=>[(1,.d (CF a)),(2,.bx [.sl 1 (rt.map bw)]),(41,.d (CF a)),(42,.d (dI a.length)),(43,.d (dI i))]) (fun i=>i≤a.length∧fE (fun i=>zk rt (a.getD i [])) (a.length-i) i=G) (fun i=>a.length-i) 0 rfl ⟨Nat.zero_le _,hG⟩ (fun i ⟨hi,hiG⟩=>?_)
       · show AW _ _ _ _ _ _ _ [(1,.d (CF a)),(2,.bx [.sl 1 (rt.map bw)]),(41,.d (CF a)),(42,.d (dI a.length)),(43,.d (dI i))];refine qX 1 rfl (qI (AW.cond rfl (fun h=>?_) (fun h=>?_)))
         · have hii:i<a.length:=by have:=ao h;omega
           have hg:=getM IY (l:=a) (i:=i) hii;have hri:=har i;have hni:=han i;have hmiss:=fun h0:zk rt (a.getD i [])=0=>(dh (f:=fun i=>zk rt (a.getD i [])) hii h0).symm.trans hiG;have hhit:=fun h0:zk rt (a.getD i [])≠0=>(eZ (f:=fun i=>zk rt (a.getD i [])) hii h0).symm.trans hiG;refine AW.skip (AW.seq (AW.block (AW.seq (AW.region (ae.idx tok (IY (a.getD i [])) rfl rfl rfl rfl (aj i) hg ?_)))));refine qU 2 rfl (ae.nil ?_);generalize a.getD i []=r at hri hni hmiss hhit;obtain ⟨H,hH⟩: ∃H,zk rt r=H:=⟨_,rfl⟩;rw[hH] at hmiss hhit;refine qX 2 rfl ?_;rw[af];refine qU 1 rfl (ae.nil (AW.block ?_));refine AW.aL [1,2,41,42,43,47,48,49] (fun k:Nat=>[(1,.d (CF a)),(2,.bx [.sl 1 (rt.map bw)]),(41,.d (CF a)),(42,.d (dI a.length)),(43,.d (dI i)),(47,.d (IY r)),(48,.d (dI r.length)),(49,.d (dI k))]) (fun k=>k≤r.length∧fE (fun k=>kF rt [r.getD k []]) (r.length-k) k=H) (fun k=>r.length-k) 0 rfl ⟨Nat.zero_le _,hH⟩ (fun k ⟨hk,hkH⟩=>?_)
           · show AW _ _ _ _ _ _ _ [(1,.d (CF a)),(2,.bx [.sl 1 (rt.map bw)]),(41,.d (CF a)),(42,.d (dI a.length)),(43,.d (dI i)),(47,.d (IY r)),(48,.d (dI r.length)),(49,.d (dI k))];refine qX 1 rfl (qI (AW.cond rfl (fun h=>?_) (fun h=>?_)))
             · have hkk:k<r.length:=by have:=ao h;omega
               have hg2:=getM bw (l:=r) (i:=k) hkk;have cn:=hni k;have km:=fun h0:kF rt [r.getD k []]=0=>(dh (f:=fun k=>kF rt [r.getD k []]) hkk h0).symm.trans hkH;have kh:=fun h0:kF rt [r.getD k []]≠0=>(eZ (f:=fun k=>kF rt [r.getD k []]) hkk h0).symm.trans hkH;refine AW.skip (AW.seq (AW.block (AW.seq (AW.region (ae.idx tok (bw (r.getD k [])) rfl rfl rfl rfl (aj k) hg2 ?_)))));refine qU 2 rfl (qK 2 rfl (qM rfl cn (qU 1 rfl (ae.nil ?_))));generalize kF rt [r.getD k []]=e at cn km kh;rcases e with _ | z
               rotate_left
               · have:=kh (Nat.succ_ne_zero z);subst this;have:=hhit (Nat.succ_ne_zero z);subst this;exact qX 1 rfl (qR rfl rfl (ae.nil (AW.aJ rfl (qX 2 rfl (qN rfl)))))
               refine qX 1 rfl (qR rfl rfl (ae.nil (AW.aH rfl ?_)))
               · skip
                 refine AW.skip (qT 1 rfl ?_);rw[aI (x:=(k:Int)+1) (by omega) (by omega)];refine qU 1 rfl (ae.nil ?_);exact⟨k+1,rfl,⟨hkk,km rfl⟩,by omega⟩
             have hkk: ¬k<r.length:=by have:=ar h;omega
             rw[e7 hkk] at hkH;subst hkH;refine AW.exit (qT 1 rfl ?_);rw[aI (x:=(i:Int)+1) (by omega) (by omega)];refine qU 1 rfl (ae.nil ?_);exact⟨i+1,rfl,⟨hii,hmiss rfl⟩,by omega⟩
         have hii: ¬i<a.length:=by have:=ar h;omega
         rw[e7 hii] at hiG;subst hiG;exact AW.exit (qX 1 rfl (qN rfl))
theorem sF{m:Nat}{rt:List (List RD)}{a:List (List (List RD))}(T:NP m rt)(A:Ml m rt a):Pure Tryz.prog 130 [w8 rt,CF a] (uM (HF rt a)) :=
 wc A.l A.r (fun i k=>sE T (A.n i k))
theorem mP{m:Nat}{rt:List (List RD)}{a:List (List (List RD))}(T:NP m rt)(A:Ml m rt a):Pure Tryz.prog 88 [w8 rt,CF a] (uM (EG rt a)):=by
 refine qJ 14 Tryz.func88 rfl rfl rfl rfl (by kernel_rfl) (fun B F0 w0=>?_);have cc:=kp rt T.w T.m1 T.l T.ll T.ok;have cm:=sF T A;unfold EG;refine qX 2 rfl (qI (qX 1 rfl (qM rfl cc (qU 1 rfl (ae.nil ?_)))));generalize dG rt=e at cc ⊢;rcases e with _ | z
 rotate_left
 · rw[if_pos (Nat.succ_ne_zero z)];exact qX 1 rfl (qR rfl rfl (ae.nil (AW.aJ rfl (qX 2 rfl (qN rfl)))))
 rw[if_neg (by simp)];refine qX 1 rfl (qR rfl rfl (ae.nil (AW.aH rfl ?_)))
 · skip
   exact AW.skip (qX 2 rfl (qM rfl cm (qU 1 rfl (qN rfl))))
theorem nK{v:List NQ}{a:NQ}(V:pj v)(ha:aA v.length a)(ok:Df v a):Pure Tryz.prog 132 [ib v,aq a] (dI (rQ v a)):=by
 refine qJ 14 Tryz.func132 rfl rfl rfl rfl (by kernel_rfl) (fun B F0 w0=>?_);have c:=AY V ha ok;exact qX 2 rfl (qK 2 rfl (qM rfl c (qU 5 rfl (qK 2 rfl (qN rfl)))))
theorem kY(a:List (List NQ)):Pure Tryz.prog 90 [mZ a] (dI (bd a)):=by
 refine qJ 10 Tryz.func90 rfl rfl rfl rfl (by kernel_rfl) (fun B F0 w0=>?_);refine qX 1 rfl (qI (qX 2 rfl ?_));rw[af];refine qU 1 rfl (ae.nil ?_);by_cases h0:a.length=0
 · rw[List.length_eq_zero_iff.1 h0];exact AW.aJ rfl (qX 1 rfl (qN rfl))
 rw[beq_eq_false_iff_ne.2 (show (a.length:Int)≠0 by omega)];have g0:=getM oO (l:=a) (i:=0) (by omega);refine AW.aH rfl ?_
 · refine AW.skip (qX 1 rfl (ae.idx tok (oO (a.getD 0 [])) rfl rfl rfl rfl (Int.le_refl _) g0 ?_));refine qU 2 rfl ?_;rw[af];exact qU 1 rfl (qN rfl)
def ML(r:List NQ)(res:D)(R':List LR):Prop:= ∃V,res= .v V∧R'=[(V,AV.ow 52 (r.map aq))]
theorem Cq(r:List NQ)(hl:r.length≤1000000):l3 Tryz.prog 131 [oO r] [] (ML r):=by
 refine l3.intro (n:=8) tok Tryz.func131 rfl rfl rfl (Nat.le_of_ble_eq_true rfl) (by kernel_rfl) (fun B F0 w0=>?_);refine AZ.seq (AZ.iK (fun B1 F1 w1=>?_));refine qU 1 rfl (ae.nil ⟨rfl,?_⟩);refine AZ.seq (AZ.seq ?_);refine AZ.iK (fun B1 F1 w1=>?_);refine qU 1 rfl ?_;refine ae.eqn tok rfl rfl rfl rfl (fun b hb=>?_);refine ae.nil ⟨rfl,?_⟩;refine AZ.cond rfl (fun h=>?_) (fun h=>?_)
 · have hr:r=[]:=by
    refine Classical.byContradiction fun hr=>?_;have:=hb (by simp[hr]);rw[this] at h;cases h
   subst hr;refine AZ.seq (AZ.iK (fun B1 F1 w1=>?_));refine qU 1 rfl (ae.nil ⟨rfl,?_⟩);exact AZ.gz 2 rfl rfl rfl (fun V=>AZ.ret ⟨.v V,rfl,V,rfl,rfl⟩)
 · skip
   refine AZ.skip (AZ.seq ?_);refine AZ.iK (fun B1 F1 w1=>?_);refine qU 2 rfl ?_;refine ae.Ct tok rfl rfl rfl rfl (by rw[af];show r.length*24≤_;omega) ?_;refine qU 1 rfl (ae.nil ⟨rfl,?_⟩);exact AZ.gz 2 rfl rfl rfl (fun V=>AZ.ret ⟨.v V,rfl,V,rfl,rfl⟩)
end Lift
namespace Lift
open Go
open Go.RowKit (Below)
section
variable {P:Program} {T:Ty} {B:Nat} {F0:Nat→Prop} {w0:cX} {n:Nat} {σ:St} {R:List LR} {all ops:Array Oper} {l:List Oper} {o:Oper} {x:Code} {a:Act} {w:World} {K:List LR→St→Prop} {p:lZ} {Q:Exit→List LR→St→Prop}
theorem nU: ∀{cs:List D},(∀d,d∈cs→d.flat=[d])→flatAll cs=cs
 | [],h=>rfl
 | d::r,h=>by
   show d.flat++flatAll r=d::r;rw[h d (List.mem_cons_self ..),nU (fun x hx=>h x (List.mem_cons_of_mem _ hx))];rfl
theorem cH.LW{i j k e eo:Nat}{V Vo:Value}{xs cs:List D}(hR:cH P B F0 w0 n R σ a w)(hj:R[j]?=some (Vo,.ow eo cs))(hc1: ∀d,d∈cs→d.flat=[d])(hk:cs[k]?=some (.v V))(hi:R[i]?=some (V,.ow e xs))(hij:i≠j):
  cH P B F0 w0 n ((R.set i (V,.junk)).set j (Vo,.ow eo (cs.set k (.sl (P.cellsOf e) xs)))) σ a w:=by
 obtain ⟨O,hOr,hO,hL⟩:=hR.own
 let O':Nat→Option Nat:=fun b=>if O b=some (n+i) then none else O b
 have h1: ∀b t,O' b=some t→O b=some t:=fun b t h=>by
  simp only[O'] at h;split at h
  · cases h
  · exact h
 have h2: ∀b t,t≠n+i→O b=some t→O' b=some t:=fun b t ht h=>by
  simp only[O',h];rw[if_neg (by simpa using ht)]
 have hF: ∀c,aP O (FW B F0 w) c→aP O' (FW B F0 w) c:=fun c hc=>⟨by simp only[O',hc.1];simp,hc.2⟩
 have hlt: ∀t av,σ.get t=some av→t<n:=fun t av h=>by
  obtain ⟨v,hv,_⟩:=hO t av h;rw[← hR.size];exact(Array.getElem?_eq_some_iff.1 hv).1
 have hil:=(List.getElem?_eq_some_iff.1 hi).1;have hjl:=(List.getElem?_eq_some_iff.1 hj).1;have hkl:=(List.getElem?_eq_some_iff.1 hk).1;refine⟨hR.below,hR.base,hR.f0,hR.defers,hR.size,O',fun b t hb=>hOr b t (h1 b t hb),fun j av hav=>?_,fun m r hr=>?_⟩
 · obtain ⟨v,hv,hr⟩:=hO j av hav;exact⟨v,hv,hr.move (fun c hc=>⟨hF c hc,rfl⟩) (fun _ c hc=>⟨h2 c j (by have:=hlt j av hav;omega) hc,rfl⟩) (fun k _ x _ hk=>⟨hk,rfl⟩)⟩
 · by_cases hmj:m=j
   · subst hmj;rw[List.getElem?_set_self (by simpa using hjl)] at hr;cases hr
     have hcs': ∀d,d∈cs.set k (.sl (P.cellsOf e) xs)→d.flat=[d]:=fun d hd=>by
      rcases List.mem_or_eq_of_mem_set hd with h | h
      · exact hc1 d h
      · subst h;rfl
     rcases hL m _ hj with h | ⟨_,_,h⟩
     · cases h
     refine .inr ⟨rfl,rfl,?_⟩;rcases h with ⟨base,h3,h4⟩ | ⟨b',cap,cs',h3,h4,h5,h6,h7,h8,h9,h10⟩
     · subst h4;simp at hk
     · simp only at h3;subst h3;refine .inr ⟨b',cap,cs',by simp,h2 b' _ (by omega) h4,h5,by simpa using h6,h7,h8,fun d hd=>?_,fun q d hd=>?_⟩
       · rcases List.mem_or_eq_of_mem_set hd with h | h
         · exact h9 d h
         · subst h;have:=h9 _ (List.mem_of_getElem? hk);exact this
       · rw[nU hcs'] at hd;rw[nU hc1] at h10;by_cases hq:q=k
         · subst hq;rw[List.getElem?_set_self hkl] at hd;cases hd;obtain ⟨_,u,hu,hru⟩:=h10 q _ hk;have:=(Rd.kn hru).1;subst this;refine⟨rfl,_,hu,?_⟩;rcases hL i _ hi with h | ⟨_,_,h⟩
           · cases h
           · rcases h with ⟨base,h3,h4⟩ | ⟨b2,cap2,cs2,g3,g4,g5,g6,g7,g8,g9,g10⟩
             · simp only at h3 h4;subst h3;subst h4;exact .nil (Nat.zero_le _)
             · simp only at g3;subst g3;refine Rd.mK (off:=0) ⟨by simp only[O',g4];simp,(hOr b2 _ g4).fw hR.f0⟩ g5 g6 g7 g9 (fun m d hd=>?_);obtain ⟨f1,u,f2,f3⟩:=g10 m d hd;exact⟨f1,u,by simpa using f2,f3.mono hF (fun _ _=>rfl)⟩
         · rw[List.getElem?_set_ne (Ne.symm hq)] at hd;obtain ⟨f1,u,f2,f3⟩:=h10 q d hd;exact⟨f1,u,f2,f3.mono hF (fun _ _=>rfl)⟩
   · have hr:=ke hmj hr;by_cases hmi:m=i
     · subst hmi;rw[List.getElem?_set_self hil] at hr;cases hr;exact .inl rfl
     · have:=ke hmi hr;rcases hL m r this with h | ⟨g1,g2,g3⟩
       · exact .inl h
       · exact .inr ⟨g1,g2,g3.move (fun c hc=>⟨hF c hc,rfl⟩) (fun _ c hc=>⟨h2 c _ (by omega) hc,rfl⟩) (fun k _ x _ hk=>by cases hk)⟩
theorem AZ.LW(hT:bD P T)(i j k:Nat){V Vo:Value}{e eo:Nat}{te:TI}{xs cs:List D}(hj:R[j]?=some (Vo,.ow eo cs))(hc1: ∀d,d∈cs→d.flat=[d])(hk:cs[k]?=some (.v V))(hi:R[i]?=some (V,.ow e xs))(hij:i≠j)(he:T.get e=some te)
  (h:AZ P B F0 w0 n x Q ((R.set i (V,.junk)).set j (Vo,.ow eo (cs.set k (.sl te.size xs)))) σ):AZ P B F0 w0 n x Q R σ:=by
 obtain ⟨info,d,z,hok⟩:=hT e te he;intro a w hR;have:=hR.LW hj hc1 hk hi hij;rw[hok.cellsOf] at this;exact h a w this
theorem ak.B4(t i:Nat){av:AV}(ht:σ.get t=some av)(hrow:av.row.isSome=true)(htag:av.tag=false)(hi:Nat.ble (i+1) R.length=true)(h: ∀V:Value,ak P B F0 w0 n all l K p (R.set i (V,av)) ((t,.d (.v V))::σ.kill t)):ak P B F0 w0 n all l K p R σ:=by
 intro a w hR hpin Q hQ;obtain ⟨O,_,hO,_⟩:=hR.own;obtain ⟨V,hV,_⟩:=hO t _ ht;exact h V a w (hR.gz (i:=i) ht hrow htag hV (List.getElem?_set_self (Nat.le_of_ble_eq_true hi)) (fun j r hj hr=>ke hj hr)) hpin Q hQ
theorem bH{K:List LR→St→Prop}(h: ∀B1 F1 w1,xa P B1 F1 w1 R→ae P B1 F1 w1 n ops [o] (fun σ'=>σ'.gk=true∧K R σ') σ):ak P B F0 w0 n ops [o] K [] R σ :=
 ak.No 1 rfl (fun B1 F1 w1 hS=>by
  have:=h B1 F1 w1 hS
  refine fun a w hR Q hQ=>this a w hR Q (fun a' w' σ' ⟨h1,h2⟩ hR'=>hQ a' w' σ' ⟨h1,ak.nil h2⟩ hR'))
end
section
variable {P:Program} {T:Ty} {B:Nat} {F0:Nat→Prop} {w0:cX} {n:Nat} {σ:St} {R:List LR} {ops:Array Oper} {o1 o2 o3 o4:Oper} {Q:Exit→List LR→St→Prop} {β:gZ} {fuel:Nat} {listed:Array Bool}
end
end Lift
namespace Lift
open Go Go.Proofs
abbrev iM(r:List NQ):AV:=AV.ow 52 (r.map aq)
def kB{α:Type}(zs xs:List α)(i:Nat):List α:=zs.take i++xs.drop i
theorem v8{α:Type}{zs xs:List α}(h:zs.length=xs.length){i:Nat}(hi:i≤xs.length):(kB zs xs i).length=xs.length:=by
 unfold kB;rw[List.length_append,bb,List.length_drop,h];omega
theorem BV{α:Type}{zs xs:List α}(h:zs.length=xs.length){i:Nat}(hi:i<xs.length)(d:α):(kB zs xs i).getD i d=xs.getD i d:=by
 unfold kB;rw[aK,List.getElem?_append_right (by rw[bb];omega),bb,h,List.getElem?_drop,aK]
 congr 2;omega
theorem BU{α:Type}{zs xs:List α}(h:zs.length=xs.length){i:Nat}(hi:i<xs.length){d z:α}(hz:zs.getD i d=z):(kB zs xs i).set i z=kB zs xs (i+1):=by
 subst hz;refine List.ext_getElem? (fun c=>?_);by_cases hc:c=i
 · subst hc;rw[List.getElem?_set_self (by rw[v8 h (by omega)];exact hi)];unfold kB;rw[List.getElem?_append_left (by rw[bb];omega),List.getElem?_take,if_pos (by omega)];have h1:c<zs.length:=by omega
   simp[h1]
 · rw[List.getElem?_set_ne (Ne.symm hc)];unfold kB;rcases Nat.lt_or_ge c i with g | g
   · rw[List.getElem?_append_left (by rw[bb];omega),List.getElem?_append_left (by rw[bb];omega),List.getElem?_take,List.getElem?_take,if_pos g,if_pos (by omega)]
   · rw[List.getElem?_append_right (by rw[bb];omega),List.getElem?_append_right (by rw[bb];omega),List.getElem?_drop,List.getElem?_drop,bb,bb]
     congr 1;omega
theorem yE{α:Type}(zs xs:List α):kB zs xs 0=xs:=by unfold kB;simp
theorem BW{α:Type}{zs xs:List α}(h:zs.length=xs.length):kB zs xs xs.length=zs:=by
 unfold kB;rw[List.drop_length,List.append_nil,← h,List.take_length]
section
variable {P:Program} {T:Ty} {B:Nat} {F0:Nat→Prop} {w0:cX} {n:Nat} {σ τ:St} {K:St→Prop} {all:Array Oper} {o:Oper} {d:Nat} {rest:List Oper}
theorem ae.CV(hT:bD P T){k e i:Nat}{r:List NQ}(q:NQ)(hd:o.dst=none)(hg:aG all σ o=true)(hx:Ep T σ o.op=some (k,.ow e (r.map aq),r.map aq,i,0,aq q))(hi:i<r.length)
  (h:ae P B F0 w0 n all rest K ((k,.ow e ((r.set i q).map aq))::σ)):ae P B F0 w0 n all (o::rest) K σ:=by
 refine ae.kQ hT (aq (r.getD i [])) hd hg hx (getM aq hi) rfl ?_;show ae P B F0 w0 n all rest K ((k,.ow e ((r.map aq).set i (aq q)))::σ);rw[show (r.map aq).set i (aq q)=(r.set i q).map aq from (List.map_set ..).symm];exact h
end
def nk(v:List NQ)(xs ys:List NQ)(c:NQ):List NQ:=(List.range xs.length).map fun k=>gv (xs.getD k []) (fT v c (ys.getD k []))
theorem rU(v:List NQ)(xs ys:List NQ)(c:NQ):(nk v xs ys c).length=xs.length:=by unfold nk;rw[af,List.length_range]
theorem oo(v:List NQ)(xs ys:List NQ)(c:NQ){k:Nat}(h:k<xs.length):(nk v xs ys c).getD k []=gv (xs.getD k []) (fT v c (ys.getD k [])):=by
 unfold nk;rw[aK,List.getElem?_map,List.getElem?_range h];rfl
def Hu(v:List NQ)(xs ys:List NQ)(c:NQ):Prop:= ∀k,k<xs.length→BI v c (ys.getD k [])∧KC (xs.getD k []) (fT v c (ys.getD k []))
def GG(V1 V2:Value)(zs ys:List NQ)(res:D)(R':List LR):Prop:=res=aQ∧R'=[(V1,iM zs),(V2,iM ys)]
theorem iy{v:List NQ}(V:pj v){a b:NQ}(ha:aA v.length a)(hb:aA v.length b):aA v.length (fT v a b):=bX (fe v.length ha hb V.ro (ai _))
theorem qp{l:Nat}{a b:NQ}(ha:aA l a)(hb:aA l b):aA l (gv a b):=bX (ha.plus hb.minus)
theorem Kj{v:List NQ}(V:pj v){a b:NQ}(ha:aA v.length a)(hb:aA v.length b):aA v.length (xL v a b):=bX (fe v.length ha (gC v.length hb V.ro (ai _)) V.ro (ai _))
set_option maxHeartbeats 3200000 in
theorem v9(V1 V2:Value){v:List NQ}(V:pj v){xs ys:List NQ}{c:NQ}(hl:ys.length=xs.length)(hl0:0<xs.length)(hl1:xs.length≤1000000)(hx: ∀k,aA v.length (xs.getD k []))(hy: ∀k,aA v.length (ys.getD k []))(hc:aA v.length c)(ok:Hu v xs ys c):
  l3 Tryz.prog 134 [ib v,.v V1,.v V2,aq c] [(V1,iM xs),(V2,iM ys)] (GG V1 V2 (nk v xs ys c) ys):=by
 refine l3.intro (n:=47) tok Tryz.func134 rfl rfl rfl (Nat.le_of_ble_eq_true rfl) (by kernel_rfl) (fun B F0 w0=>?_);have hz:=rU v xs ys c;obtain ⟨zs,hzs⟩: ∃zs,nk v xs ys c=zs:=⟨_,rfl⟩;rw[hzs] at hz ⊢;refine AZ.seq (AZ.iK (fun B1 F1 w1=>?_));refine qU 2 rfl (ae.nil ⟨rfl,?_⟩);refine AZ.seq (AZ.seq ?_);refine AZ.Hh (fun B1 F1 w1 hS=>?_);refine qU 1 rfl ?_;refine ae.lens tok (hS.at (i:=0) rfl (by rw[af];exact hl0)) rfl rfl rfl rfl ?_;refine qU 1 rfl ?_;rw[af];refine ae.nil ⟨rfl,?_⟩;refine AZ.block ?_;refine AZ.aL [1,2,3,4,13,14] (fun i:Nat=>([(V1,iM (kB zs xs i)),(V2,iM ys)],[(1,.d (.v V1)),(2,.d (.v V2)),(3,.d (aq c)),(4,.bx [.sl 1 (v.map aq)]),(13,.d (dI xs.length)),(14,.d (dI i))])) (fun i=>i≤xs.length) (fun i=>xs.length-i) 0 (by rw[yE];rfl) (Nat.zero_le _) (fun i hi=>?_)
 · show AZ _ _ _ _ _ _ _ [(V1,iM (kB zs xs i)),(V2,iM ys)] [(1,.d (.v V1)),(2,.d (.v V2)),(3,.d (aq c)),(4,.bx [.sl 1 (v.map aq)]),(13,.d (dI xs.length)),(14,.d (dI i))];refine AZ.seq (AZ.iK (fun B1 F1 w1=>?_));refine qU 1 rfl (ae.nil ⟨rfl,?_⟩);refine AZ.seq ?_;refine AZ.cond rfl (fun h=>?_) (fun h=>?_)
   · have hin:i<xs.length:=by have:=ao h;omega
     have hpl:=v8 hz (i:=i) (by omega);have hpg:=BV hz hin [];have hps:=BU hz hin (d:=[]) (show zs.getD i []=gv (xs.getD i []) (fT v c (ys.getD i [])) by rw[← hzs];exact oo v xs ys c hin);have hyi:i<ys.length:=by omega
     obtain ⟨okm,oks⟩:=ok i hin;have cm:=ve V hc (hy i) okm;have cs:=CQ V (hx i) (iy V hc (hy i)) oks;generalize kB zs xs i=ps at *;generalize hX:xs.getD i []=X at *;generalize hY:ys.getD i []=Y at *;generalize fT v c Y=M at *;generalize gv X M=S at *;refine AZ.skip (AZ.seq (AZ.block (AZ.seq ?_)));refine AZ.iK (fun B1 F1 w1=>?_);refine qU 2 rfl (ae.nil ⟨rfl,?_⟩);refine AZ.seq (AZ.any aS (lX.Cn 11 (by kernel_rfl) (fun B1 F1 w1 hS=>?_)));have hS2:=hS.at (i:=1) rfl (by rw[af];omega);refine qP 4 rfl ?_;refine ah.idxs tok hS2 rfl rfl rfl rfl rfl (aj i) (by rw[af];exact hyi) ?_;refine ah.eH tok (aq (ys.getD i [])) hS2 rfl rfl rfl rfl rfl rfl rfl (getM aq hyi) rfl ?_;rw[hY];refine qQ rfl cm (qP 4 rfl (ah.nil ⟨rfl,?_⟩));refine ak.cut 1 rfl (fun B1 F1 w1=>?_);refine qU 1 rfl (ae.nil ⟨rfl,?_⟩);refine ak.nil (AZ.to [1,2,3,4,9,10,11,13,14] [(1,.d (.v V1)),(2,.d (.v V2)),(3,.d (aq c)),(4,.bx [.sl 1 (v.map aq)]),(9,.d (dI i)),(10,.d (aq M)),(11,.d aQ),(13,.d (dI xs.length)),(14,.d (dI i))] rfl ?_);refine AZ.seq (AZ.seq ?_);refine AZ.iK (fun B1 F1 w1=>?_);refine qU 1 rfl (qR rfl rfl (ae.nil ⟨rfl,?_⟩));refine AZ.aH rfl ?_;refine AZ.skip (AZ.seq (AZ.any aS (ZH.any (β:=[]) ?_)));refine ZH.mv 0 rfl rfl (by kernel_rfl) (by kernel_rfl) (by kernel_rfl) rfl (fun _ _ _ h=>h) (fun _=>rfl) trivial (fun B1 F1 w1=>?_);refine qU 1 rfl (ae.nil ⟨rfl,?_⟩);refine ZH.mv 1 rfl rfl (by kernel_rfl) (by kernel_rfl) (by kernel_rfl) rfl (fun _ _ _ h=>h) (fun _=>rfl) trivial (fun B1 F1 w1=>?_);refine qU 1 rfl (ae.nil ⟨rfl,?_⟩);refine ZH.mv 3 rfl rfl (by kernel_rfl) (by kernel_rfl) (by kernel_rfl) rfl (fun _ _ _ h=>h) (fun _=>rfl) trivial (fun B1 F1 w1=>?_);refine qU 1 rfl (ae.nil ⟨rfl,?_⟩);refine ZH.mv 4 rfl rfl (by kernel_rfl) (by kernel_rfl) (by kernel_rfl) rfl (fun _ _ _ h=>h) (fun _=>rfl) trivial (fun B1 F1 w1=>?_);refine qU 1 rfl (ae.nil ⟨rfl,?_⟩);refine ZH.mv 7 rfl rfl (by kernel_rfl) (by kernel_rfl) (by kernel_rfl) rfl (fun _ _ _ h=>h) (fun _=>rfl) trivial (fun B1 F1 w1=>?_);refine qU 1 rfl (ae.nil ⟨rfl,?_⟩);refine ZH.meet 0 (qB 15 32767) (fun V=>[(V1,iM (kB zs xs (i+1))),(V2,iM ys)]) (fun V=>[(1,.d (.v V1)),(2,.d (.v V2)),(3,.d (aq c)),(4,.bx [.sl 1 (v.map aq)]),(9,.d (dI i)),(10,.d (aq M)),(13,.d (dI xs.length)),(14,.d (dI i)),(31,.d (.v V1)),(32,.d (dI i)),(34,.d (.v V1)),(35,.d (dI i)),(38,.d (aq M)),(33,.d (ib v)),(36,.d (.v (fh V1 (i*1)))),(37,.d (aq X)),(39,.d (.tu [aq S,aQ])),(30,.d (.tu [aq S,aQ])),(40,.d (aq S)),(41,.d aQ),(11,.d aQ)]) (fun V=>?_) (fun N1_2_5_1_1=>?_)
     · refine ZH.done (by kernel_rfl) trivial ?_;refine AZ.to [1,2,3,4,11,13,14] [(1,.d (.v V1)),(2,.d (.v V2)),(3,.d (aq c)),(4,.bx [.sl 1 (v.map aq)]),(11,.d aQ),(13,.d (dI xs.length)),(14,.d (dI i))] rfl ?_;refine AZ.seq (AZ.iK (fun B1 F1 w1=>?_));refine qU 1 rfl (qR rfl rfl (ae.nil ⟨rfl,?_⟩));refine AZ.aH rfl ?_;refine AZ.skip (AZ.iK (fun B1 F1 w1=>?_));refine qU 1 rfl ?_;rw[aI (x:=(i:Int)+1) (by omega) (by omega)];refine qU 1 rfl (ae.nil ⟨rfl,?_⟩);exact⟨i+1,rfl,hin,by omega⟩
     refine ZH.meet 1 (qB 15 16383) (fun V=>[(V1,iM (kB zs xs (i+1))),(V2,iM ys)]) (fun V=>[(1,.d (.v V1)),(2,.d (.v V2)),(3,.d (aq c)),(4,.bx [.sl 1 (v.map aq)]),(9,.d (dI i)),(10,.d (aq M)),(13,.d (dI xs.length)),(14,.d (dI i)),(31,.d (.v V1)),(32,.d (dI i)),(34,.d (.v V1)),(35,.d (dI i)),(38,.d (aq M)),(33,.d (ib v)),(36,.d (.v (fh V1 (i*1)))),(37,.d (aq X)),(39,.d (.tu [aq S,aQ])),(30,.d (.tu [aq S,aQ])),(40,.d (aq S)),(41,.d aQ)]) (fun V=>?_) (fun N1_2_5_1_0=>?_)
     · refine ZH.all 14 (by kernel_rfl) rfl rfl (fun _=>rfl) trivial ?_;refine bN (fun B1 F1 w1=>?_);refine qU 1 rfl (ae.nil ⟨rfl,?_⟩);exact qL (N1_2_5_1_1 V) (by kernel_rfl) rfl trivial
     refine ZH.meet 2 (qB 15 8191) (fun V=>[(V1,iM ps),(V2,iM ys)]) (fun V=>[(1,.d (.v V1)),(2,.d (.v V2)),(3,.d (aq c)),(4,.bx [.sl 1 (v.map aq)]),(9,.d (dI i)),(10,.d (aq M)),(13,.d (dI xs.length)),(14,.d (dI i)),(31,.d (.v V1)),(32,.d (dI i)),(34,.d (.v V1)),(35,.d (dI i)),(38,.d (aq M)),(33,.d (ib v)),(36,.d (.v (fh V1 (i*1)))),(37,.d (aq X)),(39,.d (.tu [aq S,aQ])),(30,.d (.tu [aq S,aQ])),(40,.d (aq S)),(42,.d (.v (fh V1 (i*1)))),(41,.d aQ)]) (fun V=>?_) (fun N1_2_4_1_0=>?_)
     · refine ZH.all 13 (by kernel_rfl) rfl rfl (fun _=>rfl) trivial ?_;refine ak.fp 31 0 rfl rfl rfl ?_;refine ak.el tok 31 42 rfl (List.Mem.head _) rfl rfl rfl (by rw[af,hpl];exact hin) rfl ?_;refine ak.cut 1 rfl (fun B1 F1 w1=>?_);refine ae.CV tok S rfl rfl rfl (by omega) ?_;rw[hps];refine ae.nil ⟨rfl,?_⟩;refine ak.back 31 0 rfl rfl rfl (List.Mem.head _) rfl ?_;exact ak.nil (qL (N1_2_5_1_0 V) (by kernel_rfl) rfl trivial)
     refine ZH.meet 2 (qB 15 14335) (fun V=>[(V1,iM (kB zs xs (i+1))),(V2,iM ys)]) (fun V=>[(1,.d (.v V1)),(2,.d (.v V2)),(3,.d (aq c)),(4,.bx [.sl 1 (v.map aq)]),(9,.d (dI i)),(10,.d (aq M)),(13,.d (dI xs.length)),(14,.d (dI i)),(31,.d (.v V1)),(32,.d (dI i)),(34,.d (.v V1)),(35,.d (dI i)),(38,.d (aq M)),(33,.d (ib v)),(36,.d (.v (fh V1 (i*1)))),(37,.d (aq X)),(39,.d (.tu [aq S,aQ])),(30,.d (.tu [aq S,aQ])),(40,.d (aq S))]) (fun V=>?_) (fun N1_2_5_0_0=>?_)
     · refine ZH.all 11 (by kernel_rfl) rfl rfl (fun _=>rfl) trivial ?_;refine bN (fun B1 F1 w1=>?_);refine qU 1 rfl (ae.nil ⟨rfl,?_⟩);exact qL (N1_2_5_1_0 V) (by kernel_rfl) rfl trivial
     refine ZH.meet 3 (qB 15 4095) (fun V=>[(V1,iM ps),(V2,iM ys)]) (fun V=>[(1,.d (.v V1)),(2,.d (.v V2)),(3,.d (aq c)),(4,.bx [.sl 1 (v.map aq)]),(9,.d (dI i)),(10,.d (aq M)),(13,.d (dI xs.length)),(14,.d (dI i)),(31,.d (.v V1)),(32,.d (dI i)),(34,.d (.v V1)),(35,.d (dI i)),(38,.d (aq M)),(33,.d (ib v)),(36,.d (.v (fh V1 (i*1)))),(37,.d (aq X)),(39,.d (.tu [aq S,aQ])),(30,.d (.tu [aq S,aQ])),(40,.d (aq S)),(41,.d aQ)]) (fun V=>?_) (fun N1_2_3_1_0=>?_)
     · refine ZH.all 12 (by kernel_rfl) rfl rfl (fun _=>rfl) trivial ?_;refine bH (fun B1 F1 w1 hS=>?_);refine ae.idxs tok (hS.at (i:=0) rfl (by rw[af];omega)) rfl rfl rfl rfl (aj i) (by rw[af,hpl];exact hin) ?_;refine ae.nil ⟨rfl,?_⟩;exact qL (N1_2_4_1_0 V) (by kernel_rfl) rfl trivial
     refine ZH.meet 3 (qB 15 6143) (fun V=>[(V1,iM ps),(V2,iM ys)]) (fun V=>[(1,.d (.v V1)),(2,.d (.v V2)),(3,.d (aq c)),(4,.bx [.sl 1 (v.map aq)]),(9,.d (dI i)),(10,.d (aq M)),(13,.d (dI xs.length)),(14,.d (dI i)),(31,.d (.v V1)),(32,.d (dI i)),(34,.d (.v V1)),(35,.d (dI i)),(38,.d (aq M)),(33,.d (ib v)),(36,.d (.v (fh V1 (i*1)))),(37,.d (aq X)),(39,.d (.tu [aq S,aQ])),(30,.d (.tu [aq S,aQ])),(40,.d (aq S)),(42,.d (.v (fh V1 (i*1))))]) (fun V=>?_) (fun N1_2_4_0_0=>?_)
     · refine ZH.two 11 13 (by kernel_rfl) rfl rfl rfl rfl (fun _=>rfl) (fun _=>rfl) trivial ?_ ?_
       · refine bN (fun B1 F1 w1=>?_);refine qU 1 rfl (ae.nil ⟨rfl,?_⟩);exact qL (N1_2_4_1_0 V) (by kernel_rfl) rfl trivial
       · refine ak.fp 31 0 rfl rfl rfl ?_;refine ak.el tok 31 42 rfl (List.Mem.head _) rfl rfl rfl (by rw[af,hpl];exact hin) rfl ?_;refine ak.cut 1 rfl (fun B1 F1 w1=>?_);refine ae.CV tok S rfl rfl rfl (by omega) ?_;rw[hps];refine ae.nil ⟨rfl,?_⟩;refine ak.back 31 0 rfl rfl rfl (List.Mem.head _) rfl ?_;exact ak.nil (qL (N1_2_5_0_0 V) (by kernel_rfl) rfl trivial)
     refine ZH.meet 4 (qB 15 3071) (fun V=>[(V1,iM ps),(V2,iM ys)]) (fun V=>[(1,.d (.v V1)),(2,.d (.v V2)),(3,.d (aq c)),(4,.bx [.sl 1 (v.map aq)]),(9,.d (dI i)),(10,.d (aq M)),(13,.d (dI xs.length)),(14,.d (dI i)),(31,.d (.v V1)),(32,.d (dI i)),(34,.d (.v V1)),(35,.d (dI i)),(38,.d (aq M)),(33,.d (ib v)),(36,.d (.v (fh V1 (i*1)))),(37,.d (aq X)),(39,.d (.tu [aq S,aQ])),(30,.d (.tu [aq S,aQ])),(41,.d aQ)]) (fun V=>?_) (fun N1_2_2_1_0=>?_)
     · refine ZH.all 10 (by kernel_rfl) rfl rfl (fun _=>rfl) trivial ?_;refine bN (fun B1 F1 w1=>?_);refine qU 1 rfl (ae.nil ⟨rfl,?_⟩);exact qL (N1_2_3_1_0 V) (by kernel_rfl) rfl trivial
     refine ZH.meet 4 (qB 15 2047) (fun V=>[(V1,iM ps),(V2,iM ys)]) (fun V=>[(1,.d (.v V1)),(2,.d (.v V2)),(3,.d (aq c)),(4,.bx [.sl 1 (v.map aq)]),(9,.d (dI i)),(10,.d (aq M)),(13,.d (dI xs.length)),(14,.d (dI i)),(31,.d (.v V1)),(32,.d (dI i)),(34,.d (.v V1)),(35,.d (dI i)),(38,.d (aq M)),(33,.d (ib v)),(36,.d (.v (fh V1 (i*1)))),(37,.d (aq X)),(39,.d (.tu [aq S,aQ])),(30,.d (.tu [aq S,aQ])),(40,.d (aq S))]) (fun V=>?_) (fun N1_2_3_0_0=>?_)
     · refine ZH.two 11 12 (by kernel_rfl) rfl rfl rfl rfl (fun _=>rfl) (fun _=>rfl) trivial ?_ ?_
       · refine bN (fun B1 F1 w1=>?_);refine qU 1 rfl (ae.nil ⟨rfl,?_⟩);exact qL (N1_2_3_1_0 V) (by kernel_rfl) rfl trivial
       · refine bH (fun B1 F1 w1 hS=>?_);refine ae.idxs tok (hS.at (i:=0) rfl (by rw[af];omega)) rfl rfl rfl rfl (aj i) (by rw[af,hpl];exact hin) ?_;refine ae.nil ⟨rfl,?_⟩;exact qL (N1_2_4_0_0 V) (by kernel_rfl) rfl trivial
     refine ZH.meet 5 (qB 15 1023) (fun V=>[(V1,iM ps),(V2,iM ys)]) (fun V=>[(1,.d (.v V1)),(2,.d (.v V2)),(3,.d (aq c)),(4,.bx [.sl 1 (v.map aq)]),(9,.d (dI i)),(10,.d (aq M)),(13,.d (dI xs.length)),(14,.d (dI i)),(31,.d (.v V1)),(32,.d (dI i)),(34,.d (.v V1)),(35,.d (dI i)),(38,.d (aq M)),(33,.d (ib v)),(36,.d (.v (fh V1 (i*1)))),(37,.d (aq X)),(39,.d (.tu [aq S,aQ])),(30,.d (.tu [aq S,aQ]))]) (fun V=>?_) (fun N1_2_2_0_0=>?_)
     · refine ZH.two 10 11 (by kernel_rfl) rfl rfl rfl rfl (fun _=>rfl) (fun _=>rfl) trivial ?_ ?_
       · refine bN (fun B1 F1 w1=>?_);refine qU 1 rfl (ae.nil ⟨rfl,?_⟩);exact qL (N1_2_3_0_0 V) (by kernel_rfl) rfl trivial
       · refine bN (fun B1 F1 w1=>?_);refine qU 1 rfl (ae.nil ⟨rfl,?_⟩);exact qL (N1_2_2_1_0 V) (by kernel_rfl) rfl trivial
     refine ZH.meet 6 (qB 15 511) (fun V=>[(V1,iM ps),(V2,iM ys)]) (fun V=>[(1,.d (.v V1)),(2,.d (.v V2)),(3,.d (aq c)),(4,.bx [.sl 1 (v.map aq)]),(9,.d (dI i)),(10,.d (aq M)),(13,.d (dI xs.length)),(14,.d (dI i)),(31,.d (.v V1)),(32,.d (dI i)),(34,.d (.v V1)),(35,.d (dI i)),(38,.d (aq M)),(33,.d (ib v)),(36,.d (.v (fh V1 (i*1)))),(37,.d (aq X)),(39,.d (.tu [aq S,aQ]))]) (fun V=>?_) (fun N1_2_1_0_0=>?_)
     · refine ZH.all 9 (by kernel_rfl) rfl rfl (fun _=>rfl) trivial ?_;refine bN (fun B1 F1 w1=>?_);refine qU 1 rfl (ae.nil ⟨rfl,?_⟩);exact qL (N1_2_2_0_0 V) (by kernel_rfl) rfl trivial
     refine ZH.meet 7 (qB 15 255) (fun V=>[(V1,iM ps),(V2,iM ys)]) (fun V=>[(1,.d (.v V1)),(2,.d (.v V2)),(3,.d (aq c)),(4,.bx [.sl 1 (v.map aq)]),(9,.d (dI i)),(10,.d (aq M)),(13,.d (dI xs.length)),(14,.d (dI i)),(31,.d (.v V1)),(32,.d (dI i)),(34,.d (.v V1)),(35,.d (dI i)),(38,.d (aq M)),(33,.d (ib v)),(36,.d (.v (fh V1 (i*1)))),(37,.d (aq X))]) (fun V=>?_) (fun N1_2_0_0_0=>?_)
     · refine ZH.all 8 (by kernel_rfl) rfl rfl (fun _=>rfl) trivial ?_;refine bN (fun B1 F1 w1=>?_);refine qM rfl cs (ae.nil ⟨rfl,?_⟩);exact qL (N1_2_1_0_0 V) (by kernel_rfl) rfl trivial
     refine ZH.meet 8 (qB 15 251) (fun V=>[(V1,iM ps),(V2,iM ys)]) (fun V=>[(1,.d (.v V1)),(2,.d (.v V2)),(3,.d (aq c)),(4,.bx [.sl 1 (v.map aq)]),(9,.d (dI i)),(10,.d (aq M)),(13,.d (dI xs.length)),(14,.d (dI i)),(31,.d (.v V1)),(32,.d (dI i)),(34,.d (.v V1)),(35,.d (dI i)),(38,.d (aq M)),(36,.d (.v (fh V1 (i*1)))),(37,.d (aq X))]) (fun V=>?_) (fun N0_2_0_0_0=>?_)
     · refine ZH.all 2 (by kernel_rfl) rfl rfl (fun _=>rfl) trivial ?_;refine bN (fun B1 F1 w1=>?_);refine qU 1 rfl (ae.nil ⟨rfl,?_⟩);exact qL (N1_2_0_0_0 V) (by kernel_rfl) rfl trivial
     refine ZH.meet 8 (qB 15 191) (fun V=>[(V1,iM ps),(V2,iM ys)]) (fun V=>[(1,.d (.v V1)),(2,.d (.v V2)),(3,.d (aq c)),(4,.bx [.sl 1 (v.map aq)]),(9,.d (dI i)),(10,.d (aq M)),(13,.d (dI xs.length)),(14,.d (dI i)),(31,.d (.v V1)),(32,.d (dI i)),(34,.d (.v V1)),(35,.d (dI i)),(38,.d (aq M)),(33,.d (ib v)),(36,.d (.v (fh V1 (i*1))))]) (fun V=>?_) (fun N1_1_0_0_0=>?_)
     · refine ZH.all 6 (by kernel_rfl) rfl rfl (fun _=>rfl) trivial ?_;refine bH (fun B1 F1 w1 hS=>?_);refine ae.eH tok (aq (ps.getD i [])) (hS.at (i:=0) rfl (by rw[af];omega)) rfl rfl rfl rfl rfl rfl (getM aq (by omega)) rfl ?_;rw[hpg];refine ae.nil ⟨rfl,?_⟩;exact qL (N1_2_0_0_0 V) (by kernel_rfl) rfl trivial
     refine ZH.meet 9 (qB 15 187) (fun V=>[(V1,iM ps),(V2,iM ys)]) (fun V=>[(1,.d (.v V1)),(2,.d (.v V2)),(3,.d (aq c)),(4,.bx [.sl 1 (v.map aq)]),(9,.d (dI i)),(10,.d (aq M)),(13,.d (dI xs.length)),(14,.d (dI i)),(31,.d (.v V1)),(32,.d (dI i)),(34,.d (.v V1)),(35,.d (dI i)),(38,.d (aq M)),(36,.d (.v (fh V1 (i*1))))]) (fun V=>?_) (fun N0_1_0_0_0=>?_)
     · refine ZH.two 2 6 (by kernel_rfl) rfl rfl rfl rfl (fun _=>rfl) (fun _=>rfl) trivial ?_ ?_
       · refine bN (fun B1 F1 w1=>?_);refine qU 1 rfl (ae.nil ⟨rfl,?_⟩);exact qL (N1_1_0_0_0 V) (by kernel_rfl) rfl trivial
       · refine bH (fun B1 F1 w1 hS=>?_);refine ae.eH tok (aq (ps.getD i [])) (hS.at (i:=0) rfl (by rw[af];omega)) rfl rfl rfl rfl rfl rfl (getM aq (by omega)) rfl ?_;rw[hpg];refine ae.nil ⟨rfl,?_⟩;exact qL (N0_2_0_0_0 V) (by kernel_rfl) rfl trivial
     refine ZH.meet 9 (qB 15 159) (fun V=>[(V1,iM ps),(V2,iM ys)]) (fun V=>[(1,.d (.v V1)),(2,.d (.v V2)),(3,.d (aq c)),(4,.bx [.sl 1 (v.map aq)]),(9,.d (dI i)),(10,.d (aq M)),(13,.d (dI xs.length)),(14,.d (dI i)),(31,.d (.v V1)),(32,.d (dI i)),(34,.d (.v V1)),(35,.d (dI i)),(38,.d (aq M)),(33,.d (ib v))]) (fun V=>?_) (fun N1_0_0_0_0=>?_)
     · refine ZH.all 5 (by kernel_rfl) rfl rfl (fun _=>rfl) trivial ?_;refine bH (fun B1 F1 w1 hS=>?_);refine ae.idxs tok (hS.at (i:=0) rfl (by rw[af];omega)) rfl rfl rfl rfl (aj i) (by rw[af,hpl];exact hin) ?_;refine ae.nil ⟨rfl,?_⟩;exact qL (N1_1_0_0_0 V) (by kernel_rfl) rfl trivial
     refine ZH.meet 10 (qB 15 155) (fun V=>[(V1,iM ps),(V2,iM ys)]) (fun V=>[(1,.d (.v V1)),(2,.d (.v V2)),(3,.d (aq c)),(4,.bx [.sl 1 (v.map aq)]),(9,.d (dI i)),(10,.d (aq M)),(13,.d (dI xs.length)),(14,.d (dI i)),(31,.d (.v V1)),(32,.d (dI i)),(34,.d (.v V1)),(35,.d (dI i)),(38,.d (aq M))]) (fun V=>?_) (fun N0_0_0_0_0=>?_)
     · refine ZH.two 2 5 (by kernel_rfl) rfl rfl rfl rfl (fun _=>rfl) (fun _=>rfl) trivial ?_ ?_
       · refine bN (fun B1 F1 w1=>?_);refine qU 1 rfl (ae.nil ⟨rfl,?_⟩);exact qL (N1_0_0_0_0 V) (by kernel_rfl) rfl trivial
       · refine bH (fun B1 F1 w1 hS=>?_);refine ae.idxs tok (hS.at (i:=0) rfl (by rw[af];omega)) rfl rfl rfl rfl (aj i) (by rw[af,hpl];exact hin) ?_;refine ae.nil ⟨rfl,?_⟩;exact qL (N0_1_0_0_0 V) (by kernel_rfl) rfl trivial
     exact qL (N0_0_0_0_0 iu) (by kernel_rfl) rfl trivial
   have hin:i=xs.length:=by have:=ar h;omega
   subst hin;rw[BW hz];refine AZ.exit ?_;refine AZ.seq (AZ.iK (fun B1 F1 w1=>?_));refine qU 1 rfl (ae.nil ⟨rfl,?_⟩);exact AZ.ret ⟨aQ,rfl,rfl,rfl⟩
end Lift
namespace Lift
abbrev cI:=List (List NQ)
structure jT where
 rows:cI
 cols:List Nat
 sg:Int
 ia:NQ
def j5(g:Nat→Bool):Nat→Nat→Nat
 | 0,i=>i
 | m+1,i=>if g i=true then i else j5 g m (i+1)
theorem yJ{g:Nat→Bool}{n i:Nat}(h:i<n)(h0:g i=false):j5 g (n-i) i=j5 g (n-(i+1)) (i+1):=by
 rw[show n-i=(n-(i+1))+1 by omega,j5,if_neg (by rw[h0];simp)]
theorem Cc{g:Nat→Bool}{n i:Nat}(h:i<n)(h0:g i=true):j5 g (n-i) i=i:=by
 rw[show n-i=(n-(i+1))+1 by omega,j5,if_pos h0]
theorem Cd{g:Nat→Bool}{n i:Nat}(h: ¬i<n):j5 g (n-i) i=i:=by rw[show n-i=0 by omega,j5]
theorem sN{g:Nat→Bool}: ∀{m i:Nat},i≤j5 g m i∧j5 g m i≤i+m∧(∀k,i≤k→k<j5 g m i→g k=false)∧(j5 g m i<i+m→g (j5 g m i)=true)
 | 0,i=>⟨ai _,ai _,fun k h1 h2=>by simp only[j5] at h2;omega,fun h=>by simp only[j5] at h;omega⟩
 | m+1,i=>by
   simp only[j5];split
   · rename_i h;exact⟨ai _,by omega,fun k h1 h2=>by omega,fun _=>h⟩
   · rename_i h;obtain ⟨h1,h2,h3,h4⟩:=sN (g:=g) (m:=m) (i:=i+1);refine⟨by omega,by omega,fun k k1 k2=>?_,fun k=>h4 (by omega)⟩;by_cases e:k=i
     · subst e;simpa using h
     · exact h3 k (by omega) k2
def bm(a:cI)(i k:Nat):NQ:=(a.getD i []).getD k []
def MP(v:List NQ)(a:cI)(c j:Nat):Bool:=decide (rQ v (bm a j c)≠0)
def GN(b:cI)(r t:Nat):cI:=(b.set t (b.getD r [])).set r (b.getD t [])
def dD(v:List NQ)(e:cI)(r c:Nat):Nat→cI
 | 0=>e
 | i+1=>if i≠r∧rQ v (bm (dD v e r c i) i c)≠0 then (dD v e r c i).set i (nk v ((dD v e r c i).getD i []) ((dD v e r c i).getD r []) (bm (dD v e r c i) i c)) else dD v e r c i
def atR(v:List NQ)(s:jT)(c:Nat):Nat:=j5 (MP v s.rows c) (s.rows.length-s.cols.length) s.cols.length
def bR(v:List NQ)(s:jT)(c:Nat):cI:=if atR v s c=s.cols.length then s.rows else GN s.rows s.cols.length (atR v s c)
def pR(v:List NQ)(s:jT)(c:Nat):NQ:=bm (bR v s c) s.cols.length c
def Gl(v:List NQ)(r:List NQ)(p:NQ):List NQ:=r.map (fun x=>xL v x p)
def eR(v:List NQ)(s:jT)(c:Nat):cI:=(bR v s c).set s.cols.length (Gl v ((bR v s c).getD s.cols.length []) (pR v s c))
def cQ(v:List NQ)(s:jT)(c:Nat):jT :=
 if atR v s c<s.rows.length then ⟨dD v (eR v s c) s.cols.length c (eR v s c).length,s.cols++[c],if atR v s c=s.cols.length then s.sg else -s.sg,fT v s.ia (pR v s c)⟩ else s
def aF(v:List NQ)(a:cI):Nat→jT
 | 0=>⟨a,[],1,[1]⟩
 | c+1=>cQ v (aF v a c) c
structure kE (v:List NQ) (s:jT) (c:Nat):Prop where
 sg: ∀j,s.cols.length≤j→j<s.rows.length→Df v (bm s.rows j c)
 ia:atR v s c<s.rows.length→BI v s.ia (pR v s c)
 div:atR v s c<s.rows.length→ ∀k,k<((bR v s c).getD s.cols.length []).length→Hz v (bm (bR v s c) s.cols.length k) (pR v s c)
 sg2:atR v s c<s.rows.length→ ∀i,i<s.rows.length→i≠s.cols.length→Df v (bm (eR v s c) i c)
 take:atR v s c<s.rows.length→ ∀i,i<s.rows.length→i≠s.cols.length→rQ v (bm (eR v s c) i c)≠0→Hu v ((eR v s c).getD i []) ((eR v s c).getD s.cols.length []) (bm (eR v s c) i c)
def dq(N:Nat)(a:cI):Prop:= ∀j,j<a.length→(a.getD j []).length=N
def rO(l:Nat)(a:cI):Prop:= ∀j k,aA l (bm a j k)
theorem eJ(a:cI)(i j:Nat)(r:List NQ):(a.set i r).getD j []=if j=i∧i<a.length then r else a.getD j []:=by
 rw[aK,List.getElem?_set,aK];by_cases e:i=j
 · subst e;by_cases h:i<a.length
   · rw[if_pos rfl,if_pos h,if_pos ⟨rfl,h⟩];rfl
   · rw[if_pos rfl,if_neg h,if_neg (fun e=>h e.2),List.getElem?_eq_none (by omega)]
 · rw[if_neg e,if_neg (fun h=>e h.1.symm)]
theorem k7{a:cI}{i:Nat}(h:a.length≤i):a.getD i []=[]:=by rw[aK,List.getElem?_eq_none h];rfl
theorem rF{r:List NQ}{i:Nat}(h:r.length≤i):r.getD i []=[]:=by rw[aK,List.getElem?_eq_none h];rfl
theorem dq.set{N:Nat}{a:cI}(h:dq N a){r:List NQ}(hr:r.length=N)(i:Nat):dq N (a.set i r):=fun j hj=>by
 rw[eJ];split
 · exact hr
 · exact h j (by simpa using hj)
theorem rO.set{l:Nat}{a:cI}(h:rO l a){r:List NQ}(hr: ∀k,aA l (r.getD k []))(i:Nat):rO l (a.set i r):=fun j k=>by
 unfold bm;rw[eJ];split
 · exact hr k
 · exact h j k
theorem Jo(b:cI)(r t:Nat):(GN b r t).length=b.length:=by unfold GN;rw[List.length_set,List.length_set]
theorem GM{N:Nat}{b:cI}(h:dq N b){r t:Nat}(hr:r<b.length)(ht:t<b.length):dq N (GN b r t):=(h.set (h r hr) t).set (h t ht) r
theorem Lf{l:Nat}{b:cI}(h:rO l b)(r t:Nat):rO l (GN b r t):=(h.set (h r) t).set (h t) r
theorem zV(v:List NQ)(r:List NQ)(p:NQ):(Gl v r p).length=r.length:=af ..
theorem uF(v:List NQ)(r:List NQ)(p:NQ){k:Nat}(h:k<r.length):(Gl v r p).getD k []=xL v (r.getD k []) p:=by
 unfold Gl;rw[aK,List.getElem?_map,aK,bP h];rfl
theorem LC{v:List NQ}(V:pj v){r:List NQ}{p:NQ}(hr: ∀k,aA v.length (r.getD k []))(hp:aA v.length p)(k:Nat):aA v.length ((Gl v r p).getD k []):=by
 by_cases h:k<r.length
 · rw[uF v r p h];exact Kj V (hr k) hp
 · rw[rF (by rw[zV];omega)];exact cg _
theorem GH{v:List NQ}(V:pj v){xs ys:List NQ}{c:NQ}(hx: ∀k,aA v.length (xs.getD k []))(hy: ∀k,aA v.length (ys.getD k []))(hc:aA v.length c)(k:Nat):aA v.length ((nk v xs ys c).getD k []):=by
 by_cases h:k<xs.length
 · rw[oo v xs ys c h];exact qp (hx k) (iy V hc (hy k))
 · rw[rF (by rw[rU];omega)];exact cg _
theorem jD(v:List NQ)(e:cI)(r c:Nat): ∀i,(dD v e r c i).length=e.length
 | 0=>rfl
 | i+1=>by
   unfold dD;split
   · rw[List.length_set];exact jD v e r c i
   · exact jD v e r c i
theorem sW{N:Nat}{v:List NQ}{e:cI}{r c:Nat}(h:dq N e): ∀i,i≤e.length→dq N (dD v e r c i)
 | 0,_=>h
 | i+1,hi=>by
   have ih:=sW (v:=v) (r:=r) (c:=c) h i (by omega);unfold dD;split
   · exact ih.set (by rw[rU];exact ih i (by rw[jD];omega)) i
   · exact ih
theorem Aw{v:List NQ}(V:pj v){e:cI}{r c:Nat}(h:rO v.length e): ∀i,rO v.length (dD v e r c i)
 | 0=>h
 | i+1=>by
   have ih:=Aw V (r:=r) (c:=c) h i;unfold dD;split
   · exact ih.set (GH V (ih i) (ih r) (ih i c)) i
   · exact ih
theorem iE(v:List NQ)(e:cI)(r c:Nat): ∀i,(∀j,i≤j∨j=r→(dD v e r c i).getD j []=e.getD j [])
 | 0,j,_=>rfl
 | i+1,j,hj=>by
   have ih:=iE v e r c i j (by omega);unfold dD;split
   · rename_i h;rw[eJ,if_neg (fun g=>by rcases hj with hj | hj<;>omega)];exact ih
   · exact ih
theorem Ax(v:List NQ)(e:cI)(r c:Nat)(i:Nat)(k:Nat):bm (dD v e r c i) i k=bm e i k:=by unfold bm;rw[iE v e r c i i (.inl (ai _))]
structure pk (v:List NQ) (m N c:Nat) (s:jT):Prop where
 len:s.rows.length=m
 rect:dq N s.rows
 lt:rO v.length s.rows
 cl:s.cols.length≤c
 cm:s.cols.length≤m
 ia:aA v.length s.ia
 sg:s.sg=1∨s.sg= -1
theorem fo(v:List NQ)(s:jT)(c:Nat)(h:s.cols.length≤s.rows.length):s.cols.length≤atR v s c∧atR v s c≤s.rows.length∧(∀k,s.cols.length≤k→k<atR v s c→rQ v (bm s.rows k c)=0)∧(atR v s c<s.rows.length→rQ v (bm s.rows (atR v s c) c)≠0):=by
 obtain ⟨h1,h2,h3,h4⟩:=sN (g:=MP v s.rows c) (m:=s.rows.length-s.cols.length) (i:=s.cols.length);refine⟨h1,by unfold atR;omega,fun k k1 k2=>?_,fun h=>?_⟩
 · have:=h3 k k1 k2;unfold MP at this;exact Classical.byContradiction fun g=>by rw[aO g] at this;cases this
 · exact ao (h4 (by unfold atR at h;omega))
theorem rM{v:List NQ}{m N c k:Nat}{s:jT}(R:pk v m N k s)(h:atR v s c<s.rows.length):(bR v s c).length=m∧dq N (bR v s c)∧rO v.length (bR v s c):=by
 have hl:=R.len;have:=(fo v s c (by have:=R.cm;omega)).1;unfold bR;split
 · exact⟨R.len,R.rect,R.lt⟩
 · exact⟨by rw[Jo];exact R.len,GM R.rect (by omega) h,Lf R.lt _ _⟩
theorem yR{v:List NQ}(V:pj v){m N c k:Nat}{s:jT}(R:pk v m N k s)(h:atR v s c<s.rows.length):(eR v s c).length=m∧dq N (eR v s c)∧rO v.length (eR v s c):=by
 obtain ⟨h1,h2,h3⟩:=rM (c:=c) R h;have hl:=R.len;have:=(fo v s c (by have:=R.cm;omega)).1;unfold eR;exact⟨by rw[List.length_set];exact h1,h2.set (by rw[zV];exact h2 _ (by omega)) _,h3.set (LC V (h3 _) (h3 _ _)) _⟩
theorem Ju{v:List NQ}(V:pj v){m N c:Nat}{s:jT}(R:pk v m N c s):pk v m N (c+1) (cQ v s c):=by
 have hl:=R.len;have hc:=R.cl;unfold cQ;split
 · rename_i h;obtain ⟨e1,e2,e3⟩:=yR V (c:=c) R h;have ha:=(fo v s c (by have:=R.cm;omega)).1;refine⟨by rw[jD];exact e1,sW e2 _ (ai _),Aw V e3 _,?_,?_,iy V R.ia ((rM R h).2.2 _ _),?_⟩
   · show (s.cols++[c]).length≤c+1;rw[List.length_append];show s.cols.length+1≤_;omega
   · show (s.cols++[c]).length≤m;rw[List.length_append];show s.cols.length+1≤_;omega
   · rcases R.sg with h1 | h1<;>(show (if _ then s.sg else -s.sg)=1∨_= -1;split<;>simp[h1])
 · exact⟨R.len,R.rect,R.lt,by omega,R.cm,R.ia,R.sg⟩
theorem kt{v:List NQ}(V:pj v){a:cI}{N:Nat}(hr:dq N a)(hl:rO v.length a): ∀c,pk v a.length N c (aF v a c)
 | 0=>⟨rfl,hr,hl,ai _,Nat.zero_le _,fb _ _,.inl rfl⟩
 | c+1=>Ju V (kt V hr hl c)
theorem qv(v:List NQ): ∀c,aF v [] c=⟨[],[],1,[1]⟩
 | 0=>rfl
 | c+1=>by
   show cQ v (aF v [] c) c=_;rw[qv v c];unfold cQ;exact if_neg (Nat.not_lt_zero _)
end Lift
namespace Lift
open Go
open Go.RowKit (Below)
section
variable {P:Program} {T:Ty} {B:Nat} {F0:Nat→Prop} {w0:cX} {n:Nat} {σ:St} {R:List LR} {ops:Array Oper}
def jC(j k i:Nat)(o:Oper):Oper:=match Nat.beq i k with
 | true=>addEdge j i o
 | false=>o
def eD(ops:Array Oper)(x:Nat×Nat):Array Oper:=(ops.toList.zipIdx.map fun y=>jC x.1 x.2 y.2 y.1).toArray
theorem kV(ops:Array Oper)(j k i:Nat):(eD ops (j,k))[i]?=(ops[i]?).map (jC j k i):=by
 unfold eD;rw[List.getElem?_toArray,List.getElem?_map,List.getElem?_zipIdx];simp;cases ops[i]?<;>rfl
theorem qZ(ops:Array Oper)(x:Nat×Nat):(eD ops x).size=ops.size:=by simp[eD]
theorem Ck(j k i:Nat)(o:Oper):(jC j k i o).op=o.op∧(jC j k i o).dst=o.dst∧(jC j k i o).guard=o.guard:=by
 unfold jC;split
 · exact D1 j i o
 · exact⟨rfl,rfl,rfl⟩
theorem wF(j k i:Nat)(o:Oper)(ρ:Operand→Value):execOp ρ (jC j k i o)=execOp ρ o:=by
 unfold jC;split
 · exact AF j i o ρ
 · rfl
theorem Ii{j k i:Nat}(h:i≠k)(o:Oper):jC j k i o=o:=by
 unfold jC;cases hb:Nat.beq i k with
 | true=>exact absurd (Nat.eq_of_beq_eq_true hb) h
 | false=>rfl
theorem tI{j k i:Nat}{o:Oper}{e:Edge}:(e∈o.after→e∈(jC j k i o).after)∧(e∈(jC j k i o).after→e∈o.after∨e.on=j):=by
 unfold jC addEdge;split
 · split
   · exact⟨id,.inl⟩
   · refine⟨fun h=>by simp[h],fun h=>?_⟩;simp at h;rcases h with h | rfl
     · exact .inl h
     · exact .inr rfl
 · exact⟨id,.inl⟩
variable {Q:Exit→Act→World→Prop}
theorem qf(j k i:Nat){K:Act→World→Prop}{a:Act}{w:World}(h:wpOp P (eD ops (j,k)) Q i K a w):wpOp P ops Q i K a w:=by
 unfold wpOp at *;rw[kV] at h;cases ho:ops[i]? with
 | none=>rw[ho] at h;exact h
 | some o =>
   rw[ho] at h;simp only[Option.map_some] at h ⊢;obtain ⟨e1,e2,e3⟩:=Ck j k i o
   have hy: ∀g,yielded (eD ops (j,k)) a.tmps g=yielded ops a.tmps g:=fun g=>by
    unfold yielded;rw[kV];cases ops[g]? with
    | none=>rfl
    | some og=>simp only[Option.map_some,Option.bind_some,(Ck j k g og).2.1]
   have hw:Region.wanted (jC j k i o) (yielded (eD ops (j,k)) a.tmps)=Region.wanted o (yielded ops a.tmps):=by
    unfold Region.wanted;rw[e3];split
    · rfl
    · rw[hy]
   rw[hw,e2] at h
   have hwp:(jC j k i o).wp P a w K Q→o.wp P a w K Q:=fun h=>by
    unfold Oper.wp at *;rw[wF] at h;generalize (execOp a.eval o).run P w=r at *;cases r with
    | ok n w'=>cases n<;>simp only[Oper.upon,e2] at h ⊢ <;>exact h
    | halt x w'=>cases x<;>simp only[Oper.upon] at h ⊢ <;>exact h
   have has:(jC j k i o).asks P a w→o.asks P a w:=fun h=>by
    unfold Oper.asks at *;rw[wF] at h;exact h
   split
   · rename_i hc;rw[if_pos hc] at h;rcases h with h | ⟨h1,h2⟩
     · exact .inl (hwp h)
     · exact .inr ⟨has h1,h2⟩
   · rename_i hc;rw[if_neg hc] at h;exact h
def zd:Op→Bool
 | .move _=>true
 | .extract _ _=>true
 | _=>false
theorem FC{o:Oper}(hs:zd o.op=true){a:Act}{w:World}{K:Act→World→Prop}(hpan: ∀c a w,Q (.panic c) a w→False)(h:o.wp P a w K Q): ∃v,(∀w',(execOp a.eval o).run P w'= .ok (.value v) w')∧K (a.put o.dst v) w:=by
 unfold Oper.wp at h;obtain ⟨dst,op,ty,pos,after,guard⟩:=o;simp only[] at hs;cases op<;>simp only[zd] at hs<;>try (cases hs;done)
 · rename_i x;refine⟨a.eval x,fun w'=>by simp[execOp],?_⟩;simpa[execOp,Oper.upon] using h
 · rename_i x ix;cases hx:a.eval x<;>try (exfalso;simp[execOp,Instr.extract,hx,Oper.upon] at h;done)
   rename_i vs;cases hv:vs[ix]? with
   | none=>exfalso;simp[execOp,Instr.extract,hx,hv,Oper.upon] at h
   | some v=>exact⟨v,fun w'=>by simp[execOp,Instr.extract,hx,hv],by simpa[execOp,Instr.extract,hx,hv,Oper.upon] using h⟩
def Ij(ops:Array Oper)(j k:Nat):Bool:=match ops[j]?,ops[k]? with
 | some oj,some ok=>zd oj.op&&oj.guard.isNone&&KD ops&& !Nat.beq j k &&
   (oj.after.toList.all fun e=> !Region.binds .any e||ok.after.toList.any fun f=>Region.binds .any f&&Nat.beq f.on e.on) &&
   ((List.range ops.size).all fun i=>Nat.beq i j||(oj.after.toList.any fun e=>Region.binds .any e&&Nat.beq e.on i)||match ops[i]? with
     | some o=>(o.after.toList.any fun e=>Region.binds .any e&&Nat.beq e.on j)||oj.apart ops o
     | none=>true)
 | _,_=>false
theorem CI{j k:Nat}(hB:Ij ops j k=true)(hpan: ∀c a w,Q (.panic c) a w→False)(hout:LetsOut Q→False): ∀(f:Nat) (L:Array Bool) (a:Act) (w:World),L.size=ops.size →
  wpAny P .any (eD ops (j,k)) Q f L a w→wpAny P .any ops Q f L a w:=by
 unfold Ij at hB;split at hB;rotate_left
 · cases hB
 rename_i oj ok hoj hok;simp only[Bool.and_eq_true,List.all_eq_true,Bool.not_eq_true'] at hB;obtain ⟨⟨⟨⟨⟨hst,hg⟩,hsel⟩,hjk⟩,haf⟩,hap⟩:=hB;have hjk:=Nat.ne_of_beq_eq_false hjk;have hgn:oj.guard=none:=by simpa using hg
 have hjl:j<ops.size:=(Array.getElem?_eq_some_iff.1 hoj).1
 have hdich: ∀L:Array Bool,L.size=ops.size→L.getD j true=false∨L.getD j false=true:=fun L hL=>by
  simp only[Array.getD_eq_getD_getElem?];rw[Array.getElem?_eq_getElem (by omega)];simp only[Option.getD_some];cases L[j]'(by omega)<;>simp
 have r1: ∀(L:Array Bool) i,i∈Region.ready .any (eD ops (j,k)) L→i∈Region.ready .any ops L:=fun L i hi=>by
  rw[mem_ready] at hi ⊢;obtain ⟨h1,o,ho,h2⟩:=hi;rw[kV] at ho;cases hx:ops[i]? with
  | none=>rw[hx] at ho;cases ho
  | some o' =>
    rw[hx] at ho;simp at ho;subst ho;exact⟨h1,o',rfl,fun e he hb=>h2 e (tI.1 he) hb⟩
 have r2: ∀(L:Array Bool) i,i∈Region.ready .any ops L→(i≠k∨L.getD j false=true)→i∈Region.ready .any (eD ops (j,k)) L:=fun L i hi hc=>by
  rw[mem_ready] at hi ⊢;obtain ⟨h1,o,ho,h2⟩:=hi;refine⟨h1,jC j k i o,by rw[kV,ho];rfl,fun e he hb=>?_⟩;rcases hc with hc | hc
  · rw[Ii hc] at he;exact h2 e he hb
  · rcases tI.2 he with h | h
    · exact h2 e h hb
    · rw[h];exact hc
 have rj: ∀L:Array Bool,k∈Region.ready .any ops L→L.getD j true=false→j∈Region.ready .any ops L:=fun L hk hj=>by
  rw[mem_ready] at hk ⊢;obtain ⟨_,o,ho,h2⟩:=hk;rw[hok] at ho;cases ho;refine⟨hj,oj,hoj,fun e he hb=>?_⟩;have:=haf e (by simpa using he);rw[hb] at this;simp only[Bool.not_true,Bool.false_or] at this;obtain ⟨f,hf,hfb⟩:=List.any_eq_true.1 this;simp only[Bool.and_eq_true] at hfb;rw[← Nat.eq_of_beq_eq_true hfb.2];exact h2 f (by simpa using hf) hfb.1
 intro f
 induction f with
 | zero =>
   intro L a w hL h;refine⟨List.eq_nil_iff_forall_not_mem.2 fun i hi=>?_,h.2⟩;rcases hdich L hL with hd | hd
   · by_cases hik:i=k
     · subst hik;have:=r2 L j (rj L hi hd) (.inl hjk);rw[h.1] at this;cases this
     · have:=r2 L i hi (.inl hik);rw[h.1] at this;cases this
   · have:=r2 L i hi (.inr hd);rw[h.1] at this;cases this
 | succ f ih =>
   intro L a w hL h;have hLs: ∀i,(L.setIfInBounds i true).size=ops.size:=fun i=>by simpa using hL
   refine⟨fun hn=>h.1 (List.eq_nil_iff_forall_not_mem.2 fun i hi=>?_),fun i hi=>?_⟩
   · have:=r1 L i hi;rw[hn] at this;cases this
   · have easy:(i≠k∨L.getD j false=true)→wpOp P ops Q i (wpAny P .any ops Q f (L.setIfInBounds i true)) a w:=fun hc =>
      wpOp_mono (fun a' w' h'=>ih _ a' w' (hLs i) h') (qf j k i (h.2 i (r2 L i hi hc)))
     rcases hdich L hL with hd | hd
     rotate_left
     · exact easy (.inr hd)
     by_cases hik:i=k;rotate_left
     · exact easy (.inl hik)
     subst hik;have hjr:=rj L hi hd;have h1:=qf j i j (h.2 j (r2 L j hjr (.inl hjk)));have hwant:Region.wanted oj (yielded ops a.tmps)=true:=by simp[Region.wanted,hgn]
     unfold wpOp at h1;simp only[hoj,hwant,if_true] at h1;rcases h1 with h1 | ⟨_,h1⟩
     rotate_left
     · exact(hout h1).elim
     obtain ⟨v,hv,hK⟩:=FC hst hpan h1;have h3:=ih _ _ _ (hLs j) hK
     have h4:=wpAny_first (i:=j) (oi:=oj) (v:=v) hoj (fun i o cs b hi he=>by
      unfold KD at hsel;have:=List.all_eq_true.1 hsel o (by simpa using Array.mem_of_getElem? hi);rw[he] at this
      cases this) (fun c a' w' hq=>(hpan _ _ _ hq).elim) f L a w (fun i oi hi hij hli hne=>by
       have:=hap i (List.mem_range.2 (Array.getElem?_eq_some_iff.1 hi).1);rw[hi] at this;simp only[Bool.or_eq_true] at this;rcases this with (h | h) | h
       · exact absurd (Nat.eq_of_beq_eq_true h) hij
       · exfalso;obtain ⟨e,he,hb⟩:=List.any_eq_true.1 h;simp only[Bool.and_eq_true] at hb;obtain ⟨_,o,ho,h2⟩:=mem_ready.1 hjr;rw[hoj] at ho;cases ho;have h3:=h2 e (by simpa using he) hb.1;rw[Nat.eq_of_beq_eq_true hb.2,getD_both hli] at h3;cases h3
       · rcases h with h | h
         · exfalso;obtain ⟨e,he,hb⟩:=List.any_eq_true.1 h;simp only[Bool.and_eq_true] at hb;exact hne e (by simpa using he) hb.1 (Nat.eq_of_beq_eq_true hb.2)
         · exact h) hjr (.inl ⟨hwant,fun w=>hv w⟩) h3
     exact h4.2 i hi
def As:List (Nat×Nat)→Array Oper→Bool
 | [],_=>true
 | x::l,ops=>Ij ops x.1 x.2&&As l (eD ops x)
theorem s6(hpan: ∀c a w,Q (.panic c) a w→False)(hout:LetsOut Q→False){f:Nat}{L:Array Bool}{a:Act}{w:World}: ∀(l:List (Nat×Nat)) (ops:Array Oper),As l ops=true→L.size=ops.size→wpAny P .any (l.foldl eD ops) Q f L a w→wpAny P .any ops Q f L a w
 | [],_,_,_,h=>h
 | x::l,ops,hB,hL,h=>by
   rw[As,Bool.and_eq_true] at hB;exact CI hB.1 hpan hout f L a w hL (s6 hpan hout l (eD ops x) hB.2 (by rw[qZ];exact hL) h)
theorem wE: ∀(l:List (Nat×Nat)) (ops:Array Oper),(l.foldl eD ops).size=ops.size
 | [],_=>rfl
 | x::l,ops=>(wE l (eD ops x)).trans (qZ ops x)
end
section
variable {P:Program} {T:Ty} {B:Nat} {F0:Nat→Prop} {w0:cX} {n:Nat} {σ:St} {R:List LR} {ops:Array Oper} {Q:Exit→List LR→St→Prop}
theorem lX.Nl(l:List (Nat×Nat))(hB:As l ops=true)(hpan: ∀c R σ,Q (.panic c) R σ→False)(hout: ∀R σ,Q .outgrown R σ→False)(h:lX P B F0 w0 n (l.foldl eD ops) Q R σ):lX P B F0 w0 n ops Q R σ:=by
 intro a w hR;have hA:=h a w hR;rw[wE] at hA;refine s6 (fun c a w hq=>?_) (fun hq=>?_) l ops hB (by simp) hA
 · obtain ⟨R,σ,h,_⟩:=hq;exact hpan c R σ h
 · obtain ⟨a,w,R,σ,h,_⟩:=hq;exact hout R σ h
end
end Lift
