/- Parts of the proof, one behind the other: the logic, the contracts of the functions that the statement reaches. -/
import Derived.Test.YtebpenldlefgjaaGreatM3E
set_option linter.unusedVariables false
set_option linter.unusedSimpArgs false
namespace Lift
open Go Go.Proofs
theorem xA{R:NQ→NQ→NQ}{rt:List NQ}{a b:NQ}:(kG R rt a b).length≤max a.length b.length:=by
 unfold kG;split
 · exact Nat.zero_le _
 split
 · rename_i h;rw[h];exact ai _
 · rw[dG];omega
theorem Au{l k:Nat}{R:NQ→NQ→NQ}{rt:List NQ}{a b:NQ}(ha:au l a)(hb:au l b)(hrt:cK rt)(hl:l≤rt.length)(sa:aB k a)(sb:aB k b)(sr:dh k rt)
  (hR: ∀l',l=l'+1→ ∀a' b' m,k≤m→au l' a'→au l' b'→aB m a'→aB m b'→au l' (R a' b')∧aB (sT l' m) (R a' b')):au l (kG R rt a b)∧aB (sT l k) (kG R rt a b):=by
 have hk:=sa.pos;have h2:=cg l k;unfold kG;by_cases h0:a.length=0∨b.length=0
 · rw[if_pos h0];exact⟨cy _,cG (by omega)⟩
 rw[if_neg h0];by_cases h1:max a.length b.length=1
 · rw[if_pos h1];refine⟨eW _ _,fX ?_⟩;have:=sf (a.getD 0 0) (b.getD 0 0);have:=sa 0;have:=sb 0;omega
 rw[if_neg h1]
 obtain ⟨i,hi,hn⟩: ∃i,i≤l∧max a.length b.length=2^i:=by
  rcases ha with e | ⟨i,hi,e⟩
  · exact absurd (.inl e) h0
  rcases hb with e2 | ⟨k,hk,e2⟩
  · exact absurd (.inr e2) h0
  by_cases h:a.length≤b.length
  · exact⟨k,hk,by rw[Nat.max_eq_right h,e2]⟩
  · exact⟨i,hi,by rw[Nat.max_eq_left (by omega),e]⟩
 have vy:i≠0:=fun e=>h1 (by rw[hn,e]);obtain ⟨j,rfl⟩: ∃j,i=j+1:=⟨i-1,by omega⟩;obtain ⟨l',rfl⟩: ∃l',l=l'+1:=⟨l-1,by omega⟩;have hj:j≤l':=by omega
 have hR:=fun a' b' m h1 h2 h3 h4 h5=>hR l' rfl a' b' m h1 h2 h3 h4 h5;have wa:=bJ a (max a.length b.length);have wb:=bJ b (max a.length b.length);have sa:=sa.wide (max a.length b.length);have sb:=sb.wide (max a.length b.length);generalize bj a (max a.length b.length)=A at *;generalize bj b (max a.length b.length)=B at *;generalize max a.length b.length=n at *;subst hn;have e0:=lz j;have hlog:(2^(j+1)).log2-1=j:=by rw[Nat.log2_two_pow];omega
 rw[e0,hlog];obtain ⟨e1,e2,e3⟩:=bC wa;obtain ⟨f1,f2,f3⟩:=bC wb;rw[e3] at e1 e2;rw[f3] at f1 f2;have hx:au l' (A.take (2^j)):= .inr ⟨j,hj,e1⟩;have hy:au l' (A.drop (2^j)):= .inr ⟨j,hj,e2⟩;have hu:au l' (B.take (2^j)):= .inr ⟨j,hj,f1⟩;have hv:au l' (B.drop (2^j)):= .inr ⟨j,hj,f2⟩;have hd:au l' (rt.getD j []):= .inr ⟨j,hj,hrt j (by omega)⟩;have hs0:=cg l' k;have hs1:=cg l' (sT l' k);have r1:=hR _ _ k (ai _) hx hu (sa.take _) (sb.take _);have r2:=hR _ _ k (ai _) hy hv (sa.drop _) (sb.drop _);have r3:=hR _ _ k (ai _) hx hv (sa.take _) (sb.drop _);have r4:=hR _ _ k (ai _) hy hu (sa.drop _) (sb.take _);have r5:=hR _ _ (sT l' k) (by omega) r2.1 hd r2.2 ((sr _).mono (by omega));refine⟨.inr ⟨j+1,by omega,by rw[dG,Nat.pow_succ];omega⟩,(((r1.2.plus r5.2).mono ?_).join ((r3.2.plus r4.2).mono ?_) _)⟩
 · show _≤sT l' (sT l' k)+sT l' k+1;omega
 · show _≤sT l' (sT l' k)+sT l' k+1;omega
theorem lV(a:NQ){l:Nat}(ha:au l a):(aA a).length≤a.length:=by
 unfold aA;split
 · exact Nat.zero_le _
 have: ∀i,(iG i a).length≤a.length:=fun i=>by
  induction i with
  | zero =>
    unfold iG;split
    · exact Nat.zero_le _
    · rw[bg];omega
  | succ i ih =>
    unfold iG;split
    · exact ih
    · rw[bg];omega
 exact this _
theorem gH: ∀(l:Nat) {k:Nat} {rt:List NQ} {a b:NQ},au l a→au l b→cK rt→l≤rt.length→aB k a→aB k b→dh k rt→au l (gh l rt a b)∧aB (sT l k) (gh l rt a b)
 | 0,k,rt,a,b,ha,hb,hrt,hl,sa,sb,sr=>Au (bd ha sa).1 (bd hb sb).1 hrt hl (bd ha sa).2 (bd hb sb).2 sr (fun l' h=>by omega)
 | l+1,k,rt,a,b,ha,hb,hrt,hl,sa,sb,sr=>Au (bd ha sa).1 (bd hb sb).1 hrt hl (bd ha sa).2 (bd hb sb).2 sr (fun l' e a' b' m hm h1 h2 h3 h4=>by
    obtain rfl:l=l':=by omega
    exact gH l h1 h2 hrt (by omega) h3 h4 (sr.mono hm))
theorem Cd: ∀(l:Nat) {rt:List NQ} {a b:NQ},au l a→au l b→(gh l rt a b).length≤max a.length b.length
 | 0,rt,a,b,ha,hb=>by
   have h1:=lV a ha;have h2:=lV b hb;have h3:=xA (R:=fun _ _=>[]) (rt:=rt) (a:=aA a) (b:=aA b);show (kG _ rt _ _).length≤_;omega
 | l+1,rt,a,b,ha,hb=>by
   have h1:=lV a ha;have h2:=lV b hb;have h3:=xA (R:=gh l rt) (rt:=rt) (a:=aA a) (b:=aA b);show (kG _ rt _ _).length≤_;omega
set_option maxHeartbeats 1600000 in
theorem sA{l k:Nat}{R:NQ→NQ→NQ}{rt:List NQ}{xs:List D}{a b:NQ}(ha:au l a)(hb:au l b)(hrt:cK rt)(hl:l≤rt.length)(hl5:l≤5)(hxs: ∀j,j<rt.length→xs[j]?=some (ao (rt.getD j [])))(sa:aB k a)(sb:aB k b)(sr:dh k rt)(hk:sT l k≤17300000000000)
  (hR: ∀l',l=l'+1→ ∀a' b' m,k≤m→au l' a'→au l' b'→aB m a'→aB m b'→sT l' m≤17300000000000→Pure Tryz.prog 157 [.ag [.sl 1 xs],ao a',ao b'] (ao (R a' b'))∧(R a' b').length≤max a'.length b'.length∧au l' (R a' b')∧aB (sT l' m) (R a' b')):
  Pure Tryz.prog 157 [.ag [.sl 1 xs],ao a,ao b] (ao (kG R rt (aA a) (aA b))):=by
 refine qJ 105 Tryz.func157 rfl rfl rfl rfl (by kernel_rfl) (fun B F0 w0=>?_);have hk1:=sa.pos;have h2:=cg l k;have cs1:=jP a ha hl5;have cs2:=jP b hb hl5;obtain ⟨ha,sa⟩:=bd ha sa;obtain ⟨hb,sb⟩:=bd hb sb;generalize aA a=s at *;generalize aA b=t at *;have hla:=ha.len (by omega);have hlb:=hb.len (by omega);refine qX 2 rfl ?_;refine qK 1 rfl ?_;refine ae.call tok rfl rfl rfl rfl cs1 ?_;refine qU 1 rfl ?_;refine ae.call tok rfl rfl rfl rfl cs2 ?_;refine qU 2 rfl ?_;refine qK 4 rfl ?_;rw[ah,ah];refine qU 2 rfl ?_;rw[IV];refine qI (qX 2 rfl ?_);rw[ah];refine qU 1 rfl ?_;unfold kG;by_cases h0:s.length=0
 · have h00:s.length=0∨t.length=0:= .inl h0;rw[beq_iff_eq.2 (show (s.length:Int)=0 by omega),if_pos h00];refine qU 5 rfl ?_;refine ae.nil ?_;refine AW.aC rfl ?_;refine qX 1 rfl ?_;exact qN rfl
 rw[beq_eq_false_iff_ne.2 (show (s.length:Int)≠0 by omega)];refine qU 3 rfl ?_;rw[ah];refine qU 1 rfl ?_;by_cases h01:t.length=0
 · have h00:s.length=0∨t.length=0:= .inr h01;rw[beq_iff_eq.2 (show (t.length:Int)=0 by omega),if_pos h00];refine qU 1 rfl ?_;refine ae.nil ?_;refine AW.aC rfl ?_;refine qX 1 rfl ?_;exact qN rfl
 have h00: ¬(s.length=0∨t.length=0):=fun h=>h.elim h0 h01;rw[beq_eq_false_iff_ne.2 (show (t.length:Int)≠0 by omega),if_neg h00];refine qU 1 rfl ?_;refine ae.nil ?_;refine AW.aD rfl ?_;refine AW.skip (AW.seq (AW.seq (AW.region ?_)));obtain ⟨n,hn⟩: ∃n,n=max s.length t.length:=⟨_,rfl⟩;rw[← hn];refine qU 2 rfl ?_;by_cases h1:n=1
 · rw[if_pos h1,beq_iff_eq.2 (show (n:Int)=1 by omega)];have g1:=mG (r:=s) (i:=0) (by omega);have g2:=mG (r:=t) (i:=0) (by omega);have cm:=Cn (Qr (s.getD 0 0)) (Qr (t.getD 0 0)) (k:=k) (ir _ (sa 0)) (ir _ (sb 0)) (by omega);rw[da,da] at cm;refine ae.nil ?_;refine AW.aC rfl ?_;refine AW.seq (AW.draw aW 8 (by kernel_rfl) ?_);refine qP 1 rfl ?_;refine af.idx tok (Qr (s.getD 0 0)).D rfl rfl rfl rfl rfl (Int.le_refl _) g1 ?_;refine qP 2 rfl ?_;refine af.idx tok (Qr (t.getD 0 0)).D rfl rfl rfl rfl rfl (Int.le_refl _) g2 ?_;refine qP 1 rfl ?_;refine af.call tok rfl rfl rfl rfl rfl cm ?_;refine af.pv tok rfl rfl rfl rfl rfl rfl ?_;refine af.nil ?_;refine qU 1 rfl ?_;exact qN rfl
 rw[if_neg h1,beq_eq_false_iff_ne.2 (show (n:Int)≠1 by omega)];refine ae.nil ?_;refine AW.aD rfl ?_;refine AW.skip ?_
 obtain ⟨i,hi,hni⟩: ∃i,i≤l∧n=2^i:=by
  rcases ha with e | ⟨i,hi,e⟩
  · exact absurd e h0
  rcases hb with e2 | ⟨k,hk,e2⟩
  · exact absurd e2 h01
  by_cases h:s.length≤t.length
  · exact⟨k,hk,by rw[hn,Nat.max_eq_right h,e2]⟩
  · exact⟨i,hi,by rw[hn,Nat.max_eq_left (by omega),e]⟩
 have hsn:s.length≤n:=by omega
 have htn:t.length≤n:=by omega
 have hn9:n≤1024:=by omega
 clear hn;have vy:i≠0:=fun e=>h1 (by rw[hni,e]);obtain ⟨j,rfl⟩: ∃j,i=j+1:=⟨i-1,by omega⟩;obtain ⟨l',rfl⟩: ∃l',l=l'+1:=⟨l-1,by omega⟩;have hj:j≤l':=by omega
 have hR:=fun a' b' m h1 h2 h3 h4 h5=>hR l' rfl a' b' m h1 h2 h3 h4 h5;have hs0:=cg l' k;have hs1:=cg l' (sT l' k);have hk:sT l' (sT l' k)+sT l' k+1≤17300000000000:=hk;have cw1:=lY s n hsn (by omega);have cw2:=lY t n htn (by omega);have cp:=fZ hni (by omega);have wa:=bJ s n;have wb:=bJ t n;have sa:=sa.wide n;have sb:=sb.wide n;generalize bj s n=A at *;generalize bj t n=B at *;have e0:=lz j;have hlog:n.log2-1=j:=by rw[hni,Nat.log2_two_pow];omega
 obtain ⟨e1,e2,e3⟩:=bC (wa.trans hni);obtain ⟨f1,f2,f3⟩:=bC (wb.trans hni);rw[hlog];obtain ⟨h,hh⟩: ∃h,h=n / 2:=⟨_,rfl⟩
 have hnh:n=h+h:=by
  have:2^(j+1)=2^j*2:=Nat.pow_succ ..;omega
 have hh2:h=2^j:=by rw[hh,hni,e0]
 rw[wa,← hh] at e1 e2;rw[wb,← hh] at f1 f2;rw[← hh];have hx:au l' (A.take h):= .inr ⟨j,hj,e1⟩;have hy:au l' (A.drop h):= .inr ⟨j,hj,e2⟩;have hu:au l' (B.take h):= .inr ⟨j,hj,f1⟩;have hv:au l' (B.drop h):= .inr ⟨j,hj,f2⟩;have hdl:=hrt j (by omega);have hd:au l' (rt.getD j []):= .inr ⟨j,hj,hdl⟩;have r1:=hR _ _ k (ai _) hx hu (sa.take _) (sb.take _) (by omega);have r2:=hR _ _ k (ai _) hy hv (sa.drop _) (sb.drop _) (by omega);have r3:=hR _ _ k (ai _) hx hv (sa.take _) (sb.drop _) (by omega);have r4:=hR _ _ k (ai _) hy hu (sa.drop _) (sb.take _) (by omega);have r5:=hR _ _ (sT l' k) (by omega) r2.2.2.1 hd r2.2.2.2 ((sr _).mono (by omega)) (by omega);have n1:(R (A.take h) (B.take h)).length≤h:=Nat.le_trans r1.2.1 (Nat.max_le.2 ⟨by omega,by omega⟩);have n2:(R (A.drop h) (B.drop h)).length≤h:=Nat.le_trans r2.2.1 (Nat.max_le.2 ⟨by omega,by omega⟩);have n3:(R (A.take h) (B.drop h)).length≤h:=Nat.le_trans r3.2.1 (Nat.max_le.2 ⟨by omega,by omega⟩);have n4:(R (A.drop h) (B.take h)).length≤h:=Nat.le_trans r4.2.1 (Nat.max_le.2 ⟨by omega,by omega⟩);have n5:(R (R (A.drop h) (B.drop h)) (rt.getD j [])).length≤h:=Nat.le_trans r5.2.1 (Nat.max_le.2 ⟨n2,by omega⟩);have r1:=And.intro r1.1 r1.2.2;have r2:=And.intro r2.1 r2.2.2;have r3:=And.intro r3.1 r3.2.2;have r4:=And.intro r4.1 r4.2.2;have r5:=And.intro r5.1 r5.2.2;have p1:=mY (R (A.take h) (B.take h)) (R (R (A.drop h) (B.drop h)) (rt.getD j [])) (k:=sT l' (sT l' k)) (r1.2.2.mono (by omega)) r5.2.2 (by omega) (by omega) (by omega);have p2:=mY (R (A.take h) (B.drop h)) (R (A.drop h) (B.take h)) (k:=sT l' k) r3.2.2 r4.2.2 (by omega) (by omega) (by omega);have q1:(aX (R (A.take h) (B.take h)) (R (R (A.drop h) (B.drop h)) (rt.getD j []))).length≤h:=by rw[jZ];exact Nat.max_le.2 ⟨n1,n5⟩
 have q2:(aX (R (A.take h) (B.drop h)) (R (A.drop h) (B.take h))).length≤h:=by rw[jZ];exact Nat.max_le.2 ⟨n3,n4⟩
 have cw3:=kI (aX (R (A.take h) (B.take h)) (R (R (A.drop h) (B.drop h)) (rt.getD j []))) h q1 (by omega);have cw4:=kI (aX (R (A.take h) (B.drop h)) (R (A.drop h) (B.take h))) h q2 (by omega);unfold dN;refine qX 2 rfl ?_;refine ae.call tok rfl rfl rfl rfl cw1 ?_;refine qU 2 rfl ?_;refine ae.call tok rfl rfl rfl rfl cw2 ?_;refine qU 2 rfl ?_;refine qK 1 rfl ?_;refine ae.call tok rfl rfl rfl rfl cp ?_;refine qU 5 rfl ?_;refine qI (AW.draw aW 19 (by kernel_rfl) ?_);refine qP 2 rfl ?_;refine af.div tok rfl rfl rfl rfl rfl (by decide) ?_;rw[iE _ (by omega),← hh];refine af.gT tok (a:=A) (A.take h) rfl rfl rfl rfl rfl trivial (aj h) (Nat.zero_le _) (show h≤A.length by omega) rfl ?_;refine qP 2 rfl ?_;refine af.div tok rfl rfl rfl rfl rfl (by decide) ?_;rw[iE _ (by omega),← hh];refine af.gT tok (a:=A) (A.drop h) rfl rfl rfl rfl rfl (aj h) trivial (show h≤A.length by omega) (ai _) (by show (A.take A.length).drop h=_;rw[List.take_length]) ?_;refine qP 2 rfl ?_;refine af.div tok rfl rfl rfl rfl rfl (by decide) ?_;rw[iE _ (by omega),← hh];refine af.gT tok (a:=B) (B.take h) rfl rfl rfl rfl rfl trivial (aj h) (Nat.zero_le _) (show h≤B.length by omega) rfl ?_;refine qP 2 rfl ?_;refine af.div tok rfl rfl rfl rfl rfl (by decide) ?_;rw[iE _ (by omega),← hh];refine af.gT tok (a:=B) (B.drop h) rfl rfl rfl rfl rfl (aj h) trivial (show h≤B.length by omega) (ai _) (by show (B.take B.length).drop h=_;rw[List.take_length]) ?_;refine qP 3 rfl ?_;refine af.nil ?_;refine qU 1 rfl ?_;refine ae.nil ?_;refine AW.ei [3,7,8,10,11,12,13] ?_;show AW _ _ _ _ _ _ _ [(3,.bx [.sl 1 xs]),(7,.d (dI n)),(8,.d (dI (j+1:Nat))),(10,.d (ao (A.take h))),(11,.d (ao (A.drop h))),(12,.d (ao (B.take h))),(13,.d (ao (B.drop h)))];refine AW.seq (AW.draw aW 17 (by kernel_rfl) ?_);refine qP 3 rfl ?_;refine af.call tok rfl rfl rfl rfl rfl r1.1 ?_;refine qP 4 rfl ?_;refine af.call tok rfl rfl rfl rfl rfl r2.1 ?_;refine qP 4 rfl ?_;rw[aG (x:=((j+1:Nat):Int) -1) (by omega) (by omega),show ((j+1:Nat):Int) -1=(j:Int) by omega];refine af.idx tok (ao (rt.getD j [])) rfl rfl rfl rfl rfl (aj j) (hxs j (by omega)) ?_;refine qP 1 rfl ?_;refine af.call tok rfl rfl rfl rfl rfl r5.1 ?_;refine af.call tok rfl rfl rfl rfl rfl p1 ?_;refine af.nil ?_;refine qU 1 rfl ?_;refine qI (AW.draw aW 9 (by kernel_rfl) ?_);refine qP 3 rfl ?_;refine af.call tok rfl rfl rfl rfl rfl r3.1 ?_;refine qP 3 rfl ?_;refine af.call tok rfl rfl rfl rfl rfl r4.1 ?_;refine af.call tok rfl rfl rfl rfl rfl p2 ?_;refine af.nil ?_;refine qU 1 rfl ?_;refine ae.nil ?_;have l1:=bJ (aX (R (A.take h) (B.take h)) (R (R (A.drop h) (B.drop h)) (rt.getD j []))) h;have l2:=bJ (aX (R (A.take h) (B.drop h)) (R (A.drop h) (B.take h))) h;generalize aX (R (A.take h) (B.take h)) (R (R (A.drop h) (B.drop h)) (rt.getD j []))=P1 at *;generalize aX (R (A.take h) (B.drop h)) (R (A.drop h) (B.take h))=P2 at *;refine AW.ei [7,14,15] ?_;show AW _ _ _ _ _ _ _ [(7,.d (dI n)),(14,.d (ao P1)),(15,.d (ao P2))];generalize bj P1 h=wa at *;generalize bj P2 h=wb at *;refine AW.seq (AZ.aw ?_);refine AZ.region ?_;refine ak.cut 3 rfl (fun B1 F1 w1=>?_);refine qU 2 rfl ?_;refine ae.div tok rfl rfl rfl rfl (by decide) ?_;rw[iE _ (by omega),← hh];refine ae.nil ⟨rfl,?_⟩;refine ak.ju tok [] rfl rfl rfl rfl rfl List.nodup_nil rfl cw3 (fun _ _ _=>Nat.zero_le _) (fun res R1 hP=>?_);obtain ⟨V1,rfl,rfl⟩:=hP;refine ak.cut 3 rfl (fun B1 F1 w1=>?_);refine qU 2 rfl ?_;refine ae.div tok rfl rfl rfl rfl (by decide) ?_;rw[iE _ (by omega),← hh];refine ae.nil ⟨rfl,?_⟩;refine ak.ju tok [] rfl rfl rfl rfl rfl List.nodup_nil rfl cw4 (fun _ _ _=>Nat.zero_le _) (fun res R1 hP=>?_);obtain ⟨V2,rfl,rfl⟩:=hP;refine ak.to [99,103] [(99,.d (.v V1)),(103,.d (.v V2))] rfl ?_;refine ak.fo 99 0 (V:=V1) (av:= .ow 68 (fp wa)) rfl rfl rfl ?_;refine ak.to [99,103] [(99,.ow 68 (fp wa)),(103,.d (.v V2))] rfl ?_;refine ak.fo 103 1 (V:=V2) (av:= .ow 68 (fp wb)) rfl rfl rfl ?_;refine ak.to [99,103] [(99,.ow 68 (fp wa)),(103,.ow 68 (fp wb))] rfl ?_;refine ak.cut 2 rfl (fun B1 F1 w1=>?_);refine ae.jK tok 103 rfl rfl ?_;refine ae.ou tok rfl rfl rfl rfl rfl rfl (by rw[ah,ah,l1,l2];show (_+_)*56≤_;omega) (by rw[ah,ah,l1,l2];omega) ?_;refine qU 1 rfl ?_;refine ae.nil ⟨rfl,?_⟩;refine ak.nil ?_;rw[show fp wa++fp wb=fp (wa++wb) from List.map_append.symm];exact AW.ret rfl
theorem jO: ∀(l:Nat) {k:Nat} {rt:List NQ} {xs:List D} {a b:NQ},au l a→au l b→cK rt→l≤rt.length→l≤5→(∀j,j<rt.length→xs[j]?=some (ao (rt.getD j [])))→aB k a→aB k b→dh k rt→sT l k≤17300000000000→Pure Tryz.prog 157 [.ag [.sl 1 xs],ao a,ao b] (ao (gh l rt a b))
 | 0,k,rt,xs,a,b,ha,hb,hrt,hl,hl5,hxs,sa,sb,sr,hk=>sA ha hb hrt hl hl5 hxs sa sb sr hk (fun l' h=>by omega)
 | l+1,k,rt,xs,a,b,ha,hb,hrt,hl,hl5,hxs,sa,sb,sr,hk=>sA ha hb hrt hl hl5 hxs sa sb sr hk (fun l' e a' b' m hm h1 h2 h3 h4 h5=>by
    obtain rfl:l=l':=by omega
    exact⟨jO l h1 h2 hrt (by omega) (by omega) hxs h3 h4 (sr.mono hm) h5,Cd l h1 h2,gH l h1 h2 hrt (by omega) h3 h4 (sr.mono hm)⟩)
end Lift
namespace Lift
open Go Go.Proofs
theorem Gh{l k j:Nat}{rt:List NQ}{a:NQ}(hj:j≤l)(ha:a.length=2^(j+1))(hrt:cK rt)(hl:l<rt.length)(sa:aB k a)(sr:dh k rt):au l (kS l rt a)∧aB (sT (l+1) k) (kS l rt a):=by
 obtain ⟨e1,e2,e3⟩:=bC ha;have hx:au l (a.take (a.length / 2)):= .inr ⟨j,hj,e1⟩;have hy:au l (a.drop (a.length / 2)):= .inr ⟨j,hj,e2⟩;have hlog:a.length.log2-1=j:=by rw[ha,Nat.log2_two_pow];omega
 have hd:au l (rt.getD j []):= .inr ⟨j,hj,hrt j (by omega)⟩;have h0:=cg l k;have h1:=cg l (sT l k);have r1:=gH l hx hx hrt (by omega) (sa.take _) (sa.take _) sr;have r2:=gH l hy hy hrt (by omega) (sa.drop _) (sa.drop _) sr;have r3:=gH l r2.1 hd hrt (by omega) r2.2 ((sr _).mono (by omega)) (sr.mono (by omega));unfold kS;rw[hlog];refine⟨r1.1.plus r3.1.minus,(r1.2.plus r3.2.minus).mono ?_⟩;show _≤sT l (sT l k)+sT l k+1;omega
theorem AD{l k j:Nat}{rt:List NQ}{xs:List D}{a:NQ}(hj:j≤l)(ha:a.length=2^(j+1))(hrt:cK rt)(hl:l<rt.length)(hl5:l+1≤5)(hxs: ∀j,j<rt.length→xs[j]?=some (ao (rt.getD j [])))(sa:aB k a)(sr:dh k rt)(hk:sT (l+1) k≤17300000000000):
  Pure Tryz.prog 116 [.ag [.sl 1 xs],ao a,dI a.length] (ao (kS l rt a)):=by
 refine qJ 45 Tryz.func116 rfl rfl rfl rfl (by kernel_rfl) (fun B F0 w0=>?_);obtain ⟨e1,e2,e3⟩:=bC ha;have hx:au l (a.take (a.length / 2)):= .inr ⟨j,hj,e1⟩;have hy:au l (a.drop (a.length / 2)):= .inr ⟨j,hj,e2⟩;have hlog:a.length.log2-1=j:=by rw[ha,Nat.log2_two_pow];omega
 have hd:au l (rt.getD j []):= .inr ⟨j,hj,hrt j (by omega)⟩;have h0:=cg l k;have h1:=cg l (sT l k);have hk:sT l (sT l k)+sT l k+1≤17300000000000:=hk;have hp:2^(j+1)≤2^10:=Nat.pow_le_pow_right (by decide) (by omega);have r1:=gH l hx hx hrt (by omega) (sa.take _) (sa.take _) sr;have r2:=gH l hy hy hrt (by omega) (sa.drop _) (sa.drop _) sr;have r3:=gH l r2.1 hd hrt (by omega) r2.2 ((sr _).mono (by omega)) (sr.mono (by omega));have c1:=jO l hx hx hrt (by omega) (by omega) hxs (sa.take _) (sa.take _) sr (by omega);have c2:=jO l hy hy hrt (by omega) (by omega) hxs (sa.drop _) (sa.drop _) sr (by omega);have c3:=jO l r2.1 hd hrt (by omega) (by omega) hxs r2.2 ((sr j).mono (by omega)) (sr.mono (by omega)) (by omega);have n1:=r1.1.len (by omega);have n3:=r3.1.len (by omega);have c4:=sE _ r3.2 (by omega) (by omega);have c5:=mY _ _ (k:=sT l (sT l k)) (r1.2.mono (by omega)) r3.2.minus (by omega) (by omega) (by rw[gq];omega);have cw:=lY a a.length (ai _) (by omega);rw[oR] at cw;have cp:=fZ ha (by omega);unfold kS;rw[hlog];obtain ⟨n,hn⟩: ∃n,n=a.length / 2:=⟨_,rfl⟩;rw[← hn] at e1 e2 e3 hx hy c1 c2 c3 c4 c5 ⊢;refine qX 2 rfl ?_;refine qK 2 rfl ?_;refine ae.call tok rfl rfl rfl rfl cw ?_;refine qU 1 rfl ?_;refine qK 1 rfl ?_;refine ae.call tok rfl rfl rfl rfl cp ?_;refine qU 5 rfl ?_;refine qI (AW.draw aW 9 (by kernel_rfl) ?_);refine qP 2 rfl ?_;refine af.div tok rfl rfl rfl rfl rfl (by decide) ?_;rw[iE _ (by omega),← hn];refine af.gT tok (a:=a) (a.take n) rfl rfl rfl rfl rfl trivial (aj n) (Nat.zero_le _) (show n≤a.length by omega) rfl ?_;refine qP 2 rfl ?_;refine af.div tok rfl rfl rfl rfl rfl (by decide) ?_;rw[iE _ (by omega),← hn];refine af.gT tok (a:=a) (a.drop n) rfl rfl rfl rfl rfl (aj n) trivial (show n≤a.length by omega) (ai _) (by show (a.take a.length).drop n=_;rw[List.take_length]) ?_;refine qP 1 rfl ?_;refine af.nil ?_;refine qU 1 rfl ?_;refine qI (AW.draw aW 18 (by kernel_rfl) ?_);refine qP 3 rfl ?_;refine af.call tok rfl rfl rfl rfl rfl c1 ?_;refine qP 4 rfl ?_;refine af.call tok rfl rfl rfl rfl rfl c2 ?_;refine qP 4 rfl ?_;rw[aG (x:=((j+1:Nat):Int) -1) (by omega) (by omega),show ((j+1:Nat):Int) -1=(j:Int) by omega];refine af.idx tok (ao (rt.getD j [])) rfl rfl rfl rfl rfl (aj j) (hxs j (by omega)) ?_;refine qP 1 rfl ?_;refine af.call tok rfl rfl rfl rfl rfl c3 ?_;refine af.call tok rfl rfl rfl rfl rfl c4 ?_;refine af.call tok rfl rfl rfl rfl rfl c5 ?_;refine af.nil ?_;refine qU 1 rfl ?_;exact qN rfl
theorem xw{R:NQ→Int}{N:NQ→NQ}{rt:List NQ}{a:NQ}(hR: ∀b,xa (R b)):xa (oC R N rt a):=by
 unfold oC;split
 · exact .inl rfl
 split
 · exact gG _
 split
 · exact hR _
 split
 · exact lS (hR _) (hR _)
 · exact lS (hR _) (hR _)
theorem uH: ∀(l:Nat) (rt:List NQ) (a:NQ),xa (rq l rt a)
 | 0,rt,a=>xw (fun _=> .inl rfl)
 | l+1,rt,a=>xw (fun b=>uH l rt b)
set_option maxHeartbeats 1600000 in
theorem uG{l k:Nat}{R:NQ→Int}{N:NQ→NQ}{rt:List NQ}{xs:List D}{a:NQ}(ha:au l a)(hl5:l≤5)(hrt:cK rt)(hl:l≤rt.length)(hxs: ∀j,j<rt.length→xs[j]?=some (ao (rt.getD j [])))(sa:aB k a)(sr:dh k rt)(hok:pG l k)
  (hR: ∀l',l=l'+1→ ∀b m,au l' b→aB m b→k≤m→pG l' m→Pure Tryz.prog 67 [.ag [.sl 1 xs],ao b] (dI (R b))) (hT: ∀b,xa (R b))
  (hN: ∀l',l=l'+1→ ∀b j,j≤l'→b.length=2^(j+1)→aB k b→Pure Tryz.prog 116 [.ag [.sl 1 xs],ao b,dI b.length] (ao (N b))∧au l' (N b)∧aB (sT l k) (N b)):
  Pure Tryz.prog 67 [.ag [.sl 1 xs],ao a] (dI (oC R N rt (aA a))):=by
 refine qJ 70 Tryz.func67 rfl rfl rfl rfl (by kernel_rfl) (fun B F0 w0=>?_);have hk:=yS hok;have cs:=jP a ha hl5;obtain ⟨ha,sa⟩:=bd ha sa;generalize aA a=b at cs ha sa ⊢;have hlb:=ha.len (by omega);unfold oC;refine qX 2 rfl ?_;refine qK 1 rfl ?_;refine ae.call tok rfl rfl rfl rfl cs ?_;refine qU 1 rfl ?_;refine qI (qX 2 rfl ?_);rw[ah];refine qU 1 rfl ?_;refine ae.nil ?_;by_cases h0:b.length=0
 · rw[if_pos h0,h0];refine AW.aC rfl ?_;refine qX 1 rfl ?_;exact qN rfl
 rw[if_neg h0,beq_eq_false_iff_ne.2 (show (b.length:Int)≠0 by omega)];refine AW.aD rfl ?_;refine AW.skip (qX 2 rfl ?_);rw[ah];refine qU 1 rfl ?_;refine qI (qX 2 rfl ?_);refine ae.nil ?_;by_cases h1:b.length=1
 · have g:=mG (r:=b) (i:=0) (by omega);have cq:=sF (Qr (b.getD 0 0)) (ir _ (sa 0)) (by omega);rw[da,Dz] at cq;rw[if_pos h1,h1];refine AW.aC rfl ?_;refine qX 1 rfl ?_;refine ae.idx tok (Qr (b.getD 0 0)).D rfl rfl rfl rfl (Int.le_refl _) g ?_;refine qU 1 rfl ?_;refine ae.call tok rfl rfl rfl rfl cq ?_;refine qU 1 rfl ?_;exact qN rfl
 rw[if_neg h1,beq_eq_false_iff_ne.2 (show (b.length:Int)≠1 by omega)];refine AW.aD rfl ?_;refine AW.skip ?_
 obtain ⟨i,hi,hla2⟩: ∃i,i≤l∧b.length=2^i:=by
  rcases ha with e | e
  · omega
  · exact e
 have vy:i≠0:=fun e=>h1 (by rw[hla2,e]);obtain ⟨j,rfl⟩: ∃j,i=j+1:=⟨i-1,by omega⟩;obtain ⟨l',rfl⟩: ∃l',l=l'+1:=⟨l-1,by omega⟩;have hj:j≤l':=by omega
 have hN:=hN l' rfl b j hj hla2 sa;have hR:=fun b m h1 h2 h3 h4=>hR l' rfl b m h1 h2 h3 h4;obtain ⟨e1,e2,e3⟩:=bC hla2;have hx:au l' (b.take (b.length / 2)):= .inr ⟨j,hj,e1⟩;have hy:au l' (b.drop (b.length / 2)):= .inr ⟨j,hj,e2⟩;have hlog:b.length.log2-1=j:=by rw[hla2,Nat.log2_two_pow];omega
 have hd:au l' (rt.getD j []):= .inr ⟨j,hj,hrt j (by omega)⟩;have hk2:=cg (l'+1) k;have r1:=hR _ k hx (sa.take _) (ai _) (kj hok);have r2:=hR _ k hy (sa.drop _) (ai _) (kj hok);have r3:=hR _ k hd (sr j) (ai _) (kj hok);have r4:=hR _ _ hN.2.1 hN.2.2 (by omega) hok.2;have t1:=hT (b.take (b.length / 2));have t2:=lS (hT (b.drop (b.length / 2))) (hT (rt.getD j []));have t4:=lS t1 (hT (N b));have cn:=hN.1;have cp:=fZ hla2 (by omega);rw[hlog];obtain ⟨n,hn⟩: ∃n,n=b.length / 2:=⟨_,rfl⟩;rw[← hn] at e1 e2 e3 hx hy r1 r2 t1 t2 t4 ⊢;generalize R (b.take n)=x at r1 t1 t4 ⊢;generalize R (b.drop n)=y at r2 t2 ⊢;generalize R (rt.getD j [])=z at r3 t2 ⊢;generalize R (N b)=u at r4 t4 ⊢;refine qX 1 rfl ?_;refine ae.call tok rfl rfl rfl rfl cp ?_;refine qU 5 rfl ?_;refine qK 4 rfl ?_;rw[aG (x:=((j+1:Nat):Int) -1) (by omega) (by omega),show ((j+1:Nat):Int) -1=(j:Int) by omega];refine ae.idx tok (ao (rt.getD j [])) rfl rfl rfl rfl (aj j) (hxs j (by omega)) ?_;refine qU 2 rfl ?_;refine qI (AW.draw aW 17 (by kernel_rfl) ?_);refine qP 3 rfl ?_;refine af.div tok rfl rfl rfl rfl rfl (by decide) ?_;rw[iE _ (by omega),← hn];refine af.gT tok (a:=b) (b.take n) rfl rfl rfl rfl rfl trivial (aj n) (Nat.zero_le _) (show n≤b.length by omega) rfl ?_;refine af.call tok rfl rfl rfl rfl rfl r1 ?_;refine qP 3 rfl ?_;refine af.div tok rfl rfl rfl rfl rfl (by decide) ?_;rw[iE _ (by omega),← hn];refine af.gT tok (a:=b) (b.drop n) rfl rfl rfl rfl rfl (aj n) trivial (show n≤b.length by omega) (ai _) (by show (b.take b.length).drop n=_;rw[List.take_length]) ?_;refine af.call tok rfl rfl rfl rfl rfl r2 ?_;refine qP 2 rfl ?_;refine af.call tok rfl rfl rfl rfl rfl r3 ?_;refine qP 1 rfl ?_;rw[aG (x:=y*z) (by unfold xa at t2;omega) (by unfold xa at t2;omega)];refine qP 1 rfl ?_;refine af.nil ?_;refine qU 1 rfl ?_;refine ae.nil ?_;refine AW.ei [1,2,5,9,10] ?_;show AW _ _ _ _ _ _ _ [(1,.d (ao b)),(2,.bx [.sl 1 xs]),(5,.d (dI b.length)),(9,.d (.v (.int .i64 x))),(10,.d (.v (.int .i64 (y*z))))];generalize y*z=yz at t2 ⊢;refine AW.seq (qX 3 rfl ?_);by_cases hxy:x=yz
 · have hor:x=yz∨yz=0:= .inl hxy;rw[if_pos hor,beq_iff_eq.2 hxy];refine qU 4 rfl ?_;refine ae.nil ?_;refine AW.aC rfl ?_;refine qX 2 rfl ?_;exact qN rfl
 rw[beq_eq_false_iff_ne.2 hxy];refine qU 3 rfl ?_;by_cases hy0:yz=0
 · have hor:x=yz∨yz=0:= .inr hy0;rw[if_pos hor,beq_iff_eq.2 hy0];refine qU 1 rfl ?_;refine ae.nil ?_;refine AW.aC rfl ?_;refine qX 2 rfl ?_;exact qN rfl
 have hor: ¬(x=yz∨yz=0):=fun h=>h.elim hxy hy0;rw[if_neg hor,beq_eq_false_iff_ne.2 hy0];refine qU 1 rfl ?_;refine ae.nil ?_;refine AW.aD rfl ?_;refine AW.skip (AW.seq ?_);refine qX 2 rfl ?_;refine ae.nil ?_;by_cases hx0:x=0
 · rw[if_pos hx0,beq_iff_eq.2 hx0];refine AW.aC rfl ?_;refine qX 2 rfl ?_;exact qN rfl
 rw[if_neg hx0,beq_eq_false_iff_ne.2 hx0];refine AW.aD rfl ?_;refine AW.skip (AW.seq ?_);refine AW.draw aW 8 (by kernel_rfl) ?_;refine qP 5 rfl ?_;refine af.call tok rfl rfl rfl rfl rfl cn ?_;refine af.call tok rfl rfl rfl rfl rfl r4 ?_;refine qP 1 rfl ?_;rw[aG (x:=x*u) (by unfold xa at t4;omega) (by unfold xa at t4;omega)];refine af.nil ?_;refine qU 1 rfl ?_;exact qN rfl
theorem sD: ∀(l:Nat) {k:Nat} {rt:List NQ} {xs:List D} {a:NQ},au l a→l≤5→cK rt→l≤rt.length→(∀j,j<rt.length→xs[j]?=some (ao (rt.getD j [])))→aB k a→dh k rt→pG l k→Pure Tryz.prog 67 [.ag [.sl 1 xs],ao a] (dI (rq l rt a))
 | 0,k,rt,xs,a,ha,hl5,hrt,hl,hxs,sa,sr,hok=>uG ha hl5 hrt hl hxs sa sr hok (fun l' h=>by omega) (fun _=> .inl rfl) (fun l' h=>by omega)
 | l+1,k,rt,xs,a,ha,hl5,hrt,hl,hxs,sa,sr,hok=>uG ha hl5 hrt hl hxs sa sr hok (fun l' e b m h1 h2 h3 h4=>by
    obtain rfl:l=l':=by omega
    exact sD l h1 (by omega) hrt (by omega) hxs h2 (sr.mono h3) h4) (uH l rt) (fun l' e b j h1 h2 h3=>by
    obtain rfl:l=l':=by omega
    exact⟨AD h1 h2 hrt (by omega) (by omega) hxs h3 sr hok.1,Gh h1 h2 hrt (by omega) h3 sr⟩)
end Lift
namespace Lift
open Go Go.Proofs
theorem Ky{v:List NQ}(ro:cK v)(ps: ∀k,k<v.length→ ¬ed k (v.take k) (v.getD k [])<0):oO v:=fun j hj=>by
 have h:=ps j hj
 have e: ∀i,i<j→(v.take j).getD i []=v.getD i []:=fun i hi=>by
  rw[aN,List.getElem?_take_of_lt hi,aN]
 have ro2:cK (v.take j):=fun i hi=>by
  rw[bg] at hi;rw[e i (by omega)];exact ro i (by omega)
 have lt:au j (v.getD j []):= .inr ⟨j,ai _,ro j hj⟩;rw[dK j lt ro2 (by rw[bg];omega)] at h
 have key: ∀(l:Nat) (a:Cf),l≤j→aY (v.take j) l a=aY v l a∧ ∀b:Cf,mulC (v.take j) l a b=mulC v l a b:=by
  intro l
  induction l with
  | zero=>exact fun a _=>⟨rfl,fun b=>rfl⟩
  | succ l ih =>
    intro a hl;have hm: ∀x y:Cf,mulC (v.take j) l x y=mulC v l x y:=fun x y=>(ih x (by omega)).2 y;have hs: ∀x:Cf,aY (v.take j) l x=aY v l x:=fun x=>(ih x (by omega)).1;refine⟨?_,fun b=>?_⟩
    · unfold aY bo;simp only[hm,hs,e l (by omega)]
    · funext i;show (if i<2^l then mulC (v.take j) l a b i+mulC (v.take j) l (mulC (v.take j) l (bB l a) (bB l b)) (cf ((v.take j).getD l [])) i else mulC (v.take j) l a (bB l b) (i-2^l)+mulC (v.take j) l (bB l a) b (i-2^l))=_;simp only[hm,e l (by omega)];rfl
 rw[(key j _ (ai _)).1] at h;omega
theorem Gs{rt:List (List RD)}{i:Nat}(hi:i≤rt.length)(h: ∀j,j<i→wk rt j=0):oO ((rt.take i).map ay):=Ky (lR hi h) (fun k hk=>by
 rw[fV hi] at hk;have h1:=(iH (h k hk)).2.2;rw[pO hk,← List.map_take,List.take_take,Nat.min_eq_left (by omega)]
 exact h1)
theorem FY{rt:List (List RD)}{i:Nat}(hi:i≤rt.length)(h: ∀j,j<i→wk rt j=0){a:NQ}(ha:au i a):rq i ((rt.take i).map ay) a=ed i ((rt.take i).map ay) a:=by
 rw[mV i ha (lR hi h) (Gs hi h) (by rw[fV hi];exact ai _),dK i ha (lR hi h) (by rw[fV hi];exact ai _)]
theorem Gd{rt:List (List RD)}{k m:Nat}(hw: ∀i,i<k→wN m (rt.getD i []))(hk:k≤rt.length)(h: ∀j,j<k→kM (rt.getD j [])=true): ∀j,j<((rt.take k).map ay).length→(rt.map bG)[j]?=some (ao (((rt.take k).map ay).getD j [])):=fun j hj=>by
 rw[fV hk] at hj;have hj2:j<rt.length:=by omega
 rw[pO hj,← lB (hw j hj) (h j hj)];simp[hj2]
theorem qd(rt:List (List RD)){m:Nat}(hw: ∀i,i<rt.length→(rt.getD i []).length=2^i→wN m (rt.getD i []))(h1:1≤m)(hl:rt.length≤1000000)(hll: ∀i,i<rt.length→(rt.getD i []).length≤4398046511104)(hok:rt.length≤5→pG rt.length m):Pure Tryz.prog 37 [wm rt] (dI (dD rt)):=by
 refine qJ 34 Tryz.func37 rfl rfl rfl rfl (by kernel_rfl) (fun B F0 w0=>?_);unfold dD;obtain ⟨E,hE⟩: ∃E,fE (wk rt) (rt.length-0) 0=E:=⟨_,rfl⟩;rw[hE];refine qX 2 rfl ?_;refine qI (qX 3 rfl ?_);rw[ah];refine qU 1 rfl ?_;refine ae.nil ?_;by_cases h5:5<rt.length
 · rw[if_pos h5,aO (show (5:Int)<(rt.length:Int) by omega)];refine AW.aC rfl ?_;refine qX 1 rfl ?_;exact qN rfl
 rw[if_neg h5,ba (show ¬(5:Int)<(rt.length:Int) by omega)];have hok:=hok (by omega);have hm7:=yS hok;refine AW.aD rfl ?_;refine AW.skip (AW.seq ?_);refine qX 3 rfl ?_;rw[ah];refine qU 1 rfl ?_;refine ae.nil ?_;refine AW.block (AW.aL [1,11,12,13] (fun i:Nat=>[(1,.bx [.sl 1 (rt.map bG)]),(11,.d (.sl 1 (rt.map bG))),(12,.d (dI rt.length)),(13,.d (dI i))]) (fun i=>i≤rt.length∧fE (wk rt) (rt.length-i) i=E∧ ∀j,j<i→wk rt j=0) (fun i=>rt.length-i) 0 rfl ⟨Nat.zero_le _,hE,fun j hj=>by omega⟩ (fun i ⟨hi,hiE,hall⟩=>?_));refine qX 1 rfl ?_;refine qI (AW.cond rfl (fun h=>?_) (fun h=>?_));rotate_left
 · have hii: ¬i<rt.length:=by have:=ar h;omega
   rw[eS hii] at hiE;subst hiE;refine AW.exit ?_;refine qX 1 rfl ?_;exact qN rfl
 have hii:i<rt.length:=by have:=aq h;omega
 have hg:(rt.map bG)[i]?=some (bG (rt.getD i [])):=by simp[hii]
 have hwi:=hw i hii;have hli:=hll i hii;have hmiss:=fun h0:wk rt i=0=>(cZ hii h0).symm.trans hiE;have hhit:=fun h0:wk rt i≠0=>(eQ hii h0).symm.trans hiE;have hp:2^i≤2^5:=Nat.pow_le_pow_right (by decide) (by omega);have hrt:wk rt i=if (rt.getD i []).length≠2^i then 10 else if bY i (rt.getD i [])≠0 then bY i (rt.getD i []) else if ed i ((rt.take i).map ay) (ay (rt.getD i []))<0 then 3 else 0:=rfl
 refine AW.skip (AW.seq (AW.block ?_));refine qX 1 rfl ?_;refine ae.idx tok (bG (rt.getD i [])) rfl rfl rfl rfl (aj i) hg ?_;refine qU 3 rfl ?_;refine qI (qX 2 rfl ?_);rw[ah];refine qU 2 rfl ?_;rw[Am (by omega)];refine qU 1 rfl ?_;refine ae.nil ?_;by_cases e1:(rt.getD i []).length=2^i;rotate_left
 · rw[if_pos e1] at hrt;rw[bne_iff_ne.2 (show (((rt.getD i []).length:Nat):Int)≠((2^i:Nat):Int) by omega)];have:=hhit (by rw[hrt];decide);rw[hrt] at this;subst this;refine AW.aC rfl ?_;refine qX 1 rfl ?_;exact qN rfl
 rw[if_neg (fun h=>h e1)] at hrt;have hwi:=hwi e1;have cn:=oE i (rt.getD i []) (by omega) (fun _=>hwi) (by omega) hli;rw[e1,bne_eq_false_iff_eq.2 rfl];refine AW.aD rfl ?_;refine AW.skip (AW.seq ?_);refine qX 2 rfl ?_;refine ae.call tok rfl rfl rfl rfl cn ?_;refine qU 1 rfl ?_;refine qK 2 rfl ?_;refine ae.nil ?_;by_cases e2:bY i (rt.getD i [])=0;rotate_left
 · rw[if_pos e2] at hrt;have:=hhit (by rw[hrt];exact e2);rw[hrt] at this;subst this;rw[bne_iff_ne.2 (show ((bY i (rt.getD i []):Nat):Int)≠0 by omega)];refine AW.aC rfl ?_;refine qX 2 rfl ?_;exact qN rfl
 rw[if_neg (fun h=>h e2)] at hrt;rw[bne_eq_false_iff_eq.2 (show ((bY i (rt.getD i []):Nat):Int)=0 by omega)];obtain ⟨n1,n2⟩:=qn e2;have hwj:=fun j (hj:j<i)=>hw j (by omega) (iH (hall j hj)).1;have cs:=sD i (k:=m) (rt:=(rt.take i).map ay) (xs:=rt.map bG) n1 (by omega) (lR hi hall) (by rw[fV hi];exact ai _) (Gd hwj hi (fun j hj=>(iH (hall j hj)).2.1)) (mT hwi h1) (tH hwj h1 hi) (u5 hok hi);have tr:=nQ i ((rt.take i).map ay) (ay (rt.getD i []));rw[FY hi hall n1,← lB hwi n2] at cs;generalize ed i ((rt.take i).map ay) (ay (rt.getD i []))=s at cs hrt tr;refine AW.aD rfl ?_;refine AW.skip (qX 2 rfl ?_);refine ae.call tok rfl rfl rfl rfl cs ?_;refine qU 1 rfl ?_;refine ae.nil ?_;by_cases e3:s<0
 · rw[if_pos e3] at hrt;rw[aO e3];have:=hhit (by rw[hrt];decide);rw[hrt] at this;subst this;refine AW.aC rfl ?_;refine qX 1 rfl ?_;exact qN rfl
 rw[if_neg e3] at hrt;rw[ba e3];refine AW.aD rfl ?_;refine AW.skip (qT 1 rfl ?_);rw[aG (x:=(i:Int)+1) (by omega) (by omega)];refine qU 1 rfl ?_;refine ae.nil ?_
 exact⟨i+1,rfl,⟨hii,hmiss hrt,fun j hj=>by
  by_cases e:j=i
  · rw[e];exact hrt
  · exact hall j (by omega)⟩,by omega⟩
theorem wL(rt l:List (List RD)){m mn:Nat}(hw: ∀i,i<rt.length→(rt.getD i []).length=2^i→wN m (rt.getD i []))(h1:1≤m)(hl:rt.length≤1000000)(hll: ∀i,i<rt.length→(rt.getD i []).length≤4398046511104)(hok:rt.length≤5→pG rt.length m)
  (hlw: ∀i,i<l.length→Db rt.length (l.getD i [])→wN mn (l.getD i [])) (hl2:l.length≤1000000) (hl3: ∀i,i<l.length→(l.getD i []).length≤4398046511104) (hm:mn≤17300000000000):Pure Tryz.prog 69 [wm rt,.sl 1 (l.map bG)] (dI (kt rt l)):=by
 refine qJ 29 Tryz.func69 rfl rfl rfl rfl (by kernel_rfl) (fun B F0 w0=>?_);have cC:=qd rt hw h1 hl hll hok;unfold kt;obtain ⟨E,hE⟩: ∃E,fE (fun i=>bY rt.length (l.getD i [])) (l.length-0) 0=E:=⟨_,rfl⟩;rw[hE];refine qX 2 rfl ?_;refine qI (qX 1 rfl ?_);refine ae.call tok rfl rfl rfl rfl cC ?_;refine qU 1 rfl ?_;refine qK 2 rfl ?_;refine ae.nil ?_;by_cases e2:dD rt=0;rotate_left
 · rw[if_pos e2,bne_iff_ne.2 (show ((dD rt:Nat):Int)≠0 by omega)];refine AW.aC rfl ?_;refine qX 2 rfl ?_;exact qN rfl
 have h5:=(qO e2).1;rw[if_neg (fun h=>h e2),bne_eq_false_iff_eq.2 (show ((dD rt:Nat):Int)=0 by omega)];refine AW.aD rfl ?_;refine AW.skip (AW.seq ?_);refine qX 2 rfl ?_;rw[ah];refine qU 1 rfl ?_;refine ae.nil ?_;refine AW.block (AW.aL [2,14,15,16] (fun i:Nat=>[(2,.bx [.sl 1 (rt.map bG)]),(14,.d (.sl 1 (l.map bG))),(15,.d (dI l.length)),(16,.d (dI i))]) (fun i=>i≤l.length∧fE (fun i=>bY rt.length (l.getD i [])) (l.length-i) i=E) (fun i=>l.length-i) 0 rfl ⟨Nat.zero_le _,hE⟩ (fun i ⟨hi,hiE⟩=>?_));refine qX 1 rfl ?_;refine qI (AW.cond rfl (fun h=>?_) (fun h=>?_));rotate_left
 · have hii: ¬i<l.length:=by have:=ar h;omega
   rw[eS hii] at hiE;subst hiE;refine AW.exit ?_;refine qX 1 rfl ?_;exact qN rfl
 have hii:i<l.length:=by have:=aq h;omega
 have hg:(l.map bG)[i]?=some (bG (l.getD i [])):=by simp[hii]
 have hmiss:=fun h0:bY rt.length (l.getD i [])=0=>(cZ (f:=fun i=>bY rt.length (l.getD i [])) hii h0).symm.trans hiE;have hhit:=fun h0:bY rt.length (l.getD i [])≠0=>(eQ (f:=fun i=>bY rt.length (l.getD i [])) hii h0).symm.trans hiE;have cn:=oE rt.length (l.getD i []) h5 (hlw i hii) hm (hl3 i hii);refine AW.skip (AW.seq (AW.block (AW.seq (AW.region ?_))));refine ae.idx tok (bG (l.getD i [])) rfl rfl rfl rfl (aj i) hg ?_;refine qU 2 rfl ?_;refine qK 3 rfl ?_;rw[ah];refine qU 1 rfl ?_;refine ae.call tok rfl rfl rfl rfl cn ?_;refine qU 1 rfl ?_;refine ae.nil ?_;generalize bY rt.length (l.getD i [])=v at hmiss hhit;refine qX 2 rfl ?_;refine ae.nil ?_;by_cases hv:v=0;rotate_left
 · have:=hhit hv;subst this;rw[bne_iff_ne.2 (show ((v:Nat):Int)≠0 by omega)];refine AW.aC rfl ?_;refine qX 2 rfl ?_;exact qN rfl
 rw[bne_eq_false_iff_eq.2 (show ((v:Nat):Int)=0 by omega)];refine AW.aD rfl ?_;refine AW.skip (qT 1 rfl ?_);rw[aG (x:=(i:Int)+1) (by omega) (by omega)];refine qU 1 rfl ?_;refine ae.nil ?_;exact⟨i+1,rfl,⟨hii,hmiss hv⟩,by omega⟩
theorem AE{m:Nat}{rt:List (List RD)}{a:List RD}(T:pD m rt)(A:kz m rt a):Pure Tryz.prog 69 [wm rt,.sl 1 [bG a]] (dI (kt rt [a])):=by
 have hm:=T.m2
 have h0: ∀i,i<[a].length→i=0:=fun i hi=>by
  have:i<1:=hi;omega
 obtain ⟨m0,t1,t2,tw,tk⟩:=T.t;exact wL rt [a] tw t1 T.l T.ll tk (fun i hi=>by rw[h0 i hi];exact A.w) (show 1≤1000000 by decide) (fun i hi=>by rw[h0 i hi];exact A.l) (by omega)
end Lift
namespace Lift
open Go Go.Proofs
theorem fK(i:Int)(n:Nat):Pure Tryz.prog 64 [dI i,dI n] (dB (ji i n)):=by
 refine qJ 12 Tryz.func64 rfl rfl rfl rfl (by kernel_rfl) (fun B F0 w0=>?_);refine qX 1 rfl ?_;refine qK 2 rfl ?_;refine ae.split (t:=6) rfl (fun h=>?_) (fun h=>?_)
 · have h1:=aq h;refine qU 6 rfl ?_;refine ae.nil ?_;rw[show ji i n=decide (i<n) by unfold ji;rw[decide_eq_decide];omega];exact AW.ret rfl
 · have h1:=ar h;refine qU 6 rfl ?_;refine ae.nil ?_;rw[show ji i n=false by unfold ji;rw[decide_eq_false_iff_not];omega];exact AW.ret rfl
set_option maxHeartbeats 1600000 in
theorem wI(b:Body){K:Nat}(hb:b.ok K)(hK:K≤50000000):Pure Tryz.prog 63 [b.D] (dI (rB b.pts:Nat)):=by
 refine qJ 50 Tryz.func63 rfl rfl rfl rfl (by kernel_rfl) (fun B F0 w0=>?_);obtain ⟨bn,ps⟩:=b;obtain ⟨_,hn,hm⟩:=hb;simp only[] at hn hm;unfold big at hn;show AW _ _ _ _ _ _ _ (eF 0 [D.ag [dS bn,pE ps]]);simp only[];refine qX 2 rfl ?_;refine qI (qX 4 rfl ?_);rw[ah];refine ae.nil ?_;refine AW.cond rfl (fun h=>?_) (fun h=>?_)
 · have h8:8<ps.length:=by have:=aq h;omega
   rw[rB,if_pos h8];refine qX 1 rfl ?_;exact qN rfl
 have h8: ¬8<ps.length:=by have:=ar h;omega
 rw[rB,if_neg h8];refine AW.skip (AW.seq ?_);refine qX 1 rfl ?_;refine ae.nil ?_;refine AW.block ?_
 refine AW.aL [1,3] (fun i:Nat=>[(1,.bx [dS bn,pE ps]),(3,.d (dI i))])
  (fun i=>i≤ps.length∧fE (tO ps) ps.length 0=fE (tO ps) (ps.length-i) i) (fun i=>ps.length-i) 0 rfl ⟨Nat.zero_le _,rfl⟩ (fun i ⟨hi,hE⟩=>?_)
 refine AW.seq (qX 5 rfl ?_);rw[ah];refine ae.nil ?_;refine AW.cond rfl (fun h=>?_) (fun h=>?_)
 · have hin:i<ps.length:=by have:=aq h;omega
   obtain ⟨mok1,mok2,mok3⟩:=hm i;have hbE:tO ps i≠0→fE (tO ps) ps.length 0=tO ps i:=fun h0=>hE.trans (eQ hin h0);have hbM:tO ps i=0→fE (tO ps) ps.length 0=fE (tO ps) (ps.length-(i+1)) (i+1):=fun h0=>hE.trans (cZ hin h0);generalize fE (tO ps) ps.length 0=E at *;obtain ⟨m,hme⟩: ∃m,m=ps.getD i default:=⟨_,rfl⟩;rw[← hme] at mok1 mok2 mok3;unfold big at mok1;have hdup:CW ps i=eU (fun k=>decide ((ps.getD k default).nm=m.nm)) i 0:=by rw[hme];rfl
   have hbd:tO ps i=if dc m.nm=false then 5 else if CW ps i=true then 6 else if m.x.okB=true∧m.y.okB=true then 0 else 3:=by rw[hme];rfl
   refine AW.skip (AW.seq (AW.block ?_));refine qX 3 rfl ?_;refine ae.idx tok m.D rfl rfl rfl rfl (aj i) (by rw[hme];exact getM Mark.D hin) ?_;refine qU 3 rfl ?_;refine qI (qX 2 rfl ?_);refine ae.call tok rfl rfl rfl rfl (je m.nm mok1) ?_;refine qU 1 rfl ?_;refine ae.nil ?_;refine AW.cond rfl (fun h=>?_) (fun h=>?_)
   · have hnm:dc m.nm=false:=kl h;have h5:tO ps i=5:=by rw[hbd,hnm];rfl
     rw[show E=5 by rw[hbE (by omega),h5]];refine qX 1 rfl ?_;exact qN rfl
   have hnm:dc m.nm=true:=by simpa using h
   rw[hnm,if_neg (by decide)] at hbd;refine AW.skip (AW.seq ?_);refine qX 1 rfl ?_;refine ae.nil ?_;refine AW.block ?_
   refine AW.aL [1,3,4,5] (fun k:Nat=>[(1,.bx [dS bn,pE ps]),(3,.d (dI i)),(4,.bx [dS m.nm,dB m.x.g,Wd m.x.n,Wd m.x.d,dB m.y.g,Wd m.y.n,Wd m.y.d]),(5,.d (dI k))])
    (fun k=>k≤i∧CW ps i=eU (fun k=>decide ((ps.getD k default).nm=m.nm)) (i-k) k) (fun k=>i-k) 0 rfl ⟨Nat.zero_le _,hdup⟩ (fun k ⟨hk,hD⟩=>?_)
   refine AW.seq (qX 3 rfl ?_);refine ae.nil ?_;refine AW.cond rfl (fun h=>?_) (fun h=>?_)
   · have hki:k<i:=by have:=aq h;omega
     refine AW.skip (AW.seq (AW.block (AW.seq ?_)));refine AW.draw aW 9 (by kernel_rfl) ?_;refine qP 3 rfl ?_;refine af.idx tok (ps.getD k default).D rfl rfl rfl rfl rfl (aj k) (getM Mark.D (by omega)) ?_;refine qP 5 rfl ?_;rw[lT];refine af.nil ?_;refine ae.nil ?_;refine AW.cond rfl (fun h=>?_) (fun h=>?_)
     · have h6:tO ps i=6:=by rw[hbd,hD.trans (fG hki h)];rfl
       rw[show E=6 by rw[hbE (by omega),h6]];refine qX 1 rfl ?_;exact qN rfl
     · refine AW.skip (qT 3 rfl ?_);rw[aG (x:=(k:Int)+1) (by omega) (by omega)];refine ae.nil ?_;exact⟨k+1,rfl,⟨hki,hD.trans (eI hki h)⟩,by omega⟩
   · have hki: ¬k<i:=by have:=ar h;omega
     rw[hD.trans (fH hki),if_neg (by decide)] at hbd;refine AW.exit ?_;refine AW.cut [1,3,49] (fun _:Unit=>[(1,.bx [dS bn,pE ps]),(3,.d (dI i)),(49,.d (dB (!decide (m.x.okB=true∧m.y.okB=true))))]) (fun _=>True) ?_ (fun _ _=>?_)
     · refine qT 2 rfl ?_;refine ae.call tok rfl rfl rfl rfl (jQ m.x mok2 (by omega)) ?_;refine ae.split (t:=42) rfl (fun h=>?_) (fun h=>?_)
       · refine qU 4 rfl ?_;refine ae.call tok rfl rfl rfl rfl (jQ m.y mok3 (by omega)) ?_;refine qU 2 rfl ?_;refine ae.nil ?_;exact⟨(),by rw[show decide (m.x.okB=true∧m.y.okB=true)=m.y.okB by simp[h]];rfl,trivial⟩
       · refine qU 7 rfl ?_;refine ae.nil ?_;exact⟨(),by rw[show decide (m.x.okB=true∧m.y.okB=true)=false by simp[h]];rfl,trivial⟩
     refine AW.cond rfl (fun h=>?_) (fun h=>?_)
     · have hno: ¬(m.x.okB=true∧m.y.okB=true):=fun e=>by rw[aO e] at h;cases h
       have h3:tO ps i=3:=by rw[hbd,if_neg hno]
       rw[show E=3 by rw[hbE (by omega),h3]];refine qX 1 rfl ?_;exact qN rfl
     · have hyes:m.x.okB=true∧m.y.okB=true:=by simpa using h
       rw[if_pos hyes] at hbd;refine AW.skip (qT 3 rfl ?_);rw[aG (x:=(i:Int)+1) (by omega) (by omega)];refine ae.nil ?_;exact⟨i+1,rfl,⟨hin,hbM hbd⟩,by omega⟩
 · have hin: ¬i<ps.length:=by have:=ar h;omega
   rw[hE,eS hin];refine AW.exit ?_;refine qX 1 rfl ?_;exact qN rfl
set_option maxHeartbeats 1600000 in
theorem wK(l:Lkg){K:Nat}(hl:l.ok K)(hK:K≤50000000):Pure Tryz.prog 34 [l.D] (dI (bL l.bodies:Nat)):=by
 refine qJ 48 Tryz.func34 rfl rfl rfl rfl (by kernel_rfl) (fun B F0 w0=>?_);obtain ⟨ln,bs,js,ds⟩:=l;have hb:=hl.b;have hn:=hl.nb;simp only[] at hb hn ⊢;unfold big at hn;show AW _ _ _ _ _ _ _ (eF 0 [D.ag [dS ln,aJ bs,aH js,aI ds]]);refine qX 2 rfl ?_;refine qI (qX 1 rfl ?_);refine ae.nil ?_;refine AW.block ?_
 refine AW.aL [1,3] (fun i:Nat=>[(1,.bx [dS ln,aJ bs,aH js,aI ds]),(3,.d (dI i))])
  (fun i=>i≤bs.length∧bL bs=fE (fR bs) (bs.length-i) i) (fun i=>bs.length-i) 0 rfl ⟨Nat.zero_le _,rfl⟩ (fun i ⟨hi,hE⟩=>?_)
 refine AW.seq (qX 5 rfl ?_);rw[ah];refine ae.nil ?_;refine AW.cond rfl (fun h=>?_) (fun h=>?_)
 · have hin:i<bs.length:=by have:=aq h;omega
   have hbi:=hb i;have hbE:fR bs i≠0→bL bs=fR bs i:=fun h0=>hE.trans (eQ hin h0);have hbM:fR bs i=0→bL bs=fE (fR bs) (bs.length-(i+1)) (i+1):=fun h0=>hE.trans (cZ hin h0);generalize bL bs=E at *;obtain ⟨b,hbe⟩: ∃b,b=bs.getD i default:=⟨_,rfl⟩;rw[← hbe] at hbi;have bok:=hbi.1;unfold big at bok;have hdup:CY bs i=eU (fun k=>decide ((bs.getD k default).nm=b.nm)) i 0:=by rw[hbe];rfl
   have hbd:fR bs i=if dc b.nm=false then 5 else if CY bs i=true then 6 else rB b.pts:=by rw[hbe];rfl
   refine AW.skip (AW.seq (AW.block (AW.seq ?_)));refine qX 3 rfl ?_;refine ae.idx tok b.D rfl rfl rfl rfl (aj i) (by rw[hbe];exact getM Body.D hin) ?_;refine qU 2 rfl ?_;refine ae.call tok rfl rfl rfl rfl (je b.nm bok) ?_;refine qU 1 rfl ?_;refine ae.nil ?_;refine AW.cond rfl (fun h=>?_) (fun h=>?_)
   · have hnm:dc b.nm=false:=kl h;have h5:fR bs i=5:=by rw[hbd,hnm];rfl
     rw[show E=5 by rw[hbE (by omega),h5]];refine qX 1 rfl ?_;exact qN rfl
   have hnm:dc b.nm=true:=by simpa using h
   rw[hnm,if_neg (by decide)] at hbd;refine AW.skip (AW.seq ?_);refine qX 1 rfl ?_;refine ae.nil ?_;refine AW.block ?_
   refine AW.aL [1,3,4] (fun k:Nat=>[(1,.bx [dS ln,aJ bs,aH js,aI ds]),(3,.d (dI i)),(4,.d (dI k))])
    (fun k=>k≤i∧CY bs i=eU (fun k=>decide ((bs.getD k default).nm=b.nm)) (i-k) k) (fun k=>i-k) 0 rfl ⟨Nat.zero_le _,hdup⟩ (fun k ⟨hk,hD⟩=>?_)
   refine AW.seq (qX 3 rfl ?_);refine ae.nil ?_;refine AW.cond rfl (fun h=>?_) (fun h=>?_)
   · have hki:k<i:=by have:=aq h;omega
     refine AW.skip (AW.seq (AW.block (AW.seq ?_)));refine AW.draw aW 13 (by kernel_rfl) ?_;refine qP 3 rfl ?_;refine af.idx tok (bs.getD k default).D rfl rfl rfl rfl rfl (aj k) (getM Body.D (by omega)) ?_;refine qP 5 rfl ?_;refine af.idx tok b.D rfl rfl rfl rfl rfl (aj i) (by rw[hbe];exact getM Body.D hin) ?_;refine qP 3 rfl ?_;rw[lT];refine af.nil ?_;refine ae.nil ?_;refine AW.cond rfl (fun h=>?_) (fun h=>?_)
     · have h6:fR bs i=6:=by rw[hbd,hD.trans (fG hki h)];rfl
       rw[show E=6 by rw[hbE (by omega),h6]];refine qX 1 rfl ?_;exact qN rfl
     · refine AW.skip (qT 3 rfl ?_);rw[aG (x:=(k:Int)+1) (by omega) (by omega)];refine ae.nil ?_;exact⟨k+1,rfl,⟨hki,hD.trans (eI hki h)⟩,by omega⟩
   · have hki: ¬k<i:=by have:=ar h;omega
     rw[hD.trans (fH hki),if_neg (by decide)] at hbd;refine AW.exit ?_;refine qX 3 rfl ?_;refine ae.idx tok b.D rfl rfl rfl rfl (aj i) (by rw[hbe];exact getM Body.D hin) ?_;refine qU 1 rfl ?_;refine ae.call tok rfl rfl rfl rfl (wI b hbi hK) ?_;refine qU 1 rfl ?_;refine qK 2 rfl ?_;refine ae.nil ?_;refine AW.cond rfl (fun h=>?_) (fun h=>?_)
     · have h0:rB b.pts≠0:=by rintro e;rw[e] at h;cases h
       rw[show E=rB b.pts by rw[hbE (by rw[hbd];exact h0),hbd]];refine qX 2 rfl ?_;exact qN rfl
     · have h0:rB b.pts=0:=by
        have:((rB b.pts:Nat):Int)=0:=by simpa using h
        omega
       refine AW.skip (qT 3 rfl ?_);rw[aG (x:=(i:Int)+1) (by omega) (by omega)];refine ae.nil ?_;exact⟨i+1,rfl,⟨hin,hbM (by rw[hbd];exact h0)⟩,by omega⟩
 · have hin: ¬i<bs.length:=by have:=ar h;omega
   rw[hE,eS hin];refine AW.exit ?_;refine qX 1 rfl ?_;exact qN rfl
theorem AB(p q:Mark){K:Nat}(hp:p.ok K)(hq:q.ok K)(hK:K≤5000000):Pure Tryz.prog 65 [p.D,q.D] (dB (lp p q)):=by
 refine qJ 19 Tryz.func65 rfl rfl rfl rfl (by kernel_rfl) (fun B F0 w0=>?_);refine qX 3 rfl ?_;refine qK 4 rfl ?_;refine ae.call tok rfl rfl rfl rfl (uP p.x q.x hp.2.1 hq.2.1 (by omega)) ?_;refine qU 1 rfl ?_;rw[oc];refine ae.split (t:=10) rfl (fun h=>?_) (fun h=>?_)
 · have h1:=aq h;refine qU 5 rfl ?_;refine ae.call tok rfl rfl rfl rfl (uP p.y q.y hp.2.2 hq.2.2 (by omega)) ?_;refine qU 3 rfl ?_;rw[oc];refine ae.nil ?_;rw[show lp p q=decide (p.y.val=q.y.val) by unfold lp;simp[h1]];exact AW.ret rfl
 · have h1:=ar h;refine qU 9 rfl ?_;refine ae.nil ?_;rw[show lp p q=false by unfold lp;simp[h1]];exact AW.ret rfl
end Lift
namespace Lift
open Go Go.Proofs
set_option maxHeartbeats 1600000 in
theorem yH(l:Lkg)(i:Nat){K:Nat}(hl:l.ok K)(hK:K≤5000000)(hin:i<l.joints.length):Pure Tryz.prog 35 [l.D,dI i] (dI (cY l.bodies l.joints i:Nat)):=by
 refine qJ 112 Tryz.func35 rfl rfl rfl rfl (by kernel_rfl) (fun B F0 w0=>?_);obtain ⟨ln,bs,js,ds⟩:=l;have hb:=hl.b;have jok:=hl.j i;have hn:=hl.nj;simp only[] at hb jok hn hin ⊢;unfold big at jok hn;show AW _ _ _ _ _ _ _ (eF 0 [D.ag [dS ln,aJ bs,aH js,aI ds],dI i]);obtain ⟨j,hje⟩: ∃j,j=js.getD i default:=⟨_,rfl⟩;rw[← hje] at jok;have hdup:wV js i=eU (fun k=>decide ((js.getD k default).nm=j.nm)) i 0:=by rw[hje];rfl
 have hbd:cY bs js i=if dc j.nm=false then 5 else if wV js i=true then 6 else jE bs j:=by rw[hje];rfl
 generalize cY bs js i=E at *;refine qX 2 rfl ?_;refine qK 3 rfl ?_;refine ae.idx tok j.D rfl rfl rfl rfl (aj i) (by rw[hje];exact getM bm.D hin) ?_;refine qU 3 rfl ?_;refine ae.nil ?_;obtain ⟨nm,kind,a,pt,b,on,to⟩:=j;simp only[] at jok hdup hbd
 have hj:jE bs ⟨nm,kind,a,pt,b,on,to⟩=if kind≠0∧kind≠1 then 7 else if (ji a bs.length&&ji b bs.length)=false then 9 else if a=b then 13 else
  if (ji pt (bs.getD a.toNat default).pts.length&&ji on (bs.getD b.toNat default).pts.length)=false then 9 else
  if kind=0 then (if to=0 then 0 else 2) else if ji to (bs.getD b.toNat default).pts.length=false then 9 else
  if lp ((bs.getD b.toNat default).pts.getD on.toNat default) ((bs.getD b.toNat default).pts.getD to.toNat default)=true then 8 else 0:=rfl
 generalize jE bs ⟨nm,kind,a,pt,b,on,to⟩=E2 at *;refine AW.seq (qX 2 rfl ?_);refine ae.call tok rfl rfl rfl rfl (je nm jok) ?_;refine qU 1 rfl ?_;refine ae.nil ?_;refine AW.cond rfl (fun h=>?_) (fun h=>?_)
 · rw[if_pos (kl h)] at hbd;rw[hbd];refine qX 1 rfl ?_;exact qN rfl
 rw[if_neg (by simpa using h)] at hbd;refine AW.skip (AW.seq ?_);refine qX 1 rfl ?_;refine ae.nil ?_;refine AW.block ?_
 refine AW.aL [1,2,5,6] (fun k:Nat=>[(1,.d (dI i)),(2,.bx [dS ln,aJ bs,aH js,aI ds]),(5,.bx [dS nm,dI kind,dI a,dI pt,dI b,dI on,dI to]),(6,.d (dI k))])
  (fun k=>k≤i∧wV js i=eU (fun k=>decide ((js.getD k default).nm=nm)) (i-k) k) (fun k=>i-k) 0 rfl ⟨Nat.zero_le _,hdup⟩ (fun k ⟨hk,hD⟩=>?_)
 refine AW.seq (qX 3 rfl ?_);refine ae.nil ?_;refine AW.cond rfl (fun h=>?_) (fun h=>?_)
 · have hki:k<i:=by have:=aq h;omega
   refine AW.skip (AW.seq (AW.block (AW.seq ?_)));refine AW.draw aW 9 (by kernel_rfl) ?_;refine qP 3 rfl ?_;refine af.idx tok (js.getD k default).D rfl rfl rfl rfl rfl (aj k) (getM bm.D (by omega)) ?_;refine qP 5 rfl ?_;rw[lT];refine af.nil ?_;refine ae.nil ?_;refine AW.cond rfl (fun h=>?_) (fun h=>?_)
   · rw[hD.trans (fG hki h)] at hbd;rw[show E=6 from hbd];refine qX 1 rfl ?_;exact qN rfl
   · refine AW.skip (qT 3 rfl ?_);rw[aG (x:=(k:Int)+1) (by omega) (by omega)];refine ae.nil ?_;exact⟨k+1,rfl,⟨hki,hD.trans (eI hki h)⟩,by omega⟩
 have hki: ¬k<i:=by have:=ar h;omega
 rw[hD.trans (fH hki),if_neg (by decide)] at hbd;rw[hbd];clear hbd;refine AW.exit (AW.seq ?_);refine AW.cut [2,5,39] (fun _:Unit=>[(2,.bx [dS ln,aJ bs,aH js,aI ds]),(5,.bx [dS nm,dI kind,dI a,dI pt,dI b,dI on,dI to]),(39,.d (dB (decide (kind≠0∧kind≠1))))]) (fun _=>True) ?_ (fun _ _=>?_)
 · refine qT 3 rfl ?_;refine ae.split (t:=34) rfl (fun h=>?_) (fun h=>?_)
   · have h1:kind≠0:=by simpa using h
     refine qU 5 rfl ?_;refine ae.nil ?_;exact⟨(),by rw[show decide (kind≠0∧kind≠1)=(kind != 1) by rw[Bool.eq_iff_iff];simp[h1]];rfl,trivial⟩
   · have h1:kind=0:=by simpa using h
     refine qU 5 rfl ?_;refine ae.nil ?_;exact⟨(),by rw[show decide (kind≠0∧kind≠1)=false by simp[h1]];rfl,trivial⟩
 refine AW.cond rfl (fun h=>?_) (fun h=>?_)
 · rw[if_pos (aq h)] at hj;rw[hj];refine qX 1 rfl ?_;exact qN rfl
 rw[if_neg (ar h)] at hj;refine AW.skip (AW.seq ?_);refine AW.cut [2,5,55] (fun _:Unit=>[(2,.bx [dS ln,aJ bs,aH js,aI ds]),(5,.bx [dS nm,dI kind,dI a,dI pt,dI b,dI on,dI to]),(55,.d (dB (!(ji a bs.length&&ji b bs.length))))]) (fun _=>True) ?_ (fun _ _=>?_)
 · refine qT 5 rfl ?_;rw[ah];refine ae.call tok rfl rfl rfl rfl (fK a bs.length) ?_;refine ae.split (t:=45) rfl (fun h=>?_) (fun h=>?_)
   · refine qU 7 rfl ?_;rw[ah];refine ae.call tok rfl rfl rfl rfl (fK b bs.length) ?_;refine qU 2 rfl ?_;refine ae.nil ?_;exact⟨(),by rw[h];rfl,trivial⟩
   · refine qU 10 rfl ?_;refine ae.nil ?_;exact⟨(),by rw[h];rfl,trivial⟩
 refine AW.cond rfl (fun h=>?_) (fun h=>?_)
 · rw[if_pos (kl h)] at hj;rw[hj];refine qX 1 rfl ?_;exact qN rfl
 have hab:ji a bs.length=true∧ji b bs.length=true:=by simpa using h
 rw[if_neg (by simp[hab])] at hj;obtain ⟨ha0,ha1⟩:=sN hab.1;obtain ⟨hb0,hb1⟩:=sN hab.2;obtain ⟨Bb,hBb⟩: ∃x,x=bs.getD b.toNat default:=⟨_,rfl⟩;obtain ⟨Ba,hBa⟩: ∃x,x=bs.getD a.toNat default:=⟨_,rfl⟩;have okb:=hb b.toNat;rw[← hBb] at hj okb;rw[← hBa] at hj;refine AW.skip (AW.seq ?_);refine qX 5 rfl ?_;refine ae.nil ?_;refine AW.cond rfl (fun h=>?_) (fun h=>?_)
 · rw[if_pos (by simpa using h)] at hj;rw[hj];refine qX 1 rfl ?_;exact qN rfl
 rw[if_neg (by simpa using h)] at hj;refine AW.skip (AW.seq ?_);refine AW.draw aW 15 (by kernel_rfl) ?_;refine qP 4 rfl ?_;refine af.idx tok Ba.D rfl rfl rfl rfl rfl ha0 (by rw[hBa];exact getM Body.D ha1) ?_;refine qP 6 rfl ?_;refine af.idx tok Bb.D rfl rfl rfl rfl rfl hb0 (by rw[hBb];exact getM Body.D hb1) ?_;refine qP 3 rfl ?_;refine af.nil ?_;refine qU 1 rfl ?_;refine qI ?_;refine AW.cut [5,8,88] (fun _:Unit=>[(5,.bx [dS nm,dI kind,dI a,dI pt,dI b,dI on,dI to]),(8,.d (pE Bb.pts)),(88,.d (dB (!(ji pt Ba.pts.length&&ji on Bb.pts.length))))]) (fun _=>True) ?_ (fun _ _=>?_)
 · refine qT 4 rfl ?_;rw[ah];refine ae.call tok rfl rfl rfl rfl (fK pt Ba.pts.length) ?_;refine ae.split (t:=79) rfl (fun h=>?_) (fun h=>?_)
   · refine qU 6 rfl ?_;rw[ah];refine ae.call tok rfl rfl rfl rfl (fK on Bb.pts.length) ?_;refine qU 2 rfl ?_;refine ae.nil ?_;exact⟨(),by rw[h];rfl,trivial⟩
   · refine qU 9 rfl ?_;refine ae.nil ?_;exact⟨(),by rw[h];rfl,trivial⟩
 refine AW.cond rfl (fun h=>?_) (fun h=>?_)
 · rw[if_pos (kl h)] at hj;rw[hj];refine qX 1 rfl ?_;exact qN rfl
 have hpo:ji pt Ba.pts.length=true∧ji on Bb.pts.length=true:=by simpa using h
 rw[if_neg (by simp[hpo])] at hj;obtain ⟨ho0,ho1⟩:=sN hpo.2;refine AW.skip (AW.seq ?_);refine qX 3 rfl ?_;refine ae.nil ?_;refine AW.cond rfl (fun h=>?_) (fun h=>?_)
 · rw[if_pos (by simpa using h)] at hj;refine AW.seq (qX 3 rfl ?_);refine ae.nil ?_;refine AW.cond rfl (fun h=>?_) (fun h=>?_)
   · rw[if_neg (by simpa using h)] at hj;rw[hj];refine qX 1 rfl ?_;exact qN rfl
   · rw[if_pos (by simpa using h)] at hj;rw[hj];refine AW.skip (qX 1 rfl ?_);exact qN rfl
 rw[if_neg (by simpa using h)] at hj;refine AW.skip (AW.seq ?_);refine qX 4 rfl ?_;rw[ah];refine ae.call tok rfl rfl rfl rfl (fK to Bb.pts.length) ?_;refine qU 1 rfl ?_;refine ae.nil ?_;refine AW.cond rfl (fun h=>?_) (fun h=>?_)
 · rw[if_pos (kl h)] at hj;rw[hj];refine qX 1 rfl ?_;exact qN rfl
 have hto:ji to Bb.pts.length=true:=by simpa using h
 rw[if_neg (by simp[hto])] at hj;obtain ⟨ht0,ht1⟩:=sN hto;obtain ⟨p,hp⟩: ∃x,x=Bb.pts.getD on.toNat default:=⟨_,rfl⟩;obtain ⟨q,hq⟩: ∃x,x=Bb.pts.getD to.toNat default:=⟨_,rfl⟩;have okp:=okb.2.2 on.toNat;have okq:=okb.2.2 to.toNat;rw[← hp] at hj okp;rw[← hq] at hj okq;refine AW.skip (AW.seq (AW.seq ?_));refine AW.draw aW 11 (by kernel_rfl) ?_;refine qP 3 rfl ?_;refine af.idx tok p.D rfl rfl rfl rfl rfl ho0 (by rw[hp];exact getM Mark.D ho1) ?_;refine qP 4 rfl ?_;refine af.idx tok q.D rfl rfl rfl rfl rfl ht0 (by rw[hq];exact getM Mark.D ht1) ?_;refine qP 1 rfl ?_;refine af.call tok rfl rfl rfl rfl rfl (AB p q okp okq hK) ?_;refine af.nil ?_;refine ae.nil ?_;refine AW.cond rfl (fun h=>?_) (fun h=>?_)
 · rw[if_pos h] at hj;rw[hj];refine qX 1 rfl ?_;exact qN rfl
 · rw[if_neg (by rw[h];decide)] at hj;rw[hj];refine AW.skip (qX 1 rfl ?_);exact qN rfl
set_option maxHeartbeats 1600000 in
theorem wJ(l:Lkg)(i:Nat){K:Nat}(hl:l.ok K)(hin:i<l.drivers.length):Pure Tryz.prog 36 [l.D,dI i] (dI (dP l.bodies.length l.drivers i:Nat)):=by
 refine qJ 55 Tryz.func36 rfl rfl rfl rfl (by kernel_rfl) (fun B F0 w0=>?_);obtain ⟨ln,bs,js,ds⟩:=l;have dok:=hl.d i;have hn:=hl.nd;simp only[] at dok hn hin ⊢;unfold big at dok hn;show AW _ _ _ _ _ _ _ (eF 0 [D.ag [dS ln,aJ bs,aH js,aI ds],dI i]);obtain ⟨d,hde⟩: ∃d,d=ds.getD i default:=⟨_,rfl⟩;rw[← hde] at dok;have hdup:CX ds i=eU (fun k=>decide ((ds.getD k default).nm=d.nm)) i 0:=by rw[hde];rfl
 have hdup2:CV ds i=eU (fun k=>decide ((ds.getD k default).body=d.body)) i 0:=by rw[hde];rfl
 have hbd:dP bs.length ds i=if dc d.nm=false then 5 else if CX ds i=true then 6 else if ji d.body bs.length=false then 9 else if d.body=0 then 7 else if CV ds i=true then 6 else 0:=by rw[hde];rfl
 generalize dP bs.length ds i=E at *;refine qX 2 rfl ?_;refine qK 3 rfl ?_;refine ae.idx tok d.D rfl rfl rfl rfl (aj i) (by rw[hde];exact getM Driver.D hin) ?_;refine qU 3 rfl ?_;refine qI (qX 2 rfl ?_);refine ae.call tok rfl rfl rfl rfl (je d.nm dok) ?_;refine qU 1 rfl ?_;refine ae.nil ?_;refine AW.cond rfl (fun h=>?_) (fun h=>?_)
 · rw[if_pos (kl h)] at hbd;rw[hbd];refine qX 1 rfl ?_;exact qN rfl
 rw[if_neg (by simpa using h)] at hbd;refine AW.skip (AW.seq ?_);refine qX 1 rfl ?_;refine ae.nil ?_;refine AW.block ?_
 refine AW.aL [1,2,5,6] (fun k:Nat=>[(1,.d (dI i)),(2,.bx [dS ln,aJ bs,aH js,aI ds]),(5,.bx [dS d.nm,dI d.body]),(6,.d (dI k))])
  (fun k=>k≤i∧CX ds i=eU (fun k=>decide ((ds.getD k default).nm=d.nm)) (i-k) k) (fun k=>i-k) 0 rfl ⟨Nat.zero_le _,hdup⟩ (fun k ⟨hk,hD⟩=>?_)
 refine AW.seq (qX 3 rfl ?_);refine ae.nil ?_;refine AW.cond rfl (fun h=>?_) (fun h=>?_)
 · have hki:k<i:=by have:=aq h;omega
   refine AW.skip (AW.seq (AW.block (AW.seq ?_)));refine AW.draw aW 9 (by kernel_rfl) ?_;refine qP 3 rfl ?_;refine af.idx tok (ds.getD k default).D rfl rfl rfl rfl rfl (aj k) (getM Driver.D (by omega)) ?_;refine qP 5 rfl ?_;rw[lT];refine af.nil ?_;refine ae.nil ?_;refine AW.cond rfl (fun h=>?_) (fun h=>?_)
   · rw[hD.trans (fG hki h)] at hbd;rw[show E=6 from hbd];refine qX 1 rfl ?_;exact qN rfl
   · refine AW.skip (qT 3 rfl ?_);rw[aG (x:=(k:Int)+1) (by omega) (by omega)];refine ae.nil ?_;exact⟨k+1,rfl,⟨hki,hD.trans (eI hki h)⟩,by omega⟩
 have hki: ¬k<i:=by have:=ar h;omega
 rw[hD.trans (fH hki),if_neg (by decide)] at hbd;refine AW.exit (AW.seq ?_);refine qX 5 rfl ?_;rw[ah];refine ae.call tok rfl rfl rfl rfl (fK d.body bs.length) ?_;refine qU 1 rfl ?_;refine ae.nil ?_;refine AW.cond rfl (fun h=>?_) (fun h=>?_)
 · rw[if_pos (kl h)] at hbd;rw[hbd];refine qX 1 rfl ?_;exact qN rfl
 have hinb:ji d.body bs.length=true:=by simpa using h
 rw[if_neg (by simp[hinb])] at hbd;refine AW.skip (AW.seq ?_);refine qX 3 rfl ?_;refine ae.nil ?_;refine AW.cond rfl (fun h=>?_) (fun h=>?_)
 · rw[if_pos (by simpa using h)] at hbd;rw[hbd];refine qX 1 rfl ?_;exact qN rfl
 rw[if_neg (by simpa using h)] at hbd;refine AW.skip (AW.seq ?_);refine qX 1 rfl ?_;refine ae.nil ?_;refine AW.block ?_
 refine AW.aL [1,2,5,7] (fun k:Nat=>[(1,.d (dI i)),(2,.bx [dS ln,aJ bs,aH js,aI ds]),(5,.bx [dS d.nm,dI d.body]),(7,.d (dI k))])
  (fun k=>k≤i∧CV ds i=eU (fun k=>decide ((ds.getD k default).body=d.body)) (i-k) k) (fun k=>i-k) 0 rfl ⟨Nat.zero_le _,hdup2⟩ (fun k ⟨hk,hD⟩=>?_)
 refine AW.seq (qX 3 rfl ?_);refine ae.nil ?_;refine AW.cond rfl (fun h=>?_) (fun h=>?_)
 · have hki:k<i:=by have:=aq h;omega
   refine AW.skip (AW.seq (AW.block (AW.seq ?_)));refine AW.draw aW 9 (by kernel_rfl) ?_;refine qP 3 rfl ?_;refine af.idx tok (ds.getD k default).D rfl rfl rfl rfl rfl (aj k) (getM Driver.D (by omega)) ?_;refine qP 5 rfl ?_;refine af.nil ?_;refine ae.nil ?_;refine AW.cond rfl (fun h=>?_) (fun h=>?_)
   · have h':decide ((ds.getD k default).body=d.body)=true:=by simpa using h
     rw[hD.trans (fG hki h')] at hbd;rw[show E=6 from hbd];refine qX 1 rfl ?_;exact qN rfl
   · have h':decide ((ds.getD k default).body=d.body)=false:=by simpa using h
     refine AW.skip (qT 3 rfl ?_);rw[aG (x:=(k:Int)+1) (by omega) (by omega)];refine ae.nil ?_;exact⟨k+1,rfl,⟨hki,hD.trans (eI hki h')⟩,by omega⟩
 have hki: ¬k<i:=by have:=ar h;omega
 rw[hD.trans (fH hki),if_neg (by decide)] at hbd;rw[hbd];refine AW.exit ?_;refine qX 1 rfl ?_;exact qN rfl
theorem y7{n:Nat}(h:(((n:Nat):Int) != 0)=true):n≠0:=by rintro rfl;cases h
theorem CT{n:Nat}(h:(((n:Nat):Int) != 0)=false):n=0:=by
 have:((n:Nat):Int)=0:=by simpa using h
 omega
set_option maxHeartbeats 1600000 in
theorem yI(l:Lkg){K:Nat}(hl:l.ok K)(hK:K≤5000000):Pure Tryz.prog 15 [l.D] (dI (tD l:Nat)):=by
 refine qJ 59 Tryz.func15 rfl rfl rfl rfl (by kernel_rfl) (fun B F0 w0=>?_);have c1:=wK l hl (by omega);have c2:=fun i=>yH l i hl hK;have c3:=fun i=>wJ l i hl
 have hcd:tD l=if dc l.nm=false then 5 else if l.bodies=[] then 10 else if 8<l.bodies.length then 4 else
  if bL l.bodies≠0 then bL l.bodies else if bA l.bodies l.joints≠0 then bA l.bodies l.joints else il l.bodies.length l.drivers:=rfl
 generalize tD l=E at *;obtain ⟨ln,bs,js,ds⟩:=l;have hnm:=hl.nm;have hnb:=hl.nb;have hnj:=hl.nj;have hnd:=hl.nd;simp only[] at hcd c1 c2 c3 hnm hnb hnj hnd ⊢;unfold big at hnm hnb hnj hnd;show AW _ _ _ _ _ _ _ (eF 0 [D.ag [dS ln,aJ bs,aH js,aI ds]]);refine qX 2 rfl ?_;refine qI (qX 2 rfl ?_);refine ae.call tok rfl rfl rfl rfl (je ln hnm) ?_;refine qU 1 rfl ?_;refine ae.nil ?_;refine AW.cond rfl (fun h=>?_) (fun h=>?_)
 · rw[if_pos (kl h)] at hcd;rw[hcd];refine qX 1 rfl ?_;exact qN rfl
 rw[if_neg (by simpa using h)] at hcd;refine AW.skip (AW.seq ?_);refine qX 4 rfl ?_;rw[ah];refine ae.nil ?_;refine AW.cond rfl (fun h=>?_) (fun h=>?_)
 · have h0:bs=[]:=List.length_eq_zero_iff.1 (by have:(bs.length:Int)=0:=by simpa using h
                                                omega)
   rw[if_pos h0] at hcd;rw[hcd];refine qX 1 rfl ?_;exact qN rfl
 have h0:bs≠[]:=by rintro rfl;simp at h
 rw[if_neg h0] at hcd;refine AW.skip (AW.seq ?_);refine qX 4 rfl ?_;rw[ah];refine ae.nil ?_;refine AW.cond rfl (fun h=>?_) (fun h=>?_)
 · have h8:8<bs.length:=by have:=aq h;omega
   rw[if_pos h8] at hcd;rw[hcd];refine qX 1 rfl ?_;exact qN rfl
 have h8: ¬8<bs.length:=by have:=ar h;omega
 rw[if_neg h8] at hcd;refine AW.skip (AW.seq ?_);refine qX 1 rfl ?_;refine ae.call tok rfl rfl rfl rfl c1 ?_;refine qU 1 rfl ?_;refine qK 2 rfl ?_;refine ae.nil ?_;refine AW.cond rfl (fun h=>?_) (fun h=>?_)
 · rw[if_pos (y7 h)] at hcd;rw[hcd];refine qX 2 rfl ?_;exact qN rfl
 rw[if_neg (fun e=>e (CT h))] at hcd;refine AW.skip (AW.seq ?_);refine qX 4 rfl ?_;rw[ah];refine ae.nil ?_;refine AW.cond rfl (fun h=>?_) (fun h=>?_)
 · have h16:16<js.length:=by have:=aq h;omega
   have hje:bA bs js=4:=by rw[bA,if_pos h16]
   rw[hje,if_pos (by decide)] at hcd;rw[hcd];refine qX 1 rfl ?_;exact qN rfl
 have h16: ¬16<js.length:=by have:=ar h;omega
 have hje:bA bs js=fE (cY bs js) js.length 0:=by rw[bA,if_neg h16]
 refine AW.skip (AW.seq ?_);refine qX 1 rfl ?_;refine ae.nil ?_;refine AW.block ?_
 refine AW.aL [1,4] (fun i:Nat=>[(1,.bx [dS ln,aJ bs,aH js,aI ds]),(4,.d (dI i))])
  (fun i=>i≤js.length∧bA bs js=fE (cY bs js) (js.length-i) i) (fun i=>js.length-i) 0 rfl ⟨Nat.zero_le _,hje⟩ (fun i ⟨hi,hE⟩=>?_)
 refine AW.seq (qX 5 rfl ?_);rw[ah];refine ae.nil ?_;refine AW.cond rfl (fun h=>?_) (fun h=>?_)
 · have hin:i<js.length:=by have:=aq h;omega
   refine AW.skip (AW.seq (AW.block ?_));refine qX 2 rfl ?_;refine ae.call tok rfl rfl rfl rfl (c2 i hin) ?_;refine qU 1 rfl ?_;refine qK 2 rfl ?_;refine ae.nil ?_;refine AW.cond rfl (fun h=>?_) (fun h=>?_)
   · rw[hE.trans (eQ hin (y7 h)),if_pos (y7 h)] at hcd;rw[hcd];refine qX 2 rfl ?_;exact qN rfl
   · refine AW.skip (qT 3 rfl ?_);rw[aG (x:=(i:Int)+1) (by omega) (by omega)];refine ae.nil ?_;exact⟨i+1,rfl,⟨hin,hE.trans (cZ hin (CT h))⟩,by omega⟩
 have hin: ¬i<js.length:=by have:=ar h;omega
 rw[hE.trans (eS hin),if_neg (by decide)] at hcd;refine AW.exit (AW.seq ?_);refine qX 4 rfl ?_;rw[ah];refine ae.nil ?_;refine AW.cond rfl (fun h=>?_) (fun h=>?_)
 · have h2:2<ds.length:=by have:=aq h;omega
   rw[il,if_pos h2] at hcd;rw[hcd];refine qX 1 rfl ?_;exact qN rfl
 have h2: ¬2<ds.length:=by have:=ar h;omega
 rw[il,if_neg h2] at hcd;refine AW.skip (AW.seq ?_);refine qX 1 rfl ?_;refine ae.nil ?_;refine AW.block ?_
 refine AW.aL [1,6] (fun i:Nat=>[(1,.bx [dS ln,aJ bs,aH js,aI ds]),(6,.d (dI i))])
  (fun i=>i≤ds.length∧E=fE (dP bs.length ds) (ds.length-i) i) (fun i=>ds.length-i) 0 rfl ⟨Nat.zero_le _,hcd⟩ (fun i ⟨hi,hE⟩=>?_)
 refine AW.seq (qX 5 rfl ?_);rw[ah];refine ae.nil ?_;refine AW.cond rfl (fun h=>?_) (fun h=>?_)
 · have hin:i<ds.length:=by have:=aq h;omega
   refine AW.skip (AW.seq (AW.block ?_));refine qX 2 rfl ?_;refine ae.call tok rfl rfl rfl rfl (c3 i hin) ?_;refine qU 1 rfl ?_;refine qK 2 rfl ?_;refine ae.nil ?_;refine AW.cond rfl (fun h=>?_) (fun h=>?_)
   · rw[hE.trans (eQ hin (y7 h))];refine qX 2 rfl ?_;exact qN rfl
   · refine AW.skip (qT 3 rfl ?_);rw[aG (x:=(i:Int)+1) (by omega) (by omega)];refine ae.nil ?_;exact⟨i+1,rfl,⟨hin,hE.trans (cZ hin (CT h))⟩,by omega⟩
 have hin: ¬i<ds.length:=by have:=ar h;omega
 rw[hE.trans (eS hin)];refine AW.exit ?_;refine qX 1 rfl ?_;exact qN rfl
end Lift
namespace Lift
open Go Go.Proofs
def Gg(rt:List (List RD))(a:List RD):D:=if kt rt [a]≠0 then .tu [ao [],dI (kt rt [a])] else .tu [ao (kn (ay a)),dI 0]
theorem Cl{m:Nat}{rt:List (List RD)}{a:List RD}(T:pD m rt)(A:kz m rt a):Pure Tryz.prog 68 [wm rt,bG a] (Gg rt a):=by
 refine qJ 17 Tryz.func68 rfl rfl rfl rfl (by kernel_rfl) (fun B F0 w0=>?_);have ce:=AE T A;have hm:=T.m2;unfold Gg;refine qX 3 rfl ?_;refine qI (qX 2 rfl ?_);refine ae.pv tok rfl rfl rfl rfl rfl ?_;refine ae.call tok rfl rfl rfl rfl ce ?_;refine qU 1 rfl ?_;refine qK 2 rfl ?_;refine ae.nil ?_;by_cases e2:kt rt [a]=0;rotate_left
 · rw[if_pos e2,bne_iff_ne.2 (show ((kt rt [a]:Nat):Int)≠0 by omega)];refine AW.aC rfl ?_;refine qX 3 rfl ?_;exact qN rfl
 rw[if_neg (fun h=>h e2),bne_eq_false_iff_eq.2 (show ((kt rt [a]:Nat):Int)=0 by omega)];obtain ⟨k1,k2⟩:=zO e2;have h5:=(qO k1).1;obtain ⟨n1,n2,n3⟩:=jC T.m1 A k2;have nl:=n1.len (by omega);have cl:=sE (ay a) n2 (by omega) (by omega);have cs:=jP (aZ (ay a)) n1.minus h5;rw[← n3] at cl;refine AW.aD rfl ?_;refine AW.skip (qX 1 rfl ?_);refine ae.call tok rfl rfl rfl rfl cl ?_;refine ae.call tok rfl rfl rfl rfl cs ?_;refine qU 2 rfl ?_;exact qN rfl
theorem uL{m:Nat}{rt:List (List RD)}(p:gw)(T:pD m rt)(hp:p.ok m rt)(h0:dD rt=0):Pure Tryz.prog 38 [wm rt,p.D] (dI (xG rt p)):=by
 refine qJ 36 Tryz.func38 rfl rfl rfl rfl (by kernel_rfl) (fun B F0 w0=>?_)
 have hq: ∀k,k<4→ ∃q,[bG p.c,bG p.s,bG p.x,bG p.y][k]?=some (bG q)∧ES rt p k=bY rt.length q∧kz m rt q:=fun k hk=>by
  rcases k with _ | k
  · exact⟨p.c,rfl,rfl,hp.c⟩
  rcases k with _ | k
  · exact⟨p.s,rfl,rfl,hp.s⟩
  rcases k with _ | k
  · exact⟨p.x,rfl,rfl,hp.x⟩
  rcases k with _ | k
  · exact⟨p.y,rfl,rfl,hp.y⟩
  omega
 unfold xG;obtain ⟨E,hE⟩: ∃E,fE (ES rt p) (4-0) 0=E:=⟨_,rfl⟩;rw[hE];refine qX 3 rfl ?_;refine qK 8 rfl ?_;refine ae.pv tok rfl rfl rfl rfl rfl ?_;refine qU 1 rfl ?_;refine qI (qX 1 rfl ?_);refine ae.nil ?_;refine AW.block (AW.aL [2,5,6] (fun i:Nat=>[(2,.bx [.sl 1 (rt.map bG)]),(5,.d (.sl 1 [bG p.c,bG p.s,bG p.x,bG p.y])),(6,.d (dI i))]) (fun i=>i≤4∧fE (ES rt p) (4-i) i=E) (fun i=>4-i) 0 rfl ⟨Nat.zero_le _,hE⟩ (fun i ⟨hi,hiE⟩=>?_));refine AW.seq (qX 4 rfl ?_);refine ae.nil ?_;by_cases hii:i<4;rotate_left
 · rw[eS hii] at hiE;subst hiE;have:i=4:=by omega
   subst this;refine AW.aD rfl ?_;refine AW.exit ?_;refine qX 1 rfl ?_;exact qN rfl
 obtain ⟨q,hg,hgq,hqo⟩:=hq i hii;have cn:=Cl T hqo;have hmiss:=fun h0:ES rt p i=0=>(cZ hii h0).symm.trans hiE;have hhit:=fun h0:ES rt p i≠0=>(eQ hii h0).symm.trans hiE;unfold Gg at cn;rw[J1 h0] at cn;rw[hgq] at hmiss hhit;rw[show decide ((i:Int)<(([bG p.c,bG p.s,bG p.x,bG p.y]:List D).length:Int))=true from aO (by show (i:Int)<((4:Nat):Int);omega)];refine AW.aC rfl ?_;refine AW.skip (AW.seq (AW.block (AW.seq ?_)));by_cases hz:bY rt.length q=0;rotate_left
 · rw[if_pos hz] at cn;have:=hhit hz;subst this;refine AW.draw aW 10 (by kernel_rfl) ?_;refine qP 3 rfl ?_;refine af.idx tok (bG q) rfl rfl rfl rfl rfl (aj i) hg ?_;refine qP 1 rfl ?_;refine af.call tok rfl rfl rfl rfl rfl cn ?_;refine qP 4 rfl ?_;refine af.nil ?_;refine qU 1 rfl ?_;refine qK 2 rfl ?_;rw[bne_iff_ne.2 (show ((bY rt.length q:Nat):Int)≠0 by omega)];refine ae.nil ?_;refine AW.aC rfl ?_;refine qX 2 rfl ?_;exact qN rfl
 rw[if_neg (fun h=>h hz)] at cn;refine AW.draw aW 10 (by kernel_rfl) ?_;refine qP 3 rfl ?_;refine af.idx tok (bG q) rfl rfl rfl rfl rfl (aj i) hg ?_;refine qP 1 rfl ?_;refine af.call tok rfl rfl rfl rfl rfl cn ?_;refine qP 4 rfl ?_;refine af.nil ?_;refine qU 1 rfl ?_;refine qK 2 rfl ?_;refine ae.nil ?_;refine AW.aD rfl ?_;refine AW.skip (qT 2 rfl ?_);rw[aG (x:=(i:Int)+1) (by omega) (by omega)];refine qU 1 rfl ?_;refine ae.nil ?_;exact⟨i+1,rfl,⟨hii,hmiss hz⟩,by omega⟩
end Lift
namespace Lift
open Go Go.Proofs
theorem yG(l:Lkg)(a:Asm){K m:Nat}(hl:l.ok K)(hK:K≤5000000)(ha:a.ok m):Pure Tryz.prog 16 [l.D,a.D] (dI (fU l a)):=by
 refine qJ 45 Tryz.func16 rfl rfl rfl rfl (by kernel_rfl) (fun B0 F0 w0=>?_);have cM:=yI l hl hK;obtain ⟨m0,t1,t2,tw,tk⟩:=ha.t.t;have cT:=qd a.rt tw t1 ha.t.l ha.t.ll tk;have hal:=ha.l;have haT:=ha.t;have hab:=ha.b;unfold fU;obtain ⟨E,hE⟩: ∃E,fE (fun i=>xG a.rt (a.bodies.getD i default)) (a.bodies.length-0) 0=E:=⟨_,rfl⟩;rw[hE];generalize tD l=c1 at cM ⊢;obtain ⟨ln,lb,js,lds⟩:=l;obtain ⟨rt,bs,md⟩:=a;simp only[] at *;refine qX 3 rfl ?_;refine qI (qX 1 rfl ?_);refine ae.call tok rfl rfl rfl rfl cM ?_;refine qU 1 rfl ?_;refine qK 2 rfl ?_;refine ae.nil ?_;by_cases e1:c1=0;rotate_left
 · rw[if_pos e1,bne_iff_ne.2 (show ((c1:Nat):Int)≠0 by omega)];refine AW.aC rfl ?_;refine qX 2 rfl ?_;exact qN rfl
 rw[if_neg (fun h=>h e1),bne_eq_false_iff_eq.2 (show ((c1:Nat):Int)=0 by omega)];refine AW.aD rfl ?_;refine AW.skip (AW.seq ?_);refine qX 2 rfl ?_;refine ae.call tok rfl rfl rfl rfl cT ?_;refine qU 1 rfl ?_;refine qK 2 rfl ?_;refine ae.nil ?_;by_cases e2:dD rt=0;rotate_left
 · rw[if_pos e2,bne_iff_ne.2 (show ((dD rt:Nat):Int)≠0 by omega)];refine AW.aC rfl ?_;refine qX 2 rfl ?_;exact qN rfl
 rw[if_neg (fun h=>h e2),bne_eq_false_iff_eq.2 (show ((dD rt:Nat):Int)=0 by omega)];refine AW.aD rfl ?_;refine AW.skip (AW.seq ?_);refine qX 2 rfl ?_;refine qU 1 rfl ?_;rw[ah];refine qU 3 rfl ?_;rw[ah];refine qU 1 rfl ?_;refine ae.nil ?_;by_cases e3:bs.length=lb.length;rotate_left
 · rw[if_pos e3,bne_iff_ne.2 (show ((bs.length:Nat):Int)≠((lb.length:Nat):Int) by omega)];refine AW.aC rfl ?_;refine qX 1 rfl ?_;exact qN rfl
 rw[if_neg (fun h=>h e3),bne_eq_false_iff_eq.2 (show ((bs.length:Nat):Int)=((lb.length:Nat):Int) by omega)];refine AW.aD rfl ?_;refine AW.skip (AW.seq ?_);refine qX 1 rfl ?_;refine ae.nil ?_;refine AW.block (AW.aL [3,7] (fun i:Nat=>[(3,.bx [.sl 1 (rt.map bG),.sl 4 (bs.map gw.D),.sl 1 (md.map (fun n=>dI n))]),(7,.d (dI i))]) (fun i=>i≤bs.length∧fE (fun i=>xG rt (bs.getD i default)) (bs.length-i) i=E) (fun i=>bs.length-i) 0 rfl ⟨Nat.zero_le _,hE⟩ (fun i ⟨hi,hiE⟩=>?_));refine AW.seq (qX 4 rfl ?_);rw[ah];refine qU 1 rfl ?_;refine ae.nil ?_;refine AW.cond rfl (fun h=>?_) (fun h=>?_);rotate_left
 · have hii: ¬i<bs.length:=by have:=ar h;omega
   rw[eS hii] at hiE;subst hiE;refine AW.exit ?_;refine qX 1 rfl ?_;exact qN rfl
 have hii:i<bs.length:=by have:=aq h;omega
 have hg:=getM gw.D hii;have cn:=uL (bs.getD i default) haT (hab i hii) e2;have hmiss:=fun h0:xG rt (bs.getD i default)=0=>(cZ (f:=fun i=>xG rt (bs.getD i default)) hii h0).symm.trans hiE;have hhit:=fun h0:xG rt (bs.getD i default)≠0=>(eQ (f:=fun i=>xG rt (bs.getD i default)) hii h0).symm.trans hiE;generalize xG rt (bs.getD i default)=z at cn hmiss hhit;refine AW.skip (AW.seq (AW.block (AW.seq ?_)));refine AW.draw aW 8 (by kernel_rfl) ?_;refine qP 5 rfl ?_;refine af.idx tok (bs.getD i default).D rfl rfl rfl rfl rfl (aj i) hg ?_;refine qP 1 rfl ?_;refine af.call tok rfl rfl rfl rfl rfl cn ?_;refine af.nil ?_;refine qU 1 rfl ?_;refine qK 2 rfl ?_;refine ae.nil ?_;by_cases hz:z=0;rotate_left
 · have:=hhit hz;subst this;rw[bne_iff_ne.2 (show ((z:Nat):Int)≠0 by omega)];refine AW.aC rfl ?_;refine qX 2 rfl ?_;exact qN rfl
 rw[bne_eq_false_iff_eq.2 (show ((z:Nat):Int)=0 by omega)];refine AW.aD rfl ?_;refine AW.skip (qT 2 rfl ?_);rw[aG (x:=(i:Int)+1) (by omega) (by omega)];refine qU 1 rfl ?_;refine ae.nil ?_;exact⟨i+1,rfl,⟨hii,hmiss hz⟩,by omega⟩
end Lift
namespace Lift
open Go Go.Proofs
end Lift
namespace Lift
open Go Go.Proofs
abbrev AsD(v:List NQ)(bs:List gw)(md:List Int):D:= .ag [.sl 1 (v.map ao),.sl 4 (bs.map gw.D),.sl 1 (md.map (fun n=>dI n))]
theorem ER{r:List NQ}{b:Int}{n:Nat}(x y w:NQ)(hr:r.length=3*(n-1))(h:b<n)(h0:0≤b)(hn:0<n):(l3 r b x y w).length=3*(n-1):=by
 rw[qi x y w (fun _=>by omega)];exact hr
end Lift
namespace Lift
open Go Go.Proofs
end Lift
namespace Lift
open Go Go.Proofs
def sX(v:List NQ)(q:NQ):Prop:=au v.length q∧aB 300000 q
theorem ue(v:List NQ):sX v []:=⟨cy _,cG (by decide)⟩
theorem Er{P:NQ→Prop}{r:List NQ}(h: ∀q∈r,P q)(h0:P [])(k:Nat):P (r.getD k []):=by
 by_cases hk:k<r.length
 · rw[aN,b9 hk];exact h _ (List.getElem_mem hk)
 · rw[qG (by omega)];exact h0
theorem l0{P:NQ→Prop}{r:List NQ}{b:Int}{x y w:NQ}(h: ∀q∈r,P q)(hx:P x)(hy:P y)(hw:P w): ∀q∈l3 r b x y w,P q:=fun q hq=>by
 unfold l3 at hq;split at hq
 · rcases List.mem_append.1 hq with hq | hq
   · rcases List.mem_append.1 hq with hq | hq
     · exact h q (List.mem_of_mem_take hq)
     · simp only[List.mem_cons,List.not_mem_nil,or_false] at hq;rcases hq with rfl | rfl | rfl
       · exact hx
       · exact hy
       · exact hw
   · exact h q (List.mem_of_mem_drop hq)
 · exact h q hq
theorem Gf(v:List NQ)(n:Nat): ∀q∈ru n,sX v q:=fun q hq=>by
 rw[(List.mem_replicate.1 hq).2];exact ue v
def Lw(v:List NQ)(n:Nat)(r:List NQ):Prop:=r.length=3*(n-1)∧ ∀q∈r,sX v q
theorem lv{v:List NQ}{n:Nat}{r:List NQ}{b:Int}{x y w:NQ}(h:Lw v n r)(hb:0≤b∧b<n)(hn:0<n)(hx:sX v x)(hy:sX v y)(hw:sX v w):Lw v n (l3 r b x y w) :=
 ⟨ER x y w h.1 hb.2 hb.1 hn,l0 h.2 hx hy hw⟩
structure Fm (l:Lkg) (a:Asm):Prop where
 G:My l a
 V:jv 16 (a.rt.map ay)
 l2:(a.rt.map ay).length≤2
 X: ∀b p:Int,0≤b→b<l.bodies.length→0≤p→p<(l.bodies.getD b.toNat default).pts.length→(au (a.rt.map ay).length (tR (a.rt.map ay) l a b p)∧aB 1400 (tR (a.rt.map ay) l a b p))∧(au (a.rt.map ay).length (tQ (a.rt.map ay) l a b p)∧aB 1400 (tQ (a.rt.map ay) l a b p))
 P: ∀b:Int,0≤b→b<l.bodies.length→(a.bodies.map gw.D)[b.toNat]?=some (wS (a.bodies.getD b.toNat default)).D∧(wS (a.bodies.getD b.toNat default)).ok (a.rt.map ay).length 16
 D:a.D=AsD (a.rt.map ay) a.bodies a.modes
theorem Gt{l:Lkg}{a:Asm}(hl:l.ok 16)(ha:a.ok 16)(h2:a.rt.length≤2)(h:fU l a=0):Fm l a:=by
 have G:=Cr h;have V:=jv.of ha.t G.tw;have W:=su ha.t G.tw;have hvl:(a.rt.map ay).length≤2:=by rw[ah];exact h2
 have gP: ∀b:Int,0≤b→b<l.bodies.length→(a.bodies.map gw.D)[b.toNat]?=some (wS (a.bodies.getD b.toNat default)).D∧(wS (a.bodies.getD b.toNat default)).ok (a.rt.map ay).length 16:=fun b b0 b1=>by
  have hln:=G.ln;have hb:b.toNat<a.bodies.length:=by omega
  have h3:=Gu (by decide) (ha.b _ hb) (G.pl _ hb);rw[ah,← h3.2];exact⟨by simp[hb],h3.1⟩
 refine⟨G,V,hvl,fun b p b0 b1 p0 p1=>?_,gP,?_⟩
 · have hm:=(hl.b b.toNat).2.2 p.toNat;exact J3 V hvl (gP b b0 b1).2 (kU _ (cu hm.2.1 (by decide))) (kU _ (cu hm.2.2 (by decide)))
 · have:=W.eq;show D.ag [.sl 1 (a.rt.map bG),_,_]=D.ag [.sl 1 ((a.rt.map ay).map ao),_,_];rw[show a.rt.map bG=(a.rt.map ay).map ao by simpa using this]
theorem sX.of{v:List NQ}{q:NQ}{k:Nat}(h:au v.length q∧aB k q)(hk:k≤300000):sX v q:=⟨h.1,h.2.mono hk⟩
theorem CD{l:Lkg}{a:Asm}(O:Fm l a){j:bm}(J:No l.bodies j): ∀r∈DY (a.rt.map ay) l a j,Lw (a.rt.map ay) l.bodies.length r:=by
 have b1:=O.G.lk.b1;have l2:=O.l2;obtain ⟨x1,x2⟩:=O.X j.a j.pt J.a.1 J.a.2 J.pt.1 J.pt.2;obtain ⟨y1,y2⟩:=O.X j.b j.on J.b.1 J.b.2 J.on.1 J.on.2;have V:=O.V.mono (show 16≤3000 by decide) (by decide);have hz:Lw (a.rt.map ay) l.bodies.length (ru l.bodies.length):=⟨At _,Gf _ _⟩;have ja:=J.a;have jb:=J.b;have one:sX (a.rt.map ay) [1]:=⟨eW _ _,fX (by have:=gx;omega)⟩;have neg: ∀{q:NQ},sX (a.rt.map ay) q→sX (a.rt.map ay) (kn q):=fun h=>IM h.1 h.2;have nil:=ue (a.rt.map ay);unfold DY;intro r hr;split at hr
 · rename_i hk;obtain ⟨z1,z2⟩:=O.X j.b j.to J.b.1 J.b.2 (J.to (by omega)).1 (J.to (by omega)).2;rw[List.mem_singleton] at hr;subst hr;have q1:=kE y2.1 y2.2 z2.1 z2.2;have q2:=kE z1.1 z1.2 y1.1 y1.2;have hT:sT (a.rt.map ay).length 3000≤126009:=Nat.le_trans (tK l2) (by decide);have p1:=gi V q2.1 (q2.2.mono (by decide)) x1.1 (x1.2.mono (by decide));have p2:=gi V q1.1 (q1.2.mono (by decide)) x2.1 (x2.2.mono (by decide));have q3:=kE p1.1 (p1.2.mono hT) p2.1 (p2.2.mono hT);have e1:sX (a.rt.map ay) _:=sX.of q1 (by decide);have e2:sX (a.rt.map ay) _:=sX.of q2 (by decide);have e3:sX (a.rt.map ay) _:=sX.of q3 (by decide);exact lv (lv hz ja b1 e1 e2 e3) jb b1 (neg e1) (neg e2) (neg e3)
 · have e1:sX (a.rt.map ay) _:=sX.of x1 (by decide);have e2:sX (a.rt.map ay) _:=sX.of x2 (by decide);have e3:sX (a.rt.map ay) _:=sX.of y1 (by decide);have e4:sX (a.rt.map ay) _:=sX.of y2 (by decide);simp only[List.mem_cons,List.not_mem_nil,or_false] at hr;rcases hr with rfl | rfl
   · exact lv (lv hz ja b1 one nil (neg e2)) jb b1 (neg one) nil e4
   · exact lv (lv hz ja b1 nil one e1) jb b1 nil (neg one) (neg e3)
theorem xy{l:Lkg}{a:Asm}(O:Fm l a): ∀i,i≤l.joints.length→ ∀r∈iB (a.rt.map ay) l a i,Lw (a.rt.map ay) l.bodies.length r
 | 0,_,r,hr=>by cases hr
 | i+1,hi,r,hr=>by
   rcases List.mem_append.1 hr with h | h
   · exact xy O i (by omega) r h
   · exact CD O (O.G.lk.j i (by omega)) r h
theorem Cx{l:Lkg}{a:Asm}(O:Fm l a){i:Nat}(hi:i<(oF l a).length):Lw (a.rt.map ay) l.bodies.length ((oF l a).getD i []):=by
 rw[aN,b9 hi];exact xy O _ (ai _) _ (List.getElem_mem hi)
theorem GI{l:Lkg}{a:Asm}(O:Fm l a)(i k:Nat):sX (a.rt.map ay) (bk (oF l a) i k):=by
 unfold bk;by_cases hi:i<(oF l a).length
 · exact Er (Cx O hi).2 (ue _) k
 · rw[mb (by omega)];exact ue _
theorem KI{l:Lkg}{a:Asm}(O:Fm l a):(oF l a).length≤32:=by
 have h1:=rr (a.rt.map ay) l a l.joints.length;have h2:=O.G.lk.j16;unfold oF;omega
theorem y8{l:Lkg}{a:Asm}(O:Fm l a)(h:0<(oF l a).length):df (oF l a)=3*(l.bodies.length-1):=(Cx O h).1
theorem vi{l:Lkg}{a:Asm}(O:Fm l a):Jx (a.rt.map ay) (oF l a):=by
 refine⟨KI O,fun j hj=>?_,?_,fun i k=>(GI O i k).1⟩
 · rw[(Cx O hj).1,y8 O (by omega)]
 · by_cases h:0<(oF l a).length
   · rw[y8 O h];have:=O.G.lk.b8;omega
   · unfold df;rw[mb (by omega)];exact Nat.zero_le _
end Lift
namespace Lift
section
variable {K:Fd}
def sm{K:Fd}(n:Nat)(f:Nat→K.T):K.T:=match n with
 | 0=>0
 | n+1=>sm n f+f n
theorem fa{n:Nat}{f g:Nat→K.T}(h: ∀k,k<n→f k=g k):sm n f=sm n g:=by
 induction n with
 | zero=>rfl
 | succ n ih =>
   show sm n f+f n=sm n g+g n;rw[ih (fun k hk=>h k (by omega)),h n (by omega)]
theorem pX{n:Nat}{f:Nat→K.T}(h: ∀k,k<n→f k=0):sm n f=0:=by
 induction n with
 | zero=>rfl
 | succ n ih =>
   show sm n f+f n=0;rw[ih (fun k hk=>h k (by omega)),h n (by omega),Rg.add_zero]
theorem FU(n:Nat)(f g:Nat→K.T):sm n (fun k=>f k+g k)=sm n f+sm n g:=by
 induction n with
 | zero=>exact(Rg.add_zero _).symm
 | succ n ih =>
   show sm n _+(f n+g n)=sm n f+f n+(sm n g+g n);rw[ih];exact Rg.bI [sm n f,sm n g,f n,g n] (X0+X1+(X2+X3)) (X0+X2+(X1+X3)) rfl
theorem uD(n:Nat)(c:K.T)(f:Nat→K.T):sm n (fun k=>c*f k)=c*sm n f:=by
 induction n with
 | zero=>exact(Rg.mul_zero _).symm
 | succ n ih =>
   show sm n _+c*f n=c*(sm n f+f n);rw[ih,Rg.mul_add]
theorem Dr(n:Nat)(c:K.T)(f:Nat→K.T):sm n (fun k=>f k*c)=sm n f*c:=by
 rw[Rg.mul_comm,← uD];exact fa fun k _=>Rg.mul_comm _ _
theorem Kn(n:Nat)(f:Nat→K.T):sm n (fun k=> -f k)= -sm n f:=by
 induction n with
 | zero=>exact Rg.neg_zero.symm
 | succ n ih =>
   show sm n _+ -f n= -(sm n f+f n);rw[ih,Rg.neg_add]
theorem B5(n:Nat)(f g:Nat→K.T):sm n (fun k=>f k-g k)=sm n f-sm n g:=by
 rw[show (fun k=>f k-g k)=fun k=>f k+ -g k from rfl,FU,Kn];rfl
theorem yq{n j:Nat}{f:Nat→K.T}(hj:j<n)(h: ∀k,k<n→k≠j→f k=0):sm n f=f j:=by
 induction n with
 | zero=>omega
 | succ n ih =>
   show sm n f+f n=f j;by_cases e:j=n
   · subst e;rw[pX (fun k hk=>h k (by omega) (by omega)),Rg.zero_add]
   · rw[ih (by omega) (fun k hk hk2=>h k (by omega) hk2),h n (by omega) (fun g=>e g.symm),Rg.add_zero]
theorem Dt(m n:Nat)(f:Nat→Nat→K.T):sm m (fun i=>sm n (fun k=>f i k))=sm n (fun k=>sm m (fun i=>f i k)):=by
 induction m with
 | zero=>exact(pX (fun k _=>rfl)).symm
 | succ m ih =>
   show sm m _+sm n (fun k=>f m k)=sm n (fun k=>sm m (fun i=>f i k)+f m k);rw[ih,FU]
def sk(j k:Nat):Nat:=if k<j then k else k+1
theorem LC(j k:Nat):sk j k≠j:=by unfold sk;split<;>omega
theorem LD{j k n:Nat}(h:k<n):sk j k<n+1:=by unfold sk;split<;>omega
theorem Iq{n j:Nat}(f:Nat→K.T)(hj:j<n+1):sm (n+1) f=sm n (fun k=>f (sk j k))+f j:=by
 induction n with
 | zero =>
   obtain rfl:j=0:=by omega
   rfl
 | succ n ih =>
   show sm (n+1) f+f (n+1)=sm n (fun k=>f (sk j k))+f (sk j n)+f j;by_cases e:j=n+1
   · subst e;have:sk (n+1) n=n:=by unfold sk;rw[if_pos (by omega)]
     rw[this];show sm n f+f n+f (n+1)=_
     rw[show sm n (fun k=>f (sk (n+1) k))=sm n f from fa fun k hk=>by
      show f (sk (n+1) k)=f k
      unfold sk;rw[if_pos (by omega)]]
   · have:sk j n=n+1:=by unfold sk;rw[if_neg (by omega)]
     rw[ih (by omega),this];exact Rg.bI [sm n (fun k=>f (sk j k)),f j,f (n+1)] (X0+X1+X2) (X0+X2+X1) rfl
theorem B6: ∀(s r:Nat) (R:Nat→Nat→K.T),s<r→ ∃x:Nat→K.T,(∃k,k<r∧x k≠0)∧ ∀p,p<s→sm r (fun k=>R p k*x k)=0
 | 0,r,R,h=>⟨fun _=>1,⟨0,h,Fd.Cs⟩,fun p hp=>by omega⟩
 | s+1,r,R,h=>by
   by_cases hz: ∀k,k<r→R s k=0
   · obtain ⟨x,h1,h2⟩:=B6 s r R (by omega);refine⟨x,h1,fun p hp=>?_⟩;by_cases e:p=s
     · subst e;exact pX fun k hk=>by rw[hz k hk,Rg.zero_mul]
     · exact h2 p (by omega)
   · obtain ⟨j,hj⟩:=Classical.not_forall.1 hz;obtain ⟨hj,hne⟩:=Classical.not_imp.1 hj;obtain ⟨n,rfl⟩: ∃n,r=n+1:=⟨r-1,by omega⟩;obtain ⟨y,⟨k0,hk0,hy0⟩,hy⟩:=B6 s n (fun p k=>R p (sk j k) -R p j*K.inv (R s j)*R s (sk j k)) (by omega)
     have back: ∀k,k≠j→sk j (if k<j then k else k-1)=k:=fun k hk=>by
      unfold sk;by_cases c:k<j
      · rw[if_pos c,if_pos c]
      · rw[if_neg c,if_neg (by omega)];omega
     let x:Nat→K.T:=fun k=>if k=j then -(K.inv (R s j)*sm n (fun k=>R s (sk j k)*y k)) else y (if k<j then k else k-1)
     have xj:x j= -(K.inv (R s j)*sm n (fun k=>R s (sk j k)*y k)):=if_pos rfl
     have xs: ∀k,x (sk j k)=y k:=fun k=>by
      show (if sk j k=j then _ else _)=_;rw[if_neg (LC j k)];unfold sk;by_cases c:k<j
      · rw[if_pos c,if_pos c]
      · rw[if_neg c,if_neg (by omega)];rfl
     refine⟨x,⟨sk j k0,LD hk0,by rw[xs];exact hy0⟩,fun p hp=>?_⟩;rw[Iq _ hj,xj,show sm n (fun k=>R p (sk j k)*x (sk j k))=sm n (fun k=>R p (sk j k)*y k) from fa fun k _=>by rw[xs]];by_cases e:p=s
     · subst e;generalize sm n (fun k=>R p (sk j k)*y k)=S;have h1:=Fd.qq hne;rw[show S+R p j* -(K.inv (R p j)*S)=S-R p j*K.inv (R p j)*S from Rg.bI [S,R p j,K.inv (R p j)] (X0+X1* -(X2*X0)) (X0-X1*X2*X0) rfl,h1,Rg.one_mul];exact Rg.sub_self S
     · have h1:=hy p (by omega)
       rw[show (fun k=>(R p (sk j k) -R p j*K.inv (R s j)*R s (sk j k))*y k)=fun k=>R p (sk j k)*y k-R p j*K.inv (R s j)*(R s (sk j k)*y k) from funext fun k =>
        Rg.bI [R p (sk j k),R p j,K.inv (R s j),R s (sk j k),y k] ((X0-X1*X2*X3)*X4) (X0*X4-X1*X2*(X3*X4)) rfl,B5,uD] at h1
       rw[← h1];exact Rg.bI [sm n (fun k=>R p (sk j k)*y k),R p j,K.inv (R s j),sm n (fun k=>R s (sk j k)*y k)] (X0+X1* -(X2*X3)) (X0-X1*X2*X3) rfl
abbrev Mk(K:Fd):=Nat→Nat→K.T
def Dg(m n s:Nat)(A:Mk K):Prop:= ∃(L R:Mk K),∀i k,i<m→k<n→A i k=sm s (fun p=>L i p*R p k)
theorem Dg.Lz{m n s:Nat}{A:Mk K}(h:Dg m n s A):Dg n m s (fun i k=>A k i):=by
 obtain ⟨L,R,h⟩:=h
 exact⟨fun i p=>R p i,fun p k=>L k p,fun i k hi hk=>by
  show A k i=_
  rw[h k i hk hi];exact fa fun p _=>Rg.mul_comm _ _⟩
theorem Dg.congr{m n s:Nat}{A B:Mk K}(h:Dg m n s A)(he: ∀i k,i<m→k<n→A i k=B i k):Dg m n s B:=by
 obtain ⟨L,R,h⟩:=h;exact⟨L,R,fun i k hi hk=>by rw[← he i k hi hk];exact h i k hi hk⟩
theorem Ir{s t:Nat}(h:s≤t)(f:Nat→K.T):sm t (fun p=>if p<s then f p else 0)=sm s f:=by
 induction t with
 | zero =>
   obtain rfl:s=0:=by omega
   rfl
 | succ t ih =>
   show sm t _+(if t<s then f t else 0)=sm s f;by_cases e:s=t+1
   · subst e;rw[if_pos (by omega)];show _=sm t f+f t;rw[show sm t (fun p=>if p<t+1 then f p else 0)=sm t f from fa fun p hp=>if_pos (by omega)]
   · rw[if_neg (by omega),Rg.add_zero,ih (by omega)]
theorem Dg.more{m n s t:Nat}{A:Mk K}(h:Dg m n s A)(hs:s≤t):Dg m n t A:=by
 obtain ⟨L,R,h⟩:=h;refine⟨L,fun p k=>if p<s then R p k else 0,fun i k hi hk=>?_⟩;rw[h i k hi hk,← Ir hs]
 exact fa fun p _=>by
  show (if p<s then L i p*R p k else 0)=L i p*(if p<s then R p k else 0);split
  · rfl
  · exact(Rg.mul_zero _).symm
theorem Dg.ge{m n s r:Nat}{A:Mk K}(h:Dg m n s A)(c:Nat→Nat)(hc: ∀p,p<r→c p<n)(hi: ∀x:Nat→K.T,(∀i,i<m→sm r (fun p=>A i (c p)*x p)=0)→ ∀p,p<r→x p=0):r≤s:=by
 by_cases hrs:r≤s
 · exact hrs
 exfalso;obtain ⟨L,R,h⟩:=h;obtain ⟨x,⟨k,hk,hx⟩,h0⟩:=B6 s r (fun p k=>R p (c k)) (by omega);refine hx (hi x (fun i him=>?_) k hk)
 rw[show sm r (fun p=>A i (c p)*x p)=sm r (fun p=>sm s (fun q=>L i q*(R q (c p)*x p))) from fa fun p hp=>by
  rw[h i (c p) him (hc p hp),← Dr]
  exact fa fun q _=>Rg.mul_assoc _ _ _,Dt]
 exact pX fun q hq=>by rw[uD,h0 q hq,Rg.mul_zero]
end
end Lift
namespace Lift
section
variable {K:Fd}
structure RI (m N c:Nat) (A M:Mk K) (cols:List Nat):Prop where
 cN:c≤N
 eqv: ∀x:Nat→K.T,(∀i,i<m→sm N (fun k=>A i k*x k)=0)↔(∀i,i<m→sm N (fun k=>M i k*x k)=0)
 lt: ∀p,p<cols.length→cols.getD p 0<c
 rm:cols.length≤m
 IE: ∀p q,p<cols.length→q<m→M q (cols.getD p 0)=if q=p then 1 else 0
 zr: ∀q k,cols.length≤q→q<m→k<c→M q k=0
 asc: ∀p q,p<q→q<cols.length→cols.getD p 0<cols.getD q 0
 left: ∀p k,p<cols.length→k<cols.getD p 0→M p k=0
def sw(r t i:Nat):Nat:=if i=r then t else if i=t then r else i
theorem JA(r t i:Nat):sw r t (sw r t i)=i:=by
 unfold sw;by_cases h1:i=r
 · subst h1;rw[if_pos rfl];by_cases h2:t=i
   · rw[if_pos h2,h2]
   · rw[if_neg h2,if_pos rfl]
 · rw[if_neg h1];by_cases h2:i=t
   · subst h2;rw[if_pos rfl,if_pos rfl]
   · rw[if_neg h2,if_neg h1,if_neg h2]
theorem Ki(r t:Nat):sw r t r=t:=if_pos rfl
theorem Dp{r t i m:Nat}(hr:r<m)(ht:t<m)(hi:i<m):sw r t i<m:=by unfold sw;split;exact ht;split;exact hr;exact hi
theorem JB{r t i:Nat}(ht:r≤t)(hi:r≤i):r≤sw r t i:=by unfold sw;split;exact ht;split;exact ai _;exact hi
theorem BX{r t i:Nat}(ht:r≤t)(hi:i<r):sw r t i=i:=by unfold sw;rw[if_neg (by omega),if_neg (by omega)]
theorem tX(l:List Nat)(c:Nat):(l++[c]).getD l.length 0=c:=by
 rw[aN,List.getElem?_append_right (ai _),Nat.sub_self];rfl
theorem rS{l:List Nat}{p:Nat}(c:Nat)(h:p<l.length):(l++[c]).getD p 0=l.getD p 0:=by
 rw[aN,List.getElem?_append_left h,aN]
theorem RI.start(m N:Nat)(A:Mk K):RI m N 0 A A [] :=
 ⟨Nat.zero_le _,fun x=>Iff.rfl,fun p hp=>absurd hp (Nat.not_lt_zero _),Nat.zero_le _,fun p q hp=>absurd hp (Nat.not_lt_zero _),fun q k _ _ hk=>absurd hk (Nat.not_lt_zero _),fun p q _ hq=>absurd hq (Nat.not_lt_zero _),fun p k hp=>absurd hp (Nat.not_lt_zero _)⟩
theorem RI.M3{m N c:Nat}{A M:Mk K}{cols:List Nat}(I:RI m N c A M cols)(hc:c<N)(h: ∀q,cols.length≤q→q<m→M q c=0):RI m N (c+1) A M cols :=
 ⟨hc,I.eqv,fun p hp=>Nat.lt_succ_of_lt (I.lt p hp),I.rm,I.IE,fun q k h1 h2 h3=>by
  by_cases e:k=c
  · subst e;exact h q h1 h2
  · exact I.zr q k h1 h2 (by omega),I.asc,I.left⟩
theorem RI.hit{m N c t:Nat}{A M M':Mk K}{cols:List Nat}(I:RI m N c A M cols)(hc:c<N)(h1:cols.length≤t)(h2:t<m)(h3:M t c≠0)
  (h4: ∀i k,i<m→k<N→M' i k=if i=cols.length then M t k*K.inv (M t c) else M (sw cols.length t i) k-M (sw cols.length t i) c*(M t k*K.inv (M t c))):RI m N (c+1) A M' (cols++[c]):=by
 have hrm:cols.length<m:=by omega
 have hp1:=Fd.qq h3;have hinv:=Fd.KM h3;have hll:(cols++[c]).length=cols.length+1:=by rw[List.length_append];rfl
 have hBt: ∀k,k<c→M t k=0:=fun k hk=>I.zr t k h1 h2 hk;have hBl: ∀p,p<cols.length→M t (cols.getD p 0)=0:=fun p hp=>hBt _ (I.lt p hp)
 have hcc: ∀q,q<m→M' q c=if q=cols.length then 1 else 0:=fun q hq=>by
  rw[h4 q c hq hc];split
  · exact hp1
  · rw[hp1,Rg.mul_one];exact Rg.sub_self _
 have dot: ∀(x:Nat→K.T) i,i<m→sm N (fun k=>M' i k*x k)=if i=cols.length then sm N (fun k=>M t k*x k)*K.inv (M t c) else sm N (fun k=>M (sw cols.length t i) k*x k) -M (sw cols.length t i) c*K.inv (M t c)*sm N (fun k=>M t k*x k):=fun x i hi=>by
  by_cases e:i=cols.length
  · rw[if_pos e,← Dr]
    exact fa fun k hk=>by
     rw[h4 i k hi hk,if_pos e];exact Rg.bI [M t k,K.inv (M t c),x k] (X0*X1*X2) (X0*X2*X1) rfl
  · rw[if_neg e,← uD,← B5]
    exact fa fun k hk=>by
     rw[h4 i k hi hk,if_neg e];exact Rg.bI [M (sw cols.length t i) k,M (sw cols.length t i) c,M t k,K.inv (M t c),x k] ((X0-X1*(X2*X3))*X4) (X0*X4-X1*X3*(X2*X4)) rfl
 refine⟨hc,fun x=>(I.eqv x).trans ⟨fun h i hi=>?_,fun h=>?_⟩,fun p hp=>?_,by omega,fun p q hp hq=>?_,fun q k k1 k2 k3=>?_,fun p q hpq hq=>?_,fun p k hp hk=>?_⟩
 · rw[dot x i hi,h t h2,h _ (Dp hrm h2 hi)];split
   · exact Rg.zero_mul _
   · rw[Rg.mul_zero];exact Rg.sub_self _
 · have ht:sm N (fun k=>M t k*x k)=0:=by
    have:=h cols.length hrm;rw[dot x _ hrm,if_pos rfl] at this;rcases Fd.LY this with e | e
    · exact e
    · exact absurd e hinv
   intro i hi;have hs:=Dp hrm h2 hi;by_cases e:sw cols.length t i=cols.length
   · have:i=t:=by rw[← JA cols.length t i,e];exact Ki _ _
     rw[this];exact ht
   · have:=h _ hs;rw[dot x _ hs,if_neg e,JA,ht,Rg.mul_zero] at this;rw[← this];exact Rg.bI [sm N (fun k=>M i k*x k)] X0 (X0-0) rfl
 · rw[hll] at hp;by_cases e:p=cols.length
   · rw[e,tX];omega
   · rw[rS c (by omega)];have:=I.lt p (by omega);omega
 · rw[hll] at hp;by_cases e:p=cols.length
   · rw[e,tX];exact hcc q hq
   · have hp:p<cols.length:=by omega
     have hpc:=I.lt p hp;rw[rS c hp,h4 q _ hq (by omega),hBl p hp];by_cases eq:q=cols.length
     · rw[if_pos eq,Rg.zero_mul,if_neg (by omega)]
     · rw[if_neg eq,I.IE p _ hp (Dp hrm h2 hq),Rg.zero_mul,Rg.mul_zero]
       have:(sw cols.length t q=p)↔(q=p):=by
        constructor
        · intro h;by_cases g:q<cols.length
          · rwa [BX h1 g] at h
          · have:=JB h1 (show cols.length≤q by omega);omega
        · intro h;rw[h];exact BX h1 hp
       by_cases g:q=p
       · rw[if_pos g,if_pos (this.2 g)];exact Rg.bI [] (1-0) 1 rfl
       · rw[if_neg g,if_neg (fun h=>g (this.1 h))];exact Rg.sub_self _
 · rw[hll] at k1;by_cases e:k=c
   · rw[e,hcc q k2,if_neg (by omega)]
   · rw[h4 q k k2 (by omega),if_neg (by omega),hBt k (by omega),I.zr _ k (JB h1 (by omega)) (Dp hrm h2 k2) (by omega),Rg.zero_mul,Rg.mul_zero];exact Rg.sub_self _
 · rw[hll] at hq;by_cases e:q=cols.length
   · rw[e,tX,rS c (by omega)];exact I.lt p (by omega)
   · rw[rS c (by omega),rS c (by omega)];exact I.asc p q hpq (by omega)
 · rw[hll] at hp;by_cases e:p=cols.length
   · rw[e,tX] at hk;rw[e,h4 _ k hrm (by omega),if_pos rfl,hBt k hk,Rg.zero_mul]
   · have hp:p<cols.length:=by omega
     have hpc:=I.lt p hp;rw[rS c hp] at hk;rw[h4 p k (by omega) (by omega),if_neg e,BX h1 hp,I.left p k hp hk,hBt k (by omega),Rg.zero_mul,Rg.mul_zero];exact Rg.sub_self _
theorem RI.at{m N c:Nat}{A M:Mk K}{cols:List Nat}(I:RI m N c A M cols)(X y:Nat→K.T):sm N (fun j=>X j*sm cols.length (fun p=>if j=cols.getD p 0 then y p else 0))=sm cols.length (fun p=>X (cols.getD p 0)*y p):=by
 have hcN:=I.cN;rw[show sm N (fun j=>X j*sm cols.length (fun p=>if j=cols.getD p 0 then y p else 0))=sm N (fun j=>sm cols.length (fun p=>X j*(if j=cols.getD p 0 then y p else 0))) from fa fun j _=>(uD _ _ _).symm,Dt];refine fa fun p hp=>?_;have:=I.lt p hp;rw[yq (j:=cols.getD p 0) (by omega) (fun k _ hk=>by rw[if_neg hk,Rg.mul_zero]),if_pos rfl]
theorem RI.indep{m N c:Nat}{A M:Mk K}{cols:List Nat}(I:RI m N c A M cols)(x:Nat→K.T)(h: ∀i,i<m→sm cols.length (fun p=>A i (cols.getD p 0)*x p)=0): ∀p,p<cols.length→x p=0:=fun q hq=>by
 have h1:=(I.eqv (fun j=>sm cols.length (fun p=>if j=cols.getD p 0 then x p else 0))).1 (fun i hi=>by rw[I.at (A i) x];exact h i hi) q (by have:=I.rm;omega);rw[I.at (M q) x,yq (j:=q) hq (fun p hp hne=>by rw[I.IE p q hp (by have:=I.rm;omega),if_neg (fun e=>hne e.symm),Rg.zero_mul]),I.IE q q hq (by have:=I.rm;omega),if_pos rfl,Rg.one_mul] at h1;exact h1
theorem RI.by{m N c:Nat}{A M:Mk K}{cols:List Nat}(I:RI m N c A M cols){k:Nat}(hk:k<c){i:Nat}(hi:i<m):A i k=sm cols.length (fun p=>A i (cols.getD p 0)*M p k):=by
 have hcN:=I.cN;have hrm:=I.rm
 have key: ∀X:Nat→K.T,sm N (fun j=>X j*((if j=k then 1 else 0) -sm cols.length (fun p=>if j=cols.getD p 0 then M p k else 0)))=X k-sm cols.length (fun p=>X (cols.getD p 0)*M p k):=fun X=>by
  rw[← I.at X (fun p=>M p k),show (fun j=>X j*((if j=k then 1 else 0) -sm cols.length (fun p=>if j=cols.getD p 0 then M p k else 0)))=fun j=>X j*(if j=k then 1 else 0) -X j*sm cols.length (fun p=>if j=cols.getD p 0 then M p k else 0) from funext fun j =>
   Rg.bI [X j,(if j=k then 1 else 0),sm cols.length (fun p=>if j=cols.getD p 0 then M p k else 0)] (X0*(X1-X2)) (X0*X1-X0*X2) rfl,B5]
  congr 1
  rw[yq (j:=k) (by omega) (fun j _ hj=>by rw[if_neg hj,Rg.mul_zero]),if_pos rfl,Rg.mul_one]
 have h:=(I.eqv (fun j=>(if j=k then 1 else 0) -sm cols.length (fun p=>if j=cols.getD p 0 then M p k else 0))).2 (fun q hq=>by
  rw[key (M q)];by_cases e:q<cols.length
  · rw[yq (j:=q) e (fun p hp hne=>by rw[I.IE p q hp hq,if_neg (fun e=>hne e.symm),Rg.zero_mul]),I.IE q q e hq,if_pos rfl,Rg.one_mul];exact Rg.sub_self _
  · rw[I.zr q k (by omega) hq hk,pX fun p hp=>by rw[I.IE p q hp hq,if_neg (by omega),Rg.zero_mul]]
    exact Rg.sub_self _) i hi
 rw[key (A i)] at h;exact Rg.xU h
theorem RI.fac{m N c s:Nat}{A M:Mk K}{cols:List Nat}(I:RI m N c A M cols):Dg m c s A↔cols.length≤s:=by
 constructor
 · intro h;exact h.ge (fun p=>cols.getD p 0) I.lt I.indep
 · intro h;exact Dg.more ⟨fun i p=>A i (cols.getD p 0),M,fun i k hi hk=>I.by hk hi⟩ h
end
end Lift
namespace Lift
def vM{v:List NQ}(F:FV v)(a:dW):Mk F.K:=fun i k=>F.val (bk a i k)
theorem x4(v:List NQ)(e:dW)(r c:Nat): ∀n i,i<n→n≤e.length→(dw v e r c n).getD i []=if i≠r∧q7 v (bk e i c)≠0 then mS v (e.getD i []) (e.getD r []) (bk e i c) else e.getD i []
 | 0,i,hi,_=>absurd hi (Nat.not_lt_zero i)
 | n+1,i,hi,hn=>by
   by_cases e1:i=n
   · subst e1;unfold dw;rw[zM];split
     · rw[eG,if_pos ⟨rfl,by rw[jr];omega⟩,im v e r c i i (.inl (ai _)),im v e r c i r (.inr rfl)]
     · exact im v e r c i i (.inl (ai _))
   · have ih:=x4 v e r c n i (by omega) (by omega);rw[← ih]
     conv=>lhs;unfold dw
     split
     · rw[eG,if_neg (fun h=>e1 h.1)]
     · rfl
theorem C9{v:List NQ}{s:jJ}{c i:Nat}(h1:s.cols.length≤atR v s c)(h:atR v s c<s.rows.length)(hi:i<s.rows.length):(bR v s c).getD i []=s.rows.getD (sw s.cols.length (atR v s c) i) []:=by
 unfold bR;split
 · rename_i e;rw[e];unfold sw;by_cases g:i=s.cols.length
   · rw[if_pos g,g]
   · rw[if_neg g,if_neg g]
 · unfold FN sw;rw[eG,eG];by_cases g:i=s.cols.length
   · rw[if_pos ⟨g,by rw[List.length_set];omega⟩,if_pos g]
   · rw[if_neg (fun h=>g h.1),if_neg g];by_cases g2:i=atR v s c
     · rw[if_pos ⟨g2,h⟩,if_pos g2]
     · rw[if_neg (fun h=>g2 h.1),if_neg g2]
theorem FT{v:List NQ}(V:pB v)(F:FV v){m N c:Nat}{s:jJ}(R:oM v m N c s)(hc:c<N)(h:atR v s c<s.rows.length):
  vM F s.rows (atR v s c) c≠0∧ ∀i k,i<m→k<N→vM F (dw v (eR v s c) s.cols.length c (eR v s c).length) i k=if i=s.cols.length then vM F s.rows (atR v s c) k*F.K.inv (vM F s.rows (atR v s c) c) else vM F s.rows (sw s.cols.length (atR v s c) i) k-vM F s.rows (sw s.cols.length (atR v s c) i) c*(vM F s.rows (atR v s c) k*F.K.inv (vM F s.rows (atR v s c) c)):=by
 have hl:=R.len;obtain ⟨a1,a2,a3,a4⟩:=fi v s c (by have:=R.cm;omega);have hz:=a4 h;obtain ⟨b1,b2,b3⟩:=qV (c:=c) R h;obtain ⟨e1,e2,e3⟩:=xW V (c:=c) R h;have hrm:s.cols.length<m:=by omega
 have eB: ∀i k,i<m→bk (bR v s c) i k=bk s.rows (sw s.cols.length (atR v s c) i) k:=fun i k hi=>by
  unfold bk;rw[C9 a1 h (by omega)]
 have hp:pR v s c=bk s.rows (atR v s c) c:=by
  unfold pR;rw[eB _ _ hrm,Ki]
 have hpz:q7 v (pR v s c)≠0:=by rw[hp];exact hz
 have eE: ∀i k,i<m→k<N→bk (eR v s c) i k=if i=s.cols.length then wW v (bk s.rows (atR v s c) k) (bk s.rows (atR v s c) c) else bk s.rows (sw s.cols.length (atR v s c) i) k:=fun i k hi hk=>by
  unfold bk eR;rw[eG];by_cases e:i=s.cols.length
  · rw[if_pos ⟨e,by omega⟩,if_pos e,tS _ _ _ (by rw[b2 _ (by omega)];exact hk),hp,C9 a1 h (by omega),Ki];rfl
  · rw[if_neg (fun h=>e h.1),if_neg e,C9 a1 h (by omega)]
 have ltR:=R.lt
 have vE: ∀i k,i<m→k<N→F.val (bk (eR v s c) i k)=if i=s.cols.length then vM F s.rows (atR v s c) k*F.K.inv (vM F s.rows (atR v s c) c) else vM F s.rows (sw s.cols.length (atR v s c) i) k:=fun i k hi hk=>by
  rw[eE i k hi hk];by_cases e:i=s.cols.length
  · rw[if_pos e,if_pos e,F.div (ltR _ _) (ltR _ _) hz];rfl
  · rw[if_neg e,if_neg e];rfl
 refine⟨fun e=>hz ((F.sg (ltR _ _)).2 e),fun i k hi hk=>?_⟩;have hd:=x4 v (eR v s c) s.cols.length c (eR v s c).length i (by omega) (ai _);show F.val (((dw v (eR v s c) s.cols.length c (eR v s c).length).getD i []).getD k [])=_;rw[hd];by_cases e:i=s.cols.length
 · rw[if_neg (fun h=>h.1 e),if_pos e];have:=vE i k hi hk;rw[if_pos e] at this;exact this
 · rw[if_neg e];have v1:=vE i k hi hk;have v2:=vE i c hi hc;have v3:=vE s.cols.length k hrm hk;rw[if_neg e] at v1 v2;rw[if_pos rfl] at v3;by_cases g:q7 v (bk (eR v s c) i c)=0
   · rw[if_neg (fun h=>h.2 g)];have z:=(F.sg (e3 i c)).1 g;rw[v2] at z;rw[z,Rg.zero_mul];show F.val (bk (eR v s c) i k)=_;rw[v1];exact(Rg.bI [vM F s.rows (sw s.cols.length (atR v s c) i) k] (X0-0) X0 rfl).symm
   · rw[if_pos ⟨e,g⟩,nP v _ _ _ (by rw[e2 i (by omega)];exact hk)];show F.val (gm (bk (eR v s c) i k) (fN v (bk (eR v s c) i c) (bk (eR v s c) s.cols.length k)))=_;rw[F.sub (e3 i k) (ib V (e3 i c) (e3 _ k)),F.mul (e3 i c) (e3 _ k)];show F.val (bk (eR v s c) i k) -F.val (bk (eR v s c) i c)*F.val (bk (eR v s c) s.cols.length k)=_;rw[v1,v2,v3]
theorem Cj{v:List NQ}(V:pB v)(F:FV v){a:dW}{N:Nat}(hr:dy N a)(hl:qY v.length a): ∀c,c≤N→RI a.length N c (vM F a) (vM F (aE v a c).rows) (aE v a c).cols
 | 0,_=>RI.start a.length N (vM F a)
 | c+1,hc=>by
   have I:=Cj V F hr hl c (by omega);have R:=kT V hr hl c;have hlen:=R.len;obtain ⟨a1,a2,a3,a4⟩:=fi v (aE v a c) c (by have:=R.cm;omega);show RI a.length N (c+1) (vM F a) (vM F (cL v (aE v a c) c).rows) (cL v (aE v a c) c).cols;unfold cL;by_cases h:atR v (aE v a c) c<(aE v a c).rows.length
   · rw[if_pos h];obtain ⟨h3,h4⟩:=FT V F R (by omega) h;exact I.hit (by omega) a1 (by omega) h3 h4
   · rw[if_neg h];exact I.M3 (by omega) fun q h1 h2=>(F.sg (R.lt q c)).1 (a3 q h1 (by omega))
theorem dy.take{N:Nat}{a:dW}(h:dy N a)(n:Nat):dy N (a.take n):=fun j hj=>by
 rw[bg] at hj;rw[aN,List.getElem?_take,if_pos (by omega),← aN];exact h j (by omega)
theorem Ja{a:dW}{n j:Nat}(hj:j<n):(a.take n).getD j []=a.getD j []:=by
 rw[aN,List.getElem?_take,if_pos hj,← aN]
theorem vG{a:dW}{n j:Nat}(hj:j<n)(k:Nat):bk (a.take n) j k=bk a j k:=by
 unfold bk;rw[Ja hj]
theorem qY.take{l:Nat}{a:dW}(h:qY l a)(n:Nat):qY l (a.take n):=fun j k=>by
 by_cases hj:j<n
 · rw[vG hj];exact h j k
 · unfold bk;rw[mb (by rw[bg];omega)];exact cy l
theorem EP{m0:Nat}{v:List NQ}(V:jv m0 v){a b:dW}{N n:Nat}(ha:dy N a)(la:qY v.length a)(hb:dy a.length b)(lb:qY v.length b)(hbN:b.length=N)(hab: ∀i k,i<a.length→k<N→bk b k i=bk a i k)(hn:n≤a.length):
  (aE v b n).cols.length=(aE v (a.take n) N).cols.length:=by
 obtain ⟨F⟩:=L9 V;have I1:=Cj V.a F hb lb n hn;have I2:=Cj V.a F (ha.take n) (la.take n) N (ai N);have hl:(a.take n).length=n:=by rw[bg];omega
 rw[hl] at I2;rw[hbN] at I1
 have key: ∀s,Dg N n s (vM F b)↔Dg n N s (vM F (a.take n)):=fun s=>by
  constructor
  · intro h;refine h.Lz.congr fun i k hi hk=>?_;show F.val (bk b k i)=F.val (bk (a.take n) i k);rw[hab i k (by omega) hk,vG hi]
  · intro h;refine h.Lz.congr fun k i hk hi=>?_;show F.val (bk (a.take n) i k)=F.val (bk b k i);rw[hab i k (by omega) hk,vG hi]
 have h1:=fun s=>(I1.fac (s:=s)).symm.trans ((key s).trans I2.fac);exact Nat.le_antisymm ((h1 _).2 (ai _)) ((h1 _).1 (ai _))
end Lift
namespace Lift
def mO(a:dW):dW:=(List.range (df a)).map fun k=>a.map fun r=>r.getD k []
theorem rh(a:dW):(mO a).length=df a:=by unfold mO;rw[ah,List.length_range]
theorem w9(a:dW){k:Nat}(h:k<df a):(mO a).getD k []=a.map fun r=>r.getD k []:=by
 unfold mO;rw[aN,List.getElem?_map,List.getElem?_range h];rfl
theorem Jn(a:dW)(k i:Nat):(a.map fun r=>r.getD k []).getD i []=bk a i k:=by
 unfold bk;rw[aN,List.getElem?_map,aN (l:=a)];cases a[i]? with
 | none=>exact(qG (Nat.zero_le k)).symm
 | some r=>rfl
theorem Ae(a:dW){i k:Nat}(h:k<df a):bk (mO a) k i=bk a i k:=by
 show ((mO a).getD k []).getD i []=_;rw[w9 a h];exact Jn a k i
theorem BU(a:dW):dy a.length (mO a):=fun k hk=>by
 rw[rh] at hk;rw[w9 a hk,ah]
theorem EB{p:NQ→Prop}(h0:p []){a:dW}(h: ∀i k,p (bk a i k)): ∀i k,p (bk (mO a) i k):=fun k i=>by
 by_cases hk:k<df a
 · rw[Ae a hk];exact h i k
 · unfold bk;rw[mb (by rw[rh];omega)];exact h0
theorem FC{l:Nat}{a:dW}(h:qY l a):qY l (mO a):=EB (p:=au l) (cy l) h
theorem Aw(v:List NQ)(a:dW)(c:Nat):(aE v a (c+1)).cols=(aE v a c).cols++[c]∨(aE v a (c+1)).cols=(aE v a c).cols:=by
 show (cL v (aE v a c) c).cols=(aE v a c).cols++[c]∨(cL v (aE v a c) c).cols=(aE v a c).cols;unfold cL;split
 · exact .inl rfl
 · exact .inr rfl
theorem Gq{m0:Nat}{v:List NQ}(V:jv m0 v){a:dW}(G:Jx v a){n:Nat}(hn:n≤a.length):(aE v (mO a) n).cols.length=(aE v (a.take n) (df a)).cols.length :=
 EP V G.r G.lt (BU a) (FC G.lt) (rh a) (fun i k _ hk=>Ae a hk) hn
theorem Iy{v:List NQ}(V:pB v){a:dW}(G:Jx v a):(p7 v a).cols.length≤a.length∧(p7 v a).cols.length≤df a :=
 ⟨(kT V G.r G.lt (df a)).cm,(kT V G.r G.lt (df a)).cl⟩
end Lift
namespace Lift
open Go Go.Proofs
theorem pd: ∀{r:List RD},(∀x∈r,a7 x.n∧a7 x.d)→ ∃D:QR.T,D≠0∧bZ.Z (jM r+1) D∧CZ (jM r+1) D (ay r)
 | [],_=>⟨1,sd,J7,CZ.nil _ _⟩
 | x::r,h=>by
   obtain ⟨D,d0,dz,hD⟩:=pd (r:=r) (fun y hy=>h y (List.mem_cons_of_mem _ hy));obtain ⟨wn,wd⟩:=h x (List.mem_cons_self ..);have ew:jM (x::r)=x.n.length+x.d.length+jM r:=rfl
   have tail: ∀{t:QR.T},bZ.Z x.d.length t→ ∀i,bZ.Z (jM (x::r)+1) (cq (cf (ay r) i)*(D*t)):=fun {t} ht i=>by
    rw[← Rg.mul_assoc];exact cD (bu (hD i) ht) (by omega)
   by_cases hv:x.val=0
   · refine⟨D,d0,cD dz (by omega),fun i=>?_⟩;cases i with
     | zero =>
       show bZ.Z _ (cq x.val*D);rw[hv];show bZ.Z _ ((0:QR.T)*D);rw[Rg.zero_mul];exact z0 _
     | succ i=>exact cD (hD i) (by omega)
   · have hok:x.okB=true:=by
      cases hb:x.okB with
      | true=>rfl
      | false=>exact absurd (RD.tI hb) hv
     have hn:x.n≠[]:=fun e=>hv (RD.nN e);obtain ⟨p1,p2,_⟩:=RD.parts (k:=x.n.length+x.d.length) ⟨wn,wd,by omega,by omega⟩ hok hn
     have zt:bZ.Z x.d.length (cq (((x.val.den:Int):Rat))):=⟨(x.val.den:Int),rfl,by
      rw[Int.natAbs_natCast,p2];exact db wd⟩
     have zx:bZ.Z x.n.length (cq x.val*cq (((x.val.den:Int):Rat))):=⟨x.val.num,DS x.val,by
      rw[p1,nS];exact db wn⟩
     have t0:cq (((x.val.den:Int):Rat))≠0:=tZ x.val;refine⟨D*cq (((x.val.den:Int):Rat)),cQ d0 t0,cD (bu dz zt) (by omega),fun i=>?_⟩;cases i with
     | zero =>
       show bZ.Z _ (cq x.val*(D*cq (((x.val.den:Int):Rat))));rw[show cq x.val*(D*cq (((x.val.den:Int):Rat)))=cq x.val*cq (((x.val.den:Int):Rat))*D from Rg.bI [cq x.val,D,cq (((x.val.den:Int):Rat))] (X0*(X1*X2)) (X0*X2*X1) rfl];exact cD (bu zx dz) (by omega)
     | succ i=>exact tail zt i
structure Fi (l:Lkg) (a:Asm):Prop where
 r2:a.rt.length≤2
 nb6:l.bodies.length≤6∨8<l.bodies.length
 n:H5 l a+4*a.rt.length≤16
theorem Et.s{l:Lkg}{a:Asm}(S:Et l a):Fi l a:=⟨S.r2,S.nb6,S.n⟩
theorem Fi.pt{l:Lkg}{a:Asm}(S:Fi l a){i k:Nat}(hi:i<l.bodies.length)(hk:k<(l.bodies.getD i default).pts.length):zf ((l.bodies.getD i default).pts.getD k default)+4*a.rt.length≤16:=by
 have h1:=HN l.bodies hi hk;have h2:=zb (fun i=>dY (a.rt.getD i [])) (qS l.bodies l.bodies.length) a.rt.length;have h3:=qj a.bodies (rI (fun i=>dY (a.rt.getD i [])) (qS l.bodies l.bodies.length) a.rt.length) a.bodies.length;have h4:=S.n;unfold H5 at h4;omega
theorem Fi.root{l:Lkg}{a:Asm}(S:Fi l a){i:Nat}(hi:i<a.rt.length):jM (a.rt.getD i [])+4*a.rt.length≤16:=by
 have h2:=y9 (fun i=>dY (a.rt.getD i [])) (qS l.bodies l.bodies.length) hi;have h3:=qj a.bodies (rI (fun i=>dY (a.rt.getD i [])) (qS l.bodies l.bodies.length) a.rt.length) a.bodies.length;have h4:=S.n;unfold H5 at h4;have h5:dY (a.rt.getD i [])+4*a.rt.length≤16:=by omega
 rw[fY (by omega)] at h5;exact h5
theorem Fi.pl{l:Lkg}{a:Asm}(S:Fi l a){i:Nat}(hi:i<a.bodies.length):jM (a.bodies.getD i default).c+4*a.rt.length≤16∧jM (a.bodies.getD i default).s+4*a.rt.length≤16∧jM (a.bodies.getD i default).x+4*a.rt.length≤16∧jM (a.bodies.getD i default).y+4*a.rt.length≤16:=by
 obtain ⟨h1,h2,h3,h4⟩:=yM a.bodies (rI (fun i=>dY (a.rt.getD i [])) (qS l.bodies l.bodies.length) a.rt.length) hi;have h5:=S.n;unfold H5 at h5;rw[← fY (r:=(a.bodies.getD i default).c) (by omega),← fY (r:=(a.bodies.getD i default).s) (by omega),← fY (r:=(a.bodies.getD i default).x) (by omega),← fY (r:=(a.bodies.getD i default).y) (by omega)];omega
def Li(r:List NQ):Prop:= ∃D:QR.T,D≠0∧bZ.Z 200 D∧ ∀q∈r,CZ 200 D q
theorem GG{r:List RD}(h:tF r): ∀x∈r,a7 x.n∧a7 x.d:=fun x hx=>by
 obtain ⟨i,hi,rfl⟩:=List.getElem_of_mem hx;have:=h.2 i;rw[aN,b9 hi] at this;exact⟨this.1,this.2.1⟩
section
variable {l:Lkg} {a:Asm} (S:Fi l a) (O:Fm l a) (hl:l.ok 16) (ha:AsB a)
include S O hl ha
omit O hl in
theorem LF:Nn (17-4*a.rt.length) (a.rt.map ay):=fun j hj=>by
 rw[ah] at hj;have h1:=S.root hj
 have hg:(a.rt.map ay).getD j []=ay (a.rt.getD j []):=by
  rw[aN,List.getElem?_map,aN,b9 hj];rfl
 obtain ⟨D,d0,dz,hD⟩:=pd (GG (ha.r j));rw[hg];exact⟨D,d0,cD dz (by omega),hD.mono (by omega)⟩
theorem Eo(b:Int)(b0:0≤b)(b1:b<l.bodies.length): ∃DB:QR.T,DB≠0∧bZ.Z (4*(17-4*a.rt.length)) DB∧ ∀p:Int,0≤p→p<(l.bodies.getD b.toNat default).pts.length→ ∃t:QR.T,t≠0∧bZ.Z (17-4*a.rt.length) t ∧
  CZ (5*(17-4*a.rt.length)+2) (DB*t) (tR (a.rt.map ay) l a b p)∧CZ (5*(17-4*a.rt.length)+2) (DB*t) (tQ (a.rt.map ay) l a b p):=by
 have hb:b.toNat<a.bodies.length:=by have:=O.G.ln;omega
 obtain ⟨w1,w2,w3,w4⟩:=S.pl hb;have P:=(O.P b b0 b1).2;obtain ⟨Dc,c0,cz,hc⟩:=pd (GG (ha.c b.toNat));obtain ⟨Ds,s0,sz,hs⟩:=pd (GG (ha.s b.toNat));obtain ⟨Dx,x0,xz,hx⟩:=pd (GG (ha.x b.toNat));obtain ⟨Dy,y0,yz,hy⟩:=pd (GG (ha.y b.toNat));obtain ⟨u,hu⟩: ∃u,u=17-4*a.rt.length:=⟨_,rfl⟩;rw[← hu];have cz:bZ.Z u Dc:=cD cz (by omega);have sz:bZ.Z u Ds:=cD sz (by omega);have xz:bZ.Z u Dx:=cD xz (by omega);have yz:bZ.Z u Dy:=cD yz (by omega);have hc:CZ u Dc (wS (a.bodies.getD b.toNat default)).c:=gQ.mono hc (by omega);have hs:CZ u Ds (wS (a.bodies.getD b.toNat default)).s:=gQ.mono hs (by omega);have hx:CZ u Dx (wS (a.bodies.getD b.toNat default)).x:=gQ.mono hx (by omega);have hy:CZ u Dy (wS (a.bodies.getD b.toNat default)).y:=gQ.mono hy (by omega);refine⟨Dc*Ds*(Dx*Dy),cQ (cQ c0 s0) (cQ x0 y0),cD (bu (bu cz sz) (bu xz yz)) (by omega),fun p p0 p1=>?_⟩;have hbl:b.toNat<l.bodies.length:=by omega
 have hm:=(hl.b b.toNat).2.2 p.toNat;have hw:=S.pt hbl (show p.toNat<_ by omega);generalize hmk:(l.bodies.getD b.toNat default).pts.getD p.toNat default=mk at hm hw
 obtain ⟨t,t0,tz,ht⟩:=pd (r:=[mk.x,mk.y]) (fun y hy=>by
  simp only[List.mem_cons,List.not_mem_nil,or_false] at hy;rcases hy with rfl | rfl
  · exact⟨hm.2.1.1,hm.2.1.2.1⟩
  · exact⟨hm.2.2.1,hm.2.2.2.1⟩)
 have ew:jM [mk.x,mk.y]=zf mk:=by
  show mk.x.n.length+mk.x.d.length+(mk.y.n.length+mk.y.d.length+0)=mk.x.n.length+mk.x.d.length+mk.y.n.length+mk.y.d.length;omega
 rw[ew] at tz ht;have tz:bZ.Z u t:=cD tz (by omega);have tx:bZ.Z u (cq mk.x.val*t):=cD (ht 0) (by omega);have ty:bZ.Z u (cq mk.y.val*t):=cD (ht 1) (by omega);refine⟨t,t0,tz,?_⟩;have V:=O.V
 have eX:tR (a.rt.map ay) l a b p=Lu (a.rt.map ay) (wS (a.bodies.getD b.toNat default)) (rF mk.x.val) (rF mk.y.val):=by
  unfold tR;rw[hmk]
 have eY:tQ (a.rt.map ay) l a b p=Lt (a.rt.map ay) (wS (a.bodies.getD b.toNat default)) (rF mk.x.val) (rF mk.y.val):=by
  unfold tQ;rw[hmk]
 rw[eX,eY];have lx:=(kU (a.rt.map ay).length (q:=mk.x.val) (ai _)).1;have ly:=(kU (a.rt.map ay).length (q:=mk.y.val) (ai _)).1;generalize wS (a.bodies.getD b.toNat default)=pl at *;have pc:=P.c.1;have ps:=P.s.1;have px:=P.x.1;have py:=P.y.1
 have e1: ∀{x:NQ},CZ (u+u) (Dc*t) x→CZ (5*u) (Dc*Ds*(Dx*Dy)*t) x:=fun {x} h=>by
  have:=gQ.scale h (bu sz (bu xz yz));rw[show Dc*t*(Ds*(Dx*Dy))=Dc*Ds*(Dx*Dy)*t from Rg.bI [Dc,t,Ds,Dx,Dy] (X0*X1*(X2*(X3*X4))) (X0*X2*(X3*X4)*X1) rfl] at this;exact gQ.mono this (by omega)
 have e2: ∀{x:NQ},CZ (u+u) (Ds*t) x→CZ (5*u) (Dc*Ds*(Dx*Dy)*t) x:=fun {x} h=>by
  have:=gQ.scale h (bu cz (bu xz yz));rw[show Ds*t*(Dc*(Dx*Dy))=Dc*Ds*(Dx*Dy)*t from Rg.bI [Dc,t,Ds,Dx,Dy] (X2*X1*(X0*(X3*X4))) (X0*X2*(X3*X4)*X1) rfl] at this;exact gQ.mono this (by omega)
 have e3:CZ (5*u) (Dc*Ds*(Dx*Dy)*t) pl.x:=by
  have:=gQ.scale hx (bu (bu cz sz) (bu yz tz));rw[show Dx*(Dc*Ds*(Dy*t))=Dc*Ds*(Dx*Dy)*t from Rg.bI [Dc,t,Ds,Dx,Dy] (X3*(X0*X2*(X4*X1))) (X0*X2*(X3*X4)*X1) rfl] at this;exact gQ.mono this (by omega)
 have e4:CZ (5*u) (Dc*Ds*(Dx*Dy)*t) pl.y:=by
  have:=gQ.scale hy (bu (bu cz sz) (bu xz tz));rw[show Dy*(Dc*Ds*(Dx*t))=Dc*Ds*(Dx*Dy)*t from Rg.bI [Dc,t,Ds,Dx,Dy] (X4*(X0*X2*(X3*X1))) (X0*X2*(X3*X4)*X1) rfl] at this;exact gQ.mono this (by omega)
 have m1:=e1 (CZ.IS V pc tx hc);have m2:=e2 (CZ.IS V ps ty hs);have m3:=e2 (CZ.IS V ps tx hs);have m4:=e1 (CZ.IS V pc ty hc);have n1:=ib V.a pc lx;have n2:=ib V.a ps ly;have n3:=ib V.a ps lx;have n4:=ib V.a pc ly;have addL: ∀{x y:NQ},au (a.rt.map ay).length x→au (a.rt.map ay).length y→au (a.rt.map ay).length (v5 x y):=fun hx hy=>bV (hx.plus hy);exact⟨CZ.add (pW n1 n2) px (CZ.sub n1 n2 m1 m2) (gQ.mono e3 (by omega)),CZ.add (addL n3 n4) py (CZ.add n3 n4 m3 m4) (gQ.mono e4 (by omega))⟩
theorem GX{j:bm}(J:No l.bodies j): ∀r∈DY (a.rt.map ay) l a j,Li r:=by
 have hr2:=S.r2;have V:=O.V;obtain ⟨ρ,ρ0,ρz,hmul⟩:=CZ.mul V (LF S ha);obtain ⟨DA,A0,Az,hA⟩:=Eo S O hl ha j.a J.a.1 J.a.2;obtain ⟨DB,B0,Bz,hB⟩:=Eo S O hl ha j.b J.b.1 J.b.2;obtain ⟨tp,p0,pz,px,py⟩:=hA j.pt J.pt.1 J.pt.2;obtain ⟨tq,q0,qz,qx,qy⟩:=hB j.on J.on.1 J.on.2;obtain ⟨x1,x2⟩:=O.X j.a j.pt J.a.1 J.a.2 J.pt.1 J.pt.2;obtain ⟨y1,y2⟩:=O.X j.b j.on J.b.1 J.b.2 J.on.1 J.on.2;have hvl:(a.rt.map ay).length=a.rt.length:=ah ..;obtain ⟨R,hR⟩: ∃R,R=Rl (17-4*a.rt.length) (a.rt.map ay).length:=⟨_,rfl⟩
 have hb:11*(17-4*a.rt.length)+6+R≤200:=by
  rw[hR,hvl];generalize a.rt.length=k at hr2
  match k,hr2 with
  | 0,_=>decide
  | 1,_=>decide
  | 2,_=>decide
 rw[← hR] at ρz hmul;clear hR;generalize 17-4*a.rt.length=u at *;have z1: ∀{D:QR.T} {X:Nat},CZ X D []:=fun {D X}=>CZ.nil X D;unfold DY;intro r hr;split at hr
 · rename_i hk;obtain ⟨tr,r0,rz,rx,ry⟩:=hB j.to (J.to (by omega)).1 (J.to (by omega)).2;obtain ⟨w1,w2⟩:=O.X j.b j.to J.b.1 J.b.2 (J.to (by omega)).1 (J.to (by omega)).2;rw[List.mem_singleton] at hr;subst hr;generalize tR (a.rt.map ay) l a j.a j.pt=PX at *;generalize tQ (a.rt.map ay) l a j.a j.pt=PY at *;generalize tR (a.rt.map ay) l a j.b j.on=QX at *;generalize tQ (a.rt.map ay) l a j.b j.on=QY at *;generalize tR (a.rt.map ay) l a j.b j.to=RX at *;generalize tQ (a.rt.map ay) l a j.b j.to=RY at *;have up: ∀{x:NQ},CZ (5*u+2) (DB*tq) x→CZ (6*u+2) (DB*tq*tr) x:=fun h=>gQ.mono (gQ.scale h rz) (by omega)
   have up': ∀{x:NQ},CZ (5*u+2) (DB*tr) x→CZ (6*u+2) (DB*tq*tr) x:=fun {x} h=>by
    have:=gQ.scale h qz;rw[show DB*tr*tq=DB*tq*tr from Rg.bI [DB,tr,tq] (X0*X1*X2) (X0*X2*X1) rfl] at this;exact gQ.mono this (by omega)
   have ny:=CZ.sub y2.1 w2.1 (up qy) (up' ry);have nx:=CZ.sub w1.1 y1.1 (up' rx) (up qx);have ly:=pW (l:=(a.rt.map ay).length) y2.1 w2.1;have lx:=pW (l:=(a.rt.map ay).length) w1.1 y1.1;have m1:=hmul _ _ _ _ _ _ lx x1.1 nx px;have m2:=hmul _ _ _ _ _ _ ly x2.1 ny py;have lm1:=ib V.a lx x1.1;have lm2:=ib V.a ly x2.1;have w:=CZ.sub lm1 lm2 m1 m2
   have sc: ∀{x:NQ},CZ (6*u+2+1) (DB*tq*tr) x→CZ 200 (DB*tq*tr*(DA*tp)*ρ) x:=fun {x} h=>by
    have:=gQ.scale h (bu (bu Az pz) ρz);rw[show DB*tq*tr*(DA*tp*ρ)=DB*tq*tr*(DA*tp)*ρ from (Rg.mul_assoc _ _ _).symm] at this;exact gQ.mono this (by omega)
   have c1:=sc ny;have c2:=sc nx;have c3:CZ 200 (DB*tq*tr*(DA*tp)*ρ) _:=gQ.mono w (by omega);refine⟨DB*tq*tr*(DA*tp)*ρ,cQ (cQ (cQ (cQ B0 q0) r0) (cQ A0 p0)) ρ0,cD (bu (bu (bu (bu Bz qz) rz) (bu Az pz)) ρz) (by omega),?_⟩;refine l0 (l0 (fun q hq=>?_) c1 c2 c3) (CZ.neg ly c1) (CZ.neg lx c2) (CZ.neg (pW lm1 lm2) c3);rw[(List.mem_replicate.1 hq).2];exact z1
 · generalize tR (a.rt.map ay) l a j.a j.pt=PX at *;generalize tQ (a.rt.map ay) l a j.a j.pt=PY at *;generalize tR (a.rt.map ay) l a j.b j.on=QX at *;generalize tQ (a.rt.map ay) l a j.b j.on=QY at *;have zD:bZ.Z (5*u+5*u) (DA*tp*(DB*tq)):=cD (bu (bu Az pz) (bu Bz qz)) (by omega);have zA:bZ.Z (5*u) (DA*tp):=cD (bu Az pz) (by omega);have zB:bZ.Z (5*u) (DB*tq):=cD (bu Bz qz) (by omega);have hD0:DA*tp*(DB*tq)≠0:=cQ (cQ A0 p0) (cQ B0 q0);have sp: ∀{x:NQ},CZ (5*u+2) (DA*tp) x→CZ 200 (DA*tp*(DB*tq)) x:=fun h=>gQ.mono (gQ.scale h zB) (by omega);have sq: ∀{x:NQ},CZ (5*u+2) (DB*tq) x→CZ 200 (DA*tp*(DB*tq)) x:=fun h=>gQ.mono (gQ.Ks h zA) (by omega);have o1:CZ 200 (DA*tp*(DB*tq)) [1]:=CZ.one (cD zD (by omega))
   have zr: ∀q∈ru l.bodies.length,CZ 200 (DA*tp*(DB*tq)) q:=fun q hq=>by
    rw[(List.mem_replicate.1 hq).2];exact z1
   have lone:=eW (a.rt.map ay).length 1;simp only[List.mem_cons,List.not_mem_nil,or_false] at hr;rcases hr with rfl | rfl
   · exact⟨_,hD0,cD zD (by omega),l0 (l0 zr o1 z1 (CZ.neg x2.1 (sp py))) (CZ.neg lone o1) z1 (sq qy)⟩
   · exact⟨_,hD0,cD zD (by omega),l0 (l0 zr z1 o1 (sp px)) z1 (CZ.neg lone o1) (CZ.neg y1.1 (sq qx))⟩
theorem DF: ∀i,i≤l.joints.length→ ∀r∈iB (a.rt.map ay) l a i,Li r
 | 0,_,r,hr=>by cases hr
 | i+1,hi,r,hr=>by
   rcases List.mem_append.1 hr with h | h
   · exact DF i (by omega) r h
   · exact GX S O hl ha (O.G.lk.j i (by omega)) r h
theorem LW{i:Nat}(hi:i<(oF l a).length): ∃D:QR.T,D≠0∧bZ.Z 200 D∧ ∀j,CZ 200 D (bk (oF l a) i j):=by
 have h:Li ((oF l a).getD i []):=by
  rw[aN,b9 hi];exact DF S O hl ha _ (ai _) _ (List.getElem_mem hi)
 obtain ⟨D,d0,dz,hD⟩:=h;exact⟨D,d0,dz,fun j=>Er hD (CZ.nil _ _) j⟩
theorem IQ(N:Nat):zU 200 200 N (fun _=>1) (oF l a):=by
 refine⟨fun i hi=>?_,fun j _=>⟨cD J7 (by decide),sd⟩⟩;obtain ⟨D,d0,dz,hD⟩:=LW S O hl ha hi;exact⟨D,d0,dz,fun j _ k=>by rw[Rg.mul_one];exact hD j k⟩
end
end Lift
namespace Lift
open Go Go.Proofs
end Lift
namespace Lift
open Go Go.Proofs
end Lift
namespace Lift
open Go Go.Proofs
theorem Hs{v:List NQ}(hrt:cK v)(hp:oO v){l j:Nat}{s:NQ}(hj:j≤l)(hl:l<v.length)(hsl:s.length=2^(j+1))(h:aY v (l+1) (cf s)≠0)(hN:aY v j (bo v j (cf s))=0):aY v l (cf (aX (s.take (s.length / 2)) (s.take (s.length / 2))))≠0:=by
 obtain ⟨e1,e2,e3⟩:=bC hsl;have ex:jL j (cf (s.take (s.length / 2))) (cf s):=eT _ e3;have ls:bN (j+1) (cf s):=aT (by omega);have lx:bN j (cf (s.take (s.length / 2))):=aT (by omega);obtain ⟨Tj⟩:=Kf hp j (by omega);have hdj:=hp j (by omega)
 let T:=s5 Tj hdj
 rw[bK v ls (by omega)] at h
 have hT:Tj.R.sgn (OR.nr (Tj.of (cf (v.getD j []))) (T.of (cf s)))=aY v j (bo v j (cf s)):=by
  rw[← Tj.sgn]
  congr 1
  show Tj.of (cf s)*Tj.of (cf s) -Tj.of (bB j (cf s))*Tj.of (bB j (cf s))*Tj.of (cf (v.getD j []))=Tj.of (bo v j (cf s));rw[← Tj.mul,← Tj.mul,← Tj.mul,← Tj.sub];rfl
 have cxx:cf (aX (s.take (s.length / 2)) (s.take (s.length / 2)))=fun i=>cf (s.take (s.length / 2)) i+cf (s.take (s.length / 2)) i:=funext fun i=>dR _ _ i
 have lxx:bN j (cf (aX (s.take (s.length / 2)) (s.take (s.length / 2)))):=by
  rw[cxx];exact fun i hi=>by
   show _+_=(0:Rat);rw[lx i hi];exact Rat.add_zero 0
 have hes:T.R.sgn (T.of (cf s))≠0:=by rw[T.sgn];exact h
 have F:=OR.Ed (R:=Tj.R) (d:=Tj.of (cf (v.getD j []))) (by rw[Tj.sgn];exact hdj) hes (by
  have h5:=hT;rw[hN] at h5;exact h5)
 rw[bK v lxx hj,← Tj.sgn,cxx,Tj.add,Tj.cong _ _ ex];exact F.2
theorem xt{v:List NQ}{l:Nat}{a:NQ}(ha:au l a)(h:aY v l (cf a)≠0):(aA a).length≠0:=fun e=>by
 have:=bb ha;rw[List.length_eq_zero_iff.1 e] at this;rw[← this] at h;exact h (dF v l)
end Lift
namespace Lift
end Lift
namespace Lift
theorem yT{l k m r:Nat}{R:NQ→NQ→NQ}{O:NQ→NQ→Prop}{rt:List NQ}{a b:NQ}(ha:au l a)(hb:au l b)(hab:b.length≤a.length)(hrt:cK rt)(hl:l≤rt.length)(sa:aB k a)(sb:aB m b)(sr:dh r rt)(hk:tT r l (k+m)≤17300000000000)
  (hR: ∀l',l=l'+1→ ∀a' b' k' m',au l' a'→au l' b'→aB k' a'→aB m' b'→tT r l' (k'+m')≤17300000000000→O a' b'∧au l' (R a' b')∧aB (tT r l' (k'+m')) (R a' b')):LN R O rt a b:=by
 have h2:=pU r l (k+m);refine⟨sa.mono (by omega),sb.mono (by omega),fun h1 hza hzb=>?_⟩;have hb0:0<b.length:=List.length_pos_iff.2 (jX hzb);have ha0:0<a.length:=List.length_pos_iff.2 (jX hza)
 obtain ⟨i,hi,hla⟩: ∃i,i≤l∧a.length=2^i:=by
  rcases ha with e | e
  · omega
  · exact e
 have vy:i≠0:=fun e=>h1 (by rw[hla,e]);obtain ⟨j,rfl⟩: ∃j,i=j+1:=⟨i-1,by omega⟩;obtain ⟨l',rfl⟩: ∃l',l=l'+1:=⟨l-1,by omega⟩;have hj:j≤l':=by omega
 have hR:=fun a' b' k' m' h1 h2 h3 h4 h5=>hR l' rfl a' b' k' m' h1 h2 h3 h4 h5;obtain ⟨e1,e2,e3⟩:=bC hla;have hx:au l' (a.take (a.length / 2)):= .inr ⟨j,hj,e1⟩;have hy:au l' (a.drop (a.length / 2)):= .inr ⟨j,hj,e2⟩;have hk:tT r l' (k+m)+tT r l' (tT r l' (k+m)+r)+1≤17300000000000:=hk;refine⟨fun h3=>?_,fun h3=>?_⟩
 · have hb':au l' b:=by
    rcases hb with e | ⟨i',_,e⟩
    · exact .inl e
    · refine .inr ⟨i',?_,e⟩;rw[e3,e] at h3;have:=hC h3;omega
   exact⟨(hR _ _ k m hx hb' (sa.take _) sb (by omega)).1,(hR _ _ k m hy hb' (sa.drop _) sb (by omega)).1⟩
 have hlb:b.length=2^(j+1):=by
  rcases hb with e | ⟨i',_,e⟩
  · omega
  · rw[e] at h3 hab ⊢;rw[hla] at hab;rw[e3] at h3;have h4:=hC hab;have h5: ¬i'≤j:=fun h=>h3 (Nat.pow_le_pow_right (by decide) h);rw[show i'=j+1 by omega]
 obtain ⟨f1,f2,f3⟩:=bC hlb;rw[show b.length / 2=a.length / 2 by rw[f3,e3]] at f1 f2;have hu:au l' (b.take (a.length / 2)):= .inr ⟨j,hj,f1⟩;have hv:au l' (b.drop (a.length / 2)):= .inr ⟨j,hj,f2⟩;have r1:=hR _ _ k m hx hu (sa.take _) (sb.take _) (by omega);have r2:=hR _ _ k m hy hv (sa.drop _) (sb.drop _) (by omega);have r3:=hR _ _ k m hx hv (sa.take _) (sb.drop _) (by omega);have r4:=hR _ _ k m hy hu (sa.drop _) (sb.take _) (by omega);have hlog:a.length.log2-1=j:=by rw[hla,Nat.log2_two_pow];omega
 rw[hlog];have hd:au l' (rt.getD j []):= .inr ⟨j,hj,hrt j (by omega)⟩;have r5:=hR _ _ (tT r l' (k+m)) r r2.2.1 hd r2.2.2 (sr j) (by omega);exact⟨⟨r1.1,r2.1,r5.1,r3.1,r4.1⟩,r1.2.2.mono (by omega),r5.2.2.mono (by omega),r3.2.2.mono (by omega),r4.2.2.mono (by omega)⟩
theorem Gz: ∀(l:Nat) {k m r:Nat} {rt:List NQ} {a b:NQ},au l a→au l b→cK rt→l≤rt.length→aB k a→aB m b→dh r rt→tT r l (k+m)≤17300000000000→AM l rt a b
 | 0,k,m,r,rt,a,b,ha,hb,hrt,hl,sa,sb,sr,hk=>by
   show s8 _ _ rt a b;unfold s8;split
   · exact yT hb ha (by omega) hrt hl sb sa sr (by rw[Nat.add_comm m k];exact hk) (fun l' h=>by omega)
   · exact yT ha hb (by omega) hrt hl sa sb sr hk (fun l' h=>by omega)
 | l+1,k,m,r,rt,a,b,ha,hb,hrt,hl,sa,sb,sr,hk=>by
   show s8 (aU l rt) (AM l rt) rt a b;unfold s8
   have ih: ∀l',l+1=l'+1→ ∀a' b' k' m',au l' a'→au l' b'→aB k' a'→aB m' b'→tT r l' (k'+m')≤17300000000000→AM l rt a' b'∧au l' (aU l rt a' b')∧aB (tT r l' (k'+m')) (aU l rt a' b'):=fun l' e a' b' k' m' h1 h2 h3 h4 h5=>by
    obtain rfl:l=l':=by omega
    exact⟨Gz l h1 h2 hrt (by omega) h3 h4 sr h5,e7 l h1 h2 hrt (by omega),Ag hrt sr (by omega) h1 h3 h2 h4⟩
   split
   · exact yT hb ha (by omega) hrt hl sb sa sr (by rw[Nat.add_comm m k];exact hk) ih
   · exact yT ha hb (by omega) hrt hl sa sb sr hk ih
def EU(r:Nat):Nat→Nat→Prop
 | 0,k=>k≤17300000000000
 | l+1,k=>sT (l+1) k≤17300000000000∧pG l (tT r (l+1) (k+k))∧EU r l (tT r (l+1) (k+k))∧iQ r (l+1) k≤17300000000000
theorem EU.le{r:Nat}: ∀{l k:Nat},EU r l k→k≤17300000000000
 | 0,k,h=>h
 | l+1,k,h=>by have:=cg (l+1) k;have:=h.1;omega
theorem KD{v:List NQ}{r:Nat}(hrt:cK v)(hp:oO v)(sr:dh r v): ∀(l:Nat) {k:Nat} {a:NQ},au l a→l≤v.length→aB k a→r≤k→aY v l (cf a)≠0→EU r l k→Lr l v a:=by
 intro l
 induction l with
 | zero =>
   intro k a ha hl sa hrk h hk;exact⟨sa.mono hk.le,xt ha h⟩
 | succ l ih =>
   intro k a ha hl sa hrk h hk;obtain ⟨k1,k2,k3,k4⟩:=hk;have h2:=cg (l+1) k;have h5:=FJ r l (k+k);have h0:=xt ha h;have hc:=bb ha;refine⟨sa.mono (by omega),h0,fun hne=>?_⟩;rw[← hc] at h;obtain ⟨hs,ss⟩:=bd ha sa;generalize aA a=s at *
   obtain ⟨j,hj,hsl⟩: ∃j,j≤l∧s.length=2^(j+1):=by
    rcases hs with e | ⟨i,hi,e⟩
    · exact absurd e h0
    · rcases i with _ | j
      · exact absurd e hne
      · exact⟨j,by omega,e⟩
   obtain ⟨e1,e2,e3⟩:=bC hsl;have hx:au l (s.take (s.length / 2)):= .inr ⟨j,hj,e1⟩;have hn:=qo hj hsl hrt (show l<v.length by omega);have sn:=DP hrt sr hj (show l<v.length by omega) hsl ss;have s1:=dK l hn.1 hrt (by omega)
   have lowN:bN j (bo v j (cf s)):=fun i hi=>by
    unfold bo;rw[bf v j _ _ i hi,bf v j _ _ i hi];exact Rat.sub_self
   refine⟨GA hj hsl hrt (by omega) ss (sr.mono hrk) k1,pa l hn.1 hrt (by omega) sn (sr.mono (by omega)) k2,fun hz=>?_,fun hz=>⟨?_,?_⟩⟩
   · rw[s1,hn.2,bK v lowN hj] at hz;have hd:=Hs hrt hp hj (by omega) hsl h hz;exact ih (hx.plus hx) (by omega) (((ss.take _).plus (ss.take _)).mono (by omega)) (by omega) hd k3
   · rw[s1] at hz;exact ih hn.1 (by omega) sn (by omega) hz k3
   · have hjl:au (l+1) (dN (s.take (s.length / 2)) (aZ (s.drop (s.length / 2))) (s.length / 2)):= .inr ⟨j+1,by omega,by
      rw[dG]
      omega⟩
     exact Gz (l+1) hjl ((gu l hn.1 hrt (by omega)).mono (Nat.le_succ l)) hrt hl ((ss.take _).join (ss.drop _).minus _) (KK hrt sr l hn.1 (by omega) sn) sr k4
end Lift
namespace Lift
theorem ET{m m' N c k k' r:Nat}{v:List NQ}{s:jJ}(V:jv m v)(R:oM v m' N c s)(hs:Jt k s.rows)(hd:aB k s.gV)(he:atR v s c<s.rows.length→Jt k' (eR v s c)∧aB k' (bX v.length v (pR v s c)))(hk:k≤k')(hr:dh r v)(hrk:r≤k)(h1:pG v.length k)(h2:EU r v.length k)(h3:sT v.length k'+k'+1≤17300000000000):nH v s c:=by
 have hl:=R.len;have hm:=R.cm;have hsT:=cg v.length k';have ro:=V.ro;have hrv:dh k' v:=hr.mono (by omega);have rv:dh k v:=hr.mono hrk;have sg: ∀{x:NQ},au v.length x→aB k x→Ct v x:=fun hx sx=>pa v.length hx ro (ai _) sx rv h1
 have mul: ∀{x y:NQ},au v.length x→aB k' x→au v.length y→aB k' y→AO v x y∧aB (sT v.length k') (aU v.length v x y):=fun hx sx hy sy =>
  have t:=dp v.length hx hy ro (ai _) sx sy hrv
  ⟨⟨sx.mono (by omega),sy.mono (by omega),o9 v.length hx hy ro (ai _) sx sy hrv (by omega),t.2.mono (by omega)⟩,t.2⟩
 by_cases h:atR v s c<s.rows.length
 · obtain ⟨b1,b2,b3⟩:=qV R h;obtain ⟨e1,e2,e3⟩:=xW V.a R h;obtain ⟨se,si⟩:=he h
   have sb:Jt k (bR v s c):=fun i j=>by
    unfold bR;split
    · exact hs i j
    · unfold FN bk;rw[eG];split
      · exact hs _ j
      · rw[eG];split
        · exact hs _ j
        · exact hs i j
   have hp:=Gv R h
   have hps:aY v v.length (cf (pR v s c))≠0:=by
    have:=dK v.length (b3 s.cols.length c) ro (ai _);show aY v v.length (cf (bk (bR v s c) s.cols.length c))≠0;rw[← this];exact hp
   have hpi:Lr v.length v (pR v s c):=KD ro V.pos hr v.length (b3 s.cols.length c) (ai _) (sb _ _) hrk hps h2;refine⟨fun j _ _=>sg (R.lt j c) (hs j c),fun _=>(mul R.gV (hd.mono hk) (b3 s.cols.length c) ((sb _ _).mono hk)).1,fun _ j _=>?_,fun _ i _ hne=>?_,fun _ i _ hne _ j _=>?_⟩
   · have t:=mul (b3 s.cols.length j) ((sb _ _).mono hk) (gu v.length (b3 s.cols.length c) ro (ai _)) si;exact⟨(sb _ _).mono (by omega),(sb _ _).mono (by omega),sg (b3 s.cols.length c) (sb _ _),hp,hpi,t.1.2.2.1,t.1.2.2.2⟩
   · have g:bk (eR v s c) i c=bk (bR v s c) i c:=by
      unfold eR bk;rw[eG,if_neg (fun g=>hne g.1)]
     rw[g];exact sg (b3 i c) (sb i c)
   · obtain ⟨q1,q2⟩:=mul (e3 i c) (se i c) (e3 s.cols.length j) (se s.cols.length j);have q3:aB (sT v.length k') (fN v (bk (eR v s c) i c) (bk (eR v s c) s.cols.length j)):=(bd (e7 v.length (e3 i c) (e3 s.cols.length j) ro (ai _)) q2).2;exact⟨q1,(se i j).mono (by omega),q3.mono (by omega),((se i j).plus q3.minus).mono (by omega)⟩
 · exact⟨fun j _ _=>sg (R.lt j c) (hs j c),fun g=>absurd g h,fun g=>absurd g h,fun g=>absurd g h,fun g=>absurd g h⟩
theorem L2:pG 2 (Fz 200 200 14):=⟨by decide,by decide,by show _≤_;decide⟩
theorem L3: ∀l,l≤2→EU 16 l (Fz 200 200 14)
 | 0,_=>by show _≤_;decide
 | 1,_=>⟨by decide,by show _≤_;decide,by show _≤_;decide,by decide⟩
 | 2,_=>⟨by decide,⟨by decide,by show _≤_;decide⟩,⟨by decide,by show _≤_;decide,by show _≤_;decide,by decide⟩,by decide⟩
theorem L1: ∀l,l≤2→sT l (Fz 200 200 15)+Fz 200 200 15+1≤17300000000000
 | 0,_=>by decide
 | 1,_=>by decide
 | 2,_=>by decide
theorem zZ{p q:Nat}(h:p≤q):Fz 200 200 p≤Fz 200 200 q:=by
 unfold Fz;have:=JS 168 (200+40) h;have:=JQ 168 (200+40) h;omega
theorem Ck{m:Nat}{v:List NQ}(V:jv m v)(l2:v.length≤2)(hm:dh 16 v){a:dW}{N:Nat}(hr:dy N a)(hl:qY v.length a)(h:sW v a N (Fz 200 200))(hmin:N≤15∨a.length≤15): ∀c,c<N→nH v (aE v a c) c:=fun c hc=>by
 have R:=kT V.a hr hl c;have h1:=R.cl;have h2:=R.cm;have h3:=R.len;by_cases hp:(aE v a c).cols.length<(aE v a c).rows.length
 · obtain ⟨g1,g2,g3⟩:=h c (by omega);have f1:=zZ (show (aE v a c).cols.length≤14 by omega);have f2:=zZ (show (aE v a c).cols.length+1≤15 by omega);exact ET V R (fun i j=>(g1 i j).mono f1) (g2.mono f1) (fun g=>⟨fun i j=>((g3 hc g).1 i j).mono f2,(g3 hc g).2.mono f2⟩) (zZ (by decide)) hm (by decide) (u5 L2 l2) (L3 _ l2) (L1 _ l2)
 · have ha:=(fi v (aE v a c) c (by omega)).1;exact⟨fun j _ _=>by omega,fun g=>by omega,fun g=>by omega,fun g=>by omega,fun g=>by omega⟩
end Lift
namespace Lift
open Go Go.Proofs
theorem nt(n:Int)(hn: -1000≤n∧n≤1000):Pure Tryz.prog 50 [dI n] (bG [Qr (n:Rat)]):=by
 refine qJ 6 Tryz.func50 rfl rfl rfl rfl (by kernel_rfl) (fun B F0 w0=>?_);have c1:=xE n (by omega) (by omega);refine qX 1 rfl ?_;refine qK 1 rfl ?_;refine ae.call tok rfl rfl rfl rfl c1 ?_;refine ae.pv tok rfl rfl rfl rfl rfl ?_;refine qU 1 rfl ?_;exact qN rfl
abbrev M9:List Mark:=[⟨⟨#[79]⟩,Qr 0,Qr 0⟩,⟨⟨#[65]⟩,Qr ((1:Int):Rat),Qr 0⟩]
abbrev CR:Lkg:=⟨⟨#[109]⟩,[⟨⟨#[102,114,97,109,101]⟩,M9⟩,⟨⟨#[99,114,97,110,107]⟩,M9⟩],[⟨⟨#[106]⟩,0,1,0,0,0,0⟩],[]⟩
abbrev MH:gw:=⟨[Qr ((1:Int):Rat)],[Qr ((0:Int):Rat)],[Qr ((0:Int):Rat)],[Qr ((0:Int):Rat)]⟩
abbrev Ec:Asm:=⟨[],[MH,MH],[]⟩
theorem rO:Pure Tryz.prog 29 [] (.tu [CR.D,Ec.D]):=by
 refine qJ 27 Tryz.func29 rfl rfl rfl rfl (by kernel_rfl) (fun B F0 w0=>?_);have c1:=xE 1 (by omega) (by omega);have w1:=nt 1 (by omega);have w0':=nt 0 (by omega)
 have e1:Mark.D ⟨⟨#[79]⟩,Qr 0,Qr 0⟩= .ag [dS ⟨#[79]⟩,dB false,.sl 1 [],.sl 1 [],dB false,.sl 1 [],.sl 1 []]:=by
  show D.ag [dS ⟨#[79]⟩,dB (Qr 0).g,Wd (Qr 0).n,Wd (Qr 0).d,dB (Qr 0).g,Wd (Qr 0).n,Wd (Qr 0).d]=_;rw[iW];rfl
 have e2: ∀r:RD,Mark.D ⟨⟨#[65]⟩,r,Qr 0⟩= .ag [dS ⟨#[65]⟩,dB r.g,Wd r.n,Wd r.d,dB false,.sl 1 [],.sl 1 []]:=fun r=>by
  show D.ag [dS ⟨#[65]⟩,dB r.g,Wd r.n,Wd r.d,dB (Qr 0).g,Wd (Qr 0).n,Wd (Qr 0).d]=_;rw[iW];rfl
 have eL:CR.D= .ag [dS ⟨#[109]⟩,.sl 2 [.ag [dS ⟨#[102,114,97,109,101]⟩,.sl 7 [.ag [dS ⟨#[79]⟩,dB false,.sl 1 [],.sl 1 [],dB false,.sl 1 [],.sl 1 []],.ag [dS ⟨#[65]⟩,dB (Qr ((1:Int):Rat)).g,Wd (Qr ((1:Int):Rat)).n,Wd (Qr ((1:Int):Rat)).d,dB false,.sl 1 [],.sl 1 []]]],.ag [dS ⟨#[99,114,97,110,107]⟩,.sl 7 [.ag [dS ⟨#[79]⟩,dB false,.sl 1 [],.sl 1 [],dB false,.sl 1 [],.sl 1 []],.ag [dS ⟨#[65]⟩,dB (Qr ((1:Int):Rat)).g,Wd (Qr ((1:Int):Rat)).n,Wd (Qr ((1:Int):Rat)).d,dB false,.sl 1 [],.sl 1 []]]]],.sl 7 [.ag [dS ⟨#[106]⟩,dI 0,dI 1,dI 0,dI 0,dI 0,dI 0]],.sl 2 []]:=by
  rw[← e1,← e2];rfl
 have eA:Ec.D= .ag [.sl 1 [],.sl 4 [.ag [bG [Qr ((1:Int):Rat)],bG [Qr ((0:Int):Rat)],bG [Qr ((0:Int):Rat)],bG [Qr ((0:Int):Rat)]],.ag [bG [Qr ((1:Int):Rat)],bG [Qr ((0:Int):Rat)],bG [Qr ((0:Int):Rat)],bG [Qr ((0:Int):Rat)]]],.sl 1 []]:=rfl;rw[eL,eA];clear eL eA e1 e2;generalize Qr ((1:Int):Rat)=q at *;generalize Qr ((0:Int):Rat)=z at *;refine qX 2 rfl ?_;refine qK 1 rfl ?_;refine ae.call tok rfl rfl rfl rfl c1 ?_;refine qU 1 rfl ?_;refine ae.pv tok rfl rfl rfl rfl rfl ?_;refine qU 1 rfl ?_;refine qK 4 rfl ?_;refine ae.pv tok rfl rfl rfl rfl rfl ?_;refine qU 1 rfl ?_;refine ae.pv tok rfl rfl rfl rfl rfl ?_;refine qU 3 rfl ?_;refine qI (AW.region ?_);refine ae.call tok rfl rfl rfl rfl w1 ?_;refine ae.call tok rfl rfl rfl rfl w0' ?_;refine ae.call tok rfl rfl rfl rfl w0' ?_;refine ae.call tok rfl rfl rfl rfl w0' ?_;refine qU 3 rfl ?_;refine qI (AW.oK tok aW [(1,true),(4,false)] 5 [0,1] (by kernel_rfl) ⟨rfl,?_⟩);refine qP 1 rfl ?_;refine af.nil ⟨rfl,?_⟩;refine qP 2 rfl ?_;refine af.pv tok rfl rfl rfl rfl rfl rfl ?_;refine qP 1 rfl ?_;refine af.nil ⟨_,oL.cons (.bx rfl) (oL.cons (.bx rfl) (oL.nil)),?_⟩;exact qN rfl
abbrev sP:dW:=[[[1],[],[]],[[],[1],[]]]
instance:DecidableEq jJ:=fun a b=>if h:a.rows=b.rows∧a.cols=b.cols∧a.sg=b.sg∧a.gV=b.gV then isTrue (by
  cases a;cases b;obtain ⟨h1,h2,h3,h4⟩:=h;simp only[] at h1 h2 h3 h4;subst h1;subst h2;subst h3;subst h4;rfl) else isFalse (fun e=>h (by subst e;exact⟨rfl,rfl,rfl,rfl⟩))
theorem CP:fU CR Ec=0:=by decide +kernel
theorem Jj:tD CR=0:=by decide +kernel
theorem JT:oF CR Ec=sP:=by decide +kernel
theorem Mg:aE [] sP 1=⟨sP,[0],1,[1]⟩:=by decide +kernel
theorem Mf:aE [] sP 2=⟨sP,[0,1],1,[1]⟩:=by decide +kernel
theorem Me:aE [] sP 3=⟨sP,[0,1],1,[1]⟩:=by decide +kernel
theorem CQ(i k:Nat):aB 1 (bk sP i k)∧au 0 (bk sP i k):=by
 have h:bk sP i k=[]∨bk sP i k=[1]:=by
  match i,k with
  | 0,0=>exact .inr rfl
  | 0,1=>exact .inl rfl
  | 0,2=>exact .inl rfl
  | 0,_+3=>exact .inl rfl
  | 1,0=>exact .inl rfl
  | 1,1=>exact .inr rfl
  | 1,2=>exact .inl rfl
  | 1,_+3=>exact .inl rfl
  | _+2,_=>exact .inl rfl
 rcases h with h | h
 · rw[h];exact⟨cG (by decide),cy _⟩
 · rw[h];exact⟨fX gx,eW _ _⟩
theorem Ah{k:Nat}(h:1≤k):dh k []:=fun i=>by
 rw[show ([]:List NQ).getD i []=[] by simp];exact cG h
theorem BC:cK []:=fun j hj=>absurd hj (Nat.not_lt_zero _)
theorem GB{a b:NQ}(ha:au 0 a)(hb:au 0 b)(sa:aB 1 a)(sb:aB 1 b):AO [] a b :=
 ⟨sa.mono (by decide),sb.mono (by decide),o9 0 ha hb BC (ai _) sa sb (Ah (ai _)) (by decide),(dp 0 ha hb BC (ai _) sa sb (Ah (ai _))).2.mono (by decide)⟩
theorem Hg:bX 0 [] [1]=[1]:=by decide +kernel
theorem KE{a:NQ}(ha:au 0 a)(sa:aB 1 a):GD [] a [1]:=by
 have h1:aB 1 ([1]:NQ):=fX gx;have hb:au 0 ([1]:NQ):=eW _ _;have m:=GB ha hb sa h1;refine⟨m.1,m.2.1,m.2.1,by decide +kernel,⟨m.2.1,by decide +kernel⟩,?_,?_⟩
 · show AM 0 [] a (bX 0 [] [1]);rw[Hg];exact m.2.2.1
 · show oT (aU 0 [] a (bX 0 [] [1]));rw[Hg];exact m.2.2.2
theorem zw{cols:List Nat}{c:Nat}{p:NQ}(h1:atR [] ⟨sP,cols,1,[1]⟩ c<2→bR [] ⟨sP,cols,1,[1]⟩ c=sP∧eR [] ⟨sP,cols,1,[1]⟩ c=sP∧pR [] ⟨sP,cols,1,[1]⟩ c=[1])
  (h2:atR [] ⟨sP,cols,1,[1]⟩ c<2→ ∀i,i<2→i≠cols.length→q7 [] (bk sP i c)=0):nH [] ⟨sP,cols,1,[1]⟩ c:=by
 have k: ∀i k,oT (bk sP i k):=fun i k=>(CQ i k).1.mono (by decide);refine⟨fun j _ _=>k j c,fun h=>?_,fun h j _=>?_,fun h i _ _=>?_,fun h i hi hn hs=>?_⟩
 · rw[(h1 h).2.2];exact GB (eW _ _) (eW _ _) (fX gx) (fX gx)
 · rw[(h1 h).2.2,(h1 h).1];exact KE (CQ _ _).2 (CQ _ _).1
 · rw[(h1 h).2.1];exact k i c
 · rw[(h1 h).2.1] at hs;exact absurd (h2 h i hi hn) hs
theorem Mh: ∀c,c<3→nH [] (aE [] sP c) c
 | 0,_=>zw (p:=[]) (fun _=>⟨by decide +kernel,by decide +kernel,by decide +kernel⟩) (fun _ i hi hn=>by
   have h: ∀i:Fin 2,i.val≠0→q7 [] (bk sP i.val 0)=0:=by decide +kernel
   exact h ⟨i,hi⟩ hn)
 | 1,_=>by
   rw[Mg]
   exact zw (p:=[]) (fun _=>⟨by decide +kernel,by decide +kernel,by decide +kernel⟩) (fun _ i hi hn=>by
    have h: ∀i:Fin 2,i.val≠1→q7 [] (bk sP i.val 1)=0:=by decide +kernel
    exact h ⟨i,hi⟩ hn)
 | 2,_=>by
   rw[Mf];have h: ¬atR [] ⟨sP,[0,1],1,[1]⟩ 2<2:=by decide +kernel
   exact zw (p:=[]) (fun g=>absurd g h) (fun g=>absurd g h)
theorem Ji:CR.ok 16:=by
 have q1:(Qr ((1:Int):Rat)).w 16:=ir _ (by have:=gx;rw[show ((1:Int):Rat)=1 from rfl];omega);have q0:(Qr 0).w 16:=ir _ (nL (by decide));have d0:(default:RD).w 16:=⟨fun x h=>absurd h (List.not_mem_nil (a:=x)),fun x h=>absurd h (List.not_mem_nil (a:=x)),Nat.zero_le _,Nat.zero_le _⟩;have dM:(default:Mark).ok 16:=⟨by decide,d0,d0⟩
 have hp: ∀k,(M9.getD k default).ok 16:=fun k=>by
  match k with
  | 0=>exact⟨by decide,q0,q0⟩
  | 1=>exact⟨by decide,q1,q0⟩
  | _+2=>exact dM
 refine⟨by decide,by decide,by decide,by decide,fun i=>?_,fun i=>?_,fun i=>by show (default:Driver).nm.size≤_;decide⟩
 · match i with
   | 0=>exact⟨by decide,by decide,hp⟩
   | 1=>exact⟨by decide,by decide,hp⟩
   | _+2=>exact⟨by show (default:Body).nm.size≤_;decide,by show (default:Body).pts.length≤_;decide,fun k=>dM⟩
 · match i with
   | 0=>show (ByteArray.size ⟨#[106]⟩)≤_;decide
   | _+1=>show (default:bm).nm.size≤_;decide
end Lift
namespace Lift
open Go Go.Proofs
theorem Hf:Fm CR Ec:=by
 have d0: ∀a:List RD,(∀r∈a,r=Qr ((1:Int):Rat)∨r=Qr ((0:Int):Rat))→wN 16 a:=fun a h i hi=>by
  have h1:(Qr ((1:Int):Rat)).w 16:=ir _ (by have:=gx;rw[show ((1:Int):Rat)=1 from rfl];omega);have h0:(Qr ((0:Int):Rat)).w 16:=ir _ (by have:=iX;rw[show ((0:Int):Rat)=0 from rfl];omega);rw[aN,b9 hi];rcases h _ (List.getElem_mem hi) with e | e
  · rw[show (some a[i]).getD default=a[i] from rfl,e];exact h1
  · rw[show (some a[i]).getD default=a[i] from rfl,e];exact h0
 have w1:wN 16 [Qr ((1:Int):Rat)]:=d0 _ (fun r hr=> .inl (List.mem_singleton.1 hr));have w0:wN 16 [Qr ((0:Int):Rat)]:=d0 _ (fun r hr=> .inr (List.mem_singleton.1 hr));have hb:gw.ok 16 [] MH:=⟨⟨fun _=>w1,show 1≤4398046511104 by decide⟩,⟨fun _=>w0,show 1≤4398046511104 by decide⟩,⟨fun _=>w0,show 1≤4398046511104 by decide⟩,⟨fun _=>w0,show 1≤4398046511104 by decide⟩⟩;refine Gt Ji ⟨⟨⟨1,by decide,by decide,fun i hi=>absurd hi (Nat.not_lt_zero _),fun _=>show 1≤17300000000000 by decide⟩,by decide,by decide,fun i hi=>absurd hi (Nat.not_lt_zero _)⟩,fun i hi=>?_,by decide⟩ (by decide) CP;have hi:i<2:=hi
 match i,hi with
 | 0,_=>exact hb
 | 1,_=>exact hb
theorem Hh:Ec.ok 16:=by
 have w1:wN 16 [Qr ((1:Int):Rat)]:=fun i hi=>by
  have hi:i<1:=hi;obtain rfl:i=0:=by omega
  exact ir _ (by have:=gx;rw[show ((1:Int):Rat)=1 from rfl];omega)
 have w0:wN 16 [Qr ((0:Int):Rat)]:=fun i hi=>by
  have hi:i<1:=hi;obtain rfl:i=0:=by omega
  exact ir _ (by have:=iX;rw[show ((0:Int):Rat)=0 from rfl];omega)
 have hb:gw.ok 16 [] MH:=⟨⟨fun _=>w1,show 1≤4398046511104 by decide⟩,⟨fun _=>w0,show 1≤4398046511104 by decide⟩,⟨fun _=>w0,show 1≤4398046511104 by decide⟩,⟨fun _=>w0,show 1≤4398046511104 by decide⟩⟩;refine⟨⟨⟨1,by decide,by decide,fun i hi=>absurd hi (Nat.not_lt_zero _),fun _=>show 1≤17300000000000 by decide⟩,by decide,by decide,fun i hi=>absurd hi (Nat.not_lt_zero _)⟩,fun i hi=>?_,by decide⟩;have hi:i<2:=hi
 match i,hi with
 | 0,_=>exact hb
 | 1,_=>exact hb
theorem Eb:Pure Tryz.prog 46 [iF (Ec.rt.map ay),v9 (oF CR Ec)] (.tu [dI (2:Nat),aR]):=by
 have V:jv 300000 (Ec.rt.map ay):=Hf.V.mono (by decide) (by decide)
 have h:=nq V (show 300000≤17300000000000 by decide) (vi Hf) (fun i k=>(GI Hf i k).2) (fun c hc=>by
  rw[JT] at hc ⊢
  exact Mh c hc)
 rw[show (p7 (Ec.rt.map ay) (oF CR Ec)).cols.length=2 by rw[JT];show (aE [] sP 3).cols.length=2;rw[Me];rfl] at h;exact h
theorem kq:Pure Tryz.prog 9 [] (dB true):=by
 refine qJ 52 Tryz.func9 rfl rfl rfl rfl (by kernel_rfl) (fun B F0 w0=>?_);have ce:=rO;have c1:=td CR Ji (by decide);have c2:=sL CR Ec Ji Hh (by decide) (by decide) (fun _=>Eb);have c3:=ni CR Ec (r:=2) (by decide) Ji Hh (by decide) (by decide) (fun _=>Eb);unfold KR at c1;unfold DH at c2;unfold D9 at c3;rw[if_neg (by rw[Jj];decide),show KQ CR=1 by decide +kernel] at c1;rw[if_neg (by rw[CP];decide)] at c2;rw[if_neg (by rw[CP];decide),show (3*((CR.bodies.length:Int) -1) -((2:Nat):Int))=1 by decide] at c3;have hL: ∃x:List D,CR.D= .ag x∧x.length=4:=⟨_,rfl,rfl⟩;have hA: ∃x:List D,Ec.D= .ag x∧x.length=3:=⟨_,rfl,rfl⟩;refine qX 1 rfl ?_;refine qI (AW.region ?_);refine ae.call tok rfl rfl rfl rfl ce ?_;refine qU 7 rfl ?_;refine qK 1 rfl ?_;refine ae.call tok rfl rfl rfl rfl c1 ?_;refine qU 5 rfl ?_;refine qK 2 rfl ?_;refine ae.call tok rfl rfl rfl rfl c2 ?_;refine qU 5 rfl ?_;refine qK 2 rfl ?_;refine ae.call tok rfl rfl rfl rfl c3 ?_;refine qU 5 rfl ?_;refine qK 1 rfl ?_;refine ae.err tok rfl rfl rfl rfl rfl ?_;refine qU 2 rfl ?_;refine ae.err tok rfl rfl rfl rfl rfl ?_;refine qU 3 rfl ?_;refine ae.err tok rfl rfl rfl rfl rfl ?_;refine qU 14 rfl ?_;exact qN rfl
end Lift
namespace Lift
structure Lo (v:List NQ):Prop where
 V:jv 2 v
 l1:v.length≤1
section
variable {v:List NQ} (L:Lo v) {k m:Nat} {a b:NQ}
include L
end
abbrev SzM(k:Nat)(a:dW):Prop:= ∀i j,aB k (bk a i j)
end Lift
namespace Lift
section
variable {m0:Nat} {v:List NQ} (V:jv m0 v) {a:dW} (G:Jx v a) {b:List NQ} (hb: ∀i,au v.length (b.getD i []))
include V G hb
end
end Lift
namespace Lift
open Go Go.Proofs
end Lift
namespace Lift
open Go Go.Proofs
section
variable {l:Lkg} {a:Asm} (S:Fi l a) (O:Fm l a) (hl:l.ok 16) (ha:AsB a)
include S O hl ha
omit O hl in
theorem Kt(h2:(a.rt.map ay).length=2):dh 8 (a.rt.map ay):=fun j c=>by
 rw[ah] at h2;by_cases hj:j<a.rt.length
 · have h1:=S.root hj
   have hg:(a.rt.map ay).getD j []=ay (a.rt.getD j []):=by
    rw[aN,List.getElem?_map,aN,b9 hj];rfl
   rw[hg,AP];split
   · have w:=(ha.r j).2 c;have h3:=yb (a.rt.getD j []) c;exact cu ⟨w.1,w.2.1,by omega,by omega⟩ (by decide)
   · rw[iX];decide
 · have hz:(a.rt.map ay).getD j []=[]:=by
    rw[aN,List.getElem?_eq_none (by rw[ah];omega)];rfl
   rw[hz];show LQ 0≤8;rw[iX];decide
theorem GH(N:Nat)(hr:dy N (oF l a)):sW (a.rt.map ay) (oF l a) N (Fz 200 200) :=
 Gl O.V (IQ S O hl ha N) (by decide) hr (vi O).lt (ai _) O.l2 O.V.sz (Kt S ha)
theorem EY: ∀c,c<df (oF l a)→nH (a.rt.map ay) (aE (a.rt.map ay) (oF l a) c) c:=by
 have G:=vi O;have hb:l.bodies.length≤6:=by have:=O.G.lk.b8;have:=S.nb6;omega
 by_cases h0:0<(oF l a).length
 · have hc:=y8 O h0;exact Ck O.V O.l2 O.V.sz G.r G.lt (GH S O hl ha _ G.r) (.inl (by omega))
 · intro c hc;unfold df at hc;rw[mb (by omega)] at hc;exact absurd hc (Nat.not_lt_zero c)
omit S hl ha in
theorem ok3:pG (a.rt.map ay).length 300000:=by
 refine u5 (l:=2) ?_ O.l2;exact⟨by decide,by decide,by show _≤_;decide⟩
theorem IN:Pure Tryz.prog 46 [iF (a.rt.map ay),v9 (oF l a)] (.tu [dI (p7 (a.rt.map ay) (oF l a)).cols.length,aR]) :=
 nq (O.V.mono (by decide) (by decide)) (ok3 O) (vi O) (fun i k=>(GI O i k).2) (EY S O hl ha)
end
end Lift
namespace Lift
open Go Go.Proofs
theorem EO(v:List NQ)(a:dW){c d:Nat}(h:c≤d):(aE v a c).cols.length≤(aE v a d).cols.length:=by
 induction h with
 | refl=>exact ai _
 | @step m _ ih =>
   rcases Aw v a m with e | e
   · rw[e,List.length_append];exact Nat.le_add_right_of_le ih
   · rw[e];exact ih
theorem Ax(v:List NQ)(a:dW)(c:Nat): ∀d,(aE v a (c+d)).cols.length≤(aE v a c).cols.length+d
 | 0=>ai _
 | d+1=>by
   have ih:=Ax v a c d;rcases Aw v a (c+d) with e | e
   · show (aE v a (c+d+1)).cols.length≤_;rw[e,List.length_append];show _+1≤_;omega
   · show (aE v a (c+d+1)).cols.length≤_;rw[e];omega
theorem xD{m0:Nat}{v:List NQ}(V:jv m0 v){C:dW}(G:Jx v C){n:Nat}(hn:n≤C.length):(aE v (mO C) n).cols.length=(p7 v (C.take n)).cols.length:=by
 rw[Gq V G hn];unfold p7;by_cases h:n=0
 · subst h;rw[List.take_zero,tN,tN]
 · have e:df (C.take n)=df C:=by
    unfold df;rw[aN,List.getElem?_take,if_pos (by omega),aN]
   rw[e]
theorem Gp{m0:Nat}{v:List NQ}(V:jv m0 v){A B:dW}(G:Jx v (A++B)):(p7 v A).cols.length≤(p7 v (A++B)).cols.length∧(p7 v (A++B)).cols.length≤(p7 v A).cols.length+B.length:=by
 have h1:=xD V G (n:=A.length) (by rw[List.length_append];omega);have h2:=xD V G (n:=(A++B).length) (ai _);rw[List.take_left' rfl] at h1;rw[List.take_length] at h2;rw[← h1,← h2];refine⟨EO v _ (by rw[List.length_append];omega),?_⟩;rw[List.length_append];exact Ax v _ _ _
def CB(l:Lkg)(js:List bm):Lkg:=⟨l.nm,l.bodies,js,l.drivers⟩
theorem zi{b:List Body}{l1 l2:List bm}{i:Nat}(h: ∀k,k≤i→l1.getD k default=l2.getD k default):cY b l1 i=cY b l2 i:=by
 have hd:wV l1 i=wV l2 i:=by
  unfold wV;rw[h i (ai _)]
  have key: ∀m j,j+m≤i→eU (fun k=>decide ((l1.getD k default).nm=(l2.getD i default).nm)) m j=eU (fun k=>decide ((l2.getD k default).nm=(l2.getD i default).nm)) m j:=fun m=>by
   induction m with
   | zero=>intro _ _;rfl
   | succ m ih =>
     intro j hj;show (_||_)=(_||_);rw[ih (j+1) (by omega)]
     dsimp only
     rw[h j (by omega)]
  exact key i 0 (by omega)
 unfold cY;rw[h i (ai _),hd]
theorem vv{b:List Body}{l:List bm}(h:bA b l=0):l.length≤16∧ ∀i,i<l.length→cY b l i=0:=by
 unfold bA at h;split at h
 · cases h
 · exact⟨by omega,fun i hi=>CN h i (Nat.zero_le _) (by omega)⟩
theorem E0{b:List Body}{l:List bm}(h1:l.length≤16)(h: ∀i,i<l.length→cY b l i=0):bA b l=0:=by
 unfold bA;rw[if_neg (by omega)];exact mf fun i hi=>h i (by omega)
theorem K5{l:Lkg}{js:List bm}(h:tD l=0)(hj:bA l.bodies js=0):tD (CB l js)=0:=by
 unfold tD at h ⊢;show (if dc l.nm=false then 5 else if l.bodies=[] then 10 else if 8<l.bodies.length then 4 else if bL l.bodies≠0 then bL l.bodies else if bA l.bodies js≠0 then bA l.bodies js else il l.bodies.length l.drivers)=0;rw[if_neg (show ¬bA l.bodies js≠0 by rw[hj];simp)];split at h
 · cases h
 rename_i g1;rw[if_neg g1];split at h
 · cases h
 rename_i g2;rw[if_neg g2];split at h
 · cases h
 rename_i g3;rw[if_neg g3];split at h
 · rename_i g4;exact absurd h g4
 rename_i g4;rw[if_neg g4];split at h
 · rename_i g5;exact absurd h g5
 · exact h
theorem C5{l:Lkg}(h:tD l=0):bA l.bodies l.joints=0:=by
 unfold tD at h;split at h
 · cases h
 split at h
 · cases h
 split at h
 · cases h
 split at h
 · rename_i g;exact absurd h g
 split at h
 · rename_i g;exact absurd h g
 · rename_i g;exact Decidable.not_not.1 g
theorem IU{l:Lkg}{a:Asm}{js:List bm}(h:fU l a=0)(hj:bA l.bodies js=0):fU (CB l js) a=0:=by
 have hc:tD l=0:=by
  unfold fU at h;split at h
  · rename_i g;exact absurd h g
  · rename_i g;exact Decidable.not_not.1 g
 have h2:=K5 hc hj;unfold fU at h ⊢;rw[if_neg (by rw[h2];simp)];rw[if_neg (by rw[hc];simp)] at h;exact h
theorem GM{l:Lkg}{a:Asm}(h:fU l a=0):tD l=0:=by
 unfold fU at h;split at h
 · rename_i g;exact absurd h g
 · rename_i g;exact Decidable.not_not.1 g
theorem uI(v:List NQ)(l:Lkg)(a:Asm)(js:List bm): ∀n,(∀i,i<n→js.getD i default=l.joints.getD i default)→iB v (CB l js) a n=iB v l a n
 | 0,_=>rfl
 | n+1,h=>by
   show iB v (CB l js) a n++DY v (CB l js) a (js.getD n default)=iB v l a n++DY v l a (l.joints.getD n default);rw[uI v l a js n (fun i hi=>h i (by omega)),h n (by omega)];rfl
theorem Fi.js{l:Lkg}{a:Asm}(S:Fi l a)(js:List bm):Fi (CB l js) a:=⟨S.r2,S.nb6,S.n⟩
end Lift
namespace Lift
open Go Go.Proofs
theorem vt(l:Lkg)(a:Asm){K:Nat}(hl:l.ok K)(hK:K≤big)(ha:AsB a):Pure Tryz.prog 10 [l.D,a.D] (dB (!kV l a&&decide (fU l a=0))):=by
 refine qJ 15 Tryz.func10 rfl rfl rfl rfl (by kernel_rfl) (fun B F0 w0=>?_);have cl:=vu l a hl hK ha
 have cc:kV l a=false→Pure Tryz.prog 16 [l.D,a.D] (dI (fU l a)):=fun h =>
  yG l a ((uC h).lok hl) (by decide) ((uC h).aok ha)
 generalize kV l a=b at cl cc ⊢;generalize fU l a=z at cc ⊢;obtain ⟨ln,lb,js,lds⟩:=l;obtain ⟨rt,bs,md⟩:=a;refine qX 3 rfl ?_;refine qK 2 rfl ?_;refine ae.call tok rfl rfl rfl rfl cl ?_;cases b with
 | true =>
   refine qU 8 rfl ?_;exact qN rfl
 | false =>
 refine qU 4 rfl ?_;refine ae.call tok rfl rfl rfl rfl (cc rfl) ?_;refine qU 3 rfl ?_;rw[show ((z:Int)==0)=decide (z=0) by by_cases h:z=0<;>simp[h]];exact qN rfl
end Lift
namespace Lift
open Go Go.Proofs
structure BH (l:Lkg) (a:Asm):Prop where
 hl:l.ok 16
 ha:a.ok 16
 hb:AsB a
 S:Fi l a
 O:Fm l a
 m:fU l a=0
 nb:l.bodies.length≤1000000000000
theorem Mw{l:Lkg}{a:Asm}{K:Nat}(hl:l.ok K)(ha:AsB a)(hL:(!kV l a&&decide (fU l a=0))=true):BH l a∧Et l a:=by
 obtain ⟨h1,h2⟩:=(Bool.and_eq_true _ _).mp hL;have hlg:kV l a=false:=by simpa using h1
 have hm:fU l a=0:=aq h2;have S:=uC hlg;have hl16:=S.lok hl;have ha16:=S.aok ha;have hnb:=S.nb;exact⟨⟨hl16,ha16,ha,S.s,Gt hl16 ha16 S.r2 hm,hm,by omega⟩,S⟩
theorem BH.js{l:Lkg}{a:Asm}(A:BH l a){js:List bm}(hj:bA l.bodies js=0)(hn: ∀i,(js.getD i default).nm.size≤big):BH (CB l js) a:=by
 have hm:=IU A.m hj;have h16:=(vv hj).1;have hl:(CB l js).ok 16:=⟨A.hl.nm,A.hl.nb,by show js.length≤1000000000000000;omega,A.hl.nd,A.hl.b,hn,A.hl.d⟩;exact⟨hl,A.ha,A.hb,A.S.js js,Gt hl A.ha A.S.r2 hm,hm,A.nb⟩
def H4(l:Lkg)(a:Asm):Nat:=(p7 (a.rt.map ay) (oF l a)).cols.length
theorem Ce{l:Lkg}{a:Asm}(A:BH l a):H4 l a≤32:=by
 have h:=(Iy A.O.V.a (vi A.O)).1;have:=(vi A.O).l;unfold H4;omega
theorem Bl{l:Lkg}{a:Asm}(A:BH l a):Pure Tryz.prog 11 [l.D,a.D] (.tu [dI (3*((l.bodies.length:Int) -1) -(H4 l a:Nat)),aR]):=by
 have hr:=Ce A;have h:=ni l a (r:=H4 l a) (by omega) A.hl A.ha A.S.r2 A.nb (fun _=>IN A.S A.O A.hl A.hb);unfold D9 at h;rw[if_neg (by rw[A.m];simp)] at h;exact h
theorem uA{js:List bm}{n i:Nat}(h:i<n):(js.take n).getD i default=js.getD i default:=by
 rw[aN,List.getElem?_take,if_pos h,aN]
theorem GV{l:Lkg}{a:Asm}(A:BH l a)(hn:0<l.joints.length):BH (CB l (l.joints.take (l.joints.length-1))) a∧H4 (CB l (l.joints.take (l.joints.length-1))) a≤H4 l a∧H4 l a≤H4 (CB l (l.joints.take (l.joints.length-1))) a+DZ (l.joints.getD (l.joints.length-1) default):=by
 obtain ⟨g1,g2⟩:=vv (C5 (GM A.m));have hlen:(l.joints.take (l.joints.length-1)).length=l.joints.length-1:=by rw[bg];omega
 have hj:bA l.bodies (l.joints.take (l.joints.length-1))=0:=E0 (by omega) fun i hi=>by
  rw[zi (l2:=l.joints) (fun k hk=>uA (by omega))];exact g2 i (by omega)
 have A':=A.js hj (fun i=>by
  by_cases hi:i<l.joints.length-1
  · rw[uA hi];exact A.hl.j i
  · rw[aN,List.getElem?_eq_none (by omega)]
    exact Nat.zero_le _)
 have e1:oF (CB l (l.joints.take (l.joints.length-1))) a=iB (a.rt.map ay) l a (l.joints.length-1):=by
  unfold oF;rw[show (CB l (l.joints.take (l.joints.length-1))).joints.length=l.joints.length-1 from hlen];exact uI _ l a _ _ (fun i hi=>uA hi)
 have e2:oF l a=iB (a.rt.map ay) l a (l.joints.length-1)++DY (a.rt.map ay) l a (l.joints.getD (l.joints.length-1) default):=by
  unfold oF;obtain ⟨n,hn'⟩: ∃n,l.joints.length=n+1:=⟨l.joints.length-1,by omega⟩;rw[hn'];rfl
 have G:=vi A.O;have h:=Gp A.O.V (A:=iB (a.rt.map ay) l a (l.joints.length-1)) (B:=DY (a.rt.map ay) l a (l.joints.getD (l.joints.length-1) default)) (by rw[← e2];exact G);rw[← e2,← e1,DX] at h;exact⟨A',h.1,h.2⟩
set_option maxHeartbeats 1600000 in
theorem law24_Last_ok(l:Lkg)(a:Asm){K:Nat}(hl:l.ok K)(hK:K≤big)(ha:AsB a):Pure Tryz.prog 3 [l.D,a.D] (dB true):=by
 refine qJ 75 Tryz.func3 rfl rfl rfl rfl (by kernel_rfl) (fun B F0 w0=>?_);have cv:=vt l a hl hK ha;have hnj:=hl.nj;unfold big at hnj;refine qX 3 rfl ?_;refine qI (AW.seq (AW.region ?_));refine ae.call tok rfl rfl rfl rfl kq ?_;refine qU 4 rfl ?_;refine ae.call tok rfl rfl rfl rfl cv ?_;cases hL:(!kV l a&&decide (fU l a=0)) with
 | false =>
   refine qU 8 rfl ?_;refine ae.nil ?_;refine AW.aC rfl ?_;refine AW.seq (AW.region ?_);refine ae.call tok rfl rfl rfl rfl kq ?_;refine qU 1 rfl ?_;exact qN rfl
 | true =>
 obtain ⟨A,S⟩:=Mw hl ha hL;refine qU 6 rfl ?_;rw[ah];refine qU 1 rfl ?_;by_cases hn:l.joints.length=0
 · rw[beq_iff_eq.2 (show (l.joints.length:Int)=0 by omega)];refine qU 1 rfl ?_;refine ae.nil ?_;refine AW.aC rfl ?_;refine AW.seq (AW.region ?_);refine ae.call tok rfl rfl rfl rfl kq ?_;refine qU 1 rfl ?_;exact qN rfl
 rw[beq_eq_false_iff_ne.2 (show (l.joints.length:Int)≠0 by omega)];obtain ⟨A',r1,r2⟩:=GV A (by omega);have hr:=Ce A;have hr':=Ce A';have c1:=Bl A;have c2:=Bl A';have hb8:=A.O.G.lk.b8;have gj:=getM bm.D (l:=l.joints) (i:=l.joints.length-1) (by omega);have gk:=(A.O.G.lk.j (l.joints.length-1) (by omega)).k;unfold DZ at r2;generalize H4 (CB l (l.joints.take (l.joints.length-1))) a=ra at *;generalize H4 l a=rb at *;clear A A' S cv hl ha hL;obtain ⟨ln,lb,js,lds⟩:=l;obtain ⟨rt,bs,md⟩:=a;unfold CB at c2;simp only[] at *;generalize js.getD (js.length-1) default=jl at *;refine qU 1 rfl ?_;refine ae.nil ?_;refine AW.aD rfl ?_;refine AW.skip (qX 3 rfl ?_);refine qK 5 rfl ?_;rw[ah];refine qU 1 rfl ?_;rw[aG (x:=(js.length:Int) -1) (by omega) (by omega)];refine ae.B7 tok rfl rfl rfl rfl trivial (show (0:Int)≤(js.length:Int) -1 by omega) (Nat.zero_le _) (show ((js.length:Int) -1).toNat≤(js.map bm.D).length by rw[ah];omega) ?_
 rw[show ((js.map bm.D).take (cI (js.map bm.D).length (some ((js.length:Int) -1)))).drop (fI none)=(js.take (js.length-1)).map bm.D from by
  show ((js.map bm.D).take ((js.length:Int) -1).toNat).drop 0=_;rw[List.drop_zero,← List.map_take]
  congr 2;omega]
 refine qU 2 rfl ?_;refine qK 2 rfl ?_;refine ae.call tok rfl rfl rfl rfl c1 ?_;refine qU 5 rfl ?_;refine qK 2 rfl ?_;refine ae.call tok rfl rfl rfl rfl c2 ?_;refine qU 5 rfl ?_;refine qK 1 rfl ?_;refine qI (qX 5 rfl ?_);rw[ah];refine qU 1 rfl ?_;rw[aG (x:=(js.length:Int) -1) (by omega) (by omega)];refine ae.idx tok jl.D rfl rfl rfl rfl (show (0:Int)≤(js.length:Int) -1 by omega) (by rw[show ((js.length:Int) -1).toNat=js.length-1 by omega];exact gj) ?_;refine qU 3 rfl ?_;by_cases hk:jl.kind=1
 · rw[if_pos hk] at r2;rw[beq_iff_eq.2 hk];refine ae.nil ?_;refine AW.aC rfl ?_;refine qT 1 rfl ?_;refine qK 1 rfl ?_;refine ae.err tok rfl rfl rfl rfl rfl ?_;refine qU 2 rfl ?_;refine ae.err tok rfl rfl rfl rfl rfl ?_;refine qU 5 rfl ?_;rw[aO (show 3*((lb.length:Int) -1) -(rb:Nat)≤3*((lb.length:Int) -1) -(ra:Nat) by omega)];refine qU 6 rfl ?_;rw[aG (x:=3*((lb.length:Int) -1) -(rb:Nat)+1) (by omega) (by omega)];refine qU 1 rfl ?_;rw[aO (show 3*((lb.length:Int) -1) -(ra:Nat)≤3*((lb.length:Int) -1) -(rb:Nat)+1 by omega)];refine qU 2 rfl ?_;exact qN rfl
 rw[if_neg hk] at r2;rw[beq_eq_false_iff_ne.2 hk];refine ae.nil ?_;refine AW.aD rfl ?_;refine AW.skip (qX 1 rfl ?_);refine ae.err tok rfl rfl rfl rfl rfl ?_;refine qU 2 rfl ?_;refine ae.err tok rfl rfl rfl rfl rfl ?_;refine qU 5 rfl ?_;rw[aO (show 3*((lb.length:Int) -1) -(rb:Nat)≤3*((lb.length:Int) -1) -(ra:Nat) by omega)];refine qU 6 rfl ?_;rw[aG (x:=3*((lb.length:Int) -1) -(rb:Nat)+2) (by omega) (by omega)];refine qU 1 rfl ?_;rw[aO (show 3*((lb.length:Int) -1) -(ra:Nat)≤3*((lb.length:Int) -1) -(rb:Nat)+2 by omega)];refine qU 2 rfl ?_;exact qN rfl
end Lift

